/-
  Texts of the proof, part 1 of 6: what is used to prove the statement. No condition.
-/
import Derived.WalkKit
import Derived.Lib.Hide
import Derived.Deep.QuietTactic
namespace Prod
variable {A0 A1 A2 A3 A4 A5 A6 A7 A8 A9 A10 A11 Ki A13 A14 A15 A16 A17 A18 A19 A20 A21 A22 A23 A24:Type}
abbrev p2 (x:A0×A1×A2×A3):A2:=x.2.2.1
abbrev p3 (x:A0×A1×A2×A3×A4):A3:=x.2.2.2.1
abbrev q3 (x:A0×A1×A2×A3):A3:=x.2.2.2
abbrev p4 (x:A0×A1×A2×A3×A4×A5):A4:=x.2.2.2.2.1
abbrev q4 (x:A0×A1×A2×A3×A4):A4:=x.2.2.2.2
abbrev p5 (x:A0×A1×A2×A3×A4×A5×A6):A5:=x.2.2.2.2.2.1
abbrev q5 (x:A0×A1×A2×A3×A4×A5):A5:=x.2.2.2.2.2
abbrev p6 (x:A0×A1×A2×A3×A4×A5×A6×A7):A6:=x.2.2.2.2.2.2.1
abbrev q6 (x:A0×A1×A2×A3×A4×A5×A6):A6:=x.2.2.2.2.2.2
abbrev p7 (x:A0×A1×A2×A3×A4×A5×A6×A7×A8):A7:=x.2.2.2.2.2.2.2.1
abbrev q7 (x:A0×A1×A2×A3×A4×A5×A6×A7):A7:=x.2.2.2.2.2.2.2
abbrev p8 (x:A0×A1×A2×A3×A4×A5×A6×A7×A8×A9):A8:=x.2.2.2.2.2.2.2.2.1
abbrev q8 (x:A0×A1×A2×A3×A4×A5×A6×A7×A8):A8:=x.2.2.2.2.2.2.2.2
abbrev p9 (x:A0×A1×A2×A3×A4×A5×A6×A7×A8×A9×A10):A9:=x.2.2.2.2.2.2.2.2.2.1
abbrev q9 (x:A0×A1×A2×A3×A4×A5×A6×A7×A8×A9):A9:=x.2.2.2.2.2.2.2.2.2
abbrev p10 (x:A0×A1×A2×A3×A4×A5×A6×A7×A8×A9×A10×A11):A10:=x.2.2.2.2.2.2.2.2.2.2.1
abbrev q10 (x:A0×A1×A2×A3×A4×A5×A6×A7×A8×A9×A10):A10:=x.2.2.2.2.2.2.2.2.2.2
abbrev p11 (x:A0×A1×A2×A3×A4×A5×A6×A7×A8×A9×A10×A11×Ki):A11:=x.2.2.2.2.2.2.2.2.2.2.2.1
abbrev q11 (x:A0×A1×A2×A3×A4×A5×A6×A7×A8×A9×A10×A11):A11:=x.2.2.2.2.2.2.2.2.2.2.2
abbrev p12 (x:A0×A1×A2×A3×A4×A5×A6×A7×A8×A9×A10×A11×Ki×A13):Ki:=x.2.2.2.2.2.2.2.2.2.2.2.2.1
abbrev q12 (x:A0×A1×A2×A3×A4×A5×A6×A7×A8×A9×A10×A11×Ki):Ki:=x.2.2.2.2.2.2.2.2.2.2.2.2
abbrev p13 (x:A0×A1×A2×A3×A4×A5×A6×A7×A8×A9×A10×A11×Ki×A13×A14):A13:=x.2.2.2.2.2.2.2.2.2.2.2.2.2.1
abbrev q13 (x:A0×A1×A2×A3×A4×A5×A6×A7×A8×A9×A10×A11×Ki×A13):A13:=x.2.2.2.2.2.2.2.2.2.2.2.2.2
abbrev p14 (x:A0×A1×A2×A3×A4×A5×A6×A7×A8×A9×A10×A11×Ki×A13×A14×A15):A14:=x.2.2.2.2.2.2.2.2.2.2.2.2.2.2.1
abbrev q14 (x:A0×A1×A2×A3×A4×A5×A6×A7×A8×A9×A10×A11×Ki×A13×A14):A14:=x.2.2.2.2.2.2.2.2.2.2.2.2.2.2
abbrev p15 (x:A0×A1×A2×A3×A4×A5×A6×A7×A8×A9×A10×A11×Ki×A13×A14×A15×A16):A15:=x.2.2.2.2.2.2.2.2.2.2.2.2.2.2.2.1
abbrev p16 (x:A0×A1×A2×A3×A4×A5×A6×A7×A8×A9×A10×A11×Ki×A13×A14×A15×A16×A17):A16:=x.2.2.2.2.2.2.2.2.2.2.2.2.2.2.2.2.1
abbrev q16 (x:A0×A1×A2×A3×A4×A5×A6×A7×A8×A9×A10×A11×Ki×A13×A14×A15×A16):A16:=x.2.2.2.2.2.2.2.2.2.2.2.2.2.2.2.2
abbrev p17 (x:A0×A1×A2×A3×A4×A5×A6×A7×A8×A9×A10×A11×Ki×A13×A14×A15×A16×A17×A18):A17:=x.2.2.2.2.2.2.2.2.2.2.2.2.2.2.2.2.2.1
abbrev q17 (x:A0×A1×A2×A3×A4×A5×A6×A7×A8×A9×A10×A11×Ki×A13×A14×A15×A16×A17):A17:=x.2.2.2.2.2.2.2.2.2.2.2.2.2.2.2.2.2
abbrev p18 (x:A0×A1×A2×A3×A4×A5×A6×A7×A8×A9×A10×A11×Ki×A13×A14×A15×A16×A17×A18×A19):A18:=x.2.2.2.2.2.2.2.2.2.2.2.2.2.2.2.2.2.2.1
abbrev q18 (x:A0×A1×A2×A3×A4×A5×A6×A7×A8×A9×A10×A11×Ki×A13×A14×A15×A16×A17×A18):A18:=x.2.2.2.2.2.2.2.2.2.2.2.2.2.2.2.2.2.2
abbrev p19 (x:A0×A1×A2×A3×A4×A5×A6×A7×A8×A9×A10×A11×Ki×A13×A14×A15×A16×A17×A18×A19×A20):A19:=x.2.2.2.2.2.2.2.2.2.2.2.2.2.2.2.2.2.2.2.1
abbrev p20 (x:A0×A1×A2×A3×A4×A5×A6×A7×A8×A9×A10×A11×Ki×A13×A14×A15×A16×A17×A18×A19×A20×A21):A20:=x.2.2.2.2.2.2.2.2.2.2.2.2.2.2.2.2.2.2.2.2.1
abbrev q21 (x:A0×A1×A2×A3×A4×A5×A6×A7×A8×A9×A10×A11×Ki×A13×A14×A15×A16×A17×A18×A19×A20×A21):A21:=x.2.2.2.2.2.2.2.2.2.2.2.2.2.2.2.2.2.2.2.2.2
end Prod
namespace Go.Proofs.YtiaemgcbndhkfaaGreatDoor.AI
open Go.RowKit
set_option maxRecDepth 100000
set_option maxHeartbeats 4000000
set_option linter.unusedVariables false
set_option linter.unusedSimpArgs false
open Act renaming put→MY
open _root_.Array renaming length_toList→iw,replicate→og
open _root_.Bool renaming true→M,false→aa
open _root_.Int renaming toNat→aO,ofNat→aT,tmod→bu
open IntKind renaming wrap→oL
open _root_.List renaming length→ah,replicate→aA,length_singleton→c9,take→dj,toArray→eR,range→gx,getElem?_cons_zero→lD
open _root_.Nat renaming beq→ax,testBit→aP,ble→dP,blt→eQ,min→iQ
open Oper renaming wp→GY
open _root_.Option renaming some→Z,none→U,bind_some→aD
open Region renaming wanted→iL,binds→yY,ready→GV
open _root_.Sum renaming inr→bZ,inl→pM
open Utf8 renaming decode→xJ
open World renaming shape?→rk,cell?→MW
noncomputable section
abbrev Y:=@List
abbrev J:=@Option
abbrev aM:=@if_neg
abbrev aW:=@if_pos
abbrev bf:=@of_decide_eq_true
abbrev bl:=@decide_eq_true
abbrev bB:=@decide_eq_true_eq
abbrev bF:=@decide_eq_false
abbrev bH:=@if_true
abbrev cP:=@beq_self_eq_true
abbrev cQ:=@beq_iff_eq
abbrev dh:=@decide_false
abbrev dx:=@if_false
abbrev dK:=@decide_true
abbrev dR:=@absurd
abbrev gK:=@or_false
abbrev i_:=@congrArg
abbrev jF:=@of_decide_eq_false
abbrev AH:=@true_and
abbrev af:=@Option.some.injEq
abbrev ak:=@Bool.and_eq_true
abbrev au:=@Nat.eq_of_beq_eq_true
abbrev aw:=@List.getElem?_eq_getElem
abbrev ay:=@List.getD_eq_getElem?_getD
abbrev aC:=@Prod.mk.injEq
abbrev aI:=@List.mem_singleton
abbrev bc:=@Nat.le_of_ble_eq_true
abbrev bi:=@List.mem_of_getElem?
abbrev bk:=@List.getElem?_map
abbrev bo:=@List.getElem?_eq_some_iff
abbrev bw:=@Nat.ble_eq_true_of_le
abbrev bx:=@List.mem_cons
abbrev bz:=@Nat.testBit_or
abbrev bK:=@List.getElem?_eq_none
abbrev bM:=@Nat.zero_add
abbrev bN:=@Nat.lt_or_ge
abbrev bO:=@Bool.false_eq_true
abbrev bP:=@List.mem_append
abbrev bS:=@List.take_length
abbrev bV:=@List.getElem?_append_left
abbrev b7:=@List.length_append
abbrev ca:=@List.getElem?_append_right
abbrev cg:=@List.length_take
abbrev cq:=@Array.getElem?_toList
abbrev cr:=@Array.getElem?_eq_some_iff
abbrev cz:=@List.length_map
abbrev cA:=@Nat.mul_le_mul_right
abbrev cB:=@List.length_replicate
abbrev cC:=@List.getElem?_take
abbrev cH:=@List.not_mem_nil
abbrev cN:=@Nat.le_refl
abbrev cY:=@Nat.le_trans
abbrev cZ:=@List.mem_map
abbrev c8:=@List.map_append
abbrev dk:=@List.mem_cons_of_mem
abbrev dz:=@Nat.lt_of_lt_of_le
abbrev dA:=@List.ext_getElem
abbrev ec:=@Bool.not_eq_true'
abbrev ep:=@List.mem_cons_self
abbrev ey:=@Int.natCast_nonneg
abbrev eS:=@List.getElem?_of_mem
abbrev eY:=@List.map_cons
abbrev fb:=@Int.le_refl
abbrev fx:=@List.flatMap_cons
abbrev fH:=@List.mem_of_mem_take
abbrev fO:=@List.take_of_length_le
abbrev gm:=@List.all_eq_true
abbrev gr:=@List.length_take_le
abbrev gF:=@Array.getD_eq_getD_getElem?
abbrev gW:=@List.getElem?_drop
abbrev h_:=@Nat.ne_of_beq_eq_false
abbrev ij:=@Array.getElem?_eq_getElem
abbrev iy:=@Nat.le_succ_of_le
abbrev iz:=@List.append_assoc
abbrev iM:=@Option.isSome_iff_exists
abbrev iP:=@Nat.succ_mul
abbrev iR:=@List.cons.injEq
abbrev iS:=@Bool.or_eq_true
abbrev jp:=@List.mem_append_left
abbrev jq:=@List.length_eq_zero_iff
abbrev jE:=@Bool.and_self
abbrev jS:=@Option.map_eq_some_iff
abbrev jT:=@Nat.or_assoc
abbrev jU:=@List.foldl_append
abbrev jV:=@Bool.false_and
abbrev jZ:=@Option.some.inj
abbrev kx:=@List.mem_append_right
abbrev ky:=@List.getElem?_toArray
abbrev kF:=@List.length_drop
abbrev kL:=@Bool.true_and
abbrev li:=@List.take_append_of_le_length
abbrev lA:=@List.length_range
abbrev lB:=@List.getElem?_replicate
abbrev mi:=@Int.toNat_of_nonneg
abbrev mM:=@Nat.zero_le
abbrev nz:=@List.mem_range
abbrev nA:=@List.getElem_range
abbrev oe:=@List.append_nil
abbrev oJ:=@List.take_succ_eq_append_getElem
abbrev oK:=@List.getElem?_set
abbrev py:=@List.map_take
abbrev pH:=@Array.getElem?_setIfInBounds_ne
abbrev qy:=@Nat.lt_succ_self
abbrev qz:=@List.getElem_mem
abbrev qA:=@List.getElem_map
abbrev rq:=@Nat.eq_zero_or_pos
abbrev ru:=@Nat.beq_refl
abbrev rx:=@List.drop_of_length_le
abbrev sw:=@List.contains_iff_mem
abbrev sJ:=@List.size_toArray
abbrev uc:=@Bool.and_eq_true_iff
abbrev uq:=@List.mem_flatMap
abbrev ur:=@List.getElem_set
abbrev ut:=@List.drop_append
abbrev vg:=@List.getElem?_range
abbrev vh:=@List.drop_succ_cons
abbrev wg:=@Nat.add_assoc
abbrev wh:=@List.eq_of_mem_replicate
abbrev wj:=@Nat.not_lt_zero
abbrev xK:=@Nat.zero_or
abbrev y_:=@Nat.sub_self
abbrev za:=@Nat.lt_succ_of_lt
abbrev Df:=@List.replicate_succ'
abbrev Dg:=@List.drop_append_of_le_length
abbrev Ey:=@Nat.min_eq_left
abbrev Ez:=@List.mem_filter
abbrev EA:=@List.length_set
abbrev GZ:=@Nat.mul_comm
abbrev G0:=@List.map_map
abbrev Km:=@Array.ext'
abbrev MX:=@Nat.add_mul
abbrev η:=Y Int
abbrev ζ:=Y UInt8
abbrev θ:=Y Bool
abbrev ι:=Y Nat
abbrev ξ:=Y Value
abbrev ω:=Int×Int×Int×Int×Int×Int
abbrev υ:=Int×Int×Int×Int×Int
abbrev π:=Int×Int×Int×Int
abbrev ν:=Int×Int×Int
abbrev Γ:=Int×Int
inductive FV where
 |raw (v:Value)
 |sl (cells:List FV) (n:Nat)
 |ptr (cells:List FV) (off:Nat)
 |agg (cells:List FV)
inductive AV where
 |f (x:FV)
 |ptr (id off:Nat)
 |sl (id off n:Nat)
 |row (id sz n:Nat)
 |mp (id:Nat)
 |emp
 |anyb
 |ful (cells:List FV) (n:Nat)
 |agg (cells:List AV)
 |tup (vs:List AV)
 |clo (g:FuncId) (cap:List AV)
def FV.isCell:FV->Bool
 |.raw v=>v.oneCell'
 |.sl _ _=>M
 |.ptr _ _=>M
 |.agg _=>aa
def AV.isCell:AV->Bool
 |.f x=>x.isCell
 |.ptr _ _=>M
 |.sl _ _ _=>M
 |.row _ _ _=>M
 |.mp _=>M
 |.emp=>M
 |.clo _ _=>M
 |_=>aa
inductive mA (O:Nat->Prop) (w:World):FV->Value->Prop
 |raw (v:Value):mA O w (.raw v) v
 |nil (a:Option Addr) (c:Nat) (hc:c<=maxLen):mA O w (.sl [] 0) (.slice a 0 c)
 |sl (cells:List FV) (n c b off:Nat) (us:Nat->Value) (hn:n<=c) (hc:c<=maxLen) (hO:¬O b) (hb:b<w.heap.size)
   (hcl:∀x∈cells,x.isCell=M)
   (hu:∀j,j<cells.length->w.cell? ⟨b,off+j,U⟩=Z (us j)) (hr:∀(j:Nat) x,cells[j]? =Z x->mA O w x (us j)):
   mA O w (.sl cells n) (.slice (Z ⟨b,off,U⟩) n c)
 |ptr (cells:List FV) (o b off:Nat) (us:Nat->Value) (hO:¬O b) (hb:b<w.heap.size)
   (hcl:∀x∈cells,x.isCell=M)
   (hu:∀j,j<cells.length->w.cell? ⟨b,off+j,U⟩=Z (us j)) (hr:∀(j:Nat) x,cells[j]? =Z x->mA O w x (us j)):
   mA O w (.ptr cells o) (.pointer (Z ⟨b,off+o,U⟩))
 |agg (cells:List FV) (vs:ξ) (hl:vs.length=cells.length) (hcl:∀x∈cells,x.isCell=M)
   (hr:∀(j:Nat) x v,cells[j]? =Z x->vs[j]? =Z v->mA O w x v):mA O w (.agg cells) (.agg vs.toArray)
abbrev PM:=Nat->J Nat
inductive cK (φ:PM) (O:Nat->Prop) (w:World):AV->Value->Prop
 |f {x:FV} {v:Value} (h:mA O w x v):cK φ O w (.f x) v
 |ptr {id off b:Nat} (h:φ id=Z b):cK φ O w (.ptr id off) (.pointer (Z ⟨b,off,U⟩))
 |sl {id off n c b:Nat} (h:φ id=Z b) (hn:n<=c) (hc:c<=maxLen):cK φ O w (.sl id off n) (.slice (Z ⟨b,off,U⟩) n c)
 |row {id sz n c b:Nat} (h:φ id=Z b) (hn:n<=c) (hc:c<=maxLen) (hs:∃ty,w.shape? b=Z (ty,c*sz)):
   cK φ O w (.row id sz n) (.slice (Z ⟨b,0,U⟩) n c)
 |emp {a:Option Addr}:cK φ O w .emp (.slice a 0 0)
 |anyb {b:Bool}:cK φ O w .anyb (.bool b)
 |ful {cells:List FV} {n:Nat} {a:Option Addr} (h:mA O w (.sl cells n) (.slice a n n)):cK φ O w (.ful cells n) (.slice a n n)
 |mp {id b:Nat} (h:φ id=Z b):cK φ O w (.mp id) (.map (Z b))
 |agg {cells:List AV} {vs:ξ} (hl:vs.length=cells.length) (hcl:∀x∈cells,x.isCell=M)
   (hr:∀(j:Nat) x v,cells[j]? =Z x->vs[j]? =Z v->cK φ O w x v):cK φ O w (.agg cells) (.agg vs.toArray)
 |tup {cells:List AV} {vs:ξ} (hl:vs.length=cells.length)
   (hr:∀(j:Nat) x v,cells[j]? =Z x->vs[j]? =Z v->cK φ O w x v):cK φ O w (.tup cells) (.tuple vs.toArray)
 |clo {g:FuncId} {cells:List AV} {vs:ξ} (hl:vs.length=cells.length)
   (hr:∀(j:Nat) x v,cells[j]? =Z x->vs[j]? =Z v->cK φ O w x v):cK φ O w (.clo g cells) (.func (.func g) #[] vs.toArray)
structure GP (O:Nat->Prop) (w w':World):Prop where
 os:w'.os=w.os
 tape:w'.tape=w.tape
 output:w'.output=w.output
 size:w.heap.size<=w'.heap.size
 blk:∀k,k<w.heap.size->¬O k->w'.heap[k]? =w.heap[k]?
 shp:∀k,k<w.heap.size->w'.shape? k=w.shape? k
theorem GP.refl (O:Nat->Prop) (w:World):GP O w w:=⟨rfl,rfl,rfl,cN _,λ_ _ _=>rfl,λ_ _=>rfl⟩
theorem C5 {w w':World} {b:Nat} (h:w'.heap[b]? =w.heap[b]?) (o:Nat):w'.cell? ⟨b,o,U⟩=w.cell? ⟨b,o,U⟩:=by
 unfold MW;rw[h]
theorem mA.ext {O O':Nat->Prop} {w w':World} (he:GP O w w') (q:∀k,k<w.heap.size->O' k->O k) {x:FV} {v:Value} (h:mA O w x v):mA O' w' x v:=by
 induction h with
 |raw v=>exact .raw v
 |nil a c hc=>exact .nil a c hc
 |sl cells n c b off us hn hc hO hb hcl hu hr d=>
  exact .sl cells n c b off us hn hc (λh=>hO (q b hb h)) (dz hb he.size) hcl (λj hj=>by rw[C5 (he.blk b hb hO)];exact hu j hj) d
 |ptr cells o b off us hO hb hcl hu hr d=>
  exact .ptr cells o b off us (λh=>hO (q b hb h)) (dz hb he.size) hcl (λj hj=>by rw[C5 (he.blk b hb hO)];exact hu j hj) d
 |agg cells vs hl hcl hr d=>exact .agg cells vs hl hcl d
theorem cK.ext {φ φ':PM} {O O':Nat->Prop} {w w':World} (hs:∀i k,φ i=Z k->φ' i=Z k) (he:GP O w w') (q:∀k,k<w.heap.size->O' k->O k) {x:AV} {v:Value} (h:cK φ O w x v):cK φ' O' w' x v:=by
 induction h with
 |f h=>exact .f (h.ext he q)
 |ptr h=>exact .ptr (hs _ _ h)
 |sl h hn hc=>exact .sl (hs _ _ h) hn hc
 |row h hn hc hsh=>
  obtain⟨ty,hty⟩:=hsh;refine .row (hs _ _ h) hn hc ⟨ty,?_⟩;rw[he.shp _ ?_];exact hty;unfold rk at hty;rcases bN _ w.heap.size with hlt|hge
  .exact hlt
  .rw[Array.getElem?_eq_none hge]at hty;cases hty
 |emp=>exact .emp
 |anyb=>exact .anyb
 |ful h=>exact .ful (h.ext he q)
 |mp h=>exact .mp (hs _ _ h)
 |agg hl hcl hr d=>exact .agg hl hcl d
 |tup hl hr d=>exact .tup hl d
 |clo hl hr d=>exact .clo hl d
inductive BC where
 |fz (l:List FV)
 |mx (l:List AV)
 |mp (es:List (Value×AV))
 |it (s:ByteArray) (pos:Nat)
def BC.get:BC->Nat->J AV
 |.fz l,j=>l[j]?.map AV.f
 |.mx l,j=>l[j]?
 |_,_=>U
def BC.len:BC->Nat
 |.fz l=>l.length
 |.mx l=>l.length
 |_=>0
def BC.isCells:BC->Bool
 |.fz _=>M
 |.mx _=>M
 |_=>aa
structure u_ where
 ty:TypeId
 c:BC
abbrev HF:=Nat->J u_
def own (φ:PM) (h:HF) (k:Nat):Prop:=∃id b,h id=Z b/\φ id=Z k
def tot (E:Nat->Prop) (φ:PM) (h:HF) (k:Nat):Prop:=E k\/own φ h k
def uN (φ:PM) (O:Nat->Prop) (w:World) (c:BC) (arr:Array Value):Prop:=
 c.len<=arr.size/\∀j x,c.get j=Z x->x.isCell=M/\∃v,arr[j]? =Z v/\cK φ O w x v
def kn (k:Value):Y MapEntry->Value
 |[]=>.slice U 0 0
 |m::r=>match m.key,k with
  |.int .i64 a,.int .i64 b=>if a=b then m.val else kn k r
  |_,_=>kn k r
def vE (k:Value):Prop:=∃n:Int,k= .int .i64 n
def VO (ty:TypeId) (es:Y (Value×AV)) (ents:Array MapEntry):Prop:=if ty=0 then ents.toList.map (·.key)=es.map (·.1) else (∀m∈ents.toList,vE m.key)/\∀k∈es.map (·.1),vE k
def MpV (ty:TypeId) (ents:Array MapEntry) (j:Nat) (k v:Value):Prop:=if ty=0 then ∃m,ents[j]? =Z m/\v=m.val else v=kn k ents.toList
def iY (φ:PM) (O:Nat->Prop) (w:World) (b:u_) (o:Obj):Prop:=
 match b.c with
 |.mp es=>∃ents clock,o= .map ents clock/\VO b.ty es ents/\∀(j:Nat) x,es[j]? =Z x->∃v,MpV b.ty ents j x.1 v/\cK φ O w x.2 v
 |.it s p=>o= .stringIter s p
 |c=>∃arr,o= .cells arr b.ty (0,0)/\uN φ O w c arr
def VU (φ:PM) (O:Nat->Prop) (w:World) (k:Nat) (b:u_):Prop:=∃o,w.heap[k]? =Z o/\iY φ O w b o
theorem VU.cells {φ:PM} {O:Nat->Prop} {w:World} {k:Nat} {b:u_} (h:VU φ O w k b) (hc:b.c.isCells=M):
 ∃arr,w.heap[k]? =Z (.cells arr b.ty (0,0))/\uN φ O w b.c arr:=by
 obtain⟨o,h1,h2⟩:=h;unfold iY at h2;cases hb:b.c with
 |fz l=>rw[hb]at h2;obtain⟨arr,rfl,d⟩:=h2;exact⟨arr,h1,d⟩
 |mx l=>rw[hb]at h2;obtain⟨arr,rfl,d⟩:=h2;exact⟨arr,h1,d⟩
 |mp _=>rw[hb]at hc;cases hc
 |it _ _=>rw[hb]at hc;cases hc
theorem iY.mono {φ φ':PM} {O O':Nat->Prop} {w w':World} (hk:∀x v,cK φ O w x v->cK φ' O' w' x v) {b:u_} {o:Obj} (h:iY φ O w b o):iY φ' O' w' b o:=by
 unfold iY at h ⊢;cases hb:b.c with
 |fz l=>rw[hb]at h;obtain⟨arr,h1,h2,z⟩:=h;exact⟨arr,h1,h2,λj x q=>by obtain⟨a,v,c,d⟩:=z j x q;exact⟨a,v,c,hk _ _ d⟩⟩
 |mx l=>rw[hb]at h;obtain⟨arr,h1,h2,z⟩:=h;exact⟨arr,h1,h2,λj x q=>by obtain⟨a,v,c,d⟩:=z j x q;exact⟨a,v,c,hk _ _ d⟩⟩
 |mp es=>rw[hb]at h;obtain⟨e,c,h1,h2,z⟩:=h;exact⟨e,c,h1,h2,λj x q=>by obtain⟨m,a,b⟩:=z j x q;exact⟨m,a,hk _ _ b⟩⟩
 |it s p=>rw[hb]at h;exact h
theorem uN.mono {φ φ':PM} {O O':Nat->Prop} {w w':World} (hk:∀x v,cK φ O w x v->cK φ' O' w' x v) {c:BC} {arr:Array Value} (h:uN φ O w c arr):uN φ' O' w' c arr:=
 ⟨h.1,λj x q=>by obtain⟨a,v,c,d⟩:=h.2 j x q;exact⟨a,v,c,hk _ _ d⟩⟩
def uf (l:ζ):FV:=.raw (.string ⟨l.toArray⟩)
def B4:Y FV:=[uf [118,97,114],uf [118,111,108,97,116,105,108,101],uf [109,117,116,101,120],uf [114,119,108,111,99,107],uf [99,111,110,100],uf [102,117,116,117,114,101],uf [116,104,114,101,97,100],uf [105,102],uf [101,108,115,101],uf [119,104,105,108,101],uf [108,111,99,107],uf [114,101,97,100],uf [119,114,105,116,101],uf [116,114,97,110,115,97,99,116,105,111,110],uf [97,116,111,109,105,99],uf [119,97,105,116],uf [110,111,116,105,102,121],uf [110,111,116,105,102,121,97,108,108],uf [115,112,97,119,110],uf [106,111,105,110],uf [115,101,116],uf [103,101,116]]
def G (g:Nat):J (Y FV):=if g==0 then Z B4 else U
structure qI (φ:PM) (E:Nat->Prop) (h:HF) (w:World):Prop where
 inj:∀i j b b' k,h i=Z b->h j=Z b'->φ i=Z k->φ j=Z k->i=j
 at_:∀i b,h i=Z b->∃k,φ i=Z k/\¬E k/\VU φ (tot E φ h) w k b
 el:∀k,E k->k<w.heap.size
 gl:∀g cells,G g=Z cells->mA (tot E φ h) w (.ptr cells 0) (.pointer (Z ⟨g,0,U⟩))
structure iZ (φ φ':PM) (h h':HF) (w w':World):Prop where
 sub:∀i k,φ i=Z k->φ' i=Z k
 ext:GP (own φ h) w w'
 own_:∀k,k<w.heap.size->own φ' h' k->own φ h k
theorem iZ.refl (φ:PM) (h:HF) (w:World):iZ φ φ h h w w:=⟨λ_ _ h=>h,GP.refl _ _,λ_ _ h=>h⟩
theorem iZ.trans {φ φ' φ'':PM} {h h' h'':HF} {w w' w'':World} (m:iZ φ φ' h h' w w') (n:iZ φ' φ'' h' h'' w' w''):iZ φ φ'' h h'' w w'' where
 sub:=λi k e=>n.sub i k (m.sub i k e)
 ext:=⟨n.ext.os.trans m.ext.os,n.ext.tape.trans m.ext.tape,n.ext.output.trans m.ext.output,cY m.ext.size n.ext.size,
  λk hk d=>(n.ext.blk k (dz hk m.ext.size) (λh=>d (m.own_ k hk h))).trans (m.ext.blk k hk d),
  λk hk=>(n.ext.shp k (dz hk m.ext.size)).trans (m.ext.shp k hk)⟩
 own_:=λk hk h=>m.own_ k hk (n.own_ k (dz hk m.ext.size) h)
theorem GP.mono {O O':Nat->Prop} {w w':World} (h:GP O w w') (d:∀k,O k->O' k):GP O' w w':=
 ⟨h.os,h.tape,h.output,h.size,λk hk hO=>h.blk k hk (λx=>hO (d k x)),h.shp⟩
theorem iZ.keep {φ φ':PM} {h h':HF} {w w':World} (m:iZ φ φ' h h' w w') {E:Nat->Prop} {x:AV} {v:Value} (r:cK φ (tot E φ h) w x v):cK φ' (tot E φ' h') w' x v:=
 r.ext m.sub (m.ext.mono λ_ h=>.inr h) λk hk d=>d.elim .inl λo=>.inr (m.own_ k hk o)
theorem iZ.keepF {φ φ':PM} {h h':HF} {w w':World} (m:iZ φ φ' h h' w w') {E:Nat->Prop} {x:FV} {v:Value} (r:mA (tot E φ h) w x v):mA (tot E φ' h') w' x v:=
 r.ext (m.ext.mono λ_ h=>.inr h) λk hk d=>d.elim .inl λo=>.inr (m.own_ k hk o)
abbrev EF:=Nat->J AV
def MS (φ:PM) (O:Nat->Prop) (w:World) (e:EF) (a:Act):Prop:=∀t x,e t=Z x->cK φ O w x (a.tmps.getD t undef)
def BT (e:EF) (dst:J Nat) (x:AV):EF:=λt=>if dst=Z t then Z x else e t
def eG (h:HF) (wr:ι) (nw:HF):HF:=λi=>if i∈wr then nw i else h i
structure AF where
 val:AV
 rd:ι
 wr:ι
 nw:HF
 N:ι
def gD (P:Program) (o:Oper) (e:EF) (h:HF) (f:AF):Prop:=
 ∀(φ:PM) (E:Nat->Prop) (h':HF) (w:World) (a:Act),(∀i∈f.rd,h' i=h i)->(∀i∈f.wr,h' i=h i)->
  (∀t,.tmp t∈o.op.operands->∀y,e t=Z y->cK φ (tot E φ h') w y (a.tmps.getD t undef))->qI φ E h' w->(∀n∈f.N,φ n=U)->
  o.wp P a w (λa' w'=>∃v φ',a'=a.put o.dst v/\iZ φ φ' h' (eG h' f.wr f.nw) w w'/\(∀i k,φ' i=Z k->φ i=Z k\/i∈f.N)/\
   qI φ' E (eG h' f.wr f.nw) w'/\cK φ' (tot E φ' (eG h' f.wr f.nw)) w' f.val v) (λ_ _ _=>False)
def ry:AF:=⟨.f (.raw undef),[],[],λ_=>U,[]⟩
inductive J2 (P:Program) (ops:Array Oper) (o:Oper) (f:AF) (e:EF) (h:HF):Prop
 |run (hg:o.guard=U) (ht:gD P o e h f)
 |runG (j t:Nat) (want:Bool) (hg:o.guard=Z (j,want)) (hj:(ops[j]?).bind (·.dst)=Z t) (he:e t=Z (.f (.raw (.bool want)))) (ht:gD P o e h f)
 |skip (j t:Nat) (want:Bool) (hg:o.guard=Z (j,want)) (hj:(ops[j]?).bind (·.dst)=Z t) (v:Value) (he:e t=Z (.f (.raw v))) (hv:v≠ .bool want) (hf:f=ry)
inductive yX (P:Program) (ops:Array Oper):List (Oper×AF)->EF->HF->EF->HF->Prop
 |nil (e:EF) (h:HF):yX P ops [] e h e h
 |cons {o:Oper} {f:AF} {r:List (Oper×AF)} {e e':EF} {h h':HF} (hs:J2 P ops o f e h)
   (hr:yX P ops r (BT e o.dst f.val) (eG h f.wr f.nw) e' h'):yX P ops ((o,f)::r) e h e' h'
def Ko (S:Nat->Bool):Nat->Y (Oper×AF)->EF->EF
 |_,[],e=>e
 |k,(o,f)::r,e=>Ko S (k+1) r (if S k then BT e o.dst f.val else e)
def By (S:Nat->Bool):Nat->Y (Oper×AF)->HF->HF
 |_,[],h=>h
 |k,(_,f)::r,h=>By S (k+1) r (if S k then eG h f.wr f.nw else h)
theorem Dp {S S':Nat->Bool} {t:Nat}:∀(l:Y (Oper×AF)) (k:Nat) (e e':EF),e t=e' t->
 (∀(j:Nat) o f,l[j]? =Z (o,f)->o.dst=Z t->S (k+j)=S' (k+j))->Ko S k l e t=Ko S' k l e' t
 |[],_,_,_,he,_=>he
 |(o,f)::r,k,e,e',he,d=>by
  simp only[Ko];refine Dp r (k+1) _ _ ?_ (λj o f hj hd=>by have:=d (j+1) o f (by simpa using hj) hd;rwa [show k+(j+1)=k+1+j from by omega]at this);by_cases hd:o.dst=Z t
  .rw[show S k=S' k from by simpa using d 0 o f rfl hd];split
   .simp[BT,hd]
   .exact he
  .split<;>split<;>simp[BT,hd,he]
theorem Do {S S':Nat->Bool} {t:Nat}:∀(l:Y (Oper×AF)) (k:Nat) (e e':HF),e t=e' t->
 (∀(j:Nat) o f,l[j]? =Z (o,f)->t∈f.wr->S (k+j)=S' (k+j))->By S k l e t=By S' k l e' t
 |[],_,_,_,he,_=>he
 |(o,f)::r,k,e,e',he,d=>by
  simp only[By];refine Do r (k+1) _ _ ?_ (λj o f hj hd=>by have:=d (j+1) o f (by simpa using hj) hd;rwa [show k+(j+1)=k+1+j from by omega]at this);by_cases hd:t∈f.wr
  .rw[show S k=S' k from by simpa using d 0 o f rfl hd];split
   .simp[eG,hd]
   .exact he
  .split<;>split<;>simp[eG,hd,he]
theorem BK {S:Nat->Bool} {t:Nat}:∀(l:Y (Oper×AF)) (k:Nat) (e:EF),(∀(j:Nat) o f,l[j]? =Z (o,f)->o.dst=Z t->S (k+j)=aa)->Ko S k l e t=e t
 |[],_,_,_=>rfl
 |(o,f)::r,k,e,d=>by
  simp only[Ko];rw[BK r (k+1) _ (λj o f hj hd=>by have:=d (j+1) o f (by simpa using hj) hd;rwa [show k+(j+1)=k+1+j from by omega]at this)];split
  .rename_i h;unfold BT;rw[aM];intro hd;have:=d 0 o f rfl hd;simp_all
  .rfl
theorem BJ {S:Nat->Bool} {t:Nat}:∀(l:Y (Oper×AF)) (k:Nat) (e:HF),(∀(j:Nat) o f,l[j]? =Z (o,f)->t∈f.wr->S (k+j)=aa)->By S k l e t=e t
 |[],_,_,_=>rfl
 |(o,f)::r,k,e,d=>by
  simp only[By];rw[BJ r (k+1) _ (λj o f hj hd=>by have:=d (j+1) o f (by simpa using hj) hd;rwa [show k+(j+1)=k+1+j from by omega]at this)];split
  .rename_i h;unfold eG;rw[aM];intro hd;have:=d 0 o f rfl hd;simp_all
  .rfl
theorem OR {S:Nat->Bool} {t:Nat}:∀(l:Y (Oper×AF)) (k i:Nat) (e:EF) (o:Oper) (f:AF),l[i]? =Z (o,f)->o.dst=Z t->S (k+i)=M->
 (∀(j:Nat) o' f',i<j->l[j]? =Z (o',f')->o'.dst=Z t->S (k+j)=aa)->Ko S k l e t=Z f.val
 |[],_,_,_,_,_,h,_,_,_=>by simp at h
 |(o',f')::r,k,0,e,o,f,h,hd,d,hl=>by
  simp only[lD,af,aC]at h;obtain⟨rfl,rfl⟩:=h;simp only[Ko];rw[BK r (k+1) _ (λj o f hj hd=>by have:=hl (j+1) o f (by omega) (by simpa using hj) hd;rwa [show k+(j+1)=k+1+j from by omega]at this)];simp at d;simp[d,BT,hd]
 |(o',f')::r,k,i+1,e,o,f,h,hd,d,hl=>by
  simp only[Ko];exact OR r (k+1) i _ o f (by simpa using h) hd (by rwa [show k+1+i=k+(i+1) from by omega])
   (λj o f hij hj hd=>by have:=hl (j+1) o f (by omega) (by simpa using hj) hd;rwa [show k+(j+1)=k+1+j from by omega]at this)
theorem OQ {S:Nat->Bool} {t:Nat}:∀(l:Y (Oper×AF)) (k i:Nat) (e:HF) (o:Oper) (f:AF),l[i]? =Z (o,f)->t∈f.wr->S (k+i)=M->
 (∀(j:Nat) o' f',i<j->l[j]? =Z (o',f')->t∈f'.wr->S (k+j)=aa)->By S k l e t=f.nw t
 |[],_,_,_,_,_,h,_,_,_=>by simp at h
 |(o',f')::r,k,0,e,o,f,h,hd,d,hl=>by
  simp only[lD,af,aC]at h;obtain⟨rfl,rfl⟩:=h;simp only[By];rw[BJ r (k+1) _ (λj o f hj hd=>by have:=hl (j+1) o f (by omega) (by simpa using hj) hd;rwa [show k+(j+1)=k+1+j from by omega]at this)];simp at d;simp[d,eG,hd]
 |(o',f')::r,k,i+1,e,o,f,h,hd,d,hl=>by
  simp only[By];exact OQ r (k+1) i _ o f (by simpa using h) hd (by rwa [show k+1+i=k+(i+1) from by omega])
   (λj o f hij hj hd=>by have:=hl (j+1) o f (by omega) (by simpa using hj) hd;rwa [show k+(j+1)=k+1+j from by omega]at this)
theorem yX.step {P:Program} {ops:Array Oper}:∀{l:Y (Oper×AF)} {e e':EF} {h h':HF} (_:yX P ops l e h e' h') (k i:Nat) (o:Oper) (f:AF),l[i]? =Z (o,f)->
 J2 P ops o f (Ko (λj=>decide (j<k+i)) k l e) (By (λj=>decide (j<k+i)) k l h):=by
 intro l e e' h h' hc;induction hc with
 |nil=>intro k i o f hi;simp at hi
 |@cons o1 d r e e' h h' hs hr q=>
  intro k i o f hi;cases i with
  |zero=>
   simp only[lD,af,aC]at hi;obtain⟨rfl,rfl⟩:=hi;have e1:Ko (λj=>decide (j<k+0)) k ((o1,d)::r) e=e:=by
    funext t;rw[BK];intro j o f _ _;simp
   have e2:By (λj=>decide (j<k+0)) k ((o1,d)::r) h=h:=by
    funext t;rw[BJ];intro j o f _ _;simp
   rw[e1,e2];exact hs
  |succ i=>
   have:=q (k+1) i o f (by simpa using hi);simp only[Ko,By];rw[show k+(i+1)=k+1+i from by omega];simpa[show k<k+1+i from by omega] using this
theorem yX.final {P:Program} {ops:Array Oper}:∀{l:Y (Oper×AF)} {e e':EF} {h h':HF} (_:yX P ops l e h e' h') (k:Nat) (S:Nat->Bool),(∀j,j<l.length->S (k+j)=M)->
 Ko S k l e=e'/\By S k l h=h':=by
 intro l e e' h h' hc;induction hc with
 |nil=>intro k S _;exact⟨rfl,rfl⟩
 |@cons o1 s r e e' h h' hs hr q=>
  intro k S d;have h0:S k=M:=by simpa using d 0 (by simp)
  simp only[Ko,By,h0,bH];exact q (k+1) S (λj hj=>by have:=d (j+1) (by simpa using hj);rwa [show k+(j+1)=k+1+j from by omega]at this)
theorem OH {P:Program} {o:Oper} {a:Act} {w:World} {K K':Act->World->Prop} {Q:Exit->Act->World->Prop} (h:∀a w,K a w->K' a w)
 (hh:o.wp P a w K (λ_ _ _=>False)):o.wp P a w K' Q:=by
 unfold GY at*
 generalize (execOp a.eval o).run P w=r at*
 cases r with
 |ok n w'=>
  cases n<;>simp only[Oper.upon]at hh ⊢<;>
   first
    |exact h _ _ hh
    |exact Calls.mono hh (λe w'' he=>by
      cases e with
      |returned v=>exact h _ _ he
      |panicked c=>exact he.elim
      |outgrown=>obtain⟨_,_,h⟩:=he;exact h.elim)
    |exact Rows.mono hh (λ_ _ he=>h _ _ he)
 |halt x w'=>cases x<;>simp only[Oper.upon]at hh ⊢<;>first|exact hh.elim|exact hh
inductive Bef (ops:Array Oper):Nat->Nat->Prop
 |one {j:Nat} {o:Oper} {e:Edge} (h:ops[j]? =Z o) (he:e∈o.after) (hb:yY .any e=M):Bef ops j e.on
 |more {j i:Nat} {o:Oper} {e:Edge} (h:ops[j]? =Z o) (he:e∈o.after) (hb:yY .any e=M) (hi:Bef ops e.on i):Bef ops j i
structure NIP (ops:Array Oper) (l:List (Oper×AF)):Prop where
 edge:∀(j:Nat) o,ops[j]? =Z o->∀e∈o.after,yY .any e=M->e.on<j
 pair:∀(i j:Nat) oi fi oj fj,i<j->l[i]? =Z (oi,fi)->l[j]? =Z (oj,fj)->Bef ops j i\/
  (oi.apart ops oj=M/\(∀x∈fi.wr,x∉fj.rd/\x∉fj.wr)/\(∀x∈fj.wr,x∉fi.rd))
 names:∀(i j:Nat) oi fi oj fj,i<j->l[i]? =Z (oi,fi)->l[j]? =Z (oj,fj)->∀n∈fi.N,n∉fj.N
def Ev (ops:Array Oper) (listed:Array Bool):Prop:=∀(j:Nat) o,ops[j]? =Z o->listed.getD j aa=M->∀e∈o.after,yY .any e=M->listed.getD e.on aa=M
theorem Ev.bef {ops:Array Oper} {listed:Array Bool} (hc:Ev ops listed) {j i:Nat} (h:Bef ops j i):listed.getD j aa=M->listed.getD i aa=M:=by
 induction h with
 |one h he hb=>intro hj;exact hc _ _ h hj _ he hb
 |more h he hb hi d=>intro hj;exact d (hc _ _ h hj _ he hb)
theorem V3 {ops:Array Oper} {listed:Array Bool} (hc:Ev ops listed) {j i:Nat} {o:Oper} (d:ops[j]? =Z o) (hr:∀e∈o.after,yY .any e=M->listed.getD e.on aa=M) (h:Bef ops j i):listed.getD i aa=M:=by
 cases h with
 |one h he hb=>rw[h]at d;cases d;exact hr _ he hb
 |more h he hb hi=>rw[h]at d;cases d;exact hc.bef hi (hr _ he hb)
theorem sj {listed:Array Bool} {j:Nat} (h:listed.getD j M=aa):listed.getD j aa=aa/\j<listed.size:=by
 rcases bN j listed.size with h1|h1
 .simp[h1]at h ⊢;exact h
 .simp[Array.getElem?_eq_none h1]at h
def StP (φ0:PM) (E:Nat->Prop) (e0:EF) (h0:HF) (w0:World) (a0:Act) (l:Y (Oper×AF)) (S:Nat->Bool) (a:Act) (w:World):Prop:=
 ∃φ,iZ φ0 φ h0 (By S 0 l h0) w0 w/\(∀i k,φ i=Z k->φ0 i=Z k\/∃(j:Nat) (o:Oper) (f:AF),S j=M/\l[j]? =Z (o,f)/\i∈f.N)/\
  qI φ E (By S 0 l h0) w/\MS φ (tot E φ (By S 0 l h0)) w (Ko S 0 l e0) a/\a.defers=a0.defers/\a.tmps.size=a0.tmps.size
theorem HB {a:Act} {dst:J Tmp} {v:Value} {t:Nat} (hd:∀d,dst=Z d->d<a.tmps.size):(a.put dst v).tmps.getD t undef=if dst=Z t then v else a.tmps.getD t undef:=by
 cases dst with
 |none=>simp[MY]
 |some d=>
  by_cases h:d=t
  .subst h;simp[MY,hd d rfl]
  .simp[MY,h,pH h]
theorem O8 {a:Act} {dst:J Tmp} {v:Value}:(a.put dst v).tmps.size=a.tmps.size:=by cases dst<;>simp[MY]
theorem HC {a:Act} {dst:J Tmp} {v:Value}:(a.put dst v).defers=a.defers:=by cases dst<;>rfl
theorem YF {P:Program} {ops:Array Oper} {l:Y (Oper×AF)} {e0 e':EF} {h0 h':HF} {φ0:PM} {E:Nat->Prop} {w0:World} {a0:Act}
 (hl:l.map (·.1)=ops.toList) (hc:yX P ops l e0 h0 e' h') (ni:NIP ops l) (hfr:∀(j:Nat) o f,l[j]? =Z (o,f)->∀n∈f.N,φ0 n=U)
 (hsz:∀(j:Nat) o,ops[j]? =Z o->∀d,o.dst=Z d->d<a0.tmps.size) {listed:Array Bool} (hcl:Ev ops listed) {i:Nat} (hi:i∈GV .any ops listed) {Q:Exit->Act->World->Prop} {K:Act->World->Prop}
 (hK:∀a w,StP φ0 E e0 h0 w0 a0 l (λj=>(listed.setIfInBounds i M).getD j aa) a w->K a w) {a:Act} {w:World} (hst:StP φ0 E e0 h0 w0 a0 l (λj=>listed.getD j aa) a w):
 wpOp P ops Q i K a w:=by
 obtain⟨hun,o,ho,hdeps⟩:=mem_ready.1 hi;obtain⟨hnf,hlt⟩:=sj hun;have hln:∀(j:Nat) o',ops[j]? =Z o'->∃f,l[j]? =Z (o',f):=λj o' h=>by
  have h1:(l.map (·.1))[j]? =Z o':=by rw[hl];simpa using h
  rw[bk]at h1;cases hj:l[j]? with
  |none=>rw[hj]at h1;cases h1
  |some p=>rw[hj]at h1;obtain⟨a,b⟩:=p;simp at h1;subst h1;exact⟨b,rfl⟩
 have hnl:∀(j:Nat) o' f,l[j]? =Z (o',f)->ops[j]? =Z o':=λj o' f h=>by
  have h1:(l.map (·.1))[j]? =Z o':=by rw[bk,h];rfl
  rw[hl]at h1;simpa using h1
 obtain⟨f,hf⟩:=hln i o ho;have hord:∀(j:Nat) oj fj,j≠i->l[j]? =Z (oj,fj)->(listed.getD j aa=decide (j<i))\/
  (o.apart ops oj=M\/oj.apart ops o=M)/\(∀x∈f.wr,x∉fj.rd/\x∉fj.wr)/\(∀x∈fj.wr,x∉f.rd/\x∉f.wr):=by
  intro j oj fj hji hj;rcases bN j i with h|h
  .rcases ni.pair j i oj fj o f h hj hf with hb|⟨h1,h2,L⟩
   .left;rw[V3 hcl ho hdeps hb];simp[h]
   .right;exact⟨.inr h1,λx q=>⟨L x q,λD=>(h2 x D).2 q⟩,λx q=>h2 x q⟩
  .have h:i<j:=by omega
   rcases ni.pair i j o f oj fj h hf hj with hb|⟨h1,h2,L⟩
   .left;have:listed.getD j aa=aa:=by
     cases q:listed.getD j aa with
     |false=>rfl
     |true=>have:=hcl.bef hb q;rw[hnf]at this;cases this
    rw[this];simp;omega
   .right;exact⟨.inl h1,λx q=>h2 x q,λx q=>⟨L x q,λD=>(h2 x D).2 q⟩⟩
 have s:∀j,(listed.setIfInBounds i M).getD j aa=if j=i then M else listed.getD j aa:=λj=>by
  by_cases h:i=j
  .subst h;simp[hlt]
  .rw[getD_set_ne aa h,aM (λe=>h e.symm)]
 have hlater:∀(j:Nat) oj fj,i<j->l[j]? =Z (oj,fj)->(listed.getD j aa=aa)\/((o.apart ops oj=M\/oj.apart ops o=M)/\(∀x∈f.wr,x∉fj.rd/\x∉fj.wr)):=by
  intro j oj fj hij hj;rcases hord j oj fj (by omega) hj with h|⟨h1,h2,_⟩
  .left;rw[h];simp;omega
  .right;exact⟨h1,h2⟩
 have hdd:∀{x y:Oper},(x.apart ops y=M\/y.apart ops x=M)->∀d,x.dst=Z d->y.dst≠Z d:=by
  intro x y h d hd he;rcases h with h|h
  .exact (Oper.apart_spec h).2.1 d hd he
  .exact (Oper.apart_spec h).2.1 d he hd
 have hlook:∀{x y:Oper},(x.apart ops y=M\/y.apart ops x=M)->∀d,y.dst=Z d->d∉x.looksAt ops:=by
  intro x y h d hd;rcases h with h|h
  .exact (Oper.apart_spec h).2.2 d hd
  .exact (Oper.apart_spec h).1 d hd
 have heL:∀t,t∈o.looksAt ops->Ko (λj=>listed.getD j aa) 0 l e0 t=Ko (λj=>decide (j<0+i)) 0 l e0 t:=λt ht=>by
  refine Dp l 0 e0 e0 rfl λj oj fj hj hd=>?_
  simp only[bM];by_cases hji:j=i
  .subst hji;rw[hnf];simp
  .rcases hord j oj fj hji hj with h|⟨h,_⟩
   .exact h
   .exact dR ht (hlook h t hd)
 have hhL:∀t,t∈f.rd\/t∈f.wr->By (λj=>listed.getD j aa) 0 l h0 t=By (λj=>decide (j<0+i)) 0 l h0 t:=λt ht=>by
  refine Do l 0 h0 h0 rfl λj oj fj hj hd=>?_
  simp only[bM];by_cases hji:j=i
  .subst hji;rw[hnf];simp
  .rcases hord j oj fj hji hj with h|⟨_,_,h⟩
   .exact h
   .rcases ht with ht|ht
    .exact dR ht (h t hd).1
    .exact dR ht (h t hd).2
 have hE':∀t,Ko (λj=>(listed.setIfInBounds i M).getD j aa) 0 l e0 t=if o.dst=Z t then Z f.val else Ko (λj=>listed.getD j aa) 0 l e0 t:=λt=>by
  by_cases hd:o.dst=Z t
  .rw[aW hd];refine OR l 0 i e0 o f hf hd (by simp[s]) λj o' f' hij hj A=>?_
   simp only[bM,s,aM (show ¬j=i by omega)];rcases hlater j o' f' hij hj with h|⟨h,_⟩
   .exact h
   .exact dR A (hdd h t hd)
  .rw[aM hd];refine Dp l 0 e0 e0 rfl λj oj fj hj A=>?_
   simp only[bM,s];rw[aM];intro hji;subst hji;rw[hf]at hj;cases hj;exact hd A
 have F:By (λj=>(listed.setIfInBounds i M).getD j aa) 0 l h0=eG (By (λj=>listed.getD j aa) 0 l h0) f.wr f.nw:=by
  funext t;unfold eG;by_cases hd:t∈f.wr
  .rw[aW hd];refine OQ l 0 i h0 o f hf hd (by simp[s]) λj o' f' hij hj A=>?_
   simp only[bM,s,aM (show ¬j=i by omega)];rcases hlater j o' f' hij hj with h|⟨_,h⟩
   .exact h
   .exact dR A (h t hd).2
  .rw[aM hd];refine Do l 0 h0 h0 rfl λj oj fj hj A=>?_
   simp only[bM,s];rw[aM];intro hji;subst hji;rw[hf]at hj;cases hj;exact hd A
 obtain⟨φ,hm,hdom,hrep,henv,hdef,hsize⟩:=hst;have hfrN:∀n∈f.N,φ n=U:=λn hn=>by
  cases q:φ n with
  |none=>rfl
  |some k=>
   rcases hdom n k q with h|⟨j,oj,fj,hSj,hj,hnj⟩
   .rw[hfr i o f hf n hn]at h;cases h
   .have hji:j≠i:=by intro h;subst h;exact dR hSj (by simp only[hnf];simp)
    rcases bN j i with h|h
    .exact dR hn (ni.names j i oj fj o f h hj hf n hnj)
    .exact dR hnj (ni.names i j o f oj fj (by omega) hf hj n hn)
 have hdsz:∀d,o.dst=Z d->d<a.tmps.size:=λd hd=>by rw[hsize];exact hsz i o ho d hd
 have main:∀(v:Value) (φ':PM) (w':World),iZ φ φ' (By (λj=>listed.getD j aa) 0 l h0) (eG (By (λj=>listed.getD j aa) 0 l h0) f.wr f.nw) w w'->
  (∀i k,φ' i=Z k->φ i=Z k\/i∈f.N)->qI φ' E (eG (By (λj=>listed.getD j aa) 0 l h0) f.wr f.nw) w'->
  cK φ' (tot E φ' (eG (By (λj=>listed.getD j aa) 0 l h0) f.wr f.nw)) w' f.val v->K (a.put o.dst v) w':=by
  intro v φ' w' m1 d1 r1 v1;refine hK _ _ ⟨φ',?_,?_,?_,?_,?_,?_⟩
  .rw[F];exact hm.trans m1
  .intro i' k h;rcases d1 i' k h with h|h
   .rcases hdom i' k h with h|⟨j,oj,fj,hSj,hj,hnj⟩
    .exact .inl h
    .refine .inr ⟨j,oj,fj,?_,hj,hnj⟩;show (listed.setIfInBounds i M).getD j aa=M;rw[s j];split
     .rfl
     .exact hSj
   .exact .inr ⟨i,o,f,(s i).trans (by simp),hf,h⟩
  .rw[F];exact r1
  .rw[F];intro t x q;rw[hE' t]at q;rw[HB hdsz];by_cases hd:o.dst=Z t
   .rw[aW hd]at q ⊢;cases q;exact v1
   .rw[aM hd]at q ⊢;exact m1.keep (henv t x q)
  .rw[HC];exact hdef
  .rw[O8];exact hsize
 have hstep:=hc.step 0 i o f hf;have hrun:gD P o (Ko (λj=>decide (j<0+i)) 0 l e0) (By (λj=>decide (j<0+i)) 0 l h0) f->o.wp P a w K Q:=by
  intro ht;refine OH ?_ (ht φ E (By (λj=>listed.getD j aa) 0 l h0) w a (λt h=>hhL t (.inl h)) (λt h=>hhL t (.inr h)) ?_ hrep hfrN)
  .rintro a' w' ⟨v,φ',rfl,m1,d1,r1,v1⟩;exact main v φ' w' m1 d1 r1 v1
  .intro t ht' y hy;refine henv t y ?_;rw[heL t (jp _ (List.mem_filterMap.2 ⟨.tmp t,by simpa using ht',rfl⟩))];exact hy
 have hyield:∀(j t:Nat) (want b:Bool),o.guard=Z (j,want)->(ops[j]?).bind (·.dst)=Z t->Ko (λj=>decide (j<0+i)) 0 l e0 t=Z (.f (.raw (.bool b)))->iL o (yielded ops a.tmps)=(b==want):=by
  intro j t want b hg hj he;rw[<- heL t (kx _ (by rw[hg];simp[hj]))]at he;have h1:=henv t _ he;have h2:a.tmps.getD t undef= .bool b:=by
   generalize I:a.tmps.getD t undef=z at h1;cases h1 with
   |f h=>cases h;rfl
  have L:a.tmps[t]? =Z (.bool b):=by
   rw[gF]at h2;cases I:a.tmps[t]? with
   |none=>rw[I]at h2;simp[undef]at h2
   |some z=>rw[I]at h2;simp at h2;rw[h2]
  unfold iL yielded;rw[hg];simp[hj,L]
 unfold wpOp;simp only[ho];cases hstep with
 |run hg ht=>
  rw[aW (by unfold iL;rw[hg])];exact .inl (hrun ht)
 |runG j t want hg hj he ht=>
  rw[aW (by rw[hyield j t want want hg hj he];simp)];exact .inl (hrun ht)
 |skip j t want hg hj v he hv hf'=>
  have hnw:iL o (yielded ops a.tmps)=aa:=by
   rw[<- heL t (kx _ (by rw[hg];simp[hj]))]at he;have h1:=henv t _ he;have h2:a.tmps.getD t undef=v:=by
    generalize a.tmps.getD t undef=z at h1;cases h1 with
    |f h=>cases h;rfl
   unfold iL yielded;rw[hg];simp only[hj,aD];rw[gF]at h2;cases I:a.tmps[t]? with
   |none=>simp
   |some z=>
    rw[I]at h2;simp at h2;subst h2;cases z<;>simp at hv ⊢;exact hv
  rw[aM (by rw[hnw];simp)];subst hf';have hu:eG (By (λj=>listed.getD j aa) 0 l h0) ry.wr ry.nw=By (λj=>listed.getD j aa) 0 l h0:=by
   funext t;simp[eG,ry]
  refine main undef φ w ?_ (λ_ _ h=>.inl h) ?_ ?_
  .rw[hu];exact iZ.refl _ _ _
  .rw[hu];exact hrep
  .exact .f (.raw _)
theorem WU {l:θ}:∀{i:Nat},l[i]? =Z aa->(l.set i M).countP id=l.countP id+1:=by
 induction l with
 |nil=>intro i h;simp at h
 |cons b l d=>
  intro i h;cases i with
  |zero=>simp at h;subst h;simp
  |succ i=>
   simp only[List.set_cons_succ,List.countP_cons];rw[d (by simpa using h)];omega
theorem On {l:θ} (h:l.length<=l.countP id):∀(j:Nat),j<l.length->l[j]? =Z M:=by
 have h1:l.countP id=l.length:=Nat.le_antisymm List.countP_le_length h;rw[List.countP_eq_length]at h1;intro j hj;rw[aw hj];simpa using h1 _ (qz hj)
theorem Ut {ops:Array Oper} {l:Y (Oper×AF)} (q:NIP ops l) {listed:Array Bool} (hs:listed.size=ops.size) (hr:GV .any ops listed=[]):
 ∀(n j:Nat),j<n->j<ops.size->listed.getD j aa=M:=by
 intro n;induction n with
 |zero=>intro j h;omega
 |succ n s=>
  intro j hj hjs;cases d:listed.getD j aa with
  |true=>rfl
  |false=>
   exfalso;have hmem:j∈GV .any ops listed:=by
    refine mem_ready.2 ⟨?_,ops[j],ij hjs,λe he hb=>?_⟩
    .have:j<listed.size:=by omega
     simp[this]at d ⊢;exact d
    .have h1:=q.edge j _ (ij hjs) e he hb;exact s e.on (by omega) (by omega)
   rw[hr]at hmem;cases hmem
theorem ML {P:Program} {ops:Array Oper} {l:Y (Oper×AF)} {e0 e':EF} {h0 h':HF} {φ0:PM} {E:Nat->Prop} {w0:World} {a0:Act}
 (hl:l.map (·.1)=ops.toList) (hc:yX P ops l e0 h0 e' h') (s:NIP ops l) (hfr:∀(j:Nat) o f,l[j]? =Z (o,f)->∀n∈f.N,φ0 n=U)
 (hsz:∀(j:Nat) o,ops[j]? =Z o->∀d,o.dst=Z d->d<a0.tmps.size) {Q:Exit->Act->World->Prop}
 (A:∀a w,StP φ0 E e0 h0 w0 a0 l (λ_=>M) a w->Q .normal a w):
 ∀(fuel:Nat) (listed:Array Bool) (a:Act) (w:World),listed.size=ops.size->Ev ops listed->ops.size<=fuel+listed.toList.countP id->
  StP φ0 E e0 h0 w0 a0 l (λj=>listed.getD j aa) a w->wpAny P .any ops Q fuel listed a w:=by
 have hlen:l.length=ops.size:=by have:=i_ ah hl;simpa using this
 have fin:∀(listed:Array Bool) (a:Act) (w:World),(∀j,j<ops.size->listed.getD j aa=M)->StP φ0 E e0 h0 w0 a0 l (λj=>listed.getD j aa) a w->Q .normal a w:=by
  intro listed a w hall hst;refine A a w ?_;have h1:=hc.final 0 (λj=>listed.getD j aa) (λj hj=>by simp only[bM];exact hall j (by omega));have h2:=hc.final 0 (λ_=>M) (λ_ _=>rfl);unfold StP at hst ⊢;rw[h1.1,h1.2]at hst;rw[h2.1,h2.2];obtain⟨φ,m,d,r⟩:=hst;refine ⟨φ,m,λi k h=>?_,r⟩;rcases d i k h with h|⟨j,o,f,_,hj,hn⟩
  .exact .inl h
  .exact .inr ⟨j,o,f,rfl,hj,hn⟩
 intro fuel;induction fuel with
 |zero=>
  intro listed a w hs hcl hcnt hst;have hall:∀j,j<ops.size->listed.getD j aa=M:=λj hj=>by
   have:=On (l:=listed.toList) (by simp only[iw];omega) j (by simp only[iw];omega);rw[cq]at this;rw[gF,this];rfl
  refine ⟨?_,fin listed a w hall hst⟩;cases hr:GV .any ops listed with
  |nil=>rfl
  |cons i r=>
   have hi:i∈GV .any ops listed:=by rw[hr];simp
   obtain⟨hun,o,q,_⟩:=mem_ready.1 hi;have hnf:=(sj hun).1;rw[hall i (cr.1 q).1]at hnf;cases hnf
 |succ fuel z=>
  intro listed a w hs hcl hcnt hst;refine ⟨λhr=>fin listed a w (λj hj=>Ut s hs hr (j+1) j (by omega) hj) hst,λi hi=>?_⟩;obtain⟨hun,o,q,hdeps⟩:=mem_ready.1 hi;obtain⟨hnf,hlt⟩:=sj hun;refine YF hl hc s hfr hsz hcl hi (λa' w' h=>z _ a' w' ?_ ?_ ?_ h) hst
  .simpa using hs
  .intro j oj hoj hj e he hb;by_cases hji:i=j
   .subst hji;rw[q]at hoj;cases hoj;exact getD_set_true (hdeps e he hb)
   .rw[getD_set_ne aa hji]at hj;exact getD_set_true (hcl j oj hoj hj e he hb)
  .have h1:listed.toList[i]? =Z aa:=by
    rw[cq,ij hlt];simp[hlt]at hnf;rw[hnf]
   rw[Array.toList_setIfInBounds,WU h1];omega
def akt (φ0:PM) (E:Nat->Prop) (e':EF) (h0 h':HF) (N:ι) (w0:World) (a0:Act) (a:Act) (w:World):Prop:=
 ∃φ,iZ φ0 φ h0 h' w0 w/\(∀i k,φ i=Z k->φ0 i=Z k\/i∈N)/\qI φ E h' w/\MS φ (tot E φ h') w e' a/\a.defers=a0.defers/\a.tmps.size=a0.tmps.size
theorem iZ.drew {φ:PM} {h:HF} (w:World):iZ φ φ h h w {w with drawn:=w.drawn+1}:=
 ⟨λ_ _ h=>h,⟨rfl,rfl,rfl,cN _,λ_ _ _=>rfl,λ_ _=>rfl⟩,λ_ _ h=>h⟩
theorem qI.moved {φ:PM} {E:Nat->Prop} {h:HF} {w w':World} (r:qI φ E h w) (m:iZ φ φ h h w w') (hk:∀k,own φ h k->w'.heap[k]? =w.heap[k]?):qI φ E h w':=
 ⟨r.inj,λi b hb=>by
   obtain⟨k,h1,h2,o,q,d⟩:=r.at_ i b hb;exact⟨k,h1,h2,o,by rw[hk k ⟨i,b,hb,h1⟩];exact q,d.mono λ_ _ h=>m.keep h⟩,λk hk=>dz (r.el k hk) m.ext.size,
   λg cells hg=>m.keepF (r.gl g cells hg)⟩
theorem O7 {P:Program} {ops:Array Oper} {l:Y (Oper×AF)} {e0 e':EF} {h0 h':HF} {φ0:PM} {E:Nat->Prop} {w0:World} {a0:Act} {id:Nat} {draw:Bool}
 (hm:P.follows .mixedOrders=M) (hl:l.map (·.1)=ops.toList) (hc:yX P ops l e0 h0 e' h') (q:NIP ops l) (hfr:∀n∈l.flatMap (λp=>p.2.N),φ0 n=U)
 (hsz:∀(j:Nat) o,ops[j]? =Z o->∀d,o.dst=Z d->d<a0.tmps.size) (hrep:qI φ0 E h0 w0) (henv:MS φ0 (tot E φ0 h0) w0 e0 a0) {Q:Exit->Act->World->Prop}
 (D:∀a w,akt φ0 E e' h0 h' (l.flatMap (λp=>p.2.N)) w0 a0 a w->Q .normal a w):(Code.region id ops draw).wp P Q a0 w0:=by
 have hfr':∀(j:Nat) o f,l[j]? =Z (o,f)->∀n∈f.N,φ0 n=U:=λj o f hj n hn=>hfr n (uq.2 ⟨(o,f),bi hj,hn⟩)
 have fin:∀a w,StP φ0 E e0 h0 w0 a0 l (λ_=>M) a w->Q .normal a w:=by
  rintro a w ⟨φ,m,d,r,en,F,sz⟩;have h2:=hc.final 0 (λ_=>M) (λ_ _=>rfl);rw[h2.2]at m r en;rw[h2.1]at en;refine D a w ⟨φ,m,λi k h=>?_,r,en,F,sz⟩;rcases d i k h with h|⟨j,o,f,_,hj,hn⟩
  .exact .inl h
  .exact .inr (uq.2 ⟨(o,f),bi hj,hn⟩)
 have st0:∀(w:World),iZ φ0 φ0 h0 h0 w0 w->qI φ0 E h0 w->StP φ0 E e0 h0 w0 a0 l (λj=>(og ops.size aa).getD j aa) a0 w:=by
  intro w m r;have e1:(λj=>(og ops.size aa).getD j aa)=λ_=>aa:=by
   funext j;rw[gF,Array.getElem?_replicate];split<;>rfl
  rw[e1];have e2:Ko (λ_=>aa) 0 l e0=e0:=by funext t;rw[BK];intros;rfl
  have e3:By (λ_=>aa) 0 l h0=h0:=by funext t;rw[BJ];intros;rfl
  refine ⟨φ0,by rw[e3];exact m,λ_ _ h=>.inl h,by rw[e3];exact r,?_,rfl,rfl⟩;rw[e2,e3];exact λt x A=>m.keep (henv t x A)
 have cl0:Ev ops (og ops.size aa):=by
  intro j o I hj;rw[gF,Array.getElem?_replicate]at hj;split at hj<;>simp at hj
 cases draw with
 |true=>
  refine wp_region_any hm ?_;exact ML hl hc q hfr' hsz fin ops.size _ a0 _ (by simp) cl0 (by omega) (st0 _ (iZ.drew w0) (hrep.moved (iZ.drew w0) λ_ _=>rfl))
 |false=>
  have hany:=ML (E:=E) (w0:=w0) hl hc q hfr' hsz fin ops.size _ a0 w0 (by simp) cl0 (by omega) (st0 _ (iZ.refl _ _ _) hrep);refine wp_region ?_;have key:∀(m k:Nat) (listed:Array Bool) (a:Act) (w:World),k+m=ops.size->listed.size=ops.size->(∀j,j<k->listed.getD j aa=M)->(∀j,k<=j->j<ops.size->listed.getD j M=aa)->
   wpAny P .any ops Q m listed a w->wpOps P ops Q (List.range' k m) a w:=by
   intro m;induction m with
   |zero=>intro k listed a w hk hs h1 h2 h;simpa[wpOps] using h.2
   |succ m z=>
    intro k listed a w hk hs h1 h2 h;rw[List.range'_succ,wpOps_cons];have hkr:k∈GV .any ops listed:=by
     refine mem_ready.2 ⟨h2 k (cN _) (by omega),ops[k]'(by omega),ij (by omega),λe he hb=>?_⟩;exact h1 _ (q.edge k _ (ij (by omega)) e he hb)
    refine wpOp_mono (λa' w' h'=>z (k+1) (listed.setIfInBounds k M) a' w' (by omega) (by simpa using hs) ?_ ?_ h') (h.2 k hkr)
    .intro j hj;by_cases hjk:k=j
     .subst hjk;simp[show k<listed.size by omega]
     .rw[getD_set_ne aa hjk];exact h1 j (by omega)
    .intro j hj s;rw[getD_set_ne M (by omega)];exact h2 j (by omega) s
  have:=key ops.size 0 (og ops.size aa) a0 w0 (by omega) (by simp) (by intro j hj;omega) (by
   intro j _ hj;rw[gF,Array.getElem?_replicate,aW hj];rfl) hany
  rwa [List.range_eq_range']
inductive PT (α:Type) where
 |leaf
 |node (v:Option α) (l r:PT α)
namespace PT
variable {α:Type}
def get:PT α->Nat->J α
 |leaf,_=>U
 |node v l r,n=>match n with
  |0=>v
  |m+1=>if ax (m%2) 0 then get l (m/2) else get r (m/2)
def M5:Nat->PT α->Nat->J α->PT α
 |0,t,_,_=>t
 |k+1,t,n,x=>match t with
  |leaf=>(match n with
   |0=>node x leaf leaf
   |m+1=>if ax (m%2) 0 then node U (M5 k leaf (m/2) x) leaf else node U leaf (M5 k leaf (m/2) x))
  |node v l r=>(match n with
   |0=>node x l r
   |m+1=>if ax (m%2) 0 then node v (M5 k l (m/2) x) r else node v l (M5 k r (m/2) x))
def set (t:PT α) (n:Nat) (x:J α):PT α:=M5 (n+1) t n x
theorem yp:∀(k:Nat) (t:PT α) (n:Nat) (x:J α),n<k->∀i,(M5 k t n x).get i=if i=n then x else t.get i
 |0,_,_,_,h,_=>dR h (wj _)
 |k+1,t,n,x,h,i=>by
  cases n with
  |zero=>
   cases t<;>cases i<;>simp[M5,get]
  |succ m=>
   have hm:m/2<k:=by have:=Nat.div_le_self m 2;omega
   cases t with
   |leaf=>
    simp only[M5];cases hb:ax (m%2) 0 with
    |true=>
     have q:m%2=0:=au hb;simp only[bH];cases i with
     |zero=>simp[get]
     |succ j=>
      simp only[get];cases hj:ax (j%2) 0 with
      |true=>
       have d:j%2=0:=au hj;simp only[bH];rw[yp k _ _ _ hm];by_cases he:j/2=m/2
       .rw[aW he,aW (by omega)]
       .rw[aM he,aM (by omega)];rfl
      |false=>
       have d:¬j%2=0:=h_ hj;simp only[bO,dx];rw[aM (by omega)]
    |false=>
     have q:¬m%2=0:=h_ hb;simp only[bO,dx];cases i with
     |zero=>simp[get]
     |succ j=>
      simp only[get];cases hj:ax (j%2) 0 with
      |true=>
       have d:j%2=0:=au hj;simp only[bH];rw[aM (by omega)]
      |false=>
       have d:¬j%2=0:=h_ hj;simp only[bO,dx];rw[yp k _ _ _ hm];by_cases he:j/2=m/2
       .rw[aW he,aW (by omega)]
       .rw[aM he,aM (by omega)];rfl
   |node v l r=>
    simp only[M5];cases hb:ax (m%2) 0 with
    |true=>
     have q:m%2=0:=au hb;simp only[bH];cases i with
     |zero=>simp[get]
     |succ j=>
      simp only[get];cases hj:ax (j%2) 0 with
      |true=>
       have d:j%2=0:=au hj;simp only[bH];rw[yp k _ _ _ hm];by_cases he:j/2=m/2
       .rw[aW he,aW (by omega)]
       .rw[aM he,aM (by omega)]
      |false=>
       have d:¬j%2=0:=h_ hj;simp only[bO,dx];rw[aM (by omega)]
    |false=>
     have q:¬m%2=0:=h_ hb;simp only[bO,dx];cases i with
     |zero=>simp[get]
     |succ j=>
      simp only[get];cases hj:ax (j%2) 0 with
      |true=>
       have d:j%2=0:=au hj;simp only[bH];rw[aM (by omega)]
      |false=>
       have d:¬j%2=0:=h_ hj;simp only[bO,dx];rw[yp k _ _ _ hm];by_cases he:j/2=m/2
       .rw[aW he,aW (by omega)]
       .rw[aM he,aM (by omega)]
theorem get_set (t:PT α) (n:Nat) (x:J α) (i:Nat):(t.set n x).get i=if i=n then x else t.get i:=yp (n+1) t n x (by omega) i
def mask {β:Type}:PT α->PT β->PT α
 |leaf,_=>leaf
 |node _ _ _,leaf=>leaf
 |node v l r,node u q d=>node (match u with|some _=>v|none=>U) (mask l q) (mask r d)
def mk:J α->PT α->PT α->PT α
 |none,leaf,leaf=>leaf
 |v,l,r=>node v l r
def only (m:Nat):Nat->Nat->PT α->PT α
 |_,_,leaf=>leaf
 |a,b,node v l r=>mk (if aP m b then v else U) (only m (2*a) (a+b) l) (only m (2*a) (2*a+b) r)
def exc (m:Nat):Nat->Nat->PT α->PT α
 |_,_,leaf=>leaf
 |a,b,node v l r=>mk (if aP m b then U else v) (exc m (2*a) (a+b) l) (exc m (2*a) (2*a+b) r)
def merge (m:Nat):Nat->Nat->PT α->PT α->PT α
 |a,b,leaf,t=>only m a b t
 |a,b,node v l r,leaf=>exc m a b (node v l r)
 |a,b,node v l r,node d s q=>mk (if aP m b then d else v) (merge m (2*a) (a+b) l s) (merge m (2*a) (2*a+b) r q)
def all (p:Nat->α->Bool):Nat->Nat->PT α->Bool
 |_,_,leaf=>M
 |a,b,node v l r=>(match v with|some x=>p b x|none=>M)&&all p (2*a) (a+b) l&&all p (2*a) (2*a+b) r
theorem get_all (p:Nat->α->Bool):∀(t:PT α) (a b i:Nat) (x:α),all p a b t=M->t.get i=Z x->p (a*i+b) x=M
 |leaf,_,_,_,_,_,h=>by simp[get]at h
 |node v l r,a,b,0,x,h,d=>by
  simp only[get]at d;subst d;simp only[all,ak]at h;rw[Nat.mul_zero,bM];exact h.1.1
 |node v l r,a,b,j+1,x,h,d=>by
  simp only[all,ak]at h;simp only[get]at d;cases hj:ax (j%2) 0 with
  |true=>
   have q:j%2=0:=au hj;simp only[hj,bH]at d;have key:=get_all p l _ _ _ x h.1.2 d;have:2*a*(j/2)+(a+b)=a*(j+1)+b:=by
    have e:j=2*(j/2):=by omega
    calc 2*a*(j/2)+(a+b)=a*(2*(j/2))+a+b:=by rw[GZ 2 a,Nat.mul_assoc];omega
     _=a*(j+1)+b:=by rw[<- e,Nat.mul_add];omega
   rw[this]at key;exact key
  |false=>
   have q:¬j%2=0:=h_ hj;simp only[hj,bO,dx]at d;have key:=get_all p r _ _ _ x h.2 d;have:2*a*(j/2)+(2*a+b)=a*(j+1)+b:=by
    have e:j=2*(j/2)+1:=by omega
    have h2:a*(j+1)=a*(2*(j/2))+2*a:=by
     calc a*(j+1)=a*(2*(j/2)+2):=by rw[show j+1=2*(j/2)+2 from by omega]
      _=a*(2*(j/2))+2*a:=by rw[Nat.mul_add];omega
    have s:2*a*(j/2)=a*(2*(j/2)):=by rw[GZ 2 a,Nat.mul_assoc]
    omega
   rw[this]at key;exact key
def dom:Nat->Nat->PT α->Nat->Nat
 |_,_,leaf,acc=>acc
 |a,b,node v l r,acc=>dom (2*a) (a+b) l (dom (2*a) (2*a+b) r (match v with|some _=>acc|||(1<<<b)|none=>acc))
def emp:PT α:=leaf
end PT
abbrev yW:=PT AV
abbrev mh:=PT u_
abbrev NW:=Y (Nat×u_)
def yW.put (e:yW):J Nat->AV->yW
 |none,_=>e
 |some d,x=>e.set d (Z x)
def iV:NW->HF
 |[],_=>U
 |(s,x)::r,t=>if ax s t then Z x else iV r t
def mh.upd (h:mh) (wr:ι) (nw:NW):mh:=match wr with
 |[]=>h
 |i::r=>mh.upd (h.set i (iV nw i)) r nw
theorem Yw (e:yW) (d:J Nat) (x:AV):BT e.get d x=(e.put d x).get:=by
 funext t;cases d with
 |none=>simp[BT,yW.put]
 |some d=>
  simp only[BT,yW.put,PT.get_set,af];by_cases h:d=t
  .simp[h]
  .rw[aM h,aM (λe=>h e.symm)]
def Hi (acc:ι) (s:Nat) (e:Edge):Nat:=if yY .any e then (s|||2^e.on)|||acc.getD e.on 0 else s
def JQ:Y Oper->ι->ι
 |[],acc=>acc
 |o::r,acc=>JQ r (acc++[o.after.toList.foldl (Hi acc) 0])
theorem JR {ops:Array Oper} {o:Oper} {k:Nat} {acc:ι} (q:ops[k]? =Z o) (z:∀(j:Nat) B,acc[j]? =Z B->∀i,B.testBit i=M->Bef ops j i):
 ∀(es:Y Edge) (s:Nat),(∀e∈es,e∈o.after)->(∀i,s.testBit i=M->Bef ops k i)->∀i,(es.foldl (Hi acc) s).testBit i=M->Bef ops k i
 |[],s,_,hs,i,hi=>hs i hi
 |e::r,s,he,hs,i,hi=>by
  refine JR q z r (Hi acc s e) (λe' h'=>he e' (dk _ h')) (λi hi=>?_) i hi;unfold Hi at hi;split at hi
  .rename_i hb;rw[bz,bz,iS,iS]at hi;rcases hi with (hi|hi)|hi
   .exact hs i hi
   .rw[Nat.testBit_two_pow]at hi;have:e.on=i:=by simpa using hi
    subst this;exact .one q (he e (ep ..)) hb
   .refine .more q (he e (ep ..)) hb ?_;rw[ay]at hi;cases d:acc[e.on]? with
    |none=>rw[d]at hi;simp at hi
    |some C=>rw[d]at hi;exact z _ C d i hi
  .exact hs i hi
theorem MJ {ops:Array Oper}:∀(rest:Y Oper) (acc:ι),(∀(j:Nat),∀o,rest[j]? =Z o->ops[acc.length+j]? =Z o)->
 (∀(j:Nat) B,acc[j]? =Z B->∀i,B.testBit i=M->Bef ops j i)->∀(j:Nat) B,(JQ rest acc)[j]? =Z B->∀i,B.testBit i=M->Bef ops j i
 |[],acc,_,d=>d
 |o::r,acc,q,d=>by
  refine MJ r _ (λj o' hj=>?_) ?_
  .rw[b7,c9,show acc.length+1+j=acc.length+(j+1) from by omega];exact q (j+1) o' (by simpa using hj)
  .intro j B hj i hi;rcases bN j acc.length with h|h
   .rw[bV h]at hj;exact d j B hj i hi
   .rw[ca h]at hj;have s:j-acc.length=0:=by
     rcases rq (j-acc.length) with h0|h0
     .exact h0
     .rw[bK (by simp;omega)]at hj;cases hj
    have hjl:j=acc.length:=by omega
    subst hjl;simp at hj;subst hj;have hoo:ops[acc.length]? =Z o:=by simpa using q 0 o rfl
    rw[<- Array.foldl_toList]at hi;exact JR hoo d _ 0 (λe he=>by simpa using he) (λi hi=>by simp at hi) i hi
inductive Xx where
 |mv (x:Operand)
 |pick (c a b:Operand)
 |alloc (ty:TypeId) (z:ξ)
 |box (ty:TypeId) (x:Operand)
 |build (z:ξ) (parts:List (Nat×Nat×Operand))
 |bsl (ty:TypeId) (sz len:Nat) (z:ξ) (parts:List (Nat×Nat×Operand))
 |load (sz:Nat) (ag:Bool) (x:Operand)
 |store (sz:Nat) (x v:Operand)
 |nilc (x:Operand)
 |bin (op:BinOp) (x y:Operand)
 |eqs (neg:Bool) (ds:List TypeDesc) (x y:Operand)
 |isnil (neg:Bool) (x:Operand)
 |eqb (neg:Bool) (x y:Operand)
 |not (x:Operand)
 |conv (k:IntKind) (x:Operand)
 |mksl (ty:TypeId) (sz bytes:Nat) (z:ξ) (l c:Operand)
 |slc (sz:Nat) (x:Operand) (lo hi mx:Option Operand)
 |fad (off:Nat) (x:Operand)
 |fld (off sz:Nat) (ag:Bool) (x:Operand)
 |iad (sz:Nat) (x i:Operand)
 |iada (n sz:Nat) (x i:Operand)
 |idx (n sz:Nat) (ag:Bool) (x i:Operand)
 |ext (x:Operand) (i:Nat)
 |len (x:Operand)
 |lens (x:Operand)
 |lenm (x:Operand)
 |max (x y:Operand)
 |min (x y:Operand)
 |sidx (x i:Operand)
 |app (ty:TypeId) (sz bytes:Nat) (s x:Operand)
 |copy (sz:Nat) (d x:Operand)
 |clr (sz:Nat) (z:ξ) (x:Operand)
 |mkf (f:FuncId) (caps:List Operand)
 |mkm
 |lku (str ok:Bool) (z:Value) (x k:Operand)
 |mup (str:Bool) (x k v:Operand)
 |rng (x:Operand)
 |nxt (x:Operand)
 |bad
inductive SI where
 |op (s:Xx)
 |call (f:FuncId) (args:List Operand)
 |callv (x:Operand) (args:List Operand)
def Wa (t:Nat):ι->Bool
 |[]=>aa
 |x::r=>ax x t||Wa t r
def JM:ξ->Bool
 |[]=>M
 |v::r=>v.oneCell'&&JM r
def Eh:Value->AV
 |.agg vs=>if JM vs.toList then .agg (vs.toList.map λv=>.f (.raw v)) else .f (.raw (.agg vs))
 |v=>.f (.raw v)
def mI (e:yW):Operand->J AV
 |.tmp t=>e.get t
 |.const v=>Z (Eh v)
 |.func g=>Z (.clo g [])
 |.global g=>match G g with|some cells=>Z (.f (.ptr cells 0))|none=>U
def Vi (e:yW):Y Operand->J (Y AV)
 |[]=>Z []
 |x::xs=>match mI e x with|some y=>(match Vi e xs with|some d=>Z (y::d)|none=>U)|none=>U
structure zZ where
 val:AV
 rd:ι
 wr:ι
 nw:NW
 N:ι
def zZ.eff (r:zZ):AF:=⟨r.val,r.rd,r.wr,iV r.nw,r.N⟩
def rv (x:AV):J zZ:=Z ⟨x,[],[],[],[]⟩
def raw (v:Value):AV:=.f (.raw v)
def pkV (ok:Bool) (v:AV) (b:Bool):AV:=match ok with|true=>.tup [v,raw (.bool b)]|false=>v
def w7:Y AV->J (Y FV)
 |[]=>Z []
 |.f x::r=>match w7 r with|some l=>Z (x::l)|none=>U
 |_::_=>U
def oB (l:Y AV):BC:=match w7 l with|some fs=>.fz fs|none=>.mx l
def L4 (l:Y AV):AV:=match w7 l with|some fs=>.f (.agg fs)|none=>.agg l
def splice {α:Type} (l:Y α) (off:Nat) (vs:Y α):Y α:=l.take off++vs++l.drop (off+vs.length)
def BC.toMx:BC->Y AV
 |.fz l=>l.map .f
 |.mx l=>l
 |_=>[]
def gj:Y AV->Bool
 |[]=>M
 |x::r=>x.isCell&&gj r
def BC.put (c:BC) (off:Nat) (vs:Y AV):J BC:=
 if c.isCells&&dP (off+vs.length) c.len&&gj vs then
  match c,w7 vs with
  |.fz l,Z d=>Z (.fz (splice l off d))
  |c,_=>Z (.mx (splice c.toMx off vs))
 else U
def BC.sub? (c:BC) (off sz:Nat):Bool->J AV
 |false=>match sz with|1=>c.get off|_=>U
 |true=>match c with
  |.fz l=>if dP (off+sz) l.length then Z (.f (.agg ((l.drop off).take sz))) else U
  |.mx l=>if dP (off+sz) l.length then Z (.agg ((l.drop off).take sz)) else U
  |_=>U
def AV.cs:AV->Y AV
 |.agg l=>l
 |.f (.agg l)=>l.map .f
 |x=>[x]
def C8 (h:mh) (sz:Nat) (ag:Bool):AV->J zZ
 |.ptr id off=>match h.get id with
  |some b=>(match b.c.sub? off sz ag with|some v=>Z ⟨v,[id],[],[],[]⟩|none=>U)
  |none=>U
 |.f (.ptr cells off)=>(match (BC.fz cells).sub? off sz ag with|some v=>rv v|none=>U)
 |_=>U
def JS (h:mh) (sz:Nat) (v:AV):AV->J zZ
 |.ptr id off=>match h.get id with
  |some b=>if v.cs.length==sz then (match b.c.put off v.cs with|some c=>Z ⟨raw undef,[id],[id],[(id,⟨b.ty,c⟩)],[]⟩|none=>U) else U
  |none=>U
 |_=>U
def yB (cells:Y AV) (e:yW):Y (Nat×Nat×Operand)->J (Y AV)
 |[]=>Z cells
 |(off,sz,x)::r=>match mI e x with
  |some v=>if v.cs.length==sz&&dP (off+sz) cells.length&&gj v.cs then yB (splice cells off v.cs) e r else U
  |none=>U
def cO (a b:Int):Bool:=decide (a<=b)
def fE (a b:Int):Bool:=decide (a<b)
def LK (k:IntKind) (n:Int):Int:=
 match k with
 |.i64=>if cO (-9223372036854775808) n&&cO n 9223372036854775807 then n else oL .i64 n
 |.u8=>if cO 0 n&&cO n 255 then n else oL .u8 n
 |k=>oL k n
def nok:Int->Bool
 |.ofNat k=>ax k k
 |.negSucc k=>ax k k
theorem aia (n:Int):nok n=M:=by cases n<;>exact ru _
def ba (k:IntKind) (n:Int):Int:=bif nok n then LK k n else 0
theorem G1 (k:IntKind) (n:Int):ba k n=LK k n:=by unfold ba;rw[aia];rfl
def rM (a b:ByteArray):Bool:=a.data.toList==b.data.toList
def sV (op:BinOp):Value->Value->J Value
 |.int k a,.int k' b=>if k==k' then
   match op with
   |.add=>Z (.int k (ba k (a+b)))
   |.sub=>Z (.int k (ba k (a-b)))
   |.mul=>Z (.int k (ba k (a*b)))
   |.rem=>if b==0 then U else Z (.int k (a.tmod b))
   |.quo=>if b==0 then U else Z (.int k (ba k (a.tdiv b)))
   |.eql=>Z (.bool (a==b))
   |.neq=>Z (.bool (a !=b))
   |.lss=>Z (.bool (fE a b))
   |.leq=>Z (.bool (cO a b))
   |.gtr=>Z (.bool (fE b a))
   |.geq=>Z (.bool (cO b a))
   |_=>U
  else U
 |.string a,.string b=>match op with
   |.eql=>Z (.bool (rM a b))
   |.neq=>Z (.bool !(rM a b))
   |_=>U
 |_,_=>U
def wP:TypeDesc->FV->FV->J Bool
 |.int _,.raw (.int k a),.raw (.int k' b)=>if k==k' then Z (a==b) else U
 |.bool,.raw (.bool a),.raw (.bool b)=>Z (a==b)
 |.string,.raw (.string a),.raw (.string b)=>Z (rM a b)
 |_,_,_=>U
def oY:Y TypeDesc->Y FV->Y FV->J Bool
 |[],[],[]=>Z M
 |d::ds,x::xs,y::q=>match wP d x y with
  |some M=>oY ds xs q
  |some aa=>Z aa
  |none=>U
 |_,_,_=>U
def AV.row? (h:mh) (sz:Nat):AV->J (Y AV×Nat×ι)
 |.f (.sl cells n)=>if dP (n*sz) cells.length then Z ((cells.take (n*sz)).map .f,n,[]) else U
 |.f (.raw (.slice U 0 0))=>Z ([],0,[])
 |.emp=>Z ([],0,[])
 |.row id sz' n=>if sz'==sz then (match h.get id with|some b=>if b.c.isCells&&dP (n*sz) b.c.len then Z (b.c.toMx.take (n*sz),n,[id]) else U|none=>U) else U
 |.sl id off n=>match h.get id with|some b=>if b.c.isCells&&dP (off+n*sz) b.c.len then Z ((b.c.toMx.drop off).take (n*sz),n,[id]) else U|none=>U
 |_=>U
def AV.slen:AV->J Nat
 |.f (.sl _ n)=>Z n
 |.f (.raw (.slice _ n _))=>Z n
 |.emp=>Z 0
 |.row _ _ n=>Z n
 |.sl _ _ n=>Z n
 |_=>U
def be (n bytes:Nat):Bool:=dP n 1099511627776&&dP (n*bytes) 1099511627776
def repl (z:ξ):Nat->Y FV
 |0=>[]
 |n+1=>z.map .raw++repl z n
def sS:Value->Bool
 |.slice U 0 0=>M
 |_=>aa
def Ig:AV->Bool
 |.emp=>M
 |.f (.raw v)=>sS v
 |_=>aa
def sQ (k:Value):Y (Value×AV)->J (J AV)
 |[]=>Z U
 |(k',v)::r=>match sV .eql k k' with
  |some (.bool M)=>Z (Z v)
  |some (.bool aa)=>sQ k r
  |_=>U
def yh (k:Value) (v:AV):Y (Value×AV)->J (Y (Value×AV))
 |[]=>Z [(k,v)]
 |(k',d)::r=>match sV .eql k k' with
  |some (.bool M)=>Z ((k,v)::r)
  |some (.bool aa)=>(match yh k v r with|some q=>Z ((k',d)::q)|none=>U)
  |_=>U
def told (n:Int):Y (Value×AV)->J AV
 |(.int .i64 k,v)::r=>if k=n then Z v else told n r
 |_=>U
def lG (n:Int) (y:AV):Y (Value×AV)->Y (Value×AV)
 |[]=>[]
 |p::r=>(p.1,match p.1 with|.int .i64 k=>if k=n then y else p.2|_=>p.2)::lG n y r
def yl:Bool->Value->Bool
 |false,.int _ _=>M
 |true,.string _=>M
 |_,_=>aa
def rnA (b:UInt8) (s:ByteArray) (p:Nat):Int:=bif eQ b.toNat 128 then b.toNat else (xJ s p).1
def wdA (b:UInt8) (s:ByteArray) (p:Nat):Nat:=bif eQ b.toNat 128 then 1 else (xJ s p).2
def eg (s:Xx) (e:yW) (h:mh) (nx:Nat):J zZ:=
 match s with
 |.mv x=>match mI e x with|some v=>rv v|none=>U
 |.pick c a b=>match mI e c with
  |some (.f (.raw (.bool t)))=>(match mI e (if t then a else b) with|some v=>rv v|none=>U)
  |_=>U
 |.alloc ty z=>Z ⟨.ptr nx 0,[],[nx],[(nx,⟨ty,.fz (z.map .raw)⟩)],[nx]⟩
 |.box ty x=>match mI e x with
  |some v=>if gj v.cs then Z ⟨.ptr nx 0,[],[nx],[(nx,⟨ty,oB v.cs⟩)],[nx]⟩ else U
  |none=>U
 |.build z parts=>match yB (z.map raw) e parts with|some cs=>rv (L4 cs)|none=>U
 |.bsl ty sz len z parts=>match yB ((repl z len).map .f) e parts with
  |some cs=>Z ⟨if len=0 then .emp else .row nx sz len,[],[nx],[(nx,⟨ty,oB cs⟩)],[nx]⟩
  |none=>U
 |.load sz ag x=>match mI e x with|some p=>C8 h sz ag p|none=>U
 |.store sz x v=>match mI e x,mI e v with|some p,Z y=>JS h sz y p|_,_=>U
 |.nilc x=>match mI e x with
  |some (.ptr id off)=>rv (.ptr id off)
  |some (.f (.ptr cells off))=>rv (.f (.ptr cells off))
  |some (.clo g cap)=>rv (.clo g cap)
  |_=>U
 |.bin op x y=>match mI e x,mI e y with
  |some (.f (.raw u)),Z (.f (.raw v))=>(match sV op u v with|some r=>rv (raw r)|none=>U)
  |_,_=>U
 |.eqs neg ds x y=>match mI e x,mI e y with
  |some (.f (.agg a)),Z (.f (.agg b))=>(match oY ds a b with|some r=>rv (raw (.bool (r !=neg)))|none=>U)
  |_,_=>U
 |.eqb neg x y=>match mI e x,mI e y with
  |some (.f (.raw (.bool a))),Z (.f (.raw (.bool b)))=>rv (raw (.bool ((a==b) !=neg)))
  |_,_=>U
 |.isnil neg x=>match mI e x with
  |some (.row _ _ _)=>rv (raw (.bool neg))
  |some (.sl _ _ _)=>rv (raw (.bool neg))
  |some (.f (.sl _ (_+1)))=>rv (raw (.bool neg))
  |some (.f (.sl _ 0))=>rv .anyb
  |some .emp=>rv .anyb
  |some (.f (.raw v))=>if sS v then rv (raw (.bool !neg)) else U
  |_=>U
 |.not x=>match mI e x with|some (.f (.raw (.bool b)))=>rv (raw (.bool !b))|_=>U
 |.conv k x=>match mI e x with|some (.f (.raw (.int _ n)))=>rv (raw (.int k (ba k n)))|_=>U
 |.mksl ty sz bytes z l c=>match mI e l,mI e c with
  |some (.f (.raw (.int _ a))),Z (.f (.raw (.int _ b)))=>
   if cO 0 a&&cO a b&&be b.toNat bytes then Z ⟨.row nx sz a.toNat,[],[nx],[(nx,⟨ty,.fz (repl z a.toNat)⟩)],[nx]⟩ else U
  |_,_=>U
 |.slc sz x lo hi mx=>match mI e x with
  |some v=>match lo,hi,mx with
   |none,Z (.const (.int _ 0)),Z (.const (.int _ 0))=>if v.slen.isSome then rv .emp else U
   |none,Z b,U=>match v,mI e b with
    |.row id sz' n,Z (.f (.raw (.int _ j)))=>if sz'==sz&&cO 0 j&&cO j n then (match h.get id with
     |some blk=>if blk.c.isCells&&dP (n*sz) blk.c.len then Z ⟨.row nx sz j.toNat,[id],[nx,id],[(nx,⟨blk.ty,oB (blk.c.toMx.take (j.toNat*sz))⟩)],[nx]⟩ else U
     |none=>U) else U
    |.f (.sl cells n),Z (.f (.raw (.int _ j)))=>if cO 0 j&&cO j n&&dP (n*sz) cells.length then rv (.f (.sl (cells.take (j.toNat*sz)) j.toNat)) else U
    |_,_=>U
   |some b,U,U=>match v,mI e b with
    |.row id sz' n,Z (.f (.raw (.int _ j)))=>if sz'==sz&&cO 0 j&&fE j n then rv (.sl id (j.toNat*sz) (n-j.toNat)) else U
    |.f (.sl cells n),Z (.f (.raw (.int _ j)))=>if cO 0 j&&cO j n&&dP (n*sz) cells.length then rv (.f (.sl ((cells.drop (j.toNat*sz)).take ((n-j.toNat)*sz)) (n-j.toNat))) else U
    |_,_=>U
   |none,Z b,Z b'=>match v,mI e b,mI e b' with
    |.f (.sl cells n),Z (.f (.raw (.int _ j))),Z (.f (.raw (.int _ q)))=>if decide (j=q)&&cO 0 j&&cO j n&&dP (n*sz) cells.length then rv (.ful (cells.take (j.toNat*sz)) j.toNat) else U
    |_,_,_=>U
   |_,_,_=>U
  |none=>U
 |.fad off x=>match mI e x with
  |some (.ptr id o)=>rv (.ptr id (o+off))
  |some (.f (.ptr cells o))=>rv (.f (.ptr cells (o+off)))
  |_=>U
 |.fld off sz ag x=>match mI e x with
  |some (.agg l)=>(match (BC.mx l).sub? off sz ag with|some v=>rv v|none=>U)
  |some (.f (.agg l))=>(match (BC.fz l).sub? off sz ag with|some v=>rv v|none=>U)
  |_=>U
 |.iad sz x i=>match mI e x,mI e i with
  |some v,Z (.f (.raw (.int _ j)))=>match v with
   |.row id sz' n=>if sz'==sz&&cO 0 j&&fE j n then rv (.ptr id (j.toNat*sz)) else U
   |.sl id off n=>if cO 0 j&&fE j n then rv (.ptr id (off+j.toNat*sz)) else U
   |.f (.sl cells n)=>if cO 0 j&&fE j n then rv (.f (.ptr cells (j.toNat*sz))) else U
   |_=>U
  |_,_=>U
 |.iada n sz x i=>match mI e x,mI e i with
  |some v,Z (.f (.raw (.int _ j)))=>if cO 0 j&&fE j n then (match v with
   |.ptr id off=>rv (.ptr id (off+j.toNat*sz))
   |.f (.ptr cells off)=>rv (.f (.ptr cells (off+j.toNat*sz)))
   |_=>U) else U
  |_,_=>U
 |.idx n sz ag x i=>match mI e x,mI e i with
  |some v,Z (.f (.raw (.int _ j)))=>if cO 0 j&&fE j n then (match v with
   |.agg l=>(match (BC.mx l).sub? (j.toNat*sz) sz ag with|some v=>rv v|none=>U)
   |.f (.agg l)=>(match (BC.fz l).sub? (j.toNat*sz) sz ag with|some v=>rv v|none=>U)
   |_=>U) else U
  |_,_=>U
 |.ext x i=>match mI e x with|some (.tup l)=>(match l[i]? with|some v=>rv v|none=>U)|_=>U
 |.len x=>match mI e x with
  |some v=>(match v.slen with|some n=>rv (raw (.int .i64 n))|none=>U)
  |none=>U
 |.lens x=>match mI e x with
  |some (.f (.raw (.string s)))=>rv (raw (.int .i64 s.data.toList.length))
  |_=>U
 |.lenm x=>match mI e x with
  |some (.mp id)=>(match h.get id with|some ⟨0,.mp es⟩=>Z ⟨raw (.int .i64 es.length),[id],[],[],[]⟩|_=>U)
  |_=>U
 |.max x y=>match mI e x,mI e y with
  |some (.f (.raw (.int k a))),Z (.f (.raw (.int _ b)))=>rv (raw (.int k (if fE a b then b else a)))
  |_,_=>U
 |.min x y=>match mI e x,mI e y with
  |some (.f (.raw (.int k a))),Z (.f (.raw (.int _ b)))=>rv (raw (.int k (if fE b a then b else a)))
  |_,_=>U
 |.sidx x i=>match mI e x,mI e i with
  |some (.f (.raw (.string s))),Z (.f (.raw (.int _ j)))=>if cO 0 j then (match s.data.toList[j.toNat]? with|some b=>rv (raw (.int .u8 b.toNat))|none=>U) else U
  |_,_=>U
 |.app ty sz bytes s x=>match mI e s,mI e x with
  |some b,Z y=>match y.row? h sz with
   |some (src,m,rd)=>match b with
    |.row id sz' n=>match h.get id with
     |some blk=>if sz'==sz&& !(Wa id rd)&&blk.c.isCells&&dP (n*sz) blk.c.len&&blk.ty==ty&&be (n+m) bytes then
       Z ⟨.row nx sz (n+m),id::rd,[nx,id],[(nx,⟨ty,oB (blk.c.toMx.take (n*sz)++src)⟩)],[nx]⟩ else U
     |none=>U
    |.ful cells n=>if dP (n*sz) cells.length&&be (n+m) bytes then
      (if m==0 then Z ⟨.f (.sl cells n),rd,[],[],[]⟩ else Z ⟨.row nx sz (n+m),rd,[nx],[(nx,⟨ty,oB ((cells.take (n*sz)).map .f++src)⟩)],[nx]⟩) else U
    |b=>if Ig b&&be m bytes then
      (if m==0 then Z ⟨b,rd,[],[],[]⟩ else Z ⟨.row nx sz m,rd,[nx],[(nx,⟨ty,oB src⟩)],[nx]⟩) else U
   |none=>U
  |_,_=>U
 |.copy sz d x=>match mI e d,mI e x with
  |some (.row id sz' n),Z y=>(match h.get id,y.row? h sz with
   |some blk,Z (src,m,rd)=>if sz'==sz&& !(Wa id rd)&&dP (n*sz) blk.c.len then
     (match blk.c.put 0 (src.take (iQ m n*sz)) with
     |some c=>Z ⟨raw (.int .i64 (iQ m n)),id::rd,[id],[(id,⟨blk.ty,c⟩)],[]⟩
     |none=>U) else U
   |_,_=>U)
  |_,_=>U
 |.clr _ z x=>match mI e x with
  |some (.sl id off n)=>(match h.get id with
   |some blk=>if eQ 0 n then (match blk.c.put off ((repl z n).map .f) with
    |some c=>Z ⟨.tup [],[id],[id],[(id,⟨blk.ty,c⟩)],[]⟩
    |none=>U) else U
   |none=>U)
  |_=>U
 |.mkf f caps=>match Vi e caps with|some l=>rv (.clo f l)|none=>U
 |.mkm=>Z ⟨.mp nx,[],[nx],[(nx,⟨0,.mp []⟩)],[nx]⟩
 |.lku str ok z x k=>match mI e x,mI e k with
  |some (.mp id),Z (.f (.raw key))=>(match h.get id with
   |some ⟨0,.mp es⟩=>if yl str key then (match sQ key es with|some (Z v)=>Z ⟨pkV ok v M,[id],[],[],[]⟩|some U=>Z ⟨pkV ok (raw z) aa,[id],[],[],[]⟩|none=>U) else U
   |some ⟨_+1,.mp es⟩=>(match key with
    |.int .i64 n=>if !str&&(!ok&&sS z) then (match told n es with|some v=>Z ⟨v,[id],[],[],[]⟩|none=>U) else U
    |_=>U)
   |_=>U)
  |_,_=>U
 |.mup str x k v=>match mI e x,mI e k,mI e v with
  |some (.mp id),Z (.f (.raw key)),Z y=>(match h.get id with
   |some ⟨0,.mp es⟩=>if yl str key then (match yh key y es with|some es'=>Z ⟨raw undef,[id],[id],[(id,⟨0,.mp es'⟩)],[]⟩|none=>U) else U
   |some ⟨ty+1,.mp es⟩=>(match key with
    |.int .i64 n=>if str then U else Z ⟨raw undef,[id],[id],[(id,⟨ty+1,.mp (lG n y es)⟩)],[]⟩
    |_=>U)
   |_=>U)
  |_,_,_=>U
 |.rng x=>match mI e x with
  |some (.f (.raw (.string s)))=>Z ⟨.ptr nx 0,[],[nx],[(nx,⟨0,.it s 0⟩)],[nx]⟩
  |_=>U
 |.nxt x=>match mI e x with
  |some (.ptr id 0)=>(match h.get id with
   |some ⟨ty,.it s p⟩=>(match s.data.toList[p]? with
    |some b=>Z ⟨.tup [raw (.bool M),raw (.int .i64 p),raw (.int .i32 (rnA b s p))],[id],[id],[(id,⟨ty,.it s (p+wdA b s p)⟩)],[]⟩
    |none=>Z ⟨.tup [raw (.bool aa)],[id],[id],[(id,⟨ty,.it s p⟩)],[]⟩)
   |_=>U)
  |_=>U
 |.bad=>U
structure r_ where
 dst:Option Nat
 op:SI
 guard:Option (Nat×Bool)
inductive SC where
 |skip
 |reg (ops:List r_) (prs:List (Nat×Nat))
 |seq (a b:SC)
 |cond (c:Nat) (a b:SC)
 |block (id:Nat) (b:SC)
 |loop (b:SC)
 |exit (id:Nat)
 |ret
 |defer (f:FuncId) (caps:List Operand) (t:Nat)
 |bad
structure aks where
 val:AV
 h:mh
 nx:Nat
 wr:Nat
abbrev VS:=FuncId->Y AV->mh->Nat->J aks
mutual
def AV.ids:AV->Nat->Nat
 |.ptr id _,acc=>acc|||(1<<<id)
 |.sl id _ _,acc=>acc|||(1<<<id)
 |.row id _ _,acc=>acc|||(1<<<id)
 |.mp id,acc=>acc|||(1<<<id)
 |.agg l,acc=>AV.idsL l acc
 |.tup l,acc=>AV.idsL l acc
 |.clo _ l,acc=>AV.idsL l acc
 |.f _,acc=>acc
 |.emp,acc=>acc
 |.anyb,acc=>acc
 |.ful _ _,acc=>acc
def AV.idsL:Y AV->Nat->Nat
 |[],acc=>acc
 |x::r,acc=>AV.idsL r (AV.ids x acc)
end
mutual
def AV.all (p:Nat->Bool):AV->Bool
 |.ptr id _=>p id
 |.sl id _ _=>p id
 |.row id _ _=>p id
 |.mp id=>p id
 |.agg l=>AV.allL p l
 |.tup l=>AV.allL p l
 |.clo _ l=>AV.allL p l
 |.f _=>M
 |.emp=>M
 |.anyb=>M
 |.ful _ _=>M
def AV.allL (p:Nat->Bool):Y AV->Bool
 |[]=>M
 |x::r=>AV.all p x&&AV.allL p r
end
def BC.ids:BC->Nat->Nat
 |.mx l,acc=>AV.idsL l acc
 |.mp es,acc=>AV.idsL (es.map (·.2)) acc
 |_,acc=>acc
def BC.all (p:Nat->Bool):BC->Bool
 |.mx l=>AV.allL p l
 |.mp es=>AV.allL p (es.map (·.2))
 |_=>M
def mh.all (p:Nat->Bool) (h:mh):Bool:=PT.all (λi b=>p i&&b.c.all p) 1 0 h
def UX:Nat->mh->Nat->Nat->Nat
 |0,_,_,Kz=>Kz
 |n+1,h,todo,Kz=>
  if ax todo 0 then Kz else
  match Nat.log2 todo with
  |id=>if aP Kz id then UX n h (todo ^^^ (1<<<id)) Kz else
   match h.get id with
   |some b=>UX n h (b.c.ids (todo ^^^ (1<<<id))) (Kz|||(1<<<id))
   |none=>UX n h (todo ^^^ (1<<<id)) Kz
section force
variable {α:Type}
def sn (n:Nat) (k:Nat->α):α:=match n with|0=>k 0|m+1=>k (m+1)
def frcI (n:Int) (k:Int->α):α:=match n with|.ofNat m=>sn m λm=>k (.ofNat m)|.negSucc m=>sn m λm=>k (.negSucc m)
def frcB (b:Bool) (k:Bool->α):α:=match b with|true=>k M|false=>k aa
def frcV (v:Value) (k:Value->α):α:=match v with
 |.int kd n=>frcI n λn=>k (.int kd n)
 |.bool b=>frcB b λb=>k (.bool b)
 |v=>k v
def aih (x:FV) (k:FV->α):α:=match x with
 |.raw v=>frcV v λv=>k (.raw v)
 |.ptr cells off=>sn off λoff=>k (.ptr cells off)
 |.sl cells n=>sn n λn=>k (.sl cells n)
 |.agg l=>k (.agg l)
def Zk:Y FV->(Y FV->α)->α
 |[],k=>k []
 |x::r,k=>aih x λx=>Zk r λr=>k (x::r)
def aig (x:FV) (k:FV->α):α:=match x with
 |.agg l=>Zk l λl=>k (.agg l)
 |x=>aih x k
def aec (x:AV) (k:AV->α):α:=match x with
 |.f x=>aig x λx=>k (.f x)
 |.ptr id off=>sn id λid=>sn off λoff=>k (.ptr id off)
 |.sl id off n=>sn id λid=>sn off λoff=>sn n λn=>k (.sl id off n)
 |.row id sz n=>sn id λid=>sn sz λsz=>sn n λn=>k (.row id sz n)
 |.mp id=>sn id λid=>k (.mp id)
 |x=>k x
def Qe:Y AV->(Y AV->α)->α
 |[],k=>k []
 |x::r,k=>aec x λx=>Qe r λr=>k (x::r)
def aii (x:AV) (k:AV->α):α:=match x with
 |.agg l=>Qe l λl=>k (.agg l)
 |.tup l=>Qe l λl=>k (.tup l)
 |.clo f l=>Qe l λl=>k (.clo f l)
 |x=>aec x k
def frcC (c:BC) (k:BC->α):α:=match c with
 |.fz l=>Zk l λl=>k (.fz l)
 |.mx l=>Qe l λl=>k (.mx l)
 |.it s p=>sn p λp=>k (.it s p)
 |.mp es=>k (.mp es)
def Qd {β:Type}:PT β->(PT β->α)->α
 |.leaf,k=>k .leaf
 |.node v l r,k=>(match v with
  |none=>λ(k:J β->α)=>k U
  |some x=>λk=>k (Z x)) λv=>Qd l λl=>Qd r λr=>k (.node v l r)
def Sm {β:Type}:Nat->PT β->Nat->J β->(PT β->α)->α
 |0,t,_,_,k=>k t
 |f+1,t,n,x,k=>match t with
  |.leaf=>(match n with
   |0=>k (.node x .leaf .leaf)
   |m+1=>if ax (m%2) 0 then sn (m/2) λq=>Sm f .leaf q x λu=>k (.node U u .leaf) else sn (m/2) λq=>Sm f .leaf q x λu=>k (.node U .leaf u))
  |.node v l r=>(match n with
   |0=>k (.node x l r)
   |m+1=>if ax (m%2) 0 then sn (m/2) λq=>Sm f l q x λu=>k (.node v u r) else sn (m/2) λq=>Sm f r q x λu=>k (.node v l u))
theorem NF {β:Type}:∀(x:PT β) (k:PT β->α),Qd x k=k x
 |.leaf,_=>rfl
 |.node v l r,k=>by cases v<;>simp only[Qd,NF l,NF r]
end force
structure IS where
 e:yW
 h:mh
 nx:Nat
 wr:Nat
structure aep where
 val:AV
 rd:Nat
 wr:Nat
 h:mh
 nx:Nat
def bits:ι->Nat->Nat
 |[],acc=>acc
 |x::r,acc=>bits r (acc|||(1<<<x))
def af1 {α:Type} (h:mh) (nw:NW):ι->(mh->α)->α
 |[],k=>k h
 |i::r,k=>match iV nw i with
  |none=>Sm (i+1) h i U λh=>af1 h nw r k
  |some ⟨ty,c⟩=>frcC c λc=>Sm (i+1) h i (Z ⟨ty,c⟩) λh=>af1 h nw r k
def aef (call:VS) (f:FuncId) (args:Y AV) (h:mh) (nx:Nat):J aep:=
 sn (UX 1000000 h (AV.idsL args 0) 0) λids=>Qd (PT.only ids 1 0 h) λhc=>
 if AV.allL (eQ · nx) args&&mh.all (eQ · nx) hc then
  match call f args hc nx with
  |some ⟨val,h',nx',wr⟩=>aii val λval=>sn nx' λnx'=>sn wr λwr=>Qd (PT.merge wr 1 0 h h') λhm=>Z ⟨val,ids,wr,hm,nx'⟩
  |none=>U
 else U
def opA (call:VS) (o:SI) (e:yW) (h:mh) (nx:Nat):J aep:=
 match o with
 |.call f args=>match Vi e args with|some l=>aef call f l h nx|none=>U
 |.callv x args=>match mI e x,Vi e args with|some (.clo f cap),Z l=>aef call f (l++cap) h nx|_,_=>U
 |.op o=>match eg o e h nx with
  |some ⟨val,rd,wr,nw,N⟩=>aii val λval=>sn (bits rd 0) λrd=>sn (bits wr 0) λd=>sn (nx+N.length) λnx'=>af1 h nw wr λh=>Z ⟨val,rd,d,h,nx'⟩
  |none=>U
def ahy (e:yW):J (Nat×Bool)->J Bool
 |none=>Z M
 |some (t,want)=>match e.get t with
  |some (.f (.raw (.bool b)))=>Z (b==want)
  |some (.f (.raw (.tuple _)))=>Z aa
  |_=>U
def af7 {α:Type} (e:yW) (dst:J Nat) (v:AV) (k:yW->α):α:=match dst with
 |none=>k e
 |some d=>Sm (d+1) e d (Z v) k
structure FPm where
 rd:Nat
 wr:Nat
def Sq (call:VS):Y r_->IS->J (IS×Y FPm)
 |[],s=>Z (s,[])
 |o::r,⟨e,h,nx,wr⟩=>
  match ahy e o.guard with
  |some M=>(match opA call o.op e h nx with
   |some ⟨val,rd,w,h',nx'⟩=>af7 e o.dst val λe'=>sn (wr|||w) λwr'=>(match Sq call r ⟨e',h',nx',wr'⟩ with
    |some (s',fs)=>Z (s',⟨rd,w⟩::fs)
    |none=>U)
   |none=>U)
  |some aa=>af7 e o.dst (raw undef) λe'=>(match Sq call r ⟨e',h,nx,wr⟩ with
   |some (s',fs)=>Z (s',⟨0,0⟩::fs)
   |none=>U)
  |none=>U
def Wx:Y FPm->Nat->J FPm
 |[],_=>U
 |f::_,0=>Z f
 |_::r,n+1=>Wx r n
def CS (a b:Nat):Bool:=ax (a&&&b) 0
def EL (fs:Y FPm):Y (Nat×Nat)->Bool
 |[]=>M
 |(i,j)::r=>(match Wx fs i,Wx fs j with
  |some a,Z b=>CS a.wr b.rd&&CS a.wr b.wr&&CS b.wr a.rd
  |_,_=>aa)&&EL fs r
inductive Ex where
 |normal
 |exit (id:Nat)
 |ret
def aea (body:IS->J (Ex×IS)) (e0:yW):Nat->IS->J (Ex×IS)
 |0,_=>U
 |n+1,s=>match body s with
  |some (.normal,⟨e,h,nx,wr⟩)=>Qd (PT.mask e e0) λe=>aea body e0 n ⟨e,h,nx,wr⟩
  |r=>r
def run (call:VS) (inert:FuncId->Bool) (fuel:Nat):SC->IS->J (Ex×IS)
 |.skip,s=>Z (.normal,s)
 |.reg ops prs,s=>match Sq call ops s with
  |some (s',fs)=>if EL fs prs then Z (.normal,s') else U
  |none=>U
 |.seq a b,s=>match run call inert fuel a s with
  |some (.normal,s')=>run call inert fuel b s'
  |r=>r
 |.cond c a b,s=>match s.e.get c with
  |some (.f (.raw (.bool M)))=>run call inert fuel a s
  |some (.f (.raw (.bool aa)))=>run call inert fuel b s
  |_=>U
 |.block id b,s=>match run call inert fuel b s with
  |some (.exit i,s')=>if ax i id then Z (.normal,s') else Z (.exit i,s')
  |r=>r
 |.loop b,s=>aea (run call inert fuel b) s.e fuel s
 |.exit id,s=>Z (.exit id,s)
 |.ret,s=>Z (.ret,s)
 |.defer f caps t,⟨e,h,nx,wr⟩=>match Vi e caps with
  |some l=>if inert f then af7 e (Z t) (.clo f l) λe'=>Z (.normal,⟨e',h,nx,wr⟩) else U
  |none=>U
 |.bad,_=>U
inductive RV where
 |tmp (t:Nat)
 |cell (a:Nat) (sz:Nat) (ag:Bool)
structure SF where
 code:SC
 res:List RV
 nt:Nat
def Dm:Y AV->AV
 |[x]=>x
 |l=>.tup l
def afr:Value->Value->Bool
 |.bool a,.bool b=>a==b
 |.int k a,.int k' b=>k==k'&&a==b
 |.string a,.string b=>rM a b
 |.slice U n c,.slice U d c'=>ax n d&&ax c c'
 |.pointer U,.pointer U=>M
 |.tuple a,.tuple b=>a.isEmpty&&b.isEmpty
 |_,_=>aa
def e9 (P:Program) (t:TypeId):J Nat:=(P.info? t).map (·.size)
def El (P:Program) (t:TypeId):J Nat:=(P.info? t).map (·.bytes)
def sA (P:Program) (t:TypeId):J ξ:=((P.info? t).bind (·.zero)).map (·.cells.toList)
def C9 (P:Program) (t:TypeId):J Bool:=(P.underlying t).map λ|.struct _=>M|.array _ _=>M|_=>aa
def Ah (P:Program) (t:TypeId):J TypeId:=match P.underlying t with|some (.slice e)=>Z e|_=>U
def AQ (P:Program) (t:TypeId) (i:Nat):J (Nat×Nat):=match P.underlying t with
 |some (.struct fs)=>(fs[i]?).bind λf=>(e9 P f.type).map (f.offset,·)
 |some (.array _ el)=>(e9 P el).map λs=>(i*s,s)
 |some (.slice el)=>(e9 P el).map λs=>(i*s,s)
 |_=>U
def ww (P:Program) (t:TypeId):Y (Nat×Operand)->J (Y (Nat×Nat×Operand))
 |[]=>Z []
 |(i,x)::r=>match AQ P t i,ww P t r with|some (o,s),Z l=>Z ((o,s,x)::l)|_,_=>U
def mK (z:ξ):Bool:=z.all λv=>v.oneCell'
def HH:TypeDesc->Bool
 |.int _=>M
 |.bool=>M
 |.string=>M
 |_=>aa
def rz (P:Program):Nat→Y Field→J (Y TypeDesc)
 |_,[]=>Z []
 |k,f::r=>match P.underlying f.type,rz P (k+1) r with
  |some d,Z ds=>if f.name != "_" &&f.offset==k&&HH d then Z (d::ds) else U
  |_,_=>U
def YA (P:Program) (t:TypeId):J (Y TypeDesc):=match P.underlying t with
 |some (.struct fs)=>if P.stoodInHeld t then U else rz P 0 fs.toList
 |_=>U
def Rh (P:Program) (c:Call):J Xx:=
 match c.callee with
 |.builtin .len=>(match c.args.toList,c.argTypes.toList with
  |[x],[t]=>(match P.underlying t with
   |some (.slice _)=>Z (.len x)
   |some .string=>Z (.lens x)
   |some (.map _ _)=>Z (.lenm x)
   |_=>U)
  |_,_=>U)
 |.builtin .max=>(match c.args.toList with
  |[x,y]=>Z (.max x y)
  |_=>U)
 |.builtin .min=>(match c.args.toList with
  |[x,y]=>Z (.min x y)
  |_=>U)
 |.builtin .copy=>(match c.args.toList,c.argTypes.toList with
  |[d,x],[t,u]=>(match Ah P t,Ah P u with
   |some el,Z _=>(e9 P el).bind λsz=>if sz !=0 then Z (.copy sz d x) else U
   |_,_=>U)
  |_,_=>U)
 |.builtin .clear=>(match c.args.toList,c.argTypes.toList with
  |[x],[t]=>(Ah P t).bind λel=>(sA P el).bind λz=>(e9 P el).bind λsz=>if mK z&&z.length==sz&&sz !=0 then Z (.clr sz z x) else U
  |_,_=>U)
 |.builtin .append=>(match c.args.toList,c.argTypes.toList with
  |[s,x],[t,u]=>(match Ah P t,Ah P u with
   |some el,Z _=>(e9 P el).bind λsz=>(El P el).bind λb=>(sA P el).bind λz=>if sz !=0&&z.length==sz then Z (.app el sz b s x) else U
   |_,_=>U)
  |_,_=>U)
 |_=>U
def dq (P:Program):Op->J Xx
 |.move x=>Z (.mv x)
 |.assign x=>Z (.mv x)
 |.pick c a b=>Z (.pick c a b)
 |.alloc t=>(sA P t).bind λz=>if mK z then Z (.alloc t z) else U
 |.box t x=>Z (.box t x)
 |.build t ps=>match P.underlying t with
  |some (.struct fs)=>(sA P t).bind λz=>if mK z&&(fs.toList.all λf=>(e9 P f.type).isSome) then (ww P t ps.toList).map (.build z) else U
  |some (.array _ el)=>(sA P t).bind λz=>if mK z&&(e9 P el).isSome then (ww P t ps.toList).map (.build z) else U
  |_=>U
 |.buildSlice t n ps=>(Ah P t).bind λel=>(sA P el).bind λz=>(e9 P el).bind λsz=>if mK z&&z.length==sz&&dP (n*sz) 65536&&sz !=0 then (ww P t ps.toList).map (.bsl el sz n z) else U
 |.load t x=>(e9 P t).bind λsz=>(C9 P t).map λag=>.load sz ag x
 |.store t x v=>(e9 P t).map λsz=>.store sz x v
 |.nilCheck x=>Z (.nilc x)
 |.binOp op t x y _=>match P.underlying t with
  |some (.int _)|some .string=>Z (.bin op x y)
  |some .bool=>(match op with|.eql=>Z (.eqb aa x y)|.neq=>Z (.eqb M x y)|_=>U)
  |some (.slice _)=>(match op,y with
   |.eql,.const (.slice U 0 0)=>Z (.isnil aa x)
   |.neq,.const (.slice U 0 0)=>Z (.isnil M x)
   |_,_=>U)
  |some (.struct _)=>(YA P t).bind λds=>(match op with|.eql=>Z (.eqs aa ds x y)|.neq=>Z (.eqs M ds x y)|_=>U)
  |_=>U
 |.unOp .not _ x=>Z (.not x)
 |.unOp .neg t x=>match P.underlying t with|some (.int k)=>Z (.bin .sub (.const (.int k 0)) x)|_=>U
 |.convert s d x=>match P.underlying s,P.underlying d with|some (.int _),Z (.int k)=>Z (.conv k x)|_,_=>U
 |.makeSlice t l c=>(Ah P t).bind λel=>(sA P el).bind λz=>(e9 P el).bind λsz=>(El P el).bind λb=>if mK z&&z.length==sz&&sz !=0 then Z (.mksl el sz b z l c) else U
 |.slice t x lo hi mx=>(Ah P t).bind λel=>(e9 P el).map λsz=>.slc sz x lo hi mx
 |.fieldAddr t x k=>match P.underlying t with
  |some (.struct fs)=>(fs[k]?).bind λf=>(e9 P f.type).bind λsz=>if sz !=0 then Z (.fad f.offset x) else U
  |_=>U
 |.field t x k=>match P.underlying t with
  |some (.struct fs)=>(fs[k]?).bind λf=>(e9 P f.type).bind λsz=>(C9 P f.type).map λag=>.fld f.offset sz ag x
  |_=>U
 |.indexAddr t x i=>match P.underlying t with
  |some (.slice el)=>(e9 P el).map λsz=>.iad sz x i
  |some (.array n el)=>(e9 P el).map λsz=>.iada n sz x i
  |_=>U
 |.index t x i=>match P.underlying t with
  |some (.array n el)=>(e9 P el).bind λsz=>(C9 P el).map λag=>.idx n sz ag x i
  |some .string=>Z (.sidx x i)
  |_=>U
 |.extract x i=>Z (.ext x i)
 |.makeFunc (.func f) first caps=>if first.isEmpty then Z (.mkf f caps.toList) else U
 |.makeMap t U=>match P.underlying t with|some (.map _ _)=>Z .mkm|_=>U
 |.lookup t x k ok=>match P.underlying t with
  |some (.map q el)=>(match P.underlying q,(P.info? el).bind (·.zero) with
   |some (.int _),Z z=>if z.oneCell' then Z (.lku aa ok z x k) else U
   |some .string,Z z=>if z.oneCell' then Z (.lku M ok z x k) else U
   |_,_=>U)
  |_=>U
 |.mapUpdate t m k v=>match P.underlying t with
  |some (.map q _)=>(match P.underlying q with
   |some (.int _)=>Z (.mup aa m k v)
   |some .string=>Z (.mup M m k v)
   |_=>U)
  |_=>U
 |.range t x=>match P.underlying t with|some .string=>Z (.rng x)|_=>U
 |.next x M=>Z (.nxt x)
 |.call c=>Rh P c
 |_=>U
def Of:Op->J SI
 |.call c=>(match c.callee with
  |.value (.func f)=>Z (.call f c.args.toList)
  |.value (.tmp t)=>Z (.callv (.tmp t) c.args.toList)
  |_=>U)
 |_=>U
def xI (P:Program) (op:Op):SI:=match Of op with
 |some i=>i
 |none=>(match dq P op with|some s=>.op s|none=>.op .bad)
def Xx.still:Xx->Bool
 |.mv _|.pick _ _ _|.build _ _|.nilc _|.bin _ _ _|.eqs _ _ _ _|.isnil _ _|.eqb _ _ _|.not _|.conv _ _|.fad _ _|.fld _ _ _ _|.iad _ _ _|.iada _ _ _ _|.idx _ _ _ _ _|.ext _ _|.max _ _|.min _ _|.sidx _ _|.mkf _ _|.bad=>M
 |_=>aa
def SI.still:SI->Bool
 |.op s=>s.still
 |_=>aa
def rL (P:Program) (ops:Array Oper):Y Oper->J (Y r_)
 |[]=>Z []
 |o::r=>match rL P ops r with
  |some l=>(match o.guard with
   |none=>Z (⟨o.dst,xI P o.op,U⟩::l)
   |some (j,want)=>(match (ops[j]?).bind (·.dst) with
    |some t=>Z (⟨o.dst,xI P o.op,Z (t,want)⟩::l)
    |none=>U))
  |none=>U
def LZ (ops:Array Oper) (l:Y r_):J (Y (Nat×Nat)):=
 let B:=JQ ops.toList []
 if (gx ops.size).all λj=>((ops[j]?).all λoj=>oj.after.toList.all λe=> !yY .any e||decide (e.on<j))&&
     (gx j).all λi=>aP (B.getD j 0) i||(match ops[i]?,ops[j]? with|some oi,Z oj=>oi.apart ops oj|_,_=>aa)
 then Z ((gx ops.size).flatMap λj=>(gx j).filterMap λi=>
  if aP (B.getD j 0) i||(match l[i]?,l[j]? with|some a,Z b=>a.op.still||b.op.still|_,_=>aa) then U else Z (i,j))
 else U
def CW (ops:Array Oper) (d:Bool):J (FuncId×Y Operand×Nat):=match ops.toList,d with
 |[p,q],aa=>(match p.op,p.guard,p.dst,q.op,q.guard,q.dst with
  |.makeFunc (.func f) first caps,U,Z t,.defer c,U,U=>(match c.callee,c.args.toList with
   |.value (.tmp t'),[]=>if ax t t'&&first.isEmpty then Z (f,caps.toList,t) else U
   |_,_=>U)
  |_,_,_,_,_,_=>U)
 |_,_=>U
def co (P:Program) (nt:Nat):Code->SC
 |.skip=>.skip
 |.region _ ops q=>if ops.toList.all λo=>match o.dst with|some d=>decide (d<nt)|none=>M then
   (match CW ops q with
   |some (f,caps,t)=>.defer f caps t
   |none=>(match rL P ops ops.toList with
    |some l=>(match LZ ops l with|some prs=>.reg l prs|none=>.bad)
    |none=>.bad)) else .bad
 |.seq a b=>.seq (co P nt a) (co P nt b)
 |.cond (.tmp c) a b=>.cond c (co P nt a) (co P nt b)
 |.cond (.const (.bool M)) a _=>co P nt a
 |.cond (.const (.bool aa)) _ b=>co P nt b
 |.block id b=>.block id (co P nt b)
 |.loop b=>.loop (co P nt b)
 |.exit id=>.exit id
 |.ret=>.ret
 |_=>.bad
def uM (P:Program):Y ResultVar->J (Y RV)
 |[]=>Z []
 |.tmp t::r=>match uM P r with|some l=>Z (.tmp t::l)|none=>U
 |.cell a t::r=>match uM P r,e9 P t,C9 P t with|some l,Z sz,Z ag=>Z (.cell a sz ag::l)|_,_,_=>U
def yQ (P:Program) (f:FuncId):J SF:=
 match P.funcs[f]? with
 |some fn=>if fn.name== "runtime.NumGoroutine" then U else (match fn.body,uM P fn.results.toList with
  |some c,Z r=>Z ⟨co P fn.ntmps c,r,fn.ntmps⟩
  |_,_=>U)
 |none=>U
inductive Xp where
 |mk (op n:Int) (name:ζ) (l:List Xp)
inductive Sx where
 |mk (op line:Int) (name arg:ζ) (index:List Xp) (expr:Xp) (body els:List Sx)
def Xp.op:Xp->Int|.mk a _ _ _=>a
def Xp.n:Xp->Int|.mk _ a _ _=>a
def Xp.name:Xp->ζ|.mk _ _ a _=>a
def Xp.l:Xp->Y Xp|.mk _ _ _ a=>a
def Sx.op:Sx->Int|.mk a _ _ _ _ _ _ _=>a
def Sx.line:Sx->Int|.mk _ a _ _ _ _ _ _=>a
def Sx.name:Sx->ζ|.mk _ _ a _ _ _ _ _=>a
def Sx.arg:Sx->ζ|.mk _ _ _ a _ _ _ _=>a
def Sx.index:Sx->Y Xp|.mk _ _ _ _ a _ _ _=>a
def Sx.expr:Sx->Xp|.mk _ _ _ _ _ a _ _=>a
def Sx.body:Sx->Y Sx|.mk _ _ _ _ _ _ a _=>a
def Sx.els:Sx->Y Sx|.mk _ _ _ _ _ _ _ a=>a
inductive Ty where
 |int (k:IntKind)
 |bool
 |str
 |sl (t:Ty)
 |st (t:Ty)
 |pr (a b:Ty)
 |un
 |ex
 |sm
 deriving DecidableEq
@[reducible] def Ty.den:Ty->Type
  |.int _=>Int
  |.bool=>Bool
  |.str=>ζ
  |.sl t=>Y t.den
  |.st t=>t.den
  |.pr a b=>a.den×b.den
  |.un=>Unit
  |.ex=>Xp
  |.sm=>Sx
def Ty.size:Ty->Nat
 |.st t=>t.size
 |.pr a b=>a.size+b.size
 |.un=>0
 |.ex=>4
 |.sm=>11
 |_=>1
def Ty.zero:(t:Ty)->t.den
 |.int _=>(0:Int)
 |.bool=>aa
 |.str=>[]
 |.sl _=>[]
 |.st t=>t.zero
 |.pr a b=>(a.zero,b.zero)
 |.un=>()
 |.ex=>.mk 0 0 [] []
 |.sm=>.mk 0 0 [] [] [] (.mk 0 0 [] []) [] []
def Ty.one:Ty->Bool
 |.int _=>M
 |.bool=>M
 |.str=>M
 |.sl _=>M
 |_=>aa
def Mj:Ty:=.pr (.int .i64) (.pr (.int .i64) (.pr .str (.sl .ex)))
def LS:Ty:=.pr (.int .i64) (.pr (.int .i64) (.pr .str (.pr .str (.pr (.sl .ex) (.pr .ex (.pr (.sl .sm) (.sl .sm)))))))
def M0 (e:Xp):Mj.den:=(e.op,e.n,e.name,e.l)
def d9 (x:Mj.den):Xp:=.mk x.1 x.2.1 x.2.2.1 x.2.2.2
def MZ (e:Sx):LS.den:=(e.op,e.line,e.name,e.arg,e.index,e.expr,e.body,e.els)
def oA (x:LS.den):Sx:=.mk x.1 x.2.1 x.2.2.1 x.2.2.2.1 x.2.2.2.2.1 x.2.2.2.2.2.1 x.2.2.2.2.2.2.1 x.2.2.2.2.2.2.2
mutual
def vM:Xp->Y FV
 |.mk op n name l=>[.raw (.int .i64 op),.raw (.int .i64 n),.raw (.string ⟨name.toArray⟩),.sl (IX l) l.length]
def IX:Y Xp->Y FV
 |[]=>[]
 |x::r=>vM x++IX r
end
mutual
def xn:Sx->Y FV
 |.mk op line name arg index expr body els=>[.raw (.int .i64 op),.raw (.int .i64 line),.raw (.string ⟨name.toArray⟩),.raw (.string ⟨arg.toArray⟩),.sl (IX index) index.length]++vM expr++[.sl (IW body) body.length,.sl (IW els) els.length]
def IW:Y Sx->Y FV
 |[]=>[]
 |x::r=>xn x++IW r
end
def bQ:(T:Ty)->T.den->Y FV
 |.int k,n=>[.raw (.int k n)]
 |.bool,b=>[.raw (.bool b)]
 |.str,s=>[.raw (.string ⟨s.toArray⟩)]
 |.sl t,xs=>[.sl (List.flatMap (bQ t) xs) (ah xs)]
 |.st t,v=>bQ t v
 |.pr a b,v=>bQ a v.1++bQ b v.2
 |.un,_=>[]
 |.ex,v=>vM v
 |.sm,v=>xn v
def gi:(T:Ty)->T.den->FV
 |.int k,n=>.raw (.int k n)
 |.bool,b=>.raw (.bool b)
 |.str,s=>.raw (.string ⟨s.toArray⟩)
 |.sl t,xs=>.sl (List.flatMap (bQ t) xs) (ah xs)
 |.st t,v=>.agg (bQ t v)
 |.pr a b,v=>.agg (bQ a v.1++bQ b v.2)
 |.un,_=>.agg []
 |.ex,v=>.agg (vM v)
 |.sm,v=>.agg (xn v)
def Ml:(T:Ty)->T.den->T.den->Bool
 |.int _,a,b=>decide ((a:Int)=b)
 |.bool,a,b=>(a:Bool)==b
 |.str,a,b=>decide ((a:ζ)=b)
 |.st t,a,b=>Ml t a b
 |.pr x y,a,b=>Ml x a.1 b.1&&Ml y a.2 b.2
 |_,_,_=>M
def sI {S:Ty} (T:Ty) (v:S.den):J T.den:=if h:S=T then Z (h▸v) else U
def eZ (j:Int) (n:Nat):Bool:=cO 0 j&&fE j n
def aH {T:Ty} (xs:Y T.den) (j:Int):T.den:=xs.getD j.toNat T.zero
def ct {α:Type} (xs:Y α) (j:Int) (x:α):Y α:=xs.set j.toNat x
def Lm {α:Type} (xs d:Y α):Y α:=d.take xs.length++xs.drop d.length
def gJ (a b:Int):Int:=if fE a b then b else a
def F1 (a b:Int):Int:=if fE b a then b else a
def qD (s:ζ) (j:Int):Int:=aT (s.getD j.toNat 0).toNat
def aF {R:Type} (b:Bool) (t f:J R):J R:=match b with|true=>t|false=>f
def chk {R:Type} (b:Bool) (k:b=M->J R):J R:=match b,k with|true,k=>k rfl|false,_=>U
open Classical in
def Em {R:Type} (a b:J R):J R:=if a=b then a else U
open Classical in
def same {α R:Type} (a b:α) (r:J R):J R:=if a=b then r else U
def av {α R:Type} (o:J α) (k:α->J R):J R:=match o with|some x=>k x|none=>U
def lt {α R:Type} (x:α) (k:α->J R):J R:=k x
def jn {α R:Type} (o:J (R⊕α)) (k:α->J R):J R:=match o with|some (.inr x)=>k x|some (.inl r)=>Z r|none=>U
def iterN {σ R:Type} (step:σ->J (σ⊕R)):Nat->σ->J R
 |0,_=>U
 |n+1,x=>match step x with
  |some (.inl y)=>iterN step n y
  |some (.inr r)=>Z r
  |none=>U
open Classical in
def iter {σ R:Type} (step:σ->J (σ⊕R)) (x:σ):J R:=
 if h:∃n,(iterN step n x).isSome=M then iterN step (Classical.choose h) x else U
def gp {σ R:Type} (step:σ->J (σ⊕R)) (x:σ):J R:=iterN step 18446744073709551616 x
abbrev zE:Type 1:=∀σ R:Type,(σ->J (σ⊕R))->σ->J R
def ly {R:Type} (a b:J R):Prop:=∀y,a=Z y->b=Z y
theorem ly.rfl {R:Type} {a:J R}:ly a a:=λ_ h=>h
theorem ly.bcase {R:Type} {b:Bool} {t f t' f':J R} (h1:ly t t') (h2:ly f f'):ly (AI.aF b t f) (AI.aF b t' f'):=by cases b<;>assumption
theorem ly.chk {R:Type} {b:Bool} {k k':J R} (h:ly k k'):ly (AI.chk b λ_=>k) (AI.chk b λ_=>k'):=by
 cases b with
 |true=>exact h
 |false=>exact λ_ h=>by cases h
theorem ly.obind {α R:Type} {o o':J α} {k k':α->J R} (h:ly o o') (hk:∀x,ly (k x) (k' x)):ly (AI.av o k) (AI.av o' k'):=by
 intro y d;cases o with
 |none=>cases d
 |some x=>rw[h x (by exact Eq.refl _)];exact hk x y d
theorem ly.lt {α R:Type} {x:α} {k k':α->J R} (h:∀y,ly (k y) (k' y)):ly (AI.lt x k) (AI.lt x k'):=h x
theorem ly.jn {α R:Type} {o o':J (R⊕α)} {k k':α->J R} (h:ly o o') (hk:∀x,ly (k x) (k' x)):ly (AI.jn o k) (AI.jn o' k'):=by
 intro y d;cases o with
 |none=>cases d
 |some x=>
  rw[h x (by exact Eq.refl _)];cases x with
  |inl r=>exact d
  |inr a=>exact hk a y d
theorem ly.iterN {σ R:Type} {f g:σ->J (σ⊕R)} (h:∀x,ly (f x) (g x)):∀(n:Nat) (x:σ),ly (AI.iterN f n x) (AI.iterN g n x)
 |0,_=>λ_ h=>by cases h
 |n+1,x=>by
  intro y d;cases hf:f x with
  |none=>rw[AI.iterN,hf]at d;cases d
  |some s=>
   rw[AI.iterN,hf]at d;rw[AI.iterN,h x s hf];cases s with
   |inl z=>exact ly.iterN h n z y d
   |inr r=>exact d
theorem If {σ R:Type} {f:σ->J (σ⊕R)}:∀{n:Nat} {x:σ} {r:R},iterN f n x=Z r->iterN f (n+1) x=Z r
 |0,x,r,h=>by cases h
 |n+1,x,r,h=>by
  cases hf:f x with
  |none=>rw[iterN,hf]at h;cases h
  |some s=>
   cases s with
   |inl y=>rw[iterN,hf]at h;rw[iterN,hf];exact If h
   |inr q=>rw[iterN,hf]at h;rw[iterN,hf];exact h
theorem vD {σ R:Type} {f:σ->J (σ⊕R)} {n m:Nat} {x:σ} {r:R} (h:iterN f n x=Z r) (hle:n<=m):iterN f m x=Z r:=by
 induction hle with
 |refl=>exact h
 |step _ d=>exact If d
theorem Ie {σ R:Type} {f:σ->J (σ⊕R)} {n:Nat} {x:σ} {r:R} (h:iterN f n x=Z r):iter f x=Z r:=by
 have q:∃n,(iterN f n x).isSome=M:=⟨n,by rw[h];exact Eq.refl _⟩
 unfold iter;rw[dif_pos q];have hc:=Classical.choose_spec q;obtain⟨s,d⟩:=iM.1 hc;rw[d];rcases Nat.le_total n (Classical.choose q) with hl|hl
 .rw[vD h hl]at d;exact d.symm
 .rw[vD d hl]at h;exact h
theorem ly.iter {σ R:Type} {f g:σ->J (σ⊕R)} {x:σ} (h:∀x,ly (f x) (g x)):ly (gp f x) (AI.iter g x):=λy d=>Ie (ly.iterN h _ x y d)
def orE {R:Type} (a b:J R):J R:=match a with|some y=>Z y|none=>b
def fuel:Nat:=Classical.choose (⟨100000,rfl⟩:∃n:Nat,n=100000)
theorem qk:fuel=100000:=Classical.choose_spec (⟨100000,rfl⟩:∃n:Nat,n=100000)
def FQ (a:Ty):Ty->Ty
 |.un=>a
 |.int k=>.pr a (.int k)
 |.bool=>.pr a .bool
 |.str=>.pr a .str
 |.sl t=>.pr a (.sl t)
 |.st t=>.pr a (.st t)
 |.pr x y=>.pr a (.pr x y)
 |.ex=>.pr a .ex
 |.sm=>.pr a .sm
def spr:Ty->Ty->Ty
 |.un,b=>b
 |.int k,b=>FQ (.int k) b
 |.bool,b=>FQ .bool b
 |.str,b=>FQ .str b
 |.sl t,b=>FQ (.sl t) b
 |.st t,b=>FQ (.st t) b
 |.pr x y,b=>FQ (.pr x y) b
 |.ex,b=>FQ .ex b
 |.sm,b=>FQ .sm b
def Ph (a:Ty):(b:Ty)->a.den->b.den->(FQ a b).den
 |.un,x,_=>x
 |.int _,x,y=>(x,y)
 |.bool,x,y=>(x,y)
 |.str,x,y=>(x,y)
 |.sl _,x,y=>(x,y)
 |.st _,x,y=>(x,y)
 |.pr _ _,x,y=>(x,y)
 |.ex,x,y=>(x,y)
 |.sm,x,y=>(x,y)
def fsN (a:Ty):(b:Ty)->(FQ a b).den->a.den
 |.un,z=>z
 |.int _,z=>z.1
 |.bool,z=>z.1
 |.str,z=>z.1
 |.sl _,z=>z.1
 |.st _,z=>z.1
 |.pr _ _,z=>z.1
 |.ex,z=>z.1
 |.sm,z=>z.1
def snN (a:Ty):(b:Ty)->(FQ a b).den->b.den
 |.un,_=>()
 |.int _,z=>z.2
 |.bool,z=>z.2
 |.str,z=>z.2
 |.sl _,z=>z.2
 |.st _,z=>z.2
 |.pr _ _,z=>z.2
 |.ex,z=>z.2
 |.sm,z=>z.2
def SJ:(a b:Ty)->a.den->b.den->(spr a b).den
 |.un,_,_,y=>y
 |.int k,b,x,y=>Ph (.int k) b x y
 |.bool,b,x,y=>Ph .bool b x y
 |.str,b,x,y=>Ph .str b x y
 |.sl t,b,x,y=>Ph (.sl t) b x y
 |.st t,b,x,y=>Ph (.st t) b x y
 |.pr u v,b,x,y=>Ph (.pr u v) b x y
 |.ex,b,x,y=>Ph .ex b x y
 |.sm,b,x,y=>Ph .sm b x y
def ND:(a b:Ty)->(spr a b).den->a.den
 |.un,_,_=>()
 |.int k,b,z=>fsN (.int k) b z
 |.bool,b,z=>fsN .bool b z
 |.str,b,z=>fsN .str b z
 |.sl t,b,z=>fsN (.sl t) b z
 |.st t,b,z=>fsN (.st t) b z
 |.pr u v,b,z=>fsN (.pr u v) b z
 |.ex,b,z=>fsN .ex b z
 |.sm,b,z=>fsN .sm b z
def Kx:(a b:Ty)->(spr a b).den->b.den
 |.un,_,z=>z
 |.int k,b,z=>snN (.int k) b z
 |.bool,b,z=>snN .bool b z
 |.str,b,z=>snN .str b z
 |.sl t,b,z=>snN (.sl t) b z
 |.st t,b,z=>snN (.st t) b z
 |.pr u v,b,z=>snN (.pr u v) b z
 |.ex,b,z=>snN .ex b z
 |.sm,b,z=>snN .sm b z
theorem sU (a b:Ty) (x:a.den) (y:b.den):ND a b (SJ a b x y)=x:=by cases a<;>cases b<;>rfl
theorem uu (a b:Ty) (x:a.den) (y:b.den):Kx a b (SJ a b x y)=y:=by cases a<;>cases b<;>rfl
inductive TV where
 |f (T:Ty) (v:T.den)
 |fel (T:Ty) (xs:List T.den) (j:Int) (h:eZ j xs.length=M) (off:Nat)
 |pel (id sz:Nat) (j:Int) (off:Nat)
 |ptr (id off:Nat)
 |row (id:Nat)
 |csl (id sz n:Nat)
 |emp
 |nil
 |mp (id:Nat)
 |agg (l:List TV)
 |tup (l:List TV)
 |clo (g:FuncId) (l:List TV)
 |undef
 |np
 |anyb
 |rtl (id:Nat) (j:Int)
 |ful (T:Ty) (xs:List T.den)
instance cty (n:Nat):OfNat (J TypeId) n:=⟨Z n⟩
inductive ii where
 |rows (ty:TypeId) (p:Bool) (T:Ty) (xs:List T.den)
 |cells (ty:Option TypeId) (l:List TV)
 |dead (p:Bool) (sz n:Nat)
 |mp (K V:Ty) (es:List (K.den×V.den))
abbrev iN:=PT TV
abbrev bn:=PT ii
def cst:Value->J TV
 |.int k n=>Z (.f (.int k) n)
 |.bool b=>Z (.f .bool b)
 |.string s=>Z (.f .str s.data.toList)
 |.slice U 0 0=>Z .nil
 |.pointer U=>Z .np
 |_=>U
def Ju:ξ->J (Y TV)
 |[]=>Z []
 |v::r=>match cst v,Ju r with|some x,Z l=>Z (x::l)|_,_=>U
def afk:Value->J TV
 |.agg vs=>if JM vs.toList then (match Ju vs.toList with|some l=>Z (.agg l)|none=>U) else U
 |v=>cst v
def cellsOf:Nat->(T:Ty)->T.den->J (Y TV)
 |0,_,_=>U
 |n+1,.st t,v=>cellsOf n t v
 |n+1,.pr a b,v=>match cellsOf n a v.1,cellsOf n b v.2 with|some x,Z y=>Z (x++y)|_,_=>U
 |_+1,.un,_=>Z []
 |n+1,.ex,v=>cellsOf n Mj (M0 v)
 |n+1,.sm,v=>cellsOf n LS (MZ v)
 |_+1,.int k,v=>Z [.f (.int k) v]
 |_+1,.bool,v=>Z [.f .bool v]
 |_+1,.str,v=>Z [.f .str v]
 |_+1,.sl t,v=>Z [.f (.sl t) v]
def TV.isC:TV->Bool
 |.f T _=>T.one
 |.fel _ _ _ _ _=>M
 |.pel _ _ _ _=>M
 |.ptr _ _=>M
 |.row _=>M
 |.csl _ _ _=>M
 |.emp=>M
 |.nil=>M
 |.np=>M
 |.mp _=>M
 |.clo _ _=>M
 |_=>aa
def kE:Y TV->Bool
 |[]=>M
 |x::r=>x.isC&&kE r
def TV.cs (v:TV):J (Y TV):=match v with
 |.agg l=>if kE l then Z l else U
 |.f T x=>cellsOf 40 T x
 |x=>if x.isC then Z [x] else U
def ku (i:Nat):Nat:=1<<<i
def ig (h:bn) (T:Ty):TV->J (T.den×Nat)
 |.f _ v=>match sI T v with|some x=>Z (x,0)|none=>U
 |.emp=>(match T with|.sl _=>Z ([],0)|_=>U)
 |.nil=>(match T with|.sl _=>Z ([],0)|_=>U)
 |.row id=>match h.get id with
  |some (.rows _ _ S xs)=>(match sI (S:=.sl S) T xs with|some x=>Z (x,ku id)|none=>U)
  |_=>U
 |_=>U
def eM (h:bn):Nat->(T:Ty)->Y TV->J (T.den×Nat×Y TV)
 |0,_,_=>U
 |n+1,.st t,l=>eM h n t l
 |n+1,.pr a b,l=>match eM h n a l with
  |some (x,m,r)=>(match eM h n b r with|some (y,m',d)=>Z ((x,y),m|||m',d)|none=>U)
  |none=>U
 |_+1,.un,l=>Z ((),0,l)
 |n+1,.ex,l=>match eM h n Mj l with|some (x,m,r)=>Z (d9 x,m,r)|none=>U
 |n+1,.sm,l=>match eM h n LS l with|some (x,m,r)=>Z (oA x,m,r)|none=>U
 |_+1,.int k,l=>match l with|c::r=>(match ig h (.int k) c with|some (x,m)=>Z (x,m,r)|none=>U)|[]=>U
 |_+1,.bool,l=>match l with|c::r=>(match ig h .bool c with|some (x,m)=>Z (x,m,r)|none=>U)|[]=>U
 |_+1,.str,l=>match l with|c::r=>(match ig h .str c with|some (x,m)=>Z (x,m,r)|none=>U)|[]=>U
 |_+1,.sl t,l=>match l with|c::r=>(match ig h (.sl t) c with|some (x,m)=>Z (x,m,r)|none=>U)|[]=>U
def Bz (h:bn) (T:Ty) (v:TV):J (T.den×Nat):=match v with
 |.agg l=>if T.one then U else (match eM h 40 T l with|some (x,m,[])=>Z (x,m)|_=>U)
 |x=>ig h T x
def nW:Nat->(T:Ty)->T.den->Nat->Nat->Bool->J TV
 |0,_,_,_,_,_=>U
 |n+1,.st t,v,off,sz,ag=>if ax off 0&&ax sz t.size&&ag then Z (.f (.st t) v) else nW n t v off sz ag
 |n+1,.pr a b,v,off,sz,ag=>if eQ off a.size then nW n a v.1 off sz ag else nW n b v.2 (off-a.size) sz ag
 |_+1,.un,_,_,_,_=>U
 |n+1,.ex,v,off,sz,ag=>if ax off 0&&ax sz 4&&ag then Z (.f .ex v) else nW n Mj (M0 v) off sz ag
 |n+1,.sm,v,off,sz,ag=>if ax off 0&&ax sz 11&&ag then Z (.f .sm v) else nW n LS (MZ v) off sz ag
 |_+1,.int k,v,off,sz,ag=>if ax off 0&&ax sz 1&& !ag then Z (.f (.int k) v) else U
 |_+1,.bool,v,off,sz,ag=>if ax off 0&&ax sz 1&& !ag then Z (.f .bool v) else U
 |_+1,.str,v,off,sz,ag=>if ax off 0&&ax sz 1&& !ag then Z (.f .str v) else U
 |_+1,.sl t,v,off,sz,ag=>if ax off 0&&ax sz 1&& !ag then Z (.f (.sl t) v) else U
def gO (h:bn) (x:TV):Nat->(T:Ty)->T.den->Nat->Nat->J (T.den×Nat)
 |0,_,_,_,_=>U
 |n+1,.st t,v,off,sz=>match (if ax off 0&&ax sz t.size then Bz h (.st t) x else U) with
  |some y=>Z y
  |none=>gO h x n t v off sz
 |n+1,.pr a b,v,off,sz=>if eQ off a.size then (match gO h x n a v.1 off sz with|some (y,m)=>Z ((y,v.2),m)|none=>U) else (match gO h x n b v.2 (off-a.size) sz with|some (y,m)=>Z ((v.1,y),m)|none=>U)
 |_+1,.un,_,_,_=>U
 |n+1,.ex,v,off,sz=>match (if ax off 0&&ax sz 4 then Bz h .ex x else U) with
  |some y=>Z y
  |none=>(match gO h x n Mj (M0 v) off sz with|some (y,m)=>Z (d9 y,m)|none=>U)
 |n+1,.sm,v,off,sz=>match (if ax off 0&&ax sz 11 then Bz h .sm x else U) with
  |some y=>Z y
  |none=>(match gO h x n LS (MZ v) off sz with|some (y,m)=>Z (oA y,m)|none=>U)
 |_+1,.int k,_,off,sz=>if ax off 0&&ax sz 1 then ig h (.int k) x else U
 |_+1,.bool,_,off,sz=>if ax off 0&&ax sz 1 then ig h .bool x else U
 |_+1,.str,_,off,sz=>if ax off 0&&ax sz 1 then ig h .str x else U
 |_+1,.sl t,_,off,sz=>if ax off 0&&ax sz 1 then ig h (.sl t) x else U
def xZ (h:bn) (T:Ty):Nat->Y TV->J (Y T.den×Nat)
 |0,[]=>Z ([],0)
 |0,_::_=>U
 |n+1,l=>match eM h 40 T l with
  |some (x,m,r)=>(match xZ h T n r with|some (xs,m')=>Z (x::xs,m|||m')|none=>U)
  |none=>U
def sx:Ty->ξ
 |.int k=>[.int k 0]
 |.bool=>[.bool aa]
 |.str=>[.string ⟨#[]⟩]
 |.sl _=>[.slice U 0 0]
 |.st t=>sx t
 |.pr a b=>sx a++sx b
 |.un=>[]
 |.ex=>[.int .i64 0,.int .i64 0,.string ⟨#[]⟩,.slice U 0 0]
 |.sm=>[.int .i64 0,.int .i64 0,.string ⟨#[]⟩,.string ⟨#[]⟩,.slice U 0 0,.int .i64 0,.int .i64 0,.string ⟨#[]⟩,.slice U 0 0,.slice U 0 0,.slice U 0 0]
def Rq:ξ->ξ->Bool
 |[],[]=>M
 |x::xs,y::d=>afr x y&&Rq xs d
 |_,_=>aa
def Ty.flat:Ty->Bool
 |.int _=>M
 |.bool=>M
 |.str=>M
 |.st t=>t.flat
 |.pr a b=>a.flat&&b.flat
 |.un=>M
 |_=>aa
def qH:Y TypeDesc->J Ty
 |[]=>Z .un
 |.int k::r=>match qH r with|some t=>Z (.pr (.int k) t)|none=>U
 |.bool::r=>match qH r with|some t=>Z (.pr .bool t)|none=>U
 |.string::r=>match qH r with|some t=>Z (.pr .str t)|none=>U
 |_=>U
inductive PV where
 |d (T:Ty)
 |ptr (id off:Nat)
 |row (id:Nat)
 |csl (id sz n:Nat)
 |mp (id:Nat)
 |nil
 |emp
 |clo (q:FuncId) (id off:Nat)
 |agg (l:List PV)
inductive PB where
 |rows (ty:TypeId) (p:Bool) (T:Ty)
 |rowsP (ty:TypeId) (T:Ty)
 |cells (ty:Option TypeId) (l:List PV)
 |mp (K V:Ty)
 |gone
mutual
def PV.ty:PV->Ty
 |.d T=>T
 |.agg l=>PV.tyL l
 |.ptr _ _=>.un
 |.row _=>.un
 |.csl _ _ _=>.un
 |.clo _ _ _=>.un
 |.mp _=>.un
 |.nil=>.un
 |.emp=>.un
def PV.tyL:Y PV->Ty
 |[]=>.un
 |p::r=>spr p.ty (PV.tyL r)
end
def PB.ty:PB->Ty
 |.rows _ _ T=>.sl T
 |.rowsP _ T=>.pr .bool (.sl T)
 |.cells _ l=>PV.tyL l
 |.mp K V=>.sl (.pr K V)
 |.gone=>.un
def PB.tyL:Y PB->Ty
 |[]=>.un
 |p::r=>spr p.ty (PB.tyL r)
structure Tm where
 vs:List PV
 bs:List PB
def Tm.ty (t:Tm):Ty:=spr (PV.tyL t.vs) (PB.tyL t.bs)
mutual
def pq (g:Nat->Nat) (h:bn):(p:PV)->Y TV->J (p.ty.den×Nat×Y TV)
 |.d T,l=>eM h 40 T l
 |.ptr i o,l=>match l with|.ptr i' o'::r=>if ax (g i) i'&&ax o o' then Z ((),0,r) else U|_=>U
 |.row i,l=>match l with|.row i'::r=>if ax (g i) i' then Z ((),0,r) else U|_=>U
 |.csl i s n,l=>match l with|.csl i' s' n'::r=>if ax (g i) i'&&ax s s'&&ax n n' then Z ((),0,r) else U|_=>U
 |.clo q i o,l=>match l with|.clo q' [.ptr i' o']::r=>if ax q q'&&ax (g i) i'&&ax o o' then Z ((),0,r) else U|_=>U
 |.mp i,l=>match l with|.mp i'::r=>if ax (g i) i' then Z ((),0,r) else U|_=>U
 |.nil,l=>match l with|.nil::r=>Z ((),0,r)|_=>U
 |.emp,l=>match l with|.nil::r=>Z ((),0,r)|.emp::r=>Z ((),0,r)|_=>U
 |.agg ps,l=>yq g h ps l
def yq (g:Nat->Nat) (h:bn):(ps:Y PV)->Y TV->J ((PV.tyL ps).den×Nat×Y TV)
 |[],l=>Z ((),0,l)
 |p::r,l=>match pq g h p l with
  |some (x,m,l')=>(match yq g h r l' with|some (y,m',l'')=>Z (SJ p.ty (PV.tyL r) x y,m|||m',l'')|none=>U)
  |none=>U
end
def wJ (g:Nat->Nat) (h:bn):(p:PV)->TV->J (p.ty.den×Nat)
 |.d T,v=>Bz h T v
 |.agg ps,v=>if v.isC then U else (match v.cs with
  |some l=>(match yq g h ps l with|some (x,m,[])=>Z (x,m)|_=>U)
  |none=>U)
 |.ptr i o,v=>match pq g h (.ptr i o) [v] with|some (x,m,_)=>Z (x,m)|none=>U
 |.row i,v=>match pq g h (.row i) [v] with|some (x,m,_)=>Z (x,m)|none=>U
 |.csl i s n,v=>match pq g h (.csl i s n) [v] with|some (x,m,_)=>Z (x,m)|none=>U
 |.clo q i o,v=>match pq g h (.clo q i o) [v] with|some (x,m,_)=>Z (x,m)|none=>U
 |.mp i,v=>match pq g h (.mp i) [v] with|some (x,m,_)=>Z (x,m)|none=>U
 |.nil,v=>match pq g h .nil [v] with|some (x,m,_)=>Z (x,m)|none=>U
 |.emp,v=>match pq g h .emp [v] with|some (x,m,_)=>Z (x,m)|none=>U
def xm (g:Nat->Nat) (h:bn):(ps:Y PV)->Y TV->J ((PV.tyL ps).den×Nat)
 |[],[]=>Z ((),0)
 |p::r,v::vs=>match wJ g h p v with
  |some (x,m)=>(match xm g h r vs with|some (y,m')=>Z (SJ p.ty (PV.tyL r) x y,m|||m')|none=>U)
  |none=>U
 |[],_::_=>U
 |_::_,[]=>U
def DY (g:Nat->Nat) (h:bn) (i:Nat):(b:PB)->J (b.ty.den×Nat)
 |.rows ty p T=>match h.get (g i) with
  |some (.rows ty' d S xs)=>if ty==ty'&&p==d then (match sI (S:=.sl S) (.sl T) xs with|some x=>Z (x,0)|none=>U) else U
  |_=>U
 |.rowsP ty T=>match h.get (g i) with
  |some (.rows ty' d S xs)=>if ty==ty' then (match sI (S:=.sl S) (.sl T) xs with|some x=>Z ((d,x),0)|none=>U) else U
  |_=>U
 |.cells ty ps=>match h.get (g i) with
  |some (.cells ty' l)=>if ty==ty' then (match yq g h ps l with|some (x,m,[])=>Z (x,m)|_=>U) else U
  |_=>U
 |.mp K V=>match h.get (g i) with
  |some (.mp K' V' es)=>(match sI (S:=.sl (.pr K' V')) (.sl (.pr K V)) es with|some x=>Z (x,0)|none=>U)
  |_=>U
 |.gone=>Z ((),0)
def Ag (g:Nat->Nat) (h:bn):Nat->(bs:Y PB)->J ((PB.tyL bs).den×Nat)
 |_,[]=>Z ((),0)
 |i,b::r=>match DY g h i b with
  |some (x,m)=>(match Ag g h (i+1) r with|some (y,m')=>Z (SJ b.ty (PB.tyL r) x y,m|||m')|none=>U)
  |none=>U
mutual
def pI (g:Nat->Nat):(p:PV)->p.ty.den->J (Y TV)
 |.d T,x=>cellsOf 40 T x
 |.ptr i o,_=>Z [.ptr (g i) o]
 |.row i,_=>Z [.row (g i)]
 |.csl i s n,_=>Z [.csl (g i) s n]
 |.mp i,_=>Z [.mp (g i)]
 |.clo q i o,_=>Z [.clo q [.ptr (g i) o]]
 |.nil,_=>Z [.nil]
 |.emp,_=>Z [.emp]
 |.agg ps,x=>qF g ps x
def qF (g:Nat->Nat):(ps:Y PV)->(PV.tyL ps).den->J (Y TV)
 |[],_=>Z []
 |p::r,x=>match pI g p (ND p.ty (PV.tyL r) x) with
  |some a=>(match qF g r (Kx p.ty (PV.tyL r) x) with|some b=>Z (a++b)|none=>U)
  |none=>U
end
def sN (g:Nat->Nat):(p:PV)->p.ty.den->J TV
 |.d T,x=>Z (.f T x)
 |.ptr i o,_=>Z (.ptr (g i) o)
 |.row i,_=>Z (.row (g i))
 |.csl i s n,_=>Z (.csl (g i) s n)
 |.mp i,_=>Z (.mp (g i))
 |.clo q i o,_=>Z (.clo q [.ptr (g i) o])
 |.nil,_=>Z .nil
 |.emp,_=>Z .emp
 |.agg ps,x=>match qF g ps x with|some l=>Z (.agg l)|none=>U
def pQ (g:Nat->Nat):(ps:Y PV)->(PV.tyL ps).den->J (Y TV)
 |[],_=>Z []
 |p::r,x=>match sN g p (ND p.ty (PV.tyL r) x) with
  |some a=>(match pQ g r (Kx p.ty (PV.tyL r) x) with|some b=>Z (a::b)|none=>U)
  |none=>U
def BV (g:Nat->Nat):(b:PB)->b.ty.den->J (J ii)
 |.rows ty p T,x=>Z (Z (.rows ty p T x))
 |.rowsP ty T,x=>Z (Z (.rows ty x.1 T x.2))
 |.cells ty ps,x=>match qF g ps x with|some l=>Z (Z (.cells ty l))|none=>U
 |.mp K V,x=>Z (Z (.mp K V x))
 |.gone,_=>Z U
def uC:ii->ii
 |.rows _ p T xs=>.dead p T.size xs.length
 |.cells _ _=>.dead M 0 0
 |.mp _ _ _=>.dead M 0 0
 |.dead p sz n=>.dead p sz n
def kill (h:bn) (i:Nat):bn:=match h.get i with
 |some b=>h.set i (Z (uC b))
 |none=>h
def om (g:Nat->Nat):(bs:Y PB)->(PB.tyL bs).den->J (Y (J ii))
 |[],_=>Z []
 |b::r,x=>match BV g b (ND b.ty (PB.tyL r) x) with
  |some c=>(match om g r (Kx b.ty (PB.tyL r) x) with|some l=>Z (c::l)|none=>U)
  |none=>U
def zM (g:Nat->Nat):Nat->Y (J ii)->bn->bn
 |_,[],h=>h
 |i,Z c::r,h=>zM g (i+1) r (h.set (g i) (Z c))
 |i,U::r,h=>zM g (i+1) r (kill h (g i))
def LY (g:Nat->Nat) (bs:Y PB) (x:(PB.tyL bs).den) (h:bn):J bn:=match om g bs x with
 |some l=>Z (zM g 0 l h)
 |none=>U
def uy {K V:Ty} (k:K.den):Y (K.den×V.den)->J V.den
 |[]=>U
 |(k',v)::r=>if Ml K k k' then Z v else uy k r
def H0 {K V:Ty} (k:K.den) (v:V.den):Y (K.den×V.den)->Y (K.den×V.den)
 |[]=>[(k,v)]
 |(k',d)::r=>if Ml K k k' then (k,v)::r else (k',d)::H0 k v r
def af9 {K V:Ty} (k:K.den) (es:Y (K.den×V.den)):Bool:=match uy k es with|some _=>M|none=>aa
def ER {K V:Ty} (k:K.den) (es:Y (K.den×V.den)) (z:V.den):V.den:=match uy k es with|some v=>v|none=>z
def ai7 (T:Ty):Nat->Ty
 |0=>.un
 |1=>T
 |n+2=>.pr T (ai7 T (n+1))
def kwT:Ty:=.st (ai7 .str 22)
def kwV:kwT.den:=([118,97,114],[118,111,108,97,116,105,108,101],[109,117,116,101,120],[114,119,108,111,99,107],[99,111,110,100],[102,117,116,117,114,101],[116,104,114,101,97,100],[105,102],[101,108,115,101],[119,104,105,108,101],[108,111,99,107],[114,101,97,100],[119,114,105,116,101],[116,114,97,110,115,97,99,116,105,111,110],[97,116,111,109,105,99],[119,97,105,116],[110,111,116,105,102,121],[110,111,116,105,102,121,97,108,108],[115,112,97,119,110],[106,111,105,110],[115,101,116],[103,101,116])
@[simp] theorem dL {R:Type} (t f:J R):aF M t f=t:=Eq.trans rfl rfl
@[simp] theorem d8 {R:Type} (t f:J R):aF aa t f=f:=Eq.trans rfl rfl
@[simp] theorem chk_t {R:Type} (k:M=M->J R):chk M k=k rfl:=Eq.trans rfl rfl
theorem cJ {R:Type} {b:Bool} (h:b=M) (k:J R):chk b (λ_=>k)=k:=by cases b with|true=>rfl|false=>cases h
@[simp] theorem dD {α R:Type} (x:α) (k:α->J R):av (Z x) k=k x:=Eq.trans rfl rfl
@[simp] theorem mr {α R:Type} (x:α) (k:α->J R):jn (Z (.inr x)) k=k x:=Eq.trans rfl rfl
@[simp] theorem jn_l {α R:Type} (r:R) (k:α->J R):jn (Z (.inl r)) k=Z r:=Eq.trans rfl rfl
theorem abt {σ R:Type} {f:σ->J (σ⊕R)} {n:Nat} {x:σ} {r:R} (h:iterN f n x=Z r) (hn:n<=18446744073709551616):gp f x=Z r:=vD h hn
theorem ym {σ R:Type} {f:σ->J (σ⊕R)} (n:Nat) (hn:n<18446744073709551616) (st:Nat->σ) {r:R} (h0:∀i,i<n->f (st i)=Z (.inl (st (i+1)))) (h1:f (st n)=Z (.inr r)):gp f (st 0)=Z r:=by
 have key:∀k i,i+k=n->iterN f (k+1) (st i)=Z r:=by
  intro k;induction k with
  |zero=>intro i hi;have:i=n:=by omega
         subst this;simp only[iterN,h1]
  |succ k d=>intro i hi;rw[iterN,h0 i (by omega)];exact d (i+1) (by omega)
 exact abt (key n 0 (by omega)) (by omega)
@[simp] theorem Y4 {a b:Int}:cO a b=M↔a<=b:=by unfold cO;simp
@[simp] theorem Y3 {a b:Int}:fE a b=M↔a<b:=by unfold fE;simp
theorem qG {a b:Int} (h:a<=b):cO a b=M:=Y4.2 h
theorem vH {a b:Int} (h:a<b):fE a b=M:=Y3.2 h
theorem Y5 {a b:Int} (h:b<a):cO a b=aa:=by unfold cO;simp;omega
theorem yn {a b:Int} (h:b<=a):fE a b=aa:=by unfold fE;simp;omega
theorem aic {j:Int} {n:Nat} (h0:0<=j) (h1:j<n):eZ j n=M:=by unfold eZ;rw[qG h0,vH h1];rfl
theorem db {j n:Nat} (h1:j<n):eZ (j:Int) n=M:=aic (by omega) (by omega)
theorem wu {n b:Nat} (h0:n<=1099511627776) (h1:n*b<=1099511627776):be n b=M:=by
 unfold be;rw[bw h0,bw h1];rfl
theorem adx {n:Int} (h0: -9223372036854775808<=n) (h1:n<=9223372036854775807):ba .i64 n=n:=by
 rw[G1];unfold LK;simp only[];rw[qG h0,qG h1];rfl
theorem qK {i n:Nat} (h:i<n) (hn:n<=1099511627776):ba .i64 ((i:Int)+1)=((i+1:Nat):Int):=by
 rw[adx (by omega) (by omega)];omega
theorem tK (a b:Nat):gJ (aT a) (aT b)=((max a b:Nat):Int):=by
 unfold gJ;by_cases h:a<b
 .rw[vH (by simp;omega),aW rfl];simp;omega
 .rw[yn (by simp;omega)];simp;omega
theorem tQ {T:Ty} (xs:Y T.den) (i:Nat):aH xs (i:Int)=xs.getD i T.zero:=by unfold aH;simp
theorem re (xs:Y η) (i:Nat):aH (T:=.sl (.int .i64)) xs (i:Int)=xs.getD i []:=tQ (T:=.sl (.int .i64)) xs i
theorem afd (xs:η) (i:Nat):aH (T:=.int .i64) xs (i:Int)=xs.getD i 0:=tQ (T:=.int .i64) xs i
theorem gy {α:Type} (xs:Y α) (i:Nat) (x:α):ct xs (i:Int) x=xs.set i x:=by unfold ct;simp
structure cj where
 pre:Tm
 post:Tm
 m:pre.ty.den->Option post.ty.den
mutual
def aeg:PV->Y TV->PT Nat->PT Nat×Y TV
 |.d T,l,σ=>(σ,l.drop T.size)
 |.ptr i _,l,σ=>match l with|.ptr a _::r=>(σ.set i (Z a),r)|l=>(σ,l.drop 1)
 |.row i,l,σ=>match l with|.row a::r=>(σ.set i (Z a),r)|l=>(σ,l.drop 1)
 |.csl i _ _,l,σ=>match l with|.csl a _ _::r=>(σ.set i (Z a),r)|l=>(σ,l.drop 1)
 |.mp i,l,σ=>match l with|.mp a::r=>(σ.set i (Z a),r)|l=>(σ,l.drop 1)
 |.clo _ i _,l,σ=>match l with|.clo _ [.ptr a _]::r=>(σ.set i (Z a),r)|l=>(σ,l.drop 1)
 |.nil,l,σ=>(σ,l.drop 1)
 |.emp,l,σ=>(σ,l.drop 1)
 |.agg ps,l,σ=>Uo ps l σ
def Uo:Y PV->Y TV->PT Nat->PT Nat×Y TV
 |[],l,σ=>(σ,l)
 |p::r,l,σ=>match aeg p l σ with|(σ',l')=>Uo r l' σ'
end
def aiq (p:PV) (v:TV) (σ:PT Nat):PT Nat:=match p with
 |.d _=>σ
 |p=>match v.cs with|some l=>(aeg p l σ).1|none=>σ
def ZM:Y PV->Y TV->PT Nat->PT Nat
 |p::r,v::vs,σ=>ZM r vs (aiq p v σ)
 |_,_,σ=>σ
def Up (h:bn):Nat->Y PB->PT Nat->PT Nat
 |_,[],σ=>σ
 |i,b::r,σ=>Up h (i+1) r (match b with
  |.cells _ ps=>(match σ.get i with
   |some a=>(match h.get a with|some (.cells _ l)=>(Uo ps l σ).1|_=>σ)
   |none=>σ)
  |_=>σ)
def ie (σ:PT Nat) (i:Nat):Nat:=match σ.get i with|some a=>a|none=>0
def Yp (σ:PT Nat):Nat->Nat->Nat->J Nat
 |0,_,acc=>Z acc
 |n+1,i,acc=>match σ.get i with
  |some a=>if aP acc a then U else Yp σ n (i+1) (acc|||ku a)
  |none=>U
def idn:Nat->PT Nat
 |0=>.leaf
 |n+1=>(idn n).set n (Z n)
def Vf (σ:PT Nat):Nat->Bool
 |0=>M
 |n+1=>(match σ.get n with|some a=>ax a n|none=>aa)&&Vf σ n
structure aes (t:Tm) where
 x:t.ty.den
 m:Nat
 σ:PT Nat
 sm:Nat
def Dz (np:Nat) (t:Tm) (vs:Y TV) (h:bn):J (aes t):=
 Qd (Up h 0 t.bs (Up h 0 t.bs (ZM t.vs vs (idn np)))) λσ=>
 match Yp σ t.bs.length 0 0 with
 |some sm=>(match xm (ie σ) h t.vs vs with
  |some (x,m)=>(match Ag (ie σ) h 0 t.bs with
   |some (y,m')=>if CS (m|||m') sm&&Vf σ np then Z ⟨SJ _ _ x y,m|||m',σ,sm⟩ else U
   |none=>U)
  |none=>U)
 |none=>U
def PT.updI {α:Type} (f:Nat->α->α):Nat->Nat->PT α->PT α
 |_,_,.leaf=>.leaf
 |a,b,.node v l r=>.node (match v with|some x=>Z (f b x)|none=>U) (PT.updI f (2*a) (a+b) l) (PT.updI f (2*a) (2*a+b) r)
def d_ (m:Nat) (h:bn):bn:=if ax m 0 then h else PT.updI (λi b=>if aP m i then uC b else b) 1 0 h
def SU:Operand->Bool
 |.const (.agg _)=>M
 |_=>aa
def fd (e:iN):Operand->J TV
 |.tmp t=>e.get t
 |.const v=>afk v
 |.func g=>Z (.clo g [])
 |.global g=>match G g with|some _=>Z (.fel kwT [kwV] 0 (Eq.refl M) 0)|none=>U
def EM (e:iN):Y Operand->J (Y TV)
 |[]=>Z []
 |x::xs=>match fd e x with|some y=>(match EM e xs with|some d=>Z (y::d)|none=>U)|none=>U
def IK (cells:Y TV) (e:iN):Y (Nat×Nat×Operand)->J (Y TV)
 |[]=>Z cells
 |(off,sz,x)::r=>match fd e x with
  |some v=>(match v.cs with
   |some cs=>if cs.length==sz&&dP (off+sz) cells.length then IK (splice cells off cs) e r else U
   |none=>U)
  |none=>U
def Si (l:Y TV) (off sz:Nat):Bool->J TV
 |false=>if ax sz 1 then l[off]? else U
 |true=>if dP (off+sz) l.length then Z (.agg ((l.drop off).take sz)) else U
def ej (h:bn) (id:Nat):J (Bool×Nat×Nat):=match h.get id with
 |some (.rows _ p T xs)=>Z (p,T.size,xs.length)
 |some (.dead p sz n)=>Z (p,sz,n)
 |_=>U
def lenOf (h:bn):TV->J Nat
 |.f (.sl _) xs=>Z (ah xs)
 |.emp=>Z 0
 |.nil=>Z 0
 |.row id=>match ej h id with|some (_,_,n)=>Z n|none=>U
 |.csl _ _ n=>Z n
 |_=>U
mutual
def KH (h:bn):TV->Bool
 |.row id=>(ej h id).isSome
 |.rtl id _=>(ej h id).isSome
 |.ful _ _=>M
 |.agg l=>kS h l
 |.tup l=>kS h l
 |.clo _ l=>kS h l
 |.f _ _=>M
 |.fel _ _ _ _ _=>M
 |.pel _ _ _ _=>M
 |.ptr _ _=>M
 |.csl _ _ _=>M
 |.emp=>M
 |.nil=>M
 |.mp _=>M
 |.undef=>M
 |.np=>M
 |.anyb=>M
def kS (h:bn):Y TV->Bool
 |[]=>M
 |x::r=>KH h x&&kS h r
end
mutual
def KJ (n:Nat):TV->Bool
 |.row id=>eQ id n
 |.rtl id _=>eQ id n
 |.ful _ _=>M
 |.pel id _ _ _=>eQ id n
 |.ptr id _=>eQ id n
 |.csl id _ _=>eQ id n
 |.mp id=>eQ id n
 |.agg l=>qZ n l
 |.tup l=>qZ n l
 |.clo _ l=>qZ n l
 |.f _ _=>M
 |.fel _ _ _ _ _=>M
 |.emp=>M
 |.nil=>M
 |.undef=>M
 |.np=>M
 |.anyb=>M
def qZ (n:Nat):Y TV->Bool
 |[]=>M
 |x::r=>KJ n x&&qZ n r
end
def B_ (t:Tm) (x:t.ty.den):J (Y TV×bn):=
 match pQ (λi=>i) t.vs (ND _ _ x) with
 |some vs=>(match LY (λi=>i) t.bs (Kx _ _ x) PT.leaf with
  |some h=>if kS h vs&&qZ t.bs.length vs&&PT.all (λ_ b=>match b with|.cells _ l=>kS h l&&qZ t.bs.length l|_=>M) 1 0 h then Z (vs,h) else U
  |none=>U)
 |none=>U
abbrev KO (R:Type):=TV->Nat->Nat->bn->Nat->J R
def O5:Y TV->TV
 |[x]=>x
 |l=>.tup l
def AX:Y PB->Bool
 |[]=>M
 |.gone::_=>aa
 |_::r=>AX r
def Hl:Y PB->Bool
 |[]=>M
 |.rows _ _ _::r=>Hl r
 |_::_=>aa
def tg (h h2:bn) (g:Nat->Nat):Nat->Bool
 |0=>M
 |n+1=>(match ej h (g n) with
  |some (p,s,k)=>(match ej h2 (g n) with|some (d,s',k')=>(p==d)&&ax s s'&&ax k k'|none=>aa)
  |none=>M)&&tg h h2 g n
def Vx {R:Type} (con:FuncId->J cj) (f:FuncId) (l:Y TV) (h:bn) (nx:Nat) (K:KO R):J R:=
 match con f with
 |some c=>(match Dz 0 c.pre l h with
  |some ⟨x,m,σ,sm⟩=>(match B_ c.pre x with
   |some _=>av (c.m x) λy=>(match B_ c.post y with
    |some _=>if dP c.pre.bs.length c.post.bs.length&&AX c.pre.bs then
      let np:=c.pre.bs.length
      let d:=c.post.bs.length-np
      let g:=λi=>if eQ i np then ie σ i else nx+(i-np)
      (match pQ g c.post.vs (ND _ _ y) with
      |some rs=>if !(ax m 0)&&ax c.post.bs.length 0&&(PV.tyL c.post.vs).flat then K (O5 rs) m 0 h nx else
       (match LY g c.post.bs (Kx _ _ y) (d_ m h) with
       |some h2=>chk (tg h h2 g np) λ_=>K (O5 rs) (sm|||m) (sm|||m|||(((1<<<d)-1)<<<nx)) h2 (nx+d)
       |none=>U)
      |none=>U) else if ax c.post.bs.length 0&&Hl c.pre.bs then
      let np:=c.pre.bs.length
      let g:=λi=>if eQ i np then ie σ i else nx+(i-np)
      (match pQ g c.post.vs (ND _ _ y) with
      |some rs=>(match LY g c.pre.bs (Kx _ _ x) (d_ m h) with
       |some h2=>K (O5 rs) (sm|||m) m h2 nx
       |none=>U)
      |none=>U) else U
    |none=>U)
   |none=>U)
  |none=>U)
 |none=>U
def afq {R:Type} (op:BinOp) (x y:TV) (q:TV->J R):J R:=
 match x,y with
 |.f (.int k) a,.f (.int k') b=>if k==k' then
   (match op with
   |.add=>q (.f (.int k) (ba k (a+b)))
   |.sub=>q (.f (.int k) (ba k (a-b)))
   |.mul=>q (.f (.int k) (ba k (a*b)))
   |.rem=>chk (!decide ((b:Int)=0)) λ_=>q (.f (.int k) (bu a b))
   |.quo=>chk (!decide ((b:Int)=0)) λ_=>q (.f (.int k) (ba k (Int.tdiv a b)))
   |.eql=>q (.f .bool (decide ((a:Int)=b)))
   |.neq=>q (.f .bool (!decide ((a:Int)=b)))
   |.lss=>q (.f .bool (fE a b))
   |.leq=>q (.f .bool (cO a b))
   |.gtr=>q (.f .bool (fE b a))
   |.geq=>q (.f .bool (cO b a))
   |_=>U)
  else U
 |.f .str a,.f .str b=>match op with
   |.eql=>q (.f .bool (decide ((a:ζ)=b)))
   |.neq=>q (.f .bool (!decide ((a:ζ)=b)))
   |_=>U
 |_,_=>U
def Wc:Bool->Ty->Bool
 |false,.int _=>M
 |true,.str=>M
 |_,_=>aa
abbrev itK:Ty:=.st (.pr .str (.int .i64))
def isIt:Ty->Bool
 |.st (.pr .str (.int .i64))=>M
 |_=>aa
def SH (K:Ty):Bool:= !isIt K
def G9:Y ((ζ×Int)×Unit)->ζ
 |[]=>[]
 |e::_=>e.1.1
def F0:Y ((ζ×Int)×Unit)->Nat
 |[]=>0
 |e::_=>aO e.1.2
def M8 (s:ζ) (p:Nat):Int:=rnA (List.getD s p 0) ⟨eR s⟩ p
def Sa (s:ζ) (p:Nat):Nat:=wdA (List.getD s p 0) ⟨eR s⟩ p
def itE:(K V:Ty)->Y (K.den×V.den)->J (ζ×Nat)
 |.st (.pr .str (.int .i64)),.un,es=>Z (G9 es,F0 es)
 |_,_,_=>U
def mpE:(K V:Ty)->Y (K.den×V.den)->Bool
 |.un,.un,[]=>M
 |_,_,_=>aa
def wZ (T:Ty):Y TV->J (Y T.den)
 |[]=>Z []
 |.f S v::r=>match sI (S:=S) T v with
  |some x=>(match wZ T r with|some l=>Z (x::l)|none=>U)
  |none=>U
 |_::_=>U
def ZR:Y TV->J ((T:Ty)×Y T.den)
 |.f T v::r=>match wZ T (.f T v::r) with|some l=>Z ⟨T,l⟩|none=>U
 |_=>U
def aid (n sz:Nat) (v:TV):Bool->J ((T:Ty)×Y T.den)
 |true=>U
 |false=>if ax sz 1&& !v.isC then (match v.cs with|some l=>if ax l.length n then ZR l else U|none=>U) else U
def arrB (n sz off:Nat):J ii->J ((T:Ty)×Y T.den)
 |some (.cells (Z _) l)=>if ax sz 1&&ax off 0&&ax l.length n then ZR l else U
 |_=>U
def aed:Ty->Nat
 |.pr .un t=>aed t+1
 |_=>0
def C1:J Ty->J Nat
 |some (.pr .un t)=>Z (aed t)
 |_=>U
def aee {R:Type} (ty:TypeId) (sz bytes:Nat) (b y:TV) (h:bn) (nx:Nat) (K:KO R):J R:=match y with
 |.csl id2 sz2 m=>(match h.get id2 with
  |some (.cells (Z _) l2)=>if ax sz2 sz&&ax l2.length (m*sz)&& !(ax m 0) then (match b with
   |.csl id sz1 n=>(match h.get id with
    |some (.cells (Z ty1) l)=>if ax sz1 sz&&ty1==ty&&ax l.length (n*sz)&& !(ax id id2) then
      chk (be (n+m) bytes) λ_=>K (.csl nx sz (n+m)) (ku id|||ku id2) (ku id|||ku nx) ((h.set id (Z (.dead M 0 0))).set nx (Z (.cells (Z ty) (l++l2)))) (nx+1) else U
    |_=>U)
   |.nil=>chk (be m bytes) λ_=>K (.csl nx sz m) (ku id2) (0|||ku nx) ((d_ 0 h).set nx (Z (.cells (Z ty) l2))) (nx+1)
   |_=>U) else U
  |_=>U)
 |_=>U
def pkT (ok:Bool) (v b:TV):TV:=match ok with|true=>.tup [v,b]|false=>v
def dU {R:Type} (con:FuncId->J cj) (b8:TypeId->J Ty) (o:SI) (e:iN) (h:bn) (nx:Nat) (K:KO R):J R:=
 match o with
 |.call f args=>match EM e args with|some l=>Vx con f l h nx K|none=>U
 |.callv x args=>match fd e x,EM e args with
  |some (.clo f cap),Z l=>Vx con f (l++cap) h nx K
  |_,_=>U
 |.op s=>match s with
  |.mksl ty sz bytes z l c=>match C1 (b8 ty) with
   |some n=>(match Ju z,fd e l,fd e c with
    |some F,Z (.f (.int _) a),Z (.f (.int _) b)=>chk (cO 0 a&&cO a b&&be (aO b) bytes&&decide ((a:Int)=aT n)) λ_=>K (.csl nx sz n) 0 (0|||ku nx) ((d_ 0 h).set nx (Z (.cells (Z ty) (aA n F).flatten))) (nx+1)
    |_,_,_=>U)
   |none=>match b8 ty,fd e l,fd e c with
   |some T,Z (.f (.int _) a),Z (.f (.int _) b)=>if ax sz T.size&&Rq z (sx T) then
     chk (cO 0 a&&cO a b&&be (aO b) bytes) λ_=>K (.row nx) 0 (ku nx) (h.set nx (Z (.rows ty aa T (aA (aO a) T.zero)))) (nx+1) else U
   |_,_,_=>U
  |.bsl ty sz len z parts=>match C1 (b8 ty) with
   |some _=>(match Ju z with
    |some F=>(match IK ((aA len F).flatten) e parts with
     |some cs=>if ax len 0 then U else K (.csl nx sz len) 0 (0|||ku nx) ((d_ 0 h).set nx (Z (.cells (Z ty) cs))) (nx+1)
     |none=>U)
    |none=>U)
   |none=>match b8 ty,Ju z with
   |some T,Z F=>if ax sz T.size then (match IK ((aA len F).flatten) e parts with
    |some cs=>(match xZ h T len cs with
     |some (xs,m)=>K (.row nx) m (m|||ku nx) ((d_ m h).set nx (Z (.rows ty (ax len 0) T xs))) (nx+1)
     |none=>U)
    |none=>U) else U
   |_,_=>U
  |.app ty sz bytes s x=>match C1 (b8 ty) with
   |some _=>(match fd e s,fd e x with
    |some b,Z y=>aee ty sz bytes b y h nx K
    |_,_=>U)
   |none=>match b8 ty,fd e s,fd e x with
   |some T,Z b,Z y=>if ax sz T.size then (match Bz h (.sl T) y with
    |some (q,m)=>(match b with
     |.row id=>(match h.get id with
      |some (.rows ty' p S xs)=>(match sI (S:=.sl S) (.sl T) xs with
       |some xs=>if ty'==ty&& !(aP m id) then
         chk (be (ah xs+ah q) bytes) λ_=>K (.row nx) (ku id|||m) (ku id|||ku nx) ((h.set id (Z (.dead p sz (ah xs)))).set nx (Z (.rows ty p T (xs++q)))) (nx+1)
        else U
       |none=>U)
      |_=>U)
     |.ful S xs=>if ax m 0 then (match sI (S:=.sl S) (.sl T) xs with
      |some xs=>chk (be (ah xs+ah q) bytes) λ_=>aF (ax (ah q) 0) (K (.f (.sl T) xs) 0 0 h nx) (K (.row nx) 0 (0|||ku nx) ((d_ 0 h).set nx (Z (.rows ty aa T (xs++q)))) (nx+1))
      |none=>U) else U
     |.emp=>chk (be (ah q) bytes) λ_=>K (.row nx) m (ku nx) (h.set nx (Z (.rows ty M T q))) (nx+1)
     |.nil=>chk (be (ah q) bytes) λ_=>K (.row nx) m (ku nx) (h.set nx (Z (.rows ty M T q))) (nx+1)
     |_=>U)
    |none=>U) else U
   |_,_,_=>U
  |.copy sz d x=>match fd e d,fd e x with
   |some (.row id),Z y=>(match h.get id with
    |some (.rows ty p T xs)=>if ax sz T.size then (match Bz h (.sl T) y with
     |some (q,m)=>if !(aP m id)&& !p then
       K (.f (.int .i64) (aT (iQ (ah q) (ah xs)))) (ku id|||m) (ku id) (h.set id (Z (.rows ty p T (Lm xs q)))) nx else U
     |none=>U) else U
    |_=>U)
   |_,_=>U
  |.clr sz z x=>match fd e x with
   |some (.rtl id j)=>(match h.get id with
    |some (.rows ty p T xs)=>if (ax sz T.size&&Rq z (sx T))&&mK z then
      chk (cO 0 j&&fE j (ah xs)) λ_=>K (.tup []) (ku id) (0|||ku id) ((d_ 0 h).set id (Z (.rows ty p T (dj (aO j) xs++aA (ah xs-aO j) T.zero)))) nx
     else U
    |_=>U)
   |_=>U
  |.mv x=>match fd e x with|some v=>K v 0 0 h nx|none=>U
  |.pick c a b=>match fd e c with
   |some (.f .bool t)=>aF t (match fd e a with|some v=>K v 0 0 h nx|none=>U) (match fd e b with|some v=>K v 0 0 h nx|none=>U)
   |_=>U
  |.alloc ty z=>match Ju z with
   |some l=>K (.ptr nx 0) 0 (ku nx) (h.set nx (Z (.cells (Z ty) l))) (nx+1)
   |none=>U
  |.box ty x=>match fd e x with
   |some v=>(match v.cs with|some l=>K (.ptr nx 0) 0 (ku nx) (h.set nx (Z (.cells (Z ty) l))) (nx+1)|none=>U)
   |none=>U
  |.build z parts=>match Ju z with
   |some l=>(match IK l e parts with|some cs=>K (.agg cs) 0 0 h nx|none=>U)
   |none=>U
  |.load sz ag x=>match fd e x with
   |some (.ptr id off)=>(match h.get id with
    |some (.cells (Z _) l)=>(match Si l off sz ag with|some v=>K v (ku id) 0 h nx|none=>U)
    |_=>U)
   |some (.pel id sz' j off)=>(match h.get id with
    |some (.rows _ _ T xs)=>if ax sz' T.size then chk (eZ j xs.length) λ_=>(match nW 40 T (aH xs j) off sz ag with|some v=>K v (ku id) 0 h nx|none=>U) else U
    |some (.cells (Z _) l)=>(match ag with
     |true=>U
     |false=>if ax sz 1&&ax sz' 1&&ax off 0 then (match ZR l with
      |some ⟨T,xs⟩=>chk (eZ j l.length) λ_=>K (.f T (aH xs j)) (ku id) 0 h nx
      |none=>U) else U)
    |_=>U)
   |some (.fel T xs j _ off)=>(match nW 40 T (aH xs j) off sz ag with|some v=>K v 0 0 h nx|none=>U)
   |_=>U
  |.store sz x v=>match fd e x,fd e v with
   |some (.ptr id off),Z y=>(match h.get id with
    |some (.cells (Z ty) l)=>(match y.cs with
     |some cs=>if cs.length==sz&&dP (off+sz) l.length then K .undef (ku id) (ku id) (h.set id (Z (.cells (Z ty) (splice l off cs)))) nx else U
     |none=>U)
    |_=>U)
   |some (.pel id sz' j off),Z y=>(match h.get id with
    |some (.rows ty p T xs)=>if ax sz' T.size then chk (eZ j xs.length) λ_=>(match gO h y 40 T (aH xs j) off sz with
     |some (z,m)=>if aP m id then U else K .undef (m|||ku id) (m|||ku id) ((d_ m h).set id (Z (.rows ty p T (ct xs j z)))) nx
     |none=>U) else U
    |some (.cells (Z ty) l)=>if ax sz 1&&(ax sz' 1&&ax off 0) then chk (eZ j l.length) λ_=>(match y.cs with
     |some cs=>if ax cs.length 1 then K .undef (ku id) (ku id) (h.set id (Z (.cells (Z ty) (splice l j.toNat cs)))) nx else U
     |none=>U) else U
    |_=>U)
   |_,_=>U
  |.nilc x=>match fd e x with
   |some (.ptr id off)=>K (.ptr id off) 0 0 h nx
   |some (.pel id sz j off)=>K (.pel id sz j off) 0 0 h nx
   |some (.fel T xs j hj off)=>K (.fel T xs j hj off) 0 0 h nx
   |some (.clo g cap)=>K (.clo g cap) 0 0 h nx
   |_=>U
  |.bin op x y=>match fd e x,fd e y with
   |some u,Z v=>afq op u v λr=>K r 0 0 h nx
   |_,_=>U
  |.eqs neg ds x y=>match qH ds,fd e x,fd e y with
   |some T,Z u,Z v=>if u.isC||v.isC||SU x||SU y then U else (match u.cs,v.cs with
    |some lu,Z lv=>(match eM PT.leaf 40 T lu,eM PT.leaf 40 T lv with
     |some (a,_,[]),Z (b,_,[])=>K (.f .bool (Ml T a b !=neg)) 0 0 h nx
     |_,_=>U)
    |_,_=>U)
   |_,_,_=>U
  |.isnil neg x=>match fd e x with
   |some .nil=>K (.f .bool (!neg)) 0 0 h nx
   |some .emp=>K .anyb 0 0 h nx
   |some (.f (.sl _) xs)=>aF (ax (ah xs) 0) (K .anyb 0 0 h nx) (K (.f .bool neg) 0 0 h nx)
   |some (.row id)=>(match h.get id with
    |some (.rows _ aa _ _)=>K (.f .bool neg) 0 0 h nx
    |_=>U)
   |_=>U
  |.eqb neg x y=>match fd e x,fd e y with
   |some (.f .bool a),Z (.f .bool b)=>K (.f .bool ((a==b) !=neg)) 0 0 h nx
   |_,_=>U
  |.not x=>match fd e x with|some (.f .bool b)=>K (.f .bool (!b)) 0 0 h nx|_=>U
  |.conv k x=>match fd e x with|some (.f (.int _) n)=>K (.f (.int k) (ba k n)) 0 0 h nx|_=>U
  |.slc sz x lo hi mx=>match fd e x with
   |some v=>(match lo,hi,mx with
    |none,Z (.const (.int _ 0)),Z (.const (.int _ 0))=>if (lenOf h v).isSome then K .emp 0 0 h nx else U
    |none,Z b,U=>(match v,fd e b with
     |.f (.sl T) xs,Z (.f (.int _) j)=>if ax sz T.size then chk (cO 0 j&&cO j (ah xs)) λ_=>K (.f (.sl T) (dj (aO j) xs)) 0 0 h nx else U
     |.row id,Z (.f (.int _) j)=>(match h.get id with
      |some (.rows ty p T xs)=>if ax sz T.size then
        chk (cO 0 j&&fE j (ah xs)) λ_=>K (.row nx) (ku id) (ku id|||ku nx) ((h.set id (Z (.dead p sz (ah xs)))).set nx (Z (.rows ty aa T (dj (aO j) xs)))) (nx+1)
       else U
      |_=>U)
     |_,_=>U)
    |some b,U,U=>(match v,fd e b with
     |.f (.sl T) xs,Z (.f (.int _) j)=>if ax sz T.size then chk (cO 0 j&&cO j (ah xs)) λ_=>K (.f (.sl T) (List.drop (aO j) xs)) 0 0 h nx else U
     |.row id,Z (.f (.int _) j)=>(match h.get id with
      |some (.rows _ _ T xs)=>if ax sz T.size then chk (cO 0 j&&fE j (ah xs)) λ_=>K (.rtl id j) 0 0 h nx else U
      |_=>U)
     |_,_=>U)
    |none,Z b,Z b'=>(match v,fd e b,fd e b' with
     |.f (.sl T) xs,Z (.f (.int _) j),Z (.f (.int _) j')=>if ax sz T.size then chk ((decide (j=j')&&cO 0 j)&&cO j (ah xs)) λ_=>K (.ful T (dj (aO j) xs)) 0 0 h nx else U
     |_,_,_=>U)
    |_,_,_=>U)
   |none=>U
  |.fad off x=>match fd e x with
   |some (.ptr id o)=>K (.ptr id (o+off)) 0 0 h nx
   |some (.pel id sz j o)=>K (.pel id sz j (o+off)) 0 0 h nx
   |some (.fel T xs j hj o)=>K (.fel T xs j hj (o+off)) 0 0 h nx
   |_=>U
  |.fld off sz ag x=>match fd e x with
   |some (.agg l)=>(match Si l off sz ag with|some v=>K v 0 0 h nx|none=>U)
   |some (.f T v)=>if T.one then U else (match nW 40 T v off sz ag with|some v=>K v 0 0 h nx|none=>U)
   |_=>U
  |.iad sz x i=>match fd e x,fd e i with
   |some (.row id),Z (.f (.int _) j)=>(match h.get id with
    |some (.rows _ _ T xs)=>if ax sz T.size then chk (eZ j xs.length) λ_=>K (.pel id sz j 0) 0 0 h nx else U
    |_=>U)
   |some (.f (.sl T) xs),Z (.f (.int _) j)=>if ax sz T.size then chk (eZ j (ah xs)) λhj=>K (.fel T xs j hj 0) 0 0 h nx else U
   |some (.csl id sz' n),Z (.f (.int _) j)=>if ax sz' sz then chk (cO 0 j&&fE j n) λ_=>K (.ptr id (aO j*sz)) 0 0 h nx else U
   |_,_=>U
  |.iada n sz x i=>match fd e x,fd e i with
   |some (.ptr id off),Z (.f (.int _) j)=>(match arrB n sz off (h.get id) with
    |some _=>chk (cO 0 j&&fE j n) λ_=>K (.pel id sz j off) 0 0 h nx
    |none=>chk (cO 0 j&&fE j n) λ_=>K (.ptr id (off+aO j*sz)) 0 0 h nx)
   |_,_=>U
  |.idx n sz ag x i=>match fd e x,fd e i with
   |some v,Z (.f (.int _) j)=>(match aid n sz v ag with
    |some ⟨T,xs⟩=>chk (cO 0 j&&fE j n) λ_=>K (.f T (aH xs j)) 0 0 h nx
    |none=>(match v with
     |.agg l=>chk (cO 0 j&&fE j n) λ_=>(match Si l (aO j*sz) sz ag with|some v=>K v 0 0 h nx|none=>U)
     |.f T v=>if T.one then U else chk (cO 0 j&&fE j n) λ_=>(match nW 40 T v (aO j*sz) sz ag with|some v=>K v 0 0 h nx|none=>U)
     |_=>U))
   |_,_=>U
  |.ext x i=>match fd e x with|some (.tup l)=>(match l[i]? with|some v=>K v 0 0 h nx|none=>U)|_=>U
  |.len x=>match fd e x with
   |some v=>(match lenOf h v with|some n=>K (.f (.int .i64) (aT n)) 0 0 h nx|none=>U)
   |none=>U
  |.lens x=>match fd e x with
   |some (.f .str s)=>K (.f (.int .i64) (aT (ah s))) 0 0 h nx
   |_=>U
  |.max x y=>match fd e x,fd e y with
   |some (.f (.int k) a),Z (.f (.int k') b)=>if k==k' then K (.f (.int k) (gJ a b)) 0 0 h nx else U
   |_,_=>U
  |.min x y=>match fd e x,fd e y with
   |some (.f (.int k) a),Z (.f (.int k') b)=>if k==k' then K (.f (.int k) (F1 a b)) 0 0 h nx else U
   |_,_=>U
  |.sidx x i=>match fd e x,fd e i with
   |some (.f .str s),Z (.f (.int _) j)=>chk (eZ j (ah s)) λ_=>K (.f (.int .u8) (qD s j)) 0 0 h nx
   |_,_=>U
  |.rng x=>match fd e x with
   |some (.f .str s)=>K (.ptr nx 0) 0 (0|||ku nx) ((d_ 0 h).set nx (Z (.mp itK .un [((s,0),())]))) (nx+1)
   |_=>U
  |.nxt x=>match fd e x with
   |some (.ptr id 0)=>(match h.get id with
    |some (.mp K' V es)=>(match itE K' V es with
     |some (s,p)=>aF (eQ p (ah s)) (K (.tup [.f .bool M,.f (.int .i64) (aT p),.f (.int .i32) (M8 s p)]) (ku id) (0|||ku id) ((d_ 0 h).set id (Z (.mp itK .un [((s,aT (p+Sa s p)),())]))) nx)
       (K (.tup [.f .bool aa]) (ku id) (0|||ku id) ((d_ 0 h).set id (Z (.mp itK .un [((s,aT p),())]))) nx)
     |none=>U)
    |_=>U)
   |_=>U
  |.mkm=>K (.mp nx) 0 (0|||ku nx) ((d_ 0 h).set nx (Z (.mp .un .un []))) (nx+1)
  |.lku str ok z x k=>match fd e x,fd e k with
   |some (.mp id),Z (.f KT D)=>(match h.get id with
    |some (.mp K' V es)=>if Wc str KT&&SH K' then (match mpE K' V es with
     |true=>(match cst z with|some v=>K (pkT ok v (.f .bool aa)) (ku id) 0 h nx|none=>U)
     |false=>(match sI (S:=KT) K' D,cst z with
      |some kv',Z (.f A L)=>(match sI (S:=A) V L with
       |some zv'=>K (pkT ok (.f V (ER kv' es zv')) (.f .bool (af9 kv' es))) (ku id) 0 h nx
       |none=>U)
      |_,_=>U)) else U
    |some (.cells U l)=>(match sI (S:=KT) (.int .i64) D with
     |some n=>if !str&&(!ok&&sS z)&&(cO 0 n&&fE n l.length) then (match l[aO n]? with|some v=>K v (ku id) 0 h nx|none=>U) else U
     |none=>U)
    |_=>U)
   |_,_=>U
  |.mup str x k v=>match fd e x,fd e k,fd e v with
   |some (.mp id),Z (.f KT D),Z (.f VT I)=>(match h.get id with
    |some (.mp K' V es)=>if (Wc str KT&&VT.one)&&SH K' then (match mpE K' V es with
     |true=>K .undef (ku id) (0|||ku id) ((d_ 0 h).set id (Z (.mp KT VT [(D,I)]))) nx
     |false=>(match sI (S:=KT) K' D,sI (S:=VT) V I with
      |some kv',Z vv'=>K .undef (ku id) (0|||ku id) ((d_ 0 h).set id (Z (.mp K' V (H0 kv' vv' es)))) nx
      |_,_=>U)) else U
    |_=>U)
   |some (.mp id),Z (.f KT D),Z (.row i)=>(match h.get id with
    |some (.cells U l)=>(match sI (S:=KT) (.int .i64) D with
     |some n=>if !str&&(cO 0 n&&fE n l.length) then K .undef (ku id) (0|||ku id) ((d_ 0 h).set id (Z (.cells U (splice l (aO n) [.row i])))) nx else U
     |none=>U)
    |_=>U)
   |_,_,_=>U
  |.lenm x=>match fd e x with
   |some (.mp id)=>(match h.get id with
    |some (.mp K' _ es)=>if SH K' then K (.f (.int .i64) (aT es.length)) (ku id) 0 h nx else U
    |_=>U)
   |_=>U
  |.mkf f caps=>match EM e caps with|some l=>K (.clo f l) 0 0 h nx|none=>U
  |_=>U
def Yc {R:Type} (e:iN) (g:J (Nat×Bool)) (K:Bool->iN->J R):J R:=match g with
 |none=>K M e
 |some (t,want)=>match e.get t with
  |some (.f .bool b)=>(match want with
   |true=>aF b (K M (e.set t (Z (.f .bool M)))) (K aa (e.set t (Z (.f .bool aa))))
   |false=>aF b (K aa (e.set t (Z (.f .bool M)))) (K M (e.set t (Z (.f .bool aa)))))
  |some .undef=>K aa e
  |_=>U
def Dr (e:iN) (d:J Nat) (v:TV):iN:=match d with
 |none=>e
 |some d=>e.set d (Z v)
structure TS where
 e:iN
 h:bn
 nx:Nat
def KC {R:Type} (con:FuncId->J cj) (b8:TypeId->J Ty):Y r_->TS->Y FPm->(TS->Y FPm->J R)->J R
 |[],s,fs,K=>K s fs.reverse
 |o::r,s,fs,K=>Yc s.e o.guard λrun e=>match run with
  |true=>dU con b8 o.op e s.h s.nx λv rd wr h nx=>if KH h v then KC con b8 r ⟨Dr e o.dst v,h,nx⟩ (⟨rd,wr⟩::fs) K else U
  |false=>KC con b8 r ⟨Dr e o.dst .undef,s.h,s.nx⟩ (⟨0,0⟩::fs) K
inductive Adj where
 |nil (k:Nat) (ty:TypeId) (T:Ty)
 |cel (k:Nat) (off:Nat) (ty:TypeId) (T:Ty)
 |mpt (k:Nat) (K V:Ty)
 |mz (k n:Nat)
 |pk (k:Nat) (off:Nat) (T:Ty)
 |ren (k:Nat) (off:Nat)
mutual
def Ku (id sz n:Nat):TV->TV
 |.csl i s m=>if ax i id&&ax s sz&&ax m n then .row id else .csl i s m
 |.agg l=>.agg (BI id sz n l)
 |.tup l=>.tup (BI id sz n l)
 |.clo g l=>.clo g (BI id sz n l)
 |.f T v=>.f T v
 |.fel T xs j h off=>.fel T xs j h off
 |.pel a b c d=>.pel a b c d
 |.ptr a b=>.ptr a b
 |.row a=>.row a
 |.rtl a j=>.rtl a j
 |.ful T xs=>.ful T xs
 |.emp=>.emp
 |.nil=>.nil
 |.mp a=>.mp a
 |.undef=>.undef
 |.np=>.np
 |.anyb=>.anyb
def BI (id sz n:Nat):Y TV->Y TV
 |[]=>[]
 |x::r=>Ku id sz n x::BI id sz n r
end
def VX (id sz n:Nat):ii->ii
 |.cells ty l=>.cells ty (BI id sz n l)
 |.rows ty p T xs=>.rows ty p T xs
 |.dead p s m=>.dead p s m
 |.mp K V es=>.mp K V es
def aio (s:TS) (k off:Nat):J (Nat×Nat×Nat):=match s.e.get k with
 |some (.csl id sz n)=>Z (id,sz,n)
 |some (.agg l)=>(match l[off]? with|some (.csl id sz n)=>Z (id,sz,n)|_=>U)
 |some (.ptr a o)=>(match s.h.get a with
  |some (.cells (Z _) l)=>(match l[o+off]? with|some (.csl id sz n)=>Z (id,sz,n)|_=>U)
  |_=>U)
 |_=>U
def pkS (s:TS) (T:Ty) (id sz n:Nat):J TS:=match s.h.get id with
 |some (.cells (Z ty) l)=>if ax sz T.size then (match xZ s.h T n l with
  |some (xs,m)=>if aP m id then U else Z ⟨PT.updI (λ_ v=>Ku id sz n v) 1 0 s.e,(PT.updI (λ_ b=>VX id sz n b) 1 0 (d_ m s.h)).set id (Z (.rows ty aa T xs)),s.nx⟩
  |none=>U) else U
 |_=>U
def abu:TV->Bool
 |.nil=>M
 |.emp=>M
 |_=>aa
def ai6:J TV->J (Nat×Nat)
 |some (.ptr id o)=>Z (id,o)
 |some (.csl id _ _)=>Z (id,0)
 |some (.mp id)=>Z (id,0)
 |_=>U
def LA (s:TS):Adj->J TS
 |.nil k ty T=>match s.e.get k with
  |some v=>if abu v then Z ⟨s.e.set k (Z (.row s.nx)),s.h.set s.nx (Z (.rows ty M T [])),s.nx+1⟩ else Z s
  |none=>U
 |.cel k off ty T=>match ai6 (s.e.get k) with
  |some (id,o)=>(match s.h.get id with
   |some (.cells cty l)=>(match l[o+off]? with
    |some v=>if abu v then Z ⟨s.e,(s.h.set s.nx (Z (.rows ty M T []))).set id (Z (.cells cty (splice l (o+off) [.row s.nx]))),s.nx+1⟩ else Z s
    |none=>U)
   |_=>U)
  |_=>U
 |.mpt k K V=>match s.e.get k with
  |some (.mp id)=>(match s.h.get id with
   |some (.mp K' V' es)=>(match mpE K' V' es&&SH K with
    |true=>Z ⟨s.e,s.h.set id (Z (.mp K V [])),s.nx⟩
    |false=>Z s)
   |_=>U)
  |_=>U
 |.mz k n=>match s.e.get k with
  |some (.mp id)=>(match s.h.get id with
   |some (.mp K' V' es)=>(match mpE K' V' es with
    |true=>Z ⟨s.e,s.h.set id (Z (.cells U (aA n .nil))),s.nx⟩
    |false=>U)
   |_=>Z s)
  |_=>U
 |.pk k off T=>match aio s k off with
  |some (id,sz,n)=>pkS s T id sz n
  |none=>U
 |.ren k off=>match s.e.get k with
  |some (.ptr b o)=>(match s.h.get b with
   |some (.cells (Z cty) l)=>(match l[o+off]? with
    |some (.row id)=>(match s.h.get id with
     |some (.rows ty p T xs)=>Z ⟨s.e,((s.h.set id (Z (.dead p T.size xs.length))).set s.nx (Z (.rows ty p T xs))).set b (Z (.cells (Z cty) (splice l (o+off) [.row s.nx]))),s.nx+1⟩
     |_=>U)
    |_=>U)
   |_=>U)
  |some (.row id)=>(match s.h.get id with
   |some (.rows ty p T xs)=>Z ⟨s.e.set k (Z (.row s.nx)),(s.h.set id (Z (.dead p T.size xs.length))).set s.nx (Z (.rows ty p T xs)),s.nx+1⟩
   |_=>U)
  |_=>U
def Xe (s:TS):Y Adj->J TS
 |[]=>Z s
 |a::r=>match LA s a with|some s'=>Xe s' r|none=>U
structure X5 where
 keep:ι
 ks:ι
 t:Tm
 pre:List Adj
abbrev X5.D (A:X5):Type:=A.t.ty.den
mutual
def tL:TV->Bool
 |.f _ _=>M
 |.fel _ _ _ _ _=>M
 |.emp=>M
 |.nil=>M
 |.undef=>M
 |.np=>M
 |.anyb=>M
 |.agg l=>qf l
 |.tup l=>qf l
 |.pel _ _ _ _=>aa
 |.ptr _ _=>aa
 |.csl _ _ _=>aa
 |.row _=>aa
 |.rtl _ _=>aa
 |.ful _ _=>aa
 |.mp _=>aa
 |.clo _ _=>aa
def qf:Y TV->Bool
 |[]=>M
 |x::r=>tL x&&qf r
end
def B9 (am:Nat) (e:iN):ι->iN
 |[]=>PT.leaf
 |k::r=>match e.get k with|some v=>if tL v&& !(aP am k) then (B9 am e r).set k (Z v) else B9 am e r|none=>B9 am e r
def nR (e:iN):ι->J (Y TV)
 |[]=>Z []
 |k::r=>match e.get k with|some v=>(match nR e r with|some l=>Z (v::l)|none=>U)|none=>U
def V0 (e:iN):ι->Y TV->iN
 |k::r,v::l=>(V0 e r l).set k (Z v)
 |_,_=>e
def G8 (am:Nat) (e0 e:iN):ι->Bool
 |[]=>M
 |k::r=>(match e0.get k with
  |some v=> !(tL v)||aP am k||(match e.get k with|some _=>M|none=>aa)
  |none=>M)&&G8 am e0 e r
def K_ (np:Nat) (A:X5) (am:Nat) (d s:TS):J A.D:=if dP np A.t.bs.length&&G8 am d.e s.e A.keep then (match Xe s A.pre with
 |some s=>(match nR s.e A.ks with
  |some vs=>(match Dz np A.t vs s.h with
   |some ⟨x,_,_,_⟩=>Z x
   |none=>U)
  |none=>U)
 |none=>U) else U
def FR (A:X5) (am:Nat) (s:TS) (x:A.D):J TS:=match B_ A.t x with
 |some (vs,h)=>if ax vs.length A.ks.length then Z ⟨V0 (B9 am s.e A.keep) A.ks vs,h,A.t.bs.length⟩ else U
 |none=>U
inductive TC where
 |skip
 |reg (ops:List r_) (prs:List (Nat×Nat))
 |seq (a b:TC)
 |jseq (A:X5) (a b:TC)
 |cond (c:Nat) (a b:TC)
 |block (id:Nat) (b:TC)
 |jblock (A:X5) (id:Nat) (b:TC)
 |loop (A:X5) (b:TC)
 |exit (id:Nat)
 |ret
 |defer (f:FuncId) (caps:List Operand) (t:Nat)
 |adj (l:List Adj) (c:TC)
 |split (k off lo n:Nat) (c:TC)
 |bsp (t:Nat) (a b:TC)
 |unl (n:Nat) (b:TC)
 |bad
def Oj:Y r_->Nat->Nat
 |[],acc=>acc
 |o::r,acc=>Oj r (match o.dst with|some d=>acc|||ku d|none=>acc)
def KK:ι->Nat->Nat
 |[],acc=>acc
 |k::r,acc=>KK r (acc|||ku k)
def mw:Y Adj->Nat->Nat
 |[],acc=>acc
 |.nil k _ _::r,acc=>mw r (acc|||ku k)
 |.cel _ _ _ _::r,acc=>mw r acc
 |.mpt _ _ _::r,acc=>mw r acc
 |.mz _ _::r,acc=>mw r acc
 |.pk _ _ _::r,acc=>mw r acc
 |.ren k _::r,acc=>mw r (acc|||ku k)
def TC.asg:TC->Nat->Nat
 |.reg ops _,acc=>Oj ops acc
 |.seq a b,acc=>b.asg (a.asg acc)
 |.jseq A a b,acc=>b.asg (a.asg (KK A.ks acc))
 |.cond _ a b,acc=>b.asg (a.asg acc)
 |.block _ b,acc=>b.asg acc
 |.jblock A _ b,acc=>b.asg (KK A.ks acc)
 |.loop A b,acc=>b.asg (KK A.ks acc)
 |.defer _ _ t,acc=>acc|||ku t
 |.adj l c,acc=>c.asg (mw l acc)
 |.split _ _ _ _ c,acc=>c.asg acc
 |.bsp _ a b,acc=>b.asg (a.asg acc)
 |.unl _ b,acc=>b.asg acc
 |.skip,acc=>acc
 |.exit _,acc=>acc
 |.ret,acc=>acc
 |.bad,acc=>acc
inductive aad where
 |j (A:X5)
 |a (l:List Adj)
 |s (k off lo n:Nat)
 |b (t k off lo n:Nat)
 |u (n:Nat)
def Hp (H:PT aad) (n:Nat) (c:TC):TC:=match H.get n with|some (.a l)=>.adj l c|some (.s k off lo m)=>.split k off lo m c|some (.b t k off lo m)=>.bsp t (.split k off lo m c) c|_=>c
def CX (H:PT aad):SC->Nat->TC×Nat
 |.skip,n=>(Hp H n .skip,n+1)
 |.reg o p,n=>(Hp H n (.reg o p),n+1)
 |.seq a b,n=>match CX H a (n+1) with
  |(a',k)=>(match CX H b k with|(b',k')=>((match H.get n with|some (.j A)=>.jseq A a' b'|_=>.seq a' b'),k'))
 |.cond c a b,n=>match CX H a (n+1) with
  |(a',k)=>(match CX H b k with|(b',k')=>(Hp H n (.cond c a' b'),k'))
 |.block id b,n=>match CX H b (n+1) with|(b',k)=>((match H.get n with|some (.j A)=>.jblock A id b'|_=>.block id b'),k)
 |.loop b,n=>match CX H b (n+1) with|(b',k)=>((match H.get n with|some (.j A)=>.loop A b'|some (.u m)=>.unl m b'|_=>.bad),k)
 |.exit id,n=>(Hp H n (.exit id),n+1)
 |.ret,n=>(Hp H n .ret,n+1)
 |.defer f c t,n=>(.defer f c t,n+1)
 |.bad,n=>(.bad,n+1)
def YZ (s:TS) (k off:Nat):J (IntKind×Int):=match s.e.get k with
 |some (.f (.int kd) v)=>Z (kd,v)
 |some (.ptr a o)=>(match s.h.get a with
  |some (.cells (Z _) l)=>(match l[o+off]? with|some (.f (.int kd) v)=>Z (kd,v)|_=>U)
  |_=>U)
 |_=>U
def Sn (s:TS) (k off:Nat) (kd:IntKind) (v:Int):J TS:=match s.e.get k with
 |some (.f (.int _) _)=>Z ⟨s.e.set k (Z (.f (.int kd) v)),s.h,s.nx⟩
 |some (.ptr a o)=>(match s.h.get a with
  |some (.cells (Z ty) l)=>Z ⟨s.e,s.h.set a (Z (.cells (Z ty) (splice l (o+off) [.f (.int kd) v]))),s.nx⟩
  |_=>U)
 |_=>U
def spl {R:Type} (v:Int) (f:Nat->J R):Nat->Nat->J R
 |_,0=>U
 |i,m+1=>aF (decide ((v:Int)=aT i)) (f i) (spl v f (i+1) m)
def ab0 {R:Type} (f:TS->(Ex->TS->J R)->J R):Nat->TS->(Ex->TS->J R)->J R
 |0,_,_=>U
 |m+1,s,K=>f s λex s'=>match ex with
  |.normal=>ab0 f m s' K
  |ex=>K ex s'
def nB {R:Type} (np:Nat) (con:FuncId->J cj) (b8:TypeId->J Ty) (inert:FuncId->Bool):TC->TS->(Ex->TS->J R)->J R
 |.skip,s,K=>K .normal s
 |.reg ops prs,s,K=>KC con b8 ops s [] λs' fs=>if EL fs prs then K .normal s' else U
 |.seq a b,s,K=>nB np con b8 inert a s λex s'=>match ex with|.normal=>nB np con b8 inert b s' K|ex=>K ex s'
 |.jseq A a b,s,K=>jn (nB np con b8 inert a s λex s'=>match ex with
   |.normal=>av (K_ np A (a.asg 0) s s') λx=>Z (.inr x)
   |ex=>av (K ex s') λr=>Z (.inl r)) λx=>(match FR A (a.asg 0) s x with|some s'=>nB np con b8 inert b s' K|none=>U)
 |.cond c a b,s,K=>match s.e.get c with
  |some (.f .bool t)=>aF t (nB np con b8 inert a s K) (nB np con b8 inert b s K)
  |some .anyb=>Em (nB np con b8 inert a s K) (nB np con b8 inert b s K)
  |_=>U
 |.block id b,s,K=>nB np con b8 inert b s λex s'=>match ex with
  |.exit i=>if ax i id then K .normal s' else K (.exit i) s'
  |ex=>K ex s'
 |.jblock A id b,s,K=>jn (nB np con b8 inert b s λex s'=>match ex with
   |.normal=>av (K_ np A (b.asg 0) s s') λx=>Z (.inr x)
   |.exit i=>if ax i id then av (K_ np A (b.asg 0) s s') λx=>Z (.inr x) else av (K (.exit i) s') λr=>Z (.inl r)
   |.ret=>av (K .ret s') λr=>Z (.inl r)) λx=>(match FR A (b.asg 0) s x with|some s'=>K .normal s'|none=>U)
 |.loop A b,s,K=>av (K_ np A (b.asg 0) s s) λx=>iter (λx=>match FR A (b.asg 0) s x with
   |some s'=>nB np con b8 inert b s' λex s'=>(match ex with
    |.normal=>av (K_ np A (b.asg 0) s s') λy=>Z (.inl y)
    |ex=>av (K ex s') λr=>Z (.inr r))
   |none=>U) x
 |.exit id,s,K=>K (.exit id) s
 |.ret,s,K=>K .ret s
 |.defer f caps t,s,K=>match EM s.e caps with
  |some l=>if inert f then K .normal ⟨s.e.set t (Z (.clo f l)),s.h,s.nx⟩ else U
  |none=>U
 |.adj l c,s,K=>match Xe s l with|some s'=>nB np con b8 inert c s' K|none=>U
 |.split k off lo n c,s,K=>match YZ s k off with
  |some (kd,v)=>spl v (λi=>match Sn s k off kd (aT i) with|some s'=>nB np con b8 inert c s' K|none=>U) lo n
  |none=>U
 |.bsp t a b,s,K=>match s.e.get t with
  |some (.f .bool v)=>aF v (nB np con b8 inert a ⟨s.e.set t (Z (.f .bool M)),s.h,s.nx⟩ K) (nB np con b8 inert b ⟨s.e.set t (Z (.f .bool aa)),s.h,s.nx⟩ K)
  |_=>U
 |.unl n b,s,K=>ab0 (λs K=>nB np con b8 inert b s K) n s K
 |.bad,_,_=>U
def JU:Nat->Y TV->iN
 |_,[]=>PT.leaf
 |k,x::r=>(JU (k+1) r).set k (Z x)
def rvT (s:TS):RV->J TV
 |.tmp t=>s.e.get t
 |.cell a sz ag=>match s.e.get a with
  |some (.ptr id off)=>(match s.h.get id with|some (.cells (Z _) l)=>Si l off sz ag|_=>U)
  |_=>U
def Sp (s:TS):Y RV->J (Y TV)
 |[]=>Z []
 |x::r=>match rvT s x with|some v=>(match Sp s r with|some l=>Z (v::l)|none=>U)|none=>U
structure FT where
 pre:Tm
 post:Tm
 hints:PT aad
def Yl (con:FuncId->J cj) (b8:TypeId->J Ty) (inert:FuncId->Bool) (F:J SF) (D:FT) (x:D.pre.ty.den):J D.post.ty.den:=
 match F with
 |some d=>(match B_ D.pre x with
  |some (args,h)=>if dP args.length d.nt&&dP D.pre.bs.length D.post.bs.length then
    nB D.pre.bs.length con b8 inert (CX D.hints d.code 0).1 ⟨JU 0 args,h,D.pre.bs.length⟩ λex s=>(match ex with
    |.exit _=>U
    |_=>(match Sp s d.res with
     |some l=>(match Dz D.pre.bs.length D.post l s.h with
      |some ⟨y,_,_,_⟩=>(match B_ D.post y with|some _=>Z y|none=>U)
      |none=>U)
     |none=>U)) else U
  |none=>U)
 |none=>U
abbrev aL:Ty:=(.int .i64)
abbrev kJ:Ty:=(.st (.pr .str (.pr aL (.pr aL (.pr .bool aL)))))
abbrev qE:Ty:=(.st (.pr .str .bool))
abbrev lZ:Ty:=(.st (.pr .str aL))
abbrev oF:Ty:=(.st (.pr aL (.pr aL aL)))
abbrev nV:Ty:=(.st (.pr (.sl kJ) (.pr (.sl qE) (.pr (.sl lZ) (.pr (.sl .str) (.pr (.sl .str) (.sl oF)))))))
abbrev uZ:Ty:=(.sl (.sl aL))
abbrev eI:Ty:=(.st (.pr aL (.pr (.sl aL) (.pr uZ aL))))
abbrev qB:Ty:=(.st (.pr aL (.pr aL (.pr aL (.pr aL (.pr aL aL))))))
abbrev dt:Ty:=(.st (.pr aL (.sl aL)))
abbrev mf:Ty:=(.sl .bool)
abbrev gH:Ty:=(.st (.pr aL (.pr aL .bool)))
abbrev Db:Ty:=(.st (.pr (.sl dt) (.pr aL (.pr mf (.sl gH)))))
abbrev gV:Ty:=(.st (.pr aL (.pr aL (.pr aL (.pr aL (.pr aL (.pr (.sl aL) (.sl aL))))))))
abbrev FM:Ty:=(.st (.pr aL (.pr aL (.pr .str (.pr aL (.pr aL .str))))))
abbrev sv:Ty:=(.st (.pr .str (.pr aL (.pr (.sl .str) (.sl .sm)))))
abbrev MR:Ty:=(.st (.pr (.sl FM) (.sl sv)))
abbrev v9:Ty:=(.st (.pr aL (.sl qB)))
abbrev t_:Ty:=(.st (.pr nV (.sl v9)))
abbrev u0:Ty:=(.st (.pr Db (.pr (.sl aL) (.pr (.sl aL) (.sl eI)))))
abbrev iO:Ty:=(.st (.pr Db (.pr (.sl aL) (.pr (.sl aL) (.sl aL)))))
abbrev Dc:Ty:=(.sl (.int .u8))
abbrev xQ:Ty:=(.st (.pr Dc aL))
abbrev ju:Ty:=(.st (.pr aL aL))
abbrev Ka24:Ty:=(.st (.pr nV (.sl gV)))
abbrev Rw:=(ζ×Int×Int×Bool×Int)
abbrev ny:=(Y Rw)
abbrev my:=(Y (ζ×Bool))
abbrev jD:=(ζ×Int)
abbrev di:=(Y ζ)
abbrev fc:=(ny×my×(Y jD)×di×di×Y ν)
abbrev rO:=(ny×my×(Y jD)×di×di×(Y ν)×di×Int×Int)
abbrev iK:=(Y (Int×η))
abbrev dJ:=(Int×Int×Bool)
abbrev pJ:=(iK×Int×(θ)×Y dJ)
abbrev uW:=(Int×(η)×(Y η)×Int)
abbrev lh:=(ω)
abbrev jY:=(Int×Int×Int×Int×Int×(η)×η)
abbrev afw:=(Int×Int×(ζ)×Int×Int×ζ)
abbrev v7:=(Y afw)
abbrev vZ:=(ζ×Int×di×Y Sx)
abbrev BB:=(Int×Int×Bool×Bool×Bool×Bool)
abbrev BA:=(fc×Y (Int×Y lh))
abbrev C':=(υ)
abbrev fV:=(pJ×(η)×(η)×η)
abbrev gU:=(η×Int)
abbrev w_:=(pJ×(η)×(η)×Y uW)
abbrev Uv:=(Int×Int×(ζ)×(ζ)×Int×Int×ζ)
abbrev w9:=(v7×(Y vZ)×Int)
abbrev Rx:=(Bool×Y ζ)
abbrev Ya23:=(Int×Int×uW×uW×Int×(η)×(Y η)×Int)
abbrev Ya24:=(uW×Int×Int×uW×Int×(η)×(Y η)×Int)
abbrev Ya25:=(uW×uW×Int×Int×Int×(η)×(Y η)×Int)
abbrev Z0:=((Y Sx)×BB×gU×Bool×Y ζ)
abbrev Ya27:=(Int×Int×uW×Int×(η)×(Y η)×Int)
abbrev Ya28:=(uW×Int×Int×Int×(η)×(Y η)×Int)
abbrev Ya29:=(Int×Int×Int×(η)×(Y η)×Int)
abbrev Xh:=(Int×BB×gU×Bool×Y ζ)
abbrev ZZ:=(Sx×BB×gU×Bool×Y ζ)
abbrev ad3:=(Γ×w9×(Bool×Y Sx)×di×Y ζ)
abbrev LB:=(Sx×rO×Y lh)
abbrev C_:=(w_×jY×Bool)
abbrev ZY:=((Sx×Int×Int×Int)×rO×Y lh)
abbrev ad2:=(Γ×BB×gU×Bool×Y ζ)
abbrev ad1:=(jD×BB×gU×Bool×Y ζ)
abbrev Xg:=(BB×gU×Rx×Y Sx)
abbrev ad0:=(Xp×BB×gU×Bool×Y ζ)
abbrev Ya42:=(uW×uW×uW×Int×Int)
abbrev ZX:=((Y Sx)×rO×Y lh)
abbrev aY {α:Type} (l:Y α):Int:=aT (ah l)
abbrev cw (n:Int):Int:=ba .i64 (n+1)
abbrev aB {R α:Type} (x:α):J (R⊕α):=Z (bZ x)
abbrev cM {R α:Type} (x:R):J (R⊕α):=Z (pM x)
abbrev bJ {R:Type} (T:Ty) (l:Y T.den) (j:Int) (k:T.den->J R):J R:=chk (eZ j (ah l)) λ_=>lt (aH (T:=T) l j) k
abbrev kM {R:Type} (T:Ty) (l:Y T.den) (j:Int) (k:T.den->J R):J R:=chk (eZ j (ah l)) λ_=>chk (eZ j (ah l)) λ_=>lt (aH (T:=T) l j) k
abbrev mq {R α:Type} (j:Int) (l:Y α) (k:J R):J R:=chk (eZ j (ah l)) λ_=>k
abbrev bt {R:Type} (b:Bool) (k:J R):J R:=chk b λ_=>k
abbrev bg {R:Type} (a b:Int) (t f:J R):J R:=aF (decide (a=b)) t f
abbrev iT {R:Type} (a b:Int) (t f:J R):J R:=aF (!decide (a=b)) t f
abbrev bA {R:Type} (a b:Int) (t f:J R):J R:=aF (fE a b) t f
abbrev ji {R:Type} (a b:Int) (t f:J R):J R:=aF (cO a b) t f
def ck {R:Type} (b:Bool) (k:J R):J R:=chk b λ_=>chk b λ_=>k
def dY (s:Sx):Sx:=oA (Sx.op s,Sx.line s,Sx.name s,Sx.arg s,Sx.index s,d9 (Xp.op (Sx.expr s),Xp.n (Sx.expr s),Xp.name (Sx.expr s),Xp.l (Sx.expr s)),Sx.body s,Sx.els s)
def ox (x:Unit):J di:=
 (Z ([[118,97,114],[118,111,108,97,116,105,108,101],[109,117,116,101,120],[114,119,108,111,99,107],[99,111,110,100],[102,117,116,117,114,101],[116,104,114,101,97,100],[105,102],[101,108,115,101],[119,104,105,108,101],[108,111,99,107],[114,101,97,100],[119,114,105,116,101],[116,114,97,110,115,97,99,116,105,111,110],[97,116,111,109,105,99],[119,97,105,116],[110,111,116,105,102,121],[110,111,116,105,102,121,97,108,108],[115,112,97,119,110],[106,111,105,110],[115,101,116],[103,101,116]]))
def jJ (x:ζ):J (Bool):=
 (av (ox ()) λd=>(iter (σ:=Int) (λx2=>(bA x2 (aY d) (bJ (.str) d x2 λq=>(aF (decide ((q:ζ)=x)) (aB M) (cM (cw x2)))) (aB aa))) 0))
def lw (x:Int):J (Bool):=
 (jn (ji 97 x (ji x 122 (aB M) (ji 65 x (aB (cO x 90)) (aB aa))) (ji 65 x (aB (cO x 90)) (aB aa))) λx1=>(Z x1))
def tG (x:Int):J (Bool):=
 (jn (ji 48 x (aB (cO x 57)) (aB aa)) λx1=>(Z x1))
def pm (x:Int):J (Bool):=
 (jn (av (lw x) λq=>(aF q (aB M) (av (tG x) λd=>(aF d (aB M) (aB (decide ((x:Int)=95))))))) λx1=>(Z x1))
def fg (x:ζ):J (Bool):=
 (jn (bA (aY x) 1 (aB M) (bA 12 (aY x) (aB M) (mq 0 x (av (lw (qD x 0)) λz=>(aF (!z) (aB M) (av (jJ x) λs=>(aB s))))))) λx1=>(aF x1 (Z aa) (iter (σ:=Int) (λd=>(bA d (aY x) (mq d x (av (pm (qD x d)) λq=>(aF (!q) (aB aa) (cM (cw d))))) (aB M))) 0)))
def fI (x:Bool):J (Int):=
 (aF x (Z 1) (Z 0))
def tD (x:Γ):J (Int×Bool):=
 (bg x.1 4 (Z ((ba .i64 (0-x.2)),M)) (bg x.1 5 (av (fI (decide ((x.2:Int)=0))) λd=>(Z (d,M))) (Z (0,aa))))
def rS (x:ν):J (Int×Bool):=
 (bg x.1 6 (Z ((ba .i64 (x.2.1+x.2.2)),M)) (bg x.1 7 (Z ((ba .i64 (x.2.1-x.2.2)),M)) (bg x.1 8 (Z ((ba .i64 (x.2.1*x.2.2)),M)) (bg x.1 9 (bg x.2.2 0 (Z (0,M)) (bt (!decide ((x.2.2:Int)=0)) (Z ((ba .i64 (Int.tdiv x.2.1 x.2.2)),M)))) (bg x.1 10 (bg x.2.2 0 (Z (0,M)) (bt (!decide ((x.2.2:Int)=0)) (Z ((bu x.2.1 x.2.2),M)))) (bg x.1 11 (av (fI (decide ((x.2.1:Int)=x.2.2))) λy1=>(Z (y1,M))) (bg x.1 12 (av (fI (!decide ((x.2.1:Int)=x.2.2))) λy2=>(Z (y2,M))) (bg x.1 13 (av (fI (fE x.2.1 x.2.2)) λL=>(Z (L,M))) (bg x.1 14 (av (fI (cO x.2.1 x.2.2)) λI=>(Z (I,M))) (bg x.1 15 (av (fI (fE x.2.2 x.2.1)) λF=>(Z (F,M))) (bg x.1 16 (av (fI (cO x.2.2 x.2.1)) λD=>(Z (D,M))) (bg x.1 17 (jn (iT x.2.1 0 (av (fI (!decide ((x.2.2:Int)=0))) λA=>(aB (A,M))) (av (fI aa) λz=>(aB (z,M)))) λx7=>(Z x7)) (bg x.1 18 (jn (iT x.2.1 0 (av (fI M) λq=>(aB (q,M))) (av (fI (!decide ((x.2.2:Int)=0))) λd=>(aB (d,M)))) λs=>(Z s)) (Z (0,aa)))))))))))))))
def qS (x:Γ):J (Int):=
 (bA x.2 1 (Z 0) (bt (!decide ((x.2:Int)=0)) (jn (bA (bu x.1 x.2) 0 (aB (ba .i64 ((bu x.1 x.2)+x.2))) (aB (bu x.1 x.2))) λx1=>(Z x1))))
def ov (x:Int):J (Int):=
 (jn (bg x 1 (aB M) (aB (decide ((x:Int)=2)))) λx1=>(aF x1 (Z 0) (jn (ji 3 x (aB (cO x 5)) (aB aa)) λx2=>(aF x2 (Z 1) (jn (ji 6 x (aB (cO x 18)) (aB aa)) λd=>(aF d (Z 2) (Z (-1))))))))
def oV (rr02_ShapedExpr:Xp->J (Bool)) (x:Xp):J (Bool):=
 (jn (bg (Xp.op x) 2 (aB (M,d9 ((Xp.op x),(Xp.n x),(Xp.name x),(Xp.l x)))) (aB ((decide (((Xp.op x):Int)=3)),d9 ((Xp.op x),(Xp.n x),(Xp.name x),(Xp.l x))))) λx1=>(jn (α:=Bool×Xp) (av (ov (Xp.op x1.2)) λA=>(iT A (aT (ah (Xp.l x1.2))) (aB (M,d9 ((Xp.op x1.2),(Xp.n x1.2),(Xp.name x1.2),(Xp.l x1.2)))) (aF ((x1.1==(!decide (((Xp.name x1.2):ζ)=([])))) !=M) (aB (M,d9 ((Xp.op x1.2),(Xp.n x1.2),(Xp.name x1.2),(Xp.l x1.2)))) (aF x1.1 (av (fg (Xp.name x1.2)) λz=>(aF (!z) (aB (M,d9 ((Xp.op x1.2),(Xp.n x1.2),(Xp.name x1.2),(Xp.l x1.2)))) (bA (Xp.n x1.2) 0 (aB (M,d9 ((Xp.op x1.2),(Xp.n x1.2),(Xp.name x1.2),(Xp.l x1.2)))) (iT (Xp.op x1.2) 1 (aB ((!decide (((Xp.n x1.2):Int)=0)),d9 ((Xp.op x1.2),(Xp.n x1.2),(Xp.name x1.2),(Xp.l x1.2)))) (aB (aa,d9 ((Xp.op x1.2),(Xp.n x1.2),(Xp.name x1.2),(Xp.l x1.2)))))))) (bA (Xp.n x1.2) 0 (aB (M,d9 ((Xp.op x1.2),(Xp.n x1.2),(Xp.name x1.2),(Xp.l x1.2)))) (iT (Xp.op x1.2) 1 (aB ((!decide (((Xp.n x1.2):Int)=0)),d9 ((Xp.op x1.2),(Xp.n x1.2),(Xp.name x1.2),(Xp.l x1.2)))) (aB (aa,d9 ((Xp.op x1.2),(Xp.n x1.2),(Xp.name x1.2),(Xp.l x1.2)))))))))) λx2=>(aF x2.1 (Z aa) (iter (σ:=Int×Xp) (λd=>(bA d.1 (aT (ah (Xp.l d.2))) (bJ (.ex) (Xp.l d.2) d.1 λq=>(av (rr02_ShapedExpr q) λs=>(aF (!s) (aB aa) (cM ((cw d.1),d9 ((Xp.op d.2),(Xp.n d.2),(Xp.name d.2),(Xp.l d.2))))))) (aB M))) (0,d9 ((Xp.op x2.2),(Xp.n x2.2),(Xp.name x2.2),(Xp.l x2.2)))))))
def jh:Nat->Xp->J (Bool)
 |0,_=>U
 |n+1,x=>oV (jh n) x
theorem yw (n:Nat) (x:Xp):jh (n+1) x=oV (jh n) x:=rfl
def j_ (x:Xp):J (Bool):=jh fuel x
def qT (x:Xp):J (Bool):=
 (jn (α:=Bool) (bg (Xp.op x) 0 (bg (Xp.n x) 0 (aF (decide (((Xp.name x):ζ)=([]))) (aB (decide (((aT (ah (Xp.l x))):Int)=0))) (aB aa)) (aB aa)) (aB aa)) λx1=>(Z x1))
def oU (rr02_ShapedStmt:Sx->J (Bool)) (rr02_ShapedStmts:(Y Sx)->J (Bool)) (x:Sx):J (Bool):=
 (jn (bA (Sx.op x) 1 (aB (M,dY x)) (aB ((fE 15 (Sx.op x)),dY x))) λx1=>(aF x1.1 (Z aa) (jn (bg (Sx.op x1.2) 2 (aB (M,dY x1.2)) (bg (Sx.op x1.2) 3 (aB (M,dY x1.2)) (bg (Sx.op x1.2) 7 (aB (M,dY x1.2)) (aB ((decide (((Sx.op x1.2):Int)=8)),dY x1.2))))) λx2=>(jn (α:=Bool×Sx) (aF x2.1 (aF (!decide (((Sx.name x2.2):ζ)=([]))) (aB (M,dY x2.2)) (aF (!x2.1) (av (fg (Sx.name x2.2)) λy4=>(aB ((!y4),dY x2.2))) (aB (aa,dY x2.2)))) (aF (!x2.1) (av (fg (Sx.name x2.2)) λy5=>(aB ((!y5),dY x2.2))) (aB (aa,dY x2.2)))) λz=>(aF z.1 (Z aa) (jn (α:=Bool×Sx) (bg (Sx.op z.2) 15 (av (fg (Sx.arg z.2)) λy7=>(aF (!y7) (aB (M,dY z.2)) (iT (Sx.op z.2) 15 (aB ((!decide (((Sx.arg z.2):ζ)=([]))),dY z.2)) (aB (aa,dY z.2))))) (iT (Sx.op z.2) 15 (aB ((!decide (((Sx.arg z.2):ζ)=([]))),dY z.2)) (aB (aa,dY z.2)))) λs=>(aF s.1 (Z aa) (jn (bA 1 (aT (ah (Sx.index s.2))) (aB (M,dY s.2)) (iT (Sx.op s.2) 1 (bA 0 (aT (ah (Sx.index s.2))) (aB (M,dY s.2)) (bg (aT (ah (Sx.index s.2))) 1 (bJ (.ex) (Sx.index s.2) 0 λz9=>(av (j_ z9) λy10=>(aB ((!y10),dY s.2)))) (aB (aa,dY s.2)))) (bg (aT (ah (Sx.index s.2))) 1 (bJ (.ex) (Sx.index s.2) 0 λI=>(av (j_ I) λy12=>(aB ((!y12),dY s.2)))) (aB (aa,dY s.2))))) λD=>(aF D.1 (Z aa) (jn (bg (Sx.op D.2) 1 (aB (M,dY D.2)) (bg (Sx.op D.2) 2 (aB (M,dY D.2)) (bg (Sx.op D.2) 3 (aB (M,dY D.2)) (aB ((decide (((Sx.op D.2):Int)=14)),dY D.2))))) λd=>(jn (aF d.1 (av (j_ (d9 ((Xp.op (Sx.expr d.2)),(Xp.n (Sx.expr d.2)),(Xp.name (Sx.expr d.2)),(Xp.l (Sx.expr d.2))))) λy15=>(aF (!y15) (aB (M,dY d.2)) (aF (!d.1) (av (qT (d9 ((Xp.op (Sx.expr d.2)),(Xp.n (Sx.expr d.2)),(Xp.name (Sx.expr d.2)),(Xp.l (Sx.expr d.2))))) λy16=>(aB ((!y16),dY d.2))) (aB (aa,dY d.2))))) (aF (!d.1) (av (qT (d9 ((Xp.op (Sx.expr d.2)),(Xp.n (Sx.expr d.2)),(Xp.name (Sx.expr d.2)),(Xp.l (Sx.expr d.2))))) λy17=>(aB ((!y17),dY d.2))) (aB (aa,dY d.2)))) λA=>(aF A.1 (Z aa) (jn (ji 2 (Sx.op A.2) (aB ((cO (Sx.op A.2) 8),dY A.2)) (aB (aa,dY A.2))) λq=>(jn (aF (!q.1) (bA 0 (aT (ah (Sx.body q.2))) (aB (M,dY q.2)) (iT (Sx.op q.2) 2 (aB ((fE 0 (aT (ah (Sx.els q.2)))),dY q.2)) (aB (aa,dY q.2)))) (iT (Sx.op q.2) 2 (aB ((fE 0 (aT (ah (Sx.els q.2)))),dY q.2)) (aB (aa,dY q.2)))) λF=>(aF F.1 (Z aa) (jn (av (rr02_ShapedStmts (Sx.body F.2)) λy21=>(aF y21 (av (rr02_ShapedStmts (Sx.els F.2)) λL=>(aB L)) (aB aa))) λx20=>(Z x20)))))))))))))))))
def nO (rr02_ShapedStmt:Sx->J (Bool)) (rr02_ShapedStmts:(Y Sx)->J (Bool)) (x:Y Sx):J (Bool):=
 (iter (σ:=Int) (λx1=>(bA x1 (aY x) (mq x1 x (av (rr02_ShapedStmt (aH (T:=.sm) x x1)) λd=>(aF (!d) (aB aa) (cM (cw x1))))) (aB M))) 0)
mutual
def hZ:Nat->Sx->J (Bool)
 |0,_=>U
 |n+1,x=>oU (hZ n) (fA n) x
def fA:Nat->(Y Sx)->J (Bool)
 |0,_=>U
 |n+1,x=>nO (hZ n) (fA n) x
end
def qU (x:Y Sx):J (Bool):=fA fuel x
def ma (x:Int×Int×(ζ)×Int×Int×ζ):J (Bool):=
 (jn (bA x.1 1 (aB (M,x)) (bA 6 x.1 (aB (M,x)) (av (fg x.p2) λs=>(aF (!s) (aB (M,x)) (bA x.p3 0 (aB (M,x)) (iT x.1 1 (aB ((!decide ((x.p3:Int)=0)),x)) (aB (aa,x)))))))) λx1=>(aF x1.1 (Z aa) (jn (α:=Bool×Int×Int×(ζ)×Int×Int×ζ) (bg x1.2.1 5 (av (fg x1.q6) λq=>(aF (!q) (aB (M,x1.2)) (iT x1.2.1 5 (aB ((!decide ((x1.q6:ζ)=([]))),x1.2)) (aB (aa,x1.2))))) (iT x1.2.1 5 (aB ((!decide ((x1.q6:ζ)=([]))),x1.2)) (aB (aa,x1.2)))) λd=>(aF d.1 (Z aa) (jn (α:=Bool) (bA (-9223372036854775808) d.p5 (bg d.p5 0 (aB M) (bg d.2.1 1 (aB M) (aB (decide ((d.2.1:Int)=2))))) (aB aa)) λz=>(Z z))))))
def rU (x:v7×Y vZ):J (Bool):=
 (iter (σ:=Int×v7×Y vZ) (λx1=>(bA x1.1 (aY x1.2.1) (bJ FM x1.2.1 x1.1 λI=>(av (ma I) λy3=>(aF (!y3) (aB aa) (cM ((cw x1.1),x1.2))))) (av (iter (σ:=Int×v7×Y vZ) (λq=>(bA q.1 (aY q.2.2) (bJ sv q.2.2 q.1 λF=>(iter (σ:=Int×(v7×Y vZ)×(ζ)×Int×di×Y Sx) (λd=>(bA d.1 (aY d.p4) (bJ (.str) d.p4 d.1 λD=>(av (fg D) λL=>(aF (!L) (aB (bZ aa)) (cM ((cw d.1),d.2))))) (av (jn (av (fg d.p2) λz=>(aF (!z) (aB (M,d.2.1)) (av (qU d.q5) λs=>(aB ((!s),d.2.1))))) λA=>(aF A.1 (aB aa) (cM ((cw q.1),A.2)))) λr=>Z (bZ r)))) (0,q.2,F))) (aB (fE 0 (aY q.2.2))))) (0,x1.2)) λr=>Z (bZ r)))) (0,x))
def jW (x:di×ζ):J (Int):=
 (iter (σ:=Int) (λx1=>(bA x1 (aY x.1) (bJ (.str) x.1 x1 λd=>(aF (decide ((d:ζ)=x.2)) (aB x1) (cM (cw x1)))) (aB (-1)))) 0)
def iH (x:v7×ζ):J (Int):=
 (iter (σ:=Int) (λx1=>(bA x1 (aY x.1) (bJ FM x.1 x1 λd=>(aF (decide ((d.2.2.1:ζ)=x.2)) (aB x1) (cM (cw x1)))) (aB (-1)))) 0)
def iB (x:(Y vZ)×ζ):J (Int):=
 (iter (σ:=Int) (λx1=>(bA x1 (aY x.1) (bJ sv x.1 x1 λd=>(aF (decide ((d.1:ζ)=x.2)) (aB x1) (cM (cw x1)))) (aB (-1)))) 0)
def rT (x:(v7×Y vZ)×Int×ζ):J (Int):=
 (jn (ji 0 x.2.1 (bA x.2.1 (aY x.1.2) (bJ sv x.1.2 x.2.1 λD=>(av (jW (D.2.2.1,x.2.2)) λI=>(aB ((cO 0 I),x.1)))) (aB (aa,x.1))) (aB (aa,x.1))) λx1=>(aF x1.1 (Z 8) (av (iH (x1.2.1,x.2.2)) λq=>(bA q 0 (av (iB (x1.2.2,x.2.2)) λF=>(ji 0 F (Z 7) (Z 0))) (mq q x1.2.1 (lt ((aH (T:=FM) x1.2.1 q).1) λd=>(bg d 1 (bJ FM x1.2.1 q λA=>(iT A.2.2.2.1 0 (Z 2) (Z 1))) (bg d 2 (Z 1) (jn (bg d 3 (aB ((decide ((d:Int)=3)),x1.2)) (bg d 4 (aB ((decide ((d:Int)=4)),x1.2)) (bg d 5 (aB ((decide ((d:Int)=5)),x1.2)) (aB ((decide ((d:Int)=6)),x1.2))))) λs=>(aF s.1 (bJ FM s.2.1 q λz=>(Z z.1)) (Z 9)))))))))))
def gX (x:(v7×Y vZ)×Int×(ζ)×Int×Int):J (Int):=
 (av (rT (x.1,x.2.1,x.p2)) λd=>(bg d 0 (Z 5) (jn (iT d x.p3 (aB (!decide ((d:Int)=x.q4))) (aB aa)) λx2=>(aF x2 (Z 6) (Z 0)))))
def wG (rr04_Nodes:Xp->J Γ) (x:Xp):J Γ:=
 (iter (σ:=(ν)×Xp) (λx1=>(bA x1.1.2.2 (aT (ah (Xp.l x1.2))) (bJ (.ex) (Xp.l x1.2) x1.1.2.2 λq=>(av (rr04_Nodes q) λd=>(cM (((ba .i64 (x1.1.1+d.1)),(gJ x1.1.2.1 d.2),(cw x1.1.2.2)),d9 ((Xp.op x1.2),(Xp.n x1.2),(Xp.name x1.2),(Xp.l x1.2)))))) (aB (x1.1.1,(cw x1.1.2.1))))) ((1,0,0),d9 ((Xp.op x),(Xp.n x),(Xp.name x),(Xp.l x))))
def pw:Nat->Xp->J Γ
 |0,_=>U
 |n+1,x=>wG (pw n) x
theorem Gj (n:Nat) (x:Xp):pw (n+1) x=wG (pw n) x:=rfl
def HY (x:Xp):J Γ:=pw fuel x
def wF (rr04_names:((v7×Y vZ)×Int×Xp)->J (Int)) (x:(v7×Y vZ)×Int×Xp):J (Int):=
 (jn (α:=Int×(v7×Y vZ)×Xp) (bg (Xp.op x.2.2) 2 (av (gX (x.1,x.2.1,(Xp.name x.2.2),8,1)) λD=>(aB (D,x.1,d9 ((Xp.op x.2.2),(Xp.n x.2.2),(Xp.name x.2.2),(Xp.l x.2.2))))) (bg (Xp.op x.2.2) 3 (av (gX (x.1,x.2.1,(Xp.name x.2.2),2,2)) λA=>(aB (A,x.1,d9 ((Xp.op x.2.2),(Xp.n x.2.2),(Xp.name x.2.2),(Xp.l x.2.2))))) (aB (0,x.1,d9 ((Xp.op x.2.2),(Xp.n x.2.2),(Xp.name x.2.2),(Xp.l x.2.2)))))) λx1=>(iter (σ:=(Γ)×(v7×Y vZ)×Xp) (λd=>(jn (bA d.1.2 (aT (ah (Xp.l d.2.2))) (aB ((decide ((d.1.1:Int)=0)),d.2.1,d9 ((Xp.op d.2.2),(Xp.n d.2.2),(Xp.name d.2.2),(Xp.l d.2.2)))) (aB (aa,d.2.1,d9 ((Xp.op d.2.2),(Xp.n d.2.2),(Xp.name d.2.2),(Xp.l d.2.2))))) λq=>(aF q.1 (bJ (.ex) (Xp.l q.2.2) d.1.2 λs=>(av (rr04_names (q.2.1,x.2.1,s)) λz=>(cM ((z,(cw d.1.2)),q.2.1,d9 ((Xp.op q.2.2),(Xp.n q.2.2),(Xp.name q.2.2),(Xp.l q.2.2)))))) (aB d.1.1)))) ((x1.1,0),x1.2.1,d9 ((Xp.op x1.2.2),(Xp.n x1.2.2),(Xp.name x1.2.2),(Xp.l x1.2.2)))))
def pu:Nat->((v7×Y vZ)×Int×Xp)->J (Int)
 |0,_=>U
 |n+1,x=>wF (pu n) x
theorem Gi (n:Nat) (x:(v7×Y vZ)×Int×Xp):pu (n+1) x=wF (pu n) x:=rfl
def HX (x:(v7×Y vZ)×Int×Xp):J (Int):=pu fuel x
def nH (x:(v7×Y vZ)×Int×Xp):J (Int):=
 (av (j_ (d9 ((Xp.op x.2.2),(Xp.n x.2.2),(Xp.name x.2.2),(Xp.l x.2.2)))) λz=>(aF (!z) (Z 3) (av (HY (d9 ((Xp.op x.2.2),(Xp.n x.2.2),(Xp.name x.2.2),(Xp.l x.2.2)))) λq=>(jn (bA 24 q.1 (aB (M,x.1,d9 ((Xp.op x.2.2),(Xp.n x.2.2),(Xp.name x.2.2),(Xp.l x.2.2)))) (aB ((fE 6 q.2),x.1,d9 ((Xp.op x.2.2),(Xp.n x.2.2),(Xp.name x.2.2),(Xp.l x.2.2))))) λd=>(aF d.1 (Z 2) (av (HX (d.2.1,x.2.1,d9 ((Xp.op d.2.2),(Xp.n d.2.2),(Xp.name d.2.2),(Xp.l d.2.2)))) λs=>(Z s)))))))
def da (x:Bool):J (Int):=
 (aF x (Z 7) (Z 0))
def js (x:Γ):J (Int):=
 (iT x.1 0 (Z x.1) (Z x.2))
def em (x:(Int×Int×ζ)×w9×(Bool×Y Sx)×di×Y ζ):J (Bool×w9×(Bool×Y Sx)×di×Y ζ):=
 (iter (σ:=Int×w9×(Bool×Y Sx)×di×Y ζ) (λx1=>(bA x1.1 (aY x1.p2.2) (kM (.sm) x1.p2.2 x1.1 λd=>(jn (α:=Bool×w9×(Bool×Y Sx)×di×Y ζ) (bg (Sx.op d) x.1.1 (aF (decide ((x.1.2.2:ζ)=([]))) (aB (M,x1.2)) (aB ((decide (((Sx.name d):ζ)=x.1.2.2)),x1.2))) (bg (Sx.op d) x.1.2.1 (aF (decide ((x.1.2.2:ζ)=([]))) (aB (M,x1.2)) (aB ((decide (((Sx.name d):ζ)=x.1.2.2)),x1.2))) (aB (aa,x1.2)))) λq=>(aF q.1 (aB (M,q.2)) (cM ((cw x1.1),q.2))))) (aB (aa,x1.2)))) (0,x.2))
def ou (x:Sx×w9×(Bool×Y Sx)×di×Y ζ):J (Int×w9×(Bool×Y Sx)×di×Y ζ):=
 (av (em ((7,7,[]),x.2)) λL=>(bt (ax (ah x.q4) (ah L.q4)&&(ax (ah x.p3) (ah L.p3)&&(((x.p2.1==L.p2.1)&&M)&&ax (ah x.p2.2) (ah L.p2.2)&&M))) (av (em ((8,8,[]),L.2)) λy2=>(bt (ax (ah L.q4) (ah y2.q4)&&(ax (ah L.p3) (ah y2.p3)&&(((L.p2.1==y2.p2.1)&&M)&&ax (ah L.p2.2) (ah y2.p2.2)&&M))) (av (em ((3,3,[]),y2.2)) λy3=>(bt (ax (ah y2.q4) (ah y3.q4)&&(ax (ah y2.p3) (ah y3.p3)&&(((y2.p2.1==y3.p2.1)&&M)&&ax (ah y2.p2.2) (ah y3.p2.2)&&M))) (bg (Sx.op x.1) 1 (bg (aT (ah (Sx.index x.1))) 0 (av (gX ((x.2.1.1,x.2.1.2.1),x.2.1.2.2,(Sx.name x.1),8,1)) λy4=>(av (nH ((x.2.1.1,x.2.1.2.1),x.2.1.2.2,d9 ((Xp.op (Sx.expr x.1)),(Xp.n (Sx.expr x.1)),(Xp.name (Sx.expr x.1)),(Xp.l (Sx.expr x.1))))) λy5=>(av (js (y4,y5)) λy6=>(Z (y6,y3.2))))) (av (gX ((x.2.1.1,x.2.1.2.1),x.2.1.2.2,(Sx.name x.1),2,2)) λy7=>(bJ (.ex) (Sx.index x.1) 0 λz8=>(av (nH ((x.2.1.1,x.2.1.2.1),x.2.1.2.2,z8)) λy9=>(av (nH ((x.2.1.1,x.2.1.2.1),x.2.1.2.2,d9 ((Xp.op (Sx.expr x.1)),(Xp.n (Sx.expr x.1)),(Xp.name (Sx.expr x.1)),(Xp.l (Sx.expr x.1))))) λy10=>(av (js (y9,y10)) λy11=>(av (js (y7,y11)) λy12=>(Z (y12,y3.2))))))))) (jn (bg (Sx.op x.1) 2 (aB ((decide (((Sx.op x.1):Int)=2)),y3.2.1,y3.p2,dY x.1,(x.2.1.1,x.2.1.2.1),y3.q3)) (aB ((decide (((Sx.op x.1):Int)=3)),y3.2.1,y3.p2,dY x.1,(x.2.1.1,x.2.1.2.1),y3.q3))) λs=>(aF s.1 (av (nH (s.p4,x.2.1.2.2,d9 ((Xp.op (Sx.expr s.p3)),(Xp.n (Sx.expr s.p3)),(Xp.name (Sx.expr s.p3)),(Xp.l (Sx.expr s.p3))))) λy14=>(Z (y14,s.2.1,s.p2,s.q5))) (bg (Sx.op x.1) 4 (jn (α:=Int×w9×(Bool×Y Sx)×di×Y ζ) (av (gX (s.p4,x.2.1.2.2,(Sx.name s.p3),3,3)) λy16=>(aF L.1 (av (da M) λy17=>(av (js (y16,y17)) λy18=>(aB (y18,s.2.1,s.p2,s.q5)))) (av (em ((4,4,(Sx.name s.p3)),s.2.1,s.p2,s.q5)) λy19=>(bt (ax (ah s.q6) (ah y19.q4)&&(ax (ah s.p5) (ah y19.p3)&&(((s.p2.1==y19.p2.1)&&M)&&ax (ah s.p2.2) (ah y19.p2.2)&&M))) (av (da y19.1) λy20=>(av (js (y16,y20)) λy21=>(aB (y21,y19.2)))))))) λx15=>(Z x15)) (jn (bg (Sx.op x.1) 5 (aB ((decide (((Sx.op x.1):Int)=5)),s.2.1,s.p2,dY s.p3,s.q4)) (aB ((decide (((Sx.op x.1):Int)=6)),s.2.1,s.p2,dY s.p3,s.q4))) λq=>(aF q.1 (jn (α:=Int×w9×(Bool×Y Sx)×di×Y ζ) (av (gX (q.p4,x.2.1.2.2,(Sx.name q.p3),4,4)) λy24=>(aF L.1 (av (da M) λy25=>(av (js (y24,y25)) λy26=>(aB (y26,q.2.1,q.p2,q.q5)))) (av (em ((5,6,(Sx.name q.p3)),q.2.1,q.p2,q.q5)) λy27=>(bt (ax (ah q.q6) (ah y27.q4)&&(ax (ah q.p5) (ah y27.p3)&&(((q.p2.1==y27.p2.1)&&M)&&ax (ah q.p2.2) (ah y27.p2.2)&&M))) (av (da y27.1) λy28=>(av (js (y24,y28)) λy29=>(aB (y29,y27.2)))))))) λx23=>(Z x23)) (bg (Sx.op x.1) 7 (av (da L.1) λy30=>(Z (y30,q.2.1,q.p2,q.q5))) (bg (Sx.op x.1) 8 (jn (aF L.1 (av (da M) λy32=>(aB (y32,q.2.1,q.p2,q.q5))) (av (da y2.1) λy33=>(aB (y33,q.2.1,q.p2,q.q5)))) λx31=>(Z x31)) (jn (bg (Sx.op x.1) 9 (aB ((decide (((Sx.op x.1):Int)=9)),q.2.1,q.p2,dY q.p3,q.q4)) (bg (Sx.op x.1) 10 (aB ((decide (((Sx.op x.1):Int)=10)),q.2.1,q.p2,dY q.p3,q.q4)) (aB ((decide (((Sx.op x.1):Int)=11)),q.2.1,q.p2,dY q.p3,q.q4)))) λd=>(aF d.1 (av (gX (d.p4,x.2.1.2.2,(Sx.name d.p3),5,5)) λy35=>(iT y35 0 (Z (y35,d.2.1,d.p2,d.q5)) (av (iH (d.p4.1,(Sx.name d.p3))) λy36=>(bJ FM d.p4.1 y36 λz37=>(av (em ((4,4,z37.2.2.2.2.2),d.2.1,d.p2,d.q5)) λF=>(bt (ax (ah d.q6) (ah F.q4)&&(ax (ah d.p5) (ah F.p3)&&(((d.p2.1==F.p2.1)&&M)&&ax (ah d.p2.2) (ah F.p2.2)&&M))) (jn (aF L.1 (av (da M) λy40=>(aB (y40,F.2))) (aF (!F.1) (av (da M) λy41=>(aB (y41,F.2))) (bg (Sx.op d.p3) 9 (av (da y2.1) λy42=>(aB (y42,F.2))) (av (da aa) λy43=>(aB (y43,F.2)))))) λx39=>(Z x39)))))))) (bg (Sx.op x.1) 12 (av (gX (d.p4,x.2.1.2.2,(Sx.name d.p3),7,7)) λy44=>(iT y44 0 (Z (y44,d.2.1,d.p2,d.q5)) (av (iB (d.p4.2,(Sx.name d.p3))) λy45=>(jn (aF L.1 (aB (M,d.2.1,d.p2,dY d.p3,d.q5)) (aF y2.1 (aB (M,d.2.1,d.p2,dY d.p3,d.q5)) (aF y3.1 (aB (M,d.2.1,d.p2,dY d.p3,d.q5)) (bg y45 x.2.1.2.2 (aB (M,d.2.1,d.p2,dY d.p3,d.q5)) (aB ((decide ((y45:Int)=0)),d.2.1,d.p2,dY d.p3,d.q5)))))) λz=>(aF z.1 (Z (7,z.2.1,z.p2,z.q4)) (av (jW (z.p4,(Sx.name z.p3))) λy47=>(ji 0 y47 (Z (8,z.2.1,z.p2,z.q4)) (bt (be (ah z.p4+ah ([(Sx.name z.p3)])) 16) (Z (0,z.2.1,z.p2,(z.p4++([(Sx.name z.p3)])),z.q5)))))))))) (bg (Sx.op x.1) 13 (jn (α:=Int×w9×(Bool×Y Sx)×di×Y ζ) (av (gX (d.p4,x.2.1.2.2,(Sx.name d.p3),7,7)) λy49=>(aF L.1 (av (da M) λy50=>(av (js (y49,y50)) λy51=>(aB (y51,d.2.1,d.p2,d.q5)))) (aF y2.1 (av (da M) λy52=>(av (js (y49,y52)) λy53=>(aB (y53,d.2.1,d.p2,d.q5)))) (av (iB (d.p4.2,(Sx.name d.p3))) λy54=>(av (da (decide ((y54:Int)=x.2.1.2.2))) λy55=>(av (js (y49,y55)) λy56=>(aB (y56,d.2.1,d.p2,d.q5)))))))) λx48=>(Z x48)) (bg (Sx.op x.1) 14 (jn (α:=Int×w9×(Bool×Y Sx)×Sx×(v7×Y vZ)×di×Y ζ) (av (gX (d.p4,x.2.1.2.2,(Sx.name d.p3),6,6)) λy58=>(aF L.1 (av (da M) λy59=>(av (js (y58,y59)) λy60=>(aB (y60,d.2.1,d.p2,dY d.p3,d.q4)))) (av (da y3.1) λy61=>(av (js (y58,y61)) λy62=>(aB (y62,d.2.1,d.p2,dY d.p3,d.q4)))))) λD=>(jn (α:=Int×w9×(Bool×Y Sx)×Sx×(v7×Y vZ)×di×Y ζ) (jn (bg D.1 0 (av (jW (D.q6,(Sx.name D.p3))) λy65=>(aB ((cO 0 y65),D.2.1,D.p2,dY D.p3,D.q4))) (aB (aa,D.2.1,D.p2,dY D.p3,D.q4))) λI=>(aF I.1 (aB (8,I.2.1,I.p2,dY I.p3,I.q4)) (aB (D.1,I.2.1,I.p2,dY I.p3,I.q4)))) λA=>(bt (be (ah A.q6+ah ([(Sx.name A.p3)])) 16) (av (nH (A.p4,x.2.1.2.2,d9 ((Xp.op (Sx.expr A.p3)),(Xp.n (Sx.expr A.p3)),(Xp.name (Sx.expr A.p3)),(Xp.l (Sx.expr A.p3))))) λy66=>(av (js (A.1,y66)) λy67=>(Z (y67,A.2.1,A.p2,A.p5,(A.q6++([(Sx.name A.p3)]))))))))) (av (gX (d.p4,x.2.1.2.2,(Sx.name d.p3),8,8)) λy68=>(av (gX (d.p4,x.2.1.2.2,(Sx.arg d.p3),6,6)) λy69=>(av (da L.1) λy70=>(av (js (y69,y70)) λy71=>(av (js (y68,y71)) λy72=>(Z (y72,d.2.1,d.p2,d.q5))))))))))))))))))))))))))
def rG (rr04_walk_all:((Y Sx)×w9×(Bool×Y Sx)×di×Y ζ)->J ad3) (x:(Y Sx)×w9×(Bool×Y Sx)×di×Y ζ):J ad3:=
 (iter (σ:=Int×w9×(Bool×Y Sx)×di×Y ζ) (λx1=>(bA x1.1 (aY x.1) (bJ (.sm) x.1 x1.1 λA=>(av (ou (dY A,x1.2)) λz=>(bt (ax (ah x1.q4) (ah x1.q4)&&(ax (ah x1.p3) (ah x1.p3)&&(((x1.p2.1==z.p2.1)&&M)&&ax (ah x1.p2.2) (ah z.p2.2)&&M))) (jn (α:=Int×w9×Sx×(Bool×Y Sx)×di×Y ζ) (bA 6 (ba .i64 ((aY z.p2.2)+1)) (aB (2,z.2.1,dY A,z.2.2)) (aB (z.1,z.2.1,dY A,z.2.2))) λd=>(iT d.1 0 (aB ((d.1,(Sx.line d.p2)),d.2.1,d.q3)) (bt (be (ah d.p3.2+ah ([oA (0,0,[],[],([]:Y Xp),d9 (0,0,[],([]:Y Xp)),([]:Y Sx),([]:Y Sx))])) 176) (ck (eZ (aY d.p3.2) (ah (d.p3.2++([oA (0,0,[],[],([]:Y Xp),d9 (0,0,[],([]:Y Xp)),([]:Y Sx),([]:Y Sx))])))) (av (rr04_walk_all ((Sx.body d.p2),d.2.1,(d.p3.1,(ct (d.p3.2++([oA (0,0,[],[],([]:Y Xp),d9 (0,0,[],([]:Y Xp)),([]:Y Sx),([]:Y Sx))])) (aY d.p3.2) (dY d.p2))),d.q4)) λs=>(bt (ax (ah d.q5) (ah d.q5)&&(ax (ah d.p4) (ah d.p4)&&(((d.p3.1==d.p3.1)&&M)&&ax (ah (ct (d.p3.2++([oA (0,0,[],[],([]:Y Xp),d9 (0,0,[],([]:Y Xp)),([]:Y Sx),([]:Y Sx))])) (aY d.p3.2) (dY d.p2))) (ah (ct (d.p3.2++([oA (0,0,[],[],([]:Y Xp),d9 (0,0,[],([]:Y Xp)),([]:Y Sx),([]:Y Sx))])) (aY d.p3.2) (dY d.p2)))&&M))) (jn (bg s.1.1 0 (av (rr04_walk_all ((Sx.els d.p2),s.2)) λD=>(bt (ax (ah s.q4) (ah s.q4)&&(ax (ah s.p3) (ah s.p3)&&(((s.p2.1==s.p2.1)&&M)&&ax (ah s.p2.2) (ah s.p2.2)&&M))) (aB D))) (aB s)) λq=>(bt (cO 0 (ba .i64 ((aY q.p2.2)-1))&&fE (ba .i64 ((aY q.p2.2)-1)) (ah q.p2.2)) (iT q.1.1 0 (aB (q.1,q.2.1,(aa,(dj (aO (ba .i64 ((aY q.p2.2)-1))) q.p2.2)),q.q3)) (cM ((cw x1.1),q.2.1,(aa,(dj (aO (ba .i64 ((aY q.p2.2)-1))) q.p2.2)),q.q3)))))))))))))) (aB ((0,0),x1.2)))) (0,x.2))
def mn:Nat->((Y Sx)×w9×(Bool×Y Sx)×di×Y ζ)->J ad3
 |0,_=>U
 |n+1,x=>rG (mn n) x
def Ab (x:(Y Sx)×w9×(Bool×Y Sx)×di×Y ζ):J ad3:=mn fuel x
def wH (rr04_Count:(Y Sx)->J (Int)) (x:Y Sx):J (Int):=
 (iter (σ:=Γ) (λx1=>(bA x1.2 (aY x) (mq x1.2 x (lt (Sx.body (aH (T:=.sm) x x1.2)) λq=>(av (rr04_Count q) λz=>(mq x1.2 x (lt (Sx.els (aH (T:=.sm) x x1.2)) λd=>(av (rr04_Count d) λs=>(cM ((ba .i64 ((ba .i64 (x1.1+z))+s)),(cw x1.2))))))))) (aB x1.1))) ((aY x),0))
def px:Nat->(Y Sx)->J (Int)
 |0,_=>U
 |n+1,x=>wH (px n) x
theorem Gk (n:Nat) (x:Y Sx):px (n+1) x=wH (px n) x:=rfl
def HZ (x:Y Sx):J (Int):=px fuel x
def tF (x:Y afw):J Γ:=
 (iter (σ:=υ) (λx1=>(bA x1.q4 (aY x) (jn (α:=π) (bJ FM x x1.q4 λd=>(bt (cO 0 x1.q4&&cO x1.q4 (ah x)) (av (iH ((dj (aO x1.q4) x),d.p2)) λI=>(ji 0 I (cM (bZ (4,d.2.1))) (bA 4 d.p3 (cM (bZ (2,d.2.1))) (jn (jn (bg d.1 1 (aB ((decide ((d.1:Int)=1)),d)) (aB ((decide ((d.1:Int)=2)),d))) λz=>(aF z.1 (aB (((ba .i64 (x1.1+(gJ z.p4 1))),x1.2.1,x1.p2,x1.p3),z.2)) (jn (bg d.1 3 (aB ((decide ((d.1:Int)=3)),z.2)) (aB ((decide ((d.1:Int)=4)),z.2))) λA=>(aF A.1 (aB ((x1.1,(cw x1.2.1),x1.p2,x1.p3),A.2)) (bg d.1 5 (aB ((x1.1,x1.2.1,(cw x1.p2),x1.p3),A.2)) (aB ((x1.1,x1.2.1,x1.p2,(cw x1.p3)),A.2))))))) λq=>(jn (bA 12 q.1.1 (aB (M,q.2)) (bA 4 q.1.2.1 (aB (M,q.2)) (bA 2 q.1.p2 (aB (M,q.2)) (aB ((fE 2 q.1.q3),q.2))))) λs=>(aF s.1 (cM (bZ (2,s.p2))) (bg s.2.1 5 (bt (cO 0 x1.q4&&cO x1.q4 (ah x)) (av (iH ((dj (aO x1.q4) x),s.q6)) λF=>(bA F 0 (cM (bZ (5,s.p2))) (bJ FM x F λD=>(iT D.1 3 (cM (bZ (6,s.p2))) (aB q.1)))))) (aB q.1)))))))))) λx2=>(cM (x2.1,x2.2.1,x2.p2,x2.q3,(cw x1.q4)))) (aB (0,0)))) (0,0,0,0,0))
def qa (x:v7×Y vZ):J Γ:=
 (iter (σ:=Int×v7×Y vZ) (λx1=>(bA x1.1 (aY x1.2.2) (bJ sv x1.2.2 x1.1 λz=>(jn (av (iH (x1.2.1,z.1)) λy4=>(ji 0 y4 (aB (M,x1.2,z)) (bt (cO 0 x1.1&&cO x1.1 (ah x1.2.2)) (av (iB ((dj (aO x1.1) x1.2.2),z.1)) λy5=>(aB ((cO 0 y5),x1.2,z)))))) λx3=>(aF x3.1 (aB (4,x3.p3)) (cM ((cw x1.1),x3.2.1))))) (av (iter (σ:=Int×v7×Y vZ) (λs=>(bA s.1 (aY s.2.2) (bJ sv s.2.2 s.1 λD=>(bA 4 (aY D.p2) (aB (2,D.2.1)) (iter (σ:=Int×(v7×Y vZ)×(ζ)×Int×di×Y Sx) (λd=>(bA d.1 (aY d.p4) (bJ (.str) d.p4 d.1 λA=>(jn (av (iH (d.2.1.1,A)) λL=>(ji 0 L (aB (M,d.2)) (av (iB (d.2.1.2,A)) λI=>(ji 0 I (aB (M,d.2)) (bt (cO 0 d.1&&cO d.1 (ah d.p4)) (av (jW ((dj (aO d.1) d.p4),A)) λF=>(aB ((cO 0 F),d.2)))))))) λq=>(aF q.1 (aB (bZ (4,q.p3))) (cM ((cw d.1),q.2))))) (aB (pM ((cw s.1),d.2.1))))) (0,s.2,D)))) (aB (0,0)))) (0,x1.2)) λr=>Z (bZ r)))) (0,x))
def km (x:v7×Y vZ):J Γ:=
 (av (rU x) λL=>(aF (!L) (Z (3,0)) (av (tF x.1) λA=>(iT A.1 0 (Z A) (bA 4 (aY x.2) (Z (2,0)) (av (qa x) λz=>(iT z.1 0 (Z z) (iter (σ:=(Γ)×v7×Y vZ) (λq=>(bA q.1.2 (aY q.2.2) (bJ sv q.2.2 q.1.2 λF=>(av (HZ F.2.2.2) λI=>(cM (((ba .i64 (q.1.1+I)),(cw q.1.2)),q.2)))) (av (bA 60 q.1.1 (Z (2,0)) (iter (σ:=Int×(v7×Y vZ)×w9×(Bool×Y Sx)×di×Y ζ) (λd=>(bA d.1 (aY d.2.1.2) (bJ sv d.2.1.2 d.1 λD=>(av (Ab (D.2.2.2,(d.p2.1,d.p2.2.1,d.1),d.q3)) λs=>(bt (ax (ah d.q5) (ah d.q5)&&(ax (ah d.p4) (ah d.p4)&&(((d.p3.1==d.p3.1)&&M)&&ax (ah d.p3.2) (ah d.p3.2)&&M))) (iT s.1.1 0 (aB s.1) (cM ((cw d.1),d.2.1,s.2)))))) (aB (0,0)))) (0,q.2,(q.2.1,q.2.2,0),(M,([]:Y Sx)),([]:Y ζ),([]:Y ζ)))) λr=>Z (bZ r)))) ((0,0),x)))))))))
def wE (rr06_sites:((Int×Int×Y Sx)×Y ν)->J (Int×Y ν)) (x:(Int×Int×Y Sx)×Y ν):J (Int×Y ν):=
 (iter (σ:=(Γ)×Y ν) (λx1=>(bA x1.1.2 (aY x.1.2.2) (mq x1.1.2 x.1.2.2 (lt (Sx.line (aH (T:=.sm) x.1.2.2 x1.1.2)) λd=>(bt (be (ah x1.2+ah ([(x.1.1,x1.1.1,d)])) 24) (mq x1.1.2 x.1.2.2 (lt (Sx.body (aH (T:=.sm) x.1.2.2 x1.1.2)) λA=>(av (rr06_sites ((x.1.1,(cw x1.1.1),A),(x1.2++([(x.1.1,x1.1.1,d)])))) λq=>(bt (ax (ah (x1.2++([(x.1.1,x1.1.1,d)]))) (ah (x1.2++([(x.1.1,x1.1.1,d)])))&&M) (mq x1.1.2 x.1.2.2 (lt (Sx.els (aH (T:=.sm) x.1.2.2 x1.1.2)) λz=>(av (rr06_sites ((x.1.1,q.1,z),q.2)) λs=>(bt (ax (ah q.2) (ah q.2)&&M) (cM ((s.1,(cw x1.1.2)),s.2))))))))))))) (aB (x1.1.1,x1.2)))) ((x.1.2.1,0),x.2))
def pt:Nat->((Int×Int×Y Sx)×Y ν)->J (Int×Y ν)
 |0,_=>U
 |n+1,x=>wE (pt n) x
theorem Gh (n:Nat) (x:(Int×Int×Y Sx)×Y ν):pt (n+1) x=wE (pt n) x:=rfl
def HW (x:(Int×Int×Y Sx)×Y ν):J (Int×Y ν):=pt fuel x
def lm (x:my×ζ):J (Int):=
 (iter (σ:=Int) (λx1=>(bA x1 (aY x.1) (bJ qE x.1 x1 λd=>(aF (decide ((d.1:ζ)=x.2)) (aB x1) (cM (cw x1)))) (aB (-1)))) 0)
def lq (x:fc×ζ):J (Int):=
 (iter (σ:=Int×ny×my×(Y jD)×di×di×Y ν) (λx1=>(bA x1.1 (aY x1.2.1) (bJ kJ x1.2.1 x1.1 λd=>(aF (decide ((d.1:ζ)=x.2)) (aB x1.1) (cM ((cw x1.1),x1.2)))) (aB (-1)))) (0,x.1))
def tC (x:v7×Y vZ):J fc:=
 (av (km x) λy1=>(iT y1.1 0 (Z (([]:Y Rw),([]:Y (ζ×Bool)),([]:Y jD),([]:Y ζ),([]:Y ζ),([]:Y ν))) (iter (σ:=Int×(v7×Y vZ)×ny×my×(Y jD)×Y ζ) (λx2=>(bA x2.1 (aY x2.2.1.1) (bJ FM x2.2.1.1 x2.1 λz=>(jn (α:=(v7×Y vZ)×ny×my×(Y jD)×Y ζ) (jn (bg z.1 1 (aB ((decide ((z.1:Int)=1)),x2.2.1,z,x2.2.2)) (aB ((decide ((z.1:Int)=2)),x2.2.1,z,x2.2.2))) λD=>(aF D.1 (iter (σ:=Int×(v7×Y vZ)×afw×ny×my×(Y jD)×Y ζ) (λq=>(bA q.1 (gJ q.p2.p3 1) (bt (be (ah q.p3+ah ([(q.p2.p2,q.1,q.p2.p3,(decide ((q.p2.1:Int)=2)),q.p2.p4)])) 48) (cM ((cw q.1),q.2.1,q.p2,(q.p3++([(q.p2.p2,q.1,q.p2.p3,(decide ((q.p2.1:Int)=2)),q.p2.p4)])),q.q4))) (aB (bZ (q.2.1,q.q3))))) (0,D.2)) (jn (bg z.1 3 (aB ((decide ((z.1:Int)=3)),D.2)) (aB ((decide ((z.1:Int)=4)),D.2))) λd=>(aF d.1 (bt (be (ah d.p4+ah ([(d.p2.p2,(decide ((d.p2.1:Int)=4)))])) 24) (aB (d.2.1,d.p3,(d.p4++([(d.p2.p2,(decide ((d.p2.1:Int)=4)))])),d.q5))) (bg z.1 5 (av (lm (d.p4,d.p2.q5)) λL=>(bt (be (ah d.p5+ah ([(d.p2.p2,L)])) 24) (aB (d.2.1,d.p3,d.p4,(d.p5++([(d.p2.p2,L)])),d.q6)))) (bt (be (ah d.q6+ah ([d.p2.p2])) 16) (aB (d.2.1,d.p3,d.p4,d.p5,(d.q6++([d.p2.p2])))))))))) λx4=>(cM ((cw x2.1),x4)))) (av (iter (σ:=Int×(v7×Y vZ)×ny×my×(Y jD)×di×di×Y ν) (λs=>(bA s.1 (aY s.2.1.2) (bJ sv s.2.1.2 s.1 λA=>(bt (be (ah s.p6+ah ([A.1])) 16) (bJ sv s.2.1.2 s.1 λF=>(av (HW ((s.1,0,F.2.2.2),s.q7)) λI=>(bt (ax (ah s.q7) (ah s.q7)&&M) (cM ((cw s.1),s.2.1,s.p2,s.p3,s.p4,s.p5,(s.p6++([A.1])),I.2))))))) (aB s.2.2))) (0,x2.2.1,x2.p2,x2.p3,x2.p4,x2.q5,([]:Y ζ),([]:Y ν))) λr=>Z (bZ r)))) (0,x,([]:Y Rw),([]:Y (ζ×Bool)),([]:Y jD),([]:Y ζ)))))
def pj (x:ny×my×(Y jD)×di×di×Y ν):J (di×Bool):=
 (iter (σ:=Int×fc×Y ζ) (λx1=>(bA x1.1 (aY x1.2.1.1) (jn (α:=Int×fc×Y ζ) (bJ kJ x1.2.1.1 x1.1 λs=>(bt (be (ah x1.2.2+ah ([s.1])) 16) (bg s.p2 0 (iT s.2.1 0 (cM (bZ (([]:Y ζ),aa))) (aB ((cw x1.1),x1.2.1,(x1.2.2++([s.1]))))) (jn (α:=Bool×fc×di×(ζ)×Int×Int×Bool×Int) (bA s.p2 1 (aB (M,x1.2.1,(x1.2.2++([s.1])),s)) (bA 4 s.p2 (aB (M,x1.2.1,(x1.2.2++([s.1])),s)) (aB ((fE (ba .i64 ((aY x1.2.1.1)-x1.1)) s.p2),x1.2.1,(x1.2.2++([s.1])),s)))) λL=>(aF L.1 (cM (bZ (([]:Y ζ),aa))) (iter (σ:=Int×fc×di×(ζ)×Int×Int×Bool×Int) (λq=>(bA q.1 q.p5 (bJ kJ q.2.1.1 (ba .i64 (x1.1+q.1)) λA=>(jn (iT A.2.1 q.1 (aB (M,q.2)) (aF (!decide ((A.1:ζ)=q.p3)) (aB (M,q.2)) (iT A.p2 q.p5 (aB (M,q.2)) (iT A.q4 q.q7 (aB (M,q.2)) (aB (A.p3,q.2)))))) λI=>(aF I.1 (aB (pM (bZ (([]:Y ζ),aa)))) (cM ((cw q.1),I.2))))) (aB (bZ ((ba .i64 (x1.1+q.p5)),q.2.1,q.p2))))) (0,L.2))))))) λx2=>(cM x2)) (av (iter (σ:=Int×fc×Y ζ) (λz=>(bA z.1 (aY z.2.1.2.1) (bJ qE z.2.1.2.1 z.1 λF=>(bt (be (ah z.2.2+ah ([F.1])) 16) (cM ((cw z.1),z.2.1,(z.2.2++([F.1])))))) (av (iter (σ:=Int×fc×Y ζ) (λd=>(bA d.1 (aY d.2.1.p2) (bJ lZ d.2.1.p2 d.1 λD=>(bt (be (ah d.2.2+ah ([D.1])) 16) (cM ((cw d.1),d.2.1,(d.2.2++([D.1])))))) (av (bt (be (ah d.2.2+ah d.2.1.p3) 16) (bt (be (ah (d.2.2++d.2.1.p3)+ah d.2.1.p4) 16) (Z (((d.2.2++d.2.1.p3)++d.2.1.p4),M)))) λr=>Z (bZ r)))) (0,z.2)) λr=>Z (bZ r)))) (0,x1.2)) λr=>Z (bZ r)))) (0,x,([]:Y ζ)))
def hX (x:ny×my×(Y jD)×di×di×Y ν):J (Bool):=
 (jn (bA 12 (aY x.1) (aB (M,x)) (bA 4 (aY x.2.1) (aB (M,x)) (bA 2 (aY x.p2) (aB (M,x)) (bA 2 (aY x.p3) (aB (M,x)) (bA (aY x.p4) 1 (aB (M,x)) (bA 4 (aY x.p4) (aB (M,x)) (aB ((fE 60 (aY x.q5)),x)))))))) λx1=>(aF x1.1 (Z aa) (av (pj x1.2) λI=>(aF (!I.2) (Z aa) (iter (σ:=Int×ny×my×(Y jD)×di×di×Y ν) (λA=>(bA A.1 (aY I.1) (jn (bJ (.str) I.1 A.1 λz5=>(av (fg z5) λy6=>(aF (!y6) (aB (M,A.2)) (bt (cO 0 A.1&&cO A.1 (ah I.1)) (bJ (.str) I.1 A.1 λz7=>(av (jW ((dj (aO A.1) I.1),z7)) λy8=>(aB ((cO 0 y8),A.2)))))))) λx4=>(aF x4.1 (aB aa) (cM ((cw A.1),x4.2)))) (av (iter (σ:=Int×ny×my×(Y jD)×di×di×Y ν) (λs=>(bA s.1 (aY s.p3) (bJ lZ s.p3 s.1 λF=>(jn (bA F.2 0 (aB (M,s.2)) (ji (aY s.p2) F.2 (aB (M,s.2)) (bJ qE s.p2 F.2 λz12=>(aB (z12.2,s.2))))) λx11=>(aF x11.1 (aB aa) (cM ((cw s.1),x11.2))))) (av (iter (σ:=Int×ny×my×(Y jD)×di×di×Y ν) (λd=>(bA d.1 (aY d.q6) (jn (bJ oF d.q6 d.1 λD=>(jn (bA D.1 0 (aB (M,d.2,D)) (aB ((cO (aY d.p5) D.1),d.2,D))) λz=>(aF z.1 (cM (bZ aa)) (jn (bg d.1 0 (aB (M,z.2)) (bJ oF z.2.1.q5 (ba .i64 (d.1-1)) λz18=>(aB ((!decide ((z18.1:Int)=z.p2)),z.2)))) λq=>(aF q.1 (jn (iT q.p3 0 (aB (M,q.2.1)) (bA 0 d.1 (bJ oF q.2.1.q5 (ba .i64 (d.1-1)) λz20=>(aB ((fE q.p2 z20.1),q.2.1))) (aB (aa,q.2.1)))) λL=>(aF L.1 (cM (bZ aa)) (aB L.2))) (bJ oF q.2.1.q5 (ba .i64 (d.1-1)) λz21=>(iT q.p3 (cw z21.2.1) (cM (bZ aa)) (aB q.2.1)))))))) λx14=>(cM ((cw d.1),x14))) (aB M))) (0,s.2)) λr=>Z (bZ r)))) (0,A.2)) λr=>Z (bZ r)))) (0,x1.2))))))
def jI (x:ω):J η:=
 (jn (bg x.1 1 (aB ((decide ((x.1:Int)=1)),x)) (bg x.1 6 (aB ((decide ((x.1:Int)=6)),x)) (bg x.1 10 (aB ((decide ((x.1:Int)=10)),x)) (aB ((decide ((x.1:Int)=27)),x))))) λx1=>(aF x1.1 (Z ([x1.p2])) (jn (bg x.1 2 (aB ((decide ((x.1:Int)=2)),x1.2)) (aB ((decide ((x.1:Int)=3)),x1.2))) λx2=>(aF x2.1 (Z ([x2.p2,x2.p3])) (bg x.1 4 (Z ([x2.p2,x2.p3,x2.p4])) (bg x.1 7 (Z ([x2.p2,x2.p4])) (jn (bg x.1 8 (aB ((decide ((x.1:Int)=8)),x2.2)) (aB ((decide ((x.1:Int)=26)),x2.2))) λd=>(aF d.1 (Z ([d.p3])) (bg x.1 9 (Z ([d.p3,d.p4])) (Z ([]:η)))))))))))
def pA (x:Int):J (Bool):=
 (jn (ji 1 x (aB (cO x 5)) (aB aa)) λx1=>(Z x1))
def tw (x:(Y lh)×Int):J (Bool):=
 (iter (σ:=Γ) (λx1=>(ji x1.2 (aY x.1) (jn (jn (bA x1.1 0 (aB M) (aB (cO (aY x.1) x1.1))) λA=>(aF A (cM (bZ aa)) (bJ qB x.1 x1.1 λs=>(av (pA s.1) λz=>(aF (!z) (cM (bZ M)) (bJ qB x.1 x1.1 λq=>(bg q.1 5 (bJ qB x.1 x1.1 λd=>(aB d.2.1)) (aB (cw x1.1))))))))) λx2=>(cM (x2,(cw x1.2)))) (aB aa))) (x.2,0))
def jr (x:Γ):J (Bool):=
 (jn (ji 0 x.1 (aB (fE x.1 x.2)) (aB aa)) λx1=>(Z x1))
def qR (x:fc×Int×Int):J (Bool):=
 (jn (av (jr (x.2.1,(aY x.1.1))) λz=>(aF z (bJ kJ x.1.1 x.2.1 λs=>(bg s.2.1 0 (bJ kJ x.1.1 x.2.1 λq=>(iT q.2.2.1 0 (bJ kJ x.1.1 x.2.1 λd=>(aB (decide ((d.2.2.1:Int)=x.2.2)))) (aB aa))) (aB aa))) (aB aa))) λx1=>(Z x1))
def pZ (x:fc×Int×Int×Int×Int×Int×Int):J (Bool):=
 (bg x.2.1 6 (jn (av (jr (x.p3,(aY x.1.1))) λy2=>(aF y2 (bJ kJ x.1.1 x.p3 λz3=>(aB (decide ((z3.2.2.1:Int)=0)))) (aB aa))) λx1=>(Z x1)) (bg x.2.1 8 (jn (av (jr (x.p2,(aY x.1.1))) λy5=>(aF y5 (bJ kJ x.1.1 x.p2 λz6=>(aB (decide ((z6.2.2.1:Int)=0)))) (aB aa))) λx4=>(Z x4)) (bg x.2.1 7 (av (qR (x.1,x.p3,x.p5)) λy7=>(Z y7)) (bg x.2.1 9 (av (qR (x.1,x.p2,x.p5)) λy8=>(Z y8)) (jn (bg x.2.1 11 (aB ((decide ((x.2.1:Int)=11)),x)) (aB ((decide ((x.2.1:Int)=12)),x))) λz=>(aF z.1 (jn (av (jr (z.p3,(aY z.2.1.2.1))) λy11=>(aF y11 (bJ qE z.2.1.2.1 z.p3 λD=>(aB (!D.2))) (aB aa))) λx10=>(Z x10)) (jn (bg x.2.1 13 (aB ((decide ((x.2.1:Int)=13)),z.2)) (bg x.2.1 14 (aB ((decide ((x.2.1:Int)=14)),z.2)) (bg x.2.1 15 (aB ((decide ((x.2.1:Int)=15)),z.2)) (aB ((decide ((x.2.1:Int)=16)),z.2))))) λq=>(aF q.1 (jn (av (jr (q.p3,(aY q.2.1.2.1))) λy15=>(aF y15 (bJ qE q.2.1.2.1 q.p3 λA=>(aB A.2)) (aB aa))) λx14=>(Z x14)) (jn (bg x.2.1 21 (aB ((decide ((x.2.1:Int)=21)),q.2)) (bg x.2.1 22 (aB ((decide ((x.2.1:Int)=22)),q.2)) (aB ((decide ((x.2.1:Int)=23)),q.2)))) λs=>(aF s.1 (av (jr (s.p3,(aY s.2.1.p2))) λy18=>(Z y18)) (jn (bg x.2.1 24 (aB ((decide ((x.2.1:Int)=24)),s.2)) (aB ((decide ((x.2.1:Int)=25)),s.2))) λd=>(aF d.1 (av (jr (d.p3,(aY d.2.1.p4))) λL=>(Z L)) (bg x.2.1 26 (av (jr (d.p3,(aY d.2.1.p3))) λI=>(Z I)) (bg x.2.1 27 (av (jr (d.p4,(aY d.2.1.p3))) λF=>(Z F)) (bg x.2.1 3 (jn (bg d.p6 4 (aB M) (aB (decide ((d.p6:Int)=5)))) λx23=>(Z x23)) (bg x.2.1 4 (jn (ji 6 d.p6 (aB (cO d.p6 18)) (aB aa)) λx24=>(Z x24)) (Z M)))))))))))))))))
def kW (x:fc×Int×Int×Y lh):J (Bool):=
 (jn (bA x.p2 0 (aB (M,x.1,x.2.2)) (bA 32 x.p2 (aB (M,x.1,x.2.2)) (aB ((decide (((aY x.q3):Int)=0)),x.1,x.2.2)))) λx1=>(aF x1.1 (Z aa) (iter (σ:=Int×fc×Int×Y lh) (λx2=>(bA x2.1 (aY x.q3) (bJ qB x2.q3 x2.1 λz=>(jn (bA z.1 1 (aB (M,x2.2.1,x2.2.2,z)) (bA 28 z.1 (aB (M,x2.2.1,x2.2.2,z)) (aF (((decide ((z.1:Int)=28))==(decide ((x2.1:Int)=(ba .i64 ((aY x.q3)-1))))) !=M) (aB (M,x2.2.1,x2.2.2,z)) (av (pZ (x2.2.1,z)) λy5=>(aF (!y5) (aB (M,x2.2.1,x2.2.2,z)) (av (tw (x2.q3,x2.1)) λy6=>(aB ((!y6),x2.2.1,x2.2.2,z)))))))) λd=>(aF d.1 (aB aa) (jn (α:=Bool×fc×(Int×Y lh)×Int×Int×Int×Int×Int×Int) (bg d.p3 28 (iT d.q8 (-1) (aB (M,d.2)) (iT d.p3 28 (av (jr (d.q8,(aY d.2.1.q5))) λy8=>(aF (!y8) (aB (M,d.2)) (bJ oF d.2.1.q5 d.q8 λz9=>(aB ((!decide ((z9.1:Int)=x.2.1)),d.2))))) (aB (aa,d.2)))) (iT d.p3 28 (av (jr (d.q8,(aY d.2.1.q5))) λy10=>(aF (!y10) (aB (M,d.2)) (bJ oF d.2.1.q5 d.q8 λI=>(aB ((!decide ((I.1:Int)=x.2.1)),d.2))))) (aB (aa,d.2)))) λs=>(aF s.1 (aB aa) (jn (bg s.p3 5 (av (jr (s.p4,(aY x.q3))) λy13=>(aF (!y13) (aB (M,s.2)) (bg s.p3 10 (av (jr (s.p5,(aY x.q3))) λy14=>(aB ((!y14),s.2))) (aB (aa,s.2))))) (bg s.p3 10 (av (jr (s.p5,(aY x.q3))) λy15=>(aB ((!y15),s.2))) (aB (aa,s.2)))) λA=>(aF A.1 (aB aa) (av (jI A.q3) λD=>(iter (σ:=Int×fc×Int×Y lh) (λq=>(bA q.1 (aY D) (bJ aL D q.1 λF=>(av (jr (F,q.p2)) λL=>(aF (!L) (aB (bZ aa)) (cM ((cw q.1),q.2))))) (aB (pM ((cw x2.1),q.2))))) (0,A.2.1,A.p2)))))))))) (aB M))) (0,x1.2))))
def pl (x:fc×Y (Int×Y lh)):J (Bool):=
 (jn (av (hX x.1) λz=>(aF (!z) (aB (M,x)) (aB ((!decide (((aY x.2):Int)=(aY x.1.p4))),x)))) λx1=>(aF x1.1 (Z aa) (iter (σ:=Int×fc×Y (Int×Y lh)) (λd=>(bA d.1 (aY d.2.2) (bJ v9 d.2.2 d.1 λq=>(av (kW (d.2.1,d.1,q)) λs=>(aF (!s) (aB aa) (cM ((cw d.1),d.2))))) (aB M))) (0,x1.2))))
def cE (x:lh×rO×Y lh):J (rO×Y lh):=
 (bt (be (ah x.2.2+ah ([(x.1.1,x.1.2.1,x.1.p2,x.1.p3,x.1.p4,x.2.1.p7)])) 48) (Z (x.2.1,(x.2.2++([(x.1.1,x.1.2.1,x.1.p2,x.1.p3,x.1.p4,x.2.1.p7)])))))
def qg (rr06_gen_value:((Xp×Int)×rO×Y lh)->J (rO×Y lh)) (x:(Xp×Int)×rO×Y lh):J (rO×Y lh):=
 (jn (α:=rO×Y lh) (bg (Xp.op x.1.1) 1 (av (cE ((1,x.1.2,0,0,(Xp.n x.1.1),0),x.2)) λy2=>(bt (ax (ah x.2.2) (ah x.2.2)&&M) (aB y2))) (bg (Xp.op x.1.1) 2 (av (jW (x.2.1.p6,(Xp.name x.1.1))) λy3=>(ji 0 y3 (av (cE ((2,x.1.2,y3,0,0,0),x.2)) λy4=>(bt (ax (ah x.2.2) (ah x.2.2)&&M) (aB y4))) (av (lq ((x.2.1.1,x.2.1.2.1,x.2.1.p2,x.2.1.p3,x.2.1.p4,x.2.1.p5),(Xp.name x.1.1))) λy5=>(av (cE ((6,x.1.2,y5,0,0,0),x.2)) λy6=>(bt (ax (ah x.2.2) (ah x.2.2)&&M) (aB y6)))))) (bg (Xp.op x.1.1) 3 (bJ (.ex) (Xp.l x.1.1) 0 λz7=>(av (rr06_gen_value ((z7,x.1.2),x.2)) λd=>(bt (ax (ah x.2.2) (ah x.2.2)&&M) (av (lq ((d.1.1,d.1.2.1,d.1.p2,d.1.p3,d.1.p4,d.1.p5),(Xp.name x.1.1))) λy9=>(bJ kJ d.1.1 y9 λI=>(av (cE ((7,x.1.2,y9,x.1.2,I.2.2.1,0),d)) λy11=>(bt (ax (ah d.2) (ah d.2)&&M) (aB y11)))))))) (bg (aT (ah (Xp.l x.1.1))) 1 (bJ (.ex) (Xp.l x.1.1) 0 λF=>(av (rr06_gen_value ((F,x.1.2),x.2)) λz=>(bt (ax (ah x.2.2) (ah x.2.2)&&M) (av (cE ((3,x.1.2,x.1.2,0,(Xp.op x.1.1),0),z)) λy14=>(bt (ax (ah z.2) (ah z.2)&&M) (aB y14)))))) (bJ (.ex) (Xp.l x.1.1) 0 λD=>(av (rr06_gen_value ((D,x.1.2),x.2)) λs=>(bt (ax (ah x.2.2) (ah x.2.2)&&M) (bJ (.ex) (Xp.l x.1.1) 1 λA=>(av (rr06_gen_value ((A,(cw x.1.2)),s)) λq=>(bt (ax (ah s.2) (ah s.2)&&M) (av (cE ((4,x.1.2,x.1.2,(cw x.1.2),(Xp.op x.1.1),0),q)) λL=>(bt (ax (ah q.2) (ah q.2)&&M) (aB L))))))))))))) λx1=>(Z x1))
def iJ:Nat->((Xp×Int)×rO×Y lh)->J (rO×Y lh)
 |0,_=>U
 |n+1,x=>qg (iJ n) x
theorem zR (n:Nat) (x:(Xp×Int)×rO×Y lh):iJ (n+1) x=qg (iJ n) x:=rfl
def iG (x:(Xp×Int)×rO×Y lh):J (rO×Y lh):=iJ fuel x
def l_ (x:Sx×rO×Y lh):J (rO×Y lh):=
 (bA 0 (aT (ah (Sx.index x.1))) (bJ (.ex) (Sx.index x.1) 0 λL=>(av (iG ((L,(aY x.2.1.p6)),x.2)) λs=>(bt (ax (ah x.2.2) (ah x.2.2)&&M) (av (iG ((d9 ((Xp.op (Sx.expr x.1)),(Xp.n (Sx.expr x.1)),(Xp.name (Sx.expr x.1)),(Xp.l (Sx.expr x.1))),(ba .i64 ((aY x.2.1.p6)+1))),s)) λq=>(bt (ax (ah s.2) (ah s.2)&&M) (av (lq ((q.1.1,q.1.2.1,q.1.p2,q.1.p3,q.1.p4,q.1.p5),(Sx.name x.1))) λF=>(bJ kJ q.1.1 F λI=>(av (cE ((9,F,(ba .i64 ((aY x.2.1.p6)+1)),(aY x.2.1.p6),I.2.2.1,0),q)) λy6=>(bt (ax (ah q.2) (ah q.2)&&M) (Z y6)))))))))) (av (iG ((d9 ((Xp.op (Sx.expr x.1)),(Xp.n (Sx.expr x.1)),(Xp.name (Sx.expr x.1)),(Xp.l (Sx.expr x.1))),(aY x.2.1.p6)),x.2)) λd=>(bt (ax (ah x.2.2) (ah x.2.2)&&M) (av (jW (d.1.p6,(Sx.name x.1))) λD=>(ji 0 D (av (cE ((2,D,(aY x.2.1.p6),0,0,0),d)) λy9=>(bt (ax (ah d.2) (ah d.2)&&M) (Z y9))) (av (lq ((d.1.1,d.1.2.1,d.1.p2,d.1.p3,d.1.p4,d.1.p5),(Sx.name x.1))) λA=>(av (cE ((8,A,(aY x.2.1.p6),0,0,0),d)) λz=>(bt (ax (ah d.2) (ah d.2)&&M) (Z z)))))))))
def jw (x:ζ×rO×Y lh):J (Int×rO×Y lh):=
 (iter (σ:=Int×rO×Y lh) (λx1=>(bA x1.1 (aY x1.2.1.p2) (bJ lZ x1.2.1.p2 x1.1 λd=>(aF (decide ((d.1:ζ)=x.1)) (aB x1) (cM ((cw x1.1),x1.2)))) (aB ((-1),x1.2)))) (0,x.2))
def qh (rr06_gen_stmts:ZX->J (rO×Y lh)) (rr06_gen_stmt:LB->J (rO×Y lh)) (rr06_gen_branches:LB->J (rO×Y lh)) (rr06_gen_around:ZY->J (rO×Y lh)) (x:(Y Sx)×rO×Y lh):J (rO×Y lh):=
 (iter (σ:=Int×rO×Y lh) (λx1=>(bA x1.1 (aY x.1) (bJ (.sm) x.1 x1.1 λd=>(av (rr06_gen_stmt (d,x1.2)) λq=>(bt (ax (ah x1.2.2) (ah x1.2.2)&&M) (cM ((cw x1.1),q))))) (aB x1.2))) (0,x.2))
def rF (rr06_gen_stmts:ZX->J (rO×Y lh)) (rr06_gen_stmt:LB->J (rO×Y lh)) (rr06_gen_branches:LB->J (rO×Y lh)) (rr06_gen_around:ZY->J (rO×Y lh)) (x:Sx×rO×Y lh):J (rO×Y lh):=
 (jn (α:=rO×Y lh) (bg (Sx.op x.1) 1 (av (l_ (dY x.1,(x.2.1.1,x.2.1.2.1,x.2.1.p2,x.2.1.p3,x.2.1.p4,x.2.1.p5,x.2.1.p6,x.2.1.q8,(cw x.2.1.q8)),x.2.2)) λy2=>(bt (ax (ah x.2.2) (ah x.2.2)&&M) (aB y2))) (jn (bg (Sx.op x.1) 2 (aB ((decide (((Sx.op x.1):Int)=2)),(x.2.1.1,x.2.1.2.1,x.2.1.p2,x.2.1.p3,x.2.1.p4,x.2.1.p5,x.2.1.p6,x.2.1.q8,(cw x.2.1.q8)),dY x.1,x.2.2)) (aB ((decide (((Sx.op x.1):Int)=3)),(x.2.1.1,x.2.1.2.1,x.2.1.p2,x.2.1.p3,x.2.1.p4,x.2.1.p5,x.2.1.p6,x.2.1.q8,(cw x.2.1.q8)),dY x.1,x.2.2))) λd=>(aF d.1 (av (rr06_gen_branches (dY d.p2,d.2.1,d.q3)) λy4=>(bt (ax (ah d.q3) (ah d.q3)&&M) (aB y4))) (bg (Sx.op x.1) 4 (av (lm (d.2.1.2.1,(Sx.name d.p2))) λy5=>(av (rr06_gen_around ((dY d.p2,11,12,y5),d.2.1,d.q3)) λy6=>(bt (ax (ah d.q3) (ah d.q3)&&M) (aB y6)))) (bg (Sx.op x.1) 5 (av (lm (d.2.1.2.1,(Sx.name d.p2))) λy7=>(av (rr06_gen_around ((dY d.p2,13,14,y7),d.2.1,d.q3)) λy8=>(bt (ax (ah d.q3) (ah d.q3)&&M) (aB y8)))) (bg (Sx.op x.1) 6 (av (lm (d.2.1.2.1,(Sx.name d.p2))) λy9=>(av (rr06_gen_around ((dY d.p2,15,16,y9),d.2.1,d.q3)) λy10=>(bt (ax (ah d.q3) (ah d.q3)&&M) (aB y10)))) (bg (Sx.op x.1) 7 (av (rr06_gen_around ((dY d.p2,17,18,0),d.2.1,d.q3)) λy11=>(bt (ax (ah d.q3) (ah d.q3)&&M) (aB y11))) (bg (Sx.op x.1) 8 (av (rr06_gen_around ((dY d.p2,19,20,0),d.2.1,d.q3)) λy12=>(bt (ax (ah d.q3) (ah d.q3)&&M) (aB y12))) (bg (Sx.op x.1) 9 (av (jw ((Sx.name d.p2),d.2.1,d.q3)) λz=>(bt (ax (ah d.q3) (ah z.2.2)&&M) (av (cE ((21,z.1,0,0,0,0),z.2)) λy14=>(bt (ax (ah z.2.2) (ah z.2.2)&&M) (aB y14))))) (bg (Sx.op x.1) 10 (av (jw ((Sx.name d.p2),d.2.1,d.q3)) λs=>(bt (ax (ah d.q3) (ah s.2.2)&&M) (av (cE ((22,s.1,0,0,0,0),s.2)) λy16=>(bt (ax (ah s.2.2) (ah s.2.2)&&M) (aB y16))))) (bg (Sx.op x.1) 11 (av (jw ((Sx.name d.p2),d.2.1,d.q3)) λq=>(bt (ax (ah d.q3) (ah q.2.2)&&M) (av (cE ((23,q.1,0,0,0,0),q.2)) λy18=>(bt (ax (ah q.2.2) (ah q.2.2)&&M) (aB y18))))) (bg (Sx.op x.1) 12 (av (jW (d.2.1.p4,(Sx.name d.p2))) λy19=>(av (cE ((24,y19,0,0,0,0),d.2.1,d.q3)) λy20=>(bt (ax (ah d.q3) (ah d.q3)&&M) (aB y20)))) (bg (Sx.op x.1) 13 (av (jW (d.2.1.p4,(Sx.name d.p2))) λy21=>(av (cE ((25,y21,0,0,0,0),d.2.1,d.q3)) λy22=>(bt (ax (ah d.q3) (ah d.q3)&&M) (aB y22)))) (bg (Sx.op x.1) 14 (av (iG ((d9 ((Xp.op (Sx.expr d.p2)),(Xp.n (Sx.expr d.p2)),(Xp.name (Sx.expr d.p2)),(Xp.l (Sx.expr d.p2))),(aY x.2.1.p6)),d.2.1,d.q3)) λA=>(bt (ax (ah d.q3) (ah d.q3)&&M) (av (jW (A.1.p3,(Sx.name d.p2))) λy24=>(av (cE ((26,y24,(aY x.2.1.p6),0,0,0),A)) λL=>(bt (ax (ah A.2) (ah A.2)&&M) (aB L)))))) (bg (Sx.op x.1) 15 (av (jW (d.2.1.p6,(Sx.name d.p2))) λI=>(av (jW (d.2.1.p3,(Sx.arg d.p2))) λF=>(av (cE ((27,I,F,0,0,0),d.2.1,d.q3)) λD=>(bt (ax (ah d.q3) (ah d.q3)&&M) (aB D))))) (aB (d.2.1,d.q3))))))))))))))))) λx1=>(Z x1))
def mE (rr06_gen_stmts:ZX->J (rO×Y lh)) (rr06_gen_stmt:LB->J (rO×Y lh)) (rr06_gen_branches:LB->J (rO×Y lh)) (rr06_gen_around:ZY->J (rO×Y lh)) (x:Sx×rO×Y lh):J (rO×Y lh):=
 (av (iG ((d9 ((Xp.op (Sx.expr x.1)),(Xp.n (Sx.expr x.1)),(Xp.name (Sx.expr x.1)),(Xp.l (Sx.expr x.1))),(aY x.2.1.p6)),x.2)) λq=>(bt (ax (ah x.2.2) (ah x.2.2)&&M) (av (cE ((10,(aY q.1.p6),0,0,0,0),q)) λD=>(bt (ax (ah q.2) (ah q.2)&&M) (av (rr06_gen_stmts ((Sx.body x.1),D)) λd=>(bt (ax (ah D.2) (ah D.2)&&M) (bg (Sx.op x.1) 3 (av (cE ((5,(aY x.2.2),0,0,0,0),(d.1.1,d.1.2.1,d.1.p2,d.1.p3,d.1.p4,d.1.p5,d.1.p6,x.2.1.p7,d.1.q8),d.2)) λz=>(bt (ax (ah d.2) (ah d.2)&&M) (ck (eZ (aY q.2) (ah z.2)) (Z (z.1,(ct z.2 (aY q.2) ((aH (T:=qB) z.2 (aY q.2)).1,((aH (T:=qB) z.2 (aY q.2)).2).1,(aY z.2),(((aH (T:=qB) z.2 (aY q.2)).2).2).2))))))) (bg (aT (ah (Sx.els x.1))) 0 (ck (eZ (aY q.2) (ah d.2)) (Z ((d.1.1,d.1.2.1,d.1.p2,d.1.p3,d.1.p4,d.1.p5,d.1.p6,x.2.1.p7,d.1.q8),(ct d.2 (aY q.2) ((aH (T:=qB) d.2 (aY q.2)).1,((aH (T:=qB) d.2 (aY q.2)).2).1,(aY d.2),(((aH (T:=qB) d.2 (aY q.2)).2).2).2))))) (av (cE ((5,0,0,0,0,0),(d.1.1,d.1.2.1,d.1.p2,d.1.p3,d.1.p4,d.1.p5,d.1.p6,x.2.1.p7,d.1.q8),d.2)) λs=>(bt (ax (ah d.2) (ah d.2)&&M) (ck (eZ (aY q.2) (ah s.2)) (av (rr06_gen_stmts ((Sx.els x.1),s.1,(ct s.2 (aY q.2) ((aH (T:=qB) s.2 (aY q.2)).1,((aH (T:=qB) s.2 (aY q.2)).2).1,(aY s.2),(((aH (T:=qB) s.2 (aY q.2)).2).2).2)))) λA=>(bt (ax (ah (ct s.2 (aY q.2) ((aH (T:=qB) s.2 (aY q.2)).1,((aH (T:=qB) s.2 (aY q.2)).2).1,(aY s.2),(((aH (T:=qB) s.2 (aY q.2)).2).2).2))) (ah (ct s.2 (aY q.2) ((aH (T:=qB) s.2 (aY q.2)).1,((aH (T:=qB) s.2 (aY q.2)).2).1,(aY s.2),(((aH (T:=qB) s.2 (aY q.2)).2).2).2)))&&M) (ck (eZ (aY d.2) (ah A.2)) (Z (A.1,(ct A.2 (aY d.2) ((aH (T:=qB) A.2 (aY d.2)).1,(aY A.2),((aH (T:=qB) A.2 (aY d.2)).2).2))))))))))))))))))
def oS (rr06_gen_stmts:ZX->J (rO×Y lh)) (rr06_gen_stmt:LB->J (rO×Y lh)) (rr06_gen_branches:LB->J (rO×Y lh)) (rr06_gen_around:ZY->J (rO×Y lh)) (x:(Sx×Int×Int×Int)×rO×Y lh):J (rO×Y lh):=
 (av (cE ((x.1.2.1,x.1.q3,0,0,0,0),x.2)) λq=>(bt (ax (ah x.2.2) (ah x.2.2)&&M) (av (rr06_gen_stmts ((Sx.body x.1.1),q)) λd=>(bt (ax (ah q.2) (ah q.2)&&M) (av (cE ((x.1.p2,x.1.q3,0,0,0,0),(d.1.1,d.1.2.1,d.1.p2,d.1.p3,d.1.p4,d.1.p5,d.1.p6,x.2.1.p7,d.1.q8),d.2)) λs=>(bt (ax (ah d.2) (ah d.2)&&M) (Z s)))))))
mutual
def dI:Nat->ZX->J (rO×Y lh)
 |0,_=>U
 |n+1,x=>qh (dI n) (eE n) (c6 n) (dE n) x
def eE:Nat->LB->J (rO×Y lh)
 |0,_=>U
 |n+1,x=>rF (dI n) (eE n) (c6 n) (dE n) x
def c6:Nat->LB->J (rO×Y lh)
 |0,_=>U
 |n+1,x=>mE (dI n) (eE n) (c6 n) (dE n) x
def dE:Nat->ZY->J (rO×Y lh)
 |0,_=>U
 |n+1,x=>oS (dI n) (eE n) (c6 n) (dE n) x
end
def tB (x:(Y Sx)×rO×Y lh):J (rO×Y lh):=dI fuel x
def p_ (x:v7×Y vZ):J (BA×Int×Int):=
 (av (km x) λI=>(iT I.1 0 (Z (((([]:Y Rw),([]:Y (ζ×Bool)),([]:Y jD),([]:Y ζ),([]:Y ζ),([]:Y ν)),([]:Y (Int×Y lh))),I)) (av (tC x) λy2=>(iter (σ:=(Γ)×(v7×Y vZ)×fc×Y (Int×Y lh)) (λq=>(bA q.1.2 (aY q.2.1.2) (bJ sv q.2.1.2 q.1.2 λz4=>(bJ sv q.2.1.2 q.1.2 λz5=>(av (tB (z5.2.2.2,(q.p2.1,q.p2.2.1,q.p2.p2,q.p2.p3,q.p2.p4,q.p2.q5,z4.2.2.1,0,q.1.1),([]:Y lh))) λz=>(bt (ax (ah ([]:Y lh)) (ah ([]:Y lh))&&M) (av (cE ((28,0,0,0,0,0),(z.1.1,z.1.2.1,z.1.p2,z.1.p3,z.1.p4,z.1.p5,z.1.p6,(-1),z.1.q8),z.2)) λF=>(bt (ax (ah z.2) (ah z.2)&&M) (iter (σ:=Int×(v7×Y vZ)×fc×rO×Int×(Y (Int×Y lh))×Y lh) (λs=>(bA s.1 (aY s.q6) (kM qB s.q6 s.1 λL=>(av (jI L) λA=>(iter (σ:=Int×(v7×Y vZ)×fc×rO×Int×(Y (Int×Y lh))×Y lh) (λd=>(bA d.1 (aY A) (bJ aL A d.1 λD=>(cM ((cw d.1),d.2.1,d.p2,d.p3,(gJ d.p4 (cw D)),d.q5))) (aB (pM ((cw s.1),d.2))))) (0,s.2)))) (av (bt (be (ah s.p5+ah ([(s.p4,s.q6)])) 32) (cM ((z.1.q8,(cw q.1.2)),s.2.1,s.p2,(s.p5++([(s.p4,s.q6)]))))) λr=>Z (bZ r)))) (0,q.2.1,q.p2,F.1,(aY F.1.p6),q.q3,F.2)))))))) (aB (q.2.2,0,0)))) ((0,0),x,y2,([]:Y (Int×Y lh)))))))
def oq (x:η×Int):J (Bool):=
 (iter (σ:=Int) (λx1=>(bA x1 (aY x.1) (bJ aL x.1 x1 λd=>(bg d x.2 (aB M) (cM (cw x1)))) (aB aa))) 0)
def vy (x:η×Int):J η:=
 (iter (σ:=Int) (λx1=>(jn (bA x1 (aY x.1) (bJ aL x.1 x1 λq=>(aB (fE q x.2))) (aB aa)) λx2=>(aF x2 (cM (cw x1)) (av (jn (bA x1 (aY x.1) (bJ aL x.1 x1 λd=>(aB (decide ((d:Int)=x.2)))) (aB aa)) λs=>(aF s (Z x.1) (bt (cO 0 x1&&cO x1 (ah x.1)) (bt (be (ah ([]:η)+ah (dj (aO x1) x.1)) 8) (bt (be (ah (([]:η)++(dj (aO x1) x.1))+ah ([x.2])) 8) (bt (cO 0 x1&&cO x1 (ah x.1)) (bt (be (ah ((([]:η)++(dj (aO x1) x.1))++([x.2]))+ah (List.drop (aO x1) x.1)) 8) (Z (((([]:η)++(dj (aO x1) x.1))++([x.2]))++(List.drop (aO x1) x.1)))))))))) λr=>Z (bZ r))))) 0)
def qQ (x:η×η):J η:=
 (iter (σ:=(η)×Int) (λx1=>(bA x1.2 (aY x.1) (bJ aL x.1 x1.2 λs=>(av (vy (x1.1,s)) λA=>(cM (A,(cw x1.2))))) (av (iter (σ:=(η)×Int) (λd=>(bA d.2 (aY x.2) (bJ aL x.2 d.2 λq=>(av (vy (d.1,q)) λz=>(cM (z,(cw d.2))))) (aB d.1))) (x1.1,0)) λr=>Z (bZ r)))) (([]:η),0))
def ml (x:Int):J (Int):=
 (jn (bA x 1 (aB M) (aB (fE 100 x))) λx1=>(aF x1 (Z 0) (Z x)))
def ci (x:Int×(η)×(Y η)×Int):J (Γ×(η)×Y η):=
 (bt (be (ah ([]:η)+ah x.2.1) 8) (iter (σ:=Int×uW×(Γ)×(Γ)×(η)×Y η) (λx1=>(bA x1.1 (aY x1.2.1.p2) (bJ (.sl aL) x1.2.1.p2 x1.1 λd=>(bt (be (ah ([]:η)+ah d) 8) (bt (be (ah x1.q5+ah ([(([]:η)++d)])) 24) (cM ((cw x1.1),x1.2.1,x1.p2,x1.p3,x1.p4,(x1.q5++([(([]:η)++d)]))))))) (aB x1.q3))) (0,x,(0,0),(x.1,x.q3),(([]:η)++x.2.1),([]:Y η))))
def vx (x:(lh×Int×Int)×(η)×Y η):J ((Γ×Bool)×(η)×Y η):=
 (av (jI x.1.1) λy1=>(iter (σ:=Int×(η)×(Y η)×lh×(Γ)×Int×Int) (λx2=>(bA x2.1 (aY y1) (jn (bJ aL y1 x2.1 λz4=>(bA z4 0 (aB (M,x2.2)) (bJ aL y1 x2.1 λz5=>(aB ((cO (aY x2.2.1) z5),x2.2))))) λx3=>(aF x3.1 U (cM ((cw x2.1),x3.2)))) (av (jn (α:=(Int×Bool×η)×(η)×(Y η)×lh×(Γ)×Int×Int) (bg x2.p3.1 5 (cM (((x2.p3.2.1,x2.p4.2),M),x2.2.1,x2.p2)) (bg x2.p3.1 1 (aB ((x2.p3.p4,M,([]:η)),x2.2)) (bg x2.p3.1 2 (kM aL x2.2.1 x2.p3.p2 λz7=>(kM (.sl aL) x2.p2 x2.p3.p2 λz8=>(aB ((z7,M,z8),x2.2)))) (bg x2.p3.1 3 (av (ml x2.p3.p4) λy9=>(kM aL x2.2.1 x2.p3.p2 λL=>(av (tD (y9,L)) λs=>(kM (.sl aL) x2.p2 x2.p3.p2 λI=>(aB ((s.1,s.2,I),x2.2)))))) (av (ml x2.p3.p4) λy13=>(kM aL x2.2.1 x2.p3.p2 λF=>(kM aL x2.2.1 x2.p3.p3 λD=>(av (rS (y13,F,D)) λq=>(kM (.sl aL) x2.p2 x2.p3.p2 λA=>(kM (.sl aL) x2.p2 x2.p3.p3 λz=>(av (qQ (A,z)) λy19=>(aB ((q.1,q.2,y19),x2.2))))))))))))) λd=>(bt (be (ah ([]:η)+ah d.1.2.2) 8) (ck (eZ d.p3.2.1 (ah d.2.1)) (ck (eZ d.p3.2.1 (ah d.p2)) (Z ((((cw d.p4.1),d.p4.2),d.1.2.1),(ct d.2.1 d.p3.2.1 d.1.1),(ct d.p2 d.p3.2.1 (([]:η)++d.1.2.2)))))))) λr=>Z (bZ r)))) (0,x.2.1,x.2.2,x.1.1,x.1.2,0,0)))
def nk (x:(Int×Y lh)×Int×(η)×(Y η)×Int):J (uW×Bool):=
 (jn (α:=Bool×(Int×Y lh)×uW×Int×Int) (iT (aY x.p2) x.1.1 (aB (M,x.1,x.2,0,0)) (aB ((!decide (((aY x.p3):Int)=x.1.1)),x.1,x.2,0,0))) λx1=>(aF x1.1 (Z ((0,([]:η),([]:Y η),0),aa)) (av (ci x1.p2) λA=>(iter (σ:=Int×(Int×Y lh)×(Γ)×(Γ)×(η)×Y η) (λq=>(ji q.1 (aY q.2.1.2) (jn (bA q.p2.1 0 (aB (M,q.2)) (aB ((cO (aY q.2.1.2) q.p2.1),q.2))) λd=>(aF d.1 (aB ((0,([]:η),([]:Y η),0),aa)) (bJ qB d.2.1.2 d.p2.1 λz=>(av (pA z.1) λD=>(aF (!D) (aB ((d.p2.1,d.p4,d.q5,d.p2.2),M)) (bg q.1 (aY d.2.1.2) (aB ((0,([]:η),([]:Y η),0),aa)) (av (vx ((z,d.p2),d.q4)) λs=>(bt (ax (ah d.q5) (ah s.2.2)&&(ax (ah d.p4) (ah s.2.1)&&M)) (aF (!s.1.2) (aB ((0,([]:η),([]:Y η),0),aa)) (cM ((cw q.1),d.2.1,s.1.1,d.p3,s.2))))))))))) (aB ((0,([]:η),([]:Y η),0),aa)))) (0,x1.2.1,A.1,x1.q3,A.2)))))
def ph (x:ny×my×(Y jD)×di×di×Y ν):J pJ:=
 (iter (σ:=Int×fc×Int×Int×Y (Int×η)) (λx1=>(bA x1.1 (aY x1.2.1.2.1) (bt (be (ah x1.q4+ah ([((-1),([]:η))])) 32) (cM ((cw x1.1),x1.2.1,x1.p2,x1.p3,(x1.q4++([((-1),([]:η))]))))) (av (iter (σ:=Int×fc×Int×Int×iK×θ) (λx2=>(bA x2.1 (aY x2.2.1.p3) (bt (be (ah x2.q5+ah ([aa])) 1) (cM ((cw x2.1),x2.2.1,x2.p2,x2.p3,x2.p4,(x2.q5++([aa]))))) (av (iter (σ:=Int×fc×Int×Int×iK×(θ)×Y dJ) (λd=>(bA d.1 (aY d.2.1.p4) (jn (α:=fc×Int×Int×dJ×iK×(θ)×Y dJ) (bg d.1 0 (aB (d.2.1,d.p2,d.p3,(1,0,aa),d.q4)) (aB (d.2.1,d.p2,d.p3,(0,0,aa),d.q4))) λq=>(bt (be (ah q.q6+ah ([q.p3])) 24) (cM ((cw d.1),q.1,q.2.1,q.p2,q.p4,q.p5,(q.q6++([q.p3])))))) (aB (d.p4,d.p3,d.q5)))) (0,x2.2.1,x2.p2,x2.p3,x2.p4,x2.q5,([]:Y dJ))) λr=>Z (bZ r)))) (0,x1.2.1,x1.p2,x1.p3,x1.q4,([]:θ))) λr=>Z (bZ r)))) (0,x,0,(-1),([]:Y (Int×η))))
def nG (x:fc×iK×Int×(θ)×Y dJ):J (Bool):=
 (iter (σ:=Int×fc×iK×Int×(θ)×Y dJ) (λx1=>(bA x1.1 (aY x1.2.1.p2) (jn (bJ lZ x1.2.1.p2 x1.1 λq=>(bA q.2 0 (aB (M,x1.2)) (bJ lZ x1.2.1.p2 x1.1 λd=>(aB ((cO (aY x1.2.1.2.1) d.2),x1.2))))) λx2=>(aF x2.1 (aB aa) (cM ((cw x1.1),x2.2)))) (av (jn (bg (aY x1.p2) (aY x1.2.1.2.1) (bg (aY x1.p4) (aY x1.2.1.p3) (aB (decide (((aY x1.q5):Int)=(aY x1.2.1.p4)))) (aB aa)) (aB aa)) λs=>(Z s)) λr=>Z (bZ r)))) (0,x))
def pY (x:Γ):J (Bool):=
 (jn (ji 0 x.1 (aB (fE x.1 x.2)) (aB aa)) λx1=>(Z x1))
def pg (x:fc×Int×Int):J (Bool):=
 (jn (bg x.2.1 1 (aB ((decide ((x.2.1:Int)=1)),x.1)) (bg x.2.1 2 (aB ((decide ((x.2.1:Int)=2)),x.1)) (bg x.2.1 5 (aB ((decide ((x.2.1:Int)=5)),x.1)) (bg x.2.1 12 (aB ((decide ((x.2.1:Int)=12)),x.1)) (bg x.2.1 13 (aB ((decide ((x.2.1:Int)=13)),x.1)) (bg x.2.1 14 (aB ((decide ((x.2.1:Int)=14)),x.1)) (aB ((decide ((x.2.1:Int)=15)),x.1)))))))) λx1=>(aF x1.1 (Z (decide ((x.2.2:Int)=(-1)))) (jn (bg x.2.1 3 (aB ((decide ((x.2.1:Int)=3)),x1.2)) (aB ((decide ((x.2.1:Int)=4)),x1.2))) λx2=>(aF x2.1 (av (pY (x.2.2,(aY x2.2.1))) λy3=>(Z y3)) (jn (bg x.2.1 6 (aB ((decide ((x.2.1:Int)=6)),x2.2)) (aB ((decide ((x.2.1:Int)=7)),x2.2))) λz=>(aF z.1 (jn (av (pY (x.2.2,(aY z.p2))) λy6=>(aF y6 (bJ qE z.p2 x.2.2 λz7=>(aB (!z7.2))) (aB aa))) λx5=>(Z x5)) (jn (bg x.2.1 8 (aB ((decide ((x.2.1:Int)=8)),z.2)) (bg x.2.1 9 (aB ((decide ((x.2.1:Int)=9)),z.2)) (bg x.2.1 10 (aB ((decide ((x.2.1:Int)=10)),z.2)) (aB ((decide ((x.2.1:Int)=11)),z.2))))) λs=>(aF s.1 (jn (av (pY (x.2.2,(aY s.p2))) λy10=>(aF y10 (bJ qE s.p2 x.2.2 λD=>(aB D.2)) (aB aa))) λx9=>(Z x9)) (jn (bg x.2.1 16 (aB ((decide ((x.2.1:Int)=16)),s.2)) (bg x.2.1 17 (aB ((decide ((x.2.1:Int)=17)),s.2)) (bg x.2.1 18 (aB ((decide ((x.2.1:Int)=18)),s.2)) (aB ((decide ((x.2.1:Int)=19)),s.2))))) λq=>(aF q.1 (av (pY (x.2.2,(aY q.p3))) λL=>(Z L)) (jn (bg x.2.1 20 (aB ((decide ((x.2.1:Int)=20)),q.2)) (aB ((decide ((x.2.1:Int)=21)),q.2))) λd=>(aF d.1 (av (pY (x.2.2,(aY d.p5))) λI=>(Z I)) (jn (bg x.2.1 22 (aB ((decide ((x.2.1:Int)=22)),d.2)) (aB ((decide ((x.2.1:Int)=23)),d.2))) λA=>(aF A.1 (av (pY (x.2.2,(aY A.p4))) λF=>(Z F)) (Z aa)))))))))))))))
def iA (x:fc×pJ×Int×Int×Int):J (Bool):=
 (jn (av (nG (x.1,x.2.1)) λy2=>(aF (!y2) (aB (M,x.1,x.2.1)) (av (pY (x.p2,(aY x.1.p4))) λy3=>(aF (!y3) (aB (M,x.1,x.2.1)) (av (pg (x.1,x.q3)) λy4=>(aB ((!y4),x.1,x.2.1))))))) λx1=>(aF x1.1 (Z aa) (bJ gH x1.q5 x.p2 λs=>(bg x.p3 1 (Z (decide ((s.1:Int)=1))) (bg x.p3 17 (jn (α:=Bool) (bg s.1 4 (bg s.2.1 x.q4 (bJ lZ x1.2.1.p2 x.q4 λz7=>(bJ dt x1.p2 z7.2 λz8=>(aB (decide ((z8.1:Int)=(-1)))))) (aB aa)) (aB aa)) λx6=>(Z x6)) (iT s.1 2 (Z aa) (bg x.p3 6 (bJ dt x1.p2 x.q4 λz9=>(Z (decide ((z9.1:Int)=(-1))))) (bg x.p3 10 (jn (α:=Bool) (bJ dt x1.p2 x.q4 λz11=>(bg z11.1 (-1) (bJ dt x1.p2 x.q4 λz12=>(aB (decide (((aY z12.2):Int)=0)))) (aB aa))) λx10=>(Z x10)) (bg x.p3 8 (jn (α:=Bool) (bJ dt x1.p2 x.q4 λz14=>(bg z14.1 (-1) (bJ dt x1.p2 x.q4 λz15=>(av (oq (z15.2,x.p2)) λy16=>(aB (!y16)))) (aB aa))) λx13=>(Z x13)) (jn (bg x.p3 7 (aB ((decide ((x.p3:Int)=7)),x1.2.1,x1.2.2,s)) (aB ((decide ((x.p3:Int)=11)),x1.2.1,x1.2.2,s))) λd=>(aF d.1 (bJ dt d.p2.1 x.q4 λz18=>(Z (decide ((z18.1:Int)=x.p2)))) (bg x.p3 9 (bJ dt d.p2.1 x.q4 λz19=>(av (oq (z19.2,x.p2)) λy20=>(Z y20))) (bg x.p3 12 (Z (decide ((d.p2.2.1:Int)=(-1)))) (bg x.p3 13 (Z (decide ((d.p2.2.1:Int)=x.p2))) (bg x.p3 14 (Z (!d.q5)) (bg x.p3 15 (Z d.q5) (jn (bg x.p3 16 (aB ((decide ((x.p3:Int)=16)),d.2.1,d.p2)) (bg x.p3 18 (aB ((decide ((x.p3:Int)=18)),d.2.1,d.p2)) (aB ((decide ((x.p3:Int)=19)),d.2.1,d.p2)))) λq=>(aF q.1 (bJ lZ q.2.1.p2 x.q4 λL=>(bJ dt q.p2 L.2 λI=>(Z (decide ((I.1:Int)=x.p2))))) (bg x.p3 20 (jn (iT x.q4 x.p2 (bJ gH q.q5 x.q4 λF=>(aB (decide ((F.1:Int)=0)))) (aB aa)) λx24=>(Z x24)) (bg x.p3 21 (jn (iT x.q4 x.p2 (bJ gH q.q5 x.q4 λD=>(aB (decide ((D.1:Int)=5)))) (aB aa)) λx26=>(Z x26)) (bg x.p3 22 (bJ (.bool) q.p4 x.q4 λA=>(Z (!A))) (bg x.p3 23 (bJ (.bool) q.p4 x.q4 λz=>(Z z)) (Z M)))))))))))))))))))))))
def nF (x:pJ×Int):J η:=
 (iter (σ:=Int×pJ×η) (λx1=>(bA x1.1 (aY x1.2.1.q3) (jn (α:=pJ×η) (jn (bJ gH x1.2.1.q3 x1.1 λs=>(bg s.1 3 (bJ gH x1.2.1.q3 x1.1 λq=>(aB ((decide ((q.2.1:Int)=x.2)),x1.2))) (aB (aa,x1.2)))) λd=>(aF d.1 (bt (be (ah d.2.2+ah ([x1.1])) 8) (aB (d.2.1,(d.2.2++([x1.1]))))) (aB d.2))) λx2=>(cM ((cw x1.1),x2))) (aB x1.2.2))) (0,x.1,([]:η)))
def pX (x:η×Int):J η:=
 (iter (σ:=Int×η) (λx1=>(bA x1.1 (aY x.1) (jn (α:=η) (bJ aL x.1 x1.1 λq=>(iT q x.2 (bJ aL x.1 x1.1 λd=>(bt (be (ah x1.2+ah ([d])) 8) (aB (x1.2++([d]))))) (aB x1.2))) λx2=>(cM ((cw x1.1),x2))) (aB x1.2))) (0,([]:η)))
def io (x:iK×Int×(θ)×Y dJ):J (Int×iK×(θ)×Y dJ):=
 (bt (be (ah ([]:θ)+ah x.p2) 1) (bt (be (ah ([]:Y dJ)+ah x.q3) 24) (iter (σ:=Int×pJ×Int×Int×iK×(θ)×Y dJ) (λx1=>(bA x1.1 (aY x1.2.1.1) (bJ dt x1.2.1.1 x1.1 λq=>(bJ dt x1.2.1.1 x1.1 λd=>(bt (be (ah ([]:η)+ah d.2) 8) (bt (be (ah x1.p4+ah ([(q.1,(([]:η)++d.2))])) 32) (cM ((cw x1.1),x1.2.1,x1.p2,x1.p3,(x1.p4++([(q.1,(([]:η)++d.2))])),x1.q5)))))) (aB x1.q3))) (0,x,0,x.2.1,([]:Y (Int×η)),(([]:θ)++x.p2),(([]:Y dJ)++x.q3)))))
def mj (x:Γ×iK×(θ)×Y dJ):J (η×iK×(θ)×Y dJ):=
 (iter (σ:=Int×iK×(θ)×(Y dJ)×Int×η) (λx1=>(bA x1.1 (aY x1.p3) (jn (α:=iK×(θ)×(Y dJ)×Int×η) (jn (kM gH x1.p3 x1.1 λs=>(bg s.1 3 (kM gH x1.p3 x1.1 λq=>(aB ((decide ((q.2.1:Int)=x.1.2)),x1.2))) (aB (aa,x1.2)))) λd=>(aF d.1 (bt (be (ah d.q5+ah ([x1.1])) 8) (aB (d.2.1,d.p2,d.p3,d.p4,(d.q5++([x1.1]))))) (aB d.2))) λx2=>(cM ((cw x1.1),x2))) (aB (x1.q5,x1.2.1,x1.p2,x1.p3)))) (0,x.2.1,x.p2,x.q3,x.1.1,([]:η)))
def jH (x:Γ×iK×(θ)×Y dJ):J η:=av (mj x) λy=>same y.2 x.2 (Z y.1)
def pi (x:fc×pJ×Int×Int×Int×Int):J (pJ×Int×Bool):=
 (av (iA (x.1,x.2.1,x.p2,x.p3,x.p4)) λy1=>(aF (!y1) (Z ((([]:Y (Int×η)),0,([]:θ),([]:Y dJ)),0,aa)) (av (io x.2.1) λz=>(jn (α:=Int×Int×Int×iK×(θ)×Y dJ) (bg x.p3 1 (ck (eZ x.p2 (ah z.q3)) (aB (0,z.1,0,z.2.1,z.p2,(ct z.q3 x.p2 (2,(aH (T:=gH) z.q3 x.p2).2))))) (bg x.p3 2 (ck (eZ x.p2 (ah z.q3)) (aB (0,z.1,0,z.2.1,z.p2,(ct z.q3 x.p2 (5,(aH (T:=gH) z.q3 x.p2).2))))) (jn (α:=Bool×fc×Int×Int×iK×(θ)×Y dJ) (bg x.p3 6 (aB ((decide ((x.p3:Int)=6)),x.1,z.1,0,z.2)) (aB ((decide ((x.p3:Int)=10)),x.1,z.1,0,z.2))) λA=>(aF A.1 (ck (eZ x.p4 (ah A.p4)) (aB (0,A.p2,A.p3,(ct A.p4 x.p4 (x.p2,(aH (T:=dt) A.p4 x.p4).2)),A.q5))) (jn (bg x.p3 7 (aB ((decide ((x.p3:Int)=7)),A.2)) (aB ((decide ((x.p3:Int)=11)),A.2))) λd=>(aF d.1 (ck (eZ x.p4 (ah d.p4)) (aB (0,d.p2,d.p3,(ct d.p4 x.p4 ((-1),(aH (T:=dt) d.p4 x.p4).2)),d.q5))) (bg x.p3 8 (kM dt d.p4 x.p4 λz6=>(av (qQ (z6.2,[x.p2])) λy7=>(ck (eZ x.p4 (ah d.p4)) (aB (0,d.p2,d.p3,(ct d.p4 x.p4 ((aH (T:=dt) d.p4 x.p4).1,y7)),d.q5))))) (bg x.p3 9 (kM dt d.p4 x.p4 λz8=>(av (pX (z8.2,x.p2)) λy9=>(ck (eZ x.p4 (ah d.p4)) (aB (0,d.p2,d.p3,(ct d.p4 x.p4 ((aH (T:=dt) d.p4 x.p4).1,y9)),d.q5))))) (bg x.p3 12 (aB (0,x.p2,d.q3)) (bg x.p3 13 (aB (0,(-1),d.q3)) (bg x.p3 14 (ck (eZ x.p2 (ah d.q6)) (aB (0,d.p2,d.p3,d.p4,d.p5,(ct d.q6 x.p2 ((aH (T:=gH) d.q6 x.p2).1,((aH (T:=gH) d.q6 x.p2).2).1,M))))) (bg x.p3 15 (ck (eZ x.p2 (ah d.q6)) (aB (0,d.p2,d.p3,d.p4,d.p5,(ct d.q6 x.p2 ((aH (T:=gH) d.q6 x.p2).1,((aH (T:=gH) d.q6 x.p2).2).1,aa))))) (bg x.p3 16 (bJ lZ d.2.1.p2 x.p4 λI=>(ck (eZ I.2 (ah d.p4)) (ck (eZ x.p2 (ah d.q6)) (ck (eZ x.p2 (ah (ct d.q6 x.p2 (3,(aH (T:=gH) d.q6 x.p2).2)))) (aB (0,d.p2,d.p3,(ct d.p4 I.2 ((-1),(aH (T:=dt) d.p4 I.2).2)),d.p5,(ct (ct d.q6 x.p2 (3,(aH (T:=gH) d.q6 x.p2).2)) x.p2 ((aH (T:=gH) (ct d.q6 x.p2 (3,(aH (T:=gH) d.q6 x.p2).2)) x.p2).1,x.p4,((aH (T:=gH) (ct d.q6 x.p2 (3,(aH (T:=gH) d.q6 x.p2).2)) x.p2).2).2)))))))) (bg x.p3 17 (bJ lZ d.2.1.p2 x.p4 λF=>(ck (eZ F.2 (ah d.p4)) (ck (eZ x.p2 (ah d.q6)) (ck (eZ x.p2 (ah (ct d.q6 x.p2 (2,(aH (T:=gH) d.q6 x.p2).2)))) (aB (0,d.p2,d.p3,(ct d.p4 F.2 (x.p2,(aH (T:=dt) d.p4 F.2).2)),d.p5,(ct (ct d.q6 x.p2 (2,(aH (T:=gH) d.q6 x.p2).2)) x.p2 ((aH (T:=gH) (ct d.q6 x.p2 (2,(aH (T:=gH) d.q6 x.p2).2)) x.p2).1,0,((aH (T:=gH) (ct d.q6 x.p2 (2,(aH (T:=gH) d.q6 x.p2).2)) x.p2).2).2)))))))) (bg x.p3 18 (av (jH ((d.p2,x.p4),d.q4)) λy12=>(bA 0 (aY y12) (bJ aL y12 0 λz13=>(jn (av (oq (y12,x.q5)) λy15=>(aF y15 (aB (x.q5,d.2.2)) (aB (z13,d.2.2)))) λs=>(ck (eZ s.1 (ah s.q5)) (aB (s.1,s.2.1,s.p2,s.p3,s.p4,(ct s.q5 s.1 (4,(aH (T:=gH) s.q5 s.1).2))))))) (aB ((-1),d.2.2)))) (bg x.p3 19 (av (jH ((d.p2,x.p4),d.q4)) λL=>(iter (σ:=Int×Int×Int×iK×(θ)×Y dJ) (λq=>(bA q.1 (aY L) (bJ aL L q.1 λD=>(ck (eZ D (ah q.q5)) (cM ((cw q.1),q.2.1,q.p2,q.p3,q.p4,(ct q.q5 D (4,(aH (T:=gH) q.q5 D).2)))))) (aB (bZ ((aY L),q.2))))) (0,d.2.2))) (bg x.p3 20 (ck (eZ x.p4 (ah d.q6)) (aB (0,d.p2,d.p3,d.p4,d.p5,(ct d.q6 x.p4 (1,(aH (T:=gH) d.q6 x.p4).2))))) (bg x.p3 22 (ck (eZ x.p4 (ah d.p5)) (aB (0,d.p2,d.p3,d.p4,(ct d.p5 x.p4 M),d.q6))) (aB (0,d.2.2)))))))))))))))))))) λx3=>(Z ((x3.p3,x3.2.1,x3.q4),x3.1,M))))))
def tu (x:fc×Y (Int×Y lh)):J w_:=
 (av (pl x) λI=>(aF (!I) (Z ((([]:Y (Int×η)),0,([]:θ),([]:Y dJ)),([]:η),([]:η),([]:Y uW))) (av (ph x.1) λF=>(iter (σ:=Int×BA×Int×pJ×η) (λs=>(bA s.1 (aY s.2.1.1.1) (bJ kJ s.2.1.1.1 s.1 λD=>(bt (be (ah s.q4+ah ([D.2.2.2.2])) 8) (cM ((cw s.1),s.2.1,s.p2,s.p3,(s.q4++([D.2.2.2.2])))))) (av (iter (σ:=Int×BA×Int×pJ×(η)×η) (λq=>(bA q.1 (aY q.2.1.1.p3) (bt (be (ah q.q5+ah ([0])) 8) (cM ((cw q.1),q.2.1,q.p2,q.p3,q.p4,(q.q5++([0]))))) (av (iter (σ:=Int×BA×Int×pJ×(η)×(η)×Y uW) (λd=>(bA d.1 (aY d.2.1.2) (mq d.1 d.2.1.2 (lt ((aH (T:=v9) d.2.1.2 d.1).1) λA=>(bt (cO 0 A&&cO A A&&be (aO A) 8) (mq d.1 d.2.1.2 (lt ((aH (T:=v9) d.2.1.2 d.1).1) λz=>(bt (cO 0 z&&cO z z&&be (aO z) 24) (bt (be (ah d.q6+ah ([(0,(aA (aO A) (0:Int)),(aA (aO z) ([]:η)),0)])) 64) (cM ((cw d.1),d.2.1,d.p2,d.p3,d.p4,d.p5,(d.q6++([(0,(aA (aO A) (0:Int)),(aA (aO z) ([]:η)),0)]))))))))))) (aB d.q3))) (0,q.2.1,q.p2,q.p3,q.p4,q.q5,([]:Y uW))) λr=>Z (bZ r)))) (0,s.2.1,s.p2,s.p3,s.q4,([]:η))) λr=>Z (bZ r)))) (0,x,0,F,([]:η))))))
def vu (x:BA×pJ×(η)×(η)×Y uW):J (Bool):=
 (jn (av (pl x.1) λI=>(aF (!I) (aB (M,x)) (av (nG (x.1.1,x.2.1)) λF=>(aF (!F) (aB (M,x)) (iT (aY x.p2) (aY x.1.1.1) (aB (M,x)) (iT (aY x.p3) (aY x.1.1.p3) (aB (M,x)) (aB ((!decide (((aY x.q4):Int)=(aY x.1.2))),x)))))))) λx1=>(aF x1.1 (Z aa) (iter (σ:=Int×BA×pJ×(η)×(η)×Y uW) (λd=>(bA d.1 (aY d.2.1.2) (bJ eI d.q5 d.1 λq=>(jn (bA q.1 0 (aB (M,d.2)) (bJ v9 d.2.1.2 d.1 λD=>(ji (aY D.2) q.1 (aB (M,d.2)) (bJ v9 d.2.1.2 d.1 λA=>(iT (aY q.2.1) A.1 (aB (M,d.2)) (bJ v9 d.2.1.2 d.1 λz=>(aB ((!decide (((aY q.p2):Int)=z.1)),d.2)))))))) λs=>(aF s.1 (aB aa) (cM ((cw d.1),s.2))))) (aB M))) (0,x1.2))))
def vq (x:Int):J (Int):=
 (jn (α:=Bool×η) (bA x 6 (aB (M,[3,3,4,4,5,6,7,8,9,10,11,12,13,14,15,16,18,19,20,21,22,23,2])) (aB ((fE 28 x),[3,3,4,4,5,6,7,8,9,10,11,12,13,14,15,16,18,19,20,21,22,23,2]))) λx1=>(aF x1.1 (Z 0) (kM aL x1.2 (ba .i64 (x-6)) λd=>(Z d))))
def rR (x:lh×Int×(η)×(Y η)×Int):J (Int):=
 (jn (bg x.1.1 6 (aB ((decide ((x.1.1:Int)=6)),x)) (aB ((decide ((x.1.1:Int)=27)),x))) λx1=>(aF x1.1 (Z x1.2.1.p2) (bg x.1.1 7 (bJ aL x1.p3 x1.2.1.p3 λs=>(av (qS (s,x1.2.1.p4)) λA=>(Z (ba .i64 (x1.2.1.p2+A))))) (bg x.1.1 9 (bJ aL x1.p3 x1.2.1.p3 λq=>(av (qS (q,x1.2.1.p4)) λz=>(Z (ba .i64 (x1.2.1.2.1+z))))) (jn (bg x.1.1 10 (aB ((decide ((x.1.1:Int)=10)),x1.2.1)) (bg x.1.1 17 (aB ((decide ((x.1.1:Int)=17)),x1.2.1)) (bg x.1.1 18 (aB ((decide ((x.1.1:Int)=18)),x1.2.1)) (bg x.1.1 19 (aB ((decide ((x.1.1:Int)=19)),x1.2.1)) (bg x.1.1 20 (aB ((decide ((x.1.1:Int)=20)),x1.2.1)) (aB ((decide ((x.1.1:Int)=28)),x1.2.1))))))) λd=>(aF d.1 (Z (-1)) (Z d.p2)))))))
def nE (x:BA×w_×Int):J (jY×Bool):=
 (jn (α:=Bool×BA×w_×Int×Int×Int×Int×Int) (av (vu (x.1,x.2.1)) λy2=>(aF (!y2) (aB (M,x.1,x.2.1,0,0,0,0,0)) (bA x.2.2 0 (aB (M,x.1,x.2.1,0,0,0,0,0)) (aB ((cO (aY x.1.2) x.2.2),x.1,x.2.1,0,0,0,0,0))))) λx1=>(aF x1.1 (Z ((0,0,0,0,0,([]:η),([]:η)),aa)) (bJ eI x1.p2.q3 x.2.2 λD=>(bJ v9 x1.2.1.2 x.2.2 λz4=>(bJ qB z4.2 D.1 λs=>(bJ gH x1.p2.1.q3 x.2.2 λz6=>(bg z6.1 1 (Z ((x.2.2,1,(-1),0,(-1),([]:η),([]:η)),M)) (bg z6.1 4 (bJ gH x1.p2.1.q3 x.2.2 λz7=>(Z ((x.2.2,17,z7.2.1,0,s.q5,([]:η),([]:η)),M))) (bg z6.1 2 (av (vq s.1) λy8=>(av (rR (s,D)) λy9=>(bg y8 0 (Z ((0,0,0,0,0,([]:η),([]:η)),aa)) (jn (α:=C'×uW×lh×C'×η) (bg s.1 10 (bJ (.sl aL) D.p2 s.2.1 λL=>(bt (be (ah (L:η)) 8) (aB (x1.q3,D,s,(x.2.2,y8,y9,0,s.q5),L)))) (jn (α:=Bool×C'×uW×lh×Int×Int×Int×Int×Int) (bg s.1 7 (aB ((decide ((s.1:Int)=7)),x1.q3,D,s,x.2.2,y8,y9,0,s.q5)) (aB ((decide ((s.1:Int)=9)),x1.q3,D,s,x.2.2,y8,y9,0,s.q5))) λd=>(aF d.1 (bJ (.sl aL) d.p2.p2 d.p3.p3 λI=>(bt (be (ah (I:η)) 8) (aB (d.2.1,d.p2,d.p3,d.q4,I)))) (aB (d.2.1,d.p2,d.p3,d.q4,([]:η)))))) λA=>(jn (α:=C'×C'×(η)×η) (jn (bg A.p2.1 8 (aB (M,A)) (bg A.p2.1 9 (aB (M,A)) (aB ((decide ((A.p2.1:Int)=26)),A)))) λq=>(aF q.1 (bJ (.sl aL) q.p2.p2 q.p3.p2 λF=>(bt (be (ah (F:η)) 8) (aB (q.2.1,q.p4,q.q5,F)))) (aB (q.2.1,q.p4,q.q5,([]:η))))) λz=>(Z ((z.2.1.1,z.2.1.2.1,z.2.1.p2,z.2.1.p3,z.2.1.q4,z.2.2),M))))))) (Z ((0,0,0,0,0,([]:η),([]:η)),aa)))))))))))
def mU (x:ny×my×(Y jD)×di×di×Y ν):J fV:=
 (av (ph x) λq=>(bt (cO 0 (aY x.p3)&&cO (aY x.p3) (aY x.p3)&&be (aO (aY x.p3)) 8) (bt (cO 0 (aY x.p4)&&cO (aY x.p4) (aY x.p4)&&be (aO (aY x.p4)) 8) (iter (σ:=Int×fc×Int×pJ×(η)×(η)×η) (λx2=>(bA x2.1 (aY x2.2.1.1) (bJ kJ x2.2.1.1 x2.1 λd=>(bt (be (ah x2.p4+ah ([d.2.2.2.2])) 8) (cM ((cw x2.1),x2.2.1,x2.p2,x2.p3,(x2.p4++([d.2.2.2.2])),x2.q5)))) (aB x2.q3))) (0,x,0,q,([]:η),(aA (aO (aY x.p3)) (0:Int)),(aA (aO (aY x.p4)) (0:Int)))))))
def qP (x:fc×pJ×(η)×(η)×η):J (Bool):=
 (jn (av (nG (x.1,x.2.1)) λd=>(aF d (bg (aY x.p2) (aY x.1.1) (bg (aY x.p3) (aY x.1.p3) (aB (decide (((aY x.q4):Int)=(aY x.1.p4)))) (aB aa)) (aB aa)) (aB aa))) λx1=>(Z x1))
def B1 (x:Γ):J (Bool):=
 (jn (ji 0 x.1 (aB (fE x.1 x.2)) (aB aa)) λx1=>(Z x1))
def kj (x:η×Int):J (Bool):=
 (iter (σ:=Int) (λx1=>(bA x1 (aY x.1) (jn (bJ aL x.1 x1 λz=>(bA z 1 (aB M) (bJ aL x.1 x1 λs=>(ji x.2 s (aB M) (bA 0 x1 (bJ aL x.1 x1 λq=>(bJ aL x.1 (ba .i64 (x1-1)) λd=>(aB (cO q d)))) (aB aa)))))) λx2=>(aF x2 (aB aa) (cM (cw x1)))) (aB M))) 0)
def pf (x:fV×Int×Int×Int×Int×Int×(η)×η):J (Bool):=
 (bg x.p2 3 (bJ aL x.1.2.1 x.p3 λz=>(Z (decide ((x.p4:Int)=z)))) (bg x.p2 23 (bJ aL x.1.p2 x.p3 λs=>(Z (decide ((x.p4:Int)=s)))) (bg x.p2 5 (jn (bg x.p4 0 (aB M) (aB (decide ((x.p4:Int)=1)))) λI=>(Z I)) (jn (bg x.p2 4 (aB ((decide ((x.p2:Int)=4)),x)) (aB ((decide ((x.p2:Int)=22)),x))) λd=>(aF d.1 (Z M) (bg x.p2 18 (av (nF (d.2.1.1,d.p4)) λq=>(bg (aY q) 0 (Z (decide ((d.p5:Int)=(-1)))) (jn (ji 0 d.p5 (bA d.p5 (aY d.2.1.1.q3) (av (oq (q,d.p5)) λD=>(aB D)) (aB aa)) (aB aa)) λF=>(Z F)))) (bg x.p2 19 (av (nF (d.2.1.1,d.p4)) λA=>(Z (decide ((d.p5:Int)=(aY A))))) (Z (decide ((d.p5:Int)=0))))))))))
def nD (x:fc×fV×Int×Int×Int×Int×Int×(η)×η):J (fV×Bool):=
 (jn (α:=Bool×fc×fV×jY×Int) (av (qP (x.1,x.2.1)) λy2=>(aF (!y2) (aB (M,x.1,x.2.1,x.2.2,0)) (av (B1 (x.p2,(aY x.1.p4))) λy3=>(aF (!y3) (aB (M,x.1,x.2.1,x.2.2,0)) (bA x.p3 1 (aB (M,x.1,x.2.1,x.2.2,0)) (bA 23 x.p3 (aB (M,x.1,x.2.1,x.2.2,0)) (av (iA (x.1,x.2.1.1,x.p2,x.p3,x.p4)) λy4=>(aB ((!y4),x.1,x.2.1,x.2.2,0))))))))) λx1=>(aF x1.1 (Z (((([]:Y (Int×η)),0,([]:θ),([]:Y dJ)),([]:η),([]:η),([]:η)),aa)) (jn (α:=fc×fV×jY×Int) (jn (bg x1.p3.2.1 1 (aB (M,x1.2)) (aB ((decide ((x1.p3.2.1:Int)=2)),x1.2))) λI=>(aF I.1 (iT I.p3.p4 (-1) (cM (((([]:Y (Int×η)),0,([]:θ),([]:Y dJ)),([]:η),([]:η),([]:η)),aa)) (aB I.2)) (jn (av (B1 (I.p3.p4,(aY I.2.1.q5))) λy8=>(aF (!y8) (aB (M,I.2)) (bJ oF I.2.1.q5 I.p3.p4 λz9=>(aB ((!decide ((z9.1:Int)=I.p3.1)),I.2))))) λx7=>(aF x7.1 (cM (((([]:Y (Int×η)),0,([]:θ),([]:Y dJ)),([]:η),([]:η),([]:η)),aa)) (aB x7.2))))) λx5=>(jn (bg x5.p2.2.1 3 (aB (M,x5)) (aB ((decide ((x5.p2.2.1:Int)=4)),x5))) λD=>(jn (bA 0 (aY D.p3.p5) (iT D.p3.2.1 5 (aF D.1 (bJ kJ D.2.1.1 D.p3.p2 λz12=>(aB ((!(!decide ((z12.2.2.1:Int)=0))),D.2))) (aB (M,D.2))) (aB (aa,D.2))) (aB (aa,D.2))) λF=>(aF F.1 (Z (((([]:Y (Int×η)),0,([]:θ),([]:Y dJ)),([]:η),([]:η),([]:η)),aa)) (jn (bA 0 (aY F.p3.q6) (iT F.p3.2.1 4 (aB ((!decide ((F.p3.2.1:Int)=22)),F.2)) (aB (aa,F.2))) (aB (aa,F.2))) λz=>(aF z.1 (Z (((([]:Y (Int×η)),0,([]:θ),([]:Y dJ)),([]:η),([]:η),([]:η)),aa)) (jn (bJ aL z.p2.q3 z.p3.1 λz15=>(av (kj (z.p3.p5,z15)) λy16=>(aF (!y16) (aB (M,z.2)) (bJ aL z.p2.q3 z.p3.1 λz17=>(av (kj (z.p3.q6,z17)) λy18=>(aF (!y18) (aB (M,z.2)) (av (pf (z.p2,z.p3)) λy19=>(aB ((!y19),z.2))))))))) λd=>(aF d.1 (Z (((([]:Y (Int×η)),0,([]:θ),([]:Y dJ)),([]:η),([]:η),([]:η)),aa)) (bt (be (ah ([]:η)+ah d.p2.2.1) 8) (bt (be (ah ([]:η)+ah d.p2.p2) 8) (bt (be (ah ([]:η)+ah d.p2.q3) 8) (jn (α:=Int×fc×fV×jY×Int×Int×(η)×(η)×η) (bg d.p3.2.1 18 (aB (d.p3.p3,d.2.1,d.p2,d.p3,d.q4,0,(([]:η)++d.p2.2.1),(([]:η)++d.p2.p2),(([]:η)++d.p2.q3))) (aB ((-1),d.2.1,d.p2,d.p3,d.q4,0,(([]:η)++d.p2.2.1),(([]:η)++d.p2.p2),(([]:η)++d.p2.q3)))) λq=>(av (pi (q.2.1,q.p2.1,q.p3.1,q.p3.2.1,q.p3.p2,q.1)) λL=>(jn (bg q.p3.2.1 4 (ck (eZ q.p3.p2 (ah q.p6)) (aB (q.p3,q.p4,L.1,(ct q.p6 q.p3.p2 q.p3.p3),q.q7))) (aB (q.p3,q.p4,L.1,q.q6))) λs=>(jn (bg s.1.2.1 22 (ck (eZ s.1.p2 (ah s.p4)) (aB (s.1,s.2.1,s.p2,s.p3,(ct s.p4 s.1.p2 s.1.p3),s.q5))) (aB s)) λA=>(kM aL A.q5 A.1.1 λz24=>(ck (eZ A.1.1 (ah A.q5)) (Z ((A.p2,A.p3,A.p4,(ct A.q5 A.1.1 (cw z24))),M)))))))))))))))))))))
def mT (x:(Y jY)×Int×Int×η):J (Bool):=
 (iter (σ:=Int) (λx1=>(bA x1 (aY x.q3) (iter (σ:=Int×Bool×Int) (λx2=>(bA x2.2.2 x.2.1 (jn (bJ gV x.1 x2.2.2 λA=>(iT A.1 x.p2 (aB (x2.1,x2.2.1)) (jn (aF x2.2.1 (aB M) (bJ aL x.q3 x1 λz=>(bg x2.1 z (bJ gV x.1 x2.2.2 λs=>(bg s.2.1 3 (aB M) (bJ gV x.1 x2.2.2 λq=>(aB (decide ((q.2.1:Int)=23)))))) (aB aa)))) λD=>(aB ((cw x2.1),D))))) λd=>(cM (d.1,d.2,(cw x2.2.2)))) (av (aF (!x2.2.1) (aB aa) (cM (cw x1))) λr=>Z (bZ r)))) (0,aa,0)) (aB M))) 0)
def mV (x:fc×Y jY):J Γ:=
 (bA 400 (aY x.2) (Z (0,2)) (av (hX x.1) λI=>(aF (!I) (Z (0,1)) (av (mU x.1) λF=>(iter (σ:=Int×(fc×Y jY)×pJ×(η)×(η)×η) (λd=>(bA d.1 (aY d.2.1.2) (bJ gV d.2.1.2 d.1 λq=>(av (nD (d.2.1.1,d.2.2,q)) λs=>(jn (aF (!s.2) (aB (M,d.2.1,d.2.2,s.1)) (av (mT (d.2.1.2,d.1,q.1,q.p5)) λD=>(aF (!D) (aB (M,d.2.1,d.2.2,s.1)) (av (mT (d.2.1.2,d.1,q.1,q.q6)) λA=>(aB ((!A),d.2.1,d.2.2,s.1)))))) λz=>(aF z.1 (aB (d.1,12)) (cM ((cw d.1),z.2.1,z.q3)))))) (aB (0,0)))) (0,x,F))))))
def KG {g W V:Type} (i:Int) (t1:g->(η)->(Y η)->W) (F:W->V) (I:V->uW->Y uW) (D:Int) (d:BA×pJ×(Γ)×Int×C'×jY×(Γ)×(η)×(η)×g×(η)×Y η):J C_:=
 (jn (jn (iT d.p5.2.1 16 (aB ((!decide ((d.p5.2.1:Int)=2)),d.1,d.2.1,d.p2,d.p3,d.p4,d.p5,(D,d.p10,d.q11,(cw d.p6.2)),d.p7,d.p8,(t1 d.p9 d.p10 d.q11))) (aB (aa,d.1,d.2.1,d.p2,d.p3,d.p4,d.p5,(D,d.p10,d.q11,(cw d.p6.2)),d.p7,d.p8,(t1 d.p9 d.p10 d.q11)))) λq=>(aF q.1 (bJ v9 q.2.1.2 q.p3.1 λz=>(av (nk (z,q.p7)) λA=>(aB (q.p2,q.p3,q.p4,q.p5,q.p6,A.1,q.p8,q.p9,(F q.q10))))) (aB (q.p2,q.p3,q.p4,q.p5,q.p6,q.p7,q.p8,q.p9,(F q.q10))))) λs=>(bg s.2.1.1 i (Z ((s.1,s.p6,s.p7,(I s.q8 s.p5)),s.p4,M)) U))
def SG {g:Type} (i:Int) (cp:(pJ×(η)×(η)×Y uW)->J (Int×iK×(θ)×(Y dJ)×(η)×(η)×g×(η)×Y η)) (A ev:g->Int) (k:Int->(BA×pJ×(Γ)×Int×C'×jY×(Γ)×(η)×(η)×g×(η)×Y η)->J C_) (x:BA×w_×Int×Int):J C_:=
 (av (nE (x.1,x.2.1,x.p2)) λs=>(aF (!s.2) (Z (((([]:Y (Int×η)),0,([]:θ),([]:Y dJ)),([]:η),([]:η),([]:Y uW)),(0,0,0,0,0,([]:η),([]:η)),aa)) (av (pi (x.1.1,x.2.1.1,x.p2,s.1.2.1,s.1.p2,x.q3)) λD=>(aF (!D.2.2) (Z (((([]:Y (Int×η)),0,([]:θ),([]:Y dJ)),([]:η),([]:η),([]:Y uW)),(0,0,0,0,0,([]:η),([]:η)),aa)) (av (cp x.2.1) λz=>(bg x.p2 i (bJ v9 x.1.2 i λz4=>(bJ qB z4.2 (A z.p6) λz5=>(jn (α:=Int×BA×pJ×(Γ)×Int×C'×jY×(Γ)×lh×(η)×(η)×g×(η)×Y η) (jn (α:=Bool×BA×pJ×(Γ)×Int×C'×jY×(Γ)×lh×(η)×(η)×g×(η)×Y η) (bg s.1.2.1 1 (aB ((decide ((s.1.2.1:Int)=1)),x.1,D.1,(i,x.q3),0,(0,0,0,0,0),(s.1.1,s.1.2.1,s.1.p2,D.2.1,s.1.q4),((A z.p6),(ev z.p6)),z5,z.q4)) (bg s.1.2.1 16 (aB ((decide ((s.1.2.1:Int)=16)),x.1,D.1,(i,x.q3),0,(0,0,0,0,0),(s.1.1,s.1.2.1,s.1.p2,D.2.1,s.1.q4),((A z.p6),(ev z.p6)),z5,z.q4)) (aB ((decide ((s.1.2.1:Int)=2)),x.1,D.1,(i,x.q3),0,(0,0,0,0,0),(s.1.1,s.1.2.1,s.1.p2,D.2.1,s.1.q4),((A z.p6),(ev z.p6)),z5,z.q4)))) λd=>(aF d.1 (aB (d.p7.1,d.2)) (bg s.1.2.1 3 (kM aL d.p9 d.p6.p2 λz8=>(aB ((ba .i64 ((A z.p6)+1)),d.2.1,d.p2,d.p3,d.p4,d.p5,(d.p6.1,d.p6.2.1,d.p6.p2,z8,d.p6.q4),d.q7))) (bg s.1.2.1 23 (kM aL d.p10 d.p6.p2 λz9=>(aB ((ba .i64 ((A z.p6)+1)),d.2.1,d.p2,d.p3,d.p4,d.p5,(d.p6.1,d.p6.2.1,d.p6.p2,z9,d.p6.q4),d.q7))) (bg s.1.2.1 4 (kM aL d.p12 d.p8.p2 λI=>(ck (eZ d.p6.p2 (ah d.p9)) (aB ((ba .i64 ((A z.p6)+1)),d.2.1,d.p2,d.p3,d.p4,d.p5,(d.p6.1,d.p6.2.1,d.p6.p2,I,d.p6.q4),d.p7,d.p8,(ct d.p9 d.p6.p2 I),d.q10)))) (bg s.1.2.1 22 (kM aL d.p12 d.p8.p2 λF=>(ck (eZ d.p6.p2 (ah d.p10)) (aB ((ba .i64 ((A z.p6)+1)),d.2.1,d.p2,d.p3,d.p4,d.p5,(d.p6.1,d.p6.2.1,d.p6.p2,F,d.p6.q4),d.p7,d.p8,d.p9,(ct d.p10 d.p6.p2 F),d.q11)))) (bg s.1.2.1 5 (kM aL d.p12 d.p8.2.1 λz12=>(bg z12 0 (aB (d.p8.p2,d.2.1,d.p2,d.p3,d.p4,d.p5,(d.p6.1,d.p6.2.1,d.p6.p2,0,d.p6.q4),d.q7)) (aB ((ba .i64 ((A z.p6)+1)),d.2.1,d.p2,d.p3,d.p4,d.p5,(d.p6.1,d.p6.2.1,d.p6.p2,1,d.p6.q4),d.q7)))) (aB ((ba .i64 ((A z.p6)+1)),d.2))))))))) λL=>(jn (α:=BA×pJ×(Γ)×Int×C'×jY×(Γ)×(η)×(η)×g×(η)×Y η) (jn (bg L.p6.2.1 3 (aB (M,L.2)) (aB ((decide ((L.p6.2.1:Int)=23)),L.2))) λq=>(aF q.1 (ck (eZ q.p8.2.1 (ah q.p12)) (ck (eZ q.p8.2.1 (ah q.q13)) (aB (q.2.1,q.p2,q.p3,q.p4,q.p5,q.p6,q.p7,q.p9,q.p10,q.p11,(ct q.p12 q.p8.2.1 q.p6.p3),(ct q.q13 q.p8.2.1 ([q.p7.2])))))) (aB (q.2.1,q.p2,q.p3,q.p4,q.p5,q.p6,q.p7,q.q9)))) λx13=>(k L.1 x13))))) U))))))
def nj (x:pJ×(η)×(η)×Y uW):J (Int×iK×(θ)×(Y dJ)×(η)×(η)×(Γ)×(η)×Y η):=
 (av (io x.1) λd=>(bt (be (ah ([]:η)+ah x.2.1) 8) (bt (be (ah ([]:η)+ah x.p2) 8) (bA 0 (aY x.q3) (bJ eI x.q3 0 λs=>(av (ci s) λz=>(bA 1 (aY x.q3) (bJ eI x.q3 1 λq=>(av (ci q) λA=>U)) (Z (d.1,d.2.1,d.p2,d.q3,(([]:η)++x.2.1),(([]:η)++x.p2),z))))) U))))
def fR (x:BA×w_×Int×Int):J C_:=
 SG 0 nj (λz=>z.1) (λz=>z.2) (KG 0 (λz R T=>(z.1,R,T,z.2)) (λw=>((w.1,w.2.1,w.2.2.1,w.2.2.2))) (λv t=>[t])) x
def nh (x:pJ×(η)×(η)×Y uW):J (Int×iK×(θ)×(Y dJ)×(η)×(η)×Ya29×(η)×Y η):=
 (av (io x.1) λq=>(bt (be (ah ([]:η)+ah x.2.1) 8) (bt (be (ah ([]:η)+ah x.p2) 8) (bA 0 (aY x.q3) (bJ eI x.q3 0 λD=>(av (ci D) λs=>(bA 1 (aY x.q3) (bJ eI x.q3 1 λA=>(av (ci A) λd=>(bA 2 (aY x.q3) (bJ eI x.q3 2 λz=>(av (ci z) λF=>U)) (Z (q.1,q.2.1,q.p2,q.q3,(([]:η)++x.2.1),(([]:η)++x.p2),(s.1.1,s.1.2,d.1.1,d.2.1,d.2.2,d.1.2),s.2))))) U))) U))))
def gA (x:BA×w_×Int×Int):J C_:=
 SG 0 nh (λz=>z.1) (λz=>z.2.1) (KG 0 (λz R T=>(z.1,R,T,z.2.1,z.2.2)) (λw=>((w.1,w.2.1,w.2.2.1,w.2.2.2.1),w.2.2.2.2)) (λv t=>[t,v.2])) x
def ng (x:pJ×(η)×(η)×Y uW):J (Int×iK×(θ)×(Y dJ)×(η)×(η)×(uW×Int×Int)×(η)×Y η):=
 (av (io x.1) λq=>(bt (be (ah ([]:η)+ah x.2.1) 8) (bt (be (ah ([]:η)+ah x.p2) 8) (bA 0 (aY x.q3) (bJ eI x.q3 0 λD=>(av (ci D) λd=>(bA 1 (aY x.q3) (bJ eI x.q3 1 λA=>(av (ci A) λs=>(bA 2 (aY x.q3) (bJ eI x.q3 2 λz=>(av (ci z) λF=>U)) (Z (q.1,q.2.1,q.p2,q.q3,(([]:η)++x.2.1),(([]:η)++x.p2),((d.1.1,d.2.1,d.2.2,d.1.2),s.1),s.2))))) U))) U))))
def fQ (x:BA×w_×Int×Int):J C_:=
 SG 1 ng (λz=>z.2.1) (λz=>z.2.2) (KG 1 (λz R T=>(z.1,z.2.1,R,T,z.2.2)) (λw=>(w.1,(w.2.1,w.2.2.1,w.2.2.2.1,w.2.2.2.2))) (λv t=>[v.1,t])) x
def ne (x:pJ×(η)×(η)×Y uW):J (Int×iK×(θ)×(Y dJ)×(η)×(η)×Ya27×(η)×Y η):=
 (av (io x.1) λs=>(bt (be (ah ([]:η)+ah x.2.1) 8) (bt (be (ah ([]:η)+ah x.p2) 8) (bA 0 (aY x.q3) (bJ eI x.q3 0 λI=>(av (ci I) λz=>(bA 1 (aY x.q3) (bJ eI x.q3 1 λF=>(av (ci F) λq=>(bA 2 (aY x.q3) (bJ eI x.q3 2 λD=>(av (ci D) λd=>(bA 3 (aY x.q3) (bJ eI x.q3 3 λA=>(av (ci A) λL=>U)) (Z (s.1,s.2.1,s.p2,s.q3,(([]:η)++x.2.1),(([]:η)++x.p2),(z.1.1,z.1.2,(q.1.1,q.2.1,q.2.2,q.1.2),d.1.1,d.2.1,d.2.2,d.1.2),z.2))))) U))) U))) U))))
def jv (x:BA×w_×Int×Int):J C_:=
 SG 0 ne (λz=>z.1) (λz=>z.2.1) (KG 0 (λz R T=>(z.1,R,T,z.2.1,z.p2,z.q3)) (λw=>((w.1,w.2.1,w.2.2.1,w.2.2.2.1),w.2.2.2.2.1,w.2.2.2.2.2)) (λv t=>[t,v.2.1,v.2.2])) x
def m_ (x:pJ×(η)×(η)×Y uW):J (Int×iK×(θ)×(Y dJ)×(η)×(η)×Ya28×(η)×Y η):=
 (av (io x.1) λs=>(bt (be (ah ([]:η)+ah x.2.1) 8) (bt (be (ah ([]:η)+ah x.p2) 8) (bA 0 (aY x.q3) (bJ eI x.q3 0 λI=>(av (ci I) λq=>(bA 1 (aY x.q3) (bJ eI x.q3 1 λF=>(av (ci F) λz=>(bA 2 (aY x.q3) (bJ eI x.q3 2 λD=>(av (ci D) λd=>(bA 3 (aY x.q3) (bJ eI x.q3 3 λA=>(av (ci A) λL=>U)) (Z (s.1,s.2.1,s.p2,s.q3,(([]:η)++x.2.1),(([]:η)++x.p2),((q.1.1,q.2.1,q.2.2,q.1.2),z.1.1,z.1.2,d.1.1,d.2.1,d.2.2,d.1.2),z.2))))) U))) U))) U))))
def iF (x:BA×w_×Int×Int):J C_:=
 SG 1 m_ (λz=>z.2.1) (λz=>z.p2) (KG 1 (λz R T=>(z.1,z.2.1,R,T,z.p2,z.q3)) (λw=>(w.1,(w.2.1,w.2.2.1,w.2.2.2.1,w.2.2.2.2.1),w.2.2.2.2.2)) (λv t=>[v.1,t,v.2.2])) x
def m8 (x:pJ×(η)×(η)×Y uW):J (Int×iK×(θ)×(Y dJ)×(η)×(η)×(uW×uW×Int×Int)×(η)×Y η):=
 (av (io x.1) λs=>(bt (be (ah ([]:η)+ah x.2.1) 8) (bt (be (ah ([]:η)+ah x.p2) 8) (bA 0 (aY x.q3) (bJ eI x.q3 0 λI=>(av (ci I) λq=>(bA 1 (aY x.q3) (bJ eI x.q3 1 λF=>(av (ci F) λd=>(bA 2 (aY x.q3) (bJ eI x.q3 2 λD=>(av (ci D) λz=>(bA 3 (aY x.q3) (bJ eI x.q3 3 λA=>(av (ci A) λL=>U)) (Z (s.1,s.2.1,s.p2,s.q3,(([]:η)++x.2.1),(([]:η)++x.p2),((q.1.1,q.2.1,q.2.2,q.1.2),(d.1.1,d.2.1,d.2.2,d.1.2),z.1),z.2))))) U))) U))) U))))
def g_ (x:BA×w_×Int×Int):J C_:=
 SG 2 m8 (λz=>z.p2) (λz=>z.q3) (KG 2 (λz R T=>(z.1,z.2.1,z.p2,R,T,z.q3)) (λw=>(w.1,w.2.1,(w.2.2.1,w.2.2.2.1,w.2.2.2.2.1,w.2.2.2.2.2))) (λv t=>[v.1,v.2.1,t])) x
def m7 (x:pJ×(η)×(η)×Y uW):J (Int×iK×(θ)×(Y dJ)×(η)×(η)×Ya23×(η)×Y η):=
 (av (io x.1) λz=>(bt (be (ah ([]:η)+ah x.2.1) 8) (bt (be (ah ([]:η)+ah x.p2) 8) (bA 0 (aY x.q3) (bJ eI x.q3 0 λz2=>(av (ci z2) λD=>(bA 1 (aY x.q3) (bJ eI x.q3 1 λL=>(av (ci L) λs=>(bA 2 (aY x.q3) (bJ eI x.q3 2 λI=>(av (ci I) λq=>(bA 3 (aY x.q3) (bJ eI x.q3 3 λF=>(av (ci F) λd=>(bA 4 (aY x.q3) (bJ eI x.q3 4 λA=>(av (ci A) λy11=>U)) (Z (z.1,z.2.1,z.p2,z.q3,(([]:η)++x.2.1),(([]:η)++x.p2),(D.1.1,D.1.2,(s.1.1,s.2.1,s.2.2,s.1.2),(q.1.1,q.2.1,q.2.2,q.1.2),d.1.1,d.2.1,d.2.2,d.1.2),D.2))))) U))) U))) U))) U))))
def mX (x:BA×w_×Int×Int):J C_:=
 SG 0 m7 (λz=>z.1) (λz=>z.2.1) (KG 0 (λz R T=>(z.1,R,T,z.2.1,z.p2,z.p3,z.q4)) (λw=>((w.1,w.2.1,w.2.2.1,w.2.2.2.1),w.2.2.2.2.1,w.2.2.2.2.2.1,w.2.2.2.2.2.2)) (λv t=>[t,v.2.1,v.2.2.1,v.2.2.2])) x
def m6 (x:pJ×(η)×(η)×Y uW):J (Int×iK×(θ)×(Y dJ)×(η)×(η)×Ya24×(η)×Y η):=
 (av (io x.1) λz=>(bt (be (ah ([]:η)+ah x.2.1) 8) (bt (be (ah ([]:η)+ah x.p2) 8) (bA 0 (aY x.q3) (bJ eI x.q3 0 λz2=>(av (ci z2) λs=>(bA 1 (aY x.q3) (bJ eI x.q3 1 λL=>(av (ci L) λD=>(bA 2 (aY x.q3) (bJ eI x.q3 2 λI=>(av (ci I) λq=>(bA 3 (aY x.q3) (bJ eI x.q3 3 λF=>(av (ci F) λd=>(bA 4 (aY x.q3) (bJ eI x.q3 4 λA=>(av (ci A) λy11=>U)) (Z (z.1,z.2.1,z.p2,z.q3,(([]:η)++x.2.1),(([]:η)++x.p2),((s.1.1,s.2.1,s.2.2,s.1.2),D.1.1,D.1.2,(q.1.1,q.2.1,q.2.2,q.1.2),d.1.1,d.2.1,d.2.2,d.1.2),D.2))))) U))) U))) U))) U))))
def mW (x:BA×w_×Int×Int):J C_:=
 SG 1 m6 (λz=>z.2.1) (λz=>z.p2) (KG 1 (λz R T=>(z.1,z.2.1,R,T,z.p2,z.p3,z.q4)) (λw=>(w.1,(w.2.1,w.2.2.1,w.2.2.2.1,w.2.2.2.2.1),w.2.2.2.2.2.1,w.2.2.2.2.2.2)) (λv t=>[v.1,t,v.2.2.1,v.2.2.2])) x
def mZ (x:pJ×(η)×(η)×Y uW):J (Int×iK×(θ)×(Y dJ)×(η)×(η)×Ya25×(η)×Y η):=
 (av (io x.1) λz=>(bt (be (ah ([]:η)+ah x.2.1) 8) (bt (be (ah ([]:η)+ah x.p2) 8) (bA 0 (aY x.q3) (bJ eI x.q3 0 λz2=>(av (ci z2) λs=>(bA 1 (aY x.q3) (bJ eI x.q3 1 λL=>(av (ci L) λq=>(bA 2 (aY x.q3) (bJ eI x.q3 2 λI=>(av (ci I) λD=>(bA 3 (aY x.q3) (bJ eI x.q3 3 λF=>(av (ci F) λd=>(bA 4 (aY x.q3) (bJ eI x.q3 4 λA=>(av (ci A) λy11=>U)) (Z (z.1,z.2.1,z.p2,z.q3,(([]:η)++x.2.1),(([]:η)++x.p2),((s.1.1,s.2.1,s.2.2,s.1.2),(q.1.1,q.2.1,q.2.2,q.1.2),D.1.1,D.1.2,d.1.1,d.2.1,d.2.2,d.1.2),D.2))))) U))) U))) U))) U))))
def ll (x:BA×w_×Int×Int):J C_:=
 SG 2 mZ (λz=>z.p2) (λz=>z.p3) (KG 2 (λz R T=>(z.1,z.2.1,z.p2,R,T,z.p3,z.q4)) (λw=>(w.1,w.2.1,(w.2.2.1,w.2.2.2.1,w.2.2.2.2.1,w.2.2.2.2.2.1),w.2.2.2.2.2.2)) (λv t=>[v.1,v.2.1,t,v.2.2.2])) x
def mY (x:pJ×(η)×(η)×Y uW):J (Int×iK×(θ)×(Y dJ)×(η)×(η)×Ya42×(η)×Y η):=
 (av (io x.1) λz=>(bt (be (ah ([]:η)+ah x.2.1) 8) (bt (be (ah ([]:η)+ah x.p2) 8) (bA 0 (aY x.q3) (bJ eI x.q3 0 λz2=>(av (ci z2) λs=>(bA 1 (aY x.q3) (bJ eI x.q3 1 λL=>(av (ci L) λq=>(bA 2 (aY x.q3) (bJ eI x.q3 2 λI=>(av (ci I) λd=>(bA 3 (aY x.q3) (bJ eI x.q3 3 λF=>(av (ci F) λD=>(bA 4 (aY x.q3) (bJ eI x.q3 4 λA=>(av (ci A) λy11=>U)) (Z (z.1,z.2.1,z.p2,z.q3,(([]:η)++x.2.1),(([]:η)++x.p2),((s.1.1,s.2.1,s.2.2,s.1.2),(q.1.1,q.2.1,q.2.2,q.1.2),(d.1.1,d.2.1,d.2.2,d.1.2),D.1),D.2))))) U))) U))) U))) U))))
def kl (x:BA×w_×Int×Int):J C_:=
 SG 3 mY (λz=>z.p3) (λz=>z.q4) (KG 3 (λz R T=>(z.1,z.2.1,z.p2,z.p3,R,T,z.q4)) (λw=>(w.1,w.2.1,w.2.2.1,(w.2.2.2.1,w.2.2.2.2.1,w.2.2.2.2.2.1,w.2.2.2.2.2.2))) (λv t=>[v.1,v.2.1,v.2.2.1,t])) x
def zj (x:BA×w_×Int×Int):J C_:=orE (mX x) (orE (mW x) (orE (ll x) (orE (kl x) (orE (jv x) (orE (iF x) (orE (g_ x) (orE (gA x) (orE (fQ x) (fR x)))))))))
def vr (x:BA×w_×Y Γ):J ((Y jY)×pJ×(η)×(η)×Y uW):=
 (iter (σ:=Int×(Y jY)×BA×w_×Int) (λx1=>(jn (bA x1.1 (aY x.2.2) (aB ((fE (aY x1.2.1) 400),x1.2)) (aB (aa,x1.2))) λx2=>(aF x2.1 (jn (α:=(Y jY)×BA×w_×Int) (bJ ju x.2.2 x1.1 λq=>(av (zj (x2.p2,x2.p3,q)) λd=>(aF d.2.2 (bt (be (ah x2.2.1+ah ([d.2.1])) 88) (aB ((x2.2.1++([d.2.1])),x2.p2,d.1,x2.q4))) (aB x2.2)))) λs=>(cM ((cw x1.1),s))) (aB (x2.2.1,x2.p3))))) (0,([]:Y jY),x.1,x.2.1,0))
def ye (x:BA×Y Γ):J ((fc×Y jY)×pJ×(η)×(η)×Y uW):=
 (av (pl x.1) λs=>(aF (!s) (Z (((([]:Y Rw),([]:Y (ζ×Bool)),([]:Y jD),([]:Y ζ),([]:Y ζ),([]:Y ν)),([]:Y jY)),(([]:Y (Int×η)),0,([]:θ),([]:Y dJ)),([]:η),([]:η),([]:Y uW))) (av (tu x.1) λq=>(av (vr (x.1,q,x.2)) λd=>(Z ((x.1.1,d.1),d.2))))))
def bE (x:Int×(η)×Int):J (Int×(η)×Int):=
 (jn (ji (aY x.2.1) x.2.2 (aB (M,x.2)) (aB ((fE x.1 1),x.2))) λx1=>(aF x1.1 (Z (0,x1.2)) (lt (cw x1.2.2) λq=>(bJ (.int .u8) x1.2.1 (ba .i64 (q-1)) λd=>(bt (!decide ((x.1:Int)=0)) (Z ((bu (ba .i64 d) x.1),x1.2.1,(cw x1.2.2))))))))
def qW (x:Int):J (Xp):=
 (Z (d9 (1,x,[],([]:Y Xp))))
def pn (x:ζ):J (Xp):=
 (Z (d9 (2,0,x,([]:Y Xp))))
def nI (x:Int×Xp×Xp):J (Xp):=
 (Z (d9 (x.1,0,[],[d9 ((Xp.op x.2.1),(Xp.n x.2.1),(Xp.name x.2.1),(Xp.l x.2.1)),d9 ((Xp.op x.2.2),(Xp.n x.2.2),(Xp.name x.2.2),(Xp.l x.2.2))])))
def jt (x:ζ×Xp):J (Sx):=
 (Z (oA (1,0,x.1,[],([]:Y Xp),d9 ((Xp.op x.2),(Xp.n x.2),(Xp.name x.2),(Xp.l x.2)),([]:Y Sx),([]:Y Sx))))
def rV (x:Unit):J v7:=
 (Z ([(1,0,[120],0,0,[]),(1,0,[121],0,1,[]),(2,0,[118],0,0,[]),(1,0,[113],2,0,[]),(3,0,[109],0,0,[]),(3,0,[110],0,0,[]),(4,0,[114],0,0,[]),(5,0,[99],0,0,[109]),(6,0,[102],0,0,[])]))
def oz (x:η):J (Y Γ):=
 (iter (σ:=Int×Y Γ) (λx1=>(bA x1.1 (aY x) (bJ (.int .u8) x x1.1 λq=>(bJ (.int .u8) x x1.1 λd=>(bt (be (ah x1.2+ah ([((bu (ba .i64 q) 4),(ba .i64 ((bu (ba .i64 (Int.tdiv (ba .i64 d) 4)) 5)-1)))])) 16) (cM ((cw x1.1),(x1.2++([((bu (ba .i64 q) 4),(ba .i64 ((bu (ba .i64 (Int.tdiv (ba .i64 d) 4)) 5)-1)))]))))))) (aB x1.2))) (0,([]:Y Γ)))
def nQ (rmade_maker_expr:Xh->J ad0) (x:Int×BB×gU×Bool×Y ζ):J ad0:=
 (av (bE (10,x.p2)) λA=>(jn (α:=Bool×BB×gU×Rx×(Int×Int×ζ)×Y ζ) (bA A.1 2 (aB (M,x.2.1,A.2,x.q3,(0,0,[]),[[97],[98],[120],[121],[118],[120],[121]])) (bg x.1 0 (aB ((cO 7 A.1),x.2.1,A.2,x.q3,(0,0,[]),[[97],[98],[120],[121],[118],[120],[121]])) (aB (aa,x.2.1,A.2,x.q3,(0,0,[]),[[97],[98],[120],[121],[118],[120],[121]])))) λx2=>(aF x2.1 (av (bE (4,x2.p2)) λy3=>(av (qW y3.1) λF=>(Z (d9 ((Xp.op F),(Xp.n F),(Xp.name F),(Xp.l F)),x2.2.1,y3.2,x2.p3)))) (bA A.1 7 (av (bE ((aY x2.q5),x2.p2)) λy5=>(kM (.str) x2.q5 y5.1 λz6=>(av (pn z6) λD=>(Z (d9 ((Xp.op D),(Xp.n D),(Xp.name D),(Xp.l D)),x2.2.1,y5.2,x2.p3))))) (bg A.1 7 (av (rmade_maker_expr (0,x2.2.1,x2.p2,x2.p3)) λz=>(bt (((x2.p3.1==z.p3)&&M)&&ax (ah x2.p3.2) (ah z.q4)&&M) (Z (d9 (3,0,[113],[d9 ((Xp.op z.1),(Xp.n z.1),(Xp.name z.1),(Xp.l z.1))]),z.2)))) (av (bE ((aT (ah ([6,7,8,11,13,17]))),x2.p2)) λL=>(kM aL ([6,7,8,11,13,17]) L.1 λI=>(av (rmade_maker_expr ((ba .i64 (x.1-1)),x2.2.1,L.2,x2.p3)) λd=>(bt (((x2.p3.1==d.p3)&&M)&&ax (ah x2.p3.2) (ah d.q4)&&M) (av (rmade_maker_expr ((ba .i64 (x.1-1)),d.2)) λs=>(bt (((d.p3==s.p3)&&M)&&ax (ah d.q4) (ah s.q4)&&M) (av (nI (I,d.1,s.1)) λq=>(Z (d9 ((Xp.op q),(Xp.n q),(Xp.name q),(Xp.l q)),s.2))))))))))))))
def iq:Nat->Xh->J ad0
 |0,_=>U
 |n+1,x=>nQ (iq n) x
theorem xO (n:Nat) (x:Int×BB×gU×Bool×Y ζ):iq (n+1) x=nQ (iq n) x:=rfl
def eV (x:Int×BB×gU×Bool×Y ζ):J ad0:=iq fuel x
def eD (x:ζ×BB×gU×Bool×Y ζ):J (Bool×BB×gU×Bool×Y ζ):=
 (av (jW (x.q4,x.1)) λd=>(Z ((cO 0 d),x.2)))
def mG (rmade_maker_stmts:ad2->J Xg) (rmade_maker_stmt:Xh->J ZZ) (rmade_maker_block:ad1->J Z0) (x:Γ×BB×gU×Bool×Y ζ):J Xg:=
 (iter (σ:=Int×BB×gU×(Y Sx)×Bool×Y ζ) (λx1=>(jn (bA x1.1 x.1.2 (bg x1.1 0 (aB (M,x1.2)) (aB ((fE 0 x1.2.1.2.1),x1.2))) (aB (aa,x1.2))) λx2=>(aF x2.1 (av (rmade_maker_stmt (x.1.1,x2.2.1,x2.p2,x2.q4)) λd=>(bt (((x2.p4==x2.p4)&&M)&&ax (ah x2.q5) (ah x2.q5)&&M) (bt (be (ah x2.p3+ah ([dY d.1])) 176) (cM ((cw x1.1),d.2.1,d.p2,(x2.p3++([dY d.1])),d.q3))))) (aB (x2.2.1,x2.p2,x2.q4,x2.p3))))) (0,x.2.1,x.p2,([]:Y Sx),x.q3))
def nP (rmade_maker_stmts:ad2->J Xg) (rmade_maker_stmt:Xh->J ZZ) (rmade_maker_block:ad1->J Z0) (x:Int×BB×gU×Bool×Y ζ):J ZZ:=
 (av (bE (18,x.p2)) λL=>(jn (α:=Bool×BB×gU×Uv×Bool×Y ζ) (bA 0 x.1 (lt (ba .i64 (x.2.1.2.1-1)) λz3=>(bA 0 z3 (aB ((!x.2.1.p3),(x.2.1.1,(ba .i64 (x.2.1.2.1-1)),x.2.1.2.2),L.2,(0,0,[],[],0,0,[]),x.q3)) (aB (aa,(x.2.1.1,(ba .i64 (x.2.1.2.1-1)),x.2.1.2.2),L.2,(0,0,[],[],0,0,[]),x.q3)))) (aB (aa,(x.2.1.1,(ba .i64 (x.2.1.2.1-1)),x.2.1.2.2),L.2,(0,0,[],[],0,0,[]),x.q3))) λx2=>(bA L.1 4 (kM (.str) ([[120],[121],[120],[118]]) L.1 λz4=>(av (eV (1,x2.2.1,x2.p2,x2.q4)) λy5=>(bt (((x2.p4==y5.p3)&&M)&&ax (ah x2.q5) (ah y5.q4)&&M) (av (jt (z4,y5.1)) λy6=>(Z (dY y6,y5.2)))))) (bg L.1 4 (av (bE (2,x2.p2)) λy7=>(kM (.str) ([[97],[98]]) y7.1 λz8=>(av (eV (1,x2.2.1,y7.2,x2.q4)) λy9=>(bt (((x2.p4==y9.p3)&&M)&&ax (ah x2.q5) (ah y9.q4)&&M) (av (jt (z8,y9.1)) λy10=>(Z (dY y10,y9.2))))))) (bg L.1 5 (av (eV (0,x2.2.1,x2.p2,x2.q4)) λy11=>(bt (((x2.p4==y11.p3)&&M)&&ax (ah x2.q5) (ah y11.q4)&&M) (av (eV (1,y11.2)) λy12=>(bt (((y11.p3==y12.p3)&&M)&&ax (ah y11.q4) (ah y12.q4)&&M) (Z (oA (1,0,[113],[],[d9 ((Xp.op y11.1),(Xp.n y11.1),(Xp.name y11.1),(Xp.l y11.1))],d9 ((Xp.op y12.1),(Xp.n y12.1),(Xp.name y12.1),(Xp.l y12.1)),([]:Y Sx),([]:Y Sx)),y12.2)))))) (jn (bg L.1 6 (aB ((fE 0 x.1),x2.2)) (aB (aa,x2.2))) λx13=>(aF x13.1 (av (eV (1,x13.2.1,x13.p2,x13.q4)) λz=>(bt (((x13.p4==z.p3)&&M)&&ax (ah x13.q5) (ah z.q4)&&M) (av (rmade_maker_stmts (((ba .i64 (x.1-1)),1),z.2)) λI=>(bt (((z.p3==z.p3)&&M)&&ax (ah z.q4) (ah z.q4)&&M) (jn (α:=BB×gU×Uv×(Int×Int×(ζ)×(ζ)×Int×Int×(ζ)×Y Xp)×Rx×(Y Sx)×Y Sx) (av (bE (2,I.2.1)) λy17=>(bg y17.1 1 (av (rmade_maker_stmts (((ba .i64 (x.1-1)),1),I.1,y17.2,I.p2)) λy18=>(bt (((I.p2.1==I.p2.1)&&M)&&ax (ah I.p2.2) (ah I.p2.2)&&M) (aB (y18.1,y18.2.1,x13.p3,(2,0,[],[],(Xp.op z.1),(Xp.n z.1),(Xp.name z.1),(Xp.l z.1)),y18.p2,I.q3,y18.q3)))) (aB (I.1,y17.2,x13.p3,(2,0,[],[],(Xp.op z.1),(Xp.n z.1),(Xp.name z.1),(Xp.l z.1)),I.p2,I.q3,([]:Y Sx))))) λx16=>(Z (oA (x16.p3.1,x16.p3.2.1,x16.p3.p2,x16.p3.p3,([]:Y Xp),d9 x16.p3.q4,x16.q5),x16.1,x16.2.1,x16.p4))))))) (jn (bg L.1 7 (aB ((fE 0 x.1),x13.2)) (aB (aa,x13.2))) λd=>(aF d.1 (av (pn ([98])) λy20=>(av (qW 2) λy21=>(av (nI (13,y20,y21)) λy22=>(av (rmade_maker_stmts (((ba .i64 (x.1-1)),1),(d.2.1.1,d.2.1.2.1,d.2.1.p2,d.2.1.p3,d.2.1.p4,M),d.p2,d.q4)) λy23=>(bt (((d.p4==d.p4)&&M)&&ax (ah d.q5) (ah d.q5)&&M) (av (pn ([98])) λy24=>(av (qW 1) λy25=>(av (nI (6,y24,y25)) λy26=>(av (jt ([98],y26)) λy27=>(bt (be (ah y23.q3+ah ([dY y27])) 176) (Z (oA (3,0,[],[],([]:Y Xp),d9 ((Xp.op y22),(Xp.n y22),(Xp.name y22),(Xp.l y22)),(y23.q3++([dY y27])),([]:Y Sx)),(y23.1.1,y23.1.2.1,y23.1.p2,y23.1.p3,y23.1.p4,d.2.1.q5),y23.2.1,y23.p2)))))))))))) (jn (α:=Bool×BB×gU×Uv×Bool×Y ζ) (bg L.1 8 (aF x2.1 (kM (.str) ([[109],[110]]) (ba .i64 (L.1-8)) λz29=>(av (eD (z29,d.2.1,d.p2,d.q4)) λy30=>(bt (((d.p4==y30.p3)&&M)&&ax (ah d.q5) (ah y30.q4)&&M) (aB ((!y30.1),y30.2.1,y30.p2,d.p3,y30.q3))))) (aB (aa,d.2))) (bg L.1 9 (aF x2.1 (kM (.str) ([[109],[110]]) (ba .i64 (L.1-8)) λz31=>(av (eD (z31,d.2.1,d.p2,d.q4)) λy32=>(bt (((d.p4==y32.p3)&&M)&&ax (ah d.q5) (ah y32.q4)&&M) (aB ((!y32.1),y32.2.1,y32.p2,d.p3,y32.q3))))) (aB (aa,d.2))) (aB (aa,d.2)))) λq=>(aF q.1 (kM (.str) ([[109],[110]]) (ba .i64 (L.1-8)) λz33=>(av (rmade_maker_block ((z33,(ba .i64 (x.1-1))),q.2.1,q.p2,q.q4)) λy34=>(bt (((q.p4==q.p4)&&M)&&ax (ah q.q5) (ah q.q5)&&M) (Z (oA (4,0,z33,[],([]:Y Xp),d9 (0,0,[],([]:Y Xp)),y34.1,([]:Y Sx)),y34.2))))) (jn (α:=Bool×BB×gU×Uv×Bool×Y ζ) (bg L.1 10 (aF x2.1 (av (eD ([114],q.2.1,q.p2,q.q4)) λy36=>(bt (((q.p4==y36.p3)&&M)&&ax (ah q.q5) (ah y36.q4)&&M) (aB ((!y36.1),y36.2.1,y36.p2,q.p3,y36.q3)))) (aB (aa,q.2))) (bg L.1 11 (aF x2.1 (av (eD ([114],q.2.1,q.p2,q.q4)) λy37=>(bt (((q.p4==y37.p3)&&M)&&ax (ah q.q5) (ah y37.q4)&&M) (aB ((!y37.1),y37.2.1,y37.p2,q.p3,y37.q3)))) (aB (aa,q.2))) (aB (aa,q.2)))) λx35=>(aF x35.1 (av (rmade_maker_block (([114],(ba .i64 (x.1-1))),x35.2.1,x35.p2,x35.q4)) λy38=>(bt (((x35.p4==x35.p4)&&M)&&ax (ah x35.q5) (ah x35.q5)&&M) (Z (oA ((ba .i64 ((ba .i64 (L.1-10))+5)),0,[114],[],([]:Y Xp),d9 (0,0,[],([]:Y Xp)),y38.1,([]:Y Sx)),y38.2)))) (jn (bg L.1 12 (aB (x2.1,x35.2)) (aB (aa,x35.2))) λA=>(aF A.1 (av (bE (2,A.p2)) λy40=>(av (rmade_maker_stmts ((0,(ba .i64 (1+y40.1))),(A.2.1.1,A.2.1.2.1,A.2.1.p2,M,A.2.1.q4),y40.2,A.q4)) λy41=>(bt (((A.p4==A.p4)&&M)&&ax (ah A.q5) (ah A.q5)&&M) (Z (oA (7,0,[],[],([]:Y Xp),d9 (0,0,[],([]:Y Xp)),y41.q3,([]:Y Sx)),(y41.1.1,y41.1.2.1,y41.1.p2,aa,y41.1.q4),y41.2.1,y41.p2))))) (jn (bg L.1 13 (aF x2.1 (aB ((!A.2.1.p4),A.2)) (aB (aa,A.2))) (aB (aa,A.2))) λs=>(aF s.1 (av (rmade_maker_stmts (((ba .i64 (x.1-1)),2),(s.2.1.1,s.2.1.2.1,s.2.1.p2,s.2.1.p3,M,s.2.1.q5),s.p2,s.q4)) λy43=>(bt (((s.p4==s.p4)&&M)&&ax (ah s.q5) (ah s.q5)&&M) (Z (oA (8,0,[],[],([]:Y Xp),d9 (0,0,[],([]:Y Xp)),y43.q3,([]:Y Sx)),(y43.1.1,y43.1.2.1,y43.1.p2,y43.1.p3,aa,y43.1.q5),y43.2.1,y43.p2)))) (jn (α:=Bool×BB×gU×Uv×Bool×Y ζ) (bg L.1 14 (aF x2.1 (aF (!s.2.1.p4) (av (eD ([109],s.2.1,s.p2,s.q4)) λy45=>(bt (((s.p4==y45.p3)&&M)&&ax (ah s.q5) (ah y45.q4)&&M) (aB ((!y45.1),y45.2.1,y45.p2,s.p3,y45.q3)))) (aB (aa,s.2))) (aB (aa,s.2))) (aB (aa,s.2))) λF=>(aF F.1 (av (pn ([120])) λy46=>(av (jt ([97],y46)) λy47=>(Z (oA (4,0,[109],[],([]:Y Xp),d9 (0,0,[],([]:Y Xp)),[oA (9,0,[99],[],([]:Y Xp),d9 (0,0,[],([]:Y Xp)),([]:Y Sx),([]:Y Sx)),dY y47],([]:Y Sx)),F.2.1,F.p2,F.q4)))) (jn (α:=Bool×BB×gU×Uv×Bool×Y ζ) (bg L.1 15 (aF x2.1 (av (eD ([109],F.2.1,F.p2,F.q4)) λy49=>(bt (((F.p4==y49.p3)&&M)&&ax (ah F.q5) (ah y49.q4)&&M) (aB ((!y49.1),y49.2.1,y49.p2,F.p3,y49.q3)))) (aB (aa,F.2))) (aB (aa,F.2))) λx48=>(aF x48.1 (av (bE (2,x48.p2)) λy50=>(Z (oA (4,0,[109],[],([]:Y Xp),d9 (0,0,[],([]:Y Xp)),[oA ((ba .i64 (10+y50.1)),0,[99],[],([]:Y Xp),d9 (0,0,[],([]:Y Xp)),([]:Y Sx),([]:Y Sx))],([]:Y Sx)),x48.2.1,y50.2,x48.q4))) (jn (bg L.1 16 (aF (!x48.2.1.p3) (aF (!x48.2.1.q5) (aB ((!x48.2.1.p2),x48.2)) (aB (aa,x48.2))) (aB (aa,x48.2))) (aB (aa,x48.2))) λD=>(aF D.1 (av (eV (1,(D.2.1.1,D.2.1.2.1,M,D.2.1.q3),D.p2,D.q4)) λy52=>(bt (((D.p4==y52.p3)&&M)&&ax (ah D.q5) (ah y52.q4)&&M) (Z (oA (14,0,[102],[],([]:Y Xp),d9 ((Xp.op y52.1),(Xp.n y52.1),(Xp.name y52.1),(Xp.l y52.1)),([]:Y Sx),([]:Y Sx)),y52.2)))) (jn (α:=Bool×BB×gU×Uv×Bool×Y ζ) (bg L.1 17 (aF (!D.2.1.p3) (av (bE (2,D.p2)) λy54=>(aB ((decide ((y54.1:Int)=1)),D.2.1,y54.2,D.q3))) (aB (aa,D.2))) (aB (aa,D.2))) λx53=>(aF x53.1 (Z (oA (15,0,[97],[102],([]:Y Xp),d9 (0,0,[],([]:Y Xp)),([]:Y Sx),([]:Y Sx)),x53.2.1,x53.p2,x53.q4)) (av (eV (1,x53.2.1,x53.p2,x53.q4)) λy55=>(bt (((x53.p4==y55.p3)&&M)&&ax (ah x53.q5) (ah y55.q4)&&M) (av (jt ([120],y55.1)) λy56=>(Z (dY y56,y55.2))))))))))))))))))))))))))))))
def mH (rmade_maker_stmts:ad2->J Xg) (rmade_maker_stmt:Xh->J ZZ) (rmade_maker_block:ad1->J Z0) (x:jD×BB×gU×Bool×Y ζ):J Z0:=
 (bt (be (ah x.q4+ah ([x.1.1])) 16) (av (bE (2,x.p2)) λq=>(av (rmade_maker_stmts ((x.1.2,(ba .i64 (1+q.1))),x.2.1,q.2,x.p3,(x.q4++([x.1.1])))) λd=>(bt (((x.p3==x.p3)&&M)&&ax (ah (x.q4++([x.1.1]))) (ah (x.q4++([x.1.1])))&&M) (bt (cO 0 (ba .i64 ((aY d.p2.2)-1))&&fE (ba .i64 ((aY d.p2.2)-1)) (ah d.p2.2)) (Z (d.q3,d.1,d.2.1,aa,(dj (aO (ba .i64 ((aY d.p2.2)-1))) d.p2.2))))))))
mutual
def dF:Nat->ad2->J Xg
 |0,_=>U
 |n+1,x=>mG (dF n) (eo n) (dX n) x
def eo:Nat->Xh->J ZZ
 |0,_=>U
 |n+1,x=>nP (dF n) (eo n) (dX n) x
def dX:Nat->ad1->J Z0
 |0,_=>U
 |n+1,x=>mH (dF n) (eo n) (dX n) x
end
def qb (x:Γ×BB×gU×Bool×Y ζ):J Xg:=dF fuel x
def oy (x:η):J (v7×Y vZ):=
 (av (rV ()) λy1=>(av (bE (3,x,0)) λL=>(iter (σ:=Int×BB×v7×di×gU×Rx×Y vZ) (λs=>(bA s.1 (ba .i64 (2+L.1)) (kM (.str) s.p3 s.1 λz4=>(jn (α:=BB×v7×di×jD×gU×Rx×(Y vZ)×di×Y Sx) (bg s.1 0 (iter (σ:=Int×BB×v7×di×jD×gU×Rx×(Y vZ)×di×Y Sx) (λA=>(bA A.1 (ba .i64 (2+L.1)) (kM (.str) A.p3 A.1 λz7=>(bt (be (ah A.q9+ah ([oA (12,0,z7,[],([]:Y Xp),d9 (0,0,[],([]:Y Xp)),([]:Y Sx),([]:Y Sx))])) 176) (cM ((cw A.1),A.2.1,A.p2,A.p3,A.p4,A.p5,A.p6,A.p7,A.p8,(A.q9++([oA (12,0,z7,[],([]:Y Xp),d9 (0,0,[],([]:Y Xp)),([]:Y Sx),([]:Y Sx))])))))) (aB (bZ A.2)))) (1,(s.1,s.2.1.2),s.p2,s.p3,(z4,0),s.p4,s.p5,s.q6,[[97],[98]],([]:Y Sx))) (aB ((s.1,s.2.1.2),s.p2,s.p3,(z4,0),s.p4,s.p5,s.q6,[[97],[98]],([]:Y Sx)))) λz=>(av (bE (3,z.p4)) λy8=>(av (qb ((2,(ba .i64 (1+y8.1))),z.1,y8.2,z.p5)) λD=>(bt (((z.p5.1==z.p5.1)&&M)&&ax (ah z.p5.2) (ah z.p5.2)&&M) (bt (be (ah z.q8+ah D.q3) 176) (jn (α:=BB×v7×di×jD×gU×Rx×(Y vZ)×di×Y Sx) (jn (α:=Bool×BB×v7×di×jD×gU×Rx×(Y vZ)×di×Y Sx) (bg s.1 0 (av (bE (3,D.2.1)) λI=>(aB ((decide ((I.1:Int)=2)),D.1,z.2.1,z.p2,z.p3,I.2,D.p2,z.p6,z.p7,(z.q8++D.q3)))) (aB (aa,D.1,z.2.1,z.p2,z.p3,D.2.1,D.p2,z.p6,z.p7,(z.q8++D.q3)))) λd=>(aF d.1 (kM (.str) d.p3 1 λF=>(bt (be (ah d.q9+ah ([oA (13,0,F,[],([]:Y Xp),d9 (0,0,[],([]:Y Xp)),([]:Y Sx),([]:Y Sx))])) 176) (aB (d.2.1,d.p2,d.p3,d.p4,d.p5,d.p6,d.p7,d.p8,(d.q9++([oA (13,0,F,[],([]:Y Xp),d9 (0,0,[],([]:Y Xp)),([]:Y Sx),([]:Y Sx))])))))) (aB d.2))) λq=>(bt (be (ah q.p6+ah ([(q.p3.1,q.p3.2,q.q7)])) 72) (cM ((cw s.1),q.1,q.2.1,q.p2,q.p4,q.p5,(q.p6++([(q.p3.1,q.p3.2,q.q7)])))))))))))) (av (av (km (s.p2,s.q6)) λy14=>(iT y14.1 0 (av (rV ()) λy15=>(av (qW 1) λy16=>(av (jt ([120],y16)) λy17=>(Z (y15,[([109,97,105,110],0,[[97],[98]],[dY y17])]))))) (Z (s.p2,s.q6)))) λr=>Z (bZ r)))) (0,(0,20,aa,aa,aa,aa),y1,[[109,97,105,110],[116,49],[116,50],[116,51]],L.2,(M,([]:Y ζ)),([]:Y vZ)))))
def wB (x:η):J BA:=
 (av (oy x) λq=>(av (p_ q) λd=>(Z d.1)))
def rW (x:η×η):J (fc×Y jY):=
 (av (wB x.1) λs=>(av (oz x.2) λq=>(av (ye (s,q)) λd=>(Z d.1))))
def nC (x:Unit):J fc:=
 (iter (σ:=Int×ny×my×(Y jD)×di×di×Y ν) (λx1=>(bA x1.1 (aT (ah ([[109,97,105,110],[116,49],[116,50],[116,51]]))) (iter (σ:=Int×ny×my×(Y jD)×di×di×Y ν) (λx2=>(bA x2.1 6 (bt (be (ah x2.q6+ah ([(x1.1,x2.1,(ba .i64 ((ba .i64 ((ba .i64 (10*x1.1))+x2.1))+1)))])) 24) (cM ((cw x2.1),x2.2.1,x2.p2,x2.p3,x2.p4,x2.p5,(x2.q6++([(x1.1,x2.1,(ba .i64 ((ba .i64 ((ba .i64 (10*x1.1))+x2.1))+1)))]))))) (aB (pM ((cw x1.1),x2.2))))) (0,x1.2)) (aB x1.2))) (0,[([120],0,0,aa,0),([121],0,0,aa,1),([118],0,0,M,0),([113],0,2,aa,0),([113],1,2,aa,0)],[([109],aa),([110],aa),([114],M)],[([99],0)],[[102]],[[109,97,105,110],[116,49],[116,50],[116,51]],([]:Y ν)))
def kU (x:pJ×(η)×(η)×η):J η:=
 (iter (σ:=Int×η) (λx1=>(bA x1.1 (aY x.1.q3) (jn (α:=η) (bJ gH x.1.q3 x1.1 λd=>(bg d.1 3 (bt (be (ah x1.2+ah ([x1.1])) 8) (aB (x1.2++([x1.1])))) (aB x1.2))) λx2=>(cM ((cw x1.1),x2))) (aB x1.2))) (0,([]:η)))
def sO (x:Unit):J η:=
 (Z ([3,3,3,3,3,4,4,4,4,4,5,5,5,6,6,6,7,7,7,8,9,10,11,12,13,14,14,15,16,16,17,17,18,18,19,20,1,1,2,21,22,23,23]))
def oo (x:Γ×(η)×Int):J (Int×(η)×Int):=
 (jn (bg x.1.1 3 (aB ((decide ((x.1.1:Int)=3)),x.2)) (aB ((decide ((x.1.1:Int)=4)),x.2))) λx1=>(aF x1.1 (av (bE (8,x1.2)) λD=>(kM aL ([0,0,0,1,1,2,3,4]) D.1 λF=>(Z (F,D.2)))) (jn (bg x.1.1 6 (aB ((decide ((x.1.1:Int)=6)),x1.2)) (aB ((decide ((x.1.1:Int)=7)),x1.2))) λq=>(aF q.1 (av (bE (2,q.2)) λI=>(Z I)) (jn (bg x.1.1 8 (aB ((decide ((x.1.1:Int)=8)),q.2)) (bg x.1.1 9 (aB ((decide ((x.1.1:Int)=9)),q.2)) (bg x.1.1 10 (aB ((decide ((x.1.1:Int)=10)),q.2)) (aB ((decide ((x.1.1:Int)=11)),q.2))))) λd=>(aF d.1 (Z (2,d.2)) (jn (bg x.1.1 16 (aB ((decide ((x.1.1:Int)=16)),d.2)) (bg x.1.1 17 (aB ((decide ((x.1.1:Int)=17)),d.2)) (bg x.1.1 18 (aB ((decide ((x.1.1:Int)=18)),d.2)) (bg x.1.1 19 (aB ((decide ((x.1.1:Int)=19)),d.2)) (bg x.1.1 22 (aB ((decide ((x.1.1:Int)=22)),d.2)) (aB ((decide ((x.1.1:Int)=23)),d.2))))))) λs=>(aF s.1 (Z (0,s.2)) (jn (bg x.1.1 20 (aB ((decide ((x.1.1:Int)=20)),s.2)) (aB ((decide ((x.1.1:Int)=21)),s.2))) λz=>(aF z.1 (av (bE (3,z.2)) λA=>(Z ((bu (ba .i64 ((cw x.1.2)+A.1)) 4),A.2))) (Z ((-1),z.2))))))))))))
def pU (x:(fV×Int×Int)×(η)×Int):J (Int×(η)×Int):=
 (bg x.1.2.1 3 (bJ aL x.1.1.2.1 x.1.2.2 λD=>(Z (D,x.2))) (bg x.1.2.1 23 (bJ aL x.1.1.p2 0 λA=>(Z (A,x.2))) (jn (bg x.1.2.1 4 (aB ((decide ((x.1.2.1:Int)=4)),x.2,x.1.1)) (aB ((decide ((x.1.2.1:Int)=22)),x.2,x.1.1))) λd=>(aF d.1 (av (bE (3,d.2.1)) λL=>(Z L)) (bg x.1.2.1 5 (av (bE (2,d.2.1)) λI=>(Z I)) (bg x.1.2.1 18 (av (kU d.2.2) λq=>(bA 0 (aY q) (av (bE ((aY q),d.2.1)) λs=>(bJ aL q s.1 λz=>(Z (z,s.2)))) (Z ((-1),d.2.1)))) (bg x.1.2.1 19 (av (kU d.2.2) λF=>(Z ((aY F),d.2.1))) (Z (0,d.2.1)))))))))
def gz (x:gU×η):J (η×gU×η):=
 (iter (σ:=Int×gU×(η)×η) (λx1=>(bA x1.1 (aY x.2) (jn (α:=gU×(η)×η) (kM aL x1.p2 x1.1 λq=>(jn (α:=Bool×gU×(η)×η) (ji (aY x1.p2) (ba .i64 (x1.1+3)) (av (bE (2,x1.2.1)) λs=>(aB ((decide ((s.1:Int)=1)),s.2,x1.2.2))) (aB (aa,x1.2))) λd=>(aF d.1 (bt (be (ah d.q3+ah ([q])) 8) (aB (d.2.1,d.p2,(d.q3++([q]))))) (aB d.2)))) λx2=>(cM ((cw x1.1),x2))) (aB (x1.q3,x1.2.1,x1.p2)))) (0,x.1,x.2,([]:η)))
def pV (x:(fV×ny×my×(Y jD)×di×di×Y ν)×gU×(η)×(η)×(η)×η):J (jY×gU×(η)×(η)×(η)×η):=
 (av (bE (4,x.2.1)) λz=>(av (sO ()) λy2=>(av (bE ((aY y2),z.2)) λy3=>(bJ aL y2 y3.1 λz4=>(av (bE (6,y3.2)) λy5=>(jn (α:=gU×(η)×(η)×(η)×(η)×fV×fc×C'×Int×Int×Int×Int×Int) (jn (α:=Bool×gU×(η)×(η)×(η)×(η)×fV×fc×C'×Int×Int×Int×Int×Int) (bg z4 1 (aB (M,y5.2,x.p2,x.p3,x.p4,x.q5,x.1.1,x.1.2,(0,0,0,0,0),z.1,z4,0,0,(ba .i64 ((ba .i64 (z.1*6))+y5.1)))) (aB ((decide ((z4:Int)=2)),y5.2,x.p2,x.p3,x.p4,x.q5,x.1.1,x.1.2,(0,0,0,0,0),z.1,z4,0,0,(ba .i64 ((ba .i64 (z.1*6))+y5.1))))) λA=>(aF A.1 (aB (A.2.1,A.p2,A.p3,A.p4,A.p5,A.p6,A.p7,A.p8,A.p9,A.p10,A.p11,A.p12,(-1))) (aB A.2))) λs=>(av (oo ((s.p9,z.1),s.1)) λy8=>(av (pU ((s.p5,s.p9,y8.1),y8.2)) λy9=>(jn (α:=gU×(η)×(η)×(η)×(η)×C'×Int×Int×Int×Int×Int×η) (jn (bg s.p9 5 (aB (M,y9.2,s.2.1,s.p2,s.p3,s.p4,s.p7,s.p8,s.p9,y8.1,y9.1,s.q12)) (bg s.p9 3 (bJ kJ s.p6.1 y8.1 λz12=>(aB ((fE 0 z12.2.2.1),y9.2,s.2.1,s.p2,s.p3,s.p4,s.p7,s.p8,s.p9,y8.1,y9.1,s.q12))) (bg s.p9 4 (bJ kJ s.p6.1 y8.1 λz13=>(aB ((fE 0 z13.2.2.1),y9.2,s.2.1,s.p2,s.p3,s.p4,s.p7,s.p8,s.p9,y8.1,y9.1,s.q12))) (aB (aa,y9.2,s.2.1,s.p2,s.p3,s.p4,s.p7,s.p8,s.p9,y8.1,y9.1,s.q12))))) λq=>(aF q.1 (bg z.1 0 (av (gz (q.2.1,q.p2)) λy14=>(bt (ax (ah q.p2) (ah y14.2.2)&&M) (aB (y14.2.1,y14.2.2,q.p3,q.p4,q.p5,q.p6,q.p7,q.p8,q.p9,q.p10,q.q11,y14.1)))) (bg z.1 1 (av (gz (q.2.1,q.p3)) λy15=>(bt (ax (ah q.p3) (ah y15.2.2)&&M) (aB (y15.2.1,q.p2,y15.2.2,q.p4,q.p5,q.p6,q.p7,q.p8,q.p9,q.p10,q.q11,y15.1)))) (bg z.1 2 (av (gz (q.2.1,q.p4)) λy16=>(bt (ax (ah q.p4) (ah y16.2.2)&&M) (aB (y16.2.1,q.p2,q.p3,y16.2.2,q.p5,q.p6,q.p7,q.p8,q.p9,q.p10,q.q11,y16.1)))) (bg z.1 3 (av (gz (q.2.1,q.p5)) λy17=>(bt (ax (ah q.p5) (ah y17.2.2)&&M) (aB (y17.2.1,q.p2,q.p3,q.p4,y17.2.2,q.p6,q.p7,q.p8,q.p9,q.p10,q.q11,y17.1)))) U)))) (aB (q.2.1,q.p2,q.p3,q.p4,q.p5,q.p6,q.p7,q.p8,q.p9,q.p10,q.q11,([]:η))))) λx10=>(jn (α:=gU×(η)×(η)×(η)×(η)×C'×Int×Int×Int×Int×Int×(η)×η) (jn (bg x10.p7 4 (aB (M,x10)) (aB ((decide ((x10.p7:Int)=22)),x10))) λd=>(aF d.1 (bg z.1 0 (av (gz (d.2.1,d.p2)) λy20=>(bt (ax (ah d.p2) (ah y20.2.2)&&M) (aB (y20.2.1,y20.2.2,d.p3,d.p4,d.p5,d.p6,d.p7,d.p8,d.p9,d.p10,d.p11,d.q12,y20.1)))) (bg z.1 1 (av (gz (d.2.1,d.p3)) λL=>(bt (ax (ah d.p3) (ah L.2.2)&&M) (aB (L.2.1,d.p2,L.2.2,d.p4,d.p5,d.p6,d.p7,d.p8,d.p9,d.p10,d.p11,d.q12,L.1)))) (bg z.1 2 (av (gz (d.2.1,d.p4)) λI=>(bt (ax (ah d.p4) (ah I.2.2)&&M) (aB (I.2.1,d.p2,d.p3,I.2.2,d.p5,d.p6,d.p7,d.p8,d.p9,d.p10,d.p11,d.q12,I.1)))) (bg z.1 3 (av (gz (d.2.1,d.p5)) λF=>(bt (ax (ah d.p5) (ah F.2.2)&&M) (aB (F.2.1,d.p2,d.p3,d.p4,F.2.2,d.p6,d.p7,d.p8,d.p9,d.p10,d.p11,d.q12,F.1)))) U)))) (aB (d.2.1,d.p2,d.p3,d.p4,d.p5,d.p6,d.p7,d.p8,d.p9,d.p10,d.p11,d.q12,([]:η))))) λD=>(Z (D.q6,D.1,D.2.1,D.p2,D.p3,D.p4))))))))))))
def rQ (x:(fV×fc×Int×Bool)×(η)×Int):J ((Y jY)×(η)×Int):=
 (bt (cO 0 (aY x.1.2.1.p4)&&cO (aY x.1.2.1.p4) (aY x.1.2.1.p4)&&be (aO (aY x.1.2.1.p4)) 24&&decide (((aY x.1.2.1.p4):Int)=4)) (jn (α:=gU×fV×fc×(η)×(η)×(η)×η) (bA 0 (aT 4) (jn (α:=gU×fV×fc×(η)×(η)×(η)×η) (jn (α:=Bool×gU×fV×fc×(η)×(η)×(η)×η) (aF x.1.q3 (bJ aL x.1.1.q3 0 λz4=>(bA 1 z4 (av (bE (3,x.2)) λy5=>(aB ((decide ((y5.1:Int)=2)),y5.2,x.1.1,x.1.2.1,([]:η),([]:η),([]:η),([]:η)))) (aB (aa,x.2,x.1.1,x.1.2.1,([]:η),([]:η),([]:η),([]:η))))) (aB (aa,x.2,x.1.1,x.1.2.1,([]:η),([]:η),([]:η),([]:η)))) λx3=>(aF x3.1 (bt (be (ah x3.p4+ah ([1])) 8) (aB (x3.2.1,x3.p2,x3.p3,(x3.p4++([1])),x3.q5))) (aB x3.2))) λx2=>(bA 1 (aT 4) (jn (α:=gU×fV×fc×(η)×(η)×(η)×η) (jn (α:=Bool×gU×fV×fc×(η)×(η)×(η)×η) (aF x.1.q3 (bJ aL x2.2.1.q3 1 λz8=>(bA 1 z8 (av (bE (3,x2.1)) λy9=>(aB ((decide ((y9.1:Int)=2)),y9.2,x2.2))) (aB (aa,x2)))) (aB (aa,x2))) λx7=>(aF x7.1 (bt (be (ah x7.p5+ah ([1])) 8) (aB (x7.2.1,x7.p2,x7.p3,x7.p4,(x7.p5++([1])),x7.q6))) (aB x7.2))) λx6=>(bA 2 (aT 4) (jn (α:=gU×fV×fc×(η)×(η)×(η)×η) (jn (α:=Bool×gU×fV×fc×(η)×(η)×(η)×η) (aF x.1.q3 (bJ aL x6.2.1.q3 2 λz12=>(bA 1 z12 (av (bE (3,x6.1)) λy13=>(aB ((decide ((y13.1:Int)=2)),y13.2,x6.2))) (aB (aa,x6)))) (aB (aa,x6))) λA=>(aF A.1 (bt (be (ah A.p6+ah ([1])) 8) (aB (A.2.1,A.p2,A.p3,A.p4,A.p5,(A.p6++([1])),A.q7))) (aB A.2))) λI=>(bA 3 (aT 4) (jn (α:=gU×fV×fc×(η)×(η)×(η)×η) (jn (α:=Bool×gU×fV×fc×(η)×(η)×(η)×η) (aF x.1.q3 (bJ aL I.2.1.q3 3 λz16=>(bA 1 z16 (av (bE (3,I.1)) λy17=>(aB ((decide ((y17.1:Int)=2)),y17.2,I.2))) (aB (aa,I)))) (aB (aa,I))) λz=>(aF z.1 (bt (be (ah z.q7+ah ([1])) 8) (aB (z.2.1,z.p2,z.p3,z.p4,z.p5,z.p6,(z.q7++([1]))))) (aB z.2))) λF=>(bA 4 (aT 4) (jn (α:=gU×fV×fc×(η)×(η)×(η)×η) (jn (α:=Bool×gU×fV×fc×(η)×(η)×(η)×η) (aF x.1.q3 (bJ aL F.2.1.q3 4 λz20=>(bA 1 z20 (av (bE (3,F.1)) λy21=>(aB ((decide ((y21.1:Int)=2)),y21.2,F.2))) (aB (aa,F)))) (aB (aa,F))) λx19=>(aF x19.1 U (aB x19.2))) λx18=>U) (aB F))) (aB I))) (aB x6))) (aB x2))) (aB (x.2,x.1.1,x.1.2.1,([]:η),([]:η),([]:η),([]:η)))) λx1=>(iter (σ:=gU×fV×fc×(Y jY)×(η)×(η)×(η)×η) (λL=>(jn (bA (aY L.p3) x.1.p2 (aB ((fE L.1.2 (aY L.1.1)),L)) (aB (aa,L))) λq=>(aF q.1 (jn (α:=gU×fV×fc×(Y jY)×(η)×(η)×(η)×η) (av (pV ((q.p2,q.p3),q.2.1,q.q5)) λs=>(bt (ax (ah q.q8) (ah s.q5)&&(ax (ah q.p7) (ah s.p4)&&(ax (ah q.p6) (ah s.p3)&&(ax (ah q.p5) (ah s.p2)&&M)))) (av (nD (q.p3,q.p2,s.1)) λy26=>(aF (!y26.2) (aB (s.2.1,q.p2,q.p3,q.p4,s.2.2)) (jn (α:=gU×fV×fc×(Y jY)×jY×fV×(η)×(η)×(η)×η) (jn (bg s.1.2.1 3 (aB (M,s.2.1,q.p2,q.p3,q.p4,s.1,y26.1,s.2.2)) (aB ((decide ((s.1.2.1:Int)=23)),s.2.1,q.p2,q.p3,q.p4,s.1,y26.1,s.2.2))) λd=>(aF d.1 (bg d.p5.1 0 (bJ aL d.p2.q3 0 λz29=>(bt (be (ah d.p7+ah ([z29])) 8) (aB (d.2.1,d.p2,d.p3,d.p4,(0,d.p5.2),d.p6,(d.p7++([z29])),d.q8)))) (bg d.p5.1 1 (bJ aL d.p2.q3 1 λz30=>(bt (be (ah d.p8+ah ([z30])) 8) (aB (d.2.1,d.p2,d.p3,d.p4,(1,d.p5.2),d.p6,d.p7,(d.p8++([z30])),d.q9)))) (bg d.p5.1 2 (bJ aL d.p2.q3 2 λz31=>(bt (be (ah d.p9+ah ([z31])) 8) (aB (d.2.1,d.p2,d.p3,d.p4,(2,d.p5.2),d.p6,d.p7,d.p8,(d.p9++([z31])),d.q10)))) (bg d.p5.1 3 (bJ aL d.p2.q3 3 λz32=>(bt (be (ah d.q10+ah ([z32])) 8) (aB (d.2.1,d.p2,d.p3,d.p4,(3,d.p5.2),d.p6,d.p7,d.p8,d.p9,(d.q10++([z32])))))) U)))) (aB d.2))) λD=>(bt (be (ah D.p3+ah ([D.p4])) 88) (aB (D.1,D.p5,D.p2,(D.p3++([D.p4])),D.q6)))))))) λx24=>(cM x24)) (aB (q.p4,q.2.1))))) (x1.1,x1.2.1,x1.p2,([]:Y jY),x1.q3))))
def pW (x:η×Int):J (fc×Y jY):=
 (jn (bA 600 (aY x.1) (bt (cO 0 600&&cO 600 (ah x.1)) (aB (dj (aO 600) x.1))) (aB x.1)) λx1=>(av (nC ()) λL=>(av (mU L) λy3=>(av (bE (3,x1,0)) λI=>(iter (σ:=Int×gU×fc×fV×Y jY) (λq=>(ji q.1 (ba .i64 (1+I.1)) (bt (be (ah q.q4+ah ([(0,20,q.1,0,0,([]:η),([]:η)),(q.1,1,(-1),0,(-1),([]:η),([]:η))])) 88) (cM ((cw q.1),q.2.1,q.p2,q.p3,(q.q4++([(0,20,q.1,0,0,([]:η),([]:η)),(q.1,1,(-1),0,(-1),([]:η),([]:η))]))))) (av (iter (σ:=Int×gU×fc×fV×(Y jY)×Y jY) (λd=>(bA d.1 (aY q.q4) (jn (α:=gU×fc×fV×(Y jY)×Y jY) (kM gV d.p4 d.1 λz=>(av (nD (d.p2,d.p3,z)) λF=>(aF F.2 (bt (be (ah d.q5+ah ([z])) 88) (aB (d.2.1,d.p2,F.1,d.p4,(d.q5++([z]))))) (aB d.2)))) λx7=>(cM ((cw d.1),x7))) (av (av (rQ ((d.p3,d.p2,(F1 (gJ x.2 0) 60),aa),d.2.1)) λs=>(bt (be (ah d.q5+ah s.1) 88) (av (mV (d.p2,(d.q5++s.1))) λD=>(iT D.2 0 (av (nC ()) λA=>(Z (A,([]:Y jY)))) (Z (d.p2,(d.q5++s.1))))))) λr=>Z (bZ r)))) (0,q.2.1,q.p2,q.p3,q.q4,([]:Y jY))) λr=>Z (bZ r)))) (1,I.2,L,y3,[(0,1,(-1),0,(-1),([]:η),([]:η))]))))))
def kV (x:(η×(η)×η)×Int):J (fc×Y jY):=
 (bA 0 (aY x.1.2.2) (av (pW (x.1.2.2,x.2)) λq=>(Z q)) (bt (cO 0 (F1 (aY x.1.2.1) x.2)&&cO (F1 (aY x.1.2.1) x.2) (ah x.1.2.1)) (av (rW (x.1.1,(dj (aO (F1 (aY x.1.2.1) x.2)) x.1.2.1))) λd=>(Z d))))
end
end Go.Proofs.YtiaemgcbndhkfaaGreatDoor.AI
