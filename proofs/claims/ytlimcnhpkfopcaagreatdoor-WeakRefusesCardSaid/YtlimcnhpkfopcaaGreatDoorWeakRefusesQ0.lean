/-
  Texts of the proof, part 1 of 6: what is used to prove the statement. No condition.
-/
import Derived.WalkKit
import Derived.Lib.Hide
import Derived.Deep.QuietTactic
namespace Prod
variable {A0 A1 A2 A3 A4 A5 A6 A7 A8 A9 A10 A11 A12 A13 A14 A15 A16 A17 A18 A19 A20 A21 A22 A23 A24:Type}
abbrev a (x:A0×A1×A2×A3):A2:=x.2.2.1
abbrev b (x:A0×A1×A2×A3×A4):A3:=x.2.2.2.1
abbrev e (x:A0×A1×A2×A3):A3:=x.2.2.2
abbrev c (x:A0×A1×A2×A3×A4×A5):A4:=x.2.2.2.2.1
abbrev g (x:A0×A1×A2×A3×A4):A4:=x.2.2.2.2
abbrev d (x:A0×A1×A2×A3×A4×A5×A6):A5:=x.2.2.2.2.2.1
abbrev h (x:A0×A1×A2×A3×A4×A5):A5:=x.2.2.2.2.2
abbrev f (x:A0×A1×A2×A3×A4×A5×A6×A7):A6:=x.2.2.2.2.2.2.1
abbrev m (x:A0×A1×A2×A3×A4×A5×A6):A6:=x.2.2.2.2.2.2
abbrev i (x:A0×A1×A2×A3×A4×A5×A6×A7×A8):A7:=x.2.2.2.2.2.2.2.1
abbrev p (x:A0×A1×A2×A3×A4×A5×A6×A7):A7:=x.2.2.2.2.2.2.2
abbrev k (x:A0×A1×A2×A3×A4×A5×A6×A7×A8×A9):A8:=x.2.2.2.2.2.2.2.2.1
abbrev q (x:A0×A1×A2×A3×A4×A5×A6×A7×A8):A8:=x.2.2.2.2.2.2.2.2
abbrev o (x:A0×A1×A2×A3×A4×A5×A6×A7×A8×A9×A10):A9:=x.2.2.2.2.2.2.2.2.2.1
abbrev t (x:A0×A1×A2×A3×A4×A5×A6×A7×A8×A9):A9:=x.2.2.2.2.2.2.2.2.2
abbrev l (x:A0×A1×A2×A3×A4×A5×A6×A7×A8×A9×A10×A11):A10:=x.2.2.2.2.2.2.2.2.2.2.1
abbrev y (x:A0×A1×A2×A3×A4×A5×A6×A7×A8×A9×A10):A10:=x.2.2.2.2.2.2.2.2.2.2
abbrev n (x:A0×A1×A2×A3×A4×A5×A6×A7×A8×A9×A10×A11×A12):A11:=x.2.2.2.2.2.2.2.2.2.2.2.1
abbrev w (x:A0×A1×A2×A3×A4×A5×A6×A7×A8×A9×A10×A11):A11:=x.2.2.2.2.2.2.2.2.2.2.2
abbrev j (x:A0×A1×A2×A3×A4×A5×A6×A7×A8×A9×A10×A11×A12×A13):A12:=x.2.2.2.2.2.2.2.2.2.2.2.2.1
abbrev z (x:A0×A1×A2×A3×A4×A5×A6×A7×A8×A9×A10×A11×A12):A12:=x.2.2.2.2.2.2.2.2.2.2.2.2
abbrev r (x:A0×A1×A2×A3×A4×A5×A6×A7×A8×A9×A10×A11×A12×A13×A14):A13:=x.2.2.2.2.2.2.2.2.2.2.2.2.2.1
abbrev D (x:A0×A1×A2×A3×A4×A5×A6×A7×A8×A9×A10×A11×A12×A13):A13:=x.2.2.2.2.2.2.2.2.2.2.2.2.2
abbrev u (x:A0×A1×A2×A3×A4×A5×A6×A7×A8×A9×A10×A11×A12×A13×A14×A15):A14:=x.2.2.2.2.2.2.2.2.2.2.2.2.2.2.1
abbrev s (x:A0×A1×A2×A3×A4×A5×A6×A7×A8×A9×A10×A11×A12×A13×A14):A14:=x.2.2.2.2.2.2.2.2.2.2.2.2.2.2
abbrev v (x:A0×A1×A2×A3×A4×A5×A6×A7×A8×A9×A10×A11×A12×A13×A14×A15×A16):A15:=x.2.2.2.2.2.2.2.2.2.2.2.2.2.2.2.1
abbrev F (x:A0×A1×A2×A3×A4×A5×A6×A7×A8×A9×A10×A11×A12×A13×A14×A15):A15:=x.2.2.2.2.2.2.2.2.2.2.2.2.2.2.2
abbrev B (x:A0×A1×A2×A3×A4×A5×A6×A7×A8×A9×A10×A11×A12×A13×A14×A15×A16×A17):A16:=x.2.2.2.2.2.2.2.2.2.2.2.2.2.2.2.2.1
abbrev E (x:A0×A1×A2×A3×A4×A5×A6×A7×A8×A9×A10×A11×A12×A13×A14×A15×A16):A16:=x.2.2.2.2.2.2.2.2.2.2.2.2.2.2.2.2
abbrev C (x:A0×A1×A2×A3×A4×A5×A6×A7×A8×A9×A10×A11×A12×A13×A14×A15×A16×A17×A18):A17:=x.2.2.2.2.2.2.2.2.2.2.2.2.2.2.2.2.2.1
abbrev L (x:A0×A1×A2×A3×A4×A5×A6×A7×A8×A9×A10×A11×A12×A13×A14×A15×A16×A17):A17:=x.2.2.2.2.2.2.2.2.2.2.2.2.2.2.2.2.2
abbrev G (x:A0×A1×A2×A3×A4×A5×A6×A7×A8×A9×A10×A11×A12×A13×A14×A15×A16×A17×A18×A19):A18:=x.2.2.2.2.2.2.2.2.2.2.2.2.2.2.2.2.2.2.1
abbrev H (x:A0×A1×A2×A3×A4×A5×A6×A7×A8×A9×A10×A11×A12×A13×A14×A15×A16×A17×A18×A19×A20):A19:=x.2.2.2.2.2.2.2.2.2.2.2.2.2.2.2.2.2.2.2.1
abbrev I (x:A0×A1×A2×A3×A4×A5×A6×A7×A8×A9×A10×A11×A12×A13×A14×A15×A16×A17×A18×A19×A20×A21):A20:=x.2.2.2.2.2.2.2.2.2.2.2.2.2.2.2.2.2.2.2.2.1
abbrev K (x:A0×A1×A2×A3×A4×A5×A6×A7×A8×A9×A10×A11×A12×A13×A14×A15×A16×A17×A18×A19×A20×A21):A21:=x.2.2.2.2.2.2.2.2.2.2.2.2.2.2.2.2.2.2.2.2.2
end Prod
namespace Go.Proofs.YtlimcnhpkfopcaaGreatDoor.AI
open Go.RowKit
set_option maxRecDepth 100000
set_option maxHeartbeats 4000000
set_option linter.unusedVariables false
set_option linter.unusedSimpArgs false
set_option linter.defProp false
open _root_.Array renaming length_toList→iV,replicate→uc
open _root_.Bool renaming true→J,false→aa
open _root_.Int renaming ofNat_eq_natCast→ak,ofNat→aR,toNat→aS,reduceNeg→aU,reduceEq→aX,toNat_natCast→bF,tmod→bJ,le_trans→fk,max_le→zX
open IntKind renaming wrap→pW
open _root_.List renaming length→l!,length→ah,replicate→aF,length_singleton→bP,length_cons→bX,take→dg,getElem?_cons_zero→dH,cons_append→iE,range→kY,foldl_cons→ub,take_succ_cons→xA,getElem_of_mem→xB,mem_or_eq_of_mem_set→O_
open _root_.Nat renaming beq→ax,testBit→aO,blt→dJ,ble→dK,min→jM,mul_assoc→Eh
open _root_.Option renaming some→Z,none→U,bind_some→aC,getD_some→nY
open _root_.Prod renaming a→aY,b→bi,c→bt,e→bN,d→b7,g→cW,h→cY,f→dc,m→dN,p→iX
open Region renaming binds→BT,ready→J2
open _root_.Sum renaming inr→cw,inl→wF
open Utf8 renaming decode→Az
open World renaming shape?→s8,cell?→QD
noncomputable section
abbrev Y:=@List
abbrev M:=@Option
abbrev aA:=@if_neg
abbrev aG:=@if_pos
abbrev bj:=@decide_eq_true
abbrev bl:=@of_decide_eq_true
abbrev bw:=@if_true
abbrev bB:=@decide_eq_true_eq
abbrev b_:=@decide_eq_false
abbrev cr:=@beq_self_eq_true
abbrev cF:=@beq_iff_eq
abbrev cN:=@absurd
abbrev c8:=@if_false
abbrev ey:=@congrArg
abbrev gy:=@or_false
abbrev kG:=@of_decide_eq_false
abbrev Z3:=@decide_false
abbrev aht:=@decide_true
abbrev af:=@Option.some.injEq
abbrev au:=@Bool.and_eq_true
abbrev av:=@Nat.eq_of_beq_eq_true
abbrev aB:=@List.getD_eq_getElem?_getD
abbrev aD:=@List.getElem?_eq_getElem
abbrev aE:=@List.mem_singleton
abbrev aI:=@Prod.mk.injEq
abbrev aZ:=@Nat.le_of_ble_eq_true
abbrev a8:=@List.getElem?_map
abbrev ba:=@Nat.ble_eq_true_of_le
abbrev bf:=@List.mem_of_getElem?
abbrev bm:=@List.mem_cons
abbrev bq:=@List.getElem?_eq_some_iff
abbrev bu:=@Nat.lt_or_ge
abbrev bz:=@List.getElem?_append_left
abbrev bA:=@Nat.testBit_or
abbrev bE:=@List.mem_append
abbrev bG:=@List.length_append
abbrev bK:=@List.getElem?_eq_none
abbrev bL:=@Array.getElem?_toList
abbrev bM:=@Bool.false_eq_true
abbrev bO:=@Nat.zero_add
abbrev bS:=@List.length_map
abbrev bU:=@List.getElem?_append_right
abbrev bW:=@List.take_length
abbrev b8:=@List.mem_cons_of_mem
abbrev ca:=@List.map_cons
abbrev cm:=@List.length_replicate
abbrev cq:=@List.mem_map
abbrev cv:=@List.length_take
abbrev cz:=@Array.getElem?_eq_some_iff
abbrev cA:=@Nat.le_refl
abbrev cH:=@Nat.mul_le_mul_right
abbrev cI:=@List.not_mem_nil
abbrev cP:=@List.getElem?_take
abbrev cU:=@Bool.not_eq_true'
abbrev c9:=@Nat.le_trans
abbrev c_:=@List.mem_cons_self
abbrev da:=@List.map_append
abbrev db:=@List.getElem?_set
abbrev dz:=@Option.map_eq_some_iff
abbrev dA:=@Nat.lt_of_lt_of_le
abbrev ef:=@List.length_eq_zero_iff
abbrev eg:=@Bool.true_and
abbrev eE:=@Int.le_refl
abbrev eM:=@Int.natCast_nonneg
abbrev eO:=@Bool.false_and
abbrev eP:=@Nat.beq_refl
abbrev fb:=@List.cons.injEq
abbrev fw:=@Bool.and_self
abbrev fE:=@Option.some.inj
abbrev fJ:=@List.getElem?_replicate
abbrev fQ:=@Nat.le_succ_of_le
abbrev fR:=@List.flatMap_cons
abbrev fW:=@List.mem_append_left
abbrev fY:=@List.getElem?_of_mem
abbrev gi:=@List.take_of_length_le
abbrev gJ:=@List.all_eq_true
abbrev gK:=@List.length_take_le
abbrev gW:=@List.foldl_append
abbrev gX:=@List.append_assoc
abbrev g9:=@Array.getD_eq_getD_getElem?
abbrev il:=@List.mem_of_mem_take
abbrev im:=@List.getElem?_drop
abbrev iq:=@List.map_take
abbrev iu:=@List.length_set
abbrev iC:=@Nat.succ_mul
abbrev iD:=@Nat.ne_of_beq_eq_false
abbrev iJ:=@Array.getElem?_eq_getElem
abbrev iY:=@List.take_append_of_le_length
abbrev jI:=@Option.isSome_iff_exists
abbrev jN:=@Bool.or_eq_true
abbrev kW:=@Nat.or_assoc
abbrev kX:=@List.size_toArray
abbrev kZ:=@List.map_map
abbrev ll:=@Nat.not_lt_zero
abbrev lL:=@List.mem_append_right
abbrev lM:=@List.getElem?_toArray
abbrev lW:=@List.length_drop
abbrev nA:=@List.map_congr_left
abbrev nZ:=@Nat.lt_succ_self
abbrev oQ:=@Nat.eq_zero_or_pos
abbrev oR:=@List.mem_range
abbrev pD:=@List.append_nil
abbrev pU:=@Nat.zero_le
abbrev pV:=@List.take_succ_eq_append_getElem
abbrev rj:=@Array.getElem?_setIfInBounds_ne
abbrev ru:=@List.getElem?_range
abbrev sv:=@List.mem_flatMap
abbrev sw:=@List.ext_getElem
abbrev sJ:=@List.drop_append_of_le_length
abbrev s_:=@Nat.sub_self
abbrev tb:=@List.drop_of_length_le
abbrev ud:=@Nat.add_assoc
abbrev uw:=@List.contains_iff_mem
abbrev uL:=@Nat.lt_succ_of_lt
abbrev wj:=@Nat.zero_or
abbrev wq:=@List.replicate_succ'
abbrev wv:=@Bool.and_eq_true_iff
abbrev wH:=@Nat.mul_comm
abbrev wJ:=@List.getElem_mem
abbrev wK:=@List.drop_append
abbrev xD:=@List.drop_succ_cons
abbrev Ds:=@List.length_filter_le
abbrev HC:=@Nat.min_eq_left
abbrev HE:=@List.mem_filter
abbrev QF:=@Nat.add_mul
abbrev η:=Y Int
abbrev ζ:=Y UInt8
abbrev θ:=Y Bool
abbrev ι:=Y Nat
abbrev ξ:=Y Value
abbrev ω:=Int×Int×Int×Int×Int×Int
abbrev υ:=Int×Int×Int×Int×Int
abbrev π:=Int×Int×Int×Int
abbrev ν:=Int×Int×Int
abbrev Γ:=Int×Int
inductive FV where
 |raw (v:Value)
 |sl (cells:List FV) (n:Nat)
 |H (cells:List FV) (off:Nat)
 |agg (cells:List FV)
inductive AV where
 |f (x:FV)
 |H (id off:Nat)
 |sl (id off n:Nat)
 |G (id sz n:Nat)
 |mp (id:Nat)
 |emp
 |qv
 |qd (cells:List FV) (n:Nat)
 |agg (cells:List AV)
 |qg (vs:List AV)
 |qy (g:FuncId) (cap:List AV)
def FV.isCell:FV->Bool
 |.raw v=>v.oneCell'
 |.sl _ _=>J
 |.H _ _=>J
 |.agg _=>aa
def AV.isCell:AV->Bool
 |.f x=>x.isCell
 |.H _ _=>J
 |.sl _ _ _=>J
 |.G _ _ _=>J
 |.mp _=>J
 |.emp=>J
 |.qy _ _=>J
 |_=>aa
inductive m6 (O:Nat->Prop) (w:World):FV->Value->Prop
 |raw (v:Value):m6 O w (.raw v) v
 |nil (a:Option Addr) (c:Nat) (hc:c<=maxLen):m6 O w (.sl [] 0) (.slice a 0 c)
 |sl (cells:List FV) (n c b off:Nat) (us:Nat->Value) (hn:n<=c) (hc:c<=maxLen) (hO:¬O b) (hb:b<w.heap.size)
   (hcl:∀x∈cells,x.isCell=J)
   (hu:∀j,j<l! cells->w.cell? ⟨b,off+j,U⟩=Z (us j)) (hr:∀(j:Nat) x,cells[j]? =Z x->m6 O w x (us j)):
   m6 O w (.sl cells n) (.slice (Z ⟨b,off,U⟩) n c)
 |H (cells:List FV) (o b off:Nat) (us:Nat->Value) (hO:¬O b) (hb:b<w.heap.size)
   (hcl:∀x∈cells,x.isCell=J)
   (hu:∀j,j<l! cells->w.cell? ⟨b,off+j,U⟩=Z (us j)) (hr:∀(j:Nat) x,cells[j]? =Z x->m6 O w x (us j)):
   m6 O w (.H cells o) (.pointer (Z ⟨b,off+o,U⟩))
 |agg (cells:List FV) (vs:ξ) (hl:l! vs=l! cells) (hcl:∀x∈cells,x.isCell=J)
   (hr:∀(j:Nat) x v,cells[j]? =Z x->vs[j]? =Z v->m6 O w x v):m6 O w (.agg cells) (.agg vs.toArray)
abbrev PM:=Nat->M Nat
inductive cu (φ:PM) (O:Nat->Prop) (w:World):AV->Value->Prop
 |f {x:FV} {v:Value} (h:m6 O w x v):cu φ O w (.f x) v
 |H {id off b:Nat} (h:φ id=Z b):cu φ O w (.H id off) (.pointer (Z ⟨b,off,U⟩))
 |sl {id off n c b:Nat} (h:φ id=Z b) (hn:n<=c) (hc:c<=maxLen):cu φ O w (.sl id off n) (.slice (Z ⟨b,off,U⟩) n c)
 |G {id sz n c b:Nat} (h:φ id=Z b) (hn:n<=c) (hc:c<=maxLen) (hs:∃ty,w.shape? b=Z (ty,c*sz)):
   cu φ O w (.G id sz n) (.slice (Z ⟨b,0,U⟩) n c)
 |emp {a:Option Addr}:cu φ O w .emp (.slice a 0 0)
 |qv {b:Bool}:cu φ O w .qv (.bool b)
 |qd {cells:List FV} {n:Nat} {a:Option Addr} (h:m6 O w (.sl cells n) (.slice a n n)):cu φ O w (.qd cells n) (.slice a n n)
 |mp {id b:Nat} (h:φ id=Z b):cu φ O w (.mp id) (.map (Z b))
 |agg {cells:List AV} {vs:ξ} (hl:l! vs=l! cells) (hcl:∀x∈cells,x.isCell=J)
   (hr:∀(j:Nat) x v,cells[j]? =Z x->vs[j]? =Z v->cu φ O w x v):cu φ O w (.agg cells) (.agg vs.toArray)
 |qg {cells:List AV} {vs:ξ} (hl:l! vs=l! cells)
   (hr:∀(j:Nat) x v,cells[j]? =Z x->vs[j]? =Z v->cu φ O w x v):cu φ O w (.qg cells) (.tuple vs.toArray)
 |qy {g:FuncId} {cells:List AV} {vs:ξ} (hl:l! vs=l! cells)
   (hr:∀(j:Nat) x v,cells[j]? =Z x->vs[j]? =Z v->cu φ O w x v):cu φ O w (.qy g cells) (.func (.func g) #[] vs.toArray)
structure Gf (O:Nat->Prop) (w w':World):Prop where
 os:w'.os=w.os
 tape:w'.tape=w.tape
 output:w'.output=w.output
 size:w.heap.size<=w'.heap.size
 jg:∀k,k<w.heap.size->¬O k->w'.heap[k]? =w.heap[k]?
 jd:∀k,k<w.heap.size->w'.shape? k=w.shape? k
def Gf.refl (O:Nat->Prop) (w:World):Gf O w w:=⟨rfl,rfl,rfl,cA _,λ_ _ _=>rfl,λ_ _=>rfl⟩
variable {w:World} {i:Nat}
def F2 {w':World} (h:w'.heap[i]? =w.heap[i]?) (o:Nat):w'.cell? ⟨i,o,U⟩=w.cell? ⟨i,o,U⟩:=by
 unfold QD;rw[h]
variable {O:Nat->Prop} {v:Value}
def m6.ext {O':Nat->Prop} {w':World} (he:Gf O w w') (ho:∀k,k<w.heap.size->O' k->O k) {x:FV} (h:m6 O w x v):m6 O' w' x v:=by
 induction h with
 |raw v=>exact .raw v
 |nil a c N=>exact .nil a c N
 |sl cells n c b off D hn N A d hcl F hr z=>
  exact .sl cells n c b off D hn N (λh=>A (ho b d h)) (dA d he.size) hcl (λj L=>by rw[F2 (he.jg b d A)];exact F j L) z
 |H cells o b off D A d hcl F hr z=>
  exact .H cells o b off D (λh=>A (ho b d h)) (dA d he.size) hcl (λj L=>by rw[F2 (he.jg b d A)];exact F j L) z
 |agg cells vs hl hcl hr z=>exact .agg cells vs hl hcl z
variable {V:PM} {y:AV}
def cu.ext {φ':PM} {O':Nat->Prop} {w':World} (A:∀i k,V i=Z k->φ' i=Z k) (he:Gf O w w') (N:∀k,k<w.heap.size->O' k->O k) (h:cu V O w y v):cu φ' O' w' y v:=by
 induction h with
 |f h=>exact .f (h.ext he N)
 |H h=>exact .H (A _ _ h)
 |sl h D F=>exact .sl (A _ _ h) D F
 |G h D F hsh=>
  obtain⟨ty,hty⟩:=hsh;refine .G (A _ _ h) D F ⟨ty,?_⟩;rw[he.jd _ ?_];exact hty;unfold s8 at hty;rcases bu _ w.heap.size with hlt|hge
  .exact hlt
  .rw[Array.getElem?_eq_none hge]at hty;cases hty
 |emp=>exact .emp
 |qv=>exact .qv
 |qd h=>exact .qd (h.ext he N)
 |mp h=>exact .mp (A _ _ h)
 |agg z hcl L d=>exact .agg z hcl d
 |qg z L d=>exact .qg z d
 |qy z L d=>exact .qy z d
inductive BC where
 |fz (l:List FV)
 |mx (l:List AV)
 |mp (es:List (Value×AV))
 |it (s:ByteArray) (pos:Nat)
def BC.get:BC->Nat->M AV
 |.fz l,j=>l[j]?.map AV.f
 |.mx l,j=>l[j]?
 |_,_=>U
def BC.len:BC->Nat
 |.fz l|.mx l=>l! l
 |_=>0
def BC.isCells:BC->Bool
 |.fz _=>J
 |.mx _=>J
 |_=>aa
structure kx where
 ty:TypeId
 c:BC
abbrev HF:=Nat->M kx
def own (φ:PM) (h:HF) (k:Nat):Prop:=∃id b,h id=Z b/\φ id=Z k
def tot (E:Nat->Prop) (φ:PM) (h:HF) (k:Nat):Prop:=E k\/own φ h k
def u_ (φ:PM) (O:Nat->Prop) (w:World) (c:BC) (arr:Array Value):Prop:=
 c.len<=arr.size/\∀j x,c.get j=Z x->x.isCell=J/\∃v,arr[j]? =Z v/\cu φ O w x v
def lI (k:Value):Y MapEntry->Value
 |[]=>.slice U 0 0
 |m::r=>match m.key,k with
  |.int .i64 a,.int .i64 b=>if a=b then m.val else lI k r
  |_,_=>lI k r
def x_ (k:Value):Prop:=∃n:Int,k= .int .i64 n
abbrev j?:=Value×AV
def Qu (ty:TypeId) (es:Y j?) (ents:Array MapEntry):Prop:=if ty=0 then ents.toList.map (·.key)=es.map (·.1) else (∀m∈ents.toList,x_ m.key)/\∀k∈es.map (·.1),x_ k
def ZX (ty:TypeId) (ents:Array MapEntry) (j:Nat) (k v:Value):Prop:=if ty=0 then ∃m,ents[j]? =Z m/\v=m.val else v=lI k ents.toList
def gw (φ:PM) (O:Nat->Prop) (w:World) (b:kx) (o:Obj):Prop:=
 match b.c with
 |.mp es=>∃ents clock,o= .map ents clock/\Qu b.ty es ents/\∀(j:Nat) x,es[j]? =Z x->∃v,ZX b.ty ents j x.1 v/\cu φ O w x.2 v
 |.it s p=>o= .stringIter s p
 |c=>∃arr,o= .cells arr b.ty (0,0)/\u_ φ O w c arr
def Z2 (φ:PM) (O:Nat->Prop) (w:World) (k:Nat) (b:kx):Prop:=∃o,w.heap[k]? =Z o/\gw φ O w b o
variable {z:kx}
def Z2.cells (h:Z2 V O w i z) (d:z.c.isCells=J):
 ∃arr,w.heap[i]? =Z (.cells arr z.ty (0,0))/\u_ V O w z.c arr:=by
 obtain⟨o,h1,h2⟩:=h;unfold gw at h2;cases b:z.c with
 |fz l|mx l=>rw[b]at h2;obtain⟨arr,rfl,A⟩:=h2;exact⟨arr,h1,A⟩
 |_=>rw[b]at d;cases d
def gw.mono {φ':PM} {O':Nat->Prop} {w':World} (F:∀x v,cu V O w x v->cu φ' O' w' x v) {o:Obj} (h:gw V O w z o):gw φ' O' w' z o:=by
 unfold gw at h ⊢;cases D:z.c with
 |mp es=>rw[D]at h;obtain⟨e,c,h1,h2,A⟩:=h;exact⟨e,c,h1,h2,λj x b=>by obtain⟨m,a,z⟩:=A j x b;exact⟨m,a,F _ _ z⟩⟩
 |it s p=>rw[D]at h;exact h
 |_=>rw[D]at h;obtain⟨arr,h1,h2,A⟩:=h;exact⟨arr,h1,h2,λj x b=>by obtain⟨a,v,c,d⟩:=A j x b;exact⟨a,v,c,F _ _ d⟩⟩
def u_.mono {φ':PM} {O':Nat->Prop} {w':World} (A:∀x v,cu V O w x v->cu φ' O' w' x v) {c:BC} {arr:Array Value} (h:u_ V O w c arr):u_ φ' O' w' c arr:=
 ⟨h.1,λj x z=>by obtain⟨a,v,c,d⟩:=h.2 j x z;exact⟨a,v,c,A _ _ d⟩⟩
def wz (l:ζ):FV:=.raw (.string ⟨l.toArray⟩)
def EV:Y FV:=[wz [118,97,114],wz [118,111,108,97,116,105,108,101],wz [109,117,116,101,120],wz [114,119,108,111,99,107],wz [99,111,110,100],wz [102,117,116,117,114,101],wz [116,104,114,101,97,100],wz [105,102],wz [101,108,115,101],wz [119,104,105,108,101],wz [108,111,99,107],wz [114,101,97,100],wz [119,114,105,116,101],wz [116,114,97,110,115,97,99,116,105,111,110],wz [97,116,111,109,105,99],wz [119,97,105,116],wz [110,111,116,105,102,121],wz [110,111,116,105,102,121,97,108,108],wz [115,112,97,119,110],wz [106,111,105,110],wz [115,101,116],wz [103,101,116]]
def G (g:Nat):M (Y FV):=if g==0 then Z EV else U
structure sq (φ:PM) (E:Nat->Prop) (h:HF) (w:World):Prop where
 inj:∀i j b b' k,h i=Z b->h j=Z b'->φ i=Z k->φ j=Z k->i=j
 at_:∀i b,h i=Z b->∃k,φ i=Z k/\¬E k/\Z2 φ (tot E φ h) w k b
 el:∀k,E k->k<w.heap.size
 gl:∀g cells,G g=Z cells->m6 (tot E φ h) w (.H cells 0) (.pointer (Z ⟨g,0,U⟩))
structure kf (φ φ':PM) (h h':HF) (w w':World):Prop where
 sub:∀i k,φ i=Z k->φ' i=Z k
 ext:Gf (own φ h) w w'
 qr:∀k,k<w.heap.size->own φ' h' k->own φ h k
def kf.refl (φ:PM) (h:HF) (w:World):kf φ φ h h w w:=⟨λ_ _ h=>h,Gf.refl _ _,λ_ _ h=>h⟩
variable {S:HF}
def kf.trans {φ' φ'':PM} {h' h'':HF} {w' w'':World} (m:kf V φ' S h' w w') (n:kf φ' φ'' h' h'' w' w''):kf V φ'' S h'' w w'' where
 sub:=λi k e=>n.sub i k (m.sub i k e)
 ext:=⟨n.ext.os.trans m.ext.os,n.ext.tape.trans m.ext.tape,n.ext.output.trans m.ext.output,c9 m.ext.size n.ext.size,
  λk d z=>(n.ext.jg k (dA d m.ext.size) (λS=>z (m.qr k d S))).trans (m.ext.jg k d z),
  λk d=>(n.ext.jd k (dA d m.ext.size)).trans (m.ext.jd k d)⟩
 qr:=λk d S=>m.qr k d (n.qr k (dA d m.ext.size) S)
def Gf.mono {O':Nat->Prop} {w':World} (h:Gf O w w') (d:∀k,O k->O' k):Gf O' w w':=
 ⟨h.os,h.tape,h.output,h.size,λk z A=>h.jg k z (λx=>A (d k x)),h.jd⟩
def kf.zq {φ':PM} {h':HF} {w':World} (m:kf V φ' S h' w w') (r:cu V (tot O V S) w y v):cu φ' (tot O φ' h') w' y v:=
 r.ext m.sub (m.ext.mono λ_ S=>.inr S) λk z d=>d.elim .inl λo=>.inr (m.qr k z o)
def kf.keepF {φ':PM} {h':HF} {w':World} (m:kf V φ' S h' w w') {x:FV} (r:m6 (tot O V S) w x v):m6 (tot O φ' h') w' x v:=
 r.ext (m.ext.mono λ_ S=>.inr S) λk z d=>d.elim .inl λo=>.inr (m.qr k z o)
abbrev EF:=Nat->M AV
def Qz (φ:PM) (O:Nat->Prop) (w:World) (e:EF) (a:Act):Prop:=∀t x,e t=Z x->cu φ O w x (a.tmps.getD t undef)
def N0 (e:EF) (dst:M Nat) (x:AV):EF:=λt=>if dst=Z t then Z x else e t
def eW (h:HF) (d:ι) (z:HF):HF:=λi=>if i∈d then z i else h i
structure Dq where
 val:AV
 rd:ι
 wr:ι
 nw:HF
 N:ι
def fZ (P:Program) (o:Oper) (e:EF) (h:HF) (f:Dq):Prop:=
 ∀(φ:PM) (E:Nat->Prop) (h':HF) (w:World) (a:Act),(∀i∈f.rd,h' i=h i)->(∀i∈f.wr,h' i=h i)->
  (∀t,.tmp t∈o.op.operands->∀y,e t=Z y->cu φ (tot E φ h') w y (a.tmps.getD t undef))->sq φ E h' w->(∀n∈f.N,φ n=U)->
  o.wp P a w (λd w'=>∃v φ',d=a.put o.dst v/\kf φ φ' h' (eW h' f.wr f.nw) w w'/\(∀i k,φ' i=Z k->φ i=Z k\/i∈f.N)/\
   sq φ' E (eW h' f.wr f.nw) w'/\cu φ' (tot E φ' (eW h' f.wr f.nw)) w' f.val v) (λ_ _ _=>False)
def td:Dq:=⟨.f (.raw undef),[],[],λ_=>U,[]⟩
inductive Nq (P:Program) (ops:Array Oper) (o:Oper) (f:Dq) (e:EF) (h:HF):Prop
 |run (hg:o.guard=U) (ht:fZ P o e h f)
 |runG (j t:Nat) (want:Bool) (hg:o.guard=Z (j,want)) (hj:(ops[j]?).bind (·.dst)=Z t) (he:e t=Z (.f (.raw (.bool want)))) (ht:fZ P o e h f)
 |skip (j t:Nat) (want:Bool) (hg:o.guard=Z (j,want)) (hj:(ops[j]?).bind (·.dst)=Z t) (v:Value) (he:e t=Z (.f (.raw v))) (hv:v≠ .bool want) (hf:f=td)
inductive BS (P:Program) (ops:Array Oper):List (Oper×Dq)->EF->HF->EF->HF->Prop
 |nil (e:EF) (h:HF):BS P ops [] e h e h
 |cons {o:Oper} {f:Dq} {r:List (Oper×Dq)} {e e':EF} {h h':HF} (hs:Nq P ops o f e h)
   (hr:BS P ops r (N0 e o.dst f.val) (eW h f.wr f.nw) e' h'):BS P ops ((o,f)::r) e h e' h'
abbrev v?:=Oper×Dq
def NI (S:Nat->Bool):Nat->Y v?->EF->EF
 |_,[],e=>e
 |k,(o,f)::r,e=>NI S (k+1) r (if S k then N0 e o.dst f.val else e)
def Ee (S:Nat->Bool):Nat->Y v?->HF->HF
 |_,[],h=>h
 |k,(_,f)::r,h=>Ee S (k+1) r (if S k then eW h f.wr f.nw else h)
variable {p:Nat->Bool}
def Gn {S':Nat->Bool} :∀(l:Y v?) (k:Nat) (e d:EF),e i=d i->
 (∀(j:Nat) o f,l[j]? =Z (o,f)->o.dst=Z i->p (k+j)=S' (k+j))->NI p k l e i=NI S' k l d i
 |[],_,_,_,he,_=>he
 |(o,f)::r,k,e,d,he,z=>by
  simp only[NI];refine Gn r (k+1) _ _ ?_ (λj o f A hd=>by have:=z (j+1) o f (by simpa using A) hd;rwa [show k+(j+1)=k+1+j from by omega]at this);by_cases hd:o.dst=Z i
  .rw[show p k=S' k from by simpa using z 0 o f rfl hd];split
   .simp[N0,hd]
   .exact he
  .split<;>split<;>simp[N0,hd,he]
def Gm {S':Nat->Bool} :∀(l:Y v?) (k:Nat) (e d:HF),e i=d i->
 (∀(j:Nat) o f,l[j]? =Z (o,f)->i∈f.wr->p (k+j)=S' (k+j))->Ee p k l e i=Ee S' k l d i
 |[],_,_,_,he,_=>he
 |(o,f)::r,k,e,d,he,z=>by
  simp only[Ee];refine Gm r (k+1) _ _ ?_ (λj o f A hd=>by have:=z (j+1) o f (by simpa using A) hd;rwa [show k+(j+1)=k+1+j from by omega]at this);by_cases hd:i∈f.wr
  .rw[show p k=S' k from by simpa using z 0 o f rfl hd];split
   .simp[eW,hd]
   .exact he
  .split<;>split<;>simp[eW,hd,he]
def Es :∀(l:Y v?) (k:Nat) (e:EF),(∀(j:Nat) o f,l[j]? =Z (o,f)->o.dst=Z i->p (k+j)=aa)->NI p k l e i=e i
 |[],_,_,_=>rfl
 |(o,f)::r,k,e,d=>by
  simp only[NI];rw[Es r (k+1) _ (λj o f z hd=>by have:=d (j+1) o f (by simpa using z) hd;rwa [show k+(j+1)=k+1+j from by omega]at this)];split
  .rename_i h;unfold N0;rw[aA];intro hd;have:=d 0 o f rfl hd;simp_all
  .rfl
def Ep :∀(l:Y v?) (k:Nat) (e:HF),(∀(j:Nat) o f,l[j]? =Z (o,f)->i∈f.wr->p (k+j)=aa)->Ee p k l e i=e i
 |[],_,_,_=>rfl
 |(o,f)::r,k,e,d=>by
  simp only[Ee];rw[Ep r (k+1) _ (λj o f z hd=>by have:=d (j+1) o f (by simpa using z) hd;rwa [show k+(j+1)=k+1+j from by omega]at this)];split
  .rename_i h;unfold eW;rw[aA];intro hd;have:=d 0 o f rfl hd;simp_all
  .rfl
def SW :∀(l:Y v?) (k t:Nat) (e:EF) (o:Oper) (f:Dq),l[t]? =Z (o,f)->o.dst=Z i->p (k+t)=J->
 (∀(j:Nat) d F,t<j->l[j]? =Z (d,F)->d.dst=Z i->p (k+j)=aa)->NI p k l e i=Z f.val
 |[],_,_,_,_,_,h,_,_,_=>by simp at h
 |(d,F)::r,k,0,e,o,f,h,hd,D,z=>by
  simp only[dH,af,aI]at h;obtain⟨rfl,rfl⟩:=h;simp only[NI];rw[Es r (k+1) _ (λj o f A hd=>by have:=z (j+1) o f (by omega) (by simpa using A) hd;rwa [show k+(j+1)=k+1+j from by omega]at this)];simp at D;simp[D,N0,hd]
 |(d,F)::r,k,t+1,e,o,f,h,hd,D,z=>by
  simp only[NI];exact SW r (k+1) t _ o f (by simpa using h) hd (by rwa [show k+1+t=k+(t+1) from by omega])
   (λj o f hij A hd=>by have:=z (j+1) o f (by omega) (by simpa using A) hd;rwa [show k+(j+1)=k+1+j from by omega]at this)
def SU :∀(l:Y v?) (k t:Nat) (e:HF) (o:Oper) (f:Dq),l[t]? =Z (o,f)->i∈f.wr->p (k+t)=J->
 (∀(j:Nat) z d,t<j->l[j]? =Z (z,d)->i∈d.wr->p (k+j)=aa)->Ee p k l e i=f.nw i
 |[],_,_,_,_,_,h,_,_,_=>by simp at h
 |(z,d)::r,k,0,e,o,f,h,hd,F,A=>by
  simp only[dH,af,aI]at h;obtain⟨rfl,rfl⟩:=h;simp only[Ee];rw[Ep r (k+1) _ (λj o f D hd=>by have:=A (j+1) o f (by omega) (by simpa using D) hd;rwa [show k+(j+1)=k+1+j from by omega]at this)];simp at F;simp[F,eW,hd]
 |(z,d)::r,k,t+1,e,o,f,h,hd,F,A=>by
  simp only[Ee];exact SU r (k+1) t _ o f (by simpa using h) hd (by rwa [show k+1+t=k+(t+1) from by omega])
   (λj o f hij D hd=>by have:=A (j+1) o f (by omega) (by simpa using D) hd;rwa [show k+(j+1)=k+1+j from by omega]at this)
variable {P:Program} {r:Array Oper}
def BS.step :∀{l:Y v?} {e d:EF} {h h':HF} (_:BS P r l e h d h') (k i:Nat) (o:Oper) (f:Dq),l[i]? =Z (o,f)->
 Nq P r o f (NI (λj=>decide (j<k+i)) k l e) (Ee (λj=>decide (j<k+i)) k l h):=by
 intro l e d h h' L;induction L with
 |nil=>intro k i o f hi;simp at hi
 |@cons z A ops e d h h' F N D=>
  intro k i o f hi;cases i with
  |zero=>
   simp only[dH,af,aI]at hi;obtain⟨rfl,rfl⟩:=hi;have e1:NI (λj=>decide (j<k+0)) k ((z,A)::ops) e=e:=by
    funext t;rw[Es];intro j o f _ _;simp
   have e2:Ee (λj=>decide (j<k+0)) k ((z,A)::ops) h=h:=by
    funext t;rw[Ep];intro j o f _ _;simp
   rw[e1,e2];exact F
  |succ i=>
   have:=D (k+1) i o f (by simpa using hi);simp only[NI,Ee];rw[show k+(i+1)=k+1+i from by omega];simpa[show k<k+1+i from by omega] using this
def BS.final :∀{l:Y v?} {e d:EF} {h h':HF} (_:BS P r l e h d h') (k:Nat) (S:Nat->Bool),(∀j,j<l! l->S (k+j)=J)->
 NI S k l e=d/\Ee S k l h=h':=by
 intro l e d h h' F;induction F with
 |nil=>intro k S _;exact⟨rfl,rfl⟩
 |@cons L f1 ops e d h h' N hr A=>
  intro k S z;have h0:S k=J:=by simpa using z 0 (by simp)
  simp only[NI,Ee,h0,bw];exact A (k+1) S (λj D=>by have:=z (j+1) (by simpa using D);rwa [show k+(j+1)=k+1+j from by omega]at this)
variable {k:Oper} {N:Act} {m:Exit->Act->World->Prop}
def Sz {K K':Act->World->Prop} (h:∀N w,K N w->K' N w)
 (hh:k.wp P N w K (λ_ _ _=>False)):k.wp P N w K' m:=by
 unfold Oper.wp at*
 generalize (execOp N.eval k).run P w=r at*
 cases r with
 |ok n w'=>
  cases n<;>simp only[Oper.upon]at hh ⊢<;>
   first
    |exact h _ _ hh
    |exact Calls.mono hh (λe w'' he=>by
      cases e with
      |returned v=>exact h _ _ he
      |panicked c=>exact he.elim
      |outgrown=>obtain⟨_,_,h⟩:=he;exact h.elim)
    |exact Rows.mono hh (λ_ _ he=>h _ _ he)
 |halt x w'=>cases x<;>simp only[Oper.upon]at hh ⊢<;>first|exact hh.elim|exact hh
inductive Bef (ops:Array Oper):Nat->Nat->Prop
 |one {j:Nat} {o:Oper} {e:Edge} (h:ops[j]? =Z o) (he:e∈o.after) (hb:BT .any e=J):Bef ops j e.on
 |more {j i:Nat} {o:Oper} {e:Edge} (h:ops[j]? =Z o) (he:e∈o.after) (hb:BT .any e=J) (hi:Bef ops e.on i):Bef ops j i
structure NIP (ops:Array Oper) (l:List (Oper×Dq)):Prop where
 edge:∀(j:Nat) o,ops[j]? =Z o->∀e∈o.after,BT .any e=J->e.on<j
 pair:∀(i j:Nat) oi fi oj fj,i<j->l[i]? =Z (oi,fi)->l[j]? =Z (oj,fj)->Bef ops j i\/
  (oi.apart ops oj=J/\(∀x∈fi.wr,x∉fj.rd/\x∉fj.wr)/\(∀x∈fj.wr,x∉fi.rd))
 names:∀(i j:Nat) oi fi oj fj,i<j->l[i]? =Z (oi,fi)->l[j]? =Z (oj,fj)->∀n∈fi.N,n∉fj.N
def HA (ops:Array Oper) (listed:Array Bool):Prop:=∀(j:Nat) o,ops[j]? =Z o->listed.getD j aa=J->∀e∈o.after,BT .any e=J->listed.getD e.on aa=J
variable {j:Nat}
def HA.bef {listed:Array Bool} (A:HA r listed) (h:Bef r j i):listed.getD j aa=J->listed.getD i aa=J:=by
 induction h with
 |one h he z=>intro d;exact A _ _ h d _ he z
 |more h he z hi D=>intro d;exact D (A _ _ h d _ he z)
def aa4 {listed:Array Bool} (D:HA r listed) (d:r[j]? =Z k) (A:∀e∈k.after,BT .any e=J->listed.getD e.on aa=J) (h:Bef r j i):listed.getD i aa=J:=by
 cases h with
 |one h he z=>rw[h]at d;cases d;exact A _ he z
 |more h he z hi=>rw[h]at d;cases d;exact D.bef hi (A _ he z)
def um {listed:Array Bool} (h:listed.getD j J=aa):listed.getD j aa=aa/\j<listed.size:=by
 rcases bu j listed.size with h1|h1
 .simp[h1]at h ⊢;exact h
 .simp[Array.getElem?_eq_none h1]at h
def StP (φ0:PM) (E:Nat->Prop) (e0:EF) (h0:HF) (w0:World) (d:Act) (l:Y v?) (S:Nat->Bool) (a:Act) (w:World):Prop:=
 ∃φ,kf φ0 φ h0 (Ee S 0 l h0) w0 w/\(∀i k,φ i=Z k->φ0 i=Z k\/∃(j:Nat) (o:Oper) (f:Dq),S j=J/\l[j]? =Z (o,f)/\i∈f.N)/\
  sq φ E (Ee S 0 l h0) w/\Qz φ (tot E φ (Ee S 0 l h0)) w (NI S 0 l e0) a/\a.defers=d.defers/\a.tmps.size=d.tmps.size
def ae7 {dst:M Tmp} (hd:∀d,dst=Z d->d<N.tmps.size):(N.put dst v).tmps.getD i undef=if dst=Z i then v else N.tmps.getD i undef:=by
 cases dst with
 |none=>simp[Act.put]
 |some d=>
  by_cases h:d=i
  .subst h;simp[Act.put,hd d rfl]
  .simp[Act.put,h,rj h]
def ae6 {dst:M Tmp} :(N.put dst v).tmps.size=N.tmps.size:=by cases dst<;>simp[Act.put]
def WV {dst:M Tmp} :(N.put dst v).defers=N.defers:=by cases dst<;>rfl
def aeg {l:Y v?} {e0 e':EF} {h':HF} {w0:World} 
 (hl:l.map (·.1)=r.toList) (hc:BS P r l e0 S e' h') (ni:NIP r l) (hfr:∀(j:Nat) o f,l[j]? =Z (o,f)->∀n∈f.N,V n=U)
 (hsz:∀(j:Nat) o,r[j]? =Z o->∀d,o.dst=Z d->d<N.tmps.size) {listed:Array Bool} (hcl:HA r listed) (hi:i∈J2 .any r listed) {K:Act->World->Prop}
 (hK:∀a w,StP V O e0 S w0 N l (λj=>(listed.setIfInBounds i J).getD j aa) a w->K a w) {a:Act} (hst:StP V O e0 S w0 N l (λj=>listed.getD j aa) a w):
 wpOp P r m i K a w:=by
 obtain⟨hun,o,ho,hdeps⟩:=mem_ready.1 hi;obtain⟨hnf,hlt⟩:=um hun;have hln:∀(j:Nat) o',r[j]? =Z o'->∃f,l[j]? =Z (o',f):=λj o' h=>by
  have h1:(l.map (·.1))[j]? =Z o':=by rw[hl];simpa using h
  rw[a8]at h1;cases A:l[j]? with
  |none=>rw[A]at h1;cases h1
  |some p=>rw[A]at h1;obtain⟨a,b⟩:=p;simp at h1;subst h1;exact⟨b,rfl⟩
 have hnl:∀(j:Nat) o' f,l[j]? =Z (o',f)->r[j]? =Z o':=λj o' f h=>by
  have h1:(l.map (·.1))[j]? =Z o':=by rw[a8,h];rfl
  rw[hl]at h1;simpa using h1
 obtain⟨f,hf⟩:=hln i o ho;have hord:∀(j:Nat) F D,j≠i->l[j]? =Z (F,D)->(listed.getD j aa=decide (j<i))\/
  (o.apart r F=J\/F.apart r o=J)/\(∀x∈f.wr,x∉D.rd/\x∉D.wr)/\(∀x∈D.wr,x∉f.rd/\x∉f.wr):=by
  intro j F D hji A;rcases bu j i with h|h
  .rcases ni.pair j i F D o f h A hf with hb|⟨h1,h2,h3⟩
   .left;rw[aa4 hcl ho hdeps hb];simp[h]
   .right;exact⟨.inr h1,λx L=>⟨h3 x L,λhx'=>(h2 x hx').2 L⟩,λx L=>h2 x L⟩
  .have h:i<j:=by omega
   rcases ni.pair i j o f F D h hf A with hb|⟨h1,h2,h3⟩
   .left;have:listed.getD j aa=aa:=by
     cases L:listed.getD j aa with
     |false=>rfl
     |true=>have:=hcl.bef hb L;rw[hnf]at this;cases this
    rw[this];simp;omega
   .right;exact⟨.inl h1,λx L=>h2 x L,λx L=>⟨h3 x L,λhx'=>(h2 x hx').2 L⟩⟩
 have hS':∀j,(listed.setIfInBounds i J).getD j aa=if j=i then J else listed.getD j aa:=λj=>by
  by_cases h:i=j
  .subst h;simp[hlt]
  .rw[getD_set_ne aa h,aA (λe=>h e.symm)]
 have hlater:∀(j:Nat) F D,i<j->l[j]? =Z (F,D)->(listed.getD j aa=aa)\/((o.apart r F=J\/F.apart r o=J)/\(∀x∈f.wr,x∉D.rd/\x∉D.wr)):=by
  intro j F D hij A;rcases hord j F D (by omega) A with h|⟨h1,h2,_⟩
  .left;rw[h];simp;omega
  .right;exact⟨h1,h2⟩
 have hdd:∀{x y:Oper},(x.apart r y=J\/y.apart r x=J)->∀d,x.dst=Z d->y.dst≠Z d:=by
  intro x y h d hd he;rcases h with h|h
  .exact (Oper.apart_spec h).2.1 d hd he
  .exact (Oper.apart_spec h).2.1 d he hd
 have hlook:∀{x y:Oper},(x.apart r y=J\/y.apart r x=J)->∀d,y.dst=Z d->d∉x.looksAt r:=by
  intro x y h d hd;rcases h with h|h
  .exact (Oper.apart_spec h).2.2 d hd
  .exact (Oper.apart_spec h).1 d hd
 have heL:∀t,t∈o.looksAt r->NI (λj=>listed.getD j aa) 0 l e0 t=NI (λj=>decide (j<0+i)) 0 l e0 t:=λt ht=>by
  refine Gn l 0 e0 e0 rfl λj F D A hd=>?_
  simp only[bO];by_cases hji:j=i
  .subst hji;rw[hnf];simp
  .rcases hord j F D hji A with h|⟨h,_⟩
   .exact h
   .exact cN ht (hlook h t hd)
 have hhL:∀t,t∈f.rd\/t∈f.wr->Ee (λj=>listed.getD j aa) 0 l S t=Ee (λj=>decide (j<0+i)) 0 l S t:=λt ht=>by
  refine Gm l 0 S S rfl λj F D A hd=>?_
  simp only[bO];by_cases hji:j=i
  .subst hji;rw[hnf];simp
  .rcases hord j F D hji A with h|⟨_,_,h⟩
   .exact h
   .rcases ht with ht|ht
    .exact cN ht (h t hd).1
    .exact cN ht (h t hd).2
 have hE':∀t,NI (λj=>(listed.setIfInBounds i J).getD j aa) 0 l e0 t=if o.dst=Z t then Z f.val else NI (λj=>listed.getD j aa) 0 l e0 t:=λt=>by
  by_cases hd:o.dst=Z t
  .rw[aG hd];refine SW l 0 i e0 o f hf hd (by simp[hS']) λj o' f' hij A hd'=>?_
   simp only[bO,hS',aA (show ¬j=i by omega)];rcases hlater j o' f' hij A with h|⟨h,_⟩
   .exact h
   .exact cN hd' (hdd h t hd)
  .rw[aA hd];refine Gn l 0 e0 e0 rfl λj F D A hd'=>?_
   simp only[bO,hS'];rw[aA];intro hji;subst hji;rw[hf]at A;cases A;exact hd hd'
 have hH':Ee (λj=>(listed.setIfInBounds i J).getD j aa) 0 l S=eW (Ee (λj=>listed.getD j aa) 0 l S) f.wr f.nw:=by
  funext t;unfold eW;by_cases hd:t∈f.wr
  .rw[aG hd];refine SU l 0 i S o f hf hd (by simp[hS']) λj o' f' hij A hd'=>?_
   simp only[bO,hS',aA (show ¬j=i by omega)];rcases hlater j o' f' hij A with h|⟨_,h⟩
   .exact h
   .exact cN hd' (h t hd).2
  .rw[aA hd];refine Gm l 0 S S rfl λj F D A hd'=>?_
   simp only[bO,hS'];rw[aA];intro hji;subst hji;rw[hf]at A;cases A;exact hd hd'
 obtain⟨φ,hm,hdom,hrep,henv,hdef,hsize⟩:=hst;have hfrN:∀n∈f.N,φ n=U:=λn hn=>by
  cases L:φ n with
  |none=>rfl
  |some k=>
   rcases hdom n k L with h|⟨j,F,D,hSj,A,hnj⟩
   .rw[hfr i o f hf n hn]at h;cases h
   .have hji:j≠i:=by intro h;subst h;exact cN hSj (by simp only[hnf];simp)
    rcases bu j i with h|h
    .exact cN hn (ni.names j i F D o f h A hf n hnj)
    .exact cN hnj (ni.names i j o f F D (by omega) hf A n hn)
 have hdsz:∀d,o.dst=Z d->d<a.tmps.size:=λd hd=>by rw[hsize];exact hsz i o ho d hd
 have main:∀(v:Value) (φ':PM) (w':World),kf φ φ' (Ee (λj=>listed.getD j aa) 0 l S) (eW (Ee (λj=>listed.getD j aa) 0 l S) f.wr f.nw) w w'->
  (∀i k,φ' i=Z k->φ i=Z k\/i∈f.N)->sq φ' O (eW (Ee (λj=>listed.getD j aa) 0 l S) f.wr f.nw) w'->
  cu φ' (tot O φ' (eW (Ee (λj=>listed.getD j aa) 0 l S) f.wr f.nw)) w' f.val v->K (a.put o.dst v) w':=by
  intro v φ' w' m1 d1 r1 v1;refine hK _ _ ⟨φ',?_,?_,?_,?_,?_,?_⟩
  .rw[hH'];exact hm.trans m1
  .intro i' k h;rcases d1 i' k h with h|h
   .rcases hdom i' k h with h|⟨j,F,D,hSj,A,hnj⟩
    .exact .inl h
    .refine .inr ⟨j,F,D,?_,A,hnj⟩;show (listed.setIfInBounds i J).getD j aa=J;rw[hS' j];split
     .rfl
     .exact hSj
   .exact .inr ⟨i,o,f,(hS' i).trans (by simp),hf,h⟩
  .rw[hH'];exact r1
  .rw[hH'];intro t x L;rw[hE' t]at L;rw[ae7 hdsz];by_cases hd:o.dst=Z t
   .rw[aG hd]at L ⊢;cases L;exact v1
   .rw[aA hd]at L ⊢;exact m1.zq (henv t x L)
  .rw[WV];exact hdef
  .rw[ae6];exact hsize
 have hstep:=hc.step 0 i o f hf;have hrun:fZ P o (NI (λj=>decide (j<0+i)) 0 l e0) (Ee (λj=>decide (j<0+i)) 0 l S) f->o.wp P a w K m:=by
  intro ht;refine Sz ?_ (ht φ O (Ee (λj=>listed.getD j aa) 0 l S) w a (λt h=>hhL t (.inl h)) (λt h=>hhL t (.inr h)) ?_ hrep hfrN)
  .rintro a' w' ⟨v,φ',rfl,m1,d1,r1,v1⟩;exact main v φ' w' m1 d1 r1 v1
  .intro t ht' y hy;refine henv t y ?_;rw[heL t (fW _ (List.mem_filterMap.2 ⟨.tmp t,by simpa using ht',rfl⟩))];exact hy
 have hyield:∀(j t:Nat) (want b:Bool),o.guard=Z (j,want)->(r[j]?).bind (·.dst)=Z t->NI (λj=>decide (j<0+i)) 0 l e0 t=Z (.f (.raw (.bool b)))->Region.wanted o (yielded r a.tmps)=(b==want):=by
  intro j t want b hg A he;rw[<- heL t (lL _ (by rw[hg];simp[A]))]at he;have h1:=henv t _ he;have h2:a.tmps.getD t undef= .bool b:=by
   generalize hz:a.tmps.getD t undef=z at h1;cases h1 with
   |f h=>cases h;rfl
  have h3:a.tmps[t]? =Z (.bool b):=by
   rw[g9]at h2;cases hz:a.tmps[t]? with
   |none=>rw[hz]at h2;simp[undef]at h2
   |some z=>rw[hz]at h2;simp at h2;rw[h2]
  unfold Region.wanted yielded;rw[hg];simp[A,h3]
 unfold wpOp;simp only[ho];cases hstep with
 |run hg ht=>
  rw[aG (by unfold Region.wanted;rw[hg])];exact .inl (hrun ht)
 |runG j t want hg A he ht=>
  rw[aG (by rw[hyield j t want want hg A he];simp)];exact .inl (hrun ht)
 |skip j t want hg A v he hv hf'=>
  have hnw:Region.wanted o (yielded r a.tmps)=aa:=by
   rw[<- heL t (lL _ (by rw[hg];simp[A]))]at he;have h1:=henv t _ he;have h2:a.tmps.getD t undef=v:=by
    generalize a.tmps.getD t undef=z at h1;cases h1 with
    |f h=>cases h;rfl
   unfold Region.wanted yielded;rw[hg];simp only[A,aC];rw[g9]at h2;cases hz:a.tmps[t]? with
   |none=>simp
   |some z=>
    rw[hz]at h2;simp at h2;subst h2;cases z<;>simp at hv ⊢;exact hv
  rw[aA (by rw[hnw];simp)];subst hf';have hu:eW (Ee (λj=>listed.getD j aa) 0 l S) td.wr td.nw=Ee (λj=>listed.getD j aa) 0 l S:=by
   funext t;simp[eW,td]
  refine main undef φ w ?_ (λ_ _ h=>.inl h) ?_ ?_
  .rw[hu];exact kf.refl _ _ _
  .rw[hu];exact hrep
  .exact .f (.raw _)
def abf {l:θ}:∀{i:Nat},l[i]? =Z aa->(l.set i J).countP id=l.countP id+1:=by
 induction l with
 |nil=>intro i h;simp at h
 |cons b l d=>
  intro i h;cases i with
  |zero=>simp at h;subst h;simp
  |succ i=>
   simp only[List.set_cons_succ,List.countP_cons];rw[d (by simpa using h)];omega
def Sg {l:θ} (h:l! l<=l.countP id):∀(j:Nat),j<l! l->l[j]? =Z J:=by
 have h1:l.countP id=l! l:=Nat.le_antisymm List.countP_le_length h;rw[List.countP_eq_length]at h1;intro j d;rw[aD d];simpa using h1 _ (wJ d)
def Yv {l:Y v?} (z:NIP r l) {listed:Array Bool} (L:listed.size=r.size) (D:J2 .any r listed=[]):
 ∀(n j:Nat),j<n->j<r.size->listed.getD j aa=J:=by
 intro n;induction n with
 |zero=>intro j h;omega
 |succ n A=>
  intro j N hjs;cases d:listed.getD j aa with
  |true=>rfl
  |false=>
   exfalso;have hmem:j∈J2 .any r listed:=by
    refine mem_ready.2 ⟨?_,r[j],iJ hjs,λe he F=>?_⟩
    .have:j<listed.size:=by omega
     simp[this]at d ⊢;exact d
    .have h1:=z.edge j _ (iJ hjs) e he F;exact A e.on (by omega) (by omega)
   rw[D]at hmem;cases hmem
def Qp {l:Y v?} {e0 e':EF} {h':HF} {E:Nat->Prop} {w0:World} 
 (hl:l.map (·.1)=r.toList) (hc:BS P r l e0 S e' h') (ni:NIP r l) (hfr:∀(j:Nat) o f,l[j]? =Z (o,f)->∀n∈f.N,V n=U)
 (hsz:∀(j:Nat) o,r[j]? =Z o->∀d,o.dst=Z d->d<N.tmps.size) 
 (hQ:∀a w,StP V E e0 S w0 N l (λ_=>J) a w->m .normal a w):
 ∀(fuel:Nat) (listed:Array Bool) (a:Act) (w:World),listed.size=r.size->HA r listed->r.size<=fuel+listed.toList.countP id->
  StP V E e0 S w0 N l (λj=>listed.getD j aa) a w->wpAny P .any r m fuel listed a w:=by
 have hlen:l! l=r.size:=by have:=ey ah hl;simpa using this
 have fin:∀(listed:Array Bool) (a:Act) (w:World),(∀j,j<r.size->listed.getD j aa=J)->StP V E e0 S w0 N l (λj=>listed.getD j aa) a w->m .normal a w:=by
  intro listed a w hall hst;refine hQ a w ?_;have h1:=hc.final 0 (λj=>listed.getD j aa) (λj z=>by simp only[bO];exact hall j (by omega));have h2:=hc.final 0 (λ_=>J) (λ_ _=>rfl);unfold StP at hst ⊢;rw[h1.1,h1.2]at hst;rw[h2.1,h2.2];obtain⟨φ,Q,d,ops⟩:=hst;refine ⟨φ,Q,λi k h=>?_,ops⟩;rcases d i k h with h|⟨j,o,f,_,z,hn⟩
  .exact .inl h
  .exact .inr ⟨j,o,f,rfl,z,hn⟩
 intro fuel;induction fuel with
 |zero=>
  intro listed a w D hcl hcnt hst;have hall:∀j,j<r.size->listed.getD j aa=J:=λj z=>by
   have:=Sg (l:=listed.toList) (by simp only[iV];omega) j (by simp only[iV];omega);rw[bL]at this;rw[g9,this];rfl
  refine ⟨?_,fin listed a w hall hst⟩;cases F:J2 .any r listed with
  |nil=>rfl
  |cons i ops=>
   have hi:i∈J2 .any r listed:=by rw[F];simp
   obtain⟨hun,o,L,_⟩:=mem_ready.1 hi;have hnf:=(um hun).1;rw[hall i (cz.1 L).1]at hnf;cases hnf
 |succ fuel ih=>
  intro listed a w D hcl hcnt hst;refine ⟨λF=>fin listed a w (λj z=>Yv ni D F (j+1) j (by omega) z) hst,λi hi=>?_⟩;obtain⟨hun,o,L,hdeps⟩:=mem_ready.1 hi;obtain⟨hnf,hlt⟩:=um hun;refine aeg hl hc ni hfr hsz hcl hi (λa' w' h=>ih _ a' w' ?_ ?_ ?_ h) hst
  .simpa using D
  .intro j oj hoj z e he hb;by_cases hji:i=j
   .subst hji;rw[L]at hoj;cases hoj;exact getD_set_true (hdeps e he hb)
   .rw[getD_set_ne aa hji]at z;exact getD_set_true (hcl j oj hoj z e he hb)
  .have h1:listed.toList[i]? =Z aa:=by
    rw[bL,iJ hlt];simp[hlt]at hnf;rw[hnf]
   rw[Array.toList_setIfInBounds,abf h1];omega
def at4 (φ0:PM) (E:Nat->Prop) (z:EF) (h0 h':HF) (N:ι) (w0:World) (d:Act) (a:Act) (w:World):Prop:=
 ∃φ,kf φ0 φ h0 h' w0 w/\(∀i k,φ i=Z k->φ0 i=Z k\/i∈N)/\sq φ E h' w/\Qz φ (tot E φ h') w z a/\a.defers=d.defers/\a.tmps.size=d.tmps.size
def kf.drew (w:World):kf V V S S w {w with drawn:=w.drawn+1}:=
 ⟨λ_ _ S=>S,⟨rfl,rfl,rfl,cA _,λ_ _ _=>rfl,λ_ _=>rfl⟩,λ_ _ S=>S⟩
def sq.moved {w':World} (r:sq V O S w) (m:kf V V S S w w') (d:∀k,own V S k->w'.heap[k]? =w.heap[k]?):sq V O S w':=
 ⟨r.inj,λi b z=>by
   obtain⟨k,h1,h2,o,F,D⟩:=r.at_ i b z;exact⟨k,h1,h2,o,by rw[d k ⟨i,b,z,h1⟩];exact F,D.mono λ_ _ S=>m.zq S⟩,λk d=>dA (r.el k d) m.ext.size,
   λg cells A=>m.keepF (r.gl g cells A)⟩
variable {b:Bool}
def Tl {l:Y v?} {e0 e':EF} {h':HF} {φ0:PM} {E:Nat->Prop} 
 (hm:P.follows .mixedOrders=J) (hl:l.map (·.1)=r.toList) (hc:BS P r l e0 S e' h') (D:NIP r l) (hfr:∀n∈l.flatMap (λp=>p.2.N),φ0 n=U)
 (hsz:∀(j:Nat) o,r[j]? =Z o->∀d,o.dst=Z d->d<N.tmps.size) (hrep:sq φ0 E S w) (henv:Qz φ0 (tot E φ0 S) w e0 N) 
 (hQ:∀a w0,at4 φ0 E e' S h' (l.flatMap (λp=>p.2.N)) w N a w0->m .normal a w0):(Code.region i r b).wp P m N w:=by
 have hfr':∀(j:Nat) o f,l[j]? =Z (o,f)->∀n∈f.N,φ0 n=U:=λj o f z n F=>hfr n (sv.2 ⟨(o,f),bf z,F⟩)
 have fin:∀a w0,StP φ0 E e0 S w N l (λ_=>J) a w0->m .normal a w0:=by
  rintro a w0 ⟨φ,Q,d,ops,en,df,sz⟩;have h2:=hc.final 0 (λ_=>J) (λ_ _=>rfl);rw[h2.2]at Q ops en;rw[h2.1]at en;refine hQ a w0 ⟨φ,Q,λid k h=>?_,ops,en,df,sz⟩;rcases d id k h with h|⟨j,o,f,_,z,F⟩
  .exact .inl h
  .exact .inr (sv.2 ⟨(o,f),bf z,F⟩)
 have st0:∀(w0:World),kf φ0 φ0 S S w w0->sq φ0 E S w0->StP φ0 E e0 S w N l (λj=>(uc r.size aa).getD j aa) N w0:=by
  intro w0 Q ops;have e1:(λj=>(uc r.size aa).getD j aa)=λ_=>aa:=by
   funext j;rw[g9,Array.getElem?_replicate];split<;>rfl
  rw[e1];have e2:NI (λ_=>aa) 0 l e0=e0:=by funext t;rw[Es];intros;rfl
  have e3:Ee (λ_=>aa) 0 l S=S:=by funext t;rw[Ep];intros;rfl
  refine ⟨φ0,by rw[e3];exact Q,λ_ _ h=>.inl h,by rw[e3];exact ops,?_,rfl,rfl⟩;rw[e2,e3];exact λt x hx=>Q.zq (henv t x hx)
 have cl0:HA r (uc r.size aa):=by
  intro j o ho z;rw[g9,Array.getElem?_replicate]at z;split at z<;>simp at z
 cases b with
 |true=>
  refine wp_region_any hm ?_;exact Qp hl hc D hfr' hsz fin r.size _ N _ (by simp) cl0 (by omega) (st0 _ (kf.drew w) (hrep.moved (kf.drew w) λ_ _=>rfl))
 |false=>
  have hany:=Qp (E:=E) (w0:=w) hl hc D hfr' hsz fin r.size _ N w (by simp) cl0 (by omega) (st0 _ (kf.refl _ _ _) hrep);refine wp_region ?_;have key:∀(Q k:Nat) (listed:Array Bool) (a:Act) (w0:World),k+Q=r.size->listed.size=r.size->(∀j,j<k->listed.getD j aa=J)->(∀j,k<=j->j<r.size->listed.getD j J=aa)->
   wpAny P .any r m Q listed a w0->wpOps P r m (List.range' k Q) a w0:=by
   intro Q;induction Q with
   |zero=>intro k listed a w0 hk hs h1 h2 h;simpa[wpOps] using h.2
   |succ Q ih=>
    intro k listed a w0 hk hs h1 h2 h;rw[List.range'_succ,wpOps_cons];have hkr:k∈J2 .any r listed:=by
     refine mem_ready.2 ⟨h2 k (cA _) (by omega),r[k]'(by omega),iJ (by omega),λe he hb=>?_⟩;exact h1 _ (D.edge k _ (iJ (by omega)) e he hb)
    refine wpOp_mono (λa' w' h'=>ih (k+1) (listed.setIfInBounds k J) a' w' (by omega) (by simpa using hs) ?_ ?_ h') (h.2 k hkr)
    .intro j z;by_cases hjk:k=j
     .subst hjk;simp[show k<listed.size by omega]
     .rw[getD_set_ne aa hjk];exact h1 j (by omega)
    .intro j z L;rw[getD_set_ne J (by omega)];exact h2 j (by omega) L
  have:=key r.size 0 (uc r.size aa) N w (by omega) (by simp) (by intro j z;omega) (by
   intro j _ z;rw[g9,Array.getElem?_replicate,aG z];rfl) hany
  rwa [List.range_eq_range']
inductive PT (α:Type) where
 |leaf
 |node (v:Option α) (l r:PT α)
namespace PT
variable {α:Type}
def get:PT α->Nat->M α
 |leaf,_=>U
 |node v l r,n=>match n with
  |0=>v
  |m+1=>if ax (m%2) 0 then get l (m/2) else get r (m/2)
def QN:Nat->PT α->Nat->M α->PT α
 |0,t,_,_=>t
 |k+1,t,n,x=>match t with
  |leaf=>(match n with
   |0=>node x leaf leaf
   |m+1=>if ax (m%2) 0 then node U (QN k leaf (m/2) x) leaf else node U leaf (QN k leaf (m/2) x))
  |node v l r=>(match n with
   |0=>node x l r
   |m+1=>if ax (m%2) 0 then node v (QN k l (m/2) x) r else node v l (QN k r (m/2) x))
def set (t:PT α) (n:Nat) (x:M α):PT α:=QN (n+1) t n x
def Bj:∀(k:Nat) (t:PT α) (n:Nat) (x:M α),n<k->∀i,(QN k t n x).get i=if i=n then x else t.get i
 |0,_,_,_,h,_=>cN h (ll _)
 |k+1,t,n,x,h,i=>by
  cases n with
  |zero=>
   cases t<;>cases i<;>simp[QN,get]
  |succ m=>
   have hm:m/2<k:=by have:=Nat.div_le_self m 2;omega
   cases t with
   |leaf=>
    simp only[QN];cases D:ax (m%2) 0 with
    |true=>
     have A:m%2=0:=av D;simp only[bw];cases i with
     |zero=>simp[get]
     |succ j=>
      simp only[get];cases z:ax (j%2) 0 with
      |true=>
       have d:j%2=0:=av z;simp only[bw];rw[Bj k _ _ _ hm];by_cases he:j/2=m/2
       .rw[aG he,aG (by omega)]
       .rw[aA he,aA (by omega)];rfl
      |false=>
       have d:¬j%2=0:=iD z;simp only[bM,c8];rw[aA (by omega)]
    |false=>
     have A:¬m%2=0:=iD D;simp only[bM,c8];cases i with
     |zero=>simp[get]
     |succ j=>
      simp only[get];cases z:ax (j%2) 0 with
      |true=>
       have d:j%2=0:=av z;simp only[bw];rw[aA (by omega)]
      |false=>
       have d:¬j%2=0:=iD z;simp only[bM,c8];rw[Bj k _ _ _ hm];by_cases he:j/2=m/2
       .rw[aG he,aG (by omega)]
       .rw[aA he,aA (by omega)];rfl
   |node v l r=>
    simp only[QN];cases D:ax (m%2) 0 with
    |true=>
     have A:m%2=0:=av D;simp only[bw];cases i with
     |zero=>simp[get]
     |succ j=>
      simp only[get];cases z:ax (j%2) 0 with
      |true=>
       have d:j%2=0:=av z;simp only[bw];rw[Bj k _ _ _ hm];by_cases he:j/2=m/2
       .rw[aG he,aG (by omega)]
       .rw[aA he,aA (by omega)]
      |false=>
       have d:¬j%2=0:=iD z;simp only[bM,c8];rw[aA (by omega)]
    |false=>
     have A:¬m%2=0:=iD D;simp only[bM,c8];cases i with
     |zero=>simp[get]
     |succ j=>
      simp only[get];cases z:ax (j%2) 0 with
      |true=>
       have d:j%2=0:=av z;simp only[bw];rw[aA (by omega)]
      |false=>
       have d:¬j%2=0:=iD z;simp only[bM,c8];rw[Bj k _ _ _ hm];by_cases he:j/2=m/2
       .rw[aG he,aG (by omega)]
       .rw[aA he,aA (by omega)]
def get_set (t:PT α) (n:Nat) (x:M α) (i:Nat):(t.set n x).get i=if i=n then x else t.get i:=Bj (n+1) t n x (by omega) i
variable {R:Type}
def mask :PT α->PT R->PT α
 |leaf,_|node _ _ _,leaf=>leaf
 |node v l r,node u l' d=>node (match u with|some _=>v|none=>U) (mask l l') (mask r d)
def mk:M α->PT α->PT α->PT α
 |none,leaf,leaf=>leaf
 |v,l,r=>node v l r
def only (m:Nat):Nat->Nat->PT α->PT α
 |_,_,leaf=>leaf
 |a,b,node v l r=>mk (if aO m b then v else U) (only m (2*a) (a+b) l) (only m (2*a) (2*a+b) r)
def exc (m:Nat):Nat->Nat->PT α->PT α
 |_,_,leaf=>leaf
 |a,b,node v l r=>mk (if aO m b then U else v) (exc m (2*a) (a+b) l) (exc m (2*a) (2*a+b) r)
def merge (m:Nat):Nat->Nat->PT α->PT α->PT α
 |a,b,leaf,t=>only m a b t
 |a,b,node v l r,leaf=>exc m a b (node v l r)
 |a,b,node v l r,node d l' z=>mk (if aO m b then d else v) (merge m (2*a) (a+b) l l') (merge m (2*a) (2*a+b) r z)
def all (p:Nat->α->Bool):Nat->Nat->PT α->Bool
 |_,_,leaf=>J
 |a,b,node v l r=>(match v with|some x=>p b x|none=>J)&&all p (2*a) (a+b) l&&all p (2*a) (2*a+b) r
def get_all (p:Nat->α->Bool):∀(t:PT α) (a b i:Nat) (x:α),all p a b t=J->t.get i=Z x->p (a*i+b) x=J
 |leaf,_,_,_,_,_,h=>by simp[get]at h
 |node v l r,a,b,0,x,h,d=>by
  simp only[get]at d;subst d;simp only[all,au]at h;rw[Nat.mul_zero,bO];exact h.1.1
 |node v l r,a,b,j+1,x,h,d=>by
  simp only[all,au]at h;simp only[get]at d;cases z:ax (j%2) 0 with
  |true=>
   have A:j%2=0:=av z;simp only[z,bw]at d;have key:=get_all p l _ _ _ x h.1.2 d;have:2*a*(j/2)+(a+b)=a*(j+1)+b:=by
    have e:j=2*(j/2):=by omega
    calc 2*a*(j/2)+(a+b)=a*(2*(j/2))+a+b:=by rw[wH 2 a,Eh];omega
     _=a*(j+1)+b:=by rw[<- e,Nat.mul_add];omega
   rw[this]at key;exact key
  |false=>
   have A:¬j%2=0:=iD z;simp only[z,bM,c8]at d;have key:=get_all p r _ _ _ x h.2 d;have:2*a*(j/2)+(2*a+b)=a*(j+1)+b:=by
    have e:j=2*(j/2)+1:=by omega
    have h2:a*(j+1)=a*(2*(j/2))+2*a:=by
     calc a*(j+1)=a*(2*(j/2)+2):=by rw[show j+1=2*(j/2)+2 from by omega]
      _=a*(2*(j/2))+2*a:=by rw[Nat.mul_add];omega
    have D:2*a*(j/2)=a*(2*(j/2)):=by rw[wH 2 a,Eh]
    omega
   rw[this]at key;exact key
def dom:Nat->Nat->PT α->Nat->Nat
 |_,_,leaf,acc=>acc
 |a,b,node v l r,acc=>dom (2*a) (a+b) l (dom (2*a) (2*a+b) r (match v with|some _=>acc|||(1<<<b)|none=>acc))
def emp:PT α:=leaf
end PT
abbrev Dp:=PT AV
abbrev m7:=PT kx
abbrev NW:=Y (Nat×kx)
def Dp.put (e:Dp):M Nat->AV->Dp
 |none,_=>e
 |some d,x=>e.set d (Z x)
def j6:NW->HF
 |[],_=>U
 |(s,x)::r,t=>if ax s t then Z x else j6 r t
def Kt (acc:ι) (s:Nat) (e:Edge):Nat:=if BT .any e then (s|||2^e.on)|||acc.getD e.on 0 else s
def Ng:Y Oper->ι->ι
 |[],acc=>acc
 |o::r,acc=>Ng r (acc++[o.after.toList.foldl (Kt acc) 0])
def Nh {o:Nat} {acc:ι} (A:r[o]? =Z k) (F:∀(j:Nat) B,acc[j]? =Z B->∀i,B.testBit i=J->Bef r j i):
 ∀(es:Y Edge) (s:Nat),(∀e∈es,e∈k.after)->(∀i,s.testBit i=J->Bef r o i)->∀i,(es.foldl (Kt acc) s).testBit i=J->Bef r o i
 |[],s,_,d,i,hi=>d i hi
 |e::ops,s,he,d,i,hi=>by
  refine Nh A F ops (Kt acc s e) (λL h'=>he L (b8 _ h')) (λi hi=>?_) i hi;unfold Kt at hi;split at hi
  .rename_i D;rw[bA,bA,jN,jN]at hi;rcases hi with (hi|hi)|hi
   .exact d i hi
   .rw[Nat.testBit_two_pow]at hi;have:e.on=i:=by simpa using hi
    subst this;exact .one A (he e (c_ ..)) D
   .refine .more A (he e (c_ ..)) D ?_;rw[aB]at hi;cases z:acc[e.on]? with
    |none=>rw[z]at hi;simp at hi
    |some C=>rw[z]at hi;exact F _ C z i hi
  .exact d i hi
def Qo {ops:Array Oper}:∀(rest:Y Oper) (acc:ι),(∀(j:Nat),∀o,rest[j]? =Z o->ops[l! acc+j]? =Z o)->
 (∀(j:Nat) B,acc[j]? =Z B->∀i,B.testBit i=J->Bef ops j i)->∀(j:Nat) B,(Ng rest acc)[j]? =Z B->∀i,B.testBit i=J->Bef ops j i
 |[],acc,_,z=>z
 |o::r,acc,A,z=>by
  refine Qo r _ (λj D d=>?_) ?_
  .rw[bG,bP,show (l! acc)+1+j=l! acc+(j+1) from by omega];exact A (j+1) D (by simpa using d)
  .intro j B d i hi;rcases bu j (l! acc) with h|h
   .rw[bz h]at d;exact z j B d i hi
   .rw[bU h]at d;have F:j-l! acc=0:=by
     rcases oQ (j-l! acc) with h0|h0
     .exact h0
     .rw[bK (by simp;omega)]at d;cases d
    have hjl:j=l! acc:=by omega
    subst hjl;simp at d;subst d;have hoo:ops[l! acc]? =Z o:=by simpa using A 0 o rfl
    rw[<- Array.foldl_toList]at hi;exact Nh hoo z _ 0 (λe he=>by simpa using he) (λi hi=>by simp at hi) i hi
inductive O1 where
 |mv (x:Operand)
 |pick (c a b:Operand)
 |alloc (ty:TypeId) (z:ξ)
 |box (ty:TypeId) (x:Operand)
 |build (z:ξ) (parts:List (Nat×Nat×Operand))
 |xx (ty:TypeId) (sz len:Nat) (z:ξ) (parts:List (Nat×Nat×Operand))
 |load (sz:Nat) (ag:Bool) (x:Operand)
 |store (sz:Nat) (x v:Operand)
 |zd (x:Operand)
 |bin (op:BinOp) (x y:Operand)
 |jp (neg:Bool) (ds:List TypeDesc) (x y:Operand)
 |zf (neg:Bool) (x:Operand)
 |xz (neg:Bool) (x y:Operand)
 |not (x:Operand)
 |conv (k:IntKind) (x:Operand)
 |zg (ty:TypeId) (sz bytes:Nat) (z:ξ) (l c:Operand)
 |slc (sz:Nat) (x:Operand) (lo hi mx:Option Operand)
 |jk (off:Nat) (x:Operand)
 |fld (off sz:Nat) (ag:Bool) (x:Operand)
 |jy (sz:Nat) (x i:Operand)
 |jq (n sz:Nat) (x i:Operand)
 |idx (n sz:Nat) (ag:Bool) (x i:Operand)
 |ext (x:Operand) (i:Nat)
 |len (x:Operand)
 |lens (x:Operand)
 |jz (x:Operand)
 |max (x y:Operand)
 |min (x y:Operand)
 |zr (x i:Operand)
 |app (ty:TypeId) (sz bytes:Nat) (s x:Operand)
 |copy (sz:Nat) (d x:Operand)
 |clr (sz:Nat) (z:ξ) (x:Operand)
 |mkf (f:FuncId) (caps:List Operand)
 |mkm
 |jv (str ok:Bool) (z:Value) (x k:Operand)
 |jw (str:Bool) (x k v:Operand)
 |rng (x:Operand)
 |nxt (x:Operand)
 |zn (neg:Bool) (x:Operand)
 |xq (ds:List TypeDesc) (z:Value) (x k:Operand)
 |jh (ds:List TypeDesc) (x k v:Operand)
 |xj (ds:List TypeDesc) (x k:Operand)
 |zm
inductive SI where
 |op (s:O1)
 |call (f:FuncId) (args:List Operand)
 |jx (x:Operand) (args:List Operand)
def mem (t:Nat):ι->Bool
 |[]=>aa
 |x::r=>ax x t||mem t r
def Na:ξ->Bool
 |[]=>J
 |v::r=>v.oneCell'&&Na r
def Hl:Value->AV
 |.agg vs=>if Na vs.toList then .agg (vs.toList.map λv=>.f (.raw v)) else .f (.raw (.agg vs))
 |v=>.f (.raw v)
def mf (e:Dp):Operand->M AV
 |.tmp t=>e.get t
 |.const v=>Z (Hl v)
 |.func g=>Z (.qy g [])
 |.global g=>match G g with|some cells=>Z (.f (.H cells 0))|none=>U
def evs (e:Dp):Y Operand->M (Y AV)
 |[]=>Z []
 |x::xs=>match mf e x with|some y=>(match evs e xs with|some d=>Z (y::d)|none=>U)|none=>U
structure Co where
 val:AV
 rd:ι
 wr:ι
 nw:NW
 N:ι
def Co.eff (r:Co):Dq:=⟨r.val,r.rd,r.wr,j6 r.nw,r.N⟩
def rv (x:AV):M Co:=Z ⟨x,[],[],[],[]⟩
def raw (v:Value):AV:=.f (.raw v)
def pkV (ok:Bool) (v:AV) (b:Bool):AV:=match ok with|true=>.qg [v,raw (.bool b)]|false=>v
def yA:Y AV->M (Y FV)
 |[]=>Z []
 |.f x::r=>match yA r with|some l=>Z (x::l)|none=>U
 |_::_=>U
def nX (l:Y AV):BC:=match yA l with|some d=>.fz d|none=>.mx l
def Pz (l:Y AV):AV:=match yA l with|some d=>.f (.agg d)|none=>.agg l
variable {R:Type}
def splice (l:Y R) (off:Nat) (vs:Y R):Y R:=l.take off++vs++l.drop (off+l! vs)
def BC.toMx:BC->Y AV
 |.fz l=>l.map .f
 |.mx l=>l
 |_=>[]
def gu:Y AV->Bool
 |[]=>J
 |x::r=>x.isCell&&gu r
def BC.put (c:BC) (off:Nat) (vs:Y AV):M BC:=
 if c.isCells&&dK (off+l! vs) c.len&&gu vs then
  match c,yA vs with
  |.fz l,Z d=>Z (.fz (splice l off d))
  |c,_=>Z (.mx (splice c.toMx off vs))
 else U
def BC.sub? (c:BC) (off sz:Nat):Bool->M AV
 |false=>match sz with|1=>c.get off|_=>U
 |true=>match c with
  |.fz l=>if dK (off+sz) (l! l) then Z (.f (.agg ((l.drop off).take sz))) else U
  |.mx l=>if dK (off+sz) (l! l) then Z (.agg ((l.drop off).take sz)) else U
  |_=>U
def AV.cs:AV->Y AV
 |.agg l=>l
 |.f (.agg l)=>l.map .f
 |x=>[x]
def xa (h:m7) (sz:Nat) (d:Bool):AV->M Co
 |.H id off=>match h.get id with
  |some b=>(match b.c.sub? off sz d with|some v=>Z ⟨v,[id],[],[],[]⟩|none=>U)
  |none=>U
 |.f (.H cells off)=>(match (BC.fz cells).sub? off sz d with|some v=>rv v|none=>U)
 |_=>U
def BP (h:m7) (sz:Nat) (v:AV):AV->M Co
 |.H id off=>match h.get id with
  |some b=>if (l! v.cs)==sz then (match b.c.put off v.cs with|some c=>Z ⟨raw undef,[id],[id],[(id,⟨b.ty,c⟩)],[]⟩|none=>U) else U
  |none=>U
 |_=>U
abbrev m?:=Nat×Nat×Operand
def Bq (cells:Y AV) (e:Dp):Y m?->M (Y AV)
 |[]=>Z cells
 |(off,sz,x)::r=>match mf e x with
  |some v=>if (l! v.cs)==sz&&dK (off+sz) (l! cells)&&gu v.cs then Bq (splice cells off v.cs) e r else U
  |none=>U
def dj (a b:Int):Bool:=decide (a<=b)
def fM (a b:Int):Bool:=decide (a<b)
def Pb (k:IntKind) (n:Int):Int:=
 match k with
 |.i64=>if dj (-9223372036854775808) n&&dj n 9223372036854775807 then n else pW .i64 n
 |.u8=>if dj 0 n&&dj n 255 then n else pW .u8 n
 |k=>pW k n
def nok:Int->Bool
 |.ofNat k|.negSucc k=>ax k k
def aqa (n:Int):nok n=J:=by cases n<;>exact eP _
def be (k:IntKind) (n:Int):Int:=bif nok n then Pb k n else 0
def J5 (k:IntKind) (n:Int):be k n=Pb k n:=by unfold be;rw[aqa];rfl
def tH (a b:ByteArray):Bool:=a.data.toList==b.data.toList
def uY (op:BinOp):Value->Value->M Value
 |.int k a,.int d b=>if k==d then
   match op with
   |.add=>Z (.int k (be k (a+b)))
   |.sub=>Z (.int k (be k (a-b)))
   |.mul=>Z (.int k (be k (a*b)))
   |.rem=>if b==0 then U else Z (.int k (a.tmod b))
   |.quo=>if b==0 then U else Z (.int k (be k (a.tdiv b)))
   |.eql=>Z (.bool (a==b))
   |.neq=>Z (.bool (a !=b))
   |.lss=>Z (.bool (fM a b))
   |.leq=>Z (.bool (dj a b))
   |.gtr=>Z (.bool (fM b a))
   |.geq=>Z (.bool (dj b a))
   |_=>U
  else U
 |.string a,.string b=>match op with
   |.eql=>Z (.bool (tH a b))
   |.neq=>Z (.bool !(tH a b))
   |_=>U
 |_,_=>U
def vU:TypeDesc->FV->FV->M Bool
 |.int _,.raw (.int k a),.raw (.int d b)=>if k==d then Z (a==b) else U
 |.bool,.raw (.bool a),.raw (.bool b)=>Z (a==b)
 |.string,.raw (.string a),.raw (.string b)=>Z (tH a b)
 |_,_,_=>U
def jQ:Y TypeDesc->Y FV->Y FV->M Bool
 |[],[],[]=>Z J
 |d::ds,x::xs,y::z=>match vU d x y with
  |some J=>jQ ds xs z
  |some aa=>Z aa
  |none=>U
 |_,_,_=>U
def AV.row? (h:m7) (sz:Nat):AV->M (Y AV×Nat×ι)
 |.f (.sl cells n)=>if dK (n*sz) (l! cells) then Z ((cells.take (n*sz)).map .f,n,[]) else U
 |.f (.raw (.slice U 0 0))|.emp=>Z ([],0,[])
 |.G id sz' n=>if sz'==sz then (match h.get id with|some b=>if b.c.isCells&&dK (n*sz) b.c.len then Z (b.c.toMx.take (n*sz),n,[id]) else U|none=>U) else U
 |.sl id off n=>match h.get id with|some b=>if b.c.isCells&&dK (off+n*sz) b.c.len then Z ((b.c.toMx.drop off).take (n*sz),n,[id]) else U|none=>U
 |_=>U
def AV.slen:AV->M Nat
 |.f (.sl _ n)|.f (.raw (.slice _ n _))=>Z n
 |.emp=>Z 0
 |.G _ _ n|.sl _ _ n=>Z n
 |_=>U
def bh (n bytes:Nat):Bool:=dK n 1099511627776&&dK (n*bytes) 1099511627776
def repl (z:ξ):Nat->Y FV
 |0=>[]
 |n+1=>z.map .raw++repl z n
def uS:Value->Bool
 |.slice U 0 0=>J
 |_=>aa
def DM:AV->Bool
 |.emp=>J
 |.f (.raw v)=>uS v
 |_=>aa
def tg (k:Value):Y j?->M (M AV)
 |[]=>Z U
 |(d,v)::r=>match uY .eql k d with
  |some (.bool J)=>Z (Z v)
  |some (.bool aa)=>tg k r
  |_=>U
def yY (k:Value) (v:AV):Y j?->M (Y j?)
 |[]=>Z [(k,v)]
 |(d,z)::r=>match uY .eql k d with
  |some (.bool J)=>Z ((k,v)::r)
  |some (.bool aa)=>(match yY k v r with|some A=>Z ((d,z)::A)|none=>U)
  |_=>U
def HQ:Y FV->M ξ
 |[]=>Z []
 |.raw v::r=>match HQ r with|some l=>Z (v::l)|none=>U
 |_::_=>U
def aac:AV->M ξ
 |.f (.agg l)=>HQ l
 |.agg l=>match yA l with|some d=>HQ d|none=>U
 |_=>U
def Xg (ds:Y TypeDesc) (y:AV):M ξ:=match aac y with
 |some l=>if (l! l)==l! ds then Z l else U
 |none=>U
def CX (ds:Y TypeDesc) (k:ξ):Value->M Bool
 |.agg d=>jQ ds (k.map .raw) (d.toList.map .raw)
 |_=>U
def HO (ds:Y TypeDesc) (k:ξ):Y j?->M (M AV)
 |[]=>Z U
 |(d,v)::r=>match CX ds k d with
  |some J=>Z (Z v)
  |some aa=>HO ds k r
  |none=>U
def WM (ds:Y TypeDesc) (k:ξ) (v:AV):Y j?->M (Y j?)
 |[]=>Z [(.agg k.toArray,v)]
 |(d,z)::r=>match CX ds k d with
  |some J=>Z ((.agg k.toArray,v)::r)
  |some aa=>(match WM ds k v r with|some A=>Z ((d,z)::A)|none=>U)
  |none=>U
def WN (ds:Y TypeDesc) (k:ξ):Y j?->M (Y j?)
 |[]=>Z []
 |(d,z)::r=>match CX ds k d with
  |some J=>Z r
  |some aa=>(match WN ds k r with|some A=>Z ((d,z)::A)|none=>U)
  |none=>U
def told (n:Int):Y j?->M AV
 |(.int .i64 k,v)::r=>if k=n then Z v else told n r
 |_=>U
def mN (n:Int) (y:AV):Y j?->Y j?
 |[]=>[]
 |p::r=>(p.1,match p.1 with|.int .i64 k=>if k=n then y else p.2|_=>p.2)::mN n y r
def xY:Bool->Value->Bool
 |false,.int _ _=>J
 |true,.string _=>J
 |_,_=>aa
def rnA (b:UInt8) (s:ByteArray) (p:Nat):Int:=bif dJ b.toNat 128 then b.toNat else (Az s p).1
def wdA (b:UInt8) (s:ByteArray) (p:Nat):Nat:=bif dJ b.toNat 128 then 1 else (Az s p).2
def dB (s:O1) (e:Dp) (h:m7) (nx:Nat):M Co:=
 match s with
 |.mv x=>match mf e x with|some v=>rv v|none=>U
 |.pick c a b=>match mf e c with
  |some (.f (.raw (.bool t)))=>(match mf e (if t then a else b) with|some v=>rv v|none=>U)
  |_=>U
 |.alloc ty z=>Z ⟨.H nx 0,[],[nx],[(nx,⟨ty,.fz (z.map .raw)⟩)],[nx]⟩
 |.box ty x=>match mf e x with
  |some v=>if gu v.cs then Z ⟨.H nx 0,[],[nx],[(nx,⟨ty,nX v.cs⟩)],[nx]⟩ else U
  |none=>U
 |.build z parts=>match Bq (z.map raw) e parts with|some cs=>rv (Pz cs)|none=>U
 |.xx ty sz len z parts=>match Bq ((repl z len).map .f) e parts with
  |some cs=>Z ⟨if len=0 then .emp else .G nx sz len,[],[nx],[(nx,⟨ty,nX cs⟩)],[nx]⟩
  |none=>U
 |.load sz A x=>match mf e x with|some p=>xa h sz A p|none=>U
 |.store sz x v=>match mf e x,mf e v with|some p,Z y=>BP h sz y p|_,_=>U
 |.zd x=>match mf e x with
  |some (.H id off)=>rv (.H id off)
  |some (.f (.H cells off))=>rv (.f (.H cells off))
  |some (.qy g cap)=>rv (.qy g cap)
  |_=>U
 |.bin op x y=>match mf e x,mf e y with
  |some (.f (.raw u)),Z (.f (.raw v))=>(match uY op u v with|some r=>rv (raw r)|none=>U)
  |_,_=>U
 |.jp neg ds x y=>match mf e x,mf e y with
  |some (.f (.agg a)),Z (.f (.agg b))=>(match jQ ds a b with|some r=>rv (raw (.bool (r !=neg)))|none=>U)
  |_,_=>U
 |.xz neg x y=>match mf e x,mf e y with
  |some (.f (.raw (.bool a))),Z (.f (.raw (.bool b)))=>rv (raw (.bool ((a==b) !=neg)))
  |_,_=>U
 |.zf neg x=>match mf e x with
  |some (.G _ _ _)|some (.sl _ _ _)|some (.f (.sl _ (_+1)))=>rv (raw (.bool neg))
  |some (.f (.sl _ 0))|some .emp=>rv .qv
  |some (.f (.raw v))=>if uS v then rv (raw (.bool !neg)) else U
  |_=>U
 |.not x=>match mf e x with|some (.f (.raw (.bool b)))=>rv (raw (.bool !b))|_=>U
 |.conv k x=>match mf e x with|some (.f (.raw (.int _ n)))=>rv (raw (.int k (be k n)))|_=>U
 |.zg ty sz bytes z l c=>match mf e l,mf e c with
  |some (.f (.raw (.int _ a))),Z (.f (.raw (.int _ b)))=>
   if dj 0 a&&dj a b&&bh b.toNat bytes then Z ⟨.G nx sz a.toNat,[],[nx],[(nx,⟨ty,.fz (repl z a.toNat)⟩)],[nx]⟩ else U
  |_,_=>U
 |.slc sz x D hi mx=>match mf e x with
  |some v=>match D,hi,mx with
   |none,Z (.const (.int _ 0)),Z (.const (.int _ 0))=>if v.slen.isSome then rv .emp else U
   |none,Z b,U=>match v,mf e b with
    |.G id sz' n,Z (.f (.raw (.int _ j)))=>if sz'==sz&&dj 0 j&&dj j n then (match h.get id with
     |some blk=>if blk.c.isCells&&dK (n*sz) blk.c.len then Z ⟨.G nx sz j.toNat,[id],[nx,id],[(nx,⟨blk.ty,nX (blk.c.toMx.take (j.toNat*sz))⟩)],[nx]⟩ else U
     |none=>U) else U
    |.f (.sl cells n),Z (.f (.raw (.int _ j)))=>if dj 0 j&&dj j n&&dK (n*sz) (l! cells) then rv (.f (.sl (cells.take (j.toNat*sz)) j.toNat)) else U
    |_,_=>U
   |some b,U,U=>match v,mf e b with
    |.G id sz' n,Z (.f (.raw (.int _ j)))=>if sz'==sz&&dj 0 j&&fM j n then rv (.sl id (j.toNat*sz) (n-j.toNat)) else U
    |.f (.sl cells n),Z (.f (.raw (.int _ j)))=>if dj 0 j&&dj j n&&dK (n*sz) (l! cells) then rv (.f (.sl ((cells.drop (j.toNat*sz)).take ((n-j.toNat)*sz)) (n-j.toNat))) else U
    |_,_=>U
   |none,Z b,Z b'=>match v,mf e b,mf e b' with
    |.f (.sl cells n),Z (.f (.raw (.int _ j))),Z (.f (.raw (.int _ F)))=>if decide (j=F)&&dj 0 j&&dj j n&&dK (n*sz) (l! cells) then rv (.qd (cells.take (j.toNat*sz)) j.toNat) else U
    |_,_,_=>U
   |_,_,_=>U
  |none=>U
 |.jk off x=>match mf e x with
  |some (.H id o)=>rv (.H id (o+off))
  |some (.f (.H cells o))=>rv (.f (.H cells (o+off)))
  |_=>U
 |.fld off sz A x=>match mf e x with
  |some (.agg l)=>(match (BC.mx l).sub? off sz A with|some v=>rv v|none=>U)
  |some (.f (.agg l))=>(match (BC.fz l).sub? off sz A with|some v=>rv v|none=>U)
  |_=>U
 |.jy sz x i=>match mf e x,mf e i with
  |some v,Z (.f (.raw (.int _ j)))=>match v with
   |.G id sz' n=>if sz'==sz&&dj 0 j&&fM j n then rv (.H id (j.toNat*sz)) else U
   |.sl id off n=>if dj 0 j&&fM j n then rv (.H id (off+j.toNat*sz)) else U
   |.f (.sl cells n)=>if dj 0 j&&fM j n then rv (.f (.H cells (j.toNat*sz))) else U
   |_=>U
  |_,_=>U
 |.jq n sz x i=>match mf e x,mf e i with
  |some v,Z (.f (.raw (.int _ j)))=>if dj 0 j&&fM j n then (match v with
   |.H id off=>rv (.H id (off+j.toNat*sz))
   |.f (.H cells off)=>rv (.f (.H cells (off+j.toNat*sz)))
   |_=>U) else U
  |_,_=>U
 |.idx n sz A x i=>match mf e x,mf e i with
  |some v,Z (.f (.raw (.int _ j)))=>if dj 0 j&&fM j n then (match v with
   |.agg l=>(match (BC.mx l).sub? (j.toNat*sz) sz A with|some v=>rv v|none=>U)
   |.f (.agg l)=>(match (BC.fz l).sub? (j.toNat*sz) sz A with|some v=>rv v|none=>U)
   |_=>U) else U
  |_,_=>U
 |.ext x i=>match mf e x with|some (.qg l)=>(match l[i]? with|some v=>rv v|none=>U)|_=>U
 |.len x=>match mf e x with
  |some v=>(match v.slen with|some n=>rv (raw (.int .i64 n))|none=>U)
  |none=>U
 |.lens x=>match mf e x with
  |some (.f (.raw (.string s)))=>rv (raw (.int .i64 (l! s.data.toList)))
  |_=>U
 |.jz x=>match mf e x with
  |some (.mp id)=>(match h.get id with|some ⟨0,.mp es⟩=>Z ⟨raw (.int .i64 (l! es)),[id],[],[],[]⟩|_=>U)
  |_=>U
 |.max x y=>match mf e x,mf e y with
  |some (.f (.raw (.int k a))),Z (.f (.raw (.int _ b)))=>rv (raw (.int k (if fM a b then b else a)))
  |_,_=>U
 |.min x y=>match mf e x,mf e y with
  |some (.f (.raw (.int k a))),Z (.f (.raw (.int _ b)))=>rv (raw (.int k (if fM b a then b else a)))
  |_,_=>U
 |.zr x i=>match mf e x,mf e i with
  |some (.f (.raw (.string s))),Z (.f (.raw (.int _ j)))=>if dj 0 j then (match s.data.toList[j.toNat]? with|some b=>rv (raw (.int .u8 b.toNat))|none=>U) else U
  |_,_=>U
 |.app ty sz bytes s x=>match mf e s,mf e x with
  |some b,Z y=>match y.row? h sz with
   |some (src,m,rd)=>match b with
    |.G id sz' n=>match h.get id with
     |some blk=>if sz'==sz&& !(mem id rd)&&blk.c.isCells&&dK (n*sz) blk.c.len&&blk.ty==ty&&bh (n+m) bytes then
       Z ⟨.G nx sz (n+m),id::rd,[nx,id],[(nx,⟨ty,nX (blk.c.toMx.take (n*sz)++src)⟩)],[nx]⟩ else U
     |none=>U
    |.qd cells n=>if dK (n*sz) (l! cells)&&bh (n+m) bytes then
      (if m==0 then Z ⟨.f (.sl cells n),rd,[],[],[]⟩ else Z ⟨.G nx sz (n+m),rd,[nx],[(nx,⟨ty,nX ((cells.take (n*sz)).map .f++src)⟩)],[nx]⟩) else U
    |b=>if DM b&&bh m bytes then
      (if m==0 then Z ⟨b,rd,[],[],[]⟩ else Z ⟨.G nx sz m,rd,[nx],[(nx,⟨ty,nX src⟩)],[nx]⟩) else U
   |none=>U
  |_,_=>U
 |.copy sz d x=>match mf e d,mf e x with
  |some (.G id sz' n),Z y=>(match h.get id,y.row? h sz with
   |some blk,Z (src,m,rd)=>if sz'==sz&& !(mem id rd)&&dK (n*sz) blk.c.len then
     (match blk.c.put 0 (src.take (jM m n*sz)) with
     |some c=>Z ⟨raw (.int .i64 (jM m n)),id::rd,[id],[(id,⟨blk.ty,c⟩)],[]⟩
     |none=>U) else U
   |_,_=>U)
  |_,_=>U
 |.clr _ z x=>match mf e x with
  |some (.sl id off n)=>(match h.get id with
   |some blk=>if dJ 0 n then (match blk.c.put off ((repl z n).map .f) with
    |some c=>Z ⟨.qg [],[id],[id],[(id,⟨blk.ty,c⟩)],[]⟩
    |none=>U) else U
   |none=>U)
  |_=>U
 |.mkf f caps=>match evs e caps with|some l=>rv (.qy f l)|none=>U
 |.mkm=>Z ⟨.mp nx,[],[nx],[(nx,⟨0,.mp []⟩)],[nx]⟩
 |.jv str ok z x k=>match mf e x,mf e k with
  |some (.mp id),Z (.f (.raw key))=>(match h.get id with
   |some ⟨0,.mp es⟩=>if xY str key then (match tg key es with|some (Z v)=>Z ⟨pkV ok v J,[id],[],[],[]⟩|some U=>Z ⟨pkV ok (raw z) aa,[id],[],[],[]⟩|none=>U) else U
   |some ⟨_+1,.mp es⟩=>(match key with
    |.int .i64 n=>if !str&&(!ok&&uS z) then (match told n es with|some v=>Z ⟨v,[id],[],[],[]⟩|none=>U) else U
    |_=>U)
   |_=>U)
  |_,_=>U
 |.jw str x k v=>match mf e x,mf e k,mf e v with
  |some (.mp id),Z (.f (.raw key)),Z y=>(match h.get id with
   |some ⟨0,.mp es⟩=>if xY str key then (match yY key y es with|some es'=>Z ⟨raw undef,[id],[id],[(id,⟨0,.mp es'⟩)],[]⟩|none=>U) else U
   |some ⟨ty+1,.mp es⟩=>(match key with
    |.int .i64 n=>if str then U else Z ⟨raw undef,[id],[id],[(id,⟨ty+1,.mp (mN n y es)⟩)],[]⟩
    |_=>U)
   |_=>U)
  |_,_,_=>U
 |.rng x=>match mf e x with
  |some (.f (.raw (.string s)))=>Z ⟨.H nx 0,[],[nx],[(nx,⟨0,.it s 0⟩)],[nx]⟩
  |_=>U
 |.nxt x=>match mf e x with
  |some (.H id 0)=>(match h.get id with
   |some ⟨ty,.it s p⟩=>(match s.data.toList[p]? with
    |some b=>Z ⟨.qg [raw (.bool J),raw (.int .i64 p),raw (.int .i32 (rnA b s p))],[id],[id],[(id,⟨ty,.it s (p+wdA b s p)⟩)],[]⟩
    |none=>Z ⟨.qg [raw (.bool aa)],[id],[id],[(id,⟨ty,.it s p⟩)],[]⟩)
   |_=>U)
  |_=>U
 |.zn neg x=>match mf e x with
  |some (.H _ _)|some (.f (.H _ _))=>rv (raw (.bool neg))
  |some (.f (.raw (.pointer U)))=>rv (raw (.bool !neg))
  |_=>U
 |.xq ds z x k=>match mf e x,(mf e k).bind (Xg ds) with
  |some (.mp id),Z key=>(match h.get id with
   |some ⟨0,.mp es⟩=>(match HO ds key es with
    |some (Z v)=>Z ⟨v,[id],[],[],[]⟩
    |some U=>Z ⟨raw z,[id],[],[],[]⟩
    |none=>U)
   |_=>U)
  |_,_=>U
 |.jh ds x k v=>match mf e x,(mf e k).bind (Xg ds),mf e v with
  |some (.mp id),Z key,Z y=>(match h.get id with
   |some ⟨0,.mp es⟩=>(match WM ds key y es with|some es'=>Z ⟨raw undef,[id],[id],[(id,⟨0,.mp es'⟩)],[]⟩|none=>U)
   |_=>U)
  |_,_,_=>U
 |.xj ds x k=>match mf e x,(mf e k).bind (Xg ds) with
  |some (.mp id),Z key=>(match h.get id with
   |some ⟨0,.mp es⟩=>(match WN ds key es with|some es'=>Z ⟨.qg [],[id],[id],[(id,⟨0,.mp es'⟩)],[]⟩|none=>U)
   |_=>U)
  |_,_=>U
 |.zm=>U
structure t8 where
 dst:Option Nat
 op:SI
 guard:Option (Nat×Bool)
inductive SC where
 |skip
 |zl (ops:List t8) (prs:List (Nat×Nat))
 |seq (a b:SC)
 |cond (c:Nat) (a b:SC)
 |block (id:Nat) (b:SC)
 |loop (b:SC)
 |exit (id:Nat)
 |ret
 |defer (f:FuncId) (caps:List Operand) (t:Nat)
 |zm
structure at3 where
 val:AV
 h:m7
 nx:Nat
 wr:Nat
abbrev Z1:=FuncId->Y AV->m7->Nat->M at3
mutual
def AV.ids:AV->Nat->Nat
 |.H id _,acc|.sl id _ _,acc|.G id _ _,acc|.mp id,acc=>acc|||(1<<<id)
 |.agg l,acc|.qg l,acc|.qy _ l,acc=>AV.idsL l acc
 |.f _,acc|.emp,acc|.qv,acc|.qd _ _,acc=>acc
def AV.idsL:Y AV->Nat->Nat
 |[],acc=>acc
 |x::r,acc=>AV.idsL r (AV.ids x acc)
end
mutual
def AV.all (p:Nat->Bool):AV->Bool
 |.H id _|.sl id _ _|.G id _ _|.mp id=>p id
 |.agg l|.qg l|.qy _ l=>AV.allL p l
 |.f _=>J
 |.emp=>J
 |.qv=>J
 |.qd _ _=>J
def AV.allL (p:Nat->Bool):Y AV->Bool
 |[]=>J
 |x::r=>AV.all p x&&AV.allL p r
end
def BC.ids:BC->Nat->Nat
 |.mx l,acc=>AV.idsL l acc
 |.mp es,acc=>AV.idsL (es.map (·.2)) acc
 |_,acc=>acc
def BC.all (p:Nat->Bool):BC->Bool
 |.mx l=>AV.allL p l
 |.mp es=>AV.allL p (es.map (·.2))
 |_=>J
def m7.all (p:Nat->Bool) (h:m7):Bool:=PT.all (λi b=>p i&&b.c.all p) 1 0 h
def Y2:Nat->m7->Nat->Nat->Nat
 |0,_,_,NY=>NY
 |n+1,h,todo,NY=>
  if ax todo 0 then NY else
  match Nat.log2 todo with
  |id=>if aO NY id then Y2 n h (todo ^^^ (1<<<id)) NY else
   match h.get id with
   |some b=>Y2 n h (b.c.ids (todo ^^^ (1<<<id))) (NY|||(1<<<id))
   |none=>Y2 n h (todo ^^^ (1<<<id)) NY
section force
variable {α:Type}
def uq (n:Nat) (k:Nat->α):α:=match n with|0=>k 0|m+1=>k (m+1)
def frcI (n:Int) (k:Int->α):α:=match n with|.ofNat m=>uq m λm=>k (.ofNat m)|.negSucc m=>uq m λm=>k (.negSucc m)
def frcB (b:Bool) (k:Bool->α):α:=match b with|true=>k J|false=>k aa
def frcV (v:Value) (k:Value->α):α:=match v with
 |.int kd n=>frcI n λn=>k (.int kd n)
 |.bool b=>frcB b λb=>k (.bool b)
 |v=>k v
def aqo (x:FV) (k:FV->α):α:=match x with
 |.raw v=>frcV v λv=>k (.raw v)
 |.H cells off=>uq off λoff=>k (.H cells off)
 |.sl cells n=>uq n λn=>k (.sl cells n)
 |.agg l=>k (.agg l)
def afr:Y FV->(Y FV->α)->α
 |[],k=>k []
 |x::r,k=>aqo x λx=>afr r λr=>k (x::r)
def aqn (x:FV) (k:FV->α):α:=match x with
 |.agg l=>afr l λl=>k (.agg l)
 |x=>aqo x k
def alv (x:AV) (k:AV->α):α:=match x with
 |.f x=>aqn x λx=>k (.f x)
 |.H id off=>uq id λid=>uq off λoff=>k (.H id off)
 |.sl id off n=>uq id λid=>uq off λoff=>uq n λn=>k (.sl id off n)
 |.G id sz n=>uq id λid=>uq sz λsz=>uq n λn=>k (.G id sz n)
 |.mp id=>uq id λid=>k (.mp id)
 |x=>k x
def Uv:Y AV->(Y AV->α)->α
 |[],k=>k []
 |x::r,k=>alv x λx=>Uv r λr=>k (x::r)
def aqp (x:AV) (k:AV->α):α:=match x with
 |.agg l=>Uv l λl=>k (.agg l)
 |.qg l=>Uv l λl=>k (.qg l)
 |.qy f l=>Uv l λl=>k (.qy f l)
 |x=>alv x k
def frcC (c:BC) (k:BC->α):α:=match c with
 |.fz l=>afr l λl=>k (.fz l)
 |.mx l=>Uv l λl=>k (.mx l)
 |.it s p=>uq p λp=>k (.it s p)
 |.mp es=>k (.mp es)
def Uu :PT R->(PT R->α)->α
 |.leaf,k=>k .leaf
 |.node v l r,k=>(match v with
  |none=>λ(k:M R->α)=>k U
  |some x=>λk=>k (Z x)) λv=>Uu l λl=>Uu r λr=>k (.node v l r)
def WJ :Nat->PT R->Nat->M R->(PT R->α)->α
 |0,t,_,_,k=>k t
 |f+1,t,n,x,k=>match t with
  |.leaf=>(match n with
   |0=>k (.node x .leaf .leaf)
   |m+1=>if ax (m%2) 0 then uq (m/2) λq=>WJ f .leaf q x λu=>k (.node U u .leaf) else uq (m/2) λq=>WJ f .leaf q x λu=>k (.node U .leaf u))
  |.node v l r=>(match n with
   |0=>k (.node x l r)
   |m+1=>if ax (m%2) 0 then uq (m/2) λq=>WJ f l q x λu=>k (.node v u r) else uq (m/2) λq=>WJ f r q x λu=>k (.node v l u))
def Ry :∀(x:PT R) (k:PT R->α),Uu x k=k x
 |.leaf,_=>rfl
 |.node v l r,k=>by cases v<;>simp only[Uu,Ry l,Ry r]
end force
structure IS where
 e:Dp
 h:m7
 nx:Nat
 wr:Nat
structure am9 where
 val:AV
 rd:Nat
 wr:Nat
 h:m7
 nx:Nat
def bits:ι->Nat->Nat
 |[],acc=>acc
 |x::r,acc=>bits r (acc|||(1<<<x))
def aml (h:m7) (d:NW):ι->(m7->R)->R
 |[],k=>k h
 |i::r,k=>match j6 d i with
  |none=>WJ (i+1) h i U λh=>aml h d r k
  |some ⟨ty,c⟩=>frcC c λc=>WJ (i+1) h i (Z ⟨ty,c⟩) λh=>aml h d r k
def aly (call:Z1) (f:FuncId) (args:Y AV) (h:m7) (nx:Nat):M am9:=
 uq (Y2 1000000 h (AV.idsL args 0) 0) λids=>Uu (PT.only ids 1 0 h) λz=>
 if AV.allL (dJ · nx) args&&m7.all (dJ · nx) z then
  match call f args z nx with
  |some ⟨val,h',nx',d⟩=>aqp val λval=>uq nx' λnx'=>uq d λd=>Uu (PT.merge d 1 0 h h') λhm=>Z ⟨val,ids,d,hm,nx'⟩
  |none=>U
 else U
def opA (call:Z1) (o:SI) (e:Dp) (h:m7) (nx:Nat):M am9:=
 match o with
 |.call f args=>match evs e args with|some l=>aly call f l h nx|none=>U
 |.jx x args=>match mf e x,evs e args with|some (.qy f cap),Z l=>aly call f (l++cap) h nx|_,_=>U
 |.op o=>match dB o e h nx with
  |some ⟨val,rd,d,A,N⟩=>aqp val λval=>uq (bits rd 0) λrd=>uq (bits d 0) λz=>uq (nx+l! N) λnx'=>aml h A d λh=>Z ⟨val,rd,z,h,nx'⟩
  |none=>U
def apv (e:Dp):M (Nat×Bool)->M Bool
 |none=>Z J
 |some (t,want)=>match e.get t with
  |some (.f (.raw (.bool b)))=>Z (b==want)
  |some (.f (.raw (.tuple _)))=>Z aa
  |_=>U
def amy (e:Dp) (dst:M Nat) (v:AV) (k:Dp->R):R:=match dst with
 |none=>k e
 |some d=>WJ (d+1) e d (Z v) k
structure FPm where
 rd:Nat
 wr:Nat
def WR (call:Z1):Y t8->IS->M (IS×Y FPm)
 |[],s=>Z (s,[])
 |o::r,⟨e,h,nx,A⟩=>
  match apv e o.guard with
  |some J=>(match opA call o.op e h nx with
   |some ⟨val,rd,w,h',nx'⟩=>amy e o.dst val λz=>uq (A|||w) λwr'=>(match WR call r ⟨z,h',nx',wr'⟩ with
    |some (s',d)=>Z (s',⟨rd,w⟩::d)
    |none=>U)
   |none=>U)
  |some aa=>amy e o.dst (raw undef) λz=>(match WR call r ⟨z,h,nx,A⟩ with
   |some (s',d)=>Z (s',⟨0,0⟩::d)
   |none=>U)
  |none=>U
def aat:Y FPm->Nat->M FPm
 |[],_=>U
 |f::_,0=>Z f
 |_::r,n+1=>aat r n
def FN (a b:Nat):Bool:=ax (a&&&b) 0
abbrev p?:=Nat×Nat
def HS (d:Y FPm):Y p?->Bool
 |[]=>J
 |(i,j)::r=>(match aat d i,aat d j with
  |some a,Z b=>FN a.wr b.rd&&FN a.wr b.wr&&FN b.wr a.rd
  |_,_=>aa)&&HS d r
inductive Ex where
 |normal
 |exit (id:Nat)
 |ret
def alt (body:IS->M (Ex×IS)) (e0:Dp):Nat->IS->M (Ex×IS)
 |0,_=>U
 |n+1,s=>match body s with
  |some (.normal,⟨e,h,nx,d⟩)=>Uu (PT.mask e e0) λe=>alt body e0 n ⟨e,h,nx,d⟩
  |r=>r
def run (call:Z1) (inert:FuncId->Bool) (fuel:Nat):SC->IS->M (Ex×IS)
 |.skip,s=>Z (.normal,s)
 |.zl ops prs,s=>match WR call ops s with
  |some (s',z)=>if HS z prs then Z (.normal,s') else U
  |none=>U
 |.seq a b,s=>match run call inert fuel a s with
  |some (.normal,s')=>run call inert fuel b s'
  |r=>r
 |.cond c a b,s=>match s.e.get c with
  |some (.f (.raw (.bool J)))=>run call inert fuel a s
  |some (.f (.raw (.bool aa)))=>run call inert fuel b s
  |_=>U
 |.block id b,s=>match run call inert fuel b s with
  |some (.exit i,s')=>if ax i id then Z (.normal,s') else Z (.exit i,s')
  |r=>r
 |.loop b,s=>alt (run call inert fuel b) s.e fuel s
 |.exit id,s=>Z (.exit id,s)
 |.ret,s=>Z (.ret,s)
 |.defer f caps t,⟨e,h,nx,d⟩=>match evs e caps with
  |some l=>if inert f then amy e (Z t) (.qy f l) λA=>Z (.normal,⟨A,h,nx,d⟩) else U
  |none=>U
 |.zm,_=>U
inductive RV where
 |tmp (t:Nat)
 |cell (a:Nat) (sz:Nat) (ag:Bool)
structure SF where
 code:SC
 res:List RV
 nt:Nat
def Em:Y AV->AV
 |[x]=>x
 |l=>.qg l
def anj:Value->Value->Bool
 |.bool a,.bool b=>a==b
 |.int k a,.int z b=>k==z&&a==b
 |.string a,.string b=>tH a b
 |.slice U n c,.slice U d A=>ax n d&&ax c A
 |.pointer U,.pointer U=>J
 |.tuple a,.tuple b=>a.isEmpty&&b.isEmpty
 |_,_=>aa
def fD (P:Program) (t:TypeId):M Nat:=(P.info? t).map (·.size)
def Ho (P:Program) (t:TypeId):M Nat:=(P.info? t).map (·.bytes)
def uz (P:Program) (t:TypeId):M ξ:=((P.info? t).bind (·.zero)).map (·.cells.toList)
def F6 (P:Program) (t:TypeId):M Bool:=(P.underlying t).map λ|.struct _=>J|.array _ _=>J|_=>aa
def C4 (P:Program) (t:TypeId):M TypeId:=match P.underlying t with|some (.slice e)=>Z e|_=>U
def Dz (P:Program) (t:TypeId) (i:Nat):M p?:=match P.underlying t with
 |some (.struct z)=>(z[i]?).bind λf=>(fD P f.type).map (f.offset,·)
 |some (.array _ d)|some (.slice d)=>(fD P d).map λs=>(i*s,s)
 |_=>U
abbrev G?:=Nat×Operand
def yQ (P:Program) (t:TypeId):Y G?->M (Y m?)
 |[]=>Z []
 |(i,x)::r=>match Dz P t i,yQ P t r with|some (o,s),Z l=>Z ((o,s,x)::l)|_,_=>U
def nV (z:ξ):Bool:=z.all λv=>v.oneCell'
def Dy:TypeDesc->Bool
 |.int _=>J
 |.bool=>J
 |.string=>J
 |_=>aa
def l_ (P:Program):Nat→Y Field→M (Y TypeDesc)
 |_,[]=>Z []
 |k,f::r=>match P.underlying f.type,l_ P (k+1) r with
  |some d,Z ds=>if f.name != "_" &&f.offset==k&&Dy d then Z (d::ds) else U
  |_,_=>U
def Dx (P:Program) (t:TypeId):M (Y TypeDesc):=match P.underlying t with
 |some (.struct d)=>if P.stoodInHeld t then U else l_ P 0 d.toList
 |_=>U
def Vy (P:Program) (c:Call):M O1:=
 match c.callee with
 |.builtin .len=>(match c.args.toList,c.argTypes.toList with
  |[x],[t]=>(match P.underlying t with
   |some (.slice _)=>Z (.len x)
   |some .string=>Z (.lens x)
   |some (.map _ _)=>Z (.jz x)
   |_=>U)
  |_,_=>U)
 |.builtin .max=>(match c.args.toList with
  |[x,y]=>Z (.max x y)
  |_=>U)
 |.builtin .min=>(match c.args.toList with
  |[x,y]=>Z (.min x y)
  |_=>U)
 |.builtin .copy=>(match c.args.toList,c.argTypes.toList with
  |[d,x],[t,u]=>(match C4 P t,C4 P u with
   |some A,Z _=>(fD P A).bind λsz=>if sz !=0 then Z (.copy sz d x) else U
   |_,_=>U)
  |_,_=>U)
 |.builtin .delete=>(match c.args.toList,c.argTypes.toList with
  |[m,k],[t,_]=>(match P.underlying t with
   |some (.map D _)=>(Dx P D).map λds=>.xj ds m k
   |_=>U)
  |_,_=>U)
 |.builtin .clear=>(match c.args.toList,c.argTypes.toList with
  |[x],[t]=>(C4 P t).bind λA=>(uz P A).bind λz=>(fD P A).bind λsz=>if nV z&&l! z==sz&&sz !=0 then Z (.clr sz z x) else U
  |_,_=>U)
 |.builtin .append=>(match c.args.toList,c.argTypes.toList with
  |[s,x],[t,u]=>(match C4 P t,C4 P u with
   |some A,Z _=>(fD P A).bind λsz=>(Ho P A).bind λb=>(uz P A).bind λz=>if sz !=0&&l! z==sz then Z (.app A sz b s x) else U
   |_,_=>U)
  |_,_=>U)
 |_=>U
def cX (P:Program):Op->M O1
 |.move x|.assign x=>Z (.mv x)
 |.pick c a b=>Z (.pick c a b)
 |.alloc t=>(uz P t).bind λz=>if nV z then Z (.alloc t z) else U
 |.box t x=>Z (.box t x)
 |.build t N=>match P.underlying t with
  |some (.struct F)=>(uz P t).bind λz=>if nV z&&(F.toList.all λf=>(fD P f.type).isSome) then (yQ P t N.toList).map (.build z) else U
  |some (.array _ A)=>(uz P t).bind λz=>if nV z&&(fD P A).isSome then (yQ P t N.toList).map (.build z) else U
  |_=>U
 |.buildSlice t n N=>(C4 P t).bind λA=>(uz P A).bind λz=>(fD P A).bind λsz=>if nV z&&l! z==sz&&dK (n*sz) 65536&&sz !=0 then (yQ P t N.toList).map (.xx A sz n z) else U
 |.load t x=>(fD P t).bind λsz=>(F6 P t).map λL=>.load sz L x
 |.store t x v=>(fD P t).map λsz=>.store sz x v
 |.nilCheck x=>Z (.zd x)
 |.binOp op t x y _=>match P.underlying t with
  |some (.int _)|some .string=>Z (.bin op x y)
  |some .bool=>(match op with|.eql=>Z (.xz aa x y)|.neq=>Z (.xz J x y)|_=>U)
  |some (.slice _)=>(match op,y with
   |.eql,.const (.slice U 0 0)=>Z (.zf aa x)
   |.neq,.const (.slice U 0 0)=>Z (.zf J x)
   |_,_=>U)
  |some (.pointer _)=>(match op,y with
   |.eql,.const (.pointer U)=>Z (.zn aa x)
   |.neq,.const (.pointer U)=>Z (.zn J x)
   |_,_=>U)
  |some (.struct _)=>(Dx P t).bind λds=>(match op with|.eql=>Z (.jp aa ds x y)|.neq=>Z (.jp J ds x y)|_=>U)
  |_=>U
 |.unOp .not _ x=>Z (.not x)
 |.unOp .neg t x=>match P.underlying t with|some (.int k)=>Z (.bin .sub (.const (.int k 0)) x)|_=>U
 |.convert s d x=>match P.underlying s,P.underlying d with|some (.int _),Z (.int k)=>Z (.conv k x)|_,_=>U
 |.makeSlice t l c=>(C4 P t).bind λA=>(uz P A).bind λz=>(fD P A).bind λsz=>(Ho P A).bind λb=>if nV z&&l! z==sz&&sz !=0 then Z (.zg A sz b z l c) else U
 |.slice t x lo hi mx=>(C4 P t).bind λA=>(fD P A).map λsz=>.slc sz x lo hi mx
 |.fieldAddr t x k=>match P.underlying t with
  |some (.struct F)=>(F[k]?).bind λf=>(fD P f.type).bind λsz=>if sz !=0 then Z (.jk f.offset x) else U
  |_=>U
 |.field t x k=>match P.underlying t with
  |some (.struct F)=>(F[k]?).bind λf=>(fD P f.type).bind λsz=>(F6 P f.type).map λL=>.fld f.offset sz L x
  |_=>U
 |.indexAddr t x i=>match P.underlying t with
  |some (.slice A)=>(fD P A).map λsz=>.jy sz x i
  |some (.array n A)=>(fD P A).map λsz=>.jq n sz x i
  |_=>U
 |.index t x i=>match P.underlying t with
  |some (.array n A)=>(fD P A).bind λsz=>(F6 P A).map λL=>.idx n sz L x i
  |some .string=>Z (.zr x i)
  |_=>U
 |.extract x i=>Z (.ext x i)
 |.makeFunc (.func f) first caps=>if first.isEmpty then Z (.mkf f caps.toList) else U
 |.makeMap t U=>match P.underlying t with|some (.map _ _)=>Z .mkm|_=>U
 |.lookup t x k ok=>match P.underlying t with
  |some (.map D A)=>(match P.underlying D,(P.info? A).bind (·.zero) with
   |some (.int _),Z z=>if z.oneCell' then Z (.jv aa ok z x k) else U
   |some .string,Z z=>if z.oneCell' then Z (.jv J ok z x k) else U
   |some (.struct _),Z z=>if z.oneCell'&& !ok then (Dx P D).map λds=>.xq ds z x k else U
   |_,_=>U)
  |_=>U
 |.mapUpdate t m k v=>match P.underlying t with
  |some (.map D _)=>(match P.underlying D with
   |some (.int _)=>Z (.jw aa m k v)
   |some .string=>Z (.jw J m k v)
   |some (.struct _)=>(Dx P D).map λds=>.jh ds m k v
   |_=>U)
  |_=>U
 |.range t x=>match P.underlying t with|some .string=>Z (.rng x)|_=>U
 |.next x J=>Z (.nxt x)
 |.call c=>Vy P c
 |_=>U
def Nc:Op->M SI
 |.call c=>(match c.callee with
  |.value (.func f)=>Z (.call f c.args.toList)
  |.value (.tmp t)=>Z (.jx (.tmp t) c.args.toList)
  |_=>U)
 |_=>U
def w9 (P:Program) (op:Op):SI:=match Nc op with
 |some i=>i
 |none=>(match cX P op with|some s=>.op s|none=>.op .zm)
def O1.still:O1->Bool
 |.mv _|.pick _ _ _|.build _ _|.zd _|.bin _ _ _|.jp _ _ _ _|.zf _ _|.xz _ _ _|.not _|.conv _ _|.jk _ _|.fld _ _ _ _|.jy _ _ _|.jq _ _ _ _|.idx _ _ _ _ _|.ext _ _|.max _ _|.min _ _|.zr _ _|.mkf _ _|.zn _ _|.zm=>J
 |_=>aa
def SI.still:SI->Bool
 |.op s=>s.still
 |_=>aa
def tG (P:Program) (ops:Array Oper):Y Oper->M (Y t8)
 |[]=>Z []
 |o::r=>match tG P ops r with
  |some l=>(match o.guard with
   |none=>Z (⟨o.dst,w9 P o.op,U⟩::l)
   |some (j,want)=>(match (ops[j]?).bind (·.dst) with
    |some t=>Z (⟨o.dst,w9 P o.op,Z (t,want)⟩::l)
    |none=>U))
  |none=>U
def Pt (ops:Array Oper) (l:Y t8):M (Y p?):=
 let B:=Ng ops.toList []
 if (kY ops.size).all λj=>((ops[j]?).all λd=>d.after.toList.all λe=> !BT .any e||decide (e.on<j))&&
     (kY j).all λi=>aO (B.getD j 0) i||(match ops[i]?,ops[j]? with|some z,Z d=>z.apart ops d|_,_=>aa)
 then Z ((kY ops.size).flatMap λj=>(kY j).filterMap λi=>
  if aO (B.getD j 0) i||(match l[i]?,l[j]? with|some a,Z b=>a.op.still||b.op.still|_,_=>aa) then U else Z (i,j))
 else U
def Zz (ops:Array Oper) (z:Bool):M (FuncId×Y Operand×Nat):=match ops.toList,z with
 |[p,q],aa=>(match p.op,p.guard,p.dst,q.op,q.guard,q.dst with
  |.makeFunc (.func f) first caps,U,Z t,.defer c,U,U=>(match c.callee,c.args.toList with
   |.value (.tmp d),[]=>if ax t d&&first.isEmpty then Z (f,caps.toList,t) else U
   |_,_=>U)
  |_,_,_,_,_,_=>U)
 |_,_=>U
def cK (P:Program) (nt:Nat):Code->SC
 |.skip=>.skip
 |.region _ ops z=>if ops.toList.all λo=>match o.dst with|some d=>decide (d<nt)|none=>J then
   (match Zz ops z with
   |some (f,caps,t)=>.defer f caps t
   |none=>(match tG P ops ops.toList with
    |some l=>(match Pt ops l with|some prs=>.zl l prs|none=>.zm)
    |none=>.zm)) else .zm
 |.seq a b=>.seq (cK P nt a) (cK P nt b)
 |.cond (.tmp c) a b=>.cond c (cK P nt a) (cK P nt b)
 |.cond (.const (.bool J)) a _=>cK P nt a
 |.cond (.const (.bool aa)) _ b=>cK P nt b
 |.block id b=>.block id (cK P nt b)
 |.loop b=>.loop (cK P nt b)
 |.exit id=>.exit id
 |.ret=>.ret
 |_=>.zm
def w7 (P:Program):Y ResultVar->M (Y RV)
 |[]=>Z []
 |.tmp t::r=>match w7 P r with|some l=>Z (.tmp t::l)|none=>U
 |.cell a t::r=>match w7 P r,fD P t,F6 P t with|some l,Z sz,Z d=>Z (.cell a sz d::l)|_,_,_=>U
def BK (P:Program) (f:FuncId):M SF:=
 match P.funcs[f]? with
 |some fn=>if fn.name== "runtime.NumGoroutine" then U else (match fn.body,w7 P fn.results.toList with
  |some c,Z r=>Z ⟨cK P fn.ntmps c,r,fn.ntmps⟩
  |_,_=>U)
 |none=>U
inductive Xp where
 |mk (op n:Int) (name:ζ) (l:List Xp)
inductive Sx where
 |mk (op line:Int) (name arg:ζ) (index:List Xp) (expr:Xp) (body els:List Sx)
def Xp.op:Xp->Int|.mk a _ _ _=>a
def Xp.n:Xp->Int|.mk _ a _ _=>a
def Xp.name:Xp->ζ|.mk _ _ a _=>a
def Xp.l:Xp->Y Xp|.mk _ _ _ a=>a
def Sx.op:Sx->Int|.mk a _ _ _ _ _ _ _=>a
def Sx.line:Sx->Int|.mk _ a _ _ _ _ _ _=>a
def Sx.name:Sx->ζ|.mk _ _ a _ _ _ _ _=>a
def Sx.arg:Sx->ζ|.mk _ _ _ a _ _ _ _=>a
def Sx.index:Sx->Y Xp|.mk _ _ _ _ a _ _ _=>a
def Sx.expr:Sx->Xp|.mk _ _ _ _ _ a _ _=>a
def Sx.body:Sx->Y Sx|.mk _ _ _ _ _ _ a _=>a
def Sx.els:Sx->Y Sx|.mk _ _ _ _ _ _ _ a=>a
inductive Ty where
 |int (k:IntKind)
 |bool
 |str
 |sl (t:Ty)
 |st (t:Ty)
 |pr (a b:Ty)
 |un
 |ex
 |sm
 deriving DecidableEq
@[reducible] def Ty.den:Ty->Type
  |.int _=>Int
  |.bool=>Bool
  |.str=>ζ
  |.sl t=>Y t.den
  |.st t=>t.den
  |.pr a b=>a.den×b.den
  |.un=>Unit
  |.ex=>Xp
  |.sm=>Sx
def Ty.size:Ty->Nat
 |.st t=>t.size
 |.pr a b=>a.size+b.size
 |.un=>0
 |.ex=>4
 |.sm=>11
 |_=>1
def Ty.zero:(t:Ty)->t.den
 |.int _=>(0:Int)
 |.bool=>aa
 |.str=>[]
 |.sl _=>[]
 |.st t=>t.zero
 |.pr a b=>(a.zero,b.zero)
 |.un=>()
 |.ex=>.mk 0 0 [] []
 |.sm=>.mk 0 0 [] [] [] (.mk 0 0 [] []) [] []
def Ty.one:Ty->Bool
 |.int _=>J
 |.bool=>J
 |.str=>J
 |.sl _=>J
 |_=>aa
def PY:Ty:=.pr (.int .i64) (.pr (.int .i64) (.pr .str (.sl .ex)))
def Pn:Ty:=.pr (.int .i64) (.pr (.int .i64) (.pr .str (.pr .str (.pr (.sl .ex) (.pr .ex (.pr (.sl .sm) (.sl .sm)))))))
def QI (e:Xp):PY.den:=(e.op,e.n,e.name,e.l)
def eD (x:PY.den):Xp:=.mk x.1 x.2.1 x.2.2.1 x.2.2.2
def QH (e:Sx):Pn.den:=(e.op,e.line,e.name,e.arg,e.index,e.expr,e.body,e.els)
def pO (x:Pn.den):Sx:=.mk x.1 x.2.1 x.2.2.1 x.2.2.2.1 x.2.2.2.2.1 x.2.2.2.2.2.1 x.2.2.2.2.2.2.1 x.2.2.2.2.2.2.2
mutual
def yf:Xp->Y FV
 |.mk op n name l=>[.raw (.int .i64 op),.raw (.int .i64 n),.raw (.string ⟨name.toArray⟩),.sl (Mn l) (l! l)]
def Mn:Y Xp->Y FV
 |[]=>[]
 |x::r=>yf x++Mn r
end
mutual
def Ae:Sx->Y FV
 |.mk op line name arg index expr body els=>[.raw (.int .i64 op),.raw (.int .i64 line),.raw (.string ⟨name.toArray⟩),.raw (.string ⟨arg.toArray⟩),.sl (Mn index) (l! index)]++yf expr++[.sl (Mm body) (l! body),.sl (Mm els) (l! els)]
def Mm:Y Sx->Y FV
 |[]=>[]
 |x::r=>Ae x++Mm r
end
def bT:(T:Ty)->T.den->Y FV
 |.int k,n=>[.raw (.int k n)]
 |.bool,b=>[.raw (.bool b)]
 |.str,s=>[.raw (.string ⟨s.toArray⟩)]
 |.sl t,xs=>[.sl (List.flatMap (bT t) xs) (ah xs)]
 |.st t,v=>bT t v
 |.pr a b,v=>bT a v.1++bT b v.2
 |.un,_=>[]
 |.ex,v=>yf v
 |.sm,v=>Ae v
def fO:(T:Ty)->T.den->FV
 |.int k,n=>.raw (.int k n)
 |.bool,b=>.raw (.bool b)
 |.str,s=>.raw (.string ⟨s.toArray⟩)
 |.sl t,xs=>.sl (List.flatMap (bT t) xs) (ah xs)
 |.st t,v=>.agg (bT t v)
 |.pr a b,v=>.agg (bT a v.1++bT b v.2)
 |.un,_=>.agg []
 |.ex,v=>.agg (yf v)
 |.sm,v=>.agg (Ae v)
def P1:(T:Ty)->T.den->T.den->Bool
 |.int _,a,b=>decide ((a:Int)=b)
 |.bool,a,b=>(a:Bool)==b
 |.str,a,b=>decide ((a:ζ)=b)
 |.st t,a,b=>P1 t a b
 |.pr x y,a,b=>P1 x a.1 b.1&&P1 y a.2 b.2
 |_,_,_=>J
def tZ {S:Ty} (T:Ty) (v:S.den):M T.den:=if h:S=T then Z (h▸v) else U
def fm (j:Int) (n:Nat):Bool:=dj 0 j&&fM j n
def geti (T:Ty) (xs:Y T.den) (j:Int):T.den:=xs.getD j.toNat T.zero
def cJ (xs:Y R) (j:Int) (x:R):Y R:=xs.set j.toNat x
def Wq (xs d:Y R):Y R:=d.take (l! xs)++xs.drop (l! d)
def oI (a b:Int):Int:=if fM a b then b else a
def Jb (a b:Int):Int:=if fM b a then b else a
def sB (s:ζ) (j:Int):Int:=aR (s.getD j.toNat 0).toNat
def aL (b:Bool) (t f:M R):M R:=match b with|true=>t|false=>f
def chk (b:Bool) (k:b=J->M R):M R:=match b,k with|true,k=>k rfl|false,_=>U
open Classical in
def Hp (a b:M R):M R:=if a=b then a else U
open Classical in
def same {α:Type} (a b:α) (r:M R):M R:=if a=b then r else U
def ay {α:Type} (o:M α) (k:α->M R):M R:=match o with|some x=>k x|none=>U
def lt {α:Type} (x:α) (k:α->M R):M R:=k x
def jn {α:Type} (o:M (R⊕α)) (k:α->M R):M R:=match o with|some (.inr x)=>k x|some (.inl r)=>Z r|none=>U
def iterN {σ:Type} (step:σ->M (σ⊕R)):Nat->σ->M R
 |0,_=>U
 |n+1,x=>match step x with
  |some (.inl y)=>iterN step n y
  |some (.inr r)=>Z r
  |none=>U
open Classical in
def iter {σ R:Type} (step:σ->M (σ⊕R)) (x:σ):M R:=
 if h:∃n,(iterN step n x).isSome=J then iterN step (Classical.choose h) x else U
def hZ {σ R:Type} (step:σ->M (σ⊕R)) (x:σ):M R:=iterN step 18446744073709551616 x
abbrev Cp:Type 1:=∀σ R:Type,(σ->M (σ⊕R))->σ->M R
def mK (a b:M R):Prop:=∀y,a=Z y->b=Z y
def mK.rfl {a:M R}:mK a a:=λ_ h=>h
def mK.bcase {t f d z:M R} (h1:mK t d) (h2:mK f z):mK (AI.aL b t f) (AI.aL b d z):=by cases b<;>assumption
def mK.chk {k d:M R} (h:mK k d):mK (AI.chk b λ_=>k) (AI.chk b λ_=>d):=by
 cases b with
 |true=>exact h
 |false=>exact λ_ h=>by cases h
def mK.obind {α:Type} {o d:M α} {k z:α->M R} (h:mK o d) (D:∀x,mK (k x) (z x)):mK (AI.ay o k) (AI.ay d z):=by
 intro y A;cases o with
 |none=>cases A
 |some x=>rw[h x (by exact Eq.refl _)];exact D x y A
def mK.lt {α:Type} {x:α} {k d:α->M R} (h:∀y,mK (k y) (d y)):mK (AI.lt x k) (AI.lt x d):=h x
def mK.jn {α:Type} {o z:M (R⊕α)} {k A:α->M R} (h:mK o z) (D:∀x,mK (k x) (A x)):mK (AI.jn o k) (AI.jn z A):=by
 intro y d;cases o with
 |none=>cases d
 |some x=>
  rw[h x (by exact Eq.refl _)];cases x with
  |inl r=>exact d
  |inr a=>exact D a y d
def mK.iterN {σ:Type} {f g:σ->M (σ⊕R)} (h:∀x,mK (f x) (g x)):∀(n:Nat) (x:σ),mK (AI.iterN f n x) (AI.iterN g n x)
 |0,_=>λ_ h=>by cases h
 |n+1,x=>by
  intro y d;cases hf:f x with
  |none=>rw[AI.iterN,hf]at d;cases d
  |some s=>
   rw[AI.iterN,hf]at d;rw[AI.iterN,h x s hf];cases s with
   |inl z=>exact mK.iterN h n z y d
   |inr r=>exact d
def LA {σ:Type} {f:σ->M (σ⊕R)}:∀{n:Nat} {x:σ} {r:R},iterN f n x=Z r->iterN f (n+1) x=Z r
 |0,x,r,h=>by cases h
 |n+1,x,r,h=>by
  cases hf:f x with
  |none=>rw[iterN,hf]at h;cases h
  |some s=>
   cases s with
   |inl y=>rw[iterN,hf]at h;rw[iterN,hf];exact LA h
   |inr q=>rw[iterN,hf]at h;rw[iterN,hf];exact h
def xZ {σ:Type} {f:σ->M (σ⊕R)} {n:Nat} {x:σ} {r:R} (h:iterN f n x=Z r) (hle:n<=i):iterN f i x=Z r:=by
 induction hle with
 |refl=>exact h
 |step _ d=>exact LA d
def Lz {σ:Type} {f:σ->M (σ⊕R)} {x:σ} {r:R} (h:iterN f i x=Z r):iter f x=Z r:=by
 have z:∃i,(iterN f i x).isSome=J:=⟨i,by rw[h];exact Eq.refl _⟩
 unfold iter;rw[dif_pos z];have D:=Classical.choose_spec z;obtain⟨F,d⟩:=jI.1 D;rw[d];rcases Nat.le_total i (Classical.choose z) with A|A
 .rw[xZ h A]at d;exact d.symm
 .rw[xZ d A]at h;exact h
def mK.iter {σ:Type} {f g:σ->M (σ⊕R)} {x:σ} (h:∀x,mK (f x) (g x)):mK (hZ f x) (AI.iter g x):=λy d=>Lz (mK.iterN h _ x y d)
def orE (a b:M R):M R:=match a with|some y=>Z y|none=>b
def fuel:Nat:=Classical.choose (⟨100000,rfl⟩:∃n:Nat,n=100000)
def r8:fuel=100000:=Classical.choose_spec (⟨100000,rfl⟩:∃n:Nat,n=100000)
def I1 (a:Ty):Ty->Ty
 |.un=>a
 |.int k=>.pr a (.int k)
 |.bool=>.pr a .bool
 |.str=>.pr a .str
 |.sl t=>.pr a (.sl t)
 |.st t=>.pr a (.st t)
 |.pr x y=>.pr a (.pr x y)
 |.ex=>.pr a .ex
 |.sm=>.pr a .sm
def spr:Ty->Ty->Ty
 |.un,b=>b
 |.int k,b=>I1 (.int k) b
 |.bool,b=>I1 .bool b
 |.str,b=>I1 .str b
 |.sl t,b=>I1 (.sl t) b
 |.st t,b=>I1 (.st t) b
 |.pr x y,b=>I1 (.pr x y) b
 |.ex,b=>I1 .ex b
 |.sm,b=>I1 .sm b
def TA (a:Ty):(b:Ty)->a.den->b.den->(I1 a b).den
 |.un,x,_=>x
 |.int _,x,y|.bool,x,y|.str,x,y|.sl _,x,y|.st _,x,y|.pr _ _,x,y|.ex,x,y|.sm,x,y=>(x,y)
def fsN (a:Ty):(b:Ty)->(I1 a b).den->a.den
 |.un,z=>z
 |.int _,z|.bool,z|.str,z|.sl _,z|.st _,z|.pr _ _,z|.ex,z|.sm,z=>z.1
def snN (a:Ty):(b:Ty)->(I1 a b).den->b.den
 |.un,_=>()
 |.int _,z|.bool,z|.str,z|.sl _,z|.st _,z|.pr _ _,z|.ex,z|.sm,z=>z.2
def W9:(a b:Ty)->a.den->b.den->(spr a b).den
 |.un,_,_,y=>y
 |.int k,b,x,y=>TA (.int k) b x y
 |.bool,b,x,y=>TA .bool b x y
 |.str,b,x,y=>TA .str b x y
 |.sl t,b,x,y=>TA (.sl t) b x y
 |.st t,b,x,y=>TA (.st t) b x y
 |.pr u v,b,x,y=>TA (.pr u v) b x y
 |.ex,b,x,y=>TA .ex b x y
 |.sm,b,x,y=>TA .sm b x y
def Rx:(a b:Ty)->(spr a b).den->a.den
 |.un,_,_=>()
 |.int k,b,z=>fsN (.int k) b z
 |.bool,b,z=>fsN .bool b z
 |.str,b,z=>fsN .str b z
 |.sl t,b,z=>fsN (.sl t) b z
 |.st t,b,z=>fsN (.st t) b z
 |.pr u v,b,z=>fsN (.pr u v) b z
 |.ex,b,z=>fsN .ex b z
 |.sm,b,z=>fsN .sm b z
def NV:(a b:Ty)->(spr a b).den->b.den
 |.un,_,z=>z
 |.int k,b,z=>snN (.int k) b z
 |.bool,b,z=>snN .bool b z
 |.str,b,z=>snN .str b z
 |.sl t,b,z=>snN (.sl t) b z
 |.st t,b,z=>snN (.st t) b z
 |.pr u v,b,z=>snN (.pr u v) b z
 |.ex,b,z=>snN .ex b z
 |.sm,b,z=>snN .sm b z
def uW (a b:Ty) (x:a.den) (y:b.den):Rx a b (W9 a b x y)=x:=by cases a<;>cases b<;>rfl
def wL (a b:Ty) (x:a.den) (y:b.den):NV a b (W9 a b x y)=y:=by cases a<;>cases b<;>rfl
inductive Sb where
 |ob (id:Nat) (j:Int) (off:Nat)
 |om (id:Nat) (j:Int) (b:Nat)
 |nr (id:Nat) (j:Int) (sz n:Nat)
 |np (id:Nat) (j:Int) (sz:Nat) (i:Int) (off:Nat)
 |nl
def Sb.id:Sb->Nat
 |.ob i _ _=>i
 |.om i _ _=>i
 |.nr i _ _ _=>i
 |.np i _ _ _ _=>i
 |.nl=>0
def Sb.to (i:Nat):Sb->Sb
 |.ob _ j o=>.ob i j o
 |.om _ j b=>.om i j b
 |.nr _ j s n=>.nr i j s n
 |.np _ j s k o=>.np i j s k o
 |.nl=>.nl
inductive t_ where
 |ar (ty:TypeId) (S:Ty)
 |qc (ty:TypeId)
 |qh
 |rr (ty:TypeId) (sz:Nat)
 |ir (ty:TypeId) (T:Ty)
 deriving DecidableEq
abbrev mbT:Ty:=.sl (.pr (.int .i64) .bool)
abbrev kyT:Ty:=.pr (.int .i64) (.int .i64)
def t_.ty:t_->Ty
 |.ar _ S=>.sl (.pr S (.pr mbT mbT))
 |.qc _=>.sl (.int .i64)
 |.qh=>.sl (.pr kyT (.int .i64))
 |.rr _ _=>.sl (.int .i64)
 |.ir _ T=>.sl (.sl T)
def t_.aid (n:Nat):t_->Nat
 |.ar _ _=>0
 |.ir _ _=>0
 |_=>n
def r9:(F:t_)->F.ty.den->M (Bool×p?)
 |.qc _,d=>Z (J,1,ah d)
 |.rr _ _,ls=>Z (aa,1,ah ls)
 |_,_=>U
inductive TV where
 |f (T:Ty) (v:T.den)
 |zk (T:Ty) (xs:List T.den) (j:Int) (h:fm j (l! xs)=J) (off:Nat)
 |ql (id sz:Nat) (j:Int) (off:Nat)
 |H (id off:Nat)
 |G (id:Nat)
 |qw (id sz n:Nat)
 |emp
 |nil
 |mp (id:Nat)
 |agg (l:List TV)
 |qg (l:List TV)
 |qy (g:FuncId) (l:List TV)
 |undef
 |np
 |qv
 |zp (id:Nat) (j:Int)
 |qd (T:Ty) (xs:List T.den)
 |sb (s:Sb)
instance cty (n:Nat):OfNat (M TypeId) n:=⟨Z n⟩
inductive eG where
 |F (ty:TypeId) (p:Bool) (T:Ty) (xs:List T.den)
 |C (ty:Option TypeId) (l:List TV)
 |qj (p:Bool) (sz n:Nat)
 |mp (K V:Ty) (es:List (K.den×V.den))
 |I (F:t_) (a:Nat) (x:F.ty.den)
 |qm (F:t_) (a:Nat) (x:F.ty.den) (k:Γ) (p:Option (Nat×Bool×Nat))
abbrev h_:=PT TV
abbrev bk:=PT eG
def cst:Value->M TV
 |.int k n=>Z (.f (.int k) n)
 |.bool b=>Z (.f .bool b)
 |.string s=>Z (.f .str s.data.toList)
 |.slice U 0 0=>Z .nil
 |.pointer U=>Z .np
 |.map U=>Z (.sb .nl)
 |_=>U
def MW:ξ->M (Y TV)
 |[]=>Z []
 |v::r=>match cst v,MW r with|some x,Z l=>Z (x::l)|_,_=>U
def ane:Value->M TV
 |.agg vs=>if Na vs.toList then (match MW vs.toList with|some l=>Z (.agg l)|none=>U) else U
 |v=>cst v
def cellsOf:Nat->(T:Ty)->T.den->M (Y TV)
 |0,_,_=>U
 |n+1,.st t,v=>cellsOf n t v
 |n+1,.pr a b,v=>match cellsOf n a v.1,cellsOf n b v.2 with|some x,Z y=>Z (x++y)|_,_=>U
 |_+1,.un,_=>Z []
 |n+1,.ex,v=>cellsOf n PY (QI v)
 |n+1,.sm,v=>cellsOf n Pn (QH v)
 |_+1,.int k,v=>Z [.f (.int k) v]
 |_+1,.bool,v=>Z [.f .bool v]
 |_+1,.str,v=>Z [.f .str v]
 |_+1,.sl t,v=>Z [.f (.sl t) v]
def TV.isC:TV->Bool
 |.f T _=>T.one
 |.zk _ _ _ _ _=>J
 |.ql _ _ _ _=>J
 |.H _ _=>J
 |.G _=>J
 |.qw _ _ _=>J
 |.emp=>J
 |.nil=>J
 |.np=>J
 |.mp _=>J
 |.qy _ _=>J
 |.sb _=>J
 |_=>aa
def lU:Y TV->Bool
 |[]=>J
 |x::r=>x.isC&&lU r
def TV.cs (v:TV):M (Y TV):=match v with
 |.agg l=>if lU l then Z l else U
 |.f T x=>cellsOf 40 T x
 |x=>if x.isC then Z [x] else U
def fV (i:Nat):Nat:=1<<<i
def ij (h:bk) (T:Ty):TV->M (T.den×Nat)
 |.f _ v=>match tZ T v with|some x=>Z (x,0)|none=>U
 |.emp|.nil=>(match T with|.sl _=>Z ([],0)|_=>U)
 |.G id=>match h.get id with
  |some (.F _ _ S xs)=>(match tZ (S:=.sl S) T xs with|some x=>Z (x,fV id)|none=>U)
  |_=>U
 |_=>U
def eX (h:bk):Nat->(T:Ty)->Y TV->M (T.den×Nat×Y TV)
 |0,_,_=>U
 |n+1,.st t,l=>eX h n t l
 |n+1,.pr a b,l=>match eX h n a l with
  |some (x,m,r)=>(match eX h n b r with|some (y,m',d)=>Z ((x,y),m|||m',d)|none=>U)
  |none=>U
 |_+1,.un,l=>Z ((),0,l)
 |n+1,.ex,l=>match eX h n PY l with|some (x,m,r)=>Z (eD x,m,r)|none=>U
 |n+1,.sm,l=>match eX h n Pn l with|some (x,m,r)=>Z (pO x,m,r)|none=>U
 |_+1,.int k,l=>match l with|c::r=>(match ij h (.int k) c with|some (x,m)=>Z (x,m,r)|none=>U)|[]=>U
 |_+1,.bool,l=>match l with|c::r=>(match ij h .bool c with|some (x,m)=>Z (x,m,r)|none=>U)|[]=>U
 |_+1,.str,l=>match l with|c::r=>(match ij h .str c with|some (x,m)=>Z (x,m,r)|none=>U)|[]=>U
 |_+1,.sl t,l=>match l with|c::r=>(match ij h (.sl t) c with|some (x,m)=>Z (x,m,r)|none=>U)|[]=>U
def Dk (h:bk) (T:Ty) (v:TV):M (T.den×Nat):=match v with
 |.agg l=>if T.one then U else (match eX h 40 T l with|some (x,m,[])=>Z (x,m)|_=>U)
 |x=>ij h T x
def nT:Nat->(T:Ty)->T.den->Nat->Nat->Bool->M TV
 |0,_,_,_,_,_=>U
 |n+1,.st t,v,off,sz,d=>if ax off 0&&ax sz t.size&&d then Z (.f (.st t) v) else nT n t v off sz d
 |n+1,.pr a b,v,off,sz,d=>if dJ off a.size then nT n a v.1 off sz d else nT n b v.2 (off-a.size) sz d
 |_+1,.un,_,_,_,_=>U
 |n+1,.ex,v,off,sz,d=>if ax off 0&&ax sz 4&&d then Z (.f .ex v) else nT n PY (QI v) off sz d
 |n+1,.sm,v,off,sz,d=>if ax off 0&&ax sz 11&&d then Z (.f .sm v) else nT n Pn (QH v) off sz d
 |_+1,.int k,v,off,sz,d=>if ax off 0&&ax sz 1&& !d then Z (.f (.int k) v) else U
 |_+1,.bool,v,off,sz,d=>if ax off 0&&ax sz 1&& !d then Z (.f .bool v) else U
 |_+1,.str,v,off,sz,d=>if ax off 0&&ax sz 1&& !d then Z (.f .str v) else U
 |_+1,.sl t,v,off,sz,d=>if ax off 0&&ax sz 1&& !d then Z (.f (.sl t) v) else U
def gP (h:bk) (x:TV):Nat->(T:Ty)->T.den->Nat->Nat->M (T.den×Nat)
 |0,_,_,_,_=>U
 |n+1,.st t,v,off,sz=>match (if ax off 0&&ax sz t.size then Dk h (.st t) x else U) with
  |some y=>Z y
  |none=>gP h x n t v off sz
 |n+1,.pr a b,v,off,sz=>if dJ off a.size then (match gP h x n a v.1 off sz with|some (y,m)=>Z ((y,v.2),m)|none=>U) else (match gP h x n b v.2 (off-a.size) sz with|some (y,m)=>Z ((v.1,y),m)|none=>U)
 |_+1,.un,_,_,_=>U
 |n+1,.ex,v,off,sz=>match (if ax off 0&&ax sz 4 then Dk h .ex x else U) with
  |some y=>Z y
  |none=>(match gP h x n PY (QI v) off sz with|some (y,m)=>Z (eD y,m)|none=>U)
 |n+1,.sm,v,off,sz=>match (if ax off 0&&ax sz 11 then Dk h .sm x else U) with
  |some y=>Z y
  |none=>(match gP h x n Pn (QH v) off sz with|some (y,m)=>Z (pO y,m)|none=>U)
 |_+1,.int k,_,off,sz=>if ax off 0&&ax sz 1 then ij h (.int k) x else U
 |_+1,.bool,_,off,sz=>if ax off 0&&ax sz 1 then ij h .bool x else U
 |_+1,.str,_,off,sz=>if ax off 0&&ax sz 1 then ij h .str x else U
 |_+1,.sl t,_,off,sz=>if ax off 0&&ax sz 1 then ij h (.sl t) x else U
def AW (h:bk) (T:Ty):Nat->Y TV->M (Y T.den×Nat)
 |0,[]=>Z ([],0)
 |0,_::_=>U
 |n+1,l=>match eX h 40 T l with
  |some (x,m,r)=>(match AW h T n r with|some (xs,m')=>Z (x::xs,m|||m')|none=>U)
  |none=>U
def uy:Ty->ξ
 |.int k=>[.int k 0]
 |.bool=>[.bool aa]
 |.str=>[.string ⟨#[]⟩]
 |.sl _=>[.slice U 0 0]
 |.st t=>uy t
 |.pr a b=>uy a++uy b
 |.un=>[]
 |.ex=>[.int .i64 0,.int .i64 0,.string ⟨#[]⟩,.slice U 0 0]
 |.sm=>[.int .i64 0,.int .i64 0,.string ⟨#[]⟩,.string ⟨#[]⟩,.slice U 0 0,.int .i64 0,.int .i64 0,.string ⟨#[]⟩,.slice U 0 0,.slice U 0 0,.slice U 0 0]
def VJ:ξ->ξ->Bool
 |[],[]=>J
 |x::xs,y::d=>anj x y&&VJ xs d
 |_,_=>aa
def Ty.flat:Ty->Bool
 |.int _=>J
 |.bool=>J
 |.str=>J
 |.st t=>t.flat
 |.pr a b=>a.flat&&b.flat
 |.un=>J
 |_=>aa
def sI:Y TypeDesc->M Ty
 |[]=>Z .un
 |.int k::r=>match sI r with|some t=>Z (.pr (.int k) t)|none=>U
 |.bool::r=>match sI r with|some t=>Z (.pr .bool t)|none=>U
 |.string::r=>match sI r with|some t=>Z (.pr .str t)|none=>U
 |_=>U
inductive PV where
 |d (T:Ty)
 |H (id off:Nat)
 |G (id:Nat)
 |qw (id sz n:Nat)
 |mp (id:Nat)
 |nil
 |emp
 |qy (q:FuncId) (l:List (Nat×Nat))
 |ob (id off:Nat)
 |agg (l:List PV)
inductive PB where
 |F (ty:TypeId) (p:Bool) (T:Ty)
 |qf (ty:TypeId) (T:Ty)
 |C (ty:Option TypeId) (l:List PV)
 |mp (K V:Ty)
 |I (F:t_) (a:Nat)
 |qk
mutual
def PV.ty:PV->Ty
 |.d T=>T
 |.agg l=>PV.tyL l
 |.H _ _|.G _|.qw _ _ _|.qy _ _=>.un
 |.ob _ _=>.int .i64
 |.mp _|.nil|.emp=>.un
def PV.tyL:Y PV->Ty
 |[]=>.un
 |p::r=>spr p.ty (PV.tyL r)
end
def PB.ty:PB->Ty
 |.F _ _ T=>.sl T
 |.qf _ T=>.pr .bool (.sl T)
 |.C _ l=>PV.tyL l
 |.mp K V=>.sl (.pr K V)
 |.I a _=>a.ty
 |.qk=>.un
def PB.tyL:Y PB->Ty
 |[]=>.un
 |p::r=>spr p.ty (PB.tyL r)
structure Tm where
 vs:List PV
 bs:List PB
def Tm.ty (t:Tm):Ty:=spr (PV.tyL t.vs) (PB.tyL t.bs)
def KX (g:Nat->Nat):Y p?->Y TV->Bool
 |[],[]=>J
 |(i,o)::r,.H z d::vs=>ax (g i) z&&ax o d&&KX g r vs
 |_,_=>aa
mutual
def oJ (g:Nat->Nat) (h:bk):(p:PV)->Y TV->M (p.ty.den×Nat×Y TV)
 |.d T,l=>eX h 40 T l
 |.H i o,l=>match l with|.H i' o'::r=>if ax (g i) i'&&ax o o' then Z ((),0,r) else U|_=>U
 |.G i,l=>match l with|.G i'::r=>if ax (g i) i' then Z ((),0,r) else U|_=>U
 |.qw i s n,l=>match l with|.qw i' s' n'::r=>if ax (g i) i'&&ax s s'&&ax n n' then Z ((),0,r) else U|_=>U
 |.qy q ps,l=>match l with|.qy q' vs::r=>if ax q q'&&KX g ps vs then Z ((),0,r) else U|_=>U
 |.ob i o,l=>match l with|.sb (.ob i' j o')::r=>if ax (g i) i'&&ax o o' then Z (j,0,r) else U|_=>U
 |.mp i,l=>match l with|.mp i'::r=>if ax (g i) i' then Z ((),0,r) else U|_=>U
 |.nil,l=>match l with|.nil::r=>Z ((),0,r)|_=>U
 |.emp,l=>match l with|.nil::r=>Z ((),0,r)|.emp::r=>Z ((),0,r)|_=>U
 |.agg ps,l=>Bk g h ps l
def Bk (g:Nat->Nat) (h:bk):(ps:Y PV)->Y TV->M ((PV.tyL ps).den×Nat×Y TV)
 |[],l=>Z ((),0,l)
 |p::r,l=>match oJ g h p l with
  |some (x,m,l')=>(match Bk g h r l' with|some (y,m',l'')=>Z (W9 p.ty (PV.tyL r) x y,m|||m',l'')|none=>U)
  |none=>U
end
def xn (g:Nat->Nat) (h:bk):(p:PV)->TV->M (p.ty.den×Nat)
 |.d T,v=>Dk h T v
 |.agg z,v=>if v.isC then U else (match v.cs with
  |some l=>(match Bk g h z l with|some (x,m,[])=>Z (x,m)|_=>U)
  |none=>U)
 |.H i o,v=>match oJ g h (.H i o) [v] with|some (x,m,_)=>Z (x,m)|none=>U
 |.G i,v=>match oJ g h (.G i) [v] with|some (x,m,_)=>Z (x,m)|none=>U
 |.qw i s n,v=>match oJ g h (.qw i s n) [v] with|some (x,m,_)=>Z (x,m)|none=>U
 |.qy q z,v=>match oJ g h (.qy q z) [v] with|some (x,m,_)=>Z (x,m)|none=>U
 |.ob i o,v=>match oJ g h (.ob i o) [v] with|some (x,m,_)=>Z (x,m)|none=>U
 |.mp i,v=>match oJ g h (.mp i) [v] with|some (x,m,_)=>Z (x,m)|none=>U
 |.nil,v=>match oJ g h .nil [v] with|some (x,m,_)=>Z (x,m)|none=>U
 |.emp,v=>match oJ g h .emp [v] with|some (x,m,_)=>Z (x,m)|none=>U
def Ad (g:Nat->Nat) (h:bk):(d:Y PV)->Y TV->M ((PV.tyL d).den×Nat)
 |[],[]=>Z ((),0)
 |p::r,v::vs=>match xn g h p v with
  |some (x,m)=>(match Ad g h r vs with|some (y,m')=>Z (W9 p.ty (PV.tyL r) x y,m|||m')|none=>U)
  |none=>U
 |[],_::_=>U
 |_::_,[]=>U
def DW (g:Nat->Nat) (h:bk) (i:Nat):(b:PB)->M (b.ty.den×Nat)
 |.F ty p T=>match h.get (g i) with
  |some (.F ty' d S xs)=>if ty==ty'&&p==d then (match tZ (S:=.sl S) (.sl T) xs with|some x=>Z (x,0)|none=>U) else U
  |_=>U
 |.qf ty T=>match h.get (g i) with
  |some (.F ty' d S xs)=>if ty==ty' then (match tZ (S:=.sl S) (.sl T) xs with|some x=>Z ((d,x),0)|none=>U) else U
  |_=>U
 |.C ty z=>match h.get (g i) with
  |some (.C ty' l)=>if ty==ty' then (match Bk g h z l with|some (x,m,[])=>Z (x,m)|_=>U) else U
  |_=>U
 |.mp K V=>match h.get (g i) with
  |some (.mp K' V' es)=>(match tZ (S:=.sl (.pr K' V')) (.sl (.pr K V)) es with|some x=>Z (x,0)|none=>U)
  |_=>U
 |.I F a=>match h.get (g i) with
  |some (.I F' D x)=>if A:F'=F then (if ax (F.aid (g a)) D then Z (A▸x,0) else U) else U
  |_=>U
 |.qk=>Z ((),0)
def C3 (g:Nat->Nat) (h:bk):Nat->(bs:Y PB)->M ((PB.tyL bs).den×Nat)
 |_,[]=>Z ((),0)
 |i,b::r=>match DW g h i b with
  |some (x,m)=>(match C3 g h (i+1) r with|some (y,m')=>Z (W9 b.ty (PB.tyL r) x y,m|||m')|none=>U)
  |none=>U
mutual
def oT (g:Nat->Nat):(p:PV)->p.ty.den->M (Y TV)
 |.d T,x=>cellsOf 40 T x
 |.H i o,_=>Z [.H (g i) o]
 |.G i,_=>Z [.G (g i)]
 |.qw i s n,_=>Z [.qw (g i) s n]
 |.mp i,_=>Z [.mp (g i)]
 |.qy q ps,_=>Z [.qy q (ps.map λp=>.H (g p.1) p.2)]
 |.ob i o,j=>Z [.sb (.ob (g i) j o)]
 |.nil,_=>Z [.nil]
 |.emp,_=>Z [.emp]
 |.agg ps,x=>sF g ps x
def sF (g:Nat->Nat):(ps:Y PV)->(PV.tyL ps).den->M (Y TV)
 |[],_=>Z []
 |p::r,x=>match oT g p (Rx p.ty (PV.tyL r) x) with
  |some a=>(match sF g r (NV p.ty (PV.tyL r) x) with|some b=>Z (a++b)|none=>U)
  |none=>U
end
def sM (g:Nat->Nat):(p:PV)->p.ty.den->M TV
 |.d T,x=>Z (.f T x)
 |.H i o,_=>Z (.H (g i) o)
 |.G i,_=>Z (.G (g i))
 |.qw i s n,_=>Z (.qw (g i) s n)
 |.mp i,_=>Z (.mp (g i))
 |.qy q z,_=>Z (.qy q (z.map λp=>.H (g p.1) p.2))
 |.ob i o,j=>Z (.sb (.ob (g i) j o))
 |.nil,_=>Z .nil
 |.emp,_=>Z .emp
 |.agg z,x=>match sF g z x with|some l=>Z (.agg l)|none=>U
def rA (g:Nat->Nat):(d:Y PV)->(PV.tyL d).den->M (Y TV)
 |[],_=>Z []
 |p::r,x=>match sM g p (Rx p.ty (PV.tyL r) x) with
  |some a=>(match rA g r (NV p.ty (PV.tyL r) x) with|some b=>Z (a::b)|none=>U)
  |none=>U
def Ct (g:Nat->Nat):(b:PB)->b.ty.den->M (M eG)
 |.F ty p T,x=>Z (Z (.F ty p T x))
 |.qf ty T,x=>Z (Z (.F ty x.1 T x.2))
 |.C ty d,x=>match sF g d x with|some l=>Z (Z (.C ty l))|none=>U
 |.mp K V,x=>Z (Z (.mp K V x))
 |.I F a,x=>Z (Z (.I F (F.aid (g a)) x))
 |.qk,_=>Z U
def uC:eG->eG
 |.F _ p T xs=>.qj p T.size (l! xs)
 |.C _ _|.mp _ _ _=>.qj J 0 0
 |.I F _ x|.qm F _ x _ _=>(match r9 F x with|some (p,s,n)=>.qj p s n|none=>.qj J 0 0)
 |.qj p sz n=>.qj p sz n
def kill (h:bk) (i:Nat):bk:=match h.get i with
 |some b=>h.set i (Z (uC b))
 |none=>h
def pF (g:Nat->Nat):(bs:Y PB)->(PB.tyL bs).den->M (Y (M eG))
 |[],_=>Z []
 |b::r,x=>match Ct g b (Rx b.ty (PB.tyL r) x) with
  |some c=>(match pF g r (NV b.ty (PB.tyL r) x) with|some l=>Z (c::l)|none=>U)
  |none=>U
def CA (g:Nat->Nat):Nat->Y (M eG)->bk->bk
 |_,[],h=>h
 |i,Z c::r,h=>CA g (i+1) r (h.set (g i) (Z c))
 |i,U::r,h=>CA g (i+1) r (kill h (g i))
def Ps (g:Nat->Nat) (bs:Y PB) (x:(PB.tyL bs).den) (h:bk):M bk:=match pF g bs x with
 |some l=>Z (CA g 0 l h)
 |none=>U
def uB {K V:Ty} (k:K.den):Y (K.den×V.den)->M V.den
 |[]=>U
 |(d,v)::r=>if P1 K k d then Z v else uB k r
def vJ {K V:Ty} (k:K.den) (v:V.den):Y (K.den×V.den)->Y (K.den×V.den)
 |[]=>[(k,v)]
 |(d,z)::r=>if P1 K k d then (k,v)::r else (d,z)::vJ k v r
def aaa {K V:Ty} (k:K.den) (es:Y (K.den×V.den)):Bool:=match uB k es with|some _=>J|none=>aa
def vM {K V:Ty} (k:K.den) (es:Y (K.den×V.den)) (z:V.den):V.den:=match uB k es with|some v=>v|none=>z
def aq5 (T:Ty):Nat->Ty
 |0=>.un
 |1=>T
 |n+2=>.pr T (aq5 T (n+1))
def kwT:Ty:=.st (aq5 .str 22)
def kwV:kwT.den:=([118,97,114],[118,111,108,97,116,105,108,101],[109,117,116,101,120],[114,119,108,111,99,107],[99,111,110,100],[102,117,116,117,114,101],[116,104,114,101,97,100],[105,102],[101,108,115,101],[119,104,105,108,101],[108,111,99,107],[114,101,97,100],[119,114,105,116,101],[116,114,97,110,115,97,99,116,105,111,110],[97,116,111,109,105,99],[119,97,105,116],[110,111,116,105,102,121],[110,111,116,105,102,121,97,108,108],[115,112,97,119,110],[106,111,105,110],[115,101,116],[103,101,116])
abbrev aP:Ty:=(.int .i64)
abbrev mD:Ty:=(.st (.pr .str (.pr aP (.pr aP (.pr .bool aP)))))
abbrev s7:Ty:=(.st (.pr .str .bool))
abbrev nK:Ty:=(.st (.pr .str aP))
abbrev pR:Ty:=(.st (.pr aP (.pr aP aP)))
abbrev oO:Ty:=(.st (.pr (.sl mD) (.pr (.sl s7) (.pr (.sl nK) (.pr (.sl .str) (.pr (.sl .str) (.sl pR)))))))
abbrev JY:Ty:=(.sl (.sl aP))
abbrev eZ:Ty:=(.st (.pr aP (.pr (.sl aP) (.pr JY aP))))
abbrev sx:Ty:=(.st (.pr aP (.pr aP (.pr aP (.pr aP (.pr aP aP))))))
abbrev dF:Ty:=(.st (.pr aP (.sl aP)))
abbrev nz:Ty:=(.sl .bool)
abbrev hJ:Ty:=(.st (.pr aP (.pr aP .bool)))
abbrev Gd:Ty:=(.st (.pr (.sl dF) (.pr aP (.pr nz (.sl hJ)))))
abbrev gx:Ty:=(.st (.pr aP (.pr aP (.pr aP (.pr aP (.pr aP (.pr (.sl aP) (.sl aP))))))))
abbrev IW:Ty:=(.st (.pr aP (.pr aP (.pr .str (.pr aP (.pr aP .str))))))
abbrev uv:Ty:=(.st (.pr .str (.pr aP (.pr (.sl .str) (.sl .sm)))))
abbrev Qy:Ty:=(.st (.pr (.sl IW) (.sl uv)))
abbrev yE:Ty:=(.st (.pr aP (.sl sx)))
abbrev wi:Ty:=(.st (.pr oO (.sl yE)))
abbrev xy:Ty:=(.st (.pr Gd (.pr (.sl aP) (.pr (.sl aP) (.sl eZ)))))
abbrev jL:Ty:=(.st (.pr Gd (.pr (.sl aP) (.pr (.sl aP) (.sl aP)))))
abbrev Ge:Ty:=(.sl (.int .u8))
abbrev AK:Ty:=(.st (.pr Ge aP))
abbrev fP:Ty:=(.st (.pr aP aP))
abbrev Ka24:Ty:=(.st (.pr oO (.sl gx)))
abbrev u!:=Int×Int×Bool×Int
abbrev VV:=(ζ×u!)
abbrev oN:=(Y VV)
abbrev y!:=ζ×Bool
abbrev nJ:=(Y y!)
abbrev kF:=(ζ×Int)
abbrev dC:=(Y ζ)
abbrev b?:=oN×nJ×(Y kF)×dC×dC×Y ν
abbrev ep:=b?
abbrev j!:=Int×Int
abbrev tJ:=(oN×nJ×(Y kF)×dC×dC×(Y ν)×dC×j!)
abbrev i?:=Int×η
abbrev jF:=(Y i?)
abbrev d?:=Int×Int×Bool
abbrev d8:=d?
abbrev h!:=(θ)×Y d8
abbrev q!:=jF×Int×h!
abbrev rk:=q!
abbrev k?:=Int×(η)×(Y η)×Int
abbrev xr:=k?
abbrev mC:=(ω)
abbrev c?:=Int×Int×Int×Int×Int×(η)×η
abbrev gh:=c?
abbrev B!:=Int×Int×(ζ)×Int×Int×ζ
abbrev ano:=B!
abbrev yC:=(Y ano)
abbrev yB:=(ζ×Int×dC×Y Sx)
abbrev K?:=Bool×Bool
abbrev S?:=Int×Int×Bool×Bool×K?
abbrev Eg:=S?
abbrev y?:=ep×Y (Int×Y mC)
abbrev Ef:=y?
abbrev F_:=(υ)
abbrev f?:=(η)×(η)×η
abbrev P!:=rk×f?
abbrev gz:=P!
abbrev n?:=η×Int
abbrev iv:=n?
abbrev h?:=rk×(η)×(η)×Y xr
abbrev zQ:=h?
abbrev Yw:=(Int×Int×(ζ)×(ζ)×Int×Int×ζ)
abbrev zP:=(yC×(Y yB)×Int)
abbrev VW:=(Bool×Y ζ)
abbrev Ya23:=(Int×Int×xr×xr×k?)
abbrev Ya24:=(xr×Int×Int×xr×k?)
abbrev V!:=Int×Int×k?
abbrev Ya25:=(xr×xr×V!)
abbrev k!:=Eg×iv×Bool×Y ζ
abbrev agu:=((Y Sx)×k!)
abbrev Ya27:=(Int×Int×xr×k?)
abbrev Ya28:=(xr×V!)
abbrev Ya29:=V!
abbrev V?:=Int×k!
abbrev abu:=V?
abbrev agt:=(Sx×k!)
abbrev e!:=zP×(Bool×Y Sx)×dC×Y ζ
abbrev ako:=(Γ×e!)
abbrev g!:=tJ×Y mC
abbrev O0:=(Sx×g!)
abbrev F9:=(zQ×gh×Bool)
abbrev U!:=(Sx×Int×Int×Int)×g!
abbrev ags:=U!
abbrev akn:=(Γ×k!)
abbrev akm:=(kF×k!)
abbrev abt:=(Eg×iv×VW×Y Sx)
abbrev akl:=(Xp×k!)
abbrev Ya42:=(xr×xr×xr×j!)
abbrev agr:=((Y Sx)×g!)
abbrev bc {α:Type} (l:Y α):Int:=aR (ah l)
abbrev cS (n:Int):Int:=be .i64 (n+1)
abbrev aH {R α:Type} (x:α):M (R⊕α):=Z (cw x)
abbrev c7 {R α:Type} (x:R):M (R⊕α):=Z (wF x)
abbrev bY {R:Type} (T:Ty) (l:Y T.den) (j:Int) (k:T.den->M R):M R:=chk (fm j (ah l)) λ_=>lt (geti T l j) k
abbrev jZ {R:Type} (T:Ty) (l:Y T.den) (j:Int) (k:T.den->M R):M R:=chk (fm j (ah l)) λ_=>chk (fm j (ah l)) λ_=>lt (geti T l j) k
abbrev kj {R α:Type} (j:Int) (l:Y α) (k:M R):M R:=chk (fm j (ah l)) λ_=>k
abbrev bI {R:Type} (b:Bool) (k:M R):M R:=chk b λ_=>k
abbrev bn {R:Type} (a b:Int) (t f:M R):M R:=aL (decide (a=b)) t f
abbrev iK {R:Type} (a b:Int) (t f:M R):M R:=aL (!decide (a=b)) t f
abbrev bR {R:Type} (a b:Int) (t f:M R):M R:=aL (fM a b) t f
abbrev jR {R:Type} (a b:Int) (t f:M R):M R:=aL (dj a b) t f
def ck (b:Bool) (k:M R):M R:=chk b λ_=>chk b λ_=>k
def eA (s:Sx):Sx:=pO (Sx.op s,Sx.line s,Sx.name s,Sx.arg s,Sx.index s,eD (Xp.op (Sx.expr s),Xp.n (Sx.expr s),Xp.name (Sx.expr s),Xp.l (Sx.expr s)),Sx.body s,Sx.els s)
def pL (x:Unit):M dC:=
 (Z ([[118,97,114],[118,111,108,97,116,105,108,101],[109,117,116,101,120],[114,119,108,111,99,107],[99,111,110,100],[102,117,116,117,114,101],[116,104,114,101,97,100],[105,102],[101,108,115,101],[119,104,105,108,101],[108,111,99,107],[114,101,97,100],[119,114,105,116,101],[116,114,97,110,115,97,99,116,105,111,110],[97,116,111,109,105,99],[119,97,105,116],[110,111,116,105,102,121],[110,111,116,105,102,121,97,108,108],[115,112,97,119,110],[106,111,105,110],[115,101,116],[103,101,116]]))
def kM (x:ζ):M (Bool):=
 (ay (pL ()) λd=>(iter (σ:=Int) (λx2=>(bR x2 (bc d) (bY (.str) d x2 λz=>(aL (decide ((z:ζ)=x)) (aH J) (c7 (cS x2)))) (aH aa))) 0))
def mJ (x:Int):M (Bool):=
 (jn (jR 97 x (jR x 122 (aH J) (jR 65 x (aH (dj x 90)) (aH aa))) (jR 65 x (aH (dj x 90)) (aH aa))) λx1=>(Z x1))
def vI (x:Int):M (Bool):=
 (jn (jR 48 x (aH (dj x 57)) (aH aa)) λx1=>(Z x1))
def qR (x:Int):M (Bool):=
 (jn (ay (mJ x) λz=>(aL z (aH J) (ay (vI x) λd=>(aL d (aH J) (aH (decide ((x:Int)=95))))))) λx1=>(Z x1))
def fG (x:ζ):M (Bool):=
 (jn (bR (bc x) 1 (aH J) (bR 12 (bc x) (aH J) (kj 0 x (ay (mJ (sB x 0)) λD=>(aL (!D) (aH J) (ay (kM x) λA=>(aH A))))))) λx1=>(aL x1 (Z aa) (iter (σ:=Int) (λd=>(bR d (bc x) (kj d x (ay (qR (sB x d)) λz=>(aL (!z) (aH aa) (c7 (cS d))))) (aH J))) 0)))
def f_ (x:Bool):M (Int):=
 (aL x (Z 1) (Z 0))
abbrev r?:=Int×Bool
def vG (x:Γ):M r?:=
 (bn x.1 4 (Z ((be .i64 (0-x.2)),J)) (bn x.1 5 (ay (f_ (decide ((x.2:Int)=0))) λd=>(Z (d,J))) (Z (0,aa))))
def tN (x:ν):M r?:=
 (bn x.1 6 (Z ((be .i64 (x.2.1+x.2.2)),J)) (bn x.1 7 (Z ((be .i64 (x.2.1-x.2.2)),J)) (bn x.1 8 (Z ((be .i64 (x.2.1*x.2.2)),J)) (bn x.1 9 (bn x.2.2 0 (Z (0,J)) (bI (!decide ((x.2.2:Int)=0)) (Z ((be .i64 (Int.tdiv x.2.1 x.2.2)),J)))) (bn x.1 10 (bn x.2.2 0 (Z (0,J)) (bI (!decide ((x.2.2:Int)=0)) (Z ((bJ x.2.1 x.2.2),J)))) (bn x.1 11 (ay (f_ (decide ((x.2.1:Int)=x.2.2))) λy1=>(Z (y1,J))) (bn x.1 12 (ay (f_ (!decide ((x.2.1:Int)=x.2.2))) λy2=>(Z (y2,J))) (bn x.1 13 (ay (f_ (fM x.2.1 x.2.2)) λy3=>(Z (y3,J))) (bn x.1 14 (ay (f_ (dj x.2.1 x.2.2)) λy4=>(Z (y4,J))) (bn x.1 15 (ay (f_ (fM x.2.2 x.2.1)) λN=>(Z (N,J))) (bn x.1 16 (ay (f_ (dj x.2.2 x.2.1)) λL=>(Z (L,J))) (bn x.1 17 (jn (iK x.2.1 0 (ay (f_ (!decide ((x.2.2:Int)=0))) λF=>(aH (F,J))) (ay (f_ aa) λD=>(aH (D,J)))) λx7=>(Z x7)) (bn x.1 18 (jn (iK x.2.1 0 (ay (f_ J) λz=>(aH (z,J))) (ay (f_ (!decide ((x.2.2:Int)=0))) λd=>(aH (d,J)))) λA=>(Z A)) (Z (0,aa)))))))))))))))
def sR (x:Γ):M (Int):=
 (bR x.2 1 (Z 0) (bI (!decide ((x.2:Int)=0)) (jn (bR (bJ x.1 x.2) 0 (aH (be .i64 ((bJ x.1 x.2)+x.2))) (aH (bJ x.1 x.2))) λx1=>(Z x1))))
def pK (x:Int):M (Int):=
 (jn (bn x 1 (aH J) (aH (decide ((x:Int)=2)))) λx1=>(aL x1 (Z 0) (jn (jR 3 x (aH (dj x 5)) (aH aa)) λx2=>(aL x2 (Z 1) (jn (jR 6 x (aH (dj x 18)) (aH aa)) λd=>(aL d (Z 2) (Z (-1))))))))
def qA (rr02_ShapedExpr:Xp->M (Bool)) (x:Xp):M (Bool):=
 (jn (bn (Xp.op x) 2 (aH (J,eD ((Xp.op x),(Xp.n x),(Xp.name x),(Xp.l x)))) (aH ((decide (((Xp.op x):Int)=3)),eD ((Xp.op x),(Xp.n x),(Xp.name x),(Xp.l x))))) λx1=>(jn (α:=Bool×Xp) (ay (pK (Xp.op x1.2)) λF=>(iK F (aR (ah (Xp.l x1.2))) (aH (J,eD ((Xp.op x1.2),(Xp.n x1.2),(Xp.name x1.2),(Xp.l x1.2)))) (aL ((x1.1==(!decide (((Xp.name x1.2):ζ)=([])))) !=J) (aH (J,eD ((Xp.op x1.2),(Xp.n x1.2),(Xp.name x1.2),(Xp.l x1.2)))) (aL x1.1 (ay (fG (Xp.name x1.2)) λD=>(aL (!D) (aH (J,eD ((Xp.op x1.2),(Xp.n x1.2),(Xp.name x1.2),(Xp.l x1.2)))) (bR (Xp.n x1.2) 0 (aH (J,eD ((Xp.op x1.2),(Xp.n x1.2),(Xp.name x1.2),(Xp.l x1.2)))) (iK (Xp.op x1.2) 1 (aH ((!decide (((Xp.n x1.2):Int)=0)),eD ((Xp.op x1.2),(Xp.n x1.2),(Xp.name x1.2),(Xp.l x1.2)))) (aH (aa,eD ((Xp.op x1.2),(Xp.n x1.2),(Xp.name x1.2),(Xp.l x1.2)))))))) (bR (Xp.n x1.2) 0 (aH (J,eD ((Xp.op x1.2),(Xp.n x1.2),(Xp.name x1.2),(Xp.l x1.2)))) (iK (Xp.op x1.2) 1 (aH ((!decide (((Xp.n x1.2):Int)=0)),eD ((Xp.op x1.2),(Xp.n x1.2),(Xp.name x1.2),(Xp.l x1.2)))) (aH (aa,eD ((Xp.op x1.2),(Xp.n x1.2),(Xp.name x1.2),(Xp.l x1.2)))))))))) λx2=>(aL x2.1 (Z aa) (iter (σ:=Int×Xp) (λd=>(bR d.1 (aR (ah (Xp.l d.2))) (bY (.ex) (Xp.l d.2) d.1 λz=>(ay (rr02_ShapedExpr z) λA=>(aL (!A) (aH aa) (c7 ((cS d.1),eD ((Xp.op d.2),(Xp.n d.2),(Xp.name d.2),(Xp.l d.2))))))) (aH J))) (0,eD ((Xp.op x2.2),(Xp.n x2.2),(Xp.name x2.2),(Xp.l x2.2)))))))
def jX:Nat->Xp->M (Bool)
 |0,_=>U
 |n+1,x=>qA (jX n) x
def Bm (n:Nat) (x:Xp):jX (n+1) x=qA (jX n) x:=rfl
def lx (x:Xp):M (Bool):=jX fuel x
def sS (x:Xp):M (Bool):=
 (jn (α:=Bool) (bn (Xp.op x) 0 (bn (Xp.n x) 0 (aL (decide (((Xp.name x):ζ)=([]))) (aH (decide (((aR (ah (Xp.l x))):Int)=0))) (aH aa)) (aH aa)) (aH aa)) λx1=>(Z x1))
def qu (rr02_ShapedStmt:Sx->M (Bool)) (rr02_ShapedStmts:(Y Sx)->M (Bool)) (x:Sx):M (Bool):=
 (jn (bR (Sx.op x) 1 (aH (J,eA x)) (aH ((fM 15 (Sx.op x)),eA x))) λx1=>(aL x1.1 (Z aa) (jn (bn (Sx.op x1.2) 2 (aH (J,eA x1.2)) (bn (Sx.op x1.2) 3 (aH (J,eA x1.2)) (bn (Sx.op x1.2) 7 (aH (J,eA x1.2)) (aH ((decide (((Sx.op x1.2):Int)=8)),eA x1.2))))) λx2=>(jn (α:=Bool×Sx) (aL x2.1 (aL (!decide (((Sx.name x2.2):ζ)=([]))) (aH (J,eA x2.2)) (aL (!x2.1) (ay (fG (Sx.name x2.2)) λy4=>(aH ((!y4),eA x2.2))) (aH (aa,eA x2.2)))) (aL (!x2.1) (ay (fG (Sx.name x2.2)) λy5=>(aH ((!y5),eA x2.2))) (aH (aa,eA x2.2)))) λD=>(aL D.1 (Z aa) (jn (α:=Bool×Sx) (bn (Sx.op D.2) 15 (ay (fG (Sx.arg D.2)) λy7=>(aL (!y7) (aH (J,eA D.2)) (iK (Sx.op D.2) 15 (aH ((!decide (((Sx.arg D.2):ζ)=([]))),eA D.2)) (aH (aa,eA D.2))))) (iK (Sx.op D.2) 15 (aH ((!decide (((Sx.arg D.2):ζ)=([]))),eA D.2)) (aH (aa,eA D.2)))) λA=>(aL A.1 (Z aa) (jn (bR 1 (aR (ah (Sx.index A.2))) (aH (J,eA A.2)) (iK (Sx.op A.2) 1 (bR 0 (aR (ah (Sx.index A.2))) (aH (J,eA A.2)) (bn (aR (ah (Sx.index A.2))) 1 (bY (.ex) (Sx.index A.2) 0 λz9=>(ay (lx z9) λy10=>(aH ((!y10),eA A.2)))) (aH (aa,eA A.2)))) (bn (aR (ah (Sx.index A.2))) 1 (bY (.ex) (Sx.index A.2) 0 λz11=>(ay (lx z11) λy12=>(aH ((!y12),eA A.2)))) (aH (aa,eA A.2))))) λL=>(aL L.1 (Z aa) (jn (bn (Sx.op L.2) 1 (aH (J,eA L.2)) (bn (Sx.op L.2) 2 (aH (J,eA L.2)) (bn (Sx.op L.2) 3 (aH (J,eA L.2)) (aH ((decide (((Sx.op L.2):Int)=14)),eA L.2))))) λd=>(jn (aL d.1 (ay (lx (eD ((Xp.op (Sx.expr d.2)),(Xp.n (Sx.expr d.2)),(Xp.name (Sx.expr d.2)),(Xp.l (Sx.expr d.2))))) λy15=>(aL (!y15) (aH (J,eA d.2)) (aL (!d.1) (ay (sS (eD ((Xp.op (Sx.expr d.2)),(Xp.n (Sx.expr d.2)),(Xp.name (Sx.expr d.2)),(Xp.l (Sx.expr d.2))))) λy16=>(aH ((!y16),eA d.2))) (aH (aa,eA d.2))))) (aL (!d.1) (ay (sS (eD ((Xp.op (Sx.expr d.2)),(Xp.n (Sx.expr d.2)),(Xp.name (Sx.expr d.2)),(Xp.l (Sx.expr d.2))))) λy17=>(aH ((!y17),eA d.2))) (aH (aa,eA d.2)))) λF=>(aL F.1 (Z aa) (jn (jR 2 (Sx.op F.2) (aH ((dj (Sx.op F.2) 8),eA F.2)) (aH (aa,eA F.2))) λz=>(jn (aL (!z.1) (bR 0 (aR (ah (Sx.body z.2))) (aH (J,eA z.2)) (iK (Sx.op z.2) 2 (aH ((fM 0 (aR (ah (Sx.els z.2)))),eA z.2)) (aH (aa,eA z.2)))) (iK (Sx.op z.2) 2 (aH ((fM 0 (aR (ah (Sx.els z.2)))),eA z.2)) (aH (aa,eA z.2)))) λN=>(aL N.1 (Z aa) (jn (ay (rr02_ShapedStmts (Sx.body N.2)) λy21=>(aL y21 (ay (rr02_ShapedStmts (Sx.els N.2)) λy22=>(aH y22)) (aH aa))) λx20=>(Z x20)))))))))))))))))
def pf (rr02_ShapedStmt:Sx->M (Bool)) (rr02_ShapedStmts:(Y Sx)->M (Bool)) (x:Y Sx):M (Bool):=
 (iter (σ:=Int) (λx1=>(bR x1 (bc x) (kj x1 x (ay (rr02_ShapedStmt (geti (.sm) x x1)) λd=>(aL (!d) (aH aa) (c7 (cS x1))))) (aH J))) 0)
mutual
def iz:Nat->Sx->M (Bool)
 |0,_=>U
 |n+1,x=>qu (iz n) (fS n) x
def fS:Nat->(Y Sx)->M (Bool)
 |0,_=>U
 |n+1,x=>pf (iz n) (fS n) x
end
def sT (x:Y Sx):M (Bool):=fS fuel x
def nj (x:B!):M (Bool):=
 (jn (bR x.1 1 (aH (J,x)) (bR 6 x.1 (aH (J,x)) (ay (fG x.a) λA=>(aL (!A) (aH (J,x)) (bR x.b 0 (aH (J,x)) (iK x.1 1 (aH ((!decide ((x.b:Int)=0)),x)) (aH (aa,x)))))))) λx1=>(aL x1.1 (Z aa) (jn (α:=Bool×B!) (bn x1.2.1 5 (ay (fG x1.m) λz=>(aL (!z) (aH (J,x1.2)) (iK x1.2.1 5 (aH ((!decide ((x1.m:ζ)=([]))),x1.2)) (aH (aa,x1.2))))) (iK x1.2.1 5 (aH ((!decide ((x1.m:ζ)=([]))),x1.2)) (aH (aa,x1.2)))) λd=>(aL d.1 (Z aa) (jn (α:=Bool) (bR (-9223372036854775808) d.d (bn d.d 0 (aH J) (bn d.2.1 1 (aH J) (aH (decide ((d.2.1:Int)=2))))) (aH aa)) λD=>(Z D))))))
abbrev z!:=yC×Y yB
abbrev K!:=Int×(yC×Y yB)×(ζ)×Int×dC×Y Sx
def tP (x:z!):M (Bool):=
 (iter (σ:=Int×z!) (λx1=>(bR x1.1 (bc x1.2.1) (bY IW x1.2.1 x1.1 λz2=>(ay (nj z2) λy3=>(aL (!y3) (aH aa) (c7 ((cS x1.1),x1.2))))) (ay (iter (σ:=Int×z!) (λz=>(bR z.1 (bc z.2.2) (bY uv z.2.2 z.1 λN=>(iter (σ:=K!) (λd=>(bR d.1 (bc d.c) (bY (.str) d.c d.1 λL=>(ay (fG L) λy8=>(aL (!y8) (aH (cw aa)) (c7 ((cS d.1),d.2))))) (ay (jn (ay (fG d.a) λD=>(aL (!D) (aH (J,d.2.1)) (ay (sT d.h) λA=>(aH ((!A),d.2.1))))) λF=>(aL F.1 (aH aa) (c7 ((cS z.1),F.2)))) λr=>Z (cw r)))) (0,z.2,N))) (aH (fM 0 (bc z.2.2))))) (0,x1.2)) λr=>Z (cw r)))) (0,x))
def lh (x:dC×ζ):M (Int):=
 (iter (σ:=Int) (λx1=>(bR x1 (bc x.1) (bY (.str) x.1 x1 λd=>(aL (decide ((d:ζ)=x.2)) (aH x1) (c7 (cS x1)))) (aH (-1)))) 0)
def jC (x:yC×ζ):M (Int):=
 (iter (σ:=Int) (λx1=>(bR x1 (bc x.1) (bY IW x.1 x1 λd=>(aL (decide ((d.2.2.1:ζ)=x.2)) (aH x1) (c7 (cS x1)))) (aH (-1)))) 0)
def i_ (x:(Y yB)×ζ):M (Int):=
 (iter (σ:=Int) (λx1=>(bR x1 (bc x.1) (bY uv x.1 x1 λd=>(aL (decide ((d.1:ζ)=x.2)) (aH x1) (c7 (cS x1)))) (aH (-1)))) 0)
def tO (x:(yC×Y yB)×Int×ζ):M (Int):=
 (jn (jR 0 x.2.1 (bR x.2.1 (bc x.1.2) (bY uv x.1.2 x.2.1 λL=>(ay (lh (L.2.2.1,x.2.2)) λy3=>(aH ((dj 0 y3),x.1)))) (aH (aa,x.1))) (aH (aa,x.1))) λx1=>(aL x1.1 (Z 8) (ay (jC (x1.2.1,x.2.2)) λz=>(bR z 0 (ay (i_ (x1.2.2,x.2.2)) λN=>(jR 0 N (Z 7) (Z 0))) (kj z x1.2.1 (lt ((geti IW x1.2.1 z).1) λd=>(bn d 1 (bY IW x1.2.1 z λF=>(iK F.2.2.2.1 0 (Z 2) (Z 1))) (bn d 2 (Z 1) (jn (bn d 3 (aH ((decide ((d:Int)=3)),x1.2)) (bn d 4 (aH ((decide ((d:Int)=4)),x1.2)) (bn d 5 (aH ((decide ((d:Int)=5)),x1.2)) (aH ((decide ((d:Int)=6)),x1.2))))) λA=>(aL A.1 (bY IW A.2.1 z λD=>(Z D.1)) (Z 9)))))))))))
def io (x:(yC×Y yB)×Int×(ζ)×j!):M (Int):=
 (ay (tO (x.1,x.2.1,x.a)) λd=>(bn d 0 (Z 5) (jn (iK d x.b (aH (!decide ((d:Int)=x.g))) (aH aa)) λx2=>(aL x2 (Z 6) (Z 0)))))
def zu (rr04_Nodes:Xp->M Γ) (x:Xp):M Γ:=
 (iter (σ:=(ν)×Xp) (λx1=>(bR x1.1.2.2 (aR (ah (Xp.l x1.2))) (bY (.ex) (Xp.l x1.2) x1.1.2.2 λz=>(ay (rr04_Nodes z) λd=>(c7 (((be .i64 (x1.1.1+d.1)),(oI x1.1.2.1 d.2),(cS x1.1.2.2)),eD ((Xp.op x1.2),(Xp.n x1.2),(Xp.name x1.2),(Xp.l x1.2)))))) (aH (x1.1.1,(cS x1.1.2.1))))) ((1,0,0),eD ((Xp.op x),(Xp.n x),(Xp.name x),(Xp.l x))))
def qV:Nat->Xp->M Γ
 |0,_=>U
 |n+1,x=>zu (qV n) x
def Ju (n:Nat) (x:Xp):qV (n+1) x=zu (qV n) x:=rfl
def Lg (x:Xp):M Γ:=qV fuel x
abbrev w?:=(yC×Y yB)×Int×Xp
def zo (rr04_names:w?->M (Int)) (x:w?):M (Int):=
 (jn (α:=Int×(yC×Y yB)×Xp) (bn (Xp.op x.2.2) 2 (ay (io (x.1,x.2.1,(Xp.name x.2.2),8,1)) λL=>(aH (L,x.1,eD ((Xp.op x.2.2),(Xp.n x.2.2),(Xp.name x.2.2),(Xp.l x.2.2))))) (bn (Xp.op x.2.2) 3 (ay (io (x.1,x.2.1,(Xp.name x.2.2),2,2)) λF=>(aH (F,x.1,eD ((Xp.op x.2.2),(Xp.n x.2.2),(Xp.name x.2.2),(Xp.l x.2.2))))) (aH (0,x.1,eD ((Xp.op x.2.2),(Xp.n x.2.2),(Xp.name x.2.2),(Xp.l x.2.2)))))) λx1=>(iter (σ:=(Γ)×(yC×Y yB)×Xp) (λd=>(jn (bR d.1.2 (aR (ah (Xp.l d.2.2))) (aH ((decide ((d.1.1:Int)=0)),d.2.1,eD ((Xp.op d.2.2),(Xp.n d.2.2),(Xp.name d.2.2),(Xp.l d.2.2)))) (aH (aa,d.2.1,eD ((Xp.op d.2.2),(Xp.n d.2.2),(Xp.name d.2.2),(Xp.l d.2.2))))) λz=>(aL z.1 (bY (.ex) (Xp.l z.2.2) d.1.2 λA=>(ay (rr04_names (z.2.1,x.2.1,A)) λD=>(c7 ((D,(cS d.1.2)),z.2.1,eD ((Xp.op z.2.2),(Xp.n z.2.2),(Xp.name z.2.2),(Xp.l z.2.2)))))) (aH d.1.1)))) ((x1.1,0),x1.2.1,eD ((Xp.op x1.2.2),(Xp.n x1.2.2),(Xp.name x1.2.2),(Xp.l x1.2.2)))))
def qU:Nat->(w?)->M (Int)
 |0,_=>U
 |n+1,x=>zo (qU n) x
def Jt (n:Nat) (x:w?):qU (n+1) x=zo (qU n) x:=rfl
def Lf (x:w?):M (Int):=qU fuel x
def oZ (x:w?):M (Int):=
 (ay (lx (eD ((Xp.op x.2.2),(Xp.n x.2.2),(Xp.name x.2.2),(Xp.l x.2.2)))) λD=>(aL (!D) (Z 3) (ay (Lg (eD ((Xp.op x.2.2),(Xp.n x.2.2),(Xp.name x.2.2),(Xp.l x.2.2)))) λz=>(jn (bR 24 z.1 (aH (J,x.1,eD ((Xp.op x.2.2),(Xp.n x.2.2),(Xp.name x.2.2),(Xp.l x.2.2)))) (aH ((fM 6 z.2),x.1,eD ((Xp.op x.2.2),(Xp.n x.2.2),(Xp.name x.2.2),(Xp.l x.2.2))))) λd=>(aL d.1 (Z 2) (ay (Lf (d.2.1,x.2.1,eD ((Xp.op d.2.2),(Xp.n d.2.2),(Xp.name d.2.2),(Xp.l d.2.2)))) λA=>(Z A)))))))
def dy (x:Bool):M (Int):=
 (aL x (Z 7) (Z 0))
def ko (x:Γ):M (Int):=
 (iK x.1 0 (Z x.1) (Z x.2))
abbrev O?:=Int×e!
def eJ (x:(Int×Int×ζ)×e!):M (Bool×e!):=
 (iter (σ:=O?) (λx1=>(bR x1.1 (bc x1.a.2) (jZ (.sm) x1.a.2 x1.1 λd=>(jn (α:=Bool×e!) (bn (Sx.op d) x.1.1 (aL (decide ((x.1.2.2:ζ)=([]))) (aH (J,x1.2)) (aH ((decide (((Sx.name d):ζ)=x.1.2.2)),x1.2))) (bn (Sx.op d) x.1.2.1 (aL (decide ((x.1.2.2:ζ)=([]))) (aH (J,x1.2)) (aH ((decide (((Sx.name d):ζ)=x.1.2.2)),x1.2))) (aH (aa,x1.2)))) λz=>(aL z.1 (aH (J,z.2)) (c7 ((cS x1.1),z.2))))) (aH (aa,x1.2)))) (0,x.2))
abbrev D?:=Int×zP×(Bool×Y Sx)×Sx×(yC×Y yB)×dC×Y ζ
def pJ (x:Sx×e!):M O?:=
 (ay (eJ ((7,7,[]),x.2)) λy1=>(bI (ax (ah x.g) (ah y1.g)&&(ax (ah x.b) (ah y1.b)&&(((x.a.1==y1.a.1)&&J)&&ax (ah x.a.2) (ah y1.a.2)&&J))) (ay (eJ ((8,8,[]),y1.2)) λy2=>(bI (ax (ah y1.g) (ah y2.g)&&(ax (ah y1.b) (ah y2.b)&&(((y1.a.1==y2.a.1)&&J)&&ax (ah y1.a.2) (ah y2.a.2)&&J))) (ay (eJ ((3,3,[]),y2.2)) λy3=>(bI (ax (ah y2.g) (ah y3.g)&&(ax (ah y2.b) (ah y3.b)&&(((y2.a.1==y3.a.1)&&J)&&ax (ah y2.a.2) (ah y3.a.2)&&J))) (bn (Sx.op x.1) 1 (bn (aR (ah (Sx.index x.1))) 0 (ay (io ((x.2.1.1,x.2.1.2.1),x.2.1.2.2,(Sx.name x.1),8,1)) λy4=>(ay (oZ ((x.2.1.1,x.2.1.2.1),x.2.1.2.2,eD ((Xp.op (Sx.expr x.1)),(Xp.n (Sx.expr x.1)),(Xp.name (Sx.expr x.1)),(Xp.l (Sx.expr x.1))))) λy5=>(ay (ko (y4,y5)) λy6=>(Z (y6,y3.2))))) (ay (io ((x.2.1.1,x.2.1.2.1),x.2.1.2.2,(Sx.name x.1),2,2)) λy7=>(bY (.ex) (Sx.index x.1) 0 λz8=>(ay (oZ ((x.2.1.1,x.2.1.2.1),x.2.1.2.2,z8)) λy9=>(ay (oZ ((x.2.1.1,x.2.1.2.1),x.2.1.2.2,eD ((Xp.op (Sx.expr x.1)),(Xp.n (Sx.expr x.1)),(Xp.name (Sx.expr x.1)),(Xp.l (Sx.expr x.1))))) λy10=>(ay (ko (y9,y10)) λy11=>(ay (ko (y7,y11)) λy12=>(Z (y12,y3.2))))))))) (jn (bn (Sx.op x.1) 2 (aH ((decide (((Sx.op x.1):Int)=2)),y3.2.1,y3.a,eA x.1,(x.2.1.1,x.2.1.2.1),y3.e)) (aH ((decide (((Sx.op x.1):Int)=3)),y3.2.1,y3.a,eA x.1,(x.2.1.1,x.2.1.2.1),y3.e))) λA=>(aL A.1 (ay (oZ (A.c,x.2.1.2.2,eD ((Xp.op (Sx.expr A.b)),(Xp.n (Sx.expr A.b)),(Xp.name (Sx.expr A.b)),(Xp.l (Sx.expr A.b))))) λy14=>(Z (y14,A.2.1,A.a,A.h))) (bn (Sx.op x.1) 4 (jn (α:=O?) (ay (io (A.c,x.2.1.2.2,(Sx.name A.b),3,3)) λy16=>(aL y1.1 (ay (dy J) λy17=>(ay (ko (y16,y17)) λy18=>(aH (y18,A.2.1,A.a,A.h)))) (ay (eJ ((4,4,(Sx.name A.b)),A.2.1,A.a,A.h)) λy19=>(bI (ax (ah A.m) (ah y19.g)&&(ax (ah A.d) (ah y19.b)&&(((A.a.1==y19.a.1)&&J)&&ax (ah A.a.2) (ah y19.a.2)&&J))) (ay (dy y19.1) λy20=>(ay (ko (y16,y20)) λy21=>(aH (y21,y19.2)))))))) λx15=>(Z x15)) (jn (bn (Sx.op x.1) 5 (aH ((decide (((Sx.op x.1):Int)=5)),A.2.1,A.a,eA A.b,A.g)) (aH ((decide (((Sx.op x.1):Int)=6)),A.2.1,A.a,eA A.b,A.g))) λz=>(aL z.1 (jn (α:=O?) (ay (io (z.c,x.2.1.2.2,(Sx.name z.b),4,4)) λy24=>(aL y1.1 (ay (dy J) λy25=>(ay (ko (y24,y25)) λy26=>(aH (y26,z.2.1,z.a,z.h)))) (ay (eJ ((5,6,(Sx.name z.b)),z.2.1,z.a,z.h)) λy27=>(bI (ax (ah z.m) (ah y27.g)&&(ax (ah z.d) (ah y27.b)&&(((z.a.1==y27.a.1)&&J)&&ax (ah z.a.2) (ah y27.a.2)&&J))) (ay (dy y27.1) λy28=>(ay (ko (y24,y28)) λy29=>(aH (y29,y27.2)))))))) λx23=>(Z x23)) (bn (Sx.op x.1) 7 (ay (dy y1.1) λy30=>(Z (y30,z.2.1,z.a,z.h))) (bn (Sx.op x.1) 8 (jn (aL y1.1 (ay (dy J) λy32=>(aH (y32,z.2.1,z.a,z.h))) (ay (dy y2.1) λy33=>(aH (y33,z.2.1,z.a,z.h)))) λx31=>(Z x31)) (jn (bn (Sx.op x.1) 9 (aH ((decide (((Sx.op x.1):Int)=9)),z.2.1,z.a,eA z.b,z.g)) (bn (Sx.op x.1) 10 (aH ((decide (((Sx.op x.1):Int)=10)),z.2.1,z.a,eA z.b,z.g)) (aH ((decide (((Sx.op x.1):Int)=11)),z.2.1,z.a,eA z.b,z.g)))) λd=>(aL d.1 (ay (io (d.c,x.2.1.2.2,(Sx.name d.b),5,5)) λy35=>(iK y35 0 (Z (y35,d.2.1,d.a,d.h)) (ay (jC (d.c.1,(Sx.name d.b))) λy36=>(bY IW d.c.1 y36 λz37=>(ay (eJ ((4,4,z37.2.2.2.2.2),d.2.1,d.a,d.h)) λN=>(bI (ax (ah d.m) (ah N.g)&&(ax (ah d.d) (ah N.b)&&(((d.a.1==N.a.1)&&J)&&ax (ah d.a.2) (ah N.a.2)&&J))) (jn (aL y1.1 (ay (dy J) λy40=>(aH (y40,N.2))) (aL (!N.1) (ay (dy J) λy41=>(aH (y41,N.2))) (bn (Sx.op d.b) 9 (ay (dy y2.1) λy42=>(aH (y42,N.2))) (ay (dy aa) λy43=>(aH (y43,N.2)))))) λx39=>(Z x39)))))))) (bn (Sx.op x.1) 12 (ay (io (d.c,x.2.1.2.2,(Sx.name d.b),7,7)) λy44=>(iK y44 0 (Z (y44,d.2.1,d.a,d.h)) (ay (i_ (d.c.2,(Sx.name d.b))) λy45=>(jn (aL y1.1 (aH (J,d.2.1,d.a,eA d.b,d.h)) (aL y2.1 (aH (J,d.2.1,d.a,eA d.b,d.h)) (aL y3.1 (aH (J,d.2.1,d.a,eA d.b,d.h)) (bn y45 x.2.1.2.2 (aH (J,d.2.1,d.a,eA d.b,d.h)) (aH ((decide ((y45:Int)=0)),d.2.1,d.a,eA d.b,d.h)))))) λD=>(aL D.1 (Z (7,D.2.1,D.a,D.g)) (ay (lh (D.c,(Sx.name D.b))) λy47=>(jR 0 y47 (Z (8,D.2.1,D.a,D.g)) (bI (bh (ah D.c+ah ([(Sx.name D.b)])) 16) (Z (0,D.2.1,D.a,(D.c++([(Sx.name D.b)])),D.h)))))))))) (bn (Sx.op x.1) 13 (jn (α:=O?) (ay (io (d.c,x.2.1.2.2,(Sx.name d.b),7,7)) λy49=>(aL y1.1 (ay (dy J) λy50=>(ay (ko (y49,y50)) λy51=>(aH (y51,d.2.1,d.a,d.h)))) (aL y2.1 (ay (dy J) λy52=>(ay (ko (y49,y52)) λy53=>(aH (y53,d.2.1,d.a,d.h)))) (ay (i_ (d.c.2,(Sx.name d.b))) λy54=>(ay (dy (decide ((y54:Int)=x.2.1.2.2))) λy55=>(ay (ko (y49,y55)) λy56=>(aH (y56,d.2.1,d.a,d.h)))))))) λx48=>(Z x48)) (bn (Sx.op x.1) 14 (jn (α:=D?) (ay (io (d.c,x.2.1.2.2,(Sx.name d.b),6,6)) λy58=>(aL y1.1 (ay (dy J) λy59=>(ay (ko (y58,y59)) λy60=>(aH (y60,d.2.1,d.a,eA d.b,d.g)))) (ay (dy y3.1) λy61=>(ay (ko (y58,y61)) λy62=>(aH (y62,d.2.1,d.a,eA d.b,d.g)))))) λL=>(jn (α:=D?) (jn (bn L.1 0 (ay (lh (L.m,(Sx.name L.b))) λy65=>(aH ((dj 0 y65),L.2.1,L.a,eA L.b,L.g))) (aH (aa,L.2.1,L.a,eA L.b,L.g))) λx64=>(aL x64.1 (aH (8,x64.2.1,x64.a,eA x64.b,x64.g)) (aH (L.1,x64.2.1,x64.a,eA x64.b,x64.g)))) λF=>(bI (bh (ah F.m+ah ([(Sx.name F.b)])) 16) (ay (oZ (F.c,x.2.1.2.2,eD ((Xp.op (Sx.expr F.b)),(Xp.n (Sx.expr F.b)),(Xp.name (Sx.expr F.b)),(Xp.l (Sx.expr F.b))))) λy66=>(ay (ko (F.1,y66)) λy67=>(Z (y67,F.2.1,F.a,F.d,(F.m++([(Sx.name F.b)]))))))))) (ay (io (d.c,x.2.1.2.2,(Sx.name d.b),8,8)) λy68=>(ay (io (d.c,x.2.1.2.2,(Sx.arg d.b),6,6)) λy69=>(ay (dy y1.1) λy70=>(ay (ko (y69,y70)) λy71=>(ay (ko (y68,y71)) λy72=>(Z (y72,d.2.1,d.a,d.h))))))))))))))))))))))))))
abbrev P?:=(Y Sx)×e!
def tB (rr04_walk_all:P?->M ako) (x:P?):M ako:=
 (iter (σ:=O?) (λx1=>(bR x1.1 (bc x.1) (bY (.sm) x.1 x1.1 λF=>(ay (pJ (eA F,x1.2)) λD=>(bI (ax (ah x1.g) (ah x1.g)&&(ax (ah x1.b) (ah x1.b)&&(((x1.a.1==D.a.1)&&J)&&ax (ah x1.a.2) (ah D.a.2)&&J))) (jn (α:=Int×zP×Sx×(Bool×Y Sx)×dC×Y ζ) (bR 6 (be .i64 ((bc D.a.2)+1)) (aH (2,D.2.1,eA F,D.2.2)) (aH (D.1,D.2.1,eA F,D.2.2))) λd=>(iK d.1 0 (aH ((d.1,(Sx.line d.a)),d.2.1,d.e)) (bI (bh (ah d.b.2+ah ([pO (0,0,[],[],([]:Y Xp),eD (0,0,[],([]:Y Xp)),([]:Y Sx),([]:Y Sx))])) 176) (ck (fm (bc d.b.2) (ah (d.b.2++([pO (0,0,[],[],([]:Y Xp),eD (0,0,[],([]:Y Xp)),([]:Y Sx),([]:Y Sx))])))) (ay (rr04_walk_all ((Sx.body d.a),d.2.1,(d.b.1,(cJ (d.b.2++([pO (0,0,[],[],([]:Y Xp),eD (0,0,[],([]:Y Xp)),([]:Y Sx),([]:Y Sx))])) (bc d.b.2) (eA d.a))),d.g)) λA=>(bI (ax (ah d.h) (ah d.h)&&(ax (ah d.c) (ah d.c)&&(((d.b.1==d.b.1)&&J)&&ax (ah (cJ (d.b.2++([pO (0,0,[],[],([]:Y Xp),eD (0,0,[],([]:Y Xp)),([]:Y Sx),([]:Y Sx))])) (bc d.b.2) (eA d.a))) (ah (cJ (d.b.2++([pO (0,0,[],[],([]:Y Xp),eD (0,0,[],([]:Y Xp)),([]:Y Sx),([]:Y Sx))])) (bc d.b.2) (eA d.a)))&&J))) (jn (bn A.1.1 0 (ay (rr04_walk_all ((Sx.els d.a),A.2)) λL=>(bI (ax (ah A.g) (ah A.g)&&(ax (ah A.b) (ah A.b)&&(((A.a.1==A.a.1)&&J)&&ax (ah A.a.2) (ah A.a.2)&&J))) (aH L))) (aH A)) λz=>(bI (dj 0 (be .i64 ((bc z.a.2)-1))&&fM (be .i64 ((bc z.a.2)-1)) (ah z.a.2)) (iK z.1.1 0 (aH (z.1,z.2.1,(aa,(dg (aS (be .i64 ((bc z.a.2)-1))) z.a.2)),z.e)) (c7 ((cS x1.1),z.2.1,(aa,(dg (aS (be .i64 ((bc z.a.2)-1))) z.a.2)),z.e)))))))))))))) (aH ((0,0),x1.2)))) (0,x.2))
def nG:Nat->(P?)->M ako
 |0,_=>U
 |n+1,x=>tB (nG n) x
def CZ (x:P?):M ako:=nG fuel x
def zA (rr04_Count:(Y Sx)->M (Int)) (x:Y Sx):M (Int):=
 (iter (σ:=Γ) (λx1=>(bR x1.2 (bc x) (kj x1.2 x (lt (Sx.body (geti (.sm) x x1.2)) λz=>(ay (rr04_Count z) λD=>(kj x1.2 x (lt (Sx.els (geti (.sm) x x1.2)) λd=>(ay (rr04_Count d) λA=>(c7 ((be .i64 ((be .i64 (x1.1+D))+A)),(cS x1.2))))))))) (aH x1.1))) ((bc x),0))
def qW:Nat->(Y Sx)->M (Int)
 |0,_=>U
 |n+1,x=>zA (qW n) x
def Jv (n:Nat) (x:Y Sx):qW (n+1) x=zA (qW n) x:=rfl
def Lh (x:Y Sx):M (Int):=qW fuel x
def vH (x:Y ano):M Γ:=
 (iter (σ:=υ) (λx1=>(bR x1.g (bc x) (jn (α:=π) (bY IW x x1.g λd=>(bI (dj 0 x1.g&&dj x1.g (ah x)) (ay (jC ((dg (aS x1.g) x),d.a)) λy4=>(jR 0 y4 (c7 (cw (4,d.2.1))) (bR 4 d.b (c7 (cw (2,d.2.1))) (jn (jn (bn d.1 1 (aH ((decide ((d.1:Int)=1)),d)) (aH ((decide ((d.1:Int)=2)),d))) λD=>(aL D.1 (aH (((be .i64 (x1.1+(oI D.c 1))),x1.2.1,x1.a,x1.b),D.2)) (jn (bn d.1 3 (aH ((decide ((d.1:Int)=3)),D.2)) (aH ((decide ((d.1:Int)=4)),D.2))) λF=>(aL F.1 (aH ((x1.1,(cS x1.2.1),x1.a,x1.b),F.2)) (bn d.1 5 (aH ((x1.1,x1.2.1,(cS x1.a),x1.b),F.2)) (aH ((x1.1,x1.2.1,x1.a,(cS x1.b)),F.2))))))) λz=>(jn (bR 12 z.1.1 (aH (J,z.2)) (bR 4 z.1.2.1 (aH (J,z.2)) (bR 2 z.1.a (aH (J,z.2)) (aH ((fM 2 z.1.e),z.2))))) λA=>(aL A.1 (c7 (cw (2,A.a))) (bn A.2.1 5 (bI (dj 0 x1.g&&dj x1.g (ah x)) (ay (jC ((dg (aS x1.g) x),A.m)) λN=>(bR N 0 (c7 (cw (5,A.a))) (bY IW x N λL=>(iK L.1 3 (c7 (cw (6,A.a))) (aH z.1)))))) (aH z.1)))))))))) λx2=>(c7 (x2.1,x2.2.1,x2.a,x2.e,(cS x1.g)))) (aH (0,0)))) (0,0,0,0,0))
def rP (x:z!):M Γ:=
 (iter (σ:=Int×z!) (λx1=>(bR x1.1 (bc x1.2.2) (bY uv x1.2.2 x1.1 λD=>(jn (ay (jC (x1.2.1,D.1)) λy4=>(jR 0 y4 (aH (J,x1.2,D)) (bI (dj 0 x1.1&&dj x1.1 (ah x1.2.2)) (ay (i_ ((dg (aS x1.1) x1.2.2),D.1)) λy5=>(aH ((dj 0 y5),x1.2,D)))))) λx3=>(aL x3.1 (aH (4,x3.b)) (c7 ((cS x1.1),x3.2.1))))) (ay (iter (σ:=Int×z!) (λA=>(bR A.1 (bc A.2.2) (bY uv A.2.2 A.1 λL=>(bR 4 (bc L.a) (aH (2,L.2.1)) (iter (σ:=K!) (λd=>(bR d.1 (bc d.c) (bY (.str) d.c d.1 λF=>(jn (ay (jC (d.2.1.1,F)) λy11=>(jR 0 y11 (aH (J,d.2)) (ay (i_ (d.2.1.2,F)) λy12=>(jR 0 y12 (aH (J,d.2)) (bI (dj 0 d.1&&dj d.1 (ah d.c)) (ay (lh ((dg (aS d.1) d.c),F)) λN=>(aH ((dj 0 N),d.2)))))))) λz=>(aL z.1 (aH (cw (4,z.b))) (c7 ((cS d.1),z.2))))) (aH (wF ((cS A.1),d.2.1))))) (0,A.2,L)))) (aH (0,0)))) (0,x1.2)) λr=>Z (cw r)))) (0,x))
def lG (x:z!):M Γ:=
 (ay (tP x) λy1=>(aL (!y1) (Z (3,0)) (ay (vH x.1) λF=>(iK F.1 0 (Z F) (bR 4 (bc x.2) (Z (2,0)) (ay (rP x) λD=>(iK D.1 0 (Z D) (iter (σ:=(Γ)×z!) (λz=>(bR z.1.2 (bc z.2.2) (bY uv z.2.2 z.1.2 λN=>(ay (Lh N.2.2.2) λy6=>(c7 (((be .i64 (z.1.1+y6)),(cS z.1.2)),z.2)))) (ay (bR 60 z.1.1 (Z (2,0)) (iter (σ:=Int×(yC×Y yB)×e!) (λd=>(bR d.1 (bc d.2.1.2) (bY uv d.2.1.2 d.1 λL=>(ay (CZ (L.2.2.2,(d.a.1,d.a.2.1,d.1),d.e)) λA=>(bI (ax (ah d.h) (ah d.h)&&(ax (ah d.c) (ah d.c)&&(((d.b.1==d.b.1)&&J)&&ax (ah d.b.2) (ah d.b.2)&&J))) (iK A.1.1 0 (aH A.1) (c7 ((cS d.1),d.2.1,A.2)))))) (aH (0,0)))) (0,z.2,(z.2.1,z.2.2,0),(J,([]:Y Sx)),([]:Y ζ),([]:Y ζ)))) λr=>Z (cw r)))) ((0,0),x)))))))))
abbrev x!:=(Int×Int×Y Sx)×Y ν
abbrev U?:=Int×Y ν
def zi (rr06_sites:x!->M U?) (x:x!):M U?:=
 (iter (σ:=(Γ)×Y ν) (λx1=>(bR x1.1.2 (bc x.1.2.2) (kj x1.1.2 x.1.2.2 (lt (Sx.line (geti (.sm) x.1.2.2 x1.1.2)) λd=>(bI (bh (ah x1.2+ah ([(x.1.1,x1.1.1,d)])) 24) (kj x1.1.2 x.1.2.2 (lt (Sx.body (geti (.sm) x.1.2.2 x1.1.2)) λF=>(ay (rr06_sites ((x.1.1,(cS x1.1.1),F),(x1.2++([(x.1.1,x1.1.1,d)])))) λz=>(bI (ax (ah (x1.2++([(x.1.1,x1.1.1,d)]))) (ah (x1.2++([(x.1.1,x1.1.1,d)])))&&J) (kj x1.1.2 x.1.2.2 (lt (Sx.els (geti (.sm) x.1.2.2 x1.1.2)) λD=>(ay (rr06_sites ((x.1.1,z.1,D),z.2)) λA=>(bI (ax (ah z.2) (ah z.2)&&J) (c7 ((A.1,(cS x1.1.2)),A.2))))))))))))) (aH (x1.1.1,x1.2)))) ((x.1.2.1,0),x.2))
def qT:Nat->(x!)->M U?
 |0,_=>U
 |n+1,x=>zi (qT n) x
def Js (n:Nat) (x:x!):qT (n+1) x=zi (qT n) x:=rfl
def Ld (x:x!):M U?:=qT fuel x
def mH (x:nJ×ζ):M (Int):=
 (iter (σ:=Int) (λx1=>(bR x1 (bc x.1) (bY s7 x.1 x1 λd=>(aL (decide ((d.1:ζ)=x.2)) (aH x1) (c7 (cS x1)))) (aH (-1)))) 0)
abbrev E!:=Int×b?
def mI (x:ep×ζ):M (Int):=
 (iter (σ:=E!) (λx1=>(bR x1.1 (bc x1.2.1) (bY mD x1.2.1 x1.1 λd=>(aL (decide ((d.1:ζ)=x.2)) (aH x1.1) (c7 ((cS x1.1),x1.2)))) (aH (-1)))) (0,x.1))
abbrev I?:=oN×nJ×(Y kF)×Y ζ
def vF (x:z!):M ep:=
 (ay (lG x) λy1=>(iK y1.1 0 (Z (([]:Y VV),([]:Y y!),([]:Y kF),([]:Y ζ),([]:Y ζ),([]:Y ν))) (iter (σ:=Int×(yC×Y yB)×I?) (λx2=>(bR x2.1 (bc x2.2.1.1) (bY IW x2.2.1.1 x2.1 λD=>(jn (α:=(yC×Y yB)×I?) (jn (bn D.1 1 (aH ((decide ((D.1:Int)=1)),x2.2.1,D,x2.2.2)) (aH ((decide ((D.1:Int)=2)),x2.2.1,D,x2.2.2))) λL=>(aL L.1 (iter (σ:=Int×(yC×Y yB)×ano×I?) (λz=>(bR z.1 (oI z.a.b 1) (bI (bh (ah z.b+ah ([(z.a.a,z.1,z.a.b,(decide ((z.a.1:Int)=2)),z.a.c)])) 48) (c7 ((cS z.1),z.2.1,z.a,(z.b++([(z.a.a,z.1,z.a.b,(decide ((z.a.1:Int)=2)),z.a.c)])),z.g))) (aH (cw (z.2.1,z.e))))) (0,L.2)) (jn (bn D.1 3 (aH ((decide ((D.1:Int)=3)),L.2)) (aH ((decide ((D.1:Int)=4)),L.2))) λd=>(aL d.1 (bI (bh (ah d.c+ah ([(d.a.a,(decide ((d.a.1:Int)=4)))])) 24) (aH (d.2.1,d.b,(d.c++([(d.a.a,(decide ((d.a.1:Int)=4)))])),d.h))) (bn D.1 5 (ay (mH (d.c,d.a.h)) λy8=>(bI (bh (ah d.d+ah ([(d.a.a,y8)])) 24) (aH (d.2.1,d.b,d.c,(d.d++([(d.a.a,y8)])),d.m)))) (bI (bh (ah d.m+ah ([d.a.a])) 16) (aH (d.2.1,d.b,d.c,d.d,(d.m++([d.a.a])))))))))) λx4=>(c7 ((cS x2.1),x4)))) (ay (iter (σ:=Int×(yC×Y yB)×b?) (λA=>(bR A.1 (bc A.2.1.2) (bY uv A.2.1.2 A.1 λF=>(bI (bh (ah A.f+ah ([F.1])) 16) (bY uv A.2.1.2 A.1 λN=>(ay (Ld ((A.1,0,N.2.2.2),A.p)) λy12=>(bI (ax (ah A.p) (ah A.p)&&J) (c7 ((cS A.1),A.2.1,A.a,A.b,A.c,A.d,(A.f++([F.1])),y12.2))))))) (aH A.2.2))) (0,x2.2.1,x2.a,x2.b,x2.c,x2.h,([]:Y ζ),([]:Y ν))) λr=>Z (cw r)))) (0,x,([]:Y VV),([]:Y y!),([]:Y kF),([]:Y ζ)))))
abbrev A?:=Int×ep×Y ζ
abbrev M!:=dC×(ζ)×u!
def qP (x:b?):M (dC×Bool):=
 (iter (σ:=A?) (λx1=>(bR x1.1 (bc x1.2.1.1) (jn (α:=A?) (bY mD x1.2.1.1 x1.1 λA=>(bI (bh (ah x1.2.2+ah ([A.1])) 16) (bn A.a 0 (iK A.2.1 0 (c7 (cw (([]:Y ζ),aa))) (aH ((cS x1.1),x1.2.1,(x1.2.2++([A.1]))))) (jn (α:=Bool×ep×M!) (bR A.a 1 (aH (J,x1.2.1,(x1.2.2++([A.1])),A)) (bR 4 A.a (aH (J,x1.2.1,(x1.2.2++([A.1])),A)) (aH ((fM (be .i64 ((bc x1.2.1.1)-x1.1)) A.a),x1.2.1,(x1.2.2++([A.1])),A)))) λx4=>(aL x4.1 (c7 (cw (([]:Y ζ),aa))) (iter (σ:=Int×ep×M!) (λz=>(bR z.1 z.d (bY mD z.2.1.1 (be .i64 (x1.1+z.1)) λF=>(jn (iK F.2.1 z.1 (aH (J,z.2)) (aL (!decide ((F.1:ζ)=z.b)) (aH (J,z.2)) (iK F.a z.d (aH (J,z.2)) (iK F.g z.p (aH (J,z.2)) (aH (F.b,z.2)))))) λx7=>(aL x7.1 (aH (wF (cw (([]:Y ζ),aa)))) (c7 ((cS z.1),x7.2))))) (aH (cw ((be .i64 (x1.1+z.d)),z.2.1,z.a))))) (0,x4.2))))))) λx2=>(c7 x2)) (ay (iter (σ:=A?) (λD=>(bR D.1 (bc D.2.1.2.1) (bY s7 D.2.1.2.1 D.1 λN=>(bI (bh (ah D.2.2+ah ([N.1])) 16) (c7 ((cS D.1),D.2.1,(D.2.2++([N.1])))))) (ay (iter (σ:=A?) (λd=>(bR d.1 (bc d.2.1.a) (bY nK d.2.1.a d.1 λL=>(bI (bh (ah d.2.2+ah ([L.1])) 16) (c7 ((cS d.1),d.2.1,(d.2.2++([L.1])))))) (ay (bI (bh (ah d.2.2+ah d.2.1.b) 16) (bI (bh (ah (d.2.2++d.2.1.b)+ah d.2.1.c) 16) (Z (((d.2.2++d.2.1.b)++d.2.1.c),J)))) λr=>Z (cw r)))) (0,D.2)) λr=>Z (cw r)))) (0,x1.2)) λr=>Z (cw r)))) (0,x,([]:Y ζ)))
def iy (x:b?):M (Bool):=
 (jn (bR 12 (bc x.1) (aH (J,x)) (bR 4 (bc x.2.1) (aH (J,x)) (bR 2 (bc x.a) (aH (J,x)) (bR 2 (bc x.b) (aH (J,x)) (bR (bc x.c) 1 (aH (J,x)) (bR 4 (bc x.c) (aH (J,x)) (aH ((fM 60 (bc x.h)),x)))))))) λx1=>(aL x1.1 (Z aa) (ay (qP x1.2) λy2=>(aL (!y2.2) (Z aa) (iter (σ:=E!) (λF=>(bR F.1 (bc y2.1) (jn (bY (.str) y2.1 F.1 λz5=>(ay (fG z5) λy6=>(aL (!y6) (aH (J,F.2)) (bI (dj 0 F.1&&dj F.1 (ah y2.1)) (bY (.str) y2.1 F.1 λz7=>(ay (lh ((dg (aS F.1) y2.1),z7)) λy8=>(aH ((dj 0 y8),F.2)))))))) λx4=>(aL x4.1 (aH aa) (c7 ((cS F.1),x4.2)))) (ay (iter (σ:=E!) (λA=>(bR A.1 (bc A.b) (bY nK A.b A.1 λN=>(jn (bR N.2 0 (aH (J,A.2)) (jR (bc A.a) N.2 (aH (J,A.2)) (bY s7 A.a N.2 λz12=>(aH (z12.2,A.2))))) λx11=>(aL x11.1 (aH aa) (c7 ((cS A.1),x11.2))))) (ay (iter (σ:=E!) (λd=>(bR d.1 (bc d.m) (jn (bY pR d.m d.1 λL=>(jn (bR L.1 0 (aH (J,d.2,L)) (aH ((dj (bc d.d) L.1),d.2,L))) λD=>(aL D.1 (c7 (cw aa)) (jn (bn d.1 0 (aH (J,D.2)) (bY pR D.2.1.h (be .i64 (d.1-1)) λz18=>(aH ((!decide ((z18.1:Int)=D.a)),D.2)))) λz=>(aL z.1 (jn (iK z.b 0 (aH (J,z.2.1)) (bR 0 d.1 (bY pR z.2.1.h (be .i64 (d.1-1)) λz20=>(aH ((fM z.a z20.1),z.2.1))) (aH (aa,z.2.1)))) λx19=>(aL x19.1 (c7 (cw aa)) (aH x19.2))) (bY pR z.2.1.h (be .i64 (d.1-1)) λz21=>(iK z.b (cS z21.2.1) (c7 (cw aa)) (aH z.2.1)))))))) λx14=>(c7 ((cS d.1),x14))) (aH J))) (0,A.2)) λr=>Z (cw r)))) (0,F.2)) λr=>Z (cw r)))) (0,x1.2))))))
def kL (x:ω):M η:=
 (jn (bn x.1 1 (aH ((decide ((x.1:Int)=1)),x)) (bn x.1 6 (aH ((decide ((x.1:Int)=6)),x)) (bn x.1 10 (aH ((decide ((x.1:Int)=10)),x)) (aH ((decide ((x.1:Int)=27)),x))))) λx1=>(aL x1.1 (Z ([x1.a])) (jn (bn x.1 2 (aH ((decide ((x.1:Int)=2)),x1.2)) (aH ((decide ((x.1:Int)=3)),x1.2))) λx2=>(aL x2.1 (Z ([x2.a,x2.b])) (bn x.1 4 (Z ([x2.a,x2.b,x2.c])) (bn x.1 7 (Z ([x2.a,x2.c])) (jn (bn x.1 8 (aH ((decide ((x.1:Int)=8)),x2.2)) (aH ((decide ((x.1:Int)=26)),x2.2))) λd=>(aL d.1 (Z ([d.b])) (bn x.1 9 (Z ([d.b,d.c])) (Z ([]:η)))))))))))
def qZ (x:Int):M (Bool):=
 (jn (jR 1 x (aH (dj x 5)) (aH aa)) λx1=>(Z x1))
def vD (x:(Y mC)×Int):M (Bool):=
 (iter (σ:=Γ) (λx1=>(jR x1.2 (bc x.1) (jn (jn (bR x1.1 0 (aH J) (aH (dj (bc x.1) x1.1))) λF=>(aL F (c7 (cw aa)) (bY sx x.1 x1.1 λA=>(ay (qZ A.1) λD=>(aL (!D) (c7 (cw J)) (bY sx x.1 x1.1 λz=>(bn z.1 5 (bY sx x.1 x1.1 λd=>(aH d.2.1)) (aH (cS x1.1))))))))) λx2=>(c7 (x2,(cS x1.2)))) (aH aa))) (x.2,0))
def kn (x:Γ):M (Bool):=
 (jn (jR 0 x.1 (aH (fM x.1 x.2)) (aH aa)) λx1=>(Z x1))
def sQ (x:ep×j!):M (Bool):=
 (jn (ay (kn (x.2.1,(bc x.1.1))) λD=>(aL D (bY mD x.1.1 x.2.1 λA=>(bn A.2.1 0 (bY mD x.1.1 x.2.1 λz=>(iK z.2.2.1 0 (bY mD x.1.1 x.2.1 λd=>(aH (decide ((d.2.2.1:Int)=x.2.2)))) (aH aa))) (aH aa))) (aH aa))) λx1=>(Z x1))
abbrev o!:=Int×Int×j!
def rN (x:ep×Int×Int×o!):M (Bool):=
 (bn x.2.1 6 (jn (ay (kn (x.b,(bc x.1.1))) λy2=>(aL y2 (bY mD x.1.1 x.b λz3=>(aH (decide ((z3.2.2.1:Int)=0)))) (aH aa))) λx1=>(Z x1)) (bn x.2.1 8 (jn (ay (kn (x.a,(bc x.1.1))) λy5=>(aL y5 (bY mD x.1.1 x.a λz6=>(aH (decide ((z6.2.2.1:Int)=0)))) (aH aa))) λx4=>(Z x4)) (bn x.2.1 7 (ay (sQ (x.1,x.b,x.d)) λy7=>(Z y7)) (bn x.2.1 9 (ay (sQ (x.1,x.a,x.d)) λy8=>(Z y8)) (jn (bn x.2.1 11 (aH ((decide ((x.2.1:Int)=11)),x)) (aH ((decide ((x.2.1:Int)=12)),x))) λD=>(aL D.1 (jn (ay (kn (D.b,(bc D.2.1.2.1))) λy11=>(aL y11 (bY s7 D.2.1.2.1 D.b λL=>(aH (!L.2))) (aH aa))) λx10=>(Z x10)) (jn (bn x.2.1 13 (aH ((decide ((x.2.1:Int)=13)),D.2)) (bn x.2.1 14 (aH ((decide ((x.2.1:Int)=14)),D.2)) (bn x.2.1 15 (aH ((decide ((x.2.1:Int)=15)),D.2)) (aH ((decide ((x.2.1:Int)=16)),D.2))))) λz=>(aL z.1 (jn (ay (kn (z.b,(bc z.2.1.2.1))) λy15=>(aL y15 (bY s7 z.2.1.2.1 z.b λF=>(aH F.2)) (aH aa))) λx14=>(Z x14)) (jn (bn x.2.1 21 (aH ((decide ((x.2.1:Int)=21)),z.2)) (bn x.2.1 22 (aH ((decide ((x.2.1:Int)=22)),z.2)) (aH ((decide ((x.2.1:Int)=23)),z.2)))) λA=>(aL A.1 (ay (kn (A.b,(bc A.2.1.a))) λy18=>(Z y18)) (jn (bn x.2.1 24 (aH ((decide ((x.2.1:Int)=24)),A.2)) (aH ((decide ((x.2.1:Int)=25)),A.2))) λd=>(aL d.1 (ay (kn (d.b,(bc d.2.1.c))) λy20=>(Z y20)) (bn x.2.1 26 (ay (kn (d.b,(bc d.2.1.b))) λy21=>(Z y21)) (bn x.2.1 27 (ay (kn (d.c,(bc d.2.1.b))) λN=>(Z N)) (bn x.2.1 3 (jn (bn d.f 4 (aH J) (aH (decide ((d.f:Int)=5)))) λx23=>(Z x23)) (bn x.2.1 4 (jn (jR 6 d.f (aH (dj d.f 18)) (aH aa)) λx24=>(Z x24)) (Z J)))))))))))))))))
abbrev N!:=Int×Y mC
def mo (x:ep×Int×N!):M (Bool):=
 (jn (bR x.a 0 (aH (J,x.1,x.2.2)) (bR 32 x.a (aH (J,x.1,x.2.2)) (aH ((decide (((bc x.e):Int)=0)),x.1,x.2.2)))) λx1=>(aL x1.1 (Z aa) (iter (σ:=Int×ep×N!) (λx2=>(bR x2.1 (bc x.e) (bY sx x2.e x2.1 λD=>(jn (bR D.1 1 (aH (J,x2.2.1,x2.2.2,D)) (bR 28 D.1 (aH (J,x2.2.1,x2.2.2,D)) (aL (((decide ((D.1:Int)=28))==(decide ((x2.1:Int)=(be .i64 ((bc x.e)-1))))) !=J) (aH (J,x2.2.1,x2.2.2,D)) (ay (rN (x2.2.1,D)) λy5=>(aL (!y5) (aH (J,x2.2.1,x2.2.2,D)) (ay (vD (x2.e,x2.1)) λy6=>(aH ((!y6),x2.2.1,x2.2.2,D)))))))) λd=>(aL d.1 (aH aa) (jn (α:=Bool×ep×(Int×Y mC)×Int×Int×o!) (bn d.b 28 (iK d.q (-1) (aH (J,d.2)) (iK d.b 28 (ay (kn (d.q,(bc d.2.1.h))) λy8=>(aL (!y8) (aH (J,d.2)) (bY pR d.2.1.h d.q λz9=>(aH ((!decide ((z9.1:Int)=x.2.1)),d.2))))) (aH (aa,d.2)))) (iK d.b 28 (ay (kn (d.q,(bc d.2.1.h))) λy10=>(aL (!y10) (aH (J,d.2)) (bY pR d.2.1.h d.q λz11=>(aH ((!decide ((z11.1:Int)=x.2.1)),d.2))))) (aH (aa,d.2)))) λA=>(aL A.1 (aH aa) (jn (bn A.b 5 (ay (kn (A.c,(bc x.e))) λy13=>(aL (!y13) (aH (J,A.2)) (bn A.b 10 (ay (kn (A.d,(bc x.e))) λy14=>(aH ((!y14),A.2))) (aH (aa,A.2))))) (bn A.b 10 (ay (kn (A.d,(bc x.e))) λy15=>(aH ((!y15),A.2))) (aH (aa,A.2)))) λF=>(aL F.1 (aH aa) (ay (kL F.e) λL=>(iter (σ:=Int×ep×N!) (λz=>(bR z.1 (bc L) (bY aP L z.1 λN=>(ay (kn (N,z.a)) λy19=>(aL (!y19) (aH (cw aa)) (c7 ((cS z.1),z.2))))) (aH (wF ((cS x2.1),z.2))))) (0,F.2.1,F.a)))))))))) (aH J))) (0,x1.2))))
def qQ (x:y?):M (Bool):=
 (jn (ay (iy x.1) λD=>(aL (!D) (aH (J,x)) (aH ((!decide (((bc x.2):Int)=(bc x.1.c))),x)))) λx1=>(aL x1.1 (Z aa) (iter (σ:=Int×y?) (λd=>(bR d.1 (bc d.2.2) (bY yE d.2.2 d.1 λz=>(ay (mo (d.2.1,d.1,z)) λA=>(aL (!A) (aH aa) (c7 ((cS d.1),d.2))))) (aH J))) (0,x1.2))))
def cV (x:mC×g!):M g!:=
 (bI (bh (ah x.2.2+ah ([(x.1.1,x.1.2.1,x.1.a,x.1.b,x.1.c,x.2.1.i)])) 48) (Z (x.2.1,(x.2.2++([(x.1.1,x.1.2.1,x.1.a,x.1.b,x.1.c,x.2.1.i)])))))
abbrev F!:=(Xp×Int)×g!
def rX (rr06_gen_value:F!->M g!) (x:F!):M g!:=
 (jn (α:=g!) (bn (Xp.op x.1.1) 1 (ay (cV ((1,x.1.2,0,0,(Xp.n x.1.1),0),x.2)) λy2=>(bI (ax (ah x.2.2) (ah x.2.2)&&J) (aH y2))) (bn (Xp.op x.1.1) 2 (ay (lh (x.2.1.f,(Xp.name x.1.1))) λy3=>(jR 0 y3 (ay (cV ((2,x.1.2,y3,0,0,0),x.2)) λy4=>(bI (ax (ah x.2.2) (ah x.2.2)&&J) (aH y4))) (ay (mI ((x.2.1.1,x.2.1.2.1,x.2.1.a,x.2.1.b,x.2.1.c,x.2.1.d),(Xp.name x.1.1))) λy5=>(ay (cV ((6,x.1.2,y5,0,0,0),x.2)) λy6=>(bI (ax (ah x.2.2) (ah x.2.2)&&J) (aH y6)))))) (bn (Xp.op x.1.1) 3 (bY (.ex) (Xp.l x.1.1) 0 λz7=>(ay (rr06_gen_value ((z7,x.1.2),x.2)) λd=>(bI (ax (ah x.2.2) (ah x.2.2)&&J) (ay (mI ((d.1.1,d.1.2.1,d.1.a,d.1.b,d.1.c,d.1.d),(Xp.name x.1.1))) λy9=>(bY mD d.1.1 y9 λz10=>(ay (cV ((7,x.1.2,y9,x.1.2,z10.2.2.1,0),d)) λy11=>(bI (ax (ah d.2) (ah d.2)&&J) (aH y11)))))))) (bn (aR (ah (Xp.l x.1.1))) 1 (bY (.ex) (Xp.l x.1.1) 0 λN=>(ay (rr06_gen_value ((N,x.1.2),x.2)) λD=>(bI (ax (ah x.2.2) (ah x.2.2)&&J) (ay (cV ((3,x.1.2,x.1.2,0,(Xp.op x.1.1),0),D)) λy14=>(bI (ax (ah D.2) (ah D.2)&&J) (aH y14)))))) (bY (.ex) (Xp.l x.1.1) 0 λL=>(ay (rr06_gen_value ((L,x.1.2),x.2)) λA=>(bI (ax (ah x.2.2) (ah x.2.2)&&J) (bY (.ex) (Xp.l x.1.1) 1 λF=>(ay (rr06_gen_value ((F,(cS x.1.2)),A)) λz=>(bI (ax (ah A.2) (ah A.2)&&J) (ay (cV ((4,x.1.2,x.1.2,(cS x.1.2),(Xp.op x.1.1),0),z)) λy19=>(bI (ax (ah z.2) (ah z.2)&&J) (aH y19))))))))))))) λx1=>(Z x1))
def jE:Nat->(F!)->M g!
 |0,_=>U
 |n+1,x=>rX (jE n) x
def CK (n:Nat) (x:F!):jE (n+1) x=rX (jE n) x:=rfl
def jB (x:F!):M g!:=jE fuel x
def nh (x:Sx×g!):M g!:=
 (bR 0 (aR (ah (Sx.index x.1))) (bY (.ex) (Sx.index x.1) 0 λz1=>(ay (jB ((z1,(bc x.2.1.f)),x.2)) λA=>(bI (ax (ah x.2.2) (ah x.2.2)&&J) (ay (jB ((eD ((Xp.op (Sx.expr x.1)),(Xp.n (Sx.expr x.1)),(Xp.name (Sx.expr x.1)),(Xp.l (Sx.expr x.1))),(be .i64 ((bc x.2.1.f)+1))),A)) λz=>(bI (ax (ah A.2) (ah A.2)&&J) (ay (mI ((z.1.1,z.1.2.1,z.1.a,z.1.b,z.1.c,z.1.d),(Sx.name x.1))) λN=>(bY mD z.1.1 N λz5=>(ay (cV ((9,N,(be .i64 ((bc x.2.1.f)+1)),(bc x.2.1.f),z5.2.2.1,0),z)) λy6=>(bI (ax (ah z.2) (ah z.2)&&J) (Z y6)))))))))) (ay (jB ((eD ((Xp.op (Sx.expr x.1)),(Xp.n (Sx.expr x.1)),(Xp.name (Sx.expr x.1)),(Xp.l (Sx.expr x.1))),(bc x.2.1.f)),x.2)) λd=>(bI (ax (ah x.2.2) (ah x.2.2)&&J) (ay (lh (d.1.f,(Sx.name x.1))) λL=>(jR 0 L (ay (cV ((2,L,(bc x.2.1.f),0,0,0),d)) λy9=>(bI (ax (ah d.2) (ah d.2)&&J) (Z y9))) (ay (mI ((d.1.1,d.1.2.1,d.1.a,d.1.b,d.1.c,d.1.d),(Sx.name x.1))) λF=>(ay (cV ((8,F,(bc x.2.1.f),0,0,0),d)) λD=>(bI (ax (ah d.2) (ah d.2)&&J) (Z D)))))))))
def kz (x:ζ×g!):M (Int×g!):=
 (iter (σ:=Int×g!) (λx1=>(bR x1.1 (bc x1.2.1.a) (bY nK x1.2.1.a x1.1 λd=>(aL (decide ((d.1:ζ)=x.1)) (aH x1) (c7 ((cS x1.1),x1.2)))) (aH ((-1),x1.2)))) (0,x.2))
def rY (rr06_gen_stmts:agr->M g!) (rr06_gen_stmt:O0->M g!) (rr06_gen_branches:O0->M g!) (rr06_gen_around:ags->M g!) (x:(Y Sx)×g!):M g!:=
 (iter (σ:=Int×g!) (λx1=>(bR x1.1 (bc x.1) (bY (.sm) x.1 x1.1 λd=>(ay (rr06_gen_stmt (d,x1.2)) λz=>(bI (ax (ah x1.2.2) (ah x1.2.2)&&J) (c7 ((cS x1.1),z))))) (aH x1.2))) (0,x.2))
def tA (rr06_gen_stmts:agr->M g!) (rr06_gen_stmt:O0->M g!) (rr06_gen_branches:O0->M g!) (rr06_gen_around:ags->M g!) (x:Sx×g!):M g!:=
 (jn (α:=g!) (bn (Sx.op x.1) 1 (ay (nh (eA x.1,(x.2.1.1,x.2.1.2.1,x.2.1.a,x.2.1.b,x.2.1.c,x.2.1.d,x.2.1.f,x.2.1.q,(cS x.2.1.q)),x.2.2)) λy2=>(bI (ax (ah x.2.2) (ah x.2.2)&&J) (aH y2))) (jn (bn (Sx.op x.1) 2 (aH ((decide (((Sx.op x.1):Int)=2)),(x.2.1.1,x.2.1.2.1,x.2.1.a,x.2.1.b,x.2.1.c,x.2.1.d,x.2.1.f,x.2.1.q,(cS x.2.1.q)),eA x.1,x.2.2)) (aH ((decide (((Sx.op x.1):Int)=3)),(x.2.1.1,x.2.1.2.1,x.2.1.a,x.2.1.b,x.2.1.c,x.2.1.d,x.2.1.f,x.2.1.q,(cS x.2.1.q)),eA x.1,x.2.2))) λd=>(aL d.1 (ay (rr06_gen_branches (eA d.a,d.2.1,d.e)) λy4=>(bI (ax (ah d.e) (ah d.e)&&J) (aH y4))) (bn (Sx.op x.1) 4 (ay (mH (d.2.1.2.1,(Sx.name d.a))) λy5=>(ay (rr06_gen_around ((eA d.a,11,12,y5),d.2.1,d.e)) λy6=>(bI (ax (ah d.e) (ah d.e)&&J) (aH y6)))) (bn (Sx.op x.1) 5 (ay (mH (d.2.1.2.1,(Sx.name d.a))) λy7=>(ay (rr06_gen_around ((eA d.a,13,14,y7),d.2.1,d.e)) λy8=>(bI (ax (ah d.e) (ah d.e)&&J) (aH y8)))) (bn (Sx.op x.1) 6 (ay (mH (d.2.1.2.1,(Sx.name d.a))) λy9=>(ay (rr06_gen_around ((eA d.a,15,16,y9),d.2.1,d.e)) λy10=>(bI (ax (ah d.e) (ah d.e)&&J) (aH y10)))) (bn (Sx.op x.1) 7 (ay (rr06_gen_around ((eA d.a,17,18,0),d.2.1,d.e)) λy11=>(bI (ax (ah d.e) (ah d.e)&&J) (aH y11))) (bn (Sx.op x.1) 8 (ay (rr06_gen_around ((eA d.a,19,20,0),d.2.1,d.e)) λy12=>(bI (ax (ah d.e) (ah d.e)&&J) (aH y12))) (bn (Sx.op x.1) 9 (ay (kz ((Sx.name d.a),d.2.1,d.e)) λD=>(bI (ax (ah d.e) (ah D.2.2)&&J) (ay (cV ((21,D.1,0,0,0,0),D.2)) λy14=>(bI (ax (ah D.2.2) (ah D.2.2)&&J) (aH y14))))) (bn (Sx.op x.1) 10 (ay (kz ((Sx.name d.a),d.2.1,d.e)) λA=>(bI (ax (ah d.e) (ah A.2.2)&&J) (ay (cV ((22,A.1,0,0,0,0),A.2)) λy16=>(bI (ax (ah A.2.2) (ah A.2.2)&&J) (aH y16))))) (bn (Sx.op x.1) 11 (ay (kz ((Sx.name d.a),d.2.1,d.e)) λz=>(bI (ax (ah d.e) (ah z.2.2)&&J) (ay (cV ((23,z.1,0,0,0,0),z.2)) λy18=>(bI (ax (ah z.2.2) (ah z.2.2)&&J) (aH y18))))) (bn (Sx.op x.1) 12 (ay (lh (d.2.1.c,(Sx.name d.a))) λy19=>(ay (cV ((24,y19,0,0,0,0),d.2.1,d.e)) λy20=>(bI (ax (ah d.e) (ah d.e)&&J) (aH y20)))) (bn (Sx.op x.1) 13 (ay (lh (d.2.1.c,(Sx.name d.a))) λy21=>(ay (cV ((25,y21,0,0,0,0),d.2.1,d.e)) λy22=>(bI (ax (ah d.e) (ah d.e)&&J) (aH y22)))) (bn (Sx.op x.1) 14 (ay (jB ((eD ((Xp.op (Sx.expr d.a)),(Xp.n (Sx.expr d.a)),(Xp.name (Sx.expr d.a)),(Xp.l (Sx.expr d.a))),(bc x.2.1.f)),d.2.1,d.e)) λF=>(bI (ax (ah d.e) (ah d.e)&&J) (ay (lh (F.1.b,(Sx.name d.a))) λy24=>(ay (cV ((26,y24,(bc x.2.1.f),0,0,0),F)) λy25=>(bI (ax (ah F.2) (ah F.2)&&J) (aH y25)))))) (bn (Sx.op x.1) 15 (ay (lh (d.2.1.f,(Sx.name d.a))) λy26=>(ay (lh (d.2.1.b,(Sx.arg d.a))) λN=>(ay (cV ((27,y26,N,0,0,0),d.2.1,d.e)) λL=>(bI (ax (ah d.e) (ah d.e)&&J) (aH L))))) (aH (d.2.1,d.e))))))))))))))))) λx1=>(Z x1))
def nP (rr06_gen_stmts:agr->M g!) (rr06_gen_stmt:O0->M g!) (rr06_gen_branches:O0->M g!) (rr06_gen_around:ags->M g!) (x:Sx×g!):M g!:=
 (ay (jB ((eD ((Xp.op (Sx.expr x.1)),(Xp.n (Sx.expr x.1)),(Xp.name (Sx.expr x.1)),(Xp.l (Sx.expr x.1))),(bc x.2.1.f)),x.2)) λz=>(bI (ax (ah x.2.2) (ah x.2.2)&&J) (ay (cV ((10,(bc z.1.f),0,0,0,0),z)) λL=>(bI (ax (ah z.2) (ah z.2)&&J) (ay (rr06_gen_stmts ((Sx.body x.1),L)) λd=>(bI (ax (ah L.2) (ah L.2)&&J) (bn (Sx.op x.1) 3 (ay (cV ((5,(bc x.2.2),0,0,0,0),(d.1.1,d.1.2.1,d.1.a,d.1.b,d.1.c,d.1.d,d.1.f,x.2.1.i,d.1.q),d.2)) λD=>(bI (ax (ah d.2) (ah d.2)&&J) (ck (fm (bc z.2) (ah D.2)) (Z (D.1,(cJ D.2 (bc z.2) ((geti sx D.2 (bc z.2)).1,((geti sx D.2 (bc z.2)).2).1,(bc D.2),(((geti sx D.2 (bc z.2)).2).2).2))))))) (bn (aR (ah (Sx.els x.1))) 0 (ck (fm (bc z.2) (ah d.2)) (Z ((d.1.1,d.1.2.1,d.1.a,d.1.b,d.1.c,d.1.d,d.1.f,x.2.1.i,d.1.q),(cJ d.2 (bc z.2) ((geti sx d.2 (bc z.2)).1,((geti sx d.2 (bc z.2)).2).1,(bc d.2),(((geti sx d.2 (bc z.2)).2).2).2))))) (ay (cV ((5,0,0,0,0,0),(d.1.1,d.1.2.1,d.1.a,d.1.b,d.1.c,d.1.d,d.1.f,x.2.1.i,d.1.q),d.2)) λA=>(bI (ax (ah d.2) (ah d.2)&&J) (ck (fm (bc z.2) (ah A.2)) (ay (rr06_gen_stmts ((Sx.els x.1),A.1,(cJ A.2 (bc z.2) ((geti sx A.2 (bc z.2)).1,((geti sx A.2 (bc z.2)).2).1,(bc A.2),(((geti sx A.2 (bc z.2)).2).2).2)))) λF=>(bI (ax (ah (cJ A.2 (bc z.2) ((geti sx A.2 (bc z.2)).1,((geti sx A.2 (bc z.2)).2).1,(bc A.2),(((geti sx A.2 (bc z.2)).2).2).2))) (ah (cJ A.2 (bc z.2) ((geti sx A.2 (bc z.2)).1,((geti sx A.2 (bc z.2)).2).1,(bc A.2),(((geti sx A.2 (bc z.2)).2).2).2)))&&J) (ck (fm (bc d.2) (ah F.2)) (Z (F.1,(cJ F.2 (bc d.2) ((geti sx F.2 (bc d.2)).1,(bc F.2),((geti sx F.2 (bc d.2)).2).2))))))))))))))))))
def qo (rr06_gen_stmts:agr->M g!) (rr06_gen_stmt:O0->M g!) (rr06_gen_branches:O0->M g!) (rr06_gen_around:ags->M g!) (x:U!):M g!:=
 (ay (cV ((x.1.2.1,x.1.e,0,0,0,0),x.2)) λz=>(bI (ax (ah x.2.2) (ah x.2.2)&&J) (ay (rr06_gen_stmts ((Sx.body x.1.1),z)) λd=>(bI (ax (ah z.2) (ah z.2)&&J) (ay (cV ((x.1.a,x.1.e,0,0,0,0),(d.1.1,d.1.2.1,d.1.a,d.1.b,d.1.c,d.1.d,d.1.f,x.2.1.i,d.1.q),d.2)) λA=>(bI (ax (ah d.2) (ah d.2)&&J) (Z A)))))))
mutual
def dZ:Nat->agr->M g!
 |0,_=>U
 |n+1,x=>rY (dZ n) (eU n) (dt n) (dT n) x
def eU:Nat->O0->M g!
 |0,_=>U
 |n+1,x=>tA (dZ n) (eU n) (dt n) (dT n) x
def dt:Nat->O0->M g!
 |0,_=>U
 |n+1,x=>nP (dZ n) (eU n) (dt n) (dT n) x
def dT:Nat->ags->M g!
 |0,_=>U
 |n+1,x=>qo (dZ n) (eU n) (dt n) (dT n) x
end
def vE (x:(Y Sx)×g!):M g!:=dZ fuel x
abbrev B?:=Int×(yC×Y yB)×ep×tJ×Int×(Y (Int×Y mC))×Y mC
def rO (x:z!):M (Ef×j!):=
 (ay (lG x) λy1=>(iK y1.1 0 (Z (((([]:Y VV),([]:Y y!),([]:Y kF),([]:Y ζ),([]:Y ζ),([]:Y ν)),([]:Y N!)),y1)) (ay (vF x) λy2=>(iter (σ:=(Γ)×(yC×Y yB)×y?) (λz=>(bR z.1.2 (bc z.2.1.2) (bY uv z.2.1.2 z.1.2 λz4=>(bY uv z.2.1.2 z.1.2 λz5=>(ay (vE (z5.2.2.2,(z.a.1,z.a.2.1,z.a.a,z.a.b,z.a.c,z.a.h,z4.2.2.1,0,z.1.1),([]:Y mC))) λD=>(bI (ax (ah ([]:Y mC)) (ah ([]:Y mC))&&J) (ay (cV ((28,0,0,0,0,0),(D.1.1,D.1.2.1,D.1.a,D.1.b,D.1.c,D.1.d,D.1.f,(-1),D.1.q),D.2)) λN=>(bI (ax (ah D.2) (ah D.2)&&J) (iter (σ:=B?) (λA=>(bR A.1 (bc A.m) (jZ sx A.m A.1 λz9=>(ay (kL z9) λF=>(iter (σ:=B?) (λd=>(bR d.1 (bc F) (bY aP F d.1 λL=>(c7 ((cS d.1),d.2.1,d.a,d.b,(oI d.c (cS L)),d.h))) (aH (wF ((cS A.1),d.2))))) (0,A.2)))) (ay (bI (bh (ah A.d+ah ([(A.c,A.m)])) 32) (c7 ((D.1.q,(cS z.1.2)),A.2.1,A.a,(A.d++([(A.c,A.m)]))))) λr=>Z (cw r)))) (0,z.2.1,z.a,N.1,(bc N.1.f),z.e,N.2)))))))) (aH (z.2.2,0,0)))) ((0,0),x,y2,([]:Y N!))))))
def pI (x:n?):M (Bool):=
 (iter (σ:=Int) (λx1=>(bR x1 (bc x.1) (bY aP x.1 x1 λd=>(bn d x.2 (aH J) (c7 (cS x1)))) (aH aa))) 0)
def xV (x:n?):M η:=
 (iter (σ:=Int) (λx1=>(jn (bR x1 (bc x.1) (bY aP x.1 x1 λz=>(aH (fM z x.2))) (aH aa)) λx2=>(aL x2 (c7 (cS x1)) (ay (jn (bR x1 (bc x.1) (bY aP x.1 x1 λd=>(aH (decide ((d:Int)=x.2)))) (aH aa)) λA=>(aL A (Z x.1) (bI (dj 0 x1&&dj x1 (ah x.1)) (bI (bh (ah ([]:η)+ah (dg (aS x1) x.1)) 8) (bI (bh (ah (([]:η)++(dg (aS x1) x.1))+ah ([x.2])) 8) (bI (dj 0 x1&&dj x1 (ah x.1)) (bI (bh (ah ((([]:η)++(dg (aS x1) x.1))++([x.2]))+ah (List.drop (aS x1) x.1)) 8) (Z (((([]:η)++(dg (aS x1) x.1))++([x.2]))++(List.drop (aS x1) x.1)))))))))) λr=>Z (cw r))))) 0)
abbrev u?:=(η)×Int
abbrev J!:=η×η
def sP (x:J!):M η:=
 (iter (σ:=u?) (λx1=>(bR x1.2 (bc x.1) (bY aP x.1 x1.2 λA=>(ay (xV (x1.1,A)) λF=>(c7 (F,(cS x1.2))))) (ay (iter (σ:=u?) (λd=>(bR d.2 (bc x.2) (bY aP x.2 d.2 λz=>(ay (xV (d.1,z)) λD=>(c7 (D,(cS d.2))))) (aH d.1))) (x1.1,0)) λr=>Z (cw r)))) (([]:η),0))
def nD (x:Int):M (Int):=
 (jn (bR x 1 (aH J) (aH (fM 100 x))) λx1=>(aL x1 (Z 0) (Z x)))
abbrev s?:=(η)×Y η
def cE (x:k?):M (Γ×s?):=
 (bI (bh (ah ([]:η)+ah x.2.1) 8) (iter (σ:=Int×xr×(Γ)×(Γ)×s?) (λx1=>(bR x1.1 (bc x1.2.1.a) (bY (.sl aP) x1.2.1.a x1.1 λd=>(bI (bh (ah ([]:η)+ah d) 8) (bI (bh (ah x1.h+ah ([(([]:η)++d)])) 24) (c7 ((cS x1.1),x1.2.1,x1.a,x1.b,x1.c,(x1.h++([(([]:η)++d)]))))))) (aH x1.e))) (0,x,(0,0),(x.1,x.e),(([]:η)++x.2.1),([]:Y η))))
abbrev Q!:=(η)×(Y η)×mC×(Γ)×j!
def xU (x:(mC×Int×Int)×s?):M ((Γ×Bool)×s?):=
 (ay (kL x.1.1) λy1=>(iter (σ:=Int×Q!) (λx2=>(bR x2.1 (bc y1) (jn (bY aP y1 x2.1 λz4=>(bR z4 0 (aH (J,x2.2)) (bY aP y1 x2.1 λz5=>(aH ((dj (bc x2.2.1) z5),x2.2))))) λx3=>(aL x3.1 U (c7 ((cS x2.1),x3.2)))) (ay (jn (α:=(Int×Bool×η)×Q!) (bn x2.b.1 5 (c7 (((x2.b.2.1,x2.c.2),J),x2.2.1,x2.a)) (bn x2.b.1 1 (aH ((x2.b.c,J,([]:η)),x2.2)) (bn x2.b.1 2 (jZ aP x2.2.1 x2.b.a λz7=>(jZ (.sl aP) x2.a x2.b.a λz8=>(aH ((z7,J,z8),x2.2)))) (bn x2.b.1 3 (ay (nD x2.b.c) λy9=>(jZ aP x2.2.1 x2.b.a λz10=>(ay (vG (y9,z10)) λA=>(jZ (.sl aP) x2.a x2.b.a λz12=>(aH ((A.1,A.2,z12),x2.2)))))) (ay (nD x2.b.c) λy13=>(jZ aP x2.2.1 x2.b.a λN=>(jZ aP x2.2.1 x2.b.b λL=>(ay (tN (y13,N,L)) λz=>(jZ (.sl aP) x2.a x2.b.a λF=>(jZ (.sl aP) x2.a x2.b.b λD=>(ay (sP (F,D)) λy19=>(aH ((z.1,z.2,y19),x2.2))))))))))))) λd=>(bI (bh (ah ([]:η)+ah d.1.2.2) 8) (ck (fm d.b.2.1 (ah d.2.1)) (ck (fm d.b.2.1 (ah d.a)) (Z ((((cS d.c.1),d.c.2),d.1.2.1),(cJ d.2.1 d.b.2.1 d.1.1),(cJ d.a d.b.2.1 (([]:η)++d.1.2.2)))))))) λr=>Z (cw r)))) (0,x.2.1,x.2.2,x.1.1,x.1.2,0,0)))
def oG (x:(Int×Y mC)×k?):M (xr×Bool):=
 (jn (α:=Bool×(Int×Y mC)×xr×j!) (iK (bc x.a) x.1.1 (aH (J,x.1,x.2,0,0)) (aH ((!decide (((bc x.b):Int)=x.1.1)),x.1,x.2,0,0))) λx1=>(aL x1.1 (Z ((0,([]:η),([]:Y η),0),aa)) (ay (cE x1.a) λF=>(iter (σ:=Int×(Int×Y mC)×(Γ)×(Γ)×s?) (λz=>(jR z.1 (bc z.2.1.2) (jn (bR z.a.1 0 (aH (J,z.2)) (aH ((dj (bc z.2.1.2) z.a.1),z.2))) λd=>(aL d.1 (aH ((0,([]:η),([]:Y η),0),aa)) (bY sx d.2.1.2 d.a.1 λD=>(ay (qZ D.1) λL=>(aL (!L) (aH ((d.a.1,d.c,d.h,d.a.2),J)) (bn z.1 (bc d.2.1.2) (aH ((0,([]:η),([]:Y η),0),aa)) (ay (xU ((D,d.a),d.g)) λA=>(bI (ax (ah d.h) (ah A.2.2)&&(ax (ah d.c) (ah A.2.1)&&J)) (aL (!A.1.2) (aH ((0,([]:η),([]:Y η),0),aa)) (c7 ((cS z.1),d.2.1,A.1.1,d.b,A.2))))))))))) (aH ((0,([]:η),([]:Y η),0),aa)))) (0,x1.2.1,F.1,x1.e,F.2)))))
abbrev t?:=Int×Int×jF×h!
abbrev C!:=jF×h!
def qN (x:b?):M rk:=
 (iter (σ:=Int×ep×Int×Int×Y (Int×η)) (λx1=>(bR x1.1 (bc x1.2.1.2.1) (bI (bh (ah x1.g+ah ([((-1),([]:η))])) 32) (c7 ((cS x1.1),x1.2.1,x1.a,x1.b,(x1.g++([((-1),([]:η))]))))) (ay (iter (σ:=Int×ep×Int×Int×jF×θ) (λx2=>(bR x2.1 (bc x2.2.1.b) (bI (bh (ah x2.h+ah ([aa])) 1) (c7 ((cS x2.1),x2.2.1,x2.a,x2.b,x2.c,(x2.h++([aa]))))) (ay (iter (σ:=Int×ep×t?) (λd=>(bR d.1 (bc d.2.1.c) (jn (α:=ep×Int×Int×d8×C!) (bn d.1 0 (aH (d.2.1,d.a,d.b,(1,0,aa),d.g)) (aH (d.2.1,d.a,d.b,(0,0,aa),d.g))) λz=>(bI (bh (ah z.m+ah ([z.b])) 24) (c7 ((cS d.1),z.1,z.2.1,z.a,z.c,z.d,(z.m++([z.b])))))) (aH (d.c,d.b,d.h)))) (0,x2.2.1,x2.a,x2.b,x2.c,x2.h,([]:Y d8))) λr=>Z (cw r)))) (0,x1.2.1,x1.a,x1.b,x1.g,([]:θ))) λr=>Z (cw r)))) (0,x,0,(-1),([]:Y i?)))
def oY (x:ep×q!):M (Bool):=
 (iter (σ:=Int×ep×q!) (λx1=>(bR x1.1 (bc x1.2.1.a) (jn (bY nK x1.2.1.a x1.1 λz=>(bR z.2 0 (aH (J,x1.2)) (bY nK x1.2.1.a x1.1 λd=>(aH ((dj (bc x1.2.1.2.1) d.2),x1.2))))) λx2=>(aL x2.1 (aH aa) (c7 ((cS x1.1),x2.2)))) (ay (jn (bn (bc x1.a) (bc x1.2.1.2.1) (bn (bc x1.c) (bc x1.2.1.b) (aH (decide (((bc x1.h):Int)=(bc x1.2.1.c)))) (aH aa)) (aH aa)) λA=>(Z A)) λr=>Z (cw r)))) (0,x))
def rM (x:Γ):M (Bool):=
 (jn (jR 0 x.1 (aH (fM x.1 x.2)) (aH aa)) λx1=>(Z x1))
def qM (x:ep×j!):M (Bool):=
 (jn (bn x.2.1 1 (aH ((decide ((x.2.1:Int)=1)),x.1)) (bn x.2.1 2 (aH ((decide ((x.2.1:Int)=2)),x.1)) (bn x.2.1 5 (aH ((decide ((x.2.1:Int)=5)),x.1)) (bn x.2.1 12 (aH ((decide ((x.2.1:Int)=12)),x.1)) (bn x.2.1 13 (aH ((decide ((x.2.1:Int)=13)),x.1)) (bn x.2.1 14 (aH ((decide ((x.2.1:Int)=14)),x.1)) (aH ((decide ((x.2.1:Int)=15)),x.1)))))))) λx1=>(aL x1.1 (Z (decide ((x.2.2:Int)=(-1)))) (jn (bn x.2.1 3 (aH ((decide ((x.2.1:Int)=3)),x1.2)) (aH ((decide ((x.2.1:Int)=4)),x1.2))) λx2=>(aL x2.1 (ay (rM (x.2.2,(bc x2.2.1))) λy3=>(Z y3)) (jn (bn x.2.1 6 (aH ((decide ((x.2.1:Int)=6)),x2.2)) (aH ((decide ((x.2.1:Int)=7)),x2.2))) λD=>(aL D.1 (jn (ay (rM (x.2.2,(bc D.a))) λy6=>(aL y6 (bY s7 D.a x.2.2 λz7=>(aH (!z7.2))) (aH aa))) λx5=>(Z x5)) (jn (bn x.2.1 8 (aH ((decide ((x.2.1:Int)=8)),D.2)) (bn x.2.1 9 (aH ((decide ((x.2.1:Int)=9)),D.2)) (bn x.2.1 10 (aH ((decide ((x.2.1:Int)=10)),D.2)) (aH ((decide ((x.2.1:Int)=11)),D.2))))) λA=>(aL A.1 (jn (ay (rM (x.2.2,(bc A.a))) λy10=>(aL y10 (bY s7 A.a x.2.2 λL=>(aH L.2)) (aH aa))) λx9=>(Z x9)) (jn (bn x.2.1 16 (aH ((decide ((x.2.1:Int)=16)),A.2)) (bn x.2.1 17 (aH ((decide ((x.2.1:Int)=17)),A.2)) (bn x.2.1 18 (aH ((decide ((x.2.1:Int)=18)),A.2)) (aH ((decide ((x.2.1:Int)=19)),A.2))))) λz=>(aL z.1 (ay (rM (x.2.2,(bc z.b))) λy13=>(Z y13)) (jn (bn x.2.1 20 (aH ((decide ((x.2.1:Int)=20)),z.2)) (aH ((decide ((x.2.1:Int)=21)),z.2))) λd=>(aL d.1 (ay (rM (x.2.2,(bc d.d))) λy15=>(Z y15)) (jn (bn x.2.1 22 (aH ((decide ((x.2.1:Int)=22)),d.2)) (aH ((decide ((x.2.1:Int)=23)),d.2))) λF=>(aL F.1 (ay (rM (x.2.2,(bc F.c))) λN=>(Z N)) (Z aa)))))))))))))))
abbrev O!:=ep×rk×Int×j!
def iZ (x:O!):M (Bool):=
 (jn (ay (oY (x.1,x.2.1)) λy2=>(aL (!y2) (aH (J,x.1,x.2.1)) (ay (rM (x.a,(bc x.1.c))) λy3=>(aL (!y3) (aH (J,x.1,x.2.1)) (ay (qM (x.1,x.e)) λy4=>(aH ((!y4),x.1,x.2.1))))))) λx1=>(aL x1.1 (Z aa) (bY hJ x1.h x.a λA=>(bn x.b 1 (Z (decide ((A.1:Int)=1))) (bn x.b 17 (jn (α:=Bool) (bn A.1 4 (bn A.2.1 x.g (bY nK x1.2.1.a x.g λz7=>(bY dF x1.a z7.2 λz8=>(aH (decide ((z8.1:Int)=(-1)))))) (aH aa)) (aH aa)) λx6=>(Z x6)) (iK A.1 2 (Z aa) (bn x.b 6 (bY dF x1.a x.g λz9=>(Z (decide ((z9.1:Int)=(-1))))) (bn x.b 10 (jn (α:=Bool) (bY dF x1.a x.g λz11=>(bn z11.1 (-1) (bY dF x1.a x.g λz12=>(aH (decide (((bc z12.2):Int)=0)))) (aH aa))) λx10=>(Z x10)) (bn x.b 8 (jn (α:=Bool) (bY dF x1.a x.g λz14=>(bn z14.1 (-1) (bY dF x1.a x.g λz15=>(ay (pI (z15.2,x.a)) λy16=>(aH (!y16)))) (aH aa))) λx13=>(Z x13)) (jn (bn x.b 7 (aH ((decide ((x.b:Int)=7)),x1.2.1,x1.2.2,A)) (aH ((decide ((x.b:Int)=11)),x1.2.1,x1.2.2,A))) λd=>(aL d.1 (bY dF d.a.1 x.g λz18=>(Z (decide ((z18.1:Int)=x.a)))) (bn x.b 9 (bY dF d.a.1 x.g λz19=>(ay (pI (z19.2,x.a)) λy20=>(Z y20))) (bn x.b 12 (Z (decide ((d.a.2.1:Int)=(-1)))) (bn x.b 13 (Z (decide ((d.a.2.1:Int)=x.a))) (bn x.b 14 (Z (!d.h)) (bn x.b 15 (Z d.h) (jn (bn x.b 16 (aH ((decide ((x.b:Int)=16)),d.2.1,d.a)) (bn x.b 18 (aH ((decide ((x.b:Int)=18)),d.2.1,d.a)) (aH ((decide ((x.b:Int)=19)),d.2.1,d.a)))) λz=>(aL z.1 (bY nK z.2.1.a x.g λz22=>(bY dF z.a z22.2 λz23=>(Z (decide ((z23.1:Int)=x.a))))) (bn x.b 20 (jn (iK x.g x.a (bY hJ z.h x.g λN=>(aH (decide ((N.1:Int)=0)))) (aH aa)) λx24=>(Z x24)) (bn x.b 21 (jn (iK x.g x.a (bY hJ z.h x.g λL=>(aH (decide ((L.1:Int)=5)))) (aH aa)) λx26=>(Z x26)) (bn x.b 22 (bY (.bool) z.c x.g λF=>(Z (!F))) (bn x.b 23 (bY (.bool) z.c x.g λD=>(Z D)) (Z J)))))))))))))))))))))))
def oX (x:rk×Int):M η:=
 (iter (σ:=Int×rk×η) (λx1=>(bR x1.1 (bc x1.2.1.e) (jn (α:=rk×η) (jn (bY hJ x1.2.1.e x1.1 λA=>(bn A.1 3 (bY hJ x1.2.1.e x1.1 λz=>(aH ((decide ((z.2.1:Int)=x.2)),x1.2))) (aH (aa,x1.2)))) λd=>(aL d.1 (bI (bh (ah d.2.2+ah ([x1.1])) 8) (aH (d.2.1,(d.2.2++([x1.1]))))) (aH d.2))) λx2=>(c7 ((cS x1.1),x2))) (aH x1.2.2))) (0,x.1,([]:η)))
def rL (x:n?):M η:=
 (iter (σ:=i?) (λx1=>(bR x1.1 (bc x.1) (jn (α:=η) (bY aP x.1 x1.1 λz=>(iK z x.2 (bY aP x.1 x1.1 λd=>(bI (bh (ah x1.2+ah ([d])) 8) (aH (x1.2++([d]))))) (aH x1.2))) λx2=>(c7 ((cS x1.1),x2))) (aH x1.2))) (0,([]:η)))
def iO (x:q!):M (Int×C!):=
 (bI (bh (ah ([]:θ)+ah x.a) 1) (bI (bh (ah ([]:Y d8)+ah x.e) 24) (iter (σ:=Int×rk×t?) (λx1=>(bR x1.1 (bc x1.2.1.1) (bY dF x1.2.1.1 x1.1 λz=>(bY dF x1.2.1.1 x1.1 λd=>(bI (bh (ah ([]:η)+ah d.2) 8) (bI (bh (ah x1.c+ah ([(z.1,(([]:η)++d.2))])) 32) (c7 ((cS x1.1),x1.2.1,x1.a,x1.b,(x1.c++([(z.1,(([]:η)++d.2))])),x1.h)))))) (aH x1.e))) (0,x,0,x.2.1,([]:Y i?),(([]:θ)++x.a),(([]:Y d8)++x.e)))))
def nC (x:Γ×C!):M (η×C!):=
 (iter (σ:=Int×jF×(θ)×(Y d8)×i?) (λx1=>(bR x1.1 (bc x1.b) (jn (α:=jF×(θ)×(Y d8)×i?) (jn (jZ hJ x1.b x1.1 λA=>(bn A.1 3 (jZ hJ x1.b x1.1 λz=>(aH ((decide ((z.2.1:Int)=x.1.2)),x1.2))) (aH (aa,x1.2)))) λd=>(aL d.1 (bI (bh (ah d.h+ah ([x1.1])) 8) (aH (d.2.1,d.a,d.b,d.c,(d.h++([x1.1]))))) (aH d.2))) λx2=>(c7 ((cS x1.1),x2))) (aH (x1.h,x1.2.1,x1.a,x1.b)))) (0,x.2.1,x.a,x.e,x.1.1,([]:η)))
def kK (x:Γ×C!):M η:=ay (nC x) λy=>same y.2 x.2 (Z y.1)
abbrev C?:=ep×rk×o!
abbrev Q?:=rk×r?
abbrev W!:=Int×t?
def qO (x:C?):M Q?:=
 (ay (iZ (x.1,x.2.1,x.a,x.b,x.c)) λy1=>(aL (!y1) (Z ((([]:Y i?),0,([]:θ),([]:Y d8)),0,aa)) (ay (iO x.2.1) λD=>(jn (α:=W!) (bn x.b 1 (ck (fm x.a (ah D.e)) (aH (0,D.1,0,D.2.1,D.a,(cJ D.e x.a (2,(geti hJ D.e x.a).2))))) (bn x.b 2 (ck (fm x.a (ah D.e)) (aH (0,D.1,0,D.2.1,D.a,(cJ D.e x.a (5,(geti hJ D.e x.a).2))))) (jn (α:=Bool×ep×t?) (bn x.b 6 (aH ((decide ((x.b:Int)=6)),x.1,D.1,0,D.2)) (aH ((decide ((x.b:Int)=10)),x.1,D.1,0,D.2))) λF=>(aL F.1 (ck (fm x.c (ah F.c)) (aH (0,F.a,F.b,(cJ F.c x.c (x.a,(geti dF F.c x.c).2)),F.h))) (jn (bn x.b 7 (aH ((decide ((x.b:Int)=7)),F.2)) (aH ((decide ((x.b:Int)=11)),F.2))) λd=>(aL d.1 (ck (fm x.c (ah d.c)) (aH (0,d.a,d.b,(cJ d.c x.c ((-1),(geti dF d.c x.c).2)),d.h))) (bn x.b 8 (jZ dF d.c x.c λz6=>(ay (sP (z6.2,[x.a])) λy7=>(ck (fm x.c (ah d.c)) (aH (0,d.a,d.b,(cJ d.c x.c ((geti dF d.c x.c).1,y7)),d.h))))) (bn x.b 9 (jZ dF d.c x.c λz8=>(ay (rL (z8.2,x.a)) λy9=>(ck (fm x.c (ah d.c)) (aH (0,d.a,d.b,(cJ d.c x.c ((geti dF d.c x.c).1,y9)),d.h))))) (bn x.b 12 (aH (0,x.a,d.e)) (bn x.b 13 (aH (0,(-1),d.e)) (bn x.b 14 (ck (fm x.a (ah d.m)) (aH (0,d.a,d.b,d.c,d.d,(cJ d.m x.a ((geti hJ d.m x.a).1,((geti hJ d.m x.a).2).1,J))))) (bn x.b 15 (ck (fm x.a (ah d.m)) (aH (0,d.a,d.b,d.c,d.d,(cJ d.m x.a ((geti hJ d.m x.a).1,((geti hJ d.m x.a).2).1,aa))))) (bn x.b 16 (bY nK d.2.1.a x.c λz10=>(ck (fm z10.2 (ah d.c)) (ck (fm x.a (ah d.m)) (ck (fm x.a (ah (cJ d.m x.a (3,(geti hJ d.m x.a).2)))) (aH (0,d.a,d.b,(cJ d.c z10.2 ((-1),(geti dF d.c z10.2).2)),d.d,(cJ (cJ d.m x.a (3,(geti hJ d.m x.a).2)) x.a ((geti hJ (cJ d.m x.a (3,(geti hJ d.m x.a).2)) x.a).1,x.c,((geti hJ (cJ d.m x.a (3,(geti hJ d.m x.a).2)) x.a).2).2)))))))) (bn x.b 17 (bY nK d.2.1.a x.c λN=>(ck (fm N.2 (ah d.c)) (ck (fm x.a (ah d.m)) (ck (fm x.a (ah (cJ d.m x.a (2,(geti hJ d.m x.a).2)))) (aH (0,d.a,d.b,(cJ d.c N.2 (x.a,(geti dF d.c N.2).2)),d.d,(cJ (cJ d.m x.a (2,(geti hJ d.m x.a).2)) x.a ((geti hJ (cJ d.m x.a (2,(geti hJ d.m x.a).2)) x.a).1,0,((geti hJ (cJ d.m x.a (2,(geti hJ d.m x.a).2)) x.a).2).2)))))))) (bn x.b 18 (ay (kK ((d.a,x.c),d.g)) λy12=>(bR 0 (bc y12) (bY aP y12 0 λz13=>(jn (ay (pI (y12,x.h)) λy15=>(aL y15 (aH (x.h,d.2.2)) (aH (z13,d.2.2)))) λA=>(ck (fm A.1 (ah A.h)) (aH (A.1,A.2.1,A.a,A.b,A.c,(cJ A.h A.1 (4,(geti hJ A.h A.1).2))))))) (aH ((-1),d.2.2)))) (bn x.b 19 (ay (kK ((d.a,x.c),d.g)) λy16=>(iter (σ:=W!) (λz=>(bR z.1 (bc y16) (bY aP y16 z.1 λL=>(ck (fm L (ah z.h)) (c7 ((cS z.1),z.2.1,z.a,z.b,z.c,(cJ z.h L (4,(geti hJ z.h L).2)))))) (aH (cw ((bc y16),z.2))))) (0,d.2.2))) (bn x.b 20 (ck (fm x.c (ah d.m)) (aH (0,d.a,d.b,d.c,d.d,(cJ d.m x.c (1,(geti hJ d.m x.c).2))))) (bn x.b 22 (ck (fm x.c (ah d.d)) (aH (0,d.a,d.b,d.c,(cJ d.d x.c J),d.m))) (aH (0,d.2.2)))))))))))))))))))) λx3=>(Z ((x3.b,x3.2.1,x3.g),x3.1,J))))))
abbrev F?:=(η)×η
def vC (x:y?):M zQ:=
 (ay (qQ x) λy1=>(aL (!y1) (Z ((([]:Y i?),0,([]:θ),([]:Y d8)),([]:η),([]:η),([]:Y xr))) (ay (qN x.1) λN=>(iter (σ:=Int×Ef×Int×rk×η) (λA=>(bR A.1 (bc A.2.1.1.1) (bY mD A.2.1.1.1 A.1 λL=>(bI (bh (ah A.g+ah ([L.2.2.2.2])) 8) (c7 ((cS A.1),A.2.1,A.a,A.b,(A.g++([L.2.2.2.2])))))) (ay (iter (σ:=Int×Ef×Int×rk×F?) (λz=>(bR z.1 (bc z.2.1.1.b) (bI (bh (ah z.h+ah ([0])) 8) (c7 ((cS z.1),z.2.1,z.a,z.b,z.c,(z.h++([0]))))) (ay (iter (σ:=Int×Ef×Int×h?) (λd=>(bR d.1 (bc d.2.1.2) (kj d.1 d.2.1.2 (lt ((geti yE d.2.1.2 d.1).1) λF=>(bI (dj 0 F&&dj F F&&bh (aS F) 8) (kj d.1 d.2.1.2 (lt ((geti yE d.2.1.2 d.1).1) λD=>(bI (dj 0 D&&dj D D&&bh (aS D) 24) (bI (bh (ah d.m+ah ([(0,(aF (aS F) (0:Int)),(aF (aS D) ([]:η)),0)])) 64) (c7 ((cS d.1),d.2.1,d.a,d.b,d.c,d.d,(d.m++([(0,(aF (aS F) (0:Int)),(aF (aS D) ([]:η)),0)]))))))))))) (aH d.e))) (0,z.2.1,z.a,z.b,z.c,z.h,([]:Y xr))) λr=>Z (cw r)))) (0,A.2.1,A.a,A.b,A.g,([]:η))) λr=>Z (cw r)))) (0,x,0,N,([]:η))))))
def xT (x:Ef×h?):M (Bool):=
 (jn (ay (qQ x.1) λy2=>(aL (!y2) (aH (J,x)) (ay (oY (x.1.1,x.2.1)) λN=>(aL (!N) (aH (J,x)) (iK (bc x.a) (bc x.1.1.1) (aH (J,x)) (iK (bc x.b) (bc x.1.1.b) (aH (J,x)) (aH ((!decide (((bc x.g):Int)=(bc x.1.2))),x)))))))) λx1=>(aL x1.1 (Z aa) (iter (σ:=Int×Ef×h?) (λd=>(bR d.1 (bc d.2.1.2) (bY eZ d.h d.1 λz=>(jn (bR z.1 0 (aH (J,d.2)) (bY yE d.2.1.2 d.1 λL=>(jR (bc L.2) z.1 (aH (J,d.2)) (bY yE d.2.1.2 d.1 λF=>(iK (bc z.2.1) F.1 (aH (J,d.2)) (bY yE d.2.1.2 d.1 λD=>(aH ((!decide (((bc z.a):Int)=D.1)),d.2)))))))) λA=>(aL A.1 (aH aa) (c7 ((cS d.1),A.2))))) (aH J))) (0,x1.2))))
def xR (x:Int):M (Int):=
 (jn (α:=Bool×η) (bR x 6 (aH (J,[3,3,4,4,5,6,7,8,9,10,11,12,13,14,15,16,18,19,20,21,22,23,2])) (aH ((fM 28 x),[3,3,4,4,5,6,7,8,9,10,11,12,13,14,15,16,18,19,20,21,22,23,2]))) λx1=>(aL x1.1 (Z 0) (jZ aP x1.2 (be .i64 (x-6)) λd=>(Z d))))
def tM (x:mC×k?):M (Int):=
 (jn (bn x.1.1 6 (aH ((decide ((x.1.1:Int)=6)),x)) (aH ((decide ((x.1.1:Int)=27)),x))) λx1=>(aL x1.1 (Z x1.2.1.a) (bn x.1.1 7 (bY aP x1.b x1.2.1.b λA=>(ay (sR (A,x1.2.1.c)) λF=>(Z (be .i64 (x1.2.1.a+F))))) (bn x.1.1 9 (bY aP x1.b x1.2.1.b λz=>(ay (sR (z,x1.2.1.c)) λD=>(Z (be .i64 (x1.2.1.2.1+D))))) (jn (bn x.1.1 10 (aH ((decide ((x.1.1:Int)=10)),x1.2.1)) (bn x.1.1 17 (aH ((decide ((x.1.1:Int)=17)),x1.2.1)) (bn x.1.1 18 (aH ((decide ((x.1.1:Int)=18)),x1.2.1)) (bn x.1.1 19 (aH ((decide ((x.1.1:Int)=19)),x1.2.1)) (bn x.1.1 20 (aH ((decide ((x.1.1:Int)=20)),x1.2.1)) (aH ((decide ((x.1.1:Int)=28)),x1.2.1))))))) λd=>(aL d.1 (Z (-1)) (Z d.a)))))))
def oW (x:Ef×zQ×Int):M (gh×Bool):=
 (jn (α:=Bool×Ef×zQ×Int×o!) (ay (xT (x.1,x.2.1)) λy2=>(aL (!y2) (aH (J,x.1,x.2.1,0,0,0,0,0)) (bR x.2.2 0 (aH (J,x.1,x.2.1,0,0,0,0,0)) (aH ((dj (bc x.1.2) x.2.2),x.1,x.2.1,0,0,0,0,0))))) λx1=>(aL x1.1 (Z ((0,0,0,0,0,([]:η),([]:η)),aa)) (bY eZ x1.a.e x.2.2 λL=>(bY yE x1.2.1.2 x.2.2 λz4=>(bY sx z4.2 L.1 λA=>(bY hJ x1.a.1.e x.2.2 λz6=>(bn z6.1 1 (Z ((x.2.2,1,(-1),0,(-1),([]:η),([]:η)),J)) (bn z6.1 4 (bY hJ x1.a.1.e x.2.2 λz7=>(Z ((x.2.2,17,z7.2.1,0,A.h,([]:η),([]:η)),J))) (bn z6.1 2 (ay (xR A.1) λy8=>(ay (tM (A,L)) λy9=>(bn y8 0 (Z ((0,0,0,0,0,([]:η),([]:η)),aa)) (jn (α:=F_×xr×mC×F_×η) (bn A.1 10 (bY (.sl aP) L.a A.2.1 λz11=>(bI (bh (ah (z11:η)) 8) (aH (x1.e,L,A,(x.2.2,y8,y9,0,A.h),z11)))) (jn (α:=Bool×F_×xr×mC×Int×o!) (bn A.1 7 (aH ((decide ((A.1:Int)=7)),x1.e,L,A,x.2.2,y8,y9,0,A.h)) (aH ((decide ((A.1:Int)=9)),x1.e,L,A,x.2.2,y8,y9,0,A.h))) λd=>(aL d.1 (bY (.sl aP) d.a.a d.b.b λz13=>(bI (bh (ah (z13:η)) 8) (aH (d.2.1,d.a,d.b,d.g,z13)))) (aH (d.2.1,d.a,d.b,d.g,([]:η)))))) λF=>(jn (α:=F_×F_×F?) (jn (bn F.a.1 8 (aH (J,F)) (bn F.a.1 9 (aH (J,F)) (aH ((decide ((F.a.1:Int)=26)),F)))) λz=>(aL z.1 (bY (.sl aP) z.a.a z.b.a λN=>(bI (bh (ah (N:η)) 8) (aH (z.2.1,z.c,z.h,N)))) (aH (z.2.1,z.c,z.h,([]:η))))) λD=>(Z ((D.2.1.1,D.2.1.2.1,D.2.1.a,D.2.1.b,D.2.1.g,D.2.2),J))))))) (Z ((0,0,0,0,0,([]:η),([]:η)),aa)))))))))))
def oh (x:b?):M gz:=
 (ay (qN x) λz=>(bI (dj 0 (bc x.b)&&dj (bc x.b) (bc x.b)&&bh (aS (bc x.b)) 8) (bI (dj 0 (bc x.c)&&dj (bc x.c) (bc x.c)&&bh (aS (bc x.c)) 8) (iter (σ:=Int×ep×Int×P!) (λx2=>(bR x2.1 (bc x2.2.1.1) (bY mD x2.2.1.1 x2.1 λd=>(bI (bh (ah x2.c+ah ([d.2.2.2.2])) 8) (c7 ((cS x2.1),x2.2.1,x2.a,x2.b,(x2.c++([d.2.2.2.2])),x2.h)))) (aH x2.e))) (0,x,0,z,([]:η),(aF (aS (bc x.b)) (0:Int)),(aF (aS (bc x.c)) (0:Int)))))))
def sO (x:ep×P!):M (Bool):=
 (jn (ay (oY (x.1,x.2.1)) λd=>(aL d (bn (bc x.a) (bc x.1.1) (bn (bc x.b) (bc x.1.b) (aH (decide (((bc x.g):Int)=(bc x.1.c)))) (aH aa)) (aH aa)) (aH aa))) λx1=>(Z x1))
def EQ (x:Γ):M (Bool):=
 (jn (jR 0 x.1 (aH (fM x.1 x.2)) (aH aa)) λx1=>(Z x1))
def lE (x:n?):M (Bool):=
 (iter (σ:=Int) (λx1=>(bR x1 (bc x.1) (jn (bY aP x.1 x1 λD=>(bR D 1 (aH J) (bY aP x.1 x1 λA=>(jR x.2 A (aH J) (bR 0 x1 (bY aP x.1 x1 λz=>(bY aP x.1 (be .i64 (x1-1)) λd=>(aH (dj z d)))) (aH aa)))))) λx2=>(aL x2 (aH aa) (c7 (cS x1)))) (aH J))) 0)
abbrev L!:=gz×c?
def qL (x:L!):M (Bool):=
 (bn x.a 3 (bY aP x.1.2.1 x.b λD=>(Z (decide ((x.c:Int)=D)))) (bn x.a 23 (bY aP x.1.a x.b λA=>(Z (decide ((x.c:Int)=A)))) (bn x.a 5 (jn (bn x.c 0 (aH J) (aH (decide ((x.c:Int)=1)))) λx3=>(Z x3)) (jn (bn x.a 4 (aH ((decide ((x.a:Int)=4)),x)) (aH ((decide ((x.a:Int)=22)),x))) λd=>(aL d.1 (Z J) (bn x.a 18 (ay (oX (d.2.1.1,d.c)) λz=>(bn (bc z) 0 (Z (decide ((d.d:Int)=(-1)))) (jn (jR 0 d.d (bR d.d (bc d.2.1.1.e) (ay (pI (z,d.d)) λL=>(aH L)) (aH aa)) (aH aa)) λN=>(Z N)))) (bn x.a 19 (ay (oX (d.2.1.1,d.c)) λF=>(Z (decide ((d.d:Int)=(bc F))))) (Z (decide ((d.d:Int)=0))))))))))
abbrev H?:=ep×gz×gh×Int
def oV (x:ep×L!):M (gz×Bool):=
 (jn (α:=Bool×H?) (ay (sO (x.1,x.2.1)) λy2=>(aL (!y2) (aH (J,x.1,x.2.1,x.2.2,0)) (ay (EQ (x.a,(bc x.1.c))) λy3=>(aL (!y3) (aH (J,x.1,x.2.1,x.2.2,0)) (bR x.b 1 (aH (J,x.1,x.2.1,x.2.2,0)) (bR 23 x.b (aH (J,x.1,x.2.1,x.2.2,0)) (ay (iZ (x.1,x.2.1.1,x.a,x.b,x.c)) λy4=>(aH ((!y4),x.1,x.2.1,x.2.2,0))))))))) λx1=>(aL x1.1 (Z (((([]:Y i?),0,([]:θ),([]:Y d8)),([]:η),([]:η),([]:η)),aa)) (jn (α:=H?) (jn (bn x1.b.2.1 1 (aH (J,x1.2)) (aH ((decide ((x1.b.2.1:Int)=2)),x1.2))) λx6=>(aL x6.1 (iK x6.b.c (-1) (c7 (((([]:Y i?),0,([]:θ),([]:Y d8)),([]:η),([]:η),([]:η)),aa)) (aH x6.2)) (jn (ay (EQ (x6.b.c,(bc x6.2.1.h))) λy8=>(aL (!y8) (aH (J,x6.2)) (bY pR x6.2.1.h x6.b.c λz9=>(aH ((!decide ((z9.1:Int)=x6.b.1)),x6.2))))) λx7=>(aL x7.1 (c7 (((([]:Y i?),0,([]:θ),([]:Y d8)),([]:η),([]:η),([]:η)),aa)) (aH x7.2))))) λx5=>(jn (bn x5.a.2.1 3 (aH (J,x5)) (aH ((decide ((x5.a.2.1:Int)=4)),x5))) λL=>(jn (bR 0 (bc L.b.d) (iK L.b.2.1 5 (aL L.1 (bY mD L.2.1.1 L.b.a λz12=>(aH ((!(!decide ((z12.2.2.1:Int)=0))),L.2))) (aH (J,L.2))) (aH (aa,L.2))) (aH (aa,L.2))) λN=>(aL N.1 (Z (((([]:Y i?),0,([]:θ),([]:Y d8)),([]:η),([]:η),([]:η)),aa)) (jn (bR 0 (bc N.b.m) (iK N.b.2.1 4 (aH ((!decide ((N.b.2.1:Int)=22)),N.2)) (aH (aa,N.2))) (aH (aa,N.2))) λD=>(aL D.1 (Z (((([]:Y i?),0,([]:θ),([]:Y d8)),([]:η),([]:η),([]:η)),aa)) (jn (bY aP D.a.e D.b.1 λz15=>(ay (lE (D.b.d,z15)) λy16=>(aL (!y16) (aH (J,D.2)) (bY aP D.a.e D.b.1 λz17=>(ay (lE (D.b.m,z17)) λy18=>(aL (!y18) (aH (J,D.2)) (ay (qL (D.a,D.b)) λy19=>(aH ((!y19),D.2))))))))) λd=>(aL d.1 (Z (((([]:Y i?),0,([]:θ),([]:Y d8)),([]:η),([]:η),([]:η)),aa)) (bI (bh (ah ([]:η)+ah d.a.2.1) 8) (bI (bh (ah ([]:η)+ah d.a.a) 8) (bI (bh (ah ([]:η)+ah d.a.e) 8) (jn (α:=Int×ep×gz×gh×Int×Int×f?) (bn d.b.2.1 18 (aH (d.b.b,d.2.1,d.a,d.b,d.g,0,(([]:η)++d.a.2.1),(([]:η)++d.a.a),(([]:η)++d.a.e))) (aH ((-1),d.2.1,d.a,d.b,d.g,0,(([]:η)++d.a.2.1),(([]:η)++d.a.a),(([]:η)++d.a.e)))) λz=>(ay (qO (z.2.1,z.a.1,z.b.1,z.b.2.1,z.b.a,z.1)) λy21=>(jn (bn z.b.2.1 4 (ck (fm z.b.a (ah z.f)) (aH (z.b,z.c,y21.1,(cJ z.f z.b.a z.b.b),z.p))) (aH (z.b,z.c,y21.1,z.m))) λA=>(jn (bn A.1.2.1 22 (ck (fm A.1.a (ah A.c)) (aH (A.1,A.2.1,A.a,A.b,(cJ A.c A.1.a A.1.b),A.h))) (aH A)) λF=>(jZ aP F.h F.1.1 λz24=>(ck (fm F.1.1 (ah F.h)) (Z ((F.a,F.b,F.c,(cJ F.h F.1.1 (cS z24))),J)))))))))))))))))))))
abbrev W?:=Int×i?
def og (x:(Y gh)×W?):M (Bool):=
 (iter (σ:=Int) (λx1=>(bR x1 (bc x.e) (iter (σ:=Int×Bool×Int) (λx2=>(bR x2.2.2 x.2.1 (jn (bY gx x.1 x2.2.2 λF=>(iK F.1 x.a (aH (x2.1,x2.2.1)) (jn (aL x2.2.1 (aH J) (bY aP x.e x1 λD=>(bn x2.1 D (bY gx x.1 x2.2.2 λA=>(bn A.2.1 3 (aH J) (bY gx x.1 x2.2.2 λz=>(aH (decide ((z.2.1:Int)=23)))))) (aH aa)))) λL=>(aH ((cS x2.1),L))))) λd=>(c7 (d.1,d.2,(cS x2.2.2)))) (ay (aL (!x2.2.1) (aH aa) (c7 (cS x1))) λr=>Z (cw r)))) (0,aa,0)) (aH J))) 0)
abbrev n!:=ep×Y gh
def ol (x:n!):M Γ:=
 (bR 400 (bc x.2) (Z (0,2)) (ay (iy x.1) λy1=>(aL (!y1) (Z (0,1)) (ay (oh x.1) λN=>(iter (σ:=Int×(ep×Y gh)×P!) (λd=>(bR d.1 (bc d.2.1.2) (bY gx d.2.1.2 d.1 λz=>(ay (oV (d.2.1.1,d.2.2,z)) λA=>(jn (aL (!A.2) (aH (J,d.2.1,d.2.2,A.1)) (ay (og (d.2.1.2,d.1,z.1,z.d)) λL=>(aL (!L) (aH (J,d.2.1,d.2.2,A.1)) (ay (og (d.2.1.2,d.1,z.1,z.m)) λF=>(aH ((!F),d.2.1,d.2.2,A.1)))))) λD=>(aL D.1 (aH (d.1,12)) (c7 ((cS d.1),D.2.1,D.e)))))) (aH (0,0)))) (0,x,N))))))
def KG {W V:Type} (i:Int) (t1:R->(η)->(Y η)->W) (N:W->V) (t3:V->xr->Y xr) (L:Int) (d:Ef×rk×(Γ)×Int×F_×gh×(Γ)×(η)×(η)×R×(η)×Y η):M F9:=
 (jn (jn (iK d.d.2.1 16 (aH ((!decide ((d.d.2.1:Int)=2)),d.1,d.2.1,d.a,d.b,d.c,d.d,(L,d.l,d.w,(cS d.f.2)),d.i,d.k,(t1 d.o d.l d.w))) (aH (aa,d.1,d.2.1,d.a,d.b,d.c,d.d,(L,d.l,d.w,(cS d.f.2)),d.i,d.k,(t1 d.o d.l d.w)))) λz=>(aL z.1 (bY yE z.2.1.2 z.b.1 λD=>(ay (oG (D,z.i)) λF=>(aH (z.a,z.b,z.c,z.d,z.f,F.1,z.k,z.o,(N z.y))))) (aH (z.a,z.b,z.c,z.d,z.f,z.i,z.k,z.o,(N z.y))))) λA=>(bn A.2.1.1 i (Z ((A.1,A.f,A.i,(t3 A.q A.d)),A.c,J)) U))
abbrev w!:=Ef×zQ×j!
def SG (i:Int) (cp:h?->M (Int×jF×(θ)×(Y d8)×(η)×(η)×R×(η)×Y η)) (F ev:R->Int) (k:Int->(Ef×rk×(Γ)×Int×F_×gh×(Γ)×(η)×(η)×R×(η)×Y η)->M F9) (x:w!):M F9:=
 (ay (oW (x.1,x.2.1,x.a)) λA=>(aL (!A.2) (Z (((([]:Y i?),0,([]:θ),([]:Y d8)),([]:η),([]:η),([]:Y xr)),(0,0,0,0,0,([]:η),([]:η)),aa)) (ay (qO (x.1.1,x.2.1.1,x.a,A.1.2.1,A.1.a,x.e)) λL=>(aL (!L.2.2) (Z (((([]:Y i?),0,([]:θ),([]:Y d8)),([]:η),([]:η),([]:Y xr)),(0,0,0,0,0,([]:η),([]:η)),aa)) (ay (cp x.2.1) λD=>(bn x.a i (bY yE x.1.2 i λz4=>(bY sx z4.2 (F D.f) λz5=>(jn (α:=Int×Ef×rk×(Γ)×Int×F_×gh×(Γ)×mC×(η)×(η)×R×(η)×Y η) (jn (α:=Bool×Ef×rk×(Γ)×Int×F_×gh×(Γ)×mC×(η)×(η)×R×(η)×Y η) (bn A.1.2.1 1 (aH ((decide ((A.1.2.1:Int)=1)),x.1,L.1,(i,x.e),0,(0,0,0,0,0),(A.1.1,A.1.2.1,A.1.a,L.2.1,A.1.g),((F D.f),(ev D.f)),z5,D.g)) (bn A.1.2.1 16 (aH ((decide ((A.1.2.1:Int)=16)),x.1,L.1,(i,x.e),0,(0,0,0,0,0),(A.1.1,A.1.2.1,A.1.a,L.2.1,A.1.g),((F D.f),(ev D.f)),z5,D.g)) (aH ((decide ((A.1.2.1:Int)=2)),x.1,L.1,(i,x.e),0,(0,0,0,0,0),(A.1.1,A.1.2.1,A.1.a,L.2.1,A.1.g),((F D.f),(ev D.f)),z5,D.g)))) λd=>(aL d.1 (aH (d.i.1,d.2)) (bn A.1.2.1 3 (jZ aP d.o d.f.a λz8=>(aH ((be .i64 ((F D.f)+1)),d.2.1,d.a,d.b,d.c,d.d,(d.f.1,d.f.2.1,d.f.a,z8,d.f.g),d.p))) (bn A.1.2.1 23 (jZ aP d.l d.f.a λz9=>(aH ((be .i64 ((F D.f)+1)),d.2.1,d.a,d.b,d.c,d.d,(d.f.1,d.f.2.1,d.f.a,z9,d.f.g),d.p))) (bn A.1.2.1 4 (jZ aP d.j d.k.a λz10=>(ck (fm d.f.a (ah d.o)) (aH ((be .i64 ((F D.f)+1)),d.2.1,d.a,d.b,d.c,d.d,(d.f.1,d.f.2.1,d.f.a,z10,d.f.g),d.i,d.k,(cJ d.o d.f.a z10),d.y)))) (bn A.1.2.1 22 (jZ aP d.j d.k.a λN=>(ck (fm d.f.a (ah d.l)) (aH ((be .i64 ((F D.f)+1)),d.2.1,d.a,d.b,d.c,d.d,(d.f.1,d.f.2.1,d.f.a,N,d.f.g),d.i,d.k,d.o,(cJ d.l d.f.a N),d.w)))) (bn A.1.2.1 5 (jZ aP d.j d.k.2.1 λz12=>(bn z12 0 (aH (d.k.a,d.2.1,d.a,d.b,d.c,d.d,(d.f.1,d.f.2.1,d.f.a,0,d.f.g),d.p)) (aH ((be .i64 ((F D.f)+1)),d.2.1,d.a,d.b,d.c,d.d,(d.f.1,d.f.2.1,d.f.a,1,d.f.g),d.p)))) (aH ((be .i64 ((F D.f)+1)),d.2))))))))) λx6=>(jn (α:=Ef×rk×(Γ)×Int×F_×gh×(Γ)×(η)×(η)×R×(η)×Y η) (jn (bn x6.f.2.1 3 (aH (J,x6.2)) (aH ((decide ((x6.f.2.1:Int)=23)),x6.2))) λz=>(aL z.1 (ck (fm z.k.2.1 (ah z.j)) (ck (fm z.k.2.1 (ah z.D)) (aH (z.2.1,z.a,z.b,z.c,z.d,z.f,z.i,z.o,z.l,z.n,(cJ z.j z.k.2.1 z.f.b),(cJ z.D z.k.2.1 ([z.i.2])))))) (aH (z.2.1,z.a,z.b,z.c,z.d,z.f,z.i,z.t)))) λx13=>(k x6.1 x13))))) U))))))
def oF (x:h?):M (Int×jF×(θ)×(Y d8)×(η)×(η)×(Γ)×s?):=
 (ay (iO x.1) λd=>(bI (bh (ah ([]:η)+ah x.2.1) 8) (bI (bh (ah ([]:η)+ah x.a) 8) (bR 0 (bc x.e) (bY eZ x.e 0 λA=>(ay (cE A) λD=>(bR 1 (bc x.e) (bY eZ x.e 1 λz=>(ay (cE z) λF=>U)) (Z (d.1,d.2.1,d.a,d.e,(([]:η)++x.2.1),(([]:η)++x.a),D))))) U))))
def gr (x:w!):M F9:=
 SG 0 oF (λz=>z.1) (λz=>z.2) (KG 0 (λz R T=>(z.1,R,T,z.2)) (λw=>((w.1,w.2.1,w.2.2.1,w.2.2.2))) (λv t=>[t])) x
def oE (x:h?):M (Int×jF×(θ)×(Y d8)×(η)×(η)×Ya29×s?):=
 (ay (iO x.1) λz=>(bI (bh (ah ([]:η)+ah x.2.1) 8) (bI (bh (ah ([]:η)+ah x.a) 8) (bR 0 (bc x.e) (bY eZ x.e 0 λL=>(ay (cE L) λA=>(bR 1 (bc x.e) (bY eZ x.e 1 λF=>(ay (cE F) λd=>(bR 2 (bc x.e) (bY eZ x.e 2 λD=>(ay (cE D) λN=>U)) (Z (z.1,z.2.1,z.a,z.e,(([]:η)++x.2.1),(([]:η)++x.a),(A.1.1,A.1.2,d.1.1,d.2.1,d.2.2,d.1.2),A.2))))) U))) U))))
def gS (x:w!):M F9:=
 SG 0 oE (λz=>z.1) (λz=>z.2.1) (KG 0 (λz R T=>(z.1,R,T,z.2.1,z.2.2)) (λw=>((w.1,w.2.1,w.2.2.1,w.2.2.2.1),w.2.2.2.2)) (λv t=>[t,v.2])) x
def oD (x:h?):M (Int×jF×(θ)×(Y d8)×(η)×(η)×(xr×Int×Int)×s?):=
 (ay (iO x.1) λz=>(bI (bh (ah ([]:η)+ah x.2.1) 8) (bI (bh (ah ([]:η)+ah x.a) 8) (bR 0 (bc x.e) (bY eZ x.e 0 λL=>(ay (cE L) λd=>(bR 1 (bc x.e) (bY eZ x.e 1 λF=>(ay (cE F) λA=>(bR 2 (bc x.e) (bY eZ x.e 2 λD=>(ay (cE D) λN=>U)) (Z (z.1,z.2.1,z.a,z.e,(([]:η)++x.2.1),(([]:η)++x.a),((d.1.1,d.2.1,d.2.2,d.1.2),A.1),A.2))))) U))) U))))
def gp (x:w!):M F9:=
 SG 1 oD (λz=>z.2.1) (λz=>z.2.2) (KG 1 (λz R T=>(z.1,z.2.1,R,T,z.2.2)) (λw=>(w.1,(w.2.1,w.2.2.1,w.2.2.2.1,w.2.2.2.2))) (λv t=>[v.1,t])) x
def oC (x:h?):M (Int×jF×(θ)×(Y d8)×(η)×(η)×Ya27×s?):=
 (ay (iO x.1) λA=>(bI (bh (ah ([]:η)+ah x.2.1) 8) (bI (bh (ah ([]:η)+ah x.a) 8) (bR 0 (bc x.e) (bY eZ x.e 0 λz2=>(ay (cE z2) λD=>(bR 1 (bc x.e) (bY eZ x.e 1 λN=>(ay (cE N) λz=>(bR 2 (bc x.e) (bY eZ x.e 2 λL=>(ay (cE L) λd=>(bR 3 (bc x.e) (bY eZ x.e 3 λF=>(ay (cE F) λy9=>U)) (Z (A.1,A.2.1,A.a,A.e,(([]:η)++x.2.1),(([]:η)++x.a),(D.1.1,D.1.2,(z.1.1,z.2.1,z.2.2,z.1.2),d.1.1,d.2.1,d.2.2,d.1.2),D.2))))) U))) U))) U))))
def ky (x:w!):M F9:=
 SG 0 oC (λz=>z.1) (λz=>z.2.1) (KG 0 (λz R T=>(z.1,R,T,z.2.1,z.a,z.e)) (λw=>((w.1,w.2.1,w.2.2.1,w.2.2.2.1),w.2.2.2.2.1,w.2.2.2.2.2)) (λv t=>[t,v.2.1,v.2.2])) x
def oB (x:h?):M (Int×jF×(θ)×(Y d8)×(η)×(η)×Ya28×s?):=
 (ay (iO x.1) λA=>(bI (bh (ah ([]:η)+ah x.2.1) 8) (bI (bh (ah ([]:η)+ah x.a) 8) (bR 0 (bc x.e) (bY eZ x.e 0 λz2=>(ay (cE z2) λz=>(bR 1 (bc x.e) (bY eZ x.e 1 λN=>(ay (cE N) λD=>(bR 2 (bc x.e) (bY eZ x.e 2 λL=>(ay (cE L) λd=>(bR 3 (bc x.e) (bY eZ x.e 3 λF=>(ay (cE F) λy9=>U)) (Z (A.1,A.2.1,A.a,A.e,(([]:η)++x.2.1),(([]:η)++x.a),((z.1.1,z.2.1,z.2.2,z.1.2),D.1.1,D.1.2,d.1.1,d.2.1,d.2.2,d.1.2),D.2))))) U))) U))) U))))
def jA (x:w!):M F9:=
 SG 1 oB (λz=>z.2.1) (λz=>z.a) (KG 1 (λz R T=>(z.1,z.2.1,R,T,z.a,z.e)) (λw=>(w.1,(w.2.1,w.2.2.1,w.2.2.2.1,w.2.2.2.2.1),w.2.2.2.2.2)) (λv t=>[v.1,t,v.2.2])) x
def oA (x:h?):M (Int×jF×(θ)×(Y d8)×(η)×(η)×(xr×xr×Int×Int)×s?):=
 (ay (iO x.1) λA=>(bI (bh (ah ([]:η)+ah x.2.1) 8) (bI (bh (ah ([]:η)+ah x.a) 8) (bR 0 (bc x.e) (bY eZ x.e 0 λz2=>(ay (cE z2) λz=>(bR 1 (bc x.e) (bY eZ x.e 1 λN=>(ay (cE N) λd=>(bR 2 (bc x.e) (bY eZ x.e 2 λL=>(ay (cE L) λD=>(bR 3 (bc x.e) (bY eZ x.e 3 λF=>(ay (cE F) λy9=>U)) (Z (A.1,A.2.1,A.a,A.e,(([]:η)++x.2.1),(([]:η)++x.a),((z.1.1,z.2.1,z.2.2,z.1.2),(d.1.1,d.2.1,d.2.2,d.1.2),D.1),D.2))))) U))) U))) U))))
def iw (x:w!):M F9:=
 SG 2 oA (λz=>z.a) (λz=>z.e) (KG 2 (λz R T=>(z.1,z.2.1,z.a,R,T,z.e)) (λw=>(w.1,w.2.1,(w.2.2.1,w.2.2.2.1,w.2.2.2.2.1,w.2.2.2.2.2))) (λv t=>[v.1,v.2.1,t])) x
def oz (x:h?):M (Int×jF×(θ)×(Y d8)×(η)×(η)×Ya23×s?):=
 (ay (iO x.1) λD=>(bI (bh (ah ([]:η)+ah x.2.1) 8) (bI (bh (ah ([]:η)+ah x.a) 8) (bR 0 (bc x.e) (bY eZ x.e 0 λz2=>(ay (cE z2) λL=>(bR 1 (bc x.e) (bY eZ x.e 1 λz4=>(ay (cE z4) λA=>(bR 2 (bc x.e) (bY eZ x.e 2 λz6=>(ay (cE z6) λz=>(bR 3 (bc x.e) (bY eZ x.e 3 λN=>(ay (cE N) λd=>(bR 4 (bc x.e) (bY eZ x.e 4 λF=>(ay (cE F) λy11=>U)) (Z (D.1,D.2.1,D.a,D.e,(([]:η)++x.2.1),(([]:η)++x.a),(L.1.1,L.1.2,(A.1.1,A.2.1,A.2.2,A.1.2),(z.1.1,z.2.1,z.2.2,z.1.2),d.1.1,d.2.1,d.2.2,d.1.2),L.2))))) U))) U))) U))) U))))
def ou (x:w!):M F9:=
 SG 0 oz (λz=>z.1) (λz=>z.2.1) (KG 0 (λz R T=>(z.1,R,T,z.2.1,z.a,z.b,z.g)) (λw=>((w.1,w.2.1,w.2.2.1,w.2.2.2.1),w.2.2.2.2.1,w.2.2.2.2.2.1,w.2.2.2.2.2.2)) (λv t=>[t,v.2.1,v.2.2.1,v.2.2.2])) x
def oy (x:h?):M (Int×jF×(θ)×(Y d8)×(η)×(η)×Ya24×s?):=
 (ay (iO x.1) λD=>(bI (bh (ah ([]:η)+ah x.2.1) 8) (bI (bh (ah ([]:η)+ah x.a) 8) (bR 0 (bc x.e) (bY eZ x.e 0 λz2=>(ay (cE z2) λA=>(bR 1 (bc x.e) (bY eZ x.e 1 λz4=>(ay (cE z4) λL=>(bR 2 (bc x.e) (bY eZ x.e 2 λz6=>(ay (cE z6) λz=>(bR 3 (bc x.e) (bY eZ x.e 3 λN=>(ay (cE N) λd=>(bR 4 (bc x.e) (bY eZ x.e 4 λF=>(ay (cE F) λy11=>U)) (Z (D.1,D.2.1,D.a,D.e,(([]:η)++x.2.1),(([]:η)++x.a),((A.1.1,A.2.1,A.2.2,A.1.2),L.1.1,L.1.2,(z.1.1,z.2.1,z.2.2,z.1.2),d.1.1,d.2.1,d.2.2,d.1.2),L.2))))) U))) U))) U))) U))))
def oq (x:w!):M F9:=
 SG 1 oy (λz=>z.2.1) (λz=>z.a) (KG 1 (λz R T=>(z.1,z.2.1,R,T,z.a,z.b,z.g)) (λw=>(w.1,(w.2.1,w.2.2.1,w.2.2.2.1,w.2.2.2.2.1),w.2.2.2.2.2.1,w.2.2.2.2.2.2)) (λv t=>[v.1,t,v.2.2.1,v.2.2.2])) x
def ox (x:h?):M (Int×jF×(θ)×(Y d8)×(η)×(η)×Ya25×s?):=
 (ay (iO x.1) λD=>(bI (bh (ah ([]:η)+ah x.2.1) 8) (bI (bh (ah ([]:η)+ah x.a) 8) (bR 0 (bc x.e) (bY eZ x.e 0 λz2=>(ay (cE z2) λA=>(bR 1 (bc x.e) (bY eZ x.e 1 λz4=>(ay (cE z4) λz=>(bR 2 (bc x.e) (bY eZ x.e 2 λz6=>(ay (cE z6) λL=>(bR 3 (bc x.e) (bY eZ x.e 3 λN=>(ay (cE N) λd=>(bR 4 (bc x.e) (bY eZ x.e 4 λF=>(ay (cE F) λy11=>U)) (Z (D.1,D.2.1,D.a,D.e,(([]:η)++x.2.1),(([]:η)++x.a),((A.1.1,A.2.1,A.2.2,A.1.2),(z.1.1,z.2.1,z.2.2,z.1.2),L.1.1,L.1.2,d.1.1,d.2.1,d.2.2,d.1.2),L.2))))) U))) U))) U))) U))))
def mG (x:w!):M F9:=
 SG 2 ox (λz=>z.a) (λz=>z.b) (KG 2 (λz R T=>(z.1,z.2.1,z.a,R,T,z.b,z.g)) (λw=>(w.1,w.2.1,(w.2.2.1,w.2.2.2.1,w.2.2.2.2.1,w.2.2.2.2.2.1),w.2.2.2.2.2.2)) (λv t=>[v.1,v.2.1,t,v.2.2.2])) x
def ov (x:h?):M (Int×jF×(θ)×(Y d8)×(η)×(η)×Ya42×s?):=
 (ay (iO x.1) λD=>(bI (bh (ah ([]:η)+ah x.2.1) 8) (bI (bh (ah ([]:η)+ah x.a) 8) (bR 0 (bc x.e) (bY eZ x.e 0 λz2=>(ay (cE z2) λA=>(bR 1 (bc x.e) (bY eZ x.e 1 λz4=>(ay (cE z4) λz=>(bR 2 (bc x.e) (bY eZ x.e 2 λz6=>(ay (cE z6) λd=>(bR 3 (bc x.e) (bY eZ x.e 3 λN=>(ay (cE N) λL=>(bR 4 (bc x.e) (bY eZ x.e 4 λF=>(ay (cE F) λy11=>U)) (Z (D.1,D.2.1,D.a,D.e,(([]:η)++x.2.1),(([]:η)++x.a),((A.1.1,A.2.1,A.2.2,A.1.2),(z.1.1,z.2.1,z.2.2,z.1.2),(d.1.1,d.2.1,d.2.2,d.1.2),L.1),L.2))))) U))) U))) U))) U))))
def lF (x:w!):M F9:=
 SG 3 ov (λz=>z.b) (λz=>z.g) (KG 3 (λz R T=>(z.1,z.2.1,z.a,z.b,R,T,z.g)) (λw=>(w.1,w.2.1,w.2.2.1,(w.2.2.2.1,w.2.2.2.2.1,w.2.2.2.2.2.1,w.2.2.2.2.2.2))) (λv t=>[v.1,v.2.1,v.2.2.1,t])) x
def B9 (x:w!):M F9:=orE (ou x) (orE (oq x) (orE (mG x) (orE (lF x) (orE (ky x) (orE (jA x) (orE (iw x) (orE (gS x) (orE (gp x) (gr x)))))))))
def xS (x:Ef×zQ×Y Γ):M ((Y gh)×h?):=
 (iter (σ:=Int×(Y gh)×Ef×zQ×Int) (λx1=>(jn (bR x1.1 (bc x.2.2) (aH ((fM (bc x1.2.1) 400),x1.2)) (aH (aa,x1.2))) λx2=>(aL x2.1 (jn (α:=(Y gh)×Ef×zQ×Int) (bY fP x.2.2 x1.1 λz=>(ay (B9 (x2.a,x2.b,z)) λd=>(aL d.2.2 (bI (bh (ah x2.2.1+ah ([d.2.1])) 88) (aH ((x2.2.1++([d.2.1])),x2.a,d.1,x2.g))) (aH x2.2)))) λA=>(c7 ((cS x1.1),A))) (aH (x2.2.1,x2.b))))) (0,([]:Y gh),x.1,x.2.1,0))
def Bb (x:Ef×Y Γ):M ((ep×Y gh)×h?):=
 (ay (qQ x.1) λA=>(aL (!A) (Z (((([]:Y VV),([]:Y y!),([]:Y kF),([]:Y ζ),([]:Y ζ),([]:Y ν)),([]:Y gh)),(([]:Y i?),0,([]:θ),([]:Y d8)),([]:η),([]:η),([]:Y xr))) (ay (vC x.1) λz=>(ay (xS (x.1,z,x.2)) λd=>(Z ((x.1.1,d.1),d.2))))))
abbrev J?:=Int×u?
def bV (x:J?):M J?:=
 (jn (jR (bc x.2.1) x.2.2 (aH (J,x.2)) (aH ((fM x.1 1),x.2))) λx1=>(aL x1.1 (Z (0,x1.2)) (lt (cS x1.2.2) λz=>(bY (.int .u8) x1.2.1 (be .i64 (z-1)) λd=>(bI (!decide ((x.1:Int)=0)) (Z ((bJ (be .i64 d) x.1),x1.2.1,(cS x1.2.2))))))))
def sV (x:Int):M (Xp):=
 (Z (eD (1,x,[],([]:Y Xp))))
def qS (x:ζ):M (Xp):=
 (Z (eD (2,0,x,([]:Y Xp))))
def o6 (x:Int×Xp×Xp):M (Xp):=
 (Z (eD (x.1,0,[],[eD ((Xp.op x.2.1),(Xp.n x.2.1),(Xp.name x.2.1),(Xp.l x.2.1)),eD ((Xp.op x.2.2),(Xp.n x.2.2),(Xp.name x.2.2),(Xp.l x.2.2))])))
def kq (x:ζ×Xp):M (Sx):=
 (Z (pO (1,0,x.1,[],([]:Y Xp),eD ((Xp.op x.2),(Xp.n x.2),(Xp.name x.2),(Xp.l x.2)),([]:Y Sx),([]:Y Sx))))
def tQ (x:Unit):M yC:=
 (Z ([(1,0,[120],0,0,[]),(1,0,[121],0,1,[]),(2,0,[118],0,0,[]),(1,0,[113],2,0,[]),(3,0,[109],0,0,[]),(3,0,[110],0,0,[]),(4,0,[114],0,0,[]),(5,0,[99],0,0,[109]),(6,0,[102],0,0,[])]))
def pN (x:η):M (Y Γ):=
 (iter (σ:=Int×Y Γ) (λx1=>(bR x1.1 (bc x) (bY (.int .u8) x x1.1 λz=>(bY (.int .u8) x x1.1 λd=>(bI (bh (ah x1.2+ah ([((bJ (be .i64 z) 4),(be .i64 ((bJ (be .i64 (Int.tdiv (be .i64 d) 4)) 5)-1)))])) 16) (c7 ((cS x1.1),(x1.2++([((bJ (be .i64 z) 4),(be .i64 ((bJ (be .i64 (Int.tdiv (be .i64 d) 4)) 5)-1)))]))))))) (aH x1.2))) (0,([]:Y Γ)))
def ph (rmade_maker_expr:abu->M akl) (x:V?):M akl:=
 (ay (bV (10,x.a)) λF=>(jn (α:=Bool×Eg×iv×VW×(Int×Int×ζ)×Y ζ) (bR F.1 2 (aH (J,x.2.1,F.2,x.e,(0,0,[]),[[97],[98],[120],[121],[118],[120],[121]])) (bn x.1 0 (aH ((dj 7 F.1),x.2.1,F.2,x.e,(0,0,[]),[[97],[98],[120],[121],[118],[120],[121]])) (aH (aa,x.2.1,F.2,x.e,(0,0,[]),[[97],[98],[120],[121],[118],[120],[121]])))) λx2=>(aL x2.1 (ay (bV (4,x2.a)) λy3=>(ay (sV y3.1) λN=>(Z (eD ((Xp.op N),(Xp.n N),(Xp.name N),(Xp.l N)),x2.2.1,y3.2,x2.b)))) (bR F.1 7 (ay (bV ((bc x2.h),x2.a)) λy5=>(jZ (.str) x2.h y5.1 λz6=>(ay (qS z6) λL=>(Z (eD ((Xp.op L),(Xp.n L),(Xp.name L),(Xp.l L)),x2.2.1,y5.2,x2.b))))) (bn F.1 7 (ay (rmade_maker_expr (0,x2.2.1,x2.a,x2.b)) λD=>(bI (((x2.b.1==D.b)&&J)&&ax (ah x2.b.2) (ah D.g)&&J) (Z (eD (3,0,[113],[eD ((Xp.op D.1),(Xp.n D.1),(Xp.name D.1),(Xp.l D.1))]),D.2)))) (ay (bV ((aR (ah ([6,7,8,11,13,17]))),x2.a)) λy9=>(jZ aP ([6,7,8,11,13,17]) y9.1 λz10=>(ay (rmade_maker_expr ((be .i64 (x.1-1)),x2.2.1,y9.2,x2.b)) λd=>(bI (((x2.b.1==d.b)&&J)&&ax (ah x2.b.2) (ah d.g)&&J) (ay (rmade_maker_expr ((be .i64 (x.1-1)),d.2)) λA=>(bI (((d.b==A.b)&&J)&&ax (ah d.g) (ah A.g)&&J) (ay (o6 (z10,d.1,A.1)) λz=>(Z (eD ((Xp.op z),(Xp.n z),(Xp.name z),(Xp.l z)),A.2))))))))))))))
def iQ:Nat->abu->M akl
 |0,_=>U
 |n+1,x=>ph (iQ n) x
def AH (n:Nat) (x:V?):iQ (n+1) x=ph (iQ n) x:=rfl
def fo (x:V?):M akl:=iQ fuel x
def eT (x:ζ×k!):M (Bool×k!):=
 (ay (lh (x.g,x.1)) λd=>(Z ((dj 0 d),x.2)))
def nR (rmade_maker_stmts:akn->M abt) (rmade_maker_stmt:abu->M agt) (rmade_maker_block:akm->M agu) (x:Γ×k!):M abt:=
 (iter (σ:=Int×Eg×iv×(Y Sx)×Bool×Y ζ) (λx1=>(jn (bR x1.1 x.1.2 (bn x1.1 0 (aH (J,x1.2)) (aH ((fM 0 x1.2.1.2.1),x1.2))) (aH (aa,x1.2))) λx2=>(aL x2.1 (ay (rmade_maker_stmt (x.1.1,x2.2.1,x2.a,x2.g)) λd=>(bI (((x2.c==x2.c)&&J)&&ax (ah x2.h) (ah x2.h)&&J) (bI (bh (ah x2.b+ah ([eA d.1])) 176) (c7 ((cS x1.1),d.2.1,d.a,(x2.b++([eA d.1])),d.e))))) (aH (x2.2.1,x2.a,x2.g,x2.b))))) (0,x.2.1,x.a,([]:Y Sx),x.e))
abbrev o?:=Bool×Eg×iv×Yw×Bool×Y ζ
def pg (rmade_maker_stmts:akn->M abt) (rmade_maker_stmt:abu->M agt) (rmade_maker_block:akm->M agu) (x:V?):M agt:=
 (ay (bV (18,x.a)) λy1=>(jn (α:=o?) (bR 0 x.1 (lt (be .i64 (x.2.1.2.1-1)) λz3=>(bR 0 z3 (aH ((!x.2.1.b),(x.2.1.1,(be .i64 (x.2.1.2.1-1)),x.2.1.2.2),y1.2,(0,0,[],[],0,0,[]),x.e)) (aH (aa,(x.2.1.1,(be .i64 (x.2.1.2.1-1)),x.2.1.2.2),y1.2,(0,0,[],[],0,0,[]),x.e)))) (aH (aa,(x.2.1.1,(be .i64 (x.2.1.2.1-1)),x.2.1.2.2),y1.2,(0,0,[],[],0,0,[]),x.e))) λx2=>(bR y1.1 4 (jZ (.str) ([[120],[121],[120],[118]]) y1.1 λz4=>(ay (fo (1,x2.2.1,x2.a,x2.g)) λy5=>(bI (((x2.c==y5.b)&&J)&&ax (ah x2.h) (ah y5.g)&&J) (ay (kq (z4,y5.1)) λy6=>(Z (eA y6,y5.2)))))) (bn y1.1 4 (ay (bV (2,x2.a)) λy7=>(jZ (.str) ([[97],[98]]) y7.1 λz8=>(ay (fo (1,x2.2.1,y7.2,x2.g)) λy9=>(bI (((x2.c==y9.b)&&J)&&ax (ah x2.h) (ah y9.g)&&J) (ay (kq (z8,y9.1)) λy10=>(Z (eA y10,y9.2))))))) (bn y1.1 5 (ay (fo (0,x2.2.1,x2.a,x2.g)) λy11=>(bI (((x2.c==y11.b)&&J)&&ax (ah x2.h) (ah y11.g)&&J) (ay (fo (1,y11.2)) λy12=>(bI (((y11.b==y12.b)&&J)&&ax (ah y11.g) (ah y12.g)&&J) (Z (pO (1,0,[113],[],[eD ((Xp.op y11.1),(Xp.n y11.1),(Xp.name y11.1),(Xp.l y11.1))],eD ((Xp.op y12.1),(Xp.n y12.1),(Xp.name y12.1),(Xp.l y12.1)),([]:Y Sx),([]:Y Sx)),y12.2)))))) (jn (bn y1.1 6 (aH ((fM 0 x.1),x2.2)) (aH (aa,x2.2))) λx13=>(aL x13.1 (ay (fo (1,x13.2.1,x13.a,x13.g)) λD=>(bI (((x13.c==D.b)&&J)&&ax (ah x13.h) (ah D.g)&&J) (ay (rmade_maker_stmts (((be .i64 (x.1-1)),1),D.2)) λy15=>(bI (((D.b==D.b)&&J)&&ax (ah D.g) (ah D.g)&&J) (jn (α:=Eg×iv×Yw×(Int×Int×(ζ)×(ζ)×Int×Int×(ζ)×Y Xp)×VW×(Y Sx)×Y Sx) (ay (bV (2,y15.2.1)) λy17=>(bn y17.1 1 (ay (rmade_maker_stmts (((be .i64 (x.1-1)),1),y15.1,y17.2,y15.a)) λy18=>(bI (((y15.a.1==y15.a.1)&&J)&&ax (ah y15.a.2) (ah y15.a.2)&&J) (aH (y18.1,y18.2.1,x13.b,(2,0,[],[],(Xp.op D.1),(Xp.n D.1),(Xp.name D.1),(Xp.l D.1)),y18.a,y15.e,y18.e)))) (aH (y15.1,y17.2,x13.b,(2,0,[],[],(Xp.op D.1),(Xp.n D.1),(Xp.name D.1),(Xp.l D.1)),y15.a,y15.e,([]:Y Sx))))) λx16=>(Z (pO (x16.b.1,x16.b.2.1,x16.b.a,x16.b.b,([]:Y Xp),eD x16.b.g,x16.h),x16.1,x16.2.1,x16.c))))))) (jn (bn y1.1 7 (aH ((fM 0 x.1),x13.2)) (aH (aa,x13.2))) λd=>(aL d.1 (ay (qS ([98])) λy20=>(ay (sV 2) λy21=>(ay (o6 (13,y20,y21)) λy22=>(ay (rmade_maker_stmts (((be .i64 (x.1-1)),1),(d.2.1.1,d.2.1.2.1,d.2.1.a,d.2.1.b,d.2.1.c,J),d.a,d.g)) λy23=>(bI (((d.c==d.c)&&J)&&ax (ah d.h) (ah d.h)&&J) (ay (qS ([98])) λy24=>(ay (sV 1) λy25=>(ay (o6 (6,y24,y25)) λy26=>(ay (kq ([98],y26)) λy27=>(bI (bh (ah y23.e+ah ([eA y27])) 176) (Z (pO (3,0,[],[],([]:Y Xp),eD ((Xp.op y22),(Xp.n y22),(Xp.name y22),(Xp.l y22)),(y23.e++([eA y27])),([]:Y Sx)),(y23.1.1,y23.1.2.1,y23.1.a,y23.1.b,y23.1.c,d.2.1.h),y23.2.1,y23.a)))))))))))) (jn (α:=o?) (bn y1.1 8 (aL x2.1 (jZ (.str) ([[109],[110]]) (be .i64 (y1.1-8)) λz29=>(ay (eT (z29,d.2.1,d.a,d.g)) λy30=>(bI (((d.c==y30.b)&&J)&&ax (ah d.h) (ah y30.g)&&J) (aH ((!y30.1),y30.2.1,y30.a,d.b,y30.e))))) (aH (aa,d.2))) (bn y1.1 9 (aL x2.1 (jZ (.str) ([[109],[110]]) (be .i64 (y1.1-8)) λz31=>(ay (eT (z31,d.2.1,d.a,d.g)) λy32=>(bI (((d.c==y32.b)&&J)&&ax (ah d.h) (ah y32.g)&&J) (aH ((!y32.1),y32.2.1,y32.a,d.b,y32.e))))) (aH (aa,d.2))) (aH (aa,d.2)))) λz=>(aL z.1 (jZ (.str) ([[109],[110]]) (be .i64 (y1.1-8)) λz33=>(ay (rmade_maker_block ((z33,(be .i64 (x.1-1))),z.2.1,z.a,z.g)) λy34=>(bI (((z.c==z.c)&&J)&&ax (ah z.h) (ah z.h)&&J) (Z (pO (4,0,z33,[],([]:Y Xp),eD (0,0,[],([]:Y Xp)),y34.1,([]:Y Sx)),y34.2))))) (jn (α:=o?) (bn y1.1 10 (aL x2.1 (ay (eT ([114],z.2.1,z.a,z.g)) λy36=>(bI (((z.c==y36.b)&&J)&&ax (ah z.h) (ah y36.g)&&J) (aH ((!y36.1),y36.2.1,y36.a,z.b,y36.e)))) (aH (aa,z.2))) (bn y1.1 11 (aL x2.1 (ay (eT ([114],z.2.1,z.a,z.g)) λy37=>(bI (((z.c==y37.b)&&J)&&ax (ah z.h) (ah y37.g)&&J) (aH ((!y37.1),y37.2.1,y37.a,z.b,y37.e)))) (aH (aa,z.2))) (aH (aa,z.2)))) λx35=>(aL x35.1 (ay (rmade_maker_block (([114],(be .i64 (x.1-1))),x35.2.1,x35.a,x35.g)) λy38=>(bI (((x35.c==x35.c)&&J)&&ax (ah x35.h) (ah x35.h)&&J) (Z (pO ((be .i64 ((be .i64 (y1.1-10))+5)),0,[114],[],([]:Y Xp),eD (0,0,[],([]:Y Xp)),y38.1,([]:Y Sx)),y38.2)))) (jn (bn y1.1 12 (aH (x2.1,x35.2)) (aH (aa,x35.2))) λF=>(aL F.1 (ay (bV (2,F.a)) λy40=>(ay (rmade_maker_stmts ((0,(be .i64 (1+y40.1))),(F.2.1.1,F.2.1.2.1,F.2.1.a,J,F.2.1.g),y40.2,F.g)) λy41=>(bI (((F.c==F.c)&&J)&&ax (ah F.h) (ah F.h)&&J) (Z (pO (7,0,[],[],([]:Y Xp),eD (0,0,[],([]:Y Xp)),y41.e,([]:Y Sx)),(y41.1.1,y41.1.2.1,y41.1.a,aa,y41.1.g),y41.2.1,y41.a))))) (jn (bn y1.1 13 (aL x2.1 (aH ((!F.2.1.c),F.2)) (aH (aa,F.2))) (aH (aa,F.2))) λA=>(aL A.1 (ay (rmade_maker_stmts (((be .i64 (x.1-1)),2),(A.2.1.1,A.2.1.2.1,A.2.1.a,A.2.1.b,J,A.2.1.h),A.a,A.g)) λy43=>(bI (((A.c==A.c)&&J)&&ax (ah A.h) (ah A.h)&&J) (Z (pO (8,0,[],[],([]:Y Xp),eD (0,0,[],([]:Y Xp)),y43.e,([]:Y Sx)),(y43.1.1,y43.1.2.1,y43.1.a,y43.1.b,aa,y43.1.h),y43.2.1,y43.a)))) (jn (α:=o?) (bn y1.1 14 (aL x2.1 (aL (!A.2.1.c) (ay (eT ([109],A.2.1,A.a,A.g)) λy45=>(bI (((A.c==y45.b)&&J)&&ax (ah A.h) (ah y45.g)&&J) (aH ((!y45.1),y45.2.1,y45.a,A.b,y45.e)))) (aH (aa,A.2))) (aH (aa,A.2))) (aH (aa,A.2))) λN=>(aL N.1 (ay (qS ([120])) λy46=>(ay (kq ([97],y46)) λy47=>(Z (pO (4,0,[109],[],([]:Y Xp),eD (0,0,[],([]:Y Xp)),[pO (9,0,[99],[],([]:Y Xp),eD (0,0,[],([]:Y Xp)),([]:Y Sx),([]:Y Sx)),eA y47],([]:Y Sx)),N.2.1,N.a,N.g)))) (jn (α:=o?) (bn y1.1 15 (aL x2.1 (ay (eT ([109],N.2.1,N.a,N.g)) λy49=>(bI (((N.c==y49.b)&&J)&&ax (ah N.h) (ah y49.g)&&J) (aH ((!y49.1),y49.2.1,y49.a,N.b,y49.e)))) (aH (aa,N.2))) (aH (aa,N.2))) λx48=>(aL x48.1 (ay (bV (2,x48.a)) λy50=>(Z (pO (4,0,[109],[],([]:Y Xp),eD (0,0,[],([]:Y Xp)),[pO ((be .i64 (10+y50.1)),0,[99],[],([]:Y Xp),eD (0,0,[],([]:Y Xp)),([]:Y Sx),([]:Y Sx))],([]:Y Sx)),x48.2.1,y50.2,x48.g))) (jn (bn y1.1 16 (aL (!x48.2.1.b) (aL (!x48.2.1.h) (aH ((!x48.2.1.a),x48.2)) (aH (aa,x48.2))) (aH (aa,x48.2))) (aH (aa,x48.2))) λL=>(aL L.1 (ay (fo (1,(L.2.1.1,L.2.1.2.1,J,L.2.1.e),L.a,L.g)) λy52=>(bI (((L.c==y52.b)&&J)&&ax (ah L.h) (ah y52.g)&&J) (Z (pO (14,0,[102],[],([]:Y Xp),eD ((Xp.op y52.1),(Xp.n y52.1),(Xp.name y52.1),(Xp.l y52.1)),([]:Y Sx),([]:Y Sx)),y52.2)))) (jn (α:=o?) (bn y1.1 17 (aL (!L.2.1.b) (ay (bV (2,L.a)) λy54=>(aH ((decide ((y54.1:Int)=1)),L.2.1,y54.2,L.e))) (aH (aa,L.2))) (aH (aa,L.2))) λx53=>(aL x53.1 (Z (pO (15,0,[97],[102],([]:Y Xp),eD (0,0,[],([]:Y Xp)),([]:Y Sx),([]:Y Sx)),x53.2.1,x53.a,x53.g)) (ay (fo (1,x53.2.1,x53.a,x53.g)) λy55=>(bI (((x53.c==y55.b)&&J)&&ax (ah x53.h) (ah y55.g)&&J) (ay (kq ([120],y55.1)) λy56=>(Z (eA y56,y55.2))))))))))))))))))))))))))))))
def nS (rmade_maker_stmts:akn->M abt) (rmade_maker_stmt:abu->M agt) (rmade_maker_block:akm->M agu) (x:kF×k!):M agu:=
 (bI (bh (ah x.g+ah ([x.1.1])) 16) (ay (bV (2,x.a)) λz=>(ay (rmade_maker_stmts ((x.1.2,(be .i64 (1+z.1))),x.2.1,z.2,x.b,(x.g++([x.1.1])))) λd=>(bI (((x.b==x.b)&&J)&&ax (ah (x.g++([x.1.1]))) (ah (x.g++([x.1.1])))&&J) (bI (dj 0 (be .i64 ((bc d.a.2)-1))&&fM (be .i64 ((bc d.a.2)-1)) (ah d.a.2)) (Z (d.e,d.1,d.2.1,aa,(dg (aS (be .i64 ((bc d.a.2)-1))) d.a.2))))))))
mutual
def dU:Nat->akn->M abt
 |0,_=>U
 |n+1,x=>nR (dU n) (eK n) (ej n) x
def eK:Nat->abu->M agt
 |0,_=>U
 |n+1,x=>pg (dU n) (eK n) (ej n) x
def ej:Nat->akm->M agu
 |0,_=>U
 |n+1,x=>nS (dU n) (eK n) (ej n) x
end
def rQ (x:Γ×k!):M abt:=dU fuel x
abbrev q?:=Eg×yC×dC×kF×iv×VW×(Y yB)×dC×Y Sx
def pM (x:η):M z!:=
 (ay (tQ ()) λy1=>(ay (bV (3,x,0)) λy2=>(iter (σ:=Int×Eg×yC×dC×iv×VW×Y yB) (λA=>(bR A.1 (be .i64 (2+y2.1)) (jZ (.str) A.b A.1 λz4=>(jn (α:=q?) (bn A.1 0 (iter (σ:=Int×q?) (λF=>(bR F.1 (be .i64 (2+y2.1)) (jZ (.str) F.b F.1 λz7=>(bI (bh (ah F.t+ah ([pO (12,0,z7,[],([]:Y Xp),eD (0,0,[],([]:Y Xp)),([]:Y Sx),([]:Y Sx))])) 176) (c7 ((cS F.1),F.2.1,F.a,F.b,F.c,F.d,F.f,F.i,F.k,(F.t++([pO (12,0,z7,[],([]:Y Xp),eD (0,0,[],([]:Y Xp)),([]:Y Sx),([]:Y Sx))])))))) (aH (cw F.2)))) (1,(A.1,A.2.1.2),A.a,A.b,(z4,0),A.c,A.d,A.m,[[97],[98]],([]:Y Sx))) (aH ((A.1,A.2.1.2),A.a,A.b,(z4,0),A.c,A.d,A.m,[[97],[98]],([]:Y Sx)))) λD=>(ay (bV (3,D.c)) λy8=>(ay (rQ ((2,(be .i64 (1+y8.1))),D.1,y8.2,D.d)) λL=>(bI (((D.d.1==D.d.1)&&J)&&ax (ah D.d.2) (ah D.d.2)&&J) (bI (bh (ah D.q+ah L.e) 176) (jn (α:=q?) (jn (α:=Bool×q?) (bn A.1 0 (ay (bV (3,L.2.1)) λy12=>(aH ((decide ((y12.1:Int)=2)),L.1,D.2.1,D.a,D.b,y12.2,L.a,D.f,D.i,(D.q++L.e)))) (aH (aa,L.1,D.2.1,D.a,D.b,L.2.1,L.a,D.f,D.i,(D.q++L.e)))) λd=>(aL d.1 (jZ (.str) d.b 1 λN=>(bI (bh (ah d.t+ah ([pO (13,0,N,[],([]:Y Xp),eD (0,0,[],([]:Y Xp)),([]:Y Sx),([]:Y Sx))])) 176) (aH (d.2.1,d.a,d.b,d.c,d.d,d.f,d.i,d.k,(d.t++([pO (13,0,N,[],([]:Y Xp),eD (0,0,[],([]:Y Xp)),([]:Y Sx),([]:Y Sx))])))))) (aH d.2))) λz=>(bI (bh (ah z.f+ah ([(z.b.1,z.b.2,z.p)])) 72) (c7 ((cS A.1),z.1,z.2.1,z.a,z.c,z.d,(z.f++([(z.b.1,z.b.2,z.p)])))))))))))) (ay (ay (lG (A.a,A.m)) λy14=>(iK y14.1 0 (ay (tQ ()) λy15=>(ay (sV 1) λy16=>(ay (kq ([120],y16)) λy17=>(Z (y15,[([109,97,105,110],0,[[97],[98]],[eA y17])]))))) (Z (A.a,A.m)))) λr=>Z (cw r)))) (0,(0,20,aa,aa,aa,aa),y1,[[109,97,105,110],[116,49],[116,50],[116,51]],y2.2,(J,([]:Y ζ)),([]:Y yB)))))
def yX (x:η):M Ef:=
 (ay (pM x) λz=>(ay (rO z) λd=>(Z d.1)))
def tR (x:J!):M n!:=
 (ay (yX x.1) λA=>(ay (pN x.2) λz=>(ay (Bb (A,z)) λd=>(Z d.1))))
def oU (x:Unit):M ep:=
 (iter (σ:=E!) (λx1=>(bR x1.1 (aR (ah ([[109,97,105,110],[116,49],[116,50],[116,51]]))) (iter (σ:=E!) (λx2=>(bR x2.1 6 (bI (bh (ah x2.m+ah ([(x1.1,x2.1,(be .i64 ((be .i64 ((be .i64 (10*x1.1))+x2.1))+1)))])) 24) (c7 ((cS x2.1),x2.2.1,x2.a,x2.b,x2.c,x2.d,(x2.m++([(x1.1,x2.1,(be .i64 ((be .i64 ((be .i64 (10*x1.1))+x2.1))+1)))]))))) (aH (wF ((cS x1.1),x2.2))))) (0,x1.2)) (aH x1.2))) (0,[([120],0,0,aa,0),([121],0,0,aa,1),([118],0,0,J,0),([113],0,2,aa,0),([113],1,2,aa,0)],[([109],aa),([110],aa),([114],J)],[([99],0)],[[102]],[[109,97,105,110],[116,49],[116,50],[116,51]],([]:Y ν)))
def mm (x:P!):M η:=
 (iter (σ:=i?) (λx1=>(bR x1.1 (bc x.1.e) (jn (α:=η) (bY hJ x.1.e x1.1 λd=>(bn d.1 3 (bI (bh (ah x1.2+ah ([x1.1])) 8) (aH (x1.2++([x1.1])))) (aH x1.2))) λx2=>(c7 ((cS x1.1),x2))) (aH x1.2))) (0,([]:η)))
def uR (x:Unit):M η:=
 (Z ([3,3,3,3,3,4,4,4,4,4,5,5,5,6,6,6,7,7,7,8,9,10,11,12,13,14,14,15,16,16,17,17,18,18,19,20,1,1,2,21,22,23,23]))
def pH (x:Γ×u?):M J?:=
 (jn (bn x.1.1 3 (aH ((decide ((x.1.1:Int)=3)),x.2)) (aH ((decide ((x.1.1:Int)=4)),x.2))) λx1=>(aL x1.1 (ay (bV (8,x1.2)) λL=>(jZ aP ([0,0,0,1,1,2,3,4]) L.1 λN=>(Z (N,L.2)))) (jn (bn x.1.1 6 (aH ((decide ((x.1.1:Int)=6)),x1.2)) (aH ((decide ((x.1.1:Int)=7)),x1.2))) λz=>(aL z.1 (ay (bV (2,z.2)) λy5=>(Z y5)) (jn (bn x.1.1 8 (aH ((decide ((x.1.1:Int)=8)),z.2)) (bn x.1.1 9 (aH ((decide ((x.1.1:Int)=9)),z.2)) (bn x.1.1 10 (aH ((decide ((x.1.1:Int)=10)),z.2)) (aH ((decide ((x.1.1:Int)=11)),z.2))))) λd=>(aL d.1 (Z (2,d.2)) (jn (bn x.1.1 16 (aH ((decide ((x.1.1:Int)=16)),d.2)) (bn x.1.1 17 (aH ((decide ((x.1.1:Int)=17)),d.2)) (bn x.1.1 18 (aH ((decide ((x.1.1:Int)=18)),d.2)) (bn x.1.1 19 (aH ((decide ((x.1.1:Int)=19)),d.2)) (bn x.1.1 22 (aH ((decide ((x.1.1:Int)=22)),d.2)) (aH ((decide ((x.1.1:Int)=23)),d.2))))))) λA=>(aL A.1 (Z (0,A.2)) (jn (bn x.1.1 20 (aH ((decide ((x.1.1:Int)=20)),A.2)) (aH ((decide ((x.1.1:Int)=21)),A.2))) λD=>(aL D.1 (ay (bV (3,D.2)) λF=>(Z ((bJ (be .i64 ((cS x.1.2)+F.1)) 4),F.2))) (Z ((-1),D.2))))))))))))
def rI (x:(gz×Int×Int)×u?):M J?:=
 (bn x.1.2.1 3 (bY aP x.1.1.2.1 x.1.2.2 λL=>(Z (L,x.2))) (bn x.1.2.1 23 (bY aP x.1.1.a 0 λF=>(Z (F,x.2))) (jn (bn x.1.2.1 4 (aH ((decide ((x.1.2.1:Int)=4)),x.2,x.1.1)) (aH ((decide ((x.1.2.1:Int)=22)),x.2,x.1.1))) λd=>(aL d.1 (ay (bV (3,d.2.1)) λy4=>(Z y4)) (bn x.1.2.1 5 (ay (bV (2,d.2.1)) λy5=>(Z y5)) (bn x.1.2.1 18 (ay (mm d.2.2) λz=>(bR 0 (bc z) (ay (bV ((bc z),d.2.1)) λA=>(bY aP z A.1 λD=>(Z (D,A.2)))) (Z ((-1),d.2.1)))) (bn x.1.2.1 19 (ay (mm d.2.2) λN=>(Z ((bc N),d.2.1))) (Z (0,d.2.1)))))))))
def gR (x:iv×η):M (η×iv×η):=
 (iter (σ:=Int×iv×F?) (λx1=>(bR x1.1 (bc x.2) (jn (α:=iv×F?) (jZ aP x1.a x1.1 λz=>(jn (α:=Bool×iv×F?) (jR (bc x1.a) (be .i64 (x1.1+3)) (ay (bV (2,x1.2.1)) λA=>(aH ((decide ((A.1:Int)=1)),A.2,x1.2.2))) (aH (aa,x1.2))) λd=>(aL d.1 (bI (bh (ah d.e+ah ([z])) 8) (aH (d.2.1,d.a,(d.e++([z]))))) (aH d.2)))) λx2=>(c7 ((cS x1.1),x2))) (aH (x1.e,x1.2.1,x1.a)))) (0,x.1,x.2,([]:η)))
abbrev E?:=iv×(η)×(η)×(η)×(η)×gz×ep×F_×Int×o!
abbrev G!:=(η)×f?
def rJ (x:(gz×oN×nJ×(Y kF)×dC×dC×Y ν)×iv×G!):M (gh×iv×G!):=
 (ay (bV (4,x.2.1)) λD=>(ay (uR ()) λy2=>(ay (bV ((bc y2),D.2)) λy3=>(bY aP y2 y3.1 λz4=>(ay (bV (6,y3.2)) λy5=>(jn (α:=E?) (jn (α:=Bool×E?) (bn z4 1 (aH (J,y5.2,x.a,x.b,x.c,x.h,x.1.1,x.1.2,(0,0,0,0,0),D.1,z4,0,0,(be .i64 ((be .i64 (D.1*6))+y5.1)))) (aH ((decide ((z4:Int)=2)),y5.2,x.a,x.b,x.c,x.h,x.1.1,x.1.2,(0,0,0,0,0),D.1,z4,0,0,(be .i64 ((be .i64 (D.1*6))+y5.1))))) λF=>(aL F.1 (aH (F.2.1,F.a,F.b,F.c,F.d,F.f,F.i,F.k,F.o,F.l,F.n,F.j,(-1))) (aH F.2))) λA=>(ay (pH ((A.o,D.1),A.1)) λy8=>(ay (rI ((A.d,A.o,y8.1),y8.2)) λy9=>(jn (α:=iv×(η)×(η)×(η)×(η)×F_×Int×Int×Int×W?) (jn (bn A.o 5 (aH (J,y9.2,A.2.1,A.a,A.b,A.c,A.i,A.k,A.o,y8.1,y9.1,A.z)) (bn A.o 3 (bY mD A.f.1 y8.1 λz12=>(aH ((fM 0 z12.2.2.1),y9.2,A.2.1,A.a,A.b,A.c,A.i,A.k,A.o,y8.1,y9.1,A.z))) (bn A.o 4 (bY mD A.f.1 y8.1 λz13=>(aH ((fM 0 z13.2.2.1),y9.2,A.2.1,A.a,A.b,A.c,A.i,A.k,A.o,y8.1,y9.1,A.z))) (aH (aa,y9.2,A.2.1,A.a,A.b,A.c,A.i,A.k,A.o,y8.1,y9.1,A.z))))) λz=>(aL z.1 (bn D.1 0 (ay (gR (z.2.1,z.a)) λy14=>(bI (ax (ah z.a) (ah y14.2.2)&&J) (aH (y14.2.1,y14.2.2,z.b,z.c,z.d,z.f,z.i,z.k,z.o,z.l,z.w,y14.1)))) (bn D.1 1 (ay (gR (z.2.1,z.b)) λy15=>(bI (ax (ah z.b) (ah y15.2.2)&&J) (aH (y15.2.1,z.a,y15.2.2,z.c,z.d,z.f,z.i,z.k,z.o,z.l,z.w,y15.1)))) (bn D.1 2 (ay (gR (z.2.1,z.c)) λy16=>(bI (ax (ah z.c) (ah y16.2.2)&&J) (aH (y16.2.1,z.a,z.b,y16.2.2,z.d,z.f,z.i,z.k,z.o,z.l,z.w,y16.1)))) (bn D.1 3 (ay (gR (z.2.1,z.d)) λy17=>(bI (ax (ah z.d) (ah y17.2.2)&&J) (aH (y17.2.1,z.a,z.b,z.c,y17.2.2,z.f,z.i,z.k,z.o,z.l,z.w,y17.1)))) U)))) (aH (z.2.1,z.a,z.b,z.c,z.d,z.f,z.i,z.k,z.o,z.l,z.w,([]:η))))) λx10=>(jn (α:=iv×(η)×(η)×(η)×(η)×F_×c?) (jn (bn x10.i 4 (aH (J,x10)) (aH ((decide ((x10.i:Int)=22)),x10))) λd=>(aL d.1 (bn D.1 0 (ay (gR (d.2.1,d.a)) λy20=>(bI (ax (ah d.a) (ah y20.2.2)&&J) (aH (y20.2.1,y20.2.2,d.b,d.c,d.d,d.f,d.i,d.k,d.o,d.l,d.n,d.z,y20.1)))) (bn D.1 1 (ay (gR (d.2.1,d.b)) λy21=>(bI (ax (ah d.b) (ah y21.2.2)&&J) (aH (y21.2.1,d.a,y21.2.2,d.c,d.d,d.f,d.i,d.k,d.o,d.l,d.n,d.z,y21.1)))) (bn D.1 2 (ay (gR (d.2.1,d.c)) λy22=>(bI (ax (ah d.c) (ah y22.2.2)&&J) (aH (y22.2.1,d.a,d.b,y22.2.2,d.d,d.f,d.i,d.k,d.o,d.l,d.n,d.z,y22.1)))) (bn D.1 3 (ay (gR (d.2.1,d.d)) λN=>(bI (ax (ah d.d) (ah N.2.2)&&J) (aH (N.2.1,d.a,d.b,d.c,N.2.2,d.f,d.i,d.k,d.o,d.l,d.n,d.z,N.1)))) U)))) (aH (d.2.1,d.a,d.b,d.c,d.d,d.f,d.i,d.k,d.o,d.l,d.n,d.z,([]:η))))) λL=>(Z (L.m,L.1,L.2.1,L.a,L.b,L.c))))))))))))
abbrev l?:=iv×gz×ep×(η)×f?
abbrev R!:=Bool×l?
abbrev X!:=iv×gz×ep×(Y gh)×G!
def tL (x:(gz×ep×Int×Bool)×u?):M ((Y gh)×u?):=
 (bI (dj 0 (bc x.1.2.1.c)&&dj (bc x.1.2.1.c) (bc x.1.2.1.c)&&bh (aS (bc x.1.2.1.c)) 24&&decide (((bc x.1.2.1.c):Int)=4)) (jn (α:=l?) (bR 0 (aR 4) (jn (α:=l?) (jn (α:=R!) (aL x.1.e (bY aP x.1.1.e 0 λz4=>(bR 1 z4 (ay (bV (3,x.2)) λy5=>(aH ((decide ((y5.1:Int)=2)),y5.2,x.1.1,x.1.2.1,([]:η),([]:η),([]:η),([]:η)))) (aH (aa,x.2,x.1.1,x.1.2.1,([]:η),([]:η),([]:η),([]:η))))) (aH (aa,x.2,x.1.1,x.1.2.1,([]:η),([]:η),([]:η),([]:η)))) λx3=>(aL x3.1 (bI (bh (ah x3.c+ah ([1])) 8) (aH (x3.2.1,x3.a,x3.b,(x3.c++([1])),x3.h))) (aH x3.2))) λx2=>(bR 1 (aR 4) (jn (α:=l?) (jn (α:=R!) (aL x.1.e (bY aP x2.2.1.e 1 λz8=>(bR 1 z8 (ay (bV (3,x2.1)) λy9=>(aH ((decide ((y9.1:Int)=2)),y9.2,x2.2))) (aH (aa,x2)))) (aH (aa,x2))) λx7=>(aL x7.1 (bI (bh (ah x7.d+ah ([1])) 8) (aH (x7.2.1,x7.a,x7.b,x7.c,(x7.d++([1])),x7.m))) (aH x7.2))) λx6=>(bR 2 (aR 4) (jn (α:=l?) (jn (α:=R!) (aL x.1.e (bY aP x6.2.1.e 2 λz12=>(bR 1 z12 (ay (bV (3,x6.1)) λy13=>(aH ((decide ((y13.1:Int)=2)),y13.2,x6.2))) (aH (aa,x6)))) (aH (aa,x6))) λF=>(aL F.1 (bI (bh (ah F.f+ah ([1])) 8) (aH (F.2.1,F.a,F.b,F.c,F.d,(F.f++([1])),F.p))) (aH F.2))) λx10=>(bR 3 (aR 4) (jn (α:=l?) (jn (α:=R!) (aL x.1.e (bY aP x10.2.1.e 3 λz16=>(bR 1 z16 (ay (bV (3,x10.1)) λy17=>(aH ((decide ((y17.1:Int)=2)),y17.2,x10.2))) (aH (aa,x10)))) (aH (aa,x10))) λD=>(aL D.1 (bI (bh (ah D.p+ah ([1])) 8) (aH (D.2.1,D.a,D.b,D.c,D.d,D.f,(D.p++([1]))))) (aH D.2))) λN=>(bR 4 (aR 4) (jn (α:=l?) (jn (α:=R!) (aL x.1.e (bY aP N.2.1.e 4 λz20=>(bR 1 z20 (ay (bV (3,N.1)) λy21=>(aH ((decide ((y21.1:Int)=2)),y21.2,N.2))) (aH (aa,N)))) (aH (aa,N))) λx19=>(aL x19.1 U (aH x19.2))) λx18=>U) (aH N))) (aH x10))) (aH x6))) (aH x2))) (aH (x.2,x.1.1,x.1.2.1,([]:η),([]:η),([]:η),([]:η)))) λx1=>(iter (σ:=X!) (λx22=>(jn (bR (bc x22.b) x.1.a (aH ((fM x22.1.2 (bc x22.1.1)),x22)) (aH (aa,x22))) λz=>(aL z.1 (jn (α:=X!) (ay (rJ ((z.a,z.b),z.2.1,z.h)) λA=>(bI (ax (ah z.q) (ah A.h)&&(ax (ah z.i) (ah A.c)&&(ax (ah z.f) (ah A.b)&&(ax (ah z.d) (ah A.a)&&J)))) (ay (oV (z.b,z.a,A.1)) λy26=>(aL (!y26.2) (aH (A.2.1,z.a,z.b,z.c,A.2.2)) (jn (α:=iv×gz×ep×(Y gh)×gh×gz×G!) (jn (bn A.1.2.1 3 (aH (J,A.2.1,z.a,z.b,z.c,A.1,y26.1,A.2.2)) (aH ((decide ((A.1.2.1:Int)=23)),A.2.1,z.a,z.b,z.c,A.1,y26.1,A.2.2))) λd=>(aL d.1 (bn d.d.1 0 (bY aP d.a.e 0 λz29=>(bI (bh (ah d.i+ah ([z29])) 8) (aH (d.2.1,d.a,d.b,d.c,(0,d.d.2),d.f,(d.i++([z29])),d.q)))) (bn d.d.1 1 (bY aP d.a.e 1 λz30=>(bI (bh (ah d.k+ah ([z30])) 8) (aH (d.2.1,d.a,d.b,d.c,(1,d.d.2),d.f,d.i,(d.k++([z30])),d.t)))) (bn d.d.1 2 (bY aP d.a.e 2 λz31=>(bI (bh (ah d.o+ah ([z31])) 8) (aH (d.2.1,d.a,d.b,d.c,(2,d.d.2),d.f,d.i,d.k,(d.o++([z31])),d.y)))) (bn d.d.1 3 (bY aP d.a.e 3 λz32=>(bI (bh (ah d.y+ah ([z32])) 8) (aH (d.2.1,d.a,d.b,d.c,(3,d.d.2),d.f,d.i,d.k,d.o,(d.y++([z32])))))) U)))) (aH d.2))) λL=>(bI (bh (ah L.b+ah ([L.c])) 88) (aH (L.1,L.d,L.a,(L.b++([L.c])),L.m)))))))) λx24=>(c7 x24)) (aH (z.c,z.2.1))))) (x1.1,x1.2.1,x1.a,([]:Y gh),x1.e))))
abbrev T!:=iv×ep×gz×(Y gh)×Y gh
def rK (x:n?):M n!:=
 (jn (bR 600 (bc x.1) (bI (dj 0 600&&dj 600 (ah x.1)) (aH (dg (aS 600) x.1))) (aH x.1)) λx1=>(ay (oU ()) λy2=>(ay (oh y2) λy3=>(ay (bV (3,x1,0)) λy4=>(iter (σ:=Int×iv×ep×gz×Y gh) (λz=>(jR z.1 (be .i64 (1+y4.1)) (bI (bh (ah z.g+ah ([(0,20,z.1,0,0,([]:η),([]:η)),(z.1,1,(-1),0,(-1),([]:η),([]:η))])) 88) (c7 ((cS z.1),z.2.1,z.a,z.b,(z.g++([(0,20,z.1,0,0,([]:η),([]:η)),(z.1,1,(-1),0,(-1),([]:η),([]:η))]))))) (ay (iter (σ:=Int×T!) (λd=>(bR d.1 (bc z.g) (jn (α:=T!) (jZ gx d.c d.1 λD=>(ay (oV (d.a,d.b,D)) λN=>(aL N.2 (bI (bh (ah d.h+ah ([D])) 88) (aH (d.2.1,d.a,N.1,d.c,(d.h++([D]))))) (aH d.2)))) λx7=>(c7 ((cS d.1),x7))) (ay (ay (tL ((d.b,d.a,(Jb (oI x.2 0) 60),aa),d.2.1)) λA=>(bI (bh (ah d.h+ah A.1) 88) (ay (ol (d.a,(d.h++A.1))) λL=>(iK L.2 0 (ay (oU ()) λF=>(Z (F,([]:Y gh)))) (Z (d.a,(d.h++A.1))))))) λr=>Z (cw r)))) (0,z.2.1,z.a,z.b,z.g,([]:Y gh))) λr=>Z (cw r)))) (1,y4.2,y2,y3,[(0,1,(-1),0,(-1),([]:η),([]:η))]))))))
def mn (x:(η×(η)×η)×Int):M n!:=
 (bR 0 (bc x.1.2.2) (ay (rK (x.1.2.2,x.2)) λz=>(Z z)) (bI (dj 0 (Jb (bc x.1.2.1) x.2)&&dj (Jb (bc x.1.2.1) x.2) (ah x.1.2.1)) (ay (tR (x.1.1,(dg (aS (Jb (bc x.1.2.1) x.2)) x.1.2.1))) λd=>(Z d))))
def Ok (o:M R) (Q:R->Prop):Prop:=∃y,o=Z y/\Q y
def Ok.mono {o:M R} {Q Q':R->Prop} (h:Ok o Q) (d:∀y,Q y->Q' y):Ok o Q':=by obtain⟨y,h1,h2⟩:=h;exact⟨y,h1,d y h2⟩
def Ok.and {o:M R} {Q Q':R->Prop} (h:Ok o Q) (h':Ok o Q'):Ok o λy=>Q y/\Q' y:=by
 obtain⟨y,h1,h2⟩:=h;obtain⟨z,d,A⟩:=h';rw[h1]at d;cases d;exact⟨y,h1,h2,A⟩
def aj {y:R} {Q:R->Prop} (h:Q y):Ok (Z y) Q:=⟨y,rfl,h⟩
def aei {o:M R} {y:R} {Q:R->Prop} (e:o=Z y) (h:Q y):Ok o Q:=⟨y,e,h⟩
def a9 {k:M R} {Q:R->Prop} (h:b=J) (d:Ok k Q):Ok (chk b λ_=>k) Q:=by subst h;exact d
def aM {t f:M R} {Q:R->Prop} (ht:b=J->Ok t Q) (hf:b=aa->Ok f Q):Ok (aL b t f) Q:=by
 cases b with
 |true=>exact ht rfl
 |false=>exact hf rfl
def fy {t f:M R} {Q:R->Prop} (h:b=J) (ht:Ok t Q):Ok (aL b t f) Q:=by subst h;exact ht
def kH {t f:M R} {Q:R->Prop} (h:b=aa) (hf:Ok f Q):Ok (aL b t f) Q:=by subst h;exact hf
def aw {α:Type} {o:M α} {k:α->M R} {P:α->Prop} {Q:R->Prop} (h:Ok o P) (z:∀x,P x->Ok (k x) Q):Ok (ay o k) Q:=by
 obtain⟨x,rfl,d⟩:=h;exact z x d
def aQ {α:Type} {o:M α} {k:α->M R} {x:α} {Q:R->Prop} (h:o=Z x) (d:Ok (k x) Q):Ok (ay o k) Q:=by subst h;exact d
def aT {α:Type} {x:α} {k:α->M R} {Q:R->Prop} (h:Ok (k x) Q):Ok (lt x k) Q:=h
def aV {α:Type} {o:M (R⊕α)} {k:α->M R} {Q:R->Prop} (P:α->Prop) (h:Ok o λr=>match r with|.inl r=>Q r|.inr x=>P x) (z:∀x,P x->Ok (k x) Q):Ok (jn o k) Q:=by
 obtain⟨r,rfl,d⟩:=h;cases r with
 |inl r=>exact⟨r,rfl,d⟩
 |inr x=>exact z x d
def gk {α:Type} {o:M (R⊕α)} {k:α->M R} {Q:R->Prop} (h:Ok o λr=>match r with|.inl r=>Q r|.inr x=>Ok (k x) Q):Ok (jn o k) Q:=aV (λx=>Ok (k x) Q) h λ_ h=>h
def ait {α:Type} {a b:α} {r:M R} {Q:R->Prop} (e:a=b) (h:Ok r Q):Ok (same a b r) Q:=by unfold same;rw[aG e];exact h
def nL {σ:Type} {f:σ->M (σ⊕R)} {Q:R->Prop} (μ:σ->Nat) (I:σ->Prop) (h:∀x,I x->Ok (f x) λr=>match r with|.inl y=>I y/\μ y<μ x|.inr r=>Q r) {x:σ} (d:I x):Ok (iter f x) Q:=by
 have key:∀n x,μ x<n->I x->∃m r,iterN f m x=Z r/\Q r:=by
  intro n;induction n with
  |zero=>intro x hm;omega
  |succ n z=>
   intro x hm d;obtain⟨r,h1,h2⟩:=h x d;cases r with
   |inl y=>
    obtain⟨m,r,D,A⟩:=z y (by have:=h2.2;omega) h2.1;exact⟨m+1,r,by rw[iterN,h1];exact D,A⟩
   |inr r=>exact⟨1,r,by rw[iterN,h1],h2⟩
 obtain⟨m,r,h1,h2⟩:=key (μ x+1) x (nZ _) d;exact⟨r,Lz h1,h2⟩
def cC {σ:Type} {f:σ->M (σ⊕R)} {Q:R->Prop} (n:Nat) (I:Nat->σ->Prop) (h0:∀i x,i<n->I i x->Ok (f x) λr=>match r with|.inl y=>I (i+1) y|.inr r=>Q r) (h1:∀x,I n x->Ok (f x) λr=>match r with|.inl _=>False|.inr r=>Q r) {x:σ} (A:I 0 x):Ok (iter f x) Q:=by
 have key:∀m i x,i+m=n->I i x->∃k r,iterN f k x=Z r/\Q r:=by
  intro m;induction m with
  |zero=>
   intro i x hi A;have:i=n:=by omega
   subst this;obtain⟨r,z,d⟩:=h1 x A;cases r with
   |inl y=>exact d.elim
   |inr r=>exact⟨1,r,by rw[iterN,z],d⟩
  |succ m D=>
   intro i x hi A;obtain⟨r,z,d⟩:=h0 i x (by omega) A;cases r with
   |inl y=>
    obtain⟨k,r,L,F⟩:=D (i+1) y (by omega) d;exact⟨k+1,r,by rw[iterN,z];exact L,F⟩
   |inr r=>exact⟨1,r,by rw[iterN,z],d⟩
 obtain⟨m,r,z,d⟩:=key n 0 x (by omega) A;exact⟨r,Lz z,d⟩
variable {a:Int}
def E3 :fm a i=J↔0<=a/\a<i:=by simp[fm,dj,fM]
def qe {b:Int}:dj a b=J↔a<=b:=by simp[dj]
def mV {b:Int}:fM a b=J↔a<b:=by simp[fM]
def fH {b:Int}:fM a b=aa↔b<=a:=by simp[fM]
def ms {b:Int}:dj a b=aa↔b<a:=by simp[dj]
def BY :bh i j=J↔i<=1099511627776/\i*j<=1099511627776:=by simp[bh]
def cf {o:M R} {v:R} (h:Ok o (·=v)):o=Z v:=by obtain⟨y,h1,h2⟩:=h;rw[h1,h2]
section steps
variable {R:Type} {k t f:M R} {Q:R->Prop}
def aJ (h0:0<=a) (h1:a<i) (d:Ok k Q):Ok (chk (fm a i) λ_=>k) Q:=a9 (E3.2 ⟨h0,h1⟩) d
def a_ (h0:i<=1073741824) (h1:j<=1024) (d:Ok k Q):Ok (chk (bh i j) λ_=>k) Q:=
 a9 (BY.2 ⟨by omega,c9 (Nat.mul_le_mul h0 h1) (by omega)⟩) d
def a! {i j:Nat} (d:Ok k Q) (h:i<=1073741824:=by first|omega|(simp;omega)|(dsimp only;omega)) (g:j<=1024:=by omega):Ok (chk (bh i j) λ_=>k) Q:=a_ h g d
def c6 {a:Bool} (h:Ok (chk a λ_=>chk b λ_=>k) Q):Ok (chk (a&&b) λ_=>k) Q:=by
 cases a with
 |true=>exact h
 |false=>obtain⟨y,h,_⟩:=h;cases h
def dm {b:Int} (h:a<=b) (d:Ok k Q):Ok (chk (dj a b) λ_=>k) Q:=a9 (qe.2 h) d
def a? {a b:Int} (d:Ok k Q) (h:a<=b:=by first|omega|(simp;omega)|(dsimp only;omega)):Ok (chk (dj a b) λ_=>k) Q:=dm h d
def te {b:Int} (h:a<b) (d:Ok k Q):Ok (chk (fM a b) λ_=>k) Q:=a9 (mV.2 h) d
def QY {p:Prop} {i:Decidable p} (h:p) (d:Ok k Q):Ok (chk (decide p) λ_=>k) Q:=a9 (bj h) d
def xO {p:Prop} {i:Decidable p} (h:¬p) (d:Ok k Q):Ok (chk (!decide p) λ_=>k) Q:=a9 (by simp[h]) d
def mP (h:i=j) (d:Ok k Q):Ok (chk (ax i j) λ_=>k) Q:=a9 (by subst h;exact eP i) d
def CY (d:Ok k Q):Ok (chk J λ_=>k) Q:=d
def aW {b:Int} (ht:a<b->Ok t Q) (hf:b<=a->Ok f Q):Ok (aL (fM a b) t f) Q:=aM (λh=>ht (mV.1 h)) (λh=>hf (fH.1 h))
def dW {b:Int} (ht:a<=b->Ok t Q) (hf:b<a->Ok f Q):Ok (aL (dj a b) t f) Q:=aM (λh=>ht (qe.1 h)) (λh=>hf (ms.1 h))
def aK {p:Prop} {i:Decidable p} (ht:p->Ok t Q) (hf:¬p->Ok f Q):Ok (aL (decide p) t f) Q:=aM (λh=>ht (bl h)) (λh=>hf (kG h))
def cj {p:Prop} {i:Decidable p} (ht:¬p->Ok t Q) (hf:p->Ok f Q):Ok (aL (!decide p) t f) Q:=aM (λh=>ht (by simpa using h)) (λh=>hf (by simpa using h))
def di (ht:b=aa->Ok t Q) (hf:b=J->Ok f Q):Ok (aL (!b) t f) Q:=aM (λh=>ht (by simpa using h)) (λh=>hf (by simpa using h))
def uA (ht:Ok t Q):Ok (aL J t f) Q:=ht
def hX (hf:Ok f Q):Ok (aL aa t f) Q:=hf
def eQ (d:Ok k Q) (h0:0<=a:=by first|omega|(dsimp only;omega)) (h1:a<i:=by first|omega|(dsimp only;omega)):Ok (chk (fm a i) λ_=>k) Q:=aJ h0 h1 d
def gQ {b:Int} (ht:Ok t Q) (h:a<b:=by first|omega|(dsimp only[ak];omega)):Ok (aL (fM a b) t f) Q:=aW (λ_=>ht) λg=>cN h (Int.not_lt.2 g)
def gC {b:Int} (hf:Ok f Q) (h:b<=a:=by first|omega|(dsimp only[ak];omega)):Ok (aL (fM a b) t f) Q:=aW (λg=>cN g (Int.not_lt.2 h)) λ_=>hf
end steps
def pE:(∀(p:Prop) [Decidable p],(decide p=J)=p)/\(∀p:Prop,(True\/p)=True)/\(∀p:Prop,(p\/True)=True)/\(∀p:Prop,(True->p)=p)/\(∀p:Prop,(True/\p)=p)/\∀p:Prop,(p/\True)=p:=⟨λ_=>bB,true_or,or_true,λ_=>true_implies _,true_and,and_true⟩
def lX:(∀i:Decidable True,@decide True i=J)/\(∀i:Decidable False,@decide False i=aa)/\(∀{R:Type} (t f:M R),aL J t f=t)/\(∀{R:Type} (t f:M R),aL aa t f=f)/\(∀{α R:Type} (x:α) (k:α->M R),jn (Z (.inr x)) k=k x)/\(∀{α R:Type} (r:R) (k:α->M R),jn (Z (.inl r)) k=Z r)/\(∀{α R:Type} (x:α) (k:α->M R),ay (Z x) k=k x)/\(∀{α R:Type} (x:α) (k:α->M R),lt x k=k x)/\(!J)=aa/\(!aa)=J:=⟨aht,Z3,λ_ _=>rfl,λ_ _=>rfl,λ_ _=>rfl,λ_ _=>rfl,λ_ _=>rfl,λ_ _=>rfl,rfl,rfl⟩
structure IM (p q:Prop):Prop where
 h:p->q
inductive OS {R:Type}:Option R->(R->Prop)->Prop where
 |cand {a b:Bool} {k:Option R} {Q:R->Prop} (h:Ok (chk a λ_=>chk b λ_=>k) Q):OS (chk (a&&b) λ_=>k) Q
 |fm {j:Int} {n:Nat} {k:Option R} {Q:R->Prop} (h0:0<=j) (h1:j<n) (hk:Ok k Q):OS (chk (fm j n) λ_=>k) Q
 |room {n b:Nat} {k:Option R} {Q:R->Prop} (h0:n<=1073741824) (h1:b<=1024) (hk:Ok k Q):OS (chk (bh n b) λ_=>k) Q
 |cile {a b:Int} {k:Option R} {Q:R->Prop} (h:a<=b) (hk:Ok k Q):OS (chk (dj a b) λ_=>k) Q
 |cilt {a b:Int} {k:Option R} {Q:R->Prop} (h:a<b) (hk:Ok k Q):OS (chk (fM a b) λ_=>k) Q
 |cdec {p:Prop} {i:Decidable p} {k:Option R} {Q:R->Prop} (h:p) (hk:Ok k Q):OS (chk (decide p) λ_=>k) Q
 |cndec {p:Prop} {i:Decidable p} {k:Option R} {Q:R->Prop} (h:¬p) (hk:Ok k Q):OS (chk (!decide p) λ_=>k) Q
 |cbeq {a b:Nat} {k:Option R} {Q:R->Prop} (h:a=b) (hk:Ok k Q):OS (chk (ax a b) λ_=>k) Q
 |cT {k:Option R} {Q:R->Prop} (hk:Ok k Q):OS (chk J λ_=>k) Q
 |lt {α:Type} {x:α} {k:α->Option R} {Q:R->Prop} (h:Ok (k x) Q):OS (lt x k) Q
 |b1 {t f:Option R} {Q:R->Prop} (h:Ok t Q):OS (aL J t f) Q
 |b0 {t f:Option R} {Q:R->Prop} (h:Ok f Q):OS (aL aa t f) Q
 |fM {a b:Int} {t f:Option R} {Q:R->Prop} (ht:IM (a<b) (Ok t Q)) (hf:IM (b<=a) (Ok f Q)):OS (aL (fM a b) t f) Q
 |dj {a b:Int} {t f:Option R} {Q:R->Prop} (ht:IM (a<=b) (Ok t Q)) (hf:IM (b<a) (Ok f Q)):OS (aL (dj a b) t f) Q
 |dec {p:Prop} {i:Decidable p} {t f:Option R} {Q:R->Prop} (ht:IM p (Ok t Q)) (hf:IM (¬p) (Ok f Q)):OS (aL (decide p) t f) Q
 |ndec {p:Prop} {i:Decidable p} {t f:Option R} {Q:R->Prop} (ht:IM (¬p) (Ok t Q)) (hf:IM p (Ok f Q)):OS (aL (!decide p) t f) Q
 |not {b:Bool} {t f:Option R} {Q:R->Prop} (ht:IM (b=aa) (Ok t Q)) (hf:IM (b=J) (Ok f Q)):OS (aL (!b) t f) Q
 |aL {b:Bool} {t f:Option R} {Q:R->Prop} (ht:IM (b=J) (Ok t Q)) (hf:IM (b=aa) (Ok f Q)):OS (aL b t f) Q
 |jc {α:Type} {o:Option (R⊕α)} {k:α->Option R} {Q:R->Prop} (h:Ok o λr=>match r with|.inl r=>Q r|.inr x=>Ok (k x) Q):OS (jn o k) Q
 |some {y:R} {Q:R->Prop} (h:Q y):OS (Z y) Q
def OS.ok {o:M R} {Q:R->Prop} (h:OS o Q):Ok o Q:=by
 cases h with
 |cand h=>exact c6 h
 |fm a b h=>exact aJ a b h
 |room a b h=>exact a_ a b h
 |cile a h=>exact dm a h
 |cilt a h=>exact te a h
 |cdec a h=>exact QY a h
 |cndec a h=>exact xO a h
 |cbeq a h=>exact mP a h
 |cT h|lt h|b1 h|b0 h=>exact h
 |fM a b=>exact aW a.h b.h
 |dj a b=>exact dW a.h b.h
 |dec a b=>exact aK a.h b.h
 |ndec a b=>exact cj a.h b.h
 |not a b=>exact di a.h b.h
 |aL a b=>exact aM a.h b.h
 |jc h=>
  obtain⟨r,e,h⟩:=h;exact gk ⟨r,e,by cases r<;>exact h⟩
 |some h=>exact aj h
def bcT (t f:M R):aL J t f=t:=rfl
def bcF (t f:M R):aL aa t f=f:=rfl
def jnr {α:Type} (x:α) (k:α->M R):jn (Z (.inr x)) k=k x:=rfl
def Wn {α:Type} (x:α) (k:α->M R):ay (Z x) k=k x:=rfl
inductive JZ:Int->Prop where
 |k1:JZ 1
 |k2:JZ 2
 |k3:JZ 3
 |k4:JZ 4
 |k5:JZ 5
 |k6:JZ 6
 |k7:JZ 7
 |k8:JZ 8
 |k9:JZ 9
 |k10:JZ 10
 |k11:JZ 11
 |k12:JZ 12
 |k13:JZ 13
 |k14:JZ 14
 |k15:JZ 15
 |k16:JZ 16
 |k17:JZ 17
 |k18:JZ 18
 |k19:JZ 19
 |k20:JZ 20
 |k21:JZ 21
 |k22:JZ 22
 |k23:JZ 23
 |no {k:Int} (h:¬k=1/\¬k=2/\¬k=3/\¬k=4/\¬k=5/\¬k=6/\¬k=7/\¬k=8/\¬k=9/\¬k=10/\¬k=11/\¬k=12/\¬k=13/\¬k=14/\¬k=15/\¬k=16/\¬k=17/\¬k=18/\¬k=19/\¬k=20/\¬k=21/\¬k=22/\¬k=23) (h2:k<1\/23<k):JZ k
def kdI (k:Int):JZ k:=by
 by_cases h:k<1\/23<k
 .exact .no (by omega) h
 .have:k=1\/k=2\/k=3\/k=4\/k=5\/k=6\/k=7\/k=8\/k=9\/k=10\/k=11\/k=12\/k=13\/k=14\/k=15\/k=16\/k=17\/k=18\/k=19\/k=20\/k=21\/k=22\/k=23:=by omega
  repeat' (rcases this with rfl|this)
  all_goals first|(subst this;constructor)|constructor
def ic {n:Int} (h0: -9223372036854775808<=n:=by omega) (h1:n<=9223372036854775807:=by omega):be .i64 n=n:=by
 rw[J5];unfold Pb;simp[dj,h0,h1]
def fA (h:i<9223372036854775807:=by omega):be .i64 ((i:Int)+1)=((i+1:Nat):Int):=by rw[ic];omega
variable {T:Ty}
def Oy (xs:Y T.den) (i:Nat):geti _ xs (i:Int)=xs.getD i T.zero:=by unfold geti;simp
def AG (xs:η) (i:Nat):geti aP xs (i:Int)=xs.getD i 0:=Oy (T:=aP) xs i
def bZ {xs:Y T.den} {j:Int} (h0:0<=j) (h1:j<l! xs):geti _ xs j∈xs:=by
 unfold geti;rw[aB,aD (by omega)];exact wJ _
def cR (xs:Y R) (j:Int) (x:R):l! (cJ xs j x)=l! xs:=by unfold cJ;simp
def Eu {xs:Y R} {x y:R} (h:y∈cJ xs a x):y∈xs\/y=x:=O_ h
def dO {σ:Type} {f:σ->M (σ⊕R)} {Q:R->Prop} (n:Nat) (N:n<=1000000) (I:Nat->σ->Prop) (h0:∀i x,i<n->I i x->Ok (f x) λr=>match r with|.inl y=>I (i+1) y|.inr r=>Q r) (h1:∀x,I n x->Ok (f x) λr=>match r with|.inl _=>False|.inr r=>Q r) {x:σ} (A:I 0 x):Ok (hZ f x) Q:=by
 have key:∀m i x,i+m=n->I i x->∃r,iterN f (m+1) x=Z r/\Q r:=by
  intro m;induction m with
  |zero=>
   intro i x hi A;have:i=n:=by omega
   subst this;obtain⟨r,z,d⟩:=h1 x A;cases r with
   |inl y=>exact d.elim
   |inr r=>exact⟨r,by rw[iterN,z],d⟩
  |succ m D=>
   intro i x hi A;obtain⟨r,z,d⟩:=h0 i x (by omega) A;cases r with
   |inl y=>
    obtain⟨r,L,F⟩:=D (i+1) y (by omega) d;exact⟨r,by rw[iterN,z];exact L,F⟩
   |inr r=>exact⟨r,xZ (n:=1) (by rw[iterN,z]) (by omega),d⟩
 obtain⟨r,z,d⟩:=key n 0 x (by omega) A;exact⟨r,xZ z (by omega),d⟩
abbrev WT:Type:=Y (ζ×Int×Int×Bool×Int)×Y (ζ×Bool)×Y (ζ×Int)×Y ζ×Y ζ×Y ν
abbrev SY:Type:=Y (Int×η)×Int×θ×Y (Int×Int×Bool)
def TN (a b:Int):rM (a,b)=Z (decide (0<=a/\a<b)):=by
 refine cf ?_;unfold rM jR aH;with_reducible repeat' first|apply OS.ok;constructor|refine IM.mk λ_=>?_
 .by_cases h:a<b<;>simp[*,fM]
 .simp;omega
def Nz (l:η) (n:Int) (D:l! l<=1000000):pI (l,n)=Z (l.contains n):=by
 refine cf ?_;unfold pI bn bR bY bc c7 aH cS;refine cC (l! l) (λi x=>x=(i:Int)/\∀k,k<i->l.getD k 0≠n) ?_ ?_ ⟨rfl,λk d=>by omega⟩
 .rintro i x hi ⟨rfl,z⟩;with_reducible repeat' first|apply OS.ok;constructor|refine IM.mk λ_=>?_
  all_goals try simp only[ak,pE] at*
  .omega
  .omega
  .rename_i h;rw[AG]at h;show J=_
   symm
   rw[uw,<-h,aB,aD hi];exact wJ _
  .rename_i h;rw[AG]at h;refine ⟨fA,λk d=>?_⟩;rcases bu k i with h1|h1
   .exact z k h1
   .rw[show k=i by omega];exact h
  .omega
 .rintro x ⟨rfl,z⟩;with_reducible repeat' first|apply OS.ok;constructor|refine IM.mk λ_=>?_
  all_goals try simp only[ak,pE] at*
  .omega
  .omega
  .omega
  .omega
  .symm
   rw[Bool.eq_false_iff];intro A;rw[uw]at A;obtain⟨k,d,he⟩:=xB A;exact z k d (by rw[aB,aD d];exact he)
def iS {xs:Y T.den} {p:T.den->Prop} (h:∀k:Nat,k<ah xs->p (geti _ xs (k:Int))):∀c∈xs,p c:=λc z=>by
 obtain⟨k,d,he⟩:=xB z;have:=h k d;rw[Oy,aB,aD d,nY,he]at this;exact this
def Sr (w:WT) (s:SY) (N:l! w.2.2.1<=1000000):Ok (oY (w,s)) λb=>b=J->(∀c∈w.2.2.1,0<=c.2/\c.2<l! w.2.1)/\l! s.1=l! w.2.1/\l! s.2.2.1=l! w.2.2.2.1/\l! s.2.2.2=l! w.2.2.2.2.1:=by
 unfold oY aY bi bt cY bn bR bY bc c7 aH cS;refine cC (l! w.2.2.1) (λi x=>x.1=(i:Int)/\x.2=(w,s)/\∀k:Nat,k<i->0<=(geti nK w.2.2.1 (k:Int)).2/\(geti nK w.2.2.1 (k:Int)).2<l! w.2.1) ?_ ?_ ⟨rfl,rfl,λk D=>by omega⟩
 .rintro i ⟨x1,x2⟩ hi ⟨z,d,A⟩;dsimp only at z d;subst z d;with_reducible repeat' first|apply OS.ok;constructor|refine IM.mk λ_=>?_
  all_goals try simp only[ak,pE] at*
  all_goals first|omega|skip
  .intro h;cases h
  .intro h;cases h
  .refine ⟨fA,λk D=>?_⟩;rcases bu k i with h1|h1
   .exact A k h1
   .rename_i h2 L;rw[show k=i by omega];exact⟨h2,L⟩
 .rintro⟨x1,x2⟩ ⟨z,d,A⟩;dsimp only at z d;subst z d;with_reducible repeat' first|apply OS.ok;constructor|refine IM.mk λ_=>?_
  all_goals try simp only[ak,pE] at*
  all_goals first|omega|skip
  refine aw (P:=λb=>b=J->l! s.1=l! w.2.1/\l! s.2.2.1=l! w.2.2.2.1/\l! s.2.2.2=l! w.2.2.2.2.1) ?_ ?_
  .with_reducible repeat' first|apply OS.ok;constructor|refine IM.mk λ_=>?_
   all_goals try simp only[ak,pE] at*
   .intro h;omega
   .intro h;cases h
   .intro h;cases h
  .intro b F;with_reducible repeat' first|apply OS.ok;constructor|refine IM.mk λ_=>?_
   exact λh=>⟨iS (T:=nK) A,F h⟩
structure NM (w:WT) (k o:Int):Prop where
 k1:1<=k
 k2:k<=23
 ce:k=3\/k=4->0<=o/\o<l! w.1
 lk:6<=k/\k<=11->0<=o/\o<l! w.2.1
 cd:16<=k/\k<=19->0<=o/\o<l! w.2.2.1
 th:k=20\/k=21->0<=o/\o<l! w.2.2.2.2.1
 fu:k=22\/k=23->0<=o/\o<l! w.2.2.2.1
 no:k=1\/k=2\/k=5\/(12<=k/\k<=15)->o= -1
 mu:k=6\/k=7->(geti s7 w.2.1 o).2=aa
 rw:8<=k/\k<=11->(geti s7 w.2.1 o).2=J
def ael (w:WT) (k o:Int):Ok (qM (w,k,o)) λb=>b=J->NM w k o:=by
 unfold qM aY bi bt b7 bn bY bc aH;cases kdI k
 case no d _=>
  simp only[d,aX,aU,lX];exact aj nofun
 all_goals simp only[aX,aU,lX,TN]
 all_goals with_reducible repeat' first|apply OS.ok;constructor|refine IM.mk λ_=>?_
 all_goals try simp only[ak,pE] at*
 all_goals first|omega|(intro h;cases h;done)|(intro h;constructor<;>first|omega|(intro h2;first|omega|(simpa using h)))
structure SB (n:Nat) (s:SY):Prop where
 n1:n<=100000
 lk:l! s.1<=1000
 rd:∀l∈s.1,l! l.2<=n
 dn:l! s.2.2.1<=1000
 th:l! s.2.2.2<=1000
structure EN (w:WT) (s:SY) (t k o:Int):Prop where
 nm:NM w k o
 t0:0<=t
 t1:t<l! w.2.2.2.2.1
 cd:∀c∈w.2.2.1,0<=c.2/\c.2<l! w.2.1
 e1:l! s.1=l! w.2.1
 e2:l! s.2.2.1=l! w.2.2.2.1
 e3:l! s.2.2.2=l! w.2.2.2.2.1
structure IV (w:WT) (s:SY) (t k o:Int):Prop where
 b:k=1->(geti hJ s.2.2.2 t).1=1
 wk:k=17->(geti hJ s.2.2.2 t).1=4/\(geti hJ s.2.2.2 t).2.1=o/\(geti dF s.1 (geti nK w.2.2.1 o).2).1= -1
 r:k≠1->k≠17->(geti hJ s.2.2.2 t).1=2
 aq:k=6\/k=8\/k=10->(geti dF s.1 o).1= -1
 wr:k=10->(geti dF s.1 o).2.length=0
 ra:k=8->(geti dF s.1 o).2.contains t=aa
 rl:k=7\/k=11->(geti dF s.1 o).1=t
 rr:k=9->(geti dF s.1 o).2.contains t=J
 xb:k=12->s.2.1= -1
 xe:k=13->s.2.1=t
 ab:k=14->(geti hJ s.2.2.2 t).2.2=aa
 ae:k=15->(geti hJ s.2.2.2 t).2.2=J
 nt:k=16\/k=18\/k=19->(geti dF s.1 (geti nK w.2.2.1 o).2).1=t
 sp:k=20->¬o=t/\(geti hJ s.2.2.2 o).1=0
 jo:k=21->¬o=t/\(geti hJ s.2.2.2 o).1=5
 se:k=22->geti (.bool) s.2.2.1 o=aa
 ge:k=23->geti (.bool) s.2.2.1 o=J
def NC (w:WT) (s:SY) (A:SB i s) (hw:l! w.2.2.1<=1000) (t k o:Int):Ok (iZ (w,s,t,k,o)) λb=>b=J->EN w s t k o/\IV w s t k o:=by
 unfold iZ aY bi bt bN cW cY bn iK bY bc aH;refine aV (λx=>x.2=(w,s)/\(x.1=aa->EN w s t k o)) ?_ ?_
 .refine aw (Sr w s (by omega)) λb F=>?_
  with_reducible repeat' first|apply OS.ok;constructor|refine IM.mk λ_=>?_
  .exact⟨rfl,nofun⟩
  .simp only[TN,Wn];with_reducible repeat' first|apply OS.ok;constructor|refine IM.mk λ_=>?_
   .exact⟨rfl,nofun⟩
   .refine aw (ael w k o) λc D=>?_
    with_reducible repeat' first|apply OS.ok;constructor|refine IM.mk λ_=>?_
    all_goals try simp only[ak,pE] at*
    rename_i h1 h2;obtain⟨f1,f2,f3,N⟩:=F h1;exact λh=>⟨D (by simpa using h),by omega,by omega,f1,f2,f3,N⟩
 .rintro⟨x1,x2⟩ ⟨d,z⟩;dsimp only at d z;subst d;refine aM (λh=>aj λh=>by cases h) (λh=>?_);have he:=z h;obtain⟨nm,t0,t1,cd,e1,e2,e3⟩:=id he;obtain⟨_,_,ce,lk,cn,th,fu⟩:=nm;have hm:16<=k/\k<=19->0<=(geti nK w.2.2.1 o).2/\(geti nK w.2.2.1 o).2<l! w.2.1:=λh=>cd _ (bZ (cn h).1 (cn h).2)
  have L:6<=k/\k<=11->pI ((geti dF s.1 o).2,t)=Z ((geti dF s.1 o).2.contains t):=λh=>Nz _ _ (by
   have:=A.rd _ (bZ (T:=dF) (lk h).1 (by have:=(lk h).2;omega));have:=A.n1;omega)
  cases kdI k
  case no hk _=>omega
  all_goals simp only[aX,aU,lX]
  all_goals with_reducible repeat' first|apply OS.ok;constructor|refine IM.mk λ_=>?_
  all_goals try simp only[L (by omega),Wn]
  all_goals with_reducible repeat' first|apply OS.ok;constructor|refine IM.mk λ_=>?_
  all_goals try simp only[ak,pE] at*
  all_goals first|omega|(intro h;cases h;done)|exact (hm ⟨by decide,by decide⟩).1|(rw [e1];exact (hm ⟨by decide,by decide⟩).2)|(intro h;refine ⟨he,?_⟩;constructor<;>first|omega|(intros;first|omega|assumption|(simpa using h)|exact⟨by assumption,by first|assumption|exact⟨by assumption,by assumption⟩⟩))|(refine ⟨he,?_⟩;constructor<;>first|omega|(intros;first|omega|assumption))
def m_:η->Int->η
 |[],n=>[n]
 |x::r,n=>if x<n then x::m_ r n else if x=n then x::r else n::x::r
def Gu (n:Int):∀(i:Nat) (l:η),i<=l! l->(∀k,k<i->l.getD k 0<n)->m_ l n=l.take i++m_ (l.drop i) n
 |0,l,_,_=>by simp
 |i+1,[],h,_=>by simp at h
 |i+1,x::r,h,d=>by
  have h0:=d 0 (by omega);simp at h0;have:=Gu n i r (by simpa using h) (λk z=>by have:=d (k+1) (by omega);simpa using this);rw[m_,aG h0,this,xA,xD,iE]
def HR (n:Int):∀l:η,l! (m_ l n)<=l! l+1
 |[]=>by simp[m_]
 |x::r=>by
  have:=HR n r;rw[m_];split
  .simp;omega
  .split<;>simp
def KU {n y:Int}:∀{l:η},y∈m_ l n↔y=n\/y∈l
 |[]=>by simp[m_]
 |x::r=>by
  have:=KU (n:=n) (y:=y) (l:=r);rw[m_];split
  .simp[this];constructor
   .rintro (h|h|h)<;>simp[h]
   .rintro (h|h|h)<;>simp[h]
  .split
   .rename_i h;subst h;simp
   .simp
def AL:η->Prop
 |[]=>True
 |x::r=>(∀y∈r,x<y)/\AL r
def Tp :∀{l:η},AL l->AL (m_ l a)
 |[],_=>by simp[m_,AL]
 |x::r,h=>by
  rw[m_];split
  .rename_i z;refine ⟨λy d=>?_,Tp h.2⟩;rcases KU.1 d with rfl|d
   .exact z
   .exact h.1 y d
  .split
   .exact h
   .rename_i h1 h2;refine ⟨λy d=>?_,h⟩;rcases bm.1 d with rfl|d
    .omega
    .have:=h.1 y d;omega
def ah2 (l:η) (n:Int) (L:l! l<=1000000):xV (l,n)=Z (m_ l n):=by
 refine cf ?_;unfold xV bR bI bY bc c7 aH cS;have fin:∀i:Nat,i<=l! l->(∀k,k<i->l.getD k 0<n)->(i<l! l->¬l.getD i 0<n/\l.getD i 0≠n)->l.take i++[n]++l.drop i=m_ l n:=λi hi D F=>by
  rw[Gu n i l hi D];cases hd:l.drop i with
  |nil=>simp[m_]
  |cons y r=>
   have hlt:i<l! l:=by
    rcases bu i (l! l) with h|h
    .exact h
    .rw[List.drop_eq_nil_of_le h]at hd;cases hd
   have z:l.getD i 0=y:=by
    rw[aB,<-List.head?_drop,hd];rfl
   obtain⟨h1,h2⟩:=F hlt;rw[z]at h1 h2;rw[m_,aA h1,aA h2];simp
 refine cC (l! l) (λi x=>x=(i:Int)/\∀k,k<i->l.getD k 0<n) ?_ ?_ ⟨rfl,λk D=>by omega⟩
 .rintro i x hi ⟨rfl,d⟩;by_cases hlt:l.getD i 0<n
  .with_reducible repeat' first|apply OS.ok;constructor|refine IM.mk λ_=>?_
   all_goals try simp only[ak,pE] at*
   all_goals first|omega|skip
   .refine ⟨fA,λk D=>?_⟩;rcases bu k i with h1|h1
    .exact d k h1
    .rw[show k=i by omega];exact hlt
   .rename_i h;exact cN hlt (Int.not_lt.2 h)
  .have key:l.getD i 0=n->m_ l n=l:=λhe=>by
    rw[Gu n i l (by omega) d];cases hd:l.drop i with
    |nil=>have:=ey ah hd;simp at this;omega
    |cons y r=>
     have z:l.getD i 0=y:=by rw[aB,<-List.head?_drop,hd];rfl
     rw[z]at he;rw[m_,aA (by omega),aG he,<-hd,List.take_append_drop]
   with_reducible repeat' first|apply OS.ok;constructor|refine IM.mk λ_=>?_
   all_goals try simp only[ak,pE] at*
   all_goals first|omega|skip
   .rename_i h;exact cN h hlt
   .refine aw (P:=λr=>r=m_ l n) ?_ λr A=>aj A
    with_reducible repeat' first|apply OS.ok;constructor|refine IM.mk λ_=>?_
    all_goals try simp only[ak,pE] at*
    all_goals first|omega|skip
    .rename_i h;exact (key h).symm
    .simp;omega
    .simp;omega
    .simp;omega
    .rename_i h;simpa using fin i (by omega) d (λ_=>⟨hlt,h⟩)
 .rintro x ⟨rfl,d⟩;with_reducible repeat' first|apply OS.ok;constructor|refine IM.mk λ_=>?_
  all_goals try simp only[ak,pE] at*
  all_goals first|omega|skip
  refine aw (P:=λr=>r=m_ l n) ?_ λr A=>aj A
  with_reducible repeat' first|apply OS.ok;constructor|refine IM.mk λ_=>?_
  all_goals try simp only[ak,pE] at*
  all_goals first|omega|skip
  .simp;omega
  .simp;omega
  .simp;omega
  .simpa using fin (l! l) (by omega) d (λh=>by omega)
def sA (a b:η):η:=b.foldl m_ (a.foldl m_ [])
def yd:∀(b acc:η),l! (b.foldl m_ acc)<=l! acc+l! b
 |[],acc=>by simp
 |x::r,acc=>by
  have:=yd r (m_ acc x);have:=HR x acc;rw[ub,bX];omega
def L6:∀{b acc:η},AL acc->AL (b.foldl m_ acc)
 |[],_,h=>h
 |x::r,acc,h=>by rw[ub];exact L6 (Tp h)
def L5 :∀{b acc:η},a∈b.foldl m_ acc↔a∈acc\/a∈b
 |[],acc=>by simp
 |x::r,acc=>by
  rw[ub,L5,KU];simp;constructor
  .rintro ((h|h)|h)<;>simp[h]
  .rintro (h|h|h)<;>simp[h]
def SL (a b:η):AL (sA a b):=L6 (L6 trivial)
variable {A:η}
def SK {b:η} {y:Int}:y∈sA A b↔y∈A\/y∈b:=by unfold sA;rw[L5,L5];simp
def adl (a b:η):l! (sA a b)<=l! a+l! b:=by
 have:=yd b (a.foldl m_ []);have:=yd a [];unfold sA;simp at *;omega
def PR {acc:η} (hi:i<l! A):(A.take (i+1)).foldl m_ acc=m_ ((A.take i).foldl m_ acc) (A.getD i 0):=by
 rw[pV hi,gW,aB,aD hi];rfl
def VZ (a b:η) (D:l! a<=400000) (A:l! b<=400000):sP (a,b)=Z (sA a b):=by
 refine cf ?_;unfold sP bR bY bc c7 aH cS;refine cC (l! a) (λi x=>x.2=(i:Int)/\x.1=(a.take i).foldl m_ []) ?_ ?_ ⟨rfl,rfl⟩
 .rintro i ⟨x1,x2⟩ hi ⟨h1,h2⟩;dsimp only at h1 h2;subst h1 h2;have d:l! ((a.take i).foldl m_ [])<=1000000:=by have:=yd (a.take i) [];have:=gK i a;simp at *;omega
  with_reducible repeat' first|apply OS.ok;constructor|refine IM.mk λ_=>?_
  all_goals try simp only[ak,pE] at*
  all_goals first|omega|skip
  refine aQ (ah2 _ _ d) (aj ?_);dsimp only;refine ⟨fA,?_⟩;rw[AG,PR hi]
 .rintro⟨x1,x2⟩ ⟨h1,h2⟩;dsimp only at h1 h2;subst h1 h2;rw[bW];have hla:=yd a [];with_reducible repeat' first|apply OS.ok;constructor|refine IM.mk λ_=>?_
  all_goals try simp only[ak,pE] at*
  all_goals first|omega|skip
  refine aw (P:=λr=>r=sA a b) ?_ λr z=>aj z
  refine cC (l! b) (λi x=>x.2=(i:Int)/\x.1=(b.take i).foldl m_ (a.foldl m_ [])) ?_ ?_ ⟨rfl,rfl⟩
  .rintro i ⟨x1,x2⟩ hi ⟨h1,h2⟩;dsimp only at h1 h2;subst h1 h2;have d:l! ((b.take i).foldl m_ (a.foldl m_ []))<=1000000:=by have:=yd (b.take i) (a.foldl m_ []);have:=gK i b;simp at *;omega
   with_reducible repeat' first|apply OS.ok;constructor|refine IM.mk λ_=>?_
   all_goals try simp only[ak,pE] at*
   all_goals first|omega|skip
   refine aQ (ah2 _ _ d) (aj ?_);dsimp only;refine ⟨fA,?_⟩;rw[AG,PR hi]
  .rintro⟨x1,x2⟩ ⟨h1,h2⟩;dsimp only at h1 h2;subst h1 h2;rw[bW];with_reducible repeat' first|apply OS.ok;constructor|refine IM.mk λ_=>?_
   all_goals try simp only[ak,pE] at*
   all_goals first|omega|rfl
def HI (c:Int) (x:d?):Bool:=decide (x.1=3)&&decide (x.2.1=c)
def wl (th:Y d?) (c:Int):Nat->η
 |0=>[]
 |i+1=>if HI c (geti hJ th (i:Int)) then wl th c i++[(i:Int)] else wl th c i
def ry (th:Y d?) (c:Int):∀i,l! (wl th c i)<=i
 |0=>cA _
 |i+1=>by have:=ry th c i;rw[wl];split<;>simp<;>omega
def AQ {th:Y d?} {c u:Int}:∀{i:Nat},u∈wl th c i↔0<=u/\u<i/\HI c (geti hJ th u)=J
 |0=>by simp[wl];omega
 |i+1=>by
  have d:= @AQ th c u i;rw[wl];by_cases z:u=(i:Int)
  .subst z;split
   .rename_i h;simp[h];omega
   .rename_i h;rw[d];simp[h]
  .split
   .rw[bE,d,aE];constructor
    .rintro (h|h)
     .exact⟨h.1,by omega,h.2.2⟩
     .exact cN h z
    .intro h;exact .inl ⟨h.1,by omega,h.2.2⟩
   .rw[d];constructor
    .intro h;exact⟨h.1,by omega,h.2.2⟩
    .intro h;exact⟨h.1,by omega,h.2.2⟩
def apu {th:Y d?} (h1:(geti hJ th (i:Int)).1=3) (h2:(geti hJ th (i:Int)).2.1=a):wl th a (i+1)=wl th a i++[(i:Int)]:=by
 rw[wl,aG];unfold HI;rw[h1,h2];simp
def alg {th:Y d?} (h1:¬(geti hJ th (i:Int)).1=3):wl th a (i+1)=wl th a i:=by
 rw[wl,aA];unfold HI;rw[b_ h1];simp
def alf {th:Y d?} (h1:¬(geti hJ th (i:Int)).2.1=a):wl th a (i+1)=wl th a i:=by
 rw[wl,aA];unfold HI;rw[b_ h1];simp
def No (s:SY) (c:Int) (d:l! s.2.2.2<=1000):oX (s,c)=Z (wl s.2.2.2 c (l! s.2.2.2)):=by
 refine cf ?_;unfold oX bN bn bR bI bY bc c7 aH cS;refine cC (l! s.2.2.2) (λi x=>x=((i:Int),s,wl s.2.2.2 c i)) ?_ ?_ rfl
 .rintro i x hi rfl;have z:=ry s.2.2.2 c i;with_reducible repeat' first|apply OS.ok;constructor|refine IM.mk λ_=>?_
  all_goals try simp only[ak,pE] at*
  all_goals first|omega|skip
  all_goals first|(simp;omega)|skip
  .rename_i h1 h2;rw[apu h1 h2,fA]
  .rename_i h1 h2;rw[alf h2,fA]
  .rename_i h1;rw[alg h1,fA]
 .rintro x rfl;with_reducible repeat' first|apply OS.ok;constructor|refine IM.mk λ_=>?_
  all_goals try simp only[ak,pE] at*
  all_goals first|omega|rfl
def wo (l:η) (n:Int):η:=l.filter λx=> !decide (x=n)
def Wu (l:η) (n:Int) (z:l! l<=1000000):rL (l,n)=Z (wo l n):=by
 refine cf ?_;unfold rL bR iK bI bY bc c7 aH cS;refine cC (l! l) (λi x=>x=((i:Int),wo (l.take i) n)) ?_ ?_ rfl
 .rintro i x hi rfl;have d:l! (wo (l.take i) n)<=i:=c9 (Ds ..) (gK ..);have ht:wo (l.take (i+1)) n=if geti aP l (i:Int)=n then wo (l.take i) n else wo (l.take i) n++[geti aP l (i:Int)]:=by
   unfold wo;rw[pV hi,List.filter_append,AG,aB,aD hi];by_cases h:l[i]=n<;>simp[h]
  with_reducible repeat' first|apply OS.ok;constructor|refine IM.mk λ_=>?_
  all_goals try simp only[ak,pE] at*
  all_goals first|omega|skip
  .simp;omega
  .rename_i h;rw[ht,aA h,fA]
  .rename_i h;rw[ht,aG h,fA]
 .rintro x rfl;with_reducible repeat' first|apply OS.ok;constructor|refine IM.mk λ_=>?_
  all_goals try simp only[ak,pE] at*
  all_goals first|omega|(rw [bW])
def sE {xs:Y T.den} (hi:i<ah xs):dg (i+1) xs=dg i xs++[geti _ xs (i:Int)]:=by
 rw[pV hi,Oy,aB,aD hi];rfl
def su (s:SY) (d:SB i s):iO s=Z (s.2.1,s.1,s.2.2.1,s.2.2.2):=by
 refine cf ?_;obtain⟨z,F,D,A⟩:=s;have hn:=d.n1;have g1:=d.lk;have N:=d.dn;have L:=d.th;dsimp only at g1 N L;unfold iO aY bi bt bN cY bR bI bY bc c7 aH cS;with_reducible repeat' first|apply OS.ok;constructor|refine IM.mk λ_=>?_
 all_goals try simp only[ak,pE] at*
 .simp;omega
 .omega
 .simp;omega
 .omega
 refine cC (l! z) (λn x=>x=((n:Int),(z,F,D,A),0,F,z.take n,D,A)) ?_ ?_ ?_
 .rintro n x hi rfl;have hg:=d.rd _ (bZ (T:=dF) (xs:=z) (j:=(n:Int)) (by omega) (by omega));with_reducible repeat' first|apply OS.ok;constructor|refine IM.mk λ_=>?_
  all_goals try simp only[ak,pE] at*
  all_goals first|omega|skip
  .simp;omega
  .simp;omega
  .rw[fA,sE (T:=dF) hi];rfl
 .rintro x rfl;with_reducible repeat' first|apply OS.ok;constructor|refine IM.mk λ_=>?_
  all_goals try simp only[ak,pE] at*
  all_goals first|omega|skip
  simp
 .simp
def IU (s:SY) (c:Int) (z:l! s.2.2.2<=1000):kK ((s.2.1,c),s.1,s.2.2.1,s.2.2.2)=Z (wl s.2.2.2 c (l! s.2.2.2)):=by
 refine cf ?_;unfold kK;refine aw (P:=λy=>y=(wl s.2.2.2 c (l! s.2.2.2),s.1,s.2.2.1,s.2.2.2)) ?_ λy d=>by subst d;exact ait rfl (aj rfl)
 unfold nC aY bi bt bN cY bn bR bI jZ bc c7 aH cS;refine cC (l! s.2.2.2) (λi x=>x=((i:Int),s.1,s.2.2.1,s.2.2.2,s.2.1,wl s.2.2.2 c i)) ?_ ?_ rfl
 .rintro i x hi rfl;have A:=ry s.2.2.2 c i;with_reducible repeat' first|apply OS.ok;constructor|refine IM.mk λ_=>?_
  all_goals try simp only[ak,pE] at*
  all_goals first|omega|skip
  all_goals first|(simp;omega)|skip
  .rename_i h1 h2;rw[apu h1 h2,fA]
  .rename_i h1 h2;rw[alf h2,fA]
  .rename_i h1;rw[alg h1,fA]
 .rintro x rfl;with_reducible repeat' first|apply OS.ok;constructor|refine IM.mk λ_=>?_
  all_goals try simp only[ak,pE] at*
  all_goals first|omega|rfl
structure AP (n:Nat) (s y:SY):Prop where
 a1:l! y.1=l! s.1
 a2:l! y.2.2.1=l! s.2.2.1
 a3:l! y.2.2.2=l! s.2.2.2
 rd:∀l∈y.1,l! l.2<=n+1
def AP.toSB {s y:SY} (h:AP i s y) (d:SB i s) (z:i+1<=100000):SB (i+1) y:=
 ⟨z,by rw[h.a1];exact d.lk,h.rd,by rw[h.a2];exact d.dn,by rw[h.a3];exact d.th⟩
def AP.same {s:SY} (z:SB i s) (x:Int) (d:θ) (t:Y d?) (hd:l! d=l! s.2.2.1) (ht:l! t=l! s.2.2.2):AP i s (s.1,x,d,t):=
 ⟨rfl,hd,ht,λl A=>fQ (z.rd l A)⟩
def AP.set {s:SY} (z:SB i s) (j a:Int) (r:η) (A:l! r<=i+1) (x:Int) (d:θ) (t:Y d?) (hd:l! d=l! s.2.2.1) (ht:l! t=l! s.2.2.2):AP i s (cJ s.1 j (a,r),x,d,t):=
 ⟨cR _ _ _,hd,ht,λl D=>by
   rcases Eu D with h|rfl
   .exact fQ (z.rd l h)
   .exact A⟩
def NT (th:Y d?) (t st:Int):Y d?:=cJ th t (st,(geti hJ th t).2)
def owP (lk:Y i?) (o t:Int):Y i?:=cJ lk o (t,(geti dF lk o).2)
def rdP (lk:Y i?) (o:Int) (l:η):Y i?:=cJ lk o ((geti dF lk o).1,l)
def cdP (th:Y d?) (t c:Int):Y d?:=cJ th t ((geti hJ th t).1,c,(geti hJ th t).2.2)
def atP (th:Y d?) (t:Int) (b:Bool):Y d?:=cJ th t ((geti hJ th t).1,(geti hJ th t).2.1,b)
def St (th:Y d?) (l:η):Y d?:=l.foldl (λx u=>NT x u 4) th
def F0 (l:η) (u:Int):Int:=if (l! l)=0 then -1 else if l.contains u then u else geti aP l 0
def muP (w:WT) (o:Int):Int:=(geti nK w.2.2.1 o).2
def yz (w:WT) (s:SY) (t k o u:Int):SY×Int:=
 if k=1 then ((s.1,s.2.1,s.2.2.1,NT s.2.2.2 t 2),0)
 else if k=2 then ((s.1,s.2.1,s.2.2.1,NT s.2.2.2 t 5),0)
 else if k=6\/k=10 then ((owP s.1 o t,s.2),0)
 else if k=7\/k=11 then ((owP s.1 o (-1),s.2),0)
 else if k=8 then ((rdP s.1 o (sA (geti dF s.1 o).2 [t]),s.2),0)
 else if k=9 then ((rdP s.1 o (wo (geti dF s.1 o).2 t),s.2),0)
 else if k=12 then ((s.1,t,s.2.2),0)
 else if k=13 then ((s.1,-1,s.2.2),0)
 else if k=14 then ((s.1,s.2.1,s.2.2.1,atP s.2.2.2 t J),0)
 else if k=15 then ((s.1,s.2.1,s.2.2.1,atP s.2.2.2 t aa),0)
 else if k=16 then ((owP s.1 (muP w o) (-1),s.2.1,s.2.2.1,cdP (NT s.2.2.2 t 3) t o),0)
 else if k=17 then ((owP s.1 (muP w o) t,s.2.1,s.2.2.1,cdP (NT s.2.2.2 t 2) t 0),0)
 else if k=18 then (if (l! (wl s.2.2.2 o (l! s.2.2.2)))=0 then (s,-1) else ((s.1,s.2.1,s.2.2.1,NT s.2.2.2 (F0 (wl s.2.2.2 o (l! s.2.2.2)) u) 4),F0 (wl s.2.2.2 o (l! s.2.2.2)) u))
 else if k=19 then ((s.1,s.2.1,s.2.2.1,St s.2.2.2 (wl s.2.2.2 o (l! s.2.2.2))),(l! (wl s.2.2.2 o (l! s.2.2.2)):Int))
 else if k=20 then ((s.1,s.2.1,s.2.2.1,NT s.2.2.2 o 1),0)
 else if k=22 then ((s.1,s.2.1,cJ s.2.2.1 o J,s.2.2.2),0)
 else (s,0)
def Ke (l:η):∀th,l! (St th l)=l! th:=by
 induction l with
 |nil=>intro th;rfl
 |cons x r d=>intro th;unfold St;rw[ub];exact (d _).trans (cR ..)
def aem {th:Y d?} (hi:i<l! A):St th (A.take (i+1))=NT (St th (A.take i)) (geti aP A (i:Int)) 4:=by
 unfold St;rw[pV hi,gW,AG,aB,aD hi];rfl
def ZH (u:Int) (d:¬l! A=0):F0 A u∈A:=by
 unfold F0;rw[aA d];split
 .rename_i h;exact uw.1 h
 .exact bZ (T:=aP) (by omega) (by omega)
def ND (w:WT) (s:SY) (d:SB i s) (hw:l! w.2.2.1<=1000) (t k o u:Int):Ok (qO (w,s,t,k,o,u)) λy=>(y.2.2=J->EN w s t k o/\IV w s t k o/\AP i s y.1/\(y.1,y.2.1)=yz w s t k o u)/\(y.2.2=aa->y.1=([],0,[],[]))/\(iZ (w,s,t,k,o)=Z J->y.2.2=J):=by
 unfold qO aY bi bt b7 bN cW cY dN ck bn bR bY jZ bc c7 aH cS;obtain⟨b,F,hb⟩:=NC w s d hw t k o;refine aQ F ?_;refine di (λh=>aj ⟨nofun,λ_=>rfl,λh2=>(by rw[F,h]at h2;cases h2)⟩) (λh=>?_);obtain⟨he,hry⟩:=hb h;refine aQ (su s d) ?_;suffices hmain:Ok _ _ from aV (λx=>AP i s (x.2.2.2.1,x.2.1,x.2.2.2.2)/\((x.2.2.2.1,x.2.1,x.2.2.2.2),x.1)=yz w s t k o u) hmain λx N=>aj ⟨λ_=>⟨he,hry,N⟩,nofun,λ_=>rfl⟩
 obtain⟨nm,t0,t1,cd,e1,e2,e3⟩:=id he;obtain⟨_,_,ce,lk,cn,th,fu⟩:=nm;have hn:=d.n1;have hlk:=d.lk;have hm:16<=k/\k<=19->0<=(geti nK w.2.2.1 o).2/\(geti nK w.2.2.1 o).2<l! w.2.1:=λh=>cd _ (bZ (cn h).1 (cn h).2)
 have D:∀j:Int,0<=j->j<l! s.1->(geti dF s.1 j).2.length<=i:=λj h0 h1=>d.rd _ (bZ (T:=dF) h0 h1)
 cases kdI k
 case no hk _=>omega
 all_goals simp only[aX,aU,lX]
 all_goals with_reducible repeat' first|apply OS.ok;constructor|refine IM.mk λ_=>?_
 all_goals try simp only[ak,pE] at*
 all_goals try rw[cR]
 all_goals first|omega|exact (hm ⟨by decide,by decide⟩).1|exact e1▸(hm ⟨by decide,by decide⟩).2|exact⟨AP.same d _ _ _ rfl rfl,rfl⟩|exact⟨AP.same d _ _ _ rfl (cR _ _ _),rfl⟩|exact⟨AP.same d _ _ _ (cR _ _ _) rfl,rfl⟩|skip
 all_goals try exact⟨AP.set d _ _ _ (fQ (D o (by omega) (by omega))) _ _ _ rfl rfl,rfl⟩
 .have:=D o (by omega) (by omega);refine aQ (VZ _ _ (c9 this (by have:=d.n1;omega)) (by simp)) ?_;with_reducible repeat' first|apply OS.ok;constructor|refine IM.mk λ_=>?_
  all_goals try simp only[ak,pE] at*
  all_goals first|omega|skip
  exact⟨AP.set d _ _ _ (by have:=adl (geti dF s.1 o).2 [t];simp at this;omega) _ _ _ rfl rfl,rfl⟩
 .have:=D o (by omega) (by omega);have hl:l! (wo (geti dF s.1 o).2 t)<=(geti dF s.1 o).2.length:=Ds ..;refine aQ (Wu _ _ (by omega)) ?_;with_reducible repeat' first|apply OS.ok;constructor|refine IM.mk λ_=>?_
  all_goals try simp only[ak,pE] at*
  all_goals first|omega|skip
  exact⟨AP.set d _ _ _ (c9 hl (by omega)) _ _ _ rfl rfl,rfl⟩
 .exact⟨AP.set d _ _ _ (fQ (D _ (hm ⟨by decide,by decide⟩).1 (by rw[e1];exact (hm ⟨by decide,by decide⟩).2))) _ _ _ rfl (by rw[cR,cR]),rfl⟩
 .exact⟨AP.set d _ _ _ (fQ (D _ (hm ⟨by decide,by decide⟩).1 (by rw[e1];exact (hm ⟨by decide,by decide⟩).2))) _ _ _ rfl (by rw[cR,cR]),rfl⟩
 .refine aQ (IU s o d.th) ?_;have hth:=d.th;have hll:=ry s.2.2.2 o (l! s.2.2.2);have hml:∀u∈wl s.2.2.2 o (l! s.2.2.2),0<=u/\u<l! s.2.2.2:=λu A=>⟨(AQ.1 A).1,(AQ.1 A).2.1⟩
  have hap:yz w s t 18 o u=if (l! (wl s.2.2.2 o (l! s.2.2.2)))=0 then (s,-1) else ((s.1,s.2.1,s.2.2.1,NT s.2.2.2 (F0 (wl s.2.2.2 o (l! s.2.2.2)) u) 4),F0 (wl s.2.2.2 o (l! s.2.2.2)) u):=rfl
  unfold F0 at hap;revert hll hml hap;generalize wl s.2.2.2 o (l! s.2.2.2)=l;intro hll hml hap;with_reducible repeat' first|apply OS.ok;constructor|refine IM.mk λ_=>?_
  all_goals try simp only[ak,pE] at*
  all_goals first|omega|skip
  .have z:=hml _ (bZ (T:=aP) (xs:=l) (j:=0) (by omega) (by omega));rw[aA (by omega),aA (by omega)]at hap;simp only[Nz l u (by omega),Wn];refine aM (λL=>?_) λL=>?_
   .have A:=hml u (uw.1 L);rw[L,aG rfl]at hap;refine aj (aJ A.1 A.2 (aJ A.1 A.2 (aj ⟨AP.same d _ _ _ rfl (cR ..),?_⟩)));rw[hap];rfl
   .rw[L,aA (by decide)]at hap;refine aj (aJ z.1 z.2 (aJ z.1 z.2 (aj ⟨AP.same d _ _ _ rfl (cR ..),?_⟩)));rw[hap];rfl
  .rw[aG (by omega)]at hap;exact⟨AP.same d _ _ _ rfl rfl,hap.symm⟩
 .refine aQ (IU s o d.th) ?_;have hth:=d.th;have hll:=ry s.2.2.2 o (l! s.2.2.2);have hml:∀u∈wl s.2.2.2 o (l! s.2.2.2),0<=u/\u<l! s.2.2.2:=λu A=>⟨(AQ.1 A).1,(AQ.1 A).2.1⟩
  have hap:yz w s t 19 o u=((s.1,s.2.1,s.2.2.1,St s.2.2.2 (wl s.2.2.2 o (l! s.2.2.2))),(l! (wl s.2.2.2 o (l! s.2.2.2)):Int)):=rfl;rw[hap];clear hap;generalize wl s.2.2.2 o (l! s.2.2.2)=l at hll hml ⊢;refine cC (l! l) (λn x=>x=((n:Int),s.2.1,0,s.1,s.2.2.1,St s.2.2.2 (l.take n))) ?_ ?_ rfl
  .rintro n x hi rfl;have z:=hml _ (bZ (T:=aP) (xs:=l) (j:=(n:Int)) (by omega) (by omega));have hq:=Ke (l.take n) s.2.2.2;with_reducible repeat' first|apply OS.ok;constructor|refine IM.mk λ_=>?_
   all_goals try simp only[ak,pE] at*
   all_goals first|omega|skip
   rw[fA,aem hi];rfl
  .rintro x rfl;rw[bW];with_reducible repeat' first|apply OS.ok;constructor|refine IM.mk λ_=>?_
   all_goals try simp only[ak,pE] at*
   all_goals first|omega|skip
   exact AP.same d _ _ _ rfl (Ke ..)
abbrev SN:Type:=SY×η×J!
abbrev ET:Type:=Int×Int×Int×Int×Int×J!
def ajf (a b:Int):EQ (a,b)=Z (decide (0<=a/\a<b)):=TN a b
structure NB (n:Nat) (s:SN):Prop where
 sb:SB n s.1
 c:l! s.2.1<=1000
 f:l! s.2.2.1<=1000
 k:l! s.2.2.2<=1000
structure SP (n:Nat) (s y:SN):Prop where
 ap:AP n s.1 y.1
 c:l! y.2.1=l! s.2.1
 f:l! y.2.2.1=l! s.2.2.1
 k:l! y.2.2.2=l! s.2.2.2
def SP.NB {s y:SN} (h:SP i s y) (d:NB i s) (z:i+1<=100000):NB (i+1) y:=
 ⟨h.ap.toSB d.sb z,by rw[h.c];exact d.c,by rw[h.f];exact d.f,by rw[h.k];exact d.k⟩
def sn0:SN:=(([],0,[],[]),[],[],[])
structure Wb (w:WT) (s:SN):Prop where
 c:l! s.2.1=l! w.1
 f:l! s.2.2.1=l! w.2.2.2.1
 k:l! s.2.2.2=l! w.2.2.2.2.1
def aci (w:WT) (s:SN) (d:l! w.2.2.1<=1000):Ok (sO (w,s)) λb=>b=J->Wb w s:=by
 unfold sO aY bi bt cW bn bc aH;refine gk (aw (Sr w s.1 (by omega)) λb z=>?_);with_reducible repeat' first|apply OS.ok;constructor|refine IM.mk λ_=>?_
 all_goals try simp only[ak,pE] at*
 all_goals first|(intro h;constructor<;>omega)|(intro h;cases h;done)
def Sd:∀(l:η),(∀k:Nat,k+1<l! l->l.getD k 0<l.getD (k+1) 0)->AL l
 |[],_=>trivial
 |[x],_=>⟨λy D=>(by cases D),trivial⟩
 |x::y::r,h=>by
  have A:=Sd (y::r) λk F=>by have:=h (k+1) (by simpa using F);simpa using this
  have h0:=h 0 (by simp);simp at h0;refine ⟨λz d=>?_,A⟩;rcases bm.1 d with rfl|d
  .exact h0
  .have:=A.1 z d;omega
structure AN (c:Int) (l:η):Prop where
 a:AL l
 m:∀x:Int,x∈l->1<=x/\x<c
def Ku:∀(l:η) (d hi:Int),AL l->(∀y∈l,d<=y/\y<hi)->(l! l:Int)<=max 0 (hi-d)
 |[],d,hi,_,_=>by simp;omega
 |x::r,d,hi,h,hm=>by
  have h1:=hm x (c_ ..);have h2:=Ku r (x+1) hi h.2 λy z=>⟨by have:=h.1 y z;omega,(hm y (b8 _ z)).2⟩
  rw[bX];omega
def AN.len (h:AN a A):(l! A:Int)<=max 0 a:=by
 have:=Ku A 1 a h.a h.m;omega
def afh (l:∀k:Nat,k<i->1<=geti aP A (k:Int)/\geti aP A (k:Int)<a) (F:∀k:Nat,k+1<i->A.getD k 0<A.getD (k+1) 0):(i:Int)<=max 0 a:=by
 have key:∀k:Nat,k<i->(k:Int)+1<=A.getD k 0:=by
  intro k;induction k with
  |zero=>intro d;have:=(l 0 d).1;rw[AG]at this;exact this
  |succ k D=>
   intro d;have h1:=D (by omega);have h2:=F k d;omega
 rcases oQ i with z|z
 .omega
 .have h1:=key (i-1) (by omega);have h2:=(l (i-1) (by omega)).2;rw[AG]at h2;have h2:A.getD (i-1) 0<a:=h2;omega
def Lb (l:η) (c:Int) (D:l! l<=1000000000\/c<=1000000000):Ok (lE (l,c)) λb=>b=J->AN c l:=by
 unfold lE bR jR bY bc c7 aH cS;refine cC (l! l) (λi x=>x=(i:Int)/\(∀k:Nat,k<i->1<=geti aP l (k:Int)/\geti aP l (k:Int)<c)/\∀k:Nat,k+1<i->l.getD k 0<l.getD (k+1) 0) ?_ ?_ ⟨rfl,λk d=>by omega,λk d=>by omega⟩
 .rintro i x hi ⟨rfl,z,A⟩;have hbd:i<=1000000000:=by
   have:=afh z A;rcases D with D|D<;>omega
  have F:0<(i:Int)->be .i64 ((i:Int)-1)=((i-1:Nat):Int):=λh=>by rw[ic];omega
  have L:(0<i->l.getD (i-1) 0<l.getD i 0)->1<=geti aP l (i:Int)/\geti aP l (i:Int)<c->be .i64 ((i:Int)+1)=((i+1:Nat):Int)/\(∀k:Nat,k<i+1->1<=geti aP l (k:Int)/\geti aP l (k:Int)<c)/\∀k:Nat,k+1<i+1->l.getD k 0<l.getD (k+1) 0:=λg1 g2=>by
   refine ⟨fA,λk d=>?_,λk d=>?_⟩
   .rcases bu k i with h1|h1
    .exact z k h1
    .rw[show k=i by omega];exact g2
   .rcases bu (k+1) i with h1|h1
    .exact A k h1
    .have:=g1 (by omega);rw[show k=i-1 by omega,show i-1+1=i by omega];exact this
  with_reducible repeat' first|apply OS.ok;constructor|refine IM.mk λ_=>?_
  all_goals try simp only[ak,pE] at*
  all_goals first|omega|(intro h;cases h;done)|(rw [F (by omega)];omega)|skip
  .rename_i h1 h2 h3 N;rw[F h3,AG,AG]at N;exact L (λ_=>N) ⟨by omega,by omega⟩
  .exact L (λh=>by omega) ⟨by omega,by omega⟩
 .rintro x ⟨rfl,z,A⟩;with_reducible repeat' first|apply OS.ok;constructor|refine IM.mk λ_=>?_
  all_goals try simp only[ak,pE] at*
  all_goals first|omega|skip
  exact⟨Sd l λk d=>A k d,iS (T:=aP) z⟩
structure VA (w:WT) (sy:SY) (ce fu:η) (t k o v:Int):Prop where
 ld:k=3->v=geti aP ce o
 gt:k=23->v=geti aP fu o
 br:k=5->v=0\/v=1
 el:¬k=3->¬k=23->¬k=5->¬k=4->¬k=22->v=(yz w sy t k o v).2
def ite2 {c:Prop} [Decidable c] {a b:SY×Int} (z:a.2=0) (d:b.2=0):(if c then a else b).2=0:=by by_cases h:c<;>simp[h,z,d]
def ZQ (w:WT) (d:SY) (t k o u:Int) (h1:¬k=18) (h2:¬k=19):(yz w d t k o u).2=0:=by
 unfold yz;rw[aA h1,aA h2];repeat (first|exact rfl|refine ite2 rfl ?_)
def am0 (w:WT) (d:SY) (t k o u z:Int) (h1:¬k=18):yz w d t k o u=yz w d t k o z:=by
 unfold yz;rw[aA h1,aA h1]
def Hs (w:WT) (d:SY) (t o u:Int):yz w d t 18 o u=if (l! (wl d.2.2.2 o (l! d.2.2.2)))=0 then (d,-1) else ((d.1,d.2.1,d.2.2.1,NT d.2.2.2 (F0 (wl d.2.2.2 o (l! d.2.2.2)) u) 4),F0 (wl d.2.2.2 o (l! d.2.2.2)) u):=rfl
def Yu (w:WT) (d:SY) (t o u:Int):(yz w d t 19 o u).2=(l! (wl d.2.2.2 o (l! d.2.2.2)):Int):=rfl
def adk (w:WT) (s:SN) (hs:NB i s) (hf:Wb w s) (e:ET) (he:EN w s.1 e.1 e.2.1 e.2.2.1):Ok (qL (s,e)) λb=>b=J->VA w s.1 s.2.1 s.2.2.1 e.1 e.2.1 e.2.2.1 e.2.2.2.1:=by
 obtain⟨t,k,o,v,si,de,fr⟩:=e;obtain⟨z,s2,s3,s4⟩:=s;obtain⟨nm,t0,t1,cd,e1,e2,e3⟩:=he;obtain⟨_,_,ce,lk,cn,th,fu,_,_,_⟩:=nm;obtain⟨f1,f2,f3⟩:=hf;have hth:=hs.sb.th;dsimp only at*
 unfold qL aY bi bt b7 bN bn bR jR bY bc aH;have hW:=No z o hth;have hWl:=ry z.2.2.2 o (l! z.2.2.2);refine aK (λh=>?_) λn3=>?_
 .have h:k=3:=h;obtain⟨N,L⟩:=ce (.inl h);exact aJ N (by rw[f1];exact L) (aT (aj λh2=>⟨λ_=>bl h2,λd=>by omega,λd=>by omega,λd=>(d h).elim⟩))
 refine aK (λh=>?_) λA=>?_
 .have h:k=23:=h;obtain⟨N,L⟩:=fu (.inr h);exact aJ N (by rw[f2];exact L) (aT (aj λh2=>⟨λd=>by omega,λ_=>bl h2,λd=>by omega,λ_ d=>(d h).elim⟩))
 refine aK (λh=>?_) λn5=>?_
 .have h:k=5:=h;exact gk (aK (λh2=>aj (aj λ_=>⟨λd=>by omega,λd=>by omega,λ_=>.inl h2,λ_ _ d=>(d h).elim⟩)) λ_=>aj (aj λh2=>⟨λd=>by omega,λd=>by omega,λ_=>.inr (bl h2),λ_ _ d=>(d h).elim⟩))
 refine aV (λx=>x.2=((z,s2,s3,s4),t,k,o,v,si,de,fr)/\(x.1=J->k=4\/k=22)) (aK (λh=>aj ⟨rfl,λ_=>.inl h⟩) λ_=>aj ⟨rfl,λh=>.inr (bl h)⟩) ?_;rintro⟨b,x⟩ ⟨e,hb⟩;dsimp only at e hb;subst e;refine aM (λh=>aj λ_=>⟨λd=>(n3 d).elim,λd=>(A d).elim,λd=>(n5 d).elim,λ_ _ _ h4 h5=>(hb h).elim (λh=>(h4 h).elim) λh=>(h5 h).elim⟩) λ_=>?_
 have fin:v=(yz w z t k o v).2->VA w z s2 s3 t k o v:=λh=>⟨λd=>(n3 d).elim,λd=>(A d).elim,λd=>(n5 d).elim,λ_ _ _ _ _=>h⟩
 refine aK (λh=>?_) λF=>?_
 .have h:k=18:=h;subst h;rw[Hs]at fin;refine aQ hW ?_;revert fin hWl;generalize wl z.2.2.2 o (l! z.2.2.2)=l;intro hWl fin;refine aK (λh=>aj λh2=>fin ?_) λh=>?_
  .dsimp only[ak]at h;rw[aG (by omega)];exact bl h2
  .dsimp only[ak]at h;have hne:¬l! l=0:=by omega
   refine gk (dW (λ_=>aW (λ_=>?_) λ_=>aj (aj nofun)) λ_=>aj (aj nofun));refine aQ (Nz _ _ (by omega)) (aj (aj λh2=>fin ?_));rw[aA hne];unfold F0;rw[aA hne,aG h2]
 refine aK (λh=>?_) λD=>?_
 .have h:k=19:=h;subst h;exact aQ hW (aj λh2=>fin (bl h2))
 exact aj λh2=>fin (by rw[ZQ _ _ _ _ _ _ F D];exact bl h2)
structure S16 (w:WT) (s:SN) (e:ET):Prop where
 rd:IV w s.1 e.1 e.2.1 e.2.2.1
 s1:e.2.1=1\/e.2.1=2->e.2.2.2.2.1= -1
 s2:¬(e.2.1=1\/e.2.1=2)->0<=e.2.2.2.2.1/\e.2.2.2.2.1<l! w.2.2.2.2.2/\(geti pR w.2.2.2.2.2 e.2.2.2.2.1).1=e.1
 de:0<l! e.2.2.2.2.2.1->e.2.1=5\/(e.2.1=3\/e.2.1=4)/\¬(geti mD w.1 e.2.2.1).2.2.1=0
 fr:0<l! e.2.2.2.2.2.2->e.2.1=4\/e.2.1=22
 nd:AN (geti aP s.2.2.2 e.1) e.2.2.2.2.2.1
 nf:AN (geti aP s.2.2.2 e.1) e.2.2.2.2.2.2
 va:VA w s.1 s.2.1 s.2.2.1 e.1 e.2.1 e.2.2.1 e.2.2.2.1
def ceP (d:η) (e:ET):η:=if e.2.1=4 then cJ d e.2.2.1 e.2.2.2.1 else d
def fuP (d:η) (e:ET):η:=if e.2.1=22 then cJ d e.2.2.1 e.2.2.2.1 else d
def Wo (w:WT) (s:SN) (e:ET):SN:=((yz w s.1 e.1 e.2.1 e.2.2.1 e.2.2.2.1).1,ceP s.2.1 e,fuP s.2.2.1 e,cJ s.2.2.2 e.1 (be .i64 (geti aP s.2.2.2 e.1+1)))
def Cn (w:WT) (s:SN) (N:NB i s) (hw:l! w.2.2.1<=1000) (e:ET) (hd:l! e.2.2.2.2.2.1<=1000000000\/(geti aP s.2.2.2 e.1:Int)<=1000000000) (hf:l! e.2.2.2.2.2.2<=1000000000\/(geti aP s.2.2.2 e.1:Int)<=1000000000):Ok (oV (w,s,e)) λy=>(y.2=J->EN w s.1 e.1 e.2.1 e.2.2.1/\SP i s y.1/\S16 w s e/\y.1=Wo w s e)/\(y.2=aa->y.1=sn0):=by
 have D:∀{Q:SN×Bool->Prop},Q (sn0,aa)->Ok (Z (sn0,aa)) Q:=λh=>aj h
 have L:((sn0,aa).2=J->EN w s.1 e.1 e.2.1 e.2.2.1/\SP i s (sn0,aa).1/\S16 w s e/\(sn0,aa).1=Wo w s e)/\((sn0,aa).2=aa->(sn0,aa).1=sn0):=⟨nofun,λ_=>rfl⟩
 unfold oV aY bi bt b7 dc bN cW cY dN iX ck bn bR iK bI bY jZ bc c7 aH cS;refine aV (λx=>x.2=(w,s,e,0)/\(x.1=aa->Wb w s/\(EN w s.1 e.1 e.2.1 e.2.2.1/\IV w s.1 e.1 e.2.1 e.2.2.1)/\iZ (w,s.1,e.1,e.2.1,e.2.2.1)=Z J)) ?_ ?_
 .refine aw (aci w s hw) λb hb=>?_
  with_reducible repeat' first|apply OS.ok;constructor|refine IM.mk λ_=>?_
  .exact⟨rfl,nofun⟩
  simp only[ajf,Wn];with_reducible repeat' first|apply OS.ok;constructor|refine IM.mk λ_=>?_
  .exact⟨rfl,nofun⟩
  .exact⟨rfl,nofun⟩
  .exact⟨rfl,nofun⟩
  obtain⟨c,hc0,hc⟩:=NC w s.1 N.sb hw e.1 e.2.1 e.2.2.1;refine aQ hc0 (aj ⟨rfl,λh=>?_⟩);have h:c=J:=by simpa using h
  exact⟨hb (by assumption),hc h,h▸hc0⟩
 rintro⟨x1,x2⟩ ⟨d,hx⟩;dsimp only at d hx;subst d;refine aM (λ_=>D L) λh1=>?_
 obtain⟨hF,⟨hE,hR⟩,hEn⟩:=hx h1;clear hx h1;refine aV (λx=>x=(w,s,e,0)/\(e.2.1=1\/e.2.1=2->e.2.2.2.2.1= -1)/\(¬(e.2.1=1\/e.2.1=2)->0<=e.2.2.2.2.1/\e.2.2.2.2.1<l! w.2.2.2.2.2/\(geti pR w.2.2.2.2.2 e.2.2.2.2.1).1=e.1)) ?_ ?_
 .refine aV (λx=>x.2=(w,s,e,0)/\(x.1=J->e.2.1=1\/e.2.1=2)/\(x.1=aa->¬(e.2.1=1\/e.2.1=2))) ?_ ?_
  .refine aK (λh=>aj ⟨rfl,λ_=>.inl h,nofun⟩) λh=>aj ⟨rfl,λh2=>.inr (bl h2),λh2=>?_⟩
   have:=kG h2;exact λA=>A.elim h this
  rintro⟨x1,x2⟩ ⟨d,hy1,hy2⟩;dsimp only at d hy1 hy2;subst d;refine aM (λhk=>?_) λhk=>?_
  .exact cj (λ_=>aj L) λh=>aj ⟨rfl,λ_=>h,λA=>(A (hy1 hk)).elim⟩
  .refine aV (λx=>x.2=(w,s,e,0)/\(x.1=aa->0<=e.2.2.2.2.1/\e.2.2.2.2.1<l! w.2.2.2.2.2/\(geti pR w.2.2.2.2.2 e.2.2.2.2.1).1=e.1)) ?_ ?_
   .simp only[ajf,Wn];refine cj (λ_=>aj ⟨rfl,nofun⟩) λh=>aJ h.1 h.2 (aT (aj ⟨rfl,λh2=>⟨h.1,h.2,?_⟩⟩))
    simpa using h2
   rintro⟨x1,x2⟩ ⟨d,D⟩;dsimp only at d D;subst d;exact aM (λ_=>aj L) λh=>aj ⟨rfl,λA=>((hy2 hk) A).elim,λ_=>D h⟩
 rintro x ⟨rfl,hS1,hS2⟩;obtain⟨nm,t0,t1,cd,e1,e2,e3⟩:=id hE;obtain⟨_,_,ce,lk,cn,th,fu,_,_,_⟩:=nm;obtain⟨f1,f2,f3⟩:=id hF;refine aV (λx=>x.2=(w,s,e,0)/\(x.1=J->e.2.1=3\/e.2.1=4)) ?_ ?_
 .with_reducible repeat' first|apply OS.ok;constructor|refine IM.mk λ_=>?_
  .exact⟨rfl,λ_=>.inl (by assumption)⟩
  .exact⟨rfl,λh=>.inr (bl h)⟩
 rintro⟨x1,x2⟩ ⟨d,z⟩;dsimp only at d z;subst d;refine aV (λx=>x.2=(w,s,e,0)/\(x.1=aa->0<l! e.2.2.2.2.2.1->e.2.1=5\/(e.2.1=3\/e.2.1=4)/\¬(geti mD w.1 e.2.2.1).2.2.1=0)) ?_ ?_
 .refine aW (λ_=>cj (λ_=>aM (λh=>?_) λ_=>aj ⟨rfl,nofun⟩) λh5=>aj ⟨rfl,λ_ _=>.inl h5⟩) λh=>aj ⟨rfl,λ_ h2=>?_⟩
  .refine aJ (ce (z h)).1 (ce (z h)).2 (aT (aj ⟨rfl,λh2 _=>.inr ⟨z h,?_⟩⟩));simpa using h2
  .dsimp only[ak]at h;omega
 rintro⟨x1,x2⟩ ⟨d,hDe⟩;dsimp only at d hDe;subst d;refine aM (λ_=>D L) λhde=>?_
 refine aV (λx=>x.2=(w,s,e,0)/\(x.1=aa->0<l! e.2.2.2.2.2.2->e.2.1=4\/e.2.1=22)) ?_ ?_
 .refine aW (λ_=>cj (λ_=>aj ⟨rfl,λh _=>.inr (by simpa using h)⟩) λF=>aj ⟨rfl,λ_ _=>.inl F⟩) λh=>aj ⟨rfl,λ_ h2=>?_⟩
  dsimp only[ak]at h;omega
 rintro⟨x1,x2⟩ ⟨d,hFr⟩;dsimp only at d hFr;subst d;refine aM (λ_=>D L) λhfr=>?_
 have hk:=N.k;have hc:=N.c;have hfu:=N.f;refine aV (λx=>x.2=(w,s,e,0)/\(x.1=aa->AN (geti aP s.2.2.2 e.1) e.2.2.2.2.2.1/\AN (geti aP s.2.2.2 e.1) e.2.2.2.2.2.2/\VA w s.1 s.2.1 s.2.2.1 e.1 e.2.1 e.2.2.1 e.2.2.2.1)) ?_ ?_
 .have hv:=adk w s N hF e hE;refine aJ t0 (by rw[f3];exact t1) (aT (aw (Lb _ _ hd) λb hb=>?_));refine di (λ_=>aj ⟨rfl,nofun⟩) λb1=>?_
  refine aJ t0 (by rw[f3];exact t1) (aT (aw (Lb _ _ hf) λb hb2=>?_));refine di (λ_=>aj ⟨rfl,nofun⟩) λb2=>?_
  exact aw hv λb hb3=>aj ⟨rfl,λh=>⟨hb b1,hb2 b2,hb3 (by simpa using h)⟩⟩
 rintro⟨x1,x2⟩ ⟨d,hNum⟩;dsimp only at d hNum;subst d;refine aM (λ_=>D L) λhnu=>?_
 obtain⟨hN1,hN2,hVA⟩:=hNum hnu;have hS:S16 w s e:=⟨hR,hS1,hS2,hDe hde,hFr hfr,hN1,hN2,hVA⟩
 refine a! (a! (a! ?_));refine aV (λx=>x.2=(w,s,e,0,0,s.2.1,s.2.2.1,s.2.2.2)/\yz w s.1 e.1 e.2.1 e.2.2.1 x.1=yz w s.1 e.1 e.2.1 e.2.2.1 e.2.2.2.1) ?_ ?_
 .exact aK (λ_=>aj ⟨rfl,rfl⟩) λh=>aj ⟨rfl,am0 _ _ _ _ _ _ _ h⟩
 rintro⟨x1,x2⟩ ⟨d,hxu⟩;dsimp only at d hxu;subst d;refine aw (ND w s.1 N.sb hw e.1 e.2.1 e.2.2.1 x1) λy hy=>?_
 obtain⟨_,_,hap,hyq⟩:=hy.1 (hy.2.2 hEn);rw[hxu]at hyq;refine aV (λx=>x.1=e/\x.2.2.1=y.1/\x.2.2.2.1=ceP s.2.1 e/\x.2.2.2.2=(s.2.2.1,s.2.2.2)) ?_ ?_
 .unfold ceP;refine aK (λh=>?_) λh=>aj ⟨rfl,rfl,(aA h).symm,rfl⟩
  have hc4:=ce (.inr h);with_reducible repeat' first|apply OS.ok;constructor|refine IM.mk λ_=>?_
  all_goals try simp only[ak,pE] at*
  all_goals first|omega|exact (aG h).symm
 rintro⟨x1,x2,x3,x4,x5,x6⟩ ⟨h1,h2,A,F⟩;simp only[aI]at h1 h2 A F;obtain⟨rfl,rfl⟩:=F;subst h1 h2 A;refine aV (λx=>x.1=x1/\x.2.2.1=y.1/\x.2.2.2.1=ceP s.2.1 x1/\x.2.2.2.2.1=fuP s.2.2.1 x1/\x.2.2.2.2.2=s.2.2.2) ?_ ?_
 .unfold fuP;refine aK (λh=>?_) λh=>aj ⟨rfl,rfl,rfl,(aA h).symm,rfl⟩
  have hc4:=fu (.inl h);with_reducible repeat' first|apply OS.ok;constructor|refine IM.mk λ_=>?_
  all_goals try simp only[ak,pE] at*
  all_goals first|omega|exact (aG h).symm
 rintro⟨x1,x2,x3,x4,x5,x6⟩ ⟨h1,h2,F,h5,h6⟩;simp only at h1 h2 F h5 h6;subst h1 h2 F h5 h6;have l1:l! (ceP s.2.1 x1)=l! s.2.1:=by unfold ceP;split<;>simp[cR]
 have l2:l! (fuP s.2.2.1 x1)=l! s.2.2.1:=by unfold fuP;split<;>simp[cR]
 with_reducible repeat' first|apply OS.ok;constructor|refine IM.mk λ_=>?_
 all_goals try simp only[ak,pE] at*
 all_goals first|omega|skip
 exact⟨⟨hE,⟨hap,l1,l2,by rw[cR]⟩,hS,by unfold Wo;rw[<- hyq]⟩,nofun⟩
def V8:Ok (pL ()) λl=>l! l=22:=by
 unfold pL;with_reducible repeat' first|apply OS.ok;constructor|refine IM.mk λ_=>?_
 all_goals rfl
def So (s:ζ):Ok (kM s) λ_=>True:=by
 unfold kM bR bY bc c7 aH cS;refine aw V8 λl d=>?_
 refine cC (l! l) (λi x=>x=(i:Int)) ?_ ?_ rfl
 .rintro i x hi rfl;with_reducible repeat' first|apply OS.ok;constructor|refine IM.mk λ_=>?_
  all_goals try simp only[ak,pE] at*
  all_goals first|omega|exact fA
 .rintro x rfl;with_reducible repeat' first|apply OS.ok;constructor|refine IM.mk λ_=>?_
  all_goals try simp only[ak,pE] at*
  all_goals omega
def Qv (c:Int):Ok (mJ c) λ_=>True:=by
 unfold mJ jR aH;with_reducible repeat' first|apply OS.ok;constructor|refine IM.mk λ_=>?_
 all_goals exact trivial
def afc (c:Int):Ok (qR c) λ_=>True:=by
 unfold qR vI jR aH;refine gk (aw (Qv c) λ_ _=>?_);with_reducible repeat' first|apply OS.ok;constructor|refine IM.mk λ_=>?_
 all_goals try exact trivial
 refine aw (P:=λ_=>True) ?_ λ_ _=>?_
 .with_reducible repeat' first|apply OS.ok;constructor|refine IM.mk λ_=>?_
  all_goals exact trivial
 .with_reducible repeat' first|apply OS.ok;constructor|refine IM.mk λ_=>?_
  all_goals exact trivial
def iT (s:ζ):Ok (fG s) λ_=>True:=by
 unfold fG bR kj bc c7 aH cS;refine aV (λb=>b=aa->l! s<=12) ?_ ?_
 .with_reducible repeat' first|apply OS.ok;constructor|refine IM.mk λ_=>?_
  .exact nofun
  .exact nofun
  .omega
  .simp only[ak]at *;omega
  refine aw (Qv _) λ_ _=>?_
  with_reducible repeat' first|apply OS.ok;constructor|refine IM.mk λ_=>?_
  .exact nofun
  refine aw (So _) λ_ _=>aj λ_=>?_
  simp only[ak]at *;omega
 .rintro b d;refine aM (λ_=>aj trivial) λh=>?_
  have d:=d h;refine cC (l! s) (λi x=>x=(i:Int)) ?_ ?_ rfl
  .rintro i x hi rfl;with_reducible repeat' first|apply OS.ok;constructor|refine IM.mk λ_=>?_
   all_goals try simp only[ak,pE] at*
   all_goals first|omega|skip
   refine aw (afc _) λ_ _=>?_
   with_reducible repeat' first|apply OS.ok;constructor|refine IM.mk λ_=>?_
   .exact trivial
   .exact fA
  .rintro x rfl;with_reducible repeat' first|apply OS.ok;constructor|refine IM.mk λ_=>?_
   all_goals try simp only[ak,pE] at*
   all_goals first|omega|exact trivial
def Dr (l:Y ζ) (s:ζ) (A:l! l<=1000000000):Ok (lh (l,s)) λr=> -1<=r/\r<l! l/\(0<=r->geti (.str) l r=s)/\(r<0->s∉l):=by
 unfold lh bR bY bc c7 aH cS;refine cC (l! l) (λi x=>x=(i:Int)/\∀k:Nat,k<i->geti (.str) l (k:Int)≠s) ?_ ?_ ⟨rfl,λk z=>by omega⟩
 .rintro i x hi ⟨rfl,d⟩;with_reducible repeat' first|apply OS.ok;constructor|refine IM.mk λ_=>?_
  all_goals try simp only[ak,pE] at*
  all_goals first|omega|skip
  .exact⟨by omega,by omega,λ_=>by assumption,λh=>by omega⟩
  .refine ⟨fA,λk z=>?_⟩;rcases bu k i with h1|h1
   .exact d k h1
   .rw[show k=i by omega];assumption
 .rintro x ⟨rfl,d⟩;with_reducible repeat' first|apply OS.ok;constructor|refine IM.mk λ_=>?_
  all_goals try simp only[ak,pE] at*
  all_goals first|omega|skip
  exact⟨by omega,by omega,λh=>by omega,λ_ h=>iS (T:=.str) (p:=λc=>c≠s) d s h rfl⟩
structure VL (w:WT):Prop where
 c:l! w.1<=12
 l:l! w.2.1<=4
 d:l! w.2.2.1<=2
 f:l! w.2.2.2.1<=2
 t0:1<=l! w.2.2.2.2.1
 t:l! w.2.2.2.2.1<=4
 s:l! w.2.2.2.2.2<=60
def aek (w:WT) (h:VL w):Ok (qP w) λy=>l! y.1<=100:=by
 obtain⟨w1,w2,A,L,F,D⟩:=w;obtain⟨h1,h2,h3,h4,_,h5,h6⟩:=h;dsimp only at*
 unfold qP aY bi bt b7 cW iX bn bR iK bI bY bc c7 aH cS;refine nL (λx=>((l! w1:Int)-x.1).toNat) (λx=>x.2.1=(w1,w2,A,L,F,D)/\0<=x.1/\x.1<=(l! w1:Int)/\(l! x.2.2:Int)<=x.1) ?_ ⟨rfl,by simp,by simp,by simp⟩;rintro⟨x1,x2,x3⟩ ⟨e,g1,g2,g3⟩;dsimp only at e g1 g2 g3;subst e;refine aW (λN=>?_) λN=>?_
 .dsimp only[ak]at N;refine aV (λx=>x.2.1=(w1,w2,A,L,F,D)/\x1<x.1/\x.1<=(l! w1:Int)/\(l! x.2.2:Int)<=x.1) ?_ ?_
  .refine eQ (aT (a! ?_));refine aK (λ_=>?_) λ_=>?_
   .with_reducible repeat' first|apply OS.ok;constructor|refine IM.mk λ_=>?_
    .exact pU _
    .rw[ic];exact⟨rfl,by dsimp only;omega,by dsimp only;omega,by simp;omega⟩
   .generalize hz:geti _ _ x1=z;obtain⟨z1,(z2:Int),(d:Int),z4,z5⟩:=z;dsimp only;refine aV (λx=>x.2=((w1,w2,A,L,F,D),x3++[z1],z1,z2,d,z4,z5)/\(x.1=aa->1<=d/\d<=4/\x1+d<=l! w1)) ?_ ?_
    .with_reducible repeat' first|apply OS.ok;constructor|refine IM.mk λ_=>?_
     .exact⟨rfl,nofun⟩
     .exact⟨rfl,nofun⟩
     .refine ⟨rfl,λh=>?_⟩;dsimp only[ak] at*
      rw[ic,fH]at h;omega
    .rintro⟨b,y⟩ ⟨e,hb⟩;dsimp only at e hb;subst e;refine aM (λ_=>aj (pU _)) λh=>?_
     obtain⟨q1,q2,q3⟩:=hb h;refine nL (λx=>(d-x.1).toNat) (λx=>x.2=((w1,w2,A,L,F,D),x3++[z1],z1,z2,d,z4,z5)/\0<=x.1/\x.1<=d) ?_ ⟨rfl,by simp,by dsimp only;omega⟩;rintro⟨k,y⟩ ⟨e,k0,k1⟩;dsimp only at e k0 k1;subst e;refine aW (λk2=>?_) λk2=>?_
     .dsimp only at k2;have e1:be .i64 (x1+k)=x1+k:=ic;refine aJ (by dsimp only;rw[e1];omega) (by dsimp only;rw[e1];omega) (aT ?_);refine aV (λx=>x.2=((w1,w2,A,L,F,D),x3++[z1],z1,z2,d,z4,z5)) ?_ ?_
      .with_reducible repeat' first|apply OS.ok;constructor|refine IM.mk λ_=>?_
       all_goals rfl
      .rintro⟨b,y⟩ e;dsimp only at e;subst e;refine aM (λ_=>aj (pU _)) λ_=>aj ?_
       dsimp only;rw[ic];exact⟨⟨rfl,by omega,by omega⟩,by omega⟩
     .dsimp only at k2;refine aj ?_;dsimp only;rw[ic];exact⟨rfl,by omega,by omega,by simp;omega⟩
  .rintro⟨y1,y2,y3⟩ ⟨e,g5,g6,g7⟩;dsimp only at e g5 g6 g7;subst e;refine aj ⟨⟨rfl,by dsimp only;omega,g6,g7⟩,?_⟩;dsimp only;omega
 .dsimp only[ak]at N;refine aw (P:=λy=>l! y.1<=100) ?_ λy hy=>aj hy
  refine cC (l! w2) (λi x=>x.1=(i:Int)/\x.2.1=(w1,w2,A,L,F,D)/\l! x.2.2<=12+i) ?_ ?_ ⟨rfl,rfl,by dsimp only;omega⟩
  .rintro i ⟨a,b,c⟩ hi ⟨e1,e2,e3⟩;dsimp only at e1 e2 e3;subst e1 e2;with_reducible repeat' first|apply OS.ok;constructor|refine IM.mk λ_=>?_
   all_goals try simp only[ak,pE] at*
   all_goals first|omega|(simp;omega)|skip
   exact⟨fA,by simp;omega⟩
  .rintro⟨a,b,c⟩ ⟨e1,e2,e3⟩;dsimp only at e1 e2 e3;subst e1 e2;refine aW (λN=>(by dsimp only[ak]at N;omega)) λ_=>?_
   refine aw (P:=λy=>l! y.1<=100) ?_ λy hy=>aj hy
   refine cC (l! A) (λi x=>x.1=(i:Int)/\x.2.1=(w1,w2,A,L,F,D)/\l! x.2.2<=16+i) ?_ ?_ ⟨rfl,rfl,by dsimp only;omega⟩
   .rintro i ⟨a,b,c⟩ hi ⟨e1,e2,e3⟩;dsimp only at e1 e2 e3;subst e1 e2;with_reducible repeat' first|apply OS.ok;constructor|refine IM.mk λ_=>?_
    all_goals try simp only[ak,pE] at*
    all_goals first|omega|(simp;omega)|skip
    exact⟨fA,by simp;omega⟩
   .rintro⟨a,b,c⟩ ⟨e1,e2,e3⟩;dsimp only at e1 e2 e3;subst e1 e2;refine aW (λN=>(by dsimp only[ak]at N;omega)) λ_=>?_
    refine aw (P:=λy=>l! y.1<=100) ?_ λy hy=>aj hy
    with_reducible repeat' first|apply OS.ok;constructor|refine IM.mk λ_=>?_
    all_goals try simp only[ak,pE] at*
    all_goals first|omega|(simp;omega)
def siS (T:Int) (o:M Γ) (s:ν):M Γ:=
 match o with
 |none=>U
 |some (t,n)=>if s.1=t/\s.2.1=n then Z (t,n+1) else if t<s.1/\s.1<T/\s.2.1=0 then Z (s.1,1) else U
def Z_ (T:Int) (l:Y ν):M Γ:=l.foldl (siS T) (Z (0,0))
def SV0 (w:WT):Prop:=Z_ (l! w.2.2.2.2.1) w.2.2.2.2.2≠U
def KK {T:Int} {l:Y ν} (hi:i<l! l):Z_ T (l.take (i+1))=siS T (Z_ T (l.take i)) (geti pR l (i:Int)):=by
 rw[sE (T:=pR) hi];unfold Z_;rw[gW];rfl
def S3 (T:Int):∀l:Y ν,l.foldl (siS T) U=U
 |[]=>rfl
 |_::r=>S3 T r
def aib {l:Y ν} (h:Z_ a l≠U) (i:Nat):Z_ a (l.take i)≠U:=λd=>h (by
 unfold Z_ at d ⊢;rw[<- List.take_append_drop i l,gW,d,S3])
def adu {t n:Int} {z:ν} (h:siS a (Z (t,n)) z≠U):siS a (Z (t,n)) z=Z (z.1,z.2.1+1)/\(z.1=t/\z.2.1=n\/t<z.1/\z.1<a/\z.2.1=0):=by
 unfold siS at h ⊢;dsimp only at h ⊢;by_cases h1:z.1=t/\z.2.1=n
 .rw[aG h1];exact⟨by rw[h1.1,h1.2],.inl h1⟩
 .rw[aA h1]at h ⊢;by_cases h2:t<z.1/\z.1<a/\z.2.1=0
  .rw[aG h2];exact⟨by rw[h2.2.2];rfl,.inr h2⟩
  .rw[aA h2]at h;exact (h rfl).elim
def Dl (w:WT):Ok (iy w) λb=>b=J->VL w/\SV0 w:=by
 unfold iy aY bi bt b7 cY dN bn bR jR iK bI bY bc c7 aH cS;refine aV (λx=>x.2=w/\(x.1=aa->VL w)) ?_ ?_
 .with_reducible repeat' first|apply OS.ok;constructor|refine IM.mk λ_=>?_
  all_goals first|exact⟨rfl,λh=>(by cases h)⟩|skip
  dsimp only[ak] at*
  refine ⟨rfl,λh=>?_⟩;rw[fH]at h;constructor<;>omega
 rintro⟨b,x⟩ ⟨e,hb⟩;dsimp only at e hb;subst e;refine aM (λ_=>aj λh=>(by cases h)) λh=>?_
 have hv:=hb h;refine aw (aek _ hv) λy hy=>?_
 refine di (λ_=>aj λh=>(by cases h)) λ_=>?_
 obtain⟨w1,w2,L,w4,D,A⟩:=x;have h6:=hv.s;have h3:=hv.d;dsimp only at h6 h3;refine cC (l! y.1) (λi x=>x.1=(i:Int)/\x.2=(w1,w2,L,w4,D,A)) ?_ ?_ ⟨rfl,rfl⟩
 .rintro i ⟨a,b⟩ hi ⟨e1,e2⟩;dsimp only at e1 e2;subst e1 e2;refine aW (λN=>?_) λN=>(by dsimp only[ak]at N;omega)
  refine aV (λx=>x.2=(w1,w2,L,w4,D,A)) ?_ ?_
  .refine eQ (aT (aw (iT _) λ_ _=>?_));refine di (λ_=>aj rfl) λ_=>?_
   with_reducible repeat' first|apply OS.ok;constructor|refine IM.mk λ_=>?_
   all_goals try simp only[ak,pE] at*
   all_goals first|omega|skip
   refine aw (Dr _ _ (by simp;omega)) λ_ _=>aj rfl
  .rintro⟨a,b⟩ e;dsimp only at e;subst e;with_reducible repeat' first|apply OS.ok;constructor|refine IM.mk λ_=>?_
   .exact λh=>(by cases h)
   .dsimp only;exact⟨fA,rfl⟩
 rintro⟨a,b⟩ ⟨e1,e2⟩;dsimp only at e1 e2;subst e1 e2;refine aW (λN=>(by dsimp only[ak]at N;omega)) λ_=>?_
 refine aw (P:=λb=>b=J->VL (w1,w2,L,w4,D,A)/\SV0 (w1,w2,L,w4,D,A)) ?_ λy hy=>aj hy
 refine cC (l! L) (λi x=>x.1=(i:Int)/\x.2=(w1,w2,L,w4,D,A)) ?_ ?_ ⟨rfl,rfl⟩
 .rintro i ⟨a,b⟩ hi ⟨e1,e2⟩;dsimp only at e1 e2;subst e1 e2;refine aW (λN=>?_) λN=>(by dsimp only[ak]at N;omega)
  refine eQ (aT ?_);refine aV (λx=>x.2=(w1,w2,L,w4,D,A)) ?_ ?_
  .with_reducible repeat' first|apply OS.ok;constructor|refine IM.mk λ_=>?_
   all_goals try simp only[ak,pE] at*
   all_goals first|omega|rfl
  .rintro⟨a,b⟩ e;dsimp only at e;subst e;with_reducible repeat' first|apply OS.ok;constructor|refine IM.mk λ_=>?_
   .exact λh=>(by cases h)
   .dsimp only;exact⟨fA,rfl⟩
 rintro⟨a,b⟩ ⟨e1,e2⟩;dsimp only at e1 e2;subst e1 e2;refine aW (λN=>(by dsimp only[ak]at N;omega)) λ_=>?_
 refine aw (P:=λb=>b=J->VL (w1,w2,L,w4,D,A)/\SV0 (w1,w2,L,w4,D,A)) ?_ λy hy=>aj hy
 refine cC (l! A) (λi x=>x.1=(i:Int)/\x.2=(w1,w2,L,w4,D,A)/\Z_ (l! D) (A.take i)=Z (if i=0 then (0,0) else ((geti pR A ((i-1:Nat):Int)).1,(geti pR A ((i-1:Nat):Int)).2.1+1))/\(¬i=0->(0:Int)<=(geti pR A ((i-1:Nat):Int)).2.1/\(i:Int)>(geti pR A ((i-1:Nat):Int)).2.1)) ?_ ?_ ⟨rfl,rfl,rfl,λh=>(h rfl).elim⟩
 .rintro i ⟨a,b⟩ hi ⟨e1,e2,e3,hpb⟩;dsimp only at e1 e2;subst e1 e2;have hw:¬(i:Int)=0->be .i64 ((i:Int)-1)=((i-1:Nat):Int):=λh=>by rw[ic];omega
  have hnx:=KK (T:=l! D) hi;rw[e3]at hnx;clear e3;refine aW (λN=>?_) λN=>(by dsimp only[ak]at N;omega)
  refine aV (λx=>x=(w1,w2,L,w4,D,A)/\Z_ (l! D) (A.take (i+1))=Z (((geti pR A (i:Int)).1,(geti pR A (i:Int)).2.1+1))/\(0:Int)<=(geti pR A (i:Int)).2.1/\((i+1:Nat):Int)>(geti pR A (i:Int)).2.1) ?_ ?_
  .refine eQ (aT ?_);rw[hnx];generalize hz:geti pR A (i:Int)=z;obtain⟨(z1:Int),(z2:Int),(z3:Int)⟩:=z;dsimp only;refine aV (λx=>x.2=((w1,w2,L,w4,D,A),z1,z2,z3)/\(x.1=aa->0<=z1/\z1<l! D)) ?_ ?_
   .refine aW (λ_=>aj ⟨rfl,λh=>(by cases h)⟩) λg=>aj ⟨rfl,λh=>⟨g,?_⟩⟩
    rw[ms]at h;exact h
   rintro⟨c,y⟩ ⟨e,hzr⟩;dsimp only at e hzr;subst e;refine aM (λ_=>aj λh=>(by cases h)) λhzb=>?_
   obtain⟨z0,zT⟩:=hzr hzb;refine aV (λx=>x.2=((w1,w2,L,w4,D,A),z1,z2,z3)/\(x.1=J->i=0\/¬(geti pR A ((i-1:Nat):Int)).1=z1)/\(x.1=aa->¬(i:Int)=0/\(geti pR A ((i-1:Nat):Int)).1=z1)) ?_ ?_
   .refine aK (λh=>aj ⟨rfl,λ_=>.inl (by have h:((i:Nat):Int)=0:=h;omega),λh=>(by cases h)⟩) λh=>?_
    rw[hw h];refine eQ (aT (aj ⟨rfl,λh2=>.inr (by simpa using h2),λh2=>⟨h,by simpa using h2⟩⟩))
   rintro⟨c,y⟩ ⟨e,hc1,hc⟩;dsimp only at e hc1 hc;subst e;refine aM (λhct=>?_) λhcf=>?_
   .refine aV (λx=>x.2=(w1,w2,L,w4,D,A)/\(x.1=aa->z2=0/\(¬i=0->((geti pR A ((i-1:Nat):Int)).1:Int)<z1))) ?_ ?_
    .refine cj (λ_=>aj ⟨rfl,λh=>(by cases h)⟩) λhz2=>?_
     refine aW (λh=>?_) λF=>aj ⟨rfl,λ_=>⟨hz2,λh=>by have F:((i:Nat):Int)<=0:=F;omega⟩⟩
     have h:(0:Int)<((i:Nat):Int):=h;rw[hw (by omega)];refine eQ (aT (aj ⟨rfl,λh2=>⟨hz2,λh3=>?_⟩⟩));rw[fH]at h2;have h4:=(hc1 hct).resolve_left h3;have h2:(geti pR A ((i-1:Nat):Int)).1<=z1:=h2;exact Int.lt_iff_le_and_ne.2 ⟨h2,h4⟩
    rintro⟨c,y⟩ ⟨e,hy⟩;dsimp only at e hy;subst e;refine aM (λ_=>aj λh=>(by cases h)) λh=>aj ⟨rfl,?_⟩
    obtain⟨q1,q2⟩:=hy h;have q1:z2=0:=q1;subst q1;refine ⟨?_,eE 0,by show _>(0:Int);omega⟩;unfold siS;by_cases F:i=0
    .subst F;rw[aG rfl];dsimp only;by_cases hz1:z1=0
     .subst hz1;rfl
     .rw[aA (λh=>hz1 h.1),aG ⟨by omega,zT,rfl⟩];rfl
    .have:=q2 F;rw[aA F];dsimp only;rw[aA (λh=>by omega),aG ⟨this,zT,rfl⟩];rfl
   .obtain⟨F,hpr⟩:=hc hcf;rw[hw F];refine eQ (aT ?_);refine cj (λ_=>aj λh=>(by cases h)) λh=>aj ⟨rfl,?_⟩
    obtain⟨b0,b1⟩:=hpb (by omega);have h:z2=be .i64 ((geti pR A ((i-1:Nat):Int)).2.1+1):=h;rw[ic]at h;refine ⟨?_,by omega,by omega⟩;rw[aA (by omega)];unfold siS;dsimp only;rw[aG ⟨hpr.symm,h⟩,hpr,h]
  .rintro x ⟨rfl,hx,hx2⟩;refine aj ?_;dsimp only;refine ⟨fA,rfl,?_,λ_=>hx2⟩;rw[aA (by omega)];exact hx
 .rintro⟨a,b⟩ ⟨e1,e2,e3,_⟩;dsimp only at e1 e2;subst e1 e2;refine aW (λN=>(by dsimp only[ak]at N;omega)) λ_=>?_
  rw[bW]at e3;exact aj λ_=>⟨hv,by unfold SV0;dsimp only;rw[e3];simp⟩
def uP (e:ET):Bool:=decide (e.2.1=3)||decide (e.2.1=23)
def fl (l:Y ET) (t:Int):θ:=(l.filter λe=>decide (e.1=t)).map uP
def Eb (l:Y ET) (t y:Int):Prop:=0<=y/\(fl l t).getD y.toNat aa=J
def Bo (l m:Y ET) (t:Int):fl (l++m) t=fl l t++fl m t:=by unfold fl;rw[List.filter_append,da]
variable {e:ET}
def G7 (h:e.1=a):fl [e] a=[uP e]:=by unfold fl;simp[h]
def Bn (h:¬e.1=a):fl [e] a=[]:=by unfold fl;simp[h]
variable {Q:Y ET}
def Eb.app {y:Int} (h:Eb Q a y) (m:Y ET):Eb (Q++m) a y:=by
 obtain⟨h0,h1⟩:=h;refine ⟨h0,?_⟩;rw[Bo];rw[aB]at h1 ⊢;rcases bu y.toNat (l! (fl Q a)) with g|g
 .rw[bz g];exact h1
 .rw[bK g]at h1;cases h1
def Eb.lt {y:Int} (h:Eb Q a y):y<l! (fl Q a):=by
 obtain⟨h0,h1⟩:=h;rcases bu y.toNat (l! (fl Q a)) with g|g
 .omega
 .rw[aB,bK g]at h1;cases h1
def Eb.last (h:uP e=J) (d:a=l! (fl Q e.1)):Eb (Q++[e]) e.1 a:=by
 subst d;refine ⟨by omega,?_⟩;rw[Bo,G7 rfl,aB,bU (by simp),h];simp
def Fj (l:Y ET) (t:Int):l! (fl l t)<=l! l:=by unfold fl;rw[bS];exact Ds ..
structure Wr (w:WT) (l:List ET) (sy:SY) (ce fu:η) (e:ET):Prop where
 en:EN w sy e.1 e.2.1 e.2.2.1
 rd:IV w sy e.1 e.2.1 e.2.2.1
 s1:e.2.1=1\/e.2.1=2->e.2.2.2.2.1= -1
 s2:¬(e.2.1=1\/e.2.1=2)->0<=e.2.2.2.2.1/\e.2.2.2.2.1<l! w.2.2.2.2.2/\(geti pR w.2.2.2.2.2 e.2.2.2.2.1).1=e.1
 de:0<l! e.2.2.2.2.2.1->e.2.1=5\/(e.2.1=3\/e.2.1=4)/\¬(geti mD w.1 e.2.2.1).2.2.1=0
 fr:0<l! e.2.2.2.2.2.2->e.2.1=4\/e.2.1=22
 nd:AN (l! (fl l e.1)) e.2.2.2.2.2.1
 nf:AN (l! (fl l e.1)) e.2.2.2.2.2.2
 rd1:∀y∈e.2.2.2.2.2.1,Eb l e.1 y
 rd2:∀y∈e.2.2.2.2.2.2,Eb l e.1 y
 va:VA w sy ce fu e.1 e.2.1 e.2.2.1 e.2.2.2.1
def thP:Nat->Y d?
 |0=>[]
 |n+1=>(1,0,aa)::aF n (0,0,aa)
def NZ (w:WT):SY:=(aF (l! w.2.1) (-1,[]),-1,aF (l! w.2.2.2.1) aa,thP (l! w.2.2.2.2.1))
def ce0 (w:WT):η:=w.1.map λc=>c.2.2.2.2
def fu0 (w:WT):η:=aF (l! w.2.2.2.1) 0
inductive Ky (w:WT):List ET->SY->η->η->Prop
 |nil:Ky w [] (NZ w) (ce0 w) (fu0 w)
 |snoc {l:List ET} {sy:SY} {ce fu:η} {e:ET} (h:Ky w l sy ce fu) (hs:Wr w l sy ce fu e):Ky w (l++[e]) (yz w sy e.1 e.2.1 e.2.2.1 e.2.2.2.1).1 (ceP ce e) (fuP fu e)
def adp (i:Nat):thP (i+2)=thP (i+1)++[(0,0,aa)]:=by
 show (1,0,aa)::aF (i+1) (0,0,aa)=(1,0,aa)::aF i (0,0,aa)++[(0,0,aa)]
 rw[wq,iE]
def QK:∀n,l! (thP n)=n
 |0=>rfl
 |n+1=>by simp[thP]
def Nr (w:WT) (h:VL w):qN w=Z (NZ w):=by
 obtain⟨w1,w2,N,A,F,L⟩:=w;obtain⟨h1,h2,h3,h4,_,h5,h6⟩:=h;dsimp only at*
 refine cf ?_;unfold qN aY bi bt b7 cW cY dN bn bR bI bc c7 aH cS;refine cC (l! w2) (λi x=>x.1=(i:Int)/\x.2.1=(w1,w2,N,A,F,L)/\x.2.2.2=(-1,aF i (-1,[]))) ?_ ?_ ⟨rfl,rfl,rfl⟩
 .rintro i ⟨a,b,c,d,e⟩ hi ⟨e1,e2,z⟩;simp only[aI]at e1 e2 z;obtain⟨rfl,rfl⟩:=z;subst e1 e2;with_reducible repeat' first|apply OS.ok;constructor|refine IM.mk λ_=>?_
  all_goals try simp only[ak,pE] at*
  all_goals first|omega|(simp;omega)|skip
  exact⟨fA,by rw[wq]⟩
 rintro⟨a,b,c,d,e⟩ ⟨e1,e2,z⟩;simp only[aI]at e1 e2 z;obtain⟨rfl,rfl⟩:=z;subst e1 e2;refine aW (λD=>(by dsimp only[ak]at D;omega)) λ_=>?_
 refine aw (P:=λs=>s=NZ (w1,w2,N,A,F,L)) ?_ λy hy=>aj hy
 refine cC (l! A) (λi x=>x.1=(i:Int)/\x.2.1=(w1,w2,N,A,F,L)/\x.2.2.2=(-1,aF (l! w2) (-1,[]),aF i aa)) ?_ ?_ ⟨rfl,rfl,rfl⟩
 .rintro i ⟨a,b,c,d,e',f⟩ hi ⟨e1,e2,z⟩;simp only[aI]at e1 e2 z;obtain⟨rfl,rfl,rfl⟩:=z;subst e1 e2;with_reducible repeat' first|apply OS.ok;constructor|refine IM.mk λ_=>?_
  all_goals try simp only[ak,pE] at*
  all_goals first|omega|(simp;omega)|skip
  exact⟨fA,by rw[wq]⟩
 rintro⟨a,b,c,d,e',f⟩ ⟨e1,e2,z⟩;simp only[aI]at e1 e2 z;obtain⟨rfl,rfl,rfl⟩:=z;subst e1 e2;refine aW (λD=>(by dsimp only[ak]at D;omega)) λ_=>?_
 refine aw (P:=λs=>s=NZ (w1,w2,N,A,F,L)) ?_ λy hy=>aj hy
 refine cC (l! F) (λi x=>x.1=(i:Int)/\x.2.1=(w1,w2,N,A,F,L)/\x.2.2.2=(-1,aF (l! w2) (-1,[]),aF (l! A) aa,thP i)) ?_ ?_ ⟨rfl,rfl,rfl⟩
 .rintro i ⟨a,b,c,d,e'',f',g⟩ hi ⟨e1,e2,z⟩;simp only[aI]at e1 e2 z;obtain⟨rfl,rfl,rfl,rfl⟩:=z;subst e1 e2;have hl:=QK i;refine aW (λ_=>?_) λD=>(by dsimp only[ak]at D;omega)
  refine gk (aK (λh0=>aj ?_) λh0=>aj ?_)
  .have h0:((i:Nat):Int)=0:=h0;have h0:i=0:=by omega
   subst h0;exact a_ (by simp[thP]) (by omega) (aj ⟨rfl,rfl,rfl⟩)
  .have h0:¬((i:Nat):Int)=0:=h0;obtain⟨j,rfl⟩:∃j,i=j+1:=⟨i-1,by omega⟩
   refine a_ (by dsimp only;rw[hl];simp;omega) (by omega) (aj ⟨fA,rfl,?_⟩);dsimp only;rw[adp]
 rintro⟨a,b,c,d,e'',f',g⟩ ⟨e1,e2,z⟩;simp only[aI]at e1 e2 z;obtain⟨rfl,rfl,rfl,rfl⟩:=z;subst e1 e2;refine aW (λD=>(by dsimp only[ak]at D;omega)) λ_=>aj rfl
variable {B:WT}
def WP (h:VL B):SB 0 (NZ B):=by
 obtain⟨h1,h2,F,D,_,A,z⟩:=h;refine ⟨by omega,by simp[NZ];omega,λl d=>?_,by simp[NZ];omega,by simp[NZ,QK];omega⟩;rw[List.eq_of_mem_replicate d];simp
def YB (w:WT) (h:VL w):Ok (qN w) λs=>SB 0 s:=aei (Nr w h) (WP h)
def D_ (w:WT) (h:VL w):oh w=Z (NZ w,ce0 w,fu0 w,aF (l! w.2.2.2.2.1) 0):=by
 have N:=Nr w h;have hd:(NZ w)=NZ w:=rfl;obtain⟨w1,w2,L,D,A,F⟩:=w;obtain⟨h1,h2,h3,h4,_,h5,h6⟩:=h;dsimp only at*
 refine cf ?_;unfold oh aY bi bt bN cY bR bI bY bc c7 aH cS;refine aQ N ?_;with_reducible repeat' first|apply OS.ok;constructor|refine IM.mk λ_=>?_
 all_goals try simp only[ak,pE] at*
 all_goals first|omega|skip
 refine cC (l! w1) (λi x=>x.1=(i:Int)/\x.2.1=(w1,w2,L,D,A,F)/\x.2.2.2=(NZ (w1,w2,L,D,A,F),(w1.take i).map (λc=>c.2.2.2.2),aF (l! D) 0,aF (l! A) 0)) ?_ ?_ ⟨rfl,rfl,rfl⟩
 .rintro i ⟨a,b,c,d,e,f,g⟩ hi ⟨e1,e2,z⟩;simp only[aI]at e1 e2 z;obtain⟨rfl,rfl,rfl,rfl⟩:=z;subst e1 e2;with_reducible repeat' first|apply OS.ok;constructor|refine IM.mk λ_=>?_
  all_goals try simp only[ak,pE] at*
  all_goals first|omega|(simp;omega)|skip
  exact⟨fA,by rw[sE (T:=mD) hi,da];rfl⟩
 rintro⟨a,b,c,d,e,f,g⟩ ⟨e1,e2,z⟩;simp only[aI]at e1 e2 z;obtain⟨rfl,rfl,rfl,rfl⟩:=z;subst e1 e2;refine aW (λg4=>(by dsimp only[ak]at g4;omega)) λ_=>aj ?_
 rw[bW];rfl
def Yz (w:WT) (h:VL w):Ok (oh w) λs=>NB 0 s/\l! s.2.1=l! w.1/\l! s.2.2.1=l! w.2.2.2.1/\l! s.2.2.2=l! w.2.2.2.2.1:=
 aei (D_ w h) ⟨⟨WP h,by have:=h.c;simp[ce0];omega,by have:=h.f;simp[fu0];omega,by have:=h.t;simp;omega⟩,by simp[ce0],by simp[fu0],by simp⟩
def ED (l:Y ET) (i t:Int) (d:η) (hl:l! l<=1000000000) (hi:0<=i/\i<=l! l) (hn:l! d<=1000000000):Ok (og (l,i,t,d)) λb=>b=J->∀y∈d,Eb (l.take i.toNat) t y:=by
 unfold og aY bN bn bR iK bY bc c7 aH cS;refine cC (l! d) (λk x=>x=(k:Int)/\∀j:Nat,j<k->Eb (l.take i.toNat) t (geti aP d (j:Int))) ?_ ?_ ⟨rfl,λj hj=>(by omega)⟩
 .rintro k x hk ⟨rfl,N⟩;refine aW (λF=>?_) λF=>(by dsimp only[ak]at F;omega)
  refine nL (λx=>(i-x.2.2).toNat) (λx=>0<=x.2.2/\x.2.2<=i/\x.1=(l! (fl (l.take x.2.2.toNat) t):Int)/\(x.2.1=J->Eb (l.take x.2.2.toNat) t (geti aP d (k:Int)))) ?_ ⟨by simp,hi.1,by simp[fl],nofun⟩;rintro⟨a,b,(c:Int)⟩ ⟨L,c1,ha,A⟩;dsimp only at L c1 ha A;subst ha;obtain⟨c,rfl⟩:∃n:Nat,c=(n:Int):=⟨c.toNat,by omega⟩
  rw[bF]at A;dsimp only;rw[bF];have hfl:=Fj (l.take c) t;have htl:=gK c l;refine aW (λD=>?_) λD=>?_
  .have D:(c:Int)<i:=D;have htk:l.take (c+1)=l.take c++[geti gx l (c:Int)]:=sE (T:=gx) (by omega);refine aV (λy=>y.1=(l! (fl (l.take (c+1)) t):Int)/\(y.2=J->Eb (l.take (c+1)) t (geti aP d (k:Int)))) ?_ ?_
   .rw[htk,Bo];refine aJ L (by first|omega|(dsimp only;omega)) (aT ?_);refine cj (λhne=>aj ⟨by rw[Bn hne];simp,λh=>(A h).app _⟩) λhe=>?_
    have he:(geti gx l (c:Int)).1=t:=he;refine aV (λy=>y=J->Eb (l.take c++[geti gx l (c:Int)]) t (geti aP d (k:Int))) ?_ λy hy=>aj ⟨?_,hy⟩
    .refine aM (λh=>aj λ_=>(A h).app _) λ_=>?_
     refine aJ (by omega) (by first|omega|(dsimp only;omega)) (aT ?_);refine aK (λhn=>?_) λ_=>aj nofun
     have z:uP (geti gx l (c:Int))=J->Eb (l.take c++[geti gx l (c:Int)]) t (geti aP d (k:Int)):=λh=>by
      rw[<- he]at hn ⊢;exact Eb.last h hn.symm
     refine aJ L (by first|omega|(dsimp only;omega)) (aT ?_);refine aK (λh=>aj λ_=>z (by unfold uP;rw[bj h];rfl)) λ_=>?_
     exact aJ L (by first|omega|(dsimp only;omega)) (aT (aj λh=>z (by unfold uP;rw[h];simp)))
    .dsimp only;rw[G7 he,fA];simp
   .rintro⟨p,q⟩ ⟨hp,z⟩;refine aj ?_;dsimp only at hp z ⊢;rw[fA,bF];exact⟨⟨by omega,by omega,hp,z⟩,by omega⟩
  .refine aw (P:=λr=>match r with|.inl y=>y=((k+1:Nat):Int)/\∀j:Nat,j<k+1->Eb (l.take i.toNat) t (geti aP d (j:Int))|.inr r=>r=J->∀y∈d,Eb (l.take i.toNat) t y) ?_ λr hr=>aj ?_
   .refine di (λ_=>aj nofun) λh=>aj ⟨fA,λj hj=>?_⟩
    rcases bu j k with h1|h1
    .exact N j h1
    .have:=A h;have hci:c=i.toNat:=by have D:i<=(c:Int):=D;omega
     rw[show j=k by omega,<-hci];exact this
   .cases r with
    |_=>exact hr
 .rintro x ⟨rfl,N⟩;refine aW (λF=>(by dsimp only[ak]at F;omega)) λ_=>aj λ_=>iS (T:=aP) N
def CN (l:Y ET) (c:η):Prop:=∀t:Int,0<=t->t<l! c->geti aP c t=(l! (fl l t):Int)
def PN (xs:Y T.den) (j k:Int) (x:T.den) (A:0<=j) (d:j<l! xs) (z:0<=k):geti _ (cJ xs j x) k=if k=j then x else geti _ xs k:=by
 unfold geti cJ;rw[aB,aB,db];by_cases h:k=j
 .subst h;rw[aG rfl,aG rfl,aG (by omega)];rfl
 .rw[aA (by omega),aA h]
def CN.next (h:CN Q A) (e:ET) (h0:0<=e.1) (h1:e.1<l! A) (D:l! Q<1000000):CN (Q++[e]) (cJ A e.1 (be .i64 (geti aP A e.1+1))):=λt z d=>by
 rw[cR]at d;have:=Fj Q e.1;rw[PN (T:=aP) _ _ _ _ h0 h1 z,Bo];split
 .rename_i h2;subst h2;rw[G7 rfl,h _ h0 h1,fA];simp
 .rename_i h2;rw[Bn λc=>h2 c.symm,h _ z d];simp
def CN.bd (h:CN Q A) (t:Int):(geti aP A t:Int)<=l! Q:=by
 have key:∀z:Int,geti aP A t=z->z<=l! Q:=by
  intro z e;rcases bu t.toNat (l! A) with g|g
  .have h1:=h (t.toNat:Int) (by omega) (by omega);have h2:=Fj Q ((t.toNat:Nat):Int);have d:geti aP A t=geti aP A ((t.toNat:Nat):Int):=by unfold geti;rw[bF]
   have c:z=(l! (fl Q ((t.toNat:Nat):Int)):Int):=e.symm.trans (d.trans h1);omega
  .have:z=0:=by
    rw[<- e];unfold geti;rw[aB,bK g];rfl
   omega
 exact key _ rfl
structure Sy (w:WT) (e:ET):Prop where
 nm:NM w e.2.1 e.2.2.1
 t0:0<=e.1
 t1:e.1<l! w.2.2.2.2.1
 cd:∀c∈w.2.2.1,0<=c.2/\c.2<l! w.2.1
def ahj (w:WT) (l:Y ET):Ok (ol (w,l)) λy=>y.2=0->(VL w/\SV0 w)/\(∀e∈l,Sy w e)/\∃sy ce fu,Ky w l sy ce fu:=by
 unfold ol b7 bN dN bR bY bc c7 aH cS;refine aW (λ_=>aj nofun) λhl=>?_
 dsimp only[ak]at hl;refine aw (Dl w) λb hb=>?_
 refine di (λ_=>aj nofun) λh=>?_
 obtain⟨L,hsv⟩:=hb h;refine aQ (D_ w L) ?_;have hs:NB 0 (NZ w,ce0 w,fu0 w,aF (l! w.2.2.2.2.1) 0):=⟨WP L,by have:=L.c;simp[ce0];omega,by have:=L.f;simp[fu0];omega,by have:=L.t;simp;omega⟩
 have hw:l! w.2.2.1<=1000:=by have:=L.d;omega
 refine cC (l! l) (λi x=>x.1=(i:Int)/\x.2.1=(w,l)/\NB i x.2.2/\(∀k:Nat,k<i->Sy w (geti gx l (k:Int)))/\Ky w (l.take i) x.2.2.1 x.2.2.2.1 x.2.2.2.2.1/\CN (l.take i) x.2.2.2.2.2/\l! x.2.2.2.2.2=l! w.2.2.2.2.1) ?_ ?_ ⟨rfl,rfl,hs,λk hk=>(by omega),.nil,λt t0 t1=>?_,by simp⟩
 .rintro i ⟨a,b,s⟩ hi ⟨e1,e2,e3,e4,N,e6,e7⟩;dsimp only at e1 e2 e3 e4 N e6 e7;subst e1 e2;refine aW (λA=>?_) λA=>(by dsimp only[ak]at A;omega)
  refine eQ (aT ?_);have hmem:=bZ (T:=gx) (xs:=l) (j:=(i:Int)) (by omega) (by omega);have hbd:=e6.bd (geti gx l (i:Int)).1;have htl:=gK i l;have hbd:(geti aP s.2.2.2 (geti gx l (i:Int)).1:Int)<=1000000:=by
   refine fk hbd ?_;omega
  refine aw (Cn w s e3 hw _ (.inr (fk hbd (by decide))) (.inr (fk hbd (by decide)))) λy hy=>?_
  have d1:y.2=J->(geti gx l (i:Int)).2.2.2.2.2.1.length<=1000000000:=λh=>by
   have h3:((geti gx l (i:Int)).2.2.2.2.2.1.length:Int)<=max (0:Int) (geti aP s.2.2.2 (geti gx l (i:Int)).1):=(hy.1 h).2.2.1.nd.len;have h4:max (0:Int) (geti aP s.2.2.2 (geti gx l (i:Int)).1)<=1000000:=zX.2 ⟨by decide,hbd⟩;have:=fk h3 h4;omega
  have d2:y.2=J->(geti gx l (i:Int)).2.2.2.2.2.2.length<=1000000000:=λh=>by
   have h3:((geti gx l (i:Int)).2.2.2.2.2.2.length:Int)<=max (0:Int) (geti aP s.2.2.2 (geti gx l (i:Int)).1):=(hy.1 h).2.2.1.nf.len;have h4:max (0:Int) (geti aP s.2.2.2 (geti gx l (i:Int)).1)<=1000000:=zX.2 ⟨by decide,hbd⟩;have:=fk h3 h4;omega
  refine aV (λx=>x.2.1=(w,l)/\x.2.2.2=y.1/\(x.1=aa->y.2=J/\(∀z∈(geti gx l (i:Int)).2.2.2.2.2.1,Eb (l.take i) (geti gx l (i:Int)).1 z)/\∀z∈(geti gx l (i:Int)).2.2.2.2.2.2,Eb (l.take i) (geti gx l (i:Int)).1 z)) ?_ ?_
  .refine di (λ_=>aj ⟨rfl,rfl,nofun⟩) λh=>?_
   refine aw (ED l _ _ _ (by omega) ⟨by dsimp only;omega,by dsimp only;omega⟩ (d1 h)) λb1 hr1=>?_
   refine di (λ_=>aj ⟨rfl,rfl,nofun⟩) λhb1=>?_
   refine aw (ED l _ _ _ (by omega) ⟨by dsimp only;omega,by dsimp only;omega⟩ (d2 h)) λb2 hr2=>aj ⟨rfl,rfl,λhb2=>⟨h,hr1 hb1,hr2 (by simpa using hb2)⟩⟩
  .rintro⟨c,p,q,r⟩ ⟨f1,f2,f3⟩;dsimp only at f1 f2 f3;subst f1 f2;refine aM (λ_=>aj nofun) λh=>?_
   obtain⟨f4,r1,r2⟩:=f3 h;obtain⟨D,g2,F,A⟩:=hy.1 f4;refine aj ?_;dsimp only;have htk:l.take (i+1)=l.take i++[geti gx l (i:Int)]:=sE (T:=gx) hi;have hc:=e6 _ D.t0 (by rw[e7];exact D.t1);have hnx:=ey Prod.fst A;have hac:=N.snoc (e:=geti gx l (i:Int)) ⟨D,F.rd,F.s1,F.s2,F.de,F.fr,by rw[<- hc];exact F.nd,by rw[<- hc];exact F.nf,r1,r2,F.va⟩;refine ⟨fA,rfl,g2.NB e3 (by omega),λk hk=>?_,by rw[htk,A];exact hac,by rw[htk,A];exact e6.next _ D.t0 (by rw[e7];exact D.t1) (by rw[cv];omega),by rw[A];unfold Wo;rw[cR];exact e7⟩;rcases bu k i with h1|h1
   .exact e4 k h1
   .rw[show k=i by omega];exact⟨D.nm,D.t0,D.t1,D.cd⟩
 .rintro⟨a,b,s⟩ ⟨e1,e2,e3,e4,N,_⟩;dsimp only at e1 e2 e3 e4 N;subst e1 e2;rw[bW]at N;refine aW (λA=>(by dsimp only[ak]at A;omega)) λ_=>aj λ_=>⟨⟨L,hsv⟩,iS (T:=gx) e4,_,_,_,N⟩
 .rw[cm]at t1;obtain⟨t,rfl⟩:∃n:Nat,t=(n:Int):=⟨t.toNat,by omega⟩
  rw[AG,aB,fJ];split<;>simp[fl]
end
end Go.Proofs.YtlimcnhpkfopcaaGreatDoor.AI
