/-
  Texts of the proof, part 1 of 5: what is used to prove the statement. No condition.
-/
import Derived.WalkKit
import Derived.Lib.Hide
import Derived.Deep.QuietTactic
namespace Prod
variable {A0 A1 A2 A3 A4 A5 A6 A7 A8 A9 A10 A11 A12 A13 A14 A15 A16 A17 A18 A19 A20 A21 A22 A23 A24:Type}
abbrev a (x:A0×A1×A2×A3):A2:=x.2.2.1
abbrev b (x:A0×A1×A2×A3×A4):A3:=x.2.2.2.1
abbrev d (x:A0×A1×A2×A3):A3:=x.2.2.2
abbrev c (x:A0×A1×A2×A3×A4×A5):A4:=x.2.2.2.2.1
abbrev g (x:A0×A1×A2×A3×A4):A4:=x.2.2.2.2
abbrev e (x:A0×A1×A2×A3×A4×A5×A6):A5:=x.2.2.2.2.2.1
abbrev h (x:A0×A1×A2×A3×A4×A5):A5:=x.2.2.2.2.2
abbrev f (x:A0×A1×A2×A3×A4×A5×A6×A7):A6:=x.2.2.2.2.2.2.1
abbrev k (x:A0×A1×A2×A3×A4×A5×A6):A6:=x.2.2.2.2.2.2
abbrev j (x:A0×A1×A2×A3×A4×A5×A6×A7×A8):A7:=x.2.2.2.2.2.2.2.1
abbrev p (x:A0×A1×A2×A3×A4×A5×A6×A7):A7:=x.2.2.2.2.2.2.2
abbrev m (x:A0×A1×A2×A3×A4×A5×A6×A7×A8×A9):A8:=x.2.2.2.2.2.2.2.2.1
abbrev s (x:A0×A1×A2×A3×A4×A5×A6×A7×A8):A8:=x.2.2.2.2.2.2.2.2
abbrev o (x:A0×A1×A2×A3×A4×A5×A6×A7×A8×A9×A10):A9:=x.2.2.2.2.2.2.2.2.2.1
abbrev B (x:A0×A1×A2×A3×A4×A5×A6×A7×A8×A9):A9:=x.2.2.2.2.2.2.2.2.2
abbrev l (x:A0×A1×A2×A3×A4×A5×A6×A7×A8×A9×A10×A11):A10:=x.2.2.2.2.2.2.2.2.2.2.1
abbrev w (x:A0×A1×A2×A3×A4×A5×A6×A7×A8×A9×A10):A10:=x.2.2.2.2.2.2.2.2.2.2
abbrev n (x:A0×A1×A2×A3×A4×A5×A6×A7×A8×A9×A10×A11×A12):A11:=x.2.2.2.2.2.2.2.2.2.2.2.1
abbrev v (x:A0×A1×A2×A3×A4×A5×A6×A7×A8×A9×A10×A11):A11:=x.2.2.2.2.2.2.2.2.2.2.2
abbrev i (x:A0×A1×A2×A3×A4×A5×A6×A7×A8×A9×A10×A11×A12×A13):A12:=x.2.2.2.2.2.2.2.2.2.2.2.2.1
abbrev y (x:A0×A1×A2×A3×A4×A5×A6×A7×A8×A9×A10×A11×A12):A12:=x.2.2.2.2.2.2.2.2.2.2.2.2
abbrev q (x:A0×A1×A2×A3×A4×A5×A6×A7×A8×A9×A10×A11×A12×A13×A14):A13:=x.2.2.2.2.2.2.2.2.2.2.2.2.2.1
abbrev z (x:A0×A1×A2×A3×A4×A5×A6×A7×A8×A9×A10×A11×A12×A13):A13:=x.2.2.2.2.2.2.2.2.2.2.2.2.2
abbrev t (x:A0×A1×A2×A3×A4×A5×A6×A7×A8×A9×A10×A11×A12×A13×A14×A15):A14:=x.2.2.2.2.2.2.2.2.2.2.2.2.2.2.1
abbrev r (x:A0×A1×A2×A3×A4×A5×A6×A7×A8×A9×A10×A11×A12×A13×A14):A14:=x.2.2.2.2.2.2.2.2.2.2.2.2.2.2
abbrev u (x:A0×A1×A2×A3×A4×A5×A6×A7×A8×A9×A10×A11×A12×A13×A14×A15×A16):A15:=x.2.2.2.2.2.2.2.2.2.2.2.2.2.2.2.1
abbrev F (x:A0×A1×A2×A3×A4×A5×A6×A7×A8×A9×A10×A11×A12×A13×A14×A15):A15:=x.2.2.2.2.2.2.2.2.2.2.2.2.2.2.2
abbrev C (x:A0×A1×A2×A3×A4×A5×A6×A7×A8×A9×A10×A11×A12×A13×A14×A15×A16×A17):A16:=x.2.2.2.2.2.2.2.2.2.2.2.2.2.2.2.2.1
abbrev E (x:A0×A1×A2×A3×A4×A5×A6×A7×A8×A9×A10×A11×A12×A13×A14×A15×A16):A16:=x.2.2.2.2.2.2.2.2.2.2.2.2.2.2.2.2
abbrev D (x:A0×A1×A2×A3×A4×A5×A6×A7×A8×A9×A10×A11×A12×A13×A14×A15×A16×A17×A18):A17:=x.2.2.2.2.2.2.2.2.2.2.2.2.2.2.2.2.2.1
abbrev G (x:A0×A1×A2×A3×A4×A5×A6×A7×A8×A9×A10×A11×A12×A13×A14×A15×A16×A17):A17:=x.2.2.2.2.2.2.2.2.2.2.2.2.2.2.2.2.2
abbrev H (x:A0×A1×A2×A3×A4×A5×A6×A7×A8×A9×A10×A11×A12×A13×A14×A15×A16×A17×A18×A19):A18:=x.2.2.2.2.2.2.2.2.2.2.2.2.2.2.2.2.2.2.1
abbrev I (x:A0×A1×A2×A3×A4×A5×A6×A7×A8×A9×A10×A11×A12×A13×A14×A15×A16×A17×A18×A19×A20):A19:=x.2.2.2.2.2.2.2.2.2.2.2.2.2.2.2.2.2.2.2.1
abbrev K (x:A0×A1×A2×A3×A4×A5×A6×A7×A8×A9×A10×A11×A12×A13×A14×A15×A16×A17×A18×A19×A20×A21):A20:=x.2.2.2.2.2.2.2.2.2.2.2.2.2.2.2.2.2.2.2.2.1
abbrev L (x:A0×A1×A2×A3×A4×A5×A6×A7×A8×A9×A10×A11×A12×A13×A14×A15×A16×A17×A18×A19×A20×A21):A21:=x.2.2.2.2.2.2.2.2.2.2.2.2.2.2.2.2.2.2.2.2.2
end Prod
namespace Go.Proofs.YtcmnmakaoonfgaaGreatDoor.AI
open Go.RowKit
set_option maxRecDepth 100000
set_option maxHeartbeats 4000000
set_option linter.unusedVariables false
set_option linter.unusedSimpArgs false
set_option linter.defProp false
open _root_.Array renaming length_toList→iS,replicate→ua
open _root_.Bool renaming true→J,false→aa
open _root_.Int renaming ofNat_eq_natCast→al,ofNat→aP,toNat→aQ,reduceEq→bz,reduceNeg→bB,toNat_natCast→cf,le_trans→s7,tmod→Cc
open IntKind renaming wrap→pX
open _root_.List renaming length→l!,length→ah,replicate→aF,length_cons→bK,length_singleton→cj,take→dF,getElem?_cons_zero→dH,cons_append→gG,range→iR,foldl_cons→t_,take_succ_cons→xF
open _root_.Nat renaming beq→aA,testBit→aK,ble→dK,blt→ef,min→jH,mul_assoc→Ez
open _root_.Option renaming some→Z,none→U,bind_some→aB,getD_some→nY
open _root_.Prod renaming a→a8,b→bt,c→bI,d→b_,e→cA,h→dj,g→dJ,f→dO,k→fD,p→pV
open Region renaming binds→B9,ready→J1
open _root_.Sum renaming inr→cv,inl→wF
open World renaming shape?→sZ,cell?→Qm
noncomputable section
abbrev Y:=@List
abbrev M:=@Option
abbrev av:=@if_neg
abbrev aC:=@if_pos
abbrev aR:=@decide_eq_true
abbrev bk:=@if_true
abbrev bD:=@of_decide_eq_true
abbrev bR:=@decide_eq_true_eq
abbrev cm:=@beq_self_eq_true
abbrev co:=@absurd
abbrev cD:=@decide_eq_false
abbrev cG:=@beq_iff_eq
abbrev c7:=@if_false
abbrev dT:=@congrArg
abbrev fJ:=@or_false
abbrev WD:=@of_decide_eq_false
abbrev af:=@Option.some.injEq
abbrev ak:=@Bool.and_eq_true
abbrev au:=@Nat.eq_of_beq_eq_true
abbrev ax:=@List.getD_eq_getElem?_getD
abbrev aD:=@List.getElem?_eq_getElem
abbrev aE:=@List.mem_singleton
abbrev aG:=@Prod.mk.injEq
abbrev aT:=@List.getElem?_map
abbrev aU:=@Nat.le_of_ble_eq_true
abbrev aW:=@Nat.ble_eq_true_of_le
abbrev aX:=@List.mem_of_getElem?
abbrev aZ:=@List.mem_cons
abbrev bc:=@List.length_append
abbrev bi:=@List.getElem?_eq_some_iff
abbrev bj:=@List.getElem?_append_left
abbrev bn:=@Nat.testBit_or
abbrev bx:=@Nat.lt_or_ge
abbrev bE:=@Array.getElem?_toList
abbrev bF:=@Nat.zero_add
abbrev bG:=@List.mem_append
abbrev bH:=@List.length_map
abbrev bJ:=@List.getElem?_eq_none
abbrev bM:=@List.mem_cons_of_mem
abbrev bO:=@List.getElem?_append_right
abbrev bQ:=@List.length_take
abbrev bV:=@Nat.le_refl
abbrev bY:=@Bool.false_eq_true
abbrev bZ:=@List.map_cons
abbrev ch:=@List.mem_map
abbrev cr:=@List.take_length
abbrev cu:=@List.not_mem_nil
abbrev cw:=@Array.getElem?_eq_some_iff
abbrev cJ:=@List.map_append
abbrev cQ:=@Nat.mul_le_mul_right
abbrev cR:=@List.mem_cons_self
abbrev cS:=@List.getElem?_take
abbrev cV:=@Bool.not_eq_true'
abbrev c4:=@List.length_replicate
abbrev c6:=@List.getElem?_set
abbrev c8:=@Nat.le_trans
abbrev dv:=@Option.map_eq_some_iff
abbrev dw:=@Nat.lt_of_lt_of_le
abbrev dC:=@Int.le_refl
abbrev dG:=@List.length_eq_zero_iff
abbrev eh:=@Bool.true_and
abbrev eO:=@List.foldl_append
abbrev eU:=@Int.natCast_nonneg
abbrev eV:=@Bool.false_and
abbrev eW:=@Nat.beq_refl
abbrev fk:=@List.cons.injEq
abbrev fC:=@Bool.and_self
abbrev fK:=@Option.some.inj
abbrev fL:=@List.length_set
abbrev fU:=@Nat.le_succ_of_le
abbrev fV:=@List.map_take
abbrev fW:=@List.flatMap_cons
abbrev gg:=@List.getElem?_of_mem
abbrev gp:=@List.take_of_length_le
abbrev gH:=@List.all_eq_true
abbrev gI:=@List.map_congr_left
abbrev gZ:=@Array.getD_eq_getD_getElem?
abbrev hP:=@List.getElem?_replicate
abbrev ij:=@List.mem_of_mem_take
abbrev ik:=@List.mem_append_left
abbrev il:=@List.getElem?_drop
abbrev iD:=@Nat.succ_mul
abbrev iE:=@Nat.ne_of_beq_eq_false
abbrev iI:=@Array.getElem?_eq_getElem
abbrev iU:=@List.take_append_of_le_length
abbrev iV:=@List.append_assoc
abbrev jB:=@Option.isSome_iff_exists
abbrev jJ:=@Bool.or_eq_true
abbrev kL:=@Nat.or_assoc
abbrev kM:=@List.size_toArray
abbrev kN:=@List.map_map
abbrev kU:=@Nat.not_lt_zero
abbrev lH:=@List.getElem?_toArray
abbrev mr:=@Nat.zero_le
abbrev mZ:=@List.append_nil
abbrev nu:=@List.length_take_le
abbrev nZ:=@Nat.lt_succ_self
abbrev n_:=@List.length_drop
abbrev oT:=@List.mem_range
abbrev oV:=@List.mem_append_right
abbrev pW:=@List.take_succ_eq_append_getElem
abbrev qP:=@Nat.add_assoc
abbrev q_:=@Array.getElem?_setIfInBounds_ne
abbrev ri:=@List.getElem?_range
abbrev sh:=@List.mem_flatMap
abbrev sj:=@List.ext_getElem
abbrev sD:=@List.drop_append_of_le_length
abbrev s5:=@Nat.eq_zero_or_pos
abbrev s6:=@List.drop_of_length_le
abbrev t7:=@Nat.min_eq_left
abbrev uv:=@List.contains_iff_mem
abbrev uJ:=@Nat.lt_succ_of_lt
abbrev wh:=@Nat.zero_or
abbrev wn:=@List.replicate_succ'
abbrev wq:=@Bool.and_eq_true_iff
abbrev wI:=@Nat.mul_comm
abbrev wK:=@List.drop_append
abbrev xd:=@Classical.byContradiction
abbrev xH:=@List.drop_succ_cons
abbrev yR:=@List.eq_of_mem_replicate
abbrev Ca:=@Nat.sub_self
abbrev Dz:=@List.take_append_drop
abbrev DA:=@List.length_filter_le
abbrev Et:=@List.getElem_mem
abbrev EA:=@Nat.lt_irrefl
abbrev HZ:=@List.sum_append
abbrev H0:=@List.mem_filter
abbrev NC:=@Int.not_lt
abbrev Qn:=@Nat.lt_trichotomy
abbrev Qp:=@Nat.add_mul
abbrev Qq:=@Bool.eq_false_iff
abbrev η:=Y Int
abbrev ζ:=Y UInt8
abbrev θ:=Y Bool
abbrev ι:=Y Nat
abbrev ξ:=Y Value
abbrev ω:=Int×Int×Int×Int×Int×Int
abbrev υ:=Int×Int×Int×Int×Int
abbrev π:=Int×Int×Int
abbrev ν:=Int×Int
inductive FV where
 |raw (v:Value)
 |sl (cells:List FV) (n:Nat)
 |H (cells:List FV) (off:Nat)
 |agg (cells:List FV)
inductive AV where
 |f (x:FV)
 |H (id off:Nat)
 |sl (id off n:Nat)
 |G (id sz n:Nat)
 |mp (id:Nat)
 |emp
 |qw
 |qd (cells:List FV) (n:Nat)
 |agg (cells:List AV)
 |qg (vs:List AV)
 |qy (g:FuncId) (cap:List AV)
def FV.isCell:FV->Bool
 |.raw v=>v.oneCell'
 |.sl _ _=>J
 |.H _ _=>J
 |.agg _=>aa
def AV.isCell:AV->Bool
 |.f x=>x.isCell
 |.H _ _=>J
 |.sl _ _ _=>J
 |.G _ _ _=>J
 |.mp _=>J
 |.emp=>J
 |.qy _ _=>J
 |_=>aa
inductive mX (O:Nat->Prop) (w:World):FV->Value->Prop
 |raw (v:Value):mX O w (.raw v) v
 |nil (a:Option Addr) (c:Nat) (hc:c<=maxLen):mX O w (.sl [] 0) (.slice a 0 c)
 |sl (cells:List FV) (n c b off:Nat) (us:Nat->Value) (hn:n<=c) (hc:c<=maxLen) (hO:¬O b) (hb:b<w.heap.size)
   (hcl:∀x∈cells,x.isCell=J)
   (hu:∀j,j<l! cells->w.cell? ⟨b,off+j,U⟩=Z (us j)) (hr:∀(j:Nat) x,cells[j]? =Z x->mX O w x (us j)):
   mX O w (.sl cells n) (.slice (Z ⟨b,off,U⟩) n c)
 |H (cells:List FV) (o b off:Nat) (us:Nat->Value) (hO:¬O b) (hb:b<w.heap.size)
   (hcl:∀x∈cells,x.isCell=J)
   (hu:∀j,j<l! cells->w.cell? ⟨b,off+j,U⟩=Z (us j)) (hr:∀(j:Nat) x,cells[j]? =Z x->mX O w x (us j)):
   mX O w (.H cells o) (.pointer (Z ⟨b,off+o,U⟩))
 |agg (cells:List FV) (vs:ξ) (hl:l! vs=l! cells) (hcl:∀x∈cells,x.isCell=J)
   (hr:∀(j:Nat) x v,cells[j]? =Z x->vs[j]? =Z v->mX O w x v):mX O w (.agg cells) (.agg vs.toArray)
abbrev PM:=Nat->M Nat
inductive cq (φ:PM) (O:Nat->Prop) (w:World):AV->Value->Prop
 |f {x:FV} {v:Value} (h:mX O w x v):cq φ O w (.f x) v
 |H {id off b:Nat} (h:φ id=Z b):cq φ O w (.H id off) (.pointer (Z ⟨b,off,U⟩))
 |sl {id off n c b:Nat} (h:φ id=Z b) (hn:n<=c) (hc:c<=maxLen):cq φ O w (.sl id off n) (.slice (Z ⟨b,off,U⟩) n c)
 |G {id sz n c b:Nat} (h:φ id=Z b) (hn:n<=c) (hc:c<=maxLen) (hs:∃ty,w.shape? b=Z (ty,c*sz)):
   cq φ O w (.G id sz n) (.slice (Z ⟨b,0,U⟩) n c)
 |emp {a:Option Addr}:cq φ O w .emp (.slice a 0 0)
 |qw {b:Bool}:cq φ O w .qw (.bool b)
 |qd {cells:List FV} {n:Nat} {a:Option Addr} (h:mX O w (.sl cells n) (.slice a n n)):cq φ O w (.qd cells n) (.slice a n n)
 |mp {id b:Nat} (h:φ id=Z b):cq φ O w (.mp id) (.map (Z b))
 |agg {cells:List AV} {vs:ξ} (hl:l! vs=l! cells) (hcl:∀x∈cells,x.isCell=J)
   (hr:∀(j:Nat) x v,cells[j]? =Z x->vs[j]? =Z v->cq φ O w x v):cq φ O w (.agg cells) (.agg vs.toArray)
 |qg {cells:List AV} {vs:ξ} (hl:l! vs=l! cells)
   (hr:∀(j:Nat) x v,cells[j]? =Z x->vs[j]? =Z v->cq φ O w x v):cq φ O w (.qg cells) (.tuple vs.toArray)
 |qy {g:FuncId} {cells:List AV} {vs:ξ} (hl:l! vs=l! cells)
   (hr:∀(j:Nat) x v,cells[j]? =Z x->vs[j]? =Z v->cq φ O w x v):cq φ O w (.qy g cells) (.func (.func g) #[] vs.toArray)
structure Gt (O:Nat->Prop) (w w':World):Prop where
 os:w'.os=w.os
 tape:w'.tape=w.tape
 output:w'.output=w.output
 size:w.heap.size<=w'.heap.size
 jb:∀k,k<w.heap.size->¬O k->w'.heap[k]? =w.heap[k]?
 jh:∀k,k<w.heap.size->w'.shape? k=w.shape? k
def Gt.refl (O:Nat->Prop) (w:World):Gt O w w:=⟨rfl,rfl,rfl,bV _,λ_ _ _=>rfl,λ_ _=>rfl⟩
variable {w:World} {i:Nat}
def Gh {w':World} (h:w'.heap[i]? =w.heap[i]?) (o:Nat):w'.cell? ⟨i,o,U⟩=w.cell? ⟨i,o,U⟩:=by
 unfold Qm;rw[h]
variable {O:Nat->Prop} {v:Value}
def mX.ext {O':Nat->Prop} {w':World} (he:Gt O w w') (ho:∀k,k<w.heap.size->O' k->O k) {x:FV} (h:mX O w x v):mX O' w' x v:=by
 induction h with
 |raw v=>exact .raw v
 |nil a c hc=>exact .nil a c hc
 |sl cells n c b off L hn hc D z hcl N hr A=>
  exact .sl cells n c b off L hn hc (λh=>D (ho b z h)) (dw z he.size) hcl (λj hj=>by rw[Gh (he.jb b z D)];exact N j hj) A
 |H cells o b off L D z hcl N hr A=>
  exact .H cells o b off L (λh=>D (ho b z h)) (dw z he.size) hcl (λj hj=>by rw[Gh (he.jb b z D)];exact N j hj) A
 |agg cells vs hl hcl hr A=>exact .agg cells vs hl hcl A
variable {V:PM} {y:AV}
def cq.ext {φ':PM} {O':Nat->Prop} {w':World} (D:∀i k,V i=Z k->φ' i=Z k) (he:Gt O w w') (ho:∀k,k<w.heap.size->O' k->O k) (h:cq V O w y v):cq φ' O' w' y v:=by
 induction h with
 |f h=>exact .f (h.ext he ho)
 |H h=>exact .H (D _ _ h)
 |sl h L N=>exact .sl (D _ _ h) L N
 |G h L N hsh=>
  obtain⟨ty,hty⟩:=hsh;refine .G (D _ _ h) L N ⟨ty,?_⟩;rw[he.jh _ ?_];exact hty;unfold sZ at hty;rcases bx _ w.heap.size with hlt|hge
  .exact hlt
  .rw[Array.getElem?_eq_none hge]at hty;cases hty
 |emp=>exact .emp
 |qw=>exact .qw
 |qd h=>exact .qd (h.ext he ho)
 |mp h=>exact .mp (D _ _ h)
 |agg A hcl hr z=>exact .agg A hcl z
 |qg A hr z=>exact .qg A z
 |qy A hr z=>exact .qy A z
inductive BC where
 |fz (l:List FV)
 |mx (l:List AV)
 |mp (es:List (Value×AV))
 |it (s:ByteArray) (pos:Nat)
def BC.get:BC->Nat->M AV
 |.fz l,j=>l[j]?.map AV.f
 |.mx l,j=>l[j]?
 |_,_=>U
def BC.len:BC->Nat
 |.fz l|.mx l=>l! l
 |_=>0
def BC.isCells:BC->Bool
 |.fz _=>J
 |.mx _=>J
 |_=>aa
structure kc where
 ty:TypeId
 c:BC
abbrev HF:=Nat->M kc
def own (φ:PM) (h:HF) (k:Nat):Prop:=∃id b,h id=Z b/\φ id=Z k
def tot (E:Nat->Prop) (φ:PM) (h:HF) (k:Nat):Prop:=E k\/own φ h k
def vb (φ:PM) (O:Nat->Prop) (w:World) (c:BC) (arr:Array Value):Prop:=
 c.len<=arr.size/\∀j x,c.get j=Z x->x.isCell=J/\∃v,arr[j]? =Z v/\cq φ O w x v
def lC (k:Value):Y MapEntry->Value
 |[]=>.slice U 0 0
 |m::r=>match m.key,k with
  |.int .i64 a,.int .i64 b=>if a=b then m.val else lC k r
  |_,_=>lC k r
def yh (k:Value):Prop:=∃n:Int,k= .int .i64 n
abbrev j!:=Value×AV
def Qg (ty:TypeId) (es:Y j!) (ents:Array MapEntry):Prop:=if ty=0 then ents.toList.map (·.key)=es.map (·.1) else (∀m∈ents.toList,yh m.key)/\∀k∈es.map (·.1),yh k
def MpV (ty:TypeId) (ents:Array MapEntry) (j:Nat) (k v:Value):Prop:=if ty=0 then ∃m,ents[j]? =Z m/\v=m.val else v=lC k ents.toList
def gy (φ:PM) (O:Nat->Prop) (w:World) (b:kc) (o:Obj):Prop:=
 match b.c with
 |.mp es=>∃ents clock,o= .map ents clock/\Qg b.ty es ents/\∀(j:Nat) x,es[j]? =Z x->∃v,MpV b.ty ents j x.1 v/\cq φ O w x.2 v
 |.it s p=>o= .stringIter s p
 |c=>∃arr,o= .cells arr b.ty (0,0)/\vb φ O w c arr
def aa5 (φ:PM) (O:Nat->Prop) (w:World) (k:Nat) (b:kc):Prop:=∃o,w.heap[k]? =Z o/\gy φ O w b o
variable {S:kc}
def aa5.cells (h:aa5 V O w i S) (A:S.c.isCells=J):
 ∃arr,w.heap[i]? =Z (.cells arr S.ty (0,0))/\vb V O w S.c arr:=by
 obtain⟨o,h1,z⟩:=h;unfold gy at z;cases D:S.c with
 |fz l|mx l=>rw[D]at z;obtain⟨arr,rfl,L⟩:=z;exact⟨arr,h1,L⟩
 |_=>rw[D]at A;cases A
def gy.mono {φ':PM} {O':Nat->Prop} {w':World} (N:∀x v,cq V O w x v->cq φ' O' w' x v) {o:Obj} (h:gy V O w S o):gy φ' O' w' S o:=by
 unfold gy at h ⊢;cases L:S.c with
 |mp es=>rw[L]at h;obtain⟨e,c,h1,D,A⟩:=h;exact⟨e,c,h1,D,λj x z=>by obtain⟨m,a,S⟩:=A j x z;exact⟨m,a,N _ _ S⟩⟩
 |it s p=>rw[L]at h;exact h
 |_=>rw[L]at h;obtain⟨arr,h1,D,A⟩:=h;exact⟨arr,h1,D,λj x z=>by obtain⟨a,v,c,d⟩:=A j x z;exact⟨a,v,c,N _ _ d⟩⟩
def vb.mono {φ':PM} {O':Nat->Prop} {w':World} (A:∀x v,cq V O w x v->cq φ' O' w' x v) {c:BC} {arr:Array Value} (h:vb V O w c arr):vb φ' O' w' c arr:=
 ⟨h.1,λj x z=>by obtain⟨a,v,c,d⟩:=h.2 j x z;exact⟨a,v,c,A _ _ d⟩⟩
def wz (l:ζ):FV:=.raw (.string ⟨l.toArray⟩)
def Fa:Y FV:=[wz [118,97,114],wz [118,111,108,97,116,105,108,101],wz [109,117,116,101,120],wz [114,119,108,111,99,107],wz [99,111,110,100],wz [102,117,116,117,114,101],wz [116,104,114,101,97,100],wz [105,102],wz [101,108,115,101],wz [119,104,105,108,101],wz [108,111,99,107],wz [114,101,97,100],wz [119,114,105,116,101],wz [116,114,97,110,115,97,99,116,105,111,110],wz [97,116,111,109,105,99],wz [119,97,105,116],wz [110,111,116,105,102,121],wz [110,111,116,105,102,121,97,108,108],wz [115,112,97,119,110],wz [106,111,105,110],wz [115,101,116],wz [103,101,116]]
def G (g:Nat):M (Y FV):=if g==0 then Z Fa else U
structure r_ (φ:PM) (E:Nat->Prop) (h:HF) (w:World):Prop where
 inj:∀i j b b' k,h i=Z b->h j=Z b'->φ i=Z k->φ j=Z k->i=j
 at_:∀i b,h i=Z b->∃k,φ i=Z k/\¬E k/\aa5 φ (tot E φ h) w k b
 el:∀k,E k->k<w.heap.size
 gl:∀g cells,G g=Z cells->mX (tot E φ h) w (.H cells 0) (.pointer (Z ⟨g,0,U⟩))
structure jZ (φ φ':PM) (h h':HF) (w w':World):Prop where
 sub:∀i k,φ i=Z k->φ' i=Z k
 ext:Gt (own φ h) w w'
 qr:∀k,k<w.heap.size->own φ' h' k->own φ h k
def jZ.refl (φ:PM) (h:HF) (w:World):jZ φ φ h h w w:=⟨λ_ _ h=>h,Gt.refl _ _,λ_ _ h=>h⟩
variable {A:HF}
def jZ.trans {φ' φ'':PM} {h' h'':HF} {w' w'':World} (m:jZ V φ' A h' w w') (n:jZ φ' φ'' h' h'' w' w''):jZ V φ'' A h'' w w'' where
 sub:=λi k e=>n.sub i k (m.sub i k e)
 ext:=⟨n.ext.os.trans m.ext.os,n.ext.tape.trans m.ext.tape,n.ext.output.trans m.ext.output,c8 m.ext.size n.ext.size,
  λk z h=>(n.ext.jb k (dw z m.ext.size) (λA=>h (m.qr k z A))).trans (m.ext.jb k z h),
  λk z=>(n.ext.jh k (dw z m.ext.size)).trans (m.ext.jh k z)⟩
 qr:=λk z A=>m.qr k z (n.qr k (dw z m.ext.size) A)
def Gt.mono {O':Nat->Prop} {w':World} (h:Gt O w w') (z:∀k,O k->O' k):Gt O' w w':=
 ⟨h.os,h.tape,h.output,h.size,λk A D=>h.jb k A (λx=>D (z k x)),h.jh⟩
def jZ.zq {φ':PM} {h':HF} {w':World} (m:jZ V φ' A h' w w') (r:cq V (tot O V A) w y v):cq φ' (tot O φ' h') w' y v:=
 r.ext m.sub (m.ext.mono λ_ A=>.inr A) λk h z=>z.elim .inl λo=>.inr (m.qr k h o)
def jZ.keepF {φ':PM} {h':HF} {w':World} (m:jZ V φ' A h' w w') {x:FV} (r:mX (tot O V A) w x v):mX (tot O φ' h') w' x v:=
 r.ext (m.ext.mono λ_ A=>.inr A) λk h z=>z.elim .inl λo=>.inr (m.qr k h o)
abbrev EF:=Nat->M AV
def Qk (φ:PM) (O:Nat->Prop) (w:World) (e:EF) (a:Act):Prop:=∀t x,e t=Z x->cq φ O w x (a.tmps.getD t undef)
def NT (e:EF) (dst:M Nat) (x:AV):EF:=λt=>if dst=Z t then Z x else e t
def e_ (h:HF) (z:ι) (A:HF):HF:=λi=>if i∈z then A i else h i
structure Dy where
 val:AV
 rd:ι
 wr:ι
 nw:HF
 N:ι
def gh (P:Program) (o:Oper) (e:EF) (h:HF) (f:Dy):Prop:=
 ∀(φ:PM) (E:Nat->Prop) (h':HF) (w:World) (a:Act),(∀i∈f.rd,h' i=h i)->(∀i∈f.wr,h' i=h i)->
  (∀t,.tmp t∈o.op.operands->∀y,e t=Z y->cq φ (tot E φ h') w y (a.tmps.getD t undef))->r_ φ E h' w->(∀n∈f.N,φ n=U)->
  o.wp P a w (λz w'=>∃v φ',z=a.put o.dst v/\jZ φ φ' h' (e_ h' f.wr f.nw) w w'/\(∀i k,φ' i=Z k->φ i=Z k\/i∈f.N)/\
   r_ φ' E (e_ h' f.wr f.nw) w'/\cq φ' (tot E φ' (e_ h' f.wr f.nw)) w' f.val v) (λ_ _ _=>False)
def s8:Dy:=⟨.f (.raw undef),[],[],λ_=>U,[]⟩
inductive No (P:Program) (ops:Array Oper) (o:Oper) (f:Dy) (e:EF) (h:HF):Prop
 |run (hg:o.guard=U) (ht:gh P o e h f)
 |runG (j t:Nat) (want:Bool) (hg:o.guard=Z (j,want)) (hj:(ops[j]?).bind (·.dst)=Z t) (he:e t=Z (.f (.raw (.bool want)))) (ht:gh P o e h f)
 |skip (j t:Nat) (want:Bool) (hg:o.guard=Z (j,want)) (hj:(ops[j]?).bind (·.dst)=Z t) (v:Value) (he:e t=Z (.f (.raw v))) (hv:v≠ .bool want) (hf:f=s8)
inductive B8 (P:Program) (ops:Array Oper):List (Oper×Dy)->EF->HF->EF->HF->Prop
 |nil (e:EF) (h:HF):B8 P ops [] e h e h
 |cons {o:Oper} {f:Dy} {r:List (Oper×Dy)} {e e':EF} {h h':HF} (hs:No P ops o f e h)
   (hr:B8 P ops r (NT e o.dst f.val) (e_ h f.wr f.nw) e' h'):B8 P ops ((o,f)::r) e h e' h'
abbrev v!:=Oper×Dy
def ND (S:Nat->Bool):Nat->Y v!->EF->EF
 |_,[],e=>e
 |k,(o,f)::r,e=>ND S (k+1) r (if S k then NT e o.dst f.val else e)
def Ev (S:Nat->Bool):Nat->Y v!->HF->HF
 |_,[],h=>h
 |k,(_,f)::r,h=>Ev S (k+1) r (if S k then e_ h f.wr f.nw else h)
variable {p:Nat->Bool}
def GF {S':Nat->Bool} :∀(l:Y v!) (k:Nat) (e e':EF),e i=e' i->
 (∀(j:Nat) o f,l[j]? =Z (o,f)->o.dst=Z i->p (k+j)=S' (k+j))->ND p k l e i=ND S' k l e' i
 |[],_,_,_,he,_=>he
 |(o,f)::r,k,e,e',he,z=>by
  simp only[ND];refine GF r (k+1) _ _ ?_ (λj o f A hd=>by have:=z (j+1) o f (by simpa using A) hd;rwa [show k+(j+1)=k+1+j from by omega]at this);by_cases hd:o.dst=Z i
  .rw[show p k=S' k from by simpa using z 0 o f rfl hd];split
   .simp[NT,hd]
   .exact he
  .split<;>split<;>simp[NT,hd,he]
def GD {S':Nat->Bool} :∀(l:Y v!) (k:Nat) (e e':HF),e i=e' i->
 (∀(j:Nat) o f,l[j]? =Z (o,f)->i∈f.wr->p (k+j)=S' (k+j))->Ev p k l e i=Ev S' k l e' i
 |[],_,_,_,he,_=>he
 |(o,f)::r,k,e,e',he,z=>by
  simp only[Ev];refine GD r (k+1) _ _ ?_ (λj o f A hd=>by have:=z (j+1) o f (by simpa using A) hd;rwa [show k+(j+1)=k+1+j from by omega]at this);by_cases hd:i∈f.wr
  .rw[show p k=S' k from by simpa using z 0 o f rfl hd];split
   .simp[e_,hd]
   .exact he
  .split<;>split<;>simp[e_,hd,he]
def EL :∀(l:Y v!) (k:Nat) (e:EF),(∀(j:Nat) o f,l[j]? =Z (o,f)->o.dst=Z i->p (k+j)=aa)->ND p k l e i=e i
 |[],_,_,_=>rfl
 |(o,f)::r,k,e,z=>by
  simp only[ND];rw[EL r (k+1) _ (λj o f A hd=>by have:=z (j+1) o f (by simpa using A) hd;rwa [show k+(j+1)=k+1+j from by omega]at this)];split
  .rename_i h;unfold NT;rw[av];intro hd;have:=z 0 o f rfl hd;simp_all
  .rfl
def EK :∀(l:Y v!) (k:Nat) (e:HF),(∀(j:Nat) o f,l[j]? =Z (o,f)->i∈f.wr->p (k+j)=aa)->Ev p k l e i=e i
 |[],_,_,_=>rfl
 |(o,f)::r,k,e,z=>by
  simp only[Ev];rw[EK r (k+1) _ (λj o f A hd=>by have:=z (j+1) o f (by simpa using A) hd;rwa [show k+(j+1)=k+1+j from by omega]at this)];split
  .rename_i h;unfold e_;rw[av];intro hd;have:=z 0 o f rfl hd;simp_all
  .rfl
def SM :∀(l:Y v!) (k t:Nat) (e:EF) (o:Oper) (f:Dy),l[t]? =Z (o,f)->o.dst=Z i->p (k+t)=J->
 (∀(j:Nat) z N,t<j->l[j]? =Z (z,N)->z.dst=Z i->p (k+j)=aa)->ND p k l e i=Z f.val
 |[],_,_,_,_,_,h,_,_,_=>by simp at h
 |(z,N)::r,k,0,e,o,f,h,hd,L,A=>by
  simp only[dH,af,aG]at h;obtain⟨rfl,rfl⟩:=h;simp only[ND];rw[EL r (k+1) _ (λj o f D hd=>by have:=A (j+1) o f (by omega) (by simpa using D) hd;rwa [show k+(j+1)=k+1+j from by omega]at this)];simp at L;simp[L,NT,hd]
 |(z,N)::r,k,t+1,e,o,f,h,hd,L,A=>by
  simp only[ND];exact SM r (k+1) t _ o f (by simpa using h) hd (by rwa [show k+1+t=k+(t+1) from by omega])
   (λj o f hij D hd=>by have:=A (j+1) o f (by omega) (by simpa using D) hd;rwa [show k+(j+1)=k+1+j from by omega]at this)
def SK :∀(l:Y v!) (k t:Nat) (e:HF) (o:Oper) (f:Dy),l[t]? =Z (o,f)->i∈f.wr->p (k+t)=J->
 (∀(j:Nat) A z,t<j->l[j]? =Z (A,z)->i∈z.wr->p (k+j)=aa)->Ev p k l e i=f.nw i
 |[],_,_,_,_,_,h,_,_,_=>by simp at h
 |(A,z)::r,k,0,e,o,f,h,hd,N,D=>by
  simp only[dH,af,aG]at h;obtain⟨rfl,rfl⟩:=h;simp only[Ev];rw[EK r (k+1) _ (λj o f L hd=>by have:=D (j+1) o f (by omega) (by simpa using L) hd;rwa [show k+(j+1)=k+1+j from by omega]at this)];simp at N;simp[N,e_,hd]
 |(A,z)::r,k,t+1,e,o,f,h,hd,N,D=>by
  simp only[Ev];exact SK r (k+1) t _ o f (by simpa using h) hd (by rwa [show k+1+t=k+(t+1) from by omega])
   (λj o f hij L hd=>by have:=D (j+1) o f (by omega) (by simpa using L) hd;rwa [show k+(j+1)=k+1+j from by omega]at this)
variable {P:Program} {B:Array Oper}
def B8.step :∀{l:Y v!} {e e':EF} {h h':HF} (_:B8 P B l e h e' h') (k i:Nat) (o:Oper) (f:Dy),l[i]? =Z (o,f)->
 No P B o f (ND (λj=>decide (j<k+i)) k l e) (Ev (λj=>decide (j<k+i)) k l h):=by
 intro l e e' h h' N;induction N with
 |nil=>intro k i o f hi;simp at hi
 |@cons z A r e e' h h' L hr D=>
  intro k i o f hi;cases i with
  |zero=>
   simp only[dH,af,aG]at hi;obtain⟨rfl,rfl⟩:=hi;have e1:ND (λj=>decide (j<k+0)) k ((z,A)::r) e=e:=by
    funext t;rw[EL];intro j o f _ _;simp
   have e2:Ev (λj=>decide (j<k+0)) k ((z,A)::r) h=h:=by
    funext t;rw[EK];intro j o f _ _;simp
   rw[e1,e2];exact L
  |succ i=>
   have:=D (k+1) i o f (by simpa using hi);simp only[ND,Ev];rw[show k+(i+1)=k+1+i from by omega];simpa[show k<k+1+i from by omega] using this
def B8.final :∀{l:Y v!} {e e':EF} {h h':HF} (_:B8 P B l e h e' h') (k:Nat) (S:Nat->Bool),(∀j,j<l! l->S (k+j)=J)->
 ND S k l e=e'/\Ev S k l h=h':=by
 intro l e e' h h' L;induction L with
 |nil=>intro k S _;exact⟨rfl,rfl⟩
 |@cons N f1 r e e' h h' hs hr A=>
  intro k S z;have h0:S k=J:=by simpa using z 0 (by simp)
  simp only[ND,Ev,h0,bk];exact A (k+1) S (λj D=>by have:=z (j+1) (by simpa using D);rwa [show k+(j+1)=k+1+j from by omega]at this)
variable {d:Oper} {Q:Act}
def Sv {K K':Act->World->Prop} {a:Exit->Act->World->Prop} (h:∀Q w,K Q w->K' Q w)
 (hh:d.wp P Q w K (λ_ _ _=>False)):d.wp P Q w K' a:=by
 unfold Oper.wp at*
 generalize (execOp Q.eval d).run P w=r at*
 cases r with
 |ok n w'=>
  cases n<;>simp only[Oper.upon]at hh ⊢<;>
   first
    |exact h _ _ hh
    |exact Calls.mono hh (λe w'' he=>by
      cases e with
      |returned v=>exact h _ _ he
      |panicked c=>exact he.elim
      |outgrown=>obtain⟨_,_,h⟩:=he;exact h.elim)
    |exact Rows.mono hh (λ_ _ he=>h _ _ he)
 |halt x w'=>cases x<;>simp only[Oper.upon]at hh ⊢<;>first|exact hh.elim|exact hh
inductive Bef (ops:Array Oper):Nat->Nat->Prop
 |one {j:Nat} {o:Oper} {e:Edge} (h:ops[j]? =Z o) (he:e∈o.after) (hb:B9 .any e=J):Bef ops j e.on
 |more {j i:Nat} {o:Oper} {e:Edge} (h:ops[j]? =Z o) (he:e∈o.after) (hb:B9 .any e=J) (hi:Bef ops e.on i):Bef ops j i
structure NIP (ops:Array Oper) (l:List (Oper×Dy)):Prop where
 edge:∀(j:Nat) o,ops[j]? =Z o->∀e∈o.after,B9 .any e=J->e.on<j
 pair:∀(i j:Nat) oi fi oj fj,i<j->l[i]? =Z (oi,fi)->l[j]? =Z (oj,fj)->Bef ops j i\/
  (oi.apart ops oj=J/\(∀x∈fi.wr,x∉fj.rd/\x∉fj.wr)/\(∀x∈fj.wr,x∉fi.rd))
 names:∀(i j:Nat) oi fi oj fj,i<j->l[i]? =Z (oi,fi)->l[j]? =Z (oj,fj)->∀n∈fi.N,n∉fj.N
def HW (ops:Array Oper) (listed:Array Bool):Prop:=∀(j:Nat) o,ops[j]? =Z o->listed.getD j aa=J->∀e∈o.after,B9 .any e=J->listed.getD e.on aa=J
variable {j:Nat}
def HW.bef {listed:Array Bool} (D:HW B listed) (h:Bef B j i):listed.getD j aa=J->listed.getD i aa=J:=by
 induction h with
 |one h he A=>intro z;exact D _ _ h z _ he A
 |more h he A hi L=>intro z;exact L (D _ _ h z _ he A)
def aai {listed:Array Bool} (L:HW B listed) (z:B[j]? =Z d) (D:∀e∈d.after,B9 .any e=J->listed.getD e.on aa=J) (h:Bef B j i):listed.getD i aa=J:=by
 cases h with
 |one h he A=>rw[h]at z;cases z;exact D _ he A
 |more h he A hi=>rw[h]at z;cases z;exact L.bef hi (D _ he A)
def um {listed:Array Bool} (h:listed.getD j J=aa):listed.getD j aa=aa/\j<listed.size:=by
 rcases bx j listed.size with h1|h1
 .simp[h1]at h ⊢;exact h
 .simp[Array.getElem?_eq_none h1]at h
def StP (φ0:PM) (E:Nat->Prop) (e0:EF) (h0:HF) (w0:World) (z:Act) (l:Y v!) (S:Nat->Bool) (a:Act) (w:World):Prop:=
 ∃φ,jZ φ0 φ h0 (Ev S 0 l h0) w0 w/\(∀i k,φ i=Z k->φ0 i=Z k\/∃(j:Nat) (o:Oper) (f:Dy),S j=J/\l[j]? =Z (o,f)/\i∈f.N)/\
  r_ φ E (Ev S 0 l h0) w/\Qk φ (tot E φ (Ev S 0 l h0)) w (ND S 0 l e0) a/\a.defers=z.defers/\a.tmps.size=z.tmps.size
def aeg {dst:M Tmp} (hd:∀d,dst=Z d->d<Q.tmps.size):(Q.put dst v).tmps.getD i undef=if dst=Z i then v else Q.tmps.getD i undef:=by
 cases dst with
 |none=>simp[Act.put]
 |some d=>
  by_cases h:d=i
  .subst h;simp[Act.put,hd d rfl]
  .simp[Act.put,h,q_ h]
def aef {dst:M Tmp} :(Q.put dst v).tmps.size=Q.tmps.size:=by cases dst<;>simp[Act.put]
def W6 {dst:M Tmp} :(Q.put dst v).defers=Q.defers:=by cases dst<;>rfl
def aeq {l:Y v!} {e0 e':EF} {h':HF} {w0:World} 
 (hl:l.map (·.1)=B.toList) (hc:B8 P B l e0 A e' h') (ni:NIP B l) (hfr:∀(j:Nat) o f,l[j]? =Z (o,f)->∀n∈f.N,V n=U)
 (hsz:∀(j:Nat) o,B[j]? =Z o->∀d,o.dst=Z d->d<Q.tmps.size) {listed:Array Bool} (hcl:HW B listed) (hi:i∈J1 .any B listed) {a0:Exit->Act->World->Prop} {K:Act->World->Prop}
 (hK:∀a w,StP V O e0 A w0 Q l (λj=>(listed.setIfInBounds i J).getD j aa) a w->K a w) {a:Act} (hst:StP V O e0 A w0 Q l (λj=>listed.getD j aa) a w):
 wpOp P B a0 i K a w:=by
 obtain⟨hun,o,ho,hdeps⟩:=mem_ready.1 hi;obtain⟨hnf,hlt⟩:=um hun;have hln:∀(j:Nat) o',B[j]? =Z o'->∃f,l[j]? =Z (o',f):=λj o' h=>by
  have h1:(l.map (·.1))[j]? =Z o':=by rw[hl];simpa using h
  rw[aT]at h1;cases h0:l[j]? with
  |none=>rw[h0]at h1;cases h1
  |some p=>rw[h0]at h1;obtain⟨a,b⟩:=p;simp at h1;subst h1;exact⟨b,rfl⟩
 have hnl:∀(j:Nat) o' f,l[j]? =Z (o',f)->B[j]? =Z o':=λj o' f h=>by
  have h1:(l.map (·.1))[j]? =Z o':=by rw[aT,h];rfl
  rw[hl]at h1;simpa using h1
 obtain⟨f,hf⟩:=hln i o ho;have hord:∀(j:Nat) L D,j≠i->l[j]? =Z (L,D)->(listed.getD j aa=decide (j<i))\/
  (o.apart B L=J\/L.apart B o=J)/\(∀x∈f.wr,x∉D.rd/\x∉D.wr)/\(∀x∈D.wr,x∉f.rd/\x∉f.wr):=by
  intro j L D hji h0;rcases bx j i with h|h
  .rcases ni.pair j i L D o f h h0 hf with hb|⟨h1,h2,h3⟩
   .left;rw[aai hcl ho hdeps hb];simp[h]
   .right;exact⟨.inr h1,λx hx=>⟨h3 x hx,λhx'=>(h2 x hx').2 hx⟩,λx hx=>h2 x hx⟩
  .have h:i<j:=by omega
   rcases ni.pair i j o f L D h hf h0 with hb|⟨h1,h2,h3⟩
   .left;have:listed.getD j aa=aa:=by
     cases hx:listed.getD j aa with
     |false=>rfl
     |true=>have:=hcl.bef hb hx;rw[hnf]at this;cases this
    rw[this];simp;omega
   .right;exact⟨.inl h1,λx hx=>h2 x hx,λx hx=>⟨h3 x hx,λhx'=>(h2 x hx').2 hx⟩⟩
 have hS':∀j,(listed.setIfInBounds i J).getD j aa=if j=i then J else listed.getD j aa:=λj=>by
  by_cases h:i=j
  .subst h;simp[hlt]
  .rw[getD_set_ne aa h,av (λe=>h e.symm)]
 have hlater:∀(j:Nat) L D,i<j->l[j]? =Z (L,D)->(listed.getD j aa=aa)\/((o.apart B L=J\/L.apart B o=J)/\(∀x∈f.wr,x∉D.rd/\x∉D.wr)):=by
  intro j L D hij h0;rcases hord j L D (by omega) h0 with h|⟨h1,h2,_⟩
  .left;rw[h];simp;omega
  .right;exact⟨h1,h2⟩
 have hdd:∀{x y:Oper},(x.apart B y=J\/y.apart B x=J)->∀d,x.dst=Z d->y.dst≠Z d:=by
  intro x y h d hd he;rcases h with h|h
  .exact (Oper.apart_spec h).2.1 d hd he
  .exact (Oper.apart_spec h).2.1 d he hd
 have hlook:∀{x y:Oper},(x.apart B y=J\/y.apart B x=J)->∀d,y.dst=Z d->d∉x.looksAt B:=by
  intro x y h d hd;rcases h with h|h
  .exact (Oper.apart_spec h).2.2 d hd
  .exact (Oper.apart_spec h).1 d hd
 have heL:∀t,t∈o.looksAt B->ND (λj=>listed.getD j aa) 0 l e0 t=ND (λj=>decide (j<0+i)) 0 l e0 t:=λt ht=>by
  refine GF l 0 e0 e0 rfl λj L D h0 hd=>?_
  simp only[bF];by_cases hji:j=i
  .subst hji;rw[hnf];simp
  .rcases hord j L D hji h0 with h|⟨h,_⟩
   .exact h
   .exact co ht (hlook h t hd)
 have hhL:∀t,t∈f.rd\/t∈f.wr->Ev (λj=>listed.getD j aa) 0 l A t=Ev (λj=>decide (j<0+i)) 0 l A t:=λt ht=>by
  refine GD l 0 A A rfl λj L D h0 hd=>?_
  simp only[bF];by_cases hji:j=i
  .subst hji;rw[hnf];simp
  .rcases hord j L D hji h0 with h|⟨_,_,h⟩
   .exact h
   .rcases ht with ht|ht
    .exact co ht (h t hd).1
    .exact co ht (h t hd).2
 have hE':∀t,ND (λj=>(listed.setIfInBounds i J).getD j aa) 0 l e0 t=if o.dst=Z t then Z f.val else ND (λj=>listed.getD j aa) 0 l e0 t:=λt=>by
  by_cases hd:o.dst=Z t
  .rw[aC hd];refine SM l 0 i e0 o f hf hd (by simp[hS']) λj o' f' hij h0 hd'=>?_
   simp only[bF,hS',av (show ¬j=i by omega)];rcases hlater j o' f' hij h0 with h|⟨h,_⟩
   .exact h
   .exact co hd' (hdd h t hd)
  .rw[av hd];refine GF l 0 e0 e0 rfl λj L D h0 hd'=>?_
   simp only[bF,hS'];rw[av];intro hji;subst hji;rw[hf]at h0;cases h0;exact hd hd'
 have hH':Ev (λj=>(listed.setIfInBounds i J).getD j aa) 0 l A=e_ (Ev (λj=>listed.getD j aa) 0 l A) f.wr f.nw:=by
  funext t;unfold e_;by_cases hd:t∈f.wr
  .rw[aC hd];refine SK l 0 i A o f hf hd (by simp[hS']) λj o' f' hij h0 hd'=>?_
   simp only[bF,hS',av (show ¬j=i by omega)];rcases hlater j o' f' hij h0 with h|⟨_,h⟩
   .exact h
   .exact co hd' (h t hd).2
  .rw[av hd];refine GD l 0 A A rfl λj L D h0 hd'=>?_
   simp only[bF,hS'];rw[av];intro hji;subst hji;rw[hf]at h0;cases h0;exact hd hd'
 obtain⟨φ,hm,hdom,hrep,henv,hdef,hsize⟩:=hst;have hfrN:∀n∈f.N,φ n=U:=λn hn=>by
  cases hx:φ n with
  |none=>rfl
  |some k=>
   rcases hdom n k hx with h|⟨j,L,D,hSj,h0,hnj⟩
   .rw[hfr i o f hf n hn]at h;cases h
   .have hji:j≠i:=by intro h;subst h;exact co hSj (by simp only[hnf];simp)
    rcases bx j i with h|h
    .exact co hn (ni.names j i L D o f h h0 hf n hnj)
    .exact co hnj (ni.names i j o f L D (by omega) hf h0 n hn)
 have hdsz:∀d,o.dst=Z d->d<a.tmps.size:=λd hd=>by rw[hsize];exact hsz i o ho d hd
 have main:∀(v:Value) (φ':PM) (w':World),jZ φ φ' (Ev (λj=>listed.getD j aa) 0 l A) (e_ (Ev (λj=>listed.getD j aa) 0 l A) f.wr f.nw) w w'->
  (∀i k,φ' i=Z k->φ i=Z k\/i∈f.N)->r_ φ' O (e_ (Ev (λj=>listed.getD j aa) 0 l A) f.wr f.nw) w'->
  cq φ' (tot O φ' (e_ (Ev (λj=>listed.getD j aa) 0 l A) f.wr f.nw)) w' f.val v->K (a.put o.dst v) w':=by
  intro v φ' w' m1 d1 r1 v1;refine hK _ _ ⟨φ',?_,?_,?_,?_,?_,?_⟩
  .rw[hH'];exact hm.trans m1
  .intro i' k h;rcases d1 i' k h with h|h
   .rcases hdom i' k h with h|⟨j,L,D,hSj,h0,hnj⟩
    .exact .inl h
    .refine .inr ⟨j,L,D,?_,h0,hnj⟩;show (listed.setIfInBounds i J).getD j aa=J;rw[hS' j];split
     .rfl
     .exact hSj
   .exact .inr ⟨i,o,f,(hS' i).trans (by simp),hf,h⟩
  .rw[hH'];exact r1
  .rw[hH'];intro t x hx;rw[hE' t]at hx;rw[aeg hdsz];by_cases hd:o.dst=Z t
   .rw[aC hd]at hx ⊢;cases hx;exact v1
   .rw[av hd]at hx ⊢;exact m1.zq (henv t x hx)
  .rw[W6];exact hdef
  .rw[aef];exact hsize
 have hstep:=hc.step 0 i o f hf;have hrun:gh P o (ND (λj=>decide (j<0+i)) 0 l e0) (Ev (λj=>decide (j<0+i)) 0 l A) f->o.wp P a w K a0:=by
  intro ht;refine Sv ?_ (ht φ O (Ev (λj=>listed.getD j aa) 0 l A) w a (λt h=>hhL t (.inl h)) (λt h=>hhL t (.inr h)) ?_ hrep hfrN)
  .rintro a' w' ⟨v,φ',rfl,m1,d1,r1,v1⟩;exact main v φ' w' m1 d1 r1 v1
  .intro t ht' y hy;refine henv t y ?_;rw[heL t (ik _ (List.mem_filterMap.2 ⟨.tmp t,by simpa using ht',rfl⟩))];exact hy
 have hyield:∀(j t:Nat) (want b:Bool),o.guard=Z (j,want)->(B[j]?).bind (·.dst)=Z t->ND (λj=>decide (j<0+i)) 0 l e0 t=Z (.f (.raw (.bool b)))->Region.wanted o (yielded B a.tmps)=(b==want):=by
  intro j t want b hg h0 he;rw[<- heL t (oV _ (by rw[hg];simp[h0]))]at he;have h1:=henv t _ he;have h2:a.tmps.getD t undef= .bool b:=by
   generalize hz:a.tmps.getD t undef=z at h1;cases h1 with
   |f h=>cases h;rfl
  have h3:a.tmps[t]? =Z (.bool b):=by
   rw[gZ]at h2;cases hz:a.tmps[t]? with
   |none=>rw[hz]at h2;simp[undef]at h2
   |some z=>rw[hz]at h2;simp at h2;rw[h2]
  unfold Region.wanted yielded;rw[hg];simp[h0,h3]
 unfold wpOp;simp only[ho];cases hstep with
 |run hg ht=>
  rw[aC (by unfold Region.wanted;rw[hg])];exact .inl (hrun ht)
 |runG j t want hg h0 he ht=>
  rw[aC (by rw[hyield j t want want hg h0 he];simp)];exact .inl (hrun ht)
 |skip j t want hg h0 v he hv hf'=>
  have hnw:Region.wanted o (yielded B a.tmps)=aa:=by
   rw[<- heL t (oV _ (by rw[hg];simp[h0]))]at he;have h1:=henv t _ he;have h2:a.tmps.getD t undef=v:=by
    generalize a.tmps.getD t undef=z at h1;cases h1 with
    |f h=>cases h;rfl
   unfold Region.wanted yielded;rw[hg];simp only[h0,aB];rw[gZ]at h2;cases hz:a.tmps[t]? with
   |none=>simp
   |some z=>
    rw[hz]at h2;simp at h2;subst h2;cases z<;>simp at hv ⊢;exact hv
  rw[av (by rw[hnw];simp)];subst hf';have hu:e_ (Ev (λj=>listed.getD j aa) 0 l A) s8.wr s8.nw=Ev (λj=>listed.getD j aa) 0 l A:=by
   funext t;simp[e_,s8]
  refine main undef φ w ?_ (λ_ _ h=>.inl h) ?_ ?_
  .rw[hu];exact jZ.refl _ _ _
  .rw[hu];exact hrep
  .exact .f (.raw _)
def abu {l:θ}:∀{i:Nat},l[i]? =Z aa->(l.set i J).countP id=l.countP id+1:=by
 induction l with
 |nil=>intro i h;simp at h
 |cons b l z=>
  intro i h;cases i with
  |zero=>simp at h;subst h;simp
  |succ i=>
   simp only[List.set_cons_succ,List.countP_cons];rw[z (by simpa using h)];omega
def Se {l:θ} (h:l! l<=l.countP id):∀(j:Nat),j<l! l->l[j]? =Z J:=by
 have h1:l.countP id=l! l:=Nat.le_antisymm List.countP_le_length h;rw[List.countP_eq_length]at h1;intro j z;rw[aD z];simpa using h1 _ (Et z)
def YC {l:Y v!} (A:NIP B l) {listed:Array Bool} (hs:listed.size=B.size) (L:J1 .any B listed=[]):
 ∀(n j:Nat),j<n->j<B.size->listed.getD j aa=J:=by
 intro n;induction n with
 |zero=>intro j h;omega
 |succ n D=>
  intro j hj hjs;cases z:listed.getD j aa with
  |true=>rfl
  |false=>
   exfalso;have hmem:j∈J1 .any B listed:=by
    refine mem_ready.2 ⟨?_,B[j],iI hjs,λe he N=>?_⟩
    .have:j<listed.size:=by omega
     simp[this]at z ⊢;exact z
    .have h1:=A.edge j _ (iI hjs) e he N;exact D e.on (by omega) (by omega)
   rw[L]at hmem;cases hmem
variable {m:Exit->Act->World->Prop}
def Qc {l:Y v!} {e0 e':EF} {h':HF} {E:Nat->Prop} {w0:World} {h0:Act}
 (hl:l.map (·.1)=B.toList) (hc:B8 P B l e0 A e' h') (ni:NIP B l) (hfr:∀(j:Nat) o f,l[j]? =Z (o,f)->∀n∈f.N,V n=U)
 (hsz:∀(j:Nat) o,B[j]? =Z o->∀d,o.dst=Z d->d<h0.tmps.size) 
 (hQ:∀a w,StP V E e0 A w0 h0 l (λ_=>J) a w->m .normal a w):
 ∀(fuel:Nat) (listed:Array Bool) (a:Act) (w:World),listed.size=B.size->HW B listed->B.size<=fuel+listed.toList.countP id->
  StP V E e0 A w0 h0 l (λj=>listed.getD j aa) a w->wpAny P .any B m fuel listed a w:=by
 have hlen:l! l=B.size:=by have:=dT ah hl;simpa using this
 have fin:∀(listed:Array Bool) (a:Act) (w:World),(∀j,j<B.size->listed.getD j aa=J)->StP V E e0 A w0 h0 l (λj=>listed.getD j aa) a w->m .normal a w:=by
  intro listed a w hall hst;refine hQ a w ?_;have h1:=hc.final 0 (λj=>listed.getD j aa) (λj z=>by simp only[bF];exact hall j (by omega));have h2:=hc.final 0 (λ_=>J) (λ_ _=>rfl);unfold StP at hst ⊢;rw[h1.1,h1.2]at hst;rw[h2.1,h2.2];obtain⟨φ,Q,d,r⟩:=hst;refine ⟨φ,Q,λi k h=>?_,r⟩;rcases d i k h with h|⟨j,o,f,_,z,hn⟩
  .exact .inl h
  .exact .inr ⟨j,o,f,rfl,z,hn⟩
 intro fuel;induction fuel with
 |zero=>
  intro listed a w D hcl hcnt hst;have hall:∀j,j<B.size->listed.getD j aa=J:=λj z=>by
   have:=Se (l:=listed.toList) (by simp only[iS];omega) j (by simp only[iS];omega);rw[bE]at this;rw[gZ,this];rfl
  refine ⟨?_,fin listed a w hall hst⟩;cases L:J1 .any B listed with
  |nil=>rfl
  |cons i r=>
   have hi:i∈J1 .any B listed:=by rw[L];simp
   obtain⟨hun,o,ho,_⟩:=mem_ready.1 hi;have hnf:=(um hun).1;rw[hall i (cw.1 ho).1]at hnf;cases hnf
 |succ fuel ih=>
  intro listed a w D hcl hcnt hst;refine ⟨λL=>fin listed a w (λj z=>YC ni D L (j+1) j (by omega) z) hst,λi hi=>?_⟩;obtain⟨hun,o,ho,hdeps⟩:=mem_ready.1 hi;obtain⟨hnf,hlt⟩:=um hun;refine aeq hl hc ni hfr hsz hcl hi (λa' w' h=>ih _ a' w' ?_ ?_ ?_ h) hst
  .simpa using D
  .intro j oj hoj z e he hb;by_cases hji:i=j
   .subst hji;rw[ho]at hoj;cases hoj;exact getD_set_true (hdeps e he hb)
   .rw[getD_set_ne aa hji]at z;exact getD_set_true (hcl j oj hoj z e he hb)
  .have h1:listed.toList[i]? =Z aa:=by
    rw[bE,iI hlt];simp[hlt]at hnf;rw[hnf]
   rw[Array.toList_setIfInBounds,abu h1];omega
def att (φ0:PM) (E:Nat->Prop) (e':EF) (h0 h':HF) (N:ι) (w0:World) (z:Act) (a:Act) (w:World):Prop:=
 ∃φ,jZ φ0 φ h0 h' w0 w/\(∀i k,φ i=Z k->φ0 i=Z k\/i∈N)/\r_ φ E h' w/\Qk φ (tot E φ h') w e' a/\a.defers=z.defers/\a.tmps.size=z.tmps.size
def jZ.drew (w:World):jZ V V A A w {w with drawn:=w.drawn+1}:=
 ⟨λ_ _ A=>A,⟨rfl,rfl,rfl,bV _,λ_ _ _=>rfl,λ_ _=>rfl⟩,λ_ _ A=>A⟩
def r_.moved {w':World} (r:r_ V O A w) (m:jZ V V A A w w') (z:∀k,own V A k->w'.heap[k]? =w.heap[k]?):r_ V O A w':=
 ⟨r.inj,λi b h=>by
   obtain⟨k,h1,h2,o,N,L⟩:=r.at_ i b h;exact⟨k,h1,h2,o,by rw[z k ⟨i,b,h,h1⟩];exact N,L.mono λ_ _ A=>m.zq A⟩,λk z=>dw (r.el k z) m.ext.size,
   λg cells D=>m.keepF (r.gl g cells D)⟩
variable {b:Bool}
def Tk {l:Y v!} {e0 e':EF} {h':HF} {φ0:PM} {E:Nat->Prop} {h0:Act} 
 (hm:P.follows .mixedOrders=J) (hl:l.map (·.1)=B.toList) (hc:B8 P B l e0 A e' h') (L:NIP B l) (hfr:∀n∈l.flatMap (λp=>p.2.N),φ0 n=U)
 (hsz:∀(j:Nat) o,B[j]? =Z o->∀d,o.dst=Z d->d<h0.tmps.size) (hrep:r_ φ0 E A w) (henv:Qk φ0 (tot E φ0 A) w e0 h0) 
 (hQ:∀a w0,att φ0 E e' A h' (l.flatMap (λp=>p.2.N)) w h0 a w0->m .normal a w0):(Code.region i B b).wp P m h0 w:=by
 have hfr':∀(j:Nat) o f,l[j]? =Z (o,f)->∀n∈f.N,φ0 n=U:=λj o f z n hn=>hfr n (sh.2 ⟨(o,f),aX z,hn⟩)
 have fin:∀a w0,StP φ0 E e0 A w h0 l (λ_=>J) a w0->m .normal a w0:=by
  rintro a w0 ⟨φ,Q,d,r,en,df,sz⟩;have D:=hc.final 0 (λ_=>J) (λ_ _=>rfl);rw[D.2]at Q r en;rw[D.1]at en;refine hQ a w0 ⟨φ,Q,λid k h=>?_,r,en,df,sz⟩;rcases d id k h with h|⟨j,o,f,_,z,hn⟩
  .exact .inl h
  .exact .inr (sh.2 ⟨(o,f),aX z,hn⟩)
 have st0:∀(w0:World),jZ φ0 φ0 A A w w0->r_ φ0 E A w0->StP φ0 E e0 A w h0 l (λj=>(ua B.size aa).getD j aa) h0 w0:=by
  intro w0 Q r;have e1:(λj=>(ua B.size aa).getD j aa)=λ_=>aa:=by
   funext j;rw[gZ,Array.getElem?_replicate];split<;>rfl
  rw[e1];have e2:ND (λ_=>aa) 0 l e0=e0:=by funext t;rw[EL];intros;rfl
  have e3:Ev (λ_=>aa) 0 l A=A:=by funext t;rw[EK];intros;rfl
  refine ⟨φ0,by rw[e3];exact Q,λ_ _ h=>.inl h,by rw[e3];exact r,?_,rfl,rfl⟩;rw[e2,e3];exact λt x hx=>Q.zq (henv t x hx)
 have cl0:HW B (ua B.size aa):=by
  intro j o ho z;rw[gZ,Array.getElem?_replicate]at z;split at z<;>simp at z
 cases b with
 |true=>
  refine wp_region_any hm ?_;exact Qc hl hc L hfr' hsz fin B.size _ h0 _ (by simp) cl0 (by omega) (st0 _ (jZ.drew w) (hrep.moved (jZ.drew w) λ_ _=>rfl))
 |false=>
  have hany:=Qc (E:=E) (w0:=w) hl hc L hfr' hsz fin B.size _ h0 w (by simp) cl0 (by omega) (st0 _ (jZ.refl _ _ _) hrep);refine wp_region ?_;have key:∀(Q k:Nat) (listed:Array Bool) (a:Act) (w0:World),k+Q=B.size->listed.size=B.size->(∀j,j<k->listed.getD j aa=J)->(∀j,k<=j->j<B.size->listed.getD j J=aa)->
   wpAny P .any B m Q listed a w0->wpOps P B m (List.range' k Q) a w0:=by
   intro Q;induction Q with
   |zero=>intro k listed a w0 hk hs h1 D h;simpa[wpOps] using h.2
   |succ Q ih=>
    intro k listed a w0 hk hs h1 D h;rw[List.range'_succ,wpOps_cons];have hkr:k∈J1 .any B listed:=by
     refine mem_ready.2 ⟨D k (bV _) (by omega),B[k]'(by omega),iI (by omega),λe he hb=>?_⟩;exact h1 _ (L.edge k _ (iI (by omega)) e he hb)
    refine wpOp_mono (λa' w' h'=>ih (k+1) (listed.setIfInBounds k J) a' w' (by omega) (by simpa using hs) ?_ ?_ h') (h.2 k hkr)
    .intro j z;by_cases hjk:k=j
     .subst hjk;simp[show k<listed.size by omega]
     .rw[getD_set_ne aa hjk];exact h1 j (by omega)
    .intro j z hj2;rw[getD_set_ne J (by omega)];exact D j (by omega) hj2
  have:=key B.size 0 (ua B.size aa) h0 w (by omega) (by simp) (by intro j z;omega) (by
   intro j _ z;rw[gZ,Array.getElem?_replicate,aC z];rfl) hany
  rwa [List.range_eq_range']
inductive PT (α:Type) where
 |leaf
 |node (v:Option α) (l r:PT α)
namespace PT
variable {α:Type}
def get:PT α->Nat->M α
 |leaf,_=>U
 |node v l r,n=>match n with
  |0=>v
  |m+1=>if aA (m%2) 0 then get l (m/2) else get r (m/2)
def QE:Nat->PT α->Nat->M α->PT α
 |0,t,_,_=>t
 |k+1,t,n,x=>match t with
  |leaf=>(match n with
   |0=>node x leaf leaf
   |m+1=>if aA (m%2) 0 then node U (QE k leaf (m/2) x) leaf else node U leaf (QE k leaf (m/2) x))
  |node v l r=>(match n with
   |0=>node x l r
   |m+1=>if aA (m%2) 0 then node v (QE k l (m/2) x) r else node v l (QE k r (m/2) x))
def set (t:PT α) (n:Nat) (x:M α):PT α:=QE (n+1) t n x
def Br:∀(k:Nat) (t:PT α) (n:Nat) (x:M α),n<k->∀i,(QE k t n x).get i=if i=n then x else t.get i
 |0,_,_,_,h,_=>co h (kU _)
 |k+1,t,n,x,h,i=>by
  cases n with
  |zero=>
   cases t<;>cases i<;>simp[QE,get]
  |succ m=>
   have hm:m/2<k:=by have:=Nat.div_le_self m 2;omega
   cases t with
   |leaf=>
    simp only[QE];cases L:aA (m%2) 0 with
    |true=>
     have D:m%2=0:=au L;simp only[bk];cases i with
     |zero=>simp[get]
     |succ j=>
      simp only[get];cases A:aA (j%2) 0 with
      |true=>
       have z:j%2=0:=au A;simp only[bk];rw[Br k _ _ _ hm];by_cases he:j/2=m/2
       .rw[aC he,aC (by omega)]
       .rw[av he,av (by omega)];rfl
      |false=>
       have z:¬j%2=0:=iE A;simp only[bY,c7];rw[av (by omega)]
    |false=>
     have D:¬m%2=0:=iE L;simp only[bY,c7];cases i with
     |zero=>simp[get]
     |succ j=>
      simp only[get];cases A:aA (j%2) 0 with
      |true=>
       have z:j%2=0:=au A;simp only[bk];rw[av (by omega)]
      |false=>
       have z:¬j%2=0:=iE A;simp only[bY,c7];rw[Br k _ _ _ hm];by_cases he:j/2=m/2
       .rw[aC he,aC (by omega)]
       .rw[av he,av (by omega)];rfl
   |node v l r=>
    simp only[QE];cases L:aA (m%2) 0 with
    |true=>
     have D:m%2=0:=au L;simp only[bk];cases i with
     |zero=>simp[get]
     |succ j=>
      simp only[get];cases A:aA (j%2) 0 with
      |true=>
       have z:j%2=0:=au A;simp only[bk];rw[Br k _ _ _ hm];by_cases he:j/2=m/2
       .rw[aC he,aC (by omega)]
       .rw[av he,av (by omega)]
      |false=>
       have z:¬j%2=0:=iE A;simp only[bY,c7];rw[av (by omega)]
    |false=>
     have D:¬m%2=0:=iE L;simp only[bY,c7];cases i with
     |zero=>simp[get]
     |succ j=>
      simp only[get];cases A:aA (j%2) 0 with
      |true=>
       have z:j%2=0:=au A;simp only[bk];rw[av (by omega)]
      |false=>
       have z:¬j%2=0:=iE A;simp only[bY,c7];rw[Br k _ _ _ hm];by_cases he:j/2=m/2
       .rw[aC he,aC (by omega)]
       .rw[av he,av (by omega)]
def get_set (t:PT α) (n:Nat) (x:M α) (i:Nat):(t.set n x).get i=if i=n then x else t.get i:=Br (n+1) t n x (by omega) i
variable {R:Type}
def mask :PT α->PT R->PT α
 |leaf,_|node _ _ _,leaf=>leaf
 |node v l r,node u l' z=>node (match u with|some _=>v|none=>U) (mask l l') (mask r z)
def mk:M α->PT α->PT α->PT α
 |none,leaf,leaf=>leaf
 |v,l,r=>node v l r
def only (m:Nat):Nat->Nat->PT α->PT α
 |_,_,leaf=>leaf
 |a,b,node v l r=>mk (if aK m b then v else U) (only m (2*a) (a+b) l) (only m (2*a) (2*a+b) r)
def exc (m:Nat):Nat->Nat->PT α->PT α
 |_,_,leaf=>leaf
 |a,b,node v l r=>mk (if aK m b then U else v) (exc m (2*a) (a+b) l) (exc m (2*a) (2*a+b) r)
def merge (m:Nat):Nat->Nat->PT α->PT α->PT α
 |a,b,leaf,t=>only m a b t
 |a,b,node v l r,leaf=>exc m a b (node v l r)
 |a,b,node v l r,node z l' A=>mk (if aK m b then z else v) (merge m (2*a) (a+b) l l') (merge m (2*a) (2*a+b) r A)
def all (p:Nat->α->Bool):Nat->Nat->PT α->Bool
 |_,_,leaf=>J
 |a,b,node v l r=>(match v with|some x=>p b x|none=>J)&&all p (2*a) (a+b) l&&all p (2*a) (2*a+b) r
def get_all (p:Nat->α->Bool):∀(t:PT α) (a b i:Nat) (x:α),all p a b t=J->t.get i=Z x->p (a*i+b) x=J
 |leaf,_,_,_,_,_,h=>by simp[get]at h
 |node v l r,a,b,0,x,h,z=>by
  simp only[get]at z;subst z;simp only[all,ak]at h;rw[Nat.mul_zero,bF];exact h.1.1
 |node v l r,a,b,j+1,x,h,z=>by
  simp only[all,ak]at h;simp only[get]at z;cases A:aA (j%2) 0 with
  |true=>
   have D:j%2=0:=au A;simp only[A,bk]at z;have key:=get_all p l _ _ _ x h.1.2 z;have:2*a*(j/2)+(a+b)=a*(j+1)+b:=by
    have e:j=2*(j/2):=by omega
    calc 2*a*(j/2)+(a+b)=a*(2*(j/2))+a+b:=by rw[wI 2 a,Ez];omega
     _=a*(j+1)+b:=by rw[<- e,Nat.mul_add];omega
   rw[this]at key;exact key
  |false=>
   have D:¬j%2=0:=iE A;simp only[A,bY,c7]at z;have key:=get_all p r _ _ _ x h.2 z;have:2*a*(j/2)+(2*a+b)=a*(j+1)+b:=by
    have e:j=2*(j/2)+1:=by omega
    have N:a*(j+1)=a*(2*(j/2))+2*a:=by
     calc a*(j+1)=a*(2*(j/2)+2):=by rw[show j+1=2*(j/2)+2 from by omega]
      _=a*(2*(j/2))+2*a:=by rw[Nat.mul_add];omega
    have L:2*a*(j/2)=a*(2*(j/2)):=by rw[wI 2 a,Ez]
    omega
   rw[this]at key;exact key
def dom:Nat->Nat->PT α->Nat->Nat
 |_,_,leaf,acc=>acc
 |a,b,node v l r,acc=>dom (2*a) (a+b) l (dom (2*a) (2*a+b) r (match v with|some _=>acc|||(1<<<b)|none=>acc))
def emp:PT α:=leaf
end PT
abbrev Dx:=PT AV
abbrev mY:=PT kc
abbrev NW:=Y (Nat×kc)
def Dx.put (e:Dx):M Nat->AV->Dx
 |none,_=>e
 |some d,x=>e.set d (Z x)
def jS:NW->HF
 |[],_=>U
 |(s,x)::r,t=>if aA s t then Z x else jS r t
def Kr (acc:ι) (s:Nat) (e:Edge):Nat:=if B9 .any e then (s|||2^e.on)|||acc.getD e.on 0 else s
def Nf:Y Oper->ι->ι
 |[],acc=>acc
 |o::r,acc=>Nf r (acc++[o.after.toList.foldl (Kr acc) 0])
def Ng {acc:ι} (D:B[i]? =Z d) (N:∀(j:Nat) ops,acc[j]? =Z ops->∀k,ops.testBit k=J->Bef B j k):
 ∀(es:Y Edge) (s:Nat),(∀e∈es,e∈d.after)->(∀k,s.testBit k=J->Bef B i k)->∀k,(es.foldl (Kr acc) s).testBit k=J->Bef B i k
 |[],s,_,z,k,hi=>z k hi
 |e::r,s,he,z,k,hi=>by
  refine Ng D N r (Kr acc s e) (λe' h'=>he e' (bM _ h')) (λk hi=>?_) k hi;unfold Kr at hi;split at hi
  .rename_i L;rw[bn,bn,jJ,jJ]at hi;rcases hi with (hi|hi)|hi
   .exact z k hi
   .rw[Nat.testBit_two_pow]at hi;have:e.on=k:=by simpa using hi
    subst this;exact .one D (he e (cR ..)) L
   .refine .more D (he e (cR ..)) L ?_;rw[ax]at hi;cases A:acc[e.on]? with
    |none=>rw[A]at hi;simp at hi
    |some C=>rw[A]at hi;exact N _ C A k hi
  .exact z k hi
def Qb {ops:Array Oper}:∀(rest:Y Oper) (acc:ι),(∀(j:Nat),∀o,rest[j]? =Z o->ops[l! acc+j]? =Z o)->
 (∀(j:Nat) B,acc[j]? =Z B->∀i,B.testBit i=J->Bef ops j i)->∀(j:Nat) B,(Nf rest acc)[j]? =Z B->∀i,B.testBit i=J->Bef ops j i
 |[],acc,_,A=>A
 |o::r,acc,D,A=>by
  refine Qb r _ (λj L z=>?_) ?_
  .rw[bc,cj,show (l! acc)+1+j=l! acc+(j+1) from by omega];exact D (j+1) L (by simpa using z)
  .intro j B z i hi;rcases bx j (l! acc) with h|h
   .rw[bj h]at z;exact A j B z i hi
   .rw[bO h]at z;have N:j-l! acc=0:=by
     rcases s5 (j-l! acc) with h0|h0
     .exact h0
     .rw[bJ (by simp;omega)]at z;cases z
    have hjl:j=l! acc:=by omega
    subst hjl;simp at z;subst z;have hoo:ops[l! acc]? =Z o:=by simpa using D 0 o rfl
    rw[<- Array.foldl_toList]at hi;exact Ng hoo A _ 0 (λe he=>by simpa using he) (λi hi=>by simp at hi) i hi
inductive OT where
 |mv (x:Operand)
 |pick (c a b:Operand)
 |alloc (ty:TypeId) (z:ξ)
 |box (ty:TypeId) (x:Operand)
 |build (z:ξ) (parts:List (Nat×Nat×Operand))
 |xw (ty:TypeId) (sz len:Nat) (z:ξ) (parts:List (Nat×Nat×Operand))
 |load (sz:Nat) (ag:Bool) (x:Operand)
 |store (sz:Nat) (x v:Operand)
 |zh (x:Operand)
 |bin (op:BinOp) (x y:Operand)
 |jm (neg:Bool) (ds:List TypeDesc) (x y:Operand)
 |zf (neg:Bool) (x:Operand)
 |xj (neg:Bool) (x y:Operand)
 |not (x:Operand)
 |conv (k:IntKind) (x:Operand)
 |zg (ty:TypeId) (sz bytes:Nat) (z:ξ) (l c:Operand)
 |slc (sz:Nat) (x:Operand) (lo hi mx:Option Operand)
 |jf (off:Nat) (x:Operand)
 |fld (off sz:Nat) (ag:Bool) (x:Operand)
 |jg (sz:Nat) (x i:Operand)
 |jx (n sz:Nat) (x i:Operand)
 |idx (n sz:Nat) (ag:Bool) (x i:Operand)
 |ext (x:Operand) (i:Nat)
 |len (x:Operand)
 |lens (x:Operand)
 |jw (x:Operand)
 |max (x y:Operand)
 |min (x y:Operand)
 |jq (x i:Operand)
 |app (ty:TypeId) (sz bytes:Nat) (s x:Operand)
 |copy (sz:Nat) (d x:Operand)
 |clr (sz:Nat) (z:ξ) (x:Operand)
 |mkf (f:FuncId) (caps:List Operand)
 |mkm
 |jk (str ok:Bool) (z:Value) (x k:Operand)
 |jy (str:Bool) (x k v:Operand)
 |rng (x:Operand)
 |nxt (x:Operand)
 |zl (neg:Bool) (x:Operand)
 |xz (ds:List TypeDesc) (z:Value) (x k:Operand)
 |xq (ds:List TypeDesc) (x k v:Operand)
 |xx (ds:List TypeDesc) (x k:Operand)
 |zd
inductive SI where
 |op (s:OT)
 |call (f:FuncId) (args:List Operand)
 |jv (x:Operand) (args:List Operand)
def mem (t:Nat):ι->Bool
 |[]=>aa
 |x::r=>aA x t||mem t r
def M':ξ->Bool
 |[]=>J
 |v::r=>v.oneCell'&&M' r
def HE:Value->AV
 |.agg vs=>if M' vs.toList then .agg (vs.toList.map λv=>.f (.raw v)) else .f (.raw (.agg vs))
 |v=>.f (.raw v)
def lZ (e:Dx):Operand->M AV
 |.tmp t=>e.get t
 |.const v=>Z (HE v)
 |.func g=>Z (.qy g [])
 |.global g=>match G g with|some cells=>Z (.f (.H cells 0))|none=>U
def evs (e:Dx):Y Operand->M (Y AV)
 |[]=>Z []
 |x::xs=>match lZ e x with|some y=>(match evs e xs with|some z=>Z (y::z)|none=>U)|none=>U
structure Cv where
 val:AV
 rd:ι
 wr:ι
 nw:NW
 N:ι
def Cv.eff (r:Cv):Dy:=⟨r.val,r.rd,r.wr,jS r.nw,r.N⟩
def rv (x:AV):M Cv:=Z ⟨x,[],[],[],[]⟩
def raw (v:Value):AV:=.f (.raw v)
def pkV (ok:Bool) (v:AV) (b:Bool):AV:=match ok with|true=>.qg [v,raw (.bool b)]|false=>v
def yI:Y AV->M (Y FV)
 |[]=>Z []
 |.f x::r=>match yI r with|some l=>Z (x::l)|none=>U
 |_::_=>U
def nV (l:Y AV):BC:=match yI l with|some z=>.fz z|none=>.mx l
def Pm (l:Y AV):AV:=match yI l with|some z=>.f (.agg z)|none=>.agg l
variable {R:Type}
def splice (l:Y R) (off:Nat) (vs:Y R):Y R:=l.take off++vs++l.drop (off+l! vs)
def BC.toMx:BC->Y AV
 |.fz l=>l.map .f
 |.mx l=>l
 |_=>[]
def gw:Y AV->Bool
 |[]=>J
 |x::r=>x.isCell&&gw r
def BC.put (c:BC) (off:Nat) (vs:Y AV):M BC:=
 if c.isCells&&dK (off+l! vs) c.len&&gw vs then
  match c,yI vs with
  |.fz l,Z z=>Z (.fz (splice l off z))
  |c,_=>Z (.mx (splice c.toMx off vs))
 else U
def BC.sub? (c:BC) (off sz:Nat):Bool->M AV
 |false=>match sz with|1=>c.get off|_=>U
 |true=>match c with
  |.fz l=>if dK (off+sz) (l! l) then Z (.f (.agg ((l.drop off).take sz))) else U
  |.mx l=>if dK (off+sz) (l! l) then Z (.agg ((l.drop off).take sz)) else U
  |_=>U
def AV.cs:AV->Y AV
 |.agg l=>l
 |.f (.agg l)=>l.map .f
 |x=>[x]
def xa (h:mY) (sz:Nat) (z:Bool):AV->M Cv
 |.H id off=>match h.get id with
  |some b=>(match b.c.sub? off sz z with|some v=>Z ⟨v,[id],[],[],[]⟩|none=>U)
  |none=>U
 |.f (.H cells off)=>(match (BC.fz cells).sub? off sz z with|some v=>rv v|none=>U)
 |_=>U
def BX (h:mY) (sz:Nat) (v:AV):AV->M Cv
 |.H id off=>match h.get id with
  |some b=>if (l! v.cs)==sz then (match b.c.put off v.cs with|some c=>Z ⟨raw undef,[id],[id],[(id,⟨b.ty,c⟩)],[]⟩|none=>U) else U
  |none=>U
 |_=>U
abbrev m?:=Nat×Nat×Operand
def Bx (cells:Y AV) (e:Dx):Y m?->M (Y AV)
 |[]=>Z cells
 |(off,sz,x)::r=>match lZ e x with
  |some v=>if (l! v.cs)==sz&&dK (off+sz) (l! cells)&&gw v.cs then Bx (splice cells off v.cs) e r else U
  |none=>U
def dg (a b:Int):Bool:=decide (a<=b)
def fQ (a b:Int):Bool:=decide (a<b)
def O2 (k:IntKind) (n:Int):Int:=
 match k with
 |.i64=>if dg (-9223372036854775808) n&&dg n 9223372036854775807 then n else pX .i64 n
 |.u8=>if dg 0 n&&dg n 255 then n else pX .u8 n
 |k=>pX k n
def nok:Int->Bool
 |.ofNat k|.negSucc k=>aA k k
def aqx (n:Int):nok n=J:=by cases n<;>exact eW _
def bA (k:IntKind) (n:Int):Int:=bif nok n then O2 k n else 0
def J4 (k:IntKind) (n:Int):bA k n=O2 k n:=by unfold bA;rw[aqx];rfl
def tB (a b:ByteArray):Bool:=a.data.toList==b.data.toList
def uX (op:BinOp):Value->Value->M Value
 |.int k a,.int z b=>if k==z then
   match op with
   |.add=>Z (.int k (bA k (a+b)))
   |.sub=>Z (.int k (bA k (a-b)))
   |.mul=>Z (.int k (bA k (a*b)))
   |.rem=>if b==0 then U else Z (.int k (a.tmod b))
   |.quo=>if b==0 then U else Z (.int k (bA k (a.tdiv b)))
   |.eql=>Z (.bool (a==b))
   |.neq=>Z (.bool (a !=b))
   |.lss=>Z (.bool (fQ a b))
   |.leq=>Z (.bool (dg a b))
   |.gtr=>Z (.bool (fQ b a))
   |.geq=>Z (.bool (dg b a))
   |_=>U
  else U
 |.string a,.string b=>match op with
   |.eql=>Z (.bool (tB a b))
   |.neq=>Z (.bool !(tB a b))
   |_=>U
 |_,_=>U
def vY:TypeDesc->FV->FV->M Bool
 |.int _,.raw (.int k a),.raw (.int z b)=>if k==z then Z (a==b) else U
 |.bool,.raw (.bool a),.raw (.bool b)=>Z (a==b)
 |.string,.raw (.string a),.raw (.string b)=>Z (tB a b)
 |_,_,_=>U
def jM:Y TypeDesc->Y FV->Y FV->M Bool
 |[],[],[]=>Z J
 |d::ds,x::xs,y::z=>match vY d x y with
  |some J=>jM ds xs z
  |some aa=>Z aa
  |none=>U
 |_,_,_=>U
def AV.row? (h:mY) (sz:Nat):AV->M (Y AV×Nat×ι)
 |.f (.sl cells n)=>if dK (n*sz) (l! cells) then Z ((cells.take (n*sz)).map .f,n,[]) else U
 |.f (.raw (.slice U 0 0))|.emp=>Z ([],0,[])
 |.G id sz' n=>if sz'==sz then (match h.get id with|some b=>if b.c.isCells&&dK (n*sz) b.c.len then Z (b.c.toMx.take (n*sz),n,[id]) else U|none=>U) else U
 |.sl id off n=>match h.get id with|some b=>if b.c.isCells&&dK (off+n*sz) b.c.len then Z ((b.c.toMx.drop off).take (n*sz),n,[id]) else U|none=>U
 |_=>U
def AV.slen:AV->M Nat
 |.f (.sl _ n)|.f (.raw (.slice _ n _))=>Z n
 |.emp=>Z 0
 |.G _ _ n|.sl _ _ n=>Z n
 |_=>U
def be (n bytes:Nat):Bool:=dK n 1099511627776&&dK (n*bytes) 1099511627776
def repl (z:ξ):Nat->Y FV
 |0=>[]
 |n+1=>z.map .raw++repl z n
def uR:Value->Bool
 |.slice U 0 0=>J
 |_=>aa
def D2:AV->Bool
 |.emp=>J
 |.f (.raw v)=>uR v
 |_=>aa
def s_ (k:Value):Y j!->M (M AV)
 |[]=>Z U
 |(z,v)::r=>match uX .eql k z with
  |some (.bool J)=>Z (Z v)
  |some (.bool aa)=>s_ k r
  |_=>U
def zE (k:Value) (v:AV):Y j!->M (Y j!)
 |[]=>Z [(k,v)]
 |(z,A)::r=>match uX .eql k z with
  |some (.bool J)=>Z ((k,v)::r)
  |some (.bool aa)=>(match zE k v r with|some D=>Z ((z,A)::D)|none=>U)
  |_=>U
def H9:Y FV->M ξ
 |[]=>Z []
 |.raw v::r=>match H9 r with|some l=>Z (v::l)|none=>U
 |_::_=>U
def aao:AV->M ξ
 |.f (.agg l)=>H9 l
 |.agg l=>match yI l with|some z=>H9 z|none=>U
 |_=>U
def Xo (ds:Y TypeDesc) (y:AV):M ξ:=match aao y with
 |some l=>if (l! l)==l! ds then Z l else U
 |none=>U
def C5 (ds:Y TypeDesc) (k:ξ):Value->M Bool
 |.agg z=>jM ds (k.map .raw) (z.toList.map .raw)
 |_=>U
def H7 (ds:Y TypeDesc) (k:ξ):Y j!->M (M AV)
 |[]=>Z U
 |(z,v)::r=>match C5 ds k z with
  |some J=>Z (Z v)
  |some aa=>H7 ds k r
  |none=>U
def WZ (ds:Y TypeDesc) (k:ξ) (v:AV):Y j!->M (Y j!)
 |[]=>Z [(.agg k.toArray,v)]
 |(z,A)::r=>match C5 ds k z with
  |some J=>Z ((.agg k.toArray,v)::r)
  |some aa=>(match WZ ds k v r with|some D=>Z ((z,A)::D)|none=>U)
  |none=>U
def W1 (ds:Y TypeDesc) (k:ξ):Y j!->M (Y j!)
 |[]=>Z []
 |(z,A)::r=>match C5 ds k z with
  |some J=>Z r
  |some aa=>(match W1 ds k r with|some D=>Z ((z,A)::D)|none=>U)
  |none=>U
def told (n:Int):Y j!->M AV
 |(.int .i64 k,v)::r=>if k=n then Z v else told n r
 |_=>U
def mI (n:Int) (y:AV):Y j!->Y j!
 |[]=>[]
 |p::r=>(p.1,match p.1 with|.int .i64 k=>if k=n then y else p.2|_=>p.2)::mI n y r
def yf:Bool->Value->Bool
 |false,.int _ _=>J
 |true,.string _=>J
 |_,_=>aa
def rnA (b:UInt8) (s:ByteArray) (p:Nat):Int:=bif ef b.toNat 128 then b.toNat else (Utf8.decode s p).1
def wdA (b:UInt8) (s:ByteArray) (p:Nat):Nat:=bif ef b.toNat 128 then 1 else (Utf8.decode s p).2
def dx (s:OT) (e:Dx) (h:mY) (nx:Nat):M Cv:=
 match s with
 |.mv x=>match lZ e x with|some v=>rv v|none=>U
 |.pick c a b=>match lZ e c with
  |some (.f (.raw (.bool t)))=>(match lZ e (if t then a else b) with|some v=>rv v|none=>U)
  |_=>U
 |.alloc ty z=>Z ⟨.H nx 0,[],[nx],[(nx,⟨ty,.fz (z.map .raw)⟩)],[nx]⟩
 |.box ty x=>match lZ e x with
  |some v=>if gw v.cs then Z ⟨.H nx 0,[],[nx],[(nx,⟨ty,nV v.cs⟩)],[nx]⟩ else U
  |none=>U
 |.build z parts=>match Bx (z.map raw) e parts with|some cs=>rv (Pm cs)|none=>U
 |.xw ty sz len z parts=>match Bx ((repl z len).map .f) e parts with
  |some cs=>Z ⟨if len=0 then .emp else .G nx sz len,[],[nx],[(nx,⟨ty,nV cs⟩)],[nx]⟩
  |none=>U
 |.load sz A x=>match lZ e x with|some p=>xa h sz A p|none=>U
 |.store sz x v=>match lZ e x,lZ e v with|some p,Z y=>BX h sz y p|_,_=>U
 |.zh x=>match lZ e x with
  |some (.H id off)=>rv (.H id off)
  |some (.f (.H cells off))=>rv (.f (.H cells off))
  |some (.qy g cap)=>rv (.qy g cap)
  |_=>U
 |.bin op x y=>match lZ e x,lZ e y with
  |some (.f (.raw u)),Z (.f (.raw v))=>(match uX op u v with|some r=>rv (raw r)|none=>U)
  |_,_=>U
 |.jm neg ds x y=>match lZ e x,lZ e y with
  |some (.f (.agg a)),Z (.f (.agg b))=>(match jM ds a b with|some r=>rv (raw (.bool (r !=neg)))|none=>U)
  |_,_=>U
 |.xj neg x y=>match lZ e x,lZ e y with
  |some (.f (.raw (.bool a))),Z (.f (.raw (.bool b)))=>rv (raw (.bool ((a==b) !=neg)))
  |_,_=>U
 |.zf neg x=>match lZ e x with
  |some (.G _ _ _)|some (.sl _ _ _)|some (.f (.sl _ (_+1)))=>rv (raw (.bool neg))
  |some (.f (.sl _ 0))|some .emp=>rv .qw
  |some (.f (.raw v))=>if uR v then rv (raw (.bool !neg)) else U
  |_=>U
 |.not x=>match lZ e x with|some (.f (.raw (.bool b)))=>rv (raw (.bool !b))|_=>U
 |.conv k x=>match lZ e x with|some (.f (.raw (.int _ n)))=>rv (raw (.int k (bA k n)))|_=>U
 |.zg ty sz bytes z l c=>match lZ e l,lZ e c with
  |some (.f (.raw (.int _ a))),Z (.f (.raw (.int _ b)))=>
   if dg 0 a&&dg a b&&be b.toNat bytes then Z ⟨.G nx sz a.toNat,[],[nx],[(nx,⟨ty,.fz (repl z a.toNat)⟩)],[nx]⟩ else U
  |_,_=>U
 |.slc sz x D hi mx=>match lZ e x with
  |some v=>match D,hi,mx with
   |none,Z (.const (.int _ 0)),Z (.const (.int _ 0))=>if v.slen.isSome then rv .emp else U
   |none,Z b,U=>match v,lZ e b with
    |.G id sz' n,Z (.f (.raw (.int _ j)))=>if sz'==sz&&dg 0 j&&dg j n then (match h.get id with
     |some blk=>if blk.c.isCells&&dK (n*sz) blk.c.len then Z ⟨.G nx sz j.toNat,[id],[nx,id],[(nx,⟨blk.ty,nV (blk.c.toMx.take (j.toNat*sz))⟩)],[nx]⟩ else U
     |none=>U) else U
    |.f (.sl cells n),Z (.f (.raw (.int _ j)))=>if dg 0 j&&dg j n&&dK (n*sz) (l! cells) then rv (.f (.sl (cells.take (j.toNat*sz)) j.toNat)) else U
    |_,_=>U
   |some b,U,U=>match v,lZ e b with
    |.G id sz' n,Z (.f (.raw (.int _ j)))=>if sz'==sz&&dg 0 j&&fQ j n then rv (.sl id (j.toNat*sz) (n-j.toNat)) else U
    |.f (.sl cells n),Z (.f (.raw (.int _ j)))=>if dg 0 j&&dg j n&&dK (n*sz) (l! cells) then rv (.f (.sl ((cells.drop (j.toNat*sz)).take ((n-j.toNat)*sz)) (n-j.toNat))) else U
    |_,_=>U
   |none,Z b,Z b'=>match v,lZ e b,lZ e b' with
    |.f (.sl cells n),Z (.f (.raw (.int _ j))),Z (.f (.raw (.int _ L)))=>if decide (j=L)&&dg 0 j&&dg j n&&dK (n*sz) (l! cells) then rv (.qd (cells.take (j.toNat*sz)) j.toNat) else U
    |_,_,_=>U
   |_,_,_=>U
  |none=>U
 |.jf off x=>match lZ e x with
  |some (.H id o)=>rv (.H id (o+off))
  |some (.f (.H cells o))=>rv (.f (.H cells (o+off)))
  |_=>U
 |.fld off sz A x=>match lZ e x with
  |some (.agg l)=>(match (BC.mx l).sub? off sz A with|some v=>rv v|none=>U)
  |some (.f (.agg l))=>(match (BC.fz l).sub? off sz A with|some v=>rv v|none=>U)
  |_=>U
 |.jg sz x i=>match lZ e x,lZ e i with
  |some v,Z (.f (.raw (.int _ j)))=>match v with
   |.G id sz' n=>if sz'==sz&&dg 0 j&&fQ j n then rv (.H id (j.toNat*sz)) else U
   |.sl id off n=>if dg 0 j&&fQ j n then rv (.H id (off+j.toNat*sz)) else U
   |.f (.sl cells n)=>if dg 0 j&&fQ j n then rv (.f (.H cells (j.toNat*sz))) else U
   |_=>U
  |_,_=>U
 |.jx n sz x i=>match lZ e x,lZ e i with
  |some v,Z (.f (.raw (.int _ j)))=>if dg 0 j&&fQ j n then (match v with
   |.H id off=>rv (.H id (off+j.toNat*sz))
   |.f (.H cells off)=>rv (.f (.H cells (off+j.toNat*sz)))
   |_=>U) else U
  |_,_=>U
 |.idx n sz A x i=>match lZ e x,lZ e i with
  |some v,Z (.f (.raw (.int _ j)))=>if dg 0 j&&fQ j n then (match v with
   |.agg l=>(match (BC.mx l).sub? (j.toNat*sz) sz A with|some v=>rv v|none=>U)
   |.f (.agg l)=>(match (BC.fz l).sub? (j.toNat*sz) sz A with|some v=>rv v|none=>U)
   |_=>U) else U
  |_,_=>U
 |.ext x i=>match lZ e x with|some (.qg l)=>(match l[i]? with|some v=>rv v|none=>U)|_=>U
 |.len x=>match lZ e x with
  |some v=>(match v.slen with|some n=>rv (raw (.int .i64 n))|none=>U)
  |none=>U
 |.lens x=>match lZ e x with
  |some (.f (.raw (.string s)))=>rv (raw (.int .i64 (l! s.data.toList)))
  |_=>U
 |.jw x=>match lZ e x with
  |some (.mp id)=>(match h.get id with|some ⟨0,.mp es⟩=>Z ⟨raw (.int .i64 (l! es)),[id],[],[],[]⟩|_=>U)
  |_=>U
 |.max x y=>match lZ e x,lZ e y with
  |some (.f (.raw (.int k a))),Z (.f (.raw (.int _ b)))=>rv (raw (.int k (if fQ a b then b else a)))
  |_,_=>U
 |.min x y=>match lZ e x,lZ e y with
  |some (.f (.raw (.int k a))),Z (.f (.raw (.int _ b)))=>rv (raw (.int k (if fQ b a then b else a)))
  |_,_=>U
 |.jq x i=>match lZ e x,lZ e i with
  |some (.f (.raw (.string s))),Z (.f (.raw (.int _ j)))=>if dg 0 j then (match s.data.toList[j.toNat]? with|some b=>rv (raw (.int .u8 b.toNat))|none=>U) else U
  |_,_=>U
 |.app ty sz bytes s x=>match lZ e s,lZ e x with
  |some b,Z y=>match y.row? h sz with
   |some (src,m,rd)=>match b with
    |.G id sz' n=>match h.get id with
     |some blk=>if sz'==sz&& !(mem id rd)&&blk.c.isCells&&dK (n*sz) blk.c.len&&blk.ty==ty&&be (n+m) bytes then
       Z ⟨.G nx sz (n+m),id::rd,[nx,id],[(nx,⟨ty,nV (blk.c.toMx.take (n*sz)++src)⟩)],[nx]⟩ else U
     |none=>U
    |.qd cells n=>if dK (n*sz) (l! cells)&&be (n+m) bytes then
      (if m==0 then Z ⟨.f (.sl cells n),rd,[],[],[]⟩ else Z ⟨.G nx sz (n+m),rd,[nx],[(nx,⟨ty,nV ((cells.take (n*sz)).map .f++src)⟩)],[nx]⟩) else U
    |b=>if D2 b&&be m bytes then
      (if m==0 then Z ⟨b,rd,[],[],[]⟩ else Z ⟨.G nx sz m,rd,[nx],[(nx,⟨ty,nV src⟩)],[nx]⟩) else U
   |none=>U
  |_,_=>U
 |.copy sz d x=>match lZ e d,lZ e x with
  |some (.G id sz' n),Z y=>(match h.get id,y.row? h sz with
   |some blk,Z (src,m,rd)=>if sz'==sz&& !(mem id rd)&&dK (n*sz) blk.c.len then
     (match blk.c.put 0 (src.take (jH m n*sz)) with
     |some c=>Z ⟨raw (.int .i64 (jH m n)),id::rd,[id],[(id,⟨blk.ty,c⟩)],[]⟩
     |none=>U) else U
   |_,_=>U)
  |_,_=>U
 |.clr _ z x=>match lZ e x with
  |some (.sl id off n)=>(match h.get id with
   |some blk=>if ef 0 n then (match blk.c.put off ((repl z n).map .f) with
    |some c=>Z ⟨.qg [],[id],[id],[(id,⟨blk.ty,c⟩)],[]⟩
    |none=>U) else U
   |none=>U)
  |_=>U
 |.mkf f caps=>match evs e caps with|some l=>rv (.qy f l)|none=>U
 |.mkm=>Z ⟨.mp nx,[],[nx],[(nx,⟨0,.mp []⟩)],[nx]⟩
 |.jk str ok z x k=>match lZ e x,lZ e k with
  |some (.mp id),Z (.f (.raw key))=>(match h.get id with
   |some ⟨0,.mp es⟩=>if yf str key then (match s_ key es with|some (Z v)=>Z ⟨pkV ok v J,[id],[],[],[]⟩|some U=>Z ⟨pkV ok (raw z) aa,[id],[],[],[]⟩|none=>U) else U
   |some ⟨_+1,.mp es⟩=>(match key with
    |.int .i64 n=>if !str&&(!ok&&uR z) then (match told n es with|some v=>Z ⟨v,[id],[],[],[]⟩|none=>U) else U
    |_=>U)
   |_=>U)
  |_,_=>U
 |.jy str x k v=>match lZ e x,lZ e k,lZ e v with
  |some (.mp id),Z (.f (.raw key)),Z y=>(match h.get id with
   |some ⟨0,.mp es⟩=>if yf str key then (match zE key y es with|some es'=>Z ⟨raw undef,[id],[id],[(id,⟨0,.mp es'⟩)],[]⟩|none=>U) else U
   |some ⟨ty+1,.mp es⟩=>(match key with
    |.int .i64 n=>if str then U else Z ⟨raw undef,[id],[id],[(id,⟨ty+1,.mp (mI n y es)⟩)],[]⟩
    |_=>U)
   |_=>U)
  |_,_,_=>U
 |.rng x=>match lZ e x with
  |some (.f (.raw (.string s)))=>Z ⟨.H nx 0,[],[nx],[(nx,⟨0,.it s 0⟩)],[nx]⟩
  |_=>U
 |.nxt x=>match lZ e x with
  |some (.H id 0)=>(match h.get id with
   |some ⟨ty,.it s p⟩=>(match s.data.toList[p]? with
    |some b=>Z ⟨.qg [raw (.bool J),raw (.int .i64 p),raw (.int .i32 (rnA b s p))],[id],[id],[(id,⟨ty,.it s (p+wdA b s p)⟩)],[]⟩
    |none=>Z ⟨.qg [raw (.bool aa)],[id],[id],[(id,⟨ty,.it s p⟩)],[]⟩)
   |_=>U)
  |_=>U
 |.zl neg x=>match lZ e x with
  |some (.H _ _)|some (.f (.H _ _))=>rv (raw (.bool neg))
  |some (.f (.raw (.pointer U)))=>rv (raw (.bool !neg))
  |_=>U
 |.xz ds z x k=>match lZ e x,(lZ e k).bind (Xo ds) with
  |some (.mp id),Z key=>(match h.get id with
   |some ⟨0,.mp es⟩=>(match H7 ds key es with
    |some (Z v)=>Z ⟨v,[id],[],[],[]⟩
    |some U=>Z ⟨raw z,[id],[],[],[]⟩
    |none=>U)
   |_=>U)
  |_,_=>U
 |.xq ds x k v=>match lZ e x,(lZ e k).bind (Xo ds),lZ e v with
  |some (.mp id),Z key,Z y=>(match h.get id with
   |some ⟨0,.mp es⟩=>(match WZ ds key y es with|some es'=>Z ⟨raw undef,[id],[id],[(id,⟨0,.mp es'⟩)],[]⟩|none=>U)
   |_=>U)
  |_,_,_=>U
 |.xx ds x k=>match lZ e x,(lZ e k).bind (Xo ds) with
  |some (.mp id),Z key=>(match h.get id with
   |some ⟨0,.mp es⟩=>(match W1 ds key es with|some es'=>Z ⟨.qg [],[id],[id],[(id,⟨0,.mp es'⟩)],[]⟩|none=>U)
   |_=>U)
  |_,_=>U
 |.zd=>U
structure tX where
 dst:Option Nat
 op:SI
 guard:Option (Nat×Bool)
inductive SC where
 |skip
 |jz (ops:List tX) (prs:List (Nat×Nat))
 |seq (a b:SC)
 |cond (c:Nat) (a b:SC)
 |block (id:Nat) (b:SC)
 |loop (b:SC)
 |exit (id:Nat)
 |ret
 |defer (f:FuncId) (caps:List Operand) (t:Nat)
 |zd
structure ats where
 val:AV
 h:mY
 nx:Nat
 wr:Nat
abbrev aa4:=FuncId->Y AV->mY->Nat->M ats
mutual
def AV.ids:AV->Nat->Nat
 |.H id _,acc|.sl id _ _,acc|.G id _ _,acc|.mp id,acc=>acc|||(1<<<id)
 |.agg l,acc|.qg l,acc|.qy _ l,acc=>AV.idsL l acc
 |.f _,acc|.emp,acc|.qw,acc|.qd _ _,acc=>acc
def AV.idsL:Y AV->Nat->Nat
 |[],acc=>acc
 |x::r,acc=>AV.idsL r (AV.ids x acc)
end
mutual
def AV.all (p:Nat->Bool):AV->Bool
 |.H id _|.sl id _ _|.G id _ _|.mp id=>p id
 |.agg l|.qg l|.qy _ l=>AV.allL p l
 |.f _=>J
 |.emp=>J
 |.qw=>J
 |.qd _ _=>J
def AV.allL (p:Nat->Bool):Y AV->Bool
 |[]=>J
 |x::r=>AV.all p x&&AV.allL p r
end
def BC.ids:BC->Nat->Nat
 |.mx l,acc=>AV.idsL l acc
 |.mp es,acc=>AV.idsL (es.map (·.2)) acc
 |_,acc=>acc
def BC.all (p:Nat->Bool):BC->Bool
 |.mx l=>AV.allL p l
 |.mp es=>AV.allL p (es.map (·.2))
 |_=>J
def mY.all (p:Nat->Bool) (h:mY):Bool:=PT.all (λi b=>p i&&b.c.all p) 1 0 h
def Y6:Nat->mY->Nat->Nat->Nat
 |0,_,_,NS=>NS
 |n+1,h,todo,NS=>
  if aA todo 0 then NS else
  match Nat.log2 todo with
  |id=>if aK NS id then Y6 n h (todo ^^^ (1<<<id)) NS else
   match h.get id with
   |some b=>Y6 n h (b.c.ids (todo ^^^ (1<<<id))) (NS|||(1<<<id))
   |none=>Y6 n h (todo ^^^ (1<<<id)) NS
section force
variable {α:Type}
def uq (n:Nat) (k:Nat->α):α:=match n with|0=>k 0|m+1=>k (m+1)
def frcI (n:Int) (k:Int->α):α:=match n with|.ofNat m=>uq m λm=>k (.ofNat m)|.negSucc m=>uq m λm=>k (.negSucc m)
def frcB (b:Bool) (k:Bool->α):α:=match b with|true=>k J|false=>k aa
def frcV (v:Value) (k:Value->α):α:=match v with
 |.int kd n=>frcI n λn=>k (.int kd n)
 |.bool b=>frcB b λb=>k (.bool b)
 |v=>k v
def arb (x:FV) (k:FV->α):α:=match x with
 |.raw v=>frcV v λv=>k (.raw v)
 |.H cells off=>uq off λoff=>k (.H cells off)
 |.sl cells n=>uq n λn=>k (.sl cells n)
 |.agg l=>k (.agg l)
def afz:Y FV->(Y FV->α)->α
 |[],k=>k []
 |x::r,k=>arb x λx=>afz r λr=>k (x::r)
def ara (x:FV) (k:FV->α):α:=match x with
 |.agg l=>afz l λl=>k (.agg l)
 |x=>arb x k
def am8 (x:AV) (k:AV->α):α:=match x with
 |.f x=>ara x λx=>k (.f x)
 |.H id off=>uq id λid=>uq off λoff=>k (.H id off)
 |.sl id off n=>uq id λid=>uq off λoff=>uq n λn=>k (.sl id off n)
 |.G id sz n=>uq id λid=>uq sz λsz=>uq n λn=>k (.G id sz n)
 |.mp id=>uq id λid=>k (.mp id)
 |x=>k x
def UA:Y AV->(Y AV->α)->α
 |[],k=>k []
 |x::r,k=>am8 x λx=>UA r λr=>k (x::r)
def arc (x:AV) (k:AV->α):α:=match x with
 |.agg l=>UA l λl=>k (.agg l)
 |.qg l=>UA l λl=>k (.qg l)
 |.qy f l=>UA l λl=>k (.qy f l)
 |x=>am8 x k
def frcC (c:BC) (k:BC->α):α:=match c with
 |.fz l=>afz l λl=>k (.fz l)
 |.mx l=>UA l λl=>k (.mx l)
 |.it s p=>uq p λp=>k (.it s p)
 |.mp es=>k (.mp es)
def Uz :PT R->(PT R->α)->α
 |.leaf,k=>k .leaf
 |.node v l r,k=>(match v with
  |none=>λ(k:M R->α)=>k U
  |some x=>λk=>k (Z x)) λv=>Uz l λl=>Uz r λr=>k (.node v l r)
def WV :Nat->PT R->Nat->M R->(PT R->α)->α
 |0,t,_,_,k=>k t
 |f+1,t,n,x,k=>match t with
  |.leaf=>(match n with
   |0=>k (.node x .leaf .leaf)
   |m+1=>if aA (m%2) 0 then uq (m/2) λq=>WV f .leaf q x λu=>k (.node U u .leaf) else uq (m/2) λq=>WV f .leaf q x λu=>k (.node U .leaf u))
  |.node v l r=>(match n with
   |0=>k (.node x l r)
   |m+1=>if aA (m%2) 0 then uq (m/2) λq=>WV f l q x λu=>k (.node v u r) else uq (m/2) λq=>WV f r q x λu=>k (.node v l u))
def Rv :∀(x:PT R) (k:PT R->α),Uz x k=k x
 |.leaf,_=>rfl
 |.node v l r,k=>by cases v<;>simp only[Uz,Rv l,Rv r]
end force
structure IS where
 e:Dx
 h:mY
 nx:Nat
 wr:Nat
structure amp where
 val:AV
 rd:Nat
 wr:Nat
 h:mY
 nx:Nat
def bits:ι->Nat->Nat
 |[],acc=>acc
 |x::r,acc=>bits r (acc|||(1<<<x))
def an0 (h:mY) (z:NW):ι->(mY->R)->R
 |[],k=>k h
 |i::r,k=>match jS z i with
  |none=>WV (i+1) h i U λh=>an0 h z r k
  |some ⟨ty,c⟩=>frcC c λc=>WV (i+1) h i (Z ⟨ty,c⟩) λh=>an0 h z r k
def amc (call:aa4) (f:FuncId) (args:Y AV) (h:mY) (nx:Nat):M amp:=
 uq (Y6 1000000 h (AV.idsL args 0) 0) λids=>Uz (PT.only ids 1 0 h) λA=>
 if AV.allL (ef · nx) args&&mY.all (ef · nx) A then
  match call f args A nx with
  |some ⟨val,h',nx',z⟩=>arc val λval=>uq nx' λnx'=>uq z λz=>Uz (PT.merge z 1 0 h h') λhm=>Z ⟨val,ids,z,hm,nx'⟩
  |none=>U
 else U
def opA (call:aa4) (o:SI) (e:Dx) (h:mY) (nx:Nat):M amp:=
 match o with
 |.call f args=>match evs e args with|some l=>amc call f l h nx|none=>U
 |.jv x args=>match lZ e x,evs e args with|some (.qy f cap),Z l=>amc call f (l++cap) h nx|_,_=>U
 |.op o=>match dx o e h nx with
  |some ⟨val,rd,z,D,N⟩=>arc val λval=>uq (bits rd 0) λrd=>uq (bits z 0) λA=>uq (nx+l! N) λnx'=>an0 h D z λh=>Z ⟨val,rd,A,h,nx'⟩
  |none=>U
def aqk (e:Dx):M (Nat×Bool)->M Bool
 |none=>Z J
 |some (t,want)=>match e.get t with
  |some (.f (.raw (.bool b)))=>Z (b==want)
  |some (.f (.raw (.tuple _)))=>Z aa
  |_=>U
def anf (e:Dx) (dst:M Nat) (v:AV) (k:Dx->R):R:=match dst with
 |none=>k e
 |some d=>WV (d+1) e d (Z v) k
structure FPm where
 rd:Nat
 wr:Nat
def W3 (call:aa4):Y tX->IS->M (IS×Y FPm)
 |[],s=>Z (s,[])
 |o::r,⟨e,h,nx,A⟩=>
  match aqk e o.guard with
  |some J=>(match opA call o.op e h nx with
   |some ⟨val,rd,w,h',nx'⟩=>anf e o.dst val λe'=>uq (A|||w) λwr'=>(match W3 call r ⟨e',h',nx',wr'⟩ with
    |some (s',z)=>Z (s',⟨rd,w⟩::z)
    |none=>U)
   |none=>U)
  |some aa=>anf e o.dst (raw undef) λe'=>(match W3 call r ⟨e',h,nx,A⟩ with
   |some (s',z)=>Z (s',⟨0,0⟩::z)
   |none=>U)
  |none=>U
def ab7:Y FPm->Nat->M FPm
 |[],_=>U
 |f::_,0=>Z f
 |_::r,n+1=>ab7 r n
def F6 (a b:Nat):Bool:=aA (a&&&b) 0
abbrev o?:=Nat×Nat
def Ia (z:Y FPm):Y o?->Bool
 |[]=>J
 |(i,j)::r=>(match ab7 z i,ab7 z j with
  |some a,Z b=>F6 a.wr b.rd&&F6 a.wr b.wr&&F6 b.wr a.rd
  |_,_=>aa)&&Ia z r
inductive Ex where
 |normal
 |exit (id:Nat)
 |ret
def am5 (body:IS->M (Ex×IS)) (e0:Dx):Nat->IS->M (Ex×IS)
 |0,_=>U
 |n+1,s=>match body s with
  |some (.normal,⟨e,h,nx,z⟩)=>Uz (PT.mask e e0) λe=>am5 body e0 n ⟨e,h,nx,z⟩
  |r=>r
def run (call:aa4) (inert:FuncId->Bool) (fuel:Nat):SC->IS->M (Ex×IS)
 |.skip,s=>Z (.normal,s)
 |.jz ops prs,s=>match W3 call ops s with
  |some (s',A)=>if Ia A prs then Z (.normal,s') else U
  |none=>U
 |.seq a b,s=>match run call inert fuel a s with
  |some (.normal,s')=>run call inert fuel b s'
  |r=>r
 |.cond c a b,s=>match s.e.get c with
  |some (.f (.raw (.bool J)))=>run call inert fuel a s
  |some (.f (.raw (.bool aa)))=>run call inert fuel b s
  |_=>U
 |.block id b,s=>match run call inert fuel b s with
  |some (.exit i,s')=>if aA i id then Z (.normal,s') else Z (.exit i,s')
  |r=>r
 |.loop b,s=>am5 (run call inert fuel b) s.e fuel s
 |.exit id,s=>Z (.exit id,s)
 |.ret,s=>Z (.ret,s)
 |.defer f caps t,⟨e,h,nx,z⟩=>match evs e caps with
  |some l=>if inert f then anf e (Z t) (.qy f l) λe'=>Z (.normal,⟨e',h,nx,z⟩) else U
  |none=>U
 |.zd,_=>U
inductive RV where
 |tmp (t:Nat)
 |cell (a:Nat) (sz:Nat) (ag:Bool)
structure SF where
 code:SC
 res:List RV
 nt:Nat
def EH:Y AV->AV
 |[x]=>x
 |l=>.qg l
def ao2:Value->Value->Bool
 |.bool a,.bool b=>a==b
 |.int k a,.int A b=>k==A&&a==b
 |.string a,.string b=>tB a b
 |.slice U n c,.slice U z D=>aA n z&&aA c D
 |.pointer U,.pointer U=>J
 |.tuple a,.tuple b=>a.isEmpty&&b.isEmpty
 |_,_=>aa
def fI (P:Program) (t:TypeId):M Nat:=(P.info? t).map (·.size)
def HI (P:Program) (t:TypeId):M Nat:=(P.info? t).map (·.bytes)
def uy (P:Program) (t:TypeId):M ξ:=((P.info? t).bind (·.zero)).map (·.cells.toList)
def Gl (P:Program) (t:TypeId):M Bool:=(P.underlying t).map λ|.struct _=>J|.array _ _=>J|_=>aa
def C' (P:Program) (t:TypeId):M TypeId:=match P.underlying t with|some (.slice e)=>Z e|_=>U
def DJ (P:Program) (t:TypeId) (i:Nat):M o?:=match P.underlying t with
 |some (.struct A)=>(A[i]?).bind λf=>(fI P f.type).map (f.offset,·)
 |some (.array _ z)|some (.slice z)=>(fI P z).map λs=>(i*s,s)
 |_=>U
abbrev F?:=Nat×Operand
def za (P:Program) (t:TypeId):Y F?->M (Y m?)
 |[]=>Z []
 |(i,x)::r=>match DJ P t i,za P t r with|some (o,s),Z l=>Z ((o,s,x)::l)|_,_=>U
def nS (z:ξ):Bool:=z.all λv=>v.oneCell'
def DI:TypeDesc->Bool
 |.int _=>J
 |.bool=>J
 |.string=>J
 |_=>aa
def lV (P:Program):Nat→Y Field→M (Y TypeDesc)
 |_,[]=>Z []
 |k,f::r=>match P.underlying f.type,lV P (k+1) r with
  |some d,Z ds=>if f.name != "_" &&f.offset==k&&DI d then Z (d::ds) else U
  |_,_=>U
def DH (P:Program) (t:TypeId):M (Y TypeDesc):=match P.underlying t with
 |some (.struct z)=>if P.stoodInHeld t then U else lV P 0 z.toList
 |_=>U
def VN (P:Program) (c:Call):M OT:=
 match c.callee with
 |.builtin .len=>(match c.args.toList,c.argTypes.toList with
  |[x],[t]=>(match P.underlying t with
   |some (.slice _)=>Z (.len x)
   |some .string=>Z (.lens x)
   |some (.map _ _)=>Z (.jw x)
   |_=>U)
  |_,_=>U)
 |.builtin .max=>(match c.args.toList with
  |[x,y]=>Z (.max x y)
  |_=>U)
 |.builtin .min=>(match c.args.toList with
  |[x,y]=>Z (.min x y)
  |_=>U)
 |.builtin .copy=>(match c.args.toList,c.argTypes.toList with
  |[d,x],[t,u]=>(match C' P t,C' P u with
   |some A,Z _=>(fI P A).bind λsz=>if sz !=0 then Z (.copy sz d x) else U
   |_,_=>U)
  |_,_=>U)
 |.builtin .delete=>(match c.args.toList,c.argTypes.toList with
  |[m,k],[t,_]=>(match P.underlying t with
   |some (.map D _)=>(DH P D).map λds=>.xx ds m k
   |_=>U)
  |_,_=>U)
 |.builtin .clear=>(match c.args.toList,c.argTypes.toList with
  |[x],[t]=>(C' P t).bind λA=>(uy P A).bind λz=>(fI P A).bind λsz=>if nS z&&l! z==sz&&sz !=0 then Z (.clr sz z x) else U
  |_,_=>U)
 |.builtin .append=>(match c.args.toList,c.argTypes.toList with
  |[s,x],[t,u]=>(match C' P t,C' P u with
   |some A,Z _=>(fI P A).bind λsz=>(HI P A).bind λb=>(uy P A).bind λz=>if sz !=0&&l! z==sz then Z (.app A sz b s x) else U
   |_,_=>U)
  |_,_=>U)
 |_=>U
def cZ (P:Program):Op->M OT
 |.move x|.assign x=>Z (.mv x)
 |.pick c a b=>Z (.pick c a b)
 |.alloc t=>(uy P t).bind λz=>if nS z then Z (.alloc t z) else U
 |.box t x=>Z (.box t x)
 |.build t ps=>match P.underlying t with
  |some (.struct L)=>(uy P t).bind λz=>if nS z&&(L.toList.all λf=>(fI P f.type).isSome) then (za P t ps.toList).map (.build z) else U
  |some (.array _ A)=>(uy P t).bind λz=>if nS z&&(fI P A).isSome then (za P t ps.toList).map (.build z) else U
  |_=>U
 |.buildSlice t n ps=>(C' P t).bind λA=>(uy P A).bind λz=>(fI P A).bind λsz=>if nS z&&l! z==sz&&dK (n*sz) 65536&&sz !=0 then (za P t ps.toList).map (.xw A sz n z) else U
 |.load t x=>(fI P t).bind λsz=>(Gl P t).map λN=>.load sz N x
 |.store t x v=>(fI P t).map λsz=>.store sz x v
 |.nilCheck x=>Z (.zh x)
 |.binOp op t x y _=>match P.underlying t with
  |some (.int _)|some .string=>Z (.bin op x y)
  |some .bool=>(match op with|.eql=>Z (.xj aa x y)|.neq=>Z (.xj J x y)|_=>U)
  |some (.slice _)=>(match op,y with
   |.eql,.const (.slice U 0 0)=>Z (.zf aa x)
   |.neq,.const (.slice U 0 0)=>Z (.zf J x)
   |_,_=>U)
  |some (.pointer _)=>(match op,y with
   |.eql,.const (.pointer U)=>Z (.zl aa x)
   |.neq,.const (.pointer U)=>Z (.zl J x)
   |_,_=>U)
  |some (.struct _)=>(DH P t).bind λds=>(match op with|.eql=>Z (.jm aa ds x y)|.neq=>Z (.jm J ds x y)|_=>U)
  |_=>U
 |.unOp .not _ x=>Z (.not x)
 |.unOp .neg t x=>match P.underlying t with|some (.int k)=>Z (.bin .sub (.const (.int k 0)) x)|_=>U
 |.convert s d x=>match P.underlying s,P.underlying d with|some (.int _),Z (.int k)=>Z (.conv k x)|_,_=>U
 |.makeSlice t l c=>(C' P t).bind λA=>(uy P A).bind λz=>(fI P A).bind λsz=>(HI P A).bind λb=>if nS z&&l! z==sz&&sz !=0 then Z (.zg A sz b z l c) else U
 |.slice t x lo hi mx=>(C' P t).bind λA=>(fI P A).map λsz=>.slc sz x lo hi mx
 |.fieldAddr t x k=>match P.underlying t with
  |some (.struct L)=>(L[k]?).bind λf=>(fI P f.type).bind λsz=>if sz !=0 then Z (.jf f.offset x) else U
  |_=>U
 |.field t x k=>match P.underlying t with
  |some (.struct L)=>(L[k]?).bind λf=>(fI P f.type).bind λsz=>(Gl P f.type).map λN=>.fld f.offset sz N x
  |_=>U
 |.indexAddr t x i=>match P.underlying t with
  |some (.slice A)=>(fI P A).map λsz=>.jg sz x i
  |some (.array n A)=>(fI P A).map λsz=>.jx n sz x i
  |_=>U
 |.index t x i=>match P.underlying t with
  |some (.array n A)=>(fI P A).bind λsz=>(Gl P A).map λN=>.idx n sz N x i
  |some .string=>Z (.jq x i)
  |_=>U
 |.extract x i=>Z (.ext x i)
 |.makeFunc (.func f) first caps=>if first.isEmpty then Z (.mkf f caps.toList) else U
 |.makeMap t U=>match P.underlying t with|some (.map _ _)=>Z .mkm|_=>U
 |.lookup t x k ok=>match P.underlying t with
  |some (.map D A)=>(match P.underlying D,(P.info? A).bind (·.zero) with
   |some (.int _),Z z=>if z.oneCell' then Z (.jk aa ok z x k) else U
   |some .string,Z z=>if z.oneCell' then Z (.jk J ok z x k) else U
   |some (.struct _),Z z=>if z.oneCell'&& !ok then (DH P D).map λds=>.xz ds z x k else U
   |_,_=>U)
  |_=>U
 |.mapUpdate t m k v=>match P.underlying t with
  |some (.map D _)=>(match P.underlying D with
   |some (.int _)=>Z (.jy aa m k v)
   |some .string=>Z (.jy J m k v)
   |some (.struct _)=>(DH P D).map λds=>.xq ds m k v
   |_=>U)
  |_=>U
 |.range t x=>match P.underlying t with|some .string=>Z (.rng x)|_=>U
 |.next x J=>Z (.nxt x)
 |.call c=>VN P c
 |_=>U
def Nb:Op->M SI
 |.call c=>(match c.callee with
  |.value (.func f)=>Z (.call f c.args.toList)
  |.value (.tmp t)=>Z (.jv (.tmp t) c.args.toList)
  |_=>U)
 |_=>U
def w9 (P:Program) (op:Op):SI:=match Nb op with
 |some i=>i
 |none=>(match cZ P op with|some s=>.op s|none=>.op .zd)
def OT.still:OT->Bool
 |.mv _|.pick _ _ _|.build _ _|.zh _|.bin _ _ _|.jm _ _ _ _|.zf _ _|.xj _ _ _|.not _|.conv _ _|.jf _ _|.fld _ _ _ _|.jg _ _ _|.jx _ _ _ _|.idx _ _ _ _ _|.ext _ _|.max _ _|.min _ _|.jq _ _|.mkf _ _|.zl _ _|.zd=>J
 |_=>aa
def SI.still:SI->Bool
 |.op s=>s.still
 |_=>aa
def tA (P:Program) (ops:Array Oper):Y Oper->M (Y tX)
 |[]=>Z []
 |o::r=>match tA P ops r with
  |some l=>(match o.guard with
   |none=>Z (⟨o.dst,w9 P o.op,U⟩::l)
   |some (j,want)=>(match (ops[j]?).bind (·.dst) with
    |some t=>Z (⟨o.dst,w9 P o.op,Z (t,want)⟩::l)
    |none=>U))
  |none=>U
def Pd (ops:Array Oper) (l:Y tX):M (Y o?):=
 let B:=Nf ops.toList []
 if (iR ops.size).all λj=>((ops[j]?).all λz=>z.after.toList.all λe=> !B9 .any e||decide (e.on<j))&&
     (iR j).all λi=>aK (B.getD j 0) i||(match ops[i]?,ops[j]? with|some A,Z z=>A.apart ops z|_,_=>aa)
 then Z ((iR ops.size).flatMap λj=>(iR j).filterMap λi=>
  if aK (B.getD j 0) i||(match l[i]?,l[j]? with|some a,Z b=>a.op.still||b.op.still|_,_=>aa) then U else Z (i,j))
 else U
def ZN (ops:Array Oper) (A:Bool):M (FuncId×Y Operand×Nat):=match ops.toList,A with
 |[p,q],aa=>(match p.op,p.guard,p.dst,q.op,q.guard,q.dst with
  |.makeFunc (.func f) first caps,U,Z t,.defer c,U,U=>(match c.callee,c.args.toList with
   |.value (.tmp z),[]=>if aA t z&&first.isEmpty then Z (f,caps.toList,t) else U
   |_,_=>U)
  |_,_,_,_,_,_=>U)
 |_,_=>U
def cK (P:Program) (nt:Nat):Code->SC
 |.skip=>.skip
 |.region _ ops z=>if ops.toList.all λo=>match o.dst with|some d=>decide (d<nt)|none=>J then
   (match ZN ops z with
   |some (f,caps,t)=>.defer f caps t
   |none=>(match tA P ops ops.toList with
    |some l=>(match Pd ops l with|some prs=>.jz l prs|none=>.zd)
    |none=>.zd)) else .zd
 |.seq a b=>.seq (cK P nt a) (cK P nt b)
 |.cond (.tmp c) a b=>.cond c (cK P nt a) (cK P nt b)
 |.cond (.const (.bool J)) a _=>cK P nt a
 |.cond (.const (.bool aa)) _ b=>cK P nt b
 |.block id b=>.block id (cK P nt b)
 |.loop b=>.loop (cK P nt b)
 |.exit id=>.exit id
 |.ret=>.ret
 |_=>.zd
def w7 (P:Program):Y ResultVar->M (Y RV)
 |[]=>Z []
 |.tmp t::r=>match w7 P r with|some l=>Z (.tmp t::l)|none=>U
 |.cell a t::r=>match w7 P r,fI P t,Gl P t with|some l,Z sz,Z z=>Z (.cell a sz z::l)|_,_,_=>U
def BT (P:Program) (f:FuncId):M SF:=
 match P.funcs[f]? with
 |some fn=>if fn.name== "runtime.NumGoroutine" then U else (match fn.body,w7 P fn.results.toList with
  |some c,Z r=>Z ⟨cK P fn.ntmps c,r,fn.ntmps⟩
  |_,_=>U)
 |none=>U
inductive Xp where
 |mk (op n:Int) (name:ζ) (l:List Xp)
inductive Sx where
 |mk (op line:Int) (name arg:ζ) (index:List Xp) (expr:Xp) (body els:List Sx)
def Xp.op:Xp->Int|.mk a _ _ _=>a
def Xp.n:Xp->Int|.mk _ a _ _=>a
def Xp.name:Xp->ζ|.mk _ _ a _=>a
def Xp.l:Xp->Y Xp|.mk _ _ _ a=>a
def Sx.op:Sx->Int|.mk a _ _ _ _ _ _ _=>a
def Sx.line:Sx->Int|.mk _ a _ _ _ _ _ _=>a
def Sx.name:Sx->ζ|.mk _ _ a _ _ _ _ _=>a
def Sx.arg:Sx->ζ|.mk _ _ _ a _ _ _ _=>a
def Sx.index:Sx->Y Xp|.mk _ _ _ _ a _ _ _=>a
def Sx.expr:Sx->Xp|.mk _ _ _ _ _ a _ _=>a
def Sx.body:Sx->Y Sx|.mk _ _ _ _ _ _ a _=>a
def Sx.els:Sx->Y Sx|.mk _ _ _ _ _ _ _ a=>a
inductive Ty where
 |int (k:IntKind)
 |bool
 |str
 |sl (t:Ty)
 |st (t:Ty)
 |pr (a b:Ty)
 |un
 |ex
 |sm
 deriving DecidableEq
@[reducible] def Ty.den:Ty->Type
  |.int _=>Int
  |.bool=>Bool
  |.str=>ζ
  |.sl t=>Y t.den
  |.st t=>t.den
  |.pr a b=>a.den×b.den
  |.un=>Unit
  |.ex=>Xp
  |.sm=>Sx
def Ty.size:Ty->Nat
 |.st t=>t.size
 |.pr a b=>a.size+b.size
 |.un=>0
 |.ex=>4
 |.sm=>11
 |_=>1
def Ty.zero:(t:Ty)->t.den
 |.int _=>(0:Int)
 |.bool=>aa
 |.str=>[]
 |.sl _=>[]
 |.st t=>t.zero
 |.pr a b=>(a.zero,b.zero)
 |.un=>()
 |.ex=>.mk 0 0 [] []
 |.sm=>.mk 0 0 [] [] [] (.mk 0 0 [] []) [] []
def Ty.one:Ty->Bool
 |.int _=>J
 |.bool=>J
 |.str=>J
 |.sl _=>J
 |_=>aa
def PF:Ty:=.pr (.int .i64) (.pr (.int .i64) (.pr .str (.sl .ex)))
def O9:Ty:=.pr (.int .i64) (.pr (.int .i64) (.pr .str (.pr .str (.pr (.sl .ex) (.pr .ex (.pr (.sl .sm) (.sl .sm)))))))
def Qt (e:Xp):PF.den:=(e.op,e.n,e.name,e.l)
def eD (x:PF.den):Xp:=.mk x.1 x.2.1 x.2.2.1 x.2.2.2
def Qs (e:Sx):O9.den:=(e.op,e.line,e.name,e.arg,e.index,e.expr,e.body,e.els)
def pa (x:O9.den):Sx:=.mk x.1 x.2.1 x.2.2.1 x.2.2.2.1 x.2.2.2.2.1 x.2.2.2.2.2.1 x.2.2.2.2.2.2.1 x.2.2.2.2.2.2.2
mutual
def yp:Xp->Y FV
 |.mk op n name l=>[.raw (.int .i64 op),.raw (.int .i64 n),.raw (.string ⟨name.toArray⟩),.sl (Ml l) (l! l)]
def Ml:Y Xp->Y FV
 |[]=>[]
 |x::r=>yp x++Ml r
end
mutual
def Ar:Sx->Y FV
 |.mk op line name arg index expr body els=>[.raw (.int .i64 op),.raw (.int .i64 line),.raw (.string ⟨name.toArray⟩),.raw (.string ⟨arg.toArray⟩),.sl (Ml index) (l! index)]++yp expr++[.sl (Mk body) (l! body),.sl (Mk els) (l! els)]
def Mk:Y Sx->Y FV
 |[]=>[]
 |x::r=>Ar x++Mk r
end
def bN:(T:Ty)->T.den->Y FV
 |.int k,n=>[.raw (.int k n)]
 |.bool,b=>[.raw (.bool b)]
 |.str,s=>[.raw (.string ⟨s.toArray⟩)]
 |.sl t,xs=>[.sl (List.flatMap (bN t) xs) (ah xs)]
 |.st t,v=>bN t v
 |.pr a b,v=>bN a v.1++bN b v.2
 |.un,_=>[]
 |.ex,v=>yp v
 |.sm,v=>Ar v
def fS:(T:Ty)->T.den->FV
 |.int k,n=>.raw (.int k n)
 |.bool,b=>.raw (.bool b)
 |.str,s=>.raw (.string ⟨s.toArray⟩)
 |.sl t,xs=>.sl (List.flatMap (bN t) xs) (ah xs)
 |.st t,v=>.agg (bN t v)
 |.pr a b,v=>.agg (bN a v.1++bN b v.2)
 |.un,_=>.agg []
 |.ex,v=>.agg (yp v)
 |.sm,v=>.agg (Ar v)
def Sr:(T:Ty)->T.den->T.den->Bool
 |.int _,a,b=>decide ((a:Int)=b)
 |.bool,a,b=>(a:Bool)==b
 |.str,a,b=>decide ((a:ζ)=b)
 |.st t,a,b=>Sr t a b
 |.pr x y,a,b=>Sr x a.1 b.1&&Sr y a.2 b.2
 |_,_,_=>J
def tV {S:Ty} (T:Ty) (v:S.den):M T.den:=if h:S=T then Z (h▸v) else U
def fA (j:Int) (n:Nat):Bool:=dg 0 j&&fQ j n
def geti (T:Ty) (xs:Y T.den) (j:Int):T.den:=xs.getD j.toNat T.zero
def cN (xs:Y R) (j:Int) (x:R):Y R:=xs.set j.toNat x
def Wz (xs z:Y R):Y R:=z.take (l! xs)++xs.drop (l! z)
def mR (a b:Int):Int:=if fQ a b then b else a
def Jr (a b:Int):Int:=if fQ b a then b else a
def aie (s:ζ) (j:Int):Int:=aP (s.getD j.toNat 0).toNat
def aI (b:Bool) (t f:M R):M R:=match b with|true=>t|false=>f
def chk (b:Bool) (k:b=J->M R):M R:=match b,k with|true,k=>k rfl|false,_=>U
open Classical in
def HJ (a b:M R):M R:=if a=b then a else U
open Classical in
def same {α:Type} (a b:α) (r:M R):M R:=if a=b then r else U
def ay {α:Type} (o:M α) (k:α->M R):M R:=match o with|some x=>k x|none=>U
def lt {α:Type} (x:α) (k:α->M R):M R:=k x
def jn {α:Type} (o:M (R⊕α)) (k:α->M R):M R:=match o with|some (.inr x)=>k x|some (.inl r)=>Z r|none=>U
def iterN {σ:Type} (step:σ->M (σ⊕R)):Nat->σ->M R
 |0,_=>U
 |n+1,x=>match step x with
  |some (.inl y)=>iterN step n y
  |some (.inr r)=>Z r
  |none=>U
open Classical in
def iter {σ R:Type} (step:σ->M (σ⊕R)) (x:σ):M R:=
 if h:∃n,(iterN step n x).isSome=J then iterN step (Classical.choose h) x else U
def gT {σ R:Type} (step:σ->M (σ⊕R)) (x:σ):M R:=iterN step 18446744073709551616 x
abbrev B7:Type 1:=∀σ R:Type,(σ->M (σ⊕R))->σ->M R
def my (a b:M R):Prop:=∀y,a=Z y->b=Z y
def my.rfl {a:M R}:my a a:=λ_ h=>h
def my.bcase {t f z A:M R} (h1:my t z) (D:my f A):my (AI.aI b t f) (AI.aI b z A):=by cases b<;>assumption
def my.chk {k z:M R} (h:my k z):my (AI.chk b λ_=>k) (AI.chk b λ_=>z):=by
 cases b with
 |true=>exact h
 |false=>exact λ_ h=>by cases h
def my.obind {α:Type} {o z:M α} {k A:α->M R} (h:my o z) (L:∀x,my (k x) (A x)):my (AI.ay o k) (AI.ay z A):=by
 intro y D;cases o with
 |none=>cases D
 |some x=>rw[h x (by exact Eq.refl _)];exact L x y D
def my.lt {α:Type} {x:α} {k z:α->M R} (h:∀y,my (k y) (z y)):my (AI.lt x k) (AI.lt x z):=h x
def my.jn {α:Type} {o A:M (R⊕α)} {k D:α->M R} (h:my o A) (L:∀x,my (k x) (D x)):my (AI.jn o k) (AI.jn A D):=by
 intro y z;cases o with
 |none=>cases z
 |some x=>
  rw[h x (by exact Eq.refl _)];cases x with
  |inl r=>exact z
  |inr a=>exact L a y z
def my.iterN {σ:Type} {f g:σ->M (σ⊕R)} (h:∀x,my (f x) (g x)):∀(n:Nat) (x:σ),my (AI.iterN f n x) (AI.iterN g n x)
 |0,_=>λ_ h=>by cases h
 |n+1,x=>by
  intro y A;cases hf:f x with
  |none=>rw[AI.iterN,hf]at A;cases A
  |some s=>
   rw[AI.iterN,hf]at A;rw[AI.iterN,h x s hf];cases s with
   |inl z=>exact my.iterN h n z y A
   |inr r=>exact A
def Lv {σ:Type} {f:σ->M (σ⊕R)}:∀{n:Nat} {x:σ} {r:R},iterN f n x=Z r->iterN f (n+1) x=Z r
 |0,x,r,h=>by cases h
 |n+1,x,r,h=>by
  cases hf:f x with
  |none=>rw[iterN,hf]at h;cases h
  |some s=>
   cases s with
   |inl y=>rw[iterN,hf]at h;rw[iterN,hf];exact Lv h
   |inr q=>rw[iterN,hf]at h;rw[iterN,hf];exact h
def yg {σ:Type} {f:σ->M (σ⊕R)} {n:Nat} {x:σ} {r:R} (h:iterN f n x=Z r) (hle:n<=i):iterN f i x=Z r:=by
 induction hle with
 |refl=>exact h
 |step _ z=>exact Lv z
def Bi {σ:Type} {f:σ->M (σ⊕R)} {n:Nat} {x:σ} {r:R} (h:iterN f n x=Z r):iter f x=Z r:=by
 have A:∃n,(iterN f n x).isSome=J:=⟨n,by rw[h];exact Eq.refl _⟩
 unfold iter;rw[dif_pos A];have L:=Classical.choose_spec A;obtain⟨N,z⟩:=jB.1 L;rw[z];rcases Nat.le_total n (Classical.choose A) with D|D
 .rw[yg h D]at z;exact z.symm
 .rw[yg z D]at h;exact h
def my.iter {σ:Type} {f g:σ->M (σ⊕R)} {x:σ} (h:∀x,my (f x) (g x)):my (gT f x) (AI.iter g x):=λy z=>Bi (my.iterN h _ x y z)
def orE (a b:M R):M R:=match a with|some y=>Z y|none=>b
def fuel:Nat:=Classical.choose (⟨100000,rfl⟩:∃n:Nat,n=100000)
def kP:fuel=100000:=Classical.choose_spec (⟨100000,rfl⟩:∃n:Nat,n=100000)
def Jg (a:Ty):Ty->Ty
 |.un=>a
 |.int k=>.pr a (.int k)
 |.bool=>.pr a .bool
 |.str=>.pr a .str
 |.sl t=>.pr a (.sl t)
 |.st t=>.pr a (.st t)
 |.pr x y=>.pr a (.pr x y)
 |.ex=>.pr a .ex
 |.sm=>.pr a .sm
def spr:Ty->Ty->Ty
 |.un,b=>b
 |.int k,b=>Jg (.int k) b
 |.bool,b=>Jg .bool b
 |.str,b=>Jg .str b
 |.sl t,b=>Jg (.sl t) b
 |.st t,b=>Jg (.st t) b
 |.pr x y,b=>Jg (.pr x y) b
 |.ex,b=>Jg .ex b
 |.sm,b=>Jg .sm b
def TB (a:Ty):(b:Ty)->a.den->b.den->(Jg a b).den
 |.un,x,_=>x
 |.int _,x,y|.bool,x,y|.str,x,y|.sl _,x,y|.st _,x,y|.pr _ _,x,y|.ex,x,y|.sm,x,y=>(x,y)
def fsN (a:Ty):(b:Ty)->(Jg a b).den->a.den
 |.un,z=>z
 |.int _,z|.bool,z|.str,z|.sl _,z|.st _,z|.pr _ _,z|.ex,z|.sm,z=>z.1
def snN (a:Ty):(b:Ty)->(Jg a b).den->b.den
 |.un,_=>()
 |.int _,z|.bool,z|.str,z|.sl _,z|.st _,z|.pr _ _,z|.ex,z|.sm,z=>z.2
def Xg:(a b:Ty)->a.den->b.den->(spr a b).den
 |.un,_,_,y=>y
 |.int k,b,x,y=>TB (.int k) b x y
 |.bool,b,x,y=>TB .bool b x y
 |.str,b,x,y=>TB .str b x y
 |.sl t,b,x,y=>TB (.sl t) b x y
 |.st t,b,x,y=>TB (.st t) b x y
 |.pr u v,b,x,y=>TB (.pr u v) b x y
 |.ex,b,x,y=>TB .ex b x y
 |.sm,b,x,y=>TB .sm b x y
def Ru:(a b:Ty)->(spr a b).den->a.den
 |.un,_,_=>()
 |.int k,b,z=>fsN (.int k) b z
 |.bool,b,z=>fsN .bool b z
 |.str,b,z=>fsN .str b z
 |.sl t,b,z=>fsN (.sl t) b z
 |.st t,b,z=>fsN (.st t) b z
 |.pr u v,b,z=>fsN (.pr u v) b z
 |.ex,b,z=>fsN .ex b z
 |.sm,b,z=>fsN .sm b z
def NQ:(a b:Ty)->(spr a b).den->b.den
 |.un,_,z=>z
 |.int k,b,z=>snN (.int k) b z
 |.bool,b,z=>snN .bool b z
 |.str,b,z=>snN .str b z
 |.sl t,b,z=>snN (.sl t) b z
 |.st t,b,z=>snN (.st t) b z
 |.pr u v,b,z=>snN (.pr u v) b z
 |.ex,b,z=>snN .ex b z
 |.sm,b,z=>snN .sm b z
def uV (a b:Ty) (x:a.den) (y:b.den):Ru a b (Xg a b x y)=x:=by cases a<;>cases b<;>rfl
def wL (a b:Ty) (x:a.den) (y:b.den):NQ a b (Xg a b x y)=y:=by cases a<;>cases b<;>rfl
inductive Sb where
 |ob (id:Nat) (j:Int) (off:Nat)
 |om (id:Nat) (j:Int) (b:Nat)
 |nr (id:Nat) (j:Int) (sz n:Nat)
 |np (id:Nat) (j:Int) (sz:Nat) (i:Int) (off:Nat)
 |nl
def Sb.id:Sb->Nat
 |.ob i _ _=>i
 |.om i _ _=>i
 |.nr i _ _ _=>i
 |.np i _ _ _ _=>i
 |.nl=>0
def Sb.to (i:Nat):Sb->Sb
 |.ob _ j o=>.ob i j o
 |.om _ j b=>.om i j b
 |.nr _ j s n=>.nr i j s n
 |.np _ j s k o=>.np i j s k o
 |.nl=>.nl
inductive tZ where
 |ar (ty:TypeId) (S:Ty)
 |qc (ty:TypeId)
 |qh
 |rr (ty:TypeId) (sz:Nat)
 |ir (ty:TypeId) (T:Ty)
 deriving DecidableEq
abbrev mbT:Ty:=.sl (.pr (.int .i64) .bool)
abbrev kyT:Ty:=.pr (.int .i64) (.int .i64)
def tZ.ty:tZ->Ty
 |.ar _ S=>.sl (.pr S (.pr mbT mbT))
 |.qc _=>.sl (.int .i64)
 |.qh=>.sl (.pr kyT (.int .i64))
 |.rr _ _=>.sl (.int .i64)
 |.ir _ T=>.sl (.sl T)
def tZ.aid (n:Nat):tZ->Nat
 |.ar _ _=>0
 |.ir _ _=>0
 |_=>n
def rV:(F:tZ)->F.ty.den->M (Bool×o?)
 |.qc _,A=>Z (J,1,ah A)
 |.rr _ _,z=>Z (aa,1,ah z)
 |_,_=>U
inductive TV where
 |f (T:Ty) (v:T.den)
 |zk (T:Ty) (xs:List T.den) (j:Int) (h:fA j (l! xs)=J) (off:Nat)
 |ql (id sz:Nat) (j:Int) (off:Nat)
 |H (id off:Nat)
 |G (id:Nat)
 |qv (id sz n:Nat)
 |emp
 |nil
 |mp (id:Nat)
 |agg (l:List TV)
 |qg (l:List TV)
 |qy (g:FuncId) (l:List TV)
 |undef
 |np
 |qw
 |zm (id:Nat) (j:Int)
 |qd (T:Ty) (xs:List T.den)
 |sb (s:Sb)
instance cty (n:Nat):OfNat (M TypeId) n:=⟨Z n⟩
inductive eP where
 |F (ty:TypeId) (p:Bool) (T:Ty) (xs:List T.den)
 |C (ty:Option TypeId) (l:List TV)
 |qj (p:Bool) (sz n:Nat)
 |mp (K V:Ty) (es:List (K.den×V.den))
 |I (F:tZ) (a:Nat) (x:F.ty.den)
 |qm (F:tZ) (a:Nat) (x:F.ty.den) (k:ν) (p:Option (Nat×Bool×Nat))
abbrev hX:=PT TV
abbrev a_:=PT eP
def cst:Value->M TV
 |.int k n=>Z (.f (.int k) n)
 |.bool b=>Z (.f .bool b)
 |.string s=>Z (.f .str s.data.toList)
 |.slice U 0 0=>Z .nil
 |.pointer U=>Z .np
 |.map U=>Z (.sb .nl)
 |_=>U
def MU:ξ->M (Y TV)
 |[]=>Z []
 |v::r=>match cst v,MU r with|some x,Z l=>Z (x::l)|_,_=>U
def anv:Value->M TV
 |.agg vs=>if M' vs.toList then (match MU vs.toList with|some l=>Z (.agg l)|none=>U) else U
 |v=>cst v
def cellsOf:Nat->(T:Ty)->T.den->M (Y TV)
 |0,_,_=>U
 |n+1,.st t,v=>cellsOf n t v
 |n+1,.pr a b,v=>match cellsOf n a v.1,cellsOf n b v.2 with|some x,Z y=>Z (x++y)|_,_=>U
 |_+1,.un,_=>Z []
 |n+1,.ex,v=>cellsOf n PF (Qt v)
 |n+1,.sm,v=>cellsOf n O9 (Qs v)
 |_+1,.int k,v=>Z [.f (.int k) v]
 |_+1,.bool,v=>Z [.f .bool v]
 |_+1,.str,v=>Z [.f .str v]
 |_+1,.sl t,v=>Z [.f (.sl t) v]
def TV.isC:TV->Bool
 |.f T _=>T.one
 |.zk _ _ _ _ _=>J
 |.ql _ _ _ _=>J
 |.H _ _=>J
 |.G _=>J
 |.qv _ _ _=>J
 |.emp=>J
 |.nil=>J
 |.np=>J
 |.mp _=>J
 |.qy _ _=>J
 |.sb _=>J
 |_=>aa
def lO:Y TV->Bool
 |[]=>J
 |x::r=>x.isC&&lO r
def TV.cs (v:TV):M (Y TV):=match v with
 |.agg l=>if lO l then Z l else U
 |.f T x=>cellsOf 40 T x
 |x=>if x.isC then Z [x] else U
def gf (i:Nat):Nat:=1<<<i
def ie (h:a_) (T:Ty):TV->M (T.den×Nat)
 |.f _ v=>match tV T v with|some x=>Z (x,0)|none=>U
 |.emp|.nil=>(match T with|.sl _=>Z ([],0)|_=>U)
 |.G id=>match h.get id with
  |some (.F _ _ S xs)=>(match tV (S:=.sl S) T xs with|some x=>Z (x,gf id)|none=>U)
  |_=>U
 |_=>U
def fc (h:a_):Nat->(T:Ty)->Y TV->M (T.den×Nat×Y TV)
 |0,_,_=>U
 |n+1,.st t,l=>fc h n t l
 |n+1,.pr a b,l=>match fc h n a l with
  |some (x,m,r)=>(match fc h n b r with|some (y,m',z)=>Z ((x,y),m|||m',z)|none=>U)
  |none=>U
 |_+1,.un,l=>Z ((),0,l)
 |n+1,.ex,l=>match fc h n PF l with|some (x,m,r)=>Z (eD x,m,r)|none=>U
 |n+1,.sm,l=>match fc h n O9 l with|some (x,m,r)=>Z (pa x,m,r)|none=>U
 |_+1,.int k,l=>match l with|c::r=>(match ie h (.int k) c with|some (x,m)=>Z (x,m,r)|none=>U)|[]=>U
 |_+1,.bool,l=>match l with|c::r=>(match ie h .bool c with|some (x,m)=>Z (x,m,r)|none=>U)|[]=>U
 |_+1,.str,l=>match l with|c::r=>(match ie h .str c with|some (x,m)=>Z (x,m,r)|none=>U)|[]=>U
 |_+1,.sl t,l=>match l with|c::r=>(match ie h (.sl t) c with|some (x,m)=>Z (x,m,r)|none=>U)|[]=>U
def Ds (h:a_) (T:Ty) (v:TV):M (T.den×Nat):=match v with
 |.agg l=>if T.one then U else (match fc h 40 T l with|some (x,m,[])=>Z (x,m)|_=>U)
 |x=>ie h T x
def nQ:Nat->(T:Ty)->T.den->Nat->Nat->Bool->M TV
 |0,_,_,_,_,_=>U
 |n+1,.st t,v,off,sz,z=>if aA off 0&&aA sz t.size&&z then Z (.f (.st t) v) else nQ n t v off sz z
 |n+1,.pr a b,v,off,sz,z=>if ef off a.size then nQ n a v.1 off sz z else nQ n b v.2 (off-a.size) sz z
 |_+1,.un,_,_,_,_=>U
 |n+1,.ex,v,off,sz,z=>if aA off 0&&aA sz 4&&z then Z (.f .ex v) else nQ n PF (Qt v) off sz z
 |n+1,.sm,v,off,sz,z=>if aA off 0&&aA sz 11&&z then Z (.f .sm v) else nQ n O9 (Qs v) off sz z
 |_+1,.int k,v,off,sz,z=>if aA off 0&&aA sz 1&& !z then Z (.f (.int k) v) else U
 |_+1,.bool,v,off,sz,z=>if aA off 0&&aA sz 1&& !z then Z (.f .bool v) else U
 |_+1,.str,v,off,sz,z=>if aA off 0&&aA sz 1&& !z then Z (.f .str v) else U
 |_+1,.sl t,v,off,sz,z=>if aA off 0&&aA sz 1&& !z then Z (.f (.sl t) v) else U
def gO (h:a_) (x:TV):Nat->(T:Ty)->T.den->Nat->Nat->M (T.den×Nat)
 |0,_,_,_,_=>U
 |n+1,.st t,v,off,sz=>match (if aA off 0&&aA sz t.size then Ds h (.st t) x else U) with
  |some y=>Z y
  |none=>gO h x n t v off sz
 |n+1,.pr a b,v,off,sz=>if ef off a.size then (match gO h x n a v.1 off sz with|some (y,m)=>Z ((y,v.2),m)|none=>U) else (match gO h x n b v.2 (off-a.size) sz with|some (y,m)=>Z ((v.1,y),m)|none=>U)
 |_+1,.un,_,_,_=>U
 |n+1,.ex,v,off,sz=>match (if aA off 0&&aA sz 4 then Ds h .ex x else U) with
  |some y=>Z y
  |none=>(match gO h x n PF (Qt v) off sz with|some (y,m)=>Z (eD y,m)|none=>U)
 |n+1,.sm,v,off,sz=>match (if aA off 0&&aA sz 11 then Ds h .sm x else U) with
  |some y=>Z y
  |none=>(match gO h x n O9 (Qs v) off sz with|some (y,m)=>Z (pa y,m)|none=>U)
 |_+1,.int k,_,off,sz=>if aA off 0&&aA sz 1 then ie h (.int k) x else U
 |_+1,.bool,_,off,sz=>if aA off 0&&aA sz 1 then ie h .bool x else U
 |_+1,.str,_,off,sz=>if aA off 0&&aA sz 1 then ie h .str x else U
 |_+1,.sl t,_,off,sz=>if aA off 0&&aA sz 1 then ie h (.sl t) x else U
def AY (h:a_) (T:Ty):Nat->Y TV->M (Y T.den×Nat)
 |0,[]=>Z ([],0)
 |0,_::_=>U
 |n+1,l=>match fc h 40 T l with
  |some (x,m,r)=>(match AY h T n r with|some (xs,m')=>Z (x::xs,m|||m')|none=>U)
  |none=>U
def ux:Ty->ξ
 |.int k=>[.int k 0]
 |.bool=>[.bool aa]
 |.str=>[.string ⟨#[]⟩]
 |.sl _=>[.slice U 0 0]
 |.st t=>ux t
 |.pr a b=>ux a++ux b
 |.un=>[]
 |.ex=>[.int .i64 0,.int .i64 0,.string ⟨#[]⟩,.slice U 0 0]
 |.sm=>[.int .i64 0,.int .i64 0,.string ⟨#[]⟩,.string ⟨#[]⟩,.slice U 0 0,.int .i64 0,.int .i64 0,.string ⟨#[]⟩,.slice U 0 0,.slice U 0 0,.slice U 0 0]
def VV:ξ->ξ->Bool
 |[],[]=>J
 |x::xs,y::z=>ao2 x y&&VV xs z
 |_,_=>aa
def Ty.flat:Ty->Bool
 |.int _=>J
 |.bool=>J
 |.str=>J
 |.st t=>t.flat
 |.pr a b=>a.flat&&b.flat
 |.un=>J
 |_=>aa
def sC:Y TypeDesc->M Ty
 |[]=>Z .un
 |.int k::r=>match sC r with|some t=>Z (.pr (.int k) t)|none=>U
 |.bool::r=>match sC r with|some t=>Z (.pr .bool t)|none=>U
 |.string::r=>match sC r with|some t=>Z (.pr .str t)|none=>U
 |_=>U
inductive PV where
 |d (T:Ty)
 |H (id off:Nat)
 |G (id:Nat)
 |qv (id sz n:Nat)
 |mp (id:Nat)
 |nil
 |emp
 |qy (q:FuncId) (l:List (Nat×Nat))
 |ob (id off:Nat)
 |agg (l:List PV)
inductive PB where
 |F (ty:TypeId) (p:Bool) (T:Ty)
 |qf (ty:TypeId) (T:Ty)
 |C (ty:Option TypeId) (l:List PV)
 |mp (K V:Ty)
 |I (F:tZ) (a:Nat)
 |qk
mutual
def PV.ty:PV->Ty
 |.d T=>T
 |.agg l=>PV.tyL l
 |.H _ _|.G _|.qv _ _ _|.qy _ _=>.un
 |.ob _ _=>.int .i64
 |.mp _|.nil|.emp=>.un
def PV.tyL:Y PV->Ty
 |[]=>.un
 |p::r=>spr p.ty (PV.tyL r)
end
def PB.ty:PB->Ty
 |.F _ _ T=>.sl T
 |.qf _ T=>.pr .bool (.sl T)
 |.C _ l=>PV.tyL l
 |.mp K V=>.sl (.pr K V)
 |.I a _=>a.ty
 |.qk=>.un
def PB.tyL:Y PB->Ty
 |[]=>.un
 |p::r=>spr p.ty (PB.tyL r)
structure Tm where
 vs:List PV
 bs:List PB
def Tm.ty (t:Tm):Ty:=spr (PV.tyL t.vs) (PB.tyL t.bs)
def KV (g:Nat->Nat):Y o?->Y TV->Bool
 |[],[]=>J
 |(i,o)::r,.H A z::vs=>aA (g i) A&&aA o z&&KV g r vs
 |_,_=>aa
mutual
def oJ (g:Nat->Nat) (h:a_):(p:PV)->Y TV->M (p.ty.den×Nat×Y TV)
 |.d T,l=>fc h 40 T l
 |.H i o,l=>match l with|.H i' o'::r=>if aA (g i) i'&&aA o o' then Z ((),0,r) else U|_=>U
 |.G i,l=>match l with|.G i'::r=>if aA (g i) i' then Z ((),0,r) else U|_=>U
 |.qv i s n,l=>match l with|.qv i' s' n'::r=>if aA (g i) i'&&aA s s'&&aA n n' then Z ((),0,r) else U|_=>U
 |.qy q ps,l=>match l with|.qy q' vs::r=>if aA q q'&&KV g ps vs then Z ((),0,r) else U|_=>U
 |.ob i o,l=>match l with|.sb (.ob i' j o')::r=>if aA (g i) i'&&aA o o' then Z (j,0,r) else U|_=>U
 |.mp i,l=>match l with|.mp i'::r=>if aA (g i) i' then Z ((),0,r) else U|_=>U
 |.nil,l=>match l with|.nil::r=>Z ((),0,r)|_=>U
 |.emp,l=>match l with|.nil::r=>Z ((),0,r)|.emp::r=>Z ((),0,r)|_=>U
 |.agg ps,l=>Bs g h ps l
def Bs (g:Nat->Nat) (h:a_):(ps:Y PV)->Y TV->M ((PV.tyL ps).den×Nat×Y TV)
 |[],l=>Z ((),0,l)
 |p::r,l=>match oJ g h p l with
  |some (x,m,l')=>(match Bs g h r l' with|some (y,m',l'')=>Z (Xg p.ty (PV.tyL r) x y,m|||m',l'')|none=>U)
  |none=>U
end
def xt (g:Nat->Nat) (h:a_):(p:PV)->TV->M (p.ty.den×Nat)
 |.d T,v=>Ds h T v
 |.agg z,v=>if v.isC then U else (match v.cs with
  |some l=>(match Bs g h z l with|some (x,m,[])=>Z (x,m)|_=>U)
  |none=>U)
 |.H i o,v=>match oJ g h (.H i o) [v] with|some (x,m,_)=>Z (x,m)|none=>U
 |.G i,v=>match oJ g h (.G i) [v] with|some (x,m,_)=>Z (x,m)|none=>U
 |.qv i s n,v=>match oJ g h (.qv i s n) [v] with|some (x,m,_)=>Z (x,m)|none=>U
 |.qy q z,v=>match oJ g h (.qy q z) [v] with|some (x,m,_)=>Z (x,m)|none=>U
 |.ob i o,v=>match oJ g h (.ob i o) [v] with|some (x,m,_)=>Z (x,m)|none=>U
 |.mp i,v=>match oJ g h (.mp i) [v] with|some (x,m,_)=>Z (x,m)|none=>U
 |.nil,v=>match oJ g h .nil [v] with|some (x,m,_)=>Z (x,m)|none=>U
 |.emp,v=>match oJ g h .emp [v] with|some (x,m,_)=>Z (x,m)|none=>U
def An (g:Nat->Nat) (h:a_):(z:Y PV)->Y TV->M ((PV.tyL z).den×Nat)
 |[],[]=>Z ((),0)
 |p::r,v::vs=>match xt g h p v with
  |some (x,m)=>(match An g h r vs with|some (y,m')=>Z (Xg p.ty (PV.tyL r) x y,m|||m')|none=>U)
  |none=>U
 |[],_::_=>U
 |_::_,[]=>U
def Ea (g:Nat->Nat) (h:a_) (i:Nat):(b:PB)->M (b.ty.den×Nat)
 |.F ty p T=>match h.get (g i) with
  |some (.F ty' z S xs)=>if ty==ty'&&p==z then (match tV (S:=.sl S) (.sl T) xs with|some x=>Z (x,0)|none=>U) else U
  |_=>U
 |.qf ty T=>match h.get (g i) with
  |some (.F ty' z S xs)=>if ty==ty' then (match tV (S:=.sl S) (.sl T) xs with|some x=>Z ((z,x),0)|none=>U) else U
  |_=>U
 |.C ty A=>match h.get (g i) with
  |some (.C ty' l)=>if ty==ty' then (match Bs g h A l with|some (x,m,[])=>Z (x,m)|_=>U) else U
  |_=>U
 |.mp K V=>match h.get (g i) with
  |some (.mp K' V' es)=>(match tV (S:=.sl (.pr K' V')) (.sl (.pr K V)) es with|some x=>Z (x,0)|none=>U)
  |_=>U
 |.I F a=>match h.get (g i) with
  |some (.I F' L x)=>if D:F'=F then (if aA (F.aid (g a)) L then Z (D▸x,0) else U) else U
  |_=>U
 |.qk=>Z ((),0)
def C_ (g:Nat->Nat) (h:a_):Nat->(bs:Y PB)->M ((PB.tyL bs).den×Nat)
 |_,[]=>Z ((),0)
 |i,b::r=>match Ea g h i b with
  |some (x,m)=>(match C_ g h (i+1) r with|some (y,m')=>Z (Xg b.ty (PB.tyL r) x y,m|||m')|none=>U)
  |none=>U
mutual
def oX (g:Nat->Nat):(p:PV)->p.ty.den->M (Y TV)
 |.d T,x=>cellsOf 40 T x
 |.H i o,_=>Z [.H (g i) o]
 |.G i,_=>Z [.G (g i)]
 |.qv i s n,_=>Z [.qv (g i) s n]
 |.mp i,_=>Z [.mp (g i)]
 |.qy q ps,_=>Z [.qy q (ps.map λp=>.H (g p.1) p.2)]
 |.ob i o,j=>Z [.sb (.ob (g i) j o)]
 |.nil,_=>Z [.nil]
 |.emp,_=>Z [.emp]
 |.agg ps,x=>sx g ps x
def sx (g:Nat->Nat):(ps:Y PV)->(PV.tyL ps).den->M (Y TV)
 |[],_=>Z []
 |p::r,x=>match oX g p (Ru p.ty (PV.tyL r) x) with
  |some a=>(match sx g r (NQ p.ty (PV.tyL r) x) with|some b=>Z (a++b)|none=>U)
  |none=>U
end
def sG (g:Nat->Nat):(p:PV)->p.ty.den->M TV
 |.d T,x=>Z (.f T x)
 |.H i o,_=>Z (.H (g i) o)
 |.G i,_=>Z (.G (g i))
 |.qv i s n,_=>Z (.qv (g i) s n)
 |.mp i,_=>Z (.mp (g i))
 |.qy q z,_=>Z (.qy q (z.map λp=>.H (g p.1) p.2))
 |.ob i o,j=>Z (.sb (.ob (g i) j o))
 |.nil,_=>Z .nil
 |.emp,_=>Z .emp
 |.agg z,x=>match sx g z x with|some l=>Z (.agg l)|none=>U
def rm (g:Nat->Nat):(z:Y PV)->(PV.tyL z).den->M (Y TV)
 |[],_=>Z []
 |p::r,x=>match sG g p (Ru p.ty (PV.tyL r) x) with
  |some a=>(match rm g r (NQ p.ty (PV.tyL r) x) with|some b=>Z (a::b)|none=>U)
  |none=>U
def Cz (g:Nat->Nat):(b:PB)->b.ty.den->M (M eP)
 |.F ty p T,x=>Z (Z (.F ty p T x))
 |.qf ty T,x=>Z (Z (.F ty x.1 T x.2))
 |.C ty z,x=>match sx g z x with|some l=>Z (Z (.C ty l))|none=>U
 |.mp K V,x=>Z (Z (.mp K V x))
 |.I F a,x=>Z (Z (.I F (F.aid (g a)) x))
 |.qk,_=>Z U
def uA:eP->eP
 |.F _ p T xs=>.qj p T.size (l! xs)
 |.C _ _|.mp _ _ _=>.qj J 0 0
 |.I F _ x|.qm F _ x _ _=>(match rV F x with|some (p,s,n)=>.qj p s n|none=>.qj J 0 0)
 |.qj p sz n=>.qj p sz n
def kill (h:a_) (i:Nat):a_:=match h.get i with
 |some b=>h.set i (Z (uA b))
 |none=>h
def pK (g:Nat->Nat):(bs:Y PB)->(PB.tyL bs).den->M (Y (M eP))
 |[],_=>Z []
 |b::r,x=>match Cz g b (Ru b.ty (PB.tyL r) x) with
  |some c=>(match pK g r (NQ b.ty (PB.tyL r) x) with|some l=>Z (c::l)|none=>U)
  |none=>U
def CH (g:Nat->Nat):Nat->Y (M eP)->a_->a_
 |_,[],h=>h
 |i,Z c::r,h=>CH g (i+1) r (h.set (g i) (Z c))
 |i,U::r,h=>CH g (i+1) r (kill h (g i))
def Pc (g:Nat->Nat) (bs:Y PB) (x:(PB.tyL bs).den) (h:a_):M a_:=match pK g bs x with
 |some l=>Z (CH g 0 l h)
 |none=>U
def If {K V:Ty} (k:K.den):Y (K.den×V.den)->M V.den
 |[]=>U
 |(z,v)::r=>if Sr K k z then Z v else If k r
def zB {K V:Ty} (k:K.den) (v:V.den):Y (K.den×V.den)->Y (K.den×V.den)
 |[]=>[(k,v)]
 |(z,A)::r=>if Sr K k z then (k,v)::r else (z,A)::zB k v r
def aam {K V:Ty} (k:K.den) (es:Y (K.den×V.den)):Bool:=match If k es with|some _=>J|none=>aa
def Ai {K V:Ty} (k:K.den) (es:Y (K.den×V.den)) (z:V.den):V.den:=match If k es with|some v=>v|none=>z
def aqq (T:Ty):Nat->Ty
 |0=>.un
 |1=>T
 |n+2=>.pr T (aqq T (n+1))
def kwT:Ty:=.st (aqq .str 22)
def kwV:kwT.den:=([118,97,114],[118,111,108,97,116,105,108,101],[109,117,116,101,120],[114,119,108,111,99,107],[99,111,110,100],[102,117,116,117,114,101],[116,104,114,101,97,100],[105,102],[101,108,115,101],[119,104,105,108,101],[108,111,99,107],[114,101,97,100],[119,114,105,116,101],[116,114,97,110,115,97,99,116,105,111,110],[97,116,111,109,105,99],[119,97,105,116],[110,111,116,105,102,121],[110,111,116,105,102,121,97,108,108],[115,112,97,119,110],[106,111,105,110],[115,101,116],[103,101,116])
abbrev aM:Ty:=(.int .i64)
abbrev mA:Ty:=(.st (.pr .str (.pr aM (.pr aM (.pr .bool aM)))))
abbrev tY:Ty:=(.st (.pr .str .bool))
abbrev nX:Ty:=(.st (.pr .str aM))
abbrev qO:Ty:=(.st (.pr aM (.pr aM aM)))
abbrev po:Ty:=(.st (.pr (.sl mA) (.pr (.sl tY) (.pr (.sl nX) (.pr (.sl .str) (.pr (.sl .str) (.sl qO)))))))
abbrev JX:Ty:=(.sl (.sl aM))
abbrev fe:Ty:=(.st (.pr aM (.pr (.sl aM) (.pr JX aM))))
abbrev sk:Ty:=(.st (.pr aM (.pr aM (.pr aM (.pr aM (.pr aM aM))))))
abbrev eA:Ty:=(.st (.pr aM (.sl aM)))
abbrev rf:Ty:=(.sl .bool)
abbrev ala:Ty:=(.pr aM (.pr aM .bool))
abbrev iB:Ty:=(.st ala)
abbrev JW:Ty:=(.st (.pr (.sl eA) (.pr aM (.pr rf (.sl iB)))))
abbrev jF:Ty:=(.st (.pr aM (.pr aM (.pr aM (.pr aM (.pr aM (.pr (.sl aM) (.sl aM))))))))
abbrev Jd:Ty:=(.st (.pr aM (.pr aM (.pr .str (.pr aM (.pr aM .str))))))
abbrev uu:Ty:=(.st (.pr .str (.pr aM (.pr (.sl .str) (.sl .sm)))))
abbrev Qj:Ty:=(.st (.pr (.sl Jd) (.sl uu)))
abbrev yO:Ty:=(.st (.pr aM (.sl sk)))
abbrev wg:Ty:=(.st (.pr po (.sl yO)))
abbrev xE:Ty:=(.st (.pr JW (.pr (.sl aM) (.pr (.sl aM) (.sl fe)))))
abbrev jG:Ty:=(.st (.pr JW (.pr (.sl aM) (.pr (.sl aM) (.sl aM)))))
abbrev Gs:Ty:=(.sl (.int .u8))
abbrev AM:Ty:=(.st (.pr Gs aM))
abbrev fO:Ty:=(.st (.pr aM aM))
abbrev nk:Ty:=(.st (.pr po (.sl jF)))
abbrev r?:=Int×Int×Bool×Int
abbrev V7:=(ζ×r?)
abbrev pn:=(Y V7)
abbrev F!:=ζ×Bool
abbrev nW:=(Y F!)
abbrev kK:=(ζ×Int)
abbrev dz:=(Y ζ)
abbrev b?:=pn×nW×(Y kK)×dz×dz×Y π
abbrev eM:=b?
abbrev i?:=Int×Int
abbrev tD:=(pn×nW×(Y kK)×dz×dz×(Y π)×dz×i?)
abbrev k!:=Int×η
abbrev jY:=(Y k!)
abbrev g?:=Int×Int×Bool
abbrev ey:=g?
abbrev h?:=(θ)×Y ey
abbrev v?:=jY×Int×h?
abbrev ub:=v?
abbrev k?:=Int×(η)×(Y η)×Int
abbrev xB:=k?
abbrev mn:=(ω)
abbrev c?:=Int×Int×Int×Int×Int×(η)×η
abbrev gx:=c?
abbrev A?:=Int×Int×(ζ)×Int×Int×ζ
abbrev ao9:=A?
abbrev yK:=(Y ao9)
abbrev yJ:=(ζ×Int×dz×Y Sx)
abbrev J!:=Bool×Bool
abbrev R?:=Int×Int×Bool×Bool×J!
abbrev Ey:=R?
abbrev y!:=eM×Y (Int×Y mn)
abbrev Ew:=y!
abbrev Gq:=(υ)
abbrev e?:=(η)×(η)×η
abbrev P!:=ub×e?
abbrev gz:=P!
abbrev n?:=η×Int
abbrev ip:=n?
abbrev h!:=ub×(η)×(η)×Y xB
abbrev Ab:=h!
abbrev YD:=(Int×Int×(ζ)×(ζ)×Int×Int×ζ)
abbrev yL:=(yK×(Y yJ)×Int)
abbrev V8:=(Bool×Y ζ)
abbrev Ya23:=(Int×Int×xB×xB×k?)
abbrev Ya24:=(xB×Int×Int×xB×k?)
abbrev T?:=Int×Int×k?
abbrev Ya25:=(xB×xB×T?)
abbrev j?:=Ey×ip×Bool×Y ζ
abbrev ah3:=((Y Sx)×j?)
abbrev Ya27:=(Int×Int×xB×k?)
abbrev Ya28:=(xB×T?)
abbrev Ya29:=T?
abbrev U!:=Int×j?
abbrev ac5:=U!
abbrev ah2:=(Sx×j?)
abbrev d?:=yL×(Bool×Y Sx)×dz×Y ζ
abbrev aks:=(ν×d?)
abbrev f?:=tD×Y mn
abbrev OR:=(Sx×f?)
abbrev Gp:=(Ab×gx×Bool)
abbrev S?:=(Sx×Int×Int×Int)×f?
abbrev ah1:=S?
abbrev akr:=(ν×j?)
abbrev akq:=(kK×j?)
abbrev ac4:=(Ey×ip×V8×Y Sx)
abbrev akp:=(Xp×j?)
abbrev Ya42:=(xB×xB×xB×i?)
abbrev ah0:=((Y Sx)×f?)
abbrev bf {α:Type} (l:Y α):Int:=aP (ah l)
abbrev cW (n:Int):Int:=bA .i64 (n+1)
abbrev aH {R α:Type} (x:α):M (R⊕α):=Z (cv x)
abbrev c5 {R α:Type} (x:R):M (R⊕α):=Z (wF x)
abbrev bX {R:Type} (T:Ty) (l:Y T.den) (j:Int) (k:T.den->M R):M R:=chk (fA j (ah l)) λ_=>lt (geti T l j) k
abbrev ko {R:Type} (T:Ty) (l:Y T.den) (j:Int) (k:T.den->M R):M R:=chk (fA j (ah l)) λ_=>chk (fA j (ah l)) λ_=>lt (geti T l j) k
abbrev pu {R α:Type} (j:Int) (l:Y α) (k:M R):M R:=chk (fA j (ah l)) λ_=>k
abbrev bT {R:Type} (b:Bool) (k:M R):M R:=chk b λ_=>k
abbrev bq {R:Type} (a b:Int) (t f:M R):M R:=aI (decide (a=b)) t f
abbrev i_ {R:Type} (a b:Int) (t f:M R):M R:=aI (!decide (a=b)) t f
abbrev bS {R:Type} (a b:Int) (t f:M R):M R:=aI (fQ a b) t f
abbrev kq {R:Type} (a b:Int) (t f:M R):M R:=aI (dg a b) t f
def ck (b:Bool) (k:M R):M R:=chk b λ_=>chk b λ_=>k
def eH (s:Sx):Sx:=pa (Sx.op s,Sx.line s,Sx.name s,Sx.arg s,Sx.index s,eD (Xp.op (Sx.expr s),Xp.n (Sx.expr s),Xp.name (Sx.expr s),Xp.l (Sx.expr s)),Sx.body s,Sx.els s)
def lK (x:Unit):M dz:=
 (Z ([[118,97,114],[118,111,108,97,116,105,108,101],[109,117,116,101,120],[114,119,108,111,99,107],[99,111,110,100],[102,117,116,117,114,101],[116,104,114,101,97,100],[105,102],[101,108,115,101],[119,104,105,108,101],[108,111,99,107],[114,101,97,100],[119,114,105,116,101],[116,114,97,110,115,97,99,116,105,111,110],[97,116,111,109,105,99],[119,97,105,116],[110,111,116,105,102,121],[110,111,116,105,102,121,97,108,108],[115,112,97,119,110],[106,111,105,110],[115,101,116],[103,101,116]]))
def kA (x:ζ):M (Bool):=
 (ay (lK ()) λA=>(iter (σ:=Int) (λz=>(bS z (bf A) (bX (.str) A z λD=>(aI (decide ((D:ζ)=x)) (aH J) (c5 (cW z)))) (aH aa))) 0))
def mE (x:Int):M (Bool):=
 (jn (kq 97 x (kq x 122 (aH J) (kq 65 x (aH (dg x 90)) (aH aa))) (kq 65 x (aH (dg x 90)) (aH aa))) λz=>(Z z))
def sP (x:Int):M (Bool):=
 (jn (kq 48 x (aH (dg x 57)) (aH aa)) λz=>(Z z))
def qL (x:Int):M (Bool):=
 (jn (ay (mE x) λA=>(aI A (aH J) (ay (sP x) λz=>(aI z (aH J) (aH (decide ((x:Int)=95))))))) λD=>(Z D))
def fx (x:ζ):M (Bool):=
 (jn (bS (bf x) 1 (aH J) (bS 12 (bf x) (aH J) (pu 0 x (ay (mE (aie x 0)) λL=>(aI (!L) (aH J) (ay (kA x) λD=>(aH D))))))) λN=>(aI N (Z aa) (iter (σ:=Int) (λz=>(bS z (bf x) (pu z x (ay (qL (aie x z)) λA=>(aI (!A) (aH aa) (c5 (cW z))))) (aH J))) 0)))
def gk (x:Bool):M (Int):=
 (aI x (Z 1) (Z 0))
abbrev u?:=Int×Bool
def vK (x:ν):M u?:=
 (bq x.1 4 (Z ((bA .i64 (0-x.2)),J)) (bq x.1 5 (ay (gk (decide ((x.2:Int)=0))) λz=>(Z (z,J))) (Z (0,aa))))
def tK (x:π):M u?:=
 (bq x.1 6 (Z ((bA .i64 (x.2.1+x.2.2)),J)) (bq x.1 7 (Z ((bA .i64 (x.2.1-x.2.2)),J)) (bq x.1 8 (Z ((bA .i64 (x.2.1*x.2.2)),J)) (bq x.1 9 (bq x.2.2 0 (Z (0,J)) (bT (!decide ((x.2.2:Int)=0)) (Z ((bA .i64 (Int.tdiv x.2.1 x.2.2)),J)))) (bq x.1 10 (bq x.2.2 0 (Z (0,J)) (bT (!decide ((x.2.2:Int)=0)) (Z ((Cc x.2.1 x.2.2),J)))) (bq x.1 11 (ay (gk (decide ((x.2.1:Int)=x.2.2))) λy1=>(Z (y1,J))) (bq x.1 12 (ay (gk (!decide ((x.2.1:Int)=x.2.2))) λy2=>(Z (y2,J))) (bq x.1 13 (ay (gk (fQ x.2.1 x.2.2)) λy3=>(Z (y3,J))) (bq x.1 14 (ay (gk (dg x.2.1 x.2.2)) λy4=>(Z (y4,J))) (bq x.1 15 (ay (gk (fQ x.2.2 x.2.1)) λy5=>(Z (y5,J))) (bq x.1 16 (ay (gk (dg x.2.2 x.2.1)) λy6=>(Z (y6,J))) (bq x.1 17 (jn (i_ x.2.1 0 (ay (gk (!decide ((x.2.2:Int)=0))) λN=>(aH (N,J))) (ay (gk aa) λL=>(aH (L,J)))) λx7=>(Z x7)) (bq x.1 18 (jn (i_ x.2.1 0 (ay (gk J) λA=>(aH (A,J))) (ay (gk (!decide ((x.2.2:Int)=0))) λz=>(aH (z,J)))) λD=>(Z D)) (Z (0,aa)))))))))))))))
def sN (x:ν):M (Int):=
 (bS x.2 1 (Z 0) (bT (!decide ((x.2:Int)=0)) (jn (bS (Cc x.1 x.2) 0 (aH (bA .i64 ((Cc x.1 x.2)+x.2))) (aH (Cc x.1 x.2))) λz=>(Z z))))
def nC (x:Int):M (Int):=
 (jn (bq x 1 (aH J) (aH (decide ((x:Int)=2)))) λD=>(aI D (Z 0) (jn (kq 3 x (aH (dg x 5)) (aH aa)) λA=>(aI A (Z 1) (jn (kq 6 x (aH (dg x 18)) (aH aa)) λz=>(aI z (Z 2) (Z (-1))))))))
def ng (rr02_ShapedExpr:Xp->M (Bool)) (x:Xp):M (Bool):=
 (jn (bq (Xp.op x) 2 (aH (J,eD ((Xp.op x),(Xp.n x),(Xp.name x),(Xp.l x)))) (aH ((decide (((Xp.op x):Int)=3)),eD ((Xp.op x),(Xp.n x),(Xp.name x),(Xp.l x))))) λz=>(jn (α:=Bool×Xp) (ay (nC (Xp.op z.2)) λy3=>(i_ y3 (aP (ah (Xp.l z.2))) (aH (J,eD ((Xp.op z.2),(Xp.n z.2),(Xp.name z.2),(Xp.l z.2)))) (aI ((z.1==(!decide (((Xp.name z.2):ζ)=([])))) !=J) (aH (J,eD ((Xp.op z.2),(Xp.n z.2),(Xp.name z.2),(Xp.l z.2)))) (aI z.1 (ay (fx (Xp.name z.2)) λy4=>(aI (!y4) (aH (J,eD ((Xp.op z.2),(Xp.n z.2),(Xp.name z.2),(Xp.l z.2)))) (bS (Xp.n z.2) 0 (aH (J,eD ((Xp.op z.2),(Xp.n z.2),(Xp.name z.2),(Xp.l z.2)))) (i_ (Xp.op z.2) 1 (aH ((!decide (((Xp.n z.2):Int)=0)),eD ((Xp.op z.2),(Xp.n z.2),(Xp.name z.2),(Xp.l z.2)))) (aH (aa,eD ((Xp.op z.2),(Xp.n z.2),(Xp.name z.2),(Xp.l z.2)))))))) (bS (Xp.n z.2) 0 (aH (J,eD ((Xp.op z.2),(Xp.n z.2),(Xp.name z.2),(Xp.l z.2)))) (i_ (Xp.op z.2) 1 (aH ((!decide (((Xp.n z.2):Int)=0)),eD ((Xp.op z.2),(Xp.n z.2),(Xp.name z.2),(Xp.l z.2)))) (aH (aa,eD ((Xp.op z.2),(Xp.n z.2),(Xp.name z.2),(Xp.l z.2)))))))))) λD=>(aI D.1 (Z aa) (iter (σ:=Int×Xp) (λA=>(bS A.1 (aP (ah (Xp.l A.2))) (bX (.ex) (Xp.l A.2) A.1 λL=>(ay (rr02_ShapedExpr L) λN=>(aI (!N) (aH aa) (c5 ((cW A.1),eD ((Xp.op A.2),(Xp.n A.2),(Xp.name A.2),(Xp.l A.2))))))) (aH J))) (0,eD ((Xp.op D.2),(Xp.n D.2),(Xp.name D.2),(Xp.l D.2)))))))
def iy:Nat->Xp->M (Bool)
 |0,_=>U
 |n+1,x=>ng (iy n) x
def tP (n:Nat) (x:Xp):iy (n+1) x=ng (iy n) x:=rfl
def jN (x:Xp):M (Bool):=iy fuel x
def qK (x:Xp):M (Bool):=
 (jn (α:=Bool) (bq (Xp.op x) 0 (bq (Xp.n x) 0 (aI (decide (((Xp.name x):ζ)=([]))) (aH (decide (((aP (ah (Xp.l x))):Int)=0))) (aH aa)) (aH aa)) (aH aa)) λz=>(Z z))
def lb (rr02_ShapedStmt:Sx->M (Bool)) (rr02_ShapedStmts:(Y Sx)->M (Bool)) (x:Sx):M (Bool):=
 (jn (bS (Sx.op x) 1 (aH (J,eH x)) (aH ((fQ 15 (Sx.op x)),eH x))) λx1=>(aI x1.1 (Z aa) (jn (bq (Sx.op x1.2) 2 (aH (J,eH x1.2)) (bq (Sx.op x1.2) 3 (aH (J,eH x1.2)) (bq (Sx.op x1.2) 7 (aH (J,eH x1.2)) (aH ((decide (((Sx.op x1.2):Int)=8)),eH x1.2))))) λN=>(jn (α:=Bool×Sx) (aI N.1 (aI (!decide (((Sx.name N.2):ζ)=([]))) (aH (J,eH N.2)) (aI (!N.1) (ay (fx (Sx.name N.2)) λy4=>(aH ((!y4),eH N.2))) (aH (aa,eH N.2)))) (aI (!N.1) (ay (fx (Sx.name N.2)) λy5=>(aH ((!y5),eH N.2))) (aH (aa,eH N.2)))) λL=>(aI L.1 (Z aa) (jn (α:=Bool×Sx) (bq (Sx.op L.2) 15 (ay (fx (Sx.arg L.2)) λy7=>(aI (!y7) (aH (J,eH L.2)) (i_ (Sx.op L.2) 15 (aH ((!decide (((Sx.arg L.2):ζ)=([]))),eH L.2)) (aH (aa,eH L.2))))) (i_ (Sx.op L.2) 15 (aH ((!decide (((Sx.arg L.2):ζ)=([]))),eH L.2)) (aH (aa,eH L.2)))) λD=>(aI D.1 (Z aa) (jn (bS 1 (aP (ah (Sx.index D.2))) (aH (J,eH D.2)) (i_ (Sx.op D.2) 1 (bS 0 (aP (ah (Sx.index D.2))) (aH (J,eH D.2)) (bq (aP (ah (Sx.index D.2))) 1 (bX (.ex) (Sx.index D.2) 0 λz9=>(ay (jN z9) λy10=>(aH ((!y10),eH D.2)))) (aH (aa,eH D.2)))) (bq (aP (ah (Sx.index D.2))) 1 (bX (.ex) (Sx.index D.2) 0 λz11=>(ay (jN z11) λy12=>(aH ((!y12),eH D.2)))) (aH (aa,eH D.2))))) λx8=>(aI x8.1 (Z aa) (jn (bq (Sx.op x8.2) 1 (aH (J,eH x8.2)) (bq (Sx.op x8.2) 2 (aH (J,eH x8.2)) (bq (Sx.op x8.2) 3 (aH (J,eH x8.2)) (aH ((decide (((Sx.op x8.2):Int)=14)),eH x8.2))))) λz=>(jn (aI z.1 (ay (jN (eD ((Xp.op (Sx.expr z.2)),(Xp.n (Sx.expr z.2)),(Xp.name (Sx.expr z.2)),(Xp.l (Sx.expr z.2))))) λy15=>(aI (!y15) (aH (J,eH z.2)) (aI (!z.1) (ay (qK (eD ((Xp.op (Sx.expr z.2)),(Xp.n (Sx.expr z.2)),(Xp.name (Sx.expr z.2)),(Xp.l (Sx.expr z.2))))) λy16=>(aH ((!y16),eH z.2))) (aH (aa,eH z.2))))) (aI (!z.1) (ay (qK (eD ((Xp.op (Sx.expr z.2)),(Xp.n (Sx.expr z.2)),(Xp.name (Sx.expr z.2)),(Xp.l (Sx.expr z.2))))) λy17=>(aH ((!y17),eH z.2))) (aH (aa,eH z.2)))) λx14=>(aI x14.1 (Z aa) (jn (kq 2 (Sx.op x14.2) (aH ((dg (Sx.op x14.2) 8),eH x14.2)) (aH (aa,eH x14.2))) λA=>(jn (aI (!A.1) (bS 0 (aP (ah (Sx.body A.2))) (aH (J,eH A.2)) (i_ (Sx.op A.2) 2 (aH ((fQ 0 (aP (ah (Sx.els A.2)))),eH A.2)) (aH (aa,eH A.2)))) (i_ (Sx.op A.2) 2 (aH ((fQ 0 (aP (ah (Sx.els A.2)))),eH A.2)) (aH (aa,eH A.2)))) λx19=>(aI x19.1 (Z aa) (jn (ay (rr02_ShapedStmts (Sx.body x19.2)) λy21=>(aI y21 (ay (rr02_ShapedStmts (Sx.els x19.2)) λy22=>(aH y22)) (aH aa))) λx20=>(Z x20)))))))))))))))))
def kn (rr02_ShapedStmt:Sx->M (Bool)) (rr02_ShapedStmts:(Y Sx)->M (Bool)) (x:Y Sx):M (Bool):=
 (iter (σ:=Int) (λz=>(bS z (bf x) (pu z x (ay (rr02_ShapedStmt (geti (.sm) x z)) λA=>(aI (!A) (aH aa) (c5 (cW z))))) (aH J))) 0)
mutual
def eQ:Nat->Sx->M (Bool)
 |0,_=>U
 |n+1,x=>lb (eQ n) (dN n) x
def dN:Nat->(Y Sx)->M (Bool)
 |0,_=>U
 |n+1,x=>kn (eQ n) (dN n) x
end
def Bu (n:Nat) (x:Sx):eQ (n+1) x=lb (eQ n) (dN n) x:=rfl
def AJ (n:Nat) (x:Y Sx):dN (n+1) x=kn (eQ n) (dN n) x:=rfl
def o9 (x:Y Sx):M (Bool):=dN fuel x
def kZ (x:A?):M (Bool):=
 (jn (bS x.1 1 (aH (J,x)) (bS 6 x.1 (aH (J,x)) (ay (fx x.a) λL=>(aI (!L) (aH (J,x)) (bS x.b 0 (aH (J,x)) (i_ x.1 1 (aH ((!decide ((x.b:Int)=0)),x)) (aH (aa,x)))))))) λz=>(aI z.1 (Z aa) (jn (α:=Bool×A?) (bq z.2.1 5 (ay (fx z.k) λD=>(aI (!D) (aH (J,z.2)) (i_ z.2.1 5 (aH ((!decide ((z.k:ζ)=([]))),z.2)) (aH (aa,z.2))))) (i_ z.2.1 5 (aH ((!decide ((z.k:ζ)=([]))),z.2)) (aH (aa,z.2)))) λA=>(aI A.1 (Z aa) (jn (α:=Bool) (bS (-9223372036854775808) A.e (bq A.e 0 (aH J) (bq A.2.1 1 (aH J) (aH (decide ((A.2.1:Int)=2))))) (aH aa)) λN=>(Z N))))))
abbrev y?:=yK×Y yJ
abbrev I?:=Int×(yK×Y yJ)×(ζ)×Int×dz×Y Sx
def qU (x:y?):M (Bool):=
 (iter (σ:=Int×y?) (λD=>(bS D.1 (bf D.2.1) (bX Jd D.2.1 D.1 λz2=>(ay (kZ z2) λy3=>(aI (!y3) (aH aa) (c5 ((cW D.1),D.2))))) (ay (iter (σ:=Int×y?) (λA=>(bS A.1 (bf A.2.2) (bX uu A.2.2 A.1 λz5=>(iter (σ:=I?) (λz=>(bS z.1 (bf z.c) (bX (.str) z.c z.1 λz7=>(ay (fx z7) λy8=>(aI (!y8) (aH (cv aa)) (c5 ((cW z.1),z.2))))) (ay (jn (ay (fx z.a) λN=>(aI (!N) (aH (J,z.2.1)) (ay (o9 z.h) λL=>(aH ((!L),z.2.1))))) λx9=>(aI x9.1 (aH aa) (c5 ((cW A.1),x9.2)))) λr=>Z (cv r)))) (0,A.2,z5))) (aH (fQ 0 (bf A.2.2))))) (0,D.2)) λr=>Z (cv r)))) (0,x))
def jL (x:dz×ζ):M (Int):=
 (iter (σ:=Int) (λz=>(bS z (bf x.1) (bX (.str) x.1 z λA=>(aI (decide ((A:ζ)=x.2)) (aH z) (c5 (cW z)))) (aH (-1)))) 0)
def iw (x:yK×ζ):M (Int):=
 (iter (σ:=Int) (λz=>(bS z (bf x.1) (bX Jd x.1 z λA=>(aI (decide ((A.2.2.1:ζ)=x.2)) (aH z) (c5 (cW z)))) (aH (-1)))) 0)
def hY (x:(Y yJ)×ζ):M (Int):=
 (iter (σ:=Int) (λz=>(bS z (bf x.1) (bX uu x.1 z λA=>(aI (decide ((A.1:ζ)=x.2)) (aH z) (c5 (cW z)))) (aH (-1)))) 0)
def qT (x:(yK×Y yJ)×Int×ζ):M (Int):=
 (jn (kq 0 x.2.1 (bS x.2.1 (bf x.1.2) (bX uu x.1.2 x.2.1 λz2=>(ay (jL (z2.2.2.1,x.2.2)) λy3=>(aH ((dg 0 y3),x.1)))) (aH (aa,x.1))) (aH (aa,x.1))) λz=>(aI z.1 (Z 8) (ay (iw (z.2.1,x.2.2)) λD=>(bS D 0 (ay (hY (z.2.2,x.2.2)) λy5=>(kq 0 y5 (Z 7) (Z 0))) (pu D z.2.1 (lt ((geti Jd z.2.1 D).1) λA=>(bq A 1 (bX Jd z.2.1 D λz7=>(i_ z7.2.2.2.1 0 (Z 2) (Z 1))) (bq A 2 (Z 1) (jn (bq A 3 (aH ((decide ((A:Int)=3)),z.2)) (bq A 4 (aH ((decide ((A:Int)=4)),z.2)) (bq A 5 (aH ((decide ((A:Int)=5)),z.2)) (aH ((decide ((A:Int)=6)),z.2))))) λL=>(aI L.1 (bX Jd L.2.1 D λN=>(Z N.1)) (Z 9)))))))))))
def gR (x:(yK×Y yJ)×Int×(ζ)×i?):M (Int):=
 (ay (qT (x.1,x.2.1,x.a)) λz=>(bq z 0 (Z 5) (jn (i_ z x.b (aH (!decide ((z:Int)=x.g))) (aH aa)) λA=>(aI A (Z 6) (Z 0)))))
def vT (rr04_Nodes:Xp->M ν) (x:Xp):M ν:=
 (iter (σ:=(π)×Xp) (λz=>(bS z.1.2.2 (aP (ah (Xp.l z.2))) (bX (.ex) (Xp.l z.2) z.1.2.2 λD=>(ay (rr04_Nodes D) λA=>(c5 (((bA .i64 (z.1.1+A.1)),(mR z.1.2.1 A.2),(cW z.1.2.2)),eD ((Xp.op z.2),(Xp.n z.2),(Xp.name z.2),(Xp.l z.2)))))) (aH (z.1.1,(cW z.1.2.1))))) ((1,0,0),eD ((Xp.op x),(Xp.n x),(Xp.name x),(Xp.l x))))
def oL:Nat->Xp->M ν
 |0,_=>U
 |n+1,x=>vT (oL n) x
def Ap (n:Nat) (x:Xp):oL (n+1) x=vT (oL n) x:=rfl
def DW (x:Xp):M ν:=oL fuel x
abbrev w?:=(yK×Y yJ)×Int×Xp
def vS (rr04_names:w?->M (Int)) (x:w?):M (Int):=
 (jn (α:=Int×(yK×Y yJ)×Xp) (bq (Xp.op x.2.2) 2 (ay (gR (x.1,x.2.1,(Xp.name x.2.2),8,1)) λy2=>(aH (y2,x.1,eD ((Xp.op x.2.2),(Xp.n x.2.2),(Xp.name x.2.2),(Xp.l x.2.2))))) (bq (Xp.op x.2.2) 3 (ay (gR (x.1,x.2.1,(Xp.name x.2.2),2,2)) λy3=>(aH (y3,x.1,eD ((Xp.op x.2.2),(Xp.n x.2.2),(Xp.name x.2.2),(Xp.l x.2.2))))) (aH (0,x.1,eD ((Xp.op x.2.2),(Xp.n x.2.2),(Xp.name x.2.2),(Xp.l x.2.2)))))) λD=>(iter (σ:=(ν)×(yK×Y yJ)×Xp) (λz=>(jn (bS z.1.2 (aP (ah (Xp.l z.2.2))) (aH ((decide ((z.1.1:Int)=0)),z.2.1,eD ((Xp.op z.2.2),(Xp.n z.2.2),(Xp.name z.2.2),(Xp.l z.2.2)))) (aH (aa,z.2.1,eD ((Xp.op z.2.2),(Xp.n z.2.2),(Xp.name z.2.2),(Xp.l z.2.2))))) λA=>(aI A.1 (bX (.ex) (Xp.l A.2.2) z.1.2 λL=>(ay (rr04_names (A.2.1,x.2.1,L)) λN=>(c5 ((N,(cW z.1.2)),A.2.1,eD ((Xp.op A.2.2),(Xp.n A.2.2),(Xp.name A.2.2),(Xp.l A.2.2)))))) (aH z.1.1)))) ((D.1,0),D.2.1,eD ((Xp.op D.2.2),(Xp.n D.2.2),(Xp.name D.2.2),(Xp.l D.2.2)))))
def oK:Nat->(w?)->M (Int)
 |0,_=>U
 |n+1,x=>vS (oK n) x
def Ao (n:Nat) (x:w?):oK (n+1) x=vS (oK n) x:=rfl
def DV (x:w?):M (Int):=oK fuel x
def nB (x:w?):M (Int):=
 (ay (jN (eD ((Xp.op x.2.2),(Xp.n x.2.2),(Xp.name x.2.2),(Xp.l x.2.2)))) λL=>(aI (!L) (Z 3) (ay (DW (eD ((Xp.op x.2.2),(Xp.n x.2.2),(Xp.name x.2.2),(Xp.l x.2.2)))) λA=>(jn (bS 24 A.1 (aH (J,x.1,eD ((Xp.op x.2.2),(Xp.n x.2.2),(Xp.name x.2.2),(Xp.l x.2.2)))) (aH ((fQ 6 A.2),x.1,eD ((Xp.op x.2.2),(Xp.n x.2.2),(Xp.name x.2.2),(Xp.l x.2.2))))) λz=>(aI z.1 (Z 2) (ay (DV (z.2.1,x.2.1,eD ((Xp.op z.2.2),(Xp.n z.2.2),(Xp.name z.2.2),(Xp.l z.2.2)))) λD=>(Z D)))))))
def dh (x:Bool):M (Int):=
 (aI x (Z 7) (Z 0))
def jK (x:ν):M (Int):=
 (i_ x.1 0 (Z x.1) (Z x.2))
abbrev O?:=Int×d?
def ep (x:(Int×Int×ζ)×d?):M (Bool×d?):=
 (iter (σ:=O?) (λz=>(bS z.1 (bf z.a.2) (ko (.sm) z.a.2 z.1 λA=>(jn (α:=Bool×d?) (bq (Sx.op A) x.1.1 (aI (decide ((x.1.2.2:ζ)=([]))) (aH (J,z.2)) (aH ((decide (((Sx.name A):ζ)=x.1.2.2)),z.2))) (bq (Sx.op A) x.1.2.1 (aI (decide ((x.1.2.2:ζ)=([]))) (aH (J,z.2)) (aH ((decide (((Sx.name A):ζ)=x.1.2.2)),z.2))) (aH (aa,z.2)))) λD=>(aI D.1 (aH (J,D.2)) (c5 ((cW z.1),D.2))))) (aH (aa,z.2)))) (0,x.2))
abbrev D!:=Int×yL×(Bool×Y Sx)×Sx×(yK×Y yJ)×dz×Y ζ
def nA (x:Sx×d?):M O?:=
 (ay (ep ((7,7,[]),x.2)) λy1=>(bT (aA (ah x.g) (ah y1.g)&&(aA (ah x.b) (ah y1.b)&&(((x.a.1==y1.a.1)&&J)&&aA (ah x.a.2) (ah y1.a.2)&&J))) (ay (ep ((8,8,[]),y1.2)) λy2=>(bT (aA (ah y1.g) (ah y2.g)&&(aA (ah y1.b) (ah y2.b)&&(((y1.a.1==y2.a.1)&&J)&&aA (ah y1.a.2) (ah y2.a.2)&&J))) (ay (ep ((3,3,[]),y2.2)) λy3=>(bT (aA (ah y2.g) (ah y3.g)&&(aA (ah y2.b) (ah y3.b)&&(((y2.a.1==y3.a.1)&&J)&&aA (ah y2.a.2) (ah y3.a.2)&&J))) (bq (Sx.op x.1) 1 (bq (aP (ah (Sx.index x.1))) 0 (ay (gR ((x.2.1.1,x.2.1.2.1),x.2.1.2.2,(Sx.name x.1),8,1)) λy4=>(ay (nB ((x.2.1.1,x.2.1.2.1),x.2.1.2.2,eD ((Xp.op (Sx.expr x.1)),(Xp.n (Sx.expr x.1)),(Xp.name (Sx.expr x.1)),(Xp.l (Sx.expr x.1))))) λy5=>(ay (jK (y4,y5)) λy6=>(Z (y6,y3.2))))) (ay (gR ((x.2.1.1,x.2.1.2.1),x.2.1.2.2,(Sx.name x.1),2,2)) λy7=>(bX (.ex) (Sx.index x.1) 0 λz8=>(ay (nB ((x.2.1.1,x.2.1.2.1),x.2.1.2.2,z8)) λy9=>(ay (nB ((x.2.1.1,x.2.1.2.1),x.2.1.2.2,eD ((Xp.op (Sx.expr x.1)),(Xp.n (Sx.expr x.1)),(Xp.name (Sx.expr x.1)),(Xp.l (Sx.expr x.1))))) λy10=>(ay (jK (y9,y10)) λy11=>(ay (jK (y7,y11)) λy12=>(Z (y12,y3.2))))))))) (jn (bq (Sx.op x.1) 2 (aH ((decide (((Sx.op x.1):Int)=2)),y3.2.1,y3.a,eH x.1,(x.2.1.1,x.2.1.2.1),y3.d)) (aH ((decide (((Sx.op x.1):Int)=3)),y3.2.1,y3.a,eH x.1,(x.2.1.1,x.2.1.2.1),y3.d))) λD=>(aI D.1 (ay (nB (D.c,x.2.1.2.2,eD ((Xp.op (Sx.expr D.b)),(Xp.n (Sx.expr D.b)),(Xp.name (Sx.expr D.b)),(Xp.l (Sx.expr D.b))))) λy14=>(Z (y14,D.2.1,D.a,D.h))) (bq (Sx.op x.1) 4 (jn (α:=O?) (ay (gR (D.c,x.2.1.2.2,(Sx.name D.b),3,3)) λy16=>(aI y1.1 (ay (dh J) λy17=>(ay (jK (y16,y17)) λy18=>(aH (y18,D.2.1,D.a,D.h)))) (ay (ep ((4,4,(Sx.name D.b)),D.2.1,D.a,D.h)) λy19=>(bT (aA (ah D.k) (ah y19.g)&&(aA (ah D.e) (ah y19.b)&&(((D.a.1==y19.a.1)&&J)&&aA (ah D.a.2) (ah y19.a.2)&&J))) (ay (dh y19.1) λy20=>(ay (jK (y16,y20)) λy21=>(aH (y21,y19.2)))))))) λx15=>(Z x15)) (jn (bq (Sx.op x.1) 5 (aH ((decide (((Sx.op x.1):Int)=5)),D.2.1,D.a,eH D.b,D.g)) (aH ((decide (((Sx.op x.1):Int)=6)),D.2.1,D.a,eH D.b,D.g))) λA=>(aI A.1 (jn (α:=O?) (ay (gR (A.c,x.2.1.2.2,(Sx.name A.b),4,4)) λy24=>(aI y1.1 (ay (dh J) λy25=>(ay (jK (y24,y25)) λy26=>(aH (y26,A.2.1,A.a,A.h)))) (ay (ep ((5,6,(Sx.name A.b)),A.2.1,A.a,A.h)) λy27=>(bT (aA (ah A.k) (ah y27.g)&&(aA (ah A.e) (ah y27.b)&&(((A.a.1==y27.a.1)&&J)&&aA (ah A.a.2) (ah y27.a.2)&&J))) (ay (dh y27.1) λy28=>(ay (jK (y24,y28)) λy29=>(aH (y29,y27.2)))))))) λx23=>(Z x23)) (bq (Sx.op x.1) 7 (ay (dh y1.1) λy30=>(Z (y30,A.2.1,A.a,A.h))) (bq (Sx.op x.1) 8 (jn (aI y1.1 (ay (dh J) λy32=>(aH (y32,A.2.1,A.a,A.h))) (ay (dh y2.1) λy33=>(aH (y33,A.2.1,A.a,A.h)))) λx31=>(Z x31)) (jn (bq (Sx.op x.1) 9 (aH ((decide (((Sx.op x.1):Int)=9)),A.2.1,A.a,eH A.b,A.g)) (bq (Sx.op x.1) 10 (aH ((decide (((Sx.op x.1):Int)=10)),A.2.1,A.a,eH A.b,A.g)) (aH ((decide (((Sx.op x.1):Int)=11)),A.2.1,A.a,eH A.b,A.g)))) λz=>(aI z.1 (ay (gR (z.c,x.2.1.2.2,(Sx.name z.b),5,5)) λy35=>(i_ y35 0 (Z (y35,z.2.1,z.a,z.h)) (ay (iw (z.c.1,(Sx.name z.b))) λy36=>(bX Jd z.c.1 y36 λz37=>(ay (ep ((4,4,z37.2.2.2.2.2),z.2.1,z.a,z.h)) λy38=>(bT (aA (ah z.k) (ah y38.g)&&(aA (ah z.e) (ah y38.b)&&(((z.a.1==y38.a.1)&&J)&&aA (ah z.a.2) (ah y38.a.2)&&J))) (jn (aI y1.1 (ay (dh J) λy40=>(aH (y40,y38.2))) (aI (!y38.1) (ay (dh J) λy41=>(aH (y41,y38.2))) (bq (Sx.op z.b) 9 (ay (dh y2.1) λy42=>(aH (y42,y38.2))) (ay (dh aa) λy43=>(aH (y43,y38.2)))))) λx39=>(Z x39)))))))) (bq (Sx.op x.1) 12 (ay (gR (z.c,x.2.1.2.2,(Sx.name z.b),7,7)) λy44=>(i_ y44 0 (Z (y44,z.2.1,z.a,z.h)) (ay (hY (z.c.2,(Sx.name z.b))) λy45=>(jn (aI y1.1 (aH (J,z.2.1,z.a,eH z.b,z.h)) (aI y2.1 (aH (J,z.2.1,z.a,eH z.b,z.h)) (aI y3.1 (aH (J,z.2.1,z.a,eH z.b,z.h)) (bq y45 x.2.1.2.2 (aH (J,z.2.1,z.a,eH z.b,z.h)) (aH ((decide ((y45:Int)=0)),z.2.1,z.a,eH z.b,z.h)))))) λL=>(aI L.1 (Z (7,L.2.1,L.a,L.g)) (ay (jL (L.c,(Sx.name L.b))) λy47=>(kq 0 y47 (Z (8,L.2.1,L.a,L.g)) (bT (be (ah L.c+ah ([(Sx.name L.b)])) 16) (Z (0,L.2.1,L.a,(L.c++([(Sx.name L.b)])),L.h)))))))))) (bq (Sx.op x.1) 13 (jn (α:=O?) (ay (gR (z.c,x.2.1.2.2,(Sx.name z.b),7,7)) λy49=>(aI y1.1 (ay (dh J) λy50=>(ay (jK (y49,y50)) λy51=>(aH (y51,z.2.1,z.a,z.h)))) (aI y2.1 (ay (dh J) λy52=>(ay (jK (y49,y52)) λy53=>(aH (y53,z.2.1,z.a,z.h)))) (ay (hY (z.c.2,(Sx.name z.b))) λy54=>(ay (dh (decide ((y54:Int)=x.2.1.2.2))) λy55=>(ay (jK (y49,y55)) λy56=>(aH (y56,z.2.1,z.a,z.h)))))))) λx48=>(Z x48)) (bq (Sx.op x.1) 14 (jn (α:=D!) (ay (gR (z.c,x.2.1.2.2,(Sx.name z.b),6,6)) λy58=>(aI y1.1 (ay (dh J) λy59=>(ay (jK (y58,y59)) λy60=>(aH (y60,z.2.1,z.a,eH z.b,z.g)))) (ay (dh y3.1) λy61=>(ay (jK (y58,y61)) λy62=>(aH (y62,z.2.1,z.a,eH z.b,z.g)))))) λx57=>(jn (α:=D!) (jn (bq x57.1 0 (ay (jL (x57.k,(Sx.name x57.b))) λy65=>(aH ((dg 0 y65),x57.2.1,x57.a,eH x57.b,x57.g))) (aH (aa,x57.2.1,x57.a,eH x57.b,x57.g))) λx64=>(aI x64.1 (aH (8,x64.2.1,x64.a,eH x64.b,x64.g)) (aH (x57.1,x64.2.1,x64.a,eH x64.b,x64.g)))) λN=>(bT (be (ah N.k+ah ([(Sx.name N.b)])) 16) (ay (nB (N.c,x.2.1.2.2,eD ((Xp.op (Sx.expr N.b)),(Xp.n (Sx.expr N.b)),(Xp.name (Sx.expr N.b)),(Xp.l (Sx.expr N.b))))) λy66=>(ay (jK (N.1,y66)) λy67=>(Z (y67,N.2.1,N.a,N.e,(N.k++([(Sx.name N.b)]))))))))) (ay (gR (z.c,x.2.1.2.2,(Sx.name z.b),8,8)) λy68=>(ay (gR (z.c,x.2.1.2.2,(Sx.arg z.b),6,6)) λy69=>(ay (dh y1.1) λy70=>(ay (jK (y69,y70)) λy71=>(ay (jK (y68,y71)) λy72=>(Z (y72,z.2.1,z.a,z.h))))))))))))))))))))))))))
abbrev J?:=(Y Sx)×d?
def nG (rr04_walk_all:J?->M aks) (x:J?):M aks:=
 (iter (σ:=O?) (λL=>(bS L.1 (bf x.1) (bX (.sm) x.1 L.1 λz2=>(ay (nA (eH z2,L.2)) λN=>(bT (aA (ah L.g) (ah L.g)&&(aA (ah L.b) (ah L.b)&&(((L.a.1==N.a.1)&&J)&&aA (ah L.a.2) (ah N.a.2)&&J))) (jn (α:=Int×yL×Sx×(Bool×Y Sx)×dz×Y ζ) (bS 6 (bA .i64 ((bf N.a.2)+1)) (aH (2,N.2.1,eH z2,N.2.2)) (aH (N.1,N.2.1,eH z2,N.2.2))) λz=>(i_ z.1 0 (aH ((z.1,(Sx.line z.a)),z.2.1,z.d)) (bT (be (ah z.b.2+ah ([pa (0,0,[],[],([]:Y Xp),eD (0,0,[],([]:Y Xp)),([]:Y Sx),([]:Y Sx))])) 176) (ck (fA (bf z.b.2) (ah (z.b.2++([pa (0,0,[],[],([]:Y Xp),eD (0,0,[],([]:Y Xp)),([]:Y Sx),([]:Y Sx))])))) (ay (rr04_walk_all ((Sx.body z.a),z.2.1,(z.b.1,(cN (z.b.2++([pa (0,0,[],[],([]:Y Xp),eD (0,0,[],([]:Y Xp)),([]:Y Sx),([]:Y Sx))])) (bf z.b.2) (eH z.a))),z.g)) λD=>(bT (aA (ah z.h) (ah z.h)&&(aA (ah z.c) (ah z.c)&&(((z.b.1==z.b.1)&&J)&&aA (ah (cN (z.b.2++([pa (0,0,[],[],([]:Y Xp),eD (0,0,[],([]:Y Xp)),([]:Y Sx),([]:Y Sx))])) (bf z.b.2) (eH z.a))) (ah (cN (z.b.2++([pa (0,0,[],[],([]:Y Xp),eD (0,0,[],([]:Y Xp)),([]:Y Sx),([]:Y Sx))])) (bf z.b.2) (eH z.a)))&&J))) (jn (bq D.1.1 0 (ay (rr04_walk_all ((Sx.els z.a),D.2)) λy7=>(bT (aA (ah D.g) (ah D.g)&&(aA (ah D.b) (ah D.b)&&(((D.a.1==D.a.1)&&J)&&aA (ah D.a.2) (ah D.a.2)&&J))) (aH y7))) (aH D)) λA=>(bT (dg 0 (bA .i64 ((bf A.a.2)-1))&&fQ (bA .i64 ((bf A.a.2)-1)) (ah A.a.2)) (i_ A.1.1 0 (aH (A.1,A.2.1,(aa,(dF (aQ (bA .i64 ((bf A.a.2)-1))) A.a.2)),A.d)) (c5 ((cW L.1),A.2.1,(aa,(dF (aQ (bA .i64 ((bf A.a.2)-1))) A.a.2)),A.d)))))))))))))) (aH ((0,0),L.2)))) (0,x.2))
def iZ:Nat->(J?)->M aks
 |0,_=>U
 |n+1,x=>nG (iZ n) x
def Eb (n:Nat) (x:J?):iZ (n+1) x=nG (iZ n) x:=rfl
def xm (x:J?):M aks:=iZ fuel x
def vU (rr04_Count:(Y Sx)->M (Int)) (x:Y Sx):M (Int):=
 (iter (σ:=ν) (λz=>(bS z.2 (bf x) (pu z.2 x (lt (Sx.body (geti (.sm) x z.2)) λD=>(ay (rr04_Count D) λN=>(pu z.2 x (lt (Sx.els (geti (.sm) x z.2)) λA=>(ay (rr04_Count A) λL=>(c5 ((bA .i64 ((bA .i64 (z.1+N))+L)),(cW z.2))))))))) (aH z.1))) ((bf x),0))
def oM:Nat->(Y Sx)->M (Int)
 |0,_=>U
 |n+1,x=>vU (oM n) x
def Aq (n:Nat) (x:Y Sx):oM (n+1) x=vU (oM n) x:=rfl
def DX (x:Y Sx):M (Int):=oM fuel x
abbrev s?:=Int×Int×i?
def sO (x:Y ao9):M ν:=
 (iter (σ:=υ) (λz=>(bS z.g (bf x) (jn (α:=s?) (bX Jd x z.g λA=>(bT (dg 0 z.g&&dg z.g (ah x)) (ay (iw ((dF (aQ z.g) x),A.a)) λy4=>(kq 0 y4 (c5 (cv (4,A.2.1))) (bS 4 A.b (c5 (cv (2,A.2.1))) (jn (jn (bq A.1 1 (aH ((decide ((A.1:Int)=1)),A)) (aH ((decide ((A.1:Int)=2)),A))) λN=>(aI N.1 (aH (((bA .i64 (z.1+(mR N.c 1))),z.2.1,z.a,z.b),N.2)) (jn (bq A.1 3 (aH ((decide ((A.1:Int)=3)),N.2)) (aH ((decide ((A.1:Int)=4)),N.2))) λx7=>(aI x7.1 (aH ((z.1,(cW z.2.1),z.a,z.b),x7.2)) (bq A.1 5 (aH ((z.1,z.2.1,(cW z.a),z.b),x7.2)) (aH ((z.1,z.2.1,z.a,(cW z.b)),x7.2))))))) λD=>(jn (bS 12 D.1.1 (aH (J,D.2)) (bS 4 D.1.2.1 (aH (J,D.2)) (bS 2 D.1.a (aH (J,D.2)) (aH ((fQ 2 D.1.d),D.2))))) λL=>(aI L.1 (c5 (cv (2,L.a))) (bq L.2.1 5 (bT (dg 0 z.g&&dg z.g (ah x)) (ay (iw ((dF (aQ z.g) x),L.k)) λy9=>(bS y9 0 (c5 (cv (5,L.a))) (bX Jd x y9 λz10=>(i_ z10.1 3 (c5 (cv (6,L.a))) (aH D.1)))))) (aH D.1)))))))))) λx2=>(c5 (x2.1,x2.2.1,x2.a,x2.d,(cW z.g)))) (aH (0,0)))) (0,0,0,0,0))
def o8 (x:y?):M ν:=
 (iter (σ:=Int×y?) (λA=>(bS A.1 (bf A.2.2) (bX uu A.2.2 A.1 λN=>(jn (ay (iw (A.2.1,N.1)) λy4=>(kq 0 y4 (aH (J,A.2,N)) (bT (dg 0 A.1&&dg A.1 (ah A.2.2)) (ay (hY ((dF (aQ A.1) A.2.2),N.1)) λy5=>(aH ((dg 0 y5),A.2,N)))))) λx3=>(aI x3.1 (aH (4,x3.b)) (c5 ((cW A.1),x3.2.1))))) (ay (iter (σ:=Int×y?) (λL=>(bS L.1 (bf L.2.2) (bX uu L.2.2 L.1 λz7=>(bS 4 (bf z7.a) (aH (2,z7.2.1)) (iter (σ:=I?) (λz=>(bS z.1 (bf z.c) (bX (.str) z.c z.1 λz9=>(jn (ay (iw (z.2.1.1,z9)) λy11=>(kq 0 y11 (aH (J,z.2)) (ay (hY (z.2.1.2,z9)) λy12=>(kq 0 y12 (aH (J,z.2)) (bT (dg 0 z.1&&dg z.1 (ah z.c)) (ay (jL ((dF (aQ z.1) z.c),z9)) λy13=>(aH ((dg 0 y13),z.2)))))))) λD=>(aI D.1 (aH (cv (4,D.b))) (c5 ((cW z.1),D.2))))) (aH (wF ((cW L.1),z.2.1))))) (0,L.2,z7)))) (aH (0,0)))) (0,A.2)) λr=>Z (cv r)))) (0,x))
def fE (x:y?):M ν:=
 (ay (qU x) λy1=>(aI (!y1) (Z (3,0)) (ay (sO x.1) λN=>(i_ N.1 0 (Z N) (bS 4 (bf x.2) (Z (2,0)) (ay (o8 x) λL=>(i_ L.1 0 (Z L) (iter (σ:=(ν)×y?) (λA=>(bS A.1.2 (bf A.2.2) (bX uu A.2.2 A.1.2 λz5=>(ay (DX z5.2.2.2) λy6=>(c5 (((bA .i64 (A.1.1+y6)),(cW A.1.2)),A.2)))) (ay (bS 60 A.1.1 (Z (2,0)) (iter (σ:=Int×(yK×Y yJ)×d?) (λz=>(bS z.1 (bf z.2.1.2) (bX uu z.2.1.2 z.1 λz8=>(ay (xm (z8.2.2.2,(z.a.1,z.a.2.1,z.1),z.d)) λD=>(bT (aA (ah z.h) (ah z.h)&&(aA (ah z.c) (ah z.c)&&(((z.b.1==z.b.1)&&J)&&aA (ah z.b.2) (ah z.b.2)&&J))) (i_ D.1.1 0 (aH D.1) (c5 ((cW z.1),z.2.1,D.2)))))) (aH (0,0)))) (0,A.2,(A.2.1,A.2.2,0),(J,([]:Y Sx)),([]:Y ζ),([]:Y ζ)))) λr=>Z (cv r)))) ((0,0),x)))))))))
abbrev x!:=(Int×Int×Y Sx)×Y π
abbrev T!:=Int×Y π
def zL (rr06_sites:x!->M T!) (x:x!):M T!:=
 (iter (σ:=(ν)×Y π) (λz=>(bS z.1.2 (bf x.1.2.2) (pu z.1.2 x.1.2.2 (lt (Sx.line (geti (.sm) x.1.2.2 z.1.2)) λA=>(bT (be (ah z.2+ah ([(x.1.1,z.1.1,A)])) 24) (pu z.1.2 x.1.2.2 (lt (Sx.body (geti (.sm) x.1.2.2 z.1.2)) λz3=>(ay (rr06_sites ((x.1.1,(cW z.1.1),z3),(z.2++([(x.1.1,z.1.1,A)])))) λD=>(bT (aA (ah (z.2++([(x.1.1,z.1.1,A)]))) (ah (z.2++([(x.1.1,z.1.1,A)])))&&J) (pu z.1.2 x.1.2.2 (lt (Sx.els (geti (.sm) x.1.2.2 z.1.2)) λN=>(ay (rr06_sites ((x.1.1,D.1,N),D.2)) λL=>(bT (aA (ah D.2) (ah D.2)&&J) (c5 ((L.1,(cW z.1.2)),L.2))))))))))))) (aH (z.1.1,z.2)))) ((x.1.2.1,0),x.2))
def qN:Nat->(x!)->M T!
 |0,_=>U
 |n+1,x=>zL (qN n) x
def JA (n:Nat) (x:x!):qN (n+1) x=zL (qN n) x:=rfl
def Lc (x:x!):M T!:=qN fuel x
def ly (x:nW×ζ):M (Int):=
 (iter (σ:=Int) (λz=>(bS z (bf x.1) (bX tY x.1 z λA=>(aI (decide ((A.1:ζ)=x.2)) (aH z) (c5 (cW z)))) (aH (-1)))) 0)
abbrev D?:=Int×b?
def mD (x:eM×ζ):M (Int):=
 (iter (σ:=D?) (λz=>(bS z.1 (bf z.2.1) (bX mA z.2.1 z.1 λA=>(aI (decide ((A.1:ζ)=x.2)) (aH z.1) (c5 ((cW z.1),z.2)))) (aH (-1)))) (0,x.1))
abbrev H?:=pn×nW×(Y kK)×Y ζ
def vJ (x:y?):M eM:=
 (ay (fE x) λy1=>(i_ y1.1 0 (Z (([]:Y V7),([]:Y F!),([]:Y kK),([]:Y ζ),([]:Y ζ),([]:Y π))) (iter (σ:=Int×(yK×Y yJ)×H?) (λL=>(bS L.1 (bf L.2.1.1) (bX Jd L.2.1.1 L.1 λN=>(jn (α:=(yK×Y yJ)×H?) (jn (bq N.1 1 (aH ((decide ((N.1:Int)=1)),L.2.1,N,L.2.2)) (aH ((decide ((N.1:Int)=2)),L.2.1,N,L.2.2))) λx5=>(aI x5.1 (iter (σ:=Int×(yK×Y yJ)×ao9×H?) (λA=>(bS A.1 (mR A.a.b 1) (bT (be (ah A.b+ah ([(A.a.a,A.1,A.a.b,(decide ((A.a.1:Int)=2)),A.a.c)])) 48) (c5 ((cW A.1),A.2.1,A.a,(A.b++([(A.a.a,A.1,A.a.b,(decide ((A.a.1:Int)=2)),A.a.c)])),A.g))) (aH (cv (A.2.1,A.d))))) (0,x5.2)) (jn (bq N.1 3 (aH ((decide ((N.1:Int)=3)),x5.2)) (aH ((decide ((N.1:Int)=4)),x5.2))) λz=>(aI z.1 (bT (be (ah z.c+ah ([(z.a.a,(decide ((z.a.1:Int)=4)))])) 24) (aH (z.2.1,z.b,(z.c++([(z.a.a,(decide ((z.a.1:Int)=4)))])),z.h))) (bq N.1 5 (ay (ly (z.c,z.a.h)) λy8=>(bT (be (ah z.e+ah ([(z.a.a,y8)])) 24) (aH (z.2.1,z.b,z.c,(z.e++([(z.a.a,y8)])),z.k)))) (bT (be (ah z.k+ah ([z.a.a])) 16) (aH (z.2.1,z.b,z.c,z.e,(z.k++([z.a.a])))))))))) λx4=>(c5 ((cW L.1),x4)))) (ay (iter (σ:=Int×(yK×Y yJ)×b?) (λD=>(bS D.1 (bf D.2.1.2) (bX uu D.2.1.2 D.1 λz10=>(bT (be (ah D.f+ah ([z10.1])) 16) (bX uu D.2.1.2 D.1 λz11=>(ay (Lc ((D.1,0,z11.2.2.2),D.p)) λy12=>(bT (aA (ah D.p) (ah D.p)&&J) (c5 ((cW D.1),D.2.1,D.a,D.b,D.c,D.e,(D.f++([z10.1])),y12.2))))))) (aH D.2.2))) (0,L.2.1,L.a,L.b,L.c,L.h,([]:Y ζ),([]:Y π))) λr=>Z (cv r)))) (0,x,([]:Y V7),([]:Y F!),([]:Y kK),([]:Y ζ)))))
abbrev A!:=Int×eM×Y ζ
abbrev L!:=dz×(ζ)×r?
def qI (x:b?):M (dz×Bool):=
 (iter (σ:=A!) (λA=>(bS A.1 (bf A.2.1.1) (jn (α:=A!) (bX mA A.2.1.1 A.1 λL=>(bT (be (ah A.2.2+ah ([L.1])) 16) (bq L.a 0 (i_ L.2.1 0 (c5 (cv (([]:Y ζ),aa))) (aH ((cW A.1),A.2.1,(A.2.2++([L.1]))))) (jn (α:=Bool×eM×L!) (bS L.a 1 (aH (J,A.2.1,(A.2.2++([L.1])),L)) (bS 4 L.a (aH (J,A.2.1,(A.2.2++([L.1])),L)) (aH ((fQ (bA .i64 ((bf A.2.1.1)-A.1)) L.a),A.2.1,(A.2.2++([L.1])),L)))) λx4=>(aI x4.1 (c5 (cv (([]:Y ζ),aa))) (iter (σ:=Int×eM×L!) (λD=>(bS D.1 D.e (bX mA D.2.1.1 (bA .i64 (A.1+D.1)) λz6=>(jn (i_ z6.2.1 D.1 (aH (J,D.2)) (aI (!decide ((z6.1:ζ)=D.b)) (aH (J,D.2)) (i_ z6.a D.e (aH (J,D.2)) (i_ z6.g D.p (aH (J,D.2)) (aH (z6.b,D.2)))))) λx7=>(aI x7.1 (aH (wF (cv (([]:Y ζ),aa)))) (c5 ((cW D.1),x7.2))))) (aH (cv ((bA .i64 (A.1+D.e)),D.2.1,D.a))))) (0,x4.2))))))) λx2=>(c5 x2)) (ay (iter (σ:=A!) (λN=>(bS N.1 (bf N.2.1.2.1) (bX tY N.2.1.2.1 N.1 λz9=>(bT (be (ah N.2.2+ah ([z9.1])) 16) (c5 ((cW N.1),N.2.1,(N.2.2++([z9.1])))))) (ay (iter (σ:=A!) (λz=>(bS z.1 (bf z.2.1.a) (bX nX z.2.1.a z.1 λz11=>(bT (be (ah z.2.2+ah ([z11.1])) 16) (c5 ((cW z.1),z.2.1,(z.2.2++([z11.1])))))) (ay (bT (be (ah z.2.2+ah z.2.1.b) 16) (bT (be (ah (z.2.2++z.2.1.b)+ah z.2.1.c) 16) (Z (((z.2.2++z.2.1.b)++z.2.1.c),J)))) λr=>Z (cv r)))) (0,N.2)) λr=>Z (cv r)))) (0,A.2)) λr=>Z (cv r)))) (0,x,([]:Y ζ)))
def iv (x:b?):M (Bool):=
 (jn (bS 12 (bf x.1) (aH (J,x)) (bS 4 (bf x.2.1) (aH (J,x)) (bS 2 (bf x.a) (aH (J,x)) (bS 2 (bf x.b) (aH (J,x)) (bS (bf x.c) 1 (aH (J,x)) (bS 4 (bf x.c) (aH (J,x)) (aH ((fQ 60 (bf x.h)),x)))))))) λx1=>(aI x1.1 (Z aa) (ay (qI x1.2) λy2=>(aI (!y2.2) (Z aa) (iter (σ:=D?) (λN=>(bS N.1 (bf y2.1) (jn (bX (.str) y2.1 N.1 λz5=>(ay (fx z5) λy6=>(aI (!y6) (aH (J,N.2)) (bT (dg 0 N.1&&dg N.1 (ah y2.1)) (bX (.str) y2.1 N.1 λz7=>(ay (jL ((dF (aQ N.1) y2.1),z7)) λy8=>(aH ((dg 0 y8),N.2)))))))) λx4=>(aI x4.1 (aH aa) (c5 ((cW N.1),x4.2)))) (ay (iter (σ:=D?) (λD=>(bS D.1 (bf D.b) (bX nX D.b D.1 λz10=>(jn (bS z10.2 0 (aH (J,D.2)) (kq (bf D.a) z10.2 (aH (J,D.2)) (bX tY D.a z10.2 λz12=>(aH (z12.2,D.2))))) λx11=>(aI x11.1 (aH aa) (c5 ((cW D.1),x11.2))))) (ay (iter (σ:=D?) (λz=>(bS z.1 (bf z.k) (jn (bX qO z.k z.1 λz15=>(jn (bS z15.1 0 (aH (J,z.2,z15)) (aH ((dg (bf z.e) z15.1),z.2,z15))) λL=>(aI L.1 (c5 (cv aa)) (jn (bq z.1 0 (aH (J,L.2)) (bX qO L.2.1.h (bA .i64 (z.1-1)) λz18=>(aH ((!decide ((z18.1:Int)=L.a)),L.2)))) λA=>(aI A.1 (jn (i_ A.b 0 (aH (J,A.2.1)) (bS 0 z.1 (bX qO A.2.1.h (bA .i64 (z.1-1)) λz20=>(aH ((fQ A.a z20.1),A.2.1))) (aH (aa,A.2.1)))) λx19=>(aI x19.1 (c5 (cv aa)) (aH x19.2))) (bX qO A.2.1.h (bA .i64 (z.1-1)) λz21=>(i_ A.b (cW z21.2.1) (c5 (cv aa)) (aH A.2.1)))))))) λx14=>(c5 ((cW z.1),x14))) (aH J))) (0,D.2)) λr=>Z (cv r)))) (0,N.2)) λr=>Z (cv r)))) (0,x1.2))))))
def kz (x:ω):M η:=
 (jn (bq x.1 1 (aH ((decide ((x.1:Int)=1)),x)) (bq x.1 6 (aH ((decide ((x.1:Int)=6)),x)) (bq x.1 10 (aH ((decide ((x.1:Int)=10)),x)) (aH ((decide ((x.1:Int)=27)),x))))) λD=>(aI D.1 (Z ([D.a])) (jn (bq x.1 2 (aH ((decide ((x.1:Int)=2)),D.2)) (aH ((decide ((x.1:Int)=3)),D.2))) λz=>(aI z.1 (Z ([z.a,z.b])) (bq x.1 4 (Z ([z.a,z.b,z.c])) (bq x.1 7 (Z ([z.a,z.c])) (jn (bq x.1 8 (aH ((decide ((x.1:Int)=8)),z.2)) (aH ((decide ((x.1:Int)=26)),z.2))) λA=>(aI A.1 (Z ([A.b])) (bq x.1 9 (Z ([A.b,A.c])) (Z ([]:η)))))))))))
def qS (x:Int):M (Bool):=
 (jn (kq 1 x (aH (dg x 5)) (aH aa)) λz=>(Z z))
def qJ (x:(Y mn)×Int):M (Bool):=
 (iter (σ:=ν) (λz=>(kq z.2 (bf x.1) (jn (jn (bS z.1 0 (aH J) (aH (dg (bf x.1) z.1))) λx3=>(aI x3 (c5 (cv aa)) (bX sk x.1 z.1 λL=>(ay (qS L.1) λN=>(aI (!N) (c5 (cv J)) (bX sk x.1 z.1 λD=>(bq D.1 5 (bX sk x.1 z.1 λA=>(aH A.2.1)) (aH (cW z.1))))))))) λx2=>(c5 (x2,(cW z.2)))) (aH aa))) (x.2,0))
def j6 (x:ν):M (Bool):=
 (jn (kq 0 x.1 (aH (fQ x.1 x.2)) (aH aa)) λz=>(Z z))
def oG (x:eM×i?):M (Bool):=
 (jn (ay (j6 (x.2.1,(bf x.1.1))) λL=>(aI L (bX mA x.1.1 x.2.1 λD=>(bq D.2.1 0 (bX mA x.1.1 x.2.1 λA=>(i_ A.2.2.1 0 (bX mA x.1.1 x.2.1 λz=>(aH (decide ((z.2.2.1:Int)=x.2.2)))) (aH aa))) (aH aa))) (aH aa))) λN=>(Z N))
def mO (x:eM×Int×Int×s?):M (Bool):=
 (bq x.2.1 6 (jn (ay (j6 (x.b,(bf x.1.1))) λy2=>(aI y2 (bX mA x.1.1 x.b λz3=>(aH (decide ((z3.2.2.1:Int)=0)))) (aH aa))) λx1=>(Z x1)) (bq x.2.1 8 (jn (ay (j6 (x.a,(bf x.1.1))) λy5=>(aI y5 (bX mA x.1.1 x.a λz6=>(aH (decide ((z6.2.2.1:Int)=0)))) (aH aa))) λx4=>(Z x4)) (bq x.2.1 7 (ay (oG (x.1,x.b,x.e)) λy7=>(Z y7)) (bq x.2.1 9 (ay (oG (x.1,x.a,x.e)) λy8=>(Z y8)) (jn (bq x.2.1 11 (aH ((decide ((x.2.1:Int)=11)),x)) (aH ((decide ((x.2.1:Int)=12)),x))) λL=>(aI L.1 (jn (ay (j6 (L.b,(bf L.2.1.2.1))) λy11=>(aI y11 (bX tY L.2.1.2.1 L.b λz12=>(aH (!z12.2))) (aH aa))) λx10=>(Z x10)) (jn (bq x.2.1 13 (aH ((decide ((x.2.1:Int)=13)),L.2)) (bq x.2.1 14 (aH ((decide ((x.2.1:Int)=14)),L.2)) (bq x.2.1 15 (aH ((decide ((x.2.1:Int)=15)),L.2)) (aH ((decide ((x.2.1:Int)=16)),L.2))))) λA=>(aI A.1 (jn (ay (j6 (A.b,(bf A.2.1.2.1))) λy15=>(aI y15 (bX tY A.2.1.2.1 A.b λN=>(aH N.2)) (aH aa))) λx14=>(Z x14)) (jn (bq x.2.1 21 (aH ((decide ((x.2.1:Int)=21)),A.2)) (bq x.2.1 22 (aH ((decide ((x.2.1:Int)=22)),A.2)) (aH ((decide ((x.2.1:Int)=23)),A.2)))) λD=>(aI D.1 (ay (j6 (D.b,(bf D.2.1.a))) λy18=>(Z y18)) (jn (bq x.2.1 24 (aH ((decide ((x.2.1:Int)=24)),D.2)) (aH ((decide ((x.2.1:Int)=25)),D.2))) λz=>(aI z.1 (ay (j6 (z.b,(bf z.2.1.c))) λy20=>(Z y20)) (bq x.2.1 26 (ay (j6 (z.b,(bf z.2.1.b))) λy21=>(Z y21)) (bq x.2.1 27 (ay (j6 (z.c,(bf z.2.1.b))) λy22=>(Z y22)) (bq x.2.1 3 (jn (bq z.f 4 (aH J) (aH (decide ((z.f:Int)=5)))) λx23=>(Z x23)) (bq x.2.1 4 (jn (kq 6 z.f (aH (dg z.f 18)) (aH aa)) λx24=>(Z x24)) (Z J)))))))))))))))))
abbrev M?:=Int×Y mn
def iL (x:eM×Int×M?):M (Bool):=
 (jn (bS x.a 0 (aH (J,x.1,x.2.2)) (bS 32 x.a (aH (J,x.1,x.2.2)) (aH ((decide (((bf x.d):Int)=0)),x.1,x.2.2)))) λx1=>(aI x1.1 (Z aa) (iter (σ:=Int×eM×M?) (λA=>(bS A.1 (bf x.d) (bX sk A.d A.1 λN=>(jn (bS N.1 1 (aH (J,A.2.1,A.2.2,N)) (bS 28 N.1 (aH (J,A.2.1,A.2.2,N)) (aI (((decide ((N.1:Int)=28))==(decide ((A.1:Int)=(bA .i64 ((bf x.d)-1))))) !=J) (aH (J,A.2.1,A.2.2,N)) (ay (mO (A.2.1,N)) λy5=>(aI (!y5) (aH (J,A.2.1,A.2.2,N)) (ay (qJ (A.d,A.1)) λy6=>(aH ((!y6),A.2.1,A.2.2,N)))))))) λz=>(aI z.1 (aH aa) (jn (α:=Bool×eM×(Int×Y mn)×Int×Int×s?) (bq z.b 28 (i_ z.s (-1) (aH (J,z.2)) (i_ z.b 28 (ay (j6 (z.s,(bf z.2.1.h))) λy8=>(aI (!y8) (aH (J,z.2)) (bX qO z.2.1.h z.s λz9=>(aH ((!decide ((z9.1:Int)=x.2.1)),z.2))))) (aH (aa,z.2)))) (i_ z.b 28 (ay (j6 (z.s,(bf z.2.1.h))) λy10=>(aI (!y10) (aH (J,z.2)) (bX qO z.2.1.h z.s λz11=>(aH ((!decide ((z11.1:Int)=x.2.1)),z.2))))) (aH (aa,z.2)))) λL=>(aI L.1 (aH aa) (jn (bq L.b 5 (ay (j6 (L.c,(bf x.d))) λy13=>(aI (!y13) (aH (J,L.2)) (bq L.b 10 (ay (j6 (L.e,(bf x.d))) λy14=>(aH ((!y14),L.2))) (aH (aa,L.2))))) (bq L.b 10 (ay (j6 (L.e,(bf x.d))) λy15=>(aH ((!y15),L.2))) (aH (aa,L.2)))) λx12=>(aI x12.1 (aH aa) (ay (kz x12.d) λy16=>(iter (σ:=Int×eM×M?) (λD=>(bS D.1 (bf y16) (bX aM y16 D.1 λz18=>(ay (j6 (z18,D.a)) λy19=>(aI (!y19) (aH (cv aa)) (c5 ((cW D.1),D.2))))) (aH (wF ((cW A.1),D.2))))) (0,x12.2.1,x12.a)))))))))) (aH J))) (0,x1.2))))
def ky (x:y!):M (Bool):=
 (jn (ay (iv x.1) λN=>(aI (!N) (aH (J,x)) (aH ((!decide (((bf x.2):Int)=(bf x.1.c))),x)))) λA=>(aI A.1 (Z aa) (iter (σ:=Int×y!) (λz=>(bS z.1 (bf z.2.2) (bX yO z.2.2 z.1 λD=>(ay (iL (z.2.1,z.1,D)) λL=>(aI (!L) (aH aa) (c5 ((cW z.1),z.2))))) (aH J))) (0,A.2))))
def cO (x:mn×f?):M f?:=
 (bT (be (ah x.2.2+ah ([(x.1.1,x.1.2.1,x.1.a,x.1.b,x.1.c,x.2.1.j)])) 48) (Z (x.2.1,(x.2.2++([(x.1.1,x.1.2.1,x.1.a,x.1.b,x.1.c,x.2.1.j)])))))
abbrev E?:=(Xp×Int)×f?
def rS (rr06_gen_value:E?->M f?) (x:E?):M f?:=
 (jn (α:=f?) (bq (Xp.op x.1.1) 1 (ay (cO ((1,x.1.2,0,0,(Xp.n x.1.1),0),x.2)) λy2=>(bT (aA (ah x.2.2) (ah x.2.2)&&J) (aH y2))) (bq (Xp.op x.1.1) 2 (ay (jL (x.2.1.f,(Xp.name x.1.1))) λy3=>(kq 0 y3 (ay (cO ((2,x.1.2,y3,0,0,0),x.2)) λy4=>(bT (aA (ah x.2.2) (ah x.2.2)&&J) (aH y4))) (ay (mD ((x.2.1.1,x.2.1.2.1,x.2.1.a,x.2.1.b,x.2.1.c,x.2.1.e),(Xp.name x.1.1))) λy5=>(ay (cO ((6,x.1.2,y5,0,0,0),x.2)) λy6=>(bT (aA (ah x.2.2) (ah x.2.2)&&J) (aH y6)))))) (bq (Xp.op x.1.1) 3 (bX (.ex) (Xp.l x.1.1) 0 λz7=>(ay (rr06_gen_value ((z7,x.1.2),x.2)) λz=>(bT (aA (ah x.2.2) (ah x.2.2)&&J) (ay (mD ((z.1.1,z.1.2.1,z.1.a,z.1.b,z.1.c,z.1.e),(Xp.name x.1.1))) λy9=>(bX mA z.1.1 y9 λz10=>(ay (cO ((7,x.1.2,y9,x.1.2,z10.2.2.1,0),z)) λy11=>(bT (aA (ah z.2) (ah z.2)&&J) (aH y11)))))))) (bq (aP (ah (Xp.l x.1.1))) 1 (bX (.ex) (Xp.l x.1.1) 0 λz12=>(ay (rr06_gen_value ((z12,x.1.2),x.2)) λL=>(bT (aA (ah x.2.2) (ah x.2.2)&&J) (ay (cO ((3,x.1.2,x.1.2,0,(Xp.op x.1.1),0),L)) λy14=>(bT (aA (ah L.2) (ah L.2)&&J) (aH y14)))))) (bX (.ex) (Xp.l x.1.1) 0 λz15=>(ay (rr06_gen_value ((z15,x.1.2),x.2)) λD=>(bT (aA (ah x.2.2) (ah x.2.2)&&J) (bX (.ex) (Xp.l x.1.1) 1 λN=>(ay (rr06_gen_value ((N,(cW x.1.2)),D)) λA=>(bT (aA (ah D.2) (ah D.2)&&J) (ay (cO ((4,x.1.2,x.1.2,(cW x.1.2),(Xp.op x.1.1),0),A)) λy19=>(bT (aA (ah A.2) (ah A.2)&&J) (aH y19))))))))))))) λx1=>(Z x1))
def ju:Nat->(E?)->M f?
 |0,_=>U
 |n+1,x=>rS (ju n) x
def CS (n:Nat) (x:E?):ju (n+1) x=rS (ju n) x:=rfl
def ji (x:E?):M f?:=ju fuel x
def m7 (x:Sx×f?):M f?:=
 (bS 0 (aP (ah (Sx.index x.1))) (bX (.ex) (Sx.index x.1) 0 λz1=>(ay (ji ((z1,(bf x.2.1.f)),x.2)) λD=>(bT (aA (ah x.2.2) (ah x.2.2)&&J) (ay (ji ((eD ((Xp.op (Sx.expr x.1)),(Xp.n (Sx.expr x.1)),(Xp.name (Sx.expr x.1)),(Xp.l (Sx.expr x.1))),(bA .i64 ((bf x.2.1.f)+1))),D)) λA=>(bT (aA (ah D.2) (ah D.2)&&J) (ay (mD ((A.1.1,A.1.2.1,A.1.a,A.1.b,A.1.c,A.1.e),(Sx.name x.1))) λy4=>(bX mA A.1.1 y4 λz5=>(ay (cO ((9,y4,(bA .i64 ((bf x.2.1.f)+1)),(bf x.2.1.f),z5.2.2.1,0),A)) λy6=>(bT (aA (ah A.2) (ah A.2)&&J) (Z y6)))))))))) (ay (ji ((eD ((Xp.op (Sx.expr x.1)),(Xp.n (Sx.expr x.1)),(Xp.name (Sx.expr x.1)),(Xp.l (Sx.expr x.1))),(bf x.2.1.f)),x.2)) λz=>(bT (aA (ah x.2.2) (ah x.2.2)&&J) (ay (jL (z.1.f,(Sx.name x.1))) λy8=>(kq 0 y8 (ay (cO ((2,y8,(bf x.2.1.f),0,0,0),z)) λy9=>(bT (aA (ah z.2) (ah z.2)&&J) (Z y9))) (ay (mD ((z.1.1,z.1.2.1,z.1.a,z.1.b,z.1.c,z.1.e),(Sx.name x.1))) λN=>(ay (cO ((8,N,(bf x.2.1.f),0,0,0),z)) λL=>(bT (aA (ah z.2) (ah z.2)&&J) (Z L)))))))))
def kg (x:ζ×f?):M (Int×f?):=
 (iter (σ:=Int×f?) (λz=>(bS z.1 (bf z.2.1.a) (bX nX z.2.1.a z.1 λA=>(aI (decide ((A.1:ζ)=x.1)) (aH z) (c5 ((cW z.1),z.2)))) (aH ((-1),z.2)))) (0,x.2))
def rT (rr06_gen_stmts:ah0->M f?) (rr06_gen_stmt:OR->M f?) (rr06_gen_branches:OR->M f?) (rr06_gen_around:ah1->M f?) (x:(Y Sx)×f?):M f?:=
 (iter (σ:=Int×f?) (λz=>(bS z.1 (bf x.1) (bX (.sm) x.1 z.1 λA=>(ay (rr06_gen_stmt (A,z.2)) λD=>(bT (aA (ah z.2.2) (ah z.2.2)&&J) (c5 ((cW z.1),D))))) (aH z.2))) (0,x.2))
def tf (rr06_gen_stmts:ah0->M f?) (rr06_gen_stmt:OR->M f?) (rr06_gen_branches:OR->M f?) (rr06_gen_around:ah1->M f?) (x:Sx×f?):M f?:=
 (jn (α:=f?) (bq (Sx.op x.1) 1 (ay (m7 (eH x.1,(x.2.1.1,x.2.1.2.1,x.2.1.a,x.2.1.b,x.2.1.c,x.2.1.e,x.2.1.f,x.2.1.s,(cW x.2.1.s)),x.2.2)) λy2=>(bT (aA (ah x.2.2) (ah x.2.2)&&J) (aH y2))) (jn (bq (Sx.op x.1) 2 (aH ((decide (((Sx.op x.1):Int)=2)),(x.2.1.1,x.2.1.2.1,x.2.1.a,x.2.1.b,x.2.1.c,x.2.1.e,x.2.1.f,x.2.1.s,(cW x.2.1.s)),eH x.1,x.2.2)) (aH ((decide (((Sx.op x.1):Int)=3)),(x.2.1.1,x.2.1.2.1,x.2.1.a,x.2.1.b,x.2.1.c,x.2.1.e,x.2.1.f,x.2.1.s,(cW x.2.1.s)),eH x.1,x.2.2))) λz=>(aI z.1 (ay (rr06_gen_branches (eH z.a,z.2.1,z.d)) λy4=>(bT (aA (ah z.d) (ah z.d)&&J) (aH y4))) (bq (Sx.op x.1) 4 (ay (ly (z.2.1.2.1,(Sx.name z.a))) λy5=>(ay (rr06_gen_around ((eH z.a,11,12,y5),z.2.1,z.d)) λy6=>(bT (aA (ah z.d) (ah z.d)&&J) (aH y6)))) (bq (Sx.op x.1) 5 (ay (ly (z.2.1.2.1,(Sx.name z.a))) λy7=>(ay (rr06_gen_around ((eH z.a,13,14,y7),z.2.1,z.d)) λy8=>(bT (aA (ah z.d) (ah z.d)&&J) (aH y8)))) (bq (Sx.op x.1) 6 (ay (ly (z.2.1.2.1,(Sx.name z.a))) λy9=>(ay (rr06_gen_around ((eH z.a,15,16,y9),z.2.1,z.d)) λy10=>(bT (aA (ah z.d) (ah z.d)&&J) (aH y10)))) (bq (Sx.op x.1) 7 (ay (rr06_gen_around ((eH z.a,17,18,0),z.2.1,z.d)) λy11=>(bT (aA (ah z.d) (ah z.d)&&J) (aH y11))) (bq (Sx.op x.1) 8 (ay (rr06_gen_around ((eH z.a,19,20,0),z.2.1,z.d)) λy12=>(bT (aA (ah z.d) (ah z.d)&&J) (aH y12))) (bq (Sx.op x.1) 9 (ay (kg ((Sx.name z.a),z.2.1,z.d)) λL=>(bT (aA (ah z.d) (ah L.2.2)&&J) (ay (cO ((21,L.1,0,0,0,0),L.2)) λy14=>(bT (aA (ah L.2.2) (ah L.2.2)&&J) (aH y14))))) (bq (Sx.op x.1) 10 (ay (kg ((Sx.name z.a),z.2.1,z.d)) λD=>(bT (aA (ah z.d) (ah D.2.2)&&J) (ay (cO ((22,D.1,0,0,0,0),D.2)) λy16=>(bT (aA (ah D.2.2) (ah D.2.2)&&J) (aH y16))))) (bq (Sx.op x.1) 11 (ay (kg ((Sx.name z.a),z.2.1,z.d)) λA=>(bT (aA (ah z.d) (ah A.2.2)&&J) (ay (cO ((23,A.1,0,0,0,0),A.2)) λy18=>(bT (aA (ah A.2.2) (ah A.2.2)&&J) (aH y18))))) (bq (Sx.op x.1) 12 (ay (jL (z.2.1.c,(Sx.name z.a))) λy19=>(ay (cO ((24,y19,0,0,0,0),z.2.1,z.d)) λy20=>(bT (aA (ah z.d) (ah z.d)&&J) (aH y20)))) (bq (Sx.op x.1) 13 (ay (jL (z.2.1.c,(Sx.name z.a))) λy21=>(ay (cO ((25,y21,0,0,0,0),z.2.1,z.d)) λy22=>(bT (aA (ah z.d) (ah z.d)&&J) (aH y22)))) (bq (Sx.op x.1) 14 (ay (ji ((eD ((Xp.op (Sx.expr z.a)),(Xp.n (Sx.expr z.a)),(Xp.name (Sx.expr z.a)),(Xp.l (Sx.expr z.a))),(bf x.2.1.f)),z.2.1,z.d)) λN=>(bT (aA (ah z.d) (ah z.d)&&J) (ay (jL (N.1.b,(Sx.name z.a))) λy24=>(ay (cO ((26,y24,(bf x.2.1.f),0,0,0),N)) λy25=>(bT (aA (ah N.2) (ah N.2)&&J) (aH y25)))))) (bq (Sx.op x.1) 15 (ay (jL (z.2.1.f,(Sx.name z.a))) λy26=>(ay (jL (z.2.1.b,(Sx.arg z.a))) λy27=>(ay (cO ((27,y26,y27,0,0,0),z.2.1,z.d)) λy28=>(bT (aA (ah z.d) (ah z.d)&&J) (aH y28))))) (aH (z.2.1,z.d))))))))))))))))) λx1=>(Z x1))
def nM (rr06_gen_stmts:ah0->M f?) (rr06_gen_stmt:OR->M f?) (rr06_gen_branches:OR->M f?) (rr06_gen_around:ah1->M f?) (x:Sx×f?):M f?:=
 (ay (ji ((eD ((Xp.op (Sx.expr x.1)),(Xp.n (Sx.expr x.1)),(Xp.name (Sx.expr x.1)),(Xp.l (Sx.expr x.1))),(bf x.2.1.f)),x.2)) λA=>(bT (aA (ah x.2.2) (ah x.2.2)&&J) (ay (cO ((10,(bf A.1.f),0,0,0,0),A)) λy2=>(bT (aA (ah A.2) (ah A.2)&&J) (ay (rr06_gen_stmts ((Sx.body x.1),y2)) λz=>(bT (aA (ah y2.2) (ah y2.2)&&J) (bq (Sx.op x.1) 3 (ay (cO ((5,(bf x.2.2),0,0,0,0),(z.1.1,z.1.2.1,z.1.a,z.1.b,z.1.c,z.1.e,z.1.f,x.2.1.j,z.1.s),z.2)) λL=>(bT (aA (ah z.2) (ah z.2)&&J) (ck (fA (bf A.2) (ah L.2)) (Z (L.1,(cN L.2 (bf A.2) ((geti sk L.2 (bf A.2)).1,((geti sk L.2 (bf A.2)).2).1,(bf L.2),(((geti sk L.2 (bf A.2)).2).2).2))))))) (bq (aP (ah (Sx.els x.1))) 0 (ck (fA (bf A.2) (ah z.2)) (Z ((z.1.1,z.1.2.1,z.1.a,z.1.b,z.1.c,z.1.e,z.1.f,x.2.1.j,z.1.s),(cN z.2 (bf A.2) ((geti sk z.2 (bf A.2)).1,((geti sk z.2 (bf A.2)).2).1,(bf z.2),(((geti sk z.2 (bf A.2)).2).2).2))))) (ay (cO ((5,0,0,0,0,0),(z.1.1,z.1.2.1,z.1.a,z.1.b,z.1.c,z.1.e,z.1.f,x.2.1.j,z.1.s),z.2)) λD=>(bT (aA (ah z.2) (ah z.2)&&J) (ck (fA (bf A.2) (ah D.2)) (ay (rr06_gen_stmts ((Sx.els x.1),D.1,(cN D.2 (bf A.2) ((geti sk D.2 (bf A.2)).1,((geti sk D.2 (bf A.2)).2).1,(bf D.2),(((geti sk D.2 (bf A.2)).2).2).2)))) λN=>(bT (aA (ah (cN D.2 (bf A.2) ((geti sk D.2 (bf A.2)).1,((geti sk D.2 (bf A.2)).2).1,(bf D.2),(((geti sk D.2 (bf A.2)).2).2).2))) (ah (cN D.2 (bf A.2) ((geti sk D.2 (bf A.2)).1,((geti sk D.2 (bf A.2)).2).1,(bf D.2),(((geti sk D.2 (bf A.2)).2).2).2)))&&J) (ck (fA (bf z.2) (ah N.2)) (Z (N.1,(cN N.2 (bf z.2) ((geti sk N.2 (bf z.2)).1,(bf N.2),((geti sk N.2 (bf z.2)).2).2))))))))))))))))))
def qe (rr06_gen_stmts:ah0->M f?) (rr06_gen_stmt:OR->M f?) (rr06_gen_branches:OR->M f?) (rr06_gen_around:ah1->M f?) (x:S?):M f?:=
 (ay (cO ((x.1.2.1,x.1.d,0,0,0,0),x.2)) λA=>(bT (aA (ah x.2.2) (ah x.2.2)&&J) (ay (rr06_gen_stmts ((Sx.body x.1.1),A)) λz=>(bT (aA (ah A.2) (ah A.2)&&J) (ay (cO ((x.1.a,x.1.d,0,0,0,0),(z.1.1,z.1.2.1,z.1.a,z.1.b,z.1.c,z.1.e,z.1.f,x.2.1.j,z.1.s),z.2)) λD=>(bT (aA (ah z.2) (ah z.2)&&J) (Z D)))))))
mutual
def dX:Nat->ah0->M f?
 |0,_=>U
 |n+1,x=>rT (dX n) (eZ n) (dk n) (dQ n) x
def eZ:Nat->OR->M f?
 |0,_=>U
 |n+1,x=>tf (dX n) (eZ n) (dk n) (dQ n) x
def dk:Nat->OR->M f?
 |0,_=>U
 |n+1,x=>nM (dX n) (eZ n) (dk n) (dQ n) x
def dQ:Nat->ah1->M f?
 |0,_=>U
 |n+1,x=>qe (dX n) (eZ n) (dk n) (dQ n) x
end
def vI (x:(Y Sx)×f?):M f?:=dX fuel x
abbrev B?:=Int×(yK×Y yJ)×eM×tD×Int×(Y (Int×Y mn))×Y mn
def rK (x:y?):M (Ew×i?):=
 (ay (fE x) λy1=>(i_ y1.1 0 (Z (((([]:Y V7),([]:Y F!),([]:Y kK),([]:Y ζ),([]:Y ζ),([]:Y π)),([]:Y M?)),y1)) (ay (vJ x) λy2=>(iter (σ:=(ν)×(yK×Y yJ)×y!) (λA=>(bS A.1.2 (bf A.2.1.2) (bX uu A.2.1.2 A.1.2 λz4=>(bX uu A.2.1.2 A.1.2 λz5=>(ay (vI (z5.2.2.2,(A.a.1,A.a.2.1,A.a.a,A.a.b,A.a.c,A.a.h,z4.2.2.1,0,A.1.1),([]:Y mn))) λL=>(bT (aA (ah ([]:Y mn)) (ah ([]:Y mn))&&J) (ay (cO ((28,0,0,0,0,0),(L.1.1,L.1.2.1,L.1.a,L.1.b,L.1.c,L.1.e,L.1.f,(-1),L.1.s),L.2)) λy7=>(bT (aA (ah L.2) (ah L.2)&&J) (iter (σ:=B?) (λD=>(bS D.1 (bf D.k) (ko sk D.k D.1 λz9=>(ay (kz z9) λN=>(iter (σ:=B?) (λz=>(bS z.1 (bf N) (bX aM N z.1 λz12=>(c5 ((cW z.1),z.2.1,z.a,z.b,(mR z.c (cW z12)),z.h))) (aH (wF ((cW D.1),z.2))))) (0,D.2)))) (ay (bT (be (ah D.e+ah ([(D.c,D.k)])) 32) (c5 ((L.1.s,(cW A.1.2)),D.2.1,D.a,(D.e++([(D.c,D.k)]))))) λr=>Z (cv r)))) (0,A.2.1,A.a,y7.1,(bf y7.1.f),A.d,y7.2)))))))) (aH (A.2.2,0,0)))) ((0,0),x,y2,([]:Y M?))))))
def rJ (x:n?):M (Bool):=
 (iter (σ:=Int) (λz=>(bS z (bf x.1) (bX aM x.1 z λA=>(bq A x.2 (aH J) (c5 (cW z)))) (aH aa))) 0)
def ya (x:n?):M η:=
 (iter (σ:=Int) (λz=>(jn (bS z (bf x.1) (bX aM x.1 z λD=>(aH (fQ D x.2))) (aH aa)) λN=>(aI N (c5 (cW z)) (ay (jn (bS z (bf x.1) (bX aM x.1 z λA=>(aH (decide ((A:Int)=x.2)))) (aH aa)) λL=>(aI L (Z x.1) (bT (dg 0 z&&dg z (ah x.1)) (bT (be (ah ([]:η)+ah (dF (aQ z) x.1)) 8) (bT (be (ah (([]:η)++(dF (aQ z) x.1))+ah ([x.2])) 8) (bT (dg 0 z&&dg z (ah x.1)) (bT (be (ah ((([]:η)++(dF (aQ z) x.1))++([x.2]))+ah (List.drop (aQ z) x.1)) 8) (Z (((([]:η)++(dF (aQ z) x.1))++([x.2]))++(List.drop (aQ z) x.1)))))))))) λr=>Z (cv r))))) 0)
abbrev t?:=(η)×Int
abbrev B!:=η×η
def sM (x:B!):M η:=
 (iter (σ:=t?) (λA=>(bS A.2 (bf x.1) (bX aM x.1 A.2 λL=>(ay (ya (A.1,L)) λy3=>(c5 (y3,(cW A.2))))) (ay (iter (σ:=t?) (λz=>(bS z.2 (bf x.2) (bX aM x.2 z.2 λD=>(ay (ya (z.1,D)) λN=>(c5 (N,(cW z.2))))) (aH z.1))) (A.1,0)) λr=>Z (cv r)))) (([]:η),0))
def nz (x:Int):M (Int):=
 (jn (bS x 1 (aH J) (aH (fQ 100 x))) λz=>(aI z (Z 0) (Z x)))
abbrev q!:=(η)×Y η
def cE (x:k?):M (ν×q!):=
 (bT (be (ah ([]:η)+ah x.2.1) 8) (iter (σ:=Int×xB×(ν)×(ν)×q!) (λz=>(bS z.1 (bf z.2.1.a) (bX (.sl aM) z.2.1.a z.1 λA=>(bT (be (ah ([]:η)+ah A) 8) (bT (be (ah z.h+ah ([(([]:η)++A)])) 24) (c5 ((cW z.1),z.2.1,z.a,z.b,z.c,(z.h++([(([]:η)++A)]))))))) (aH z.d))) (0,x,(0,0),(x.1,x.d),(([]:η)++x.2.1),([]:Y η))))
abbrev P?:=(η)×(Y η)×mn×(ν)×i?
def x_ (x:(mn×Int×Int)×q!):M ((ν×Bool)×q!):=
 (ay (kz x.1.1) λy1=>(iter (σ:=Int×P?) (λz=>(bS z.1 (bf y1) (jn (bX aM y1 z.1 λz4=>(bS z4 0 (aH (J,z.2)) (bX aM y1 z.1 λz5=>(aH ((dg (bf z.2.1) z5),z.2))))) λx3=>(aI x3.1 U (c5 ((cW z.1),x3.2)))) (ay (jn (α:=(Int×Bool×η)×P?) (bq z.b.1 5 (c5 (((z.b.2.1,z.c.2),J),z.2.1,z.a)) (bq z.b.1 1 (aH ((z.b.c,J,([]:η)),z.2)) (bq z.b.1 2 (ko aM z.2.1 z.b.a λz7=>(ko (.sl aM) z.a z.b.a λz8=>(aH ((z7,J,z8),z.2)))) (bq z.b.1 3 (ay (nz z.b.c) λy9=>(ko aM z.2.1 z.b.a λz10=>(ay (vK (y9,z10)) λL=>(ko (.sl aM) z.a z.b.a λz12=>(aH ((L.1,L.2,z12),z.2)))))) (ay (nz z.b.c) λy13=>(ko aM z.2.1 z.b.a λz14=>(ko aM z.2.1 z.b.b λz15=>(ay (tK (y13,z14,z15)) λD=>(ko (.sl aM) z.a z.b.a λz17=>(ko (.sl aM) z.a z.b.b λN=>(ay (sM (z17,N)) λy19=>(aH ((D.1,D.2,y19),z.2))))))))))))) λA=>(bT (be (ah ([]:η)+ah A.1.2.2) 8) (ck (fA A.b.2.1 (ah A.2.1)) (ck (fA A.b.2.1 (ah A.a)) (Z ((((cW A.c.1),A.c.2),A.1.2.1),(cN A.2.1 A.b.2.1 A.1.1),(cN A.a A.b.2.1 (([]:η)++A.1.2.2)))))))) λr=>Z (cv r)))) (0,x.2.1,x.2.2,x.1.1,x.1.2,0,0)))
def oF (x:(Int×Y mn)×k?):M (xB×Bool):=
 (jn (α:=Bool×(Int×Y mn)×xB×i?) (i_ (bf x.a) x.1.1 (aH (J,x.1,x.2,0,0)) (aH ((!decide (((bf x.b):Int)=x.1.1)),x.1,x.2,0,0))) λL=>(aI L.1 (Z ((0,([]:η),([]:Y η),0),aa)) (ay (cE L.a) λy2=>(iter (σ:=Int×(Int×Y mn)×(ν)×(ν)×q!) (λA=>(kq A.1 (bf A.2.1.2) (jn (bS A.a.1 0 (aH (J,A.2)) (aH ((dg (bf A.2.1.2) A.a.1),A.2))) λz=>(aI z.1 (aH ((0,([]:η),([]:Y η),0),aa)) (bX sk z.2.1.2 z.a.1 λN=>(ay (qS N.1) λy6=>(aI (!y6) (aH ((z.a.1,z.c,z.h,z.a.2),J)) (bq A.1 (bf z.2.1.2) (aH ((0,([]:η),([]:Y η),0),aa)) (ay (x_ ((N,z.a),z.g)) λD=>(bT (aA (ah z.h) (ah D.2.2)&&(aA (ah z.c) (ah D.2.1)&&J)) (aI (!D.1.2) (aH ((0,([]:η),([]:Y η),0),aa)) (c5 ((cW A.1),z.2.1,D.1.1,z.b,D.2))))))))))) (aH ((0,([]:η),([]:Y η),0),aa)))) (0,L.2.1,y2.1,L.d,y2.2)))))
abbrev q?:=Int×Int×jY×h?
abbrev C!:=jY×h?
def sK (x:b?):M ub:=
 (iter (σ:=Int×eM×Int×Int×Y (Int×η)) (λD=>(bS D.1 (bf D.2.1.2.1) (bT (be (ah D.g+ah ([((-1),([]:η))])) 32) (c5 ((cW D.1),D.2.1,D.a,D.b,(D.g++([((-1),([]:η))]))))) (ay (iter (σ:=Int×eM×Int×Int×jY×θ) (λA=>(bS A.1 (bf A.2.1.b) (bT (be (ah A.h+ah ([aa])) 1) (c5 ((cW A.1),A.2.1,A.a,A.b,A.c,(A.h++([aa]))))) (ay (iter (σ:=Int×eM×q?) (λz=>(bS z.1 (bf z.2.1.c) (jn (α:=eM×Int×Int×ey×C!) (bq z.1 0 (aH (z.2.1,z.a,z.b,(1,0,aa),z.g)) (aH (z.2.1,z.a,z.b,(0,0,aa),z.g))) λL=>(bT (be (ah L.k+ah ([L.b])) 24) (c5 ((cW z.1),L.1,L.2.1,L.a,L.c,L.e,(L.k++([L.b])))))) (aH (z.c,z.b,z.h)))) (0,A.2.1,A.a,A.b,A.c,A.h,([]:Y ey))) λr=>Z (cv r)))) (0,D.2.1,D.a,D.b,D.g,([]:θ))) λr=>Z (cv r)))) (0,x,0,(-1),([]:Y k!)))
def sL (x:eM×v?):M (Bool):=
 (iter (σ:=Int×eM×v?) (λz=>(bS z.1 (bf z.2.1.a) (jn (bX nX z.2.1.a z.1 λL=>(bS L.2 0 (aH (J,z.2)) (bX nX z.2.1.a z.1 λD=>(aH ((dg (bf z.2.1.2.1) D.2),z.2))))) λA=>(aI A.1 (aH aa) (c5 ((cW z.1),A.2)))) (ay (jn (bq (bf z.a) (bf z.2.1.2.1) (bq (bf z.c) (bf z.2.1.b) (aH (decide (((bf z.h):Int)=(bf z.2.1.c)))) (aH aa)) (aH aa)) λN=>(Z N)) λr=>Z (cv r)))) (0,x))
def rI (x:ν):M (Bool):=
 (jn (kq 0 x.1 (aH (fQ x.1 x.2)) (aH aa)) λz=>(Z z))
def vH (x:eM×i?):M (Bool):=
 (jn (bq x.2.1 1 (aH ((decide ((x.2.1:Int)=1)),x.1)) (bq x.2.1 2 (aH ((decide ((x.2.1:Int)=2)),x.1)) (bq x.2.1 5 (aH ((decide ((x.2.1:Int)=5)),x.1)) (bq x.2.1 12 (aH ((decide ((x.2.1:Int)=12)),x.1)) (bq x.2.1 13 (aH ((decide ((x.2.1:Int)=13)),x.1)) (bq x.2.1 14 (aH ((decide ((x.2.1:Int)=14)),x.1)) (aH ((decide ((x.2.1:Int)=15)),x.1)))))))) λx1=>(aI x1.1 (Z (decide ((x.2.2:Int)=(-1)))) (jn (bq x.2.1 3 (aH ((decide ((x.2.1:Int)=3)),x1.2)) (aH ((decide ((x.2.1:Int)=4)),x1.2))) λx2=>(aI x2.1 (ay (rI (x.2.2,(bf x2.2.1))) λy3=>(Z y3)) (jn (bq x.2.1 6 (aH ((decide ((x.2.1:Int)=6)),x2.2)) (aH ((decide ((x.2.1:Int)=7)),x2.2))) λL=>(aI L.1 (jn (ay (rI (x.2.2,(bf L.a))) λy6=>(aI y6 (bX tY L.a x.2.2 λz7=>(aH (!z7.2))) (aH aa))) λx5=>(Z x5)) (jn (bq x.2.1 8 (aH ((decide ((x.2.1:Int)=8)),L.2)) (bq x.2.1 9 (aH ((decide ((x.2.1:Int)=9)),L.2)) (bq x.2.1 10 (aH ((decide ((x.2.1:Int)=10)),L.2)) (aH ((decide ((x.2.1:Int)=11)),L.2))))) λD=>(aI D.1 (jn (ay (rI (x.2.2,(bf D.a))) λy10=>(aI y10 (bX tY D.a x.2.2 λz11=>(aH z11.2)) (aH aa))) λx9=>(Z x9)) (jn (bq x.2.1 16 (aH ((decide ((x.2.1:Int)=16)),D.2)) (bq x.2.1 17 (aH ((decide ((x.2.1:Int)=17)),D.2)) (bq x.2.1 18 (aH ((decide ((x.2.1:Int)=18)),D.2)) (aH ((decide ((x.2.1:Int)=19)),D.2))))) λA=>(aI A.1 (ay (rI (x.2.2,(bf A.b))) λy13=>(Z y13)) (jn (bq x.2.1 20 (aH ((decide ((x.2.1:Int)=20)),A.2)) (aH ((decide ((x.2.1:Int)=21)),A.2))) λz=>(aI z.1 (ay (rI (x.2.2,(bf z.e))) λy15=>(Z y15)) (jn (bq x.2.1 22 (aH ((decide ((x.2.1:Int)=22)),z.2)) (aH ((decide ((x.2.1:Int)=23)),z.2))) λN=>(aI N.1 (ay (rI (x.2.2,(bf N.c))) λy17=>(Z y17)) (Z aa)))))))))))))))
abbrev N?:=eM×ub×Int×i?
def lx (x:N?):M (Bool):=
 (jn (ay (sL (x.1,x.2.1)) λy2=>(aI (!y2) (aH (J,x.1,x.2.1)) (ay (rI (x.a,(bf x.1.c))) λy3=>(aI (!y3) (aH (J,x.1,x.2.1)) (ay (vH (x.1,x.d)) λy4=>(aH ((!y4),x.1,x.2.1))))))) λD=>(aI D.1 (Z aa) (bX iB D.h x.a λL=>(bq x.b 1 (Z (decide ((L.1:Int)=1))) (bq x.b 17 (jn (α:=Bool) (bq L.1 4 (bq L.2.1 x.g (bX nX D.2.1.a x.g λz7=>(bX eA D.a z7.2 λz8=>(aH (decide ((z8.1:Int)=(-1)))))) (aH aa)) (aH aa)) λx6=>(Z x6)) (i_ L.1 2 (Z aa) (bq x.b 6 (bX eA D.a x.g λz9=>(Z (decide ((z9.1:Int)=(-1))))) (bq x.b 10 (jn (α:=Bool) (bX eA D.a x.g λz11=>(bq z11.1 (-1) (bX eA D.a x.g λz12=>(aH (decide (((bf z12.2):Int)=0)))) (aH aa))) λx10=>(Z x10)) (bq x.b 8 (jn (α:=Bool) (bX eA D.a x.g λz14=>(bq z14.1 (-1) (bX eA D.a x.g λz15=>(ay (rJ (z15.2,x.a)) λy16=>(aH (!y16)))) (aH aa))) λx13=>(Z x13)) (jn (bq x.b 7 (aH ((decide ((x.b:Int)=7)),D.2.1,D.2.2,L)) (aH ((decide ((x.b:Int)=11)),D.2.1,D.2.2,L))) λz=>(aI z.1 (bX eA z.a.1 x.g λz18=>(Z (decide ((z18.1:Int)=x.a)))) (bq x.b 9 (bX eA z.a.1 x.g λz19=>(ay (rJ (z19.2,x.a)) λy20=>(Z y20))) (bq x.b 12 (Z (decide ((z.a.2.1:Int)=(-1)))) (bq x.b 13 (Z (decide ((z.a.2.1:Int)=x.a))) (bq x.b 14 (Z (!z.h)) (bq x.b 15 (Z z.h) (jn (bq x.b 16 (aH ((decide ((x.b:Int)=16)),z.2.1,z.a)) (bq x.b 18 (aH ((decide ((x.b:Int)=18)),z.2.1,z.a)) (aH ((decide ((x.b:Int)=19)),z.2.1,z.a)))) λA=>(aI A.1 (bX nX A.2.1.a x.g λz22=>(bX eA A.a z22.2 λz23=>(Z (decide ((z23.1:Int)=x.a))))) (bq x.b 20 (jn (i_ x.g x.a (bX iB A.h x.g λz25=>(aH (decide ((z25.1:Int)=0)))) (aH aa)) λx24=>(Z x24)) (bq x.b 21 (jn (i_ x.g x.a (bX iB A.h x.g λz27=>(aH (decide ((z27.1:Int)=5)))) (aH aa)) λx26=>(Z x26)) (bq x.b 22 (bX (.bool) A.c x.g λz28=>(Z (!z28))) (bq x.b 23 (bX (.bool) A.c x.g λN=>(Z N)) (Z J)))))))))))))))))))))))
def o7 (x:ub×Int):M η:=
 (iter (σ:=Int×ub×η) (λz=>(bS z.1 (bf z.2.1.d) (jn (α:=ub×η) (jn (bX iB z.2.1.d z.1 λL=>(bq L.1 3 (bX iB z.2.1.d z.1 λD=>(aH ((decide ((D.2.1:Int)=x.2)),z.2))) (aH (aa,z.2)))) λA=>(aI A.1 (bT (be (ah A.2.2+ah ([z.1])) 8) (aH (A.2.1,(A.2.2++([z.1]))))) (aH A.2))) λN=>(c5 ((cW z.1),N))) (aH z.2.2))) (0,x.1,([]:η)))
def rH (x:n?):M η:=
 (iter (σ:=k!) (λz=>(bS z.1 (bf x.1) (jn (α:=η) (bX aM x.1 z.1 λD=>(i_ D x.2 (bX aM x.1 z.1 λA=>(bT (be (ah z.2+ah ([A])) 8) (aH (z.2++([A]))))) (aH z.2))) λL=>(c5 ((cW z.1),L))) (aH z.2))) (0,([]:η)))
def iK (x:v?):M (Int×C!):=
 (bT (be (ah ([]:θ)+ah x.a) 1) (bT (be (ah ([]:Y ey)+ah x.d) 24) (iter (σ:=Int×ub×q?) (λz=>(bS z.1 (bf z.2.1.1) (bX eA z.2.1.1 z.1 λD=>(bX eA z.2.1.1 z.1 λA=>(bT (be (ah ([]:η)+ah A.2) 8) (bT (be (ah z.c+ah ([(D.1,(([]:η)++A.2))])) 32) (c5 ((cW z.1),z.2.1,z.a,z.b,(z.c++([(D.1,(([]:η)++A.2))])),z.h)))))) (aH z.d))) (0,x,0,x.2.1,([]:Y k!),(([]:θ)++x.a),(([]:Y ey)++x.d)))))
def ny (x:ν×C!):M (η×C!):=
 (iter (σ:=Int×jY×(θ)×(Y ey)×k!) (λz=>(bS z.1 (bf z.b) (jn (α:=jY×(θ)×(Y ey)×k!) (jn (ko iB z.b z.1 λL=>(bq L.1 3 (ko iB z.b z.1 λD=>(aH ((decide ((D.2.1:Int)=x.1.2)),z.2))) (aH (aa,z.2)))) λA=>(aI A.1 (bT (be (ah A.h+ah ([z.1])) 8) (aH (A.2.1,A.a,A.b,A.c,(A.h++([z.1]))))) (aH A.2))) λN=>(c5 ((cW z.1),N))) (aH (z.h,z.2.1,z.a,z.b)))) (0,x.2.1,x.a,x.d,x.1.1,([]:η)))
def kx (x:ν×C!):M η:=ay (ny x) λy=>same y.2 x.2 (Z y.1)
abbrev Q!:=eM×ub×s?
abbrev U?:=Int×q?
def qH (x:Q!):M (ub×u?):=
 (ay (lx (x.1,x.2.1,x.a,x.b,x.c)) λy1=>(aI (!y1) (Z ((([]:Y k!),0,([]:θ),([]:Y ey)),0,aa)) (ay (iK x.2.1) λL=>(jn (α:=U?) (bq x.b 1 (ck (fA x.a (ah L.d)) (aH (0,L.1,0,L.2.1,L.a,(cN L.d x.a (2,(geti iB L.d x.a).2))))) (bq x.b 2 (ck (fA x.a (ah L.d)) (aH (0,L.1,0,L.2.1,L.a,(cN L.d x.a (5,(geti iB L.d x.a).2))))) (jn (α:=Bool×eM×q?) (bq x.b 6 (aH ((decide ((x.b:Int)=6)),x.1,L.1,0,L.2)) (aH ((decide ((x.b:Int)=10)),x.1,L.1,0,L.2))) λN=>(aI N.1 (ck (fA x.c (ah N.c)) (aH (0,N.a,N.b,(cN N.c x.c (x.a,(geti eA N.c x.c).2)),N.h))) (jn (bq x.b 7 (aH ((decide ((x.b:Int)=7)),N.2)) (aH ((decide ((x.b:Int)=11)),N.2))) λz=>(aI z.1 (ck (fA x.c (ah z.c)) (aH (0,z.a,z.b,(cN z.c x.c ((-1),(geti eA z.c x.c).2)),z.h))) (bq x.b 8 (ko eA z.c x.c λz6=>(ay (sM (z6.2,[x.a])) λy7=>(ck (fA x.c (ah z.c)) (aH (0,z.a,z.b,(cN z.c x.c ((geti eA z.c x.c).1,y7)),z.h))))) (bq x.b 9 (ko eA z.c x.c λz8=>(ay (rH (z8.2,x.a)) λy9=>(ck (fA x.c (ah z.c)) (aH (0,z.a,z.b,(cN z.c x.c ((geti eA z.c x.c).1,y9)),z.h))))) (bq x.b 12 (aH (0,x.a,z.d)) (bq x.b 13 (aH (0,(-1),z.d)) (bq x.b 14 (ck (fA x.a (ah z.k)) (aH (0,z.a,z.b,z.c,z.e,(cN z.k x.a ((geti iB z.k x.a).1,((geti iB z.k x.a).2).1,J))))) (bq x.b 15 (ck (fA x.a (ah z.k)) (aH (0,z.a,z.b,z.c,z.e,(cN z.k x.a ((geti iB z.k x.a).1,((geti iB z.k x.a).2).1,aa))))) (bq x.b 16 (bX nX z.2.1.a x.c λz10=>(ck (fA z10.2 (ah z.c)) (ck (fA x.a (ah z.k)) (ck (fA x.a (ah (cN z.k x.a (3,(geti iB z.k x.a).2)))) (aH (0,z.a,z.b,(cN z.c z10.2 ((-1),(geti eA z.c z10.2).2)),z.e,(cN (cN z.k x.a (3,(geti iB z.k x.a).2)) x.a ((geti iB (cN z.k x.a (3,(geti iB z.k x.a).2)) x.a).1,x.c,((geti iB (cN z.k x.a (3,(geti iB z.k x.a).2)) x.a).2).2)))))))) (bq x.b 17 (bX nX z.2.1.a x.c λz11=>(ck (fA z11.2 (ah z.c)) (ck (fA x.a (ah z.k)) (ck (fA x.a (ah (cN z.k x.a (2,(geti iB z.k x.a).2)))) (aH (0,z.a,z.b,(cN z.c z11.2 (x.a,(geti eA z.c z11.2).2)),z.e,(cN (cN z.k x.a (2,(geti iB z.k x.a).2)) x.a ((geti iB (cN z.k x.a (2,(geti iB z.k x.a).2)) x.a).1,0,((geti iB (cN z.k x.a (2,(geti iB z.k x.a).2)) x.a).2).2)))))))) (bq x.b 18 (ay (kx ((z.a,x.c),z.g)) λy12=>(bS 0 (bf y12) (bX aM y12 0 λz13=>(jn (ay (rJ (y12,x.h)) λy15=>(aI y15 (aH (x.h,z.2.2)) (aH (z13,z.2.2)))) λD=>(ck (fA D.1 (ah D.h)) (aH (D.1,D.2.1,D.a,D.b,D.c,(cN D.h D.1 (4,(geti iB D.h D.1).2))))))) (aH ((-1),z.2.2)))) (bq x.b 19 (ay (kx ((z.a,x.c),z.g)) λy16=>(iter (σ:=U?) (λA=>(bS A.1 (bf y16) (bX aM y16 A.1 λz18=>(ck (fA z18 (ah A.h)) (c5 ((cW A.1),A.2.1,A.a,A.b,A.c,(cN A.h z18 (4,(geti iB A.h z18).2)))))) (aH (cv ((bf y16),A.2))))) (0,z.2.2))) (bq x.b 20 (ck (fA x.c (ah z.k)) (aH (0,z.a,z.b,z.c,z.e,(cN z.k x.c (1,(geti iB z.k x.c).2))))) (bq x.b 22 (ck (fA x.c (ah z.e)) (aH (0,z.a,z.b,z.c,(cN z.e x.c J),z.k))) (aH (0,z.2.2)))))))))))))))))))) λx3=>(Z ((x3.b,x3.2.1,x3.g),x3.1,J))))))
abbrev L?:=(η)×η
def vG (x:y!):M Ab:=
 (ay (ky x) λy1=>(aI (!y1) (Z ((([]:Y k!),0,([]:θ),([]:Y ey)),([]:η),([]:η),([]:Y xB))) (ay (sK x.1) λy2=>(iter (σ:=Int×Ew×Int×ub×η) (λD=>(bS D.1 (bf D.2.1.1.1) (bX mA D.2.1.1.1 D.1 λz4=>(bT (be (ah D.g+ah ([z4.2.2.2.2])) 8) (c5 ((cW D.1),D.2.1,D.a,D.b,(D.g++([z4.2.2.2.2])))))) (ay (iter (σ:=Int×Ew×Int×ub×L?) (λA=>(bS A.1 (bf A.2.1.1.b) (bT (be (ah A.h+ah ([0])) 8) (c5 ((cW A.1),A.2.1,A.a,A.b,A.c,(A.h++([0]))))) (ay (iter (σ:=Int×Ew×Int×h!) (λz=>(bS z.1 (bf z.2.1.2) (pu z.1 z.2.1.2 (lt ((geti yO z.2.1.2 z.1).1) λN=>(bT (dg 0 N&&dg N N&&be (aQ N) 8) (pu z.1 z.2.1.2 (lt ((geti yO z.2.1.2 z.1).1) λL=>(bT (dg 0 L&&dg L L&&be (aQ L) 24) (bT (be (ah z.k+ah ([(0,(aF (aQ N) (0:Int)),(aF (aQ L) ([]:η)),0)])) 64) (c5 ((cW z.1),z.2.1,z.a,z.b,z.c,z.e,(z.k++([(0,(aF (aQ N) (0:Int)),(aF (aQ L) ([]:η)),0)]))))))))))) (aH z.d))) (0,A.2.1,A.a,A.b,A.c,A.h,([]:Y xB))) λr=>Z (cv r)))) (0,D.2.1,D.a,D.b,D.g,([]:η))) λr=>Z (cv r)))) (0,x,0,y2,([]:η))))))
def xZ (x:Ew×h!):M (Bool):=
 (jn (ay (ky x.1) λy2=>(aI (!y2) (aH (J,x)) (ay (sL (x.1.1,x.2.1)) λy3=>(aI (!y3) (aH (J,x)) (i_ (bf x.a) (bf x.1.1.1) (aH (J,x)) (i_ (bf x.b) (bf x.1.1.b) (aH (J,x)) (aH ((!decide (((bf x.g):Int)=(bf x.1.2))),x)))))))) λL=>(aI L.1 (Z aa) (iter (σ:=Int×Ew×h!) (λz=>(bS z.1 (bf z.2.1.2) (bX fe z.h z.1 λA=>(jn (bS A.1 0 (aH (J,z.2)) (bX yO z.2.1.2 z.1 λz7=>(kq (bf z7.2) A.1 (aH (J,z.2)) (bX yO z.2.1.2 z.1 λz8=>(i_ (bf A.2.1) z8.1 (aH (J,z.2)) (bX yO z.2.1.2 z.1 λN=>(aH ((!decide (((bf A.a):Int)=N.1)),z.2)))))))) λD=>(aI D.1 (aH aa) (c5 ((cW z.1),D.2))))) (aH J))) (0,L.2))))
def xX (x:Int):M (Int):=
 (jn (α:=Bool×η) (bS x 6 (aH (J,[3,3,4,4,5,6,7,8,9,10,11,12,13,14,15,16,18,19,20,21,22,23,2])) (aH ((fQ 28 x),[3,3,4,4,5,6,7,8,9,10,11,12,13,14,15,16,18,19,20,21,22,23,2]))) λz=>(aI z.1 (Z 0) (ko aM z.2 (bA .i64 (x-6)) λA=>(Z A))))
def tJ (x:mn×k?):M (Int):=
 (jn (bq x.1.1 6 (aH ((decide ((x.1.1:Int)=6)),x)) (aH ((decide ((x.1.1:Int)=27)),x))) λz=>(aI z.1 (Z z.2.1.a) (bq x.1.1 7 (bX aM z.b z.2.1.b λL=>(ay (sN (L,z.2.1.c)) λy3=>(Z (bA .i64 (z.2.1.a+y3))))) (bq x.1.1 9 (bX aM z.b z.2.1.b λD=>(ay (sN (D,z.2.1.c)) λN=>(Z (bA .i64 (z.2.1.2.1+N))))) (jn (bq x.1.1 10 (aH ((decide ((x.1.1:Int)=10)),z.2.1)) (bq x.1.1 17 (aH ((decide ((x.1.1:Int)=17)),z.2.1)) (bq x.1.1 18 (aH ((decide ((x.1.1:Int)=18)),z.2.1)) (bq x.1.1 19 (aH ((decide ((x.1.1:Int)=19)),z.2.1)) (bq x.1.1 20 (aH ((decide ((x.1.1:Int)=20)),z.2.1)) (aH ((decide ((x.1.1:Int)=28)),z.2.1))))))) λA=>(aI A.1 (Z (-1)) (Z A.a)))))))
def o6 (x:Ew×Ab×Int):M (gx×Bool):=
 (jn (α:=Bool×Ew×Ab×Int×s?) (ay (xZ (x.1,x.2.1)) λy2=>(aI (!y2) (aH (J,x.1,x.2.1,0,0,0,0,0)) (bS x.2.2 0 (aH (J,x.1,x.2.1,0,0,0,0,0)) (aH ((dg (bf x.1.2) x.2.2),x.1,x.2.1,0,0,0,0,0))))) λx1=>(aI x1.1 (Z ((0,0,0,0,0,([]:η),([]:η)),aa)) (bX fe x1.a.d x.2.2 λz3=>(bX yO x1.2.1.2 x.2.2 λz4=>(bX sk z4.2 z3.1 λD=>(bX iB x1.a.1.d x.2.2 λz6=>(bq z6.1 1 (Z ((x.2.2,1,(-1),0,(-1),([]:η),([]:η)),J)) (bq z6.1 4 (bX iB x1.a.1.d x.2.2 λz7=>(Z ((x.2.2,17,z7.2.1,0,D.h,([]:η),([]:η)),J))) (bq z6.1 2 (ay (xX D.1) λy8=>(ay (tJ (D,z3)) λy9=>(bq y8 0 (Z ((0,0,0,0,0,([]:η),([]:η)),aa)) (jn (α:=Gq×xB×mn×Gq×η) (bq D.1 10 (bX (.sl aM) z3.a D.2.1 λz11=>(bT (be (ah (z11:η)) 8) (aH (x1.d,z3,D,(x.2.2,y8,y9,0,D.h),z11)))) (jn (α:=Bool×Gq×xB×mn×Int×s?) (bq D.1 7 (aH ((decide ((D.1:Int)=7)),x1.d,z3,D,x.2.2,y8,y9,0,D.h)) (aH ((decide ((D.1:Int)=9)),x1.d,z3,D,x.2.2,y8,y9,0,D.h))) λz=>(aI z.1 (bX (.sl aM) z.a.a z.b.b λz13=>(bT (be (ah (z13:η)) 8) (aH (z.2.1,z.a,z.b,z.g,z13)))) (aH (z.2.1,z.a,z.b,z.g,([]:η)))))) λN=>(jn (α:=Gq×Gq×L?) (jn (bq N.a.1 8 (aH (J,N)) (bq N.a.1 9 (aH (J,N)) (aH ((decide ((N.a.1:Int)=26)),N)))) λA=>(aI A.1 (bX (.sl aM) A.a.a A.b.a λz16=>(bT (be (ah (z16:η)) 8) (aH (A.2.1,A.c,A.h,z16)))) (aH (A.2.1,A.c,A.h,([]:η))))) λL=>(Z ((L.2.1.1,L.2.1.2.1,L.2.1.a,L.2.1.b,L.2.1.g,L.2.2),J))))))) (Z ((0,0,0,0,0,([]:η),([]:η)),aa)))))))))))
def oh (x:b?):M gz:=
 (ay (sK x) λD=>(bT (dg 0 (bf x.b)&&dg (bf x.b) (bf x.b)&&be (aQ (bf x.b)) 8) (bT (dg 0 (bf x.c)&&dg (bf x.c) (bf x.c)&&be (aQ (bf x.c)) 8) (iter (σ:=Int×eM×Int×P!) (λz=>(bS z.1 (bf z.2.1.1) (bX mA z.2.1.1 z.1 λA=>(bT (be (ah z.c+ah ([A.2.2.2.2])) 8) (c5 ((cW z.1),z.2.1,z.a,z.b,(z.c++([A.2.2.2.2])),z.h)))) (aH z.d))) (0,x,0,D,([]:η),(aF (aQ (bf x.b)) (0:Int)),(aF (aQ (bf x.c)) (0:Int)))))))
def xW (x:eM×P!):M (Bool):=
 (jn (ay (sL (x.1,x.2.1)) λz=>(aI z (bq (bf x.a) (bf x.1.1) (bq (bf x.b) (bf x.1.b) (aH (decide (((bf x.g):Int)=(bf x.1.c)))) (aH aa)) (aH aa)) (aH aa))) λA=>(Z A))
def E8 (x:ν):M (Bool):=
 (jn (kq 0 x.1 (aH (fQ x.1 x.2)) (aH aa)) λz=>(Z z))
def oZ (x:n?):M (Bool):=
 (iter (σ:=Int) (λz=>(bS z (bf x.1) (jn (bX aM x.1 z λN=>(bS N 1 (aH J) (bX aM x.1 z λL=>(kq x.2 L (aH J) (bS 0 z (bX aM x.1 z λD=>(bX aM x.1 (bA .i64 (z-1)) λA=>(aH (dg D A)))) (aH aa)))))) λx2=>(aI x2 (aH aa) (c5 (cW z)))) (aH J))) 0)
abbrev K!:=gz×c?
def vE (x:K!):M (Bool):=
 (bq x.a 3 (bX aM x.1.2.1 x.b λL=>(Z (decide ((x.c:Int)=L)))) (bq x.a 23 (bX aM x.1.a x.b λD=>(Z (decide ((x.c:Int)=D)))) (bq x.a 5 (jn (bq x.c 0 (aH J) (aH (decide ((x.c:Int)=1)))) λx3=>(Z x3)) (jn (bq x.a 4 (aH ((decide ((x.a:Int)=4)),x)) (aH ((decide ((x.a:Int)=22)),x))) λz=>(aI z.1 (Z J) (bq x.a 18 (ay (o7 (z.2.1.1,z.c)) λA=>(bq (bf A) 0 (Z (decide ((z.e:Int)=(-1)))) (jn (kq 0 z.e (bS z.e (bf z.2.1.1.d) (ay (rJ (A,z.e)) λy7=>(aH y7)) (aH aa)) (aH aa)) λx6=>(Z x6)))) (bq x.a 19 (ay (o7 (z.2.1.1,z.c)) λN=>(Z (decide ((z.e:Int)=(bf N))))) (Z (decide ((z.e:Int)=0))))))))))
abbrev G?:=eM×gz×gx×Int
def sJ (x:eM×K!):M (gz×Bool):=
 (jn (α:=Bool×G?) (ay (xW (x.1,x.2.1)) λy2=>(aI (!y2) (aH (J,x.1,x.2.1,x.2.2,0)) (ay (E8 (x.a,(bf x.1.c))) λy3=>(aI (!y3) (aH (J,x.1,x.2.1,x.2.2,0)) (bS x.b 1 (aH (J,x.1,x.2.1,x.2.2,0)) (bS 23 x.b (aH (J,x.1,x.2.1,x.2.2,0)) (ay (lx (x.1,x.2.1.1,x.a,x.b,x.c)) λy4=>(aH ((!y4),x.1,x.2.1,x.2.2,0))))))))) λx1=>(aI x1.1 (Z (((([]:Y k!),0,([]:θ),([]:Y ey)),([]:η),([]:η),([]:η)),aa)) (jn (α:=G?) (jn (bq x1.b.2.1 1 (aH (J,x1.2)) (aH ((decide ((x1.b.2.1:Int)=2)),x1.2))) λx6=>(aI x6.1 (i_ x6.b.c (-1) (c5 (((([]:Y k!),0,([]:θ),([]:Y ey)),([]:η),([]:η),([]:η)),aa)) (aH x6.2)) (jn (ay (E8 (x6.b.c,(bf x6.2.1.h))) λy8=>(aI (!y8) (aH (J,x6.2)) (bX qO x6.2.1.h x6.b.c λz9=>(aH ((!decide ((z9.1:Int)=x6.b.1)),x6.2))))) λx7=>(aI x7.1 (c5 (((([]:Y k!),0,([]:θ),([]:Y ey)),([]:η),([]:η),([]:η)),aa)) (aH x7.2))))) λx5=>(jn (bq x5.a.2.1 3 (aH (J,x5)) (aH ((decide ((x5.a.2.1:Int)=4)),x5))) λx10=>(jn (bS 0 (bf x10.b.e) (i_ x10.b.2.1 5 (aI x10.1 (bX mA x10.2.1.1 x10.b.a λz12=>(aH ((!(!decide ((z12.2.2.1:Int)=0))),x10.2))) (aH (J,x10.2))) (aH (aa,x10.2))) (aH (aa,x10.2))) λx11=>(aI x11.1 (Z (((([]:Y k!),0,([]:θ),([]:Y ey)),([]:η),([]:η),([]:η)),aa)) (jn (bS 0 (bf x11.b.k) (i_ x11.b.2.1 4 (aH ((!decide ((x11.b.2.1:Int)=22)),x11.2)) (aH (aa,x11.2))) (aH (aa,x11.2))) λL=>(aI L.1 (Z (((([]:Y k!),0,([]:θ),([]:Y ey)),([]:η),([]:η),([]:η)),aa)) (jn (bX aM L.a.d L.b.1 λz15=>(ay (oZ (L.b.e,z15)) λy16=>(aI (!y16) (aH (J,L.2)) (bX aM L.a.d L.b.1 λz17=>(ay (oZ (L.b.k,z17)) λy18=>(aI (!y18) (aH (J,L.2)) (ay (vE (L.a,L.b)) λy19=>(aH ((!y19),L.2))))))))) λz=>(aI z.1 (Z (((([]:Y k!),0,([]:θ),([]:Y ey)),([]:η),([]:η),([]:η)),aa)) (bT (be (ah ([]:η)+ah z.a.2.1) 8) (bT (be (ah ([]:η)+ah z.a.a) 8) (bT (be (ah ([]:η)+ah z.a.d) 8) (jn (α:=Int×eM×gz×gx×Int×Int×e?) (bq z.b.2.1 18 (aH (z.b.b,z.2.1,z.a,z.b,z.g,0,(([]:η)++z.a.2.1),(([]:η)++z.a.a),(([]:η)++z.a.d))) (aH ((-1),z.2.1,z.a,z.b,z.g,0,(([]:η)++z.a.2.1),(([]:η)++z.a.a),(([]:η)++z.a.d)))) λA=>(ay (qH (A.2.1,A.a.1,A.b.1,A.b.2.1,A.b.a,A.1)) λy21=>(jn (bq A.b.2.1 4 (ck (fA A.b.a (ah A.f)) (aH (A.b,A.c,y21.1,(cN A.f A.b.a A.b.b),A.p))) (aH (A.b,A.c,y21.1,A.k))) λD=>(jn (bq D.1.2.1 22 (ck (fA D.1.a (ah D.c)) (aH (D.1,D.2.1,D.a,D.b,(cN D.c D.1.a D.1.b),D.h))) (aH D)) λN=>(ko aM N.h N.1.1 λz24=>(ck (fA N.1.1 (ah N.h)) (Z ((N.a,N.b,N.c,(cN N.h N.1.1 (cW z24))),J)))))))))))))))))))))
def sI (x:(Y gx)×Int×k!):M (Bool):=
 (iter (σ:=Int) (λA=>(bS A (bf x.d) (iter (σ:=Int×Bool×Int) (λz=>(bS z.2.2 x.2.1 (jn (bX jF x.1 z.2.2 λz4=>(i_ z4.1 x.a (aH (z.1,z.2.1)) (jn (aI z.2.1 (aH J) (bX aM x.d A λz6=>(bq z.1 z6 (bX jF x.1 z.2.2 λN=>(bq N.2.1 3 (aH J) (bX jF x.1 z.2.2 λL=>(aH (decide ((L.2.1:Int)=23)))))) (aH aa)))) λx5=>(aH ((cW z.1),x5))))) λD=>(c5 (D.1,D.2,(cW z.2.2)))) (ay (aI (!z.2.1) (aH aa) (c5 (cW A))) λr=>Z (cv r)))) (0,aa,0)) (aH J))) 0)
abbrev n!:=eM×Y gx
def vF (x:n!):M ν:=
 (bS 400 (bf x.2) (Z (0,2)) (ay (iv x.1) λy1=>(aI (!y1) (Z (0,1)) (ay (oh x.1) λy2=>(iter (σ:=Int×(eM×Y gx)×P!) (λz=>(bS z.1 (bf z.2.1.2) (bX jF z.2.1.2 z.1 λA=>(ay (sJ (z.2.1.1,z.2.2,A)) λD=>(jn (aI (!D.2) (aH (J,z.2.1,z.2.2,D.1)) (ay (sI (z.2.1.2,z.1,A.1,A.e)) λy7=>(aI (!y7) (aH (J,z.2.1,z.2.2,D.1)) (ay (sI (z.2.1.2,z.1,A.1,A.k)) λN=>(aH ((!N),z.2.1,z.2.2,D.1)))))) λL=>(aI L.1 (aH (z.1,12)) (c5 ((cW z.1),L.2.1,L.d)))))) (aH (0,0)))) (0,x,y2))))))
def KG {W V:Type} (i:Int) (t1:R->(η)->(Y η)->W) (t2:W->V) (t3:V->xB->Y xB) (x6:Int) (z:Ew×ub×(ν)×Int×Gq×gx×(ν)×(η)×(η)×R×(η)×Y η):M Gp:=
 (jn (jn (i_ z.e.2.1 16 (aH ((!decide ((z.e.2.1:Int)=2)),z.1,z.2.1,z.a,z.b,z.c,z.e,(x6,z.l,z.v,(cW z.f.2)),z.j,z.m,(t1 z.o z.l z.v))) (aH (aa,z.1,z.2.1,z.a,z.b,z.c,z.e,(x6,z.l,z.v,(cW z.f.2)),z.j,z.m,(t1 z.o z.l z.v)))) λA=>(aI A.1 (bX yO A.2.1.2 A.b.1 λL=>(ay (oF (L,A.j)) λN=>(aH (A.a,A.b,A.c,A.e,A.f,N.1,A.m,A.o,(t2 A.w))))) (aH (A.a,A.b,A.c,A.e,A.f,A.j,A.m,A.o,(t2 A.w))))) λD=>(bq D.2.1.1 i (Z ((D.1,D.f,D.j,(t3 D.s D.e)),D.c,J)) U))
abbrev w!:=Ew×Ab×i?
def SG (i:Int) (cp:h!->M (Int×jY×(θ)×(Y ey)×(η)×(η)×R×(η)×Y η)) (N ev:R->Int) (k:Int->(Ew×ub×(ν)×Int×Gq×gx×(ν)×(η)×(η)×R×(η)×Y η)->M Gp) (x:w!):M Gp:=
 (ay (o6 (x.1,x.2.1,x.a)) λD=>(aI (!D.2) (Z (((([]:Y k!),0,([]:θ),([]:Y ey)),([]:η),([]:η),([]:Y xB)),(0,0,0,0,0,([]:η),([]:η)),aa)) (ay (qH (x.1.1,x.2.1.1,x.a,D.1.2.1,D.1.a,x.d)) λy2=>(aI (!y2.2.2) (Z (((([]:Y k!),0,([]:θ),([]:Y ey)),([]:η),([]:η),([]:Y xB)),(0,0,0,0,0,([]:η),([]:η)),aa)) (ay (cp x.2.1) λL=>(bq x.a i (bX yO x.1.2 i λz4=>(bX sk z4.2 (N L.f) λz5=>(jn (α:=Int×Ew×ub×(ν)×Int×Gq×gx×(ν)×mn×(η)×(η)×R×(η)×Y η) (jn (α:=Bool×Ew×ub×(ν)×Int×Gq×gx×(ν)×mn×(η)×(η)×R×(η)×Y η) (bq D.1.2.1 1 (aH ((decide ((D.1.2.1:Int)=1)),x.1,y2.1,(i,x.d),0,(0,0,0,0,0),(D.1.1,D.1.2.1,D.1.a,y2.2.1,D.1.g),((N L.f),(ev L.f)),z5,L.g)) (bq D.1.2.1 16 (aH ((decide ((D.1.2.1:Int)=16)),x.1,y2.1,(i,x.d),0,(0,0,0,0,0),(D.1.1,D.1.2.1,D.1.a,y2.2.1,D.1.g),((N L.f),(ev L.f)),z5,L.g)) (aH ((decide ((D.1.2.1:Int)=2)),x.1,y2.1,(i,x.d),0,(0,0,0,0,0),(D.1.1,D.1.2.1,D.1.a,y2.2.1,D.1.g),((N L.f),(ev L.f)),z5,L.g)))) λz=>(aI z.1 (aH (z.j.1,z.2)) (bq D.1.2.1 3 (ko aM z.o z.f.a λz8=>(aH ((bA .i64 ((N L.f)+1)),z.2.1,z.a,z.b,z.c,z.e,(z.f.1,z.f.2.1,z.f.a,z8,z.f.g),z.p))) (bq D.1.2.1 23 (ko aM z.l z.f.a λz9=>(aH ((bA .i64 ((N L.f)+1)),z.2.1,z.a,z.b,z.c,z.e,(z.f.1,z.f.2.1,z.f.a,z9,z.f.g),z.p))) (bq D.1.2.1 4 (ko aM z.i z.m.a λz10=>(ck (fA z.f.a (ah z.o)) (aH ((bA .i64 ((N L.f)+1)),z.2.1,z.a,z.b,z.c,z.e,(z.f.1,z.f.2.1,z.f.a,z10,z.f.g),z.j,z.m,(cN z.o z.f.a z10),z.w)))) (bq D.1.2.1 22 (ko aM z.i z.m.a λz11=>(ck (fA z.f.a (ah z.l)) (aH ((bA .i64 ((N L.f)+1)),z.2.1,z.a,z.b,z.c,z.e,(z.f.1,z.f.2.1,z.f.a,z11,z.f.g),z.j,z.m,z.o,(cN z.l z.f.a z11),z.v)))) (bq D.1.2.1 5 (ko aM z.i z.m.2.1 λz12=>(bq z12 0 (aH (z.m.a,z.2.1,z.a,z.b,z.c,z.e,(z.f.1,z.f.2.1,z.f.a,0,z.f.g),z.p)) (aH ((bA .i64 ((N L.f)+1)),z.2.1,z.a,z.b,z.c,z.e,(z.f.1,z.f.2.1,z.f.a,1,z.f.g),z.p)))) (aH ((bA .i64 ((N L.f)+1)),z.2))))))))) λx6=>(jn (α:=Ew×ub×(ν)×Int×Gq×gx×(ν)×(η)×(η)×R×(η)×Y η) (jn (bq x6.f.2.1 3 (aH (J,x6.2)) (aH ((decide ((x6.f.2.1:Int)=23)),x6.2))) λA=>(aI A.1 (ck (fA A.m.2.1 (ah A.i)) (ck (fA A.m.2.1 (ah A.z)) (aH (A.2.1,A.a,A.b,A.c,A.e,A.f,A.j,A.o,A.l,A.n,(cN A.i A.m.2.1 A.f.b),(cN A.z A.m.2.1 ([A.j.2])))))) (aH (A.2.1,A.a,A.b,A.c,A.e,A.f,A.j,A.B)))) λx13=>(k x6.1 x13))))) U))))))
def oE (x:h!):M (Int×jY×(θ)×(Y ey)×(η)×(η)×(ν)×q!):=
 (ay (iK x.1) λz=>(bT (be (ah ([]:η)+ah x.2.1) 8) (bT (be (ah ([]:η)+ah x.a) 8) (bS 0 (bf x.d) (bX fe x.d 0 λD=>(ay (cE D) λL=>(bS 1 (bf x.d) (bX fe x.d 1 λA=>(ay (cE A) λN=>U)) (Z (z.1,z.2.1,z.a,z.d,(([]:η)++x.2.1),(([]:η)++x.a),L))))) U))))
def gu (x:w!):M Gp:=
 SG 0 oE (λz=>z.1) (λz=>z.2) (KG 0 (λz R T=>(z.1,R,T,z.2)) (λw=>((w.1,w.2.1,w.2.2.1,w.2.2.2))) (λv t=>[t])) x
def oD (x:h!):M (Int×jY×(θ)×(Y ey)×(η)×(η)×Ya29×q!):=
 (ay (iK x.1) λA=>(bT (be (ah ([]:η)+ah x.2.1) 8) (bT (be (ah ([]:η)+ah x.a) 8) (bS 0 (bf x.d) (bX fe x.d 0 λz2=>(ay (cE z2) λD=>(bS 1 (bf x.d) (bX fe x.d 1 λN=>(ay (cE N) λz=>(bS 2 (bf x.d) (bX fe x.d 2 λL=>(ay (cE L) λy7=>U)) (Z (A.1,A.2.1,A.a,A.d,(([]:η)++x.2.1),(([]:η)++x.a),(D.1.1,D.1.2,z.1.1,z.2.1,z.2.2,z.1.2),D.2))))) U))) U))))
def gQ (x:w!):M Gp:=
 SG 0 oD (λz=>z.1) (λz=>z.2.1) (KG 0 (λz R T=>(z.1,R,T,z.2.1,z.2.2)) (λw=>((w.1,w.2.1,w.2.2.1,w.2.2.2.1),w.2.2.2.2)) (λv t=>[t,v.2])) x
def oC (x:h!):M (Int×jY×(θ)×(Y ey)×(η)×(η)×(xB×Int×Int)×q!):=
 (ay (iK x.1) λA=>(bT (be (ah ([]:η)+ah x.2.1) 8) (bT (be (ah ([]:η)+ah x.a) 8) (bS 0 (bf x.d) (bX fe x.d 0 λz2=>(ay (cE z2) λz=>(bS 1 (bf x.d) (bX fe x.d 1 λN=>(ay (cE N) λD=>(bS 2 (bf x.d) (bX fe x.d 2 λL=>(ay (cE L) λy7=>U)) (Z (A.1,A.2.1,A.a,A.d,(([]:η)++x.2.1),(([]:η)++x.a),((z.1.1,z.2.1,z.2.2,z.1.2),D.1),D.2))))) U))) U))))
def gr (x:w!):M Gp:=
 SG 1 oC (λz=>z.2.1) (λz=>z.2.2) (KG 1 (λz R T=>(z.1,z.2.1,R,T,z.2.2)) (λw=>(w.1,(w.2.1,w.2.2.1,w.2.2.2.1,w.2.2.2.2))) (λv t=>[v.1,t])) x
def oB (x:h!):M (Int×jY×(θ)×(Y ey)×(η)×(η)×Ya27×q!):=
 (ay (iK x.1) λD=>(bT (be (ah ([]:η)+ah x.2.1) 8) (bT (be (ah ([]:η)+ah x.a) 8) (bS 0 (bf x.d) (bX fe x.d 0 λz2=>(ay (cE z2) λL=>(bS 1 (bf x.d) (bX fe x.d 1 λz4=>(ay (cE z4) λA=>(bS 2 (bf x.d) (bX fe x.d 2 λz6=>(ay (cE z6) λz=>(bS 3 (bf x.d) (bX fe x.d 3 λN=>(ay (cE N) λy9=>U)) (Z (D.1,D.2.1,D.a,D.d,(([]:η)++x.2.1),(([]:η)++x.a),(L.1.1,L.1.2,(A.1.1,A.2.1,A.2.2,A.1.2),z.1.1,z.2.1,z.2.2,z.1.2),L.2))))) U))) U))) U))))
def kf (x:w!):M Gp:=
 SG 0 oB (λz=>z.1) (λz=>z.2.1) (KG 0 (λz R T=>(z.1,R,T,z.2.1,z.a,z.d)) (λw=>((w.1,w.2.1,w.2.2.1,w.2.2.2.1),w.2.2.2.2.1,w.2.2.2.2.2)) (λv t=>[t,v.2.1,v.2.2])) x
def oA (x:h!):M (Int×jY×(θ)×(Y ey)×(η)×(η)×Ya28×q!):=
 (ay (iK x.1) λD=>(bT (be (ah ([]:η)+ah x.2.1) 8) (bT (be (ah ([]:η)+ah x.a) 8) (bS 0 (bf x.d) (bX fe x.d 0 λz2=>(ay (cE z2) λA=>(bS 1 (bf x.d) (bX fe x.d 1 λz4=>(ay (cE z4) λL=>(bS 2 (bf x.d) (bX fe x.d 2 λz6=>(ay (cE z6) λz=>(bS 3 (bf x.d) (bX fe x.d 3 λN=>(ay (cE N) λy9=>U)) (Z (D.1,D.2.1,D.a,D.d,(([]:η)++x.2.1),(([]:η)++x.a),((A.1.1,A.2.1,A.2.2,A.1.2),L.1.1,L.1.2,z.1.1,z.2.1,z.2.2,z.1.2),L.2))))) U))) U))) U))))
def je (x:w!):M Gp:=
 SG 1 oA (λz=>z.2.1) (λz=>z.a) (KG 1 (λz R T=>(z.1,z.2.1,R,T,z.a,z.d)) (λw=>(w.1,(w.2.1,w.2.2.1,w.2.2.2.1,w.2.2.2.2.1),w.2.2.2.2.2)) (λv t=>[v.1,t,v.2.2])) x
def oz (x:h!):M (Int×jY×(θ)×(Y ey)×(η)×(η)×(xB×xB×Int×Int)×q!):=
 (ay (iK x.1) λD=>(bT (be (ah ([]:η)+ah x.2.1) 8) (bT (be (ah ([]:η)+ah x.a) 8) (bS 0 (bf x.d) (bX fe x.d 0 λz2=>(ay (cE z2) λA=>(bS 1 (bf x.d) (bX fe x.d 1 λz4=>(ay (cE z4) λz=>(bS 2 (bf x.d) (bX fe x.d 2 λz6=>(ay (cE z6) λL=>(bS 3 (bf x.d) (bX fe x.d 3 λN=>(ay (cE N) λy9=>U)) (Z (D.1,D.2.1,D.a,D.d,(([]:η)++x.2.1),(([]:η)++x.a),((A.1.1,A.2.1,A.2.2,A.1.2),(z.1.1,z.2.1,z.2.2,z.1.2),L.1),L.2))))) U))) U))) U))))
def iu (x:w!):M Gp:=
 SG 2 oz (λz=>z.a) (λz=>z.d) (KG 2 (λz R T=>(z.1,z.2.1,z.a,R,T,z.d)) (λw=>(w.1,w.2.1,(w.2.2.1,w.2.2.2.1,w.2.2.2.2.1,w.2.2.2.2.2))) (λv t=>[v.1,v.2.1,t])) x
def oy (x:h!):M (Int×jY×(θ)×(Y ey)×(η)×(η)×Ya23×q!):=
 (ay (iK x.1) λL=>(bT (be (ah ([]:η)+ah x.2.1) 8) (bT (be (ah ([]:η)+ah x.a) 8) (bS 0 (bf x.d) (bX fe x.d 0 λz2=>(ay (cE z2) λy3=>(bS 1 (bf x.d) (bX fe x.d 1 λz4=>(ay (cE z4) λD=>(bS 2 (bf x.d) (bX fe x.d 2 λz6=>(ay (cE z6) λA=>(bS 3 (bf x.d) (bX fe x.d 3 λz8=>(ay (cE z8) λz=>(bS 4 (bf x.d) (bX fe x.d 4 λN=>(ay (cE N) λy11=>U)) (Z (L.1,L.2.1,L.a,L.d,(([]:η)++x.2.1),(([]:η)++x.a),(y3.1.1,y3.1.2,(D.1.1,D.2.1,D.2.2,D.1.2),(A.1.1,A.2.1,A.2.2,A.1.2),z.1.1,z.2.1,z.2.2,z.1.2),y3.2))))) U))) U))) U))) U))))
def oq (x:w!):M Gp:=
 SG 0 oy (λz=>z.1) (λz=>z.2.1) (KG 0 (λz R T=>(z.1,R,T,z.2.1,z.a,z.b,z.g)) (λw=>((w.1,w.2.1,w.2.2.1,w.2.2.2.1),w.2.2.2.2.1,w.2.2.2.2.2.1,w.2.2.2.2.2.2)) (λv t=>[t,v.2.1,v.2.2.1,v.2.2.2])) x
def ox (x:h!):M (Int×jY×(θ)×(Y ey)×(η)×(η)×Ya24×q!):=
 (ay (iK x.1) λL=>(bT (be (ah ([]:η)+ah x.2.1) 8) (bT (be (ah ([]:η)+ah x.a) 8) (bS 0 (bf x.d) (bX fe x.d 0 λz2=>(ay (cE z2) λD=>(bS 1 (bf x.d) (bX fe x.d 1 λz4=>(ay (cE z4) λy5=>(bS 2 (bf x.d) (bX fe x.d 2 λz6=>(ay (cE z6) λA=>(bS 3 (bf x.d) (bX fe x.d 3 λz8=>(ay (cE z8) λz=>(bS 4 (bf x.d) (bX fe x.d 4 λN=>(ay (cE N) λy11=>U)) (Z (L.1,L.2.1,L.a,L.d,(([]:η)++x.2.1),(([]:η)++x.a),((D.1.1,D.2.1,D.2.2,D.1.2),y5.1.1,y5.1.2,(A.1.1,A.2.1,A.2.2,A.1.2),z.1.1,z.2.1,z.2.2,z.1.2),y5.2))))) U))) U))) U))) U))))
def ol (x:w!):M Gp:=
 SG 1 ox (λz=>z.2.1) (λz=>z.a) (KG 1 (λz R T=>(z.1,z.2.1,R,T,z.a,z.b,z.g)) (λw=>(w.1,(w.2.1,w.2.2.1,w.2.2.2.1,w.2.2.2.2.1),w.2.2.2.2.2.1,w.2.2.2.2.2.2)) (λv t=>[v.1,t,v.2.2.1,v.2.2.2])) x
def ov (x:h!):M (Int×jY×(θ)×(Y ey)×(η)×(η)×Ya25×q!):=
 (ay (iK x.1) λL=>(bT (be (ah ([]:η)+ah x.2.1) 8) (bT (be (ah ([]:η)+ah x.a) 8) (bS 0 (bf x.d) (bX fe x.d 0 λz2=>(ay (cE z2) λD=>(bS 1 (bf x.d) (bX fe x.d 1 λz4=>(ay (cE z4) λA=>(bS 2 (bf x.d) (bX fe x.d 2 λz6=>(ay (cE z6) λy7=>(bS 3 (bf x.d) (bX fe x.d 3 λz8=>(ay (cE z8) λz=>(bS 4 (bf x.d) (bX fe x.d 4 λN=>(ay (cE N) λy11=>U)) (Z (L.1,L.2.1,L.a,L.d,(([]:η)++x.2.1),(([]:η)++x.a),((D.1.1,D.2.1,D.2.2,D.1.2),(A.1.1,A.2.1,A.2.2,A.1.2),y7.1.1,y7.1.2,z.1.1,z.2.1,z.2.2,z.1.2),y7.2))))) U))) U))) U))) U))))
def mC (x:w!):M Gp:=
 SG 2 ov (λz=>z.a) (λz=>z.b) (KG 2 (λz R T=>(z.1,z.2.1,z.a,R,T,z.b,z.g)) (λw=>(w.1,w.2.1,(w.2.2.1,w.2.2.2.1,w.2.2.2.2.1,w.2.2.2.2.2.1),w.2.2.2.2.2.2)) (λv t=>[v.1,v.2.1,t,v.2.2.2])) x
def ou (x:h!):M (Int×jY×(θ)×(Y ey)×(η)×(η)×Ya42×q!):=
 (ay (iK x.1) λL=>(bT (be (ah ([]:η)+ah x.2.1) 8) (bT (be (ah ([]:η)+ah x.a) 8) (bS 0 (bf x.d) (bX fe x.d 0 λz2=>(ay (cE z2) λD=>(bS 1 (bf x.d) (bX fe x.d 1 λz4=>(ay (cE z4) λA=>(bS 2 (bf x.d) (bX fe x.d 2 λz6=>(ay (cE z6) λz=>(bS 3 (bf x.d) (bX fe x.d 3 λz8=>(ay (cE z8) λy9=>(bS 4 (bf x.d) (bX fe x.d 4 λN=>(ay (cE N) λy11=>U)) (Z (L.1,L.2.1,L.a,L.d,(([]:η)++x.2.1),(([]:η)++x.a),((D.1.1,D.2.1,D.2.2,D.1.2),(A.1.1,A.2.1,A.2.2,A.1.2),(z.1.1,z.2.1,z.2.2,z.1.2),y9.1),y9.2))))) U))) U))) U))) U))))
def lw (x:w!):M Gp:=
 SG 3 ou (λz=>z.b) (λz=>z.g) (KG 3 (λz R T=>(z.1,z.2.1,z.a,z.b,R,T,z.g)) (λw=>(w.1,w.2.1,w.2.2.1,(w.2.2.2.1,w.2.2.2.2.1,w.2.2.2.2.2.1,w.2.2.2.2.2.2))) (λv t=>[v.1,v.2.1,v.2.2.1,t])) x
def Ck (x:w!):M Gp:=orE (oq x) (orE (ol x) (orE (mC x) (orE (lw x) (orE (kf x) (orE (je x) (orE (iu x) (orE (gQ x) (orE (gr x) (gu x)))))))))
def xY (x:Ew×Ab×Y ν):M ((Y gx)×h!):=
 (iter (σ:=Int×(Y gx)×Ew×Ab×Int) (λA=>(jn (bS A.1 (bf x.2.2) (aH ((fQ (bf A.2.1) 400),A.2)) (aH (aa,A.2))) λz=>(aI z.1 (jn (α:=(Y gx)×Ew×Ab×Int) (bX fO x.2.2 A.1 λL=>(ay (Ck (z.a,z.b,L)) λD=>(aI D.2.2 (bT (be (ah z.2.1+ah ([D.2.1])) 88) (aH ((z.2.1++([D.2.1])),z.a,D.1,z.g))) (aH z.2)))) λN=>(c5 ((cW A.1),N))) (aH (z.2.1,z.b))))) (0,([]:Y gx),x.1,x.2.1,0))
def Be (x:Ew×Y ν):M ((eM×Y gx)×h!):=
 (ay (ky x.1) λD=>(aI (!D) (Z (((([]:Y V7),([]:Y F!),([]:Y kK),([]:Y ζ),([]:Y ζ),([]:Y π)),([]:Y gx)),(([]:Y k!),0,([]:θ),([]:Y ey)),([]:η),([]:η),([]:Y xB))) (ay (vG x.1) λA=>(ay (xY (x.1,A,x.2)) λz=>(Z ((x.1.1,z.1),z.2))))))
abbrev I!:=Int×t?
def bP (x:I!):M I!:=
 (jn (kq (bf x.2.1) x.2.2 (aH (J,x.2)) (aH ((fQ x.1 1),x.2))) λz=>(aI z.1 (Z (0,z.2)) (lt (cW z.2.2) λD=>(bX (.int .u8) z.2.1 (bA .i64 (D-1)) λA=>(bT (!decide ((x.1:Int)=0)) (Z ((Cc (bA .i64 A) x.1),z.2.1,(cW z.2.2))))))))
def sR (x:Int):M (Xp):=
 (Z (eD (1,x,[],([]:Y Xp))))
def qM (x:ζ):M (Xp):=
 (Z (eD (2,0,x,([]:Y Xp))))
def o_ (x:Int×Xp×Xp):M (Xp):=
 (Z (eD (x.1,0,[],[eD ((Xp.op x.2.1),(Xp.n x.2.1),(Xp.name x.2.1),(Xp.l x.2.1)),eD ((Xp.op x.2.2),(Xp.n x.2.2),(Xp.name x.2.2),(Xp.l x.2.2))])))
def j7 (x:ζ×Xp):M (Sx):=
 (Z (pa (1,0,x.1,[],([]:Y Xp),eD ((Xp.op x.2),(Xp.n x.2),(Xp.name x.2),(Xp.l x.2)),([]:Y Sx),([]:Y Sx))))
def tL (x:Unit):M yK:=
 (Z ([(1,0,[120],0,0,[]),(1,0,[121],0,1,[]),(2,0,[118],0,0,[]),(1,0,[113],2,0,[]),(3,0,[109],0,0,[]),(3,0,[110],0,0,[]),(4,0,[114],0,0,[]),(5,0,[99],0,0,[109]),(6,0,[102],0,0,[])]))
def pR (x:η):M (Y ν):=
 (iter (σ:=Int×Y ν) (λz=>(bS z.1 (bf x) (bX (.int .u8) x z.1 λD=>(bX (.int .u8) x z.1 λA=>(bT (be (ah z.2+ah ([((Cc (bA .i64 D) 4),(bA .i64 ((Cc (bA .i64 (Int.tdiv (bA .i64 A) 4)) 5)-1)))])) 16) (c5 ((cW z.1),(z.2++([((Cc (bA .i64 D) 4),(bA .i64 ((Cc (bA .i64 (Int.tdiv (bA .i64 A) 4)) 5)-1)))]))))))) (aH z.2))) (0,([]:Y ν)))
def pi (rmade_maker_expr:ac5->M akp) (x:U!):M akp:=
 (ay (bP (10,x.a)) λy1=>(jn (α:=Bool×Ey×ip×V8×(Int×Int×ζ)×Y ζ) (bS y1.1 2 (aH (J,x.2.1,y1.2,x.d,(0,0,[]),[[97],[98],[120],[121],[118],[120],[121]])) (bq x.1 0 (aH ((dg 7 y1.1),x.2.1,y1.2,x.d,(0,0,[]),[[97],[98],[120],[121],[118],[120],[121]])) (aH (aa,x.2.1,y1.2,x.d,(0,0,[]),[[97],[98],[120],[121],[118],[120],[121]])))) λz=>(aI z.1 (ay (bP (4,z.a)) λy3=>(ay (sR y3.1) λy4=>(Z (eD ((Xp.op y4),(Xp.n y4),(Xp.name y4),(Xp.l y4)),z.2.1,y3.2,z.b)))) (bS y1.1 7 (ay (bP ((bf z.h),z.a)) λy5=>(ko (.str) z.h y5.1 λz6=>(ay (qM z6) λy7=>(Z (eD ((Xp.op y7),(Xp.n y7),(Xp.name y7),(Xp.l y7)),z.2.1,y5.2,z.b))))) (bq y1.1 7 (ay (rmade_maker_expr (0,z.2.1,z.a,z.b)) λN=>(bT (((z.b.1==N.b)&&J)&&aA (ah z.b.2) (ah N.g)&&J) (Z (eD (3,0,[113],[eD ((Xp.op N.1),(Xp.n N.1),(Xp.name N.1),(Xp.l N.1))]),N.2)))) (ay (bP ((aP (ah ([6,7,8,11,13,17]))),z.a)) λy9=>(ko aM ([6,7,8,11,13,17]) y9.1 λz10=>(ay (rmade_maker_expr ((bA .i64 (x.1-1)),z.2.1,y9.2,z.b)) λA=>(bT (((z.b.1==A.b)&&J)&&aA (ah z.b.2) (ah A.g)&&J) (ay (rmade_maker_expr ((bA .i64 (x.1-1)),A.2)) λL=>(bT (((A.b==L.b)&&J)&&aA (ah A.g) (ah L.g)&&J) (ay (o_ (z10,A.1,L.1)) λD=>(Z (eD ((Xp.op D),(Xp.n D),(Xp.name D),(Xp.l D)),L.2))))))))))))))
def iN:Nat->ac5->M akp
 |0,_=>U
 |n+1,x=>pi (iN n) x
def AK (n:Nat) (x:U!):iN (n+1) x=pi (iN n) x:=rfl
def fw (x:U!):M akp:=iN fuel x
def eY (x:ζ×j?):M (Bool×j?):=
 (ay (jL (x.g,x.1)) λz=>(Z ((dg 0 z),x.2)))
def nO (rmade_maker_stmts:akr->M ac4) (rmade_maker_stmt:ac5->M ah2) (rmade_maker_block:akq->M ah3) (x:ν×j?):M ac4:=
 (iter (σ:=Int×Ey×ip×(Y Sx)×Bool×Y ζ) (λA=>(jn (bS A.1 x.1.2 (bq A.1 0 (aH (J,A.2)) (aH ((fQ 0 A.2.1.2.1),A.2))) (aH (aa,A.2))) λz=>(aI z.1 (ay (rmade_maker_stmt (x.1.1,z.2.1,z.a,z.g)) λD=>(bT (((z.c==z.c)&&J)&&aA (ah z.h) (ah z.h)&&J) (bT (be (ah z.b+ah ([eH D.1])) 176) (c5 ((cW A.1),D.2.1,D.a,(z.b++([eH D.1])),D.d))))) (aH (z.2.1,z.a,z.g,z.b))))) (0,x.2.1,x.a,([]:Y Sx),x.d))
abbrev o!:=Bool×Ey×ip×YD×Bool×Y ζ
def ph (rmade_maker_stmts:akr->M ac4) (rmade_maker_stmt:ac5->M ah2) (rmade_maker_block:akq->M ah3) (x:U!):M ah2:=
 (ay (bP (18,x.a)) λy1=>(jn (α:=o!) (bS 0 x.1 (lt (bA .i64 (x.2.1.2.1-1)) λz3=>(bS 0 z3 (aH ((!x.2.1.b),(x.2.1.1,(bA .i64 (x.2.1.2.1-1)),x.2.1.2.2),y1.2,(0,0,[],[],0,0,[]),x.d)) (aH (aa,(x.2.1.1,(bA .i64 (x.2.1.2.1-1)),x.2.1.2.2),y1.2,(0,0,[],[],0,0,[]),x.d)))) (aH (aa,(x.2.1.1,(bA .i64 (x.2.1.2.1-1)),x.2.1.2.2),y1.2,(0,0,[],[],0,0,[]),x.d))) λx2=>(bS y1.1 4 (ko (.str) ([[120],[121],[120],[118]]) y1.1 λz4=>(ay (fw (1,x2.2.1,x2.a,x2.g)) λy5=>(bT (((x2.c==y5.b)&&J)&&aA (ah x2.h) (ah y5.g)&&J) (ay (j7 (z4,y5.1)) λy6=>(Z (eH y6,y5.2)))))) (bq y1.1 4 (ay (bP (2,x2.a)) λy7=>(ko (.str) ([[97],[98]]) y7.1 λz8=>(ay (fw (1,x2.2.1,y7.2,x2.g)) λy9=>(bT (((x2.c==y9.b)&&J)&&aA (ah x2.h) (ah y9.g)&&J) (ay (j7 (z8,y9.1)) λy10=>(Z (eH y10,y9.2))))))) (bq y1.1 5 (ay (fw (0,x2.2.1,x2.a,x2.g)) λy11=>(bT (((x2.c==y11.b)&&J)&&aA (ah x2.h) (ah y11.g)&&J) (ay (fw (1,y11.2)) λy12=>(bT (((y11.b==y12.b)&&J)&&aA (ah y11.g) (ah y12.g)&&J) (Z (pa (1,0,[113],[],[eD ((Xp.op y11.1),(Xp.n y11.1),(Xp.name y11.1),(Xp.l y11.1))],eD ((Xp.op y12.1),(Xp.n y12.1),(Xp.name y12.1),(Xp.l y12.1)),([]:Y Sx),([]:Y Sx)),y12.2)))))) (jn (bq y1.1 6 (aH ((fQ 0 x.1),x2.2)) (aH (aa,x2.2))) λx13=>(aI x13.1 (ay (fw (1,x13.2.1,x13.a,x13.g)) λL=>(bT (((x13.c==L.b)&&J)&&aA (ah x13.h) (ah L.g)&&J) (ay (rmade_maker_stmts (((bA .i64 (x.1-1)),1),L.2)) λy15=>(bT (((L.b==L.b)&&J)&&aA (ah L.g) (ah L.g)&&J) (jn (α:=Ey×ip×YD×(Int×Int×(ζ)×(ζ)×Int×Int×(ζ)×Y Xp)×V8×(Y Sx)×Y Sx) (ay (bP (2,y15.2.1)) λy17=>(bq y17.1 1 (ay (rmade_maker_stmts (((bA .i64 (x.1-1)),1),y15.1,y17.2,y15.a)) λy18=>(bT (((y15.a.1==y15.a.1)&&J)&&aA (ah y15.a.2) (ah y15.a.2)&&J) (aH (y18.1,y18.2.1,x13.b,(2,0,[],[],(Xp.op L.1),(Xp.n L.1),(Xp.name L.1),(Xp.l L.1)),y18.a,y15.d,y18.d)))) (aH (y15.1,y17.2,x13.b,(2,0,[],[],(Xp.op L.1),(Xp.n L.1),(Xp.name L.1),(Xp.l L.1)),y15.a,y15.d,([]:Y Sx))))) λx16=>(Z (pa (x16.b.1,x16.b.2.1,x16.b.a,x16.b.b,([]:Y Xp),eD x16.b.g,x16.h),x16.1,x16.2.1,x16.c))))))) (jn (bq y1.1 7 (aH ((fQ 0 x.1),x13.2)) (aH (aa,x13.2))) λz=>(aI z.1 (ay (qM ([98])) λy20=>(ay (sR 2) λy21=>(ay (o_ (13,y20,y21)) λy22=>(ay (rmade_maker_stmts (((bA .i64 (x.1-1)),1),(z.2.1.1,z.2.1.2.1,z.2.1.a,z.2.1.b,z.2.1.c,J),z.a,z.g)) λy23=>(bT (((z.c==z.c)&&J)&&aA (ah z.h) (ah z.h)&&J) (ay (qM ([98])) λy24=>(ay (sR 1) λy25=>(ay (o_ (6,y24,y25)) λy26=>(ay (j7 ([98],y26)) λy27=>(bT (be (ah y23.d+ah ([eH y27])) 176) (Z (pa (3,0,[],[],([]:Y Xp),eD ((Xp.op y22),(Xp.n y22),(Xp.name y22),(Xp.l y22)),(y23.d++([eH y27])),([]:Y Sx)),(y23.1.1,y23.1.2.1,y23.1.a,y23.1.b,y23.1.c,z.2.1.h),y23.2.1,y23.a)))))))))))) (jn (α:=o!) (bq y1.1 8 (aI x2.1 (ko (.str) ([[109],[110]]) (bA .i64 (y1.1-8)) λz29=>(ay (eY (z29,z.2.1,z.a,z.g)) λy30=>(bT (((z.c==y30.b)&&J)&&aA (ah z.h) (ah y30.g)&&J) (aH ((!y30.1),y30.2.1,y30.a,z.b,y30.d))))) (aH (aa,z.2))) (bq y1.1 9 (aI x2.1 (ko (.str) ([[109],[110]]) (bA .i64 (y1.1-8)) λz31=>(ay (eY (z31,z.2.1,z.a,z.g)) λy32=>(bT (((z.c==y32.b)&&J)&&aA (ah z.h) (ah y32.g)&&J) (aH ((!y32.1),y32.2.1,y32.a,z.b,y32.d))))) (aH (aa,z.2))) (aH (aa,z.2)))) λA=>(aI A.1 (ko (.str) ([[109],[110]]) (bA .i64 (y1.1-8)) λz33=>(ay (rmade_maker_block ((z33,(bA .i64 (x.1-1))),A.2.1,A.a,A.g)) λy34=>(bT (((A.c==A.c)&&J)&&aA (ah A.h) (ah A.h)&&J) (Z (pa (4,0,z33,[],([]:Y Xp),eD (0,0,[],([]:Y Xp)),y34.1,([]:Y Sx)),y34.2))))) (jn (α:=o!) (bq y1.1 10 (aI x2.1 (ay (eY ([114],A.2.1,A.a,A.g)) λy36=>(bT (((A.c==y36.b)&&J)&&aA (ah A.h) (ah y36.g)&&J) (aH ((!y36.1),y36.2.1,y36.a,A.b,y36.d)))) (aH (aa,A.2))) (bq y1.1 11 (aI x2.1 (ay (eY ([114],A.2.1,A.a,A.g)) λy37=>(bT (((A.c==y37.b)&&J)&&aA (ah A.h) (ah y37.g)&&J) (aH ((!y37.1),y37.2.1,y37.a,A.b,y37.d)))) (aH (aa,A.2))) (aH (aa,A.2)))) λx35=>(aI x35.1 (ay (rmade_maker_block (([114],(bA .i64 (x.1-1))),x35.2.1,x35.a,x35.g)) λy38=>(bT (((x35.c==x35.c)&&J)&&aA (ah x35.h) (ah x35.h)&&J) (Z (pa ((bA .i64 ((bA .i64 (y1.1-10))+5)),0,[114],[],([]:Y Xp),eD (0,0,[],([]:Y Xp)),y38.1,([]:Y Sx)),y38.2)))) (jn (bq y1.1 12 (aH (x2.1,x35.2)) (aH (aa,x35.2))) λN=>(aI N.1 (ay (bP (2,N.a)) λy40=>(ay (rmade_maker_stmts ((0,(bA .i64 (1+y40.1))),(N.2.1.1,N.2.1.2.1,N.2.1.a,J,N.2.1.g),y40.2,N.g)) λy41=>(bT (((N.c==N.c)&&J)&&aA (ah N.h) (ah N.h)&&J) (Z (pa (7,0,[],[],([]:Y Xp),eD (0,0,[],([]:Y Xp)),y41.d,([]:Y Sx)),(y41.1.1,y41.1.2.1,y41.1.a,aa,y41.1.g),y41.2.1,y41.a))))) (jn (bq y1.1 13 (aI x2.1 (aH ((!N.2.1.c),N.2)) (aH (aa,N.2))) (aH (aa,N.2))) λD=>(aI D.1 (ay (rmade_maker_stmts (((bA .i64 (x.1-1)),2),(D.2.1.1,D.2.1.2.1,D.2.1.a,D.2.1.b,J,D.2.1.h),D.a,D.g)) λy43=>(bT (((D.c==D.c)&&J)&&aA (ah D.h) (ah D.h)&&J) (Z (pa (8,0,[],[],([]:Y Xp),eD (0,0,[],([]:Y Xp)),y43.d,([]:Y Sx)),(y43.1.1,y43.1.2.1,y43.1.a,y43.1.b,aa,y43.1.h),y43.2.1,y43.a)))) (jn (α:=o!) (bq y1.1 14 (aI x2.1 (aI (!D.2.1.c) (ay (eY ([109],D.2.1,D.a,D.g)) λy45=>(bT (((D.c==y45.b)&&J)&&aA (ah D.h) (ah y45.g)&&J) (aH ((!y45.1),y45.2.1,y45.a,D.b,y45.d)))) (aH (aa,D.2))) (aH (aa,D.2))) (aH (aa,D.2))) λx44=>(aI x44.1 (ay (qM ([120])) λy46=>(ay (j7 ([97],y46)) λy47=>(Z (pa (4,0,[109],[],([]:Y Xp),eD (0,0,[],([]:Y Xp)),[pa (9,0,[99],[],([]:Y Xp),eD (0,0,[],([]:Y Xp)),([]:Y Sx),([]:Y Sx)),eH y47],([]:Y Sx)),x44.2.1,x44.a,x44.g)))) (jn (α:=o!) (bq y1.1 15 (aI x2.1 (ay (eY ([109],x44.2.1,x44.a,x44.g)) λy49=>(bT (((x44.c==y49.b)&&J)&&aA (ah x44.h) (ah y49.g)&&J) (aH ((!y49.1),y49.2.1,y49.a,x44.b,y49.d)))) (aH (aa,x44.2))) (aH (aa,x44.2))) λx48=>(aI x48.1 (ay (bP (2,x48.a)) λy50=>(Z (pa (4,0,[109],[],([]:Y Xp),eD (0,0,[],([]:Y Xp)),[pa ((bA .i64 (10+y50.1)),0,[99],[],([]:Y Xp),eD (0,0,[],([]:Y Xp)),([]:Y Sx),([]:Y Sx))],([]:Y Sx)),x48.2.1,y50.2,x48.g))) (jn (bq y1.1 16 (aI (!x48.2.1.b) (aI (!x48.2.1.h) (aH ((!x48.2.1.a),x48.2)) (aH (aa,x48.2))) (aH (aa,x48.2))) (aH (aa,x48.2))) λx51=>(aI x51.1 (ay (fw (1,(x51.2.1.1,x51.2.1.2.1,J,x51.2.1.d),x51.a,x51.g)) λy52=>(bT (((x51.c==y52.b)&&J)&&aA (ah x51.h) (ah y52.g)&&J) (Z (pa (14,0,[102],[],([]:Y Xp),eD ((Xp.op y52.1),(Xp.n y52.1),(Xp.name y52.1),(Xp.l y52.1)),([]:Y Sx),([]:Y Sx)),y52.2)))) (jn (α:=o!) (bq y1.1 17 (aI (!x51.2.1.b) (ay (bP (2,x51.a)) λy54=>(aH ((decide ((y54.1:Int)=1)),x51.2.1,y54.2,x51.d))) (aH (aa,x51.2))) (aH (aa,x51.2))) λx53=>(aI x53.1 (Z (pa (15,0,[97],[102],([]:Y Xp),eD (0,0,[],([]:Y Xp)),([]:Y Sx),([]:Y Sx)),x53.2.1,x53.a,x53.g)) (ay (fw (1,x53.2.1,x53.a,x53.g)) λy55=>(bT (((x53.c==y55.b)&&J)&&aA (ah x53.h) (ah y55.g)&&J) (ay (j7 ([120],y55.1)) λy56=>(Z (eH y56,y55.2))))))))))))))))))))))))))))))
def nP (rmade_maker_stmts:akr->M ac4) (rmade_maker_stmt:ac5->M ah2) (rmade_maker_block:akq->M ah3) (x:kK×j?):M ah3:=
 (bT (be (ah x.g+ah ([x.1.1])) 16) (ay (bP (2,x.a)) λA=>(ay (rmade_maker_stmts ((x.1.2,(bA .i64 (1+A.1))),x.2.1,A.2,x.b,(x.g++([x.1.1])))) λz=>(bT (((x.b==x.b)&&J)&&aA (ah (x.g++([x.1.1]))) (ah (x.g++([x.1.1])))&&J) (bT (dg 0 (bA .i64 ((bf z.a.2)-1))&&fQ (bA .i64 ((bf z.a.2)-1)) (ah z.a.2)) (Z (z.d,z.1,z.2.1,aa,(dF (aQ (bA .i64 ((bf z.a.2)-1))) z.a.2))))))))
mutual
def dR:Nat->akr->M ac4
 |0,_=>U
 |n+1,x=>nO (dR n) (eS n) (eu n) x
def eS:Nat->ac5->M ah2
 |0,_=>U
 |n+1,x=>ph (dR n) (eS n) (eu n) x
def eu:Nat->akq->M ah3
 |0,_=>U
 |n+1,x=>nP (dR n) (eS n) (eu n) x
end
def rL (x:ν×j?):M ac4:=dR fuel x
abbrev p?:=Ey×yK×dz×kK×ip×V8×(Y yJ)×dz×Y Sx
def pQ (x:η):M y?:=
 (ay (tL ()) λy1=>(ay (bP (3,x,0)) λy2=>(iter (σ:=Int×Ey×yK×dz×ip×V8×Y yJ) (λD=>(bS D.1 (bA .i64 (2+y2.1)) (ko (.str) D.b D.1 λz4=>(jn (α:=p?) (bq D.1 0 (iter (σ:=Int×p?) (λN=>(bS N.1 (bA .i64 (2+y2.1)) (ko (.str) N.b N.1 λz7=>(bT (be (ah N.B+ah ([pa (12,0,z7,[],([]:Y Xp),eD (0,0,[],([]:Y Xp)),([]:Y Sx),([]:Y Sx))])) 176) (c5 ((cW N.1),N.2.1,N.a,N.b,N.c,N.e,N.f,N.j,N.m,(N.B++([pa (12,0,z7,[],([]:Y Xp),eD (0,0,[],([]:Y Xp)),([]:Y Sx),([]:Y Sx))])))))) (aH (cv N.2)))) (1,(D.1,D.2.1.2),D.a,D.b,(z4,0),D.c,D.e,D.k,[[97],[98]],([]:Y Sx))) (aH ((D.1,D.2.1.2),D.a,D.b,(z4,0),D.c,D.e,D.k,[[97],[98]],([]:Y Sx)))) λL=>(ay (bP (3,L.c)) λy8=>(ay (rL ((2,(bA .i64 (1+y8.1))),L.1,y8.2,L.e)) λy9=>(bT (((L.e.1==L.e.1)&&J)&&aA (ah L.e.2) (ah L.e.2)&&J) (bT (be (ah L.s+ah y9.d) 176) (jn (α:=p?) (jn (α:=Bool×p?) (bq D.1 0 (ay (bP (3,y9.2.1)) λy12=>(aH ((decide ((y12.1:Int)=2)),y9.1,L.2.1,L.a,L.b,y12.2,y9.a,L.f,L.j,(L.s++y9.d)))) (aH (aa,y9.1,L.2.1,L.a,L.b,y9.2.1,y9.a,L.f,L.j,(L.s++y9.d)))) λz=>(aI z.1 (ko (.str) z.b 1 λz13=>(bT (be (ah z.B+ah ([pa (13,0,z13,[],([]:Y Xp),eD (0,0,[],([]:Y Xp)),([]:Y Sx),([]:Y Sx))])) 176) (aH (z.2.1,z.a,z.b,z.c,z.e,z.f,z.j,z.m,(z.B++([pa (13,0,z13,[],([]:Y Xp),eD (0,0,[],([]:Y Xp)),([]:Y Sx),([]:Y Sx))])))))) (aH z.2))) λA=>(bT (be (ah A.f+ah ([(A.b.1,A.b.2,A.p)])) 72) (c5 ((cW D.1),A.1,A.2.1,A.a,A.c,A.e,(A.f++([(A.b.1,A.b.2,A.p)])))))))))))) (ay (ay (fE (D.a,D.k)) λy14=>(i_ y14.1 0 (ay (tL ()) λy15=>(ay (sR 1) λy16=>(ay (j7 ([120],y16)) λy17=>(Z (y15,[([109,97,105,110],0,[[97],[98]],[eH y17])]))))) (Z (D.a,D.k)))) λr=>Z (cv r)))) (0,(0,20,aa,aa,aa,aa),y1,[[109,97,105,110],[116,49],[116,50],[116,51]],y2.2,(J,([]:Y ζ)),([]:Y yJ)))))
def zD (x:η):M Ew:=
 (ay (pQ x) λA=>(ay (rK A) λz=>(Z z.1)))
def tM (x:B!):M n!:=
 (ay (zD x.1) λD=>(ay (pR x.2) λA=>(ay (Be (D,A)) λz=>(Z z.1))))
def oY (x:Unit):M eM:=
 (iter (σ:=D?) (λA=>(bS A.1 (aP (ah ([[109,97,105,110],[116,49],[116,50],[116,51]]))) (iter (σ:=D?) (λz=>(bS z.1 6 (bT (be (ah z.k+ah ([(A.1,z.1,(bA .i64 ((bA .i64 ((bA .i64 (10*A.1))+z.1))+1)))])) 24) (c5 ((cW z.1),z.2.1,z.a,z.b,z.c,z.e,(z.k++([(A.1,z.1,(bA .i64 ((bA .i64 ((bA .i64 (10*A.1))+z.1))+1)))]))))) (aH (wF ((cW A.1),z.2))))) (0,A.2)) (aH A.2))) (0,[([120],0,0,aa,0),([121],0,0,aa,1),([118],0,0,J,0),([113],0,2,aa,0),([113],1,2,aa,0)],[([109],aa),([110],aa),([114],J)],[([99],0)],[[102]],[[109,97,105,110],[116,49],[116,50],[116,51]],([]:Y π)))
def me (x:P!):M η:=
 (iter (σ:=k!) (λz=>(bS z.1 (bf x.1.d) (jn (α:=η) (bX iB x.1.d z.1 λA=>(bq A.1 3 (bT (be (ah z.2+ah ([z.1])) 8) (aH (z.2++([z.1])))) (aH z.2))) λD=>(c5 ((cW z.1),D))) (aH z.2))) (0,([]:η)))
def uO (x:Unit):M η:=
 (Z ([3,3,3,3,3,4,4,4,4,4,5,5,5,6,6,6,7,7,7,8,9,10,11,12,13,14,14,15,16,16,17,17,18,18,19,20,1,1,2,21,22,23,23]))
def pN (x:ν×t?):M I!:=
 (jn (bq x.1.1 3 (aH ((decide ((x.1.1:Int)=3)),x.2)) (aH ((decide ((x.1.1:Int)=4)),x.2))) λL=>(aI L.1 (ay (bP (8,L.2)) λy2=>(ko aM ([0,0,0,1,1,2,3,4]) y2.1 λz3=>(Z (z3,y2.2)))) (jn (bq x.1.1 6 (aH ((decide ((x.1.1:Int)=6)),L.2)) (aH ((decide ((x.1.1:Int)=7)),L.2))) λA=>(aI A.1 (ay (bP (2,A.2)) λy5=>(Z y5)) (jn (bq x.1.1 8 (aH ((decide ((x.1.1:Int)=8)),A.2)) (bq x.1.1 9 (aH ((decide ((x.1.1:Int)=9)),A.2)) (bq x.1.1 10 (aH ((decide ((x.1.1:Int)=10)),A.2)) (aH ((decide ((x.1.1:Int)=11)),A.2))))) λz=>(aI z.1 (Z (2,z.2)) (jn (bq x.1.1 16 (aH ((decide ((x.1.1:Int)=16)),z.2)) (bq x.1.1 17 (aH ((decide ((x.1.1:Int)=17)),z.2)) (bq x.1.1 18 (aH ((decide ((x.1.1:Int)=18)),z.2)) (bq x.1.1 19 (aH ((decide ((x.1.1:Int)=19)),z.2)) (bq x.1.1 22 (aH ((decide ((x.1.1:Int)=22)),z.2)) (aH ((decide ((x.1.1:Int)=23)),z.2))))))) λD=>(aI D.1 (Z (0,D.2)) (jn (bq x.1.1 20 (aH ((decide ((x.1.1:Int)=20)),D.2)) (aH ((decide ((x.1.1:Int)=21)),D.2))) λN=>(aI N.1 (ay (bP (3,N.2)) λy9=>(Z ((Cc (bA .i64 ((cW x.1.2)+y9.1)) 4),y9.2))) (Z ((-1),N.2))))))))))))
def rD (x:(gz×Int×Int)×t?):M I!:=
 (bq x.1.2.1 3 (bX aM x.1.1.2.1 x.1.2.2 λz1=>(Z (z1,x.2))) (bq x.1.2.1 23 (bX aM x.1.1.a 0 λN=>(Z (N,x.2))) (jn (bq x.1.2.1 4 (aH ((decide ((x.1.2.1:Int)=4)),x.2,x.1.1)) (aH ((decide ((x.1.2.1:Int)=22)),x.2,x.1.1))) λz=>(aI z.1 (ay (bP (3,z.2.1)) λy4=>(Z y4)) (bq x.1.2.1 5 (ay (bP (2,z.2.1)) λy5=>(Z y5)) (bq x.1.2.1 18 (ay (me z.2.2) λA=>(bS 0 (bf A) (ay (bP ((bf A),z.2.1)) λD=>(bX aM A D.1 λL=>(Z (L,D.2)))) (Z ((-1),z.2.1)))) (bq x.1.2.1 19 (ay (me z.2.2) λy9=>(Z ((bf y9),z.2.1))) (Z (0,z.2.1)))))))))
def gP (x:ip×η):M (η×ip×η):=
 (iter (σ:=Int×ip×L?) (λz=>(bS z.1 (bf x.2) (jn (α:=ip×L?) (ko aM z.a z.1 λD=>(jn (α:=Bool×ip×L?) (kq (bf z.a) (bA .i64 (z.1+3)) (ay (bP (2,z.2.1)) λL=>(aH ((decide ((L.1:Int)=1)),L.2,z.2.2))) (aH (aa,z.2))) λA=>(aI A.1 (bT (be (ah A.d+ah ([D])) 8) (aH (A.2.1,A.a,(A.d++([D]))))) (aH A.2)))) λN=>(c5 ((cW z.1),N))) (aH (z.d,z.2.1,z.a)))) (0,x.1,x.2,([]:η)))
abbrev E!:=ip×(η)×(η)×(η)×(η)×gz×eM×Gq×Int×s?
def rE (x:(gz×pn×nW×(Y kK)×dz×dz×Y π)×ip×(η)×e?):M (gx×ip×(η)×e?):=
 (ay (bP (4,x.2.1)) λL=>(ay (uO ()) λy2=>(ay (bP ((bf y2),L.2)) λy3=>(bX aM y2 y3.1 λz4=>(ay (bP (6,y3.2)) λy5=>(jn (α:=E!) (jn (α:=Bool×E!) (bq z4 1 (aH (J,y5.2,x.a,x.b,x.c,x.h,x.1.1,x.1.2,(0,0,0,0,0),L.1,z4,0,0,(bA .i64 ((bA .i64 (L.1*6))+y5.1)))) (aH ((decide ((z4:Int)=2)),y5.2,x.a,x.b,x.c,x.h,x.1.1,x.1.2,(0,0,0,0,0),L.1,z4,0,0,(bA .i64 ((bA .i64 (L.1*6))+y5.1))))) λN=>(aI N.1 (aH (N.2.1,N.a,N.b,N.c,N.e,N.f,N.j,N.m,N.o,N.l,N.n,N.i,(-1))) (aH N.2))) λD=>(ay (pN ((D.o,L.1),D.1)) λy8=>(ay (rD ((D.e,D.o,y8.1),y8.2)) λy9=>(jn (α:=ip×(η)×(η)×(η)×(η)×Gq×Int×Int×Int×Int×k!) (jn (bq D.o 5 (aH (J,y9.2,D.2.1,D.a,D.b,D.c,D.j,D.m,D.o,y8.1,y9.1,D.y)) (bq D.o 3 (bX mA D.f.1 y8.1 λz12=>(aH ((fQ 0 z12.2.2.1),y9.2,D.2.1,D.a,D.b,D.c,D.j,D.m,D.o,y8.1,y9.1,D.y))) (bq D.o 4 (bX mA D.f.1 y8.1 λz13=>(aH ((fQ 0 z13.2.2.1),y9.2,D.2.1,D.a,D.b,D.c,D.j,D.m,D.o,y8.1,y9.1,D.y))) (aH (aa,y9.2,D.2.1,D.a,D.b,D.c,D.j,D.m,D.o,y8.1,y9.1,D.y))))) λA=>(aI A.1 (bq L.1 0 (ay (gP (A.2.1,A.a)) λy14=>(bT (aA (ah A.a) (ah y14.2.2)&&J) (aH (y14.2.1,y14.2.2,A.b,A.c,A.e,A.f,A.j,A.m,A.o,A.l,A.v,y14.1)))) (bq L.1 1 (ay (gP (A.2.1,A.b)) λy15=>(bT (aA (ah A.b) (ah y15.2.2)&&J) (aH (y15.2.1,A.a,y15.2.2,A.c,A.e,A.f,A.j,A.m,A.o,A.l,A.v,y15.1)))) (bq L.1 2 (ay (gP (A.2.1,A.c)) λy16=>(bT (aA (ah A.c) (ah y16.2.2)&&J) (aH (y16.2.1,A.a,A.b,y16.2.2,A.e,A.f,A.j,A.m,A.o,A.l,A.v,y16.1)))) (bq L.1 3 (ay (gP (A.2.1,A.e)) λy17=>(bT (aA (ah A.e) (ah y17.2.2)&&J) (aH (y17.2.1,A.a,A.b,A.c,y17.2.2,A.f,A.j,A.m,A.o,A.l,A.v,y17.1)))) U)))) (aH (A.2.1,A.a,A.b,A.c,A.e,A.f,A.j,A.m,A.o,A.l,A.v,([]:η))))) λx10=>(jn (α:=ip×(η)×(η)×(η)×(η)×Gq×c?) (jn (bq x10.j 4 (aH (J,x10)) (aH ((decide ((x10.j:Int)=22)),x10))) λz=>(aI z.1 (bq L.1 0 (ay (gP (z.2.1,z.a)) λy20=>(bT (aA (ah z.a) (ah y20.2.2)&&J) (aH (y20.2.1,y20.2.2,z.b,z.c,z.e,z.f,z.j,z.m,z.o,z.l,z.n,z.y,y20.1)))) (bq L.1 1 (ay (gP (z.2.1,z.b)) λy21=>(bT (aA (ah z.b) (ah y21.2.2)&&J) (aH (y21.2.1,z.a,y21.2.2,z.c,z.e,z.f,z.j,z.m,z.o,z.l,z.n,z.y,y21.1)))) (bq L.1 2 (ay (gP (z.2.1,z.c)) λy22=>(bT (aA (ah z.c) (ah y22.2.2)&&J) (aH (y22.2.1,z.a,z.b,y22.2.2,z.e,z.f,z.j,z.m,z.o,z.l,z.n,z.y,y22.1)))) (bq L.1 3 (ay (gP (z.2.1,z.e)) λy23=>(bT (aA (ah z.e) (ah y23.2.2)&&J) (aH (y23.2.1,z.a,z.b,z.c,y23.2.2,z.f,z.j,z.m,z.o,z.l,z.n,z.y,y23.1)))) U)))) (aH (z.2.1,z.a,z.b,z.c,z.e,z.f,z.j,z.m,z.o,z.l,z.n,z.y,([]:η))))) λx18=>(Z (x18.k,x18.1,x18.2.1,x18.a,x18.b,x18.c))))))))))))
abbrev l?:=ip×gz×eM×(η)×e?
abbrev O!:=ip×gz×eM×(Y gx)×(η)×e?
abbrev Q?:=Bool×l?
def tG (x:(gz×eM×Int×Bool)×t?):M ((Y gx)×t?):=
 (bT (dg 0 (bf x.1.2.1.c)&&dg (bf x.1.2.1.c) (bf x.1.2.1.c)&&be (aQ (bf x.1.2.1.c)) 24&&decide (((bf x.1.2.1.c):Int)=4)) (jn (α:=l?) (bS 0 (aP 4) (jn (α:=l?) (jn (α:=Q?) (aI x.1.d (bX aM x.1.1.d 0 λz4=>(bS 1 z4 (ay (bP (3,x.2)) λy5=>(aH ((decide ((y5.1:Int)=2)),y5.2,x.1.1,x.1.2.1,([]:η),([]:η),([]:η),([]:η)))) (aH (aa,x.2,x.1.1,x.1.2.1,([]:η),([]:η),([]:η),([]:η))))) (aH (aa,x.2,x.1.1,x.1.2.1,([]:η),([]:η),([]:η),([]:η)))) λx3=>(aI x3.1 (bT (be (ah x3.c+ah ([1])) 8) (aH (x3.2.1,x3.a,x3.b,(x3.c++([1])),x3.h))) (aH x3.2))) λx2=>(bS 1 (aP 4) (jn (α:=l?) (jn (α:=Q?) (aI x.1.d (bX aM x2.2.1.d 1 λz8=>(bS 1 z8 (ay (bP (3,x2.1)) λy9=>(aH ((decide ((y9.1:Int)=2)),y9.2,x2.2))) (aH (aa,x2)))) (aH (aa,x2))) λx7=>(aI x7.1 (bT (be (ah x7.e+ah ([1])) 8) (aH (x7.2.1,x7.a,x7.b,x7.c,(x7.e++([1])),x7.k))) (aH x7.2))) λx6=>(bS 2 (aP 4) (jn (α:=l?) (jn (α:=Q?) (aI x.1.d (bX aM x6.2.1.d 2 λz12=>(bS 1 z12 (ay (bP (3,x6.1)) λy13=>(aH ((decide ((y13.1:Int)=2)),y13.2,x6.2))) (aH (aa,x6)))) (aH (aa,x6))) λN=>(aI N.1 (bT (be (ah N.f+ah ([1])) 8) (aH (N.2.1,N.a,N.b,N.c,N.e,(N.f++([1])),N.p))) (aH N.2))) λx10=>(bS 3 (aP 4) (jn (α:=l?) (jn (α:=Q?) (aI x.1.d (bX aM x10.2.1.d 3 λz16=>(bS 1 z16 (ay (bP (3,x10.1)) λy17=>(aH ((decide ((y17.1:Int)=2)),y17.2,x10.2))) (aH (aa,x10)))) (aH (aa,x10))) λL=>(aI L.1 (bT (be (ah L.p+ah ([1])) 8) (aH (L.2.1,L.a,L.b,L.c,L.e,L.f,(L.p++([1]))))) (aH L.2))) λx14=>(bS 4 (aP 4) (jn (α:=l?) (jn (α:=Q?) (aI x.1.d (bX aM x14.2.1.d 4 λz20=>(bS 1 z20 (ay (bP (3,x14.1)) λy21=>(aH ((decide ((y21.1:Int)=2)),y21.2,x14.2))) (aH (aa,x14)))) (aH (aa,x14))) λx19=>(aI x19.1 U (aH x19.2))) λx18=>U) (aH x14))) (aH x10))) (aH x6))) (aH x2))) (aH (x.2,x.1.1,x.1.2.1,([]:η),([]:η),([]:η),([]:η)))) λx1=>(iter (σ:=O!) (λx22=>(jn (bS (bf x22.b) x.1.a (aH ((fQ x22.1.2 (bf x22.1.1)),x22)) (aH (aa,x22))) λA=>(aI A.1 (jn (α:=O!) (ay (rE ((A.a,A.b),A.2.1,A.h)) λD=>(bT (aA (ah A.s) (ah D.h)&&(aA (ah A.j) (ah D.c)&&(aA (ah A.f) (ah D.b)&&(aA (ah A.e) (ah D.a)&&J)))) (ay (sJ (A.b,A.a,D.1)) λy26=>(aI (!y26.2) (aH (D.2.1,A.a,A.b,A.c,D.2.2)) (jn (α:=ip×gz×eM×(Y gx)×gx×gz×(η)×e?) (jn (bq D.1.2.1 3 (aH (J,D.2.1,A.a,A.b,A.c,D.1,y26.1,D.2.2)) (aH ((decide ((D.1.2.1:Int)=23)),D.2.1,A.a,A.b,A.c,D.1,y26.1,D.2.2))) λz=>(aI z.1 (bq z.e.1 0 (bX aM z.a.d 0 λz29=>(bT (be (ah z.j+ah ([z29])) 8) (aH (z.2.1,z.a,z.b,z.c,(0,z.e.2),z.f,(z.j++([z29])),z.s)))) (bq z.e.1 1 (bX aM z.a.d 1 λz30=>(bT (be (ah z.m+ah ([z30])) 8) (aH (z.2.1,z.a,z.b,z.c,(1,z.e.2),z.f,z.j,(z.m++([z30])),z.B)))) (bq z.e.1 2 (bX aM z.a.d 2 λz31=>(bT (be (ah z.o+ah ([z31])) 8) (aH (z.2.1,z.a,z.b,z.c,(2,z.e.2),z.f,z.j,z.m,(z.o++([z31])),z.w)))) (bq z.e.1 3 (bX aM z.a.d 3 λz32=>(bT (be (ah z.w+ah ([z32])) 8) (aH (z.2.1,z.a,z.b,z.c,(3,z.e.2),z.f,z.j,z.m,z.o,(z.w++([z32])))))) U)))) (aH z.2))) λx27=>(bT (be (ah x27.b+ah ([x27.c])) 88) (aH (x27.1,x27.e,x27.a,(x27.b++([x27.c])),x27.k)))))))) λx24=>(c5 x24)) (aH (A.c,A.2.1))))) (x1.1,x1.2.1,x1.a,([]:Y gx),x1.d))))
abbrev S!:=ip×eM×gz×(Y gx)×Y gx
def rF (x:n?):M n!:=
 (jn (bS 600 (bf x.1) (bT (dg 0 600&&dg 600 (ah x.1)) (aH (dF (aQ 600) x.1))) (aH x.1)) λx1=>(ay (oY ()) λy2=>(ay (oh y2) λy3=>(ay (bP (3,x1,0)) λy4=>(iter (σ:=Int×ip×eM×gz×Y gx) (λA=>(kq A.1 (bA .i64 (1+y4.1)) (bT (be (ah A.g+ah ([(0,20,A.1,0,0,([]:η),([]:η)),(A.1,1,(-1),0,(-1),([]:η),([]:η))])) 88) (c5 ((cW A.1),A.2.1,A.a,A.b,(A.g++([(0,20,A.1,0,0,([]:η),([]:η)),(A.1,1,(-1),0,(-1),([]:η),([]:η))]))))) (ay (iter (σ:=Int×S!) (λz=>(bS z.1 (bf A.g) (jn (α:=S!) (ko jF z.c z.1 λL=>(ay (sJ (z.a,z.b,L)) λy9=>(aI y9.2 (bT (be (ah z.h+ah ([L])) 88) (aH (z.2.1,z.a,y9.1,z.c,(z.h++([L]))))) (aH z.2)))) λx7=>(c5 ((cW z.1),x7))) (ay (ay (tG ((z.b,z.a,(Jr (mR x.2 0) 60),aa),z.2.1)) λD=>(bT (be (ah z.h+ah D.1) 88) (ay (vF (z.a,(z.h++D.1))) λy11=>(i_ y11.2 0 (ay (oY ()) λN=>(Z (N,([]:Y gx)))) (Z (z.a,(z.h++D.1))))))) λr=>Z (cv r)))) (0,A.2.1,A.a,A.b,A.g,([]:Y gx))) λr=>Z (cv r)))) (1,y4.2,y2,y3,[(0,1,(-1),0,(-1),([]:η),([]:η))]))))))
def mf (x:(η×(η)×η)×Int):M n!:=
 (bS 0 (bf x.1.2.2) (ay (rF (x.1.2.2,x.2)) λA=>(Z A)) (bT (dg 0 (Jr (bf x.1.2.1) x.2)&&dg (Jr (bf x.1.2.1) x.2) (ah x.1.2.1)) (ay (tM (x.1.1,(dF (aQ (Jr (bf x.1.2.1) x.2)) x.1.2.1))) λz=>(Z z))))
def Ok (o:M R) (Q:R->Prop):Prop:=∃y,o=Z y/\Q y
def Ok.mono {o:M R} {Q Q':R->Prop} (h:Ok o Q) (z:∀y,Q y->Q' y):Ok o Q':=by obtain⟨y,h1,A⟩:=h;exact⟨y,h1,z y A⟩
def aj {y:R} {Q:R->Prop} (h:Q y):Ok (Z y) Q:=⟨y,rfl,h⟩
def aqw {o:M R} {y:R} {Q:R->Prop} (e:o=Z y) (h:Q y):Ok o Q:=⟨y,e,h⟩
def bh {k:M R} {Q:R->Prop} (h:b=J) (z:Ok k Q):Ok (chk b λ_=>k) Q:=by subst h;exact z
def aO {t f:M R} {Q:R->Prop} (ht:b=J->Ok t Q) (hf:b=aa->Ok f Q):Ok (aI b t f) Q:=by
 cases b with
 |true=>exact ht rfl
 |false=>exact hf rfl
def fT {t f:M R} {Q:R->Prop} (h:b=J) (ht:Ok t Q):Ok (aI b t f) Q:=by subst h;exact ht
def fZ {t f:M R} {Q:R->Prop} (h:b=aa) (hf:Ok f Q):Ok (aI b t f) Q:=by subst h;exact hf
def aw {α:Type} {o:M α} {k:α->M R} {P:α->Prop} {Q:R->Prop} (h:Ok o P) (A:∀x,P x->Ok (k x) Q):Ok (ay o k) Q:=by
 obtain⟨x,rfl,z⟩:=h;exact A x z
def aV {α:Type} {o:M α} {k:α->M R} {x:α} {Q:R->Prop} (h:o=Z x) (z:Ok (k x) Q):Ok (ay o k) Q:=by subst h;exact z
def aS {α:Type} {x:α} {k:α->M R} {Q:R->Prop} (h:Ok (k x) Q):Ok (lt x k) Q:=h
def aY {α:Type} {o:M (R⊕α)} {k:α->M R} {Q:R->Prop} (P:α->Prop) (h:Ok o λr=>match r with|.inl r=>Q r|.inr x=>P x) (A:∀x,P x->Ok (k x) Q):Ok (jn o k) Q:=by
 obtain⟨r,rfl,z⟩:=h;cases r with
 |inl r=>exact⟨r,rfl,z⟩
 |inr x=>exact A x z
def h_ {α:Type} {o:M (R⊕α)} {k:α->M R} {Q:R->Prop} (h:Ok o λr=>match r with|.inl r=>Q r|.inr x=>Ok (k x) Q):Ok (jn o k) Q:=aY (λx=>Ok (k x) Q) h λ_ h=>h
def ait {α:Type} {a b:α} {r:M R} {Q:R->Prop} (e:a=b) (h:Ok r Q):Ok (same a b r) Q:=by unfold same;rw[aC e];exact h
def ru {σ:Type} {f:σ->M (σ⊕R)} {Q:R->Prop} (μ:σ->Nat) (I:σ->Prop) (h:∀x,I x->Ok (f x) λr=>match r with|.inl y=>I y/\μ y<μ x|.inr r=>Q r) {x:σ} (A:I x):Ok (iter f x) Q:=by
 have key:∀n x,μ x<n->I x->∃m r,iterN f m x=Z r/\Q r:=by
  intro n;induction n with
  |zero=>intro x hm;omega
  |succ n D=>
   intro x hm A;obtain⟨r,h1,z⟩:=h x A;cases r with
   |inl y=>
    obtain⟨m,r,N,L⟩:=D y (by have:=z.2;omega) z.1;exact⟨m+1,r,by rw[iterN,h1];exact N,L⟩
   |inr r=>exact⟨1,r,by rw[iterN,h1],z⟩
 obtain⟨m,r,h1,z⟩:=key (μ x+1) x (nZ _) A;exact⟨r,Bi h1,z⟩
def cH {σ:Type} {f:σ->M (σ⊕R)} {Q:R->Prop} (n:Nat) (I:Nat->σ->Prop) (h0:∀i x,i<n->I i x->Ok (f x) λr=>match r with|.inl y=>I (i+1) y|.inr r=>Q r) (h1:∀x,I n x->Ok (f x) λr=>match r with|.inl _=>False|.inr r=>Q r) {x:σ} (D:I 0 x):Ok (iter f x) Q:=by
 have key:∀m i x,i+m=n->I i x->∃k r,iterN f k x=Z r/\Q r:=by
  intro m;induction m with
  |zero=>
   intro i x hi D;have:i=n:=by omega
   subst this;obtain⟨r,A,z⟩:=h1 x D;cases r with
   |inl y=>exact z.elim
   |inr r=>exact⟨1,r,by rw[iterN,A],z⟩
  |succ m L=>
   intro i x hi D;obtain⟨r,A,z⟩:=h0 i x (by omega) D;cases r with
   |inl y=>
    obtain⟨k,r,g3,N⟩:=L (i+1) y (by omega) z;exact⟨k+1,r,by rw[iterN,A];exact g3,N⟩
   |inr r=>exact⟨1,r,by rw[iterN,A],z⟩
 obtain⟨m,r,A,z⟩:=key n 0 x (by omega) D;exact⟨r,Bi A,z⟩
def itQ {σ:Type} (f:σ->M (σ⊕R)) (Q:R->Prop):σ⊕R->Prop
 |.inl y=>Ok (iter f y) Q
 |.inr r=>Q r
def jnQ {α:Type} (k:α->M R) (Q:R->Prop):R⊕α->Prop
 |.inl r=>Q r
 |.inr x=>Ok (k x) Q
def ais {σ:Type} {f:σ->M (σ⊕R)} {x:σ} {Q:R->Prop} (h:Ok (f x) (itQ f Q)):Ok (iter f x) Q:=by
 obtain⟨r,h1,D⟩:=h;cases r with
 |inr r=>exact⟨r,Bi (n:=1) (by rw[iterN,h1]),D⟩
 |inl y=>
  obtain⟨z,A,L⟩:=D;unfold iter at A;split at A
  .exact⟨z,Bi (n:=_+1) (by rw[iterN,h1];exact A),L⟩
  .cases A
def Zg {σ:Type} {f:σ->M (σ⊕R)} {y:σ} {Q:R->Prop} (h:Ok (iter f y) Q):Ok (Z (.inl y)) (itQ f Q):=⟨_,rfl,h⟩
def Zf {σ:Type} {f:σ->M (σ⊕R)} {r:R} {Q:R->Prop} (h:Ok (Z r) Q):Ok (Z (.inr r)) (itQ f Q):=by
 obtain⟨_,h1,z⟩:=h;cases h1;exact⟨_,rfl,z⟩
def Zd {α:Type} {o:M (R⊕α)} {k:α->M R} {Q:R->Prop} (h:Ok o (jnQ k Q)):Ok (jn o k) Q:=by
 obtain⟨r,rfl,z⟩:=h;cases r with
 |inl r=>exact⟨r,rfl,z⟩
 |inr x=>exact z
def Ze {α:Type} {r:R} {k:α->M R} {Q:R->Prop} (h:Ok (Z r) Q):Ok (Z (.inl r)) (jnQ k Q):=by
 obtain⟨_,h1,z⟩:=h;cases h1;exact⟨_,rfl,z⟩
def Zc {α:Type} {x:α} {k:α->M R} {Q:R->Prop} (h:Ok (k x) Q):Ok (Z (.inr x)) (jnQ k Q):=⟨_,rfl,h⟩
def oQ {α:Type} (k:α->M R) (Q:R->Prop) (x:α):Prop:=Ok (k x) Q
def Tt {α:Type} {o:M α} {k:α->M R} {Q:R->Prop} (h:Ok o (oQ k Q)):Ok (ay o k) Q:=aw h λ_ h=>h
def Ts {α:Type} {x:α} {k:α->M R} {Q:R->Prop} (h:Ok (k x) Q):Ok (Z x) (oQ k Q):=⟨_,rfl,h⟩
variable {a:Int}
def Q_ :fA a i=J↔0<=a/\a<i:=by simp[fA,dg,fQ]
def Ra {b:Int}:dg a b=J↔a<=b:=by simp[dg]
def te {b:Int}:fQ a b=J↔a<b:=by simp[fQ]
def gd {b:Int}:fQ a b=aa↔b<=a:=by simp[fQ]
def m_ {b:Int}:dg a b=aa↔b<a:=by simp[dg]
def aag :be i j=J↔i<=1099511627776/\i*j<=1099511627776:=by simp[be]
def cI {o:M R} {v:R} (h:Ok o (·=v)):o=Z v:=by obtain⟨y,h1,z⟩:=h;rw[h1,z]
section steps
variable {R:Type} {k t f:M R} {Q:R->Prop}
def aN (h0:0<=a) (h1:a<i) (z:Ok k Q):Ok (chk (fA a i) λ_=>k) Q:=bh (Q_.2 ⟨h0,h1⟩) z
def bl (h0:i<=1073741824) (h1:j<=1024) (z:Ok k Q):Ok (chk (be i j) λ_=>k) Q:=
 bh (aag.2 ⟨by omega,c8 (Nat.mul_le_mul h0 h1) (by omega)⟩) z
def a! {i j:Nat} (d:Ok k Q) (h:i<=1073741824:=by first|omega|(simp;omega)|(dsimp only;omega)) (g:j<=1024:=by omega):Ok (chk (be i j) λ_=>k) Q:=bl h g d
def db {a:Bool} (h:Ok (chk a λ_=>chk b λ_=>k) Q):Ok (chk (a&&b) λ_=>k) Q:=by
 cases a with
 |true=>exact h
 |false=>obtain⟨y,h,_⟩:=h;cases h
def eg {b:Int} (h:a<=b) (z:Ok k Q):Ok (chk (dg a b) λ_=>k) Q:=bh (Ra.2 h) z
def a? {a b:Int} (d:Ok k Q) (h:a<=b:=by first|omega|(simp;omega)|(dsimp only;omega)):Ok (chk (dg a b) λ_=>k) Q:=eg h d
def Ch {b:Int} (h:a<b) (z:Ok k Q):Ok (chk (fQ a b) λ_=>k) Q:=bh (te.2 h) z
def Zh {p:Prop} {i:Decidable p} (h:p) (z:Ok k Q):Ok (chk (decide p) λ_=>k) Q:=bh (aR h) z
def A_ {p:Prop} {i:Decidable p} (h:¬p) (z:Ok k Q):Ok (chk (!decide p) λ_=>k) Q:=bh (by simp[h]) z
def mK (h:i=j) (z:Ok k Q):Ok (chk (aA i j) λ_=>k) Q:=bh (by subst h;exact eW i) z
def C6 (z:Ok k Q):Ok (chk J λ_=>k) Q:=z
def bW {b:Int} (ht:a<b->Ok t Q) (hf:b<=a->Ok f Q):Ok (aI (fQ a b) t f) Q:=aO (λh=>ht (te.1 h)) (λh=>hf (gd.1 h))
def fF {b:Int} (ht:a<=b->Ok t Q) (hf:b<a->Ok f Q):Ok (aI (dg a b) t f) Q:=aO (λh=>ht (Ra.1 h)) (λh=>hf (m_.1 h))
def aJ {p:Prop} {i:Decidable p} (ht:p->Ok t Q) (hf:¬p->Ok f Q):Ok (aI (decide p) t f) Q:=aO (λh=>ht (bD h)) (λh=>hf (WD h))
def cz {p:Prop} {i:Decidable p} (ht:¬p->Ok t Q) (hf:p->Ok f Q):Ok (aI (!decide p) t f) Q:=aO (λh=>ht (by simpa using h)) (λh=>hf (by simpa using h))
def eJ (ht:b=aa->Ok t Q) (hf:b=J->Ok f Q):Ok (aI (!b) t f) Q:=aO (λh=>ht (by simpa using h)) (λh=>hf (by simpa using h))
def aet (ht:Ok t Q):Ok (aI J t f) Q:=ht
def gB (hf:Ok f Q):Ok (aI aa t f) Q:=hf
def cY (z:Ok k Q) (h0:0<=a:=by first|omega|(dsimp only;omega)) (h1:a<i:=by first|omega|(dsimp only;omega)):Ok (chk (fA a i) λ_=>k) Q:=aN h0 h1 z
def dy {b:Int} (ht:Ok t Q) (h:a<b:=by first|omega|(dsimp only[al];omega)):Ok (aI (fQ a b) t f) Q:=bW (λ_=>ht) λg=>co h (NC.2 g)
def du {b:Int} (hf:Ok f Q) (h:b<=a:=by first|omega|(dsimp only[al];omega)):Ok (aI (fQ a b) t f) Q:=bW (λg=>co g (NC.2 h)) λ_=>hf
end steps
def sw:(∀(p:Prop) [Decidable p],(decide p=J)=p)/\(∀p:Prop,(True\/p)=True)/\(∀p:Prop,(p\/True)=True)/\(∀p:Prop,(True->p)=p)/\(∀p:Prop,(True/\p)=p)/\∀p:Prop,(p/\True)=p:=⟨λ_=>bR,true_or,or_true,λ_=>true_implies _,true_and,and_true⟩
def uz:(∀i:Decidable True,@decide True i=J)/\(∀i:Decidable False,@decide False i=aa)/\(∀{R:Type} (t f:M R),aI J t f=t)/\(∀{R:Type} (t f:M R),aI aa t f=f)/\(∀{α R:Type} (x:α) (k:α->M R),jn (Z (.inr x)) k=k x)/\(∀{α R:Type} (r:R) (k:α->M R),jn (Z (.inl r)) k=Z r)/\(∀{α R:Type} (x:α) (k:α->M R),ay (Z x) k=k x)/\(∀{α R:Type} (x:α) (k:α->M R),lt x k=k x)/\(!J)=aa/\(!aa)=J:=⟨decide_true,decide_false,λ_ _=>rfl,λ_ _=>rfl,λ_ _=>rfl,λ_ _=>rfl,λ_ _=>rfl,λ_ _=>rfl,rfl,rfl⟩
structure IM (p q:Prop):Prop where
 h:p->q
inductive OS {R:Type}:Option R->(R->Prop)->Prop where
 |cand {a b:Bool} {k:Option R} {Q:R->Prop} (h:Ok (chk a λ_=>chk b λ_=>k) Q):OS (chk (a&&b) λ_=>k) Q
 |fA {j:Int} {n:Nat} {k:Option R} {Q:R->Prop} (h0:0<=j) (h1:j<n) (hk:Ok k Q):OS (chk (fA j n) λ_=>k) Q
 |room {n b:Nat} {k:Option R} {Q:R->Prop} (h0:n<=1073741824) (h1:b<=1024) (hk:Ok k Q):OS (chk (be n b) λ_=>k) Q
 |cile {a b:Int} {k:Option R} {Q:R->Prop} (h:a<=b) (hk:Ok k Q):OS (chk (dg a b) λ_=>k) Q
 |cilt {a b:Int} {k:Option R} {Q:R->Prop} (h:a<b) (hk:Ok k Q):OS (chk (fQ a b) λ_=>k) Q
 |cdec {p:Prop} {i:Decidable p} {k:Option R} {Q:R->Prop} (h:p) (hk:Ok k Q):OS (chk (decide p) λ_=>k) Q
 |cndec {p:Prop} {i:Decidable p} {k:Option R} {Q:R->Prop} (h:¬p) (hk:Ok k Q):OS (chk (!decide p) λ_=>k) Q
 |cbeq {a b:Nat} {k:Option R} {Q:R->Prop} (h:a=b) (hk:Ok k Q):OS (chk (aA a b) λ_=>k) Q
 |cT {k:Option R} {Q:R->Prop} (hk:Ok k Q):OS (chk J λ_=>k) Q
 |lt {α:Type} {x:α} {k:α->Option R} {Q:R->Prop} (h:Ok (k x) Q):OS (lt x k) Q
 |b1 {t f:Option R} {Q:R->Prop} (h:Ok t Q):OS (aI J t f) Q
 |b0 {t f:Option R} {Q:R->Prop} (h:Ok f Q):OS (aI aa t f) Q
 |fQ {a b:Int} {t f:Option R} {Q:R->Prop} (ht:IM (a<b) (Ok t Q)) (hf:IM (b<=a) (Ok f Q)):OS (aI (fQ a b) t f) Q
 |dg {a b:Int} {t f:Option R} {Q:R->Prop} (ht:IM (a<=b) (Ok t Q)) (hf:IM (b<a) (Ok f Q)):OS (aI (dg a b) t f) Q
 |dec {p:Prop} {i:Decidable p} {t f:Option R} {Q:R->Prop} (ht:IM p (Ok t Q)) (hf:IM (¬p) (Ok f Q)):OS (aI (decide p) t f) Q
 |ndec {p:Prop} {i:Decidable p} {t f:Option R} {Q:R->Prop} (ht:IM (¬p) (Ok t Q)) (hf:IM p (Ok f Q)):OS (aI (!decide p) t f) Q
 |not {b:Bool} {t f:Option R} {Q:R->Prop} (ht:IM (b=aa) (Ok t Q)) (hf:IM (b=J) (Ok f Q)):OS (aI (!b) t f) Q
 |aI {b:Bool} {t f:Option R} {Q:R->Prop} (ht:IM (b=J) (Ok t Q)) (hf:IM (b=aa) (Ok f Q)):OS (aI b t f) Q
 |jc {α:Type} {o:Option (R⊕α)} {k:α->Option R} {Q:R->Prop} (h:Ok o λr=>match r with|.inl r=>Q r|.inr x=>Ok (k x) Q):OS (jn o k) Q
 |some {y:R} {Q:R->Prop} (h:Q y):OS (Z y) Q
def OS.ok {o:M R} {Q:R->Prop} (h:OS o Q):Ok o Q:=by
 cases h with
 |cand h=>exact db h
 |fA a b h=>exact aN a b h
 |room a b h=>exact bl a b h
 |cile a h=>exact eg a h
 |cilt a h=>exact Ch a h
 |cdec a h=>exact Zh a h
 |cndec a h=>exact A_ a h
 |cbeq a h=>exact mK a h
 |cT h|lt h|b1 h|b0 h=>exact h
 |fQ a b=>exact bW a.h b.h
 |dg a b=>exact fF a.h b.h
 |dec a b=>exact aJ a.h b.h
 |ndec a b=>exact cz a.h b.h
 |not a b=>exact eJ a.h b.h
 |aI a b=>exact aO a.h b.h
 |jc h=>
  obtain⟨r,e,h⟩:=h;exact h_ ⟨r,e,by cases r<;>exact h⟩
 |some h=>exact aj h
def bcT (t f:M R):aI J t f=t:=rfl
def bcF (t f:M R):aI aa t f=f:=rfl
def jnr {α:Type} (x:α) (k:α->M R):jn (Z (.inr x)) k=k x:=rfl
def Zi {α:Type} (x:α) (k:α->M R):ay (Z x) k=k x:=rfl
inductive JY:Int->Prop where
 |k1:JY 1
 |k2:JY 2
 |k3:JY 3
 |k4:JY 4
 |k5:JY 5
 |k6:JY 6
 |k7:JY 7
 |k8:JY 8
 |k9:JY 9
 |k10:JY 10
 |k11:JY 11
 |k12:JY 12
 |k13:JY 13
 |k14:JY 14
 |k15:JY 15
 |k16:JY 16
 |k17:JY 17
 |k18:JY 18
 |k19:JY 19
 |k20:JY 20
 |k21:JY 21
 |k22:JY 22
 |k23:JY 23
 |no {k:Int} (h:¬k=1/\¬k=2/\¬k=3/\¬k=4/\¬k=5/\¬k=6/\¬k=7/\¬k=8/\¬k=9/\¬k=10/\¬k=11/\¬k=12/\¬k=13/\¬k=14/\¬k=15/\¬k=16/\¬k=17/\¬k=18/\¬k=19/\¬k=20/\¬k=21/\¬k=22/\¬k=23) (h2:k<1\/23<k):JY k
def kdI (k:Int):JY k:=by
 by_cases h:k<1\/23<k
 .exact .no (by omega) h
 .have:k=1\/k=2\/k=3\/k=4\/k=5\/k=6\/k=7\/k=8\/k=9\/k=10\/k=11\/k=12\/k=13\/k=14\/k=15\/k=16\/k=17\/k=18\/k=19\/k=20\/k=21\/k=22\/k=23:=by omega
  repeat' (rcases this with rfl|this)
  all_goals first|(subst this;constructor)|constructor
def iW {n:Int} (h0: -9223372036854775808<=n:=by omega) (h1:n<=9223372036854775807:=by omega):bA .i64 n=n:=by
 rw[J4];unfold O2;simp[dg,h0,h1]
def gM (h:i<9223372036854775807:=by omega):bA .i64 ((i:Int)+1)=((i+1:Nat):Int):=by rw[iW];omega
variable {T:Ty}
def zM (xs:Y T.den) (i:Nat):geti _ xs (i:Int)=xs.getD i T.zero:=by unfold geti;simp
def CR (xs:η) (i:Nat):geti aM xs (i:Int)=xs.getD i 0:=zM (T:=aM) xs i
def b8 {xs:Y T.den} {j:Int} (h0:0<=j) (h1:j<l! xs):geti _ xs j∈xs:=by
 unfold geti;rw[ax,aD (by omega)];exact Et _
def ca (xs:Y R) (j:Int) (x:R):l! (cN xs j x)=l! xs:=by unfold cN;simp
def EO {xs:Y R} {x y:R} (h:y∈cN xs a x):y∈xs\/y=x:=List.mem_or_eq_of_mem_set h
def g9 {σ:Type} {f:σ->M (σ⊕R)} {Q:R->Prop} (n:Nat) (hn:n<=1000000) (I:Nat->σ->Prop) (h0:∀i x,i<n->I i x->Ok (f x) λr=>match r with|.inl y=>I (i+1) y|.inr r=>Q r) (h1:∀x,I n x->Ok (f x) λr=>match r with|.inl _=>False|.inr r=>Q r) {x:σ} (D:I 0 x):Ok (gT f x) Q:=by
 have key:∀m i x,i+m=n->I i x->∃r,iterN f (m+1) x=Z r/\Q r:=by
  intro m;induction m with
  |zero=>
   intro i x hi D;have:i=n:=by omega
   subst this;obtain⟨r,A,z⟩:=h1 x D;cases r with
   |inl y=>exact z.elim
   |inr r=>exact⟨r,by rw[iterN,A],z⟩
  |succ m L=>
   intro i x hi D;obtain⟨r,A,z⟩:=h0 i x (by omega) D;cases r with
   |inl y=>
    obtain⟨r,g3,N⟩:=L (i+1) y (by omega) z;exact⟨r,by rw[iterN,A];exact g3,N⟩
   |inr r=>exact⟨r,yg (n:=1) (by rw[iterN,A]) (by omega),z⟩
 obtain⟨r,A,z⟩:=key n 0 x (by omega) D;exact⟨r,yg A (by omega),z⟩
def aes {σ:Type} {f:σ->M (σ⊕R)} {Q:R->Prop} (n:Nat) (μ:σ->Nat) (I:σ->Prop) (h:∀x,I x->Ok (f x) λr=>match r with|.inl y=>I y/\μ y<μ x|.inr r=>Q r) {x:σ} (L:μ x<=n/\n<=1000000) (A:I x):Ok (gT f x) Q:=by
 have key:∀n x,μ x<n->I x->∃r,iterN f n x=Z r/\Q r:=by
  intro n;induction n with
  |zero=>intro x hm;omega
  |succ n D=>
   intro x hm A;obtain⟨r,h1,z⟩:=h x A;cases r with
   |inl y=>
    obtain⟨r,h3,N⟩:=D y (by have:=z.2;omega) z.1;exact⟨r,by rw[iterN,h1];exact h3,N⟩
   |inr r=>exact⟨r,by rw[iterN,h1],z⟩
 obtain⟨r,h1,z⟩:=key (n+1) x (Nat.lt_succ_of_le L.1) A;exact⟨r,yg h1 (by omega),z⟩
abbrev WT:Type:=Y (ζ×Int×Int×Bool×Int)×Y (ζ×Bool)×Y (ζ×Int)×Y ζ×Y ζ×Y π
abbrev SY:Type:=Y (Int×η)×Int×θ×Y (Int×Int×Bool)
def afm (a b:Int):rI (a,b)=Z (decide (0<=a/\a<b)):=by
 refine cI ?_;unfold rI kq aH;with_reducible repeat' first|apply OS.ok;constructor|refine IM.mk λ_=>?_
 .by_cases h:a<b<;>simp[*,fQ]
 .simp;omega
def YP (l:η) (n:Int) (L:l! l<=1000000):rJ (l,n)=Z (l.contains n):=by
 refine cI ?_;unfold rJ bq bS bX bf c5 aH cW;refine cH (l! l) (λi x=>x=(i:Int)/\∀k,k<i->l.getD k 0≠n) ?_ ?_ ⟨rfl,λk z=>by omega⟩
 .rintro i x hi ⟨rfl,A⟩;with_reducible repeat' first|apply OS.ok;constructor|refine IM.mk λ_=>?_
  all_goals try simp only[al,sw] at*
  .omega
  .omega
  .rename_i h;rw[CR]at h;show J=_
   symm
   rw[uv,<-h,ax,aD hi];exact Et _
  .rename_i h;rw[CR]at h;refine ⟨gM,λk z=>?_⟩;rcases bx k i with h1|h1
   .exact A k h1
   .rw[show k=i by omega];exact h
  .omega
 .rintro x ⟨rfl,A⟩;with_reducible repeat' first|apply OS.ok;constructor|refine IM.mk λ_=>?_
  all_goals try simp only[al,sw] at*
  .omega
  .omega
  .omega
  .omega
  .symm
   rw[Qq];intro D;rw[uv]at D;obtain⟨k,z,he⟩:=List.getElem_of_mem D;exact A k z (by rw[ax,aD z];exact he)
def iP {xs:Y T.den} {p:T.den->Prop} (h:∀k:Nat,k<ah xs->p (geti _ xs (k:Int))):∀c∈xs,p c:=λc A=>by
 obtain⟨k,z,he⟩:=List.getElem_of_mem A;have:=h k z;rw[zM,ax,aD z,nY,he]at this;exact this
def So (w:WT) (s:SY) (hw:l! w.2.2.1<=1000000):Ok (sL (w,s)) λb=>b=J->(∀c∈w.2.2.1,0<=c.2/\c.2<l! w.2.1)/\l! s.1=l! w.2.1/\l! s.2.2.1=l! w.2.2.2.1/\l! s.2.2.2=l! w.2.2.2.2.1:=by
 unfold sL a8 bt bI dj bq bS bX bf c5 aH cW;refine cH (l! w.2.2.1) (λi x=>x.1=(i:Int)/\x.2=(w,s)/\∀k:Nat,k<i->0<=(geti nX w.2.2.1 (k:Int)).2/\(geti nX w.2.2.1 (k:Int)).2<l! w.2.1) ?_ ?_ ⟨rfl,rfl,λk hk=>by omega⟩
 .rintro i ⟨N,L⟩ hi ⟨A,z,D⟩;dsimp only at A z;subst A z;with_reducible repeat' first|apply OS.ok;constructor|refine IM.mk λ_=>?_
  all_goals try simp only[al,sw] at*
  all_goals first|omega|skip
  .intro h;cases h
  .intro h;cases h
  .refine ⟨gM,λk hk=>?_⟩;rcases bx k i with h1|h1
   .exact D k h1
   .rename_i h2 h3;rw[show k=i by omega];exact⟨h2,h3⟩
 .rintro⟨N,L⟩ ⟨A,z,D⟩;dsimp only at A z;subst A z;with_reducible repeat' first|apply OS.ok;constructor|refine IM.mk λ_=>?_
  all_goals try simp only[al,sw] at*
  all_goals first|omega|skip
  refine aw (P:=λb=>b=J->l! s.1=l! w.2.1/\l! s.2.2.1=l! w.2.2.2.1/\l! s.2.2.2=l! w.2.2.2.2.1) ?_ ?_
  .with_reducible repeat' first|apply OS.ok;constructor|refine IM.mk λ_=>?_
   all_goals try simp only[al,sw] at*
   .intro h;omega
   .intro h;cases h
   .intro h;cases h
  .intro b hb;with_reducible repeat' first|apply OS.ok;constructor|refine IM.mk λ_=>?_
   exact λh=>⟨iP (T:=nX) D,hb h⟩
structure NM (w:WT) (k o:Int):Prop where
 k1:1<=k
 k2:k<=23
 ce:k=3\/k=4->0<=o/\o<l! w.1
 lk:6<=k/\k<=11->0<=o/\o<l! w.2.1
 cd:16<=k/\k<=19->0<=o/\o<l! w.2.2.1
 th:k=20\/k=21->0<=o/\o<l! w.2.2.2.2.1
 fu:k=22\/k=23->0<=o/\o<l! w.2.2.2.1
 no:k=1\/k=2\/k=5\/(12<=k/\k<=15)->o= -1
 mu:k=6\/k=7->(geti tY w.2.1 o).2=aa
 rw:8<=k/\k<=11->(geti tY w.2.1 o).2=J
def aey (w:WT) (k o:Int):Ok (vH (w,k,o)) λb=>b=J->NM w k o:=by
 unfold vH a8 bt bI cA bq bX bf aH;cases kdI k
 case no z _=>
  simp only[z,bz,bB,uz];exact aj nofun
 all_goals simp only[bz,bB,uz,afm]
 all_goals with_reducible repeat' first|apply OS.ok;constructor|refine IM.mk λ_=>?_
 all_goals try simp only[al,sw] at*
 all_goals first|omega|(intro h;cases h;done)|(intro h;constructor<;>first|omega|(intro A;first|omega|(simpa using h)))
structure SB (n:Nat) (s:SY):Prop where
 n1:n<=100000
 lk:l! s.1<=1000
 rd:∀l∈s.1,l! l.2<=n
 dn:l! s.2.2.1<=1000
 th:l! s.2.2.2<=1000
structure EN (w:WT) (s:SY) (t k o:Int):Prop where
 nm:NM w k o
 t0:0<=t
 t1:t<l! w.2.2.2.2.1
 cd:∀c∈w.2.2.1,0<=c.2/\c.2<l! w.2.1
 e1:l! s.1=l! w.2.1
 e2:l! s.2.2.1=l! w.2.2.2.1
 e3:l! s.2.2.2=l! w.2.2.2.2.1
structure Z' (w:WT) (s:SY) (t k o:Int):Prop where
 b:k=1->(geti iB s.2.2.2 t).1=1
 wk:k=17->(geti iB s.2.2.2 t).1=4/\(geti iB s.2.2.2 t).2.1=o/\(geti eA s.1 (geti nX w.2.2.1 o).2).1= -1
 r:k≠1->k≠17->(geti iB s.2.2.2 t).1=2
 aq:k=6\/k=8\/k=10->(geti eA s.1 o).1= -1
 wr:k=10->(geti eA s.1 o).2.length=0
 ra:k=8->(geti eA s.1 o).2.contains t=aa
 rl:k=7\/k=11->(geti eA s.1 o).1=t
 rr:k=9->(geti eA s.1 o).2.contains t=J
 xb:k=12->s.2.1= -1
 xe:k=13->s.2.1=t
 ab:k=14->(geti iB s.2.2.2 t).2.2=aa
 ae:k=15->(geti iB s.2.2.2 t).2.2=J
 nt:k=16\/k=18\/k=19->(geti eA s.1 (geti nX w.2.2.1 o).2).1=t
 sp:k=20->¬o=t/\(geti iB s.2.2.2 o).1=0
 jo:k=21->¬o=t/\(geti iB s.2.2.2 o).1=5
 se:k=22->geti (.bool) s.2.2.1 o=aa
 ge:k=23->geti (.bool) s.2.2.1 o=J
def Nz (w:WT) (s:SY) (D:SB i s) (hw:l! w.2.2.1<=1000) (t k o:Int):Ok (lx (w,s,t,k,o)) λb=>b=J->EN w s t k o/\Z' w s t k o:=by
 unfold lx a8 bt bI b_ dJ dj bq i_ bX bf aH;refine aY (λx=>x.2=(w,s)/\(x.1=aa->EN w s t k o)) ?_ ?_
 .refine aw (So w s (by omega)) λb N=>?_
  with_reducible repeat' first|apply OS.ok;constructor|refine IM.mk λ_=>?_
  .exact⟨rfl,nofun⟩
  .simp only[afm,Zi];with_reducible repeat' first|apply OS.ok;constructor|refine IM.mk λ_=>?_
   .exact⟨rfl,nofun⟩
   .refine aw (aey w k o) λc L=>?_
    with_reducible repeat' first|apply OS.ok;constructor|refine IM.mk λ_=>?_
    all_goals try simp only[al,sw] at*
    rename_i h1 h2;obtain⟨f1,f2,f3,f4⟩:=N h1;exact λh=>⟨L (by simpa using h),by omega,by omega,f1,f2,f3,f4⟩
 .rintro⟨x1,x2⟩ ⟨z,A⟩;dsimp only at z A;subst z;refine aO (λh=>aj λh=>by cases h) (λh=>?_);have he:=A h;obtain⟨nm,t0,t1,cd,e1,e2,e3⟩:=id he;obtain⟨_,_,ce,lk,cn,th,fu⟩:=nm;have hm:16<=k/\k<=19->0<=(geti nX w.2.2.1 o).2/\(geti nX w.2.2.1 o).2<l! w.2.1:=λh=>cd _ (b8 (cn h).1 (cn h).2)
  have hH:6<=k/\k<=11->rJ ((geti eA s.1 o).2,t)=Z ((geti eA s.1 o).2.contains t):=λh=>YP _ _ (by
   have:=D.rd _ (b8 (T:=eA) (lk h).1 (by have:=(lk h).2;omega));have:=D.n1;omega)
  cases kdI k
  case no hk _=>omega
  all_goals simp only[bz,bB,uz]
  all_goals with_reducible repeat' first|apply OS.ok;constructor|refine IM.mk λ_=>?_
  all_goals try simp only[hH (by omega),Zi]
  all_goals with_reducible repeat' first|apply OS.ok;constructor|refine IM.mk λ_=>?_
  all_goals try simp only[al,sw] at*
  all_goals first|omega|(intro h;cases h;done)|exact (hm ⟨by decide,by decide⟩).1|(rw [e1];exact (hm ⟨by decide,by decide⟩).2)|(intro h;refine ⟨he,?_⟩;constructor<;>first|omega|(intros;first|omega|assumption|(simpa using h)|exact⟨by assumption,by first|assumption|exact⟨by assumption,by assumption⟩⟩))|(refine ⟨he,?_⟩;constructor<;>first|omega|(intros;first|omega|assumption))
def m6:η->Int->η
 |[],n=>[n]
 |x::r,n=>if x<n then x::m6 r n else if x=n then x::r else n::x::r
def GR (n:Int):∀(i:Nat) (l:η),i<=l! l->(∀k,k<i->l.getD k 0<n)->m6 l n=l.take i++m6 (l.drop i) n
 |0,l,_,_=>by simp
 |i+1,[],h,_=>by simp at h
 |i+1,x::r,h,z=>by
  have h0:=z 0 (by omega);simp at h0;have:=GR n i r (by simpa using h) (λk A=>by have:=z (k+1) (by omega);simpa using this);rw[m6,aC h0,this,xF,xH,gG]
def H_ (n:Int):∀l:η,l! (m6 l n)<=l! l+1
 |[]=>by simp[m6]
 |x::r=>by
  have:=H_ n r;rw[m6];split
  .simp;omega
  .split<;>simp
def KP {n y:Int}:∀{l:η},y∈m6 l n↔y=n\/y∈l
 |[]=>by simp[m6]
 |x::r=>by
  have:=KP (n:=n) (y:=y) (l:=r);rw[m6];split
  .simp[this];constructor
   .rintro (h|h|h)<;>simp[h]
   .rintro (h|h|h)<;>simp[h]
  .split
   .rename_i h;subst h;simp
   .simp
def JZ:η->Prop
 |[]=>True
 |x::r=>(∀y∈r,x<y)/\JZ r
def Tp :∀{l:η},JZ l->JZ (m6 l a)
 |[],_=>by simp[m6,JZ]
 |x::r,h=>by
  rw[m6];split
  .rename_i A;refine ⟨λy z=>?_,Tp h.2⟩;rcases KP.1 z with rfl|z
   .exact A
   .exact h.1 y z
  .split
   .exact h
   .rename_i h1 D;refine ⟨λy z=>?_,h⟩;rcases aZ.1 z with rfl|z
    .omega
    .have:=h.1 y z;omega
def aha (l:η) (n:Int) (hl:l! l<=1000000):ya (l,n)=Z (m6 l n):=by
 refine cI ?_;unfold ya bS bT bX bf c5 aH cW;have fin:∀i:Nat,i<=l! l->(∀k,k<i->l.getD k 0<n)->(i<l! l->¬l.getD i 0<n/\l.getD i 0≠n)->l.take i++[n]++l.drop i=m6 l n:=λi hi L hn=>by
  rw[GR n i l hi L];cases hd:l.drop i with
  |nil=>simp[m6]
  |cons y r=>
   have hlt:i<l! l:=by
    rcases bx i (l! l) with h|h
    .exact h
    .rw[List.drop_eq_nil_of_le h]at hd;cases hd
   have A:l.getD i 0=y:=by
    rw[ax,<-List.head?_drop,hd];rfl
   obtain⟨h1,N⟩:=hn hlt;rw[A]at h1 N;rw[m6,av h1,av N];simp
 refine cH (l! l) (λi x=>x=(i:Int)/\∀k,k<i->l.getD k 0<n) ?_ ?_ ⟨rfl,λk L=>by omega⟩
 .rintro i x hi ⟨rfl,z⟩;by_cases hlt:l.getD i 0<n
  .with_reducible repeat' first|apply OS.ok;constructor|refine IM.mk λ_=>?_
   all_goals try simp only[al,sw] at*
   all_goals first|omega|skip
   .refine ⟨gM,λk L=>?_⟩;rcases bx k i with h1|h1
    .exact z k h1
    .rw[show k=i by omega];exact hlt
   .rename_i h;exact co hlt (NC.2 h)
  .have key:l.getD i 0=n->m6 l n=l:=λhe=>by
    rw[GR n i l (by omega) z];cases hd:l.drop i with
    |nil=>have:=dT ah hd;simp at this;omega
    |cons y r=>
     have A:l.getD i 0=y:=by rw[ax,<-List.head?_drop,hd];rfl
     rw[A]at he;rw[m6,av (by omega),aC he,<-hd,Dz]
   with_reducible repeat' first|apply OS.ok;constructor|refine IM.mk λ_=>?_
   all_goals try simp only[al,sw] at*
   all_goals first|omega|skip
   .rename_i h;exact co h hlt
   .refine aw (P:=λr=>r=m6 l n) ?_ λr D=>aj D
    with_reducible repeat' first|apply OS.ok;constructor|refine IM.mk λ_=>?_
    all_goals try simp only[al,sw] at*
    all_goals first|omega|skip
    .rename_i h;exact (key h).symm
    .simp;omega
    .simp;omega
    .simp;omega
    .rename_i h;simpa using fin i (by omega) z (λ_=>⟨hlt,h⟩)
 .rintro x ⟨rfl,z⟩;with_reducible repeat' first|apply OS.ok;constructor|refine IM.mk λ_=>?_
  all_goals try simp only[al,sw] at*
  all_goals first|omega|skip
  refine aw (P:=λr=>r=m6 l n) ?_ λr D=>aj D
  with_reducible repeat' first|apply OS.ok;constructor|refine IM.mk λ_=>?_
  all_goals try simp only[al,sw] at*
  all_goals first|omega|skip
  .simp;omega
  .simp;omega
  .simp;omega
  .simpa using fin (l! l) (by omega) z (λh=>by omega)
def yW (a b:η):η:=b.foldl m6 (a.foldl m6 [])
def ym:∀(b acc:η),l! (b.foldl m6 acc)<=l! acc+l! b
 |[],acc=>by simp
 |x::r,acc=>by
  have:=ym r (m6 acc x);have:=H_ x acc;rw[t_,bK];omega
def L4:∀{b acc:η},JZ acc->JZ (b.foldl m6 acc)
 |[],_,h=>h
 |x::r,acc,h=>by rw[t_];exact L4 (Tp h)
def L3 :∀{b acc:η},a∈b.foldl m6 acc↔a∈acc\/a∈b
 |[],acc=>by simp
 |x::r,acc=>by
  rw[t_,L3,KP];simp;constructor
  .rintro ((h|h)|h)<;>simp[h]
  .rintro (h|h|h)<;>simp[h]
def SA (a b:η):JZ (yW a b):=L4 (L4 trivial)
variable {c:η}
def KA {b:η} {y:Int}:y∈yW c b↔y∈c\/y∈b:=by unfold yW;rw[L3,L3];simp
def adr (a b:η):l! (yW a b)<=l! a+l! b:=by
 have:=ym b (a.foldl m6 []);have:=ym a [];unfold yW;simp at *;omega
def Pz {acc:η} (hi:i<l! c):(c.take (i+1)).foldl m6 acc=m6 ((c.take i).foldl m6 acc) (c.getD i 0):=by
 rw[pW hi,eO,ax,aD hi];rfl
def Wb (a b:η) (ha:l! a<=400000) (hb:l! b<=400000):sM (a,b)=Z (yW a b):=by
 refine cI ?_;unfold sM bS bX bf c5 aH cW;refine cH (l! a) (λi x=>x.2=(i:Int)/\x.1=(a.take i).foldl m6 []) ?_ ?_ ⟨rfl,rfl⟩
 .rintro i ⟨D,A⟩ hi ⟨h1,z⟩;dsimp only at h1 z;subst h1 z;have L:l! ((a.take i).foldl m6 [])<=1000000:=by have:=ym (a.take i) [];have:=nu i a;simp at *;omega
  with_reducible repeat' first|apply OS.ok;constructor|refine IM.mk λ_=>?_
  all_goals try simp only[al,sw] at*
  all_goals first|omega|skip
  refine aV (aha _ _ L) (aj ?_);dsimp only;refine ⟨gM,?_⟩;rw[CR,Pz hi]
 .rintro⟨D,A⟩ ⟨h1,z⟩;dsimp only at h1 z;subst h1 z;rw[cr];have hla:=ym a [];with_reducible repeat' first|apply OS.ok;constructor|refine IM.mk λ_=>?_
  all_goals try simp only[al,sw] at*
  all_goals first|omega|skip
  refine aw (P:=λr=>r=yW a b) ?_ λr N=>aj N
  refine cH (l! b) (λi x=>x.2=(i:Int)/\x.1=(b.take i).foldl m6 (a.foldl m6 [])) ?_ ?_ ⟨rfl,rfl⟩
  .rintro i ⟨D,A⟩ hi ⟨h1,z⟩;dsimp only at h1 z;subst h1 z;have L:l! ((b.take i).foldl m6 (a.foldl m6 []))<=1000000:=by have:=ym (b.take i) (a.foldl m6 []);have:=nu i b;simp at *;omega
   with_reducible repeat' first|apply OS.ok;constructor|refine IM.mk λ_=>?_
   all_goals try simp only[al,sw] at*
   all_goals first|omega|skip
   refine aV (aha _ _ L) (aj ?_);dsimp only;refine ⟨gM,?_⟩;rw[CR,Pz hi]
  .rintro⟨D,A⟩ ⟨h1,z⟩;dsimp only at h1 z;subst h1 z;rw[cr];with_reducible repeat' first|apply OS.ok;constructor|refine IM.mk λ_=>?_
   all_goals try simp only[al,sw] at*
   all_goals first|omega|rfl
def NK (c:Int) (x:g?):Bool:=decide (x.1=3)&&decide (x.2.1=c)
def wl (th:Y g?) (c:Int):Nat->η
 |0=>[]
 |i+1=>if NK c (geti iB th (i:Int)) then wl th c i++[(i:Int)] else wl th c i
def xg (th:Y g?) (c:Int):∀i,l! (wl th c i)<=i
 |0=>bV _
 |i+1=>by have:=xg th c i;rw[wl];split<;>simp<;>omega
def xf {th:Y g?} {c u:Int}:∀{i:Nat},u∈wl th c i↔0<=u/\u<i/\NK c (geti iB th u)=J
 |0=>by simp[wl];omega
 |i+1=>by
  have z:= @xf th c u i;rw[wl];by_cases A:u=(i:Int)
  .subst A;split
   .rename_i h;simp[h];omega
   .rename_i h;rw[z];simp[h]
  .split
   .rw[bG,z,aE];constructor
    .rintro (h|h)
     .exact⟨h.1,by omega,h.2.2⟩
     .exact co h A
    .intro h;exact .inl ⟨h.1,by omega,h.2.2⟩
   .rw[z];constructor
    .intro h;exact⟨h.1,by omega,h.2.2⟩
    .intro h;exact⟨h.1,by omega,h.2.2⟩
variable {r:Y (Int×Int×Bool)}
def aqi (h1:(geti iB r (i:Int)).1=3) (z:(geti iB r (i:Int)).2.1=a):wl r a (i+1)=wl r a i++[(i:Int)]:=by
 rw[wl,aC];unfold NK;rw[h1,z];simp
def alq (h1:¬(geti iB r (i:Int)).1=3):wl r a (i+1)=wl r a i:=by
 rw[wl,av];unfold NK;rw[cD h1];simp
def alp (h1:¬(geti iB r (i:Int)).2.1=a):wl r a (i+1)=wl r a i:=by
 rw[wl,av];unfold NK;rw[cD h1];simp
def YF (s:SY) (c:Int) (A:l! s.2.2.2<=1000):o7 (s,c)=Z (wl s.2.2.2 c (l! s.2.2.2)):=by
 refine cI ?_;unfold o7 b_ bq bS bT bX bf c5 aH cW;refine cH (l! s.2.2.2) (λi x=>x=((i:Int),s,wl s.2.2.2 c i)) ?_ ?_ rfl
 .rintro i x hi rfl;have D:=xg s.2.2.2 c i;with_reducible repeat' first|apply OS.ok;constructor|refine IM.mk λ_=>?_
  all_goals try simp only[al,sw] at*
  all_goals first|omega|skip
  all_goals first|(simp;omega)|skip
  .rename_i h1 z;rw[aqi h1 z,gM]
  .rename_i h1 z;rw[alp z,gM]
  .rename_i h1;rw[alq h1,gM]
 .rintro x rfl;with_reducible repeat' first|apply OS.ok;constructor|refine IM.mk λ_=>?_
  all_goals try simp only[al,sw] at*
  all_goals first|omega|rfl
def wo (l:η) (n:Int):η:=l.filter λx=> !decide (x=n)
def WE (l:η) (n:Int) (A:l! l<=1000000):rH (l,n)=Z (wo l n):=by
 refine cI ?_;unfold rH bS i_ bT bX bf c5 aH cW;refine cH (l! l) (λi x=>x=((i:Int),wo (l.take i) n)) ?_ ?_ rfl
 .rintro i x hi rfl;have z:l! (wo (l.take i) n)<=i:=c8 (DA ..) (nu ..);have ht:wo (l.take (i+1)) n=if geti aM l (i:Int)=n then wo (l.take i) n else wo (l.take i) n++[geti aM l (i:Int)]:=by
   unfold wo;rw[pW hi,List.filter_append,CR,ax,aD hi];by_cases h:l[i]=n<;>simp[h]
  with_reducible repeat' first|apply OS.ok;constructor|refine IM.mk λ_=>?_
  all_goals try simp only[al,sw] at*
  all_goals first|omega|skip
  .simp;omega
  .rename_i h;rw[ht,av h,gM]
  .rename_i h;rw[ht,aC h,gM]
 .rintro x rfl;with_reducible repeat' first|apply OS.ok;constructor|refine IM.mk λ_=>?_
  all_goals try simp only[al,sw] at*
  all_goals first|omega|(rw [cr])
def pJ {xs:Y T.den} (hi:i<ah xs):dF (i+1) xs=dF i xs++[geti _ xs (i:Int)]:=by
 rw[pW hi,zM,ax,aD hi];rfl
def sd (s:SY) (z:SB i s):iK s=Z (s.2.1,s.1,s.2.2.1,s.2.2.2):=by
 refine cI ?_;obtain⟨A,N,L,D⟩:=s;have hn:=z.n1;have g1:=z.lk;have g2:=z.dn;have g3:=z.th;dsimp only at g1 g2 g3;unfold iK a8 bt bI b_ dj bS bT bX bf c5 aH cW;with_reducible repeat' first|apply OS.ok;constructor|refine IM.mk λ_=>?_
 all_goals try simp only[al,sw] at*
 .simp;omega
 .omega
 .simp;omega
 .omega
 refine cH (l! A) (λn x=>x=((n:Int),(A,N,L,D),0,N,A.take n,L,D)) ?_ ?_ ?_
 .rintro n x hi rfl;have hg:=z.rd _ (b8 (T:=eA) (xs:=A) (j:=(n:Int)) (by omega) (by omega));with_reducible repeat' first|apply OS.ok;constructor|refine IM.mk λ_=>?_
  all_goals try simp only[al,sw] at*
  all_goals first|omega|skip
  .simp;omega
  .simp;omega
  .rw[gM,pJ (T:=eA) hi];rfl
 .rintro x rfl;with_reducible repeat' first|apply OS.ok;constructor|refine IM.mk λ_=>?_
  all_goals try simp only[al,sw] at*
  all_goals first|omega|skip
  simp
 .simp
def Jb (s:SY) (c:Int) (D:l! s.2.2.2<=1000):kx ((s.2.1,c),s.1,s.2.2.1,s.2.2.2)=Z (wl s.2.2.2 c (l! s.2.2.2)):=by
 refine cI ?_;unfold kx;refine aw (P:=λy=>y=(wl s.2.2.2 c (l! s.2.2.2),s.1,s.2.2.1,s.2.2.2)) ?_ λy A=>by subst A;exact ait rfl (aj rfl)
 unfold ny a8 bt bI b_ dj bq bS bT ko bf c5 aH cW;refine cH (l! s.2.2.2) (λi x=>x=((i:Int),s.1,s.2.2.1,s.2.2.2,s.2.1,wl s.2.2.2 c i)) ?_ ?_ rfl
 .rintro i x hi rfl;have L:=xg s.2.2.2 c i;with_reducible repeat' first|apply OS.ok;constructor|refine IM.mk λ_=>?_
  all_goals try simp only[al,sw] at*
  all_goals first|omega|skip
  all_goals first|(simp;omega)|skip
  .rename_i h1 z;rw[aqi h1 z,gM]
  .rename_i h1 z;rw[alp z,gM]
  .rename_i h1;rw[alq h1,gM]
 .rintro x rfl;with_reducible repeat' first|apply OS.ok;constructor|refine IM.mk λ_=>?_
  all_goals try simp only[al,sw] at*
  all_goals first|omega|rfl
structure AP (n:Nat) (s y:SY):Prop where
 a1:l! y.1=l! s.1
 a2:l! y.2.2.1=l! s.2.2.1
 a3:l! y.2.2.2=l! s.2.2.2
 rd:∀l∈y.1,l! l.2<=n+1
def AP.toSB {s y:SY} (h:AP i s y) (z:SB i s) (A:i+1<=100000):SB (i+1) y:=
 ⟨A,by rw[h.a1];exact z.lk,h.rd,by rw[h.a2];exact z.dn,by rw[h.a3];exact z.th⟩
def AP.same {s:SY} (z:SB i s) (x:Int) (d:θ) (t:Y g?) (hd:l! d=l! s.2.2.1) (ht:l! t=l! s.2.2.2):AP i s (s.1,x,d,t):=
 ⟨rfl,hd,ht,λl A=>fU (z.rd l A)⟩
def AP.set {s:SY} (z:SB i s) (j a:Int) (r:η) (A:l! r<=i+1) (x:Int) (d:θ) (t:Y g?) (hd:l! d=l! s.2.2.1) (ht:l! t=l! s.2.2.2):AP i s (cN s.1 j (a,r),x,d,t):=
 ⟨ca _ _ _,hd,ht,λl D=>by
   rcases EO D with h|rfl
   .exact fU (z.rd l h)
   .exact A⟩
def Eu (th:Y g?) (t st:Int):Y g?:=cN th t (st,(geti iB th t).2)
def owP (lk:Y k!) (o t:Int):Y k!:=cN lk o (t,(geti eA lk o).2)
def rdP (lk:Y k!) (o:Int) (l:η):Y k!:=cN lk o ((geti eA lk o).1,l)
def cdP (th:Y g?) (t c:Int):Y g?:=cN th t ((geti iB th t).1,c,(geti iB th t).2.2)
def atP (th:Y g?) (t:Int) (b:Bool):Y g?:=cN th t ((geti iB th t).1,(geti iB th t).2.1,b)
def Jm (th:Y g?) (l:η):Y g?:=l.foldl (λx u=>Eu x u 4) th
def Dr (l:η) (u:Int):Int:=if (l! l)=0 then -1 else if l.contains u then u else geti aM l 0
def muP (w:WT) (o:Int):Int:=(geti nX w.2.2.1 o).2
def xy (w:WT) (s:SY) (t k o u:Int):SY×Int:=
 if k=1 then ((s.1,s.2.1,s.2.2.1,Eu s.2.2.2 t 2),0)
 else if k=2 then ((s.1,s.2.1,s.2.2.1,Eu s.2.2.2 t 5),0)
 else if k=6\/k=10 then ((owP s.1 o t,s.2),0)
 else if k=7\/k=11 then ((owP s.1 o (-1),s.2),0)
 else if k=8 then ((rdP s.1 o (yW (geti eA s.1 o).2 [t]),s.2),0)
 else if k=9 then ((rdP s.1 o (wo (geti eA s.1 o).2 t),s.2),0)
 else if k=12 then ((s.1,t,s.2.2),0)
 else if k=13 then ((s.1,-1,s.2.2),0)
 else if k=14 then ((s.1,s.2.1,s.2.2.1,atP s.2.2.2 t J),0)
 else if k=15 then ((s.1,s.2.1,s.2.2.1,atP s.2.2.2 t aa),0)
 else if k=16 then ((owP s.1 (muP w o) (-1),s.2.1,s.2.2.1,cdP (Eu s.2.2.2 t 3) t o),0)
 else if k=17 then ((owP s.1 (muP w o) t,s.2.1,s.2.2.1,cdP (Eu s.2.2.2 t 2) t 0),0)
 else if k=18 then (if (l! (wl s.2.2.2 o (l! s.2.2.2)))=0 then (s,-1) else ((s.1,s.2.1,s.2.2.1,Eu s.2.2.2 (Dr (wl s.2.2.2 o (l! s.2.2.2)) u) 4),Dr (wl s.2.2.2 o (l! s.2.2.2)) u))
 else if k=19 then ((s.1,s.2.1,s.2.2.1,Jm s.2.2.2 (wl s.2.2.2 o (l! s.2.2.2))),(l! (wl s.2.2.2 o (l! s.2.2.2)):Int))
 else if k=20 then ((s.1,s.2.1,s.2.2.1,Eu s.2.2.2 o 1),0)
 else if k=22 then ((s.1,s.2.1,cN s.2.2.1 o J,s.2.2.2),0)
 else (s,0)
def Ke (l:η):∀th,l! (Jm th l)=l! th:=by
 induction l with
 |nil=>intro th;rfl
 |cons x r z=>intro th;unfold Jm;rw[t_];exact (z _).trans (ca ..)
def aez (hi:i<l! c):Jm r (c.take (i+1))=Eu (Jm r (c.take i)) (geti aM c (i:Int)) 4:=by
 unfold Jm;rw[pW hi,eO,CR,ax,aD hi];rfl
def Kq (u:Int) (z:¬l! c=0):Dr c u∈c:=by
 unfold Dr;rw[av z];split
 .rename_i h;exact uv.1 h
 .exact b8 (T:=aM) (by omega) (by omega)
def Ww (w:WT) (s:SY) (z:SB i s) (hw:l! w.2.2.1<=1000) (t k o u:Int):Ok (qH (w,s,t,k,o,u)) λy=>(y.2.2=J->EN w s t k o/\Z' w s t k o/\AP i s y.1/\(y.1,y.2.1)=xy w s t k o u)/\(y.2.2=aa->y.1=([],0,[],[]))/\(lx (w,s,t,k,o)=Z J->y.2.2=J):=by
 unfold qH a8 bt bI cA b_ dJ dj fD ck bq bS bX ko bf c5 aH cW;obtain⟨b,N,hb⟩:=Nz w s z hw t k o;refine aV N ?_;refine eJ (λh=>aj ⟨nofun,λ_=>rfl,λh2=>(by rw[N,h]at h2;cases h2)⟩) (λh=>?_);obtain⟨he,hry⟩:=hb h;refine aV (sd s z) ?_;suffices hmain:Ok _ _ from aY (λx=>AP i s (x.2.2.2.1,x.2.1,x.2.2.2.2)/\((x.2.2.2.1,x.2.1,x.2.2.2.2),x.1)=xy w s t k o u) hmain λx hx=>aj ⟨λ_=>⟨he,hry,hx⟩,nofun,λ_=>rfl⟩
 obtain⟨nm,t0,t1,cd,e1,e2,e3⟩:=id he;obtain⟨_,_,ce,lk,cn,th,fu⟩:=nm;have hn:=z.n1;have hlk:=z.lk;have hm:16<=k/\k<=19->0<=(geti nX w.2.2.1 o).2/\(geti nX w.2.2.1 o).2<l! w.2.1:=λh=>cd _ (b8 (cn h).1 (cn h).2)
 have L:∀j:Int,0<=j->j<l! s.1->(geti eA s.1 j).2.length<=i:=λj h0 h1=>z.rd _ (b8 (T:=eA) h0 h1)
 cases kdI k
 case no hk _=>omega
 all_goals simp only[bz,bB,uz]
 all_goals with_reducible repeat' first|apply OS.ok;constructor|refine IM.mk λ_=>?_
 all_goals try simp only[al,sw] at*
 all_goals try rw[ca]
 all_goals first|omega|exact (hm ⟨by decide,by decide⟩).1|exact e1▸(hm ⟨by decide,by decide⟩).2|exact⟨AP.same z _ _ _ rfl rfl,rfl⟩|exact⟨AP.same z _ _ _ rfl (ca _ _ _),rfl⟩|exact⟨AP.same z _ _ _ (ca _ _ _) rfl,rfl⟩|skip
 all_goals try exact⟨AP.set z _ _ _ (fU (L o (by omega) (by omega))) _ _ _ rfl rfl,rfl⟩
 .have:=L o (by omega) (by omega);refine aV (Wb _ _ (c8 this (by have:=z.n1;omega)) (by simp)) ?_;with_reducible repeat' first|apply OS.ok;constructor|refine IM.mk λ_=>?_
  all_goals try simp only[al,sw] at*
  all_goals first|omega|skip
  exact⟨AP.set z _ _ _ (by have:=adr (geti eA s.1 o).2 [t];simp at this;omega) _ _ _ rfl rfl,rfl⟩
 .have:=L o (by omega) (by omega);have hl:l! (wo (geti eA s.1 o).2 t)<=(geti eA s.1 o).2.length:=DA ..;refine aV (WE _ _ (by omega)) ?_;with_reducible repeat' first|apply OS.ok;constructor|refine IM.mk λ_=>?_
  all_goals try simp only[al,sw] at*
  all_goals first|omega|skip
  exact⟨AP.set z _ _ _ (c8 hl (by omega)) _ _ _ rfl rfl,rfl⟩
 .exact⟨AP.set z _ _ _ (fU (L _ (hm ⟨by decide,by decide⟩).1 (by rw[e1];exact (hm ⟨by decide,by decide⟩).2))) _ _ _ rfl (by rw[ca,ca]),rfl⟩
 .exact⟨AP.set z _ _ _ (fU (L _ (hm ⟨by decide,by decide⟩).1 (by rw[e1];exact (hm ⟨by decide,by decide⟩).2))) _ _ _ rfl (by rw[ca,ca]),rfl⟩
 .refine aV (Jb s o z.th) ?_;have hth:=z.th;have hll:=xg s.2.2.2 o (l! s.2.2.2);have hml:∀u∈wl s.2.2.2 o (l! s.2.2.2),0<=u/\u<l! s.2.2.2:=λu D=>⟨(xf.1 D).1,(xf.1 D).2.1⟩
  have hap:xy w s t 18 o u=if (l! (wl s.2.2.2 o (l! s.2.2.2)))=0 then (s,-1) else ((s.1,s.2.1,s.2.2.1,Eu s.2.2.2 (Dr (wl s.2.2.2 o (l! s.2.2.2)) u) 4),Dr (wl s.2.2.2 o (l! s.2.2.2)) u):=rfl
  unfold Dr at hap;revert hll hml hap;generalize wl s.2.2.2 o (l! s.2.2.2)=l;intro hll hml hap;with_reducible repeat' first|apply OS.ok;constructor|refine IM.mk λ_=>?_
  all_goals try simp only[al,sw] at*
  all_goals first|omega|skip
  .have A:=hml _ (b8 (T:=aM) (xs:=l) (j:=0) (by omega) (by omega));rw[av (by omega),av (by omega)]at hap;simp only[YP l u (by omega),Zi];refine aO (λhc=>?_) λhc=>?_
   .have D:=hml u (uv.1 hc);rw[hc,aC rfl]at hap;refine aj (aN D.1 D.2 (aN D.1 D.2 (aj ⟨AP.same z _ _ _ rfl (ca ..),?_⟩)));rw[hap];rfl
   .rw[hc,av (by decide)]at hap;refine aj (aN A.1 A.2 (aN A.1 A.2 (aj ⟨AP.same z _ _ _ rfl (ca ..),?_⟩)));rw[hap];rfl
  .rw[aC (by omega)]at hap;exact⟨AP.same z _ _ _ rfl rfl,hap.symm⟩
 .refine aV (Jb s o z.th) ?_;have hth:=z.th;have hll:=xg s.2.2.2 o (l! s.2.2.2);have hml:∀u∈wl s.2.2.2 o (l! s.2.2.2),0<=u/\u<l! s.2.2.2:=λu D=>⟨(xf.1 D).1,(xf.1 D).2.1⟩
  have hap:xy w s t 19 o u=((s.1,s.2.1,s.2.2.1,Jm s.2.2.2 (wl s.2.2.2 o (l! s.2.2.2))),(l! (wl s.2.2.2 o (l! s.2.2.2)):Int)):=rfl;rw[hap];clear hap;generalize wl s.2.2.2 o (l! s.2.2.2)=l at hll hml ⊢;refine cH (l! l) (λn x=>x=((n:Int),s.2.1,0,s.1,s.2.2.1,Jm s.2.2.2 (l.take n))) ?_ ?_ rfl
  .rintro n x hi rfl;have A:=hml _ (b8 (T:=aM) (xs:=l) (j:=(n:Int)) (by omega) (by omega));have hq:=Ke (l.take n) s.2.2.2;with_reducible repeat' first|apply OS.ok;constructor|refine IM.mk λ_=>?_
   all_goals try simp only[al,sw] at*
   all_goals first|omega|skip
   rw[gM,aez hi];rfl
  .rintro x rfl;rw[cr];with_reducible repeat' first|apply OS.ok;constructor|refine IM.mk λ_=>?_
   all_goals try simp only[al,sw] at*
   all_goals first|omega|skip
   exact AP.same z _ _ _ rfl (Ke ..)
abbrev SN:Type:=SY×η×B!
abbrev ET:Type:=Int×Int×Int×Int×Int×B!
def ar5 (a b:Int):E8 (a,b)=Z (decide (0<=a/\a<b)):=afm a b
structure NB (n:Nat) (s:SN):Prop where
 sb:SB n s.1
 c:l! s.2.1<=1000
 f:l! s.2.2.1<=1000
 k:l! s.2.2.2<=1000
structure SP (n:Nat) (s y:SN):Prop where
 ap:AP n s.1 y.1
 c:l! y.2.1=l! s.2.1
 f:l! y.2.2.1=l! s.2.2.1
 k:l! y.2.2.2=l! s.2.2.2
def SP.NB {s y:SN} (h:SP i s y) (z:NB i s) (A:i+1<=100000):NB (i+1) y:=
 ⟨h.ap.toSB z.sb A,by rw[h.c];exact z.c,by rw[h.f];exact z.f,by rw[h.k];exact z.k⟩
def sn0:SN:=(([],0,[],[]),[],[],[])
structure F16 (w:WT) (s:SN):Prop where
 c:l! s.2.1=l! w.1
 f:l! s.2.2.1=l! w.2.2.2.1
 k:l! s.2.2.2=l! w.2.2.2.2.1
def acu (w:WT) (s:SN) (z:l! w.2.2.1<=1000):Ok (xW (w,s)) λb=>b=J->F16 w s:=by
 unfold xW a8 bt bI dJ bq bf aH;refine h_ (aw (So w s.1 (by omega)) λb A=>?_);with_reducible repeat' first|apply OS.ok;constructor|refine IM.mk λ_=>?_
 all_goals try simp only[al,sw] at*
 all_goals first|(intro h;constructor<;>omega)|(intro h;cases h;done)
def ZZ:∀(l:η),(∀k:Nat,k+1<l! l->l.getD k 0<l.getD (k+1) 0)->JZ l
 |[],_=>trivial
 |[x],_=>⟨λy L=>(by cases L),trivial⟩
 |x::y::r,h=>by
  have D:=ZZ (y::r) λk N=>by have:=h (k+1) (by simpa using N);simpa using this
  have h0:=h 0 (by simp);simp at h0;refine ⟨λz A=>?_,D⟩;rcases aZ.1 A with rfl|A
  .exact h0
  .have:=D.1 z A;omega
structure AN (c:Int) (l:η):Prop where
 a:JZ l
 m:∀x:Int,x∈l->1<=x/\x<c
def Ks:∀(l:η) (z hi:Int),JZ l->(∀y∈l,z<=y/\y<hi)->(l! l:Int)<=max 0 (hi-z)
 |[],z,hi,_,_=>by simp;omega
 |x::r,z,hi,h,hm=>by
  have h1:=hm x (cR ..);have D:=Ks r (x+1) hi h.2 λy A=>⟨by have:=h.1 y A;omega,(hm y (bM _ A)).2⟩
  rw[bK];omega
def AN.len {l:η} (h:AN a l):(l! l:Int)<=max 0 a:=by
 have:=Ks l 1 a h.a h.m;omega
def ano {l:Int} (L:∀k:Nat,k<i->1<=geti aM c (k:Int)/\geti aM c (k:Int)<l) (ha:∀k:Nat,k+1<i->c.getD k 0<c.getD (k+1) 0):(i:Int)<=max 0 l:=by
 have key:∀k:Nat,k<i->(k:Int)+1<=c.getD k 0:=by
  intro k;induction k with
  |zero=>intro D;have:=(L 0 D).1;rw[CR]at this;exact this
  |succ k N=>
   intro D;have h1:=N (by omega);have A:=ha k D;omega
 rcases s5 i with z|z
 .omega
 .have h1:=key (i-1) (by omega);have A:=(L (i-1) (by omega)).2;rw[CR]at A;have A:c.getD (i-1) 0<l:=A;omega
def La (l:η) (c:Int) (L:l! l<=1000000000\/c<=1000000000):Ok (oZ (l,c)) λb=>b=J->AN c l:=by
 unfold oZ bS kq bX bf c5 aH cW;refine cH (l! l) (λi x=>x=(i:Int)/\(∀k:Nat,k<i->1<=geti aM l (k:Int)/\geti aM l (k:Int)<c)/\∀k:Nat,k+1<i->l.getD k 0<l.getD (k+1) 0) ?_ ?_ ⟨rfl,λk z=>by omega,λk z=>by omega⟩
 .rintro i x hi ⟨rfl,A,D⟩;have hbd:i<=1000000000:=by
   have:=ano A D;rcases L with L|L<;>omega
  have N:0<(i:Int)->bA .i64 ((i:Int)-1)=((i-1:Nat):Int):=λh=>by rw[iW];omega
  have hq:(0<i->l.getD (i-1) 0<l.getD i 0)->1<=geti aM l (i:Int)/\geti aM l (i:Int)<c->bA .i64 ((i:Int)+1)=((i+1:Nat):Int)/\(∀k:Nat,k<i+1->1<=geti aM l (k:Int)/\geti aM l (k:Int)<c)/\∀k:Nat,k+1<i+1->l.getD k 0<l.getD (k+1) 0:=λg1 g2=>by
   refine ⟨gM,λk z=>?_,λk z=>?_⟩
   .rcases bx k i with h1|h1
    .exact A k h1
    .rw[show k=i by omega];exact g2
   .rcases bx (k+1) i with h1|h1
    .exact D k h1
    .have:=g1 (by omega);rw[show k=i-1 by omega,show i-1+1=i by omega];exact this
  with_reducible repeat' first|apply OS.ok;constructor|refine IM.mk λ_=>?_
  all_goals try simp only[al,sw] at*
  all_goals first|omega|(intro h;cases h;done)|(rw [N (by omega)];omega)|skip
  .rename_i h1 h2 h3 h4;rw[N h3,CR,CR]at h4;exact hq (λ_=>h4) ⟨by omega,by omega⟩
  .exact hq (λh=>by omega) ⟨by omega,by omega⟩
 .rintro x ⟨rfl,A,D⟩;with_reducible repeat' first|apply OS.ok;constructor|refine IM.mk λ_=>?_
  all_goals try simp only[al,sw] at*
  all_goals first|omega|skip
  exact⟨ZZ l λk z=>D k z,iP (T:=aM) A⟩
structure VA (w:WT) (sy:SY) (ce fu:η) (t k o v:Int):Prop where
 ld:k=3->v=geti aM ce o
 gt:k=23->v=geti aM fu o
 br:k=5->v=0\/v=1
 el:¬k=3->¬k=23->¬k=5->¬k=4->¬k=22->v=(xy w sy t k o v).2
def ite2 {c:Prop} [Decidable c] {a b:SY×Int} (A:a.2=0) (z:b.2=0):(if c then a else b).2=0:=by by_cases h:c<;>simp[h,A,z]
def amh (w:WT) (z:SY) (t k o u:Int) (h1:¬k=18) (A:¬k=19):(xy w z t k o u).2=0:=by
 unfold xy;rw[av h1,av A];repeat (first|exact rfl|refine ite2 rfl ?_)
def Z3 (w:WT) (z:SY) (t k o u A:Int) (h1:¬k=18):xy w z t k o u=xy w z t k o A:=by
 unfold xy;rw[av h1,av h1]
def HN (w:WT) (z:SY) (t o u:Int):xy w z t 18 o u=if (l! (wl z.2.2.2 o (l! z.2.2.2)))=0 then (z,-1) else ((z.1,z.2.1,z.2.2.1,Eu z.2.2.2 (Dr (wl z.2.2.2 o (l! z.2.2.2)) u) 4),Dr (wl z.2.2.2 o (l! z.2.2.2)) u):=rfl
def ao4 (w:WT) (z:SY) (t o u:Int):(xy w z t 19 o u).2=(l! (wl z.2.2.2 o (l! z.2.2.2)):Int):=rfl
def adq (w:WT) (s:SN) (hs:NB i s) (hf:F16 w s) (e:ET) (he:EN w s.1 e.1 e.2.1 e.2.2.1):Ok (vE (s,e)) λb=>b=J->VA w s.1 s.2.1 s.2.2.1 e.1 e.2.1 e.2.2.1 e.2.2.2.1:=by
 obtain⟨t,k,o,v,si,de,fr⟩:=e;obtain⟨D,s2,s3,s4⟩:=s;obtain⟨nm,t0,t1,cd,e1,e2,e3⟩:=he;obtain⟨_,_,ce,lk,cn,th,fu,_,_,_⟩:=nm;obtain⟨f1,f2,f3⟩:=hf;have hth:=hs.sb.th;dsimp only at*
 unfold vE a8 bt bI cA b_ bq bS kq bX bf aH;have hW:=YF D o hth;have hWl:=xg D.2.2.2 o (l! D.2.2.2);refine aJ (λh=>?_) λn3=>?_
 .have h:k=3:=h;obtain⟨c0,c1⟩:=ce (.inl h);exact aN c0 (by rw[f1];exact c1) (aS (aj λA=>⟨λ_=>bD A,λz=>by omega,λz=>by omega,λz=>(z h).elim⟩))
 refine aJ (λh=>?_) λL=>?_
 .have h:k=23:=h;obtain⟨c0,c1⟩:=fu (.inr h);exact aN c0 (by rw[f2];exact c1) (aS (aj λA=>⟨λz=>by omega,λ_=>bD A,λz=>by omega,λ_ z=>(z h).elim⟩))
 refine aJ (λh=>?_) λn5=>?_
 .have h:k=5:=h;exact h_ (aJ (λA=>aj (aj λ_=>⟨λz=>by omega,λz=>by omega,λ_=>.inl A,λ_ _ z=>(z h).elim⟩)) λ_=>aj (aj λA=>⟨λz=>by omega,λz=>by omega,λ_=>.inr (bD A),λ_ _ z=>(z h).elim⟩))
 refine aY (λx=>x.2=((D,s2,s3,s4),t,k,o,v,si,de,fr)/\(x.1=J->k=4\/k=22)) (aJ (λh=>aj ⟨rfl,λ_=>.inl h⟩) λ_=>aj ⟨rfl,λh=>.inr (bD h)⟩) ?_;rintro⟨b,x⟩ ⟨e,hb⟩;dsimp only at e hb;subst e;refine aO (λh=>aj λ_=>⟨λz=>(n3 z).elim,λz=>(L z).elim,λz=>(n5 z).elim,λ_ _ _ h4 h5=>(hb h).elim (λh=>(h4 h).elim) λh=>(h5 h).elim⟩) λ_=>?_
 have fin:v=(xy w D t k o v).2->VA w D s2 s3 t k o v:=λh=>⟨λz=>(n3 z).elim,λz=>(L z).elim,λz=>(n5 z).elim,λ_ _ _ _ _=>h⟩
 refine aJ (λh=>?_) λn18=>?_
 .have h:k=18:=h;subst h;rw[HN]at fin;refine aV hW ?_;revert fin hWl;generalize wl D.2.2.2 o (l! D.2.2.2)=l;intro hWl fin;refine aJ (λh=>aj λA=>fin ?_) λh=>?_
  .dsimp only[al]at h;rw[aC (by omega)];exact bD A
  .dsimp only[al]at h;have hne:¬l! l=0:=by omega
   refine h_ (fF (λ_=>bW (λ_=>?_) λ_=>aj (aj nofun)) λ_=>aj (aj nofun));refine aV (YP _ _ (by omega)) (aj (aj λA=>fin ?_));rw[av hne];unfold Dr;rw[av hne,aC A]
 refine aJ (λh=>?_) λN=>?_
 .have h:k=19:=h;subst h;exact aV hW (aj λA=>fin (bD A))
 exact aj λA=>fin (by rw[amh _ _ _ _ _ _ n18 N];exact bD A)
structure S16 (w:WT) (s:SN) (e:ET):Prop where
 rd:Z' w s.1 e.1 e.2.1 e.2.2.1
 s1:e.2.1=1\/e.2.1=2->e.2.2.2.2.1= -1
 s2:¬(e.2.1=1\/e.2.1=2)->0<=e.2.2.2.2.1/\e.2.2.2.2.1<l! w.2.2.2.2.2/\(geti qO w.2.2.2.2.2 e.2.2.2.2.1).1=e.1
 de:0<l! e.2.2.2.2.2.1->e.2.1=5\/(e.2.1=3\/e.2.1=4)/\¬(geti mA w.1 e.2.2.1).2.2.1=0
 fr:0<l! e.2.2.2.2.2.2->e.2.1=4\/e.2.1=22
 nd:AN (geti aM s.2.2.2 e.1) e.2.2.2.2.2.1
 nf:AN (geti aM s.2.2.2 e.1) e.2.2.2.2.2.2
 va:VA w s.1 s.2.1 s.2.2.1 e.1 e.2.1 e.2.2.1 e.2.2.2.1
def ceP (z:η) (e:ET):η:=if e.2.1=4 then cN z e.2.2.1 e.2.2.2.1 else z
def fuP (z:η) (e:ET):η:=if e.2.1=22 then cN z e.2.2.1 e.2.2.2.1 else z
def nxP (w:WT) (s:SN) (e:ET):SN:=((xy w s.1 e.1 e.2.1 e.2.2.1 e.2.2.2.1).1,ceP s.2.1 e,fuP s.2.2.1 e,cN s.2.2.2 e.1 (bA .i64 (geti aM s.2.2.2 e.1+1)))
def HS (w:WT) (s:SN) (hs:NB i s) (hw:l! w.2.2.1<=1000) (e:ET) (hd:l! e.2.2.2.2.2.1<=1000000000\/(geti aM s.2.2.2 e.1:Int)<=1000000000) (hf:l! e.2.2.2.2.2.2<=1000000000\/(geti aM s.2.2.2 e.1:Int)<=1000000000):Ok (sJ (w,s,e)) λy=>(y.2=J->EN w s.1 e.1 e.2.1 e.2.2.1/\SP i s y.1/\S16 w s e/\y.1=nxP w s e)/\(y.2=aa->y.1=sn0):=by
 have hz:∀{Q:SN×Bool->Prop},Q (sn0,aa)->Ok (Z (sn0,aa)) Q:=λh=>aj h
 have z0:((sn0,aa).2=J->EN w s.1 e.1 e.2.1 e.2.2.1/\SP i s (sn0,aa).1/\S16 w s e/\(sn0,aa).1=nxP w s e)/\((sn0,aa).2=aa->(sn0,aa).1=sn0):=⟨nofun,λ_=>rfl⟩
 unfold sJ a8 bt bI cA dO b_ dJ dj fD pV ck bq bS i_ bT bX ko bf c5 aH cW;refine aY (λx=>x.2=(w,s,e,0)/\(x.1=aa->F16 w s/\(EN w s.1 e.1 e.2.1 e.2.2.1/\Z' w s.1 e.1 e.2.1 e.2.2.1)/\lx (w,s.1,e.1,e.2.1,e.2.2.1)=Z J)) ?_ ?_
 .refine aw (acu w s hw) λb hb=>?_
  with_reducible repeat' first|apply OS.ok;constructor|refine IM.mk λ_=>?_
  .exact⟨rfl,nofun⟩
  simp only[ar5,Zi];with_reducible repeat' first|apply OS.ok;constructor|refine IM.mk λ_=>?_
  .exact⟨rfl,nofun⟩
  .exact⟨rfl,nofun⟩
  .exact⟨rfl,nofun⟩
  obtain⟨c,hc0,hc⟩:=Nz w s.1 hs.sb hw e.1 e.2.1 e.2.2.1;refine aV hc0 (aj ⟨rfl,λh=>?_⟩);have h:c=J:=by simpa using h
  exact⟨hb (by assumption),hc h,h▸hc0⟩
 rintro⟨A,L⟩ ⟨z,hx⟩;dsimp only at z hx;subst z;refine aO (λ_=>hz z0) λh1=>?_
 obtain⟨hF,⟨hE,hR⟩,hEn⟩:=hx h1;clear hx h1;refine aY (λx=>x=(w,s,e,0)/\(e.2.1=1\/e.2.1=2->e.2.2.2.2.1= -1)/\(¬(e.2.1=1\/e.2.1=2)->0<=e.2.2.2.2.1/\e.2.2.2.2.1<l! w.2.2.2.2.2/\(geti qO w.2.2.2.2.2 e.2.2.2.2.1).1=e.1)) ?_ ?_
 .refine aY (λx=>x.2=(w,s,e,0)/\(x.1=J->e.2.1=1\/e.2.1=2)/\(x.1=aa->¬(e.2.1=1\/e.2.1=2))) ?_ ?_
  .refine aJ (λh=>aj ⟨rfl,λ_=>.inl h,nofun⟩) λh=>aj ⟨rfl,λD=>.inr (bD D),λD=>?_⟩
   have:=WD D;exact λh3=>h3.elim h this
  rintro⟨A,L⟩ ⟨z,hy1,hy2⟩;dsimp only at z hy1 hy2;subst z;refine aO (λhk=>?_) λhk=>?_
  .exact cz (λ_=>aj z0) λh=>aj ⟨rfl,λ_=>h,λh3=>(h3 (hy1 hk)).elim⟩
  .refine aY (λx=>x.2=(w,s,e,0)/\(x.1=aa->0<=e.2.2.2.2.1/\e.2.2.2.2.1<l! w.2.2.2.2.2/\(geti qO w.2.2.2.2.2 e.2.2.2.2.1).1=e.1)) ?_ ?_
   .simp only[ar5,Zi];refine cz (λ_=>aj ⟨rfl,nofun⟩) λh=>aN h.1 h.2 (aS (aj ⟨rfl,λD=>⟨h.1,h.2,?_⟩⟩))
    simpa using D
   rintro⟨A,L⟩ ⟨z,hz⟩;dsimp only at z hz;subst z;exact aO (λ_=>aj z0) λh=>aj ⟨rfl,λh3=>((hy2 hk) h3).elim,λ_=>hz h⟩
 rintro x ⟨rfl,hS1,hS2⟩;obtain⟨nm,t0,t1,cd,e1,e2,e3⟩:=id hE;obtain⟨_,_,ce,lk,cn,th,fu,_,_,_⟩:=nm;obtain⟨f1,f2,f3⟩:=id hF;refine aY (λx=>x.2=(w,s,e,0)/\(x.1=J->e.2.1=3\/e.2.1=4)) ?_ ?_
 .with_reducible repeat' first|apply OS.ok;constructor|refine IM.mk λ_=>?_
  .exact⟨rfl,λ_=>.inl (by assumption)⟩
  .exact⟨rfl,λh=>.inr (bD h)⟩
 rintro⟨A,L⟩ ⟨z,N⟩;dsimp only at z N;subst z;refine aY (λx=>x.2=(w,s,e,0)/\(x.1=aa->0<l! e.2.2.2.2.2.1->e.2.1=5\/(e.2.1=3\/e.2.1=4)/\¬(geti mA w.1 e.2.2.1).2.2.1=0)) ?_ ?_
 .refine bW (λ_=>cz (λ_=>aO (λh=>?_) λ_=>aj ⟨rfl,nofun⟩) λh5=>aj ⟨rfl,λ_ _=>.inl h5⟩) λh=>aj ⟨rfl,λ_ D=>?_⟩
  .refine aN (ce (N h)).1 (ce (N h)).2 (aS (aj ⟨rfl,λD _=>.inr ⟨N h,?_⟩⟩));simpa using D
  .dsimp only[al]at h;omega
 rintro⟨A,L⟩ ⟨z,hDe⟩;dsimp only at z hDe;subst z;refine aO (λ_=>hz z0) λhde=>?_
 refine aY (λx=>x.2=(w,s,e,0)/\(x.1=aa->0<l! e.2.2.2.2.2.2->e.2.1=4\/e.2.1=22)) ?_ ?_
 .refine bW (λ_=>cz (λ_=>aj ⟨rfl,λh _=>.inr (by simpa using h)⟩) λh4=>aj ⟨rfl,λ_ _=>.inl h4⟩) λh=>aj ⟨rfl,λ_ D=>?_⟩
  dsimp only[al]at h;omega
 rintro⟨A,L⟩ ⟨z,hFr⟩;dsimp only at z hFr;subst z;refine aO (λ_=>hz z0) λhfr=>?_
 have hk:=hs.k;have hc:=hs.c;have hfu:=hs.f;refine aY (λx=>x.2=(w,s,e,0)/\(x.1=aa->AN (geti aM s.2.2.2 e.1) e.2.2.2.2.2.1/\AN (geti aM s.2.2.2 e.1) e.2.2.2.2.2.2/\VA w s.1 s.2.1 s.2.2.1 e.1 e.2.1 e.2.2.1 e.2.2.2.1)) ?_ ?_
 .have hv:=adq w s hs hF e hE;refine aN t0 (by rw[f3];exact t1) (aS (aw (La _ _ hd) λb hb=>?_));refine eJ (λ_=>aj ⟨rfl,nofun⟩) λb1=>?_
  refine aN t0 (by rw[f3];exact t1) (aS (aw (La _ _ hf) λb hb2=>?_));refine eJ (λ_=>aj ⟨rfl,nofun⟩) λb2=>?_
  exact aw hv λb hb3=>aj ⟨rfl,λh=>⟨hb b1,hb2 b2,hb3 (by simpa using h)⟩⟩
 rintro⟨A,L⟩ ⟨z,hNum⟩;dsimp only at z hNum;subst z;refine aO (λ_=>hz z0) λhnu=>?_
 obtain⟨hN1,hN2,hVA⟩:=hNum hnu;have hS:S16 w s e:=⟨hR,hS1,hS2,hDe hde,hFr hfr,hN1,hN2,hVA⟩
 refine a! (a! (a! ?_));refine aY (λx=>x.2=(w,s,e,0,0,s.2.1,s.2.2.1,s.2.2.2)/\xy w s.1 e.1 e.2.1 e.2.2.1 x.1=xy w s.1 e.1 e.2.1 e.2.2.1 e.2.2.2.1) ?_ ?_
 .exact aJ (λ_=>aj ⟨rfl,rfl⟩) λh=>aj ⟨rfl,Z3 _ _ _ _ _ _ _ h⟩
 rintro⟨A,L⟩ ⟨z,hxu⟩;dsimp only at z hxu;subst z;refine aw (Ww w s.1 hs.sb hw e.1 e.2.1 e.2.2.1 A) λy hy=>?_
 obtain⟨_,_,hap,hyq⟩:=hy.1 (hy.2.2 hEn);rw[hxu]at hyq;refine aY (λx=>x.1=e/\x.2.2.1=y.1/\x.2.2.2.1=ceP s.2.1 e/\x.2.2.2.2=(s.2.2.1,s.2.2.2)) ?_ ?_
 .unfold ceP;refine aJ (λh=>?_) λh=>aj ⟨rfl,rfl,(av h).symm,rfl⟩
  have hc4:=ce (.inr h);with_reducible repeat' first|apply OS.ok;constructor|refine IM.mk λ_=>?_
  all_goals try simp only[al,sw] at*
  all_goals first|omega|exact (aC h).symm
 rintro⟨A,L,x3,x4,x5,x6⟩ ⟨h1,D,h3,h4⟩;simp only[aG]at h1 D h3 h4;obtain⟨rfl,rfl⟩:=h4;subst h1 D h3;refine aY (λx=>x.1=A/\x.2.2.1=y.1/\x.2.2.2.1=ceP s.2.1 A/\x.2.2.2.2.1=fuP s.2.2.1 A/\x.2.2.2.2.2=s.2.2.2) ?_ ?_
 .unfold fuP;refine aJ (λh=>?_) λh=>aj ⟨rfl,rfl,rfl,(av h).symm,rfl⟩
  have hc4:=fu (.inl h);with_reducible repeat' first|apply OS.ok;constructor|refine IM.mk λ_=>?_
  all_goals try simp only[al,sw] at*
  all_goals first|omega|exact (aC h).symm
 rintro⟨A,L,x3,x4,x5,x6⟩ ⟨h1,D,h4,h5,h6⟩;simp only at h1 D h4 h5 h6;subst h1 D h4 h5 h6;have l1:l! (ceP s.2.1 A)=l! s.2.1:=by unfold ceP;split<;>simp[ca]
 have l2:l! (fuP s.2.2.1 A)=l! s.2.2.1:=by unfold fuP;split<;>simp[ca]
 with_reducible repeat' first|apply OS.ok;constructor|refine IM.mk λ_=>?_
 all_goals try simp only[al,sw] at*
 all_goals first|omega|skip
 exact⟨⟨hE,⟨hap,l1,l2,by rw[ca]⟩,hS,by unfold nxP;rw[<- hyq]⟩,nofun⟩
def Wh:Ok (lK ()) λl=>l! l=22:=by
 unfold lK;with_reducible repeat' first|apply OS.ok;constructor|refine IM.mk λ_=>?_
 all_goals rfl
def Sm (s:ζ):Ok (kA s) λ_=>True:=by
 unfold kA bS bX bf c5 aH cW;refine aw Wh λl z=>?_
 refine cH (l! l) (λi x=>x=(i:Int)) ?_ ?_ rfl
 .rintro i x hi rfl;with_reducible repeat' first|apply OS.ok;constructor|refine IM.mk λ_=>?_
  all_goals try simp only[al,sw] at*
  all_goals first|omega|exact gM
 .rintro x rfl;with_reducible repeat' first|apply OS.ok;constructor|refine IM.mk λ_=>?_
  all_goals try simp only[al,sw] at*
  all_goals omega
def Qh (c:Int):Ok (mE c) λ_=>True:=by
 unfold mE kq aH;with_reducible repeat' first|apply OS.ok;constructor|refine IM.mk λ_=>?_
 all_goals exact trivial
def afl (c:Int):Ok (qL c) λ_=>True:=by
 unfold qL sP kq aH;refine h_ (aw (Qh c) λ_ _=>?_);with_reducible repeat' first|apply OS.ok;constructor|refine IM.mk λ_=>?_
 all_goals try exact trivial
 refine aw (P:=λ_=>True) ?_ λ_ _=>?_
 .with_reducible repeat' first|apply OS.ok;constructor|refine IM.mk λ_=>?_
  all_goals exact trivial
 .with_reducible repeat' first|apply OS.ok;constructor|refine IM.mk λ_=>?_
  all_goals exact trivial
def iQ (s:ζ):Ok (fx s) λ_=>True:=by
 unfold fx bS pu bf c5 aH cW;refine aY (λb=>b=aa->l! s<=12) ?_ ?_
 .with_reducible repeat' first|apply OS.ok;constructor|refine IM.mk λ_=>?_
  .exact nofun
  .exact nofun
  .omega
  .simp only[al]at *;omega
  refine aw (Qh _) λ_ _=>?_
  with_reducible repeat' first|apply OS.ok;constructor|refine IM.mk λ_=>?_
  .exact nofun
  refine aw (Sm _) λ_ _=>aj λ_=>?_
  simp only[al]at *;omega
 .rintro b z;refine aO (λ_=>aj trivial) λh=>?_
  have z:=z h;refine cH (l! s) (λi x=>x=(i:Int)) ?_ ?_ rfl
  .rintro i x hi rfl;with_reducible repeat' first|apply OS.ok;constructor|refine IM.mk λ_=>?_
   all_goals try simp only[al,sw] at*
   all_goals first|omega|skip
   refine aw (afl _) λ_ _=>?_
   with_reducible repeat' first|apply OS.ok;constructor|refine IM.mk λ_=>?_
   .exact trivial
   .exact gM
  .rintro x rfl;with_reducible repeat' first|apply OS.ok;constructor|refine IM.mk λ_=>?_
   all_goals try simp only[al,sw] at*
   all_goals first|omega|exact trivial
def AD (l:Y ζ) (s:ζ) (D:l! l<=1000000000):Ok (jL (l,s)) λr=> -1<=r/\r<l! l/\(0<=r->geti (.str) l r=s)/\(r<0->s∉l):=by
 unfold jL bS bX bf c5 aH cW;refine cH (l! l) (λi x=>x=(i:Int)/\∀k:Nat,k<i->geti (.str) l (k:Int)≠s) ?_ ?_ ⟨rfl,λk A=>by omega⟩
 .rintro i x hi ⟨rfl,z⟩;with_reducible repeat' first|apply OS.ok;constructor|refine IM.mk λ_=>?_
  all_goals try simp only[al,sw] at*
  all_goals first|omega|skip
  .exact⟨by omega,by omega,λ_=>by assumption,λh=>by omega⟩
  .refine ⟨gM,λk A=>?_⟩;rcases bx k i with h1|h1
   .exact z k h1
   .rw[show k=i by omega];assumption
 .rintro x ⟨rfl,z⟩;with_reducible repeat' first|apply OS.ok;constructor|refine IM.mk λ_=>?_
  all_goals try simp only[al,sw] at*
  all_goals first|omega|skip
  exact⟨by omega,by omega,λh=>by omega,λ_ h=>iP (T:=.str) (p:=λc=>c≠s) z s h rfl⟩
structure VL (w:WT):Prop where
 c:l! w.1<=12
 l:l! w.2.1<=4
 d:l! w.2.2.1<=2
 f:l! w.2.2.2.1<=2
 t0:1<=l! w.2.2.2.2.1
 t:l! w.2.2.2.2.1<=4
 s:l! w.2.2.2.2.2<=60
def aew (w:WT) (h:VL w):Ok (qI w) λy=>l! y.1<=100:=by
 obtain⟨D,w2,N,w4,w5,w6⟩:=w;obtain⟨h1,h2,h3,h4,_,h5,h6⟩:=h;dsimp only at*
 unfold qI a8 bt bI cA dJ pV bq bS i_ bT bX bf c5 aH cW;refine ru (λx=>((l! D:Int)-x.1).toNat) (λx=>x.2.1=(D,w2,N,w4,w5,w6)/\0<=x.1/\x.1<=(l! D:Int)/\(l! x.2.2:Int)<=x.1) ?_ ⟨rfl,by simp,by simp,by simp⟩;rintro⟨x1,x2,x3⟩ ⟨e,g1,g2,g3⟩;dsimp only at e g1 g2 g3;subst e;refine bW (λg4=>?_) λg4=>?_
 .dsimp only[al]at g4;refine aY (λx=>x.2.1=(D,w2,N,w4,w5,w6)/\x1<x.1/\x.1<=(l! D:Int)/\(l! x.2.2:Int)<=x.1) ?_ ?_
  .refine cY (aS (a! ?_));refine aJ (λ_=>?_) λ_=>?_
   .with_reducible repeat' first|apply OS.ok;constructor|refine IM.mk λ_=>?_
    .exact mr _
    .rw[iW];exact⟨rfl,by dsimp only;omega,by dsimp only;omega,by simp;omega⟩
   .generalize hz:geti _ _ x1=z;obtain⟨z1,(z2:Int),(L:Int),z4,z5⟩:=z;dsimp only;refine aY (λx=>x.2=((D,w2,N,w4,w5,w6),x3++[z1],z1,z2,L,z4,z5)/\(x.1=aa->1<=L/\L<=4/\x1+L<=l! D)) ?_ ?_
    .with_reducible repeat' first|apply OS.ok;constructor|refine IM.mk λ_=>?_
     .exact⟨rfl,nofun⟩
     .exact⟨rfl,nofun⟩
     .refine ⟨rfl,λh=>?_⟩;dsimp only[al] at*
      rw[iW,gd]at h;omega
    .rintro⟨b,y⟩ ⟨e,hb⟩;dsimp only at e hb;subst e;refine aO (λ_=>aj (mr _)) λh=>?_
     obtain⟨q1,q2,q3⟩:=hb h;refine ru (λx=>(L-x.1).toNat) (λx=>x.2=((D,w2,N,w4,w5,w6),x3++[z1],z1,z2,L,z4,z5)/\0<=x.1/\x.1<=L) ?_ ⟨rfl,by simp,by dsimp only;omega⟩;rintro⟨k,y⟩ ⟨e,k0,k1⟩;dsimp only at e k0 k1;subst e;refine bW (λk2=>?_) λk2=>?_
     .dsimp only at k2;have A:bA .i64 (x1+k)=x1+k:=iW;refine aN (by dsimp only;rw[A];omega) (by dsimp only;rw[A];omega) (aS ?_);refine aY (λx=>x.2=((D,w2,N,w4,w5,w6),x3++[z1],z1,z2,L,z4,z5)) ?_ ?_
      .with_reducible repeat' first|apply OS.ok;constructor|refine IM.mk λ_=>?_
       all_goals rfl
      .rintro⟨b,y⟩ e;dsimp only at e;subst e;refine aO (λ_=>aj (mr _)) λ_=>aj ?_
       dsimp only;rw[iW];exact⟨⟨rfl,by omega,by omega⟩,by omega⟩
     .dsimp only at k2;refine aj ?_;dsimp only;rw[iW];exact⟨rfl,by omega,by omega,by simp;omega⟩
  .rintro⟨y1,y2,y3⟩ ⟨e,g5,g6,g7⟩;dsimp only at e g5 g6 g7;subst e;refine aj ⟨⟨rfl,by dsimp only;omega,g6,g7⟩,?_⟩;dsimp only;omega
 .dsimp only[al]at g4;refine aw (P:=λy=>l! y.1<=100) ?_ λy hy=>aj hy
  refine cH (l! w2) (λi x=>x.1=(i:Int)/\x.2.1=(D,w2,N,w4,w5,w6)/\l! x.2.2<=12+i) ?_ ?_ ⟨rfl,rfl,by dsimp only;omega⟩
  .rintro i ⟨a,b,c⟩ hi ⟨A,e2,e3⟩;dsimp only at A e2 e3;subst A e2;with_reducible repeat' first|apply OS.ok;constructor|refine IM.mk λ_=>?_
   all_goals try simp only[al,sw] at*
   all_goals first|omega|(simp;omega)|skip
   exact⟨gM,by simp;omega⟩
  .rintro⟨a,b,c⟩ ⟨A,e2,e3⟩;dsimp only at A e2 e3;subst A e2;refine bW (λg4=>(by dsimp only[al]at g4;omega)) λ_=>?_
   refine aw (P:=λy=>l! y.1<=100) ?_ λy hy=>aj hy
   refine cH (l! N) (λi x=>x.1=(i:Int)/\x.2.1=(D,w2,N,w4,w5,w6)/\l! x.2.2<=16+i) ?_ ?_ ⟨rfl,rfl,by dsimp only;omega⟩
   .rintro i ⟨a,b,c⟩ hi ⟨A,e2,e3⟩;dsimp only at A e2 e3;subst A e2;with_reducible repeat' first|apply OS.ok;constructor|refine IM.mk λ_=>?_
    all_goals try simp only[al,sw] at*
    all_goals first|omega|(simp;omega)|skip
    exact⟨gM,by simp;omega⟩
   .rintro⟨a,b,c⟩ ⟨A,e2,e3⟩;dsimp only at A e2 e3;subst A e2;refine bW (λg4=>(by dsimp only[al]at g4;omega)) λ_=>?_
    refine aw (P:=λy=>l! y.1<=100) ?_ λy hy=>aj hy
    with_reducible repeat' first|apply OS.ok;constructor|refine IM.mk λ_=>?_
    all_goals try simp only[al,sw] at*
    all_goals first|omega|(simp;omega)
def Wx (T:Int) (o:M ν) (s:π):M ν:=
 match o with
 |none=>U
 |some (t,n)=>if s.1=t/\s.2.1=n then Z (t,n+1) else if t<s.1/\s.1<T/\s.2.1=0 then Z (s.1,1) else U
def NF (T:Int) (l:Y π):M ν:=l.foldl (Wx T) (Z (0,0))
def SV0 (w:WT):Prop:=NF (l! w.2.2.2.2.1) w.2.2.2.2.2≠U
def KJ {T:Int} {l:Y π} (hi:i<l! l):NF T (l.take (i+1))=Wx T (NF T (l.take i)) (geti qO l (i:Int)):=by
 rw[pJ (T:=qO) hi];unfold NF;rw[eO];rfl
def S1 (T:Int):∀l:Y π,l.foldl (Wx T) U=U
 |[]=>rfl
 |_::r=>S1 T r
def Y0 {l:Y π} (h:NF a l≠U) (i:Nat):NF a (l.take i)≠U:=λz=>h (by
 unfold NF at z ⊢;rw[<- Dz i l,eO,z,S1])
def ae2 {t n:Int} {z:π} (h:Wx a (Z (t,n)) z≠U):Wx a (Z (t,n)) z=Z (z.1,z.2.1+1)/\(z.1=t/\z.2.1=n\/t<z.1/\z.1<a/\z.2.1=0):=by
 unfold Wx at h ⊢;dsimp only at h ⊢;by_cases h1:z.1=t/\z.2.1=n
 .rw[aC h1];exact⟨by rw[h1.1,h1.2],.inl h1⟩
 .rw[av h1]at h ⊢;by_cases A:t<z.1/\z.1<a/\z.2.1=0
  .rw[aC A];exact⟨by rw[A.2.2];rfl,.inr A⟩
  .rw[av A]at h;exact (h rfl).elim
def Dt (w:WT):Ok (iv w) λb=>b=J->VL w/\SV0 w:=by
 unfold iv a8 bt bI cA dj fD bq bS kq i_ bT bX bf c5 aH cW;refine aY (λx=>x.2=w/\(x.1=aa->VL w)) ?_ ?_
 .with_reducible repeat' first|apply OS.ok;constructor|refine IM.mk λ_=>?_
  all_goals first|exact⟨rfl,λh=>(by cases h)⟩|skip
  dsimp only[al] at*
  refine ⟨rfl,λh=>?_⟩;rw[gd]at h;constructor<;>omega
 rintro⟨b,x⟩ ⟨e,hb⟩;dsimp only at e hb;subst e;refine aO (λ_=>aj λh=>(by cases h)) λh=>?_
 have hv:=hb h;refine aw (aew _ hv) λy hy=>?_
 refine eJ (λ_=>aj λh=>(by cases h)) λ_=>?_
 obtain⟨w1,w2,w3,w4,D,A⟩:=x;have h6:=hv.s;have h3:=hv.d;dsimp only at h6 h3;refine cH (l! y.1) (λi x=>x.1=(i:Int)/\x.2=(w1,w2,w3,w4,D,A)) ?_ ?_ ⟨rfl,rfl⟩
 .rintro i ⟨a,b⟩ hi ⟨N,e2⟩;dsimp only at N e2;subst N e2;refine bW (λg4=>?_) λg4=>(by dsimp only[al]at g4;omega)
  refine aY (λx=>x.2=(w1,w2,w3,w4,D,A)) ?_ ?_
  .refine cY (aS (aw (iQ _) λ_ _=>?_));refine eJ (λ_=>aj rfl) λ_=>?_
   with_reducible repeat' first|apply OS.ok;constructor|refine IM.mk λ_=>?_
   all_goals try simp only[al,sw] at*
   all_goals first|omega|skip
   refine aw (AD _ _ (by simp;omega)) λ_ _=>aj rfl
  .rintro⟨a,b⟩ e;dsimp only at e;subst e;with_reducible repeat' first|apply OS.ok;constructor|refine IM.mk λ_=>?_
   .exact λh=>(by cases h)
   .dsimp only;exact⟨gM,rfl⟩
 rintro⟨a,b⟩ ⟨N,e2⟩;dsimp only at N e2;subst N e2;refine bW (λg4=>(by dsimp only[al]at g4;omega)) λ_=>?_
 refine aw (P:=λb=>b=J->VL (w1,w2,w3,w4,D,A)/\SV0 (w1,w2,w3,w4,D,A)) ?_ λy hy=>aj hy
 refine cH (l! w3) (λi x=>x.1=(i:Int)/\x.2=(w1,w2,w3,w4,D,A)) ?_ ?_ ⟨rfl,rfl⟩
 .rintro i ⟨a,b⟩ hi ⟨N,e2⟩;dsimp only at N e2;subst N e2;refine bW (λg4=>?_) λg4=>(by dsimp only[al]at g4;omega)
  refine cY (aS ?_);refine aY (λx=>x.2=(w1,w2,w3,w4,D,A)) ?_ ?_
  .with_reducible repeat' first|apply OS.ok;constructor|refine IM.mk λ_=>?_
   all_goals try simp only[al,sw] at*
   all_goals first|omega|rfl
  .rintro⟨a,b⟩ e;dsimp only at e;subst e;with_reducible repeat' first|apply OS.ok;constructor|refine IM.mk λ_=>?_
   .exact λh=>(by cases h)
   .dsimp only;exact⟨gM,rfl⟩
 rintro⟨a,b⟩ ⟨N,e2⟩;dsimp only at N e2;subst N e2;refine bW (λg4=>(by dsimp only[al]at g4;omega)) λ_=>?_
 refine aw (P:=λb=>b=J->VL (w1,w2,w3,w4,D,A)/\SV0 (w1,w2,w3,w4,D,A)) ?_ λy hy=>aj hy
 refine cH (l! A) (λi x=>x.1=(i:Int)/\x.2=(w1,w2,w3,w4,D,A)/\NF (l! D) (A.take i)=Z (if i=0 then (0,0) else ((geti qO A ((i-1:Nat):Int)).1,(geti qO A ((i-1:Nat):Int)).2.1+1))/\(¬i=0->(0:Int)<=(geti qO A ((i-1:Nat):Int)).2.1/\(i:Int)>(geti qO A ((i-1:Nat):Int)).2.1)) ?_ ?_ ⟨rfl,rfl,rfl,λh=>(h rfl).elim⟩
 .rintro i ⟨a,b⟩ hi ⟨N,e2,e3,hpb⟩;dsimp only at N e2;subst N e2;have hw:¬(i:Int)=0->bA .i64 ((i:Int)-1)=((i-1:Nat):Int):=λh=>by rw[iW];omega
  have hnx:=KJ (T:=l! D) hi;rw[e3]at hnx;clear e3;refine bW (λg4=>?_) λg4=>(by dsimp only[al]at g4;omega)
  refine aY (λx=>x=(w1,w2,w3,w4,D,A)/\NF (l! D) (A.take (i+1))=Z (((geti qO A (i:Int)).1,(geti qO A (i:Int)).2.1+1))/\(0:Int)<=(geti qO A (i:Int)).2.1/\((i+1:Nat):Int)>(geti qO A (i:Int)).2.1) ?_ ?_
  .refine cY (aS ?_);rw[hnx];generalize hz:geti qO A (i:Int)=z;obtain⟨(z1:Int),(z2:Int),(z3:Int)⟩:=z;dsimp only;refine aY (λx=>x.2=((w1,w2,w3,w4,D,A),z1,z2,z3)/\(x.1=aa->0<=z1/\z1<l! D)) ?_ ?_
   .refine bW (λ_=>aj ⟨rfl,λh=>(by cases h)⟩) λg=>aj ⟨rfl,λh=>⟨g,?_⟩⟩
    rw[m_]at h;exact h
   rintro⟨c,y⟩ ⟨e,hzr⟩;dsimp only at e hzr;subst e;refine aO (λ_=>aj λh=>(by cases h)) λhzb=>?_
   obtain⟨z0,zT⟩:=hzr hzb;refine aY (λx=>x.2=((w1,w2,w3,w4,D,A),z1,z2,z3)/\(x.1=J->i=0\/¬(geti qO A ((i-1:Nat):Int)).1=z1)/\(x.1=aa->¬(i:Int)=0/\(geti qO A ((i-1:Nat):Int)).1=z1)) ?_ ?_
   .refine aJ (λh=>aj ⟨rfl,λ_=>.inl (by have h:((i:Nat):Int)=0:=h;omega),λh=>(by cases h)⟩) λh=>?_
    rw[hw h];refine cY (aS (aj ⟨rfl,λh2=>.inr (by simpa using h2),λh2=>⟨h,by simpa using h2⟩⟩))
   rintro⟨c,y⟩ ⟨e,hc1,hc⟩;dsimp only at e hc1 hc;subst e;refine aO (λhct=>?_) λhcf=>?_
   .refine aY (λx=>x.2=(w1,w2,w3,w4,D,A)/\(x.1=aa->z2=0/\(¬i=0->((geti qO A ((i-1:Nat):Int)).1:Int)<z1))) ?_ ?_
    .refine cz (λ_=>aj ⟨rfl,λh=>(by cases h)⟩) λhz2=>?_
     refine bW (λh=>?_) λL=>aj ⟨rfl,λ_=>⟨hz2,λh=>by have L:((i:Nat):Int)<=0:=L;omega⟩⟩
     have h:(0:Int)<((i:Nat):Int):=h;rw[hw (by omega)];refine cY (aS (aj ⟨rfl,λh2=>⟨hz2,λh3=>?_⟩⟩));rw[gd]at h2;have h4:=(hc1 hct).resolve_left h3;have h2:(geti qO A ((i-1:Nat):Int)).1<=z1:=h2;exact Int.lt_iff_le_and_ne.2 ⟨h2,h4⟩
    rintro⟨c,y⟩ ⟨e,hy⟩;dsimp only at e hy;subst e;refine aO (λ_=>aj λh=>(by cases h)) λh=>aj ⟨rfl,?_⟩
    obtain⟨q1,q2⟩:=hy h;have q1:z2=0:=q1;subst q1;refine ⟨?_,dC 0,by show _>(0:Int);omega⟩;unfold Wx;by_cases L:i=0
    .subst L;rw[aC rfl];dsimp only;by_cases hz1:z1=0
     .subst hz1;rfl
     .rw[av (λh=>hz1 h.1),aC ⟨by omega,zT,rfl⟩];rfl
    .have:=q2 L;rw[av L];dsimp only;rw[av (λh=>by omega),aC ⟨this,zT,rfl⟩];rfl
   .obtain⟨L,hpr⟩:=hc hcf;rw[hw L];refine cY (aS ?_);refine cz (λ_=>aj λh=>(by cases h)) λh=>aj ⟨rfl,?_⟩
    obtain⟨b0,b1⟩:=hpb (by omega);have h:z2=bA .i64 ((geti qO A ((i-1:Nat):Int)).2.1+1):=h;rw[iW]at h;refine ⟨?_,by omega,by omega⟩;rw[av (by omega)];unfold Wx;dsimp only;rw[aC ⟨hpr.symm,h⟩,hpr,h]
  .rintro x ⟨rfl,hx,hx2⟩;refine aj ?_;dsimp only;refine ⟨gM,rfl,?_,λ_=>hx2⟩;rw[av (by omega)];exact hx
 .rintro⟨a,b⟩ ⟨N,e2,e3,_⟩;dsimp only at N e2;subst N e2;refine bW (λg4=>(by dsimp only[al]at g4;omega)) λ_=>?_
  rw[cr]at e3;exact aj λ_=>⟨hv,by unfold SV0;dsimp only;rw[e3];simp⟩
def uM (e:ET):Bool:=decide (e.2.1=3)||decide (e.2.1=23)
def fl (l:Y ET) (t:Int):θ:=(l.filter λe=>decide (e.1=t)).map uM
def Ny (l:Y ET) (t y:Int):Prop:=0<=y/\(fl l t).getD y.toNat aa=J
def vW (l m:Y ET) (t:Int):fl (l++m) t=fl l t++fl m t:=by unfold fl;rw[List.filter_append,cJ]
variable {e:ET}
def Bv (h:e.1=a):fl [e] a=[uM e]:=by unfold fl;simp[h]
def yo (h:¬e.1=a):fl [e] a=[]:=by unfold fl;simp[h]
variable {L:Y ET}
def Ny.app {y:Int} (h:Ny L a y) (m:Y ET):Ny (L++m) a y:=by
 obtain⟨h0,h1⟩:=h;refine ⟨h0,?_⟩;rw[vW];rw[ax]at h1 ⊢;rcases bx y.toNat (l! (fl L a)) with g|g
 .rw[bj g];exact h1
 .rw[bJ g]at h1;cases h1
def Ny.lt {y:Int} (h:Ny L a y):y<l! (fl L a):=by
 obtain⟨h0,h1⟩:=h;rcases bx y.toNat (l! (fl L a)) with g|g
 .omega
 .rw[ax,bJ g]at h1;cases h1
def Ny.last (h:uM e=J) (z:a=l! (fl L e.1)):Ny (L++[e]) e.1 a:=by
 subst z;refine ⟨by omega,?_⟩;rw[vW,Bv rfl,ax,bO (by simp),h];simp
def UD (l:Y ET) (t:Int):l! (fl l t)<=l! l:=by unfold fl;rw[bH];exact DA ..
structure SCx (w:WT) (l:List ET) (sy:SY) (ce fu:η) (e:ET):Prop where
 en:EN w sy e.1 e.2.1 e.2.2.1
 rd:Z' w sy e.1 e.2.1 e.2.2.1
 s1:e.2.1=1\/e.2.1=2->e.2.2.2.2.1= -1
 s2:¬(e.2.1=1\/e.2.1=2)->0<=e.2.2.2.2.1/\e.2.2.2.2.1<l! w.2.2.2.2.2/\(geti qO w.2.2.2.2.2 e.2.2.2.2.1).1=e.1
 de:0<l! e.2.2.2.2.2.1->e.2.1=5\/(e.2.1=3\/e.2.1=4)/\¬(geti mA w.1 e.2.2.1).2.2.1=0
 fr:0<l! e.2.2.2.2.2.2->e.2.1=4\/e.2.1=22
 nd:AN (l! (fl l e.1)) e.2.2.2.2.2.1
 nf:AN (l! (fl l e.1)) e.2.2.2.2.2.2
 rd1:∀y∈e.2.2.2.2.2.1,Ny l e.1 y
 rd2:∀y∈e.2.2.2.2.2.2,Ny l e.1 y
 va:VA w sy ce fu e.1 e.2.1 e.2.2.1 e.2.2.2.1
def thP:Nat->Y g?
 |0=>[]
 |n+1=>(1,0,aa)::aF n (0,0,aa)
def Sq (w:WT):SY:=(aF (l! w.2.1) (-1,[]),-1,aF (l! w.2.2.2.1) aa,thP (l! w.2.2.2.2.1))
def ce0 (w:WT):η:=w.1.map λc=>c.2.2.2.2
def fu0 (w:WT):η:=aF (l! w.2.2.2.1) 0
inductive Acw (w:WT):List ET->SY->η->η->Prop
 |nil:Acw w [] (Sq w) (ce0 w) (fu0 w)
 |snoc {l:List ET} {sy:SY} {ce fu:η} {e:ET} (h:Acw w l sy ce fu) (hs:SCx w l sy ce fu e):Acw w (l++[e]) (xy w sy e.1 e.2.1 e.2.2.1 e.2.2.2.1).1 (ceP ce e) (fuP fu e)
def adv (i:Nat):thP (i+2)=thP (i+1)++[(0,0,aa)]:=by
 show (1,0,aa)::aF (i+1) (0,0,aa)=(1,0,aa)::aF i (0,0,aa)++[(0,0,aa)]
 rw[wn,gG]
def Qv:∀n,l! (thP n)=n
 |0=>rfl
 |n+1=>by simp[thP]
def Nq (w:WT) (h:VL w):sK w=Z (Sq w):=by
 obtain⟨w1,D,w3,L,w5,w6⟩:=w;obtain⟨h1,h2,h3,h4,_,h5,h6⟩:=h;dsimp only at*
 refine cI ?_;unfold sK a8 bt bI cA dJ dj fD bq bS bT bf c5 aH cW;refine cH (l! D) (λi x=>x.1=(i:Int)/\x.2.1=(w1,D,w3,L,w5,w6)/\x.2.2.2=(-1,aF i (-1,[]))) ?_ ?_ ⟨rfl,rfl,rfl⟩
 .rintro i ⟨a,b,c,d,e⟩ hi ⟨A,e2,z⟩;simp only[aG]at A e2 z;obtain⟨rfl,rfl⟩:=z;subst A e2;with_reducible repeat' first|apply OS.ok;constructor|refine IM.mk λ_=>?_
  all_goals try simp only[al,sw] at*
  all_goals first|omega|(simp;omega)|skip
  exact⟨gM,by rw[wn]⟩
 rintro⟨a,b,c,d,e⟩ ⟨A,e2,z⟩;simp only[aG]at A e2 z;obtain⟨rfl,rfl⟩:=z;subst A e2;refine bW (λN=>(by dsimp only[al]at N;omega)) λ_=>?_
 refine aw (P:=λs=>s=Sq (w1,D,w3,L,w5,w6)) ?_ λy hy=>aj hy
 refine cH (l! L) (λi x=>x.1=(i:Int)/\x.2.1=(w1,D,w3,L,w5,w6)/\x.2.2.2=(-1,aF (l! D) (-1,[]),aF i aa)) ?_ ?_ ⟨rfl,rfl,rfl⟩
 .rintro i ⟨a,b,c,d,e',f⟩ hi ⟨A,e2,z⟩;simp only[aG]at A e2 z;obtain⟨rfl,rfl,rfl⟩:=z;subst A e2;with_reducible repeat' first|apply OS.ok;constructor|refine IM.mk λ_=>?_
  all_goals try simp only[al,sw] at*
  all_goals first|omega|(simp;omega)|skip
  exact⟨gM,by rw[wn]⟩
 rintro⟨a,b,c,d,e',f⟩ ⟨A,e2,z⟩;simp only[aG]at A e2 z;obtain⟨rfl,rfl,rfl⟩:=z;subst A e2;refine bW (λN=>(by dsimp only[al]at N;omega)) λ_=>?_
 refine aw (P:=λs=>s=Sq (w1,D,w3,L,w5,w6)) ?_ λy hy=>aj hy
 refine cH (l! w5) (λi x=>x.1=(i:Int)/\x.2.1=(w1,D,w3,L,w5,w6)/\x.2.2.2=(-1,aF (l! D) (-1,[]),aF (l! L) aa,thP i)) ?_ ?_ ⟨rfl,rfl,rfl⟩
 .rintro i ⟨a,b,c,d,e'',f',g⟩ hi ⟨A,e2,z⟩;simp only[aG]at A e2 z;obtain⟨rfl,rfl,rfl,rfl⟩:=z;subst A e2;have hl:=Qv i;refine bW (λ_=>?_) λN=>(by dsimp only[al]at N;omega)
  refine h_ (aJ (λh0=>aj ?_) λh0=>aj ?_)
  .have h0:((i:Nat):Int)=0:=h0;have h0:i=0:=by omega
   subst h0;exact bl (by simp[thP]) (by omega) (aj ⟨rfl,rfl,rfl⟩)
  .have h0:¬((i:Nat):Int)=0:=h0;obtain⟨j,rfl⟩:∃j,i=j+1:=⟨i-1,by omega⟩
   refine bl (by dsimp only;rw[hl];simp;omega) (by omega) (aj ⟨gM,rfl,?_⟩);dsimp only;rw[adv]
 rintro⟨a,b,c,d,e'',f',g⟩ ⟨A,e2,z⟩;simp only[aG]at A e2 z;obtain⟨rfl,rfl,rfl,rfl⟩:=z;subst A e2;refine bW (λN=>(by dsimp only[al]at N;omega)) λ_=>aj rfl
variable {k:WT}
def W2 (h:VL k):SB 0 (Sq k):=by
 obtain⟨h1,h2,N,L,_,D,A⟩:=h;refine ⟨by omega,by simp[Sq];omega,λl z=>?_,by simp[Sq];omega,by simp[Sq,Qv];omega⟩;rw[yR z];simp
def Np (w:WT) (h:VL w):oh w=Z (Sq w,ce0 w,fu0 w,aF (l! w.2.2.2.2.1) 0):=by
 have hs:=Nq w h;have hd:(Sq w)=Sq w:=rfl;obtain⟨D,w2,w3,N,L,w6⟩:=w;obtain⟨h1,h2,h3,h4,_,h5,h6⟩:=h;dsimp only at*
 refine cI ?_;unfold oh a8 bt bI b_ dj bS bT bX bf c5 aH cW;refine aV hs ?_;with_reducible repeat' first|apply OS.ok;constructor|refine IM.mk λ_=>?_
 all_goals try simp only[al,sw] at*
 all_goals first|omega|skip
 refine cH (l! D) (λi x=>x.1=(i:Int)/\x.2.1=(D,w2,w3,N,L,w6)/\x.2.2.2=(Sq (D,w2,w3,N,L,w6),(D.take i).map (λc=>c.2.2.2.2),aF (l! N) 0,aF (l! L) 0)) ?_ ?_ ⟨rfl,rfl,rfl⟩
 .rintro i ⟨a,b,c,d,e,f,g⟩ hi ⟨A,e2,z⟩;simp only[aG]at A e2 z;obtain⟨rfl,rfl,rfl,rfl⟩:=z;subst A e2;with_reducible repeat' first|apply OS.ok;constructor|refine IM.mk λ_=>?_
  all_goals try simp only[al,sw] at*
  all_goals first|omega|(simp;omega)|skip
  exact⟨gM,by rw[pJ (T:=mA) hi,cJ];rfl⟩
 rintro⟨a,b,c,d,e,f,g⟩ ⟨A,e2,z⟩;simp only[aG]at A e2 z;obtain⟨rfl,rfl,rfl,rfl⟩:=z;subst A e2;refine bW (λg4=>(by dsimp only[al]at g4;omega)) λ_=>aj ?_
 rw[cr];rfl
def YI (w:WT) (h:VL w):Ok (oh w) λs=>NB 0 s/\l! s.2.1=l! w.1/\l! s.2.2.1=l! w.2.2.2.1/\l! s.2.2.2=l! w.2.2.2.2.1:=
 aqw (Np w h) ⟨⟨W2 h,by have:=h.c;simp[ce0];omega,by have:=h.f;simp[fu0];omega,by have:=h.t;simp;omega⟩,by simp[ce0],by simp[fu0],by simp⟩
def Tl (l:Y ET) (i t:Int) (z:η) (hl:l! l<=1000000000) (hi:0<=i/\i<=l! l) (hn:l! z<=1000000000):Ok (sI (l,i,t,z)) λb=>b=J->∀y∈z,Ny (l.take i.toNat) t y:=by
 unfold sI a8 b_ bq bS i_ bX bf c5 aH cW;refine cH (l! z) (λk x=>x=(k:Int)/\∀j:Nat,j<k->Ny (l.take i.toNat) t (geti aM z (j:Int))) ?_ ?_ ⟨rfl,λj hj=>(by omega)⟩
 .rintro k x hk ⟨rfl,hx⟩;refine bW (λN=>?_) λN=>(by dsimp only[al]at N;omega)
  refine ru (λx=>(i-x.2.2).toNat) (λx=>0<=x.2.2/\x.2.2<=i/\x.1=(l! (fl (l.take x.2.2.toNat) t):Int)/\(x.2.1=J->Ny (l.take x.2.2.toNat) t (geti aM z (k:Int)))) ?_ ⟨by simp,hi.1,by simp[fl],nofun⟩;rintro⟨a,b,(c:Int)⟩ ⟨c0,c1,ha,D⟩;dsimp only at c0 c1 ha D;subst ha;obtain⟨c,rfl⟩:∃n:Nat,c=(n:Int):=⟨c.toNat,by omega⟩
  rw[cf]at D;dsimp only;rw[cf];have hfl:=UD (l.take c) t;have htl:=nu c l;refine bW (λL=>?_) λL=>?_
  .have L:(c:Int)<i:=L;have htk:l.take (c+1)=l.take c++[geti jF l (c:Int)]:=pJ (T:=jF) (by omega);refine aY (λy=>y.1=(l! (fl (l.take (c+1)) t):Int)/\(y.2=J->Ny (l.take (c+1)) t (geti aM z (k:Int)))) ?_ ?_
   .rw[htk,vW];refine aN c0 (by first|omega|(dsimp only;omega)) (aS ?_);refine cz (λhne=>aj ⟨by rw[yo hne];simp,λh=>(D h).app _⟩) λhe=>?_
    have he:(geti jF l (c:Int)).1=t:=he;refine aY (λy=>y=J->Ny (l.take c++[geti jF l (c:Int)]) t (geti aM z (k:Int))) ?_ λy hy=>aj ⟨?_,hy⟩
    .refine aO (λh=>aj λ_=>(D h).app _) λ_=>?_
     refine aN (by omega) (by first|omega|(dsimp only;omega)) (aS ?_);refine aJ (λhn=>?_) λ_=>aj nofun
     have A:uM (geti jF l (c:Int))=J->Ny (l.take c++[geti jF l (c:Int)]) t (geti aM z (k:Int)):=λh=>by
      rw[<- he]at hn ⊢;exact Ny.last h hn.symm
     refine aN c0 (by first|omega|(dsimp only;omega)) (aS ?_);refine aJ (λh=>aj λ_=>A (by unfold uM;rw[aR h];rfl)) λ_=>?_
     exact aN c0 (by first|omega|(dsimp only;omega)) (aS (aj λh=>A (by unfold uM;rw[h];simp)))
    .dsimp only;rw[Bv he,gM];simp
   .rintro⟨p,q⟩ ⟨hp,A⟩;refine aj ?_;dsimp only at hp A ⊢;rw[gM,cf];exact⟨⟨by omega,by omega,hp,A⟩,by omega⟩
  .refine aw (P:=λr=>match r with|.inl y=>y=((k+1:Nat):Int)/\∀j:Nat,j<k+1->Ny (l.take i.toNat) t (geti aM z (j:Int))|.inr r=>r=J->∀y∈z,Ny (l.take i.toNat) t y) ?_ λr hr=>aj ?_
   .refine eJ (λ_=>aj nofun) λh=>aj ⟨gM,λj hj=>?_⟩
    rcases bx j k with h1|h1
    .exact hx j h1
    .have:=D h;have hci:c=i.toNat:=by have L:i<=(c:Int):=L;omega
     rw[show j=k by omega,<-hci];exact this
   .cases r with
    |_=>exact hr
 .rintro x ⟨rfl,hx⟩;refine bW (λN=>(by dsimp only[al]at N;omega)) λ_=>aj λ_=>iP (T:=aM) hx
def CN (l:Y ET) (c:η):Prop:=∀t:Int,0<=t->t<l! c->geti aM c t=(l! (fl l t):Int)
def vk (xs:Y T.den) (j k:Int) (x:T.den) (D:0<=j) (z:j<l! xs) (A:0<=k):geti _ (cN xs j x) k=if k=j then x else geti _ xs k:=by
 unfold geti cN;rw[ax,ax,c6];by_cases h:k=j
 .subst h;rw[aC rfl,aC rfl,aC (by omega)];rfl
 .rw[av (by omega),av h]
def CN.next (h:CN L c) (e:ET) (h0:0<=e.1) (h1:e.1<l! c) (N:l! L<1000000):CN (L++[e]) (cN c e.1 (bA .i64 (geti aM c e.1+1))):=λt D A=>by
 rw[ca]at A;have:=UD L e.1;rw[vk (T:=aM) _ _ _ _ h0 h1 D,vW];split
 .rename_i z;subst z;rw[Bv rfl,h _ h0 h1,gM];simp
 .rename_i z;rw[yo λl=>z l.symm,h _ D A];simp
def CN.bd (h:CN L c) (t:Int):(geti aM c t:Int)<=l! L:=by
 have key:∀z:Int,geti aM c t=z->z<=l! L:=by
  intro z e;rcases bx t.toNat (l! c) with g|g
  .have h1:=h (t.toNat:Int) (by omega) (by omega);have l:=UD L ((t.toNat:Nat):Int);have A:geti aM c t=geti aM c ((t.toNat:Nat):Int):=by unfold geti;rw[cf]
   have D:z=(l! (fl L ((t.toNat:Nat):Int)):Int):=e.symm.trans (A.trans h1);omega
  .have:z=0:=by
    rw[<- e];unfold geti;rw[ax,bJ g];rfl
   omega
 exact key _ rfl
structure WC (w:WT) (e:ET):Prop where
 nm:NM w e.2.1 e.2.2.1
 t0:0<=e.1
 t1:e.1<l! w.2.2.2.2.1
 cd:∀c∈w.2.2.1,0<=c.2/\c.2<l! w.2.1
def ahp (w:WT) (l:Y ET):Ok (vF (w,l)) λy=>y.2=0->(VL w/\SV0 w)/\(∀e∈l,WC w e)/\∃sy ce fu,Acw w l sy ce fu:=by
 unfold vF cA b_ fD bS bX bf c5 aH cW;refine bW (λ_=>aj nofun) λhl=>?_
 dsimp only[al]at hl;refine aw (Dt w) λb hb=>?_
 refine eJ (λ_=>aj nofun) λh=>?_
 obtain⟨N,hsv⟩:=hb h;refine aV (Np w N) ?_;have hs:NB 0 (Sq w,ce0 w,fu0 w,aF (l! w.2.2.2.2.1) 0):=⟨W2 N,by have:=N.c;simp[ce0];omega,by have:=N.f;simp[fu0];omega,by have:=N.t;simp;omega⟩
 have hw:l! w.2.2.1<=1000:=by have:=N.d;omega
 refine cH (l! l) (λi x=>x.1=(i:Int)/\x.2.1=(w,l)/\NB i x.2.2/\(∀k:Nat,k<i->WC w (geti jF l (k:Int)))/\Acw w (l.take i) x.2.2.1 x.2.2.2.1 x.2.2.2.2.1/\CN (l.take i) x.2.2.2.2.2/\l! x.2.2.2.2.2=l! w.2.2.2.2.1) ?_ ?_ ⟨rfl,rfl,hs,λk hk=>(by omega),.nil,λt t0 t1=>?_,by simp⟩
 .rintro i ⟨a,b,s⟩ hi ⟨e1,e2,e3,e4,e5,e6,e7⟩;dsimp only at e1 e2 e3 e4 e5 e6 e7;subst e1 e2;refine bW (λA=>?_) λA=>(by dsimp only[al]at A;omega)
  refine cY (aS ?_);have hmem:=b8 (T:=jF) (xs:=l) (j:=(i:Int)) (by omega) (by omega);have hbd:=e6.bd (geti jF l (i:Int)).1;have htl:=nu i l;have hbd:(geti aM s.2.2.2 (geti jF l (i:Int)).1:Int)<=1000000:=by
   refine s7 hbd ?_;omega
  refine aw (HS w s e3 hw _ (.inr (s7 hbd (by decide))) (.inr (s7 hbd (by decide)))) λy hy=>?_
  have d1:y.2=J->(geti jF l (i:Int)).2.2.2.2.2.1.length<=1000000000:=λh=>by
   have h3:((geti jF l (i:Int)).2.2.2.2.2.1.length:Int)<=max (0:Int) (geti aM s.2.2.2 (geti jF l (i:Int)).1):=(hy.1 h).2.2.1.nd.len;have h4:max (0:Int) (geti aM s.2.2.2 (geti jF l (i:Int)).1)<=1000000:=Int.max_le.2 ⟨by decide,hbd⟩;have:=s7 h3 h4;omega
  have d2:y.2=J->(geti jF l (i:Int)).2.2.2.2.2.2.length<=1000000000:=λh=>by
   have h3:((geti jF l (i:Int)).2.2.2.2.2.2.length:Int)<=max (0:Int) (geti aM s.2.2.2 (geti jF l (i:Int)).1):=(hy.1 h).2.2.1.nf.len;have h4:max (0:Int) (geti aM s.2.2.2 (geti jF l (i:Int)).1)<=1000000:=Int.max_le.2 ⟨by decide,hbd⟩;have:=s7 h3 h4;omega
  refine aY (λx=>x.2.1=(w,l)/\x.2.2.2=y.1/\(x.1=aa->y.2=J/\(∀z∈(geti jF l (i:Int)).2.2.2.2.2.1,Ny (l.take i) (geti jF l (i:Int)).1 z)/\∀z∈(geti jF l (i:Int)).2.2.2.2.2.2,Ny (l.take i) (geti jF l (i:Int)).1 z)) ?_ ?_
  .refine eJ (λ_=>aj ⟨rfl,rfl,nofun⟩) λh=>?_
   refine aw (Tl l _ _ _ (by omega) ⟨by dsimp only;omega,by dsimp only;omega⟩ (d1 h)) λb1 hr1=>?_
   refine eJ (λ_=>aj ⟨rfl,rfl,nofun⟩) λhb1=>?_
   refine aw (Tl l _ _ _ (by omega) ⟨by dsimp only;omega,by dsimp only;omega⟩ (d2 h)) λb2 hr2=>aj ⟨rfl,rfl,λhb2=>⟨h,hr1 hb1,hr2 (by simpa using hb2)⟩⟩
  .rintro⟨c,p,q,r⟩ ⟨f1,f2,f3⟩;dsimp only at f1 f2 f3;subst f1 f2;refine aO (λ_=>aj nofun) λh=>?_
   obtain⟨f4,r1,r2⟩:=f3 h;obtain⟨D,g2,L,A⟩:=hy.1 f4;refine aj ?_;dsimp only;have htk:l.take (i+1)=l.take i++[geti jF l (i:Int)]:=pJ (T:=jF) hi;have hc:=e6 _ D.t0 (by rw[e7];exact D.t1);have hnx:=dT Prod.fst A;have hac:=e5.snoc (e:=geti jF l (i:Int)) ⟨D,L.rd,L.s1,L.s2,L.de,L.fr,by rw[<- hc];exact L.nd,by rw[<- hc];exact L.nf,r1,r2,L.va⟩;refine ⟨gM,rfl,g2.NB e3 (by omega),λk hk=>?_,by rw[htk,A];exact hac,by rw[htk,A];exact e6.next _ D.t0 (by rw[e7];exact D.t1) (by rw[bQ];omega),by rw[A];unfold nxP;rw[ca];exact e7⟩;rcases bx k i with h1|h1
   .exact e4 k h1
   .rw[show k=i by omega];exact⟨D.nm,D.t0,D.t1,D.cd⟩
 .rintro⟨a,b,s⟩ ⟨e1,e2,e3,e4,e5,_⟩;dsimp only at e1 e2 e3 e4 e5;subst e1 e2;rw[cr]at e5;refine bW (λA=>(by dsimp only[al]at A;omega)) λ_=>aj λ_=>⟨⟨N,hsv⟩,iP (T:=jF) e4,_,_,_,e5⟩
 .rw[c4]at t1;obtain⟨t,rfl⟩:∃n:Nat,t=(n:Int):=⟨t.toNat,by omega⟩
  rw[CR,ax,hP];split<;>simp[fl]
end
end Go.Proofs.YtcmnmakaoonfgaaGreatDoor.AI
