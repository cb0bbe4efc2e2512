/-
  Texts of the proof, part 1 of 5: what is used to prove the statement. No condition.
-/
import Derived.WalkKit
import Derived.Lib.Hide
import Derived.Deep.QuietTactic
import Derived.WalkSpells
import Derived.Laws.CopyRow
import Derived.Deep.AppendSrc
import Derived.Laws.AppendOwn
import Derived.Defers
namespace Prod
variable {A0 A1 A2 A3 A4 A5 A6 A7 A8 A9 A10 A11 A12 A13 A14 A15 A16 A17 A18 A19 A20 A21 A22 A23 A24:Type}
abbrev a (x:A0×A1×A2×A3):A2:=x.2.2.1
abbrev b (x:A0×A1×A2×A3×A4):A3:=x.2.2.2.1
abbrev d (x:A0×A1×A2×A3):A3:=x.2.2.2
abbrev c (x:A0×A1×A2×A3×A4×A5):A4:=x.2.2.2.2.1
abbrev f (x:A0×A1×A2×A3×A4):A4:=x.2.2.2.2
abbrev e (x:A0×A1×A2×A3×A4×A5×A6):A5:=x.2.2.2.2.2.1
abbrev h (x:A0×A1×A2×A3×A4×A5):A5:=x.2.2.2.2.2
abbrev g (x:A0×A1×A2×A3×A4×A5×A6×A7):A6:=x.2.2.2.2.2.2.1
abbrev k (x:A0×A1×A2×A3×A4×A5×A6):A6:=x.2.2.2.2.2.2
abbrev j (x:A0×A1×A2×A3×A4×A5×A6×A7×A8):A7:=x.2.2.2.2.2.2.2.1
abbrev p (x:A0×A1×A2×A3×A4×A5×A6×A7):A7:=x.2.2.2.2.2.2.2
abbrev m (x:A0×A1×A2×A3×A4×A5×A6×A7×A8×A9):A8:=x.2.2.2.2.2.2.2.2.1
abbrev s (x:A0×A1×A2×A3×A4×A5×A6×A7×A8):A8:=x.2.2.2.2.2.2.2.2
abbrev o (x:A0×A1×A2×A3×A4×A5×A6×A7×A8×A9×A10):A9:=x.2.2.2.2.2.2.2.2.2.1
abbrev B (x:A0×A1×A2×A3×A4×A5×A6×A7×A8×A9):A9:=x.2.2.2.2.2.2.2.2.2
abbrev l (x:A0×A1×A2×A3×A4×A5×A6×A7×A8×A9×A10×A11):A10:=x.2.2.2.2.2.2.2.2.2.2.1
abbrev w (x:A0×A1×A2×A3×A4×A5×A6×A7×A8×A9×A10):A10:=x.2.2.2.2.2.2.2.2.2.2
abbrev n (x:A0×A1×A2×A3×A4×A5×A6×A7×A8×A9×A10×A11×A12):A11:=x.2.2.2.2.2.2.2.2.2.2.2.1
abbrev v (x:A0×A1×A2×A3×A4×A5×A6×A7×A8×A9×A10×A11):A11:=x.2.2.2.2.2.2.2.2.2.2.2
abbrev i (x:A0×A1×A2×A3×A4×A5×A6×A7×A8×A9×A10×A11×A12×A13):A12:=x.2.2.2.2.2.2.2.2.2.2.2.2.1
abbrev y (x:A0×A1×A2×A3×A4×A5×A6×A7×A8×A9×A10×A11×A12):A12:=x.2.2.2.2.2.2.2.2.2.2.2.2
abbrev q (x:A0×A1×A2×A3×A4×A5×A6×A7×A8×A9×A10×A11×A12×A13×A14):A13:=x.2.2.2.2.2.2.2.2.2.2.2.2.2.1
abbrev z (x:A0×A1×A2×A3×A4×A5×A6×A7×A8×A9×A10×A11×A12×A13):A13:=x.2.2.2.2.2.2.2.2.2.2.2.2.2
abbrev t (x:A0×A1×A2×A3×A4×A5×A6×A7×A8×A9×A10×A11×A12×A13×A14×A15):A14:=x.2.2.2.2.2.2.2.2.2.2.2.2.2.2.1
abbrev r (x:A0×A1×A2×A3×A4×A5×A6×A7×A8×A9×A10×A11×A12×A13×A14):A14:=x.2.2.2.2.2.2.2.2.2.2.2.2.2.2
abbrev u (x:A0×A1×A2×A3×A4×A5×A6×A7×A8×A9×A10×A11×A12×A13×A14×A15×A16):A15:=x.2.2.2.2.2.2.2.2.2.2.2.2.2.2.2.1
abbrev F (x:A0×A1×A2×A3×A4×A5×A6×A7×A8×A9×A10×A11×A12×A13×A14×A15):A15:=x.2.2.2.2.2.2.2.2.2.2.2.2.2.2.2
abbrev C (x:A0×A1×A2×A3×A4×A5×A6×A7×A8×A9×A10×A11×A12×A13×A14×A15×A16×A17):A16:=x.2.2.2.2.2.2.2.2.2.2.2.2.2.2.2.2.1
abbrev E (x:A0×A1×A2×A3×A4×A5×A6×A7×A8×A9×A10×A11×A12×A13×A14×A15×A16):A16:=x.2.2.2.2.2.2.2.2.2.2.2.2.2.2.2.2
abbrev D (x:A0×A1×A2×A3×A4×A5×A6×A7×A8×A9×A10×A11×A12×A13×A14×A15×A16×A17×A18):A17:=x.2.2.2.2.2.2.2.2.2.2.2.2.2.2.2.2.2.1
abbrev G (x:A0×A1×A2×A3×A4×A5×A6×A7×A8×A9×A10×A11×A12×A13×A14×A15×A16×A17):A17:=x.2.2.2.2.2.2.2.2.2.2.2.2.2.2.2.2.2
abbrev H (x:A0×A1×A2×A3×A4×A5×A6×A7×A8×A9×A10×A11×A12×A13×A14×A15×A16×A17×A18×A19):A18:=x.2.2.2.2.2.2.2.2.2.2.2.2.2.2.2.2.2.2.1
abbrev I (x:A0×A1×A2×A3×A4×A5×A6×A7×A8×A9×A10×A11×A12×A13×A14×A15×A16×A17×A18×A19×A20):A19:=x.2.2.2.2.2.2.2.2.2.2.2.2.2.2.2.2.2.2.2.1
abbrev K (x:A0×A1×A2×A3×A4×A5×A6×A7×A8×A9×A10×A11×A12×A13×A14×A15×A16×A17×A18×A19×A20×A21):A20:=x.2.2.2.2.2.2.2.2.2.2.2.2.2.2.2.2.2.2.2.2.1
abbrev L (x:A0×A1×A2×A3×A4×A5×A6×A7×A8×A9×A10×A11×A12×A13×A14×A15×A16×A17×A18×A19×A20×A21):A21:=x.2.2.2.2.2.2.2.2.2.2.2.2.2.2.2.2.2.2.2.2.2
end Prod
namespace Go.Proofs.YtcmnmakaoonfgaaGreatDoor.AI
open Go.RowKit
set_option maxRecDepth 100000
set_option maxHeartbeats 4000000
set_option linter.unusedVariables false
set_option linter.unusedSimpArgs false
set_option linter.defProp false
open _root_.Array renaming replicate→yR,range→Gj
open _root_.Bool renaming true→J,false→aa,not_false→mm
open Builtin renaming zeroCells→mw,firstCells→z_,append_→HR
open Call renaming operands→dC
open ForInStep renaming yield→HQ
open Instr renaming findAsking→c6,findNow→eY,sliceBounds→gO,sliceBound→iw,sameBits→i_,sliceAt→lN,findKey→lO,checkKey→mj,slice→pT,mapUpdate→yQ,lookup→JW
open _root_.Int renaming toNat→aO,ofNat→aQ,tmod→Ca
open IntKind renaming wrap→pS
open _root_.List renaming length→l!,length→ah,replicate→aF,length_cons→bK,length_singleton→bN,take→dB,getElem?_cons_zero→fJ,map→fX,range→iN,toArray→jA,getElem?_cons_succ→ms,set→pR,append→sJ,foldl_cons→ue,map_nil→wJ,map_drop→yO,ext_getElem?→B9
open _root_.Nat renaming beq→ay,testBit→aJ,add_zero→cW,ble→dF,blt→dY,min→lM,mod_eq_of_lt→wH
open _root_.Option renaming some→Z,none→U,bind_some→aC,map_some→bn
open Region renaming binds→B6,ready→JV
open Result renaming andThen_ok→cR
open Sem renaming run_bind→fk,run→io,run_pure→wD
open Value.bool renaming injEq→Eh
open World renaming shape?→s_,cell?→Qz
noncomputable section
abbrev Y:=@List
abbrev M:=@Option
abbrev av:=@if_neg
abbrev aD:=@if_pos
abbrev aR:=@decide_eq_true
abbrev bh:=@if_true
abbrev bx:=@of_decide_eq_true
abbrev bU:=@decide_eq_true_eq
abbrev b8:=@absurd
abbrev cr:=@beq_self_eq_true
abbrev cD:=@decide_eq_false
abbrev cV:=@beq_iff_eq
abbrev dv:=@if_false
abbrev eW:=@congrArg
abbrev fF:=@or_false
abbrev Xd:=@of_decide_eq_false
abbrev af:=@Option.some.injEq
abbrev al:=@Bool.and_eq_true
abbrev au:=@Nat.eq_of_beq_eq_true
abbrev aw:=@List.getD_eq_getElem?_getD
abbrev aB:=@List.mem_singleton
abbrev aE:=@List.getElem?_eq_getElem
abbrev aP:=@Prod.mk.injEq
abbrev aV:=@Nat.le_of_ble_eq_true
abbrev aY:=@List.mem_of_getElem?
abbrev aZ:=@List.mem_cons
abbrev ba:=@Nat.ble_eq_true_of_le
abbrev bc:=@List.length_append
abbrev bu:=@Nat.testBit_or
abbrev bz:=@List.getElem?_map
abbrev bA:=@List.mem_append
abbrev bB:=@List.getElem?_eq_some_iff
abbrev bC:=@List.getElem?_append_left
abbrev bG:=@Nat.lt_or_ge
abbrev bJ:=@List.mem_cons_of_mem
abbrev bO:=@Nat.le_refl
abbrev bR:=@List.length_take
abbrev bS:=@List.getElem?_append_right
abbrev bT:=@Nat.zero_add
abbrev bY:=@List.map_cons
abbrev b_:=@List.length_map
abbrev ca:=@Bool.false_eq_true
abbrev cj:=@List.mem_map
abbrev cq:=@List.map_append
abbrev cv:=@List.take_length
abbrev cw:=@List.not_mem_nil
abbrev cK:=@Nat.mul_le_mul_right
abbrev cL:=@List.length_replicate
abbrev cP:=@List.mem_cons_self
abbrev cS:=@Bool.not_eq_true'
abbrev cU:=@Array.getElem?_toList
abbrev c4:=@Nat.le_trans
abbrev c5:=@List.getElem?_eq_none
abbrev c7:=@Array.getElem?_eq_some_iff
abbrev db:=@List.length_eq_zero_iff
abbrev dw:=@Nat.lt_of_lt_of_le
abbrev dz:=@Int.le_refl
abbrev dG:=@List.getElem?_set
abbrev dU:=@Bool.true_and
abbrev dV:=@List.length_set
abbrev ey:=@List.foldl_append
abbrev eA:=@List.cons.injEq
abbrev eL:=@List.getElem?_take
abbrev eM:=@Int.natCast_nonneg
abbrev eO:=@Bool.false_and
abbrev eV:=@List.getElem?_replicate
abbrev fm:=@Nat.beq_refl
abbrev fy:=@Bool.and_self
abbrev fG:=@Option.some.inj
abbrev fR:=@Nat.le_succ_of_le
abbrev fS:=@List.flatMap_cons
abbrev fW:=@List.mem_append_left
abbrev fY:=@List.getElem?_of_mem
abbrev gg:=@Option.map_eq_some_iff
abbrev gz:=@List.map_take
abbrev gC:=@List.map_congr_left
abbrev h_:=@Nat.not_lt_zero
abbrev iu:=@List.take_of_length_le
abbrev iv:=@List.all_eq_true
abbrev iP:=@List.append_assoc
abbrev iZ:=@Option.isSome_iff_exists
abbrev ju:=@Nat.succ_mul
abbrev jB:=@List.append_nil
abbrev jU:=@List.mem_of_mem_take
abbrev jX:=@Array.getD_eq_getD_getElem?
abbrev kL:=@Nat.or_assoc
abbrev kM:=@List.map_map
abbrev mi:=@Nat.zero_le
abbrev mS:=@Bool.or_eq_true
abbrev m_:=@List.length_take_le
abbrev nK:=@Nat.ne_of_beq_eq_false
abbrev nX:=@Nat.lt_succ_self
abbrev oO:=@List.getElem?_drop
abbrev oR:=@List.contains_iff_mem
abbrev px:=@Array.getElem?_eq_getElem
abbrev pQ:=@List.take_succ_eq_append_getElem
abbrev qH:=@Nat.add_assoc
abbrev sq:=@List.mem_range
abbrev sr:=@List.length_drop
abbrev su:=@List.ext_getElem
abbrev sI:=@List.take_append_of_le_length
abbrev ux:=@List.mem_append_right
abbrev uK:=@Nat.lt_succ_of_lt
abbrev wd:=@Nat.zero_or
abbrev wg:=@List.replicate_succ'
abbrev wh:=@Bool.and_eq_true_iff
abbrev wG:=@Nat.sub_self
abbrev wI:=@List.mem_flatMap
abbrev wK:=@List.drop_append
abbrev xf:=@Classical.byContradiction
abbrev xE:=@List.getElem?_range
abbrev yP:=@List.eq_of_mem_replicate
abbrev B8:=@List.size_toArray
abbrev B_:=@List.drop_of_length_le
abbrev DG:=@List.take_append_drop
abbrev DH:=@List.length_filter_le
abbrev Ei:=@Int.not_lt
abbrev Eo:=@Nat.lt_irrefl
abbrev HO:=@Nat.min_eq_left
abbrev HP:=@List.sum_append
abbrev I_:=@List.drop_succ_cons
abbrev QD:=@Nat.lt_trichotomy
abbrev QF:=@Bool.eq_false_iff
abbrev η:=Y Int
abbrev ζ:=Y UInt8
abbrev θ:=Y Bool
abbrev ι:=Y Nat
abbrev ξ:=Y Value
abbrev ω:=Int×Int×Int×Int×Int×Int
abbrev υ:=Int×Int×Int×Int×Int
abbrev π:=Int×Int×Int
abbrev ν:=Int×Int
inductive FV where
 |raw (v:Value)
 |sl (cells:List FV) (n:Nat)
 |H (cells:List FV) (off:Nat)
 |agg (cells:List FV)
inductive AV where
 |f (x:FV)
 |H (id off:Nat)
 |sl (id off n:Nat)
 |G (id sz n:Nat)
 |mp (id:Nat)
 |emp
 |qw
 |qm (cells:List FV) (n:Nat)
 |agg (cells:List AV)
 |qg (vs:List AV)
 |qv (g:FuncId) (cap:List AV)
def FV.isCell:FV->Bool
 |.raw v=>v.oneCell'
 |.sl _ _=>J
 |.H _ _=>J
 |.agg _=>aa
def AV.isCell:AV->Bool
 |.f x=>x.isCell
 |.H _ _=>J
 |.sl _ _ _=>J
 |.G _ _ _=>J
 |.mp _=>J
 |.emp=>J
 |.qv _ _=>J
 |_=>aa
inductive mO (O:Nat->Prop) (w:World):FV->Value->Prop
 |raw (v:Value):mO O w (.raw v) v
 |nil (a:Option Addr) (c:Nat) (hc:c<=maxLen):mO O w (.sl [] 0) (.slice a 0 c)
 |sl (cells:List FV) (n c b off:Nat) (us:Nat->Value) (hn:n<=c) (hc:c<=maxLen) (hO:¬O b) (hb:b<w.heap.size)
   (hcl:∀x∈cells,x.isCell=J)
   (hu:∀j,j<l! cells->w.cell? ⟨b,off+j,U⟩=Z (us j)) (hr:∀(j:Nat) x,cells[j]? =Z x->mO O w x (us j)):
   mO O w (.sl cells n) (.slice (Z ⟨b,off,U⟩) n c)
 |H (cells:List FV) (o b off:Nat) (us:Nat->Value) (hO:¬O b) (hb:b<w.heap.size)
   (hcl:∀x∈cells,x.isCell=J)
   (hu:∀j,j<l! cells->w.cell? ⟨b,off+j,U⟩=Z (us j)) (hr:∀(j:Nat) x,cells[j]? =Z x->mO O w x (us j)):
   mO O w (.H cells o) (.pointer (Z ⟨b,off+o,U⟩))
 |agg (cells:List FV) (vs:ξ) (hl:l! vs=l! cells) (hcl:∀x∈cells,x.isCell=J)
   (hr:∀(j:Nat) x v,cells[j]? =Z x->vs[j]? =Z v->mO O w x v):mO O w (.agg cells) (.agg vs.toArray)
abbrev PM:=Nat->M Nat
inductive co (φ:PM) (O:Nat->Prop) (w:World):AV->Value->Prop
 |f {x:FV} {v:Value} (h:mO O w x v):co φ O w (.f x) v
 |H {id off b:Nat} (h:φ id=Z b):co φ O w (.H id off) (.pointer (Z ⟨b,off,U⟩))
 |sl {id off n c b:Nat} (h:φ id=Z b) (hn:n<=c) (hc:c<=maxLen):co φ O w (.sl id off n) (.slice (Z ⟨b,off,U⟩) n c)
 |G {id sz n c b:Nat} (h:φ id=Z b) (hn:n<=c) (hc:c<=maxLen) (hs:∃ty,w.shape? b=Z (ty,c*sz)):
   co φ O w (.G id sz n) (.slice (Z ⟨b,0,U⟩) n c)
 |emp {a:Option Addr}:co φ O w .emp (.slice a 0 0)
 |qw {b:Bool}:co φ O w .qw (.bool b)
 |qm {cells:List FV} {n:Nat} {a:Option Addr} (h:mO O w (.sl cells n) (.slice a n n)):co φ O w (.qm cells n) (.slice a n n)
 |mp {id b:Nat} (h:φ id=Z b):co φ O w (.mp id) (.map (Z b))
 |agg {cells:List AV} {vs:ξ} (hl:l! vs=l! cells) (hcl:∀x∈cells,x.isCell=J)
   (hr:∀(j:Nat) x v,cells[j]? =Z x->vs[j]? =Z v->co φ O w x v):co φ O w (.agg cells) (.agg vs.toArray)
 |qg {cells:List AV} {vs:ξ} (hl:l! vs=l! cells)
   (hr:∀(j:Nat) x v,cells[j]? =Z x->vs[j]? =Z v->co φ O w x v):co φ O w (.qg cells) (.tuple vs.toArray)
 |qv {g:FuncId} {cells:List AV} {vs:ξ} (hl:l! vs=l! cells)
   (hr:∀(j:Nat) x v,cells[j]? =Z x->vs[j]? =Z v->co φ O w x v):co φ O w (.qv g cells) (.func (.func g) #[] vs.toArray)
structure Ge (O:Nat->Prop) (w w':World):Prop where
 os:w'.os=w.os
 tape:w'.tape=w.tape
 output:w'.output=w.output
 size:w.heap.size<=w'.heap.size
 jf:∀k,k<w.heap.size->¬O k->w'.heap[k]? =w.heap[k]?
 jh:∀k,k<w.heap.size->w'.shape? k=w.shape? k
def Ge.refl (O:Nat->Prop) (w:World):Ge O w w:=⟨rfl,rfl,rfl,bO _,λ_ _ _=>rfl,λ_ _=>rfl⟩
variable {w:World} {i:Nat}
def F4 {w':World} (h:w'.heap[i]? =w.heap[i]?) (o:Nat):w'.cell? ⟨i,o,U⟩=w.cell? ⟨i,o,U⟩:=by
 unfold Qz;rw[h]
variable {O:Nat->Prop} {v:Value}
def mO.ext {O':Nat->Prop} {w':World} (he:Ge O w w') (ho:∀k,k<w.heap.size->O' k->O k) {x:FV} (h:mO O w x v):mO O' w' x v:=by
 induction h with
 |raw v=>exact .raw v
 |nil a c hc=>exact .nil a c hc
 |sl cells n c b off L hn hc D z hcl N hr A=>
  exact .sl cells n c b off L hn hc (λh=>D (ho b z h)) (dw z he.size) hcl (λj hj=>by rw[F4 (he.jf b z D)];exact N j hj) A
 |H cells o b off L D z hcl N hr A=>
  exact .H cells o b off L (λh=>D (ho b z h)) (dw z he.size) hcl (λj hj=>by rw[F4 (he.jf b z D)];exact N j hj) A
 |agg cells vs hl hcl hr A=>exact .agg cells vs hl hcl A
variable {V:PM} {y:AV}
def co.ext {φ':PM} {O':Nat->Prop} {w':World} (D:∀i k,V i=Z k->φ' i=Z k) (he:Ge O w w') (ho:∀k,k<w.heap.size->O' k->O k) (h:co V O w y v):co φ' O' w' y v:=by
 induction h with
 |f h=>exact .f (h.ext he ho)
 |H h=>exact .H (D _ _ h)
 |sl h L N=>exact .sl (D _ _ h) L N
 |G h L N hsh=>
  let⟨ty,hty⟩:=hsh;refine .G (D _ _ h) L N ⟨ty,?_⟩;rw[he.jh _ ?_];exact hty;unfold s_ at hty
  grind
 |emp=>exact .emp
 |qw=>exact .qw
 |qm h=>exact .qm (h.ext he ho)
 |mp h=>exact .mp (D _ _ h)
 |agg A hcl hr z=>exact .agg A hcl z
 |qg A hr z=>exact .qg A z
 |qv A hr z=>exact .qv A z
inductive BC where
 |fz (l:List FV)
 |mx (l:List AV)
 |mp (es:List (Value×AV))
 |it (s:ByteArray) (pos:Nat)
def BC.get:BC->Nat->M AV
 |.fz l,j=>l[j]?.map AV.f
 |.mx l,j=>l[j]?
 |_,_=>U
def BC.len:BC->Nat
 |.fz l|.mx l=>l! l
 |_=>0
def BC.isCells:BC->Bool
 |.fz _=>J
 |.mx _=>J
 |_=>aa
structure kl where
 ty:TypeId
 c:BC
abbrev HF:=Nat->M kl
def own (φ:PM) (h:HF) (k:Nat):Prop:=∃id b,h id=Z b/\φ id=Z k
def tot (E:Nat->Prop) (φ:PM) (h:HF) (k:Nat):Prop:=E k\/own φ h k
def u_ (φ:PM) (O:Nat->Prop) (w:World) (c:BC) (arr:Array Value):Prop:=
 c.len<=arr.size/\∀j x,c.get j=Z x->x.isCell=J/\∃v,arr[j]? =Z v/\co φ O w x v
def lx (k:Value):Y MapEntry->Value
 |[]=>.slice U 0 0
 |m::r=>match m.key,k with
  |.int .i64 a,.int .i64 b=>if a=b then m.val else lx k r
  |_,_=>lx k r
def yf (k:Value):Prop:=∃n:Int,k= .int .i64 n
abbrev j!:=Value×AV
def Wy (ty:TypeId) (es:Y j!) (ents:Array MapEntry):Prop:=if ty=0 then ents.toList.map (·.key)=es.map (·.1) else (∀m∈ents.toList,yf m.key)/\∀k∈es.map (·.1),yf k
def MpV (ty:TypeId) (ents:Array MapEntry) (j:Nat) (k v:Value):Prop:=if ty=0 then ∃m,ents[j]? =Z m/\v=m.val else v=lx k ents.toList
def gR (φ:PM) (O:Nat->Prop) (w:World) (b:kl) (o:Obj):Prop:=
 match b.c with
 |.mp es=>∃ents clock,o= .map ents clock/\Wy b.ty es ents/\∀(j:Nat) x,es[j]? =Z x->∃v,MpV b.ty ents j x.1 v/\co φ O w x.2 v
 |.it s p=>o= .stringIter s p
 |c=>∃arr,o= .cells arr b.ty (0,0)/\u_ φ O w c arr
def aj5 (φ:PM) (O:Nat->Prop) (w:World) (k:Nat) (b:kl):Prop:=∃o,w.heap[k]? =Z o/\gR φ O w b o
variable {S:kl}
def aj5.cells (h:aj5 V O w i S) (A:S.c.isCells=J):
 ∃arr,w.heap[i]? =Z (.cells arr S.ty (0,0))/\u_ V O w S.c arr:=by
 let⟨o,h1,z⟩:=h;unfold gR at z;cases D:S.c with
 |fz l|mx l=>rw[D]at z;obtain⟨arr,rfl,L⟩:=z;exact⟨arr,h1,L⟩
 |_=>rw[D]at A;cases A
def gR.mono {φ':PM} {O':Nat->Prop} {w':World} (N:∀x v,co V O w x v->co φ' O' w' x v) {o:Obj} (h:gR V O w S o):gR φ' O' w' S o:=by
 unfold gR at h ⊢;cases L:S.c with
 |mp es=>rw[L]at h;let⟨e,c,h1,D,A⟩:=h;exact⟨e,c,h1,D,λj x z=>by let⟨m,a,S⟩:=A j x z;exact⟨m,a,N _ _ S⟩⟩
 |it s p=>rw[L]at h;exact h
 |_=>rw[L]at h;let⟨arr,h1,D,A⟩:=h;exact⟨arr,h1,D,λj x z=>by let⟨a,v,c,d⟩:=A j x z;exact⟨a,v,c,N _ _ d⟩⟩
def u_.mono {φ':PM} {O':Nat->Prop} {w':World} (A:∀x v,co V O w x v->co φ' O' w' x v) {c:BC} {arr:Array Value} (h:u_ V O w c arr):u_ φ' O' w' c arr:=
 ⟨h.1,λj x z=>by let⟨a,v,c,d⟩:=h.2 j x z;exact⟨a,v,c,A _ _ d⟩⟩
def ww (l:ζ):FV:=.raw (.string ⟨l.toArray⟩)
def EY:Y FV:=[ww [118,97,114],ww [118,111,108,97,116,105,108,101],ww [109,117,116,101,120],ww [114,119,108,111,99,107],ww [99,111,110,100],ww [102,117,116,117,114,101],ww [116,104,114,101,97,100],ww [105,102],ww [101,108,115,101],ww [119,104,105,108,101],ww [108,111,99,107],ww [114,101,97,100],ww [119,114,105,116,101],ww [116,114,97,110,115,97,99,116,105,111,110],ww [97,116,111,109,105,99],ww [119,97,105,116],ww [110,111,116,105,102,121],ww [110,111,116,105,102,121,97,108,108],ww [115,112,97,119,110],ww [106,111,105,110],ww [115,101,116],ww [103,101,116]]
def G (g:Nat):M (Y FV):=if g==0 then Z EY else U
structure sh (φ:PM) (E:Nat->Prop) (h:HF) (w:World):Prop where
 inj:∀i j b b' k,h i=Z b->h j=Z b'->φ i=Z k->φ j=Z k->i=j
 at_:∀i b,h i=Z b->∃k,φ i=Z k/\¬E k/\aj5 φ (tot E φ h) w k b
 el:∀k,E k->k<w.heap.size
 gl:∀g cells,G g=Z cells->mO (tot E φ h) w (.H cells 0) (.pointer (Z ⟨g,0,U⟩))
structure jT (φ φ':PM) (h h':HF) (w w':World):Prop where
 sub:∀i k,φ i=Z k->φ' i=Z k
 ext:Ge (own φ h) w w'
 qr:∀k,k<w.heap.size->own φ' h' k->own φ h k
def jT.refl (φ:PM) (h:HF) (w:World):jT φ φ h h w w:=⟨λ_ _ h=>h,Ge.refl _ _,λ_ _ h=>h⟩
variable {A:HF}
def jT.trans {φ' φ'':PM} {h' h'':HF} {w' w'':World} (m:jT V φ' A h' w w') (n:jT φ' φ'' h' h'' w' w''):jT V φ'' A h'' w w'' where
 sub:=λi k e=>n.sub i k (m.sub i k e)
 ext:=⟨n.ext.os.trans m.ext.os,n.ext.tape.trans m.ext.tape,n.ext.output.trans m.ext.output,c4 m.ext.size n.ext.size,
  λk z h=>(n.ext.jf k (dw z m.ext.size) (λA=>h (m.qr k z A))).trans (m.ext.jf k z h),
  λk z=>(n.ext.jh k (dw z m.ext.size)).trans (m.ext.jh k z)⟩
 qr:=λk z A=>m.qr k z (n.qr k (dw z m.ext.size) A)
def Ge.mono {O':Nat->Prop} {w':World} (h:Ge O w w') (z:∀k,O k->O' k):Ge O' w w':=
 ⟨h.os,h.tape,h.output,h.size,λk A D=>h.jf k A (λx=>D (z k x)),h.jh⟩
def jT.zq {φ':PM} {h':HF} {w':World} (m:jT V φ' A h' w w') (r:co V (tot O V A) w y v):co φ' (tot O φ' h') w' y v:=
 r.ext m.sub (m.ext.mono λ_ A=>.inr A) λk h z=>z.elim .inl λo=>.inr (m.qr k h o)
def jT.keepF {φ':PM} {h':HF} {w':World} (m:jT V φ' A h' w w') {x:FV} (r:mO (tot O V A) w x v):mO (tot O φ' h') w' x v:=
 r.ext (m.ext.mono λ_ A=>.inr A) λk h z=>z.elim .inl λo=>.inr (m.qr k h o)
abbrev EF:=Nat->M AV
def Qy (φ:PM) (O:Nat->Prop) (w:World) (e:EF) (a:Act):Prop:=∀t x,e t=Z x->co φ O w x (a.tmps.getD t undef)
def NS (e:EF) (dst:M Nat) (x:AV):EF:=λt=>if dst=Z t then Z x else e t
def eZ (h:HF) (z:ι) (A:HF):HF:=λi=>if i∈z then A i else h i
structure DF where
 val:AV
 rd:ι
 wr:ι
 nw:HF
 N:ι
def fZ (P:Program) (o:Oper) (e:EF) (h:HF) (f:DF):Prop:=
 ∀(φ:PM) (E:Nat->Prop) (h':HF) (w:World) (a:Act),(∀i∈f.rd,h' i=h i)->(∀i∈f.wr,h' i=h i)->
  (∀t,.tmp t∈o.op.operands->∀y,e t=Z y->co φ (tot E φ h') w y (a.tmps.getD t undef))->sh φ E h' w->(∀n∈f.N,φ n=U)->
  o.wp P a w (λz w'=>∃v φ',z=a.put o.dst v/\jT φ φ' h' (eZ h' f.wr f.nw) w w'/\(∀i k,φ' i=Z k->φ i=Z k\/i∈f.N)/\
   sh φ' E (eZ h' f.wr f.nw) w'/\co φ' (tot E φ' (eZ h' f.wr f.nw)) w' f.val v) (λ_ _ _=>False)
def tb:DF:=⟨.f (.raw undef),[],[],λ_=>U,[]⟩
inductive Nl (P:Program) (ops:Array Oper) (o:Oper) (f:DF) (e:EF) (h:HF):Prop
 |run (hg:o.guard=U) (ht:fZ P o e h f)
 |runG (j t:Nat) (want:Bool) (hg:o.guard=Z (j,want)) (hj:(ops[j]?).bind (·.dst)=Z t) (he:e t=Z (.f (.raw (.bool want)))) (ht:fZ P o e h f)
 |skip (j t:Nat) (want:Bool) (hg:o.guard=Z (j,want)) (hj:(ops[j]?).bind (·.dst)=Z t) (v:Value) (he:e t=Z (.f (.raw v))) (hv:v≠ .bool want) (hf:f=tb)
inductive BZ (P:Program) (ops:Array Oper):List (Oper×DF)->EF->HF->EF->HF->Prop
 |nil (e:EF) (h:HF):BZ P ops [] e h e h
 |cons {o:Oper} {f:DF} {r:List (Oper×DF)} {e e':EF} {h h':HF} (hs:Nl P ops o f e h)
   (hr:BZ P ops r (NS e o.dst f.val) (eZ h f.wr f.nw) e' h'):BZ P ops ((o,f)::r) e h e' h'
abbrev v!:=Oper×DF
def Ph (S:Nat->Bool):Nat->Y v!->EF->EF
 |_,[],e=>e
 |k,(o,f)::r,e=>Ph S (k+1) r (if S k then NS e o.dst f.val else e)
def Gk (S:Nat->Bool):Nat->Y v!->HF->HF
 |_,[],h=>h
 |k,(_,f)::r,h=>Gk S (k+1) r (if S k then eZ h f.wr f.nw else h)
variable {p:Nat->Bool}
def Gs {S':Nat->Bool} :∀(l:Y v!) (k:Nat) (e e':EF),e i=e' i->
 (∀(j:Nat) o f,l[j]? =Z (o,f)->o.dst=Z i->p (k+j)=S' (k+j))->Ph p k l e i=Ph S' k l e' i
 |[],_,_,_,he,_=>he
 |(o,f)::r,k,e,e',he,z=>by
  refine Gs r (k+1) _ _ ?_ (λj o f A hd=>by have:=z (j+1) o f (by grind) hd;rwa [show k+(j+1)=k+1+j from by omega]at this);by_cases hd:o.dst=Z i
  .rw[show p k=S' k from by simpa using z 0 o f rfl hd];split
   .simp[NS,hd]
   .exact he
  .split<;>split<;>simp[NS,hd,he]
def Gr {S':Nat->Bool} :∀(l:Y v!) (k:Nat) (e e':HF),e i=e' i->
 (∀(j:Nat) o f,l[j]? =Z (o,f)->i∈f.wr->p (k+j)=S' (k+j))->Gk p k l e i=Gk S' k l e' i
 |[],_,_,_,he,_=>he
 |(o,f)::r,k,e,e',he,z=>by
  refine Gr r (k+1) _ _ ?_ (λj o f A hd=>by have:=z (j+1) o f (by grind) hd;rwa [show k+(j+1)=k+1+j from by omega]at this);by_cases hd:i∈f.wr
  .rw[show p k=S' k from by simpa using z 0 o f rfl hd];split
   .simp[eZ,hd]
   .exact he
  .split<;>split<;>simp[eZ,hd,he]
def Ez :∀(l:Y v!) (k:Nat) (e:EF),(∀(j:Nat) o f,l[j]? =Z (o,f)->o.dst=Z i->p (k+j)=aa)->Ph p k l e i=e i
 |[],_,_,_=>rfl
 |(o,f)::r,k,e,z=>by
  simp[Ph];rw[Ez r (k+1) _ (λj o f A hd=>by have:=z (j+1) o f (by grind) hd;rwa [show k+(j+1)=k+1+j from by omega]at this)];split
  next h=>unfold NS;rw[av];intro hd;have:=z 0 o f rfl hd;simp_all
  .rfl
def Ey :∀(l:Y v!) (k:Nat) (e:HF),(∀(j:Nat) o f,l[j]? =Z (o,f)->i∈f.wr->p (k+j)=aa)->Gk p k l e i=e i
 |[],_,_,_=>rfl
 |(o,f)::r,k,e,z=>by
  simp[Gk];rw[Ey r (k+1) _ (λj o f A hd=>by have:=z (j+1) o f (by grind) hd;rwa [show k+(j+1)=k+1+j from by omega]at this)];split
  next h=>unfold eZ;rw[av];intro hd;have:=z 0 o f rfl hd;simp_all
  .rfl
def Tb :∀(l:Y v!) (k t:Nat) (e:EF) (o:Oper) (f:DF),l[t]? =Z (o,f)->o.dst=Z i->p (k+t)=J->
 (∀(j:Nat) z L,t<j->l[j]? =Z (z,L)->z.dst=Z i->p (k+j)=aa)->Ph p k l e i=Z f.val
 |[],_,_,_,_,_,h,_,_,_=>by simp at h
 |(z,L)::r,k,0,e,o,f,h,hd,D,A=>by
  obtain⟨rfl,rfl⟩:=h;simp[Ph];rw[Ez r (k+1) _ (λj o f N hd=>by have:=A (j+1) o f (by omega) (by grind) hd;rwa [show k+(j+1)=k+1+j from by omega]at this)];simp at D;simp[D,NS,hd]
 |(z,L)::r,k,t+1,e,o,f,h,hd,D,A=>by
  exact Tb r (k+1) t _ o f (by grind) hd (by grind)
   (λj o f hij N hd=>by have:=A (j+1) o f (by omega) (by grind) hd;rwa [show k+(j+1)=k+1+j from by omega]at this)
def Ta :∀(l:Y v!) (k t:Nat) (e:HF) (o:Oper) (f:DF),l[t]? =Z (o,f)->i∈f.wr->p (k+t)=J->
 (∀(j:Nat) A z,t<j->l[j]? =Z (A,z)->i∈z.wr->p (k+j)=aa)->Gk p k l e i=f.nw i
 |[],_,_,_,_,_,h,_,_,_=>by simp at h
 |(A,z)::r,k,0,e,o,f,h,hd,L,D=>by
  obtain⟨rfl,rfl⟩:=h;simp[Gk];rw[Ey r (k+1) _ (λj o f N hd=>by have:=D (j+1) o f (by omega) (by grind) hd;rwa [show k+(j+1)=k+1+j from by omega]at this)];simp at L;simp[L,eZ,hd]
 |(A,z)::r,k,t+1,e,o,f,h,hd,L,D=>by
  exact Ta r (k+1) t _ o f (by grind) hd (by grind)
   (λj o f hij N hd=>by have:=D (j+1) o f (by omega) (by grind) hd;rwa [show k+(j+1)=k+1+j from by omega]at this)
variable {P:Program} {m:Array Oper}
def BZ.step :∀{l:Y v!} {e e':EF} {h h':HF} (_:BZ P m l e h e' h') (k i:Nat) (o:Oper) (f:DF),l[i]? =Z (o,f)->
 Nl P m o f (Ph (λj=>decide (j<k+i)) k l e) (Gk (λj=>decide (j<k+i)) k l h):=by
 intro l e e' h h' N;induction N with
 |nil=>intro k i o f hi;simp at hi
 |@cons z A r e e' h h' L hr D=>
  intro k i o f hi;cases i with
  |zero=>
   obtain⟨rfl,rfl⟩:=hi;have e1:Ph (λj=>decide (j<k+0)) k ((z,A)::r) e=e:=by
    funext t;rw[Ez];simp
   have e2:Gk (λj=>decide (j<k+0)) k ((z,A)::r) h=h:=by
    funext t;rw[Ey];simp
   rw[e1,e2];exact L
  |succ i=>
   have:=D (k+1) i o f (by grind);simp[Ph,Gk]
   grind
def BZ.final :∀{l:Y v!} {e e':EF} {h h':HF} (_:BZ P m l e h e' h') (k:Nat) (S:Nat->Bool),(∀j,j<l! l->S (k+j)=J)->
 Ph S k l e=e'/\Gk S k l h=h':=by
 intro l e e' h h' D;induction D with
 |nil=>intro k S _;exact⟨rfl,rfl⟩
 |@cons L f1 r e e' h h' N hr A=>
  intro k S z;have h0:S k=J:=by simpa using z 0 (by simp)
  simp[Ph,Gk,h0,bh];exact A (k+1) S (λj hj=>by have:=z (j+1) (by grind);rwa [show k+(j+1)=k+1+j from by omega]at this)
variable {Q:Act}
def S0 {o:Oper} {K K':Act->World->Prop} {a:Exit->Act->World->Prop} (h:∀Q w,K Q w->K' Q w)
 (hh:o.wp P Q w K (λ_ _ _=>False)):o.wp P Q w K' a:=by
 unfold Oper.wp at*
 generalize (execOp Q.eval o).run P w=r at*
 cases r with
 |ok n w'=>
  cases n<;>simp[Oper.upon]at hh ⊢<;>
   first
    |exact h _ _ hh
    |exact Calls.mono hh (λe w'' he=>by
      cases e with
      |returned v=>exact h _ _ he
      |panicked c=>exact he.elim
      |outgrown=>let⟨_,_,h⟩:=he;exact h.elim)
    |exact Rows.mono hh (λ_ _ he=>h _ _ he)
 |halt x w'=>cases x<;>simp[Oper.upon]at hh ⊢<;>first|exact hh.elim|exact hh
inductive Bef (ops:Array Oper):Nat->Nat->Prop
 |one {j:Nat} {o:Oper} {e:Edge} (h:ops[j]? =Z o) (he:e∈o.after) (hb:B6 .any e=J):Bef ops j e.on
 |more {j i:Nat} {o:Oper} {e:Edge} (h:ops[j]? =Z o) (he:e∈o.after) (hb:B6 .any e=J) (hi:Bef ops e.on i):Bef ops j i
structure NIP (ops:Array Oper) (l:List (Oper×DF)):Prop where
 edge:∀(j:Nat) o,ops[j]? =Z o->∀e∈o.after,B6 .any e=J->e.on<j
 pair:∀(i j:Nat) oi fi oj fj,i<j->l[i]? =Z (oi,fi)->l[j]? =Z (oj,fj)->Bef ops j i\/
  (oi.apart ops oj=J/\(∀x∈fi.wr,x∉fj.rd/\x∉fj.wr)/\(∀x∈fj.wr,x∉fi.rd))
 names:∀(i j:Nat) oi fi oj fj,i<j->l[i]? =Z (oi,fi)->l[j]? =Z (oj,fj)->∀n∈fi.N,n∉fj.N
def HM (ops:Array Oper) (listed:Array Bool):Prop:=∀(j:Nat) o,ops[j]? =Z o->listed.getD j aa=J->∀e∈o.after,B6 .any e=J->listed.getD e.on aa=J
variable {j:Nat}
def HM.bef {listed:Array Bool} (D:HM m listed) (h:Bef m j i):listed.getD j aa=J->listed.getD i aa=J:=by
 induction h with
 |one h he A=>intro z;exact D _ _ h z _ he A
 |more h he A hi L=>intro z;exact L (D _ _ h z _ he A)
def abg {listed:Array Bool} (L:HM m listed) {o:Oper} (z:m[j]? =Z o) (D:∀e∈o.after,B6 .any e=J->listed.getD e.on aa=J) (h:Bef m j i):listed.getD i aa=J:=by
 cases h with
 |one h he A=>rw[h]at z;cases z;exact D _ he A
 |more h he A hi=>rw[h]at z;cases z;exact L.bef hi (D _ he A)
def Ah {listed:Array Bool} (h:listed.getD j J=aa):listed.getD j aa=aa/\j<listed.size:=by grind
def StP (φ0:PM) (E:Nat->Prop) (e0:EF) (h0:HF) (w0:World) (z:Act) (l:Y v!) (S:Nat->Bool) (a:Act) (w:World):Prop:=
 ∃φ,jT φ0 φ h0 (Gk S 0 l h0) w0 w/\(∀i k,φ i=Z k->φ0 i=Z k\/∃(j:Nat) (o:Oper) (f:DF),S j=J/\l[j]? =Z (o,f)/\i∈f.N)/\
  sh φ E (Gk S 0 l h0) w/\Qy φ (tot E φ (Gk S 0 l h0)) w (Ph S 0 l e0) a/\a.defers=z.defers/\a.tmps.size=z.tmps.size
def afj {dst:M Tmp} (hd:∀d,dst=Z d->d<Q.tmps.size):(Q.put dst v).tmps.getD i undef=if dst=Z i then v else Q.tmps.getD i undef:=by
 cases dst with
 |none=>simp[Act.put]
 |some d=>
  by_cases h:d=i
  .subst h;simp[Act.put,hd d rfl]
  .simp[Act.put,h,Array.getElem?_setIfInBounds_ne h]
def afi {dst:M Tmp} :(Q.put dst v).tmps.size=Q.tmps.size:=by cases dst<;>simp[Act.put]
def Xx {dst:M Tmp} :(Q.put dst v).defers=Q.defers:=by cases dst<;>rfl
def afu {l:Y v!} {e0 e':EF} {h':HF} {w0:World} 
 (hl:l.map (·.1)=m.toList) (hc:BZ P m l e0 A e' h') (ni:NIP m l) (hfr:∀(j:Nat) o f,l[j]? =Z (o,f)->∀n∈f.N,V n=U)
 (hsz:∀(j:Nat) o,m[j]? =Z o->∀d,o.dst=Z d->d<Q.tmps.size) {listed:Array Bool} (hcl:HM m listed) (hi:i∈JV .any m listed) {a0:Exit->Act->World->Prop} {K:Act->World->Prop}
 (hK:∀a w,StP V O e0 A w0 Q l (λj=>(listed.setIfInBounds i J).getD j aa) a w->K a w) {a:Act} (hst:StP V O e0 A w0 Q l (λj=>listed.getD j aa) a w):
 wpOp P m a0 i K a w:=by
 let⟨hun,o,ho,hdeps⟩:=mem_ready.1 hi;let⟨hnf,hlt⟩:=Ah hun;have hln:∀(j:Nat) o',m[j]? =Z o'->∃f,l[j]? =Z (o',f):=λj o' h=>by
  have h1:(l.map (·.1))[j]? =Z o':=by rw[hl];simpa using h
  rw[bz]at h1;cases h0:l[j]? with
  |none=>rw[h0]at h1;cases h1
  |some p=>rw[h0]at h1;let⟨a,b⟩:=p;simp at h1;subst h1;exact⟨b,rfl⟩
 have hnl:∀(j:Nat) o' f,l[j]? =Z (o',f)->m[j]? =Z o':=λj o' f h=>by
  have h1:(l.map (·.1))[j]? =Z o':=by rw[bz,h];rfl
  rw[hl]at h1;simpa using h1
 let⟨f,hf⟩:=hln i o ho;have hord:∀(j:Nat) L D,j≠i->l[j]? =Z (L,D)->(listed.getD j aa=decide (j<i))\/
  (o.apart m L=J\/L.apart m o=J)/\(∀x∈f.wr,x∉D.rd/\x∉D.wr)/\(∀x∈D.wr,x∉f.rd/\x∉f.wr):=by
  intro j L D hji h0;rcases bG j i with h|h
  .rcases ni.pair j i L D o f h h0 hf with hb|⟨h1,h2,h3⟩
   .left;rw[abg hcl ho hdeps hb];simp[h]
   .right;exact⟨.inr h1,λx hx=>⟨h3 x hx,λhx'=>(h2 x hx').2 hx⟩,λx hx=>h2 x hx⟩
  .have h:i<j:=by omega
   rcases ni.pair i j o f L D h hf h0 with hb|⟨h1,h2,h3⟩
   .left;have:listed.getD j aa=aa:=by
     cases hx:listed.getD j aa with
     |false=>rfl
     |true=>have:=hcl.bef hb hx;rw[hnf]at this;cases this
    rw[this];simp;omega
   .right;exact⟨.inl h1,λx hx=>h2 x hx,λx hx=>⟨h3 x hx,λhx'=>(h2 x hx').2 hx⟩⟩
 have hS':∀j,(listed.setIfInBounds i J).getD j aa=if j=i then J else listed.getD j aa:=λj=>by
  by_cases h:i=j
  .subst h;simp[hlt]
  .rw[getD_set_ne aa h,av (λe=>h e.symm)]
 have hlater:∀(j:Nat) L D,i<j->l[j]? =Z (L,D)->(listed.getD j aa=aa)\/((o.apart m L=J\/L.apart m o=J)/\(∀x∈f.wr,x∉D.rd/\x∉D.wr)):=by
  intro j L D hij h0;rcases hord j L D (by omega) h0 with h|⟨h1,h2,_⟩
  .left;rw[h];simp;omega
  .right;exact⟨h1,h2⟩
 have hdd:∀{x y:Oper},(x.apart m y=J\/y.apart m x=J)->∀d,x.dst=Z d->y.dst≠Z d:=by
  intro x y h d hd he;rcases h with h|h
  .exact (Oper.apart_spec h).2.1 d hd he
  .exact (Oper.apart_spec h).2.1 d he hd
 have hlook:∀{x y:Oper},(x.apart m y=J\/y.apart m x=J)->∀d,y.dst=Z d->d∉x.looksAt m:=by
  intro x y h d hd;rcases h with h|h
  .exact (Oper.apart_spec h).2.2 d hd
  .exact (Oper.apart_spec h).1 d hd
 have heL:∀t,t∈o.looksAt m->Ph (λj=>listed.getD j aa) 0 l e0 t=Ph (λj=>decide (j<0+i)) 0 l e0 t:=λt ht=>by
  refine Gs l 0 e0 e0 rfl λj L D h0 hd=>?_
  simp only[bT];by_cases hji:j=i
  .subst hji;rw[hnf];simp
  .rcases hord j L D hji h0 with h|⟨h,_⟩
   .exact h
   .exact b8 ht (hlook h t hd)
 have hhL:∀t,t∈f.rd\/t∈f.wr->Gk (λj=>listed.getD j aa) 0 l A t=Gk (λj=>decide (j<0+i)) 0 l A t:=λt ht=>by
  refine Gr l 0 A A rfl λj L D h0 hd=>?_
  simp only[bT];by_cases hji:j=i
  .subst hji;rw[hnf];simp
  .rcases hord j L D hji h0 with h|⟨_,_,h⟩
   .exact h
   .rcases ht with ht|ht
    .exact b8 ht (h t hd).1
    .exact b8 ht (h t hd).2
 have hE':∀t,Ph (λj=>(listed.setIfInBounds i J).getD j aa) 0 l e0 t=if o.dst=Z t then Z f.val else Ph (λj=>listed.getD j aa) 0 l e0 t:=λt=>by
  by_cases hd:o.dst=Z t
  .rw[aD hd];refine Tb l 0 i e0 o f hf hd (by simp[hS']) λj o' f' hij h0 hd'=>?_
   simp only[bT,hS',av (show ¬j=i by omega)];rcases hlater j o' f' hij h0 with h|⟨h,_⟩
   .exact h
   .exact b8 hd' (hdd h t hd)
  .rw[av hd];refine Gs l 0 e0 e0 rfl λj L D h0 hd'=>?_
   simp only[bT,hS'];rw[av];intro hji;subst hji;rw[hf]at h0;cases h0;exact hd hd'
 have hH':Gk (λj=>(listed.setIfInBounds i J).getD j aa) 0 l A=eZ (Gk (λj=>listed.getD j aa) 0 l A) f.wr f.nw:=by
  funext t;unfold eZ;by_cases hd:t∈f.wr
  .rw[aD hd];refine Ta l 0 i A o f hf hd (by simp[hS']) λj o' f' hij h0 hd'=>?_
   simp only[bT,hS',av (show ¬j=i by omega)];rcases hlater j o' f' hij h0 with h|⟨_,h⟩
   .exact h
   .exact b8 hd' (h t hd).2
  .rw[av hd];refine Gr l 0 A A rfl λj L D h0 hd'=>?_
   simp only[bT,hS'];rw[av];intro hji;subst hji;rw[hf]at h0;cases h0;exact hd hd'
 let⟨φ,hm,hdom,hrep,henv,hdef,hsize⟩:=hst;have hfrN:∀n∈f.N,φ n=U:=λn hn=>by
  cases hx:φ n with
  |none=>rfl
  |some k=>
   rcases hdom n k hx with h|⟨j,L,D,hSj,h0,hnj⟩
   .rw[hfr i o f hf n hn]at h;cases h
   .have hji:j≠i:=by intro h;subst h;exact b8 hSj (by simp only[hnf];simp)
    rcases bG j i with h|h
    .exact b8 hn (ni.names j i L D o f h h0 hf n hnj)
    .exact b8 hnj (ni.names i j o f L D (by omega) hf h0 n hn)
 have hdsz:∀d,o.dst=Z d->d<a.tmps.size:=λd hd=>by rw[hsize];exact hsz i o ho d hd
 have main:∀(v:Value) (φ':PM) (w':World),jT φ φ' (Gk (λj=>listed.getD j aa) 0 l A) (eZ (Gk (λj=>listed.getD j aa) 0 l A) f.wr f.nw) w w'->
  (∀i k,φ' i=Z k->φ i=Z k\/i∈f.N)->sh φ' O (eZ (Gk (λj=>listed.getD j aa) 0 l A) f.wr f.nw) w'->
  co φ' (tot O φ' (eZ (Gk (λj=>listed.getD j aa) 0 l A) f.wr f.nw)) w' f.val v->K (a.put o.dst v) w':=by
  intro v φ' w' m1 d1 r1 v1;refine hK _ _ ⟨φ',?_,?_,?_,?_,?_,?_⟩
  .rw[hH'];exact hm.trans m1
  .grind
  .rw[hH'];exact r1
  .rw[hH'];intro t x hx;rw[hE' t]at hx;rw[afj hdsz];by_cases hd:o.dst=Z t
   .rw[aD hd]at hx ⊢;cases hx;exact v1
   .rw[av hd]at hx ⊢;exact m1.zq (henv t x hx)
  .rw[Xx];exact hdef
  .rw[afi];exact hsize
 have hstep:=hc.step 0 i o f hf;have hrun:fZ P o (Ph (λj=>decide (j<0+i)) 0 l e0) (Gk (λj=>decide (j<0+i)) 0 l A) f->o.wp P a w K a0:=by
  intro ht;refine S0 ?_ (ht φ O (Gk (λj=>listed.getD j aa) 0 l A) w a (λt h=>hhL t (.inl h)) (λt h=>hhL t (.inr h)) ?_ hrep hfrN)
  .rintro a' w' ⟨v,φ',rfl,m1,d1,r1,v1⟩;exact main v φ' w' m1 d1 r1 v1
  .intro t ht' y hy;refine henv t y ?_;rw[heL t (fW _ (List.mem_filterMap.2 ⟨.tmp t,by simpa using ht',rfl⟩))];exact hy
 have hyield:∀(j t:Nat) (want b:Bool),o.guard=Z (j,want)->(m[j]?).bind (·.dst)=Z t->Ph (λj=>decide (j<0+i)) 0 l e0 t=Z (.f (.raw (.bool b)))->Region.wanted o (yielded m a.tmps)=(b==want):=by
  intro j t want b hg h0 he;rw[<- heL t (ux _ (by rw[hg];simp[h0]))]at he;have h1:=henv t _ he;have h2:a.tmps.getD t undef= .bool b:=by
   generalize hz:a.tmps.getD t undef=z at h1;cases h1 with
   |f h=>cases h;rfl
  have h3:a.tmps[t]? =Z (.bool b):=by
   rw[jX]at h2;cases hz:a.tmps[t]? with
   |none=>rw[hz]at h2;simp[undef]at h2
   |some z=>rw[hz]at h2;simp at h2;rw[h2]
  unfold Region.wanted yielded;rw[hg];simp[h0,h3]
 unfold wpOp;simp only[ho];cases hstep with
 |run hg ht=>
  rw[aD (by unfold Region.wanted;rw[hg])];exact .inl (hrun ht)
 |runG j t want hg h0 he ht=>
  rw[aD (by rw[hyield j t want want hg h0 he];simp)];exact .inl (hrun ht)
 |skip j t want hg h0 v he hv hf'=>
  have hnw:Region.wanted o (yielded m a.tmps)=aa:=by
   rw[<- heL t (ux _ (by rw[hg];simp[h0]))]at he;have h1:=henv t _ he;have h2:a.tmps.getD t undef=v:=by
    generalize a.tmps.getD t undef=z at h1;cases h1 with
    |f h=>cases h;rfl
   unfold Region.wanted yielded;rw[hg];simp only[h0,aC];rw[jX]at h2;cases hz:a.tmps[t]? with
   |none=>simp
   |some z=>
    rw[hz]at h2;simp at h2;subst h2;cases z<;>simp at hv ⊢;exact hv
  rw[av (by rw[hnw];simp)];subst hf';have hu:eZ (Gk (λj=>listed.getD j aa) 0 l A) tb.wr tb.nw=Gk (λj=>listed.getD j aa) 0 l A:=by
   funext t;simp[eZ,tb]
  refine main undef φ w ?_ (λ_ _ h=>.inl h) ?_ ?_
  .rw[hu];exact jT.refl _ _ _
  .rw[hu];exact hrep
  .exact .f (.raw _)
def Sr {l:θ} (h:l! l<=l.countP id):∀(j:Nat),j<l! l->l[j]? =Z J:=by
 have h1:l.countP id=l! l:=Nat.le_antisymm List.countP_le_length h;rw[List.countP_eq_length]at h1
 grind
def Y5 {l:Y v!} (z:NIP m l) {listed:Array Bool} (hs:listed.size=m.size) (A:JV .any m listed=[]):
 ∀(n j:Nat),j<n->j<m.size->listed.getD j aa=J:=by
 intro n;induction n with
 |zero=>intro j h;omega
 |succ n L=>
  intro j hj hjs;cases N:listed.getD j aa with
  |true=>rfl
  |false=>
   have hmem:j∈JV .any m listed:=by
    refine mem_ready.2 ⟨?_,m[j],px hjs,λe he D=>?_⟩
    .grind
    .have h1:=z.edge j _ (px hjs) e he D
     grind
   rw[A]at hmem;cases hmem
variable {d:Exit->Act->World->Prop}
def Qq {l:Y v!} {e0 e':EF} {h':HF} {E:Nat->Prop} {w0:World} {h0:Act}
 (hl:l.map (·.1)=m.toList) (L:BZ P m l e0 A e' h') (ni:NIP m l) (hfr:∀(j:Nat) o f,l[j]? =Z (o,f)->∀n∈f.N,V n=U)
 (hsz:∀(j:Nat) o,m[j]? =Z o->∀Q,o.dst=Z Q->Q<h0.tmps.size) 
 (hQ:∀a w,StP V E e0 A w0 h0 l (λ_=>J) a w->d .normal a w):
 ∀(fuel:Nat) (listed:Array Bool) (a:Act) (w:World),listed.size=m.size->HM m listed->m.size<=fuel+listed.toList.countP id->
  StP V E e0 A w0 h0 l (λj=>listed.getD j aa) a w->wpAny P .any m d fuel listed a w:=by
 have hlen:l! l=m.size:=by have:=eW ah hl;simpa using this
 have fin:∀(listed:Array Bool) (a:Act) (w:World),(∀j,j<m.size->listed.getD j aa=J)->StP V E e0 A w0 h0 l (λj=>listed.getD j aa) a w->d .normal a w:=by
  intro listed a w hall hst;refine hQ a w ?_;have h1:=L.final 0 (λj=>listed.getD j aa) (λj z=>by simp only[bT];exact hall j (by omega));have h2:=L.final 0 (λ_=>J) (λ_ _=>rfl);unfold StP at hst ⊢
  grind
 intro fuel;induction fuel with
 |zero=>
  intro listed a w D hcl hcnt hst;have hall:∀j,j<m.size->listed.getD j aa=J:=λj z=>by
   have:=Sr (l:=listed.toList) (by grind) j (by grind);simp_all
  refine ⟨?_,fin listed a w hall hst⟩;cases hr:JV .any m listed with
  |nil=>rfl
  |cons i r=>
   have hi:i∈JV .any m listed:=by grind
   let⟨hun,o,ho,_⟩:=mem_ready.1 hi
   grind
 |succ fuel ih=>
  intro listed a w D hcl hcnt hst;refine ⟨λhr=>fin listed a w (λj z=>Y5 ni D hr (j+1) j (by omega) z) hst,λi hi=>?_⟩;let⟨hun,o,ho,hdeps⟩:=mem_ready.1 hi;let⟨hnf,hlt⟩:=Ah hun;refine afu hl L ni hfr hsz hcl hi (λa' w' h=>ih _ a' w' ?_ ?_ ?_ h) hst
  .simpa using D
  .intro j oj hoj z e he hb;by_cases hji:i=j
   .subst hji;rw[ho]at hoj;cases hoj;exact getD_set_true (hdeps e he hb)
   .rw[getD_set_ne aa hji]at z;exact getD_set_true (hcl j oj hoj z e he hb)
  .have h1:listed.toList[i]? =Z aa:=by
    simp_all
   grind
def avp (φ0:PM) (E:Nat->Prop) (e':EF) (h0 h':HF) (N:ι) (w0:World) (z:Act) (a:Act) (w:World):Prop:=
 ∃φ,jT φ0 φ h0 h' w0 w/\(∀i k,φ i=Z k->φ0 i=Z k\/i∈N)/\sh φ E h' w/\Qy φ (tot E φ h') w e' a/\a.defers=z.defers/\a.tmps.size=z.tmps.size
def jT.drew (w:World):jT V V A A w {w with drawn:=w.drawn+1}:=
 ⟨λ_ _ A=>A,⟨rfl,rfl,rfl,bO _,λ_ _ _=>rfl,λ_ _=>rfl⟩,λ_ _ A=>A⟩
def sh.moved {w':World} (r:sh V O A w) (m:jT V V A A w w') (z:∀k,own V A k->w'.heap[k]? =w.heap[k]?):sh V O A w':=
 ⟨r.inj,λi b h=>by
   let⟨k,h1,h2,o,N,L⟩:=r.at_ i b h;exact⟨k,h1,h2,o,by rw[z k ⟨i,b,h,h1⟩];exact N,L.mono λ_ _ A=>m.zq A⟩,λk z=>dw (r.el k z) m.ext.size,
   λg cells D=>m.keepF (r.gl g cells D)⟩
variable {b:Bool}
def TA {l:Y v!} {e0 e':EF} {h':HF} {φ0:PM} {E:Nat->Prop} 
 (hm:P.follows .mixedOrders=J) (hl:l.map (·.1)=m.toList) (hc:BZ P m l e0 A e' h') (L:NIP m l) (hfr:∀n∈l.flatMap (λp=>p.2.N),φ0 n=U)
 (hsz:∀(j:Nat) o,m[j]? =Z o->∀d,o.dst=Z d->d<Q.tmps.size) (hrep:sh φ0 E A w) (henv:Qy φ0 (tot E φ0 A) w e0 Q) {z:Exit->Act->World->Prop}
 (hQ:∀a w0,avp φ0 E e' A h' (l.flatMap (λp=>p.2.N)) w Q a w0->z .normal a w0):(Code.region i m b).wp P z Q w:=by
 have hfr':∀(j:Nat) o f,l[j]? =Z (o,f)->∀n∈f.N,φ0 n=U:=λj o f h0 n hn=>hfr n (wI.2 ⟨(o,f),aY h0,hn⟩)
 have fin:∀a w0,StP φ0 E e0 A w Q l (λ_=>J) a w0->z .normal a w0:=by
  rintro a w0 ⟨φ,ops,d,r,en,df,sz⟩;have D:=hc.final 0 (λ_=>J) (λ_ _=>rfl);rw[D.2]at ops r en;rw[D.1]at en;refine hQ a w0 ⟨φ,ops,λid k h=>?_,r,en,df,sz⟩
  grind
 have st0:∀(w0:World),jT φ0 φ0 A A w w0->sh φ0 E A w0->StP φ0 E e0 A w Q l (λj=>(yR m.size aa).getD j aa) Q w0:=by
  intro w0 ops r;have e1:(λj=>(yR m.size aa).getD j aa)=λ_=>aa:=by
   funext j;rw[jX,Array.getElem?_replicate];split<;>rfl
  rw[e1];have e2:Ph (λ_=>aa) 0 l e0=e0:=by funext t;rw[Ez];intros;rfl
  have e3:Gk (λ_=>aa) 0 l A=A:=by funext t;rw[Ey];intros;rfl
  refine ⟨φ0,by rw[e3];exact ops,λ_ _ h=>.inl h,by rw[e3];exact r,?_,rfl,rfl⟩;rw[e2,e3];exact λt x hx=>ops.zq (henv t x hx)
 have cl0:HM m (yR m.size aa):=by
  intro j o ho h0;rw[jX,Array.getElem?_replicate]at h0;split at h0<;>simp at h0
 cases b with
 |true=>
  refine wp_region_any hm ?_;exact Qq hl hc L hfr' hsz fin m.size _ Q _ (by simp) cl0 (by omega) (st0 _ (jT.drew w) (hrep.moved (jT.drew w) λ_ _=>rfl))
 |false=>
  have hany:=Qq (E:=E) (w0:=w) hl hc L hfr' hsz fin m.size _ Q w (by simp) cl0 (by omega) (st0 _ (jT.refl _ _ _) hrep);refine wp_region ?_;have key:∀(ops k:Nat) (listed:Array Bool) (a:Act) (w0:World),k+ops=m.size->listed.size=m.size->(∀j,j<k->listed.getD j aa=J)->(∀j,k<=j->j<m.size->listed.getD j J=aa)->
   wpAny P .any m z ops listed a w0->wpOps P m z (List.range' k ops) a w0:=by
   intro ops;induction ops with
   |zero=>intro k listed a w0 hk hs h1 D h;simpa[wpOps] using h.2
   |succ ops ih=>
    intro k listed a w0 hk hs h1 D h;have hkr:k∈JV .any m listed:=by
     refine mem_ready.2 ⟨D k (bO _) (by omega),m[k]'(by omega),px (by omega),λe he hb=>?_⟩;exact h1 _ (L.edge k _ (px (by omega)) e he hb)
    refine wpOp_mono (λa' w' h'=>ih (k+1) (listed.setIfInBounds k J) a' w' (by omega) (by grind) ?_ ?_ h') (h.2 k hkr)
    .intro j h0;by_cases hjk:k=j
     .subst hjk;simp[show k<listed.size by omega]
     .rw[getD_set_ne aa hjk];exact h1 j (by omega)
    .intro j h0 hj2;rw[getD_set_ne J (by omega)];exact D j (by omega) hj2
  have:=key m.size 0 (yR m.size aa) Q w (by omega) (by simp) (by simp) (by
   intro j _ h0;rw[jX,Array.getElem?_replicate,aD h0];rfl) hany
  rwa [List.range_eq_range']
inductive PT (α:Type) where
 |leaf
 |node (v:Option α) (l r:PT α)
namespace PT
variable {α:Type}
def get:PT α->Nat->M α
 |leaf,_=>U
 |node v l r,n=>match n with
  |0=>v
  |m+1=>if ay (m%2) 0 then get l (m/2) else get r (m/2)
def QW:Nat->PT α->Nat->M α->PT α
 |0,t,_,_=>t
 |k+1,t,n,x=>match t with
  |leaf=>(match n with
   |0=>node x leaf leaf
   |m+1=>if ay (m%2) 0 then node U (QW k leaf (m/2) x) leaf else node U leaf (QW k leaf (m/2) x))
  |node v l r=>(match n with
   |0=>node x l r
   |m+1=>if ay (m%2) 0 then node v (QW k l (m/2) x) r else node v l (QW k r (m/2) x))
def set (t:PT α) (n:Nat) (x:M α):PT α:=QW (n+1) t n x
def Bo:∀(k:Nat) (t:PT α) (n:Nat) (x:M α),n<k->∀i,(QW k t n x).get i=if i=n then x else t.get i
 |0,_,_,_,h,_=>b8 h (h_ _)
 |k+1,t,n,x,h,i=>by
  cases n with
  |zero=>
   cases t<;>cases i<;>simp[QW,get]
  |succ m=>
   have hm:m/2<k:=by omega
   cases t with
   |leaf=>
    simp only[QW];cases L:ay (m%2) 0 with
    |true=>
     have D:m%2=0:=au L;simp[bh];cases i with
     |zero=>simp[get]
     |succ j=>
      simp only[get];cases A:ay (j%2) 0 with
      |true=>
       have z:j%2=0:=au A;simp[bh];rw[Bo k _ _ _ hm];by_cases he:j/2=m/2
       .grind
       .rw[av he,av (by omega)];rfl
      |false=>grind
    |false=>
     have D:¬m%2=0:=nK L;simp[ca,dv];cases i with
     |zero=>simp[get]
     |succ j=>
      simp only[get];cases A:ay (j%2) 0 with
      |true=>grind
      |false=>
       have z:¬j%2=0:=nK A;simp[ca,dv];rw[Bo k _ _ _ hm];by_cases he:j/2=m/2
       .grind
       .rw[av he,av (by omega)];rfl
   |node v l r=>
    simp only[QW];cases L:ay (m%2) 0 with
    |true=>
     have D:m%2=0:=au L;simp[bh];cases i with
     |zero=>simp[get]
     |succ j=>
      simp[get];cases A:ay (j%2) 0 with
      |true=>
       have z:j%2=0:=au A;rw[Bo k _ _ _ hm]
       grind
      |false=>grind
    |false=>
     have D:¬m%2=0:=nK L;simp[ca,dv];cases i with
     |zero=>simp[get]
     |succ j=>
      simp[get];cases A:ay (j%2) 0 with
      |true=>grind
      |false=>
       have z:¬j%2=0:=nK A;rw[Bo k _ _ _ hm]
       grind
def get_set (t:PT α) (n:Nat) (x:M α) (i:Nat):(t.set n x).get i=if i=n then x else t.get i:=Bo (n+1) t n x (by omega) i
variable {R:Type}
def mask :PT α->PT R->PT α
 |leaf,_|node _ _ _,leaf=>leaf
 |node v l r,node u l' z=>node (match u with|some _=>v|none=>U) (mask l l') (mask r z)
def mk:M α->PT α->PT α->PT α
 |none,leaf,leaf=>leaf
 |v,l,r=>node v l r
def only (m:Nat):Nat->Nat->PT α->PT α
 |_,_,leaf=>leaf
 |a,b,node v l r=>mk (if aJ m b then v else U) (only m (2*a) (a+b) l) (only m (2*a) (2*a+b) r)
def exc (m:Nat):Nat->Nat->PT α->PT α
 |_,_,leaf=>leaf
 |a,b,node v l r=>mk (if aJ m b then U else v) (exc m (2*a) (a+b) l) (exc m (2*a) (2*a+b) r)
def merge (m:Nat):Nat->Nat->PT α->PT α->PT α
 |a,b,leaf,t=>only m a b t
 |a,b,node v l r,leaf=>exc m a b (node v l r)
 |a,b,node v l r,node z l' A=>mk (if aJ m b then z else v) (merge m (2*a) (a+b) l l') (merge m (2*a) (2*a+b) r A)
def all (p:Nat->α->Bool):Nat->Nat->PT α->Bool
 |_,_,leaf=>J
 |a,b,node v l r=>(match v with|some x=>p b x|none=>J)&&all p (2*a) (a+b) l&&all p (2*a) (2*a+b) r
def get_all (p:Nat->α->Bool):∀(t:PT α) (a b i:Nat) (x:α),all p a b t=J->t.get i=Z x->p (a*i+b) x=J
 |leaf,_,_,_,_,_,h=>by simp[get]at h
 |node v l r,a,b,0,x,h,z=>by
  subst z;simp[all,al]at h
  grind
 |node v l r,a,b,j+1,x,h,z=>by
  simp[all,al]at h;simp only[get]at z;cases A:ay (j%2) 0 with
  |true=>
   have D:j%2=0:=au A;simp[A,bh]at z;have key:=get_all p l _ _ _ x h.1.2 z;have:2*a*(j/2)+(a+b)=a*(j+1)+b:=by
    have e:j=2*(j/2):=by omega
    grind
   rw[this]at key;exact key
  |false=>
   have D:¬j%2=0:=nK A;simp[A,ca,dv]at z;have key:=get_all p r _ _ _ x h.2 z;have:2*a*(j/2)+(2*a+b)=a*(j+1)+b:=by
    have e:j=2*(j/2)+1:=by omega
    grind
   rw[this]at key;exact key
def dom:Nat->Nat->PT α->Nat->Nat
 |_,_,leaf,acc=>acc
 |a,b,node v l r,acc=>dom (2*a) (a+b) l (dom (2*a) (2*a+b) r (match v with|some _=>acc|||(1<<<b)|none=>acc))
def emp:PT α:=leaf
end PT
abbrev DE:=PT AV
abbrev mQ:=PT kl
abbrev NW:=Y (Nat×kl)
def DE.put (e:DE):M Nat->AV->DE
 |none,_=>e
 |some d,x=>e.set d (Z x)
def jK:NW->HF
 |[],_=>U
 |(s,x)::r,t=>if ay s t then Z x else jK r t
def Kj (acc:ι) (s:Nat) (e:Edge):Nat:=if B6 .any e then (s|||2^e.on)|||acc.getD e.on 0 else s
def M':Y Oper->ι->ι
 |[],acc=>acc
 |o::r,acc=>M' r (acc++[o.after.toList.foldl (Kj acc) 0])
def Na {o:Oper} {acc:ι} (D:m[i]? =Z o) (N:∀(j:Nat) B,acc[j]? =Z B->∀k,B.testBit k=J->Bef m j k):
 ∀(es:Y Edge) (s:Nat),(∀e∈es,e∈o.after)->(∀k,s.testBit k=J->Bef m i k)->∀k,(es.foldl (Kj acc) s).testBit k=J->Bef m i k
 |[],s,_,z,k,hi=>z k hi
 |e::r,s,he,z,k,hi=>by
  refine Na D N r (Kj acc s e) (λe' h'=>he e' (bJ _ h')) (λk hi=>?_) k hi;unfold Kj at hi;split at hi
  .rename_i L;rw[bu,bu,mS,mS]at hi;rcases hi with (hi|hi)|hi
   .exact z k hi
   .rw[Nat.testBit_two_pow]at hi;have:e.on=k:=by grind
    subst this;exact .one D (he e (cP ..)) L
   .refine .more D (he e (cP ..)) L ?_;rw[aw]at hi;cases A:acc[e.on]? with
    |none=>rw[A]at hi;simp at hi
    |some C=>rw[A]at hi;exact N _ C A k hi
  .exact z k hi
def Qp {ops:Array Oper}:∀(rest:Y Oper) (acc:ι),(∀(j:Nat),∀o,rest[j]? =Z o->ops[l! acc+j]? =Z o)->
 (∀(j:Nat) B,acc[j]? =Z B->∀i,B.testBit i=J->Bef ops j i)->∀(j:Nat) B,(M' rest acc)[j]? =Z B->∀i,B.testBit i=J->Bef ops j i
 |[],acc,_,A=>A
 |o::r,acc,D,A=>by
  refine Qp r _ (λj N z=>?_) ?_
  .rw[bc,bN,show (l! acc)+1+j=l! acc+(j+1) from by omega];simp_all
  .intro j B z i hi;rcases bG j (l! acc) with h|h
   .grind
   .rw[bS h]at z;have L:j-l! acc=0:=by grind
    have hjl:j=l! acc:=by omega
    subst hjl;simp at z;subst z;have hoo:ops[l! acc]? =Z o:=by simpa using D 0 o rfl
    rw[<- Array.foldl_toList]at hi;exact Na hoo A _ 0 (λe he=>by simpa using he) (λi hi=>by simp at hi) i hi
inductive SU where
 |mv (x:Operand)
 |pick (c a b:Operand)
 |alloc (ty:TypeId) (z:ξ)
 |box (ty:TypeId) (x:Operand)
 |build (z:ξ) (parts:List (Nat×Nat×Operand))
 |xz (ty:TypeId) (sz len:Nat) (z:ξ) (parts:List (Nat×Nat×Operand))
 |load (sz:Nat) (ag:Bool) (x:Operand)
 |store (sz:Nat) (x v:Operand)
 |zh (x:Operand)
 |bin (op:BinOp) (x y:Operand)
 |jm (neg:Bool) (ds:List TypeDesc) (x y:Operand)
 |zf (neg:Bool) (x:Operand)
 |xq (neg:Bool) (x y:Operand)
 |not (x:Operand)
 |conv (k:IntKind) (x:Operand)
 |zg (ty:TypeId) (sz bytes:Nat) (z:ξ) (l c:Operand)
 |slc (sz:Nat) (x:Operand) (lo hi mx:Option Operand)
 |jg (off:Nat) (x:Operand)
 |fld (off sz:Nat) (ag:Bool) (x:Operand)
 |jk (sz:Nat) (x i:Operand)
 |jx (n sz:Nat) (x i:Operand)
 |idx (n sz:Nat) (ag:Bool) (x i:Operand)
 |ext (x:Operand) (i:Nat)
 |len (x:Operand)
 |lens (x:Operand)
 |jw (x:Operand)
 |max (x y:Operand)
 |min (x y:Operand)
 |jq (x i:Operand)
 |app (ty:TypeId) (sz bytes:Nat) (s x:Operand)
 |copy (sz:Nat) (d x:Operand)
 |clr (sz:Nat) (z:ξ) (x:Operand)
 |mkf (f:FuncId) (caps:List Operand)
 |mkm
 |jy (str ok:Bool) (z:Value) (x k:Operand)
 |jv (str:Bool) (x k v:Operand)
 |rng (x:Operand)
 |nxt (x:Operand)
 |zl (neg:Bool) (x:Operand)
 |lkq (ds:List TypeDesc) (z:Value) (x k:Operand)
 |mpq (ds:List TypeDesc) (x k v:Operand)
 |dlq (ds:List TypeDesc) (x k:Operand)
 |zd
inductive SI where
 |op (s:SU)
 |call (f:FuncId) (args:List Operand)
 |jd (x:Operand) (args:List Operand)
def mem (t:Nat):ι->Bool
 |[]=>aa
 |x::r=>ay x t||mem t r
def M6:ξ->Bool
 |[]=>J
 |v::r=>v.oneCell'&&M6 r
def Hu:Value->AV
 |.agg vs=>if M6 vs.toList then .agg (vs.toList.map λv=>.f (.raw v)) else .f (.raw (.agg vs))
 |v=>.f (.raw v)
def lS (e:DE):Operand->M AV
 |.tmp t=>e.get t
 |.const v=>Z (Hu v)
 |.func g=>Z (.qv g [])
 |.global g=>match G g with|some cells=>Z (.f (.H cells 0))|none=>U
def evs (e:DE):Y Operand->M (Y AV)
 |[]=>Z []
 |x::xs=>match lS e x with|some y=>(match evs e xs with|some z=>Z (y::z)|none=>U)|none=>U
structure Cu where
 val:AV
 rd:ι
 wr:ι
 nw:NW
 N:ι
def Cu.eff (r:Cu):DF:=⟨r.val,r.rd,r.wr,jK r.nw,r.N⟩
def rv (x:AV):M Cu:=Z ⟨x,[],[],[],[]⟩
def raw (v:Value):AV:=.f (.raw v)
def pkV (ok:Bool) (v:AV) (b:Bool):AV:=match ok with|true=>.qg [v,raw (.bool b)]|false=>v
def yG:Y AV->M (Y FV)
 |[]=>Z []
 |.f x::r=>match yG r with|some l=>Z (x::l)|none=>U
 |_::_=>U
def nW (l:Y AV):BC:=match yG l with|some z=>.fz z|none=>.mx l
def Py (l:Y AV):AV:=match yG l with|some z=>.f (.agg z)|none=>.agg l
variable {R:Type}
def splice (l:Y R) (off:Nat) (vs:Y R):Y R:=l.take off++vs++l.drop (off+l! vs)
def BC.toMx:BC->Y AV
 |.fz l=>l.map .f
 |.mx l=>l
 |_=>[]
def gp:Y AV->Bool
 |[]=>J
 |x::r=>x.isCell&&gp r
def BC.put (c:BC) (off:Nat) (vs:Y AV):M BC:=
 if c.isCells&&dF (off+l! vs) c.len&&gp vs then
  match c,yG vs with
  |.fz l,Z z=>Z (.fz (splice l off z))
  |c,_=>Z (.mx (splice c.toMx off vs))
 else U
def BC.sub? (c:BC) (off sz:Nat):Bool->M AV
 |false=>match sz with|1=>c.get off|_=>U
 |true=>match c with
  |.fz l=>if dF (off+sz) (l! l) then Z (.f (.agg ((l.drop off).take sz))) else U
  |.mx l=>if dF (off+sz) (l! l) then Z (.agg ((l.drop off).take sz)) else U
  |_=>U
def AV.cs:AV->Y AV
 |.agg l=>l
 |.f (.agg l)=>l.map .f
 |x=>[x]
def xc (h:mQ) (sz:Nat) (z:Bool):AV->M Cu
 |.H id off=>match h.get id with
  |some b=>(match b.c.sub? off sz z with|some v=>Z ⟨v,[id],[],[],[]⟩|none=>U)
  |none=>U
 |.f (.H cells off)=>(match (BC.fz cells).sub? off sz z with|some v=>rv v|none=>U)
 |_=>U
def BU (h:mQ) (sz:Nat) (v:AV):AV->M Cu
 |.H id off=>match h.get id with
  |some b=>if (l! v.cs)==sz then (match b.c.put off v.cs with|some c=>Z ⟨raw undef,[id],[id],[(id,⟨b.ty,c⟩)],[]⟩|none=>U) else U
  |none=>U
 |_=>U
abbrev m?:=Nat×Nat×Operand
def Bv (cells:Y AV) (e:DE):Y m?->M (Y AV)
 |[]=>Z cells
 |(off,sz,x)::r=>match lS e x with
  |some v=>if (l! v.cs)==sz&&dF (off+sz) (l! cells)&&gp v.cs then Bv (splice cells off v.cs) e r else U
  |none=>U
def dm (a b:Int):Bool:=decide (a<=b)
def fK (a b:Int):Bool:=decide (a<b)
def Pa (k:IntKind) (n:Int):Int:=
 match k with
 |.i64=>if dm (-9223372036854775808) n&&dm n 9223372036854775807 then n else pS .i64 n
 |.u8=>if dm 0 n&&dm n 255 then n else pS .u8 n
 |k=>pS k n
def nok:Int->Bool
 |.ofNat k|.negSucc k=>ay k k
def asp (n:Int):nok n=J:=by cases n<;>exact fm _
def bl (k:IntKind) (n:Int):Int:=bif nok n then Pa k n else 0
def JY (k:IntKind) (n:Int):bl k n=Pa k n:=by unfold bl;rw[asp];rfl
def tF (a b:ByteArray):Bool:=a.data.toList==b.data.toList
def uW (op:BinOp):Value->Value->M Value
 |.int k a,.int z b=>if k==z then
   match op with
   |.add=>Z (.int k (bl k (a+b)))
   |.sub=>Z (.int k (bl k (a-b)))
   |.mul=>Z (.int k (bl k (a*b)))
   |.rem=>if b==0 then U else Z (.int k (a.tmod b))
   |.quo=>if b==0 then U else Z (.int k (bl k (a.tdiv b)))
   |.eql=>Z (.bool (a==b))
   |.neq=>Z (.bool (a !=b))
   |.lss=>Z (.bool (fK a b))
   |.leq=>Z (.bool (dm a b))
   |.gtr=>Z (.bool (fK b a))
   |.geq=>Z (.bool (dm b a))
   |_=>U
  else U
 |.string a,.string b=>match op with
   |.eql=>Z (.bool (tF a b))
   |.neq=>Z (.bool !(tF a b))
   |_=>U
 |_,_=>U
def vZ:TypeDesc->FV->FV->M Bool
 |.int _,.raw (.int k a),.raw (.int z b)=>if k==z then Z (a==b) else U
 |.bool,.raw (.bool a),.raw (.bool b)=>Z (a==b)
 |.string,.raw (.string a),.raw (.string b)=>Z (tF a b)
 |_,_,_=>U
def jE:Y TypeDesc->Y FV->Y FV->M Bool
 |[],[],[]=>Z J
 |d::ds,x::xs,y::z=>match vZ d x y with
  |some J=>jE ds xs z
  |some aa=>Z aa
  |none=>U
 |_,_,_=>U
def AV.row? (h:mQ) (sz:Nat):AV->M (Y AV×Nat×ι)
 |.f (.sl cells n)=>if dF (n*sz) (l! cells) then Z ((cells.take (n*sz)).map .f,n,[]) else U
 |.f (.raw (.slice U 0 0))|.emp=>Z ([],0,[])
 |.G id sz' n=>if sz'==sz then (match h.get id with|some b=>if b.c.isCells&&dF (n*sz) b.c.len then Z (b.c.toMx.take (n*sz),n,[id]) else U|none=>U) else U
 |.sl id off n=>match h.get id with|some b=>if b.c.isCells&&dF (off+n*sz) b.c.len then Z ((b.c.toMx.drop off).take (n*sz),n,[id]) else U|none=>U
 |_=>U
def AV.slen:AV->M Nat
 |.f (.sl _ n)|.f (.raw (.slice _ n _))=>Z n
 |.emp=>Z 0
 |.G _ _ n|.sl _ _ n=>Z n
 |_=>U
def bf (n bytes:Nat):Bool:=dF n 1099511627776&&dF (n*bytes) 1099511627776
def repl (z:ξ):Nat->Y FV
 |0=>[]
 |n+1=>z.map .raw++repl z n
def uQ:Value->Bool
 |.slice U 0 0=>J
 |_=>aa
def D3:AV->Bool
 |.emp=>J
 |.f (.raw v)=>uQ v
 |_=>aa
def te (k:Value):Y j!->M (M AV)
 |[]=>Z U
 |(z,v)::r=>match uW .eql k z with
  |some (.bool J)=>Z (Z v)
  |some (.bool aa)=>te k r
  |_=>U
def zu (k:Value) (v:AV):Y j!->M (Y j!)
 |[]=>Z [(k,v)]
 |(z,A)::r=>match uW .eql k z with
  |some (.bool J)=>Z ((k,v)::r)
  |some (.bool aa)=>(match zu k v r with|some D=>Z ((z,A)::D)|none=>U)
  |_=>U
def HZ:Y FV->M ξ
 |[]=>Z []
 |.raw v::r=>match HZ r with|some l=>Z (v::l)|none=>U
 |_::_=>U
def abn:AV->M ξ
 |.f (.agg l)=>HZ l
 |.agg l=>match yG l with|some z=>HZ z|none=>U
 |_=>U
def abm (ds:Y TypeDesc) (y:AV):M ξ:=match abn y with
 |some l=>if (l! l)==l! ds then Z l else U
 |none=>U
def C7 (ds:Y TypeDesc) (k:ξ):Value->M Bool
 |.agg z=>jE ds (k.map .raw) (z.toList.map .raw)
 |_=>U
def HX (ds:Y TypeDesc) (k:ξ):Y j!->M (M AV)
 |[]=>Z U
 |(z,v)::r=>match C7 ds k z with
  |some J=>Z (Z v)
  |some aa=>HX ds k r
  |none=>U
def Xs (ds:Y TypeDesc) (k:ξ) (v:AV):Y j!->M (Y j!)
 |[]=>Z [(.agg k.toArray,v)]
 |(z,A)::r=>match C7 ds k z with
  |some J=>Z ((.agg k.toArray,v)::r)
  |some aa=>(match Xs ds k v r with|some D=>Z ((z,A)::D)|none=>U)
  |none=>U
def Xt (ds:Y TypeDesc) (k:ξ):Y j!->M (Y j!)
 |[]=>Z []
 |(z,A)::r=>match C7 ds k z with
  |some J=>Z r
  |some aa=>(match Xt ds k r with|some D=>Z ((z,A)::D)|none=>U)
  |none=>U
def told (n:Int):Y j!->M AV
 |(.int .i64 k,v)::r=>if k=n then Z v else told n r
 |_=>U
def my (n:Int) (y:AV):Y j!->Y j!
 |[]=>[]
 |p::r=>(p.1,match p.1 with|.int .i64 k=>if k=n then y else p.2|_=>p.2)::my n y r
def yd:Bool->Value->Bool
 |false,.int _ _=>J
 |true,.string _=>J
 |_,_=>aa
def rnA (b:UInt8) (s:ByteArray) (p:Nat):Int:=bif dY b.toNat 128 then b.toNat else (Utf8.decode s p).1
def wdA (b:UInt8) (s:ByteArray) (p:Nat):Nat:=bif dY b.toNat 128 then 1 else (Utf8.decode s p).2
def dx (s:SU) (e:DE) (h:mQ) (nx:Nat):M Cu:=
 match s with
 |.mv x=>match lS e x with|some v=>rv v|none=>U
 |.pick c a b=>match lS e c with
  |some (.f (.raw (.bool t)))=>(match lS e (if t then a else b) with|some v=>rv v|none=>U)
  |_=>U
 |.alloc ty z=>Z ⟨.H nx 0,[],[nx],[(nx,⟨ty,.fz (z.map .raw)⟩)],[nx]⟩
 |.box ty x=>match lS e x with
  |some v=>if gp v.cs then Z ⟨.H nx 0,[],[nx],[(nx,⟨ty,nW v.cs⟩)],[nx]⟩ else U
  |none=>U
 |.build z parts=>match Bv (z.map raw) e parts with|some cs=>rv (Py cs)|none=>U
 |.xz ty sz len z parts=>match Bv ((repl z len).map .f) e parts with
  |some cs=>Z ⟨if len=0 then .emp else .G nx sz len,[],[nx],[(nx,⟨ty,nW cs⟩)],[nx]⟩
  |none=>U
 |.load sz A x=>match lS e x with|some p=>xc h sz A p|none=>U
 |.store sz x v=>match lS e x,lS e v with|some p,Z y=>BU h sz y p|_,_=>U
 |.zh x=>match lS e x with
  |some (.H id off)=>rv (.H id off)
  |some (.f (.H cells off))=>rv (.f (.H cells off))
  |some (.qv g cap)=>rv (.qv g cap)
  |_=>U
 |.bin op x y=>match lS e x,lS e y with
  |some (.f (.raw u)),Z (.f (.raw v))=>(match uW op u v with|some r=>rv (raw r)|none=>U)
  |_,_=>U
 |.jm neg ds x y=>match lS e x,lS e y with
  |some (.f (.agg a)),Z (.f (.agg b))=>(match jE ds a b with|some r=>rv (raw (.bool (r !=neg)))|none=>U)
  |_,_=>U
 |.xq neg x y=>match lS e x,lS e y with
  |some (.f (.raw (.bool a))),Z (.f (.raw (.bool b)))=>rv (raw (.bool ((a==b) !=neg)))
  |_,_=>U
 |.zf neg x=>match lS e x with
  |some (.G _ _ _)|some (.sl _ _ _)|some (.f (.sl _ (_+1)))=>rv (raw (.bool neg))
  |some (.f (.sl _ 0))|some .emp=>rv .qw
  |some (.f (.raw v))=>if uQ v then rv (raw (.bool !neg)) else U
  |_=>U
 |.not x=>match lS e x with|some (.f (.raw (.bool b)))=>rv (raw (.bool !b))|_=>U
 |.conv k x=>match lS e x with|some (.f (.raw (.int _ n)))=>rv (raw (.int k (bl k n)))|_=>U
 |.zg ty sz bytes z l c=>match lS e l,lS e c with
  |some (.f (.raw (.int _ a))),Z (.f (.raw (.int _ b)))=>
   if dm 0 a&&dm a b&&bf b.toNat bytes then Z ⟨.G nx sz a.toNat,[],[nx],[(nx,⟨ty,.fz (repl z a.toNat)⟩)],[nx]⟩ else U
  |_,_=>U
 |.slc sz x D hi mx=>match lS e x with
  |some v=>match D,hi,mx with
   |none,Z (.const (.int _ 0)),Z (.const (.int _ 0))=>if v.slen.isSome then rv .emp else U
   |none,Z b,U=>match v,lS e b with
    |.G id sz' n,Z (.f (.raw (.int _ j)))=>if sz'==sz&&dm 0 j&&dm j n then (match h.get id with
     |some blk=>if blk.c.isCells&&dF (n*sz) blk.c.len then Z ⟨.G nx sz j.toNat,[id],[nx,id],[(nx,⟨blk.ty,nW (blk.c.toMx.take (j.toNat*sz))⟩)],[nx]⟩ else U
     |none=>U) else U
    |.f (.sl cells n),Z (.f (.raw (.int _ j)))=>if dm 0 j&&dm j n&&dF (n*sz) (l! cells) then rv (.f (.sl (cells.take (j.toNat*sz)) j.toNat)) else U
    |_,_=>U
   |some b,U,U=>match v,lS e b with
    |.G id sz' n,Z (.f (.raw (.int _ j)))=>if sz'==sz&&dm 0 j&&fK j n then rv (.sl id (j.toNat*sz) (n-j.toNat)) else U
    |.f (.sl cells n),Z (.f (.raw (.int _ j)))=>if dm 0 j&&dm j n&&dF (n*sz) (l! cells) then rv (.f (.sl ((cells.drop (j.toNat*sz)).take ((n-j.toNat)*sz)) (n-j.toNat))) else U
    |_,_=>U
   |none,Z b,Z b'=>match v,lS e b,lS e b' with
    |.f (.sl cells n),Z (.f (.raw (.int _ j))),Z (.f (.raw (.int _ L)))=>if decide (j=L)&&dm 0 j&&dm j n&&dF (n*sz) (l! cells) then rv (.qm (cells.take (j.toNat*sz)) j.toNat) else U
    |_,_,_=>U
   |_,_,_=>U
  |none=>U
 |.jg off x=>match lS e x with
  |some (.H id o)=>rv (.H id (o+off))
  |some (.f (.H cells o))=>rv (.f (.H cells (o+off)))
  |_=>U
 |.fld off sz A x=>match lS e x with
  |some (.agg l)=>(match (BC.mx l).sub? off sz A with|some v=>rv v|none=>U)
  |some (.f (.agg l))=>(match (BC.fz l).sub? off sz A with|some v=>rv v|none=>U)
  |_=>U
 |.jk sz x i=>match lS e x,lS e i with
  |some v,Z (.f (.raw (.int _ j)))=>match v with
   |.G id sz' n=>if sz'==sz&&dm 0 j&&fK j n then rv (.H id (j.toNat*sz)) else U
   |.sl id off n=>if dm 0 j&&fK j n then rv (.H id (off+j.toNat*sz)) else U
   |.f (.sl cells n)=>if dm 0 j&&fK j n then rv (.f (.H cells (j.toNat*sz))) else U
   |_=>U
  |_,_=>U
 |.jx n sz x i=>match lS e x,lS e i with
  |some v,Z (.f (.raw (.int _ j)))=>if dm 0 j&&fK j n then (match v with
   |.H id off=>rv (.H id (off+j.toNat*sz))
   |.f (.H cells off)=>rv (.f (.H cells (off+j.toNat*sz)))
   |_=>U) else U
  |_,_=>U
 |.idx n sz A x i=>match lS e x,lS e i with
  |some v,Z (.f (.raw (.int _ j)))=>if dm 0 j&&fK j n then (match v with
   |.agg l=>(match (BC.mx l).sub? (j.toNat*sz) sz A with|some v=>rv v|none=>U)
   |.f (.agg l)=>(match (BC.fz l).sub? (j.toNat*sz) sz A with|some v=>rv v|none=>U)
   |_=>U) else U
  |_,_=>U
 |.ext x i=>match lS e x with|some (.qg l)=>(match l[i]? with|some v=>rv v|none=>U)|_=>U
 |.len x=>match lS e x with
  |some v=>(match v.slen with|some n=>rv (raw (.int .i64 n))|none=>U)
  |none=>U
 |.lens x=>match lS e x with
  |some (.f (.raw (.string s)))=>rv (raw (.int .i64 (l! s.data.toList)))
  |_=>U
 |.jw x=>match lS e x with
  |some (.mp id)=>(match h.get id with|some ⟨0,.mp es⟩=>Z ⟨raw (.int .i64 (l! es)),[id],[],[],[]⟩|_=>U)
  |_=>U
 |.max x y=>match lS e x,lS e y with
  |some (.f (.raw (.int k a))),Z (.f (.raw (.int _ b)))=>rv (raw (.int k (if fK a b then b else a)))
  |_,_=>U
 |.min x y=>match lS e x,lS e y with
  |some (.f (.raw (.int k a))),Z (.f (.raw (.int _ b)))=>rv (raw (.int k (if fK b a then b else a)))
  |_,_=>U
 |.jq x i=>match lS e x,lS e i with
  |some (.f (.raw (.string s))),Z (.f (.raw (.int _ j)))=>if dm 0 j then (match s.data.toList[j.toNat]? with|some b=>rv (raw (.int .u8 b.toNat))|none=>U) else U
  |_,_=>U
 |.app ty sz bytes s x=>match lS e s,lS e x with
  |some b,Z y=>match y.row? h sz with
   |some (src,m,rd)=>match b with
    |.G id sz' n=>match h.get id with
     |some blk=>if sz'==sz&& !(mem id rd)&&blk.c.isCells&&dF (n*sz) blk.c.len&&blk.ty==ty&&bf (n+m) bytes then
       Z ⟨.G nx sz (n+m),id::rd,[nx,id],[(nx,⟨ty,nW (blk.c.toMx.take (n*sz)++src)⟩)],[nx]⟩ else U
     |none=>U
    |.qm cells n=>if dF (n*sz) (l! cells)&&bf (n+m) bytes then
      (if m==0 then Z ⟨.f (.sl cells n),rd,[],[],[]⟩ else Z ⟨.G nx sz (n+m),rd,[nx],[(nx,⟨ty,nW ((cells.take (n*sz)).map .f++src)⟩)],[nx]⟩) else U
    |b=>if D3 b&&bf m bytes then
      (if m==0 then Z ⟨b,rd,[],[],[]⟩ else Z ⟨.G nx sz m,rd,[nx],[(nx,⟨ty,nW src⟩)],[nx]⟩) else U
   |none=>U
  |_,_=>U
 |.copy sz d x=>match lS e d,lS e x with
  |some (.G id sz' n),Z y=>(match h.get id,y.row? h sz with
   |some blk,Z (src,m,rd)=>if sz'==sz&& !(mem id rd)&&dF (n*sz) blk.c.len then
     (match blk.c.put 0 (src.take (lM m n*sz)) with
     |some c=>Z ⟨raw (.int .i64 (lM m n)),id::rd,[id],[(id,⟨blk.ty,c⟩)],[]⟩
     |none=>U) else U
   |_,_=>U)
  |_,_=>U
 |.clr _ z x=>match lS e x with
  |some (.sl id off n)=>(match h.get id with
   |some blk=>if dY 0 n then (match blk.c.put off ((repl z n).map .f) with
    |some c=>Z ⟨.qg [],[id],[id],[(id,⟨blk.ty,c⟩)],[]⟩
    |none=>U) else U
   |none=>U)
  |_=>U
 |.mkf f caps=>match evs e caps with|some l=>rv (.qv f l)|none=>U
 |.mkm=>Z ⟨.mp nx,[],[nx],[(nx,⟨0,.mp []⟩)],[nx]⟩
 |.jy str ok z x k=>match lS e x,lS e k with
  |some (.mp id),Z (.f (.raw key))=>(match h.get id with
   |some ⟨0,.mp es⟩=>if yd str key then (match te key es with|some (Z v)=>Z ⟨pkV ok v J,[id],[],[],[]⟩|some U=>Z ⟨pkV ok (raw z) aa,[id],[],[],[]⟩|none=>U) else U
   |some ⟨_+1,.mp es⟩=>(match key with
    |.int .i64 n=>if !str&&(!ok&&uQ z) then (match told n es with|some v=>Z ⟨v,[id],[],[],[]⟩|none=>U) else U
    |_=>U)
   |_=>U)
  |_,_=>U
 |.jv str x k v=>match lS e x,lS e k,lS e v with
  |some (.mp id),Z (.f (.raw key)),Z y=>(match h.get id with
   |some ⟨0,.mp es⟩=>if yd str key then (match zu key y es with|some es'=>Z ⟨raw undef,[id],[id],[(id,⟨0,.mp es'⟩)],[]⟩|none=>U) else U
   |some ⟨ty+1,.mp es⟩=>(match key with
    |.int .i64 n=>if str then U else Z ⟨raw undef,[id],[id],[(id,⟨ty+1,.mp (my n y es)⟩)],[]⟩
    |_=>U)
   |_=>U)
  |_,_,_=>U
 |.rng x=>match lS e x with
  |some (.f (.raw (.string s)))=>Z ⟨.H nx 0,[],[nx],[(nx,⟨0,.it s 0⟩)],[nx]⟩
  |_=>U
 |.nxt x=>match lS e x with
  |some (.H id 0)=>(match h.get id with
   |some ⟨ty,.it s p⟩=>(match s.data.toList[p]? with
    |some b=>Z ⟨.qg [raw (.bool J),raw (.int .i64 p),raw (.int .i32 (rnA b s p))],[id],[id],[(id,⟨ty,.it s (p+wdA b s p)⟩)],[]⟩
    |none=>Z ⟨.qg [raw (.bool aa)],[id],[id],[(id,⟨ty,.it s p⟩)],[]⟩)
   |_=>U)
  |_=>U
 |.zl neg x=>match lS e x with
  |some (.H _ _)|some (.f (.H _ _))=>rv (raw (.bool neg))
  |some (.f (.raw (.pointer U)))=>rv (raw (.bool !neg))
  |_=>U
 |.lkq ds z x k=>match lS e x,(lS e k).bind (abm ds) with
  |some (.mp id),Z key=>(match h.get id with
   |some ⟨0,.mp es⟩=>(match HX ds key es with
    |some (Z v)=>Z ⟨v,[id],[],[],[]⟩
    |some U=>Z ⟨raw z,[id],[],[],[]⟩
    |none=>U)
   |_=>U)
  |_,_=>U
 |.mpq ds x k v=>match lS e x,(lS e k).bind (abm ds),lS e v with
  |some (.mp id),Z key,Z y=>(match h.get id with
   |some ⟨0,.mp es⟩=>(match Xs ds key y es with|some es'=>Z ⟨raw undef,[id],[id],[(id,⟨0,.mp es'⟩)],[]⟩|none=>U)
   |_=>U)
  |_,_,_=>U
 |.dlq ds x k=>match lS e x,(lS e k).bind (abm ds) with
  |some (.mp id),Z key=>(match h.get id with
   |some ⟨0,.mp es⟩=>(match Xt ds key es with|some es'=>Z ⟨.qg [],[id],[id],[(id,⟨0,.mp es'⟩)],[]⟩|none=>U)
   |_=>U)
  |_,_=>U
 |.zd=>U
structure ua where
 dst:Option Nat
 op:SI
 guard:Option (Nat×Bool)
inductive SC where
 |skip
 |jz (ops:List ua) (prs:List (Nat×Nat))
 |seq (a b:SC)
 |cond (c:Nat) (a b:SC)
 |block (id:Nat) (b:SC)
 |loop (b:SC)
 |exit (id:Nat)
 |ret
 |defer (f:FuncId) (caps:List Operand) (t:Nat)
 |zd
structure avo where
 val:AV
 h:mQ
 nx:Nat
 wr:Nat
abbrev ab3:=FuncId->Y AV->mQ->Nat->M avo
mutual
def AV.ids:AV->Nat->Nat
 |.H id _,acc|.sl id _ _,acc|.G id _ _,acc|.mp id,acc=>acc|||(1<<<id)
 |.agg l,acc|.qg l,acc|.qv _ l,acc=>AV.idsL l acc
 |.f _,acc|.emp,acc|.qw,acc|.qm _ _,acc=>acc
def AV.idsL:Y AV->Nat->Nat
 |[],acc=>acc
 |x::r,acc=>AV.idsL r (AV.ids x acc)
end
mutual
def AV.all (p:Nat->Bool):AV->Bool
 |.H id _|.sl id _ _|.G id _ _|.mp id=>p id
 |.agg l|.qg l|.qv _ l=>AV.allL p l
 |.f _=>J
 |.emp=>J
 |.qw=>J
 |.qm _ _=>J
def AV.allL (p:Nat->Bool):Y AV->Bool
 |[]=>J
 |x::r=>AV.all p x&&AV.allL p r
end
def BC.ids:BC->Nat->Nat
 |.mx l,acc=>AV.idsL l acc
 |.mp es,acc=>AV.idsL (es.map (·.2)) acc
 |_,acc=>acc
def BC.all (p:Nat->Bool):BC->Bool
 |.mx l=>AV.allL p l
 |.mp es=>AV.allL p (es.map (·.2))
 |_=>J
def mQ.all (p:Nat->Bool) (h:mQ):Bool:=PT.all (λi b=>p i&&b.c.all p) 1 0 h
def Zy:Nat->mQ->Nat->Nat->Nat
 |0,_,_,NR=>NR
 |n+1,h,todo,NR=>
  if ay todo 0 then NR else
  match Nat.log2 todo with
  |id=>if aJ NR id then Zy n h (todo ^^^ (1<<<id)) NR else
   match h.get id with
   |some b=>Zy n h (b.c.ids (todo ^^^ (1<<<id))) (NR|||(1<<<id))
   |none=>Zy n h (todo ^^^ (1<<<id)) NR
section force
variable {α:Type}
def ur (n:Nat) (k:Nat->α):α:=match n with|0=>k 0|m+1=>k (m+1)
def frcI (n:Int) (k:Int->α):α:=match n with|.ofNat m=>ur m λm=>k (.ofNat m)|.negSucc m=>ur m λm=>k (.negSucc m)
def frcB (b:Bool) (k:Bool->α):α:=match b with|true=>k J|false=>k aa
def frcV (v:Value) (k:Value->α):α:=match v with
 |.int kd n=>frcI n λn=>k (.int kd n)
 |.bool b=>frcB b λb=>k (.bool b)
 |v=>k v
def at3 (x:FV) (k:FV->α):α:=match x with
 |.raw v=>frcV v λv=>k (.raw v)
 |.H cells off=>ur off λoff=>k (.H cells off)
 |.sl cells n=>ur n λn=>k (.sl cells n)
 |.agg l=>k (.agg l)
def ah3:Y FV->(Y FV->α)->α
 |[],k=>k []
 |x::r,k=>at3 x λx=>ah3 r λr=>k (x::r)
def at2 (x:FV) (k:FV->α):α:=match x with
 |.agg l=>ah3 l λl=>k (.agg l)
 |x=>at3 x k
def anj (x:AV) (k:AV->α):α:=match x with
 |.f x=>at2 x λx=>k (.f x)
 |.H id off=>ur id λid=>ur off λoff=>k (.H id off)
 |.sl id off n=>ur id λid=>ur off λoff=>ur n λn=>k (.sl id off n)
 |.G id sz n=>ur id λid=>ur sz λsz=>ur n λn=>k (.G id sz n)
 |.mp id=>ur id λid=>k (.mp id)
 |x=>k x
def UT:Y AV->(Y AV->α)->α
 |[],k=>k []
 |x::r,k=>anj x λx=>UT r λr=>k (x::r)
def at4 (x:AV) (k:AV->α):α:=match x with
 |.agg l=>UT l λl=>k (.agg l)
 |.qg l=>UT l λl=>k (.qg l)
 |.qv f l=>UT l λl=>k (.qv f l)
 |x=>anj x k
def frcC (c:BC) (k:BC->α):α:=match c with
 |.fz l=>ah3 l λl=>k (.fz l)
 |.mx l=>UT l λl=>k (.mx l)
 |.it s p=>ur p λp=>k (.it s p)
 |.mp es=>k (.mp es)
def US :PT R->(PT R->α)->α
 |.leaf,k=>k .leaf
 |.node v l r,k=>(match v with
  |none=>λ(k:M R->α)=>k U
  |some x=>λk=>k (Z x)) λv=>US l λl=>US r λr=>k (.node v l r)
def Xo :Nat->PT R->Nat->M R->(PT R->α)->α
 |0,t,_,_,k=>k t
 |f+1,t,n,x,k=>match t with
  |.leaf=>(match n with
   |0=>k (.node x .leaf .leaf)
   |m+1=>if ay (m%2) 0 then ur (m/2) λq=>Xo f .leaf q x λu=>k (.node U u .leaf) else ur (m/2) λq=>Xo f .leaf q x λu=>k (.node U .leaf u))
  |.node v l r=>(match n with
   |0=>k (.node x l r)
   |m+1=>if ay (m%2) 0 then ur (m/2) λq=>Xo f l q x λu=>k (.node v u r) else ur (m/2) λq=>Xo f r q x λu=>k (.node v l u))
def RI :∀(x:PT R) (k:PT R->α),US x k=k x
 |.leaf,_=>rfl
 |.node v l r,k=>by cases v<;>simp[US,RI l,RI r]
end force
structure IS where
 e:DE
 h:mQ
 nx:Nat
 wr:Nat
structure ao2 where
 val:AV
 rd:Nat
 wr:Nat
 h:mQ
 nx:Nat
def bits:ι->Nat->Nat
 |[],acc=>acc
 |x::r,acc=>bits r (acc|||(1<<<x))
def aof (h:mQ) (z:NW):ι->(mQ->R)->R
 |[],k=>k h
 |i::r,k=>match jK z i with
  |none=>Xo (i+1) h i U λh=>aof h z r k
  |some ⟨ty,c⟩=>frcC c λc=>Xo (i+1) h i (Z ⟨ty,c⟩) λh=>aof h z r k
def ann (call:ab3) (f:FuncId) (args:Y AV) (h:mQ) (nx:Nat):M ao2:=
 ur (Zy 1000000 h (AV.idsL args 0) 0) λids=>US (PT.only ids 1 0 h) λA=>
 if AV.allL (dY · nx) args&&mQ.all (dY · nx) A then
  match call f args A nx with
  |some ⟨val,h',nx',z⟩=>at4 val λval=>ur nx' λnx'=>ur z λz=>US (PT.merge z 1 0 h h') λhm=>Z ⟨val,ids,z,hm,nx'⟩
  |none=>U
 else U
def opA (call:ab3) (o:SI) (e:DE) (h:mQ) (nx:Nat):M ao2:=
 match o with
 |.call f args=>match evs e args with|some l=>ann call f l h nx|none=>U
 |.jd x args=>match lS e x,evs e args with|some (.qv f cap),Z l=>ann call f (l++cap) h nx|_,_=>U
 |.op o=>match dx o e h nx with
  |some ⟨val,rd,z,D,N⟩=>at4 val λval=>ur (bits rd 0) λrd=>ur (bits z 0) λA=>ur (nx+l! N) λnx'=>aof h D z λh=>Z ⟨val,rd,A,h,nx'⟩
  |none=>U
def asd (e:DE):M (Nat×Bool)->M Bool
 |none=>Z J
 |some (t,want)=>match e.get t with
  |some (.f (.raw (.bool b)))=>Z (b==want)
  |some (.f (.raw (.tuple _)))=>Z aa
  |_=>U
def aox (e:DE) (dst:M Nat) (v:AV) (k:DE->R):R:=match dst with
 |none=>k e
 |some d=>Xo (d+1) e d (Z v) k
structure FPm where
 rd:Nat
 wr:Nat
def Xv (call:ab3):Y ua->IS->M (IS×Y FPm)
 |[],s=>Z (s,[])
 |o::r,⟨e,h,nx,A⟩=>
  match asd e o.guard with
  |some J=>(match opA call o.op e h nx with
   |some ⟨val,rd,w,h',nx'⟩=>aox e o.dst val λe'=>ur (A|||w) λwr'=>(match Xv call r ⟨e',h',nx',wr'⟩ with
    |some (s',z)=>Z (s',⟨rd,w⟩::z)
    |none=>U)
   |none=>U)
  |some aa=>aox e o.dst (raw undef) λe'=>(match Xv call r ⟨e',h,nx,A⟩ with
   |some (s',z)=>Z (s',⟨0,0⟩::z)
   |none=>U)
  |none=>U
def ac7:Y FPm->Nat->M FPm
 |[],_=>U
 |f::_,0=>Z f
 |_::r,n+1=>ac7 r n
def IY (a b:Nat):Bool:=ay (a&&&b) 0
abbrev o!:=Nat×Nat
def H3 (z:Y FPm):Y o!->Bool
 |[]=>J
 |(i,j)::r=>(match ac7 z i,ac7 z j with
  |some a,Z b=>IY a.wr b.rd&&IY a.wr b.wr&&IY b.wr a.rd
  |_,_=>aa)&&H3 z r
inductive Ex where
 |normal
 |exit (id:Nat)
 |ret
def anf (body:IS->M (Ex×IS)) (e0:DE):Nat->IS->M (Ex×IS)
 |0,_=>U
 |n+1,s=>match body s with
  |some (.normal,⟨e,h,nx,z⟩)=>US (PT.mask e e0) λe=>anf body e0 n ⟨e,h,nx,z⟩
  |r=>r
def run (call:ab3) (inert:FuncId->Bool) (fuel:Nat):SC->IS->M (Ex×IS)
 |.skip,s=>Z (.normal,s)
 |.jz ops prs,s=>match Xv call ops s with
  |some (s',A)=>if H3 A prs then Z (.normal,s') else U
  |none=>U
 |.seq a b,s=>match run call inert fuel a s with
  |some (.normal,s')=>run call inert fuel b s'
  |r=>r
 |.cond c a b,s=>match s.e.get c with
  |some (.f (.raw (.bool J)))=>run call inert fuel a s
  |some (.f (.raw (.bool aa)))=>run call inert fuel b s
  |_=>U
 |.block id b,s=>match run call inert fuel b s with
  |some (.exit i,s')=>if ay i id then Z (.normal,s') else Z (.exit i,s')
  |r=>r
 |.loop b,s=>anf (run call inert fuel b) s.e fuel s
 |.exit id,s=>Z (.exit id,s)
 |.ret,s=>Z (.ret,s)
 |.defer f caps t,⟨e,h,nx,z⟩=>match evs e caps with
  |some l=>if inert f then aox e (Z t) (.qv f l) λe'=>Z (.normal,⟨e',h,nx,z⟩) else U
  |none=>U
 |.zd,_=>U
inductive RV where
 |tmp (t:Nat)
 |cell (a:Nat) (sz:Nat) (ag:Bool)
structure SF where
 code:SC
 res:List RV
 nt:Nat
def Ev:Y AV->AV
 |[x]=>x
 |l=>.qg l
def apo:Value->Value->Bool
 |.bool a,.bool b=>a==b
 |.int k a,.int A b=>k==A&&a==b
 |.string a,.string b=>tF a b
 |.slice U n c,.slice U z D=>ay n z&&ay c D
 |.pointer U,.pointer U=>J
 |.tuple a,.tuple b=>a.isEmpty&&b.isEmpty
 |_,_=>aa
def fE (P:Program) (t:TypeId):M Nat:=(P.info? t).map (·.size)
def Hy (P:Program) (t:TypeId):M Nat:=(P.info? t).map (·.bytes)
def uz (P:Program) (t:TypeId):M ξ:=((P.info? t).bind (·.zero)).map (·.cells.toList)
def F8 (P:Program) (t:TypeId):M Bool:=(P.underlying t).map λ|.struct _=>J|.array _ _=>J|_=>aa
def Dc (P:Program) (t:TypeId):M TypeId:=match P.underlying t with|some (.slice e)=>Z e|_=>U
def DP (P:Program) (t:TypeId) (i:Nat):M o!:=match P.underlying t with
 |some (.struct A)=>(A[i]?).bind λf=>(fE P f.type).map (f.offset,·)
 |some (.array _ z)|some (.slice z)=>(fE P z).map λs=>(i*s,s)
 |_=>U
abbrev F?:=Nat×Operand
def yX (P:Program) (t:TypeId):Y F?->M (Y m?)
 |[]=>Z []
 |(i,x)::r=>match DP P t i,yX P t r with|some (o,s),Z l=>Z ((o,s,x)::l)|_,_=>U
def nV (z:ξ):Bool:=z.all λv=>v.oneCell'
def DO:TypeDesc->Bool
 |.int _=>J
 |.bool=>J
 |.string=>J
 |_=>aa
def lP (P:Program):Nat→Y Field→M (Y TypeDesc)
 |_,[]=>Z []
 |k,f::r=>match P.underlying f.type,lP P (k+1) r with
  |some d,Z ds=>if f.name != "_" &&f.offset==k&&DO d then Z (d::ds) else U
  |_,_=>U
def DN (P:Program) (t:TypeId):M (Y TypeDesc):=match P.underlying t with
 |some (.struct z)=>if P.stoodInHeld t then U else lP P 0 z.toList
 |_=>U
def V9 (P:Program) (c:Call):M SU:=
 match c.callee with
 |.builtin .len=>(match c.args.toList,c.argTypes.toList with
  |[x],[t]=>(match P.underlying t with
   |some (.slice _)=>Z (.len x)
   |some .string=>Z (.lens x)
   |some (.map _ _)=>Z (.jw x)
   |_=>U)
  |_,_=>U)
 |.builtin .max=>(match c.args.toList with
  |[x,y]=>Z (.max x y)
  |_=>U)
 |.builtin .min=>(match c.args.toList with
  |[x,y]=>Z (.min x y)
  |_=>U)
 |.builtin .copy=>(match c.args.toList,c.argTypes.toList with
  |[d,x],[t,u]=>(match Dc P t,Dc P u with
   |some A,Z _=>(fE P A).bind λsz=>if sz !=0 then Z (.copy sz d x) else U
   |_,_=>U)
  |_,_=>U)
 |.builtin .delete=>(match c.args.toList,c.argTypes.toList with
  |[m,k],[t,_]=>(match P.underlying t with
   |some (.map D _)=>(DN P D).map λds=>.dlq ds m k
   |_=>U)
  |_,_=>U)
 |.builtin .clear=>(match c.args.toList,c.argTypes.toList with
  |[x],[t]=>(Dc P t).bind λA=>(uz P A).bind λz=>(fE P A).bind λsz=>if nV z&&l! z==sz&&sz !=0 then Z (.clr sz z x) else U
  |_,_=>U)
 |.builtin .append=>(match c.args.toList,c.argTypes.toList with
  |[s,x],[t,u]=>(match Dc P t,Dc P u with
   |some A,Z _=>(fE P A).bind λsz=>(Hy P A).bind λb=>(uz P A).bind λz=>if sz !=0&&l! z==sz then Z (.app A sz b s x) else U
   |_,_=>U)
  |_,_=>U)
 |_=>U
def cO (P:Program):Op->M SU
 |.move x|.assign x=>Z (.mv x)
 |.pick c a b=>Z (.pick c a b)
 |.alloc t=>(uz P t).bind λz=>if nV z then Z (.alloc t z) else U
 |.box t x=>Z (.box t x)
 |.build t ps=>match P.underlying t with
  |some (.struct L)=>(uz P t).bind λz=>if nV z&&(L.toList.all λf=>(fE P f.type).isSome) then (yX P t ps.toList).map (.build z) else U
  |some (.array _ A)=>(uz P t).bind λz=>if nV z&&(fE P A).isSome then (yX P t ps.toList).map (.build z) else U
  |_=>U
 |.buildSlice t n ps=>(Dc P t).bind λA=>(uz P A).bind λz=>(fE P A).bind λsz=>if nV z&&l! z==sz&&dF (n*sz) 65536&&sz !=0 then (yX P t ps.toList).map (.xz A sz n z) else U
 |.load t x=>(fE P t).bind λsz=>(F8 P t).map λN=>.load sz N x
 |.store t x v=>(fE P t).map λsz=>.store sz x v
 |.nilCheck x=>Z (.zh x)
 |.binOp op t x y _=>match P.underlying t with
  |some (.int _)|some .string=>Z (.bin op x y)
  |some .bool=>(match op with|.eql=>Z (.xq aa x y)|.neq=>Z (.xq J x y)|_=>U)
  |some (.slice _)=>(match op,y with
   |.eql,.const (.slice U 0 0)=>Z (.zf aa x)
   |.neq,.const (.slice U 0 0)=>Z (.zf J x)
   |_,_=>U)
  |some (.pointer _)=>(match op,y with
   |.eql,.const (.pointer U)=>Z (.zl aa x)
   |.neq,.const (.pointer U)=>Z (.zl J x)
   |_,_=>U)
  |some (.struct _)=>(DN P t).bind λds=>(match op with|.eql=>Z (.jm aa ds x y)|.neq=>Z (.jm J ds x y)|_=>U)
  |_=>U
 |.unOp .not _ x=>Z (.not x)
 |.unOp .neg t x=>match P.underlying t with|some (.int k)=>Z (.bin .sub (.const (.int k 0)) x)|_=>U
 |.convert s d x=>match P.underlying s,P.underlying d with|some (.int _),Z (.int k)=>Z (.conv k x)|_,_=>U
 |.makeSlice t l c=>(Dc P t).bind λA=>(uz P A).bind λz=>(fE P A).bind λsz=>(Hy P A).bind λb=>if nV z&&l! z==sz&&sz !=0 then Z (.zg A sz b z l c) else U
 |.slice t x lo hi mx=>(Dc P t).bind λA=>(fE P A).map λsz=>.slc sz x lo hi mx
 |.fieldAddr t x k=>match P.underlying t with
  |some (.struct L)=>(L[k]?).bind λf=>(fE P f.type).bind λsz=>if sz !=0 then Z (.jg f.offset x) else U
  |_=>U
 |.field t x k=>match P.underlying t with
  |some (.struct L)=>(L[k]?).bind λf=>(fE P f.type).bind λsz=>(F8 P f.type).map λN=>.fld f.offset sz N x
  |_=>U
 |.indexAddr t x i=>match P.underlying t with
  |some (.slice A)=>(fE P A).map λsz=>.jk sz x i
  |some (.array n A)=>(fE P A).map λsz=>.jx n sz x i
  |_=>U
 |.index t x i=>match P.underlying t with
  |some (.array n A)=>(fE P A).bind λsz=>(F8 P A).map λN=>.idx n sz N x i
  |some .string=>Z (.jq x i)
  |_=>U
 |.extract x i=>Z (.ext x i)
 |.makeFunc (.func f) first caps=>if first.isEmpty then Z (.mkf f caps.toList) else U
 |.makeMap t U=>match P.underlying t with|some (.map _ _)=>Z .mkm|_=>U
 |.lookup t x k ok=>match P.underlying t with
  |some (.map D A)=>(match P.underlying D,(P.info? A).bind (·.zero) with
   |some (.int _),Z z=>if z.oneCell' then Z (.jy aa ok z x k) else U
   |some .string,Z z=>if z.oneCell' then Z (.jy J ok z x k) else U
   |some (.struct _),Z z=>if z.oneCell'&& !ok then (DN P D).map λds=>.lkq ds z x k else U
   |_,_=>U)
  |_=>U
 |.mapUpdate t m k v=>match P.underlying t with
  |some (.map D _)=>(match P.underlying D with
   |some (.int _)=>Z (.jv aa m k v)
   |some .string=>Z (.jv J m k v)
   |some (.struct _)=>(DN P D).map λds=>.mpq ds m k v
   |_=>U)
  |_=>U
 |.range t x=>match P.underlying t with|some .string=>Z (.rng x)|_=>U
 |.next x J=>Z (.nxt x)
 |.call c=>V9 P c
 |_=>U
def M8:Op->M SI
 |.call c=>(match c.callee with
  |.value (.func f)=>Z (.call f c.args.toList)
  |.value (.tmp t)=>Z (.jd (.tmp t) c.args.toList)
  |_=>U)
 |_=>U
def w_ (P:Program) (op:Op):SI:=match M8 op with
 |some i=>i
 |none=>(match cO P op with|some s=>.op s|none=>.op .zd)
def SU.still:SU->Bool
 |.mv _|.pick _ _ _|.build _ _|.zh _|.bin _ _ _|.jm _ _ _ _|.zf _ _|.xq _ _ _|.not _|.conv _ _|.jg _ _|.fld _ _ _ _|.jk _ _ _|.jx _ _ _ _|.idx _ _ _ _ _|.ext _ _|.max _ _|.min _ _|.jq _ _|.mkf _ _|.zl _ _|.zd=>J
 |_=>aa
def SI.still:SI->Bool
 |.op s=>s.still
 |_=>aa
def tD (P:Program) (ops:Array Oper):Y Oper->M (Y ua)
 |[]=>Z []
 |o::r=>match tD P ops r with
  |some l=>(match o.guard with
   |none=>Z (⟨o.dst,w_ P o.op,U⟩::l)
   |some (j,want)=>(match (ops[j]?).bind (·.dst) with
    |some t=>Z (⟨o.dst,w_ P o.op,Z (t,want)⟩::l)
    |none=>U))
  |none=>U
def Pr (ops:Array Oper) (l:Y ua):M (Y o!):=
 let B:=M' ops.toList []
 if (iN ops.size).all λj=>((ops[j]?).all λz=>z.after.toList.all λe=> !B6 .any e||decide (e.on<j))&&
     (iN j).all λi=>aJ (B.getD j 0) i||(match ops[i]?,ops[j]? with|some A,Z z=>A.apart ops z|_,_=>aa)
 then Z ((iN ops.size).flatMap λj=>(iN j).filterMap λi=>
  if aJ (B.getD j 0) i||(match l[i]?,l[j]? with|some a,Z b=>a.op.still||b.op.still|_,_=>aa) then U else Z (i,j))
 else U
def aab (ops:Array Oper) (A:Bool):M (FuncId×Y Operand×Nat):=match ops.toList,A with
 |[p,q],aa=>(match p.op,p.guard,p.dst,q.op,q.guard,q.dst with
  |.makeFunc (.func f) first caps,U,Z t,.defer c,U,U=>(match c.callee,c.args.toList with
   |.value (.tmp z),[]=>if ay t z&&first.isEmpty then Z (f,caps.toList,t) else U
   |_,_=>U)
  |_,_,_,_,_,_=>U)
 |_,_=>U
def cE (P:Program) (nt:Nat):Code->SC
 |.skip=>.skip
 |.region _ ops z=>if ops.toList.all λo=>match o.dst with|some d=>decide (d<nt)|none=>J then
   (match aab ops z with
   |some (f,caps,t)=>.defer f caps t
   |none=>(match tD P ops ops.toList with
    |some l=>(match Pr ops l with|some prs=>.jz l prs|none=>.zd)
    |none=>.zd)) else .zd
 |.seq a b=>.seq (cE P nt a) (cE P nt b)
 |.cond (.tmp c) a b=>.cond c (cE P nt a) (cE P nt b)
 |.cond (.const (.bool J)) a _=>cE P nt a
 |.cond (.const (.bool aa)) _ b=>cE P nt b
 |.block id b=>.block id (cE P nt b)
 |.loop b=>.loop (cE P nt b)
 |.exit id=>.exit id
 |.ret=>.ret
 |_=>.zd
def w9 (P:Program):Y ResultVar->M (Y RV)
 |[]=>Z []
 |.tmp t::r=>match w9 P r with|some l=>Z (.tmp t::l)|none=>U
 |.cell a t::r=>match w9 P r,fE P t,F8 P t with|some l,Z sz,Z z=>Z (.cell a sz z::l)|_,_,_=>U
def BQ (P:Program) (f:FuncId):M SF:=
 match P.funcs[f]? with
 |some fn=>if fn.name== "runtime.NumGoroutine" then U else (match fn.body,w9 P fn.results.toList with
  |some c,Z r=>Z ⟨cE P fn.ntmps c,r,fn.ntmps⟩
  |_,_=>U)
 |none=>U
inductive Xp where
 |mk (op n:Int) (name:ζ) (l:List Xp)
inductive Sx where
 |mk (op line:Int) (name arg:ζ) (index:List Xp) (expr:Xp) (body els:List Sx)
def Xp.op:Xp->Int|.mk a _ _ _=>a
def Xp.n:Xp->Int|.mk _ a _ _=>a
def Xp.name:Xp->ζ|.mk _ _ a _=>a
def Xp.l:Xp->Y Xp|.mk _ _ _ a=>a
def Sx.op:Sx->Int|.mk a _ _ _ _ _ _ _=>a
def Sx.line:Sx->Int|.mk _ a _ _ _ _ _ _=>a
def Sx.name:Sx->ζ|.mk _ _ a _ _ _ _ _=>a
def Sx.arg:Sx->ζ|.mk _ _ _ a _ _ _ _=>a
def Sx.index:Sx->Y Xp|.mk _ _ _ _ a _ _ _=>a
def Sx.expr:Sx->Xp|.mk _ _ _ _ _ a _ _=>a
def Sx.body:Sx->Y Sx|.mk _ _ _ _ _ _ a _=>a
def Sx.els:Sx->Y Sx|.mk _ _ _ _ _ _ _ a=>a
inductive Ty where
 |int (k:IntKind)
 |bool
 |str
 |sl (t:Ty)
 |st (t:Ty)
 |pr (a b:Ty)
 |un
 |ex
 |sm
 deriving DecidableEq
@[reducible] def Ty.den:Ty->Type
  |.int _=>Int
  |.bool=>Bool
  |.str=>ζ
  |.sl t=>Y t.den
  |.st t=>t.den
  |.pr a b=>a.den×b.den
  |.un=>Unit
  |.ex=>Xp
  |.sm=>Sx
def Ty.size:Ty->Nat
 |.st t=>t.size
 |.pr a b=>a.size+b.size
 |.un=>0
 |.ex=>4
 |.sm=>11
 |_=>1
def Ty.zero:(t:Ty)->t.den
 |.int _=>(0:Int)
 |.bool=>aa
 |.str=>[]
 |.sl _=>[]
 |.st t=>t.zero
 |.pr a b=>(a.zero,b.zero)
 |.un=>()
 |.ex=>.mk 0 0 [] []
 |.sm=>.mk 0 0 [] [] [] (.mk 0 0 [] []) [] []
def Ty.one:Ty->Bool
 |.int _=>J
 |.bool=>J
 |.str=>J
 |.sl _=>J
 |_=>aa
def PY:Ty:=.pr (.int .i64) (.pr (.int .i64) (.pr .str (.sl .ex)))
def Pk:Ty:=.pr (.int .i64) (.pr (.int .i64) (.pr .str (.pr .str (.pr (.sl .ex) (.pr .ex (.pr (.sl .sm) (.sl .sm)))))))
def QJ (e:Xp):PY.den:=(e.op,e.n,e.name,e.l)
def ef (x:PY.den):Xp:=.mk x.1 x.2.1 x.2.2.1 x.2.2.2
def QI (e:Sx):Pk.den:=(e.op,e.line,e.name,e.arg,e.index,e.expr,e.body,e.els)
def o6 (x:Pk.den):Sx:=.mk x.1 x.2.1 x.2.2.1 x.2.2.2.1 x.2.2.2.2.1 x.2.2.2.2.2.1 x.2.2.2.2.2.2.1 x.2.2.2.2.2.2.2
mutual
def yn:Xp->Y FV
 |.mk op n name l=>[.raw (.int .i64 op),.raw (.int .i64 n),.raw (.string ⟨name.toArray⟩),.sl (Mf l) (l! l)]
def Mf:Y Xp->Y FV
 |[]=>[]
 |x::r=>yn x++Mf r
end
mutual
def Al:Sx->Y FV
 |.mk op line name arg index expr body els=>[.raw (.int .i64 op),.raw (.int .i64 line),.raw (.string ⟨name.toArray⟩),.raw (.string ⟨arg.toArray⟩),.sl (Mf index) (l! index)]++yn expr++[.sl (Me body) (l! body),.sl (Me els) (l! els)]
def Me:Y Sx->Y FV
 |[]=>[]
 |x::r=>Al x++Me r
end
def bI:(T:Ty)->T.den->Y FV
 |.int k,n=>[.raw (.int k n)]
 |.bool,b=>[.raw (.bool b)]
 |.str,s=>[.raw (.string ⟨s.toArray⟩)]
 |.sl t,xs=>[.sl (List.flatMap (bI t) xs) (ah xs)]
 |.st t,v=>bI t v
 |.pr a b,v=>bI a v.1++bI b v.2
 |.un,_=>[]
 |.ex,v=>yn v
 |.sm,v=>Al v
def fM:(T:Ty)->T.den->FV
 |.int k,n=>.raw (.int k n)
 |.bool,b=>.raw (.bool b)
 |.str,s=>.raw (.string ⟨s.toArray⟩)
 |.sl t,xs=>.sl (List.flatMap (bI t) xs) (ah xs)
 |.st t,v=>.agg (bI t v)
 |.pr a b,v=>.agg (bI a v.1++bI b v.2)
 |.un,_=>.agg []
 |.ex,v=>.agg (yn v)
 |.sm,v=>.agg (Al v)
def ND:(T:Ty)->T.den->T.den->Bool
 |.int _,a,b=>decide ((a:Int)=b)
 |.bool,a,b=>(a:Bool)==b
 |.str,a,b=>decide ((a:ζ)=b)
 |.st t,a,b=>ND t a b
 |.pr x y,a,b=>ND x a.1 b.1&&ND y a.2 b.2
 |_,_,_=>J
def t8 {S:Ty} (T:Ty) (v:S.den):M T.den:=if h:S=T then Z (h▸v) else U
def fe (j:Int) (n:Nat):Bool:=dm 0 j&&fK j n
def geti (T:Ty) (xs:Y T.den) (j:Int):T.den:=xs.getD j.toNat T.zero
def cH (xs:Y R) (j:Int) (x:R):Y R:=xs.set j.toNat x
def W7 (xs z:Y R):Y R:=z.take (l! xs)++xs.drop (l! z)
def mH (a b:Int):Int:=if fK a b then b else a
def Jm (a b:Int):Int:=if fK b a then b else a
def ajq (s:ζ) (j:Int):Int:=aQ (s.getD j.toNat 0).toNat
def aH (b:Bool) (t f:M R):M R:=match b with|true=>t|false=>f
def chk (b:Bool) (k:b=J->M R):M R:=match b,k with|true,k=>k rfl|false,_=>U
open Classical in
def Hz (a b:M R):M R:=if a=b then a else U
open Classical in
def same {α:Type} (a b:α) (r:M R):M R:=if a=b then r else U
def aA {α:Type} (o:M α) (k:α->M R):M R:=match o with|some x=>k x|none=>U
def lt {α:Type} (x:α) (k:α->M R):M R:=k x
def jn {α:Type} (o:M (R⊕α)) (k:α->M R):M R:=match o with|some (.inr x)=>k x|some (.inl r)=>Z r|none=>U
def iterN {σ:Type} (step:σ->M (σ⊕R)):Nat->σ->M R
 |0,_=>U
 |n+1,x=>match step x with
  |some (.inl y)=>iterN step n y
  |some (.inr r)=>Z r
  |none=>U
open Classical in
def iter {σ R:Type} (step:σ->M (σ⊕R)) (x:σ):M R:=
 if h:∃n,(iterN step n x).isSome=J then iterN step (Classical.choose h) x else U
def gZ {σ R:Type} (step:σ->M (σ⊕R)) (x:σ):M R:=iterN step 18446744073709551616 x
abbrev C5:Type 1:=∀σ R:Type,(σ->M (σ⊕R))->σ->M R
def mP (a b:M R):Prop:=∀y,a=Z y->b=Z y
def mP.rfl {a:M R}:mP a a:=λ_ h=>h
def mP.bcase {t f z A:M R} (h1:mP t z) (D:mP f A):mP (AI.aH b t f) (AI.aH b z A):=by cases b<;>assumption
def mP.chk {k z:M R} (h:mP k z):mP (AI.chk b λ_=>k) (AI.chk b λ_=>z):=by
 cases b with
 |true=>exact h
 |false=>exact λ_ h=>by cases h
def mP.obind {α:Type} {o z:M α} {k A:α->M R} (h:mP o z) (L:∀x,mP (k x) (A x)):mP (AI.aA o k) (AI.aA z A):=by
 intro y D;cases o with
 |none=>cases D
 |some x=>rw[h x (by rfl)];exact L x y D
def mP.lt {α:Type} {x:α} {k z:α->M R} (h:∀y,mP (k y) (z y)):mP (AI.lt x k) (AI.lt x z):=h x
def mP.jn {α:Type} {o A:M (R⊕α)} {k D:α->M R} (h:mP o A) (L:∀x,mP (k x) (D x)):mP (AI.jn o k) (AI.jn A D):=by
 intro y z;cases o with
 |none=>cases z
 |some x=>
  rw[h x (by rfl)];cases x with
  |inl r=>exact z
  |inr a=>exact L a y z
def mP.iterN {σ:Type} {f g:σ->M (σ⊕R)} (h:∀x,mP (f x) (g x)):∀(n:Nat) (x:σ),mP (AI.iterN f n x) (AI.iterN g n x)
 |0,_=>λ_ h=>by cases h
 |n+1,x=>by
  intro y A;cases hf:f x with
  |none=>rw[AI.iterN,hf]at A;cases A
  |some s=>
   rw[AI.iterN,hf]at A;rw[AI.iterN,h x s hf];cases s with
   |inl z=>exact mP.iterN h n z y A
   |inr r=>exact A
def Lo {σ:Type} {f:σ->M (σ⊕R)}:∀{n:Nat} {x:σ} {r:R},iterN f n x=Z r->iterN f (n+1) x=Z r
 |0,x,r,h=>by cases h
 |n+1,x,r,h=>by
  cases hf:f x with
  |none=>rw[iterN,hf]at h;cases h
  |some s=>
   cases s with
   |inl y=>rw[iterN,hf]at h;rw[iterN,hf];exact Lo h
   |inr q=>rw[iterN,hf]at h;rw[iterN,hf];exact h
def ye {σ:Type} {f:σ->M (σ⊕R)} {n:Nat} {x:σ} {r:R} (h:iterN f n x=Z r) (hle:n<=i):iterN f i x=Z r:=by
 induction hle with
 |refl=>exact h
 |step _ z=>exact Lo z
def Bf {σ:Type} {f:σ->M (σ⊕R)} {n:Nat} {x:σ} {r:R} (h:iterN f n x=Z r):iter f x=Z r:=by
 have A:∃n,(iterN f n x).isSome=J:=⟨n,by rw[h];exact Eq.refl _⟩
 unfold iter;rw[dif_pos A];have L:=Classical.choose_spec A;let⟨N,z⟩:=iZ.1 L;rw[z];rcases Nat.le_total n (Classical.choose A) with D|D
 .rw[ye h D]at z;exact z.symm
 .rw[ye z D]at h;exact h
def mP.iter {σ:Type} {f g:σ->M (σ⊕R)} {x:σ} (h:∀x,mP (f x) (g x)):mP (gZ f x) (AI.iter g x):=λy z=>Bf (mP.iterN h _ x y z)
def orE (a b:M R):M R:=match a with|some y=>Z y|none=>b
def fuel:Nat:=Classical.choose (⟨100000,rfl⟩:∃n:Nat,n=100000)
def kP:fuel=100000:=Classical.choose_spec (⟨100000,rfl⟩:∃n:Nat,n=100000)
def Jc (a:Ty):Ty->Ty
 |.un=>a
 |.int k=>.pr a (.int k)
 |.bool=>.pr a .bool
 |.str=>.pr a .str
 |.sl t=>.pr a (.sl t)
 |.st t=>.pr a (.st t)
 |.pr x y=>.pr a (.pr x y)
 |.ex=>.pr a .ex
 |.sm=>.pr a .sm
def spr:Ty->Ty->Ty
 |.un,b=>b
 |.int k,b=>Jc (.int k) b
 |.bool,b=>Jc .bool b
 |.str,b=>Jc .str b
 |.sl t,b=>Jc (.sl t) b
 |.st t,b=>Jc (.st t) b
 |.pr x y,b=>Jc (.pr x y) b
 |.ex,b=>Jc .ex b
 |.sm,b=>Jc .sm b
def T4 (a:Ty):(b:Ty)->a.den->b.den->(Jc a b).den
 |.un,x,_=>x
 |.int _,x,y|.bool,x,y|.str,x,y|.sl _,x,y|.st _,x,y|.pr _ _,x,y|.ex,x,y|.sm,x,y=>(x,y)
def fsN (a:Ty):(b:Ty)->(Jc a b).den->a.den
 |.un,z=>z
 |.int _,z|.bool,z|.str,z|.sl _,z|.st _,z|.pr _ _,z|.ex,z|.sm,z=>z.1
def snN (a:Ty):(b:Ty)->(Jc a b).den->b.den
 |.un,_=>()
 |.int _,z|.bool,z|.str,z|.sl _,z|.st _,z|.pr _ _,z|.ex,z|.sm,z=>z.2
def ZU:(a b:Ty)->a.den->b.den->(spr a b).den
 |.un,_,_,y=>y
 |.int k,b,x,y=>T4 (.int k) b x y
 |.bool,b,x,y=>T4 .bool b x y
 |.str,b,x,y=>T4 .str b x y
 |.sl t,b,x,y=>T4 (.sl t) b x y
 |.st t,b,x,y=>T4 (.st t) b x y
 |.pr u v,b,x,y=>T4 (.pr u v) b x y
 |.ex,b,x,y=>T4 .ex b x y
 |.sm,b,x,y=>T4 .sm b x y
def SM:(a b:Ty)->(spr a b).den->a.den
 |.un,_,_=>()
 |.int k,b,z=>fsN (.int k) b z
 |.bool,b,z=>fsN .bool b z
 |.str,b,z=>fsN .str b z
 |.sl t,b,z=>fsN (.sl t) b z
 |.st t,b,z=>fsN (.st t) b z
 |.pr u v,b,z=>fsN (.pr u v) b z
 |.ex,b,z=>fsN .ex b z
 |.sm,b,z=>fsN .sm b z
def QV:(a b:Ty)->(spr a b).den->b.den
 |.un,_,z=>z
 |.int k,b,z=>snN (.int k) b z
 |.bool,b,z=>snN .bool b z
 |.str,b,z=>snN .str b z
 |.sl t,b,z=>snN (.sl t) b z
 |.st t,b,z=>snN (.st t) b z
 |.pr u v,b,z=>snN (.pr u v) b z
 |.ex,b,z=>snN .ex b z
 |.sm,b,z=>snN .sm b z
def uU (a b:Ty) (x:a.den) (y:b.den):SM a b (ZU a b x y)=x:=by cases a<;>cases b<;>rfl
def wL (a b:Ty) (x:a.den) (y:b.den):QV a b (ZU a b x y)=y:=by cases a<;>cases b<;>rfl
inductive Sb where
 |ob (id:Nat) (j:Int) (off:Nat)
 |om (id:Nat) (j:Int) (b:Nat)
 |nr (id:Nat) (j:Int) (sz n:Nat)
 |np (id:Nat) (j:Int) (sz:Nat) (i:Int) (off:Nat)
 |nl
def Sb.id:Sb->Nat
 |.ob i _ _=>i
 |.om i _ _=>i
 |.nr i _ _ _=>i
 |.np i _ _ _ _=>i
 |.nl=>0
def Sb.to (i:Nat):Sb->Sb
 |.ob _ j o=>.ob i j o
 |.om _ j b=>.om i j b
 |.nr _ j s n=>.nr i j s n
 |.np _ j s k o=>.np i j s k o
 |.nl=>.nl
inductive uc where
 |ar (ty:TypeId) (S:Ty)
 |qc (ty:TypeId)
 |qh
 |rr (ty:TypeId) (sz:Nat)
 |ir (ty:TypeId) (T:Ty)
 deriving DecidableEq
abbrev mbT:Ty:=.sl (.pr (.int .i64) .bool)
abbrev kyT:Ty:=.pr (.int .i64) (.int .i64)
def uc.ty:uc->Ty
 |.ar _ S=>.sl (.pr S (.pr mbT mbT))
 |.qc _=>.sl (.int .i64)
 |.qh=>.sl (.pr kyT (.int .i64))
 |.rr _ _=>.sl (.int .i64)
 |.ir _ T=>.sl (.sl T)
def uc.aid (n:Nat):uc->Nat
 |.ar _ _=>0
 |.ir _ _=>0
 |_=>n
def rY:(F:uc)->F.ty.den->M (Bool×o!)
 |.qc _,A=>Z (J,1,ah A)
 |.rr _ _,z=>Z (aa,1,ah z)
 |_,_=>U
inductive TV where
 |f (T:Ty) (v:T.den)
 |zk (T:Ty) (xs:List T.den) (j:Int) (h:fe j (l! xs)=J) (off:Nat)
 |ql (id sz:Nat) (j:Int) (off:Nat)
 |H (id off:Nat)
 |G (id:Nat)
 |qy (id sz n:Nat)
 |emp
 |nil
 |mp (id:Nat)
 |agg (l:List TV)
 |qg (l:List TV)
 |qv (g:FuncId) (l:List TV)
 |undef
 |np
 |qw
 |zm (id:Nat) (j:Int)
 |qm (T:Ty) (xs:List T.den)
 |sb (s:Sb)
instance cty (n:Nat):OfNat (M TypeId) n:=⟨Z n⟩
inductive eD where
 |F (ty:TypeId) (p:Bool) (T:Ty) (xs:List T.den)
 |C (ty:Option TypeId) (l:List TV)
 |qj (p:Bool) (sz n:Nat)
 |mp (K V:Ty) (es:List (K.den×V.den))
 |I (F:uc) (a:Nat) (x:F.ty.den)
 |qp (F:uc) (a:Nat) (x:F.ty.den) (k:ν) (p:Option (Nat×Bool×Nat))
abbrev gT:=PT TV
abbrev aX:=PT eD
def cst:Value->M TV
 |.int k n=>Z (.f (.int k) n)
 |.bool b=>Z (.f .bool b)
 |.string s=>Z (.f .str s.data.toList)
 |.slice U 0 0=>Z .nil
 |.pointer U=>Z .np
 |.map U=>Z (.sb .nl)
 |_=>U
def MP:ξ->M (Y TV)
 |[]=>Z []
 |v::r=>match cst v,MP r with|some x,Z l=>Z (x::l)|_,_=>U
def api:Value->M TV
 |.agg vs=>if M6 vs.toList then (match MP vs.toList with|some l=>Z (.agg l)|none=>U) else U
 |v=>cst v
def cellsOf:Nat->(T:Ty)->T.den->M (Y TV)
 |0,_,_=>U
 |n+1,.st t,v=>cellsOf n t v
 |n+1,.pr a b,v=>match cellsOf n a v.1,cellsOf n b v.2 with|some x,Z y=>Z (x++y)|_,_=>U
 |_+1,.un,_=>Z []
 |n+1,.ex,v=>cellsOf n PY (QJ v)
 |n+1,.sm,v=>cellsOf n Pk (QI v)
 |_+1,.int k,v=>Z [.f (.int k) v]
 |_+1,.bool,v=>Z [.f .bool v]
 |_+1,.str,v=>Z [.f .str v]
 |_+1,.sl t,v=>Z [.f (.sl t) v]
def TV.isC:TV->Bool
 |.f T _=>T.one
 |.zk _ _ _ _ _=>J
 |.ql _ _ _ _=>J
 |.H _ _=>J
 |.G _=>J
 |.qy _ _ _=>J
 |.emp=>J
 |.nil=>J
 |.np=>J
 |.mp _=>J
 |.qv _ _=>J
 |.sb _=>J
 |_=>aa
def lG:Y TV->Bool
 |[]=>J
 |x::r=>x.isC&&lG r
def TV.cs (v:TV):M (Y TV):=match v with
 |.agg l=>if lG l then Z l else U
 |.f T x=>cellsOf 40 T x
 |x=>if x.isC then Z [x] else U
def fV (i:Nat):Nat:=1<<<i
def ia (h:aX) (T:Ty):TV->M (T.den×Nat)
 |.f _ v=>match t8 T v with|some x=>Z (x,0)|none=>U
 |.emp|.nil=>(match T with|.sl _=>Z ([],0)|_=>U)
 |.G id=>match h.get id with
  |some (.F _ _ S xs)=>(match t8 (S:=.sl S) T xs with|some x=>Z (x,fV id)|none=>U)
  |_=>U
 |_=>U
def fA (h:aX):Nat->(T:Ty)->Y TV->M (T.den×Nat×Y TV)
 |0,_,_=>U
 |n+1,.st t,l=>fA h n t l
 |n+1,.pr a b,l=>match fA h n a l with
  |some (x,m,r)=>(match fA h n b r with|some (y,m',z)=>Z ((x,y),m|||m',z)|none=>U)
  |none=>U
 |_+1,.un,l=>Z ((),0,l)
 |n+1,.ex,l=>match fA h n PY l with|some (x,m,r)=>Z (ef x,m,r)|none=>U
 |n+1,.sm,l=>match fA h n Pk l with|some (x,m,r)=>Z (o6 x,m,r)|none=>U
 |_+1,.int k,l=>match l with|c::r=>(match ia h (.int k) c with|some (x,m)=>Z (x,m,r)|none=>U)|[]=>U
 |_+1,.bool,l=>match l with|c::r=>(match ia h .bool c with|some (x,m)=>Z (x,m,r)|none=>U)|[]=>U
 |_+1,.str,l=>match l with|c::r=>(match ia h .str c with|some (x,m)=>Z (x,m,r)|none=>U)|[]=>U
 |_+1,.sl t,l=>match l with|c::r=>(match ia h (.sl t) c with|some (x,m)=>Z (x,m,r)|none=>U)|[]=>U
def Ek (h:aX) (T:Ty) (v:TV):M (T.den×Nat):=match v with
 |.agg l=>if T.one then U else (match fA h 40 T l with|some (x,m,[])=>Z (x,m)|_=>U)
 |x=>ia h T x
def nS:Nat->(T:Ty)->T.den->Nat->Nat->Bool->M TV
 |0,_,_,_,_,_=>U
 |n+1,.st t,v,off,sz,z=>if ay off 0&&ay sz t.size&&z then Z (.f (.st t) v) else nS n t v off sz z
 |n+1,.pr a b,v,off,sz,z=>if dY off a.size then nS n a v.1 off sz z else nS n b v.2 (off-a.size) sz z
 |_+1,.un,_,_,_,_=>U
 |n+1,.ex,v,off,sz,z=>if ay off 0&&ay sz 4&&z then Z (.f .ex v) else nS n PY (QJ v) off sz z
 |n+1,.sm,v,off,sz,z=>if ay off 0&&ay sz 11&&z then Z (.f .sm v) else nS n Pk (QI v) off sz z
 |_+1,.int k,v,off,sz,z=>if ay off 0&&ay sz 1&& !z then Z (.f (.int k) v) else U
 |_+1,.bool,v,off,sz,z=>if ay off 0&&ay sz 1&& !z then Z (.f .bool v) else U
 |_+1,.str,v,off,sz,z=>if ay off 0&&ay sz 1&& !z then Z (.f .str v) else U
 |_+1,.sl t,v,off,sz,z=>if ay off 0&&ay sz 1&& !z then Z (.f (.sl t) v) else U
def gG (h:aX) (x:TV):Nat->(T:Ty)->T.den->Nat->Nat->M (T.den×Nat)
 |0,_,_,_,_=>U
 |n+1,.st t,v,off,sz=>match (if ay off 0&&ay sz t.size then Ek h (.st t) x else U) with
  |some y=>Z y
  |none=>gG h x n t v off sz
 |n+1,.pr a b,v,off,sz=>if dY off a.size then (match gG h x n a v.1 off sz with|some (y,m)=>Z ((y,v.2),m)|none=>U) else (match gG h x n b v.2 (off-a.size) sz with|some (y,m)=>Z ((v.1,y),m)|none=>U)
 |_+1,.un,_,_,_=>U
 |n+1,.ex,v,off,sz=>match (if ay off 0&&ay sz 4 then Ek h .ex x else U) with
  |some y=>Z y
  |none=>(match gG h x n PY (QJ v) off sz with|some (y,m)=>Z (ef y,m)|none=>U)
 |n+1,.sm,v,off,sz=>match (if ay off 0&&ay sz 11 then Ek h .sm x else U) with
  |some y=>Z y
  |none=>(match gG h x n Pk (QI v) off sz with|some (y,m)=>Z (o6 y,m)|none=>U)
 |_+1,.int k,_,off,sz=>if ay off 0&&ay sz 1 then ia h (.int k) x else U
 |_+1,.bool,_,off,sz=>if ay off 0&&ay sz 1 then ia h .bool x else U
 |_+1,.str,_,off,sz=>if ay off 0&&ay sz 1 then ia h .str x else U
 |_+1,.sl t,_,off,sz=>if ay off 0&&ay sz 1 then ia h (.sl t) x else U
def C8 (h:aX) (T:Ty):Nat->Y TV->M (Y T.den×Nat)
 |0,[]=>Z ([],0)
 |0,_::_=>U
 |n+1,l=>match fA h 40 T l with
  |some (x,m,r)=>(match C8 h T n r with|some (xs,m')=>Z (x::xs,m|||m')|none=>U)
  |none=>U
def uy:Ty->ξ
 |.int k=>[.int k 0]
 |.bool=>[.bool aa]
 |.str=>[.string ⟨#[]⟩]
 |.sl _=>[.slice U 0 0]
 |.st t=>uy t
 |.pr a b=>uy a++uy b
 |.un=>[]
 |.ex=>[.int .i64 0,.int .i64 0,.string ⟨#[]⟩,.slice U 0 0]
 |.sm=>[.int .i64 0,.int .i64 0,.string ⟨#[]⟩,.string ⟨#[]⟩,.slice U 0 0,.int .i64 0,.int .i64 0,.string ⟨#[]⟩,.slice U 0 0,.slice U 0 0,.slice U 0 0]
def Wf:ξ->ξ->Bool
 |[],[]=>J
 |x::xs,y::z=>apo x y&&Wf xs z
 |_,_=>aa
def Ty.flat:Ty->Bool
 |.int _=>J
 |.bool=>J
 |.str=>J
 |.st t=>t.flat
 |.pr a b=>a.flat&&b.flat
 |.un=>J
 |_=>aa
def sH:Y TypeDesc->M Ty
 |[]=>Z .un
 |.int k::r=>match sH r with|some t=>Z (.pr (.int k) t)|none=>U
 |.bool::r=>match sH r with|some t=>Z (.pr .bool t)|none=>U
 |.string::r=>match sH r with|some t=>Z (.pr .str t)|none=>U
 |_=>U
inductive PV where
 |d (T:Ty)
 |H (id off:Nat)
 |G (id:Nat)
 |qy (id sz n:Nat)
 |mp (id:Nat)
 |nil
 |emp
 |qv (q:FuncId) (l:List (Nat×Nat))
 |ob (id off:Nat)
 |nr (id sz:Nat)
 |agg (l:List PV)
inductive PB where
 |F (ty:TypeId) (p:Bool) (T:Ty)
 |qf (ty:TypeId) (T:Ty)
 |C (ty:Option TypeId) (l:List PV)
 |mp (K V:Ty)
 |I (F:uc) (a:Nat)
 |qk
mutual
def PV.ty:PV->Ty
 |.d T=>T
 |.agg l=>PV.tyL l
 |.H _ _|.G _|.qy _ _ _|.qv _ _=>.un
 |.ob _ _=>.int .i64
 |.nr _ _=>.pr (.int .i64) (.int .i64)
 |.mp _|.nil|.emp=>.un
def PV.tyL:Y PV->Ty
 |[]=>.un
 |p::r=>spr p.ty (PV.tyL r)
end
def PB.ty:PB->Ty
 |.F _ _ T=>.sl T
 |.qf _ T=>.pr .bool (.sl T)
 |.C _ l=>PV.tyL l
 |.mp K V=>.sl (.pr K V)
 |.I a _=>a.ty
 |.qk=>.un
def PB.tyL:Y PB->Ty
 |[]=>.un
 |p::r=>spr p.ty (PB.tyL r)
structure Tm where
 vs:List PV
 bs:List PB
def Tm.ty (t:Tm):Ty:=spr (PV.tyL t.vs) (PB.tyL t.bs)
def KJ (g:Nat->Nat):Y o!->Y TV->Bool
 |[],[]=>J
 |(i,o)::r,.H A z::vs=>ay (g i) A&&ay o z&&KJ g r vs
 |_,_=>aa
mutual
def mK (g:Nat->Nat) (h:aX):(p:PV)->Y TV->M (p.ty.den×Nat×Y TV)
 |.d T,l=>fA h 40 T l
 |.H i o,l=>match l with|.H i' o'::r=>if ay (g i) i'&&ay o o' then Z ((),0,r) else U|_=>U
 |.G i,l=>match l with|.G i'::r=>if ay (g i) i' then Z ((),0,r) else U|_=>U
 |.qy i s n,l=>match l with|.qy i' s' n'::r=>if ay (g i) i'&&ay s s'&&ay n n' then Z ((),0,r) else U|_=>U
 |.qv q ps,l=>match l with|.qv q' vs::r=>if ay q q'&&KJ g ps vs then Z ((),0,r) else U|_=>U
 |.ob i o,l=>match l with|.sb (.ob i' j o')::r=>if ay (g i) i'&&ay o o' then Z (j,0,r) else U|_=>U
 |.nr i s,l=>match l with|.sb (.nr i' j s' n)::r=>if ay (g i) i'&&ay s s' then Z ((j,aQ n),0,r) else U|_=>U
 |.mp i,l=>match l with|.mp i'::r=>if ay (g i) i' then Z ((),0,r) else U|_=>U
 |.nil,l=>match l with|.nil::r=>Z ((),0,r)|_=>U
 |.emp,l=>match l with|.nil::r=>Z ((),0,r)|.emp::r=>Z ((),0,r)|_=>U
 |.agg ps,l=>Bq g h ps l
def Bq (g:Nat->Nat) (h:aX):(ps:Y PV)->Y TV->M ((PV.tyL ps).den×Nat×Y TV)
 |[],l=>Z ((),0,l)
 |p::r,l=>match mK g h p l with
  |some (x,m,l')=>(match Bq g h r l' with|some (y,m',l'')=>Z (ZU p.ty (PV.tyL r) x y,m|||m',l'')|none=>U)
  |none=>U
end
def vV (g:Nat->Nat) (h:aX):(p:PV)->TV->M (p.ty.den×Nat)
 |.d T,v=>Ek h T v
 |.agg z,v=>if v.isC then U else (match v.cs with
  |some l=>(match Bq g h z l with|some (x,m,[])=>Z (x,m)|_=>U)
  |none=>U)
 |.H i o,v=>match mK g h (.H i o) [v] with|some (x,m,_)=>Z (x,m)|none=>U
 |.G i,v=>match mK g h (.G i) [v] with|some (x,m,_)=>Z (x,m)|none=>U
 |.qy i s n,v=>match mK g h (.qy i s n) [v] with|some (x,m,_)=>Z (x,m)|none=>U
 |.qv q z,v=>match mK g h (.qv q z) [v] with|some (x,m,_)=>Z (x,m)|none=>U
 |.ob i o,v=>match mK g h (.ob i o) [v] with|some (x,m,_)=>Z (x,m)|none=>U
 |.nr i s,v=>match mK g h (.nr i s) [v] with|some (x,m,_)=>Z (x,m)|none=>U
 |.mp i,v=>match mK g h (.mp i) [v] with|some (x,m,_)=>Z (x,m)|none=>U
 |.nil,v=>match mK g h .nil [v] with|some (x,m,_)=>Z (x,m)|none=>U
 |.emp,v=>match mK g h .emp [v] with|some (x,m,_)=>Z (x,m)|none=>U
def Bp (g:Nat->Nat) (h:aX):(z:Y PV)->Y TV->M ((PV.tyL z).den×Nat)
 |[],[]=>Z ((),0)
 |p::r,v::vs=>match vV g h p v with
  |some (x,m)=>(match Bp g h r vs with|some (y,m')=>Z (ZU p.ty (PV.tyL r) x y,m|||m')|none=>U)
  |none=>U
 |[],_::_=>U
 |_::_,[]=>U
def D9 (g:Nat->Nat) (h:aX) (i:Nat):(b:PB)->M (b.ty.den×Nat)
 |.F ty p T=>match h.get (g i) with
  |some (.F ty' z S xs)=>if ty==ty'&&p==z then (match t8 (S:=.sl S) (.sl T) xs with|some x=>Z (x,0)|none=>U) else U
  |_=>U
 |.qf ty T=>match h.get (g i) with
  |some (.F ty' z S xs)=>if ty==ty' then (match t8 (S:=.sl S) (.sl T) xs with|some x=>Z ((z,x),0)|none=>U) else U
  |_=>U
 |.C ty A=>match h.get (g i) with
  |some (.C ty' l)=>if ty==ty' then (match Bq g h A l with|some (x,m,[])=>Z (x,m)|_=>U) else U
  |_=>U
 |.mp K V=>match h.get (g i) with
  |some (.mp K' V' es)=>(match t8 (S:=.sl (.pr K' V')) (.sl (.pr K V)) es with|some x=>Z (x,0)|none=>U)
  |_=>U
 |.I F a=>match h.get (g i) with
  |some (.I F' L x)=>if D:F'=F then (if ay (F.aid (g a)) L then Z (D▸x,0) else U) else U
  |_=>U
 |.qk=>Z ((),0)
def Fl (g:Nat->Nat) (h:aX):Nat->(bs:Y PB)->M ((PB.tyL bs).den×Nat)
 |_,[]=>Z ((),0)
 |i,b::r=>match D9 g h i b with
  |some (x,m)=>(match Fl g h (i+1) r with|some (y,m')=>Z (ZU b.ty (PB.tyL r) x y,m|||m')|none=>U)
  |none=>U
mutual
def nF (g:Nat->Nat):(p:PV)->p.ty.den->M (Y TV)
 |.d T,x=>cellsOf 40 T x
 |.H i o,_=>Z [.H (g i) o]
 |.G i,_=>Z [.G (g i)]
 |.qy i s n,_=>Z [.qy (g i) s n]
 |.mp i,_=>Z [.mp (g i)]
 |.qv q ps,_=>Z [.qv q (ps.map λp=>.H (g p.1) p.2)]
 |.ob i o,j=>Z [.sb (.ob (g i) j o)]
 |.nr i s,x=>Z [.sb (.nr (g i) x.1 s (aO x.2))]
 |.nil,_=>Z [.nil]
 |.emp,_=>Z [.emp]
 |.agg ps,x=>sD g ps x
def sD (g:Nat->Nat):(ps:Y PV)->(PV.tyL ps).den->M (Y TV)
 |[],_=>Z []
 |p::r,x=>match nF g p (SM p.ty (PV.tyL r) x) with
  |some a=>(match sD g r (QV p.ty (PV.tyL r) x) with|some b=>Z (a++b)|none=>U)
  |none=>U
end
def rm (g:Nat->Nat):(p:PV)->p.ty.den->M TV
 |.d T,x=>Z (.f T x)
 |.H i o,_=>Z (.H (g i) o)
 |.G i,_=>Z (.G (g i))
 |.qy i s n,_=>Z (.qy (g i) s n)
 |.mp i,_=>Z (.mp (g i))
 |.qv q z,_=>Z (.qv q (z.map λp=>.H (g p.1) p.2))
 |.ob i o,j=>Z (.sb (.ob (g i) j o))
 |.nr i s,x=>Z (.sb (.nr (g i) x.1 s (aO x.2)))
 |.nil,_=>Z .nil
 |.emp,_=>Z .emp
 |.agg z,x=>match sD g z x with|some l=>Z (.agg l)|none=>U
def rk (g:Nat->Nat):(z:Y PV)->(PV.tyL z).den->M (Y TV)
 |[],_=>Z []
 |p::r,x=>match rm g p (SM p.ty (PV.tyL r) x) with
  |some a=>(match rk g r (QV p.ty (PV.tyL r) x) with|some b=>Z (a::b)|none=>U)
  |none=>U
def Cw (g:Nat->Nat):(b:PB)->b.ty.den->M (M eD)
 |.F ty p T,x=>Z (Z (.F ty p T x))
 |.qf ty T,x=>Z (Z (.F ty x.1 T x.2))
 |.C ty z,x=>match sD g z x with|some l=>Z (Z (.C ty l))|none=>U
 |.mp K V,x=>Z (Z (.mp K V x))
 |.I F a,x=>Z (Z (.I F (F.aid (g a)) x))
 |.qk,_=>Z U
def uA:eD->eD
 |.F _ p T xs=>.qj p T.size (l! xs)
 |.C _ _|.mp _ _ _=>.qj J 0 0
 |.I F _ x|.qp F _ x _ _=>(match rY F x with|some (p,s,n)=>.qj p s n|none=>.qj J 0 0)
 |.qj p sz n=>.qj p sz n
def kill (h:aX) (i:Nat):aX:=match h.get i with
 |some b=>h.set i (Z (uA b))
 |none=>h
def qI (g:Nat->Nat):(bs:Y PB)->(PB.tyL bs).den->M (Y (M eD))
 |[],_=>Z []
 |b::r,x=>match Cw g b (SM b.ty (PB.tyL r) x) with
  |some c=>(match qI g r (QV b.ty (PB.tyL r) x) with|some l=>Z (c::l)|none=>U)
  |none=>U
def CF (g:Nat->Nat):Nat->Y (M eD)->aX->aX
 |_,[],h=>h
 |i,Z c::r,h=>CF g (i+1) r (h.set (g i) (Z c))
 |i,U::r,h=>CF g (i+1) r (kill h (g i))
def Pq (g:Nat->Nat) (bs:Y PB) (x:(PB.tyL bs).den) (h:aX):M aX:=match qI g bs x with
 |some l=>Z (CF g 0 l h)
 |none=>U
def Ac {K V:Ty} (k:K.den):Y (K.den×V.den)->M V.den
 |[]=>U
 |(z,v)::r=>if ND K k z then Z v else Ac k r
def uk {K V:Ty} (k:K.den) (v:V.den):Y (K.den×V.den)->Y (K.den×V.den)
 |[]=>[(k,v)]
 |(z,A)::r=>if ND K k z then (k,v)::r else (z,A)::uk k v r
def abk {K V:Ty} (k:K.den) (es:Y (K.den×V.den)):Bool:=match Ac k es with|some _=>J|none=>aa
def wN {K V:Ty} (k:K.den) (es:Y (K.den×V.den)) (z:V.den):V.den:=match Ac k es with|some v=>v|none=>z
def asj (T:Ty):Nat->Ty
 |0=>.un
 |1=>T
 |n+2=>.pr T (asj T (n+1))
def kwT:Ty:=.st (asj .str 22)
def kwV:kwT.den:=([118,97,114],[118,111,108,97,116,105,108,101],[109,117,116,101,120],[114,119,108,111,99,107],[99,111,110,100],[102,117,116,117,114,101],[116,104,114,101,97,100],[105,102],[101,108,115,101],[119,104,105,108,101],[108,111,99,107],[114,101,97,100],[119,114,105,116,101],[116,114,97,110,115,97,99,116,105,111,110],[97,116,111,109,105,99],[119,97,105,116],[110,111,116,105,102,121],[110,111,116,105,102,121,97,108,108],[115,112,97,119,110],[106,111,105,110],[115,101,116],[103,101,116])
structure cA where
 pre:Tm
 post:Tm
 m:pre.ty.den->Option post.ty.den
def Y1:Y o!->Y TV->PT Nat->PT Nat
 |(i,_)::r,.H a _::vs,σ=>Y1 r vs (σ.set i (Z a))
 |_::r,_::vs,σ=>Y1 r vs σ
 |_,_,σ=>σ
mutual
def anp:PV->Y TV->PT Nat->PT Nat×Y TV
 |.d T,l,σ=>(σ,l.drop T.size)
 |.H i _,l,σ=>match l with|.H a _::r=>(σ.set i (Z a),r)|l=>(σ,l.drop 1)
 |.G i,l,σ=>match l with|.G a::r=>(σ.set i (Z a),r)|l=>(σ,l.drop 1)
 |.qy i _ _,l,σ=>match l with|.qy a _ _::r=>(σ.set i (Z a),r)|l=>(σ,l.drop 1)
 |.mp i,l,σ=>match l with|.mp a::r=>(σ.set i (Z a),r)|l=>(σ,l.drop 1)
 |.qv _ ps,l,σ=>match l with|.qv _ vs::r=>(Y1 ps vs σ,r)|l=>(σ,l.drop 1)
 |.ob i _,l,σ=>match l with|.sb (.ob a _ _)::r=>(σ.set i (Z a),r)|l=>(σ,l.drop 1)
 |.nr i _,l,σ=>match l with|.sb (.nr a _ _ _)::r=>(σ.set i (Z a),r)|l=>(σ,l.drop 1)
 |.nil,l,σ|.emp,l,σ=>(σ,l.drop 1)
 |.agg ps,l,σ=>Y2 ps l σ
def Y2:Y PV->Y TV->PT Nat->PT Nat×Y TV
 |[],l,σ=>(σ,l)
 |p::r,l,σ=>match anp p l σ with|(σ',l')=>Y2 r l' σ'
end
def atb (p:PV) (v:TV) (σ:PT Nat):PT Nat:=match p with
 |.d _=>σ
 |p=>match v.cs with|some l=>(anp p l σ).1|none=>σ
def ai0:Y PV->Y TV->PT Nat->PT Nat
 |p::r,v::vs,σ=>ai0 r vs (atb p v σ)
 |_,_,σ=>σ
def Y3 (h:aX):Nat->Y PB->PT Nat->PT Nat
 |_,[],σ=>σ
 |i,b::r,σ=>Y3 h (i+1) r (match b with
  |.C _ z=>(match σ.get i with
   |some a=>(match h.get a with|some (.C _ l)=>(Y2 z l σ).1|_=>σ)
   |none=>σ)
  |.I F j=>(match σ.get i with
   |some a=>(match h.get a with|some (.I _ b _)=>(if ay (F.aid 1) 0 then σ else σ.set j (Z b))|_=>σ)
   |none=>σ)
  |_=>σ)
def hZ (σ:PT Nat) (i:Nat):Nat:=match σ.get i with|some a=>a|none=>0
def aez (σ:PT Nat):Nat->Nat->Nat->M Nat
 |0,_,acc=>Z acc
 |n+1,i,acc=>match σ.get i with
  |some a=>if aJ acc a then U else aez σ n (i+1) (acc|||fV a)
  |none=>U
def idn:Nat->PT Nat
 |0=>.leaf
 |n+1=>(idn n).set n (Z n)
def aa0 (σ:PT Nat):Nat->Bool
 |0=>J
 |n+1=>(match σ.get n with|some a=>ay a n|none=>aa)&&aa0 σ n
structure au5 (t:Tm) where
 x:t.ty.den
 m:Nat
 σ:PT Nat
 sm:Nat
def D2 (np:Nat) (t:Tm) (vs:Y TV) (h:aX):M (au5 t):=
 US (Y3 h 0 t.bs (Y3 h 0 t.bs (ai0 t.vs vs (idn np)))) λσ=>
 match aez σ (l! t.bs) 0 0 with
 |some sm=>(match Bp (hZ σ) h t.vs vs with
  |some (x,m)=>(match Fl (hZ σ) h 0 t.bs with
   |some (y,m')=>if IY (m|||m') sm&&aa0 σ np then Z ⟨ZU _ _ x y,m|||m',σ,sm⟩ else U
   |none=>U)
  |none=>U)
 |none=>U
def PT.updI (f:Nat->R->R):Nat->Nat->PT R->PT R
 |_,_,.leaf=>.leaf
 |a,b,.node v l r=>.node (match v with|some x=>Z (f b x)|none=>U) (PT.updI f (2*a) (a+b) l) (PT.updI f (2*a) (2*a+b) r)
def dD (m:Nat) (h:aX):aX:=if ay m 0 then h else PT.updI (λi b=>if aJ m i then uA b else b) 1 0 h
def XU:Operand->Bool
 |.const (.agg _)=>J
 |_=>aa
def dy (e:gT):Operand->M TV
 |.tmp t=>e.get t
 |.const v=>api v
 |.func g=>Z (.qv g [])
 |.global g=>match G g with|some _=>Z (.zk kwT [kwV] 0 (Eq.refl J) 0)|none=>U
def KQ (e:gT):Y Operand->M (Y TV)
 |[]=>Z []
 |x::xs=>match dy e x with|some y=>(match KQ e xs with|some z=>Z (y::z)|none=>U)|none=>U
def L4 (cells:Y TV) (e:gT):Y m?->M (Y TV)
 |[]=>Z cells
 |(off,sz,x)::r=>match dy e x with
  |some v=>(match v.cs with
   |some cs=>if (l! cs)==sz&&dF (off+sz) (l! cells) then L4 (splice cells off cs) e r else U
   |none=>U)
  |none=>U
def Xk (l:Y TV) (off sz:Nat):Bool->M TV
 |false=>if ay sz 1 then l[off]? else U
 |true=>if dF (off+sz) (l! l) then Z (.agg ((l.drop off).take sz)) else U
def eg (h:aX) (id:Nat):M (Bool×o!):=match h.get id with
 |some (.F _ p T xs)=>Z (p,T.size,l! xs)
 |some (.qj p sz n)=>Z (p,sz,n)
 |some (.I F _ x)|some (.qp F _ x _ _)=>rY F x
 |_=>U
def lenOf (h:aX):TV->M Nat
 |.f (.sl _) xs=>Z (ah xs)
 |.emp|.nil=>Z 0
 |.G id=>match eg h id with|some (_,_,n)=>Z n|none=>U
 |.qy _ _ n|.sb (.nr _ _ _ n)=>Z n
 |_=>U
mutual
def NZ (h:aX):TV->Bool
 |.G id|.zm id _=>(eg h id).isSome
 |.qm _ _=>J
 |.sb _=>J
 |.agg l|.qg l|.qv _ l=>lJ h l
 |.f _ _=>J
 |.zk _ _ _ _ _=>J
 |.ql _ _ _ _=>J
 |.H _ _=>J
 |.qy _ _ _=>J
 |.emp=>J
 |.nil=>J
 |.mp _=>J
 |.undef=>J
 |.np=>J
 |.qw=>J
def lJ (h:aX):Y TV->Bool
 |[]=>J
 |x::r=>NZ h x&&lJ h r
end
mutual
def H8 (n:Nat):TV->Bool
 |.G id|.zm id _=>dY id n
 |.qm _ _=>J
 |.sb s=>dY s.id n
 |.ql id _ _ _|.H id _|.qy id _ _|.mp id=>dY id n
 |.agg l|.qg l|.qv _ l=>qZ n l
 |.f _ _=>J
 |.zk _ _ _ _ _=>J
 |.emp=>J
 |.nil=>J
 |.undef=>J
 |.np=>J
 |.qw=>J
def qZ (n:Nat):Y TV->Bool
 |[]=>J
 |x::r=>H8 n x&&qZ n r
end
def C_ (t:Tm) (x:t.ty.den):M (Y TV×aX):=
 match rk (λi=>i) t.vs (SM _ _ x) with
 |some vs=>(match Pq (λi=>i) t.bs (QV _ _ x) PT.leaf with
  |some h=>if lJ h vs&&qZ (l! t.bs) vs&&PT.all (λ_ b=>match b with|.C _ l=>lJ h l&&qZ (l! t.bs) l|.I _ a _=>dY a (l! t.bs)|.qp _ _ _ _ _=>aa|_=>J) 1 0 h then Z (vs,h) else U
  |none=>U)
 |none=>U
abbrev KO (R:Type):=TV->Nat->Nat->aX->Nat->M R
def Tv:Y TV->TV
 |[x]=>x
 |l=>.qg l
def DV:Y PB->Bool
 |[]=>J
 |.qk::_=>aa
 |_::r=>DV r
def Km:Y PB->Bool
 |[]=>J
 |.F _ _ _::r=>Km r
 |_::_=>aa
def vq (h z:aX) (g:Nat->Nat):Nat->Bool
 |0=>J
 |n+1=>(match eg h (g n) with
  |some (p,s,k)=>(match eg z (g n) with|some (A,s',D)=>(p==A)&&ay s s'&&ay k D|none=>aa)
  |none=>J)&&vq h z g n
def ajr (f:FuncId):Y TV->FuncId
 |[]=>f
 |.qv g _::_=>f+65536*(g+1)
 |.sb (.nr _ _ _ _)::r=>f+65536*(60000+l! r)
 |_::r=>ajr f r
def apk (con:FuncId->M cA) (f:FuncId) (l:Y TV):M cA:=match dY f 65536 with
 |true=>(match con (ajr f l) with|some c=>Z c|none=>con f)
 |false=>U
def aaj (con:FuncId->M cA) (f:FuncId) (l:Y TV) (h:aX) (nx:Nat) (K:KO R):M R:=
 match apk con f l with
 |some c=>(match D2 0 c.pre l h with
  |some ⟨x,m,σ,sm⟩=>(match C_ c.pre x with
   |some _=>aA (c.m x) λy=>(match C_ c.post y with
    |some _=>if dF (l! c.pre.bs) (l! c.post.bs)&&DV c.pre.bs then
      let np:=l! c.pre.bs
      let D:=l! c.post.bs-np
      let g:=λi=>if dY i np then hZ σ i else nx+(i-np)
      (match rk g c.post.vs (SM _ _ y) with
      |some z=>if !(ay m 0)&&ay (l! c.post.bs) 0&&(PV.tyL c.post.vs).flat then K (Tv z) m 0 h nx else
       (match Pq g c.post.bs (QV _ _ y) (dD m h) with
       |some A=>chk (vq h A g np) λ_=>K (Tv z) (sm|||m) (sm|||m|||(((1<<<D)-1)<<<nx)) A (nx+D)
       |none=>U)
      |none=>U) else if ay (l! c.post.bs) 0&&Km c.pre.bs then
      let np:=l! c.pre.bs
      let g:=λi=>if dY i np then hZ σ i else nx+(i-np)
      (match rk g c.post.vs (SM _ _ y) with
      |some z=>(match Pq g c.pre.bs (QV _ _ x) (dD m h) with
       |some A=>K (Tv z) (sm|||m) m A nx
       |none=>U)
      |none=>U) else U
    |none=>U)
   |none=>U)
  |none=>U)
 |none=>U
def apn (op:BinOp) (x y:TV) (q:TV->M R):M R:=
 match x,y with
 |.f (.int k) a,.f (.int z) b=>if k==z then
   (match op with
   |.add=>q (.f (.int k) (bl k (a+b)))
   |.sub=>q (.f (.int k) (bl k (a-b)))
   |.mul=>q (.f (.int k) (bl k (a*b)))
   |.rem=>chk (!decide ((b:Int)=0)) λ_=>q (.f (.int k) (Ca a b))
   |.quo=>chk (!decide ((b:Int)=0)) λ_=>q (.f (.int k) (bl k (Int.tdiv a b)))
   |.eql=>q (.f .bool (decide ((a:Int)=b)))
   |.neq=>q (.f .bool (!decide ((a:Int)=b)))
   |.lss=>q (.f .bool (fK a b))
   |.leq=>q (.f .bool (dm a b))
   |.gtr=>q (.f .bool (fK b a))
   |.geq=>q (.f .bool (dm b a))
   |_=>U)
  else U
 |.f .str a,.f .str b=>match op with
   |.eql=>q (.f .bool (decide ((a:ζ)=b)))
   |.neq=>q (.f .bool (!decide ((a:ζ)=b)))
   |_=>U
 |_,_=>U
def abl:Bool->Ty->Bool
 |false,.int _=>J
 |true,.str=>J
 |_,_=>aa
abbrev itK:Ty:=.st (.pr .str (.int .i64))
def isIt:Ty->Bool
 |.st (.pr .str (.int .i64))=>J
 |_=>aa
def XH (K:Ty):Bool:= !isIt K
def NA:Y ((ζ×Int)×Unit)->ζ
 |[]=>[]
 |e::_=>e.1.1
def Lp:Y ((ζ×Int)×Unit)->Nat
 |[]=>0
 |e::_=>aO e.1.2
def rnP (s:ζ) (p:Nat):Int:=rnA (List.getD s p 0) ⟨jA s⟩ p
def wdP (s:ζ) (p:Nat):Nat:=wdA (List.getD s p 0) ⟨jA s⟩ p
def itE:(K V:Ty)->Y (K.den×V.den)->M (ζ×Nat)
 |.st (.pr .str (.int .i64)),.un,es=>Z (NA es,Lp es)
 |_,_,_=>U
def mpE:(K V:Ty)->Y (K.den×V.den)->Bool
 |.un,.un,[]=>J
 |_,_,_=>aa
def yF (T:Ty):Y TV->M (Y T.den)
 |[]=>Z []
 |.f S v::r=>match t8 (S:=S) T v with
  |some x=>(match yF T r with|some l=>Z (x::l)|none=>U)
  |none=>U
 |_::_=>U
def ai3:Y TV->M ((T:Ty)×Y T.den)
 |.f T v::r=>match yF T (.f T v::r) with|some l=>Z ⟨T,l⟩|none=>U
 |_=>U
def asz (n sz:Nat) (v:TV):Bool->M ((T:Ty)×Y T.den)
 |true=>U
 |false=>if ay sz 1&& !v.isC then (match v.cs with|some l=>if ay (l! l) n then ai3 l else U|none=>U) else U
def arrB (n sz off:Nat):M eD->M ((T:Ty)×Y T.den)
 |some (.C (Z _) l)=>if ay sz 1&&ay off 0&&ay (l! l) n then ai3 l else U
 |_=>U
def ank:Ty->Nat
 |.pr .un t=>ank t+1
 |_=>0
def FY:M Ty->M Nat
 |some (.pr .un t)=>Z (ank t)
 |_=>U
def anm (ty:TypeId) (sz bytes:Nat) (b y:TV) (h:aX) (nx:Nat) (K:KO R):M R:=match y with
 |.qy id2 sz2 m=>(match h.get id2 with
  |some (.C (Z _) z)=>if ay sz2 sz&&ay (l! z) (m*sz)&& !(ay m 0) then (match b with
   |.qy id sz1 n=>(match h.get id with
    |some (.C (Z ty1) l)=>if ay sz1 sz&&ty1==ty&&ay (l! l) (n*sz)&& !(ay id id2) then
      chk (bf (n+m) bytes) λ_=>K (.qy nx sz (n+m)) (fV id|||fV id2) (fV id|||fV nx) ((h.set id (Z (.qj J 0 0))).set nx (Z (.C (Z ty) (l++z)))) (nx+1) else U
    |_=>U)
   |.nil=>chk (bf m bytes) λ_=>K (.qy nx sz m) (fV id2) (0|||fV nx) ((dD 0 h).set nx (Z (.C (Z ty) z))) (nx+1)
   |_=>U) else U
  |_=>U)
 |_=>U
def alw (ty:TypeId) (sz bytes:Nat) (T:Ty) (b:TV) (z:Y T.den) (m:Nat) (h:aX) (nx:Nat) (K:KO R):M R:=match b with
 |.G id=>(match h.get id with
  |some (.F ty' p S xs)=>(match t8 (S:=.sl S) (.sl T) xs with
   |some xs=>if ty'==ty&& !(aJ m id) then
     chk (bf (ah xs+ah z) bytes) λ_=>K (.G nx) (fV id|||m) (fV id|||fV nx) ((h.set id (Z (.qj p sz (ah xs)))).set nx (Z (.F ty p T (xs++z)))) (nx+1)
    else U
   |none=>U)
  |_=>U)
 |.qm S xs=>if ay m 0 then (match t8 (S:=.sl S) (.sl T) xs with
  |some xs=>chk (bf (ah xs+ah z) bytes) λ_=>aH (ay (ah z) 0) (K (.f (.sl T) xs) 0 0 h nx) (K (.G nx) 0 (0|||fV nx) ((dD 0 h).set nx (Z (.F ty aa T (xs++z)))) (nx+1))
  |none=>U) else U
 |.emp|.nil=>chk (bf (ah z) bytes) λ_=>K (.G nx) m (fV nx) (h.set nx (Z (.F ty J T z))) (nx+1)
 |_=>U
def pkT (ok:Bool) (v b:TV):TV:=match ok with|true=>.qg [v,b]|false=>v
def ec (con:FuncId->M cA) (b9:TypeId->M Ty) (o:SI) (e:gT) (h:aX) (nx:Nat) (K:KO R):M R:=
 match o with
 |.call f args=>match KQ e args with|some l=>aaj con f l h nx K|none=>U
 |.jd x args=>match dy e x,KQ e args with
  |some (.qv f cap),Z l=>aaj con f (l++cap) h nx K
  |_,_=>U
 |.op s=>match s with
  |.zg ty sz bytes z l c=>match FY (b9 ty) with
   |some n=>(match MP z,dy e l,dy e c with
    |some N,Z (.f (.int _) a),Z (.f (.int _) b)=>chk (dm 0 a&&dm a b&&bf (aO b) bytes&&decide ((a:Int)=aQ n)) λ_=>K (.qy nx sz n) 0 (0|||fV nx) ((dD 0 h).set nx (Z (.C (Z ty) (aF n N).flatten))) (nx+1)
    |_,_,_=>U)
   |none=>match b9 ty,dy e l,dy e c with
   |some T,Z (.f (.int _) a),Z (.f (.int _) b)=>if ay sz T.size&&Wf z (uy T) then
     chk (dm 0 a&&dm a b&&bf (aO b) bytes) λ_=>K (.G nx) 0 (fV nx) (h.set nx (Z (.F ty aa T (aF (aO a) T.zero)))) (nx+1) else U
   |_,_,_=>U
  |.xz ty sz len z parts=>match FY (b9 ty) with
   |some _=>(match MP z with
    |some N=>(match L4 ((aF len N).flatten) e parts with
     |some cs=>if ay len 0 then U else K (.qy nx sz len) 0 (0|||fV nx) ((dD 0 h).set nx (Z (.C (Z ty) cs))) (nx+1)
     |none=>U)
    |none=>U)
   |none=>match b9 ty,MP z with
   |some T,Z N=>if ay sz T.size then (match L4 ((aF len N).flatten) e parts with
    |some cs=>(match C8 h T len cs with
     |some (xs,m)=>K (.G nx) m (m|||fV nx) ((dD m h).set nx (Z (.F ty (ay len 0) T xs))) (nx+1)
     |none=>U)
    |none=>U) else U
   |_,_=>U
  |.app ty sz bytes s x=>match FY (b9 ty) with
   |some _=>(match dy e s,dy e x with
    |some b,Z y=>anm ty sz bytes b y h nx K
    |_,_=>U)
   |none=>match b9 ty,dy e s,dy e x with
   |some T,Z b,Z y=>if ay sz T.size then (match Ek h (.sl T) y with
    |some (ys,m)=>alw ty sz bytes T b ys m h nx K
    |none=>U) else U
   |_,_,_=>U
  |.copy sz d x=>match dy e d,dy e x with
   |some (.G id),Z y=>(match h.get id with
    |some (.F ty p T xs)=>if ay sz T.size then (match Ek h (.sl T) y with
     |some (ys,m)=>if !(aJ m id)&& !p then
       K (.f (.int .i64) (aQ (lM (ah ys) (ah xs)))) (fV id|||m) (fV id) (h.set id (Z (.F ty p T (W7 xs ys)))) nx else U
     |none=>U) else U
    |_=>U)
   |_,_=>U
  |.clr sz z x=>match dy e x with
   |some (.zm id j)=>(match h.get id with
    |some (.F ty p T xs)=>if (ay sz T.size&&Wf z (uy T))&&nV z then
      chk (dm 0 j&&fK j (ah xs)) λ_=>K (.qg []) (fV id) (0|||fV id) ((dD 0 h).set id (Z (.F ty p T (dB (aO j) xs++aF (ah xs-aO j) T.zero)))) nx
     else U
    |_=>U)
   |_=>U
  |.mv x=>match dy e x with|some v=>K v 0 0 h nx|none=>U
  |.pick c a b=>match dy e c with
   |some (.f .bool t)=>aH t (match dy e a with|some v=>K v 0 0 h nx|none=>U) (match dy e b with|some v=>K v 0 0 h nx|none=>U)
   |_=>U
  |.alloc ty z=>match MP z with
   |some l=>K (.H nx 0) 0 (fV nx) (h.set nx (Z (.C (Z ty) l))) (nx+1)
   |none=>U
  |.box ty x=>match dy e x with
   |some v=>(match v.cs with|some l=>K (.H nx 0) 0 (fV nx) (h.set nx (Z (.C (Z ty) l))) (nx+1)|none=>U)
   |none=>U
  |.build z parts=>match MP z with
   |some l=>(match L4 l e parts with|some cs=>K (.agg cs) 0 0 h nx|none=>U)
   |none=>U
  |.load sz D x=>match dy e x with
   |some (.H id off)=>(match h.get id with
    |some (.C (Z _) l)=>(match Xk l off sz D with|some v=>K v (fV id) 0 h nx|none=>U)
    |_=>U)
   |some (.ql id sz' j off)=>(match h.get id with
    |some (.F _ _ T xs)=>if ay sz' T.size then chk (fe j (l! xs)) λ_=>(match nS 40 T (geti _ xs j) off sz D with|some v=>K v (fV id) 0 h nx|none=>U) else U
    |some (.C (Z _) l)=>(match D with
     |true=>U
     |false=>if ay sz 1&&ay sz' 1&&ay off 0 then (match ai3 l with
      |some ⟨T,xs⟩=>chk (fe j (l! l)) λ_=>K (.f T (geti _ xs j)) (fV id) 0 h nx
      |none=>U) else U)
    |_=>U)
   |some (.zk T xs j _ off)=>(match nS 40 T (geti _ xs j) off sz D with|some v=>K v 0 0 h nx|none=>U)
   |_=>U
  |.store sz x v=>match dy e x,dy e v with
   |some (.H id off),Z y=>(match h.get id with
    |some (.C (Z ty) l)=>(match y.cs with
     |some cs=>if (l! cs)==sz&&dF (off+sz) (l! l) then K .undef (fV id) (fV id) (h.set id (Z (.C (Z ty) (splice l off cs)))) nx else U
     |none=>U)
    |_=>U)
   |some (.ql id sz' j off),Z y=>(match h.get id with
    |some (.F ty p T xs)=>if ay sz' T.size then chk (fe j (l! xs)) λ_=>(match gG h y 40 T (geti _ xs j) off sz with
     |some (z,m)=>if aJ m id then U else K .undef (m|||fV id) (m|||fV id) ((dD m h).set id (Z (.F ty p T (cH xs j z)))) nx
     |none=>U) else U
    |some (.C (Z ty) l)=>if ay sz 1&&(ay sz' 1&&ay off 0) then chk (fe j (l! l)) λ_=>(match y.cs with
     |some cs=>if ay (l! cs) 1 then K .undef (fV id) (fV id) (h.set id (Z (.C (Z ty) (splice l j.toNat cs)))) nx else U
     |none=>U) else U
    |_=>U)
   |_,_=>U
  |.zh x=>match dy e x with
   |some (.H id off)=>K (.H id off) 0 0 h nx
   |some (.ql id sz j off)=>K (.ql id sz j off) 0 0 h nx
   |some (.zk T xs j hj off)=>K (.zk T xs j hj off) 0 0 h nx
   |some (.qv g cap)=>K (.qv g cap) 0 0 h nx
   |_=>U
  |.bin op x y=>match dy e x,dy e y with
   |some u,Z v=>apn op u v λr=>K r 0 0 h nx
   |_,_=>U
  |.jm neg ds x y=>match sH ds,dy e x,dy e y with
   |some T,Z u,Z v=>if u.isC||v.isC||XU x||XU y then U else (match u.cs,v.cs with
    |some lu,Z lv=>(match fA PT.leaf 40 T lu,fA PT.leaf 40 T lv with
     |some (a,_,[]),Z (b,_,[])=>K (.f .bool (ND T a b !=neg)) 0 0 h nx
     |_,_=>U)
    |_,_=>U)
   |_,_,_=>U
  |.zf neg x=>match dy e x with
   |some .nil=>K (.f .bool (!neg)) 0 0 h nx
   |some .emp=>K .qw 0 0 h nx
   |some (.f (.sl _) xs)=>aH (ay (ah xs) 0) (K .qw 0 0 h nx) (K (.f .bool neg) 0 0 h nx)
   |some (.G id)=>(match h.get id with
    |some (.F _ aa _ _)=>K (.f .bool neg) 0 0 h nx
    |_=>U)
   |_=>U
  |.xq neg x y=>match dy e x,dy e y with
   |some (.f .bool a),Z (.f .bool b)=>K (.f .bool ((a==b) !=neg)) 0 0 h nx
   |_,_=>U
  |.not x=>match dy e x with|some (.f .bool b)=>K (.f .bool (!b)) 0 0 h nx|_=>U
  |.conv k x=>match dy e x with|some (.f (.int _) n)=>K (.f (.int k) (bl k n)) 0 0 h nx|_=>U
  |.slc sz x lo hi mx=>match dy e x with
   |some v=>(match lo,hi,mx with
    |none,Z (.const (.int _ 0)),Z (.const (.int _ 0))=>if (lenOf h v).isSome then K .emp 0 0 h nx else U
    |none,Z b,U=>(match v,dy e b with
     |.f (.sl T) xs,Z (.f (.int _) j)=>if ay sz T.size then chk (dm 0 j&&dm j (ah xs)) λ_=>K (.f (.sl T) (dB (aO j) xs)) 0 0 h nx else U
     |.G id,Z (.f (.int _) j)=>(match h.get id with
      |some (.F ty p T xs)=>if ay sz T.size then
        chk (dm 0 j&&fK j (ah xs)) λ_=>K (.G nx) (fV id) (fV id|||fV nx) ((h.set id (Z (.qj p sz (ah xs)))).set nx (Z (.F ty aa T (dB (aO j) xs)))) (nx+1)
       else U
      |_=>U)
     |_,_=>U)
    |some b,U,U=>(match v,dy e b with
     |.f (.sl T) xs,Z (.f (.int _) j)=>if ay sz T.size then chk (dm 0 j&&dm j (ah xs)) λ_=>K (.f (.sl T) (List.drop (aO j) xs)) 0 0 h nx else U
     |.G id,Z (.f (.int _) j)=>(match h.get id with
      |some (.F _ _ T xs)=>if ay sz T.size then chk (dm 0 j&&fK j (ah xs)) λ_=>K (.zm id j) 0 0 h nx else U
      |_=>U)
     |_,_=>U)
    |none,Z b,Z b'=>(match v,dy e b,dy e b' with
     |.f (.sl T) xs,Z (.f (.int _) j),Z (.f (.int _) j')=>if ay sz T.size then chk ((decide (j=j')&&dm 0 j)&&dm j (ah xs)) λ_=>K (.qm T (dB (aO j) xs)) 0 0 h nx else U
     |_,_,_=>U)
    |_,_,_=>U)
   |none=>U
  |.jg off x=>match dy e x with
   |some (.H id o)=>K (.H id (o+off)) 0 0 h nx
   |some (.ql id sz j o)=>K (.ql id sz j (o+off)) 0 0 h nx
   |some (.zk T xs j hj o)=>K (.zk T xs j hj (o+off)) 0 0 h nx
   |_=>U
  |.fld off sz D x=>match dy e x with
   |some (.agg l)=>(match Xk l off sz D with|some v=>K v 0 0 h nx|none=>U)
   |some (.f T v)=>if T.one then U else (match nS 40 T v off sz D with|some v=>K v 0 0 h nx|none=>U)
   |_=>U
  |.jk sz x i=>match dy e x,dy e i with
   |some (.G id),Z (.f (.int _) j)=>(match h.get id with
    |some (.F _ _ T xs)=>if ay sz T.size then chk (fe j (l! xs)) λ_=>K (.ql id sz j 0) 0 0 h nx else U
    |_=>U)
   |some (.f (.sl T) xs),Z (.f (.int _) j)=>if ay sz T.size then chk (fe j (ah xs)) λhj=>K (.zk T xs j hj 0) 0 0 h nx else U
   |some (.qy id sz' n),Z (.f (.int _) j)=>if ay sz' sz then chk (dm 0 j&&fK j n) λ_=>K (.H id (aO j*sz)) 0 0 h nx else U
   |_,_=>U
  |.jx n sz x i=>match dy e x,dy e i with
   |some (.H id off),Z (.f (.int _) j)=>(match arrB n sz off (h.get id) with
    |some _=>chk (dm 0 j&&fK j n) λ_=>K (.ql id sz j off) 0 0 h nx
    |none=>chk (dm 0 j&&fK j n) λ_=>K (.H id (off+aO j*sz)) 0 0 h nx)
   |_,_=>U
  |.idx n sz D x i=>match dy e x,dy e i with
   |some v,Z (.f (.int _) j)=>(match asz n sz v D with
    |some ⟨T,xs⟩=>chk (dm 0 j&&fK j n) λ_=>K (.f T (geti _ xs j)) 0 0 h nx
    |none=>(match v with
     |.agg l=>chk (dm 0 j&&fK j n) λ_=>(match Xk l (aO j*sz) sz D with|some v=>K v 0 0 h nx|none=>U)
     |.f T v=>if T.one then U else chk (dm 0 j&&fK j n) λ_=>(match nS 40 T v (aO j*sz) sz D with|some v=>K v 0 0 h nx|none=>U)
     |_=>U))
   |_,_=>U
  |.ext x i=>match dy e x with|some (.qg l)=>(match l[i]? with|some v=>K v 0 0 h nx|none=>U)|_=>U
  |.len x=>match dy e x with
   |some v=>(match lenOf h v with|some n=>K (.f (.int .i64) (aQ n)) 0 0 h nx|none=>U)
   |none=>U
  |.lens x=>match dy e x with
   |some (.f .str s)=>K (.f (.int .i64) (aQ (ah s))) 0 0 h nx
   |_=>U
  |.max x y=>match dy e x,dy e y with
   |some (.f (.int k) a),Z (.f (.int k') b)=>if k==k' then K (.f (.int k) (mH a b)) 0 0 h nx else U
   |_,_=>U
  |.min x y=>match dy e x,dy e y with
   |some (.f (.int k) a),Z (.f (.int k') b)=>if k==k' then K (.f (.int k) (Jm a b)) 0 0 h nx else U
   |_,_=>U
  |.jq x i=>match dy e x,dy e i with
   |some (.f .str s),Z (.f (.int _) j)=>chk (fe j (ah s)) λ_=>K (.f (.int .u8) (ajq s j)) 0 0 h nx
   |_,_=>U
  |.rng x=>match dy e x with
   |some (.f .str s)=>K (.H nx 0) 0 (0|||fV nx) ((dD 0 h).set nx (Z (.mp itK .un [((s,0),())]))) (nx+1)
   |_=>U
  |.nxt x=>match dy e x with
   |some (.H id 0)=>(match h.get id with
    |some (.mp K' V es)=>(match itE K' V es with
     |some (s,p)=>aH (dY p (ah s)) (K (.qg [.f .bool J,.f (.int .i64) (aQ p),.f (.int .i32) (rnP s p)]) (fV id) (0|||fV id) ((dD 0 h).set id (Z (.mp itK .un [((s,aQ (p+wdP s p)),())]))) nx)
       (K (.qg [.f .bool aa]) (fV id) (0|||fV id) ((dD 0 h).set id (Z (.mp itK .un [((s,aQ p),())]))) nx)
     |none=>U)
    |_=>U)
   |_=>U
  |.mkm=>K (.mp nx) 0 (0|||fV nx) ((dD 0 h).set nx (Z (.mp .un .un []))) (nx+1)
  |.jy str ok z x k=>match dy e x,dy e k with
   |some (.mp id),Z (.f KT L)=>(match h.get id with
    |some (.mp K' V es)=>if abl str KT&&XH K' then (match mpE K' V es with
     |true=>(match cst z with|some v=>K (pkT ok v (.f .bool aa)) (fV id) 0 h nx|none=>U)
     |false=>(match t8 (S:=KT) K' L,cst z with
      |some kv',Z (.f A zv)=>(match t8 (S:=A) V zv with
       |some zv'=>K (pkT ok (.f V (wN kv' es zv')) (.f .bool (abk kv' es))) (fV id) 0 h nx
       |none=>U)
      |_,_=>U)) else U
    |some (.C U l)=>(match t8 (S:=KT) (.int .i64) L with
     |some n=>if !str&&(!ok&&uQ z)&&(dm 0 n&&fK n (l! l)) then (match l[aO n]? with|some v=>K v (fV id) 0 h nx|none=>U) else U
     |none=>U)
    |_=>U)
   |_,_=>U
  |.jv str x k v=>match dy e x,dy e k,dy e v with
   |some (.mp id),Z (.f KT L),Z (.f VT vv)=>(match h.get id with
    |some (.mp K' V es)=>if (abl str KT&&VT.one)&&XH K' then (match mpE K' V es with
     |true=>K .undef (fV id) (0|||fV id) ((dD 0 h).set id (Z (.mp KT VT [(L,vv)]))) nx
     |false=>(match t8 (S:=KT) K' L,t8 (S:=VT) V vv with
      |some kv',Z vv'=>K .undef (fV id) (0|||fV id) ((dD 0 h).set id (Z (.mp K' V (uk kv' vv' es)))) nx
      |_,_=>U)) else U
    |_=>U)
   |some (.mp id),Z (.f KT L),Z (.G i)=>(match h.get id with
    |some (.C U l)=>(match t8 (S:=KT) (.int .i64) L with
     |some n=>if !str&&(dm 0 n&&fK n (l! l)) then K .undef (fV id) (0|||fV id) ((dD 0 h).set id (Z (.C U (splice l (aO n) [.G i])))) nx else U
     |none=>U)
    |_=>U)
   |_,_,_=>U
  |.jw x=>match dy e x with
   |some (.mp id)=>(match h.get id with
    |some (.mp K' _ es)=>if XH K' then K (.f (.int .i64) (aQ (l! es))) (fV id) 0 h nx else U
    |_=>U)
   |_=>U
  |.mkf f caps=>match KQ e caps with|some l=>K (.qv f l) 0 0 h nx|none=>U
  |_=>U
abbrev BX (S:Ty):Type:=S.den×Y (Int×Bool)×Y (Int×Bool)
def dH (S:Ty) (xs:Y (BX S)) (j:Int):BX S:=xs.getD j.toNat (S.zero,[],[])
def qK {S:Ty} (xs:Y (BX S)) (j:Int) (o:BX S):Y (BX S):=xs.set j.toNat o
def sw (z:η) (j:Int):Int:=z.getD j.toNat 0
variable {T:Ty}
def qY (xss:Y (Y T.den)) (j:Int):Y T.den:=xss.getD j.toNat []
def vu (xss:Y (Y T.den)) (j:Int) (xs:Y T.den):Y (Y T.den):=xss.set j.toNat xs
abbrev o?:=Int×Bool
def sE {S:Ty} (b:Nat) (o:BX S):Y o?:=match b with|0=>o.2.1|_=>o.2.2
def vx {S:Ty} (b:Nat) (o:BX S) (m:Y o?):BX S:=match b with|0=>(o.1,m,o.2.2)|_=>(o.1,o.2.1,m)
def age (v:TV):M ν:=if v.isC then U else match v.cs with
 |some [.f (.int .i64) a,.f (.int .i64) b]=>Z (a,b)
 |_=>U
def GY (k z:ν):Bool:=decide (k.1=z.1)&&decide (k.2=z.2)
abbrev d?:=ν×Int
def kn (k:ν):Y d?->Bool
 |[]=>aa
 |e::r=>GY k e.1||kn k r
def dc (k:ν):Y d?->Int
 |[]=>0
 |e::r=>match GY k e.1 with|true=>e.2|false=>dc k r
def xT (k:ν):Y d?->Y d?
 |[]=>[]
 |e::r=>match GY k e.1 with|true=>r|false=>e::xT k r
def stN:Ty->Nat
 |.st t=>stN t+1
 |_=>0
def isRr:M Ty->Bool
 |some (.pr .bool (.pr _ (.sl _)))=>J
 |_=>aa
def agi:ξ->Bool
 |[.slice U 0 0]=>J
 |_=>aa
def asu:M TV->Bool
 |some (.sb _)=>J
 |_=>aa
def XS:M eD->Bool
 |some (.I _ _ _)=>J
 |some (.qp _ _ _ _ _)=>J
 |_=>aa
def Bg (h:aX):M TV->Bool
 |some (.sb _)=>J
 |some (.ql id _ _ _)|some (.G id)=>XS (h.get id)
 |_=>aa
def asw (b9:TypeId->M Ty) (e:gT) (h:aX):SI->Bool
 |.op (.load _ _ x)|.op (.store _ x _)|.op (.zh x)|.op (.jg _ x)|.op (.jk _ x _)|.op (.jy _ _ _ x _)|.op (.jv _ x _ _)=>Bg h (dy e x)
 |.op (.app _ _ _ s x)=>Bg h (dy e s)||asu (dy e x)
 |.op (.zg ty _ _ _ _ _)=>isRr (b9 ty)
 |.op (.zl _ _)=>J
 |.op (.lkq _ _ _ _)=>J
 |.op (.mpq _ _ _ _)=>J
 |.op (.dlq _ _ _)=>J
 |_=>aa
def pu (b9:TypeId->M Ty) (e:gT) (h:aX) (nx:Nat) (K:KO R):SU->M R
 |.load sz N x=>match dy e x with
  |some (.sb (.ob id j off))=>(match h.get id with
   |some (.I (.ar _ S) _ xs)=>chk (fe j (ah (α:=BX S) xs)) λ_=>
     if N then U else if dY off S.size then (match nS 40 S (dH S xs j).1 off sz aa with|some v=>K v (fV id) 0 h nx|none=>U)
     else if ay sz 1&&dY off (S.size+2) then K (.sb (.om id j (off-S.size))) (fV id) 0 h nx else U
   |_=>U)
  |some (.sb (.np id j s i off))=>(match h.get id with
   |some (.I (.ir _ T) _ xss)=>if ay s T.size then chk (fe j (ah (α:=Y T.den) xss)) λ_=>chk (fe i (ah (qY (T:=T) xss j))) λ_=>
     (match nS 40 T (geti _ (qY (T:=T) xss j) i) off sz N with|some v=>K v (fV id) 0 h nx|none=>U) else U
   |_=>U)
  |some (.ql id s j off)=>if (ay sz 1&& !N)&&(ay s 1&&ay off 0) then (match h.get id with
   |some (.I (.qc _) a D)=>chk (fe j (ah (α:=Int) D)) λ_=>K (.sb (.ob a (sw D j) 0)) (fV id) 0 h nx
   |some (.I (.rr _ z) a L)=>chk (fe j (ah (α:=Int) L)) λ_=>K (.sb (.nr a j z (aO (sw L j)))) (fV id) 0 h nx
   |_=>U) else U
  |_=>U
 |.store sz x v=>match dy e x,dy e v with
  |some (.sb (.ob id j off)),Z y=>(match h.get id with
   |some (.I (.ar ty S) a xs)=>chk (fe j (ah (α:=BX S) xs)) λ_=>(match gG h y 40 S (dH S xs j).1 off sz with
    |some (z,m)=>if ay m 0 then K .undef (fV id) (0|||fV id) ((dD 0 h).set id (Z (.I (.ar ty S) a (qK (S:=S) xs j (z,(dH S xs j).2))))) nx else U
    |none=>U)
   |_=>U)
  |some (.sb (.np id j s i off)),Z y=>(match h.get id with
   |some (.I (.ir ty T) a xss)=>if ay s T.size then chk (fe j (ah (α:=Y T.den) xss)) λ_=>chk (fe i (ah (qY (T:=T) xss j))) λ_=>(match gG h y 40 T (geti _ (qY (T:=T) xss j) i) off sz with
    |some (z,m)=>if ay m 0 then K .undef (fV id) (0|||fV id) ((dD 0 h).set id (Z (.I (.ir ty T) a (vu (T:=T) xss j (cH (qY (T:=T) xss j) i z))))) nx else U
    |none=>U) else U
   |_=>U)
  |some (.ql id s j off),Z (.G r)=>if ay sz 1&&(ay s 1&&ay off 0) then (match h.get id,h.get r with
   |some (.I (.rr ty z) a L),Z (.F _ p T xs)=>if ay z T.size then chk (fe j (ah (α:=Int) L)) λ_=>chk (p|| !(ay (ah xs) 0)) λ_=>K .undef (fV id) (0|||fV id) ((dD 0 h).set id (Z (.qp (.rr ty z) a L (j,0) (Z (r,J,ah xs))))) nx else U
   |_,_=>U) else U
  |_,_=>U
 |.zh x=>match dy e x with
  |some (.sb (.ob id j off))=>K (.sb (.ob id j off)) 0 0 h nx
  |some (.sb (.np id j s i off))=>K (.sb (.np id j s i off)) 0 0 h nx
  |_=>U
 |.jg off x=>match dy e x with
  |some (.sb (.ob id j o))=>K (.sb (.ob id j (o+off))) 0 0 h nx
  |some (.sb (.np id j s i o))=>K (.sb (.np id j s i (o+off))) 0 0 h nx
  |_=>U
 |.jk sz x i=>match dy e x,dy e i with
  |some (.G id),Z (.f (.int _) j)=>(match eg h id with
   |some (_,s,n)=>if ay s sz&&XS (h.get id) then chk (fe j n) λ_=>K (.ql id sz j 0) 0 0 h nx else U
   |none=>U)
  |some (.sb (.nr id j s n)),Z (.f (.int _) i)=>if ay s sz then chk (fe i n) λ_=>K (.sb (.np id j sz i 0)) 0 0 h nx else U
  |_,_=>U
 |.jy str ok z x k=>match dy e x,dy e k with
  |some (.sb (.om id j b)),Z (.f (.int .i64) A)=>(match h.get id,z with
   |some (.I (.ar _ S) _ xs),.bool zb=>if !str&&dY b 2 then chk (fe j (ah (α:=BX S) xs)) λ_=>
     K (pkT ok (.f .bool (wN (K:=.int .i64) (V:=.bool) A (sE b (dH S xs j)) zb)) (.f .bool (abk (K:=.int .i64) (V:=.bool) A (sE b (dH S xs j))))) (fV id) 0 h nx else U
   |_,_=>U)
  |_,_=>U
 |.jv str x k v=>match dy e x,dy e k,dy e v with
  |some (.sb (.om id j b)),Z (.f (.int .i64) A),Z (.f .bool vv)=>(match h.get id with
   |some (.I (.ar ty S) a xs)=>if !str&&dY b 2 then chk (fe j (ah (α:=BX S) xs)) λ_=>
     K .undef (fV id) (0|||fV id) ((dD 0 h).set id (Z (.I (.ar ty S) a (qK (S:=S) xs j (vx b (dH S xs j) (uk (K:=.int .i64) (V:=.bool) A vv (sE b (dH S xs j)))))))) nx else U
   |_=>U)
  |_,_,_=>U
 |.app ty sz bytes s x=>match dy e s,dy e x with
  |some (.G id),Z (.qy id2 1 1)=>(match h.get id,h.get id2 with
   |some (.I (.qc ty') a D),Z (.C (Z _) [.sb (.ob a' j 0)])=>if (ay sz 1&&ty==ty')&&(ay a a'&& !(ay id id2)) then
     chk (bf (ah (α:=Int) D+1) bytes) λ_=>K (.G nx) (fV id|||fV id2) (fV id|||fV nx) ((h.set id (Z (.qj J 1 (ah (α:=Int) D)))).set nx (Z (.I (.qc ty) a (sJ (α:=Int) D [j])))) (nx+1) else U
   |_,_=>U)
  |some (.sb (.nr id j s n)),Z y=>(match h.get id with
   |some (.I (.ir ty' T) a xss)=>if ay s T.size&&(ay sz T.size&&ty==ty') then chk (fe j (ah (α:=Y T.den) xss)) λ_=>(match Ek h (.sl T) y with
    |some (ys,m)=>if aJ m id then U else chk (ay n (ah (qY (T:=T) xss j))&&bf (n+ah ys) bytes) λ_=>
      K (.G nx) (fV id|||m) (fV id|||fV nx) ((h.set id (Z (.I (.ir ty T) a (vu (T:=T) xss j [])))).set nx (Z (.F ty J T (qY (T:=T) xss j++ys)))) (nx+1)
    |none=>U) else U
   |_=>U)
  |some b,Z (.sb (.nr id j s n))=>(match h.get id with
   |some (.I (.ir _ T) _ xss)=>if ay s T.size&&ay sz T.size then chk (fe j (ah (α:=Y T.den) xss)) λ_=>chk (ay n (ah (qY (T:=T) xss j))) λ_=>alw ty sz bytes T b (qY (T:=T) xss j) (fV id) h nx K else U
   |_=>U)
  |_,_=>U
 |.zg ty sz bytes z l c=>match b9 ty,dy e l,dy e c with
  |some (.pr .bool (.pr q (.sl T))),Z (.f (.int _) a),Z (.f (.int _) b)=>if ay sz 1&&agi z then
    chk (dm 0 a&&dm a b&&bf (aO b) bytes) λ_=>K (.G nx) 0 (fV nx) ((h.set nx (Z (.I (.rr ty T.size) (nx+1) (aF (aO a) (0:Int))))).set (nx+1) (Z (.I (.ir (stN q) T) 0 (aF (aO a) ([]:Y T.den))))) (nx+2) else U
  |_,_,_=>U
 |.zl neg x=>match dy e x with
  |some (.sb (.ob _ _ _))|some (.H _ _)=>K (.f .bool neg) 0 0 h nx
  |some .np=>K (.f .bool (!neg)) 0 0 h nx
  |_=>U
 |.lkq [.int .i64,.int .i64] z x k=>match dy e x,(dy e k).bind age,z with
  |some (.mp id),Z A,.pointer U=>(match h.get id with
   |some (.I .qh a es)=>aH (kn A es) (K (.sb (.ob a (dc A es) 0)) (fV id) 0 h nx) (K .np (fV id) 0 h nx)
   |_=>U)
  |_,_,_=>U
 |.mpq [.int .i64,.int .i64] x k v=>match dy e x,(dy e k).bind age,dy e v with
  |some (.mp id),Z A,Z (.H p 0)=>(match h.get id with
   |some (.I .qh a es)=>K .undef (fV id) (0|||fV id) ((dD 0 h).set id (Z (.qp .qh a es A (Z (p,aa,0))))) nx
   |_=>U)
  |_,_,_=>U
 |.dlq [.int .i64,.int .i64] x k=>match dy e x,(dy e k).bind age with
  |some (.mp id),Z A=>(match h.get id with
   |some (.I .qh a es)=>K (.qg []) (fV id) (0|||fV id) ((dD 0 h).set id (Z (.I .qh a (xT A es)))) nx
   |_=>U)
  |_,_=>U
 |_=>U
def opK (con:FuncId->M cA) (b9:TypeId->M Ty) (o:SI) (e:gT) (h:aX) (nx:Nat) (K:KO R):M R:=match asw b9 e h o with
 |true=>(match o with|.op s=>pu b9 e h nx K s|_=>U)
 |false=>ec con b9 o e h nx K
def ael (e:gT) (g:M (Nat×Bool)) (K:Bool->gT->M R):M R:=match g with
 |none=>K J e
 |some (t,want)=>match e.get t with
  |some (.f .bool b)=>(match want with
   |true=>aH b (K J (e.set t (Z (.f .bool J)))) (K aa (e.set t (Z (.f .bool aa))))
   |false=>aH b (K aa (e.set t (Z (.f .bool J)))) (K J (e.set t (Z (.f .bool aa)))))
  |some .undef=>K aa e
  |_=>U
def Gy (e:gT) (d:M Nat) (v:TV):gT:=match d with
 |none=>e
 |some d=>e.set d (Z v)
structure TS where
 e:gT
 h:aX
 nx:Nat
def NU (con:FuncId->M cA) (b9:TypeId->M Ty):Y ua->TS->Y FPm->(TS->Y FPm->M R)->M R
 |[],s,z,K=>K s z.reverse
 |o::r,s,z,K=>ael s.e o.guard λrun e=>match run with
  |true=>opK con b9 o.op e s.h s.nx λv rd A h nx=>if NZ h v then NU con b9 r ⟨Gy e o.dst v,h,nx⟩ (⟨rd,A⟩::z) K else U
  |false=>NU con b9 r ⟨Gy e o.dst .undef,s.h,s.nx⟩ (⟨0,0⟩::z) K
inductive Adj where
 |nil (k:Nat) (ty:TypeId) (T:Ty)
 |qd (k:Nat) (off:Nat) (ty:TypeId) (T:Ty)
 |mpt (k:Nat) (K V:Ty)
 |mz (k n:Nat)
 |pk (k:Nat) (off:Nat) (T:Ty)
 |qx (k:Nat) (off:Nat)
 |fmp (k off:Nat) (ty:TypeId) (S:Ty)
 |frw (k off off2:Nat) (ty:TypeId)
 |jb (k off:Nat)
mutual
def NL (id sz n:Nat):TV->TV
 |.qy i s m=>if ay i id&&ay s sz&&ay m n then .G id else .qy i s m
 |.agg l=>.agg (HU id sz n l)
 |.qg l=>.qg (HU id sz n l)
 |.qv g l=>.qv g (HU id sz n l)
 |.f T v=>.f T v
 |.zk T xs j h off=>.zk T xs j h off
 |.ql a b c d=>.ql a b c d
 |.H a b=>.H a b
 |.G a=>.G a
 |.zm a j=>.zm a j
 |.qm T xs=>.qm T xs
 |.sb s=>.sb s
 |.emp=>.emp
 |.nil=>.nil
 |.mp a=>.mp a
 |.undef=>.undef
 |.np=>.np
 |.qw=>.qw
def HU (id sz n:Nat):Y TV->Y TV
 |[]=>[]
 |x::r=>NL id sz n x::HU id sz n r
end
def Xl (id sz n:Nat):eD->eD
 |.C ty l=>.C ty (HU id sz n l)
 |.F ty p T xs=>.F ty p T xs
 |.qj p s m=>.qj p s m
 |.mp K V es=>.mp K V es
 |.I F a x=>.I F a x
 |.qp F a x k p=>.qp F a x k p
def ata (s:TS) (k off:Nat):M (Nat×o!):=match s.e.get k with
 |some (.qy id sz n)=>Z (id,sz,n)
 |some (.agg l)=>(match l[off]? with|some (.qy id sz n)=>Z (id,sz,n)|_=>U)
 |some (.H a o)=>(match s.h.get a with
  |some (.C (Z _) l)=>(match l[o+off]? with|some (.qy id sz n)=>Z (id,sz,n)|_=>U)
  |_=>U)
 |_=>U
def pkS (s:TS) (T:Ty) (id sz n:Nat):M TS:=match s.h.get id with
 |some (.C (Z ty) l)=>if ay sz T.size then (match C8 s.h T n l with
  |some (xs,m)=>if aJ m id then U else Z ⟨PT.updI (λ_ v=>NL id sz n v) 1 0 s.e,(PT.updI (λ_ b=>Xl id sz n b) 1 0 (dD m s.h)).set id (Z (.F ty aa T xs)),s.nx⟩
  |none=>U) else U
 |_=>U
def agh:TV->Bool
 |.nil=>J
 |.emp=>J
 |_=>aa
def ana:M TV->M o!
 |some (.H id o)=>Z (id,o)
 |some (.qy id _ _)|some (.mp id)=>Z (id,0)
 |_=>U
def ah9 (s:TS) (k off:Nat):M Nat:=match s.e.get k with
 |some (.mp id)|some (.G id)=>Z id
 |some (.H b o)=>(match s.h.get b with
  |some (.C (Z _) l)=>(match l[o+off]? with|some (.mp id)=>Z id|some (.G id)=>Z id|_=>U)
  |_=>U)
 |_=>U
def shf (n:Nat) (j:Int):Int:=if dY j.toNat n then j else aQ (j.toNat+1)
def Ky (n:Nat) (es:Y d?):Y d?:=es.map λe=>(e.1,shf n e.2)
def rz (k:ν) (v:Int):Y d?->Y d?
 |[]=>[(k,v)]
 |e::r=>match GY k e.1 with|true=>(k,v)::r|false=>e::rz k v r
def rnX (len:Nat):(F:uc)->F.ty.den->F.ty.den
 |.qc _,z=>fX (shf len) z
 |.qh,es=>Ky len es
 |_,x=>x
def asv:uc->Bool
 |.qc _=>J
 |.qh=>J
 |_=>aa
def rnF (a n len:Nat):eD->eD
 |.I F b x=>if asv F&&ay b a then .I F n (rnX len F x) else .I F b x
 |b=>b
def akk:M eD->M (Y o?)
 |some (.mp (.int .i64) .bool es)=>Z es
 |some (.mp .un .un [])=>Z []
 |_=>U
def aew (s:TS) (o a p:Nat) (kk:ν) (es:Y d?):M TS:=match s.h.get a,s.h.get p with
 |some (.I (.ar ty S) _ xs),Z (.C (Z ty') l)=>if ty'==ty then (match fA s.h 40 S l with
  |some (z,m,[.mp m1,.mp m2])=>(match akk (s.h.get m1),akk (s.h.get m2) with
   |some A,Z e2=>if ay m 0&& !(ay m1 m2) then
     Z ⟨s.e,((((((PT.updI (λ_ b=>rnF a s.nx (ah (α:=BX S) xs) b) 1 0 s.h).set o (Z (.I .qh s.nx (rz kk (aQ (ah (α:=BX S) xs)) (Ky (ah (α:=BX S) xs) es))))).set a (Z (.qj J 0 0))).set p (Z (.qj J 0 0))).set m1 (Z (.qj J 0 0))).set m2 (Z (.qj J 0 0))).set s.nx (Z (.I (.ar ty S) 0 (sJ (α:=BX S) xs [(z,A,e2)]))),s.nx+1⟩ else U
   |_,_=>U)
  |_=>U) else U
 |_,_=>U
def aon (s:TS) (o a r n:Nat) (j:Int) (ty:TypeId) (z:Nat) (A:η):M TS:=match s.h.get a,s.h.get r with
 |some (.I (.ir ty2 T) _ xss),Z (.F ty3 p S xs)=>(match t8 (S:=.sl S) (.sl T) xs with
  |some xs'=>if ty3==ty2 then
    Z ⟨s.e,(((s.h.set o (Z (.I (.rr ty z) s.nx (pR (α:=Int) A j.toNat (aQ n))))).set a (Z (.qj J 0 0))).set r (Z (.qj p S.size (ah xs)))).set s.nx (Z (.I (.ir ty2 T) 0 (vu (T:=T) xss j xs'))),s.nx+1⟩ else U
  |none=>U)
 |_,_=>U
def agj (F:uc):Bool:=ay (F.aid 1) 0
def rnG (a n:Nat):eD->eD
 |.I F b x=>if !(agj F)&&ay b a then .I F n x else .I F b x
 |b=>b
def aor (s:TS) (a:Nat):M TS:=match s.h.get a with
 |some (.I F _ x)=>if agj F then Z ⟨s.e,((PT.updI (λ_ b=>rnG a s.nx b) 1 0 s.h).set a (Z (.qj J 0 0))).set s.nx (Z (.I F 0 x)),s.nx+1⟩ else U
 |_=>U
def aol (s:TS) (o:Nat):M TS:=match s.h.get o with
 |some (.qp .qh a es kk (Z (p,aa,0)))=>aew s o a p kk es
 |some (.qp (.rr ty z) a A kk (Z (r,J,n)))=>aon s o a r n kk.1 ty z A
 |some (.I F a _)=>if agj F then U else aor s a
 |_=>U
def HG (s:TS):Adj->M TS
 |.nil k ty T=>match s.e.get k with
  |some v=>if agh v then Z ⟨s.e.set k (Z (.G s.nx)),s.h.set s.nx (Z (.F ty J T [])),s.nx+1⟩ else Z s
  |none=>U
 |.qd k off ty T=>match ana (s.e.get k) with
  |some (id,o)=>(match s.h.get id with
   |some (.C cty l)=>(match l[o+off]? with
    |some v=>if agh v then Z ⟨s.e,(s.h.set s.nx (Z (.F ty J T []))).set id (Z (.C cty (splice l (o+off) [.G s.nx]))),s.nx+1⟩ else Z s
    |none=>U)
   |_=>U)
  |_=>U
 |.mpt k K V=>match s.e.get k with
  |some (.mp id)=>(match s.h.get id with
   |some (.mp K' V' es)=>(match mpE K' V' es&&XH K with
    |true=>Z ⟨s.e,s.h.set id (Z (.mp K V [])),s.nx⟩
    |false=>Z s)
   |_=>U)
  |_=>U
 |.mz k n=>match s.e.get k with
  |some (.mp id)=>(match s.h.get id with
   |some (.mp K' V' es)=>(match mpE K' V' es with
    |true=>Z ⟨s.e,s.h.set id (Z (.C U (aF n .nil))),s.nx⟩
    |false=>U)
   |_=>Z s)
  |_=>U
 |.pk k off T=>match ata s k off with
  |some (id,sz,n)=>pkS s T id sz n
  |none=>U
 |.qx k off=>match s.e.get k with
  |some (.H b o)=>(match s.h.get b with
   |some (.C (Z cty) l)=>(match l[o+off]? with
    |some (.G id)=>(match s.h.get id with
     |some (.F ty p T xs)=>Z ⟨s.e,((s.h.set id (Z (.qj p T.size (l! xs)))).set s.nx (Z (.F ty p T xs))).set b (Z (.C (Z cty) (splice l (o+off) [.G s.nx]))),s.nx+1⟩
     |some (.I (.qc ty) a z)=>Z ⟨s.e,((s.h.set id (Z (.qj J 1 (ah (α:=Int) z)))).set s.nx (Z (.I (.qc ty) a z))).set b (Z (.C (Z cty) (splice l (o+off) [.G s.nx]))),s.nx+1⟩
     |_=>U)
    |_=>U)
   |_=>U)
  |some (.G id)=>(match s.h.get id with
   |some (.F ty p T xs)=>Z ⟨s.e.set k (Z (.G s.nx)),(s.h.set id (Z (.qj p T.size (l! xs)))).set s.nx (Z (.F ty p T xs)),s.nx+1⟩
   |_=>U)
  |_=>U
 |.fmp k off ty S=>match ah9 s k off with
  |some id=>(match s.h.get id with
   |some (.mp K' V' es)=>if mpE K' V' es then Z ⟨s.e,(s.h.set id (Z (.I .qh s.nx []))).set s.nx (Z (.I (.ar ty S) 0 [])),s.nx+1⟩ else U
   |some (.I _ _ _)=>Z s
   |_=>U)
  |none=>U
 |.frw k off off2 ty=>match ah9 s k off2,ana (s.e.get k) with
  |some o,Z (id,q)=>(match s.h.get o,s.h.get id with
   |some (.I .qh a _),Z (.C cty l)=>(match l[q+off]? with
    |some v=>if agh v then Z ⟨s.e,(s.h.set s.nx (Z (.I (.qc ty) a []))).set id (Z (.C cty (splice l (q+off) [.G s.nx]))),s.nx+1⟩ else Z s
    |none=>U)
   |_,_=>U)
  |_,_=>U
 |.jb k off=>match ah9 s k off with
  |some o=>aol s o
  |none=>U
def Wl (s:TS):Y Adj->M TS
 |[]=>Z s
 |a::r=>match HG s a with|some s'=>Wl s' r|none=>U
structure Ann where
 zq:ι
 ks:ι
 t:Tm
 pre:List Adj
abbrev Ann.D (A:Ann):Type:=A.t.ty.den
mutual
def vO:TV->Bool
 |.f _ _=>J
 |.zk _ _ _ _ _=>J
 |.emp=>J
 |.nil=>J
 |.undef=>J
 |.np=>J
 |.qw=>J
 |.agg l|.qg l=>rQ l
 |.ql _ _ _ _=>aa
 |.H _ _=>aa
 |.qy _ _ _=>aa
 |.G _=>aa
 |.zm _ _=>aa
 |.qm _ _=>aa
 |.sb _=>aa
 |.mp _=>aa
 |.qv _ _=>aa
def rQ:Y TV->Bool
 |[]=>J
 |x::r=>vO x&&rQ r
end
def E5 (am:Nat) (e:gT):ι->gT
 |[]=>PT.leaf
 |k::r=>match e.get k with|some v=>if vO v&& !(aJ am k) then (E5 am e r).set k (Z v) else E5 am e r|none=>E5 am e r
def j8 (e:gT):ι->M (Y TV)
 |[]=>Z []
 |k::r=>match e.get k with|some v=>(match j8 e r with|some l=>Z (v::l)|none=>U)|none=>U
def abc (e:gT):ι->Y TV->gT
 |k::r,v::l=>(abc e r l).set k (Z v)
 |_,_=>e
def Kb (am:Nat) (e0 e:gT):ι->Bool
 |[]=>J
 |k::r=>(match e0.get k with
  |some v=> !(vO v)||aJ am k||(match e.get k with|some _=>J|none=>aa)
  |none=>J)&&Kb am e0 e r
def Oy (np:Nat) (A:Ann) (am:Nat) (z s:TS):M A.D:=if dF np (l! A.t.bs)&&Kb am z.e s.e A.zq then (match Wl s A.pre with
 |some s=>(match j8 s.e A.ks with
  |some vs=>(match D2 np A.t vs s.h with
   |some ⟨x,_,_,_⟩=>Z x
   |none=>U)
  |none=>U)
 |none=>U) else U
def Je (A:Ann) (am:Nat) (s:TS) (x:A.D):M TS:=match C_ A.t x with
 |some (vs,h)=>if ay (l! vs) (l! A.ks) then Z ⟨abc (E5 am s.e A.zq) A.ks vs,h,l! A.t.bs⟩ else U
 |none=>U
inductive TC where
 |skip
 |jz (ops:List ua) (prs:List (Nat×Nat))
 |seq (a b:TC)
 |zn (A:Ann) (a b:TC)
 |cond (c:Nat) (a b:TC)
 |block (id:Nat) (b:TC)
 |zj (A:Ann) (id:Nat) (b:TC)
 |loop (A:Ann) (b:TC)
 |exit (id:Nat)
 |ret
 |defer (f:FuncId) (caps:List Operand) (t:Nat)
 |adj (l:List Adj) (c:TC)
 |split (k off lo n:Nat) (c:TC)
 |bsp (t:Nat) (a b:TC)
 |unl (n:Nat) (b:TC)
 |zd
def Sn:Y ua->Nat->Nat
 |[],acc=>acc
 |o::r,acc=>Sn r (match o.dst with|some d=>acc|||fV d|none=>acc)
def N2:ι->Nat->Nat
 |[],acc=>acc
 |k::r,acc=>N2 r (acc|||fV k)
def lK:Y Adj->Nat->Nat
 |[],acc=>acc
 |.nil k _ _::r,acc=>lK r (acc|||fV k)
 |.qd _ _ _ _::r,acc|.mpt _ _ _::r,acc|.mz _ _::r,acc|.pk _ _ _::r,acc=>lK r acc
 |.qx k _::r,acc=>lK r (acc|||fV k)
 |.fmp _ _ _ _::r,acc|.frw _ _ _ _::r,acc|.jb _ _::r,acc=>lK r acc
def TC.asg:TC->Nat->Nat
 |.jz ops _,acc=>Sn ops acc
 |.seq a b,acc=>b.asg (a.asg acc)
 |.zn A a b,acc=>b.asg (a.asg (N2 A.ks acc))
 |.cond _ a b,acc=>b.asg (a.asg acc)
 |.block _ b,acc=>b.asg acc
 |.zj A _ b,acc|.loop A b,acc=>b.asg (N2 A.ks acc)
 |.defer _ _ t,acc=>acc|||fV t
 |.adj l c,acc=>c.asg (lK l acc)
 |.split _ _ _ _ c,acc=>c.asg acc
 |.bsp _ a b,acc=>b.asg (a.asg acc)
 |.unl _ b,acc=>b.asg acc
 |.skip,acc|.exit _,acc|.ret,acc|.zd,acc=>acc
inductive aj1 where
 |j (A:Ann)
 |a (l:List Adj)
 |s (k off lo n:Nat)
 |b (t k off lo n:Nat)
 |u (n:Nat)
def Kp (H:PT aj1) (n:Nat) (c:TC):TC:=match H.get n with|some (.a l)=>.adj l c|some (.s k off z m)=>.split k off z m c|some (.b t k off z m)=>.bsp t (.split k off z m c) c|_=>c
def Hm (H:PT aj1):SC->Nat->TC×Nat
 |.skip,n=>(Kp H n .skip,n+1)
 |.jz o p,n=>(Kp H n (.jz o p),n+1)
 |.seq a b,n=>match Hm H a (n+1) with
  |(z,k)=>(match Hm H b k with|(b',D)=>((match H.get n with|some (.j A)=>.zn A z b'|_=>.seq z b'),D))
 |.cond c a b,n=>match Hm H a (n+1) with
  |(z,k)=>(match Hm H b k with|(b',D)=>(Kp H n (.cond c z b'),D))
 |.block id b,n=>match Hm H b (n+1) with|(b',k)=>((match H.get n with|some (.j A)=>.zj A id b'|_=>.block id b'),k)
 |.loop b,n=>match Hm H b (n+1) with|(b',k)=>((match H.get n with|some (.j A)=>.loop A b'|some (.u m)=>.unl m b'|_=>.zd),k)
 |.exit id,n=>(Kp H n (.exit id),n+1)
 |.ret,n=>(Kp H n .ret,n+1)
 |.defer f c t,n=>(.defer f c t,n+1)
 |.zd,n=>(.zd,n+1)
def agn (s:TS) (k off:Nat):M (IntKind×Int):=match s.e.get k with
 |some (.f (.int kd) v)=>Z (kd,v)
 |some (.H a o)=>(match s.h.get a with
  |some (.C (Z _) l)=>(match l[o+off]? with|some (.f (.int kd) v)=>Z (kd,v)|_=>U)
  |_=>U)
 |_=>U
def Xq (s:TS) (k off:Nat) (kd:IntKind) (v:Int):M TS:=match s.e.get k with
 |some (.f (.int _) _)=>Z ⟨s.e.set k (Z (.f (.int kd) v)),s.h,s.nx⟩
 |some (.H a o)=>(match s.h.get a with
  |some (.C (Z ty) l)=>Z ⟨s.e,s.h.set a (Z (.C (Z ty) (splice l (o+off) [.f (.int kd) v]))),s.nx⟩
  |_=>U)
 |_=>U
def spl (v:Int) (f:Nat->M R):Nat->Nat->M R
 |_,0=>U
 |i,m+1=>aH (decide ((v:Int)=aQ i)) (f i) (spl v f (i+1) m)
def aji (f:TS->(Ex->TS->M R)->M R):Nat->TS->(Ex->TS->M R)->M R
 |0,_,_=>U
 |m+1,s,K=>f s λex s'=>match ex with
  |.normal=>aji f m s' K
  |ex=>K ex s'
def oS {R:Type} (np:Nat) (con:FuncId->M cA) (b9:TypeId->M Ty) (inert:FuncId->Bool):TC->TS->(Ex->TS->M R)->M R
 |.skip,s,K=>K .normal s
 |.jz ops prs,s,K=>NU con b9 ops s [] λs' D=>if H3 D prs then K .normal s' else U
 |.seq a b,s,K=>oS np con b9 inert a s λex s'=>match ex with|.normal=>oS np con b9 inert b s' K|ex=>K ex s'
 |.zn A a b,s,K=>jn (oS np con b9 inert a s λex s'=>match ex with
   |.normal=>aA (Oy np A (a.asg 0) s s') λx=>Z (.inr x)
   |ex=>aA (K ex s') λr=>Z (.inl r)) λx=>(match Je A (a.asg 0) s x with|some s'=>oS np con b9 inert b s' K|none=>U)
 |.cond c a b,s,K=>match s.e.get c with
  |some (.f .bool t)=>aH t (oS np con b9 inert a s K) (oS np con b9 inert b s K)
  |some .qw=>Hz (oS np con b9 inert a s K) (oS np con b9 inert b s K)
  |_=>U
 |.block id b,s,K=>oS np con b9 inert b s λex s'=>match ex with
  |.exit i=>if ay i id then K .normal s' else K (.exit i) s'
  |ex=>K ex s'
 |.zj A id b,s,K=>jn (oS np con b9 inert b s λex s'=>match ex with
   |.normal=>aA (Oy np A (b.asg 0) s s') λx=>Z (.inr x)
   |.exit i=>if ay i id then aA (Oy np A (b.asg 0) s s') λx=>Z (.inr x) else aA (K (.exit i) s') λr=>Z (.inl r)
   |.ret=>aA (K .ret s') λr=>Z (.inl r)) λx=>(match Je A (b.asg 0) s x with|some s'=>K .normal s'|none=>U)
 |.loop A b,s,K=>aA (Oy np A (b.asg 0) s s) λx=>iter (λx=>match Je A (b.asg 0) s x with
   |some s'=>oS np con b9 inert b s' λex s'=>(match ex with
    |.normal=>aA (Oy np A (b.asg 0) s s') λy=>Z (.inl y)
    |ex=>aA (K ex s') λr=>Z (.inr r))
   |none=>U) x
 |.exit id,s,K=>K (.exit id) s
 |.ret,s,K=>K .ret s
 |.defer _ _ _,_,_=>U
 |.adj l c,s,K=>match Wl s l with|some s'=>oS np con b9 inert c s' K|none=>U
 |.split k off z n c,s,K=>match agn s k off with
  |some (kd,v)=>spl v (λi=>match Xq s k off kd (aQ i) with|some s'=>oS np con b9 inert c s' K|none=>U) z n
  |none=>U
 |.bsp t a b,s,K=>match s.e.get t with
  |some (.f .bool v)=>aH v (oS np con b9 inert a ⟨s.e.set t (Z (.f .bool J)),s.h,s.nx⟩ K) (oS np con b9 inert b ⟨s.e.set t (Z (.f .bool aa)),s.h,s.nx⟩ K)
  |_=>U
 |.unl n b,s,K=>aji (λs K=>oS np con b9 inert b s K) n s K
 |.zd,_,_=>U
def Nd:Nat->Y TV->gT
 |_,[]=>PT.leaf
 |k,x::r=>(Nd (k+1) r).set k (Z x)
def rvT (s:TS):RV->M TV
 |.tmp t=>s.e.get t
 |.cell a sz z=>match s.e.get a with
  |some (.H id off)=>(match s.h.get id with|some (.C (Z _) l)=>Xk l off sz z|_=>U)
  |_=>U
def Tp (s:TS):Y RV->M (Y TV)
 |[]=>Z []
 |x::r=>match rvT s x with|some v=>(match Tp s r with|some l=>Z (v::l)|none=>U)|none=>U
structure FT where
 pre:Tm
 post:Tm
 hints:PT aj1
def at7 (D:FT):Y Adj:=match D.hints.get 60000 with
 |some (.a l)=>l
 |_=>[]
def aev (con:FuncId->M cA) (b9:TypeId->M Ty) (inert:FuncId->Bool) (F:M SF) (D:FT) (x:D.pre.ty.den):M D.post.ty.den:=
 match F with
 |some z=>(match C_ D.pre x with
  |some (args,h)=>if dF (l! args) z.nt&&dF (l! D.pre.bs) (l! D.post.bs) then
    oS (l! D.pre.bs) con b9 inert (Hm D.hints z.code 0).1 ⟨Nd 0 args,h,l! D.pre.bs⟩ λex s=>(match ex with
    |.exit _=>U
    |_=>(match Wl s (at7 D) with
     |some s=>(match Tp s z.res with
      |some l=>(match D2 (l! D.pre.bs) D.post l s.h with
       |some ⟨y,_,_,_⟩=>(match C_ D.post y with|some _=>Z y|none=>U)
       |none=>U)
      |none=>U)
     |none=>U)) else U
  |none=>U)
 |none=>U
def eX {u:Value} (h:co V O w (.f (.raw v)) u):u=v:=by
 cases h with
 |f h=>cases h;rfl
def vn (h:HF) (z:HF):eZ h [] z=h:=by funext t;simp[eZ]
def I3:∀{l:ξ},M6 l=J->∀v∈l,v.oneCell'=J
 |[],_,v,z=>by cases z
 |x::r,h,v,z=>by
  simp[M6,al]at h;rcases aZ.1 z with rfl|z
  .exact h.1
  .exact I3 h.2 v z
def YQ (v:Value):co V O w (Hu v) v:=by
 unfold Hu;split
 .rename_i vs;split
  .rename_i h1;refine co.agg (vs:=vs.toList) (by simp) (λx z=>?_) (λj x v z A=>?_)
   .obtain⟨u,D,rfl⟩:=cj.1 z;exact I3 h1 u D
   .rw[bz,A]at z;simp[bn,af]at z;subst z;exact .f (.raw _)
  .exact .f (.raw _)
 .exact .f (.raw _)
variable {c:Operand}
def uV {e:DE} {xs:Array Operand} (hrep:sh V O A w) (h:∀t,.tmp t∈xs->∀y,e.get t=Z y->co V (tot O V A) w y (Q.tmps.getD t undef)) (D:c∈xs) (z:lS e c=Z y):co V (tot O V A) w y (Q.eval c):=by
 cases c with
 |tmp t=>exact h t D y z
 |const v=>simp[lS,af]at z;subst z;exact YQ v
 |func g=>
  simp[lS,af]at z;subst z;exact co.qv (vs:=[]) (g:=g) (cells:=[]) rfl (by simp)
 |global g=>
  simp[lS]at z;cases h':G g with
  |none=>rw[h']at z;cases z
  |some cells=>rw[h']at z;simp[af]at z;subst z;exact .f (hrep.gl g cells h')
abbrev W_ (φ:PM) (E:Nat->Prop) (h':HF) (w:World) (a:Act) (e:DE) (o:Oper):Prop:=∀x y,x∈o.op.operands->lS e x=Z y->co φ (tot E φ h') w y (a.eval x)
def fZ.reads {o:Oper} {e:DE} {h:HF} {rd:ι} 
 (N:∀(φ:PM) (E:Nat->Prop) (h':HF) (w:World) (a:Act),(∀i∈rd,h' i=h i)->W_ φ E h' w a e o->sh φ E h' w->
   ∃v,(execOp a.eval o).run P w= .ok (.value v) w/\co φ (tot E φ h') w y v):fZ P o e.get h ⟨y,rd,[],A,[]⟩:=by
 intro φ E h' w a h1 h2 h3 z h5;let⟨v,r,rel⟩:=N φ E h' w a h1 (λx val L D=>uV z h3 L D) z;unfold Oper.wp;rw[r];refine ⟨v,φ,rfl,?_,λ_ _ h=>.inl h,?_,?_⟩<;>rw[vn]
 .exact jT.refl _ _ _
 .exact z
 .exact rel
def dl {R:Cu} (h:rv y=Z R):R=⟨y,[],[],[],[]⟩:=by simp only[rv,af]at h;exact h.symm
section pure
variable {P:Program} {o:Oper} {e:DE} {h:mQ} {nx:Nat} {R:Cu}
def ati (z:o.op= .move c\/o.op= .assign c) (A:dx (.mv c) e h nx=Z R):fZ P o e.get h.get R.eff:=by
 simp[dx]at A;split at A
 next v D=>rw[dl A];exact fZ.reads λφ E h' w a _ hop _=>⟨a.eval c,by unfold execOp;rcases z with z|z<;>rw[z]<;>rfl,hop c v (by rcases z with z|z<;>rw[z]<;>simp[Op.operands]) D⟩
 .cases A
def apy {x y:Operand} (A:o.op= .pick c x y) (z:dx (.pick c x y) e h nx=Z R):fZ P o e.get h.get R.eff:=by
 simp[dx]at z;split at z
 .rename_i t L;split at z
  .rename_i v D;rw[dl z];refine fZ.reads λφ E h' w a _ hop _=>?_
   have hcv:=eX (hop c _ (by rw[A];simp[Op.operands]) L);refine ⟨a.eval (if t then x else y),?_,hop _ v (by rw[A];cases t<;>simp[Op.operands]) D⟩;unfold execOp;rw[A];simp[hcv];cases t<;>rfl
  .cases z
 .cases z
def apz (A:o.op= .nilCheck c) (D:dx (.zh c) e h nx=Z R):fZ P o e.get h.get R.eff:=by
 simp[dx]at D;split at D
 .rename_i id off N;rw[dl D];refine fZ.reads λφ E h' w a _ hop _=>?_
  have h1:=hop c _ (by rw[A];simp[Op.operands]) N;generalize L:a.eval c=z at h1;cases h1 with
  |H hφ=>exact⟨_,by unfold execOp;rw[A];simp only[L];rfl,.H hφ⟩
 .rename_i cells off N;rw[dl D];refine fZ.reads λφ E h' w a _ hop _=>?_
  have h1:=hop c _ (by rw[A];simp[Op.operands]) N;generalize L:a.eval c=z at h1;cases h1 with
  |f h1=>
   have h2:=h1;cases h2 with
   |H _ _ b base us hO hb hcl hu hr=>exact⟨_,by unfold execOp;rw[A];simp only[L];rfl,.f h1⟩
 .rename_i g cap N;rw[dl D];refine fZ.reads λφ E h' w a _ hop _=>?_
  have h1:=hop c _ (by rw[A];simp[Op.operands]) N;generalize L:a.eval c=z at h1;cases h1 with
  |qv hl hr=>exact⟨_,by unfold execOp;rw[A];simp only[L];rfl,.qv hl hr⟩
 .cases D
variable {s:TypeId}
def atg (A:o.op= .unOp .not s c) (z:dx (.not c) e h nx=Z R):fZ P o e.get h.get R.eff:=by
 simp[dx]at z;split at z
 .rename_i b D;rw[dl z];refine fZ.reads λφ E h' w a _ hop _=>?_
  have h1:=eX (hop c _ (by rw[A];simp[Op.operands]) D);exact⟨_,by unfold execOp;rw[A];simp[h1];rfl,.f (.raw _)⟩
 .cases z
def AO (k:IntKind) (n:Int):bl k n=k.wrap n:=by
 rw[JY];unfold Pa;split
 .split
  .rename_i h;simp[dm,al,bU]at h;have:pS .i64 n=if n%18446744073709551616≥9223372036854775808 then n%18446744073709551616-18446744073709551616 else n%18446744073709551616:=by
    simp[pS,IntKind.bits,IntKind.signed]
   rw[this];split<;>omega
  .rfl
 .split
  .rename_i h;simp[dm,al,bU]at h;have:pS .u8 n=n%256:=by
    simp[pS,IntKind.bits,IntKind.signed]
   omega
  .rfl
 .rfl
def aq7 {d:TypeId} {k D:IntKind} (A:o.op= .convert s d c) (N:P.underlying s=Z (.int D)) (hd:P.underlying d=Z (.int k)) (z:dx (.conv k c) e h nx=Z R):fZ P o e.get h.get R.eff:=by
 simp[dx]at z;split at z
 .rename_i kk n L;rw[dl z];refine fZ.reads λφ E h' w a _ hop _=>?_
  have h1:=eX (hop c _ (by rw[A];simp[Op.operands]) L);refine ⟨_,?_,.f (.raw _)⟩;unfold execOp;rw[A];simp[h1,convert,run_underlying N,run_underlying hd,Conv.intToInt,AO]
 .cases z
def Sl (a:ByteArray):a.toList=a.data.toList:=by
 first|exact ByteArray.toList_eq a|simp[ByteArray.toList]|rfl
def af5 {op:BinOp} {t:TypeId} {u r:Value} (z:uW op u v=Z r) (x y:Operand) (w:World):
 (do eqGuard op t x y u v;binOp op t u v:Sem Value).run P w= .ok r w:=by
 unfold uW at z;split at z
 .rename_i k a D b;split at z
  .rename_i N;have A:k=D:=by grind
   subst A;split at z<;>first|(simp [af]at z;subst z;simp[eqGuard,binOp,Op.intCmp,Op.intArith,AO,dm,fK];done)|(split at z<;>first|(cases z;done)|(rename_i L;simp[af]at z;subst z;simp[eqGuard,binOp,Op.intDiv,AO,show b≠0 from by simpa using L];done))|(cases z;done)
  .cases z
 next a b=>split at z<;>first|(simp [af]at z;subst z;simp[eqGuard,binOp,Op.stringOp,tF,Sl];done)|(cases z;done)
 .cases z
def an6 {s:Sem Value} {w':World} (z:s.run P w= .ok v w'):(do let x<-s;pure (Next.value x):Sem Next).run P w= .ok (.value v) w':=by
 simp[z]
def ao0 {op:BinOp} {y:Operand} {D:TypeId} (A:o.op= .binOp op s c y D) (z:dx (.bin op c y) e h nx=Z R):fZ P o e.get h.get R.eff:=by
 simp[dx]at z;split at z
 .rename_i u v N L;split at z
  .rename_i r hr;rw[dl z];refine fZ.reads λφ E h' w a _ hop _=>?_
   have h1:=eX (hop c _ (by rw[A];simp[Op.operands]) N);have h2:=eX (hop y _ (by rw[A];simp[Op.operands]) L);refine ⟨r,?_,.f (.raw _)⟩;unfold execOp;rw[A];simp only[h1,h2];exact an6 (af5 (P:=P) (t:=s) hr c y w)
  .cases z
 .cases z
def Yl (z:P.underlying s=Z .bool) (u v:Bool) (w:World):(Op.equal s (.bool u) (.bool v)).run P w= .ok (u==v) w:=by
 have key:∀d,(Op.equalIn (d+1) s (.bool u) (.bool v)).run P w= .ok (u==v) w:=λd=>by simp[Op.equalIn,run_underlying z]
 exact key 9999
def U7 {D:TypeId} (z:P.underlying s=Z (.slice D)) (A:M Addr) (n c:Nat) (w:World):(Op.equal s (.slice A n c) (.slice U 0 0)).run P w= .ok A.isNone w:=by
 have key:∀d,(Op.equalIn (d+1) s (.slice A n c) (.slice U 0 0)).run P w= .ok A.isNone w:=λd=>by cases A<;>simp[Op.equalIn,run_underlying z]
 exact key 9999
def anz {neg:Bool} {op:BinOp} {y:Operand} {D:TypeId} (A:o.op= .binOp op s c y D) (hop:op=if neg then .neq else .eql) (hu:P.underlying s=Z .bool) (z:dx (.xq neg c y) e h nx=Z R):fZ P o e.get h.get R.eff:=by
 simp[dx]at z;split at z
 .rename_i u v N L;rw[dl z];refine fZ.reads λφ E h' w a _ hp _=>?_
  have h1:=eX (hp c _ (by rw[A];simp[Op.operands]) N);have h2:=eX (hp y _ (by rw[A];simp[Op.operands]) L);refine ⟨_,?_,.f (.raw _)⟩;unfold execOp;rw[A];simp[h1,h2];subst hop;cases neg<;>simp[eqGuard,binOp,Yl hu]
 .cases z
def aau {neg:Bool} {op:BinOp} {y:Operand} {t' el:TypeId} (ho:o.op= .binOp op s c y t') (hop:op=if neg then .neq else .eql) (hy:y= .const (.slice U 0 0)) (hu:P.underlying s=Z (.slice el)) (L:dx (.zf neg c) e h nx=Z R):fZ P o e.get h.get R.eff:=by
 have key:∀(v:Value) (w:World) (ρ:Operand->Value) (A:M Addr) (n x:Nat),ρ c= .slice A n x->ρ y= .slice U 0 0->(execOp ρ o).run P w= .ok (.value (.bool (A.isNone !=neg))) w:=by
  intro v w ρ A n x h1 h2;unfold execOp;rw[ho];simp[h1,h2];subst hop;cases neg<;>simp[eqGuard,binOp,U7 hu]
 have hyv:∀a:Act,a.eval y= .slice U 0 0:=λa=>by rw[hy];rfl
 simp[dx]at L;split at L
 .rename_i id sz n D;rw[dl L];refine fZ.reads λφ E h' w a _ hp _=>?_
  have h1:=hp c _ (by rw[ho];simp[Op.operands]) D;generalize N:a.eval c=z at h1;cases h1 with
  |G hφ hn hc hs=>exact⟨_,key (.bool J) w a.eval _ _ _ N (hyv a),by simpa[raw] using co.f (.raw _)⟩
 .rename_i id off n D;rw[dl L];refine fZ.reads λφ E h' w a _ hp _=>?_
  have h1:=hp c _ (by rw[ho];simp[Op.operands]) D;generalize N:a.eval c=z at h1;cases h1 with
  |sl hφ hn hc=>exact⟨_,key (.bool J) w a.eval _ _ _ N (hyv a),by simpa[raw] using co.f (.raw _)⟩
 .rename_i cells n D;rw[dl L];refine fZ.reads λφ E h' w a _ hp _=>?_
  have h1:=hp c _ (by rw[ho];simp[Op.operands]) D;generalize N:a.eval c=z at h1;cases h1 with
  |f h1=>
   cases h1 with
   |sl=>exact⟨_,key (.bool J) w a.eval _ _ _ N (hyv a),by simpa[raw] using co.f (.raw _)⟩
 .rename_i cells D;rw[dl L];refine fZ.reads λφ E h' w a _ hp _=>?_
  have h1:=hp c _ (by rw[ho];simp[Op.operands]) D;generalize N:a.eval c=z at h1;cases h1 with
  |f h1=>
   cases h1 with
   |_=>exact⟨_,key (.bool J) w a.eval _ _ _ N (hyv a),.qw⟩
 .rename_i D;rw[dl L];refine fZ.reads λφ E h' w a _ hp _=>?_
  have h1:=hp c _ (by rw[ho];simp[Op.operands]) D;generalize N:a.eval c=z at h1;cases h1 with
  |emp=>exact⟨_,key (.bool J) w a.eval _ _ _ N (hyv a),.qw⟩
 .rename_i v D;split at L
  .rename_i hv;rw[dl L];refine fZ.reads λφ E h' w a _ hp _=>?_
   have h1:=eX (hp c _ (by rw[ho];simp[Op.operands]) D);unfold uQ at hv;split at hv
   .exact⟨_,key (.bool J) w a.eval _ _ _ h1 (hyv a),by simpa[raw] using co.f (.raw _)⟩
   .cases hv
  .cases L
 .cases L
def gq (z:fE P s=Z i) (w:World):(sizeOf s).run P w= .ok i w:=by
 unfold fE at z;cases hi:P.info? s with
 |none=>rw[hi]at z;cases z
 |some sz=>rw[hi]at z;simp at z;simp[sizeOf,typeInfo,program,hi,io,z]
def Tr (z:F8 P s=Z b) (w:World):(isAgg s).run P w= .ok b w:=by
 unfold F8 at z;cases hi:P.underlying s with
 |none=>rw[hi]at z;cases z
 |some d=>
  rw[hi]at z;simp[bn,af]at z;rw[<- z];simp[isAgg,fk,run_underlying hi,cR];cases d<;>rfl
def kK (b off i:Nat):(⟨b,off,U⟩:Addr).add i=⟨b,off+i,U⟩:=by
 unfold Addr.add;split<;>simp_all
variable {K:Array Field}
def Tq {f:Field} (A:P.underlying s=Z (.struct K)) (hf:K[i]? =Z f) (D:fE P f.type=Z j) (h0:j≠0) (w:World) (b k:Nat):
 (Instr.fieldAt s (.pointer (Z ⟨b,k,U⟩)) i).run P w= .ok (.pointer (Z ⟨b,k+f.offset,U⟩)) w:=by
 have h1:=gq D w;simp[Instr.fieldAt,run_underlying A,hf,Instr.sureAddr,fieldPlace,h1,h0,kK]
def ats {f:Field} (ho:o.op= .fieldAddr s c i) (N:P.underlying s=Z (.struct K)) (hf:K[i]? =Z f) (hs:fE P f.type=Z j) (h0:j≠0) (A:dx (.jg f.offset c) e h nx=Z R):fZ P o e.get h.get R.eff:=by
 have key:∀(w:World) (ρ:Operand->Value) (b k:Nat),ρ c= .pointer (Z ⟨b,k,U⟩)->(execOp ρ o).run P w= .ok (.value (.pointer (Z ⟨b,k+f.offset,U⟩))) w:=by
  intro w ρ b k h1;unfold execOp;rw[ho];simp only[h1];exact an6 (Tq N hf hs h0 w b k)
 simp[dx]at A;split at A
 .rename_i id off L;rw[dl A];refine fZ.reads λφ E h' w a _ hp _=>?_
  have h1:=hp c _ (by rw[ho];simp[Op.operands]) L;generalize D:a.eval c=z at h1;cases h1 with
  |H hφ=>exact⟨_,key w a.eval _ _ D,.H hφ⟩
 .rename_i cells off L;rw[dl A];refine fZ.reads λφ E h' w a _ hp _=>?_
  have h1:=hp c _ (by rw[ho];simp[Op.operands]) L;generalize D:a.eval c=z at h1;cases h1 with
  |f h1=>
   cases h1 with
   |H _ _ b base us hO hb hcl N hr=>
    refine ⟨_,key w a.eval _ _ D,.f ?_⟩;rw[qH];exact .H cells _ b base us hO hb hcl N hr
 .cases A
def L8 {z:TypeId} {y:Operand} {off n x:Nat} {k:IntKind} {sz:Int} {ρ:Operand->Value} (ho:o.op= .indexAddr s c y) (L:P.underlying s=Z (.slice z)) (N:fE P z=Z i) (D:ρ c= .slice (Z ⟨j,off,U⟩) n x) (A:ρ y= .int k sz) (h0:0<=sz) (h1:sz<n):
 (execOp ρ o).run P w= .ok (.value (.pointer (Z ⟨j,off+sz.toNat*i,U⟩))) w:=by
 have h2:=gq N w;unfold execOp;rw[ho];simp[D,A,Instr.indexAt,asIntOf,run_underlying L,h2,h0,h1,kK]
def atq {el:TypeId} {y:Operand} (N:o.op= .indexAddr s c y) (hu:P.underlying s=Z (.slice el)) (hs:fE P el=Z i) (A:dx (.jk i c y) e h nx=Z R):fZ P o e.get h.get R.eff:=by
 simp[dx]at A;split at A
 .rename_i v k j hx hy;have hyv:∀{φ:PM} {E:Nat->Prop} {h':HF} {w:World} {a:Act},W_ φ E h' w a e o->a.eval y= .int k j:=λhp=>eX (hp y _ (by rw[N];simp[Op.operands]) hy)
  split at A
  .split at A
   .rename_i id sz' n L;simp[dm,fK,al,bU,cV]at L;obtain⟨⟨rfl,h0⟩,h1⟩:=L;rw[dl A];refine fZ.reads λφ E h' w a _ hp _=>?_
    have D:=hp c _ (by rw[N];simp[Op.operands]) hx;generalize hz:a.eval c=z at D;cases D with
    |G hφ hn hc' hsh=>
     refine ⟨_,L8 N hu hs hz (hyv hp) h0 h1,?_⟩;rw[bT];exact .H hφ
   .cases A
  .split at A
   .rename_i id off n L;simp[dm,fK,al,bU]at L;let⟨h0,h1⟩:=L;rw[dl A];refine fZ.reads λφ E h' w a _ hp _=>?_
    have D:=hp c _ (by rw[N];simp[Op.operands]) hx;generalize hz:a.eval c=z at D;cases D with
    |sl hφ hn hc'=>exact⟨_,L8 N hu hs hz (hyv hp) h0 h1,.H hφ⟩
   .cases A
  .split at A
   .rename_i cells n L;simp[dm,fK,al,bU]at L;let⟨h0,h1⟩:=L;rw[dl A];refine fZ.reads λφ E h' w a _ hp _=>?_
    have D:=hp c _ (by rw[N];simp[Op.operands]) hx;generalize hz:a.eval c=z at D;cases D with
    |f D=>
     cases D with
     |nil=>omega
     |sl _ _ x b base us hn hc' hO hb hcl hu' hr'=>exact⟨_,L8 N hu hs hz (hyv hp) h0 h1,.f (.H cells _ b base us hO hb hcl hu' hr')⟩
   .cases A
  .cases A
 .cases A
def aq5 {el:TypeId} {y:Operand} (L:o.op= .indexAddr s c y) (hu:P.underlying s=Z (.array i el)) (hs:fE P el=Z j) (A:dx (.jx i j c y) e h nx=Z R):fZ P o e.get h.get R.eff:=by
 have key:∀(w:World) (ρ:Operand->Value) (b off:Nat) (k:IntKind) (n:Int),ρ c= .pointer (Z ⟨b,off,U⟩)->ρ y= .int k n->0<=n->n<i->(execOp ρ o).run P w= .ok (.value (.pointer (Z ⟨b,off+n.toNat*j,U⟩))) w:=by
  intro w ρ b off k n h1 h2 h3 h4;have h5:=gq hs w;unfold execOp;rw[L];simp[h1,h2,Instr.indexAt,asIntOf,run_underlying hu,h5,h3,h4,kK,Instr.sureAddr]
 simp[dx]at A;split at A
 .rename_i v k sz hx hy;split at A
  .rename_i hc;simp[dm,fK,al,bU]at hc;let⟨h0,h1⟩:=hc;split at A
   .rw[dl A];refine fZ.reads λφ E h' w a _ hp _=>?_
    have D:=hp c _ (by rw[L];simp[Op.operands]) hx;have hyv:=eX (hp y _ (by rw[L];simp[Op.operands]) hy);generalize N:a.eval c=z at D;cases D with
    |H hφ=>exact⟨_,key w a.eval _ _ k sz N hyv h0 h1,.H hφ⟩
   .rw[dl A];refine fZ.reads λφ E h' w a _ hp _=>?_
    have D:=hp c _ (by rw[L];simp[Op.operands]) hx;have hyv:=eX (hp y _ (by rw[L];simp[Op.operands]) hy);generalize N:a.eval c=z at D;cases D with
    |f D=>
     cases D with
     |H _ _ b base us hO hb hcl hu' hr'=>
      refine ⟨_,key w a.eval _ _ k sz N hyv h0 h1,.f ?_⟩;rw[qH];exact .H _ _ b base us hO hb hcl hu' hr'
   .cases A
  .cases A
 .cases A
def att (L:o.op= .extract c i) (A:dx (.ext c i) e h nx=Z R):fZ P o e.get h.get R.eff:=by
 simp[dx]at A;split at A
 .rename_i l hx;split at A
  .rename_i v hv;rw[dl A];refine fZ.reads λφ E h' w a _ hp _=>?_
   have D:=hp c _ (by rw[L];simp[Op.operands]) hx;generalize N:a.eval c=z at D;cases D with
   |@qg _ vs hl hrr=>
    have hlt:i<l! vs:=by grind
    refine ⟨vs[i],?_,hrr i v _ hv (aE hlt)⟩;unfold execOp;rw[L];simp[N,Instr.extract,hlt]
  .cases A
 .cases A
def atn {y:Operand} {D:Array TypeId} (A:o.op= .call {callee:=.builtin .max,args:=#[c,y],argTypes:=D}) (z:dx (.max c y) e h nx=Z R):fZ P o e.get h.get R.eff:=by
 simp[dx]at z;split at z
 .rename_i k a b k' N L;rw[dl z];refine fZ.reads λφ E h' w a _ hp _=>?_
  have h1:=eX (hp c _ (by rw[A];simp[Op.operands,dC]) N);have h2:=eX (hp y _ (by rw[A];simp[Op.operands,dC]) L);refine ⟨_,?_,.f (.raw _)⟩;unfold execOp;rw[A];simp[resolve,invoke,builtin,Builtin.max_,Builtin.max2,h1,h2,fK]
 .cases z
def atm {y:Operand} {D:Array TypeId} (A:o.op= .call {callee:=.builtin .min,args:=#[c,y],argTypes:=D}) (z:dx (.min c y) e h nx=Z R):fZ P o e.get h.get R.eff:=by
 simp[dx]at z;split at z
 .rename_i k a b k' N L;rw[dl z];refine fZ.reads λφ E h' w a _ hp _=>?_
  have h1:=eX (hp c _ (by rw[A];simp[Op.operands,dC]) N);have h2:=eX (hp y _ (by rw[A];simp[Op.operands,dC]) L);refine ⟨_,?_,.f (.raw _)⟩;unfold execOp;rw[A];simp[resolve,invoke,builtin,Builtin.min_,Builtin.min2,h1,h2,fK]
 .cases z
def ath {k:IntKind} (L:o.op= .unOp .neg s c) (A:dx (.bin .sub (.const (.int k 0)) c) e h nx=Z R):fZ P o e.get h.get R.eff:=by
 simp[dx,lS,Hu]at A;split at A
 .rename_i u v hu N;cases hu;split at A
  .rename_i r z;rw[dl A];refine fZ.reads λφ E h' w a _ hop _=>?_
   have h1:=eX (hop c _ (by rw[L];simp[Op.operands]) N);refine ⟨r,?_,.f (.raw _)⟩;unfold execOp;rw[L];cases v<;>simp only[uW]at z<;>try (cases z;done)
   split at z
   next D=>have D:=eq_of_beq D;subst D;simp[af]at z;subst z;simp[h1,Op.unary,Op.intArith,AO]
   .cases z
  .cases A
 .cases A
def apx {i:Operand} (A:o.op= .index s c i) (N:P.underlying s=Z .string) (z:dx (.jq c i) e h nx=Z R):fZ P o e.get h.get R.eff:=by
 simp only[dx]at z;split at z
 .rename_i t k j L hi;split at z
  .rename_i h0;simp[dm,bU]at h0;split at z
   .rename_i b D;rw[dl z];refine fZ.reads λφ E h' w a _ hop _=>?_
    have h1:=eX (hop c _ (by rw[A];simp[Op.operands]) L);have h2:=eX (hop i _ (by rw[A];simp[Op.operands]) hi);refine ⟨_,?_,.f (.raw _)⟩;have hs:t[j.toNat]? =Z b:=by
     rw[cU]at D;let⟨hl,he⟩:=c7.1 D;exact getElem?_pos t j.toNat hl▸eW Z he
    unfold execOp;rw[A];simp[Instr.index,run_underlying N,h1,h2,asIntOf,h0,hs]
   .cases z
  .cases z
 .cases z
variable {f:FuncId}
def atl {caps:Array Operand} (L:o.op= .makeFunc (.func f) #[] caps) (A:dx (.mkf f caps.toList) e h nx=Z R):fZ P o e.get h.get R.eff:=by
 simp[dx]at A;split at A
 .rename_i l N;rw[dl A];refine fZ.reads λφ E h' w a _ hp _=>?_
  refine ⟨_,by unfold execOp;rw[L];rfl,?_⟩;have key:∀(xs:Y Operand) (z:Y AV),(∀x∈xs,x∈o.op.operands)->evs e xs=Z z->l! z=l! xs/\∀(j:Nat) x v,z[j]? =Z x->(xs.map a.eval)[j]? =Z v->co φ (tot E φ h') w x v:=by
   intro xs;induction xs with
   |nil=>intro z _ h;simp[evs,af]at h;subst h;exact⟨rfl,λj x v D=>by simp at D⟩
   |cons x xs ih=>
    intro z hm h;simp[evs]at h
    grind
  let⟨h1,h2⟩:=key caps.toList l (λx D=>by rw[L];simpa[Op.operands] using D) N;have h3:(caps.map a.eval)=(caps.toList.map a.eval).toArray:=by grind
  have h4:(#[]:Array Operand).map a.eval=#[]:=by simp
  rw[h4,h3];exact .qv (by grind) h2
 .cases A
end pure
section
variable {P:Program} {o:Oper} {e:DE} {h:mQ} {nx:Nat} {R:Cu}
def Zl {α:Type} {l cs:Y α} (h:i+j<=l! l) (he:(l.drop i).take j=cs):l! cs=j/\∀(sz:Nat) x,cs[sz]? =Z x->l[i+sz]? =Z x:=by grind
def zG (f:Nat->Value) (n j:Nat) (v:Value) (h:((iN n).map f)[j]? =Z v):v=f j/\j<n:=by grind
def zZ (φ:PM) (O:Nat->Prop) (w:World) (c:BC) (f:Nat->M Value):Prop:=∀j x,c.get j=Z x->x.isCell=J/\∃v,f j=Z v/\co φ O w x v
def Zk {c:BC} (z:c.sub? i j b=Z y) {f:Nat->M Value} (hc:zZ V O w c f):
 ∃cs:ξ,l! cs=j/\(∀(sz:Nat) v,cs[sz]? =Z v->f (i+sz)=Z v)/\(b=aa->j=1)/\co V O w y (if b then .agg cs.toArray else cs.getD 0 undef):=by
 cases b with
 |false=>
  simp[BC.sub?]at z;split at z
  .obtain⟨h0,v,h1,D⟩:=hc i y z;exact⟨[v],rfl,λsz u hu=>by cases sz with|zero=>simp at hu;subst hu;exact h1|succ sz=>simp at hu,λ_=>rfl,by simpa using D⟩
  .cases z
 |true=>
  have fin:∀(g:Nat->M AV),(∀sz,sz<j->∃x,g sz=Z x/\c.get (i+sz)=Z x)->
   ∃cs:ξ,l! cs=j/\(∀(sz:Nat) v,cs[sz]? =Z v->f (i+sz)=Z v)/\∀(sz:Nat) x v,g sz=Z x->cs[sz]? =Z v->co V O w x v:=by
   intro g L;refine ⟨(iN j).map λsz=>(f (i+sz)).getD undef,by simp,λsz v hv=>?_,λsz x v N hv=>?_⟩
   .obtain⟨rfl,A⟩:=zG _ _ _ _ hv;let⟨x,_,D⟩:=L sz A;let⟨_,v,h3,_⟩:=hc _ _ D;rw[h3];rfl
   .obtain⟨rfl,A⟩:=zG _ _ _ _ hv;let⟨x',h1,D⟩:=L sz A;rw[N]at h1;cases h1;let⟨_,v,h3,h4⟩:=hc _ _ D;rw[h3];exact h4
  simp only[BC.sub?]at z;split at z
  .rename_i l;split at z
   .rename_i hle;simp[af]at z;subst z;let⟨hl,L⟩:=Zl (aV hle) (rfl:(l.drop i).take j=_);let⟨cs,h1,D,h3⟩:=fin (λsz=>(((l.drop i).take j)[sz]?).map AV.f) (λsz A=>by
     have hlt:sz<l! ((l.drop i).take j):=by omega
     refine ⟨.f ((l.drop i).take j)[sz],by simp[aE hlt,bn],?_⟩;simp[BC.get,L sz _ (aE hlt),bn])
    refine ⟨cs,h1,D,nofun,.f (.agg _ _ (by omega) ?_ ?_)⟩
    .intro x N;let⟨sz,A⟩:=fY N;exact (hc (i+sz) (.f x) (by simp[BC.get,L sz x A,bn])).1
    .intro sz x v N hv;have:=h3 sz (.f x) v (by grind) hv;cases this with
     |f h=>exact h
   .cases z
  .rename_i l;split at z
   .rename_i hle;simp[af]at z;subst z;let⟨hl,L⟩:=Zl (aV hle) (rfl:(l.drop i).take j=_);let⟨cs,h1,D,h3⟩:=fin (λsz=>(((l.drop i).take j)[sz]?)) (λsz A=>by
     have hlt:sz<l! ((l.drop i).take j):=by omega
     exact⟨_,aE hlt,L sz _ (aE hlt)⟩)
    refine ⟨cs,h1,D,nofun,.agg (by omega) ?_ ?_⟩
    .intro x N;let⟨sz,A⟩:=fY N;exact (hc (i+sz) x (L sz x A)).1
    .omega
   .cases z
  .cases z
variable {s:TypeId}
def QY (N:fE P s=Z i) (ha:F8 P s=Z b) (w:World) (z off:Nat) (cs:ξ) (A:l! cs=i) (D:∀(j:Nat) v,cs[j]? =Z v->w.cell? ⟨z,off+j,U⟩=Z v) (h1:b=aa->i=1):
 (loadVar s ⟨z,off,U⟩).run P w= .ok (if b then .agg cs.toArray else cs.getD 0 undef) w:=by
 unfold loadVar;simp[fk,Tr ha w,cR];cases b with
 |true=>
  simp[bh,fk,gq N w,cR];rw[<- A,run_loadCells_list (P:=P) w ⟨z,off,U⟩ cs (λj v L=>by rw[kK];exact D j v L)];rfl
 |false=>
  have h1:=h1 rfl;cases cs with
  |nil=>simp at A;omega
  |cons v r=>
   have:=D 0 v rfl;simp_all
def Lg {φ:PM} {z:Bool} (D:fE P s=Z i) (ha:F8 P s=Z z) {c:BC} {b base:Nat} (A:c.sub? j i z=Z y)
 (N:zZ φ O w c λoff=>w.cell? ⟨b,base+off,U⟩):∃v,(loadVar s ⟨b,base+j,U⟩).run P w= .ok v w/\co φ O w y v:=by
 let⟨cs,h1,h2,h3,h4⟩:=Zk A N;exact⟨_,QY D ha w b (base+j) cs h1 (λoff v L=>by rw[qH];exact h2 off v L) h3,h4⟩
def Wb (hrep:sh V O A w) (L:A i=Z S) (h':V i=Z j) (D:S.c.isCells=J):zZ V (tot O V A) w S.c λk=>w.cell? ⟨j,0+k,U⟩:=by
 let⟨k',h1,_,h2⟩:=hrep.at_ i S L;rw[h']at h1;cases h1;let⟨arr,h3,h4,N⟩:=h2.cells D;intro k x z;let⟨c1,v,c2,c3⟩:=N k x z;exact⟨c1,v,by simp[Qz,h3,c2],c3⟩
def YW {cells:Y FV} {D:Nat->Value} (hcl:∀x∈cells,x.isCell=J) (L:∀base,base<l! cells->w.cell? ⟨i,j+base,U⟩=Z (D base)) (N:∀(base:Nat) x,cells[base]? =Z x->mO O w x (D base)):
 zZ V O w (.fz cells) λbase=>w.cell? ⟨i,j+base,U⟩:=by
 intro base y z;simp only[BC.get]at z;cases A:cells[base]? with
 |none=>rw[A]at z;cases z
 |some q=>
  rw[A]at z;simp at z;subst z;have hj:base<l! cells:=(bB.1 A).1;exact⟨hcl q (aY A),D base,L base hj,.f (N base q A)⟩
def S_ {c:BC} (h:c.sub? i j b=Z y):c.isCells=J:=by
 cases c with
 |fz|mx=>rfl
 |_=>cases b<;>simp[BC.sub?,BC.get]at h<;>(try split at h)<;>cases h
def Wj (hs:fE P s=Z i) (hag:F8 P s=Z b) (z:xc h i b y=Z R):
 R.wr=[]/\R.nw=[]/\R.N=[]/\∀(φ:PM) (E:Nat->Prop) (h':HF) (w:World) (D:Value),(∀sz∈R.rd,h' sz=h.get sz)->sh φ E h' w->co φ (tot E φ h') w y D->
  ∃ad v,D= .pointer (Z ad)/\(loadVar s ad).run P w= .ok v w/\co φ (tot E φ h') w R.val v:=by
 unfold xc at z;split at z
 .rename_i id off;split at z
  .rename_i ag hb;split at z
   .rename_i v L;simp[af]at z;subst z;refine ⟨rfl,rfl,rfl,λφ E h' w D hrd hrep A=>?_⟩;have hh:h' id=Z ag:=by grind
    cases A with
    |@H _ _ k hφ=>
     let⟨u,h1,h2⟩:=Lg hs hag (w:=w) (b:=k) (base:=0) L (Wb hrep hh hφ (S_ L))
     grind
   .cases z
  .cases z
 .rename_i cells off;split at z
  .rename_i v L;rw[dl z];refine ⟨rfl,rfl,rfl,λφ E h' w D hrd hrep A=>?_⟩;cases A with
   |f A=>
    cases A with
    |H _ _ ag base us hO hb hcl hu A=>
     let⟨u,h1,h2⟩:=Lg (φ:=φ) (O:=tot E φ h') hs hag (w:=w) (b:=ag) (base:=base) L (YW hcl hu A);exact⟨_,u,rfl,h1,h2⟩
  .cases z
 .cases z
def aq1 (A:o.op= .load s c) (hs:fE P s=Z i) (hag:F8 P s=Z b) (z:dx (.load i b c) e h nx=Z R):fZ P o e.get h.get R.eff:=by
 simp[dx]at z;split at z
 .rename_i p L;let⟨h1,h2,h3,h4⟩:=Wj hs hag z;let⟨val,rd,wr,nw,N⟩:=R;subst h1 h3;refine fZ.reads λφ E h' w a hrd hp hrep=>?_
  let⟨ad,v,h5,h6,h7⟩:=h4 φ E h' w _ hrd hrep (hp c _ (by rw[A];simp[Op.operands]) L);refine ⟨v,?_,h7⟩;unfold execOp;rw[A];simp[Instr.loadAt,h5,Instr.sureAddr,h6]
 .cases z
variable {N:ξ}
def ZB {φ:PM} (D:fE P s=Z i) (hag:F8 P s=Z b) {c:BC} (A:c.sub? j i b=Z y) 
 (L:zZ φ O w c λoff=>N[off]?):∃v,(part s N.toArray j).run P w= .ok v w/\co φ O w y v:=by
 let⟨cs,h1,h2,h3,vs⟩:=Zk A L;refine ⟨_,?_,vs⟩;unfold part;simp only[fk,Tr hag w,cR];cases b with
 |true=>
  simp only[bh,fk,gq D w,cR];have:N.toArray.extract j (j+i)=cs.toArray:=by
   apply Array.ext';apply B9
   grind
  rw[this];rfl
 |false=>
  have h5:=h3 rfl;cases cs with
  |nil=>simp at h1;omega
  |cons v r=>
   have:=h2 0 v rfl;simp_all
variable {B:Y AV}
def Wc (L:l! N=l! B) (hcl:∀x∈B,x.isCell=J) (D:∀(j:Nat) x v,B[j]? =Z x->N[j]? =Z v->co V O w x v):zZ V O w (.mx B) λj=>N[j]? :=by
 intro j x z;simp[BC.get]at z;have A:j<l! N:=by grind
 exact⟨hcl x (aY z),N[j],aE A,D j x _ z (aE A)⟩
def Sj {l:Y FV} (vs:l! N=l! l) (hcl:∀x∈l,x.isCell=J) (L:∀(j:Nat) x v,l[j]? =Z x->N[j]? =Z v->mO O w x v):zZ V O w (.fz l) λj=>N[j]? :=by
 intro j x z;simp only[BC.get]at z;cases A:l[j]? with
 |none=>rw[A]at z;cases z
 |some q=>
  rw[A]at z;simp at z;subst z;have D:j<l! N:=by grind
  exact⟨hcl q (aY A),N[j],aE D,.f (L j q _ A (aE D))⟩
def Nh (hs:fE P s=Z i) (hag:F8 P s=Z b) (A:co V O w y v) {val:AV}
 (D:(∃l,y= .agg l/\(BC.mx l).sub? j i b=Z val)\/(∃l,y= .f (.agg l)/\(BC.fz l).sub? j i b=Z val)):∃cs z,v= .agg cs/\(part s cs j).run P w= .ok z w/\co V O w val z:=by
 rcases D with ⟨l,rfl,D⟩|⟨l,rfl,D⟩
 .cases A with
  |agg L hcl A=>
   let⟨z,h1,N⟩:=ZB hs hag D (Wc L hcl A);exact⟨_,z,rfl,h1,N⟩
 .cases A with
  |f A=>
   cases A with
   |agg _ vs L hcl A=>
    let⟨z,h1,N⟩:=ZB (φ:=V) hs hag D (Sj L hcl A);exact⟨_,z,rfl,h1,N⟩
variable {K:Array Field}
def atr {f:Field} (A:o.op= .field s c i) (hu:P.underlying s=Z (.struct K)) (hf:K[i]? =Z f) (hs:fE P f.type=Z j) (hag:F8 P f.type=Z b) (ha:dx (.fld f.offset j b c) e h nx=Z R):fZ P o e.get h.get R.eff:=by
 have fin:∀(y:AV) (val:AV),lS e c=Z y->((∃l,y= .agg l/\(BC.mx l).sub? f.offset j b=Z val)\/(∃l,y= .f (.agg l)/\(BC.fz l).sub? f.offset j b=Z val))->rv val=Z R->fZ P o e.get h.get R.eff:=by
  intro y val L N hR;rw[dl hR];refine fZ.reads λφ E h' w a _ hp _=>?_
  let⟨cs,v,h1,h2,h3⟩:=Nh hs hag (hp c _ (by rw[A];simp[Op.operands]) L) N;refine ⟨v,?_,h3⟩;unfold execOp;rw[A];simp[Instr.field,run_underlying hu,hf,h1,asAgg,h2]
 simp[dx]at ha
 grind
def atp {L:TypeId} {y:Operand} (D:o.op= .index s c y) (hu:P.underlying s=Z (.array i L)) (N:fE P L=Z j) (hag:F8 P L=Z b) (z:dx (.idx i j b c y) e h nx=Z R):fZ P o e.get h.get R.eff:=by
 simp[dx]at z;split at z
 .rename_i v0 k sz hx hy;split at z
  .rename_i hc;simp[dm,fK,al,bU]at hc;let⟨h0,h1⟩:=hc;have fin:∀(val:AV),((∃l,v0= .agg l/\(BC.mx l).sub? (sz.toNat*j) j b=Z val)\/(∃l,v0= .f (.agg l)/\(BC.fz l).sub? (sz.toNat*j) j b=Z val))->rv val=Z R->fZ P o e.get h.get R.eff:=by
    intro val hv hR;rw[dl hR];refine fZ.reads λφ E h' w a _ hp _=>?_
    have hyv:=eX (hp y _ (by rw[D];simp[Op.operands]) hy);let⟨cs,v,h3,h4,h5⟩:=Nh N hag (hp c _ (by rw[D];simp[Op.operands]) hx) hv;refine ⟨v,?_,h5⟩;have h6:=gq N w;unfold execOp;rw[D];simp[Instr.index,run_underlying hu,hyv,asIntOf,h3,h0,h1,h6,h4]
   grind
  .cases z
 .cases z
def aq4 {el:TypeId} (ho:o.op= .call {callee:=.builtin .len,args:=#[c],argTypes:=#[s]}) (hu:P.underlying s=Z (.slice el)) (L:dx (.len c) e h nx=Z R):fZ P o e.get h.get R.eff:=by
 simp[dx]at L;split at L
 .rename_i y hx;split at L
  .rename_i n N;rw[dl L];refine fZ.reads λφ E h' w a _ hp _=>?_
   have D:=hp c _ (by rw[ho];simp[Op.operands,dC]) hx;refine ⟨_,?_,.f (.raw _)⟩;have hz:∃A x,a.eval c= .slice A n x:=by
    generalize a.eval c=z at D;unfold AV.slen at N;split at N<;>try (simp [af]at N;subst N)
    .cases D with
     |f D=>cases D with
      |nil|sl=>exact⟨_,_,rfl⟩
    .cases eX D;exact⟨_,_,rfl⟩
    .cases D;exact⟨_,_,rfl⟩
    .cases D;exact⟨_,_,rfl⟩
    .cases D;exact⟨_,_,rfl⟩
    .cases N
   let⟨A,x,hz⟩:=hz;unfold execOp;rw[ho];simp[resolve,invoke,builtin,Builtin.len_,run_underlying hu,hz,goInt]
  .cases L
 .cases L
def aq3 (A:o.op= .call {callee:=.builtin .len,args:=#[c],argTypes:=#[s]}) (L:P.underlying s=Z .string) (z:dx (.lens c) e h nx=Z R):fZ P o e.get h.get R.eff:=by
 simp[dx]at z;split at z
 .rename_i t D;rw[dl z];refine fZ.reads λφ E h' w a _ hp _=>?_
  have N:=eX (hp c _ (by rw[A];simp[Op.operands,dC]) D);refine ⟨_,?_,.f (.raw _)⟩;unfold execOp;rw[A];simp[resolve,invoke,builtin,Builtin.len_,run_underlying L,N,goInt]
 .cases z
def aq2 {k v:TypeId} (L:o.op= .call {callee:=.builtin .len,args:=#[c],argTypes:=#[s]}) (hu:P.underlying s=Z (.map k v)) (A:dx (.jw c) e h nx=Z R):fZ P o e.get h.get R.eff:=by
 simp[dx]at A;split at A
 .rename_i id hx;split at A
  .rename_i es hid;simp[af]at A;subst A;refine fZ.reads λφ E h' w a hrd hp hrep=>?_
   have D:=hp c _ (by rw[L];simp[Op.operands,dC]) hx;have hh:h' id=Z ⟨0,.mp es⟩:=by grind
   generalize N:a.eval c=z at D;cases D with
   |@mp _ b hφ=>
    let⟨b',h1,_,ob,h2,h3⟩:=hrep.at_ id _ hh;rw[hφ]at h1;cases h1;obtain⟨ents,clock,rfl,h4,_⟩:=h3;have h5:ents.size=l! es:=by have:=eW ah h4;simpa using this
    refine ⟨_,?_,.f (.raw _)⟩;unfold execOp;rw[L];simp[resolve,invoke,builtin,Builtin.len_,run_underlying hu,N,goInt,getObj,io,h2,h5]
  .cases A
 .cases A
end
structure HH (w w':World) (k:Nat) (ob:Obj):Prop where
 os:w'.os=w.os
 tape:w'.tape=w.tape
 output:w'.output=w.output
 size:w'.heap.size=w.heap.size
 at_:w'.heap[k]? =Z ob
 other:∀j,j≠k->w'.heap[j]? =w.heap[j]?
 jh:∀j,w'.shape? j=w.shape? j
structure Wt (w w':World) (ob:Obj):Prop where
 os:w'.os=w.os
 tape:w'.tape=w.tape
 output:w'.output=w.output
 size:w'.heap.size=w.heap.size+1
 at_:w'.heap[w.heap.size]? =Z ob
 other:∀j,j<w.heap.size->w'.heap[j]? =w.heap[j]?
def sh.wset {w':World} (r:sh V O A w) {id:Nat} {b':kl} {ob:Obj} (hb:A id=Z S) (L:V id=Z i) (h:HH w w' i ob) (hob:gR V (tot O V A) w b' ob) (D:HF) (hnw:D id=Z b'):
 jT V V A (eZ A [id] D) w w'/\sh V O (eZ A [id] D) w':=by
 have hdom:∀k,(∃x,eZ A [id] D k=Z x)↔∃x,A k=Z x:=λk=>by
  unfold eZ
  grind
 have hown:∀j,own V (eZ A [id] D) j↔own V A j:=λj=>by
  constructor
  .rintro⟨k,x,h1,z⟩;let⟨y,hy⟩:=(hdom k).1 ⟨x,h1⟩;exact⟨k,y,hy,z⟩
  .rintro⟨k,x,h1,z⟩;let⟨y,hy⟩:=(hdom k).2 ⟨x,h1⟩;exact⟨k,y,hy,z⟩
 have m:jT V V A (eZ A [id] D) w w':=by
  refine ⟨λ_ _ A=>A,⟨h.os,h.tape,h.output,by rw[h.size];exact bO _,λj hj ho=>?_,λj _=>h.jh j⟩,λj _ A=>(hown j).1 A⟩;exact h.other j (λe=>ho (e▸⟨id,S,hb,L⟩))
 refine ⟨m,⟨λk j x y kk hi hj h1 z=>?_,λk x hi=>?_,λi L=>dw (r.el i L) m.ext.size,λg cells hg=>m.keepF (r.gl g cells hg)⟩⟩
 .obtain⟨x',hx'⟩:=(hdom k).1 ⟨x,hi⟩;let⟨y',hy'⟩:=(hdom j).1 ⟨y,hj⟩;exact r.inj k j x' y' kk hx' hy' h1 z
 .by_cases hid:k=id
  .subst hid;have:x=b':=by unfold eZ at hi;simp[hnw]at hi;exact hi.symm
   subst this;let⟨N,h1,z,_⟩:=r.at_ k S hb;rw[L]at h1;cases h1;exact⟨i,L,z,ob,h.at_,hob.mono λ_ _ A=>m.zq A⟩
  .have hx:A k=Z x:=by unfold eZ at hi;simpa[hid] using hi
   let⟨N,h1,z,ob',h3,h4⟩:=r.at_ k x hx;have hne:N≠i:=λe=>hid (r.inj k id x S i hx hb (e▸h1) L)
   exact⟨N,h1,z,ob',by rw[h.other N hne];exact h3,h4.mono λ_ _ A=>m.zq A⟩
def sh.wnew {w':World} (r:sh V O A w) {id:Nat} (hid:V id=U) {b:kl} {ob:Obj} (h:Wt w w' ob) (hob:gR V (tot O V A) w b ob) (del:ι) (L:HF) (hnw:L id=Z b) (hdel:∀i∈del,i≠id->L i=U):
 ∃φ',φ' id=Z w.heap.size/\jT V φ' A (eZ A (id::del) L) w w'/\(∀i k,φ' i=Z k->V i=Z k\/i∈[id])/\sh φ' O (eZ A (id::del) L) w':=by
 have hsub:∀i x,eZ A (id::del) L i=Z x->i≠id->A i=Z x/\i∉del:=λi x hx hi=>by
  unfold eZ at hx
  grind
 have hlt:∀i x k,A i=Z x->V i=Z k->k<w.heap.size:=λi x k hi hk=>by
  let⟨k',h1,_,ob',h3,_⟩:=r.at_ i x hi
  grind
 have hφ:∀i,i≠id->(if i=id then Z w.heap.size else V i)=V i:=λi hi=>by simp[hi]
 have m:jT V (λi=>if i=id then Z w.heap.size else V i) A (eZ A (id::del) L) w w':=by
  refine ⟨λi k hk=>?_,⟨h.os,h.tape,h.output,by rw[h.size];omega,λj N _=>h.other j N,λj N=>?_⟩,?_⟩
  .grind
  .unfold s_;rw[h.other j N]
  .rintro j N ⟨i,x,h1,D⟩;by_cases hi:i=id
   .simp[hi]at D;omega
   .have h3:V i=Z j:=by simpa[hi] using D
    exact⟨i,x,(hsub i x h1 hi).1,h3⟩
 refine ⟨_,by simp,m,λi k hk=>?_,⟨λi j x y k hi N h1 D=>?_,λi x hi=>?_,λk hk=>dw (r.el k hk) m.ext.size,λg cells hg=>m.keepF (r.gl g cells hg)⟩⟩
 .grind
 .by_cases z:i=id
  .grind
  .rw[hφ i z]at h1;have hix:=(hsub i x hi z).1;by_cases hj':j=id
   .grind
   .rw[hφ j hj']at D;exact r.inj i j x y k hix (hsub j y N hj').1 h1 D
 .by_cases z:i=id
  .subst z;have:x=b:=by unfold eZ at hi;simp[hnw]at hi;exact hi.symm
   subst this;refine ⟨w.heap.size,by simp,λhe=>?_,ob,h.at_,hob.mono λ_ _ A=>m.zq A⟩;have:=r.el _ he;omega
  .obtain⟨k,h1,D,ob',h3,h4⟩:=r.at_ i x (hsub i x hi z).1;refine ⟨k,by rw[hφ i z];exact h1,D,ob',?_,h4.mono λ_ _ A=>m.zq A⟩;rw[h.other k (hlt i x k (hsub i x hi z).1 h1)];exact h3
def sK (w:World) (ob:Obj):Wt w {w with heap:=w.heap.push ob} ob:=by
 refine ⟨rfl,rfl,rfl,by simp,by simp,λj z=>?_⟩
 grind
def Wt.drawn {w':World} {ob:Obj} (d:Nat) (h:Wt {w with drawn:=d} w' ob):Wt w w' ob:=⟨h.os,h.tape,h.output,h.size,h.at_,h.other⟩
def fZ.makes {o:Oper} {e:DE} {rd:ι} 
 (N:∀(φ:PM) (E:Nat->Prop) (h':HF) (w:World) (a:Act),(∀nx∈rd,h' nx=A nx)->W_ φ E h' w a e o->sh φ E h' w->
   ∃v w' ob,(execOp a.eval o).run P w= .ok (.value v) w'/\Wt w w' ob/\gR φ (tot E φ h') w S ob/\∀φ' O,φ' i=Z w.heap.size->co φ' O w' y v):
 fZ P o e.get A ⟨y,rd,[i],jK [(i,S)],[i]⟩:=by
 intro φ E h' w a h1 h2 h3 z h5;let⟨v,w',ob,hrun,L,hob,hval⟩:=N φ E h' w a h1 (λx val D h=>uV z h3 D h) z;let⟨φ',g1,g2,g3,g4⟩:=z.wnew (id:=i) (h5 i (by simp)) L hob [] (jK [(i,S)]) (by simp[jK]) (by simp);unfold Oper.wp;rw[hrun];exact⟨v,φ',rfl,g2,g3,g4,hval φ' _ g1⟩
def fZ.writes {o:Oper} {e:DE} {rd:ι} {b':kl} (hb:A i=Z S)
 (hv:∀(φ:PM) (E:Nat->Prop) (h':HF) (w:World) (a:Act),(∀id∈rd,h' id=A id)->h' i=Z S->W_ φ E h' w a e o->sh φ E h' w->
   ∃r w' k ob,(execOp a.eval o).run P w= .ok r w'/\φ i=Z k/\HH w w' k ob/\gR φ (tot E φ h') w b' ob/\(∃v,(r= .value v\/r= .skip/\v=undef)/\co φ (tot E φ (eZ h' [i] (jK [(i,b')]))) w' y v)):
 fZ P o e.get A ⟨y,rd,[i],jK [(i,b')],[]⟩:=by
 intro φ E h' w a h1 h2 h3 z h5;let⟨r,w',k,ob,hrun,hk,hw,hob,v,hr,hval⟩:=hv φ E h' w a h1 (by grind) (λx val N L=>uV z h3 N L) z;let⟨D,h⟩:=z.wset (id:=i) (by rw[h2 i (by simp)];exact hb) hk hw hob (jK [(i,b')]) (by simp[jK]);unfold Oper.wp;rw[hrun];rcases hr with rfl|⟨rfl,rfl⟩
 .exact⟨v,φ,rfl,D,λ_ _ A=>.inl A,h,hval⟩
 .exact⟨undef,φ,rfl,D,λ_ _ A=>.inl A,h,hval⟩
variable {B:Y AV}
def mM (h:gp B=J):∀x∈B,x.isCell=J:=by
 induction B with
 |nil=>intro x z;cases z
 |cons y B A=>
  simp[gp,al]at h
  grind
def nE:∀{l:Y AV} {z:Y FV},yG l=Z z->l=z.map .f
 |[],z,h=>by simp[yG,af]at h;subst h;rfl
 |.f x::r,z,h=>by
  simp[yG]at h;split at h
  next l A=>simp[af]at h;subst h;rw[nE A];rfl
  .cases h
 |.H _ _::_,_,h|.sl _ _ _::_,_,h|.G _ _ _::_,_,h|.mp _::_,_,h|.emp::_,_,h|.agg _::_,_,h|.qg _::_,_,h|.qv _ _::_,_,h=>by simp[yG]at h
def Cs (φ:PM) (O:Nat->Prop) (w:World) (l:Y AV) (vs:ξ):Prop:=l! vs=l! l/\(∀x∈l,x.isCell=J)/\∀(j:Nat) x v,l[j]? =Z x->vs[j]? =Z v->co φ O w x v
def BC.get_toMx {c:BC} (z:c.isCells=J) (j:Nat):c.get j=c.toMx[j]? :=by
 cases c with
 |fz l=>simp[BC.get,BC.toMx]
 |mx l=>rfl
 |_=>cases z
def BC.len_toMx {c:BC} (z:c.isCells=J):c.len=l! c.toMx:=by
 cases c with
 |fz l=>simp[BC.len,BC.toMx]
 |mx l=>rfl
 |_=>cases z
def nA (l:Y AV):(nW l).toMx=l/\(nW l).isCells=J:=by
 unfold nW;cases h:yG l with
 |none=>exact⟨rfl,rfl⟩
 |some z=>exact⟨(nE h).symm,rfl⟩
variable {s:TypeId}
def ry {c:BC} (z:c.isCells=J) {arr:Array Value} (N:l! c.toMx<=arr.size)
 (h:∀(j:Nat) x,c.toMx[j]? =Z x->x.isCell=J/\∃v,arr[j]? =Z v/\co V O w x v):gR V O w ⟨s,c⟩ (.cells arr s (0,0)):=by
 have D:u_ V O w c arr:=⟨by rw[BC.len_toMx z];exact N,λj x L=>h j x (by rw[<- BC.get_toMx z];exact L)⟩
 cases A:c with
 |fz l|mx l=>rw[A]at D;exact⟨arr,rfl,D⟩
 |_=>rw[A]at z;cases z
variable {N:ξ}
def KZ {ty:TypeId} (h:Cs V O w B N):gR V O w ⟨ty,nW B⟩ (.cells N.toArray ty (0,0)):=by
 let⟨h1,D⟩:=nA B;refine ry D (by rw[h1];simp[h.1]) λj x z=>?_
 rw[h1]at z;have A:j<l! N:=by rw[h.1];exact (bB.1 z).1
 exact⟨h.2.1 x (aY z),N[j],by simp[A],h.2.2 j x _ z (aE A)⟩
def Yp (h:co V O w y v) (A:gp y.cs=J):Cs V O w y.cs v.cells.toList:=by
 have one:y.cs=[y]->v.cells=#[v]->Cs V O w y.cs v.cells.toList:=λh1 h2=>by
  rw[h1]at A ⊢;rw[h2];exact⟨rfl,mM A,λj x u z D=>by cases j with|zero=>simp at z D;subst z D;exact h|succ j=>simp at z⟩
 cases h with
 |qm _|qg _ _=>exact b8 A (by simp[AV.cs,gp,AV.isCell])
 |@agg l vs hl hcl L=>exact⟨hl,hcl,L⟩
 |@f x u hf=>
  cases hf with
  |raw v=>
   have hv:v.oneCell'=J:=by
    have:(AV.f (.raw v)).cs=[.f (.raw v)]:=rfl;rw[this]at A;simpa[gp,AV.isCell,FV.isCell] using A
   refine one rfl ?_;cases v<;>first|rfl|simp[Value.oneCell']at hv
  |agg l vs hl hcl L=>
   refine ⟨by simp[AV.cs,Value.cells,hl],mM A,λj x u z D=>?_⟩;simp only[AV.cs,bz]at z;cases N:l[j]? with
   |none=>rw[N]at z;cases z
   |some q=>rw[N]at z;simp at z;subst z;exact .f (L j q u N (by simpa[Value.cells] using D))
  |_=>exact one rfl rfl
 |_=>exact one rfl rfl
def mO.one {x:FV} (h:mO O w x v) (z:x.isCell=J):v.oneCell'=J:=by
 cases h with
 |raw v=>exact z
 |agg=>cases z
 |_=>rfl
def co.one (h:co V O w y v) (z:y.isCell=J):v.oneCell'=J:=by
 cases h with
 |f h=>exact h.one z
 |qm|agg|qg=>cases z
 |_=>rfl
def Cs.one (h:Cs V O w B N):∀v∈N,v.oneCell'=J:=by
 intro v A;let⟨j,z⟩:=fY A;have hlt:j<l! B:=by rw[<- h.1];exact (bB.1 z).1
 exact (h.2.2 j _ v (aE hlt) z).one (h.2.1 _ (List.getElem_mem hlt))
def Cs.append {l':Y AV} {vs':ξ} (h:Cs V O w B N) (h':Cs V O w l' vs'):Cs V O w (B++l') (N++vs'):=by
 refine ⟨by simp[h.1,h'.1],λx z=>(bA.1 z).elim (h.2.1 x) (h'.2.1 x),λj x v z D=>?_⟩;rcases bG j (l! B) with A|A
 .rw[bC A]at z;rw[bC (by rw[h.1];exact A)]at D;exact h.2.2 j x v z D
 .rw[bS A]at z;rw[bS (by rw[h.1];exact A),h.1]at D;exact h'.2.2 _ x v z D
def Cs.take (h:Cs V O w B N) (n:Nat):Cs V O w (B.take n) (N.take n):=by
 refine ⟨by simp[h.1],λx z=>h.2.1 x (jU z),λj x v z A=>?_⟩;rw[eL]at z A;split at z
 next D=>rw[aD D]at A;exact h.2.2 j x v z A
 .cases z
def Cs.drop (h:Cs V O w B N) (n:Nat):Cs V O w (B.drop n) (N.drop n):=by
 refine ⟨by simp[h.1],λx z=>h.2.1 x (List.mem_of_mem_drop z),λj x v z A=>?_⟩;rw[oO]at z A;exact h.2.2 _ x v z A
def Cs.splice {l':Y AV} {vs':ξ} (h:Cs V O w B N) (h':Cs V O w l' vs') (off:Nat):Cs V O w (splice B off l') (splice N off vs'):=by
 unfold AI.splice;rw[h'.1];exact ((h.take off).append h').append (h.drop _)
def Cs.raws {φ:PM} (z:ξ) (L:nV z=J):Cs φ O w (z.map raw) z:=by
 refine ⟨by simp,λx A=>?_,λj x v A D=>?_⟩
 .obtain⟨v,D,rfl⟩:=cj.1 A;exact iv.1 L v D
 .rw[bz]at A;rw[D]at A;simp at A;subst A;exact .f (.raw v)
def Cs.mono {φ':PM} {O':Nat->Prop} {w':World} (h:Cs V O w B N) (D:∀x v,co V O w x v->co φ' O' w' x v):Cs φ' O' w' B N:=⟨h.1,h.2.1,λj x v z A=>D _ _ (h.2.2 j x v z A)⟩
def HH.setRow {arr arr':Array Value} (A:w.heap[i]? =Z (.cells arr s (0,0))) (D:arr'.size=arr.size):HH w (w.setRow i arr') i (.cells arr' s (0,0)):=by
 refine ⟨rfl,rfl,rfl,by simp,setRow_heap w i arr arr' s (0,0) A,λj z=>setRow_other w i j arr' z,λj=>?_⟩;unfold s_;by_cases z:j=i
 .subst z;rw[setRow_heap w j arr arr' s (0,0) A,A];simp[D]
 .rw[setRow_other w i j arr' z]
section
variable {P:Program} {o:Oper} {e:DE} {h:mQ} {nx:Nat} {R:Cu}
def vb (A:uz P s=Z N) (w:World):∃v,(zeroValue s).run P w= .ok v w/\v.cells.toList=N/\∃i,P.info? s=Z i/\i.zero=Z v:=by
 unfold uz at A;cases hi:P.info? s with
 |none=>rw[hi]at A;cases A
 |some i=>
  rw[hi]at A;simp only[aC]at A;cases D:i.zero with
  |none=>rw[D]at A;cases A
  |some v=>
   rw[D]at A;simp[bn,af]at A;exact⟨v,by simp[zeroValue,typeInfo,hi,D],A,i,rfl,D⟩
def am8 (ho:o.op= .alloc s) (z:uz P s=Z N) (hc:nV N=J) (L:dx (.alloc s N) e h nx=Z R):fZ P o e.get h.get R.eff:=by
 simp[dx,af]at L;subst L;refine fZ.makes λφ E h' w a _ _ _=>?_
 let⟨v,h1,h2,_⟩:=vb z w;refine ⟨.pointer (Z ⟨w.heap.size,0,U⟩),{w with heap:=w.heap.push (.cells v.cells s)},.cells v.cells s (0,0),?_,sK w _,?_,λφ' O hφ=>.H hφ⟩
 .unfold execOp;rw[ho];simp[Instr.alloc,h1,newVar,newRow,newObj,io]
 .have A:BC.toMx (.fz (N.map .raw))=N.map raw:=by simp[BC.toMx,raw]
  refine ry rfl (by grind) λj x D=>?_
  rw[A]at D;have cs:=Cs.raws (φ:=φ) (O:=tot E φ h') (w:=w) N hc;have hj:j<l! N:=by grind
  refine ⟨cs.2.1 x (aY D),N[j],?_,cs.2.2 j x _ D (aE hj)⟩
  grind
def atx (A:o.op= .box s c) (z:dx (.box s c) e h nx=Z R):fZ P o e.get h.get R.eff:=by
 simp[dx]at z;split at z
 .rename_i v D;split at z
  .rename_i N;simp[af]at z;subst z;refine fZ.makes λφ E h' w a _ hp _=>?_
   have L:=Yp (hp c _ (by rw[A];simp[Op.operands]) D) N;refine ⟨.pointer (Z ⟨w.heap.size,0,U⟩),{w with heap:=w.heap.push (.cells (a.eval c).cells s)},.cells (a.eval c).cells s (0,0),?_,sK w _,?_,λφ' O hφ=>.H hφ⟩
   .unfold execOp;rw[A];simp[Instr.box,newVar,newRow,newObj,io]
   .have:=KZ (ty:=s) L;simpa using this
  .cases z
 .cases z
def nY {α:Type} {l vs:Y α} {off:Nat} (hle:off+l! vs<=l! l) (j:Nat):(splice l off vs)[j]? =if j<off then l[j]? else if j<off+l! vs then vs[j-off]? else l[j]? :=by
 unfold splice
 grind
def ng {α:Type} {l vs:Y α} (hle:i+l! vs<=l! l):l! (splice l i vs)=l! l:=by
 unfold splice;simp;omega
def UV (off:Nat):∀(vs:ξ) (k:Nat) (arr:Array Value),off+k+l! vs<=arr.size->∀j:Nat,
 ((vs.zipIdx k).foldl (λcs (p:Value×Nat)=>cs.setIfInBounds (off+p.2) p.1) arr)[j]? =if j<off+k then arr[j]? else if j<off+k+l! vs then vs[j-(off+k)]? else arr[j]?
 |[],k,arr,_,j=>by simp_all
 |v::vs,k,arr,hle,j=>by
  rw[List.zipIdx_cons,ue,UV off vs (k+1) _ (by grind) j]
  grind
def UU (off:Nat) (c:Array Value) (l:ξ) (hle:off+c.size<=l! l):(c.zipIdx.foldl (λcs (p:Value×Nat)=>cs.setIfInBounds (off+p.2) p.1) l.toArray)=(splice l off c.toList).toArray:=by
 rw[<- Array.foldl_toList,Array.toList_zipIdx];apply Array.ext_getElem?;intro j;rw[UV off c.toList 0 l.toArray (by omega) j];simp only[cW,List.getElem?_toArray];rw[nY (by omega)]
def RJ (hp:W_ V O A w Q e o) {place:Nat->M o!}:∀(z:Y F?) (ps':Y m?) (cells cs:Y AV) (vs:ξ),
 (l! ps'=l! z)->(∀(j:Nat) i x,z[j]? =Z (i,x)->∃of sz,ps'[j]? =Z (of,sz,x)/\place i=Z (of,sz))->(∀p∈z,p.2∈o.op.operands)->Cs V (tot O V A) w cells vs->Bv cells e ps'=Z cs->
 ∃vs',Instr.fill place vs.toArray (z.map λp=>(p.1,Q.eval p.2))=Z vs'.toArray/\Cs V (tot O V A) w cs vs'
 |[],ps',cells,cs,vs,N,_,_,hcs,hf=>by
  cases ps' with
  |nil=>simp[Bv,af]at hf;subst hf;exact⟨vs,rfl,hcs⟩
  |cons _ _=>simp at N
 |(i,x)::z,ps',cells,cs,vs,N,hpl,hm,hcs,hf=>by
  obtain⟨of,sz,h1,h2⟩:=hpl 0 i x rfl;cases ps' with
  |nil=>simp at h1
  |cons p ps'=>
   simp at h1;subst h1;simp only[Bv]at hf;split at hf
   .rename_i v hv;split at hf
    .rename_i hc;simp only[al,cV]at hc;obtain⟨⟨hc1,D⟩,h'⟩:=hc;have L:=Yp (hp x v (hm _ (cP ..)) hv) h';have hsz:(Q.eval x).cells.size=sz:=by have:=L.1;simp at this;omega
     have hle:of+sz<=l! vs:=by rw[hcs.1];exact aV D
     obtain⟨vs',g1,g2⟩:=RJ hp z ps' _ cs _ (by grind) (λj i x hj=>by have:=hpl (j+1) i x (by grind);simpa using this) (λp hp=>hm p (bJ _ hp)) (hcs.splice L of) hf;refine ⟨vs',?_,g2⟩;simp only[bY,Instr.fill,h2];have hcd:((decide ((Q.eval x).cells.size≠sz))||decide (of+(Q.eval x).cells.size>vs.toArray.size))=aa:=by grind
     rw[av (by grind)];have:=UU of (Q.eval x).cells vs (by omega);rw[<- g1,<-this]
    .cases hf
   .cases hf
def GF :∀(z:Y F?) (ps':Y m?),yX P s z=Z ps'->l! ps'=l! z/\∀(j:Nat) i x,z[j]? =Z (i,x)->∃of sz,ps'[j]? =Z (of,sz,x)/\DP P s i=Z (of,sz)
 |[],ps',h=>by simp[yX,af]at h;subst h;exact⟨rfl,λj i x N=>by simp at N⟩
 |(i,x)::z,ps',h=>by
  simp[yX]at h;split at h
  .rename_i of sz l h1 h2;simp[af]at h;subst h;let⟨g1,g2⟩:=GF z l h2;refine ⟨by simp[g1],λj L D A=>?_⟩;cases j with
   |zero=>simp at A;obtain⟨rfl,rfl⟩:=A;exact⟨of,sz,rfl,h1⟩
   |succ j=>simpa using g2 j L D (by grind)
  .cases h
def K9 (w:World):∀(z:Y Field),(z.all λf=>(fE P f.type).isSome)=J->(z.mapM (λf=>do pure (f.offset,<-sizeOf f.type)):Sem (Y o!)).run P w= .ok (z.map λf=>(f.offset,(fE P f.type).getD 0)) w
 |[],_=>by simp
 |f::z,h=>by
  simp only[List.all_cons,al]at h;let⟨sz,A⟩:=iZ.1 h.1;have h1:=gq A w;have D:=K9 w z h.2;simp_all
def aav {L:Array F?} {ps':Y m?} (ho:o.op= .build s L) (hz:uz P s=Z N) (hc:nV N=J) (hps:yX P s L.toList=Z ps')
 (D:(∃A,P.underlying s=Z (.struct A)/\(A.toList.all λf=>(fE P f.type).isSome)=J)\/∃n el sz,P.underlying s=Z (.array n el)/\fE P el=Z sz) (ha:dx (.build N ps') e h nx=Z R):fZ P o e.get h.get R.eff:=by
 simp[dx]at ha;split at ha
 .rename_i cs hf;rw[dl ha];refine fZ.reads λφ E h' w a _ hp _=>?_
  let⟨v,h1,h2,_⟩:=vb hz w;have hcells:v.cells=N.toArray:=by rw[<- h2]
  let⟨g1,g2⟩:=GF L.toList ps' hps;have hops:∀p∈L.toList,p.2∈o.op.operands:=λp hp=>by
   rw[ho];simp only[Op.operands,List.mem_toArray,cj];exact⟨p,hp,rfl⟩
  have hmap:(L.map λx:Nat×Operand=>(x.1,a.eval x.2)).toList=L.toList.map λp=>(p.1,a.eval p.2):=by simp
  have fin:∀place:Nat->M o!,(∀i,DP P s i≠U->place i=DP P s i)->∃vs':ξ,Instr.fill place v.cells (L.map λx:Nat×Operand=>(x.1,a.eval x.2)).toList=Z vs'.toArray/\co φ (tot E φ h') w (Py cs) (.agg vs'.toArray):=by
   intro place hpl;let⟨vs',k1,k2⟩:=RJ (place:=place) hp L.toList ps' _ cs N g1 (λj i x hj=>by
    let⟨of,sz,q1,q2⟩:=g2 j i x hj;exact⟨of,sz,q1,by rw[hpl i (by grind),q2]⟩) hops (Cs.raws N hc) hf
   refine ⟨vs',by rw[hmap,hcells];exact k1,?_⟩;unfold Py;cases hfs:yG cs with
   |none=>exact .agg k2.1 k2.2.1 k2.2.2
   |some A=>
    have he:=nE hfs;refine .f (.agg A vs' (by rw[k2.1,he];simp) (λx hx=>k2.2.1 (.f x) (by grind)) λj x u hx D=>?_);have:=k2.2.2 j (.f x) u (by grind) D;cases this with
    |f h=>exact h
  rcases D with ⟨A,D,hall⟩|⟨n,el,sz,D,z⟩
  .obtain⟨vs',k1,k2⟩:=fin (λi=>(A.map λf=>(f.offset,(fE P f.type).getD 0))[i]?) (λi hi=>by
    unfold DP at hi ⊢;rw[D]at hi ⊢;simp[Array.getElem?_map]at hi ⊢;cases hf:A[i]? with
    |none=>rw[hf]at hi;simp at hi
    |some f=>
     simp[bn,aC];cases z:fE P f.type with
     |none=>rw[hf]at hi;simp[z]at hi
     |some sz=>simp)
   refine ⟨_,?_,k2⟩;have hm:=K9 w A.toList hall;have hm':(A.mapM (λf=>do pure (f.offset,<-sizeOf f.type)):Sem (Array o!)).run P w= .ok (A.map λf=>(f.offset,(fE P f.type).getD 0)) w:=by
    rw[Array.mapM_eq_mapM_toList];simp only[Sem.run_map,hm,cR];congr 1;apply Array.ext';simp
   unfold execOp;rw[ho];simp only[Instr.build,fk,h1,cR,run_underlying D,hm',wD,k1]
  .obtain⟨vs',k1,k2⟩:=fin (λi=>Z (i*sz,sz)) (λi hi=>by
    unfold DP;rw[D];simp[z])
   refine ⟨_,?_,k2⟩;have h3:=gq z w;unfold execOp;rw[ho];simp only[Instr.build,fk,h1,cR,run_underlying D,h3,wD,k1]
 .cases ha
end
section
variable {P:Program} {o:Oper} {e:DE} {h:mQ} {nx:Nat} {R:Cu}
def tZ {z:TypeId} (h:Dc P s=Z z):P.underlying s=Z (.slice z):=by
 unfold Dc at h
 grind
def n_ (z:ξ):∀n,l! (repl z n)=n*l! z
 |0=>by simp[repl]
 |n+1=>by simp[repl,n_ z n,ju];omega
def EG (z:ξ):∀(n j:Nat),j<n*l! z->(repl z n)[j]? =(z[j%l! z]?).map .raw
 |0,j,h=>by simp at h
 |n+1,j,h=>by
  have D:0<l! z:=by grind
  rw[repl];rcases bG j (l! z) with A|A
  .rw[bC (by grind),bz,wH A]
  .rw[bS (by grind),b_,EG z n (j-l! z) (by grind),Nat.mod_eq_sub_mod A]
def ab4 (D:v.cells.toList=N) (n sz:Nat) (L:l! N=sz) (hsz:sz≠0) (j:Nat) (z:j<n*sz):
 ((Gj (n*sz)).map (λi=>v.cells[i%v.cells.size]!))[j]? =N[j%sz]? :=by
 have A:v.cells.size=sz:=by grind
 have hlt:j%sz<v.cells.size:=by rw[A];exact Nat.mod_lt _ (by omega)
 grind
def Cs.repl {φ:PM} (hv:v.cells.toList=N) (n sz:Nat) (z:l! N=sz) (hsz:sz≠0) (hc:nV N=J):
 Cs φ O w ((repl N n).map .f) ((Gj (n*sz)).map (λi=>v.cells[i%v.cells.size]!)).toList:=by
 have key:∀(j:Nat) (x:AV),((AI.repl N n).map AV.f)[j]? =Z x->∃u,N[j%sz]? =Z u/\x=raw u/\j<n*sz:=by
  intro j x A;rw[bz]at A;have D:j<n*l! N:=by
   rcases bG j (n*l! N) with h|h
   .exact h
   .rw[c5 (by rw[n_];exact h)]at A;cases A
  rw[EG N n j D,z]at A;cases L:N[j%sz]? with
  |none=>rw[L]at A;cases A
  |some u=>rw[L]at A;simp at A;exact⟨u,rfl,A.symm,by rw[<- z];exact D⟩
 refine ⟨by simp[n_,z],λx A=>?_,λj x u A L=>?_⟩
 .obtain⟨j,D⟩:=fY A;obtain⟨u,h1,rfl,_⟩:=key j x D;exact iv.1 hc u (aY h1)
 .obtain⟨u',h1,rfl,D⟩:=key j x A;rw[cU,ab4 hv n sz z hsz j D,h1]at L;cases L;exact .f (.raw _)
def atw {D:TypeId} {A:Array F?} {ps':Y m?} (ho:o.op= .buildSlice s i A) (hu:P.underlying s=Z (.slice D)) (hz:uz P D=Z N) (hs:fE P D=Z j) (hc:nV N=J) (hl:l! N=j) (hsz:j≠0) (hb:i*j<=65536)
 (hps:yX P s A.toList=Z ps') (L:dx (.xz D j i N ps') e h nx=Z R):fZ P o e.get h.get R.eff:=by
 simp[dx]at L;split at L
 .rename_i cs hf;simp[af]at L;subst L;refine fZ.makes λφ E h' w a _ hp _=>?_
  let⟨v,h1,h2,_⟩:=vb hz w;let⟨g1,g2⟩:=GF A.toList ps' hps;have hops:∀p∈A.toList,p.2∈o.op.operands:=λp hp=>by
   rw[ho];simp only[Op.operands,List.mem_toArray,cj];exact⟨p,hp,rfl⟩
  have hmap:(A.map λx:Nat×Operand=>(x.1,a.eval x.2)).toList=A.toList.map λp=>(p.1,a.eval p.2):=by simp
  let⟨vs',k1,k2⟩:=RJ (place:=λn=>Z (n*j,j)) hp A.toList ps' _ cs _ g1 (λsz n x hj=>by
   let⟨of,s',q1,z⟩:=g2 sz n x hj;unfold DP at z;rw[hu]at z;simp[hs]at z;obtain⟨rfl,rfl⟩:=z;exact⟨_,_,q1,rfl⟩) hops (Cs.repl h2 i j hl hsz hc) hf
  have hcells:(Gj (i*j)).map ((if i*j=0 then #[] else v.cells)[·%(if i*j=0 then #[] else v.cells).size]!)=((Gj (i*j)).map (λn=>v.cells[n%v.cells.size]!)).toList.toArray:=by grind
  have hlen:l! vs'=i*j:=by
   have e1:=k2.1;have e2:l! cs=l! ((AI.repl N i).map AV.f):=by
    have:∀(ps':Y m?) (c0 c1:Y AV),Bv c0 e ps'=Z c1->l! c1=l! c0:=by
     intro ps';induction ps' with
     |nil=>intro c0 c1 h;simp[Bv,af]at h;rw[h]
     |cons p ps' ih=>
      intro c0 c1 h;simp[Bv]at h;split at h
      .split at h
       next hcc=>rw[ih _ _ h,ng (by simp_all)]
       .cases h
      .cases h
    exact this ps' _ _ hf
   rw[e1,e2];simp[n_,hl]
  refine ⟨.slice (Z ⟨w.heap.size,0,U⟩) i i,{w with heap:=w.heap.push (.cells vs'.toArray D)},.cells vs'.toArray D (0,0),?_,sK w _,KZ k2,λφ' O hφ=>?_⟩
  .have h3:=gq hs w;have hk:Instr.fill (λn=>Z (n*j,j)) ((Gj (i*j)).map ((if i*j=0 then #[] else v.cells)[·%(if i*j=0 then #[] else v.cells).size]!)) (A.map λx:Nat×Operand=>(x.1,a.eval x.2)).toList=Z vs'.toArray:=by grind
   unfold execOp;rw[ho];simp only[Instr.buildSlice,fk,run_underlying hu,cR,h3];rw[av (by omega)];by_cases h0:i*j=0
   .simp only[aD h0]at hk ⊢;simp only[fk,wD,cR,hk,newRow,newObj,io]
   .simp only[av h0]at hk ⊢;simp only[fk,wD,cR,h1,hk,newRow,newObj,io]
  .simp only[];split
   next h0=>subst h0;exact .emp
   refine .G hφ (bO _) ?_ ⟨D,?_⟩
   .have:i<=i*j:=Nat.le_mul_of_pos_right _ (by omega);unfold maxLen;omega
   .unfold s_;simp[hlen]
 .cases L
end
def sh.wren {w':World} (r:sh V O A w) {k:Nat} {b':kl} {ob:Obj} (hb:A i=Z S) (N:V i=Z k) (hnx:V j=U) (L:HH w w' k ob) (hob:gR V (tot O V A) w b' ob) (nw:HF) (hnw:nw j=Z b') (hnid:nw i=U):
 ∃φ',φ' j=Z k/\jT V φ' A (eZ A [j,i] nw) w w'/\(∀id k,φ' id=Z k->V id=Z k\/id∈[j])/\sh φ' O (eZ A [j,i] nw) w':=by
 have hne:j≠i:=λe=>by grind
 have hsub:∀id x,eZ A [j,i] nw id=Z x->id≠j->A id=Z x/\id≠i:=λid x hx hi=>by
  unfold eZ at hx
  grind
 have hφ:∀id,id≠j->(if id=j then Z k else V id)=V id:=λid hi=>by simp[hi]
 have m:jT V (λid=>if id=j then Z k else V id) A (eZ A [j,i] nw) w w':=by
  refine ⟨λid k' hk'=>?_,⟨L.os,L.tape,L.output,by rw[L.size];exact bO _,λnx hj ho=>?_,λnx _=>L.jh nx⟩,?_⟩
  .grind
  .exact L.other nx (λe=>ho (e▸⟨i,S,hb,N⟩))
  .rintro nx hj ⟨id,x,h1,D⟩;by_cases hi:id=j
   .simp[hi]at D;subst D;exact⟨i,S,hb,N⟩
   .have h3:V id=Z nx:=by simpa[hi] using D
    exact⟨id,x,(hsub id x h1 hi).1,h3⟩
 refine ⟨_,by simp,m,λid k' hk'=>?_,⟨λid nx x y kk hi hj h1 D=>?_,λid x hi=>?_,λk N=>dw (r.el k N) m.ext.size,λg cells hg=>m.keepF (r.gl g cells hg)⟩⟩
 .grind
 .by_cases z:id=j
  .by_cases h:nx=j
   .rw[z,h]
   .exfalso;rw[hφ nx h]at D;simp[z]at h1;subst h1;let⟨q1,q2⟩:=hsub nx y hj h;exact q2 (r.inj nx i y S k q1 hb D N)
  .rw[hφ id z]at h1;let⟨p1,p2⟩:=hsub id x hi z;by_cases h:nx=j
   .exfalso;simp[h]at D;subst D;exact p2 (r.inj id i x S k p1 hb h1 N)
   .rw[hφ nx h]at D;exact r.inj id nx x y kk p1 (hsub nx y hj h).1 h1 D
 .by_cases z:id=j
  .subst z;have:x=b':=by unfold eZ at hi;simp[hnw]at hi;exact hi.symm
   subst this;let⟨k',h1,D,_⟩:=r.at_ i S hb;rw[N]at h1;cases h1;exact⟨k,by simp,D,ob,L.at_,hob.mono λ_ _ A=>m.zq A⟩
  .obtain⟨p1,p2⟩:=hsub id x hi z;let⟨k',h1,D,ob',h3,h4⟩:=r.at_ id x p1;have hne':k'≠k:=λe=>p2 (r.inj id i x S k p1 hb (e▸h1) N)
   exact⟨k',by rw[hφ id z];exact h1,D,ob',by rw[L.other k' hne'];exact h3,h4.mono λ_ _ A=>m.zq A⟩
def sh.cs (hrep:sh V O A w) (hb:A i=Z S) (N:V i=Z j) (z:S.c.isCells=J):
 ∃arr,w.heap[j]? =Z (.cells arr S.ty (0,0))/\Cs V (tot O V A) w S.c.toMx (arr.toList.take (l! S.c.toMx))/\l! S.c.toMx<=arr.size:=by
 let⟨k',h1,_,h2⟩:=hrep.at_ i S hb;rw[N]at h1;cases h1;let⟨arr,h3,L,D⟩:=h2.cells z;rw[BC.len_toMx z]at L;refine ⟨arr,h3,⟨by simp;omega,λx h'=>?_,λk x v h' hv=>?_⟩,L⟩
 .obtain⟨k,hj⟩:=fY h';exact (D k x (by rw[BC.get_toMx z];exact hj)).1
 .obtain⟨_,u,h6,h7⟩:=D k x (by rw[BC.get_toMx z];exact h')
  grind
section
variable {P:Program} {o:Oper} {e:DE} {h:mQ} {nx:Nat} {R:Cu}
def Qo (z:Hy P s=Z i):∃b,P.info? s=Z b/\b.bytes=i:=by
 unfold Hy at z;cases hi:P.info? s with
 |none=>rw[hi]at z;cases z
 |some b=>rw[hi]at z;simp at z;exact⟨b,rfl,z⟩
def EE (h:bf i j=J):i<=1099511627776/\i*j<=1099511627776:=by
 simp[bf,al]at h;simp_all
variable {a:Int}
def aek (h1: -9223372036854775808<=a) (z:a<=9223372036854775807):pS .i64 a=a:=by
 rw[<- AO];have:(dm (-9223372036854775808) a&&dm a 9223372036854775807)=J:=by simp[dm,h1,z]
 simp[JY,Pa,this,bh]
def aq0 {A:TypeId} {l:Operand} (ho:o.op= .makeSlice s l c) (hu:P.underlying s=Z (.slice A)) (hz:uz P A=Z N) (hs:fE P A=Z i) (hb:Hy P A=Z j) (hc:nV N=J) (hl:l! N=i) (hsz:i≠0)
 (D:dx (.zg A i j N l c) e h nx=Z R):fZ P o e.get h.get R.eff:=by
 simp only[dx]at D;split at D
 .rename_i k1 n k2 m L hy;split at D
  .rename_i hcd;simp only[dm,al,bU]at hcd;let⟨⟨h0,h1⟩,h2⟩:=hcd;let⟨r1,r2⟩:=EE h2;cases D;refine fZ.makes λφ E h' w a _ hp _=>?_
   have e1:=eX (hp l _ (by rw[ho];simp[Op.operands]) L);have e2:=eX (hp c _ (by rw[ho];simp[Op.operands]) hy);let⟨v,z1,z2,_⟩:=vb hz w;let⟨sz,i1,i2⟩:=Qo hb;have s1:=gq hs w;have w1:pS .i64 n=n:=aek (by omega) (by omega);have w2:pS .i64 m=m:=aek (by omega) (by omega);have hbm:(j:Int)*m=((m.toNat*j:Nat):Int):=by grind
   have t1:¬(m<0\/(281474976710656:Int)<j*m):=by omega
   have hr:¬(m.toNat*j>roomBytes):=by unfold roomBytes;omega
   have hn0:m.toNat*i=0->m.toNat=0:=λh=>(Nat.mul_eq_zero.1 h).resolve_right hsz
   let cells:Array Value:=(Gj (m.toNat*i)).map (λsz=>v.cells[sz%v.cells.size]!)
   refine ⟨.slice (Z ⟨w.heap.size,0,U⟩) n.toNat m.toNat,{w with heap:=w.heap.push (.cells cells A)},.cells cells A (0,0),?_,sK w _,?_,λφ' O hφ=>?_⟩
   .unfold execOp;rw[ho];by_cases hm0:m.toNat*i=0
    .obtain rfl:m=0:=by have:=hn0 hm0;omega
     simp[Instr.makeSlice,run_underlying hu,e1,e2,asInt,asIntOf,typeInfo,i1,w1,askRoom,s1,newRow,newObj,io,cells]
     grind
    .simp[Instr.makeSlice,run_underlying hu,e1,e2,asInt,asIntOf,typeInfo,i1,i2,w1,w2,t1,show ¬n<0 by omega,show ¬m<n by omega,askRoom,hr,s1,hm0,z1,newRow,newObj,io,cells]
   .have cs:=Cs.repl (φ:=φ) (O:=tot E φ h') (w:=w) z2 m.toNat i hl hsz hc;have hle:n.toNat<=m.toNat:=by omega
    have hlen:n.toNat*i<=m.toNat*i:=cK _ hle;refine ry rfl (by simp[BC.toMx,n_,hl,cells];exact hlen) λbytes x L=>?_
    simp only[BC.toMx,bz]at L;have hj:bytes<n.toNat*l! N:=by
     rcases bG bytes (n.toNat*l! N) with h|h
     .exact h
     .rw[c5 (by rw[n_];exact h)]at L;cases L
    have hj2:bytes<m.toNat*l! N:=by grind
    rw[EG N _ bytes hj,<-EG N m.toNat bytes hj2]at L;have z:((repl N m.toNat).map AV.f)[bytes]? =Z x:=by grind
    have hj3:bytes<l! cells.toList:=by grind
    exact⟨cs.2.1 x (aY z),cells.toList[bytes],by rw[<- cU];exact aE hj3,cs.2.2 bytes x _ z (aE hj3)⟩
   .refine .G hφ (by omega) (by unfold maxLen;omega) ⟨A,?_⟩;unfold s_;simp[cells]
  .cases D
 .cases D
def am7 {y:Operand} (ho:o.op= .store s c y) (hs:fE P s=Z i) (z:dx (.store i c y) e h nx=Z R):fZ P o e.get h.get R.eff:=by
 simp only[dx]at z;split at z
 .rename_i p v hx hy;unfold BU at z;split at z
  .rename_i id off;split at z
   .rename_i b hb;split at z
    .rename_i hl;split at z
     .rename_i c' hput;cases z;unfold BC.put at hput;split at hput
      .rename_i hcc;simp only[al]at hcc;let⟨⟨c1,c2⟩,c3⟩:=hcc;have c2:=aV c2;have hl:l! v.cs=i:=by simpa using hl
       have D:c'.toMx=splice b.c.toMx off v.cs/\c'.isCells=J:=by
        split at hput
        next l ys hbl hys=>cases hput;refine ⟨?_,rfl⟩;have hv:=nE hys;rw[hv,hbl];simp only[BC.toMx];unfold splice;simp_all
        .cases hput;exact⟨rfl,rfl⟩
       refine fZ.writes hb λφ E h' w a hrd hb' hp hrep=>?_
       have N:=Yp (hp y _ (by rw[ho];simp[Op.operands]) hy) c3;have hpx:=hp c _ (by rw[ho];simp[Op.operands]) hx;generalize hz:a.eval c=pv at hpx;cases hpx with
       |@H _ _ k hφ=>
        let⟨arr,g1,g2,g3⟩:=hrep.cs hb' hφ c1;have hvl:(a.eval y).cells.toList.length=i:=by rw[N.1];exact hl
        rw[BC.len_toMx c1]at c2;have hst:=run_storeCells_at (P:=P) k off b.ty (a.eval y).cells.toList 0 arr w g1 (by rw[hvl];omega) N.one
        let arr':Array Value:=(arr.toList.take off++(a.eval y).cells.toList++arr.toList.drop (off+i)).toArray
        have hsize:arr'.size=arr.size:=by grind
        refine ⟨.skip,w.setRow k arr',k,.cells arr' b.ty (0,0),?_,hφ,HH.setRow g1 hsize,?_,undef,.inr ⟨rfl,rfl⟩,.f (.raw _)⟩
        .have s1:=gq hs w;have hvs:(a.eval y).cells.size=i:=by simpa using hvl
         simp only[cW,hvl]at hst;unfold execOp;rw[ho];simp[Instr.storeAt,hz,Instr.sureAddr,storeVar,s1,hvs,hst,arr']
        .refine ry D.2 (by rw[D.1,ng (by omega),hsize];exact g3) λj q A=>?_
         rw[D.1,nY (by omega)]at A;have ha':arr'[j]? =if j<off then arr.toList[j]? else if j<off+i then (a.eval y).cells.toList[j-off]? else arr.toList[j]? :=by
          have:=nY (l:=arr.toList) (vs:=(a.eval y).cells.toList) (off:=off) (by grind) j;unfold splice at this
          grind
         have old:b.c.toMx[j]? =Z q->q.isCell=J/\∃u,arr.toList[j]? =Z u/\co φ (tot E φ h') w q u:=λA=>by
          have hj:j<l! b.c.toMx:=(bB.1 A).1;have hj2:j<l! arr.toList:=by simp;omega
          refine ⟨g2.2.1 q (aY A),arr.toList[j],aE hj2,g2.2.2 j q _ A ?_⟩
          grind
         rw[ha'];by_cases h1:j<off
         .grind
         .rw[av h1]at A ⊢;by_cases h2:j<off+i
          .rw[aD (by omega)]at A;rw[aD h2];have L:j-off<(a.eval y).cells.toList.length:=by omega
           exact⟨N.2.1 q (aY A),_,aE L,N.2.2 _ q _ A (aE L)⟩
          .grind
      .cases hput
     .cases z
    .cases z
   .cases z
  .cases z
 .cases z
end
section
variable {P:Program} {o:Oper} {e:DE} {h:mQ} {nx:Nat} {R:Cu}
def apv (A:Addr):A.add 0=A:=by cases A;simp[Addr.add]
def atd {el:TypeId} {lo hi mx:M Operand} (ho:o.op= .slice s c lo hi mx) (hu:P.underlying s=Z (.slice el)) (hs:fE P el=Z i) (L:dx (.slc i c lo hi mx) e h nx=Z R):fZ P o e.get h.get R.eff:=by
 simp only[dx]at L;split at L
 .rename_i v hx;split at L
  ·
   rename_i k k';split at L
   .rename_i hsl;rw[dl L];refine fZ.reads λφ E h' w a _ hp _=>?_
    have D:=hp c _ (by rw[ho];simp[Op.operands]) hx;have hz:∃A n x,a.eval c= .slice A n x:=by
     generalize a.eval c=z at D;obtain⟨n,hn⟩:=iZ.1 hsl;unfold AV.slen at hn;split at hn
     .cases D with
      |f D=>cases D with
       |nil|sl=>exact⟨_,_,_,rfl⟩
     .cases eX D;exact⟨_,_,_,rfl⟩
     .cases D;exact⟨_,_,_,rfl⟩
     .cases D;exact⟨_,_,_,rfl⟩
     .cases D;exact⟨_,_,_,rfl⟩
     .cases hn
    obtain⟨A,n,x,hz⟩:=hz;have s1:=gq hs w;refine ⟨.slice A 0 0,?_,.emp⟩;unfold execOp;rw[ho];have z0:∀k,a.eval (.const (.int k 0))= .int k 0:=λ_=>rfl
    simp[lN,pT,run_underlying hu,hz,gO,iw,asIntOf,s1,z0]
   .cases L
  ·
   rename_i b;split at L
   .rename_i id sz' n k j hb;split at L
    .rename_i N;simp only[dm,al,bU,cV]at N;obtain⟨⟨rfl,h0⟩,h1⟩:=N;split at L
     .rename_i blk hblk;split at L
      .rename_i hcl;simp only[al]at hcl;obtain⟨hcells,hlen⟩:=hcl;have hlen:=aV hlen;rw[BC.len_toMx hcells]at hlen;cases L;intro φ E h' w a g1 g2 g3 hrep g5;have hp:W_ φ E h' w a e o:=λc y hx hy=>uV hrep g3 hx hy
       have hb':h' id=Z blk:=by rw[g1 id (by simp[Cu.eff])];exact hblk
       have D:=hp c _ (by rw[ho];simp[Op.operands]) hx;have hbv:=eX (hp b _ (by rw[ho];simp[Op.operands]) hb);have hnx:φ nx=U:=g5 nx (by simp[Cu.eff]);generalize hz:a.eval c=z at D;cases D with
       |@G _ _ _ x q hφ hn hcap hsh=>
        obtain⟨arr,a1,a2,a3⟩:=hrep.cs hb' hφ hcells;have s1:=gq hs w;have hne:nx≠id:=λe=>by rw[e,hφ]at hnx;cases hnx
        have hnw1:jK [(nx,⟨blk.ty,nW (blk.c.toMx.take (j.toNat*sz'))⟩)] nx=Z (⟨blk.ty,nW (blk.c.toMx.take (j.toNat*sz'))⟩:kl):=by simp[jK]
        have hnw2:jK [(nx,⟨blk.ty,nW (blk.c.toMx.take (j.toNat*sz'))⟩)] id=U:=by
         simp only[jK];rw[av];intro hb;exact hne (au hb)
        have a4:=a2.take (j.toNat*sz');obtain⟨φ',p1,p2,p3,p4⟩:=hrep.wren hb' hφ hnx (w':=w) ⟨rfl,rfl,rfl,rfl,a1,λ_ _=>rfl,λ_=>rfl⟩ (b':=⟨blk.ty,nW (blk.c.toMx.take (j.toNat*sz'))⟩) (by
         obtain⟨q1,q2⟩:=nA (blk.c.toMx.take (j.toNat*sz'));refine ry q2 (by rw[q1,bR];omega) λsz c hx=>?_
         rw[q1]at hx;have hi:sz<l! ((arr.toList.take (l! blk.c.toMx)).take (j.toNat*sz')):=by rw[a4.1];exact (bB.1 hx).1
         refine ⟨a4.2.1 c (aY hx),_,?_,a4.2.2 sz c _ hx (aE hi)⟩;have hi':sz<arr.size:=by simp at hi;omega
         simp[hi']) _ hnw1 hnw2
        have hrun:(execOp a.eval o).run P w= .ok (.value (.slice (Z ⟨q,0,U⟩) j.toNat x)) w:=by
         unfold execOp;rw[ho];simp[lN,pT,run_underlying hu,hz,gO,iw,asIntOf,s1,hbv,h0,show j<=x by omega,kK]
        unfold Oper.wp;rw[hrun];exact⟨_,φ',rfl,p2,p3,p4,.G p1 (by omega) hcap hsh⟩
      .cases L
     .cases L
    .cases L
   .rename_i cells n k j hb;split at L
    .rename_i N;simp only[dm,al,bU]at N;obtain⟨⟨h0,h1⟩,h2⟩:=N;have h2:=aV h2;rw[dl L];refine fZ.reads λφ E h' w a _ hp _=>?_
     have D:=hp c _ (by rw[ho];simp[Op.operands]) hx;have hbv:=eX (hp b _ (by rw[ho];simp[Op.operands]) hb);generalize hz:a.eval c=z at D;have s1:=gq hs w;cases D with
     |f D=>
      cases D with
      |nil A x N=>
       have hj:j=0:=by omega
       subst hj;refine ⟨.slice A 0 x,?_,by simpa using co.f (.nil A x N)⟩;unfold execOp;rw[ho];cases A<;>simp[lN,pT,run_underlying hu,hz,gO,iw,asIntOf,s1,hbv,apv]
      |sl _ _ x q off us hn N hO hq hcl hu' D=>
       refine ⟨.slice (Z ⟨q,off,U⟩) j.toNat x,?_,.f (.sl _ _ _ _ _ us (by omega) N hO hq (λy hy=>hcl y (jU hy)) (λsz hi=>hu' sz (by rw[bR]at hi;omega)) λsz y hy=>?_)⟩
       .unfold execOp;rw[ho];simp[lN,pT,run_underlying hu,hz,gO,iw,asIntOf,s1,hbv,h0,show j<=x by omega,kK]
       .rw[eL]at hy;split at hy
        .exact D sz y hy
        .cases hy
    .cases L
   .cases L
  ·
   rename_i b;split at L
   .rename_i id sz' n k j hb;split at L
    .rename_i N;simp only[dm,fK,al,bU,cV]at N;obtain⟨⟨rfl,h0⟩,h1⟩:=N;rw[dl L];refine fZ.reads λφ E h' w a _ hp _=>?_
     have D:=hp c _ (by rw[ho];simp[Op.operands]) hx;have hbv:=eX (hp b _ (by rw[ho];simp[Op.operands]) hb);generalize hz:a.eval c=z at D;cases D with
     |@G _ _ _ x q hφ hn N hsh=>
      have s1:=gq hs w;refine ⟨.slice (Z ⟨q,0+j.toNat*sz',U⟩) (n-j.toNat) (x-j.toNat),?_,?_⟩
      .unfold execOp;rw[ho];simp[lN,pT,run_underlying hu,hz,gO,iw,asIntOf,s1,hbv,h0,show j<=n by omega,show ¬x=j.toNat by omega,kK]
      .rw[bT];exact .sl hφ (by omega) (by omega)
    .cases L
   .rename_i cells n k j hb;split at L
    .rename_i N;simp only[dm,al,bU]at N;obtain⟨⟨h0,h1⟩,h2⟩:=N;have h2:=aV h2;rw[dl L];refine fZ.reads λφ E h' w a _ hp _=>?_
     have D:=hp c _ (by rw[ho];simp[Op.operands]) hx;have hbv:=eX (hp b _ (by rw[ho];simp[Op.operands]) hb);generalize hz:a.eval c=z at D;have s1:=gq hs w;cases D with
     |f D=>
      cases D with
      |nil A x N=>
       have hj:j=0:=by omega
       subst hj;have hex:∃A',(execOp a.eval o).run P w= .ok (.value (.slice A' 0 x)) w:=by
        unfold execOp;rw[ho];cases A with
        |none=>exact⟨U,by simp[lN,pT,run_underlying hu,hz,gO,iw,asIntOf,s1,hbv]⟩
        |some A=>exact⟨Z A,by simp[lN,pT,run_underlying hu,hz,gO,iw,asIntOf,s1,hbv,apv]⟩
       obtain⟨A',hex⟩:=hex;exact⟨.slice A' 0 x,hex,by simpa using co.f (.nil A' x N)⟩
      |sl _ _ x q off us hn N hO hq hcl hu' D=>
       by_cases hcj:x=j.toNat
       .refine ⟨.slice (Z ⟨q,off,U⟩) 0 0,?_,?_⟩
        .unfold execOp;rw[ho];simp[lN,pT,run_underlying hu,hz,gO,iw,asIntOf,s1,hbv,h0,show j<=n by omega,hcj,show n-j.toNat=0 by omega,kK]
        .rw[show n-j.toNat=0 by omega];simpa using co.f (.nil (Z ⟨q,off,U⟩) 0 (by unfold maxLen;omega))
       .refine ⟨.slice (Z ⟨q,off+j.toNat*i,U⟩) (n-j.toNat) (x-j.toNat),?_,.f (.sl _ _ _ _ _ (λsz=>us (j.toNat*i+sz)) (by omega) (by omega) hO hq (λy hy=>hcl y (List.mem_of_mem_drop (jU hy))) (λsz hi=>?_) λsz y hy=>?_)⟩
        .unfold execOp;rw[ho];simp[lN,pT,run_underlying hu,hz,gO,iw,asIntOf,s1,hbv,h0,show j<=n by omega,hcj,kK]
        .rw[qH];refine hu' _ ?_;rw[bR,sr]at hi;omega
        .rw[eL]at hy;split at hy
         .rw[oO]at hy;exact D _ y hy
         .cases hy
    .cases L
   .cases L
  ·
   rename_i b b' _;split at L
   .rename_i cells n k j k' j' hb hb';split at L
    .rename_i N;simp only[dm,al,bU]at N;obtain⟨⟨⟨hjj,h0⟩,h1⟩,h2⟩:=N;subst hjj;have h2:=aV h2;rw[dl L];refine fZ.reads λφ E h' w a _ hp _=>?_
     have D:=hp c _ (by rw[ho];simp[Op.operands]) hx;have hbv:=eX (hp b _ (by rw[ho];simp[Op.operands]) hb);have hbv':=eX (hp b' _ (by rw[ho];simp[Op.operands]) hb');generalize hz:a.eval c=z at D;have s1:=gq hs w;cases D with
     |f D=>
      cases D with
      |nil A x N=>
       have hj:j=0:=by omega
       subst hj;refine ⟨.slice A 0 0,?_,by simpa using co.qm (mO.nil A 0 (by unfold maxLen;omega))⟩;unfold execOp;rw[ho];cases A<;>simp[lN,pT,run_underlying hu,hz,gO,iw,asIntOf,s1,hbv,hbv',apv]
      |sl _ _ x q off us hn N hO hq hcl hu' D=>
       refine ⟨.slice (Z ⟨q,off,U⟩) j.toNat j.toNat,?_,.qm (.sl _ _ _ _ _ us (bO _) (by omega) hO hq (λy hy=>hcl y (jU hy)) (λsz hi=>hu' sz (by rw[bR]at hi;omega)) λsz y hy=>?_)⟩
       .unfold execOp;rw[ho];simp[lN,pT,run_underlying hu,hz,gO,iw,asIntOf,s1,hbv,hbv',h0,show j<=x by omega,kK];intro hlt;omega
       .rw[eL]at hy;split at hy
        .exact D sz y hy
        .cases hy
    .cases L
   .cases L
  .cases L
 .cases L
def af6 {rd:ι} (hrow:y.row? h i=Z (B,j,rd)) (hrd:∀sz∈rd,A sz=h.get sz) (hrep:sh V O A w) (N:co V (tot O V A) w y v):
 ∃h' c vs,v= .slice h' j c/\Cs V (tot O V A) w B vs/\l! vs=j*i/\(h'=U->vs=[])/\(∀ad,h'=Z ad->∀(m:Nat) u,vs[m]? =Z u->w.cell? (ad.add m)=Z u):=by
 have emp:∀h' c,v= .slice h' 0 c->B=[]->j=0->∃h' c vs,v= .slice h' j c/\Cs V (tot O V A) w B vs/\l! vs=j*i/\(h'=U->vs=[])/\(∀ad,h'=Z ad->∀(m:Nat) u,vs[m]? =Z u->w.cell? (ad.add m)=Z u):=by
  rintro h' c rfl rfl rfl;exact⟨h',c,[],rfl,⟨rfl,(by intro y z;cases z),(by intro m y v z;simp at z)⟩,by simp,λ_=>rfl,by intro ad _ m u D;simp at D⟩
 have own:∀(id off n c k:Nat) (b:kl),V id=Z k->A id=Z b->b.c.isCells=J->off+n*i<=b.c.len->v= .slice (Z ⟨k,off,U⟩) n c->B=(b.c.toMx.drop off).take (n*i)->j=n->
  ∃h' c vs,v= .slice h' j c/\Cs V (tot O V A) w B vs/\l! vs=j*i/\(h'=U->vs=[])/\(∀ad,h'=Z ad->∀(m:Nat) u,vs[m]? =Z u->w.cell? (ad.add m)=Z u):=by
  rintro id off n c k b hφ hb L hle rfl rfl rfl;let⟨arr,g1,g2,g3⟩:=hrep.cs hb hφ L;rw[BC.len_toMx L]at hle;refine ⟨_,c,((arr.toList.take (l! b.c.toMx)).drop off).take (j*i),rfl,(g2.drop off).take _,?_,nofun,?_⟩
  .simp;omega
  .intro ad had m u D;cases had;rw[kK];rw[eL]at D;split at D
   .rw[oO,eL]at D;split at D
    .rw[cU]at D;simp[Qz,g1,D]
    .cases D
   .cases D
 unfold AV.row? at hrow;split at hrow
 .rename_i cells n;split at hrow
  .rename_i hle;have hle:=aV hle;simp only[af,aP]at hrow;obtain⟨rfl,rfl,rfl⟩:=hrow;cases N with
   |f N=>
    cases N with
    |nil a c L=>exact emp a c rfl (by simp) rfl
    |sl _ _ c b off us hn L hO hb hcl D N=>
     refine ⟨_,c,(iN (n*i)).map us,rfl,⟨by simp;omega,λy z=>?_,λm y u z hu'=>?_⟩,by simp,nofun,?_⟩
     .obtain⟨x,hy,rfl⟩:=cj.1 z;exact hcl x (jU hy)
     .obtain⟨rfl,hj⟩:=zG us _ _ _ hu';rw[bz,eL,aD hj]at z;cases hq:cells[m]? with
      |none=>rw[hq]at z;cases z
      |some q=>rw[hq]at z;simp at z;subst z;exact .f (N m q hq)
     .intro ad had m u hu';cases had;obtain⟨rfl,hj⟩:=zG us _ _ _ hu';rw[kK];exact D m (by omega)
  .cases hrow
 .simp only[af,aP]at hrow;obtain⟨rfl,rfl,rfl⟩:=hrow;exact emp U 0 (eX N) rfl rfl
 .simp only[af,aP]at hrow;obtain⟨rfl,rfl,rfl⟩:=hrow;cases N with
  |@emp a=>exact emp a 0 rfl rfl rfl
 .rename_i id sz' n;split at hrow
  .rename_i hsz;split at hrow
   .rename_i b hb;split at hrow
    .rename_i L;simp only[al]at L;simp only[af,aP]at hrow;obtain⟨rfl,rfl,rfl⟩:=hrow;cases N with
     |@G _ _ _ c k hφ hn hc' hsh=>
      exact own id 0 n c k b hφ (by rw[hrd id (by simp)];exact hb) L.1 (by simp_all) rfl (by simp) rfl
    .cases hrow
   .cases hrow
  .cases hrow
 .rename_i id off n;split at hrow
  .rename_i b hb;split at hrow
   .rename_i L;simp only[al]at L;simp only[af,aP]at hrow;obtain⟨rfl,rfl,rfl⟩:=hrow;cases N with
    |@sl _ _ _ c k hφ hn hc'=>exact own id off n c k b hφ (by rw[hrd id (by simp)];exact hb) L.1 (aV L.2) rfl rfl rfl
   .cases hrow
  .cases hrow
 .cases hrow
def aju {rd:ι} (hrow:y.row? h i=Z (B,j,rd)) (hrd:∀sz∈rd,A sz=h.get sz) (hrep:sh V O A w) (N:co V (tot O V A) w y v) {L:TypeId} (D:P.underlying s=Z (.slice L)):
 ∃vs,Src P i s v j vs w/\Cs V (tot O V A) w B vs:=by
 obtain⟨h',c,vs,rfl,h1,h2,h3,h4⟩:=af6 hrow hrd hrep N;refine ⟨vs,?_,h1⟩;cases h' with
 |none=>
  have:=h3 rfl;subst this;have hm:j*i=0:=by grind
  refine ⟨.inl ⟨L,D⟩,λ_=>rfl,run_firstCells_none w i j j c,run_firstCells_none w.drew i j j c,by simp[hm],λ_ h=>by cases h⟩
 |some ad=>exact Src.ofSlice w D ad j c vs h2 (h4 ad rfl) h1.one
def ag7 :∀{l:ι},mem i l=J↔i∈l
 |[]=>by simp[mem]
 |y::r=>by
  simp[mem,mS,ag7 (l:=r),aZ];constructor
  .rintro (h|h)
   .simp_all
   .exact .inr h
  .rintro (h|h)
   .simp_all
   .exact .inr h
def aq6 {u el el':TypeId} {x:Operand} (ho:o.op= .call {callee:=.builtin .copy,args:=#[c,x],argTypes:=#[s,u]}) (hu:P.underlying s=Z (.slice el)) (hu':P.underlying u=Z (.slice el')) (hs:fE P el=Z i) (D:dx (.copy i c x) e h nx=Z R):fZ P o e.get h.get R.eff:=by
 simp only[dx]at D;split at D
 .rename_i id sz' n y hd hx;split at D
  .rename_i blk src m rd hblk hrow;split at D
   .rename_i hc;simp only[al,cV,cS]at hc;obtain⟨⟨rfl,hmem⟩,hlen⟩:=hc;split at D
    .rename_i c' hput;cases D;unfold BC.put at hput;split at hput
     .rename_i hcc;simp only[al]at hcc;let⟨⟨c1,c2⟩,c3⟩:=hcc;have c2:=aV c2;rw[bT]at c2;have N:c'.toMx=splice blk.c.toMx 0 (src.take (lM m n*sz'))/\c'.isCells=J:=by
       split at hput
       next l ys hbl hys=>cases hput;refine ⟨?_,rfl⟩;have hv:=nE hys;rw[hv,hbl];simp only[BC.toMx];unfold splice;simp[gz,yO]
       .cases hput;exact⟨rfl,rfl⟩
      refine fZ.writes hblk λφ E h' w a hrd hb' hp hrep=>?_
      have hpd:=hp c _ (by rw[ho];simp[Op.operands,dC]) hd;have hpx:=hp x _ (by rw[ho];simp[Op.operands,dC]) hx;let⟨A,d,vs,hv,q1,q2,q3,q4⟩:=af6 hrow (λsz hi=>hrd sz (by simp[hi])) hrep hpx;generalize hz:a.eval c=pv at hpd;cases hpd with
      |@G _ _ _ cap k hφ hn hcap hsh=>
       let⟨arr,g1,g2,g3⟩:=hrep.cs hb' hφ c1;rw[BC.len_toMx c1]at c2;have hmn:lM m n<=m:=Nat.min_le_left _ _;have hle:lM m n*sz'<=m*sz':=cK _ hmn
       let z:=vs.take (lM m n*sz')
       have hnl:l! z=lM m n*sz':=by simp only[z,bR,q2];omega
       have hsl:l! (src.take (lM m n*sz'))=lM m n*sz':=by rw[bR,<-q1.1,q2];omega
       have csn:=q1.take (lM m n*sz');rw[hsl]at c2;have hst:=run_storeCells_at (P:=P) k 0 blk.ty z 0 arr w g1 (by rw[hnl];omega) csn.one
       let arr':Array Value:=(arr.toList.take 0++z++arr.toList.drop (0+lM m n*sz')).toArray
       have hsize:arr'.size=arr.size:=by simp only[arr',B8,bc,bR,sr,Array.length_toList,hnl];omega
       have hfc:(z_ sz' (lM m n) (.slice A m d)).run P w= .ok z.toArray w:=by
        cases A with
        |none=>
         have:z=[]:=by simp[z,q3 rfl]
         rw[this];exact run_firstCells_none w sz' _ _ _
        |some ad=>exact run_firstCells_some w sz' _ ad m d z hnl (λj u hu=>q4 ad rfl j u (by
          simp only[z,eL]at hu;split at hu
          .exact hu
          .cases hu))
       refine ⟨.value (.int .i64 (lM m n)),w.setRow k arr',k,.cells arr' blk.ty (0,0),?_,hφ,HH.setRow g1 hsize,?_,_,.inl rfl,.f (.raw _)⟩
       .have s1:=gq hs w;simp only[cW,hnl]at hst;unfold execOp;rw[ho];simp[resolve,invoke,builtin,Builtin.copy_,run_underlying hu,hz,hv,Builtin.lenOf,s1,hfc,hst,goInt,arr']
       .refine ry N.2 (by rw[N.1,ng (by rw[hsl];omega),hsize];exact g3) λj q L=>?_
        rw[N.1,nY (by rw[hsl];omega)]at L;have ha':arr'[j]? =if j<0 then arr.toList[j]? else if j<0+l! z then z[j-0]? else arr.toList[j]? :=by grind
        rw[ha',av (by omega)];rw[av (by omega),hsl]at L;rw[hnl];by_cases h2:j<0+lM m n*sz'
        .rw[aD h2]at L ⊢;have hj3:j-0<l! z:=by rw[hnl];omega
         exact⟨csn.2.1 q (aY L),_,aE hj3,csn.2.2 _ q _ L (aE hj3)⟩
        .rw[av h2]at L ⊢;have hj:j<l! blk.c.toMx:=(bB.1 L).1;have hj2:j<l! arr.toList:=by simp;omega
         refine ⟨g2.2.1 q (aY L),arr.toList[j],aE hj2,g2.2.2 j q _ L ?_⟩;rw[eL,aD hj,aE hj2]
     .cases hput
    .cases D
   .cases D
  .cases D
 .cases D
def atv {el:TypeId} (ho:o.op= .call {callee:=.builtin .clear,args:=#[c],argTypes:=#[s]}) (hu:P.underlying s=Z (.slice el)) (hz:uz P el=Z N) (hc:nV N=J) (hl:l! N=i) (hsz:i≠0) (D:dx (.clr i N c) e h nx=Z R):fZ P o e.get h.get R.eff:=by
 simp only[dx]at D;split at D
 .rename_i id off n hx;split at D
  .rename_i blk hblk;split at D
   .rename_i hn;have hn:=aV hn;obtain⟨m,rfl⟩:∃m,n=m+1:=⟨n-1,by omega⟩
    split at D
    .rename_i c' hput;cases D;unfold BC.put at hput;split at hput
     .rename_i hcc;simp only[al]at hcc;let⟨⟨c1,c2⟩,c3⟩:=hcc;have c2:=aV c2;have hsrc:l! ((repl N (m+1)).map AV.f)=(m+1)*i:=by rw[b_,n_,hl]
      rw[hsrc]at c2;have hc':c'.toMx=splice blk.c.toMx off ((repl N (m+1)).map AV.f)/\c'.isCells=J:=by
       split at hput
       next l ys hbl hys=>cases hput;refine ⟨?_,rfl⟩;have hv:=nE hys;rw[hv,hbl];simp only[BC.toMx];unfold splice;simp[gz,yO]
       .cases hput;exact⟨rfl,rfl⟩
      refine fZ.writes hblk λφ E h' w a hrd hb' hp hrep=>?_
      have hpx:=hp c _ (by rw[ho];simp[Op.operands,dC]) hx;generalize hzv:a.eval c=pv at hpx;cases hpx with
      |@sl _ _ _ cap k hφ hn2 hcap=>
       let⟨arr,g1,g2,g3⟩:=hrep.cs hb' hφ c1;rw[BC.len_toMx c1]at c2;let⟨v,z1,z2,_⟩:=vb hz w;have csn:=Cs.repl (φ:=φ) (O:=tot E φ h') (w:=w) z2 (m+1) i hl hsz hc
       let L:=(mw v.cells (m+1)).toList
       have hvs:v.cells.size=i:=by rw[<- hl,<-z2];simp
       have hns:L=((Gj ((m+1)*i)).map (λsz=>v.cells[sz%v.cells.size]!)).toList:=by simp only[L,mw,hvs]
       have hnl:l! L=(m+1)*i:=by rw[hns];simp
       rw[<- hns]at csn;have hst:=run_storeCells_at (P:=P) k off blk.ty L 0 arr w g1 (by rw[hnl];omega) csn.one
       let arr':Array Value:=(arr.toList.take (off+0)++L++arr.toList.drop (off+0+l! L)).toArray
       have hsize:arr'.size=arr.size:=by grind
       refine ⟨.value (.tuple #[]),w.setRow k arr',k,.cells arr' blk.ty (0,0),?_,hφ,HH.setRow g1 hsize,?_,_,.inl rfl,.qg (vs:=[]) rfl λj y v hy=>by simp at hy⟩
       .unfold execOp;rw[ho];have hst2:(storeCells ⟨k,off,U⟩ (mw v.cells (m+1)).toList).run P w= .ok () (w.setRow k arr'):=hst;simp[resolve,invoke,builtin,Builtin.clear_,run_underlying hu,hzv,z1,hst2]
       .refine ry hc'.2 (by rw[hc'.1,ng (by rw[hsrc];omega),hsize];exact g3) λj q A=>?_
        rw[hc'.1,nY (by rw[hsrc];omega)]at A;have ha':arr'[j]? =if j<off then arr.toList[j]? else if j<off+l! L then L[j-off]? else arr.toList[j]? :=by
         have:=nY (l:=arr.toList) (vs:=L) (off:=off) (by grind) j;unfold splice at this
         grind
        rw[ha'];rw[hsrc]at A;rw[hnl];by_cases h1:j<off
        .rw[aD h1]at A ⊢;have hj:j<l! blk.c.toMx:=(bB.1 A).1;have z:j<l! arr.toList:=by simp;omega
         refine ⟨g2.2.1 q (aY A),arr.toList[j],aE z,g2.2.2 j q _ A ?_⟩
         grind
        rw[av h1]at A ⊢;by_cases h2:j<off+(m+1)*i
        .rw[aD h2]at A ⊢;have hj3:j-off<l! L:=by rw[hnl];omega
         exact⟨csn.2.1 q (aY A),_,aE hj3,csn.2.2 _ q _ A (aE hj3)⟩
        .rw[av h2]at A ⊢;have hj:j<l! blk.c.toMx:=(bB.1 A).1;have z:j<l! arr.toList:=by simp;omega
         refine ⟨g2.2.1 q (aY A),arr.toList[j],aE z,g2.2.2 j q _ A ?_⟩
         grind
     .cases hput
    .cases D
   .cases D
  .cases D
 .cases D
end
def Pb (w:World) (ob:Obj):Wt w (w.drew.alloc ob) ob:=Wt.drawn (w.drawn+1) (sK {w with drawn:=w.drawn+1} ob)
section
variable {P:Program} {o:Oper} {e:DE} {h:mQ} {nx:Nat} {R:Cu}
def Ko (A:v.cells.toList=N) (D:l! N=i) (n:Nat):(mw v.cells n).size=n*i:=by
 have:v.cells.size=i:=by grind
 simp[mw,this]
def Nf {u D:TypeId} {t:Operand} {m:TypeInfo} (ho:o.op= .call {callee:=.builtin .append,args:=#[t,c],argTypes:=#[s,u]}) (hu:P.underlying s=Z (.slice D)) (i1:P.info? D=Z m) (hz:uz P D=Z N) (hzl:l! N=m.size)
 (hrep:sh V O A w) (hnx:V nx=U) {h':M Addr} {n cap:Nat} {olds vs:ξ} {oldA:Y AV} (hsl:Q.eval t= .slice h' n cap)
 (hold:(z_ m.size n (.slice h' n cap)).run P w.drew= .ok olds.toArray w.drew) (csold:Cs V (tot O V A) w oldA olds) (hol:l! olds=n*m.size) (hsrc:Src P m.size u (Q.eval c) i vs w) (hcs:Cs V (tot O V A) w B vs)
 (hg:cap<n+i) (r1:n+i<=1099511627776) (r2:(n+i)*m.bytes<=1099511627776) (del:ι) (hdel:∀j∈del,j≠nx):
 o.wp P Q w (λa' w'=>∃v φ',a'=Q.put o.dst v/\jT V φ' A (eZ A (nx::del) (jK [(nx,⟨D,nW (oldA++B)⟩)])) w w'/\(∀m k,φ' m=Z k->V m=Z k\/m∈[nx])/\
  sh φ' O (eZ A (nx::del) (jK [(nx,⟨D,nW (oldA++B)⟩)])) w'/\co φ' (tot O φ' (eZ A (nx::del) (jK [(nx,⟨D,nW (oldA++B)⟩)]))) w' (.G nx m.size (n+i)) v) (λ_ _ _=>False):=by
 let⟨z,z1,z2,i',L,z3⟩:=vb hz w;rw[i1]at L;cases L;have hfb:=growslice_fits (need:=n+i) (old:=cap) (bytes:=m.bytes) hg (by omega);have hrun:=run_append_grow_src w s u o.type D m z hu i1 z3 h' n cap olds hold (Q.eval c) i vs hsrc hg (by omega) hfb;have hgc:=grownCap_ge w (n+i) cap D;have hgm:=grownCap_le_maxLen w (n+i) cap D (by unfold maxLen;omega);generalize grownCap w (n+i) cap D=Gc at hrun hgc hgm;have cs:=csold.append hcs;have hnl:=hsrc.newsLen;let⟨φ',p1,p2,p3,p4⟩:=hrep.wnew hnx (Pb w _) (b:=⟨D,nW (oldA++B)⟩) (ob:=.cells ((olds++vs).toArray++mw z.cells (Gc-(n+i))) D (0,0)) (by
  let⟨q1,q2⟩:=nA (oldA++B);refine ry q2 (by rw[q1,<-cs.1];simp) λj q hq=>?_
  rw[q1]at hq;have hj:j<l! (olds++vs):=by rw[cs.1];exact (bB.1 hq).1
  refine ⟨cs.2.1 q (aY hq),_,?_,cs.2.2 j q _ hq (aE hj)⟩;rw[Array.getElem?_append_left (by omega),List.getElem?_toArray,aE hj]) del (jK [(nx,⟨D,nW (oldA++B)⟩)]) (by simp[jK]) (λj hj hne=>by
   simp only[jK];rw[av];intro hb;exact hne (au hb).symm)
 have hexec:(execOp Q.eval o).run P w= .ok (.value (.slice (Z ⟨w.heap.size,0,U⟩) (n+i) Gc)) (w.drew.alloc (.cells ((olds++vs).toArray++mw z.cells (Gc-(n+i))) D)):=by
  unfold execOp;rw[ho];simp[resolve,invoke,builtin,fk,wD,cR,List.map_toArray,bY,wJ,hsl,hrun]
 unfold Oper.wp;rw[hexec];refine ⟨_,φ',rfl,p2,p3,p4,.G p1 hgc hgm ⟨D,?_⟩⟩;have:=(Pb w (.cells ((olds++vs).toArray++mw z.cells (Gc-(n+i))) D (0,0))).at_;unfold s_;have hzs:=Ko z2 hzl (Gc-(n+i));have e1:(n+i)*m.size+(Gc-(n+i))*m.size=Gc*m.size:=by rw[<- Nat.add_mul];congr 1;omega
 grind
def aty {u el el':TypeId} {t:Operand} (ho:o.op= .call {callee:=.builtin .append,args:=#[t,c],argTypes:=#[s,u]}) (hu:P.underlying s=Z (.slice el)) (hu':P.underlying u=Z (.slice el')) (hs:fE P el=Z i) (hb:Hy P el=Z j) (hz:uz P el=Z N) (hzl:l! N=i) (hsz:i≠0)
 (L:dx (.app el i j t c) e h nx=Z R):fZ P o e.get h.get R.eff:=by
 let⟨sz,i1,i2⟩:=Qo hb;have i3:sz.size=i:=by unfold fE at hs;rw[i1]at hs;simpa using hs
 subst i2 i3;simp only[dx]at L;split at L
 .rename_i bv y hsv D;split at L
  .rename_i src m rd hrow;have common:∀{φ:PM} {E:Nat->Prop} {h':HF} {w:World} {a:Act},(∀sz∈rd,h' sz=h.get sz)->W_ φ E h' w a e o->sh φ E h' w->∃vs,Src P sz.size u (a.eval c) m vs w/\Cs φ (tot E φ h') w src vs:=
    λhrd hp hrep=>aju hrow hrd hrep (hp c _ (by rw[ho];simp[Op.operands,dC]) D) hu'
   have exec:∀{w w':World} {a:Act} {v:Value},(HR #[s,u] o.type #[a.eval t,a.eval c]).run P w= .ok v w'->(execOp a.eval o).run P w= .ok (.value v) w':=by
    intro w w' a v hrun;unfold execOp;rw[ho];simp[resolve,invoke,builtin,hrun]
   split at L
   .rename_i id sz' n;split at L
    .rename_i blk hblk;split at L
     .rename_i hc;simp only[al,cV,cS]at hc;obtain⟨⟨⟨⟨⟨rfl,hmem⟩,hcells⟩,hlen⟩,hty⟩,hroom⟩:=hc;have hlen:=aV hlen;rw[BC.len_toMx hcells]at hlen;let⟨r1,r2⟩:=EE hroom;cases L;subst hty;intro φ E h' w a h1 h2 h3 hrep h5;have hp:W_ φ E h' w a e o:=λc y D hy=>uV hrep h3 D hy
      have hb':h' id=Z blk:=by rw[h1 id (by simp[Cu.eff])];exact hblk
      let⟨vs,hsrc,hcs⟩:=common (λsz hi=>h1 sz (by simp[Cu.eff,hi])) hp hrep;have hpd:=hp t _ (by rw[ho];simp[Op.operands,dC]) hsv;have hnx:φ nx=U:=h5 nx (by simp[Cu.eff]);have hwv:=hp t _ (by rw[ho];simp[Op.operands,dC]) hsv;generalize hzv:a.eval t=pv at hpd;cases hpd with
      |@G _ _ _ cap k hφ hn hcap hsh=>
       let⟨arr,g1,g2,g3⟩:=hrep.cs hb' hφ hcells;have hne:nx≠id:=λe=>by rw[e,hφ]at hnx;cases hnx
       have harr:arr.size=cap*sz.size:=by
        let⟨ty,hty⟩:=hsh;unfold s_ at hty;rw[g1]at hty;simp at hty;exact hty.2
       have hnl:=hsrc.newsLen;have hnn:n*sz.size<=arr.size:=by omega
       have csnew:Cs φ (tot E φ h') w (blk.c.toMx.take (n*sz.size)++src) (arr.toList.take (n*sz.size)++vs):=by
        have:=(g2.take (n*sz.size)).append hcs
        rwa [List.take_take,HO hlen]at this
       have hnw1:jK [(nx,⟨blk.ty,nW (blk.c.toMx.take (n*sz.size)++src)⟩)] nx=Z ⟨blk.ty,nW (blk.c.toMx.take (n*sz.size)++src)⟩:=by simp[jK]
       have hnw2:jK [(nx,⟨blk.ty,nW (blk.c.toMx.take (n*sz.size)++src)⟩)] id=U:=by
        simp only[jK];rw[av];intro hb;exact hne (au hb)
       by_cases hfit:n+m<=cap
       ·
        have hend:n*sz.size+l! vs<=arr.size:=by
         rw[hnl,harr,<-Nat.add_mul];exact cK _ hfit
        have hst:=run_storeCells_at (P:=P) k (n*sz.size) blk.ty vs 0 arr w g1 (by omega) hsrc.one;simp only[cW]at hst
        let arr':Array Value:=(arr.toList.take (n*sz.size)++vs++arr.toList.drop (n*sz.size+l! vs)).toArray
        have hsize:arr'.size=arr.size:=by simp only[arr',B8,bc,bR,sr,Array.length_toList];omega
        have hrun:(HR #[s,u] o.type #[a.eval t,a.eval c]).run P w= .ok (.slice (Z ⟨k,0,U⟩) (n+m) cap) (w.setRow k arr'):=by
         rw[hzv];rcases hsrc.kind with ⟨e',hk⟩|hk<;>simp[HR,run_underlying hu,run_underlying hk,sizeOf,typeInfo,i1,hsrc.len,hfit,hsrc.cells,kK,hst,arr']
        let⟨φ',p1,p2,p3,p4⟩:=hrep.wren hb' hφ hnx (HH.setRow g1 hsize) (b':=⟨blk.ty,nW (blk.c.toMx.take (n*sz.size)++src)⟩) (by
         let⟨q1,q2⟩:=nA (blk.c.toMx.take (n*sz.size)++src);refine ry q2 (by rw[q1,<-csnew.1,hsize];simp;omega) λbytes q hq=>?_
         rw[q1]at hq;have hj:bytes<l! (arr.toList.take (n*sz.size)++vs):=by rw[csnew.1];exact (bB.1 hq).1
         refine ⟨csnew.2.1 q (aY hq),_,?_,csnew.2.2 bytes q _ hq (aE hj)⟩;simp only[arr',List.getElem?_toArray];rw[bC hj,aE hj]) _ hnw1 hnw2
        unfold Oper.wp;rw[exec hrun];refine ⟨_,φ',rfl,p2,p3,p4,.G p1 hfit hcap ⟨blk.ty,?_⟩⟩;unfold s_;rw[setRow_heap w k arr arr' blk.ty (0,0) g1];simp[hsize,harr]
       ·
        have hold:(z_ sz.size n (.slice (Z ⟨k,0,U⟩) n cap)).run P w.drew= .ok (arr.toList.take (n*sz.size)).toArray w.drew:=by
         refine run_firstCells_some w.drew sz.size n _ n cap _ (by simp;omega) λbytes v z=>?_
         rw[eL]at z;split at z
         .rw[cU]at z;rw[kK,bT];have hcl:w.cell? ⟨k,bytes,U⟩=Z v:=by simp[Qz,g1,z]
          simpa using hcl
         .cases z
        exact Nf ho hu i1 hz hzl hrep hnx hzv hold (by
         have:=g2.take (n*sz.size)
         rwa [List.take_take,HO hlen]at this) (by simp;omega) hsrc hcs (by omega) r1 r2 [id] (λbytes hj=>by simp at hj;subst hj;exact λe=>hne e.symm)
     .cases L
    .cases L
   .rename_i cells n;split at L
    .rename_i hc;simp only[al]at hc;let⟨hlen,hroom⟩:=hc;have hlen:=aV hlen;let⟨r1,r2⟩:=EE hroom;split at L
     .rename_i hm;have hm:m=0:=by simpa using hm
      subst hm;cases L;refine fZ.reads λφ E h' w a hrd hp hrep=>?_
      let⟨vs,hsrc,hcs⟩:=common hrd hp hrep;have hr:=hp t _ (by rw[ho];simp[Op.operands,dC]) hsv;generalize hz:a.eval t=q at hr;cases hr with
      |@qm _ _ A hr=>
       refine ⟨.slice A n n,exec ?_,.f hr⟩;rw[hz];have hvs:vs=[]:=by have:=hsrc.newsLen;simpa using this
       have hc0:=hsrc.cells;rw[hvs]at hc0;rcases hsrc.kind with ⟨e',hk⟩|hk<;>cases A<;>simp[HR,run_underlying hu,run_underlying hk,sizeOf,typeInfo,i1,hsrc.len,hc0,storeCells]
     .rename_i hm;have hm:m≠0:=by simpa using hm
      cases L;intro φ E h' w a h1 h2 h3 hrep h5;have hp:W_ φ E h' w a e o:=λc y D hy=>uV hrep h3 D hy
      let⟨vs,hsrc,hcs⟩:=common (λsz hi=>h1 sz hi) hp hrep;have hr:=hp t _ (by rw[ho];simp[Op.operands,dC]) hsv;generalize hz':a.eval t=q at hr;cases hr with
      |@qm _ _ A hr=>
       have key:∃olds:ξ,(z_ sz.size n (.slice A n n)).run P w.drew= .ok olds.toArray w.drew/\Cs φ (tot E φ h') w ((cells.take (n*sz.size)).map .f) olds/\l! olds=n*sz.size:=by
        cases hr with
        |nil a x _=>
         refine ⟨[],?_,⟨by simp,(by intro c D;simp at D),(by intro bytes c v D;simp at D)⟩,by simp⟩;cases A with
         |none=>exact run_firstCells_none w.drew sz.size 0 0 0
         |some ad=>exact run_firstCells_some w.drew sz.size 0 ad 0 0 [] (by simp) (by intro bytes v z;simp at z)
        |sl _ _ x b off us hn hc hO hb hcl hu2 hrr=>
         refine ⟨(iN (n*sz.size)).map us,?_,⟨by simp;omega,?_,?_⟩,by simp⟩
         .refine run_firstCells_some w.drew sz.size n _ n n _ (by simp) λbytes v z=>?_
          rw[bz]at z;rcases bG bytes (n*sz.size) with hj|hj
          .rw[xE hj]at z;simp only[bn,af]at z;subst z;rw[kK];exact hu2 bytes (by omega)
          .rw[c5 (by simpa using hj)]at z;cases z
         .intro c D;obtain⟨y,hy,rfl⟩:=cj.1 D;exact hcl y (jU hy)
         .intro bytes c v D z;rw[bz,eL]at D;split at D
          .rename_i hj;rw[bz,xE hj]at z;simp only[bn,af]at z;subst z;cases hcj:cells[bytes]? with
           |none=>rw[hcj]at D;cases D
           |some y=>
            rw[hcj]at D;simp only[bn,af]at D;subst D;exact .f (hrr bytes y hcj)
          .cases D
       let⟨olds,k1,k2,k3⟩:=key;have:=Nf (nx:=nx) ho hu i1 hz hzl hrep (h5 nx (by simp[Cu.eff])) hz' k1 k2 k3 hsrc hcs (by omega) r1 r2 [] (by simp);simpa[Cu.eff] using this
    .cases L
   .split at L
    .rename_i hc;simp only[al]at hc;let⟨hb0,hroom⟩:=hc;let⟨r1,r2⟩:=EE hroom;have hbase:∀{φ:PM} {O:Nat->Prop} {w:World} {v:Value},co φ O w bv v->∃A,v= .slice A 0 0:=by
      intro φ O w v hr;unfold D3 at hb0;split at hb0
      .cases hr;exact⟨_,rfl⟩
      .rename_i q;cases eX hr;unfold uQ at hb0;split at hb0
       .exact⟨_,rfl⟩
       .cases hb0
      .cases hb0
     split at L
     .rename_i hm;have hm:m=0:=by simpa using hm
      subst hm;cases L;refine fZ.reads λφ E h' w a hrd hp hrep=>?_
      let⟨vs,hsrc,hcs⟩:=common hrd hp hrep;have hr:=hp t _ (by rw[ho];simp[Op.operands,dC]) hsv;let⟨A,hA⟩:=hbase hr;refine ⟨a.eval t,exec ?_,hr⟩;rw[hA];have hvs:vs=[]:=by have:=hsrc.newsLen;simpa using this
      have hc0:=hsrc.cells;rw[hvs]at hc0;rcases hsrc.kind with ⟨e',hk⟩|hk<;>cases A<;>simp[HR,run_underlying hu,run_underlying hk,sizeOf,typeInfo,i1,hsrc.len,hc0,storeCells]
     .rename_i hm;have hm:m≠0:=by simpa using hm
      cases L;intro φ E h' w a h1 h2 h3 hrep h5;have hp:W_ φ E h' w a e o:=λc y D hy=>uV hrep h3 D hy
      let⟨vs,hsrc,hcs⟩:=common (λsz hi=>h1 sz hi) hp hrep;let⟨A,hA⟩:=hbase (hp t _ (by rw[ho];simp[Op.operands,dC]) hsv);have hold:(z_ sz.size 0 (.slice A 0 0)).run P w.drew= .ok ([]:ξ).toArray w.drew:=by
       cases A with
       |none=>exact run_firstCells_none w.drew sz.size 0 0 0
       |some ad=>exact run_firstCells_some w.drew sz.size 0 ad 0 0 [] (by simp) (by intro bytes v z;simp at z)
      have:=Nf (nx:=nx) (n:=0) (cap:=0) (olds:=[]) (oldA:=[]) ho hu i1 hz hzl hrep (h5 nx (by simp[Cu.eff])) hA hold ⟨rfl,(by intro c D;cases D),(by intro bytes c v D;simp at D)⟩ (by simp) hsrc hcs (by omega) (by omega) (by simpa using r2) [] (by simp);simpa[Cu.eff] using this
    .cases L
  .cases L
 .cases L
end
section
variable {P:Program} {o:Oper} {e:DE} {h:mQ} {nx:Nat} {R:Cu}
def atk (D:o.op= .makeMap s U) (z:dx .mkm e h nx=Z R):fZ P o e.get h.get R.eff:=by
 simp[dx,af]at z;subst z;refine fZ.makes λφ E h' w a _ _ _=>?_
 refine ⟨.map (Z w.heap.size),{w with heap:=w.heap.push (.map #[] 0)},.map #[] 0,?_,sK w _,⟨#[],0,rfl,by unfold Wy;rw[aD rfl];rfl,by intro j x A;simp at A⟩,λφ' O hφ=>.mp hφ⟩;unfold execOp;rw[D];simp[Instr.makeMap,newObj,io]
def ate (A:o.op= .range s c) (L:P.underlying s=Z .string) (z:dx (.rng c) e h nx=Z R):fZ P o e.get h.get R.eff:=by
 simp[dx]at z;split at z
 .rename_i t D;simp[af]at z;subst z;refine fZ.makes λφ E h' w a _ hp _=>?_
  have N:=eX (hp c _ (by rw[A];simp[Op.operands]) D);refine ⟨.pointer (Z ⟨w.heap.size,0,U⟩),{w with heap:=w.heap.push (.stringIter t 0)},.stringIter t 0,?_,sK w _,rfl,λφ' O hφ=>.H hφ⟩;unfold execOp;rw[A];simp[Instr.range,run_underlying L,N,newObj,io]
 .cases z
def ri {ob ob':Obj} (z:w.heap[i]? =Z ob) (h1:∀c t f,ob≠ .cells c t f) (D:∀c t f,ob'≠ .cells c t f):HH w {w with heap:=w.heap.setIfInBounds i ob'} i ob':=by
 have hlt:i<w.heap.size:=(c7.1 z).1;have hat:(w.heap.setIfInBounds i ob')[i]? =Z ob':=by simp[hlt]
 have hot:∀j,j≠i->(w.heap.setIfInBounds i ob')[j]? =w.heap[j]? :=λj A=>Array.getElem?_setIfInBounds_ne (λe=>A e.symm)
 refine ⟨rfl,rfl,rfl,by simp,hat,hot,λj=>?_⟩;unfold s_
 grind
def atf (ho:o.op= .next c J) (A:dx (.nxt c) e h nx=Z R):fZ P o e.get h.get R.eff:=by
 simp only[dx]at A;split at A
 .rename_i id hx;split at A
  .rename_i ty s p hid;split at A
   .rename_i b hb;cases A;refine fZ.writes hid λφ E h' w a hrd N hp hrep=>?_
    have hr:=hp c _ (by rw[ho];simp[Op.operands]) hx;generalize hz:a.eval c=z at hr;cases hr with
    |@H _ _ k hφ=>
     let⟨k',q1,_,ob,q2,q3⟩:=hrep.at_ id _ N;rw[hφ]at q1;cases q1;have q3:ob= .stringIter s p:=q3;subst q3;have hps:p<s.size:=by
      have:=(bB.1 hb).1;simpa using this
     have hget:s.get! p=b:=by
      have:s.data[p]? =Z b:=by grind
      have hpd:p<s.data.size:=(c7.1 this).1;have h2:s.data[p]! =s.data[p]:=getElem!_pos s.data p hpd;rw[px hpd]at this;simp only[ByteArray.get!,h2];exact fG this
     have hdec:∃x:Nat,Utf8.decode s p=(x,wdA b s p)/\rnA b s p=(x:Int):=by
      unfold wdA rnA;cases hlt:dY b.toNat 128 with
      |true=>
       refine ⟨b.toNat,?_,rfl⟩;have:=aV hlt;unfold Utf8.decode
       grind
      |false=>exact⟨(Utf8.decode s p).1,rfl,rfl⟩
     let⟨x,hdec,hc⟩:=hdec;refine ⟨.value (.tuple #[.bool J,.int .i64 p,.int .i32 x]),_,k,.stringIter s (p+wdA b s p),?_,hφ,ri q2 (by simp) (by simp),rfl,_,.inl rfl,?_⟩
     .unfold execOp;rw[ho];simp[Instr.next,hz,getObj,io,q2,hps,hdec,setObj,goInt]
     .refine co.qg (vs:=[.bool J,.int .i64 p,.int .i32 x]) rfl λj y v D L=>?_
      rw[hc]at D;rcases j with _|_|_|j<;>simp at D L
      .subst D L;exact .f (.raw _)
      .subst D L;exact .f (.raw _)
      .subst D L;exact .f (.raw _)
   .rename_i hb;cases A;refine fZ.writes hid λφ E h' w a hrd N hp hrep=>?_
    have hr:=hp c _ (by rw[ho];simp[Op.operands]) hx;generalize hz:a.eval c=z at hr;cases hr with
    |@H _ _ k hφ=>
     let⟨k',q1,_,ob,q2,q3⟩:=hrep.at_ id _ N;rw[hφ]at q1;cases q1;have q3:ob= .stringIter s p:=q3;subst q3;have hps:¬p<s.size:=by simp_all
     refine ⟨.value (.tuple #[.bool aa]),w,k,.stringIter s p,?_,hφ,⟨rfl,rfl,rfl,rfl,q2,λ_ _=>rfl,λ_=>rfl⟩,rfl,_,.inl rfl,?_⟩
     .unfold execOp;rw[ho];simp[Instr.next,hz,getObj,io,q2,hps]
     .refine co.qg (vs:=[.bool aa]) rfl λj y v D L=>?_
      rcases j with _|j<;>simp at D L;subst D L;exact .f (.raw _)
  .cases A
 .cases A
def xa {a b:ByteArray}:tF a b=J↔a=b:=by
 unfold tF;constructor
 .intro h;have h1:a.data.toList=b.data.toList:=by grind
  cases a;simp_all
 .rintro rfl;simp
def Cq (a b:ByteArray):(a==b)=tF a b:=by
 have h1:(a==b)=(a.data==b.data):=rfl;rw[h1,Bool.eq_iff_iff,xa,cV];constructor
 .intro h;cases a;congr 1
 .rintro rfl;rfl
def kd (str:Bool) (d:TypeDesc):Prop:=if str then d= .string else ∃k,d= .int k
def AX {str:Bool} {d:TypeDesc} (hd:kd str d) {k:Value} (D:yd str k=J) (z:uW .eql k v=Z (.bool b)):Instr.sameNow d k v=Z b:=by
 cases str with
 |true=>
  subst hd;cases k<;>simp[yd]at D;cases v<;>simp only[uW]at z<;>try (simp at z;done)
  simp[af,Eh]at z;simp[Instr.sameNow,Cq,z]
 |false=>
  obtain⟨q,rfl⟩:=hd;cases k<;>simp[yd]at D;cases v<;>simp only[uW]at z<;>try (simp at z;done)
  split at z
  next hkk=>have hkk':=eq_of_beq hkk;subst hkk';simp[af,Eh]at z;simp[Instr.sameNow,<-z]
  .cases z
def UY {d:TypeDesc} (hd:kd b d) (L:yd b v=J):∀(es:Y j!) (ents:Y MapEntry) (i:Nat),ents.map (·.key)=es.map (·.1)->∀r,te v es=Z r->
 (r=U/\eY d v ents i=Z U)\/∃(j:Nat) (k:AV) (m:MapEntry) (A:Value),r=Z k/\es[j]? =Z (A,k)/\ents[j]? =Z m/\eY d v ents i=Z (Z (i+j,m.val))/\uW .eql v A=Z (.bool J)
 |[],ents,i,he,r,h=>by
  cases ents with
  |nil=>simp[te,af]at h;exact .inl ⟨h.symm,rfl⟩
  |cons _ _=>simp at he
 |(A,k)::es,ents,i,he,r,h=>by
  cases ents with
  |nil=>simp at he
  |cons m ents=>
   simp[bY,eA]at he;let⟨z,N⟩:=he;simp[te]at h;split at h
   next D=>simp[af]at h;refine .inr ⟨0,k,m,A,h.symm,rfl,rfl,?_,D⟩;simp only[eY];rw[z,AX hd L D];rfl
   .rename_i D;have hs:=AX hd L D;rcases UY hd L es ents (i+1) N r h with ⟨h1,h2⟩|⟨j,v',m',k'',h1,h2,h3,h4,h5⟩
    .refine .inl ⟨h1,?_⟩;simp[eY];rw[z,hs];exact h2
    .refine .inr ⟨j+1,v',m',k'',h1,by simpa using h2,by simpa using h3,?_,h5⟩;simp[eY]
     grind
   .cases h
def uL {d:TypeDesc} (A:P.underlying s=Z d) (hd:kd b d) (str:Bool) (v:Value) (w:World):(mj str 10000 s v).run P w= .ok () w:=by
 have key:∀n,(mj str (n+1) s v).run P w= .ok () w:=λn=>by
  unfold kd at hd;cases b with
  |true=>simp[bh]at hd;subst hd;simp[mj,run_underlying A]
  |false=>simp[ca,dv]at hd;obtain⟨q,rfl⟩:=hd;simp[mj,run_underlying A]
 exact key 9999
def afo {ok:Bool} (h:co V O w y v):co V O w (pkV ok y b) (if ok then .tuple #[v,.bool b] else v):=by
 cases ok with
 |false=>exact h
 |true=>
  refine co.qg (vs:=[v,.bool b]) rfl λj x u z A=>?_
  rcases j with _|_|j<;>simp at z A
  .grind
  .subst z A;exact .f (.raw _)
variable {a:Int}
def S9 :∀{es:Y j!},told a es=Z y->∃j:Nat,es[j]? =Z (.int .i64 a,y)
 |(.int .i64 k,A)::r,h=>by
  simp[told]at h;split at h
  next e=>subst e;cases h;exact⟨0,rfl⟩
  .obtain⟨j,z⟩:=S9 h;exact⟨j+1,z⟩
def jI {m:MapEntry} {r:Y MapEntry} (hm:yf m.key) (z:yf v):(m.key=v->lx v (m::r)=m.val)/\(m.key≠v->lx v (m::r)=lx v r):=by
 let⟨a,A⟩:=hm;obtain⟨b,rfl⟩:=z;have e0:lx (.int .i64 b) (m::r)=if a=b then m.val else lx (.int .i64 b) r:=by simp[lx,A]
 grind
def He {d:TypeDesc} (hd:kd aa d) (n:Int):∀(ents:Y MapEntry) (i:Nat),(∀m∈ents,yf m.key)->
 (eY d (.int .i64 n) ents i=Z U/\lx (.int .i64 n) ents= .slice U 0 0/\∀(k:Value) (m':MapEntry),m'.key= .int .i64 n->yf k->(k= .int .i64 n->lx k (ents++[m'])=m'.val)/\(k≠ .int .i64 n->lx k (ents++[m'])=lx k ents))\/
 ∃(j:Nat) (m:MapEntry),ents[j]? =Z m/\eY d (.int .i64 n) ents i=Z (Z (i+j,m.val))/\lx (.int .i64 n) ents=m.val/\m.key= .int .i64 n/\∀(k:Value) (m':MapEntry),m'.key= .int .i64 n->yf k->(k= .int .i64 n->lx k (ents.set j m')=m'.val)/\(k≠ .int .i64 n->lx k (ents.set j m')=lx k ents)
 |[],i,_=>by
  refine .inl ⟨rfl,rfl,λk m' hm z=>⟨λe=>?_,λe=>?_⟩⟩
  .exact (jI (r:=[]) ⟨n,hm⟩ z).1 (hm.trans e.symm)
  .exact (jI (r:=[]) ⟨n,hm⟩ z).2 (λq=>e (q.symm.trans hm))
 |m::r,i,h=>by
  have hmk:=h m (cP ..);let⟨a,A⟩:=hmk;have hb:uW .eql (.int .i64 n) (.int .i64 a)=Z (.bool (n==a)):=by simp[uW]
  have hs:=AX hd (k:=.int .i64 n) rfl hb;by_cases e:n=a
  .subst e;refine .inr ⟨0,m,rfl,?_,(jI ⟨n,A⟩ ⟨n,rfl⟩).1 A,A,λk m' hm z=>⟨λe=>?_,λe=>?_⟩⟩
   .simp[eY];rw[A,hs];simp
   .exact (jI (r:=r) ⟨n,hm⟩ z).1 (hm.trans e.symm)
   .show lx k (m'::r)=_;rw[(jI (r:=r) ⟨n,hm⟩ z).2 (λq=>e (q.symm.trans hm)),(jI (r:=r) ⟨n,A⟩ z).2 (λq=>e (q.symm.trans A))]
  .have L:Instr.sameNow d (.int .i64 n) m.key=Z aa:=by rw[A,hs];simp[e]
   have hne:¬m.key= .int .i64 n:=λq=>by grind
   have hl:=(jI (r:=r) ⟨a,A⟩ ⟨n,rfl⟩).2 hne;have step:∀(k:Value) (D:Y MapEntry) (m':MapEntry),yf k->m'.key= .int .i64 n->(k= .int .i64 n->lx k D=m'.val)/\(k≠ .int .i64 n->lx k D=lx k r)->(k= .int .i64 n->lx k (m::D)=m'.val)/\(k≠ .int .i64 n->lx k (m::D)=lx k (m::r)):=λk D m' z _ g=>by
    refine ⟨λq=>?_,λq=>?_⟩
    .rw[(jI (r:=D) ⟨a,A⟩ z).2 (λx=>hne (x.trans q))];exact g.1 q
    .by_cases x:m.key=k
     .rw[(jI (r:=D) ⟨a,A⟩ z).1 x,(jI (r:=r) ⟨a,A⟩ z).1 x]
     .rw[(jI (r:=D) ⟨a,A⟩ z).2 x,(jI (r:=r) ⟨a,A⟩ z).2 x];exact g.2 q
   rcases He hd n r (i+1) (λq hq=>h q (bJ _ hq)) with ⟨h1,h2,N⟩|⟨j,q,h1,h2,N,h4,h5⟩
   .refine .inl ⟨?_,by rw[hl];exact h2,λk m' hm z=>step k _ m' z hm (N k m' hm z)⟩;simp[eY];rw[L];exact h1
   .refine .inr ⟨j+1,q,by simpa using h1,?_,by rw[hl];exact N,h4,λk m' hm z=>step k _ m' z hm (h5 k m' hm z)⟩;simp[eY]
    grind
def HS :∀{es:Y j!} {j:Nat} {q:j!},(my a y es)[j]? =Z q->∃p,es[j]? =Z p/\q.1=p.1/\(p.1= .int .i64 a->q.2=y)/\(p.1≠ .int .i64 a->q.2=p.2)
 |[],j,q,h=>by simp[my]at h
 |p::r,0,q,h=>by
  simp[my,fJ,af]at h
  grind
 |p::r,j+1,q,h=>by
  simp[my,ms]at h;let⟨z,h1,A⟩:=HS h
  grind
def Ew (n:Int) (y:AV):∀es:Y j!,(my n y es).map (·.1)=es.map (·.1)
 |[]=>rfl
 |p::r=>by simp[my,bY];rw[Ew n y r]
def anw {kt el:TypeId} {k:Operand} {str:Bool} {d:TypeDesc} (ho:o.op= .lookup s c k b) (hu:P.underlying s=Z (.map kt el)) (hk:P.underlying kt=Z d) (hd:kd str d) (L:(P.info? el).bind (·.zero)=Z v) (A:dx (.jy str b v c k) e h nx=Z R):fZ P o e.get h.get R.eff:=by
 simp only[dx]at A;split at A
 .rename_i id key hx hkx;split at A
  .rename_i es hid;split at A
   .rename_i hko;have fin:∀val:AV,(∀(φ:PM) (E:Nat->Prop) (h':HF) (w:World) (a:Act),h' id=Z ⟨0,.mp es⟩->W_ φ E h' w a e o->sh φ E h' w->∃z,(execOp a.eval o).run P w= .ok (.value z) w/\co φ (tot E φ h') w val z)->R=⟨val,[id],[],[],[]⟩->fZ P o e.get h.get R.eff:=by
     rintro val hv rfl;exact fZ.reads λφ E h' w a hrd hp hrep=>hv φ E h' w a (by rw[hrd id (by simp)];exact hid) hp hrep
    have zrun:∀w:World,(zeroValue el).run P w= .ok v w:=λw=>by
     cases hi:P.info? el with
     |none=>rw[hi]at L;cases L
     |some i=>rw[hi]at L;simp only[aC]at L;simp[zeroValue,typeInfo,hi,L]
    have main:∀r,te key es=Z r->∀(φ:PM) (E:Nat->Prop) (h':HF) (w:World) (a:Act),h' id=Z ⟨0,.mp es⟩->W_ φ E h' w a e o->sh φ E h' w->
     ∃z,(execOp a.eval o).run P w= .ok (.value z) w/\co φ (tot E φ h') w (match r with|some z=>pkV b z J|none=>pkV b (raw v) aa) z:=by
     intro r hr φ E h' w a hb' hp hrep;have hrx:=hp c _ (by rw[ho];simp[Op.operands]) hx;have hrk:=eX (hp k _ (by rw[ho];simp[Op.operands]) hkx);generalize D:a.eval c=zz at hrx;cases hrx with
     |@mp _ ok hφ=>
      let⟨k',q1,_,ob,q2,q3⟩:=hrep.at_ id _ hb';rw[hφ]at q1;cases q1;obtain⟨ents,clock,rfl,q4,q5⟩:=q3;have q4:ents.toList.map (·.key)=es.map (·.1):=by unfold Wy at q4;rw[aD rfl]at q4;exact q4
      have hck:=uL (P:=P) hk hd ents.isEmpty key w;rcases UY hd hko es ents.toList 0 q4 r hr with ⟨h1,h2⟩|⟨j,z,m,k',h1,h2,h3,h4,_⟩
      .subst h1;refine ⟨_,?_,afo (.f (.raw v))⟩;unfold execOp;rw[ho];cases b<;>simp[JW,run_underlying hu,D,hrk,getObj,io,q2,hck,lO,run_underlying hk,h2,zrun]
      .subst h1;let⟨_,N,h7⟩:=q5 j _ h2;unfold MpV at N;rw[aD rfl]at N;obtain⟨m',N,rfl⟩:=N;rw[cU]at h3;rw[h3]at N;cases N;refine ⟨_,?_,afo h7⟩;unfold execOp;rw[ho];cases b<;>simp[JW,run_underlying hu,D,hrk,getObj,io,q2,hck,lO,run_underlying hk,h4]
    split at A
    next z hf=>simp only[af]at A;exact fin _ (main _ hf) A.symm
    next hf=>simp only[af]at A;exact fin _ (main _ hf) A.symm
    .cases A
   .cases A
  .rename_i ty es hid;split at A
   .rename_i n;split at A
    .rename_i hc;split at A
     .rename_i z hv;cases A;cases str with
      |true=>simp at hc
      |false=>
      cases b with
      |true=>simp at hc
      |false=>
      have hz0:v= .slice U 0 0:=by
       simp only[mm,dU]at hc;unfold uQ at hc;split at hc
       .rfl
       .cases hc
      subst hz0;have zrun:∀w:World,(zeroValue el).run P w= .ok (.slice U 0 0) w:=λw=>by
       cases hi:P.info? el with
       |none=>rw[hi]at L;cases L
       |some i=>rw[hi]at L;simp only[aC]at L;simp[zeroValue,typeInfo,hi,L]
      refine fZ.reads λφ E h' w a hrd hp hrep=>?_
      have hb':h' id=Z ⟨ty+1,.mp es⟩:=by rw[hrd id (by simp)];exact hid
      have hrx:=hp c _ (by rw[ho];simp[Op.operands]) hx;have hrk:=eX (hp k _ (by rw[ho];simp[Op.operands]) hkx);generalize D:a.eval c=zz at hrx;cases hrx with
      |@mp _ ok hφ=>
       let⟨k',q1,_,ob,q2,q3⟩:=hrep.at_ id _ hb';rw[hφ]at q1;cases q1;obtain⟨ents,clock,rfl,q4,q5⟩:=q3;unfold Wy at q4;rw[av (by simp)]at q4;let⟨j,hj⟩:=S9 hv;let⟨v',N,h7⟩:=q5 j _ hj;unfold MpV at N;rw[av (by simp)]at N;subst N;have hck:=uL (P:=P) hk hd ents.isEmpty (.int .i64 n) w;rcases He hd n ents.toList 0 q4.1 with ⟨h1,h2,_⟩|⟨i,m,h1,h2,h3,_⟩
       .rw[h2]at h7;refine ⟨_,?_,h7⟩;unfold execOp;rw[ho];simp[JW,run_underlying hu,D,hrk,getObj,io,q2,hck,lO,run_underlying hk,h1,zrun]
       .rw[h3]at h7;refine ⟨_,?_,h7⟩;unfold execOp;rw[ho];simp[JW,run_underlying hu,D,hrk,getObj,io,q2,hck,lO,run_underlying hk,h2]
     .cases A
    .cases A
   .cases A
  .cases A
 .cases A
def Zz {d:TypeDesc} (hd:kd b d) (N:yd b v=J) {k:AV}:∀(es es':Y j!) (ents:Y MapEntry) (i:Nat),ents.map (·.key)=es.map (·.1)->zu v k es=Z es'->
 (eY d v ents i=Z U/\es'=es++[(v,k)])\/∃(j:Nat) (m:MapEntry) (A:Value) (L:AV),es[j]? =Z (A,L)/\ents[j]? =Z m/\eY d v ents i=Z (Z (i+j,m.val))/\uW .eql v A=Z (.bool J)/\es'=es.set j (v,k)
 |[],es',ents,i,he,h=>by
  cases ents with
  |nil=>simp[zu,af]at h;exact .inl ⟨rfl,by simp[h]⟩
  |cons _ _=>simp at he
 |(A,L)::es,es',ents,i,he,h=>by
  cases ents with
  |nil=>simp at he
  |cons m ents=>
   simp[bY,eA]at he;let⟨z,he2⟩:=he;simp[zu]at h;split at h
   next D=>simp[af]at h;refine .inr ⟨0,m,A,L,rfl,rfl,?_,D,by simp[h]⟩;simp only[eY];rw[z,AX hd N D];rfl
   .rename_i D;have hs:=AX hd N D;split at h
    .rename_i es2 hes2;simp[af]at h;subst h;rcases Zz hd N es es2 ents (i+1) he2 hes2 with ⟨h1,h2⟩|⟨j,m',k'',v'',h1,h2,h3,h4,h5⟩
     .refine .inl ⟨?_,by simp[h2]⟩;simp[eY];rw[z,hs];exact h1
     .refine .inr ⟨j+1,m',k'',v'',by simpa using h1,by simpa using h2,?_,h4,by simp[h5]⟩;simp[eY]
      grind
    .cases h
   .cases h
def ahd {A:Value} (D:yd b v=J) (z:uW .eql v A=Z (.bool J)):i_ 10000 A v=J/\A=v:=by
 cases b with
 |true=>
  cases v<;>simp[yd]at D;cases A<;>simp only[uW]at z<;>try (simp at z;done)
  simp[af,Eh]at z;have:=xa.1 z;subst this;exact⟨by simp[i_,Cq,z],rfl⟩
 |false=>
  cases v<;>simp[yd]at D;cases A<;>simp only[uW]at z<;>try (simp at z;done)
  split at z
  next hkk=>have hkk':=eq_of_beq hkk;subst hkk';simp[af,Eh,cV]at z;subst z;exact⟨by simp[i_],rfl⟩
  .cases z
def anv {kt el:TypeId} {k y:Operand} {str:Bool} {d:TypeDesc} (N:o.op= .mapUpdate s c k y) (hu:P.underlying s=Z (.map kt el)) (hk:P.underlying kt=Z d) (hd:kd str d) (z:dx (.jv str c k y) e h nx=Z R):fZ P o e.get h.get R.eff:=by
 simp only[dx]at z;split at z
 .rename_i id key v L hkx hy;split at z
  .rename_i es hid;split at z
   .rename_i hko;split at z
    .rename_i es' hput;cases z;refine fZ.writes hid λφ E h' w a hrd hb' hp hrep=>?_
     have hrx:=hp c _ (by rw[N];simp[Op.operands]) L;have hrk:=eX (hp k _ (by rw[N];simp[Op.operands]) hkx);have hry:=hp y _ (by rw[N];simp[Op.operands]) hy;generalize D:a.eval c=zz at hrx;cases hrx with
     |@mp _ b hφ=>
      let⟨k',q1,_,ob,q2,q3⟩:=hrep.at_ id _ hb';rw[hφ]at q1;cases q1;obtain⟨ents,clock,rfl,q4,q5⟩:=q3;have q4:ents.toList.map (·.key)=es.map (·.1):=by unfold Wy at q4;rw[aD rfl]at q4;exact q4
      have q5:∀(j:Nat) c,es[j]? =Z c->∃m,ents[j]? =Z m/\co φ (tot E φ h') w c.2 m.val:=λj c L=>by
       let⟨_,A,g2⟩:=q5 j c L;unfold MpV at A;rw[aD rfl]at A;obtain⟨m,A,rfl⟩:=A;exact⟨m,A,g2⟩
      have H7:∀(es:Y j!) (ents:Array MapEntry) (clock:Nat),ents.toList.map (·.key)=es.map (·.1)->(∀(j:Nat) c,es[j]? =Z c->∃m,ents[j]? =Z m/\co φ (tot E φ h') w c.2 m.val)->gR φ (tot E φ h') w ⟨0,.mp es⟩ (.map ents clock):=λes ents clock A g2=>⟨ents,clock,rfl,by unfold Wy;rw[aD rfl];exact A,λj c L=>by
       let⟨m,g3,g4⟩:=g2 j c L;exact⟨_,by unfold MpV;rw[aD rfl];exact⟨m,g3,rfl⟩,g4⟩⟩
      have hck:=uL (P:=P) hk hd aa key w;have hlen:ents.size=l! es:=by have:=eW ah q4;simpa using this
      rcases Zz hd hko es es' ents.toList 0 q4 hput with ⟨h1,rfl⟩|⟨j,m,k',v',h1,h2,h3,h4,rfl⟩
      .refine ⟨.skip,_,b,.map (ents.push {key,val:=a.eval y,born:=clock}) (clock+1),?_,hφ,ri q2 (by simp) (by simp),H7 _ _ _ (by simp[q4]) λj q hq=>?_,undef,.inr ⟨rfl,rfl⟩,.f (.raw _)⟩
       .unfold execOp;rw[N];simp[yQ,run_underlying hu,D,hrk,getObj,io,q2,hck,lO,run_underlying hk,h1,setObj]
       .rcases bG j (l! es) with hj|hj
        .grind
        .rw[bS hj]at hq;have hj0:j-l! es=0:=by grind
         rw[hj0]at hq;simp at hq;subst hq;exact⟨_,by rw[Array.getElem?_push,aD (by omega)],hry⟩
      .obtain⟨s1,s2⟩:=ahd hko h4;subst s2;rw[cU]at h2;rw[bT]at h3;have hjl:j<ents.size:=(c7.1 h2).1;have hmk:m.key=k':=by
        have e1:(ents.toList.map (·.key))[j]? =Z m.key:=by rw[bz,cU,h2];rfl
        rw[q4,bz,h1]at e1;simpa using e1.symm
       refine ⟨.skip,_,b,.map (ents.modify j λe=>{e with key:=k',val:=a.eval y}) clock,?_,hφ,ri q2 (by simp) (by simp),H7 _ _ _ ?_ λi q hq=>?_,undef,.inr ⟨rfl,rfl⟩,.f (.raw _)⟩
       .unfold execOp;rw[N];simp[yQ,run_underlying hu,D,hrk,getObj,io,q2,hck,lO,run_underlying hk,h3,setObj,h2,hmk,Instr.keyThatStays,s1]
       .apply B9;intro i;simp only[bz,cU,dG,Array.getElem?_modify];have e2:∀i:Nat,(ents[i]?).map (λm:MapEntry=>m.key)=(es[i]?).map (λp:Value×AV=>p.1):=λi=>by
         have:=eW (λl=>l[i]?) q4;simpa[bz,cU] using this
        grind
       .grind
    .cases z
   .cases z
  .rename_i ty es hid;split at z
   .rename_i n;split at z
    .cases z
    .rename_i hstr;have hstr:str=aa:=by simpa using hstr
     subst hstr;cases z;refine fZ.writes hid λφ E h' w a hrd hb' hp hrep=>?_
     have hrx:=hp c _ (by rw[N];simp[Op.operands]) L;have hrk:=eX (hp k _ (by rw[N];simp[Op.operands]) hkx);have hry:=hp y _ (by rw[N];simp[Op.operands]) hy;generalize D:a.eval c=zz at hrx;cases hrx with
     |@mp _ b hφ=>
      let⟨k',q1,_,ob,q2,q3⟩:=hrep.at_ id _ hb';rw[hφ]at q1;cases q1;obtain⟨ents,clock,rfl,q4,q5⟩:=q3;unfold Wy at q4;rw[av (by simp)]at q4;have q5:∀(j:Nat) c,es[j]? =Z c->co φ (tot E φ h') w c.2 (lx c.1 ents.toList):=λj c L=>by
       let⟨_,A,g2⟩:=q5 j c L;unfold MpV at A;rw[av (by simp)]at A;subst A;exact g2
      have mk1:∀(ents':Array MapEntry) (clock:Nat),(∀m∈ents'.toList,yf m.key)->(∀k,yf k->(k= .int .i64 n->lx k ents'.toList=a.eval y)/\(k≠ .int .i64 n->lx k ents'.toList=lx k ents.toList))->gR φ (tot E φ h') w ⟨ty+1,.mp (my n v es)⟩ (.map ents' clock):=λents' clock A g2=>⟨ents',clock,rfl,by unfold Wy;rw[av (by simp),Ew];exact⟨A,q4.2⟩,λj c L=>by
       let⟨p,g3,g4,g5,g6⟩:=HS L;have hI:=q4.2 p.1 (cj.2 ⟨p,aY g3,rfl⟩);refine ⟨_,by unfold MpV;rw[av (by simp)],?_⟩;rw[g4];by_cases e:p.1= .int .i64 n
       .rw[(g2 _ hI).1 e,g5 e];exact hry
       .rw[(g2 _ hI).2 e,g6 e];exact q5 j p g3⟩
      have hck:=uL (P:=P) hk hd aa (.int .i64 n) w;rcases He hd n ents.toList 0 q4.1 with ⟨h1,_,h3⟩|⟨j,m,h2,h3,_,h4,h5⟩
      .refine ⟨.skip,_,b,.map (ents.push {key:=.int .i64 n,val:=a.eval y,born:=clock}) (clock+1),?_,hφ,ri q2 (by simp) (by simp),mk1 _ _ (λm hm=>?_) λk hk=>?_,undef,.inr ⟨rfl,rfl⟩,.f (.raw _)⟩
       .unfold execOp;rw[N];simp[yQ,run_underlying hu,D,hrk,getObj,io,q2,hck,lO,run_underlying hk,h1,setObj]
       .rw[Array.toList_push]at hm;rcases bA.1 hm with hm|hm
        .exact q4.1 m hm
        .rw[aB.1 hm];exact⟨n,rfl⟩
       .rw[Array.toList_push];exact h3 k _ rfl hk
      .rw[cU]at h2;rw[bT]at h3;let⟨hjl,hjm⟩:=c7.1 h2;have s1:i_ 10000 (.int .i64 n) (.int .i64 n)=J:=by simp[i_]
       have hl:(ents.modify j λe=>{e with key:=.int .i64 n,val:=a.eval y}).toList=ents.toList.set j {m with key:=.int .i64 n,val:=a.eval y}:=by
        apply B9
        grind
       refine ⟨.skip,_,b,.map (ents.modify j λe=>{e with key:=.int .i64 n,val:=a.eval y}) clock,?_,hφ,ri q2 (by simp) (by simp),mk1 _ _ (λq hm=>?_) λk hk=>?_,undef,.inr ⟨rfl,rfl⟩,.f (.raw _)⟩
       .unfold execOp;rw[N];simp[yQ,run_underlying hu,D,hrk,getObj,io,q2,hck,lO,run_underlying hk,h3,setObj,h2,h4,Instr.keyThatStays,s1]
       .rw[hl]at hm;rcases List.mem_or_eq_of_mem_set hm with hm|rfl
        .exact q4.1 q hm
        .exact⟨n,rfl⟩
       .rw[hl];exact h5 k _ rfl hk
   .cases z
  .cases z
 .cases z
end
section
variable {P:Program} {o:Oper} {e:DE} {h:mQ} {nx:Nat} {R:Cu}
def KK {d:TypeDesc} (A:P.underlying s=Z d) (hd:(match d with|.int _=>J|.bool=>J|.string=>J|_=>aa)=J) (cs:Array Value) (j:Nat) (v:Value) (z:cs[j]? =Z v) (w:World):(part s cs j).run P w= .ok v w:=by
 unfold part;simp[isAgg,fk,run_underlying A,cR];cases d<;>simp at hd<;>simp[z]
def ach {d:TypeDesc} (z:P.underlying s=Z d) (hd:(match d with|.int _=>J|.bool=>J|.string=>J|_=>aa)=J) {x y:FV} (hxy:vZ d x y=Z b) {u:Value} (L:x= .raw u) (D:y= .raw v) (n:Nat) (w:World):(Op.equalIn (n+1) s u v).run P w= .ok b w:=by
 subst L D;cases d<;>simp at hd<;>cases u<;>cases v<;>simp only[vZ]at hxy<;>first|(cases hxy;done)|skip
 .cases hxy;simp[Op.equalIn,run_underlying z]
 .split at hxy
  next N=>have A:=eq_of_beq N;subst A;cases hxy;simp[Op.equalIn,run_underlying z]
  .cases hxy
 .cases hxy;simp[Op.equalIn,run_underlying z,Cq]
abbrev RK (n:Nat) (xs z:Array Value) (f:Field) (_:M Bool×Unit):Sem (ForInStep (M Bool×Unit)):=
 if f.name≠ "_" then do
  let a←part f.type xs f.offset
  let b←part f.type z f.offset
  let c←Op.equalIn (n+1) f.type a b
  if (!c)=J then pure (ForInStep.done (Z aa,())) else pure (HQ (U,()))
 else pure (HQ (U,()))
def P0 (n:Nat) (w:World) (xs A:Array Value):∀(fs:Y Field) (ds:Y TypeDesc) (a b:Y FV) (k:Nat) (r:Bool),lP P k fs=Z ds->
 (∀(j:Nat) x u,a[j]? =Z x->xs[k+j]? =Z u->x= .raw u\/∀v,x≠ .raw v)->(∀(j:Nat) x u,b[j]? =Z x->A[k+j]? =Z u->x= .raw u\/∀v,x≠ .raw v)->(∀(j:Nat),j<l! a->k+j<xs.size)->(∀(j:Nat),j<l! b->k+j<A.size)->jE ds a b=Z r->
 (forIn fs (U,()) (RK n xs A)).run P w= .ok (if r then (U,()) else (Z aa,())) w
 |[],ds,a,b,k,r,hp,_,_,_,_,he=>by
  simp only[lP,af]at hp;subst hp;cases a<;>cases b<;>simp[jE]at he;subst he;simp
 |f::fs,ds,a,b,k,r,hp,ha,hb,hla,hlb,he=>by
  simp only[lP]at hp;split at hp
  .rename_i d ds' hu hp';split at hp
   .rename_i hc;simp only[al,bne_iff_ne,ne_eq,cV]at hc;let⟨⟨hn,hof⟩,hd⟩:=hc;cases hp;cases a with
    |nil=>cases b<;>simp[jE]at he
    |cons x a=>
     cases b with
     |nil=>simp[jE]at he
     |cons y b=>
      simp only[jE]at he;have N:k<xs.size:=by have:=hla 0 (by simp);omega
      have L:k<A.size:=by have:=hlb 0 (by simp);omega
      have hraw:∀(z:FV) (q:Value),(z= .raw q\/∀v,z≠ .raw v)->(∃v,z= .raw v)->z= .raw q:=by
       rintro z q (h|h) ⟨v,hv⟩
       .exact h
       .exact b8 hv (h v)
      have hxr:∀D,vZ d x y=Z D->x= .raw xs[k]/\y= .raw A[k]:=by
       intro D hbb;have hrr:(∃v,x= .raw v)/\∃v,y= .raw v:=by
        unfold vZ at hbb;split at hbb
        .exact⟨⟨_,rfl⟩,⟨_,rfl⟩⟩
        .exact⟨⟨_,rfl⟩,⟨_,rfl⟩⟩
        .exact⟨⟨_,rfl⟩,⟨_,rfl⟩⟩
        .cases hbb
       exact⟨hraw x _ (ha 0 x _ rfl (by simp[N])) hrr.1,hraw y _ (hb 0 y _ rfl (by simp[L])) hrr.2⟩
      have hstep:∀D,vZ d x y=Z D->(RK n xs A f (U,())).run P w= .ok (if D then HQ (U,()) else ForInStep.done (Z aa,())) w:=by
       intro D hbb;let⟨h1,h2⟩:=hxr D hbb;have p1:=KK hu (by cases d<;>simp[DO]at hd<;>rfl) xs k xs[k] (by simp[N]) w;have p2:=KK hu (by cases d<;>simp[DO]at hd<;>rfl) A k A[k] (by simp[L]) w;have p3:=ach hu (by cases d<;>simp[DO]at hd<;>rfl) hbb h1 h2 n w;unfold RK;rw[aD hn,hof];simp only[fk,p1,p2,p3,cR];cases D<;>simp
      rw[List.forIn_cons];simp only[fk];split at he
      .rename_i hbb;rw[hstep J hbb];simp only[cR,bh];exact P0 n w xs A fs ds' a b (k+1) r hp' (λj x u h1 h2=>ha (j+1) x u (by simpa using h1) (by rw[<- h2];congr 1;omega)) (λj x u h1 h2=>hb (j+1) x u (by simpa using h1) (by rw[<- h2];congr 1;omega))
        (λj hj=>by have:=hla (j+1) (by simpa using hj);omega) (λj hj=>by have:=hlb (j+1) (by simpa using hj);omega) he
      next hbb=>rw[hstep aa hbb];cases he;simp
      .cases he
   .cases hp
  .cases hp
variable {K:Array Field} {E:Y TypeDesc}
def PZ (L:P.underlying s=Z (.struct K)) (N:P.stoodInHeld s=aa) (hp:lP P 0 K.toList=Z E) (xs z:Array Value) {a r:Y FV} 
 (ha:∀(j:Nat) x u,a[j]? =Z x->xs[j]? =Z u->x= .raw u\/∀v,x≠ .raw v) (hb:∀(j:Nat) x u,r[j]? =Z x->z[j]? =Z u->x= .raw u\/∀v,x≠ .raw v) (hla:l! a=xs.size) (hlb:l! r=z.size) (he:jE E a r=Z b) (w:World):
 (Op.equal s (.agg xs) (.agg z)).run P w= .ok b w:=by
 have key:∀n,(Op.equalIn (n+2) s (.agg xs) (.agg z)).run P w= .ok b w:=by
  intro n;rw[Op.equalIn];have h1:=P0 (P:=P) n w xs z K.toList E a r 0 b hp (λj x u h1 D=>ha j x u h1 (by grind)) (λj x u h1 D=>hb j x u h1 (by grind)) (λj hj=>by omega) (λj hj=>by omega) he;rw[Array.forIn_toList]at h1;simp only[fk,run_underlying L,cR,program,io,N,ca,dv];have D:(forIn K (U,()) (λf __s=>RK n xs z f __s)).run P w= .ok (if b then (U,()) else (Z aa,())) w:=h1;rw[D];cases b<;>simp
 exact key 9998
def U8 (hu:P.underlying s=Z (.struct K)) (hp:lP P 0 K.toList=Z E):P.eqGuardType P.depth s=aa:=by
 have key:∀(K:Y Field) (k:Nat) (E:Y TypeDesc),lP P k K=Z E→∀d,(K.any λf=>f.name != "_" &&P.eqGuardType (d+1) f.type)=aa:=by
  intro K;induction K with
  |nil=>intros;rfl
  |cons f K N=>
   intro k E hp d;simp only[lP]at hp;split at hp
   .rename_i dd ds' A D;split at hp
    .rename_i L;simp[al]at L;have:P.eqGuardType (d+1) f.type=aa:=by
      unfold Program.eqGuardType;rw[A];have:=L.2;cases dd<;>simp[DO]at this<;>rfl
     simp only[List.any_cons,this,Bool.and_false,Bool.false_or];exact N (k+1) ds' D d
    .cases hp
   .cases hp
 unfold Program.depth Program.eqGuardType;rw[hu];simp only[];rw[← Array.any_toList];exact key K.toList 0 E hp _
def anx {t':TypeId} {op:BinOp} {neg:Bool} {y:Operand} (ho:o.op= .binOp op s c y t') (hop:op=if neg then .neq else .eql) (L:P.underlying s=Z (.struct K)) (hs:P.stoodInHeld s=aa) (hp:lP P 0 K.toList=Z E) (z:dx (.jm neg E c y) e h nx=Z R):fZ P o e.get h.get R.eff:=by
 simp[dx]at z;split at z
 .rename_i a b D hy;split at z
  .rename_i r hr;rw[dl z];refine fZ.reads λφ ds h' w ac _ hpp _=>?_
   have h1:=hpp c _ (by rw[ho];simp[Op.operands]) D;have A:=hpp y _ (by rw[ho];simp[Op.operands]) hy;generalize hzx:ac.eval c=zx at h1;generalize hzy:ac.eval y=zy at A;have rawOr:∀(l:Y FV) (vs:ξ),(∀(j:Nat) c v,l[j]? =Z c->vs[j]? =Z v->mO (tot ds φ h') w c v)->∀(j:Nat) c u,l[j]? =Z c->vs.toArray[j]? =Z u->c= .raw u\/∀v,c≠ .raw v:=by
    intro l vs hr j c u D L;have:=hr j c u D (by grind);cases this with
    |raw v=>exact .inl rfl
    |_=>exact .inr (by simp)
   cases h1 with
   |f h1=>
    cases h1 with
    |agg _ vs hl hcl hr1=>
     cases A with
     |f A=>
      cases A with
      |agg _ us hl' hcl' N=>
       have heq:=PZ L hs hp vs.toArray us.toArray (rawOr a vs hr1) (rawOr b us N) (by grind) (by grind) hr w;refine ⟨_,?_,.f (.raw _)⟩;have hg:=U8 L hp;unfold execOp;rw[ho];simp[hzx,hzy];subst hop;cases neg<;>simp[eqGuard,program,io,hg,binOp,heq]
  .cases z
 .cases z
end
section
variable {P:Program} {o:Oper} {e:DE} {h:mQ} {nx:Nat} {R:Cu}
def Gw:∀{l:Y FV} {vs:ξ},HZ l=Z vs->l=vs.map .raw
 |[],vs,h=>by simp[HZ,af]at h;subst h;rfl
 |x::r,vs,h=>by
  cases x with
  |raw v=>
   simp[HZ]at h;split at h
   next l z=>simp[af]at h;subst h;rw[bY,<-Gw z]
   .cases h
  |_=>simp[HZ]at h
def afe {u:Value} (h:mO O w (.raw v) u):u=v:=by cases h;rfl
def Tz {vs:ξ} (z:l! vs=l! N) (L:∀(j:Nat) x v,(N.map FV.raw)[j]? =Z x->vs[j]? =Z v->mO O w x v):vs=N:=by
 apply B9;intro j;rcases bG j (l! N) with A|A
 .have h1:(N.map FV.raw)[j]? =Z (.raw N[j]):=by simp[A]
  have D:vs[j]? =Z (vs[j]'(by omega)):=aE (by omega);have:=L j _ _ h1 D;rw[D,aE A,afe this]
 .grind
def Ll (z:abn y=Z N) (D:co V O w y v):v= .agg N.toArray:=by
 cases D with
 |f D=>
  cases D with
  |agg cells vs A hcl hrr=>
   have:=Gw (show HZ cells=Z N from z);subst this;rw[Tz (by grind) hrr]
  |_=>simp[abn]at z
 |@agg cells vs A hcl hrr=>
  simp[abn]at z;split at z
  .rename_i fs hfs;have:=Gw z;have:=nE hfs;have key:vs=N:=Tz (O:=O) (w:=w) (by grind) λj x u hx L=>by
    have:=hrr j (.f x) u (by grind) L;cases this with
    |f h=>exact h
   rw[key]
  .cases z
 |_=>simp[abn]at z
structure DB (P:Program) (kt:TypeId) (fs:Array Field) (ds:List TypeDesc):Prop where
 hu:P.underlying kt=Z (.struct fs)
 hs:P.stoodInHeld kt=aa
 hp:lP P 0 fs.toList=Z ds
variable {E:Y TypeDesc}
def GD (h:DN P s=Z E):∃z,DB P s z E:=by
 unfold DN at h;split at h
 .rename_i z D;split at h
  .cases h
  next hst=>exact⟨z,D,by simpa using hst,h⟩
 .cases h
variable {K:Array Field}
def rj (fs:DB P s K E) (z:C7 E N v=Z b) (w:World):(Op.equal s (.agg N.toArray) v).run P w= .ok b w:=by
 unfold C7 at z;split at z
 .rename_i A;refine PZ fs.hu fs.hs fs.hp N.toArray A (λj x u hx hu=>?_) (λj x u hx hu=>?_) (by simp) (by simp) z w
  .grind
  .grind
 .cases z
abbrev ahs (z:Bool) (n:Nat) (cs:Array Value) (f:Field) (_:Unit):Sem (ForInStep Unit):=
 if f.name≠ "_" then do
  let a←part f.type cs f.offset
  mj z (n+1) f.type a
  pure (HQ ())
 else pure (HQ ())
def Qn (D:Bool) (n:Nat) (w:World) (cs:Array Value):∀(z:Y Field) (ds:Y TypeDesc) (k:Nat),lP P k z=Z ds->k+l! z<=cs.size->
 (forIn z () (ahs D n cs)).run P w= .ok () w
 |[],ds,k,hp,_=>by simp
 |f::z,ds,k,hp,hk=>by
  simp only[lP]at hp;split at hp
  .rename_i d ds' L A;split at hp
   .rename_i N;simp[al,bne_iff_ne,ne_eq,cV]at N;let⟨⟨hn,hof⟩,hd⟩:=N;simp[bK]at hk;have p1:=KK L (by cases d<;>simp[DO]at hd<;>rfl) cs k (cs[k]'(by omega)) (by simp) w;have p2:(mj D (n+1) f.type (cs[k]'(by omega))).run P w= .ok () w:=by
     cases d<;>simp[DO]at hd<;>simp[mj,run_underlying L]
    have ih:=Qn D n w cs z ds' (k+1) A (by omega);simp_all
   .cases hp
  .cases hp
def YV (z:DB P s K E) (A:Bool) {cs:Array Value} (L:l! K.toList<=cs.size) (w:World):(mj A 10000 s (.agg cs)).run P w= .ok () w:=by
 have key:∀n,(mj A (n+2) s (.agg cs)).run P w= .ok () w:=by
  intro n;rw[mj];have h1:=Qn (P:=P) A n w cs K.toList E 0 z.hp (by omega);rw[Array.forIn_toList]at h1;simp[fk,run_underlying z.hu,cR];have N:(forIn K () λf D=>ahs A n cs f D).run P w= .ok () w:=h1;simp_all
 exact key 9998
def L3 {m:MapEntry} {r:Y MapEntry} :eY (.struct K) v (m::r) i=U:=by
 simp[eY];have:Instr.sameNow (.struct K) v m.key=U:=by rfl
 rw[this]
def Bu (A:DB P s K E) (k:Value) (ents:Y MapEntry) (w:World):(lO s k ents).run P w=(c6 s k ents).run P w:=by
 cases ents with
 |nil=>simp[lO,run_underlying A.hu,eY,c6]
 |cons m r=>simp[lO,run_underlying A.hu,L3]
def UZ (fs:DB P s K E) (w:World):∀(es:Y j!) (ents:Y MapEntry) (i:Nat),ents.map (·.key)=es.map (·.1)->∀r,HX E N es=Z r->
 (r=U/\(c6 s (.agg N.toArray) ents i).run P w= .ok U w)\/∃(j:Nat) (v:AV) (m:MapEntry) (L:Value),r=Z v/\es[j]? =Z (L,v)/\ents[j]? =Z m/\(c6 s (.agg N.toArray) ents i).run P w= .ok (Z (i+j,m.val)) w
 |[],ents,i,he,r,h=>by
  cases ents with
  |nil=>simp[HX,af]at h;exact .inl ⟨h.symm,by simp[c6]⟩
  |cons _ _=>simp at he
 |(L,v)::es,ents,i,he,r,h=>by
  cases ents with
  |nil=>simp at he
  |cons m ents=>
   simp[bY,eA]at he;let⟨z,he2⟩:=he;simp[HX]at h;split at h
   next A=>simp[af]at h;refine .inr ⟨0,v,m,L,h.symm,rfl,rfl,?_⟩;rw[c6,z];simp[rj fs A w]
   .rename_i A;rcases UZ fs w es ents (i+1) he2 r h with ⟨h1,h2⟩|⟨j,v',m',k'',h1,h2,h3,h4⟩
    .refine .inl ⟨h1,?_⟩;rw[c6,z];simp[rj fs A w,h2]
    .refine .inr ⟨j+1,v',m',k'',h1,by simpa using h2,by simpa using h3,?_⟩;rw[c6,z];simp[rj fs A w,h4];omega
   .cases h
def Tl (fs:DB P s K E) (w:World):∀(es es':Y j!) (ents:Y MapEntry) (i:Nat),ents.map (·.key)=es.map (·.1)->Xs E N y es=Z es'->
 ((c6 s (.agg N.toArray) ents i).run P w= .ok U w/\es'=es++[(.agg N.toArray,y)])\/∃(j:Nat) (m:MapEntry) (L:Value) (A:AV),es[j]? =Z (L,A)/\ents[j]? =Z m/\(c6 s (.agg N.toArray) ents i).run P w= .ok (Z (i+j,m.val)) w/\C7 E N L=Z J/\es'=es.set j (.agg N.toArray,y)
 |[],es',ents,i,he,h=>by
  cases ents with
  |nil=>simp[Xs,af]at h;exact .inl ⟨by simp[c6],by simp[h]⟩
  |cons _ _=>simp at he
 |(L,A)::es,es',ents,i,he,h=>by
  cases ents with
  |nil=>simp at he
  |cons m ents=>
   simp[bY,eA]at he;let⟨z,he2⟩:=he;simp[Xs]at h;split at h
   next D=>simp[af]at h;refine .inr ⟨0,m,L,A,rfl,rfl,?_,D,by simp[h]⟩;rw[c6,z];simp[rj fs D w]
   .rename_i D;split at h
    .rename_i es2 hes2;simp[af]at h;subst h;rcases Tl fs w es es2 ents (i+1) he2 hes2 with ⟨h1,h2⟩|⟨j,m',k'',v'',h1,h2,h3,h4,h5⟩
     .refine .inl ⟨?_,by simp[h2]⟩;rw[c6,z];simp[rj fs D w,h1]
     .refine .inr ⟨j+1,m',k'',v'',by simpa using h1,by simpa using h2,?_,h4,by simp[h5]⟩;rw[c6,z];simp[rj fs D w,h3];omega
    .cases h
   .cases h
def To (fs:DB P s K E) (w:World):∀(es es':Y j!) (ents:Y MapEntry) (i:Nat),ents.map (·.key)=es.map (·.1)->Xt E N es=Z es'->
 ((c6 s (.agg N.toArray) ents i).run P w= .ok U w/\es'=es)\/∃(j:Nat) (m:MapEntry),j<l! es/\ents[j]? =Z m/\(c6 s (.agg N.toArray) ents i).run P w= .ok (Z (i+j,m.val)) w/\es'=es.eraseIdx j
 |[],es',ents,i,he,h=>by
  cases ents with
  |nil=>simp only[Xt,af]at h;exact .inl ⟨by simp[c6],h.symm⟩
  |cons _ _=>simp at he
 |(k',v')::es,es',ents,i,he,h=>by
  cases ents with
  |nil=>simp at he
  |cons m ents=>
   simp[bY,eA]at he;let⟨z,L⟩:=he;simp[Xt]at h;split at h
   next A=>simp[af]at h;refine .inr ⟨0,m,by simp,rfl,?_,by simp[h]⟩;rw[c6,z];simp[rj fs A w]
   .rename_i A;split at h
    .rename_i es2 hes2;simp[af]at h;subst h;rcases To fs w es es2 ents (i+1) L hes2 with ⟨h1,h2⟩|⟨j,m',h1,h2,h3,h5⟩
     .refine .inl ⟨?_,by simp[h2]⟩;rw[c6,z];simp[rj fs A w,h1]
     .refine .inr ⟨j+1,m',by simp;omega,by simpa using h2,?_,by simp[h5]⟩;rw[c6,z];simp[rj fs A w,h3];omega
    .cases h
   .cases h
def L_:∀{ds:Y TypeDesc} {L A:ξ},jE ds (L.map .raw) (A.map .raw)=Z J->L=A/\∀x∈L,∀n,i_ n x x=J
 |[],[],[],_=>⟨rfl,λx D=>by cases D⟩
 |[],[],_::_,h|[],_::_,A,h|_::_,[],A,h|_::_,_::_,[],h=>by simp[jE]at h
 |d::ds,k::L,v::A,h=>by
  simp only[bY,jE]at h;split at h
  .rename_i z;let⟨e1,e2⟩:=L_ h;have key:k=v/\∀n,i_ n k k=J:=by
    cases d<;>cases k<;>cases v<;>simp only[vZ]at z<;>first|(cases z;done)|skip
    .simp only[af,cV]at z;subst z;exact⟨rfl,λn=>by cases n<;>simp[i_]⟩
    .split at z
     next N=>have N:=eq_of_beq N;simp only[af,cV]at z;subst z N;exact⟨rfl,λn=>by cases n<;>simp[i_]⟩
     .cases z
    .simp only[af]at z;have:=xa.1 z;subst this;exact⟨rfl,λn=>by cases n<;>simp[i_,Cq,z]⟩
   refine ⟨by rw[key.1,e1],λx D n=>?_⟩;rcases aZ.1 D with rfl|D
   .exact key.2 n
   .exact e2 x D n
  .cases h
  .cases h
def af4 (h:C7 E N v=Z J):v= .agg N.toArray/\i_ 10000 (.agg N.toArray) (.agg N.toArray)=J:=by
 unfold C7 at h;split at h
 .rename_i L;let⟨D,e2⟩:=L_ h;refine ⟨by rw[D],?_⟩;rw[i_];simp only[cr,dU,iv];rintro⟨x,y⟩ hxy;have z:x=y/\x∈N:=by
   rw[List.mem_iff_getElem?]at hxy
   grind
  grind
 .cases h
def Yk {D:TypeId} (z:P.underlying s=Z (.pointer D)) (A:M Addr) (w:World):(Op.equal s (.pointer A) (.pointer U)).run P w= .ok A.isNone w:=by
 have key:∀d,(Op.equalIn (d+1) s (.pointer A) (.pointer U)).run P w= .ok A.isNone w:=λd=>by cases A<;>simp[Op.equalIn,run_underlying z]
 exact key 9999
def aii {neg:Bool} {op:BinOp} {y:Operand} {t' el:TypeId} (N:o.op= .binOp op s c y t') (hop:op=if neg then .neq else .eql) (hy:y= .const (.pointer U)) (hu:P.underlying s=Z (.pointer el)) (D:dx (.zl neg c) e h nx=Z R):fZ P o e.get h.get R.eff:=by
 have key:∀(w:World) (ρ:Operand->Value) (A:M Addr),ρ c= .pointer A->ρ y= .pointer U->(execOp ρ o).run P w= .ok (.value (.bool (A.isNone !=neg))) w:=by
  intro w ρ A h1 h2;unfold execOp;rw[N];simp[h1,h2];subst hop;cases neg<;>simp[eqGuard,binOp,Yk hu]
 have hyv:∀a:Act,a.eval y= .pointer U:=λa=>by rw[hy];rfl
 simp[dx]at D;split at D
 .rename_i id off L;rw[dl D];refine fZ.reads λφ E h' w a _ hp _=>?_
  have h1:=hp c _ (by rw[N];simp[Op.operands]) L;generalize hz:a.eval c=z at h1;cases h1 with
  |H hφ=>exact⟨_,key w a.eval _ hz (hyv a),by simpa[raw] using co.f (.raw _)⟩
 .rename_i cells off L;rw[dl D];refine fZ.reads λφ E h' w a _ hp _=>?_
  have h1:=hp c _ (by rw[N];simp[Op.operands]) L;generalize hz:a.eval c=z at h1;cases h1 with
  |f h1=>
   cases h1 with
   |H=>exact⟨_,key w a.eval _ hz (hyv a),by simpa[raw] using co.f (.raw _)⟩
 .rename_i L;rw[dl D];refine fZ.reads λφ E h' w a _ hp _=>?_
  have h1:=eX (hp c _ (by rw[N];simp[Op.operands]) L);exact⟨_,key w a.eval _ h1 (hyv a),by simpa[raw] using co.f (.raw _)⟩
 .cases D
def rn:∀{A:Y Field} {k:Nat} {ds:Y TypeDesc},lP P k A=Z ds->l! ds=l! A
 |[],k,ds,h=>by simp[lP,af]at h;subst h;rfl
 |f::A,k,ds,h=>by
  simp[lP]at h;split at h
  .rename_i d ds' _ z;split at h
   .simp[af]at h;subst h;rw[bK,rn z,bK]
   .cases h
  .cases h
def XQ {y:M AV} (h:y.bind (abm E)=Z N):∃v,y=Z v/\abn v=Z N/\l! N=l! E:=by
 cases y with
 |none=>cases h
 |some v=>
  unfold abm at h
  grind
def ato {kt el:TypeId} {k:Operand} (N:o.op= .lookup s c k aa) (hu:P.underlying s=Z (.map kt el)) (fs:DB P kt K E) (L:(P.info? el).bind (·.zero)=Z v) (A:dx (.lkq E v c k) e h nx=Z R):fZ P o e.get h.get R.eff:=by
 simp[dx]at A;split at A
 .rename_i id ks hx hkx;let⟨yk,hkx,hkl,hkn⟩:=XQ hkx;split at A
  .rename_i es hid;have zrun:∀w:World,(zeroValue el).run P w= .ok v w:=λw=>by
    cases hi:P.info? el with
    |none=>rw[hi]at L;cases L
    |some i=>rw[hi]at L;simp[aC]at L;simp[zeroValue,typeInfo,hi,L]
   have main:∀r,HX E ks es=Z r->∀(φ:PM) (ds:Nat->Prop) (h':HF) (w:World) (a:Act),h' id=Z ⟨0,.mp es⟩->W_ φ ds h' w a e o->sh φ ds h' w->
    ∃z,(execOp a.eval o).run P w= .ok (.value z) w/\co φ (tot ds φ h') w (match r with|some z=>z|none=>raw v) z:=by
    intro r hr φ ds h' w a hb' hp hrep;have hrx:=hp c _ (by rw[N];simp[Op.operands]) hx;have hrk:=Ll hkl (hp k _ (by rw[N];simp[Op.operands]) hkx);generalize D:a.eval c=zz at hrx;cases hrx with
    |@mp _ b hφ=>
     let⟨k',q1,_,ob,q2,q3⟩:=hrep.at_ id _ hb';rw[hφ]at q1;cases q1;obtain⟨ents,clock,rfl,q4,q5⟩:=q3;have hlen:l! K.toList<=ks.toArray.size:=by have:=rn fs.hp;simp only[B8];omega
     have hck:=YV fs ents.isEmpty hlen w;have hfk:=Bu (P:=P) fs (.agg ks.toArray) ents.toList w;rcases UZ fs w es ents.toList 0 q4 r hr with ⟨h1,h2⟩|⟨j,z,m,k',h1,h2,h3,h4⟩
     .subst h1;rw[h2]at hfk;refine ⟨_,?_,.f (.raw v)⟩;unfold execOp;rw[N];simp[JW,run_underlying hu,D,hrk,getObj,io,q2,hck,hfk,zrun]
     .subst h1;rw[h4]at hfk;let⟨_,h6,h7⟩:=q5 j _ h2;obtain⟨m',h6,rfl⟩:=h6;rw[cU]at h3;rw[h3]at h6;cases h6;refine ⟨_,?_,h7⟩;unfold execOp;rw[N];simp[JW,run_underlying hu,D,hrk,getObj,io,q2,hck,hfk]
   split at A
   next z hf=>simp[af]at A;subst A;exact fZ.reads λφ ds h' w a hrd hp hrep=>main _ hf φ ds h' w a (by grind) hp hrep
   next hf=>simp[af]at A;subst A;exact fZ.reads λφ ds h' w a hrd hp hrep=>main _ hf φ ds h' w a (by grind) hp hrep
   .cases A
  .cases A
 .cases A
def atj {kt el:TypeId} {k y:Operand} (ho:o.op= .mapUpdate s c k y) (hu:P.underlying s=Z (.map kt el)) (fs:DB P kt K E) (z:dx (.mpq E c k y) e h nx=Z R):fZ P o e.get h.get R.eff:=by
 simp only[dx]at z;split at z
 .rename_i id A v L hkx hy;let⟨yk,hkx,hkl,hkn⟩:=XQ hkx;split at z
  .rename_i es hid;split at z
   .rename_i es' hput;cases z;refine fZ.writes hid λφ ds h' w a hrd hb' hp hrep=>?_
    have hrx:=hp c _ (by rw[ho];simp[Op.operands]) L;have hrk:=Ll hkl (hp k _ (by rw[ho];simp[Op.operands]) hkx);have hry:=hp y _ (by rw[ho];simp[Op.operands]) hy;generalize D:a.eval c=zz at hrx;cases hrx with
    |@mp _ b hφ=>
     let⟨k',q1,_,ob,q2,q3⟩:=hrep.at_ id _ hb';rw[hφ]at q1;cases q1;obtain⟨ents,clock,rfl,q4,q5⟩:=q3;have q4:ents.toList.map (·.key)=es.map (·.1):=by unfold Wy at q4;rw[aD rfl]at q4;exact q4
     have q5:∀(j:Nat) c,es[j]? =Z c->∃m,ents[j]? =Z m/\co φ (tot ds φ h') w c.2 m.val:=λj c L=>by
      let⟨_,g1,g2⟩:=q5 j c L;unfold MpV at g1;rw[aD rfl]at g1
      grind
     have H7:∀(es:Y j!) (ents:Array MapEntry) (clock:Nat),ents.toList.map (·.key)=es.map (·.1)->(∀(j:Nat) c,es[j]? =Z c->∃m,ents[j]? =Z m/\co φ (tot ds φ h') w c.2 m.val)->gR φ (tot ds φ h') w ⟨0,.mp es⟩ (.map ents clock):=λes ents clock g1 g2=>⟨ents,clock,rfl,by unfold Wy;rw[aD rfl];exact g1,λj c L=>by
      let⟨m,g3,g4⟩:=g2 j c L;exact⟨_,by unfold MpV;rw[aD rfl];exact⟨m,g3,rfl⟩,g4⟩⟩
     have hck:=YV fs aa (cs:=A.toArray) (by have:=rn fs.hp;simp only[B8];omega) w;have hfk:=Bu (P:=P) fs (.agg A.toArray) ents.toList w;have hlen:ents.size=l! es:=by have:=eW ah q4;simpa using this
     rcases Tl fs w es es' ents.toList 0 q4 hput with ⟨h1,rfl⟩|⟨j,m,k',v',h1,h2,h3,h4,rfl⟩
     .rw[h1]at hfk;refine ⟨.skip,_,b,.map (ents.push {key:=.agg A.toArray,val:=a.eval y,born:=clock}) (clock+1),?_,hφ,ri q2 (by simp) (by simp),H7 _ _ _ (by simp[q4]) λj q N=>?_,undef,.inr ⟨rfl,rfl⟩,.f (.raw _)⟩
      .unfold execOp;rw[ho];simp[yQ,run_underlying hu,D,hrk,getObj,io,q2,hck,hfk,setObj]
      .rcases bG j (l! es) with hj|hj
       .grind
       .rw[bS hj]at N;have hj0:j-l! es=0:=by grind
        rw[hj0]at N;simp at N;subst N;exact⟨_,by rw[Array.getElem?_push,aD (by omega)],hry⟩
     .obtain⟨s2,s1⟩:=af4 h4;subst s2;rw[h3]at hfk;rw[cU]at h2;rw[bT]at hfk;have hjl:j<ents.size:=(c7.1 h2).1;have hmk:m.key= .agg A.toArray:=by
       have e1:(ents.toList.map (·.key))[j]? =Z m.key:=by grind
       grind
      refine ⟨.skip,_,b,.map (ents.modify j λe=>{e with key:=.agg A.toArray,val:=a.eval y}) clock,?_,hφ,ri q2 (by simp) (by simp),H7 _ _ _ ?_ λi q N=>?_,undef,.inr ⟨rfl,rfl⟩,.f (.raw _)⟩
      .unfold execOp;rw[ho];simp[yQ,run_underlying hu,D,hrk,getObj,io,q2,hck,hfk,setObj,h2,hmk,Instr.keyThatStays,s1]
      .apply B9;intro i;simp only[bz,cU,dG,Array.getElem?_modify];have e2:∀i:Nat,(ents[i]?).map (λm:MapEntry=>m.key)=(es[i]?).map (λp:Value×AV=>p.1):=λi=>by
        have:=eW (λl=>l[i]?) q4
        grind
       grind
      .grind
   .cases z
  .cases z
 .cases z
def Hh {α β:Type} (f:α->β):∀(l:Y α) (j:Nat),(l.map f).eraseIdx j=(l.eraseIdx j).map f
 |[],_|_::_,0=>rfl
 |x::r,j+1=>by simp[bY,List.eraseIdx_cons_succ,Hh f r j]
def atu {t2 kt el:TypeId} {k:Operand} (N:o.op= .call {callee:=.builtin .delete,args:=#[c,k],argTypes:=#[s,t2]}) (hu:P.underlying s=Z (.map kt el)) (fs:DB P kt K E) (z:dx (.dlq E c k) e h nx=Z R):fZ P o e.get h.get R.eff:=by
 simp[dx]at z;split at z
 .rename_i id ks D hkx;let⟨yk,hkx,hkl,hkn⟩:=XQ hkx;split at z
  .rename_i es hid;split at z
   .rename_i es' hput;cases z;refine fZ.writes hid λφ ds h' w a hrd hb' hp hrep=>?_
    have hrx:=hp c _ (by rw[N];simp[Op.operands,dC]) D;have hrk:=Ll hkl (hp k _ (by rw[N];simp[Op.operands,dC]) hkx);generalize A:a.eval c=zz at hrx;cases hrx with
    |@mp _ b hφ=>
     let⟨k',q1,_,ob,L,q3⟩:=hrep.at_ id _ hb';rw[hφ]at q1;cases q1;obtain⟨ents,clock,rfl,q4,q5⟩:=q3;have q5:∀(j:Nat) c,es[j]? =Z c->∃m,ents[j]? =Z m/\co φ (tot ds φ h') w c.2 m.val:=λj c D=>by
      let⟨_,g1,g2⟩:=q5 j c D;unfold MpV at g1
      grind
     have H7:∀(es:Y j!) (ents:Array MapEntry) (clock:Nat),ents.toList.map (·.key)=es.map (·.1)->(∀(j:Nat) c,es[j]? =Z c->∃m,ents[j]? =Z m/\co φ (tot ds φ h') w c.2 m.val)->gR φ (tot ds φ h') w ⟨0,.mp es⟩ (.map ents clock):=λes ents clock g1 g2=>⟨ents,clock,rfl,by unfold Wy;rw[aD rfl];exact g1,λj c D=>by
      let⟨m,g3,g4⟩:=g2 j c D;exact⟨_,by unfold MpV;rw[aD rfl];exact⟨m,g3,rfl⟩,g4⟩⟩
     have hck:=YV fs ents.isEmpty (cs:=ks.toArray) (by have:=rn fs.hp;simp only[B8];omega) w;have hfk:=Bu (P:=P) fs (.agg ks.toArray) ents.toList w;rcases To fs w es es' ents.toList 0 q4 hput with ⟨h1,rfl⟩|⟨j,m,h1,h2,h3,rfl⟩
     .rw[h1]at hfk;refine ⟨.value (.tuple #[]),_,b,.map ents clock,?_,hφ,ri L (by simp) (by simp),H7 _ _ _ q4 q5,_,.inl rfl,co.qg (vs:=[]) rfl (by simp)⟩;unfold execOp;rw[N];simp[resolve,invoke,builtin,Builtin.delete_,run_underlying hu,A,hrk,getObj,io,L,hck,hfk,setObj]
     .rw[h3]at hfk;have hel:(ents.eraseIdxIfInBounds j).toList=ents.toList.eraseIdx j:=by simp_all
      refine ⟨.value (.tuple #[]),_,b,.map (ents.eraseIdxIfInBounds j) clock,?_,hφ,ri L (by simp) (by simp),H7 _ _ _ ?_ λi q hq=>?_,_,.inl rfl,co.qg (vs:=[]) rfl (by simp)⟩
      .unfold execOp;rw[N];simp[resolve,invoke,builtin,Builtin.delete_,run_underlying hu,A,hrk,getObj,io,L,hck,hfk,setObj]
      .rw[hel,<-Hh,q4,Hh]
      .grind
   .cases z
  .cases z
 .cases z
end
def bind_some {β:Type} {x:M R} {f:R->M β} {y:β} (h:x.bind f=Z y):∃a,x=Z a/\f a=Z y:=by
 cases x with
 |none=>cases h
 |some a=>exact⟨a,rfl,h⟩
def map_some {β:Type} {x:M R} {f:R->β} {y:β} (h:x.map f=Z y):∃a,x=Z a/\f a=y:=by simp_all
def l_ {x:M R} {y:R} (h:(if b then x else U)=Z y):b=J/\x=Z y:=by grind
def KU {o:Oper} {e:DE} {h:mQ} {s:SU} {R:Cu} (A:cO P o.op=Z s) (L:dx s e h i=Z R):fZ P o e.get h.get R.eff:=by
 unfold cO at A;split at A
 next x D=>cases A;exact ati (.inl D) L
 next x D=>cases A;exact ati (.inr D) L
 next c a b D=>cases A;exact apy D L
 next t D=>let⟨z,h1,A⟩:=bind_some A;let⟨N,A⟩:=l_ A;cases A;exact am8 D h1 N L
 next t x D=>cases A;exact atx D L
 .rename_i t ps D;split at A
  next fs hu=>let⟨z,h1,A⟩:=bind_some A;let⟨N,A⟩:=l_ A;obtain⟨ps',h3,rfl⟩:=map_some A;simp only[al]at N;exact aav D h1 N.1 h3 (.inl ⟨fs,hu,N.2⟩) L
  next n el hu=>let⟨z,h1,A⟩:=bind_some A;let⟨N,A⟩:=l_ A;obtain⟨ps',h3,rfl⟩:=map_some A;simp only[al]at N;let⟨sz,h4⟩:=iZ.1 N.2;exact aav D h1 N.1 h3 (.inr ⟨n,el,sz,hu,h4⟩) L
  .cases A
 next t n ps D=>let⟨el,h1,A⟩:=bind_some A;let⟨z,N,A⟩:=bind_some A;let⟨sz,h3,A⟩:=bind_some A;let⟨h4,A⟩:=l_ A;obtain⟨ps',h5,rfl⟩:=map_some A;simp only[al,cV,bne_iff_ne]at h4;exact atw D (tZ h1) N h3 h4.1.1.1 h4.1.1.2 h4.2 (aV h4.1.2) h5 L
 next t x D=>let⟨sz,h1,A⟩:=bind_some A;obtain⟨ag,N,rfl⟩:=map_some A;exact aq1 D h1 N L
 next t x v D=>obtain⟨sz,h1,rfl⟩:=map_some A;exact am7 D h1 L
 next x D=>cases A;exact apz D L
 .rename_i op t x y t' D;split at A
  .cases A;exact ao0 D L
  .cases A;exact ao0 D L
  .rename_i hu;split at A
   .cases A;exact anz (neg:=aa) D rfl hu L
   .cases A;exact anz (neg:=J) D rfl hu L
   .cases A
  .rename_i el hu;split at A
   .cases A;exact aau (neg:=aa) D rfl rfl hu L
   .cases A;exact aau (neg:=J) D rfl rfl hu L
   .cases A
  .rename_i el hu;split at A
   .cases A;exact aii (neg:=aa) D rfl rfl hu L
   .cases A;exact aii (neg:=J) D rfl rfl hu L
   .cases A
  .rename_i fs hu;let⟨ds,h1,A⟩:=bind_some A;unfold DN at h1;rw[hu]at h1;simp only[]at h1;split at h1
   .cases h1
   .rename_i hst;have hst:P.stoodInHeld t=aa:=by simpa using hst
    split at A
    .cases A;exact anx (neg:=aa) D rfl hu hst h1 L
    .cases A;exact anx (neg:=J) D rfl hu hst h1 L
    .cases A
  .cases A
 next t x D=>cases A;exact atg D L
 .rename_i t x D;split at A
  .cases A;exact ath D L
  .cases A
 .rename_i s' d x D;split at A
  next k k' h1 N=>cases A;exact aq7 D h1 N L
  .cases A
 next t l c D=>let⟨el,h1,A⟩:=bind_some A;let⟨z,N,A⟩:=bind_some A;let⟨sz,h3,A⟩:=bind_some A;let⟨b,h5,A⟩:=bind_some A;let⟨h4,A⟩:=l_ A;simp only[al,cV,bne_iff_ne]at h4;cases A;exact aq0 D (tZ h1) N h3 h5 h4.1.1 h4.1.2 h4.2 L
 next t x lo hi mx D=>let⟨el,h1,A⟩:=bind_some A;obtain⟨sz,N,rfl⟩:=map_some A;exact atd D (tZ h1) N L
 .rename_i t x k D;split at A
  next fs hu=>let⟨f,h1,A⟩:=bind_some A;let⟨sz,N,A⟩:=bind_some A;let⟨h3,A⟩:=l_ A;cases A;exact ats D hu h1 N (by simpa using h3) L
  .cases A
 .rename_i t x k D;split at A
  next fs hu=>let⟨f,h1,A⟩:=bind_some A;let⟨sz,N,A⟩:=bind_some A;obtain⟨ag,h3,rfl⟩:=map_some A;exact atr D hu h1 N h3 L
  .cases A
 .rename_i t x nx D;split at A
  next el hu=>obtain⟨sz,h1,rfl⟩:=map_some A;exact atq D hu h1 L
  next n el hu=>obtain⟨sz,h1,rfl⟩:=map_some A;exact aq5 D hu h1 L
  .cases A
 .rename_i t x nx D;split at A
  next n el hu=>let⟨sz,h1,A⟩:=bind_some A;obtain⟨ag,N,rfl⟩:=map_some A;exact atp D hu h1 N L
  next hu=>cases A;exact apx D hu L
  .cases A
 next x nx D=>cases A;exact att D L
 .rename_i f first caps D
  let⟨h1,A⟩:=l_ A;cases A;have N:first=#[]:=by simpa using h1
  subst N;exact atl D L
 .rename_i t D;split at A
  .cases A;exact atk D L
  .cases A
 .rename_i t x k ok D;split at A
  .rename_i kt el hu;split at A
   next q z h1 N=>let⟨h3,A⟩:=l_ A;cases A;exact anw (str:=aa) D hu h1 ⟨q,rfl⟩ N L
   next z h1 N=>let⟨h3,A⟩:=l_ A;cases A;exact anw (str:=J) D hu h1 rfl N L
   next fs z h1 N=>let⟨h3,A⟩:=l_ A;simp only[al,cS]at h3;obtain⟨ds,h4,rfl⟩:=map_some A;let⟨fs',K⟩:=GD h4;rw[h3.2]at D;exact ato D hu K N L
   .cases A
  .cases A
 .rename_i t m k v D;split at A
  .rename_i kt el hu;split at A
   next q h1=>cases A;exact anv (str:=aa) D hu h1 ⟨q,rfl⟩ L
   next h1=>cases A;exact anv (str:=J) D hu h1 rfl L
   .obtain⟨ds,h4,rfl⟩:=map_some A;let⟨fs',K⟩:=GD h4;exact atj D hu K L
   .cases A
  .cases A
 .rename_i t x D;split at A
  next hu=>cases A;exact ate D hu L
  .cases A
 next x D=>cases A;exact atf D L
 .rename_i c D;let⟨callee,args,argTypes⟩:=c;have arr:∀{α:Type} {x:Array α} {l:Y α},x.toList=l->x=l.toArray:=λh=>by rw[<- h]
  unfold V9 at A;simp only[]at A;split at A
  .split at A
   .rename_i x t h1 N;rw[arr h1,arr N]at D;split at A
    next el hu=>cases A;exact aq4 D hu L
    next hu=>cases A;exact aq3 D hu L
    next k v hu=>cases A;exact aq2 D hu L
    .cases A
   .cases A
  .split at A
   next x y h1=>rw[arr h1]at D;cases A;exact atn D L
   .cases A
  .split at A
   next x y h1=>rw[arr h1]at D;cases A;exact atm D L
   .cases A
  .split at A
   .rename_i d x t u h1 N;rw[arr h1,arr N]at D;split at A
    next el el' h1 N=>let⟨sz,h3,A⟩:=bind_some A;let⟨h4,A⟩:=l_ A;cases A;exact aq6 D (tZ h1) (tZ N) h3 L
    .cases A
   .cases A
  .split at A
   .rename_i m k t t2 h1 N;rw[arr h1,arr N]at D;split at A
    next kt el hu=>obtain⟨ds,h4,rfl⟩:=map_some A;let⟨fs',K⟩:=GD h4;exact atu D hu K L
    .cases A
   .cases A
  .split at A
   next x t h1 N=>rw[arr h1,arr N]at D;let⟨el,h3,A⟩:=bind_some A;let⟨z,h4,A⟩:=bind_some A;let⟨sz,h5,A⟩:=bind_some A;let⟨h6,A⟩:=l_ A;simp only[al,cV,bne_iff_ne,ne_eq]at h6;cases A;exact atv D (tZ h3) h4 h6.1.1 h6.1.2 h6.2 L
   .cases A
  .split at A
   .rename_i s' x t u h1 N;rw[arr h1,arr N]at D;split at A
    next el el' h1 N=>let⟨sz,h3,A⟩:=bind_some A;let⟨b,h4,A⟩:=bind_some A;let⟨z,h5,A⟩:=bind_some A;let⟨h6,A⟩:=l_ A;simp only[al,cV,bne_iff_ne]at h6;cases A;exact aty D (tZ h1) (tZ N) h3 h4 h5 h6.2 h6.1 L
    .cases A
   .cases A
  .cases A
 .cases A
def m6 :∀{l:Y AV},AV.allL p l=J->∀x∈l,AV.all p x=J
 |[],_,x,z=>by cases z
 |y::l,h,x,z=>by
  simp[AV.allL,al]at h;rcases aZ.1 z with rfl|z
  .exact h.1
  .exact m6 h.2 x z
def co.restrict {φ':PM} {O':Nat->Prop} (N:∀i k,p i=J->V i=Z k->φ' i=Z k) (ho:∀k,O' k->O k) (h:co V O w y v):y.all p=J->co φ' O' w y v:=by
 induction h with
 |f h=>intro _;exact .f (h.ext (O':=O') (Ge.refl O w) λk _ hk=>ho k hk)
 |H h=>intro hp;exact .H (N _ _ hp h)
 |sl h hn hc=>intro hp;exact .sl (N _ _ hp h) hn hc
 |G h hn hc hsh=>intro hp;exact .G (N _ _ hp h) hn hc hsh
 |emp=>intro _;exact .emp
 |qw=>intro _;exact .qw
 |qm h=>intro _;exact .qm (h.ext (O':=O') (Ge.refl O w) λk _ hk=>ho k hk)
 |mp h=>intro hp;exact .mp (N _ _ hp h)
 |agg L hcl hr A=>intro hp;exact .agg L hcl λj y v z D=>A j y v z D (m6 hp y (aY z))
 |qg L hr A=>intro hp;exact .qg L λj y v z D=>A j y v z D (m6 hp y (aY z))
 |qv L hr A=>intro hp;exact .qv L λj y v z D=>A j y v z D (m6 hp y (aY z))
def gR.restrict {φ':PM} {O':Nat->Prop} {w':World} (hk:∀x v,x.all p=J->co V O w x v->co φ' O' w' x v) {o:Obj} (N:S.c.all p=J) (h:gR V O w S o):gR φ' O' w' S o:=by
 unfold gR at h ⊢;cases L:S.c with
 |fz l=>
  rw[L]at h;let⟨arr,h1,D,A⟩:=h;exact⟨arr,h1,D,λj x z=>by
   let⟨a,v,c,d⟩:=A j x z;refine ⟨a,v,c,hk _ _ ?_ d⟩;simp only[BC.get]at z;cases hl:l[j]? with
   |none=>rw[hl]at z;cases z
   |some q=>rw[hl]at z;simp at z;subst z;rfl⟩
 |mx l=>
  rw[L]at h N;let⟨arr,h1,D,A⟩:=h;exact⟨arr,h1,D,λj x z=>by
   let⟨a,v,c,d⟩:=A j x z;exact⟨a,v,c,hk _ _ (m6 N x (aY z)) d⟩⟩
 |mp es=>
  rw[L]at h N;let⟨e,c,h1,D,A⟩:=h;exact⟨e,c,h1,D,λj x z=>by
   let⟨m,a,S⟩:=A j x z;exact⟨m,a,hk _ _ (m6 N x.2 (cj.2 ⟨x,aY z,rfl⟩)) S⟩⟩
 |it s q=>rw[L]at h;exact h
def ahz (m:Nat):ι:=(iN (m+1)).filter λi=>aJ m i
def Pz :i∈ahz j↔aJ j i=J:=by
 unfold ahz;rw[List.mem_filter,sq];constructor
 .exact λh=>h.2
 .intro h;refine ⟨?_,h⟩;have h1:=Nat.ge_two_pow_of_testBit h;have z:=Nat.lt_two_pow_self (n:=i);omega
def lH (φ:PM) (O:Nat->Prop) (w:World):Y AV->ξ->Prop
 |[],[]=>True
 |x::xs,v::vs=>co φ O w x v/\lH φ O w xs vs
 |_,_=>False
def lH.length :∀{args:Y AV} {vs:ξ},lH V O w args vs->l! vs=l! args
 |[],[],_=>rfl
 |[],_::_,h|_::_,[],h=>h.elim
 |_::_,_::_,h=>by simp[lH.length h.2]
def lH.mono {φ':PM} {O':Nat->Prop} {w':World} (z:∀x v,x.all p=J->co V O w x v->co φ' O' w' x v):∀{args:Y AV} {vs:ξ},AV.allL p args=J->lH V O w args vs->lH φ' O' w' args vs
 |[],[],_,_=>trivial
 |[],_::_,_,h|_::_,[],_,h=>h.elim
 |x::xs,_::_,hp,h=>by
  simp[AV.allL,al]at hp;exact⟨z _ _ hp.1 h.1,lH.mono z hp.2 h.2⟩
def lH.append :∀{xs z:Y AV} {vs A:ξ},lH V O w xs vs->lH V O w z A->lH V O w (xs++z) (vs++A)
 |[],_,[],_,_,h=>h
 |[],_,_::_,_,h,_|_::_,_,[],_,h,_=>h.elim
 |_::_,_,_::_,_,h,h'=>⟨h.1,lH.append h.2 h'⟩
def lH.of :∀{xs:Y AV} {vs:ξ},l! vs=l! xs->(∀(j:Nat) x v,xs[j]? =Z x->vs[j]? =Z v->co V O w x v)->lH V O w xs vs
 |[],[],_,_=>trivial
 |[],_::_,h,_|_::_,[],h,_=>by simp at h
 |x::xs,v::vs,D,h=>⟨h 0 x v rfl rfl,lH.of (by grind) λj x v z A=>h (j+1) x v (by grind) (by grind)⟩
def Gh (P:Program) (f:FuncId):Prop:=∃fn,P.funcs[f]? =Z fn∧fn.body.isNone=aa∧(fn.name== "runtime.NumGoroutine")=aa
end
end Go.Proofs.YtcmnmakaoonfgaaGreatDoor.AI
