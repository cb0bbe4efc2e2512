/-
  Texts of the proof, part 1 of 6: what is used to prove the statement. No condition.
-/
import Derived.WalkKit
import Derived.Lib.Hide
import Derived.Deep.QuietTactic
import Derived.WalkSpells
import Derived.Laws.CopyRow
import Derived.Deep.AppendSrc
import Derived.Laws.AppendOwn
import Derived.Defers
namespace Prod
variable {A0 A1 A2 A3 A4 A5 A6 A7 A8 A9 A10 A11 A12 A13 A14 A15 A16 A17 A18 A19 A20 A21 A22 A23 A24:Type}
abbrev a (x:A0×A1×A2×A3):A2:=x.2.2.1
abbrev b (x:A0×A1×A2×A3×A4):A3:=x.2.2.2.1
abbrev d (x:A0×A1×A2×A3):A3:=x.2.2.2
abbrev c (x:A0×A1×A2×A3×A4×A5):A4:=x.2.2.2.2.1
abbrev f (x:A0×A1×A2×A3×A4):A4:=x.2.2.2.2
abbrev e (x:A0×A1×A2×A3×A4×A5×A6):A5:=x.2.2.2.2.2.1
abbrev h (x:A0×A1×A2×A3×A4×A5):A5:=x.2.2.2.2.2
abbrev g (x:A0×A1×A2×A3×A4×A5×A6×A7):A6:=x.2.2.2.2.2.2.1
abbrev k (x:A0×A1×A2×A3×A4×A5×A6):A6:=x.2.2.2.2.2.2
abbrev j (x:A0×A1×A2×A3×A4×A5×A6×A7×A8):A7:=x.2.2.2.2.2.2.2.1
abbrev p (x:A0×A1×A2×A3×A4×A5×A6×A7):A7:=x.2.2.2.2.2.2.2
abbrev m (x:A0×A1×A2×A3×A4×A5×A6×A7×A8×A9):A8:=x.2.2.2.2.2.2.2.2.1
abbrev s (x:A0×A1×A2×A3×A4×A5×A6×A7×A8):A8:=x.2.2.2.2.2.2.2.2
abbrev o (x:A0×A1×A2×A3×A4×A5×A6×A7×A8×A9×A10):A9:=x.2.2.2.2.2.2.2.2.2.1
abbrev B (x:A0×A1×A2×A3×A4×A5×A6×A7×A8×A9):A9:=x.2.2.2.2.2.2.2.2.2
abbrev l (x:A0×A1×A2×A3×A4×A5×A6×A7×A8×A9×A10×A11):A10:=x.2.2.2.2.2.2.2.2.2.2.1
abbrev w (x:A0×A1×A2×A3×A4×A5×A6×A7×A8×A9×A10):A10:=x.2.2.2.2.2.2.2.2.2.2
abbrev n (x:A0×A1×A2×A3×A4×A5×A6×A7×A8×A9×A10×A11×A12):A11:=x.2.2.2.2.2.2.2.2.2.2.2.1
abbrev v (x:A0×A1×A2×A3×A4×A5×A6×A7×A8×A9×A10×A11):A11:=x.2.2.2.2.2.2.2.2.2.2.2
abbrev i (x:A0×A1×A2×A3×A4×A5×A6×A7×A8×A9×A10×A11×A12×A13):A12:=x.2.2.2.2.2.2.2.2.2.2.2.2.1
abbrev z (x:A0×A1×A2×A3×A4×A5×A6×A7×A8×A9×A10×A11×A12):A12:=x.2.2.2.2.2.2.2.2.2.2.2.2
abbrev q (x:A0×A1×A2×A3×A4×A5×A6×A7×A8×A9×A10×A11×A12×A13×A14):A13:=x.2.2.2.2.2.2.2.2.2.2.2.2.2.1
abbrev y (x:A0×A1×A2×A3×A4×A5×A6×A7×A8×A9×A10×A11×A12×A13):A13:=x.2.2.2.2.2.2.2.2.2.2.2.2.2
abbrev t (x:A0×A1×A2×A3×A4×A5×A6×A7×A8×A9×A10×A11×A12×A13×A14×A15):A14:=x.2.2.2.2.2.2.2.2.2.2.2.2.2.2.1
abbrev r (x:A0×A1×A2×A3×A4×A5×A6×A7×A8×A9×A10×A11×A12×A13×A14):A14:=x.2.2.2.2.2.2.2.2.2.2.2.2.2.2
abbrev u (x:A0×A1×A2×A3×A4×A5×A6×A7×A8×A9×A10×A11×A12×A13×A14×A15×A16):A15:=x.2.2.2.2.2.2.2.2.2.2.2.2.2.2.2.1
abbrev F (x:A0×A1×A2×A3×A4×A5×A6×A7×A8×A9×A10×A11×A12×A13×A14×A15):A15:=x.2.2.2.2.2.2.2.2.2.2.2.2.2.2.2
abbrev C (x:A0×A1×A2×A3×A4×A5×A6×A7×A8×A9×A10×A11×A12×A13×A14×A15×A16×A17):A16:=x.2.2.2.2.2.2.2.2.2.2.2.2.2.2.2.2.1
abbrev E (x:A0×A1×A2×A3×A4×A5×A6×A7×A8×A9×A10×A11×A12×A13×A14×A15×A16):A16:=x.2.2.2.2.2.2.2.2.2.2.2.2.2.2.2.2
abbrev D (x:A0×A1×A2×A3×A4×A5×A6×A7×A8×A9×A10×A11×A12×A13×A14×A15×A16×A17×A18):A17:=x.2.2.2.2.2.2.2.2.2.2.2.2.2.2.2.2.2.1
abbrev G (x:A0×A1×A2×A3×A4×A5×A6×A7×A8×A9×A10×A11×A12×A13×A14×A15×A16×A17):A17:=x.2.2.2.2.2.2.2.2.2.2.2.2.2.2.2.2.2
abbrev H (x:A0×A1×A2×A3×A4×A5×A6×A7×A8×A9×A10×A11×A12×A13×A14×A15×A16×A17×A18×A19):A18:=x.2.2.2.2.2.2.2.2.2.2.2.2.2.2.2.2.2.2.1
abbrev I (x:A0×A1×A2×A3×A4×A5×A6×A7×A8×A9×A10×A11×A12×A13×A14×A15×A16×A17×A18×A19×A20):A19:=x.2.2.2.2.2.2.2.2.2.2.2.2.2.2.2.2.2.2.2.1
abbrev K (x:A0×A1×A2×A3×A4×A5×A6×A7×A8×A9×A10×A11×A12×A13×A14×A15×A16×A17×A18×A19×A20×A21):A20:=x.2.2.2.2.2.2.2.2.2.2.2.2.2.2.2.2.2.2.2.2.1
abbrev L (x:A0×A1×A2×A3×A4×A5×A6×A7×A8×A9×A10×A11×A12×A13×A14×A15×A16×A17×A18×A19×A20×A21):A21:=x.2.2.2.2.2.2.2.2.2.2.2.2.2.2.2.2.2.2.2.2.2
end Prod
namespace Go.Proofs.YtcmnmakaoonfgaaGreatDoor.AI
open Go.RowKit
set_option maxRecDepth 100000
set_option maxHeartbeats 4000000
set_option linter.unusedVariables false
set_option linter.unusedSimpArgs false
set_option linter.defProp false
open _root_.Array renaming replicate→zY,range→HA
open _root_.Bool renaming true→J,false→af
open Builtin renaming zeroCells→mA,firstCells→Pp
open Call renaming operands→eX
open ForInStep renaming yield→I7
open Instr renaming findAsking→di,findNow→jC,sameBits→mi,checkKey→mj,sliceBounds→mz,sliceBound→oa,sliceAt→uI,findKey→zV,slice→Bv
open _root_.Int renaming toNat→aN,ofNat→aS,tmod→C5
open IntKind renaming wrap→p_
open _root_.List renaming length→l!,length→aj,replicate→aG,length_singleton→cH,take→dE,range→dG,map→gE,toArray→jG,length_cons→jX,set→oI,ext_getElem?→pZ,append→sS,map_drop→zU,foldl_cons→zX,map_nil→C3
open _root_.Nat renaming beq→aB,testBit→aO,add_zero→dI,blt→eJ,ble→eK,min→lQ,mod_eq_of_lt→xd
open Oper renaming wp→Lk
open _root_.Option renaming some→Z,none→U,bind_some→aD,map_some→bx
open Region renaming wanted→qR,binds→CY,ready→Li
open Result renaming andThen_ok→c4
open Sem renaming run_bind→fE,run→lj,run_pure→w_
open Value.bool renaming injEq→Fn
open World renaming shape?→tG,cell?→Sl
noncomputable section
abbrev Y:=@List
abbrev M:=@Option
abbrev ax:=@if_neg
abbrev aF:=@if_pos
abbrev a8:=@decide_eq_true
abbrev bq:=@if_true
abbrev bC:=@absurd
abbrev bJ:=@of_decide_eq_true
abbrev bS:=@decide_eq_true_eq
abbrev cw:=@beq_self_eq_true
abbrev c5:=@beq_iff_eq
abbrev dm:=@decide_eq_false
abbrev dZ:=@if_false
abbrev e_:=@congrArg
abbrev fH:=@or_false
abbrev YA:=@of_decide_eq_false
abbrev ah:=@Option.some.injEq
abbrev au:=@Bool.and_eq_true
abbrev av:=@Nat.eq_of_beq_eq_true
abbrev aC:=@List.mem_singleton
abbrev aE:=@List.getD_eq_getElem?_getD
abbrev aH:=@List.getElem?_eq_getElem
abbrev aU:=@Prod.mk.injEq
abbrev aY:=@Nat.le_of_ble_eq_true
abbrev a_:=@List.mem_cons
abbrev ba:=@List.mem_of_getElem?
abbrev bj:=@Nat.ble_eq_true_of_le
abbrev bw:=@Nat.testBit_or
abbrev bz:=@List.length_append
abbrev bA:=@List.getElem?_eq_some_iff
abbrev bE:=@List.getElem?_map
abbrev bI:=@Nat.le_refl
abbrev bN:=@Nat.not_lt_zero
abbrev bO:=@List.mem_append
abbrev bU:=@List.getElem?_append_left
abbrev b9:=@Nat.zero_add
abbrev cg:=@List.mem_cons_of_mem
abbrev ch:=@List.map_cons
abbrev cm:=@List.getElem?_append_right
abbrev cq:=@List.length_map
abbrev cr:=@List.map_append
abbrev cu:=@List.mem_map
abbrev cD:=@List.not_mem_nil
abbrev cJ:=@Nat.lt_or_ge
abbrev cK:=@Nat.mul_le_mul_right
abbrev cL:=@List.length_take
abbrev cW:=@Bool.not_eq_true'
abbrev cY:=@List.take_length
abbrev cZ:=@Bool.false_eq_true
abbrev dc:=@Nat.le_trans
abbrev dg:=@Int.le_refl
abbrev dj:=@Array.getElem?_toList
abbrev dk:=@List.mem_cons_self
abbrev du:=@Bool.true_and
abbrev dy:=@List.length_replicate
abbrev dC:=@Nat.lt_of_lt_of_le
abbrev dD:=@Array.getElem?_eq_some_iff
abbrev dF:=@List.length_set
abbrev dH:=@List.length_eq_zero_iff
abbrev dL:=@List.getElem?_eq_none
abbrev ey:=@List.getElem?_set
abbrev eD:=@Int.natCast_nonneg
abbrev eV:=@List.mem_append_left
abbrev eZ:=@List.foldl_append
abbrev e9:=@List.cons.injEq
abbrev fK:=@List.mem_append_right
abbrev fO:=@Option.some.inj
abbrev fW:=@List.getElem?_replicate
abbrev fZ:=@Nat.le_succ_of_le
abbrev f_:=@List.flatMap_cons
abbrev gm:=@List.getElem?_of_mem
abbrev gu:=@Option.map_eq_some_iff
abbrev gw:=@Nat.beq_refl
abbrev gx:=@List.getElem?_take
abbrev gI:=@List.map_take
abbrev io:=@List.append_nil
abbrev ip:=@Bool.and_self
abbrev iG:=@List.take_of_length_le
abbrev iH:=@List.all_eq_true
abbrev iV:=@List.append_assoc
abbrev jF:=@Nat.succ_mul
abbrev j6:=@Array.getD_eq_getD_getElem?
abbrev kL:=@Nat.or_assoc
abbrev kM:=@List.map_map
abbrev kN:=@Bool.false_and
abbrev kS:=@List.map_congr_left
abbrev kV:=@Nat.zero_le
abbrev my:=@Nat.lt_succ_of_lt
abbrev mV:=@Bool.or_eq_true
abbrev nP:=@Nat.ne_of_beq_eq_false
abbrev n_:=@Nat.lt_succ_self
abbrev pI:=@Array.getElem?_eq_getElem
abbrev pX:=@List.take_succ_eq_append_getElem
abbrev pY:=@List.mem_of_mem_take
abbrev qS:=@Option.isSome_iff_exists
abbrev sH:=@List.length_drop
abbrev sI:=@List.ext_getElem
abbrev sR:=@List.take_append_of_le_length
abbrev tH:=@List.getElem?_drop
abbrev uH:=@Nat.add_assoc
abbrev wL:=@Nat.zero_or
abbrev wM:=@List.replicate_succ'
abbrev wN:=@List.mem_range
abbrev wO:=@Bool.and_eq_true_iff
abbrev xc:=@Nat.sub_self
abbrev xf:=@List.mem_flatMap
abbrev xg:=@List.drop_append
abbrev xO:=@Classical.byContradiction
abbrev yl:=@List.length_take_le
abbrev AU:=@Int.not_lt
abbrev C1:=@Nat.lt_trichotomy
abbrev C2:=@List.size_toArray
abbrev C4:=@List.drop_of_length_le
abbrev EG:=@List.take_append_drop
abbrev EH:=@List.length_filter_le
abbrev EI:=@List.contains_iff_mem
abbrev Fq:=@Nat.lt_irrefl
abbrev I5:=@Nat.min_eq_left
abbrev I6:=@List.sum_append
abbrev Kp:=@List.drop_succ_cons
abbrev Kq:=@Int.toNat_of_nonneg
abbrev Sn:=@Bool.eq_false_iff
abbrev η:=Y Int
abbrev ζ:=Y UInt8
abbrev θ:=Y Bool
abbrev ι:=Y Nat
abbrev ξ:=Y Value
abbrev ω:=Int×Int×Int×Int×Int×Int
abbrev υ:=Int×Int×Int×Int×Int
abbrev π:=Int×Int×Int
abbrev ν:=Int×Int
inductive FV where
 |raw (v:Value)
 |sl (cells:List FV) (n:Nat)
 |H (cells:List FV) (off:Nat)
 |agg (cells:List FV)
inductive AV where
 |f (x:FV)
 |H (id off:Nat)
 |sl (id off n:Nat)
 |G (id sz n:Nat)
 |mp (id:Nat)
 |emp
 |qw
 |agg (cells:List AV)
 |qg (vs:List AV)
 |qv (g:FuncId) (cap:List AV)
def FV.isCell:FV->Bool
 |.raw v=>v.oneCell'
 |.sl _ _=>J
 |.H _ _=>J
 |.agg _=>af
def AV.isCell:AV->Bool
 |.f x=>x.isCell
 |.H _ _=>J
 |.sl _ _ _=>J
 |.G _ _ _=>J
 |.mp _=>J
 |.emp=>J
 |.qv _ _=>J
 |_=>af
inductive nN (O:Nat->Prop) (w:World):FV->Value->Prop
 |raw (v:Value):nN O w (.raw v) v
 |nil (a:Option Addr) (c:Nat) (hc:c<=maxLen):nN O w (.sl [] 0) (.slice a 0 c)
 |sl (cells:List FV) (n c b off:Nat) (us:Nat->Value) (hn:n<=c) (hc:c<=maxLen) (hO:¬O b) (hb:b<w.heap.size)
   (hcl:∀x∈cells,x.isCell=J)
   (hu:∀j,j<l! cells->w.cell? ⟨b,off+j,U⟩=Z (us j)) (hr:∀(j:Nat) x,cells[j]? =Z x->nN O w x (us j)):
   nN O w (.sl cells n) (.slice (Z ⟨b,off,U⟩) n c)
 |H (cells:List FV) (o b off:Nat) (us:Nat->Value) (hO:¬O b) (hb:b<w.heap.size)
   (hcl:∀x∈cells,x.isCell=J)
   (hu:∀j,j<l! cells->w.cell? ⟨b,off+j,U⟩=Z (us j)) (hr:∀(j:Nat) x,cells[j]? =Z x->nN O w x (us j)):
   nN O w (.H cells o) (.pointer (Z ⟨b,off+o,U⟩))
 |agg (cells:List FV) (vs:ξ) (hl:l! vs=l! cells) (hcl:∀x∈cells,x.isCell=J)
   (hr:∀(j:Nat) x v,cells[j]? =Z x->vs[j]? =Z v->nN O w x v):nN O w (.agg cells) (.agg vs.toArray)
abbrev PM:=Nat->M Nat
inductive cz (φ:PM) (O:Nat->Prop) (w:World):AV->Value->Prop
 |f {x:FV} {v:Value} (h:nN O w x v):cz φ O w (.f x) v
 |H {id off b:Nat} (h:φ id=Z b):cz φ O w (.H id off) (.pointer (Z ⟨b,off,U⟩))
 |sl {id off n c b:Nat} (h:φ id=Z b) (hn:n<=c) (hc:c<=maxLen):cz φ O w (.sl id off n) (.slice (Z ⟨b,off,U⟩) n c)
 |G {id sz n c b:Nat} (h:φ id=Z b) (hn:n<=c) (hc:c<=maxLen) (hs:∃ty,w.shape? b=Z (ty,c*sz)):
   cz φ O w (.G id sz n) (.slice (Z ⟨b,0,U⟩) n c)
 |emp {a:Option Addr}:cz φ O w .emp (.slice a 0 0)
 |qw {b:Bool}:cz φ O w .qw (.bool b)
 |mp {id b:Nat} (h:φ id=Z b):cz φ O w (.mp id) (.map (Z b))
 |agg {cells:List AV} {vs:ξ} (hl:l! vs=l! cells) (hcl:∀x∈cells,x.isCell=J)
   (hr:∀(j:Nat) x v,cells[j]? =Z x->vs[j]? =Z v->cz φ O w x v):cz φ O w (.agg cells) (.agg vs.toArray)
 |qg {cells:List AV} {vs:ξ} (hl:l! vs=l! cells)
   (hr:∀(j:Nat) x v,cells[j]? =Z x->vs[j]? =Z v->cz φ O w x v):cz φ O w (.qg cells) (.tuple vs.toArray)
 |qv {g:FuncId} {cells:List AV} {vs:ξ} (hl:l! vs=l! cells)
   (hr:∀(j:Nat) x v,cells[j]? =Z x->vs[j]? =Z v->cz φ O w x v):cz φ O w (.qv g cells) (.func (.func g) #[] vs.toArray)
structure I3 (O:Nat->Prop) (w w':World):Prop where
 os:w'.os=w.os
 tape:w'.tape=w.tape
 output:w'.output=w.output
 size:w.heap.size<=w'.heap.size
 jd:∀k,k<w.heap.size->¬O k->w'.heap[k]? =w.heap[k]?
 xj:∀k,k<w.heap.size->w'.shape? k=w.shape? k
def I3.refl (O:Nat->Prop) (w:World):I3 O w w:=⟨rfl,rfl,rfl,bI _,λ_ _ _=>rfl,λ_ _=>rfl⟩
variable {w:World} {i:Nat}
def Hj {w':World} (h:w'.heap[i]? =w.heap[i]?) (o:Nat):w'.cell? ⟨i,o,U⟩=w.cell? ⟨i,o,U⟩:=by
 unfold Sl;rw[h]
variable {O:Nat->Prop} {v:Value}
def nN.ext {O':Nat->Prop} {w':World} (he:I3 O w w') (ho:∀k,k<w.heap.size->O' k->O k) {x:FV} (h:nN O w x v):nN O' w' x v:=by
 induction h with
 |raw v=>exact .raw v
 |nil a c hc=>exact .nil a c hc
 |sl cells n c b off L hn hc D z hcl N hr A=>
  exact .sl cells n c b off L hn hc (λh=>D (ho b z h)) (dC z he.size) hcl (λj hj=>by rw[Hj (he.jd b z D)];exact N j hj) A
 |H cells o b off L D z hcl N hr A=>
  exact .H cells o b off L (λh=>D (ho b z h)) (dC z he.size) hcl (λj hj=>by rw[Hj (he.jd b z D)];exact N j hj) A
 |agg cells vs hl hcl hr A=>exact .agg cells vs hl hcl A
variable {V:PM} {y:AV}
def cz.ext {φ':PM} {O':Nat->Prop} {w':World} (D:∀i k,V i=Z k->φ' i=Z k) (he:I3 O w w') (ho:∀k,k<w.heap.size->O' k->O k) (h:cz V O w y v):cz φ' O' w' y v:=by
 induction h with
 |f h=>exact .f (h.ext he ho)
 |H h=>exact .H (D _ _ h)
 |sl h L N=>exact .sl (D _ _ h) L N
 |G h L N hsh=>
  let⟨ty,hty⟩:=hsh;refine .G (D _ _ h) L N ⟨ty,?_⟩;rw[he.xj _ ?_];exact hty;unfold tG at hty
  grind
 |emp=>exact .emp
 |qw=>exact .qw
 |mp h=>exact .mp (D _ _ h)
 |agg A hcl hr z=>exact .agg A hcl z
 |qg A hr z=>exact .qg A z
 |qv A hr z=>exact .qv A z
inductive BC where
 |fz (l:List FV)
 |mx (l:List AV)
 |mp (es:List (Value×AV))
 |it (s:ByteArray) (pos:Nat)
def BC.get:BC->Nat->M AV
 |.fz l,j=>l[j]?.map AV.f
 |.mx l,j=>l[j]?
 |_,_=>U
def BC.len:BC->Nat
 |.fz l|.mx l=>l! l
 |_=>0
def BC.isCells:BC->Bool
 |.fz _=>J
 |.mx _=>J
 |_=>af
structure kx where
 ty:TypeId
 c:BC
abbrev HF:=Nat->M kx
def own (φ:PM) (h:HF) (k:Nat):Prop:=∃id b,h id=Z b/\φ id=Z k
def tot (E:Nat->Prop) (φ:PM) (h:HF) (k:Nat):Prop:=E k\/own φ h k
def vH (φ:PM) (O:Nat->Prop) (w:World) (c:BC) (arr:Array Value):Prop:=
 c.len<=arr.size/\∀j x,c.get j=Z x->x.isCell=J/\∃v,arr[j]? =Z v/\cz φ O w x v
abbrev l?:=Value×AV
def MpK (_:TypeId) (es:Y l?) (ents:Array MapEntry):Prop:=ents.toList.map (·.key)=es.map (·.1)
def MpV (_:TypeId) (ents:Array MapEntry) (j:Nat) (_ v:Value):Prop:=∃m,ents[j]? =Z m/\v=m.val
def ic (φ:PM) (O:Nat->Prop) (w:World) (b:kx) (o:Obj):Prop:=
 match b.c with
 |.mp es=>∃ents clock,o= .map ents clock/\MpK b.ty es ents/\∀(j:Nat) x,es[j]? =Z x->∃v,MpV b.ty ents j x.1 v/\cz φ O w x.2 v
 |.it s p=>o= .stringIter s p
 |c=>∃arr,o= .cells arr b.ty (0,0)/\vH φ O w c arr
def am3 (φ:PM) (O:Nat->Prop) (w:World) (k:Nat) (b:kx):Prop:=∃o,w.heap[k]? =Z o/\ic φ O w b o
variable {Q:kx}
def am3.cells (h:am3 V O w i Q) (A:Q.c.isCells=J):
 ∃arr,w.heap[i]? =Z (.cells arr Q.ty (0,0))/\vH V O w Q.c arr:=by
 let⟨o,h1,z⟩:=h;unfold ic at z;cases D:Q.c with
 |fz l|mx l=>rw[D]at z;obtain⟨arr,rfl,L⟩:=z;exact⟨arr,h1,L⟩
 |_=>rw[D]at A;cases A
def ic.mono {φ':PM} {O':Nat->Prop} {w':World} (N:∀x v,cz V O w x v->cz φ' O' w' x v) {o:Obj} (h:ic V O w Q o):ic φ' O' w' Q o:=by
 unfold ic at h ⊢;cases L:Q.c with
 |mp es=>rw[L]at h;let⟨e,c,h1,D,A⟩:=h;exact⟨e,c,h1,D,λj x z=>by let⟨m,a,Q⟩:=A j x z;exact⟨m,a,N _ _ Q⟩⟩
 |it s p=>rw[L]at h;exact h
 |_=>rw[L]at h;let⟨arr,h1,D,A⟩:=h;exact⟨arr,h1,D,λj x z=>by let⟨a,v,c,d⟩:=A j x z;exact⟨a,v,c,N _ _ d⟩⟩
def vH.mono {φ':PM} {O':Nat->Prop} {w':World} (A:∀x v,cz V O w x v->cz φ' O' w' x v) {c:BC} {arr:Array Value} (h:vH V O w c arr):vH φ' O' w' c arr:=
 ⟨h.1,λj x z=>by let⟨a,v,c,d⟩:=h.2 j x z;exact⟨a,v,c,A _ _ d⟩⟩
def wU (l:ζ):FV:=.raw (.string ⟨l.toArray⟩)
def F7:Y FV:=[wU [118,97,114],wU [118,111,108,97,116,105,108,101],wU [109,117,116,101,120],wU [114,119,108,111,99,107],wU [99,111,110,100],wU [102,117,116,117,114,101],wU [116,104,114,101,97,100],wU [105,102],wU [101,108,115,101],wU [119,104,105,108,101],wU [108,111,99,107],wU [114,101,97,100],wU [119,114,105,116,101],wU [116,114,97,110,115,97,99,116,105,111,110],wU [97,116,111,109,105,99],wU [119,97,105,116],wU [110,111,116,105,102,121],wU [110,111,116,105,102,121,97,108,108],wU [115,112,97,119,110],wU [106,111,105,110],wU [115,101,116],wU [103,101,116]]
def G (g:Nat):M (Y FV):=if g==0 then Z F7 else U
structure sE (φ:PM) (E:Nat->Prop) (h:HF) (w:World):Prop where
 inj:∀i j b b' k,h i=Z b->h j=Z b'->φ i=Z k->φ j=Z k->i=j
 at_:∀i b,h i=Z b->∃k,φ i=Z k/\¬E k/\am3 φ (tot E φ h) w k b
 el:∀k,E k->k<w.heap.size
 gl:∀g cells,G g=Z cells->nN (tot E φ h) w (.H cells 0) (.pointer (Z ⟨g,0,U⟩))
structure jW (φ φ':PM) (h h':HF) (w w':World):Prop where
 sub:∀i k,φ i=Z k->φ' i=Z k
 ext:I3 (own φ h) w w'
 zw:∀k,k<w.heap.size->own φ' h' k->own φ h k
def jW.refl (φ:PM) (h:HF) (w:World):jW φ φ h h w w:=⟨λ_ _ h=>h,I3.refl _ _,λ_ _ h=>h⟩
variable {A:HF}
def jW.trans {φ' φ'':PM} {h' h'':HF} {w' w'':World} (m:jW V φ' A h' w w') (n:jW φ' φ'' h' h'' w' w''):jW V φ'' A h'' w w'' where
 sub:=λi k e=>n.sub i k (m.sub i k e)
 ext:=⟨n.ext.os.trans m.ext.os,n.ext.tape.trans m.ext.tape,n.ext.output.trans m.ext.output,dc m.ext.size n.ext.size,
  λk z h=>(n.ext.jd k (dC z m.ext.size) (λA=>h (m.zw k z A))).trans (m.ext.jd k z h),
  λk z=>(n.ext.xj k (dC z m.ext.size)).trans (m.ext.xj k z)⟩
 zw:=λk z A=>m.zw k z (n.zw k (dC z m.ext.size) A)
def I3.mono {O':Nat->Prop} {w':World} (h:I3 O w w') (z:∀k,O k->O' k):I3 O' w w':=
 ⟨h.os,h.tape,h.output,h.size,λk A D=>h.jd k A (λx=>D (z k x)),h.xj⟩
def jW.zj {φ':PM} {h':HF} {w':World} (m:jW V φ' A h' w w') (r:cz V (tot O V A) w y v):cz φ' (tot O φ' h') w' y v:=
 r.ext m.sub (m.ext.mono λ_ A=>.inr A) λk h z=>z.elim .inl λo=>.inr (m.zw k h o)
def jW.keepF {φ':PM} {h':HF} {w':World} (m:jW V φ' A h' w w') {x:FV} (r:nN (tot O V A) w x v):nN (tot O φ' h') w' x v:=
 r.ext (m.ext.mono λ_ A=>.inr A) λk h z=>z.elim .inl λo=>.inr (m.zw k h o)
abbrev EF:=Nat->M AV
def Sk (φ:PM) (O:Nat->Prop) (w:World) (e:EF) (a:Act):Prop:=∀t x,e t=Z x->cz φ O w x (a.tmps.getD t undef)
def PD (e:EF) (dst:M Nat) (x:AV):EF:=λt=>if dst=Z t then Z x else e t
def fw (h:HF) (z:ι) (A:HF):HF:=λi=>if i∈z then A i else h i
structure EE where
 val:AV
 rd:ι
 wr:ι
 nw:HF
 N:ι
def gO (P:Program) (o:Oper) (e:EF) (h:HF) (f:EE):Prop:=
 ∀(φ:PM) (E:Nat->Prop) (h':HF) (w:World) (a:Act),(∀i∈f.rd,h' i=h i)->(∀i∈f.wr,h' i=h i)->
  (∀t,.tmp t∈o.op.operands->∀y,e t=Z y->cz φ (tot E φ h') w y (a.tmps.getD t undef))->sE φ E h' w->(∀n∈f.N,φ n=U)->
  o.wp P a w (λz w'=>∃v φ',z=a.put o.dst v/\jW φ φ' h' (fw h' f.wr f.nw) w w'/\(∀i k,φ' i=Z k->φ i=Z k\/i∈f.N)/\
   sE φ' E (fw h' f.wr f.nw) w'/\cz φ' (tot E φ' (fw h' f.wr f.nw)) w' f.val v) (λ_ _ _=>False)
def tI:EE:=⟨.f (.raw undef),[],[],λ_=>U,[]⟩
inductive O6 (P:Program) (ops:Array Oper) (o:Oper) (f:EE) (e:EF) (h:HF):Prop
 |run (hg:o.guard=U) (ht:gO P o e h f)
 |runG (j t:Nat) (want:Bool) (hg:o.guard=Z (j,want)) (hj:(ops[j]?).bind (·.dst)=Z t) (he:e t=Z (.f (.raw (.bool want)))) (ht:gO P o e h f)
 |skip (j t:Nat) (want:Bool) (hg:o.guard=Z (j,want)) (hj:(ops[j]?).bind (·.dst)=Z t) (v:Value) (he:e t=Z (.f (.raw v))) (hv:v≠ .bool want) (hf:f=tI)
inductive CW (P:Program) (ops:Array Oper):List (Oper×EE)->EF->HF->EF->HF->Prop
 |nil (e:EF) (h:HF):CW P ops [] e h e h
 |cons {o:Oper} {f:EE} {r:List (Oper×EE)} {e e':EF} {h h':HF} (hs:O6 P ops o f e h)
   (hr:CW P ops r (PD e o.dst f.val) (fw h f.wr f.nw) e' h'):CW P ops ((o,f)::r) e h e' h'
abbrev v?:=Oper×EE
def Rd (S:Nat->Bool):Nat->Y v?->EF->EF
 |_,[],e=>e
 |k,(o,f)::r,e=>Rd S (k+1) r (if S k then PD e o.dst f.val else e)
def HB (S:Nat->Bool):Nat->Y v?->HF->HF
 |_,[],h=>h
 |k,(_,f)::r,h=>HB S (k+1) r (if S k then fw h f.wr f.nw else h)
variable {p:Nat->Bool}
def HL {S':Nat->Bool} :∀(l:Y v?) (k:Nat) (e e':EF),e i=e' i->
 (∀(j:Nat) o f,l[j]? =Z (o,f)->o.dst=Z i->p (k+j)=S' (k+j))->Rd p k l e i=Rd S' k l e' i
 |[],_,_,_,he,_=>he
 |(o,f)::r,k,e,e',he,z=>by
  refine HL r (k+1) _ _ ?_ (λj o f A hd=>by have:=z (j+1) o f (by grind) hd;rwa [show k+(j+1)=k+1+j from by omega]at this);by_cases hd:o.dst=Z i
  .rw[show p k=S' k from by simpa using z 0 o f rfl hd];split
   .simp[PD,hd]
   .exact he
  .split<;>split<;>simp[PD,hd,he]
def HJ {S':Nat->Bool} :∀(l:Y v?) (k:Nat) (e e':HF),e i=e' i->
 (∀(j:Nat) o f,l[j]? =Z (o,f)->i∈f.wr->p (k+j)=S' (k+j))->HB p k l e i=HB S' k l e' i
 |[],_,_,_,he,_=>he
 |(o,f)::r,k,e,e',he,z=>by
  refine HJ r (k+1) _ _ ?_ (λj o f A hd=>by have:=z (j+1) o f (by grind) hd;rwa [show k+(j+1)=k+1+j from by omega]at this);by_cases hd:i∈f.wr
  .rw[show p k=S' k from by simpa using z 0 o f rfl hd];split
   .simp[fw,hd]
   .exact he
  .split<;>split<;>simp[fw,hd,he]
def Fw :∀(l:Y v?) (k:Nat) (e:EF),(∀(j:Nat) o f,l[j]? =Z (o,f)->o.dst=Z i->p (k+j)=af)->Rd p k l e i=e i
 |[],_,_,_=>rfl
 |(o,f)::r,k,e,z=>by
  simp[Rd];rw[Fw r (k+1) _ (λj o f A hd=>by have:=z (j+1) o f (by grind) hd;rwa [show k+(j+1)=k+1+j from by omega]at this)];split
  next h=>unfold PD;rw[ax];intro hd;have:=z 0 o f rfl hd;simp_all
  .rfl
def Fv :∀(l:Y v?) (k:Nat) (e:HF),(∀(j:Nat) o f,l[j]? =Z (o,f)->i∈f.wr->p (k+j)=af)->HB p k l e i=e i
 |[],_,_,_=>rfl
 |(o,f)::r,k,e,z=>by
  simp[HB];rw[Fv r (k+1) _ (λj o f A hd=>by have:=z (j+1) o f (by grind) hd;rwa [show k+(j+1)=k+1+j from by omega]at this)];split
  next h=>unfold fw;rw[ax];intro hd;have:=z 0 o f rfl hd;simp_all
  .rfl
def UY :∀(l:Y v?) (k t:Nat) (e:EF) (o:Oper) (f:EE),l[t]? =Z (o,f)->o.dst=Z i->p (k+t)=J->
 (∀(j:Nat) z L,t<j->l[j]? =Z (z,L)->z.dst=Z i->p (k+j)=af)->Rd p k l e i=Z f.val
 |[],_,_,_,_,_,h,_,_,_=>by simp at h
 |(z,L)::r,k,0,e,o,f,h,hd,D,A=>by
  obtain⟨rfl,rfl⟩:=h;simp[Rd];rw[Fw r (k+1) _ (λj o f N hd=>by have:=A (j+1) o f (by omega) (by grind) hd;rwa [show k+(j+1)=k+1+j from by omega]at this)];simp at D;simp[D,PD,hd]
 |(z,L)::r,k,t+1,e,o,f,h,hd,D,A=>by
  exact UY r (k+1) t _ o f (by grind) hd (by grind)
   (λj o f hij N hd=>by have:=A (j+1) o f (by omega) (by grind) hd;rwa [show k+(j+1)=k+1+j from by omega]at this)
def UX :∀(l:Y v?) (k t:Nat) (e:HF) (o:Oper) (f:EE),l[t]? =Z (o,f)->i∈f.wr->p (k+t)=J->
 (∀(j:Nat) A z,t<j->l[j]? =Z (A,z)->i∈z.wr->p (k+j)=af)->HB p k l e i=f.nw i
 |[],_,_,_,_,_,h,_,_,_=>by simp at h
 |(A,z)::r,k,0,e,o,f,h,hd,L,D=>by
  obtain⟨rfl,rfl⟩:=h;simp[HB];rw[Fv r (k+1) _ (λj o f N hd=>by have:=D (j+1) o f (by omega) (by grind) hd;rwa [show k+(j+1)=k+1+j from by omega]at this)];simp at L;simp[L,fw,hd]
 |(A,z)::r,k,t+1,e,o,f,h,hd,L,D=>by
  exact UX r (k+1) t _ o f (by grind) hd (by grind)
   (λj o f hij N hd=>by have:=D (j+1) o f (by omega) (by grind) hd;rwa [show k+(j+1)=k+1+j from by omega]at this)
variable {P:Program} {e:Array Oper}
def CW.step :∀{l:Y v?} {ops e':EF} {h h':HF} (_:CW P e l ops h e' h') (k i:Nat) (o:Oper) (f:EE),l[i]? =Z (o,f)->
 O6 P e o f (Rd (λj=>decide (j<k+i)) k l ops) (HB (λj=>decide (j<k+i)) k l h):=by
 intro l ops e' h h' N;induction N with
 |nil=>intro k i o f hi;simp at hi
 |@cons z A r ops e' h h' L hr D=>
  intro k i o f hi;cases i with
  |zero=>
   obtain⟨rfl,rfl⟩:=hi;have e1:Rd (λj=>decide (j<k+0)) k ((z,A)::r) ops=ops:=by
    funext t;rw[Fw];simp
   have e2:HB (λj=>decide (j<k+0)) k ((z,A)::r) h=h:=by
    funext t;rw[Fv];simp
   rw[e1,e2];exact L
  |succ i=>
   have:=D (k+1) i o f (by grind);simp[Rd,HB]
   grind
def CW.final :∀{l:Y v?} {ops e':EF} {h h':HF} (_:CW P e l ops h e' h') (k:Nat) (S:Nat->Bool),(∀j,j<l! l->S (k+j)=J)->
 Rd S k l ops=e'/\HB S k l h=h':=by
 intro l ops e' h h' D;induction D with
 |nil=>intro k S _;exact⟨rfl,rfl⟩
 |@cons L f1 r ops e' h h' N hr A=>
  intro k S z;have h0:S k=J:=by simpa using z 0 (by simp)
  simp[Rd,HB,h0,bq];exact A (k+1) S (λj hj=>by have:=z (j+1) (by grind);rwa [show k+(j+1)=k+1+j from by omega]at this)
variable {S:Act} {d:Exit->Act->World->Prop}
def UR {o:Oper} {K K':Act->World->Prop} (h:∀S w,K S w->K' S w)
 (hh:o.wp P S w K (λ_ _ _=>False)):o.wp P S w K' d:=by
 unfold Lk at*
 generalize (execOp S.eval o).run P w=r at*
 cases r with
 |ok n w'=>
  cases n<;>simp[Oper.upon]at hh ⊢<;>
   first
    |exact h _ _ hh
    |exact Calls.mono hh (λe w'' he=>by
      cases e with
      |returned v=>exact h _ _ he
      |panicked c=>exact he.elim
      |outgrown=>let⟨_,_,h⟩:=he;exact h.elim)
    |exact Rows.mono hh (λ_ _ he=>h _ _ he)
 |halt x w'=>cases x<;>simp[Oper.upon]at hh ⊢<;>first|exact hh.elim|exact hh
inductive Bef (ops:Array Oper):Nat->Nat->Prop
 |one {j:Nat} {o:Oper} {e:Edge} (h:ops[j]? =Z o) (he:e∈o.after) (hb:CY .any e=J):Bef ops j e.on
 |more {j i:Nat} {o:Oper} {e:Edge} (h:ops[j]? =Z o) (he:e∈o.after) (hb:CY .any e=J) (hi:Bef ops e.on i):Bef ops j i
structure NIP (ops:Array Oper) (l:List (Oper×EE)):Prop where
 edge:∀(j:Nat) o,ops[j]? =Z o->∀e∈o.after,CY .any e=J->e.on<j
 pair:∀(i j:Nat) oi fi oj fj,i<j->l[i]? =Z (oi,fi)->l[j]? =Z (oj,fj)->Bef ops j i\/
  (oi.apart ops oj=J/\(∀x∈fi.wr,x∉fj.rd/\x∉fj.wr)/\(∀x∈fj.wr,x∉fi.rd))
 names:∀(i j:Nat) oi fi oj fj,i<j->l[i]? =Z (oi,fi)->l[j]? =Z (oj,fj)->∀n∈fi.N,n∉fj.N
def I4 (ops:Array Oper) (listed:Array Bool):Prop:=∀(j:Nat) o,ops[j]? =Z o->listed.getD j af=J->∀e∈o.after,CY .any e=J->listed.getD e.on af=J
variable {j:Nat}
def I4.bef {listed:Array Bool} (D:I4 e listed) (h:Bef e j i):listed.getD j af=J->listed.getD i af=J:=by
 induction h with
 |one h he A=>intro z;exact D _ _ h z _ he A
 |more h he A hi L=>intro z;exact L (D _ _ h z _ he A)
def aed {listed:Array Bool} (L:I4 e listed) {o:Oper} (z:e[j]? =Z o) (D:∀ops∈o.after,CY .any ops=J->listed.getD ops.on af=J) (h:Bef e j i):listed.getD i af=J:=by
 cases h with
 |one h he A=>rw[h]at z;cases z;exact D _ he A
 |more h he A hi=>rw[h]at z;cases z;exact L.bef hi (D _ he A)
def Be {listed:Array Bool} (h:listed.getD j J=af):listed.getD j af=af/\j<listed.size:=by grind
def StP (φ0:PM) (E:Nat->Prop) (e0:EF) (h0:HF) (w0:World) (z:Act) (l:Y v?) (S:Nat->Bool) (a:Act) (w:World):Prop:=
 ∃φ,jW φ0 φ h0 (HB S 0 l h0) w0 w/\(∀i k,φ i=Z k->φ0 i=Z k\/∃(j:Nat) (o:Oper) (f:EE),S j=J/\l[j]? =Z (o,f)/\i∈f.N)/\
  sE φ E (HB S 0 l h0) w/\Sk φ (tot E φ (HB S 0 l h0)) w (Rd S 0 l e0) a/\a.defers=z.defers/\a.tmps.size=z.tmps.size
def Vq {dst:M Tmp} (hd:∀d,dst=Z d->d<S.tmps.size):(S.put dst v).tmps.getD i undef=if dst=Z i then v else S.tmps.getD i undef:=by
 cases dst with
 |none=>simp[Act.put]
 |some d=>
  by_cases h:d=i
  .subst h;simp[Act.put,hd d rfl]
  .simp[Act.put,h,Array.getElem?_setIfInBounds_ne h]
def Vp {dst:M Tmp} :(S.put dst v).tmps.size=S.tmps.size:=by cases dst<;>simp[Act.put]
def Mc {dst:M Tmp} :(S.put dst v).defers=S.defers:=by cases dst<;>rfl
def aij {l:Y v?} {e0 e':EF} {h':HF} {w0:World} 
 (hl:l.map (·.1)=e.toList) (hc:CW P e l e0 A e' h') (ni:NIP e l) (hfr:∀(j:Nat) o f,l[j]? =Z (o,f)->∀n∈f.N,V n=U)
 (hsz:∀(j:Nat) o,e[j]? =Z o->∀Q,o.dst=Z Q->Q<S.tmps.size) {listed:Array Bool} (hcl:I4 e listed) (hi:i∈Li .any e listed) {K:Act->World->Prop}
 (hK:∀a w,StP V O e0 A w0 S l (λj=>(listed.setIfInBounds i J).getD j af) a w->K a w) {a:Act} (hst:StP V O e0 A w0 S l (λj=>listed.getD j af) a w):
 wpOp P e d i K a w:=by
 let⟨hun,o,ho,hdeps⟩:=mem_ready.1 hi;let⟨hnf,hlt⟩:=Be hun;have hln:∀(j:Nat) o',e[j]? =Z o'->∃f,l[j]? =Z (o',f):=λj o' h=>by
  have h1:(l.map (·.1))[j]? =Z o':=by rw[hl];simpa using h
  rw[bE]at h1;cases h0:l[j]? with
  |none=>rw[h0]at h1;cases h1
  |some p=>rw[h0]at h1;let⟨a,b⟩:=p;simp at h1;subst h1;exact⟨b,rfl⟩
 have hnl:∀(j:Nat) o' f,l[j]? =Z (o',f)->e[j]? =Z o':=λj o' f h=>by
  have h1:(l.map (·.1))[j]? =Z o':=by rw[bE,h];rfl
  rw[hl]at h1;simpa using h1
 let⟨f,hf⟩:=hln i o ho;have hord:∀(j:Nat) L D,j≠i->l[j]? =Z (L,D)->(listed.getD j af=decide (j<i))\/
  (o.apart e L=J\/L.apart e o=J)/\(∀x∈f.wr,x∉D.rd/\x∉D.wr)/\(∀x∈D.wr,x∉f.rd/\x∉f.wr):=by
  intro j L D hji h0;rcases cJ j i with h|h
  .rcases ni.pair j i L D o f h h0 hf with hb|⟨h1,h2,h3⟩
   .left;rw[aed hcl ho hdeps hb];simp[h]
   .right;exact⟨.inr h1,λx hx=>⟨h3 x hx,λhx'=>(h2 x hx').2 hx⟩,λx hx=>h2 x hx⟩
  .have h:i<j:=by omega
   rcases ni.pair i j o f L D h hf h0 with hb|⟨h1,h2,h3⟩
   .left;have:listed.getD j af=af:=by
     cases hx:listed.getD j af with
     |false=>rfl
     |true=>have:=hcl.bef hb hx;rw[hnf]at this;cases this
    rw[this];simp;omega
   .right;exact⟨.inl h1,λx hx=>h2 x hx,λx hx=>⟨h3 x hx,λhx'=>(h2 x hx').2 hx⟩⟩
 have hS':∀j,(listed.setIfInBounds i J).getD j af=if j=i then J else listed.getD j af:=λj=>by
  by_cases h:i=j
  .subst h;simp[hlt]
  .rw[getD_set_ne af h,ax (λops=>h ops.symm)]
 have hlater:∀(j:Nat) L D,i<j->l[j]? =Z (L,D)->(listed.getD j af=af)\/((o.apart e L=J\/L.apart e o=J)/\(∀x∈f.wr,x∉D.rd/\x∉D.wr)):=by
  intro j L D hij h0;rcases hord j L D (by omega) h0 with h|⟨h1,h2,_⟩
  .left;rw[h];simp;omega
  .right;exact⟨h1,h2⟩
 have hdd:∀{x y:Oper},(x.apart e y=J\/y.apart e x=J)->∀Q,x.dst=Z Q->y.dst≠Z Q:=by
  intro x y h Q hd he;rcases h with h|h
  .exact (Oper.apart_spec h).2.1 Q hd he
  .exact (Oper.apart_spec h).2.1 Q he hd
 have hlook:∀{x y:Oper},(x.apart e y=J\/y.apart e x=J)->∀Q,y.dst=Z Q->Q∉x.looksAt e:=by
  intro x y h Q hd;rcases h with h|h
  .exact (Oper.apart_spec h).2.2 Q hd
  .exact (Oper.apart_spec h).1 Q hd
 have heL:∀t,t∈o.looksAt e->Rd (λj=>listed.getD j af) 0 l e0 t=Rd (λj=>decide (j<0+i)) 0 l e0 t:=λt ht=>by
  refine HL l 0 e0 e0 rfl λj L D h0 hd=>?_
  simp only[b9];by_cases hji:j=i
  .subst hji;rw[hnf];simp
  .rcases hord j L D hji h0 with h|⟨h,_⟩
   .exact h
   .exact bC ht (hlook h t hd)
 have hhL:∀t,t∈f.rd\/t∈f.wr->HB (λj=>listed.getD j af) 0 l A t=HB (λj=>decide (j<0+i)) 0 l A t:=λt ht=>by
  refine HJ l 0 A A rfl λj L D h0 hd=>?_
  simp only[b9];by_cases hji:j=i
  .subst hji;rw[hnf];simp
  .rcases hord j L D hji h0 with h|⟨_,_,h⟩
   .exact h
   .rcases ht with ht|ht
    .exact bC ht (h t hd).1
    .exact bC ht (h t hd).2
 have hE':∀t,Rd (λj=>(listed.setIfInBounds i J).getD j af) 0 l e0 t=if o.dst=Z t then Z f.val else Rd (λj=>listed.getD j af) 0 l e0 t:=λt=>by
  by_cases hd:o.dst=Z t
  .rw[aF hd];refine UY l 0 i e0 o f hf hd (by simp[hS']) λj o' f' hij h0 hd'=>?_
   simp only[b9,hS',ax (show ¬j=i by omega)];rcases hlater j o' f' hij h0 with h|⟨h,_⟩
   .exact h
   .exact bC hd' (hdd h t hd)
  .rw[ax hd];refine HL l 0 e0 e0 rfl λj L D h0 hd'=>?_
   simp only[b9,hS'];rw[ax];intro hji;subst hji;rw[hf]at h0;cases h0;exact hd hd'
 have hH':HB (λj=>(listed.setIfInBounds i J).getD j af) 0 l A=fw (HB (λj=>listed.getD j af) 0 l A) f.wr f.nw:=by
  funext t;unfold fw;by_cases hd:t∈f.wr
  .rw[aF hd];refine UX l 0 i A o f hf hd (by simp[hS']) λj o' f' hij h0 hd'=>?_
   simp only[b9,hS',ax (show ¬j=i by omega)];rcases hlater j o' f' hij h0 with h|⟨_,h⟩
   .exact h
   .exact bC hd' (h t hd).2
  .rw[ax hd];refine HJ l 0 A A rfl λj L D h0 hd'=>?_
   simp only[b9,hS'];rw[ax];intro hji;subst hji;rw[hf]at h0;cases h0;exact hd hd'
 let⟨φ,hm,hdom,hrep,henv,hdef,hsize⟩:=hst;have hfrN:∀n∈f.N,φ n=U:=λn hn=>by
  cases hx:φ n with
  |none=>rfl
  |some k=>
   rcases hdom n k hx with h|⟨j,L,D,hSj,h0,hnj⟩
   .rw[hfr i o f hf n hn]at h;cases h
   .have hji:j≠i:=by intro h;subst h;exact bC hSj (by simp only[hnf];simp)
    rcases cJ j i with h|h
    .exact bC hn (ni.names j i L D o f h h0 hf n hnj)
    .exact bC hnj (ni.names i j o f L D (by omega) hf h0 n hn)
 have hdsz:∀Q,o.dst=Z Q->Q<a.tmps.size:=λQ hd=>by rw[hsize];exact hsz i o ho Q hd
 have main:∀(v:Value) (φ':PM) (w':World),jW φ φ' (HB (λj=>listed.getD j af) 0 l A) (fw (HB (λj=>listed.getD j af) 0 l A) f.wr f.nw) w w'->
  (∀i k,φ' i=Z k->φ i=Z k\/i∈f.N)->sE φ' O (fw (HB (λj=>listed.getD j af) 0 l A) f.wr f.nw) w'->
  cz φ' (tot O φ' (fw (HB (λj=>listed.getD j af) 0 l A) f.wr f.nw)) w' f.val v->K (a.put o.dst v) w':=by
  intro v φ' w' m1 d1 r1 v1;refine hK _ _ ⟨φ',?_,?_,?_,?_,?_,?_⟩
  .rw[hH'];exact hm.trans m1
  .grind
  .rw[hH'];exact r1
  .rw[hH'];intro t x hx;rw[hE' t]at hx;rw[Vq hdsz];by_cases hd:o.dst=Z t
   .rw[aF hd]at hx ⊢;cases hx;exact v1
   .rw[ax hd]at hx ⊢;exact m1.zj (henv t x hx)
  .rw[Mc];exact hdef
  .rw[Vp];exact hsize
 have hstep:=hc.step 0 i o f hf;have hrun:gO P o (Rd (λj=>decide (j<0+i)) 0 l e0) (HB (λj=>decide (j<0+i)) 0 l A) f->o.wp P a w K d:=by
  intro ht;refine UR ?_ (ht φ O (HB (λj=>listed.getD j af) 0 l A) w a (λt h=>hhL t (.inl h)) (λt h=>hhL t (.inr h)) ?_ hrep hfrN)
  .rintro a' w' ⟨v,φ',rfl,m1,d1,r1,v1⟩;exact main v φ' w' m1 d1 r1 v1
  .intro t ht' y hy;refine henv t y ?_;rw[heL t (eV _ (List.mem_filterMap.2 ⟨.tmp t,by simpa using ht',rfl⟩))];exact hy
 have hyield:∀(j t:Nat) (want b:Bool),o.guard=Z (j,want)->(e[j]?).bind (·.dst)=Z t->Rd (λj=>decide (j<0+i)) 0 l e0 t=Z (.f (.raw (.bool b)))->qR o (yielded e a.tmps)=(b==want):=by
  intro j t want b hg h0 he;rw[<- heL t (fK _ (by rw[hg];simp[h0]))]at he;have h1:=henv t _ he;have h2:a.tmps.getD t undef= .bool b:=by
   generalize hz:a.tmps.getD t undef=z at h1;cases h1 with
   |f h=>cases h;rfl
  have h3:a.tmps[t]? =Z (.bool b):=by
   rw[j6]at h2;cases hz:a.tmps[t]? with
   |none=>rw[hz]at h2;simp[undef]at h2
   |some z=>rw[hz]at h2;simp at h2;rw[h2]
  unfold qR yielded;rw[hg];simp[h0,h3]
 unfold wpOp;simp only[ho];cases hstep with
 |run hg ht=>
  rw[aF (by unfold qR;rw[hg])];exact .inl (hrun ht)
 |runG j t want hg h0 he ht=>
  rw[aF (by rw[hyield j t want want hg h0 he];simp)];exact .inl (hrun ht)
 |skip j t want hg h0 v he hv hf'=>
  have hnw:qR o (yielded e a.tmps)=af:=by
   rw[<- heL t (fK _ (by rw[hg];simp[h0]))]at he;have h1:=henv t _ he;have h2:a.tmps.getD t undef=v:=by
    generalize a.tmps.getD t undef=z at h1;cases h1 with
    |f h=>cases h;rfl
   unfold qR yielded;rw[hg];simp only[h0,aD];rw[j6]at h2;cases hz:a.tmps[t]? with
   |none=>simp
   |some z=>
    rw[hz]at h2;simp at h2;subst h2;cases z<;>simp at hv ⊢;exact hv
  rw[ax (by rw[hnw];simp)];subst hf';have hu:fw (HB (λj=>listed.getD j af) 0 l A) tI.wr tI.nw=HB (λj=>listed.getD j af) 0 l A:=by
   funext t;simp[fw,tI]
  refine main undef φ w ?_ (λ_ _ h=>.inl h) ?_ ?_
  .rw[hu];exact jW.refl _ _ _
  .rw[hu];exact hrep
  .exact .f (.raw _)
def UB {l:θ} (h:l! l<=l.countP id):∀(j:Nat),j<l! l->l[j]? =Z J:=by
 have h1:l.countP id=l! l:=Nat.le_antisymm List.countP_le_length h;rw[List.countP_eq_length]at h1
 grind
def aag {l:Y v?} (z:NIP e l) {listed:Array Bool} (hs:listed.size=e.size) (A:Li .any e listed=[]):
 ∀(n j:Nat),j<n->j<e.size->listed.getD j af=J:=by
 intro n;induction n with
 |zero=>intro j h;omega
 |succ n L=>
  intro j hj hjs;cases N:listed.getD j af with
  |true=>rfl
  |false=>
   have hmem:j∈Li .any e listed:=by
    refine mem_ready.2 ⟨?_,e[j],pI hjs,λops he D=>?_⟩
    .grind
    .have h1:=z.edge j _ (pI hjs) ops he D
     grind
   rw[A]at hmem;cases hmem
def Se {l:Y v?} {e0 e':EF} {h':HF} {E:Nat->Prop} {w0:World} {h0:Act}
 (hl:l.map (·.1)=e.toList) (L:CW P e l e0 A e' h') (ni:NIP e l) (hfr:∀(j:Nat) o f,l[j]? =Z (o,f)->∀n∈f.N,V n=U)
 (hsz:∀(j:Nat) o,e[j]? =Z o->∀Q,o.dst=Z Q->Q<h0.tmps.size) 
 (hQ:∀a w,StP V E e0 A w0 h0 l (λ_=>J) a w->d .normal a w):
 ∀(fuel:Nat) (listed:Array Bool) (a:Act) (w:World),listed.size=e.size->I4 e listed->e.size<=fuel+listed.toList.countP id->
  StP V E e0 A w0 h0 l (λj=>listed.getD j af) a w->wpAny P .any e d fuel listed a w:=by
 have hlen:l! l=e.size:=by have:=e_ aj hl;simpa using this
 have fin:∀(listed:Array Bool) (a:Act) (w:World),(∀j,j<e.size->listed.getD j af=J)->StP V E e0 A w0 h0 l (λj=>listed.getD j af) a w->d .normal a w:=by
  intro listed a w hall hst;refine hQ a w ?_;have h1:=L.final 0 (λj=>listed.getD j af) (λj z=>by simp only[b9];exact hall j (by omega));have h2:=L.final 0 (λ_=>J) (λ_ _=>rfl);unfold StP at hst ⊢
  grind
 intro fuel;induction fuel with
 |zero=>
  intro listed a w D hcl hcnt hst;have hall:∀j,j<e.size->listed.getD j af=J:=λj z=>by
   have:=UB (l:=listed.toList) (by grind) j (by grind);simp_all
  refine ⟨?_,fin listed a w hall hst⟩;cases hr:Li .any e listed with
  |nil=>rfl
  |cons i r=>
   have hi:i∈Li .any e listed:=by grind
   let⟨hun,o,ho,_⟩:=mem_ready.1 hi
   grind
 |succ fuel ih=>
  intro listed a w D hcl hcnt hst;refine ⟨λhr=>fin listed a w (λj z=>aag ni D hr (j+1) j (by omega) z) hst,λi hi=>?_⟩;let⟨hun,o,ho,hdeps⟩:=mem_ready.1 hi;let⟨hnf,hlt⟩:=Be hun;refine aij hl L ni hfr hsz hcl hi (λa' w' h=>ih _ a' w' ?_ ?_ ?_ h) hst
  .simpa using D
  .intro j oj hoj z ops he hb;by_cases hji:i=j
   .subst hji;rw[ho]at hoj;cases hoj;exact getD_set_true (hdeps ops he hb)
   .rw[getD_set_ne af hji]at z;exact getD_set_true (hcl j oj hoj z ops he hb)
  .have h1:listed.toList[i]? =Z af:=by
    simp_all
   grind
def azv (φ0:PM) (E:Nat->Prop) (e':EF) (h0 h':HF) (N:ι) (w0:World) (z:Act) (a:Act) (w:World):Prop:=
 ∃φ,jW φ0 φ h0 h' w0 w/\(∀i k,φ i=Z k->φ0 i=Z k\/i∈N)/\sE φ E h' w/\Sk φ (tot E φ h') w e' a/\a.defers=z.defers/\a.tmps.size=z.tmps.size
def jW.drew (w:World):jW V V A A w {w with drawn:=w.drawn+1}:=
 ⟨λ_ _ A=>A,⟨rfl,rfl,rfl,bI _,λ_ _ _=>rfl,λ_ _=>rfl⟩,λ_ _ A=>A⟩
def sE.moved {w':World} (r:sE V O A w) (m:jW V V A A w w') (z:∀k,own V A k->w'.heap[k]? =w.heap[k]?):sE V O A w':=
 ⟨r.inj,λi b h=>by
   let⟨k,h1,h2,o,N,L⟩:=r.at_ i b h;exact⟨k,h1,h2,o,by rw[z k ⟨i,b,h,h1⟩];exact N,L.mono λ_ _ A=>m.zj A⟩,λk z=>dC (r.el k z) m.ext.size,
   λg cells D=>m.keepF (r.gl g cells D)⟩
variable {b:Bool}
def Vl {l:Y v?} {e0 e':EF} {h':HF} {φ0:PM} {E:Nat->Prop} 
 (hm:P.follows .mixedOrders=J) (hl:l.map (·.1)=e.toList) (hc:CW P e l e0 A e' h') (L:NIP e l) (hfr:∀n∈l.flatMap (λp=>p.2.N),φ0 n=U)
 (hsz:∀(j:Nat) o,e[j]? =Z o->∀Q,o.dst=Z Q->Q<S.tmps.size) (hrep:sE φ0 E A w) (henv:Sk φ0 (tot E φ0 A) w e0 S) 
 (hQ:∀a w0,azv φ0 E e' A h' (l.flatMap (λp=>p.2.N)) w S a w0->d .normal a w0):(Code.region i e b).wp P d S w:=by
 have hfr':∀(j:Nat) o f,l[j]? =Z (o,f)->∀n∈f.N,φ0 n=U:=λj o f h0 n hn=>hfr n (xf.2 ⟨(o,f),ba h0,hn⟩)
 have fin:∀a w0,StP φ0 E e0 A w S l (λ_=>J) a w0->d .normal a w0:=by
  rintro a w0 ⟨φ,m,Q,r,en,df,sz⟩;have D:=hc.final 0 (λ_=>J) (λ_ _=>rfl);rw[D.2]at m r en;rw[D.1]at en;refine hQ a w0 ⟨φ,m,λid k h=>?_,r,en,df,sz⟩
  grind
 have st0:∀(w0:World),jW φ0 φ0 A A w w0->sE φ0 E A w0->StP φ0 E e0 A w S l (λj=>(zY e.size af).getD j af) S w0:=by
  intro w0 m r;have e1:(λj=>(zY e.size af).getD j af)=λ_=>af:=by
   funext j;rw[j6,Array.getElem?_replicate];split<;>rfl
  rw[e1];have e2:Rd (λ_=>af) 0 l e0=e0:=by funext t;rw[Fw];intros;rfl
  have e3:HB (λ_=>af) 0 l A=A:=by funext t;rw[Fv];intros;rfl
  refine ⟨φ0,by rw[e3];exact m,λ_ _ h=>.inl h,by rw[e3];exact r,?_,rfl,rfl⟩;rw[e2,e3];exact λt x hx=>m.zj (henv t x hx)
 have cl0:I4 e (zY e.size af):=by
  intro j o ho h0;rw[j6,Array.getElem?_replicate]at h0;split at h0<;>simp at h0
 cases b with
 |true=>
  refine wp_region_any hm ?_;exact Se hl hc L hfr' hsz fin e.size _ S _ (by simp) cl0 (by omega) (st0 _ (jW.drew w) (hrep.moved (jW.drew w) λ_ _=>rfl))
 |false=>
  have hany:=Se (E:=E) (w0:=w) hl hc L hfr' hsz fin e.size _ S w (by simp) cl0 (by omega) (st0 _ (jW.refl _ _ _) hrep);refine wp_region ?_;have key:∀(m k:Nat) (listed:Array Bool) (a:Act) (w0:World),k+m=e.size->listed.size=e.size->(∀j,j<k->listed.getD j af=J)->(∀j,k<=j->j<e.size->listed.getD j J=af)->
   wpAny P .any e d m listed a w0->wpOps P e d (List.range' k m) a w0:=by
   intro m;induction m with
   |zero=>intro k listed a w0 hk hs h1 D h;simpa[wpOps] using h.2
   |succ m ih=>
    intro k listed a w0 hk hs h1 D h;have hkr:k∈Li .any e listed:=by
     refine mem_ready.2 ⟨D k (bI _) (by omega),e[k]'(by omega),pI (by omega),λops he hb=>?_⟩;exact h1 _ (L.edge k _ (pI (by omega)) ops he hb)
    refine wpOp_mono (λa' w' h'=>ih (k+1) (listed.setIfInBounds k J) a' w' (by omega) (by grind) ?_ ?_ h') (h.2 k hkr)
    .intro j h0;by_cases hjk:k=j
     .subst hjk;simp[show k<listed.size by omega]
     .rw[getD_set_ne af hjk];exact h1 j (by omega)
    .intro j h0 hj2;rw[getD_set_ne J (by omega)];exact D j (by omega) hj2
  have:=key e.size 0 (zY e.size af) S w (by omega) (by simp) (by simp) (by
   intro j _ h0;rw[j6,Array.getElem?_replicate,aF h0];rfl) hany
  rwa [List.range_eq_range']
inductive PT (α:Type) where
 |leaf
 |node (v:Option α) (l r:PT α)
namespace PT
variable {α:Type}
def get:PT α->Nat->M α
 |leaf,_=>U
 |node v l r,n=>match n with
  |0=>v
  |m+1=>if aB (m%2) 0 then get l (m/2) else get r (m/2)
def SA:Nat->PT α->Nat->M α->PT α
 |0,t,_,_=>t
 |k+1,t,n,x=>match t with
  |leaf=>(match n with
   |0=>node x leaf leaf
   |m+1=>if aB (m%2) 0 then node U (SA k leaf (m/2) x) leaf else node U leaf (SA k leaf (m/2) x))
  |node v l r=>(match n with
   |0=>node x l r
   |m+1=>if aB (m%2) 0 then node v (SA k l (m/2) x) r else node v l (SA k r (m/2) x))
def set (t:PT α) (n:Nat) (x:M α):PT α:=SA (n+1) t n x
def Cb:∀(k:Nat) (t:PT α) (n:Nat) (x:M α),n<k->∀i,(SA k t n x).get i=if i=n then x else t.get i
 |0,_,_,_,h,_=>bC h (bN _)
 |k+1,t,n,x,h,i=>by
  cases n with
  |zero=>
   cases t<;>cases i<;>simp[SA,get]
  |succ m=>
   have hm:m/2<k:=by omega
   cases t with
   |leaf=>
    simp only[SA];cases L:aB (m%2) 0 with
    |true=>
     have D:m%2=0:=av L;simp[bq];cases i with
     |zero=>simp[get]
     |succ j=>
      simp only[get];cases A:aB (j%2) 0 with
      |true=>
       have z:j%2=0:=av A;simp[bq];rw[Cb k _ _ _ hm];by_cases he:j/2=m/2
       .grind
       .rw[ax he,ax (by omega)];rfl
      |false=>grind
    |false=>
     have D:¬m%2=0:=nP L;simp[cZ,dZ];cases i with
     |zero=>simp[get]
     |succ j=>
      simp only[get];cases A:aB (j%2) 0 with
      |true=>grind
      |false=>
       have z:¬j%2=0:=nP A;simp[cZ,dZ];rw[Cb k _ _ _ hm];by_cases he:j/2=m/2
       .grind
       .rw[ax he,ax (by omega)];rfl
   |node v l r=>
    simp only[SA];cases L:aB (m%2) 0 with
    |true=>
     have D:m%2=0:=av L;simp[bq];cases i with
     |zero=>simp[get]
     |succ j=>
      simp[get];cases A:aB (j%2) 0 with
      |true=>
       have z:j%2=0:=av A;rw[Cb k _ _ _ hm]
       grind
      |false=>grind
    |false=>
     have D:¬m%2=0:=nP L;simp[cZ,dZ];cases i with
     |zero=>simp[get]
     |succ j=>
      simp[get];cases A:aB (j%2) 0 with
      |true=>grind
      |false=>
       have z:¬j%2=0:=nP A;rw[Cb k _ _ _ hm]
       grind
def get_set (t:PT α) (n:Nat) (x:M α) (i:Nat):(t.set n x).get i=if i=n then x else t.get i:=Cb (n+1) t n x (by omega) i
variable {R:Type}
def mask :PT α->PT R->PT α
 |leaf,_|node _ _ _,leaf=>leaf
 |node v l r,node u l' z=>node (match u with|some _=>v|none=>U) (mask l l') (mask r z)
def mk:M α->PT α->PT α->PT α
 |none,leaf,leaf=>leaf
 |v,l,r=>node v l r
def only (m:Nat):Nat->Nat->PT α->PT α
 |_,_,leaf=>leaf
 |a,b,node v l r=>mk (if aO m b then v else U) (only m (2*a) (a+b) l) (only m (2*a) (2*a+b) r)
def exc (m:Nat):Nat->Nat->PT α->PT α
 |_,_,leaf=>leaf
 |a,b,node v l r=>mk (if aO m b then U else v) (exc m (2*a) (a+b) l) (exc m (2*a) (2*a+b) r)
def merge (m:Nat):Nat->Nat->PT α->PT α->PT α
 |a,b,leaf,t=>only m a b t
 |a,b,node v l r,leaf=>exc m a b (node v l r)
 |a,b,node v l r,node z l' A=>mk (if aO m b then z else v) (merge m (2*a) (a+b) l l') (merge m (2*a) (2*a+b) r A)
def all (p:Nat->α->Bool):Nat->Nat->PT α->Bool
 |_,_,leaf=>J
 |a,b,node v l r=>(match v with|some x=>p b x|none=>J)&&all p (2*a) (a+b) l&&all p (2*a) (2*a+b) r
def get_all (p:Nat->α->Bool):∀(t:PT α) (a b i:Nat) (x:α),all p a b t=J->t.get i=Z x->p (a*i+b) x=J
 |leaf,_,_,_,_,_,h=>by simp[get]at h
 |node v l r,a,b,0,x,h,z=>by
  subst z;simp[all,au]at h
  grind
 |node v l r,a,b,j+1,x,h,z=>by
  simp[all,au]at h;simp only[get]at z;cases A:aB (j%2) 0 with
  |true=>
   have D:j%2=0:=av A;simp[A,bq]at z;have key:=get_all p l _ _ _ x h.1.2 z;have:2*a*(j/2)+(a+b)=a*(j+1)+b:=by
    have e:j=2*(j/2):=by omega
    grind
   rw[this]at key;exact key
  |false=>
   have D:¬j%2=0:=nP A;simp[A,cZ,dZ]at z;have key:=get_all p r _ _ _ x h.2 z;have:2*a*(j/2)+(2*a+b)=a*(j+1)+b:=by
    have e:j=2*(j/2)+1:=by omega
    grind
   rw[this]at key;exact key
def dom:Nat->Nat->PT α->Nat->Nat
 |_,_,leaf,acc=>acc
 |a,b,node v l r,acc=>dom (2*a) (a+b) l (dom (2*a) (2*a+b) r (match v with|some _=>acc|||(1<<<b)|none=>acc))
def emp:PT α:=leaf
end PT
abbrev ED:=PT AV
abbrev mU:=PT kx
abbrev NW:=Y (Nat×kx)
def ED.put (e:ED):M Nat->AV->ED
 |none,_=>e
 |some d,x=>e.set d (Z x)
def jQ:NW->HF
 |[],_=>U
 |(s,x)::r,t=>if aB s t then Z x else jQ r t
def LO (acc:ι) (s:Nat) (e:Edge):Nat:=if CY .any e then (s|||2^e.on)|||acc.getD e.on 0 else s
def OW:Y Oper->ι->ι
 |[],acc=>acc
 |o::r,acc=>OW r (acc++[o.after.toList.foldl (LO acc) 0])
def OX {o:Oper} {acc:ι} (D:e[i]? =Z o) (N:∀(j:Nat) B,acc[j]? =Z B->∀k,B.testBit k=J->Bef e j k):
 ∀(es:Y Edge) (s:Nat),(∀ops∈es,ops∈o.after)->(∀k,s.testBit k=J->Bef e i k)->∀k,(es.foldl (LO acc) s).testBit k=J->Bef e i k
 |[],s,_,z,k,hi=>z k hi
 |ops::r,s,he,z,k,hi=>by
  refine OX D N r (LO acc s ops) (λe' h'=>he e' (cg _ h')) (λk hi=>?_) k hi;unfold LO at hi;split at hi
  .rename_i L;rw[bw,bw,mV,mV]at hi;rcases hi with (hi|hi)|hi
   .exact z k hi
   .rw[Nat.testBit_two_pow]at hi;have:ops.on=k:=by grind
    subst this;exact .one D (he ops (dk ..)) L
   .refine .more D (he ops (dk ..)) L ?_;rw[aE]at hi;cases A:acc[ops.on]? with
    |none=>rw[A]at hi;simp at hi
    |some C=>rw[A]at hi;exact N _ C A k hi
  .exact z k hi
def Sd {ops:Array Oper}:∀(rest:Y Oper) (acc:ι),(∀(j:Nat),∀o,rest[j]? =Z o->ops[l! acc+j]? =Z o)->
 (∀(j:Nat) B,acc[j]? =Z B->∀i,B.testBit i=J->Bef ops j i)->∀(j:Nat) B,(OW rest acc)[j]? =Z B->∀i,B.testBit i=J->Bef ops j i
 |[],acc,_,A=>A
 |o::r,acc,D,A=>by
  refine Sd r _ (λj N z=>?_) ?_
  .rw[bz,cH,show (l! acc)+1+j=l! acc+(j+1) from by omega];simp_all
  .intro j B z i hi;rcases cJ j (l! acc) with h|h
   .grind
   .rw[cm h]at z;have L:j-l! acc=0:=by grind
    have hjl:j=l! acc:=by omega
    subst hjl;simp at z;subst z;have hoo:ops[l! acc]? =Z o:=by simpa using D 0 o rfl
    rw[<- Array.foldl_toList]at hi;exact OX hoo A _ 0 (λe he=>by simpa using he) (λi hi=>by simp at hi) i hi
inductive UP where
 |mv (x:Operand)
 |pick (c a b:Operand)
 |alloc (ty:TypeId) (z:ξ)
 |box (ty:TypeId) (x:Operand)
 |build (z:ξ) (parts:List (Nat×Nat×Operand))
 |xw (ty:TypeId) (sz len:Nat) (z:ξ) (parts:List (Nat×Nat×Operand))
 |load (sz:Nat) (ag:Bool) (x:Operand)
 |store (sz:Nat) (x v:Operand)
 |jz (x:Operand)
 |bin (op:BinOp) (x y:Operand)
 |xq (neg:Bool) (ds:List TypeDesc) (x y:Operand)
 |zn (neg:Bool) (x:Operand)
 |xx (neg:Bool) (x y:Operand)
 |not (x:Operand)
 |conv (k:IntKind) (x:Operand)
 |zh (ty:TypeId) (sz bytes:Nat) (z:ξ) (l c:Operand)
 |slc (sz:Nat) (x:Operand) (lo hi mx:Option Operand)
 |jm (off:Nat) (x:Operand)
 |jp (sz:Nat) (x i:Operand)
 |jk (n sz:Nat) (x i:Operand)
 |idx (n sz:Nat) (ag:Bool) (x i:Operand)
 |ext (x:Operand) (i:Nat)
 |len (x:Operand)
 |lens (x:Operand)
 |max (x y:Operand)
 |min (x y:Operand)
 |jv (x i:Operand)
 |app (ty:TypeId) (sz bytes:Nat) (s x:Operand)
 |copy (sz:Nat) (d x:Operand)
 |clr (sz:Nat) (z:ξ) (x:Operand)
 |mkf (f:FuncId) (caps:List Operand)
 |mkm
 |jb (str ok:Bool) (z:Value) (x k:Operand)
 |jf (str:Bool) (x k v:Operand)
 |rng (x:Operand)
 |nxt (x:Operand)
 |jw (neg:Bool) (x:Operand)
 |lkq (ds:List TypeDesc) (z:Value) (x k:Operand)
 |mpq (ds:List TypeDesc) (x k v:Operand)
 |dlq (ds:List TypeDesc) (x k:Operand)
 |jq
inductive SI where
 |op (s:UP)
 |call (f:FuncId) (args:List Operand)
 |xz (x:Operand) (args:List Operand)
def mem (t:Nat):ι->Bool
 |[]=>af
 |x::r=>aB x t||mem t r
def OQ:ξ->Bool
 |[]=>J
 |v::r=>v.oneCell'&&OQ r
def IK:Value->AV
 |.agg vs=>if OQ vs.toList then .agg (vs.toList.map λv=>.f (.raw v)) else .f (.raw (.agg vs))
 |v=>.f (.raw v)
def mN (e:ED):Operand->M AV
 |.tmp t=>e.get t
 |.const v=>Z (IK v)
 |.func g=>Z (.qv g [])
 |.global g=>match G g with|some cells=>Z (.f (.H cells 0))|none=>U
def evs (e:ED):Y Operand->M (Y AV)
 |[]=>Z []
 |x::xs=>match mN e x with|some y=>(match evs e xs with|some z=>Z (y::z)|none=>U)|none=>U
structure EB where
 val:AV
 rd:ι
 wr:ι
 nw:NW
 N:ι
def EB.eff (r:EB):EE:=⟨r.val,r.rd,r.wr,jQ r.nw,r.N⟩
def rv (x:AV):M EB:=Z ⟨x,[],[],[],[]⟩
def raw (v:Value):AV:=.f (.raw v)
def pkV (ok:Bool) (v:AV) (b:Bool):AV:=match ok with|true=>.qg [v,raw (.bool b)]|false=>v
def zF:Y AV->M (Y FV)
 |[]=>Z []
 |.f x::r=>match zF r with|some l=>Z (x::l)|none=>U
 |_::_=>U
def oz (l:Y AV):BC:=match zF l with|some z=>.fz z|none=>.mx l
def Rv (l:Y AV):AV:=match zF l with|some z=>.f (.agg z)|none=>.agg l
variable {R:Type}
def splice (l:Y R) (off:Nat) (vs:Y R):Y R:=l.take off++vs++l.drop (off+l! vs)
def BC.toMx:BC->Y AV
 |.fz l=>l.map .f
 |.mx l=>l
 |_=>[]
def gG:Y AV->Bool
 |[]=>J
 |x::r=>x.isCell&&gG r
def BC.put (c:BC) (off:Nat) (vs:Y AV):M BC:=
 if c.isCells&&eK (off+l! vs) c.len&&gG vs then
  match c,zF vs with
  |.fz l,Z z=>Z (.fz (splice l off z))
  |c,_=>Z (.mx (splice c.toMx off vs))
 else U
def BC.sub? (c:BC) (off sz:Nat):Bool->M AV
 |false=>match sz with|1=>c.get off|_=>U
 |true=>match c with
  |.fz l=>if eK (off+sz) (l! l) then Z (.f (.agg ((l.drop off).take sz))) else U
  |.mx l=>if eK (off+sz) (l! l) then Z (.agg ((l.drop off).take sz)) else U
  |_=>U
def AV.cs:AV->Y AV
 |.agg l=>l
 |.f (.agg l)=>l.map .f
 |x=>[x]
def xM (h:mU) (sz:Nat) (z:Bool):AV->M EB
 |.H id off=>match h.get id with
  |some b=>(match b.c.sub? off sz z with|some v=>Z ⟨v,[id],[],[],[]⟩|none=>U)
  |none=>U
 |.f (.H cells off)=>(match (BC.fz cells).sub? off sz z with|some v=>rv v|none=>U)
 |_=>U
def CQ (h:mU) (sz:Nat) (v:AV):AV->M EB
 |.H id off=>match h.get id with
  |some b=>if (l! v.cs)==sz then (match b.c.put off v.cs with|some c=>Z ⟨raw undef,[id],[id],[(id,⟨b.ty,c⟩)],[]⟩|none=>U) else U
  |none=>U
 |_=>U
abbrev m?:=Nat×Nat×Operand
def Cj (cells:Y AV) (e:ED):Y m?->M (Y AV)
 |[]=>Z cells
 |(off,sz,x)::r=>match mN e x with
  |some v=>if (l! v.cs)==sz&&eK (off+sz) (l! cells)&&gG v.cs then Cj (splice cells off v.cs) e r else U
  |none=>U
def dz (a b:Int):Bool:=decide (a<=b)
def gF (a b:Int):Bool:=decide (a<b)
def Q6 (k:IntKind) (n:Int):Int:=
 match k with
 |.i64=>if dz (-9223372036854775808) n&&dz n 9223372036854775807 then n else p_ .i64 n
 |.u8=>if dz 0 n&&dz n 255 then n else p_ .u8 n
 |k=>p_ k n
def nok:Int->Bool
 |.ofNat k|.negSucc k=>aB k k
def awo (n:Int):nok n=J:=by cases n<;>exact gw _
def bn (k:IntKind) (n:Int):Int:=bif nok n then Q6 k n else 0
def Ln (k:IntKind) (n:Int):bn k n=Q6 k n:=by unfold bn;rw[awo];rfl
def tU (a b:ByteArray):Bool:=a.data.toList==b.data.toList
def wX (op:BinOp):Value->Value->M Value
 |.int k a,.int z b=>if k==z then
   match op with
   |.add=>Z (.int k (bn k (a+b)))
   |.sub=>Z (.int k (bn k (a-b)))
   |.mul=>Z (.int k (bn k (a*b)))
   |.rem=>if b==0 then U else Z (.int k (a.tmod b))
   |.quo=>if b==0 then U else Z (.int k (bn k (a.tdiv b)))
   |.eql=>Z (.bool (a==b))
   |.neq=>Z (.bool (a !=b))
   |.lss=>Z (.bool (gF a b))
   |.leq=>Z (.bool (dz a b))
   |.gtr=>Z (.bool (gF b a))
   |.geq=>Z (.bool (dz b a))
   |_=>U
  else U
 |.string a,.string b=>match op with
   |.eql=>Z (.bool (tU a b))
   |.neq=>Z (.bool !(tU a b))
   |_=>U
 |_,_=>U
def wF:TypeDesc->FV->FV->M Bool
 |.int _,.raw (.int k a),.raw (.int z b)=>if k==z then Z (a==b) else U
 |.bool,.raw (.bool a),.raw (.bool b)=>Z (a==b)
 |.string,.raw (.string a),.raw (.string b)=>Z (tU a b)
 |_,_,_=>U
def jL:Y TypeDesc->Y FV->Y FV->M Bool
 |[],[],[]=>Z J
 |d::ds,x::xs,y::z=>match wF d x y with
  |some J=>jL ds xs z
  |some af=>Z af
  |none=>U
 |_,_,_=>U
def AV.row? (h:mU) (sz:Nat):AV->M (Y AV×Nat×ι)
 |.f (.sl cells n)=>if eK (n*sz) (l! cells) then Z ((cells.take (n*sz)).map .f,n,[]) else U
 |.f (.raw (.slice U 0 0))|.emp=>Z ([],0,[])
 |.G id sz' n=>if sz'==sz then (match h.get id with|some b=>if b.c.isCells&&eK (n*sz) b.c.len then Z (b.c.toMx.take (n*sz),n,[id]) else U|none=>U) else U
 |.sl id off n=>match h.get id with|some b=>if b.c.isCells&&eK (off+n*sz) b.c.len then Z ((b.c.toMx.drop off).take (n*sz),n,[id]) else U|none=>U
 |_=>U
def AV.slen:AV->M Nat
 |.f (.sl _ n)|.f (.raw (.slice _ n _))=>Z n
 |.emp=>Z 0
 |.G _ _ n|.sl _ _ n=>Z n
 |_=>U
def bh (n bytes:Nat):Bool:=eK n 1099511627776&&eK (n*bytes) 1099511627776
def repl (z:ξ):Nat->Y FV
 |0=>[]
 |n+1=>z.map .raw++repl z n
def Dh:Value->Bool
 |.slice U 0 0=>J
 |_=>af
def E9:AV->Bool
 |.emp=>J
 |.f (.raw v)=>Dh v
 |_=>af
def tM (k:Value):Y l?->M (M AV)
 |[]=>Z U
 |(z,v)::r=>match wX .eql k z with
  |some (.bool J)=>Z (Z v)
  |some (.bool af)=>tM k r
  |_=>U
def An (k:Value) (v:AV):Y l?->M (Y l?)
 |[]=>Z [(k,v)]
 |(z,A)::r=>match wX .eql k z with
  |some (.bool J)=>Z ((k,v)::r)
  |some (.bool af)=>(match An k v r with|some D=>Z ((z,A)::D)|none=>U)
  |_=>U
def Jc:Y FV->M ξ
 |[]=>Z []
 |.raw v::r=>match Jc r with|some l=>Z (v::l)|none=>U
 |_::_=>U
def ael:AV->M ξ
 |.f (.agg l)=>Jc l
 |.agg l=>match zF l with|some z=>Jc z|none=>U
 |_=>U
def aek (ds:Y TypeDesc) (y:AV):M ξ:=match ael y with
 |some l=>if (l! l)==l! ds then Z l else U
 |none=>U
def DW (ds:Y TypeDesc) (k:ξ):Value->M Bool
 |.agg z=>jL ds (k.map .raw) (z.toList.map .raw)
 |_=>U
def Ja (ds:Y TypeDesc) (k:ξ):Y l?->M (M AV)
 |[]=>Z U
 |(z,v)::r=>match DW ds k z with
  |some J=>Z (Z v)
  |some af=>Ja ds k r
  |none=>U
def YO (ds:Y TypeDesc) (k:ξ) (v:AV):Y l?->M (Y l?)
 |[]=>Z [(.agg k.toArray,v)]
 |(z,A)::r=>match DW ds k z with
  |some J=>Z ((.agg k.toArray,v)::r)
  |some af=>(match YO ds k v r with|some D=>Z ((z,A)::D)|none=>U)
  |none=>U
def YP (ds:Y TypeDesc) (k:ξ):Y l?->M (Y l?)
 |[]=>Z []
 |(z,A)::r=>match DW ds k z with
  |some J=>Z r
  |some af=>(match YP ds k r with|some D=>Z ((z,A)::D)|none=>U)
  |none=>U
def yO:Bool->Value->Bool
 |false,.int _ _=>J
 |true,.string _=>J
 |_,_=>af
def rnA (b:UInt8) (s:ByteArray) (p:Nat):Int:=bif eJ b.toNat 128 then b.toNat else (Utf8.decode s p).1
def wdA (b:UInt8) (s:ByteArray) (p:Nat):Nat:=bif eJ b.toNat 128 then 1 else (Utf8.decode s p).2
def dO (s:UP) (e:ED) (h:mU) (nx:Nat):M EB:=
 match s with
 |.mv x=>match mN e x with|some v=>rv v|none=>U
 |.pick c a b=>match mN e c with
  |some (.f (.raw (.bool t)))=>(match mN e (if t then a else b) with|some v=>rv v|none=>U)
  |_=>U
 |.alloc ty z=>Z ⟨.H nx 0,[],[nx],[(nx,⟨ty,.fz (z.map .raw)⟩)],[nx]⟩
 |.box ty x=>match mN e x with
  |some v=>if gG v.cs then Z ⟨.H nx 0,[],[nx],[(nx,⟨ty,oz v.cs⟩)],[nx]⟩ else U
  |none=>U
 |.build z parts=>match Cj (z.map raw) e parts with|some cs=>rv (Rv cs)|none=>U
 |.xw ty sz len z parts=>match Cj ((repl z len).map .f) e parts with
  |some cs=>Z ⟨if len=0 then .emp else .G nx sz len,[],[nx],[(nx,⟨ty,oz cs⟩)],[nx]⟩
  |none=>U
 |.load sz A x=>match mN e x with|some p=>xM h sz A p|none=>U
 |.store sz x v=>match mN e x,mN e v with|some p,Z y=>CQ h sz y p|_,_=>U
 |.jz x=>match mN e x with
  |some (.H id off)=>rv (.H id off)
  |some (.f (.H cells off))=>rv (.f (.H cells off))
  |some (.qv g cap)=>rv (.qv g cap)
  |_=>U
 |.bin op x y=>match mN e x,mN e y with
  |some (.f (.raw u)),Z (.f (.raw v))=>(match wX op u v with|some r=>rv (raw r)|none=>U)
  |_,_=>U
 |.xq neg ds x y=>match mN e x,mN e y with
  |some (.f (.agg a)),Z (.f (.agg b))=>(match jL ds a b with|some r=>rv (raw (.bool (r !=neg)))|none=>U)
  |_,_=>U
 |.xx neg x y=>match mN e x,mN e y with
  |some (.f (.raw (.bool a))),Z (.f (.raw (.bool b)))=>rv (raw (.bool ((a==b) !=neg)))
  |_,_=>U
 |.zn neg x=>match mN e x with
  |some (.G _ _ _)|some (.sl _ _ _)|some (.f (.sl _ (_+1)))=>rv (raw (.bool neg))
  |some (.f (.sl _ 0))|some .emp=>rv .qw
  |some (.f (.raw v))=>if Dh v then rv (raw (.bool !neg)) else U
  |_=>U
 |.not x=>match mN e x with|some (.f (.raw (.bool b)))=>rv (raw (.bool !b))|_=>U
 |.conv k x=>match mN e x with|some (.f (.raw (.int _ n)))=>rv (raw (.int k (bn k n)))|_=>U
 |.zh ty sz bytes z l c=>match mN e l,mN e c with
  |some (.f (.raw (.int _ a))),Z (.f (.raw (.int _ b)))=>
   if dz 0 a&&dz a b&&bh b.toNat bytes then Z ⟨.G nx sz a.toNat,[],[nx],[(nx,⟨ty,.fz (repl z a.toNat)⟩)],[nx]⟩ else U
  |_,_=>U
 |.slc sz x D hi mx=>match mN e x with
  |some v=>match D,hi,mx with
   |none,Z b,U=>match v,mN e b with
    |.G id sz' n,Z (.f (.raw (.int _ j)))=>if sz'==sz&&dz 0 j&&dz j n then (match h.get id with
     |some blk=>if blk.c.isCells&&eK (n*sz) blk.c.len then Z ⟨.G nx sz j.toNat,[id],[nx,id],[(nx,⟨blk.ty,oz (blk.c.toMx.take (j.toNat*sz))⟩)],[nx]⟩ else U
     |none=>U) else U
    |.f (.sl cells n),Z (.f (.raw (.int _ j)))=>if dz 0 j&&dz j n&&eK (n*sz) (l! cells) then rv (.f (.sl (cells.take (j.toNat*sz)) j.toNat)) else U
    |_,_=>U
   |some b,U,U=>match v,mN e b with
    |.G id sz' n,Z (.f (.raw (.int _ j)))=>if sz'==sz&&dz 0 j&&gF j n then rv (.sl id (j.toNat*sz) (n-j.toNat)) else U
    |.f (.sl cells n),Z (.f (.raw (.int _ j)))=>if dz 0 j&&dz j n&&eK (n*sz) (l! cells) then rv (.f (.sl ((cells.drop (j.toNat*sz)).take ((n-j.toNat)*sz)) (n-j.toNat))) else U
    |_,_=>U
   |_,_,_=>U
  |none=>U
 |.jm off x=>match mN e x with
  |some (.H id o)=>rv (.H id (o+off))
  |some (.f (.H cells o))=>rv (.f (.H cells (o+off)))
  |_=>U
 |.jp sz x i=>match mN e x,mN e i with
  |some v,Z (.f (.raw (.int _ j)))=>match v with
   |.G id sz' n=>if sz'==sz&&dz 0 j&&gF j n then rv (.H id (j.toNat*sz)) else U
   |.sl id off n=>if dz 0 j&&gF j n then rv (.H id (off+j.toNat*sz)) else U
   |.f (.sl cells n)=>if dz 0 j&&gF j n then rv (.f (.H cells (j.toNat*sz))) else U
   |_=>U
  |_,_=>U
 |.jk n sz x i=>match mN e x,mN e i with
  |some v,Z (.f (.raw (.int _ j)))=>if dz 0 j&&gF j n then (match v with
   |.H id off=>rv (.H id (off+j.toNat*sz))
   |.f (.H cells off)=>rv (.f (.H cells (off+j.toNat*sz)))
   |_=>U) else U
  |_,_=>U
 |.idx n sz A x i=>match mN e x,mN e i with
  |some v,Z (.f (.raw (.int _ j)))=>if dz 0 j&&gF j n then (match v with
   |.agg l=>(match (BC.mx l).sub? (j.toNat*sz) sz A with|some v=>rv v|none=>U)
   |.f (.agg l)=>(match (BC.fz l).sub? (j.toNat*sz) sz A with|some v=>rv v|none=>U)
   |_=>U) else U
  |_,_=>U
 |.ext x i=>match mN e x with|some (.qg l)=>(match l[i]? with|some v=>rv v|none=>U)|_=>U
 |.len x=>match mN e x with
  |some v=>(match v.slen with|some n=>rv (raw (.int .i64 n))|none=>U)
  |none=>U
 |.lens x=>match mN e x with
  |some (.f (.raw (.string s)))=>rv (raw (.int .i64 (l! s.data.toList)))
  |_=>U
 |.max x y=>match mN e x,mN e y with
  |some (.f (.raw (.int k a))),Z (.f (.raw (.int _ b)))=>rv (raw (.int k (if gF a b then b else a)))
  |_,_=>U
 |.min x y=>match mN e x,mN e y with
  |some (.f (.raw (.int k a))),Z (.f (.raw (.int _ b)))=>rv (raw (.int k (if gF b a then b else a)))
  |_,_=>U
 |.jv x i=>match mN e x,mN e i with
  |some (.f (.raw (.string s))),Z (.f (.raw (.int _ j)))=>if dz 0 j then (match s.data.toList[j.toNat]? with|some b=>rv (raw (.int .u8 b.toNat))|none=>U) else U
  |_,_=>U
 |.app ty sz bytes s x=>match mN e s,mN e x with
  |some b,Z y=>match y.row? h sz with
   |some (src,m,rd)=>match b with
    |.G id sz' n=>match h.get id with
     |some blk=>if sz'==sz&& !(mem id rd)&&blk.c.isCells&&eK (n*sz) blk.c.len&&blk.ty==ty&&bh (n+m) bytes then
       Z ⟨.G nx sz (n+m),id::rd,[nx,id],[(nx,⟨ty,oz (blk.c.toMx.take (n*sz)++src)⟩)],[nx]⟩ else U
     |none=>U
    |b=>if E9 b&&bh m bytes then
      (if m==0 then Z ⟨b,rd,[],[],[]⟩ else Z ⟨.G nx sz m,rd,[nx],[(nx,⟨ty,oz src⟩)],[nx]⟩) else U
   |none=>U
  |_,_=>U
 |.copy sz d x=>match mN e d,mN e x with
  |some (.G id sz' n),Z y=>(match h.get id,y.row? h sz with
   |some blk,Z (src,m,rd)=>if sz'==sz&& !(mem id rd)&&eK (n*sz) blk.c.len then
     (match blk.c.put 0 (src.take (lQ m n*sz)) with
     |some c=>Z ⟨raw (.int .i64 (lQ m n)),id::rd,[id],[(id,⟨blk.ty,c⟩)],[]⟩
     |none=>U) else U
   |_,_=>U)
  |_,_=>U
 |.clr _ z x=>match mN e x with
  |some (.sl id off n)=>(match h.get id with
   |some blk=>if eJ 0 n then (match blk.c.put off ((repl z n).map .f) with
    |some c=>Z ⟨.qg [],[id],[id],[(id,⟨blk.ty,c⟩)],[]⟩
    |none=>U) else U
   |none=>U)
  |_=>U
 |.mkf f caps=>match evs e caps with|some l=>rv (.qv f l)|none=>U
 |.mkm=>Z ⟨.mp nx,[],[nx],[(nx,⟨0,.mp []⟩)],[nx]⟩
 |.jb str ok z x k=>match mN e x,mN e k with
  |some (.mp id),Z (.f (.raw key))=>(match h.get id with
   |some ⟨0,.mp es⟩=>if yO str key then (match tM key es with|some (Z v)=>Z ⟨pkV ok v J,[id],[],[],[]⟩|some U=>Z ⟨pkV ok (raw z) af,[id],[],[],[]⟩|none=>U) else U
   |_=>U)
  |_,_=>U
 |.jf str x k v=>match mN e x,mN e k,mN e v with
  |some (.mp id),Z (.f (.raw key)),Z y=>(match h.get id with
   |some ⟨0,.mp es⟩=>if yO str key then (match An key y es with|some es'=>Z ⟨raw undef,[id],[id],[(id,⟨0,.mp es'⟩)],[]⟩|none=>U) else U
   |_=>U)
  |_,_,_=>U
 |.rng x=>match mN e x with
  |some (.f (.raw (.string s)))=>Z ⟨.H nx 0,[],[nx],[(nx,⟨0,.it s 0⟩)],[nx]⟩
  |_=>U
 |.nxt x=>match mN e x with
  |some (.H id 0)=>(match h.get id with
   |some ⟨ty,.it s p⟩=>(match s.data.toList[p]? with
    |some b=>Z ⟨.qg [raw (.bool J),raw (.int .i64 p),raw (.int .i32 (rnA b s p))],[id],[id],[(id,⟨ty,.it s (p+wdA b s p)⟩)],[]⟩
    |none=>Z ⟨.qg [raw (.bool af)],[id],[id],[(id,⟨ty,.it s p⟩)],[]⟩)
   |_=>U)
  |_=>U
 |.jw neg x=>match mN e x with
  |some (.H _ _)|some (.f (.H _ _))=>rv (raw (.bool neg))
  |some (.f (.raw (.pointer U)))=>rv (raw (.bool !neg))
  |_=>U
 |.lkq ds z x k=>match mN e x,(mN e k).bind (aek ds) with
  |some (.mp id),Z key=>(match h.get id with
   |some ⟨0,.mp es⟩=>(match Ja ds key es with
    |some (Z v)=>Z ⟨v,[id],[],[],[]⟩
    |some U=>Z ⟨raw z,[id],[],[],[]⟩
    |none=>U)
   |_=>U)
  |_,_=>U
 |.mpq ds x k v=>match mN e x,(mN e k).bind (aek ds),mN e v with
  |some (.mp id),Z key,Z y=>(match h.get id with
   |some ⟨0,.mp es⟩=>(match YO ds key y es with|some es'=>Z ⟨raw undef,[id],[id],[(id,⟨0,.mp es'⟩)],[]⟩|none=>U)
   |_=>U)
  |_,_,_=>U
 |.dlq ds x k=>match mN e x,(mN e k).bind (aek ds) with
  |some (.mp id),Z key=>(match h.get id with
   |some ⟨0,.mp es⟩=>(match YP ds key es with|some es'=>Z ⟨.qg [],[id],[id],[(id,⟨0,.mp es'⟩)],[]⟩|none=>U)
   |_=>U)
  |_,_=>U
 |.jq=>U
structure uB where
 dst:Option Nat
 op:SI
 guard:Option (Nat×Bool)
inductive SC where
 |skip
 |jy (ops:List uB) (prs:List (Nat×Nat))
 |seq (a b:SC)
 |cond (c:Nat) (a b:SC)
 |block (id:Nat) (b:SC)
 |loop (b:SC)
 |exit (id:Nat)
 |ret
 |defer (f:FuncId) (caps:List Operand) (t:Nat)
 |jq
structure azt where
 val:AV
 h:mU
 nx:Nat
 wr:Nat
abbrev adx:=FuncId->Y AV->mU->Nat->M azt
mutual
def AV.ids:AV->Nat->Nat
 |.H id _,acc|.sl id _ _,acc|.G id _ _,acc|.mp id,acc=>acc|||(1<<<id)
 |.agg l,acc|.qg l,acc|.qv _ l,acc=>AV.idsL l acc
 |.f _,acc|.emp,acc|.qw,acc=>acc
def AV.idsL:Y AV->Nat->Nat
 |[],acc=>acc
 |x::r,acc=>AV.idsL r (AV.ids x acc)
end
mutual
def AV.all (p:Nat->Bool):AV->Bool
 |.H id _|.sl id _ _|.G id _ _|.mp id=>p id
 |.agg l|.qg l|.qv _ l=>AV.allL p l
 |.f _=>J
 |.emp=>J
 |.qw=>J
def AV.allL (p:Nat->Bool):Y AV->Bool
 |[]=>J
 |x::r=>AV.all p x&&AV.allL p r
end
def BC.ids:BC->Nat->Nat
 |.mx l,acc=>AV.idsL l acc
 |.mp es,acc=>AV.idsL (es.map (·.2)) acc
 |_,acc=>acc
def BC.all (p:Nat->Bool):BC->Bool
 |.mx l=>AV.allL p l
 |.mp es=>AV.allL p (es.map (·.2))
 |_=>J
def mU.all (p:Nat->Bool) (h:mU):Bool:=PT.all (λi b=>p i&&b.c.all p) 1 0 h
def abf:Nat->mU->Nat->Nat->Nat
 |0,_,_,PC=>PC
 |n+1,h,todo,PC=>
  if aB todo 0 then PC else
  match Nat.log2 todo with
  |id=>if aO PC id then abf n h (todo ^^^ (1<<<id)) PC else
   match h.get id with
   |some b=>abf n h (b.c.ids (todo ^^^ (1<<<id))) (PC|||(1<<<id))
   |none=>abf n h (todo ^^^ (1<<<id)) PC
section force
variable {α:Type}
def uV (n:Nat) (k:Nat->α):α:=match n with|0=>k 0|m+1=>k (m+1)
def frcI (n:Int) (k:Int->α):α:=match n with|.ofNat m=>uV m λm=>k (.ofNat m)|.negSucc m=>uV m λm=>k (.negSucc m)
def frcB (b:Bool) (k:Bool->α):α:=match b with|true=>k J|false=>k af
def frcV (v:Value) (k:Value->α):α:=match v with
 |.int kd n=>frcI n λn=>k (.int kd n)
 |.bool b=>frcB b λb=>k (.bool b)
 |v=>k v
def ax4 (x:FV) (k:FV->α):α:=match x with
 |.raw v=>frcV v λv=>k (.raw v)
 |.H cells off=>uV off λoff=>k (.H cells off)
 |.sl cells n=>uV n λn=>k (.sl cells n)
 |.agg l=>k (.agg l)
def ajx:Y FV->(Y FV->α)->α
 |[],k=>k []
 |x::r,k=>ax4 x λx=>ajx r λr=>k (x::r)
def ax3 (x:FV) (k:FV->α):α:=match x with
 |.agg l=>ajx l λl=>k (.agg l)
 |x=>ax4 x k
def aqy (x:AV) (k:AV->α):α:=match x with
 |.f x=>ax3 x λx=>k (.f x)
 |.H id off=>uV id λid=>uV off λoff=>k (.H id off)
 |.sl id off n=>uV id λid=>uV off λoff=>uV n λn=>k (.sl id off n)
 |.G id sz n=>uV id λid=>uV sz λsz=>uV n λn=>k (.G id sz n)
 |.mp id=>uV id λid=>k (.mp id)
 |x=>k x
def Wx:Y AV->(Y AV->α)->α
 |[],k=>k []
 |x::r,k=>aqy x λx=>Wx r λr=>k (x::r)
def ax5 (x:AV) (k:AV->α):α:=match x with
 |.agg l=>Wx l λl=>k (.agg l)
 |.qg l=>Wx l λl=>k (.qg l)
 |.qv f l=>Wx l λl=>k (.qv f l)
 |x=>aqy x k
def frcC (c:BC) (k:BC->α):α:=match c with
 |.fz l=>ajx l λl=>k (.fz l)
 |.mx l=>Wx l λl=>k (.mx l)
 |.it s p=>uV p λp=>k (.it s p)
 |.mp es=>k (.mp es)
def Ww :PT R->(PT R->α)->α
 |.leaf,k=>k .leaf
 |.node v l r,k=>(match v with
  |none=>λ(k:M R->α)=>k U
  |some x=>λk=>k (Z x)) λv=>Ww l λl=>Ww r λr=>k (.node v l r)
def YM :Nat->PT R->Nat->M R->(PT R->α)->α
 |0,t,_,_,k=>k t
 |f+1,t,n,x,k=>match t with
  |.leaf=>(match n with
   |0=>k (.node x .leaf .leaf)
   |m+1=>if aB (m%2) 0 then uV (m/2) λq=>YM f .leaf q x λu=>k (.node U u .leaf) else uV (m/2) λq=>YM f .leaf q x λu=>k (.node U .leaf u))
  |.node v l r=>(match n with
   |0=>k (.node x l r)
   |m+1=>if aB (m%2) 0 then uV (m/2) λq=>YM f l q x λu=>k (.node v u r) else uV (m/2) λq=>YM f r q x λu=>k (.node v l u))
def TX :∀(x:PT R) (k:PT R->α),Ww x k=k x
 |.leaf,_=>rfl
 |.node v l r,k=>by cases v<;>simp[Ww,TX l,TX r]
end force
structure IS where
 e:ED
 h:mU
 nx:Nat
 wr:Nat
structure arm where
 val:AV
 rd:Nat
 wr:Nat
 h:mU
 nx:Nat
def bits:ι->Nat->Nat
 |[],acc=>acc
 |x::r,acc=>bits r (acc|||(1<<<x))
def as4 (h:mU) (z:NW):ι->(mU->R)->R
 |[],k=>k h
 |i::r,k=>match jQ z i with
  |none=>YM (i+1) h i U λh=>as4 h z r k
  |some ⟨ty,c⟩=>frcC c λc=>YM (i+1) h i (Z ⟨ty,c⟩) λh=>as4 h z r k
def ar5 (call:adx) (f:FuncId) (args:Y AV) (h:mU) (nx:Nat):M arm:=
 uV (abf 1000000 h (AV.idsL args 0) 0) λids=>Ww (PT.only ids 1 0 h) λA=>
 if AV.allL (eJ · nx) args&&mU.all (eJ · nx) A then
  match call f args A nx with
  |some ⟨val,h',nx',z⟩=>ax5 val λval=>uV nx' λnx'=>uV z λz=>Ww (PT.merge z 1 0 h h') λhm=>Z ⟨val,ids,z,hm,nx'⟩
  |none=>U
 else U
def opA (call:adx) (o:SI) (e:ED) (h:mU) (nx:Nat):M arm:=
 match o with
 |.call f args=>match evs e args with|some l=>ar5 call f l h nx|none=>U
 |.xz x args=>match mN e x,evs e args with|some (.qv f cap),Z l=>ar5 call f (l++cap) h nx|_,_=>U
 |.op o=>match dO o e h nx with
  |some ⟨val,rd,z,D,N⟩=>ax5 val λval=>uV (bits rd 0) λrd=>uV (bits z 0) λA=>uV (nx+l! N) λnx'=>as4 h D z λh=>Z ⟨val,rd,A,h,nx'⟩
  |none=>U
def awd (e:ED):M (Nat×Bool)->M Bool
 |none=>Z J
 |some (t,want)=>match e.get t with
  |some (.f (.raw (.bool b)))=>Z (b==want)
  |some (.f (.raw (.tuple _)))=>Z af
  |_=>U
def aso (e:ED) (dst:M Nat) (v:AV) (k:ED->R):R:=match dst with
 |none=>k e
 |some d=>YM (d+1) e d (Z v) k
structure FPm where
 rd:Nat
 wr:Nat
def YR (call:adx):Y uB->IS->M (IS×Y FPm)
 |[],s=>Z (s,[])
 |o::r,⟨e,h,nx,A⟩=>
  match awd e o.guard with
  |some J=>(match opA call o.op e h nx with
   |some ⟨val,rd,w,h',nx'⟩=>aso e o.dst val λe'=>uV (A|||w) λwr'=>(match YR call r ⟨e',h',nx',wr'⟩ with
    |some (s',z)=>Z (s',⟨rd,w⟩::z)
    |none=>U)
   |none=>U)
  |some af=>aso e o.dst (raw undef) λe'=>(match YR call r ⟨e',h,nx,A⟩ with
   |some (s',z)=>Z (s',⟨0,0⟩::z)
   |none=>U)
  |none=>U
def af7:Y FPm->Nat->M FPm
 |[],_=>U
 |f::_,0=>Z f
 |_::r,n+1=>af7 r n
def Kc (a b:Nat):Bool:=aB (a&&&b) 0
abbrev p?:=Nat×Nat
def Je (z:Y FPm):Y p?->Bool
 |[]=>J
 |(i,j)::r=>(match af7 z i,af7 z j with
  |some a,Z b=>Kc a.wr b.rd&&Kc a.wr b.wr&&Kc b.wr a.rd
  |_,_=>af)&&Je z r
inductive Ex where
 |normal
 |exit (id:Nat)
 |ret
def aqs (body:IS->M (Ex×IS)) (e0:ED):Nat->IS->M (Ex×IS)
 |0,_=>U
 |n+1,s=>match body s with
  |some (.normal,⟨e,h,nx,z⟩)=>Ww (PT.mask e e0) λe=>aqs body e0 n ⟨e,h,nx,z⟩
  |r=>r
def run (call:adx) (inert:FuncId->Bool) (fuel:Nat):SC->IS->M (Ex×IS)
 |.skip,s=>Z (.normal,s)
 |.jy ops prs,s=>match YR call ops s with
  |some (s',A)=>if Je A prs then Z (.normal,s') else U
  |none=>U
 |.seq a b,s=>match run call inert fuel a s with
  |some (.normal,s')=>run call inert fuel b s'
  |r=>r
 |.cond c a b,s=>match s.e.get c with
  |some (.f (.raw (.bool J)))=>run call inert fuel a s
  |some (.f (.raw (.bool af)))=>run call inert fuel b s
  |_=>U
 |.block id b,s=>match run call inert fuel b s with
  |some (.exit i,s')=>if aB i id then Z (.normal,s') else Z (.exit i,s')
  |r=>r
 |.loop b,s=>aqs (run call inert fuel b) s.e fuel s
 |.exit id,s=>Z (.exit id,s)
 |.ret,s=>Z (.ret,s)
 |.defer f caps t,⟨e,h,nx,z⟩=>match evs e caps with
  |some l=>if inert f then aso e (Z t) (.qv f l) λe'=>Z (.normal,⟨e',h,nx,z⟩) else U
  |none=>U
 |.jq,_=>U
inductive RV where
 |tmp (t:Nat)
 |cell (a:Nat) (sz:Nat) (ag:Bool)
structure SF where
 code:SC
 res:List RV
 nt:Nat
def Fu:Y AV->AV
 |[x]=>x
 |l=>.qg l
def ati:Value->Value->Bool
 |.bool a,.bool b=>a==b
 |.int k a,.int A b=>k==A&&a==b
 |.string a,.string b=>tU a b
 |.slice U n c,.slice U z D=>aB n z&&aB c D
 |.pointer U,.pointer U=>J
 |.tuple a,.tuple b=>a.isEmpty&&b.isEmpty
 |_,_=>af
def fY (P:Program) (t:TypeId):M Nat:=(P.info? t).map (·.size)
def IQ (P:Program) (t:TypeId):M Nat:=(P.info? t).map (·.bytes)
def u_ (P:Program) (t:TypeId):M ξ:=((P.info? t).bind (·.zero)).map (·.cells.toList)
def K9 (P:Program) (t:TypeId):M Bool:=(P.underlying t).map λ|.struct _=>J|.array _ _=>J|_=>af
def D7 (P:Program) (t:TypeId):M TypeId:=match P.underlying t with|some (.slice e)=>Z e|_=>U
def EU (P:Program) (t:TypeId) (i:Nat):M p?:=match P.underlying t with
 |some (.struct A)=>(A[i]?).bind λf=>(fY P f.type).map (f.offset,·)
 |some (.array _ z)|some (.slice z)=>(fY P z).map λs=>(i*s,s)
 |_=>U
abbrev I?:=Nat×Operand
def Af (P:Program) (t:TypeId):Y I?->M (Y m?)
 |[]=>Z []
 |(i,x)::r=>match EU P t i,Af P t r with|some (o,s),Z l=>Z ((o,s,x)::l)|_,_=>U
def nY (z:ξ):Bool:=z.all λv=>v.oneCell'
def ES:TypeDesc->Bool
 |.int _=>J
 |.bool=>J
 |.string=>J
 |_=>af
def lR (P:Program):Nat→Y Field→M (Y TypeDesc)
 |_,[]=>Z []
 |k,f::r=>match P.underlying f.type,lR P (k+1) r with
  |some d,Z ds=>if f.name != "_" &&f.offset==k&&ES d then Z (d::ds) else U
  |_,_=>U
def ER (P:Program) (t:TypeId):M (Y TypeDesc):=match P.underlying t with
 |some (.struct z)=>if P.stoodInHeld t then U else lR P 0 z.toList
 |_=>U
def XU (P:Program) (c:Call):M UP:=
 match c.callee with
 |.builtin .len=>(match c.args.toList,c.argTypes.toList with
  |[x],[t]=>(match P.underlying t with
   |some (.slice _)=>Z (.len x)
   |some .string=>Z (.lens x)
   |_=>U)
  |_,_=>U)
 |.builtin .max=>(match c.args.toList with
  |[x,y]=>Z (.max x y)
  |_=>U)
 |.builtin .min=>(match c.args.toList with
  |[x,y]=>Z (.min x y)
  |_=>U)
 |.builtin .copy=>(match c.args.toList,c.argTypes.toList with
  |[d,x],[t,u]=>(match D7 P t,D7 P u with
   |some A,Z _=>(fY P A).bind λsz=>if sz !=0 then Z (.copy sz d x) else U
   |_,_=>U)
  |_,_=>U)
 |.builtin .delete=>(match c.args.toList,c.argTypes.toList with
  |[m,k],[t,_]=>(match P.underlying t with
   |some (.map D _)=>(ER P D).map λds=>.dlq ds m k
   |_=>U)
  |_,_=>U)
 |.builtin .clear=>(match c.args.toList,c.argTypes.toList with
  |[x],[t]=>(D7 P t).bind λA=>(u_ P A).bind λz=>(fY P A).bind λsz=>if nY z&&l! z==sz&&sz !=0 then Z (.clr sz z x) else U
  |_,_=>U)
 |.builtin .append=>(match c.args.toList,c.argTypes.toList with
  |[s,x],[t,u]=>(match D7 P t,D7 P u with
   |some A,Z _=>(fY P A).bind λsz=>(IQ P A).bind λb=>(u_ P A).bind λz=>if sz !=0&&l! z==sz then Z (.app A sz b s x) else U
   |_,_=>U)
  |_,_=>U)
 |_=>U
def cV (P:Program):Op->M UP
 |.move x|.assign x=>Z (.mv x)
 |.pick c a b=>Z (.pick c a b)
 |.alloc t=>(u_ P t).bind λz=>if nY z then Z (.alloc t z) else U
 |.box t x=>Z (.box t x)
 |.build t L=>match P.underlying t with
  |some (.struct N)=>(u_ P t).bind λz=>if nY z&&(N.toList.all λf=>(fY P f.type).isSome) then (Af P t L.toList).map (.build z) else U
  |some (.array _ A)=>(u_ P t).bind λz=>if nY z&&(fY P A).isSome then (Af P t L.toList).map (.build z) else U
  |_=>U
 |.buildSlice t n L=>(D7 P t).bind λA=>(u_ P A).bind λz=>(fY P A).bind λsz=>if nY z&&l! z==sz&&eK (n*sz) 65536&&sz !=0 then (Af P t L.toList).map (.xw A sz n z) else U
 |.load t x=>(fY P t).bind λsz=>(K9 P t).map λag=>.load sz ag x
 |.store t x v=>(fY P t).map λsz=>.store sz x v
 |.nilCheck x=>Z (.jz x)
 |.binOp op t x y _=>match P.underlying t with
  |some (.int _)|some .string=>Z (.bin op x y)
  |some .bool=>(match op with|.eql=>Z (.xx af x y)|.neq=>Z (.xx J x y)|_=>U)
  |some (.slice _)=>(match op,y with
   |.eql,.const (.slice U 0 0)=>Z (.zn af x)
   |.neq,.const (.slice U 0 0)=>Z (.zn J x)
   |_,_=>U)
  |some (.pointer _)=>(match op,y with
   |.eql,.const (.pointer U)=>Z (.jw af x)
   |.neq,.const (.pointer U)=>Z (.jw J x)
   |_,_=>U)
  |some (.struct _)=>(ER P t).bind λds=>(match op with|.eql=>Z (.xq af ds x y)|.neq=>Z (.xq J ds x y)|_=>U)
  |_=>U
 |.unOp .not _ x=>Z (.not x)
 |.unOp .neg t x=>match P.underlying t with|some (.int k)=>Z (.bin .sub (.const (.int k 0)) x)|_=>U
 |.convert s d x=>match P.underlying s,P.underlying d with|some (.int _),Z (.int k)=>Z (.conv k x)|_,_=>U
 |.makeSlice t l c=>(D7 P t).bind λA=>(u_ P A).bind λz=>(fY P A).bind λsz=>(IQ P A).bind λb=>if nY z&&l! z==sz&&sz !=0 then Z (.zh A sz b z l c) else U
 |.slice t x lo hi mx=>(D7 P t).bind λA=>(fY P A).map λsz=>.slc sz x lo hi mx
 |.fieldAddr t x k=>match P.underlying t with
  |some (.struct N)=>(N[k]?).bind λf=>(fY P f.type).bind λsz=>if sz !=0 then Z (.jm f.offset x) else U
  |_=>U
 |.indexAddr t x i=>match P.underlying t with
  |some (.slice A)=>(fY P A).map λsz=>.jp sz x i
  |some (.array n A)=>(fY P A).map λsz=>.jk n sz x i
  |_=>U
 |.index t x i=>match P.underlying t with
  |some (.array n A)=>(fY P A).bind λsz=>(K9 P A).map λag=>.idx n sz ag x i
  |some .string=>Z (.jv x i)
  |_=>U
 |.extract x i=>Z (.ext x i)
 |.makeFunc (.func f) first caps=>if first.isEmpty then Z (.mkf f caps.toList) else U
 |.makeMap t U=>match P.underlying t with|some (.map _ _)=>Z .mkm|_=>U
 |.lookup t x k ok=>match P.underlying t with
  |some (.map D A)=>(match P.underlying D,(P.info? A).bind (·.zero) with
   |some (.int _),Z z=>if z.oneCell' then Z (.jb af ok z x k) else U
   |some .string,Z z=>if z.oneCell' then Z (.jb J ok z x k) else U
   |some (.struct _),Z z=>if z.oneCell'&& !ok then (ER P D).map λds=>.lkq ds z x k else U
   |_,_=>U)
  |_=>U
 |.mapUpdate t m k v=>match P.underlying t with
  |some (.map D _)=>(match P.underlying D with
   |some (.int _)=>Z (.jf af m k v)
   |some .string=>Z (.jf J m k v)
   |some (.struct _)=>(ER P D).map λds=>.mpq ds m k v
   |_=>U)
  |_=>U
 |.range t x=>match P.underlying t with|some .string=>Z (.rng x)|_=>U
 |.next x J=>Z (.nxt x)
 |.call c=>XU P c
 |_=>U
def OT:Op->M SI
 |.call c=>(match c.callee with
  |.value (.func f)=>Z (.call f c.args.toList)
  |.value (.tmp t)=>Z (.xz (.tmp t) c.args.toList)
  |_=>U)
 |_=>U
def xJ (P:Program) (op:Op):SI:=match OT op with
 |some i=>i
 |none=>(match cV P op with|some s=>.op s|none=>.op .jq)
def UP.still:UP->Bool
 |.mv _|.pick _ _ _|.build _ _|.jz _|.bin _ _ _|.xq _ _ _ _|.zn _ _|.xx _ _ _|.not _|.conv _ _|.jm _ _|.jp _ _ _|.jk _ _ _ _|.idx _ _ _ _ _|.ext _ _|.max _ _|.min _ _|.jv _ _|.mkf _ _|.jw _ _|.jq=>J
 |_=>af
def SI.still:SI->Bool
 |.op s=>s.still
 |_=>af
def tS (P:Program) (ops:Array Oper):Y Oper->M (Y uB)
 |[]=>Z []
 |o::r=>match tS P ops r with
  |some l=>(match o.guard with
   |none=>Z (⟨o.dst,xJ P o.op,U⟩::l)
   |some (j,want)=>(match (ops[j]?).bind (·.dst) with
    |some t=>Z (⟨o.dst,xJ P o.op,Z (t,want)⟩::l)
    |none=>U))
  |none=>U
def Rn (ops:Array Oper) (l:Y uB):M (Y p?):=
 let B:=OW ops.toList []
 if (dG ops.size).all λj=>((ops[j]?).all λz=>z.after.toList.all λe=> !CY .any e||decide (e.on<j))&&
     (dG j).all λi=>aO (B.getD j 0) i||(match ops[i]?,ops[j]? with|some A,Z z=>A.apart ops z|_,_=>af)
 then Z ((dG ops.size).flatMap λj=>(dG j).filterMap λi=>
  if aO (B.getD j 0) i||(match l[i]?,l[j]? with|some a,Z b=>a.op.still||b.op.still|_,_=>af) then U else Z (i,j))
 else U
def G_ (ops:Array Oper) (A:Bool):M (FuncId×Y Operand×Nat):=match ops.toList,A with
 |[p,q],af=>(match p.op,p.guard,p.dst,q.op,q.guard,q.dst with
  |.makeFunc (.func f) first caps,U,Z t,.defer c,U,U=>(match c.callee,c.args.toList with
   |.value (.tmp z),[]=>if aB t z&&first.isEmpty then Z (f,caps.toList,t) else U
   |_,_=>U)
  |_,_,_,_,_,_=>U)
 |_,_=>U
def cG (P:Program) (nt:Nat):Code->SC
 |.skip=>.skip
 |.region _ ops z=>if ops.toList.all λo=>match o.dst with|some d=>decide (d<nt)|none=>J then
   (match G_ ops z with
   |some (f,caps,t)=>.defer f caps t
   |none=>(match tS P ops ops.toList with
    |some l=>(match Rn ops l with|some prs=>.jy l prs|none=>.jq)
    |none=>.jq)) else .jq
 |.seq a b=>.seq (cG P nt a) (cG P nt b)
 |.cond (.tmp c) a b=>.cond c (cG P nt a) (cG P nt b)
 |.cond (.const (.bool J)) a _=>cG P nt a
 |.cond (.const (.bool af)) _ b=>cG P nt b
 |.block id b=>.block id (cG P nt b)
 |.loop b=>.loop (cG P nt b)
 |.exit id=>.exit id
 |.ret=>.ret
 |_=>.jq
def xI (P:Program):Y ResultVar->M (Y RV)
 |[]=>Z []
 |.tmp t::r=>match xI P r with|some l=>Z (.tmp t::l)|none=>U
 |.cell a t::r=>match xI P r,fY P t,K9 P t with|some l,Z sz,Z z=>Z (.cell a sz z::l)|_,_,_=>U
def CL (P:Program) (f:FuncId):M SF:=
 match P.funcs[f]? with
 |some fn=>if fn.name== "runtime.NumGoroutine" then U else (match fn.body,xI P fn.results.toList with
  |some c,Z r=>Z ⟨cG P fn.ntmps c,r,fn.ntmps⟩
  |_,_=>U)
 |none=>U
inductive Xp where
 |mk (op n:Int) (name:ζ) (l:List Xp)
inductive Sx where
 |mk (op line:Int) (name arg:ζ) (index:List Xp) (expr:Xp) (body els:List Sx)
def Xp.op:Xp->Int|.mk a _ _ _=>a
def Xp.n:Xp->Int|.mk _ a _ _=>a
def Xp.name:Xp->ζ|.mk _ _ a _=>a
def Xp.l:Xp->Y Xp|.mk _ _ _ a=>a
def Sx.op:Sx->Int|.mk a _ _ _ _ _ _ _=>a
def Sx.line:Sx->Int|.mk _ a _ _ _ _ _ _=>a
def Sx.name:Sx->ζ|.mk _ _ a _ _ _ _ _=>a
def Sx.arg:Sx->ζ|.mk _ _ _ a _ _ _ _=>a
def Sx.index:Sx->Y Xp|.mk _ _ _ _ a _ _ _=>a
def Sx.expr:Sx->Xp|.mk _ _ _ _ _ a _ _=>a
def Sx.body:Sx->Y Sx|.mk _ _ _ _ _ _ a _=>a
def Sx.els:Sx->Y Sx|.mk _ _ _ _ _ _ _ a=>a
inductive Ty where
 |int (k:IntKind)
 |bool
 |str
 |sl (t:Ty)
 |st (t:Ty)
 |pr (a b:Ty)
 |un
 |ex
 |sm
 deriving DecidableEq
@[reducible] def Ty.den:Ty->Type
  |.int _=>Int
  |.bool=>Bool
  |.str=>ζ
  |.sl t=>Y t.den
  |.st t=>t.den
  |.pr a b=>a.den×b.den
  |.un=>Unit
  |.ex=>Xp
  |.sm=>Sx
def Ty.size:Ty->Nat
 |.st t=>t.size
 |.pr a b=>a.size+b.size
 |.un=>0
 |.ex=>4
 |.sm=>11
 |_=>1
def Ty.zero:(t:Ty)->t.den
 |.int _=>(0:Int)
 |.bool=>af
 |.str=>[]
 |.sl _=>[]
 |.st t=>t.zero
 |.pr a b=>(a.zero,b.zero)
 |.un=>()
 |.ex=>.mk 0 0 [] []
 |.sm=>.mk 0 0 [] [] [] (.mk 0 0 [] []) [] []
def Ty.one:Ty->Bool
 |.int _=>J
 |.bool=>J
 |.str=>J
 |.sl _=>J
 |_=>af
def RK:Ty:=.pr (.int .i64) (.pr (.int .i64) (.pr .str (.sl .ex)))
def Rf:Ty:=.pr (.int .i64) (.pr (.int .i64) (.pr .str (.pr .str (.pr (.sl .ex) (.pr .ex (.pr (.sl .sm) (.sl .sm)))))))
def Sr (e:Xp):RK.den:=(e.op,e.n,e.name,e.l)
def eO (x:RK.den):Xp:=.mk x.1 x.2.1 x.2.2.1 x.2.2.2
def Sq (e:Sx):Rf.den:=(e.op,e.line,e.name,e.arg,e.index,e.expr,e.body,e.els)
def oY (x:Rf.den):Sx:=.mk x.1 x.2.1 x.2.2.1 x.2.2.2.1 x.2.2.2.2.1 x.2.2.2.2.2.1 x.2.2.2.2.2.2.1 x.2.2.2.2.2.2.2
mutual
def yW:Xp->Y FV
 |.mk op n name l=>[.raw (.int .i64 op),.raw (.int .i64 n),.raw (.string ⟨name.toArray⟩),.sl (NI l) (l! l)]
def NI:Y Xp->Y FV
 |[]=>[]
 |x::r=>yW x++NI r
end
mutual
def Bg:Sx->Y FV
 |.mk op line name arg index expr body els=>[.raw (.int .i64 op),.raw (.int .i64 line),.raw (.string ⟨name.toArray⟩),.raw (.string ⟨arg.toArray⟩),.sl (NI index) (l! index)]++yW expr++[.sl (NH body) (l! body),.sl (NH els) (l! els)]
def NH:Y Sx->Y FV
 |[]=>[]
 |x::r=>Bg x++NH r
end
def bM:(T:Ty)->T.den->Y FV
 |.int k,n=>[.raw (.int k n)]
 |.bool,b=>[.raw (.bool b)]
 |.str,s=>[.raw (.string ⟨s.toArray⟩)]
 |.sl t,xs=>[.sl (List.flatMap (bM t) xs) (aj xs)]
 |.st t,v=>bM t v
 |.pr a b,v=>bM a v.1++bM b v.2
 |.un,_=>[]
 |.ex,v=>yW v
 |.sm,v=>Bg v
def gz:(T:Ty)->T.den->FV
 |.int k,n=>.raw (.int k n)
 |.bool,b=>.raw (.bool b)
 |.str,s=>.raw (.string ⟨s.toArray⟩)
 |.sl t,xs=>.sl (List.flatMap (bM t) xs) (aj xs)
 |.st t,v=>.agg (bM t v)
 |.pr a b,v=>.agg (bM a v.1++bM b v.2)
 |.un,_=>.agg []
 |.ex,v=>.agg (yW v)
 |.sm,v=>.agg (Bg v)
def LL:(T:Ty)->T.den->T.den->Bool
 |.int _,a,b=>decide ((a:Int)=b)
 |.bool,a,b=>(a:Bool)==b
 |.str,a,b=>decide ((a:ζ)=b)
 |.st t,a,b=>LL t a b
 |.pr x y,a,b=>LL x a.1 b.1&&LL y a.2 b.2
 |_,_,_=>J
def xK {S:Ty} (T:Ty) (v:S.den):M T.den:=if h:S=T then Z (h▸v) else U
def dN (j:Int) (n:Nat):Bool:=dz 0 j&&gF j n
def geti (T:Ty) (xs:Y T.den) (j:Int):T.den:=xs.getD j.toNat T.zero
def cC (xs:Y R) (j:Int) (x:R):Y R:=xs.set j.toNat x
def Yy (xs z:Y R):Y R:=z.take (l! xs)++xs.drop (l! z)
def m7 (a b:Int):Int:=if gF a b then b else a
def Kz (a b:Int):Int:=if gF b a then b else a
def amo (s:ζ) (j:Int):Int:=aS (s.getD j.toNat 0).toNat
def aJ (b:Bool) (t f:M R):M R:=match b with|true=>t|false=>f
def chk (b:Bool) (k:b=J->M R):M R:=match b,k with|true,k=>k rfl|false,_=>U
open Classical in
def IR (a b:M R):M R:=if a=b then a else U
open Classical in
def same {α:Type} (a b:α) (r:M R):M R:=if a=b then r else U
def aA {α:Type} (o:M α) (k:α->M R):M R:=match o with|some x=>k x|none=>U
def lt {α:Type} (x:α) (k:α->M R):M R:=k x
def jn {α:Type} (o:M (R⊕α)) (k:α->M R):M R:=match o with|some (.inr x)=>k x|some (.inl r)=>Z r|none=>U
def iterN {σ:Type} (step:σ->M (σ⊕R)):Nat->σ->M R
 |0,_=>U
 |n+1,x=>match step x with
  |some (.inl y)=>iterN step n y
  |some (.inr r)=>Z r
  |none=>U
open Classical in
def iter {σ R:Type} (step:σ->M (σ⊕R)) (x:σ):M R:=
 if h:∃n,(iterN step n x).isSome=J then iterN step (Classical.choose h) x else U
def iK {σ R:Type} (step:σ->M (σ⊕R)) (x:σ):M R:=iterN step 18446744073709551616 x
abbrev Fl:Type 1:=∀σ R:Type,(σ->M (σ⊕R))->σ->M R
def nj (a b:M R):Prop:=∀y,a=Z y->b=Z y
def nj.rfl {a:M R}:nj a a:=λ_ h=>h
def nj.bcase {t f z A:M R} (h1:nj t z) (D:nj f A):nj (AI.aJ b t f) (AI.aJ b z A):=by cases b<;>assumption
def nj.chk {k z:M R} (h:nj k z):nj (AI.chk b λ_=>k) (AI.chk b λ_=>z):=by
 cases b with
 |true=>exact h
 |false=>exact λ_ h=>by cases h
def nj.obind {α:Type} {o z:M α} {k A:α->M R} (h:nj o z) (L:∀x,nj (k x) (A x)):nj (AI.aA o k) (AI.aA z A):=by
 intro y D;cases o with
 |none=>cases D
 |some x=>rw[h x (by rfl)];exact L x y D
def nj.lt {α:Type} {x:α} {k z:α->M R} (h:∀y,nj (k y) (z y)):nj (AI.lt x k) (AI.lt x z):=h x
def nj.jn {α:Type} {o A:M (R⊕α)} {k D:α->M R} (h:nj o A) (L:∀x,nj (k x) (D x)):nj (AI.jn o k) (AI.jn A D):=by
 intro y z;cases o with
 |none=>cases z
 |some x=>
  rw[h x (by rfl)];cases x with
  |inl r=>exact z
  |inr a=>exact L a y z
def nj.iterN {σ:Type} {f g:σ->M (σ⊕R)} (h:∀x,nj (f x) (g x)):∀(n:Nat) (x:σ),nj (AI.iterN f n x) (AI.iterN g n x)
 |0,_=>λ_ h=>by cases h
 |n+1,x=>by
  intro y A;cases hf:f x with
  |none=>rw[AI.iterN,hf]at A;cases A
  |some s=>
   rw[AI.iterN,hf]at A;rw[AI.iterN,h x s hf];cases s with
   |inl z=>exact nj.iterN h n z y A
   |inr r=>exact A
def MO {σ:Type} {f:σ->M (σ⊕R)}:∀{n:Nat} {x:σ} {r:R},iterN f n x=Z r->iterN f (n+1) x=Z r
 |0,x,r,h=>by cases h
 |n+1,x,r,h=>by
  cases hf:f x with
  |none=>rw[iterN,hf]at h;cases h
  |some s=>
   cases s with
   |inl y=>rw[iterN,hf]at h;rw[iterN,hf];exact MO h
   |inr q=>rw[iterN,hf]at h;rw[iterN,hf];exact h
def yP {σ:Type} {f:σ->M (σ⊕R)} {n:Nat} {x:σ} {r:R} (h:iterN f n x=Z r) (hle:n<=i):iterN f i x=Z r:=by
 induction hle with
 |refl=>exact h
 |step _ z=>exact MO z
def BZ {σ:Type} {f:σ->M (σ⊕R)} {n:Nat} {x:σ} {r:R} (h:iterN f n x=Z r):iter f x=Z r:=by
 have A:∃n,(iterN f n x).isSome=J:=⟨n,by rw[h];exact Eq.refl _⟩
 unfold iter;rw[dif_pos A];have L:=Classical.choose_spec A;let⟨N,z⟩:=qS.1 L;rw[z];rcases Nat.le_total n (Classical.choose A) with D|D
 .rw[yP h D]at z;exact z.symm
 .rw[yP z D]at h;exact h
def nj.iter {σ:Type} {f g:σ->M (σ⊕R)} {x:σ} (h:∀x,nj (f x) (g x)):nj (iK f x) (AI.iter g x):=λy z=>BZ (nj.iterN h _ x y z)
def orE (a b:M R):M R:=match a with|some y=>Z y|none=>b
def fuel:Nat:=Classical.choose (⟨100000,rfl⟩:∃n:Nat,n=100000)
def kR:fuel=100000:=Classical.choose_spec (⟨100000,rfl⟩:∃n:Nat,n=100000)
def Kr (a:Ty):Ty->Ty
 |.un=>a
 |.int k=>.pr a (.int k)
 |.bool=>.pr a .bool
 |.str=>.pr a .str
 |.sl t=>.pr a (.sl t)
 |.st t=>.pr a (.st t)
 |.pr x y=>.pr a (.pr x y)
 |.ex=>.pr a .ex
 |.sm=>.pr a .sm
def spr:Ty->Ty->Ty
 |.un,b=>b
 |.int k,b=>Kr (.int k) b
 |.bool,b=>Kr .bool b
 |.str,b=>Kr .str b
 |.sl t,b=>Kr (.sl t) b
 |.st t,b=>Kr (.st t) b
 |.pr x y,b=>Kr (.pr x y) b
 |.ex,b=>Kr .ex b
 |.sm,b=>Kr .sm b
def VG (a:Ty):(b:Ty)->a.den->b.den->(Kr a b).den
 |.un,x,_=>x
 |.int _,x,y|.bool,x,y|.str,x,y|.sl _,x,y|.st _,x,y|.pr _ _,x,y|.ex,x,y|.sm,x,y=>(x,y)
def fsN (a:Ty):(b:Ty)->(Kr a b).den->a.den
 |.un,z=>z
 |.int _,z|.bool,z|.str,z|.sl _,z|.st _,z|.pr _ _,z|.ex,z|.sm,z=>z.1
def snN (a:Ty):(b:Ty)->(Kr a b).den->b.den
 |.un,_=>()
 |.int _,z|.bool,z|.str,z|.sl _,z|.st _,z|.pr _ _,z|.ex,z|.sm,z=>z.2
def mkp:(a b:Ty)->a.den->b.den->(spr a b).den
 |.un,_,_,y=>y
 |.int k,b,x,y=>VG (.int k) b x y
 |.bool,b,x,y=>VG .bool b x y
 |.str,b,x,y=>VG .str b x y
 |.sl t,b,x,y=>VG (.sl t) b x y
 |.st t,b,x,y=>VG (.st t) b x y
 |.pr u v,b,x,y=>VG (.pr u v) b x y
 |.ex,b,x,y=>VG .ex b x y
 |.sm,b,x,y=>VG .sm b x y
def UN:(a b:Ty)->(spr a b).den->a.den
 |.un,_,_=>()
 |.int k,b,z=>fsN (.int k) b z
 |.bool,b,z=>fsN .bool b z
 |.str,b,z=>fsN .str b z
 |.sl t,b,z=>fsN (.sl t) b z
 |.st t,b,z=>fsN (.st t) b z
 |.pr u v,b,z=>fsN (.pr u v) b z
 |.ex,b,z=>fsN .ex b z
 |.sm,b,z=>fsN .sm b z
def Sy:(a b:Ty)->(spr a b).den->b.den
 |.un,_,z=>z
 |.int k,b,z=>snN (.int k) b z
 |.bool,b,z=>snN .bool b z
 |.str,b,z=>snN .str b z
 |.sl t,b,z=>snN (.sl t) b z
 |.st t,b,z=>snN (.st t) b z
 |.pr u v,b,z=>snN (.pr u v) b z
 |.ex,b,z=>snN .ex b z
 |.sm,b,z=>snN .sm b z
def vD (a b:Ty) (x:a.den) (y:b.den):UN a b (mkp a b x y)=x:=by cases a<;>cases b<;>rfl
def xh (a b:Ty) (x:a.den) (y:b.den):Sy a b (mkp a b x y)=y:=by cases a<;>cases b<;>rfl
inductive Sb where
 |ob (id:Nat) (j:Int) (off:Nat)
 |om (id:Nat) (j:Int) (b:Nat)
 |nr (id:Nat) (j:Int) (sz n:Nat)
 |np (id:Nat) (j:Int) (sz:Nat) (i:Int) (off:Nat)
 |nl
def Sb.id:Sb->Nat
 |.ob i _ _=>i
 |.om i _ _=>i
 |.nr i _ _ _=>i
 |.np i _ _ _ _=>i
 |.nl=>0
def Sb.to (i:Nat):Sb->Sb
 |.ob _ j o=>.ob i j o
 |.om _ j b=>.om i j b
 |.nr _ j s n=>.nr i j s n
 |.np _ j s k o=>.np i j s k o
 |.nl=>.nl
inductive uE where
 |ar (ty:TypeId) (S:Ty)
 |qh (ty:TypeId)
 |zq
 |rr (ty:TypeId) (sz:Nat)
 |ir (ty:TypeId) (T:Ty)
 deriving DecidableEq
abbrev mbT:Ty:=.sl (.pr (.int .i64) .bool)
abbrev kyT:Ty:=.pr (.int .i64) (.int .i64)
def uE.ty:uE->Ty
 |.ar _ S=>.sl (.pr S (.pr mbT mbT))
 |.qh _=>.sl (.int .i64)
 |.zq=>.sl (.pr kyT (.int .i64))
 |.rr _ _=>.sl (.int .i64)
 |.ir _ T=>.sl (.sl T)
def uE.aid (n:Nat):uE->Nat
 |.ar _ _=>0
 |.ir _ _=>0
 |_=>n
def su:(F:uE)->F.ty.den->M (Bool×p?)
 |.qh _,A=>Z (J,1,aj A)
 |.rr _ _,z=>Z (af,1,aj z)
 |_,_=>U
inductive TV where
 |f (T:Ty) (v:T.den)
 |zd (T:Ty) (xs:List T.den) (j:Int) (h:dN j (l! xs)=J) (off:Nat)
 |zg (id sz:Nat) (j:Int) (off:Nat)
 |H (id off:Nat)
 |G (id:Nat)
 |qy (id sz n:Nat)
 |emp
 |nil
 |mp (id:Nat)
 |agg (l:List TV)
 |qg (l:List TV)
 |qv (g:FuncId) (l:List TV)
 |undef
 |np
 |qw
 |zl (id:Nat) (j:Int)
 |sb (s:Sb)
instance cty (n:Nat):OfNat (M TypeId) n:=⟨Z n⟩
inductive fk where
 |F (ty:TypeId) (p:Bool) (T:Ty) (xs:List T.den)
 |C (ty:Option TypeId) (l:List TV)
 |qj (p:Bool) (sz n:Nat)
 |mp (K V:Ty) (es:List (K.den×V.den))
 |I (F:uE) (a:Nat) (x:F.ty.den)
 |qm (F:uE) (a:Nat) (x:F.ty.den) (k:ν) (p:Option (Nat×Bool×Nat))
abbrev hX:=PT TV
abbrev aZ:=PT fk
def cst:Value->M TV
 |.int k n=>Z (.f (.int k) n)
 |.bool b=>Z (.f .bool b)
 |.string s=>Z (.f .str s.data.toList)
 |.slice U 0 0=>Z .nil
 |.pointer U=>Z .np
 |.map U=>Z (.sb .nl)
 |_=>U
def Ou:ξ->M (Y TV)
 |[]=>Z []
 |v::r=>match cst v,Ou r with|some x,Z l=>Z (x::l)|_,_=>U
def atb:Value->M TV
 |.agg vs=>if OQ vs.toList then (match Ou vs.toList with|some l=>Z (.agg l)|none=>U) else U
 |v=>cst v
def cellsOf:Nat->(T:Ty)->T.den->M (Y TV)
 |0,_,_=>U
 |n+1,.st t,v=>cellsOf n t v
 |n+1,.pr a b,v=>match cellsOf n a v.1,cellsOf n b v.2 with|some x,Z y=>Z (x++y)|_,_=>U
 |_+1,.un,_=>Z []
 |n+1,.ex,v=>cellsOf n RK (Sr v)
 |n+1,.sm,v=>cellsOf n Rf (Sq v)
 |_+1,.int k,v=>Z [.f (.int k) v]
 |_+1,.bool,v=>Z [.f .bool v]
 |_+1,.str,v=>Z [.f .str v]
 |_+1,.sl t,v=>Z [.f (.sl t) v]
def TV.isC:TV->Bool
 |.f T _=>T.one
 |.zd _ _ _ _ _=>J
 |.zg _ _ _ _=>J
 |.H _ _=>J
 |.G _=>J
 |.qy _ _ _=>J
 |.emp=>J
 |.nil=>J
 |.np=>J
 |.mp _=>J
 |.qv _ _=>J
 |.sb _=>J
 |_=>af
def lJ:Y TV->Bool
 |[]=>J
 |x::r=>x.isC&&lJ r
def TV.cs (v:TV):M (Y TV):=match v with
 |.agg l=>if lJ l then Z l else U
 |.f T x=>cellsOf 40 T x
 |x=>if x.isC then Z [x] else U
def gC (i:Nat):Nat:=1<<<i
def iS (h:aZ) (T:Ty):TV->M (T.den×Nat)
 |.f _ v=>match xK T v with|some x=>Z (x,0)|none=>U
 |.emp|.nil=>(match T with|.sl _=>Z ([],0)|_=>U)
 |.G id=>match h.get id with
  |some (.F _ _ S xs)=>(match xK (S:=.sl S) T xs with|some x=>Z (x,gC id)|none=>U)
  |_=>U
 |_=>U
def fI (h:aZ):Nat->(T:Ty)->Y TV->M (T.den×Nat×Y TV)
 |0,_,_=>U
 |n+1,.st t,l=>fI h n t l
 |n+1,.pr a b,l=>match fI h n a l with
  |some (x,m,r)=>(match fI h n b r with|some (y,m',z)=>Z ((x,y),m|||m',z)|none=>U)
  |none=>U
 |_+1,.un,l=>Z ((),0,l)
 |n+1,.ex,l=>match fI h n RK l with|some (x,m,r)=>Z (eO x,m,r)|none=>U
 |n+1,.sm,l=>match fI h n Rf l with|some (x,m,r)=>Z (oY x,m,r)|none=>U
 |_+1,.int k,l=>match l with|c::r=>(match iS h (.int k) c with|some (x,m)=>Z (x,m,r)|none=>U)|[]=>U
 |_+1,.bool,l=>match l with|c::r=>(match iS h .bool c with|some (x,m)=>Z (x,m,r)|none=>U)|[]=>U
 |_+1,.str,l=>match l with|c::r=>(match iS h .str c with|some (x,m)=>Z (x,m,r)|none=>U)|[]=>U
 |_+1,.sl t,l=>match l with|c::r=>(match iS h (.sl t) c with|some (x,m)=>Z (x,m,r)|none=>U)|[]=>U
def Hm (h:aZ) (T:Ty) (v:TV):M (T.den×Nat):=match v with
 |.agg l=>if T.one then U else (match fI h 40 T l with|some (x,m,[])=>Z (x,m)|_=>U)
 |x=>iS h T x
def oB:Nat->(T:Ty)->T.den->Nat->Nat->Bool->M TV
 |0,_,_,_,_,_=>U
 |n+1,.st t,v,off,sz,z=>if aB off 0&&aB sz t.size&&z then Z (.f (.st t) v) else oB n t v off sz z
 |n+1,.pr a b,v,off,sz,z=>if eJ off a.size then oB n a v.1 off sz z else oB n b v.2 (off-a.size) sz z
 |_+1,.un,_,_,_,_=>U
 |n+1,.ex,v,off,sz,z=>if aB off 0&&aB sz 4&&z then Z (.f .ex v) else oB n RK (Sr v) off sz z
 |n+1,.sm,v,off,sz,z=>if aB off 0&&aB sz 11&&z then Z (.f .sm v) else oB n Rf (Sq v) off sz z
 |_+1,.int k,v,off,sz,z=>if aB off 0&&aB sz 1&& !z then Z (.f (.int k) v) else U
 |_+1,.bool,v,off,sz,z=>if aB off 0&&aB sz 1&& !z then Z (.f .bool v) else U
 |_+1,.str,v,off,sz,z=>if aB off 0&&aB sz 1&& !z then Z (.f .str v) else U
 |_+1,.sl t,v,off,sz,z=>if aB off 0&&aB sz 1&& !z then Z (.f (.sl t) v) else U
def gP (h:aZ) (x:TV):Nat->(T:Ty)->T.den->Nat->Nat->M (T.den×Nat)
 |0,_,_,_,_=>U
 |n+1,.st t,v,off,sz=>match (if aB off 0&&aB sz t.size then Hm h (.st t) x else U) with
  |some y=>Z y
  |none=>gP h x n t v off sz
 |n+1,.pr a b,v,off,sz=>if eJ off a.size then (match gP h x n a v.1 off sz with|some (y,m)=>Z ((y,v.2),m)|none=>U) else (match gP h x n b v.2 (off-a.size) sz with|some (y,m)=>Z ((v.1,y),m)|none=>U)
 |_+1,.un,_,_,_=>U
 |n+1,.ex,v,off,sz=>match (if aB off 0&&aB sz 4 then Hm h .ex x else U) with
  |some y=>Z y
  |none=>(match gP h x n RK (Sr v) off sz with|some (y,m)=>Z (eO y,m)|none=>U)
 |n+1,.sm,v,off,sz=>match (if aB off 0&&aB sz 11 then Hm h .sm x else U) with
  |some y=>Z y
  |none=>(match gP h x n Rf (Sq v) off sz with|some (y,m)=>Z (oY y,m)|none=>U)
 |_+1,.int k,_,off,sz=>if aB off 0&&aB sz 1 then iS h (.int k) x else U
 |_+1,.bool,_,off,sz=>if aB off 0&&aB sz 1 then iS h .bool x else U
 |_+1,.str,_,off,sz=>if aB off 0&&aB sz 1 then iS h .str x else U
 |_+1,.sl t,_,off,sz=>if aB off 0&&aB sz 1 then iS h (.sl t) x else U
def DX (h:aZ) (T:Ty):Nat->Y TV->M (Y T.den×Nat)
 |0,[]=>Z ([],0)
 |0,_::_=>U
 |n+1,l=>match fI h 40 T l with
  |some (x,m,r)=>(match DX h T n r with|some (xs,m')=>Z (x::xs,m|||m')|none=>U)
  |none=>U
def uZ:Ty->ξ
 |.int k=>[.int k 0]
 |.bool=>[.bool af]
 |.str=>[.string ⟨#[]⟩]
 |.sl _=>[.slice U 0 0]
 |.st t=>uZ t
 |.pr a b=>uZ a++uZ b
 |.un=>[]
 |.ex=>[.int .i64 0,.int .i64 0,.string ⟨#[]⟩,.slice U 0 0]
 |.sm=>[.int .i64 0,.int .i64 0,.string ⟨#[]⟩,.string ⟨#[]⟩,.slice U 0 0,.int .i64 0,.int .i64 0,.string ⟨#[]⟩,.slice U 0 0,.slice U 0 0,.slice U 0 0]
def X1:ξ->ξ->Bool
 |[],[]=>J
 |x::xs,y::z=>ati x y&&X1 xs z
 |_,_=>af
def Ty.flat:Ty->Bool
 |.int _=>J
 |.bool=>J
 |.str=>J
 |.st t=>t.flat
 |.pr a b=>a.flat&&b.flat
 |.un=>J
 |_=>af
def sQ:Y TypeDesc->M Ty
 |[]=>Z .un
 |.int k::r=>match sQ r with|some t=>Z (.pr (.int k) t)|none=>U
 |.bool::r=>match sQ r with|some t=>Z (.pr .bool t)|none=>U
 |.string::r=>match sQ r with|some t=>Z (.pr .str t)|none=>U
 |_=>U
inductive PV where
 |d (T:Ty)
 |H (id off:Nat)
 |G (id:Nat)
 |qy (id sz n:Nat)
 |mp (id:Nat)
 |nil
 |emp
 |qv (q:FuncId) (l:List (Nat×Nat))
 |ob (id off:Nat)
 |nr (id sz:Nat)
 |agg (l:List PV)
inductive PB where
 |F (ty:TypeId) (p:Bool) (T:Ty)
 |qf (ty:TypeId) (T:Ty)
 |C (ty:Option TypeId) (l:List PV)
 |mp (K V:Ty)
 |I (F:uE) (a:Nat)
 |qk
mutual
def PV.ty:PV->Ty
 |.d T=>T
 |.agg l=>PV.tyL l
 |.H _ _|.G _|.qy _ _ _|.qv _ _=>.un
 |.ob _ _=>.int .i64
 |.nr _ _=>.pr (.int .i64) (.int .i64)
 |.mp _|.nil|.emp=>.un
def PV.tyL:Y PV->Ty
 |[]=>.un
 |p::r=>spr p.ty (PV.tyL r)
end
def PB.ty:PB->Ty
 |.F _ _ T=>.sl T
 |.qf _ T=>.pr .bool (.sl T)
 |.C _ l=>PV.tyL l
 |.mp K V=>.sl (.pr K V)
 |.I a _=>a.ty
 |.qk=>.un
def PB.tyL:Y PB->Ty
 |[]=>.un
 |p::r=>spr p.ty (PB.tyL r)
structure Tm where
 vs:List PV
 bs:List PB
def Tm.ty (t:Tm):Ty:=spr (PV.tyL t.vs) (PB.tyL t.bs)
def Mg (g:Nat->Nat):Y p?->Y TV->Bool
 |[],[]=>J
 |(i,o)::r,.H A z::vs=>aB (g i) A&&aB o z&&Mg g r vs
 |_,_=>af
mutual
def mM (g:Nat->Nat) (h:aZ):(p:PV)->Y TV->M (p.ty.den×Nat×Y TV)
 |.d T,l=>fI h 40 T l
 |.H i o,l=>match l with|.H i' o'::r=>if aB (g i) i'&&aB o o' then Z ((),0,r) else U|_=>U
 |.G i,l=>match l with|.G i'::r=>if aB (g i) i' then Z ((),0,r) else U|_=>U
 |.qy i s n,l=>match l with|.qy i' s' n'::r=>if aB (g i) i'&&aB s s'&&aB n n' then Z ((),0,r) else U|_=>U
 |.qv q ps,l=>match l with|.qv q' vs::r=>if aB q q'&&Mg g ps vs then Z ((),0,r) else U|_=>U
 |.ob i o,l=>match l with|.sb (.ob i' j o')::r=>if aB (g i) i'&&aB o o' then Z (j,0,r) else U|_=>U
 |.nr i s,l=>match l with|.sb (.nr i' j s' n)::r=>if aB (g i) i'&&aB s s' then Z ((j,aS n),0,r) else U|_=>U
 |.mp i,l=>match l with|.mp i'::r=>if aB (g i) i' then Z ((),0,r) else U|_=>U
 |.nil,l=>match l with|.nil::r=>Z ((),0,r)|_=>U
 |.emp,l=>match l with|.nil::r=>Z ((),0,r)|.emp::r=>Z ((),0,r)|_=>U
 |.agg ps,l=>Cd g h ps l
def Cd (g:Nat->Nat) (h:aZ):(ps:Y PV)->Y TV->M ((PV.tyL ps).den×Nat×Y TV)
 |[],l=>Z ((),0,l)
 |p::r,l=>match mM g h p l with
  |some (x,m,l')=>(match Cd g h r l' with|some (y,m',l'')=>Z (mkp p.ty (PV.tyL r) x y,m|||m',l'')|none=>U)
  |none=>U
end
def wB (g:Nat->Nat) (h:aZ):(p:PV)->TV->M (p.ty.den×Nat)
 |.d T,v=>Hm h T v
 |.agg z,v=>if v.isC then U else (match v.cs with
  |some l=>(match Cd g h z l with|some (x,m,[])=>Z (x,m)|_=>U)
  |none=>U)
 |.H i o,v=>match mM g h (.H i o) [v] with|some (x,m,_)=>Z (x,m)|none=>U
 |.G i,v=>match mM g h (.G i) [v] with|some (x,m,_)=>Z (x,m)|none=>U
 |.qy i s n,v=>match mM g h (.qy i s n) [v] with|some (x,m,_)=>Z (x,m)|none=>U
 |.qv q z,v=>match mM g h (.qv q z) [v] with|some (x,m,_)=>Z (x,m)|none=>U
 |.ob i o,v=>match mM g h (.ob i o) [v] with|some (x,m,_)=>Z (x,m)|none=>U
 |.nr i s,v=>match mM g h (.nr i s) [v] with|some (x,m,_)=>Z (x,m)|none=>U
 |.mp i,v=>match mM g h (.mp i) [v] with|some (x,m,_)=>Z (x,m)|none=>U
 |.nil,v=>match mM g h .nil [v] with|some (x,m,_)=>Z (x,m)|none=>U
 |.emp,v=>match mM g h .emp [v] with|some (x,m,_)=>Z (x,m)|none=>U
def Cc (g:Nat->Nat) (h:aZ):(z:Y PV)->Y TV->M ((PV.tyL z).den×Nat)
 |[],[]=>Z ((),0)
 |p::r,v::vs=>match wB g h p v with
  |some (x,m)=>(match Cc g h r vs with|some (y,m')=>Z (mkp p.ty (PV.tyL r) x y,m|||m')|none=>U)
  |none=>U
 |[],_::_=>U
 |_::_,[]=>U
def Fd (g:Nat->Nat) (h:aZ) (i:Nat):(b:PB)->M (b.ty.den×Nat)
 |.F ty p T=>match h.get (g i) with
  |some (.F ty' z S xs)=>if ty==ty'&&p==z then (match xK (S:=.sl S) (.sl T) xs with|some x=>Z (x,0)|none=>U) else U
  |_=>U
 |.qf ty T=>match h.get (g i) with
  |some (.F ty' z S xs)=>if ty==ty' then (match xK (S:=.sl S) (.sl T) xs with|some x=>Z ((z,x),0)|none=>U) else U
  |_=>U
 |.C ty A=>match h.get (g i) with
  |some (.C ty' l)=>if ty==ty' then (match Cd g h A l with|some (x,m,[])=>Z (x,m)|_=>U) else U
  |_=>U
 |.mp K V=>match h.get (g i) with
  |some (.mp K' V' es)=>(match xK (S:=.sl (.pr K' V')) (.sl (.pr K V)) es with|some x=>Z (x,0)|none=>U)
  |_=>U
 |.I F a=>match h.get (g i) with
  |some (.I F' L x)=>if D:F'=F then (if aB (F.aid (g a)) L then Z (D▸x,0) else U) else U
  |_=>U
 |.qk=>Z ((),0)
def Gu (g:Nat->Nat) (h:aZ):Nat->(bs:Y PB)->M ((PB.tyL bs).den×Nat)
 |_,[]=>Z ((),0)
 |i,b::r=>match Fd g h i b with
  |some (x,m)=>(match Gu g h (i+1) r with|some (y,m')=>Z (mkp b.ty (PB.tyL r) x y,m|||m')|none=>U)
  |none=>U
mutual
def nJ (g:Nat->Nat):(p:PV)->p.ty.den->M (Y TV)
 |.d T,x=>cellsOf 40 T x
 |.H i o,_=>Z [.H (g i) o]
 |.G i,_=>Z [.G (g i)]
 |.qy i s n,_=>Z [.qy (g i) s n]
 |.mp i,_=>Z [.mp (g i)]
 |.qv q ps,_=>Z [.qv q (ps.map λp=>.H (g p.1) p.2)]
 |.ob i o,j=>Z [.sb (.ob (g i) j o)]
 |.nr i s,x=>Z [.sb (.nr (g i) x.1 s (aN x.2))]
 |.nil,_=>Z [.nil]
 |.emp,_=>Z [.emp]
 |.agg ps,x=>sM g ps x
def sM (g:Nat->Nat):(ps:Y PV)->(PV.tyL ps).den->M (Y TV)
 |[],_=>Z []
 |p::r,x=>match nJ g p (UN p.ty (PV.tyL r) x) with
  |some a=>(match sM g r (Sy p.ty (PV.tyL r) x) with|some b=>Z (a++b)|none=>U)
  |none=>U
end
def rG (g:Nat->Nat):(p:PV)->p.ty.den->M TV
 |.d T,x=>Z (.f T x)
 |.H i o,_=>Z (.H (g i) o)
 |.G i,_=>Z (.G (g i))
 |.qy i s n,_=>Z (.qy (g i) s n)
 |.mp i,_=>Z (.mp (g i))
 |.qv q z,_=>Z (.qv q (z.map λp=>.H (g p.1) p.2))
 |.ob i o,j=>Z (.sb (.ob (g i) j o))
 |.nr i s,x=>Z (.sb (.nr (g i) x.1 s (aN x.2)))
 |.nil,_=>Z .nil
 |.emp,_=>Z .emp
 |.agg z,x=>match sM g z x with|some l=>Z (.agg l)|none=>U
def rF (g:Nat->Nat):(z:Y PV)->(PV.tyL z).den->M (Y TV)
 |[],_=>Z []
 |p::r,x=>match rG g p (UN p.ty (PV.tyL r) x) with
  |some a=>(match rF g r (Sy p.ty (PV.tyL r) x) with|some b=>Z (a::b)|none=>U)
  |none=>U
def Ds (g:Nat->Nat):(b:PB)->b.ty.den->M (M fk)
 |.F ty p T,x=>Z (Z (.F ty p T x))
 |.qf ty T,x=>Z (Z (.F ty x.1 T x.2))
 |.C ty z,x=>match sM g z x with|some l=>Z (Z (.C ty l))|none=>U
 |.mp K V,x=>Z (Z (.mp K V x))
 |.I F a,x=>Z (Z (.I F (F.aid (g a)) x))
 |.qk,_=>Z U
def vb:fk->fk
 |.F _ p T xs=>.qj p T.size (l! xs)
 |.C _ _|.mp _ _ _=>.qj J 0 0
 |.I F _ x|.qm F _ x _ _=>(match su F x with|some (p,s,n)=>.qj p s n|none=>.qj J 0 0)
 |.qj p sz n=>.qj p sz n
def kill (h:aZ) (i:Nat):aZ:=match h.get i with
 |some b=>h.set i (Z (vb b))
 |none=>h
def qT (g:Nat->Nat):(bs:Y PB)->(PB.tyL bs).den->M (Y (M fk))
 |[],_=>Z []
 |b::r,x=>match Ds g b (UN b.ty (PB.tyL r) x) with
  |some c=>(match qT g r (Sy b.ty (PB.tyL r) x) with|some l=>Z (c::l)|none=>U)
  |none=>U
def Dz (g:Nat->Nat):Nat->Y (M fk)->aZ->aZ
 |_,[],h=>h
 |i,Z c::r,h=>Dz g (i+1) r (h.set (g i) (Z c))
 |i,U::r,h=>Dz g (i+1) r (kill h (g i))
def Rm (g:Nat->Nat) (bs:Y PB) (x:(PB.tyL bs).den) (h:aZ):M aZ:=match qT g bs x with
 |some l=>Z (Dz g 0 l h)
 |none=>U
def AZ {K V:Ty} (k:K.den):Y (K.den×V.den)->M V.den
 |[]=>U
 |(z,v)::r=>if LL K k z then Z v else AZ k r
def uN {K V:Ty} (k:K.den) (v:V.den):Y (K.den×V.den)->Y (K.den×V.den)
 |[]=>[(k,v)]
 |(z,A)::r=>if LL K k z then (k,v)::r else (z,A)::uN k v r
def aei {K V:Ty} (k:K.den) (es:Y (K.den×V.den)):Bool:=match AZ k es with|some _=>J|none=>af
def xn {K V:Ty} (k:K.den) (es:Y (K.den×V.den)) (z:V.den):V.den:=match AZ k es with|some v=>v|none=>z
def awj (T:Ty):Nat->Ty
 |0=>.un
 |1=>T
 |n+2=>.pr T (awj T (n+1))
def kwT:Ty:=.st (awj .str 22)
def kwV:kwT.den:=([118,97,114],[118,111,108,97,116,105,108,101],[109,117,116,101,120],[114,119,108,111,99,107],[99,111,110,100],[102,117,116,117,114,101],[116,104,114,101,97,100],[105,102],[101,108,115,101],[119,104,105,108,101],[108,111,99,107],[114,101,97,100],[119,114,105,116,101],[116,114,97,110,115,97,99,116,105,111,110],[97,116,111,109,105,99],[119,97,105,116],[110,111,116,105,102,121],[110,111,116,105,102,121,97,108,108],[115,112,97,119,110],[106,111,105,110],[115,101,116],[103,101,116])
structure cA where
 pre:Tm
 post:Tm
 m:pre.ty.den->Option post.ty.den
def aac:Y p?->Y TV->PT Nat->PT Nat
 |(i,_)::r,.H a _::vs,σ=>aac r vs (σ.set i (Z a))
 |_::r,_::vs,σ=>aac r vs σ
 |_,_,σ=>σ
mutual
def ar7:PV->Y TV->PT Nat->PT Nat×Y TV
 |.d T,l,σ=>(σ,l.drop T.size)
 |.H i _,l,σ=>match l with|.H a _::r=>(σ.set i (Z a),r)|l=>(σ,l.drop 1)
 |.G i,l,σ=>match l with|.G a::r=>(σ.set i (Z a),r)|l=>(σ,l.drop 1)
 |.qy i _ _,l,σ=>match l with|.qy a _ _::r=>(σ.set i (Z a),r)|l=>(σ,l.drop 1)
 |.mp i,l,σ=>match l with|.mp a::r=>(σ.set i (Z a),r)|l=>(σ,l.drop 1)
 |.qv _ ps,l,σ=>match l with|.qv _ vs::r=>(aac ps vs σ,r)|l=>(σ,l.drop 1)
 |.ob i _,l,σ=>match l with|.sb (.ob a _ _)::r=>(σ.set i (Z a),r)|l=>(σ,l.drop 1)
 |.nr i _,l,σ=>match l with|.sb (.nr a _ _ _)::r=>(σ.set i (Z a),r)|l=>(σ,l.drop 1)
 |.nil,l,σ|.emp,l,σ=>(σ,l.drop 1)
 |.agg ps,l,σ=>aad ps l σ
def aad:Y PV->Y TV->PT Nat->PT Nat×Y TV
 |[],l,σ=>(σ,l)
 |p::r,l,σ=>match ar7 p l σ with|(σ',l')=>aad r l' σ'
end
def axd (p:PV) (v:TV) (σ:PT Nat):PT Nat:=match p with
 |.d _=>σ
 |p=>match v.cs with|some l=>(ar7 p l σ).1|none=>σ
def aks:Y PV->Y TV->PT Nat->PT Nat
 |p::r,v::vs,σ=>aks r vs (axd p v σ)
 |_,_,σ=>σ
def aae (h:aZ):Nat->Y PB->PT Nat->PT Nat
 |_,[],σ=>σ
 |i,b::r,σ=>aae h (i+1) r (match b with
  |.C _ z=>(match σ.get i with
   |some a=>(match h.get a with|some (.C _ l)=>(aad z l σ).1|_=>σ)
   |none=>σ)
  |.I F j=>(match σ.get i with
   |some a=>(match h.get a with|some (.I _ b _)=>(if aB (F.aid 1) 0 then σ else σ.set j (Z b))|_=>σ)
   |none=>σ)
  |_=>σ)
def im (σ:PT Nat) (i:Nat):Nat:=match σ.get i with|some a=>a|none=>0
def ahm (σ:PT Nat):Nat->Nat->Nat->M Nat
 |0,_,acc=>Z acc
 |n+1,i,acc=>match σ.get i with
  |some a=>if aO acc a then U else ahm σ n (i+1) (acc|||gC a)
  |none=>U
def idn:Nat->PT Nat
 |0=>.leaf
 |n+1=>(idn n).set n (Z n)
def ack (σ:PT Nat):Nat->Bool
 |0=>J
 |n+1=>(match σ.get n with|some a=>aB a n|none=>af)&&ack σ n
structure ayc (t:Tm) where
 x:t.ty.den
 m:Nat
 σ:PT Nat
 sm:Nat
def E8 (np:Nat) (t:Tm) (vs:Y TV) (h:aZ):M (ayc t):=
 Ww (aae h 0 t.bs (aae h 0 t.bs (aks t.vs vs (idn np)))) λσ=>
 match ahm σ (l! t.bs) 0 0 with
 |some sm=>(match Cc (im σ) h t.vs vs with
  |some (x,m)=>(match Gu (im σ) h 0 t.bs with
   |some (y,m')=>if Kc (m|||m') sm&&ack σ np then Z ⟨mkp _ _ x y,m|||m',σ,sm⟩ else U
   |none=>U)
  |none=>U)
 |none=>U
def PT.updI (f:Nat->R->R):Nat->Nat->PT R->PT R
 |_,_,.leaf=>.leaf
 |a,b,.node v l r=>.node (match v with|some x=>Z (f b x)|none=>U) (PT.updI f (2*a) (a+b) l) (PT.updI f (2*a) (2*a+b) r)
def dU (m:Nat) (h:aZ):aZ:=if aB m 0 then h else PT.updI (λi b=>if aO m i then vb b else b) 1 0 h
def Zc:Operand->Bool
 |.const (.agg _)=>J
 |_=>af
def dM (e:hX):Operand->M TV
 |.tmp t=>e.get t
 |.const v=>atb v
 |.func g=>Z (.qv g [])
 |.global g=>match G g with|some _=>Z (.zd kwT [kwV] 0 (Eq.refl J) 0)|none=>U
def Mm (e:hX):Y Operand->M (Y TV)
 |[]=>Z []
 |x::xs=>match dM e x with|some y=>(match Mm e xs with|some z=>Z (y::z)|none=>U)|none=>U
def Nu (cells:Y TV) (e:hX):Y m?->M (Y TV)
 |[]=>Z cells
 |(off,sz,x)::r=>match dM e x with
  |some v=>(match v.cs with
   |some cs=>if (l! cs)==sz&&eK (off+sz) (l! cells) then Nu (splice cells off cs) e r else U
   |none=>U)
  |none=>U
def ae5 (l:Y TV) (off sz:Nat):Bool->M TV
 |false=>if aB sz 1 then l[off]? else U
 |true=>if eK (off+sz) (l! l) then Z (.agg ((l.drop off).take sz)) else U
def eR (h:aZ) (id:Nat):M (Bool×p?):=match h.get id with
 |some (.F _ p T xs)=>Z (p,T.size,l! xs)
 |some (.qj p sz n)=>Z (p,sz,n)
 |some (.I F _ x)|some (.qm F _ x _ _)=>su F x
 |_=>U
def lenOf (h:aZ):TV->M Nat
 |.f (.sl _) xs=>Z (aj xs)
 |.emp|.nil=>Z 0
 |.G id=>match eR h id with|some (_,_,n)=>Z n|none=>U
 |.qy _ _ n|.sb (.nr _ _ _ n)=>Z n
 |_=>U
mutual
def PL (h:aZ):TV->Bool
 |.G id|.zl id _=>(eR h id).isSome
 |.sb _=>J
 |.agg l|.qg l|.qv _ l=>lN h l
 |.f _ _=>J
 |.zd _ _ _ _ _=>J
 |.zg _ _ _ _=>J
 |.H _ _=>J
 |.qy _ _ _=>J
 |.emp=>J
 |.nil=>J
 |.mp _=>J
 |.undef=>J
 |.np=>J
 |.qw=>J
def lN (h:aZ):Y TV->Bool
 |[]=>J
 |x::r=>PL h x&&lN h r
end
mutual
def Jj (n:Nat):TV->Bool
 |.G id|.zl id _=>eJ id n
 |.sb s=>eJ s.id n
 |.zg id _ _ _|.H id _|.qy id _ _|.mp id=>eJ id n
 |.agg l|.qg l|.qv _ l=>rq n l
 |.f _ _=>J
 |.zd _ _ _ _ _=>J
 |.emp=>J
 |.nil=>J
 |.undef=>J
 |.np=>J
 |.qw=>J
def rq (n:Nat):Y TV->Bool
 |[]=>J
 |x::r=>Jj n x&&rq n r
end
def DY (t:Tm) (x:t.ty.den):M (Y TV×aZ):=
 match rF (λi=>i) t.vs (UN _ _ x) with
 |some vs=>(match Rm (λi=>i) t.bs (Sy _ _ x) PT.leaf with
  |some h=>if lN h vs&&rq (l! t.bs) vs&&PT.all (λ_ b=>match b with|.C _ l=>lN h l&&rq (l! t.bs) l|.I _ a _=>eJ a (l! t.bs)|.qm _ _ _ _ _=>af|_=>J) 1 0 h then Z (vs,h) else U
  |none=>U)
 |none=>U
abbrev KO (R:Type):=TV->Nat->Nat->aZ->Nat->M R
def Vh:Y TV->TV
 |[x]=>x
 |l=>.qg l
def EZ:Y PB->Bool
 |[]=>J
 |.qk::_=>af
 |_::r=>EZ r
def LS:Y PB->Bool
 |[]=>J
 |.F _ _ _::r=>LS r
 |_::_=>af
def vT (h z:aZ) (g:Nat->Nat):Nat->Bool
 |0=>J
 |n+1=>(match eR h (g n) with
  |some (p,s,k)=>(match eR z (g n) with|some (A,s',D)=>(p==A)&&aB s s'&&aB k D|none=>af)
  |none=>J)&&vT h z g n
def amp (f:FuncId):Y TV->FuncId
 |[]=>f
 |.qv g _::_=>f+65536*(g+1)
 |.sb (.nr _ _ _ _)::r=>f+65536*(60000+l! r)
 |_::r=>amp f r
def atd (con:FuncId->M cA) (f:FuncId) (l:Y TV):M cA:=match eJ f 65536 with
 |true=>(match con (amp f l) with|some c=>Z c|none=>con f)
 |false=>U
def ad5 (con:FuncId->M cA) (f:FuncId) (l:Y TV) (h:aZ) (nx:Nat) (K:KO R):M R:=
 match atd con f l with
 |some c=>(match E8 0 c.pre l h with
  |some ⟨x,m,σ,sm⟩=>(match DY c.pre x with
   |some _=>aA (c.m x) λy=>(match DY c.post y with
    |some _=>if eK (l! c.pre.bs) (l! c.post.bs)&&EZ c.pre.bs then
      let np:=l! c.pre.bs
      let D:=l! c.post.bs-np
      let g:=λi=>if eJ i np then im σ i else nx+(i-np)
      (match rF g c.post.vs (UN _ _ y) with
      |some z=>if !(aB m 0)&&aB (l! c.post.bs) 0&&(PV.tyL c.post.vs).flat then K (Vh z) m 0 h nx else
       (match Rm g c.post.bs (Sy _ _ y) (dU m h) with
       |some A=>chk (vT h A g np) λ_=>K (Vh z) (sm|||m) (sm|||m|||(((1<<<D)-1)<<<nx)) A (nx+D)
       |none=>U)
      |none=>U) else if aB (l! c.post.bs) 0&&LS c.pre.bs then
      let np:=l! c.pre.bs
      let g:=λi=>if eJ i np then im σ i else nx+(i-np)
      (match rF g c.post.vs (UN _ _ y) with
      |some z=>(match Rm g c.pre.bs (Sy _ _ x) (dU m h) with
       |some A=>K (Vh z) (sm|||m) m A nx
       |none=>U)
      |none=>U) else U
    |none=>U)
   |none=>U)
  |none=>U)
 |none=>U
def ath (op:BinOp) (x y:TV) (q:TV->M R):M R:=
 match x,y with
 |.f (.int k) a,.f (.int z) b=>if k==z then
   (match op with
   |.add=>q (.f (.int k) (bn k (a+b)))
   |.sub=>q (.f (.int k) (bn k (a-b)))
   |.mul=>q (.f (.int k) (bn k (a*b)))
   |.rem=>chk (!decide ((b:Int)=0)) λ_=>q (.f (.int k) (C5 a b))
   |.quo=>chk (!decide ((b:Int)=0)) λ_=>q (.f (.int k) (bn k (Int.tdiv a b)))
   |.eql=>q (.f .bool (decide ((a:Int)=b)))
   |.neq=>q (.f .bool (!decide ((a:Int)=b)))
   |.lss=>q (.f .bool (gF a b))
   |.leq=>q (.f .bool (dz a b))
   |.gtr=>q (.f .bool (gF b a))
   |.geq=>q (.f .bool (dz b a))
   |_=>U)
  else U
 |.f .str a,.f .str b=>match op with
   |.eql=>q (.f .bool (decide ((a:ζ)=b)))
   |.neq=>q (.f .bool (!decide ((a:ζ)=b)))
   |_=>U
 |_,_=>U
def aej:Bool->Ty->Bool
 |false,.int _=>J
 |true,.str=>J
 |_,_=>af
abbrev itK:Ty:=.st (.pr .str (.int .i64))
def isIt:Ty->Bool
 |.st (.pr .str (.int .i64))=>J
 |_=>af
def aeh (K:Ty):Bool:= !isIt K
def Pt:Y ((ζ×Int)×Unit)->ζ
 |[]=>[]
 |e::_=>e.1.1
def MP:Y ((ζ×Int)×Unit)->Nat
 |[]=>0
 |e::_=>aN e.1.2
def rnP (s:ζ) (p:Nat):Int:=rnA (List.getD s p 0) ⟨jG s⟩ p
def wdP (s:ζ) (p:Nat):Nat:=wdA (List.getD s p 0) ⟨jG s⟩ p
def itE:(K V:Ty)->Y (K.den×V.den)->M (ζ×Nat)
 |.st (.pr .str (.int .i64)),.un,es=>Z (Pt es,MP es)
 |_,_,_=>U
def mpE:(K V:Ty)->Y (K.den×V.den)->Bool
 |.un,.un,[]=>J
 |_,_,_=>af
def AK (T:Ty):Y TV->M (Y T.den)
 |[]=>Z []
 |.f S v::r=>match xK (S:=S) T v with
  |some x=>(match AK T r with|some l=>Z (x::l)|none=>U)
  |none=>U
 |_::_=>U
def aku:Y TV->M ((T:Ty)×Y T.den)
 |.f T v::r=>match AK T (.f T v::r) with|some l=>Z ⟨T,l⟩|none=>U
 |_=>U
def ax0 (n sz:Nat) (v:TV):Bool->M ((T:Ty)×Y T.den)
 |true=>U
 |false=>if aB sz 1&& !v.isC then (match v.cs with|some l=>if aB (l! l) n then aku l else U|none=>U) else U
def arrB (n sz off:Nat):M fk->M ((T:Ty)×Y T.den)
 |some (.C (Z _) l)=>if aB sz 1&&aB off 0&&aB (l! l) n then aku l else U
 |_=>U
def aqz:Ty->Nat
 |.pr .un t=>aqz t+1
 |_=>0
def Hf:M Ty->M Nat
 |some (.pr .un t)=>Z (aqz t)
 |_=>U
def ar4 (ty:TypeId) (sz bytes:Nat) (b y:TV) (h:aZ) (nx:Nat) (K:KO R):M R:=match y with
 |.qy id2 sz2 m=>(match h.get id2 with
  |some (.C (Z _) z)=>if aB sz2 sz&&aB (l! z) (m*sz)&& !(aB m 0) then (match b with
   |.qy id sz1 n=>(match h.get id with
    |some (.C (Z ty1) l)=>if aB sz1 sz&&ty1==ty&&aB (l! l) (n*sz)&& !(aB id id2) then
      chk (bh (n+m) bytes) λ_=>K (.qy nx sz (n+m)) (gC id|||gC id2) (gC id|||gC nx) ((h.set id (Z (.qj J 0 0))).set nx (Z (.C (Z ty) (l++z)))) (nx+1) else U
    |_=>U)
   |.nil=>chk (bh m bytes) λ_=>K (.qy nx sz m) (gC id2) (0|||gC nx) ((dU 0 h).set nx (Z (.C (Z ty) z))) (nx+1)
   |_=>U) else U
  |_=>U)
 |_=>U
def ap1 (ty:TypeId) (sz bytes:Nat) (T:Ty) (b:TV) (z:Y T.den) (m:Nat) (h:aZ) (nx:Nat) (K:KO R):M R:=match b with
 |.G id=>(match h.get id with
  |some (.F ty' p S xs)=>(match xK (S:=.sl S) (.sl T) xs with
   |some xs=>if ty'==ty&& !(aO m id) then
     chk (bh (aj xs+aj z) bytes) λ_=>K (.G nx) (gC id|||m) (gC id|||gC nx) ((h.set id (Z (.qj p sz (aj xs)))).set nx (Z (.F ty p T (xs++z)))) (nx+1)
    else U
   |none=>U)
  |_=>U)
 |.emp|.nil=>chk (bh (aj z) bytes) λ_=>K (.G nx) m (gC nx) (h.set nx (Z (.F ty J T z))) (nx+1)
 |_=>U
def pkT (ok:Bool) (v b:TV):TV:=match ok with|true=>.qg [v,b]|false=>v
def fc (con:FuncId->M cA) (ca:TypeId->M Ty) (o:SI) (e:hX) (h:aZ) (nx:Nat) (K:KO R):M R:=
 match o with
 |.call f args=>match Mm e args with|some l=>ad5 con f l h nx K|none=>U
 |.xz x args=>match dM e x,Mm e args with
  |some (.qv f cap),Z l=>ad5 con f (l++cap) h nx K
  |_,_=>U
 |.op s=>match s with
  |.zh ty sz bytes z l c=>match Hf (ca ty) with
   |some n=>(match Ou z,dM e l,dM e c with
    |some L,Z (.f (.int _) a),Z (.f (.int _) b)=>chk (dz 0 a&&dz a b&&bh (aN b) bytes&&decide ((a:Int)=aS n)) λ_=>K (.qy nx sz n) 0 (0|||gC nx) ((dU 0 h).set nx (Z (.C (Z ty) (aG n L).flatten))) (nx+1)
    |_,_,_=>U)
   |none=>match ca ty,dM e l,dM e c with
   |some T,Z (.f (.int _) a),Z (.f (.int _) b)=>if aB sz T.size&&X1 z (uZ T) then
     chk (dz 0 a&&dz a b&&bh (aN b) bytes) λ_=>K (.G nx) 0 (gC nx) (h.set nx (Z (.F ty af T (aG (aN a) T.zero)))) (nx+1) else U
   |_,_,_=>U
  |.xw ty sz len z parts=>match Hf (ca ty) with
   |some _=>(match Ou z with
    |some L=>(match Nu ((aG len L).flatten) e parts with
     |some cs=>if aB len 0 then U else K (.qy nx sz len) 0 (0|||gC nx) ((dU 0 h).set nx (Z (.C (Z ty) cs))) (nx+1)
     |none=>U)
    |none=>U)
   |none=>match ca ty,Ou z with
   |some T,Z L=>if aB sz T.size then (match Nu ((aG len L).flatten) e parts with
    |some cs=>(match DX h T len cs with
     |some (xs,m)=>K (.G nx) m (m|||gC nx) ((dU m h).set nx (Z (.F ty (aB len 0) T xs))) (nx+1)
     |none=>U)
    |none=>U) else U
   |_,_=>U
  |.app ty sz bytes s x=>match Hf (ca ty) with
   |some _=>(match dM e s,dM e x with
    |some b,Z y=>ar4 ty sz bytes b y h nx K
    |_,_=>U)
   |none=>match ca ty,dM e s,dM e x with
   |some T,Z b,Z y=>if aB sz T.size then (match Hm h (.sl T) y with
    |some (ys,m)=>ap1 ty sz bytes T b ys m h nx K
    |none=>U) else U
   |_,_,_=>U
  |.copy sz d x=>match dM e d,dM e x with
   |some (.G id),Z y=>(match h.get id with
    |some (.F ty p T xs)=>if aB sz T.size then (match Hm h (.sl T) y with
     |some (ys,m)=>if !(aO m id)&& !p then
       K (.f (.int .i64) (aS (lQ (aj ys) (aj xs)))) (gC id|||m) (gC id) (h.set id (Z (.F ty p T (Yy xs ys)))) nx else U
     |none=>U) else U
    |_=>U)
   |_,_=>U
  |.clr sz z x=>match dM e x with
   |some (.zl id j)=>(match h.get id with
    |some (.F ty p T xs)=>if (aB sz T.size&&X1 z (uZ T))&&nY z then
      chk (dz 0 j&&gF j (aj xs)) λ_=>K (.qg []) (gC id) (0|||gC id) ((dU 0 h).set id (Z (.F ty p T (dE (aN j) xs++aG (aj xs-aN j) T.zero)))) nx
     else U
    |_=>U)
   |_=>U
  |.mv x=>match dM e x with|some v=>K v 0 0 h nx|none=>U
  |.pick c a b=>match dM e c with
   |some (.f .bool t)=>aJ t (match dM e a with|some v=>K v 0 0 h nx|none=>U) (match dM e b with|some v=>K v 0 0 h nx|none=>U)
   |_=>U
  |.alloc ty z=>match Ou z with
   |some l=>K (.H nx 0) 0 (gC nx) (h.set nx (Z (.C (Z ty) l))) (nx+1)
   |none=>U
  |.box ty x=>match dM e x with
   |some v=>(match v.cs with|some l=>K (.H nx 0) 0 (gC nx) (h.set nx (Z (.C (Z ty) l))) (nx+1)|none=>U)
   |none=>U
  |.build z parts=>match Ou z with
   |some l=>(match Nu l e parts with|some cs=>K (.agg cs) 0 0 h nx|none=>U)
   |none=>U
  |.load sz D x=>match dM e x with
   |some (.H id off)=>(match h.get id with
    |some (.C (Z _) l)=>(match ae5 l off sz D with|some v=>K v (gC id) 0 h nx|none=>U)
    |_=>U)
   |some (.zg id sz' j off)=>(match h.get id with
    |some (.F _ _ T xs)=>if aB sz' T.size then chk (dN j (l! xs)) λ_=>(match oB 40 T (geti _ xs j) off sz D with|some v=>K v (gC id) 0 h nx|none=>U) else U
    |some (.C (Z _) l)=>(match D with
     |true=>U
     |false=>if aB sz 1&&aB sz' 1&&aB off 0 then (match aku l with
      |some ⟨T,xs⟩=>chk (dN j (l! l)) λ_=>K (.f T (geti _ xs j)) (gC id) 0 h nx
      |none=>U) else U)
    |_=>U)
   |some (.zd T xs j _ off)=>(match oB 40 T (geti _ xs j) off sz D with|some v=>K v 0 0 h nx|none=>U)
   |_=>U
  |.store sz x v=>match dM e x,dM e v with
   |some (.H id off),Z y=>(match h.get id with
    |some (.C (Z ty) l)=>(match y.cs with
     |some cs=>if (l! cs)==sz&&eK (off+sz) (l! l) then K .undef (gC id) (gC id) (h.set id (Z (.C (Z ty) (splice l off cs)))) nx else U
     |none=>U)
    |_=>U)
   |some (.zg id sz' j off),Z y=>(match h.get id with
    |some (.F ty p T xs)=>if aB sz' T.size then chk (dN j (l! xs)) λ_=>(match gP h y 40 T (geti _ xs j) off sz with
     |some (z,m)=>if aO m id then U else K .undef (m|||gC id) (m|||gC id) ((dU m h).set id (Z (.F ty p T (cC xs j z)))) nx
     |none=>U) else U
    |some (.C (Z ty) l)=>if aB sz 1&&(aB sz' 1&&aB off 0) then chk (dN j (l! l)) λ_=>(match y.cs with
     |some cs=>if aB (l! cs) 1 then K .undef (gC id) (gC id) (h.set id (Z (.C (Z ty) (splice l j.toNat cs)))) nx else U
     |none=>U) else U
    |_=>U)
   |_,_=>U
  |.jz x=>match dM e x with
   |some (.H id off)=>K (.H id off) 0 0 h nx
   |some (.zg id sz j off)=>K (.zg id sz j off) 0 0 h nx
   |some (.zd T xs j N off)=>K (.zd T xs j N off) 0 0 h nx
   |some (.qv g cap)=>K (.qv g cap) 0 0 h nx
   |_=>U
  |.bin op x y=>match dM e x,dM e y with
   |some u,Z v=>ath op u v λr=>K r 0 0 h nx
   |_,_=>U
  |.xq neg ds x y=>match sQ ds,dM e x,dM e y with
   |some T,Z u,Z v=>if u.isC||v.isC||Zc x||Zc y then U else (match u.cs,v.cs with
    |some lu,Z lv=>(match fI PT.leaf 40 T lu,fI PT.leaf 40 T lv with
     |some (a,_,[]),Z (b,_,[])=>K (.f .bool (LL T a b !=neg)) 0 0 h nx
     |_,_=>U)
    |_,_=>U)
   |_,_,_=>U
  |.zn neg x=>match dM e x with
   |some .nil=>K (.f .bool (!neg)) 0 0 h nx
   |some .emp=>K .qw 0 0 h nx
   |some (.f (.sl _) xs)=>aJ (aB (aj xs) 0) (K .qw 0 0 h nx) (K (.f .bool neg) 0 0 h nx)
   |some (.G id)=>(match h.get id with
    |some (.F _ af _ _)=>K (.f .bool neg) 0 0 h nx
    |_=>U)
   |_=>U
  |.xx neg x y=>match dM e x,dM e y with
   |some (.f .bool a),Z (.f .bool b)=>K (.f .bool ((a==b) !=neg)) 0 0 h nx
   |_,_=>U
  |.not x=>match dM e x with|some (.f .bool b)=>K (.f .bool (!b)) 0 0 h nx|_=>U
  |.conv k x=>match dM e x with|some (.f (.int _) n)=>K (.f (.int k) (bn k n)) 0 0 h nx|_=>U
  |.slc sz x lo hi mx=>match dM e x with
   |some v=>(match lo,hi,mx with
    |none,Z b,U=>(match v,dM e b with
     |.f (.sl T) xs,Z (.f (.int _) j)=>if aB sz T.size then chk (dz 0 j&&dz j (aj xs)) λ_=>K (.f (.sl T) (dE (aN j) xs)) 0 0 h nx else U
     |.G id,Z (.f (.int _) j)=>(match h.get id with
      |some (.F ty p T xs)=>if aB sz T.size then
        chk (dz 0 j&&gF j (aj xs)) λ_=>K (.G nx) (gC id) (gC id|||gC nx) ((h.set id (Z (.qj p sz (aj xs)))).set nx (Z (.F ty af T (dE (aN j) xs)))) (nx+1)
       else U
      |_=>U)
     |_,_=>U)
    |some b,U,U=>(match v,dM e b with
     |.f (.sl T) xs,Z (.f (.int _) j)=>if aB sz T.size then chk (dz 0 j&&dz j (aj xs)) λ_=>K (.f (.sl T) (List.drop (aN j) xs)) 0 0 h nx else U
     |.G id,Z (.f (.int _) j)=>(match h.get id with
      |some (.F _ _ T xs)=>if aB sz T.size then chk (dz 0 j&&gF j (aj xs)) λ_=>K (.zl id j) 0 0 h nx else U
      |_=>U)
     |_,_=>U)
    |_,_,_=>U)
   |none=>U
  |.jm off x=>match dM e x with
   |some (.H id o)=>K (.H id (o+off)) 0 0 h nx
   |some (.zg id sz j o)=>K (.zg id sz j (o+off)) 0 0 h nx
   |some (.zd T xs j N o)=>K (.zd T xs j N (o+off)) 0 0 h nx
   |_=>U
  |.jp sz x i=>match dM e x,dM e i with
   |some (.G id),Z (.f (.int _) j)=>(match h.get id with
    |some (.F _ _ T xs)=>if aB sz T.size then chk (dN j (l! xs)) λ_=>K (.zg id sz j 0) 0 0 h nx else U
    |_=>U)
   |some (.f (.sl T) xs),Z (.f (.int _) j)=>if aB sz T.size then chk (dN j (aj xs)) λN=>K (.zd T xs j N 0) 0 0 h nx else U
   |some (.qy id sz' n),Z (.f (.int _) j)=>if aB sz' sz then chk (dz 0 j&&gF j n) λ_=>K (.H id (aN j*sz)) 0 0 h nx else U
   |_,_=>U
  |.jk n sz x i=>match dM e x,dM e i with
   |some (.H id off),Z (.f (.int _) j)=>(match arrB n sz off (h.get id) with
    |some _=>chk (dz 0 j&&gF j n) λ_=>K (.zg id sz j off) 0 0 h nx
    |none=>chk (dz 0 j&&gF j n) λ_=>K (.H id (off+aN j*sz)) 0 0 h nx)
   |_,_=>U
  |.idx n sz D x i=>match dM e x,dM e i with
   |some v,Z (.f (.int _) j)=>(match ax0 n sz v D with
    |some ⟨T,xs⟩=>chk (dz 0 j&&gF j n) λ_=>K (.f T (geti _ xs j)) 0 0 h nx
    |none=>(match v with
     |.agg l=>chk (dz 0 j&&gF j n) λ_=>(match ae5 l (aN j*sz) sz D with|some v=>K v 0 0 h nx|none=>U)
     |.f T v=>if T.one then U else chk (dz 0 j&&gF j n) λ_=>(match oB 40 T v (aN j*sz) sz D with|some v=>K v 0 0 h nx|none=>U)
     |_=>U))
   |_,_=>U
  |.ext x i=>match dM e x with|some (.qg l)=>(match l[i]? with|some v=>K v 0 0 h nx|none=>U)|_=>U
  |.len x=>match dM e x with
   |some v=>(match lenOf h v with|some n=>K (.f (.int .i64) (aS n)) 0 0 h nx|none=>U)
   |none=>U
  |.lens x=>match dM e x with
   |some (.f .str s)=>K (.f (.int .i64) (aS (aj s))) 0 0 h nx
   |_=>U
  |.max x y=>match dM e x,dM e y with
   |some (.f (.int k) a),Z (.f (.int k') b)=>if k==k' then K (.f (.int k) (m7 a b)) 0 0 h nx else U
   |_,_=>U
  |.min x y=>match dM e x,dM e y with
   |some (.f (.int k) a),Z (.f (.int k') b)=>if k==k' then K (.f (.int k) (Kz a b)) 0 0 h nx else U
   |_,_=>U
  |.jv x i=>match dM e x,dM e i with
   |some (.f .str s),Z (.f (.int _) j)=>chk (dN j (aj s)) λ_=>K (.f (.int .u8) (amo s j)) 0 0 h nx
   |_,_=>U
  |.rng x=>match dM e x with
   |some (.f .str s)=>K (.H nx 0) 0 (0|||gC nx) ((dU 0 h).set nx (Z (.mp itK .un [((s,0),())]))) (nx+1)
   |_=>U
  |.nxt x=>match dM e x with
   |some (.H id 0)=>(match h.get id with
    |some (.mp K' V es)=>(match itE K' V es with
     |some (s,p)=>aJ (eJ p (aj s)) (K (.qg [.f .bool J,.f (.int .i64) (aS p),.f (.int .i32) (rnP s p)]) (gC id) (0|||gC id) ((dU 0 h).set id (Z (.mp itK .un [((s,aS (p+wdP s p)),())]))) nx)
       (K (.qg [.f .bool af]) (gC id) (0|||gC id) ((dU 0 h).set id (Z (.mp itK .un [((s,aS p),())]))) nx)
     |none=>U)
    |_=>U)
   |_=>U
  |.mkm=>K (.mp nx) 0 (0|||gC nx) ((dU 0 h).set nx (Z (.mp .un .un []))) (nx+1)
  |.jb str ok z x k=>match dM e x,dM e k with
   |some (.mp id),Z (.f KT kv)=>(match h.get id with
    |some (.mp K' V es)=>if aej str KT&&aeh K' then (match mpE K' V es with
     |true=>(match cst z with|some v=>K (pkT ok v (.f .bool af)) (gC id) 0 h nx|none=>U)
     |false=>(match xK (S:=KT) K' kv,cst z with
      |some kv',Z (.f A zv)=>(match xK (S:=A) V zv with
       |some zv'=>K (pkT ok (.f V (xn kv' es zv')) (.f .bool (aei kv' es))) (gC id) 0 h nx
       |none=>U)
      |_,_=>U)) else U
    |_=>U)
   |_,_=>U
  |.jf str x k v=>match dM e x,dM e k,dM e v with
   |some (.mp id),Z (.f KT kv),Z (.f VT vv)=>(match h.get id with
    |some (.mp K' V es)=>if (aej str KT&&VT.one)&&aeh K' then (match mpE K' V es with
     |true=>K .undef (gC id) (0|||gC id) ((dU 0 h).set id (Z (.mp KT VT [(kv,vv)]))) nx
     |false=>(match xK (S:=KT) K' kv,xK (S:=VT) V vv with
      |some kv',Z vv'=>K .undef (gC id) (0|||gC id) ((dU 0 h).set id (Z (.mp K' V (uN kv' vv' es)))) nx
      |_,_=>U)) else U
    |_=>U)
   |_,_,_=>U
  |.mkf f caps=>match Mm e caps with|some l=>K (.qv f l) 0 0 h nx|none=>U
  |_=>U
abbrev CU (S:Ty):Type:=S.den×Y (Int×Bool)×Y (Int×Bool)
def dT (S:Ty) (xs:Y (CU S)) (j:Int):CU S:=xs.getD j.toNat (S.zero,[],[])
def qW {S:Ty} (xs:Y (CU S)) (j:Int) (o:CU S):Y (CU S):=xs.set j.toNat o
def m_ (z:η) (j:Int):Int:=z.getD j.toNat 0
variable {T:Ty}
def kX (xss:Y (Y T.den)) (j:Int):Y T.den:=xss.getD j.toNat []
def mB (xss:Y (Y T.den)) (j:Int) (xs:Y T.den):Y (Y T.den):=xss.set j.toNat xs
abbrev q!:=Int×Bool
def sN {S:Ty} (b:Nat) (o:CU S):Y q!:=match b with|0=>o.2.1|_=>o.2.2
def vW {S:Ty} (b:Nat) (o:CU S) (m:Y q!):CU S:=match b with|0=>(o.1,m,o.2.2)|_=>(o.1,o.2.1,m)
def aj8 (v:TV):M ν:=if v.isC then U else match v.cs with
 |some [.f (.int .i64) a,.f (.int .i64) b]=>Z (a,b)
 |_=>U
def H_ (k z:ν):Bool:=decide (k.1=z.1)&&decide (k.2=z.2)
abbrev d?:=ν×Int
def jN (k:ν):Y d?->Bool
 |[]=>af
 |e::r=>H_ k e.1||jN k r
def db (k:ν):Y d?->Int
 |[]=>0
 |e::r=>match H_ k e.1 with|true=>e.2|false=>db k r
def Ah (k:ν):Y d?->Y d?
 |[]=>[]
 |e::r=>match H_ k e.1 with|true=>r|false=>e::Ah k r
def stN:Ty->Nat
 |.st t=>stN t+1
 |_=>0
def isRr:M Ty->Bool
 |some (.pr .bool (.pr _ (.sl _)))=>J
 |_=>af
def ajb:ξ->Bool
 |[.slice U 0 0]=>J
 |_=>af
def awv:M TV->Bool
 |some (.sb _)=>J
 |_=>af
def Za:M fk->Bool
 |some (.I _ _ _)=>J
 |some (.qm _ _ _ _ _)=>J
 |_=>af
def B6 (h:aZ):M TV->Bool
 |some (.sb _)=>J
 |some (.zg id _ _ _)|some (.G id)=>Za (h.get id)
 |_=>af
def awx (ca:TypeId->M Ty) (e:hX) (h:aZ):SI->Bool
 |.op (.load _ _ x)|.op (.store _ x _)|.op (.jz x)|.op (.jm _ x)|.op (.jp _ x _)|.op (.jb _ _ _ x _)|.op (.jf _ x _ _)=>B6 h (dM e x)
 |.op (.app _ _ _ s x)=>B6 h (dM e s)||awv (dM e x)
 |.op (.zh ty _ _ _ _ _)=>isRr (ca ty)
 |.op (.jw _ _)=>J
 |.op (.lkq _ _ _ _)=>J
 |.op (.mpq _ _ _ _)=>J
 |.op (.dlq _ _ _)=>J
 |_=>af
def pG (ca:TypeId->M Ty) (e:hX) (h:aZ) (nx:Nat) (K:KO R):UP->M R
 |.load sz N x=>match dM e x with
  |some (.sb (.ob id j off))=>(match h.get id with
   |some (.I (.ar _ S) _ xs)=>chk (dN j (aj (α:=CU S) xs)) λ_=>
     if N then U else if eJ off S.size then (match oB 40 S (dT S xs j).1 off sz af with|some v=>K v (gC id) 0 h nx|none=>U)
     else if aB sz 1&&eJ off (S.size+2) then K (.sb (.om id j (off-S.size))) (gC id) 0 h nx else U
   |_=>U)
  |some (.sb (.np id j s i off))=>(match h.get id with
   |some (.I (.ir _ T) _ xss)=>if aB s T.size then chk (dN j (aj (α:=Y T.den) xss)) λ_=>chk (dN i (aj (kX (T:=T) xss j))) λ_=>
     (match oB 40 T (geti _ (kX (T:=T) xss j) i) off sz N with|some v=>K v (gC id) 0 h nx|none=>U) else U
   |_=>U)
  |some (.zg id s j off)=>if (aB sz 1&& !N)&&(aB s 1&&aB off 0) then (match h.get id with
   |some (.I (.qh _) a D)=>chk (dN j (aj (α:=Int) D)) λ_=>K (.sb (.ob a (m_ D j) 0)) (gC id) 0 h nx
   |some (.I (.rr _ z) a L)=>chk (dN j (aj (α:=Int) L)) λ_=>K (.sb (.nr a j z (aN (m_ L j)))) (gC id) 0 h nx
   |_=>U) else U
  |_=>U
 |.store sz x v=>match dM e x,dM e v with
  |some (.sb (.ob id j off)),Z y=>(match h.get id with
   |some (.I (.ar ty S) a xs)=>chk (dN j (aj (α:=CU S) xs)) λ_=>(match gP h y 40 S (dT S xs j).1 off sz with
    |some (z,m)=>if aB m 0 then K .undef (gC id) (0|||gC id) ((dU 0 h).set id (Z (.I (.ar ty S) a (qW (S:=S) xs j (z,(dT S xs j).2))))) nx else U
    |none=>U)
   |_=>U)
  |some (.sb (.np id j s i off)),Z y=>(match h.get id with
   |some (.I (.ir ty T) a xss)=>if aB s T.size then chk (dN j (aj (α:=Y T.den) xss)) λ_=>chk (dN i (aj (kX (T:=T) xss j))) λ_=>(match gP h y 40 T (geti _ (kX (T:=T) xss j) i) off sz with
    |some (z,m)=>if aB m 0 then K .undef (gC id) (0|||gC id) ((dU 0 h).set id (Z (.I (.ir ty T) a (mB (T:=T) xss j (cC (kX (T:=T) xss j) i z))))) nx else U
    |none=>U) else U
   |_=>U)
  |some (.zg id s j off),Z (.G r)=>if aB sz 1&&(aB s 1&&aB off 0) then (match h.get id,h.get r with
   |some (.I (.rr ty z) a L),Z (.F _ p T xs)=>if aB z T.size then chk (dN j (aj (α:=Int) L)) λ_=>chk (p|| !(aB (aj xs) 0)) λ_=>K .undef (gC id) (0|||gC id) ((dU 0 h).set id (Z (.qm (.rr ty z) a L (j,0) (Z (r,J,aj xs))))) nx else U
   |_,_=>U) else U
  |_,_=>U
 |.jz x=>match dM e x with
  |some (.sb (.ob id j off))=>K (.sb (.ob id j off)) 0 0 h nx
  |some (.sb (.np id j s i off))=>K (.sb (.np id j s i off)) 0 0 h nx
  |_=>U
 |.jm off x=>match dM e x with
  |some (.sb (.ob id j o))=>K (.sb (.ob id j (o+off))) 0 0 h nx
  |some (.sb (.np id j s i o))=>K (.sb (.np id j s i (o+off))) 0 0 h nx
  |_=>U
 |.jp sz x i=>match dM e x,dM e i with
  |some (.G id),Z (.f (.int _) j)=>(match eR h id with
   |some (_,s,n)=>if aB s sz&&Za (h.get id) then chk (dN j n) λ_=>K (.zg id sz j 0) 0 0 h nx else U
   |none=>U)
  |some (.sb (.nr id j s n)),Z (.f (.int _) i)=>if aB s sz then chk (dN i n) λ_=>K (.sb (.np id j sz i 0)) 0 0 h nx else U
  |_,_=>U
 |.jb str ok z x k=>match dM e x,dM e k with
  |some (.sb (.om id j b)),Z (.f (.int .i64) A)=>(match h.get id,z with
   |some (.I (.ar _ S) _ xs),.bool zb=>if !str&&eJ b 2 then chk (dN j (aj (α:=CU S) xs)) λ_=>
     K (pkT ok (.f .bool (xn (K:=.int .i64) (V:=.bool) A (sN b (dT S xs j)) zb)) (.f .bool (aei (K:=.int .i64) (V:=.bool) A (sN b (dT S xs j))))) (gC id) 0 h nx else U
   |_,_=>U)
  |_,_=>U
 |.jf str x k v=>match dM e x,dM e k,dM e v with
  |some (.sb (.om id j b)),Z (.f (.int .i64) A),Z (.f .bool vv)=>(match h.get id with
   |some (.I (.ar ty S) a xs)=>if !str&&eJ b 2 then chk (dN j (aj (α:=CU S) xs)) λ_=>
     K .undef (gC id) (0|||gC id) ((dU 0 h).set id (Z (.I (.ar ty S) a (qW (S:=S) xs j (vW b (dT S xs j) (uN (K:=.int .i64) (V:=.bool) A vv (sN b (dT S xs j)))))))) nx else U
   |_=>U)
  |_,_,_=>U
 |.app ty sz bytes s x=>match dM e s,dM e x with
  |some (.G id),Z (.qy id2 1 1)=>(match h.get id,h.get id2 with
   |some (.I (.qh ty') a D),Z (.C (Z _) [.sb (.ob a' j 0)])=>if (aB sz 1&&ty==ty')&&(aB a a'&& !(aB id id2)) then
     chk (bh (aj (α:=Int) D+1) bytes) λ_=>K (.G nx) (gC id|||gC id2) (gC id|||gC nx) ((h.set id (Z (.qj J 1 (aj (α:=Int) D)))).set nx (Z (.I (.qh ty) a (sS (α:=Int) D [j])))) (nx+1) else U
   |_,_=>U)
  |some (.sb (.nr id j s n)),Z y=>(match h.get id with
   |some (.I (.ir ty' T) a xss)=>if aB s T.size&&(aB sz T.size&&ty==ty') then chk (dN j (aj (α:=Y T.den) xss)) λ_=>(match Hm h (.sl T) y with
    |some (ys,m)=>if aO m id then U else chk (aB n (aj (kX (T:=T) xss j))&&bh (n+aj ys) bytes) λ_=>
      K (.G nx) (gC id|||m) (gC id|||gC nx) ((h.set id (Z (.I (.ir ty T) a (mB (T:=T) xss j [])))).set nx (Z (.F ty J T (kX (T:=T) xss j++ys)))) (nx+1)
    |none=>U) else U
   |_=>U)
  |some b,Z (.sb (.nr id j s n))=>(match h.get id with
   |some (.I (.ir _ T) _ xss)=>if aB s T.size&&aB sz T.size then chk (dN j (aj (α:=Y T.den) xss)) λ_=>chk (aB n (aj (kX (T:=T) xss j))) λ_=>ap1 ty sz bytes T b (kX (T:=T) xss j) (gC id) h nx K else U
   |_=>U)
  |_,_=>U
 |.zh ty sz bytes z l c=>match ca ty,dM e l,dM e c with
  |some (.pr .bool (.pr q (.sl T))),Z (.f (.int _) a),Z (.f (.int _) b)=>if aB sz 1&&ajb z then
    chk (dz 0 a&&dz a b&&bh (aN b) bytes) λ_=>K (.G nx) 0 (gC nx) ((h.set nx (Z (.I (.rr ty T.size) (nx+1) (aG (aN a) (0:Int))))).set (nx+1) (Z (.I (.ir (stN q) T) 0 (aG (aN a) ([]:Y T.den))))) (nx+2) else U
  |_,_,_=>U
 |.jw neg x=>match dM e x with
  |some (.sb (.ob _ _ _))|some (.H _ _)=>K (.f .bool neg) 0 0 h nx
  |some .np=>K (.f .bool (!neg)) 0 0 h nx
  |_=>U
 |.lkq [.int .i64,.int .i64] z x k=>match dM e x,(dM e k).bind aj8,z with
  |some (.mp id),Z A,.pointer U=>(match h.get id with
   |some (.I .zq a es)=>aJ (jN A es) (K (.sb (.ob a (db A es) 0)) (gC id) 0 h nx) (K .np (gC id) 0 h nx)
   |_=>U)
  |_,_,_=>U
 |.mpq [.int .i64,.int .i64] x k v=>match dM e x,(dM e k).bind aj8,dM e v with
  |some (.mp id),Z A,Z (.H p 0)=>(match h.get id with
   |some (.I .zq a es)=>K .undef (gC id) (0|||gC id) ((dU 0 h).set id (Z (.qm .zq a es A (Z (p,af,0))))) nx
   |_=>U)
  |_,_,_=>U
 |.dlq [.int .i64,.int .i64] x k=>match dM e x,(dM e k).bind aj8 with
  |some (.mp id),Z A=>(match h.get id with
   |some (.I .zq a es)=>K (.qg []) (gC id) (0|||gC id) ((dU 0 h).set id (Z (.I .zq a (Ah A es)))) nx
   |_=>U)
  |_,_=>U
 |_=>U
def opK (con:FuncId->M cA) (ca:TypeId->M Ty) (o:SI) (e:hX) (h:aZ) (nx:Nat) (K:KO R):M R:=match awx ca e h o with
 |true=>(match o with|.op s=>pG ca e h nx K s|_=>U)
 |false=>fc con ca o e h nx K
def ah6 (e:hX) (g:M (Nat×Bool)) (K:Bool->hX->M R):M R:=match g with
 |none=>K J e
 |some (t,want)=>match e.get t with
  |some (.f .bool b)=>(match want with
   |true=>aJ b (K J (e.set t (Z (.f .bool J)))) (K af (e.set t (Z (.f .bool af))))
   |false=>aJ b (K af (e.set t (Z (.f .bool J)))) (K J (e.set t (Z (.f .bool af)))))
  |some .undef=>K af e
  |_=>U
def HS (e:hX) (d:M Nat) (v:TV):hX:=match d with
 |none=>e
 |some d=>e.set d (Z v)
structure TS where
 e:hX
 h:aZ
 nx:Nat
def PH (con:FuncId->M cA) (ca:TypeId->M Ty):Y uB->TS->Y FPm->(TS->Y FPm->M R)->M R
 |[],s,z,K=>K s z.reverse
 |o::r,s,z,K=>ah6 s.e o.guard λrun e=>match run with
  |true=>opK con ca o.op e s.h s.nx λv rd A h nx=>if PL h v then PH con ca r ⟨HS e o.dst v,h,nx⟩ (⟨rd,A⟩::z) K else U
  |false=>PH con ca r ⟨HS e o.dst .undef,s.h,s.nx⟩ (⟨0,0⟩::z) K
inductive Adj where
 |nil (k:Nat) (ty:TypeId) (T:Ty)
 |qc (k:Nat) (off:Nat) (ty:TypeId) (T:Ty)
 |mpt (k:Nat) (K V:Ty)
 |pk (k:Nat) (off:Nat) (T:Ty)
 |qx (k:Nat) (off:Nat)
 |fmp (k off:Nat) (ty:TypeId) (S:Ty)
 |frw (k off off2:Nat) (ty:TypeId)
 |jg (k off:Nat)
mutual
def Pz (id sz n:Nat):TV->TV
 |.qy i s m=>if aB i id&&aB s sz&&aB m n then .G id else .qy i s m
 |.agg l=>.agg (I8 id sz n l)
 |.qg l=>.qg (I8 id sz n l)
 |.qv g l=>.qv g (I8 id sz n l)
 |.f T v=>.f T v
 |.zd T xs j h off=>.zd T xs j h off
 |.zg a b c d=>.zg a b c d
 |.H a b=>.H a b
 |.G a=>.G a
 |.zl a j=>.zl a j
 |.sb s=>.sb s
 |.emp=>.emp
 |.nil=>.nil
 |.mp a=>.mp a
 |.undef=>.undef
 |.np=>.np
 |.qw=>.qw
def I8 (id sz n:Nat):Y TV->Y TV
 |[]=>[]
 |x::r=>Pz id sz n x::I8 id sz n r
end
def YI (id sz n:Nat):fk->fk
 |.C ty l=>.C ty (I8 id sz n l)
 |.F ty p T xs=>.F ty p T xs
 |.qj p s m=>.qj p s m
 |.mp K V es=>.mp K V es
 |.I F a x=>.I F a x
 |.qm F a x k p=>.qm F a x k p
def axb (s:TS) (k off:Nat):M (Nat×p?):=match s.e.get k with
 |some (.qy id sz n)=>Z (id,sz,n)
 |some (.agg l)=>(match l[off]? with|some (.qy id sz n)=>Z (id,sz,n)|_=>U)
 |some (.H a o)=>(match s.h.get a with
  |some (.C (Z _) l)=>(match l[o+off]? with|some (.qy id sz n)=>Z (id,sz,n)|_=>U)
  |_=>U)
 |_=>U
def pkS (s:TS) (T:Ty) (id sz n:Nat):M TS:=match s.h.get id with
 |some (.C (Z ty) l)=>if aB sz T.size then (match DX s.h T n l with
  |some (xs,m)=>if aO m id then U else Z ⟨PT.updI (λ_ v=>Pz id sz n v) 1 0 s.e,(PT.updI (λ_ b=>YI id sz n b) 1 0 (dU m s.h)).set id (Z (.F ty af T xs)),s.nx⟩
  |none=>U) else U
 |_=>U
def aja:TV->Bool
 |.nil=>J
 |.emp=>J
 |_=>af
def aqn:M TV->M p?
 |some (.H id o)=>Z (id,o)
 |some (.qy id _ _)|some (.mp id)=>Z (id,0)
 |_=>U
def ak3 (s:TS) (k off:Nat):M Nat:=match s.e.get k with
 |some (.mp id)|some (.G id)=>Z id
 |some (.H b o)=>(match s.h.get b with
  |some (.C (Z _) l)=>(match l[o+off]? with|some (.mp id)=>Z id|some (.G id)=>Z id|_=>U)
  |_=>U)
 |_=>U
def shf (n:Nat) (j:Int):Int:=if eJ j.toNat n then j else aS (j.toNat+1)
def L6 (n:Nat) (es:Y d?):Y d?:=es.map λe=>(e.1,shf n e.2)
def sK (k:ν) (v:Int):Y d?->Y d?
 |[]=>[(k,v)]
 |e::r=>match H_ k e.1 with|true=>(k,v)::r|false=>e::sK k v r
def rnX (len:Nat):(F:uE)->F.ty.den->F.ty.den
 |.qh _,z=>gE (shf len) z
 |.zq,es=>L6 len es
 |_,x=>x
def aww:uE->Bool
 |.qh _=>J
 |.zq=>J
 |_=>af
def rnF (a n len:Nat):fk->fk
 |.I F b x=>if aww F&&aB b a then .I F n (rnX len F x) else .I F b x
 |b=>b
def anl:M fk->M (Y q!)
 |some (.mp (.int .i64) .bool es)=>Z es
 |some (.mp .un .un [])=>Z []
 |_=>U
def ahh (s:TS) (o a p:Nat) (kk:ν) (es:Y d?):M TS:=match s.h.get a,s.h.get p with
 |some (.I (.ar ty S) _ xs),Z (.C (Z ty') l)=>if ty'==ty then (match fI s.h 40 S l with
  |some (z,m,[.mp m1,.mp m2])=>(match anl (s.h.get m1),anl (s.h.get m2) with
   |some A,Z e2=>if aB m 0&& !(aB m1 m2) then
     Z ⟨s.e,((((((PT.updI (λ_ b=>rnF a s.nx (aj (α:=CU S) xs) b) 1 0 s.h).set o (Z (.I .zq s.nx (sK kk (aS (aj (α:=CU S) xs)) (L6 (aj (α:=CU S) xs) es))))).set a (Z (.qj J 0 0))).set p (Z (.qj J 0 0))).set m1 (Z (.qj J 0 0))).set m2 (Z (.qj J 0 0))).set s.nx (Z (.I (.ar ty S) 0 (sS (α:=CU S) xs [(z,A,e2)]))),s.nx+1⟩ else U
   |_,_=>U)
  |_=>U) else U
 |_,_=>U
def asd (s:TS) (o a r n:Nat) (j:Int) (ty:TypeId) (z:Nat) (A:η):M TS:=match s.h.get a,s.h.get r with
 |some (.I (.ir ty2 T) _ xss),Z (.F ty3 p S xs)=>(match xK (S:=.sl S) (.sl T) xs with
  |some xs'=>if ty3==ty2 then
    Z ⟨s.e,(((s.h.set o (Z (.I (.rr ty z) s.nx (oI (α:=Int) A j.toNat (aS n))))).set a (Z (.qj J 0 0))).set r (Z (.qj p S.size (aj xs)))).set s.nx (Z (.I (.ir ty2 T) 0 (mB (T:=T) xss j xs'))),s.nx+1⟩ else U
  |none=>U)
 |_,_=>U
def ajc (F:uE):Bool:=aB (F.aid 1) 0
def rnG (a n:Nat):fk->fk
 |.I F b x=>if !(ajc F)&&aB b a then .I F n x else .I F b x
 |b=>b
def ash (s:TS) (a:Nat):M TS:=match s.h.get a with
 |some (.I F _ x)=>if ajc F then Z ⟨s.e,((PT.updI (λ_ b=>rnG a s.nx b) 1 0 s.h).set a (Z (.qj J 0 0))).set s.nx (Z (.I F 0 x)),s.nx+1⟩ else U
 |_=>U
def asb (s:TS) (o:Nat):M TS:=match s.h.get o with
 |some (.qm .zq a es kk (Z (p,af,0)))=>ahh s o a p kk es
 |some (.qm (.rr ty z) a A kk (Z (r,J,n)))=>asd s o a r n kk.1 ty z A
 |some (.I F a _)=>if ajc F then U else ash s a
 |_=>U
def K_ (s:TS):Adj->M TS
 |.nil k ty T=>match s.e.get k with
  |some v=>if aja v then Z ⟨s.e.set k (Z (.G s.nx)),s.h.set s.nx (Z (.F ty J T [])),s.nx+1⟩ else Z s
  |none=>U
 |.qc k off ty T=>match aqn (s.e.get k) with
  |some (id,o)=>(match s.h.get id with
   |some (.C cty l)=>(match l[o+off]? with
    |some v=>if aja v then Z ⟨s.e,(s.h.set s.nx (Z (.F ty J T []))).set id (Z (.C cty (splice l (o+off) [.G s.nx]))),s.nx+1⟩ else Z s
    |none=>U)
   |_=>U)
  |_=>U
 |.mpt k K V=>match s.e.get k with
  |some (.mp id)=>(match s.h.get id with
   |some (.mp K' V' es)=>(match mpE K' V' es&&aeh K with
    |true=>Z ⟨s.e,s.h.set id (Z (.mp K V [])),s.nx⟩
    |false=>Z s)
   |_=>U)
  |_=>U
 |.pk k off T=>match axb s k off with
  |some (id,sz,n)=>pkS s T id sz n
  |none=>U
 |.qx k off=>match s.e.get k with
  |some (.H b o)=>(match s.h.get b with
   |some (.C (Z cty) l)=>(match l[o+off]? with
    |some (.G id)=>(match s.h.get id with
     |some (.F ty p T xs)=>Z ⟨s.e,((s.h.set id (Z (.qj p T.size (l! xs)))).set s.nx (Z (.F ty p T xs))).set b (Z (.C (Z cty) (splice l (o+off) [.G s.nx]))),s.nx+1⟩
     |some (.I (.qh ty) a z)=>Z ⟨s.e,((s.h.set id (Z (.qj J 1 (aj (α:=Int) z)))).set s.nx (Z (.I (.qh ty) a z))).set b (Z (.C (Z cty) (splice l (o+off) [.G s.nx]))),s.nx+1⟩
     |_=>U)
    |_=>U)
   |_=>U)
  |some (.G id)=>(match s.h.get id with
   |some (.F ty p T xs)=>Z ⟨s.e.set k (Z (.G s.nx)),(s.h.set id (Z (.qj p T.size (l! xs)))).set s.nx (Z (.F ty p T xs)),s.nx+1⟩
   |_=>U)
  |_=>U
 |.fmp k off ty S=>match ak3 s k off with
  |some id=>(match s.h.get id with
   |some (.mp K' V' es)=>if mpE K' V' es then Z ⟨s.e,(s.h.set id (Z (.I .zq s.nx []))).set s.nx (Z (.I (.ar ty S) 0 [])),s.nx+1⟩ else U
   |some (.I _ _ _)=>Z s
   |_=>U)
  |none=>U
 |.frw k off off2 ty=>match ak3 s k off2,aqn (s.e.get k) with
  |some o,Z (id,q)=>(match s.h.get o,s.h.get id with
   |some (.I .zq a _),Z (.C cty l)=>(match l[q+off]? with
    |some v=>if aja v then Z ⟨s.e,(s.h.set s.nx (Z (.I (.qh ty) a []))).set id (Z (.C cty (splice l (q+off) [.G s.nx]))),s.nx+1⟩ else Z s
    |none=>U)
   |_,_=>U)
  |_,_=>U
 |.jg k off=>match ak3 s k off with
  |some o=>asb s o
  |none=>U
def X8 (s:TS):Y Adj->M TS
 |[]=>Z s
 |a::r=>match K_ s a with|some s'=>X8 s' r|none=>U
structure Ann where
 zj:ι
 ks:ι
 t:Tm
 pre:List Adj
abbrev Ann.D (A:Ann):Type:=A.t.ty.den
mutual
def wu:TV->Bool
 |.f _ _=>J
 |.zd _ _ _ _ _=>J
 |.emp=>J
 |.nil=>J
 |.undef=>J
 |.np=>J
 |.qw=>J
 |.agg l|.qg l=>sd l
 |.zg _ _ _ _=>af
 |.H _ _=>af
 |.qy _ _ _=>af
 |.G _=>af
 |.zl _ _=>af
 |.sb _=>af
 |.mp _=>af
 |.qv _ _=>af
def sd:Y TV->Bool
 |[]=>J
 |x::r=>wu x&&sd r
end
def Ga (am:Nat) (e:hX):ι->hX
 |[]=>PT.leaf
 |k::r=>match e.get k with|some v=>if wu v&& !(aO am k) then (Ga am e r).set k (Z v) else Ga am e r|none=>Ga am e r
def j_ (e:hX):ι->M (Y TV)
 |[]=>Z []
 |k::r=>match e.get k with|some v=>(match j_ e r with|some l=>Z (v::l)|none=>U)|none=>U
def ae9 (e:hX):ι->Y TV->hX
 |k::r,v::l=>(ae9 e r l).set k (Z v)
 |_,_=>e
def LF (am:Nat) (e0 e:hX):ι->Bool
 |[]=>J
 |k::r=>(match e0.get k with
  |some v=> !(wu v)||aO am k||(match e.get k with|some _=>J|none=>af)
  |none=>J)&&LF am e0 e r
def Qk (np:Nat) (A:Ann) (am:Nat) (z s:TS):M A.D:=if eK np (l! A.t.bs)&&LF am z.e s.e A.zj then (match X8 s A.pre with
 |some s=>(match j_ s.e A.ks with
  |some vs=>(match E8 np A.t vs s.h with
   |some ⟨x,_,_,_⟩=>Z x
   |none=>U)
  |none=>U)
 |none=>U) else U
def Kt (A:Ann) (am:Nat) (s:TS) (x:A.D):M TS:=match DY A.t x with
 |some (vs,h)=>if aB (l! vs) (l! A.ks) then Z ⟨ae9 (Ga am s.e A.zj) A.ks vs,h,l! A.t.bs⟩ else U
 |none=>U
inductive TC where
 |skip
 |jy (ops:List uB) (prs:List (Nat×Nat))
 |seq (a b:TC)
 |jx (A:Ann) (a b:TC)
 |cond (c:Nat) (a b:TC)
 |block (id:Nat) (b:TC)
 |zf (A:Ann) (id:Nat) (b:TC)
 |loop (A:Ann) (b:TC)
 |exit (id:Nat)
 |ret
 |defer (f:FuncId) (caps:List Operand) (t:Nat)
 |adj (l:List Adj) (c:TC)
 |split (k off lo n:Nat) (c:TC)
 |bsp (t:Nat) (a b:TC)
 |unl (n:Nat) (b:TC)
 |jq
def Ux:Y uB->Nat->Nat
 |[],acc=>acc
 |o::r,acc=>Ux r (match o.dst with|some d=>acc|||gC d|none=>acc)
def PP:ι->Nat->Nat
 |[],acc=>acc
 |k::r,acc=>PP r (acc|||gC k)
def mS:Y Adj->Nat->Nat
 |[],acc=>acc
 |.nil k _ _::r,acc=>mS r (acc|||gC k)
 |.qc _ _ _ _::r,acc|.mpt _ _ _::r,acc|.pk _ _ _::r,acc=>mS r acc
 |.qx k _::r,acc=>mS r (acc|||gC k)
 |.fmp _ _ _ _::r,acc|.frw _ _ _ _::r,acc|.jg _ _::r,acc=>mS r acc
def TC.asg:TC->Nat->Nat
 |.jy ops _,acc=>Ux ops acc
 |.seq a b,acc=>b.asg (a.asg acc)
 |.jx A a b,acc=>b.asg (a.asg (PP A.ks acc))
 |.cond _ a b,acc=>b.asg (a.asg acc)
 |.block _ b,acc=>b.asg acc
 |.zf A _ b,acc|.loop A b,acc=>b.asg (PP A.ks acc)
 |.defer _ _ t,acc=>acc|||gC t
 |.adj l c,acc=>c.asg (mS l acc)
 |.split _ _ _ _ c,acc=>c.asg acc
 |.bsp _ a b,acc=>b.asg (a.asg acc)
 |.unl _ b,acc=>b.asg acc
 |.skip,acc|.exit _,acc|.ret,acc|.jq,acc=>acc
inductive aly where
 |j (A:Ann)
 |a (l:List Adj)
 |s (k off lo n:Nat)
 |b (t k off lo n:Nat)
 |u (n:Nat)
def LX (H:PT aly) (n:Nat) (c:TC):TC:=match H.get n with|some (.a l)=>.adj l c|some (.s k off z m)=>.split k off z m c|some (.b t k off z m)=>.bsp t (.split k off z m c) c|_=>c
def IB (H:PT aly):SC->Nat->TC×Nat
 |.skip,n=>(LX H n .skip,n+1)
 |.jy o p,n=>(LX H n (.jy o p),n+1)
 |.seq a b,n=>match IB H a (n+1) with
  |(z,k)=>(match IB H b k with|(b',D)=>((match H.get n with|some (.j A)=>.jx A z b'|_=>.seq z b'),D))
 |.cond c a b,n=>match IB H a (n+1) with
  |(z,k)=>(match IB H b k with|(b',D)=>(LX H n (.cond c z b'),D))
 |.block id b,n=>match IB H b (n+1) with|(b',k)=>((match H.get n with|some (.j A)=>.zf A id b'|_=>.block id b'),k)
 |.loop b,n=>match IB H b (n+1) with|(b',k)=>((match H.get n with|some (.j A)=>.loop A b'|some (.u m)=>.unl m b'|_=>.jq),k)
 |.exit id,n=>(LX H n (.exit id),n+1)
 |.ret,n=>(LX H n .ret,n+1)
 |.defer f c t,n=>(.defer f c t,n+1)
 |.jq,n=>(.jq,n+1)
def ajg (s:TS) (k off:Nat):M (IntKind×Int):=match s.e.get k with
 |some (.f (.int kd) v)=>Z (kd,v)
 |some (.H a o)=>(match s.h.get a with
  |some (.C (Z _) l)=>(match l[o+off]? with|some (.f (.int kd) v)=>Z (kd,v)|_=>U)
  |_=>U)
 |_=>U
def YN (s:TS) (k off:Nat) (kd:IntKind) (v:Int):M TS:=match s.e.get k with
 |some (.f (.int _) _)=>Z ⟨s.e.set k (Z (.f (.int kd) v)),s.h,s.nx⟩
 |some (.H a o)=>(match s.h.get a with
  |some (.C (Z ty) l)=>Z ⟨s.e,s.h.set a (Z (.C (Z ty) (splice l (o+off) [.f (.int kd) v]))),s.nx⟩
  |_=>U)
 |_=>U
def spl (v:Int) (f:Nat->M R):Nat->Nat->M R
 |_,0=>U
 |i,m+1=>aJ (decide ((v:Int)=aS i)) (f i) (spl v f (i+1) m)
def amh (f:TS->(Ex->TS->M R)->M R):Nat->TS->(Ex->TS->M R)->M R
 |0,_,_=>U
 |m+1,s,K=>f s λex s'=>match ex with
  |.normal=>amh f m s' K
  |ex=>K ex s'
def oK {R:Type} (np:Nat) (con:FuncId->M cA) (ca:TypeId->M Ty) (inert:FuncId->Bool):TC->TS->(Ex->TS->M R)->M R
 |.skip,s,K=>K .normal s
 |.jy ops prs,s,K=>PH con ca ops s [] λs' D=>if Je D prs then K .normal s' else U
 |.seq a b,s,K=>oK np con ca inert a s λex s'=>match ex with|.normal=>oK np con ca inert b s' K|ex=>K ex s'
 |.jx A a b,s,K=>jn (oK np con ca inert a s λex s'=>match ex with
   |.normal=>aA (Qk np A (a.asg 0) s s') λx=>Z (.inr x)
   |ex=>aA (K ex s') λr=>Z (.inl r)) λx=>(match Kt A (a.asg 0) s x with|some s'=>oK np con ca inert b s' K|none=>U)
 |.cond c a b,s,K=>match s.e.get c with
  |some (.f .bool t)=>aJ t (oK np con ca inert a s K) (oK np con ca inert b s K)
  |some .qw=>IR (oK np con ca inert a s K) (oK np con ca inert b s K)
  |_=>U
 |.block id b,s,K=>oK np con ca inert b s λex s'=>match ex with
  |.exit i=>if aB i id then K .normal s' else K (.exit i) s'
  |ex=>K ex s'
 |.zf A id b,s,K=>jn (oK np con ca inert b s λex s'=>match ex with
   |.normal=>aA (Qk np A (b.asg 0) s s') λx=>Z (.inr x)
   |.exit i=>if aB i id then aA (Qk np A (b.asg 0) s s') λx=>Z (.inr x) else aA (K (.exit i) s') λr=>Z (.inl r)
   |.ret=>aA (K .ret s') λr=>Z (.inl r)) λx=>(match Kt A (b.asg 0) s x with|some s'=>K .normal s'|none=>U)
 |.loop A b,s,K=>aA (Qk np A (b.asg 0) s s) λx=>iter (λx=>match Kt A (b.asg 0) s x with
   |some s'=>oK np con ca inert b s' λex s'=>(match ex with
    |.normal=>aA (Qk np A (b.asg 0) s s') λy=>Z (.inl y)
    |ex=>aA (K ex s') λr=>Z (.inr r))
   |none=>U) x
 |.exit id,s,K=>K (.exit id) s
 |.ret,s,K=>K .ret s
 |.defer f _ t,s,K=>if inert f then K .normal ⟨s.e.set t U,s.h,s.nx⟩ else U
 |.adj l c,s,K=>match X8 s l with|some s'=>oK np con ca inert c s' K|none=>U
 |.split k off z n c,s,K=>match ajg s k off with
  |some (kd,v)=>spl v (λi=>match YN s k off kd (aS i) with|some s'=>oK np con ca inert c s' K|none=>U) z n
  |none=>U
 |.bsp t a b,s,K=>match s.e.get t with
  |some (.f .bool v)=>aJ v (oK np con ca inert a ⟨s.e.set t (Z (.f .bool J)),s.h,s.nx⟩ K) (oK np con ca inert b ⟨s.e.set t (Z (.f .bool af)),s.h,s.nx⟩ K)
  |_=>U
 |.unl n b,s,K=>amh (λs K=>oK np con ca inert b s K) n s K
 |.jq,_,_=>U
def O0:Nat->Y TV->hX
 |_,[]=>PT.leaf
 |k,x::r=>(O0 (k+1) r).set k (Z x)
def rvT (s:TS):RV->M TV
 |.tmp t=>s.e.get t
 |.cell a sz z=>match s.e.get a with
  |some (.H id off)=>(match s.h.get id with|some (.C (Z _) l)=>ae5 l off sz z|_=>U)
  |_=>U
def Va (s:TS):Y RV->M (Y TV)
 |[]=>Z []
 |x::r=>match rvT s x with|some v=>(match Va s r with|some l=>Z (v::l)|none=>U)|none=>U
structure FT where
 pre:Tm
 post:Tm
 hints:PT aly
def ax8 (D:FT):Y Adj:=match D.hints.get 60000 with
 |some (.a l)=>l
 |_=>[]
def ahg (con:FuncId->M cA) (ca:TypeId->M Ty) (inert:FuncId->Bool) (F:M SF) (D:FT) (x:D.pre.ty.den):M D.post.ty.den:=
 match F with
 |some z=>(match DY D.pre x with
  |some (args,h)=>if eK (l! args) z.nt&&eK (l! D.pre.bs) (l! D.post.bs) then
    oK (l! D.pre.bs) con ca inert (IB D.hints z.code 0).1 ⟨O0 0 args,h,l! D.pre.bs⟩ λex s=>(match ex with
    |.exit _=>U
    |_=>(match X8 s (ax8 D) with
     |some s=>(match Va s z.res with
      |some l=>(match E8 (l! D.pre.bs) D.post l s.h with
       |some ⟨y,_,_,_⟩=>(match DY D.post y with|some _=>Z y|none=>U)
       |none=>U)
      |none=>U)
     |none=>U)) else U
  |none=>U)
 |none=>U
def fR {u:Value} (h:cz V O w (.f (.raw v)) u):u=v:=by
 cases h with
 |f h=>cases h;rfl
def vR (h:HF) (z:HF):fw h [] z=h:=by funext t;simp[fw]
def Kg:∀{l:ξ},OQ l=J->∀v∈l,v.oneCell'=J
 |[],_,v,z=>by cases z
 |x::r,h,v,z=>by
  simp[OQ,au]at h;rcases a_.1 z with rfl|z
  .exact h.1
  .exact Kg h.2 v z
def aa1 (v:Value):cz V O w (IK v) v:=by
 unfold IK;split
 .rename_i vs;split
  .rename_i h1;refine cz.agg (vs:=vs.toList) (by simp) (λx z=>?_) (λj x v z A=>?_)
   .obtain⟨u,D,rfl⟩:=cu.1 z;exact Kg h1 u D
   .rw[bE,A]at z;simp[bx,ah]at z;subst z;exact .f (.raw _)
  .exact .f (.raw _)
 .exact .f (.raw _)
variable {c:Operand}
def xB {e:ED} {xs:Array Operand} (hrep:sE V O A w) (h:∀t,.tmp t∈xs->∀y,e.get t=Z y->cz V (tot O V A) w y (S.tmps.getD t undef)) (D:c∈xs) (z:mN e c=Z y):cz V (tot O V A) w y (S.eval c):=by
 cases c with
 |tmp t=>exact h t D y z
 |const v=>simp[mN,ah]at z;subst z;exact aa1 v
 |func g=>
  simp[mN,ah]at z;subst z;exact cz.qv (vs:=[]) (g:=g) (cells:=[]) rfl (by simp)
 |global g=>
  simp[mN]at z;cases h':G g with
  |none=>rw[h']at z;cases z
  |some cells=>rw[h']at z;simp[ah]at z;subst z;exact .f (hrep.gl g cells h')
abbrev Rel (φ:PM) (E:Nat->Prop) (h':HF) (w:World) (a:Act) (e:ED) (o:Oper):Prop:=∀x y,x∈o.op.operands->mN e x=Z y->cz φ (tot E φ h') w y (a.eval x)
def gO.reads {o:Oper} {e:ED} {h:HF} {rd:ι} 
 (N:∀(φ:PM) (E:Nat->Prop) (h':HF) (w:World) (a:Act),(∀i∈rd,h' i=h i)->Rel φ E h' w a e o->sE φ E h' w->
   ∃v,(execOp a.eval o).run P w= .ok (.value v) w/\cz φ (tot E φ h') w y v):gO P o e.get h ⟨y,rd,[],A,[]⟩:=by
 intro φ E h' w a h1 h2 h3 z h5;let⟨v,r,rel⟩:=N φ E h' w a h1 (λx val L D=>xB z h3 L D) z;unfold Lk;rw[r];refine ⟨v,φ,rfl,?_,λ_ _ h=>.inl h,?_,?_⟩<;>rw[vR]
 .exact jW.refl _ _ _
 .exact z
 .exact rel
def dJ {R:EB} (h:rv y=Z R):R=⟨y,[],[],[],[]⟩:=by simp only[rv,ah]at h;exact h.symm
section pure
variable {P:Program} {o:Oper} {e:ED} {h:mU} {nx:Nat} {R:EB}
def axn (z:o.op= .move c\/o.op= .assign c) (A:dO (.mv c) e h nx=Z R):gO P o e.get h.get R.eff:=by
 simp[dO]at A;split at A
 next v D=>rw[dJ A];exact gO.reads λφ E h' w a _ hop _=>⟨a.eval c,by unfold execOp;rcases z with z|z<;>rw[z]<;>rfl,hop c v (by rcases z with z|z<;>rw[z]<;>simp[Op.operands]) D⟩
 .cases A
def atv {x y:Operand} (A:o.op= .pick c x y) (z:dO (.pick c x y) e h nx=Z R):gO P o e.get h.get R.eff:=by
 simp[dO]at z;split at z
 .rename_i t L;split at z
  .rename_i v D;rw[dJ z];refine gO.reads λφ E h' w a _ hop _=>?_
   have hcv:=fR (hop c _ (by rw[A];simp[Op.operands]) L);refine ⟨a.eval (if t then x else y),?_,hop _ v (by rw[A];cases t<;>simp[Op.operands]) D⟩;unfold execOp;rw[A];simp[hcv];cases t<;>rfl
  .cases z
 .cases z
def atw (A:o.op= .nilCheck c) (D:dO (.jz c) e h nx=Z R):gO P o e.get h.get R.eff:=by
 simp[dO]at D;split at D
 .rename_i id off N;rw[dJ D];refine gO.reads λφ E h' w a _ hop _=>?_
  have h1:=hop c _ (by rw[A];simp[Op.operands]) N;generalize L:a.eval c=z at h1;cases h1 with
  |H hφ=>exact⟨_,by unfold execOp;rw[A];simp only[L];rfl,.H hφ⟩
 .rename_i cells off N;rw[dJ D];refine gO.reads λφ E h' w a _ hop _=>?_
  have h1:=hop c _ (by rw[A];simp[Op.operands]) N;generalize L:a.eval c=z at h1;cases h1 with
  |f h1=>
   have h2:=h1;cases h2 with
   |H _ _ b base us hO hb hcl hu hr=>exact⟨_,by unfold execOp;rw[A];simp only[L];rfl,.f h1⟩
 .rename_i g cap N;rw[dJ D];refine gO.reads λφ E h' w a _ hop _=>?_
  have h1:=hop c _ (by rw[A];simp[Op.operands]) N;generalize L:a.eval c=z at h1;cases h1 with
  |qv hl hr=>exact⟨_,by unfold execOp;rw[A];simp only[L];rfl,.qv hl hr⟩
 .cases D
variable {s:TypeId}
def axl (A:o.op= .unOp .not s c) (z:dO (.not c) e h nx=Z R):gO P o e.get h.get R.eff:=by
 simp[dO]at z;split at z
 .rename_i b D;rw[dJ z];refine gO.reads λφ E h' w a _ hop _=>?_
  have h1:=fR (hop c _ (by rw[A];simp[Op.operands]) D);exact⟨_,by unfold execOp;rw[A];simp[h1];rfl,.f (.raw _)⟩
 .cases z
def BK (k:IntKind) (n:Int):bn k n=k.wrap n:=by
 rw[Ln];unfold Q6;split
 .split
  .rename_i h;simp[dz,au,bS]at h;have:p_ .i64 n=if n%18446744073709551616≥9223372036854775808 then n%18446744073709551616-18446744073709551616 else n%18446744073709551616:=by
    simp[p_,IntKind.bits,IntKind.signed]
   rw[this];split<;>omega
  .rfl
 .split
  .rename_i h;simp[dz,au,bS]at h;have:p_ .u8 n=n%256:=by
    simp[p_,IntKind.bits,IntKind.signed]
   omega
  .rfl
 .rfl
def au3 {d:TypeId} {k D:IntKind} (A:o.op= .convert s d c) (N:P.underlying s=Z (.int D)) (hd:P.underlying d=Z (.int k)) (z:dO (.conv k c) e h nx=Z R):gO P o e.get h.get R.eff:=by
 simp[dO]at z;split at z
 .rename_i kk n L;rw[dJ z];refine gO.reads λφ E h' w a _ hop _=>?_
  have h1:=fR (hop c _ (by rw[A];simp[Op.operands]) L);refine ⟨_,?_,.f (.raw _)⟩;unfold execOp;rw[A];simp[h1,convert,run_underlying N,run_underlying hd,Conv.intToInt,BK]
 .cases z
def Uv (a:ByteArray):a.toList=a.data.toList:=by
 first|exact ByteArray.toList_eq a|simp[ByteArray.toList]|rfl
def ahs {op:BinOp} {t:TypeId} {u r:Value} (z:wX op u v=Z r) (x y:Operand) (w:World):
 (do eqGuard op t x y u v;binOp op t u v:Sem Value).run P w= .ok r w:=by
 unfold wX at z;split at z
 .rename_i k a D b;split at z
  .rename_i N;have A:k=D:=by grind
   subst A;split at z<;>first|(simp [ah]at z;subst z;simp[eqGuard,binOp,Op.intCmp,Op.intArith,BK,dz,gF];done)|(split at z<;>first|(cases z;done)|(rename_i L;simp[ah]at z;subst z;simp[eqGuard,binOp,Op.intDiv,BK,show b≠0 from by simpa using L];done))|(cases z;done)
  .cases z
 next a b=>split at z<;>first|(simp [ah]at z;subst z;simp[eqGuard,binOp,Op.stringOp,tU,Uv];done)|(cases z;done)
 .cases z
def aqk {s:Sem Value} {w':World} (z:s.run P w= .ok v w'):(do let x<-s;pure (Next.value x):Sem Next).run P w= .ok (.value v) w':=by
 simp[z]
def arj {op:BinOp} {y:Operand} {D:TypeId} (A:o.op= .binOp op s c y D) (z:dO (.bin op c y) e h nx=Z R):gO P o e.get h.get R.eff:=by
 simp[dO]at z;split at z
 .rename_i u v N L;split at z
  .rename_i r hr;rw[dJ z];refine gO.reads λφ E h' w a _ hop _=>?_
   have h1:=fR (hop c _ (by rw[A];simp[Op.operands]) N);have h2:=fR (hop y _ (by rw[A];simp[Op.operands]) L);refine ⟨r,?_,.f (.raw _)⟩;unfold execOp;rw[A];simp only[h1,h2];exact aqk (ahs (P:=P) (t:=s) hr c y w)
  .cases z
 .cases z
def ZH (z:P.underlying s=Z .bool) (u v:Bool) (w:World):(Op.equal s (.bool u) (.bool v)).run P w= .ok (u==v) w:=by
 have key:∀d,(Op.equalIn (d+1) s (.bool u) (.bool v)).run P w= .ok (u==v) w:=λd=>by simp[Op.equalIn,run_underlying z]
 exact key 9999
def WN {D:TypeId} (z:P.underlying s=Z (.slice D)) (A:M Addr) (n c:Nat) (w:World):(Op.equal s (.slice A n c) (.slice U 0 0)).run P w= .ok A.isNone w:=by
 have key:∀d,(Op.equalIn (d+1) s (.slice A n c) (.slice U 0 0)).run P w= .ok A.isNone w:=λd=>by cases A<;>simp[Op.equalIn,run_underlying z]
 exact key 9999
def ari {neg:Bool} {op:BinOp} {y:Operand} {D:TypeId} (A:o.op= .binOp op s c y D) (hop:op=if neg then .neq else .eql) (hu:P.underlying s=Z .bool) (z:dO (.xx neg c y) e h nx=Z R):gO P o e.get h.get R.eff:=by
 simp[dO]at z;split at z
 .rename_i u v N L;rw[dJ z];refine gO.reads λφ E h' w a _ hp _=>?_
  have h1:=fR (hp c _ (by rw[A];simp[Op.operands]) N);have h2:=fR (hp y _ (by rw[A];simp[Op.operands]) L);refine ⟨_,?_,.f (.raw _)⟩;unfold execOp;rw[A];simp[h1,h2];subst hop;cases neg<;>simp[eqGuard,binOp,ZH hu]
 .cases z
def adm {neg:Bool} {op:BinOp} {y:Operand} {t' el:TypeId} (ho:o.op= .binOp op s c y t') (hop:op=if neg then .neq else .eql) (hy:y= .const (.slice U 0 0)) (hu:P.underlying s=Z (.slice el)) (L:dO (.zn neg c) e h nx=Z R):gO P o e.get h.get R.eff:=by
 have key:∀(v:Value) (w:World) (ρ:Operand->Value) (A:M Addr) (n x:Nat),ρ c= .slice A n x->ρ y= .slice U 0 0->(execOp ρ o).run P w= .ok (.value (.bool (A.isNone !=neg))) w:=by
  intro v w ρ A n x h1 h2;unfold execOp;rw[ho];simp[h1,h2];subst hop;cases neg<;>simp[eqGuard,binOp,WN hu]
 have hyv:∀a:Act,a.eval y= .slice U 0 0:=λa=>by rw[hy];rfl
 simp[dO]at L;split at L
 .rename_i id sz n D;rw[dJ L];refine gO.reads λφ E h' w a _ hp _=>?_
  have h1:=hp c _ (by rw[ho];simp[Op.operands]) D;generalize N:a.eval c=z at h1;cases h1 with
  |G hφ hn hc hs=>exact⟨_,key (.bool J) w a.eval _ _ _ N (hyv a),by simpa[raw] using cz.f (.raw _)⟩
 .rename_i id off n D;rw[dJ L];refine gO.reads λφ E h' w a _ hp _=>?_
  have h1:=hp c _ (by rw[ho];simp[Op.operands]) D;generalize N:a.eval c=z at h1;cases h1 with
  |sl hφ hn hc=>exact⟨_,key (.bool J) w a.eval _ _ _ N (hyv a),by simpa[raw] using cz.f (.raw _)⟩
 .rename_i cells n D;rw[dJ L];refine gO.reads λφ E h' w a _ hp _=>?_
  have h1:=hp c _ (by rw[ho];simp[Op.operands]) D;generalize N:a.eval c=z at h1;cases h1 with
  |f h1=>
   cases h1 with
   |sl=>exact⟨_,key (.bool J) w a.eval _ _ _ N (hyv a),by simpa[raw] using cz.f (.raw _)⟩
 .rename_i cells D;rw[dJ L];refine gO.reads λφ E h' w a _ hp _=>?_
  have h1:=hp c _ (by rw[ho];simp[Op.operands]) D;generalize N:a.eval c=z at h1;cases h1 with
  |f h1=>
   cases h1 with
   |_=>exact⟨_,key (.bool J) w a.eval _ _ _ N (hyv a),.qw⟩
 .rename_i D;rw[dJ L];refine gO.reads λφ E h' w a _ hp _=>?_
  have h1:=hp c _ (by rw[ho];simp[Op.operands]) D;generalize N:a.eval c=z at h1;cases h1 with
  |emp=>exact⟨_,key (.bool J) w a.eval _ _ _ N (hyv a),.qw⟩
 .rename_i v D;split at L
  .rename_i hv;rw[dJ L];refine gO.reads λφ E h' w a _ hp _=>?_
   have h1:=fR (hp c _ (by rw[ho];simp[Op.operands]) D);unfold Dh at hv;split at hv
   .exact⟨_,key (.bool J) w a.eval _ _ _ h1 (hyv a),by simpa[raw] using cz.f (.raw _)⟩
   .cases hv
  .cases L
 .cases L
def ig (z:fY P s=Z i) (w:World):(sizeOf s).run P w= .ok i w:=by
 unfold fY at z;cases hi:P.info? s with
 |none=>rw[hi]at z;cases z
 |some sz=>rw[hi]at z;simp at z;simp[sizeOf,typeInfo,program,hi,lj,z]
def Vc (z:K9 P s=Z b) (w:World):(isAgg s).run P w= .ok b w:=by
 unfold K9 at z;cases hi:P.underlying s with
 |none=>rw[hi]at z;cases z
 |some d=>
  rw[hi]at z;simp[bx,ah]at z;rw[<- z];simp[isAgg,fE,run_underlying hi,c4];cases d<;>rfl
def mg (b off i:Nat):(⟨b,off,U⟩:Addr).add i=⟨b,off+i,U⟩:=by
 unfold Addr.add;split<;>simp_all
variable {E:Array Field}
def Vb {f:Field} (A:P.underlying s=Z (.struct E)) (hf:E[i]? =Z f) (D:fY P f.type=Z j) (h0:j≠0) (w:World) (b k:Nat):
 (Instr.fieldAt s (.pointer (Z ⟨b,k,U⟩)) i).run P w= .ok (.pointer (Z ⟨b,k+f.offset,U⟩)) w:=by
 have h1:=ig D w;simp[Instr.fieldAt,run_underlying A,hf,Instr.sureAddr,fieldPlace,h1,h0,mg]
def axw {f:Field} (ho:o.op= .fieldAddr s c i) (N:P.underlying s=Z (.struct E)) (hf:E[i]? =Z f) (hs:fY P f.type=Z j) (h0:j≠0) (A:dO (.jm f.offset c) e h nx=Z R):gO P o e.get h.get R.eff:=by
 have key:∀(w:World) (ρ:Operand->Value) (b k:Nat),ρ c= .pointer (Z ⟨b,k,U⟩)->(execOp ρ o).run P w= .ok (.value (.pointer (Z ⟨b,k+f.offset,U⟩))) w:=by
  intro w ρ b k h1;unfold execOp;rw[ho];simp only[h1];exact aqk (Vb N hf hs h0 w b k)
 simp[dO]at A;split at A
 .rename_i id off L;rw[dJ A];refine gO.reads λφ fs h' w a _ hp _=>?_
  have h1:=hp c _ (by rw[ho];simp[Op.operands]) L;generalize D:a.eval c=z at h1;cases h1 with
  |H hφ=>exact⟨_,key w a.eval _ _ D,.H hφ⟩
 .rename_i cells off L;rw[dJ A];refine gO.reads λφ fs h' w a _ hp _=>?_
  have h1:=hp c _ (by rw[ho];simp[Op.operands]) L;generalize D:a.eval c=z at h1;cases h1 with
  |f h1=>
   cases h1 with
   |H _ _ b base us hO hb hcl N hr=>
    refine ⟨_,key w a.eval _ _ D,.f ?_⟩;rw[uH];exact .H cells _ b base us hO hb hcl N hr
 .cases A
def Ny {z:TypeId} {y:Operand} {off n x:Nat} {k:IntKind} {sz:Int} {ρ:Operand->Value} (ho:o.op= .indexAddr s c y) (L:P.underlying s=Z (.slice z)) (N:fY P z=Z i) (D:ρ c= .slice (Z ⟨j,off,U⟩) n x) (A:ρ y= .int k sz) (h0:0<=sz) (h1:sz<n):
 (execOp ρ o).run P w= .ok (.value (.pointer (Z ⟨j,off+sz.toNat*i,U⟩))) w:=by
 have h2:=ig N w;unfold execOp;rw[ho];simp[D,A,Instr.indexAt,asIntOf,run_underlying L,h2,h0,h1,mg]
def axv {el:TypeId} {y:Operand} (N:o.op= .indexAddr s c y) (hu:P.underlying s=Z (.slice el)) (hs:fY P el=Z i) (A:dO (.jp i c y) e h nx=Z R):gO P o e.get h.get R.eff:=by
 simp[dO]at A;split at A
 .rename_i v k j hx hy;have hyv:∀{φ:PM} {E:Nat->Prop} {h':HF} {w:World} {a:Act},Rel φ E h' w a e o->a.eval y= .int k j:=λhp=>fR (hp y _ (by rw[N];simp[Op.operands]) hy)
  split at A
  .split at A
   .rename_i id sz' n L;simp[dz,gF,au,bS,c5]at L;obtain⟨⟨rfl,h0⟩,h1⟩:=L;rw[dJ A];refine gO.reads λφ E h' w a _ hp _=>?_
    have D:=hp c _ (by rw[N];simp[Op.operands]) hx;generalize hz:a.eval c=z at D;cases D with
    |G hφ hn hc' hsh=>
     refine ⟨_,Ny N hu hs hz (hyv hp) h0 h1,?_⟩;rw[b9];exact .H hφ
   .cases A
  .split at A
   .rename_i id off n L;simp[dz,gF,au,bS]at L;let⟨h0,h1⟩:=L;rw[dJ A];refine gO.reads λφ E h' w a _ hp _=>?_
    have D:=hp c _ (by rw[N];simp[Op.operands]) hx;generalize hz:a.eval c=z at D;cases D with
    |sl hφ hn hc'=>exact⟨_,Ny N hu hs hz (hyv hp) h0 h1,.H hφ⟩
   .cases A
  .split at A
   .rename_i cells n L;simp[dz,gF,au,bS]at L;let⟨h0,h1⟩:=L;rw[dJ A];refine gO.reads λφ E h' w a _ hp _=>?_
    have D:=hp c _ (by rw[N];simp[Op.operands]) hx;generalize hz:a.eval c=z at D;cases D with
    |f D=>
     cases D with
     |nil=>omega
     |sl _ _ x b base us hn hc' hO hb hcl hu' hr'=>exact⟨_,Ny N hu hs hz (hyv hp) h0 h1,.f (.H cells _ b base us hO hb hcl hu' hr')⟩
   .cases A
  .cases A
 .cases A
def au1 {el:TypeId} {y:Operand} (L:o.op= .indexAddr s c y) (hu:P.underlying s=Z (.array i el)) (hs:fY P el=Z j) (A:dO (.jk i j c y) e h nx=Z R):gO P o e.get h.get R.eff:=by
 have key:∀(w:World) (ρ:Operand->Value) (b off:Nat) (k:IntKind) (n:Int),ρ c= .pointer (Z ⟨b,off,U⟩)->ρ y= .int k n->0<=n->n<i->(execOp ρ o).run P w= .ok (.value (.pointer (Z ⟨b,off+n.toNat*j,U⟩))) w:=by
  intro w ρ b off k n h1 h2 h3 h4;have h5:=ig hs w;unfold execOp;rw[L];simp[h1,h2,Instr.indexAt,asIntOf,run_underlying hu,h5,h3,h4,mg,Instr.sureAddr]
 simp[dO]at A;split at A
 .rename_i v k sz hx hy;split at A
  .rename_i hc;simp[dz,gF,au,bS]at hc;let⟨h0,h1⟩:=hc;split at A
   .rw[dJ A];refine gO.reads λφ E h' w a _ hp _=>?_
    have D:=hp c _ (by rw[L];simp[Op.operands]) hx;have hyv:=fR (hp y _ (by rw[L];simp[Op.operands]) hy);generalize N:a.eval c=z at D;cases D with
    |H hφ=>exact⟨_,key w a.eval _ _ k sz N hyv h0 h1,.H hφ⟩
   .rw[dJ A];refine gO.reads λφ E h' w a _ hp _=>?_
    have D:=hp c _ (by rw[L];simp[Op.operands]) hx;have hyv:=fR (hp y _ (by rw[L];simp[Op.operands]) hy);generalize N:a.eval c=z at D;cases D with
    |f D=>
     cases D with
     |H _ _ b base us hO hb hcl hu' hr'=>
      refine ⟨_,key w a.eval _ _ k sz N hyv h0 h1,.f ?_⟩;rw[uH];exact .H _ _ b base us hO hb hcl hu' hr'
   .cases A
  .cases A
 .cases A
def axx (L:o.op= .extract c i) (A:dO (.ext c i) e h nx=Z R):gO P o e.get h.get R.eff:=by
 simp[dO]at A;split at A
 .rename_i l hx;split at A
  .rename_i v hv;rw[dJ A];refine gO.reads λφ E h' w a _ hp _=>?_
   have D:=hp c _ (by rw[L];simp[Op.operands]) hx;generalize N:a.eval c=z at D;cases D with
   |@qg _ vs hl hrr=>
    have hlt:i<l! vs:=by grind
    refine ⟨vs[i],?_,hrr i v _ hv (aH hlt)⟩;unfold execOp;rw[L];simp[N,Instr.extract,hlt]
  .cases A
 .cases A
def axs {y:Operand} {D:Array TypeId} (A:o.op= .call {callee:=.builtin .max,args:=#[c,y],argTypes:=D}) (z:dO (.max c y) e h nx=Z R):gO P o e.get h.get R.eff:=by
 simp[dO]at z;split at z
 .rename_i k a b k' N L;rw[dJ z];refine gO.reads λφ E h' w a _ hp _=>?_
  have h1:=fR (hp c _ (by rw[A];simp[Op.operands,eX]) N);have h2:=fR (hp y _ (by rw[A];simp[Op.operands,eX]) L);refine ⟨_,?_,.f (.raw _)⟩;unfold execOp;rw[A];simp[resolve,invoke,builtin,Builtin.max_,Builtin.max2,h1,h2,gF]
 .cases z
def axr {y:Operand} {D:Array TypeId} (A:o.op= .call {callee:=.builtin .min,args:=#[c,y],argTypes:=D}) (z:dO (.min c y) e h nx=Z R):gO P o e.get h.get R.eff:=by
 simp[dO]at z;split at z
 .rename_i k a b k' N L;rw[dJ z];refine gO.reads λφ E h' w a _ hp _=>?_
  have h1:=fR (hp c _ (by rw[A];simp[Op.operands,eX]) N);have h2:=fR (hp y _ (by rw[A];simp[Op.operands,eX]) L);refine ⟨_,?_,.f (.raw _)⟩;unfold execOp;rw[A];simp[resolve,invoke,builtin,Builtin.min_,Builtin.min2,h1,h2,gF]
 .cases z
def axm {k:IntKind} (L:o.op= .unOp .neg s c) (A:dO (.bin .sub (.const (.int k 0)) c) e h nx=Z R):gO P o e.get h.get R.eff:=by
 simp[dO,mN,IK]at A;split at A
 .rename_i u v hu N;cases hu;split at A
  .rename_i r z;rw[dJ A];refine gO.reads λφ E h' w a _ hop _=>?_
   have h1:=fR (hop c _ (by rw[L];simp[Op.operands]) N);refine ⟨r,?_,.f (.raw _)⟩;unfold execOp;rw[L];cases v<;>simp only[wX]at z<;>try (cases z;done)
   split at z
   next D=>have D:=eq_of_beq D;subst D;simp[ah]at z;subst z;simp[h1,Op.unary,Op.intArith,BK]
   .cases z
  .cases A
 .cases A
def atu {i:Operand} (A:o.op= .index s c i) (N:P.underlying s=Z .string) (z:dO (.jv c i) e h nx=Z R):gO P o e.get h.get R.eff:=by
 simp only[dO]at z;split at z
 .rename_i t k j L hi;split at z
  .rename_i h0;simp[dz,bS]at h0;split at z
   .rename_i b D;rw[dJ z];refine gO.reads λφ E h' w a _ hop _=>?_
    have h1:=fR (hop c _ (by rw[A];simp[Op.operands]) L);have h2:=fR (hop i _ (by rw[A];simp[Op.operands]) hi);refine ⟨_,?_,.f (.raw _)⟩;have hs:t[j.toNat]? =Z b:=by
     rw[dj]at D;let⟨hl,he⟩:=dD.1 D;exact getElem?_pos t j.toNat hl▸e_ Z he
    unfold execOp;rw[A];simp[Instr.index,run_underlying N,h1,h2,asIntOf,h0,hs]
   .cases z
  .cases z
 .cases z
variable {f:FuncId}
def axq {caps:Array Operand} (L:o.op= .makeFunc (.func f) #[] caps) (A:dO (.mkf f caps.toList) e h nx=Z R):gO P o e.get h.get R.eff:=by
 simp[dO]at A;split at A
 .rename_i l N;rw[dJ A];refine gO.reads λφ E h' w a _ hp _=>?_
  refine ⟨_,by unfold execOp;rw[L];rfl,?_⟩;have key:∀(xs:Y Operand) (z:Y AV),(∀x∈xs,x∈o.op.operands)->evs e xs=Z z->l! z=l! xs/\∀(j:Nat) x v,z[j]? =Z x->(xs.map a.eval)[j]? =Z v->cz φ (tot E φ h') w x v:=by
   intro xs;induction xs with
   |nil=>intro z _ h;simp[evs,ah]at h;subst h;exact⟨rfl,λj x v D=>by simp at D⟩
   |cons x xs ih=>
    intro z hm h;simp[evs]at h
    grind
  let⟨h1,h2⟩:=key caps.toList l (λx D=>by rw[L];simpa[Op.operands] using D) N;have h3:(caps.map a.eval)=(caps.toList.map a.eval).toArray:=by grind
  have h4:(#[]:Array Operand).map a.eval=#[]:=by simp
  rw[h4,h3];exact .qv (by grind) h2
 .cases A
end pure
section
variable {P:Program} {o:Oper} {e:ED} {h:mU} {nx:Nat} {R:EB}
def ab2 {α:Type} {l cs:Y α} (h:i+j<=l! l) (he:(l.drop i).take j=cs):l! cs=j/\∀(sz:Nat) x,cs[sz]? =Z x->l[i+sz]? =Z x:=by grind
def Ax (f:Nat->Value) (n j:Nat) (v:Value) (h:((dG n).map f)[j]? =Z v):v=f j/\j<n:=by grind
def AT (φ:PM) (O:Nat->Prop) (w:World) (c:BC) (f:Nat->M Value):Prop:=∀j x,c.get j=Z x->x.isCell=J/\∃v,f j=Z v/\cz φ O w x v
def ab1 {c:BC} (z:c.sub? i j b=Z y) {f:Nat->M Value} (hc:AT V O w c f):
 ∃cs:ξ,l! cs=j/\(∀(sz:Nat) v,cs[sz]? =Z v->f (i+sz)=Z v)/\(b=af->j=1)/\cz V O w y (if b then .agg cs.toArray else cs.getD 0 undef):=by
 cases b with
 |false=>
  simp[BC.sub?]at z;split at z
  .obtain⟨h0,v,h1,D⟩:=hc i y z;exact⟨[v],rfl,λsz u hu=>by cases sz with|zero=>simp at hu;subst hu;exact h1|succ sz=>simp at hu,λ_=>rfl,by simpa using D⟩
  .cases z
 |true=>
  have fin:∀(g:Nat->M AV),(∀sz,sz<j->∃x,g sz=Z x/\c.get (i+sz)=Z x)->
   ∃cs:ξ,l! cs=j/\(∀(sz:Nat) v,cs[sz]? =Z v->f (i+sz)=Z v)/\∀(sz:Nat) x v,g sz=Z x->cs[sz]? =Z v->cz V O w x v:=by
   intro g L;refine ⟨(dG j).map λsz=>(f (i+sz)).getD undef,by simp,λsz v hv=>?_,λsz x v N hv=>?_⟩
   .obtain⟨rfl,A⟩:=Ax _ _ _ _ hv;let⟨x,_,D⟩:=L sz A;let⟨_,v,h3,_⟩:=hc _ _ D;rw[h3];rfl
   .obtain⟨rfl,A⟩:=Ax _ _ _ _ hv;let⟨x',h1,D⟩:=L sz A;rw[N]at h1;cases h1;let⟨_,v,h3,h4⟩:=hc _ _ D;rw[h3];exact h4
  simp only[BC.sub?]at z;split at z
  .rename_i l;split at z
   .rename_i hle;simp[ah]at z;subst z;let⟨hl,L⟩:=ab2 (aY hle) (rfl:(l.drop i).take j=_);let⟨cs,h1,D,h3⟩:=fin (λsz=>(((l.drop i).take j)[sz]?).map AV.f) (λsz A=>by
     have hlt:sz<l! ((l.drop i).take j):=by omega
     refine ⟨.f ((l.drop i).take j)[sz],by simp[aH hlt,bx],?_⟩;simp[BC.get,L sz _ (aH hlt),bx])
    refine ⟨cs,h1,D,nofun,.f (.agg _ _ (by omega) ?_ ?_)⟩
    .intro x N;let⟨sz,A⟩:=gm N;exact (hc (i+sz) (.f x) (by simp[BC.get,L sz x A,bx])).1
    .intro sz x v N hv;have:=h3 sz (.f x) v (by grind) hv;cases this with
     |f h=>exact h
   .cases z
  .rename_i l;split at z
   .rename_i hle;simp[ah]at z;subst z;let⟨hl,L⟩:=ab2 (aY hle) (rfl:(l.drop i).take j=_);let⟨cs,h1,D,h3⟩:=fin (λsz=>(((l.drop i).take j)[sz]?)) (λsz A=>by
     have hlt:sz<l! ((l.drop i).take j):=by omega
     exact⟨_,aH hlt,L sz _ (aH hlt)⟩)
    refine ⟨cs,h1,D,nofun,.agg (by omega) ?_ ?_⟩
    .intro x N;let⟨sz,A⟩:=gm N;exact (hc (i+sz) x (L sz x A)).1
    .omega
   .cases z
  .cases z
variable {s:TypeId}
def SH (N:fY P s=Z i) (ha:K9 P s=Z b) (w:World) (z off:Nat) (cs:ξ) (A:l! cs=i) (D:∀(j:Nat) v,cs[j]? =Z v->w.cell? ⟨z,off+j,U⟩=Z v) (h1:b=af->i=1):
 (loadVar s ⟨z,off,U⟩).run P w= .ok (if b then .agg cs.toArray else cs.getD 0 undef) w:=by
 unfold loadVar;simp[fE,Vc ha w,c4];cases b with
 |true=>
  simp[bq,fE,ig N w,c4];rw[<- A,run_loadCells_list (P:=P) w ⟨z,off,U⟩ cs (λj v L=>by rw[mg];exact D j v L)];rfl
 |false=>
  have h1:=h1 rfl;cases cs with
  |nil=>simp at A;omega
  |cons v r=>
   have:=D 0 v rfl;simp_all
def MF {φ:PM} {z:Bool} (D:fY P s=Z i) (ha:K9 P s=Z z) {c:BC} {b base:Nat} (A:c.sub? j i z=Z y)
 (N:AT φ O w c λoff=>w.cell? ⟨b,base+off,U⟩):∃v,(loadVar s ⟨b,base+j,U⟩).run P w= .ok v w/\cz φ O w y v:=by
 let⟨cs,h1,h2,h3,h4⟩:=ab1 A N;exact⟨_,SH D ha w b (base+j) cs h1 (λoff v L=>by rw[uH];exact h2 off v L) h3,h4⟩
def XX (hrep:sE V O A w) (L:A i=Z Q) (h':V i=Z j) (D:Q.c.isCells=J):AT V (tot O V A) w Q.c λk=>w.cell? ⟨j,0+k,U⟩:=by
 let⟨k',h1,_,h2⟩:=hrep.at_ i Q L;rw[h']at h1;cases h1;let⟨arr,h3,h4,N⟩:=h2.cells D;intro k x z;let⟨c1,v,c2,c3⟩:=N k x z;exact⟨c1,v,by simp[Sl,h3,c2],c3⟩
def aa7 {cells:Y FV} {D:Nat->Value} (hcl:∀x∈cells,x.isCell=J) (L:∀base,base<l! cells->w.cell? ⟨i,j+base,U⟩=Z (D base)) (N:∀(base:Nat) x,cells[base]? =Z x->nN O w x (D base)):
 AT V O w (.fz cells) λbase=>w.cell? ⟨i,j+base,U⟩:=by
 intro base y z;simp only[BC.get]at z;cases A:cells[base]? with
 |none=>rw[A]at z;cases z
 |some q=>
  rw[A]at z;simp at z;subst z;have hj:base<l! cells:=(bA.1 A).1;exact⟨hcl q (ba A),D base,L base hj,.f (N base q A)⟩
def UW {c:BC} (h:c.sub? i j b=Z y):c.isCells=J:=by
 cases c with
 |fz|mx=>rfl
 |_=>cases b<;>simp[BC.sub?,BC.get]at h<;>(try split at h)<;>cases h
def X6 (hs:fY P s=Z i) (hag:K9 P s=Z b) (z:xM h i b y=Z R):
 R.wr=[]/\R.nw=[]/\R.N=[]/\∀(φ:PM) (E:Nat->Prop) (h':HF) (w:World) (D:Value),(∀sz∈R.rd,h' sz=h.get sz)->sE φ E h' w->cz φ (tot E φ h') w y D->
  ∃ad v,D= .pointer (Z ad)/\(loadVar s ad).run P w= .ok v w/\cz φ (tot E φ h') w R.val v:=by
 unfold xM at z;split at z
 .rename_i id off;split at z
  .rename_i ag hb;split at z
   .rename_i v L;simp[ah]at z;subst z;refine ⟨rfl,rfl,rfl,λφ E h' w D hrd hrep A=>?_⟩;have hh:h' id=Z ag:=by grind
    cases A with
    |@H _ _ k hφ=>
     let⟨u,h1,h2⟩:=MF hs hag (w:=w) (b:=k) (base:=0) L (XX hrep hh hφ (UW L))
     grind
   .cases z
  .cases z
 .rename_i cells off;split at z
  .rename_i v L;rw[dJ z];refine ⟨rfl,rfl,rfl,λφ E h' w D hrd hrep A=>?_⟩;cases A with
   |f A=>
    cases A with
    |H _ _ ag base us hO hb hcl hu A=>
     let⟨u,h1,h2⟩:=MF (φ:=φ) (O:=tot E φ h') hs hag (w:=w) (b:=ag) (base:=base) L (aa7 hcl hu A);exact⟨_,u,rfl,h1,h2⟩
  .cases z
 .cases z
def aty (A:o.op= .load s c) (hs:fY P s=Z i) (hag:K9 P s=Z b) (z:dO (.load i b c) e h nx=Z R):gO P o e.get h.get R.eff:=by
 simp[dO]at z;split at z
 .rename_i p L;let⟨h1,h2,h3,h4⟩:=X6 hs hag z;let⟨val,rd,wr,nw,N⟩:=R;subst h1 h3;refine gO.reads λφ E h' w a hrd hp hrep=>?_
  let⟨ad,v,h5,h6,h7⟩:=h4 φ E h' w _ hrd hrep (hp c _ (by rw[A];simp[Op.operands]) L);refine ⟨v,?_,h7⟩;unfold execOp;rw[A];simp[Instr.loadAt,h5,Instr.sureAddr,h6]
 .cases z
variable {L:ξ}
def abi {φ:PM} (D:fY P s=Z i) (hag:K9 P s=Z b) {c:BC} (A:c.sub? j i b=Z y) 
 (vs:AT φ O w c λoff=>L[off]?):∃v,(part s L.toArray j).run P w= .ok v w/\cz φ O w y v:=by
 let⟨cs,h1,h2,h3,N⟩:=ab1 A vs;refine ⟨_,?_,N⟩;unfold part;simp only[fE,Vc hag w,c4];cases b with
 |true=>
  simp only[bq,fE,ig D w,c4];have:L.toArray.extract j (j+i)=cs.toArray:=by
   apply Array.ext';apply pZ
   grind
  rw[this];rfl
 |false=>
  have h5:=h3 rfl;cases cs with
  |nil=>simp at h1;omega
  |cons v r=>
   have:=h2 0 v rfl;simp_all
variable {B:Y AV}
def XY (vs:l! L=l! B) (hcl:∀x∈B,x.isCell=J) (D:∀(j:Nat) x v,B[j]? =Z x->L[j]? =Z v->cz V O w x v):AT V O w (.mx B) λj=>L[j]? :=by
 intro j x z;simp[BC.get]at z;have A:j<l! L:=by grind
 exact⟨hcl x (ba z),L[j],aH A,D j x _ z (aH A)⟩
def Ut {l:Y FV} (N:l! L=l! l) (hcl:∀x∈l,x.isCell=J) (vs:∀(j:Nat) x v,l[j]? =Z x->L[j]? =Z v->nN O w x v):AT V O w (.fz l) λj=>L[j]? :=by
 intro j x z;simp only[BC.get]at z;cases A:l[j]? with
 |none=>rw[A]at z;cases z
 |some q=>
  rw[A]at z;simp at z;subst z;have D:j<l! L:=by grind
  exact⟨hcl q (ba A),L[j],aH D,.f (vs j q _ A (aH D))⟩
def aah (hs:fY P s=Z i) (hag:K9 P s=Z b) (A:cz V O w y v) {val:AV}
 (D:(∃l,y= .agg l/\(BC.mx l).sub? j i b=Z val)\/(∃l,y= .f (.agg l)/\(BC.fz l).sub? j i b=Z val)):∃cs z,v= .agg cs/\(part s cs j).run P w= .ok z w/\cz V O w val z:=by
 rcases D with ⟨l,rfl,D⟩|⟨l,rfl,D⟩
 .cases A with
  |agg L hcl A=>
   let⟨z,h1,N⟩:=abi hs hag D (XY L hcl A);exact⟨_,z,rfl,h1,N⟩
 .cases A with
  |f A=>
   cases A with
   |agg _ vs L hcl A=>
    let⟨z,h1,N⟩:=abi (φ:=V) hs hag D (Ut L hcl A);exact⟨_,z,rfl,h1,N⟩
def axu {L:TypeId} {y:Operand} (D:o.op= .index s c y) (hu:P.underlying s=Z (.array i L)) (N:fY P L=Z j) (hag:K9 P L=Z b) (z:dO (.idx i j b c y) e h nx=Z R):gO P o e.get h.get R.eff:=by
 simp[dO]at z;split at z
 .rename_i v0 k sz hx hy;split at z
  .rename_i hc;simp[dz,gF,au,bS]at hc;let⟨h0,h1⟩:=hc;have fin:∀(val:AV),((∃l,v0= .agg l/\(BC.mx l).sub? (sz.toNat*j) j b=Z val)\/(∃l,v0= .f (.agg l)/\(BC.fz l).sub? (sz.toNat*j) j b=Z val))->rv val=Z R->gO P o e.get h.get R.eff:=by
    intro val hv hR;rw[dJ hR];refine gO.reads λφ E h' w a _ hp _=>?_
    have hyv:=fR (hp y _ (by rw[D];simp[Op.operands]) hy);let⟨cs,v,h3,h4,h5⟩:=aah N hag (hp c _ (by rw[D];simp[Op.operands]) hx) hv;refine ⟨v,?_,h5⟩;have h6:=ig N w;unfold execOp;rw[D];simp[Instr.index,run_underlying hu,hyv,asIntOf,h3,h0,h1,h6,h4]
   grind
  .cases z
 .cases z
def au0 {el:TypeId} (ho:o.op= .call {callee:=.builtin .len,args:=#[c],argTypes:=#[s]}) (hu:P.underlying s=Z (.slice el)) (L:dO (.len c) e h nx=Z R):gO P o e.get h.get R.eff:=by
 simp[dO]at L;split at L
 .rename_i y hx;split at L
  .rename_i n N;rw[dJ L];refine gO.reads λφ E h' w a _ hp _=>?_
   have D:=hp c _ (by rw[ho];simp[Op.operands,eX]) hx;refine ⟨_,?_,.f (.raw _)⟩;have hz:∃A x,a.eval c= .slice A n x:=by
    generalize a.eval c=z at D;unfold AV.slen at N;split at N<;>try (simp [ah]at N;subst N)
    .cases D with
     |f D=>cases D with
      |nil|sl=>exact⟨_,_,rfl⟩
    .cases fR D;exact⟨_,_,rfl⟩
    .cases D;exact⟨_,_,rfl⟩
    .cases D;exact⟨_,_,rfl⟩
    .cases D;exact⟨_,_,rfl⟩
    .cases N
   let⟨A,x,hz⟩:=hz;unfold execOp;rw[ho];simp[resolve,invoke,builtin,Builtin.len_,run_underlying hu,hz,goInt]
  .cases L
 .cases L
def atz (A:o.op= .call {callee:=.builtin .len,args:=#[c],argTypes:=#[s]}) (L:P.underlying s=Z .string) (z:dO (.lens c) e h nx=Z R):gO P o e.get h.get R.eff:=by
 simp[dO]at z;split at z
 .rename_i t D;rw[dJ z];refine gO.reads λφ E h' w a _ hp _=>?_
  have N:=fR (hp c _ (by rw[A];simp[Op.operands,eX]) D);refine ⟨_,?_,.f (.raw _)⟩;unfold execOp;rw[A];simp[resolve,invoke,builtin,Builtin.len_,run_underlying L,N,goInt]
 .cases z
end
structure IY (w w':World) (k:Nat) (ob:Obj):Prop where
 os:w'.os=w.os
 tape:w'.tape=w.tape
 output:w'.output=w.output
 size:w'.heap.size=w.heap.size
 at_:w'.heap[k]? =Z ob
 other:∀j,j≠k->w'.heap[j]? =w.heap[j]?
 xj:∀j,w'.shape? j=w.shape? j
structure Yd (w w':World) (ob:Obj):Prop where
 os:w'.os=w.os
 tape:w'.tape=w.tape
 output:w'.output=w.output
 size:w'.heap.size=w.heap.size+1
 at_:w'.heap[w.heap.size]? =Z ob
 other:∀j,j<w.heap.size->w'.heap[j]? =w.heap[j]?
def sE.wset {w':World} (r:sE V O A w) {id:Nat} {b':kx} {ob:Obj} (hb:A id=Z Q) (L:V id=Z i) (h:IY w w' i ob) (hob:ic V (tot O V A) w b' ob) (D:HF) (hnw:D id=Z b'):
 jW V V A (fw A [id] D) w w'/\sE V O (fw A [id] D) w':=by
 have hdom:∀k,(∃x,fw A [id] D k=Z x)↔∃x,A k=Z x:=λk=>by
  unfold fw
  grind
 have hown:∀j,own V (fw A [id] D) j↔own V A j:=λj=>by
  constructor
  .rintro⟨k,x,h1,z⟩;let⟨y,hy⟩:=(hdom k).1 ⟨x,h1⟩;exact⟨k,y,hy,z⟩
  .rintro⟨k,x,h1,z⟩;let⟨y,hy⟩:=(hdom k).2 ⟨x,h1⟩;exact⟨k,y,hy,z⟩
 have m:jW V V A (fw A [id] D) w w':=by
  refine ⟨λ_ _ A=>A,⟨h.os,h.tape,h.output,by rw[h.size];exact bI _,λj hj ho=>?_,λj _=>h.xj j⟩,λj _ A=>(hown j).1 A⟩;exact h.other j (λe=>ho (e▸⟨id,Q,hb,L⟩))
 refine ⟨m,⟨λk j x y kk hi hj h1 z=>?_,λk x hi=>?_,λi L=>dC (r.el i L) m.ext.size,λg cells hg=>m.keepF (r.gl g cells hg)⟩⟩
 .obtain⟨x',hx'⟩:=(hdom k).1 ⟨x,hi⟩;let⟨y',hy'⟩:=(hdom j).1 ⟨y,hj⟩;exact r.inj k j x' y' kk hx' hy' h1 z
 .by_cases hid:k=id
  .subst hid;have:x=b':=by unfold fw at hi;simp[hnw]at hi;exact hi.symm
   subst this;let⟨N,h1,z,_⟩:=r.at_ k Q hb;rw[L]at h1;cases h1;exact⟨i,L,z,ob,h.at_,hob.mono λ_ _ A=>m.zj A⟩
  .have hx:A k=Z x:=by unfold fw at hi;simpa[hid] using hi
   let⟨N,h1,z,ob',h3,h4⟩:=r.at_ k x hx;have hne:N≠i:=λe=>hid (r.inj k id x Q i hx hb (e▸h1) L)
   exact⟨N,h1,z,ob',by rw[h.other N hne];exact h3,h4.mono λ_ _ A=>m.zj A⟩
def sE.wnew {w':World} (r:sE V O A w) {id:Nat} (hid:V id=U) {b:kx} {ob:Obj} (h:Yd w w' ob) (hob:ic V (tot O V A) w b ob) (del:ι) (L:HF) (hnw:L id=Z b) (hdel:∀i∈del,i≠id->L i=U):
 ∃φ',φ' id=Z w.heap.size/\jW V φ' A (fw A (id::del) L) w w'/\(∀i k,φ' i=Z k->V i=Z k\/i∈[id])/\sE φ' O (fw A (id::del) L) w':=by
 have hsub:∀i x,fw A (id::del) L i=Z x->i≠id->A i=Z x/\i∉del:=λi x hx hi=>by
  unfold fw at hx
  grind
 have hlt:∀i x k,A i=Z x->V i=Z k->k<w.heap.size:=λi x k hi hk=>by
  let⟨k',h1,_,ob',h3,_⟩:=r.at_ i x hi
  grind
 have hφ:∀i,i≠id->(if i=id then Z w.heap.size else V i)=V i:=λi hi=>by simp[hi]
 have m:jW V (λi=>if i=id then Z w.heap.size else V i) A (fw A (id::del) L) w w':=by
  refine ⟨λi k hk=>?_,⟨h.os,h.tape,h.output,by rw[h.size];omega,λj N _=>h.other j N,λj N=>?_⟩,?_⟩
  .grind
  .unfold tG;rw[h.other j N]
  .rintro j N ⟨i,x,h1,D⟩;by_cases hi:i=id
   .simp[hi]at D;omega
   .have h3:V i=Z j:=by simpa[hi] using D
    exact⟨i,x,(hsub i x h1 hi).1,h3⟩
 refine ⟨_,by simp,m,λi k hk=>?_,⟨λi j x y k hi N h1 D=>?_,λi x hi=>?_,λk hk=>dC (r.el k hk) m.ext.size,λg cells hg=>m.keepF (r.gl g cells hg)⟩⟩
 .grind
 .by_cases z:i=id
  .grind
  .rw[hφ i z]at h1;have hix:=(hsub i x hi z).1;by_cases hj':j=id
   .grind
   .rw[hφ j hj']at D;exact r.inj i j x y k hix (hsub j y N hj').1 h1 D
 .by_cases z:i=id
  .subst z;have:x=b:=by unfold fw at hi;simp[hnw]at hi;exact hi.symm
   subst this;refine ⟨w.heap.size,by simp,λhe=>?_,ob,h.at_,hob.mono λ_ _ A=>m.zj A⟩;have:=r.el _ he;omega
  .obtain⟨k,h1,D,ob',h3,h4⟩:=r.at_ i x (hsub i x hi z).1;refine ⟨k,by rw[hφ i z];exact h1,D,ob',?_,h4.mono λ_ _ A=>m.zj A⟩;rw[h.other k (hlt i x k (hsub i x hi z).1 h1)];exact h3
def sT (w:World) (ob:Obj):Yd w {w with heap:=w.heap.push ob} ob:=by
 refine ⟨rfl,rfl,rfl,by simp,by simp,λj z=>?_⟩
 grind
def Yd.drawn {w':World} {ob:Obj} (d:Nat) (h:Yd {w with drawn:=d} w' ob):Yd w w' ob:=⟨h.os,h.tape,h.output,h.size,h.at_,h.other⟩
def gO.makes {o:Oper} {e:ED} {rd:ι} 
 (N:∀(φ:PM) (E:Nat->Prop) (h':HF) (w:World) (a:Act),(∀nx∈rd,h' nx=A nx)->Rel φ E h' w a e o->sE φ E h' w->
   ∃v w' ob,(execOp a.eval o).run P w= .ok (.value v) w'/\Yd w w' ob/\ic φ (tot E φ h') w Q ob/\∀φ' O,φ' i=Z w.heap.size->cz φ' O w' y v):
 gO P o e.get A ⟨y,rd,[i],jQ [(i,Q)],[i]⟩:=by
 intro φ E h' w a h1 h2 h3 z h5;let⟨v,w',ob,hrun,L,hob,hval⟩:=N φ E h' w a h1 (λx val D h=>xB z h3 D h) z;let⟨φ',g1,g2,g3,g4⟩:=z.wnew (id:=i) (h5 i (by simp)) L hob [] (jQ [(i,Q)]) (by simp[jQ]) (by simp);unfold Lk;rw[hrun];exact⟨v,φ',rfl,g2,g3,g4,hval φ' _ g1⟩
def gO.writes {o:Oper} {e:ED} {rd:ι} {b':kx} (hb:A i=Z Q)
 (hv:∀(φ:PM) (E:Nat->Prop) (h':HF) (w:World) (a:Act),(∀id∈rd,h' id=A id)->h' i=Z Q->Rel φ E h' w a e o->sE φ E h' w->
   ∃r w' k ob,(execOp a.eval o).run P w= .ok r w'/\φ i=Z k/\IY w w' k ob/\ic φ (tot E φ h') w b' ob/\(∃v,(r= .value v\/r= .skip/\v=undef)/\cz φ (tot E φ (fw h' [i] (jQ [(i,b')]))) w' y v)):
 gO P o e.get A ⟨y,rd,[i],jQ [(i,b')],[]⟩:=by
 intro φ E h' w a h1 h2 h3 z h5;let⟨r,w',k,ob,hrun,hk,hw,hob,v,hr,hval⟩:=hv φ E h' w a h1 (by grind) (λx val N L=>xB z h3 N L) z;let⟨D,h⟩:=z.wset (id:=i) (by rw[h2 i (by simp)];exact hb) hk hw hob (jQ [(i,b')]) (by simp[jQ]);unfold Lk;rw[hrun];rcases hr with rfl|⟨rfl,rfl⟩
 .exact⟨v,φ,rfl,D,λ_ _ A=>.inl A,h,hval⟩
 .exact⟨undef,φ,rfl,D,λ_ _ A=>.inl A,h,hval⟩
variable {B:Y AV}
def mR (h:gG B=J):∀x∈B,x.isCell=J:=by
 induction B with
 |nil=>intro x z;cases z
 |cons y B A=>
  simp[gG,au]at h
  grind
def nI:∀{l:Y AV} {z:Y FV},zF l=Z z->l=z.map .f
 |[],z,h=>by simp[zF,ah]at h;subst h;rfl
 |.f x::r,z,h=>by
  simp[zF]at h;split at h
  next l A=>simp[ah]at h;subst h;rw[nI A];rfl
  .cases h
 |.H _ _::_,_,h|.sl _ _ _::_,_,h|.G _ _ _::_,_,h|.mp _::_,_,h|.emp::_,_,h|.agg _::_,_,h|.qg _::_,_,h|.qv _ _::_,_,h=>by simp[zF]at h
def Cs (φ:PM) (O:Nat->Prop) (w:World) (l:Y AV) (vs:ξ):Prop:=l! vs=l! l/\(∀x∈l,x.isCell=J)/\∀(j:Nat) x v,l[j]? =Z x->vs[j]? =Z v->cz φ O w x v
def BC.get_toMx {c:BC} (z:c.isCells=J) (j:Nat):c.get j=c.toMx[j]? :=by
 cases c with
 |fz l=>simp[BC.get,BC.toMx]
 |mx l=>rfl
 |_=>cases z
def BC.len_toMx {c:BC} (z:c.isCells=J):c.len=l! c.toMx:=by
 cases c with
 |fz l=>simp[BC.len,BC.toMx]
 |mx l=>rfl
 |_=>cases z
def nF (l:Y AV):(oz l).toMx=l/\(oz l).isCells=J:=by
 unfold oz;cases h:zF l with
 |none=>exact⟨rfl,rfl⟩
 |some z=>exact⟨(nI h).symm,rfl⟩
variable {s:TypeId}
def rJ {c:BC} (z:c.isCells=J) {arr:Array Value} (N:l! c.toMx<=arr.size)
 (h:∀(j:Nat) x,c.toMx[j]? =Z x->x.isCell=J/\∃v,arr[j]? =Z v/\cz V O w x v):ic V O w ⟨s,c⟩ (.cells arr s (0,0)):=by
 have D:vH V O w c arr:=⟨by rw[BC.len_toMx z];exact N,λj x L=>h j x (by rw[<- BC.get_toMx z];exact L)⟩
 cases A:c with
 |fz l|mx l=>rw[A]at D;exact⟨arr,rfl,D⟩
 |_=>rw[A]at z;cases z
variable {L:ξ}
def Mr {ty:TypeId} (h:Cs V O w B L):ic V O w ⟨ty,oz B⟩ (.cells L.toArray ty (0,0)):=by
 let⟨h1,D⟩:=nF B;refine rJ D (by rw[h1];simp[h.1]) λj x z=>?_
 rw[h1]at z;have A:j<l! L:=by rw[h.1];exact (bA.1 z).1
 exact⟨h.2.1 x (ba z),L[j],by simp[A],h.2.2 j x _ z (aH A)⟩
def ZL (h:cz V O w y v) (A:gG y.cs=J):Cs V O w y.cs v.cells.toList:=by
 have one:y.cs=[y]->v.cells=#[v]->Cs V O w y.cs v.cells.toList:=λh1 h2=>by
  rw[h1]at A ⊢;rw[h2];exact⟨rfl,mR A,λj x u z D=>by cases j with|zero=>simp at z D;subst z D;exact h|succ j=>simp at z⟩
 cases h with
 |qg _ _=>exact bC A (by simp[AV.cs,gG,AV.isCell])
 |@agg l vs hl hcl L=>exact⟨hl,hcl,L⟩
 |@f x u hf=>
  cases hf with
  |raw v=>
   have hv:v.oneCell'=J:=by
    have:(AV.f (.raw v)).cs=[.f (.raw v)]:=rfl;rw[this]at A;simpa[gG,AV.isCell,FV.isCell] using A
   refine one rfl ?_;cases v<;>first|rfl|simp[Value.oneCell']at hv
  |agg l vs hl hcl L=>
   refine ⟨by simp[AV.cs,Value.cells,hl],mR A,λj x u z D=>?_⟩;simp only[AV.cs,bE]at z;cases N:l[j]? with
   |none=>rw[N]at z;cases z
   |some q=>rw[N]at z;simp at z;subst z;exact .f (L j q u N (by simpa[Value.cells] using D))
  |_=>exact one rfl rfl
 |_=>exact one rfl rfl
def nN.one {x:FV} (h:nN O w x v) (z:x.isCell=J):v.oneCell'=J:=by
 cases h with
 |raw v=>exact z
 |agg=>cases z
 |_=>rfl
def cz.one (h:cz V O w y v) (z:y.isCell=J):v.oneCell'=J:=by
 cases h with
 |f h=>exact h.one z
 |agg|qg=>cases z
 |_=>rfl
def Cs.one (h:Cs V O w B L):∀v∈L,v.oneCell'=J:=by
 intro v A;let⟨j,z⟩:=gm A;have hlt:j<l! B:=by rw[<- h.1];exact (bA.1 z).1
 exact (h.2.2 j _ v (aH hlt) z).one (h.2.1 _ (List.getElem_mem hlt))
def Cs.append {l':Y AV} {vs':ξ} (h:Cs V O w B L) (h':Cs V O w l' vs'):Cs V O w (B++l') (L++vs'):=by
 refine ⟨by simp[h.1,h'.1],λx z=>(bO.1 z).elim (h.2.1 x) (h'.2.1 x),λj x v z D=>?_⟩;rcases cJ j (l! B) with A|A
 .rw[bU A]at z;rw[bU (by rw[h.1];exact A)]at D;exact h.2.2 j x v z D
 .rw[cm A]at z;rw[cm (by rw[h.1];exact A),h.1]at D;exact h'.2.2 _ x v z D
def Cs.take (h:Cs V O w B L) (n:Nat):Cs V O w (B.take n) (L.take n):=by
 refine ⟨by simp[h.1],λx z=>h.2.1 x (pY z),λj x v z A=>?_⟩;rw[gx]at z A;split at z
 next D=>rw[aF D]at A;exact h.2.2 j x v z A
 .cases z
def Cs.drop (h:Cs V O w B L) (n:Nat):Cs V O w (B.drop n) (L.drop n):=by
 refine ⟨by simp[h.1],λx z=>h.2.1 x (List.mem_of_mem_drop z),λj x v z A=>?_⟩;rw[tH]at z A;exact h.2.2 _ x v z A
def Cs.splice {l':Y AV} {vs':ξ} (h:Cs V O w B L) (h':Cs V O w l' vs') (off:Nat):Cs V O w (splice B off l') (splice L off vs'):=by
 unfold AI.splice;rw[h'.1];exact ((h.take off).append h').append (h.drop _)
def Cs.raws {φ:PM} (z:ξ) (L:nY z=J):Cs φ O w (z.map raw) z:=by
 refine ⟨by simp,λx A=>?_,λj x v A D=>?_⟩
 .obtain⟨v,D,rfl⟩:=cu.1 A;exact iH.1 L v D
 .rw[bE]at A;rw[D]at A;simp at A;subst A;exact .f (.raw v)
def Cs.mono {φ':PM} {O':Nat->Prop} {w':World} (h:Cs V O w B L) (D:∀x v,cz V O w x v->cz φ' O' w' x v):Cs φ' O' w' B L:=⟨h.1,h.2.1,λj x v z A=>D _ _ (h.2.2 j x v z A)⟩
def IY.setRow {arr arr':Array Value} (A:w.heap[i]? =Z (.cells arr s (0,0))) (D:arr'.size=arr.size):IY w (w.setRow i arr') i (.cells arr' s (0,0)):=by
 refine ⟨rfl,rfl,rfl,by simp,setRow_heap w i arr arr' s (0,0) A,λj z=>setRow_other w i j arr' z,λj=>?_⟩;unfold tG;by_cases z:j=i
 .subst z;rw[setRow_heap w j arr arr' s (0,0) A,A];simp[D]
 .rw[setRow_other w i j arr' z]
section
variable {P:Program} {o:Oper} {e:ED} {h:mU} {nx:Nat} {R:EB}
def vI (A:u_ P s=Z L) (w:World):∃v,(zeroValue s).run P w= .ok v w/\v.cells.toList=L/\∃i,P.info? s=Z i/\i.zero=Z v:=by
 unfold u_ at A;cases hi:P.info? s with
 |none=>rw[hi]at A;cases A
 |some i=>
  rw[hi]at A;simp only[aD]at A;cases D:i.zero with
  |none=>rw[D]at A;cases A
  |some v=>
   rw[D]at A;simp[bx,ah]at A;exact⟨v,by simp[zeroValue,typeInfo,hi,D],A,i,rfl,D⟩
def apg (ho:o.op= .alloc s) (N:u_ P s=Z L) (hc:nY L=J) (z:dO (.alloc s L) e h nx=Z R):gO P o e.get h.get R.eff:=by
 simp[dO,ah]at z;subst z;refine gO.makes λφ E h' w a _ _ _=>?_
 let⟨v,h1,h2,_⟩:=vI N w;refine ⟨.pointer (Z ⟨w.heap.size,0,U⟩),{w with heap:=w.heap.push (.cells v.cells s)},.cells v.cells s (0,0),?_,sT w _,?_,λφ' O hφ=>.H hφ⟩
 .unfold execOp;rw[ho];simp[Instr.alloc,h1,newVar,newRow,newObj,lj]
 .have A:BC.toMx (.fz (L.map .raw))=L.map raw:=by simp[BC.toMx,raw]
  refine rJ rfl (by grind) λj x D=>?_
  rw[A]at D;have cs:=Cs.raws (φ:=φ) (O:=tot E φ h') (w:=w) L hc;have hj:j<l! L:=by grind
  refine ⟨cs.2.1 x (ba D),L[j],?_,cs.2.2 j x _ D (aH hj)⟩
  grind
def ay1 (A:o.op= .box s c) (z:dO (.box s c) e h nx=Z R):gO P o e.get h.get R.eff:=by
 simp[dO]at z;split at z
 .rename_i v D;split at z
  .rename_i N;simp[ah]at z;subst z;refine gO.makes λφ E h' w a _ hp _=>?_
   have L:=ZL (hp c _ (by rw[A];simp[Op.operands]) D) N;refine ⟨.pointer (Z ⟨w.heap.size,0,U⟩),{w with heap:=w.heap.push (.cells (a.eval c).cells s)},.cells (a.eval c).cells s (0,0),?_,sT w _,?_,λφ' O hφ=>.H hφ⟩
   .unfold execOp;rw[A];simp[Instr.box,newVar,newRow,newObj,lj]
   .have:=Mr (ty:=s) L;simpa using this
  .cases z
 .cases z
def oc {α:Type} {l vs:Y α} {off:Nat} (hle:off+l! vs<=l! l) (j:Nat):(splice l off vs)[j]? =if j<off then l[j]? else if j<off+l! vs then vs[j-off]? else l[j]? :=by
 unfold splice
 grind
def nu {α:Type} {l vs:Y α} (hle:i+l! vs<=l! l):l! (splice l i vs)=l! l:=by
 unfold splice;simp;omega
def Wz (off:Nat):∀(vs:ξ) (k:Nat) (arr:Array Value),off+k+l! vs<=arr.size->∀j:Nat,
 ((vs.zipIdx k).foldl (λcs (p:Value×Nat)=>cs.setIfInBounds (off+p.2) p.1) arr)[j]? =if j<off+k then arr[j]? else if j<off+k+l! vs then vs[j-(off+k)]? else arr[j]?
 |[],k,arr,_,j=>by simp_all
 |v::vs,k,arr,hle,j=>by
  rw[List.zipIdx_cons,zX,Wz off vs (k+1) _ (by grind) j]
  grind
def Wy (off:Nat) (c:Array Value) (l:ξ) (hle:off+c.size<=l! l):(c.zipIdx.foldl (λcs (p:Value×Nat)=>cs.setIfInBounds (off+p.2) p.1) l.toArray)=(splice l off c.toList).toArray:=by
 rw[<- Array.foldl_toList,Array.toList_zipIdx];apply Array.ext_getElem?;intro j;rw[Wz off c.toList 0 l.toArray (by omega) j];simp only[dI,List.getElem?_toArray];rw[oc (by omega)]
def TY (hp:Rel V O A w S e o) {place:Nat->M p?}:∀(z:Y I?) (ps':Y m?) (cells cs:Y AV) (vs:ξ),
 (l! ps'=l! z)->(∀(j:Nat) i x,z[j]? =Z (i,x)->∃of sz,ps'[j]? =Z (of,sz,x)/\place i=Z (of,sz))->(∀p∈z,p.2∈o.op.operands)->Cs V (tot O V A) w cells vs->Cj cells e ps'=Z cs->
 ∃vs',Instr.fill place vs.toArray (z.map λp=>(p.1,S.eval p.2))=Z vs'.toArray/\Cs V (tot O V A) w cs vs'
 |[],ps',cells,cs,vs,N,_,_,hcs,hf=>by
  cases ps' with
  |nil=>simp[Cj,ah]at hf;subst hf;exact⟨vs,rfl,hcs⟩
  |cons _ _=>simp at N
 |(i,x)::z,ps',cells,cs,vs,N,hpl,hm,hcs,hf=>by
  obtain⟨of,sz,h1,h2⟩:=hpl 0 i x rfl;cases ps' with
  |nil=>simp at h1
  |cons p ps'=>
   simp at h1;subst h1;simp only[Cj]at hf;split at hf
   .rename_i v hv;split at hf
    .rename_i hc;simp only[au,c5]at hc;obtain⟨⟨hc1,D⟩,h'⟩:=hc;have L:=ZL (hp x v (hm _ (dk ..)) hv) h';have hsz:(S.eval x).cells.size=sz:=by have:=L.1;simp at this;omega
     have hle:of+sz<=l! vs:=by rw[hcs.1];exact aY D
     obtain⟨vs',g1,g2⟩:=TY hp z ps' _ cs _ (by grind) (λj i x hj=>by have:=hpl (j+1) i x (by grind);simpa using this) (λp hp=>hm p (cg _ hp)) (hcs.splice L of) hf;refine ⟨vs',?_,g2⟩;simp only[ch,Instr.fill,h2];have hcd:((decide ((S.eval x).cells.size≠sz))||decide (of+(S.eval x).cells.size>vs.toArray.size))=af:=by grind
     rw[ax (by grind)];have:=Wy of (S.eval x).cells vs (by omega);rw[<- g1,<-this]
    .cases hf
   .cases hf
def HX :∀(z:Y I?) (ps':Y m?),Af P s z=Z ps'->l! ps'=l! z/\∀(j:Nat) i x,z[j]? =Z (i,x)->∃of sz,ps'[j]? =Z (of,sz,x)/\EU P s i=Z (of,sz)
 |[],ps',h=>by simp[Af,ah]at h;subst h;exact⟨rfl,λj i x N=>by simp at N⟩
 |(i,x)::z,ps',h=>by
  simp[Af]at h;split at h
  .rename_i of sz l h1 h2;simp[ah]at h;subst h;let⟨g1,g2⟩:=HX z l h2;refine ⟨by simp[g1],λj L D A=>?_⟩;cases j with
   |zero=>simp at A;obtain⟨rfl,rfl⟩:=A;exact⟨of,sz,rfl,h1⟩
   |succ j=>simpa using g2 j L D (by grind)
  .cases h
def Mx (w:World):∀(z:Y Field),(z.all λf=>(fY P f.type).isSome)=J->(z.mapM (λf=>do pure (f.offset,<-sizeOf f.type)):Sem (Y p?)).run P w= .ok (z.map λf=>(f.offset,(fY P f.type).getD 0)) w
 |[],_=>by simp
 |f::z,h=>by
  simp only[List.all_cons,au]at h;let⟨sz,A⟩:=qS.1 h.1;have h1:=ig A w;have D:=Mx w z h.2;simp_all
def adn {z:Array I?} {ps':Y m?} (ho:o.op= .build s z) (hz:u_ P s=Z L) (hc:nY L=J) (hps:Af P s z.toList=Z ps')
 (D:(∃A,P.underlying s=Z (.struct A)/\(A.toList.all λf=>(fY P f.type).isSome)=J)\/∃n el sz,P.underlying s=Z (.array n el)/\fY P el=Z sz) (ha:dO (.build L ps') e h nx=Z R):gO P o e.get h.get R.eff:=by
 simp[dO]at ha;split at ha
 .rename_i cs hf;rw[dJ ha];refine gO.reads λφ E h' w a _ hp _=>?_
  let⟨v,h1,h2,_⟩:=vI hz w;have hcells:v.cells=L.toArray:=by rw[<- h2]
  let⟨g1,g2⟩:=HX z.toList ps' hps;have hops:∀p∈z.toList,p.2∈o.op.operands:=λp hp=>by
   rw[ho];simp only[Op.operands,List.mem_toArray,cu];exact⟨p,hp,rfl⟩
  have hmap:(z.map λx:Nat×Operand=>(x.1,a.eval x.2)).toList=z.toList.map λp=>(p.1,a.eval p.2):=by simp
  have fin:∀place:Nat->M p?,(∀i,EU P s i≠U->place i=EU P s i)->∃vs':ξ,Instr.fill place v.cells (z.map λx:Nat×Operand=>(x.1,a.eval x.2)).toList=Z vs'.toArray/\cz φ (tot E φ h') w (Rv cs) (.agg vs'.toArray):=by
   intro place hpl;let⟨vs',k1,k2⟩:=TY (place:=place) hp z.toList ps' _ cs L g1 (λj i x hj=>by
    let⟨of,sz,q1,q2⟩:=g2 j i x hj;exact⟨of,sz,q1,by rw[hpl i (by grind),q2]⟩) hops (Cs.raws L hc) hf
   refine ⟨vs',by rw[hmap,hcells];exact k1,?_⟩;unfold Rv;cases hfs:zF cs with
   |none=>exact .agg k2.1 k2.2.1 k2.2.2
   |some A=>
    have he:=nI hfs;refine .f (.agg A vs' (by rw[k2.1,he];simp) (λx hx=>k2.2.1 (.f x) (by grind)) λj x u hx D=>?_);have:=k2.2.2 j (.f x) u (by grind) D;cases this with
    |f h=>exact h
  rcases D with ⟨A,D,hall⟩|⟨n,el,sz,D,N⟩
  .obtain⟨vs',k1,k2⟩:=fin (λi=>(A.map λf=>(f.offset,(fY P f.type).getD 0))[i]?) (λi hi=>by
    unfold EU at hi ⊢;rw[D]at hi ⊢;simp[Array.getElem?_map]at hi ⊢;cases hf:A[i]? with
    |none=>rw[hf]at hi;simp at hi
    |some f=>
     simp[bx,aD];cases N:fY P f.type with
     |none=>rw[hf]at hi;simp[N]at hi
     |some sz=>simp)
   refine ⟨_,?_,k2⟩;have hm:=Mx w A.toList hall;have hm':(A.mapM (λf=>do pure (f.offset,<-sizeOf f.type)):Sem (Array p?)).run P w= .ok (A.map λf=>(f.offset,(fY P f.type).getD 0)) w:=by
    rw[Array.mapM_eq_mapM_toList];simp only[Sem.run_map,hm,c4];congr 1;apply Array.ext';simp
   unfold execOp;rw[ho];simp only[Instr.build,fE,h1,c4,run_underlying D,hm',w_,k1]
  .obtain⟨vs',k1,k2⟩:=fin (λi=>Z (i*sz,sz)) (λi hi=>by
    unfold EU;rw[D];simp[N])
   refine ⟨_,?_,k2⟩;have h3:=ig N w;unfold execOp;rw[ho];simp only[Instr.build,fE,h1,c4,run_underlying D,h3,w_,k1]
 .cases ha
end
section
variable {P:Program} {o:Oper} {e:ED} {h:mU} {nx:Nat} {R:EB}
def uy {z:TypeId} (h:D7 P s=Z z):P.underlying s=Z (.slice z):=by
 unfold D7 at h
 grind
def oe (z:ξ):∀n,l! (repl z n)=n*l! z
 |0=>by simp[repl]
 |n+1=>by simp[repl,oe z n,jF];omega
def FE (z:ξ):∀(n j:Nat),j<n*l! z->(repl z n)[j]? =(z[j%l! z]?).map .raw
 |0,j,h=>by simp at h
 |n+1,j,h=>by
  have D:0<l! z:=by grind
  rw[repl];rcases cJ j (l! z) with A|A
  .rw[bU (by grind),bE,xd A]
  .rw[cm (by grind),cq,FE z n (j-l! z) (by grind),Nat.mod_eq_sub_mod A]
def ady (D:v.cells.toList=L) (n sz:Nat) (z:l! L=sz) (hsz:sz≠0) (j:Nat) (N:j<n*sz):
 ((HA (n*sz)).map (λi=>v.cells[i%v.cells.size]!))[j]? =L[j%sz]? :=by
 have A:v.cells.size=sz:=by grind
 have hlt:j%sz<v.cells.size:=by rw[A];exact Nat.mod_lt _ (by omega)
 grind
def Cs.repl {φ:PM} (hv:v.cells.toList=L) (n sz:Nat) (N:l! L=sz) (hsz:sz≠0) (hc:nY L=J):
 Cs φ O w ((repl L n).map .f) ((HA (n*sz)).map (λi=>v.cells[i%v.cells.size]!)).toList:=by
 have key:∀(j:Nat) (x:AV),((AI.repl L n).map AV.f)[j]? =Z x->∃u,L[j%sz]? =Z u/\x=raw u/\j<n*sz:=by
  intro j x A;rw[bE]at A;have D:j<n*l! L:=by
   rcases cJ j (n*l! L) with h|h
   .exact h
   .rw[dL (by rw[oe];exact h)]at A;cases A
  rw[FE L n j D,N]at A;cases z:L[j%sz]? with
  |none=>rw[z]at A;cases A
  |some u=>rw[z]at A;simp at A;exact⟨u,rfl,A.symm,by rw[<- N];exact D⟩
 refine ⟨by simp[oe,N],λx A=>?_,λj x u A z=>?_⟩
 .obtain⟨j,D⟩:=gm A;obtain⟨u,h1,rfl,_⟩:=key j x D;exact iH.1 hc u (ba h1)
 .obtain⟨u',h1,rfl,D⟩:=key j x A;rw[dj,ady hv n sz N hsz j D,h1]at z;cases z;exact .f (.raw _)
def ay0 {D:TypeId} {A:Array I?} {ps':Y m?} (ho:o.op= .buildSlice s i A) (hu:P.underlying s=Z (.slice D)) (hz:u_ P D=Z L) (hs:fY P D=Z j) (hc:nY L=J) (hl:l! L=j) (hsz:j≠0) (hb:i*j<=65536)
 (hps:Af P s A.toList=Z ps') (z:dO (.xw D j i L ps') e h nx=Z R):gO P o e.get h.get R.eff:=by
 simp[dO]at z;split at z
 .rename_i cs hf;simp[ah]at z;subst z;refine gO.makes λφ E h' w a _ hp _=>?_
  let⟨v,h1,h2,_⟩:=vI hz w;let⟨g1,g2⟩:=HX A.toList ps' hps;have hops:∀p∈A.toList,p.2∈o.op.operands:=λp hp=>by
   rw[ho];simp only[Op.operands,List.mem_toArray,cu];exact⟨p,hp,rfl⟩
  have hmap:(A.map λx:Nat×Operand=>(x.1,a.eval x.2)).toList=A.toList.map λp=>(p.1,a.eval p.2):=by simp
  let⟨vs',k1,k2⟩:=TY (place:=λn=>Z (n*j,j)) hp A.toList ps' _ cs _ g1 (λsz n x hj=>by
   let⟨of,s',q1,N⟩:=g2 sz n x hj;unfold EU at N;rw[hu]at N;simp[hs]at N;obtain⟨rfl,rfl⟩:=N;exact⟨_,_,q1,rfl⟩) hops (Cs.repl h2 i j hl hsz hc) hf
  have hcells:(HA (i*j)).map ((if i*j=0 then #[] else v.cells)[·%(if i*j=0 then #[] else v.cells).size]!)=((HA (i*j)).map (λn=>v.cells[n%v.cells.size]!)).toList.toArray:=by grind
  have hlen:l! vs'=i*j:=by
   have e1:=k2.1;have e2:l! cs=l! ((AI.repl L i).map AV.f):=by
    have:∀(ps':Y m?) (c0 c1:Y AV),Cj c0 e ps'=Z c1->l! c1=l! c0:=by
     intro ps';induction ps' with
     |nil=>intro c0 c1 h;simp[Cj,ah]at h;rw[h]
     |cons p ps' ih=>
      intro c0 c1 h;simp[Cj]at h;split at h
      .split at h
       next hcc=>rw[ih _ _ h,nu (by simp_all)]
       .cases h
      .cases h
    exact this ps' _ _ hf
   rw[e1,e2];simp[oe,hl]
  refine ⟨.slice (Z ⟨w.heap.size,0,U⟩) i i,{w with heap:=w.heap.push (.cells vs'.toArray D)},.cells vs'.toArray D (0,0),?_,sT w _,Mr k2,λφ' O hφ=>?_⟩
  .have h3:=ig hs w;have hk:Instr.fill (λn=>Z (n*j,j)) ((HA (i*j)).map ((if i*j=0 then #[] else v.cells)[·%(if i*j=0 then #[] else v.cells).size]!)) (A.map λx:Nat×Operand=>(x.1,a.eval x.2)).toList=Z vs'.toArray:=by grind
   unfold execOp;rw[ho];simp only[Instr.buildSlice,fE,run_underlying hu,c4,h3];rw[ax (by omega)];by_cases h0:i*j=0
   .simp only[aF h0]at hk ⊢;simp only[fE,w_,c4,hk,newRow,newObj,lj]
   .simp only[ax h0]at hk ⊢;simp only[fE,w_,c4,h1,hk,newRow,newObj,lj]
  .simp only[];split
   next h0=>subst h0;exact .emp
   refine .G hφ (bI _) ?_ ⟨D,?_⟩
   .have:i<=i*j:=Nat.le_mul_of_pos_right _ (by omega);unfold maxLen;omega
   .unfold tG;simp[hlen]
 .cases z
end
def sE.wren {w':World} (r:sE V O A w) {k:Nat} {b':kx} {ob:Obj} (hb:A i=Z Q) (N:V i=Z k) (hnx:V j=U) (L:IY w w' k ob) (hob:ic V (tot O V A) w b' ob) (nw:HF) (hnw:nw j=Z b') (hnid:nw i=U):
 ∃φ',φ' j=Z k/\jW V φ' A (fw A [j,i] nw) w w'/\(∀id k,φ' id=Z k->V id=Z k\/id∈[j])/\sE φ' O (fw A [j,i] nw) w':=by
 have hne:j≠i:=λe=>by grind
 have hsub:∀id x,fw A [j,i] nw id=Z x->id≠j->A id=Z x/\id≠i:=λid x hx hi=>by
  unfold fw at hx
  grind
 have hφ:∀id,id≠j->(if id=j then Z k else V id)=V id:=λid hi=>by simp[hi]
 have m:jW V (λid=>if id=j then Z k else V id) A (fw A [j,i] nw) w w':=by
  refine ⟨λid k' hk'=>?_,⟨L.os,L.tape,L.output,by rw[L.size];exact bI _,λnx hj ho=>?_,λnx _=>L.xj nx⟩,?_⟩
  .grind
  .exact L.other nx (λe=>ho (e▸⟨i,Q,hb,N⟩))
  .rintro nx hj ⟨id,x,h1,D⟩;by_cases hi:id=j
   .simp[hi]at D;subst D;exact⟨i,Q,hb,N⟩
   .have h3:V id=Z nx:=by simpa[hi] using D
    exact⟨id,x,(hsub id x h1 hi).1,h3⟩
 refine ⟨_,by simp,m,λid k' hk'=>?_,⟨λid nx x y kk hi hj h1 D=>?_,λid x hi=>?_,λk N=>dC (r.el k N) m.ext.size,λg cells hg=>m.keepF (r.gl g cells hg)⟩⟩
 .grind
 .by_cases z:id=j
  .by_cases h:nx=j
   .rw[z,h]
   .exfalso;rw[hφ nx h]at D;simp[z]at h1;subst h1;let⟨q1,q2⟩:=hsub nx y hj h;exact q2 (r.inj nx i y Q k q1 hb D N)
  .rw[hφ id z]at h1;let⟨p1,p2⟩:=hsub id x hi z;by_cases h:nx=j
   .exfalso;simp[h]at D;subst D;exact p2 (r.inj id i x Q k p1 hb h1 N)
   .rw[hφ nx h]at D;exact r.inj id nx x y kk p1 (hsub nx y hj h).1 h1 D
 .by_cases z:id=j
  .subst z;have:x=b':=by unfold fw at hi;simp[hnw]at hi;exact hi.symm
   subst this;let⟨k',h1,D,_⟩:=r.at_ i Q hb;rw[N]at h1;cases h1;exact⟨k,by simp,D,ob,L.at_,hob.mono λ_ _ A=>m.zj A⟩
  .obtain⟨p1,p2⟩:=hsub id x hi z;let⟨k',h1,D,ob',h3,h4⟩:=r.at_ id x p1;have hne':k'≠k:=λe=>p2 (r.inj id i x Q k p1 hb (e▸h1) N)
   exact⟨k',by rw[hφ id z];exact h1,D,ob',by rw[L.other k' hne'];exact h3,h4.mono λ_ _ A=>m.zj A⟩
def sE.cs (hrep:sE V O A w) (hb:A i=Z Q) (N:V i=Z j) (z:Q.c.isCells=J):
 ∃arr,w.heap[j]? =Z (.cells arr Q.ty (0,0))/\Cs V (tot O V A) w Q.c.toMx (arr.toList.take (l! Q.c.toMx))/\l! Q.c.toMx<=arr.size:=by
 let⟨k',h1,_,h2⟩:=hrep.at_ i Q hb;rw[N]at h1;cases h1;let⟨arr,h3,L,D⟩:=h2.cells z;rw[BC.len_toMx z]at L;refine ⟨arr,h3,⟨by simp;omega,λx h'=>?_,λk x v h' hv=>?_⟩,L⟩
 .obtain⟨k,hj⟩:=gm h';exact (D k x (by rw[BC.get_toMx z];exact hj)).1
 .obtain⟨_,u,h6,h7⟩:=D k x (by rw[BC.get_toMx z];exact h')
  grind
section
variable {P:Program} {o:Oper} {e:ED} {h:mU} {nx:Nat} {R:EB}
def Sc (z:IQ P s=Z i):∃b,P.info? s=Z b/\b.bytes=i:=by
 unfold IQ at z;cases hi:P.info? s with
 |none=>rw[hi]at z;cases z
 |some b=>rw[hi]at z;simp at z;exact⟨b,rfl,z⟩
def L_ (h:bh i j=J):i<=1099511627776/\i*j<=1099511627776:=by
 simp[bh,au]at h;simp_all
variable {a:Int}
def ah2 (h1: -9223372036854775808<=a) (z:a<=9223372036854775807):p_ .i64 a=a:=by
 rw[<- BK];have:(dz (-9223372036854775808) a&&dz a 9223372036854775807)=J:=by simp[dz,h1,z]
 simp[Ln,Q6,this,bq]
def atx {A:TypeId} {l:Operand} (ho:o.op= .makeSlice s l c) (hu:P.underlying s=Z (.slice A)) (hz:u_ P A=Z L) (hs:fY P A=Z i) (hb:IQ P A=Z j) (hc:nY L=J) (hl:l! L=i) (hsz:i≠0)
 (D:dO (.zh A i j L l c) e h nx=Z R):gO P o e.get h.get R.eff:=by
 simp only[dO]at D;split at D
 .rename_i k1 n k2 m z hy;split at D
  .rename_i hcd;simp only[dz,au,bS]at hcd;let⟨⟨h0,h1⟩,h2⟩:=hcd;let⟨r1,r2⟩:=L_ h2;cases D;refine gO.makes λφ E h' w a _ hp _=>?_
   have e1:=fR (hp l _ (by rw[ho];simp[Op.operands]) z);have e2:=fR (hp c _ (by rw[ho];simp[Op.operands]) hy);let⟨v,z1,z2,_⟩:=vI hz w;let⟨sz,i1,i2⟩:=Sc hb;have s1:=ig hs w;have w1:p_ .i64 n=n:=ah2 (by omega) (by omega);have w2:p_ .i64 m=m:=ah2 (by omega) (by omega);have hbm:(j:Int)*m=((m.toNat*j:Nat):Int):=by grind
   have t1:¬(m<0\/(281474976710656:Int)<j*m):=by omega
   have hr:¬(m.toNat*j>roomBytes):=by unfold roomBytes;omega
   have hn0:m.toNat*i=0->m.toNat=0:=λh=>(Nat.mul_eq_zero.1 h).resolve_right hsz
   let cells:Array Value:=(HA (m.toNat*i)).map (λsz=>v.cells[sz%v.cells.size]!)
   refine ⟨.slice (Z ⟨w.heap.size,0,U⟩) n.toNat m.toNat,{w with heap:=w.heap.push (.cells cells A)},.cells cells A (0,0),?_,sT w _,?_,λφ' O hφ=>?_⟩
   .unfold execOp;rw[ho];by_cases hm0:m.toNat*i=0
    .obtain rfl:m=0:=by have:=hn0 hm0;omega
     simp[Instr.makeSlice,run_underlying hu,e1,e2,asInt,asIntOf,typeInfo,i1,w1,askRoom,s1,newRow,newObj,lj,cells]
     grind
    .simp[Instr.makeSlice,run_underlying hu,e1,e2,asInt,asIntOf,typeInfo,i1,i2,w1,w2,t1,show ¬n<0 by omega,show ¬m<n by omega,askRoom,hr,s1,hm0,z1,newRow,newObj,lj,cells]
   .have cs:=Cs.repl (φ:=φ) (O:=tot E φ h') (w:=w) z2 m.toNat i hl hsz hc;have hle:n.toNat<=m.toNat:=by omega
    have hlen:n.toNat*i<=m.toNat*i:=cK _ hle;refine rJ rfl (by simp[BC.toMx,oe,hl,cells];exact hlen) λbytes x z=>?_
    simp only[BC.toMx,bE]at z;have hj:bytes<n.toNat*l! L:=by
     rcases cJ bytes (n.toNat*l! L) with h|h
     .exact h
     .rw[dL (by rw[oe];exact h)]at z;cases z
    have hj2:bytes<m.toNat*l! L:=by grind
    rw[FE L _ bytes hj,<-FE L m.toNat bytes hj2]at z;have N:((repl L m.toNat).map AV.f)[bytes]? =Z x:=by grind
    have hj3:bytes<l! cells.toList:=by grind
    exact⟨cs.2.1 x (ba N),cells.toList[bytes],by rw[<- dj];exact aH hj3,cs.2.2 bytes x _ N (aH hj3)⟩
   .refine .G hφ (by omega) (by unfold maxLen;omega) ⟨A,?_⟩;unfold tG;simp[cells]
  .cases D
 .cases D
def apf {y:Operand} (ho:o.op= .store s c y) (hs:fY P s=Z i) (z:dO (.store i c y) e h nx=Z R):gO P o e.get h.get R.eff:=by
 simp only[dO]at z;split at z
 .rename_i p v hx hy;unfold CQ at z;split at z
  .rename_i id off;split at z
   .rename_i b hb;split at z
    .rename_i hl;split at z
     .rename_i c' hput;cases z;unfold BC.put at hput;split at hput
      .rename_i hcc;simp only[au]at hcc;let⟨⟨c1,c2⟩,c3⟩:=hcc;have c2:=aY c2;have hl:l! v.cs=i:=by simpa using hl
       have D:c'.toMx=splice b.c.toMx off v.cs/\c'.isCells=J:=by
        split at hput
        next l ys hbl hys=>cases hput;refine ⟨?_,rfl⟩;have hv:=nI hys;rw[hv,hbl];simp only[BC.toMx];unfold splice;simp_all
        .cases hput;exact⟨rfl,rfl⟩
       refine gO.writes hb λφ E h' w a hrd hb' hp hrep=>?_
       have N:=ZL (hp y _ (by rw[ho];simp[Op.operands]) hy) c3;have hpx:=hp c _ (by rw[ho];simp[Op.operands]) hx;generalize hz:a.eval c=pv at hpx;cases hpx with
       |@H _ _ k hφ=>
        let⟨arr,g1,g2,g3⟩:=hrep.cs hb' hφ c1;have hvl:(a.eval y).cells.toList.length=i:=by rw[N.1];exact hl
        rw[BC.len_toMx c1]at c2;have hst:=run_storeCells_at (P:=P) k off b.ty (a.eval y).cells.toList 0 arr w g1 (by rw[hvl];omega) N.one
        let arr':Array Value:=(arr.toList.take off++(a.eval y).cells.toList++arr.toList.drop (off+i)).toArray
        have hsize:arr'.size=arr.size:=by grind
        refine ⟨.skip,w.setRow k arr',k,.cells arr' b.ty (0,0),?_,hφ,IY.setRow g1 hsize,?_,undef,.inr ⟨rfl,rfl⟩,.f (.raw _)⟩
        .have s1:=ig hs w;have hvs:(a.eval y).cells.size=i:=by simpa using hvl
         simp only[dI,hvl]at hst;unfold execOp;rw[ho];simp[Instr.storeAt,hz,Instr.sureAddr,storeVar,s1,hvs,hst,arr']
        .refine rJ D.2 (by rw[D.1,nu (by omega),hsize];exact g3) λj q A=>?_
         rw[D.1,oc (by omega)]at A;have ha':arr'[j]? =if j<off then arr.toList[j]? else if j<off+i then (a.eval y).cells.toList[j-off]? else arr.toList[j]? :=by
          have:=oc (l:=arr.toList) (vs:=(a.eval y).cells.toList) (off:=off) (by grind) j;unfold splice at this
          grind
         have old:b.c.toMx[j]? =Z q->q.isCell=J/\∃u,arr.toList[j]? =Z u/\cz φ (tot E φ h') w q u:=λA=>by
          have hj:j<l! b.c.toMx:=(bA.1 A).1;have hj2:j<l! arr.toList:=by simp;omega
          refine ⟨g2.2.1 q (ba A),arr.toList[j],aH hj2,g2.2.2 j q _ A ?_⟩
          grind
         rw[ha'];by_cases h1:j<off
         .grind
         .rw[ax h1]at A ⊢;by_cases h2:j<off+i
          .rw[aF (by omega)]at A;rw[aF h2];have L:j-off<(a.eval y).cells.toList.length:=by omega
           exact⟨N.2.1 q (ba A),_,aH L,N.2.2 _ q _ A (aH L)⟩
          .grind
      .cases hput
     .cases z
    .cases z
   .cases z
  .cases z
 .cases z
end
section
variable {P:Program} {o:Oper} {e:ED} {h:mU} {nx:Nat} {R:EB}
def axe (A:Addr):A.add 0=A:=by cases A;simp[Addr.add]
def axi {el:TypeId} {lo hi mx:M Operand} (ho:o.op= .slice s c lo hi mx) (hu:P.underlying s=Z (.slice el)) (hs:fY P el=Z i) (D:dO (.slc i c lo hi mx) e h nx=Z R):gO P o e.get h.get R.eff:=by
 simp only[dO]at D;split at D
 .rename_i v hx;split at D
  ·
   rename_i b;split at D
   .rename_i id sz' n k j hb;split at D
    .rename_i N;simp only[dz,au,bS,c5]at N;obtain⟨⟨rfl,h0⟩,h1⟩:=N;split at D
     .rename_i blk hblk;split at D
      .rename_i hcl;simp only[au]at hcl;obtain⟨hcells,hlen⟩:=hcl;have hlen:=aY hlen;rw[BC.len_toMx hcells]at hlen;cases D;intro φ E h' w a g1 g2 g3 hrep g5;have hp:Rel φ E h' w a e o:=λc y hx hy=>xB hrep g3 hx hy
       have hb':h' id=Z blk:=by rw[g1 id (by simp[EB.eff])];exact hblk
       have L:=hp c _ (by rw[ho];simp[Op.operands]) hx;have hbv:=fR (hp b _ (by rw[ho];simp[Op.operands]) hb);have hnx:φ nx=U:=g5 nx (by simp[EB.eff]);generalize hz:a.eval c=z at L;cases L with
       |@G _ _ _ x q hφ hn hcap hsh=>
        obtain⟨arr,a1,a2,a3⟩:=hrep.cs hb' hφ hcells;have s1:=ig hs w;have hne:nx≠id:=λe=>by rw[e,hφ]at hnx;cases hnx
        have hnw1:jQ [(nx,⟨blk.ty,oz (blk.c.toMx.take (j.toNat*sz'))⟩)] nx=Z (⟨blk.ty,oz (blk.c.toMx.take (j.toNat*sz'))⟩:kx):=by simp[jQ]
        have hnw2:jQ [(nx,⟨blk.ty,oz (blk.c.toMx.take (j.toNat*sz'))⟩)] id=U:=by
         simp only[jQ];rw[ax];intro hb;exact hne (av hb)
        have a4:=a2.take (j.toNat*sz');obtain⟨φ',p1,p2,p3,p4⟩:=hrep.wren hb' hφ hnx (w':=w) ⟨rfl,rfl,rfl,rfl,a1,λ_ _=>rfl,λ_=>rfl⟩ (b':=⟨blk.ty,oz (blk.c.toMx.take (j.toNat*sz'))⟩) (by
         obtain⟨q1,q2⟩:=nF (blk.c.toMx.take (j.toNat*sz'));refine rJ q2 (by rw[q1,cL];omega) λsz c hx=>?_
         rw[q1]at hx;have hi:sz<l! ((arr.toList.take (l! blk.c.toMx)).take (j.toNat*sz')):=by rw[a4.1];exact (bA.1 hx).1
         refine ⟨a4.2.1 c (ba hx),_,?_,a4.2.2 sz c _ hx (aH hi)⟩;have hi':sz<arr.size:=by simp at hi;omega
         simp[hi']) _ hnw1 hnw2
        have hrun:(execOp a.eval o).run P w= .ok (.value (.slice (Z ⟨q,0,U⟩) j.toNat x)) w:=by
         unfold execOp;rw[ho];simp[uI,Bv,run_underlying hu,hz,mz,oa,asIntOf,s1,hbv,h0,show j<=x by omega,mg]
        unfold Lk;rw[hrun];exact⟨_,φ',rfl,p2,p3,p4,.G p1 (by omega) hcap hsh⟩
      .cases D
     .cases D
    .cases D
   .rename_i cells n k j hb;split at D
    .rename_i N;simp only[dz,au,bS]at N;obtain⟨⟨h0,h1⟩,h2⟩:=N;have h2:=aY h2;rw[dJ D];refine gO.reads λφ E h' w a _ hp _=>?_
     have L:=hp c _ (by rw[ho];simp[Op.operands]) hx;have hbv:=fR (hp b _ (by rw[ho];simp[Op.operands]) hb);generalize hz:a.eval c=z at L;have s1:=ig hs w;cases L with
     |f L=>
      cases L with
      |nil A x N=>
       have hj:j=0:=by omega
       subst hj;refine ⟨.slice A 0 x,?_,by simpa using cz.f (.nil A x N)⟩;unfold execOp;rw[ho];cases A<;>simp[uI,Bv,run_underlying hu,hz,mz,oa,asIntOf,s1,hbv,axe]
      |sl _ _ x q off us hn N hO hq hcl hu' L=>
       refine ⟨.slice (Z ⟨q,off,U⟩) j.toNat x,?_,.f (.sl _ _ _ _ _ us (by omega) N hO hq (λy hy=>hcl y (pY hy)) (λsz hi=>hu' sz (by rw[cL]at hi;omega)) λsz y hy=>?_)⟩
       .unfold execOp;rw[ho];simp[uI,Bv,run_underlying hu,hz,mz,oa,asIntOf,s1,hbv,h0,show j<=x by omega,mg]
       .rw[gx]at hy;split at hy
        .exact L sz y hy
        .cases hy
    .cases D
   .cases D
  ·
   rename_i b;split at D
   .rename_i id sz' n k j hb;split at D
    .rename_i N;simp only[dz,gF,au,bS,c5]at N;obtain⟨⟨rfl,h0⟩,h1⟩:=N;rw[dJ D];refine gO.reads λφ E h' w a _ hp _=>?_
     have L:=hp c _ (by rw[ho];simp[Op.operands]) hx;have hbv:=fR (hp b _ (by rw[ho];simp[Op.operands]) hb);generalize hz:a.eval c=z at L;cases L with
     |@G _ _ _ x q hφ hn N hsh=>
      have s1:=ig hs w;refine ⟨.slice (Z ⟨q,0+j.toNat*sz',U⟩) (n-j.toNat) (x-j.toNat),?_,?_⟩
      .unfold execOp;rw[ho];simp[uI,Bv,run_underlying hu,hz,mz,oa,asIntOf,s1,hbv,h0,show j<=n by omega,show ¬x=j.toNat by omega,mg]
      .rw[b9];exact .sl hφ (by omega) (by omega)
    .cases D
   .rename_i cells n k j hb;split at D
    .rename_i N;simp only[dz,au,bS]at N;obtain⟨⟨h0,h1⟩,h2⟩:=N;have h2:=aY h2;rw[dJ D];refine gO.reads λφ E h' w a _ hp _=>?_
     have L:=hp c _ (by rw[ho];simp[Op.operands]) hx;have hbv:=fR (hp b _ (by rw[ho];simp[Op.operands]) hb);generalize hz:a.eval c=z at L;have s1:=ig hs w;cases L with
     |f L=>
      cases L with
      |nil A x N=>
       have hj:j=0:=by omega
       subst hj;have hex:∃A',(execOp a.eval o).run P w= .ok (.value (.slice A' 0 x)) w:=by
        unfold execOp;rw[ho];cases A with
        |none=>exact⟨U,by simp[uI,Bv,run_underlying hu,hz,mz,oa,asIntOf,s1,hbv]⟩
        |some A=>exact⟨Z A,by simp[uI,Bv,run_underlying hu,hz,mz,oa,asIntOf,s1,hbv,axe]⟩
       obtain⟨A',hex⟩:=hex;exact⟨.slice A' 0 x,hex,by simpa using cz.f (.nil A' x N)⟩
      |sl _ _ x q off us hn N hO hq hcl hu' L=>
       by_cases hcj:x=j.toNat
       .refine ⟨.slice (Z ⟨q,off,U⟩) 0 0,?_,?_⟩
        .unfold execOp;rw[ho];simp[uI,Bv,run_underlying hu,hz,mz,oa,asIntOf,s1,hbv,h0,show j<=n by omega,hcj,show n-j.toNat=0 by omega,mg]
        .rw[show n-j.toNat=0 by omega];simpa using cz.f (.nil (Z ⟨q,off,U⟩) 0 (by unfold maxLen;omega))
       .refine ⟨.slice (Z ⟨q,off+j.toNat*i,U⟩) (n-j.toNat) (x-j.toNat),?_,.f (.sl _ _ _ _ _ (λsz=>us (j.toNat*i+sz)) (by omega) (by omega) hO hq (λy hy=>hcl y (List.mem_of_mem_drop (pY hy))) (λsz hi=>?_) λsz y hy=>?_)⟩
        .unfold execOp;rw[ho];simp[uI,Bv,run_underlying hu,hz,mz,oa,asIntOf,s1,hbv,h0,show j<=n by omega,hcj,mg]
        .rw[uH];refine hu' _ ?_;rw[cL,sH]at hi;omega
        .rw[gx]at hy;split at hy
         .rw[tH]at hy;exact L _ y hy
         .cases hy
    .cases D
   .cases D
  .cases D
 .cases D
def aht {rd:ι} (hrow:y.row? h i=Z (B,j,rd)) (hrd:∀sz∈rd,A sz=h.get sz) (hrep:sE V O A w) (N:cz V (tot O V A) w y v):
 ∃h' c vs,v= .slice h' j c/\Cs V (tot O V A) w B vs/\l! vs=j*i/\(h'=U->vs=[])/\(∀ad,h'=Z ad->∀(m:Nat) u,vs[m]? =Z u->w.cell? (ad.add m)=Z u):=by
 have emp:∀h' c,v= .slice h' 0 c->B=[]->j=0->∃h' c vs,v= .slice h' j c/\Cs V (tot O V A) w B vs/\l! vs=j*i/\(h'=U->vs=[])/\(∀ad,h'=Z ad->∀(m:Nat) u,vs[m]? =Z u->w.cell? (ad.add m)=Z u):=by
  rintro h' c rfl rfl rfl;exact⟨h',c,[],rfl,⟨rfl,(by intro y z;cases z),(by intro m y v z;simp at z)⟩,by simp,λ_=>rfl,by intro ad _ m u D;simp at D⟩
 have own:∀(id off n c k:Nat) (b:kx),V id=Z k->A id=Z b->b.c.isCells=J->off+n*i<=b.c.len->v= .slice (Z ⟨k,off,U⟩) n c->B=(b.c.toMx.drop off).take (n*i)->j=n->
  ∃h' c vs,v= .slice h' j c/\Cs V (tot O V A) w B vs/\l! vs=j*i/\(h'=U->vs=[])/\(∀ad,h'=Z ad->∀(m:Nat) u,vs[m]? =Z u->w.cell? (ad.add m)=Z u):=by
  rintro id off n c k b hφ hb L hle rfl rfl rfl;let⟨arr,g1,g2,g3⟩:=hrep.cs hb hφ L;rw[BC.len_toMx L]at hle;refine ⟨_,c,((arr.toList.take (l! b.c.toMx)).drop off).take (j*i),rfl,(g2.drop off).take _,?_,nofun,?_⟩
  .simp;omega
  .intro ad had m u D;cases had;rw[mg];rw[gx]at D;split at D
   .rw[tH,gx]at D;split at D
    .rw[dj]at D;simp[Sl,g1,D]
    .cases D
   .cases D
 unfold AV.row? at hrow;split at hrow
 .rename_i cells n;split at hrow
  .rename_i hle;have hle:=aY hle;simp only[ah,aU]at hrow;obtain⟨rfl,rfl,rfl⟩:=hrow;cases N with
   |f N=>
    cases N with
    |nil a c L=>exact emp a c rfl (by simp) rfl
    |sl _ _ c b off us hn L hO hb hcl D N=>
     refine ⟨_,c,(dG (n*i)).map us,rfl,⟨by simp;omega,λy z=>?_,λm y u z hu'=>?_⟩,by simp,nofun,?_⟩
     .obtain⟨x,hy,rfl⟩:=cu.1 z;exact hcl x (pY hy)
     .obtain⟨rfl,hj⟩:=Ax us _ _ _ hu';rw[bE,gx,aF hj]at z;cases hq:cells[m]? with
      |none=>rw[hq]at z;cases z
      |some q=>rw[hq]at z;simp at z;subst z;exact .f (N m q hq)
     .intro ad had m u hu';cases had;obtain⟨rfl,hj⟩:=Ax us _ _ _ hu';rw[mg];exact D m (by omega)
  .cases hrow
 .simp only[ah,aU]at hrow;obtain⟨rfl,rfl,rfl⟩:=hrow;exact emp U 0 (fR N) rfl rfl
 .simp only[ah,aU]at hrow;obtain⟨rfl,rfl,rfl⟩:=hrow;cases N with
  |@emp a=>exact emp a 0 rfl rfl rfl
 .rename_i id sz' n;split at hrow
  .rename_i hsz;split at hrow
   .rename_i b hb;split at hrow
    .rename_i L;simp only[au]at L;simp only[ah,aU]at hrow;obtain⟨rfl,rfl,rfl⟩:=hrow;cases N with
     |@G _ _ _ c k hφ hn hc' hsh=>
      exact own id 0 n c k b hφ (by rw[hrd id (by simp)];exact hb) L.1 (by simp_all) rfl (by simp) rfl
    .cases hrow
   .cases hrow
  .cases hrow
 .rename_i id off n;split at hrow
  .rename_i b hb;split at hrow
   .rename_i L;simp only[au]at L;simp only[ah,aU]at hrow;obtain⟨rfl,rfl,rfl⟩:=hrow;cases N with
    |@sl _ _ _ c k hφ hn hc'=>exact own id off n c k b hφ (by rw[hrd id (by simp)];exact hb) L.1 (aY L.2) rfl rfl rfl
   .cases hrow
  .cases hrow
 .cases hrow
def ams {rd:ι} (hrow:y.row? h i=Z (B,j,rd)) (hrd:∀sz∈rd,A sz=h.get sz) (hrep:sE V O A w) (N:cz V (tot O V A) w y v) {L:TypeId} (D:P.underlying s=Z (.slice L)):
 ∃vs,Src P i s v j vs w/\Cs V (tot O V A) w B vs:=by
 obtain⟨h',c,vs,rfl,h1,h2,h3,h4⟩:=aht hrow hrd hrep N;refine ⟨vs,?_,h1⟩;cases h' with
 |none=>
  have:=h3 rfl;subst this;have hm:j*i=0:=by grind
  refine ⟨.inl ⟨L,D⟩,λ_=>rfl,run_firstCells_none w i j j c,run_firstCells_none w.drew i j j c,by simp[hm],λ_ h=>by cases h⟩
 |some ad=>exact Src.ofSlice w D ad j c vs h2 (h4 ad rfl) h1.one
def aiz :∀{l:ι},mem i l=J↔i∈l
 |[]=>by simp[mem]
 |y::r=>by
  simp[mem,mV,aiz (l:=r),a_];constructor
  .rintro (h|h)
   .simp_all
   .exact .inr h
  .rintro (h|h)
   .simp_all
   .exact .inr h
def au2 {u el el':TypeId} {x:Operand} (ho:o.op= .call {callee:=.builtin .copy,args:=#[c,x],argTypes:=#[s,u]}) (hu:P.underlying s=Z (.slice el)) (hu':P.underlying u=Z (.slice el')) (hs:fY P el=Z i) (D:dO (.copy i c x) e h nx=Z R):gO P o e.get h.get R.eff:=by
 simp only[dO]at D;split at D
 .rename_i id sz' n y hd hx;split at D
  .rename_i blk src m rd hblk hrow;split at D
   .rename_i hc;simp only[au,c5,cW]at hc;obtain⟨⟨rfl,hmem⟩,hlen⟩:=hc;split at D
    .rename_i c' hput;cases D;unfold BC.put at hput;split at hput
     .rename_i hcc;simp only[au]at hcc;let⟨⟨c1,c2⟩,c3⟩:=hcc;have c2:=aY c2;rw[b9]at c2;have N:c'.toMx=splice blk.c.toMx 0 (src.take (lQ m n*sz'))/\c'.isCells=J:=by
       split at hput
       next l ys hbl hys=>cases hput;refine ⟨?_,rfl⟩;have hv:=nI hys;rw[hv,hbl];simp only[BC.toMx];unfold splice;simp[gI,zU]
       .cases hput;exact⟨rfl,rfl⟩
      refine gO.writes hblk λφ E h' w a hrd hb' hp hrep=>?_
      have hpd:=hp c _ (by rw[ho];simp[Op.operands,eX]) hd;have hpx:=hp x _ (by rw[ho];simp[Op.operands,eX]) hx;let⟨A,d,vs,hv,q1,q2,q3,q4⟩:=aht hrow (λsz hi=>hrd sz (by simp[hi])) hrep hpx;generalize hz:a.eval c=pv at hpd;cases hpd with
      |@G _ _ _ cap k hφ hn hcap hsh=>
       let⟨arr,g1,g2,g3⟩:=hrep.cs hb' hφ c1;rw[BC.len_toMx c1]at c2;have hmn:lQ m n<=m:=Nat.min_le_left _ _;have hle:lQ m n*sz'<=m*sz':=cK _ hmn
       let z:=vs.take (lQ m n*sz')
       have hnl:l! z=lQ m n*sz':=by simp only[z,cL,q2];omega
       have hsl:l! (src.take (lQ m n*sz'))=lQ m n*sz':=by rw[cL,<-q1.1,q2];omega
       have csn:=q1.take (lQ m n*sz');rw[hsl]at c2;have hst:=run_storeCells_at (P:=P) k 0 blk.ty z 0 arr w g1 (by rw[hnl];omega) csn.one
       let arr':Array Value:=(arr.toList.take 0++z++arr.toList.drop (0+lQ m n*sz')).toArray
       have hsize:arr'.size=arr.size:=by simp only[arr',C2,bz,cL,sH,Array.length_toList,hnl];omega
       have hfc:(Pp sz' (lQ m n) (.slice A m d)).run P w= .ok z.toArray w:=by
        cases A with
        |none=>
         have:z=[]:=by simp[z,q3 rfl]
         rw[this];exact run_firstCells_none w sz' _ _ _
        |some ad=>exact run_firstCells_some w sz' _ ad m d z hnl (λj u hu=>q4 ad rfl j u (by
          simp only[z,gx]at hu;split at hu
          .exact hu
          .cases hu))
       refine ⟨.value (.int .i64 (lQ m n)),w.setRow k arr',k,.cells arr' blk.ty (0,0),?_,hφ,IY.setRow g1 hsize,?_,_,.inl rfl,.f (.raw _)⟩
       .have s1:=ig hs w;simp only[dI,hnl]at hst;unfold execOp;rw[ho];simp[resolve,invoke,builtin,Builtin.copy_,run_underlying hu,hz,hv,Builtin.lenOf,s1,hfc,hst,goInt,arr']
       .refine rJ N.2 (by rw[N.1,nu (by rw[hsl];omega),hsize];exact g3) λj q L=>?_
        rw[N.1,oc (by rw[hsl];omega)]at L;have ha':arr'[j]? =if j<0 then arr.toList[j]? else if j<0+l! z then z[j-0]? else arr.toList[j]? :=by grind
        rw[ha',ax (by omega)];rw[ax (by omega),hsl]at L;rw[hnl];by_cases h2:j<0+lQ m n*sz'
        .rw[aF h2]at L ⊢;have hj3:j-0<l! z:=by rw[hnl];omega
         exact⟨csn.2.1 q (ba L),_,aH hj3,csn.2.2 _ q _ L (aH hj3)⟩
        .rw[ax h2]at L ⊢;have hj:j<l! blk.c.toMx:=(bA.1 L).1;have hj2:j<l! arr.toList:=by simp;omega
         refine ⟨g2.2.1 q (ba L),arr.toList[j],aH hj2,g2.2.2 j q _ L ?_⟩;rw[gx,aF hj,aH hj2]
     .cases hput
    .cases D
   .cases D
  .cases D
 .cases D
def axz {el:TypeId} (ho:o.op= .call {callee:=.builtin .clear,args:=#[c],argTypes:=#[s]}) (hu:P.underlying s=Z (.slice el)) (hz:u_ P el=Z L) (hc:nY L=J) (hl:l! L=i) (hsz:i≠0) (D:dO (.clr i L c) e h nx=Z R):gO P o e.get h.get R.eff:=by
 simp only[dO]at D;split at D
 .rename_i id off n hx;split at D
  .rename_i blk hblk;split at D
   .rename_i hn;have hn:=aY hn;obtain⟨m,rfl⟩:∃m,n=m+1:=⟨n-1,by omega⟩
    split at D
    .rename_i c' hput;cases D;unfold BC.put at hput;split at hput
     .rename_i hcc;simp only[au]at hcc;let⟨⟨c1,c2⟩,c3⟩:=hcc;have c2:=aY c2;have hsrc:l! ((repl L (m+1)).map AV.f)=(m+1)*i:=by rw[cq,oe,hl]
      rw[hsrc]at c2;have hc':c'.toMx=splice blk.c.toMx off ((repl L (m+1)).map AV.f)/\c'.isCells=J:=by
       split at hput
       next l ys hbl hys=>cases hput;refine ⟨?_,rfl⟩;have hv:=nI hys;rw[hv,hbl];simp only[BC.toMx];unfold splice;simp[gI,zU]
       .cases hput;exact⟨rfl,rfl⟩
      refine gO.writes hblk λφ E h' w a hrd hb' hp hrep=>?_
      have hpx:=hp c _ (by rw[ho];simp[Op.operands,eX]) hx;generalize hzv:a.eval c=pv at hpx;cases hpx with
      |@sl _ _ _ cap k hφ hn2 hcap=>
       let⟨arr,g1,g2,g3⟩:=hrep.cs hb' hφ c1;rw[BC.len_toMx c1]at c2;let⟨v,z1,z2,_⟩:=vI hz w;have csn:=Cs.repl (φ:=φ) (O:=tot E φ h') (w:=w) z2 (m+1) i hl hsz hc
       let z:=(mA v.cells (m+1)).toList
       have hvs:v.cells.size=i:=by rw[<- hl,<-z2];simp
       have hns:z=((HA ((m+1)*i)).map (λsz=>v.cells[sz%v.cells.size]!)).toList:=by simp only[z,mA,hvs]
       have hnl:l! z=(m+1)*i:=by rw[hns];simp
       rw[<- hns]at csn;have hst:=run_storeCells_at (P:=P) k off blk.ty z 0 arr w g1 (by rw[hnl];omega) csn.one
       let arr':Array Value:=(arr.toList.take (off+0)++z++arr.toList.drop (off+0+l! z)).toArray
       have hsize:arr'.size=arr.size:=by grind
       refine ⟨.value (.tuple #[]),w.setRow k arr',k,.cells arr' blk.ty (0,0),?_,hφ,IY.setRow g1 hsize,?_,_,.inl rfl,.qg (vs:=[]) rfl λj y v hy=>by simp at hy⟩
       .unfold execOp;rw[ho];have hst2:(storeCells ⟨k,off,U⟩ (mA v.cells (m+1)).toList).run P w= .ok () (w.setRow k arr'):=hst;simp[resolve,invoke,builtin,Builtin.clear_,run_underlying hu,hzv,z1,hst2]
       .refine rJ hc'.2 (by rw[hc'.1,nu (by rw[hsrc];omega),hsize];exact g3) λj q A=>?_
        rw[hc'.1,oc (by rw[hsrc];omega)]at A;have ha':arr'[j]? =if j<off then arr.toList[j]? else if j<off+l! z then z[j-off]? else arr.toList[j]? :=by
         have:=oc (l:=arr.toList) (vs:=z) (off:=off) (by grind) j;unfold splice at this
         grind
        rw[ha'];rw[hsrc]at A;rw[hnl];by_cases h1:j<off
        .rw[aF h1]at A ⊢;have hj:j<l! blk.c.toMx:=(bA.1 A).1;have N:j<l! arr.toList:=by simp;omega
         refine ⟨g2.2.1 q (ba A),arr.toList[j],aH N,g2.2.2 j q _ A ?_⟩
         grind
        rw[ax h1]at A ⊢;by_cases h2:j<off+(m+1)*i
        .rw[aF h2]at A ⊢;have hj3:j-off<l! z:=by rw[hnl];omega
         exact⟨csn.2.1 q (ba A),_,aH hj3,csn.2.2 _ q _ A (aH hj3)⟩
        .rw[ax h2]at A ⊢;have hj:j<l! blk.c.toMx:=(bA.1 A).1;have N:j<l! arr.toList:=by simp;omega
         refine ⟨g2.2.1 q (ba A),arr.toList[j],aH N,g2.2.2 j q _ A ?_⟩
         grind
     .cases hput
    .cases D
   .cases D
  .cases D
 .cases D
end
def Q7 (w:World) (ob:Obj):Yd w (w.drew.alloc ob) ob:=Yd.drawn (w.drawn+1) (sT {w with drawn:=w.drawn+1} ob)
section
variable {P:Program} {o:Oper} {e:ED} {h:mU} {nx:Nat} {R:EB}
def LW (A:v.cells.toList=L) (D:l! L=i) (n:Nat):(mA v.cells n).size=n*i:=by
 have:v.cells.size=i:=by grind
 simp[mA,this]
def X4 {u D:TypeId} {t:Operand} {m:TypeInfo} (ho:o.op= .call {callee:=.builtin .append,args:=#[t,c],argTypes:=#[s,u]}) (hu:P.underlying s=Z (.slice D)) (i1:P.info? D=Z m) (hz:u_ P D=Z L) (hzl:l! L=m.size)
 (hrep:sE V O A w) (hnx:V nx=U) {h':M Addr} {n cap:Nat} {olds vs:ξ} {oldA:Y AV} (hsl:S.eval t= .slice h' n cap)
 (hold:(Pp m.size n (.slice h' n cap)).run P w.drew= .ok olds.toArray w.drew) (csold:Cs V (tot O V A) w oldA olds) (hol:l! olds=n*m.size) (hsrc:Src P m.size u (S.eval c) i vs w) (hcs:Cs V (tot O V A) w B vs)
 (hg:cap<n+i) (r1:n+i<=1099511627776) (r2:(n+i)*m.bytes<=1099511627776) (del:ι) (hdel:∀j∈del,j≠nx):
 o.wp P S w (λa' w'=>∃v φ',a'=S.put o.dst v/\jW V φ' A (fw A (nx::del) (jQ [(nx,⟨D,oz (oldA++B)⟩)])) w w'/\(∀m k,φ' m=Z k->V m=Z k\/m∈[nx])/\
  sE φ' O (fw A (nx::del) (jQ [(nx,⟨D,oz (oldA++B)⟩)])) w'/\cz φ' (tot O φ' (fw A (nx::del) (jQ [(nx,⟨D,oz (oldA++B)⟩)]))) w' (.G nx m.size (n+i)) v) (λ_ _ _=>False):=by
 let⟨N,z1,z2,i',z,z3⟩:=vI hz w;rw[i1]at z;cases z;have hfb:=growslice_fits (need:=n+i) (old:=cap) (bytes:=m.bytes) hg (by omega);have hrun:=run_append_grow_src w s u o.type D m N hu i1 z3 h' n cap olds hold (S.eval c) i vs hsrc hg (by omega) hfb;have hgc:=grownCap_ge w (n+i) cap D;have hgm:=grownCap_le_maxLen w (n+i) cap D (by unfold maxLen;omega);generalize grownCap w (n+i) cap D=Gc at hrun hgc hgm;have cs:=csold.append hcs;have hnl:=hsrc.newsLen;let⟨φ',p1,p2,p3,p4⟩:=hrep.wnew hnx (Q7 w _) (b:=⟨D,oz (oldA++B)⟩) (ob:=.cells ((olds++vs).toArray++mA N.cells (Gc-(n+i))) D (0,0)) (by
  let⟨q1,q2⟩:=nF (oldA++B);refine rJ q2 (by rw[q1,<-cs.1];simp) λj q hq=>?_
  rw[q1]at hq;have hj:j<l! (olds++vs):=by rw[cs.1];exact (bA.1 hq).1
  refine ⟨cs.2.1 q (ba hq),_,?_,cs.2.2 j q _ hq (aH hj)⟩;rw[Array.getElem?_append_left (by omega),List.getElem?_toArray,aH hj]) del (jQ [(nx,⟨D,oz (oldA++B)⟩)]) (by simp[jQ]) (λj hj hne=>by
   simp only[jQ];rw[ax];intro hb;exact hne (av hb).symm)
 have hexec:(execOp S.eval o).run P w= .ok (.value (.slice (Z ⟨w.heap.size,0,U⟩) (n+i) Gc)) (w.drew.alloc (.cells ((olds++vs).toArray++mA N.cells (Gc-(n+i))) D)):=by
  unfold execOp;rw[ho];simp[resolve,invoke,builtin,fE,w_,c4,List.map_toArray,ch,C3,hsl,hrun]
 unfold Lk;rw[hexec];refine ⟨_,φ',rfl,p2,p3,p4,.G p1 hgc hgm ⟨D,?_⟩⟩;have:=(Q7 w (.cells ((olds++vs).toArray++mA N.cells (Gc-(n+i))) D (0,0))).at_;unfold tG;have hzs:=LW z2 hzl (Gc-(n+i));have e1:(n+i)*m.size+(Gc-(n+i))*m.size=Gc*m.size:=by rw[<- Nat.add_mul];congr 1;omega
 grind
def ay2 {u el el':TypeId} {t:Operand} (ho:o.op= .call {callee:=.builtin .append,args:=#[t,c],argTypes:=#[s,u]}) (hu:P.underlying s=Z (.slice el)) (hu':P.underlying u=Z (.slice el')) (hs:fY P el=Z i) (hb:IQ P el=Z j) (hz:u_ P el=Z L) (hzl:l! L=i) (hsz:i≠0)
 (D:dO (.app el i j t c) e h nx=Z R):gO P o e.get h.get R.eff:=by
 let⟨sz,i1,i2⟩:=Sc hb;have i3:sz.size=i:=by unfold fY at hs;rw[i1]at hs;simpa using hs
 subst i2 i3;simp only[dO]at D;split at D
 .rename_i bv y hsv N;split at D
  .rename_i src m rd hrow;have common:∀{φ:PM} {E:Nat->Prop} {h':HF} {w:World} {a:Act},(∀sz∈rd,h' sz=h.get sz)->Rel φ E h' w a e o->sE φ E h' w->∃vs,Src P sz.size u (a.eval c) m vs w/\Cs φ (tot E φ h') w src vs:=
    λhrd hp hrep=>ams hrow hrd hrep (hp c _ (by rw[ho];simp[Op.operands,eX]) N) hu'
   have exec:∀{w w':World} {a:Act} {v:Value},(Builtin.append_ #[s,u] o.type #[a.eval t,a.eval c]).run P w= .ok v w'->(execOp a.eval o).run P w= .ok (.value v) w':=by
    intro w w' a v hrun;unfold execOp;rw[ho];simp[resolve,invoke,builtin,hrun]
   split at D
   .rename_i id sz' n;split at D
    .rename_i blk hblk;split at D
     .rename_i hc;simp only[au,c5,cW]at hc;obtain⟨⟨⟨⟨⟨rfl,hmem⟩,hcells⟩,hlen⟩,hty⟩,hroom⟩:=hc;have hlen:=aY hlen;rw[BC.len_toMx hcells]at hlen;let⟨r1,r2⟩:=L_ hroom;cases D;subst hty;intro φ E h' w a h1 h2 h3 hrep h5;have hp:Rel φ E h' w a e o:=λc y N hy=>xB hrep h3 N hy
      have hb':h' id=Z blk:=by rw[h1 id (by simp[EB.eff])];exact hblk
      let⟨vs,hsrc,hcs⟩:=common (λsz hi=>h1 sz (by simp[EB.eff,hi])) hp hrep;have hpd:=hp t _ (by rw[ho];simp[Op.operands,eX]) hsv;have hnx:φ nx=U:=h5 nx (by simp[EB.eff]);have hwv:=hp t _ (by rw[ho];simp[Op.operands,eX]) hsv;generalize hzv:a.eval t=pv at hpd;cases hpd with
      |@G _ _ _ cap k hφ hn hcap hsh=>
       let⟨arr,g1,g2,g3⟩:=hrep.cs hb' hφ hcells;have hne:nx≠id:=λe=>by rw[e,hφ]at hnx;cases hnx
       have harr:arr.size=cap*sz.size:=by
        let⟨ty,hty⟩:=hsh;unfold tG at hty;rw[g1]at hty;simp at hty;exact hty.2
       have hnl:=hsrc.newsLen;have hnn:n*sz.size<=arr.size:=by omega
       have csnew:Cs φ (tot E φ h') w (blk.c.toMx.take (n*sz.size)++src) (arr.toList.take (n*sz.size)++vs):=by
        have:=(g2.take (n*sz.size)).append hcs
        rwa [List.take_take,I5 hlen]at this
       have hnw1:jQ [(nx,⟨blk.ty,oz (blk.c.toMx.take (n*sz.size)++src)⟩)] nx=Z ⟨blk.ty,oz (blk.c.toMx.take (n*sz.size)++src)⟩:=by simp[jQ]
       have hnw2:jQ [(nx,⟨blk.ty,oz (blk.c.toMx.take (n*sz.size)++src)⟩)] id=U:=by
        simp only[jQ];rw[ax];intro hb;exact hne (av hb)
       by_cases hfit:n+m<=cap
       ·
        have hend:n*sz.size+l! vs<=arr.size:=by
         rw[hnl,harr,<-Nat.add_mul];exact cK _ hfit
        have hst:=run_storeCells_at (P:=P) k (n*sz.size) blk.ty vs 0 arr w g1 (by omega) hsrc.one;simp only[dI]at hst
        let arr':Array Value:=(arr.toList.take (n*sz.size)++vs++arr.toList.drop (n*sz.size+l! vs)).toArray
        have hsize:arr'.size=arr.size:=by simp only[arr',C2,bz,cL,sH,Array.length_toList];omega
        have hrun:(Builtin.append_ #[s,u] o.type #[a.eval t,a.eval c]).run P w= .ok (.slice (Z ⟨k,0,U⟩) (n+m) cap) (w.setRow k arr'):=by
         rw[hzv];rcases hsrc.kind with ⟨e',hk⟩|hk<;>simp[Builtin.append_,run_underlying hu,run_underlying hk,sizeOf,typeInfo,i1,hsrc.len,hfit,hsrc.cells,mg,hst,arr']
        let⟨φ',p1,p2,p3,p4⟩:=hrep.wren hb' hφ hnx (IY.setRow g1 hsize) (b':=⟨blk.ty,oz (blk.c.toMx.take (n*sz.size)++src)⟩) (by
         let⟨q1,q2⟩:=nF (blk.c.toMx.take (n*sz.size)++src);refine rJ q2 (by rw[q1,<-csnew.1,hsize];simp;omega) λbytes q hq=>?_
         rw[q1]at hq;have hj:bytes<l! (arr.toList.take (n*sz.size)++vs):=by rw[csnew.1];exact (bA.1 hq).1
         refine ⟨csnew.2.1 q (ba hq),_,?_,csnew.2.2 bytes q _ hq (aH hj)⟩;simp only[arr',List.getElem?_toArray];rw[bU hj,aH hj]) _ hnw1 hnw2
        unfold Lk;rw[exec hrun];refine ⟨_,φ',rfl,p2,p3,p4,.G p1 hfit hcap ⟨blk.ty,?_⟩⟩;unfold tG;rw[setRow_heap w k arr arr' blk.ty (0,0) g1];simp[hsize,harr]
       ·
        have hold:(Pp sz.size n (.slice (Z ⟨k,0,U⟩) n cap)).run P w.drew= .ok (arr.toList.take (n*sz.size)).toArray w.drew:=by
         refine run_firstCells_some w.drew sz.size n _ n cap _ (by simp;omega) λbytes v hv=>?_
         rw[gx]at hv;split at hv
         .rw[dj]at hv;rw[mg,b9];have hcl:w.cell? ⟨k,bytes,U⟩=Z v:=by simp[Sl,g1,hv]
          simpa using hcl
         .cases hv
        exact X4 ho hu i1 hz hzl hrep hnx hzv hold (by
         have:=g2.take (n*sz.size)
         rwa [List.take_take,I5 hlen]at this) (by simp;omega) hsrc hcs (by omega) r1 r2 [id] (λbytes hj=>by simp at hj;subst hj;exact λe=>hne e.symm)
     .cases D
    .cases D
   .split at D
    .rename_i hc;simp only[au]at hc;let⟨z,hroom⟩:=hc;let⟨r1,r2⟩:=L_ hroom;have hbase:∀{φ:PM} {O:Nat->Prop} {w:World} {v:Value},cz φ O w bv v->∃A,v= .slice A 0 0:=by
      intro φ O w v hr;unfold E9 at z;split at z
      .cases hr;exact⟨_,rfl⟩
      .rename_i q;cases fR hr;unfold Dh at z;split at z
       .exact⟨_,rfl⟩
       .cases z
      .cases z
     split at D
     .rename_i hm;have hm:m=0:=by simpa using hm
      subst hm;cases D;refine gO.reads λφ E h' w a hrd hp hrep=>?_
      let⟨vs,hsrc,hcs⟩:=common hrd hp hrep;have hr:=hp t _ (by rw[ho];simp[Op.operands,eX]) hsv;let⟨A,hA⟩:=hbase hr;refine ⟨a.eval t,exec ?_,hr⟩;rw[hA];have hvs:vs=[]:=by have:=hsrc.newsLen;simpa using this
      have hc0:=hsrc.cells;rw[hvs]at hc0;rcases hsrc.kind with ⟨e',hk⟩|hk<;>cases A<;>simp[Builtin.append_,run_underlying hu,run_underlying hk,sizeOf,typeInfo,i1,hsrc.len,hc0,storeCells]
     .rename_i hm;have hm:m≠0:=by simpa using hm
      cases D;intro φ E h' w a h1 h2 h3 hrep h5;have hp:Rel φ E h' w a e o:=λc y N hy=>xB hrep h3 N hy
      let⟨vs,hsrc,hcs⟩:=common (λsz hi=>h1 sz hi) hp hrep;let⟨A,hA⟩:=hbase (hp t _ (by rw[ho];simp[Op.operands,eX]) hsv);have hold:(Pp sz.size 0 (.slice A 0 0)).run P w.drew= .ok ([]:ξ).toArray w.drew:=by
       cases A with
       |none=>exact run_firstCells_none w.drew sz.size 0 0 0
       |some ad=>exact run_firstCells_some w.drew sz.size 0 ad 0 0 [] (by simp) (by intro bytes v hv;simp at hv)
      have:=X4 (nx:=nx) (n:=0) (cap:=0) (olds:=[]) (oldA:=[]) ho hu i1 hz hzl hrep (h5 nx (by simp[EB.eff])) hA hold ⟨rfl,(by intro c N;cases N),(by intro bytes c v N;simp at N)⟩ (by simp) hsrc hcs (by omega) (by omega) (by simpa using r2) [] (by simp);simpa[EB.eff] using this
    .cases D
  .cases D
 .cases D
end
section
variable {P:Program} {o:Oper} {e:ED} {h:mU} {nx:Nat} {R:EB}
def axp (D:o.op= .makeMap s U) (z:dO .mkm e h nx=Z R):gO P o e.get h.get R.eff:=by
 simp[dO,ah]at z;subst z;refine gO.makes λφ E h' w a _ _ _=>?_
 refine ⟨.map (Z w.heap.size),{w with heap:=w.heap.push (.map #[] 0)},.map #[] 0,?_,sT w _,⟨#[],0,rfl,by unfold MpK;rfl,by intro j x A;simp at A⟩,λφ' O hφ=>.mp hφ⟩;unfold execOp;rw[D];simp[Instr.makeMap,newObj,lj]
def axj (A:o.op= .range s c) (L:P.underlying s=Z .string) (z:dO (.rng c) e h nx=Z R):gO P o e.get h.get R.eff:=by
 simp[dO]at z;split at z
 .rename_i t D;simp[ah]at z;subst z;refine gO.makes λφ E h' w a _ hp _=>?_
  have N:=fR (hp c _ (by rw[A];simp[Op.operands]) D);refine ⟨.pointer (Z ⟨w.heap.size,0,U⟩),{w with heap:=w.heap.push (.stringIter t 0)},.stringIter t 0,?_,sT w _,rfl,λφ' O hφ=>.H hφ⟩;unfold execOp;rw[A];simp[Instr.range,run_underlying L,N,newObj,lj]
 .cases z
def vP {ob ob':Obj} (z:w.heap[i]? =Z ob) (h1:∀c t f,ob≠ .cells c t f) (D:∀c t f,ob'≠ .cells c t f):IY w {w with heap:=w.heap.setIfInBounds i ob'} i ob':=by
 have hlt:i<w.heap.size:=(dD.1 z).1;have hat:(w.heap.setIfInBounds i ob')[i]? =Z ob':=by simp[hlt]
 have hot:∀j,j≠i->(w.heap.setIfInBounds i ob')[j]? =w.heap[j]? :=λj A=>Array.getElem?_setIfInBounds_ne (λe=>A e.symm)
 refine ⟨rfl,rfl,rfl,by simp,hat,hot,λj=>?_⟩;unfold tG
 grind
def axk (ho:o.op= .next c J) (A:dO (.nxt c) e h nx=Z R):gO P o e.get h.get R.eff:=by
 simp only[dO]at A;split at A
 .rename_i id hx;split at A
  .rename_i ty s p hid;split at A
   .rename_i b hb;cases A;refine gO.writes hid λφ E h' w a hrd N hp hrep=>?_
    have hr:=hp c _ (by rw[ho];simp[Op.operands]) hx;generalize hz:a.eval c=z at hr;cases hr with
    |@H _ _ k hφ=>
     let⟨k',q1,_,ob,q2,q3⟩:=hrep.at_ id _ N;rw[hφ]at q1;cases q1;have q3:ob= .stringIter s p:=q3;subst q3;have hps:p<s.size:=by
      have:=(bA.1 hb).1;simpa using this
     have hget:s.get! p=b:=by
      have:s.data[p]? =Z b:=by grind
      have hpd:p<s.data.size:=(dD.1 this).1;have h2:s.data[p]! =s.data[p]:=getElem!_pos s.data p hpd;rw[pI hpd]at this;simp only[ByteArray.get!,h2];exact fO this
     have hdec:∃x:Nat,Utf8.decode s p=(x,wdA b s p)/\rnA b s p=(x:Int):=by
      unfold wdA rnA;cases hlt:eJ b.toNat 128 with
      |true=>
       refine ⟨b.toNat,?_,rfl⟩;have:=aY hlt;unfold Utf8.decode
       grind
      |false=>exact⟨(Utf8.decode s p).1,rfl,rfl⟩
     let⟨x,hdec,hc⟩:=hdec;refine ⟨.value (.tuple #[.bool J,.int .i64 p,.int .i32 x]),_,k,.stringIter s (p+wdA b s p),?_,hφ,vP q2 (by simp) (by simp),rfl,_,.inl rfl,?_⟩
     .unfold execOp;rw[ho];simp[Instr.next,hz,getObj,lj,q2,hps,hdec,setObj,goInt]
     .refine cz.qg (vs:=[.bool J,.int .i64 p,.int .i32 x]) rfl λj y v D L=>?_
      rw[hc]at D;rcases j with _|_|_|j<;>simp at D L
      .subst D L;exact .f (.raw _)
      .subst D L;exact .f (.raw _)
      .subst D L;exact .f (.raw _)
   .rename_i hb;cases A;refine gO.writes hid λφ E h' w a hrd N hp hrep=>?_
    have hr:=hp c _ (by rw[ho];simp[Op.operands]) hx;generalize hz:a.eval c=z at hr;cases hr with
    |@H _ _ k hφ=>
     let⟨k',q1,_,ob,q2,q3⟩:=hrep.at_ id _ N;rw[hφ]at q1;cases q1;have q3:ob= .stringIter s p:=q3;subst q3;have hps:¬p<s.size:=by simp_all
     refine ⟨.value (.tuple #[.bool af]),w,k,.stringIter s p,?_,hφ,⟨rfl,rfl,rfl,rfl,q2,λ_ _=>rfl,λ_=>rfl⟩,rfl,_,.inl rfl,?_⟩
     .unfold execOp;rw[ho];simp[Instr.next,hz,getObj,lj,q2,hps]
     .refine cz.qg (vs:=[.bool af]) rfl λj y v D L=>?_
      rcases j with _|j<;>simp at D L;subst D L;exact .f (.raw _)
  .cases A
 .cases A
def xL {a b:ByteArray}:tU a b=J↔a=b:=by
 unfold tU;constructor
 .intro h;have h1:a.data.toList=b.data.toList:=by grind
  cases a;simp_all
 .rintro rfl;simp
def Do (a b:ByteArray):(a==b)=tU a b:=by
 have h1:(a==b)=(a.data==b.data):=rfl;rw[h1,Bool.eq_iff_iff,xL,c5];constructor
 .intro h;cases a;congr 1
 .rintro rfl;rfl
def kd (str:Bool) (d:TypeDesc):Prop:=if str then d= .string else ∃k,d= .int k
def FC {str:Bool} {d:TypeDesc} (hd:kd str d) {A:Value} (D:yO str v=J) (z:wX .eql v A=Z (.bool b)):Instr.sameNow d v A=Z b:=by
 cases str with
 |true=>
  subst hd;cases v<;>simp[yO]at D;cases A<;>simp only[wX]at z<;>try (simp at z;done)
  simp[ah,Fn]at z;simp[Instr.sameNow,Do,z]
 |false=>
  obtain⟨q,rfl⟩:=hd;cases v<;>simp[yO]at D;cases A<;>simp only[wX]at z<;>try (simp at z;done)
  split at z
  next hkk=>have hkk':=eq_of_beq hkk;subst hkk';simp[ah,Fn]at z;simp[Instr.sameNow,<-z]
  .cases z
def WD {d:TypeDesc} (hd:kd b d) (L:yO b v=J):∀(es:Y l?) (ents:Y MapEntry) (i:Nat),ents.map (·.key)=es.map (·.1)->∀r,tM v es=Z r->
 (r=U/\jC d v ents i=Z U)\/∃(j:Nat) (k:AV) (m:MapEntry) (A:Value),r=Z k/\es[j]? =Z (A,k)/\ents[j]? =Z m/\jC d v ents i=Z (Z (i+j,m.val))/\wX .eql v A=Z (.bool J)
 |[],ents,i,he,r,h=>by
  cases ents with
  |nil=>simp[tM,ah]at h;exact .inl ⟨h.symm,rfl⟩
  |cons _ _=>simp at he
 |(A,k)::es,ents,i,he,r,h=>by
  cases ents with
  |nil=>simp at he
  |cons m ents=>
   simp[ch,e9]at he;let⟨z,N⟩:=he;simp[tM]at h;split at h
   next D=>simp[ah]at h;refine .inr ⟨0,k,m,A,h.symm,rfl,rfl,?_,D⟩;simp only[jC];rw[z,FC hd L D];rfl
   .rename_i D;have hs:=FC hd L D;rcases WD hd L es ents (i+1) N r h with ⟨h1,h2⟩|⟨j,v',m',k'',h1,h2,h3,h4,h5⟩
    .refine .inl ⟨h1,?_⟩;simp[jC];rw[z,hs];exact h2
    .refine .inr ⟨j+1,v',m',k'',h1,by simpa using h2,by simpa using h3,?_,h5⟩;simp[jC]
     grind
   .cases h
def FD {d:TypeDesc} (A:P.underlying s=Z d) (hd:kd b d) (str:Bool) (v:Value) (w:World):(mj str 10000 s v).run P w= .ok () w:=by
 have key:∀n,(mj str (n+1) s v).run P w= .ok () w:=λn=>by
  unfold kd at hd;cases b with
  |true=>simp[bq]at hd;subst hd;simp[mj,run_underlying A]
  |false=>simp[cZ,dZ]at hd;obtain⟨q,rfl⟩:=hd;simp[mj,run_underlying A]
 exact key 9999
def aie {ok:Bool} (h:cz V O w y v):cz V O w (pkV ok y b) (if ok then .tuple #[v,.bool b] else v):=by
 cases ok with
 |false=>exact h
 |true=>
  refine cz.qg (vs:=[v,.bool b]) rfl λj x u z A=>?_
  rcases j with _|_|j<;>simp at z A
  .grind
  .subst z A;exact .f (.raw _)
def arf {kt el:TypeId} {k:Operand} {str:Bool} {d:TypeDesc} (ho:o.op= .lookup s c k b) (hu:P.underlying s=Z (.map kt el)) (hk:P.underlying kt=Z d) (hd:kd str d) (L:(P.info? el).bind (·.zero)=Z v) (A:dO (.jb str b v c k) e h nx=Z R):gO P o e.get h.get R.eff:=by
 simp only[dO]at A;split at A
 .rename_i id key hx hkx;split at A
  .rename_i es hid;split at A
   .rename_i hko;have fin:∀val:AV,(∀(φ:PM) (E:Nat->Prop) (h':HF) (w:World) (a:Act),h' id=Z ⟨0,.mp es⟩->Rel φ E h' w a e o->sE φ E h' w->∃z,(execOp a.eval o).run P w= .ok (.value z) w/\cz φ (tot E φ h') w val z)->R=⟨val,[id],[],[],[]⟩->gO P o e.get h.get R.eff:=by
     rintro val hv rfl;exact gO.reads λφ E h' w a hrd hp hrep=>hv φ E h' w a (by rw[hrd id (by simp)];exact hid) hp hrep
    have zrun:∀w:World,(zeroValue el).run P w= .ok v w:=λw=>by
     cases hi:P.info? el with
     |none=>rw[hi]at L;cases L
     |some i=>rw[hi]at L;simp only[aD]at L;simp[zeroValue,typeInfo,hi,L]
    have main:∀r,tM key es=Z r->∀(φ:PM) (E:Nat->Prop) (h':HF) (w:World) (a:Act),h' id=Z ⟨0,.mp es⟩->Rel φ E h' w a e o->sE φ E h' w->
     ∃z,(execOp a.eval o).run P w= .ok (.value z) w/\cz φ (tot E φ h') w (match r with|some z=>pkV b z J|none=>pkV b (raw v) af) z:=by
     intro r hr φ E h' w a hb' hp hrep;have hrx:=hp c _ (by rw[ho];simp[Op.operands]) hx;have hrk:=fR (hp k _ (by rw[ho];simp[Op.operands]) hkx);generalize D:a.eval c=zz at hrx;cases hrx with
     |@mp _ ok hφ=>
      let⟨k',q1,_,ob,q2,q3⟩:=hrep.at_ id _ hb';rw[hφ]at q1;cases q1;obtain⟨ents,clock,rfl,q4,q5⟩:=q3;have q4:ents.toList.map (·.key)=es.map (·.1):=by unfold MpK at q4;exact q4
      have hck:=FD (P:=P) hk hd ents.isEmpty key w;rcases WD hd hko es ents.toList 0 q4 r hr with ⟨h1,h2⟩|⟨j,z,m,k',h1,h2,h3,h4,_⟩
      .subst h1;refine ⟨_,?_,aie (.f (.raw v))⟩;unfold execOp;rw[ho];cases b<;>simp[Instr.lookup,run_underlying hu,D,hrk,getObj,lj,q2,hck,zV,run_underlying hk,h2,zrun]
      .subst h1;let⟨_,N,h7⟩:=q5 j _ h2;unfold MpV at N;obtain⟨m',N,rfl⟩:=N;rw[dj]at h3;rw[h3]at N;cases N;refine ⟨_,?_,aie h7⟩;unfold execOp;rw[ho];cases b<;>simp[Instr.lookup,run_underlying hu,D,hrk,getObj,lj,q2,hck,zV,run_underlying hk,h4]
    split at A
    next z hf=>simp only[ah]at A;exact fin _ (main _ hf) A.symm
    next hf=>simp only[ah]at A;exact fin _ (main _ hf) A.symm
    .cases A
   .cases A
  .cases A
 .cases A
def abg {d:TypeDesc} (hd:kd b d) (N:yO b v=J) {k:AV}:∀(es es':Y l?) (ents:Y MapEntry) (i:Nat),ents.map (·.key)=es.map (·.1)->An v k es=Z es'->
 (jC d v ents i=Z U/\es'=es++[(v,k)])\/∃(j:Nat) (m:MapEntry) (A:Value) (L:AV),es[j]? =Z (A,L)/\ents[j]? =Z m/\jC d v ents i=Z (Z (i+j,m.val))/\wX .eql v A=Z (.bool J)/\es'=es.set j (v,k)
 |[],es',ents,i,he,h=>by
  cases ents with
  |nil=>simp[An,ah]at h;exact .inl ⟨rfl,by simp[h]⟩
  |cons _ _=>simp at he
 |(A,L)::es,es',ents,i,he,h=>by
  cases ents with
  |nil=>simp at he
  |cons m ents=>
   simp[ch,e9]at he;let⟨z,he2⟩:=he;simp[An]at h;split at h
   next D=>simp[ah]at h;refine .inr ⟨0,m,A,L,rfl,rfl,?_,D,by simp[h]⟩;simp only[jC];rw[z,FC hd N D];rfl
   .rename_i D;have hs:=FC hd N D;split at h
    .rename_i es2 hes2;simp[ah]at h;subst h;rcases abg hd N es es2 ents (i+1) he2 hes2 with ⟨h1,h2⟩|⟨j,m',k'',v'',h1,h2,h3,h4,h5⟩
     .refine .inl ⟨?_,by simp[h2]⟩;simp[jC];rw[z,hs];exact h1
     .refine .inr ⟨j+1,m',k'',v'',by simpa using h1,by simpa using h2,?_,h4,by simp[h5]⟩;simp[jC]
      grind
    .cases h
   .cases h
def ak7 {A:Value} (D:yO b v=J) (z:wX .eql v A=Z (.bool J)):mi 10000 A v=J/\A=v:=by
 cases b with
 |true=>
  cases v<;>simp[yO]at D;cases A<;>simp only[wX]at z<;>try (simp at z;done)
  simp[ah,Fn]at z;have:=xL.1 z;subst this;exact⟨by simp[mi,Do,z],rfl⟩
 |false=>
  cases v<;>simp[yO]at D;cases A<;>simp only[wX]at z<;>try (simp at z;done)
  split at z
  next hkk=>have hkk':=eq_of_beq hkk;subst hkk';simp[ah,Fn,c5]at z;subst z;exact⟨by simp[mi],rfl⟩
  .cases z
def are {kt el:TypeId} {k y:Operand} {str:Bool} {d:TypeDesc} (ho:o.op= .mapUpdate s c k y) (hu:P.underlying s=Z (.map kt el)) (hk:P.underlying kt=Z d) (hd:kd str d) (z:dO (.jf str c k y) e h nx=Z R):gO P o e.get h.get R.eff:=by
 simp only[dO]at z;split at z
 .rename_i id key v L hkx hy;split at z
  .rename_i es hid;split at z
   .rename_i hko;split at z
    .rename_i es' hput;cases z;refine gO.writes hid λφ E h' w a hrd hb' hp hrep=>?_
     have hrx:=hp c _ (by rw[ho];simp[Op.operands]) L;have hrk:=fR (hp k _ (by rw[ho];simp[Op.operands]) hkx);have hry:=hp y _ (by rw[ho];simp[Op.operands]) hy;generalize D:a.eval c=zz at hrx;cases hrx with
     |@mp _ b hφ=>
      let⟨k',q1,_,ob,q2,q3⟩:=hrep.at_ id _ hb';rw[hφ]at q1;cases q1;obtain⟨ents,clock,rfl,q4,q5⟩:=q3;have q4:ents.toList.map (·.key)=es.map (·.1):=by unfold MpK at q4;exact q4
      have q5:∀(j:Nat) c,es[j]? =Z c->∃m,ents[j]? =Z m/\cz φ (tot E φ h') w c.2 m.val:=λj c L=>by
       let⟨_,A,g2⟩:=q5 j c L;unfold MpV at A;obtain⟨m,A,rfl⟩:=A;exact⟨m,A,g2⟩
      have Ji:∀(es:Y l?) (ents:Array MapEntry) (clock:Nat),ents.toList.map (·.key)=es.map (·.1)->(∀(j:Nat) c,es[j]? =Z c->∃m,ents[j]? =Z m/\cz φ (tot E φ h') w c.2 m.val)->ic φ (tot E φ h') w ⟨0,.mp es⟩ (.map ents clock):=λes ents clock A g2=>⟨ents,clock,rfl,by unfold MpK;exact A,λj c L=>by
       let⟨m,g3,g4⟩:=g2 j c L;exact⟨_,by unfold MpV;exact⟨m,g3,rfl⟩,g4⟩⟩
      have hck:=FD (P:=P) hk hd af key w;have hlen:ents.size=l! es:=by have:=e_ aj q4;simpa using this
      rcases abg hd hko es es' ents.toList 0 q4 hput with ⟨h1,rfl⟩|⟨j,m,k',v',h1,h2,h3,h4,rfl⟩
      .refine ⟨.skip,_,b,.map (ents.push {key,val:=a.eval y,born:=clock}) (clock+1),?_,hφ,vP q2 (by simp) (by simp),Ji _ _ _ (by simp[q4]) λj q N=>?_,undef,.inr ⟨rfl,rfl⟩,.f (.raw _)⟩
       .unfold execOp;rw[ho];simp[Instr.mapUpdate,run_underlying hu,D,hrk,getObj,lj,q2,hck,zV,run_underlying hk,h1,setObj]
       .rcases cJ j (l! es) with hj|hj
        .grind
        .rw[cm hj]at N;have hj0:j-l! es=0:=by grind
         rw[hj0]at N;simp at N;subst N;exact⟨_,by rw[Array.getElem?_push,aF (by omega)],hry⟩
      .obtain⟨s1,s2⟩:=ak7 hko h4;subst s2;rw[dj]at h2;rw[b9]at h3;have hjl:j<ents.size:=(dD.1 h2).1;have hmk:m.key=k':=by
        have e1:(ents.toList.map (·.key))[j]? =Z m.key:=by rw[bE,dj,h2];rfl
        rw[q4,bE,h1]at e1;simpa using e1.symm
       refine ⟨.skip,_,b,.map (ents.modify j λe=>{e with key:=k',val:=a.eval y}) clock,?_,hφ,vP q2 (by simp) (by simp),Ji _ _ _ ?_ λi q N=>?_,undef,.inr ⟨rfl,rfl⟩,.f (.raw _)⟩
       .unfold execOp;rw[ho];simp[Instr.mapUpdate,run_underlying hu,D,hrk,getObj,lj,q2,hck,zV,run_underlying hk,h3,setObj,h2,hmk,Instr.keyThatStays,s1]
       .apply pZ;intro i;simp only[bE,dj,ey,Array.getElem?_modify];have e2:∀i:Nat,(ents[i]?).map (λm:MapEntry=>m.key)=(es[i]?).map (λp:Value×AV=>p.1):=λi=>by
         have:=e_ (λl=>l[i]?) q4;simpa[bE,dj] using this
        grind
       .grind
    .cases z
   .cases z
  .cases z
 .cases z
end
section
variable {P:Program} {o:Oper} {e:ED} {h:mU} {nx:Nat} {R:EB}
def Mh {d:TypeDesc} (A:P.underlying s=Z d) (hd:(match d with|.int _=>J|.bool=>J|.string=>J|_=>af)=J) (cs:Array Value) (j:Nat) (v:Value) (z:cs[j]? =Z v) (w:World):(part s cs j).run P w= .ok v w:=by
 unfold part;simp[isAgg,fE,run_underlying A,c4];cases d<;>simp at hd<;>simp[z]
def afg {d:TypeDesc} (z:P.underlying s=Z d) (hd:(match d with|.int _=>J|.bool=>J|.string=>J|_=>af)=J) {x y:FV} (hxy:wF d x y=Z b) {u:Value} (L:x= .raw u) (D:y= .raw v) (n:Nat) (w:World):(Op.equalIn (n+1) s u v).run P w= .ok b w:=by
 subst L D;cases d<;>simp at hd<;>cases u<;>cases v<;>simp only[wF]at hxy<;>first|(cases hxy;done)|skip
 .cases hxy;simp[Op.equalIn,run_underlying z]
 .split at hxy
  next N=>have A:=eq_of_beq N;subst A;cases hxy;simp[Op.equalIn,run_underlying z]
  .cases hxy
 .cases hxy;simp[Op.equalIn,run_underlying z,Do]
abbrev TZ (n:Nat) (xs z:Array Value) (f:Field) (_:M Bool×Unit):Sem (ForInStep (M Bool×Unit)):=
 if f.name≠ "_" then do
  let a←part f.type xs f.offset
  let b←part f.type z f.offset
  let c←Op.equalIn (n+1) f.type a b
  if (!c)=J then pure (ForInStep.done (Z af,())) else pure (I7 (U,()))
 else pure (I7 (U,()))
def RM (n:Nat) (w:World) (xs A:Array Value):∀(fs:Y Field) (ds:Y TypeDesc) (a b:Y FV) (k:Nat) (r:Bool),lR P k fs=Z ds->
 (∀(j:Nat) x u,a[j]? =Z x->xs[k+j]? =Z u->x= .raw u\/∀v,x≠ .raw v)->(∀(j:Nat) x u,b[j]? =Z x->A[k+j]? =Z u->x= .raw u\/∀v,x≠ .raw v)->(∀(j:Nat),j<l! a->k+j<xs.size)->(∀(j:Nat),j<l! b->k+j<A.size)->jL ds a b=Z r->
 (forIn fs (U,()) (TZ n xs A)).run P w= .ok (if r then (U,()) else (Z af,())) w
 |[],ds,a,b,k,r,hp,_,_,_,_,he=>by
  simp only[lR,ah]at hp;subst hp;cases a<;>cases b<;>simp[jL]at he;subst he;simp
 |f::fs,ds,a,b,k,r,hp,ha,hb,hla,hlb,he=>by
  simp only[lR]at hp;split at hp
  .rename_i d ds' hu hp';split at hp
   .rename_i hc;simp only[au,bne_iff_ne,ne_eq,c5]at hc;let⟨⟨hn,hof⟩,hd⟩:=hc;cases hp;cases a with
    |nil=>cases b<;>simp[jL]at he
    |cons x a=>
     cases b with
     |nil=>simp[jL]at he
     |cons y b=>
      simp only[jL]at he;have N:k<xs.size:=by have:=hla 0 (by simp);omega
      have L:k<A.size:=by have:=hlb 0 (by simp);omega
      have hraw:∀(z:FV) (q:Value),(z= .raw q\/∀v,z≠ .raw v)->(∃v,z= .raw v)->z= .raw q:=by
       rintro z q (h|h) ⟨v,hv⟩
       .exact h
       .exact bC hv (h v)
      have hxr:∀D,wF d x y=Z D->x= .raw xs[k]/\y= .raw A[k]:=by
       intro D hbb;have hrr:(∃v,x= .raw v)/\∃v,y= .raw v:=by
        unfold wF at hbb;split at hbb
        .exact⟨⟨_,rfl⟩,⟨_,rfl⟩⟩
        .exact⟨⟨_,rfl⟩,⟨_,rfl⟩⟩
        .exact⟨⟨_,rfl⟩,⟨_,rfl⟩⟩
        .cases hbb
       exact⟨hraw x _ (ha 0 x _ rfl (by simp[N])) hrr.1,hraw y _ (hb 0 y _ rfl (by simp[L])) hrr.2⟩
      have hstep:∀D,wF d x y=Z D->(TZ n xs A f (U,())).run P w= .ok (if D then I7 (U,()) else ForInStep.done (Z af,())) w:=by
       intro D hbb;let⟨h1,h2⟩:=hxr D hbb;have p1:=Mh hu (by cases d<;>simp[ES]at hd<;>rfl) xs k xs[k] (by simp[N]) w;have p2:=Mh hu (by cases d<;>simp[ES]at hd<;>rfl) A k A[k] (by simp[L]) w;have p3:=afg hu (by cases d<;>simp[ES]at hd<;>rfl) hbb h1 h2 n w;unfold TZ;rw[aF hn,hof];simp only[fE,p1,p2,p3,c4];cases D<;>simp
      rw[List.forIn_cons];simp only[fE];split at he
      .rename_i hbb;rw[hstep J hbb];simp only[c4,bq];exact RM n w xs A fs ds' a b (k+1) r hp' (λj x u h1 h2=>ha (j+1) x u (by simpa using h1) (by rw[<- h2];congr 1;omega)) (λj x u h1 h2=>hb (j+1) x u (by simpa using h1) (by rw[<- h2];congr 1;omega))
        (λj hj=>by have:=hla (j+1) (by simpa using hj);omega) (λj hj=>by have:=hlb (j+1) (by simpa using hj);omega) he
      next hbb=>rw[hstep af hbb];cases he;simp
      .cases he
   .cases hp
  .cases hp
variable {E:Array Field} {K:Y TypeDesc}
def RL (L:P.underlying s=Z (.struct E)) (N:P.stoodInHeld s=af) (hp:lR P 0 E.toList=Z K) (xs z:Array Value) {a r:Y FV} 
 (ha:∀(j:Nat) x u,a[j]? =Z x->xs[j]? =Z u->x= .raw u\/∀v,x≠ .raw v) (hb:∀(j:Nat) x u,r[j]? =Z x->z[j]? =Z u->x= .raw u\/∀v,x≠ .raw v) (hla:l! a=xs.size) (hlb:l! r=z.size) (he:jL K a r=Z b) (w:World):
 (Op.equal s (.agg xs) (.agg z)).run P w= .ok b w:=by
 have key:∀n,(Op.equalIn (n+2) s (.agg xs) (.agg z)).run P w= .ok b w:=by
  intro n;rw[Op.equalIn];have h1:=RM (P:=P) n w xs z E.toList K a r 0 b hp (λj x u h1 D=>ha j x u h1 (by grind)) (λj x u h1 D=>hb j x u h1 (by grind)) (λj hj=>by omega) (λj hj=>by omega) he;rw[Array.forIn_toList]at h1;simp only[fE,run_underlying L,c4,program,lj,N,cZ,dZ];have D:(forIn E (U,()) (λf __s=>TZ n xs z f __s)).run P w= .ok (if b then (U,()) else (Z af,())) w:=h1;rw[D];cases b<;>simp
 exact key 9998
def WP (hu:P.underlying s=Z (.struct E)) (hp:lR P 0 E.toList=Z K):P.eqGuardType P.depth s=af:=by
 have key:∀(E:Y Field) (k:Nat) (K:Y TypeDesc),lR P k E=Z K→∀d,(E.any λf=>f.name != "_" &&P.eqGuardType (d+1) f.type)=af:=by
  intro E;induction E with
  |nil=>intros;rfl
  |cons f E N=>
   intro k K hp d;simp only[lR]at hp;split at hp
   .rename_i dd ds' A D;split at hp
    .rename_i L;simp[au]at L;have:P.eqGuardType (d+1) f.type=af:=by
      unfold Program.eqGuardType;rw[A];have:=L.2;cases dd<;>simp[ES]at this<;>rfl
     simp only[List.any_cons,this,Bool.and_false,Bool.false_or];exact N (k+1) ds' D d
    .cases hp
   .cases hp
 unfold Program.depth Program.eqGuardType;rw[hu];simp only[];rw[← Array.any_toList];exact key E.toList 0 K hp _
def arh {t':TypeId} {op:BinOp} {neg:Bool} {y:Operand} (ho:o.op= .binOp op s c y t') (hop:op=if neg then .neq else .eql) (L:P.underlying s=Z (.struct E)) (hs:P.stoodInHeld s=af) (hp:lR P 0 E.toList=Z K) (z:dO (.xq neg K c y) e h nx=Z R):gO P o e.get h.get R.eff:=by
 simp[dO]at z;split at z
 .rename_i a b D hy;split at z
  .rename_i r hr;rw[dJ z];refine gO.reads λφ fs h' w ac _ hpp _=>?_
   have h1:=hpp c _ (by rw[ho];simp[Op.operands]) D;have A:=hpp y _ (by rw[ho];simp[Op.operands]) hy;generalize hzx:ac.eval c=zx at h1;generalize hzy:ac.eval y=zy at A;have rawOr:∀(l:Y FV) (vs:ξ),(∀(j:Nat) c v,l[j]? =Z c->vs[j]? =Z v->nN (tot fs φ h') w c v)->∀(j:Nat) c u,l[j]? =Z c->vs.toArray[j]? =Z u->c= .raw u\/∀v,c≠ .raw v:=by
    intro l vs hr j c u D L;have:=hr j c u D (by grind);cases this with
    |raw v=>exact .inl rfl
    |_=>exact .inr (by simp)
   cases h1 with
   |f h1=>
    cases h1 with
    |agg _ vs hl hcl hr1=>
     cases A with
     |f A=>
      cases A with
      |agg _ us hl' hcl' N=>
       have heq:=RL L hs hp vs.toArray us.toArray (rawOr a vs hr1) (rawOr b us N) (by grind) (by grind) hr w;refine ⟨_,?_,.f (.raw _)⟩;have hg:=WP L hp;unfold execOp;rw[ho];simp[hzx,hzy];subst hop;cases neg<;>simp[eqGuard,program,lj,hg,binOp,heq]
  .cases z
 .cases z
end
section
variable {P:Program} {o:Oper} {e:ED} {h:mU} {nx:Nat} {R:EB}
def HQ:∀{l:Y FV} {vs:ξ},Jc l=Z vs->l=vs.map .raw
 |[],vs,h=>by simp[Jc,ah]at h;subst h;rfl
 |x::r,vs,h=>by
  cases x with
  |raw v=>
   simp[Jc]at h;split at h
   next l z=>simp[ah]at h;subst h;rw[ch,<-HQ z]
   .cases h
  |_=>simp[Jc]at h
def ai5 {u:Value} (h:nN O w (.raw v) u):u=v:=by cases h;rfl
def Vk {vs:ξ} (N:l! vs=l! L) (z:∀(j:Nat) x v,(L.map FV.raw)[j]? =Z x->vs[j]? =Z v->nN O w x v):vs=L:=by
 apply pZ;intro j;rcases cJ j (l! L) with A|A
 .have h1:(L.map FV.raw)[j]? =Z (.raw L[j]):=by simp[A]
  have D:vs[j]? =Z (vs[j]'(by omega)):=aH (by omega);have:=z j _ _ h1 D;rw[D,aH A,ai5 this]
 .grind
def ML (z:ael y=Z L) (D:cz V O w y v):v= .agg L.toArray:=by
 cases D with
 |f D=>
  cases D with
  |agg cells vs N hcl hrr=>
   have:=HQ (show Jc cells=Z L from z);subst this;rw[Vk (by grind) hrr]
  |_=>simp[ael]at z
 |@agg cells vs N hcl hrr=>
  simp[ael]at z;split at z
  .rename_i fs hfs;have:=HQ z;have:=nI hfs;have key:vs=L:=Vk (O:=O) (w:=w) (by grind) λj x u hx A=>by
    have:=hrr j (.f x) u (by grind) A;cases this with
    |f h=>exact h
   rw[key]
  .cases z
 |_=>simp[ael]at z
structure EC (P:Program) (kt:TypeId) (fs:Array Field) (ds:List TypeDesc):Prop where
 hu:P.underlying kt=Z (.struct fs)
 hs:P.stoodInHeld kt=af
 hp:lR P 0 fs.toList=Z ds
variable {K:Y TypeDesc}
def HW (h:ER P s=Z K):∃z,EC P s z K:=by
 unfold ER at h;split at h
 .rename_i z D;split at h
  .cases h
  next hst=>exact⟨z,D,by simpa using hst,h⟩
 .cases h
variable {E:Array Field}
def rE (ds:EC P s E K) {A:Value} (z:DW K L A=Z b) (w:World):(Op.equal s (.agg L.toArray) A).run P w= .ok b w:=by
 unfold DW at z;split at z
 .rename_i N;refine RL ds.hu ds.hs ds.hp L.toArray N (λj x u hx hu=>?_) (λj x u hx hu=>?_) (by simp) (by simp) z w
  .grind
  .grind
 .cases z
abbrev akj (z:Bool) (n:Nat) (cs:Array Value) (f:Field) (_:Unit):Sem (ForInStep Unit):=
 if f.name≠ "_" then do
  let a←part f.type cs f.offset
  mj z (n+1) f.type a
  pure (I7 ())
 else pure (I7 ())
def Sa (D:Bool) (n:Nat) (w:World) (cs:Array Value):∀(z:Y Field) (ds:Y TypeDesc) (k:Nat),lR P k z=Z ds->k+l! z<=cs.size->
 (forIn z () (akj D n cs)).run P w= .ok () w
 |[],ds,k,hp,_=>by simp
 |f::z,ds,k,hp,hk=>by
  simp only[lR]at hp;split at hp
  .rename_i d ds' L A;split at hp
   .rename_i N;simp[au,bne_iff_ne,ne_eq,c5]at N;let⟨⟨hn,hof⟩,hd⟩:=N;simp[jX]at hk;have p1:=Mh L (by cases d<;>simp[ES]at hd<;>rfl) cs k (cs[k]'(by omega)) (by simp) w;have p2:(mj D (n+1) f.type (cs[k]'(by omega))).run P w= .ok () w:=by
     cases d<;>simp[ES]at hd<;>simp[mj,run_underlying L]
    have ih:=Sa D n w cs z ds' (k+1) A (by omega);simp_all
   .cases hp
  .cases hp
def aa6 (ds:EC P s E K) (A:Bool) {cs:Array Value} (L:l! E.toList<=cs.size) (w:World):(mj A 10000 s (.agg cs)).run P w= .ok () w:=by
 have key:∀n,(mj A (n+2) s (.agg cs)).run P w= .ok () w:=by
  intro n;rw[mj];have h1:=Sa (P:=P) A n w cs E.toList K 0 ds.hp (by omega);rw[Array.forIn_toList]at h1;simp[fE,run_underlying ds.hu,c4];have N:(forIn E () λf D=>akj A n cs f D).run P w= .ok () w:=h1;simp_all
 exact key 9998
def Nt {m:MapEntry} {r:Y MapEntry} :jC (.struct E) v (m::r) i=U:=by
 simp[jC];have:Instr.sameNow (.struct E) v m.key=U:=by rfl
 rw[this]
def Ci (ds:EC P s E K) (k:Value) (ents:Y MapEntry) (w:World):(zV s k ents).run P w=(di s k ents).run P w:=by
 cases ents with
 |nil=>simp[zV,run_underlying ds.hu,jC,di]
 |cons m r=>simp[zV,run_underlying ds.hu,Nt]
def WE (ds:EC P s E K) (w:World):∀(es:Y l?) (ents:Y MapEntry) (i:Nat),ents.map (·.key)=es.map (·.1)->∀r,Ja K L es=Z r->
 (r=U/\(di s (.agg L.toArray) ents i).run P w= .ok U w)\/∃(j:Nat) (v:AV) (m:MapEntry) (N:Value),r=Z v/\es[j]? =Z (N,v)/\ents[j]? =Z m/\(di s (.agg L.toArray) ents i).run P w= .ok (Z (i+j,m.val)) w
 |[],ents,i,he,r,h=>by
  cases ents with
  |nil=>simp[Ja,ah]at h;exact .inl ⟨h.symm,by simp[di]⟩
  |cons _ _=>simp at he
 |(N,v)::es,ents,i,he,r,h=>by
  cases ents with
  |nil=>simp at he
  |cons m ents=>
   simp[ch,e9]at he;let⟨z,he2⟩:=he;simp[Ja]at h;split at h
   next A=>simp[ah]at h;refine .inr ⟨0,v,m,N,h.symm,rfl,rfl,?_⟩;rw[di,z];simp[rE ds A w]
   .rename_i A;rcases WE ds w es ents (i+1) he2 r h with ⟨h1,h2⟩|⟨j,v',m',k'',h1,h2,h3,h4⟩
    .refine .inl ⟨h1,?_⟩;rw[di,z];simp[rE ds A w,h2]
    .refine .inr ⟨j+1,v',m',k'',h1,by simpa using h2,by simpa using h3,?_⟩;rw[di,z];simp[rE ds A w,h4];omega
   .cases h
def U9 (ds:EC P s E K) (w:World):∀(es es':Y l?) (ents:Y MapEntry) (i:Nat),ents.map (·.key)=es.map (·.1)->YO K L y es=Z es'->
 ((di s (.agg L.toArray) ents i).run P w= .ok U w/\es'=es++[(.agg L.toArray,y)])\/∃(j:Nat) (m:MapEntry) (A:Value) (N:AV),es[j]? =Z (A,N)/\ents[j]? =Z m/\(di s (.agg L.toArray) ents i).run P w= .ok (Z (i+j,m.val)) w/\DW K L A=Z J/\es'=es.set j (.agg L.toArray,y)
 |[],es',ents,i,he,h=>by
  cases ents with
  |nil=>simp[YO,ah]at h;exact .inl ⟨by simp[di],by simp[h]⟩
  |cons _ _=>simp at he
 |(A,N)::es,es',ents,i,he,h=>by
  cases ents with
  |nil=>simp at he
  |cons m ents=>
   simp[ch,e9]at he;let⟨z,he2⟩:=he;simp[YO]at h;split at h
   next D=>simp[ah]at h;refine .inr ⟨0,m,A,N,rfl,rfl,?_,D,by simp[h]⟩;rw[di,z];simp[rE ds D w]
   .rename_i D;split at h
    .rename_i es2 hes2;simp[ah]at h;subst h;rcases U9 ds w es es2 ents (i+1) he2 hes2 with ⟨h1,h2⟩|⟨j,m',k'',v'',h1,h2,h3,h4,h5⟩
     .refine .inl ⟨?_,by simp[h2]⟩;rw[di,z];simp[rE ds D w,h1]
     .refine .inr ⟨j+1,m',k'',v'',by simpa using h1,by simpa using h2,?_,h4,by simp[h5]⟩;rw[di,z];simp[rE ds D w,h3];omega
    .cases h
   .cases h
def U' (ds:EC P s E K) (w:World):∀(es es':Y l?) (ents:Y MapEntry) (i:Nat),ents.map (·.key)=es.map (·.1)->YP K L es=Z es'->
 ((di s (.agg L.toArray) ents i).run P w= .ok U w/\es'=es)\/∃(j:Nat) (m:MapEntry),j<l! es/\ents[j]? =Z m/\(di s (.agg L.toArray) ents i).run P w= .ok (Z (i+j,m.val)) w/\es'=es.eraseIdx j
 |[],es',ents,i,he,h=>by
  cases ents with
  |nil=>simp only[YP,ah]at h;exact .inl ⟨by simp[di],h.symm⟩
  |cons _ _=>simp at he
 |(k',v')::es,es',ents,i,he,h=>by
  cases ents with
  |nil=>simp at he
  |cons m ents=>
   simp[ch,e9]at he;let⟨z,N⟩:=he;simp[YP]at h;split at h
   next A=>simp[ah]at h;refine .inr ⟨0,m,by simp,rfl,?_,by simp[h]⟩;rw[di,z];simp[rE ds A w]
   .rename_i A;split at h
    .rename_i es2 hes2;simp[ah]at h;subst h;rcases U' ds w es es2 ents (i+1) N hes2 with ⟨h1,h2⟩|⟨j,m',h1,h2,h3,h5⟩
     .refine .inl ⟨?_,by simp[h2]⟩;rw[di,z];simp[rE ds A w,h1]
     .refine .inr ⟨j+1,m',by simp;omega,by simpa using h2,?_,by simp[h5]⟩;rw[di,z];simp[rE ds A w,h3];omega
    .cases h
   .cases h
def NA:∀{ds:Y TypeDesc} {L A:ξ},jL ds (L.map .raw) (A.map .raw)=Z J->L=A/\∀x∈L,∀n,mi n x x=J
 |[],[],[],_=>⟨rfl,λx D=>by cases D⟩
 |[],[],_::_,h|[],_::_,A,h|_::_,[],A,h|_::_,_::_,[],h=>by simp[jL]at h
 |d::ds,k::L,v::A,h=>by
  simp only[ch,jL]at h;split at h
  .rename_i z;let⟨e1,e2⟩:=NA h;have key:k=v/\∀n,mi n k k=J:=by
    cases d<;>cases k<;>cases v<;>simp only[wF]at z<;>first|(cases z;done)|skip
    .simp only[ah,c5]at z;subst z;exact⟨rfl,λn=>by cases n<;>simp[mi]⟩
    .split at z
     next N=>have N:=eq_of_beq N;simp only[ah,c5]at z;subst z N;exact⟨rfl,λn=>by cases n<;>simp[mi]⟩
     .cases z
    .simp only[ah]at z;have:=xL.1 z;subst this;exact⟨rfl,λn=>by cases n<;>simp[mi,Do,z]⟩
   refine ⟨by rw[key.1,e1],λx D n=>?_⟩;rcases a_.1 D with rfl|D
   .exact key.2 n
   .exact e2 x D n
  .cases h
  .cases h
def ahr (h:DW K L v=Z J):v= .agg L.toArray/\mi 10000 (.agg L.toArray) (.agg L.toArray)=J:=by
 unfold DW at h;split at h
 .rename_i z;let⟨D,e2⟩:=NA h;refine ⟨by rw[D],?_⟩;rw[mi];simp only[cw,du,iH];rintro⟨x,y⟩ hxy;have N:x=y/\x∈L:=by
   rw[List.mem_iff_getElem?]at hxy
   grind
  grind
 .cases h
def ZG {D:TypeId} (z:P.underlying s=Z (.pointer D)) (A:M Addr) (w:World):(Op.equal s (.pointer A) (.pointer U)).run P w= .ok A.isNone w:=by
 have key:∀d,(Op.equalIn (d+1) s (.pointer A) (.pointer U)).run P w= .ok A.isNone w:=λd=>by cases A<;>simp[Op.equalIn,run_underlying z]
 exact key 9999
def alc {neg:Bool} {op:BinOp} {y:Operand} {t' el:TypeId} (N:o.op= .binOp op s c y t') (hop:op=if neg then .neq else .eql) (hy:y= .const (.pointer U)) (hu:P.underlying s=Z (.pointer el)) (D:dO (.jw neg c) e h nx=Z R):gO P o e.get h.get R.eff:=by
 have key:∀(w:World) (ρ:Operand->Value) (A:M Addr),ρ c= .pointer A->ρ y= .pointer U->(execOp ρ o).run P w= .ok (.value (.bool (A.isNone !=neg))) w:=by
  intro w ρ A h1 h2;unfold execOp;rw[N];simp[h1,h2];subst hop;cases neg<;>simp[eqGuard,binOp,ZG hu]
 have hyv:∀a:Act,a.eval y= .pointer U:=λa=>by rw[hy];rfl
 simp[dO]at D;split at D
 .rename_i id off L;rw[dJ D];refine gO.reads λφ E h' w a _ hp _=>?_
  have h1:=hp c _ (by rw[N];simp[Op.operands]) L;generalize hz:a.eval c=z at h1;cases h1 with
  |H hφ=>exact⟨_,key w a.eval _ hz (hyv a),by simpa[raw] using cz.f (.raw _)⟩
 .rename_i cells off L;rw[dJ D];refine gO.reads λφ E h' w a _ hp _=>?_
  have h1:=hp c _ (by rw[N];simp[Op.operands]) L;generalize hz:a.eval c=z at h1;cases h1 with
  |f h1=>
   cases h1 with
   |H=>exact⟨_,key w a.eval _ hz (hyv a),by simpa[raw] using cz.f (.raw _)⟩
 .rename_i L;rw[dJ D];refine gO.reads λφ E h' w a _ hp _=>?_
  have h1:=fR (hp c _ (by rw[N];simp[Op.operands]) L);exact⟨_,key w a.eval _ h1 (hyv a),by simpa[raw] using cz.f (.raw _)⟩
 .cases D
def rH:∀{A:Y Field} {k:Nat} {ds:Y TypeDesc},lR P k A=Z ds->l! ds=l! A
 |[],k,ds,h=>by simp[lR,ah]at h;subst h;rfl
 |f::A,k,ds,h=>by
  simp[lR]at h;split at h
  .rename_i d ds' _ z;split at h
   .simp[ah]at h;subst h;rw[jX,rH z,jX]
   .cases h
  .cases h
def Y_ {y:M AV} (h:y.bind (aek K)=Z L):∃v,y=Z v/\ael v=Z L/\l! L=l! K:=by
 cases y with
 |none=>cases h
 |some v=>
  unfold aek at h
  grind
def axt {kt el:TypeId} {k:Operand} (N:o.op= .lookup s c k af) (hu:P.underlying s=Z (.map kt el)) (ds:EC P kt E K) (L:(P.info? el).bind (·.zero)=Z v) (A:dO (.lkq K v c k) e h nx=Z R):gO P o e.get h.get R.eff:=by
 simp[dO]at A;split at A
 .rename_i id ks hx hkx;let⟨yk,hkx,hkl,hkn⟩:=Y_ hkx;split at A
  .rename_i es hid;have zrun:∀w:World,(zeroValue el).run P w= .ok v w:=λw=>by
    cases hi:P.info? el with
    |none=>rw[hi]at L;cases L
    |some i=>rw[hi]at L;simp[aD]at L;simp[zeroValue,typeInfo,hi,L]
   have main:∀r,Ja K ks es=Z r->∀(φ:PM) (fs:Nat->Prop) (h':HF) (w:World) (a:Act),h' id=Z ⟨0,.mp es⟩->Rel φ fs h' w a e o->sE φ fs h' w->
    ∃z,(execOp a.eval o).run P w= .ok (.value z) w/\cz φ (tot fs φ h') w (match r with|some z=>z|none=>raw v) z:=by
    intro r hr φ fs h' w a hb' hp hrep;have hrx:=hp c _ (by rw[N];simp[Op.operands]) hx;have hrk:=ML hkl (hp k _ (by rw[N];simp[Op.operands]) hkx);generalize D:a.eval c=zz at hrx;cases hrx with
    |@mp _ b hφ=>
     let⟨k',q1,_,ob,q2,q3⟩:=hrep.at_ id _ hb';rw[hφ]at q1;cases q1;obtain⟨ents,clock,rfl,q4,q5⟩:=q3;have hlen:l! E.toList<=ks.toArray.size:=by have:=rH ds.hp;simp only[C2];omega
     have hck:=aa6 ds ents.isEmpty hlen w;have hfk:=Ci (P:=P) ds (.agg ks.toArray) ents.toList w;rcases WE ds w es ents.toList 0 q4 r hr with ⟨h1,h2⟩|⟨j,z,m,k',h1,h2,h3,h4⟩
     .subst h1;rw[h2]at hfk;refine ⟨_,?_,.f (.raw v)⟩;unfold execOp;rw[N];simp[Instr.lookup,run_underlying hu,D,hrk,getObj,lj,q2,hck,hfk,zrun]
     .subst h1;rw[h4]at hfk;let⟨_,h6,h7⟩:=q5 j _ h2;obtain⟨m',h6,rfl⟩:=h6;rw[dj]at h3;rw[h3]at h6;cases h6;refine ⟨_,?_,h7⟩;unfold execOp;rw[N];simp[Instr.lookup,run_underlying hu,D,hrk,getObj,lj,q2,hck,hfk]
   split at A
   next z hf=>simp[ah]at A;subst A;exact gO.reads λφ fs h' w a hrd hp hrep=>main _ hf φ fs h' w a (by grind) hp hrep
   next hf=>simp[ah]at A;subst A;exact gO.reads λφ fs h' w a hrd hp hrep=>main _ hf φ fs h' w a (by grind) hp hrep
   .cases A
  .cases A
 .cases A
def axo {kt el:TypeId} {k y:Operand} (ho:o.op= .mapUpdate s c k y) (hu:P.underlying s=Z (.map kt el)) (ds:EC P kt E K) (z:dO (.mpq K c k y) e h nx=Z R):gO P o e.get h.get R.eff:=by
 simp only[dO]at z;split at z
 .rename_i id A v L hkx hy;let⟨yk,hkx,hkl,hkn⟩:=Y_ hkx;split at z
  .rename_i es hid;split at z
   .rename_i es' hput;cases z;refine gO.writes hid λφ fs h' w a hrd hb' hp hrep=>?_
    have hrx:=hp c _ (by rw[ho];simp[Op.operands]) L;have hrk:=ML hkl (hp k _ (by rw[ho];simp[Op.operands]) hkx);have hry:=hp y _ (by rw[ho];simp[Op.operands]) hy;generalize D:a.eval c=zz at hrx;cases hrx with
    |@mp _ b hφ=>
     let⟨k',q1,_,ob,q2,q3⟩:=hrep.at_ id _ hb';rw[hφ]at q1;cases q1;obtain⟨ents,clock,rfl,q4,q5⟩:=q3;have q4:ents.toList.map (·.key)=es.map (·.1):=by unfold MpK at q4;exact q4
     have q5:∀(j:Nat) c,es[j]? =Z c->∃m,ents[j]? =Z m/\cz φ (tot fs φ h') w c.2 m.val:=λj c L=>by
      let⟨_,g1,g2⟩:=q5 j c L;unfold MpV at g1
      grind
     have Ji:∀(es:Y l?) (ents:Array MapEntry) (clock:Nat),ents.toList.map (·.key)=es.map (·.1)->(∀(j:Nat) c,es[j]? =Z c->∃m,ents[j]? =Z m/\cz φ (tot fs φ h') w c.2 m.val)->ic φ (tot fs φ h') w ⟨0,.mp es⟩ (.map ents clock):=λes ents clock g1 g2=>⟨ents,clock,rfl,by unfold MpK;exact g1,λj c L=>by
      let⟨m,g3,g4⟩:=g2 j c L;exact⟨_,by unfold MpV;exact⟨m,g3,rfl⟩,g4⟩⟩
     have hck:=aa6 ds af (cs:=A.toArray) (by have:=rH ds.hp;simp only[C2];omega) w;have hfk:=Ci (P:=P) ds (.agg A.toArray) ents.toList w;have hlen:ents.size=l! es:=by have:=e_ aj q4;simpa using this
     rcases U9 ds w es es' ents.toList 0 q4 hput with ⟨h1,rfl⟩|⟨j,m,k',v',h1,h2,h3,h4,rfl⟩
     .rw[h1]at hfk;refine ⟨.skip,_,b,.map (ents.push {key:=.agg A.toArray,val:=a.eval y,born:=clock}) (clock+1),?_,hφ,vP q2 (by simp) (by simp),Ji _ _ _ (by simp[q4]) λj q N=>?_,undef,.inr ⟨rfl,rfl⟩,.f (.raw _)⟩
      .unfold execOp;rw[ho];simp[Instr.mapUpdate,run_underlying hu,D,hrk,getObj,lj,q2,hck,hfk,setObj]
      .rcases cJ j (l! es) with hj|hj
       .grind
       .rw[cm hj]at N;have hj0:j-l! es=0:=by grind
        rw[hj0]at N;simp at N;subst N;exact⟨_,by rw[Array.getElem?_push,aF (by omega)],hry⟩
     .obtain⟨s2,s1⟩:=ahr h4;subst s2;rw[h3]at hfk;rw[dj]at h2;rw[b9]at hfk;have hjl:j<ents.size:=(dD.1 h2).1;have hmk:m.key= .agg A.toArray:=by
       have e1:(ents.toList.map (·.key))[j]? =Z m.key:=by grind
       grind
      refine ⟨.skip,_,b,.map (ents.modify j λe=>{e with key:=.agg A.toArray,val:=a.eval y}) clock,?_,hφ,vP q2 (by simp) (by simp),Ji _ _ _ ?_ λi q N=>?_,undef,.inr ⟨rfl,rfl⟩,.f (.raw _)⟩
      .unfold execOp;rw[ho];simp[Instr.mapUpdate,run_underlying hu,D,hrk,getObj,lj,q2,hck,hfk,setObj,h2,hmk,Instr.keyThatStays,s1]
      .apply pZ;intro i;simp only[bE,dj,ey,Array.getElem?_modify];have e2:∀i:Nat,(ents[i]?).map (λm:MapEntry=>m.key)=(es[i]?).map (λp:Value×AV=>p.1):=λi=>by
        have:=e_ (λl=>l[i]?) q4
        grind
       grind
      .grind
   .cases z
  .cases z
 .cases z
def Iv {α β:Type} (f:α->β):∀(l:Y α) (j:Nat),(l.map f).eraseIdx j=(l.eraseIdx j).map f
 |[],_|_::_,0=>rfl
 |x::r,j+1=>by simp[ch,List.eraseIdx_cons_succ,Iv f r j]
def axy {t2 kt el:TypeId} {k:Operand} (N:o.op= .call {callee:=.builtin .delete,args:=#[c,k],argTypes:=#[s,t2]}) (hu:P.underlying s=Z (.map kt el)) (ds:EC P kt E K) (z:dO (.dlq K c k) e h nx=Z R):gO P o e.get h.get R.eff:=by
 simp[dO]at z;split at z
 .rename_i id ks D hkx;let⟨yk,hkx,hkl,hkn⟩:=Y_ hkx;split at z
  .rename_i es hid;split at z
   .rename_i es' hput;cases z;refine gO.writes hid λφ fs h' w a hrd hb' hp hrep=>?_
    have hrx:=hp c _ (by rw[N];simp[Op.operands,eX]) D;have hrk:=ML hkl (hp k _ (by rw[N];simp[Op.operands,eX]) hkx);generalize A:a.eval c=zz at hrx;cases hrx with
    |@mp _ b hφ=>
     let⟨k',q1,_,ob,L,q3⟩:=hrep.at_ id _ hb';rw[hφ]at q1;cases q1;obtain⟨ents,clock,rfl,q4,q5⟩:=q3;have q5:∀(j:Nat) c,es[j]? =Z c->∃m,ents[j]? =Z m/\cz φ (tot fs φ h') w c.2 m.val:=λj c D=>by
      let⟨_,g1,g2⟩:=q5 j c D;unfold MpV at g1
      grind
     have Ji:∀(es:Y l?) (ents:Array MapEntry) (clock:Nat),ents.toList.map (·.key)=es.map (·.1)->(∀(j:Nat) c,es[j]? =Z c->∃m,ents[j]? =Z m/\cz φ (tot fs φ h') w c.2 m.val)->ic φ (tot fs φ h') w ⟨0,.mp es⟩ (.map ents clock):=λes ents clock g1 g2=>⟨ents,clock,rfl,by unfold MpK;exact g1,λj c D=>by
      let⟨m,g3,g4⟩:=g2 j c D;exact⟨_,by unfold MpV;exact⟨m,g3,rfl⟩,g4⟩⟩
     have hck:=aa6 ds ents.isEmpty (cs:=ks.toArray) (by have:=rH ds.hp;simp only[C2];omega) w;have hfk:=Ci (P:=P) ds (.agg ks.toArray) ents.toList w;rcases U' ds w es es' ents.toList 0 q4 hput with ⟨h1,rfl⟩|⟨j,m,h1,h2,h3,rfl⟩
     .rw[h1]at hfk;refine ⟨.value (.tuple #[]),_,b,.map ents clock,?_,hφ,vP L (by simp) (by simp),Ji _ _ _ q4 q5,_,.inl rfl,cz.qg (vs:=[]) rfl (by simp)⟩;unfold execOp;rw[N];simp[resolve,invoke,builtin,Builtin.delete_,run_underlying hu,A,hrk,getObj,lj,L,hck,hfk,setObj]
     .rw[h3]at hfk;have hel:(ents.eraseIdxIfInBounds j).toList=ents.toList.eraseIdx j:=by simp_all
      refine ⟨.value (.tuple #[]),_,b,.map (ents.eraseIdxIfInBounds j) clock,?_,hφ,vP L (by simp) (by simp),Ji _ _ _ ?_ λi q hq=>?_,_,.inl rfl,cz.qg (vs:=[]) rfl (by simp)⟩
      .unfold execOp;rw[N];simp[resolve,invoke,builtin,Builtin.delete_,run_underlying hu,A,hrk,getObj,lj,L,hck,hfk,setObj]
      .rw[hel,<-Iv,q4,Iv]
      .grind
   .cases z
  .cases z
 .cases z
end
def bind_some {β:Type} {x:M R} {f:R->M β} {y:β} (h:x.bind f=Z y):∃a,x=Z a/\f a=Z y:=by
 cases x with
 |none=>cases h
 |some a=>exact⟨a,rfl,h⟩
def map_some {β:Type} {x:M R} {f:R->β} {y:β} (h:x.map f=Z y):∃a,x=Z a/\f a=y:=by simp_all
def l9 {x:M R} {y:R} (h:(if b then x else U)=Z y):b=J/\x=Z y:=by grind
def Mn {o:Oper} {e:ED} {h:mU} {s:UP} {R:EB} (A:cV P o.op=Z s) (L:dO s e h i=Z R):gO P o e.get h.get R.eff:=by
 unfold cV at A;split at A
 next x D=>cases A;exact axn (.inl D) L
 next x D=>cases A;exact axn (.inr D) L
 next c a b D=>cases A;exact atv D L
 next t D=>let⟨z,h1,A⟩:=bind_some A;let⟨N,A⟩:=l9 A;cases A;exact apg D h1 N L
 next t x D=>cases A;exact ay1 D L
 .rename_i t ps D;split at A
  next fs hu=>let⟨z,h1,A⟩:=bind_some A;let⟨N,A⟩:=l9 A;obtain⟨ps',h3,rfl⟩:=map_some A;simp only[au]at N;exact adn D h1 N.1 h3 (.inl ⟨fs,hu,N.2⟩) L
  next n el hu=>let⟨z,h1,A⟩:=bind_some A;let⟨N,A⟩:=l9 A;obtain⟨ps',h3,rfl⟩:=map_some A;simp only[au]at N;let⟨sz,h4⟩:=qS.1 N.2;exact adn D h1 N.1 h3 (.inr ⟨n,el,sz,hu,h4⟩) L
  .cases A
 next t n ps D=>let⟨el,h1,A⟩:=bind_some A;let⟨z,N,A⟩:=bind_some A;let⟨sz,h3,A⟩:=bind_some A;let⟨h4,A⟩:=l9 A;obtain⟨ps',h5,rfl⟩:=map_some A;simp only[au,c5,bne_iff_ne]at h4;exact ay0 D (uy h1) N h3 h4.1.1.1 h4.1.1.2 h4.2 (aY h4.1.2) h5 L
 next t x D=>let⟨sz,h1,A⟩:=bind_some A;obtain⟨ag,N,rfl⟩:=map_some A;exact aty D h1 N L
 next t x v D=>obtain⟨sz,h1,rfl⟩:=map_some A;exact apf D h1 L
 next x D=>cases A;exact atw D L
 .rename_i op t x y t' D;split at A
  .cases A;exact arj D L
  .cases A;exact arj D L
  .rename_i hu;split at A
   .cases A;exact ari (neg:=af) D rfl hu L
   .cases A;exact ari (neg:=J) D rfl hu L
   .cases A
  .rename_i el hu;split at A
   .cases A;exact adm (neg:=af) D rfl rfl hu L
   .cases A;exact adm (neg:=J) D rfl rfl hu L
   .cases A
  .rename_i el hu;split at A
   .cases A;exact alc (neg:=af) D rfl rfl hu L
   .cases A;exact alc (neg:=J) D rfl rfl hu L
   .cases A
  .rename_i fs hu;let⟨ds,h1,A⟩:=bind_some A;unfold ER at h1;rw[hu]at h1;simp only[]at h1;split at h1
   .cases h1
   .rename_i hst;have hst:P.stoodInHeld t=af:=by simpa using hst
    split at A
    .cases A;exact arh (neg:=af) D rfl hu hst h1 L
    .cases A;exact arh (neg:=J) D rfl hu hst h1 L
    .cases A
  .cases A
 next t x D=>cases A;exact axl D L
 .rename_i t x D;split at A
  .cases A;exact axm D L
  .cases A
 .rename_i s' d x D;split at A
  next k k' h1 N=>cases A;exact au3 D h1 N L
  .cases A
 next t l c D=>let⟨el,h1,A⟩:=bind_some A;let⟨z,N,A⟩:=bind_some A;let⟨sz,h3,A⟩:=bind_some A;let⟨b,h5,A⟩:=bind_some A;let⟨h4,A⟩:=l9 A;simp only[au,c5,bne_iff_ne]at h4;cases A;exact atx D (uy h1) N h3 h5 h4.1.1 h4.1.2 h4.2 L
 next t x lo hi mx D=>let⟨el,h1,A⟩:=bind_some A;obtain⟨sz,N,rfl⟩:=map_some A;exact axi D (uy h1) N L
 .rename_i t x k D;split at A
  next fs hu=>let⟨f,h1,A⟩:=bind_some A;let⟨sz,N,A⟩:=bind_some A;let⟨h3,A⟩:=l9 A;cases A;exact axw D hu h1 N (by simpa using h3) L
  .cases A
 .rename_i t x nx D;split at A
  next el hu=>obtain⟨sz,h1,rfl⟩:=map_some A;exact axv D hu h1 L
  next n el hu=>obtain⟨sz,h1,rfl⟩:=map_some A;exact au1 D hu h1 L
  .cases A
 .rename_i t x nx D;split at A
  next n el hu=>let⟨sz,h1,A⟩:=bind_some A;obtain⟨ag,N,rfl⟩:=map_some A;exact axu D hu h1 N L
  next hu=>cases A;exact atu D hu L
  .cases A
 next x nx D=>cases A;exact axx D L
 .rename_i f first caps D
  let⟨h1,A⟩:=l9 A;cases A;have N:first=#[]:=by simpa using h1
  subst N;exact axq D L
 .rename_i t D;split at A
  .cases A;exact axp D L
  .cases A
 .rename_i t x k ok D;split at A
  .rename_i kt el hu;split at A
   next q z h1 N=>let⟨h3,A⟩:=l9 A;cases A;exact arf (str:=af) D hu h1 ⟨q,rfl⟩ N L
   next z h1 N=>let⟨h3,A⟩:=l9 A;cases A;exact arf (str:=J) D hu h1 rfl N L
   next fs z h1 N=>let⟨h3,A⟩:=l9 A;simp only[au,cW]at h3;obtain⟨ds,h4,rfl⟩:=map_some A;let⟨fs',K⟩:=HW h4;rw[h3.2]at D;exact axt D hu K N L
   .cases A
  .cases A
 .rename_i t m k v D;split at A
  .rename_i kt el hu;split at A
   next q h1=>cases A;exact are (str:=af) D hu h1 ⟨q,rfl⟩ L
   next h1=>cases A;exact are (str:=J) D hu h1 rfl L
   .obtain⟨ds,h4,rfl⟩:=map_some A;let⟨fs',K⟩:=HW h4;exact axo D hu K L
   .cases A
  .cases A
 .rename_i t x D;split at A
  next hu=>cases A;exact axj D hu L
  .cases A
 next x D=>cases A;exact axk D L
 .rename_i c D;let⟨callee,args,argTypes⟩:=c;have arr:∀{α:Type} {x:Array α} {l:Y α},x.toList=l->x=l.toArray:=λh=>by rw[<- h]
  unfold XU at A;simp only[]at A;split at A
  .split at A
   .rename_i x t h1 N;rw[arr h1,arr N]at D;split at A
    next el hu=>cases A;exact au0 D hu L
    next hu=>cases A;exact atz D hu L
    .cases A
   .cases A
  .split at A
   next x y h1=>rw[arr h1]at D;cases A;exact axs D L
   .cases A
  .split at A
   next x y h1=>rw[arr h1]at D;cases A;exact axr D L
   .cases A
  .split at A
   .rename_i d x t u h1 N;rw[arr h1,arr N]at D;split at A
    next el el' h1 N=>let⟨sz,h3,A⟩:=bind_some A;let⟨h4,A⟩:=l9 A;cases A;exact au2 D (uy h1) (uy N) h3 L
    .cases A
   .cases A
  .split at A
   .rename_i m k t t2 h1 N;rw[arr h1,arr N]at D;split at A
    next kt el hu=>obtain⟨ds,h4,rfl⟩:=map_some A;let⟨fs',K⟩:=HW h4;exact axy D hu K L
    .cases A
   .cases A
  .split at A
   next x t h1 N=>rw[arr h1,arr N]at D;let⟨el,h3,A⟩:=bind_some A;let⟨z,h4,A⟩:=bind_some A;let⟨sz,h5,A⟩:=bind_some A;let⟨h6,A⟩:=l9 A;simp only[au,c5,bne_iff_ne,ne_eq]at h6;cases A;exact axz D (uy h3) h4 h6.1.1 h6.1.2 h6.2 L
   .cases A
  .split at A
   .rename_i s' x t u h1 N;rw[arr h1,arr N]at D;split at A
    next el el' h1 N=>let⟨sz,h3,A⟩:=bind_some A;let⟨b,h4,A⟩:=bind_some A;let⟨z,h5,A⟩:=bind_some A;let⟨h6,A⟩:=l9 A;simp only[au,c5,bne_iff_ne]at h6;cases A;exact ay2 D (uy h1) (uy N) h3 h4 h5 h6.2 h6.1 L
    .cases A
   .cases A
  .cases A
 .cases A
def ng :∀{l:Y AV},AV.allL p l=J->∀x∈l,AV.all p x=J
 |[],_,x,z=>by cases z
 |y::l,h,x,z=>by
  simp[AV.allL,au]at h;rcases a_.1 z with rfl|z
  .exact h.1
  .exact ng h.2 x z
def cz.restrict {φ':PM} {O':Nat->Prop} (N:∀i k,p i=J->V i=Z k->φ' i=Z k) (ho:∀k,O' k->O k) (h:cz V O w y v):y.all p=J->cz φ' O' w y v:=by
 induction h with
 |f h=>intro _;exact .f (h.ext (O':=O') (I3.refl O w) λk _ hk=>ho k hk)
 |H h=>intro hp;exact .H (N _ _ hp h)
 |sl h hn hc=>intro hp;exact .sl (N _ _ hp h) hn hc
 |G h hn hc hsh=>intro hp;exact .G (N _ _ hp h) hn hc hsh
 |emp=>intro _;exact .emp
 |qw=>intro _;exact .qw
 |mp h=>intro hp;exact .mp (N _ _ hp h)
 |agg L hcl hr A=>intro hp;exact .agg L hcl λj y v z D=>A j y v z D (ng hp y (ba z))
 |qg L hr A=>intro hp;exact .qg L λj y v z D=>A j y v z D (ng hp y (ba z))
 |qv L hr A=>intro hp;exact .qv L λj y v z D=>A j y v z D (ng hp y (ba z))
def ic.restrict {φ':PM} {O':Nat->Prop} {w':World} (hk:∀x v,x.all p=J->cz V O w x v->cz φ' O' w' x v) {o:Obj} (N:Q.c.all p=J) (h:ic V O w Q o):ic φ' O' w' Q o:=by
 unfold ic at h ⊢;cases L:Q.c with
 |fz l=>
  rw[L]at h;let⟨arr,h1,D,A⟩:=h;exact⟨arr,h1,D,λj x z=>by
   let⟨a,v,c,d⟩:=A j x z;refine ⟨a,v,c,hk _ _ ?_ d⟩;simp only[BC.get]at z;cases hl:l[j]? with
   |none=>rw[hl]at z;cases z
   |some q=>rw[hl]at z;simp at z;subst z;rfl⟩
 |mx l=>
  rw[L]at h N;let⟨arr,h1,D,A⟩:=h;exact⟨arr,h1,D,λj x z=>by
   let⟨a,v,c,d⟩:=A j x z;exact⟨a,v,c,hk _ _ (ng N x (ba z)) d⟩⟩
 |mp es=>
  rw[L]at h N;let⟨e,c,h1,D,A⟩:=h;exact⟨e,c,h1,D,λj x z=>by
   let⟨m,a,Q⟩:=A j x z;exact⟨m,a,hk _ _ (ng N x.2 (cu.2 ⟨x,ba z,rfl⟩)) Q⟩⟩
 |it s q=>rw[L]at h;exact h
def akr (m:Nat):ι:=(dG (m+1)).filter λi=>aO m i
def Rx :i∈akr j↔aO j i=J:=by
 unfold akr;rw[List.mem_filter,wN];constructor
 .exact λh=>h.2
 .intro h;refine ⟨?_,h⟩;have h1:=Nat.ge_two_pow_of_testBit h;have z:=Nat.lt_two_pow_self (n:=i);omega
def lK (φ:PM) (O:Nat->Prop) (w:World):Y AV->ξ->Prop
 |[],[]=>True
 |x::xs,v::vs=>cz φ O w x v/\lK φ O w xs vs
 |_,_=>False
def lK.length :∀{args:Y AV} {vs:ξ},lK V O w args vs->l! vs=l! args
 |[],[],_=>rfl
 |[],_::_,h|_::_,[],h=>h.elim
 |_::_,_::_,h=>by simp[lK.length h.2]
def lK.mono {φ':PM} {O':Nat->Prop} {w':World} (z:∀x v,x.all p=J->cz V O w x v->cz φ' O' w' x v):∀{args:Y AV} {vs:ξ},AV.allL p args=J->lK V O w args vs->lK φ' O' w' args vs
 |[],[],_,_=>trivial
 |[],_::_,_,h|_::_,[],_,h=>h.elim
 |x::xs,_::_,hp,h=>by
  simp[AV.allL,au]at hp;exact⟨z _ _ hp.1 h.1,lK.mono z hp.2 h.2⟩
def lK.append :∀{xs z:Y AV} {vs A:ξ},lK V O w xs vs->lK V O w z A->lK V O w (xs++z) (vs++A)
 |[],_,[],_,_,h=>h
 |[],_,_::_,_,h,_|_::_,_,[],_,h,_=>h.elim
 |_::_,_,_::_,_,h,h'=>⟨h.1,lK.append h.2 h'⟩
def lK.of :∀{xs:Y AV} {vs:ξ},l! vs=l! xs->(∀(j:Nat) x v,xs[j]? =Z x->vs[j]? =Z v->cz V O w x v)->lK V O w xs vs
 |[],[],_,_=>trivial
 |[],_::_,h,_|_::_,[],h,_=>by simp at h
 |x::xs,v::vs,D,h=>⟨h 0 x v rfl rfl,lK.of (by grind) λj x v z A=>h (j+1) x v (by grind) (by grind)⟩
def Hx (P:Program) (f:FuncId):Prop:=∃fn,P.funcs[f]? =Z fn∧fn.body.isNone=af∧(fn.name== "runtime.NumGoroutine")=af
def ZF {e:ED} {o:Oper} (hp:Rel V O A w S e o):∀(xs:Y Operand) (z:Y AV),(∀x∈xs,x∈o.op.operands)->evs e xs=Z z->lK V (tot O V A) w z (xs.map S.eval)
 |[],z,_,h=>by simp[evs,ah]at h;subst h;trivial
 |x::xs,z,hm,h=>by
  simp[evs]at h;split at h
  .rename_i y h';split at h
   next ys' hys=>simp[ah]at h;subst h;exact⟨hp x y (hm x (dk ..)) h',ZF hp xs ys' (λx D=>hm x (cg _ D)) hys⟩
   .cases h
  .cases h
variable {f:FuncId}
def Ac (D:Hx P f) (args:Array Value) (w:World):(callFunc f args).run P w= .ok (.enter f args) w:=by
 let⟨fn,h1,N,L⟩:=D;have z:fn.name≠ "runtime.NumGoroutine" :=by grind
 have A:fn.body≠U:=by grind
 simp[callFunc,program,lj,h1,A,z]
def aci:∀(z:Y FPm) (i:Nat),af7 z i=z[i]?
 |[],i=>by simp[af7]
 |f::z,0=>rfl
 |f::z,i+1=>by simp[af7,aci z i]
def AF (h:Kc i j=J) (a:Nat) (z:aO i a=J):aO j a=af:=by
 have h0:i&&&j=0:=av h;have:=Nat.testBit_and i j a
 grind
structure Ctx where
 n0:Nat
 φ:PM
 E:Nat->Prop
 h:HF
 w:World
def Yq (P:Program) (d:Deferred):Prop:=∀w:World,∃A cap f args,d.target= .fn A cap/\(invoke d.target d.args).run P w= .ok (.enter f args) w/\
 CallsD P f args .returning w λe z w'=>(∃v,e= .returned v)/\z= .returning/\w'=w
structure Cfg (P:Program) (C:Ctx) (nt:Nat) (s:IS) (a:Act) (w:World):Prop where
 ex:∃φ,jW C.φ φ C.h s.h.get C.w w/\sE φ C.E s.h.get w/\Sk φ (tot C.E φ s.h.get) w s.e.get a/\(∀i k,φ i=Z k->i<s.nx)/\∀i k,φ i=Z k->C.φ i=Z k\/C.n0<=i
 low:C.n0<=s.nx
 inert:∀d∈a.defers,Yq P d
 size:a.tmps.size=nt
def Cfg.bool {C:Ctx} {s:IS} (c:Cfg P C i s S w) (ht:s.e.get j=Z (.f (.raw (.bool b)))):S.eval (.tmp j)= .bool b:=by
 let⟨φ,_,_,en,_,_⟩:=c.ex;exact fR (en j _ ht)
def Fs {c:Code} (I:Nat->Act->World->Prop) (round:∀n S w,I n S w->c.wp P (Exit.then (λz w'=>∃m,m<n/\I m z w') d) S w) {n:Nat} (h0:I n S w):(Code.loop c).wp P d S w:=by
 have least:∀(n:Nat) (S:Act) (w:World),I n S w->∃m,I m S w/\∀k,I k S w->m<=k:=by
  intro n;induction n using Nat.strongRecOn with
  |_ n D=>grind
 have pick:∀S w,∃m,(∃n,I n S w)->I m S w/\∀k,I k S w->m<=k:=λS w=>by
  by_cases L:∃n,I n S w
  .grind
  .simp_all
 let μ:Act->World->Nat:=λS w=>Classical.choose (pick S w)
 have hμ:∀S w,(∃n,I n S w)->I (μ S w) S w/\∀k,I k S w->μ S w<=k:=λS w=>Classical.choose_spec (pick S w)
 refine wp_loop (λS w=>∃n,I n S w) μ ⟨n,h0⟩ λS w A=>?_
 refine wp_mono (round (μ S w) S w (hμ S w A).1) λe z w' he=>?_
 cases e with
 |normal=>grind
 |_=>exact he
def Ex.to:Ex->Exit
 |.normal=>.normal
 |.exit id=>.exit id
 |.ret=>.ret
def Pk (P:Program) (inert:FuncId->Bool):Prop:=∀f,inert f=J->Hx P f/\∀(args:Array Value) (w:World),CallsD P f args .returning w λe z w'=>(∃v,e= .returned v)/\z= .returning/\w'=w
def ai1 (tmps:Array Value):ResultVar->Sem Value
 |.tmp t=>pure (tmps.getD t undef)
 |.cell a t=>do
  let ad<-asAddr (tmps.getD a undef)
  loadVar t ad
def YS (fn:Func) (tmps:Array Value):results fn tmps=(do let vs<-fn.results.mapM (ai1 tmps);pure (if h:vs.size=1 then vs[0] else .tuple vs)):=by
 congr 2
def F6 {P:Program} {fn:Func} {tmps:Array Value} {R:Ending->World->Prop} {w:World} {v:Value} (z:(results fn tmps).run P w= .ok v w) (A:R (.returned v) w):∀(ds:Y Deferred),(∀d∈ds,Yq P d)->Leaves P fn tmps R ds .returning w
 |[],_=>⟨v,z,A⟩
 |d::ds,h=>by
  let⟨N,cap,f,args,h1,L,D⟩:=h d (dk ..) w;refine ⟨by simp,N,cap,f,args,h1,L,D.mono ?_⟩;rintro e u' w' ⟨⟨v',rfl⟩,rfl,rfl⟩;exact F6 z A ds λd hd=>h d (cg _ hd)
def lK.get :∀{xs:Y AV} {vs:ξ},lK V O w xs vs->∀(j:Nat) x,xs[j]? =Z x->∃v,vs[j]? =Z v/\cz V O w x v
 |[],_,_,j,x,z=>by simp at z
 |_::_,[],h,_,_,_=>h.elim
 |y::xs,u::vs,h,j,x,z=>by
  cases j with
  |zero=>simp at z;subst z;exact⟨u,rfl,h.1⟩
  |succ j=>exact lK.get h.2 j x (by grind)
def XT {z:SF} (h:CL P f=Z z):∃fn c,P.funcs[f]? =Z fn∧fn.body=Z c∧(fn.name== "runtime.NumGoroutine")=af∧z.code=cG P fn.ntmps c∧xI P fn.results.toList=Z z.res∧z.nt=fn.ntmps:=by
 unfold CL at h
 grind
def aoy {b:Value} (h:ati v b=J):v=b:=by
 unfold ati at h;split at h
 .simp at h;rw[h]
 .grind
 .rw[xL.1 h]
 .simp_all
 .rfl
 .grind
 .cases h
end
end Go.Proofs.YtcmnmakaoonfgaaGreatDoor.AI
