/-
  Texts of the proof, part 1 of 6: what is used to prove the statement. No condition.
-/
import Derived.WalkKit
import Derived.Lib.Hide
import Derived.Deep.QuietTactic
import Derived.WalkSpells
import Derived.Laws.CopyRow
import Derived.Deep.AppendSrc
import Derived.Laws.AppendOwn
import Derived.Defers
namespace Prod
variable {A0 A1 A2 A3 A4 A5 A6 A7 A8 A9 A10 A11 A12 A13 A14 A15 A16 A17 A18 A19 A20 A21 A22 A23 A24:Type}
abbrev a (x:A0×A1×A2×A3):A2:=x.2.2.1
abbrev b (x:A0×A1×A2×A3×A4):A3:=x.2.2.2.1
abbrev e (x:A0×A1×A2×A3):A3:=x.2.2.2
abbrev c (x:A0×A1×A2×A3×A4×A5):A4:=x.2.2.2.2.1
abbrev g (x:A0×A1×A2×A3×A4):A4:=x.2.2.2.2
abbrev d (x:A0×A1×A2×A3×A4×A5×A6):A5:=x.2.2.2.2.2.1
abbrev h (x:A0×A1×A2×A3×A4×A5):A5:=x.2.2.2.2.2
abbrev f (x:A0×A1×A2×A3×A4×A5×A6×A7):A6:=x.2.2.2.2.2.2.1
abbrev n (x:A0×A1×A2×A3×A4×A5×A6):A6:=x.2.2.2.2.2.2
abbrev i (x:A0×A1×A2×A3×A4×A5×A6×A7×A8):A7:=x.2.2.2.2.2.2.2.1
abbrev p (x:A0×A1×A2×A3×A4×A5×A6×A7):A7:=x.2.2.2.2.2.2.2
abbrev j (x:A0×A1×A2×A3×A4×A5×A6×A7×A8×A9):A8:=x.2.2.2.2.2.2.2.2.1
abbrev r (x:A0×A1×A2×A3×A4×A5×A6×A7×A8):A8:=x.2.2.2.2.2.2.2.2
abbrev m (x:A0×A1×A2×A3×A4×A5×A6×A7×A8×A9×A10):A9:=x.2.2.2.2.2.2.2.2.2.1
abbrev w (x:A0×A1×A2×A3×A4×A5×A6×A7×A8×A9):A9:=x.2.2.2.2.2.2.2.2.2
abbrev k (x:A0×A1×A2×A3×A4×A5×A6×A7×A8×A9×A10×A11):A10:=x.2.2.2.2.2.2.2.2.2.2.1
abbrev y (x:A0×A1×A2×A3×A4×A5×A6×A7×A8×A9×A10):A10:=x.2.2.2.2.2.2.2.2.2.2
abbrev o (x:A0×A1×A2×A3×A4×A5×A6×A7×A8×A9×A10×A11×A12):A11:=x.2.2.2.2.2.2.2.2.2.2.2.1
abbrev v (x:A0×A1×A2×A3×A4×A5×A6×A7×A8×A9×A10×A11):A11:=x.2.2.2.2.2.2.2.2.2.2.2
abbrev l (x:A0×A1×A2×A3×A4×A5×A6×A7×A8×A9×A10×A11×A12×A13):A12:=x.2.2.2.2.2.2.2.2.2.2.2.2.1
abbrev z (x:A0×A1×A2×A3×A4×A5×A6×A7×A8×A9×A10×A11×A12):A12:=x.2.2.2.2.2.2.2.2.2.2.2.2
abbrev q (x:A0×A1×A2×A3×A4×A5×A6×A7×A8×A9×A10×A11×A12×A13×A14):A13:=x.2.2.2.2.2.2.2.2.2.2.2.2.2.1
abbrev C (x:A0×A1×A2×A3×A4×A5×A6×A7×A8×A9×A10×A11×A12×A13):A13:=x.2.2.2.2.2.2.2.2.2.2.2.2.2
abbrev s (x:A0×A1×A2×A3×A4×A5×A6×A7×A8×A9×A10×A11×A12×A13×A14×A15):A14:=x.2.2.2.2.2.2.2.2.2.2.2.2.2.2.1
abbrev t (x:A0×A1×A2×A3×A4×A5×A6×A7×A8×A9×A10×A11×A12×A13×A14):A14:=x.2.2.2.2.2.2.2.2.2.2.2.2.2.2
abbrev u (x:A0×A1×A2×A3×A4×A5×A6×A7×A8×A9×A10×A11×A12×A13×A14×A15×A16):A15:=x.2.2.2.2.2.2.2.2.2.2.2.2.2.2.2.1
abbrev H (x:A0×A1×A2×A3×A4×A5×A6×A7×A8×A9×A10×A11×A12×A13×A14×A15):A15:=x.2.2.2.2.2.2.2.2.2.2.2.2.2.2.2
abbrev B (x:A0×A1×A2×A3×A4×A5×A6×A7×A8×A9×A10×A11×A12×A13×A14×A15×A16×A17):A16:=x.2.2.2.2.2.2.2.2.2.2.2.2.2.2.2.2.1
abbrev E (x:A0×A1×A2×A3×A4×A5×A6×A7×A8×A9×A10×A11×A12×A13×A14×A15×A16):A16:=x.2.2.2.2.2.2.2.2.2.2.2.2.2.2.2.2
abbrev D (x:A0×A1×A2×A3×A4×A5×A6×A7×A8×A9×A10×A11×A12×A13×A14×A15×A16×A17×A18):A17:=x.2.2.2.2.2.2.2.2.2.2.2.2.2.2.2.2.2.1
abbrev F (x:A0×A1×A2×A3×A4×A5×A6×A7×A8×A9×A10×A11×A12×A13×A14×A15×A16×A17):A17:=x.2.2.2.2.2.2.2.2.2.2.2.2.2.2.2.2.2
abbrev I (x:A0×A1×A2×A3×A4×A5×A6×A7×A8×A9×A10×A11×A12×A13×A14×A15×A16×A17×A18×A19):A18:=x.2.2.2.2.2.2.2.2.2.2.2.2.2.2.2.2.2.2.1
abbrev G (x:A0×A1×A2×A3×A4×A5×A6×A7×A8×A9×A10×A11×A12×A13×A14×A15×A16×A17×A18):A18:=x.2.2.2.2.2.2.2.2.2.2.2.2.2.2.2.2.2.2
abbrev K (x:A0×A1×A2×A3×A4×A5×A6×A7×A8×A9×A10×A11×A12×A13×A14×A15×A16×A17×A18×A19×A20):A19:=x.2.2.2.2.2.2.2.2.2.2.2.2.2.2.2.2.2.2.2.1
abbrev L (x:A0×A1×A2×A3×A4×A5×A6×A7×A8×A9×A10×A11×A12×A13×A14×A15×A16×A17×A18×A19×A20×A21):A20:=x.2.2.2.2.2.2.2.2.2.2.2.2.2.2.2.2.2.2.2.2.1
abbrev N (x:A0×A1×A2×A3×A4×A5×A6×A7×A8×A9×A10×A11×A12×A13×A14×A15×A16×A17×A18×A19×A20×A21):A21:=x.2.2.2.2.2.2.2.2.2.2.2.2.2.2.2.2.2.2.2.2.2
end Prod
namespace Go.Proofs.YtpjhicegjenpeaaGreatDoor.AI
open Go.RowKit
set_option maxRecDepth 100000
set_option maxHeartbeats 4000000
set_option linter.unusedVariables false
set_option linter.unusedSimpArgs false
set_option linter.defProp false
open Act renaming put→Sc
open _root_.Array renaming replicate→uG,range→HW
open _root_.Bool renaming true→J,false→af
open Builtin renaming zeroCells→mQ,firstCells→Bo,append_→Jn
open Call renaming operands→dD
open ForInStep renaming yield→Jm
open Instr renaming findAsking→c8,sliceBounds→hP,sliceBound→iK,findNow→jM,sliceAt→l9,sameBits→mI,checkKey→mJ,slice→p_,findKey→Al
open _root_.Int renaming toNat→aN,ofNat→aQ,tmod→Db
open IntKind renaming wrap→pZ
open _root_.List renaming length→l!,length→aj,replicate→aC,length_singleton→cO,take→dP,range→e_,map→gL,toArray→jU,length_cons→kn,set→sH,append→sW,map_drop→Aj,foldl_cons→Am,map_nil→C',ext_getElem?→R'
open _root_.Nat renaming beq→ax,testBit→aK,add_zero→dF,ble→dN,blt→ey,min→l8,mod_eq_of_lt→xh
open Oper renaming wp→Lx
open _root_.Option renaming some→Z,none→U,bind_some→aF,map_some→bh
open Region renaming wanted→jJ,binds→C9,ready→Lw
open Result renaming andThen_ok→cW
open Sem renaming run_bind→fH,run→kU,run_pure→xf
open Value.bool renaming injEq→Fv
open World renaming shape?→tL,cell?→R6
noncomputable section
abbrev Y:=@List
abbrev M:=@Option
abbrev av:=@if_neg
abbrev aD:=@if_pos
abbrev aU:=@decide_eq_true
abbrev bk:=@if_true
abbrev bE:=@decide_eq_true_eq
abbrev bR:=@of_decide_eq_true
abbrev ch:=@beq_self_eq_true
abbrev cq:=@absurd
abbrev cY:=@beq_iff_eq
abbrev dc:=@decide_eq_false
abbrev dE:=@if_false
abbrev dW:=@decide_false
abbrev eO:=@congrArg
abbrev eT:=@decide_true
abbrev fk:=@or_false
abbrev EK:=@true_and
abbrev EL:=@of_decide_eq_false
abbrev ah:=@Option.some.injEq
abbrev al:=@Bool.and_eq_true
abbrev au:=@Nat.eq_of_beq_eq_true
abbrev aw:=@List.getD_eq_getElem?_getD
abbrev aE:=@List.mem_singleton
abbrev aG:=@List.getElem?_eq_getElem
abbrev aR:=@Prod.mk.injEq
abbrev aT:=@Nat.le_of_ble_eq_true
abbrev aV:=@List.mem_cons
abbrev a8:=@List.mem_of_getElem?
abbrev a_:=@Nat.ble_eq_true_of_le
abbrev bu:=@Nat.testBit_or
abbrev bz:=@List.getElem?_eq_some_iff
abbrev bB:=@List.getElem?_map
abbrev bI:=@List.getElem?_append_left
abbrev bJ:=@Nat.le_refl
abbrev bK:=@List.length_append
abbrev bL:=@List.mem_append
abbrev bP:=@List.mem_cons_of_mem
abbrev bQ:=@List.length_map
abbrev bX:=@Nat.zero_add
abbrev b7:=@List.not_mem_nil
abbrev b9:=@List.map_cons
abbrev b_:=@List.getElem?_append_right
abbrev cr:=@List.mem_map
abbrev cu:=@List.length_take
abbrev cC:=@Nat.lt_or_ge
abbrev cD:=@List.map_append
abbrev cH:=@Nat.mul_le_mul_right
abbrev cM:=@List.take_length
abbrev cP:=@List.length_replicate
abbrev cQ:=@Bool.false_eq_true
abbrev cR:=@Bool.not_eq_true'
abbrev cV:=@List.mem_cons_self
abbrev cZ:=@List.ext_getElem
abbrev c6:=@Nat.le_trans
abbrev c7:=@List.getElem?_eq_none
abbrev c9:=@Array.getElem?_toList
abbrev dj:=@List.length_eq_zero_iff
abbrev dk:=@List.getElem?_replicate
abbrev dt:=@List.length_set
abbrev dx:=@Int.le_refl
abbrev dy:=@Nat.lt_of_lt_of_le
abbrev dz:=@Array.getElem?_eq_some_iff
abbrev dO:=@List.foldl_append
abbrev eh:=@List.getElem?_set
abbrev eV:=@List.cons.injEq
abbrev fc:=@List.getElem?_take
abbrev fd:=@Int.natCast_nonneg
abbrev fo:=@Bool.true_and
abbrev fw:=@Bool.and_self
abbrev fI:=@List.getElem?_of_mem
abbrev fV:=@Nat.beq_refl
abbrev fX:=@Option.some.inj
abbrev fY:=@Nat.not_lt_zero
abbrev gg:=@Nat.le_succ_of_le
abbrev gh:=@List.flatMap_cons
abbrev gA:=@Option.map_eq_some_iff
abbrev gB:=@List.take_of_length_le
abbrev gO:=@List.map_take
abbrev im:=@List.mem_of_mem_take
abbrev io:=@List.mem_append_left
abbrev iJ:=@List.all_eq_true
abbrev iZ:=@List.map_congr_left
abbrev jL:=@Option.isSome_iff_exists
abbrev jN:=@Bool.false_and
abbrev jT:=@Nat.succ_mul
abbrev ko:=@Array.getD_eq_getD_getElem?
abbrev kW:=@Nat.or_assoc
abbrev kX:=@List.map_map
abbrev mH:=@Nat.zero_le
abbrev mP:=@List.append_assoc
abbrev nz:=@Bool.or_eq_true
abbrev nX:=@Nat.ne_of_beq_eq_false
abbrev oO:=@List.mem_range
abbrev pG:=@Array.getElem?_eq_getElem
abbrev pJ:=@List.append_nil
abbrev pY:=@List.take_succ_eq_append_getElem
abbrev sV:=@List.take_append_of_le_length
abbrev tM:=@List.getElem_range
abbrev tN:=@List.getElem?_drop
abbrev uI:=@Nat.add_assoc
abbrev uX:=@List.mem_append_right
abbrev vo:=@Nat.lt_succ_of_lt
abbrev wS:=@Nat.zero_or
abbrev wT:=@List.replicate_succ'
abbrev wU:=@Bool.and_eq_true_iff
abbrev xi:=@Nat.lt_succ_self
abbrev xk:=@List.mem_flatMap
abbrev xl:=@List.length_drop
abbrev xm:=@List.getElem_map
abbrev xn:=@List.drop_append
abbrev xV:=@Classical.byContradiction
abbrev yA:=@List.length_take_le
abbrev yC:=@Int.toNat_of_nonneg
abbrev Ak:=@List.eq_of_mem_replicate
abbrev Bn:=@Int.not_lt
abbrev C_:=@List.size_toArray
abbrev Da:=@List.drop_of_length_le
abbrev EH:=@List.take_append_drop
abbrev EI:=@List.length_filter_le
abbrev EJ:=@List.contains_iff_mem
abbrev Fw:=@List.getElem_set
abbrev Fx:=@List.getElem_mem
abbrev FC:=@Nat.lt_irrefl
abbrev HV:=@List.getElem?_mapIdx
abbrev Jk:=@Nat.min_eq_left
abbrev Jl:=@List.sum_append
abbrev KE:=@List.drop_succ_cons
abbrev Ly:=@Nat.sub_self
abbrev R7:=@Nat.lt_trichotomy
abbrev R_:=@List.length_range
abbrev Sa:=@Bool.eq_false_iff
abbrev η:=Y Int
abbrev ζ:=Y UInt8
abbrev θ:=Y Bool
abbrev ι:=Y Nat
abbrev ξ:=Y Value
abbrev ω:=Int×Int×Int×Int×Int×Int
abbrev υ:=Int×Int×Int×Int×Int
abbrev π:=Int×Int×Int
abbrev ν:=Int×Int
inductive FV where
 |raw (v:Value)
 |sl (cells:List FV) (n:Nat)
 |P (cells:List FV) (off:Nat)
 |agg (cells:List FV)
inductive AV where
 |f (x:FV)
 |P (id off:Nat)
 |sl (id off n:Nat)
 |I (id sz n:Nat)
 |mp (id:Nat)
 |emp
 |qw
 |qc (cells:List FV) (n:Nat)
 |agg (cells:List AV)
 |qb (vs:List AV)
 |qy (g:FuncId) (cap:List AV)
def FV.isCell:FV->Bool
 |.raw v=>v.oneCell'
 |.sl _ _=>J
 |.P _ _=>J
 |.agg _=>af
def AV.isCell:AV->Bool
 |.f x=>x.isCell
 |.P _ _=>J
 |.sl _ _ _=>J
 |.I _ _ _=>J
 |.mp _=>J
 |.emp=>J
 |.qy _ _=>J
 |_=>af
inductive nu (O:Nat->Prop) (w:World):FV->Value->Prop
 |raw (v:Value):nu O w (.raw v) v
 |nil (a:Option Addr) (c:Nat) (hc:c<=maxLen):nu O w (.sl [] 0) (.slice a 0 c)
 |sl (cells:List FV) (n c b off:Nat) (us:Nat->Value) (hn:n<=c) (hc:c<=maxLen) (hO:¬O b) (hb:b<w.heap.size)
   (hcl:∀x∈cells,x.isCell=J)
   (hu:∀j,j<l! cells->w.cell? ⟨b,off+j,U⟩=Z (us j)) (hr:∀(j:Nat) x,cells[j]? =Z x->nu O w x (us j)):
   nu O w (.sl cells n) (.slice (Z ⟨b,off,U⟩) n c)
 |P (cells:List FV) (o b off:Nat) (us:Nat->Value) (hO:¬O b) (hb:b<w.heap.size)
   (hcl:∀x∈cells,x.isCell=J)
   (hu:∀j,j<l! cells->w.cell? ⟨b,off+j,U⟩=Z (us j)) (hr:∀(j:Nat) x,cells[j]? =Z x->nu O w x (us j)):
   nu O w (.P cells o) (.pointer (Z ⟨b,off+o,U⟩))
 |agg (cells:List FV) (vs:ξ) (hl:l! vs=l! cells) (hcl:∀x∈cells,x.isCell=J)
   (hr:∀(j:Nat) x v,cells[j]? =Z x->vs[j]? =Z v->nu O w x v):nu O w (.agg cells) (.agg vs.toArray)
abbrev PM:=Nat->M Nat
inductive cf (φ:PM) (O:Nat->Prop) (w:World):AV->Value->Prop
 |f {x:FV} {v:Value} (h:nu O w x v):cf φ O w (.f x) v
 |P {id off b:Nat} (h:φ id=Z b):cf φ O w (.P id off) (.pointer (Z ⟨b,off,U⟩))
 |sl {id off n c b:Nat} (h:φ id=Z b) (hn:n<=c) (hc:c<=maxLen):cf φ O w (.sl id off n) (.slice (Z ⟨b,off,U⟩) n c)
 |I {id sz n c b:Nat} (h:φ id=Z b) (hn:n<=c) (hc:c<=maxLen) (hs:∃ty,w.shape? b=Z (ty,c*sz)):
   cf φ O w (.I id sz n) (.slice (Z ⟨b,0,U⟩) n c)
 |emp {a:Option Addr}:cf φ O w .emp (.slice a 0 0)
 |qw {b:Bool}:cf φ O w .qw (.bool b)
 |qc {cells:List FV} {n:Nat} {a:Option Addr} (h:nu O w (.sl cells n) (.slice a n n)):cf φ O w (.qc cells n) (.slice a n n)
 |mp {id b:Nat} (h:φ id=Z b):cf φ O w (.mp id) (.map (Z b))
 |agg {cells:List AV} {vs:ξ} (hl:l! vs=l! cells) (hcl:∀x∈cells,x.isCell=J)
   (hr:∀(j:Nat) x v,cells[j]? =Z x->vs[j]? =Z v->cf φ O w x v):cf φ O w (.agg cells) (.agg vs.toArray)
 |qb {cells:List AV} {vs:ξ} (hl:l! vs=l! cells)
   (hr:∀(j:Nat) x v,cells[j]? =Z x->vs[j]? =Z v->cf φ O w x v):cf φ O w (.qb cells) (.tuple vs.toArray)
 |qy {g:FuncId} {cells:List AV} {vs:ξ} (hl:l! vs=l! cells)
   (hr:∀(j:Nat) x v,cells[j]? =Z x->vs[j]? =Z v->cf φ O w x v):cf φ O w (.qy g cells) (.func (.func g) #[] vs.toArray)
structure HY (O:Nat->Prop) (w w':World):Prop where
 os:w'.os=w.os
 tape:w'.tape=w.tape
 output:w'.output=w.output
 size:w.heap.size<=w'.heap.size
 jp:∀k,k<w.heap.size->¬O k->w'.heap[k]? =w.heap[k]?
 xz:∀k,k<w.heap.size->w'.shape? k=w.shape? k
def HY.refl (O:Nat->Prop) (w:World):HY O w w:=⟨rfl,rfl,rfl,bJ _,λ_ _ _=>rfl,λ_ _=>rfl⟩
variable {w:World} {i:Nat}
def Hy {w':World} (h:w'.heap[i]? =w.heap[i]?) (o:Nat):w'.cell? ⟨i,o,U⟩=w.cell? ⟨i,o,U⟩:=by
 unfold R6;rw[h]
variable {O:Nat->Prop} {v:Value}
def nu.ext {O':Nat->Prop} {w':World} (he:HY O w w') (ho:∀k,k<w.heap.size->O' k->O k) {x:FV} (h:nu O w x v):nu O' w' x v:=by
 induction h with
 |raw v=>exact .raw v
 |nil a c hc=>exact .nil a c hc
 |sl cells n c b off L hn hc D z hcl hu hr A=>
  exact .sl cells n c b off L hn hc (λh=>D (ho b z h)) (dy z he.size) hcl (λj hj=>by rw[Hy (he.jp b z D)];exact hu j hj) A
 |P cells o b off L D z hcl hu hr A=>
  exact .P cells o b off L (λh=>D (ho b z h)) (dy z he.size) hcl (λj hj=>by rw[Hy (he.jp b z D)];exact hu j hj) A
 |agg cells vs hl hcl hr A=>exact .agg cells vs hl hcl A
variable {V:PM} {y:AV}
def cf.ext {φ':PM} {O':Nat->Prop} {w':World} (D:∀i k,V i=Z k->φ' i=Z k) (he:HY O w w') (ho:∀k,k<w.heap.size->O' k->O k) (h:cf V O w y v):cf φ' O' w' y v:=by
 induction h with
 |f h=>exact .f (h.ext he ho)
 |P h=>exact .P (D _ _ h)
 |sl h L hc=>exact .sl (D _ _ h) L hc
 |I h L hc hsh=>
  let⟨ty,hty⟩:=hsh;refine .I (D _ _ h) L hc ⟨ty,?_⟩;rw[he.xz _ ?_];exact hty;unfold tL at hty
  grind
 |emp=>exact .emp
 |qw=>exact .qw
 |qc h=>exact .qc (h.ext he ho)
 |mp h=>exact .mp (D _ _ h)
 |agg A hcl hr z=>exact .agg A hcl z
 |qb A hr z=>exact .qb A z
 |qy A hr z=>exact .qy A z
inductive BC where
 |fz (l:List FV)
 |mx (l:List AV)
 |mp (es:List (Value×AV))
 |it (s:ByteArray) (pos:Nat)
def BC.get:BC->Nat->M AV
 |.fz l,j=>l[j]?.map AV.f
 |.mx l,j=>l[j]?
 |_,_=>U
def BC.len:BC->Nat
 |.fz l|.mx l=>l! l
 |_=>0
def BC.isCells:BC->Bool
 |.fz _=>J
 |.mx _=>J
 |_=>af
structure kH where
 ty:TypeId
 c:BC
abbrev HF:=Nat->M kH
def own (φ:PM) (h:HF) (k:Nat):Prop:=∃id b,h id=Z b/\φ id=Z k
def tot (E:Nat->Prop) (φ:PM) (h:HF) (k:Nat):Prop:=E k\/own φ h k
def vE (φ:PM) (O:Nat->Prop) (w:World) (c:BC) (arr:Array Value):Prop:=
 c.len<=arr.size/\∀j x,c.get j=Z x->x.isCell=J/\∃v,arr[j]? =Z v/\cf φ O w x v
abbrev n!:=Value×AV
def MpK (_:TypeId) (es:Y n!) (ents:Array MapEntry):Prop:=ents.toList.map (·.key)=es.map (·.1)
def MpV (_:TypeId) (ents:Array MapEntry) (j:Nat) (_ v:Value):Prop:=∃m,ents[j]? =Z m/\v=m.val
def ij (φ:PM) (O:Nat->Prop) (w:World) (b:kH) (o:Obj):Prop:=
 match b.c with
 |.mp es=>∃ents clock,o= .map ents clock/\MpK b.ty es ents/\∀(j:Nat) x,es[j]? =Z x->∃v,MpV b.ty ents j x.1 v/\cf φ O w x.2 v
 |.it s p=>o= .stringIter s p
 |c=>∃arr,o= .cells arr b.ty (0,0)/\vE φ O w c arr
def am8 (φ:PM) (O:Nat->Prop) (w:World) (k:Nat) (b:kH):Prop:=∃o,w.heap[k]? =Z o/\ij φ O w b o
variable {N:kH}
def am8.cells (h:am8 V O w i N) (A:N.c.isCells=J):
 ∃arr,w.heap[i]? =Z (.cells arr N.ty (0,0))/\vE V O w N.c arr:=by
 let⟨o,h1,z⟩:=h;unfold ij at z;cases D:N.c with
 |fz l|mx l=>rw[D]at z;obtain⟨arr,rfl,L⟩:=z;exact⟨arr,h1,L⟩
 |_=>rw[D]at A;cases A
def ij.mono {φ':PM} {O':Nat->Prop} {w':World} (hk:∀x v,cf V O w x v->cf φ' O' w' x v) {o:Obj} (h:ij V O w N o):ij φ' O' w' N o:=by
 unfold ij at h ⊢;cases L:N.c with
 |mp es=>rw[L]at h;let⟨e,c,h1,D,A⟩:=h;exact⟨e,c,h1,D,λj x z=>by let⟨m,a,N⟩:=A j x z;exact⟨m,a,hk _ _ N⟩⟩
 |it s p=>rw[L]at h;exact h
 |_=>rw[L]at h;let⟨arr,h1,D,A⟩:=h;exact⟨arr,h1,D,λj x z=>by let⟨a,v,c,d⟩:=A j x z;exact⟨a,v,c,hk _ _ d⟩⟩
def vE.mono {φ':PM} {O':Nat->Prop} {w':World} (A:∀x v,cf V O w x v->cf φ' O' w' x v) {c:BC} {arr:Array Value} (h:vE V O w c arr):vE φ' O' w' c arr:=
 ⟨h.1,λj x z=>by let⟨a,v,c,d⟩:=h.2 j x z;exact⟨a,v,c,A _ _ d⟩⟩
def wZ (l:ζ):FV:=.raw (.string ⟨l.toArray⟩)
def Gj:Y FV:=[wZ [118,97,114],wZ [118,111,108,97,116,105,108,101],wZ [109,117,116,101,120],wZ [114,119,108,111,99,107],wZ [99,111,110,100],wZ [102,117,116,117,114,101],wZ [116,104,114,101,97,100],wZ [105,102],wZ [101,108,115,101],wZ [119,104,105,108,101],wZ [108,111,99,107],wZ [114,101,97,100],wZ [119,114,105,116,101],wZ [116,114,97,110,115,97,99,116,105,111,110],wZ [97,116,111,109,105,99],wZ [119,97,105,116],wZ [110,111,116,105,102,121],wZ [110,111,116,105,102,121,97,108,108],wZ [115,112,97,119,110],wZ [106,111,105,110],wZ [115,101,116],wZ [103,101,116]]
def G (g:Nat):M (Y FV):=if g==0 then Z Gj else U
structure sC (φ:PM) (E:Nat->Prop) (h:HF) (w:World):Prop where
 inj:∀i j b b' k,h i=Z b->h j=Z b'->φ i=Z k->φ j=Z k->i=j
 at_:∀i b,h i=Z b->∃k,φ i=Z k/\¬E k/\am8 φ (tot E φ h) w k b
 el:∀k,E k->k<w.heap.size
 gl:∀g cells,G g=Z cells->nu (tot E φ h) w (.P cells 0) (.pointer (Z ⟨g,0,U⟩))
structure kl (φ φ':PM) (h h':HF) (w w':World):Prop where
 sub:∀i k,φ i=Z k->φ' i=Z k
 ext:HY (own φ h) w w'
 ql:∀k,k<w.heap.size->own φ' h' k->own φ h k
def kl.refl (φ:PM) (h:HF) (w:World):kl φ φ h h w w:=⟨λ_ _ h=>h,HY.refl _ _,λ_ _ h=>h⟩
variable {S:HF}
def kl.trans {φ' φ'':PM} {h' h'':HF} {w' w'':World} (m:kl V φ' S h' w w') (n:kl φ' φ'' h' h'' w' w''):kl V φ'' S h'' w w'' where
 sub:=λi k e=>n.sub i k (m.sub i k e)
 ext:=⟨n.ext.os.trans m.ext.os,n.ext.tape.trans m.ext.tape,n.ext.output.trans m.ext.output,c6 m.ext.size n.ext.size,
  λk z A=>(n.ext.jp k (dy z m.ext.size) (λS=>A (m.ql k z S))).trans (m.ext.jp k z A),
  λk z=>(n.ext.xz k (dy z m.ext.size)).trans (m.ext.xz k z)⟩
 ql:=λk z S=>m.ql k z (n.ql k (dy z m.ext.size) S)
def HY.mono {O':Nat->Prop} {w':World} (h:HY O w w') (z:∀k,O k->O' k):HY O' w w':=
 ⟨h.os,h.tape,h.output,h.size,λk A D=>h.jp k A (λx=>D (z k x)),h.xz⟩
def kl.zw {φ':PM} {h':HF} {w':World} (m:kl V φ' S h' w w') (r:cf V (tot O V S) w y v):cf φ' (tot O φ' h') w' y v:=
 r.ext m.sub (m.ext.mono λ_ S=>.inr S) λk A z=>z.elim .inl λo=>.inr (m.ql k A o)
def kl.keepF {φ':PM} {h':HF} {w':World} (m:kl V φ' S h' w w') {x:FV} (r:nu (tot O V S) w x v):nu (tot O φ' h') w' x v:=
 r.ext (m.ext.mono λ_ S=>.inr S) λk A z=>z.elim .inl λo=>.inr (m.ql k A o)
abbrev EF:=Nat->M AV
def R3 (φ:PM) (O:Nat->Prop) (w:World) (e:EF) (a:Act):Prop:=∀t x,e t=Z x->cf φ O w x (a.tmps.getD t undef)
def PA (e:EF) (dst:M Nat) (x:AV):EF:=λt=>if dst=Z t then Z x else e t
def fx (h:HF) (z:ι) (A:HF):HF:=λi=>if i∈z then A i else h i
structure EG where
 val:AV
 rd:ι
 wr:ι
 nw:HF
 N:ι
def gF (P:Program) (o:Oper) (e:EF) (h:HF) (f:EG):Prop:=
 ∀(φ:PM) (E:Nat->Prop) (h':HF) (w:World) (a:Act),(∀i∈f.rd,h' i=h i)->(∀i∈f.wr,h' i=h i)->
  (∀t,.tmp t∈o.op.operands->∀y,e t=Z y->cf φ (tot E φ h') w y (a.tmps.getD t undef))->sC φ E h' w->(∀n∈f.N,φ n=U)->
  o.wp P a w (λz w'=>∃v φ',z=a.put o.dst v/\kl φ φ' h' (fx h' f.wr f.nw) w w'/\(∀i k,φ' i=Z k->φ i=Z k\/i∈f.N)/\
   sC φ' E (fx h' f.wr f.nw) w'/\cf φ' (tot E φ' (fx h' f.wr f.nw)) w' f.val v) (λ_ _ _=>False)
def tO:EG:=⟨.f (.raw undef),[],[],λ_=>U,[]⟩
inductive O5 (P:Program) (ops:Array Oper) (o:Oper) (f:EG) (e:EF) (h:HF):Prop
 |run (hg:o.guard=U) (ht:gF P o e h f)
 |runG (j t:Nat) (want:Bool) (hg:o.guard=Z (j,want)) (hj:(ops[j]?).bind (·.dst)=Z t) (he:e t=Z (.f (.raw (.bool want)))) (ht:gF P o e h f)
 |skip (j t:Nat) (want:Bool) (hg:o.guard=Z (j,want)) (hj:(ops[j]?).bind (·.dst)=Z t) (v:Value) (he:e t=Z (.f (.raw v))) (hv:v≠ .bool want) (hf:f=tO)
inductive C8 (P:Program) (ops:Array Oper):List (Oper×EG)->EF->HF->EF->HF->Prop
 |nil (e:EF) (h:HF):C8 P ops [] e h e h
 |cons {o:Oper} {f:EG} {r:List (Oper×EG)} {e e':EF} {h h':HF} (hs:O5 P ops o f e h)
   (hr:C8 P ops r (PA e o.dst f.val) (fx h f.wr f.nw) e' h'):C8 P ops ((o,f)::r) e h e' h'
abbrev w?:=Oper×EG
def QW (S:Nat->Bool):Nat->Y w?->EF->EF
 |_,[],e=>e
 |k,(o,f)::r,e=>QW S (k+1) r (if S k then PA e o.dst f.val else e)
def HX (S:Nat->Bool):Nat->Y w?->HF->HF
 |_,[],h=>h
 |k,(_,f)::r,h=>HX S (k+1) r (if S k then fx h f.wr f.nw else h)
variable {p:Nat->Bool}
def H4 {S':Nat->Bool} :∀(l:Y w?) (k:Nat) (e e':EF),e i=e' i->
 (∀(j:Nat) o f,l[j]? =Z (o,f)->o.dst=Z i->p (k+j)=S' (k+j))->QW p k l e i=QW S' k l e' i
 |[],_,_,_,he,_=>he
 |(o,f)::r,k,e,e',he,z=>by
  refine H4 r (k+1) _ _ ?_ (λj o f A hd=>by have:=z (j+1) o f (by grind) hd;rwa [show k+(j+1)=k+1+j from by omega]at this);by_cases hd:o.dst=Z i
  .rw[show p k=S' k from by simpa using z 0 o f rfl hd];split
   .simp[PA,hd]
   .exact he
  .split<;>split<;>simp[PA,hd,he]
def H3 {S':Nat->Bool} :∀(l:Y w?) (k:Nat) (e e':HF),e i=e' i->
 (∀(j:Nat) o f,l[j]? =Z (o,f)->i∈f.wr->p (k+j)=S' (k+j))->HX p k l e i=HX S' k l e' i
 |[],_,_,_,he,_=>he
 |(o,f)::r,k,e,e',he,z=>by
  refine H3 r (k+1) _ _ ?_ (λj o f A hd=>by have:=z (j+1) o f (by grind) hd;rwa [show k+(j+1)=k+1+j from by omega]at this);by_cases hd:i∈f.wr
  .rw[show p k=S' k from by simpa using z 0 o f rfl hd];split
   .simp[fx,hd]
   .exact he
  .split<;>split<;>simp[fx,hd,he]
def FN :∀(l:Y w?) (k:Nat) (e:EF),(∀(j:Nat) o f,l[j]? =Z (o,f)->o.dst=Z i->p (k+j)=af)->QW p k l e i=e i
 |[],_,_,_=>rfl
 |(o,f)::r,k,e,z=>by
  simp[QW];rw[FN r (k+1) _ (λj o f A hd=>by have:=z (j+1) o f (by grind) hd;rwa [show k+(j+1)=k+1+j from by omega]at this)];split
  next h=>unfold PA;rw[av];intro hd;have:=z 0 o f rfl hd;simp_all
  .rfl
def FM :∀(l:Y w?) (k:Nat) (e:HF),(∀(j:Nat) o f,l[j]? =Z (o,f)->i∈f.wr->p (k+j)=af)->HX p k l e i=e i
 |[],_,_,_=>rfl
 |(o,f)::r,k,e,z=>by
  simp[HX];rw[FM r (k+1) _ (λj o f A hd=>by have:=z (j+1) o f (by grind) hd;rwa [show k+(j+1)=k+1+j from by omega]at this)];split
  next h=>unfold fx;rw[av];intro hd;have:=z 0 o f rfl hd;simp_all
  .rfl
def UU :∀(l:Y w?) (k t:Nat) (e:EF) (o:Oper) (f:EG),l[t]? =Z (o,f)->o.dst=Z i->p (k+t)=J->
 (∀(j:Nat) z L,t<j->l[j]? =Z (z,L)->z.dst=Z i->p (k+j)=af)->QW p k l e i=Z f.val
 |[],_,_,_,_,_,h,_,_,_=>by simp at h
 |(z,L)::r,k,0,e,o,f,h,hd,D,A=>by
  obtain⟨rfl,rfl⟩:=h;simp[QW];rw[FN r (k+1) _ (λj o f hj hd=>by have:=A (j+1) o f (by omega) (by grind) hd;rwa [show k+(j+1)=k+1+j from by omega]at this)];simp at D;simp[D,PA,hd]
 |(z,L)::r,k,t+1,e,o,f,h,hd,D,A=>by
  exact UU r (k+1) t _ o f (by grind) hd (by grind)
   (λj o f hij hj hd=>by have:=A (j+1) o f (by omega) (by grind) hd;rwa [show k+(j+1)=k+1+j from by omega]at this)
def UT :∀(l:Y w?) (k t:Nat) (e:HF) (o:Oper) (f:EG),l[t]? =Z (o,f)->i∈f.wr->p (k+t)=J->
 (∀(j:Nat) A z,t<j->l[j]? =Z (A,z)->i∈z.wr->p (k+j)=af)->HX p k l e i=f.nw i
 |[],_,_,_,_,_,h,_,_,_=>by simp at h
 |(A,z)::r,k,0,e,o,f,h,hd,L,D=>by
  obtain⟨rfl,rfl⟩:=h;simp[HX];rw[FM r (k+1) _ (λj o f hj hd=>by have:=D (j+1) o f (by omega) (by grind) hd;rwa [show k+(j+1)=k+1+j from by omega]at this)];simp at L;simp[L,fx,hd]
 |(A,z)::r,k,t+1,e,o,f,h,hd,L,D=>by
  exact UT r (k+1) t _ o f (by grind) hd (by grind)
   (λj o f hij hj hd=>by have:=D (j+1) o f (by omega) (by grind) hd;rwa [show k+(j+1)=k+1+j from by omega]at this)
variable {T:Program} {B:Array Oper}
def C8.step :∀{l:Y w?} {e e':EF} {h h':HF} (_:C8 T B l e h e' h') (k i:Nat) (o:Oper) (f:EG),l[i]? =Z (o,f)->
 O5 T B o f (QW (λj=>decide (j<k+i)) k l e) (HX (λj=>decide (j<k+i)) k l h):=by
 intro l e e' h h' hc;induction hc with
 |nil=>intro k i o f hi;simp at hi
 |@cons z A r e e' h h' L hr D=>
  intro k i o f hi;cases i with
  |zero=>
   obtain⟨rfl,rfl⟩:=hi;have e1:QW (λj=>decide (j<k+0)) k ((z,A)::r) e=e:=by
    funext t;rw[FN];simp
   have e2:HX (λj=>decide (j<k+0)) k ((z,A)::r) h=h:=by
    funext t;rw[FM];simp
   rw[e1,e2];exact L
  |succ i=>
   have:=D (k+1) i o f (by grind);simp[QW,HX]
   grind
def C8.final :∀{l:Y w?} {e e':EF} {h h':HF} (_:C8 T B l e h e' h') (k:Nat) (S:Nat->Bool),(∀j,j<l! l->S (k+j)=J)->
 QW S k l e=e'/\HX S k l h=h':=by
 intro l e e' h h' D;induction D with
 |nil=>intro k S _;exact⟨rfl,rfl⟩
 |@cons L f1 r e e' h h' hs hr A=>
  intro k S z;have h0:S k=J:=by simpa using z 0 (by simp)
  simp[QW,HX,h0,bk];exact A (k+1) S (λj hj=>by have:=z (j+1) (by grind);rwa [show k+(j+1)=k+1+j from by omega]at this)
variable {z:Act} {d:Exit->Act->World->Prop}
def UJ {o:Oper} {K K':Act->World->Prop} (h:∀z w,K z w->K' z w)
 (hh:o.wp T z w K (λ_ _ _=>False)):o.wp T z w K' d:=by
 unfold Lx at*
 generalize (execOp z.eval o).run T w=r at*
 cases r with
 |ok n w'=>
  cases n<;>simp[Oper.upon]at hh ⊢<;>
   first
    |exact h _ _ hh
    |exact Calls.mono hh (λe w'' he=>by
      cases e with
      |returned v=>exact h _ _ he
      |panicked c=>exact he.elim
      |outgrown=>let⟨_,_,h⟩:=he;exact h.elim)
    |exact Rows.mono hh (λ_ _ he=>h _ _ he)
 |halt x w'=>cases x<;>simp[Oper.upon]at hh ⊢<;>first|exact hh.elim|exact hh
inductive Bef (ops:Array Oper):Nat->Nat->Prop
 |one {j:Nat} {o:Oper} {e:Edge} (h:ops[j]? =Z o) (he:e∈o.after) (hb:C9 .any e=J):Bef ops j e.on
 |more {j i:Nat} {o:Oper} {e:Edge} (h:ops[j]? =Z o) (he:e∈o.after) (hb:C9 .any e=J) (hi:Bef ops e.on i):Bef ops j i
structure NIP (ops:Array Oper) (l:List (Oper×EG)):Prop where
 edge:∀(j:Nat) o,ops[j]? =Z o->∀e∈o.after,C9 .any e=J->e.on<j
 pair:∀(i j:Nat) oi fi oj fj,i<j->l[i]? =Z (oi,fi)->l[j]? =Z (oj,fj)->Bef ops j i\/
  (oi.apart ops oj=J/\(∀x∈fi.wr,x∉fj.rd/\x∉fj.wr)/\(∀x∈fj.wr,x∉fi.rd))
 names:∀(i j:Nat) oi fi oj fj,i<j->l[i]? =Z (oi,fi)->l[j]? =Z (oj,fj)->∀n∈fi.N,n∉fj.N
def Jj (ops:Array Oper) (listed:Array Bool):Prop:=∀(j:Nat) o,ops[j]? =Z o->listed.getD j af=J->∀e∈o.after,C9 .any e=J->listed.getD e.on af=J
variable {j:Nat}
def Jj.bef {listed:Array Bool} (D:Jj B listed) (h:Bef B j i):listed.getD j af=J->listed.getD i af=J:=by
 induction h with
 |one h he A=>intro z;exact D _ _ h z _ he A
 |more h he A hi L=>intro z;exact L (D _ _ h z _ he A)
def ae4 {listed:Array Bool} (L:Jj B listed) {o:Oper} (z:B[j]? =Z o) (D:∀e∈o.after,C9 .any e=J->listed.getD e.on af=J) (h:Bef B j i):listed.getD i af=J:=by
 cases h with
 |one h he A=>rw[h]at z;cases z;exact D _ he A
 |more h he A hi=>rw[h]at z;cases z;exact L.bef hi (D _ he A)
def By {listed:Array Bool} (h:listed.getD j J=af):listed.getD j af=af/\j<listed.size:=by grind
def StP (φ0:PM) (E:Nat->Prop) (e0:EF) (h0:HF) (w0:World) (z:Act) (l:Y w?) (S:Nat->Bool) (a:Act) (w:World):Prop:=
 ∃φ,kl φ0 φ h0 (HX S 0 l h0) w0 w/\(∀i k,φ i=Z k->φ0 i=Z k\/∃(j:Nat) (o:Oper) (f:EG),S j=J/\l[j]? =Z (o,f)/\i∈f.N)/\
  sC φ E (HX S 0 l h0) w/\R3 φ (tot E φ (HX S 0 l h0)) w (QW S 0 l e0) a/\a.defers=z.defers/\a.tmps.size=z.tmps.size
def Vl {dst:M Tmp} (hd:∀d,dst=Z d->d<z.tmps.size):(z.put dst v).tmps.getD i undef=if dst=Z i then v else z.tmps.getD i undef:=by
 cases dst with
 |none=>simp[Sc]
 |some d=>
  by_cases h:d=i
  .subst h;simp[Sc,hd d rfl]
  .simp[Sc,h,Array.getElem?_setIfInBounds_ne h]
def Vk {dst:M Tmp} :(z.put dst v).tmps.size=z.tmps.size:=by cases dst<;>simp[Sc]
def Mi {dst:M Tmp} :(z.put dst v).defers=z.defers:=by cases dst<;>rfl
def aia {l:Y w?} {e0 e':EF} {h':HF} {w0:World} 
 (hl:l.map (·.1)=B.toList) (hc:C8 T B l e0 S e' h') (ni:NIP B l) (hfr:∀(j:Nat) o f,l[j]? =Z (o,f)->∀n∈f.N,V n=U)
 (hsz:∀(j:Nat) o,B[j]? =Z o->∀Q,o.dst=Z Q->Q<z.tmps.size) {listed:Array Bool} (hcl:Jj B listed) (hi:i∈Lw .any B listed) {K:Act->World->Prop}
 (hK:∀a w,StP V O e0 S w0 z l (λj=>(listed.setIfInBounds i J).getD j af) a w->K a w) {a:Act} (hst:StP V O e0 S w0 z l (λj=>listed.getD j af) a w):
 wpOp T B d i K a w:=by
 let⟨hun,o,ho,hdeps⟩:=mem_ready.1 hi;let⟨hnf,hlt⟩:=By hun;have hln:∀(j:Nat) o',B[j]? =Z o'->∃f,l[j]? =Z (o',f):=λj o' h=>by
  have h1:(l.map (·.1))[j]? =Z o':=by rw[hl];simpa using h
  rw[bB]at h1;cases A:l[j]? with
  |none=>rw[A]at h1;cases h1
  |some p=>rw[A]at h1;let⟨a,b⟩:=p;simp at h1;subst h1;exact⟨b,rfl⟩
 have hnl:∀(j:Nat) o' f,l[j]? =Z (o',f)->B[j]? =Z o':=λj o' f h=>by
  have h1:(l.map (·.1))[j]? =Z o':=by rw[bB,h];rfl
  rw[hl]at h1;simpa using h1
 let⟨f,hf⟩:=hln i o ho;have hord:∀(j:Nat) L D,j≠i->l[j]? =Z (L,D)->(listed.getD j af=decide (j<i))\/
  (o.apart B L=J\/L.apart B o=J)/\(∀x∈f.wr,x∉D.rd/\x∉D.wr)/\(∀x∈D.wr,x∉f.rd/\x∉f.wr):=by
  intro j L D hji A;rcases cC j i with h|h
  .rcases ni.pair j i L D o f h A hf with hb|⟨h1,h2,h3⟩
   .left;rw[ae4 hcl ho hdeps hb];simp[h]
   .right;exact⟨.inr h1,λx hx=>⟨h3 x hx,λhx'=>(h2 x hx').2 hx⟩,λx hx=>h2 x hx⟩
  .have h:i<j:=by omega
   rcases ni.pair i j o f L D h hf A with hb|⟨h1,h2,h3⟩
   .left;have:listed.getD j af=af:=by
     cases hx:listed.getD j af with
     |false=>rfl
     |true=>have:=hcl.bef hb hx;rw[hnf]at this;cases this
    rw[this];simp;omega
   .right;exact⟨.inl h1,λx hx=>h2 x hx,λx hx=>⟨h3 x hx,λhx'=>(h2 x hx').2 hx⟩⟩
 have hS':∀j,(listed.setIfInBounds i J).getD j af=if j=i then J else listed.getD j af:=λj=>by
  by_cases h:i=j
  .subst h;simp[hlt]
  .rw[getD_set_ne af h,av (λe=>h e.symm)]
 have hlater:∀(j:Nat) L D,i<j->l[j]? =Z (L,D)->(listed.getD j af=af)\/((o.apart B L=J\/L.apart B o=J)/\(∀x∈f.wr,x∉D.rd/\x∉D.wr)):=by
  intro j L D hij A;rcases hord j L D (by omega) A with h|⟨h1,h2,_⟩
  .left;rw[h];simp;omega
  .right;exact⟨h1,h2⟩
 have hdd:∀{x y:Oper},(x.apart B y=J\/y.apart B x=J)->∀Q,x.dst=Z Q->y.dst≠Z Q:=by
  intro x y h Q hd he;rcases h with h|h
  .exact (Oper.apart_spec h).2.1 Q hd he
  .exact (Oper.apart_spec h).2.1 Q he hd
 have hlook:∀{x y:Oper},(x.apart B y=J\/y.apart B x=J)->∀Q,y.dst=Z Q->Q∉x.looksAt B:=by
  intro x y h Q hd;rcases h with h|h
  .exact (Oper.apart_spec h).2.2 Q hd
  .exact (Oper.apart_spec h).1 Q hd
 have heL:∀t,t∈o.looksAt B->QW (λj=>listed.getD j af) 0 l e0 t=QW (λj=>decide (j<0+i)) 0 l e0 t:=λt ht=>by
  refine H4 l 0 e0 e0 rfl λj L D A hd=>?_
  simp only[bX];by_cases hji:j=i
  .subst hji;rw[hnf];simp
  .rcases hord j L D hji A with h|⟨h,_⟩
   .exact h
   .exact cq ht (hlook h t hd)
 have hhL:∀t,t∈f.rd\/t∈f.wr->HX (λj=>listed.getD j af) 0 l S t=HX (λj=>decide (j<0+i)) 0 l S t:=λt ht=>by
  refine H3 l 0 S S rfl λj L D A hd=>?_
  simp only[bX];by_cases hji:j=i
  .subst hji;rw[hnf];simp
  .rcases hord j L D hji A with h|⟨_,_,h⟩
   .exact h
   .rcases ht with ht|ht
    .exact cq ht (h t hd).1
    .exact cq ht (h t hd).2
 have hE':∀t,QW (λj=>(listed.setIfInBounds i J).getD j af) 0 l e0 t=if o.dst=Z t then Z f.val else QW (λj=>listed.getD j af) 0 l e0 t:=λt=>by
  by_cases hd:o.dst=Z t
  .rw[aD hd];refine UU l 0 i e0 o f hf hd (by simp[hS']) λj o' f' hij A hd'=>?_
   simp only[bX,hS',av (show ¬j=i by omega)];rcases hlater j o' f' hij A with h|⟨h,_⟩
   .exact h
   .exact cq hd' (hdd h t hd)
  .rw[av hd];refine H4 l 0 e0 e0 rfl λj L D A hd'=>?_
   simp only[bX,hS'];rw[av];intro hji;subst hji;rw[hf]at A;cases A;exact hd hd'
 have hH':HX (λj=>(listed.setIfInBounds i J).getD j af) 0 l S=fx (HX (λj=>listed.getD j af) 0 l S) f.wr f.nw:=by
  funext t;unfold fx;by_cases hd:t∈f.wr
  .rw[aD hd];refine UT l 0 i S o f hf hd (by simp[hS']) λj o' f' hij A hd'=>?_
   simp only[bX,hS',av (show ¬j=i by omega)];rcases hlater j o' f' hij A with h|⟨_,h⟩
   .exact h
   .exact cq hd' (h t hd).2
  .rw[av hd];refine H3 l 0 S S rfl λj L D A hd'=>?_
   simp only[bX,hS'];rw[av];intro hji;subst hji;rw[hf]at A;cases A;exact hd hd'
 let⟨φ,hm,hdom,hrep,henv,hdef,hsize⟩:=hst;have hfrN:∀n∈f.N,φ n=U:=λn hn=>by
  cases hx:φ n with
  |none=>rfl
  |some k=>
   rcases hdom n k hx with h|⟨j,L,D,hSj,A,hnj⟩
   .rw[hfr i o f hf n hn]at h;cases h
   .have hji:j≠i:=by intro h;subst h;exact cq hSj (by simp only[hnf];simp)
    rcases cC j i with h|h
    .exact cq hn (ni.names j i L D o f h A hf n hnj)
    .exact cq hnj (ni.names i j o f L D (by omega) hf A n hn)
 have hdsz:∀Q,o.dst=Z Q->Q<a.tmps.size:=λQ hd=>by rw[hsize];exact hsz i o ho Q hd
 have main:∀(v:Value) (φ':PM) (w':World),kl φ φ' (HX (λj=>listed.getD j af) 0 l S) (fx (HX (λj=>listed.getD j af) 0 l S) f.wr f.nw) w w'->
  (∀i k,φ' i=Z k->φ i=Z k\/i∈f.N)->sC φ' O (fx (HX (λj=>listed.getD j af) 0 l S) f.wr f.nw) w'->
  cf φ' (tot O φ' (fx (HX (λj=>listed.getD j af) 0 l S) f.wr f.nw)) w' f.val v->K (a.put o.dst v) w':=by
  intro v φ' w' m1 d1 r1 v1;refine hK _ _ ⟨φ',?_,?_,?_,?_,?_,?_⟩
  .rw[hH'];exact hm.trans m1
  .grind
  .rw[hH'];exact r1
  .rw[hH'];intro t x hx;rw[hE' t]at hx;rw[Vl hdsz];by_cases hd:o.dst=Z t
   .rw[aD hd]at hx ⊢;cases hx;exact v1
   .rw[av hd]at hx ⊢;exact m1.zw (henv t x hx)
  .rw[Mi];exact hdef
  .rw[Vk];exact hsize
 have hstep:=hc.step 0 i o f hf;have hrun:gF T o (QW (λj=>decide (j<0+i)) 0 l e0) (HX (λj=>decide (j<0+i)) 0 l S) f->o.wp T a w K d:=by
  intro ht;refine UJ ?_ (ht φ O (HX (λj=>listed.getD j af) 0 l S) w a (λt h=>hhL t (.inl h)) (λt h=>hhL t (.inr h)) ?_ hrep hfrN)
  .rintro a' w' ⟨v,φ',rfl,m1,d1,r1,v1⟩;exact main v φ' w' m1 d1 r1 v1
  .intro t ht' y hy;refine henv t y ?_;rw[heL t (io _ (List.mem_filterMap.2 ⟨.tmp t,by simpa using ht',rfl⟩))];exact hy
 have hyield:∀(j t:Nat) (want b:Bool),o.guard=Z (j,want)->(B[j]?).bind (·.dst)=Z t->QW (λj=>decide (j<0+i)) 0 l e0 t=Z (.f (.raw (.bool b)))->jJ o (yielded B a.tmps)=(b==want):=by
  intro j t want b hg A he;rw[<- heL t (uX _ (by rw[hg];simp[A]))]at he;have h1:=henv t _ he;have h2:a.tmps.getD t undef= .bool b:=by
   generalize hz:a.tmps.getD t undef=a0 at h1;cases h1 with
   |f h=>cases h;rfl
  have h3:a.tmps[t]? =Z (.bool b):=by
   rw[ko]at h2;cases hz:a.tmps[t]? with
   |none=>rw[hz]at h2;simp[undef]at h2
   |some a0=>rw[hz]at h2;simp at h2;rw[h2]
  unfold jJ yielded;rw[hg];simp[A,h3]
 unfold wpOp;simp only[ho];cases hstep with
 |run hg ht=>
  rw[aD (by unfold jJ;rw[hg])];exact .inl (hrun ht)
 |runG j t want hg A he ht=>
  rw[aD (by rw[hyield j t want want hg A he];simp)];exact .inl (hrun ht)
 |skip j t want hg A v he hv hf'=>
  have hnw:jJ o (yielded B a.tmps)=af:=by
   rw[<- heL t (uX _ (by rw[hg];simp[A]))]at he;have h1:=henv t _ he;have h2:a.tmps.getD t undef=v:=by
    generalize a.tmps.getD t undef=a0 at h1;cases h1 with
    |f h=>cases h;rfl
   unfold jJ yielded;rw[hg];simp only[A,aF];rw[ko]at h2;cases hz:a.tmps[t]? with
   |none=>simp
   |some a0=>
    rw[hz]at h2;simp at h2;subst h2;cases a0<;>simp at hv ⊢;exact hv
  rw[av (by rw[hnw];simp)];subst hf';have hu:fx (HX (λj=>listed.getD j af) 0 l S) tO.wr tO.nw=HX (λj=>listed.getD j af) 0 l S:=by
   funext t;simp[fx,tO]
  refine main undef φ w ?_ (λ_ _ h=>.inl h) ?_ ?_
  .rw[hu];exact kl.refl _ _ _
  .rw[hu];exact hrep
  .exact .f (.raw _)
def Ur {l:θ} (h:l! l<=l.countP id):∀(j:Nat),j<l! l->l[j]? =Z J:=by
 have h1:l.countP id=l! l:=Nat.le_antisymm List.countP_le_length h;rw[List.countP_eq_length]at h1
 grind
def aag {l:Y w?} (z:NIP B l) {listed:Array Bool} (hs:listed.size=B.size) (A:Lw .any B listed=[]):
 ∀(n j:Nat),j<n->j<B.size->listed.getD j af=J:=by
 intro n;induction n with
 |zero=>intro j h;omega
 |succ n L=>
  intro j hj hjs;cases hx:listed.getD j af with
  |true=>rfl
  |false=>
   have hmem:j∈Lw .any B listed:=by
    refine mem_ready.2 ⟨?_,B[j],pG hjs,λe he D=>?_⟩
    .grind
    .have h1:=z.edge j _ (pG hjs) e he D
     grind
   rw[A]at hmem;cases hmem
def RU {l:Y w?} {e0 e':EF} {h':HF} {E:Nat->Prop} {w0:World} 
 (hl:l.map (·.1)=B.toList) (L:C8 T B l e0 S e' h') (ni:NIP B l) (hfr:∀(j:Nat) o f,l[j]? =Z (o,f)->∀n∈f.N,V n=U)
 (hsz:∀(j:Nat) o,B[j]? =Z o->∀Q,o.dst=Z Q->Q<z.tmps.size) 
 (hQ:∀a w,StP V E e0 S w0 z l (λ_=>J) a w->d .normal a w):
 ∀(fuel:Nat) (listed:Array Bool) (a:Act) (w:World),listed.size=B.size->Jj B listed->B.size<=fuel+listed.toList.countP id->
  StP V E e0 S w0 z l (λj=>listed.getD j af) a w->wpAny T .any B d fuel listed a w:=by
 have hlen:l! l=B.size:=by have:=eO aj hl;simpa using this
 have fin:∀(listed:Array Bool) (a:Act) (w:World),(∀j,j<B.size->listed.getD j af=J)->StP V E e0 S w0 z l (λj=>listed.getD j af) a w->d .normal a w:=by
  intro listed a w hall hst;refine hQ a w ?_;have h1:=L.final 0 (λj=>listed.getD j af) (λj A=>by simp only[bX];exact hall j (by omega));have h2:=L.final 0 (λ_=>J) (λ_ _=>rfl);unfold StP at hst ⊢
  grind
 intro fuel;induction fuel with
 |zero=>
  intro listed a w D hcl hcnt hst;have hall:∀j,j<B.size->listed.getD j af=J:=λj A=>by
   have:=Ur (l:=listed.toList) (by grind) j (by grind);simp_all
  refine ⟨?_,fin listed a w hall hst⟩;cases hr:Lw .any B listed with
  |nil=>rfl
  |cons i r=>
   have hi:i∈Lw .any B listed:=by grind
   let⟨hun,o,ho,_⟩:=mem_ready.1 hi
   grind
 |succ fuel ih=>
  intro listed a w D hcl hcnt hst;refine ⟨λhr=>fin listed a w (λj A=>aag ni D hr (j+1) j (by omega) A) hst,λi hi=>?_⟩;let⟨hun,o,ho,hdeps⟩:=mem_ready.1 hi;let⟨hnf,hlt⟩:=By hun;refine aia hl L ni hfr hsz hcl hi (λa' w' h=>ih _ a' w' ?_ ?_ ?_ h) hst
  .simpa using D
  .intro j oj hoj A e he hb;by_cases hji:i=j
   .subst hji;rw[ho]at hoj;cases hoj;exact getD_set_true (hdeps e he hb)
   .rw[getD_set_ne af hji]at A;exact getD_set_true (hcl j oj hoj A e he hb)
  .have h1:listed.toList[i]? =Z af:=by
    simp_all
   grind
def azr (φ0:PM) (E:Nat->Prop) (e':EF) (h0 h':HF) (N:ι) (w0:World) (z:Act) (a:Act) (w:World):Prop:=
 ∃φ,kl φ0 φ h0 h' w0 w/\(∀i k,φ i=Z k->φ0 i=Z k\/i∈N)/\sC φ E h' w/\R3 φ (tot E φ h') w e' a/\a.defers=z.defers/\a.tmps.size=z.tmps.size
def kl.drew (w:World):kl V V S S w {w with drawn:=w.drawn+1}:=
 ⟨λ_ _ S=>S,⟨rfl,rfl,rfl,bJ _,λ_ _ _=>rfl,λ_ _=>rfl⟩,λ_ _ S=>S⟩
def sC.moved {w':World} (r:sC V O S w) (m:kl V V S S w w') (z:∀k,own V S k->w'.heap[k]? =w.heap[k]?):sC V O S w':=
 ⟨r.inj,λi b A=>by
   let⟨k,h1,h2,o,h3,L⟩:=r.at_ i b A;exact⟨k,h1,h2,o,by rw[z k ⟨i,b,A,h1⟩];exact h3,L.mono λ_ _ S=>m.zw S⟩,λk z=>dy (r.el k z) m.ext.size,
   λg cells D=>m.keepF (r.gl g cells D)⟩
variable {b:Bool}
def Vh {l:Y w?} {e0 e':EF} {h':HF} {φ0:PM} {E:Nat->Prop} 
 (hm:T.follows .mixedOrders=J) (hl:l.map (·.1)=B.toList) (hc:C8 T B l e0 S e' h') (L:NIP B l) (hfr:∀n∈l.flatMap (λp=>p.2.N),φ0 n=U)
 (hsz:∀(j:Nat) o,B[j]? =Z o->∀Q,o.dst=Z Q->Q<z.tmps.size) (hrep:sC φ0 E S w) (henv:R3 φ0 (tot E φ0 S) w e0 z) 
 (hQ:∀a w0,azr φ0 E e' S h' (l.flatMap (λp=>p.2.N)) w z a w0->d .normal a w0):(Code.region i B b).wp T d z w:=by
 have hfr':∀(j:Nat) o f,l[j]? =Z (o,f)->∀n∈f.N,φ0 n=U:=λj o f A n hn=>hfr n (xk.2 ⟨(o,f),a8 A,hn⟩)
 have fin:∀a w0,StP φ0 E e0 S w z l (λ_=>J) a w0->d .normal a w0:=by
  rintro a w0 ⟨φ,m,Q,r,en,df,sz⟩;have D:=hc.final 0 (λ_=>J) (λ_ _=>rfl);rw[D.2]at m r en;rw[D.1]at en;refine hQ a w0 ⟨φ,m,λid k h=>?_,r,en,df,sz⟩
  grind
 have st0:∀(w0:World),kl φ0 φ0 S S w w0->sC φ0 E S w0->StP φ0 E e0 S w z l (λj=>(uG B.size af).getD j af) z w0:=by
  intro w0 m r;have e1:(λj=>(uG B.size af).getD j af)=λ_=>af:=by
   funext j;rw[ko,Array.getElem?_replicate];split<;>rfl
  rw[e1];have e2:QW (λ_=>af) 0 l e0=e0:=by funext t;rw[FN];intros;rfl
  have e3:HX (λ_=>af) 0 l S=S:=by funext t;rw[FM];intros;rfl
  refine ⟨φ0,by rw[e3];exact m,λ_ _ h=>.inl h,by rw[e3];exact r,?_,rfl,rfl⟩;rw[e2,e3];exact λt x hx=>m.zw (henv t x hx)
 have cl0:Jj B (uG B.size af):=by
  intro j o ho A;rw[ko,Array.getElem?_replicate]at A;split at A<;>simp at A
 cases b with
 |true=>
  refine wp_region_any hm ?_;exact RU hl hc L hfr' hsz fin B.size _ z _ (by simp) cl0 (by omega) (st0 _ (kl.drew w) (hrep.moved (kl.drew w) λ_ _=>rfl))
 |false=>
  have hany:=RU (E:=E) (w0:=w) hl hc L hfr' hsz fin B.size _ z w (by simp) cl0 (by omega) (st0 _ (kl.refl _ _ _) hrep);refine wp_region ?_;have key:∀(m k:Nat) (listed:Array Bool) (a:Act) (w0:World),k+m=B.size->listed.size=B.size->(∀j,j<k->listed.getD j af=J)->(∀j,k<=j->j<B.size->listed.getD j J=af)->
   wpAny T .any B d m listed a w0->wpOps T B d (List.range' k m) a w0:=by
   intro m;induction m with
   |zero=>intro k listed a w0 hk hs h1 D h;simpa[wpOps] using h.2
   |succ m ih=>
    intro k listed a w0 hk hs h1 D h;have hkr:k∈Lw .any B listed:=by
     refine mem_ready.2 ⟨D k (bJ _) (by omega),B[k]'(by omega),pG (by omega),λe he hb=>?_⟩;exact h1 _ (L.edge k _ (pG (by omega)) e he hb)
    refine wpOp_mono (λa' w' h'=>ih (k+1) (listed.setIfInBounds k J) a' w' (by omega) (by grind) ?_ ?_ h') (h.2 k hkr)
    .intro j A;by_cases hjk:k=j
     .subst hjk;simp[show k<listed.size by omega]
     .rw[getD_set_ne af hjk];exact h1 j (by omega)
    .intro j A hj2;rw[getD_set_ne J (by omega)];exact D j (by omega) hj2
  have:=key B.size 0 (uG B.size af) z w (by omega) (by simp) (by simp) (by
   intro j _ A;rw[ko,Array.getElem?_replicate,aD A];rfl) hany
  rwa [List.range_eq_range']
inductive PT (α:Type) where
 |leaf
 |node (v:Option α) (l r:PT α)
namespace PT
variable {α:Type}
def get:PT α->Nat->M α
 |leaf,_=>U
 |node v l r,n=>match n with
  |0=>v
  |m+1=>if ax (m%2) 0 then get l (m/2) else get r (m/2)
def Sn:Nat->PT α->Nat->M α->PT α
 |0,t,_,_=>t
 |k+1,t,n,x=>match t with
  |leaf=>(match n with
   |0=>node x leaf leaf
   |m+1=>if ax (m%2) 0 then node U (Sn k leaf (m/2) x) leaf else node U leaf (Sn k leaf (m/2) x))
  |node v l r=>(match n with
   |0=>node x l r
   |m+1=>if ax (m%2) 0 then node v (Sn k l (m/2) x) r else node v l (Sn k r (m/2) x))
def set (t:PT α) (n:Nat) (x:M α):PT α:=Sn (n+1) t n x
def Cu:∀(k:Nat) (t:PT α) (n:Nat) (x:M α),n<k->∀i,(Sn k t n x).get i=if i=n then x else t.get i
 |0,_,_,_,h,_=>cq h (fY _)
 |k+1,t,n,x,h,i=>by
  cases n with
  |zero=>
   cases t<;>cases i<;>simp[Sn,get]
  |succ m=>
   have hm:m/2<k:=by omega
   cases t with
   |leaf=>
    simp only[Sn];cases L:ax (m%2) 0 with
    |true=>
     have D:m%2=0:=au L;simp[bk];cases i with
     |zero=>simp[get]
     |succ j=>
      simp only[get];cases A:ax (j%2) 0 with
      |true=>
       have z:j%2=0:=au A;simp[bk];rw[Cu k _ _ _ hm];by_cases he:j/2=m/2
       .grind
       .rw[av he,av (by omega)];rfl
      |false=>grind
    |false=>
     have D:¬m%2=0:=nX L;simp[cQ,dE];cases i with
     |zero=>simp[get]
     |succ j=>
      simp only[get];cases A:ax (j%2) 0 with
      |true=>grind
      |false=>
       have z:¬j%2=0:=nX A;simp[cQ,dE];rw[Cu k _ _ _ hm];by_cases he:j/2=m/2
       .grind
       .rw[av he,av (by omega)];rfl
   |node v l r=>
    simp only[Sn];cases L:ax (m%2) 0 with
    |true=>
     have D:m%2=0:=au L;simp[bk];cases i with
     |zero=>simp[get]
     |succ j=>
      simp[get];cases A:ax (j%2) 0 with
      |true=>
       have z:j%2=0:=au A;rw[Cu k _ _ _ hm]
       grind
      |false=>grind
    |false=>
     have D:¬m%2=0:=nX L;simp[cQ,dE];cases i with
     |zero=>simp[get]
     |succ j=>
      simp[get];cases A:ax (j%2) 0 with
      |true=>grind
      |false=>
       have z:¬j%2=0:=nX A;rw[Cu k _ _ _ hm]
       grind
def get_set (t:PT α) (n:Nat) (x:M α) (i:Nat):(t.set n x).get i=if i=n then x else t.get i:=Cu (n+1) t n x (by omega) i
variable {R:Type}
def mask :PT α->PT R->PT α
 |leaf,_|node _ _ _,leaf=>leaf
 |node v l r,node u l' z=>node (match u with|some _=>v|none=>U) (mask l l') (mask r z)
def mk:M α->PT α->PT α->PT α
 |none,leaf,leaf=>leaf
 |v,l,r=>node v l r
def only (m:Nat):Nat->Nat->PT α->PT α
 |_,_,leaf=>leaf
 |a,b,node v l r=>mk (if aK m b then v else U) (only m (2*a) (a+b) l) (only m (2*a) (2*a+b) r)
def exc (m:Nat):Nat->Nat->PT α->PT α
 |_,_,leaf=>leaf
 |a,b,node v l r=>mk (if aK m b then U else v) (exc m (2*a) (a+b) l) (exc m (2*a) (2*a+b) r)
def merge (m:Nat):Nat->Nat->PT α->PT α->PT α
 |a,b,leaf,t=>only m a b t
 |a,b,node v l r,leaf=>exc m a b (node v l r)
 |a,b,node v l r,node z l' A=>mk (if aK m b then z else v) (merge m (2*a) (a+b) l l') (merge m (2*a) (2*a+b) r A)
def all (p:Nat->α->Bool):Nat->Nat->PT α->Bool
 |_,_,leaf=>J
 |a,b,node v l r=>(match v with|some x=>p b x|none=>J)&&all p (2*a) (a+b) l&&all p (2*a) (2*a+b) r
def get_all (p:Nat->α->Bool):∀(t:PT α) (a b i:Nat) (x:α),all p a b t=J->t.get i=Z x->p (a*i+b) x=J
 |leaf,_,_,_,_,_,h=>by simp[get]at h
 |node v l r,a,b,0,x,h,z=>by
  subst z;simp[all,al]at h
  grind
 |node v l r,a,b,j+1,x,h,z=>by
  simp[all,al]at h;simp only[get]at z;cases A:ax (j%2) 0 with
  |true=>
   have D:j%2=0:=au A;simp[A,bk]at z;have key:=get_all p l _ _ _ x h.1.2 z;have:2*a*(j/2)+(a+b)=a*(j+1)+b:=by
    have e:j=2*(j/2):=by omega
    grind
   rw[this]at key;exact key
  |false=>
   have D:¬j%2=0:=nX A;simp[A,cQ,dE]at z;have key:=get_all p r _ _ _ x h.2 z;have:2*a*(j/2)+(2*a+b)=a*(j+1)+b:=by
    have e:j=2*(j/2)+1:=by omega
    grind
   rw[this]at key;exact key
def dom:Nat->Nat->PT α->Nat->Nat
 |_,_,leaf,acc=>acc
 |a,b,node v l r,acc=>dom (2*a) (a+b) l (dom (2*a) (2*a+b) r (match v with|some _=>acc|||(1<<<b)|none=>acc))
def emp:PT α:=leaf
end PT
abbrev ED:=PT AV
abbrev ny:=PT kH
abbrev NW:=Y (Nat×kH)
def ED.put (e:ED):M Nat->AV->ED
 |none,_=>e
 |some d,x=>e.set d (Z x)
def j9:NW->HF
 |[],_=>U
 |(s,x)::r,t=>if ax s t then Z x else j9 r t
def LX (acc:ι) (s:Nat) (e:Edge):Nat:=if C9 .any e then (s|||2^e.on)|||acc.getD e.on 0 else s
def OT:Y Oper->ι->ι
 |[],acc=>acc
 |o::r,acc=>OT r (acc++[o.after.toList.foldl (LX acc) 0])
def OU {o:Oper} {acc:ι} (D:B[i]? =Z o) (ha:∀(j:Nat) ops,acc[j]? =Z ops->∀k,ops.testBit k=J->Bef B j k):
 ∀(es:Y Edge) (s:Nat),(∀e∈es,e∈o.after)->(∀k,s.testBit k=J->Bef B i k)->∀k,(es.foldl (LX acc) s).testBit k=J->Bef B i k
 |[],s,_,z,k,hi=>z k hi
 |e::r,s,he,z,k,hi=>by
  refine OU D ha r (LX acc s e) (λe' h'=>he e' (bP _ h')) (λk hi=>?_) k hi;unfold LX at hi;split at hi
  .rename_i L;rw[bu,bu,nz,nz]at hi;rcases hi with (hi|hi)|hi
   .exact z k hi
   .rw[Nat.testBit_two_pow]at hi;have:e.on=k:=by grind
    subst this;exact .one D (he e (cV ..)) L
   .refine .more D (he e (cV ..)) L ?_;rw[aw]at hi;cases A:acc[e.on]? with
    |none=>rw[A]at hi;simp at hi
    |some C=>rw[A]at hi;exact ha _ C A k hi
  .exact z k hi
def RQ {ops:Array Oper}:∀(rest:Y Oper) (acc:ι),(∀(j:Nat),∀o,rest[j]? =Z o->ops[l! acc+j]? =Z o)->
 (∀(j:Nat) B,acc[j]? =Z B->∀i,B.testBit i=J->Bef ops j i)->∀(j:Nat) B,(OT rest acc)[j]? =Z B->∀i,B.testBit i=J->Bef ops j i
 |[],acc,_,A=>A
 |o::r,acc,D,A=>by
  refine RQ r _ (λj o' z=>?_) ?_
  .rw[bK,cO,show (l! acc)+1+j=l! acc+(j+1) from by omega];simp_all
  .intro j B z i hi;rcases cC j (l! acc) with h|h
   .grind
   .rw[b_ h]at z;have L:j-l! acc=0:=by grind
    have hjl:j=l! acc:=by omega
    subst hjl;simp at z;subst z;have hoo:ops[l! acc]? =Z o:=by simpa using D 0 o rfl
    rw[<- Array.foldl_toList]at hi;exact OU hoo A _ 0 (λe he=>by simpa using he) (λi hi=>by simp at hi) i hi
inductive UI where
 |mv (x:Operand)
 |pick (c a b:Operand)
 |alloc (ty:TypeId) (z:ξ)
 |box (ty:TypeId) (x:Operand)
 |build (z:ξ) (parts:List (Nat×Nat×Operand))
 |xx (ty:TypeId) (sz len:Nat) (z:ξ) (parts:List (Nat×Nat×Operand))
 |load (sz:Nat) (ag:Bool) (x:Operand)
 |store (sz:Nat) (x v:Operand)
 |zl (x:Operand)
 |bin (op:BinOp) (x y:Operand)
 |jh (neg:Bool) (ds:List TypeDesc) (x y:Operand)
 |zd (neg:Bool) (x:Operand)
 |xj (neg:Bool) (x y:Operand)
 |not (x:Operand)
 |conv (k:IntKind) (x:Operand)
 |zm (ty:TypeId) (sz bytes:Nat) (z:ξ) (l c:Operand)
 |slc (sz:Nat) (x:Operand) (lo hi mx:Option Operand)
 |jb (off:Nat) (x:Operand)
 |fld (off sz:Nat) (ag:Bool) (x:Operand)
 |jf (sz:Nat) (x i:Operand)
 |jv (n sz:Nat) (x i:Operand)
 |idx (n sz:Nat) (ag:Bool) (x i:Operand)
 |ext (x:Operand) (i:Nat)
 |len (x:Operand)
 |lens (x:Operand)
 |jy (x:Operand)
 |max (x y:Operand)
 |min (x y:Operand)
 |jx (x i:Operand)
 |app (ty:TypeId) (sz bytes:Nat) (s x:Operand)
 |copy (sz:Nat) (d x:Operand)
 |clr (sz:Nat) (z:ξ) (x:Operand)
 |mkf (f:FuncId) (caps:List Operand)
 |mkm
 |jg (str ok:Bool) (z:Value) (x k:Operand)
 |jk (str:Bool) (x k v:Operand)
 |rng (x:Operand)
 |nxt (x:Operand)
 |jz (neg:Bool) (x:Operand)
 |lkq (ds:List TypeDesc) (z:Value) (x k:Operand)
 |mpq (ds:List TypeDesc) (x k v:Operand)
 |dlq (ds:List TypeDesc) (x k:Operand)
 |zn
inductive SI where
 |op (s:UI)
 |call (f:FuncId) (args:List Operand)
 |xq (x:Operand) (args:List Operand)
def mem (t:Nat):ι->Bool
 |[]=>af
 |x::r=>ax x t||mem t r
def ON:ξ->Bool
 |[]=>J
 |v::r=>v.oneCell'&&ON r
def I4:Value->AV
 |.agg vs=>if ON vs.toList then .agg (vs.toList.map λv=>.f (.raw v)) else .f (.raw (.agg vs))
 |v=>.f (.raw v)
def mb (e:ED):Operand->M AV
 |.tmp t=>e.get t
 |.const v=>Z (I4 v)
 |.func g=>Z (.qy g [])
 |.global g=>match G g with|some cells=>Z (.f (.P cells 0))|none=>U
def evs (e:ED):Y Operand->M (Y AV)
 |[]=>Z []
 |x::xs=>match mb e x with|some y=>(match evs e xs with|some z=>Z (y::z)|none=>U)|none=>U
structure Dz where
 val:AV
 rd:ι
 wr:ι
 nw:NW
 N:ι
def Dz.eff (r:Dz):EG:=⟨r.val,r.rd,r.wr,j9 r.nw,r.N⟩
def rv (x:AV):M Dz:=Z ⟨x,[],[],[],[]⟩
def raw (v:Value):AV:=.f (.raw v)
def pkV (ok:Bool) (v:AV) (b:Bool):AV:=match ok with|true=>.qb [v,raw (.bool b)]|false=>v
def zY:Y AV->M (Y FV)
 |[]=>Z []
 |.f x::r=>match zY r with|some l=>Z (x::l)|none=>U
 |_::_=>U
def ov (l:Y AV):BC:=match zY l with|some z=>.fz z|none=>.mx l
def Rc (l:Y AV):AV:=match zY l with|some z=>.f (.agg z)|none=>.agg l
variable {R:Type}
def splice (l:Y R) (off:Nat) (vs:Y R):Y R:=l.take off++vs++l.drop (off+l! vs)
def BC.toMx:BC->Y AV
 |.fz l=>l.map .f
 |.mx l=>l
 |_=>[]
def gE:Y AV->Bool
 |[]=>J
 |x::r=>x.isCell&&gE r
def BC.put (c:BC) (off:Nat) (vs:Y AV):M BC:=
 if c.isCells&&dN (off+l! vs) c.len&&gE vs then
  match c,zY vs with
  |.fz l,Z z=>Z (.fz (splice l off z))
  |c,_=>Z (.mx (splice c.toMx off vs))
 else U
def BC.sub? (c:BC) (off sz:Nat):Bool->M AV
 |false=>match sz with|1=>c.get off|_=>U
 |true=>match c with
  |.fz l=>if dN (off+sz) (l! l) then Z (.f (.agg ((l.drop off).take sz))) else U
  |.mx l=>if dN (off+sz) (l! l) then Z (.agg ((l.drop off).take sz)) else U
  |_=>U
def AV.cs:AV->Y AV
 |.agg l=>l
 |.f (.agg l)=>l.map .f
 |x=>[x]
def xT (h:ny) (sz:Nat) (z:Bool):AV->M Dz
 |.P id off=>match h.get id with
  |some b=>(match b.c.sub? off sz z with|some v=>Z ⟨v,[id],[],[],[]⟩|none=>U)
  |none=>U
 |.f (.P cells off)=>(match (BC.fz cells).sub? off sz z with|some v=>rv v|none=>U)
 |_=>U
def C4 (h:ny) (sz:Nat) (v:AV):AV->M Dz
 |.P id off=>match h.get id with
  |some b=>if (l! v.cs)==sz then (match b.c.put off v.cs with|some c=>Z ⟨raw undef,[id],[id],[(id,⟨b.ty,c⟩)],[]⟩|none=>U) else U
  |none=>U
 |_=>U
abbrev n?:=Nat×Nat×Operand
def CD (cells:Y AV) (e:ED):Y n?->M (Y AV)
 |[]=>Z cells
 |(off,sz,x)::r=>match mb e x with
  |some v=>if (l! v.cs)==sz&&dN (off+sz) (l! cells)&&gE v.cs then CD (splice cells off v.cs) e r else U
  |none=>U
def db (a b:Int):Bool:=decide (a<=b)
def gD (a b:Int):Bool:=decide (a<b)
def QO (k:IntKind) (n:Int):Int:=
 match k with
 |.i64=>if db (-9223372036854775808) n&&db n 9223372036854775807 then n else pZ .i64 n
 |.u8=>if db 0 n&&db n 255 then n else pZ .u8 n
 |k=>pZ k n
def nok:Int->Bool
 |.ofNat k|.negSucc k=>ax k k
def awn (n:Int):nok n=J:=by cases n<;>exact fV _
def bm (k:IntKind) (n:Int):Int:=bif nok n then QO k n else 0
def Lz (k:IntKind) (n:Int):bm k n=QO k n:=by unfold bm;rw[awn];rfl
def tY (a b:ByteArray):Bool:=a.data.toList==b.data.toList
def w_ (op:BinOp):Value->Value->M Value
 |.int k a,.int z b=>if k==z then
   match op with
   |.add=>Z (.int k (bm k (a+b)))
   |.sub=>Z (.int k (bm k (a-b)))
   |.mul=>Z (.int k (bm k (a*b)))
   |.rem=>if b==0 then U else Z (.int k (a.tmod b))
   |.quo=>if b==0 then U else Z (.int k (bm k (a.tdiv b)))
   |.eql=>Z (.bool (a==b))
   |.neq=>Z (.bool (a !=b))
   |.lss=>Z (.bool (gD a b))
   |.leq=>Z (.bool (db a b))
   |.gtr=>Z (.bool (gD b a))
   |.geq=>Z (.bool (db b a))
   |_=>U
  else U
 |.string a,.string b=>match op with
   |.eql=>Z (.bool (tY a b))
   |.neq=>Z (.bool !(tY a b))
   |_=>U
 |_,_=>U
def wK:TypeDesc->FV->FV->M Bool
 |.int _,.raw (.int k a),.raw (.int z b)=>if k==z then Z (a==b) else U
 |.bool,.raw (.bool a),.raw (.bool b)=>Z (a==b)
 |.string,.raw (.string a),.raw (.string b)=>Z (tY a b)
 |_,_,_=>U
def jY:Y TypeDesc->Y FV->Y FV->M Bool
 |[],[],[]=>Z J
 |d::ds,x::xs,y::z=>match wK d x y with
  |some J=>jY ds xs z
  |some af=>Z af
  |none=>U
 |_,_,_=>U
def AV.row? (h:ny) (sz:Nat):AV->M (Y AV×Nat×ι)
 |.f (.sl cells n)=>if dN (n*sz) (l! cells) then Z ((cells.take (n*sz)).map .f,n,[]) else U
 |.f (.raw (.slice U 0 0))|.emp=>Z ([],0,[])
 |.I id sz' n=>if sz'==sz then (match h.get id with|some b=>if b.c.isCells&&dN (n*sz) b.c.len then Z (b.c.toMx.take (n*sz),n,[id]) else U|none=>U) else U
 |.sl id off n=>match h.get id with|some b=>if b.c.isCells&&dN (off+n*sz) b.c.len then Z ((b.c.toMx.drop off).take (n*sz),n,[id]) else U|none=>U
 |_=>U
def AV.slen:AV->M Nat
 |.f (.sl _ n)|.f (.raw (.slice _ n _))=>Z n
 |.emp=>Z 0
 |.I _ _ n|.sl _ _ n=>Z n
 |_=>U
def bc (n bytes:Nat):Bool:=dN n 1099511627776&&dN (n*bytes) 1099511627776
def repl (z:ξ):Nat->Y FV
 |0=>[]
 |n+1=>z.map .raw++repl z n
def Dm:Value->Bool
 |.slice U 0 0=>J
 |_=>af
def Fe:AV->Bool
 |.emp=>J
 |.f (.raw v)=>Dm v
 |_=>af
def tR (k:Value):Y n!->M (M AV)
 |[]=>Z U
 |(z,v)::r=>match w_ .eql k z with
  |some (.bool J)=>Z (Z v)
  |some (.bool af)=>tR k r
  |_=>U
def AE (k:Value) (v:AV):Y n!->M (Y n!)
 |[]=>Z [(k,v)]
 |(z,A)::r=>match w_ .eql k z with
  |some (.bool J)=>Z ((k,v)::r)
  |some (.bool af)=>(match AE k v r with|some D=>Z ((z,A)::D)|none=>U)
  |_=>U
def Ju:Y FV->M ξ
 |[]=>Z []
 |.raw v::r=>match Ju r with|some l=>Z (v::l)|none=>U
 |_::_=>U
def aeg:AV->M ξ
 |.f (.agg l)=>Ju l
 |.agg l=>match zY l with|some z=>Ju z|none=>U
 |_=>U
def aef (ds:Y TypeDesc) (y:AV):M ξ:=match aeg y with
 |some l=>if (l! l)==l! ds then Z l else U
 |none=>U
def D8 (ds:Y TypeDesc) (k:ξ):Value->M Bool
 |.agg z=>jY ds (k.map .raw) (z.toList.map .raw)
 |_=>U
def Js (ds:Y TypeDesc) (k:ξ):Y n!->M (M AV)
 |[]=>Z U
 |(z,v)::r=>match D8 ds k z with
  |some J=>Z (Z v)
  |some af=>Js ds k r
  |none=>U
def YF (ds:Y TypeDesc) (k:ξ) (v:AV):Y n!->M (Y n!)
 |[]=>Z [(.agg k.toArray,v)]
 |(z,A)::r=>match D8 ds k z with
  |some J=>Z ((.agg k.toArray,v)::r)
  |some af=>(match YF ds k v r with|some D=>Z ((z,A)::D)|none=>U)
  |none=>U
def YG (ds:Y TypeDesc) (k:ξ):Y n!->M (Y n!)
 |[]=>Z []
 |(z,A)::r=>match D8 ds k z with
  |some J=>Z r
  |some af=>(match YG ds k r with|some D=>Z ((z,A)::D)|none=>U)
  |none=>U
def za:Bool->Value->Bool
 |false,.int _ _=>J
 |true,.string _=>J
 |_,_=>af
def rnA (b:UInt8) (s:ByteArray) (p:Nat):Int:=bif ey b.toNat 128 then b.toNat else (Utf8.decode s p).1
def wdA (b:UInt8) (s:ByteArray) (p:Nat):Nat:=bif ey b.toNat 128 then 1 else (Utf8.decode s p).2
def dA (s:UI) (e:ED) (h:ny) (nx:Nat):M Dz:=
 match s with
 |.mv x=>match mb e x with|some v=>rv v|none=>U
 |.pick c a b=>match mb e c with
  |some (.f (.raw (.bool t)))=>(match mb e (if t then a else b) with|some v=>rv v|none=>U)
  |_=>U
 |.alloc ty z=>Z ⟨.P nx 0,[],[nx],[(nx,⟨ty,.fz (z.map .raw)⟩)],[nx]⟩
 |.box ty x=>match mb e x with
  |some v=>if gE v.cs then Z ⟨.P nx 0,[],[nx],[(nx,⟨ty,ov v.cs⟩)],[nx]⟩ else U
  |none=>U
 |.build z parts=>match CD (z.map raw) e parts with|some cs=>rv (Rc cs)|none=>U
 |.xx ty sz len z parts=>match CD ((repl z len).map .f) e parts with
  |some cs=>Z ⟨if len=0 then .emp else .I nx sz len,[],[nx],[(nx,⟨ty,ov cs⟩)],[nx]⟩
  |none=>U
 |.load sz A x=>match mb e x with|some p=>xT h sz A p|none=>U
 |.store sz x v=>match mb e x,mb e v with|some p,Z y=>C4 h sz y p|_,_=>U
 |.zl x=>match mb e x with
  |some (.P id off)=>rv (.P id off)
  |some (.f (.P cells off))=>rv (.f (.P cells off))
  |some (.qy g cap)=>rv (.qy g cap)
  |_=>U
 |.bin op x y=>match mb e x,mb e y with
  |some (.f (.raw u)),Z (.f (.raw v))=>(match w_ op u v with|some r=>rv (raw r)|none=>U)
  |_,_=>U
 |.jh neg ds x y=>match mb e x,mb e y with
  |some (.f (.agg a)),Z (.f (.agg b))=>(match jY ds a b with|some r=>rv (raw (.bool (r !=neg)))|none=>U)
  |_,_=>U
 |.xj neg x y=>match mb e x,mb e y with
  |some (.f (.raw (.bool a))),Z (.f (.raw (.bool b)))=>rv (raw (.bool ((a==b) !=neg)))
  |_,_=>U
 |.zd neg x=>match mb e x with
  |some (.I _ _ _)|some (.sl _ _ _)|some (.f (.sl _ (_+1)))=>rv (raw (.bool neg))
  |some (.f (.sl _ 0))|some .emp=>rv .qw
  |some (.f (.raw v))=>if Dm v then rv (raw (.bool !neg)) else U
  |_=>U
 |.not x=>match mb e x with|some (.f (.raw (.bool b)))=>rv (raw (.bool !b))|_=>U
 |.conv k x=>match mb e x with|some (.f (.raw (.int _ n)))=>rv (raw (.int k (bm k n)))|_=>U
 |.zm ty sz bytes z l c=>match mb e l,mb e c with
  |some (.f (.raw (.int _ a))),Z (.f (.raw (.int _ b)))=>
   if db 0 a&&db a b&&bc b.toNat bytes then Z ⟨.I nx sz a.toNat,[],[nx],[(nx,⟨ty,.fz (repl z a.toNat)⟩)],[nx]⟩ else U
  |_,_=>U
 |.slc sz x D hi mx=>match mb e x with
  |some v=>match D,hi,mx with
   |none,Z (.const (.int _ 0)),Z (.const (.int _ 0))=>if v.slen.isSome then rv .emp else U
   |none,Z b,U=>match v,mb e b with
    |.I id sz' n,Z (.f (.raw (.int _ j)))=>if sz'==sz&&db 0 j&&db j n then (match h.get id with
     |some blk=>if blk.c.isCells&&dN (n*sz) blk.c.len then Z ⟨.I nx sz j.toNat,[id],[nx,id],[(nx,⟨blk.ty,ov (blk.c.toMx.take (j.toNat*sz))⟩)],[nx]⟩ else U
     |none=>U) else U
    |.f (.sl cells n),Z (.f (.raw (.int _ j)))=>if db 0 j&&db j n&&dN (n*sz) (l! cells) then rv (.f (.sl (cells.take (j.toNat*sz)) j.toNat)) else U
    |_,_=>U
   |some b,U,U=>match v,mb e b with
    |.I id sz' n,Z (.f (.raw (.int _ j)))=>if sz'==sz&&db 0 j&&gD j n then rv (.sl id (j.toNat*sz) (n-j.toNat)) else U
    |.f (.sl cells n),Z (.f (.raw (.int _ j)))=>if db 0 j&&db j n&&dN (n*sz) (l! cells) then rv (.f (.sl ((cells.drop (j.toNat*sz)).take ((n-j.toNat)*sz)) (n-j.toNat))) else U
    |_,_=>U
   |none,Z b,Z b'=>match v,mb e b,mb e b' with
    |.f (.sl cells n),Z (.f (.raw (.int _ j))),Z (.f (.raw (.int _ L)))=>if decide (j=L)&&db 0 j&&db j n&&dN (n*sz) (l! cells) then rv (.qc (cells.take (j.toNat*sz)) j.toNat) else U
    |_,_,_=>U
   |_,_,_=>U
  |none=>U
 |.jb off x=>match mb e x with
  |some (.P id o)=>rv (.P id (o+off))
  |some (.f (.P cells o))=>rv (.f (.P cells (o+off)))
  |_=>U
 |.fld off sz A x=>match mb e x with
  |some (.agg l)=>(match (BC.mx l).sub? off sz A with|some v=>rv v|none=>U)
  |some (.f (.agg l))=>(match (BC.fz l).sub? off sz A with|some v=>rv v|none=>U)
  |_=>U
 |.jf sz x i=>match mb e x,mb e i with
  |some v,Z (.f (.raw (.int _ j)))=>match v with
   |.I id sz' n=>if sz'==sz&&db 0 j&&gD j n then rv (.P id (j.toNat*sz)) else U
   |.sl id off n=>if db 0 j&&gD j n then rv (.P id (off+j.toNat*sz)) else U
   |.f (.sl cells n)=>if db 0 j&&gD j n then rv (.f (.P cells (j.toNat*sz))) else U
   |_=>U
  |_,_=>U
 |.jv n sz x i=>match mb e x,mb e i with
  |some v,Z (.f (.raw (.int _ j)))=>if db 0 j&&gD j n then (match v with
   |.P id off=>rv (.P id (off+j.toNat*sz))
   |.f (.P cells off)=>rv (.f (.P cells (off+j.toNat*sz)))
   |_=>U) else U
  |_,_=>U
 |.idx n sz A x i=>match mb e x,mb e i with
  |some v,Z (.f (.raw (.int _ j)))=>if db 0 j&&gD j n then (match v with
   |.agg l=>(match (BC.mx l).sub? (j.toNat*sz) sz A with|some v=>rv v|none=>U)
   |.f (.agg l)=>(match (BC.fz l).sub? (j.toNat*sz) sz A with|some v=>rv v|none=>U)
   |_=>U) else U
  |_,_=>U
 |.ext x i=>match mb e x with|some (.qb l)=>(match l[i]? with|some v=>rv v|none=>U)|_=>U
 |.len x=>match mb e x with
  |some v=>(match v.slen with|some n=>rv (raw (.int .i64 n))|none=>U)
  |none=>U
 |.lens x=>match mb e x with
  |some (.f (.raw (.string s)))=>rv (raw (.int .i64 (l! s.data.toList)))
  |_=>U
 |.jy x=>match mb e x with
  |some (.mp id)=>(match h.get id with|some ⟨0,.mp es⟩=>Z ⟨raw (.int .i64 (l! es)),[id],[],[],[]⟩|_=>U)
  |_=>U
 |.max x y=>match mb e x,mb e y with
  |some (.f (.raw (.int k a))),Z (.f (.raw (.int _ b)))=>rv (raw (.int k (if gD a b then b else a)))
  |_,_=>U
 |.min x y=>match mb e x,mb e y with
  |some (.f (.raw (.int k a))),Z (.f (.raw (.int _ b)))=>rv (raw (.int k (if gD b a then b else a)))
  |_,_=>U
 |.jx x i=>match mb e x,mb e i with
  |some (.f (.raw (.string s))),Z (.f (.raw (.int _ j)))=>if db 0 j then (match s.data.toList[j.toNat]? with|some b=>rv (raw (.int .u8 b.toNat))|none=>U) else U
  |_,_=>U
 |.app ty sz bytes s x=>match mb e s,mb e x with
  |some b,Z y=>match y.row? h sz with
   |some (src,m,rd)=>match b with
    |.I id sz' n=>match h.get id with
     |some blk=>if sz'==sz&& !(mem id rd)&&blk.c.isCells&&dN (n*sz) blk.c.len&&blk.ty==ty&&bc (n+m) bytes then
       Z ⟨.I nx sz (n+m),id::rd,[nx,id],[(nx,⟨ty,ov (blk.c.toMx.take (n*sz)++src)⟩)],[nx]⟩ else U
     |none=>U
    |.qc cells n=>if dN (n*sz) (l! cells)&&bc (n+m) bytes then
      (if m==0 then Z ⟨.f (.sl cells n),rd,[],[],[]⟩ else Z ⟨.I nx sz (n+m),rd,[nx],[(nx,⟨ty,ov ((cells.take (n*sz)).map .f++src)⟩)],[nx]⟩) else U
    |b=>if Fe b&&bc m bytes then
      (if m==0 then Z ⟨b,rd,[],[],[]⟩ else Z ⟨.I nx sz m,rd,[nx],[(nx,⟨ty,ov src⟩)],[nx]⟩) else U
   |none=>U
  |_,_=>U
 |.copy sz d x=>match mb e d,mb e x with
  |some (.I id sz' n),Z y=>(match h.get id,y.row? h sz with
   |some blk,Z (src,m,rd)=>if sz'==sz&& !(mem id rd)&&dN (n*sz) blk.c.len then
     (match blk.c.put 0 (src.take (l8 m n*sz)) with
     |some c=>Z ⟨raw (.int .i64 (l8 m n)),id::rd,[id],[(id,⟨blk.ty,c⟩)],[]⟩
     |none=>U) else U
   |_,_=>U)
  |_,_=>U
 |.clr _ z x=>match mb e x with
  |some (.sl id off n)=>(match h.get id with
   |some blk=>if ey 0 n then (match blk.c.put off ((repl z n).map .f) with
    |some c=>Z ⟨.qb [],[id],[id],[(id,⟨blk.ty,c⟩)],[]⟩
    |none=>U) else U
   |none=>U)
  |_=>U
 |.mkf f caps=>match evs e caps with|some l=>rv (.qy f l)|none=>U
 |.mkm=>Z ⟨.mp nx,[],[nx],[(nx,⟨0,.mp []⟩)],[nx]⟩
 |.jg str ok z x k=>match mb e x,mb e k with
  |some (.mp id),Z (.f (.raw key))=>(match h.get id with
   |some ⟨0,.mp es⟩=>if za str key then (match tR key es with|some (Z v)=>Z ⟨pkV ok v J,[id],[],[],[]⟩|some U=>Z ⟨pkV ok (raw z) af,[id],[],[],[]⟩|none=>U) else U
   |_=>U)
  |_,_=>U
 |.jk str x k v=>match mb e x,mb e k,mb e v with
  |some (.mp id),Z (.f (.raw key)),Z y=>(match h.get id with
   |some ⟨0,.mp es⟩=>if za str key then (match AE key y es with|some es'=>Z ⟨raw undef,[id],[id],[(id,⟨0,.mp es'⟩)],[]⟩|none=>U) else U
   |_=>U)
  |_,_,_=>U
 |.rng x=>match mb e x with
  |some (.f (.raw (.string s)))=>Z ⟨.P nx 0,[],[nx],[(nx,⟨0,.it s 0⟩)],[nx]⟩
  |_=>U
 |.nxt x=>match mb e x with
  |some (.P id 0)=>(match h.get id with
   |some ⟨ty,.it s p⟩=>(match s.data.toList[p]? with
    |some b=>Z ⟨.qb [raw (.bool J),raw (.int .i64 p),raw (.int .i32 (rnA b s p))],[id],[id],[(id,⟨ty,.it s (p+wdA b s p)⟩)],[]⟩
    |none=>Z ⟨.qb [raw (.bool af)],[id],[id],[(id,⟨ty,.it s p⟩)],[]⟩)
   |_=>U)
  |_=>U
 |.jz neg x=>match mb e x with
  |some (.P _ _)|some (.f (.P _ _))=>rv (raw (.bool neg))
  |some (.f (.raw (.pointer U)))=>rv (raw (.bool !neg))
  |_=>U
 |.lkq ds z x k=>match mb e x,(mb e k).bind (aef ds) with
  |some (.mp id),Z key=>(match h.get id with
   |some ⟨0,.mp es⟩=>(match Js ds key es with
    |some (Z v)=>Z ⟨v,[id],[],[],[]⟩
    |some U=>Z ⟨raw z,[id],[],[],[]⟩
    |none=>U)
   |_=>U)
  |_,_=>U
 |.mpq ds x k v=>match mb e x,(mb e k).bind (aef ds),mb e v with
  |some (.mp id),Z key,Z y=>(match h.get id with
   |some ⟨0,.mp es⟩=>(match YF ds key y es with|some es'=>Z ⟨raw undef,[id],[id],[(id,⟨0,.mp es'⟩)],[]⟩|none=>U)
   |_=>U)
  |_,_,_=>U
 |.dlq ds x k=>match mb e x,(mb e k).bind (aef ds) with
  |some (.mp id),Z key=>(match h.get id with
   |some ⟨0,.mp es⟩=>(match YG ds key es with|some es'=>Z ⟨.qb [],[id],[id],[(id,⟨0,.mp es'⟩)],[]⟩|none=>U)
   |_=>U)
  |_,_=>U
 |.zn=>U
structure uC where
 dst:Option Nat
 op:SI
 guard:Option (Nat×Bool)
inductive SC where
 |skip
 |jw (ops:List uC) (prs:List (Nat×Nat))
 |seq (a b:SC)
 |cond (c:Nat) (a b:SC)
 |block (id:Nat) (b:SC)
 |loop (b:SC)
 |exit (id:Nat)
 |ret
 |defer (f:FuncId) (caps:List Operand) (t:Nat)
 |zn
structure azq where
 val:AV
 h:ny
 nx:Nat
 wr:Nat
abbrev adr:=FuncId->Y AV->ny->Nat->M azq
mutual
def AV.ids:AV->Nat->Nat
 |.P id _,acc|.sl id _ _,acc|.I id _ _,acc|.mp id,acc=>acc|||(1<<<id)
 |.agg l,acc|.qb l,acc|.qy _ l,acc=>AV.idsL l acc
 |.f _,acc|.emp,acc|.qw,acc|.qc _ _,acc=>acc
def AV.idsL:Y AV->Nat->Nat
 |[],acc=>acc
 |x::r,acc=>AV.idsL r (AV.ids x acc)
end
mutual
def AV.all (p:Nat->Bool):AV->Bool
 |.P id _|.sl id _ _|.I id _ _|.mp id=>p id
 |.agg l|.qb l|.qy _ l=>AV.allL p l
 |.f _=>J
 |.emp=>J
 |.qw=>J
 |.qc _ _=>J
def AV.allL (p:Nat->Bool):Y AV->Bool
 |[]=>J
 |x::r=>AV.all p x&&AV.allL p r
end
def BC.ids:BC->Nat->Nat
 |.mx l,acc=>AV.idsL l acc
 |.mp es,acc=>AV.idsL (es.map (·.2)) acc
 |_,acc=>acc
def BC.all (p:Nat->Bool):BC->Bool
 |.mx l=>AV.allL p l
 |.mp es=>AV.allL p (es.map (·.2))
 |_=>J
def ny.all (p:Nat->Bool) (h:ny):Bool:=PT.all (λi b=>p i&&b.c.all p) 1 0 h
def abd:Nat->ny->Nat->Nat->Nat
 |0,_,_,Py=>Py
 |n+1,h,todo,Py=>
  if ax todo 0 then Py else
  match Nat.log2 todo with
  |id=>if aK Py id then abd n h (todo ^^^ (1<<<id)) Py else
   match h.get id with
   |some b=>abd n h (b.c.ids (todo ^^^ (1<<<id))) (Py|||(1<<<id))
   |none=>abd n h (todo ^^^ (1<<<id)) Py
section force
variable {α:Type}
def uT (n:Nat) (k:Nat->α):α:=match n with|0=>k 0|m+1=>k (m+1)
def frcI (n:Int) (k:Int->α):α:=match n with|.ofNat m=>uT m λm=>k (.ofNat m)|.negSucc m=>uT m λm=>k (.negSucc m)
def frcB (b:Bool) (k:Bool->α):α:=match b with|true=>k J|false=>k af
def frcV (v:Value) (k:Value->α):α:=match v with
 |.int kd n=>frcI n λn=>k (.int kd n)
 |.bool b=>frcB b λb=>k (.bool b)
 |v=>k v
def ax1 (x:FV) (k:FV->α):α:=match x with
 |.raw v=>frcV v λv=>k (.raw v)
 |.P cells off=>uT off λoff=>k (.P cells off)
 |.sl cells n=>uT n λn=>k (.sl cells n)
 |.agg l=>k (.agg l)
def aju:Y FV->(Y FV->α)->α
 |[],k=>k []
 |x::r,k=>ax1 x λx=>aju r λr=>k (x::r)
def ax0 (x:FV) (k:FV->α):α:=match x with
 |.agg l=>aju l λl=>k (.agg l)
 |x=>ax1 x k
def ar6 (x:AV) (k:AV->α):α:=match x with
 |.f x=>ax0 x λx=>k (.f x)
 |.P id off=>uT id λid=>uT off λoff=>k (.P id off)
 |.sl id off n=>uT id λid=>uT off λoff=>uT n λn=>k (.sl id off n)
 |.I id sz n=>uT id λid=>uT sz λsz=>uT n λn=>k (.I id sz n)
 |.mp id=>uT id λid=>k (.mp id)
 |x=>k x
def Wo:Y AV->(Y AV->α)->α
 |[],k=>k []
 |x::r,k=>ar6 x λx=>Wo r λr=>k (x::r)
def ax2 (x:AV) (k:AV->α):α:=match x with
 |.agg l=>Wo l λl=>k (.agg l)
 |.qb l=>Wo l λl=>k (.qb l)
 |.qy f l=>Wo l λl=>k (.qy f l)
 |x=>ar6 x k
def frcC (c:BC) (k:BC->α):α:=match c with
 |.fz l=>aju l λl=>k (.fz l)
 |.mx l=>Wo l λl=>k (.mx l)
 |.it s p=>uT p λp=>k (.it s p)
 |.mp es=>k (.mp es)
def Wn :PT R->(PT R->α)->α
 |.leaf,k=>k .leaf
 |.node v l r,k=>(match v with
  |none=>λ(k:M R->α)=>k U
  |some x=>λk=>k (Z x)) λv=>Wn l λl=>Wn r λr=>k (.node v l r)
def YB :Nat->PT R->Nat->M R->(PT R->α)->α
 |0,t,_,_,k=>k t
 |f+1,t,n,x,k=>match t with
  |.leaf=>(match n with
   |0=>k (.node x .leaf .leaf)
   |m+1=>if ax (m%2) 0 then uT (m/2) λq=>YB f .leaf q x λu=>k (.node U u .leaf) else uT (m/2) λq=>YB f .leaf q x λu=>k (.node U .leaf u))
  |.node v l r=>(match n with
   |0=>k (.node x l r)
   |m+1=>if ax (m%2) 0 then uT (m/2) λq=>YB f l q x λu=>k (.node v u r) else uT (m/2) λq=>YB f r q x λu=>k (.node v l u))
def Tw :∀(x:PT R) (k:PT R->α),Wn x k=k x
 |.leaf,_=>rfl
 |.node v l r,k=>by cases v<;>simp[Wn,Tw l,Tw r]
end force
structure IS where
 e:ED
 h:ny
 nx:Nat
 wr:Nat
structure arz where
 val:AV
 rd:Nat
 wr:Nat
 h:ny
 nx:Nat
def bits:ι->Nat->Nat
 |[],acc=>acc
 |x::r,acc=>bits r (acc|||(1<<<x))
def asd (h:ny) (z:NW):ι->(ny->R)->R
 |[],k=>k h
 |i::r,k=>match j9 z i with
  |none=>YB (i+1) h i U λh=>asd h z r k
  |some ⟨ty,c⟩=>frcC c λc=>YB (i+1) h i (Z ⟨ty,c⟩) λh=>asd h z r k
def arj (call:adr) (f:FuncId) (args:Y AV) (h:ny) (nx:Nat):M arz:=
 uT (abd 1000000 h (AV.idsL args 0) 0) λids=>Wn (PT.only ids 1 0 h) λA=>
 if AV.allL (ey · nx) args&&ny.all (ey · nx) A then
  match call f args A nx with
  |some ⟨val,h',nx',z⟩=>ax2 val λval=>uT nx' λnx'=>uT z λz=>Wn (PT.merge z 1 0 h h') λhm=>Z ⟨val,ids,z,hm,nx'⟩
  |none=>U
 else U
def opA (call:adr) (o:SI) (e:ED) (h:ny) (nx:Nat):M arz:=
 match o with
 |.call f args=>match evs e args with|some l=>arj call f l h nx|none=>U
 |.xq x args=>match mb e x,evs e args with|some (.qy f cap),Z l=>arj call f (l++cap) h nx|_,_=>U
 |.op o=>match dA o e h nx with
  |some ⟨val,rd,z,D,N⟩=>ax2 val λval=>uT (bits rd 0) λrd=>uT (bits z 0) λA=>uT (nx+l! N) λnx'=>asd h D z λh=>Z ⟨val,rd,A,h,nx'⟩
  |none=>U
def awd (e:ED):M (Nat×Bool)->M Bool
 |none=>Z J
 |some (t,want)=>match e.get t with
  |some (.f (.raw (.bool b)))=>Z (b==want)
  |some (.f (.raw (.tuple _)))=>Z af
  |_=>U
def asy (e:ED) (dst:M Nat) (v:AV) (k:ED->R):R:=match dst with
 |none=>k e
 |some d=>YB (d+1) e d (Z v) k
structure FPm where
 rd:Nat
 wr:Nat
def YI (call:adr):Y uC->IS->M (IS×Y FPm)
 |[],s=>Z (s,[])
 |o::r,⟨e,h,nx,A⟩=>
  match awd e o.guard with
  |some J=>(match opA call o.op e h nx with
   |some ⟨val,rd,w,h',nx'⟩=>asy e o.dst val λe'=>uT (A|||w) λwr'=>(match YI call r ⟨e',h',nx',wr'⟩ with
    |some (s',z)=>Z (s',⟨rd,w⟩::z)
    |none=>U)
   |none=>U)
  |some af=>asy e o.dst (raw undef) λe'=>(match YI call r ⟨e',h,nx,A⟩ with
   |some (s',z)=>Z (s',⟨0,0⟩::z)
   |none=>U)
  |none=>U
def af3:Y FPm->Nat->M FPm
 |[],_=>U
 |f::_,0=>Z f
 |_::r,n+1=>af3 r n
def Ks (a b:Nat):Bool:=ax (a&&&b) 0
abbrev q!:=Nat×Nat
def Jw (z:Y FPm):Y q!->Bool
 |[]=>J
 |(i,j)::r=>(match af3 z i,af3 z j with
  |some a,Z b=>Ks a.wr b.rd&&Ks a.wr b.wr&&Ks b.wr a.rd
  |_,_=>af)&&Jw z r
inductive Ex where
 |normal
 |exit (id:Nat)
 |ret
def ar2 (body:IS->M (Ex×IS)) (e0:ED):Nat->IS->M (Ex×IS)
 |0,_=>U
 |n+1,s=>match body s with
  |some (.normal,⟨e,h,nx,z⟩)=>Wn (PT.mask e e0) λe=>ar2 body e0 n ⟨e,h,nx,z⟩
  |r=>r
def run (call:adr) (inert:FuncId->Bool) (fuel:Nat):SC->IS->M (Ex×IS)
 |.skip,s=>Z (.normal,s)
 |.jw ops prs,s=>match YI call ops s with
  |some (s',A)=>if Jw A prs then Z (.normal,s') else U
  |none=>U
 |.seq a b,s=>match run call inert fuel a s with
  |some (.normal,s')=>run call inert fuel b s'
  |r=>r
 |.cond c a b,s=>match s.e.get c with
  |some (.f (.raw (.bool J)))=>run call inert fuel a s
  |some (.f (.raw (.bool af)))=>run call inert fuel b s
  |_=>U
 |.block id b,s=>match run call inert fuel b s with
  |some (.exit i,s')=>if ax i id then Z (.normal,s') else Z (.exit i,s')
  |r=>r
 |.loop b,s=>ar2 (run call inert fuel b) s.e fuel s
 |.exit id,s=>Z (.exit id,s)
 |.ret,s=>Z (.ret,s)
 |.defer f caps t,⟨e,h,nx,z⟩=>match evs e caps with
  |some l=>if inert f then asy e (Z t) (.qy f l) λe'=>Z (.normal,⟨e',h,nx,z⟩) else U
  |none=>U
 |.zn,_=>U
inductive RV where
 |tmp (t:Nat)
 |cell (a:Nat) (sz:Nat) (ag:Bool)
structure SF where
 code:SC
 res:List RV
 nt:Nat
def FK:Y AV->AV
 |[x]=>x
 |l=>.qb l
def ats:Value->Value->Bool
 |.bool a,.bool b=>a==b
 |.int k a,.int A b=>k==A&&a==b
 |.string a,.string b=>tY a b
 |.slice U n c,.slice U z D=>ax n z&&ax c D
 |.pointer U,.pointer U=>J
 |.tuple a,.tuple b=>a.isEmpty&&b.isEmpty
 |_,_=>af
def fQ (P:Program) (t:TypeId):M Nat:=(P.info? t).map (·.size)
def I8 (P:Program) (t:TypeId):M Nat:=(P.info? t).map (·.bytes)
def uZ (P:Program) (t:TypeId):M ξ:=((P.info? t).bind (·.zero)).map (·.cells.toList)
def HC (P:Program) (t:TypeId):M Bool:=(P.underlying t).map λ|.struct _=>J|.array _ _=>J|_=>af
def Ec (P:Program) (t:TypeId):M TypeId:=match P.underlying t with|some (.slice e)=>Z e|_=>U
def EW (P:Program) (t:TypeId) (i:Nat):M q!:=match P.underlying t with
 |some (.struct A)=>(A[i]?).bind λf=>(fQ P f.type).map (f.offset,·)
 |some (.array _ z)|some (.slice z)=>(fQ P z).map λs=>(i*s,s)
 |_=>U
abbrev H?:=Nat×Operand
def Au (P:Program) (t:TypeId):Y H?->M (Y n?)
 |[]=>Z []
 |(i,x)::r=>match EW P t i,Au P t r with|some (o,s),Z l=>Z ((o,s,x)::l)|_,_=>U
def oq (z:ξ):Bool:=z.all λv=>v.oneCell'
def EU:TypeDesc->Bool
 |.int _=>J
 |.bool=>J
 |.string=>J
 |_=>af
def l_ (P:Program):Nat→Y Field→M (Y TypeDesc)
 |_,[]=>Z []
 |k,f::r=>match P.underlying f.type,l_ P (k+1) r with
  |some d,Z ds=>if f.name != "_" &&f.offset==k&&EU d then Z (d::ds) else U
  |_,_=>U
def ES (P:Program) (t:TypeId):M (Y TypeDesc):=match P.underlying t with
 |some (.struct z)=>if P.stoodInHeld t then U else l_ P 0 z.toList
 |_=>U
def XK (P:Program) (c:Call):M UI:=
 match c.callee with
 |.builtin .len=>(match c.args.toList,c.argTypes.toList with
  |[x],[t]=>(match P.underlying t with
   |some (.slice _)=>Z (.len x)
   |some .string=>Z (.lens x)
   |some (.map _ _)=>Z (.jy x)
   |_=>U)
  |_,_=>U)
 |.builtin .max=>(match c.args.toList with
  |[x,y]=>Z (.max x y)
  |_=>U)
 |.builtin .min=>(match c.args.toList with
  |[x,y]=>Z (.min x y)
  |_=>U)
 |.builtin .copy=>(match c.args.toList,c.argTypes.toList with
  |[d,x],[t,u]=>(match Ec P t,Ec P u with
   |some A,Z _=>(fQ P A).bind λsz=>if sz !=0 then Z (.copy sz d x) else U
   |_,_=>U)
  |_,_=>U)
 |.builtin .delete=>(match c.args.toList,c.argTypes.toList with
  |[m,k],[t,_]=>(match P.underlying t with
   |some (.map D _)=>(ES P D).map λds=>.dlq ds m k
   |_=>U)
  |_,_=>U)
 |.builtin .clear=>(match c.args.toList,c.argTypes.toList with
  |[x],[t]=>(Ec P t).bind λA=>(uZ P A).bind λz=>(fQ P A).bind λsz=>if oq z&&l! z==sz&&sz !=0 then Z (.clr sz z x) else U
  |_,_=>U)
 |.builtin .append=>(match c.args.toList,c.argTypes.toList with
  |[s,x],[t,u]=>(match Ec P t,Ec P u with
   |some A,Z _=>(fQ P A).bind λsz=>(I8 P A).bind λb=>(uZ P A).bind λz=>if sz !=0&&l! z==sz then Z (.app A sz b s x) else U
   |_,_=>U)
  |_,_=>U)
 |_=>U
def cL (P:Program):Op->M UI
 |.move x|.assign x=>Z (.mv x)
 |.pick c a b=>Z (.pick c a b)
 |.alloc t=>(uZ P t).bind λz=>if oq z then Z (.alloc t z) else U
 |.box t x=>Z (.box t x)
 |.build t ps=>match P.underlying t with
  |some (.struct L)=>(uZ P t).bind λz=>if oq z&&(L.toList.all λf=>(fQ P f.type).isSome) then (Au P t ps.toList).map (.build z) else U
  |some (.array _ A)=>(uZ P t).bind λz=>if oq z&&(fQ P A).isSome then (Au P t ps.toList).map (.build z) else U
  |_=>U
 |.buildSlice t n ps=>(Ec P t).bind λA=>(uZ P A).bind λz=>(fQ P A).bind λsz=>if oq z&&l! z==sz&&dN (n*sz) 65536&&sz !=0 then (Au P t ps.toList).map (.xx A sz n z) else U
 |.load t x=>(fQ P t).bind λsz=>(HC P t).map λag=>.load sz ag x
 |.store t x v=>(fQ P t).map λsz=>.store sz x v
 |.nilCheck x=>Z (.zl x)
 |.binOp op t x y _=>match P.underlying t with
  |some (.int _)|some .string=>Z (.bin op x y)
  |some .bool=>(match op with|.eql=>Z (.xj af x y)|.neq=>Z (.xj J x y)|_=>U)
  |some (.slice _)=>(match op,y with
   |.eql,.const (.slice U 0 0)=>Z (.zd af x)
   |.neq,.const (.slice U 0 0)=>Z (.zd J x)
   |_,_=>U)
  |some (.pointer _)=>(match op,y with
   |.eql,.const (.pointer U)=>Z (.jz af x)
   |.neq,.const (.pointer U)=>Z (.jz J x)
   |_,_=>U)
  |some (.struct _)=>(ES P t).bind λds=>(match op with|.eql=>Z (.jh af ds x y)|.neq=>Z (.jh J ds x y)|_=>U)
  |_=>U
 |.unOp .not _ x=>Z (.not x)
 |.unOp .neg t x=>match P.underlying t with|some (.int k)=>Z (.bin .sub (.const (.int k 0)) x)|_=>U
 |.convert s d x=>match P.underlying s,P.underlying d with|some (.int _),Z (.int k)=>Z (.conv k x)|_,_=>U
 |.makeSlice t l c=>(Ec P t).bind λA=>(uZ P A).bind λz=>(fQ P A).bind λsz=>(I8 P A).bind λb=>if oq z&&l! z==sz&&sz !=0 then Z (.zm A sz b z l c) else U
 |.slice t x lo hi mx=>(Ec P t).bind λA=>(fQ P A).map λsz=>.slc sz x lo hi mx
 |.fieldAddr t x k=>match P.underlying t with
  |some (.struct L)=>(L[k]?).bind λf=>(fQ P f.type).bind λsz=>if sz !=0 then Z (.jb f.offset x) else U
  |_=>U
 |.field t x k=>match P.underlying t with
  |some (.struct L)=>(L[k]?).bind λf=>(fQ P f.type).bind λsz=>(HC P f.type).map λag=>.fld f.offset sz ag x
  |_=>U
 |.indexAddr t x i=>match P.underlying t with
  |some (.slice A)=>(fQ P A).map λsz=>.jf sz x i
  |some (.array n A)=>(fQ P A).map λsz=>.jv n sz x i
  |_=>U
 |.index t x i=>match P.underlying t with
  |some (.array n A)=>(fQ P A).bind λsz=>(HC P A).map λag=>.idx n sz ag x i
  |some .string=>Z (.jx x i)
  |_=>U
 |.extract x i=>Z (.ext x i)
 |.makeFunc (.func f) first caps=>if first.isEmpty then Z (.mkf f caps.toList) else U
 |.makeMap t U=>match P.underlying t with|some (.map _ _)=>Z .mkm|_=>U
 |.lookup t x k ok=>match P.underlying t with
  |some (.map D A)=>(match P.underlying D,(P.info? A).bind (·.zero) with
   |some (.int _),Z z=>if z.oneCell' then Z (.jg af ok z x k) else U
   |some .string,Z z=>if z.oneCell' then Z (.jg J ok z x k) else U
   |some (.struct _),Z z=>if z.oneCell'&& !ok then (ES P D).map λds=>.lkq ds z x k else U
   |_,_=>U)
  |_=>U
 |.mapUpdate t m k v=>match P.underlying t with
  |some (.map D _)=>(match P.underlying D with
   |some (.int _)=>Z (.jk af m k v)
   |some .string=>Z (.jk J m k v)
   |some (.struct _)=>(ES P D).map λds=>.mpq ds m k v
   |_=>U)
  |_=>U
 |.range t x=>match P.underlying t with|some .string=>Z (.rng x)|_=>U
 |.next x J=>Z (.nxt x)
 |.call c=>XK P c
 |_=>U
def OP:Op->M SI
 |.call c=>(match c.callee with
  |.value (.func f)=>Z (.call f c.args.toList)
  |.value (.tmp t)=>Z (.xq (.tmp t) c.args.toList)
  |_=>U)
 |_=>U
def xQ (P:Program) (op:Op):SI:=match OP op with
 |some i=>i
 |none=>(match cL P op with|some s=>.op s|none=>.op .zn)
def UI.still:UI->Bool
 |.mv _|.pick _ _ _|.build _ _|.zl _|.bin _ _ _|.jh _ _ _ _|.zd _ _|.xj _ _ _|.not _|.conv _ _|.jb _ _|.fld _ _ _ _|.jf _ _ _|.jv _ _ _ _|.idx _ _ _ _ _|.ext _ _|.max _ _|.min _ _|.jx _ _|.mkf _ _|.jz _ _|.zn=>J
 |_=>af
def SI.still:SI->Bool
 |.op s=>s.still
 |_=>af
def tX (P:Program) (ops:Array Oper):Y Oper->M (Y uC)
 |[]=>Z []
 |o::r=>match tX P ops r with
  |some l=>(match o.guard with
   |none=>Z (⟨o.dst,xQ P o.op,U⟩::l)
   |some (j,want)=>(match (ops[j]?).bind (·.dst) with
    |some t=>Z (⟨o.dst,xQ P o.op,Z (t,want)⟩::l)
    |none=>U))
  |none=>U
def Q6 (ops:Array Oper) (l:Y uC):M (Y q!):=
 let B:=OT ops.toList []
 if (e_ ops.size).all λj=>((ops[j]?).all λz=>z.after.toList.all λe=> !C9 .any e||decide (e.on<j))&&
     (e_ j).all λi=>aK (B.getD j 0) i||(match ops[i]?,ops[j]? with|some A,Z z=>A.apart ops z|_,_=>af)
 then Z ((e_ ops.size).flatMap λj=>(e_ j).filterMap λi=>
  if aK (B.getD j 0) i||(match l[i]?,l[j]? with|some a,Z b=>a.op.still||b.op.still|_,_=>af) then U else Z (i,j))
 else U
def Hn (ops:Array Oper) (A:Bool):M (FuncId×Y Operand×Nat):=match ops.toList,A with
 |[p,q],af=>(match p.op,p.guard,p.dst,q.op,q.guard,q.dst with
  |.makeFunc (.func f) first caps,U,Z t,.defer c,U,U=>(match c.callee,c.args.toList with
   |.value (.tmp z),[]=>if ax t z&&first.isEmpty then Z (f,caps.toList,t) else U
   |_,_=>U)
  |_,_,_,_,_,_=>U)
 |_,_=>U
def cz (P:Program) (nt:Nat):Code->SC
 |.skip=>.skip
 |.region _ ops z=>if ops.toList.all λo=>match o.dst with|some d=>decide (d<nt)|none=>J then
   (match Hn ops z with
   |some (f,caps,t)=>.defer f caps t
   |none=>(match tX P ops ops.toList with
    |some l=>(match Q6 ops l with|some prs=>.jw l prs|none=>.zn)
    |none=>.zn)) else .zn
 |.seq a b=>.seq (cz P nt a) (cz P nt b)
 |.cond (.tmp c) a b=>.cond c (cz P nt a) (cz P nt b)
 |.cond (.const (.bool J)) a _=>cz P nt a
 |.cond (.const (.bool af)) _ b=>cz P nt b
 |.block id b=>.block id (cz P nt b)
 |.loop b=>.loop (cz P nt b)
 |.exit id=>.exit id
 |.ret=>.ret
 |_=>.zn
def xP (P:Program):Y ResultVar->M (Y RV)
 |[]=>Z []
 |.tmp t::r=>match xP P r with|some l=>Z (.tmp t::l)|none=>U
 |.cell a t::r=>match xP P r,fQ P t,HC P t with|some l,Z sz,Z z=>Z (.cell a sz z::l)|_,_,_=>U
def CZ (P:Program) (f:FuncId):M SF:=
 match P.funcs[f]? with
 |some fn=>if fn.name== "runtime.NumGoroutine" then U else (match fn.body,xP P fn.results.toList with
  |some c,Z r=>Z ⟨cz P fn.ntmps c,r,fn.ntmps⟩
  |_,_=>U)
 |none=>U
inductive Xp where
 |mk (op n:Int) (name:ζ) (l:List Xp)
inductive Sx where
 |mk (op line:Int) (name arg:ζ) (index:List Xp) (expr:Xp) (body els:List Sx)
def Xp.op:Xp->Int|.mk a _ _ _=>a
def Xp.n:Xp->Int|.mk _ a _ _=>a
def Xp.name:Xp->ζ|.mk _ _ a _=>a
def Xp.l:Xp->Y Xp|.mk _ _ _ a=>a
def Sx.op:Sx->Int|.mk a _ _ _ _ _ _ _=>a
def Sx.line:Sx->Int|.mk _ a _ _ _ _ _ _=>a
def Sx.name:Sx->ζ|.mk _ _ a _ _ _ _ _=>a
def Sx.arg:Sx->ζ|.mk _ _ _ a _ _ _ _=>a
def Sx.index:Sx->Y Xp|.mk _ _ _ _ a _ _ _=>a
def Sx.expr:Sx->Xp|.mk _ _ _ _ _ a _ _=>a
def Sx.body:Sx->Y Sx|.mk _ _ _ _ _ _ a _=>a
def Sx.els:Sx->Y Sx|.mk _ _ _ _ _ _ _ a=>a
inductive Ty where
 |int (k:IntKind)
 |bool
 |str
 |sl (t:Ty)
 |st (t:Ty)
 |pr (a b:Ty)
 |un
 |ex
 |sm
 deriving DecidableEq
@[reducible] def Ty.den:Ty->Type
  |.int _=>Int
  |.bool=>Bool
  |.str=>ζ
  |.sl t=>Y t.den
  |.st t=>t.den
  |.pr a b=>a.den×b.den
  |.un=>Unit
  |.ex=>Xp
  |.sm=>Sx
def Ty.size:Ty->Nat
 |.st t=>t.size
 |.pr a b=>a.size+b.size
 |.un=>0
 |.ex=>4
 |.sm=>11
 |_=>1
def Ty.zero:(t:Ty)->t.den
 |.int _=>(0:Int)
 |.bool=>af
 |.str=>[]
 |.sl _=>[]
 |.st t=>t.zero
 |.pr a b=>(a.zero,b.zero)
 |.un=>()
 |.ex=>.mk 0 0 [] []
 |.sm=>.mk 0 0 [] [] [] (.mk 0 0 [] []) [] []
def Ty.one:Ty->Bool
 |.int _=>J
 |.bool=>J
 |.str=>J
 |.sl _=>J
 |_=>af
def Rq:Ty:=.pr (.int .i64) (.pr (.int .i64) (.pr .str (.sl .ex)))
def QY:Ty:=.pr (.int .i64) (.pr (.int .i64) (.pr .str (.pr .str (.pr (.sl .ex) (.pr .ex (.pr (.sl .sm) (.sl .sm)))))))
def Sf (e:Xp):Rq.den:=(e.op,e.n,e.name,e.l)
def eL (x:Rq.den):Xp:=.mk x.1 x.2.1 x.2.2.1 x.2.2.2
def Se (e:Sx):QY.den:=(e.op,e.line,e.name,e.arg,e.index,e.expr,e.body,e.els)
def o8 (x:QY.den):Sx:=.mk x.1 x.2.1 x.2.2.1 x.2.2.2.1 x.2.2.2.2.1 x.2.2.2.2.2.1 x.2.2.2.2.2.2.1 x.2.2.2.2.2.2.2
mutual
def zH:Xp->Y FV
 |.mk op n name l=>[.raw (.int .i64 op),.raw (.int .i64 n),.raw (.string ⟨name.toArray⟩),.sl (NJ l) (l! l)]
def NJ:Y Xp->Y FV
 |[]=>[]
 |x::r=>zH x++NJ r
end
mutual
def BA:Sx->Y FV
 |.mk op line name arg index expr body els=>[.raw (.int .i64 op),.raw (.int .i64 line),.raw (.string ⟨name.toArray⟩),.raw (.string ⟨arg.toArray⟩),.sl (NJ index) (l! index)]++zH expr++[.sl (NI body) (l! body),.sl (NI els) (l! els)]
def NI:Y Sx->Y FV
 |[]=>[]
 |x::r=>BA x++NI r
end
def bD:(T:Ty)->T.den->Y FV
 |.int k,n=>[.raw (.int k n)]
 |.bool,b=>[.raw (.bool b)]
 |.str,s=>[.raw (.string ⟨s.toArray⟩)]
 |.sl t,xs=>[.sl (List.flatMap (bD t) xs) (aj xs)]
 |.st t,v=>bD t v
 |.pr a b,v=>bD a v.1++bD b v.2
 |.un,_=>[]
 |.ex,v=>zH v
 |.sm,v=>BA v
def gu:(T:Ty)->T.den->FV
 |.int k,n=>.raw (.int k n)
 |.bool,b=>.raw (.bool b)
 |.str,s=>.raw (.string ⟨s.toArray⟩)
 |.sl t,xs=>.sl (List.flatMap (bD t) xs) (aj xs)
 |.st t,v=>.agg (bD t v)
 |.pr a b,v=>.agg (bD a v.1++bD b v.2)
 |.un,_=>.agg []
 |.ex,v=>.agg (zH v)
 |.sm,v=>.agg (BA v)
def UG:(T:Ty)->T.den->T.den->Bool
 |.int _,a,b=>decide ((a:Int)=b)
 |.bool,a,b=>(a:Bool)==b
 |.str,a,b=>decide ((a:ζ)=b)
 |.st t,a,b=>UG t a b
 |.pr x y,a,b=>UG x a.1 b.1&&UG y a.2 b.2
 |_,_,_=>J
def wO {S:Ty} (T:Ty) (v:S.den):M T.den:=if h:S=T then Z (h▸v) else U
def dL (j:Int) (n:Nat):Bool:=db 0 j&&gD j n
def geti (T:Ty) (xs:Y T.den) (j:Int):T.den:=xs.getD j.toNat T.zero
def cg (xs:Y R) (j:Int) (x:R):Y R:=xs.set j.toNat x
def T8 (xs z:Y R):Y R:=z.take (l! xs)++xs.drop (l! z)
def jR (a b:Int):Int:=if gD a b then b else a
def KQ (a b:Int):Int:=if gD b a then b else a
def an0 (s:ζ) (j:Int):Int:=aQ (s.getD j.toNat 0).toNat
def aI (b:Bool) (t f:M R):M R:=match b with|true=>t|false=>f
def chk (b:Bool) (k:b=J->M R):M R:=match b,k with|true,k=>k rfl|false,_=>U
open Classical in
def zW (a b:M R):M R:=if a=b then a else U
open Classical in
def same {α:Type} (a b:α) (r:M R):M R:=if a=b then r else U
def aA {α:Type} (o:M α) (k:α->M R):M R:=match o with|some x=>k x|none=>U
def lt {α:Type} (x:α) (k:α->M R):M R:=k x
def jn {α:Type} (o:M (R⊕α)) (k:α->M R):M R:=match o with|some (.inr x)=>k x|some (.inl r)=>Z r|none=>U
def iterN {σ:Type} (step:σ->M (σ⊕R)):Nat->σ->M R
 |0,_=>U
 |n+1,x=>match step x with
  |some (.inl y)=>iterN step n y
  |some (.inr r)=>Z r
  |none=>U
open Classical in
def iter {σ R:Type} (step:σ->M (σ⊕R)) (x:σ):M R:=
 if h:∃n,(iterN step n x).isSome=J then iterN step (Classical.choose h) x else U
def gf {σ R:Type} (step:σ->M (σ⊕R)) (x:σ):M R:=iterN step 18446744073709551616 x
abbrev BO:Type 1:=∀σ R:Type,(σ->M (σ⊕R))->σ->M R
def md (a b:M R):Prop:=∀y,a=Z y->b=Z y
def md.rfl {a:M R}:md a a:=λ_ h=>h
def md.bcase {t f z A:M R} (h1:md t z) (D:md f A):md (AI.aI b t f) (AI.aI b z A):=by cases b<;>assumption
def md.chk {k z:M R} (h:md k z):md (AI.chk b λ_=>k) (AI.chk b λ_=>z):=by
 cases b with
 |true=>exact h
 |false=>exact λ_ h=>by cases h
def md.obind {α:Type} {o z:M α} {k A:α->M R} (h:md o z) (L:∀x,md (k x) (A x)):md (AI.aA o k) (AI.aA z A):=by
 intro y D;cases o with
 |none=>cases D
 |some x=>rw[h x (by rfl)];exact L x y D
def md.lt {α:Type} {x:α} {k z:α->M R} (h:∀y,md (k y) (z y)):md (AI.lt x k) (AI.lt x z):=h x
def md.jn {α:Type} {o A:M (R⊕α)} {k D:α->M R} (h:md o A) (L:∀x,md (k x) (D x)):md (AI.jn o k) (AI.jn A D):=by
 intro y z;cases o with
 |none=>cases z
 |some x=>
  rw[h x (by rfl)];cases x with
  |inl r=>exact z
  |inr a=>exact L a y z
def md.iterN {σ:Type} {f g:σ->M (σ⊕R)} (h:∀x,md (f x) (g x)):∀(n:Nat) (x:σ),md (AI.iterN f n x) (AI.iterN g n x)
 |0,_=>λ_ h=>by cases h
 |n+1,x=>by
  intro y A;cases hf:f x with
  |none=>rw[AI.iterN,hf]at A;cases A
  |some s=>
   rw[AI.iterN,hf]at A;rw[AI.iterN,h x s hf];cases s with
   |inl z=>exact md.iterN h n z y A
   |inr r=>exact A
def MU {σ:Type} {f:σ->M (σ⊕R)}:∀{n:Nat} {x:σ} {r:R},iterN f n x=Z r->iterN f (n+1) x=Z r
 |0,x,r,h=>by cases h
 |n+1,x,r,h=>by
  cases hf:f x with
  |none=>rw[iterN,hf]at h;cases h
  |some s=>
   cases s with
   |inl y=>rw[iterN,hf]at h;rw[iterN,hf];exact MU h
   |inr q=>rw[iterN,hf]at h;rw[iterN,hf];exact h
def zo {σ:Type} {f:σ->M (σ⊕R)} {n:Nat} {x:σ} {r:R} (h:iterN f n x=Z r) (hle:n<=i):iterN f i x=Z r:=by
 induction hle with
 |refl=>exact h
 |step _ z=>exact MU z
def Cm {σ:Type} {f:σ->M (σ⊕R)} {n:Nat} {x:σ} {r:R} (h:iterN f n x=Z r):iter f x=Z r:=by
 have A:∃n,(iterN f n x).isSome=J:=⟨n,by rw[h];exact Eq.refl _⟩
 unfold iter;rw[dif_pos A];have L:=Classical.choose_spec A;let⟨r',z⟩:=jL.1 L;rw[z];rcases Nat.le_total n (Classical.choose A) with D|D
 .rw[zo h D]at z;exact z.symm
 .rw[zo z D]at h;exact h
def md.iter {σ:Type} {f g:σ->M (σ⊕R)} {x:σ} (h:∀x,md (f x) (g x)):md (gf f x) (AI.iter g x):=λy z=>Cm (md.iterN h _ x y z)
def orE (a b:M R):M R:=match a with|some y=>Z y|none=>b
def fuel:Nat:=Classical.choose (⟨100000,rfl⟩:∃n:Nat,n=100000)
def lh:fuel=100000:=Classical.choose_spec (⟨100000,rfl⟩:∃n:Nat,n=100000)
def KH (a:Ty):Ty->Ty
 |.un=>a
 |.int k=>.pr a (.int k)
 |.bool=>.pr a .bool
 |.str=>.pr a .str
 |.sl t=>.pr a (.sl t)
 |.st t=>.pr a (.st t)
 |.pr x y=>.pr a (.pr x y)
 |.ex=>.pr a .ex
 |.sm=>.pr a .sm
def spr:Ty->Ty->Ty
 |.un,b=>b
 |.int k,b=>KH (.int k) b
 |.bool,b=>KH .bool b
 |.str,b=>KH .str b
 |.sl t,b=>KH (.sl t) b
 |.st t,b=>KH (.st t) b
 |.pr x y,b=>KH (.pr x y) b
 |.ex,b=>KH .ex b
 |.sm,b=>KH .sm b
def Vz (a:Ty):(b:Ty)->a.den->b.den->(KH a b).den
 |.un,x,_=>x
 |.int _,x,y|.bool,x,y|.str,x,y|.sl _,x,y|.st _,x,y|.pr _ _,x,y|.ex,x,y|.sm,x,y=>(x,y)
def fsN (a:Ty):(b:Ty)->(KH a b).den->a.den
 |.un,z=>z
 |.int _,z|.bool,z|.str,z|.sl _,z|.st _,z|.pr _ _,z|.ex,z|.sm,z=>z.1
def snN (a:Ty):(b:Ty)->(KH a b).den->b.den
 |.un,_=>()
 |.int _,z|.bool,z|.str,z|.sl _,z|.st _,z|.pr _ _,z|.ex,z|.sm,z=>z.2
def mkp:(a b:Ty)->a.den->b.den->(spr a b).den
 |.un,_,_,y=>y
 |.int k,b,x,y=>Vz (.int k) b x y
 |.bool,b,x,y=>Vz .bool b x y
 |.str,b,x,y=>Vz .str b x y
 |.sl t,b,x,y=>Vz (.sl t) b x y
 |.st t,b,x,y=>Vz (.st t) b x y
 |.pr u v,b,x,y=>Vz (.pr u v) b x y
 |.ex,b,x,y=>Vz .ex b x y
 |.sm,b,x,y=>Vz .sm b x y
def UF:(a b:Ty)->(spr a b).den->a.den
 |.un,_,_=>()
 |.int k,b,z=>fsN (.int k) b z
 |.bool,b,z=>fsN .bool b z
 |.str,b,z=>fsN .str b z
 |.sl t,b,z=>fsN (.sl t) b z
 |.st t,b,z=>fsN (.st t) b z
 |.pr u v,b,z=>fsN (.pr u v) b z
 |.ex,b,z=>fsN .ex b z
 |.sm,b,z=>fsN .sm b z
def Sm:(a b:Ty)->(spr a b).den->b.den
 |.un,_,z=>z
 |.int k,b,z=>snN (.int k) b z
 |.bool,b,z=>snN .bool b z
 |.str,b,z=>snN .str b z
 |.sl t,b,z=>snN (.sl t) b z
 |.st t,b,z=>snN (.st t) b z
 |.pr u v,b,z=>snN (.pr u v) b z
 |.ex,b,z=>snN .ex b z
 |.sm,b,z=>snN .sm b z
def vA (a b:Ty) (x:a.den) (y:b.den):UF a b (mkp a b x y)=x:=by cases a<;>cases b<;>rfl
def xp (a b:Ty) (x:a.den) (y:b.den):Sm a b (mkp a b x y)=y:=by cases a<;>cases b<;>rfl
inductive Sb where
 |ob (id:Nat) (j:Int) (off:Nat)
 |om (id:Nat) (j:Int) (b:Nat)
 |nr (id:Nat) (j:Int) (sz n:Nat)
 |np (id:Nat) (j:Int) (sz:Nat) (i:Int) (off:Nat)
 |nl
def Sb.id:Sb->Nat
 |.ob i _ _=>i
 |.om i _ _=>i
 |.nr i _ _ _=>i
 |.np i _ _ _ _=>i
 |.nl=>0
def Sb.to (i:Nat):Sb->Sb
 |.ob _ j o=>.ob i j o
 |.om _ j b=>.om i j b
 |.nr _ j s n=>.nr i j s n
 |.np _ j s k o=>.np i j s k o
 |.nl=>.nl
inductive uE where
 |ar (ty:TypeId) (S:Ty)
 |qn (ty:TypeId)
 |qr
 |rr (ty:TypeId) (sz:Nat)
 |ir (ty:TypeId) (T:Ty)
 deriving DecidableEq
abbrev mbT:Ty:=.sl (.pr (.int .i64) .bool)
abbrev kyT:Ty:=.pr (.int .i64) (.int .i64)
def uE.ty:uE->Ty
 |.ar _ S=>.sl (.pr S (.pr mbT mbT))
 |.qn _=>.sl (.int .i64)
 |.qr=>.sl (.pr kyT (.int .i64))
 |.rr _ _=>.sl (.int .i64)
 |.ir _ T=>.sl (.sl T)
def uE.aid (n:Nat):uE->Nat
 |.ar _ _=>0
 |.ir _ _=>0
 |_=>n
def sk:(F:uE)->F.ty.den->M (Bool×q!)
 |.qn _,A=>Z (J,1,aj A)
 |.rr _ _,z=>Z (af,1,aj z)
 |_,_=>U
inductive TV where
 |f (T:Ty) (v:T.den)
 |zf (T:Ty) (xs:List T.den) (j:Int) (h:dL j (l! xs)=J) (off:Nat)
 |zj (id sz:Nat) (j:Int) (off:Nat)
 |P (id off:Nat)
 |I (id:Nat)
 |qg (id sz n:Nat)
 |emp
 |nil
 |mp (id:Nat)
 |agg (l:List TV)
 |qb (l:List TV)
 |qy (g:FuncId) (l:List TV)
 |undef
 |np
 |qw
 |zh (id:Nat) (j:Int)
 |qc (T:Ty) (xs:List T.den)
 |sb (s:Sb)
instance cty (n:Nat):OfNat (M TypeId) n:=⟨Z n⟩
inductive e9 where
 |H (ty:TypeId) (p:Bool) (T:Ty) (xs:List T.den)
 |G (ty:Option TypeId) (l:List TV)
 |qj (p:Bool) (sz n:Nat)
 |mp (K V:Ty) (es:List (K.den×V.den))
 |Q (F:uE) (a:Nat) (x:F.ty.den)
 |qd (F:uE) (a:Nat) (x:F.ty.den) (k:ν) (p:Option (Nat×Bool×Nat))
abbrev h_:=PT TV
abbrev aX:=PT e9
def cst:Value->M TV
 |.int k n=>Z (.f (.int k) n)
 |.bool b=>Z (.f .bool b)
 |.string s=>Z (.f .str s.data.toList)
 |.slice U 0 0=>Z .nil
 |.pointer U=>Z .np
 |.map U=>Z (.sb .nl)
 |_=>U
def Ou:ξ->M (Y TV)
 |[]=>Z []
 |v::r=>match cst v,Ou r with|some x,Z l=>Z (x::l)|_,_=>U
def ati:Value->M TV
 |.agg vs=>if ON vs.toList then (match Ou vs.toList with|some l=>Z (.agg l)|none=>U) else U
 |v=>cst v
def cellsOf:Nat->(T:Ty)->T.den->M (Y TV)
 |0,_,_=>U
 |n+1,.st t,v=>cellsOf n t v
 |n+1,.pr a b,v=>match cellsOf n a v.1,cellsOf n b v.2 with|some x,Z y=>Z (x++y)|_,_=>U
 |_+1,.un,_=>Z []
 |n+1,.ex,v=>cellsOf n Rq (Sf v)
 |n+1,.sm,v=>cellsOf n QY (Se v)
 |_+1,.int k,v=>Z [.f (.int k) v]
 |_+1,.bool,v=>Z [.f .bool v]
 |_+1,.str,v=>Z [.f .str v]
 |_+1,.sl t,v=>Z [.f (.sl t) v]
def TV.isC:TV->Bool
 |.f T _=>T.one
 |.zf _ _ _ _ _=>J
 |.zj _ _ _ _=>J
 |.P _ _=>J
 |.I _=>J
 |.qg _ _ _=>J
 |.emp=>J
 |.nil=>J
 |.np=>J
 |.mp _=>J
 |.qy _ _=>J
 |.sb _=>J
 |_=>af
def lU:Y TV->Bool
 |[]=>J
 |x::r=>x.isC&&lU r
def TV.cs (v:TV):M (Y TV):=match v with
 |.agg l=>if lU l then Z l else U
 |.f T x=>cellsOf 40 T x
 |x=>if x.isC then Z [x] else U
def gG (i:Nat):Nat:=1<<<i
def iy (h:aX) (T:Ty):TV->M (T.den×Nat)
 |.f _ v=>match wO T v with|some x=>Z (x,0)|none=>U
 |.emp|.nil=>(match T with|.sl _=>Z ([],0)|_=>U)
 |.I id=>match h.get id with
  |some (.H _ _ S xs)=>(match wO (S:=.sl S) T xs with|some x=>Z (x,gG id)|none=>U)
  |_=>U
 |_=>U
def fM (h:aX):Nat->(T:Ty)->Y TV->M (T.den×Nat×Y TV)
 |0,_,_=>U
 |n+1,.st t,l=>fM h n t l
 |n+1,.pr a b,l=>match fM h n a l with
  |some (x,m,r)=>(match fM h n b r with|some (y,m',z)=>Z ((x,y),m|||m',z)|none=>U)
  |none=>U
 |_+1,.un,l=>Z ((),0,l)
 |n+1,.ex,l=>match fM h n Rq l with|some (x,m,r)=>Z (eL x,m,r)|none=>U
 |n+1,.sm,l=>match fM h n QY l with|some (x,m,r)=>Z (o8 x,m,r)|none=>U
 |_+1,.int k,l=>match l with|c::r=>(match iy h (.int k) c with|some (x,m)=>Z (x,m,r)|none=>U)|[]=>U
 |_+1,.bool,l=>match l with|c::r=>(match iy h .bool c with|some (x,m)=>Z (x,m,r)|none=>U)|[]=>U
 |_+1,.str,l=>match l with|c::r=>(match iy h .str c with|some (x,m)=>Z (x,m,r)|none=>U)|[]=>U
 |_+1,.sl t,l=>match l with|c::r=>(match iy h (.sl t) c with|some (x,m)=>Z (x,m,r)|none=>U)|[]=>U
def FA (h:aX) (T:Ty) (v:TV):M (T.den×Nat):=match v with
 |.agg l=>if T.one then U else (match fM h 40 T l with|some (x,m,[])=>Z (x,m)|_=>U)
 |x=>iy h T x
def og:Nat->(T:Ty)->T.den->Nat->Nat->Bool->M TV
 |0,_,_,_,_,_=>U
 |n+1,.st t,v,off,sz,z=>if ax off 0&&ax sz t.size&&z then Z (.f (.st t) v) else og n t v off sz z
 |n+1,.pr a b,v,off,sz,z=>if ey off a.size then og n a v.1 off sz z else og n b v.2 (off-a.size) sz z
 |_+1,.un,_,_,_,_=>U
 |n+1,.ex,v,off,sz,z=>if ax off 0&&ax sz 4&&z then Z (.f .ex v) else og n Rq (Sf v) off sz z
 |n+1,.sm,v,off,sz,z=>if ax off 0&&ax sz 11&&z then Z (.f .sm v) else og n QY (Se v) off sz z
 |_+1,.int k,v,off,sz,z=>if ax off 0&&ax sz 1&& !z then Z (.f (.int k) v) else U
 |_+1,.bool,v,off,sz,z=>if ax off 0&&ax sz 1&& !z then Z (.f .bool v) else U
 |_+1,.str,v,off,sz,z=>if ax off 0&&ax sz 1&& !z then Z (.f .str v) else U
 |_+1,.sl t,v,off,sz,z=>if ax off 0&&ax sz 1&& !z then Z (.f (.sl t) v) else U
def gU (h:aX) (x:TV):Nat->(T:Ty)->T.den->Nat->Nat->M (T.den×Nat)
 |0,_,_,_,_=>U
 |n+1,.st t,v,off,sz=>match (if ax off 0&&ax sz t.size then FA h (.st t) x else U) with
  |some y=>Z y
  |none=>gU h x n t v off sz
 |n+1,.pr a b,v,off,sz=>if ey off a.size then (match gU h x n a v.1 off sz with|some (y,m)=>Z ((y,v.2),m)|none=>U) else (match gU h x n b v.2 (off-a.size) sz with|some (y,m)=>Z ((v.1,y),m)|none=>U)
 |_+1,.un,_,_,_=>U
 |n+1,.ex,v,off,sz=>match (if ax off 0&&ax sz 4 then FA h .ex x else U) with
  |some y=>Z y
  |none=>(match gU h x n Rq (Sf v) off sz with|some (y,m)=>Z (eL y,m)|none=>U)
 |n+1,.sm,v,off,sz=>match (if ax off 0&&ax sz 11 then FA h .sm x else U) with
  |some y=>Z y
  |none=>(match gU h x n QY (Se v) off sz with|some (y,m)=>Z (o8 y,m)|none=>U)
 |_+1,.int k,_,off,sz=>if ax off 0&&ax sz 1 then iy h (.int k) x else U
 |_+1,.bool,_,off,sz=>if ax off 0&&ax sz 1 then iy h .bool x else U
 |_+1,.str,_,off,sz=>if ax off 0&&ax sz 1 then iy h .str x else U
 |_+1,.sl t,_,off,sz=>if ax off 0&&ax sz 1 then iy h (.sl t) x else U
def D9 (h:aX) (T:Ty):Nat->Y TV->M (Y T.den×Nat)
 |0,[]=>Z ([],0)
 |0,_::_=>U
 |n+1,l=>match fM h 40 T l with
  |some (x,m,r)=>(match D9 h T n r with|some (xs,m')=>Z (x::xs,m|||m')|none=>U)
  |none=>U
def uY:Ty->ξ
 |.int k=>[.int k 0]
 |.bool=>[.bool af]
 |.str=>[.string ⟨#[]⟩]
 |.sl _=>[.slice U 0 0]
 |.st t=>uY t
 |.pr a b=>uY a++uY b
 |.un=>[]
 |.ex=>[.int .i64 0,.int .i64 0,.string ⟨#[]⟩,.slice U 0 0]
 |.sm=>[.int .i64 0,.int .i64 0,.string ⟨#[]⟩,.string ⟨#[]⟩,.slice U 0 0,.int .i64 0,.int .i64 0,.string ⟨#[]⟩,.slice U 0 0,.slice U 0 0,.slice U 0 0]
def XT:ξ->ξ->Bool
 |[],[]=>J
 |x::xs,y::z=>ats x y&&XT xs z
 |_,_=>af
def Ty.flat:Ty->Bool
 |.int _=>J
 |.bool=>J
 |.str=>J
 |.st t=>t.flat
 |.pr a b=>a.flat&&b.flat
 |.un=>J
 |_=>af
def sT:Y TypeDesc->M Ty
 |[]=>Z .un
 |.int k::r=>match sT r with|some t=>Z (.pr (.int k) t)|none=>U
 |.bool::r=>match sT r with|some t=>Z (.pr .bool t)|none=>U
 |.string::r=>match sT r with|some t=>Z (.pr .str t)|none=>U
 |_=>U
inductive PV where
 |d (T:Ty)
 |P (id off:Nat)
 |I (id:Nat)
 |qg (id sz n:Nat)
 |mp (id:Nat)
 |nil
 |emp
 |qy (q:FuncId) (l:List (Nat×Nat))
 |ob (id off:Nat)
 |nr (id sz:Nat)
 |agg (l:List PV)
inductive PB where
 |H (ty:TypeId) (p:Bool) (T:Ty)
 |qp (ty:TypeId) (T:Ty)
 |G (ty:Option TypeId) (l:List PV)
 |mp (K V:Ty)
 |Q (F:uE) (a:Nat)
 |qf
mutual
def PV.ty:PV->Ty
 |.d T=>T
 |.agg l=>PV.tyL l
 |.P _ _|.I _|.qg _ _ _|.qy _ _=>.un
 |.ob _ _=>.int .i64
 |.nr _ _=>.pr (.int .i64) (.int .i64)
 |.mp _|.nil|.emp=>.un
def PV.tyL:Y PV->Ty
 |[]=>.un
 |p::r=>spr p.ty (PV.tyL r)
end
def PB.ty:PB->Ty
 |.H _ _ T=>.sl T
 |.qp _ T=>.pr .bool (.sl T)
 |.G _ l=>PV.tyL l
 |.mp K V=>.sl (.pr K V)
 |.Q F _=>F.ty
 |.qf=>.un
def PB.tyL:Y PB->Ty
 |[]=>.un
 |p::r=>spr p.ty (PB.tyL r)
structure Tm where
 vs:List PV
 bs:List PB
def Tm.ty (t:Tm):Ty:=spr (PV.tyL t.vs) (PB.tyL t.bs)
def Mm (g:Nat->Nat):Y q!->Y TV->Bool
 |[],[]=>J
 |(i,o)::r,.P A z::vs=>ax (g i) A&&ax o z&&Mm g r vs
 |_,_=>af
mutual
def m8 (g:Nat->Nat) (h:aX):(p:PV)->Y TV->M (p.ty.den×Nat×Y TV)
 |.d T,l=>fM h 40 T l
 |.P i o,l=>match l with|.P i' o'::r=>if ax (g i) i'&&ax o o' then Z ((),0,r) else U|_=>U
 |.I i,l=>match l with|.I i'::r=>if ax (g i) i' then Z ((),0,r) else U|_=>U
 |.qg i s n,l=>match l with|.qg i' s' n'::r=>if ax (g i) i'&&ax s s'&&ax n n' then Z ((),0,r) else U|_=>U
 |.qy q ps,l=>match l with|.qy q' vs::r=>if ax q q'&&Mm g ps vs then Z ((),0,r) else U|_=>U
 |.ob i o,l=>match l with|.sb (.ob i' j o')::r=>if ax (g i) i'&&ax o o' then Z (j,0,r) else U|_=>U
 |.nr i s,l=>match l with|.sb (.nr i' j s' n)::r=>if ax (g i) i'&&ax s s' then Z ((j,aQ n),0,r) else U|_=>U
 |.mp i,l=>match l with|.mp i'::r=>if ax (g i) i' then Z ((),0,r) else U|_=>U
 |.nil,l=>match l with|.nil::r=>Z ((),0,r)|_=>U
 |.emp,l=>match l with|.nil::r=>Z ((),0,r)|.emp::r=>Z ((),0,r)|_=>U
 |.agg ps,l=>Cw g h ps l
def Cw (g:Nat->Nat) (h:aX):(ps:Y PV)->Y TV->M ((PV.tyL ps).den×Nat×Y TV)
 |[],l=>Z ((),0,l)
 |p::r,l=>match m8 g h p l with
  |some (x,m,l')=>(match Cw g h r l' with|some (y,m',l'')=>Z (mkp p.ty (PV.tyL r) x y,m|||m',l'')|none=>U)
  |none=>U
end
def wG (g:Nat->Nat) (h:aX):(p:PV)->TV->M (p.ty.den×Nat)
 |.d T,v=>FA h T v
 |.agg z,v=>if v.isC then U else (match v.cs with
  |some l=>(match Cw g h z l with|some (x,m,[])=>Z (x,m)|_=>U)
  |none=>U)
 |.P i o,v=>match m8 g h (.P i o) [v] with|some (x,m,_)=>Z (x,m)|none=>U
 |.I i,v=>match m8 g h (.I i) [v] with|some (x,m,_)=>Z (x,m)|none=>U
 |.qg i s n,v=>match m8 g h (.qg i s n) [v] with|some (x,m,_)=>Z (x,m)|none=>U
 |.qy q z,v=>match m8 g h (.qy q z) [v] with|some (x,m,_)=>Z (x,m)|none=>U
 |.ob i o,v=>match m8 g h (.ob i o) [v] with|some (x,m,_)=>Z (x,m)|none=>U
 |.nr i s,v=>match m8 g h (.nr i s) [v] with|some (x,m,_)=>Z (x,m)|none=>U
 |.mp i,v=>match m8 g h (.mp i) [v] with|some (x,m,_)=>Z (x,m)|none=>U
 |.nil,v=>match m8 g h .nil [v] with|some (x,m,_)=>Z (x,m)|none=>U
 |.emp,v=>match m8 g h .emp [v] with|some (x,m,_)=>Z (x,m)|none=>U
def Cv (g:Nat->Nat) (h:aX):(z:Y PV)->Y TV->M ((PV.tyL z).den×Nat)
 |[],[]=>Z ((),0)
 |p::r,v::vs=>match wG g h p v with
  |some (x,m)=>(match Cv g h r vs with|some (y,m')=>Z (mkp p.ty (PV.tyL r) x y,m|||m')|none=>U)
  |none=>U
 |[],_::_=>U
 |_::_,[]=>U
def Fk (g:Nat->Nat) (h:aX) (i:Nat):(b:PB)->M (b.ty.den×Nat)
 |.H ty p T=>match h.get (g i) with
  |some (.H ty' z S xs)=>if ty==ty'&&p==z then (match wO (S:=.sl S) (.sl T) xs with|some x=>Z (x,0)|none=>U) else U
  |_=>U
 |.qp ty T=>match h.get (g i) with
  |some (.H ty' z S xs)=>if ty==ty' then (match wO (S:=.sl S) (.sl T) xs with|some x=>Z ((z,x),0)|none=>U) else U
  |_=>U
 |.G ty A=>match h.get (g i) with
  |some (.G ty' l)=>if ty==ty' then (match Cw g h A l with|some (x,m,[])=>Z (x,m)|_=>U) else U
  |_=>U
 |.mp K V=>match h.get (g i) with
  |some (.mp K' V' es)=>(match wO (S:=.sl (.pr K' V')) (.sl (.pr K V)) es with|some x=>Z (x,0)|none=>U)
  |_=>U
 |.Q F a=>match h.get (g i) with
  |some (.Q F' L x)=>if D:F'=F then (if ax (F.aid (g a)) L then Z (D▸x,0) else U) else U
  |_=>U
 |.qf=>Z ((),0)
def GV (g:Nat->Nat) (h:aX):Nat->(bs:Y PB)->M ((PB.tyL bs).den×Nat)
 |_,[]=>Z ((),0)
 |i,b::r=>match Fk g h i b with
  |some (x,m)=>(match GV g h (i+1) r with|some (y,m')=>Z (mkp b.ty (PB.tyL r) x y,m|||m')|none=>U)
  |none=>U
mutual
def nS (g:Nat->Nat):(p:PV)->p.ty.den->M (Y TV)
 |.d T,x=>cellsOf 40 T x
 |.P i o,_=>Z [.P (g i) o]
 |.I i,_=>Z [.I (g i)]
 |.qg i s n,_=>Z [.qg (g i) s n]
 |.mp i,_=>Z [.mp (g i)]
 |.qy q ps,_=>Z [.qy q (ps.map λp=>.P (g p.1) p.2)]
 |.ob i o,j=>Z [.sb (.ob (g i) j o)]
 |.nr i s,x=>Z [.sb (.nr (g i) x.1 s (aN x.2))]
 |.nil,_=>Z [.nil]
 |.emp,_=>Z [.emp]
 |.agg ps,x=>sO g ps x
def sO (g:Nat->Nat):(ps:Y PV)->(PV.tyL ps).den->M (Y TV)
 |[],_=>Z []
 |p::r,x=>match nS g p (UF p.ty (PV.tyL r) x) with
  |some a=>(match sO g r (Sm p.ty (PV.tyL r) x) with|some b=>Z (a++b)|none=>U)
  |none=>U
end
def rE (g:Nat->Nat):(p:PV)->p.ty.den->M TV
 |.d T,x=>Z (.f T x)
 |.P i o,_=>Z (.P (g i) o)
 |.I i,_=>Z (.I (g i))
 |.qg i s n,_=>Z (.qg (g i) s n)
 |.mp i,_=>Z (.mp (g i))
 |.qy q z,_=>Z (.qy q (z.map λp=>.P (g p.1) p.2))
 |.ob i o,j=>Z (.sb (.ob (g i) j o))
 |.nr i s,x=>Z (.sb (.nr (g i) x.1 s (aN x.2)))
 |.nil,_=>Z .nil
 |.emp,_=>Z .emp
 |.agg z,x=>match sO g z x with|some l=>Z (.agg l)|none=>U
def rD (g:Nat->Nat):(z:Y PV)->(PV.tyL z).den->M (Y TV)
 |[],_=>Z []
 |p::r,x=>match rE g p (UF p.ty (PV.tyL r) x) with
  |some a=>(match rD g r (Sm p.ty (PV.tyL r) x) with|some b=>Z (a::b)|none=>U)
  |none=>U
def DB (g:Nat->Nat):(b:PB)->b.ty.den->M (M e9)
 |.H ty p T,x=>Z (Z (.H ty p T x))
 |.qp ty T,x=>Z (Z (.H ty x.1 T x.2))
 |.G ty z,x=>match sO g z x with|some l=>Z (Z (.G ty l))|none=>U
 |.mp K V,x=>Z (Z (.mp K V x))
 |.Q F a,x=>Z (Z (.Q F (F.aid (g a)) x))
 |.qf,_=>Z U
def u_:e9->e9
 |.H _ p T xs=>.qj p T.size (l! xs)
 |.G _ _|.mp _ _ _=>.qj J 0 0
 |.Q F _ x|.qd F _ x _ _=>(match sk F x with|some (p,s,n)=>.qj p s n|none=>.qj J 0 0)
 |.qj p sz n=>.qj p sz n
def kill (h:aX) (i:Nat):aX:=match h.get i with
 |some b=>h.set i (Z (u_ b))
 |none=>h
def qT (g:Nat->Nat):(bs:Y PB)->(PB.tyL bs).den->M (Y (M e9))
 |[],_=>Z []
 |b::r,x=>match DB g b (UF b.ty (PB.tyL r) x) with
  |some c=>(match qT g r (Sm b.ty (PB.tyL r) x) with|some l=>Z (c::l)|none=>U)
  |none=>U
def DK (g:Nat->Nat):Nat->Y (M e9)->aX->aX
 |_,[],h=>h
 |i,Z c::r,h=>DK g (i+1) r (h.set (g i) (Z c))
 |i,U::r,h=>DK g (i+1) r (kill h (g i))
def Q5 (g:Nat->Nat) (bs:Y PB) (x:(PB.tyL bs).den) (h:aX):M aX:=match qT g bs x with
 |some l=>Z (DK g 0 l h)
 |none=>U
variable {K:Ty}
def JB {V:Ty} (k:K.den):Y (K.den×V.den)->M V.den
 |[]=>U
 |(z,v)::r=>if UG K k z then Z v else JB k r
def AB {V:Ty} (k:K.den) (v:V.den):Y (K.den×V.den)->Y (K.den×V.den)
 |[]=>[(k,v)]
 |(z,A)::r=>if UG K k z then (k,v)::r else (z,A)::AB k v r
def aed {V:Ty} (k:K.den) (es:Y (K.den×V.den)):Bool:=match JB k es with|some _=>J|none=>af
def Bt {V:Ty} (k:K.den) (es:Y (K.den×V.den)) (z:V.den):V.den:=match JB k es with|some v=>v|none=>z
def awi (T:Ty):Nat->Ty
 |0=>.un
 |1=>T
 |n+2=>.pr T (awi T (n+1))
def kwT:Ty:=.st (awi .str 22)
def kwV:kwT.den:=([118,97,114],[118,111,108,97,116,105,108,101],[109,117,116,101,120],[114,119,108,111,99,107],[99,111,110,100],[102,117,116,117,114,101],[116,104,114,101,97,100],[105,102],[101,108,115,101],[119,104,105,108,101],[108,111,99,107],[114,101,97,100],[119,114,105,116,101],[116,114,97,110,115,97,99,116,105,111,110],[97,116,111,109,105,99],[119,97,105,116],[110,111,116,105,102,121],[110,111,116,105,102,121,97,108,108],[115,112,97,119,110],[106,111,105,110],[115,101,116],[103,101,116])
structure co where
 pre:Tm
 post:Tm
 m:pre.ty.den->Option post.ty.den
def aab:Y q!->Y TV->PT Nat->PT Nat
 |(i,_)::r,.P a _::vs,σ=>aab r vs (σ.set i (Z a))
 |_::r,_::vs,σ=>aab r vs σ
 |_,_,σ=>σ
mutual
def arm:PV->Y TV->PT Nat->PT Nat×Y TV
 |.d T,l,σ=>(σ,l.drop T.size)
 |.P i _,l,σ=>match l with|.P a _::r=>(σ.set i (Z a),r)|l=>(σ,l.drop 1)
 |.I i,l,σ=>match l with|.I a::r=>(σ.set i (Z a),r)|l=>(σ,l.drop 1)
 |.qg i _ _,l,σ=>match l with|.qg a _ _::r=>(σ.set i (Z a),r)|l=>(σ,l.drop 1)
 |.mp i,l,σ=>match l with|.mp a::r=>(σ.set i (Z a),r)|l=>(σ,l.drop 1)
 |.qy _ ps,l,σ=>match l with|.qy _ vs::r=>(aab ps vs σ,r)|l=>(σ,l.drop 1)
 |.ob i _,l,σ=>match l with|.sb (.ob a _ _)::r=>(σ.set i (Z a),r)|l=>(σ,l.drop 1)
 |.nr i _,l,σ=>match l with|.sb (.nr a _ _ _)::r=>(σ.set i (Z a),r)|l=>(σ,l.drop 1)
 |.nil,l,σ|.emp,l,σ=>(σ,l.drop 1)
 |.agg ps,l,σ=>aac ps l σ
def aac:Y PV->Y TV->PT Nat->PT Nat×Y TV
 |[],l,σ=>(σ,l)
 |p::r,l,σ=>match arm p l σ with|(σ',l')=>aac r l' σ'
end
def axc (p:PV) (v:TV) (σ:PT Nat):PT Nat:=match p with
 |.d _=>σ
 |p=>match v.cs with|some l=>(arm p l σ).1|none=>σ
def al2:Y PV->Y TV->PT Nat->PT Nat
 |p::r,v::vs,σ=>al2 r vs (axc p v σ)
 |_,_,σ=>σ
def aad (h:aX):Nat->Y PB->PT Nat->PT Nat
 |_,[],σ=>σ
 |i,b::r,σ=>aad h (i+1) r (match b with
  |.G _ z=>(match σ.get i with
   |some a=>(match h.get a with|some (.G _ l)=>(aac z l σ).1|_=>σ)
   |none=>σ)
  |.Q F j=>(match σ.get i with
   |some a=>(match h.get a with|some (.Q _ b _)=>(if ax (F.aid 1) 0 then σ else σ.set j (Z b))|_=>σ)
   |none=>σ)
  |_=>σ)
def iw (σ:PT Nat) (i:Nat):Nat:=match σ.get i with|some a=>a|none=>0
def ahj (σ:PT Nat):Nat->Nat->Nat->M Nat
 |0,_,acc=>Z acc
 |n+1,i,acc=>match σ.get i with
  |some a=>if aK acc a then U else ahj σ n (i+1) (acc|||gG a)
  |none=>U
def idn:Nat->PT Nat
 |0=>.leaf
 |n+1=>(idn n).set n (Z n)
def acj (σ:PT Nat):Nat->Bool
 |0=>J
 |n+1=>(match σ.get n with|some a=>ax a n|none=>af)&&acj σ n
structure ay3 (t:Tm) where
 x:t.ty.den
 m:Nat
 σ:PT Nat
 sm:Nat
def E_ (np:Nat) (t:Tm) (vs:Y TV) (h:aX):M (ay3 t):=
 Wn (aad h 0 t.bs (aad h 0 t.bs (al2 t.vs vs (idn np)))) λσ=>
 match ahj σ (l! t.bs) 0 0 with
 |some sm=>(match Cv (iw σ) h t.vs vs with
  |some (x,m)=>(match GV (iw σ) h 0 t.bs with
   |some (y,m')=>if Ks (m|||m') sm&&acj σ np then Z ⟨mkp _ _ x y,m|||m',σ,sm⟩ else U
   |none=>U)
  |none=>U)
 |none=>U
def PT.updI (f:Nat->R->R):Nat->Nat->PT R->PT R
 |_,_,.leaf=>.leaf
 |a,b,.node v l r=>.node (match v with|some x=>Z (f b x)|none=>U) (PT.updI f (2*a) (a+b) l) (PT.updI f (2*a) (2*a+b) r)
def dK (m:Nat) (h:aX):aX:=if ax m 0 then h else PT.updI (λi b=>if aK m i then u_ b else b) 1 0 h
def Y4:Operand->Bool
 |.const (.agg _)=>J
 |_=>af
def dB (e:h_):Operand->M TV
 |.tmp t=>e.get t
 |.const v=>ati v
 |.func g=>Z (.qy g [])
 |.global g=>match G g with|some _=>Z (.zf kwT [kwV] 0 (Eq.refl J) 0)|none=>U
def Ms (e:h_):Y Operand->M (Y TV)
 |[]=>Z []
 |x::xs=>match dB e x with|some y=>(match Ms e xs with|some z=>Z (y::z)|none=>U)|none=>U
def Nv (cells:Y TV) (e:h_):Y n?->M (Y TV)
 |[]=>Z cells
 |(off,sz,x)::r=>match dB e x with
  |some v=>(match v.cs with
   |some cs=>if (l! cs)==sz&&dN (off+sz) (l! cells) then Nv (splice cells off cs) e r else U
   |none=>U)
  |none=>U
def Yw (l:Y TV) (off sz:Nat):Bool->M TV
 |false=>if ax sz 1 then l[off]? else U
 |true=>if dN (off+sz) (l! l) then Z (.agg ((l.drop off).take sz)) else U
def eM (h:aX) (id:Nat):M (Bool×q!):=match h.get id with
 |some (.H _ p T xs)=>Z (p,T.size,l! xs)
 |some (.qj p sz n)=>Z (p,sz,n)
 |some (.Q F _ x)|some (.qd F _ x _ _)=>sk F x
 |_=>U
def lenOf (h:aX):TV->M Nat
 |.f (.sl _) xs=>Z (aj xs)
 |.emp|.nil=>Z 0
 |.I id=>match eM h id with|some (_,_,n)=>Z n|none=>U
 |.qg _ _ n|.sb (.nr _ _ _ n)=>Z n
 |_=>U
mutual
def PI (h:aX):TV->Bool
 |.I id|.zh id _=>(eM h id).isSome
 |.qc _ _=>J
 |.sb _=>J
 |.agg l|.qb l|.qy _ l=>lY h l
 |.f _ _=>J
 |.zf _ _ _ _ _=>J
 |.zj _ _ _ _=>J
 |.P _ _=>J
 |.qg _ _ _=>J
 |.emp=>J
 |.nil=>J
 |.mp _=>J
 |.undef=>J
 |.np=>J
 |.qw=>J
def lY (h:aX):Y TV->Bool
 |[]=>J
 |x::r=>PI h x&&lY h r
end
mutual
def JD (n:Nat):TV->Bool
 |.I id|.zh id _=>ey id n
 |.qc _ _=>J
 |.sb s=>ey s.id n
 |.zj id _ _ _|.P id _|.qg id _ _|.mp id=>ey id n
 |.agg l|.qb l|.qy _ l=>ry n l
 |.f _ _=>J
 |.zf _ _ _ _ _=>J
 |.emp=>J
 |.nil=>J
 |.undef=>J
 |.np=>J
 |.qw=>J
def ry (n:Nat):Y TV->Bool
 |[]=>J
 |x::r=>JD n x&&ry n r
end
def D' (t:Tm) (x:t.ty.den):M (Y TV×aX):=
 match rD (λi=>i) t.vs (UF _ _ x) with
 |some vs=>(match Q5 (λi=>i) t.bs (Sm _ _ x) PT.leaf with
  |some h=>if lY h vs&&ry (l! t.bs) vs&&PT.all (λ_ b=>match b with|.G _ l=>lY h l&&ry (l! t.bs) l|.Q _ a _=>ey a (l! t.bs)|.qd _ _ _ _ _=>af|_=>J) 1 0 h then Z (vs,h) else U
  |none=>U)
 |none=>U
abbrev KO (R:Type):=TV->Nat->Nat->aX->Nat->M R
def Vd:Y TV->TV
 |[x]=>x
 |l=>.qb l
def E3:Y PB->Bool
 |[]=>J
 |.qf::_=>af
 |_::r=>E3 r
def L1:Y PB->Bool
 |[]=>J
 |.H _ _ _::r=>L1 r
 |_::_=>af
def vS (h z:aX) (g:Nat->Nat):Nat->Bool
 |0=>J
 |n+1=>(match eM h (g n) with
  |some (p,s,k)=>(match eM z (g n) with|some (A,s',D)=>(p==A)&&ax s s'&&ax k D|none=>af)
  |none=>J)&&vS h z g n
def an1 (f:FuncId):Y TV->FuncId
 |[]=>f
 |.qy g _::_=>f+65536*(g+1)
 |.sb (.nr _ _ _ _)::r=>f+65536*(60000+l! r)
 |_::r=>an1 f r
def atk (con:FuncId->M co) (f:FuncId) (l:Y TV):M co:=match ey f 65536 with
 |true=>(match con (an1 f l) with|some c=>Z c|none=>con f)
 |false=>U
def ad4 (con:FuncId->M co) (f:FuncId) (l:Y TV) (h:aX) (nx:Nat) (K:KO R):M R:=
 match atk con f l with
 |some c=>(match E_ 0 c.pre l h with
  |some ⟨x,m,σ,sm⟩=>(match D' c.pre x with
   |some _=>aA (c.m x) λy=>(match D' c.post y with
    |some _=>if dN (l! c.pre.bs) (l! c.post.bs)&&E3 c.pre.bs then
      let np:=l! c.pre.bs
      let D:=l! c.post.bs-np
      let g:=λi=>if ey i np then iw σ i else nx+(i-np)
      (match rD g c.post.vs (UF _ _ y) with
      |some z=>if !(ax m 0)&&ax (l! c.post.bs) 0&&(PV.tyL c.post.vs).flat then K (Vd z) m 0 h nx else
       (match Q5 g c.post.bs (Sm _ _ y) (dK m h) with
       |some A=>chk (vS h A g np) λ_=>K (Vd z) (sm|||m) (sm|||m|||(((1<<<D)-1)<<<nx)) A (nx+D)
       |none=>U)
      |none=>U) else if ax (l! c.post.bs) 0&&L1 c.pre.bs then
      let np:=l! c.pre.bs
      let g:=λi=>if ey i np then iw σ i else nx+(i-np)
      (match rD g c.post.vs (UF _ _ y) with
      |some z=>(match Q5 g c.pre.bs (Sm _ _ x) (dK m h) with
       |some A=>K (Vd z) (sm|||m) m A nx
       |none=>U)
      |none=>U) else U
    |none=>U)
   |none=>U)
  |none=>U)
 |none=>U
def atr (op:BinOp) (x y:TV) (q:TV->M R):M R:=
 match x,y with
 |.f (.int k) a,.f (.int z) b=>if k==z then
   (match op with
   |.add=>q (.f (.int k) (bm k (a+b)))
   |.sub=>q (.f (.int k) (bm k (a-b)))
   |.mul=>q (.f (.int k) (bm k (a*b)))
   |.rem=>chk (!decide ((b:Int)=0)) λ_=>q (.f (.int k) (Db a b))
   |.quo=>chk (!decide ((b:Int)=0)) λ_=>q (.f (.int k) (bm k (Int.tdiv a b)))
   |.eql=>q (.f .bool (decide ((a:Int)=b)))
   |.neq=>q (.f .bool (!decide ((a:Int)=b)))
   |.lss=>q (.f .bool (gD a b))
   |.leq=>q (.f .bool (db a b))
   |.gtr=>q (.f .bool (gD b a))
   |.geq=>q (.f .bool (db b a))
   |_=>U)
  else U
 |.f .str a,.f .str b=>match op with
   |.eql=>q (.f .bool (decide ((a:ζ)=b)))
   |.neq=>q (.f .bool (!decide ((a:ζ)=b)))
   |_=>U
 |_,_=>U
def aee:Bool->Ty->Bool
 |false,.int _=>J
 |true,.str=>J
 |_,_=>af
abbrev itK:Ty:=.st (.pr .str (.int .i64))
def isIt:Ty->Bool
 |.st (.pr .str (.int .i64))=>J
 |_=>af
def YV (K:Ty):Bool:= !isIt K
def Pp:Y ((ζ×Int)×Unit)->ζ
 |[]=>[]
 |e::_=>e.1.1
def MV:Y ((ζ×Int)×Unit)->Nat
 |[]=>0
 |e::_=>aN e.1.2
def rnP (s:ζ) (p:Nat):Int:=rnA (List.getD s p 0) ⟨jU s⟩ p
def wdP (s:ζ) (p:Nat):Nat:=wdA (List.getD s p 0) ⟨jU s⟩ p
def itE:(K V:Ty)->Y (K.den×V.den)->M (ζ×Nat)
 |.st (.pr .str (.int .i64)),.un,es=>Z (Pp es,MV es)
 |_,_,_=>U
def mpE:(K V:Ty)->Y (K.den×V.den)->Bool
 |.un,.un,[]=>J
 |_,_,_=>af
def zX (T:Ty):Y TV->M (Y T.den)
 |[]=>Z []
 |.f S v::r=>match wO (S:=S) T v with
  |some x=>(match zX T r with|some l=>Z (x::l)|none=>U)
  |none=>U
 |_::_=>U
def al5:Y TV->M ((T:Ty)×Y T.den)
 |.f T v::r=>match zX T (.f T v::r) with|some l=>Z ⟨T,l⟩|none=>U
 |_=>U
def awx (n sz:Nat) (v:TV):Bool->M ((T:Ty)×Y T.den)
 |true=>U
 |false=>if ax sz 1&& !v.isC then (match v.cs with|some l=>if ax (l! l) n then al5 l else U|none=>U) else U
def arrB (n sz off:Nat):M e9->M ((T:Ty)×Y T.den)
 |some (.G (Z _) l)=>if ax sz 1&&ax off 0&&ax (l! l) n then al5 l else U
 |_=>U
def ard:Ty->Nat
 |.pr .un t=>ard t+1
 |_=>0
def Ht:M Ty->M Nat
 |some (.pr .un t)=>Z (ard t)
 |_=>U
def ari (ty:TypeId) (sz bytes:Nat) (b y:TV) (h:aX) (nx:Nat) (K:KO R):M R:=match y with
 |.qg id2 sz2 m=>(match h.get id2 with
  |some (.G (Z _) z)=>if ax sz2 sz&&ax (l! z) (m*sz)&& !(ax m 0) then (match b with
   |.qg id sz1 n=>(match h.get id with
    |some (.G (Z ty1) l)=>if ax sz1 sz&&ty1==ty&&ax (l! l) (n*sz)&& !(ax id id2) then
      chk (bc (n+m) bytes) λ_=>K (.qg nx sz (n+m)) (gG id|||gG id2) (gG id|||gG nx) ((h.set id (Z (.qj J 0 0))).set nx (Z (.G (Z ty) (l++z)))) (nx+1) else U
    |_=>U)
   |.nil=>chk (bc m bytes) λ_=>K (.qg nx sz m) (gG id2) (0|||gG nx) ((dK 0 h).set nx (Z (.G (Z ty) z))) (nx+1)
   |_=>U) else U
  |_=>U)
 |_=>U
def apf (ty:TypeId) (sz bytes:Nat) (T:Ty) (b:TV) (z:Y T.den) (m:Nat) (h:aX) (nx:Nat) (K:KO R):M R:=match b with
 |.I id=>(match h.get id with
  |some (.H ty' p S xs)=>(match wO (S:=.sl S) (.sl T) xs with
   |some xs=>if ty'==ty&& !(aK m id) then
     chk (bc (aj xs+aj z) bytes) λ_=>K (.I nx) (gG id|||m) (gG id|||gG nx) ((h.set id (Z (.qj p sz (aj xs)))).set nx (Z (.H ty p T (xs++z)))) (nx+1)
    else U
   |none=>U)
  |_=>U)
 |.qc S xs=>if ax m 0 then (match wO (S:=.sl S) (.sl T) xs with
  |some xs=>chk (bc (aj xs+aj z) bytes) λ_=>aI (ax (aj z) 0) (K (.f (.sl T) xs) 0 0 h nx) (K (.I nx) 0 (0|||gG nx) ((dK 0 h).set nx (Z (.H ty af T (xs++z)))) (nx+1))
  |none=>U) else U
 |.emp|.nil=>chk (bc (aj z) bytes) λ_=>K (.I nx) m (gG nx) (h.set nx (Z (.H ty J T z))) (nx+1)
 |_=>U
def pkT (ok:Bool) (v b:TV):TV:=match ok with|true=>.qb [v,b]|false=>v
def eK (con:FuncId->M co) (bY:TypeId->M Ty) (o:SI) (e:h_) (h:aX) (nx:Nat) (K:KO R):M R:=
 match o with
 |.call f args=>match Ms e args with|some l=>ad4 con f l h nx K|none=>U
 |.xq x args=>match dB e x,Ms e args with
  |some (.qy f cap),Z l=>ad4 con f (l++cap) h nx K
  |_,_=>U
 |.op s=>match s with
  |.zm ty sz bytes z l c=>match Ht (bY ty) with
   |some n=>(match Ou z,dB e l,dB e c with
    |some L,Z (.f (.int _) a),Z (.f (.int _) b)=>chk (db 0 a&&db a b&&bc (aN b) bytes&&decide ((a:Int)=aQ n)) λ_=>K (.qg nx sz n) 0 (0|||gG nx) ((dK 0 h).set nx (Z (.G (Z ty) (aC n L).flatten))) (nx+1)
    |_,_,_=>U)
   |none=>match bY ty,dB e l,dB e c with
   |some T,Z (.f (.int _) a),Z (.f (.int _) b)=>if ax sz T.size&&XT z (uY T) then
     chk (db 0 a&&db a b&&bc (aN b) bytes) λ_=>K (.I nx) 0 (gG nx) (h.set nx (Z (.H ty af T (aC (aN a) T.zero)))) (nx+1) else U
   |_,_,_=>U
  |.xx ty sz len z parts=>match Ht (bY ty) with
   |some _=>(match Ou z with
    |some L=>(match Nv ((aC len L).flatten) e parts with
     |some cs=>if ax len 0 then U else K (.qg nx sz len) 0 (0|||gG nx) ((dK 0 h).set nx (Z (.G (Z ty) cs))) (nx+1)
     |none=>U)
    |none=>U)
   |none=>match bY ty,Ou z with
   |some T,Z L=>if ax sz T.size then (match Nv ((aC len L).flatten) e parts with
    |some cs=>(match D9 h T len cs with
     |some (xs,m)=>K (.I nx) m (m|||gG nx) ((dK m h).set nx (Z (.H ty (ax len 0) T xs))) (nx+1)
     |none=>U)
    |none=>U) else U
   |_,_=>U
  |.app ty sz bytes s x=>match Ht (bY ty) with
   |some _=>(match dB e s,dB e x with
    |some b,Z y=>ari ty sz bytes b y h nx K
    |_,_=>U)
   |none=>match bY ty,dB e s,dB e x with
   |some T,Z b,Z y=>if ax sz T.size then (match FA h (.sl T) y with
    |some (ys,m)=>apf ty sz bytes T b ys m h nx K
    |none=>U) else U
   |_,_,_=>U
  |.copy sz d x=>match dB e d,dB e x with
   |some (.I id),Z y=>(match h.get id with
    |some (.H ty p T xs)=>if ax sz T.size then (match FA h (.sl T) y with
     |some (ys,m)=>if !(aK m id)&& !p then
       K (.f (.int .i64) (aQ (l8 (aj ys) (aj xs)))) (gG id|||m) (gG id) (h.set id (Z (.H ty p T (T8 xs ys)))) nx else U
     |none=>U) else U
    |_=>U)
   |_,_=>U
  |.clr sz z x=>match dB e x with
   |some (.zh id j)=>(match h.get id with
    |some (.H ty p T xs)=>if (ax sz T.size&&XT z (uY T))&&oq z then
      chk (db 0 j&&gD j (aj xs)) λ_=>K (.qb []) (gG id) (0|||gG id) ((dK 0 h).set id (Z (.H ty p T (dP (aN j) xs++aC (aj xs-aN j) T.zero)))) nx
     else U
    |_=>U)
   |_=>U
  |.mv x=>match dB e x with|some v=>K v 0 0 h nx|none=>U
  |.pick c a b=>match dB e c with
   |some (.f .bool t)=>aI t (match dB e a with|some v=>K v 0 0 h nx|none=>U) (match dB e b with|some v=>K v 0 0 h nx|none=>U)
   |_=>U
  |.alloc ty z=>match Ou z with
   |some l=>K (.P nx 0) 0 (gG nx) (h.set nx (Z (.G (Z ty) l))) (nx+1)
   |none=>U
  |.box ty x=>match dB e x with
   |some v=>(match v.cs with|some l=>K (.P nx 0) 0 (gG nx) (h.set nx (Z (.G (Z ty) l))) (nx+1)|none=>U)
   |none=>U
  |.build z parts=>match Ou z with
   |some l=>(match Nv l e parts with|some cs=>K (.agg cs) 0 0 h nx|none=>U)
   |none=>U
  |.load sz D x=>match dB e x with
   |some (.P id off)=>(match h.get id with
    |some (.G (Z _) l)=>(match Yw l off sz D with|some v=>K v (gG id) 0 h nx|none=>U)
    |_=>U)
   |some (.zj id sz' j off)=>(match h.get id with
    |some (.H _ _ T xs)=>if ax sz' T.size then chk (dL j (l! xs)) λ_=>(match og 40 T (geti _ xs j) off sz D with|some v=>K v (gG id) 0 h nx|none=>U) else U
    |some (.G (Z _) l)=>(match D with
     |true=>U
     |false=>if ax sz 1&&ax sz' 1&&ax off 0 then (match al5 l with
      |some ⟨T,xs⟩=>chk (dL j (l! l)) λ_=>K (.f T (geti _ xs j)) (gG id) 0 h nx
      |none=>U) else U)
    |_=>U)
   |some (.zf T xs j _ off)=>(match og 40 T (geti _ xs j) off sz D with|some v=>K v 0 0 h nx|none=>U)
   |_=>U
  |.store sz x v=>match dB e x,dB e v with
   |some (.P id off),Z y=>(match h.get id with
    |some (.G (Z ty) l)=>(match y.cs with
     |some cs=>if (l! cs)==sz&&dN (off+sz) (l! l) then K .undef (gG id) (gG id) (h.set id (Z (.G (Z ty) (splice l off cs)))) nx else U
     |none=>U)
    |_=>U)
   |some (.zj id sz' j off),Z y=>(match h.get id with
    |some (.H ty p T xs)=>if ax sz' T.size then chk (dL j (l! xs)) λ_=>(match gU h y 40 T (geti _ xs j) off sz with
     |some (z,m)=>if aK m id then U else K .undef (m|||gG id) (m|||gG id) ((dK m h).set id (Z (.H ty p T (cg xs j z)))) nx
     |none=>U) else U
    |some (.G (Z ty) l)=>if ax sz 1&&(ax sz' 1&&ax off 0) then chk (dL j (l! l)) λ_=>(match y.cs with
     |some cs=>if ax (l! cs) 1 then K .undef (gG id) (gG id) (h.set id (Z (.G (Z ty) (splice l j.toNat cs)))) nx else U
     |none=>U) else U
    |_=>U)
   |_,_=>U
  |.zl x=>match dB e x with
   |some (.P id off)=>K (.P id off) 0 0 h nx
   |some (.zj id sz j off)=>K (.zj id sz j off) 0 0 h nx
   |some (.zf T xs j hj off)=>K (.zf T xs j hj off) 0 0 h nx
   |some (.qy g cap)=>K (.qy g cap) 0 0 h nx
   |_=>U
  |.bin op x y=>match dB e x,dB e y with
   |some u,Z v=>atr op u v λr=>K r 0 0 h nx
   |_,_=>U
  |.jh neg ds x y=>match sT ds,dB e x,dB e y with
   |some T,Z u,Z v=>if u.isC||v.isC||Y4 x||Y4 y then U else (match u.cs,v.cs with
    |some lu,Z lv=>(match fM PT.leaf 40 T lu,fM PT.leaf 40 T lv with
     |some (a,_,[]),Z (b,_,[])=>K (.f .bool (UG T a b !=neg)) 0 0 h nx
     |_,_=>U)
    |_,_=>U)
   |_,_,_=>U
  |.zd neg x=>match dB e x with
   |some .nil=>K (.f .bool (!neg)) 0 0 h nx
   |some .emp=>K .qw 0 0 h nx
   |some (.f (.sl _) xs)=>aI (ax (aj xs) 0) (K .qw 0 0 h nx) (K (.f .bool neg) 0 0 h nx)
   |some (.I id)=>(match h.get id with
    |some (.H _ af _ _)=>K (.f .bool neg) 0 0 h nx
    |_=>U)
   |_=>U
  |.xj neg x y=>match dB e x,dB e y with
   |some (.f .bool a),Z (.f .bool b)=>K (.f .bool ((a==b) !=neg)) 0 0 h nx
   |_,_=>U
  |.not x=>match dB e x with|some (.f .bool b)=>K (.f .bool (!b)) 0 0 h nx|_=>U
  |.conv k x=>match dB e x with|some (.f (.int _) n)=>K (.f (.int k) (bm k n)) 0 0 h nx|_=>U
  |.slc sz x lo hi mx=>match dB e x with
   |some v=>(match lo,hi,mx with
    |none,Z (.const (.int _ 0)),Z (.const (.int _ 0))=>if (lenOf h v).isSome then K .emp 0 0 h nx else U
    |none,Z b,U=>(match v,dB e b with
     |.f (.sl T) xs,Z (.f (.int _) j)=>if ax sz T.size then chk (db 0 j&&db j (aj xs)) λ_=>K (.f (.sl T) (dP (aN j) xs)) 0 0 h nx else U
     |.I id,Z (.f (.int _) j)=>(match h.get id with
      |some (.H ty p T xs)=>if ax sz T.size then
        chk (db 0 j&&gD j (aj xs)) λ_=>K (.I nx) (gG id) (gG id|||gG nx) ((h.set id (Z (.qj p sz (aj xs)))).set nx (Z (.H ty af T (dP (aN j) xs)))) (nx+1)
       else U
      |_=>U)
     |_,_=>U)
    |some b,U,U=>(match v,dB e b with
     |.f (.sl T) xs,Z (.f (.int _) j)=>if ax sz T.size then chk (db 0 j&&db j (aj xs)) λ_=>K (.f (.sl T) (List.drop (aN j) xs)) 0 0 h nx else U
     |.I id,Z (.f (.int _) j)=>(match h.get id with
      |some (.H _ _ T xs)=>if ax sz T.size then chk (db 0 j&&gD j (aj xs)) λ_=>K (.zh id j) 0 0 h nx else U
      |_=>U)
     |_,_=>U)
    |none,Z b,Z b'=>(match v,dB e b,dB e b' with
     |.f (.sl T) xs,Z (.f (.int _) j),Z (.f (.int _) j')=>if ax sz T.size then chk ((decide (j=j')&&db 0 j)&&db j (aj xs)) λ_=>K (.qc T (dP (aN j) xs)) 0 0 h nx else U
     |_,_,_=>U)
    |_,_,_=>U)
   |none=>U
  |.jb off x=>match dB e x with
   |some (.P id o)=>K (.P id (o+off)) 0 0 h nx
   |some (.zj id sz j o)=>K (.zj id sz j (o+off)) 0 0 h nx
   |some (.zf T xs j hj o)=>K (.zf T xs j hj (o+off)) 0 0 h nx
   |_=>U
  |.fld off sz D x=>match dB e x with
   |some (.agg l)=>(match Yw l off sz D with|some v=>K v 0 0 h nx|none=>U)
   |some (.f T v)=>if T.one then U else (match og 40 T v off sz D with|some v=>K v 0 0 h nx|none=>U)
   |_=>U
  |.jf sz x i=>match dB e x,dB e i with
   |some (.I id),Z (.f (.int _) j)=>(match h.get id with
    |some (.H _ _ T xs)=>if ax sz T.size then chk (dL j (l! xs)) λ_=>K (.zj id sz j 0) 0 0 h nx else U
    |_=>U)
   |some (.f (.sl T) xs),Z (.f (.int _) j)=>if ax sz T.size then chk (dL j (aj xs)) λhj=>K (.zf T xs j hj 0) 0 0 h nx else U
   |some (.qg id sz' n),Z (.f (.int _) j)=>if ax sz' sz then chk (db 0 j&&gD j n) λ_=>K (.P id (aN j*sz)) 0 0 h nx else U
   |_,_=>U
  |.jv n sz x i=>match dB e x,dB e i with
   |some (.P id off),Z (.f (.int _) j)=>(match arrB n sz off (h.get id) with
    |some _=>chk (db 0 j&&gD j n) λ_=>K (.zj id sz j off) 0 0 h nx
    |none=>chk (db 0 j&&gD j n) λ_=>K (.P id (off+aN j*sz)) 0 0 h nx)
   |_,_=>U
  |.idx n sz D x i=>match dB e x,dB e i with
   |some v,Z (.f (.int _) j)=>(match awx n sz v D with
    |some ⟨T,xs⟩=>chk (db 0 j&&gD j n) λ_=>K (.f T (geti _ xs j)) 0 0 h nx
    |none=>(match v with
     |.agg l=>chk (db 0 j&&gD j n) λ_=>(match Yw l (aN j*sz) sz D with|some v=>K v 0 0 h nx|none=>U)
     |.f T v=>if T.one then U else chk (db 0 j&&gD j n) λ_=>(match og 40 T v (aN j*sz) sz D with|some v=>K v 0 0 h nx|none=>U)
     |_=>U))
   |_,_=>U
  |.ext x i=>match dB e x with|some (.qb l)=>(match l[i]? with|some v=>K v 0 0 h nx|none=>U)|_=>U
  |.len x=>match dB e x with
   |some v=>(match lenOf h v with|some n=>K (.f (.int .i64) (aQ n)) 0 0 h nx|none=>U)
   |none=>U
  |.lens x=>match dB e x with
   |some (.f .str s)=>K (.f (.int .i64) (aQ (aj s))) 0 0 h nx
   |_=>U
  |.max x y=>match dB e x,dB e y with
   |some (.f (.int k) a),Z (.f (.int k') b)=>if k==k' then K (.f (.int k) (jR a b)) 0 0 h nx else U
   |_,_=>U
  |.min x y=>match dB e x,dB e y with
   |some (.f (.int k) a),Z (.f (.int k') b)=>if k==k' then K (.f (.int k) (KQ a b)) 0 0 h nx else U
   |_,_=>U
  |.jx x i=>match dB e x,dB e i with
   |some (.f .str s),Z (.f (.int _) j)=>chk (dL j (aj s)) λ_=>K (.f (.int .u8) (an0 s j)) 0 0 h nx
   |_,_=>U
  |.rng x=>match dB e x with
   |some (.f .str s)=>K (.P nx 0) 0 (0|||gG nx) ((dK 0 h).set nx (Z (.mp itK .un [((s,0),())]))) (nx+1)
   |_=>U
  |.nxt x=>match dB e x with
   |some (.P id 0)=>(match h.get id with
    |some (.mp K' V es)=>(match itE K' V es with
     |some (s,p)=>aI (ey p (aj s)) (K (.qb [.f .bool J,.f (.int .i64) (aQ p),.f (.int .i32) (rnP s p)]) (gG id) (0|||gG id) ((dK 0 h).set id (Z (.mp itK .un [((s,aQ (p+wdP s p)),())]))) nx)
       (K (.qb [.f .bool af]) (gG id) (0|||gG id) ((dK 0 h).set id (Z (.mp itK .un [((s,aQ p),())]))) nx)
     |none=>U)
    |_=>U)
   |_=>U
  |.mkm=>K (.mp nx) 0 (0|||gG nx) ((dK 0 h).set nx (Z (.mp .un .un []))) (nx+1)
  |.jg str ok z x k=>match dB e x,dB e k with
   |some (.mp id),Z (.f KT kv)=>(match h.get id with
    |some (.mp K' V es)=>if aee str KT&&YV K' then (match mpE K' V es with
     |true=>(match cst z with|some v=>K (pkT ok v (.f .bool af)) (gG id) 0 h nx|none=>U)
     |false=>(match wO (S:=KT) K' kv,cst z with
      |some kv',Z (.f A zv)=>(match wO (S:=A) V zv with
       |some zv'=>K (pkT ok (.f V (Bt kv' es zv')) (.f .bool (aed kv' es))) (gG id) 0 h nx
       |none=>U)
      |_,_=>U)) else U
    |_=>U)
   |_,_=>U
  |.jk str x k v=>match dB e x,dB e k,dB e v with
   |some (.mp id),Z (.f KT kv),Z (.f VT vv)=>(match h.get id with
    |some (.mp K' V es)=>if (aee str KT&&VT.one)&&YV K' then (match mpE K' V es with
     |true=>K .undef (gG id) (0|||gG id) ((dK 0 h).set id (Z (.mp KT VT [(kv,vv)]))) nx
     |false=>(match wO (S:=KT) K' kv,wO (S:=VT) V vv with
      |some kv',Z vv'=>K .undef (gG id) (0|||gG id) ((dK 0 h).set id (Z (.mp K' V (AB kv' vv' es)))) nx
      |_,_=>U)) else U
    |_=>U)
   |_,_,_=>U
  |.jy x=>match dB e x with
   |some (.mp id)=>(match h.get id with
    |some (.mp K' _ es)=>if YV K' then K (.f (.int .i64) (aQ (l! es))) (gG id) 0 h nx else U
    |_=>U)
   |_=>U
  |.mkf f caps=>match Ms e caps with|some l=>K (.qy f l) 0 0 h nx|none=>U
  |_=>U
abbrev C6 (S:Ty):Type:=S.den×Y (Int×Bool)×Y (Int×Bool)
def dX (S:Ty) (xs:Y (C6 S)) (j:Int):C6 S:=xs.getD j.toNat (S.zero,[],[])
def qW {S:Ty} (xs:Y (C6 S)) (j:Int) (o:C6 S):Y (C6 S):=xs.set j.toNat o
def sI (z:η) (j:Int):Int:=z.getD j.toNat 0
def rx {T:Ty} (xss:Y (Y T.den)) (j:Int):Y T.den:=xss.getD j.toNat []
def vT {T:Ty} (xss:Y (Y T.den)) (j:Int) (xs:Y T.den):Y (Y T.den):=xss.set j.toNat xs
abbrev u!:=Int×Bool
def sP {S:Ty} (b:Nat) (o:C6 S):Y u!:=match b with|0=>o.2.1|_=>o.2.2
def vV {S:Ty} (b:Nat) (o:C6 S) (m:Y u!):C6 S:=match b with|0=>(o.1,m,o.2.2)|_=>(o.1,o.2.1,m)
def aj0 (v:TV):M ν:=if v.isC then U else match v.cs with
 |some [.f (.int .i64) a,.f (.int .i64) b]=>Z (a,b)
 |_=>U
def PP (k z:ν):Bool:=decide (k.1=z.1)&&decide (k.2=z.2)
abbrev e!:=ν×Int
def sK (k:ν):Y e!->Bool
 |[]=>af
 |e::r=>PP k e.1||sK k r
def eC (k:ν):Y e!->Int
 |[]=>0
 |e::r=>match PP k e.1 with|true=>e.2|false=>eC k r
def DJ (k:ν):Y e!->Y e!
 |[]=>[]
 |e::r=>match PP k e.1 with|true=>r|false=>e::DJ k r
def stN:Ty->Nat
 |.st t=>stN t+1
 |_=>0
def isRr:M Ty->Bool
 |some (.pr .bool (.pr _ (.sl _)))=>J
 |_=>af
def aj2:ξ->Bool
 |[.slice U 0 0]=>J
 |_=>af
def aws:M TV->Bool
 |some (.sb _)=>J
 |_=>af
def Y2:M e9->Bool
 |some (.Q _ _ _)=>J
 |some (.qd _ _ _ _ _)=>J
 |_=>af
def Cn (h:aX):M TV->Bool
 |some (.sb _)=>J
 |some (.zj id _ _ _)|some (.I id)=>Y2 (h.get id)
 |_=>af
def awu (bY:TypeId->M Ty) (e:h_) (h:aX):SI->Bool
 |.op (.load _ _ x)|.op (.store _ x _)|.op (.zl x)|.op (.jb _ x)|.op (.jf _ x _)|.op (.jg _ _ _ x _)|.op (.jk _ x _ _)=>Cn h (dB e x)
 |.op (.app _ _ _ s x)=>Cn h (dB e s)||aws (dB e x)
 |.op (.zm ty _ _ _ _ _)=>isRr (bY ty)
 |.op (.jz _ _)=>J
 |.op (.lkq _ _ _ _)=>J
 |.op (.mpq _ _ _ _)=>J
 |.op (.dlq _ _ _)=>J
 |_=>af
def pB (bY:TypeId->M Ty) (e:h_) (h:aX) (nx:Nat) (K:KO R):UI->M R
 |.load sz ag x=>match dB e x with
  |some (.sb (.ob id j off))=>(match h.get id with
   |some (.Q (.ar _ S) _ xs)=>chk (dL j (aj (α:=C6 S) xs)) λ_=>
     if ag then U else if ey off S.size then (match og 40 S (dX S xs j).1 off sz af with|some v=>K v (gG id) 0 h nx|none=>U)
     else if ax sz 1&&ey off (S.size+2) then K (.sb (.om id j (off-S.size))) (gG id) 0 h nx else U
   |_=>U)
  |some (.sb (.np id j s i off))=>(match h.get id with
   |some (.Q (.ir _ T) _ xss)=>if ax s T.size then chk (dL j (aj (α:=Y T.den) xss)) λ_=>chk (dL i (aj (rx (T:=T) xss j))) λ_=>
     (match og 40 T (geti _ (rx (T:=T) xss j) i) off sz ag with|some v=>K v (gG id) 0 h nx|none=>U) else U
   |_=>U)
  |some (.zj id s j off)=>if (ax sz 1&& !ag)&&(ax s 1&&ax off 0) then (match h.get id with
   |some (.Q (.qn _) a D)=>chk (dL j (aj (α:=Int) D)) λ_=>K (.sb (.ob a (sI D j) 0)) (gG id) 0 h nx
   |some (.Q (.rr _ z) a L)=>chk (dL j (aj (α:=Int) L)) λ_=>K (.sb (.nr a j z (aN (sI L j)))) (gG id) 0 h nx
   |_=>U) else U
  |_=>U
 |.store sz x v=>match dB e x,dB e v with
  |some (.sb (.ob id j off)),Z y=>(match h.get id with
   |some (.Q (.ar ty S) a xs)=>chk (dL j (aj (α:=C6 S) xs)) λ_=>(match gU h y 40 S (dX S xs j).1 off sz with
    |some (z,m)=>if ax m 0 then K .undef (gG id) (0|||gG id) ((dK 0 h).set id (Z (.Q (.ar ty S) a (qW (S:=S) xs j (z,(dX S xs j).2))))) nx else U
    |none=>U)
   |_=>U)
  |some (.sb (.np id j s i off)),Z y=>(match h.get id with
   |some (.Q (.ir ty T) a xss)=>if ax s T.size then chk (dL j (aj (α:=Y T.den) xss)) λ_=>chk (dL i (aj (rx (T:=T) xss j))) λ_=>(match gU h y 40 T (geti _ (rx (T:=T) xss j) i) off sz with
    |some (z,m)=>if ax m 0 then K .undef (gG id) (0|||gG id) ((dK 0 h).set id (Z (.Q (.ir ty T) a (vT (T:=T) xss j (cg (rx (T:=T) xss j) i z))))) nx else U
    |none=>U) else U
   |_=>U)
  |some (.zj id s j off),Z (.I r)=>if ax sz 1&&(ax s 1&&ax off 0) then (match h.get id,h.get r with
   |some (.Q (.rr ty z) a L),Z (.H _ p T xs)=>if ax z T.size then chk (dL j (aj (α:=Int) L)) λ_=>chk (p|| !(ax (aj xs) 0)) λ_=>K .undef (gG id) (0|||gG id) ((dK 0 h).set id (Z (.qd (.rr ty z) a L (j,0) (Z (r,J,aj xs))))) nx else U
   |_,_=>U) else U
  |_,_=>U
 |.zl x=>match dB e x with
  |some (.sb (.ob id j off))=>K (.sb (.ob id j off)) 0 0 h nx
  |some (.sb (.np id j s i off))=>K (.sb (.np id j s i off)) 0 0 h nx
  |_=>U
 |.jb off x=>match dB e x with
  |some (.sb (.ob id j o))=>K (.sb (.ob id j (o+off))) 0 0 h nx
  |some (.sb (.np id j s i o))=>K (.sb (.np id j s i (o+off))) 0 0 h nx
  |_=>U
 |.jf sz x i=>match dB e x,dB e i with
  |some (.I id),Z (.f (.int _) j)=>(match eM h id with
   |some (_,s,n)=>if ax s sz&&Y2 (h.get id) then chk (dL j n) λ_=>K (.zj id sz j 0) 0 0 h nx else U
   |none=>U)
  |some (.sb (.nr id j s n)),Z (.f (.int _) i)=>if ax s sz then chk (dL i n) λ_=>K (.sb (.np id j sz i 0)) 0 0 h nx else U
  |_,_=>U
 |.jg str ok z x k=>match dB e x,dB e k with
  |some (.sb (.om id j b)),Z (.f (.int .i64) A)=>(match h.get id,z with
   |some (.Q (.ar _ S) _ xs),.bool zb=>if !str&&ey b 2 then chk (dL j (aj (α:=C6 S) xs)) λ_=>
     K (pkT ok (.f .bool (Bt (K:=.int .i64) (V:=.bool) A (sP b (dX S xs j)) zb)) (.f .bool (aed (K:=.int .i64) (V:=.bool) A (sP b (dX S xs j))))) (gG id) 0 h nx else U
   |_,_=>U)
  |_,_=>U
 |.jk str x k v=>match dB e x,dB e k,dB e v with
  |some (.sb (.om id j b)),Z (.f (.int .i64) A),Z (.f .bool vv)=>(match h.get id with
   |some (.Q (.ar ty S) a xs)=>if !str&&ey b 2 then chk (dL j (aj (α:=C6 S) xs)) λ_=>
     K .undef (gG id) (0|||gG id) ((dK 0 h).set id (Z (.Q (.ar ty S) a (qW (S:=S) xs j (vV b (dX S xs j) (AB (K:=.int .i64) (V:=.bool) A vv (sP b (dX S xs j)))))))) nx else U
   |_=>U)
  |_,_,_=>U
 |.app ty sz bytes s x=>match dB e s,dB e x with
  |some (.I id),Z (.qg id2 1 1)=>(match h.get id,h.get id2 with
   |some (.Q (.qn ty') a D),Z (.G (Z _) [.sb (.ob a' j 0)])=>if (ax sz 1&&ty==ty')&&(ax a a'&& !(ax id id2)) then
     chk (bc (aj (α:=Int) D+1) bytes) λ_=>K (.I nx) (gG id|||gG id2) (gG id|||gG nx) ((h.set id (Z (.qj J 1 (aj (α:=Int) D)))).set nx (Z (.Q (.qn ty) a (sW (α:=Int) D [j])))) (nx+1) else U
   |_,_=>U)
  |some (.sb (.nr id j s n)),Z y=>(match h.get id with
   |some (.Q (.ir ty' T) a xss)=>if ax s T.size&&(ax sz T.size&&ty==ty') then chk (dL j (aj (α:=Y T.den) xss)) λ_=>(match FA h (.sl T) y with
    |some (ys,m)=>if aK m id then U else chk (ax n (aj (rx (T:=T) xss j))&&bc (n+aj ys) bytes) λ_=>
      K (.I nx) (gG id|||m) (gG id|||gG nx) ((h.set id (Z (.Q (.ir ty T) a (vT (T:=T) xss j [])))).set nx (Z (.H ty J T (rx (T:=T) xss j++ys)))) (nx+1)
    |none=>U) else U
   |_=>U)
  |some b,Z (.sb (.nr id j s n))=>(match h.get id with
   |some (.Q (.ir _ T) _ xss)=>if ax s T.size&&ax sz T.size then chk (dL j (aj (α:=Y T.den) xss)) λ_=>chk (ax n (aj (rx (T:=T) xss j))) λ_=>apf ty sz bytes T b (rx (T:=T) xss j) (gG id) h nx K else U
   |_=>U)
  |_,_=>U
 |.zm ty sz bytes z l c=>match bY ty,dB e l,dB e c with
  |some (.pr .bool (.pr q (.sl T))),Z (.f (.int _) a),Z (.f (.int _) b)=>if ax sz 1&&aj2 z then
    chk (db 0 a&&db a b&&bc (aN b) bytes) λ_=>K (.I nx) 0 (gG nx) ((h.set nx (Z (.Q (.rr ty T.size) (nx+1) (aC (aN a) (0:Int))))).set (nx+1) (Z (.Q (.ir (stN q) T) 0 (aC (aN a) ([]:Y T.den))))) (nx+2) else U
  |_,_,_=>U
 |.jz neg x=>match dB e x with
  |some (.sb (.ob _ _ _))|some (.P _ _)=>K (.f .bool neg) 0 0 h nx
  |some .np=>K (.f .bool (!neg)) 0 0 h nx
  |_=>U
 |.lkq [.int .i64,.int .i64] z x k=>match dB e x,(dB e k).bind aj0,z with
  |some (.mp id),Z A,.pointer U=>(match h.get id with
   |some (.Q .qr a es)=>aI (sK A es) (K (.sb (.ob a (eC A es) 0)) (gG id) 0 h nx) (K .np (gG id) 0 h nx)
   |_=>U)
  |_,_,_=>U
 |.mpq [.int .i64,.int .i64] x k v=>match dB e x,(dB e k).bind aj0,dB e v with
  |some (.mp id),Z A,Z (.P p 0)=>(match h.get id with
   |some (.Q .qr a es)=>K .undef (gG id) (0|||gG id) ((dK 0 h).set id (Z (.qd .qr a es A (Z (p,af,0))))) nx
   |_=>U)
  |_,_,_=>U
 |.dlq [.int .i64,.int .i64] x k=>match dB e x,(dB e k).bind aj0 with
  |some (.mp id),Z A=>(match h.get id with
   |some (.Q .qr a es)=>K (.qb []) (gG id) (0|||gG id) ((dK 0 h).set id (Z (.Q .qr a (DJ A es)))) nx
   |_=>U)
  |_,_=>U
 |_=>U
def opK (con:FuncId->M co) (bY:TypeId->M Ty) (o:SI) (e:h_) (h:aX) (nx:Nat) (K:KO R):M R:=match awu bY e h o with
 |true=>(match o with|.op s=>pB bY e h nx K s|_=>U)
 |false=>eK con bY o e h nx K
def ah2 (e:h_) (g:M (Nat×Bool)) (K:Bool->h_->M R):M R:=match g with
 |none=>K J e
 |some (t,want)=>match e.get t with
  |some (.f .bool b)=>(match want with
   |true=>aI b (K J (e.set t (Z (.f .bool J)))) (K af (e.set t (Z (.f .bool af))))
   |false=>aI b (K af (e.set t (Z (.f .bool J)))) (K J (e.set t (Z (.f .bool af)))))
  |some .undef=>K af e
  |_=>U
def H_ (e:h_) (d:M Nat) (v:TV):h_:=match d with
 |none=>e
 |some d=>e.set d (Z v)
structure TS where
 e:h_
 h:aX
 nx:Nat
def PD (con:FuncId->M co) (bY:TypeId->M Ty):Y uC->TS->Y FPm->(TS->Y FPm->M R)->M R
 |[],s,z,K=>K s z.reverse
 |o::r,s,z,K=>ah2 s.e o.guard λrun e=>match run with
  |true=>opK con bY o.op e s.h s.nx λv rd A h nx=>if PI h v then PD con bY r ⟨H_ e o.dst v,h,nx⟩ (⟨rd,A⟩::z) K else U
  |false=>PD con bY r ⟨H_ e o.dst .undef,s.h,s.nx⟩ (⟨0,0⟩::z) K
inductive Adj where
 |nil (k:Nat) (ty:TypeId) (T:Ty)
 |qh (k:Nat) (off:Nat) (ty:TypeId) (T:Ty)
 |mpt (k:Nat) (K V:Ty)
 |pk (k:Nat) (off:Nat) (T:Ty)
 |qx (k:Nat) (off:Nat)
 |fmp (k off:Nat) (ty:TypeId) (S:Ty)
 |frw (k off off2:Nat) (ty:TypeId)
 |jm (k off:Nat)
mutual
def Pw (id sz n:Nat):TV->TV
 |.qg i s m=>if ax i id&&ax s sz&&ax m n then .I id else .qg i s m
 |.agg l=>.agg (Jo id sz n l)
 |.qb l=>.qb (Jo id sz n l)
 |.qy g l=>.qy g (Jo id sz n l)
 |.f T v=>.f T v
 |.zf T xs j h off=>.zf T xs j h off
 |.zj a b c d=>.zj a b c d
 |.P a b=>.P a b
 |.I a=>.I a
 |.zh a j=>.zh a j
 |.qc T xs=>.qc T xs
 |.sb s=>.sb s
 |.emp=>.emp
 |.nil=>.nil
 |.mp a=>.mp a
 |.undef=>.undef
 |.np=>.np
 |.qw=>.qw
def Jo (id sz n:Nat):Y TV->Y TV
 |[]=>[]
 |x::r=>Pw id sz n x::Jo id sz n r
end
def Yx (id sz n:Nat):e9->e9
 |.G ty l=>.G ty (Jo id sz n l)
 |.H ty p T xs=>.H ty p T xs
 |.qj p s m=>.qj p s m
 |.mp K V es=>.mp K V es
 |.Q F a x=>.Q F a x
 |.qd F a x k p=>.qd F a x k p
def axa (s:TS) (k off:Nat):M (Nat×q!):=match s.e.get k with
 |some (.qg id sz n)=>Z (id,sz,n)
 |some (.agg l)=>(match l[off]? with|some (.qg id sz n)=>Z (id,sz,n)|_=>U)
 |some (.P a o)=>(match s.h.get a with
  |some (.G (Z _) l)=>(match l[o+off]? with|some (.qg id sz n)=>Z (id,sz,n)|_=>U)
  |_=>U)
 |_=>U
def pkS (s:TS) (T:Ty) (id sz n:Nat):M TS:=match s.h.get id with
 |some (.G (Z ty) l)=>if ax sz T.size then (match D9 s.h T n l with
  |some (xs,m)=>if aK m id then U else Z ⟨PT.updI (λ_ v=>Pw id sz n v) 1 0 s.e,(PT.updI (λ_ b=>Yx id sz n b) 1 0 (dK m s.h)).set id (Z (.H ty af T xs)),s.nx⟩
  |none=>U) else U
 |_=>U
def aj1:TV->Bool
 |.nil=>J
 |.emp=>J
 |_=>af
def aqw:M TV->M q!
 |some (.P id o)=>Z (id,o)
 |some (.qg id _ _)|some (.mp id)=>Z (id,0)
 |_=>U
def ak1 (s:TS) (k off:Nat):M Nat:=match s.e.get k with
 |some (.mp id)|some (.I id)=>Z id
 |some (.P b o)=>(match s.h.get b with
  |some (.G (Z _) l)=>(match l[o+off]? with|some (.mp id)=>Z id|some (.I id)=>Z id|_=>U)
  |_=>U)
 |_=>U
def shf (n:Nat) (j:Int):Int:=if ey j.toNat n then j else aQ (j.toNat+1)
def Md (n:Nat) (es:Y e!):Y e!:=es.map λe=>(e.1,shf n e.2)
def yQ (k:ν) (v:Int):Y e!->Y e!
 |[]=>[(k,v)]
 |e::r=>match PP k e.1 with|true=>(k,v)::r|false=>e::yQ k v r
def rnX (len:Nat):(F:uE)->F.ty.den->F.ty.den
 |.qn _,z=>gL (shf len) z
 |.qr,es=>Md len es
 |_,x=>x
def awt:uE->Bool
 |.qn _=>J
 |.qr=>J
 |_=>af
def rnF (a n len:Nat):e9->e9
 |.Q F b x=>if awt F&&ax b a then .Q F n (rnX len F x) else .Q F b x
 |b=>b
def anv:M e9->M (Y u!)
 |some (.mp (.int .i64) .bool es)=>Z es
 |some (.mp .un .un [])=>Z []
 |_=>U
def ahd (s:TS) (o a p:Nat) (kk:ν) (es:Y e!):M TS:=match s.h.get a,s.h.get p with
 |some (.Q (.ar ty S) _ xs),Z (.G (Z ty') l)=>if ty'==ty then (match fM s.h 40 S l with
  |some (z,m,[.mp m1,.mp m2])=>(match anv (s.h.get m1),anv (s.h.get m2) with
   |some A,Z e2=>if ax m 0&& !(ax m1 m2) then
     Z ⟨s.e,((((((PT.updI (λ_ b=>rnF a s.nx (aj (α:=C6 S) xs) b) 1 0 s.h).set o (Z (.Q .qr s.nx (yQ kk (aQ (aj (α:=C6 S) xs)) (Md (aj (α:=C6 S) xs) es))))).set a (Z (.qj J 0 0))).set p (Z (.qj J 0 0))).set m1 (Z (.qj J 0 0))).set m2 (Z (.qj J 0 0))).set s.nx (Z (.Q (.ar ty S) 0 (sW (α:=C6 S) xs [(z,A,e2)]))),s.nx+1⟩ else U
   |_,_=>U)
  |_=>U) else U
 |_,_=>U
def asn (s:TS) (o a r n:Nat) (j:Int) (ty:TypeId) (z:Nat) (A:η):M TS:=match s.h.get a,s.h.get r with
 |some (.Q (.ir ty2 T) _ xss),Z (.H ty3 p S xs)=>(match wO (S:=.sl S) (.sl T) xs with
  |some xs'=>if ty3==ty2 then
    Z ⟨s.e,(((s.h.set o (Z (.Q (.rr ty z) s.nx (sH (α:=Int) A j.toNat (aQ n))))).set a (Z (.qj J 0 0))).set r (Z (.qj p S.size (aj xs)))).set s.nx (Z (.Q (.ir ty2 T) 0 (vT (T:=T) xss j xs'))),s.nx+1⟩ else U
  |none=>U)
 |_,_=>U
def aj3 (F:uE):Bool:=ax (F.aid 1) 0
def rnG (a n:Nat):e9->e9
 |.Q F b x=>if !(aj3 F)&&ax b a then .Q F n x else .Q F b x
 |b=>b
def asq (s:TS) (a:Nat):M TS:=match s.h.get a with
 |some (.Q F _ x)=>if aj3 F then Z ⟨s.e,((PT.updI (λ_ b=>rnG a s.nx b) 1 0 s.h).set a (Z (.qj J 0 0))).set s.nx (Z (.Q F 0 x)),s.nx+1⟩ else U
 |_=>U
def asl (s:TS) (o:Nat):M TS:=match s.h.get o with
 |some (.qd .qr a es kk (Z (p,af,0)))=>ahd s o a p kk es
 |some (.qd (.rr ty z) a A kk (Z (r,J,n)))=>asn s o a r n kk.1 ty z A
 |some (.Q F a _)=>if aj3 F then U else asq s a
 |_=>U
def Ln (s:TS):Adj->M TS
 |.nil k ty T=>match s.e.get k with
  |some v=>if aj1 v then Z ⟨s.e.set k (Z (.I s.nx)),s.h.set s.nx (Z (.H ty J T [])),s.nx+1⟩ else Z s
  |none=>U
 |.qh k off ty T=>match aqw (s.e.get k) with
  |some (id,o)=>(match s.h.get id with
   |some (.G cty l)=>(match l[o+off]? with
    |some v=>if aj1 v then Z ⟨s.e,(s.h.set s.nx (Z (.H ty J T []))).set id (Z (.G cty (splice l (o+off) [.I s.nx]))),s.nx+1⟩ else Z s
    |none=>U)
   |_=>U)
  |_=>U
 |.mpt k K V=>match s.e.get k with
  |some (.mp id)=>(match s.h.get id with
   |some (.mp K' V' es)=>(match mpE K' V' es&&YV K with
    |true=>Z ⟨s.e,s.h.set id (Z (.mp K V [])),s.nx⟩
    |false=>Z s)
   |_=>U)
  |_=>U
 |.pk k off T=>match axa s k off with
  |some (id,sz,n)=>pkS s T id sz n
  |none=>U
 |.qx k off=>match s.e.get k with
  |some (.P b o)=>(match s.h.get b with
   |some (.G (Z cty) l)=>(match l[o+off]? with
    |some (.I id)=>(match s.h.get id with
     |some (.H ty p T xs)=>Z ⟨s.e,((s.h.set id (Z (.qj p T.size (l! xs)))).set s.nx (Z (.H ty p T xs))).set b (Z (.G (Z cty) (splice l (o+off) [.I s.nx]))),s.nx+1⟩
     |some (.Q (.qn ty) a z)=>Z ⟨s.e,((s.h.set id (Z (.qj J 1 (aj (α:=Int) z)))).set s.nx (Z (.Q (.qn ty) a z))).set b (Z (.G (Z cty) (splice l (o+off) [.I s.nx]))),s.nx+1⟩
     |_=>U)
    |_=>U)
   |_=>U)
  |some (.I id)=>(match s.h.get id with
   |some (.H ty p T xs)=>Z ⟨s.e.set k (Z (.I s.nx)),(s.h.set id (Z (.qj p T.size (l! xs)))).set s.nx (Z (.H ty p T xs)),s.nx+1⟩
   |_=>U)
  |_=>U
 |.fmp k off ty S=>match ak1 s k off with
  |some id=>(match s.h.get id with
   |some (.mp K' V' es)=>if mpE K' V' es then Z ⟨s.e,(s.h.set id (Z (.Q .qr s.nx []))).set s.nx (Z (.Q (.ar ty S) 0 [])),s.nx+1⟩ else U
   |some (.Q _ _ _)=>Z s
   |_=>U)
  |none=>U
 |.frw k off off2 ty=>match ak1 s k off2,aqw (s.e.get k) with
  |some o,Z (id,q)=>(match s.h.get o,s.h.get id with
   |some (.Q .qr a _),Z (.G cty l)=>(match l[q+off]? with
    |some v=>if aj1 v then Z ⟨s.e,(s.h.set s.nx (Z (.Q (.qn ty) a []))).set id (Z (.G cty (splice l (q+off) [.I s.nx]))),s.nx+1⟩ else Z s
    |none=>U)
   |_,_=>U)
  |_,_=>U
 |.jm k off=>match ak1 s k off with
  |some o=>asl s o
  |none=>U
def XZ (s:TS):Y Adj->M TS
 |[]=>Z s
 |a::r=>match Ln s a with|some s'=>XZ s' r|none=>U
structure Ann where
 zw:ι
 ks:ι
 t:Tm
 pre:List Adj
abbrev Ann.D (A:Ann):Type:=A.t.ty.den
mutual
def wA:TV->Bool
 |.f _ _=>J
 |.zf _ _ _ _ _=>J
 |.emp=>J
 |.nil=>J
 |.undef=>J
 |.np=>J
 |.qw=>J
 |.agg l|.qb l=>r8 l
 |.zj _ _ _ _=>af
 |.P _ _=>af
 |.qg _ _ _=>af
 |.I _=>af
 |.zh _ _=>af
 |.qc _ _=>af
 |.sb _=>af
 |.mp _=>af
 |.qy _ _=>af
def r8:Y TV->Bool
 |[]=>J
 |x::r=>wA x&&r8 r
end
def Gn (am:Nat) (e:h_):ι->h_
 |[]=>PT.leaf
 |k::r=>match e.get k with|some v=>if wA v&& !(aK am k) then (Gn am e r).set k (Z v) else Gn am e r|none=>Gn am e r
def kx (e:h_):ι->M (Y TV)
 |[]=>Z []
 |k::r=>match e.get k with|some v=>(match kx e r with|some l=>Z (v::l)|none=>U)|none=>U
def ae1 (e:h_):ι->Y TV->h_
 |k::r,v::l=>(ae1 e r l).set k (Z v)
 |_,_=>e
def LN (am:Nat) (e0 e:h_):ι->Bool
 |[]=>J
 |k::r=>(match e0.get k with
  |some v=> !(wA v)||aK am k||(match e.get k with|some _=>J|none=>af)
  |none=>J)&&LN am e0 e r
def Qf (np:Nat) (A:Ann) (am:Nat) (z s:TS):M A.D:=if dN np (l! A.t.bs)&&LN am z.e s.e A.zw then (match XZ s A.pre with
 |some s=>(match kx s.e A.ks with
  |some vs=>(match E_ np A.t vs s.h with
   |some ⟨x,_,_,_⟩=>Z x
   |none=>U)
  |none=>U)
 |none=>U) else U
def KJ (A:Ann) (am:Nat) (s:TS) (x:A.D):M TS:=match D' A.t x with
 |some (vs,h)=>if ax (l! vs) (l! A.ks) then Z ⟨ae1 (Gn am s.e A.zw) A.ks vs,h,l! A.t.bs⟩ else U
 |none=>U
inductive TC where
 |skip
 |jw (ops:List uC) (prs:List (Nat×Nat))
 |seq (a b:TC)
 |jq (A:Ann) (a b:TC)
 |cond (c:Nat) (a b:TC)
 |block (id:Nat) (b:TC)
 |zk (A:Ann) (id:Nat) (b:TC)
 |loop (A:Ann) (b:TC)
 |exit (id:Nat)
 |ret
 |defer (f:FuncId) (caps:List Operand) (t:Nat)
 |adj (l:List Adj) (c:TC)
 |split (k off lo n:Nat) (c:TC)
 |bsp (t:Nat) (a b:TC)
 |unl (n:Nat) (b:TC)
 |zn
def Un:Y uC->Nat->Nat
 |[],acc=>acc
 |o::r,acc=>Un r (match o.dst with|some d=>acc|||gG d|none=>acc)
def PL:ι->Nat->Nat
 |[],acc=>acc
 |k::r,acc=>PL r (acc|||gG k)
def nj:Y Adj->Nat->Nat
 |[],acc=>acc
 |.nil k _ _::r,acc=>nj r (acc|||gG k)
 |.qh _ _ _ _::r,acc|.mpt _ _ _::r,acc|.pk _ _ _::r,acc=>nj r acc
 |.qx k _::r,acc=>nj r (acc|||gG k)
 |.fmp _ _ _ _::r,acc|.frw _ _ _ _::r,acc|.jm _ _::r,acc=>nj r acc
def TC.asg:TC->Nat->Nat
 |.jw ops _,acc=>Un ops acc
 |.seq a b,acc=>b.asg (a.asg acc)
 |.jq A a b,acc=>b.asg (a.asg (PL A.ks acc))
 |.cond _ a b,acc=>b.asg (a.asg acc)
 |.block _ b,acc=>b.asg acc
 |.zk A _ b,acc|.loop A b,acc=>b.asg (PL A.ks acc)
 |.defer _ _ t,acc=>acc|||gG t
 |.adj l c,acc=>c.asg (nj l acc)
 |.split _ _ _ _ c,acc=>c.asg acc
 |.bsp _ a b,acc=>b.asg (a.asg acc)
 |.unl _ b,acc=>b.asg acc
 |.skip,acc|.exit _,acc|.ret,acc|.zn,acc=>acc
inductive am2 where
 |j (A:Ann)
 |a (l:List Adj)
 |s (k off lo n:Nat)
 |b (t k off lo n:Nat)
 |u (n:Nat)
def L5 (H:PT am2) (n:Nat) (c:TC):TC:=match H.get n with|some (.a l)=>.adj l c|some (.s k off z m)=>.split k off z m c|some (.b t k off z m)=>.bsp t (.split k off z m c) c|_=>c
def IW (H:PT am2):SC->Nat->TC×Nat
 |.skip,n=>(L5 H n .skip,n+1)
 |.jw o p,n=>(L5 H n (.jw o p),n+1)
 |.seq a b,n=>match IW H a (n+1) with
  |(z,k)=>(match IW H b k with|(b',D)=>((match H.get n with|some (.j A)=>.jq A z b'|_=>.seq z b'),D))
 |.cond c a b,n=>match IW H a (n+1) with
  |(z,k)=>(match IW H b k with|(b',D)=>(L5 H n (.cond c z b'),D))
 |.block id b,n=>match IW H b (n+1) with|(b',k)=>((match H.get n with|some (.j A)=>.zk A id b'|_=>.block id b'),k)
 |.loop b,n=>match IW H b (n+1) with|(b',k)=>((match H.get n with|some (.j A)=>.loop A b'|some (.u m)=>.unl m b'|_=>.zn),k)
 |.exit id,n=>(L5 H n (.exit id),n+1)
 |.ret,n=>(L5 H n .ret,n+1)
 |.defer f c t,n=>(.defer f c t,n+1)
 |.zn,n=>(.zn,n+1)
def aj7 (s:TS) (k off:Nat):M (IntKind×Int):=match s.e.get k with
 |some (.f (.int kd) v)=>Z (kd,v)
 |some (.P a o)=>(match s.h.get a with
  |some (.G (Z _) l)=>(match l[o+off]? with|some (.f (.int kd) v)=>Z (kd,v)|_=>U)
  |_=>U)
 |_=>U
def YC (s:TS) (k off:Nat) (kd:IntKind) (v:Int):M TS:=match s.e.get k with
 |some (.f (.int _) _)=>Z ⟨s.e.set k (Z (.f (.int kd) v)),s.h,s.nx⟩
 |some (.P a o)=>(match s.h.get a with
  |some (.G (Z ty) l)=>Z ⟨s.e,s.h.set a (Z (.G (Z ty) (splice l (o+off) [.f (.int kd) v]))),s.nx⟩
  |_=>U)
 |_=>U
def spl (v:Int) (f:Nat->M R):Nat->Nat->M R
 |_,0=>U
 |i,m+1=>aI (decide ((v:Int)=aQ i)) (f i) (spl v f (i+1) m)
def amq (f:TS->(Ex->TS->M R)->M R):Nat->TS->(Ex->TS->M R)->M R
 |0,_,_=>U
 |m+1,s,K=>f s λex s'=>match ex with
  |.normal=>amq f m s' K
  |ex=>K ex s'
def oR {R:Type} (np:Nat) (con:FuncId->M co) (bY:TypeId->M Ty) (inert:FuncId->Bool):TC->TS->(Ex->TS->M R)->M R
 |.skip,s,K=>K .normal s
 |.jw ops prs,s,K=>PD con bY ops s [] λs' D=>if Jw D prs then K .normal s' else U
 |.seq a b,s,K=>oR np con bY inert a s λex s'=>match ex with|.normal=>oR np con bY inert b s' K|ex=>K ex s'
 |.jq A a b,s,K=>jn (oR np con bY inert a s λex s'=>match ex with
   |.normal=>aA (Qf np A (a.asg 0) s s') λx=>Z (.inr x)
   |ex=>aA (K ex s') λr=>Z (.inl r)) λx=>(match KJ A (a.asg 0) s x with|some s'=>oR np con bY inert b s' K|none=>U)
 |.cond c a b,s,K=>match s.e.get c with
  |some (.f .bool t)=>aI t (oR np con bY inert a s K) (oR np con bY inert b s K)
  |some .qw=>zW (oR np con bY inert a s K) (oR np con bY inert b s K)
  |_=>U
 |.block id b,s,K=>oR np con bY inert b s λex s'=>match ex with
  |.exit i=>if ax i id then K .normal s' else K (.exit i) s'
  |ex=>K ex s'
 |.zk A id b,s,K=>jn (oR np con bY inert b s λex s'=>match ex with
   |.normal=>aA (Qf np A (b.asg 0) s s') λx=>Z (.inr x)
   |.exit i=>if ax i id then aA (Qf np A (b.asg 0) s s') λx=>Z (.inr x) else aA (K (.exit i) s') λr=>Z (.inl r)
   |.ret=>aA (K .ret s') λr=>Z (.inl r)) λx=>(match KJ A (b.asg 0) s x with|some s'=>K .normal s'|none=>U)
 |.loop A b,s,K=>aA (Qf np A (b.asg 0) s s) λx=>iter (λx=>match KJ A (b.asg 0) s x with
   |some s'=>oR np con bY inert b s' λex s'=>(match ex with
    |.normal=>aA (Qf np A (b.asg 0) s s') λy=>Z (.inl y)
    |ex=>aA (K ex s') λr=>Z (.inr r))
   |none=>U) x
 |.exit id,s,K=>K (.exit id) s
 |.ret,s,K=>K .ret s
 |.defer f _ t,s,K=>if inert f then K .normal ⟨s.e.set t U,s.h,s.nx⟩ else U
 |.adj l c,s,K=>match XZ s l with|some s'=>oR np con bY inert c s' K|none=>U
 |.split k off z n c,s,K=>match aj7 s k off with
  |some (kd,v)=>spl v (λi=>match YC s k off kd (aQ i) with|some s'=>oR np con bY inert c s' K|none=>U) z n
  |none=>U
 |.bsp t a b,s,K=>match s.e.get t with
  |some (.f .bool v)=>aI v (oR np con bY inert a ⟨s.e.set t (Z (.f .bool J)),s.h,s.nx⟩ K) (oR np con bY inert b ⟨s.e.set t (Z (.f .bool af)),s.h,s.nx⟩ K)
  |_=>U
 |.unl n b,s,K=>amq (λs K=>oR np con bY inert b s K) n s K
 |.zn,_,_=>U
def OX:Nat->Y TV->h_
 |_,[]=>PT.leaf
 |k,x::r=>(OX (k+1) r).set k (Z x)
def rvT (s:TS):RV->M TV
 |.tmp t=>s.e.get t
 |.cell a sz z=>match s.e.get a with
  |some (.P id off)=>(match s.h.get id with|some (.G (Z _) l)=>Yw l off sz z|_=>U)
  |_=>U
def U9 (s:TS):Y RV->M (Y TV)
 |[]=>Z []
 |x::r=>match rvT s x with|some v=>(match U9 s r with|some l=>Z (v::l)|none=>U)|none=>U
structure FT where
 pre:Tm
 post:Tm
 hints:PT am2
def ax5 (D:FT):Y Adj:=match D.hints.get 60000 with
 |some (.a l)=>l
 |_=>[]
def ahc (con:FuncId->M co) (bY:TypeId->M Ty) (inert:FuncId->Bool) (F:M SF) (D:FT) (x:D.pre.ty.den):M D.post.ty.den:=
 match F with
 |some z=>(match D' D.pre x with
  |some (args,h)=>if dN (l! args) z.nt&&dN (l! D.pre.bs) (l! D.post.bs) then
    oR (l! D.pre.bs) con bY inert (IW D.hints z.code 0).1 ⟨OX 0 args,h,l! D.pre.bs⟩ λex s=>(match ex with
    |.exit _=>U
    |_=>(match XZ s (ax5 D) with
     |some s=>(match U9 s z.res with
      |some l=>(match E_ (l! D.pre.bs) D.post l s.h with
       |some ⟨y,_,_,_⟩=>(match D' D.post y with|some _=>Z y|none=>U)
       |none=>U)
      |none=>U)
     |none=>U)) else U
  |none=>U)
 |none=>U
def fE {u:Value} (h:cf V O w (.f (.raw v)) u):u=v:=by
 cases h with
 |f h=>cases h;rfl
def vQ (h:HF) (z:HF):fx h [] z=h:=by funext t;simp[fx]
def Kw:∀{l:ξ},ON l=J->∀v∈l,v.oneCell'=J
 |[],_,v,z=>by cases z
 |x::r,h,v,z=>by
  simp[ON,al]at h;rcases aV.1 z with rfl|z
  .exact h.1
  .exact Kw h.2 v z
def Z7 (v:Value):cf V O w (I4 v) v:=by
 unfold I4;split
 .rename_i vs;split
  .rename_i h1;refine cf.agg (vs:=vs.toList) (by simp) (λx z=>?_) (λj x v z A=>?_)
   .obtain⟨u,D,rfl⟩:=cr.1 z;exact Kw h1 u D
   .rw[bB,A]at z;simp[bh,ah]at z;subst z;exact .f (.raw _)
  .exact .f (.raw _)
 .exact .f (.raw _)
variable {c:Operand}
def vB {e:ED} {xs:Array Operand} (hrep:sC V O S w) (h:∀t,.tmp t∈xs->∀y,e.get t=Z y->cf V (tot O V S) w y (z.tmps.getD t undef)) (D:c∈xs) (a:mb e c=Z y):cf V (tot O V S) w y (z.eval c):=by
 cases c with
 |tmp t=>exact h t D y a
 |const v=>simp[mb,ah]at a;subst a;exact Z7 v
 |func g=>
  simp[mb,ah]at a;subst a;exact cf.qy (vs:=[]) (g:=g) (cells:=[]) rfl (by simp)
 |global g=>
  simp[mb]at a;cases A:G g with
  |none=>rw[A]at a;cases a
  |some cells=>rw[A]at a;simp[ah]at a;subst a;exact .f (hrep.gl g cells A)
abbrev Yo (φ:PM) (E:Nat->Prop) (h':HF) (w:World) (a:Act) (e:ED) (o:Oper):Prop:=∀x y,x∈o.op.operands->mb e x=Z y->cf φ (tot E φ h') w y (a.eval x)
def gF.reads {o:Oper} {e:ED} {rd:ι} {A:HF}
 (hv:∀(φ:PM) (E:Nat->Prop) (h':HF) (w:World) (a:Act),(∀i∈rd,h' i=S i)->Yo φ E h' w a e o->sC φ E h' w->
   ∃v,(execOp a.eval o).run T w= .ok (.value v) w/\cf φ (tot E φ h') w y v):gF T o e.get S ⟨y,rd,[],A,[]⟩:=by
 intro φ E h' w a h1 h2 h3 z h5;let⟨v,r,rel⟩:=hv φ E h' w a h1 (λx val L D=>vB z h3 L D) z;unfold Lx;rw[r];refine ⟨v,φ,rfl,?_,λ_ _ S=>.inl S,?_,?_⟩<;>rw[vQ]
 .exact kl.refl _ _ _
 .exact z
 .exact rel
def du {R:Dz} (h:rv y=Z R):R=⟨y,[],[],[],[]⟩:=by simp only[rv,ah]at h;exact h.symm
section pure
variable {P:Program} {o:Oper} {e:ED} {h:ny} {nx:Nat} {R:Dz}
def axk (z:o.op= .move c\/o.op= .assign c) (A:dA (.mv c) e h nx=Z R):gF P o e.get h.get R.eff:=by
 simp[dA]at A;split at A
 next v D=>rw[du A];exact gF.reads λφ E h' w a _ hop _=>⟨a.eval c,by unfold execOp;rcases z with z|z<;>rw[z]<;>rfl,hop c v (by rcases z with z|z<;>rw[z]<;>simp[Op.operands]) D⟩
 .cases A
def au2 {x y:Operand} (A:o.op= .pick c x y) (z:dA (.pick c x y) e h nx=Z R):gF P o e.get h.get R.eff:=by
 simp[dA]at z;split at z
 .rename_i t L;split at z
  .rename_i v D;rw[du z];refine gF.reads λφ E h' w a _ hop _=>?_
   have hcv:=fE (hop c _ (by rw[A];simp[Op.operands]) L);refine ⟨a.eval (if t then x else y),?_,hop _ v (by rw[A];cases t<;>simp[Op.operands]) D⟩;unfold execOp;rw[A];simp[hcv];cases t<;>rfl
  .cases z
 .cases z
def au3 (A:o.op= .nilCheck c) (D:dA (.zl c) e h nx=Z R):gF P o e.get h.get R.eff:=by
 simp[dA]at D;split at D
 .rename_i id off hx;rw[du D];refine gF.reads λφ E h' w a _ hop _=>?_
  have h1:=hop c _ (by rw[A];simp[Op.operands]) hx;generalize L:a.eval c=z at h1;cases h1 with
  |P hφ=>exact⟨_,by unfold execOp;rw[A];simp only[L];rfl,.P hφ⟩
 .rename_i cells off hx;rw[du D];refine gF.reads λφ E h' w a _ hop _=>?_
  have h1:=hop c _ (by rw[A];simp[Op.operands]) hx;generalize L:a.eval c=z at h1;cases h1 with
  |f h1=>
   have h2:=h1;cases h2 with
   |P _ _ b base us hO hb hcl hu hr=>exact⟨_,by unfold execOp;rw[A];simp only[L];rfl,.f h1⟩
 .rename_i g cap hx;rw[du D];refine gF.reads λφ E h' w a _ hop _=>?_
  have h1:=hop c _ (by rw[A];simp[Op.operands]) hx;generalize L:a.eval c=z at h1;cases h1 with
  |qy hl hr=>exact⟨_,by unfold execOp;rw[A];simp only[L];rfl,.qy hl hr⟩
 .cases D
variable {s:TypeId}
def axi (A:o.op= .unOp .not s c) (z:dA (.not c) e h nx=Z R):gF P o e.get h.get R.eff:=by
 simp[dA]at z;split at z
 .rename_i b D;rw[du z];refine gF.reads λφ E h' w a _ hop _=>?_
  have h1:=fE (hop c _ (by rw[A];simp[Op.operands]) D);exact⟨_,by unfold execOp;rw[A];simp[h1];rfl,.f (.raw _)⟩
 .cases z
def B8 (k:IntKind) (n:Int):bm k n=k.wrap n:=by
 rw[Lz];unfold QO;split
 .split
  .rename_i h;simp[db,al,bE]at h;have:pZ .i64 n=if n%18446744073709551616≥9223372036854775808 then n%18446744073709551616-18446744073709551616 else n%18446744073709551616:=by
    simp[pZ,IntKind.bits,IntKind.signed]
   rw[this];split<;>omega
  .rfl
 .split
  .rename_i h;simp[db,al,bE]at h;have:pZ .u8 n=n%256:=by
    simp[pZ,IntKind.bits,IntKind.signed]
   omega
  .rfl
 .rfl
def aub {d:TypeId} {k D:IntKind} (A:o.op= .convert s d c) (hs:P.underlying s=Z (.int D)) (hd:P.underlying d=Z (.int k)) (z:dA (.conv k c) e h nx=Z R):gF P o e.get h.get R.eff:=by
 simp[dA]at z;split at z
 .rename_i kk n L;rw[du z];refine gF.reads λφ E h' w a _ hop _=>?_
  have h1:=fE (hop c _ (by rw[A];simp[Op.operands]) L);refine ⟨_,?_,.f (.raw _)⟩;unfold execOp;rw[A];simp[h1,convert,run_underlying hs,run_underlying hd,Conv.intToInt,B8]
 .cases z
def Ul (a:ByteArray):a.toList=a.data.toList:=by
 first|exact ByteArray.toList_eq a|simp[ByteArray.toList]|rfl
def aho {op:BinOp} {t:TypeId} {u r:Value} (z:w_ op u v=Z r) (x y:Operand) (w:World):
 (do eqGuard op t x y u v;binOp op t u v:Sem Value).run P w= .ok r w:=by
 unfold w_ at z;split at z
 .rename_i k a D b;split at z
  .rename_i hk;have A:k=D:=by grind
   subst A;split at z<;>first|(simp [ah]at z;subst z;simp[eqGuard,binOp,Op.intCmp,Op.intArith,B8,db,gD];done)|(split at z<;>first|(cases z;done)|(rename_i L;simp[ah]at z;subst z;simp[eqGuard,binOp,Op.intDiv,B8,show b≠0 from by simpa using L];done))|(cases z;done)
  .cases z
 next a b=>split at z<;>first|(simp [ah]at z;subst z;simp[eqGuard,binOp,Op.stringOp,tY,Ul];done)|(cases z;done)
 .cases z
def aqs {s:Sem Value} {w':World} (z:s.run P w= .ok v w'):(do let x<-s;pure (Next.value x):Sem Next).run P w= .ok (.value v) w':=by
 simp[z]
def arw {op:BinOp} {y:Operand} {D:TypeId} (A:o.op= .binOp op s c y D) (z:dA (.bin op c y) e h nx=Z R):gF P o e.get h.get R.eff:=by
 simp[dA]at z;split at z
 .rename_i u v hx L;split at z
  .rename_i r hr;rw[du z];refine gF.reads λφ E h' w a _ hop _=>?_
   have h1:=fE (hop c _ (by rw[A];simp[Op.operands]) hx);have h2:=fE (hop y _ (by rw[A];simp[Op.operands]) L);refine ⟨r,?_,.f (.raw _)⟩;unfold execOp;rw[A];simp only[h1,h2];exact aqs (aho (P:=P) (t:=s) hr c y w)
  .cases z
 .cases z
def ZB (z:P.underlying s=Z .bool) (u v:Bool) (w:World):(Op.equal s (.bool u) (.bool v)).run P w= .ok (u==v) w:=by
 have key:∀d,(Op.equalIn (d+1) s (.bool u) (.bool v)).run P w= .ok (u==v) w:=λd=>by simp[Op.equalIn,run_underlying z]
 exact key 9999
def WD {D:TypeId} (z:P.underlying s=Z (.slice D)) (A:M Addr) (n c:Nat) (w:World):(Op.equal s (.slice A n c) (.slice U 0 0)).run P w= .ok A.isNone w:=by
 have key:∀d,(Op.equalIn (d+1) s (.slice A n c) (.slice U 0 0)).run P w= .ok A.isNone w:=λd=>by cases A<;>simp[Op.equalIn,run_underlying z]
 exact key 9999
def arv {neg:Bool} {op:BinOp} {y:Operand} {D:TypeId} (A:o.op= .binOp op s c y D) (hop:op=if neg then .neq else .eql) (hu:P.underlying s=Z .bool) (z:dA (.xj neg c y) e h nx=Z R):gF P o e.get h.get R.eff:=by
 simp[dA]at z;split at z
 .rename_i u v hx L;rw[du z];refine gF.reads λφ E h' w a _ hp _=>?_
  have h1:=fE (hp c _ (by rw[A];simp[Op.operands]) hx);have h2:=fE (hp y _ (by rw[A];simp[Op.operands]) L);refine ⟨_,?_,.f (.raw _)⟩;unfold execOp;rw[A];simp[h1,h2];subst hop;cases neg<;>simp[eqGuard,binOp,ZB hu]
 .cases z
def adi {neg:Bool} {op:BinOp} {y:Operand} {t' el:TypeId} (ho:o.op= .binOp op s c y t') (hop:op=if neg then .neq else .eql) (hy:y= .const (.slice U 0 0)) (hu:P.underlying s=Z (.slice el)) (L:dA (.zd neg c) e h nx=Z R):gF P o e.get h.get R.eff:=by
 have key:∀(v:Value) (w:World) (ρ:Operand->Value) (A:M Addr) (n x:Nat),ρ c= .slice A n x->ρ y= .slice U 0 0->(execOp ρ o).run P w= .ok (.value (.bool (A.isNone !=neg))) w:=by
  intro v w ρ A n x h1 h2;unfold execOp;rw[ho];simp[h1,h2];subst hop;cases neg<;>simp[eqGuard,binOp,WD hu]
 have hyv:∀a:Act,a.eval y= .slice U 0 0:=λa=>by rw[hy];rfl
 simp[dA]at L;split at L
 .rename_i id sz n D;rw[du L];refine gF.reads λφ E h' w a _ hp _=>?_
  have h1:=hp c _ (by rw[ho];simp[Op.operands]) D;generalize hz:a.eval c=z at h1;cases h1 with
  |I hφ hn hc hs=>exact⟨_,key (.bool J) w a.eval _ _ _ hz (hyv a),by simpa[raw] using cf.f (.raw _)⟩
 .rename_i id off n D;rw[du L];refine gF.reads λφ E h' w a _ hp _=>?_
  have h1:=hp c _ (by rw[ho];simp[Op.operands]) D;generalize hz:a.eval c=z at h1;cases h1 with
  |sl hφ hn hc=>exact⟨_,key (.bool J) w a.eval _ _ _ hz (hyv a),by simpa[raw] using cf.f (.raw _)⟩
 .rename_i cells n D;rw[du L];refine gF.reads λφ E h' w a _ hp _=>?_
  have h1:=hp c _ (by rw[ho];simp[Op.operands]) D;generalize hz:a.eval c=z at h1;cases h1 with
  |f h1=>
   cases h1 with
   |sl=>exact⟨_,key (.bool J) w a.eval _ _ _ hz (hyv a),by simpa[raw] using cf.f (.raw _)⟩
 .rename_i cells D;rw[du L];refine gF.reads λφ E h' w a _ hp _=>?_
  have h1:=hp c _ (by rw[ho];simp[Op.operands]) D;generalize hz:a.eval c=z at h1;cases h1 with
  |f h1=>
   cases h1 with
   |_=>exact⟨_,key (.bool J) w a.eval _ _ _ hz (hyv a),.qw⟩
 .rename_i D;rw[du L];refine gF.reads λφ E h' w a _ hp _=>?_
  have h1:=hp c _ (by rw[ho];simp[Op.operands]) D;generalize hz:a.eval c=z at h1;cases h1 with
  |emp=>exact⟨_,key (.bool J) w a.eval _ _ _ hz (hyv a),.qw⟩
 .rename_i v D;split at L
  .rename_i hv;rw[du L];refine gF.reads λφ E h' w a _ hp _=>?_
   have h1:=fE (hp c _ (by rw[ho];simp[Op.operands]) D);unfold Dm at hv;split at hv
   .exact⟨_,key (.bool J) w a.eval _ _ _ h1 (hyv a),by simpa[raw] using cf.f (.raw _)⟩
   .cases hv
  .cases L
 .cases L
def gH (z:fQ P s=Z i) (w:World):(sizeOf s).run P w= .ok i w:=by
 unfold fQ at z;cases hi:P.info? s with
 |none=>rw[hi]at z;cases z
 |some sz=>rw[hi]at z;simp at z;simp[sizeOf,typeInfo,program,hi,kU,z]
def U' (z:HC P s=Z b) (w:World):(isAgg s).run P w= .ok b w:=by
 unfold HC at z;cases hi:P.underlying s with
 |none=>rw[hi]at z;cases z
 |some d=>
  rw[hi]at z;simp[bh,ah]at z;rw[<- z];simp[isAgg,fH,run_underlying hi,cW];cases d<;>rfl
def kT (b off i:Nat):(⟨b,off,U⟩:Addr).add i=⟨b,off+i,U⟩:=by
 unfold Addr.add;split<;>simp_all
variable {E:Array Field}
def U_ {f:Field} (A:P.underlying s=Z (.struct E)) (hf:E[i]? =Z f) (D:fQ P f.type=Z j) (h0:j≠0) (w:World) (b k:Nat):
 (Instr.fieldAt s (.pointer (Z ⟨b,k,U⟩)) i).run P w= .ok (.pointer (Z ⟨b,k+f.offset,U⟩)) w:=by
 have h1:=gH D w;simp[Instr.fieldAt,run_underlying A,hf,Instr.sureAddr,fieldPlace,h1,h0,kT]
def axu {f:Field} (ho:o.op= .fieldAddr s c i) (hu:P.underlying s=Z (.struct E)) (hf:E[i]? =Z f) (hs:fQ P f.type=Z j) (h0:j≠0) (A:dA (.jb f.offset c) e h nx=Z R):gF P o e.get h.get R.eff:=by
 have key:∀(w:World) (ρ:Operand->Value) (b k:Nat),ρ c= .pointer (Z ⟨b,k,U⟩)->(execOp ρ o).run P w= .ok (.value (.pointer (Z ⟨b,k+f.offset,U⟩))) w:=by
  intro w ρ b k h1;unfold execOp;rw[ho];simp only[h1];exact aqs (U_ hu hf hs h0 w b k)
 simp[dA]at A;split at A
 .rename_i id off L;rw[du A];refine gF.reads λφ fs h' w a _ hp _=>?_
  have h1:=hp c _ (by rw[ho];simp[Op.operands]) L;generalize D:a.eval c=z at h1;cases h1 with
  |P hφ=>exact⟨_,key w a.eval _ _ D,.P hφ⟩
 .rename_i cells off L;rw[du A];refine gF.reads λφ fs h' w a _ hp _=>?_
  have h1:=hp c _ (by rw[ho];simp[Op.operands]) L;generalize D:a.eval c=z at h1;cases h1 with
  |f h1=>
   cases h1 with
   |P _ _ b base us hO hb hcl hu hr=>
    refine ⟨_,key w a.eval _ _ D,.f ?_⟩;rw[uI];exact .P cells _ b base us hO hb hcl hu hr
 .cases A
def Nz {z:TypeId} {y:Operand} {off n x:Nat} {k:IntKind} {sz:Int} {ρ:Operand->Value} (ho:o.op= .indexAddr s c y) (L:P.underlying s=Z (.slice z)) (hs:fQ P z=Z i) (D:ρ c= .slice (Z ⟨j,off,U⟩) n x) (A:ρ y= .int k sz) (h0:0<=sz) (h1:sz<n):
 (execOp ρ o).run P w= .ok (.value (.pointer (Z ⟨j,off+sz.toNat*i,U⟩))) w:=by
 have h2:=gH hs w;unfold execOp;rw[ho];simp[D,A,Instr.indexAt,asIntOf,run_underlying L,h2,h0,h1,kT]
def axs {el:TypeId} {y:Operand} (ho:o.op= .indexAddr s c y) (hu:P.underlying s=Z (.slice el)) (hs:fQ P el=Z i) (A:dA (.jf i c y) e h nx=Z R):gF P o e.get h.get R.eff:=by
 simp[dA]at A;split at A
 .rename_i v k j hx hy;have hyv:∀{φ:PM} {E:Nat->Prop} {h':HF} {w:World} {a:Act},Yo φ E h' w a e o->a.eval y= .int k j:=λhp=>fE (hp y _ (by rw[ho];simp[Op.operands]) hy)
  split at A
  .split at A
   .rename_i id sz' n L;simp[db,gD,al,bE,cY]at L;obtain⟨⟨rfl,h0⟩,h1⟩:=L;rw[du A];refine gF.reads λφ E h' w a _ hp _=>?_
    have D:=hp c _ (by rw[ho];simp[Op.operands]) hx;generalize hz:a.eval c=z at D;cases D with
    |I hφ hn hc' hsh=>
     refine ⟨_,Nz ho hu hs hz (hyv hp) h0 h1,?_⟩;rw[bX];exact .P hφ
   .cases A
  .split at A
   .rename_i id off n L;simp[db,gD,al,bE]at L;let⟨h0,h1⟩:=L;rw[du A];refine gF.reads λφ E h' w a _ hp _=>?_
    have D:=hp c _ (by rw[ho];simp[Op.operands]) hx;generalize hz:a.eval c=z at D;cases D with
    |sl hφ hn hc'=>exact⟨_,Nz ho hu hs hz (hyv hp) h0 h1,.P hφ⟩
   .cases A
  .split at A
   .rename_i cells n L;simp[db,gD,al,bE]at L;let⟨h0,h1⟩:=L;rw[du A];refine gF.reads λφ E h' w a _ hp _=>?_
    have D:=hp c _ (by rw[ho];simp[Op.operands]) hx;generalize hz:a.eval c=z at D;cases D with
    |f D=>
     cases D with
     |nil=>omega
     |sl _ _ x b base us hn hc' hO hb hcl hu' hr'=>exact⟨_,Nz ho hu hs hz (hyv hp) h0 h1,.f (.P cells _ b base us hO hb hcl hu' hr')⟩
   .cases A
  .cases A
 .cases A
def au9 {el:TypeId} {y:Operand} (L:o.op= .indexAddr s c y) (hu:P.underlying s=Z (.array i el)) (hs:fQ P el=Z j) (A:dA (.jv i j c y) e h nx=Z R):gF P o e.get h.get R.eff:=by
 have key:∀(w:World) (ρ:Operand->Value) (b off:Nat) (k:IntKind) (n:Int),ρ c= .pointer (Z ⟨b,off,U⟩)->ρ y= .int k n->0<=n->n<i->(execOp ρ o).run P w= .ok (.value (.pointer (Z ⟨b,off+n.toNat*j,U⟩))) w:=by
  intro w ρ b off k n h1 h2 h3 h4;have h5:=gH hs w;unfold execOp;rw[L];simp[h1,h2,Instr.indexAt,asIntOf,run_underlying hu,h5,h3,h4,kT,Instr.sureAddr]
 simp[dA]at A;split at A
 .rename_i v k sz hx hy;split at A
  .rename_i hc;simp[db,gD,al,bE]at hc;let⟨h0,h1⟩:=hc;split at A
   .rw[du A];refine gF.reads λφ E h' w a _ hp _=>?_
    have D:=hp c _ (by rw[L];simp[Op.operands]) hx;have hyv:=fE (hp y _ (by rw[L];simp[Op.operands]) hy);generalize hz:a.eval c=z at D;cases D with
    |P hφ=>exact⟨_,key w a.eval _ _ k sz hz hyv h0 h1,.P hφ⟩
   .rw[du A];refine gF.reads λφ E h' w a _ hp _=>?_
    have D:=hp c _ (by rw[L];simp[Op.operands]) hx;have hyv:=fE (hp y _ (by rw[L];simp[Op.operands]) hy);generalize hz:a.eval c=z at D;cases D with
    |f D=>
     cases D with
     |P _ _ b base us hO hb hcl hu' hr'=>
      refine ⟨_,key w a.eval _ _ k sz hz hyv h0 h1,.f ?_⟩;rw[uI];exact .P _ _ b base us hO hb hcl hu' hr'
   .cases A
  .cases A
 .cases A
def axv (L:o.op= .extract c i) (A:dA (.ext c i) e h nx=Z R):gF P o e.get h.get R.eff:=by
 simp[dA]at A;split at A
 .rename_i l hx;split at A
  .rename_i v hv;rw[du A];refine gF.reads λφ E h' w a _ hp _=>?_
   have D:=hp c _ (by rw[L];simp[Op.operands]) hx;generalize hz:a.eval c=z at D;cases D with
   |@qb _ vs hl hrr=>
    have hlt:i<l! vs:=by grind
    refine ⟨vs[i],?_,hrr i v _ hv (aG hlt)⟩;unfold execOp;rw[L];simp[hz,Instr.extract,hlt]
  .cases A
 .cases A
def axp {y:Operand} {D:Array TypeId} (A:o.op= .call {callee:=.builtin .max,args:=#[c,y],argTypes:=D}) (z:dA (.max c y) e h nx=Z R):gF P o e.get h.get R.eff:=by
 simp[dA]at z;split at z
 .rename_i k a b k' hx L;rw[du z];refine gF.reads λφ E h' w a _ hp _=>?_
  have h1:=fE (hp c _ (by rw[A];simp[Op.operands,dD]) hx);have h2:=fE (hp y _ (by rw[A];simp[Op.operands,dD]) L);refine ⟨_,?_,.f (.raw _)⟩;unfold execOp;rw[A];simp[resolve,invoke,builtin,Builtin.max_,Builtin.max2,h1,h2,gD]
 .cases z
def axo {y:Operand} {D:Array TypeId} (A:o.op= .call {callee:=.builtin .min,args:=#[c,y],argTypes:=D}) (z:dA (.min c y) e h nx=Z R):gF P o e.get h.get R.eff:=by
 simp[dA]at z;split at z
 .rename_i k a b k' hx L;rw[du z];refine gF.reads λφ E h' w a _ hp _=>?_
  have h1:=fE (hp c _ (by rw[A];simp[Op.operands,dD]) hx);have h2:=fE (hp y _ (by rw[A];simp[Op.operands,dD]) L);refine ⟨_,?_,.f (.raw _)⟩;unfold execOp;rw[A];simp[resolve,invoke,builtin,Builtin.min_,Builtin.min2,h1,h2,gD]
 .cases z
def axj {k:IntKind} (L:o.op= .unOp .neg s c) (A:dA (.bin .sub (.const (.int k 0)) c) e h nx=Z R):gF P o e.get h.get R.eff:=by
 simp[dA,mb,I4]at A;split at A
 .rename_i u v hu hx;cases hu;split at A
  .rename_i r z;rw[du A];refine gF.reads λφ E h' w a _ hop _=>?_
   have h1:=fE (hop c _ (by rw[L];simp[Op.operands]) hx);refine ⟨r,?_,.f (.raw _)⟩;unfold execOp;rw[L];cases v<;>simp only[w_]at z<;>try (cases z;done)
   split at z
   next D=>have D:=eq_of_beq D;subst D;simp[ah]at z;subst z;simp[h1,Op.unary,Op.intArith,B8]
   .cases z
  .cases A
 .cases A
def au1 {i:Operand} (A:o.op= .index s c i) (hu:P.underlying s=Z .string) (z:dA (.jx c i) e h nx=Z R):gF P o e.get h.get R.eff:=by
 simp only[dA]at z;split at z
 .rename_i t k j L hi;split at z
  .rename_i h0;simp[db,bE]at h0;split at z
   .rename_i b D;rw[du z];refine gF.reads λφ E h' w a _ hop _=>?_
    have h1:=fE (hop c _ (by rw[A];simp[Op.operands]) L);have h2:=fE (hop i _ (by rw[A];simp[Op.operands]) hi);refine ⟨_,?_,.f (.raw _)⟩;have hs:t[j.toNat]? =Z b:=by
     rw[c9]at D;let⟨hl,he⟩:=dz.1 D;exact getElem?_pos t j.toNat hl▸eO Z he
    unfold execOp;rw[A];simp[Instr.index,run_underlying hu,h1,h2,asIntOf,h0,hs]
   .cases z
  .cases z
 .cases z
variable {f:FuncId}
def axn {caps:Array Operand} (L:o.op= .makeFunc (.func f) #[] caps) (A:dA (.mkf f caps.toList) e h nx=Z R):gF P o e.get h.get R.eff:=by
 simp[dA]at A;split at A
 .rename_i l hl;rw[du A];refine gF.reads λφ E h' w a _ hp _=>?_
  refine ⟨_,by unfold execOp;rw[L];rfl,?_⟩;have key:∀(xs:Y Operand) (z:Y AV),(∀x∈xs,x∈o.op.operands)->evs e xs=Z z->l! z=l! xs/\∀(j:Nat) x v,z[j]? =Z x->(xs.map a.eval)[j]? =Z v->cf φ (tot E φ h') w x v:=by
   intro xs;induction xs with
   |nil=>intro z _ h;simp[evs,ah]at h;subst h;exact⟨rfl,λj x v D=>by simp at D⟩
   |cons x xs ih=>
    intro z hm h;simp[evs]at h
    grind
  let⟨h1,h2⟩:=key caps.toList l (λx D=>by rw[L];simpa[Op.operands] using D) hl;have h3:(caps.map a.eval)=(caps.toList.map a.eval).toArray:=by grind
  have h4:(#[]:Array Operand).map a.eval=#[]:=by simp
  rw[h4,h3];exact .qy (by grind) h2
 .cases A
end pure
section
variable {P:Program} {o:Oper} {e:ED} {h:ny} {nx:Nat} {R:Dz}
def aaz {α:Type} {l cs:Y α} (h:i+j<=l! l) (he:(l.drop i).take j=cs):l! cs=j/\∀(sz:Nat) x,cs[sz]? =Z x->l[i+sz]? =Z x:=by grind
def AW (f:Nat->Value) (n j:Nat) (v:Value) (h:((e_ n).map f)[j]? =Z v):v=f j/\j<n:=by grind
def Bl (φ:PM) (O:Nat->Prop) (w:World) (c:BC) (f:Nat->M Value):Prop:=∀j x,c.get j=Z x->x.isCell=J/\∃v,f j=Z v/\cf φ O w x v
def aay {c:BC} (z:c.sub? i j b=Z y) {f:Nat->M Value} (hc:Bl V O w c f):
 ∃cs:ξ,l! cs=j/\(∀(sz:Nat) v,cs[sz]? =Z v->f (i+sz)=Z v)/\(b=af->j=1)/\cf V O w y (if b then .agg cs.toArray else cs.getD 0 undef):=by
 cases b with
 |false=>
  simp[BC.sub?]at z;split at z
  .obtain⟨h0,v,h1,D⟩:=hc i y z;exact⟨[v],rfl,λsz u hu=>by cases sz with|zero=>simp at hu;subst hu;exact h1|succ sz=>simp at hu,λ_=>rfl,by simpa using D⟩
  .cases z
 |true=>
  have fin:∀(g:Nat->M AV),(∀sz,sz<j->∃x,g sz=Z x/\c.get (i+sz)=Z x)->
   ∃cs:ξ,l! cs=j/\(∀(sz:Nat) v,cs[sz]? =Z v->f (i+sz)=Z v)/\∀(sz:Nat) x v,g sz=Z x->cs[sz]? =Z v->cf V O w x v:=by
   intro g L;refine ⟨(e_ j).map λsz=>(f (i+sz)).getD undef,by simp,λsz v hv=>?_,λsz x v hx hv=>?_⟩
   .obtain⟨rfl,A⟩:=AW _ _ _ _ hv;let⟨x,_,D⟩:=L sz A;let⟨_,v,h3,_⟩:=hc _ _ D;rw[h3];rfl
   .obtain⟨rfl,A⟩:=AW _ _ _ _ hv;let⟨x',h1,D⟩:=L sz A;rw[hx]at h1;cases h1;let⟨_,v,h3,h4⟩:=hc _ _ D;rw[h3];exact h4
  simp only[BC.sub?]at z;split at z
  .rename_i l;split at z
   .rename_i hle;simp[ah]at z;subst z;let⟨hl,L⟩:=aaz (aT hle) (rfl:(l.drop i).take j=_);let⟨cs,h1,D,h3⟩:=fin (λsz=>(((l.drop i).take j)[sz]?).map AV.f) (λsz A=>by
     have hlt:sz<l! ((l.drop i).take j):=by omega
     refine ⟨.f ((l.drop i).take j)[sz],by simp[aG hlt,bh],?_⟩;simp[BC.get,L sz _ (aG hlt),bh])
    refine ⟨cs,h1,D,nofun,.f (.agg _ _ (by omega) ?_ ?_)⟩
    .intro x hx;let⟨sz,A⟩:=fI hx;exact (hc (i+sz) (.f x) (by simp[BC.get,L sz x A,bh])).1
    .intro sz x v hx hv;have:=h3 sz (.f x) v (by grind) hv;cases this with
     |f h=>exact h
   .cases z
  .rename_i l;split at z
   .rename_i hle;simp[ah]at z;subst z;let⟨hl,L⟩:=aaz (aT hle) (rfl:(l.drop i).take j=_);let⟨cs,h1,D,h3⟩:=fin (λsz=>(((l.drop i).take j)[sz]?)) (λsz A=>by
     have hlt:sz<l! ((l.drop i).take j):=by omega
     exact⟨_,aG hlt,L sz _ (aG hlt)⟩)
    refine ⟨cs,h1,D,nofun,.agg (by omega) ?_ ?_⟩
    .intro x hx;let⟨sz,A⟩:=fI hx;exact (hc (i+sz) x (L sz x A)).1
    .omega
   .cases z
  .cases z
variable {s:TypeId}
def Sq (hs:fQ P s=Z i) (ha:HC P s=Z b) (w:World) (z off:Nat) (cs:ξ) (A:l! cs=i) (D:∀(j:Nat) v,cs[j]? =Z v->w.cell? ⟨z,off+j,U⟩=Z v) (h1:b=af->i=1):
 (loadVar s ⟨z,off,U⟩).run P w= .ok (if b then .agg cs.toArray else cs.getD 0 undef) w:=by
 unfold loadVar;simp[fH,U' ha w,cW];cases b with
 |true=>
  simp[bk,fH,gH hs w,cW];rw[<- A,run_loadCells_list (P:=P) w ⟨z,off,U⟩ cs (λj v L=>by rw[kT];exact D j v L)];rfl
 |false=>
  have h1:=h1 rfl;cases cs with
  |nil=>simp at A;omega
  |cons v r=>
   have:=D 0 v rfl;simp_all
def MO {φ:PM} {z:Bool} (D:fQ P s=Z i) (ha:HC P s=Z z) {c:BC} {b base:Nat} (A:c.sub? j i z=Z y)
 (hc:Bl φ O w c λoff=>w.cell? ⟨b,base+off,U⟩):∃v,(loadVar s ⟨b,base+j,U⟩).run P w= .ok v w/\cf φ O w y v:=by
 let⟨cs,h1,h2,h3,h4⟩:=aay A hc;exact⟨_,Sq D ha w b (base+j) cs h1 (λoff v L=>by rw[uI];exact h2 off v L) h3,h4⟩
def XP (hrep:sC V O S w) (L:S i=Z N) (A:V i=Z j) (D:N.c.isCells=J):Bl V (tot O V S) w N.c λk=>w.cell? ⟨j,0+k,U⟩:=by
 let⟨k',h1,_,h2⟩:=hrep.at_ i N L;rw[A]at h1;cases h1;let⟨arr,h3,h4,h5⟩:=h2.cells D;intro k x z;let⟨c1,v,c2,c3⟩:=h5 k x z;exact⟨c1,v,by simp[R6,h3,c2],c3⟩
def aa6 {cells:Y FV} {D:Nat->Value} (hcl:∀x∈cells,x.isCell=J) (L:∀base,base<l! cells->w.cell? ⟨i,j+base,U⟩=Z (D base)) (hr:∀(base:Nat) x,cells[base]? =Z x->nu O w x (D base)):
 Bl V O w (.fz cells) λbase=>w.cell? ⟨i,j+base,U⟩:=by
 intro base y z;simp only[BC.get]at z;cases A:cells[base]? with
 |none=>rw[A]at z;cases z
 |some q=>
  rw[A]at z;simp at z;subst z;have hj:base<l! cells:=(bz.1 A).1;exact⟨hcl q (a8 A),D base,L base hj,.f (hr base q A)⟩
def UR {c:BC} (h:c.sub? i j b=Z y):c.isCells=J:=by
 cases c with
 |fz|mx=>rfl
 |_=>cases b<;>simp[BC.sub?,BC.get]at h<;>(try split at h)<;>cases h
def XX (hs:fQ P s=Z i) (hag:HC P s=Z b) (z:xT h i b y=Z R):
 R.wr=[]/\R.nw=[]/\R.N=[]/\∀(φ:PM) (E:Nat->Prop) (h':HF) (w:World) (D:Value),(∀sz∈R.rd,h' sz=h.get sz)->sC φ E h' w->cf φ (tot E φ h') w y D->
  ∃ad v,D= .pointer (Z ad)/\(loadVar s ad).run P w= .ok v w/\cf φ (tot E φ h') w R.val v:=by
 unfold xT at z;split at z
 .rename_i id off;split at z
  .rename_i ag hb;split at z
   .rename_i v L;simp[ah]at z;subst z;refine ⟨rfl,rfl,rfl,λφ E h' w D hrd hrep A=>?_⟩;have hh:h' id=Z ag:=by grind
    cases A with
    |@P _ _ k hφ=>
     let⟨u,h1,h2⟩:=MO hs hag (w:=w) (b:=k) (base:=0) L (XP hrep hh hφ (UR L))
     grind
   .cases z
  .cases z
 .rename_i cells off;split at z
  .rename_i v L;rw[du z];refine ⟨rfl,rfl,rfl,λφ E h' w D hrd hrep A=>?_⟩;cases A with
   |f A=>
    cases A with
    |P _ _ ag base us hO hb hcl hu A=>
     let⟨u,h1,h2⟩:=MO (φ:=φ) (O:=tot E φ h') hs hag (w:=w) (b:=ag) (base:=base) L (aa6 hcl hu A);exact⟨_,u,rfl,h1,h2⟩
  .cases z
 .cases z
def au5 (A:o.op= .load s c) (hs:fQ P s=Z i) (hag:HC P s=Z b) (z:dA (.load i b c) e h nx=Z R):gF P o e.get h.get R.eff:=by
 simp[dA]at z;split at z
 .rename_i p L;let⟨h1,h2,h3,h4⟩:=XX hs hag z;let⟨val,rd,wr,nw,N⟩:=R;subst h1 h3;refine gF.reads λφ E h' w a hrd hp hrep=>?_
  let⟨ad,v,h5,h6,h7⟩:=h4 φ E h' w _ hrd hrep (hp c _ (by rw[A];simp[Op.operands]) L);refine ⟨v,?_,h7⟩;unfold execOp;rw[A];simp[Instr.loadAt,h5,Instr.sureAddr,h6]
 .cases z
variable {L:ξ}
def abg {φ:PM} (D:fQ P s=Z i) (hag:HC P s=Z b) {c:BC} (A:c.sub? j i b=Z y) 
 (vs:Bl φ O w c λoff=>L[off]?):∃v,(part s L.toArray j).run P w= .ok v w/\cf φ O w y v:=by
 let⟨cs,h1,h2,h3,h4⟩:=aay A vs;refine ⟨_,?_,h4⟩;unfold part;simp only[fH,U' hag w,cW];cases b with
 |true=>
  simp only[bk,fH,gH D w,cW];have:L.toArray.extract j (j+i)=cs.toArray:=by
   apply Array.ext';apply R'
   grind
  rw[this];rfl
 |false=>
  have h5:=h3 rfl;cases cs with
  |nil=>simp at h1;omega
  |cons v r=>
   have:=h2 0 v rfl;simp_all
variable {r:Y AV}
def XQ (vs:l! L=l! r) (hcl:∀x∈r,x.isCell=J) (D:∀(j:Nat) x v,r[j]? =Z x->L[j]? =Z v->cf V O w x v):Bl V O w (.mx r) λj=>L[j]? :=by
 intro j x z;simp[BC.get]at z;have A:j<l! L:=by grind
 exact⟨hcl x (a8 z),L[j],aG A,D j x _ z (aG A)⟩
def Ui {l:Y FV} (hl:l! L=l! l) (hcl:∀x∈l,x.isCell=J) (vs:∀(j:Nat) x v,l[j]? =Z x->L[j]? =Z v->nu O w x v):Bl V O w (.fz l) λj=>L[j]? :=by
 intro j x z;simp only[BC.get]at z;cases A:l[j]? with
 |none=>rw[A]at z;cases z
 |some q=>
  rw[A]at z;simp at z;subst z;have D:j<l! L:=by grind
  exact⟨hcl q (a8 A),L[j],aG D,.f (vs j q _ A (aG D))⟩
def O0 (hs:fQ P s=Z i) (hag:HC P s=Z b) (A:cf V O w y v) {val:AV}
 (D:(∃l,y= .agg l/\(BC.mx l).sub? j i b=Z val)\/(∃l,y= .f (.agg l)/\(BC.fz l).sub? j i b=Z val)):∃cs z,v= .agg cs/\(part s cs j).run P w= .ok z w/\cf V O w val z:=by
 rcases D with ⟨l,rfl,D⟩|⟨l,rfl,D⟩
 .cases A with
  |agg L hcl A=>
   let⟨z,h1,h2⟩:=abg hs hag D (XQ L hcl A);exact⟨_,z,rfl,h1,h2⟩
 .cases A with
  |f A=>
   cases A with
   |agg _ vs L hcl A=>
    let⟨z,h1,h2⟩:=abg (φ:=V) hs hag D (Ui L hcl A);exact⟨_,z,rfl,h1,h2⟩
variable {E:Array Field}
def axt {f:Field} (A:o.op= .field s c i) (hu:P.underlying s=Z (.struct E)) (hf:E[i]? =Z f) (hs:fQ P f.type=Z j) (hag:HC P f.type=Z b) (ha:dA (.fld f.offset j b c) e h nx=Z R):gF P o e.get h.get R.eff:=by
 have fin:∀(y:AV) (val:AV),mb e c=Z y->((∃l,y= .agg l/\(BC.mx l).sub? f.offset j b=Z val)\/(∃l,y= .f (.agg l)/\(BC.fz l).sub? f.offset j b=Z val))->rv val=Z R->gF P o e.get h.get R.eff:=by
  intro y val L hv hR;rw[du hR];refine gF.reads λφ D h' w a _ hp _=>?_
  let⟨cs,v,h1,h2,h3⟩:=O0 hs hag (hp c _ (by rw[A];simp[Op.operands]) L) hv;refine ⟨v,?_,h3⟩;unfold execOp;rw[A];simp[Instr.field,run_underlying hu,hf,h1,asAgg,h2]
 simp[dA]at ha
 grind
def axr {L:TypeId} {y:Operand} (D:o.op= .index s c y) (hu:P.underlying s=Z (.array i L)) (hs:fQ P L=Z j) (hag:HC P L=Z b) (z:dA (.idx i j b c y) e h nx=Z R):gF P o e.get h.get R.eff:=by
 simp[dA]at z;split at z
 .rename_i v0 k sz hx hy;split at z
  .rename_i hc;simp[db,gD,al,bE]at hc;let⟨h0,h1⟩:=hc;have fin:∀(val:AV),((∃l,v0= .agg l/\(BC.mx l).sub? (sz.toNat*j) j b=Z val)\/(∃l,v0= .f (.agg l)/\(BC.fz l).sub? (sz.toNat*j) j b=Z val))->rv val=Z R->gF P o e.get h.get R.eff:=by
    intro val hv hR;rw[du hR];refine gF.reads λφ E h' w a _ hp _=>?_
    have hyv:=fE (hp y _ (by rw[D];simp[Op.operands]) hy);let⟨cs,v,h3,h4,h5⟩:=O0 hs hag (hp c _ (by rw[D];simp[Op.operands]) hx) hv;refine ⟨v,?_,h5⟩;have h6:=gH hs w;unfold execOp;rw[D];simp[Instr.index,run_underlying hu,hyv,asIntOf,h3,h0,h1,h6,h4]
   grind
  .cases z
 .cases z
def au8 {el:TypeId} (ho:o.op= .call {callee:=.builtin .len,args:=#[c],argTypes:=#[s]}) (hu:P.underlying s=Z (.slice el)) (L:dA (.len c) e h nx=Z R):gF P o e.get h.get R.eff:=by
 simp[dA]at L;split at L
 .rename_i y hx;split at L
  .rename_i n hn;rw[du L];refine gF.reads λφ E h' w a _ hp _=>?_
   have D:=hp c _ (by rw[ho];simp[Op.operands,dD]) hx;refine ⟨_,?_,.f (.raw _)⟩;have hz:∃A x,a.eval c= .slice A n x:=by
    generalize a.eval c=z at D;unfold AV.slen at hn;split at hn<;>try (simp [ah]at hn;subst hn)
    .cases D with
     |f D=>cases D with
      |nil|sl=>exact⟨_,_,rfl⟩
    .cases fE D;exact⟨_,_,rfl⟩
    .cases D;exact⟨_,_,rfl⟩
    .cases D;exact⟨_,_,rfl⟩
    .cases D;exact⟨_,_,rfl⟩
    .cases hn
   let⟨A,x,hz⟩:=hz;unfold execOp;rw[ho];simp[resolve,invoke,builtin,Builtin.len_,run_underlying hu,hz,goInt]
  .cases L
 .cases L
def au7 (A:o.op= .call {callee:=.builtin .len,args:=#[c],argTypes:=#[s]}) (L:P.underlying s=Z .string) (z:dA (.lens c) e h nx=Z R):gF P o e.get h.get R.eff:=by
 simp[dA]at z;split at z
 .rename_i t D;rw[du z];refine gF.reads λφ E h' w a _ hp _=>?_
  have hr:=fE (hp c _ (by rw[A];simp[Op.operands,dD]) D);refine ⟨_,?_,.f (.raw _)⟩;unfold execOp;rw[A];simp[resolve,invoke,builtin,Builtin.len_,run_underlying L,hr,goInt]
 .cases z
def au6 {k v:TypeId} (L:o.op= .call {callee:=.builtin .len,args:=#[c],argTypes:=#[s]}) (hu:P.underlying s=Z (.map k v)) (A:dA (.jy c) e h nx=Z R):gF P o e.get h.get R.eff:=by
 simp[dA]at A;split at A
 .rename_i id hx;split at A
  .rename_i es hid;simp[ah]at A;subst A;refine gF.reads λφ E h' w a hrd hp hrep=>?_
   have D:=hp c _ (by rw[L];simp[Op.operands,dD]) hx;have hh:h' id=Z ⟨0,.mp es⟩:=by grind
   generalize hz:a.eval c=z at D;cases D with
   |@mp _ b hφ=>
    let⟨b',h1,_,ob,h2,h3⟩:=hrep.at_ id _ hh;rw[hφ]at h1;cases h1;obtain⟨ents,clock,rfl,h4,_⟩:=h3;have h5:ents.size=l! es:=by have:=eO aj h4;simpa using this
    refine ⟨_,?_,.f (.raw _)⟩;unfold execOp;rw[L];simp[resolve,invoke,builtin,Builtin.len_,run_underlying hu,hz,goInt,getObj,kU,h2,h5]
  .cases A
 .cases A
end
structure Jc (w w':World) (k:Nat) (ob:Obj):Prop where
 os:w'.os=w.os
 tape:w'.tape=w.tape
 output:w'.output=w.output
 size:w'.heap.size=w.heap.size
 at_:w'.heap[k]? =Z ob
 other:∀j,j≠k->w'.heap[j]? =w.heap[j]?
 xz:∀j,w'.shape? j=w.shape? j
structure X5 (w w':World) (ob:Obj):Prop where
 os:w'.os=w.os
 tape:w'.tape=w.tape
 output:w'.output=w.output
 size:w'.heap.size=w.heap.size+1
 at_:w'.heap[w.heap.size]? =Z ob
 other:∀j,j<w.heap.size->w'.heap[j]? =w.heap[j]?
def sC.wset {w':World} (r:sC V O S w) {id:Nat} {b':kH} {ob:Obj} (hb:S id=Z N) (L:V id=Z i) (A:Jc w w' i ob) (hob:ij V (tot O V S) w b' ob) (D:HF) (hnw:D id=Z b'):
 kl V V S (fx S [id] D) w w'/\sC V O (fx S [id] D) w':=by
 have hdom:∀k,(∃x,fx S [id] D k=Z x)↔∃x,S k=Z x:=λk=>by
  unfold fx
  grind
 have hown:∀j,own V (fx S [id] D) j↔own V S j:=λj=>by
  constructor
  .rintro⟨k,x,h1,z⟩;let⟨y,hy⟩:=(hdom k).1 ⟨x,h1⟩;exact⟨k,y,hy,z⟩
  .rintro⟨k,x,h1,z⟩;let⟨y,hy⟩:=(hdom k).2 ⟨x,h1⟩;exact⟨k,y,hy,z⟩
 have m:kl V V S (fx S [id] D) w w':=by
  refine ⟨λ_ _ S=>S,⟨A.os,A.tape,A.output,by rw[A.size];exact bJ _,λj hj ho=>?_,λj _=>A.xz j⟩,λj _ S=>(hown j).1 S⟩;exact A.other j (λe=>ho (e▸⟨id,N,hb,L⟩))
 refine ⟨m,⟨λk j x y kk hi hj h1 z=>?_,λk x hi=>?_,λi L=>dy (r.el i L) m.ext.size,λg cells hg=>m.keepF (r.gl g cells hg)⟩⟩
 .obtain⟨x',hx'⟩:=(hdom k).1 ⟨x,hi⟩;let⟨y',hy'⟩:=(hdom j).1 ⟨y,hj⟩;exact r.inj k j x' y' kk hx' hy' h1 z
 .by_cases hid:k=id
  .subst hid;have:x=b':=by unfold fx at hi;simp[hnw]at hi;exact hi.symm
   subst this;let⟨k',h1,z,_⟩:=r.at_ k N hb;rw[L]at h1;cases h1;exact⟨i,L,z,ob,A.at_,hob.mono λ_ _ S=>m.zw S⟩
  .have hx:S k=Z x:=by unfold fx at hi;simpa[hid] using hi
   let⟨k',h1,z,ob',h3,h4⟩:=r.at_ k x hx;have hne:k'≠i:=λe=>hid (r.inj k id x N i hx hb (e▸h1) L)
   exact⟨k',h1,z,ob',by rw[A.other k' hne];exact h3,h4.mono λ_ _ S=>m.zw S⟩
def sC.wnew {w':World} (r:sC V O S w) {id:Nat} (hid:V id=U) {b:kH} {ob:Obj} (A:X5 w w' ob) (hob:ij V (tot O V S) w b ob) (del:ι) (L:HF) (hnw:L id=Z b) (hdel:∀i∈del,i≠id->L i=U):
 ∃φ',φ' id=Z w.heap.size/\kl V φ' S (fx S (id::del) L) w w'/\(∀i k,φ' i=Z k->V i=Z k\/i∈[id])/\sC φ' O (fx S (id::del) L) w':=by
 have hsub:∀i x,fx S (id::del) L i=Z x->i≠id->S i=Z x/\i∉del:=λi x hx hi=>by
  unfold fx at hx
  grind
 have hlt:∀i x k,S i=Z x->V i=Z k->k<w.heap.size:=λi x k hi hk=>by
  let⟨k',h1,_,ob',h3,_⟩:=r.at_ i x hi
  grind
 have hφ:∀i,i≠id->(if i=id then Z w.heap.size else V i)=V i:=λi hi=>by simp[hi]
 have m:kl V (λi=>if i=id then Z w.heap.size else V i) S (fx S (id::del) L) w w':=by
  refine ⟨λi k hk=>?_,⟨A.os,A.tape,A.output,by rw[A.size];omega,λj hj _=>A.other j hj,λj hj=>?_⟩,?_⟩
  .grind
  .unfold tL;rw[A.other j hj]
  .rintro j hj ⟨i,x,h1,D⟩;by_cases hi:i=id
   .simp[hi]at D;omega
   .have h3:V i=Z j:=by simpa[hi] using D
    exact⟨i,x,(hsub i x h1 hi).1,h3⟩
 refine ⟨_,by simp,m,λi k hk=>?_,⟨λi j x y k hi hj h1 D=>?_,λi x hi=>?_,λk hk=>dy (r.el k hk) m.ext.size,λg cells hg=>m.keepF (r.gl g cells hg)⟩⟩
 .grind
 .by_cases z:i=id
  .grind
  .rw[hφ i z]at h1;have hix:=(hsub i x hi z).1;by_cases hj':j=id
   .grind
   .rw[hφ j hj']at D;exact r.inj i j x y k hix (hsub j y hj hj').1 h1 D
 .by_cases z:i=id
  .subst z;have:x=b:=by unfold fx at hi;simp[hnw]at hi;exact hi.symm
   subst this;refine ⟨w.heap.size,by simp,λhe=>?_,ob,A.at_,hob.mono λ_ _ S=>m.zw S⟩;have:=r.el _ he;omega
  .obtain⟨k,h1,D,ob',h3,h4⟩:=r.at_ i x (hsub i x hi z).1;refine ⟨k,by rw[hφ i z];exact h1,D,ob',?_,h4.mono λ_ _ S=>m.zw S⟩;rw[A.other k (hlt i x k (hsub i x hi z).1 h1)];exact h3
def sX (w:World) (ob:Obj):X5 w {w with heap:=w.heap.push ob} ob:=by
 refine ⟨rfl,rfl,rfl,by simp,by simp,λj z=>?_⟩
 grind
def X5.drawn {w':World} {ob:Obj} (d:Nat) (h:X5 {w with drawn:=d} w' ob):X5 w w' ob:=⟨h.os,h.tape,h.output,h.size,h.at_,h.other⟩
def gF.makes {o:Oper} {e:ED} {rd:ι} 
 (hv:∀(φ:PM) (E:Nat->Prop) (h':HF) (w:World) (a:Act),(∀nx∈rd,h' nx=S nx)->Yo φ E h' w a e o->sC φ E h' w->
   ∃v w' ob,(execOp a.eval o).run T w= .ok (.value v) w'/\X5 w w' ob/\ij φ (tot E φ h') w N ob/\∀φ' O,φ' i=Z w.heap.size->cf φ' O w' y v):
 gF T o e.get S ⟨y,rd,[i],j9 [(i,N)],[i]⟩:=by
 intro φ E h' w a h1 h2 h3 z h5;let⟨v,w',ob,hrun,L,hob,hval⟩:=hv φ E h' w a h1 (λx val D A=>vB z h3 D A) z;let⟨φ',g1,g2,g3,g4⟩:=z.wnew (id:=i) (h5 i (by simp)) L hob [] (j9 [(i,N)]) (by simp[j9]) (by simp);unfold Lx;rw[hrun];exact⟨v,φ',rfl,g2,g3,g4,hval φ' _ g1⟩
def gF.writes {o:Oper} {e:ED} {rd:ι} {b':kH} (hb:S i=Z N)
 (hv:∀(φ:PM) (E:Nat->Prop) (h':HF) (w:World) (a:Act),(∀id∈rd,h' id=S id)->h' i=Z N->Yo φ E h' w a e o->sC φ E h' w->
   ∃r w' k ob,(execOp a.eval o).run T w= .ok r w'/\φ i=Z k/\Jc w w' k ob/\ij φ (tot E φ h') w b' ob/\(∃v,(r= .value v\/r= .skip/\v=undef)/\cf φ (tot E φ (fx h' [i] (j9 [(i,b')]))) w' y v)):
 gF T o e.get S ⟨y,rd,[i],j9 [(i,b')],[]⟩:=by
 intro φ E h' w a h1 h2 h3 z h5;let⟨r,w',k,ob,hrun,hk,hw,hob,v,hr,hval⟩:=hv φ E h' w a h1 (by grind) (λx val hx L=>vB z h3 hx L) z;let⟨D,A⟩:=z.wset (id:=i) (by rw[h2 i (by simp)];exact hb) hk hw hob (j9 [(i,b')]) (by simp[j9]);unfold Lx;rw[hrun];rcases hr with rfl|⟨rfl,rfl⟩
 .exact⟨v,φ,rfl,D,λ_ _ S=>.inl S,A,hval⟩
 .exact⟨undef,φ,rfl,D,λ_ _ S=>.inl S,A,hval⟩
variable {r:Y AV}
def nh (h:gE r=J):∀x∈r,x.isCell=J:=by
 induction r with
 |nil=>intro x z;cases z
 |cons y r A=>
  simp[gE,al]at h
  grind
def nR:∀{l:Y AV} {z:Y FV},zY l=Z z->l=z.map .f
 |[],z,h=>by simp[zY,ah]at h;subst h;rfl
 |.f x::r,z,h=>by
  simp[zY]at h;split at h
  next l A=>simp[ah]at h;subst h;rw[nR A];rfl
  .cases h
 |.P _ _::_,_,h|.sl _ _ _::_,_,h|.I _ _ _::_,_,h|.mp _::_,_,h|.emp::_,_,h|.agg _::_,_,h|.qb _::_,_,h|.qy _ _::_,_,h=>by simp[zY]at h
def Cs (φ:PM) (O:Nat->Prop) (w:World) (l:Y AV) (vs:ξ):Prop:=l! vs=l! l/\(∀x∈l,x.isCell=J)/\∀(j:Nat) x v,l[j]? =Z x->vs[j]? =Z v->cf φ O w x v
def BC.get_toMx {c:BC} (z:c.isCells=J) (j:Nat):c.get j=c.toMx[j]? :=by
 cases c with
 |fz l=>simp[BC.get,BC.toMx]
 |mx l=>rfl
 |_=>cases z
def BC.len_toMx {c:BC} (z:c.isCells=J):c.len=l! c.toMx:=by
 cases c with
 |fz l=>simp[BC.len,BC.toMx]
 |mx l=>rfl
 |_=>cases z
def nO (l:Y AV):(ov l).toMx=l/\(ov l).isCells=J:=by
 unfold ov;cases h:zY l with
 |none=>exact⟨rfl,rfl⟩
 |some z=>exact⟨(nR h).symm,rfl⟩
variable {s:TypeId}
def rI {c:BC} (z:c.isCells=J) {arr:Array Value} (hl:l! c.toMx<=arr.size)
 (h:∀(j:Nat) x,c.toMx[j]? =Z x->x.isCell=J/\∃v,arr[j]? =Z v/\cf V O w x v):ij V O w ⟨s,c⟩ (.cells arr s (0,0)):=by
 have D:vE V O w c arr:=⟨by rw[BC.len_toMx z];exact hl,λj x L=>h j x (by rw[<- BC.get_toMx z];exact L)⟩
 cases A:c with
 |fz l|mx l=>rw[A]at D;exact⟨arr,rfl,D⟩
 |_=>rw[A]at z;cases z
variable {L:ξ}
def Mx {ty:TypeId} (h:Cs V O w r L):ij V O w ⟨ty,ov r⟩ (.cells L.toArray ty (0,0)):=by
 let⟨h1,D⟩:=nO r;refine rI D (by rw[h1];simp[h.1]) λj x z=>?_
 rw[h1]at z;have A:j<l! L:=by rw[h.1];exact (bz.1 z).1
 exact⟨h.2.1 x (a8 z),L[j],by simp[A],h.2.2 j x _ z (aG A)⟩
def ZH (h:cf V O w y v) (A:gE y.cs=J):Cs V O w y.cs v.cells.toList:=by
 have one:y.cs=[y]->v.cells=#[v]->Cs V O w y.cs v.cells.toList:=λh1 h2=>by
  rw[h1]at A ⊢;rw[h2];exact⟨rfl,nh A,λj x u z D=>by cases j with|zero=>simp at z D;subst z D;exact h|succ j=>simp at z⟩
 cases h with
 |qc _|qb _ _=>exact cq A (by simp[AV.cs,gE,AV.isCell])
 |@agg l vs hl hcl L=>exact⟨hl,hcl,L⟩
 |@f x u hf=>
  cases hf with
  |raw v=>
   have hv:v.oneCell'=J:=by
    have:(AV.f (.raw v)).cs=[.f (.raw v)]:=rfl;rw[this]at A;simpa[gE,AV.isCell,FV.isCell] using A
   refine one rfl ?_;cases v<;>first|rfl|simp[Value.oneCell']at hv
  |agg l vs hl hcl L=>
   refine ⟨by simp[AV.cs,Value.cells,hl],nh A,λj x u z D=>?_⟩;simp only[AV.cs,bB]at z;cases hq:l[j]? with
   |none=>rw[hq]at z;cases z
   |some q=>rw[hq]at z;simp at z;subst z;exact .f (L j q u hq (by simpa[Value.cells] using D))
  |_=>exact one rfl rfl
 |_=>exact one rfl rfl
def nu.one {x:FV} (h:nu O w x v) (z:x.isCell=J):v.oneCell'=J:=by
 cases h with
 |raw v=>exact z
 |agg=>cases z
 |_=>rfl
def cf.one (h:cf V O w y v) (z:y.isCell=J):v.oneCell'=J:=by
 cases h with
 |f h=>exact h.one z
 |qc|agg|qb=>cases z
 |_=>rfl
def Cs.one (h:Cs V O w r L):∀v∈L,v.oneCell'=J:=by
 intro v A;let⟨j,z⟩:=fI A;have hlt:j<l! r:=by rw[<- h.1];exact (bz.1 z).1
 exact (h.2.2 j _ v (aG hlt) z).one (h.2.1 _ (Fx hlt))
def Cs.append {l':Y AV} {vs':ξ} (h:Cs V O w r L) (h':Cs V O w l' vs'):Cs V O w (r++l') (L++vs'):=by
 refine ⟨by simp[h.1,h'.1],λx z=>(bL.1 z).elim (h.2.1 x) (h'.2.1 x),λj x v z D=>?_⟩;rcases cC j (l! r) with A|A
 .rw[bI A]at z;rw[bI (by rw[h.1];exact A)]at D;exact h.2.2 j x v z D
 .rw[b_ A]at z;rw[b_ (by rw[h.1];exact A),h.1]at D;exact h'.2.2 _ x v z D
def Cs.take (h:Cs V O w r L) (n:Nat):Cs V O w (r.take n) (L.take n):=by
 refine ⟨by simp[h.1],λx z=>h.2.1 x (im z),λj x v z A=>?_⟩;rw[fc]at z A;split at z
 next D=>rw[aD D]at A;exact h.2.2 j x v z A
 .cases z
def Cs.drop (h:Cs V O w r L) (n:Nat):Cs V O w (r.drop n) (L.drop n):=by
 refine ⟨by simp[h.1],λx z=>h.2.1 x (List.mem_of_mem_drop z),λj x v z A=>?_⟩;rw[tN]at z A;exact h.2.2 _ x v z A
def Cs.splice {l':Y AV} {vs':ξ} (h:Cs V O w r L) (h':Cs V O w l' vs') (off:Nat):Cs V O w (splice r off l') (splice L off vs'):=by
 unfold AI.splice;rw[h'.1];exact ((h.take off).append h').append (h.drop _)
def Cs.raws {φ:PM} (z:ξ) (L:oq z=J):Cs φ O w (z.map raw) z:=by
 refine ⟨by simp,λx A=>?_,λj x v A D=>?_⟩
 .obtain⟨v,D,rfl⟩:=cr.1 A;exact iJ.1 L v D
 .rw[bB]at A;rw[D]at A;simp at A;subst A;exact .f (.raw v)
def Cs.mono {φ':PM} {O':Nat->Prop} {w':World} (h:Cs V O w r L) (D:∀x v,cf V O w x v->cf φ' O' w' x v):Cs φ' O' w' r L:=⟨h.1,h.2.1,λj x v z A=>D _ _ (h.2.2 j x v z A)⟩
def Jc.setRow {arr arr':Array Value} (A:w.heap[i]? =Z (.cells arr s (0,0))) (D:arr'.size=arr.size):Jc w (w.setRow i arr') i (.cells arr' s (0,0)):=by
 refine ⟨rfl,rfl,rfl,by simp,setRow_heap w i arr arr' s (0,0) A,λj z=>setRow_other w i j arr' z,λj=>?_⟩;unfold tL;by_cases z:j=i
 .subst z;rw[setRow_heap w j arr arr' s (0,0) A,A];simp[D]
 .rw[setRow_other w i j arr' z]
section
variable {P:Program} {o:Oper} {e:ED} {h:ny} {nx:Nat} {R:Dz}
def vF (A:uZ P s=Z L) (w:World):∃v,(zeroValue s).run P w= .ok v w/\v.cells.toList=L/\∃i,P.info? s=Z i/\i.zero=Z v:=by
 unfold uZ at A;cases hi:P.info? s with
 |none=>rw[hi]at A;cases A
 |some i=>
  rw[hi]at A;simp only[aF]at A;cases D:i.zero with
  |none=>rw[D]at A;cases A
  |some v=>
   rw[D]at A;simp[bh,ah]at A;exact⟨v,by simp[zeroValue,typeInfo,hi,D],A,i,rfl,D⟩
def apr (ho:o.op= .alloc s) (hz:uZ P s=Z L) (hc:oq L=J) (z:dA (.alloc s L) e h nx=Z R):gF P o e.get h.get R.eff:=by
 simp[dA,ah]at z;subst z;refine gF.makes λφ E h' w a _ _ _=>?_
 let⟨v,h1,h2,_⟩:=vF hz w;refine ⟨.pointer (Z ⟨w.heap.size,0,U⟩),{w with heap:=w.heap.push (.cells v.cells s)},.cells v.cells s (0,0),?_,sX w _,?_,λφ' O hφ=>.P hφ⟩
 .unfold execOp;rw[ho];simp[Instr.alloc,h1,newVar,newRow,newObj,kU]
 .have A:BC.toMx (.fz (L.map .raw))=L.map raw:=by simp[BC.toMx,raw]
  refine rI rfl (by grind) λj x D=>?_
  rw[A]at D;have cs:=Cs.raws (φ:=φ) (O:=tot E φ h') (w:=w) L hc;have hj:j<l! L:=by grind
  refine ⟨cs.2.1 x (a8 D),L[j],?_,cs.2.2 j x _ D (aG hj)⟩
  grind
def axz (A:o.op= .box s c) (z:dA (.box s c) e h nx=Z R):gF P o e.get h.get R.eff:=by
 simp[dA]at z;split at z
 .rename_i v D;split at z
  .rename_i hc;simp[ah]at z;subst z;refine gF.makes λφ E h' w a _ hp _=>?_
   have L:=ZH (hp c _ (by rw[A];simp[Op.operands]) D) hc;refine ⟨.pointer (Z ⟨w.heap.size,0,U⟩),{w with heap:=w.heap.push (.cells (a.eval c).cells s)},.cells (a.eval c).cells s (0,0),?_,sX w _,?_,λφ' O hφ=>.P hφ⟩
   .unfold execOp;rw[A];simp[Instr.box,newVar,newRow,newObj,kU]
   .have:=Mx (ty:=s) L;simpa using this
  .cases z
 .cases z
def oz {α:Type} {l vs:Y α} {off:Nat} (hle:off+l! vs<=l! l) (j:Nat):(splice l off vs)[j]? =if j<off then l[j]? else if j<off+l! vs then vs[j-off]? else l[j]? :=by
 unfold splice
 grind
def nI {α:Type} {l vs:Y α} (hle:i+l! vs<=l! l):l! (splice l i vs)=l! l:=by
 unfold splice;simp;omega
def Wq (off:Nat):∀(vs:ξ) (k:Nat) (arr:Array Value),off+k+l! vs<=arr.size->∀j:Nat,
 ((vs.zipIdx k).foldl (λcs (p:Value×Nat)=>cs.setIfInBounds (off+p.2) p.1) arr)[j]? =if j<off+k then arr[j]? else if j<off+k+l! vs then vs[j-(off+k)]? else arr[j]?
 |[],k,arr,_,j=>by simp_all
 |v::vs,k,arr,hle,j=>by
  rw[List.zipIdx_cons,Am,Wq off vs (k+1) _ (by grind) j]
  grind
def Wp (off:Nat) (c:Array Value) (l:ξ) (hle:off+c.size<=l! l):(c.zipIdx.foldl (λcs (p:Value×Nat)=>cs.setIfInBounds (off+p.2) p.1) l.toArray)=(splice l off c.toList).toArray:=by
 rw[<- Array.foldl_toList,Array.toList_zipIdx];apply Array.ext_getElem?;intro j;rw[Wq off c.toList 0 l.toArray (by omega) j];simp only[dF,List.getElem?_toArray];rw[oz (by omega)]
def Tx (hp:Yo V O S w z e o) {place:Nat->M q!}:∀(a:Y H?) (ps':Y n?) (cells cs:Y AV) (vs:ξ),
 (l! ps'=l! a)->(∀(j:Nat) i x,a[j]? =Z (i,x)->∃of sz,ps'[j]? =Z (of,sz,x)/\place i=Z (of,sz))->(∀p∈a,p.2∈o.op.operands)->Cs V (tot O V S) w cells vs->CD cells e ps'=Z cs->
 ∃vs',Instr.fill place vs.toArray (a.map λp=>(p.1,z.eval p.2))=Z vs'.toArray/\Cs V (tot O V S) w cs vs'
 |[],ps',cells,cs,vs,hl,_,_,hcs,hf=>by
  cases ps' with
  |nil=>simp[CD,ah]at hf;subst hf;exact⟨vs,rfl,hcs⟩
  |cons _ _=>simp at hl
 |(i,x)::a,ps',cells,cs,vs,hl,hpl,hm,hcs,hf=>by
  obtain⟨of,sz,h1,h2⟩:=hpl 0 i x rfl;cases ps' with
  |nil=>simp at h1
  |cons p ps'=>
   simp at h1;subst h1;simp only[CD]at hf;split at hf
   .rename_i v hv;split at hf
    .rename_i hc;simp only[al,cY]at hc;obtain⟨⟨hc1,D⟩,A⟩:=hc;have L:=ZH (hp x v (hm _ (cV ..)) hv) A;have hsz:(z.eval x).cells.size=sz:=by have:=L.1;simp at this;omega
     have hle:of+sz<=l! vs:=by rw[hcs.1];exact aT D
     obtain⟨vs',g1,g2⟩:=Tx hp a ps' _ cs _ (by grind) (λj i x hj=>by have:=hpl (j+1) i x (by grind);simpa using this) (λp hp=>hm p (bP _ hp)) (hcs.splice L of) hf;refine ⟨vs',?_,g2⟩;simp only[b9,Instr.fill,h2];have hcd:((decide ((z.eval x).cells.size≠sz))||decide (of+(z.eval x).cells.size>vs.toArray.size))=af:=by grind
     rw[av (by grind)];have:=Wp of (z.eval x).cells vs (by omega);rw[<- g1,<-this]
    .cases hf
   .cases hf
def Ie :∀(z:Y H?) (ps':Y n?),Au P s z=Z ps'->l! ps'=l! z/\∀(j:Nat) i x,z[j]? =Z (i,x)->∃of sz,ps'[j]? =Z (of,sz,x)/\EW P s i=Z (of,sz)
 |[],ps',h=>by simp[Au,ah]at h;subst h;exact⟨rfl,λj i x hx=>by simp at hx⟩
 |(i,x)::z,ps',h=>by
  simp[Au]at h;split at h
  .rename_i of sz l h1 h2;simp[ah]at h;subst h;let⟨g1,g2⟩:=Ie z l h2;refine ⟨by simp[g1],λj L D A=>?_⟩;cases j with
   |zero=>simp at A;obtain⟨rfl,rfl⟩:=A;exact⟨of,sz,rfl,h1⟩
   |succ j=>simpa using g2 j L D (by grind)
  .cases h
def MG (w:World):∀(z:Y Field),(z.all λf=>(fQ P f.type).isSome)=J->(z.mapM (λf=>do pure (f.offset,<-sizeOf f.type)):Sem (Y q!)).run P w= .ok (z.map λf=>(f.offset,(fQ P f.type).getD 0)) w
 |[],_=>by simp
 |f::z,h=>by
  simp only[List.all_cons,al]at h;let⟨sz,A⟩:=jL.1 h.1;have h1:=gH A w;have D:=MG w z h.2;simp_all
def adk {z:Array H?} {ps':Y n?} (ho:o.op= .build s z) (hz:uZ P s=Z L) (hc:oq L=J) (hps:Au P s z.toList=Z ps')
 (D:(∃A,P.underlying s=Z (.struct A)/\(A.toList.all λf=>(fQ P f.type).isSome)=J)\/∃n el sz,P.underlying s=Z (.array n el)/\fQ P el=Z sz) (ha:dA (.build L ps') e h nx=Z R):gF P o e.get h.get R.eff:=by
 simp[dA]at ha;split at ha
 .rename_i cs hf;rw[du ha];refine gF.reads λφ E h' w a _ hp _=>?_
  let⟨v,h1,h2,_⟩:=vF hz w;have hcells:v.cells=L.toArray:=by rw[<- h2]
  let⟨g1,g2⟩:=Ie z.toList ps' hps;have hops:∀p∈z.toList,p.2∈o.op.operands:=λp hp=>by
   rw[ho];simp only[Op.operands,List.mem_toArray,cr];exact⟨p,hp,rfl⟩
  have hmap:(z.map λx:Nat×Operand=>(x.1,a.eval x.2)).toList=z.toList.map λp=>(p.1,a.eval p.2):=by simp
  have fin:∀place:Nat->M q!,(∀i,EW P s i≠U->place i=EW P s i)->∃vs':ξ,Instr.fill place v.cells (z.map λx:Nat×Operand=>(x.1,a.eval x.2)).toList=Z vs'.toArray/\cf φ (tot E φ h') w (Rc cs) (.agg vs'.toArray):=by
   intro place hpl;let⟨vs',k1,k2⟩:=Tx (place:=place) hp z.toList ps' _ cs L g1 (λj i x hj=>by
    let⟨of,sz,q1,q2⟩:=g2 j i x hj;exact⟨of,sz,q1,by rw[hpl i (by grind),q2]⟩) hops (Cs.raws L hc) hf
   refine ⟨vs',by rw[hmap,hcells];exact k1,?_⟩;unfold Rc;cases hfs:zY cs with
   |none=>exact .agg k2.1 k2.2.1 k2.2.2
   |some A=>
    have he:=nR hfs;refine .f (.agg A vs' (by rw[k2.1,he];simp) (λx hx=>k2.2.1 (.f x) (by grind)) λj x u hx D=>?_);have:=k2.2.2 j (.f x) u (by grind) D;cases this with
    |f h=>exact h
  rcases D with ⟨A,D,hall⟩|⟨n,el,sz,D,hs⟩
  .obtain⟨vs',k1,k2⟩:=fin (λi=>(A.map λf=>(f.offset,(fQ P f.type).getD 0))[i]?) (λi hi=>by
    unfold EW at hi ⊢;rw[D]at hi ⊢;simp[Array.getElem?_map]at hi ⊢;cases hf:A[i]? with
    |none=>rw[hf]at hi;simp at hi
    |some f=>
     simp[bh,aF];cases hs:fQ P f.type with
     |none=>rw[hf]at hi;simp[hs]at hi
     |some sz=>simp)
   refine ⟨_,?_,k2⟩;have hm:=MG w A.toList hall;have hm':(A.mapM (λf=>do pure (f.offset,<-sizeOf f.type)):Sem (Array q!)).run P w= .ok (A.map λf=>(f.offset,(fQ P f.type).getD 0)) w:=by
    rw[Array.mapM_eq_mapM_toList];simp only[Sem.run_map,hm,cW];congr 1;apply Array.ext';simp
   unfold execOp;rw[ho];simp only[Instr.build,fH,h1,cW,run_underlying D,hm',xf,k1]
  .obtain⟨vs',k1,k2⟩:=fin (λi=>Z (i*sz,sz)) (λi hi=>by
    unfold EW;rw[D];simp[hs])
   refine ⟨_,?_,k2⟩;have h3:=gH hs w;unfold execOp;rw[ho];simp only[Instr.build,fH,h1,cW,run_underlying D,h3,xf,k1]
 .cases ha
end
section
variable {P:Program} {o:Oper} {e:ED} {h:ny} {nx:Nat} {R:Dz}
def uy {z:TypeId} (h:Ec P s=Z z):P.underlying s=Z (.slice z):=by
 unfold Ec at h
 grind
def oB (z:ξ):∀n,l! (repl z n)=n*l! z
 |0=>by simp[repl]
 |n+1=>by simp[repl,oB z n,jT];omega
def FY (z:ξ):∀(n j:Nat),j<n*l! z->(repl z n)[j]? =(z[j%l! z]?).map .raw
 |0,j,h=>by simp at h
 |n+1,j,h=>by
  have D:0<l! z:=by grind
  rw[repl];rcases cC j (l! z) with A|A
  .rw[bI (by grind),bB,xh A]
  .rw[b_ (by grind),bQ,FY z n (j-l! z) (by grind),Nat.mod_eq_sub_mod A]
def ads (D:v.cells.toList=L) (n sz:Nat) (z:l! L=sz) (hsz:sz≠0) (j:Nat) (hj:j<n*sz):
 ((HW (n*sz)).map (λi=>v.cells[i%v.cells.size]!))[j]? =L[j%sz]? :=by
 have A:v.cells.size=sz:=by grind
 have hlt:j%sz<v.cells.size:=by rw[A];exact Nat.mod_lt _ (by omega)
 grind
def Cs.repl {φ:PM} (hv:v.cells.toList=L) (n sz:Nat) (hl:l! L=sz) (hsz:sz≠0) (hc:oq L=J):
 Cs φ O w ((repl L n).map .f) ((HW (n*sz)).map (λi=>v.cells[i%v.cells.size]!)).toList:=by
 have key:∀(j:Nat) (x:AV),((AI.repl L n).map AV.f)[j]? =Z x->∃u,L[j%sz]? =Z u/\x=raw u/\j<n*sz:=by
  intro j x A;rw[bB]at A;have D:j<n*l! L:=by
   rcases cC j (n*l! L) with h|h
   .exact h
   .rw[c7 (by rw[oB];exact h)]at A;cases A
  rw[FY L n j D,hl]at A;cases z:L[j%sz]? with
  |none=>rw[z]at A;cases A
  |some u=>rw[z]at A;simp at A;exact⟨u,rfl,A.symm,by rw[<- hl];exact D⟩
 refine ⟨by simp[oB,hl],λx A=>?_,λj x u A z=>?_⟩
 .obtain⟨j,D⟩:=fI A;obtain⟨u,h1,rfl,_⟩:=key j x D;exact iJ.1 hc u (a8 h1)
 .obtain⟨u',h1,rfl,D⟩:=key j x A;rw[c9,ads hv n sz hl hsz j D,h1]at z;cases z;exact .f (.raw _)
def axy {D:TypeId} {A:Array H?} {ps':Y n?} (ho:o.op= .buildSlice s i A) (hu:P.underlying s=Z (.slice D)) (hz:uZ P D=Z L) (hs:fQ P D=Z j) (hc:oq L=J) (hl:l! L=j) (hsz:j≠0) (hb:i*j<=65536)
 (hps:Au P s A.toList=Z ps') (z:dA (.xx D j i L ps') e h nx=Z R):gF P o e.get h.get R.eff:=by
 simp[dA]at z;split at z
 .rename_i cs hf;simp[ah]at z;subst z;refine gF.makes λφ E h' w a _ hp _=>?_
  let⟨v,h1,h2,_⟩:=vF hz w;let⟨g1,g2⟩:=Ie A.toList ps' hps;have hops:∀p∈A.toList,p.2∈o.op.operands:=λp hp=>by
   rw[ho];simp only[Op.operands,List.mem_toArray,cr];exact⟨p,hp,rfl⟩
  have hmap:(A.map λx:Nat×Operand=>(x.1,a.eval x.2)).toList=A.toList.map λp=>(p.1,a.eval p.2):=by simp
  let⟨vs',k1,k2⟩:=Tx (place:=λn=>Z (n*j,j)) hp A.toList ps' _ cs _ g1 (λsz n x hj=>by
   let⟨of,s',q1,q2⟩:=g2 sz n x hj;unfold EW at q2;rw[hu]at q2;simp[hs]at q2;obtain⟨rfl,rfl⟩:=q2;exact⟨_,_,q1,rfl⟩) hops (Cs.repl h2 i j hl hsz hc) hf
  have hcells:(HW (i*j)).map ((if i*j=0 then #[] else v.cells)[·%(if i*j=0 then #[] else v.cells).size]!)=((HW (i*j)).map (λn=>v.cells[n%v.cells.size]!)).toList.toArray:=by grind
  have hlen:l! vs'=i*j:=by
   have e1:=k2.1;have e2:l! cs=l! ((AI.repl L i).map AV.f):=by
    have:∀(ps':Y n?) (c0 c1:Y AV),CD c0 e ps'=Z c1->l! c1=l! c0:=by
     intro ps';induction ps' with
     |nil=>intro c0 c1 h;simp[CD,ah]at h;rw[h]
     |cons p ps' ih=>
      intro c0 c1 h;simp[CD]at h;split at h
      .split at h
       next hcc=>rw[ih _ _ h,nI (by simp_all)]
       .cases h
      .cases h
    exact this ps' _ _ hf
   rw[e1,e2];simp[oB,hl]
  refine ⟨.slice (Z ⟨w.heap.size,0,U⟩) i i,{w with heap:=w.heap.push (.cells vs'.toArray D)},.cells vs'.toArray D (0,0),?_,sX w _,Mx k2,λφ' O hφ=>?_⟩
  .have h3:=gH hs w;have hk:Instr.fill (λn=>Z (n*j,j)) ((HW (i*j)).map ((if i*j=0 then #[] else v.cells)[·%(if i*j=0 then #[] else v.cells).size]!)) (A.map λx:Nat×Operand=>(x.1,a.eval x.2)).toList=Z vs'.toArray:=by grind
   unfold execOp;rw[ho];simp only[Instr.buildSlice,fH,run_underlying hu,cW,h3];rw[av (by omega)];by_cases h0:i*j=0
   .simp only[aD h0]at hk ⊢;simp only[fH,xf,cW,hk,newRow,newObj,kU]
   .simp only[av h0]at hk ⊢;simp only[fH,xf,cW,h1,hk,newRow,newObj,kU]
  .simp only[];split
   next h0=>subst h0;exact .emp
   refine .I hφ (bJ _) ?_ ⟨D,?_⟩
   .have:i<=i*j:=Nat.le_mul_of_pos_right _ (by omega);unfold maxLen;omega
   .unfold tL;simp[hlen]
 .cases z
end
def sC.wren {w':World} (r:sC V O S w) {k:Nat} {b':kH} {ob:Obj} (hb:S i=Z N) (hk:V i=Z k) (hnx:V j=U) (L:Jc w w' k ob) (hob:ij V (tot O V S) w b' ob) (nw:HF) (hnw:nw j=Z b') (hnid:nw i=U):
 ∃φ',φ' j=Z k/\kl V φ' S (fx S [j,i] nw) w w'/\(∀id k,φ' id=Z k->V id=Z k\/id∈[j])/\sC φ' O (fx S [j,i] nw) w':=by
 have hne:j≠i:=λe=>by grind
 have hsub:∀id x,fx S [j,i] nw id=Z x->id≠j->S id=Z x/\id≠i:=λid x hx hi=>by
  unfold fx at hx
  grind
 have hφ:∀id,id≠j->(if id=j then Z k else V id)=V id:=λid hi=>by simp[hi]
 have m:kl V (λid=>if id=j then Z k else V id) S (fx S [j,i] nw) w w':=by
  refine ⟨λid k' hk'=>?_,⟨L.os,L.tape,L.output,by rw[L.size];exact bJ _,λnx hj ho=>?_,λnx _=>L.xz nx⟩,?_⟩
  .grind
  .exact L.other nx (λe=>ho (e▸⟨i,N,hb,hk⟩))
  .rintro nx hj ⟨id,x,h1,D⟩;by_cases hi:id=j
   .simp[hi]at D;subst D;exact⟨i,N,hb,hk⟩
   .have h3:V id=Z nx:=by simpa[hi] using D
    exact⟨id,x,(hsub id x h1 hi).1,h3⟩
 refine ⟨_,by simp,m,λid k' hk'=>?_,⟨λid nx x y kk hi hj h1 D=>?_,λid x hi=>?_,λk hk=>dy (r.el k hk) m.ext.size,λg cells hg=>m.keepF (r.gl g cells hg)⟩⟩
 .grind
 .by_cases z:id=j
  .by_cases A:nx=j
   .rw[z,A]
   .exfalso;rw[hφ nx A]at D;simp[z]at h1;subst h1;let⟨q1,q2⟩:=hsub nx y hj A;exact q2 (r.inj nx i y N k q1 hb D hk)
  .rw[hφ id z]at h1;let⟨p1,p2⟩:=hsub id x hi z;by_cases A:nx=j
   .exfalso;simp[A]at D;subst D;exact p2 (r.inj id i x N k p1 hb h1 hk)
   .rw[hφ nx A]at D;exact r.inj id nx x y kk p1 (hsub nx y hj A).1 h1 D
 .by_cases z:id=j
  .subst z;have:x=b':=by unfold fx at hi;simp[hnw]at hi;exact hi.symm
   subst this;let⟨k',h1,D,_⟩:=r.at_ i N hb;rw[hk]at h1;cases h1;exact⟨k,by simp,D,ob,L.at_,hob.mono λ_ _ S=>m.zw S⟩
  .obtain⟨p1,p2⟩:=hsub id x hi z;let⟨k',h1,D,ob',h3,h4⟩:=r.at_ id x p1;have hne':k'≠k:=λe=>p2 (r.inj id i x N k p1 hb (e▸h1) hk)
   exact⟨k',by rw[hφ id z];exact h1,D,ob',by rw[L.other k' hne'];exact h3,h4.mono λ_ _ S=>m.zw S⟩
def sC.cs (hrep:sC V O S w) (hb:S i=Z N) (hk:V i=Z j) (z:N.c.isCells=J):
 ∃arr,w.heap[j]? =Z (.cells arr N.ty (0,0))/\Cs V (tot O V S) w N.c.toMx (arr.toList.take (l! N.c.toMx))/\l! N.c.toMx<=arr.size:=by
 let⟨k',h1,_,h2⟩:=hrep.at_ i N hb;rw[hk]at h1;cases h1;let⟨arr,h3,L,D⟩:=h2.cells z;rw[BC.len_toMx z]at L;refine ⟨arr,h3,⟨by simp;omega,λx A=>?_,λk x v A hv=>?_⟩,L⟩
 .obtain⟨k,hj⟩:=fI A;exact (D k x (by rw[BC.get_toMx z];exact hj)).1
 .obtain⟨_,u,h6,h7⟩:=D k x (by rw[BC.get_toMx z];exact A)
  grind
section
variable {P:Program} {o:Oper} {e:ED} {h:ny} {nx:Nat} {R:Dz}
def RP (z:I8 P s=Z i):∃b,P.info? s=Z b/\b.bytes=i:=by
 unfold I8 at z;cases hi:P.info? s with
 |none=>rw[hi]at z;cases z
 |some b=>rw[hi]at z;simp at z;exact⟨b,rfl,z⟩
def FX (h:bc i j=J):i<=1099511627776/\i*j<=1099511627776:=by
 simp[bc,al]at h;simp_all
variable {a:Int}
def ah0 (h1: -9223372036854775808<=a) (z:a<=9223372036854775807):pZ .i64 a=a:=by
 rw[<- B8];have:(db (-9223372036854775808) a&&db a 9223372036854775807)=J:=by simp[db,h1,z]
 simp[Lz,QO,this,bk]
def au4 {A:TypeId} {l:Operand} (ho:o.op= .makeSlice s l c) (hu:P.underlying s=Z (.slice A)) (hz:uZ P A=Z L) (hs:fQ P A=Z i) (hb:I8 P A=Z j) (hc:oq L=J) (hl:l! L=i) (hsz:i≠0)
 (D:dA (.zm A i j L l c) e h nx=Z R):gF P o e.get h.get R.eff:=by
 simp only[dA]at D;split at D
 .rename_i k1 n k2 m z hy;split at D
  .rename_i hcd;simp only[db,al,bE]at hcd;let⟨⟨h0,h1⟩,h2⟩:=hcd;let⟨r1,r2⟩:=FX h2;cases D;refine gF.makes λφ E h' w a _ hp _=>?_
   have e1:=fE (hp l _ (by rw[ho];simp[Op.operands]) z);have e2:=fE (hp c _ (by rw[ho];simp[Op.operands]) hy);let⟨v,z1,z2,_⟩:=vF hz w;let⟨sz,i1,i2⟩:=RP hb;have s1:=gH hs w;have w1:pZ .i64 n=n:=ah0 (by omega) (by omega);have w2:pZ .i64 m=m:=ah0 (by omega) (by omega);have hbm:(j:Int)*m=((m.toNat*j:Nat):Int):=by grind
   have t1:¬(m<0\/(281474976710656:Int)<j*m):=by omega
   have hr:¬(m.toNat*j>roomBytes):=by unfold roomBytes;omega
   have hn0:m.toNat*i=0->m.toNat=0:=λh=>(Nat.mul_eq_zero.1 h).resolve_right hsz
   let cells:Array Value:=(HW (m.toNat*i)).map (λsz=>v.cells[sz%v.cells.size]!)
   refine ⟨.slice (Z ⟨w.heap.size,0,U⟩) n.toNat m.toNat,{w with heap:=w.heap.push (.cells cells A)},.cells cells A (0,0),?_,sX w _,?_,λφ' O hφ=>?_⟩
   .unfold execOp;rw[ho];by_cases hm0:m.toNat*i=0
    .obtain rfl:m=0:=by have:=hn0 hm0;omega
     simp[Instr.makeSlice,run_underlying hu,e1,e2,asInt,asIntOf,typeInfo,i1,w1,askRoom,s1,newRow,newObj,kU,cells]
     grind
    .simp[Instr.makeSlice,run_underlying hu,e1,e2,asInt,asIntOf,typeInfo,i1,i2,w1,w2,t1,show ¬n<0 by omega,show ¬m<n by omega,askRoom,hr,s1,hm0,z1,newRow,newObj,kU,cells]
   .have cs:=Cs.repl (φ:=φ) (O:=tot E φ h') (w:=w) z2 m.toNat i hl hsz hc;have hle:n.toNat<=m.toNat:=by omega
    have hlen:n.toNat*i<=m.toNat*i:=cH _ hle;refine rI rfl (by simp[BC.toMx,oB,hl,cells];exact hlen) λbytes x z=>?_
    simp only[BC.toMx,bB]at z;have hj:bytes<n.toNat*l! L:=by
     rcases cC bytes (n.toNat*l! L) with h|h
     .exact h
     .rw[c7 (by rw[oB];exact h)]at z;cases z
    have hj2:bytes<m.toNat*l! L:=by grind
    rw[FY L _ bytes hj,<-FY L m.toNat bytes hj2]at z;have hx2:((repl L m.toNat).map AV.f)[bytes]? =Z x:=by grind
    have hj3:bytes<l! cells.toList:=by grind
    exact⟨cs.2.1 x (a8 hx2),cells.toList[bytes],by rw[<- c9];exact aG hj3,cs.2.2 bytes x _ hx2 (aG hj3)⟩
   .refine .I hφ (by omega) (by unfold maxLen;omega) ⟨A,?_⟩;unfold tL;simp[cells]
  .cases D
 .cases D
def apq {y:Operand} (ho:o.op= .store s c y) (hs:fQ P s=Z i) (z:dA (.store i c y) e h nx=Z R):gF P o e.get h.get R.eff:=by
 simp only[dA]at z;split at z
 .rename_i p v hx hy;unfold C4 at z;split at z
  .rename_i id off;split at z
   .rename_i b hb;split at z
    .rename_i hl;split at z
     .rename_i c' hput;cases z;unfold BC.put at hput;split at hput
      .rename_i hcc;simp only[al]at hcc;let⟨⟨c1,c2⟩,c3⟩:=hcc;have c2:=aT c2;have hl:l! v.cs=i:=by simpa using hl
       have D:c'.toMx=splice b.c.toMx off v.cs/\c'.isCells=J:=by
        split at hput
        next l ys hbl hys=>cases hput;refine ⟨?_,rfl⟩;have hv:=nR hys;rw[hv,hbl];simp only[BC.toMx];unfold splice;simp_all
        .cases hput;exact⟨rfl,rfl⟩
       refine gF.writes hb λφ E h' w a hrd hb' hp hrep=>?_
       have hr:=ZH (hp y _ (by rw[ho];simp[Op.operands]) hy) c3;have hpx:=hp c _ (by rw[ho];simp[Op.operands]) hx;generalize hz:a.eval c=pv at hpx;cases hpx with
       |@P _ _ k hφ=>
        let⟨arr,g1,g2,g3⟩:=hrep.cs hb' hφ c1;have hvl:(a.eval y).cells.toList.length=i:=by rw[hr.1];exact hl
        rw[BC.len_toMx c1]at c2;have hst:=run_storeCells_at (P:=P) k off b.ty (a.eval y).cells.toList 0 arr w g1 (by rw[hvl];omega) hr.one
        let arr':Array Value:=(arr.toList.take off++(a.eval y).cells.toList++arr.toList.drop (off+i)).toArray
        have hsize:arr'.size=arr.size:=by grind
        refine ⟨.skip,w.setRow k arr',k,.cells arr' b.ty (0,0),?_,hφ,Jc.setRow g1 hsize,?_,undef,.inr ⟨rfl,rfl⟩,.f (.raw _)⟩
        .have s1:=gH hs w;have hvs:(a.eval y).cells.size=i:=by simpa using hvl
         simp only[dF,hvl]at hst;unfold execOp;rw[ho];simp[Instr.storeAt,hz,Instr.sureAddr,storeVar,s1,hvs,hst,arr']
        .refine rI D.2 (by rw[D.1,nI (by omega),hsize];exact g3) λj q A=>?_
         rw[D.1,oz (by omega)]at A;have ha':arr'[j]? =if j<off then arr.toList[j]? else if j<off+i then (a.eval y).cells.toList[j-off]? else arr.toList[j]? :=by
          have:=oz (l:=arr.toList) (vs:=(a.eval y).cells.toList) (off:=off) (by grind) j;unfold splice at this
          grind
         have old:b.c.toMx[j]? =Z q->q.isCell=J/\∃u,arr.toList[j]? =Z u/\cf φ (tot E φ h') w q u:=λA=>by
          have hj:j<l! b.c.toMx:=(bz.1 A).1;have hj2:j<l! arr.toList:=by simp;omega
          refine ⟨g2.2.1 q (a8 A),arr.toList[j],aG hj2,g2.2.2 j q _ A ?_⟩
          grind
         rw[ha'];by_cases h1:j<off
         .grind
         .rw[av h1]at A ⊢;by_cases h2:j<off+i
          .rw[aD (by omega)]at A;rw[aD h2];have L:j-off<(a.eval y).cells.toList.length:=by omega
           exact⟨hr.2.1 q (a8 A),_,aG L,hr.2.2 _ q _ A (aG L)⟩
          .grind
      .cases hput
     .cases z
    .cases z
   .cases z
  .cases z
 .cases z
end
section
variable {P:Program} {o:Oper} {e:ED} {h:ny} {nx:Nat} {R:Dz}
def atz (A:Addr):A.add 0=A:=by cases A;simp[Addr.add]
def axe {el:TypeId} {lo hi mx:M Operand} (ho:o.op= .slice s c lo hi mx) (hu:P.underlying s=Z (.slice el)) (hs:fQ P el=Z i) (L:dA (.slc i c lo hi mx) e h nx=Z R):gF P o e.get h.get R.eff:=by
 simp only[dA]at L;split at L
 .rename_i v hx;split at L
  ·
   rename_i k k';split at L
   .rename_i hsl;rw[du L];refine gF.reads λφ E h' w a _ hp _=>?_
    have D:=hp c _ (by rw[ho];simp[Op.operands]) hx;have hz:∃A n x,a.eval c= .slice A n x:=by
     generalize a.eval c=z at D;obtain⟨n,hn⟩:=jL.1 hsl;unfold AV.slen at hn;split at hn
     .cases D with
      |f D=>cases D with
       |nil|sl=>exact⟨_,_,_,rfl⟩
     .cases fE D;exact⟨_,_,_,rfl⟩
     .cases D;exact⟨_,_,_,rfl⟩
     .cases D;exact⟨_,_,_,rfl⟩
     .cases D;exact⟨_,_,_,rfl⟩
     .cases hn
    obtain⟨A,n,x,hz⟩:=hz;have s1:=gH hs w;refine ⟨.slice A 0 0,?_,.emp⟩;unfold execOp;rw[ho];have z0:∀k,a.eval (.const (.int k 0))= .int k 0:=λ_=>rfl
    simp[l9,p_,run_underlying hu,hz,hP,iK,asIntOf,s1,z0]
   .cases L
  ·
   rename_i b;split at L
   .rename_i id sz' n k j hb;split at L
    .rename_i hc;simp only[db,al,bE,cY]at hc;obtain⟨⟨rfl,h0⟩,h1⟩:=hc;split at L
     .rename_i blk hblk;split at L
      .rename_i hcl;simp only[al]at hcl;obtain⟨hcells,hlen⟩:=hcl;have hlen:=aT hlen;rw[BC.len_toMx hcells]at hlen;cases L;intro φ E h' w a g1 g2 g3 hrep g5;have hp:Yo φ E h' w a e o:=λc y hx hy=>vB hrep g3 hx hy
       have hb':h' id=Z blk:=by rw[g1 id (by simp[Dz.eff])];exact hblk
       have D:=hp c _ (by rw[ho];simp[Op.operands]) hx;have hbv:=fE (hp b _ (by rw[ho];simp[Op.operands]) hb);have hnx:φ nx=U:=g5 nx (by simp[Dz.eff]);generalize hz:a.eval c=z at D;cases D with
       |@I _ _ _ x q hφ hn hcap hsh=>
        obtain⟨arr,a1,a2,a3⟩:=hrep.cs hb' hφ hcells;have s1:=gH hs w;have hne:nx≠id:=λe=>by rw[e,hφ]at hnx;cases hnx
        have hnw1:j9 [(nx,⟨blk.ty,ov (blk.c.toMx.take (j.toNat*sz'))⟩)] nx=Z (⟨blk.ty,ov (blk.c.toMx.take (j.toNat*sz'))⟩:kH):=by simp[j9]
        have hnw2:j9 [(nx,⟨blk.ty,ov (blk.c.toMx.take (j.toNat*sz'))⟩)] id=U:=by
         simp only[j9];rw[av];intro hb;exact hne (au hb)
        have a4:=a2.take (j.toNat*sz');obtain⟨φ',p1,p2,p3,p4⟩:=hrep.wren hb' hφ hnx (w':=w) ⟨rfl,rfl,rfl,rfl,a1,λ_ _=>rfl,λ_=>rfl⟩ (b':=⟨blk.ty,ov (blk.c.toMx.take (j.toNat*sz'))⟩) (by
         obtain⟨q1,q2⟩:=nO (blk.c.toMx.take (j.toNat*sz'));refine rI q2 (by rw[q1,cu];omega) λsz c hx=>?_
         rw[q1]at hx;have hi:sz<l! ((arr.toList.take (l! blk.c.toMx)).take (j.toNat*sz')):=by rw[a4.1];exact (bz.1 hx).1
         refine ⟨a4.2.1 c (a8 hx),_,?_,a4.2.2 sz c _ hx (aG hi)⟩;have hi':sz<arr.size:=by simp at hi;omega
         simp[hi']) _ hnw1 hnw2
        have hrun:(execOp a.eval o).run P w= .ok (.value (.slice (Z ⟨q,0,U⟩) j.toNat x)) w:=by
         unfold execOp;rw[ho];simp[l9,p_,run_underlying hu,hz,hP,iK,asIntOf,s1,hbv,h0,show j<=x by omega,kT]
        unfold Lx;rw[hrun];exact⟨_,φ',rfl,p2,p3,p4,.I p1 (by omega) hcap hsh⟩
      .cases L
     .cases L
    .cases L
   .rename_i cells n k j hb;split at L
    .rename_i hc;simp only[db,al,bE]at hc;obtain⟨⟨h0,h1⟩,h2⟩:=hc;have h2:=aT h2;rw[du L];refine gF.reads λφ E h' w a _ hp _=>?_
     have D:=hp c _ (by rw[ho];simp[Op.operands]) hx;have hbv:=fE (hp b _ (by rw[ho];simp[Op.operands]) hb);generalize hz:a.eval c=z at D;have s1:=gH hs w;cases D with
     |f D=>
      cases D with
      |nil A x hc=>
       have hj:j=0:=by omega
       subst hj;refine ⟨.slice A 0 x,?_,by simpa using cf.f (.nil A x hc)⟩;unfold execOp;rw[ho];cases A<;>simp[l9,p_,run_underlying hu,hz,hP,iK,asIntOf,s1,hbv,atz]
      |sl _ _ x q off us hn hc hO hq hcl hu' D=>
       refine ⟨.slice (Z ⟨q,off,U⟩) j.toNat x,?_,.f (.sl _ _ _ _ _ us (by omega) hc hO hq (λy hy=>hcl y (im hy)) (λsz hi=>hu' sz (by rw[cu]at hi;omega)) λsz y hy=>?_)⟩
       .unfold execOp;rw[ho];simp[l9,p_,run_underlying hu,hz,hP,iK,asIntOf,s1,hbv,h0,show j<=x by omega,kT]
       .rw[fc]at hy;split at hy
        .exact D sz y hy
        .cases hy
    .cases L
   .cases L
  ·
   rename_i b;split at L
   .rename_i id sz' n k j hb;split at L
    .rename_i hc;simp only[db,gD,al,bE,cY]at hc;obtain⟨⟨rfl,h0⟩,h1⟩:=hc;rw[du L];refine gF.reads λφ E h' w a _ hp _=>?_
     have D:=hp c _ (by rw[ho];simp[Op.operands]) hx;have hbv:=fE (hp b _ (by rw[ho];simp[Op.operands]) hb);generalize hz:a.eval c=z at D;cases D with
     |@I _ _ _ x q hφ hn hc hsh=>
      have s1:=gH hs w;refine ⟨.slice (Z ⟨q,0+j.toNat*sz',U⟩) (n-j.toNat) (x-j.toNat),?_,?_⟩
      .unfold execOp;rw[ho];simp[l9,p_,run_underlying hu,hz,hP,iK,asIntOf,s1,hbv,h0,show j<=n by omega,show ¬x=j.toNat by omega,kT]
      .rw[bX];exact .sl hφ (by omega) (by omega)
    .cases L
   .rename_i cells n k j hb;split at L
    .rename_i hc;simp only[db,al,bE]at hc;obtain⟨⟨h0,h1⟩,h2⟩:=hc;have h2:=aT h2;rw[du L];refine gF.reads λφ E h' w a _ hp _=>?_
     have D:=hp c _ (by rw[ho];simp[Op.operands]) hx;have hbv:=fE (hp b _ (by rw[ho];simp[Op.operands]) hb);generalize hz:a.eval c=z at D;have s1:=gH hs w;cases D with
     |f D=>
      cases D with
      |nil A x hc=>
       have hj:j=0:=by omega
       subst hj;have hex:∃A',(execOp a.eval o).run P w= .ok (.value (.slice A' 0 x)) w:=by
        unfold execOp;rw[ho];cases A with
        |none=>exact⟨U,by simp[l9,p_,run_underlying hu,hz,hP,iK,asIntOf,s1,hbv]⟩
        |some A=>exact⟨Z A,by simp[l9,p_,run_underlying hu,hz,hP,iK,asIntOf,s1,hbv,atz]⟩
       obtain⟨A',hex⟩:=hex;exact⟨.slice A' 0 x,hex,by simpa using cf.f (.nil A' x hc)⟩
      |sl _ _ x q off us hn hc hO hq hcl hu' D=>
       by_cases hcj:x=j.toNat
       .refine ⟨.slice (Z ⟨q,off,U⟩) 0 0,?_,?_⟩
        .unfold execOp;rw[ho];simp[l9,p_,run_underlying hu,hz,hP,iK,asIntOf,s1,hbv,h0,show j<=n by omega,hcj,show n-j.toNat=0 by omega,kT]
        .rw[show n-j.toNat=0 by omega];simpa using cf.f (.nil (Z ⟨q,off,U⟩) 0 (by unfold maxLen;omega))
       .refine ⟨.slice (Z ⟨q,off+j.toNat*i,U⟩) (n-j.toNat) (x-j.toNat),?_,.f (.sl _ _ _ _ _ (λsz=>us (j.toNat*i+sz)) (by omega) (by omega) hO hq (λy hy=>hcl y (List.mem_of_mem_drop (im hy))) (λsz hi=>?_) λsz y hy=>?_)⟩
        .unfold execOp;rw[ho];simp[l9,p_,run_underlying hu,hz,hP,iK,asIntOf,s1,hbv,h0,show j<=n by omega,hcj,kT]
        .rw[uI];refine hu' _ ?_;rw[cu,xl]at hi;omega
        .rw[fc]at hy;split at hy
         .rw[tN]at hy;exact D _ y hy
         .cases hy
    .cases L
   .cases L
  ·
   rename_i b b' _;split at L
   .rename_i cells n k j k' j' hb hb';split at L
    .rename_i hc;simp only[db,al,bE]at hc;obtain⟨⟨⟨hjj,h0⟩,h1⟩,h2⟩:=hc;subst hjj;have h2:=aT h2;rw[du L];refine gF.reads λφ E h' w a _ hp _=>?_
     have D:=hp c _ (by rw[ho];simp[Op.operands]) hx;have hbv:=fE (hp b _ (by rw[ho];simp[Op.operands]) hb);have hbv':=fE (hp b' _ (by rw[ho];simp[Op.operands]) hb');generalize hz:a.eval c=z at D;have s1:=gH hs w;cases D with
     |f D=>
      cases D with
      |nil A x hc=>
       have hj:j=0:=by omega
       subst hj;refine ⟨.slice A 0 0,?_,by simpa using cf.qc (nu.nil A 0 (by unfold maxLen;omega))⟩;unfold execOp;rw[ho];cases A<;>simp[l9,p_,run_underlying hu,hz,hP,iK,asIntOf,s1,hbv,hbv',atz]
      |sl _ _ x q off us hn hc hO hq hcl hu' D=>
       refine ⟨.slice (Z ⟨q,off,U⟩) j.toNat j.toNat,?_,.qc (.sl _ _ _ _ _ us (bJ _) (by omega) hO hq (λy hy=>hcl y (im hy)) (λsz hi=>hu' sz (by rw[cu]at hi;omega)) λsz y hy=>?_)⟩
       .unfold execOp;rw[ho];simp[l9,p_,run_underlying hu,hz,hP,iK,asIntOf,s1,hbv,hbv',h0,show j<=x by omega,kT];intro hlt;omega
       .rw[fc]at hy;split at hy
        .exact D sz y hy
        .cases hy
    .cases L
   .cases L
  .cases L
 .cases L
def ahp {rd:ι} (hrow:y.row? h i=Z (r,j,rd)) (hrd:∀sz∈rd,S sz=h.get sz) (hrep:sC V O S w) (hr:cf V (tot O V S) w y v):
 ∃A c vs,v= .slice A j c/\Cs V (tot O V S) w r vs/\l! vs=j*i/\(A=U->vs=[])/\(∀ad,A=Z ad->∀(m:Nat) u,vs[m]? =Z u->w.cell? (ad.add m)=Z u):=by
 have emp:∀A c,v= .slice A 0 c->r=[]->j=0->∃A c vs,v= .slice A j c/\Cs V (tot O V S) w r vs/\l! vs=j*i/\(A=U->vs=[])/\(∀ad,A=Z ad->∀(m:Nat) u,vs[m]? =Z u->w.cell? (ad.add m)=Z u):=by
  rintro A c rfl rfl rfl;exact⟨A,c,[],rfl,⟨rfl,(by intro y z;cases z),(by intro m y v z;simp at z)⟩,by simp,λ_=>rfl,by intro ad _ m u D;simp at D⟩
 have own:∀(id off n c k:Nat) (b:kH),V id=Z k->S id=Z b->b.c.isCells=J->off+n*i<=b.c.len->v= .slice (Z ⟨k,off,U⟩) n c->r=(b.c.toMx.drop off).take (n*i)->j=n->
  ∃A c vs,v= .slice A j c/\Cs V (tot O V S) w r vs/\l! vs=j*i/\(A=U->vs=[])/\(∀ad,A=Z ad->∀(m:Nat) u,vs[m]? =Z u->w.cell? (ad.add m)=Z u):=by
  rintro id off n c k b hφ hb L hle rfl rfl rfl;let⟨arr,g1,g2,g3⟩:=hrep.cs hb hφ L;rw[BC.len_toMx L]at hle;refine ⟨_,c,((arr.toList.take (l! b.c.toMx)).drop off).take (j*i),rfl,(g2.drop off).take _,?_,nofun,?_⟩
  .simp;omega
  .intro ad had m u D;cases had;rw[kT];rw[fc]at D;split at D
   .rw[tN,fc]at D;split at D
    .rw[c9]at D;simp[R6,g1,D]
    .cases D
   .cases D
 unfold AV.row? at hrow;split at hrow
 .rename_i cells n;split at hrow
  .rename_i hle;have hle:=aT hle;simp only[ah,aR]at hrow;obtain⟨rfl,rfl,rfl⟩:=hrow;cases hr with
   |f hr=>
    cases hr with
    |nil a c L=>exact emp a c rfl (by simp) rfl
    |sl _ _ c b off us hn L hO hb hcl D hr=>
     refine ⟨_,c,(e_ (n*i)).map us,rfl,⟨by simp;omega,λy z=>?_,λm y u z hu'=>?_⟩,by simp,nofun,?_⟩
     .obtain⟨x,hy,rfl⟩:=cr.1 z;exact hcl x (im hy)
     .obtain⟨rfl,hj⟩:=AW us _ _ _ hu';rw[bB,fc,aD hj]at z;cases hq:cells[m]? with
      |none=>rw[hq]at z;cases z
      |some q=>rw[hq]at z;simp at z;subst z;exact .f (hr m q hq)
     .intro ad had m u hu';cases had;obtain⟨rfl,hj⟩:=AW us _ _ _ hu';rw[kT];exact D m (by omega)
  .cases hrow
 .simp only[ah,aR]at hrow;obtain⟨rfl,rfl,rfl⟩:=hrow;exact emp U 0 (fE hr) rfl rfl
 .simp only[ah,aR]at hrow;obtain⟨rfl,rfl,rfl⟩:=hrow;cases hr with
  |@emp a=>exact emp a 0 rfl rfl rfl
 .rename_i id sz' n;split at hrow
  .rename_i hsz;split at hrow
   .rename_i b hb;split at hrow
    .rename_i L;simp only[al]at L;simp only[ah,aR]at hrow;obtain⟨rfl,rfl,rfl⟩:=hrow;cases hr with
     |@I _ _ _ c k hφ hn hc' hsh=>
      exact own id 0 n c k b hφ (by rw[hrd id (by simp)];exact hb) L.1 (by simp_all) rfl (by simp) rfl
    .cases hrow
   .cases hrow
  .cases hrow
 .rename_i id off n;split at hrow
  .rename_i b hb;split at hrow
   .rename_i L;simp only[al]at L;simp only[ah,aR]at hrow;obtain⟨rfl,rfl,rfl⟩:=hrow;cases hr with
    |@sl _ _ _ c k hφ hn hc'=>exact own id off n c k b hφ (by rw[hrd id (by simp)];exact hb) L.1 (aT L.2) rfl rfl rfl
   .cases hrow
  .cases hrow
 .cases hrow
def an3 {rd:ι} (hrow:y.row? h i=Z (r,j,rd)) (hrd:∀sz∈rd,S sz=h.get sz) (hrep:sC V O S w) (hr:cf V (tot O V S) w y v) {L:TypeId} (D:P.underlying s=Z (.slice L)):
 ∃vs,Src P i s v j vs w/\Cs V (tot O V S) w r vs:=by
 obtain⟨A,c,vs,rfl,h1,h2,h3,h4⟩:=ahp hrow hrd hrep hr;refine ⟨vs,?_,h1⟩;cases A with
 |none=>
  have:=h3 rfl;subst this;have hm:j*i=0:=by grind
  refine ⟨.inl ⟨L,D⟩,λ_=>rfl,run_firstCells_none w i j j c,run_firstCells_none w.drew i j j c,by simp[hm],λ_ h=>by cases h⟩
 |some ad=>exact Src.ofSlice w D ad j c vs h2 (h4 ad rfl) h1.one
def ais :∀{l:ι},mem i l=J↔i∈l
 |[]=>by simp[mem]
 |y::r=>by
  simp[mem,nz,ais (l:=r),aV];constructor
  .rintro (h|h)
   .simp_all
   .exact .inr h
  .rintro (h|h)
   .simp_all
   .exact .inr h
def aua {u el el':TypeId} {x:Operand} (ho:o.op= .call {callee:=.builtin .copy,args:=#[c,x],argTypes:=#[s,u]}) (hu:P.underlying s=Z (.slice el)) (hu':P.underlying u=Z (.slice el')) (hs:fQ P el=Z i) (D:dA (.copy i c x) e h nx=Z R):gF P o e.get h.get R.eff:=by
 simp only[dA]at D;split at D
 .rename_i id sz' n y hd hx;split at D
  .rename_i blk src m rd hblk hrow;split at D
   .rename_i hc;simp only[al,cY,cR]at hc;obtain⟨⟨rfl,hmem⟩,hlen⟩:=hc;split at D
    .rename_i c' hput;cases D;unfold BC.put at hput;split at hput
     .rename_i hcc;simp only[al]at hcc;let⟨⟨c1,c2⟩,c3⟩:=hcc;have c2:=aT c2;rw[bX]at c2;have hc':c'.toMx=splice blk.c.toMx 0 (src.take (l8 m n*sz'))/\c'.isCells=J:=by
       split at hput
       next l ys hbl hys=>cases hput;refine ⟨?_,rfl⟩;have hv:=nR hys;rw[hv,hbl];simp only[BC.toMx];unfold splice;simp[gO,Aj]
       .cases hput;exact⟨rfl,rfl⟩
      refine gF.writes hblk λφ E h' w a hrd hb' hp hrep=>?_
      have hpd:=hp c _ (by rw[ho];simp[Op.operands,dD]) hd;have hpx:=hp x _ (by rw[ho];simp[Op.operands,dD]) hx;let⟨A,d,vs,hv,q1,q2,q3,q4⟩:=ahp hrow (λsz hi=>hrd sz (by simp[hi])) hrep hpx;generalize hz:a.eval c=pv at hpd;cases hpd with
      |@I _ _ _ cap k hφ hn hcap hsh=>
       let⟨arr,g1,g2,g3⟩:=hrep.cs hb' hφ c1;rw[BC.len_toMx c1]at c2;have hmn:l8 m n<=m:=Nat.min_le_left _ _;have hle:l8 m n*sz'<=m*sz':=cH _ hmn
       let z:=vs.take (l8 m n*sz')
       have hnl:l! z=l8 m n*sz':=by simp only[z,cu,q2];omega
       have hsl:l! (src.take (l8 m n*sz'))=l8 m n*sz':=by rw[cu,<-q1.1,q2];omega
       have csn:=q1.take (l8 m n*sz');rw[hsl]at c2;have hst:=run_storeCells_at (P:=P) k 0 blk.ty z 0 arr w g1 (by rw[hnl];omega) csn.one
       let arr':Array Value:=(arr.toList.take 0++z++arr.toList.drop (0+l8 m n*sz')).toArray
       have hsize:arr'.size=arr.size:=by simp only[arr',C_,bK,cu,xl,Array.length_toList,hnl];omega
       have hfc:(Bo sz' (l8 m n) (.slice A m d)).run P w= .ok z.toArray w:=by
        cases A with
        |none=>
         have:z=[]:=by simp[z,q3 rfl]
         rw[this];exact run_firstCells_none w sz' _ _ _
        |some ad=>exact run_firstCells_some w sz' _ ad m d z hnl (λj u hu=>q4 ad rfl j u (by
          simp only[z,fc]at hu;split at hu
          .exact hu
          .cases hu))
       refine ⟨.value (.int .i64 (l8 m n)),w.setRow k arr',k,.cells arr' blk.ty (0,0),?_,hφ,Jc.setRow g1 hsize,?_,_,.inl rfl,.f (.raw _)⟩
       .have s1:=gH hs w;simp only[dF,hnl]at hst;unfold execOp;rw[ho];simp[resolve,invoke,builtin,Builtin.copy_,run_underlying hu,hz,hv,Builtin.lenOf,s1,hfc,hst,goInt,arr']
       .refine rI hc'.2 (by rw[hc'.1,nI (by rw[hsl];omega),hsize];exact g3) λj q L=>?_
        rw[hc'.1,oz (by rw[hsl];omega)]at L;have ha':arr'[j]? =if j<0 then arr.toList[j]? else if j<0+l! z then z[j-0]? else arr.toList[j]? :=by grind
        rw[ha',av (by omega)];rw[av (by omega),hsl]at L;rw[hnl];by_cases h2:j<0+l8 m n*sz'
        .rw[aD h2]at L ⊢;have hj3:j-0<l! z:=by rw[hnl];omega
         exact⟨csn.2.1 q (a8 L),_,aG hj3,csn.2.2 _ q _ L (aG hj3)⟩
        .rw[av h2]at L ⊢;have hj:j<l! blk.c.toMx:=(bz.1 L).1;have hj2:j<l! arr.toList:=by simp;omega
         refine ⟨g2.2.1 q (a8 L),arr.toList[j],aG hj2,g2.2.2 j q _ L ?_⟩;rw[fc,aD hj,aG hj2]
     .cases hput
    .cases D
   .cases D
  .cases D
 .cases D
def axx {el:TypeId} (ho:o.op= .call {callee:=.builtin .clear,args:=#[c],argTypes:=#[s]}) (hu:P.underlying s=Z (.slice el)) (hz:uZ P el=Z L) (hc:oq L=J) (hl:l! L=i) (hsz:i≠0) (D:dA (.clr i L c) e h nx=Z R):gF P o e.get h.get R.eff:=by
 simp only[dA]at D;split at D
 .rename_i id off n hx;split at D
  .rename_i blk hblk;split at D
   .rename_i hn;have hn:=aT hn;obtain⟨m,rfl⟩:∃m,n=m+1:=⟨n-1,by omega⟩
    split at D
    .rename_i c' hput;cases D;unfold BC.put at hput;split at hput
     .rename_i hcc;simp only[al]at hcc;let⟨⟨c1,c2⟩,c3⟩:=hcc;have c2:=aT c2;have hsrc:l! ((repl L (m+1)).map AV.f)=(m+1)*i:=by rw[bQ,oB,hl]
      rw[hsrc]at c2;have hc':c'.toMx=splice blk.c.toMx off ((repl L (m+1)).map AV.f)/\c'.isCells=J:=by
       split at hput
       next l ys hbl hys=>cases hput;refine ⟨?_,rfl⟩;have hv:=nR hys;rw[hv,hbl];simp only[BC.toMx];unfold splice;simp[gO,Aj]
       .cases hput;exact⟨rfl,rfl⟩
      refine gF.writes hblk λφ E h' w a hrd hb' hp hrep=>?_
      have hpx:=hp c _ (by rw[ho];simp[Op.operands,dD]) hx;generalize hzv:a.eval c=pv at hpx;cases hpx with
      |@sl _ _ _ cap k hφ hn2 hcap=>
       let⟨arr,g1,g2,g3⟩:=hrep.cs hb' hφ c1;rw[BC.len_toMx c1]at c2;let⟨v,z1,z2,_⟩:=vF hz w;have csn:=Cs.repl (φ:=φ) (O:=tot E φ h') (w:=w) z2 (m+1) i hl hsz hc
       let z:=(mQ v.cells (m+1)).toList
       have hvs:v.cells.size=i:=by rw[<- hl,<-z2];simp
       have hns:z=((HW ((m+1)*i)).map (λsz=>v.cells[sz%v.cells.size]!)).toList:=by simp only[z,mQ,hvs]
       have hnl:l! z=(m+1)*i:=by rw[hns];simp
       rw[<- hns]at csn;have hst:=run_storeCells_at (P:=P) k off blk.ty z 0 arr w g1 (by rw[hnl];omega) csn.one
       let arr':Array Value:=(arr.toList.take (off+0)++z++arr.toList.drop (off+0+l! z)).toArray
       have hsize:arr'.size=arr.size:=by grind
       refine ⟨.value (.tuple #[]),w.setRow k arr',k,.cells arr' blk.ty (0,0),?_,hφ,Jc.setRow g1 hsize,?_,_,.inl rfl,.qb (vs:=[]) rfl λj y v hy=>by simp at hy⟩
       .unfold execOp;rw[ho];have hst2:(storeCells ⟨k,off,U⟩ (mQ v.cells (m+1)).toList).run P w= .ok () (w.setRow k arr'):=hst;simp[resolve,invoke,builtin,Builtin.clear_,run_underlying hu,hzv,z1,hst2]
       .refine rI hc'.2 (by rw[hc'.1,nI (by rw[hsrc];omega),hsize];exact g3) λj q A=>?_
        rw[hc'.1,oz (by rw[hsrc];omega)]at A;have ha':arr'[j]? =if j<off then arr.toList[j]? else if j<off+l! z then z[j-off]? else arr.toList[j]? :=by
         have:=oz (l:=arr.toList) (vs:=z) (off:=off) (by grind) j;unfold splice at this
         grind
        rw[ha'];rw[hsrc]at A;rw[hnl];by_cases h1:j<off
        .rw[aD h1]at A ⊢;have hj:j<l! blk.c.toMx:=(bz.1 A).1;have hj2:j<l! arr.toList:=by simp;omega
         refine ⟨g2.2.1 q (a8 A),arr.toList[j],aG hj2,g2.2.2 j q _ A ?_⟩
         grind
        rw[av h1]at A ⊢;by_cases h2:j<off+(m+1)*i
        .rw[aD h2]at A ⊢;have hj3:j-off<l! z:=by rw[hnl];omega
         exact⟨csn.2.1 q (a8 A),_,aG hj3,csn.2.2 _ q _ A (aG hj3)⟩
        .rw[av h2]at A ⊢;have hj:j<l! blk.c.toMx:=(bz.1 A).1;have hj2:j<l! arr.toList:=by simp;omega
         refine ⟨g2.2.1 q (a8 A),arr.toList[j],aG hj2,g2.2.2 j q _ A ?_⟩
         grind
     .cases hput
    .cases D
   .cases D
  .cases D
 .cases D
end
def QP (w:World) (ob:Obj):X5 w (w.drew.alloc ob) ob:=X5.drawn (w.drawn+1) (sX {w with drawn:=w.drawn+1} ob)
section
variable {P:Program} {o:Oper} {e:ED} {h:ny} {nx:Nat} {R:Dz}
def L4 (A:v.cells.toList=L) (D:l! L=i) (n:Nat):(mQ v.cells n).size=n*i:=by
 have:v.cells.size=i:=by grind
 simp[mQ,this]
def OY {u D:TypeId} {t:Operand} {m:TypeInfo} (ho:o.op= .call {callee:=.builtin .append,args:=#[t,c],argTypes:=#[s,u]}) (hu:P.underlying s=Z (.slice D)) (i1:P.info? D=Z m) (hz:uZ P D=Z L) (hzl:l! L=m.size)
 {a:Act} (hrep:sC V O S w) (hnx:V nx=U) {A:M Addr} {n cap:Nat} {olds vs:ξ} {oldA:Y AV} (hsl:a.eval t= .slice A n cap)
 (hold:(Bo m.size n (.slice A n cap)).run P w.drew= .ok olds.toArray w.drew) (csold:Cs V (tot O V S) w oldA olds) (hol:l! olds=n*m.size) (hsrc:Src P m.size u (a.eval c) i vs w) (hcs:Cs V (tot O V S) w r vs)
 (hg:cap<n+i) (r1:n+i<=1099511627776) (r2:(n+i)*m.bytes<=1099511627776) (del:ι) (hdel:∀j∈del,j≠nx):
 o.wp P a w (λa' w'=>∃v φ',a'=a.put o.dst v/\kl V φ' S (fx S (nx::del) (j9 [(nx,⟨D,ov (oldA++r)⟩)])) w w'/\(∀m k,φ' m=Z k->V m=Z k\/m∈[nx])/\
  sC φ' O (fx S (nx::del) (j9 [(nx,⟨D,ov (oldA++r)⟩)])) w'/\cf φ' (tot O φ' (fx S (nx::del) (j9 [(nx,⟨D,ov (oldA++r)⟩)]))) w' (.I nx m.size (n+i)) v) (λ_ _ _=>False):=by
 let⟨zv,z1,z2,i',z,z3⟩:=vF hz w;rw[i1]at z;cases z;have hfb:=growslice_fits (need:=n+i) (old:=cap) (bytes:=m.bytes) hg (by omega);have hrun:=run_append_grow_src w s u o.type D m zv hu i1 z3 A n cap olds hold (a.eval c) i vs hsrc hg (by omega) hfb;have hgc:=grownCap_ge w (n+i) cap D;have hgm:=grownCap_le_maxLen w (n+i) cap D (by unfold maxLen;omega);generalize grownCap w (n+i) cap D=Gc at hrun hgc hgm;have cs:=csold.append hcs;have hnl:=hsrc.newsLen;let⟨φ',p1,p2,p3,p4⟩:=hrep.wnew hnx (QP w _) (b:=⟨D,ov (oldA++r)⟩) (ob:=.cells ((olds++vs).toArray++mQ zv.cells (Gc-(n+i))) D (0,0)) (by
  let⟨q1,q2⟩:=nO (oldA++r);refine rI q2 (by rw[q1,<-cs.1];simp) λj q hq=>?_
  rw[q1]at hq;have hj:j<l! (olds++vs):=by rw[cs.1];exact (bz.1 hq).1
  refine ⟨cs.2.1 q (a8 hq),_,?_,cs.2.2 j q _ hq (aG hj)⟩;rw[Array.getElem?_append_left (by omega),List.getElem?_toArray,aG hj]) del (j9 [(nx,⟨D,ov (oldA++r)⟩)]) (by simp[j9]) (λj hj hne=>by
   simp only[j9];rw[av];intro hb;exact hne (au hb).symm)
 have hexec:(execOp a.eval o).run P w= .ok (.value (.slice (Z ⟨w.heap.size,0,U⟩) (n+i) Gc)) (w.drew.alloc (.cells ((olds++vs).toArray++mQ zv.cells (Gc-(n+i))) D)):=by
  unfold execOp;rw[ho];simp[resolve,invoke,builtin,fH,xf,cW,List.map_toArray,b9,C',hsl,hrun]
 unfold Lx;rw[hexec];refine ⟨_,φ',rfl,p2,p3,p4,.I p1 hgc hgm ⟨D,?_⟩⟩;have:=(QP w (.cells ((olds++vs).toArray++mQ zv.cells (Gc-(n+i))) D (0,0))).at_;unfold tL;have hzs:=L4 z2 hzl (Gc-(n+i));have e1:(n+i)*m.size+(Gc-(n+i))*m.size=Gc*m.size:=by rw[<- Nat.add_mul];congr 1;omega
 grind
def ay0 {u el el':TypeId} {t:Operand} (ho:o.op= .call {callee:=.builtin .append,args:=#[t,c],argTypes:=#[s,u]}) (hu:P.underlying s=Z (.slice el)) (hu':P.underlying u=Z (.slice el')) (hs:fQ P el=Z i) (hb:I8 P el=Z j) (hz:uZ P el=Z L) (hzl:l! L=i) (hsz:i≠0)
 (z:dA (.app el i j t c) e h nx=Z R):gF P o e.get h.get R.eff:=by
 let⟨sz,i1,i2⟩:=RP hb;have i3:sz.size=i:=by unfold fQ at hs;rw[i1]at hs;simpa using hs
 subst i2 i3;simp only[dA]at z;split at z
 .rename_i bv y hsv D;split at z
  .rename_i src m rd hrow;have common:∀{φ:PM} {E:Nat->Prop} {h':HF} {w:World} {a:Act},(∀sz∈rd,h' sz=h.get sz)->Yo φ E h' w a e o->sC φ E h' w->∃vs,Src P sz.size u (a.eval c) m vs w/\Cs φ (tot E φ h') w src vs:=
    λhrd hp hrep=>an3 hrow hrd hrep (hp c _ (by rw[ho];simp[Op.operands,dD]) D) hu'
   have exec:∀{w w':World} {a:Act} {v:Value},(Jn #[s,u] o.type #[a.eval t,a.eval c]).run P w= .ok v w'->(execOp a.eval o).run P w= .ok (.value v) w':=by
    intro w w' a v hrun;unfold execOp;rw[ho];simp[resolve,invoke,builtin,hrun]
   split at z
   .rename_i id sz' n;split at z
    .rename_i blk hblk;split at z
     .rename_i hc;simp only[al,cY,cR]at hc;obtain⟨⟨⟨⟨⟨rfl,hmem⟩,hcells⟩,hlen⟩,hty⟩,hroom⟩:=hc;have hlen:=aT hlen;rw[BC.len_toMx hcells]at hlen;let⟨r1,r2⟩:=FX hroom;cases z;subst hty;intro φ E h' w a h1 h2 h3 hrep h5;have hp:Yo φ E h' w a e o:=λc y D hy=>vB hrep h3 D hy
      have hb':h' id=Z blk:=by rw[h1 id (by simp[Dz.eff])];exact hblk
      let⟨vs,hsrc,hcs⟩:=common (λsz hi=>h1 sz (by simp[Dz.eff,hi])) hp hrep;have hpd:=hp t _ (by rw[ho];simp[Op.operands,dD]) hsv;have hnx:φ nx=U:=h5 nx (by simp[Dz.eff]);have hwv:=hp t _ (by rw[ho];simp[Op.operands,dD]) hsv;generalize hzv:a.eval t=pv at hpd;cases hpd with
      |@I _ _ _ cap k hφ hn hcap hsh=>
       let⟨arr,g1,g2,g3⟩:=hrep.cs hb' hφ hcells;have hne:nx≠id:=λe=>by rw[e,hφ]at hnx;cases hnx
       have harr:arr.size=cap*sz.size:=by
        let⟨ty,hty⟩:=hsh;unfold tL at hty;rw[g1]at hty;simp at hty;exact hty.2
       have hnl:=hsrc.newsLen;have hnn:n*sz.size<=arr.size:=by omega
       have csnew:Cs φ (tot E φ h') w (blk.c.toMx.take (n*sz.size)++src) (arr.toList.take (n*sz.size)++vs):=by
        have:=(g2.take (n*sz.size)).append hcs
        rwa [List.take_take,Jk hlen]at this
       have hnw1:j9 [(nx,⟨blk.ty,ov (blk.c.toMx.take (n*sz.size)++src)⟩)] nx=Z ⟨blk.ty,ov (blk.c.toMx.take (n*sz.size)++src)⟩:=by simp[j9]
       have hnw2:j9 [(nx,⟨blk.ty,ov (blk.c.toMx.take (n*sz.size)++src)⟩)] id=U:=by
        simp only[j9];rw[av];intro hb;exact hne (au hb)
       by_cases hfit:n+m<=cap
       ·
        have hend:n*sz.size+l! vs<=arr.size:=by
         rw[hnl,harr,<-Nat.add_mul];exact cH _ hfit
        have hst:=run_storeCells_at (P:=P) k (n*sz.size) blk.ty vs 0 arr w g1 (by omega) hsrc.one;simp only[dF]at hst
        let arr':Array Value:=(arr.toList.take (n*sz.size)++vs++arr.toList.drop (n*sz.size+l! vs)).toArray
        have hsize:arr'.size=arr.size:=by simp only[arr',C_,bK,cu,xl,Array.length_toList];omega
        have hrun:(Jn #[s,u] o.type #[a.eval t,a.eval c]).run P w= .ok (.slice (Z ⟨k,0,U⟩) (n+m) cap) (w.setRow k arr'):=by
         rw[hzv];rcases hsrc.kind with ⟨e',hk⟩|hk<;>simp[Jn,run_underlying hu,run_underlying hk,sizeOf,typeInfo,i1,hsrc.len,hfit,hsrc.cells,kT,hst,arr']
        let⟨φ',p1,p2,p3,p4⟩:=hrep.wren hb' hφ hnx (Jc.setRow g1 hsize) (b':=⟨blk.ty,ov (blk.c.toMx.take (n*sz.size)++src)⟩) (by
         let⟨q1,q2⟩:=nO (blk.c.toMx.take (n*sz.size)++src);refine rI q2 (by rw[q1,<-csnew.1,hsize];simp;omega) λbytes q hq=>?_
         rw[q1]at hq;have hj:bytes<l! (arr.toList.take (n*sz.size)++vs):=by rw[csnew.1];exact (bz.1 hq).1
         refine ⟨csnew.2.1 q (a8 hq),_,?_,csnew.2.2 bytes q _ hq (aG hj)⟩;simp only[arr',List.getElem?_toArray];rw[bI hj,aG hj]) _ hnw1 hnw2
        unfold Lx;rw[exec hrun];refine ⟨_,φ',rfl,p2,p3,p4,.I p1 hfit hcap ⟨blk.ty,?_⟩⟩;unfold tL;rw[setRow_heap w k arr arr' blk.ty (0,0) g1];simp[hsize,harr]
       ·
        have hold:(Bo sz.size n (.slice (Z ⟨k,0,U⟩) n cap)).run P w.drew= .ok (arr.toList.take (n*sz.size)).toArray w.drew:=by
         refine run_firstCells_some w.drew sz.size n _ n cap _ (by simp;omega) λbytes v hv=>?_
         rw[fc]at hv;split at hv
         .rw[c9]at hv;rw[kT,bX];have hcl:w.cell? ⟨k,bytes,U⟩=Z v:=by simp[R6,g1,hv]
          simpa using hcl
         .cases hv
        exact OY ho hu i1 hz hzl hrep hnx hzv hold (by
         have:=g2.take (n*sz.size)
         rwa [List.take_take,Jk hlen]at this) (by simp;omega) hsrc hcs (by omega) r1 r2 [id] (λbytes hj=>by simp at hj;subst hj;exact λe=>hne e.symm)
     .cases z
    .cases z
   .rename_i cells n;split at z
    .rename_i hc;simp only[al]at hc;let⟨hlen,hroom⟩:=hc;have hlen:=aT hlen;let⟨r1,r2⟩:=FX hroom;split at z
     .rename_i hm;have hm:m=0:=by simpa using hm
      subst hm;cases z;refine gF.reads λφ E h' w a hrd hp hrep=>?_
      let⟨vs,hsrc,hcs⟩:=common hrd hp hrep;have hr:=hp t _ (by rw[ho];simp[Op.operands,dD]) hsv;generalize hz:a.eval t=q at hr;cases hr with
      |@qc _ _ A hr=>
       refine ⟨.slice A n n,exec ?_,.f hr⟩;rw[hz];have hvs:vs=[]:=by have:=hsrc.newsLen;simpa using this
       have hc0:=hsrc.cells;rw[hvs]at hc0;rcases hsrc.kind with ⟨e',hk⟩|hk<;>cases A<;>simp[Jn,run_underlying hu,run_underlying hk,sizeOf,typeInfo,i1,hsrc.len,hc0,storeCells]
     .rename_i hm;have hm:m≠0:=by simpa using hm
      cases z;intro φ E h' w a h1 h2 h3 hrep h5;have hp:Yo φ E h' w a e o:=λc y D hy=>vB hrep h3 D hy
      let⟨vs,hsrc,hcs⟩:=common (λsz hi=>h1 sz hi) hp hrep;have hr:=hp t _ (by rw[ho];simp[Op.operands,dD]) hsv;generalize hz':a.eval t=q at hr;cases hr with
      |@qc _ _ A hr=>
       have key:∃olds:ξ,(Bo sz.size n (.slice A n n)).run P w.drew= .ok olds.toArray w.drew/\Cs φ (tot E φ h') w ((cells.take (n*sz.size)).map .f) olds/\l! olds=n*sz.size:=by
        cases hr with
        |nil a x _=>
         refine ⟨[],?_,⟨by simp,(by intro c D;simp at D),(by intro bytes c v D;simp at D)⟩,by simp⟩;cases A with
         |none=>exact run_firstCells_none w.drew sz.size 0 0 0
         |some ad=>exact run_firstCells_some w.drew sz.size 0 ad 0 0 [] (by simp) (by intro bytes v hv;simp at hv)
        |sl _ _ x b off us hn hc hO hb hcl hu2 hrr=>
         refine ⟨(e_ (n*sz.size)).map us,?_,⟨by simp;omega,?_,?_⟩,by simp⟩
         .refine run_firstCells_some w.drew sz.size n _ n n _ (by simp) λbytes v hv=>?_
          rw[bB]at hv;rcases cC bytes (n*sz.size) with hj|hj
          .rw[List.getElem?_range hj]at hv;simp only[bh,ah]at hv;subst hv;rw[kT];exact hu2 bytes (by omega)
          .rw[c7 (by simpa using hj)]at hv;cases hv
         .intro c D;obtain⟨y,hy,rfl⟩:=cr.1 D;exact hcl y (im hy)
         .intro bytes c v D hv;rw[bB,fc]at D;split at D
          .rename_i hj;rw[bB,List.getElem?_range hj]at hv;simp only[bh,ah]at hv;subst hv;cases hcj:cells[bytes]? with
           |none=>rw[hcj]at D;cases D
           |some y=>
            rw[hcj]at D;simp only[bh,ah]at D;subst D;exact .f (hrr bytes y hcj)
          .cases D
       let⟨olds,k1,k2,k3⟩:=key;have:=OY (nx:=nx) ho hu i1 hz hzl hrep (h5 nx (by simp[Dz.eff])) hz' k1 k2 k3 hsrc hcs (by omega) r1 r2 [] (by simp);simpa[Dz.eff] using this
    .cases z
   .split at z
    .rename_i hc;simp only[al]at hc;let⟨hb0,hroom⟩:=hc;let⟨r1,r2⟩:=FX hroom;have hbase:∀{φ:PM} {O:Nat->Prop} {w:World} {v:Value},cf φ O w bv v->∃A,v= .slice A 0 0:=by
      intro φ O w v hr;unfold Fe at hb0;split at hb0
      .cases hr;exact⟨_,rfl⟩
      .rename_i q;cases fE hr;unfold Dm at hb0;split at hb0
       .exact⟨_,rfl⟩
       .cases hb0
      .cases hb0
     split at z
     .rename_i hm;have hm:m=0:=by simpa using hm
      subst hm;cases z;refine gF.reads λφ E h' w a hrd hp hrep=>?_
      let⟨vs,hsrc,hcs⟩:=common hrd hp hrep;have hr:=hp t _ (by rw[ho];simp[Op.operands,dD]) hsv;let⟨A,hA⟩:=hbase hr;refine ⟨a.eval t,exec ?_,hr⟩;rw[hA];have hvs:vs=[]:=by have:=hsrc.newsLen;simpa using this
      have hc0:=hsrc.cells;rw[hvs]at hc0;rcases hsrc.kind with ⟨e',hk⟩|hk<;>cases A<;>simp[Jn,run_underlying hu,run_underlying hk,sizeOf,typeInfo,i1,hsrc.len,hc0,storeCells]
     .rename_i hm;have hm:m≠0:=by simpa using hm
      cases z;intro φ E h' w a h1 h2 h3 hrep h5;have hp:Yo φ E h' w a e o:=λc y D hy=>vB hrep h3 D hy
      let⟨vs,hsrc,hcs⟩:=common (λsz hi=>h1 sz hi) hp hrep;let⟨A,hA⟩:=hbase (hp t _ (by rw[ho];simp[Op.operands,dD]) hsv);have hold:(Bo sz.size 0 (.slice A 0 0)).run P w.drew= .ok ([]:ξ).toArray w.drew:=by
       cases A with
       |none=>exact run_firstCells_none w.drew sz.size 0 0 0
       |some ad=>exact run_firstCells_some w.drew sz.size 0 ad 0 0 [] (by simp) (by intro bytes v hv;simp at hv)
      have:=OY (nx:=nx) (n:=0) (cap:=0) (olds:=[]) (oldA:=[]) ho hu i1 hz hzl hrep (h5 nx (by simp[Dz.eff])) hA hold ⟨rfl,(by intro c D;cases D),(by intro bytes c v D;simp at D)⟩ (by simp) hsrc hcs (by omega) (by omega) (by simpa using r2) [] (by simp);simpa[Dz.eff] using this
    .cases z
  .cases z
 .cases z
end
section
variable {P:Program} {o:Oper} {e:ED} {h:ny} {nx:Nat} {R:Dz}
def axm (D:o.op= .makeMap s U) (z:dA .mkm e h nx=Z R):gF P o e.get h.get R.eff:=by
 simp[dA,ah]at z;subst z;refine gF.makes λφ E h' w a _ _ _=>?_
 refine ⟨.map (Z w.heap.size),{w with heap:=w.heap.push (.map #[] 0)},.map #[] 0,?_,sX w _,⟨#[],0,rfl,by unfold MpK;rfl,by intro j x A;simp at A⟩,λφ' O hφ=>.mp hφ⟩;unfold execOp;rw[D];simp[Instr.makeMap,newObj,kU]
def axf (A:o.op= .range s c) (L:P.underlying s=Z .string) (z:dA (.rng c) e h nx=Z R):gF P o e.get h.get R.eff:=by
 simp[dA]at z;split at z
 .rename_i t D;simp[ah]at z;subst z;refine gF.makes λφ E h' w a _ hp _=>?_
  have hr:=fE (hp c _ (by rw[A];simp[Op.operands]) D);refine ⟨.pointer (Z ⟨w.heap.size,0,U⟩),{w with heap:=w.heap.push (.stringIter t 0)},.stringIter t 0,?_,sX w _,rfl,λφ' O hφ=>.P hφ⟩;unfold execOp;rw[A];simp[Instr.range,run_underlying L,hr,newObj,kU]
 .cases z
def vO {ob ob':Obj} (z:w.heap[i]? =Z ob) (h1:∀c t f,ob≠ .cells c t f) (D:∀c t f,ob'≠ .cells c t f):Jc w {w with heap:=w.heap.setIfInBounds i ob'} i ob':=by
 have hlt:i<w.heap.size:=(dz.1 z).1;have hat:(w.heap.setIfInBounds i ob')[i]? =Z ob':=by simp[hlt]
 have hot:∀j,j≠i->(w.heap.setIfInBounds i ob')[j]? =w.heap[j]? :=λj A=>Array.getElem?_setIfInBounds_ne (λe=>A e.symm)
 refine ⟨rfl,rfl,rfl,by simp,hat,hot,λj=>?_⟩;unfold tL
 grind
def axh (ho:o.op= .next c J) (A:dA (.nxt c) e h nx=Z R):gF P o e.get h.get R.eff:=by
 simp only[dA]at A;split at A
 .rename_i id hx;split at A
  .rename_i ty s p hid;split at A
   .rename_i b hb;cases A;refine gF.writes hid λφ E h' w a hrd hb' hp hrep=>?_
    have hr:=hp c _ (by rw[ho];simp[Op.operands]) hx;generalize hz:a.eval c=z at hr;cases hr with
    |@P _ _ k hφ=>
     let⟨k',q1,_,ob,q2,q3⟩:=hrep.at_ id _ hb';rw[hφ]at q1;cases q1;have q3:ob= .stringIter s p:=q3;subst q3;have hps:p<s.size:=by
      have:=(bz.1 hb).1;simpa using this
     have hget:s.get! p=b:=by
      have:s.data[p]? =Z b:=by grind
      have hpd:p<s.data.size:=(dz.1 this).1;have h2:s.data[p]! =s.data[p]:=getElem!_pos s.data p hpd;rw[pG hpd]at this;simp only[ByteArray.get!,h2];exact fX this
     have hdec:∃x:Nat,Utf8.decode s p=(x,wdA b s p)/\rnA b s p=(x:Int):=by
      unfold wdA rnA;cases hlt:ey b.toNat 128 with
      |true=>
       refine ⟨b.toNat,?_,rfl⟩;have:=aT hlt;unfold Utf8.decode
       grind
      |false=>exact⟨(Utf8.decode s p).1,rfl,rfl⟩
     let⟨x,hdec,hc⟩:=hdec;refine ⟨.value (.tuple #[.bool J,.int .i64 p,.int .i32 x]),_,k,.stringIter s (p+wdA b s p),?_,hφ,vO q2 (by simp) (by simp),rfl,_,.inl rfl,?_⟩
     .unfold execOp;rw[ho];simp[Instr.next,hz,getObj,kU,q2,hps,hdec,setObj,goInt]
     .refine cf.qb (vs:=[.bool J,.int .i64 p,.int .i32 x]) rfl λj y v D L=>?_
      rw[hc]at D;rcases j with _|_|_|j<;>simp at D L
      .subst D L;exact .f (.raw _)
      .subst D L;exact .f (.raw _)
      .subst D L;exact .f (.raw _)
   .rename_i hb;cases A;refine gF.writes hid λφ E h' w a hrd hb' hp hrep=>?_
    have hr:=hp c _ (by rw[ho];simp[Op.operands]) hx;generalize hz:a.eval c=z at hr;cases hr with
    |@P _ _ k hφ=>
     let⟨k',q1,_,ob,q2,q3⟩:=hrep.at_ id _ hb';rw[hφ]at q1;cases q1;have q3:ob= .stringIter s p:=q3;subst q3;have hps:¬p<s.size:=by simp_all
     refine ⟨.value (.tuple #[.bool af]),w,k,.stringIter s p,?_,hφ,⟨rfl,rfl,rfl,rfl,q2,λ_ _=>rfl,λ_=>rfl⟩,rfl,_,.inl rfl,?_⟩
     .unfold execOp;rw[ho];simp[Instr.next,hz,getObj,kU,q2,hps]
     .refine cf.qb (vs:=[.bool af]) rfl λj y v D L=>?_
      rcases j with _|j<;>simp at D L;subst D L;exact .f (.raw _)
  .cases A
 .cases A
def xR {a b:ByteArray}:tY a b=J↔a=b:=by
 unfold tY;constructor
 .intro h;have h1:a.data.toList=b.data.toList:=by grind
  cases a;simp_all
 .rintro rfl;simp
def Dx (a b:ByteArray):(a==b)=tY a b:=by
 have h1:(a==b)=(a.data==b.data):=rfl;rw[h1,Bool.eq_iff_iff,xR,cY];constructor
 .intro h;cases a;congr 1
 .rintro rfl;rfl
def kd (str:Bool) (d:TypeDesc):Prop:=if str then d= .string else ∃k,d= .int k
def FU {str:Bool} {d:TypeDesc} (hd:kd str d) {A:Value} (D:za str v=J) (z:w_ .eql v A=Z (.bool b)):Instr.sameNow d v A=Z b:=by
 cases str with
 |true=>
  subst hd;cases v<;>simp[za]at D;cases A<;>simp only[w_]at z<;>try (simp at z;done)
  simp[ah,Fv]at z;simp[Instr.sameNow,Dx,z]
 |false=>
  obtain⟨q,rfl⟩:=hd;cases v<;>simp[za]at D;cases A<;>simp only[w_]at z<;>try (simp at z;done)
  split at z
  next hkk=>have hkk':=eq_of_beq hkk;subst hkk';simp[ah,Fv]at z;simp[Instr.sameNow,<-z]
  .cases z
def Wt {d:TypeDesc} (hd:kd b d) (L:za b v=J):∀(es:Y n!) (ents:Y MapEntry) (i:Nat),ents.map (·.key)=es.map (·.1)->∀r,tR v es=Z r->
 (r=U/\jM d v ents i=Z U)\/∃(j:Nat) (k:AV) (m:MapEntry) (A:Value),r=Z k/\es[j]? =Z (A,k)/\ents[j]? =Z m/\jM d v ents i=Z (Z (i+j,m.val))/\w_ .eql v A=Z (.bool J)
 |[],ents,i,he,r,h=>by
  cases ents with
  |nil=>simp[tR,ah]at h;exact .inl ⟨h.symm,rfl⟩
  |cons _ _=>simp at he
 |(A,k)::es,ents,i,he,r,h=>by
  cases ents with
  |nil=>simp at he
  |cons m ents=>
   simp[b9,eV]at he;let⟨z,he2⟩:=he;simp[tR]at h;split at h
   next D=>simp[ah]at h;refine .inr ⟨0,k,m,A,h.symm,rfl,rfl,?_,D⟩;simp only[jM];rw[z,FU hd L D];rfl
   .rename_i D;have hs:=FU hd L D;rcases Wt hd L es ents (i+1) he2 r h with ⟨h1,h2⟩|⟨j,v',m',k'',h1,h2,h3,h4,h5⟩
    .refine .inl ⟨h1,?_⟩;simp[jM];rw[z,hs];exact h2
    .refine .inr ⟨j+1,v',m',k'',h1,by simpa using h2,by simpa using h3,?_,h5⟩;simp[jM]
     grind
   .cases h
def FW {d:TypeDesc} (A:P.underlying s=Z d) (hd:kd b d) (str:Bool) (v:Value) (w:World):(mJ str 10000 s v).run P w= .ok () w:=by
 have key:∀n,(mJ str (n+1) s v).run P w= .ok () w:=λn=>by
  unfold kd at hd;cases b with
  |true=>simp[bk]at hd;subst hd;simp[mJ,run_underlying A]
  |false=>simp[cQ,dE]at hd;obtain⟨q,rfl⟩:=hd;simp[mJ,run_underlying A]
 exact key 9999
def ai2 {ok:Bool} (h:cf V O w y v):cf V O w (pkV ok y b) (if ok then .tuple #[v,.bool b] else v):=by
 cases ok with
 |false=>exact h
 |true=>
  refine cf.qb (vs:=[v,.bool b]) rfl λj x u z A=>?_
  rcases j with _|_|j<;>simp at z A
  .grind
  .subst z A;exact .f (.raw _)
def art {kt el:TypeId} {k:Operand} {str:Bool} {d:TypeDesc} (ho:o.op= .lookup s c k b) (hu:P.underlying s=Z (.map kt el)) (hk:P.underlying kt=Z d) (hd:kd str d) (L:(P.info? el).bind (·.zero)=Z v) (A:dA (.jg str b v c k) e h nx=Z R):gF P o e.get h.get R.eff:=by
 simp only[dA]at A;split at A
 .rename_i id key hx hkx;split at A
  .rename_i es hid;split at A
   .rename_i hko;have fin:∀val:AV,(∀(φ:PM) (E:Nat->Prop) (h':HF) (w:World) (a:Act),h' id=Z ⟨0,.mp es⟩->Yo φ E h' w a e o->sC φ E h' w->∃z,(execOp a.eval o).run P w= .ok (.value z) w/\cf φ (tot E φ h') w val z)->R=⟨val,[id],[],[],[]⟩->gF P o e.get h.get R.eff:=by
     rintro val hv rfl;exact gF.reads λφ E h' w a hrd hp hrep=>hv φ E h' w a (by rw[hrd id (by simp)];exact hid) hp hrep
    have zrun:∀w:World,(zeroValue el).run P w= .ok v w:=λw=>by
     cases hi:P.info? el with
     |none=>rw[hi]at L;cases L
     |some i=>rw[hi]at L;simp only[aF]at L;simp[zeroValue,typeInfo,hi,L]
    have main:∀r,tR key es=Z r->∀(φ:PM) (E:Nat->Prop) (h':HF) (w:World) (a:Act),h' id=Z ⟨0,.mp es⟩->Yo φ E h' w a e o->sC φ E h' w->
     ∃z,(execOp a.eval o).run P w= .ok (.value z) w/\cf φ (tot E φ h') w (match r with|some z=>pkV b z J|none=>pkV b (raw v) af) z:=by
     intro r hr φ E h' w a hb' hp hrep;have hrx:=hp c _ (by rw[ho];simp[Op.operands]) hx;have hrk:=fE (hp k _ (by rw[ho];simp[Op.operands]) hkx);generalize D:a.eval c=zz at hrx;cases hrx with
     |@mp _ ok hφ=>
      let⟨k',q1,_,ob,q2,q3⟩:=hrep.at_ id _ hb';rw[hφ]at q1;cases q1;obtain⟨ents,clock,rfl,q4,q5⟩:=q3;have q4:ents.toList.map (·.key)=es.map (·.1):=by unfold MpK at q4;exact q4
      have hck:=FW (P:=P) hk hd ents.isEmpty key w;rcases Wt hd hko es ents.toList 0 q4 r hr with ⟨h1,h2⟩|⟨j,z,m,k',h1,h2,h3,h4,_⟩
      .subst h1;refine ⟨_,?_,ai2 (.f (.raw v))⟩;unfold execOp;rw[ho];cases b<;>simp[Instr.lookup,run_underlying hu,D,hrk,getObj,kU,q2,hck,Al,run_underlying hk,h2,zrun]
      .subst h1;let⟨_,h6,h7⟩:=q5 j _ h2;unfold MpV at h6;obtain⟨m',h6,rfl⟩:=h6;rw[c9]at h3;rw[h3]at h6;cases h6;refine ⟨_,?_,ai2 h7⟩;unfold execOp;rw[ho];cases b<;>simp[Instr.lookup,run_underlying hu,D,hrk,getObj,kU,q2,hck,Al,run_underlying hk,h4]
    split at A
    next z hf=>simp only[ah]at A;exact fin _ (main _ hf) A.symm
    next hf=>simp only[ah]at A;exact fin _ (main _ hf) A.symm
    .cases A
   .cases A
  .cases A
 .cases A
def abe {d:TypeDesc} (hd:kd b d) (hk:za b v=J) {k:AV}:∀(es es':Y n!) (ents:Y MapEntry) (i:Nat),ents.map (·.key)=es.map (·.1)->AE v k es=Z es'->
 (jM d v ents i=Z U/\es'=es++[(v,k)])\/∃(j:Nat) (m:MapEntry) (A:Value) (L:AV),es[j]? =Z (A,L)/\ents[j]? =Z m/\jM d v ents i=Z (Z (i+j,m.val))/\w_ .eql v A=Z (.bool J)/\es'=es.set j (v,k)
 |[],es',ents,i,he,h=>by
  cases ents with
  |nil=>simp[AE,ah]at h;exact .inl ⟨rfl,by simp[h]⟩
  |cons _ _=>simp at he
 |(A,L)::es,es',ents,i,he,h=>by
  cases ents with
  |nil=>simp at he
  |cons m ents=>
   simp[b9,eV]at he;let⟨z,he2⟩:=he;simp[AE]at h;split at h
   next D=>simp[ah]at h;refine .inr ⟨0,m,A,L,rfl,rfl,?_,D,by simp[h]⟩;simp only[jM];rw[z,FU hd hk D];rfl
   .rename_i D;have hs:=FU hd hk D;split at h
    .rename_i es2 hes2;simp[ah]at h;subst h;rcases abe hd hk es es2 ents (i+1) he2 hes2 with ⟨h1,h2⟩|⟨j,m',k'',v'',h1,h2,h3,h4,h5⟩
     .refine .inl ⟨?_,by simp[h2]⟩;simp[jM];rw[z,hs];exact h1
     .refine .inr ⟨j+1,m',k'',v'',by simpa using h1,by simpa using h2,?_,h4,by simp[h5]⟩;simp[jM]
      grind
    .cases h
   .cases h
def ak6 {A:Value} (D:za b v=J) (z:w_ .eql v A=Z (.bool J)):mI 10000 A v=J/\A=v:=by
 cases b with
 |true=>
  cases v<;>simp[za]at D;cases A<;>simp only[w_]at z<;>try (simp at z;done)
  simp[ah,Fv]at z;have:=xR.1 z;subst this;exact⟨by simp[mI,Dx,z],rfl⟩
 |false=>
  cases v<;>simp[za]at D;cases A<;>simp only[w_]at z<;>try (simp at z;done)
  split at z
  next hkk=>have hkk':=eq_of_beq hkk;subst hkk';simp[ah,Fv,cY]at z;subst z;exact⟨by simp[mI],rfl⟩
  .cases z
def ars {kt el:TypeId} {k y:Operand} {str:Bool} {d:TypeDesc} (ho:o.op= .mapUpdate s c k y) (hu:P.underlying s=Z (.map kt el)) (hk:P.underlying kt=Z d) (hd:kd str d) (z:dA (.jk str c k y) e h nx=Z R):gF P o e.get h.get R.eff:=by
 simp only[dA]at z;split at z
 .rename_i id key v L hkx hy;split at z
  .rename_i es hid;split at z
   .rename_i hko;split at z
    .rename_i es' hput;cases z;refine gF.writes hid λφ E h' w a hrd hb' hp hrep=>?_
     have hrx:=hp c _ (by rw[ho];simp[Op.operands]) L;have hrk:=fE (hp k _ (by rw[ho];simp[Op.operands]) hkx);have hry:=hp y _ (by rw[ho];simp[Op.operands]) hy;generalize D:a.eval c=zz at hrx;cases hrx with
     |@mp _ b hφ=>
      let⟨k',q1,_,ob,q2,q3⟩:=hrep.at_ id _ hb';rw[hφ]at q1;cases q1;obtain⟨ents,clock,rfl,q4,q5⟩:=q3;have q4:ents.toList.map (·.key)=es.map (·.1):=by unfold MpK at q4;exact q4
      have q5:∀(j:Nat) c,es[j]? =Z c->∃m,ents[j]? =Z m/\cf φ (tot E φ h') w c.2 m.val:=λj c L=>by
       let⟨_,A,g2⟩:=q5 j c L;unfold MpV at A;obtain⟨m,A,rfl⟩:=A;exact⟨m,A,g2⟩
      have JA:∀(es:Y n!) (ents:Array MapEntry) (clock:Nat),ents.toList.map (·.key)=es.map (·.1)->(∀(j:Nat) c,es[j]? =Z c->∃m,ents[j]? =Z m/\cf φ (tot E φ h') w c.2 m.val)->ij φ (tot E φ h') w ⟨0,.mp es⟩ (.map ents clock):=λes ents clock A g2=>⟨ents,clock,rfl,by unfold MpK;exact A,λj c L=>by
       let⟨m,g3,g4⟩:=g2 j c L;exact⟨_,by unfold MpV;exact⟨m,g3,rfl⟩,g4⟩⟩
      have hck:=FW (P:=P) hk hd af key w;have hlen:ents.size=l! es:=by have:=eO aj q4;simpa using this
      rcases abe hd hko es es' ents.toList 0 q4 hput with ⟨h1,rfl⟩|⟨j,m,k',v',h1,h2,h3,h4,rfl⟩
      .refine ⟨.skip,_,b,.map (ents.push {key,val:=a.eval y,born:=clock}) (clock+1),?_,hφ,vO q2 (by simp) (by simp),JA _ _ _ (by simp[q4]) λj q hq=>?_,undef,.inr ⟨rfl,rfl⟩,.f (.raw _)⟩
       .unfold execOp;rw[ho];simp[Instr.mapUpdate,run_underlying hu,D,hrk,getObj,kU,q2,hck,Al,run_underlying hk,h1,setObj]
       .rcases cC j (l! es) with hj|hj
        .grind
        .rw[b_ hj]at hq;have hj0:j-l! es=0:=by grind
         rw[hj0]at hq;simp at hq;subst hq;exact⟨_,by rw[Array.getElem?_push,aD (by omega)],hry⟩
      .obtain⟨s1,s2⟩:=ak6 hko h4;subst s2;rw[c9]at h2;rw[bX]at h3;have hjl:j<ents.size:=(dz.1 h2).1;have hmk:m.key=k':=by
        have e1:(ents.toList.map (·.key))[j]? =Z m.key:=by rw[bB,c9,h2];rfl
        rw[q4,bB,h1]at e1;simpa using e1.symm
       refine ⟨.skip,_,b,.map (ents.modify j λe=>{e with key:=k',val:=a.eval y}) clock,?_,hφ,vO q2 (by simp) (by simp),JA _ _ _ ?_ λi q hq=>?_,undef,.inr ⟨rfl,rfl⟩,.f (.raw _)⟩
       .unfold execOp;rw[ho];simp[Instr.mapUpdate,run_underlying hu,D,hrk,getObj,kU,q2,hck,Al,run_underlying hk,h3,setObj,h2,hmk,Instr.keyThatStays,s1]
       .apply R';intro i;simp only[bB,c9,eh,Array.getElem?_modify];have e2:∀i:Nat,(ents[i]?).map (λm:MapEntry=>m.key)=(es[i]?).map (λp:Value×AV=>p.1):=λi=>by
         have:=eO (λl=>l[i]?) q4;simpa[bB,c9] using this
        grind
       .grind
    .cases z
   .cases z
  .cases z
 .cases z
end
section
variable {P:Program} {o:Oper} {e:ED} {h:ny} {nx:Nat} {R:Dz}
def Mn {d:TypeDesc} (A:P.underlying s=Z d) (hd:(match d with|.int _=>J|.bool=>J|.string=>J|_=>af)=J) (cs:Array Value) (j:Nat) (v:Value) (z:cs[j]? =Z v) (w:World):(part s cs j).run P w= .ok v w:=by
 unfold part;simp[isAgg,fH,run_underlying A,cW];cases d<;>simp at hd<;>simp[z]
def afc {d:TypeDesc} (z:P.underlying s=Z d) (hd:(match d with|.int _=>J|.bool=>J|.string=>J|_=>af)=J) {x y:FV} (hxy:wK d x y=Z b) {u:Value} (L:x= .raw u) (D:y= .raw v) (n:Nat) (w:World):(Op.equalIn (n+1) s u v).run P w= .ok b w:=by
 subst L D;cases d<;>simp at hd<;>cases u<;>cases v<;>simp only[wK]at hxy<;>first|(cases hxy;done)|skip
 .cases hxy;simp[Op.equalIn,run_underlying z]
 .split at hxy
  next hk=>have A:=eq_of_beq hk;subst A;cases hxy;simp[Op.equalIn,run_underlying z]
  .cases hxy
 .cases hxy;simp[Op.equalIn,run_underlying z,Dx]
abbrev TA (n:Nat) (xs z:Array Value) (f:Field) (_:M Bool×Unit):Sem (ForInStep (M Bool×Unit)):=
 if f.name≠ "_" then do
  let a←part f.type xs f.offset
  let b←part f.type z f.offset
  let c←Op.equalIn (n+1) f.type a b
  if (!c)=J then pure (ForInStep.done (Z af,())) else pure (Jm (U,()))
 else pure (Jm (U,()))
def Rs (n:Nat) (w:World) (xs A:Array Value):∀(fs:Y Field) (ds:Y TypeDesc) (a b:Y FV) (k:Nat) (r:Bool),l_ P k fs=Z ds->
 (∀(j:Nat) x u,a[j]? =Z x->xs[k+j]? =Z u->x= .raw u\/∀v,x≠ .raw v)->(∀(j:Nat) x u,b[j]? =Z x->A[k+j]? =Z u->x= .raw u\/∀v,x≠ .raw v)->(∀(j:Nat),j<l! a->k+j<xs.size)->(∀(j:Nat),j<l! b->k+j<A.size)->jY ds a b=Z r->
 (forIn fs (U,()) (TA n xs A)).run P w= .ok (if r then (U,()) else (Z af,())) w
 |[],ds,a,b,k,r,hp,_,_,_,_,he=>by
  simp only[l_,ah]at hp;subst hp;cases a<;>cases b<;>simp[jY]at he;subst he;simp
 |f::fs,ds,a,b,k,r,hp,ha,hb,hla,hlb,he=>by
  simp only[l_]at hp;split at hp
  .rename_i d ds' hu hp';split at hp
   .rename_i hc;simp only[al,bne_iff_ne,ne_eq,cY]at hc;let⟨⟨hn,hof⟩,hd⟩:=hc;cases hp;cases a with
    |nil=>cases b<;>simp[jY]at he
    |cons x a=>
     cases b with
     |nil=>simp[jY]at he
     |cons y b=>
      simp only[jY]at he;have hx1:k<xs.size:=by have:=hla 0 (by simp);omega
      have L:k<A.size:=by have:=hlb 0 (by simp);omega
      have hraw:∀(z:FV) (q:Value),(z= .raw q\/∀v,z≠ .raw v)->(∃v,z= .raw v)->z= .raw q:=by
       rintro z q (h|h) ⟨v,hv⟩
       .exact h
       .exact cq hv (h v)
      have hxr:∀D,wK d x y=Z D->x= .raw xs[k]/\y= .raw A[k]:=by
       intro D hbb;have hrr:(∃v,x= .raw v)/\∃v,y= .raw v:=by
        unfold wK at hbb;split at hbb
        .exact⟨⟨_,rfl⟩,⟨_,rfl⟩⟩
        .exact⟨⟨_,rfl⟩,⟨_,rfl⟩⟩
        .exact⟨⟨_,rfl⟩,⟨_,rfl⟩⟩
        .cases hbb
       exact⟨hraw x _ (ha 0 x _ rfl (by simp[hx1])) hrr.1,hraw y _ (hb 0 y _ rfl (by simp[L])) hrr.2⟩
      have hstep:∀D,wK d x y=Z D->(TA n xs A f (U,())).run P w= .ok (if D then Jm (U,()) else ForInStep.done (Z af,())) w:=by
       intro D hbb;let⟨h1,h2⟩:=hxr D hbb;have p1:=Mn hu (by cases d<;>simp[EU]at hd<;>rfl) xs k xs[k] (by simp[hx1]) w;have p2:=Mn hu (by cases d<;>simp[EU]at hd<;>rfl) A k A[k] (by simp[L]) w;have p3:=afc hu (by cases d<;>simp[EU]at hd<;>rfl) hbb h1 h2 n w;unfold TA;rw[aD hn,hof];simp only[fH,p1,p2,p3,cW];cases D<;>simp
      rw[List.forIn_cons];simp only[fH];split at he
      .rename_i hbb;rw[hstep J hbb];simp only[cW,bk];exact Rs n w xs A fs ds' a b (k+1) r hp' (λj x u h1 h2=>ha (j+1) x u (by simpa using h1) (by rw[<- h2];congr 1;omega)) (λj x u h1 h2=>hb (j+1) x u (by simpa using h1) (by rw[<- h2];congr 1;omega))
        (λj hj=>by have:=hla (j+1) (by simpa using hj);omega) (λj hj=>by have:=hlb (j+1) (by simpa using hj);omega) he
      next hbb=>rw[hstep af hbb];cases he;simp
      .cases he
   .cases hp
  .cases hp
variable {E:Array Field} {C:Y TypeDesc}
def Rr (L:P.underlying s=Z (.struct E)) (hs:P.stoodInHeld s=af) (hp:l_ P 0 E.toList=Z C) (xs z:Array Value) {a r:Y FV} 
 (ha:∀(j:Nat) x u,a[j]? =Z x->xs[j]? =Z u->x= .raw u\/∀v,x≠ .raw v) (hb:∀(j:Nat) x u,r[j]? =Z x->z[j]? =Z u->x= .raw u\/∀v,x≠ .raw v) (hla:l! a=xs.size) (hlb:l! r=z.size) (he:jY C a r=Z b) (w:World):
 (Op.equal s (.agg xs) (.agg z)).run P w= .ok b w:=by
 have key:∀n,(Op.equalIn (n+2) s (.agg xs) (.agg z)).run P w= .ok b w:=by
  intro n;rw[Op.equalIn];have h1:=Rs (P:=P) n w xs z E.toList C a r 0 b hp (λj x u h1 D=>ha j x u h1 (by grind)) (λj x u h1 D=>hb j x u h1 (by grind)) (λj hj=>by omega) (λj hj=>by omega) he;rw[Array.forIn_toList]at h1;simp only[fH,run_underlying L,cW,program,kU,hs,cQ,dE];have D:(forIn E (U,()) (λf __s=>TA n xs z f __s)).run P w= .ok (if b then (U,()) else (Z af,())) w:=h1;rw[D];cases b<;>simp
 exact key 9998
def WE (hu:P.underlying s=Z (.struct E)) (hp:l_ P 0 E.toList=Z C):P.eqGuardType P.depth s=af:=by
 have key:∀(E:Y Field) (k:Nat) (C:Y TypeDesc),l_ P k E=Z C→∀d,(E.any λf=>f.name != "_" &&P.eqGuardType (d+1) f.type)=af:=by
  intro E;induction E with
  |nil=>intros;rfl
  |cons f E ih=>
   intro k C hp d;simp only[l_]at hp;split at hp
   .rename_i dd ds' A D;split at hp
    .rename_i L;simp[al]at L;have:P.eqGuardType (d+1) f.type=af:=by
      unfold Program.eqGuardType;rw[A];have:=L.2;cases dd<;>simp[EU]at this<;>rfl
     simp only[List.any_cons,this,Bool.and_false,Bool.false_or];exact ih (k+1) ds' D d
    .cases hp
   .cases hp
 unfold Program.depth Program.eqGuardType;rw[hu];simp only[];rw[← Array.any_toList];exact key E.toList 0 C hp _
def aru {t':TypeId} {op:BinOp} {neg:Bool} {y:Operand} (ho:o.op= .binOp op s c y t') (hop:op=if neg then .neq else .eql) (L:P.underlying s=Z (.struct E)) (hs:P.stoodInHeld s=af) (hp:l_ P 0 E.toList=Z C) (z:dA (.jh neg C c y) e h nx=Z R):gF P o e.get h.get R.eff:=by
 simp[dA]at z;split at z
 .rename_i a b D hy;split at z
  .rename_i r hr;rw[du z];refine gF.reads λφ fs h' w ac _ hpp _=>?_
   have h1:=hpp c _ (by rw[ho];simp[Op.operands]) D;have A:=hpp y _ (by rw[ho];simp[Op.operands]) hy;generalize hzx:ac.eval c=zx at h1;generalize hzy:ac.eval y=zy at A;have rawOr:∀(l:Y FV) (vs:ξ),(∀(j:Nat) c v,l[j]? =Z c->vs[j]? =Z v->nu (tot fs φ h') w c v)->∀(j:Nat) c u,l[j]? =Z c->vs.toArray[j]? =Z u->c= .raw u\/∀v,c≠ .raw v:=by
    intro l vs hr j c u D L;have:=hr j c u D (by grind);cases this with
    |raw v=>exact .inl rfl
    |_=>exact .inr (by simp)
   cases h1 with
   |f h1=>
    cases h1 with
    |agg _ vs hl hcl hr1=>
     cases A with
     |f A=>
      cases A with
      |agg _ us hl' hcl' hr2=>
       have heq:=Rr L hs hp vs.toArray us.toArray (rawOr a vs hr1) (rawOr b us hr2) (by grind) (by grind) hr w;refine ⟨_,?_,.f (.raw _)⟩;have hg:=WE L hp;unfold execOp;rw[ho];simp[hzx,hzy];subst hop;cases neg<;>simp[eqGuard,program,kU,hg,binOp,heq]
  .cases z
 .cases z
end
section
variable {P:Program} {o:Oper} {e:ED} {h:ny} {nx:Nat} {R:Dz}
def H8:∀{l:Y FV} {vs:ξ},Ju l=Z vs->l=vs.map .raw
 |[],vs,h=>by simp[Ju,ah]at h;subst h;rfl
 |x::r,vs,h=>by
  cases x with
  |raw v=>
   simp[Ju]at h;split at h
   next l z=>simp[ah]at h;subst h;rw[b9,<-H8 z]
   .cases h
  |_=>simp[Ju]at h
def ahw {u:Value} (h:nu O w (.raw v) u):u=v:=by cases h;rfl
def Vg {vs:ξ} (hl:l! vs=l! L) (z:∀(j:Nat) x v,(L.map FV.raw)[j]? =Z x->vs[j]? =Z v->nu O w x v):vs=L:=by
 apply R';intro j;rcases cC j (l! L) with A|A
 .have h1:(L.map FV.raw)[j]? =Z (.raw L[j]):=by simp[A]
  have D:vs[j]? =Z (vs[j]'(by omega)):=aG (by omega);have:=z j _ _ h1 D;rw[D,aG A,ahw this]
 .grind
def MS (z:aeg y=Z L) (D:cf V O w y v):v= .agg L.toArray:=by
 cases D with
 |f D=>
  cases D with
  |agg cells vs hl hcl hrr=>
   have:=H8 (show Ju cells=Z L from z);subst this;rw[Vg (by grind) hrr]
  |_=>simp[aeg]at z
 |@agg cells vs hl hcl hrr=>
  simp[aeg]at z;split at z
  .rename_i fs hfs;have:=H8 z;have:=nR hfs;have key:vs=L:=Vg (O:=O) (w:=w) (by grind) λj x u hx A=>by
    have:=hrr j (.f x) u (by grind) A;cases this with
    |f h=>exact h
   rw[key]
  .cases z
 |_=>simp[aeg]at z
structure EC (P:Program) (kt:TypeId) (fs:Array Field) (ds:List TypeDesc):Prop where
 hu:P.underlying kt=Z (.struct fs)
 hs:P.stoodInHeld kt=af
 hp:l_ P 0 fs.toList=Z ds
variable {C:Y TypeDesc}
def Ic (h:ES P s=Z C):∃z,EC P s z C:=by
 unfold ES at h;split at h
 .rename_i z D;split at h
  .cases h
  next hst=>exact⟨z,D,by simpa using hst,h⟩
 .cases h
variable {E:Array Field}
def rC (K:EC P s E C) {A:Value} (z:D8 C L A=Z b) (w:World):(Op.equal s (.agg L.toArray) A).run P w= .ok b w:=by
 unfold D8 at z;split at z
 .rename_i ws;refine Rr K.hu K.hs K.hp L.toArray ws (λj x u hx hu=>?_) (λj x u hx hu=>?_) (by simp) (by simp) z w
  .grind
  .grind
 .cases z
abbrev akq (z:Bool) (n:Nat) (cs:Array Value) (f:Field) (_:Unit):Sem (ForInStep Unit):=
 if f.name≠ "_" then do
  let a←part f.type cs f.offset
  mJ z (n+1) f.type a
  pure (Jm ())
 else pure (Jm ())
def RO (D:Bool) (n:Nat) (w:World) (cs:Array Value):∀(z:Y Field) (ds:Y TypeDesc) (k:Nat),l_ P k z=Z ds->k+l! z<=cs.size->
 (forIn z () (akq D n cs)).run P w= .ok () w
 |[],ds,k,hp,_=>by simp
 |f::z,ds,k,hp,hk=>by
  simp only[l_]at hp;split at hp
  .rename_i d ds' L A;split at hp
   .rename_i hc;simp[al,bne_iff_ne,ne_eq,cY]at hc;let⟨⟨hn,hof⟩,hd⟩:=hc;simp[kn]at hk;have p1:=Mn L (by cases d<;>simp[EU]at hd<;>rfl) cs k (cs[k]'(by omega)) (by simp) w;have p2:(mJ D (n+1) f.type (cs[k]'(by omega))).run P w= .ok () w:=by
     cases d<;>simp[EU]at hd<;>simp[mJ,run_underlying L]
    have ih:=RO D n w cs z ds' (k+1) A (by omega);simp_all
   .cases hp
  .cases hp
def aa0 (K:EC P s E C) (A:Bool) {cs:Array Value} (L:l! E.toList<=cs.size) (w:World):(mJ A 10000 s (.agg cs)).run P w= .ok () w:=by
 have key:∀n,(mJ A (n+2) s (.agg cs)).run P w= .ok () w:=by
  intro n;rw[mJ];have h1:=RO (P:=P) A n w cs E.toList C 0 K.hp (by omega);rw[Array.forIn_toList]at h1;simp[fH,run_underlying K.hu,cW];have h2:(forIn E () λf D=>akq A n cs f D).run P w= .ok () w:=h1;simp_all
 exact key 9998
def Nu {m:MapEntry} {r:Y MapEntry} :jM (.struct E) v (m::r) i=U:=by
 simp[jM];have:Instr.sameNow (.struct E) v m.key=U:=by rfl
 rw[this]
def CC (K:EC P s E C) (k:Value) (ents:Y MapEntry) (w:World):(Al s k ents).run P w=(c8 s k ents).run P w:=by
 cases ents with
 |nil=>simp[Al,run_underlying K.hu,jM,c8]
 |cons m r=>simp[Al,run_underlying K.hu,Nu]
def Wu (K:EC P s E C) (w:World):∀(es:Y n!) (ents:Y MapEntry) (i:Nat),ents.map (·.key)=es.map (·.1)->∀r,Js C L es=Z r->
 (r=U/\(c8 s (.agg L.toArray) ents i).run P w= .ok U w)\/∃(j:Nat) (v:AV) (m:MapEntry) (k':Value),r=Z v/\es[j]? =Z (k',v)/\ents[j]? =Z m/\(c8 s (.agg L.toArray) ents i).run P w= .ok (Z (i+j,m.val)) w
 |[],ents,i,he,r,h=>by
  cases ents with
  |nil=>simp[Js,ah]at h;exact .inl ⟨h.symm,by simp[c8]⟩
  |cons _ _=>simp at he
 |(k',v)::es,ents,i,he,r,h=>by
  cases ents with
  |nil=>simp at he
  |cons m ents=>
   simp[b9,eV]at he;let⟨z,he2⟩:=he;simp[Js]at h;split at h
   next A=>simp[ah]at h;refine .inr ⟨0,v,m,k',h.symm,rfl,rfl,?_⟩;rw[c8,z];simp[rC K A w]
   .rename_i A;rcases Wu K w es ents (i+1) he2 r h with ⟨h1,h2⟩|⟨j,v',m',k'',h1,h2,h3,h4⟩
    .refine .inl ⟨h1,?_⟩;rw[c8,z];simp[rC K A w,h2]
    .refine .inr ⟨j+1,v',m',k'',h1,by simpa using h2,by simpa using h3,?_⟩;rw[c8,z];simp[rC K A w,h4];omega
   .cases h
def U6 (K:EC P s E C) (w:World):∀(es es':Y n!) (ents:Y MapEntry) (i:Nat),ents.map (·.key)=es.map (·.1)->YF C L y es=Z es'->
 ((c8 s (.agg L.toArray) ents i).run P w= .ok U w/\es'=es++[(.agg L.toArray,y)])\/∃(j:Nat) (m:MapEntry) (A:Value) (v':AV),es[j]? =Z (A,v')/\ents[j]? =Z m/\(c8 s (.agg L.toArray) ents i).run P w= .ok (Z (i+j,m.val)) w/\D8 C L A=Z J/\es'=es.set j (.agg L.toArray,y)
 |[],es',ents,i,he,h=>by
  cases ents with
  |nil=>simp[YF,ah]at h;exact .inl ⟨by simp[c8],by simp[h]⟩
  |cons _ _=>simp at he
 |(A,v')::es,es',ents,i,he,h=>by
  cases ents with
  |nil=>simp at he
  |cons m ents=>
   simp[b9,eV]at he;let⟨z,he2⟩:=he;simp[YF]at h;split at h
   next D=>simp[ah]at h;refine .inr ⟨0,m,A,v',rfl,rfl,?_,D,by simp[h]⟩;rw[c8,z];simp[rC K D w]
   .rename_i D;split at h
    .rename_i es2 hes2;simp[ah]at h;subst h;rcases U6 K w es es2 ents (i+1) he2 hes2 with ⟨h1,h2⟩|⟨j,m',k'',v'',h1,h2,h3,h4,h5⟩
     .refine .inl ⟨?_,by simp[h2]⟩;rw[c8,z];simp[rC K D w,h1]
     .refine .inr ⟨j+1,m',k'',v'',by simpa using h1,by simpa using h2,?_,h4,by simp[h5]⟩;rw[c8,z];simp[rC K D w,h3];omega
    .cases h
   .cases h
def U8 (K:EC P s E C) (w:World):∀(es es':Y n!) (ents:Y MapEntry) (i:Nat),ents.map (·.key)=es.map (·.1)->YG C L es=Z es'->
 ((c8 s (.agg L.toArray) ents i).run P w= .ok U w/\es'=es)\/∃(j:Nat) (m:MapEntry),j<l! es/\ents[j]? =Z m/\(c8 s (.agg L.toArray) ents i).run P w= .ok (Z (i+j,m.val)) w/\es'=es.eraseIdx j
 |[],es',ents,i,he,h=>by
  cases ents with
  |nil=>simp only[YG,ah]at h;exact .inl ⟨by simp[c8],h.symm⟩
  |cons _ _=>simp at he
 |(k',v')::es,es',ents,i,he,h=>by
  cases ents with
  |nil=>simp at he
  |cons m ents=>
   simp[b9,eV]at he;let⟨z,he2⟩:=he;simp[YG]at h;split at h
   next A=>simp[ah]at h;refine .inr ⟨0,m,by simp,rfl,?_,by simp[h]⟩;rw[c8,z];simp[rC K A w]
   .rename_i A;split at h
    .rename_i es2 hes2;simp[ah]at h;subst h;rcases U8 K w es es2 ents (i+1) he2 hes2 with ⟨h1,h2⟩|⟨j,m',h1,h2,h3,h5⟩
     .refine .inl ⟨?_,by simp[h2]⟩;rw[c8,z];simp[rC K A w,h1]
     .refine .inr ⟨j+1,m',by simp;omega,by simpa using h2,?_,by simp[h5]⟩;rw[c8,z];simp[rC K A w,h3];omega
    .cases h
   .cases h
def NC:∀{ds:Y TypeDesc} {L A:ξ},jY ds (L.map .raw) (A.map .raw)=Z J->L=A/\∀x∈L,∀n,mI n x x=J
 |[],[],[],_=>⟨rfl,λx D=>by cases D⟩
 |[],[],_::_,h|[],_::_,A,h|_::_,[],A,h|_::_,_::_,[],h=>by simp[jY]at h
 |d::ds,k::L,v::A,h=>by
  simp only[b9,jY]at h;split at h
  .rename_i z;let⟨e1,e2⟩:=NC h;have key:k=v/\∀n,mI n k k=J:=by
    cases d<;>cases k<;>cases v<;>simp only[wK]at z<;>first|(cases z;done)|skip
    .simp only[ah,cY]at z;subst z;exact⟨rfl,λn=>by cases n<;>simp[mI]⟩
    .split at z
     next hk=>have hk:=eq_of_beq hk;simp only[ah,cY]at z;subst z hk;exact⟨rfl,λn=>by cases n<;>simp[mI]⟩
     .cases z
    .simp only[ah]at z;have:=xR.1 z;subst this;exact⟨rfl,λn=>by cases n<;>simp[mI,Dx,z]⟩
   refine ⟨by rw[key.1,e1],λx D n=>?_⟩;rcases aV.1 D with rfl|D
   .exact key.2 n
   .exact e2 x D n
  .cases h
  .cases h
def ahn (h:D8 C L v=Z J):v= .agg L.toArray/\mI 10000 (.agg L.toArray) (.agg L.toArray)=J:=by
 unfold D8 at h;split at h
 .rename_i z;let⟨D,e2⟩:=NC h;refine ⟨by rw[D],?_⟩;rw[mI];simp only[ch,fo,iJ];rintro⟨x,y⟩ hxy;have hz:x=y/\x∈L:=by
   rw[List.mem_iff_getElem?]at hxy
   grind
  grind
 .cases h
def ZA {D:TypeId} (z:P.underlying s=Z (.pointer D)) (A:M Addr) (w:World):(Op.equal s (.pointer A) (.pointer U)).run P w= .ok A.isNone w:=by
 have key:∀d,(Op.equalIn (d+1) s (.pointer A) (.pointer U)).run P w= .ok A.isNone w:=λd=>by cases A<;>simp[Op.equalIn,run_underlying z]
 exact key 9999
def alf {neg:Bool} {op:BinOp} {y:Operand} {t' el:TypeId} (ho:o.op= .binOp op s c y t') (hop:op=if neg then .neq else .eql) (hy:y= .const (.pointer U)) (hu:P.underlying s=Z (.pointer el)) (D:dA (.jz neg c) e h nx=Z R):gF P o e.get h.get R.eff:=by
 have key:∀(w:World) (ρ:Operand->Value) (A:M Addr),ρ c= .pointer A->ρ y= .pointer U->(execOp ρ o).run P w= .ok (.value (.bool (A.isNone !=neg))) w:=by
  intro w ρ A h1 h2;unfold execOp;rw[ho];simp[h1,h2];subst hop;cases neg<;>simp[eqGuard,binOp,ZA hu]
 have hyv:∀a:Act,a.eval y= .pointer U:=λa=>by rw[hy];rfl
 simp[dA]at D;split at D
 .rename_i id off L;rw[du D];refine gF.reads λφ E h' w a _ hp _=>?_
  have h1:=hp c _ (by rw[ho];simp[Op.operands]) L;generalize hz:a.eval c=z at h1;cases h1 with
  |P hφ=>exact⟨_,key w a.eval _ hz (hyv a),by simpa[raw] using cf.f (.raw _)⟩
 .rename_i cells off L;rw[du D];refine gF.reads λφ E h' w a _ hp _=>?_
  have h1:=hp c _ (by rw[ho];simp[Op.operands]) L;generalize hz:a.eval c=z at h1;cases h1 with
  |f h1=>
   cases h1 with
   |P=>exact⟨_,key w a.eval _ hz (hyv a),by simpa[raw] using cf.f (.raw _)⟩
 .rename_i L;rw[du D];refine gF.reads λφ E h' w a _ hp _=>?_
  have h1:=fE (hp c _ (by rw[ho];simp[Op.operands]) L);exact⟨_,key w a.eval _ h1 (hyv a),by simpa[raw] using cf.f (.raw _)⟩
 .cases D
def rF:∀{A:Y Field} {k:Nat} {ds:Y TypeDesc},l_ P k A=Z ds->l! ds=l! A
 |[],k,ds,h=>by simp[l_,ah]at h;subst h;rfl
 |f::A,k,ds,h=>by
  simp[l_]at h;split at h
  .rename_i d ds' _ z;split at h
   .simp[ah]at h;subst h;rw[kn,rF z,kn]
   .cases h
  .cases h
def Y1 {y:M AV} (h:y.bind (aef C)=Z L):∃v,y=Z v/\aeg v=Z L/\l! L=l! C:=by
 cases y with
 |none=>cases h
 |some v=>
  unfold aef at h
  grind
def axq {kt el:TypeId} {k:Operand} (ho:o.op= .lookup s c k af) (hu:P.underlying s=Z (.map kt el)) (K:EC P kt E C) (L:(P.info? el).bind (·.zero)=Z v) (A:dA (.lkq C v c k) e h nx=Z R):gF P o e.get h.get R.eff:=by
 simp[dA]at A;split at A
 .rename_i id ks hx hkx;let⟨yk,hkx,hkl,hkn⟩:=Y1 hkx;split at A
  .rename_i es hid;have zrun:∀w:World,(zeroValue el).run P w= .ok v w:=λw=>by
    cases hi:P.info? el with
    |none=>rw[hi]at L;cases L
    |some i=>rw[hi]at L;simp[aF]at L;simp[zeroValue,typeInfo,hi,L]
   have main:∀r,Js C ks es=Z r->∀(φ:PM) (fs:Nat->Prop) (h':HF) (w:World) (a:Act),h' id=Z ⟨0,.mp es⟩->Yo φ fs h' w a e o->sC φ fs h' w->
    ∃z,(execOp a.eval o).run P w= .ok (.value z) w/\cf φ (tot fs φ h') w (match r with|some z=>z|none=>raw v) z:=by
    intro r hr φ fs h' w a hb' hp hrep;have hrx:=hp c _ (by rw[ho];simp[Op.operands]) hx;have hrk:=MS hkl (hp k _ (by rw[ho];simp[Op.operands]) hkx);generalize D:a.eval c=zz at hrx;cases hrx with
    |@mp _ b hφ=>
     let⟨k',q1,_,ob,q2,q3⟩:=hrep.at_ id _ hb';rw[hφ]at q1;cases q1;obtain⟨ents,clock,rfl,q4,q5⟩:=q3;have hlen:l! E.toList<=ks.toArray.size:=by have:=rF K.hp;simp only[C_];omega
     have hck:=aa0 K ents.isEmpty hlen w;have hfk:=CC (P:=P) K (.agg ks.toArray) ents.toList w;rcases Wu K w es ents.toList 0 q4 r hr with ⟨h1,h2⟩|⟨j,z,m,k',h1,h2,h3,h4⟩
     .subst h1;rw[h2]at hfk;refine ⟨_,?_,.f (.raw v)⟩;unfold execOp;rw[ho];simp[Instr.lookup,run_underlying hu,D,hrk,getObj,kU,q2,hck,hfk,zrun]
     .subst h1;rw[h4]at hfk;let⟨_,h6,h7⟩:=q5 j _ h2;obtain⟨m',h6,rfl⟩:=h6;rw[c9]at h3;rw[h3]at h6;cases h6;refine ⟨_,?_,h7⟩;unfold execOp;rw[ho];simp[Instr.lookup,run_underlying hu,D,hrk,getObj,kU,q2,hck,hfk]
   split at A
   next z hf=>simp[ah]at A;subst A;exact gF.reads λφ fs h' w a hrd hp hrep=>main _ hf φ fs h' w a (by grind) hp hrep
   next hf=>simp[ah]at A;subst A;exact gF.reads λφ fs h' w a hrd hp hrep=>main _ hf φ fs h' w a (by grind) hp hrep
   .cases A
  .cases A
 .cases A
def axl {kt el:TypeId} {k y:Operand} (ho:o.op= .mapUpdate s c k y) (hu:P.underlying s=Z (.map kt el)) (K:EC P kt E C) (z:dA (.mpq C c k y) e h nx=Z R):gF P o e.get h.get R.eff:=by
 simp only[dA]at z;split at z
 .rename_i id A v L hkx hy;let⟨yk,hkx,hkl,hkn⟩:=Y1 hkx;split at z
  .rename_i es hid;split at z
   .rename_i es' hput;cases z;refine gF.writes hid λφ fs h' w a hrd hb' hp hrep=>?_
    have hrx:=hp c _ (by rw[ho];simp[Op.operands]) L;have hrk:=MS hkl (hp k _ (by rw[ho];simp[Op.operands]) hkx);have hry:=hp y _ (by rw[ho];simp[Op.operands]) hy;generalize D:a.eval c=zz at hrx;cases hrx with
    |@mp _ b hφ=>
     let⟨k',q1,_,ob,q2,q3⟩:=hrep.at_ id _ hb';rw[hφ]at q1;cases q1;obtain⟨ents,clock,rfl,q4,q5⟩:=q3;have q4:ents.toList.map (·.key)=es.map (·.1):=by unfold MpK at q4;exact q4
     have q5:∀(j:Nat) c,es[j]? =Z c->∃m,ents[j]? =Z m/\cf φ (tot fs φ h') w c.2 m.val:=λj c L=>by
      let⟨_,g1,g2⟩:=q5 j c L;unfold MpV at g1
      grind
     have JA:∀(es:Y n!) (ents:Array MapEntry) (clock:Nat),ents.toList.map (·.key)=es.map (·.1)->(∀(j:Nat) c,es[j]? =Z c->∃m,ents[j]? =Z m/\cf φ (tot fs φ h') w c.2 m.val)->ij φ (tot fs φ h') w ⟨0,.mp es⟩ (.map ents clock):=λes ents clock g1 g2=>⟨ents,clock,rfl,by unfold MpK;exact g1,λj c L=>by
      let⟨m,g3,g4⟩:=g2 j c L;exact⟨_,by unfold MpV;exact⟨m,g3,rfl⟩,g4⟩⟩
     have hck:=aa0 K af (cs:=A.toArray) (by have:=rF K.hp;simp only[C_];omega) w;have hfk:=CC (P:=P) K (.agg A.toArray) ents.toList w;have hlen:ents.size=l! es:=by have:=eO aj q4;simpa using this
     rcases U6 K w es es' ents.toList 0 q4 hput with ⟨h1,rfl⟩|⟨j,m,k',v',h1,h2,h3,h4,rfl⟩
     .rw[h1]at hfk;refine ⟨.skip,_,b,.map (ents.push {key:=.agg A.toArray,val:=a.eval y,born:=clock}) (clock+1),?_,hφ,vO q2 (by simp) (by simp),JA _ _ _ (by simp[q4]) λj q hq=>?_,undef,.inr ⟨rfl,rfl⟩,.f (.raw _)⟩
      .unfold execOp;rw[ho];simp[Instr.mapUpdate,run_underlying hu,D,hrk,getObj,kU,q2,hck,hfk,setObj]
      .rcases cC j (l! es) with hj|hj
       .grind
       .rw[b_ hj]at hq;have hj0:j-l! es=0:=by grind
        rw[hj0]at hq;simp at hq;subst hq;exact⟨_,by rw[Array.getElem?_push,aD (by omega)],hry⟩
     .obtain⟨s2,s1⟩:=ahn h4;subst s2;rw[h3]at hfk;rw[c9]at h2;rw[bX]at hfk;have hjl:j<ents.size:=(dz.1 h2).1;have hmk:m.key= .agg A.toArray:=by
       have e1:(ents.toList.map (·.key))[j]? =Z m.key:=by grind
       grind
      refine ⟨.skip,_,b,.map (ents.modify j λe=>{e with key:=.agg A.toArray,val:=a.eval y}) clock,?_,hφ,vO q2 (by simp) (by simp),JA _ _ _ ?_ λi q hq=>?_,undef,.inr ⟨rfl,rfl⟩,.f (.raw _)⟩
      .unfold execOp;rw[ho];simp[Instr.mapUpdate,run_underlying hu,D,hrk,getObj,kU,q2,hck,hfk,setObj,h2,hmk,Instr.keyThatStays,s1]
      .apply R';intro i;simp only[bB,c9,eh,Array.getElem?_modify];have e2:∀i:Nat,(ents[i]?).map (λm:MapEntry=>m.key)=(es[i]?).map (λp:Value×AV=>p.1):=λi=>by
        have:=eO (λl=>l[i]?) q4
        grind
       grind
      .grind
   .cases z
  .cases z
 .cases z
def IP {α β:Type} (f:α->β):∀(l:Y α) (j:Nat),(l.map f).eraseIdx j=(l.eraseIdx j).map f
 |[],_|_::_,0=>rfl
 |x::r,j+1=>by simp[b9,List.eraseIdx_cons_succ,IP f r j]
def axw {t2 kt el:TypeId} {k:Operand} (ho:o.op= .call {callee:=.builtin .delete,args:=#[c,k],argTypes:=#[s,t2]}) (hu:P.underlying s=Z (.map kt el)) (K:EC P kt E C) (z:dA (.dlq C c k) e h nx=Z R):gF P o e.get h.get R.eff:=by
 simp[dA]at z;split at z
 .rename_i id ks D hkx;let⟨yk,hkx,hkl,hkn⟩:=Y1 hkx;split at z
  .rename_i es hid;split at z
   .rename_i es' hput;cases z;refine gF.writes hid λφ fs h' w a hrd hb' hp hrep=>?_
    have hrx:=hp c _ (by rw[ho];simp[Op.operands,dD]) D;have hrk:=MS hkl (hp k _ (by rw[ho];simp[Op.operands,dD]) hkx);generalize A:a.eval c=zz at hrx;cases hrx with
    |@mp _ b hφ=>
     let⟨k',q1,_,ob,L,q3⟩:=hrep.at_ id _ hb';rw[hφ]at q1;cases q1;obtain⟨ents,clock,rfl,q4,q5⟩:=q3;have q5:∀(j:Nat) c,es[j]? =Z c->∃m,ents[j]? =Z m/\cf φ (tot fs φ h') w c.2 m.val:=λj c D=>by
      let⟨_,g1,g2⟩:=q5 j c D;unfold MpV at g1
      grind
     have JA:∀(es:Y n!) (ents:Array MapEntry) (clock:Nat),ents.toList.map (·.key)=es.map (·.1)->(∀(j:Nat) c,es[j]? =Z c->∃m,ents[j]? =Z m/\cf φ (tot fs φ h') w c.2 m.val)->ij φ (tot fs φ h') w ⟨0,.mp es⟩ (.map ents clock):=λes ents clock g1 g2=>⟨ents,clock,rfl,by unfold MpK;exact g1,λj c D=>by
      let⟨m,g3,g4⟩:=g2 j c D;exact⟨_,by unfold MpV;exact⟨m,g3,rfl⟩,g4⟩⟩
     have hck:=aa0 K ents.isEmpty (cs:=ks.toArray) (by have:=rF K.hp;simp only[C_];omega) w;have hfk:=CC (P:=P) K (.agg ks.toArray) ents.toList w;rcases U8 K w es es' ents.toList 0 q4 hput with ⟨h1,rfl⟩|⟨j,m,h1,h2,h3,rfl⟩
     .rw[h1]at hfk;refine ⟨.value (.tuple #[]),_,b,.map ents clock,?_,hφ,vO L (by simp) (by simp),JA _ _ _ q4 q5,_,.inl rfl,cf.qb (vs:=[]) rfl (by simp)⟩;unfold execOp;rw[ho];simp[resolve,invoke,builtin,Builtin.delete_,run_underlying hu,A,hrk,getObj,kU,L,hck,hfk,setObj]
     .rw[h3]at hfk;have hel:(ents.eraseIdxIfInBounds j).toList=ents.toList.eraseIdx j:=by simp_all
      refine ⟨.value (.tuple #[]),_,b,.map (ents.eraseIdxIfInBounds j) clock,?_,hφ,vO L (by simp) (by simp),JA _ _ _ ?_ λi q hq=>?_,_,.inl rfl,cf.qb (vs:=[]) rfl (by simp)⟩
      .unfold execOp;rw[ho];simp[resolve,invoke,builtin,Builtin.delete_,run_underlying hu,A,hrk,getObj,kU,L,hck,hfk,setObj]
      .rw[hel,<-IP,q4,IP]
      .grind
   .cases z
  .cases z
 .cases z
end
def bind_some {β:Type} {x:M R} {f:R->M β} {y:β} (h:x.bind f=Z y):∃a,x=Z a/\f a=Z y:=by
 cases x with
 |none=>cases h
 |some a=>exact⟨a,rfl,h⟩
def map_some {β:Type} {x:M R} {f:R->β} {y:β} (h:x.map f=Z y):∃a,x=Z a/\f a=y:=by simp_all
def mw {x:M R} {y:R} (h:(if b then x else U)=Z y):b=J/\x=Z y:=by grind
def Mt {o:Oper} {e:ED} {h:ny} {s:UI} {R:Dz} (A:cL T o.op=Z s) (L:dA s e h i=Z R):gF T o e.get h.get R.eff:=by
 unfold cL at A;split at A
 next x D=>cases A;exact axk (.inl D) L
 next x D=>cases A;exact axk (.inr D) L
 next c a b D=>cases A;exact au2 D L
 next t D=>let⟨z,h1,A⟩:=bind_some A;let⟨h2,A⟩:=mw A;cases A;exact apr D h1 h2 L
 next t x D=>cases A;exact axz D L
 .rename_i t ps D;split at A
  next fs hu=>let⟨z,h1,A⟩:=bind_some A;let⟨h2,A⟩:=mw A;obtain⟨ps',h3,rfl⟩:=map_some A;simp only[al]at h2;exact adk D h1 h2.1 h3 (.inl ⟨fs,hu,h2.2⟩) L
  next n el hu=>let⟨z,h1,A⟩:=bind_some A;let⟨h2,A⟩:=mw A;obtain⟨ps',h3,rfl⟩:=map_some A;simp only[al]at h2;let⟨sz,h4⟩:=jL.1 h2.2;exact adk D h1 h2.1 h3 (.inr ⟨n,el,sz,hu,h4⟩) L
  .cases A
 next t n ps D=>let⟨el,h1,A⟩:=bind_some A;let⟨z,h2,A⟩:=bind_some A;let⟨sz,h3,A⟩:=bind_some A;let⟨h4,A⟩:=mw A;obtain⟨ps',h5,rfl⟩:=map_some A;simp only[al,cY,bne_iff_ne]at h4;exact axy D (uy h1) h2 h3 h4.1.1.1 h4.1.1.2 h4.2 (aT h4.1.2) h5 L
 next t x D=>let⟨sz,h1,A⟩:=bind_some A;obtain⟨ag,h2,rfl⟩:=map_some A;exact au5 D h1 h2 L
 next t x v D=>obtain⟨sz,h1,rfl⟩:=map_some A;exact apq D h1 L
 next x D=>cases A;exact au3 D L
 .rename_i op t x y t' D;split at A
  .cases A;exact arw D L
  .cases A;exact arw D L
  .rename_i hu;split at A
   .cases A;exact arv (neg:=af) D rfl hu L
   .cases A;exact arv (neg:=J) D rfl hu L
   .cases A
  .rename_i el hu;split at A
   .cases A;exact adi (neg:=af) D rfl rfl hu L
   .cases A;exact adi (neg:=J) D rfl rfl hu L
   .cases A
  .rename_i el hu;split at A
   .cases A;exact alf (neg:=af) D rfl rfl hu L
   .cases A;exact alf (neg:=J) D rfl rfl hu L
   .cases A
  .rename_i fs hu;let⟨ds,h1,A⟩:=bind_some A;unfold ES at h1;rw[hu]at h1;simp only[]at h1;split at h1
   .cases h1
   .rename_i hst;have hst:T.stoodInHeld t=af:=by simpa using hst
    split at A
    .cases A;exact aru (neg:=af) D rfl hu hst h1 L
    .cases A;exact aru (neg:=J) D rfl hu hst h1 L
    .cases A
  .cases A
 next t x D=>cases A;exact axi D L
 .rename_i t x D;split at A
  .cases A;exact axj D L
  .cases A
 .rename_i s' d x D;split at A
  next k k' h1 h2=>cases A;exact aub D h1 h2 L
  .cases A
 next t l c D=>let⟨el,h1,A⟩:=bind_some A;let⟨z,h2,A⟩:=bind_some A;let⟨sz,h3,A⟩:=bind_some A;let⟨b,h5,A⟩:=bind_some A;let⟨h4,A⟩:=mw A;simp only[al,cY,bne_iff_ne]at h4;cases A;exact au4 D (uy h1) h2 h3 h5 h4.1.1 h4.1.2 h4.2 L
 next t x lo hi mx D=>let⟨el,h1,A⟩:=bind_some A;obtain⟨sz,h2,rfl⟩:=map_some A;exact axe D (uy h1) h2 L
 .rename_i t x k D;split at A
  next fs hu=>let⟨f,h1,A⟩:=bind_some A;let⟨sz,h2,A⟩:=bind_some A;let⟨h3,A⟩:=mw A;cases A;exact axu D hu h1 h2 (by simpa using h3) L
  .cases A
 .rename_i t x k D;split at A
  next fs hu=>let⟨f,h1,A⟩:=bind_some A;let⟨sz,h2,A⟩:=bind_some A;obtain⟨ag,h3,rfl⟩:=map_some A;exact axt D hu h1 h2 h3 L
  .cases A
 .rename_i t x nx D;split at A
  next el hu=>obtain⟨sz,h1,rfl⟩:=map_some A;exact axs D hu h1 L
  next n el hu=>obtain⟨sz,h1,rfl⟩:=map_some A;exact au9 D hu h1 L
  .cases A
 .rename_i t x nx D;split at A
  next n el hu=>let⟨sz,h1,A⟩:=bind_some A;obtain⟨ag,h2,rfl⟩:=map_some A;exact axr D hu h1 h2 L
  next hu=>cases A;exact au1 D hu L
  .cases A
 next x nx D=>cases A;exact axv D L
 .rename_i f first caps D
  let⟨h1,A⟩:=mw A;cases A;have h2:first=#[]:=by simpa using h1
  subst h2;exact axn D L
 .rename_i t D;split at A
  .cases A;exact axm D L
  .cases A
 .rename_i t x k ok D;split at A
  .rename_i kt el hu;split at A
   next q z h1 h2=>let⟨h3,A⟩:=mw A;cases A;exact art (str:=af) D hu h1 ⟨q,rfl⟩ h2 L
   next z h1 h2=>let⟨h3,A⟩:=mw A;cases A;exact art (str:=J) D hu h1 rfl h2 L
   next fs z h1 h2=>let⟨h3,A⟩:=mw A;simp only[al,cR]at h3;obtain⟨ds,h4,rfl⟩:=map_some A;let⟨fs',K⟩:=Ic h4;rw[h3.2]at D;exact axq D hu K h2 L
   .cases A
  .cases A
 .rename_i t m k v D;split at A
  .rename_i kt el hu;split at A
   next q h1=>cases A;exact ars (str:=af) D hu h1 ⟨q,rfl⟩ L
   next h1=>cases A;exact ars (str:=J) D hu h1 rfl L
   .obtain⟨ds,h4,rfl⟩:=map_some A;let⟨fs',K⟩:=Ic h4;exact axl D hu K L
   .cases A
  .cases A
 .rename_i t x D;split at A
  next hu=>cases A;exact axf D hu L
  .cases A
 next x D=>cases A;exact axh D L
 .rename_i c D;let⟨callee,args,argTypes⟩:=c;have arr:∀{α:Type} {x:Array α} {l:Y α},x.toList=l->x=l.toArray:=λh=>by rw[<- h]
  unfold XK at A;simp only[]at A;split at A
  .split at A
   .rename_i x t h1 h2;rw[arr h1,arr h2]at D;split at A
    next el hu=>cases A;exact au8 D hu L
    next hu=>cases A;exact au7 D hu L
    next k v hu=>cases A;exact au6 D hu L
    .cases A
   .cases A
  .split at A
   next x y h1=>rw[arr h1]at D;cases A;exact axp D L
   .cases A
  .split at A
   next x y h1=>rw[arr h1]at D;cases A;exact axo D L
   .cases A
  .split at A
   .rename_i d x t u h1 h2;rw[arr h1,arr h2]at D;split at A
    next el el' h1 h2=>let⟨sz,h3,A⟩:=bind_some A;let⟨h4,A⟩:=mw A;cases A;exact aua D (uy h1) (uy h2) h3 L
    .cases A
   .cases A
  .split at A
   .rename_i m k t t2 h1 h2;rw[arr h1,arr h2]at D;split at A
    next kt el hu=>obtain⟨ds,h4,rfl⟩:=map_some A;let⟨fs',K⟩:=Ic h4;exact axw D hu K L
    .cases A
   .cases A
  .split at A
   next x t h1 h2=>rw[arr h1,arr h2]at D;let⟨el,h3,A⟩:=bind_some A;let⟨z,h4,A⟩:=bind_some A;let⟨sz,h5,A⟩:=bind_some A;let⟨h6,A⟩:=mw A;simp only[al,cY,bne_iff_ne,ne_eq]at h6;cases A;exact axx D (uy h3) h4 h6.1.1 h6.1.2 h6.2 L
   .cases A
  .split at A
   .rename_i s' x t u h1 h2;rw[arr h1,arr h2]at D;split at A
    next el el' h1 h2=>let⟨sz,h3,A⟩:=bind_some A;let⟨b,h4,A⟩:=bind_some A;let⟨z,h5,A⟩:=bind_some A;let⟨h6,A⟩:=mw A;simp only[al,cY,bne_iff_ne]at h6;cases A;exact ay0 D (uy h1) (uy h2) h3 h4 h5 h6.2 h6.1 L
    .cases A
   .cases A
  .cases A
 .cases A
def nH :∀{l:Y AV},AV.allL p l=J->∀x∈l,AV.all p x=J
 |[],_,x,z=>by cases z
 |y::l,h,x,z=>by
  simp[AV.allL,al]at h;rcases aV.1 z with rfl|z
  .exact h.1
  .exact nH h.2 x z
def cf.restrict {φ':PM} {O':Nat->Prop} (hs:∀i k,p i=J->V i=Z k->φ' i=Z k) (ho:∀k,O' k->O k) (h:cf V O w y v):y.all p=J->cf φ' O' w y v:=by
 induction h with
 |f h=>intro _;exact .f (h.ext (O':=O') (HY.refl O w) λk _ hk=>ho k hk)
 |P h=>intro hp;exact .P (hs _ _ hp h)
 |sl h hn hc=>intro hp;exact .sl (hs _ _ hp h) hn hc
 |I h hn hc hsh=>intro hp;exact .I (hs _ _ hp h) hn hc hsh
 |emp=>intro _;exact .emp
 |qw=>intro _;exact .qw
 |qc h=>intro _;exact .qc (h.ext (O':=O') (HY.refl O w) λk _ hk=>ho k hk)
 |mp h=>intro hp;exact .mp (hs _ _ hp h)
 |agg L hcl hr A=>intro hp;exact .agg L hcl λj y v z D=>A j y v z D (nH hp y (a8 z))
 |qb L hr A=>intro hp;exact .qb L λj y v z D=>A j y v z D (nH hp y (a8 z))
 |qy L hr A=>intro hp;exact .qy L λj y v z D=>A j y v z D (nH hp y (a8 z))
def ij.restrict {φ':PM} {O':Nat->Prop} {w':World} (hk:∀x v,x.all p=J->cf V O w x v->cf φ' O' w' x v) {o:Obj} (hb:N.c.all p=J) (h:ij V O w N o):ij φ' O' w' N o:=by
 unfold ij at h ⊢;cases L:N.c with
 |fz l=>
  rw[L]at h;let⟨arr,h1,D,A⟩:=h;exact⟨arr,h1,D,λj x z=>by
   let⟨a,v,c,d⟩:=A j x z;refine ⟨a,v,c,hk _ _ ?_ d⟩;simp only[BC.get]at z;cases hl:l[j]? with
   |none=>rw[hl]at z;cases z
   |some q=>rw[hl]at z;simp at z;subst z;rfl⟩
 |mx l=>
  rw[L]at h hb;let⟨arr,h1,D,A⟩:=h;exact⟨arr,h1,D,λj x z=>by
   let⟨a,v,c,d⟩:=A j x z;exact⟨a,v,c,hk _ _ (nH hb x (a8 z)) d⟩⟩
 |mp es=>
  rw[L]at h hb;let⟨e,c,h1,D,A⟩:=h;exact⟨e,c,h1,D,λj x z=>by
   let⟨m,a,N⟩:=A j x z;exact⟨m,a,hk _ _ (nH hb x.2 (cr.2 ⟨x,a8 z,rfl⟩)) N⟩⟩
 |it s q=>rw[L]at h;exact h
def al1 (m:Nat):ι:=(e_ (m+1)).filter λi=>aK m i
def Rd :i∈al1 j↔aK j i=J:=by
 unfold al1;rw[List.mem_filter,oO];constructor
 .exact λh=>h.2
 .intro h;refine ⟨?_,h⟩;have h1:=Nat.ge_two_pow_of_testBit h;have z:=Nat.lt_two_pow_self (n:=i);omega
def lV (φ:PM) (O:Nat->Prop) (w:World):Y AV->ξ->Prop
 |[],[]=>True
 |x::xs,v::vs=>cf φ O w x v/\lV φ O w xs vs
 |_,_=>False
def lV.length :∀{args:Y AV} {vs:ξ},lV V O w args vs->l! vs=l! args
 |[],[],_=>rfl
 |[],_::_,h|_::_,[],h=>h.elim
 |_::_,_::_,h=>by simp[lV.length h.2]
def lV.mono {φ':PM} {O':Nat->Prop} {w':World} (z:∀x v,x.all p=J->cf V O w x v->cf φ' O' w' x v):∀{args:Y AV} {vs:ξ},AV.allL p args=J->lV V O w args vs->lV φ' O' w' args vs
 |[],[],_,_=>trivial
 |[],_::_,_,h|_::_,[],_,h=>h.elim
 |x::xs,_::_,hp,h=>by
  simp[AV.allL,al]at hp;exact⟨z _ _ hp.1 h.1,lV.mono z hp.2 h.2⟩
def lV.append :∀{xs z:Y AV} {vs A:ξ},lV V O w xs vs->lV V O w z A->lV V O w (xs++z) (vs++A)
 |[],_,[],_,_,h=>h
 |[],_,_::_,_,h,_|_::_,_,[],_,h,_=>h.elim
 |_::_,_,_::_,_,h,h'=>⟨h.1,lV.append h.2 h'⟩
def lV.of :∀{xs:Y AV} {vs:ξ},l! vs=l! xs->(∀(j:Nat) x v,xs[j]? =Z x->vs[j]? =Z v->cf V O w x v)->lV V O w xs vs
 |[],[],_,_=>trivial
 |[],_::_,h,_|_::_,[],h,_=>by simp at h
 |x::xs,v::vs,D,h=>⟨h 0 x v rfl rfl,lV.of (by grind) λj x v z A=>h (j+1) x v (by grind) (by grind)⟩
def HQ (P:Program) (f:FuncId):Prop:=∃fn,P.funcs[f]? =Z fn∧fn.body.isNone=af∧(fn.name== "runtime.NumGoroutine")=af
def Zz {e:ED} {o:Oper} (hp:Yo V O S w z e o):∀(xs:Y Operand) (a:Y AV),(∀x∈xs,x∈o.op.operands)->evs e xs=Z a->lV V (tot O V S) w a (xs.map z.eval)
 |[],a,_,h=>by simp[evs,ah]at h;subst h;trivial
 |x::xs,a,hm,h=>by
  simp[evs]at h;split at h
  .rename_i y A;split at h
   next ys' hys=>simp[ah]at h;subst h;exact⟨hp x y (hm x (cV ..)) A,Zz hp xs ys' (λx D=>hm x (bP _ D)) hys⟩
   .cases h
  .cases h
variable {f:FuncId}
def Aq (D:HQ T f) (args:Array Value) (w:World):(callFunc f args).run T w= .ok (.enter f args) w:=by
 let⟨fn,h1,h2,L⟩:=D;have z:fn.name≠ "runtime.NumGoroutine" :=by grind
 have A:fn.body≠U:=by grind
 simp[callFunc,program,kU,h1,A,z]
def ach:∀(z:Y FPm) (i:Nat),af3 z i=z[i]?
 |[],i=>by simp[af3]
 |f::z,0=>rfl
 |f::z,i+1=>by simp[af3,ach z i]
def Bd (h:Ks i j=J) (a:Nat) (z:aK i a=J):aK j a=af:=by
 have h0:i&&&j=0:=au h;have:=Nat.testBit_and i j a
 grind
structure Ctx where
 n0:Nat
 φ:PM
 E:Nat->Prop
 h:HF
 w:World
def Yg (P:Program) (d:Deferred):Prop:=∀w:World,∃A cap f args,d.target= .fn A cap/\(invoke d.target d.args).run P w= .ok (.enter f args) w/\
 CallsD P f args .returning w λe z w'=>(∃v,e= .returned v)/\z= .returning/\w'=w
structure Cfg (P:Program) (C:Ctx) (nt:Nat) (s:IS) (a:Act) (w:World):Prop where
 ex:∃φ,kl C.φ φ C.h s.h.get C.w w/\sC φ C.E s.h.get w/\R3 φ (tot C.E φ s.h.get) w s.e.get a/\(∀i k,φ i=Z k->i<s.nx)/\∀i k,φ i=Z k->C.φ i=Z k\/C.n0<=i
 low:C.n0<=s.nx
 inert:∀d∈a.defers,Yg P d
 size:a.tmps.size=nt
def Cfg.bool {C:Ctx} {s:IS} (c:Cfg T C i s z w) (ht:s.e.get j=Z (.f (.raw (.bool b)))):z.eval (.tmp j)= .bool b:=by
 let⟨φ,_,_,en,_,_⟩:=c.ex;exact fE (en j _ ht)
def FE {c:Code} (I:Nat->Act->World->Prop) (round:∀n z w,I n z w->c.wp T (Exit.then (λa w'=>∃m,m<n/\I m a w') d) z w) {n:Nat} (h0:I n z w):(Code.loop c).wp T d z w:=by
 have least:∀(n:Nat) (z:Act) (w:World),I n z w->∃m,I m z w/\∀k,I k z w->m<=k:=by
  intro n;induction n using Nat.strongRecOn with
  |_ n D=>grind
 have pick:∀z w,∃m,(∃n,I n z w)->I m z w/\∀k,I k z w->m<=k:=λz w=>by
  by_cases L:∃n,I n z w
  .grind
  .simp_all
 let μ:Act->World->Nat:=λz w=>Classical.choose (pick z w)
 have hμ:∀z w,(∃n,I n z w)->I (μ z w) z w/\∀k,I k z w->μ z w<=k:=λz w=>Classical.choose_spec (pick z w)
 refine wp_loop (λz w=>∃n,I n z w) μ ⟨n,h0⟩ λz w A=>?_
 refine wp_mono (round (μ z w) z w (hμ z w A).1) λe a w' he=>?_
 cases e with
 |normal=>grind
 |_=>exact he
def Ex.to:Ex->Exit
 |.normal=>.normal
 |.exit id=>.exit id
 |.ret=>.ret
def Pd (P:Program) (inert:FuncId->Bool):Prop:=∀f,inert f=J->HQ P f/\∀(args:Array Value) (w:World),CallsD P f args .returning w λe z w'=>(∃v,e= .returned v)/\z= .returning/\w'=w
def ahu (tmps:Array Value):ResultVar->Sem Value
 |.tmp t=>pure (tmps.getD t undef)
 |.cell a t=>do
  let ad<-asAddr (tmps.getD a undef)
  loadVar t ad
def YJ (fn:Func) (tmps:Array Value):results fn tmps=(do let vs<-fn.results.mapM (ahu tmps);pure (if h:vs.size=1 then vs[0] else .tuple vs)):=by
 congr 2
def Gi {P:Program} {fn:Func} {tmps:Array Value} {R:Ending->World->Prop} {w:World} {v:Value} (z:(results fn tmps).run P w= .ok v w) (A:R (.returned v) w):∀(ds:Y Deferred),(∀d∈ds,Yg P d)->Leaves P fn tmps R ds .returning w
 |[],_=>⟨v,z,A⟩
 |d::ds,h=>by
  let⟨fv,cap,f,args,h1,L,D⟩:=h d (cV ..) w;refine ⟨by simp,fv,cap,f,args,h1,L,D.mono ?_⟩;rintro e u' w' ⟨⟨v',rfl⟩,rfl,rfl⟩;exact Gi z A ds λd hd=>h d (bP _ hd)
def lV.get :∀{xs:Y AV} {vs:ξ},lV V O w xs vs->∀(j:Nat) x,xs[j]? =Z x->∃v,vs[j]? =Z v/\cf V O w x v
 |[],_,_,j,x,z=>by simp at z
 |_::_,[],h,_,_,_=>h.elim
 |y::xs,u::vs,h,j,x,z=>by
  cases j with
  |zero=>simp at z;subst z;exact⟨u,rfl,h.1⟩
  |succ j=>exact lV.get h.2 j x (by grind)
def XJ {z:SF} (h:CZ T f=Z z):∃fn c,T.funcs[f]? =Z fn∧fn.body=Z c∧(fn.name== "runtime.NumGoroutine")=af∧z.code=cz T fn.ntmps c∧xP T fn.results.toList=Z z.res∧z.nt=fn.ntmps:=by
 unfold CZ at h
 grind
def apd {b:Value} (h:ats v b=J):v=b:=by
 unfold ats at h;split at h
 .simp at h;rw[h]
 .grind
 .rw[xR.1 h]
 .simp_all
 .rfl
 .grind
 .cases h
end
end Go.Proofs.YtpjhicegjenpeaaGreatDoor.AI
