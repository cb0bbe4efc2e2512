/-
  Texts of the proof, part 1 of 6: what is used to prove the statement. No condition.
-/
import Derived.WalkKit
import Derived.Lib.Hide
import Derived.Deep.QuietTactic
import Derived.WalkSpells
import Derived.Laws.CopyRow
import Derived.Deep.AppendSrc
import Derived.Laws.AppendOwn
import Derived.Defers
namespace Prod
variable {A0 A1 A2 A3 A4 A5 A6 A7 A8 A9 A10 A11 A12 A13 A14 A15 A16 A17 A18 A19 A20 A21 A22 A23 A24:Type}
abbrev a (x:A0×A1×A2×A3):A2:=x.2.2.1
abbrev b (x:A0×A1×A2×A3×A4):A3:=x.2.2.2.1
abbrev e (x:A0×A1×A2×A3):A3:=x.2.2.2
abbrev c (x:A0×A1×A2×A3×A4×A5):A4:=x.2.2.2.2.1
abbrev g (x:A0×A1×A2×A3×A4):A4:=x.2.2.2.2
abbrev d (x:A0×A1×A2×A3×A4×A5×A6):A5:=x.2.2.2.2.2.1
abbrev h (x:A0×A1×A2×A3×A4×A5):A5:=x.2.2.2.2.2
abbrev f (x:A0×A1×A2×A3×A4×A5×A6×A7):A6:=x.2.2.2.2.2.2.1
abbrev n (x:A0×A1×A2×A3×A4×A5×A6):A6:=x.2.2.2.2.2.2
abbrev i (x:A0×A1×A2×A3×A4×A5×A6×A7×A8):A7:=x.2.2.2.2.2.2.2.1
abbrev p (x:A0×A1×A2×A3×A4×A5×A6×A7):A7:=x.2.2.2.2.2.2.2
abbrev j (x:A0×A1×A2×A3×A4×A5×A6×A7×A8×A9):A8:=x.2.2.2.2.2.2.2.2.1
abbrev r (x:A0×A1×A2×A3×A4×A5×A6×A7×A8):A8:=x.2.2.2.2.2.2.2.2
abbrev m (x:A0×A1×A2×A3×A4×A5×A6×A7×A8×A9×A10):A9:=x.2.2.2.2.2.2.2.2.2.1
abbrev w (x:A0×A1×A2×A3×A4×A5×A6×A7×A8×A9):A9:=x.2.2.2.2.2.2.2.2.2
abbrev k (x:A0×A1×A2×A3×A4×A5×A6×A7×A8×A9×A10×A11):A10:=x.2.2.2.2.2.2.2.2.2.2.1
abbrev y (x:A0×A1×A2×A3×A4×A5×A6×A7×A8×A9×A10):A10:=x.2.2.2.2.2.2.2.2.2.2
abbrev o (x:A0×A1×A2×A3×A4×A5×A6×A7×A8×A9×A10×A11×A12):A11:=x.2.2.2.2.2.2.2.2.2.2.2.1
abbrev v (x:A0×A1×A2×A3×A4×A5×A6×A7×A8×A9×A10×A11):A11:=x.2.2.2.2.2.2.2.2.2.2.2
abbrev l (x:A0×A1×A2×A3×A4×A5×A6×A7×A8×A9×A10×A11×A12×A13):A12:=x.2.2.2.2.2.2.2.2.2.2.2.2.1
abbrev z (x:A0×A1×A2×A3×A4×A5×A6×A7×A8×A9×A10×A11×A12):A12:=x.2.2.2.2.2.2.2.2.2.2.2.2
abbrev q (x:A0×A1×A2×A3×A4×A5×A6×A7×A8×A9×A10×A11×A12×A13×A14):A13:=x.2.2.2.2.2.2.2.2.2.2.2.2.2.1
abbrev B (x:A0×A1×A2×A3×A4×A5×A6×A7×A8×A9×A10×A11×A12×A13):A13:=x.2.2.2.2.2.2.2.2.2.2.2.2.2
abbrev s (x:A0×A1×A2×A3×A4×A5×A6×A7×A8×A9×A10×A11×A12×A13×A14×A15):A14:=x.2.2.2.2.2.2.2.2.2.2.2.2.2.2.1
abbrev t (x:A0×A1×A2×A3×A4×A5×A6×A7×A8×A9×A10×A11×A12×A13×A14):A14:=x.2.2.2.2.2.2.2.2.2.2.2.2.2.2
abbrev u (x:A0×A1×A2×A3×A4×A5×A6×A7×A8×A9×A10×A11×A12×A13×A14×A15×A16):A15:=x.2.2.2.2.2.2.2.2.2.2.2.2.2.2.2.1
abbrev H (x:A0×A1×A2×A3×A4×A5×A6×A7×A8×A9×A10×A11×A12×A13×A14×A15):A15:=x.2.2.2.2.2.2.2.2.2.2.2.2.2.2.2
abbrev C (x:A0×A1×A2×A3×A4×A5×A6×A7×A8×A9×A10×A11×A12×A13×A14×A15×A16×A17):A16:=x.2.2.2.2.2.2.2.2.2.2.2.2.2.2.2.2.1
abbrev E (x:A0×A1×A2×A3×A4×A5×A6×A7×A8×A9×A10×A11×A12×A13×A14×A15×A16):A16:=x.2.2.2.2.2.2.2.2.2.2.2.2.2.2.2.2
abbrev D (x:A0×A1×A2×A3×A4×A5×A6×A7×A8×A9×A10×A11×A12×A13×A14×A15×A16×A17×A18):A17:=x.2.2.2.2.2.2.2.2.2.2.2.2.2.2.2.2.2.1
abbrev F (x:A0×A1×A2×A3×A4×A5×A6×A7×A8×A9×A10×A11×A12×A13×A14×A15×A16×A17):A17:=x.2.2.2.2.2.2.2.2.2.2.2.2.2.2.2.2.2
abbrev I (x:A0×A1×A2×A3×A4×A5×A6×A7×A8×A9×A10×A11×A12×A13×A14×A15×A16×A17×A18×A19):A18:=x.2.2.2.2.2.2.2.2.2.2.2.2.2.2.2.2.2.2.1
abbrev G (x:A0×A1×A2×A3×A4×A5×A6×A7×A8×A9×A10×A11×A12×A13×A14×A15×A16×A17×A18):A18:=x.2.2.2.2.2.2.2.2.2.2.2.2.2.2.2.2.2.2
abbrev K (x:A0×A1×A2×A3×A4×A5×A6×A7×A8×A9×A10×A11×A12×A13×A14×A15×A16×A17×A18×A19×A20):A19:=x.2.2.2.2.2.2.2.2.2.2.2.2.2.2.2.2.2.2.2.1
abbrev L (x:A0×A1×A2×A3×A4×A5×A6×A7×A8×A9×A10×A11×A12×A13×A14×A15×A16×A17×A18×A19×A20×A21):A20:=x.2.2.2.2.2.2.2.2.2.2.2.2.2.2.2.2.2.2.2.2.1
abbrev N (x:A0×A1×A2×A3×A4×A5×A6×A7×A8×A9×A10×A11×A12×A13×A14×A15×A16×A17×A18×A19×A20×A21):A21:=x.2.2.2.2.2.2.2.2.2.2.2.2.2.2.2.2.2.2.2.2.2
end Prod
namespace Go.Proofs.YtpjhicegjenpeaaGreatDoor.AI
open Go.RowKit
set_option maxRecDepth 100000
set_option maxHeartbeats 4000000
set_option linter.unusedVariables false
set_option linter.unusedSimpArgs false
set_option linter.defProp false
open Act renaming put→Sp
open _root_.Array renaming replicate→uH,range→H0
open _root_.Bool renaming true→J,false→af,false_or→FH
open Builtin renaming zeroCells→mP,firstCells→Bt,append_→Jq
open Call renaming operands→dI
open ForInStep renaming yield→Jp
open Instr renaming findAsking→db,sliceBounds→h_,sliceBound→iM,findNow→jO,sliceAt→mb,sameBits→mH,checkKey→mI,slice→p_,findKey→Ap
open _root_.Int renaming toNat→aN,ofNat→aQ,tmod→Df
open IntKind renaming wrap→pZ
open _root_.List renaming length→l!,length→aj,replicate→aC,length_singleton→cq,take→dx,range→eA,map→gM,toArray→jT,length_cons→kn,set→sI,append→sV,map_drop→An,foldl_cons→Aq,map_nil→Dd,ext_getElem?→Sn
open _root_.Nat renaming beq→ax,testBit→aL,add_zero→dK,ble→dR,blt→eE,min→ma,mod_eq_of_lt→xn
open Oper renaming wp→LB
open _root_.Option renaming some→Z,none→U,bind_some→aF,map_some→bi
open Region renaming wanted→jM,binds→Db,ready→LA
open Result renaming andThen_ok→cZ
open Sem renaming run_bind→fG,run→kV,run_pure→xl
open Value.bool renaming injEq→Fz
open World renaming shape?→tN,cell?→Sk
noncomputable section
abbrev Y:=@List
abbrev M:=@Option
abbrev av:=@if_neg
abbrev aD:=@if_pos
abbrev aS:=@decide_eq_true
abbrev bk:=@if_true
abbrev bF:=@of_decide_eq_true
abbrev bG:=@decide_eq_true_eq
abbrev cr:=@beq_self_eq_true
abbrev cu:=@absurd
abbrev cK:=@decide_eq_false
abbrev c4:=@beq_iff_eq
abbrev dF:=@if_false
abbrev dL:=@decide_false
abbrev eR:=@congrArg
abbrev eT:=@decide_true
abbrev fo:=@or_false
abbrev qE:=@of_decide_eq_false
abbrev EO:=@true_and
abbrev ah:=@Option.some.injEq
abbrev al:=@Bool.and_eq_true
abbrev au:=@Nat.eq_of_beq_eq_true
abbrev aw:=@List.getD_eq_getElem?_getD
abbrev aE:=@List.mem_singleton
abbrev aG:=@List.getElem?_eq_getElem
abbrev aR:=@Prod.mk.injEq
abbrev aU:=@Nat.le_of_ble_eq_true
abbrev aV:=@List.mem_cons
abbrev a8:=@List.mem_of_getElem?
abbrev a_:=@Nat.ble_eq_true_of_le
abbrev bu:=@Nat.testBit_or
abbrev bz:=@List.length_append
abbrev bB:=@List.getElem?_map
abbrev bC:=@List.getElem?_eq_some_iff
abbrev bK:=@Nat.le_refl
abbrev bL:=@List.getElem?_append_left
abbrev bM:=@List.length_map
abbrev bO:=@List.mem_append
abbrev bS:=@List.mem_cons_of_mem
abbrev bX:=@Nat.zero_add
abbrev b8:=@List.not_mem_nil
abbrev b9:=@List.map_cons
abbrev b_:=@List.getElem?_append_right
abbrev ca:=@Bool.not_eq_true'
abbrev cg:=@List.length_take
abbrev cz:=@List.mem_map
abbrev cF:=@Nat.lt_or_ge
abbrev cG:=@List.map_append
abbrev cJ:=@Nat.mul_le_mul_right
abbrev cL:=@Bool.false_eq_true
abbrev cQ:=@List.take_length
abbrev cU:=@List.length_replicate
abbrev cX:=@List.mem_cons_self
abbrev cY:=@Bool.true_and
abbrev c5:=@List.ext_getElem
abbrev c9:=@Nat.le_trans
abbrev c_:=@List.getElem?_eq_none
abbrev dc:=@Array.getElem?_toList
abbrev dk:=@List.length_eq_zero_iff
abbrev dl:=@List.getElem?_replicate
abbrev dv:=@List.length_set
abbrev dC:=@Int.le_refl
abbrev dD:=@Nat.lt_of_lt_of_le
abbrev dE:=@Array.getElem?_eq_some_iff
abbrev dT:=@List.foldl_append
abbrev ep:=@List.getElem?_set
abbrev eX:=@List.cons.injEq
abbrev fc:=@List.getElem?_take
abbrev fd:=@Int.natCast_nonneg
abbrev fx:=@Bool.and_self
abbrev fH:=@List.getElem?_of_mem
abbrev fU:=@Nat.beq_refl
abbrev fV:=@Option.some.inj
abbrev fX:=@Nat.not_lt_zero
abbrev gg:=@Nat.le_succ_of_le
abbrev gh:=@List.flatMap_cons
abbrev gy:=@Option.map_eq_some_iff
abbrev gz:=@List.take_of_length_le
abbrev gO:=@Bool.false_and
abbrev gQ:=@List.map_take
abbrev ip:=@List.mem_of_mem_take
abbrev iu:=@List.mem_append_left
abbrev iL:=@List.all_eq_true
abbrev ja:=@List.map_congr_left
abbrev ju:=@List.append_assoc
abbrev jN:=@Option.isSome_iff_exists
abbrev jS:=@Nat.succ_mul
abbrev jU:=@List.append_nil
abbrev ko:=@Array.getD_eq_getD_getElem?
abbrev kW:=@Nat.or_assoc
abbrev kX:=@List.map_map
abbrev lm:=@Nat.zero_le
abbrev nA:=@Bool.or_eq_true
abbrev nZ:=@Nat.ne_of_beq_eq_false
abbrev oR:=@List.mem_range
abbrev pI:=@Array.getElem?_eq_getElem
abbrev pY:=@List.take_succ_eq_append_getElem
abbrev sU:=@List.take_append_of_le_length
abbrev tO:=@List.getElem_range
abbrev tP:=@List.getElem?_drop
abbrev uJ:=@Nat.add_assoc
abbrev u_:=@List.mem_append_right
abbrev vw:=@Nat.lt_succ_of_lt
abbrev vx:=@List.length_range
abbrev wX:=@Nat.zero_or
abbrev wY:=@List.replicate_succ'
abbrev wZ:=@Bool.and_eq_true_iff
abbrev xo:=@Nat.lt_succ_self
abbrev xp:=@List.mem_flatMap
abbrev xr:=@List.length_drop
abbrev xt:=@List.getElem_map
abbrev xu:=@List.drop_append
abbrev ya:=@Classical.byContradiction
abbrev yF:=@List.length_take_le
abbrev yH:=@Int.toNat_of_nonneg
abbrev Ao:=@List.eq_of_mem_replicate
abbrev Bs:=@Int.not_lt
abbrev Dc:=@List.size_toArray
abbrev De:=@List.drop_of_length_le
abbrev EK:=@List.take_append_drop
abbrev EL:=@List.length_filter_le
abbrev EM:=@List.contains_iff_mem
abbrev FA:=@List.getElem_set
abbrev FB:=@List.getElem_mem
abbrev FG:=@Nat.lt_irrefl
abbrev HZ:=@List.getElem?_mapIdx
abbrev Jn:=@Nat.min_eq_left
abbrev Jo:=@List.sum_append
abbrev KI:=@List.getElem?_range
abbrev KJ:=@List.drop_succ_cons
abbrev LC:=@Nat.sub_self
abbrev Sl:=@Nat.lt_trichotomy
abbrev So:=@Bool.eq_false_iff
abbrev η:=Y Int
abbrev ζ:=Y UInt8
abbrev θ:=Y Bool
abbrev ι:=Y Nat
abbrev ξ:=Y Value
abbrev ω:=Int×Int×Int×Int×Int×Int
abbrev υ:=Int×Int×Int×Int×Int
abbrev π:=Int×Int×Int
abbrev ν:=Int×Int
inductive FV where
 |raw (v:Value)
 |sl (cells:List FV) (n:Nat)
 |P (cells:List FV) (off:Nat)
 |agg (cells:List FV)
inductive AV where
 |f (x:FV)
 |P (id off:Nat)
 |sl (id off n:Nat)
 |I (id sz n:Nat)
 |mp (id:Nat)
 |emp
 |qw
 |qc (cells:List FV) (n:Nat)
 |agg (cells:List AV)
 |qb (vs:List AV)
 |qy (g:FuncId) (cap:List AV)
def FV.isCell:FV->Bool
 |.raw v=>v.oneCell'
 |.sl _ _=>J
 |.P _ _=>J
 |.agg _=>af
def AV.isCell:AV->Bool
 |.f x=>x.isCell
 |.P _ _=>J
 |.sl _ _ _=>J
 |.I _ _ _=>J
 |.mp _=>J
 |.emp=>J
 |.qy _ _=>J
 |_=>af
inductive ny (O:Nat->Prop) (w:World):FV->Value->Prop
 |raw (v:Value):ny O w (.raw v) v
 |nil (a:Option Addr) (c:Nat) (hc:c<=maxLen):ny O w (.sl [] 0) (.slice a 0 c)
 |sl (cells:List FV) (n c b off:Nat) (us:Nat->Value) (hn:n<=c) (hc:c<=maxLen) (hO:¬O b) (hb:b<w.heap.size)
   (hcl:∀x∈cells,x.isCell=J)
   (hu:∀j,j<l! cells->w.cell? ⟨b,off+j,U⟩=Z (us j)) (hr:∀(j:Nat) x,cells[j]? =Z x->ny O w x (us j)):
   ny O w (.sl cells n) (.slice (Z ⟨b,off,U⟩) n c)
 |P (cells:List FV) (o b off:Nat) (us:Nat->Value) (hO:¬O b) (hb:b<w.heap.size)
   (hcl:∀x∈cells,x.isCell=J)
   (hu:∀j,j<l! cells->w.cell? ⟨b,off+j,U⟩=Z (us j)) (hr:∀(j:Nat) x,cells[j]? =Z x->ny O w x (us j)):
   ny O w (.P cells o) (.pointer (Z ⟨b,off+o,U⟩))
 |agg (cells:List FV) (vs:ξ) (hl:l! vs=l! cells) (hcl:∀x∈cells,x.isCell=J)
   (hr:∀(j:Nat) x v,cells[j]? =Z x->vs[j]? =Z v->ny O w x v):ny O w (.agg cells) (.agg vs.toArray)
abbrev PM:=Nat->M Nat
inductive co (φ:PM) (O:Nat->Prop) (w:World):AV->Value->Prop
 |f {x:FV} {v:Value} (h:ny O w x v):co φ O w (.f x) v
 |P {id off b:Nat} (h:φ id=Z b):co φ O w (.P id off) (.pointer (Z ⟨b,off,U⟩))
 |sl {id off n c b:Nat} (h:φ id=Z b) (hn:n<=c) (hc:c<=maxLen):co φ O w (.sl id off n) (.slice (Z ⟨b,off,U⟩) n c)
 |I {id sz n c b:Nat} (h:φ id=Z b) (hn:n<=c) (hc:c<=maxLen) (hs:∃ty,w.shape? b=Z (ty,c*sz)):
   co φ O w (.I id sz n) (.slice (Z ⟨b,0,U⟩) n c)
 |emp {a:Option Addr}:co φ O w .emp (.slice a 0 0)
 |qw {b:Bool}:co φ O w .qw (.bool b)
 |qc {cells:List FV} {n:Nat} {a:Option Addr} (h:ny O w (.sl cells n) (.slice a n n)):co φ O w (.qc cells n) (.slice a n n)
 |mp {id b:Nat} (h:φ id=Z b):co φ O w (.mp id) (.map (Z b))
 |agg {cells:List AV} {vs:ξ} (hl:l! vs=l! cells) (hcl:∀x∈cells,x.isCell=J)
   (hr:∀(j:Nat) x v,cells[j]? =Z x->vs[j]? =Z v->co φ O w x v):co φ O w (.agg cells) (.agg vs.toArray)
 |qb {cells:List AV} {vs:ξ} (hl:l! vs=l! cells)
   (hr:∀(j:Nat) x v,cells[j]? =Z x->vs[j]? =Z v->co φ O w x v):co φ O w (.qb cells) (.tuple vs.toArray)
 |qy {g:FuncId} {cells:List AV} {vs:ξ} (hl:l! vs=l! cells)
   (hr:∀(j:Nat) x v,cells[j]? =Z x->vs[j]? =Z v->co φ O w x v):co φ O w (.qy g cells) (.func (.func g) #[] vs.toArray)
structure H4 (O:Nat->Prop) (w w':World):Prop where
 os:w'.os=w.os
 tape:w'.tape=w.tape
 output:w'.output=w.output
 size:w.heap.size<=w'.heap.size
 jp:∀k,k<w.heap.size->¬O k->w'.heap[k]? =w.heap[k]?
 xz:∀k,k<w.heap.size->w'.shape? k=w.shape? k
def H4.refl (O:Nat->Prop) (w:World):H4 O w w:=⟨rfl,rfl,rfl,bK _,λ_ _ _=>rfl,λ_ _=>rfl⟩
variable {w:World} {i:Nat}
def HC {w':World} (h:w'.heap[i]? =w.heap[i]?) (o:Nat):w'.cell? ⟨i,o,U⟩=w.cell? ⟨i,o,U⟩:=by
 unfold Sk;rw[h]
variable {O:Nat->Prop} {v:Value}
def ny.ext {O':Nat->Prop} {w':World} (he:H4 O w w') (ho:∀k,k<w.heap.size->O' k->O k) {x:FV} (h:ny O w x v):ny O' w' x v:=by
 induction h with
 |raw v=>exact .raw v
 |nil a c hc=>exact .nil a c hc
 |sl cells n c b off L hn hc D z hcl hu hr A=>
  exact .sl cells n c b off L hn hc (λh=>D (ho b z h)) (dD z he.size) hcl (λj hj=>by rw[HC (he.jp b z D)];exact hu j hj) A
 |P cells o b off L D z hcl hu hr A=>
  exact .P cells o b off L (λh=>D (ho b z h)) (dD z he.size) hcl (λj hj=>by rw[HC (he.jp b z D)];exact hu j hj) A
 |agg cells vs hl hcl hr A=>exact .agg cells vs hl hcl A
variable {V:PM} {y:AV}
def co.ext {φ':PM} {O':Nat->Prop} {w':World} (D:∀i k,V i=Z k->φ' i=Z k) (he:H4 O w w') (ho:∀k,k<w.heap.size->O' k->O k) (h:co V O w y v):co φ' O' w' y v:=by
 induction h with
 |f h=>exact .f (h.ext he ho)
 |P h=>exact .P (D _ _ h)
 |sl h L hc=>exact .sl (D _ _ h) L hc
 |I h L hc hsh=>
  let⟨ty,hty⟩:=hsh;refine .I (D _ _ h) L hc ⟨ty,?_⟩;rw[he.xz _ ?_];exact hty;unfold tN at hty
  grind
 |emp=>exact .emp
 |qw=>exact .qw
 |qc h=>exact .qc (h.ext he ho)
 |mp h=>exact .mp (D _ _ h)
 |agg A hcl hr z=>exact .agg A hcl z
 |qb A hr z=>exact .qb A z
 |qy A hr z=>exact .qy A z
inductive BC where
 |fz (l:List FV)
 |mx (l:List AV)
 |mp (es:List (Value×AV))
 |it (s:ByteArray) (pos:Nat)
def BC.get:BC->Nat->M AV
 |.fz l,j=>l[j]?.map AV.f
 |.mx l,j=>l[j]?
 |_,_=>U
def BC.len:BC->Nat
 |.fz l|.mx l=>l! l
 |_=>0
def BC.isCells:BC->Bool
 |.fz _=>J
 |.mx _=>J
 |_=>af
structure kG where
 ty:TypeId
 c:BC
abbrev HF:=Nat->M kG
def own (φ:PM) (h:HF) (k:Nat):Prop:=∃id b,h id=Z b/\φ id=Z k
def tot (E:Nat->Prop) (φ:PM) (h:HF) (k:Nat):Prop:=E k\/own φ h k
def vJ (φ:PM) (O:Nat->Prop) (w:World) (c:BC) (arr:Array Value):Prop:=
 c.len<=arr.size/\∀j x,c.get j=Z x->x.isCell=J/\∃v,arr[j]? =Z v/\co φ O w x v
abbrev n!:=Value×AV
def MpK (_:TypeId) (es:Y n!) (ents:Array MapEntry):Prop:=ents.toList.map (·.key)=es.map (·.1)
def MpV (_:TypeId) (ents:Array MapEntry) (j:Nat) (_ v:Value):Prop:=∃m,ents[j]? =Z m/\v=m.val
def im (φ:PM) (O:Nat->Prop) (w:World) (b:kG) (o:Obj):Prop:=
 match b.c with
 |.mp es=>∃ents clock,o= .map ents clock/\MpK b.ty es ents/\∀(j:Nat) x,es[j]? =Z x->∃v,MpV b.ty ents j x.1 v/\co φ O w x.2 v
 |.it s p=>o= .stringIter s p
 |c=>∃arr,o= .cells arr b.ty (0,0)/\vJ φ O w c arr
def amw (φ:PM) (O:Nat->Prop) (w:World) (k:Nat) (b:kG):Prop:=∃o,w.heap[k]? =Z o/\im φ O w b o
variable {N:kG}
def amw.cells (h:amw V O w i N) (A:N.c.isCells=J):
 ∃arr,w.heap[i]? =Z (.cells arr N.ty (0,0))/\vJ V O w N.c arr:=by
 let⟨o,h1,z⟩:=h;unfold im at z;cases D:N.c with
 |fz l|mx l=>rw[D]at z;obtain⟨arr,rfl,L⟩:=z;exact⟨arr,h1,L⟩
 |_=>rw[D]at A;cases A
def im.mono {φ':PM} {O':Nat->Prop} {w':World} (hk:∀x v,co V O w x v->co φ' O' w' x v) {o:Obj} (h:im V O w N o):im φ' O' w' N o:=by
 unfold im at h ⊢;cases L:N.c with
 |mp es=>rw[L]at h;let⟨e,c,h1,D,A⟩:=h;exact⟨e,c,h1,D,λj x z=>by let⟨m,a,N⟩:=A j x z;exact⟨m,a,hk _ _ N⟩⟩
 |it s p=>rw[L]at h;exact h
 |_=>rw[L]at h;let⟨arr,h1,D,A⟩:=h;exact⟨arr,h1,D,λj x z=>by let⟨a,v,c,d⟩:=A j x z;exact⟨a,v,c,hk _ _ d⟩⟩
def vJ.mono {φ':PM} {O':Nat->Prop} {w':World} (A:∀x v,co V O w x v->co φ' O' w' x v) {c:BC} {arr:Array Value} (h:vJ V O w c arr):vJ φ' O' w' c arr:=
 ⟨h.1,λj x z=>by let⟨a,v,c,d⟩:=h.2 j x z;exact⟨a,v,c,A _ _ d⟩⟩
def xc (l:ζ):FV:=.raw (.string ⟨l.toArray⟩)
def Gp:Y FV:=[xc [118,97,114],xc [118,111,108,97,116,105,108,101],xc [109,117,116,101,120],xc [114,119,108,111,99,107],xc [99,111,110,100],xc [102,117,116,117,114,101],xc [116,104,114,101,97,100],xc [105,102],xc [101,108,115,101],xc [119,104,105,108,101],xc [108,111,99,107],xc [114,101,97,100],xc [119,114,105,116,101],xc [116,114,97,110,115,97,99,116,105,111,110],xc [97,116,111,109,105,99],xc [119,97,105,116],xc [110,111,116,105,102,121],xc [110,111,116,105,102,121,97,108,108],xc [115,112,97,119,110],xc [106,111,105,110],xc [115,101,116],xc [103,101,116]]
def G (g:Nat):M (Y FV):=if g==0 then Z Gp else U
structure sC (φ:PM) (E:Nat->Prop) (h:HF) (w:World):Prop where
 inj:∀i j b b' k,h i=Z b->h j=Z b'->φ i=Z k->φ j=Z k->i=j
 at_:∀i b,h i=Z b->∃k,φ i=Z k/\¬E k/\amw φ (tot E φ h) w k b
 el:∀k,E k->k<w.heap.size
 gl:∀g cells,G g=Z cells->ny (tot E φ h) w (.P cells 0) (.pointer (Z ⟨g,0,U⟩))
structure kj (φ φ':PM) (h h':HF) (w w':World):Prop where
 sub:∀i k,φ i=Z k->φ' i=Z k
 ext:H4 (own φ h) w w'
 ql:∀k,k<w.heap.size->own φ' h' k->own φ h k
def kj.refl (φ:PM) (h:HF) (w:World):kj φ φ h h w w:=⟨λ_ _ h=>h,H4.refl _ _,λ_ _ h=>h⟩
variable {S:HF}
def kj.trans {φ' φ'':PM} {h' h'':HF} {w' w'':World} (m:kj V φ' S h' w w') (n:kj φ' φ'' h' h'' w' w''):kj V φ'' S h'' w w'' where
 sub:=λi k e=>n.sub i k (m.sub i k e)
 ext:=⟨n.ext.os.trans m.ext.os,n.ext.tape.trans m.ext.tape,n.ext.output.trans m.ext.output,c9 m.ext.size n.ext.size,
  λk z A=>(n.ext.jp k (dD z m.ext.size) (λS=>A (m.ql k z S))).trans (m.ext.jp k z A),
  λk z=>(n.ext.xz k (dD z m.ext.size)).trans (m.ext.xz k z)⟩
 ql:=λk z S=>m.ql k z (n.ql k (dD z m.ext.size) S)
def H4.mono {O':Nat->Prop} {w':World} (h:H4 O w w') (z:∀k,O k->O' k):H4 O' w w':=
 ⟨h.os,h.tape,h.output,h.size,λk A D=>h.jp k A (λx=>D (z k x)),h.xz⟩
def kj.zw {φ':PM} {h':HF} {w':World} (m:kj V φ' S h' w w') (r:co V (tot O V S) w y v):co φ' (tot O φ' h') w' y v:=
 r.ext m.sub (m.ext.mono λ_ S=>.inr S) λk A z=>z.elim .inl λo=>.inr (m.ql k A o)
def kj.keepF {φ':PM} {h':HF} {w':World} (m:kj V φ' S h' w w') {x:FV} (r:ny (tot O V S) w x v):ny (tot O φ' h') w' x v:=
 r.ext (m.ext.mono λ_ S=>.inr S) λk A z=>z.elim .inl λo=>.inr (m.ql k A o)
abbrev EF:=Nat->M AV
def Sh (φ:PM) (O:Nat->Prop) (w:World) (e:EF) (a:Act):Prop:=∀t x,e t=Z x->co φ O w x (a.tmps.getD t undef)
def PR (e:EF) (dst:M Nat) (x:AV):EF:=λt=>if dst=Z t then Z x else e t
def fy (h:HF) (z:ι) (A:HF):HF:=λi=>if i∈z then A i else h i
structure EJ where
 val:AV
 rd:ι
 wr:ι
 nw:HF
 N:ι
def gE (P:Program) (o:Oper) (e:EF) (h:HF) (f:EJ):Prop:=
 ∀(φ:PM) (E:Nat->Prop) (h':HF) (w:World) (a:Act),(∀i∈f.rd,h' i=h i)->(∀i∈f.wr,h' i=h i)->
  (∀t,.tmp t∈o.op.operands->∀y,e t=Z y->co φ (tot E φ h') w y (a.tmps.getD t undef))->sC φ E h' w->(∀n∈f.N,φ n=U)->
  o.wp P a w (λz w'=>∃v φ',z=a.put o.dst v/\kj φ φ' h' (fy h' f.wr f.nw) w w'/\(∀i k,φ' i=Z k->φ i=Z k\/i∈f.N)/\
   sC φ' E (fy h' f.wr f.nw) w'/\co φ' (tot E φ' (fy h' f.wr f.nw)) w' f.val v) (λ_ _ _=>False)
def tQ:EJ:=⟨.f (.raw undef),[],[],λ_=>U,[]⟩
inductive Pe (P:Program) (ops:Array Oper) (o:Oper) (f:EJ) (e:EF) (h:HF):Prop
 |run (hg:o.guard=U) (ht:gE P o e h f)
 |runG (j t:Nat) (want:Bool) (hg:o.guard=Z (j,want)) (hj:(ops[j]?).bind (·.dst)=Z t) (he:e t=Z (.f (.raw (.bool want)))) (ht:gE P o e h f)
 |skip (j t:Nat) (want:Bool) (hg:o.guard=Z (j,want)) (hj:(ops[j]?).bind (·.dst)=Z t) (v:Value) (he:e t=Z (.f (.raw v))) (hv:v≠ .bool want) (hf:f=tQ)
inductive Da (P:Program) (ops:Array Oper):List (Oper×EJ)->EF->HF->EF->HF->Prop
 |nil (e:EF) (h:HF):Da P ops [] e h e h
 |cons {o:Oper} {f:EJ} {r:List (Oper×EJ)} {e e':EF} {h h':HF} (hs:Pe P ops o f e h)
   (hr:Da P ops r (PR e o.dst f.val) (fy h f.wr f.nw) e' h'):Da P ops ((o,f)::r) e h e' h'
abbrev w!:=Oper×EJ
def Q9 (S:Nat->Bool):Nat->Y w!->EF->EF
 |_,[],e=>e
 |k,(o,f)::r,e=>Q9 S (k+1) r (if S k then PR e o.dst f.val else e)
def H3 (S:Nat->Bool):Nat->Y w!->HF->HF
 |_,[],h=>h
 |k,(_,f)::r,h=>H3 S (k+1) r (if S k then fy h f.wr f.nw else h)
variable {p:Nat->Bool}
def H8 {S':Nat->Bool} :∀(l:Y w!) (k:Nat) (e e':EF),e i=e' i->
 (∀(j:Nat) o f,l[j]? =Z (o,f)->o.dst=Z i->p (k+j)=S' (k+j))->Q9 p k l e i=Q9 S' k l e' i
 |[],_,_,_,he,_=>he
 |(o,f)::r,k,e,e',he,z=>by
  refine H8 r (k+1) _ _ ?_ (λj o f A hd=>by have:=z (j+1) o f (by grind) hd;rwa [show k+(j+1)=k+1+j from by omega]at this);by_cases hd:o.dst=Z i
  .rw[show p k=S' k from by simpa using z 0 o f rfl hd];split
   .simp[PR,hd]
   .exact he
  .split<;>split<;>simp[PR,hd,he]
def H7 {S':Nat->Bool} :∀(l:Y w!) (k:Nat) (e e':HF),e i=e' i->
 (∀(j:Nat) o f,l[j]? =Z (o,f)->i∈f.wr->p (k+j)=S' (k+j))->H3 p k l e i=H3 S' k l e' i
 |[],_,_,_,he,_=>he
 |(o,f)::r,k,e,e',he,z=>by
  refine H7 r (k+1) _ _ ?_ (λj o f A hd=>by have:=z (j+1) o f (by grind) hd;rwa [show k+(j+1)=k+1+j from by omega]at this);by_cases hd:i∈f.wr
  .rw[show p k=S' k from by simpa using z 0 o f rfl hd];split
   .simp[fy,hd]
   .exact he
  .split<;>split<;>simp[fy,hd,he]
def FW :∀(l:Y w!) (k:Nat) (e:EF),(∀(j:Nat) o f,l[j]? =Z (o,f)->o.dst=Z i->p (k+j)=af)->Q9 p k l e i=e i
 |[],_,_,_=>rfl
 |(o,f)::r,k,e,z=>by
  simp[Q9];rw[FW r (k+1) _ (λj o f A hd=>by have:=z (j+1) o f (by grind) hd;rwa [show k+(j+1)=k+1+j from by omega]at this)];split
  next h=>unfold PR;rw[av];intro hd;have:=z 0 o f rfl hd;simp_all
  .rfl
def FU :∀(l:Y w!) (k:Nat) (e:HF),(∀(j:Nat) o f,l[j]? =Z (o,f)->i∈f.wr->p (k+j)=af)->H3 p k l e i=e i
 |[],_,_,_=>rfl
 |(o,f)::r,k,e,z=>by
  simp[H3];rw[FU r (k+1) _ (λj o f A hd=>by have:=z (j+1) o f (by grind) hd;rwa [show k+(j+1)=k+1+j from by omega]at this)];split
  next h=>unfold fy;rw[av];intro hd;have:=z 0 o f rfl hd;simp_all
  .rfl
def U5 :∀(l:Y w!) (k t:Nat) (e:EF) (o:Oper) (f:EJ),l[t]? =Z (o,f)->o.dst=Z i->p (k+t)=J->
 (∀(j:Nat) z L,t<j->l[j]? =Z (z,L)->z.dst=Z i->p (k+j)=af)->Q9 p k l e i=Z f.val
 |[],_,_,_,_,_,h,_,_,_=>by simp at h
 |(z,L)::r,k,0,e,o,f,h,hd,D,A=>by
  obtain⟨rfl,rfl⟩:=h;simp[Q9];rw[FW r (k+1) _ (λj o f hj hd=>by have:=A (j+1) o f (by omega) (by grind) hd;rwa [show k+(j+1)=k+1+j from by omega]at this)];simp at D;simp[D,PR,hd]
 |(z,L)::r,k,t+1,e,o,f,h,hd,D,A=>by
  exact U5 r (k+1) t _ o f (by grind) hd (by grind)
   (λj o f hij hj hd=>by have:=A (j+1) o f (by omega) (by grind) hd;rwa [show k+(j+1)=k+1+j from by omega]at this)
def U4 :∀(l:Y w!) (k t:Nat) (e:HF) (o:Oper) (f:EJ),l[t]? =Z (o,f)->i∈f.wr->p (k+t)=J->
 (∀(j:Nat) A z,t<j->l[j]? =Z (A,z)->i∈z.wr->p (k+j)=af)->H3 p k l e i=f.nw i
 |[],_,_,_,_,_,h,_,_,_=>by simp at h
 |(A,z)::r,k,0,e,o,f,h,hd,L,D=>by
  obtain⟨rfl,rfl⟩:=h;simp[H3];rw[FU r (k+1) _ (λj o f hj hd=>by have:=D (j+1) o f (by omega) (by grind) hd;rwa [show k+(j+1)=k+1+j from by omega]at this)];simp at L;simp[L,fy,hd]
 |(A,z)::r,k,t+1,e,o,f,h,hd,L,D=>by
  exact U4 r (k+1) t _ o f (by grind) hd (by grind)
   (λj o f hij hj hd=>by have:=D (j+1) o f (by omega) (by grind) hd;rwa [show k+(j+1)=k+1+j from by omega]at this)
variable {T:Program} {B:Array Oper}
def Da.step :∀{l:Y w!} {e e':EF} {h h':HF} (_:Da T B l e h e' h') (k i:Nat) (o:Oper) (f:EJ),l[i]? =Z (o,f)->
 Pe T B o f (Q9 (λj=>decide (j<k+i)) k l e) (H3 (λj=>decide (j<k+i)) k l h):=by
 intro l e e' h h' hc;induction hc with
 |nil=>intro k i o f hi;simp at hi
 |@cons z A r e e' h h' L hr D=>
  intro k i o f hi;cases i with
  |zero=>
   obtain⟨rfl,rfl⟩:=hi;have e1:Q9 (λj=>decide (j<k+0)) k ((z,A)::r) e=e:=by
    funext t;rw[FW];simp
   have e2:H3 (λj=>decide (j<k+0)) k ((z,A)::r) h=h:=by
    funext t;rw[FU];simp
   rw[e1,e2];exact L
  |succ i=>
   have:=D (k+1) i o f (by grind);simp[Q9,H3]
   grind
def Da.final :∀{l:Y w!} {e e':EF} {h h':HF} (_:Da T B l e h e' h') (k:Nat) (S:Nat->Bool),(∀j,j<l! l->S (k+j)=J)->
 Q9 S k l e=e'/\H3 S k l h=h':=by
 intro l e e' h h' D;induction D with
 |nil=>intro k S _;exact⟨rfl,rfl⟩
 |@cons L f1 r e e' h h' hs hr A=>
  intro k S z;have h0:S k=J:=by simpa using z 0 (by simp)
  simp[Q9,H3,h0,bk];exact A (k+1) S (λj hj=>by have:=z (j+1) (by grind);rwa [show k+(j+1)=k+1+j from by omega]at this)
variable {z:Act} {d:Exit->Act->World->Prop}
def UV {o:Oper} {K K':Act->World->Prop} (h:∀z w,K z w->K' z w)
 (hh:o.wp T z w K (λ_ _ _=>False)):o.wp T z w K' d:=by
 unfold LB at*
 generalize (execOp z.eval o).run T w=r at*
 cases r with
 |ok n w'=>
  cases n<;>simp[Oper.upon]at hh ⊢<;>
   first
    |exact h _ _ hh
    |exact Calls.mono hh (λe w'' he=>by
      cases e with
      |returned v=>exact h _ _ he
      |panicked c=>exact he.elim
      |outgrown=>let⟨_,_,h⟩:=he;exact h.elim)
    |exact Rows.mono hh (λ_ _ he=>h _ _ he)
 |halt x w'=>cases x<;>simp[Oper.upon]at hh ⊢<;>first|exact hh.elim|exact hh
inductive Bef (ops:Array Oper):Nat->Nat->Prop
 |one {j:Nat} {o:Oper} {e:Edge} (h:ops[j]? =Z o) (he:e∈o.after) (hb:Db .any e=J):Bef ops j e.on
 |more {j i:Nat} {o:Oper} {e:Edge} (h:ops[j]? =Z o) (he:e∈o.after) (hb:Db .any e=J) (hi:Bef ops e.on i):Bef ops j i
structure NIP (ops:Array Oper) (l:List (Oper×EJ)):Prop where
 edge:∀(j:Nat) o,ops[j]? =Z o->∀e∈o.after,Db .any e=J->e.on<j
 pair:∀(i j:Nat) oi fi oj fj,i<j->l[i]? =Z (oi,fi)->l[j]? =Z (oj,fj)->Bef ops j i\/
  (oi.apart ops oj=J/\(∀x∈fi.wr,x∉fj.rd/\x∉fj.wr)/\(∀x∈fj.wr,x∉fi.rd))
 names:∀(i j:Nat) oi fi oj fj,i<j->l[i]? =Z (oi,fi)->l[j]? =Z (oj,fj)->∀n∈fi.N,n∉fj.N
def Jl (ops:Array Oper) (listed:Array Bool):Prop:=∀(j:Nat) o,ops[j]? =Z o->listed.getD j af=J->∀e∈o.after,Db .any e=J->listed.getD e.on af=J
variable {j:Nat}
def Jl.bef {listed:Array Bool} (D:Jl B listed) (h:Bef B j i):listed.getD j af=J->listed.getD i af=J:=by
 induction h with
 |one h he A=>intro z;exact D _ _ h z _ he A
 |more h he A hi L=>intro z;exact L (D _ _ h z _ he A)
def aeq {listed:Array Bool} (L:Jl B listed) {o:Oper} (z:B[j]? =Z o) (D:∀e∈o.after,Db .any e=J->listed.getD e.on af=J) (h:Bef B j i):listed.getD i af=J:=by
 cases h with
 |one h he A=>rw[h]at z;cases z;exact D _ he A
 |more h he A hi=>rw[h]at z;cases z;exact L.bef hi (D _ he A)
def BB {listed:Array Bool} (h:listed.getD j J=af):listed.getD j af=af/\j<listed.size:=by grind
def StP (φ0:PM) (E:Nat->Prop) (e0:EF) (h0:HF) (w0:World) (z:Act) (l:Y w!) (S:Nat->Bool) (a:Act) (w:World):Prop:=
 ∃φ,kj φ0 φ h0 (H3 S 0 l h0) w0 w/\(∀i k,φ i=Z k->φ0 i=Z k\/∃(j:Nat) (o:Oper) (f:EJ),S j=J/\l[j]? =Z (o,f)/\i∈f.N)/\
  sC φ E (H3 S 0 l h0) w/\Sh φ (tot E φ (H3 S 0 l h0)) w (Q9 S 0 l e0) a/\a.defers=z.defers/\a.tmps.size=z.tmps.size
def Vx {dst:M Tmp} (hd:∀d,dst=Z d->d<z.tmps.size):(z.put dst v).tmps.getD i undef=if dst=Z i then v else z.tmps.getD i undef:=by
 cases dst with
 |none=>simp[Sp]
 |some d=>
  by_cases h:d=i
  .subst h;simp[Sp,hd d rfl]
  .simp[Sp,h,Array.getElem?_setIfInBounds_ne h]
def Vw {dst:M Tmp} :(z.put dst v).tmps.size=z.tmps.size:=by cases dst<;>simp[Sp]
def Mp {dst:M Tmp} :(z.put dst v).defers=z.defers:=by cases dst<;>rfl
def aj1 {l:Y w!} {e0 e':EF} {h':HF} {w0:World} 
 (hl:l.map (·.1)=B.toList) (hc:Da T B l e0 S e' h') (ni:NIP B l) (hfr:∀(j:Nat) o f,l[j]? =Z (o,f)->∀n∈f.N,V n=U)
 (hsz:∀(j:Nat) o,B[j]? =Z o->∀Q,o.dst=Z Q->Q<z.tmps.size) {listed:Array Bool} (hcl:Jl B listed) (hi:i∈LA .any B listed) {K:Act->World->Prop}
 (hK:∀a w,StP V O e0 S w0 z l (λj=>(listed.setIfInBounds i J).getD j af) a w->K a w) {a:Act} (hst:StP V O e0 S w0 z l (λj=>listed.getD j af) a w):
 wpOp T B d i K a w:=by
 let⟨hun,o,ho,hdeps⟩:=mem_ready.1 hi;let⟨hnf,hlt⟩:=BB hun;have hln:∀(j:Nat) o',B[j]? =Z o'->∃f,l[j]? =Z (o',f):=λj o' h=>by
  have h1:(l.map (·.1))[j]? =Z o':=by rw[hl];simpa using h
  rw[bB]at h1;cases A:l[j]? with
  |none=>rw[A]at h1;cases h1
  |some p=>rw[A]at h1;let⟨a,b⟩:=p;simp at h1;subst h1;exact⟨b,rfl⟩
 have hnl:∀(j:Nat) o' f,l[j]? =Z (o',f)->B[j]? =Z o':=λj o' f h=>by
  have h1:(l.map (·.1))[j]? =Z o':=by rw[bB,h];rfl
  rw[hl]at h1;simpa using h1
 let⟨f,hf⟩:=hln i o ho;have hord:∀(j:Nat) L D,j≠i->l[j]? =Z (L,D)->(listed.getD j af=decide (j<i))\/
  (o.apart B L=J\/L.apart B o=J)/\(∀x∈f.wr,x∉D.rd/\x∉D.wr)/\(∀x∈D.wr,x∉f.rd/\x∉f.wr):=by
  intro j L D hji A;rcases cF j i with h|h
  .rcases ni.pair j i L D o f h A hf with hb|⟨h1,h2,h3⟩
   .left;rw[aeq hcl ho hdeps hb];simp[h]
   .right;exact⟨.inr h1,λx hx=>⟨h3 x hx,λhx'=>(h2 x hx').2 hx⟩,λx hx=>h2 x hx⟩
  .have h:i<j:=by omega
   rcases ni.pair i j o f L D h hf A with hb|⟨h1,h2,h3⟩
   .left;have:listed.getD j af=af:=by
     cases hx:listed.getD j af with
     |false=>rfl
     |true=>have:=hcl.bef hb hx;rw[hnf]at this;cases this
    rw[this];simp;omega
   .right;exact⟨.inl h1,λx hx=>h2 x hx,λx hx=>⟨h3 x hx,λhx'=>(h2 x hx').2 hx⟩⟩
 have hS':∀j,(listed.setIfInBounds i J).getD j af=if j=i then J else listed.getD j af:=λj=>by
  by_cases h:i=j
  .subst h;simp[hlt]
  .rw[getD_set_ne af h,av (λe=>h e.symm)]
 have hlater:∀(j:Nat) L D,i<j->l[j]? =Z (L,D)->(listed.getD j af=af)\/((o.apart B L=J\/L.apart B o=J)/\(∀x∈f.wr,x∉D.rd/\x∉D.wr)):=by
  intro j L D hij A;rcases hord j L D (by omega) A with h|⟨h1,h2,_⟩
  .left;rw[h];simp;omega
  .right;exact⟨h1,h2⟩
 have hdd:∀{x y:Oper},(x.apart B y=J\/y.apart B x=J)->∀Q,x.dst=Z Q->y.dst≠Z Q:=by
  intro x y h Q hd he;rcases h with h|h
  .exact (Oper.apart_spec h).2.1 Q hd he
  .exact (Oper.apart_spec h).2.1 Q he hd
 have hlook:∀{x y:Oper},(x.apart B y=J\/y.apart B x=J)->∀Q,y.dst=Z Q->Q∉x.looksAt B:=by
  intro x y h Q hd;rcases h with h|h
  .exact (Oper.apart_spec h).2.2 Q hd
  .exact (Oper.apart_spec h).1 Q hd
 have heL:∀t,t∈o.looksAt B->Q9 (λj=>listed.getD j af) 0 l e0 t=Q9 (λj=>decide (j<0+i)) 0 l e0 t:=λt ht=>by
  refine H8 l 0 e0 e0 rfl λj L D A hd=>?_
  simp only[bX];by_cases hji:j=i
  .subst hji;rw[hnf];simp
  .rcases hord j L D hji A with h|⟨h,_⟩
   .exact h
   .exact cu ht (hlook h t hd)
 have hhL:∀t,t∈f.rd\/t∈f.wr->H3 (λj=>listed.getD j af) 0 l S t=H3 (λj=>decide (j<0+i)) 0 l S t:=λt ht=>by
  refine H7 l 0 S S rfl λj L D A hd=>?_
  simp only[bX];by_cases hji:j=i
  .subst hji;rw[hnf];simp
  .rcases hord j L D hji A with h|⟨_,_,h⟩
   .exact h
   .rcases ht with ht|ht
    .exact cu ht (h t hd).1
    .exact cu ht (h t hd).2
 have hE':∀t,Q9 (λj=>(listed.setIfInBounds i J).getD j af) 0 l e0 t=if o.dst=Z t then Z f.val else Q9 (λj=>listed.getD j af) 0 l e0 t:=λt=>by
  by_cases hd:o.dst=Z t
  .rw[aD hd];refine U5 l 0 i e0 o f hf hd (by simp[hS']) λj o' f' hij A hd'=>?_
   simp only[bX,hS',av (show ¬j=i by omega)];rcases hlater j o' f' hij A with h|⟨h,_⟩
   .exact h
   .exact cu hd' (hdd h t hd)
  .rw[av hd];refine H8 l 0 e0 e0 rfl λj L D A hd'=>?_
   simp only[bX,hS'];rw[av];intro hji;subst hji;rw[hf]at A;cases A;exact hd hd'
 have hH':H3 (λj=>(listed.setIfInBounds i J).getD j af) 0 l S=fy (H3 (λj=>listed.getD j af) 0 l S) f.wr f.nw:=by
  funext t;unfold fy;by_cases hd:t∈f.wr
  .rw[aD hd];refine U4 l 0 i S o f hf hd (by simp[hS']) λj o' f' hij A hd'=>?_
   simp only[bX,hS',av (show ¬j=i by omega)];rcases hlater j o' f' hij A with h|⟨_,h⟩
   .exact h
   .exact cu hd' (h t hd).2
  .rw[av hd];refine H7 l 0 S S rfl λj L D A hd'=>?_
   simp only[bX,hS'];rw[av];intro hji;subst hji;rw[hf]at A;cases A;exact hd hd'
 let⟨φ,hm,hdom,hrep,henv,hdef,hsize⟩:=hst;have hfrN:∀n∈f.N,φ n=U:=λn hn=>by
  cases hx:φ n with
  |none=>rfl
  |some k=>
   rcases hdom n k hx with h|⟨j,L,D,hSj,A,hnj⟩
   .rw[hfr i o f hf n hn]at h;cases h
   .have hji:j≠i:=by intro h;subst h;exact cu hSj (by simp only[hnf];simp)
    rcases cF j i with h|h
    .exact cu hn (ni.names j i L D o f h A hf n hnj)
    .exact cu hnj (ni.names i j o f L D (by omega) hf A n hn)
 have hdsz:∀Q,o.dst=Z Q->Q<a.tmps.size:=λQ hd=>by rw[hsize];exact hsz i o ho Q hd
 have main:∀(v:Value) (φ':PM) (w':World),kj φ φ' (H3 (λj=>listed.getD j af) 0 l S) (fy (H3 (λj=>listed.getD j af) 0 l S) f.wr f.nw) w w'->
  (∀i k,φ' i=Z k->φ i=Z k\/i∈f.N)->sC φ' O (fy (H3 (λj=>listed.getD j af) 0 l S) f.wr f.nw) w'->
  co φ' (tot O φ' (fy (H3 (λj=>listed.getD j af) 0 l S) f.wr f.nw)) w' f.val v->K (a.put o.dst v) w':=by
  intro v φ' w' m1 d1 r1 v1;refine hK _ _ ⟨φ',?_,?_,?_,?_,?_,?_⟩
  .rw[hH'];exact hm.trans m1
  .grind
  .rw[hH'];exact r1
  .rw[hH'];intro t x hx;rw[hE' t]at hx;rw[Vx hdsz];by_cases hd:o.dst=Z t
   .rw[aD hd]at hx ⊢;cases hx;exact v1
   .rw[av hd]at hx ⊢;exact m1.zw (henv t x hx)
  .rw[Mp];exact hdef
  .rw[Vw];exact hsize
 have hstep:=hc.step 0 i o f hf;have hrun:gE T o (Q9 (λj=>decide (j<0+i)) 0 l e0) (H3 (λj=>decide (j<0+i)) 0 l S) f->o.wp T a w K d:=by
  intro ht;refine UV ?_ (ht φ O (H3 (λj=>listed.getD j af) 0 l S) w a (λt h=>hhL t (.inl h)) (λt h=>hhL t (.inr h)) ?_ hrep hfrN)
  .rintro a' w' ⟨v,φ',rfl,m1,d1,r1,v1⟩;exact main v φ' w' m1 d1 r1 v1
  .intro t ht' y hy;refine henv t y ?_;rw[heL t (iu _ (List.mem_filterMap.2 ⟨.tmp t,by simpa using ht',rfl⟩))];exact hy
 have hyield:∀(j t:Nat) (want b:Bool),o.guard=Z (j,want)->(B[j]?).bind (·.dst)=Z t->Q9 (λj=>decide (j<0+i)) 0 l e0 t=Z (.f (.raw (.bool b)))->jM o (yielded B a.tmps)=(b==want):=by
  intro j t want b hg A he;rw[<- heL t (u_ _ (by rw[hg];simp[A]))]at he;have h1:=henv t _ he;have h2:a.tmps.getD t undef= .bool b:=by
   generalize hz:a.tmps.getD t undef=a0 at h1;cases h1 with
   |f h=>cases h;rfl
  have h3:a.tmps[t]? =Z (.bool b):=by
   rw[ko]at h2;cases hz:a.tmps[t]? with
   |none=>rw[hz]at h2;simp[undef]at h2
   |some a0=>rw[hz]at h2;simp at h2;rw[h2]
  unfold jM yielded;rw[hg];simp[A,h3]
 unfold wpOp;simp only[ho];cases hstep with
 |run hg ht=>
  rw[aD (by unfold jM;rw[hg])];exact .inl (hrun ht)
 |runG j t want hg A he ht=>
  rw[aD (by rw[hyield j t want want hg A he];simp)];exact .inl (hrun ht)
 |skip j t want hg A v he hv hf'=>
  have hnw:jM o (yielded B a.tmps)=af:=by
   rw[<- heL t (u_ _ (by rw[hg];simp[A]))]at he;have h1:=henv t _ he;have h2:a.tmps.getD t undef=v:=by
    generalize a.tmps.getD t undef=a0 at h1;cases h1 with
    |f h=>cases h;rfl
   unfold jM yielded;rw[hg];simp only[A,aF];rw[ko]at h2;cases hz:a.tmps[t]? with
   |none=>simp
   |some a0=>
    rw[hz]at h2;simp at h2;subst h2;cases a0<;>simp at hv ⊢;exact hv
  rw[av (by rw[hnw];simp)];subst hf';have hu:fy (H3 (λj=>listed.getD j af) 0 l S) tQ.wr tQ.nw=H3 (λj=>listed.getD j af) 0 l S:=by
   funext t;simp[fy,tQ]
  refine main undef φ w ?_ (λ_ _ h=>.inl h) ?_ ?_
  .rw[hu];exact kj.refl _ _ _
  .rw[hu];exact hrep
  .exact .f (.raw _)
def UE {l:θ} (h:l! l<=l.countP id):∀(j:Nat),j<l! l->l[j]? =Z J:=by
 have h1:l.countP id=l! l:=Nat.le_antisymm List.countP_le_length h;rw[List.countP_eq_length]at h1
 grind
def ab1 {l:Y w!} (z:NIP B l) {listed:Array Bool} (hs:listed.size=B.size) (A:LA .any B listed=[]):
 ∀(n j:Nat),j<n->j<B.size->listed.getD j af=J:=by
 intro n;induction n with
 |zero=>intro j h;omega
 |succ n L=>
  intro j hj hjs;cases hx:listed.getD j af with
  |true=>rfl
  |false=>
   have hmem:j∈LA .any B listed:=by
    refine mem_ready.2 ⟨?_,B[j],pI hjs,λe he D=>?_⟩
    .grind
    .have h1:=z.edge j _ (pI hjs) e he D
     grind
   rw[A]at hmem;cases hmem
def Sa {l:Y w!} {e0 e':EF} {h':HF} {E:Nat->Prop} {w0:World} 
 (hl:l.map (·.1)=B.toList) (L:Da T B l e0 S e' h') (ni:NIP B l) (hfr:∀(j:Nat) o f,l[j]? =Z (o,f)->∀n∈f.N,V n=U)
 (hsz:∀(j:Nat) o,B[j]? =Z o->∀Q,o.dst=Z Q->Q<z.tmps.size) 
 (hQ:∀a w,StP V E e0 S w0 z l (λ_=>J) a w->d .normal a w):
 ∀(fuel:Nat) (listed:Array Bool) (a:Act) (w:World),listed.size=B.size->Jl B listed->B.size<=fuel+listed.toList.countP id->
  StP V E e0 S w0 z l (λj=>listed.getD j af) a w->wpAny T .any B d fuel listed a w:=by
 have hlen:l! l=B.size:=by have:=eR aj hl;simpa using this
 have fin:∀(listed:Array Bool) (a:Act) (w:World),(∀j,j<B.size->listed.getD j af=J)->StP V E e0 S w0 z l (λj=>listed.getD j af) a w->d .normal a w:=by
  intro listed a w hall hst;refine hQ a w ?_;have h1:=L.final 0 (λj=>listed.getD j af) (λj A=>by simp only[bX];exact hall j (by omega));have h2:=L.final 0 (λ_=>J) (λ_ _=>rfl);unfold StP at hst ⊢
  grind
 intro fuel;induction fuel with
 |zero=>
  intro listed a w D hcl hcnt hst;have hall:∀j,j<B.size->listed.getD j af=J:=λj A=>by
   have:=UE (l:=listed.toList) (by grind) j (by grind);simp_all
  refine ⟨?_,fin listed a w hall hst⟩;cases hr:LA .any B listed with
  |nil=>rfl
  |cons i r=>
   have hi:i∈LA .any B listed:=by grind
   let⟨hun,o,ho,_⟩:=mem_ready.1 hi
   grind
 |succ fuel ih=>
  intro listed a w D hcl hcnt hst;refine ⟨λhr=>fin listed a w (λj A=>ab1 ni D hr (j+1) j (by omega) A) hst,λi hi=>?_⟩;let⟨hun,o,ho,hdeps⟩:=mem_ready.1 hi;let⟨hnf,hlt⟩:=BB hun;refine aj1 hl L ni hfr hsz hcl hi (λa' w' h=>ih _ a' w' ?_ ?_ ?_ h) hst
  .simpa using D
  .intro j oj hoj A e he hb;by_cases hji:i=j
   .subst hji;rw[ho]at hoj;cases hoj;exact getD_set_true (hdeps e he hb)
   .rw[getD_set_ne af hji]at A;exact getD_set_true (hcl j oj hoj A e he hb)
  .have h1:listed.toList[i]? =Z af:=by
    simp_all
   grind
def aAf (φ0:PM) (E:Nat->Prop) (e':EF) (h0 h':HF) (N:ι) (w0:World) (z:Act) (a:Act) (w:World):Prop:=
 ∃φ,kj φ0 φ h0 h' w0 w/\(∀i k,φ i=Z k->φ0 i=Z k\/i∈N)/\sC φ E h' w/\Sh φ (tot E φ h') w e' a/\a.defers=z.defers/\a.tmps.size=z.tmps.size
def kj.drew (w:World):kj V V S S w {w with drawn:=w.drawn+1}:=
 ⟨λ_ _ S=>S,⟨rfl,rfl,rfl,bK _,λ_ _ _=>rfl,λ_ _=>rfl⟩,λ_ _ S=>S⟩
def sC.moved {w':World} (r:sC V O S w) (m:kj V V S S w w') (z:∀k,own V S k->w'.heap[k]? =w.heap[k]?):sC V O S w':=
 ⟨r.inj,λi b A=>by
   let⟨k,h1,h2,o,h3,L⟩:=r.at_ i b A;exact⟨k,h1,h2,o,by rw[z k ⟨i,b,A,h1⟩];exact h3,L.mono λ_ _ S=>m.zw S⟩,λk z=>dD (r.el k z) m.ext.size,
   λg cells D=>m.keepF (r.gl g cells D)⟩
variable {b:Bool}
def Vs {l:Y w!} {e0 e':EF} {h':HF} {φ0:PM} {E:Nat->Prop} 
 (hm:T.follows .mixedOrders=J) (hl:l.map (·.1)=B.toList) (hc:Da T B l e0 S e' h') (L:NIP B l) (hfr:∀n∈l.flatMap (λp=>p.2.N),φ0 n=U)
 (hsz:∀(j:Nat) o,B[j]? =Z o->∀Q,o.dst=Z Q->Q<z.tmps.size) (hrep:sC φ0 E S w) (henv:Sh φ0 (tot E φ0 S) w e0 z) 
 (hQ:∀a w0,aAf φ0 E e' S h' (l.flatMap (λp=>p.2.N)) w z a w0->d .normal a w0):(Code.region i B b).wp T d z w:=by
 have hfr':∀(j:Nat) o f,l[j]? =Z (o,f)->∀n∈f.N,φ0 n=U:=λj o f A n hn=>hfr n (xp.2 ⟨(o,f),a8 A,hn⟩)
 have fin:∀a w0,StP φ0 E e0 S w z l (λ_=>J) a w0->d .normal a w0:=by
  rintro a w0 ⟨φ,m,Q,r,en,df,sz⟩;have D:=hc.final 0 (λ_=>J) (λ_ _=>rfl);rw[D.2]at m r en;rw[D.1]at en;refine hQ a w0 ⟨φ,m,λid k h=>?_,r,en,df,sz⟩
  grind
 have st0:∀(w0:World),kj φ0 φ0 S S w w0->sC φ0 E S w0->StP φ0 E e0 S w z l (λj=>(uH B.size af).getD j af) z w0:=by
  intro w0 m r;have e1:(λj=>(uH B.size af).getD j af)=λ_=>af:=by
   funext j;rw[ko,Array.getElem?_replicate];split<;>rfl
  rw[e1];have e2:Q9 (λ_=>af) 0 l e0=e0:=by funext t;rw[FW];intros;rfl
  have e3:H3 (λ_=>af) 0 l S=S:=by funext t;rw[FU];intros;rfl
  refine ⟨φ0,by rw[e3];exact m,λ_ _ h=>.inl h,by rw[e3];exact r,?_,rfl,rfl⟩;rw[e2,e3];exact λt x hx=>m.zw (henv t x hx)
 have cl0:Jl B (uH B.size af):=by
  intro j o ho A;rw[ko,Array.getElem?_replicate]at A;split at A<;>simp at A
 cases b with
 |true=>
  refine wp_region_any hm ?_;exact Sa hl hc L hfr' hsz fin B.size _ z _ (by simp) cl0 (by omega) (st0 _ (kj.drew w) (hrep.moved (kj.drew w) λ_ _=>rfl))
 |false=>
  have hany:=Sa (E:=E) (w0:=w) hl hc L hfr' hsz fin B.size _ z w (by simp) cl0 (by omega) (st0 _ (kj.refl _ _ _) hrep);refine wp_region ?_;have key:∀(m k:Nat) (listed:Array Bool) (a:Act) (w0:World),k+m=B.size->listed.size=B.size->(∀j,j<k->listed.getD j af=J)->(∀j,k<=j->j<B.size->listed.getD j J=af)->
   wpAny T .any B d m listed a w0->wpOps T B d (List.range' k m) a w0:=by
   intro m;induction m with
   |zero=>intro k listed a w0 hk hs h1 D h;simpa[wpOps] using h.2
   |succ m ih=>
    intro k listed a w0 hk hs h1 D h;have hkr:k∈LA .any B listed:=by
     refine mem_ready.2 ⟨D k (bK _) (by omega),B[k]'(by omega),pI (by omega),λe he hb=>?_⟩;exact h1 _ (L.edge k _ (pI (by omega)) e he hb)
    refine wpOp_mono (λa' w' h'=>ih (k+1) (listed.setIfInBounds k J) a' w' (by omega) (by grind) ?_ ?_ h') (h.2 k hkr)
    .intro j A;by_cases hjk:k=j
     .subst hjk;simp[show k<listed.size by omega]
     .rw[getD_set_ne af hjk];exact h1 j (by omega)
    .intro j A hj2;rw[getD_set_ne J (by omega)];exact D j (by omega) hj2
  have:=key B.size 0 (uH B.size af) z w (by omega) (by simp) (by simp) (by
   intro j _ A;rw[ko,Array.getElem?_replicate,aD A];rfl) hany
  rwa [List.range_eq_range']
inductive PT (α:Type) where
 |leaf
 |node (v:Option α) (l r:PT α)
namespace PT
variable {α:Type}
def get:PT α->Nat->M α
 |leaf,_=>U
 |node v l r,n=>match n with
  |0=>v
  |m+1=>if ax (m%2) 0 then get l (m/2) else get r (m/2)
def SH:Nat->PT α->Nat->M α->PT α
 |0,t,_,_=>t
 |k+1,t,n,x=>match t with
  |leaf=>(match n with
   |0=>node x leaf leaf
   |m+1=>if ax (m%2) 0 then node U (SH k leaf (m/2) x) leaf else node U leaf (SH k leaf (m/2) x))
  |node v l r=>(match n with
   |0=>node x l r
   |m+1=>if ax (m%2) 0 then node v (SH k l (m/2) x) r else node v l (SH k r (m/2) x))
def set (t:PT α) (n:Nat) (x:M α):PT α:=SH (n+1) t n x
def Cy:∀(k:Nat) (t:PT α) (n:Nat) (x:M α),n<k->∀i,(SH k t n x).get i=if i=n then x else t.get i
 |0,_,_,_,h,_=>cu h (fX _)
 |k+1,t,n,x,h,i=>by
  cases n with
  |zero=>
   cases t<;>cases i<;>simp[SH,get]
  |succ m=>
   have hm:m/2<k:=by omega
   cases t with
   |leaf=>
    simp only[SH];cases L:ax (m%2) 0 with
    |true=>
     have D:m%2=0:=au L;simp[bk];cases i with
     |zero=>simp[get]
     |succ j=>
      simp only[get];cases A:ax (j%2) 0 with
      |true=>
       have z:j%2=0:=au A;simp[bk];rw[Cy k _ _ _ hm];by_cases he:j/2=m/2
       .grind
       .rw[av he,av (by omega)];rfl
      |false=>grind
    |false=>
     have D:¬m%2=0:=nZ L;simp[cL,dF];cases i with
     |zero=>simp[get]
     |succ j=>
      simp only[get];cases A:ax (j%2) 0 with
      |true=>grind
      |false=>
       have z:¬j%2=0:=nZ A;simp[cL,dF];rw[Cy k _ _ _ hm];by_cases he:j/2=m/2
       .grind
       .rw[av he,av (by omega)];rfl
   |node v l r=>
    simp only[SH];cases L:ax (m%2) 0 with
    |true=>
     have D:m%2=0:=au L;simp[bk];cases i with
     |zero=>simp[get]
     |succ j=>
      simp[get];cases A:ax (j%2) 0 with
      |true=>
       have z:j%2=0:=au A;rw[Cy k _ _ _ hm]
       grind
      |false=>grind
    |false=>
     have D:¬m%2=0:=nZ L;simp[cL,dF];cases i with
     |zero=>simp[get]
     |succ j=>
      simp[get];cases A:ax (j%2) 0 with
      |true=>grind
      |false=>
       have z:¬j%2=0:=nZ A;rw[Cy k _ _ _ hm]
       grind
def get_set (t:PT α) (n:Nat) (x:M α) (i:Nat):(t.set n x).get i=if i=n then x else t.get i:=Cy (n+1) t n x (by omega) i
variable {R:Type}
def mask :PT α->PT R->PT α
 |leaf,_|node _ _ _,leaf=>leaf
 |node v l r,node u l' z=>node (match u with|some _=>v|none=>U) (mask l l') (mask r z)
def mk:M α->PT α->PT α->PT α
 |none,leaf,leaf=>leaf
 |v,l,r=>node v l r
def only (m:Nat):Nat->Nat->PT α->PT α
 |_,_,leaf=>leaf
 |a,b,node v l r=>mk (if aL m b then v else U) (only m (2*a) (a+b) l) (only m (2*a) (2*a+b) r)
def exc (m:Nat):Nat->Nat->PT α->PT α
 |_,_,leaf=>leaf
 |a,b,node v l r=>mk (if aL m b then U else v) (exc m (2*a) (a+b) l) (exc m (2*a) (2*a+b) r)
def merge (m:Nat):Nat->Nat->PT α->PT α->PT α
 |a,b,leaf,t=>only m a b t
 |a,b,node v l r,leaf=>exc m a b (node v l r)
 |a,b,node v l r,node z l' A=>mk (if aL m b then z else v) (merge m (2*a) (a+b) l l') (merge m (2*a) (2*a+b) r A)
def all (p:Nat->α->Bool):Nat->Nat->PT α->Bool
 |_,_,leaf=>J
 |a,b,node v l r=>(match v with|some x=>p b x|none=>J)&&all p (2*a) (a+b) l&&all p (2*a) (2*a+b) r
def get_all (p:Nat->α->Bool):∀(t:PT α) (a b i:Nat) (x:α),all p a b t=J->t.get i=Z x->p (a*i+b) x=J
 |leaf,_,_,_,_,_,h=>by simp[get]at h
 |node v l r,a,b,0,x,h,z=>by
  subst z;simp[all,al]at h
  grind
 |node v l r,a,b,j+1,x,h,z=>by
  simp[all,al]at h;simp only[get]at z;cases A:ax (j%2) 0 with
  |true=>
   have D:j%2=0:=au A;simp[A,bk]at z;have key:=get_all p l _ _ _ x h.1.2 z;have:2*a*(j/2)+(a+b)=a*(j+1)+b:=by
    have e:j=2*(j/2):=by omega
    grind
   rw[this]at key;exact key
  |false=>
   have D:¬j%2=0:=nZ A;simp[A,cL,dF]at z;have key:=get_all p r _ _ _ x h.2 z;have:2*a*(j/2)+(2*a+b)=a*(j+1)+b:=by
    have e:j=2*(j/2)+1:=by omega
    grind
   rw[this]at key;exact key
def dom:Nat->Nat->PT α->Nat->Nat
 |_,_,leaf,acc=>acc
 |a,b,node v l r,acc=>dom (2*a) (a+b) l (dom (2*a) (2*a+b) r (match v with|some _=>acc|||(1<<<b)|none=>acc))
def emp:PT α:=leaf
end PT
abbrev EH:=PT AV
abbrev nz:=PT kG
abbrev NW:=Y (Nat×kG)
def EH.put (e:EH):M Nat->AV->EH
 |none,_=>e
 |some d,x=>e.set d (Z x)
def j8:NW->HF
 |[],_=>U
 |(s,x)::r,t=>if ax s t then Z x else j8 r t
def L3 (acc:ι) (s:Nat) (e:Edge):Nat:=if Db .any e then (s|||2^e.on)|||acc.getD e.on 0 else s
def O2:Y Oper->ι->ι
 |[],acc=>acc
 |o::r,acc=>O2 r (acc++[o.after.toList.foldl (L3 acc) 0])
def O3 {o:Oper} {acc:ι} (D:B[i]? =Z o) (ha:∀(j:Nat) ops,acc[j]? =Z ops->∀k,ops.testBit k=J->Bef B j k):
 ∀(es:Y Edge) (s:Nat),(∀e∈es,e∈o.after)->(∀k,s.testBit k=J->Bef B i k)->∀k,(es.foldl (L3 acc) s).testBit k=J->Bef B i k
 |[],s,_,z,k,hi=>z k hi
 |e::r,s,he,z,k,hi=>by
  refine O3 D ha r (L3 acc s e) (λe' h'=>he e' (bS _ h')) (λk hi=>?_) k hi;unfold L3 at hi;split at hi
  .rename_i L;rw[bu,bu,nA,nA]at hi;rcases hi with (hi|hi)|hi
   .exact z k hi
   .rw[Nat.testBit_two_pow]at hi;have:e.on=k:=by grind
    subst this;exact .one D (he e (cX ..)) L
   .refine .more D (he e (cX ..)) L ?_;rw[aw]at hi;cases A:acc[e.on]? with
    |none=>rw[A]at hi;simp at hi
    |some C=>rw[A]at hi;exact ha _ C A k hi
  .exact z k hi
def R' {ops:Array Oper}:∀(rest:Y Oper) (acc:ι),(∀(j:Nat),∀o,rest[j]? =Z o->ops[l! acc+j]? =Z o)->
 (∀(j:Nat) B,acc[j]? =Z B->∀i,B.testBit i=J->Bef ops j i)->∀(j:Nat) B,(O2 rest acc)[j]? =Z B->∀i,B.testBit i=J->Bef ops j i
 |[],acc,_,A=>A
 |o::r,acc,D,A=>by
  refine R' r _ (λj o' z=>?_) ?_
  .rw[bz,cq,show (l! acc)+1+j=l! acc+(j+1) from by omega];simp_all
  .intro j B z i hi;rcases cF j (l! acc) with h|h
   .grind
   .rw[b_ h]at z;have L:j-l! acc=0:=by grind
    have hjl:j=l! acc:=by omega
    subst hjl;simp at z;subst z;have hoo:ops[l! acc]? =Z o:=by simpa using D 0 o rfl
    rw[<- Array.foldl_toList]at hi;exact O3 hoo A _ 0 (λe he=>by simpa using he) (λi hi=>by simp at hi) i hi
inductive UU where
 |mv (x:Operand)
 |pick (c a b:Operand)
 |alloc (ty:TypeId) (z:ξ)
 |box (ty:TypeId) (x:Operand)
 |build (z:ξ) (parts:List (Nat×Nat×Operand))
 |xx (ty:TypeId) (sz len:Nat) (z:ξ) (parts:List (Nat×Nat×Operand))
 |load (sz:Nat) (ag:Bool) (x:Operand)
 |store (sz:Nat) (x v:Operand)
 |zl (x:Operand)
 |bin (op:BinOp) (x y:Operand)
 |jh (neg:Bool) (ds:List TypeDesc) (x y:Operand)
 |zd (neg:Bool) (x:Operand)
 |xj (neg:Bool) (x y:Operand)
 |not (x:Operand)
 |conv (k:IntKind) (x:Operand)
 |zm (ty:TypeId) (sz bytes:Nat) (z:ξ) (l c:Operand)
 |slc (sz:Nat) (x:Operand) (lo hi mx:Option Operand)
 |jb (off:Nat) (x:Operand)
 |fld (off sz:Nat) (ag:Bool) (x:Operand)
 |jf (sz:Nat) (x i:Operand)
 |jv (n sz:Nat) (x i:Operand)
 |idx (n sz:Nat) (ag:Bool) (x i:Operand)
 |ext (x:Operand) (i:Nat)
 |len (x:Operand)
 |lens (x:Operand)
 |jy (x:Operand)
 |max (x y:Operand)
 |min (x y:Operand)
 |jx (x i:Operand)
 |app (ty:TypeId) (sz bytes:Nat) (s x:Operand)
 |copy (sz:Nat) (d x:Operand)
 |clr (sz:Nat) (z:ξ) (x:Operand)
 |mkf (f:FuncId) (caps:List Operand)
 |mkm
 |jg (str ok:Bool) (z:Value) (x k:Operand)
 |jk (str:Bool) (x k v:Operand)
 |rng (x:Operand)
 |nxt (x:Operand)
 |jz (neg:Bool) (x:Operand)
 |lkq (ds:List TypeDesc) (z:Value) (x k:Operand)
 |mpq (ds:List TypeDesc) (x k v:Operand)
 |dlq (ds:List TypeDesc) (x k:Operand)
 |zn
inductive SI where
 |op (s:UU)
 |call (f:FuncId) (args:List Operand)
 |xq (x:Operand) (args:List Operand)
def mem (t:Nat):ι->Bool
 |[]=>af
 |x::r=>ax x t||mem t r
def OX:ξ->Bool
 |[]=>J
 |v::r=>v.oneCell'&&OX r
def I8:Value->AV
 |.agg vs=>if OX vs.toList then .agg (vs.toList.map λv=>.f (.raw v)) else .f (.raw (.agg vs))
 |v=>.f (.raw v)
def me (e:EH):Operand->M AV
 |.tmp t=>e.get t
 |.const v=>Z (I8 v)
 |.func g=>Z (.qy g [])
 |.global g=>match G g with|some cells=>Z (.f (.P cells 0))|none=>U
def evs (e:EH):Y Operand->M (Y AV)
 |[]=>Z []
 |x::xs=>match me e x with|some y=>(match evs e xs with|some z=>Z (y::z)|none=>U)|none=>U
structure DF where
 val:AV
 rd:ι
 wr:ι
 nw:NW
 N:ι
def DF.eff (r:DF):EJ:=⟨r.val,r.rd,r.wr,j8 r.nw,r.N⟩
def rv (x:AV):M DF:=Z ⟨x,[],[],[],[]⟩
def raw (v:Value):AV:=.f (.raw v)
def pkV (ok:Bool) (v:AV) (b:Bool):AV:=match ok with|true=>.qb [v,raw (.bool b)]|false=>v
def Aa:Y AV->M (Y FV)
 |[]=>Z []
 |.f x::r=>match Aa r with|some l=>Z (x::l)|none=>U
 |_::_=>U
def oy (l:Y AV):BC:=match Aa l with|some z=>.fz z|none=>.mx l
def Ro (l:Y AV):AV:=match Aa l with|some z=>.f (.agg z)|none=>.agg l
variable {R:Type}
def splice (l:Y R) (off:Nat) (vs:Y R):Y R:=l.take off++vs++l.drop (off+l! vs)
def BC.toMx:BC->Y AV
 |.fz l=>l.map .f
 |.mx l=>l
 |_=>[]
def gD:Y AV->Bool
 |[]=>J
 |x::r=>x.isCell&&gD r
def BC.put (c:BC) (off:Nat) (vs:Y AV):M BC:=
 if c.isCells&&dR (off+l! vs) c.len&&gD vs then
  match c,Aa vs with
  |.fz l,Z z=>Z (.fz (splice l off z))
  |c,_=>Z (.mx (splice c.toMx off vs))
 else U
def BC.sub? (c:BC) (off sz:Nat):Bool->M AV
 |false=>match sz with|1=>c.get off|_=>U
 |true=>match c with
  |.fz l=>if dR (off+sz) (l! l) then Z (.f (.agg ((l.drop off).take sz))) else U
  |.mx l=>if dR (off+sz) (l! l) then Z (.agg ((l.drop off).take sz)) else U
  |_=>U
def AV.cs:AV->Y AV
 |.agg l=>l
 |.f (.agg l)=>l.map .f
 |x=>[x]
def xZ (h:nz) (sz:Nat) (z:Bool):AV->M DF
 |.P id off=>match h.get id with
  |some b=>(match b.c.sub? off sz z with|some v=>Z ⟨v,[id],[],[],[]⟩|none=>U)
  |none=>U
 |.f (.P cells off)=>(match (BC.fz cells).sub? off sz z with|some v=>rv v|none=>U)
 |_=>U
def C8 (h:nz) (sz:Nat) (v:AV):AV->M DF
 |.P id off=>match h.get id with
  |some b=>if (l! v.cs)==sz then (match b.c.put off v.cs with|some c=>Z ⟨raw undef,[id],[id],[(id,⟨b.ty,c⟩)],[]⟩|none=>U) else U
  |none=>U
 |_=>U
abbrev n?:=Nat×Nat×Operand
def CH (cells:Y AV) (e:EH):Y n?->M (Y AV)
 |[]=>Z cells
 |(off,sz,x)::r=>match me e x with
  |some v=>if (l! v.cs)==sz&&dR (off+sz) (l! cells)&&gD v.cs then CH (splice cells off v.cs) e r else U
  |none=>U
def dg (a b:Int):Bool:=decide (a<=b)
def gC (a b:Int):Bool:=decide (a<b)
def Q2 (k:IntKind) (n:Int):Int:=
 match k with
 |.i64=>if dg (-9223372036854775808) n&&dg n 9223372036854775807 then n else pZ .i64 n
 |.u8=>if dg 0 n&&dg n 255 then n else pZ .u8 n
 |k=>pZ k n
def nok:Int->Bool
 |.ofNat k|.negSucc k=>ax k k
def ax9 (n:Int):nok n=J:=by cases n<;>exact fU _
def bl (k:IntKind) (n:Int):Int:=bif nok n then Q2 k n else 0
def LD (k:IntKind) (n:Int):bl k n=Q2 k n:=by unfold bl;rw[ax9];rfl
def t7 (a b:ByteArray):Bool:=a.data.toList==b.data.toList
def xg (op:BinOp):Value->Value->M Value
 |.int k a,.int z b=>if k==z then
   match op with
   |.add=>Z (.int k (bl k (a+b)))
   |.sub=>Z (.int k (bl k (a-b)))
   |.mul=>Z (.int k (bl k (a*b)))
   |.rem=>if b==0 then U else Z (.int k (a.tmod b))
   |.quo=>if b==0 then U else Z (.int k (bl k (a.tdiv b)))
   |.eql=>Z (.bool (a==b))
   |.neq=>Z (.bool (a !=b))
   |.lss=>Z (.bool (gC a b))
   |.leq=>Z (.bool (dg a b))
   |.gtr=>Z (.bool (gC b a))
   |.geq=>Z (.bool (dg b a))
   |_=>U
  else U
 |.string a,.string b=>match op with
   |.eql=>Z (.bool (t7 a b))
   |.neq=>Z (.bool !(t7 a b))
   |_=>U
 |_,_=>U
def wQ:TypeDesc->FV->FV->M Bool
 |.int _,.raw (.int k a),.raw (.int z b)=>if k==z then Z (a==b) else U
 |.bool,.raw (.bool a),.raw (.bool b)=>Z (a==b)
 |.string,.raw (.string a),.raw (.string b)=>Z (t7 a b)
 |_,_,_=>U
def jX:Y TypeDesc->Y FV->Y FV->M Bool
 |[],[],[]=>Z J
 |d::ds,x::xs,y::z=>match wQ d x y with
  |some J=>jX ds xs z
  |some af=>Z af
  |none=>U
 |_,_,_=>U
def AV.row? (h:nz) (sz:Nat):AV->M (Y AV×Nat×ι)
 |.f (.sl cells n)=>if dR (n*sz) (l! cells) then Z ((cells.take (n*sz)).map .f,n,[]) else U
 |.f (.raw (.slice U 0 0))|.emp=>Z ([],0,[])
 |.I id sz' n=>if sz'==sz then (match h.get id with|some b=>if b.c.isCells&&dR (n*sz) b.c.len then Z (b.c.toMx.take (n*sz),n,[id]) else U|none=>U) else U
 |.sl id off n=>match h.get id with|some b=>if b.c.isCells&&dR (off+n*sz) b.c.len then Z ((b.c.toMx.drop off).take (n*sz),n,[id]) else U|none=>U
 |_=>U
def AV.slen:AV->M Nat
 |.f (.sl _ n)|.f (.raw (.slice _ n _))=>Z n
 |.emp=>Z 0
 |.I _ _ n|.sl _ _ n=>Z n
 |_=>U
def be (n bytes:Nat):Bool:=dR n 1099511627776&&dR (n*bytes) 1099511627776
def repl (z:ξ):Nat->Y FV
 |0=>[]
 |n+1=>z.map .raw++repl z n
def Dq:Value->Bool
 |.slice U 0 0=>J
 |_=>af
def Fh:AV->Bool
 |.emp=>J
 |.f (.raw v)=>Dq v
 |_=>af
def tU (k:Value):Y n!->M (M AV)
 |[]=>Z U
 |(z,v)::r=>match xg .eql k z with
  |some (.bool J)=>Z (Z v)
  |some (.bool af)=>tU k r
  |_=>U
def AH (k:Value) (v:AV):Y n!->M (Y n!)
 |[]=>Z [(k,v)]
 |(z,A)::r=>match xg .eql k z with
  |some (.bool J)=>Z ((k,v)::r)
  |some (.bool af)=>(match AH k v r with|some D=>Z ((z,A)::D)|none=>U)
  |_=>U
def Jx:Y FV->M ξ
 |[]=>Z []
 |.raw v::r=>match Jx r with|some l=>Z (v::l)|none=>U
 |_::_=>U
def af3:AV->M ξ
 |.f (.agg l)=>Jx l
 |.agg l=>match Aa l with|some z=>Jx z|none=>U
 |_=>U
def af2 (ds:Y TypeDesc) (y:AV):M ξ:=match af3 y with
 |some l=>if (l! l)==l! ds then Z l else U
 |none=>U
def Eb (ds:Y TypeDesc) (k:ξ):Value->M Bool
 |.agg z=>jX ds (k.map .raw) (z.toList.map .raw)
 |_=>U
def Jv (ds:Y TypeDesc) (k:ξ):Y n!->M (M AV)
 |[]=>Z U
 |(z,v)::r=>match Eb ds k z with
  |some J=>Z (Z v)
  |some af=>Jv ds k r
  |none=>U
def YR (ds:Y TypeDesc) (k:ξ) (v:AV):Y n!->M (Y n!)
 |[]=>Z [(.agg k.toArray,v)]
 |(z,A)::r=>match Eb ds k z with
  |some J=>Z ((.agg k.toArray,v)::r)
  |some af=>(match YR ds k v r with|some D=>Z ((z,A)::D)|none=>U)
  |none=>U
def YS (ds:Y TypeDesc) (k:ξ):Y n!->M (Y n!)
 |[]=>Z []
 |(z,A)::r=>match Eb ds k z with
  |some J=>Z r
  |some af=>(match YS ds k r with|some D=>Z ((z,A)::D)|none=>U)
  |none=>U
def zB:Bool->Value->Bool
 |false,.int _ _=>J
 |true,.string _=>J
 |_,_=>af
def rnA (b:UInt8) (s:ByteArray) (p:Nat):Int:=bif eE b.toNat 128 then b.toNat else (Utf8.decode s p).1
def wdA (b:UInt8) (s:ByteArray) (p:Nat):Nat:=bif eE b.toNat 128 then 1 else (Utf8.decode s p).2
def dG (s:UU) (e:EH) (h:nz) (nx:Nat):M DF:=
 match s with
 |.mv x=>match me e x with|some v=>rv v|none=>U
 |.pick c a b=>match me e c with
  |some (.f (.raw (.bool t)))=>(match me e (if t then a else b) with|some v=>rv v|none=>U)
  |_=>U
 |.alloc ty z=>Z ⟨.P nx 0,[],[nx],[(nx,⟨ty,.fz (z.map .raw)⟩)],[nx]⟩
 |.box ty x=>match me e x with
  |some v=>if gD v.cs then Z ⟨.P nx 0,[],[nx],[(nx,⟨ty,oy v.cs⟩)],[nx]⟩ else U
  |none=>U
 |.build z parts=>match CH (z.map raw) e parts with|some cs=>rv (Ro cs)|none=>U
 |.xx ty sz len z parts=>match CH ((repl z len).map .f) e parts with
  |some cs=>Z ⟨if len=0 then .emp else .I nx sz len,[],[nx],[(nx,⟨ty,oy cs⟩)],[nx]⟩
  |none=>U
 |.load sz A x=>match me e x with|some p=>xZ h sz A p|none=>U
 |.store sz x v=>match me e x,me e v with|some p,Z y=>C8 h sz y p|_,_=>U
 |.zl x=>match me e x with
  |some (.P id off)=>rv (.P id off)
  |some (.f (.P cells off))=>rv (.f (.P cells off))
  |some (.qy g cap)=>rv (.qy g cap)
  |_=>U
 |.bin op x y=>match me e x,me e y with
  |some (.f (.raw u)),Z (.f (.raw v))=>(match xg op u v with|some r=>rv (raw r)|none=>U)
  |_,_=>U
 |.jh neg ds x y=>match me e x,me e y with
  |some (.f (.agg a)),Z (.f (.agg b))=>(match jX ds a b with|some r=>rv (raw (.bool (r !=neg)))|none=>U)
  |_,_=>U
 |.xj neg x y=>match me e x,me e y with
  |some (.f (.raw (.bool a))),Z (.f (.raw (.bool b)))=>rv (raw (.bool ((a==b) !=neg)))
  |_,_=>U
 |.zd neg x=>match me e x with
  |some (.I _ _ _)|some (.sl _ _ _)|some (.f (.sl _ (_+1)))=>rv (raw (.bool neg))
  |some (.f (.sl _ 0))|some .emp=>rv .qw
  |some (.f (.raw v))=>if Dq v then rv (raw (.bool !neg)) else U
  |_=>U
 |.not x=>match me e x with|some (.f (.raw (.bool b)))=>rv (raw (.bool !b))|_=>U
 |.conv k x=>match me e x with|some (.f (.raw (.int _ n)))=>rv (raw (.int k (bl k n)))|_=>U
 |.zm ty sz bytes z l c=>match me e l,me e c with
  |some (.f (.raw (.int _ a))),Z (.f (.raw (.int _ b)))=>
   if dg 0 a&&dg a b&&be b.toNat bytes then Z ⟨.I nx sz a.toNat,[],[nx],[(nx,⟨ty,.fz (repl z a.toNat)⟩)],[nx]⟩ else U
  |_,_=>U
 |.slc sz x D hi mx=>match me e x with
  |some v=>match D,hi,mx with
   |none,Z (.const (.int _ 0)),Z (.const (.int _ 0))=>if v.slen.isSome then rv .emp else U
   |none,Z b,U=>match v,me e b with
    |.I id sz' n,Z (.f (.raw (.int _ j)))=>if sz'==sz&&dg 0 j&&dg j n then (match h.get id with
     |some blk=>if blk.c.isCells&&dR (n*sz) blk.c.len then Z ⟨.I nx sz j.toNat,[id],[nx,id],[(nx,⟨blk.ty,oy (blk.c.toMx.take (j.toNat*sz))⟩)],[nx]⟩ else U
     |none=>U) else U
    |.f (.sl cells n),Z (.f (.raw (.int _ j)))=>if dg 0 j&&dg j n&&dR (n*sz) (l! cells) then rv (.f (.sl (cells.take (j.toNat*sz)) j.toNat)) else U
    |_,_=>U
   |some b,U,U=>match v,me e b with
    |.I id sz' n,Z (.f (.raw (.int _ j)))=>if sz'==sz&&dg 0 j&&gC j n then rv (.sl id (j.toNat*sz) (n-j.toNat)) else U
    |.f (.sl cells n),Z (.f (.raw (.int _ j)))=>if dg 0 j&&dg j n&&dR (n*sz) (l! cells) then rv (.f (.sl ((cells.drop (j.toNat*sz)).take ((n-j.toNat)*sz)) (n-j.toNat))) else U
    |_,_=>U
   |none,Z b,Z b'=>match v,me e b,me e b' with
    |.f (.sl cells n),Z (.f (.raw (.int _ j))),Z (.f (.raw (.int _ L)))=>if decide (j=L)&&dg 0 j&&dg j n&&dR (n*sz) (l! cells) then rv (.qc (cells.take (j.toNat*sz)) j.toNat) else U
    |_,_,_=>U
   |_,_,_=>U
  |none=>U
 |.jb off x=>match me e x with
  |some (.P id o)=>rv (.P id (o+off))
  |some (.f (.P cells o))=>rv (.f (.P cells (o+off)))
  |_=>U
 |.fld off sz A x=>match me e x with
  |some (.agg l)=>(match (BC.mx l).sub? off sz A with|some v=>rv v|none=>U)
  |some (.f (.agg l))=>(match (BC.fz l).sub? off sz A with|some v=>rv v|none=>U)
  |_=>U
 |.jf sz x i=>match me e x,me e i with
  |some v,Z (.f (.raw (.int _ j)))=>match v with
   |.I id sz' n=>if sz'==sz&&dg 0 j&&gC j n then rv (.P id (j.toNat*sz)) else U
   |.sl id off n=>if dg 0 j&&gC j n then rv (.P id (off+j.toNat*sz)) else U
   |.f (.sl cells n)=>if dg 0 j&&gC j n then rv (.f (.P cells (j.toNat*sz))) else U
   |_=>U
  |_,_=>U
 |.jv n sz x i=>match me e x,me e i with
  |some v,Z (.f (.raw (.int _ j)))=>if dg 0 j&&gC j n then (match v with
   |.P id off=>rv (.P id (off+j.toNat*sz))
   |.f (.P cells off)=>rv (.f (.P cells (off+j.toNat*sz)))
   |_=>U) else U
  |_,_=>U
 |.idx n sz A x i=>match me e x,me e i with
  |some v,Z (.f (.raw (.int _ j)))=>if dg 0 j&&gC j n then (match v with
   |.agg l=>(match (BC.mx l).sub? (j.toNat*sz) sz A with|some v=>rv v|none=>U)
   |.f (.agg l)=>(match (BC.fz l).sub? (j.toNat*sz) sz A with|some v=>rv v|none=>U)
   |_=>U) else U
  |_,_=>U
 |.ext x i=>match me e x with|some (.qb l)=>(match l[i]? with|some v=>rv v|none=>U)|_=>U
 |.len x=>match me e x with
  |some v=>(match v.slen with|some n=>rv (raw (.int .i64 n))|none=>U)
  |none=>U
 |.lens x=>match me e x with
  |some (.f (.raw (.string s)))=>rv (raw (.int .i64 (l! s.data.toList)))
  |_=>U
 |.jy x=>match me e x with
  |some (.mp id)=>(match h.get id with|some ⟨0,.mp es⟩=>Z ⟨raw (.int .i64 (l! es)),[id],[],[],[]⟩|_=>U)
  |_=>U
 |.max x y=>match me e x,me e y with
  |some (.f (.raw (.int k a))),Z (.f (.raw (.int _ b)))=>rv (raw (.int k (if gC a b then b else a)))
  |_,_=>U
 |.min x y=>match me e x,me e y with
  |some (.f (.raw (.int k a))),Z (.f (.raw (.int _ b)))=>rv (raw (.int k (if gC b a then b else a)))
  |_,_=>U
 |.jx x i=>match me e x,me e i with
  |some (.f (.raw (.string s))),Z (.f (.raw (.int _ j)))=>if dg 0 j then (match s.data.toList[j.toNat]? with|some b=>rv (raw (.int .u8 b.toNat))|none=>U) else U
  |_,_=>U
 |.app ty sz bytes s x=>match me e s,me e x with
  |some b,Z y=>match y.row? h sz with
   |some (src,m,rd)=>match b with
    |.I id sz' n=>match h.get id with
     |some blk=>if sz'==sz&& !(mem id rd)&&blk.c.isCells&&dR (n*sz) blk.c.len&&blk.ty==ty&&be (n+m) bytes then
       Z ⟨.I nx sz (n+m),id::rd,[nx,id],[(nx,⟨ty,oy (blk.c.toMx.take (n*sz)++src)⟩)],[nx]⟩ else U
     |none=>U
    |.qc cells n=>if dR (n*sz) (l! cells)&&be (n+m) bytes then
      (if m==0 then Z ⟨.f (.sl cells n),rd,[],[],[]⟩ else Z ⟨.I nx sz (n+m),rd,[nx],[(nx,⟨ty,oy ((cells.take (n*sz)).map .f++src)⟩)],[nx]⟩) else U
    |b=>if Fh b&&be m bytes then
      (if m==0 then Z ⟨b,rd,[],[],[]⟩ else Z ⟨.I nx sz m,rd,[nx],[(nx,⟨ty,oy src⟩)],[nx]⟩) else U
   |none=>U
  |_,_=>U
 |.copy sz d x=>match me e d,me e x with
  |some (.I id sz' n),Z y=>(match h.get id,y.row? h sz with
   |some blk,Z (src,m,rd)=>if sz'==sz&& !(mem id rd)&&dR (n*sz) blk.c.len then
     (match blk.c.put 0 (src.take (ma m n*sz)) with
     |some c=>Z ⟨raw (.int .i64 (ma m n)),id::rd,[id],[(id,⟨blk.ty,c⟩)],[]⟩
     |none=>U) else U
   |_,_=>U)
  |_,_=>U
 |.clr _ z x=>match me e x with
  |some (.sl id off n)=>(match h.get id with
   |some blk=>if eE 0 n then (match blk.c.put off ((repl z n).map .f) with
    |some c=>Z ⟨.qb [],[id],[id],[(id,⟨blk.ty,c⟩)],[]⟩
    |none=>U) else U
   |none=>U)
  |_=>U
 |.mkf f caps=>match evs e caps with|some l=>rv (.qy f l)|none=>U
 |.mkm=>Z ⟨.mp nx,[],[nx],[(nx,⟨0,.mp []⟩)],[nx]⟩
 |.jg str ok z x k=>match me e x,me e k with
  |some (.mp id),Z (.f (.raw key))=>(match h.get id with
   |some ⟨0,.mp es⟩=>if zB str key then (match tU key es with|some (Z v)=>Z ⟨pkV ok v J,[id],[],[],[]⟩|some U=>Z ⟨pkV ok (raw z) af,[id],[],[],[]⟩|none=>U) else U
   |_=>U)
  |_,_=>U
 |.jk str x k v=>match me e x,me e k,me e v with
  |some (.mp id),Z (.f (.raw key)),Z y=>(match h.get id with
   |some ⟨0,.mp es⟩=>if zB str key then (match AH key y es with|some es'=>Z ⟨raw undef,[id],[id],[(id,⟨0,.mp es'⟩)],[]⟩|none=>U) else U
   |_=>U)
  |_,_,_=>U
 |.rng x=>match me e x with
  |some (.f (.raw (.string s)))=>Z ⟨.P nx 0,[],[nx],[(nx,⟨0,.it s 0⟩)],[nx]⟩
  |_=>U
 |.nxt x=>match me e x with
  |some (.P id 0)=>(match h.get id with
   |some ⟨ty,.it s p⟩=>(match s.data.toList[p]? with
    |some b=>Z ⟨.qb [raw (.bool J),raw (.int .i64 p),raw (.int .i32 (rnA b s p))],[id],[id],[(id,⟨ty,.it s (p+wdA b s p)⟩)],[]⟩
    |none=>Z ⟨.qb [raw (.bool af)],[id],[id],[(id,⟨ty,.it s p⟩)],[]⟩)
   |_=>U)
  |_=>U
 |.jz neg x=>match me e x with
  |some (.P _ _)|some (.f (.P _ _))=>rv (raw (.bool neg))
  |some (.f (.raw (.pointer U)))=>rv (raw (.bool !neg))
  |_=>U
 |.lkq ds z x k=>match me e x,(me e k).bind (af2 ds) with
  |some (.mp id),Z key=>(match h.get id with
   |some ⟨0,.mp es⟩=>(match Jv ds key es with
    |some (Z v)=>Z ⟨v,[id],[],[],[]⟩
    |some U=>Z ⟨raw z,[id],[],[],[]⟩
    |none=>U)
   |_=>U)
  |_,_=>U
 |.mpq ds x k v=>match me e x,(me e k).bind (af2 ds),me e v with
  |some (.mp id),Z key,Z y=>(match h.get id with
   |some ⟨0,.mp es⟩=>(match YR ds key y es with|some es'=>Z ⟨raw undef,[id],[id],[(id,⟨0,.mp es'⟩)],[]⟩|none=>U)
   |_=>U)
  |_,_,_=>U
 |.dlq ds x k=>match me e x,(me e k).bind (af2 ds) with
  |some (.mp id),Z key=>(match h.get id with
   |some ⟨0,.mp es⟩=>(match YS ds key es with|some es'=>Z ⟨.qb [],[id],[id],[(id,⟨0,.mp es'⟩)],[]⟩|none=>U)
   |_=>U)
  |_,_=>U
 |.zn=>U
structure uD where
 dst:Option Nat
 op:SI
 guard:Option (Nat×Bool)
inductive SC where
 |skip
 |jw (ops:List uD) (prs:List (Nat×Nat))
 |seq (a b:SC)
 |cond (c:Nat) (a b:SC)
 |block (id:Nat) (b:SC)
 |loop (b:SC)
 |exit (id:Nat)
 |ret
 |defer (f:FuncId) (caps:List Operand) (t:Nat)
 |zn
structure aAe where
 val:AV
 h:nz
 nx:Nat
 wr:Nat
abbrev aed:=FuncId->Y AV->nz->Nat->M aAe
mutual
def AV.ids:AV->Nat->Nat
 |.P id _,acc|.sl id _ _,acc|.I id _ _,acc|.mp id,acc=>acc|||(1<<<id)
 |.agg l,acc|.qb l,acc|.qy _ l,acc=>AV.idsL l acc
 |.f _,acc|.emp,acc|.qw,acc|.qc _ _,acc=>acc
def AV.idsL:Y AV->Nat->Nat
 |[],acc=>acc
 |x::r,acc=>AV.idsL r (AV.ids x acc)
end
mutual
def AV.all (p:Nat->Bool):AV->Bool
 |.P id _|.sl id _ _|.I id _ _|.mp id=>p id
 |.agg l|.qb l|.qy _ l=>AV.allL p l
 |.f _=>J
 |.emp=>J
 |.qw=>J
 |.qc _ _=>J
def AV.allL (p:Nat->Bool):Y AV->Bool
 |[]=>J
 |x::r=>AV.all p x&&AV.allL p r
end
def BC.ids:BC->Nat->Nat
 |.mx l,acc=>AV.idsL l acc
 |.mp es,acc=>AV.idsL (es.map (·.2)) acc
 |_,acc=>acc
def BC.all (p:Nat->Bool):BC->Bool
 |.mx l=>AV.allL p l
 |.mp es=>AV.allL p (es.map (·.2))
 |_=>J
def nz.all (p:Nat->Bool) (h:nz):Bool:=PT.all (λi b=>p i&&b.c.all p) 1 0 h
def aby:Nat->nz->Nat->Nat->Nat
 |0,_,_,PP=>PP
 |n+1,h,todo,PP=>
  if ax todo 0 then PP else
  match Nat.log2 todo with
  |id=>if aL PP id then aby n h (todo ^^^ (1<<<id)) PP else
   match h.get id with
   |some b=>aby n h (b.c.ids (todo ^^^ (1<<<id))) (PP|||(1<<<id))
   |none=>aby n h (todo ^^^ (1<<<id)) PP
section force
variable {α:Type}
def uV (n:Nat) (k:Nat->α):α:=match n with|0=>k 0|m+1=>k (m+1)
def frcI (n:Int) (k:Int->α):α:=match n with|.ofNat m=>uV m λm=>k (.ofNat m)|.negSucc m=>uV m λm=>k (.negSucc m)
def frcB (b:Bool) (k:Bool->α):α:=match b with|true=>k J|false=>k af
def frcV (v:Value) (k:Value->α):α:=match v with
 |.int kd n=>frcI n λn=>k (.int kd n)
 |.bool b=>frcB b λb=>k (.bool b)
 |v=>k v
def axn (x:FV) (k:FV->α):α:=match x with
 |.raw v=>frcV v λv=>k (.raw v)
 |.P cells off=>uV off λoff=>k (.P cells off)
 |.sl cells n=>uV n λn=>k (.sl cells n)
 |.agg l=>k (.agg l)
def akj:Y FV->(Y FV->α)->α
 |[],k=>k []
 |x::r,k=>axn x λx=>akj r λr=>k (x::r)
def axm (x:FV) (k:FV->α):α:=match x with
 |.agg l=>akj l λl=>k (.agg l)
 |x=>axn x k
def arv (x:AV) (k:AV->α):α:=match x with
 |.f x=>axm x λx=>k (.f x)
 |.P id off=>uV id λid=>uV off λoff=>k (.P id off)
 |.sl id off n=>uV id λid=>uV off λoff=>uV n λn=>k (.sl id off n)
 |.I id sz n=>uV id λid=>uV sz λsz=>uV n λn=>k (.I id sz n)
 |.mp id=>uV id λid=>k (.mp id)
 |x=>k x
def Wz:Y AV->(Y AV->α)->α
 |[],k=>k []
 |x::r,k=>arv x λx=>Wz r λr=>k (x::r)
def axo (x:AV) (k:AV->α):α:=match x with
 |.agg l=>Wz l λl=>k (.agg l)
 |.qb l=>Wz l λl=>k (.qb l)
 |.qy f l=>Wz l λl=>k (.qy f l)
 |x=>arv x k
def frcC (c:BC) (k:BC->α):α:=match c with
 |.fz l=>akj l λl=>k (.fz l)
 |.mx l=>Wz l λl=>k (.mx l)
 |.it s p=>uV p λp=>k (.it s p)
 |.mp es=>k (.mp es)
def Wy :PT R->(PT R->α)->α
 |.leaf,k=>k .leaf
 |.node v l r,k=>(match v with
  |none=>λ(k:M R->α)=>k U
  |some x=>λk=>k (Z x)) λv=>Wy l λl=>Wy r λr=>k (.node v l r)
def YN :Nat->PT R->Nat->M R->(PT R->α)->α
 |0,t,_,_,k=>k t
 |f+1,t,n,x,k=>match t with
  |.leaf=>(match n with
   |0=>k (.node x .leaf .leaf)
   |m+1=>if ax (m%2) 0 then uV (m/2) λq=>YN f .leaf q x λu=>k (.node U u .leaf) else uV (m/2) λq=>YN f .leaf q x λu=>k (.node U .leaf u))
  |.node v l r=>(match n with
   |0=>k (.node x l r)
   |m+1=>if ax (m%2) 0 then uV (m/2) λq=>YN f l q x λu=>k (.node v u r) else uV (m/2) λq=>YN f r q x λu=>k (.node v l u))
def TY :∀(x:PT R) (k:PT R->α),Wy x k=k x
 |.leaf,_=>rfl
 |.node v l r,k=>by cases v<;>simp[Wy,TY l,TY r]
end force
structure IS where
 e:EH
 h:nz
 nx:Nat
 wr:Nat
structure aso where
 val:AV
 rd:Nat
 wr:Nat
 h:nz
 nx:Nat
def bits:ι->Nat->Nat
 |[],acc=>acc
 |x::r,acc=>bits r (acc|||(1<<<x))
def at2 (h:nz) (z:NW):ι->(nz->R)->R
 |[],k=>k h
 |i::r,k=>match j8 z i with
  |none=>YN (i+1) h i U λh=>at2 h z r k
  |some ⟨ty,c⟩=>frcC c λc=>YN (i+1) h i (Z ⟨ty,c⟩) λh=>at2 h z r k
def as8 (call:aed) (f:FuncId) (args:Y AV) (h:nz) (nx:Nat):M aso:=
 uV (aby 1000000 h (AV.idsL args 0) 0) λids=>Wy (PT.only ids 1 0 h) λA=>
 if AV.allL (eE · nx) args&&nz.all (eE · nx) A then
  match call f args A nx with
  |some ⟨val,h',nx',z⟩=>axo val λval=>uV nx' λnx'=>uV z λz=>Wy (PT.merge z 1 0 h h') λhm=>Z ⟨val,ids,z,hm,nx'⟩
  |none=>U
 else U
def opA (call:aed) (o:SI) (e:EH) (h:nz) (nx:Nat):M aso:=
 match o with
 |.call f args=>match evs e args with|some l=>as8 call f l h nx|none=>U
 |.xq x args=>match me e x,evs e args with|some (.qy f cap),Z l=>as8 call f (l++cap) h nx|_,_=>U
 |.op o=>match dG o e h nx with
  |some ⟨val,rd,z,D,N⟩=>axo val λval=>uV (bits rd 0) λrd=>uV (bits z 0) λA=>uV (nx+l! N) λnx'=>at2 h D z λh=>Z ⟨val,rd,A,h,nx'⟩
  |none=>U
def awz (e:EH):M (Nat×Bool)->M Bool
 |none=>Z J
 |some (t,want)=>match e.get t with
  |some (.f (.raw (.bool b)))=>Z (b==want)
  |some (.f (.raw (.tuple _)))=>Z af
  |_=>U
def atk (e:EH) (dst:M Nat) (v:AV) (k:EH->R):R:=match dst with
 |none=>k e
 |some d=>YN (d+1) e d (Z v) k
structure FPm where
 rd:Nat
 wr:Nat
def YU (call:aed):Y uD->IS->M (IS×Y FPm)
 |[],s=>Z (s,[])
 |o::r,⟨e,h,nx,A⟩=>
  match awz e o.guard with
  |some J=>(match opA call o.op e h nx with
   |some ⟨val,rd,w,h',nx'⟩=>atk e o.dst val λe'=>uV (A|||w) λwr'=>(match YU call r ⟨e',h',nx',wr'⟩ with
    |some (s',z)=>Z (s',⟨rd,w⟩::z)
    |none=>U)
   |none=>U)
  |some af=>atk e o.dst (raw undef) λe'=>(match YU call r ⟨e',h,nx,A⟩ with
   |some (s',z)=>Z (s',⟨0,0⟩::z)
   |none=>U)
  |none=>U
def afr:Y FPm->Nat->M FPm
 |[],_=>U
 |f::_,0=>Z f
 |_::r,n+1=>afr r n
def Kv (a b:Nat):Bool:=ax (a&&&b) 0
abbrev q!:=Nat×Nat
def Jz (z:Y FPm):Y q!->Bool
 |[]=>J
 |(i,j)::r=>(match afr z i,afr z j with
  |some a,Z b=>Kv a.wr b.rd&&Kv a.wr b.wr&&Kv b.wr a.rd
  |_,_=>af)&&Jz z r
inductive Ex where
 |normal
 |exit (id:Nat)
 |ret
def arq (body:IS->M (Ex×IS)) (e0:EH):Nat->IS->M (Ex×IS)
 |0,_=>U
 |n+1,s=>match body s with
  |some (.normal,⟨e,h,nx,z⟩)=>Wy (PT.mask e e0) λe=>arq body e0 n ⟨e,h,nx,z⟩
  |r=>r
def run (call:aed) (inert:FuncId->Bool) (fuel:Nat):SC->IS->M (Ex×IS)
 |.skip,s=>Z (.normal,s)
 |.jw ops prs,s=>match YU call ops s with
  |some (s',A)=>if Jz A prs then Z (.normal,s') else U
  |none=>U
 |.seq a b,s=>match run call inert fuel a s with
  |some (.normal,s')=>run call inert fuel b s'
  |r=>r
 |.cond c a b,s=>match s.e.get c with
  |some (.f (.raw (.bool J)))=>run call inert fuel a s
  |some (.f (.raw (.bool af)))=>run call inert fuel b s
  |_=>U
 |.block id b,s=>match run call inert fuel b s with
  |some (.exit i,s')=>if ax i id then Z (.normal,s') else Z (.exit i,s')
  |r=>r
 |.loop b,s=>arq (run call inert fuel b) s.e fuel s
 |.exit id,s=>Z (.exit id,s)
 |.ret,s=>Z (.ret,s)
 |.defer f caps t,⟨e,h,nx,z⟩=>match evs e caps with
  |some l=>if inert f then atk e (Z t) (.qy f l) λe'=>Z (.normal,⟨e',h,nx,z⟩) else U
  |none=>U
 |.zn,_=>U
inductive RV where
 |tmp (t:Nat)
 |cell (a:Nat) (sz:Nat) (ag:Bool)
structure SF where
 code:SC
 res:List RV
 nt:Nat
def FP:Y AV->AV
 |[x]=>x
 |l=>.qb l
def aud:Value->Value->Bool
 |.bool a,.bool b=>a==b
 |.int k a,.int A b=>k==A&&a==b
 |.string a,.string b=>t7 a b
 |.slice U n c,.slice U z D=>ax n z&&ax c D
 |.pointer U,.pointer U=>J
 |.tuple a,.tuple b=>a.isEmpty&&b.isEmpty
 |_,_=>af
def fP (P:Program) (t:TypeId):M Nat:=(P.info? t).map (·.size)
def Ja (P:Program) (t:TypeId):M Nat:=(P.info? t).map (·.bytes)
def ve (P:Program) (t:TypeId):M ξ:=((P.info? t).bind (·.zero)).map (·.cells.toList)
def HH (P:Program) (t:TypeId):M Bool:=(P.underlying t).map λ|.struct _=>J|.array _ _=>J|_=>af
def Eg (P:Program) (t:TypeId):M TypeId:=match P.underlying t with|some (.slice e)=>Z e|_=>U
def EY (P:Program) (t:TypeId) (i:Nat):M q!:=match P.underlying t with
 |some (.struct A)=>(A[i]?).bind λf=>(fP P f.type).map (f.offset,·)
 |some (.array _ z)|some (.slice z)=>(fP P z).map λs=>(i*s,s)
 |_=>U
abbrev H?:=Nat×Operand
def Ay (P:Program) (t:TypeId):Y H?->M (Y n?)
 |[]=>Z []
 |(i,x)::r=>match EY P t i,Ay P t r with|some (o,s),Z l=>Z ((o,s,x)::l)|_,_=>U
def ov (z:ξ):Bool:=z.all λv=>v.oneCell'
def EX:TypeDesc->Bool
 |.int _=>J
 |.bool=>J
 |.string=>J
 |_=>af
def mc (P:Program):Nat→Y Field→M (Y TypeDesc)
 |_,[]=>Z []
 |k,f::r=>match P.underlying f.type,mc P (k+1) r with
  |some d,Z ds=>if f.name != "_" &&f.offset==k&&EX d then Z (d::ds) else U
  |_,_=>U
def EW (P:Program) (t:TypeId):M (Y TypeDesc):=match P.underlying t with
 |some (.struct z)=>if P.stoodInHeld t then U else mc P 0 z.toList
 |_=>U
def XU (P:Program) (c:Call):M UU:=
 match c.callee with
 |.builtin .len=>(match c.args.toList,c.argTypes.toList with
  |[x],[t]=>(match P.underlying t with
   |some (.slice _)=>Z (.len x)
   |some .string=>Z (.lens x)
   |some (.map _ _)=>Z (.jy x)
   |_=>U)
  |_,_=>U)
 |.builtin .max=>(match c.args.toList with
  |[x,y]=>Z (.max x y)
  |_=>U)
 |.builtin .min=>(match c.args.toList with
  |[x,y]=>Z (.min x y)
  |_=>U)
 |.builtin .copy=>(match c.args.toList,c.argTypes.toList with
  |[d,x],[t,u]=>(match Eg P t,Eg P u with
   |some A,Z _=>(fP P A).bind λsz=>if sz !=0 then Z (.copy sz d x) else U
   |_,_=>U)
  |_,_=>U)
 |.builtin .delete=>(match c.args.toList,c.argTypes.toList with
  |[m,k],[t,_]=>(match P.underlying t with
   |some (.map D _)=>(EW P D).map λds=>.dlq ds m k
   |_=>U)
  |_,_=>U)
 |.builtin .clear=>(match c.args.toList,c.argTypes.toList with
  |[x],[t]=>(Eg P t).bind λA=>(ve P A).bind λz=>(fP P A).bind λsz=>if ov z&&l! z==sz&&sz !=0 then Z (.clr sz z x) else U
  |_,_=>U)
 |.builtin .append=>(match c.args.toList,c.argTypes.toList with
  |[s,x],[t,u]=>(match Eg P t,Eg P u with
   |some A,Z _=>(fP P A).bind λsz=>(Ja P A).bind λb=>(ve P A).bind λz=>if sz !=0&&l! z==sz then Z (.app A sz b s x) else U
   |_,_=>U)
  |_,_=>U)
 |_=>U
def cP (P:Program):Op->M UU
 |.move x|.assign x=>Z (.mv x)
 |.pick c a b=>Z (.pick c a b)
 |.alloc t=>(ve P t).bind λz=>if ov z then Z (.alloc t z) else U
 |.box t x=>Z (.box t x)
 |.build t ps=>match P.underlying t with
  |some (.struct L)=>(ve P t).bind λz=>if ov z&&(L.toList.all λf=>(fP P f.type).isSome) then (Ay P t ps.toList).map (.build z) else U
  |some (.array _ A)=>(ve P t).bind λz=>if ov z&&(fP P A).isSome then (Ay P t ps.toList).map (.build z) else U
  |_=>U
 |.buildSlice t n ps=>(Eg P t).bind λA=>(ve P A).bind λz=>(fP P A).bind λsz=>if ov z&&l! z==sz&&dR (n*sz) 65536&&sz !=0 then (Ay P t ps.toList).map (.xx A sz n z) else U
 |.load t x=>(fP P t).bind λsz=>(HH P t).map λag=>.load sz ag x
 |.store t x v=>(fP P t).map λsz=>.store sz x v
 |.nilCheck x=>Z (.zl x)
 |.binOp op t x y _=>match P.underlying t with
  |some (.int _)|some .string=>Z (.bin op x y)
  |some .bool=>(match op with|.eql=>Z (.xj af x y)|.neq=>Z (.xj J x y)|_=>U)
  |some (.slice _)=>(match op,y with
   |.eql,.const (.slice U 0 0)=>Z (.zd af x)
   |.neq,.const (.slice U 0 0)=>Z (.zd J x)
   |_,_=>U)
  |some (.pointer _)=>(match op,y with
   |.eql,.const (.pointer U)=>Z (.jz af x)
   |.neq,.const (.pointer U)=>Z (.jz J x)
   |_,_=>U)
  |some (.struct _)=>(EW P t).bind λds=>(match op with|.eql=>Z (.jh af ds x y)|.neq=>Z (.jh J ds x y)|_=>U)
  |_=>U
 |.unOp .not _ x=>Z (.not x)
 |.unOp .neg t x=>match P.underlying t with|some (.int k)=>Z (.bin .sub (.const (.int k 0)) x)|_=>U
 |.convert s d x=>match P.underlying s,P.underlying d with|some (.int _),Z (.int k)=>Z (.conv k x)|_,_=>U
 |.makeSlice t l c=>(Eg P t).bind λA=>(ve P A).bind λz=>(fP P A).bind λsz=>(Ja P A).bind λb=>if ov z&&l! z==sz&&sz !=0 then Z (.zm A sz b z l c) else U
 |.slice t x lo hi mx=>(Eg P t).bind λA=>(fP P A).map λsz=>.slc sz x lo hi mx
 |.fieldAddr t x k=>match P.underlying t with
  |some (.struct L)=>(L[k]?).bind λf=>(fP P f.type).bind λsz=>if sz !=0 then Z (.jb f.offset x) else U
  |_=>U
 |.field t x k=>match P.underlying t with
  |some (.struct L)=>(L[k]?).bind λf=>(fP P f.type).bind λsz=>(HH P f.type).map λag=>.fld f.offset sz ag x
  |_=>U
 |.indexAddr t x i=>match P.underlying t with
  |some (.slice A)=>(fP P A).map λsz=>.jf sz x i
  |some (.array n A)=>(fP P A).map λsz=>.jv n sz x i
  |_=>U
 |.index t x i=>match P.underlying t with
  |some (.array n A)=>(fP P A).bind λsz=>(HH P A).map λag=>.idx n sz ag x i
  |some .string=>Z (.jx x i)
  |_=>U
 |.extract x i=>Z (.ext x i)
 |.makeFunc (.func f) first caps=>if first.isEmpty then Z (.mkf f caps.toList) else U
 |.makeMap t U=>match P.underlying t with|some (.map _ _)=>Z .mkm|_=>U
 |.lookup t x k ok=>match P.underlying t with
  |some (.map D A)=>(match P.underlying D,(P.info? A).bind (·.zero) with
   |some (.int _),Z z=>if z.oneCell' then Z (.jg af ok z x k) else U
   |some .string,Z z=>if z.oneCell' then Z (.jg J ok z x k) else U
   |some (.struct _),Z z=>if z.oneCell'&& !ok then (EW P D).map λds=>.lkq ds z x k else U
   |_,_=>U)
  |_=>U
 |.mapUpdate t m k v=>match P.underlying t with
  |some (.map D _)=>(match P.underlying D with
   |some (.int _)=>Z (.jk af m k v)
   |some .string=>Z (.jk J m k v)
   |some (.struct _)=>(EW P D).map λds=>.mpq ds m k v
   |_=>U)
  |_=>U
 |.range t x=>match P.underlying t with|some .string=>Z (.rng x)|_=>U
 |.next x J=>Z (.nxt x)
 |.call c=>XU P c
 |_=>U
def OZ:Op->M SI
 |.call c=>(match c.callee with
  |.value (.func f)=>Z (.call f c.args.toList)
  |.value (.tmp t)=>Z (.xq (.tmp t) c.args.toList)
  |_=>U)
 |_=>U
def xW (P:Program) (op:Op):SI:=match OZ op with
 |some i=>i
 |none=>(match cP P op with|some s=>.op s|none=>.op .zn)
def UU.still:UU->Bool
 |.mv _|.pick _ _ _|.build _ _|.zl _|.bin _ _ _|.jh _ _ _ _|.zd _ _|.xj _ _ _|.not _|.conv _ _|.jb _ _|.fld _ _ _ _|.jf _ _ _|.jv _ _ _ _|.idx _ _ _ _ _|.ext _ _|.max _ _|.min _ _|.jx _ _|.mkf _ _|.jz _ _|.zn=>J
 |_=>af
def SI.still:SI->Bool
 |.op s=>s.still
 |_=>af
def tZ (P:Program) (ops:Array Oper):Y Oper->M (Y uD)
 |[]=>Z []
 |o::r=>match tZ P ops r with
  |some l=>(match o.guard with
   |none=>Z (⟨o.dst,xW P o.op,U⟩::l)
   |some (j,want)=>(match (ops[j]?).bind (·.dst) with
    |some t=>Z (⟨o.dst,xW P o.op,Z (t,want)⟩::l)
    |none=>U))
  |none=>U
def Ri (ops:Array Oper) (l:Y uD):M (Y q!):=
 let B:=O2 ops.toList []
 if (eA ops.size).all λj=>((ops[j]?).all λz=>z.after.toList.all λe=> !Db .any e||decide (e.on<j))&&
     (eA j).all λi=>aL (B.getD j 0) i||(match ops[i]?,ops[j]? with|some A,Z z=>A.apart ops z|_,_=>af)
 then Z ((eA ops.size).flatMap λj=>(eA j).filterMap λi=>
  if aL (B.getD j 0) i||(match l[i]?,l[j]? with|some a,Z b=>a.op.still||b.op.still|_,_=>af) then U else Z (i,j))
 else U
def Hq (ops:Array Oper) (A:Bool):M (FuncId×Y Operand×Nat):=match ops.toList,A with
 |[p,q],af=>(match p.op,p.guard,p.dst,q.op,q.guard,q.dst with
  |.makeFunc (.func f) first caps,U,Z t,.defer c,U,U=>(match c.callee,c.args.toList with
   |.value (.tmp z),[]=>if ax t z&&first.isEmpty then Z (f,caps.toList,t) else U
   |_,_=>U)
  |_,_,_,_,_,_=>U)
 |_,_=>U
def cC (P:Program) (nt:Nat):Code->SC
 |.skip=>.skip
 |.region _ ops z=>if ops.toList.all λo=>match o.dst with|some d=>decide (d<nt)|none=>J then
   (match Hq ops z with
   |some (f,caps,t)=>.defer f caps t
   |none=>(match tZ P ops ops.toList with
    |some l=>(match Ri ops l with|some prs=>.jw l prs|none=>.zn)
    |none=>.zn)) else .zn
 |.seq a b=>.seq (cC P nt a) (cC P nt b)
 |.cond (.tmp c) a b=>.cond c (cC P nt a) (cC P nt b)
 |.cond (.const (.bool J)) a _=>cC P nt a
 |.cond (.const (.bool af)) _ b=>cC P nt b
 |.block id b=>.block id (cC P nt b)
 |.loop b=>.loop (cC P nt b)
 |.exit id=>.exit id
 |.ret=>.ret
 |_=>.zn
def xV (P:Program):Y ResultVar->M (Y RV)
 |[]=>Z []
 |.tmp t::r=>match xV P r with|some l=>Z (.tmp t::l)|none=>U
 |.cell a t::r=>match xV P r,fP P t,HH P t with|some l,Z sz,Z z=>Z (.cell a sz z::l)|_,_,_=>U
def C4 (P:Program) (f:FuncId):M SF:=
 match P.funcs[f]? with
 |some fn=>if fn.name== "runtime.NumGoroutine" then U else (match fn.body,xV P fn.results.toList with
  |some c,Z r=>Z ⟨cC P fn.ntmps c,r,fn.ntmps⟩
  |_,_=>U)
 |none=>U
inductive Xp where
 |mk (op n:Int) (name:ζ) (l:List Xp)
inductive Sx where
 |mk (op line:Int) (name arg:ζ) (index:List Xp) (expr:Xp) (body els:List Sx)
def Xp.op:Xp->Int|.mk a _ _ _=>a
def Xp.n:Xp->Int|.mk _ a _ _=>a
def Xp.name:Xp->ζ|.mk _ _ a _=>a
def Xp.l:Xp->Y Xp|.mk _ _ _ a=>a
def Sx.op:Sx->Int|.mk a _ _ _ _ _ _ _=>a
def Sx.line:Sx->Int|.mk _ a _ _ _ _ _ _=>a
def Sx.name:Sx->ζ|.mk _ _ a _ _ _ _ _=>a
def Sx.arg:Sx->ζ|.mk _ _ _ a _ _ _ _=>a
def Sx.index:Sx->Y Xp|.mk _ _ _ _ a _ _ _=>a
def Sx.expr:Sx->Xp|.mk _ _ _ _ _ a _ _=>a
def Sx.body:Sx->Y Sx|.mk _ _ _ _ _ _ a _=>a
def Sx.els:Sx->Y Sx|.mk _ _ _ _ _ _ _ a=>a
inductive Ty where
 |int (k:IntKind)
 |bool
 |str
 |sl (t:Ty)
 |st (t:Ty)
 |pr (a b:Ty)
 |un
 |ex
 |sm
 deriving DecidableEq
@[reducible] def Ty.den:Ty->Type
  |.int _=>Int
  |.bool=>Bool
  |.str=>ζ
  |.sl t=>Y t.den
  |.st t=>t.den
  |.pr a b=>a.den×b.den
  |.un=>Unit
  |.ex=>Xp
  |.sm=>Sx
def Ty.size:Ty->Nat
 |.st t=>t.size
 |.pr a b=>a.size+b.size
 |.un=>0
 |.ex=>4
 |.sm=>11
 |_=>1
def Ty.zero:(t:Ty)->t.den
 |.int _=>(0:Int)
 |.bool=>af
 |.str=>[]
 |.sl _=>[]
 |.st t=>t.zero
 |.pr a b=>(a.zero,b.zero)
 |.un=>()
 |.ex=>.mk 0 0 [] []
 |.sm=>.mk 0 0 [] [] [] (.mk 0 0 [] []) [] []
def Ty.one:Ty->Bool
 |.int _=>J
 |.bool=>J
 |.str=>J
 |.sl _=>J
 |_=>af
def RE:Ty:=.pr (.int .i64) (.pr (.int .i64) (.pr .str (.sl .ex)))
def Ra:Ty:=.pr (.int .i64) (.pr (.int .i64) (.pr .str (.pr .str (.pr (.sl .ex) (.pr .ex (.pr (.sl .sm) (.sl .sm)))))))
def Ss (e:Xp):RE.den:=(e.op,e.n,e.name,e.l)
def eP (x:RE.den):Xp:=.mk x.1 x.2.1 x.2.2.1 x.2.2.2
def Sr (e:Sx):Ra.den:=(e.op,e.line,e.name,e.arg,e.index,e.expr,e.body,e.els)
def o_ (x:Ra.den):Sx:=.mk x.1 x.2.1 x.2.2.1 x.2.2.2.1 x.2.2.2.2.1 x.2.2.2.2.2.1 x.2.2.2.2.2.2.1 x.2.2.2.2.2.2.2
mutual
def zL:Xp->Y FV
 |.mk op n name l=>[.raw (.int .i64 op),.raw (.int .i64 n),.raw (.string ⟨name.toArray⟩),.sl (NT l) (l! l)]
def NT:Y Xp->Y FV
 |[]=>[]
 |x::r=>zL x++NT r
end
mutual
def BE:Sx->Y FV
 |.mk op line name arg index expr body els=>[.raw (.int .i64 op),.raw (.int .i64 line),.raw (.string ⟨name.toArray⟩),.raw (.string ⟨arg.toArray⟩),.sl (NT index) (l! index)]++zL expr++[.sl (NS body) (l! body),.sl (NS els) (l! els)]
def NS:Y Sx->Y FV
 |[]=>[]
 |x::r=>BE x++NS r
end
def bE:(T:Ty)->T.den->Y FV
 |.int k,n=>[.raw (.int k n)]
 |.bool,b=>[.raw (.bool b)]
 |.str,s=>[.raw (.string ⟨s.toArray⟩)]
 |.sl t,xs=>[.sl (List.flatMap (bE t) xs) (aj xs)]
 |.st t,v=>bE t v
 |.pr a b,v=>bE a v.1++bE b v.2
 |.un,_=>[]
 |.ex,v=>zL v
 |.sm,v=>BE v
def gr:(T:Ty)->T.den->FV
 |.int k,n=>.raw (.int k n)
 |.bool,b=>.raw (.bool b)
 |.str,s=>.raw (.string ⟨s.toArray⟩)
 |.sl t,xs=>.sl (List.flatMap (bE t) xs) (aj xs)
 |.st t,v=>.agg (bE t v)
 |.pr a b,v=>.agg (bE a v.1++bE b v.2)
 |.un,_=>.agg []
 |.ex,v=>.agg (zL v)
 |.sm,v=>.agg (BE v)
def Qr:(T:Ty)->T.den->T.den->Bool
 |.int _,a,b=>decide ((a:Int)=b)
 |.bool,a,b=>(a:Bool)==b
 |.str,a,b=>decide ((a:ζ)=b)
 |.st t,a,b=>Qr t a b
 |.pr x y,a,b=>Qr x a.1 b.1&&Qr y a.2 b.2
 |_,_,_=>J
def wU {S:Ty} (T:Ty) (v:S.den):M T.den:=if h:S=T then Z (h▸v) else U
def dO (j:Int) (n:Nat):Bool:=dg 0 j&&gC j n
def geti (T:Ty) (xs:Y T.den) (j:Int):T.den:=xs.getD j.toNat T.zero
def ch (xs:Y R) (j:Int) (x:R):Y R:=xs.set j.toNat x
def Ul (xs z:Y R):Y R:=z.take (l! xs)++xs.drop (l! z)
def j6 (a b:Int):Int:=if gC a b then b else a
def KY (a b:Int):Int:=if gC b a then b else a
def ann (s:ζ) (j:Int):Int:=aQ (s.getD j.toNat 0).toNat
def aI (b:Bool) (t f:M R):M R:=match b with|true=>t|false=>f
def chk (b:Bool) (k:b=J->M R):M R:=match b,k with|true,k=>k rfl|false,_=>U
open Classical in
def zZ (a b:M R):M R:=if a=b then a else U
open Classical in
def same {α:Type} (a b:α) (r:M R):M R:=if a=b then r else U
def aB {α:Type} (o:M α) (k:α->M R):M R:=match o with|some x=>k x|none=>U
def lt {α:Type} (x:α) (k:α->M R):M R:=k x
def jn {α:Type} (o:M (R⊕α)) (k:α->M R):M R:=match o with|some (.inr x)=>k x|some (.inl r)=>Z r|none=>U
def iterN {σ:Type} (step:σ->M (σ⊕R)):Nat->σ->M R
 |0,_=>U
 |n+1,x=>match step x with
  |some (.inl y)=>iterN step n y
  |some (.inr r)=>Z r
  |none=>U
open Classical in
def iter {σ R:Type} (step:σ->M (σ⊕R)) (x:σ):M R:=
 if h:∃n,(iterN step n x).isSome=J then iterN step (Classical.choose h) x else U
def f_ {σ R:Type} (step:σ->M (σ⊕R)) (x:σ):M R:=iterN step 18446744073709551616 x
abbrev Bq:Type 1:=∀σ R:Type,(σ->M (σ⊕R))->σ->M R
def l9 (a b:M R):Prop:=∀y,a=Z y->b=Z y
def l9.rfl {a:M R}:l9 a a:=λ_ h=>h
def l9.bcase {t f z A:M R} (h1:l9 t z) (D:l9 f A):l9 (AI.aI b t f) (AI.aI b z A):=by cases b<;>assumption
def l9.chk {k z:M R} (h:l9 k z):l9 (AI.chk b λ_=>k) (AI.chk b λ_=>z):=by
 cases b with
 |true=>exact h
 |false=>exact λ_ h=>by cases h
def l9.obind {α:Type} {o z:M α} {k A:α->M R} (h:l9 o z) (L:∀x,l9 (k x) (A x)):l9 (AI.aB o k) (AI.aB z A):=by
 intro y D;cases o with
 |none=>cases D
 |some x=>rw[h x (by rfl)];exact L x y D
def l9.lt {α:Type} {x:α} {k z:α->M R} (h:∀y,l9 (k y) (z y)):l9 (AI.lt x k) (AI.lt x z):=h x
def l9.jn {α:Type} {o A:M (R⊕α)} {k D:α->M R} (h:l9 o A) (L:∀x,l9 (k x) (D x)):l9 (AI.jn o k) (AI.jn A D):=by
 intro y z;cases o with
 |none=>cases z
 |some x=>
  rw[h x (by rfl)];cases x with
  |inl r=>exact z
  |inr a=>exact L a y z
def l9.iterN {σ:Type} {f g:σ->M (σ⊕R)} (h:∀x,l9 (f x) (g x)):∀(n:Nat) (x:σ),l9 (AI.iterN f n x) (AI.iterN g n x)
 |0,_=>λ_ h=>by cases h
 |n+1,x=>by
  intro y A;cases hf:f x with
  |none=>rw[AI.iterN,hf]at A;cases A
  |some s=>
   rw[AI.iterN,hf]at A;rw[AI.iterN,h x s hf];cases s with
   |inl z=>exact l9.iterN h n z y A
   |inr r=>exact A
def M0 {σ:Type} {f:σ->M (σ⊕R)}:∀{n:Nat} {x:σ} {r:R},iterN f n x=Z r->iterN f (n+1) x=Z r
 |0,x,r,h=>by cases h
 |n+1,x,r,h=>by
  cases hf:f x with
  |none=>rw[iterN,hf]at h;cases h
  |some s=>
   cases s with
   |inl y=>rw[iterN,hf]at h;rw[iterN,hf];exact M0 h
   |inr q=>rw[iterN,hf]at h;rw[iterN,hf];exact h
def zC {σ:Type} {f:σ->M (σ⊕R)} {n:Nat} {x:σ} {r:R} (h:iterN f n x=Z r) (hle:n<=i):iterN f i x=Z r:=by
 induction hle with
 |refl=>exact h
 |step _ z=>exact M0 z
def Co {σ:Type} {f:σ->M (σ⊕R)} {n:Nat} {x:σ} {r:R} (h:iterN f n x=Z r):iter f x=Z r:=by
 have A:∃n,(iterN f n x).isSome=J:=⟨n,by rw[h];exact Eq.refl _⟩
 unfold iter;rw[dif_pos A];have L:=Classical.choose_spec A;let⟨r',z⟩:=jN.1 L;rw[z];rcases Nat.le_total n (Classical.choose A) with D|D
 .rw[zC h D]at z;exact z.symm
 .rw[zC z D]at h;exact h
def l9.iter {σ:Type} {f g:σ->M (σ⊕R)} {x:σ} (h:∀x,l9 (f x) (g x)):l9 (f_ f x) (AI.iter g x):=λy z=>Co (l9.iterN h _ x y z)
def orE (a b:M R):M R:=match a with|some y=>Z y|none=>b
def fuel:Nat:=Classical.choose (⟨100000,rfl⟩:∃n:Nat,n=100000)
def lh:fuel=100000:=Classical.choose_spec (⟨100000,rfl⟩:∃n:Nat,n=100000)
def KL (a:Ty):Ty->Ty
 |.un=>a
 |.int k=>.pr a (.int k)
 |.bool=>.pr a .bool
 |.str=>.pr a .str
 |.sl t=>.pr a (.sl t)
 |.st t=>.pr a (.st t)
 |.pr x y=>.pr a (.pr x y)
 |.ex=>.pr a .ex
 |.sm=>.pr a .sm
def spr:Ty->Ty->Ty
 |.un,b=>b
 |.int k,b=>KL (.int k) b
 |.bool,b=>KL .bool b
 |.str,b=>KL .str b
 |.sl t,b=>KL (.sl t) b
 |.st t,b=>KL (.st t) b
 |.pr x y,b=>KL (.pr x y) b
 |.ex,b=>KL .ex b
 |.sm,b=>KL .sm b
def VR (a:Ty):(b:Ty)->a.den->b.den->(KL a b).den
 |.un,x,_=>x
 |.int _,x,y|.bool,x,y|.str,x,y|.sl _,x,y|.st _,x,y|.pr _ _,x,y|.ex,x,y|.sm,x,y=>(x,y)
def fsN (a:Ty):(b:Ty)->(KL a b).den->a.den
 |.un,z=>z
 |.int _,z|.bool,z|.str,z|.sl _,z|.st _,z|.pr _ _,z|.ex,z|.sm,z=>z.1
def snN (a:Ty):(b:Ty)->(KL a b).den->b.den
 |.un,_=>()
 |.int _,z|.bool,z|.str,z|.sl _,z|.st _,z|.pr _ _,z|.ex,z|.sm,z=>z.2
def mkp:(a b:Ty)->a.den->b.den->(spr a b).den
 |.un,_,_,y=>y
 |.int k,b,x,y=>VR (.int k) b x y
 |.bool,b,x,y=>VR .bool b x y
 |.str,b,x,y=>VR .str b x y
 |.sl t,b,x,y=>VR (.sl t) b x y
 |.st t,b,x,y=>VR (.st t) b x y
 |.pr u v,b,x,y=>VR (.pr u v) b x y
 |.ex,b,x,y=>VR .ex b x y
 |.sm,b,x,y=>VR .sm b x y
def US:(a b:Ty)->(spr a b).den->a.den
 |.un,_,_=>()
 |.int k,b,z=>fsN (.int k) b z
 |.bool,b,z=>fsN .bool b z
 |.str,b,z=>fsN .str b z
 |.sl t,b,z=>fsN (.sl t) b z
 |.st t,b,z=>fsN (.st t) b z
 |.pr u v,b,z=>fsN (.pr u v) b z
 |.ex,b,z=>fsN .ex b z
 |.sm,b,z=>fsN .sm b z
def SE:(a b:Ty)->(spr a b).den->b.den
 |.un,_,z=>z
 |.int k,b,z=>snN (.int k) b z
 |.bool,b,z=>snN .bool b z
 |.str,b,z=>snN .str b z
 |.sl t,b,z=>snN (.sl t) b z
 |.st t,b,z=>snN (.st t) b z
 |.pr u v,b,z=>snN (.pr u v) b z
 |.ex,b,z=>snN .ex b z
 |.sm,b,z=>snN .sm b z
def vF (a b:Ty) (x:a.den) (y:b.den):US a b (mkp a b x y)=x:=by cases a<;>cases b<;>rfl
def xy (a b:Ty) (x:a.den) (y:b.den):SE a b (mkp a b x y)=y:=by cases a<;>cases b<;>rfl
inductive Sb where
 |ob (id:Nat) (j:Int) (off:Nat)
 |om (id:Nat) (j:Int) (b:Nat)
 |nr (id:Nat) (j:Int) (sz n:Nat)
 |np (id:Nat) (j:Int) (sz:Nat) (i:Int) (off:Nat)
 |nl
def Sb.id:Sb->Nat
 |.ob i _ _=>i
 |.om i _ _=>i
 |.nr i _ _ _=>i
 |.np i _ _ _ _=>i
 |.nl=>0
def Sb.to (i:Nat):Sb->Sb
 |.ob _ j o=>.ob i j o
 |.om _ j b=>.om i j b
 |.nr _ j s n=>.nr i j s n
 |.np _ j s k o=>.np i j s k o
 |.nl=>.nl
inductive uF where
 |ar (ty:TypeId) (S:Ty)
 |qn (ty:TypeId)
 |qr
 |rr (ty:TypeId) (sz:Nat)
 |ir (ty:TypeId) (T:Ty)
 deriving DecidableEq
abbrev mbT:Ty:=.sl (.pr (.int .i64) .bool)
abbrev kyT:Ty:=.pr (.int .i64) (.int .i64)
def uF.ty:uF->Ty
 |.ar _ S=>.sl (.pr S (.pr mbT mbT))
 |.qn _=>.sl (.int .i64)
 |.qr=>.sl (.pr kyT (.int .i64))
 |.rr _ _=>.sl (.int .i64)
 |.ir _ T=>.sl (.sl T)
def uF.aid (n:Nat):uF->Nat
 |.ar _ _=>0
 |.ir _ _=>0
 |_=>n
def sk:(F:uF)->F.ty.den->M (Bool×q!)
 |.qn _,A=>Z (J,1,aj A)
 |.rr _ _,z=>Z (af,1,aj z)
 |_,_=>U
inductive TV where
 |f (T:Ty) (v:T.den)
 |zf (T:Ty) (xs:List T.den) (j:Int) (h:dO j (l! xs)=J) (off:Nat)
 |zj (id sz:Nat) (j:Int) (off:Nat)
 |P (id off:Nat)
 |I (id:Nat)
 |qg (id sz n:Nat)
 |emp
 |nil
 |mp (id:Nat)
 |agg (l:List TV)
 |qb (l:List TV)
 |qy (g:FuncId) (l:List TV)
 |undef
 |np
 |qw
 |zh (id:Nat) (j:Int)
 |qc (T:Ty) (xs:List T.den)
 |sb (s:Sb)
instance cty (n:Nat):OfNat (M TypeId) n:=⟨Z n⟩
inductive e_ where
 |H (ty:TypeId) (p:Bool) (T:Ty) (xs:List T.den)
 |G (ty:Option TypeId) (l:List TV)
 |qj (p:Bool) (sz n:Nat)
 |mp (K V:Ty) (es:List (K.den×V.den))
 |Q (F:uF) (a:Nat) (x:F.ty.den)
 |qd (F:uF) (a:Nat) (x:F.ty.den) (k:ν) (p:Option (Nat×Bool×Nat))
abbrev ii:=PT TV
abbrev aY:=PT e_
def cst:Value->M TV
 |.int k n=>Z (.f (.int k) n)
 |.bool b=>Z (.f .bool b)
 |.string s=>Z (.f .str s.data.toList)
 |.slice U 0 0=>Z .nil
 |.pointer U=>Z .np
 |.map U=>Z (.sb .nl)
 |_=>U
def OE:ξ->M (Y TV)
 |[]=>Z []
 |v::r=>match cst v,OE r with|some x,Z l=>Z (x::l)|_,_=>U
def au4:Value->M TV
 |.agg vs=>if OX vs.toList then (match OE vs.toList with|some l=>Z (.agg l)|none=>U) else U
 |v=>cst v
def cellsOf:Nat->(T:Ty)->T.den->M (Y TV)
 |0,_,_=>U
 |n+1,.st t,v=>cellsOf n t v
 |n+1,.pr a b,v=>match cellsOf n a v.1,cellsOf n b v.2 with|some x,Z y=>Z (x++y)|_,_=>U
 |_+1,.un,_=>Z []
 |n+1,.ex,v=>cellsOf n RE (Ss v)
 |n+1,.sm,v=>cellsOf n Ra (Sr v)
 |_+1,.int k,v=>Z [.f (.int k) v]
 |_+1,.bool,v=>Z [.f .bool v]
 |_+1,.str,v=>Z [.f .str v]
 |_+1,.sl t,v=>Z [.f (.sl t) v]
def TV.isC:TV->Bool
 |.f T _=>T.one
 |.zf _ _ _ _ _=>J
 |.zj _ _ _ _=>J
 |.P _ _=>J
 |.I _=>J
 |.qg _ _ _=>J
 |.emp=>J
 |.nil=>J
 |.np=>J
 |.mp _=>J
 |.qy _ _=>J
 |.sb _=>J
 |_=>af
def lX:Y TV->Bool
 |[]=>J
 |x::r=>x.isC&&lX r
def TV.cs (v:TV):M (Y TV):=match v with
 |.agg l=>if lX l then Z l else U
 |.f T x=>cellsOf 40 T x
 |x=>if x.isC then Z [x] else U
def gF (i:Nat):Nat:=1<<<i
def iB (h:aY) (T:Ty):TV->M (T.den×Nat)
 |.f _ v=>match wU T v with|some x=>Z (x,0)|none=>U
 |.emp|.nil=>(match T with|.sl _=>Z ([],0)|_=>U)
 |.I id=>match h.get id with
  |some (.H _ _ S xs)=>(match wU (S:=.sl S) T xs with|some x=>Z (x,gF id)|none=>U)
  |_=>U
 |_=>U
def fK (h:aY):Nat->(T:Ty)->Y TV->M (T.den×Nat×Y TV)
 |0,_,_=>U
 |n+1,.st t,l=>fK h n t l
 |n+1,.pr a b,l=>match fK h n a l with
  |some (x,m,r)=>(match fK h n b r with|some (y,m',z)=>Z ((x,y),m|||m',z)|none=>U)
  |none=>U
 |_+1,.un,l=>Z ((),0,l)
 |n+1,.ex,l=>match fK h n RE l with|some (x,m,r)=>Z (eP x,m,r)|none=>U
 |n+1,.sm,l=>match fK h n Ra l with|some (x,m,r)=>Z (o_ x,m,r)|none=>U
 |_+1,.int k,l=>match l with|c::r=>(match iB h (.int k) c with|some (x,m)=>Z (x,m,r)|none=>U)|[]=>U
 |_+1,.bool,l=>match l with|c::r=>(match iB h .bool c with|some (x,m)=>Z (x,m,r)|none=>U)|[]=>U
 |_+1,.str,l=>match l with|c::r=>(match iB h .str c with|some (x,m)=>Z (x,m,r)|none=>U)|[]=>U
 |_+1,.sl t,l=>match l with|c::r=>(match iB h (.sl t) c with|some (x,m)=>Z (x,m,r)|none=>U)|[]=>U
def FE (h:aY) (T:Ty) (v:TV):M (T.den×Nat):=match v with
 |.agg l=>if T.one then U else (match fK h 40 T l with|some (x,m,[])=>Z (x,m)|_=>U)
 |x=>iB h T x
def oq:Nat->(T:Ty)->T.den->Nat->Nat->Bool->M TV
 |0,_,_,_,_,_=>U
 |n+1,.st t,v,off,sz,z=>if ax off 0&&ax sz t.size&&z then Z (.f (.st t) v) else oq n t v off sz z
 |n+1,.pr a b,v,off,sz,z=>if eE off a.size then oq n a v.1 off sz z else oq n b v.2 (off-a.size) sz z
 |_+1,.un,_,_,_,_=>U
 |n+1,.ex,v,off,sz,z=>if ax off 0&&ax sz 4&&z then Z (.f .ex v) else oq n RE (Ss v) off sz z
 |n+1,.sm,v,off,sz,z=>if ax off 0&&ax sz 11&&z then Z (.f .sm v) else oq n Ra (Sr v) off sz z
 |_+1,.int k,v,off,sz,z=>if ax off 0&&ax sz 1&& !z then Z (.f (.int k) v) else U
 |_+1,.bool,v,off,sz,z=>if ax off 0&&ax sz 1&& !z then Z (.f .bool v) else U
 |_+1,.str,v,off,sz,z=>if ax off 0&&ax sz 1&& !z then Z (.f .str v) else U
 |_+1,.sl t,v,off,sz,z=>if ax off 0&&ax sz 1&& !z then Z (.f (.sl t) v) else U
def gW (h:aY) (x:TV):Nat->(T:Ty)->T.den->Nat->Nat->M (T.den×Nat)
 |0,_,_,_,_=>U
 |n+1,.st t,v,off,sz=>match (if ax off 0&&ax sz t.size then FE h (.st t) x else U) with
  |some y=>Z y
  |none=>gW h x n t v off sz
 |n+1,.pr a b,v,off,sz=>if eE off a.size then (match gW h x n a v.1 off sz with|some (y,m)=>Z ((y,v.2),m)|none=>U) else (match gW h x n b v.2 (off-a.size) sz with|some (y,m)=>Z ((v.1,y),m)|none=>U)
 |_+1,.un,_,_,_=>U
 |n+1,.ex,v,off,sz=>match (if ax off 0&&ax sz 4 then FE h .ex x else U) with
  |some y=>Z y
  |none=>(match gW h x n RE (Ss v) off sz with|some (y,m)=>Z (eP y,m)|none=>U)
 |n+1,.sm,v,off,sz=>match (if ax off 0&&ax sz 11 then FE h .sm x else U) with
  |some y=>Z y
  |none=>(match gW h x n Ra (Sr v) off sz with|some (y,m)=>Z (o_ y,m)|none=>U)
 |_+1,.int k,_,off,sz=>if ax off 0&&ax sz 1 then iB h (.int k) x else U
 |_+1,.bool,_,off,sz=>if ax off 0&&ax sz 1 then iB h .bool x else U
 |_+1,.str,_,off,sz=>if ax off 0&&ax sz 1 then iB h .str x else U
 |_+1,.sl t,_,off,sz=>if ax off 0&&ax sz 1 then iB h (.sl t) x else U
def Ec (h:aY) (T:Ty):Nat->Y TV->M (Y T.den×Nat)
 |0,[]=>Z ([],0)
 |0,_::_=>U
 |n+1,l=>match fK h 40 T l with
  |some (x,m,r)=>(match Ec h T n r with|some (xs,m')=>Z (x::xs,m|||m')|none=>U)
  |none=>U
def vb:Ty->ξ
 |.int k=>[.int k 0]
 |.bool=>[.bool af]
 |.str=>[.string ⟨#[]⟩]
 |.sl _=>[.slice U 0 0]
 |.st t=>vb t
 |.pr a b=>vb a++vb b
 |.un=>[]
 |.ex=>[.int .i64 0,.int .i64 0,.string ⟨#[]⟩,.slice U 0 0]
 |.sm=>[.int .i64 0,.int .i64 0,.string ⟨#[]⟩,.string ⟨#[]⟩,.slice U 0 0,.int .i64 0,.int .i64 0,.string ⟨#[]⟩,.slice U 0 0,.slice U 0 0,.slice U 0 0]
def X4:ξ->ξ->Bool
 |[],[]=>J
 |x::xs,y::z=>aud x y&&X4 xs z
 |_,_=>af
def Ty.flat:Ty->Bool
 |.int _=>J
 |.bool=>J
 |.str=>J
 |.st t=>t.flat
 |.pr a b=>a.flat&&b.flat
 |.un=>J
 |_=>af
def sS:Y TypeDesc->M Ty
 |[]=>Z .un
 |.int k::r=>match sS r with|some t=>Z (.pr (.int k) t)|none=>U
 |.bool::r=>match sS r with|some t=>Z (.pr .bool t)|none=>U
 |.string::r=>match sS r with|some t=>Z (.pr .str t)|none=>U
 |_=>U
inductive PV where
 |d (T:Ty)
 |P (id off:Nat)
 |I (id:Nat)
 |qg (id sz n:Nat)
 |mp (id:Nat)
 |nil
 |emp
 |qy (q:FuncId) (l:List (Nat×Nat))
 |ob (id off:Nat)
 |nr (id sz:Nat)
 |agg (l:List PV)
inductive PB where
 |H (ty:TypeId) (p:Bool) (T:Ty)
 |qp (ty:TypeId) (T:Ty)
 |G (ty:Option TypeId) (l:List PV)
 |mp (K V:Ty)
 |Q (F:uF) (a:Nat)
 |qf
mutual
def PV.ty:PV->Ty
 |.d T=>T
 |.agg l=>PV.tyL l
 |.P _ _|.I _|.qg _ _ _|.qy _ _=>.un
 |.ob _ _=>.int .i64
 |.nr _ _=>.pr (.int .i64) (.int .i64)
 |.mp _|.nil|.emp=>.un
def PV.tyL:Y PV->Ty
 |[]=>.un
 |p::r=>spr p.ty (PV.tyL r)
end
def PB.ty:PB->Ty
 |.H _ _ T=>.sl T
 |.qp _ T=>.pr .bool (.sl T)
 |.G _ l=>PV.tyL l
 |.mp K V=>.sl (.pr K V)
 |.Q F _=>F.ty
 |.qf=>.un
def PB.tyL:Y PB->Ty
 |[]=>.un
 |p::r=>spr p.ty (PB.tyL r)
structure Tm where
 vs:List PV
 bs:List PB
def Tm.ty (t:Tm):Ty:=spr (PV.tyL t.vs) (PB.tyL t.bs)
def Mt (g:Nat->Nat):Y q!->Y TV->Bool
 |[],[]=>J
 |(i,o)::r,.P A z::vs=>ax (g i) A&&ax o z&&Mt g r vs
 |_,_=>af
mutual
def m_ (g:Nat->Nat) (h:aY):(p:PV)->Y TV->M (p.ty.den×Nat×Y TV)
 |.d T,l=>fK h 40 T l
 |.P i o,l=>match l with|.P i' o'::r=>if ax (g i) i'&&ax o o' then Z ((),0,r) else U|_=>U
 |.I i,l=>match l with|.I i'::r=>if ax (g i) i' then Z ((),0,r) else U|_=>U
 |.qg i s n,l=>match l with|.qg i' s' n'::r=>if ax (g i) i'&&ax s s'&&ax n n' then Z ((),0,r) else U|_=>U
 |.qy q ps,l=>match l with|.qy q' vs::r=>if ax q q'&&Mt g ps vs then Z ((),0,r) else U|_=>U
 |.ob i o,l=>match l with|.sb (.ob i' j o')::r=>if ax (g i) i'&&ax o o' then Z (j,0,r) else U|_=>U
 |.nr i s,l=>match l with|.sb (.nr i' j s' n)::r=>if ax (g i) i'&&ax s s' then Z ((j,aQ n),0,r) else U|_=>U
 |.mp i,l=>match l with|.mp i'::r=>if ax (g i) i' then Z ((),0,r) else U|_=>U
 |.nil,l=>match l with|.nil::r=>Z ((),0,r)|_=>U
 |.emp,l=>match l with|.nil::r=>Z ((),0,r)|.emp::r=>Z ((),0,r)|_=>U
 |.agg ps,l=>CA g h ps l
def CA (g:Nat->Nat) (h:aY):(ps:Y PV)->Y TV->M ((PV.tyL ps).den×Nat×Y TV)
 |[],l=>Z ((),0,l)
 |p::r,l=>match m_ g h p l with
  |some (x,m,l')=>(match CA g h r l' with|some (y,m',l'')=>Z (mkp p.ty (PV.tyL r) x y,m|||m',l'')|none=>U)
  |none=>U
end
def wM (g:Nat->Nat) (h:aY):(p:PV)->TV->M (p.ty.den×Nat)
 |.d T,v=>FE h T v
 |.agg z,v=>if v.isC then U else (match v.cs with
  |some l=>(match CA g h z l with|some (x,m,[])=>Z (x,m)|_=>U)
  |none=>U)
 |.P i o,v=>match m_ g h (.P i o) [v] with|some (x,m,_)=>Z (x,m)|none=>U
 |.I i,v=>match m_ g h (.I i) [v] with|some (x,m,_)=>Z (x,m)|none=>U
 |.qg i s n,v=>match m_ g h (.qg i s n) [v] with|some (x,m,_)=>Z (x,m)|none=>U
 |.qy q z,v=>match m_ g h (.qy q z) [v] with|some (x,m,_)=>Z (x,m)|none=>U
 |.ob i o,v=>match m_ g h (.ob i o) [v] with|some (x,m,_)=>Z (x,m)|none=>U
 |.nr i s,v=>match m_ g h (.nr i s) [v] with|some (x,m,_)=>Z (x,m)|none=>U
 |.mp i,v=>match m_ g h (.mp i) [v] with|some (x,m,_)=>Z (x,m)|none=>U
 |.nil,v=>match m_ g h .nil [v] with|some (x,m,_)=>Z (x,m)|none=>U
 |.emp,v=>match m_ g h .emp [v] with|some (x,m,_)=>Z (x,m)|none=>U
def Cz (g:Nat->Nat) (h:aY):(z:Y PV)->Y TV->M ((PV.tyL z).den×Nat)
 |[],[]=>Z ((),0)
 |p::r,v::vs=>match wM g h p v with
  |some (x,m)=>(match Cz g h r vs with|some (y,m')=>Z (mkp p.ty (PV.tyL r) x y,m|||m')|none=>U)
  |none=>U
 |[],_::_=>U
 |_::_,[]=>U
def Fn (g:Nat->Nat) (h:aY) (i:Nat):(b:PB)->M (b.ty.den×Nat)
 |.H ty p T=>match h.get (g i) with
  |some (.H ty' z S xs)=>if ty==ty'&&p==z then (match wU (S:=.sl S) (.sl T) xs with|some x=>Z (x,0)|none=>U) else U
  |_=>U
 |.qp ty T=>match h.get (g i) with
  |some (.H ty' z S xs)=>if ty==ty' then (match wU (S:=.sl S) (.sl T) xs with|some x=>Z ((z,x),0)|none=>U) else U
  |_=>U
 |.G ty A=>match h.get (g i) with
  |some (.G ty' l)=>if ty==ty' then (match CA g h A l with|some (x,m,[])=>Z (x,m)|_=>U) else U
  |_=>U
 |.mp K V=>match h.get (g i) with
  |some (.mp K' V' es)=>(match wU (S:=.sl (.pr K' V')) (.sl (.pr K V)) es with|some x=>Z (x,0)|none=>U)
  |_=>U
 |.Q F a=>match h.get (g i) with
  |some (.Q F' L x)=>if D:F'=F then (if ax (F.aid (g a)) L then Z (D▸x,0) else U) else U
  |_=>U
 |.qf=>Z ((),0)
def GZ (g:Nat->Nat) (h:aY):Nat->(bs:Y PB)->M ((PB.tyL bs).den×Nat)
 |_,[]=>Z ((),0)
 |i,b::r=>match Fn g h i b with
  |some (x,m)=>(match GZ g h (i+1) r with|some (y,m')=>Z (mkp b.ty (PB.tyL r) x y,m|||m')|none=>U)
  |none=>U
mutual
def nV (g:Nat->Nat):(p:PV)->p.ty.den->M (Y TV)
 |.d T,x=>cellsOf 40 T x
 |.P i o,_=>Z [.P (g i) o]
 |.I i,_=>Z [.I (g i)]
 |.qg i s n,_=>Z [.qg (g i) s n]
 |.mp i,_=>Z [.mp (g i)]
 |.qy q ps,_=>Z [.qy q (ps.map λp=>.P (g p.1) p.2)]
 |.ob i o,j=>Z [.sb (.ob (g i) j o)]
 |.nr i s,x=>Z [.sb (.nr (g i) x.1 s (aN x.2))]
 |.nil,_=>Z [.nil]
 |.emp,_=>Z [.emp]
 |.agg ps,x=>sN g ps x
def sN (g:Nat->Nat):(ps:Y PV)->(PV.tyL ps).den->M (Y TV)
 |[],_=>Z []
 |p::r,x=>match nV g p (US p.ty (PV.tyL r) x) with
  |some a=>(match sN g r (SE p.ty (PV.tyL r) x) with|some b=>Z (a++b)|none=>U)
  |none=>U
end
def rF (g:Nat->Nat):(p:PV)->p.ty.den->M TV
 |.d T,x=>Z (.f T x)
 |.P i o,_=>Z (.P (g i) o)
 |.I i,_=>Z (.I (g i))
 |.qg i s n,_=>Z (.qg (g i) s n)
 |.mp i,_=>Z (.mp (g i))
 |.qy q z,_=>Z (.qy q (z.map λp=>.P (g p.1) p.2))
 |.ob i o,j=>Z (.sb (.ob (g i) j o))
 |.nr i s,x=>Z (.sb (.nr (g i) x.1 s (aN x.2)))
 |.nil,_=>Z .nil
 |.emp,_=>Z .emp
 |.agg z,x=>match sN g z x with|some l=>Z (.agg l)|none=>U
def rE (g:Nat->Nat):(z:Y PV)->(PV.tyL z).den->M (Y TV)
 |[],_=>Z []
 |p::r,x=>match rF g p (US p.ty (PV.tyL r) x) with
  |some a=>(match rE g r (SE p.ty (PV.tyL r) x) with|some b=>Z (a::b)|none=>U)
  |none=>U
def DH (g:Nat->Nat):(b:PB)->b.ty.den->M (M e_)
 |.H ty p T,x=>Z (Z (.H ty p T x))
 |.qp ty T,x=>Z (Z (.H ty x.1 T x.2))
 |.G ty z,x=>match sN g z x with|some l=>Z (Z (.G ty l))|none=>U
 |.mp K V,x=>Z (Z (.mp K V x))
 |.Q F a,x=>Z (Z (.Q F (F.aid (g a)) x))
 |.qf,_=>Z U
def vg:e_->e_
 |.H _ p T xs=>.qj p T.size (l! xs)
 |.G _ _|.mp _ _ _=>.qj J 0 0
 |.Q F _ x|.qd F _ x _ _=>(match sk F x with|some (p,s,n)=>.qj p s n|none=>.qj J 0 0)
 |.qj p sz n=>.qj p sz n
def kill (h:aY) (i:Nat):aY:=match h.get i with
 |some b=>h.set i (Z (vg b))
 |none=>h
def qU (g:Nat->Nat):(bs:Y PB)->(PB.tyL bs).den->M (Y (M e_))
 |[],_=>Z []
 |b::r,x=>match DH g b (US b.ty (PB.tyL r) x) with
  |some c=>(match qU g r (SE b.ty (PB.tyL r) x) with|some l=>Z (c::l)|none=>U)
  |none=>U
def DP (g:Nat->Nat):Nat->Y (M e_)->aY->aY
 |_,[],h=>h
 |i,Z c::r,h=>DP g (i+1) r (h.set (g i) (Z c))
 |i,U::r,h=>DP g (i+1) r (kill h (g i))
def Rh (g:Nat->Nat) (bs:Y PB) (x:(PB.tyL bs).den) (h:aY):M aY:=match qU g bs x with
 |some l=>Z (DP g 0 l h)
 |none=>U
variable {K:Ty}
def wE {V:Ty} (k:K.den):Y (K.den×V.den)->M V.den
 |[]=>U
 |(z,v)::r=>if Qr K k z then Z v else wE k r
def uP {V:Ty} (k:K.den) (v:V.den):Y (K.den×V.den)->Y (K.den×V.den)
 |[]=>[(k,v)]
 |(z,A)::r=>if Qr K k z then (k,v)::r else (z,A)::uP k v r
def af0 {V:Ty} (k:K.den) (es:Y (K.den×V.den)):Bool:=match wE k es with|some _=>J|none=>af
def rh {V:Ty} (k:K.den) (es:Y (K.den×V.den)) (z:V.den):V.den:=match wE k es with|some v=>v|none=>z
def ax4 (T:Ty):Nat->Ty
 |0=>.un
 |1=>T
 |n+2=>.pr T (ax4 T (n+1))
def kwT:Ty:=.st (ax4 .str 22)
def kwV:kwT.den:=([118,97,114],[118,111,108,97,116,105,108,101],[109,117,116,101,120],[114,119,108,111,99,107],[99,111,110,100],[102,117,116,117,114,101],[116,104,114,101,97,100],[105,102],[101,108,115,101],[119,104,105,108,101],[108,111,99,107],[114,101,97,100],[119,114,105,116,101],[116,114,97,110,115,97,99,116,105,111,110],[97,116,111,109,105,99],[119,97,105,116],[110,111,116,105,102,121],[110,111,116,105,102,121,97,108,108],[115,112,97,119,110],[106,111,105,110],[115,101,116],[103,101,116])
structure cw where
 pre:Tm
 post:Tm
 m:pre.ty.den->Option post.ty.den
def aaw:Y q!->Y TV->PT Nat->PT Nat
 |(i,_)::r,.P a _::vs,σ=>aaw r vs (σ.set i (Z a))
 |_::r,_::vs,σ=>aaw r vs σ
 |_,_,σ=>σ
mutual
def asb:PV->Y TV->PT Nat->PT Nat×Y TV
 |.d T,l,σ=>(σ,l.drop T.size)
 |.P i _,l,σ=>match l with|.P a _::r=>(σ.set i (Z a),r)|l=>(σ,l.drop 1)
 |.I i,l,σ=>match l with|.I a::r=>(σ.set i (Z a),r)|l=>(σ,l.drop 1)
 |.qg i _ _,l,σ=>match l with|.qg a _ _::r=>(σ.set i (Z a),r)|l=>(σ,l.drop 1)
 |.mp i,l,σ=>match l with|.mp a::r=>(σ.set i (Z a),r)|l=>(σ,l.drop 1)
 |.qy _ ps,l,σ=>match l with|.qy _ vs::r=>(aaw ps vs σ,r)|l=>(σ,l.drop 1)
 |.ob i _,l,σ=>match l with|.sb (.ob a _ _)::r=>(σ.set i (Z a),r)|l=>(σ,l.drop 1)
 |.nr i _,l,σ=>match l with|.sb (.nr a _ _ _)::r=>(σ.set i (Z a),r)|l=>(σ,l.drop 1)
 |.nil,l,σ|.emp,l,σ=>(σ,l.drop 1)
 |.agg ps,l,σ=>aax ps l σ
def aax:Y PV->Y TV->PT Nat->PT Nat×Y TV
 |[],l,σ=>(σ,l)
 |p::r,l,σ=>match asb p l σ with|(σ',l')=>aax r l' σ'
end
def axz (p:PV) (v:TV) (σ:PT Nat):PT Nat:=match p with
 |.d _=>σ
 |p=>match v.cs with|some l=>(asb p l σ).1|none=>σ
def alr:Y PV->Y TV->PT Nat->PT Nat
 |p::r,v::vs,σ=>alr r vs (axz p v σ)
 |_,_,σ=>σ
def aay (h:aY):Nat->Y PB->PT Nat->PT Nat
 |_,[],σ=>σ
 |i,b::r,σ=>aay h (i+1) r (match b with
  |.G _ z=>(match σ.get i with
   |some a=>(match h.get a with|some (.G _ l)=>(aax z l σ).1|_=>σ)
   |none=>σ)
  |.Q F j=>(match σ.get i with
   |some a=>(match h.get a with|some (.Q _ b _)=>(if ax (F.aid 1) 0 then σ else σ.set j (Z b))|_=>σ)
   |none=>σ)
  |_=>σ)
def iz (σ:PT Nat) (i:Nat):Nat:=match σ.get i with|some a=>a|none=>0
def ai9 (σ:PT Nat):Nat->Nat->Nat->M Nat
 |0,_,acc=>Z acc
 |n+1,i,acc=>match σ.get i with
  |some a=>if aL acc a then U else ai9 σ n (i+1) (acc|||gF a)
  |none=>U
def idn:Nat->PT Nat
 |0=>.leaf
 |n+1=>(idn n).set n (Z n)
def ad5 (σ:PT Nat):Nat->Bool
 |0=>J
 |n+1=>(match σ.get n with|some a=>ax a n|none=>af)&&ad5 σ n
structure ayr (t:Tm) where
 x:t.ty.den
 m:Nat
 σ:PT Nat
 sm:Nat
def Fc (np:Nat) (t:Tm) (vs:Y TV) (h:aY):M (ayr t):=
 Wy (aay h 0 t.bs (aay h 0 t.bs (alr t.vs vs (idn np)))) λσ=>
 match ai9 σ (l! t.bs) 0 0 with
 |some sm=>(match Cz (iz σ) h t.vs vs with
  |some (x,m)=>(match GZ (iz σ) h 0 t.bs with
   |some (y,m')=>if Kv (m|||m') sm&&ad5 σ np then Z ⟨mkp _ _ x y,m|||m',σ,sm⟩ else U
   |none=>U)
  |none=>U)
 |none=>U
def PT.updI (f:Nat->R->R):Nat->Nat->PT R->PT R
 |_,_,.leaf=>.leaf
 |a,b,.node v l r=>.node (match v with|some x=>Z (f b x)|none=>U) (PT.updI f (2*a) (a+b) l) (PT.updI f (2*a) (2*a+b) r)
def dP (m:Nat) (h:aY):aY:=if ax m 0 then h else PT.updI (λi b=>if aL m i then vg b else b) 1 0 h
def Zg:Operand->Bool
 |.const (.agg _)=>J
 |_=>af
def dH (e:ii):Operand->M TV
 |.tmp t=>e.get t
 |.const v=>au4 v
 |.func g=>Z (.qy g [])
 |.global g=>match G g with|some _=>Z (.zf kwT [kwV] 0 (Eq.refl J) 0)|none=>U
def Mz (e:ii):Y Operand->M (Y TV)
 |[]=>Z []
 |x::xs=>match dH e x with|some y=>(match Mz e xs with|some z=>Z (y::z)|none=>U)|none=>U
def ND (cells:Y TV) (e:ii):Y n?->M (Y TV)
 |[]=>Z cells
 |(off,sz,x)::r=>match dH e x with
  |some v=>(match v.cs with
   |some cs=>if (l! cs)==sz&&dR (off+sz) (l! cells) then ND (splice cells off cs) e r else U
   |none=>U)
  |none=>U
def YI (l:Y TV) (off sz:Nat):Bool->M TV
 |false=>if ax sz 1 then l[off]? else U
 |true=>if dR (off+sz) (l! l) then Z (.agg ((l.drop off).take sz)) else U
def eQ (h:aY) (id:Nat):M (Bool×q!):=match h.get id with
 |some (.H _ p T xs)=>Z (p,T.size,l! xs)
 |some (.qj p sz n)=>Z (p,sz,n)
 |some (.Q F _ x)|some (.qd F _ x _ _)=>sk F x
 |_=>U
def lenOf (h:aY):TV->M Nat
 |.f (.sl _) xs=>Z (aj xs)
 |.emp|.nil=>Z 0
 |.I id=>match eQ h id with|some (_,_,n)=>Z n|none=>U
 |.qg _ _ n|.sb (.nr _ _ _ n)=>Z n
 |_=>U
mutual
def P0 (h:aY):TV->Bool
 |.I id|.zh id _=>(eQ h id).isSome
 |.qc _ _=>J
 |.sb _=>J
 |.agg l|.qb l|.qy _ l=>l8 h l
 |.f _ _=>J
 |.zf _ _ _ _ _=>J
 |.zj _ _ _ _=>J
 |.P _ _=>J
 |.qg _ _ _=>J
 |.emp=>J
 |.nil=>J
 |.mp _=>J
 |.undef=>J
 |.np=>J
 |.qw=>J
def l8 (h:aY):Y TV->Bool
 |[]=>J
 |x::r=>P0 h x&&l8 h r
end
mutual
def JF (n:Nat):TV->Bool
 |.I id|.zh id _=>eE id n
 |.qc _ _=>J
 |.sb s=>eE s.id n
 |.zj id _ _ _|.P id _|.qg id _ _|.mp id=>eE id n
 |.agg l|.qb l|.qy _ l=>rz n l
 |.f _ _=>J
 |.zf _ _ _ _ _=>J
 |.emp=>J
 |.nil=>J
 |.undef=>J
 |.np=>J
 |.qw=>J
def rz (n:Nat):Y TV->Bool
 |[]=>J
 |x::r=>JF n x&&rz n r
end
def Ee (t:Tm) (x:t.ty.den):M (Y TV×aY):=
 match rE (λi=>i) t.vs (US _ _ x) with
 |some vs=>(match Rh (λi=>i) t.bs (SE _ _ x) PT.leaf with
  |some h=>if l8 h vs&&rz (l! t.bs) vs&&PT.all (λ_ b=>match b with|.G _ l=>l8 h l&&rz (l! t.bs) l|.Q _ a _=>eE a (l! t.bs)|.qd _ _ _ _ _=>af|_=>J) 1 0 h then Z (vs,h) else U
  |none=>U)
 |none=>U
abbrev KO (R:Type):=TV->Nat->Nat->aY->Nat->M R
def Vo:Y TV->TV
 |[x]=>x
 |l=>.qb l
def E5:Y PB->Bool
 |[]=>J
 |.qf::_=>af
 |_::r=>E5 r
def L6:Y PB->Bool
 |[]=>J
 |.H _ _ _::r=>L6 r
 |_::_=>af
def vX (h z:aY) (g:Nat->Nat):Nat->Bool
 |0=>J
 |n+1=>(match eQ h (g n) with
  |some (p,s,k)=>(match eQ z (g n) with|some (A,s',D)=>(p==A)&&ax s s'&&ax k D|none=>af)
  |none=>J)&&vX h z g n
def ano (f:FuncId):Y TV->FuncId
 |[]=>f
 |.qy g _::_=>f+65536*(g+1)
 |.sb (.nr _ _ _ _)::r=>f+65536*(60000+l! r)
 |_::r=>ano f r
def au6 (con:FuncId->M cw) (f:FuncId) (l:Y TV):M cw:=match eE f 65536 with
 |true=>(match con (ano f l) with|some c=>Z c|none=>con f)
 |false=>U
def adt (con:FuncId->M cw) (f:FuncId) (l:Y TV) (h:aY) (nx:Nat) (K:KO R):M R:=
 match au6 con f l with
 |some c=>(match Fc 0 c.pre l h with
  |some ⟨x,m,σ,sm⟩=>(match Ee c.pre x with
   |some _=>aB (c.m x) λy=>(match Ee c.post y with
    |some _=>if dR (l! c.pre.bs) (l! c.post.bs)&&E5 c.pre.bs then
      let np:=l! c.pre.bs
      let D:=l! c.post.bs-np
      let g:=λi=>if eE i np then iz σ i else nx+(i-np)
      (match rE g c.post.vs (US _ _ y) with
      |some z=>if !(ax m 0)&&ax (l! c.post.bs) 0&&(PV.tyL c.post.vs).flat then K (Vo z) m 0 h nx else
       (match Rh g c.post.bs (SE _ _ y) (dP m h) with
       |some A=>chk (vX h A g np) λ_=>K (Vo z) (sm|||m) (sm|||m|||(((1<<<D)-1)<<<nx)) A (nx+D)
       |none=>U)
      |none=>U) else if ax (l! c.post.bs) 0&&L6 c.pre.bs then
      let np:=l! c.pre.bs
      let g:=λi=>if eE i np then iz σ i else nx+(i-np)
      (match rE g c.post.vs (US _ _ y) with
      |some z=>(match Rh g c.pre.bs (SE _ _ x) (dP m h) with
       |some A=>K (Vo z) (sm|||m) m A nx
       |none=>U)
      |none=>U) else U
    |none=>U)
   |none=>U)
  |none=>U)
 |none=>U
def auc (op:BinOp) (x y:TV) (q:TV->M R):M R:=
 match x,y with
 |.f (.int k) a,.f (.int z) b=>if k==z then
   (match op with
   |.add=>q (.f (.int k) (bl k (a+b)))
   |.sub=>q (.f (.int k) (bl k (a-b)))
   |.mul=>q (.f (.int k) (bl k (a*b)))
   |.rem=>chk (!decide ((b:Int)=0)) λ_=>q (.f (.int k) (Df a b))
   |.quo=>chk (!decide ((b:Int)=0)) λ_=>q (.f (.int k) (bl k (Int.tdiv a b)))
   |.eql=>q (.f .bool (decide ((a:Int)=b)))
   |.neq=>q (.f .bool (!decide ((a:Int)=b)))
   |.lss=>q (.f .bool (gC a b))
   |.leq=>q (.f .bool (dg a b))
   |.gtr=>q (.f .bool (gC b a))
   |.geq=>q (.f .bool (dg b a))
   |_=>U)
  else U
 |.f .str a,.f .str b=>match op with
   |.eql=>q (.f .bool (decide ((a:ζ)=b)))
   |.neq=>q (.f .bool (!decide ((a:ζ)=b)))
   |_=>U
 |_,_=>U
def af1:Bool->Ty->Bool
 |false,.int _=>J
 |true,.str=>J
 |_,_=>af
abbrev itK:Ty:=.st (.pr .str (.int .i64))
def isIt:Ty->Bool
 |.st (.pr .str (.int .i64))=>J
 |_=>af
def Y9 (K:Ty):Bool:= !isIt K
def PA:Y ((ζ×Int)×Unit)->ζ
 |[]=>[]
 |e::_=>e.1.1
def M1:Y ((ζ×Int)×Unit)->Nat
 |[]=>0
 |e::_=>aN e.1.2
def rnP (s:ζ) (p:Nat):Int:=rnA (List.getD s p 0) ⟨jT s⟩ p
def wdP (s:ζ) (p:Nat):Nat:=wdA (List.getD s p 0) ⟨jT s⟩ p
def itE:(K V:Ty)->Y (K.den×V.den)->M (ζ×Nat)
 |.st (.pr .str (.int .i64)),.un,es=>Z (PA es,M1 es)
 |_,_,_=>U
def mpE:(K V:Ty)->Y (K.den×V.den)->Bool
 |.un,.un,[]=>J
 |_,_,_=>af
def z_ (T:Ty):Y TV->M (Y T.den)
 |[]=>Z []
 |.f S v::r=>match wU (S:=S) T v with
  |some x=>(match z_ T r with|some l=>Z (x::l)|none=>U)
  |none=>U
 |_::_=>U
def alu:Y TV->M ((T:Ty)×Y T.den)
 |.f T v::r=>match z_ T (.f T v::r) with|some l=>Z ⟨T,l⟩|none=>U
 |_=>U
def axj (n sz:Nat) (v:TV):Bool->M ((T:Ty)×Y T.den)
 |true=>U
 |false=>if ax sz 1&& !v.isC then (match v.cs with|some l=>if ax (l! l) n then alu l else U|none=>U) else U
def arrB (n sz off:Nat):M e_->M ((T:Ty)×Y T.den)
 |some (.G (Z _) l)=>if ax sz 1&&ax off 0&&ax (l! l) n then alu l else U
 |_=>U
def as3:Ty->Nat
 |.pr .un t=>as3 t+1
 |_=>0
def Hx:M Ty->M Nat
 |some (.pr .un t)=>Z (as3 t)
 |_=>U
def as7 (ty:TypeId) (sz bytes:Nat) (b y:TV) (h:aY) (nx:Nat) (K:KO R):M R:=match y with
 |.qg id2 sz2 m=>(match h.get id2 with
  |some (.G (Z _) z)=>if ax sz2 sz&&ax (l! z) (m*sz)&& !(ax m 0) then (match b with
   |.qg id sz1 n=>(match h.get id with
    |some (.G (Z ty1) l)=>if ax sz1 sz&&ty1==ty&&ax (l! l) (n*sz)&& !(ax id id2) then
      chk (be (n+m) bytes) λ_=>K (.qg nx sz (n+m)) (gF id|||gF id2) (gF id|||gF nx) ((h.set id (Z (.qj J 0 0))).set nx (Z (.G (Z ty) (l++z)))) (nx+1) else U
    |_=>U)
   |.nil=>chk (be m bytes) λ_=>K (.qg nx sz m) (gF id2) (0|||gF nx) ((dP 0 h).set nx (Z (.G (Z ty) z))) (nx+1)
   |_=>U) else U
  |_=>U)
 |_=>U
def aq1 (ty:TypeId) (sz bytes:Nat) (T:Ty) (b:TV) (z:Y T.den) (m:Nat) (h:aY) (nx:Nat) (K:KO R):M R:=match b with
 |.I id=>(match h.get id with
  |some (.H ty' p S xs)=>(match wU (S:=.sl S) (.sl T) xs with
   |some xs=>if ty'==ty&& !(aL m id) then
     chk (be (aj xs+aj z) bytes) λ_=>K (.I nx) (gF id|||m) (gF id|||gF nx) ((h.set id (Z (.qj p sz (aj xs)))).set nx (Z (.H ty p T (xs++z)))) (nx+1)
    else U
   |none=>U)
  |_=>U)
 |.qc S xs=>if ax m 0 then (match wU (S:=.sl S) (.sl T) xs with
  |some xs=>chk (be (aj xs+aj z) bytes) λ_=>aI (ax (aj z) 0) (K (.f (.sl T) xs) 0 0 h nx) (K (.I nx) 0 (0|||gF nx) ((dP 0 h).set nx (Z (.H ty af T (xs++z)))) (nx+1))
  |none=>U) else U
 |.emp|.nil=>chk (be (aj z) bytes) λ_=>K (.I nx) m (gF nx) (h.set nx (Z (.H ty J T z))) (nx+1)
 |_=>U
def pkT (ok:Bool) (v b:TV):TV:=match ok with|true=>.qb [v,b]|false=>v
def eO (con:FuncId->M cw) (bZ:TypeId->M Ty) (o:SI) (e:ii) (h:aY) (nx:Nat) (K:KO R):M R:=
 match o with
 |.call f args=>match Mz e args with|some l=>adt con f l h nx K|none=>U
 |.xq x args=>match dH e x,Mz e args with
  |some (.qy f cap),Z l=>adt con f (l++cap) h nx K
  |_,_=>U
 |.op s=>match s with
  |.zm ty sz bytes z l c=>match Hx (bZ ty) with
   |some n=>(match OE z,dH e l,dH e c with
    |some L,Z (.f (.int _) a),Z (.f (.int _) b)=>chk (dg 0 a&&dg a b&&be (aN b) bytes&&decide ((a:Int)=aQ n)) λ_=>K (.qg nx sz n) 0 (0|||gF nx) ((dP 0 h).set nx (Z (.G (Z ty) (aC n L).flatten))) (nx+1)
    |_,_,_=>U)
   |none=>match bZ ty,dH e l,dH e c with
   |some T,Z (.f (.int _) a),Z (.f (.int _) b)=>if ax sz T.size&&X4 z (vb T) then
     chk (dg 0 a&&dg a b&&be (aN b) bytes) λ_=>K (.I nx) 0 (gF nx) (h.set nx (Z (.H ty af T (aC (aN a) T.zero)))) (nx+1) else U
   |_,_,_=>U
  |.xx ty sz len z parts=>match Hx (bZ ty) with
   |some _=>(match OE z with
    |some L=>(match ND ((aC len L).flatten) e parts with
     |some cs=>if ax len 0 then U else K (.qg nx sz len) 0 (0|||gF nx) ((dP 0 h).set nx (Z (.G (Z ty) cs))) (nx+1)
     |none=>U)
    |none=>U)
   |none=>match bZ ty,OE z with
   |some T,Z L=>if ax sz T.size then (match ND ((aC len L).flatten) e parts with
    |some cs=>(match Ec h T len cs with
     |some (xs,m)=>K (.I nx) m (m|||gF nx) ((dP m h).set nx (Z (.H ty (ax len 0) T xs))) (nx+1)
     |none=>U)
    |none=>U) else U
   |_,_=>U
  |.app ty sz bytes s x=>match Hx (bZ ty) with
   |some _=>(match dH e s,dH e x with
    |some b,Z y=>as7 ty sz bytes b y h nx K
    |_,_=>U)
   |none=>match bZ ty,dH e s,dH e x with
   |some T,Z b,Z y=>if ax sz T.size then (match FE h (.sl T) y with
    |some (ys,m)=>aq1 ty sz bytes T b ys m h nx K
    |none=>U) else U
   |_,_,_=>U
  |.copy sz d x=>match dH e d,dH e x with
   |some (.I id),Z y=>(match h.get id with
    |some (.H ty p T xs)=>if ax sz T.size then (match FE h (.sl T) y with
     |some (ys,m)=>if !(aL m id)&& !p then
       K (.f (.int .i64) (aQ (ma (aj ys) (aj xs)))) (gF id|||m) (gF id) (h.set id (Z (.H ty p T (Ul xs ys)))) nx else U
     |none=>U) else U
    |_=>U)
   |_,_=>U
  |.clr sz z x=>match dH e x with
   |some (.zh id j)=>(match h.get id with
    |some (.H ty p T xs)=>if (ax sz T.size&&X4 z (vb T))&&ov z then
      chk (dg 0 j&&gC j (aj xs)) λ_=>K (.qb []) (gF id) (0|||gF id) ((dP 0 h).set id (Z (.H ty p T (dx (aN j) xs++aC (aj xs-aN j) T.zero)))) nx
     else U
    |_=>U)
   |_=>U
  |.mv x=>match dH e x with|some v=>K v 0 0 h nx|none=>U
  |.pick c a b=>match dH e c with
   |some (.f .bool t)=>aI t (match dH e a with|some v=>K v 0 0 h nx|none=>U) (match dH e b with|some v=>K v 0 0 h nx|none=>U)
   |_=>U
  |.alloc ty z=>match OE z with
   |some l=>K (.P nx 0) 0 (gF nx) (h.set nx (Z (.G (Z ty) l))) (nx+1)
   |none=>U
  |.box ty x=>match dH e x with
   |some v=>(match v.cs with|some l=>K (.P nx 0) 0 (gF nx) (h.set nx (Z (.G (Z ty) l))) (nx+1)|none=>U)
   |none=>U
  |.build z parts=>match OE z with
   |some l=>(match ND l e parts with|some cs=>K (.agg cs) 0 0 h nx|none=>U)
   |none=>U
  |.load sz D x=>match dH e x with
   |some (.P id off)=>(match h.get id with
    |some (.G (Z _) l)=>(match YI l off sz D with|some v=>K v (gF id) 0 h nx|none=>U)
    |_=>U)
   |some (.zj id sz' j off)=>(match h.get id with
    |some (.H _ _ T xs)=>if ax sz' T.size then chk (dO j (l! xs)) λ_=>(match oq 40 T (geti _ xs j) off sz D with|some v=>K v (gF id) 0 h nx|none=>U) else U
    |some (.G (Z _) l)=>(match D with
     |true=>U
     |false=>if ax sz 1&&ax sz' 1&&ax off 0 then (match alu l with
      |some ⟨T,xs⟩=>chk (dO j (l! l)) λ_=>K (.f T (geti _ xs j)) (gF id) 0 h nx
      |none=>U) else U)
    |_=>U)
   |some (.zf T xs j _ off)=>(match oq 40 T (geti _ xs j) off sz D with|some v=>K v 0 0 h nx|none=>U)
   |_=>U
  |.store sz x v=>match dH e x,dH e v with
   |some (.P id off),Z y=>(match h.get id with
    |some (.G (Z ty) l)=>(match y.cs with
     |some cs=>if (l! cs)==sz&&dR (off+sz) (l! l) then K .undef (gF id) (gF id) (h.set id (Z (.G (Z ty) (splice l off cs)))) nx else U
     |none=>U)
    |_=>U)
   |some (.zj id sz' j off),Z y=>(match h.get id with
    |some (.H ty p T xs)=>if ax sz' T.size then chk (dO j (l! xs)) λ_=>(match gW h y 40 T (geti _ xs j) off sz with
     |some (z,m)=>if aL m id then U else K .undef (m|||gF id) (m|||gF id) ((dP m h).set id (Z (.H ty p T (ch xs j z)))) nx
     |none=>U) else U
    |some (.G (Z ty) l)=>if ax sz 1&&(ax sz' 1&&ax off 0) then chk (dO j (l! l)) λ_=>(match y.cs with
     |some cs=>if ax (l! cs) 1 then K .undef (gF id) (gF id) (h.set id (Z (.G (Z ty) (splice l j.toNat cs)))) nx else U
     |none=>U) else U
    |_=>U)
   |_,_=>U
  |.zl x=>match dH e x with
   |some (.P id off)=>K (.P id off) 0 0 h nx
   |some (.zj id sz j off)=>K (.zj id sz j off) 0 0 h nx
   |some (.zf T xs j hj off)=>K (.zf T xs j hj off) 0 0 h nx
   |some (.qy g cap)=>K (.qy g cap) 0 0 h nx
   |_=>U
  |.bin op x y=>match dH e x,dH e y with
   |some u,Z v=>auc op u v λr=>K r 0 0 h nx
   |_,_=>U
  |.jh neg ds x y=>match sS ds,dH e x,dH e y with
   |some T,Z u,Z v=>if u.isC||v.isC||Zg x||Zg y then U else (match u.cs,v.cs with
    |some lu,Z lv=>(match fK PT.leaf 40 T lu,fK PT.leaf 40 T lv with
     |some (a,_,[]),Z (b,_,[])=>K (.f .bool (Qr T a b !=neg)) 0 0 h nx
     |_,_=>U)
    |_,_=>U)
   |_,_,_=>U
  |.zd neg x=>match dH e x with
   |some .nil=>K (.f .bool (!neg)) 0 0 h nx
   |some .emp=>K .qw 0 0 h nx
   |some (.f (.sl _) xs)=>aI (ax (aj xs) 0) (K .qw 0 0 h nx) (K (.f .bool neg) 0 0 h nx)
   |some (.I id)=>(match h.get id with
    |some (.H _ af _ _)=>K (.f .bool neg) 0 0 h nx
    |_=>U)
   |_=>U
  |.xj neg x y=>match dH e x,dH e y with
   |some (.f .bool a),Z (.f .bool b)=>K (.f .bool ((a==b) !=neg)) 0 0 h nx
   |_,_=>U
  |.not x=>match dH e x with|some (.f .bool b)=>K (.f .bool (!b)) 0 0 h nx|_=>U
  |.conv k x=>match dH e x with|some (.f (.int _) n)=>K (.f (.int k) (bl k n)) 0 0 h nx|_=>U
  |.slc sz x lo hi mx=>match dH e x with
   |some v=>(match lo,hi,mx with
    |none,Z (.const (.int _ 0)),Z (.const (.int _ 0))=>if (lenOf h v).isSome then K .emp 0 0 h nx else U
    |none,Z b,U=>(match v,dH e b with
     |.f (.sl T) xs,Z (.f (.int _) j)=>if ax sz T.size then chk (dg 0 j&&dg j (aj xs)) λ_=>K (.f (.sl T) (dx (aN j) xs)) 0 0 h nx else U
     |.I id,Z (.f (.int _) j)=>(match h.get id with
      |some (.H ty p T xs)=>if ax sz T.size then
        chk (dg 0 j&&gC j (aj xs)) λ_=>K (.I nx) (gF id) (gF id|||gF nx) ((h.set id (Z (.qj p sz (aj xs)))).set nx (Z (.H ty af T (dx (aN j) xs)))) (nx+1)
       else U
      |_=>U)
     |_,_=>U)
    |some b,U,U=>(match v,dH e b with
     |.f (.sl T) xs,Z (.f (.int _) j)=>if ax sz T.size then chk (dg 0 j&&dg j (aj xs)) λ_=>K (.f (.sl T) (List.drop (aN j) xs)) 0 0 h nx else U
     |.I id,Z (.f (.int _) j)=>(match h.get id with
      |some (.H _ _ T xs)=>if ax sz T.size then chk (dg 0 j&&gC j (aj xs)) λ_=>K (.zh id j) 0 0 h nx else U
      |_=>U)
     |_,_=>U)
    |none,Z b,Z b'=>(match v,dH e b,dH e b' with
     |.f (.sl T) xs,Z (.f (.int _) j),Z (.f (.int _) j')=>if ax sz T.size then chk ((decide (j=j')&&dg 0 j)&&dg j (aj xs)) λ_=>K (.qc T (dx (aN j) xs)) 0 0 h nx else U
     |_,_,_=>U)
    |_,_,_=>U)
   |none=>U
  |.jb off x=>match dH e x with
   |some (.P id o)=>K (.P id (o+off)) 0 0 h nx
   |some (.zj id sz j o)=>K (.zj id sz j (o+off)) 0 0 h nx
   |some (.zf T xs j hj o)=>K (.zf T xs j hj (o+off)) 0 0 h nx
   |_=>U
  |.fld off sz D x=>match dH e x with
   |some (.agg l)=>(match YI l off sz D with|some v=>K v 0 0 h nx|none=>U)
   |some (.f T v)=>if T.one then U else (match oq 40 T v off sz D with|some v=>K v 0 0 h nx|none=>U)
   |_=>U
  |.jf sz x i=>match dH e x,dH e i with
   |some (.I id),Z (.f (.int _) j)=>(match h.get id with
    |some (.H _ _ T xs)=>if ax sz T.size then chk (dO j (l! xs)) λ_=>K (.zj id sz j 0) 0 0 h nx else U
    |_=>U)
   |some (.f (.sl T) xs),Z (.f (.int _) j)=>if ax sz T.size then chk (dO j (aj xs)) λhj=>K (.zf T xs j hj 0) 0 0 h nx else U
   |some (.qg id sz' n),Z (.f (.int _) j)=>if ax sz' sz then chk (dg 0 j&&gC j n) λ_=>K (.P id (aN j*sz)) 0 0 h nx else U
   |_,_=>U
  |.jv n sz x i=>match dH e x,dH e i with
   |some (.P id off),Z (.f (.int _) j)=>(match arrB n sz off (h.get id) with
    |some _=>chk (dg 0 j&&gC j n) λ_=>K (.zj id sz j off) 0 0 h nx
    |none=>chk (dg 0 j&&gC j n) λ_=>K (.P id (off+aN j*sz)) 0 0 h nx)
   |_,_=>U
  |.idx n sz D x i=>match dH e x,dH e i with
   |some v,Z (.f (.int _) j)=>(match axj n sz v D with
    |some ⟨T,xs⟩=>chk (dg 0 j&&gC j n) λ_=>K (.f T (geti _ xs j)) 0 0 h nx
    |none=>(match v with
     |.agg l=>chk (dg 0 j&&gC j n) λ_=>(match YI l (aN j*sz) sz D with|some v=>K v 0 0 h nx|none=>U)
     |.f T v=>if T.one then U else chk (dg 0 j&&gC j n) λ_=>(match oq 40 T v (aN j*sz) sz D with|some v=>K v 0 0 h nx|none=>U)
     |_=>U))
   |_,_=>U
  |.ext x i=>match dH e x with|some (.qb l)=>(match l[i]? with|some v=>K v 0 0 h nx|none=>U)|_=>U
  |.len x=>match dH e x with
   |some v=>(match lenOf h v with|some n=>K (.f (.int .i64) (aQ n)) 0 0 h nx|none=>U)
   |none=>U
  |.lens x=>match dH e x with
   |some (.f .str s)=>K (.f (.int .i64) (aQ (aj s))) 0 0 h nx
   |_=>U
  |.max x y=>match dH e x,dH e y with
   |some (.f (.int k) a),Z (.f (.int k') b)=>if k==k' then K (.f (.int k) (j6 a b)) 0 0 h nx else U
   |_,_=>U
  |.min x y=>match dH e x,dH e y with
   |some (.f (.int k) a),Z (.f (.int k') b)=>if k==k' then K (.f (.int k) (KY a b)) 0 0 h nx else U
   |_,_=>U
  |.jx x i=>match dH e x,dH e i with
   |some (.f .str s),Z (.f (.int _) j)=>chk (dO j (aj s)) λ_=>K (.f (.int .u8) (ann s j)) 0 0 h nx
   |_,_=>U
  |.rng x=>match dH e x with
   |some (.f .str s)=>K (.P nx 0) 0 (0|||gF nx) ((dP 0 h).set nx (Z (.mp itK .un [((s,0),())]))) (nx+1)
   |_=>U
  |.nxt x=>match dH e x with
   |some (.P id 0)=>(match h.get id with
    |some (.mp K' V es)=>(match itE K' V es with
     |some (s,p)=>aI (eE p (aj s)) (K (.qb [.f .bool J,.f (.int .i64) (aQ p),.f (.int .i32) (rnP s p)]) (gF id) (0|||gF id) ((dP 0 h).set id (Z (.mp itK .un [((s,aQ (p+wdP s p)),())]))) nx)
       (K (.qb [.f .bool af]) (gF id) (0|||gF id) ((dP 0 h).set id (Z (.mp itK .un [((s,aQ p),())]))) nx)
     |none=>U)
    |_=>U)
   |_=>U
  |.mkm=>K (.mp nx) 0 (0|||gF nx) ((dP 0 h).set nx (Z (.mp .un .un []))) (nx+1)
  |.jg str ok z x k=>match dH e x,dH e k with
   |some (.mp id),Z (.f KT kv)=>(match h.get id with
    |some (.mp K' V es)=>if af1 str KT&&Y9 K' then (match mpE K' V es with
     |true=>(match cst z with|some v=>K (pkT ok v (.f .bool af)) (gF id) 0 h nx|none=>U)
     |false=>(match wU (S:=KT) K' kv,cst z with
      |some kv',Z (.f A zv)=>(match wU (S:=A) V zv with
       |some zv'=>K (pkT ok (.f V (rh kv' es zv')) (.f .bool (af0 kv' es))) (gF id) 0 h nx
       |none=>U)
      |_,_=>U)) else U
    |_=>U)
   |_,_=>U
  |.jk str x k v=>match dH e x,dH e k,dH e v with
   |some (.mp id),Z (.f KT kv),Z (.f VT vv)=>(match h.get id with
    |some (.mp K' V es)=>if (af1 str KT&&VT.one)&&Y9 K' then (match mpE K' V es with
     |true=>K .undef (gF id) (0|||gF id) ((dP 0 h).set id (Z (.mp KT VT [(kv,vv)]))) nx
     |false=>(match wU (S:=KT) K' kv,wU (S:=VT) V vv with
      |some kv',Z vv'=>K .undef (gF id) (0|||gF id) ((dP 0 h).set id (Z (.mp K' V (uP kv' vv' es)))) nx
      |_,_=>U)) else U
    |_=>U)
   |_,_,_=>U
  |.jy x=>match dH e x with
   |some (.mp id)=>(match h.get id with
    |some (.mp K' _ es)=>if Y9 K' then K (.f (.int .i64) (aQ (l! es))) (gF id) 0 h nx else U
    |_=>U)
   |_=>U
  |.mkf f caps=>match Mz e caps with|some l=>K (.qy f l) 0 0 h nx|none=>U
  |_=>U
abbrev C_ (S:Ty):Type:=S.den×Y (Int×Bool)×Y (Int×Bool)
def dZ (S:Ty) (xs:Y (C_ S)) (j:Int):C_ S:=xs.getD j.toNat (S.zero,[],[])
def qX {S:Ty} (xs:Y (C_ S)) (j:Int) (o:C_ S):Y (C_ S):=xs.set j.toNat o
def sJ (z:η) (j:Int):Int:=z.getD j.toNat 0
def ry {T:Ty} (xss:Y (Y T.den)) (j:Int):Y T.den:=xss.getD j.toNat []
def vY {T:Ty} (xss:Y (Y T.den)) (j:Int) (xs:Y T.den):Y (Y T.den):=xss.set j.toNat xs
abbrev u!:=Int×Bool
def sO {S:Ty} (b:Nat) (o:C_ S):Y u!:=match b with|0=>o.2.1|_=>o.2.2
def v7 {S:Ty} (b:Nat) (o:C_ S) (m:Y u!):C_ S:=match b with|0=>(o.1,m,o.2.2)|_=>(o.1,o.2.1,m)
def ajq (v:TV):M ν:=if v.isC then U else match v.cs with
 |some [.f (.int .i64) a,.f (.int .i64) b]=>Z (a,b)
 |_=>U
def P9 (k z:ν):Bool:=decide (k.1=z.1)&&decide (k.2=z.2)
abbrev e!:=ν×Int
def sL (k:ν):Y e!->Bool
 |[]=>af
 |e::r=>P9 k e.1||sL k r
def eH (k:ν):Y e!->Int
 |[]=>0
 |e::r=>match P9 k e.1 with|true=>e.2|false=>eH k r
def DO (k:ν):Y e!->Y e!
 |[]=>[]
 |e::r=>match P9 k e.1 with|true=>r|false=>e::DO k r
def stN:Ty->Nat
 |.st t=>stN t+1
 |_=>0
def isRr:M Ty->Bool
 |some (.pr .bool (.pr _ (.sl _)))=>J
 |_=>af
def ajs:ξ->Bool
 |[.slice U 0 0]=>J
 |_=>af
def axe:M TV->Bool
 |some (.sb _)=>J
 |_=>af
def Ze:M e_->Bool
 |some (.Q _ _ _)=>J
 |some (.qd _ _ _ _ _)=>J
 |_=>af
def Cq (h:aY):M TV->Bool
 |some (.sb _)=>J
 |some (.zj id _ _ _)|some (.I id)=>Ze (h.get id)
 |_=>af
def axg (bZ:TypeId->M Ty) (e:ii) (h:aY):SI->Bool
 |.op (.load _ _ x)|.op (.store _ x _)|.op (.zl x)|.op (.jb _ x)|.op (.jf _ x _)|.op (.jg _ _ _ x _)|.op (.jk _ x _ _)=>Cq h (dH e x)
 |.op (.app _ _ _ s x)=>Cq h (dH e s)||axe (dH e x)
 |.op (.zm ty _ _ _ _ _)=>isRr (bZ ty)
 |.op (.jz _ _)=>J
 |.op (.lkq _ _ _ _)=>J
 |.op (.mpq _ _ _ _)=>J
 |.op (.dlq _ _ _)=>J
 |_=>af
def pE (bZ:TypeId->M Ty) (e:ii) (h:aY) (nx:Nat) (K:KO R):UU->M R
 |.load sz ag x=>match dH e x with
  |some (.sb (.ob id j off))=>(match h.get id with
   |some (.Q (.ar _ S) _ xs)=>chk (dO j (aj (α:=C_ S) xs)) λ_=>
     if ag then U else if eE off S.size then (match oq 40 S (dZ S xs j).1 off sz af with|some v=>K v (gF id) 0 h nx|none=>U)
     else if ax sz 1&&eE off (S.size+2) then K (.sb (.om id j (off-S.size))) (gF id) 0 h nx else U
   |_=>U)
  |some (.sb (.np id j s i off))=>(match h.get id with
   |some (.Q (.ir _ T) _ xss)=>if ax s T.size then chk (dO j (aj (α:=Y T.den) xss)) λ_=>chk (dO i (aj (ry (T:=T) xss j))) λ_=>
     (match oq 40 T (geti _ (ry (T:=T) xss j) i) off sz ag with|some v=>K v (gF id) 0 h nx|none=>U) else U
   |_=>U)
  |some (.zj id s j off)=>if (ax sz 1&& !ag)&&(ax s 1&&ax off 0) then (match h.get id with
   |some (.Q (.qn _) a D)=>chk (dO j (aj (α:=Int) D)) λ_=>K (.sb (.ob a (sJ D j) 0)) (gF id) 0 h nx
   |some (.Q (.rr _ z) a L)=>chk (dO j (aj (α:=Int) L)) λ_=>K (.sb (.nr a j z (aN (sJ L j)))) (gF id) 0 h nx
   |_=>U) else U
  |_=>U
 |.store sz x v=>match dH e x,dH e v with
  |some (.sb (.ob id j off)),Z y=>(match h.get id with
   |some (.Q (.ar ty S) a xs)=>chk (dO j (aj (α:=C_ S) xs)) λ_=>(match gW h y 40 S (dZ S xs j).1 off sz with
    |some (z,m)=>if ax m 0 then K .undef (gF id) (0|||gF id) ((dP 0 h).set id (Z (.Q (.ar ty S) a (qX (S:=S) xs j (z,(dZ S xs j).2))))) nx else U
    |none=>U)
   |_=>U)
  |some (.sb (.np id j s i off)),Z y=>(match h.get id with
   |some (.Q (.ir ty T) a xss)=>if ax s T.size then chk (dO j (aj (α:=Y T.den) xss)) λ_=>chk (dO i (aj (ry (T:=T) xss j))) λ_=>(match gW h y 40 T (geti _ (ry (T:=T) xss j) i) off sz with
    |some (z,m)=>if ax m 0 then K .undef (gF id) (0|||gF id) ((dP 0 h).set id (Z (.Q (.ir ty T) a (vY (T:=T) xss j (ch (ry (T:=T) xss j) i z))))) nx else U
    |none=>U) else U
   |_=>U)
  |some (.zj id s j off),Z (.I r)=>if ax sz 1&&(ax s 1&&ax off 0) then (match h.get id,h.get r with
   |some (.Q (.rr ty z) a L),Z (.H _ p T xs)=>if ax z T.size then chk (dO j (aj (α:=Int) L)) λ_=>chk (p|| !(ax (aj xs) 0)) λ_=>K .undef (gF id) (0|||gF id) ((dP 0 h).set id (Z (.qd (.rr ty z) a L (j,0) (Z (r,J,aj xs))))) nx else U
   |_,_=>U) else U
  |_,_=>U
 |.zl x=>match dH e x with
  |some (.sb (.ob id j off))=>K (.sb (.ob id j off)) 0 0 h nx
  |some (.sb (.np id j s i off))=>K (.sb (.np id j s i off)) 0 0 h nx
  |_=>U
 |.jb off x=>match dH e x with
  |some (.sb (.ob id j o))=>K (.sb (.ob id j (o+off))) 0 0 h nx
  |some (.sb (.np id j s i o))=>K (.sb (.np id j s i (o+off))) 0 0 h nx
  |_=>U
 |.jf sz x i=>match dH e x,dH e i with
  |some (.I id),Z (.f (.int _) j)=>(match eQ h id with
   |some (_,s,n)=>if ax s sz&&Ze (h.get id) then chk (dO j n) λ_=>K (.zj id sz j 0) 0 0 h nx else U
   |none=>U)
  |some (.sb (.nr id j s n)),Z (.f (.int _) i)=>if ax s sz then chk (dO i n) λ_=>K (.sb (.np id j sz i 0)) 0 0 h nx else U
  |_,_=>U
 |.jg str ok z x k=>match dH e x,dH e k with
  |some (.sb (.om id j b)),Z (.f (.int .i64) A)=>(match h.get id,z with
   |some (.Q (.ar _ S) _ xs),.bool zb=>if !str&&eE b 2 then chk (dO j (aj (α:=C_ S) xs)) λ_=>
     K (pkT ok (.f .bool (rh (K:=.int .i64) (V:=.bool) A (sO b (dZ S xs j)) zb)) (.f .bool (af0 (K:=.int .i64) (V:=.bool) A (sO b (dZ S xs j))))) (gF id) 0 h nx else U
   |_,_=>U)
  |_,_=>U
 |.jk str x k v=>match dH e x,dH e k,dH e v with
  |some (.sb (.om id j b)),Z (.f (.int .i64) A),Z (.f .bool vv)=>(match h.get id with
   |some (.Q (.ar ty S) a xs)=>if !str&&eE b 2 then chk (dO j (aj (α:=C_ S) xs)) λ_=>
     K .undef (gF id) (0|||gF id) ((dP 0 h).set id (Z (.Q (.ar ty S) a (qX (S:=S) xs j (v7 b (dZ S xs j) (uP (K:=.int .i64) (V:=.bool) A vv (sO b (dZ S xs j)))))))) nx else U
   |_=>U)
  |_,_,_=>U
 |.app ty sz bytes s x=>match dH e s,dH e x with
  |some (.I id),Z (.qg id2 1 1)=>(match h.get id,h.get id2 with
   |some (.Q (.qn ty') a D),Z (.G (Z _) [.sb (.ob a' j 0)])=>if (ax sz 1&&ty==ty')&&(ax a a'&& !(ax id id2)) then
     chk (be (aj (α:=Int) D+1) bytes) λ_=>K (.I nx) (gF id|||gF id2) (gF id|||gF nx) ((h.set id (Z (.qj J 1 (aj (α:=Int) D)))).set nx (Z (.Q (.qn ty) a (sV (α:=Int) D [j])))) (nx+1) else U
   |_,_=>U)
  |some (.sb (.nr id j s n)),Z y=>(match h.get id with
   |some (.Q (.ir ty' T) a xss)=>if ax s T.size&&(ax sz T.size&&ty==ty') then chk (dO j (aj (α:=Y T.den) xss)) λ_=>(match FE h (.sl T) y with
    |some (ys,m)=>if aL m id then U else chk (ax n (aj (ry (T:=T) xss j))&&be (n+aj ys) bytes) λ_=>
      K (.I nx) (gF id|||m) (gF id|||gF nx) ((h.set id (Z (.Q (.ir ty T) a (vY (T:=T) xss j [])))).set nx (Z (.H ty J T (ry (T:=T) xss j++ys)))) (nx+1)
    |none=>U) else U
   |_=>U)
  |some b,Z (.sb (.nr id j s n))=>(match h.get id with
   |some (.Q (.ir _ T) _ xss)=>if ax s T.size&&ax sz T.size then chk (dO j (aj (α:=Y T.den) xss)) λ_=>chk (ax n (aj (ry (T:=T) xss j))) λ_=>aq1 ty sz bytes T b (ry (T:=T) xss j) (gF id) h nx K else U
   |_=>U)
  |_,_=>U
 |.zm ty sz bytes z l c=>match bZ ty,dH e l,dH e c with
  |some (.pr .bool (.pr q (.sl T))),Z (.f (.int _) a),Z (.f (.int _) b)=>if ax sz 1&&ajs z then
    chk (dg 0 a&&dg a b&&be (aN b) bytes) λ_=>K (.I nx) 0 (gF nx) ((h.set nx (Z (.Q (.rr ty T.size) (nx+1) (aC (aN a) (0:Int))))).set (nx+1) (Z (.Q (.ir (stN q) T) 0 (aC (aN a) ([]:Y T.den))))) (nx+2) else U
  |_,_,_=>U
 |.jz neg x=>match dH e x with
  |some (.sb (.ob _ _ _))|some (.P _ _)=>K (.f .bool neg) 0 0 h nx
  |some .np=>K (.f .bool (!neg)) 0 0 h nx
  |_=>U
 |.lkq [.int .i64,.int .i64] z x k=>match dH e x,(dH e k).bind ajq,z with
  |some (.mp id),Z A,.pointer U=>(match h.get id with
   |some (.Q .qr a es)=>aI (sL A es) (K (.sb (.ob a (eH A es) 0)) (gF id) 0 h nx) (K .np (gF id) 0 h nx)
   |_=>U)
  |_,_,_=>U
 |.mpq [.int .i64,.int .i64] x k v=>match dH e x,(dH e k).bind ajq,dH e v with
  |some (.mp id),Z A,Z (.P p 0)=>(match h.get id with
   |some (.Q .qr a es)=>K .undef (gF id) (0|||gF id) ((dP 0 h).set id (Z (.qd .qr a es A (Z (p,af,0))))) nx
   |_=>U)
  |_,_,_=>U
 |.dlq [.int .i64,.int .i64] x k=>match dH e x,(dH e k).bind ajq with
  |some (.mp id),Z A=>(match h.get id with
   |some (.Q .qr a es)=>K (.qb []) (gF id) (0|||gF id) ((dP 0 h).set id (Z (.Q .qr a (DO A es)))) nx
   |_=>U)
  |_,_=>U
 |_=>U
def opK (con:FuncId->M cw) (bZ:TypeId->M Ty) (o:SI) (e:ii) (h:aY) (nx:Nat) (K:KO R):M R:=match axg bZ e h o with
 |true=>(match o with|.op s=>pE bZ e h nx K s|_=>U)
 |false=>eO con bZ o e h nx K
def ahr (e:ii) (g:M (Nat×Bool)) (K:Bool->ii->M R):M R:=match g with
 |none=>K J e
 |some (t,want)=>match e.get t with
  |some (.f .bool b)=>(match want with
   |true=>aI b (K J (e.set t (Z (.f .bool J)))) (K af (e.set t (Z (.f .bool af))))
   |false=>aI b (K af (e.set t (Z (.f .bool J)))) (K J (e.set t (Z (.f .bool af)))))
  |some .undef=>K af e
  |_=>U
def Ie (e:ii) (d:M Nat) (v:TV):ii:=match d with
 |none=>e
 |some d=>e.set d (Z v)
structure TS where
 e:ii
 h:aY
 nx:Nat
def PW (con:FuncId->M cw) (bZ:TypeId->M Ty):Y uD->TS->Y FPm->(TS->Y FPm->M R)->M R
 |[],s,z,K=>K s z.reverse
 |o::r,s,z,K=>ahr s.e o.guard λrun e=>match run with
  |true=>opK con bZ o.op e s.h s.nx λv rd A h nx=>if P0 h v then PW con bZ r ⟨Ie e o.dst v,h,nx⟩ (⟨rd,A⟩::z) K else U
  |false=>PW con bZ r ⟨Ie e o.dst .undef,s.h,s.nx⟩ (⟨0,0⟩::z) K
inductive Adj where
 |nil (k:Nat) (ty:TypeId) (T:Ty)
 |qh (k:Nat) (off:Nat) (ty:TypeId) (T:Ty)
 |mpt (k:Nat) (K V:Ty)
 |pk (k:Nat) (off:Nat) (T:Ty)
 |qx (k:Nat) (off:Nat)
 |fmp (k off:Nat) (ty:TypeId) (S:Ty)
 |frw (k off off2:Nat) (ty:TypeId)
 |jm (k off:Nat)
mutual
def PN (id sz n:Nat):TV->TV
 |.qg i s m=>if ax i id&&ax s sz&&ax m n then .I id else .qg i s m
 |.agg l=>.agg (Jr id sz n l)
 |.qb l=>.qb (Jr id sz n l)
 |.qy g l=>.qy g (Jr id sz n l)
 |.f T v=>.f T v
 |.zf T xs j h off=>.zf T xs j h off
 |.zj a b c d=>.zj a b c d
 |.P a b=>.P a b
 |.I a=>.I a
 |.zh a j=>.zh a j
 |.qc T xs=>.qc T xs
 |.sb s=>.sb s
 |.emp=>.emp
 |.nil=>.nil
 |.mp a=>.mp a
 |.undef=>.undef
 |.np=>.np
 |.qw=>.qw
def Jr (id sz n:Nat):Y TV->Y TV
 |[]=>[]
 |x::r=>PN id sz n x::Jr id sz n r
end
def YJ (id sz n:Nat):e_->e_
 |.G ty l=>.G ty (Jr id sz n l)
 |.H ty p T xs=>.H ty p T xs
 |.qj p s m=>.qj p s m
 |.mp K V es=>.mp K V es
 |.Q F a x=>.Q F a x
 |.qd F a x k p=>.qd F a x k p
def axx (s:TS) (k off:Nat):M (Nat×q!):=match s.e.get k with
 |some (.qg id sz n)=>Z (id,sz,n)
 |some (.agg l)=>(match l[off]? with|some (.qg id sz n)=>Z (id,sz,n)|_=>U)
 |some (.P a o)=>(match s.h.get a with
  |some (.G (Z _) l)=>(match l[o+off]? with|some (.qg id sz n)=>Z (id,sz,n)|_=>U)
  |_=>U)
 |_=>U
def pkS (s:TS) (T:Ty) (id sz n:Nat):M TS:=match s.h.get id with
 |some (.G (Z ty) l)=>if ax sz T.size then (match Ec s.h T n l with
  |some (xs,m)=>if aL m id then U else Z ⟨PT.updI (λ_ v=>PN id sz n v) 1 0 s.e,(PT.updI (λ_ b=>YJ id sz n b) 1 0 (dP m s.h)).set id (Z (.H ty af T xs)),s.nx⟩
  |none=>U) else U
 |_=>U
def ajr:TV->Bool
 |.nil=>J
 |.emp=>J
 |_=>af
def arl:M TV->M q!
 |some (.P id o)=>Z (id,o)
 |some (.qg id _ _)|some (.mp id)=>Z (id,0)
 |_=>U
def akq (s:TS) (k off:Nat):M Nat:=match s.e.get k with
 |some (.mp id)|some (.I id)=>Z id
 |some (.P b o)=>(match s.h.get b with
  |some (.G (Z _) l)=>(match l[o+off]? with|some (.mp id)=>Z id|some (.I id)=>Z id|_=>U)
  |_=>U)
 |_=>U
def shf (n:Nat) (j:Int):Int:=if eE j.toNat n then j else aQ (j.toNat+1)
def Mj (n:Nat) (es:Y e!):Y e!:=es.map λe=>(e.1,shf n e.2)
def yV (k:ν) (v:Int):Y e!->Y e!
 |[]=>[(k,v)]
 |e::r=>match P9 k e.1 with|true=>(k,v)::r|false=>e::yV k v r
def rnX (len:Nat):(F:uF)->F.ty.den->F.ty.den
 |.qn _,z=>gM (shf len) z
 |.qr,es=>Mj len es
 |_,x=>x
def axf:uF->Bool
 |.qn _=>J
 |.qr=>J
 |_=>af
def rnF (a n len:Nat):e_->e_
 |.Q F b x=>if axf F&&ax b a then .Q F n (rnX len F x) else .Q F b x
 |b=>b
def aoj:M e_->M (Y u!)
 |some (.mp (.int .i64) .bool es)=>Z es
 |some (.mp .un .un [])=>Z []
 |_=>U
def ai2 (s:TS) (o a p:Nat) (kk:ν) (es:Y e!):M TS:=match s.h.get a,s.h.get p with
 |some (.Q (.ar ty S) _ xs),Z (.G (Z ty') l)=>if ty'==ty then (match fK s.h 40 S l with
  |some (z,m,[.mp m1,.mp m2])=>(match aoj (s.h.get m1),aoj (s.h.get m2) with
   |some A,Z e2=>if ax m 0&& !(ax m1 m2) then
     Z ⟨s.e,((((((PT.updI (λ_ b=>rnF a s.nx (aj (α:=C_ S) xs) b) 1 0 s.h).set o (Z (.Q .qr s.nx (yV kk (aQ (aj (α:=C_ S) xs)) (Mj (aj (α:=C_ S) xs) es))))).set a (Z (.qj J 0 0))).set p (Z (.qj J 0 0))).set m1 (Z (.qj J 0 0))).set m2 (Z (.qj J 0 0))).set s.nx (Z (.Q (.ar ty S) 0 (sV (α:=C_ S) xs [(z,A,e2)]))),s.nx+1⟩ else U
   |_,_=>U)
  |_=>U) else U
 |_,_=>U
def atb (s:TS) (o a r n:Nat) (j:Int) (ty:TypeId) (z:Nat) (A:η):M TS:=match s.h.get a,s.h.get r with
 |some (.Q (.ir ty2 T) _ xss),Z (.H ty3 p S xs)=>(match wU (S:=.sl S) (.sl T) xs with
  |some xs'=>if ty3==ty2 then
    Z ⟨s.e,(((s.h.set o (Z (.Q (.rr ty z) s.nx (sI (α:=Int) A j.toNat (aQ n))))).set a (Z (.qj J 0 0))).set r (Z (.qj p S.size (aj xs)))).set s.nx (Z (.Q (.ir ty2 T) 0 (vY (T:=T) xss j xs'))),s.nx+1⟩ else U
  |none=>U)
 |_,_=>U
def ajt (F:uF):Bool:=ax (F.aid 1) 0
def rnG (a n:Nat):e_->e_
 |.Q F b x=>if !(ajt F)&&ax b a then .Q F n x else .Q F b x
 |b=>b
def ate (s:TS) (a:Nat):M TS:=match s.h.get a with
 |some (.Q F _ x)=>if ajt F then Z ⟨s.e,((PT.updI (λ_ b=>rnG a s.nx b) 1 0 s.h).set a (Z (.qj J 0 0))).set s.nx (Z (.Q F 0 x)),s.nx+1⟩ else U
 |_=>U
def at9 (s:TS) (o:Nat):M TS:=match s.h.get o with
 |some (.qd .qr a es kk (Z (p,af,0)))=>ai2 s o a p kk es
 |some (.qd (.rr ty z) a A kk (Z (r,J,n)))=>atb s o a r n kk.1 ty z A
 |some (.Q F a _)=>if ajt F then U else ate s a
 |_=>U
def Lt (s:TS):Adj->M TS
 |.nil k ty T=>match s.e.get k with
  |some v=>if ajr v then Z ⟨s.e.set k (Z (.I s.nx)),s.h.set s.nx (Z (.H ty J T [])),s.nx+1⟩ else Z s
  |none=>U
 |.qh k off ty T=>match arl (s.e.get k) with
  |some (id,o)=>(match s.h.get id with
   |some (.G cty l)=>(match l[o+off]? with
    |some v=>if ajr v then Z ⟨s.e,(s.h.set s.nx (Z (.H ty J T []))).set id (Z (.G cty (splice l (o+off) [.I s.nx]))),s.nx+1⟩ else Z s
    |none=>U)
   |_=>U)
  |_=>U
 |.mpt k K V=>match s.e.get k with
  |some (.mp id)=>(match s.h.get id with
   |some (.mp K' V' es)=>(match mpE K' V' es&&Y9 K with
    |true=>Z ⟨s.e,s.h.set id (Z (.mp K V [])),s.nx⟩
    |false=>Z s)
   |_=>U)
  |_=>U
 |.pk k off T=>match axx s k off with
  |some (id,sz,n)=>pkS s T id sz n
  |none=>U
 |.qx k off=>match s.e.get k with
  |some (.P b o)=>(match s.h.get b with
   |some (.G (Z cty) l)=>(match l[o+off]? with
    |some (.I id)=>(match s.h.get id with
     |some (.H ty p T xs)=>Z ⟨s.e,((s.h.set id (Z (.qj p T.size (l! xs)))).set s.nx (Z (.H ty p T xs))).set b (Z (.G (Z cty) (splice l (o+off) [.I s.nx]))),s.nx+1⟩
     |some (.Q (.qn ty) a z)=>Z ⟨s.e,((s.h.set id (Z (.qj J 1 (aj (α:=Int) z)))).set s.nx (Z (.Q (.qn ty) a z))).set b (Z (.G (Z cty) (splice l (o+off) [.I s.nx]))),s.nx+1⟩
     |_=>U)
    |_=>U)
   |_=>U)
  |some (.I id)=>(match s.h.get id with
   |some (.H ty p T xs)=>Z ⟨s.e.set k (Z (.I s.nx)),(s.h.set id (Z (.qj p T.size (l! xs)))).set s.nx (Z (.H ty p T xs)),s.nx+1⟩
   |_=>U)
  |_=>U
 |.fmp k off ty S=>match akq s k off with
  |some id=>(match s.h.get id with
   |some (.mp K' V' es)=>if mpE K' V' es then Z ⟨s.e,(s.h.set id (Z (.Q .qr s.nx []))).set s.nx (Z (.Q (.ar ty S) 0 [])),s.nx+1⟩ else U
   |some (.Q _ _ _)=>Z s
   |_=>U)
  |none=>U
 |.frw k off off2 ty=>match akq s k off2,arl (s.e.get k) with
  |some o,Z (id,q)=>(match s.h.get o,s.h.get id with
   |some (.Q .qr a _),Z (.G cty l)=>(match l[q+off]? with
    |some v=>if ajr v then Z ⟨s.e,(s.h.set s.nx (Z (.Q (.qn ty) a []))).set id (Z (.G cty (splice l (q+off) [.I s.nx]))),s.nx+1⟩ else Z s
    |none=>U)
   |_,_=>U)
  |_,_=>U
 |.jm k off=>match akq s k off with
  |some o=>at9 s o
  |none=>U
def X_ (s:TS):Y Adj->M TS
 |[]=>Z s
 |a::r=>match Lt s a with|some s'=>X_ s' r|none=>U
structure Ann where
 zw:ι
 ks:ι
 t:Tm
 pre:List Adj
abbrev Ann.D (A:Ann):Type:=A.t.ty.den
mutual
def wG:TV->Bool
 |.f _ _=>J
 |.zf _ _ _ _ _=>J
 |.emp=>J
 |.nil=>J
 |.undef=>J
 |.np=>J
 |.qw=>J
 |.agg l|.qb l=>r9 l
 |.zj _ _ _ _=>af
 |.P _ _=>af
 |.qg _ _ _=>af
 |.I _=>af
 |.zh _ _=>af
 |.qc _ _=>af
 |.sb _=>af
 |.mp _=>af
 |.qy _ _=>af
def r9:Y TV->Bool
 |[]=>J
 |x::r=>wG x&&r9 r
end
def Gt (am:Nat) (e:ii):ι->ii
 |[]=>PT.leaf
 |k::r=>match e.get k with|some v=>if wG v&& !(aL am k) then (Gt am e r).set k (Z v) else Gt am e r|none=>Gt am e r
def kx (e:ii):ι->M (Y TV)
 |[]=>Z []
 |k::r=>match e.get k with|some v=>(match kx e r with|some l=>Z (v::l)|none=>U)|none=>U
def aen (e:ii):ι->Y TV->ii
 |k::r,v::l=>(aen e r l).set k (Z v)
 |_,_=>e
def LU (am:Nat) (e0 e:ii):ι->Bool
 |[]=>J
 |k::r=>(match e0.get k with
  |some v=> !(wG v)||aL am k||(match e.get k with|some _=>J|none=>af)
  |none=>J)&&LU am e0 e r
def Qq (np:Nat) (A:Ann) (am:Nat) (z s:TS):M A.D:=if dR np (l! A.t.bs)&&LU am z.e s.e A.zw then (match X_ s A.pre with
 |some s=>(match kx s.e A.ks with
  |some vs=>(match Fc np A.t vs s.h with
   |some ⟨x,_,_,_⟩=>Z x
   |none=>U)
  |none=>U)
 |none=>U) else U
def KN (A:Ann) (am:Nat) (s:TS) (x:A.D):M TS:=match Ee A.t x with
 |some (vs,h)=>if ax (l! vs) (l! A.ks) then Z ⟨aen (Gt am s.e A.zw) A.ks vs,h,l! A.t.bs⟩ else U
 |none=>U
inductive TC where
 |skip
 |jw (ops:List uD) (prs:List (Nat×Nat))
 |seq (a b:TC)
 |jq (A:Ann) (a b:TC)
 |cond (c:Nat) (a b:TC)
 |block (id:Nat) (b:TC)
 |zk (A:Ann) (id:Nat) (b:TC)
 |loop (A:Ann) (b:TC)
 |exit (id:Nat)
 |ret
 |defer (f:FuncId) (caps:List Operand) (t:Nat)
 |adj (l:List Adj) (c:TC)
 |split (k off lo n:Nat) (c:TC)
 |bsp (t:Nat) (a b:TC)
 |unl (n:Nat) (b:TC)
 |zn
def UA:Y uD->Nat->Nat
 |[],acc=>acc
 |o::r,acc=>UA r (match o.dst with|some d=>acc|||gF d|none=>acc)
def P3:ι->Nat->Nat
 |[],acc=>acc
 |k::r,acc=>P3 r (acc|||gF k)
def nk:Y Adj->Nat->Nat
 |[],acc=>acc
 |.nil k _ _::r,acc=>nk r (acc|||gF k)
 |.qh _ _ _ _::r,acc|.mpt _ _ _::r,acc|.pk _ _ _::r,acc=>nk r acc
 |.qx k _::r,acc=>nk r (acc|||gF k)
 |.fmp _ _ _ _::r,acc|.frw _ _ _ _::r,acc|.jm _ _::r,acc=>nk r acc
def TC.asg:TC->Nat->Nat
 |.jw ops _,acc=>UA ops acc
 |.seq a b,acc=>b.asg (a.asg acc)
 |.jq A a b,acc=>b.asg (a.asg (P3 A.ks acc))
 |.cond _ a b,acc=>b.asg (a.asg acc)
 |.block _ b,acc=>b.asg acc
 |.zk A _ b,acc|.loop A b,acc=>b.asg (P3 A.ks acc)
 |.defer _ _ t,acc=>acc|||gF t
 |.adj l c,acc=>c.asg (nk l acc)
 |.split _ _ _ _ c,acc=>c.asg acc
 |.bsp _ a b,acc=>b.asg (a.asg acc)
 |.unl _ b,acc=>b.asg acc
 |.skip,acc|.exit _,acc|.ret,acc|.zn,acc=>acc
inductive amq where
 |j (A:Ann)
 |a (l:List Adj)
 |s (k off lo n:Nat)
 |b (t k off lo n:Nat)
 |u (n:Nat)
def Ma (H:PT amq) (n:Nat) (c:TC):TC:=match H.get n with|some (.a l)=>.adj l c|some (.s k off z m)=>.split k off z m c|some (.b t k off z m)=>.bsp t (.split k off z m c) c|_=>c
def I0 (H:PT amq):SC->Nat->TC×Nat
 |.skip,n=>(Ma H n .skip,n+1)
 |.jw o p,n=>(Ma H n (.jw o p),n+1)
 |.seq a b,n=>match I0 H a (n+1) with
  |(z,k)=>(match I0 H b k with|(b',D)=>((match H.get n with|some (.j A)=>.jq A z b'|_=>.seq z b'),D))
 |.cond c a b,n=>match I0 H a (n+1) with
  |(z,k)=>(match I0 H b k with|(b',D)=>(Ma H n (.cond c z b'),D))
 |.block id b,n=>match I0 H b (n+1) with|(b',k)=>((match H.get n with|some (.j A)=>.zk A id b'|_=>.block id b'),k)
 |.loop b,n=>match I0 H b (n+1) with|(b',k)=>((match H.get n with|some (.j A)=>.loop A b'|some (.u m)=>.unl m b'|_=>.zn),k)
 |.exit id,n=>(Ma H n (.exit id),n+1)
 |.ret,n=>(Ma H n .ret,n+1)
 |.defer f c t,n=>(.defer f c t,n+1)
 |.zn,n=>(.zn,n+1)
def ajx (s:TS) (k off:Nat):M (IntKind×Int):=match s.e.get k with
 |some (.f (.int kd) v)=>Z (kd,v)
 |some (.P a o)=>(match s.h.get a with
  |some (.G (Z _) l)=>(match l[o+off]? with|some (.f (.int kd) v)=>Z (kd,v)|_=>U)
  |_=>U)
 |_=>U
def YO (s:TS) (k off:Nat) (kd:IntKind) (v:Int):M TS:=match s.e.get k with
 |some (.f (.int _) _)=>Z ⟨s.e.set k (Z (.f (.int kd) v)),s.h,s.nx⟩
 |some (.P a o)=>(match s.h.get a with
  |some (.G (Z ty) l)=>Z ⟨s.e,s.h.set a (Z (.G (Z ty) (splice l (o+off) [.f (.int kd) v]))),s.nx⟩
  |_=>U)
 |_=>U
def spl (v:Int) (f:Nat->M R):Nat->Nat->M R
 |_,0=>U
 |i,m+1=>aI (decide ((v:Int)=aQ i)) (f i) (spl v f (i+1) m)
def ane (f:TS->(Ex->TS->M R)->M R):Nat->TS->(Ex->TS->M R)->M R
 |0,_,_=>U
 |m+1,s,K=>f s λex s'=>match ex with
  |.normal=>ane f m s' K
  |ex=>K ex s'
def oV {R:Type} (np:Nat) (con:FuncId->M cw) (bZ:TypeId->M Ty) (inert:FuncId->Bool):TC->TS->(Ex->TS->M R)->M R
 |.skip,s,K=>K .normal s
 |.jw ops prs,s,K=>PW con bZ ops s [] λs' D=>if Jz D prs then K .normal s' else U
 |.seq a b,s,K=>oV np con bZ inert a s λex s'=>match ex with|.normal=>oV np con bZ inert b s' K|ex=>K ex s'
 |.jq A a b,s,K=>jn (oV np con bZ inert a s λex s'=>match ex with
   |.normal=>aB (Qq np A (a.asg 0) s s') λx=>Z (.inr x)
   |ex=>aB (K ex s') λr=>Z (.inl r)) λx=>(match KN A (a.asg 0) s x with|some s'=>oV np con bZ inert b s' K|none=>U)
 |.cond c a b,s,K=>match s.e.get c with
  |some (.f .bool t)=>aI t (oV np con bZ inert a s K) (oV np con bZ inert b s K)
  |some .qw=>zZ (oV np con bZ inert a s K) (oV np con bZ inert b s K)
  |_=>U
 |.block id b,s,K=>oV np con bZ inert b s λex s'=>match ex with
  |.exit i=>if ax i id then K .normal s' else K (.exit i) s'
  |ex=>K ex s'
 |.zk A id b,s,K=>jn (oV np con bZ inert b s λex s'=>match ex with
   |.normal=>aB (Qq np A (b.asg 0) s s') λx=>Z (.inr x)
   |.exit i=>if ax i id then aB (Qq np A (b.asg 0) s s') λx=>Z (.inr x) else aB (K (.exit i) s') λr=>Z (.inl r)
   |.ret=>aB (K .ret s') λr=>Z (.inl r)) λx=>(match KN A (b.asg 0) s x with|some s'=>K .normal s'|none=>U)
 |.loop A b,s,K=>aB (Qq np A (b.asg 0) s s) λx=>iter (λx=>match KN A (b.asg 0) s x with
   |some s'=>oV np con bZ inert b s' λex s'=>(match ex with
    |.normal=>aB (Qq np A (b.asg 0) s s') λy=>Z (.inl y)
    |ex=>aB (K ex s') λr=>Z (.inr r))
   |none=>U) x
 |.exit id,s,K=>K (.exit id) s
 |.ret,s,K=>K .ret s
 |.defer f _ t,s,K=>if inert f then K .normal ⟨s.e.set t U,s.h,s.nx⟩ else U
 |.adj l c,s,K=>match X_ s l with|some s'=>oV np con bZ inert c s' K|none=>U
 |.split k off z n c,s,K=>match ajx s k off with
  |some (kd,v)=>spl v (λi=>match YO s k off kd (aQ i) with|some s'=>oV np con bZ inert c s' K|none=>U) z n
  |none=>U
 |.bsp t a b,s,K=>match s.e.get t with
  |some (.f .bool v)=>aI v (oV np con bZ inert a ⟨s.e.set t (Z (.f .bool J)),s.h,s.nx⟩ K) (oV np con bZ inert b ⟨s.e.set t (Z (.f .bool af)),s.h,s.nx⟩ K)
  |_=>U
 |.unl n b,s,K=>ane (λs K=>oV np con bZ inert b s K) n s K
 |.zn,_,_=>U
def O6:Nat->Y TV->ii
 |_,[]=>PT.leaf
 |k,x::r=>(O6 (k+1) r).set k (Z x)
def rvT (s:TS):RV->M TV
 |.tmp t=>s.e.get t
 |.cell a sz z=>match s.e.get a with
  |some (.P id off)=>(match s.h.get id with|some (.G (Z _) l)=>YI l off sz z|_=>U)
  |_=>U
def Vi (s:TS):Y RV->M (Y TV)
 |[]=>Z []
 |x::r=>match rvT s x with|some v=>(match Vi s r with|some l=>Z (v::l)|none=>U)|none=>U
structure FT where
 pre:Tm
 post:Tm
 hints:PT amq
def axr (D:FT):Y Adj:=match D.hints.get 60000 with
 |some (.a l)=>l
 |_=>[]
def ai1 (con:FuncId->M cw) (bZ:TypeId->M Ty) (inert:FuncId->Bool) (F:M SF) (D:FT) (x:D.pre.ty.den):M D.post.ty.den:=
 match F with
 |some z=>(match Ee D.pre x with
  |some (args,h)=>if dR (l! args) z.nt&&dR (l! D.pre.bs) (l! D.post.bs) then
    oV (l! D.pre.bs) con bZ inert (I0 D.hints z.code 0).1 ⟨O6 0 args,h,l! D.pre.bs⟩ λex s=>(match ex with
    |.exit _=>U
    |_=>(match X_ s (axr D) with
     |some s=>(match Vi s z.res with
      |some l=>(match Fc (l! D.pre.bs) D.post l s.h with
       |some ⟨y,_,_,_⟩=>(match Ee D.post y with|some _=>Z y|none=>U)
       |none=>U)
      |none=>U)
     |none=>U)) else U
  |none=>U)
 |none=>U
def fD {u:Value} (h:co V O w (.f (.raw v)) u):u=v:=by
 cases h with
 |f h=>cases h;rfl
def vV (h:HF) (z:HF):fy h [] z=h:=by funext t;simp[fy]
def Kz:∀{l:ξ},OX l=J->∀v∈l,v.oneCell'=J
 |[],_,v,z=>by cases z
 |x::r,h,v,z=>by
  simp[OX,al]at h;rcases aV.1 z with rfl|z
  .exact h.1
  .exact Kz h.2 v z
def aac (v:Value):co V O w (I8 v) v:=by
 unfold I8;split
 .rename_i vs;split
  .rename_i h1;refine co.agg (vs:=vs.toList) (by simp) (λx z=>?_) (λj x v z A=>?_)
   .obtain⟨u,D,rfl⟩:=cz.1 z;exact Kz h1 u D
   .rw[bB,A]at z;simp[bi,ah]at z;subst z;exact .f (.raw _)
  .exact .f (.raw _)
 .exact .f (.raw _)
variable {c:Operand}
def vG {e:EH} {xs:Array Operand} (hrep:sC V O S w) (h:∀t,.tmp t∈xs->∀y,e.get t=Z y->co V (tot O V S) w y (z.tmps.getD t undef)) (D:c∈xs) (a:me e c=Z y):co V (tot O V S) w y (z.eval c):=by
 cases c with
 |tmp t=>exact h t D y a
 |const v=>simp[me,ah]at a;subst a;exact aac v
 |func g=>
  simp[me,ah]at a;subst a;exact co.qy (vs:=[]) (g:=g) (cells:=[]) rfl (by simp)
 |global g=>
  simp[me]at a;cases A:G g with
  |none=>rw[A]at a;cases a
  |some cells=>rw[A]at a;simp[ah]at a;subst a;exact .f (hrep.gl g cells A)
abbrev Yz (φ:PM) (E:Nat->Prop) (h':HF) (w:World) (a:Act) (e:EH) (o:Oper):Prop:=∀x y,x∈o.op.operands->me e x=Z y->co φ (tot E φ h') w y (a.eval x)
def gE.reads {o:Oper} {e:EH} {rd:ι} {A:HF}
 (hv:∀(φ:PM) (E:Nat->Prop) (h':HF) (w:World) (a:Act),(∀i∈rd,h' i=S i)->Yz φ E h' w a e o->sC φ E h' w->
   ∃v,(execOp a.eval o).run T w= .ok (.value v) w/\co φ (tot E φ h') w y v):gE T o e.get S ⟨y,rd,[],A,[]⟩:=by
 intro φ E h' w a h1 h2 h3 z h5;let⟨v,r,rel⟩:=hv φ E h' w a h1 (λx val L D=>vG z h3 L D) z;unfold LB;rw[r];refine ⟨v,φ,rfl,?_,λ_ _ S=>.inl S,?_,?_⟩<;>rw[vV]
 .exact kj.refl _ _ _
 .exact z
 .exact rel
def dy {R:DF} (h:rv y=Z R):R=⟨y,[],[],[],[]⟩:=by simp only[rv,ah]at h;exact h.symm
section pure
variable {P:Program} {o:Oper} {e:EH} {h:nz} {nx:Nat} {R:DF}
def ay8 (z:o.op= .move c\/o.op= .assign c) (A:dG (.mv c) e h nx=Z R):gE P o e.get h.get R.eff:=by
 simp[dG]at A;split at A
 next v D=>rw[dy A];exact gE.reads λφ E h' w a _ hop _=>⟨a.eval c,by unfold execOp;rcases z with z|z<;>rw[z]<;>rfl,hop c v (by rcases z with z|z<;>rw[z]<;>simp[Op.operands]) D⟩
 .cases A
def aun {x y:Operand} (A:o.op= .pick c x y) (z:dG (.pick c x y) e h nx=Z R):gE P o e.get h.get R.eff:=by
 simp[dG]at z;split at z
 .rename_i t L;split at z
  .rename_i v D;rw[dy z];refine gE.reads λφ E h' w a _ hop _=>?_
   have hcv:=fD (hop c _ (by rw[A];simp[Op.operands]) L);refine ⟨a.eval (if t then x else y),?_,hop _ v (by rw[A];cases t<;>simp[Op.operands]) D⟩;unfold execOp;rw[A];simp[hcv];cases t<;>rfl
  .cases z
 .cases z
def auo (A:o.op= .nilCheck c) (D:dG (.zl c) e h nx=Z R):gE P o e.get h.get R.eff:=by
 simp[dG]at D;split at D
 .rename_i id off hx;rw[dy D];refine gE.reads λφ E h' w a _ hop _=>?_
  have h1:=hop c _ (by rw[A];simp[Op.operands]) hx;generalize L:a.eval c=z at h1;cases h1 with
  |P hφ=>exact⟨_,by unfold execOp;rw[A];simp only[L];rfl,.P hφ⟩
 .rename_i cells off hx;rw[dy D];refine gE.reads λφ E h' w a _ hop _=>?_
  have h1:=hop c _ (by rw[A];simp[Op.operands]) hx;generalize L:a.eval c=z at h1;cases h1 with
  |f h1=>
   have h2:=h1;cases h2 with
   |P _ _ b base us hO hb hcl hu hr=>exact⟨_,by unfold execOp;rw[A];simp only[L];rfl,.f h1⟩
 .rename_i g cap hx;rw[dy D];refine gE.reads λφ E h' w a _ hop _=>?_
  have h1:=hop c _ (by rw[A];simp[Op.operands]) hx;generalize L:a.eval c=z at h1;cases h1 with
  |qy hl hr=>exact⟨_,by unfold execOp;rw[A];simp only[L];rfl,.qy hl hr⟩
 .cases D
variable {s:TypeId}
def ay6 (A:o.op= .unOp .not s c) (z:dG (.not c) e h nx=Z R):gE P o e.get h.get R.eff:=by
 simp[dG]at z;split at z
 .rename_i b D;rw[dy z];refine gE.reads λφ E h' w a _ hop _=>?_
  have h1:=fD (hop c _ (by rw[A];simp[Op.operands]) D);exact⟨_,by unfold execOp;rw[A];simp[h1];rfl,.f (.raw _)⟩
 .cases z
def B_ (k:IntKind) (n:Int):bl k n=k.wrap n:=by
 rw[LD];unfold Q2;split
 .split
  .rename_i h;simp[dg,al,bG]at h;have:pZ .i64 n=if n%18446744073709551616≥9223372036854775808 then n%18446744073709551616-18446744073709551616 else n%18446744073709551616:=by
    simp[pZ,IntKind.bits,IntKind.signed]
   rw[this];split<;>omega
  .rfl
 .split
  .rename_i h;simp[dg,al,bG]at h;have:pZ .u8 n=n%256:=by
    simp[pZ,IntKind.bits,IntKind.signed]
   omega
  .rfl
 .rfl
def auw {d:TypeId} {k D:IntKind} (A:o.op= .convert s d c) (hs:P.underlying s=Z (.int D)) (hd:P.underlying d=Z (.int k)) (z:dG (.conv k c) e h nx=Z R):gE P o e.get h.get R.eff:=by
 simp[dG]at z;split at z
 .rename_i kk n L;rw[dy z];refine gE.reads λφ E h' w a _ hop _=>?_
  have h1:=fD (hop c _ (by rw[A];simp[Op.operands]) L);refine ⟨_,?_,.f (.raw _)⟩;unfold execOp;rw[A];simp[h1,convert,run_underlying hs,run_underlying hd,Conv.intToInt,B_]
 .cases z
def Uy (a:ByteArray):a.toList=a.data.toList:=by
 first|exact ByteArray.toList_eq a|simp[ByteArray.toList]|rfl
def aif {op:BinOp} {t:TypeId} {u r:Value} (z:xg op u v=Z r) (x y:Operand) (w:World):
 (do eqGuard op t x y u v;binOp op t u v:Sem Value).run P w= .ok r w:=by
 unfold xg at z;split at z
 .rename_i k a D b;split at z
  .rename_i hk;have A:k=D:=by grind
   subst A;split at z<;>first|(simp [ah]at z;subst z;simp[eqGuard,binOp,Op.intCmp,Op.intArith,B_,dg,gC];done)|(split at z<;>first|(cases z;done)|(rename_i L;simp[ah]at z;subst z;simp[eqGuard,binOp,Op.intDiv,B_,show b≠0 from by simpa using L];done))|(cases z;done)
  .cases z
 next a b=>split at z<;>first|(simp [ah]at z;subst z;simp[eqGuard,binOp,Op.stringOp,t7,Uy];done)|(cases z;done)
 .cases z
def ari {s:Sem Value} {w':World} (z:s.run P w= .ok v w'):(do let x<-s;pure (Next.value x):Sem Next).run P w= .ok (.value v) w':=by
 simp[z]
def asl {op:BinOp} {y:Operand} {D:TypeId} (A:o.op= .binOp op s c y D) (z:dG (.bin op c y) e h nx=Z R):gE P o e.get h.get R.eff:=by
 simp[dG]at z;split at z
 .rename_i u v hx L;split at z
  .rename_i r hr;rw[dy z];refine gE.reads λφ E h' w a _ hop _=>?_
   have h1:=fD (hop c _ (by rw[A];simp[Op.operands]) hx);have h2:=fD (hop y _ (by rw[A];simp[Op.operands]) L);refine ⟨r,?_,.f (.raw _)⟩;unfold execOp;rw[A];simp only[h1,h2];exact ari (aif (P:=P) (t:=s) hr c y w)
  .cases z
 .cases z
def ZT (z:P.underlying s=Z .bool) (u v:Bool) (w:World):(Op.equal s (.bool u) (.bool v)).run P w= .ok (u==v) w:=by
 have key:∀d,(Op.equalIn (d+1) s (.bool u) (.bool v)).run P w= .ok (u==v) w:=λd=>by simp[Op.equalIn,run_underlying z]
 exact key 9999
def WV {D:TypeId} (z:P.underlying s=Z (.slice D)) (A:M Addr) (n c:Nat) (w:World):(Op.equal s (.slice A n c) (.slice U 0 0)).run P w= .ok A.isNone w:=by
 have key:∀d,(Op.equalIn (d+1) s (.slice A n c) (.slice U 0 0)).run P w= .ok A.isNone w:=λd=>by cases A<;>simp[Op.equalIn,run_underlying z]
 exact key 9999
def ask {neg:Bool} {op:BinOp} {y:Operand} {D:TypeId} (A:o.op= .binOp op s c y D) (hop:op=if neg then .neq else .eql) (hu:P.underlying s=Z .bool) (z:dG (.xj neg c y) e h nx=Z R):gE P o e.get h.get R.eff:=by
 simp[dG]at z;split at z
 .rename_i u v hx L;rw[dy z];refine gE.reads λφ E h' w a _ hp _=>?_
  have h1:=fD (hp c _ (by rw[A];simp[Op.operands]) hx);have h2:=fD (hp y _ (by rw[A];simp[Op.operands]) L);refine ⟨_,?_,.f (.raw _)⟩;unfold execOp;rw[A];simp[h1,h2];subst hop;cases neg<;>simp[eqGuard,binOp,ZT hu]
 .cases z
def ae6 {neg:Bool} {op:BinOp} {y:Operand} {t' el:TypeId} (ho:o.op= .binOp op s c y t') (hop:op=if neg then .neq else .eql) (hy:y= .const (.slice U 0 0)) (hu:P.underlying s=Z (.slice el)) (L:dG (.zd neg c) e h nx=Z R):gE P o e.get h.get R.eff:=by
 have key:∀(v:Value) (w:World) (ρ:Operand->Value) (A:M Addr) (n x:Nat),ρ c= .slice A n x->ρ y= .slice U 0 0->(execOp ρ o).run P w= .ok (.value (.bool (A.isNone !=neg))) w:=by
  intro v w ρ A n x h1 h2;unfold execOp;rw[ho];simp[h1,h2];subst hop;cases neg<;>simp[eqGuard,binOp,WV hu]
 have hyv:∀a:Act,a.eval y= .slice U 0 0:=λa=>by rw[hy];rfl
 simp[dG]at L;split at L
 .rename_i id sz n D;rw[dy L];refine gE.reads λφ E h' w a _ hp _=>?_
  have h1:=hp c _ (by rw[ho];simp[Op.operands]) D;generalize hz:a.eval c=z at h1;cases h1 with
  |I hφ hn hc hs=>exact⟨_,key (.bool J) w a.eval _ _ _ hz (hyv a),by simpa[raw] using co.f (.raw _)⟩
 .rename_i id off n D;rw[dy L];refine gE.reads λφ E h' w a _ hp _=>?_
  have h1:=hp c _ (by rw[ho];simp[Op.operands]) D;generalize hz:a.eval c=z at h1;cases h1 with
  |sl hφ hn hc=>exact⟨_,key (.bool J) w a.eval _ _ _ hz (hyv a),by simpa[raw] using co.f (.raw _)⟩
 .rename_i cells n D;rw[dy L];refine gE.reads λφ E h' w a _ hp _=>?_
  have h1:=hp c _ (by rw[ho];simp[Op.operands]) D;generalize hz:a.eval c=z at h1;cases h1 with
  |f h1=>
   cases h1 with
   |sl=>exact⟨_,key (.bool J) w a.eval _ _ _ hz (hyv a),by simpa[raw] using co.f (.raw _)⟩
 .rename_i cells D;rw[dy L];refine gE.reads λφ E h' w a _ hp _=>?_
  have h1:=hp c _ (by rw[ho];simp[Op.operands]) D;generalize hz:a.eval c=z at h1;cases h1 with
  |f h1=>
   cases h1 with
   |_=>exact⟨_,key (.bool J) w a.eval _ _ _ hz (hyv a),.qw⟩
 .rename_i D;rw[dy L];refine gE.reads λφ E h' w a _ hp _=>?_
  have h1:=hp c _ (by rw[ho];simp[Op.operands]) D;generalize hz:a.eval c=z at h1;cases h1 with
  |emp=>exact⟨_,key (.bool J) w a.eval _ _ _ hz (hyv a),.qw⟩
 .rename_i v D;split at L
  .rename_i hv;rw[dy L];refine gE.reads λφ E h' w a _ hp _=>?_
   have h1:=fD (hp c _ (by rw[ho];simp[Op.operands]) D);unfold Dq at hv;split at hv
   .exact⟨_,key (.bool J) w a.eval _ _ _ h1 (hyv a),by simpa[raw] using co.f (.raw _)⟩
   .cases hv
  .cases L
 .cases L
def gG (z:fP P s=Z i) (w:World):(sizeOf s).run P w= .ok i w:=by
 unfold fP at z;cases hi:P.info? s with
 |none=>rw[hi]at z;cases z
 |some sz=>rw[hi]at z;simp at z;simp[sizeOf,typeInfo,program,hi,kV,z]
def Vk (z:HH P s=Z b) (w:World):(isAgg s).run P w= .ok b w:=by
 unfold HH at z;cases hi:P.underlying s with
 |none=>rw[hi]at z;cases z
 |some d=>
  rw[hi]at z;simp[bi,ah]at z;rw[<- z];simp[isAgg,fG,run_underlying hi,cZ];cases d<;>rfl
def kU (b off i:Nat):(⟨b,off,U⟩:Addr).add i=⟨b,off+i,U⟩:=by
 unfold Addr.add;split<;>simp_all
variable {E:Array Field}
def Vj {f:Field} (A:P.underlying s=Z (.struct E)) (hf:E[i]? =Z f) (D:fP P f.type=Z j) (h0:j≠0) (w:World) (b k:Nat):
 (Instr.fieldAt s (.pointer (Z ⟨b,k,U⟩)) i).run P w= .ok (.pointer (Z ⟨b,k+f.offset,U⟩)) w:=by
 have h1:=gG D w;simp[Instr.fieldAt,run_underlying A,hf,Instr.sureAddr,fieldPlace,h1,h0,kU]
def ayi {f:Field} (ho:o.op= .fieldAddr s c i) (hu:P.underlying s=Z (.struct E)) (hf:E[i]? =Z f) (hs:fP P f.type=Z j) (h0:j≠0) (A:dG (.jb f.offset c) e h nx=Z R):gE P o e.get h.get R.eff:=by
 have key:∀(w:World) (ρ:Operand->Value) (b k:Nat),ρ c= .pointer (Z ⟨b,k,U⟩)->(execOp ρ o).run P w= .ok (.value (.pointer (Z ⟨b,k+f.offset,U⟩))) w:=by
  intro w ρ b k h1;unfold execOp;rw[ho];simp only[h1];exact ari (Vj hu hf hs h0 w b k)
 simp[dG]at A;split at A
 .rename_i id off L;rw[dy A];refine gE.reads λφ fs h' w a _ hp _=>?_
  have h1:=hp c _ (by rw[ho];simp[Op.operands]) L;generalize D:a.eval c=z at h1;cases h1 with
  |P hφ=>exact⟨_,key w a.eval _ _ D,.P hφ⟩
 .rename_i cells off L;rw[dy A];refine gE.reads λφ fs h' w a _ hp _=>?_
  have h1:=hp c _ (by rw[ho];simp[Op.operands]) L;generalize D:a.eval c=z at h1;cases h1 with
  |f h1=>
   cases h1 with
   |P _ _ b base us hO hb hcl hu hr=>
    refine ⟨_,key w a.eval _ _ D,.f ?_⟩;rw[uJ];exact .P cells _ b base us hO hb hcl hu hr
 .cases A
def NI {z:TypeId} {y:Operand} {off n x:Nat} {k:IntKind} {sz:Int} {ρ:Operand->Value} (ho:o.op= .indexAddr s c y) (L:P.underlying s=Z (.slice z)) (hs:fP P z=Z i) (D:ρ c= .slice (Z ⟨j,off,U⟩) n x) (A:ρ y= .int k sz) (h0:0<=sz) (h1:sz<n):
 (execOp ρ o).run P w= .ok (.value (.pointer (Z ⟨j,off+sz.toNat*i,U⟩))) w:=by
 have h2:=gG hs w;unfold execOp;rw[ho];simp[D,A,Instr.indexAt,asIntOf,run_underlying L,h2,h0,h1,kU]
def ayg {el:TypeId} {y:Operand} (ho:o.op= .indexAddr s c y) (hu:P.underlying s=Z (.slice el)) (hs:fP P el=Z i) (A:dG (.jf i c y) e h nx=Z R):gE P o e.get h.get R.eff:=by
 simp[dG]at A;split at A
 .rename_i v k j hx hy;have hyv:∀{φ:PM} {E:Nat->Prop} {h':HF} {w:World} {a:Act},Yz φ E h' w a e o->a.eval y= .int k j:=λhp=>fD (hp y _ (by rw[ho];simp[Op.operands]) hy)
  split at A
  .split at A
   .rename_i id sz' n L;simp[dg,gC,al,bG,c4]at L;obtain⟨⟨rfl,h0⟩,h1⟩:=L;rw[dy A];refine gE.reads λφ E h' w a _ hp _=>?_
    have D:=hp c _ (by rw[ho];simp[Op.operands]) hx;generalize hz:a.eval c=z at D;cases D with
    |I hφ hn hc' hsh=>
     refine ⟨_,NI ho hu hs hz (hyv hp) h0 h1,?_⟩;rw[bX];exact .P hφ
   .cases A
  .split at A
   .rename_i id off n L;simp[dg,gC,al,bG]at L;let⟨h0,h1⟩:=L;rw[dy A];refine gE.reads λφ E h' w a _ hp _=>?_
    have D:=hp c _ (by rw[ho];simp[Op.operands]) hx;generalize hz:a.eval c=z at D;cases D with
    |sl hφ hn hc'=>exact⟨_,NI ho hu hs hz (hyv hp) h0 h1,.P hφ⟩
   .cases A
  .split at A
   .rename_i cells n L;simp[dg,gC,al,bG]at L;let⟨h0,h1⟩:=L;rw[dy A];refine gE.reads λφ E h' w a _ hp _=>?_
    have D:=hp c _ (by rw[ho];simp[Op.operands]) hx;generalize hz:a.eval c=z at D;cases D with
    |f D=>
     cases D with
     |nil=>omega
     |sl _ _ x b base us hn hc' hO hb hcl hu' hr'=>exact⟨_,NI ho hu hs hz (hyv hp) h0 h1,.f (.P cells _ b base us hO hb hcl hu' hr')⟩
   .cases A
  .cases A
 .cases A
def auu {el:TypeId} {y:Operand} (L:o.op= .indexAddr s c y) (hu:P.underlying s=Z (.array i el)) (hs:fP P el=Z j) (A:dG (.jv i j c y) e h nx=Z R):gE P o e.get h.get R.eff:=by
 have key:∀(w:World) (ρ:Operand->Value) (b off:Nat) (k:IntKind) (n:Int),ρ c= .pointer (Z ⟨b,off,U⟩)->ρ y= .int k n->0<=n->n<i->(execOp ρ o).run P w= .ok (.value (.pointer (Z ⟨b,off+n.toNat*j,U⟩))) w:=by
  intro w ρ b off k n h1 h2 h3 h4;have h5:=gG hs w;unfold execOp;rw[L];simp[h1,h2,Instr.indexAt,asIntOf,run_underlying hu,h5,h3,h4,kU,Instr.sureAddr]
 simp[dG]at A;split at A
 .rename_i v k sz hx hy;split at A
  .rename_i hc;simp[dg,gC,al,bG]at hc;let⟨h0,h1⟩:=hc;split at A
   .rw[dy A];refine gE.reads λφ E h' w a _ hp _=>?_
    have D:=hp c _ (by rw[L];simp[Op.operands]) hx;have hyv:=fD (hp y _ (by rw[L];simp[Op.operands]) hy);generalize hz:a.eval c=z at D;cases D with
    |P hφ=>exact⟨_,key w a.eval _ _ k sz hz hyv h0 h1,.P hφ⟩
   .rw[dy A];refine gE.reads λφ E h' w a _ hp _=>?_
    have D:=hp c _ (by rw[L];simp[Op.operands]) hx;have hyv:=fD (hp y _ (by rw[L];simp[Op.operands]) hy);generalize hz:a.eval c=z at D;cases D with
    |f D=>
     cases D with
     |P _ _ b base us hO hb hcl hu' hr'=>
      refine ⟨_,key w a.eval _ _ k sz hz hyv h0 h1,.f ?_⟩;rw[uJ];exact .P _ _ b base us hO hb hcl hu' hr'
   .cases A
  .cases A
 .cases A
def ayj (L:o.op= .extract c i) (A:dG (.ext c i) e h nx=Z R):gE P o e.get h.get R.eff:=by
 simp[dG]at A;split at A
 .rename_i l hx;split at A
  .rename_i v hv;rw[dy A];refine gE.reads λφ E h' w a _ hp _=>?_
   have D:=hp c _ (by rw[L];simp[Op.operands]) hx;generalize hz:a.eval c=z at D;cases D with
   |@qb _ vs hl hrr=>
    have hlt:i<l! vs:=by grind
    refine ⟨vs[i],?_,hrr i v _ hv (aG hlt)⟩;unfold execOp;rw[L];simp[hz,Instr.extract,hlt]
  .cases A
 .cases A
def ayd {y:Operand} {D:Array TypeId} (A:o.op= .call {callee:=.builtin .max,args:=#[c,y],argTypes:=D}) (z:dG (.max c y) e h nx=Z R):gE P o e.get h.get R.eff:=by
 simp[dG]at z;split at z
 .rename_i k a b k' hx L;rw[dy z];refine gE.reads λφ E h' w a _ hp _=>?_
  have h1:=fD (hp c _ (by rw[A];simp[Op.operands,dI]) hx);have h2:=fD (hp y _ (by rw[A];simp[Op.operands,dI]) L);refine ⟨_,?_,.f (.raw _)⟩;unfold execOp;rw[A];simp[resolve,invoke,builtin,Builtin.max_,Builtin.max2,h1,h2,gC]
 .cases z
def ayc {y:Operand} {D:Array TypeId} (A:o.op= .call {callee:=.builtin .min,args:=#[c,y],argTypes:=D}) (z:dG (.min c y) e h nx=Z R):gE P o e.get h.get R.eff:=by
 simp[dG]at z;split at z
 .rename_i k a b k' hx L;rw[dy z];refine gE.reads λφ E h' w a _ hp _=>?_
  have h1:=fD (hp c _ (by rw[A];simp[Op.operands,dI]) hx);have h2:=fD (hp y _ (by rw[A];simp[Op.operands,dI]) L);refine ⟨_,?_,.f (.raw _)⟩;unfold execOp;rw[A];simp[resolve,invoke,builtin,Builtin.min_,Builtin.min2,h1,h2,gC]
 .cases z
def ay7 {k:IntKind} (L:o.op= .unOp .neg s c) (A:dG (.bin .sub (.const (.int k 0)) c) e h nx=Z R):gE P o e.get h.get R.eff:=by
 simp[dG,me,I8]at A;split at A
 .rename_i u v hu hx;cases hu;split at A
  .rename_i r z;rw[dy A];refine gE.reads λφ E h' w a _ hop _=>?_
   have h1:=fD (hop c _ (by rw[L];simp[Op.operands]) hx);refine ⟨r,?_,.f (.raw _)⟩;unfold execOp;rw[L];cases v<;>simp only[xg]at z<;>try (cases z;done)
   split at z
   next D=>have D:=eq_of_beq D;subst D;simp[ah]at z;subst z;simp[h1,Op.unary,Op.intArith,B_]
   .cases z
  .cases A
 .cases A
def aum {i:Operand} (A:o.op= .index s c i) (hu:P.underlying s=Z .string) (z:dG (.jx c i) e h nx=Z R):gE P o e.get h.get R.eff:=by
 simp only[dG]at z;split at z
 .rename_i t k j L hi;split at z
  .rename_i h0;simp[dg,bG]at h0;split at z
   .rename_i b D;rw[dy z];refine gE.reads λφ E h' w a _ hop _=>?_
    have h1:=fD (hop c _ (by rw[A];simp[Op.operands]) L);have h2:=fD (hop i _ (by rw[A];simp[Op.operands]) hi);refine ⟨_,?_,.f (.raw _)⟩;have hs:t[j.toNat]? =Z b:=by
     rw[dc]at D;let⟨hl,he⟩:=dE.1 D;exact getElem?_pos t j.toNat hl▸eR Z he
    unfold execOp;rw[A];simp[Instr.index,run_underlying hu,h1,h2,asIntOf,h0,hs]
   .cases z
  .cases z
 .cases z
variable {f:FuncId}
def ayb {caps:Array Operand} (L:o.op= .makeFunc (.func f) #[] caps) (A:dG (.mkf f caps.toList) e h nx=Z R):gE P o e.get h.get R.eff:=by
 simp[dG]at A;split at A
 .rename_i l hl;rw[dy A];refine gE.reads λφ E h' w a _ hp _=>?_
  refine ⟨_,by unfold execOp;rw[L];rfl,?_⟩;have key:∀(xs:Y Operand) (z:Y AV),(∀x∈xs,x∈o.op.operands)->evs e xs=Z z->l! z=l! xs/\∀(j:Nat) x v,z[j]? =Z x->(xs.map a.eval)[j]? =Z v->co φ (tot E φ h') w x v:=by
   intro xs;induction xs with
   |nil=>intro z _ h;simp[evs,ah]at h;subst h;exact⟨rfl,λj x v D=>by simp at D⟩
   |cons x xs ih=>
    intro z hm h;simp[evs]at h
    grind
  let⟨h1,h2⟩:=key caps.toList l (λx D=>by rw[L];simpa[Op.operands] using D) hl;have h3:(caps.map a.eval)=(caps.toList.map a.eval).toArray:=by grind
  have h4:(#[]:Array Operand).map a.eval=#[]:=by simp
  rw[h4,h3];exact .qy (by grind) h2
 .cases A
end pure
section
variable {P:Program} {o:Oper} {e:EH} {h:nz} {nx:Nat} {R:DF}
def abk {α:Type} {l cs:Y α} (h:i+j<=l! l) (he:(l.drop i).take j=cs):l! cs=j/\∀(sz:Nat) x,cs[sz]? =Z x->l[i+sz]? =Z x:=by grind
def A_ (f:Nat->Value) (n j:Nat) (v:Value) (h:((eA n).map f)[j]? =Z v):v=f j/\j<n:=by grind
def Br (φ:PM) (O:Nat->Prop) (w:World) (c:BC) (f:Nat->M Value):Prop:=∀j x,c.get j=Z x->x.isCell=J/\∃v,f j=Z v/\co φ O w x v
def abj {c:BC} (z:c.sub? i j b=Z y) {f:Nat->M Value} (hc:Br V O w c f):
 ∃cs:ξ,l! cs=j/\(∀(sz:Nat) v,cs[sz]? =Z v->f (i+sz)=Z v)/\(b=af->j=1)/\co V O w y (if b then .agg cs.toArray else cs.getD 0 undef):=by
 cases b with
 |false=>
  simp[BC.sub?]at z;split at z
  .obtain⟨h0,v,h1,D⟩:=hc i y z;exact⟨[v],rfl,λsz u hu=>by cases sz with|zero=>simp at hu;subst hu;exact h1|succ sz=>simp at hu,λ_=>rfl,by simpa using D⟩
  .cases z
 |true=>
  have fin:∀(g:Nat->M AV),(∀sz,sz<j->∃x,g sz=Z x/\c.get (i+sz)=Z x)->
   ∃cs:ξ,l! cs=j/\(∀(sz:Nat) v,cs[sz]? =Z v->f (i+sz)=Z v)/\∀(sz:Nat) x v,g sz=Z x->cs[sz]? =Z v->co V O w x v:=by
   intro g L;refine ⟨(eA j).map λsz=>(f (i+sz)).getD undef,by simp,λsz v hv=>?_,λsz x v hx hv=>?_⟩
   .obtain⟨rfl,A⟩:=A_ _ _ _ _ hv;let⟨x,_,D⟩:=L sz A;let⟨_,v,h3,_⟩:=hc _ _ D;rw[h3];rfl
   .obtain⟨rfl,A⟩:=A_ _ _ _ _ hv;let⟨x',h1,D⟩:=L sz A;rw[hx]at h1;cases h1;let⟨_,v,h3,h4⟩:=hc _ _ D;rw[h3];exact h4
  simp only[BC.sub?]at z;split at z
  .rename_i l;split at z
   .rename_i hle;simp[ah]at z;subst z;let⟨hl,L⟩:=abk (aU hle) (rfl:(l.drop i).take j=_);let⟨cs,h1,D,h3⟩:=fin (λsz=>(((l.drop i).take j)[sz]?).map AV.f) (λsz A=>by
     have hlt:sz<l! ((l.drop i).take j):=by omega
     refine ⟨.f ((l.drop i).take j)[sz],by simp[aG hlt,bi],?_⟩;simp[BC.get,L sz _ (aG hlt),bi])
    refine ⟨cs,h1,D,nofun,.f (.agg _ _ (by omega) ?_ ?_)⟩
    .intro x hx;let⟨sz,A⟩:=fH hx;exact (hc (i+sz) (.f x) (by simp[BC.get,L sz x A,bi])).1
    .intro sz x v hx hv;have:=h3 sz (.f x) v (by grind) hv;cases this with
     |f h=>exact h
   .cases z
  .rename_i l;split at z
   .rename_i hle;simp[ah]at z;subst z;let⟨hl,L⟩:=abk (aU hle) (rfl:(l.drop i).take j=_);let⟨cs,h1,D,h3⟩:=fin (λsz=>(((l.drop i).take j)[sz]?)) (λsz A=>by
     have hlt:sz<l! ((l.drop i).take j):=by omega
     exact⟨_,aG hlt,L sz _ (aG hlt)⟩)
    refine ⟨cs,h1,D,nofun,.agg (by omega) ?_ ?_⟩
    .intro x hx;let⟨sz,A⟩:=fH hx;exact (hc (i+sz) x (L sz x A)).1
    .omega
   .cases z
  .cases z
variable {s:TypeId}
def SM (hs:fP P s=Z i) (ha:HH P s=Z b) (w:World) (z off:Nat) (cs:ξ) (A:l! cs=i) (D:∀(j:Nat) v,cs[j]? =Z v->w.cell? ⟨z,off+j,U⟩=Z v) (h1:b=af->i=1):
 (loadVar s ⟨z,off,U⟩).run P w= .ok (if b then .agg cs.toArray else cs.getD 0 undef) w:=by
 unfold loadVar;simp[fG,Vk ha w,cZ];cases b with
 |true=>
  simp[bk,fG,gG hs w,cZ];rw[<- A,run_loadCells_list (P:=P) w ⟨z,off,U⟩ cs (λj v L=>by rw[kU];exact D j v L)];rfl
 |false=>
  have h1:=h1 rfl;cases cs with
  |nil=>simp at A;omega
  |cons v r=>
   have:=D 0 v rfl;simp_all
def MU {φ:PM} {z:Bool} (D:fP P s=Z i) (ha:HH P s=Z z) {c:BC} {b base:Nat} (A:c.sub? j i z=Z y)
 (hc:Br φ O w c λoff=>w.cell? ⟨b,base+off,U⟩):∃v,(loadVar s ⟨b,base+j,U⟩).run P w= .ok v w/\co φ O w y v:=by
 let⟨cs,h1,h2,h3,h4⟩:=abj A hc;exact⟨_,SM D ha w b (base+j) cs h1 (λoff v L=>by rw[uJ];exact h2 off v L) h3,h4⟩
def X0 (hrep:sC V O S w) (L:S i=Z N) (A:V i=Z j) (D:N.c.isCells=J):Br V (tot O V S) w N.c λk=>w.cell? ⟨j,0+k,U⟩:=by
 let⟨k',h1,_,h2⟩:=hrep.at_ i N L;rw[A]at h1;cases h1;let⟨arr,h3,h4,h5⟩:=h2.cells D;intro k x z;let⟨c1,v,c2,c3⟩:=h5 k x z;exact⟨c1,v,by simp[Sk,h3,c2],c3⟩
def aar {cells:Y FV} {D:Nat->Value} (hcl:∀x∈cells,x.isCell=J) (L:∀base,base<l! cells->w.cell? ⟨i,j+base,U⟩=Z (D base)) (hr:∀(base:Nat) x,cells[base]? =Z x->ny O w x (D base)):
 Br V O w (.fz cells) λbase=>w.cell? ⟨i,j+base,U⟩:=by
 intro base y z;simp only[BC.get]at z;cases A:cells[base]? with
 |none=>rw[A]at z;cases z
 |some q=>
  rw[A]at z;simp at z;subst z;have hj:base<l! cells:=(bC.1 A).1;exact⟨hcl q (a8 A),D base,L base hj,.f (hr base q A)⟩
def U2 {c:BC} (h:c.sub? i j b=Z y):c.isCells=J:=by
 cases c with
 |fz|mx=>rfl
 |_=>cases b<;>simp[BC.sub?,BC.get]at h<;>(try split at h)<;>cases h
def X8 (hs:fP P s=Z i) (hag:HH P s=Z b) (z:xZ h i b y=Z R):
 R.wr=[]/\R.nw=[]/\R.N=[]/\∀(φ:PM) (E:Nat->Prop) (h':HF) (w:World) (D:Value),(∀sz∈R.rd,h' sz=h.get sz)->sC φ E h' w->co φ (tot E φ h') w y D->
  ∃ad v,D= .pointer (Z ad)/\(loadVar s ad).run P w= .ok v w/\co φ (tot E φ h') w R.val v:=by
 unfold xZ at z;split at z
 .rename_i id off;split at z
  .rename_i ag hb;split at z
   .rename_i v L;simp[ah]at z;subst z;refine ⟨rfl,rfl,rfl,λφ E h' w D hrd hrep A=>?_⟩;have hh:h' id=Z ag:=by grind
    cases A with
    |@P _ _ k hφ=>
     let⟨u,h1,h2⟩:=MU hs hag (w:=w) (b:=k) (base:=0) L (X0 hrep hh hφ (U2 L))
     grind
   .cases z
  .cases z
 .rename_i cells off;split at z
  .rename_i v L;rw[dy z];refine ⟨rfl,rfl,rfl,λφ E h' w D hrd hrep A=>?_⟩;cases A with
   |f A=>
    cases A with
    |P _ _ ag base us hO hb hcl hu A=>
     let⟨u,h1,h2⟩:=MU (φ:=φ) (O:=tot E φ h') hs hag (w:=w) (b:=ag) (base:=base) L (aar hcl hu A);exact⟨_,u,rfl,h1,h2⟩
  .cases z
 .cases z
def auq (A:o.op= .load s c) (hs:fP P s=Z i) (hag:HH P s=Z b) (z:dG (.load i b c) e h nx=Z R):gE P o e.get h.get R.eff:=by
 simp[dG]at z;split at z
 .rename_i p L;let⟨h1,h2,h3,h4⟩:=X8 hs hag z;let⟨val,rd,wr,nw,N⟩:=R;subst h1 h3;refine gE.reads λφ E h' w a hrd hp hrep=>?_
  let⟨ad,v,h5,h6,h7⟩:=h4 φ E h' w _ hrd hrep (hp c _ (by rw[A];simp[Op.operands]) L);refine ⟨v,?_,h7⟩;unfold execOp;rw[A];simp[Instr.loadAt,h5,Instr.sureAddr,h6]
 .cases z
variable {L:ξ}
def ac4 {φ:PM} (D:fP P s=Z i) (hag:HH P s=Z b) {c:BC} (A:c.sub? j i b=Z y) 
 (vs:Br φ O w c λoff=>L[off]?):∃v,(part s L.toArray j).run P w= .ok v w/\co φ O w y v:=by
 let⟨cs,h1,h2,h3,h4⟩:=abj A vs;refine ⟨_,?_,h4⟩;unfold part;simp only[fG,Vk hag w,cZ];cases b with
 |true=>
  simp only[bk,fG,gG D w,cZ];have:L.toArray.extract j (j+i)=cs.toArray:=by
   apply Array.ext';apply Sn
   grind
  rw[this];rfl
 |false=>
  have h5:=h3 rfl;cases cs with
  |nil=>simp at h1;omega
  |cons v r=>
   have:=h2 0 v rfl;simp_all
variable {r:Y AV}
def X1 (vs:l! L=l! r) (hcl:∀x∈r,x.isCell=J) (D:∀(j:Nat) x v,r[j]? =Z x->L[j]? =Z v->co V O w x v):Br V O w (.mx r) λj=>L[j]? :=by
 intro j x z;simp[BC.get]at z;have A:j<l! L:=by grind
 exact⟨hcl x (a8 z),L[j],aG A,D j x _ z (aG A)⟩
def Uv {l:Y FV} (hl:l! L=l! l) (hcl:∀x∈l,x.isCell=J) (vs:∀(j:Nat) x v,l[j]? =Z x->L[j]? =Z v->ny O w x v):Br V O w (.fz l) λj=>L[j]? :=by
 intro j x z;simp only[BC.get]at z;cases A:l[j]? with
 |none=>rw[A]at z;cases z
 |some q=>
  rw[A]at z;simp at z;subst z;have D:j<l! L:=by grind
  exact⟨hcl q (a8 A),L[j],aG D,.f (vs j q _ A (aG D))⟩
def O9 (hs:fP P s=Z i) (hag:HH P s=Z b) (A:co V O w y v) {val:AV}
 (D:(∃l,y= .agg l/\(BC.mx l).sub? j i b=Z val)\/(∃l,y= .f (.agg l)/\(BC.fz l).sub? j i b=Z val)):∃cs z,v= .agg cs/\(part s cs j).run P w= .ok z w/\co V O w val z:=by
 rcases D with ⟨l,rfl,D⟩|⟨l,rfl,D⟩
 .cases A with
  |agg L hcl A=>
   let⟨z,h1,h2⟩:=ac4 hs hag D (X1 L hcl A);exact⟨_,z,rfl,h1,h2⟩
 .cases A with
  |f A=>
   cases A with
   |agg _ vs L hcl A=>
    let⟨z,h1,h2⟩:=ac4 (φ:=V) hs hag D (Uv L hcl A);exact⟨_,z,rfl,h1,h2⟩
variable {E:Array Field}
def ayh {f:Field} (A:o.op= .field s c i) (hu:P.underlying s=Z (.struct E)) (hf:E[i]? =Z f) (hs:fP P f.type=Z j) (hag:HH P f.type=Z b) (ha:dG (.fld f.offset j b c) e h nx=Z R):gE P o e.get h.get R.eff:=by
 have fin:∀(y:AV) (val:AV),me e c=Z y->((∃l,y= .agg l/\(BC.mx l).sub? f.offset j b=Z val)\/(∃l,y= .f (.agg l)/\(BC.fz l).sub? f.offset j b=Z val))->rv val=Z R->gE P o e.get h.get R.eff:=by
  intro y val L hv hR;rw[dy hR];refine gE.reads λφ D h' w a _ hp _=>?_
  let⟨cs,v,h1,h2,h3⟩:=O9 hs hag (hp c _ (by rw[A];simp[Op.operands]) L) hv;refine ⟨v,?_,h3⟩;unfold execOp;rw[A];simp[Instr.field,run_underlying hu,hf,h1,asAgg,h2]
 simp[dG]at ha
 grind
def ayf {L:TypeId} {y:Operand} (D:o.op= .index s c y) (hu:P.underlying s=Z (.array i L)) (hs:fP P L=Z j) (hag:HH P L=Z b) (z:dG (.idx i j b c y) e h nx=Z R):gE P o e.get h.get R.eff:=by
 simp[dG]at z;split at z
 .rename_i v0 k sz hx hy;split at z
  .rename_i hc;simp[dg,gC,al,bG]at hc;let⟨h0,h1⟩:=hc;have fin:∀(val:AV),((∃l,v0= .agg l/\(BC.mx l).sub? (sz.toNat*j) j b=Z val)\/(∃l,v0= .f (.agg l)/\(BC.fz l).sub? (sz.toNat*j) j b=Z val))->rv val=Z R->gE P o e.get h.get R.eff:=by
    intro val hv hR;rw[dy hR];refine gE.reads λφ E h' w a _ hp _=>?_
    have hyv:=fD (hp y _ (by rw[D];simp[Op.operands]) hy);let⟨cs,v,h3,h4,h5⟩:=O9 hs hag (hp c _ (by rw[D];simp[Op.operands]) hx) hv;refine ⟨v,?_,h5⟩;have h6:=gG hs w;unfold execOp;rw[D];simp[Instr.index,run_underlying hu,hyv,asIntOf,h3,h0,h1,h6,h4]
   grind
  .cases z
 .cases z
def aut {el:TypeId} (ho:o.op= .call {callee:=.builtin .len,args:=#[c],argTypes:=#[s]}) (hu:P.underlying s=Z (.slice el)) (L:dG (.len c) e h nx=Z R):gE P o e.get h.get R.eff:=by
 simp[dG]at L;split at L
 .rename_i y hx;split at L
  .rename_i n hn;rw[dy L];refine gE.reads λφ E h' w a _ hp _=>?_
   have D:=hp c _ (by rw[ho];simp[Op.operands,dI]) hx;refine ⟨_,?_,.f (.raw _)⟩;have hz:∃A x,a.eval c= .slice A n x:=by
    generalize a.eval c=z at D;unfold AV.slen at hn;split at hn<;>try (simp [ah]at hn;subst hn)
    .cases D with
     |f D=>cases D with
      |nil|sl=>exact⟨_,_,rfl⟩
    .cases fD D;exact⟨_,_,rfl⟩
    .cases D;exact⟨_,_,rfl⟩
    .cases D;exact⟨_,_,rfl⟩
    .cases D;exact⟨_,_,rfl⟩
    .cases hn
   let⟨A,x,hz⟩:=hz;unfold execOp;rw[ho];simp[resolve,invoke,builtin,Builtin.len_,run_underlying hu,hz,goInt]
  .cases L
 .cases L
def aus (A:o.op= .call {callee:=.builtin .len,args:=#[c],argTypes:=#[s]}) (L:P.underlying s=Z .string) (z:dG (.lens c) e h nx=Z R):gE P o e.get h.get R.eff:=by
 simp[dG]at z;split at z
 .rename_i t D;rw[dy z];refine gE.reads λφ E h' w a _ hp _=>?_
  have hr:=fD (hp c _ (by rw[A];simp[Op.operands,dI]) D);refine ⟨_,?_,.f (.raw _)⟩;unfold execOp;rw[A];simp[resolve,invoke,builtin,Builtin.len_,run_underlying L,hr,goInt]
 .cases z
def aur {k v:TypeId} (L:o.op= .call {callee:=.builtin .len,args:=#[c],argTypes:=#[s]}) (hu:P.underlying s=Z (.map k v)) (A:dG (.jy c) e h nx=Z R):gE P o e.get h.get R.eff:=by
 simp[dG]at A;split at A
 .rename_i id hx;split at A
  .rename_i es hid;simp[ah]at A;subst A;refine gE.reads λφ E h' w a hrd hp hrep=>?_
   have D:=hp c _ (by rw[L];simp[Op.operands,dI]) hx;have hh:h' id=Z ⟨0,.mp es⟩:=by grind
   generalize hz:a.eval c=z at D;cases D with
   |@mp _ b hφ=>
    let⟨b',h1,_,ob,h2,h3⟩:=hrep.at_ id _ hh;rw[hφ]at h1;cases h1;obtain⟨ents,clock,rfl,h4,_⟩:=h3;have h5:ents.size=l! es:=by have:=eR aj h4;simpa using this
    refine ⟨_,?_,.f (.raw _)⟩;unfold execOp;rw[L];simp[resolve,invoke,builtin,Builtin.len_,run_underlying hu,hz,goInt,getObj,kV,h2,h5]
  .cases A
 .cases A
end
structure Jf (w w':World) (k:Nat) (ob:Obj):Prop where
 os:w'.os=w.os
 tape:w'.tape=w.tape
 output:w'.output=w.output
 size:w'.heap.size=w.heap.size
 at_:w'.heap[k]? =Z ob
 other:∀j,j≠k->w'.heap[j]? =w.heap[j]?
 xz:∀j,w'.shape? j=w.shape? j
structure Ye (w w':World) (ob:Obj):Prop where
 os:w'.os=w.os
 tape:w'.tape=w.tape
 output:w'.output=w.output
 size:w'.heap.size=w.heap.size+1
 at_:w'.heap[w.heap.size]? =Z ob
 other:∀j,j<w.heap.size->w'.heap[j]? =w.heap[j]?
def sC.wset {w':World} (r:sC V O S w) {id:Nat} {b':kG} {ob:Obj} (hb:S id=Z N) (L:V id=Z i) (A:Jf w w' i ob) (hob:im V (tot O V S) w b' ob) (D:HF) (hnw:D id=Z b'):
 kj V V S (fy S [id] D) w w'/\sC V O (fy S [id] D) w':=by
 have hdom:∀k,(∃x,fy S [id] D k=Z x)↔∃x,S k=Z x:=λk=>by
  unfold fy
  grind
 have hown:∀j,own V (fy S [id] D) j↔own V S j:=λj=>by
  constructor
  .rintro⟨k,x,h1,z⟩;let⟨y,hy⟩:=(hdom k).1 ⟨x,h1⟩;exact⟨k,y,hy,z⟩
  .rintro⟨k,x,h1,z⟩;let⟨y,hy⟩:=(hdom k).2 ⟨x,h1⟩;exact⟨k,y,hy,z⟩
 have m:kj V V S (fy S [id] D) w w':=by
  refine ⟨λ_ _ S=>S,⟨A.os,A.tape,A.output,by rw[A.size];exact bK _,λj hj ho=>?_,λj _=>A.xz j⟩,λj _ S=>(hown j).1 S⟩;exact A.other j (λe=>ho (e▸⟨id,N,hb,L⟩))
 refine ⟨m,⟨λk j x y kk hi hj h1 z=>?_,λk x hi=>?_,λi L=>dD (r.el i L) m.ext.size,λg cells hg=>m.keepF (r.gl g cells hg)⟩⟩
 .obtain⟨x',hx'⟩:=(hdom k).1 ⟨x,hi⟩;let⟨y',hy'⟩:=(hdom j).1 ⟨y,hj⟩;exact r.inj k j x' y' kk hx' hy' h1 z
 .by_cases hid:k=id
  .subst hid;have:x=b':=by unfold fy at hi;simp[hnw]at hi;exact hi.symm
   subst this;let⟨k',h1,z,_⟩:=r.at_ k N hb;rw[L]at h1;cases h1;exact⟨i,L,z,ob,A.at_,hob.mono λ_ _ S=>m.zw S⟩
  .have hx:S k=Z x:=by unfold fy at hi;simpa[hid] using hi
   let⟨k',h1,z,ob',h3,h4⟩:=r.at_ k x hx;have hne:k'≠i:=λe=>hid (r.inj k id x N i hx hb (e▸h1) L)
   exact⟨k',h1,z,ob',by rw[A.other k' hne];exact h3,h4.mono λ_ _ S=>m.zw S⟩
def sC.wnew {w':World} (r:sC V O S w) {id:Nat} (hid:V id=U) {b:kG} {ob:Obj} (A:Ye w w' ob) (hob:im V (tot O V S) w b ob) (del:ι) (L:HF) (hnw:L id=Z b) (hdel:∀i∈del,i≠id->L i=U):
 ∃φ',φ' id=Z w.heap.size/\kj V φ' S (fy S (id::del) L) w w'/\(∀i k,φ' i=Z k->V i=Z k\/i∈[id])/\sC φ' O (fy S (id::del) L) w':=by
 have hsub:∀i x,fy S (id::del) L i=Z x->i≠id->S i=Z x/\i∉del:=λi x hx hi=>by
  unfold fy at hx
  grind
 have hlt:∀i x k,S i=Z x->V i=Z k->k<w.heap.size:=λi x k hi hk=>by
  let⟨k',h1,_,ob',h3,_⟩:=r.at_ i x hi
  grind
 have hφ:∀i,i≠id->(if i=id then Z w.heap.size else V i)=V i:=λi hi=>by simp[hi]
 have m:kj V (λi=>if i=id then Z w.heap.size else V i) S (fy S (id::del) L) w w':=by
  refine ⟨λi k hk=>?_,⟨A.os,A.tape,A.output,by rw[A.size];omega,λj hj _=>A.other j hj,λj hj=>?_⟩,?_⟩
  .grind
  .unfold tN;rw[A.other j hj]
  .rintro j hj ⟨i,x,h1,D⟩;by_cases hi:i=id
   .simp[hi]at D;omega
   .have h3:V i=Z j:=by simpa[hi] using D
    exact⟨i,x,(hsub i x h1 hi).1,h3⟩
 refine ⟨_,by simp,m,λi k hk=>?_,⟨λi j x y k hi hj h1 D=>?_,λi x hi=>?_,λk hk=>dD (r.el k hk) m.ext.size,λg cells hg=>m.keepF (r.gl g cells hg)⟩⟩
 .grind
 .by_cases z:i=id
  .grind
  .rw[hφ i z]at h1;have hix:=(hsub i x hi z).1;by_cases hj':j=id
   .grind
   .rw[hφ j hj']at D;exact r.inj i j x y k hix (hsub j y hj hj').1 h1 D
 .by_cases z:i=id
  .subst z;have:x=b:=by unfold fy at hi;simp[hnw]at hi;exact hi.symm
   subst this;refine ⟨w.heap.size,by simp,λhe=>?_,ob,A.at_,hob.mono λ_ _ S=>m.zw S⟩;have:=r.el _ he;omega
  .obtain⟨k,h1,D,ob',h3,h4⟩:=r.at_ i x (hsub i x hi z).1;refine ⟨k,by rw[hφ i z];exact h1,D,ob',?_,h4.mono λ_ _ S=>m.zw S⟩;rw[A.other k (hlt i x k (hsub i x hi z).1 h1)];exact h3
def sX (w:World) (ob:Obj):Ye w {w with heap:=w.heap.push ob} ob:=by
 refine ⟨rfl,rfl,rfl,by simp,by simp,λj z=>?_⟩
 grind
def Ye.drawn {w':World} {ob:Obj} (d:Nat) (h:Ye {w with drawn:=d} w' ob):Ye w w' ob:=⟨h.os,h.tape,h.output,h.size,h.at_,h.other⟩
def gE.makes {o:Oper} {e:EH} {rd:ι} 
 (hv:∀(φ:PM) (E:Nat->Prop) (h':HF) (w:World) (a:Act),(∀nx∈rd,h' nx=S nx)->Yz φ E h' w a e o->sC φ E h' w->
   ∃v w' ob,(execOp a.eval o).run T w= .ok (.value v) w'/\Ye w w' ob/\im φ (tot E φ h') w N ob/\∀φ' O,φ' i=Z w.heap.size->co φ' O w' y v):
 gE T o e.get S ⟨y,rd,[i],j8 [(i,N)],[i]⟩:=by
 intro φ E h' w a h1 h2 h3 z h5;let⟨v,w',ob,hrun,L,hob,hval⟩:=hv φ E h' w a h1 (λx val D A=>vG z h3 D A) z;let⟨φ',g1,g2,g3,g4⟩:=z.wnew (id:=i) (h5 i (by simp)) L hob [] (j8 [(i,N)]) (by simp[j8]) (by simp);unfold LB;rw[hrun];exact⟨v,φ',rfl,g2,g3,g4,hval φ' _ g1⟩
def gE.writes {o:Oper} {e:EH} {rd:ι} {b':kG} (hb:S i=Z N)
 (hv:∀(φ:PM) (E:Nat->Prop) (h':HF) (w:World) (a:Act),(∀id∈rd,h' id=S id)->h' i=Z N->Yz φ E h' w a e o->sC φ E h' w->
   ∃r w' k ob,(execOp a.eval o).run T w= .ok r w'/\φ i=Z k/\Jf w w' k ob/\im φ (tot E φ h') w b' ob/\(∃v,(r= .value v\/r= .skip/\v=undef)/\co φ (tot E φ (fy h' [i] (j8 [(i,b')]))) w' y v)):
 gE T o e.get S ⟨y,rd,[i],j8 [(i,b')],[]⟩:=by
 intro φ E h' w a h1 h2 h3 z h5;let⟨r,w',k,ob,hrun,hk,hw,hob,v,hr,hval⟩:=hv φ E h' w a h1 (by grind) (λx val hx L=>vG z h3 hx L) z;let⟨D,A⟩:=z.wset (id:=i) (by rw[h2 i (by simp)];exact hb) hk hw hob (j8 [(i,b')]) (by simp[j8]);unfold LB;rw[hrun];rcases hr with rfl|⟨rfl,rfl⟩
 .exact⟨v,φ,rfl,D,λ_ _ S=>.inl S,A,hval⟩
 .exact⟨undef,φ,rfl,D,λ_ _ S=>.inl S,A,hval⟩
variable {r:Y AV}
def nj (h:gD r=J):∀x∈r,x.isCell=J:=by
 induction r with
 |nil=>intro x z;cases z
 |cons y r A=>
  simp[gD,al]at h
  grind
def nU:∀{l:Y AV} {z:Y FV},Aa l=Z z->l=z.map .f
 |[],z,h=>by simp[Aa,ah]at h;subst h;rfl
 |.f x::r,z,h=>by
  simp[Aa]at h;split at h
  next l A=>simp[ah]at h;subst h;rw[nU A];rfl
  .cases h
 |.P _ _::_,_,h|.sl _ _ _::_,_,h|.I _ _ _::_,_,h|.mp _::_,_,h|.emp::_,_,h|.agg _::_,_,h|.qb _::_,_,h|.qy _ _::_,_,h=>by simp[Aa]at h
def Cs (φ:PM) (O:Nat->Prop) (w:World) (l:Y AV) (vs:ξ):Prop:=l! vs=l! l/\(∀x∈l,x.isCell=J)/\∀(j:Nat) x v,l[j]? =Z x->vs[j]? =Z v->co φ O w x v
def BC.get_toMx {c:BC} (z:c.isCells=J) (j:Nat):c.get j=c.toMx[j]? :=by
 cases c with
 |fz l=>simp[BC.get,BC.toMx]
 |mx l=>rfl
 |_=>cases z
def BC.len_toMx {c:BC} (z:c.isCells=J):c.len=l! c.toMx:=by
 cases c with
 |fz l=>simp[BC.len,BC.toMx]
 |mx l=>rfl
 |_=>cases z
def nQ (l:Y AV):(oy l).toMx=l/\(oy l).isCells=J:=by
 unfold oy;cases h:Aa l with
 |none=>exact⟨rfl,rfl⟩
 |some z=>exact⟨(nU h).symm,rfl⟩
variable {s:TypeId}
def rJ {c:BC} (z:c.isCells=J) {arr:Array Value} (hl:l! c.toMx<=arr.size)
 (h:∀(j:Nat) x,c.toMx[j]? =Z x->x.isCell=J/\∃v,arr[j]? =Z v/\co V O w x v):im V O w ⟨s,c⟩ (.cells arr s (0,0)):=by
 have D:vJ V O w c arr:=⟨by rw[BC.len_toMx z];exact hl,λj x L=>h j x (by rw[<- BC.get_toMx z];exact L)⟩
 cases A:c with
 |fz l|mx l=>rw[A]at D;exact⟨arr,rfl,D⟩
 |_=>rw[A]at z;cases z
variable {L:ξ}
def MF {ty:TypeId} (h:Cs V O w r L):im V O w ⟨ty,oy r⟩ (.cells L.toArray ty (0,0)):=by
 let⟨h1,D⟩:=nQ r;refine rJ D (by rw[h1];simp[h.1]) λj x z=>?_
 rw[h1]at z;have A:j<l! L:=by rw[h.1];exact (bC.1 z).1
 exact⟨h.2.1 x (a8 z),L[j],by simp[A],h.2.2 j x _ z (aG A)⟩
def ZY (h:co V O w y v) (A:gD y.cs=J):Cs V O w y.cs v.cells.toList:=by
 have one:y.cs=[y]->v.cells=#[v]->Cs V O w y.cs v.cells.toList:=λh1 h2=>by
  rw[h1]at A ⊢;rw[h2];exact⟨rfl,nj A,λj x u z D=>by cases j with|zero=>simp at z D;subst z D;exact h|succ j=>simp at z⟩
 cases h with
 |qc _|qb _ _=>exact cu A (by simp[AV.cs,gD,AV.isCell])
 |@agg l vs hl hcl L=>exact⟨hl,hcl,L⟩
 |@f x u hf=>
  cases hf with
  |raw v=>
   have hv:v.oneCell'=J:=by
    have:(AV.f (.raw v)).cs=[.f (.raw v)]:=rfl;rw[this]at A;simpa[gD,AV.isCell,FV.isCell] using A
   refine one rfl ?_;cases v<;>first|rfl|simp[Value.oneCell']at hv
  |agg l vs hl hcl L=>
   refine ⟨by simp[AV.cs,Value.cells,hl],nj A,λj x u z D=>?_⟩;simp only[AV.cs,bB]at z;cases hq:l[j]? with
   |none=>rw[hq]at z;cases z
   |some q=>rw[hq]at z;simp at z;subst z;exact .f (L j q u hq (by simpa[Value.cells] using D))
  |_=>exact one rfl rfl
 |_=>exact one rfl rfl
def ny.one {x:FV} (h:ny O w x v) (z:x.isCell=J):v.oneCell'=J:=by
 cases h with
 |raw v=>exact z
 |agg=>cases z
 |_=>rfl
def co.one (h:co V O w y v) (z:y.isCell=J):v.oneCell'=J:=by
 cases h with
 |f h=>exact h.one z
 |qc|agg|qb=>cases z
 |_=>rfl
def Cs.one (h:Cs V O w r L):∀v∈L,v.oneCell'=J:=by
 intro v A;let⟨j,z⟩:=fH A;have hlt:j<l! r:=by rw[<- h.1];exact (bC.1 z).1
 exact (h.2.2 j _ v (aG hlt) z).one (h.2.1 _ (FB hlt))
def Cs.append {l':Y AV} {vs':ξ} (h:Cs V O w r L) (h':Cs V O w l' vs'):Cs V O w (r++l') (L++vs'):=by
 refine ⟨by simp[h.1,h'.1],λx z=>(bO.1 z).elim (h.2.1 x) (h'.2.1 x),λj x v z D=>?_⟩;rcases cF j (l! r) with A|A
 .rw[bL A]at z;rw[bL (by rw[h.1];exact A)]at D;exact h.2.2 j x v z D
 .rw[b_ A]at z;rw[b_ (by rw[h.1];exact A),h.1]at D;exact h'.2.2 _ x v z D
def Cs.take (h:Cs V O w r L) (n:Nat):Cs V O w (r.take n) (L.take n):=by
 refine ⟨by simp[h.1],λx z=>h.2.1 x (ip z),λj x v z A=>?_⟩;rw[fc]at z A;split at z
 next D=>rw[aD D]at A;exact h.2.2 j x v z A
 .cases z
def Cs.drop (h:Cs V O w r L) (n:Nat):Cs V O w (r.drop n) (L.drop n):=by
 refine ⟨by simp[h.1],λx z=>h.2.1 x (List.mem_of_mem_drop z),λj x v z A=>?_⟩;rw[tP]at z A;exact h.2.2 _ x v z A
def Cs.splice {l':Y AV} {vs':ξ} (h:Cs V O w r L) (h':Cs V O w l' vs') (off:Nat):Cs V O w (splice r off l') (splice L off vs'):=by
 unfold AI.splice;rw[h'.1];exact ((h.take off).append h').append (h.drop _)
def Cs.raws {φ:PM} (z:ξ) (L:ov z=J):Cs φ O w (z.map raw) z:=by
 refine ⟨by simp,λx A=>?_,λj x v A D=>?_⟩
 .obtain⟨v,D,rfl⟩:=cz.1 A;exact iL.1 L v D
 .rw[bB]at A;rw[D]at A;simp at A;subst A;exact .f (.raw v)
def Cs.mono {φ':PM} {O':Nat->Prop} {w':World} (h:Cs V O w r L) (D:∀x v,co V O w x v->co φ' O' w' x v):Cs φ' O' w' r L:=⟨h.1,h.2.1,λj x v z A=>D _ _ (h.2.2 j x v z A)⟩
def Jf.setRow {arr arr':Array Value} (A:w.heap[i]? =Z (.cells arr s (0,0))) (D:arr'.size=arr.size):Jf w (w.setRow i arr') i (.cells arr' s (0,0)):=by
 refine ⟨rfl,rfl,rfl,by simp,setRow_heap w i arr arr' s (0,0) A,λj z=>setRow_other w i j arr' z,λj=>?_⟩;unfold tN;by_cases z:j=i
 .subst z;rw[setRow_heap w j arr arr' s (0,0) A,A];simp[D]
 .rw[setRow_other w i j arr' z]
section
variable {P:Program} {o:Oper} {e:EH} {h:nz} {nx:Nat} {R:DF}
def vK (A:ve P s=Z L) (w:World):∃v,(zeroValue s).run P w= .ok v w/\v.cells.toList=L/\∃i,P.info? s=Z i/\i.zero=Z v:=by
 unfold ve at A;cases hi:P.info? s with
 |none=>rw[hi]at A;cases A
 |some i=>
  rw[hi]at A;simp only[aF]at A;cases D:i.zero with
  |none=>rw[D]at A;cases A
  |some v=>
   rw[D]at A;simp[bi,ah]at A;exact⟨v,by simp[zeroValue,typeInfo,hi,D],A,i,rfl,D⟩
def aqc (ho:o.op= .alloc s) (hz:ve P s=Z L) (hc:ov L=J) (z:dG (.alloc s L) e h nx=Z R):gE P o e.get h.get R.eff:=by
 simp[dG,ah]at z;subst z;refine gE.makes λφ E h' w a _ _ _=>?_
 let⟨v,h1,h2,_⟩:=vK hz w;refine ⟨.pointer (Z ⟨w.heap.size,0,U⟩),{w with heap:=w.heap.push (.cells v.cells s)},.cells v.cells s (0,0),?_,sX w _,?_,λφ' O hφ=>.P hφ⟩
 .unfold execOp;rw[ho];simp[Instr.alloc,h1,newVar,newRow,newObj,kV]
 .have A:BC.toMx (.fz (L.map .raw))=L.map raw:=by simp[BC.toMx,raw]
  refine rJ rfl (by grind) λj x D=>?_
  rw[A]at D;have cs:=Cs.raws (φ:=φ) (O:=tot E φ h') (w:=w) L hc;have hj:j<l! L:=by grind
  refine ⟨cs.2.1 x (a8 D),L[j],?_,cs.2.2 j x _ D (aG hj)⟩
  grind
def ayn (A:o.op= .box s c) (z:dG (.box s c) e h nx=Z R):gE P o e.get h.get R.eff:=by
 simp[dG]at z;split at z
 .rename_i v D;split at z
  .rename_i hc;simp[ah]at z;subst z;refine gE.makes λφ E h' w a _ hp _=>?_
   have L:=ZY (hp c _ (by rw[A];simp[Op.operands]) D) hc;refine ⟨.pointer (Z ⟨w.heap.size,0,U⟩),{w with heap:=w.heap.push (.cells (a.eval c).cells s)},.cells (a.eval c).cells s (0,0),?_,sX w _,?_,λφ' O hφ=>.P hφ⟩
   .unfold execOp;rw[A];simp[Instr.box,newVar,newRow,newObj,kV]
   .have:=MF (ty:=s) L;simpa using this
  .cases z
 .cases z
def oB {α:Type} {l vs:Y α} {off:Nat} (hle:off+l! vs<=l! l) (j:Nat):(splice l off vs)[j]? =if j<off then l[j]? else if j<off+l! vs then vs[j-off]? else l[j]? :=by
 unfold splice
 grind
def nK {α:Type} {l vs:Y α} (hle:i+l! vs<=l! l):l! (splice l i vs)=l! l:=by
 unfold splice;simp;omega
def WC (off:Nat):∀(vs:ξ) (k:Nat) (arr:Array Value),off+k+l! vs<=arr.size->∀j:Nat,
 ((vs.zipIdx k).foldl (λcs (p:Value×Nat)=>cs.setIfInBounds (off+p.2) p.1) arr)[j]? =if j<off+k then arr[j]? else if j<off+k+l! vs then vs[j-(off+k)]? else arr[j]?
 |[],k,arr,_,j=>by simp_all
 |v::vs,k,arr,hle,j=>by
  rw[List.zipIdx_cons,Aq,WC off vs (k+1) _ (by grind) j]
  grind
def WA (off:Nat) (c:Array Value) (l:ξ) (hle:off+c.size<=l! l):(c.zipIdx.foldl (λcs (p:Value×Nat)=>cs.setIfInBounds (off+p.2) p.1) l.toArray)=(splice l off c.toList).toArray:=by
 rw[<- Array.foldl_toList,Array.toList_zipIdx];apply Array.ext_getElem?;intro j;rw[WC off c.toList 0 l.toArray (by omega) j];simp only[dK,List.getElem?_toArray];rw[oB (by omega)]
def TZ (hp:Yz V O S w z e o) {place:Nat->M q!}:∀(a:Y H?) (ps':Y n?) (cells cs:Y AV) (vs:ξ),
 (l! ps'=l! a)->(∀(j:Nat) i x,a[j]? =Z (i,x)->∃of sz,ps'[j]? =Z (of,sz,x)/\place i=Z (of,sz))->(∀p∈a,p.2∈o.op.operands)->Cs V (tot O V S) w cells vs->CH cells e ps'=Z cs->
 ∃vs',Instr.fill place vs.toArray (a.map λp=>(p.1,z.eval p.2))=Z vs'.toArray/\Cs V (tot O V S) w cs vs'
 |[],ps',cells,cs,vs,hl,_,_,hcs,hf=>by
  cases ps' with
  |nil=>simp[CH,ah]at hf;subst hf;exact⟨vs,rfl,hcs⟩
  |cons _ _=>simp at hl
 |(i,x)::a,ps',cells,cs,vs,hl,hpl,hm,hcs,hf=>by
  obtain⟨of,sz,h1,h2⟩:=hpl 0 i x rfl;cases ps' with
  |nil=>simp at h1
  |cons p ps'=>
   simp at h1;subst h1;simp only[CH]at hf;split at hf
   .rename_i v hv;split at hf
    .rename_i hc;simp only[al,c4]at hc;obtain⟨⟨hc1,D⟩,A⟩:=hc;have L:=ZY (hp x v (hm _ (cX ..)) hv) A;have hsz:(z.eval x).cells.size=sz:=by have:=L.1;simp at this;omega
     have hle:of+sz<=l! vs:=by rw[hcs.1];exact aU D
     obtain⟨vs',g1,g2⟩:=TZ hp a ps' _ cs _ (by grind) (λj i x hj=>by have:=hpl (j+1) i x (by grind);simpa using this) (λp hp=>hm p (bS _ hp)) (hcs.splice L of) hf;refine ⟨vs',?_,g2⟩;simp only[b9,Instr.fill,h2];have hcd:((decide ((z.eval x).cells.size≠sz))||decide (of+(z.eval x).cells.size>vs.toArray.size))=af:=by grind
     rw[av (by grind)];have:=WA of (z.eval x).cells vs (by omega);rw[<- g1,<-this]
    .cases hf
   .cases hf
def Ii :∀(z:Y H?) (ps':Y n?),Ay P s z=Z ps'->l! ps'=l! z/\∀(j:Nat) i x,z[j]? =Z (i,x)->∃of sz,ps'[j]? =Z (of,sz,x)/\EY P s i=Z (of,sz)
 |[],ps',h=>by simp[Ay,ah]at h;subst h;exact⟨rfl,λj i x hx=>by simp at hx⟩
 |(i,x)::z,ps',h=>by
  simp[Ay]at h;split at h
  .rename_i of sz l h1 h2;simp[ah]at h;subst h;let⟨g1,g2⟩:=Ii z l h2;refine ⟨by simp[g1],λj L D A=>?_⟩;cases j with
   |zero=>simp at A;obtain⟨rfl,rfl⟩:=A;exact⟨of,sz,rfl,h1⟩
   |succ j=>simpa using g2 j L D (by grind)
  .cases h
def MN (w:World):∀(z:Y Field),(z.all λf=>(fP P f.type).isSome)=J->(z.mapM (λf=>do pure (f.offset,<-sizeOf f.type)):Sem (Y q!)).run P w= .ok (z.map λf=>(f.offset,(fP P f.type).getD 0)) w
 |[],_=>by simp
 |f::z,h=>by
  simp only[List.all_cons,al]at h;let⟨sz,A⟩:=jN.1 h.1;have h1:=gG A w;have D:=MN w z h.2;simp_all
def ae7 {z:Array H?} {ps':Y n?} (ho:o.op= .build s z) (hz:ve P s=Z L) (hc:ov L=J) (hps:Ay P s z.toList=Z ps')
 (D:(∃A,P.underlying s=Z (.struct A)/\(A.toList.all λf=>(fP P f.type).isSome)=J)\/∃n el sz,P.underlying s=Z (.array n el)/\fP P el=Z sz) (ha:dG (.build L ps') e h nx=Z R):gE P o e.get h.get R.eff:=by
 simp[dG]at ha;split at ha
 .rename_i cs hf;rw[dy ha];refine gE.reads λφ E h' w a _ hp _=>?_
  let⟨v,h1,h2,_⟩:=vK hz w;have hcells:v.cells=L.toArray:=by rw[<- h2]
  let⟨g1,g2⟩:=Ii z.toList ps' hps;have hops:∀p∈z.toList,p.2∈o.op.operands:=λp hp=>by
   rw[ho];simp only[Op.operands,List.mem_toArray,cz];exact⟨p,hp,rfl⟩
  have hmap:(z.map λx:Nat×Operand=>(x.1,a.eval x.2)).toList=z.toList.map λp=>(p.1,a.eval p.2):=by simp
  have fin:∀place:Nat->M q!,(∀i,EY P s i≠U->place i=EY P s i)->∃vs':ξ,Instr.fill place v.cells (z.map λx:Nat×Operand=>(x.1,a.eval x.2)).toList=Z vs'.toArray/\co φ (tot E φ h') w (Ro cs) (.agg vs'.toArray):=by
   intro place hpl;let⟨vs',k1,k2⟩:=TZ (place:=place) hp z.toList ps' _ cs L g1 (λj i x hj=>by
    let⟨of,sz,q1,q2⟩:=g2 j i x hj;exact⟨of,sz,q1,by rw[hpl i (by grind),q2]⟩) hops (Cs.raws L hc) hf
   refine ⟨vs',by rw[hmap,hcells];exact k1,?_⟩;unfold Ro;cases hfs:Aa cs with
   |none=>exact .agg k2.1 k2.2.1 k2.2.2
   |some A=>
    have he:=nU hfs;refine .f (.agg A vs' (by rw[k2.1,he];simp) (λx hx=>k2.2.1 (.f x) (by grind)) λj x u hx D=>?_);have:=k2.2.2 j (.f x) u (by grind) D;cases this with
    |f h=>exact h
  rcases D with ⟨A,D,hall⟩|⟨n,el,sz,D,hs⟩
  .obtain⟨vs',k1,k2⟩:=fin (λi=>(A.map λf=>(f.offset,(fP P f.type).getD 0))[i]?) (λi hi=>by
    unfold EY at hi ⊢;rw[D]at hi ⊢;simp[Array.getElem?_map]at hi ⊢;cases hf:A[i]? with
    |none=>rw[hf]at hi;simp at hi
    |some f=>
     simp[bi,aF];cases hs:fP P f.type with
     |none=>rw[hf]at hi;simp[hs]at hi
     |some sz=>simp)
   refine ⟨_,?_,k2⟩;have hm:=MN w A.toList hall;have hm':(A.mapM (λf=>do pure (f.offset,<-sizeOf f.type)):Sem (Array q!)).run P w= .ok (A.map λf=>(f.offset,(fP P f.type).getD 0)) w:=by
    rw[Array.mapM_eq_mapM_toList];simp only[Sem.run_map,hm,cZ];congr 1;apply Array.ext';simp
   unfold execOp;rw[ho];simp only[Instr.build,fG,h1,cZ,run_underlying D,hm',xl,k1]
  .obtain⟨vs',k1,k2⟩:=fin (λi=>Z (i*sz,sz)) (λi hi=>by
    unfold EY;rw[D];simp[hs])
   refine ⟨_,?_,k2⟩;have h3:=gG hs w;unfold execOp;rw[ho];simp only[Instr.build,fG,h1,cZ,run_underlying D,h3,xl,k1]
 .cases ha
end
section
variable {P:Program} {o:Oper} {e:EH} {h:nz} {nx:Nat} {R:DF}
def uz {z:TypeId} (h:Eg P s=Z z):P.underlying s=Z (.slice z):=by
 unfold Eg at h
 grind
def oD (z:ξ):∀n,l! (repl z n)=n*l! z
 |0=>by simp[repl]
 |n+1=>by simp[repl,oD z n,jS];omega
def F5 (z:ξ):∀(n j:Nat),j<n*l! z->(repl z n)[j]? =(z[j%l! z]?).map .raw
 |0,j,h=>by simp at h
 |n+1,j,h=>by
  have D:0<l! z:=by grind
  rw[repl];rcases cF j (l! z) with A|A
  .rw[bL (by grind),bB,xn A]
  .rw[b_ (by grind),bM,F5 z n (j-l! z) (by grind),Nat.mod_eq_sub_mod A]
def aee (D:v.cells.toList=L) (n sz:Nat) (z:l! L=sz) (hsz:sz≠0) (j:Nat) (hj:j<n*sz):
 ((H0 (n*sz)).map (λi=>v.cells[i%v.cells.size]!))[j]? =L[j%sz]? :=by
 have A:v.cells.size=sz:=by grind
 have hlt:j%sz<v.cells.size:=by rw[A];exact Nat.mod_lt _ (by omega)
 grind
def Cs.repl {φ:PM} (hv:v.cells.toList=L) (n sz:Nat) (hl:l! L=sz) (hsz:sz≠0) (hc:ov L=J):
 Cs φ O w ((repl L n).map .f) ((H0 (n*sz)).map (λi=>v.cells[i%v.cells.size]!)).toList:=by
 have key:∀(j:Nat) (x:AV),((AI.repl L n).map AV.f)[j]? =Z x->∃u,L[j%sz]? =Z u/\x=raw u/\j<n*sz:=by
  intro j x A;rw[bB]at A;have D:j<n*l! L:=by
   rcases cF j (n*l! L) with h|h
   .exact h
   .rw[c_ (by rw[oD];exact h)]at A;cases A
  rw[F5 L n j D,hl]at A;cases z:L[j%sz]? with
  |none=>rw[z]at A;cases A
  |some u=>rw[z]at A;simp at A;exact⟨u,rfl,A.symm,by rw[<- hl];exact D⟩
 refine ⟨by simp[oD,hl],λx A=>?_,λj x u A z=>?_⟩
 .obtain⟨j,D⟩:=fH A;obtain⟨u,h1,rfl,_⟩:=key j x D;exact iL.1 hc u (a8 h1)
 .obtain⟨u',h1,rfl,D⟩:=key j x A;rw[dc,aee hv n sz hl hsz j D,h1]at z;cases z;exact .f (.raw _)
def aym {D:TypeId} {A:Array H?} {ps':Y n?} (ho:o.op= .buildSlice s i A) (hu:P.underlying s=Z (.slice D)) (hz:ve P D=Z L) (hs:fP P D=Z j) (hc:ov L=J) (hl:l! L=j) (hsz:j≠0) (hb:i*j<=65536)
 (hps:Ay P s A.toList=Z ps') (z:dG (.xx D j i L ps') e h nx=Z R):gE P o e.get h.get R.eff:=by
 simp[dG]at z;split at z
 .rename_i cs hf;simp[ah]at z;subst z;refine gE.makes λφ E h' w a _ hp _=>?_
  let⟨v,h1,h2,_⟩:=vK hz w;let⟨g1,g2⟩:=Ii A.toList ps' hps;have hops:∀p∈A.toList,p.2∈o.op.operands:=λp hp=>by
   rw[ho];simp only[Op.operands,List.mem_toArray,cz];exact⟨p,hp,rfl⟩
  have hmap:(A.map λx:Nat×Operand=>(x.1,a.eval x.2)).toList=A.toList.map λp=>(p.1,a.eval p.2):=by simp
  let⟨vs',k1,k2⟩:=TZ (place:=λn=>Z (n*j,j)) hp A.toList ps' _ cs _ g1 (λsz n x hj=>by
   let⟨of,s',q1,q2⟩:=g2 sz n x hj;unfold EY at q2;rw[hu]at q2;simp[hs]at q2;obtain⟨rfl,rfl⟩:=q2;exact⟨_,_,q1,rfl⟩) hops (Cs.repl h2 i j hl hsz hc) hf
  have hcells:(H0 (i*j)).map ((if i*j=0 then #[] else v.cells)[·%(if i*j=0 then #[] else v.cells).size]!)=((H0 (i*j)).map (λn=>v.cells[n%v.cells.size]!)).toList.toArray:=by grind
  have hlen:l! vs'=i*j:=by
   have e1:=k2.1;have e2:l! cs=l! ((AI.repl L i).map AV.f):=by
    have:∀(ps':Y n?) (c0 c1:Y AV),CH c0 e ps'=Z c1->l! c1=l! c0:=by
     intro ps';induction ps' with
     |nil=>intro c0 c1 h;simp[CH,ah]at h;rw[h]
     |cons p ps' ih=>
      intro c0 c1 h;simp[CH]at h;split at h
      .split at h
       next hcc=>rw[ih _ _ h,nK (by simp_all)]
       .cases h
      .cases h
    exact this ps' _ _ hf
   rw[e1,e2];simp[oD,hl]
  refine ⟨.slice (Z ⟨w.heap.size,0,U⟩) i i,{w with heap:=w.heap.push (.cells vs'.toArray D)},.cells vs'.toArray D (0,0),?_,sX w _,MF k2,λφ' O hφ=>?_⟩
  .have h3:=gG hs w;have hk:Instr.fill (λn=>Z (n*j,j)) ((H0 (i*j)).map ((if i*j=0 then #[] else v.cells)[·%(if i*j=0 then #[] else v.cells).size]!)) (A.map λx:Nat×Operand=>(x.1,a.eval x.2)).toList=Z vs'.toArray:=by grind
   unfold execOp;rw[ho];simp only[Instr.buildSlice,fG,run_underlying hu,cZ,h3];rw[av (by omega)];by_cases h0:i*j=0
   .simp only[aD h0]at hk ⊢;simp only[fG,xl,cZ,hk,newRow,newObj,kV]
   .simp only[av h0]at hk ⊢;simp only[fG,xl,cZ,h1,hk,newRow,newObj,kV]
  .simp only[];split
   next h0=>subst h0;exact .emp
   refine .I hφ (bK _) ?_ ⟨D,?_⟩
   .have:i<=i*j:=Nat.le_mul_of_pos_right _ (by omega);unfold maxLen;omega
   .unfold tN;simp[hlen]
 .cases z
end
def sC.wren {w':World} (r:sC V O S w) {k:Nat} {b':kG} {ob:Obj} (hb:S i=Z N) (hk:V i=Z k) (hnx:V j=U) (L:Jf w w' k ob) (hob:im V (tot O V S) w b' ob) (nw:HF) (hnw:nw j=Z b') (hnid:nw i=U):
 ∃φ',φ' j=Z k/\kj V φ' S (fy S [j,i] nw) w w'/\(∀id k,φ' id=Z k->V id=Z k\/id∈[j])/\sC φ' O (fy S [j,i] nw) w':=by
 have hne:j≠i:=λe=>by grind
 have hsub:∀id x,fy S [j,i] nw id=Z x->id≠j->S id=Z x/\id≠i:=λid x hx hi=>by
  unfold fy at hx
  grind
 have hφ:∀id,id≠j->(if id=j then Z k else V id)=V id:=λid hi=>by simp[hi]
 have m:kj V (λid=>if id=j then Z k else V id) S (fy S [j,i] nw) w w':=by
  refine ⟨λid k' hk'=>?_,⟨L.os,L.tape,L.output,by rw[L.size];exact bK _,λnx hj ho=>?_,λnx _=>L.xz nx⟩,?_⟩
  .grind
  .exact L.other nx (λe=>ho (e▸⟨i,N,hb,hk⟩))
  .rintro nx hj ⟨id,x,h1,D⟩;by_cases hi:id=j
   .simp[hi]at D;subst D;exact⟨i,N,hb,hk⟩
   .have h3:V id=Z nx:=by simpa[hi] using D
    exact⟨id,x,(hsub id x h1 hi).1,h3⟩
 refine ⟨_,by simp,m,λid k' hk'=>?_,⟨λid nx x y kk hi hj h1 D=>?_,λid x hi=>?_,λk hk=>dD (r.el k hk) m.ext.size,λg cells hg=>m.keepF (r.gl g cells hg)⟩⟩
 .grind
 .by_cases z:id=j
  .by_cases A:nx=j
   .rw[z,A]
   .exfalso;rw[hφ nx A]at D;simp[z]at h1;subst h1;let⟨q1,q2⟩:=hsub nx y hj A;exact q2 (r.inj nx i y N k q1 hb D hk)
  .rw[hφ id z]at h1;let⟨p1,p2⟩:=hsub id x hi z;by_cases A:nx=j
   .exfalso;simp[A]at D;subst D;exact p2 (r.inj id i x N k p1 hb h1 hk)
   .rw[hφ nx A]at D;exact r.inj id nx x y kk p1 (hsub nx y hj A).1 h1 D
 .by_cases z:id=j
  .subst z;have:x=b':=by unfold fy at hi;simp[hnw]at hi;exact hi.symm
   subst this;let⟨k',h1,D,_⟩:=r.at_ i N hb;rw[hk]at h1;cases h1;exact⟨k,by simp,D,ob,L.at_,hob.mono λ_ _ S=>m.zw S⟩
  .obtain⟨p1,p2⟩:=hsub id x hi z;let⟨k',h1,D,ob',h3,h4⟩:=r.at_ id x p1;have hne':k'≠k:=λe=>p2 (r.inj id i x N k p1 hb (e▸h1) hk)
   exact⟨k',by rw[hφ id z];exact h1,D,ob',by rw[L.other k' hne'];exact h3,h4.mono λ_ _ S=>m.zw S⟩
def sC.cs (hrep:sC V O S w) (hb:S i=Z N) (hk:V i=Z j) (z:N.c.isCells=J):
 ∃arr,w.heap[j]? =Z (.cells arr N.ty (0,0))/\Cs V (tot O V S) w N.c.toMx (arr.toList.take (l! N.c.toMx))/\l! N.c.toMx<=arr.size:=by
 let⟨k',h1,_,h2⟩:=hrep.at_ i N hb;rw[hk]at h1;cases h1;let⟨arr,h3,L,D⟩:=h2.cells z;rw[BC.len_toMx z]at L;refine ⟨arr,h3,⟨by simp;omega,λx A=>?_,λk x v A hv=>?_⟩,L⟩
 .obtain⟨k,hj⟩:=fH A;exact (D k x (by rw[BC.get_toMx z];exact hj)).1
 .obtain⟨_,u,h6,h7⟩:=D k x (by rw[BC.get_toMx z];exact A)
  grind
section
variable {P:Program} {o:Oper} {e:EH} {h:nz} {nx:Nat} {R:DF}
def R_ (z:Ja P s=Z i):∃b,P.info? s=Z b/\b.bytes=i:=by
 unfold Ja at z;cases hi:P.info? s with
 |none=>rw[hi]at z;cases z
 |some b=>rw[hi]at z;simp at z;exact⟨b,rfl,z⟩
def F4 (h:be i j=J):i<=1099511627776/\i*j<=1099511627776:=by
 simp[be,al]at h;simp_all
variable {a:Int}
def ahp (h1: -9223372036854775808<=a) (z:a<=9223372036854775807):pZ .i64 a=a:=by
 rw[<- B_];have:(dg (-9223372036854775808) a&&dg a 9223372036854775807)=J:=by simp[dg,h1,z]
 simp[LD,Q2,this,bk]
def aup {A:TypeId} {l:Operand} (ho:o.op= .makeSlice s l c) (hu:P.underlying s=Z (.slice A)) (hz:ve P A=Z L) (hs:fP P A=Z i) (hb:Ja P A=Z j) (hc:ov L=J) (hl:l! L=i) (hsz:i≠0)
 (D:dG (.zm A i j L l c) e h nx=Z R):gE P o e.get h.get R.eff:=by
 simp only[dG]at D;split at D
 .rename_i k1 n k2 m z hy;split at D
  .rename_i hcd;simp only[dg,al,bG]at hcd;let⟨⟨h0,h1⟩,h2⟩:=hcd;let⟨r1,r2⟩:=F4 h2;cases D;refine gE.makes λφ E h' w a _ hp _=>?_
   have e1:=fD (hp l _ (by rw[ho];simp[Op.operands]) z);have e2:=fD (hp c _ (by rw[ho];simp[Op.operands]) hy);let⟨v,z1,z2,_⟩:=vK hz w;let⟨sz,i1,i2⟩:=R_ hb;have s1:=gG hs w;have w1:pZ .i64 n=n:=ahp (by omega) (by omega);have w2:pZ .i64 m=m:=ahp (by omega) (by omega);have hbm:(j:Int)*m=((m.toNat*j:Nat):Int):=by grind
   have t1:¬(m<0\/(281474976710656:Int)<j*m):=by omega
   have hr:¬(m.toNat*j>roomBytes):=by unfold roomBytes;omega
   have hn0:m.toNat*i=0->m.toNat=0:=λh=>(Nat.mul_eq_zero.1 h).resolve_right hsz
   let cells:Array Value:=(H0 (m.toNat*i)).map (λsz=>v.cells[sz%v.cells.size]!)
   refine ⟨.slice (Z ⟨w.heap.size,0,U⟩) n.toNat m.toNat,{w with heap:=w.heap.push (.cells cells A)},.cells cells A (0,0),?_,sX w _,?_,λφ' O hφ=>?_⟩
   .unfold execOp;rw[ho];by_cases hm0:m.toNat*i=0
    .obtain rfl:m=0:=by have:=hn0 hm0;omega
     simp[Instr.makeSlice,run_underlying hu,e1,e2,asInt,asIntOf,typeInfo,i1,w1,askRoom,s1,newRow,newObj,kV,cells]
     grind
    .simp[Instr.makeSlice,run_underlying hu,e1,e2,asInt,asIntOf,typeInfo,i1,i2,w1,w2,t1,show ¬n<0 by omega,show ¬m<n by omega,askRoom,hr,s1,hm0,z1,newRow,newObj,kV,cells]
   .have cs:=Cs.repl (φ:=φ) (O:=tot E φ h') (w:=w) z2 m.toNat i hl hsz hc;have hle:n.toNat<=m.toNat:=by omega
    have hlen:n.toNat*i<=m.toNat*i:=cJ _ hle;refine rJ rfl (by simp[BC.toMx,oD,hl,cells];exact hlen) λbytes x z=>?_
    simp only[BC.toMx,bB]at z;have hj:bytes<n.toNat*l! L:=by
     rcases cF bytes (n.toNat*l! L) with h|h
     .exact h
     .rw[c_ (by rw[oD];exact h)]at z;cases z
    have hj2:bytes<m.toNat*l! L:=by grind
    rw[F5 L _ bytes hj,<-F5 L m.toNat bytes hj2]at z;have hx2:((repl L m.toNat).map AV.f)[bytes]? =Z x:=by grind
    have hj3:bytes<l! cells.toList:=by grind
    exact⟨cs.2.1 x (a8 hx2),cells.toList[bytes],by rw[<- dc];exact aG hj3,cs.2.2 bytes x _ hx2 (aG hj3)⟩
   .refine .I hφ (by omega) (by unfold maxLen;omega) ⟨A,?_⟩;unfold tN;simp[cells]
  .cases D
 .cases D
def aqb {y:Operand} (ho:o.op= .store s c y) (hs:fP P s=Z i) (z:dG (.store i c y) e h nx=Z R):gE P o e.get h.get R.eff:=by
 simp only[dG]at z;split at z
 .rename_i p v hx hy;unfold C8 at z;split at z
  .rename_i id off;split at z
   .rename_i b hb;split at z
    .rename_i hl;split at z
     .rename_i c' hput;cases z;unfold BC.put at hput;split at hput
      .rename_i hcc;simp only[al]at hcc;let⟨⟨c1,c2⟩,c3⟩:=hcc;have c2:=aU c2;have hl:l! v.cs=i:=by simpa using hl
       have D:c'.toMx=splice b.c.toMx off v.cs/\c'.isCells=J:=by
        split at hput
        next l ys hbl hys=>cases hput;refine ⟨?_,rfl⟩;have hv:=nU hys;rw[hv,hbl];simp only[BC.toMx];unfold splice;simp_all
        .cases hput;exact⟨rfl,rfl⟩
       refine gE.writes hb λφ E h' w a hrd hb' hp hrep=>?_
       have hr:=ZY (hp y _ (by rw[ho];simp[Op.operands]) hy) c3;have hpx:=hp c _ (by rw[ho];simp[Op.operands]) hx;generalize hz:a.eval c=pv at hpx;cases hpx with
       |@P _ _ k hφ=>
        let⟨arr,g1,g2,g3⟩:=hrep.cs hb' hφ c1;have hvl:(a.eval y).cells.toList.length=i:=by rw[hr.1];exact hl
        rw[BC.len_toMx c1]at c2;have hst:=run_storeCells_at (P:=P) k off b.ty (a.eval y).cells.toList 0 arr w g1 (by rw[hvl];omega) hr.one
        let arr':Array Value:=(arr.toList.take off++(a.eval y).cells.toList++arr.toList.drop (off+i)).toArray
        have hsize:arr'.size=arr.size:=by grind
        refine ⟨.skip,w.setRow k arr',k,.cells arr' b.ty (0,0),?_,hφ,Jf.setRow g1 hsize,?_,undef,.inr ⟨rfl,rfl⟩,.f (.raw _)⟩
        .have s1:=gG hs w;have hvs:(a.eval y).cells.size=i:=by simpa using hvl
         simp only[dK,hvl]at hst;unfold execOp;rw[ho];simp[Instr.storeAt,hz,Instr.sureAddr,storeVar,s1,hvs,hst,arr']
        .refine rJ D.2 (by rw[D.1,nK (by omega),hsize];exact g3) λj q A=>?_
         rw[D.1,oB (by omega)]at A;have ha':arr'[j]? =if j<off then arr.toList[j]? else if j<off+i then (a.eval y).cells.toList[j-off]? else arr.toList[j]? :=by
          have:=oB (l:=arr.toList) (vs:=(a.eval y).cells.toList) (off:=off) (by grind) j;unfold splice at this
          grind
         have old:b.c.toMx[j]? =Z q->q.isCell=J/\∃u,arr.toList[j]? =Z u/\co φ (tot E φ h') w q u:=λA=>by
          have hj:j<l! b.c.toMx:=(bC.1 A).1;have hj2:j<l! arr.toList:=by simp;omega
          refine ⟨g2.2.1 q (a8 A),arr.toList[j],aG hj2,g2.2.2 j q _ A ?_⟩
          grind
         rw[ha'];by_cases h1:j<off
         .grind
         .rw[av h1]at A ⊢;by_cases h2:j<off+i
          .rw[aD (by omega)]at A;rw[aD h2];have L:j-off<(a.eval y).cells.toList.length:=by omega
           exact⟨hr.2.1 q (a8 A),_,aG L,hr.2.2 _ q _ A (aG L)⟩
          .grind
      .cases hput
     .cases z
    .cases z
   .cases z
  .cases z
 .cases z
end
section
variable {P:Program} {o:Oper} {e:EH} {h:nz} {nx:Nat} {R:DF}
def auk (A:Addr):A.add 0=A:=by cases A;simp[Addr.add]
def ay2 {el:TypeId} {lo hi mx:M Operand} (ho:o.op= .slice s c lo hi mx) (hu:P.underlying s=Z (.slice el)) (hs:fP P el=Z i) (L:dG (.slc i c lo hi mx) e h nx=Z R):gE P o e.get h.get R.eff:=by
 simp only[dG]at L;split at L
 .rename_i v hx;split at L
  ·
   rename_i k k';split at L
   .rename_i hsl;rw[dy L];refine gE.reads λφ E h' w a _ hp _=>?_
    have D:=hp c _ (by rw[ho];simp[Op.operands]) hx;have hz:∃A n x,a.eval c= .slice A n x:=by
     generalize a.eval c=z at D;obtain⟨n,hn⟩:=jN.1 hsl;unfold AV.slen at hn;split at hn
     .cases D with
      |f D=>cases D with
       |nil|sl=>exact⟨_,_,_,rfl⟩
     .cases fD D;exact⟨_,_,_,rfl⟩
     .cases D;exact⟨_,_,_,rfl⟩
     .cases D;exact⟨_,_,_,rfl⟩
     .cases D;exact⟨_,_,_,rfl⟩
     .cases hn
    obtain⟨A,n,x,hz⟩:=hz;have s1:=gG hs w;refine ⟨.slice A 0 0,?_,.emp⟩;unfold execOp;rw[ho];have z0:∀k,a.eval (.const (.int k 0))= .int k 0:=λ_=>rfl
    simp[mb,p_,run_underlying hu,hz,h_,iM,asIntOf,s1,z0]
   .cases L
  ·
   rename_i b;split at L
   .rename_i id sz' n k j hb;split at L
    .rename_i hc;simp only[dg,al,bG,c4]at hc;obtain⟨⟨rfl,h0⟩,h1⟩:=hc;split at L
     .rename_i blk hblk;split at L
      .rename_i hcl;simp only[al]at hcl;obtain⟨hcells,hlen⟩:=hcl;have hlen:=aU hlen;rw[BC.len_toMx hcells]at hlen;cases L;intro φ E h' w a g1 g2 g3 hrep g5;have hp:Yz φ E h' w a e o:=λc y hx hy=>vG hrep g3 hx hy
       have hb':h' id=Z blk:=by rw[g1 id (by simp[DF.eff])];exact hblk
       have D:=hp c _ (by rw[ho];simp[Op.operands]) hx;have hbv:=fD (hp b _ (by rw[ho];simp[Op.operands]) hb);have hnx:φ nx=U:=g5 nx (by simp[DF.eff]);generalize hz:a.eval c=z at D;cases D with
       |@I _ _ _ x q hφ hn hcap hsh=>
        obtain⟨arr,a1,a2,a3⟩:=hrep.cs hb' hφ hcells;have s1:=gG hs w;have hne:nx≠id:=λe=>by rw[e,hφ]at hnx;cases hnx
        have hnw1:j8 [(nx,⟨blk.ty,oy (blk.c.toMx.take (j.toNat*sz'))⟩)] nx=Z (⟨blk.ty,oy (blk.c.toMx.take (j.toNat*sz'))⟩:kG):=by simp[j8]
        have hnw2:j8 [(nx,⟨blk.ty,oy (blk.c.toMx.take (j.toNat*sz'))⟩)] id=U:=by
         simp only[j8];rw[av];intro hb;exact hne (au hb)
        have a4:=a2.take (j.toNat*sz');obtain⟨φ',p1,p2,p3,p4⟩:=hrep.wren hb' hφ hnx (w':=w) ⟨rfl,rfl,rfl,rfl,a1,λ_ _=>rfl,λ_=>rfl⟩ (b':=⟨blk.ty,oy (blk.c.toMx.take (j.toNat*sz'))⟩) (by
         obtain⟨q1,q2⟩:=nQ (blk.c.toMx.take (j.toNat*sz'));refine rJ q2 (by rw[q1,cg];omega) λsz c hx=>?_
         rw[q1]at hx;have hi:sz<l! ((arr.toList.take (l! blk.c.toMx)).take (j.toNat*sz')):=by rw[a4.1];exact (bC.1 hx).1
         refine ⟨a4.2.1 c (a8 hx),_,?_,a4.2.2 sz c _ hx (aG hi)⟩;have hi':sz<arr.size:=by simp at hi;omega
         simp[hi']) _ hnw1 hnw2
        have hrun:(execOp a.eval o).run P w= .ok (.value (.slice (Z ⟨q,0,U⟩) j.toNat x)) w:=by
         unfold execOp;rw[ho];simp[mb,p_,run_underlying hu,hz,h_,iM,asIntOf,s1,hbv,h0,show j<=x by omega,kU]
        unfold LB;rw[hrun];exact⟨_,φ',rfl,p2,p3,p4,.I p1 (by omega) hcap hsh⟩
      .cases L
     .cases L
    .cases L
   .rename_i cells n k j hb;split at L
    .rename_i hc;simp only[dg,al,bG]at hc;obtain⟨⟨h0,h1⟩,h2⟩:=hc;have h2:=aU h2;rw[dy L];refine gE.reads λφ E h' w a _ hp _=>?_
     have D:=hp c _ (by rw[ho];simp[Op.operands]) hx;have hbv:=fD (hp b _ (by rw[ho];simp[Op.operands]) hb);generalize hz:a.eval c=z at D;have s1:=gG hs w;cases D with
     |f D=>
      cases D with
      |nil A x hc=>
       have hj:j=0:=by omega
       subst hj;refine ⟨.slice A 0 x,?_,by simpa using co.f (.nil A x hc)⟩;unfold execOp;rw[ho];cases A<;>simp[mb,p_,run_underlying hu,hz,h_,iM,asIntOf,s1,hbv,auk]
      |sl _ _ x q off us hn hc hO hq hcl hu' D=>
       refine ⟨.slice (Z ⟨q,off,U⟩) j.toNat x,?_,.f (.sl _ _ _ _ _ us (by omega) hc hO hq (λy hy=>hcl y (ip hy)) (λsz hi=>hu' sz (by rw[cg]at hi;omega)) λsz y hy=>?_)⟩
       .unfold execOp;rw[ho];simp[mb,p_,run_underlying hu,hz,h_,iM,asIntOf,s1,hbv,h0,show j<=x by omega,kU]
       .rw[fc]at hy;split at hy
        .exact D sz y hy
        .cases hy
    .cases L
   .cases L
  ·
   rename_i b;split at L
   .rename_i id sz' n k j hb;split at L
    .rename_i hc;simp only[dg,gC,al,bG,c4]at hc;obtain⟨⟨rfl,h0⟩,h1⟩:=hc;rw[dy L];refine gE.reads λφ E h' w a _ hp _=>?_
     have D:=hp c _ (by rw[ho];simp[Op.operands]) hx;have hbv:=fD (hp b _ (by rw[ho];simp[Op.operands]) hb);generalize hz:a.eval c=z at D;cases D with
     |@I _ _ _ x q hφ hn hc hsh=>
      have s1:=gG hs w;refine ⟨.slice (Z ⟨q,0+j.toNat*sz',U⟩) (n-j.toNat) (x-j.toNat),?_,?_⟩
      .unfold execOp;rw[ho];simp[mb,p_,run_underlying hu,hz,h_,iM,asIntOf,s1,hbv,h0,show j<=n by omega,show ¬x=j.toNat by omega,kU]
      .rw[bX];exact .sl hφ (by omega) (by omega)
    .cases L
   .rename_i cells n k j hb;split at L
    .rename_i hc;simp only[dg,al,bG]at hc;obtain⟨⟨h0,h1⟩,h2⟩:=hc;have h2:=aU h2;rw[dy L];refine gE.reads λφ E h' w a _ hp _=>?_
     have D:=hp c _ (by rw[ho];simp[Op.operands]) hx;have hbv:=fD (hp b _ (by rw[ho];simp[Op.operands]) hb);generalize hz:a.eval c=z at D;have s1:=gG hs w;cases D with
     |f D=>
      cases D with
      |nil A x hc=>
       have hj:j=0:=by omega
       subst hj;have hex:∃A',(execOp a.eval o).run P w= .ok (.value (.slice A' 0 x)) w:=by
        unfold execOp;rw[ho];cases A with
        |none=>exact⟨U,by simp[mb,p_,run_underlying hu,hz,h_,iM,asIntOf,s1,hbv]⟩
        |some A=>exact⟨Z A,by simp[mb,p_,run_underlying hu,hz,h_,iM,asIntOf,s1,hbv,auk]⟩
       obtain⟨A',hex⟩:=hex;exact⟨.slice A' 0 x,hex,by simpa using co.f (.nil A' x hc)⟩
      |sl _ _ x q off us hn hc hO hq hcl hu' D=>
       by_cases hcj:x=j.toNat
       .refine ⟨.slice (Z ⟨q,off,U⟩) 0 0,?_,?_⟩
        .unfold execOp;rw[ho];simp[mb,p_,run_underlying hu,hz,h_,iM,asIntOf,s1,hbv,h0,show j<=n by omega,hcj,show n-j.toNat=0 by omega,kU]
        .rw[show n-j.toNat=0 by omega];simpa using co.f (.nil (Z ⟨q,off,U⟩) 0 (by unfold maxLen;omega))
       .refine ⟨.slice (Z ⟨q,off+j.toNat*i,U⟩) (n-j.toNat) (x-j.toNat),?_,.f (.sl _ _ _ _ _ (λsz=>us (j.toNat*i+sz)) (by omega) (by omega) hO hq (λy hy=>hcl y (List.mem_of_mem_drop (ip hy))) (λsz hi=>?_) λsz y hy=>?_)⟩
        .unfold execOp;rw[ho];simp[mb,p_,run_underlying hu,hz,h_,iM,asIntOf,s1,hbv,h0,show j<=n by omega,hcj,kU]
        .rw[uJ];refine hu' _ ?_;rw[cg,xr]at hi;omega
        .rw[fc]at hy;split at hy
         .rw[tP]at hy;exact D _ y hy
         .cases hy
    .cases L
   .cases L
  ·
   rename_i b b' _;split at L
   .rename_i cells n k j k' j' hb hb';split at L
    .rename_i hc;simp only[dg,al,bG]at hc;obtain⟨⟨⟨hjj,h0⟩,h1⟩,h2⟩:=hc;subst hjj;have h2:=aU h2;rw[dy L];refine gE.reads λφ E h' w a _ hp _=>?_
     have D:=hp c _ (by rw[ho];simp[Op.operands]) hx;have hbv:=fD (hp b _ (by rw[ho];simp[Op.operands]) hb);have hbv':=fD (hp b' _ (by rw[ho];simp[Op.operands]) hb');generalize hz:a.eval c=z at D;have s1:=gG hs w;cases D with
     |f D=>
      cases D with
      |nil A x hc=>
       have hj:j=0:=by omega
       subst hj;refine ⟨.slice A 0 0,?_,by simpa using co.qc (ny.nil A 0 (by unfold maxLen;omega))⟩;unfold execOp;rw[ho];cases A<;>simp[mb,p_,run_underlying hu,hz,h_,iM,asIntOf,s1,hbv,hbv',auk]
      |sl _ _ x q off us hn hc hO hq hcl hu' D=>
       refine ⟨.slice (Z ⟨q,off,U⟩) j.toNat j.toNat,?_,.qc (.sl _ _ _ _ _ us (bK _) (by omega) hO hq (λy hy=>hcl y (ip hy)) (λsz hi=>hu' sz (by rw[cg]at hi;omega)) λsz y hy=>?_)⟩
       .unfold execOp;rw[ho];simp[mb,p_,run_underlying hu,hz,h_,iM,asIntOf,s1,hbv,hbv',h0,show j<=x by omega,kU];intro hlt;omega
       .rw[fc]at hy;split at hy
        .exact D sz y hy
        .cases hy
    .cases L
   .cases L
  .cases L
 .cases L
def aig {rd:ι} (hrow:y.row? h i=Z (r,j,rd)) (hrd:∀sz∈rd,S sz=h.get sz) (hrep:sC V O S w) (hr:co V (tot O V S) w y v):
 ∃A c vs,v= .slice A j c/\Cs V (tot O V S) w r vs/\l! vs=j*i/\(A=U->vs=[])/\(∀ad,A=Z ad->∀(m:Nat) u,vs[m]? =Z u->w.cell? (ad.add m)=Z u):=by
 have emp:∀A c,v= .slice A 0 c->r=[]->j=0->∃A c vs,v= .slice A j c/\Cs V (tot O V S) w r vs/\l! vs=j*i/\(A=U->vs=[])/\(∀ad,A=Z ad->∀(m:Nat) u,vs[m]? =Z u->w.cell? (ad.add m)=Z u):=by
  rintro A c rfl rfl rfl;exact⟨A,c,[],rfl,⟨rfl,(by intro y z;cases z),(by intro m y v z;simp at z)⟩,by simp,λ_=>rfl,by intro ad _ m u D;simp at D⟩
 have own:∀(id off n c k:Nat) (b:kG),V id=Z k->S id=Z b->b.c.isCells=J->off+n*i<=b.c.len->v= .slice (Z ⟨k,off,U⟩) n c->r=(b.c.toMx.drop off).take (n*i)->j=n->
  ∃A c vs,v= .slice A j c/\Cs V (tot O V S) w r vs/\l! vs=j*i/\(A=U->vs=[])/\(∀ad,A=Z ad->∀(m:Nat) u,vs[m]? =Z u->w.cell? (ad.add m)=Z u):=by
  rintro id off n c k b hφ hb L hle rfl rfl rfl;let⟨arr,g1,g2,g3⟩:=hrep.cs hb hφ L;rw[BC.len_toMx L]at hle;refine ⟨_,c,((arr.toList.take (l! b.c.toMx)).drop off).take (j*i),rfl,(g2.drop off).take _,?_,nofun,?_⟩
  .simp;omega
  .intro ad had m u D;cases had;rw[kU];rw[fc]at D;split at D
   .rw[tP,fc]at D;split at D
    .rw[dc]at D;simp[Sk,g1,D]
    .cases D
   .cases D
 unfold AV.row? at hrow;split at hrow
 .rename_i cells n;split at hrow
  .rename_i hle;have hle:=aU hle;simp only[ah,aR]at hrow;obtain⟨rfl,rfl,rfl⟩:=hrow;cases hr with
   |f hr=>
    cases hr with
    |nil a c L=>exact emp a c rfl (by simp) rfl
    |sl _ _ c b off us hn L hO hb hcl D hr=>
     refine ⟨_,c,(eA (n*i)).map us,rfl,⟨by simp;omega,λy z=>?_,λm y u z hu'=>?_⟩,by simp,nofun,?_⟩
     .obtain⟨x,hy,rfl⟩:=cz.1 z;exact hcl x (ip hy)
     .obtain⟨rfl,hj⟩:=A_ us _ _ _ hu';rw[bB,fc,aD hj]at z;cases hq:cells[m]? with
      |none=>rw[hq]at z;cases z
      |some q=>rw[hq]at z;simp at z;subst z;exact .f (hr m q hq)
     .intro ad had m u hu';cases had;obtain⟨rfl,hj⟩:=A_ us _ _ _ hu';rw[kU];exact D m (by omega)
  .cases hrow
 .simp only[ah,aR]at hrow;obtain⟨rfl,rfl,rfl⟩:=hrow;exact emp U 0 (fD hr) rfl rfl
 .simp only[ah,aR]at hrow;obtain⟨rfl,rfl,rfl⟩:=hrow;cases hr with
  |@emp a=>exact emp a 0 rfl rfl rfl
 .rename_i id sz' n;split at hrow
  .rename_i hsz;split at hrow
   .rename_i b hb;split at hrow
    .rename_i L;simp only[al]at L;simp only[ah,aR]at hrow;obtain⟨rfl,rfl,rfl⟩:=hrow;cases hr with
     |@I _ _ _ c k hφ hn hc' hsh=>
      exact own id 0 n c k b hφ (by rw[hrd id (by simp)];exact hb) L.1 (by simp_all) rfl (by simp) rfl
    .cases hrow
   .cases hrow
  .cases hrow
 .rename_i id off n;split at hrow
  .rename_i b hb;split at hrow
   .rename_i L;simp only[al]at L;simp only[ah,aR]at hrow;obtain⟨rfl,rfl,rfl⟩:=hrow;cases hr with
    |@sl _ _ _ c k hφ hn hc'=>exact own id off n c k b hφ (by rw[hrd id (by simp)];exact hb) L.1 (aU L.2) rfl rfl rfl
   .cases hrow
  .cases hrow
 .cases hrow
def anq {rd:ι} (hrow:y.row? h i=Z (r,j,rd)) (hrd:∀sz∈rd,S sz=h.get sz) (hrep:sC V O S w) (hr:co V (tot O V S) w y v) {L:TypeId} (D:P.underlying s=Z (.slice L)):
 ∃vs,Src P i s v j vs w/\Cs V (tot O V S) w r vs:=by
 obtain⟨A,c,vs,rfl,h1,h2,h3,h4⟩:=aig hrow hrd hrep hr;refine ⟨vs,?_,h1⟩;cases A with
 |none=>
  have:=h3 rfl;subst this;have hm:j*i=0:=by grind
  refine ⟨.inl ⟨L,D⟩,λ_=>rfl,run_firstCells_none w i j j c,run_firstCells_none w.drew i j j c,by simp[hm],λ_ h=>by cases h⟩
 |some ad=>exact Src.ofSlice w D ad j c vs h2 (h4 ad rfl) h1.one
def ajj :∀{l:ι},mem i l=J↔i∈l
 |[]=>by simp[mem]
 |y::r=>by
  simp[mem,nA,ajj (l:=r),aV];constructor
  .rintro (h|h)
   .simp_all
   .exact .inr h
  .rintro (h|h)
   .simp_all
   .exact .inr h
def auv {u el el':TypeId} {x:Operand} (ho:o.op= .call {callee:=.builtin .copy,args:=#[c,x],argTypes:=#[s,u]}) (hu:P.underlying s=Z (.slice el)) (hu':P.underlying u=Z (.slice el')) (hs:fP P el=Z i) (D:dG (.copy i c x) e h nx=Z R):gE P o e.get h.get R.eff:=by
 simp only[dG]at D;split at D
 .rename_i id sz' n y hd hx;split at D
  .rename_i blk src m rd hblk hrow;split at D
   .rename_i hc;simp only[al,c4,ca]at hc;obtain⟨⟨rfl,hmem⟩,hlen⟩:=hc;split at D
    .rename_i c' hput;cases D;unfold BC.put at hput;split at hput
     .rename_i hcc;simp only[al]at hcc;let⟨⟨c1,c2⟩,c3⟩:=hcc;have c2:=aU c2;rw[bX]at c2;have hc':c'.toMx=splice blk.c.toMx 0 (src.take (ma m n*sz'))/\c'.isCells=J:=by
       split at hput
       next l ys hbl hys=>cases hput;refine ⟨?_,rfl⟩;have hv:=nU hys;rw[hv,hbl];simp only[BC.toMx];unfold splice;simp[gQ,An]
       .cases hput;exact⟨rfl,rfl⟩
      refine gE.writes hblk λφ E h' w a hrd hb' hp hrep=>?_
      have hpd:=hp c _ (by rw[ho];simp[Op.operands,dI]) hd;have hpx:=hp x _ (by rw[ho];simp[Op.operands,dI]) hx;let⟨A,d,vs,hv,q1,q2,q3,q4⟩:=aig hrow (λsz hi=>hrd sz (by simp[hi])) hrep hpx;generalize hz:a.eval c=pv at hpd;cases hpd with
      |@I _ _ _ cap k hφ hn hcap hsh=>
       let⟨arr,g1,g2,g3⟩:=hrep.cs hb' hφ c1;rw[BC.len_toMx c1]at c2;have hmn:ma m n<=m:=Nat.min_le_left _ _;have hle:ma m n*sz'<=m*sz':=cJ _ hmn
       let z:=vs.take (ma m n*sz')
       have hnl:l! z=ma m n*sz':=by simp only[z,cg,q2];omega
       have hsl:l! (src.take (ma m n*sz'))=ma m n*sz':=by rw[cg,<-q1.1,q2];omega
       have csn:=q1.take (ma m n*sz');rw[hsl]at c2;have hst:=run_storeCells_at (P:=P) k 0 blk.ty z 0 arr w g1 (by rw[hnl];omega) csn.one
       let arr':Array Value:=(arr.toList.take 0++z++arr.toList.drop (0+ma m n*sz')).toArray
       have hsize:arr'.size=arr.size:=by simp only[arr',Dc,bz,cg,xr,Array.length_toList,hnl];omega
       have hfc:(Bt sz' (ma m n) (.slice A m d)).run P w= .ok z.toArray w:=by
        cases A with
        |none=>
         have:z=[]:=by simp[z,q3 rfl]
         rw[this];exact run_firstCells_none w sz' _ _ _
        |some ad=>exact run_firstCells_some w sz' _ ad m d z hnl (λj u hu=>q4 ad rfl j u (by
          simp only[z,fc]at hu;split at hu
          .exact hu
          .cases hu))
       refine ⟨.value (.int .i64 (ma m n)),w.setRow k arr',k,.cells arr' blk.ty (0,0),?_,hφ,Jf.setRow g1 hsize,?_,_,.inl rfl,.f (.raw _)⟩
       .have s1:=gG hs w;simp only[dK,hnl]at hst;unfold execOp;rw[ho];simp[resolve,invoke,builtin,Builtin.copy_,run_underlying hu,hz,hv,Builtin.lenOf,s1,hfc,hst,goInt,arr']
       .refine rJ hc'.2 (by rw[hc'.1,nK (by rw[hsl];omega),hsize];exact g3) λj q L=>?_
        rw[hc'.1,oB (by rw[hsl];omega)]at L;have ha':arr'[j]? =if j<0 then arr.toList[j]? else if j<0+l! z then z[j-0]? else arr.toList[j]? :=by grind
        rw[ha',av (by omega)];rw[av (by omega),hsl]at L;rw[hnl];by_cases h2:j<0+ma m n*sz'
        .rw[aD h2]at L ⊢;have hj3:j-0<l! z:=by rw[hnl];omega
         exact⟨csn.2.1 q (a8 L),_,aG hj3,csn.2.2 _ q _ L (aG hj3)⟩
        .rw[av h2]at L ⊢;have hj:j<l! blk.c.toMx:=(bC.1 L).1;have hj2:j<l! arr.toList:=by simp;omega
         refine ⟨g2.2.1 q (a8 L),arr.toList[j],aG hj2,g2.2.2 j q _ L ?_⟩;rw[fc,aD hj,aG hj2]
     .cases hput
    .cases D
   .cases D
  .cases D
 .cases D
def ayl {el:TypeId} (ho:o.op= .call {callee:=.builtin .clear,args:=#[c],argTypes:=#[s]}) (hu:P.underlying s=Z (.slice el)) (hz:ve P el=Z L) (hc:ov L=J) (hl:l! L=i) (hsz:i≠0) (D:dG (.clr i L c) e h nx=Z R):gE P o e.get h.get R.eff:=by
 simp only[dG]at D;split at D
 .rename_i id off n hx;split at D
  .rename_i blk hblk;split at D
   .rename_i hn;have hn:=aU hn;obtain⟨m,rfl⟩:∃m,n=m+1:=⟨n-1,by omega⟩
    split at D
    .rename_i c' hput;cases D;unfold BC.put at hput;split at hput
     .rename_i hcc;simp only[al]at hcc;let⟨⟨c1,c2⟩,c3⟩:=hcc;have c2:=aU c2;have hsrc:l! ((repl L (m+1)).map AV.f)=(m+1)*i:=by rw[bM,oD,hl]
      rw[hsrc]at c2;have hc':c'.toMx=splice blk.c.toMx off ((repl L (m+1)).map AV.f)/\c'.isCells=J:=by
       split at hput
       next l ys hbl hys=>cases hput;refine ⟨?_,rfl⟩;have hv:=nU hys;rw[hv,hbl];simp only[BC.toMx];unfold splice;simp[gQ,An]
       .cases hput;exact⟨rfl,rfl⟩
      refine gE.writes hblk λφ E h' w a hrd hb' hp hrep=>?_
      have hpx:=hp c _ (by rw[ho];simp[Op.operands,dI]) hx;generalize hzv:a.eval c=pv at hpx;cases hpx with
      |@sl _ _ _ cap k hφ hn2 hcap=>
       let⟨arr,g1,g2,g3⟩:=hrep.cs hb' hφ c1;rw[BC.len_toMx c1]at c2;let⟨v,z1,z2,_⟩:=vK hz w;have csn:=Cs.repl (φ:=φ) (O:=tot E φ h') (w:=w) z2 (m+1) i hl hsz hc
       let z:=(mP v.cells (m+1)).toList
       have hvs:v.cells.size=i:=by rw[<- hl,<-z2];simp
       have hns:z=((H0 ((m+1)*i)).map (λsz=>v.cells[sz%v.cells.size]!)).toList:=by simp only[z,mP,hvs]
       have hnl:l! z=(m+1)*i:=by rw[hns];simp
       rw[<- hns]at csn;have hst:=run_storeCells_at (P:=P) k off blk.ty z 0 arr w g1 (by rw[hnl];omega) csn.one
       let arr':Array Value:=(arr.toList.take (off+0)++z++arr.toList.drop (off+0+l! z)).toArray
       have hsize:arr'.size=arr.size:=by grind
       refine ⟨.value (.tuple #[]),w.setRow k arr',k,.cells arr' blk.ty (0,0),?_,hφ,Jf.setRow g1 hsize,?_,_,.inl rfl,.qb (vs:=[]) rfl λj y v hy=>by simp at hy⟩
       .unfold execOp;rw[ho];have hst2:(storeCells ⟨k,off,U⟩ (mP v.cells (m+1)).toList).run P w= .ok () (w.setRow k arr'):=hst;simp[resolve,invoke,builtin,Builtin.clear_,run_underlying hu,hzv,z1,hst2]
       .refine rJ hc'.2 (by rw[hc'.1,nK (by rw[hsrc];omega),hsize];exact g3) λj q A=>?_
        rw[hc'.1,oB (by rw[hsrc];omega)]at A;have ha':arr'[j]? =if j<off then arr.toList[j]? else if j<off+l! z then z[j-off]? else arr.toList[j]? :=by
         have:=oB (l:=arr.toList) (vs:=z) (off:=off) (by grind) j;unfold splice at this
         grind
        rw[ha'];rw[hsrc]at A;rw[hnl];by_cases h1:j<off
        .rw[aD h1]at A ⊢;have hj:j<l! blk.c.toMx:=(bC.1 A).1;have hj2:j<l! arr.toList:=by simp;omega
         refine ⟨g2.2.1 q (a8 A),arr.toList[j],aG hj2,g2.2.2 j q _ A ?_⟩
         grind
        rw[av h1]at A ⊢;by_cases h2:j<off+(m+1)*i
        .rw[aD h2]at A ⊢;have hj3:j-off<l! z:=by rw[hnl];omega
         exact⟨csn.2.1 q (a8 A),_,aG hj3,csn.2.2 _ q _ A (aG hj3)⟩
        .rw[av h2]at A ⊢;have hj:j<l! blk.c.toMx:=(bC.1 A).1;have hj2:j<l! arr.toList:=by simp;omega
         refine ⟨g2.2.1 q (a8 A),arr.toList[j],aG hj2,g2.2.2 j q _ A ?_⟩
         grind
     .cases hput
    .cases D
   .cases D
  .cases D
 .cases D
end
def Q3 (w:World) (ob:Obj):Ye w (w.drew.alloc ob) ob:=Ye.drawn (w.drawn+1) (sX {w with drawn:=w.drawn+1} ob)
section
variable {P:Program} {o:Oper} {e:EH} {h:nz} {nx:Nat} {R:DF}
def L_ (A:v.cells.toList=L) (D:l! L=i) (n:Nat):(mP v.cells n).size=n*i:=by
 have:v.cells.size=i:=by grind
 simp[mP,this]
def O7 {u D:TypeId} {t:Operand} {m:TypeInfo} (ho:o.op= .call {callee:=.builtin .append,args:=#[t,c],argTypes:=#[s,u]}) (hu:P.underlying s=Z (.slice D)) (i1:P.info? D=Z m) (hz:ve P D=Z L) (hzl:l! L=m.size)
 {a:Act} (hrep:sC V O S w) (hnx:V nx=U) {A:M Addr} {n cap:Nat} {olds vs:ξ} {oldA:Y AV} (hsl:a.eval t= .slice A n cap)
 (hold:(Bt m.size n (.slice A n cap)).run P w.drew= .ok olds.toArray w.drew) (csold:Cs V (tot O V S) w oldA olds) (hol:l! olds=n*m.size) (hsrc:Src P m.size u (a.eval c) i vs w) (hcs:Cs V (tot O V S) w r vs)
 (hg:cap<n+i) (r1:n+i<=1099511627776) (r2:(n+i)*m.bytes<=1099511627776) (del:ι) (hdel:∀j∈del,j≠nx):
 o.wp P a w (λa' w'=>∃v φ',a'=a.put o.dst v/\kj V φ' S (fy S (nx::del) (j8 [(nx,⟨D,oy (oldA++r)⟩)])) w w'/\(∀m k,φ' m=Z k->V m=Z k\/m∈[nx])/\
  sC φ' O (fy S (nx::del) (j8 [(nx,⟨D,oy (oldA++r)⟩)])) w'/\co φ' (tot O φ' (fy S (nx::del) (j8 [(nx,⟨D,oy (oldA++r)⟩)]))) w' (.I nx m.size (n+i)) v) (λ_ _ _=>False):=by
 let⟨zv,z1,z2,i',z,z3⟩:=vK hz w;rw[i1]at z;cases z;have hfb:=growslice_fits (need:=n+i) (old:=cap) (bytes:=m.bytes) hg (by omega);have hrun:=run_append_grow_src w s u o.type D m zv hu i1 z3 A n cap olds hold (a.eval c) i vs hsrc hg (by omega) hfb;have hgc:=grownCap_ge w (n+i) cap D;have hgm:=grownCap_le_maxLen w (n+i) cap D (by unfold maxLen;omega);generalize grownCap w (n+i) cap D=Gc at hrun hgc hgm;have cs:=csold.append hcs;have hnl:=hsrc.newsLen;let⟨φ',p1,p2,p3,p4⟩:=hrep.wnew hnx (Q3 w _) (b:=⟨D,oy (oldA++r)⟩) (ob:=.cells ((olds++vs).toArray++mP zv.cells (Gc-(n+i))) D (0,0)) (by
  let⟨q1,q2⟩:=nQ (oldA++r);refine rJ q2 (by rw[q1,<-cs.1];simp) λj q hq=>?_
  rw[q1]at hq;have hj:j<l! (olds++vs):=by rw[cs.1];exact (bC.1 hq).1
  refine ⟨cs.2.1 q (a8 hq),_,?_,cs.2.2 j q _ hq (aG hj)⟩;rw[Array.getElem?_append_left (by omega),List.getElem?_toArray,aG hj]) del (j8 [(nx,⟨D,oy (oldA++r)⟩)]) (by simp[j8]) (λj hj hne=>by
   simp only[j8];rw[av];intro hb;exact hne (au hb).symm)
 have hexec:(execOp a.eval o).run P w= .ok (.value (.slice (Z ⟨w.heap.size,0,U⟩) (n+i) Gc)) (w.drew.alloc (.cells ((olds++vs).toArray++mP zv.cells (Gc-(n+i))) D)):=by
  unfold execOp;rw[ho];simp[resolve,invoke,builtin,fG,xl,cZ,List.map_toArray,b9,Dd,hsl,hrun]
 unfold LB;rw[hexec];refine ⟨_,φ',rfl,p2,p3,p4,.I p1 hgc hgm ⟨D,?_⟩⟩;have:=(Q3 w (.cells ((olds++vs).toArray++mP zv.cells (Gc-(n+i))) D (0,0))).at_;unfold tN;have hzs:=L_ z2 hzl (Gc-(n+i));have e1:(n+i)*m.size+(Gc-(n+i))*m.size=Gc*m.size:=by rw[<- Nat.add_mul];congr 1;omega
 grind
def ayo {u el el':TypeId} {t:Operand} (ho:o.op= .call {callee:=.builtin .append,args:=#[t,c],argTypes:=#[s,u]}) (hu:P.underlying s=Z (.slice el)) (hu':P.underlying u=Z (.slice el')) (hs:fP P el=Z i) (hb:Ja P el=Z j) (hz:ve P el=Z L) (hzl:l! L=i) (hsz:i≠0)
 (z:dG (.app el i j t c) e h nx=Z R):gE P o e.get h.get R.eff:=by
 let⟨sz,i1,i2⟩:=R_ hb;have i3:sz.size=i:=by unfold fP at hs;rw[i1]at hs;simpa using hs
 subst i2 i3;simp only[dG]at z;split at z
 .rename_i bv y hsv D;split at z
  .rename_i src m rd hrow;have common:∀{φ:PM} {E:Nat->Prop} {h':HF} {w:World} {a:Act},(∀sz∈rd,h' sz=h.get sz)->Yz φ E h' w a e o->sC φ E h' w->∃vs,Src P sz.size u (a.eval c) m vs w/\Cs φ (tot E φ h') w src vs:=
    λhrd hp hrep=>anq hrow hrd hrep (hp c _ (by rw[ho];simp[Op.operands,dI]) D) hu'
   have exec:∀{w w':World} {a:Act} {v:Value},(Jq #[s,u] o.type #[a.eval t,a.eval c]).run P w= .ok v w'->(execOp a.eval o).run P w= .ok (.value v) w':=by
    intro w w' a v hrun;unfold execOp;rw[ho];simp[resolve,invoke,builtin,hrun]
   split at z
   .rename_i id sz' n;split at z
    .rename_i blk hblk;split at z
     .rename_i hc;simp only[al,c4,ca]at hc;obtain⟨⟨⟨⟨⟨rfl,hmem⟩,hcells⟩,hlen⟩,hty⟩,hroom⟩:=hc;have hlen:=aU hlen;rw[BC.len_toMx hcells]at hlen;let⟨r1,r2⟩:=F4 hroom;cases z;subst hty;intro φ E h' w a h1 h2 h3 hrep h5;have hp:Yz φ E h' w a e o:=λc y D hy=>vG hrep h3 D hy
      have hb':h' id=Z blk:=by rw[h1 id (by simp[DF.eff])];exact hblk
      let⟨vs,hsrc,hcs⟩:=common (λsz hi=>h1 sz (by simp[DF.eff,hi])) hp hrep;have hpd:=hp t _ (by rw[ho];simp[Op.operands,dI]) hsv;have hnx:φ nx=U:=h5 nx (by simp[DF.eff]);have hwv:=hp t _ (by rw[ho];simp[Op.operands,dI]) hsv;generalize hzv:a.eval t=pv at hpd;cases hpd with
      |@I _ _ _ cap k hφ hn hcap hsh=>
       let⟨arr,g1,g2,g3⟩:=hrep.cs hb' hφ hcells;have hne:nx≠id:=λe=>by rw[e,hφ]at hnx;cases hnx
       have harr:arr.size=cap*sz.size:=by
        let⟨ty,hty⟩:=hsh;unfold tN at hty;rw[g1]at hty;simp at hty;exact hty.2
       have hnl:=hsrc.newsLen;have hnn:n*sz.size<=arr.size:=by omega
       have csnew:Cs φ (tot E φ h') w (blk.c.toMx.take (n*sz.size)++src) (arr.toList.take (n*sz.size)++vs):=by
        have:=(g2.take (n*sz.size)).append hcs
        rwa [List.take_take,Jn hlen]at this
       have hnw1:j8 [(nx,⟨blk.ty,oy (blk.c.toMx.take (n*sz.size)++src)⟩)] nx=Z ⟨blk.ty,oy (blk.c.toMx.take (n*sz.size)++src)⟩:=by simp[j8]
       have hnw2:j8 [(nx,⟨blk.ty,oy (blk.c.toMx.take (n*sz.size)++src)⟩)] id=U:=by
        simp only[j8];rw[av];intro hb;exact hne (au hb)
       by_cases hfit:n+m<=cap
       ·
        have hend:n*sz.size+l! vs<=arr.size:=by
         rw[hnl,harr,<-Nat.add_mul];exact cJ _ hfit
        have hst:=run_storeCells_at (P:=P) k (n*sz.size) blk.ty vs 0 arr w g1 (by omega) hsrc.one;simp only[dK]at hst
        let arr':Array Value:=(arr.toList.take (n*sz.size)++vs++arr.toList.drop (n*sz.size+l! vs)).toArray
        have hsize:arr'.size=arr.size:=by simp only[arr',Dc,bz,cg,xr,Array.length_toList];omega
        have hrun:(Jq #[s,u] o.type #[a.eval t,a.eval c]).run P w= .ok (.slice (Z ⟨k,0,U⟩) (n+m) cap) (w.setRow k arr'):=by
         rw[hzv];rcases hsrc.kind with ⟨e',hk⟩|hk<;>simp[Jq,run_underlying hu,run_underlying hk,sizeOf,typeInfo,i1,hsrc.len,hfit,hsrc.cells,kU,hst,arr']
        let⟨φ',p1,p2,p3,p4⟩:=hrep.wren hb' hφ hnx (Jf.setRow g1 hsize) (b':=⟨blk.ty,oy (blk.c.toMx.take (n*sz.size)++src)⟩) (by
         let⟨q1,q2⟩:=nQ (blk.c.toMx.take (n*sz.size)++src);refine rJ q2 (by rw[q1,<-csnew.1,hsize];simp;omega) λbytes q hq=>?_
         rw[q1]at hq;have hj:bytes<l! (arr.toList.take (n*sz.size)++vs):=by rw[csnew.1];exact (bC.1 hq).1
         refine ⟨csnew.2.1 q (a8 hq),_,?_,csnew.2.2 bytes q _ hq (aG hj)⟩;simp only[arr',List.getElem?_toArray];rw[bL hj,aG hj]) _ hnw1 hnw2
        unfold LB;rw[exec hrun];refine ⟨_,φ',rfl,p2,p3,p4,.I p1 hfit hcap ⟨blk.ty,?_⟩⟩;unfold tN;rw[setRow_heap w k arr arr' blk.ty (0,0) g1];simp[hsize,harr]
       ·
        have hold:(Bt sz.size n (.slice (Z ⟨k,0,U⟩) n cap)).run P w.drew= .ok (arr.toList.take (n*sz.size)).toArray w.drew:=by
         refine run_firstCells_some w.drew sz.size n _ n cap _ (by simp;omega) λbytes v hv=>?_
         rw[fc]at hv;split at hv
         .rw[dc]at hv;rw[kU,bX];have hcl:w.cell? ⟨k,bytes,U⟩=Z v:=by simp[Sk,g1,hv]
          simpa using hcl
         .cases hv
        exact O7 ho hu i1 hz hzl hrep hnx hzv hold (by
         have:=g2.take (n*sz.size)
         rwa [List.take_take,Jn hlen]at this) (by simp;omega) hsrc hcs (by omega) r1 r2 [id] (λbytes hj=>by simp at hj;subst hj;exact λe=>hne e.symm)
     .cases z
    .cases z
   .rename_i cells n;split at z
    .rename_i hc;simp only[al]at hc;let⟨hlen,hroom⟩:=hc;have hlen:=aU hlen;let⟨r1,r2⟩:=F4 hroom;split at z
     .rename_i hm;have hm:m=0:=by simpa using hm
      subst hm;cases z;refine gE.reads λφ E h' w a hrd hp hrep=>?_
      let⟨vs,hsrc,hcs⟩:=common hrd hp hrep;have hr:=hp t _ (by rw[ho];simp[Op.operands,dI]) hsv;generalize hz:a.eval t=q at hr;cases hr with
      |@qc _ _ A hr=>
       refine ⟨.slice A n n,exec ?_,.f hr⟩;rw[hz];have hvs:vs=[]:=by have:=hsrc.newsLen;simpa using this
       have hc0:=hsrc.cells;rw[hvs]at hc0;rcases hsrc.kind with ⟨e',hk⟩|hk<;>cases A<;>simp[Jq,run_underlying hu,run_underlying hk,sizeOf,typeInfo,i1,hsrc.len,hc0,storeCells]
     .rename_i hm;have hm:m≠0:=by simpa using hm
      cases z;intro φ E h' w a h1 h2 h3 hrep h5;have hp:Yz φ E h' w a e o:=λc y D hy=>vG hrep h3 D hy
      let⟨vs,hsrc,hcs⟩:=common (λsz hi=>h1 sz hi) hp hrep;have hr:=hp t _ (by rw[ho];simp[Op.operands,dI]) hsv;generalize hz':a.eval t=q at hr;cases hr with
      |@qc _ _ A hr=>
       have key:∃olds:ξ,(Bt sz.size n (.slice A n n)).run P w.drew= .ok olds.toArray w.drew/\Cs φ (tot E φ h') w ((cells.take (n*sz.size)).map .f) olds/\l! olds=n*sz.size:=by
        cases hr with
        |nil a x _=>
         refine ⟨[],?_,⟨by simp,(by intro c D;simp at D),(by intro bytes c v D;simp at D)⟩,by simp⟩;cases A with
         |none=>exact run_firstCells_none w.drew sz.size 0 0 0
         |some ad=>exact run_firstCells_some w.drew sz.size 0 ad 0 0 [] (by simp) (by intro bytes v hv;simp at hv)
        |sl _ _ x b off us hn hc hO hb hcl hu2 hrr=>
         refine ⟨(eA (n*sz.size)).map us,?_,⟨by simp;omega,?_,?_⟩,by simp⟩
         .refine run_firstCells_some w.drew sz.size n _ n n _ (by simp) λbytes v hv=>?_
          rw[bB]at hv;rcases cF bytes (n*sz.size) with hj|hj
          .rw[KI hj]at hv;simp only[bi,ah]at hv;subst hv;rw[kU];exact hu2 bytes (by omega)
          .rw[c_ (by simpa using hj)]at hv;cases hv
         .intro c D;obtain⟨y,hy,rfl⟩:=cz.1 D;exact hcl y (ip hy)
         .intro bytes c v D hv;rw[bB,fc]at D;split at D
          .rename_i hj;rw[bB,KI hj]at hv;simp only[bi,ah]at hv;subst hv;cases hcj:cells[bytes]? with
           |none=>rw[hcj]at D;cases D
           |some y=>
            rw[hcj]at D;simp only[bi,ah]at D;subst D;exact .f (hrr bytes y hcj)
          .cases D
       let⟨olds,k1,k2,k3⟩:=key;have:=O7 (nx:=nx) ho hu i1 hz hzl hrep (h5 nx (by simp[DF.eff])) hz' k1 k2 k3 hsrc hcs (by omega) r1 r2 [] (by simp);simpa[DF.eff] using this
    .cases z
   .split at z
    .rename_i hc;simp only[al]at hc;let⟨hb0,hroom⟩:=hc;let⟨r1,r2⟩:=F4 hroom;have hbase:∀{φ:PM} {O:Nat->Prop} {w:World} {v:Value},co φ O w bv v->∃A,v= .slice A 0 0:=by
      intro φ O w v hr;unfold Fh at hb0;split at hb0
      .cases hr;exact⟨_,rfl⟩
      .rename_i q;cases fD hr;unfold Dq at hb0;split at hb0
       .exact⟨_,rfl⟩
       .cases hb0
      .cases hb0
     split at z
     .rename_i hm;have hm:m=0:=by simpa using hm
      subst hm;cases z;refine gE.reads λφ E h' w a hrd hp hrep=>?_
      let⟨vs,hsrc,hcs⟩:=common hrd hp hrep;have hr:=hp t _ (by rw[ho];simp[Op.operands,dI]) hsv;let⟨A,hA⟩:=hbase hr;refine ⟨a.eval t,exec ?_,hr⟩;rw[hA];have hvs:vs=[]:=by have:=hsrc.newsLen;simpa using this
      have hc0:=hsrc.cells;rw[hvs]at hc0;rcases hsrc.kind with ⟨e',hk⟩|hk<;>cases A<;>simp[Jq,run_underlying hu,run_underlying hk,sizeOf,typeInfo,i1,hsrc.len,hc0,storeCells]
     .rename_i hm;have hm:m≠0:=by simpa using hm
      cases z;intro φ E h' w a h1 h2 h3 hrep h5;have hp:Yz φ E h' w a e o:=λc y D hy=>vG hrep h3 D hy
      let⟨vs,hsrc,hcs⟩:=common (λsz hi=>h1 sz hi) hp hrep;let⟨A,hA⟩:=hbase (hp t _ (by rw[ho];simp[Op.operands,dI]) hsv);have hold:(Bt sz.size 0 (.slice A 0 0)).run P w.drew= .ok ([]:ξ).toArray w.drew:=by
       cases A with
       |none=>exact run_firstCells_none w.drew sz.size 0 0 0
       |some ad=>exact run_firstCells_some w.drew sz.size 0 ad 0 0 [] (by simp) (by intro bytes v hv;simp at hv)
      have:=O7 (nx:=nx) (n:=0) (cap:=0) (olds:=[]) (oldA:=[]) ho hu i1 hz hzl hrep (h5 nx (by simp[DF.eff])) hA hold ⟨rfl,(by intro c D;cases D),(by intro bytes c v D;simp at D)⟩ (by simp) hsrc hcs (by omega) (by omega) (by simpa using r2) [] (by simp);simpa[DF.eff] using this
    .cases z
  .cases z
 .cases z
end
section
variable {P:Program} {o:Oper} {e:EH} {h:nz} {nx:Nat} {R:DF}
def aya (D:o.op= .makeMap s U) (z:dG .mkm e h nx=Z R):gE P o e.get h.get R.eff:=by
 simp[dG,ah]at z;subst z;refine gE.makes λφ E h' w a _ _ _=>?_
 refine ⟨.map (Z w.heap.size),{w with heap:=w.heap.push (.map #[] 0)},.map #[] 0,?_,sX w _,⟨#[],0,rfl,by unfold MpK;rfl,by intro j x A;simp at A⟩,λφ' O hφ=>.mp hφ⟩;unfold execOp;rw[D];simp[Instr.makeMap,newObj,kV]
def ay3 (A:o.op= .range s c) (L:P.underlying s=Z .string) (z:dG (.rng c) e h nx=Z R):gE P o e.get h.get R.eff:=by
 simp[dG]at z;split at z
 .rename_i t D;simp[ah]at z;subst z;refine gE.makes λφ E h' w a _ hp _=>?_
  have hr:=fD (hp c _ (by rw[A];simp[Op.operands]) D);refine ⟨.pointer (Z ⟨w.heap.size,0,U⟩),{w with heap:=w.heap.push (.stringIter t 0)},.stringIter t 0,?_,sX w _,rfl,λφ' O hφ=>.P hφ⟩;unfold execOp;rw[A];simp[Instr.range,run_underlying L,hr,newObj,kV]
 .cases z
def vT {ob ob':Obj} (z:w.heap[i]? =Z ob) (h1:∀c t f,ob≠ .cells c t f) (D:∀c t f,ob'≠ .cells c t f):Jf w {w with heap:=w.heap.setIfInBounds i ob'} i ob':=by
 have hlt:i<w.heap.size:=(dE.1 z).1;have hat:(w.heap.setIfInBounds i ob')[i]? =Z ob':=by simp[hlt]
 have hot:∀j,j≠i->(w.heap.setIfInBounds i ob')[j]? =w.heap[j]? :=λj A=>Array.getElem?_setIfInBounds_ne (λe=>A e.symm)
 refine ⟨rfl,rfl,rfl,by simp,hat,hot,λj=>?_⟩;unfold tN
 grind
def ay5 (ho:o.op= .next c J) (A:dG (.nxt c) e h nx=Z R):gE P o e.get h.get R.eff:=by
 simp only[dG]at A;split at A
 .rename_i id hx;split at A
  .rename_i ty s p hid;split at A
   .rename_i b hb;cases A;refine gE.writes hid λφ E h' w a hrd hb' hp hrep=>?_
    have hr:=hp c _ (by rw[ho];simp[Op.operands]) hx;generalize hz:a.eval c=z at hr;cases hr with
    |@P _ _ k hφ=>
     let⟨k',q1,_,ob,q2,q3⟩:=hrep.at_ id _ hb';rw[hφ]at q1;cases q1;have q3:ob= .stringIter s p:=q3;subst q3;have hps:p<s.size:=by
      have:=(bC.1 hb).1;simpa using this
     have hget:s.get! p=b:=by
      have:s.data[p]? =Z b:=by grind
      have hpd:p<s.data.size:=(dE.1 this).1;have h2:s.data[p]! =s.data[p]:=getElem!_pos s.data p hpd;rw[pI hpd]at this;simp only[ByteArray.get!,h2];exact fV this
     have hdec:∃x:Nat,Utf8.decode s p=(x,wdA b s p)/\rnA b s p=(x:Int):=by
      unfold wdA rnA;cases hlt:eE b.toNat 128 with
      |true=>
       refine ⟨b.toNat,?_,rfl⟩;have:=aU hlt;unfold Utf8.decode
       grind
      |false=>exact⟨(Utf8.decode s p).1,rfl,rfl⟩
     let⟨x,hdec,hc⟩:=hdec;refine ⟨.value (.tuple #[.bool J,.int .i64 p,.int .i32 x]),_,k,.stringIter s (p+wdA b s p),?_,hφ,vT q2 (by simp) (by simp),rfl,_,.inl rfl,?_⟩
     .unfold execOp;rw[ho];simp[Instr.next,hz,getObj,kV,q2,hps,hdec,setObj,goInt]
     .refine co.qb (vs:=[.bool J,.int .i64 p,.int .i32 x]) rfl λj y v D L=>?_
      rw[hc]at D;rcases j with _|_|_|j<;>simp at D L
      .subst D L;exact .f (.raw _)
      .subst D L;exact .f (.raw _)
      .subst D L;exact .f (.raw _)
   .rename_i hb;cases A;refine gE.writes hid λφ E h' w a hrd hb' hp hrep=>?_
    have hr:=hp c _ (by rw[ho];simp[Op.operands]) hx;generalize hz:a.eval c=z at hr;cases hr with
    |@P _ _ k hφ=>
     let⟨k',q1,_,ob,q2,q3⟩:=hrep.at_ id _ hb';rw[hφ]at q1;cases q1;have q3:ob= .stringIter s p:=q3;subst q3;have hps:¬p<s.size:=by simp_all
     refine ⟨.value (.tuple #[.bool af]),w,k,.stringIter s p,?_,hφ,⟨rfl,rfl,rfl,rfl,q2,λ_ _=>rfl,λ_=>rfl⟩,rfl,_,.inl rfl,?_⟩
     .unfold execOp;rw[ho];simp[Instr.next,hz,getObj,kV,q2,hps]
     .refine co.qb (vs:=[.bool af]) rfl λj y v D L=>?_
      rcases j with _|j<;>simp at D L;subst D L;exact .f (.raw _)
  .cases A
 .cases A
def xX {a b:ByteArray}:t7 a b=J↔a=b:=by
 unfold t7;constructor
 .intro h;have h1:a.data.toList=b.data.toList:=by grind
  cases a;simp_all
 .rintro rfl;simp
def DC (a b:ByteArray):(a==b)=t7 a b:=by
 have h1:(a==b)=(a.data==b.data):=rfl;rw[h1,Bool.eq_iff_iff,xX,c4];constructor
 .intro h;cases a;congr 1
 .rintro rfl;rfl
def kd (str:Bool) (d:TypeDesc):Prop:=if str then d= .string else ∃k,d= .int k
def F0 {str:Bool} {d:TypeDesc} (hd:kd str d) {A:Value} (D:zB str v=J) (z:xg .eql v A=Z (.bool b)):Instr.sameNow d v A=Z b:=by
 cases str with
 |true=>
  subst hd;cases v<;>simp[zB]at D;cases A<;>simp only[xg]at z<;>try (simp at z;done)
  simp[ah,Fz]at z;simp[Instr.sameNow,DC,z]
 |false=>
  obtain⟨q,rfl⟩:=hd;cases v<;>simp[zB]at D;cases A<;>simp only[xg]at z<;>try (simp at z;done)
  split at z
  next hkk=>have hkk':=eq_of_beq hkk;subst hkk';simp[ah,Fz]at z;simp[Instr.sameNow,<-z]
  .cases z
def WF {d:TypeDesc} (hd:kd b d) (L:zB b v=J):∀(es:Y n!) (ents:Y MapEntry) (i:Nat),ents.map (·.key)=es.map (·.1)->∀r,tU v es=Z r->
 (r=U/\jO d v ents i=Z U)\/∃(j:Nat) (k:AV) (m:MapEntry) (A:Value),r=Z k/\es[j]? =Z (A,k)/\ents[j]? =Z m/\jO d v ents i=Z (Z (i+j,m.val))/\xg .eql v A=Z (.bool J)
 |[],ents,i,he,r,h=>by
  cases ents with
  |nil=>simp[tU,ah]at h;exact .inl ⟨h.symm,rfl⟩
  |cons _ _=>simp at he
 |(A,k)::es,ents,i,he,r,h=>by
  cases ents with
  |nil=>simp at he
  |cons m ents=>
   simp[b9,eX]at he;let⟨z,he2⟩:=he;simp[tU]at h;split at h
   next D=>simp[ah]at h;refine .inr ⟨0,k,m,A,h.symm,rfl,rfl,?_,D⟩;simp only[jO];rw[z,F0 hd L D];rfl
   .rename_i D;have hs:=F0 hd L D;rcases WF hd L es ents (i+1) he2 r h with ⟨h1,h2⟩|⟨j,v',m',k'',h1,h2,h3,h4,h5⟩
    .refine .inl ⟨h1,?_⟩;simp[jO];rw[z,hs];exact h2
    .refine .inr ⟨j+1,v',m',k'',h1,by simpa using h2,by simpa using h3,?_,h5⟩;simp[jO]
     grind
   .cases h
def F3 {d:TypeDesc} (A:P.underlying s=Z d) (hd:kd b d) (str:Bool) (v:Value) (w:World):(mI str 10000 s v).run P w= .ok () w:=by
 have key:∀n,(mI str (n+1) s v).run P w= .ok () w:=λn=>by
  unfold kd at hd;cases b with
  |true=>simp[bk]at hd;subst hd;simp[mI,run_underlying A]
  |false=>simp[cL,dF]at hd;obtain⟨q,rfl⟩:=hd;simp[mI,run_underlying A]
 exact key 9999
def ait {ok:Bool} (h:co V O w y v):co V O w (pkV ok y b) (if ok then .tuple #[v,.bool b] else v):=by
 cases ok with
 |false=>exact h
 |true=>
  refine co.qb (vs:=[v,.bool b]) rfl λj x u z A=>?_
  rcases j with _|_|j<;>simp at z A
  .grind
  .subst z A;exact .f (.raw _)
def asi {kt el:TypeId} {k:Operand} {str:Bool} {d:TypeDesc} (ho:o.op= .lookup s c k b) (hu:P.underlying s=Z (.map kt el)) (hk:P.underlying kt=Z d) (hd:kd str d) (L:(P.info? el).bind (·.zero)=Z v) (A:dG (.jg str b v c k) e h nx=Z R):gE P o e.get h.get R.eff:=by
 simp only[dG]at A;split at A
 .rename_i id key hx hkx;split at A
  .rename_i es hid;split at A
   .rename_i hko;have fin:∀val:AV,(∀(φ:PM) (E:Nat->Prop) (h':HF) (w:World) (a:Act),h' id=Z ⟨0,.mp es⟩->Yz φ E h' w a e o->sC φ E h' w->∃z,(execOp a.eval o).run P w= .ok (.value z) w/\co φ (tot E φ h') w val z)->R=⟨val,[id],[],[],[]⟩->gE P o e.get h.get R.eff:=by
     rintro val hv rfl;exact gE.reads λφ E h' w a hrd hp hrep=>hv φ E h' w a (by rw[hrd id (by simp)];exact hid) hp hrep
    have zrun:∀w:World,(zeroValue el).run P w= .ok v w:=λw=>by
     cases hi:P.info? el with
     |none=>rw[hi]at L;cases L
     |some i=>rw[hi]at L;simp only[aF]at L;simp[zeroValue,typeInfo,hi,L]
    have main:∀r,tU key es=Z r->∀(φ:PM) (E:Nat->Prop) (h':HF) (w:World) (a:Act),h' id=Z ⟨0,.mp es⟩->Yz φ E h' w a e o->sC φ E h' w->
     ∃z,(execOp a.eval o).run P w= .ok (.value z) w/\co φ (tot E φ h') w (match r with|some z=>pkV b z J|none=>pkV b (raw v) af) z:=by
     intro r hr φ E h' w a hb' hp hrep;have hrx:=hp c _ (by rw[ho];simp[Op.operands]) hx;have hrk:=fD (hp k _ (by rw[ho];simp[Op.operands]) hkx);generalize D:a.eval c=zz at hrx;cases hrx with
     |@mp _ ok hφ=>
      let⟨k',q1,_,ob,q2,q3⟩:=hrep.at_ id _ hb';rw[hφ]at q1;cases q1;obtain⟨ents,clock,rfl,q4,q5⟩:=q3;have q4:ents.toList.map (·.key)=es.map (·.1):=by unfold MpK at q4;exact q4
      have hck:=F3 (P:=P) hk hd ents.isEmpty key w;rcases WF hd hko es ents.toList 0 q4 r hr with ⟨h1,h2⟩|⟨j,z,m,k',h1,h2,h3,h4,_⟩
      .subst h1;refine ⟨_,?_,ait (.f (.raw v))⟩;unfold execOp;rw[ho];cases b<;>simp[Instr.lookup,run_underlying hu,D,hrk,getObj,kV,q2,hck,Ap,run_underlying hk,h2,zrun]
      .subst h1;let⟨_,h6,h7⟩:=q5 j _ h2;unfold MpV at h6;obtain⟨m',h6,rfl⟩:=h6;rw[dc]at h3;rw[h3]at h6;cases h6;refine ⟨_,?_,ait h7⟩;unfold execOp;rw[ho];cases b<;>simp[Instr.lookup,run_underlying hu,D,hrk,getObj,kV,q2,hck,Ap,run_underlying hk,h4]
    split at A
    next z hf=>simp only[ah]at A;exact fin _ (main _ hf) A.symm
    next hf=>simp only[ah]at A;exact fin _ (main _ hf) A.symm
    .cases A
   .cases A
  .cases A
 .cases A
def ac1 {d:TypeDesc} (hd:kd b d) (hk:zB b v=J) {k:AV}:∀(es es':Y n!) (ents:Y MapEntry) (i:Nat),ents.map (·.key)=es.map (·.1)->AH v k es=Z es'->
 (jO d v ents i=Z U/\es'=es++[(v,k)])\/∃(j:Nat) (m:MapEntry) (A:Value) (L:AV),es[j]? =Z (A,L)/\ents[j]? =Z m/\jO d v ents i=Z (Z (i+j,m.val))/\xg .eql v A=Z (.bool J)/\es'=es.set j (v,k)
 |[],es',ents,i,he,h=>by
  cases ents with
  |nil=>simp[AH,ah]at h;exact .inl ⟨rfl,by simp[h]⟩
  |cons _ _=>simp at he
 |(A,L)::es,es',ents,i,he,h=>by
  cases ents with
  |nil=>simp at he
  |cons m ents=>
   simp[b9,eX]at he;let⟨z,he2⟩:=he;simp[AH]at h;split at h
   next D=>simp[ah]at h;refine .inr ⟨0,m,A,L,rfl,rfl,?_,D,by simp[h]⟩;simp only[jO];rw[z,F0 hd hk D];rfl
   .rename_i D;have hs:=F0 hd hk D;split at h
    .rename_i es2 hes2;simp[ah]at h;subst h;rcases ac1 hd hk es es2 ents (i+1) he2 hes2 with ⟨h1,h2⟩|⟨j,m',k'',v'',h1,h2,h3,h4,h5⟩
     .refine .inl ⟨?_,by simp[h2]⟩;simp[jO];rw[z,hs];exact h1
     .refine .inr ⟨j+1,m',k'',v'',by simpa using h1,by simpa using h2,?_,h4,by simp[h5]⟩;simp[jO]
      grind
    .cases h
   .cases h
def akv {A:Value} (D:zB b v=J) (z:xg .eql v A=Z (.bool J)):mH 10000 A v=J/\A=v:=by
 cases b with
 |true=>
  cases v<;>simp[zB]at D;cases A<;>simp only[xg]at z<;>try (simp at z;done)
  simp[ah,Fz]at z;have:=xX.1 z;subst this;exact⟨by simp[mH,DC,z],rfl⟩
 |false=>
  cases v<;>simp[zB]at D;cases A<;>simp only[xg]at z<;>try (simp at z;done)
  split at z
  next hkk=>have hkk':=eq_of_beq hkk;subst hkk';simp[ah,Fz,c4]at z;subst z;exact⟨by simp[mH],rfl⟩
  .cases z
def ash {kt el:TypeId} {k y:Operand} {str:Bool} {d:TypeDesc} (ho:o.op= .mapUpdate s c k y) (hu:P.underlying s=Z (.map kt el)) (hk:P.underlying kt=Z d) (hd:kd str d) (z:dG (.jk str c k y) e h nx=Z R):gE P o e.get h.get R.eff:=by
 simp only[dG]at z;split at z
 .rename_i id key v L hkx hy;split at z
  .rename_i es hid;split at z
   .rename_i hko;split at z
    .rename_i es' hput;cases z;refine gE.writes hid λφ E h' w a hrd hb' hp hrep=>?_
     have hrx:=hp c _ (by rw[ho];simp[Op.operands]) L;have hrk:=fD (hp k _ (by rw[ho];simp[Op.operands]) hkx);have hry:=hp y _ (by rw[ho];simp[Op.operands]) hy;generalize D:a.eval c=zz at hrx;cases hrx with
     |@mp _ b hφ=>
      let⟨k',q1,_,ob,q2,q3⟩:=hrep.at_ id _ hb';rw[hφ]at q1;cases q1;obtain⟨ents,clock,rfl,q4,q5⟩:=q3;have q4:ents.toList.map (·.key)=es.map (·.1):=by unfold MpK at q4;exact q4
      have q5:∀(j:Nat) c,es[j]? =Z c->∃m,ents[j]? =Z m/\co φ (tot E φ h') w c.2 m.val:=λj c L=>by
       let⟨_,A,g2⟩:=q5 j c L;unfold MpV at A;obtain⟨m,A,rfl⟩:=A;exact⟨m,A,g2⟩
      have JE:∀(es:Y n!) (ents:Array MapEntry) (clock:Nat),ents.toList.map (·.key)=es.map (·.1)->(∀(j:Nat) c,es[j]? =Z c->∃m,ents[j]? =Z m/\co φ (tot E φ h') w c.2 m.val)->im φ (tot E φ h') w ⟨0,.mp es⟩ (.map ents clock):=λes ents clock A g2=>⟨ents,clock,rfl,by unfold MpK;exact A,λj c L=>by
       let⟨m,g3,g4⟩:=g2 j c L;exact⟨_,by unfold MpV;exact⟨m,g3,rfl⟩,g4⟩⟩
      have hck:=F3 (P:=P) hk hd af key w;have hlen:ents.size=l! es:=by have:=eR aj q4;simpa using this
      rcases ac1 hd hko es es' ents.toList 0 q4 hput with ⟨h1,rfl⟩|⟨j,m,k',v',h1,h2,h3,h4,rfl⟩
      .refine ⟨.skip,_,b,.map (ents.push {key,val:=a.eval y,born:=clock}) (clock+1),?_,hφ,vT q2 (by simp) (by simp),JE _ _ _ (by simp[q4]) λj q hq=>?_,undef,.inr ⟨rfl,rfl⟩,.f (.raw _)⟩
       .unfold execOp;rw[ho];simp[Instr.mapUpdate,run_underlying hu,D,hrk,getObj,kV,q2,hck,Ap,run_underlying hk,h1,setObj]
       .rcases cF j (l! es) with hj|hj
        .grind
        .rw[b_ hj]at hq;have hj0:j-l! es=0:=by grind
         rw[hj0]at hq;simp at hq;subst hq;exact⟨_,by rw[Array.getElem?_push,aD (by omega)],hry⟩
      .obtain⟨s1,s2⟩:=akv hko h4;subst s2;rw[dc]at h2;rw[bX]at h3;have hjl:j<ents.size:=(dE.1 h2).1;have hmk:m.key=k':=by
        have e1:(ents.toList.map (·.key))[j]? =Z m.key:=by rw[bB,dc,h2];rfl
        rw[q4,bB,h1]at e1;simpa using e1.symm
       refine ⟨.skip,_,b,.map (ents.modify j λe=>{e with key:=k',val:=a.eval y}) clock,?_,hφ,vT q2 (by simp) (by simp),JE _ _ _ ?_ λi q hq=>?_,undef,.inr ⟨rfl,rfl⟩,.f (.raw _)⟩
       .unfold execOp;rw[ho];simp[Instr.mapUpdate,run_underlying hu,D,hrk,getObj,kV,q2,hck,Ap,run_underlying hk,h3,setObj,h2,hmk,Instr.keyThatStays,s1]
       .apply Sn;intro i;simp only[bB,dc,ep,Array.getElem?_modify];have e2:∀i:Nat,(ents[i]?).map (λm:MapEntry=>m.key)=(es[i]?).map (λp:Value×AV=>p.1):=λi=>by
         have:=eR (λl=>l[i]?) q4;simpa[bB,dc] using this
        grind
       .grind
    .cases z
   .cases z
  .cases z
 .cases z
end
section
variable {P:Program} {o:Oper} {e:EH} {h:nz} {nx:Nat} {R:DF}
def Mu {d:TypeDesc} (A:P.underlying s=Z d) (hd:(match d with|.int _=>J|.bool=>J|.string=>J|_=>af)=J) (cs:Array Value) (j:Nat) (v:Value) (z:cs[j]? =Z v) (w:World):(part s cs j).run P w= .ok v w:=by
 unfold part;simp[isAgg,fG,run_underlying A,cZ];cases d<;>simp at hd<;>simp[z]
def ag0 {d:TypeDesc} (z:P.underlying s=Z d) (hd:(match d with|.int _=>J|.bool=>J|.string=>J|_=>af)=J) {x y:FV} (hxy:wQ d x y=Z b) {u:Value} (L:x= .raw u) (D:y= .raw v) (n:Nat) (w:World):(Op.equalIn (n+1) s u v).run P w= .ok b w:=by
 subst L D;cases d<;>simp at hd<;>cases u<;>cases v<;>simp only[wQ]at hxy<;>first|(cases hxy;done)|skip
 .cases hxy;simp[Op.equalIn,run_underlying z]
 .split at hxy
  next hk=>have A:=eq_of_beq hk;subst A;cases hxy;simp[Op.equalIn,run_underlying z]
  .cases hxy
 .cases hxy;simp[Op.equalIn,run_underlying z,DC]
abbrev T2 (n:Nat) (xs z:Array Value) (f:Field) (_:M Bool×Unit):Sem (ForInStep (M Bool×Unit)):=
 if f.name≠ "_" then do
  let a←part f.type xs f.offset
  let b←part f.type z f.offset
  let c←Op.equalIn (n+1) f.type a b
  if (!c)=J then pure (ForInStep.done (Z af,())) else pure (Jp (U,()))
 else pure (Jp (U,()))
def RG (n:Nat) (w:World) (xs A:Array Value):∀(fs:Y Field) (ds:Y TypeDesc) (a b:Y FV) (k:Nat) (r:Bool),mc P k fs=Z ds->
 (∀(j:Nat) x u,a[j]? =Z x->xs[k+j]? =Z u->x= .raw u\/∀v,x≠ .raw v)->(∀(j:Nat) x u,b[j]? =Z x->A[k+j]? =Z u->x= .raw u\/∀v,x≠ .raw v)->(∀(j:Nat),j<l! a->k+j<xs.size)->(∀(j:Nat),j<l! b->k+j<A.size)->jX ds a b=Z r->
 (forIn fs (U,()) (T2 n xs A)).run P w= .ok (if r then (U,()) else (Z af,())) w
 |[],ds,a,b,k,r,hp,_,_,_,_,he=>by
  simp only[mc,ah]at hp;subst hp;cases a<;>cases b<;>simp[jX]at he;subst he;simp
 |f::fs,ds,a,b,k,r,hp,ha,hb,hla,hlb,he=>by
  simp only[mc]at hp;split at hp
  .rename_i d ds' hu hp';split at hp
   .rename_i hc;simp only[al,bne_iff_ne,ne_eq,c4]at hc;let⟨⟨hn,hof⟩,hd⟩:=hc;cases hp;cases a with
    |nil=>cases b<;>simp[jX]at he
    |cons x a=>
     cases b with
     |nil=>simp[jX]at he
     |cons y b=>
      simp only[jX]at he;have hx1:k<xs.size:=by have:=hla 0 (by simp);omega
      have L:k<A.size:=by have:=hlb 0 (by simp);omega
      have hraw:∀(z:FV) (q:Value),(z= .raw q\/∀v,z≠ .raw v)->(∃v,z= .raw v)->z= .raw q:=by
       rintro z q (h|h) ⟨v,hv⟩
       .exact h
       .exact cu hv (h v)
      have hxr:∀D,wQ d x y=Z D->x= .raw xs[k]/\y= .raw A[k]:=by
       intro D hbb;have hrr:(∃v,x= .raw v)/\∃v,y= .raw v:=by
        unfold wQ at hbb;split at hbb
        .exact⟨⟨_,rfl⟩,⟨_,rfl⟩⟩
        .exact⟨⟨_,rfl⟩,⟨_,rfl⟩⟩
        .exact⟨⟨_,rfl⟩,⟨_,rfl⟩⟩
        .cases hbb
       exact⟨hraw x _ (ha 0 x _ rfl (by simp[hx1])) hrr.1,hraw y _ (hb 0 y _ rfl (by simp[L])) hrr.2⟩
      have hstep:∀D,wQ d x y=Z D->(T2 n xs A f (U,())).run P w= .ok (if D then Jp (U,()) else ForInStep.done (Z af,())) w:=by
       intro D hbb;let⟨h1,h2⟩:=hxr D hbb;have p1:=Mu hu (by cases d<;>simp[EX]at hd<;>rfl) xs k xs[k] (by simp[hx1]) w;have p2:=Mu hu (by cases d<;>simp[EX]at hd<;>rfl) A k A[k] (by simp[L]) w;have p3:=ag0 hu (by cases d<;>simp[EX]at hd<;>rfl) hbb h1 h2 n w;unfold T2;rw[aD hn,hof];simp only[fG,p1,p2,p3,cZ];cases D<;>simp
      rw[List.forIn_cons];simp only[fG];split at he
      .rename_i hbb;rw[hstep J hbb];simp only[cZ,bk];exact RG n w xs A fs ds' a b (k+1) r hp' (λj x u h1 h2=>ha (j+1) x u (by simpa using h1) (by rw[<- h2];congr 1;omega)) (λj x u h1 h2=>hb (j+1) x u (by simpa using h1) (by rw[<- h2];congr 1;omega))
        (λj hj=>by have:=hla (j+1) (by simpa using hj);omega) (λj hj=>by have:=hlb (j+1) (by simpa using hj);omega) he
      next hbb=>rw[hstep af hbb];cases he;simp
      .cases he
   .cases hp
  .cases hp
variable {E:Array Field} {C:Y TypeDesc}
def RF (L:P.underlying s=Z (.struct E)) (hs:P.stoodInHeld s=af) (hp:mc P 0 E.toList=Z C) (xs z:Array Value) {a r:Y FV} 
 (ha:∀(j:Nat) x u,a[j]? =Z x->xs[j]? =Z u->x= .raw u\/∀v,x≠ .raw v) (hb:∀(j:Nat) x u,r[j]? =Z x->z[j]? =Z u->x= .raw u\/∀v,x≠ .raw v) (hla:l! a=xs.size) (hlb:l! r=z.size) (he:jX C a r=Z b) (w:World):
 (Op.equal s (.agg xs) (.agg z)).run P w= .ok b w:=by
 have key:∀n,(Op.equalIn (n+2) s (.agg xs) (.agg z)).run P w= .ok b w:=by
  intro n;rw[Op.equalIn];have h1:=RG (P:=P) n w xs z E.toList C a r 0 b hp (λj x u h1 D=>ha j x u h1 (by grind)) (λj x u h1 D=>hb j x u h1 (by grind)) (λj hj=>by omega) (λj hj=>by omega) he;rw[Array.forIn_toList]at h1;simp only[fG,run_underlying L,cZ,program,kV,hs,cL,dF];have D:(forIn E (U,()) (λf __s=>T2 n xs z f __s)).run P w= .ok (if b then (U,()) else (Z af,())) w:=h1;rw[D];cases b<;>simp
 exact key 9998
def WY (hu:P.underlying s=Z (.struct E)) (hp:mc P 0 E.toList=Z C):P.eqGuardType P.depth s=af:=by
 have key:∀(E:Y Field) (k:Nat) (C:Y TypeDesc),mc P k E=Z C→∀d,(E.any λf=>f.name != "_" &&P.eqGuardType (d+1) f.type)=af:=by
  intro E;induction E with
  |nil=>intros;rfl
  |cons f E ih=>
   intro k C hp d;simp only[mc]at hp;split at hp
   .rename_i dd ds' A D;split at hp
    .rename_i L;simp[al]at L;have:P.eqGuardType (d+1) f.type=af:=by
      unfold Program.eqGuardType;rw[A];have:=L.2;cases dd<;>simp[EX]at this<;>rfl
     simp only[List.any_cons,this,Bool.and_false,FH];exact ih (k+1) ds' D d
    .cases hp
   .cases hp
 unfold Program.depth Program.eqGuardType;rw[hu];simp only[];rw[← Array.any_toList];exact key E.toList 0 C hp _
def asj {t':TypeId} {op:BinOp} {neg:Bool} {y:Operand} (ho:o.op= .binOp op s c y t') (hop:op=if neg then .neq else .eql) (L:P.underlying s=Z (.struct E)) (hs:P.stoodInHeld s=af) (hp:mc P 0 E.toList=Z C) (z:dG (.jh neg C c y) e h nx=Z R):gE P o e.get h.get R.eff:=by
 simp[dG]at z;split at z
 .rename_i a b D hy;split at z
  .rename_i r hr;rw[dy z];refine gE.reads λφ fs h' w ac _ hpp _=>?_
   have h1:=hpp c _ (by rw[ho];simp[Op.operands]) D;have A:=hpp y _ (by rw[ho];simp[Op.operands]) hy;generalize hzx:ac.eval c=zx at h1;generalize hzy:ac.eval y=zy at A;have rawOr:∀(l:Y FV) (vs:ξ),(∀(j:Nat) c v,l[j]? =Z c->vs[j]? =Z v->ny (tot fs φ h') w c v)->∀(j:Nat) c u,l[j]? =Z c->vs.toArray[j]? =Z u->c= .raw u\/∀v,c≠ .raw v:=by
    intro l vs hr j c u D L;have:=hr j c u D (by grind);cases this with
    |raw v=>exact .inl rfl
    |_=>exact .inr (by simp)
   cases h1 with
   |f h1=>
    cases h1 with
    |agg _ vs hl hcl hr1=>
     cases A with
     |f A=>
      cases A with
      |agg _ us hl' hcl' hr2=>
       have heq:=RF L hs hp vs.toArray us.toArray (rawOr a vs hr1) (rawOr b us hr2) (by grind) (by grind) hr w;refine ⟨_,?_,.f (.raw _)⟩;have hg:=WY L hp;unfold execOp;rw[ho];simp[hzx,hzy];subst hop;cases neg<;>simp[eqGuard,program,kV,hg,binOp,heq]
  .cases z
 .cases z
end
section
variable {P:Program} {o:Oper} {e:EH} {h:nz} {nx:Nat} {R:DF}
def Ib:∀{l:Y FV} {vs:ξ},Jx l=Z vs->l=vs.map .raw
 |[],vs,h=>by simp[Jx,ah]at h;subst h;rfl
 |x::r,vs,h=>by
  cases x with
  |raw v=>
   simp[Jx]at h;split at h
   next l z=>simp[ah]at h;subst h;rw[b9,<-Ib z]
   .cases h
  |_=>simp[Jx]at h
def ain {u:Value} (h:ny O w (.raw v) u):u=v:=by cases h;rfl
def Vr {vs:ξ} (hl:l! vs=l! L) (z:∀(j:Nat) x v,(L.map FV.raw)[j]? =Z x->vs[j]? =Z v->ny O w x v):vs=L:=by
 apply Sn;intro j;rcases cF j (l! L) with A|A
 .have h1:(L.map FV.raw)[j]? =Z (.raw L[j]):=by simp[A]
  have D:vs[j]? =Z (vs[j]'(by omega)):=aG (by omega);have:=z j _ _ h1 D;rw[D,aG A,ain this]
 .grind
def MY (z:af3 y=Z L) (D:co V O w y v):v= .agg L.toArray:=by
 cases D with
 |f D=>
  cases D with
  |agg cells vs hl hcl hrr=>
   have:=Ib (show Jx cells=Z L from z);subst this;rw[Vr (by grind) hrr]
  |_=>simp[af3]at z
 |@agg cells vs hl hcl hrr=>
  simp[af3]at z;split at z
  .rename_i fs hfs;have:=Ib z;have:=nU hfs;have key:vs=L:=Vr (O:=O) (w:=w) (by grind) λj x u hx A=>by
    have:=hrr j (.f x) u (by grind) A;cases this with
    |f h=>exact h
   rw[key]
  .cases z
 |_=>simp[af3]at z
structure EG (P:Program) (kt:TypeId) (fs:Array Field) (ds:List TypeDesc):Prop where
 hu:P.underlying kt=Z (.struct fs)
 hs:P.stoodInHeld kt=af
 hp:mc P 0 fs.toList=Z ds
variable {C:Y TypeDesc}
def Ih (h:EW P s=Z C):∃z,EG P s z C:=by
 unfold EW at h;split at h
 .rename_i z D;split at h
  .cases h
  next hst=>exact⟨z,D,by simpa using hst,h⟩
 .cases h
variable {E:Array Field}
def rD (K:EG P s E C) {A:Value} (z:Eb C L A=Z b) (w:World):(Op.equal s (.agg L.toArray) A).run P w= .ok b w:=by
 unfold Eb at z;split at z
 .rename_i ws;refine RF K.hu K.hs K.hp L.toArray ws (λj x u hx hu=>?_) (λj x u hx hu=>?_) (by simp) (by simp) z w
  .grind
  .grind
 .cases z
abbrev ale (z:Bool) (n:Nat) (cs:Array Value) (f:Field) (_:Unit):Sem (ForInStep Unit):=
 if f.name≠ "_" then do
  let a←part f.type cs f.offset
  mI z (n+1) f.type a
  pure (Jp ())
 else pure (Jp ())
def R8 (D:Bool) (n:Nat) (w:World) (cs:Array Value):∀(z:Y Field) (ds:Y TypeDesc) (k:Nat),mc P k z=Z ds->k+l! z<=cs.size->
 (forIn z () (ale D n cs)).run P w= .ok () w
 |[],ds,k,hp,_=>by simp
 |f::z,ds,k,hp,hk=>by
  simp only[mc]at hp;split at hp
  .rename_i d ds' L A;split at hp
   .rename_i hc;simp[al,bne_iff_ne,ne_eq,c4]at hc;let⟨⟨hn,hof⟩,hd⟩:=hc;simp[kn]at hk;have p1:=Mu L (by cases d<;>simp[EX]at hd<;>rfl) cs k (cs[k]'(by omega)) (by simp) w;have p2:(mI D (n+1) f.type (cs[k]'(by omega))).run P w= .ok () w:=by
     cases d<;>simp[EX]at hd<;>simp[mI,run_underlying L]
    have ih:=R8 D n w cs z ds' (k+1) A (by omega);simp_all
   .cases hp
  .cases hp
def aaj (K:EG P s E C) (A:Bool) {cs:Array Value} (L:l! E.toList<=cs.size) (w:World):(mI A 10000 s (.agg cs)).run P w= .ok () w:=by
 have key:∀n,(mI A (n+2) s (.agg cs)).run P w= .ok () w:=by
  intro n;rw[mI];have h1:=R8 (P:=P) A n w cs E.toList C 0 K.hp (by omega);rw[Array.forIn_toList]at h1;simp[fG,run_underlying K.hu,cZ];have h2:(forIn E () λf D=>ale A n cs f D).run P w= .ok () w:=h1;simp_all
 exact key 9998
def NC {m:MapEntry} {r:Y MapEntry} :jO (.struct E) v (m::r) i=U:=by
 simp[jO];have:Instr.sameNow (.struct E) v m.key=U:=by rfl
 rw[this]
def CG (K:EG P s E C) (k:Value) (ents:Y MapEntry) (w:World):(Ap s k ents).run P w=(db s k ents).run P w:=by
 cases ents with
 |nil=>simp[Ap,run_underlying K.hu,jO,db]
 |cons m r=>simp[Ap,run_underlying K.hu,NC]
def WG (K:EG P s E C) (w:World):∀(es:Y n!) (ents:Y MapEntry) (i:Nat),ents.map (·.key)=es.map (·.1)->∀r,Jv C L es=Z r->
 (r=U/\(db s (.agg L.toArray) ents i).run P w= .ok U w)\/∃(j:Nat) (v:AV) (m:MapEntry) (k':Value),r=Z v/\es[j]? =Z (k',v)/\ents[j]? =Z m/\(db s (.agg L.toArray) ents i).run P w= .ok (Z (i+j,m.val)) w
 |[],ents,i,he,r,h=>by
  cases ents with
  |nil=>simp[Jv,ah]at h;exact .inl ⟨h.symm,by simp[db]⟩
  |cons _ _=>simp at he
 |(k',v)::es,ents,i,he,r,h=>by
  cases ents with
  |nil=>simp at he
  |cons m ents=>
   simp[b9,eX]at he;let⟨z,he2⟩:=he;simp[Jv]at h;split at h
   next A=>simp[ah]at h;refine .inr ⟨0,v,m,k',h.symm,rfl,rfl,?_⟩;rw[db,z];simp[rD K A w]
   .rename_i A;rcases WG K w es ents (i+1) he2 r h with ⟨h1,h2⟩|⟨j,v',m',k'',h1,h2,h3,h4⟩
    .refine .inl ⟨h1,?_⟩;rw[db,z];simp[rD K A w,h2]
    .refine .inr ⟨j+1,v',m',k'',h1,by simpa using h2,by simpa using h3,?_⟩;rw[db,z];simp[rD K A w,h4];omega
   .cases h
def Vf (K:EG P s E C) (w:World):∀(es es':Y n!) (ents:Y MapEntry) (i:Nat),ents.map (·.key)=es.map (·.1)->YR C L y es=Z es'->
 ((db s (.agg L.toArray) ents i).run P w= .ok U w/\es'=es++[(.agg L.toArray,y)])\/∃(j:Nat) (m:MapEntry) (A:Value) (v':AV),es[j]? =Z (A,v')/\ents[j]? =Z m/\(db s (.agg L.toArray) ents i).run P w= .ok (Z (i+j,m.val)) w/\Eb C L A=Z J/\es'=es.set j (.agg L.toArray,y)
 |[],es',ents,i,he,h=>by
  cases ents with
  |nil=>simp[YR,ah]at h;exact .inl ⟨by simp[db],by simp[h]⟩
  |cons _ _=>simp at he
 |(A,v')::es,es',ents,i,he,h=>by
  cases ents with
  |nil=>simp at he
  |cons m ents=>
   simp[b9,eX]at he;let⟨z,he2⟩:=he;simp[YR]at h;split at h
   next D=>simp[ah]at h;refine .inr ⟨0,m,A,v',rfl,rfl,?_,D,by simp[h]⟩;rw[db,z];simp[rD K D w]
   .rename_i D;split at h
    .rename_i es2 hes2;simp[ah]at h;subst h;rcases Vf K w es es2 ents (i+1) he2 hes2 with ⟨h1,h2⟩|⟨j,m',k'',v'',h1,h2,h3,h4,h5⟩
     .refine .inl ⟨?_,by simp[h2]⟩;rw[db,z];simp[rD K D w,h1]
     .refine .inr ⟨j+1,m',k'',v'',by simpa using h1,by simpa using h2,?_,h4,by simp[h5]⟩;rw[db,z];simp[rD K D w,h3];omega
    .cases h
   .cases h
def Vh (K:EG P s E C) (w:World):∀(es es':Y n!) (ents:Y MapEntry) (i:Nat),ents.map (·.key)=es.map (·.1)->YS C L es=Z es'->
 ((db s (.agg L.toArray) ents i).run P w= .ok U w/\es'=es)\/∃(j:Nat) (m:MapEntry),j<l! es/\ents[j]? =Z m/\(db s (.agg L.toArray) ents i).run P w= .ok (Z (i+j,m.val)) w/\es'=es.eraseIdx j
 |[],es',ents,i,he,h=>by
  cases ents with
  |nil=>simp only[YS,ah]at h;exact .inl ⟨by simp[db],h.symm⟩
  |cons _ _=>simp at he
 |(k',v')::es,es',ents,i,he,h=>by
  cases ents with
  |nil=>simp at he
  |cons m ents=>
   simp[b9,eX]at he;let⟨z,he2⟩:=he;simp[YS]at h;split at h
   next A=>simp[ah]at h;refine .inr ⟨0,m,by simp,rfl,?_,by simp[h]⟩;rw[db,z];simp[rD K A w]
   .rename_i A;split at h
    .rename_i es2 hes2;simp[ah]at h;subst h;rcases Vh K w es es2 ents (i+1) he2 hes2 with ⟨h1,h2⟩|⟨j,m',h1,h2,h3,h5⟩
     .refine .inl ⟨?_,by simp[h2]⟩;rw[db,z];simp[rD K A w,h1]
     .refine .inr ⟨j+1,m',by simp;omega,by simpa using h2,?_,by simp[h5]⟩;rw[db,z];simp[rD K A w,h3];omega
    .cases h
   .cases h
def NK:∀{ds:Y TypeDesc} {L A:ξ},jX ds (L.map .raw) (A.map .raw)=Z J->L=A/\∀x∈L,∀n,mH n x x=J
 |[],[],[],_=>⟨rfl,λx D=>by cases D⟩
 |[],[],_::_,h|[],_::_,A,h|_::_,[],A,h|_::_,_::_,[],h=>by simp[jX]at h
 |d::ds,k::L,v::A,h=>by
  simp only[b9,jX]at h;split at h
  .rename_i z;let⟨e1,e2⟩:=NK h;have key:k=v/\∀n,mH n k k=J:=by
    cases d<;>cases k<;>cases v<;>simp only[wQ]at z<;>first|(cases z;done)|skip
    .simp only[ah,c4]at z;subst z;exact⟨rfl,λn=>by cases n<;>simp[mH]⟩
    .split at z
     next hk=>have hk:=eq_of_beq hk;simp only[ah,c4]at z;subst z hk;exact⟨rfl,λn=>by cases n<;>simp[mH]⟩
     .cases z
    .simp only[ah]at z;have:=xX.1 z;subst this;exact⟨rfl,λn=>by cases n<;>simp[mH,DC,z]⟩
   refine ⟨by rw[key.1,e1],λx D n=>?_⟩;rcases aV.1 D with rfl|D
   .exact key.2 n
   .exact e2 x D n
  .cases h
  .cases h
def aie (h:Eb C L v=Z J):v= .agg L.toArray/\mH 10000 (.agg L.toArray) (.agg L.toArray)=J:=by
 unfold Eb at h;split at h
 .rename_i z;let⟨D,e2⟩:=NK h;refine ⟨by rw[D],?_⟩;rw[mH];simp only[cr,cY,iL];rintro⟨x,y⟩ hxy;have hz:x=y/\x∈L:=by
   rw[List.mem_iff_getElem?]at hxy
   grind
  grind
 .cases h
def ZS {D:TypeId} (z:P.underlying s=Z (.pointer D)) (A:M Addr) (w:World):(Op.equal s (.pointer A) (.pointer U)).run P w= .ok A.isNone w:=by
 have key:∀d,(Op.equalIn (d+1) s (.pointer A) (.pointer U)).run P w= .ok A.isNone w:=λd=>by cases A<;>simp[Op.equalIn,run_underlying z]
 exact key 9999
def am4 {neg:Bool} {op:BinOp} {y:Operand} {t' el:TypeId} (ho:o.op= .binOp op s c y t') (hop:op=if neg then .neq else .eql) (hy:y= .const (.pointer U)) (hu:P.underlying s=Z (.pointer el)) (D:dG (.jz neg c) e h nx=Z R):gE P o e.get h.get R.eff:=by
 have key:∀(w:World) (ρ:Operand->Value) (A:M Addr),ρ c= .pointer A->ρ y= .pointer U->(execOp ρ o).run P w= .ok (.value (.bool (A.isNone !=neg))) w:=by
  intro w ρ A h1 h2;unfold execOp;rw[ho];simp[h1,h2];subst hop;cases neg<;>simp[eqGuard,binOp,ZS hu]
 have hyv:∀a:Act,a.eval y= .pointer U:=λa=>by rw[hy];rfl
 simp[dG]at D;split at D
 .rename_i id off L;rw[dy D];refine gE.reads λφ E h' w a _ hp _=>?_
  have h1:=hp c _ (by rw[ho];simp[Op.operands]) L;generalize hz:a.eval c=z at h1;cases h1 with
  |P hφ=>exact⟨_,key w a.eval _ hz (hyv a),by simpa[raw] using co.f (.raw _)⟩
 .rename_i cells off L;rw[dy D];refine gE.reads λφ E h' w a _ hp _=>?_
  have h1:=hp c _ (by rw[ho];simp[Op.operands]) L;generalize hz:a.eval c=z at h1;cases h1 with
  |f h1=>
   cases h1 with
   |P=>exact⟨_,key w a.eval _ hz (hyv a),by simpa[raw] using co.f (.raw _)⟩
 .rename_i L;rw[dy D];refine gE.reads λφ E h' w a _ hp _=>?_
  have h1:=fD (hp c _ (by rw[ho];simp[Op.operands]) L);exact⟨_,key w a.eval _ h1 (hyv a),by simpa[raw] using co.f (.raw _)⟩
 .cases D
def rG:∀{A:Y Field} {k:Nat} {ds:Y TypeDesc},mc P k A=Z ds->l! ds=l! A
 |[],k,ds,h=>by simp[mc,ah]at h;subst h;rfl
 |f::A,k,ds,h=>by
  simp[mc]at h;split at h
  .rename_i d ds' _ z;split at h
   .simp[ah]at h;subst h;rw[kn,rG z,kn]
   .cases h
  .cases h
def Zd {y:M AV} (h:y.bind (af2 C)=Z L):∃v,y=Z v/\af3 v=Z L/\l! L=l! C:=by
 cases y with
 |none=>cases h
 |some v=>
  unfold af2 at h
  grind
def aye {kt el:TypeId} {k:Operand} (ho:o.op= .lookup s c k af) (hu:P.underlying s=Z (.map kt el)) (K:EG P kt E C) (L:(P.info? el).bind (·.zero)=Z v) (A:dG (.lkq C v c k) e h nx=Z R):gE P o e.get h.get R.eff:=by
 simp[dG]at A;split at A
 .rename_i id ks hx hkx;let⟨yk,hkx,hkl,hkn⟩:=Zd hkx;split at A
  .rename_i es hid;have zrun:∀w:World,(zeroValue el).run P w= .ok v w:=λw=>by
    cases hi:P.info? el with
    |none=>rw[hi]at L;cases L
    |some i=>rw[hi]at L;simp[aF]at L;simp[zeroValue,typeInfo,hi,L]
   have main:∀r,Jv C ks es=Z r->∀(φ:PM) (fs:Nat->Prop) (h':HF) (w:World) (a:Act),h' id=Z ⟨0,.mp es⟩->Yz φ fs h' w a e o->sC φ fs h' w->
    ∃z,(execOp a.eval o).run P w= .ok (.value z) w/\co φ (tot fs φ h') w (match r with|some z=>z|none=>raw v) z:=by
    intro r hr φ fs h' w a hb' hp hrep;have hrx:=hp c _ (by rw[ho];simp[Op.operands]) hx;have hrk:=MY hkl (hp k _ (by rw[ho];simp[Op.operands]) hkx);generalize D:a.eval c=zz at hrx;cases hrx with
    |@mp _ b hφ=>
     let⟨k',q1,_,ob,q2,q3⟩:=hrep.at_ id _ hb';rw[hφ]at q1;cases q1;obtain⟨ents,clock,rfl,q4,q5⟩:=q3;have hlen:l! E.toList<=ks.toArray.size:=by have:=rG K.hp;simp only[Dc];omega
     have hck:=aaj K ents.isEmpty hlen w;have hfk:=CG (P:=P) K (.agg ks.toArray) ents.toList w;rcases WG K w es ents.toList 0 q4 r hr with ⟨h1,h2⟩|⟨j,z,m,k',h1,h2,h3,h4⟩
     .subst h1;rw[h2]at hfk;refine ⟨_,?_,.f (.raw v)⟩;unfold execOp;rw[ho];simp[Instr.lookup,run_underlying hu,D,hrk,getObj,kV,q2,hck,hfk,zrun]
     .subst h1;rw[h4]at hfk;let⟨_,h6,h7⟩:=q5 j _ h2;obtain⟨m',h6,rfl⟩:=h6;rw[dc]at h3;rw[h3]at h6;cases h6;refine ⟨_,?_,h7⟩;unfold execOp;rw[ho];simp[Instr.lookup,run_underlying hu,D,hrk,getObj,kV,q2,hck,hfk]
   split at A
   next z hf=>simp[ah]at A;subst A;exact gE.reads λφ fs h' w a hrd hp hrep=>main _ hf φ fs h' w a (by grind) hp hrep
   next hf=>simp[ah]at A;subst A;exact gE.reads λφ fs h' w a hrd hp hrep=>main _ hf φ fs h' w a (by grind) hp hrep
   .cases A
  .cases A
 .cases A
def ay9 {kt el:TypeId} {k y:Operand} (ho:o.op= .mapUpdate s c k y) (hu:P.underlying s=Z (.map kt el)) (K:EG P kt E C) (z:dG (.mpq C c k y) e h nx=Z R):gE P o e.get h.get R.eff:=by
 simp only[dG]at z;split at z
 .rename_i id A v L hkx hy;let⟨yk,hkx,hkl,hkn⟩:=Zd hkx;split at z
  .rename_i es hid;split at z
   .rename_i es' hput;cases z;refine gE.writes hid λφ fs h' w a hrd hb' hp hrep=>?_
    have hrx:=hp c _ (by rw[ho];simp[Op.operands]) L;have hrk:=MY hkl (hp k _ (by rw[ho];simp[Op.operands]) hkx);have hry:=hp y _ (by rw[ho];simp[Op.operands]) hy;generalize D:a.eval c=zz at hrx;cases hrx with
    |@mp _ b hφ=>
     let⟨k',q1,_,ob,q2,q3⟩:=hrep.at_ id _ hb';rw[hφ]at q1;cases q1;obtain⟨ents,clock,rfl,q4,q5⟩:=q3;have q4:ents.toList.map (·.key)=es.map (·.1):=by unfold MpK at q4;exact q4
     have q5:∀(j:Nat) c,es[j]? =Z c->∃m,ents[j]? =Z m/\co φ (tot fs φ h') w c.2 m.val:=λj c L=>by
      let⟨_,g1,g2⟩:=q5 j c L;unfold MpV at g1
      grind
     have JE:∀(es:Y n!) (ents:Array MapEntry) (clock:Nat),ents.toList.map (·.key)=es.map (·.1)->(∀(j:Nat) c,es[j]? =Z c->∃m,ents[j]? =Z m/\co φ (tot fs φ h') w c.2 m.val)->im φ (tot fs φ h') w ⟨0,.mp es⟩ (.map ents clock):=λes ents clock g1 g2=>⟨ents,clock,rfl,by unfold MpK;exact g1,λj c L=>by
      let⟨m,g3,g4⟩:=g2 j c L;exact⟨_,by unfold MpV;exact⟨m,g3,rfl⟩,g4⟩⟩
     have hck:=aaj K af (cs:=A.toArray) (by have:=rG K.hp;simp only[Dc];omega) w;have hfk:=CG (P:=P) K (.agg A.toArray) ents.toList w;have hlen:ents.size=l! es:=by have:=eR aj q4;simpa using this
     rcases Vf K w es es' ents.toList 0 q4 hput with ⟨h1,rfl⟩|⟨j,m,k',v',h1,h2,h3,h4,rfl⟩
     .rw[h1]at hfk;refine ⟨.skip,_,b,.map (ents.push {key:=.agg A.toArray,val:=a.eval y,born:=clock}) (clock+1),?_,hφ,vT q2 (by simp) (by simp),JE _ _ _ (by simp[q4]) λj q hq=>?_,undef,.inr ⟨rfl,rfl⟩,.f (.raw _)⟩
      .unfold execOp;rw[ho];simp[Instr.mapUpdate,run_underlying hu,D,hrk,getObj,kV,q2,hck,hfk,setObj]
      .rcases cF j (l! es) with hj|hj
       .grind
       .rw[b_ hj]at hq;have hj0:j-l! es=0:=by grind
        rw[hj0]at hq;simp at hq;subst hq;exact⟨_,by rw[Array.getElem?_push,aD (by omega)],hry⟩
     .obtain⟨s2,s1⟩:=aie h4;subst s2;rw[h3]at hfk;rw[dc]at h2;rw[bX]at hfk;have hjl:j<ents.size:=(dE.1 h2).1;have hmk:m.key= .agg A.toArray:=by
       have e1:(ents.toList.map (·.key))[j]? =Z m.key:=by grind
       grind
      refine ⟨.skip,_,b,.map (ents.modify j λe=>{e with key:=.agg A.toArray,val:=a.eval y}) clock,?_,hφ,vT q2 (by simp) (by simp),JE _ _ _ ?_ λi q hq=>?_,undef,.inr ⟨rfl,rfl⟩,.f (.raw _)⟩
      .unfold execOp;rw[ho];simp[Instr.mapUpdate,run_underlying hu,D,hrk,getObj,kV,q2,hck,hfk,setObj,h2,hmk,Instr.keyThatStays,s1]
      .apply Sn;intro i;simp only[bB,dc,ep,Array.getElem?_modify];have e2:∀i:Nat,(ents[i]?).map (λm:MapEntry=>m.key)=(es[i]?).map (λp:Value×AV=>p.1):=λi=>by
        have:=eR (λl=>l[i]?) q4
        grind
       grind
      .grind
   .cases z
  .cases z
 .cases z
def IV {α β:Type} (f:α->β):∀(l:Y α) (j:Nat),(l.map f).eraseIdx j=(l.eraseIdx j).map f
 |[],_|_::_,0=>rfl
 |x::r,j+1=>by simp[b9,List.eraseIdx_cons_succ,IV f r j]
def ayk {t2 kt el:TypeId} {k:Operand} (ho:o.op= .call {callee:=.builtin .delete,args:=#[c,k],argTypes:=#[s,t2]}) (hu:P.underlying s=Z (.map kt el)) (K:EG P kt E C) (z:dG (.dlq C c k) e h nx=Z R):gE P o e.get h.get R.eff:=by
 simp[dG]at z;split at z
 .rename_i id ks D hkx;let⟨yk,hkx,hkl,hkn⟩:=Zd hkx;split at z
  .rename_i es hid;split at z
   .rename_i es' hput;cases z;refine gE.writes hid λφ fs h' w a hrd hb' hp hrep=>?_
    have hrx:=hp c _ (by rw[ho];simp[Op.operands,dI]) D;have hrk:=MY hkl (hp k _ (by rw[ho];simp[Op.operands,dI]) hkx);generalize A:a.eval c=zz at hrx;cases hrx with
    |@mp _ b hφ=>
     let⟨k',q1,_,ob,L,q3⟩:=hrep.at_ id _ hb';rw[hφ]at q1;cases q1;obtain⟨ents,clock,rfl,q4,q5⟩:=q3;have q5:∀(j:Nat) c,es[j]? =Z c->∃m,ents[j]? =Z m/\co φ (tot fs φ h') w c.2 m.val:=λj c D=>by
      let⟨_,g1,g2⟩:=q5 j c D;unfold MpV at g1
      grind
     have JE:∀(es:Y n!) (ents:Array MapEntry) (clock:Nat),ents.toList.map (·.key)=es.map (·.1)->(∀(j:Nat) c,es[j]? =Z c->∃m,ents[j]? =Z m/\co φ (tot fs φ h') w c.2 m.val)->im φ (tot fs φ h') w ⟨0,.mp es⟩ (.map ents clock):=λes ents clock g1 g2=>⟨ents,clock,rfl,by unfold MpK;exact g1,λj c D=>by
      let⟨m,g3,g4⟩:=g2 j c D;exact⟨_,by unfold MpV;exact⟨m,g3,rfl⟩,g4⟩⟩
     have hck:=aaj K ents.isEmpty (cs:=ks.toArray) (by have:=rG K.hp;simp only[Dc];omega) w;have hfk:=CG (P:=P) K (.agg ks.toArray) ents.toList w;rcases Vh K w es es' ents.toList 0 q4 hput with ⟨h1,rfl⟩|⟨j,m,h1,h2,h3,rfl⟩
     .rw[h1]at hfk;refine ⟨.value (.tuple #[]),_,b,.map ents clock,?_,hφ,vT L (by simp) (by simp),JE _ _ _ q4 q5,_,.inl rfl,co.qb (vs:=[]) rfl (by simp)⟩;unfold execOp;rw[ho];simp[resolve,invoke,builtin,Builtin.delete_,run_underlying hu,A,hrk,getObj,kV,L,hck,hfk,setObj]
     .rw[h3]at hfk;have hel:(ents.eraseIdxIfInBounds j).toList=ents.toList.eraseIdx j:=by simp_all
      refine ⟨.value (.tuple #[]),_,b,.map (ents.eraseIdxIfInBounds j) clock,?_,hφ,vT L (by simp) (by simp),JE _ _ _ ?_ λi q hq=>?_,_,.inl rfl,co.qb (vs:=[]) rfl (by simp)⟩
      .unfold execOp;rw[ho];simp[resolve,invoke,builtin,Builtin.delete_,run_underlying hu,A,hrk,getObj,kV,L,hck,hfk,setObj]
      .rw[hel,<-IV,q4,IV]
      .grind
   .cases z
  .cases z
 .cases z
end
def bind_some {β:Type} {x:M R} {f:R->M β} {y:β} (h:x.bind f=Z y):∃a,x=Z a/\f a=Z y:=by
 cases x with
 |none=>cases h
 |some a=>exact⟨a,rfl,h⟩
def map_some {β:Type} {x:M R} {f:R->β} {y:β} (h:x.map f=Z y):∃a,x=Z a/\f a=y:=by simp_all
def mw {x:M R} {y:R} (h:(if b then x else U)=Z y):b=J/\x=Z y:=by grind
def MA {o:Oper} {e:EH} {h:nz} {s:UU} {R:DF} (A:cP T o.op=Z s) (L:dG s e h i=Z R):gE T o e.get h.get R.eff:=by
 unfold cP at A;split at A
 next x D=>cases A;exact ay8 (.inl D) L
 next x D=>cases A;exact ay8 (.inr D) L
 next c a b D=>cases A;exact aun D L
 next t D=>let⟨z,h1,A⟩:=bind_some A;let⟨h2,A⟩:=mw A;cases A;exact aqc D h1 h2 L
 next t x D=>cases A;exact ayn D L
 .rename_i t ps D;split at A
  next fs hu=>let⟨z,h1,A⟩:=bind_some A;let⟨h2,A⟩:=mw A;obtain⟨ps',h3,rfl⟩:=map_some A;simp only[al]at h2;exact ae7 D h1 h2.1 h3 (.inl ⟨fs,hu,h2.2⟩) L
  next n el hu=>let⟨z,h1,A⟩:=bind_some A;let⟨h2,A⟩:=mw A;obtain⟨ps',h3,rfl⟩:=map_some A;simp only[al]at h2;let⟨sz,h4⟩:=jN.1 h2.2;exact ae7 D h1 h2.1 h3 (.inr ⟨n,el,sz,hu,h4⟩) L
  .cases A
 next t n ps D=>let⟨el,h1,A⟩:=bind_some A;let⟨z,h2,A⟩:=bind_some A;let⟨sz,h3,A⟩:=bind_some A;let⟨h4,A⟩:=mw A;obtain⟨ps',h5,rfl⟩:=map_some A;simp only[al,c4,bne_iff_ne]at h4;exact aym D (uz h1) h2 h3 h4.1.1.1 h4.1.1.2 h4.2 (aU h4.1.2) h5 L
 next t x D=>let⟨sz,h1,A⟩:=bind_some A;obtain⟨ag,h2,rfl⟩:=map_some A;exact auq D h1 h2 L
 next t x v D=>obtain⟨sz,h1,rfl⟩:=map_some A;exact aqb D h1 L
 next x D=>cases A;exact auo D L
 .rename_i op t x y t' D;split at A
  .cases A;exact asl D L
  .cases A;exact asl D L
  .rename_i hu;split at A
   .cases A;exact ask (neg:=af) D rfl hu L
   .cases A;exact ask (neg:=J) D rfl hu L
   .cases A
  .rename_i el hu;split at A
   .cases A;exact ae6 (neg:=af) D rfl rfl hu L
   .cases A;exact ae6 (neg:=J) D rfl rfl hu L
   .cases A
  .rename_i el hu;split at A
   .cases A;exact am4 (neg:=af) D rfl rfl hu L
   .cases A;exact am4 (neg:=J) D rfl rfl hu L
   .cases A
  .rename_i fs hu;let⟨ds,h1,A⟩:=bind_some A;unfold EW at h1;rw[hu]at h1;simp only[]at h1;split at h1
   .cases h1
   .rename_i hst;have hst:T.stoodInHeld t=af:=by simpa using hst
    split at A
    .cases A;exact asj (neg:=af) D rfl hu hst h1 L
    .cases A;exact asj (neg:=J) D rfl hu hst h1 L
    .cases A
  .cases A
 next t x D=>cases A;exact ay6 D L
 .rename_i t x D;split at A
  .cases A;exact ay7 D L
  .cases A
 .rename_i s' d x D;split at A
  next k k' h1 h2=>cases A;exact auw D h1 h2 L
  .cases A
 next t l c D=>let⟨el,h1,A⟩:=bind_some A;let⟨z,h2,A⟩:=bind_some A;let⟨sz,h3,A⟩:=bind_some A;let⟨b,h5,A⟩:=bind_some A;let⟨h4,A⟩:=mw A;simp only[al,c4,bne_iff_ne]at h4;cases A;exact aup D (uz h1) h2 h3 h5 h4.1.1 h4.1.2 h4.2 L
 next t x lo hi mx D=>let⟨el,h1,A⟩:=bind_some A;obtain⟨sz,h2,rfl⟩:=map_some A;exact ay2 D (uz h1) h2 L
 .rename_i t x k D;split at A
  next fs hu=>let⟨f,h1,A⟩:=bind_some A;let⟨sz,h2,A⟩:=bind_some A;let⟨h3,A⟩:=mw A;cases A;exact ayi D hu h1 h2 (by simpa using h3) L
  .cases A
 .rename_i t x k D;split at A
  next fs hu=>let⟨f,h1,A⟩:=bind_some A;let⟨sz,h2,A⟩:=bind_some A;obtain⟨ag,h3,rfl⟩:=map_some A;exact ayh D hu h1 h2 h3 L
  .cases A
 .rename_i t x nx D;split at A
  next el hu=>obtain⟨sz,h1,rfl⟩:=map_some A;exact ayg D hu h1 L
  next n el hu=>obtain⟨sz,h1,rfl⟩:=map_some A;exact auu D hu h1 L
  .cases A
 .rename_i t x nx D;split at A
  next n el hu=>let⟨sz,h1,A⟩:=bind_some A;obtain⟨ag,h2,rfl⟩:=map_some A;exact ayf D hu h1 h2 L
  next hu=>cases A;exact aum D hu L
  .cases A
 next x nx D=>cases A;exact ayj D L
 .rename_i f first caps D
  let⟨h1,A⟩:=mw A;cases A;have h2:first=#[]:=by simpa using h1
  subst h2;exact ayb D L
 .rename_i t D;split at A
  .cases A;exact aya D L
  .cases A
 .rename_i t x k ok D;split at A
  .rename_i kt el hu;split at A
   next q z h1 h2=>let⟨h3,A⟩:=mw A;cases A;exact asi (str:=af) D hu h1 ⟨q,rfl⟩ h2 L
   next z h1 h2=>let⟨h3,A⟩:=mw A;cases A;exact asi (str:=J) D hu h1 rfl h2 L
   next fs z h1 h2=>let⟨h3,A⟩:=mw A;simp only[al,ca]at h3;obtain⟨ds,h4,rfl⟩:=map_some A;let⟨fs',K⟩:=Ih h4;rw[h3.2]at D;exact aye D hu K h2 L
   .cases A
  .cases A
 .rename_i t m k v D;split at A
  .rename_i kt el hu;split at A
   next q h1=>cases A;exact ash (str:=af) D hu h1 ⟨q,rfl⟩ L
   next h1=>cases A;exact ash (str:=J) D hu h1 rfl L
   .obtain⟨ds,h4,rfl⟩:=map_some A;let⟨fs',K⟩:=Ih h4;exact ay9 D hu K L
   .cases A
  .cases A
 .rename_i t x D;split at A
  next hu=>cases A;exact ay3 D hu L
  .cases A
 next x D=>cases A;exact ay5 D L
 .rename_i c D;let⟨callee,args,argTypes⟩:=c;have arr:∀{α:Type} {x:Array α} {l:Y α},x.toList=l->x=l.toArray:=λh=>by rw[<- h]
  unfold XU at A;simp only[]at A;split at A
  .split at A
   .rename_i x t h1 h2;rw[arr h1,arr h2]at D;split at A
    next el hu=>cases A;exact aut D hu L
    next hu=>cases A;exact aus D hu L
    next k v hu=>cases A;exact aur D hu L
    .cases A
   .cases A
  .split at A
   next x y h1=>rw[arr h1]at D;cases A;exact ayd D L
   .cases A
  .split at A
   next x y h1=>rw[arr h1]at D;cases A;exact ayc D L
   .cases A
  .split at A
   .rename_i d x t u h1 h2;rw[arr h1,arr h2]at D;split at A
    next el el' h1 h2=>let⟨sz,h3,A⟩:=bind_some A;let⟨h4,A⟩:=mw A;cases A;exact auv D (uz h1) (uz h2) h3 L
    .cases A
   .cases A
  .split at A
   .rename_i m k t t2 h1 h2;rw[arr h1,arr h2]at D;split at A
    next kt el hu=>obtain⟨ds,h4,rfl⟩:=map_some A;let⟨fs',K⟩:=Ih h4;exact ayk D hu K L
    .cases A
   .cases A
  .split at A
   next x t h1 h2=>rw[arr h1,arr h2]at D;let⟨el,h3,A⟩:=bind_some A;let⟨z,h4,A⟩:=bind_some A;let⟨sz,h5,A⟩:=bind_some A;let⟨h6,A⟩:=mw A;simp only[al,c4,bne_iff_ne,ne_eq]at h6;cases A;exact ayl D (uz h3) h4 h6.1.1 h6.1.2 h6.2 L
   .cases A
  .split at A
   .rename_i s' x t u h1 h2;rw[arr h1,arr h2]at D;split at A
    next el el' h1 h2=>let⟨sz,h3,A⟩:=bind_some A;let⟨b,h4,A⟩:=bind_some A;let⟨z,h5,A⟩:=bind_some A;let⟨h6,A⟩:=mw A;simp only[al,c4,bne_iff_ne]at h6;cases A;exact ayo D (uz h1) (uz h2) h3 h4 h5 h6.2 h6.1 L
    .cases A
   .cases A
  .cases A
 .cases A
def nJ :∀{l:Y AV},AV.allL p l=J->∀x∈l,AV.all p x=J
 |[],_,x,z=>by cases z
 |y::l,h,x,z=>by
  simp[AV.allL,al]at h;rcases aV.1 z with rfl|z
  .exact h.1
  .exact nJ h.2 x z
def co.restrict {φ':PM} {O':Nat->Prop} (hs:∀i k,p i=J->V i=Z k->φ' i=Z k) (ho:∀k,O' k->O k) (h:co V O w y v):y.all p=J->co φ' O' w y v:=by
 induction h with
 |f h=>intro _;exact .f (h.ext (O':=O') (H4.refl O w) λk _ hk=>ho k hk)
 |P h=>intro hp;exact .P (hs _ _ hp h)
 |sl h hn hc=>intro hp;exact .sl (hs _ _ hp h) hn hc
 |I h hn hc hsh=>intro hp;exact .I (hs _ _ hp h) hn hc hsh
 |emp=>intro _;exact .emp
 |qw=>intro _;exact .qw
 |qc h=>intro _;exact .qc (h.ext (O':=O') (H4.refl O w) λk _ hk=>ho k hk)
 |mp h=>intro hp;exact .mp (hs _ _ hp h)
 |agg L hcl hr A=>intro hp;exact .agg L hcl λj y v z D=>A j y v z D (nJ hp y (a8 z))
 |qb L hr A=>intro hp;exact .qb L λj y v z D=>A j y v z D (nJ hp y (a8 z))
 |qy L hr A=>intro hp;exact .qy L λj y v z D=>A j y v z D (nJ hp y (a8 z))
def im.restrict {φ':PM} {O':Nat->Prop} {w':World} (hk:∀x v,x.all p=J->co V O w x v->co φ' O' w' x v) {o:Obj} (hb:N.c.all p=J) (h:im V O w N o):im φ' O' w' N o:=by
 unfold im at h ⊢;cases L:N.c with
 |fz l=>
  rw[L]at h;let⟨arr,h1,D,A⟩:=h;exact⟨arr,h1,D,λj x z=>by
   let⟨a,v,c,d⟩:=A j x z;refine ⟨a,v,c,hk _ _ ?_ d⟩;simp only[BC.get]at z;cases hl:l[j]? with
   |none=>rw[hl]at z;cases z
   |some q=>rw[hl]at z;simp at z;subst z;rfl⟩
 |mx l=>
  rw[L]at h hb;let⟨arr,h1,D,A⟩:=h;exact⟨arr,h1,D,λj x z=>by
   let⟨a,v,c,d⟩:=A j x z;exact⟨a,v,c,hk _ _ (nJ hb x (a8 z)) d⟩⟩
 |mp es=>
  rw[L]at h hb;let⟨e,c,h1,D,A⟩:=h;exact⟨e,c,h1,D,λj x z=>by
   let⟨m,a,N⟩:=A j x z;exact⟨m,a,hk _ _ (nJ hb x.2 (cz.2 ⟨x,a8 z,rfl⟩)) N⟩⟩
 |it s q=>rw[L]at h;exact h
def alq (m:Nat):ι:=(eA (m+1)).filter λi=>aL m i
def Rr :i∈alq j↔aL j i=J:=by
 unfold alq;rw[List.mem_filter,oR];constructor
 .exact λh=>h.2
 .intro h;refine ⟨?_,h⟩;have h1:=Nat.ge_two_pow_of_testBit h;have z:=Nat.lt_two_pow_self (n:=i);omega
def lY (φ:PM) (O:Nat->Prop) (w:World):Y AV->ξ->Prop
 |[],[]=>True
 |x::xs,v::vs=>co φ O w x v/\lY φ O w xs vs
 |_,_=>False
def lY.length :∀{args:Y AV} {vs:ξ},lY V O w args vs->l! vs=l! args
 |[],[],_=>rfl
 |[],_::_,h|_::_,[],h=>h.elim
 |_::_,_::_,h=>by simp[lY.length h.2]
def lY.mono {φ':PM} {O':Nat->Prop} {w':World} (z:∀x v,x.all p=J->co V O w x v->co φ' O' w' x v):∀{args:Y AV} {vs:ξ},AV.allL p args=J->lY V O w args vs->lY φ' O' w' args vs
 |[],[],_,_=>trivial
 |[],_::_,_,h|_::_,[],_,h=>h.elim
 |x::xs,_::_,hp,h=>by
  simp[AV.allL,al]at hp;exact⟨z _ _ hp.1 h.1,lY.mono z hp.2 h.2⟩
def lY.append :∀{xs z:Y AV} {vs A:ξ},lY V O w xs vs->lY V O w z A->lY V O w (xs++z) (vs++A)
 |[],_,[],_,_,h=>h
 |[],_,_::_,_,h,_|_::_,_,[],_,h,_=>h.elim
 |_::_,_,_::_,_,h,h'=>⟨h.1,lY.append h.2 h'⟩
def lY.of :∀{xs:Y AV} {vs:ξ},l! vs=l! xs->(∀(j:Nat) x v,xs[j]? =Z x->vs[j]? =Z v->co V O w x v)->lY V O w xs vs
 |[],[],_,_=>trivial
 |[],_::_,h,_|_::_,[],h,_=>by simp at h
 |x::xs,v::vs,D,h=>⟨h 0 x v rfl rfl,lY.of (by grind) λj x v z A=>h (j+1) x v (by grind) (by grind)⟩
def HW (P:Program) (f:FuncId):Prop:=∃fn,P.funcs[f]? =Z fn∧fn.body.isNone=af∧(fn.name== "runtime.NumGoroutine")=af
def ZQ {e:EH} {o:Oper} (hp:Yz V O S w z e o):∀(xs:Y Operand) (a:Y AV),(∀x∈xs,x∈o.op.operands)->evs e xs=Z a->lY V (tot O V S) w a (xs.map z.eval)
 |[],a,_,h=>by simp[evs,ah]at h;subst h;trivial
 |x::xs,a,hm,h=>by
  simp[evs]at h;split at h
  .rename_i y A;split at h
   next ys' hys=>simp[ah]at h;subst h;exact⟨hp x y (hm x (cX ..)) A,ZQ hp xs ys' (λx D=>hm x (bS _ D)) hys⟩
   .cases h
  .cases h
variable {f:FuncId}
def Au (D:HW T f) (args:Array Value) (w:World):(callFunc f args).run T w= .ok (.enter f args) w:=by
 let⟨fn,h1,h2,L⟩:=D;have z:fn.name≠ "runtime.NumGoroutine" :=by grind
 have A:fn.body≠U:=by grind
 simp[callFunc,program,kV,h1,A,z]
def ad3:∀(z:Y FPm) (i:Nat),afr z i=z[i]?
 |[],i=>by simp[afr]
 |f::z,0=>rfl
 |f::z,i+1=>by simp[afr,ad3 z i]
def Bh (h:Kv i j=J) (a:Nat) (z:aL i a=J):aL j a=af:=by
 have h0:i&&&j=0:=au h;have:=Nat.testBit_and i j a
 grind
structure Ctx where
 n0:Nat
 φ:PM
 E:Nat->Prop
 h:HF
 w:World
def Yr (P:Program) (d:Deferred):Prop:=∀w:World,∃A cap f args,d.target= .fn A cap/\(invoke d.target d.args).run P w= .ok (.enter f args) w/\
 CallsD P f args .returning w λe z w'=>(∃v,e= .returned v)/\z= .returning/\w'=w
structure Cfg (P:Program) (C:Ctx) (nt:Nat) (s:IS) (a:Act) (w:World):Prop where
 ex:∃φ,kj C.φ φ C.h s.h.get C.w w/\sC φ C.E s.h.get w/\Sh φ (tot C.E φ s.h.get) w s.e.get a/\(∀i k,φ i=Z k->i<s.nx)/\∀i k,φ i=Z k->C.φ i=Z k\/C.n0<=i
 low:C.n0<=s.nx
 inert:∀d∈a.defers,Yr P d
 size:a.tmps.size=nt
def Cfg.bool {C:Ctx} {s:IS} (c:Cfg T C i s z w) (ht:s.e.get j=Z (.f (.raw (.bool b)))):z.eval (.tmp j)= .bool b:=by
 let⟨φ,_,_,en,_,_⟩:=c.ex;exact fD (en j _ ht)
def FJ {c:Code} (I:Nat->Act->World->Prop) (round:∀n z w,I n z w->c.wp T (Exit.then (λa w'=>∃m,m<n/\I m a w') d) z w) {n:Nat} (h0:I n z w):(Code.loop c).wp T d z w:=by
 have least:∀(n:Nat) (z:Act) (w:World),I n z w->∃m,I m z w/\∀k,I k z w->m<=k:=by
  intro n;induction n using Nat.strongRecOn with
  |_ n D=>grind
 have pick:∀z w,∃m,(∃n,I n z w)->I m z w/\∀k,I k z w->m<=k:=λz w=>by
  by_cases L:∃n,I n z w
  .grind
  .simp_all
 let μ:Act->World->Nat:=λz w=>Classical.choose (pick z w)
 have hμ:∀z w,(∃n,I n z w)->I (μ z w) z w/\∀k,I k z w->μ z w<=k:=λz w=>Classical.choose_spec (pick z w)
 refine wp_loop (λz w=>∃n,I n z w) μ ⟨n,h0⟩ λz w A=>?_
 refine wp_mono (round (μ z w) z w (hμ z w A).1) λe a w' he=>?_
 cases e with
 |normal=>grind
 |_=>exact he
def Ex.to:Ex->Exit
 |.normal=>.normal
 |.exit id=>.exit id
 |.ret=>.ret
def Pr (P:Program) (inert:FuncId->Bool):Prop:=∀f,inert f=J->HW P f/\∀(args:Array Value) (w:World),CallsD P f args .returning w λe z w'=>(∃v,e= .returned v)/\z= .returning/\w'=w
def ail (tmps:Array Value):ResultVar->Sem Value
 |.tmp t=>pure (tmps.getD t undef)
 |.cell a t=>do
  let ad<-asAddr (tmps.getD a undef)
  loadVar t ad
def YW (fn:Func) (tmps:Array Value):results fn tmps=(do let vs<-fn.results.mapM (ail tmps);pure (if h:vs.size=1 then vs[0] else .tuple vs)):=by
 congr 2
def Gn {P:Program} {fn:Func} {tmps:Array Value} {R:Ending->World->Prop} {w:World} {v:Value} (z:(results fn tmps).run P w= .ok v w) (A:R (.returned v) w):∀(ds:Y Deferred),(∀d∈ds,Yr P d)->Leaves P fn tmps R ds .returning w
 |[],_=>⟨v,z,A⟩
 |d::ds,h=>by
  let⟨fv,cap,f,args,h1,L,D⟩:=h d (cX ..) w;refine ⟨by simp,fv,cap,f,args,h1,L,D.mono ?_⟩;rintro e u' w' ⟨⟨v',rfl⟩,rfl,rfl⟩;exact Gn z A ds λd hd=>h d (bS _ hd)
def lY.get :∀{xs:Y AV} {vs:ξ},lY V O w xs vs->∀(j:Nat) x,xs[j]? =Z x->∃v,vs[j]? =Z v/\co V O w x v
 |[],_,_,j,x,z=>by simp at z
 |_::_,[],h,_,_,_=>h.elim
 |y::xs,u::vs,h,j,x,z=>by
  cases j with
  |zero=>simp at z;subst z;exact⟨u,rfl,h.1⟩
  |succ j=>exact lY.get h.2 j x (by grind)
def XT {z:SF} (h:C4 T f=Z z):∃fn c,T.funcs[f]? =Z fn∧fn.body=Z c∧(fn.name== "runtime.NumGoroutine")=af∧z.code=cC T fn.ntmps c∧xV T fn.results.toList=Z z.res∧z.nt=fn.ntmps:=by
 unfold C4 at h
 grind
def apz {b:Value} (h:aud v b=J):v=b:=by
 unfold aud at h;split at h
 .simp at h;rw[h]
 .grind
 .rw[xX.1 h]
 .simp_all
 .rfl
 .grind
 .cases h
end
end Go.Proofs.YtpjhicegjenpeaaGreatDoor.AI
