/-
  Texts of the proof, part 1 of 6: what is used to prove the statement. No condition.
-/
import Derived.WalkKit
import Derived.Lib.Hide
import Derived.Deep.QuietTactic
import Derived.WalkSpells
import Derived.Laws.CopyRow
import Derived.Deep.AppendSrc
import Derived.Laws.AppendOwn
import Derived.Defers
namespace Prod
variable {A0 A1 A2 A3 A4 A5 A6 A7 A8 A9 A10 A11 A12 A13 A14 A15 A16 A17 A18 A19 A20 A21 A22 A23 A24:Type}
abbrev a (x:A0×A1×A2×A3):A2:=x.2.2.1
abbrev b (x:A0×A1×A2×A3×A4):A3:=x.2.2.2.1
abbrev d (x:A0×A1×A2×A3):A3:=x.2.2.2
abbrev c (x:A0×A1×A2×A3×A4×A5):A4:=x.2.2.2.2.1
abbrev g (x:A0×A1×A2×A3×A4):A4:=x.2.2.2.2
abbrev e (x:A0×A1×A2×A3×A4×A5×A6):A5:=x.2.2.2.2.2.1
abbrev h (x:A0×A1×A2×A3×A4×A5):A5:=x.2.2.2.2.2
abbrev f (x:A0×A1×A2×A3×A4×A5×A6×A7):A6:=x.2.2.2.2.2.2.1
abbrev j (x:A0×A1×A2×A3×A4×A5×A6):A6:=x.2.2.2.2.2.2
abbrev i (x:A0×A1×A2×A3×A4×A5×A6×A7×A8):A7:=x.2.2.2.2.2.2.2.1
abbrev n (x:A0×A1×A2×A3×A4×A5×A6×A7):A7:=x.2.2.2.2.2.2.2
abbrev k (x:A0×A1×A2×A3×A4×A5×A6×A7×A8×A9):A8:=x.2.2.2.2.2.2.2.2.1
abbrev o (x:A0×A1×A2×A3×A4×A5×A6×A7×A8):A8:=x.2.2.2.2.2.2.2.2
abbrev l (x:A0×A1×A2×A3×A4×A5×A6×A7×A8×A9×A10):A9:=x.2.2.2.2.2.2.2.2.2.1
abbrev v (x:A0×A1×A2×A3×A4×A5×A6×A7×A8×A9):A9:=x.2.2.2.2.2.2.2.2.2
abbrev m (x:A0×A1×A2×A3×A4×A5×A6×A7×A8×A9×A10×A11):A10:=x.2.2.2.2.2.2.2.2.2.2.1
abbrev p (x:A0×A1×A2×A3×A4×A5×A6×A7×A8×A9×A10):A10:=x.2.2.2.2.2.2.2.2.2.2
abbrev s (x:A0×A1×A2×A3×A4×A5×A6×A7×A8×A9×A10×A11×A12):A11:=x.2.2.2.2.2.2.2.2.2.2.2.1
abbrev q (x:A0×A1×A2×A3×A4×A5×A6×A7×A8×A9×A10×A11):A11:=x.2.2.2.2.2.2.2.2.2.2.2
abbrev r (x:A0×A1×A2×A3×A4×A5×A6×A7×A8×A9×A10×A11×A12×A13):A12:=x.2.2.2.2.2.2.2.2.2.2.2.2.1
abbrev t (x:A0×A1×A2×A3×A4×A5×A6×A7×A8×A9×A10×A11×A12):A12:=x.2.2.2.2.2.2.2.2.2.2.2.2
abbrev y (x:A0×A1×A2×A3×A4×A5×A6×A7×A8×A9×A10×A11×A12×A13×A14):A13:=x.2.2.2.2.2.2.2.2.2.2.2.2.2.1
abbrev D (x:A0×A1×A2×A3×A4×A5×A6×A7×A8×A9×A10×A11×A12×A13):A13:=x.2.2.2.2.2.2.2.2.2.2.2.2.2
abbrev u (x:A0×A1×A2×A3×A4×A5×A6×A7×A8×A9×A10×A11×A12×A13×A14×A15):A14:=x.2.2.2.2.2.2.2.2.2.2.2.2.2.2.1
abbrev w (x:A0×A1×A2×A3×A4×A5×A6×A7×A8×A9×A10×A11×A12×A13×A14×A15×A16):A15:=x.2.2.2.2.2.2.2.2.2.2.2.2.2.2.2.1
abbrev z (x:A0×A1×A2×A3×A4×A5×A6×A7×A8×A9×A10×A11×A12×A13×A14×A15×A16×A17):A16:=x.2.2.2.2.2.2.2.2.2.2.2.2.2.2.2.2.1
abbrev F (x:A0×A1×A2×A3×A4×A5×A6×A7×A8×A9×A10×A11×A12×A13×A14×A15×A16):A16:=x.2.2.2.2.2.2.2.2.2.2.2.2.2.2.2.2
abbrev B (x:A0×A1×A2×A3×A4×A5×A6×A7×A8×A9×A10×A11×A12×A13×A14×A15×A16×A17×A18):A17:=x.2.2.2.2.2.2.2.2.2.2.2.2.2.2.2.2.2.1
abbrev E (x:A0×A1×A2×A3×A4×A5×A6×A7×A8×A9×A10×A11×A12×A13×A14×A15×A16×A17):A17:=x.2.2.2.2.2.2.2.2.2.2.2.2.2.2.2.2.2
abbrev G (x:A0×A1×A2×A3×A4×A5×A6×A7×A8×A9×A10×A11×A12×A13×A14×A15×A16×A17×A18×A19):A18:=x.2.2.2.2.2.2.2.2.2.2.2.2.2.2.2.2.2.2.1
abbrev C (x:A0×A1×A2×A3×A4×A5×A6×A7×A8×A9×A10×A11×A12×A13×A14×A15×A16×A17×A18):A18:=x.2.2.2.2.2.2.2.2.2.2.2.2.2.2.2.2.2.2
abbrev H (x:A0×A1×A2×A3×A4×A5×A6×A7×A8×A9×A10×A11×A12×A13×A14×A15×A16×A17×A18×A19×A20):A19:=x.2.2.2.2.2.2.2.2.2.2.2.2.2.2.2.2.2.2.2.1
abbrev I (x:A0×A1×A2×A3×A4×A5×A6×A7×A8×A9×A10×A11×A12×A13×A14×A15×A16×A17×A18×A19×A20×A21):A20:=x.2.2.2.2.2.2.2.2.2.2.2.2.2.2.2.2.2.2.2.2.1
abbrev K (x:A0×A1×A2×A3×A4×A5×A6×A7×A8×A9×A10×A11×A12×A13×A14×A15×A16×A17×A18×A19×A20×A21):A21:=x.2.2.2.2.2.2.2.2.2.2.2.2.2.2.2.2.2.2.2.2.2
end Prod
namespace Go.Proofs.YtocjfbiifiaagaaGreatDoor.AI
open Go.RowKit
set_option maxRecDepth 100000
set_option maxHeartbeats 4000000
set_option linter.unusedVariables false
set_option linter.unusedSimpArgs false
set_option linter.defProp false
open Act renaming put→So
open _root_.Array renaming replicate→uN,range→HQ
open _root_.Bool renaming true→J,false→af
open Builtin renaming zeroCells→mD,firstCells→Po
open Call renaming operands→eT
open ForInStep renaming yield→Jh
open Instr renaming findAsking→cZ,sliceBounds→gg,sliceBound→gH,findNow→jB,sliceAt→kr,sameBits→mr,checkKey→mw,slice→ol,findKey→Aa
open _root_.Int renaming toNat→aO,ofNat→aS,tmod→lw,tdiv→Pn
open IntKind renaming wrap→qL
open _root_.List renaming length→l!,length→aj,replicate→aE,take→dy,range→dA,length_singleton→dI,map→im,toArray→jG,length_cons→jW,set→zX,map_drop→zY,foldl_cons→Ad,map_nil→C6,ext_getElem?→Sl,append→Sm
open _root_.Nat renaming beq→aA,testBit→aM,add_zero→dQ,ble→dY,blt→eK,min→lQ,mod_eq_of_lt→xh
open Oper renaming wp→Lv
open _root_.Option renaming some→Z,none→U,bind_some→aB,map_some→bw
open Region renaming wanted→ju,binds→C3,ready→Lt
open Result renaming andThen_ok→cQ
open Sem renaming run_bind→fB,run→kY,run_pure→xg
open Value.bool renaming injEq→Fz
open World renaming shape?→tV,cell?→Sj
noncomputable section
abbrev Y:=@List
abbrev M:=@Option
abbrev av:=@if_neg
abbrev aC:=@if_pos
abbrev aU:=@decide_eq_true
abbrev bi:=@of_decide_eq_true
abbrev bt:=@if_true
abbrev bu:=@decide_eq_true_eq
abbrev bT:=@absurd
abbrev cj:=@beq_self_eq_true
abbrev cU:=@beq_iff_eq
abbrev dt:=@decide_eq_false
abbrev dH:=@decide_false
abbrev dZ:=@if_false
abbrev d_:=@congrArg
abbrev eE:=@or_false
abbrev eH:=@decide_true
abbrev qV:=@of_decide_eq_false
abbrev EO:=@true_and
abbrev KI:=@false_or
abbrev ah:=@Option.some.injEq
abbrev al:=@Bool.and_eq_true
abbrev au:=@Nat.eq_of_beq_eq_true
abbrev aD:=@List.getD_eq_getElem?_getD
abbrev aF:=@List.getElem?_eq_getElem
abbrev aG:=@List.mem_singleton
abbrev aQ:=@Prod.mk.injEq
abbrev aY:=@Nat.le_of_ble_eq_true
abbrev ba:=@List.mem_of_getElem?
abbrev bf:=@Nat.ble_eq_true_of_le
abbrev bh:=@List.mem_cons
abbrev bq:=@Nat.testBit_or
abbrev bx:=@List.length_map
abbrev bz:=@List.getElem?_eq_some_iff
abbrev bE:=@List.getElem?_map
abbrev bH:=@List.length_append
abbrev bK:=@Nat.le_refl
abbrev bR:=@List.length_take
abbrev bS:=@List.getElem?_append_right
abbrev bZ:=@Nat.zero_add
abbrev b7:=@List.not_mem_nil
abbrev b8:=@List.getElem?_append_left
abbrev cg:=@List.map_append
abbrev cq:=@List.mem_append
abbrev cw:=@Nat.mul_le_mul_right
abbrev cC:=@List.mem_map
abbrev cD:=@List.map_cons
abbrev cN:=@Nat.lt_or_ge
abbrev cO:=@Bool.false_eq_true
abbrev cS:=@Bool.not_eq_true'
abbrev cY:=@List.mem_cons_of_mem
abbrev c6:=@Array.getElem?_toList
abbrev c7:=@Nat.le_trans
abbrev dh:=@List.take_length
abbrev dv:=@Nat.lt_of_lt_of_le
abbrev dw:=@Array.getElem?_eq_some_iff
abbrev dC:=@List.length_eq_zero_iff
abbrev dK:=@List.mem_cons_self
abbrev dX:=@Bool.and_eq_true_iff
abbrev em:=@List.ext_getElem
abbrev ey:=@List.length_replicate
abbrev eA:=@List.getElem?_eq_none
abbrev eD:=@Int.natCast_nonneg
abbrev eS:=@Int.le_refl
abbrev eX:=@List.cons.injEq
abbrev fd:=@List.getElem?_take
abbrev fD:=@Nat.le_succ_of_le
abbrev fE:=@List.take_of_length_le
abbrev fG:=@List.getElem?_of_mem
abbrev fR:=@List.length_take_le
abbrev fU:=@Option.some.inj
abbrev fV:=@List.length_set
abbrev gd:=@List.foldl_append
abbrev gf:=@List.flatMap_cons
abbrev gz:=@Option.map_eq_some_iff
abbrev gF:=@List.map_take
abbrev il:=@List.mem_of_mem_take
abbrev iF:=@List.all_eq_true
abbrev iQ:=@Nat.zero_le
abbrev iR:=@List.getElem?_set
abbrev iX:=@List.contains_iff_mem
abbrev jA:=@Nat.add_assoc
abbrev jF:=@Nat.succ_mul
abbrev jI:=@List.mem_filter
abbrev jV:=@List.mem_append_left
abbrev jX:=@Array.getD_eq_getD_getElem?
abbrev kG:=@Nat.or_assoc
abbrev kH:=@List.map_map
abbrev kQ:=@List.append_nil
abbrev lI:=@List.length_drop
abbrev lJ:=@List.getElem?_drop
abbrev lU:=@Bool.true_and
abbrev mC:=@List.append_assoc
abbrev mZ:=@Bool.or_eq_true
abbrev nu:=@List.map_congr_left
abbrev nU:=@Nat.ne_of_beq_eq_false
abbrev ou:=@Bool.and_self
abbrev ox:=@Nat.lt_succ_self
abbrev oX:=@List.mem_range
abbrev oY:=@Bool.false_and
abbrev pZ:=@Array.getElem?_eq_getElem
abbrev qe:=@Nat.not_lt_zero
abbrev qH:=@Nat.lt_succ_of_lt
abbrev qI:=@Nat.beq_refl
abbrev qJ:=@List.take_succ_eq_append_getElem
abbrev qK:=@List.length_range
abbrev ru:=@Option.isSome_iff_exists
abbrev sY:=@List.getElem?_replicate
abbrev tm:=@List.take_append_of_le_length
abbrev tW:=@Int.not_lt
abbrev vb:=@List.mem_append_right
abbrev wR:=@Nat.zero_or
abbrev xi:=@List.mem_flatMap
abbrev xk:=@List.drop_append
abbrev xT:=@Classical.byContradiction
abbrev z_:=@List.eq_of_mem_replicate
abbrev C4:=@Nat.lt_trichotomy
abbrev C5:=@List.size_toArray
abbrev C7:=@List.drop_of_length_le
abbrev EM:=@List.take_append_drop
abbrev FC:=@Nat.lt_irrefl
abbrev HP:=@List.replicate_succ'
abbrev Jf:=@Nat.min_eq_left
abbrev Jg:=@List.sum_append
abbrev KF:=@List.drop_succ_cons
abbrev KH:=@Int.toNat_of_nonneg
abbrev Lw:=@Nat.sub_self
abbrev Sn:=@Bool.eq_false_iff
abbrev η:=Y Int
abbrev ζ:=Y UInt8
abbrev θ:=Y Bool
abbrev ι:=Y Nat
abbrev ξ:=Y Value
abbrev ω:=Int×Int×Int×Int×Int×Int
abbrev υ:=Int×Int×Int×Int×Int
abbrev π:=Int×Int×Int
abbrev ν:=Int×Int
inductive FV where
 |raw (v:Value)
 |sl (cells:List FV) (n:Nat)
 |K (cells:List FV) (off:Nat)
 |agg (cells:List FV)
inductive AV where
 |f (x:FV)
 |K (id off:Nat)
 |sl (id off n:Nat)
 |I (id sz n:Nat)
 |mp (id:Nat)
 |emp
 |qy
 |agg (cells:List AV)
 |qp (vs:List AV)
 |qf (g:FuncId) (cap:List AV)
def FV.isCell:FV->Bool
 |.raw v=>v.oneCell'
 |.sl _ _=>J
 |.K _ _=>J
 |.agg _=>af
def AV.isCell:AV->Bool
 |.f x=>x.isCell
 |.K _ _=>J
 |.sl _ _ _=>J
 |.I _ _ _=>J
 |.mp _=>J
 |.emp=>J
 |.qf _ _=>J
 |_=>af
inductive nS (O:Nat->Prop) (w:World):FV->Value->Prop
 |raw (v:Value):nS O w (.raw v) v
 |nil (a:Option Addr) (c:Nat) (hc:c<=maxLen):nS O w (.sl [] 0) (.slice a 0 c)
 |sl (cells:List FV) (n c b off:Nat) (us:Nat->Value) (hn:n<=c) (hc:c<=maxLen) (hO:¬O b) (hb:b<w.heap.size)
   (hcl:∀x∈cells,x.isCell=J)
   (hu:∀j,j<l! cells->w.cell? ⟨b,off+j,U⟩=Z (us j)) (hr:∀(j:Nat) x,cells[j]? =Z x->nS O w x (us j)):
   nS O w (.sl cells n) (.slice (Z ⟨b,off,U⟩) n c)
 |K (cells:List FV) (o b off:Nat) (us:Nat->Value) (hO:¬O b) (hb:b<w.heap.size)
   (hcl:∀x∈cells,x.isCell=J)
   (hu:∀j,j<l! cells->w.cell? ⟨b,off+j,U⟩=Z (us j)) (hr:∀(j:Nat) x,cells[j]? =Z x->nS O w x (us j)):
   nS O w (.K cells o) (.pointer (Z ⟨b,off+o,U⟩))
 |agg (cells:List FV) (vs:ξ) (hl:l! vs=l! cells) (hcl:∀x∈cells,x.isCell=J)
   (hr:∀(j:Nat) x v,cells[j]? =Z x->vs[j]? =Z v->nS O w x v):nS O w (.agg cells) (.agg vs.toArray)
abbrev PM:=Nat->M Nat
inductive ch (φ:PM) (O:Nat->Prop) (w:World):AV->Value->Prop
 |f {x:FV} {v:Value} (h:nS O w x v):ch φ O w (.f x) v
 |K {id off b:Nat} (h:φ id=Z b):ch φ O w (.K id off) (.pointer (Z ⟨b,off,U⟩))
 |sl {id off n c b:Nat} (h:φ id=Z b) (hn:n<=c) (hc:c<=maxLen):ch φ O w (.sl id off n) (.slice (Z ⟨b,off,U⟩) n c)
 |I {id sz n c b:Nat} (h:φ id=Z b) (hn:n<=c) (hc:c<=maxLen) (hs:∃ty,w.shape? b=Z (ty,c*sz)):
   ch φ O w (.I id sz n) (.slice (Z ⟨b,0,U⟩) n c)
 |emp {a:Option Addr}:ch φ O w .emp (.slice a 0 0)
 |qy {b:Bool}:ch φ O w .qy (.bool b)
 |mp {id b:Nat} (h:φ id=Z b):ch φ O w (.mp id) (.map (Z b))
 |agg {cells:List AV} {vs:ξ} (hl:l! vs=l! cells) (hcl:∀x∈cells,x.isCell=J)
   (hr:∀(j:Nat) x v,cells[j]? =Z x->vs[j]? =Z v->ch φ O w x v):ch φ O w (.agg cells) (.agg vs.toArray)
 |qp {cells:List AV} {vs:ξ} (hl:l! vs=l! cells)
   (hr:∀(j:Nat) x v,cells[j]? =Z x->vs[j]? =Z v->ch φ O w x v):ch φ O w (.qp cells) (.tuple vs.toArray)
 |qf {g:FuncId} {cells:List AV} {vs:ξ} (hl:l! vs=l! cells)
   (hr:∀(j:Nat) x v,cells[j]? =Z x->vs[j]? =Z v->ch φ O w x v):ch φ O w (.qf g cells) (.func (.func g) #[] vs.toArray)
structure Jd (O:Nat->Prop) (w w':World):Prop where
 os:w'.os=w.os
 tape:w'.tape=w.tape
 output:w'.output=w.output
 size:w.heap.size<=w'.heap.size
 jm:∀k,k<w.heap.size->¬O k->w'.heap[k]? =w.heap[k]?
 jr:∀k,k<w.heap.size->w'.shape? k=w.shape? k
def Jd.refl (O:Nat->Prop) (w:World):Jd O w w:=⟨rfl,rfl,rfl,bK _,λ_ _ _=>rfl,λ_ _=>rfl⟩
variable {W:World} {i:Nat}
def Hq {w':World} (h:w'.heap[i]? =W.heap[i]?) (o:Nat):w'.cell? ⟨i,o,U⟩=W.cell? ⟨i,o,U⟩:=by
 unfold Sj;rw[h]
variable {O:Nat->Prop} {v:Value}
def nS.ext {O':Nat->Prop} {w':World} (he:Jd O W w') (ho:∀k,k<W.heap.size->O' k->O k) {x:FV} (h:nS O W x v):nS O' w' x v:=by
 induction h with
 |raw v=>exact .raw v
 |nil a c hc=>exact .nil a c hc
 |sl cells n c b off L hn hc I z hcl hu hr A=>
  exact .sl cells n c b off L hn hc (λh=>I (ho b z h)) (dv z he.size) hcl (λj hj=>by rw[Hq (he.jm b z I)];exact hu j hj) A
 |K cells o b off L I z hcl hu hr A=>
  exact .K cells o b off L (λh=>I (ho b z h)) (dv z he.size) hcl (λj hj=>by rw[Hq (he.jm b z I)];exact hu j hj) A
 |agg cells vs hl hcl hr A=>exact .agg cells vs hl hcl A
variable {T:PM} {y:AV}
def ch.ext {φ':PM} {O':Nat->Prop} {w':World} (L:∀i k,T i=Z k->φ' i=Z k) (he:Jd O W w') (ho:∀k,k<W.heap.size->O' k->O k) (h:ch T O W y v):ch φ' O' w' y v:=by
 induction h with
 |f h=>exact .f (h.ext he ho)
 |K h=>exact .K (L _ _ h)
 |sl h hn hc=>exact .sl (L _ _ h) hn hc
 |I h hn hc hsh=>
  let⟨ty,hty⟩:=hsh;refine .I (L _ _ h) hn hc ⟨ty,?_⟩;rw[he.jr _ ?_];exact hty;unfold tV at hty
  grind
 |emp=>exact .emp
 |qy=>exact .qy
 |mp h=>exact .mp (L _ _ h)
 |agg A hcl hr z=>exact .agg A hcl z
 |qp A hr z=>exact .qp A z
 |qf A hr z=>exact .qf A z
inductive BC where
 |fz (l:List FV)
 |mx (l:List AV)
 |mp (es:List (Value×AV))
 |it (s:ByteArray) (pos:Nat)
def BC.get:BC->Nat->M AV
 |.fz l,j=>l[j]?.map AV.f
 |.mx l,j=>l[j]?
 |_,_=>U
def BC.len:BC->Nat
 |.fz l|.mx l=>l! l
 |_=>0
def BC.isCells:BC->Bool
 |.fz _=>J
 |.mx _=>J
 |_=>af
structure ko where
 ty:TypeId
 c:BC
abbrev HF:=Nat->M ko
def own (φ:PM) (h:HF) (k:Nat):Prop:=∃id b,h id=Z b/\φ id=Z k
def tot (E:Nat->Prop) (φ:PM) (h:HF) (k:Nat):Prop:=E k\/own φ h k
def vH (φ:PM) (O:Nat->Prop) (w:World) (c:BC) (arr:Array Value):Prop:=
 c.len<=arr.size/\∀j x,c.get j=Z x->x.isCell=J/\∃v,arr[j]? =Z v/\ch φ O w x v
abbrev k?:=Value×AV
def MpK (_:TypeId) (es:Y k?) (ents:Array MapEntry):Prop:=ents.toList.map (·.key)=es.map (·.1)
def MpV (_:TypeId) (ents:Array MapEntry) (j:Nat) (_ v:Value):Prop:=∃m,ents[j]? =Z m/\v=m.val
def ii (φ:PM) (O:Nat->Prop) (w:World) (b:ko) (o:Obj):Prop:=
 match b.c with
 |.mp es=>∃ents clock,o= .map ents clock/\MpK b.ty es ents/\∀(j:Nat) x,es[j]? =Z x->∃v,MpV b.ty ents j x.1 v/\ch φ O w x.2 v
 |.it s p=>o= .stringIter s p
 |c=>∃arr,o= .cells arr b.ty (0,0)/\vH φ O w c arr
def anf (φ:PM) (O:Nat->Prop) (w:World) (k:Nat) (b:ko):Prop:=∃o,w.heap[k]? =Z o/\ii φ O w b o
variable {F:ko}
def anf.cells (h:anf T O W i F) (A:F.c.isCells=J):
 ∃arr,W.heap[i]? =Z (.cells arr F.ty (0,0))/\vH T O W F.c arr:=by
 let⟨o,h1,z⟩:=h;unfold ii at z;cases I:F.c with
 |fz l|mx l=>rw[I]at z;obtain⟨arr,rfl,L⟩:=z;exact⟨arr,h1,L⟩
 |_=>rw[I]at A;cases A
def ii.mono {φ':PM} {O':Nat->Prop} {w':World} (hk:∀x v,ch T O W x v->ch φ' O' w' x v) {o:Obj} (h:ii T O W F o):ii φ' O' w' F o:=by
 unfold ii at h ⊢;cases L:F.c with
 |mp es=>rw[L]at h;let⟨e,c,h1,I,A⟩:=h;exact⟨e,c,h1,I,λj x z=>by let⟨m,a,F⟩:=A j x z;exact⟨m,a,hk _ _ F⟩⟩
 |it s p=>rw[L]at h;exact h
 |_=>rw[L]at h;let⟨arr,h1,I,A⟩:=h;exact⟨arr,h1,I,λj x z=>by let⟨a,v,c,d⟩:=A j x z;exact⟨a,v,c,hk _ _ d⟩⟩
def vH.mono {φ':PM} {O':Nat->Prop} {w':World} (A:∀x v,ch T O W x v->ch φ' O' w' x v) {c:BC} {arr:Array Value} (h:vH T O W c arr):vH φ' O' w' c arr:=
 ⟨h.1,λj x z=>by let⟨a,v,c,d⟩:=h.2 j x z;exact⟨a,v,c,A _ _ d⟩⟩
def wZ (l:ζ):FV:=.raw (.string ⟨l.toArray⟩)
def Gg:Y FV:=[wZ [118,97,114],wZ [118,111,108,97,116,105,108,101],wZ [109,117,116,101,120],wZ [114,119,108,111,99,107],wZ [99,111,110,100],wZ [102,117,116,117,114,101],wZ [116,104,114,101,97,100],wZ [105,102],wZ [101,108,115,101],wZ [119,104,105,108,101],wZ [108,111,99,107],wZ [114,101,97,100],wZ [119,114,105,116,101],wZ [116,114,97,110,115,97,99,116,105,111,110],wZ [97,116,111,109,105,99],wZ [119,97,105,116],wZ [110,111,116,105,102,121],wZ [110,111,116,105,102,121,97,108,108],wZ [115,112,97,119,110],wZ [106,111,105,110],wZ [115,101,116],wZ [103,101,116]]
def G (g:Nat):M (Y FV):=if g==0 then Z Gg else U
structure sV (φ:PM) (E:Nat->Prop) (h:HF) (w:World):Prop where
 inj:∀i j b b' k,h i=Z b->h j=Z b'->φ i=Z k->φ j=Z k->i=j
 at_:∀i b,h i=Z b->∃k,φ i=Z k/\¬E k/\anf φ (tot E φ h) w k b
 el:∀k,E k->k<w.heap.size
 gl:∀g cells,G g=Z cells->nS (tot E φ h) w (.K cells 0) (.pointer (Z ⟨g,0,U⟩))
structure jU (φ φ':PM) (h h':HF) (w w':World):Prop where
 sub:∀i k,φ i=Z k->φ' i=Z k
 ext:Jd (own φ h) w w'
 qr:∀k,k<w.heap.size->own φ' h' k->own φ h k
def jU.refl (φ:PM) (h:HF) (w:World):jU φ φ h h w w:=⟨λ_ _ h=>h,Jd.refl _ _,λ_ _ h=>h⟩
variable {A:HF}
def jU.trans {φ' φ'':PM} {h' h'':HF} {w' w'':World} (m:jU T φ' A h' W w') (n:jU φ' φ'' h' h'' w' w''):jU T φ'' A h'' W w'' where
 sub:=λi k e=>n.sub i k (m.sub i k e)
 ext:=⟨n.ext.os.trans m.ext.os,n.ext.tape.trans m.ext.tape,n.ext.output.trans m.ext.output,c7 m.ext.size n.ext.size,
  λk z h=>(n.ext.jm k (dv z m.ext.size) (λA=>h (m.qr k z A))).trans (m.ext.jm k z h),
  λk z=>(n.ext.jr k (dv z m.ext.size)).trans (m.ext.jr k z)⟩
 qr:=λk z A=>m.qr k z (n.qr k (dv z m.ext.size) A)
def Jd.mono {O':Nat->Prop} {w':World} (h:Jd O W w') (z:∀k,O k->O' k):Jd O' W w':=
 ⟨h.os,h.tape,h.output,h.size,λk A I=>h.jm k A (λx=>I (z k x)),h.jr⟩
def jU.zj {φ':PM} {h':HF} {w':World} (m:jU T φ' A h' W w') (r:ch T (tot O T A) W y v):ch φ' (tot O φ' h') w' y v:=
 r.ext m.sub (m.ext.mono λ_ A=>.inr A) λk h z=>z.elim .inl λo=>.inr (m.qr k h o)
def jU.keepF {φ':PM} {h':HF} {w':World} (m:jU T φ' A h' W w') {x:FV} (r:nS (tot O T A) W x v):nS (tot O φ' h') w' x v:=
 r.ext (m.ext.mono λ_ A=>.inr A) λk h z=>z.elim .inl λo=>.inr (m.qr k h o)
abbrev EF:=Nat->M AV
def Sf (φ:PM) (O:Nat->Prop) (w:World) (e:EF) (a:Act):Prop:=∀t x,e t=Z x->ch φ O w x (a.tmps.getD t undef)
def PA (e:EF) (dst:M Nat) (x:AV):EF:=λt=>if dst=Z t then Z x else e t
def fm (h:HF) (z:ι) (A:HF):HF:=λi=>if i∈z then A i else h i
structure EL where
 val:AV
 rd:ι
 wr:ι
 nw:HF
 N:ι
def gC (P:Program) (o:Oper) (e:EF) (h:HF) (f:EL):Prop:=
 ∀(φ:PM) (E:Nat->Prop) (h':HF) (w:World) (a:Act),(∀i∈f.rd,h' i=h i)->(∀i∈f.wr,h' i=h i)->
  (∀t,.tmp t∈o.op.operands->∀y,e t=Z y->ch φ (tot E φ h') w y (a.tmps.getD t undef))->sV φ E h' w->(∀n∈f.N,φ n=U)->
  o.wp P a w (λz w'=>∃v φ',z=a.put o.dst v/\jU φ φ' h' (fm h' f.wr f.nw) w w'/\(∀i k,φ' i=Z k->φ i=Z k\/i∈f.N)/\
   sV φ' E (fm h' f.wr f.nw) w'/\ch φ' (tot E φ' (fm h' f.wr f.nw)) w' f.val v) (λ_ _ _=>False)
def tX:EL:=⟨.f (.raw undef),[],[],λ_=>U,[]⟩
inductive O5 (P:Program) (ops:Array Oper) (o:Oper) (f:EL) (e:EF) (h:HF):Prop
 |run (hg:o.guard=U) (ht:gC P o e h f)
 |runG (j t:Nat) (want:Bool) (hg:o.guard=Z (j,want)) (hj:(ops[j]?).bind (·.dst)=Z t) (he:e t=Z (.f (.raw (.bool want)))) (ht:gC P o e h f)
 |skip (j t:Nat) (want:Bool) (hg:o.guard=Z (j,want)) (hj:(ops[j]?).bind (·.dst)=Z t) (v:Value) (he:e t=Z (.f (.raw v))) (hv:v≠ .bool want) (hf:f=tX)
inductive C2 (P:Program) (ops:Array Oper):List (Oper×EL)->EF->HF->EF->HF->Prop
 |nil (e:EF) (h:HF):C2 P ops [] e h e h
 |cons {o:Oper} {f:EL} {r:List (Oper×EL)} {e e':EF} {h h':HF} (hs:O5 P ops o f e h)
   (hr:C2 P ops r (PA e o.dst f.val) (fm h f.wr f.nw) e' h'):C2 P ops ((o,f)::r) e h e' h'
abbrev v!:=Oper×EL
def Q2 (S:Nat->Bool):Nat->Y v!->EF->EF
 |_,[],e=>e
 |k,(o,f)::r,e=>Q2 S (k+1) r (if S k then PA e o.dst f.val else e)
def HR (S:Nat->Bool):Nat->Y v!->HF->HF
 |_,[],h=>h
 |k,(_,f)::r,h=>HR S (k+1) r (if S k then fm h f.wr f.nw else h)
variable {p:Nat->Bool}
def HX {S':Nat->Bool} :∀(l:Y v!) (k:Nat) (e e':EF),e i=e' i->
 (∀(j:Nat) o f,l[j]? =Z (o,f)->o.dst=Z i->p (k+j)=S' (k+j))->Q2 p k l e i=Q2 S' k l e' i
 |[],_,_,_,he,_=>he
 |(o,f)::r,k,e,e',he,z=>by
  refine HX r (k+1) _ _ ?_ (λj o f A hd=>by have:=z (j+1) o f (by grind) hd;rwa [show k+(j+1)=k+1+j from by omega]at this);by_cases hd:o.dst=Z i
  .rw[show p k=S' k from by simpa using z 0 o f rfl hd];split
   .simp[PA,hd]
   .exact he
  .split<;>split<;>simp[PA,hd,he]
def HW {S':Nat->Bool} :∀(l:Y v!) (k:Nat) (e e':HF),e i=e' i->
 (∀(j:Nat) o f,l[j]? =Z (o,f)->i∈f.wr->p (k+j)=S' (k+j))->HR p k l e i=HR S' k l e' i
 |[],_,_,_,he,_=>he
 |(o,f)::r,k,e,e',he,z=>by
  refine HW r (k+1) _ _ ?_ (λj o f A hd=>by have:=z (j+1) o f (by grind) hd;rwa [show k+(j+1)=k+1+j from by omega]at this);by_cases hd:i∈f.wr
  .rw[show p k=S' k from by simpa using z 0 o f rfl hd];split
   .simp[fm,hd]
   .exact he
  .split<;>split<;>simp[fm,hd,he]
def FK :∀(l:Y v!) (k:Nat) (e:EF),(∀(j:Nat) o f,l[j]? =Z (o,f)->o.dst=Z i->p (k+j)=af)->Q2 p k l e i=e i
 |[],_,_,_=>rfl
 |(o,f)::r,k,e,z=>by
  simp[Q2];rw[FK r (k+1) _ (λj o f A hd=>by have:=z (j+1) o f (by grind) hd;rwa [show k+(j+1)=k+1+j from by omega]at this)];split
  next h=>unfold PA;rw[av];intro hd;have:=z 0 o f rfl hd;simp_all
  .rfl
def FJ :∀(l:Y v!) (k:Nat) (e:HF),(∀(j:Nat) o f,l[j]? =Z (o,f)->i∈f.wr->p (k+j)=af)->HR p k l e i=e i
 |[],_,_,_=>rfl
 |(o,f)::r,k,e,z=>by
  simp[HR];rw[FJ r (k+1) _ (λj o f A hd=>by have:=z (j+1) o f (by grind) hd;rwa [show k+(j+1)=k+1+j from by omega]at this)];split
  next h=>unfold fm;rw[av];intro hd;have:=z 0 o f rfl hd;simp_all
  .rfl
def U' :∀(l:Y v!) (k t:Nat) (e:EF) (o:Oper) (f:EL),l[t]? =Z (o,f)->o.dst=Z i->p (k+t)=J->
 (∀(j:Nat) z L,t<j->l[j]? =Z (z,L)->z.dst=Z i->p (k+j)=af)->Q2 p k l e i=Z f.val
 |[],_,_,_,_,_,h,_,_,_=>by simp at h
 |(z,L)::r,k,0,e,o,f,h,hd,I,A=>by
  obtain⟨rfl,rfl⟩:=h;simp[Q2];rw[FK r (k+1) _ (λj o f hj hd=>by have:=A (j+1) o f (by omega) (by grind) hd;rwa [show k+(j+1)=k+1+j from by omega]at this)];simp at I;simp[I,PA,hd]
 |(z,L)::r,k,t+1,e,o,f,h,hd,I,A=>by
  exact U' r (k+1) t _ o f (by grind) hd (by grind)
   (λj o f hij hj hd=>by have:=A (j+1) o f (by omega) (by grind) hd;rwa [show k+(j+1)=k+1+j from by omega]at this)
def U_ :∀(l:Y v!) (k t:Nat) (e:HF) (o:Oper) (f:EL),l[t]? =Z (o,f)->i∈f.wr->p (k+t)=J->
 (∀(j:Nat) A z,t<j->l[j]? =Z (A,z)->i∈z.wr->p (k+j)=af)->HR p k l e i=f.nw i
 |[],_,_,_,_,_,h,_,_,_=>by simp at h
 |(A,z)::r,k,0,e,o,f,h,hd,L,I=>by
  obtain⟨rfl,rfl⟩:=h;simp[HR];rw[FJ r (k+1) _ (λj o f hj hd=>by have:=I (j+1) o f (by omega) (by grind) hd;rwa [show k+(j+1)=k+1+j from by omega]at this)];simp at L;simp[L,fm,hd]
 |(A,z)::r,k,t+1,e,o,f,h,hd,L,I=>by
  exact U_ r (k+1) t _ o f (by grind) hd (by grind)
   (λj o f hij hj hd=>by have:=I (j+1) o f (by omega) (by grind) hd;rwa [show k+(j+1)=k+1+j from by omega]at this)
variable {P:Program} {k:Array Oper}
def C2.step :∀{l:Y v!} {e e':EF} {h h':HF} (_:C2 P k l e h e' h') (ops i:Nat) (o:Oper) (f:EL),l[i]? =Z (o,f)->
 O5 P k o f (Q2 (λj=>decide (j<ops+i)) ops l e) (HR (λj=>decide (j<ops+i)) ops l h):=by
 intro l e e' h h' hc;induction hc with
 |nil=>intro ops i o f hi;simp at hi
 |@cons z A r e e' h h' L hr I=>
  intro ops i o f hi;cases i with
  |zero=>
   obtain⟨rfl,rfl⟩:=hi;have e1:Q2 (λj=>decide (j<ops+0)) ops ((z,A)::r) e=e:=by
    funext t;rw[FK];simp
   have e2:HR (λj=>decide (j<ops+0)) ops ((z,A)::r) h=h:=by
    funext t;rw[FJ];simp
   rw[e1,e2];exact L
  |succ i=>
   have:=I (ops+1) i o f (by grind);simp[Q2,HR]
   grind
def C2.final :∀{l:Y v!} {e e':EF} {h h':HF} (_:C2 P k l e h e' h') (ops:Nat) (S:Nat->Bool),(∀j,j<l! l->S (ops+j)=J)->
 Q2 S ops l e=e'/\HR S ops l h=h':=by
 intro l e e' h h' I;induction I with
 |nil=>intro ops S _;exact⟨rfl,rfl⟩
 |@cons L f1 r e e' h h' hs hr A=>
  intro ops S z;have h0:S ops=J:=by simpa using z 0 (by simp)
  simp[Q2,HR,h0,bt];exact A (ops+1) S (λj hj=>by have:=z (j+1) (by grind);rwa [show ops+(j+1)=ops+1+j from by omega]at this)
variable {N:Act}
def U2 {o:Oper} {K K':Act->World->Prop} {Q:Exit->Act->World->Prop} (h:∀N W,K N W->K' N W)
 (hh:o.wp P N W K (λ_ _ _=>False)):o.wp P N W K' Q:=by
 unfold Lv at*
 generalize (execOp N.eval o).run P W=r at*
 cases r with
 |ok n w'=>
  cases n<;>simp[Oper.upon]at hh ⊢<;>
   first
    |exact h _ _ hh
    |exact Calls.mono hh (λe w'' he=>by
      cases e with
      |returned v=>exact h _ _ he
      |panicked c=>exact he.elim
      |outgrown=>let⟨_,_,h⟩:=he;exact h.elim)
    |exact Rows.mono hh (λ_ _ he=>h _ _ he)
 |halt x w'=>cases x<;>simp[Oper.upon]at hh ⊢<;>first|exact hh.elim|exact hh
inductive Bef (ops:Array Oper):Nat->Nat->Prop
 |one {j:Nat} {o:Oper} {e:Edge} (h:ops[j]? =Z o) (he:e∈o.after) (hb:C3 .any e=J):Bef ops j e.on
 |more {j i:Nat} {o:Oper} {e:Edge} (h:ops[j]? =Z o) (he:e∈o.after) (hb:C3 .any e=J) (hi:Bef ops e.on i):Bef ops j i
structure NIP (ops:Array Oper) (l:List (Oper×EL)):Prop where
 edge:∀(j:Nat) o,ops[j]? =Z o->∀e∈o.after,C3 .any e=J->e.on<j
 pair:∀(i j:Nat) oi fi oj fj,i<j->l[i]? =Z (oi,fi)->l[j]? =Z (oj,fj)->Bef ops j i\/
  (oi.apart ops oj=J/\(∀x∈fi.wr,x∉fj.rd/\x∉fj.wr)/\(∀x∈fj.wr,x∉fi.rd))
 names:∀(i j:Nat) oi fi oj fj,i<j->l[i]? =Z (oi,fi)->l[j]? =Z (oj,fj)->∀n∈fi.N,n∉fj.N
def Je (ops:Array Oper) (listed:Array Bool):Prop:=∀(j:Nat) o,ops[j]? =Z o->listed.getD j af=J->∀e∈o.after,C3 .any e=J->listed.getD e.on af=J
variable {m:Nat}
def Je.bef {listed:Array Bool} (I:Je k listed) (h:Bef k m i):listed.getD m af=J->listed.getD i af=J:=by
 induction h with
 |one h he A=>intro z;exact I _ _ h z _ he A
 |more h he A hi L=>intro z;exact L (I _ _ h z _ he A)
def afh {listed:Array Bool} (L:Je k listed) {o:Oper} (z:k[m]? =Z o) (I:∀e∈o.after,C3 .any e=J->listed.getD e.on af=J) (h:Bef k m i):listed.getD i af=J:=by
 cases h with
 |one h he A=>rw[h]at z;cases z;exact I _ he A
 |more h he A hi=>rw[h]at z;cases z;exact L.bef hi (I _ he A)
def Bn {listed:Array Bool} (h:listed.getD i J=af):listed.getD i af=af/\i<listed.size:=by grind
def StP (φ0:PM) (E:Nat->Prop) (e0:EF) (h0:HF) (w0:World) (z:Act) (l:Y v!) (S:Nat->Bool) (a:Act) (w:World):Prop:=
 ∃φ,jU φ0 φ h0 (HR S 0 l h0) w0 w/\(∀i k,φ i=Z k->φ0 i=Z k\/∃(j:Nat) (o:Oper) (f:EL),S j=J/\l[j]? =Z (o,f)/\i∈f.N)/\
  sV φ E (HR S 0 l h0) w/\Sf φ (tot E φ (HR S 0 l h0)) w (Q2 S 0 l e0) a/\a.defers=z.defers/\a.tmps.size=z.tmps.size
def Vz {dst:M Tmp} (hd:∀d,dst=Z d->d<N.tmps.size):(N.put dst v).tmps.getD i undef=if dst=Z i then v else N.tmps.getD i undef:=by
 cases dst with
 |none=>simp[So]
 |some d=>
  by_cases h:d=i
  .subst h;simp[So,hd d rfl]
  .simp[So,h,Array.getElem?_setIfInBounds_ne h]
def Vy {dst:M Tmp} :(N.put dst v).tmps.size=N.tmps.size:=by cases dst<;>simp[So]
def Mk {dst:M Tmp} :(N.put dst v).defers=N.defers:=by cases dst<;>rfl
def aju {l:Y v!} {e0 e':EF} {h':HF} 
 (hl:l.map (·.1)=k.toList) (hc:C2 P k l e0 A e' h') (ni:NIP k l) (hfr:∀(j:Nat) o f,l[j]? =Z (o,f)->∀n∈f.N,T n=U)
 (hsz:∀(j:Nat) o,k[j]? =Z o->∀d,o.dst=Z d->d<N.tmps.size) {listed:Array Bool} (hcl:Je k listed) (hi:i∈Lt .any k listed) {Q:Exit->Act->World->Prop} {K:Act->World->Prop}
 (hK:∀a w,StP T O e0 A W N l (λj=>(listed.setIfInBounds i J).getD j af) a w->K a w) {a:Act} {w:World} (hst:StP T O e0 A W N l (λj=>listed.getD j af) a w):
 wpOp P k Q i K a w:=by
 let⟨hun,o,ho,hdeps⟩:=mem_ready.1 hi;let⟨hnf,hlt⟩:=Bn hun;have hln:∀(j:Nat) o',k[j]? =Z o'->∃f,l[j]? =Z (o',f):=λj o' h=>by
  have h1:(l.map (·.1))[j]? =Z o':=by rw[hl];simpa using h
  rw[bE]at h1;cases h0:l[j]? with
  |none=>rw[h0]at h1;cases h1
  |some p=>rw[h0]at h1;let⟨a,b⟩:=p;simp at h1;subst h1;exact⟨b,rfl⟩
 have hnl:∀(j:Nat) o' f,l[j]? =Z (o',f)->k[j]? =Z o':=λj o' f h=>by
  have h1:(l.map (·.1))[j]? =Z o':=by rw[bE,h];rfl
  rw[hl]at h1;simpa using h1
 let⟨f,hf⟩:=hln i o ho;have hord:∀(j:Nat) L I,j≠i->l[j]? =Z (L,I)->(listed.getD j af=decide (j<i))\/
  (o.apart k L=J\/L.apart k o=J)/\(∀x∈f.wr,x∉I.rd/\x∉I.wr)/\(∀x∈I.wr,x∉f.rd/\x∉f.wr):=by
  intro j L I hji h0;rcases cN j i with h|h
  .rcases ni.pair j i L I o f h h0 hf with hb|⟨h1,h2,h3⟩
   .left;rw[afh hcl ho hdeps hb];simp[h]
   .right;exact⟨.inr h1,λx hx=>⟨h3 x hx,λhx'=>(h2 x hx').2 hx⟩,λx hx=>h2 x hx⟩
  .have h:i<j:=by omega
   rcases ni.pair i j o f L I h hf h0 with hb|⟨h1,h2,h3⟩
   .left;have:listed.getD j af=af:=by
     cases hx:listed.getD j af with
     |false=>rfl
     |true=>have:=hcl.bef hb hx;rw[hnf]at this;cases this
    rw[this];simp;omega
   .right;exact⟨.inl h1,λx hx=>h2 x hx,λx hx=>⟨h3 x hx,λhx'=>(h2 x hx').2 hx⟩⟩
 have hS':∀j,(listed.setIfInBounds i J).getD j af=if j=i then J else listed.getD j af:=λj=>by
  by_cases h:i=j
  .subst h;simp[hlt]
  .rw[getD_set_ne af h,av (λe=>h e.symm)]
 have hlater:∀(j:Nat) L I,i<j->l[j]? =Z (L,I)->(listed.getD j af=af)\/((o.apart k L=J\/L.apart k o=J)/\(∀x∈f.wr,x∉I.rd/\x∉I.wr)):=by
  intro j L I hij h0;rcases hord j L I (by omega) h0 with h|⟨h1,h2,_⟩
  .left;rw[h];simp;omega
  .right;exact⟨h1,h2⟩
 have hdd:∀{x y:Oper},(x.apart k y=J\/y.apart k x=J)->∀d,x.dst=Z d->y.dst≠Z d:=by
  intro x y h d hd he;rcases h with h|h
  .exact (Oper.apart_spec h).2.1 d hd he
  .exact (Oper.apart_spec h).2.1 d he hd
 have hlook:∀{x y:Oper},(x.apart k y=J\/y.apart k x=J)->∀d,y.dst=Z d->d∉x.looksAt k:=by
  intro x y h d hd;rcases h with h|h
  .exact (Oper.apart_spec h).2.2 d hd
  .exact (Oper.apart_spec h).1 d hd
 have heL:∀t,t∈o.looksAt k->Q2 (λj=>listed.getD j af) 0 l e0 t=Q2 (λj=>decide (j<0+i)) 0 l e0 t:=λt ht=>by
  refine HX l 0 e0 e0 rfl λj L I h0 hd=>?_
  simp only[bZ];by_cases hji:j=i
  .subst hji;rw[hnf];simp
  .rcases hord j L I hji h0 with h|⟨h,_⟩
   .exact h
   .exact bT ht (hlook h t hd)
 have hhL:∀t,t∈f.rd\/t∈f.wr->HR (λj=>listed.getD j af) 0 l A t=HR (λj=>decide (j<0+i)) 0 l A t:=λt ht=>by
  refine HW l 0 A A rfl λj L I h0 hd=>?_
  simp only[bZ];by_cases hji:j=i
  .subst hji;rw[hnf];simp
  .rcases hord j L I hji h0 with h|⟨_,_,h⟩
   .exact h
   .rcases ht with ht|ht
    .exact bT ht (h t hd).1
    .exact bT ht (h t hd).2
 have hE':∀t,Q2 (λj=>(listed.setIfInBounds i J).getD j af) 0 l e0 t=if o.dst=Z t then Z f.val else Q2 (λj=>listed.getD j af) 0 l e0 t:=λt=>by
  by_cases hd:o.dst=Z t
  .rw[aC hd];refine U' l 0 i e0 o f hf hd (by simp[hS']) λj o' f' hij h0 hd'=>?_
   simp only[bZ,hS',av (show ¬j=i by omega)];rcases hlater j o' f' hij h0 with h|⟨h,_⟩
   .exact h
   .exact bT hd' (hdd h t hd)
  .rw[av hd];refine HX l 0 e0 e0 rfl λj L I h0 hd'=>?_
   simp only[bZ,hS'];rw[av];intro hji;subst hji;rw[hf]at h0;cases h0;exact hd hd'
 have hH':HR (λj=>(listed.setIfInBounds i J).getD j af) 0 l A=fm (HR (λj=>listed.getD j af) 0 l A) f.wr f.nw:=by
  funext t;unfold fm;by_cases hd:t∈f.wr
  .rw[aC hd];refine U_ l 0 i A o f hf hd (by simp[hS']) λj o' f' hij h0 hd'=>?_
   simp only[bZ,hS',av (show ¬j=i by omega)];rcases hlater j o' f' hij h0 with h|⟨_,h⟩
   .exact h
   .exact bT hd' (h t hd).2
  .rw[av hd];refine HW l 0 A A rfl λj L I h0 hd'=>?_
   simp only[bZ,hS'];rw[av];intro hji;subst hji;rw[hf]at h0;cases h0;exact hd hd'
 let⟨φ,hm,hdom,hrep,henv,hdef,hsize⟩:=hst;have hfrN:∀n∈f.N,φ n=U:=λn hn=>by
  cases hx:φ n with
  |none=>rfl
  |some ops=>
   rcases hdom n ops hx with h|⟨j,L,I,hSj,h0,hnj⟩
   .rw[hfr i o f hf n hn]at h;cases h
   .have hji:j≠i:=by intro h;subst h;exact bT hSj (by simp only[hnf];simp)
    rcases cN j i with h|h
    .exact bT hn (ni.names j i L I o f h h0 hf n hnj)
    .exact bT hnj (ni.names i j o f L I (by omega) hf h0 n hn)
 have hdsz:∀d,o.dst=Z d->d<a.tmps.size:=λd hd=>by rw[hsize];exact hsz i o ho d hd
 have main:∀(v:Value) (φ':PM) (w':World),jU φ φ' (HR (λj=>listed.getD j af) 0 l A) (fm (HR (λj=>listed.getD j af) 0 l A) f.wr f.nw) w w'->
  (∀i ops,φ' i=Z ops->φ i=Z ops\/i∈f.N)->sV φ' O (fm (HR (λj=>listed.getD j af) 0 l A) f.wr f.nw) w'->
  ch φ' (tot O φ' (fm (HR (λj=>listed.getD j af) 0 l A) f.wr f.nw)) w' f.val v->K (a.put o.dst v) w':=by
  intro v φ' w' m1 d1 r1 v1;refine hK _ _ ⟨φ',?_,?_,?_,?_,?_,?_⟩
  .rw[hH'];exact hm.trans m1
  .grind
  .rw[hH'];exact r1
  .rw[hH'];intro t x hx;rw[hE' t]at hx;rw[Vz hdsz];by_cases hd:o.dst=Z t
   .rw[aC hd]at hx ⊢;cases hx;exact v1
   .rw[av hd]at hx ⊢;exact m1.zj (henv t x hx)
  .rw[Mk];exact hdef
  .rw[Vy];exact hsize
 have hstep:=hc.step 0 i o f hf;have hrun:gC P o (Q2 (λj=>decide (j<0+i)) 0 l e0) (HR (λj=>decide (j<0+i)) 0 l A) f->o.wp P a w K Q:=by
  intro ht;refine U2 ?_ (ht φ O (HR (λj=>listed.getD j af) 0 l A) w a (λt h=>hhL t (.inl h)) (λt h=>hhL t (.inr h)) ?_ hrep hfrN)
  .rintro a' w' ⟨v,φ',rfl,m1,d1,r1,v1⟩;exact main v φ' w' m1 d1 r1 v1
  .intro t ht' y hy;refine henv t y ?_;rw[heL t (jV _ (List.mem_filterMap.2 ⟨.tmp t,by simpa using ht',rfl⟩))];exact hy
 have hyield:∀(j t:Nat) (want b:Bool),o.guard=Z (j,want)->(k[j]?).bind (·.dst)=Z t->Q2 (λj=>decide (j<0+i)) 0 l e0 t=Z (.f (.raw (.bool b)))->ju o (yielded k a.tmps)=(b==want):=by
  intro j t want b hg h0 he;rw[<- heL t (vb _ (by rw[hg];simp[h0]))]at he;have h1:=henv t _ he;have h2:a.tmps.getD t undef= .bool b:=by
   generalize hz:a.tmps.getD t undef=z at h1;cases h1 with
   |f h=>cases h;rfl
  have h3:a.tmps[t]? =Z (.bool b):=by
   rw[jX]at h2;cases hz:a.tmps[t]? with
   |none=>rw[hz]at h2;simp[undef]at h2
   |some z=>rw[hz]at h2;simp at h2;rw[h2]
  unfold ju yielded;rw[hg];simp[h0,h3]
 unfold wpOp;simp only[ho];cases hstep with
 |run hg ht=>
  rw[aC (by unfold ju;rw[hg])];exact .inl (hrun ht)
 |runG j t want hg h0 he ht=>
  rw[aC (by rw[hyield j t want want hg h0 he];simp)];exact .inl (hrun ht)
 |skip j t want hg h0 v he hv hf'=>
  have hnw:ju o (yielded k a.tmps)=af:=by
   rw[<- heL t (vb _ (by rw[hg];simp[h0]))]at he;have h1:=henv t _ he;have h2:a.tmps.getD t undef=v:=by
    generalize a.tmps.getD t undef=z at h1;cases h1 with
    |f h=>cases h;rfl
   unfold ju yielded;rw[hg];simp only[h0,aB];rw[jX]at h2;cases hz:a.tmps[t]? with
   |none=>simp
   |some z=>
    rw[hz]at h2;simp at h2;subst h2;cases z<;>simp at hv ⊢;exact hv
  rw[av (by rw[hnw];simp)];subst hf';have hu:fm (HR (λj=>listed.getD j af) 0 l A) tX.wr tX.nw=HR (λj=>listed.getD j af) 0 l A:=by
   funext t;simp[fm,tX]
  refine main undef φ w ?_ (λ_ _ h=>.inl h) ?_ ?_
  .rw[hu];exact jU.refl _ _ _
  .rw[hu];exact hrep
  .exact .f (.raw _)
def UG {l:θ} (h:l! l<=l.countP id):∀(j:Nat),j<l! l->l[j]? =Z J:=by
 have h1:l.countP id=l! l:=Nat.le_antisymm List.countP_le_length h;rw[List.countP_eq_length]at h1
 grind
def abt {l:Y v!} (z:NIP k l) {listed:Array Bool} (hs:listed.size=k.size) (A:Lt .any k listed=[]):
 ∀(n j:Nat),j<n->j<k.size->listed.getD j af=J:=by
 intro n;induction n with
 |zero=>intro j h;omega
 |succ n L=>
  intro j hj hjs;cases hx:listed.getD j af with
  |true=>rfl
  |false=>
   have hmem:j∈Lt .any k listed:=by
    refine mem_ready.2 ⟨?_,k[j],pZ hjs,λe he I=>?_⟩
    .grind
    .have h1:=z.edge j _ (pZ hjs) e he I
     grind
   rw[A]at hmem;cases hmem
def R9 {l:Y v!} {e0 e':EF} {h':HF} {E:Nat->Prop} {w0:World} {h0:Act}
 (hl:l.map (·.1)=k.toList) (L:C2 P k l e0 A e' h') (ni:NIP k l) (hfr:∀(j:Nat) o f,l[j]? =Z (o,f)->∀n∈f.N,T n=U)
 (hsz:∀(j:Nat) o,k[j]? =Z o->∀d,o.dst=Z d->d<h0.tmps.size) {Q:Exit->Act->World->Prop}
 (hQ:∀a w,StP T E e0 A w0 h0 l (λ_=>J) a w->Q .normal a w):
 ∀(fuel:Nat) (listed:Array Bool) (a:Act) (w:World),listed.size=k.size->Je k listed->k.size<=fuel+listed.toList.countP id->
  StP T E e0 A w0 h0 l (λj=>listed.getD j af) a w->wpAny P .any k Q fuel listed a w:=by
 have hlen:l! l=k.size:=by have:=d_ aj hl;simpa using this
 have fin:∀(listed:Array Bool) (a:Act) (w:World),(∀j,j<k.size->listed.getD j af=J)->StP T E e0 A w0 h0 l (λj=>listed.getD j af) a w->Q .normal a w:=by
  intro listed a w hall hst;refine hQ a w ?_;have h1:=L.final 0 (λj=>listed.getD j af) (λj z=>by simp only[bZ];exact hall j (by omega));have h2:=L.final 0 (λ_=>J) (λ_ _=>rfl);unfold StP at hst ⊢
  grind
 intro fuel;induction fuel with
 |zero=>
  intro listed a w I hcl hcnt hst;have hall:∀j,j<k.size->listed.getD j af=J:=λj z=>by
   have:=UG (l:=listed.toList) (by grind) j (by grind);simp_all
  refine ⟨?_,fin listed a w hall hst⟩;cases hr:Lt .any k listed with
  |nil=>rfl
  |cons i r=>
   have hi:i∈Lt .any k listed:=by grind
   let⟨hun,o,ho,_⟩:=mem_ready.1 hi
   grind
 |succ fuel ih=>
  intro listed a w I hcl hcnt hst;refine ⟨λhr=>fin listed a w (λj z=>abt ni I hr (j+1) j (by omega) z) hst,λi hi=>?_⟩;let⟨hun,o,ho,hdeps⟩:=mem_ready.1 hi;let⟨hnf,hlt⟩:=Bn hun;refine aju hl L ni hfr hsz hcl hi (λa' w' h=>ih _ a' w' ?_ ?_ ?_ h) hst
  .simpa using I
  .intro j oj hoj z e he hb;by_cases hji:i=j
   .subst hji;rw[ho]at hoj;cases hoj;exact getD_set_true (hdeps e he hb)
   .rw[getD_set_ne af hji]at z;exact getD_set_true (hcl j oj hoj z e he hb)
  .have h1:listed.toList[i]? =Z af:=by
    simp_all
   grind
def aBp (φ0:PM) (E:Nat->Prop) (e':EF) (h0 h':HF) (N:ι) (w0:World) (z:Act) (a:Act) (w:World):Prop:=
 ∃φ,jU φ0 φ h0 h' w0 w/\(∀i k,φ i=Z k->φ0 i=Z k\/i∈N)/\sV φ E h' w/\Sf φ (tot E φ h') w e' a/\a.defers=z.defers/\a.tmps.size=z.tmps.size
def jU.drew (w:World):jU T T A A w {w with drawn:=w.drawn+1}:=
 ⟨λ_ _ A=>A,⟨rfl,rfl,rfl,bK _,λ_ _ _=>rfl,λ_ _=>rfl⟩,λ_ _ A=>A⟩
def sV.moved {w':World} (r:sV T O A W) (m:jU T T A A W w') (z:∀k,own T A k->w'.heap[k]? =W.heap[k]?):sV T O A w':=
 ⟨r.inj,λi b h=>by
   let⟨k,h1,h2,o,h3,L⟩:=r.at_ i b h;exact⟨k,h1,h2,o,by rw[z k ⟨i,b,h,h1⟩];exact h3,L.mono λ_ _ A=>m.zj A⟩,λk z=>dv (r.el k z) m.ext.size,
   λg cells I=>m.keepF (r.gl g cells I)⟩
variable {b:Bool}
def Vv {l:Y v!} {e0 e':EF} {h':HF} {φ0:PM} {E:Nat->Prop} 
 (hm:P.follows .mixedOrders=J) (hl:l.map (·.1)=k.toList) (hc:C2 P k l e0 A e' h') (L:NIP k l) (hfr:∀n∈l.flatMap (λp=>p.2.N),φ0 n=U)
 (hsz:∀(j:Nat) o,k[j]? =Z o->∀d,o.dst=Z d->d<N.tmps.size) (hrep:sV φ0 E A W) (henv:Sf φ0 (tot E φ0 A) W e0 N) {Q:Exit->Act->World->Prop}
 (hQ:∀a w,aBp φ0 E e' A h' (l.flatMap (λp=>p.2.N)) W N a w->Q .normal a w):(Code.region i k b).wp P Q N W:=by
 have hfr':∀(j:Nat) o f,l[j]? =Z (o,f)->∀n∈f.N,φ0 n=U:=λj o f h0 n hn=>hfr n (xi.2 ⟨(o,f),ba h0,hn⟩)
 have fin:∀a w,StP φ0 E e0 A W N l (λ_=>J) a w->Q .normal a w:=by
  rintro a w ⟨φ,m,d,r,en,df,sz⟩;have I:=hc.final 0 (λ_=>J) (λ_ _=>rfl);rw[I.2]at m r en;rw[I.1]at en;refine hQ a w ⟨φ,m,λid ops h=>?_,r,en,df,sz⟩
  grind
 have st0:∀(w:World),jU φ0 φ0 A A W w->sV φ0 E A w->StP φ0 E e0 A W N l (λj=>(uN k.size af).getD j af) N w:=by
  intro w m r;have e1:(λj=>(uN k.size af).getD j af)=λ_=>af:=by
   funext j;rw[jX,Array.getElem?_replicate];split<;>rfl
  rw[e1];have e2:Q2 (λ_=>af) 0 l e0=e0:=by funext t;rw[FK];intros;rfl
  have e3:HR (λ_=>af) 0 l A=A:=by funext t;rw[FJ];intros;rfl
  refine ⟨φ0,by rw[e3];exact m,λ_ _ h=>.inl h,by rw[e3];exact r,?_,rfl,rfl⟩;rw[e2,e3];exact λt x hx=>m.zj (henv t x hx)
 have cl0:Je k (uN k.size af):=by
  intro j o ho h0;rw[jX,Array.getElem?_replicate]at h0;split at h0<;>simp at h0
 cases b with
 |true=>
  refine wp_region_any hm ?_;exact R9 hl hc L hfr' hsz fin k.size _ N _ (by simp) cl0 (by omega) (st0 _ (jU.drew W) (hrep.moved (jU.drew W) λ_ _=>rfl))
 |false=>
  have hany:=R9 (E:=E) (w0:=W) hl hc L hfr' hsz fin k.size _ N W (by simp) cl0 (by omega) (st0 _ (jU.refl _ _ _) hrep);refine wp_region ?_;have key:∀(m ops:Nat) (listed:Array Bool) (a:Act) (w:World),ops+m=k.size->listed.size=k.size->(∀j,j<ops->listed.getD j af=J)->(∀j,ops<=j->j<k.size->listed.getD j J=af)->
   wpAny P .any k Q m listed a w->wpOps P k Q (List.range' ops m) a w:=by
   intro m;induction m with
   |zero=>intro ops listed a w hk hs h1 I h;simpa[wpOps] using h.2
   |succ m ih=>
    intro ops listed a w hk hs h1 I h;have hkr:ops∈Lt .any k listed:=by
     refine mem_ready.2 ⟨I ops (bK _) (by omega),k[ops]'(by omega),pZ (by omega),λe he hb=>?_⟩;exact h1 _ (L.edge ops _ (pZ (by omega)) e he hb)
    refine wpOp_mono (λa' w' h'=>ih (ops+1) (listed.setIfInBounds ops J) a' w' (by omega) (by grind) ?_ ?_ h') (h.2 ops hkr)
    .intro j h0;by_cases hjk:ops=j
     .subst hjk;simp[show ops<listed.size by omega]
     .rw[getD_set_ne af hjk];exact h1 j (by omega)
    .intro j h0 hj2;rw[getD_set_ne J (by omega)];exact I j (by omega) hj2
  have:=key k.size 0 (uN k.size af) N W (by omega) (by simp) (by simp) (by
   intro j _ h0;rw[jX,Array.getElem?_replicate,aC h0];rfl) hany
  rwa [List.range_eq_range']
inductive PT (α:Type) where
 |leaf
 |node (v:Option α) (l r:PT α)
namespace PT
variable {α:Type}
def get:PT α->Nat->M α
 |leaf,_=>U
 |node v l r,n=>match n with
  |0=>v
  |m+1=>if aA (m%2) 0 then get l (m/2) else get r (m/2)
def SH:Nat->PT α->Nat->M α->PT α
 |0,t,_,_=>t
 |k+1,t,n,x=>match t with
  |leaf=>(match n with
   |0=>node x leaf leaf
   |m+1=>if aA (m%2) 0 then node U (SH k leaf (m/2) x) leaf else node U leaf (SH k leaf (m/2) x))
  |node v l r=>(match n with
   |0=>node x l r
   |m+1=>if aA (m%2) 0 then node v (SH k l (m/2) x) r else node v l (SH k r (m/2) x))
def set (t:PT α) (n:Nat) (x:M α):PT α:=SH (n+1) t n x
def Cq:∀(k:Nat) (t:PT α) (n:Nat) (x:M α),n<k->∀i,(SH k t n x).get i=if i=n then x else t.get i
 |0,_,_,_,h,_=>bT h (qe _)
 |k+1,t,n,x,h,i=>by
  cases n with
  |zero=>
   cases t<;>cases i<;>simp[SH,get]
  |succ m=>
   have hm:m/2<k:=by omega
   cases t with
   |leaf=>
    simp only[SH];cases L:aA (m%2) 0 with
    |true=>
     have I:m%2=0:=au L;simp[bt];cases i with
     |zero=>simp[get]
     |succ j=>
      simp only[get];cases A:aA (j%2) 0 with
      |true=>
       have z:j%2=0:=au A;simp[bt];rw[Cq k _ _ _ hm];by_cases he:j/2=m/2
       .grind
       .rw[av he,av (by omega)];rfl
      |false=>grind
    |false=>
     have I:¬m%2=0:=nU L;simp[cO,dZ];cases i with
     |zero=>simp[get]
     |succ j=>
      simp only[get];cases A:aA (j%2) 0 with
      |true=>grind
      |false=>
       have z:¬j%2=0:=nU A;simp[cO,dZ];rw[Cq k _ _ _ hm];by_cases he:j/2=m/2
       .grind
       .rw[av he,av (by omega)];rfl
   |node v l r=>
    simp only[SH];cases L:aA (m%2) 0 with
    |true=>
     have I:m%2=0:=au L;simp[bt];cases i with
     |zero=>simp[get]
     |succ j=>
      simp[get];cases A:aA (j%2) 0 with
      |true=>
       have z:j%2=0:=au A;rw[Cq k _ _ _ hm]
       grind
      |false=>grind
    |false=>
     have I:¬m%2=0:=nU L;simp[cO,dZ];cases i with
     |zero=>simp[get]
     |succ j=>
      simp[get];cases A:aA (j%2) 0 with
      |true=>grind
      |false=>
       have z:¬j%2=0:=nU A;rw[Cq k _ _ _ hm]
       grind
def get_set (t:PT α) (n:Nat) (x:M α) (i:Nat):(t.set n x).get i=if i=n then x else t.get i:=Cq (n+1) t n x (by omega) i
variable {R:Type}
def mask :PT α->PT R->PT α
 |leaf,_|node _ _ _,leaf=>leaf
 |node v l r,node u l' z=>node (match u with|some _=>v|none=>U) (mask l l') (mask r z)
def mk:M α->PT α->PT α->PT α
 |none,leaf,leaf=>leaf
 |v,l,r=>node v l r
def only (m:Nat):Nat->Nat->PT α->PT α
 |_,_,leaf=>leaf
 |a,b,node v l r=>mk (if aM m b then v else U) (only m (2*a) (a+b) l) (only m (2*a) (2*a+b) r)
def exc (m:Nat):Nat->Nat->PT α->PT α
 |_,_,leaf=>leaf
 |a,b,node v l r=>mk (if aM m b then U else v) (exc m (2*a) (a+b) l) (exc m (2*a) (2*a+b) r)
def merge (m:Nat):Nat->Nat->PT α->PT α->PT α
 |a,b,leaf,t=>only m a b t
 |a,b,node v l r,leaf=>exc m a b (node v l r)
 |a,b,node v l r,node z l' A=>mk (if aM m b then z else v) (merge m (2*a) (a+b) l l') (merge m (2*a) (2*a+b) r A)
def all (p:Nat->α->Bool):Nat->Nat->PT α->Bool
 |_,_,leaf=>J
 |a,b,node v l r=>(match v with|some x=>p b x|none=>J)&&all p (2*a) (a+b) l&&all p (2*a) (2*a+b) r
def get_all (p:Nat->α->Bool):∀(t:PT α) (a b i:Nat) (x:α),all p a b t=J->t.get i=Z x->p (a*i+b) x=J
 |leaf,_,_,_,_,_,h=>by simp[get]at h
 |node v l r,a,b,0,x,h,z=>by
  subst z;simp[all,al]at h
  grind
 |node v l r,a,b,j+1,x,h,z=>by
  simp[all,al]at h;simp only[get]at z;cases A:aA (j%2) 0 with
  |true=>
   have I:j%2=0:=au A;simp[A,bt]at z;have key:=get_all p l _ _ _ x h.1.2 z;have:2*a*(j/2)+(a+b)=a*(j+1)+b:=by
    have e:j=2*(j/2):=by omega
    grind
   rw[this]at key;exact key
  |false=>
   have I:¬j%2=0:=nU A;simp[A,cO,dZ]at z;have key:=get_all p r _ _ _ x h.2 z;have:2*a*(j/2)+(2*a+b)=a*(j+1)+b:=by
    have e:j=2*(j/2)+1:=by omega
    grind
   rw[this]at key;exact key
def dom:Nat->Nat->PT α->Nat->Nat
 |_,_,leaf,acc=>acc
 |a,b,node v l r,acc=>dom (2*a) (a+b) l (dom (2*a) (2*a+b) r (match v with|some _=>acc|||(1<<<b)|none=>acc))
def emp:PT α:=leaf
end PT
abbrev EJ:=PT AV
abbrev mY:=PT ko
abbrev NW:=Y (Nat×ko)
def EJ.put (e:EJ):M Nat->AV->EJ
 |none,_=>e
 |some d,x=>e.set d (Z x)
def jP:NW->HF
 |[],_=>U
 |(s,x)::r,t=>if aA s t then Z x else jP r t
def LX (acc:ι) (s:Nat) (e:Edge):Nat:=if C3 .any e then (s|||2^e.on)|||acc.getD e.on 0 else s
def OV:Y Oper->ι->ι
 |[],acc=>acc
 |o::r,acc=>OV r (acc++[o.after.toList.foldl (LX acc) 0])
def OW {o:Oper} {ops:Nat} {acc:ι} (I:k[ops]? =Z o) (ha:∀(j:Nat) B,acc[j]? =Z B->∀i,B.testBit i=J->Bef k j i):
 ∀(es:Y Edge) (s:Nat),(∀e∈es,e∈o.after)->(∀i,s.testBit i=J->Bef k ops i)->∀i,(es.foldl (LX acc) s).testBit i=J->Bef k ops i
 |[],s,_,z,i,hi=>z i hi
 |e::r,s,he,z,i,hi=>by
  refine OW I ha r (LX acc s e) (λe' h'=>he e' (cY _ h')) (λi hi=>?_) i hi;unfold LX at hi;split at hi
  .rename_i L;rw[bq,bq,mZ,mZ]at hi;rcases hi with (hi|hi)|hi
   .exact z i hi
   .rw[Nat.testBit_two_pow]at hi;have:e.on=i:=by grind
    subst this;exact .one I (he e (dK ..)) L
   .refine .more I (he e (dK ..)) L ?_;rw[aD]at hi;cases A:acc[e.on]? with
    |none=>rw[A]at hi;simp at hi
    |some C=>rw[A]at hi;exact ha _ C A i hi
  .exact z i hi
def R8 {ops:Array Oper}:∀(rest:Y Oper) (acc:ι),(∀(j:Nat),∀o,rest[j]? =Z o->ops[l! acc+j]? =Z o)->
 (∀(j:Nat) B,acc[j]? =Z B->∀i,B.testBit i=J->Bef ops j i)->∀(j:Nat) B,(OV rest acc)[j]? =Z B->∀i,B.testBit i=J->Bef ops j i
 |[],acc,_,A=>A
 |o::r,acc,I,A=>by
  refine R8 r _ (λj o' z=>?_) ?_
  .rw[bH,dI,show (l! acc)+1+j=l! acc+(j+1) from by omega];simp_all
  .intro j B z i hi;rcases cN j (l! acc) with h|h
   .grind
   .rw[bS h]at z;have L:j-l! acc=0:=by grind
    have hjl:j=l! acc:=by omega
    subst hjl;simp at z;subst z;have hoo:ops[l! acc]? =Z o:=by simpa using I 0 o rfl
    rw[<- Array.foldl_toList]at hi;exact OW hoo A _ 0 (λe he=>by simpa using he) (λi hi=>by simp at hi) i hi
inductive U0 where
 |mv (x:Operand)
 |pick (c a b:Operand)
 |alloc (ty:TypeId) (z:ξ)
 |box (ty:TypeId) (x:Operand)
 |build (z:ξ) (parts:List (Nat×Nat×Operand))
 |xz (ty:TypeId) (sz len:Nat) (z:ξ) (parts:List (Nat×Nat×Operand))
 |load (sz:Nat) (ag:Bool) (x:Operand)
 |store (sz:Nat) (x v:Operand)
 |jz (x:Operand)
 |bin (op:BinOp) (x y:Operand)
 |jh (neg:Bool) (ds:List TypeDesc) (x y:Operand)
 |zn (neg:Bool) (x:Operand)
 |xq (neg:Bool) (x y:Operand)
 |not (x:Operand)
 |conv (k:IntKind) (x:Operand)
 |zh (ty:TypeId) (sz bytes:Nat) (z:ξ) (l c:Operand)
 |slc (sz:Nat) (x:Operand) (lo hi mx:Option Operand)
 |jp (off:Nat) (x:Operand)
 |fld (off sz:Nat) (ag:Bool) (x:Operand)
 |jb (sz:Nat) (x i:Operand)
 |jk (n sz:Nat) (x i:Operand)
 |idx (n sz:Nat) (ag:Bool) (x i:Operand)
 |ext (x:Operand) (i:Nat)
 |len (x:Operand)
 |lens (x:Operand)
 |max (x y:Operand)
 |min (x y:Operand)
 |jv (x i:Operand)
 |app (ty:TypeId) (sz bytes:Nat) (s x:Operand)
 |copy (sz:Nat) (d x:Operand)
 |clr (sz:Nat) (z:ξ) (x:Operand)
 |mkf (f:FuncId) (caps:List Operand)
 |mkm
 |jf (str ok:Bool) (z:Value) (x k:Operand)
 |jg (str:Bool) (x k v:Operand)
 |rng (x:Operand)
 |nxt (x:Operand)
 |jw (neg:Bool) (x:Operand)
 |lkq (ds:List TypeDesc) (z:Value) (x k:Operand)
 |mpq (ds:List TypeDesc) (x k v:Operand)
 |dlq (ds:List TypeDesc) (x k:Operand)
 |jq
inductive SI where
 |op (s:U0)
 |call (f:FuncId) (args:List Operand)
 |jt (x:Operand) (args:List Operand)
def mem (t:Nat):ι->Bool
 |[]=>af
 |x::r=>aA x t||mem t r
def OP:ξ->Bool
 |[]=>J
 |v::r=>v.oneCell'&&OP r
def I3:Value->AV
 |.agg vs=>if OP vs.toList then .agg (vs.toList.map λv=>.f (.raw v)) else .f (.raw (.agg vs))
 |v=>.f (.raw v)
def mm (e:EJ):Operand->M AV
 |.tmp t=>e.get t
 |.const v=>Z (I3 v)
 |.func g=>Z (.qf g [])
 |.global g=>match G g with|some cells=>Z (.f (.K cells 0))|none=>U
def evs (e:EJ):Y Operand->M (Y AV)
 |[]=>Z []
 |x::xs=>match mm e x with|some y=>(match evs e xs with|some z=>Z (y::z)|none=>U)|none=>U
structure EG where
 val:AV
 rd:ι
 wr:ι
 nw:NW
 N:ι
def EG.eff (r:EG):EL:=⟨r.val,r.rd,r.wr,jP r.nw,r.N⟩
def rv (x:AV):M EG:=Z ⟨x,[],[],[],[]⟩
def raw (v:Value):AV:=.f (.raw v)
def pkV (ok:Bool) (v:AV) (b:Bool):AV:=match ok with|true=>.qp [v,raw (.bool b)]|false=>v
def zK:Y AV->M (Y FV)
 |[]=>Z []
 |.f x::r=>match zK r with|some l=>Z (x::l)|none=>U
 |_::_=>U
def oO (l:Y AV):BC:=match zK l with|some z=>.fz z|none=>.mx l
def Re (l:Y AV):AV:=match zK l with|some z=>.f (.agg z)|none=>.agg l
variable {R:Type}
def splice (l:Y R) (off:Nat) (vs:Y R):Y R:=l.take off++vs++l.drop (off+l! vs)
def BC.toMx:BC->Y AV
 |.fz l=>l.map .f
 |.mx l=>l
 |_=>[]
def gD:Y AV->Bool
 |[]=>J
 |x::r=>x.isCell&&gD r
def BC.put (c:BC) (off:Nat) (vs:Y AV):M BC:=
 if c.isCells&&dY (off+l! vs) c.len&&gD vs then
  match c,zK vs with
  |.fz l,Z z=>Z (.fz (splice l off z))
  |c,_=>Z (.mx (splice c.toMx off vs))
 else U
def BC.sub? (c:BC) (off sz:Nat):Bool->M AV
 |false=>match sz with|1=>c.get off|_=>U
 |true=>match c with
  |.fz l=>if dY (off+sz) (l! l) then Z (.f (.agg ((l.drop off).take sz))) else U
  |.mx l=>if dY (off+sz) (l! l) then Z (.agg ((l.drop off).take sz)) else U
  |_=>U
def AV.cs:AV->Y AV
 |.agg l=>l
 |.f (.agg l)=>l.map .f
 |x=>[x]
def xQ (h:mY) (sz:Nat) (z:Bool):AV->M EG
 |.K id off=>match h.get id with
  |some b=>(match b.c.sub? off sz z with|some v=>Z ⟨v,[id],[],[],[]⟩|none=>U)
  |none=>U
 |.f (.K cells off)=>(match (BC.fz cells).sub? off sz z with|some v=>rv v|none=>U)
 |_=>U
def CV (h:mY) (sz:Nat) (v:AV):AV->M EG
 |.K id off=>match h.get id with
  |some b=>if (l! v.cs)==sz then (match b.c.put off v.cs with|some c=>Z ⟨raw undef,[id],[id],[(id,⟨b.ty,c⟩)],[]⟩|none=>U) else U
  |none=>U
 |_=>U
abbrev m?:=Nat×Nat×Operand
def Cy (cells:Y AV) (e:EJ):Y m?->M (Y AV)
 |[]=>Z cells
 |(off,sz,x)::r=>match mm e x with
  |some v=>if (l! v.cs)==sz&&dY (off+sz) (l! cells)&&gD v.cs then Cy (splice cells off v.cs) e r else U
  |none=>U
def cX (a b:Int):Bool:=decide (a<=b)
def gI (a b:Int):Bool:=decide (a<b)
def QW (k:IntKind) (n:Int):Int:=
 match k with
 |.i64=>if cX (-9223372036854775808) n&&cX n 9223372036854775807 then n else qL .i64 n
 |.u8=>if cX 0 n&&cX n 255 then n else qL .u8 n
 |k=>qL k n
def nok:Int->Bool
 |.ofNat k|.negSucc k=>aA k k
def aya (n:Int):nok n=J:=by cases n<;>exact qI _
def a_ (k:IntKind) (n:Int):Int:=bif nok n then QW k n else 0
def Ly (k:IntKind) (n:Int):a_ k n=QW k n:=by unfold a_;rw[aya];rfl
def ue (a b:ByteArray):Bool:=a.data.toList==b.data.toList
def w_ (op:BinOp):Value->Value->M Value
 |.int k a,.int z b=>if k==z then
   match op with
   |.add=>Z (.int k (a_ k (a+b)))
   |.sub=>Z (.int k (a_ k (a-b)))
   |.mul=>Z (.int k (a_ k (a*b)))
   |.rem=>if b==0 then U else Z (.int k (a.tmod b))
   |.quo=>if b==0 then U else Z (.int k (a_ k (a.tdiv b)))
   |.eql=>Z (.bool (a==b))
   |.neq=>Z (.bool (a !=b))
   |.lss=>Z (.bool (gI a b))
   |.leq=>Z (.bool (cX a b))
   |.gtr=>Z (.bool (gI b a))
   |.geq=>Z (.bool (cX b a))
   |_=>U
  else U
 |.string a,.string b=>match op with
   |.eql=>Z (.bool (ue a b))
   |.neq=>Z (.bool !(ue a b))
   |_=>U
 |_,_=>U
def wL:TypeDesc->FV->FV->M Bool
 |.int _,.raw (.int k a),.raw (.int z b)=>if k==z then Z (a==b) else U
 |.bool,.raw (.bool a),.raw (.bool b)=>Z (a==b)
 |.string,.raw (.string a),.raw (.string b)=>Z (ue a b)
 |_,_,_=>U
def jL:Y TypeDesc->Y FV->Y FV->M Bool
 |[],[],[]=>Z J
 |d::ds,x::xs,y::z=>match wL d x y with
  |some J=>jL ds xs z
  |some af=>Z af
  |none=>U
 |_,_,_=>U
def AV.row? (h:mY) (sz:Nat):AV->M (Y AV×Nat×ι)
 |.f (.sl cells n)=>if dY (n*sz) (l! cells) then Z ((cells.take (n*sz)).map .f,n,[]) else U
 |.f (.raw (.slice U 0 0))|.emp=>Z ([],0,[])
 |.I id sz' n=>if sz'==sz then (match h.get id with|some b=>if b.c.isCells&&dY (n*sz) b.c.len then Z (b.c.toMx.take (n*sz),n,[id]) else U|none=>U) else U
 |.sl id off n=>match h.get id with|some b=>if b.c.isCells&&dY (off+n*sz) b.c.len then Z ((b.c.toMx.drop off).take (n*sz),n,[id]) else U|none=>U
 |_=>U
def AV.slen:AV->M Nat
 |.f (.sl _ n)|.f (.raw (.slice _ n _))=>Z n
 |.emp=>Z 0
 |.I _ _ n|.sl _ _ n=>Z n
 |_=>U
def bg (n bytes:Nat):Bool:=dY n 1099511627776&&dY (n*bytes) 1099511627776
def repl (z:ξ):Nat->Y FV
 |0=>[]
 |n+1=>z.map .raw++repl z n
def Dk:Value->Bool
 |.slice U 0 0=>J
 |_=>af
def Ff:AV->Bool
 |.emp=>J
 |.f (.raw v)=>Dk v
 |_=>af
def t7 (k:Value):Y k?->M (M AV)
 |[]=>Z U
 |(z,v)::r=>match w_ .eql k z with
  |some (.bool J)=>Z (Z v)
  |some (.bool af)=>t7 k r
  |_=>U
def As (k:Value) (v:AV):Y k?->M (Y k?)
 |[]=>Z [(k,v)]
 |(z,A)::r=>match w_ .eql k z with
  |some (.bool J)=>Z ((k,v)::r)
  |some (.bool af)=>(match As k v r with|some I=>Z ((z,A)::I)|none=>U)
  |_=>U
def Jp:Y FV->M ξ
 |[]=>Z []
 |.raw v::r=>match Jp r with|some l=>Z (v::l)|none=>U
 |_::_=>U
def aft:AV->M ξ
 |.f (.agg l)=>Jp l
 |.agg l=>match zK l with|some z=>Jp z|none=>U
 |_=>U
def afs (ds:Y TypeDesc) (y:AV):M ξ:=match aft y with
 |some l=>if (l! l)==l! ds then Z l else U
 |none=>U
def D8 (ds:Y TypeDesc) (k:ξ):Value->M Bool
 |.agg z=>jL ds (k.map .raw) (z.toList.map .raw)
 |_=>U
def Jo (ds:Y TypeDesc) (k:ξ):Y k?->M (M AV)
 |[]=>Z U
 |(z,v)::r=>match D8 ds k z with
  |some J=>Z (Z v)
  |some af=>Jo ds k r
  |none=>U
def Y6 (ds:Y TypeDesc) (k:ξ) (v:AV):Y k?->M (Y k?)
 |[]=>Z [(.agg k.toArray,v)]
 |(z,A)::r=>match D8 ds k z with
  |some J=>Z ((.agg k.toArray,v)::r)
  |some af=>(match Y6 ds k v r with|some I=>Z ((z,A)::I)|none=>U)
  |none=>U
def Y7 (ds:Y TypeDesc) (k:ξ):Y k?->M (Y k?)
 |[]=>Z []
 |(z,A)::r=>match D8 ds k z with
  |some J=>Z r
  |some af=>(match Y7 ds k r with|some I=>Z ((z,A)::I)|none=>U)
  |none=>U
def yR:Bool->Value->Bool
 |false,.int _ _=>J
 |true,.string _=>J
 |_,_=>af
def rnA (b:UInt8) (s:ByteArray) (p:Nat):Int:=bif eK b.toNat 128 then b.toNat else (Utf8.decode s p).1
def wdA (b:UInt8) (s:ByteArray) (p:Nat):Nat:=bif eK b.toNat 128 then 1 else (Utf8.decode s p).2
def dE (s:U0) (e:EJ) (h:mY) (nx:Nat):M EG:=
 match s with
 |.mv x=>match mm e x with|some v=>rv v|none=>U
 |.pick c a b=>match mm e c with
  |some (.f (.raw (.bool t)))=>(match mm e (if t then a else b) with|some v=>rv v|none=>U)
  |_=>U
 |.alloc ty z=>Z ⟨.K nx 0,[],[nx],[(nx,⟨ty,.fz (z.map .raw)⟩)],[nx]⟩
 |.box ty x=>match mm e x with
  |some v=>if gD v.cs then Z ⟨.K nx 0,[],[nx],[(nx,⟨ty,oO v.cs⟩)],[nx]⟩ else U
  |none=>U
 |.build z parts=>match Cy (z.map raw) e parts with|some cs=>rv (Re cs)|none=>U
 |.xz ty sz len z parts=>match Cy ((repl z len).map .f) e parts with
  |some cs=>Z ⟨if len=0 then .emp else .I nx sz len,[],[nx],[(nx,⟨ty,oO cs⟩)],[nx]⟩
  |none=>U
 |.load sz A x=>match mm e x with|some p=>xQ h sz A p|none=>U
 |.store sz x v=>match mm e x,mm e v with|some p,Z y=>CV h sz y p|_,_=>U
 |.jz x=>match mm e x with
  |some (.K id off)=>rv (.K id off)
  |some (.f (.K cells off))=>rv (.f (.K cells off))
  |some (.qf g cap)=>rv (.qf g cap)
  |_=>U
 |.bin op x y=>match mm e x,mm e y with
  |some (.f (.raw u)),Z (.f (.raw v))=>(match w_ op u v with|some r=>rv (raw r)|none=>U)
  |_,_=>U
 |.jh neg ds x y=>match mm e x,mm e y with
  |some (.f (.agg a)),Z (.f (.agg b))=>(match jL ds a b with|some r=>rv (raw (.bool (r !=neg)))|none=>U)
  |_,_=>U
 |.xq neg x y=>match mm e x,mm e y with
  |some (.f (.raw (.bool a))),Z (.f (.raw (.bool b)))=>rv (raw (.bool ((a==b) !=neg)))
  |_,_=>U
 |.zn neg x=>match mm e x with
  |some (.I _ _ _)|some (.sl _ _ _)|some (.f (.sl _ (_+1)))=>rv (raw (.bool neg))
  |some (.f (.sl _ 0))|some .emp=>rv .qy
  |some (.f (.raw v))=>if Dk v then rv (raw (.bool !neg)) else U
  |_=>U
 |.not x=>match mm e x with|some (.f (.raw (.bool b)))=>rv (raw (.bool !b))|_=>U
 |.conv k x=>match mm e x with|some (.f (.raw (.int _ n)))=>rv (raw (.int k (a_ k n)))|_=>U
 |.zh ty sz bytes z l c=>match mm e l,mm e c with
  |some (.f (.raw (.int _ a))),Z (.f (.raw (.int _ b)))=>
   if cX 0 a&&cX a b&&bg b.toNat bytes then Z ⟨.I nx sz a.toNat,[],[nx],[(nx,⟨ty,.fz (repl z a.toNat)⟩)],[nx]⟩ else U
  |_,_=>U
 |.slc sz x L hi mx=>match mm e x with
  |some v=>match L,hi,mx with
   |none,Z b,U=>match v,mm e b with
    |.I id sz' n,Z (.f (.raw (.int _ j)))=>if sz'==sz&&cX 0 j&&cX j n then (match h.get id with
     |some blk=>if blk.c.isCells&&dY (n*sz) blk.c.len then Z ⟨.I nx sz j.toNat,[id],[nx,id],[(nx,⟨blk.ty,oO (blk.c.toMx.take (j.toNat*sz))⟩)],[nx]⟩ else U
     |none=>U) else U
    |.f (.sl cells n),Z (.f (.raw (.int _ j)))=>if cX 0 j&&cX j n&&dY (n*sz) (l! cells) then rv (.f (.sl (cells.take (j.toNat*sz)) j.toNat)) else U
    |_,_=>U
   |some b,U,U=>match v,mm e b with
    |.I id sz' n,Z (.f (.raw (.int _ j)))=>if sz'==sz&&cX 0 j&&gI j n then rv (.sl id (j.toNat*sz) (n-j.toNat)) else U
    |.f (.sl cells n),Z (.f (.raw (.int _ j)))=>if cX 0 j&&cX j n&&dY (n*sz) (l! cells) then rv (.f (.sl ((cells.drop (j.toNat*sz)).take ((n-j.toNat)*sz)) (n-j.toNat))) else U
    |_,_=>U
   |some b,Z b',U=>match v,mm e b,mm e b' with
    |.f (.sl cells n),Z (.f (.raw (.int _ j))),Z (.f (.raw (.int _ k)))=>if cX 0 j&&cX j k&&cX k n&&dY (n*sz) (l! cells) then rv (.f (.sl ((cells.drop (j.toNat*sz)).take ((k.toNat-j.toNat)*sz)) (k.toNat-j.toNat))) else U
    |_,_,_=>U
   |_,_,_=>U
  |none=>U
 |.jp off x=>match mm e x with
  |some (.K id o)=>rv (.K id (o+off))
  |some (.f (.K cells o))=>rv (.f (.K cells (o+off)))
  |_=>U
 |.fld off sz A x=>match mm e x with
  |some (.agg l)=>(match (BC.mx l).sub? off sz A with|some v=>rv v|none=>U)
  |some (.f (.agg l))=>(match (BC.fz l).sub? off sz A with|some v=>rv v|none=>U)
  |_=>U
 |.jb sz x i=>match mm e x,mm e i with
  |some v,Z (.f (.raw (.int _ j)))=>match v with
   |.I id sz' n=>if sz'==sz&&cX 0 j&&gI j n then rv (.K id (j.toNat*sz)) else U
   |.sl id off n=>if cX 0 j&&gI j n then rv (.K id (off+j.toNat*sz)) else U
   |.f (.sl cells n)=>if cX 0 j&&gI j n then rv (.f (.K cells (j.toNat*sz))) else U
   |_=>U
  |_,_=>U
 |.jk n sz x i=>match mm e x,mm e i with
  |some v,Z (.f (.raw (.int _ j)))=>if cX 0 j&&gI j n then (match v with
   |.K id off=>rv (.K id (off+j.toNat*sz))
   |.f (.K cells off)=>rv (.f (.K cells (off+j.toNat*sz)))
   |_=>U) else U
  |_,_=>U
 |.idx n sz A x i=>match mm e x,mm e i with
  |some v,Z (.f (.raw (.int _ j)))=>if cX 0 j&&gI j n then (match v with
   |.agg l=>(match (BC.mx l).sub? (j.toNat*sz) sz A with|some v=>rv v|none=>U)
   |.f (.agg l)=>(match (BC.fz l).sub? (j.toNat*sz) sz A with|some v=>rv v|none=>U)
   |_=>U) else U
  |_,_=>U
 |.ext x i=>match mm e x with|some (.qp l)=>(match l[i]? with|some v=>rv v|none=>U)|_=>U
 |.len x=>match mm e x with
  |some v=>(match v.slen with|some n=>rv (raw (.int .i64 n))|none=>U)
  |none=>U
 |.lens x=>match mm e x with
  |some (.f (.raw (.string s)))=>rv (raw (.int .i64 (l! s.data.toList)))
  |_=>U
 |.max x y=>match mm e x,mm e y with
  |some (.f (.raw (.int k a))),Z (.f (.raw (.int _ b)))=>rv (raw (.int k (if gI a b then b else a)))
  |_,_=>U
 |.min x y=>match mm e x,mm e y with
  |some (.f (.raw (.int k a))),Z (.f (.raw (.int _ b)))=>rv (raw (.int k (if gI b a then b else a)))
  |_,_=>U
 |.jv x i=>match mm e x,mm e i with
  |some (.f (.raw (.string s))),Z (.f (.raw (.int _ j)))=>if cX 0 j then (match s.data.toList[j.toNat]? with|some b=>rv (raw (.int .u8 b.toNat))|none=>U) else U
  |_,_=>U
 |.app ty sz bytes s x=>match mm e s,mm e x with
  |some b,Z y=>match y.row? h sz with
   |some (src,m,rd)=>match b with
    |.I id sz' n=>match h.get id with
     |some blk=>if sz'==sz&& !(mem id rd)&&blk.c.isCells&&dY (n*sz) blk.c.len&&blk.ty==ty&&bg (n+m) bytes then
       Z ⟨.I nx sz (n+m),id::rd,[nx,id],[(nx,⟨ty,oO (blk.c.toMx.take (n*sz)++src)⟩)],[nx]⟩ else U
     |none=>U
    |b=>if Ff b&&bg m bytes then
      (if m==0 then Z ⟨b,rd,[],[],[]⟩ else Z ⟨.I nx sz m,rd,[nx],[(nx,⟨ty,oO src⟩)],[nx]⟩) else U
   |none=>U
  |_,_=>U
 |.copy sz d x=>match mm e d,mm e x with
  |some (.I id sz' n),Z y=>(match h.get id,y.row? h sz with
   |some blk,Z (src,m,rd)=>if sz'==sz&& !(mem id rd)&&dY (n*sz) blk.c.len then
     (match blk.c.put 0 (src.take (lQ m n*sz)) with
     |some c=>Z ⟨raw (.int .i64 (lQ m n)),id::rd,[id],[(id,⟨blk.ty,c⟩)],[]⟩
     |none=>U) else U
   |_,_=>U)
  |_,_=>U
 |.clr _ z x=>match mm e x with
  |some (.sl id off n)=>(match h.get id with
   |some blk=>if eK 0 n then (match blk.c.put off ((repl z n).map .f) with
    |some c=>Z ⟨.qp [],[id],[id],[(id,⟨blk.ty,c⟩)],[]⟩
    |none=>U) else U
   |none=>U)
  |_=>U
 |.mkf f caps=>match evs e caps with|some l=>rv (.qf f l)|none=>U
 |.mkm=>Z ⟨.mp nx,[],[nx],[(nx,⟨0,.mp []⟩)],[nx]⟩
 |.jf str ok z x k=>match mm e x,mm e k with
  |some (.mp id),Z (.f (.raw key))=>(match h.get id with
   |some ⟨0,.mp es⟩=>if yR str key then (match t7 key es with|some (Z v)=>Z ⟨pkV ok v J,[id],[],[],[]⟩|some U=>Z ⟨pkV ok (raw z) af,[id],[],[],[]⟩|none=>U) else U
   |_=>U)
  |_,_=>U
 |.jg str x k v=>match mm e x,mm e k,mm e v with
  |some (.mp id),Z (.f (.raw key)),Z y=>(match h.get id with
   |some ⟨0,.mp es⟩=>if yR str key then (match As key y es with|some es'=>Z ⟨raw undef,[id],[id],[(id,⟨0,.mp es'⟩)],[]⟩|none=>U) else U
   |_=>U)
  |_,_,_=>U
 |.rng x=>match mm e x with
  |some (.f (.raw (.string s)))=>Z ⟨.K nx 0,[],[nx],[(nx,⟨0,.it s 0⟩)],[nx]⟩
  |_=>U
 |.nxt x=>match mm e x with
  |some (.K id 0)=>(match h.get id with
   |some ⟨ty,.it s p⟩=>(match s.data.toList[p]? with
    |some b=>Z ⟨.qp [raw (.bool J),raw (.int .i64 p),raw (.int .i32 (rnA b s p))],[id],[id],[(id,⟨ty,.it s (p+wdA b s p)⟩)],[]⟩
    |none=>Z ⟨.qp [raw (.bool af)],[id],[id],[(id,⟨ty,.it s p⟩)],[]⟩)
   |_=>U)
  |_=>U
 |.jw neg x=>match mm e x with
  |some (.K _ _)|some (.f (.K _ _))=>rv (raw (.bool neg))
  |some (.f (.raw (.pointer U)))=>rv (raw (.bool !neg))
  |_=>U
 |.lkq ds z x k=>match mm e x,(mm e k).bind (afs ds) with
  |some (.mp id),Z key=>(match h.get id with
   |some ⟨0,.mp es⟩=>(match Jo ds key es with
    |some (Z v)=>Z ⟨v,[id],[],[],[]⟩
    |some U=>Z ⟨raw z,[id],[],[],[]⟩
    |none=>U)
   |_=>U)
  |_,_=>U
 |.mpq ds x k v=>match mm e x,(mm e k).bind (afs ds),mm e v with
  |some (.mp id),Z key,Z y=>(match h.get id with
   |some ⟨0,.mp es⟩=>(match Y6 ds key y es with|some es'=>Z ⟨raw undef,[id],[id],[(id,⟨0,.mp es'⟩)],[]⟩|none=>U)
   |_=>U)
  |_,_,_=>U
 |.dlq ds x k=>match mm e x,(mm e k).bind (afs ds) with
  |some (.mp id),Z key=>(match h.get id with
   |some ⟨0,.mp es⟩=>(match Y7 ds key es with|some es'=>Z ⟨.qp [],[id],[id],[(id,⟨0,.mp es'⟩)],[]⟩|none=>U)
   |_=>U)
  |_,_=>U
 |.jq=>U
structure uJ where
 dst:Option Nat
 op:SI
 guard:Option (Nat×Bool)
inductive SC where
 |skip
 |jy (ops:List uJ) (prs:List (Nat×Nat))
 |seq (a b:SC)
 |cond (c:Nat) (a b:SC)
 |block (id:Nat) (b:SC)
 |loop (b:SC)
 |exit (id:Nat)
 |ret
 |defer (f:FuncId) (caps:List Operand) (t:Nat)
 |jq
structure aBo where
 val:AV
 h:mY
 nx:Nat
 wr:Nat
abbrev af6:=FuncId->Y AV->mY->Nat->M aBo
mutual
def AV.ids:AV->Nat->Nat
 |.K id _,acc|.sl id _ _,acc|.I id _ _,acc|.mp id,acc=>acc|||(1<<<id)
 |.agg l,acc|.qp l,acc|.qf _ l,acc=>AV.idsL l acc
 |.f _,acc|.emp,acc|.qy,acc=>acc
def AV.idsL:Y AV->Nat->Nat
 |[],acc=>acc
 |x::r,acc=>AV.idsL r (AV.ids x acc)
end
mutual
def AV.all (p:Nat->Bool):AV->Bool
 |.K id _|.sl id _ _|.I id _ _|.mp id=>p id
 |.agg l|.qp l|.qf _ l=>AV.allL p l
 |.f _=>J
 |.emp=>J
 |.qy=>J
def AV.allL (p:Nat->Bool):Y AV->Bool
 |[]=>J
 |x::r=>AV.all p x&&AV.allL p r
end
def BC.ids:BC->Nat->Nat
 |.mx l,acc=>AV.idsL l acc
 |.mp es,acc=>AV.idsL (es.map (·.2)) acc
 |_,acc=>acc
def BC.all (p:Nat->Bool):BC->Bool
 |.mx l=>AV.allL p l
 |.mp es=>AV.allL p (es.map (·.2))
 |_=>J
def mY.all (p:Nat->Bool) (h:mY):Bool:=PT.all (λi b=>p i&&b.c.all p) 1 0 h
def acu:Nat->mY->Nat->Nat->Nat
 |0,_,_,Pz=>Pz
 |n+1,h,todo,Pz=>
  if aA todo 0 then Pz else
  match Nat.log2 todo with
  |id=>if aM Pz id then acu n h (todo ^^^ (1<<<id)) Pz else
   match h.get id with
   |some b=>acu n h (b.c.ids (todo ^^^ (1<<<id))) (Pz|||(1<<<id))
   |none=>acu n h (todo ^^^ (1<<<id)) Pz
section force
variable {α:Type}
def uX (n:Nat) (k:Nat->α):α:=match n with|0=>k 0|m+1=>k (m+1)
def frcI (n:Int) (k:Int->α):α:=match n with|.ofNat m=>uX m λm=>k (.ofNat m)|.negSucc m=>uX m λm=>k (.negSucc m)
def frcB (b:Bool) (k:Bool->α):α:=match b with|true=>k J|false=>k af
def frcV (v:Value) (k:Value->α):α:=match v with
 |.int kd n=>frcI n λn=>k (.int kd n)
 |.bool b=>frcB b λb=>k (.bool b)
 |v=>k v
def ayn (x:FV) (k:FV->α):α:=match x with
 |.raw v=>frcV v λv=>k (.raw v)
 |.K cells off=>uX off λoff=>k (.K cells off)
 |.sl cells n=>uX n λn=>k (.sl cells n)
 |.agg l=>k (.agg l)
def al9:Y FV->(Y FV->α)->α
 |[],k=>k []
 |x::r,k=>ayn x λx=>al9 r λr=>k (x::r)
def aym (x:FV) (k:FV->α):α:=match x with
 |.agg l=>al9 l λl=>k (.agg l)
 |x=>ayn x k
def ast (x:AV) (k:AV->α):α:=match x with
 |.f x=>aym x λx=>k (.f x)
 |.K id off=>uX id λid=>uX off λoff=>k (.K id off)
 |.sl id off n=>uX id λid=>uX off λoff=>uX n λn=>k (.sl id off n)
 |.I id sz n=>uX id λid=>uX sz λsz=>uX n λn=>k (.I id sz n)
 |.mp id=>uX id λid=>k (.mp id)
 |x=>k x
def WF:Y AV->(Y AV->α)->α
 |[],k=>k []
 |x::r,k=>ast x λx=>WF r λr=>k (x::r)
def ayo (x:AV) (k:AV->α):α:=match x with
 |.agg l=>WF l λl=>k (.agg l)
 |.qp l=>WF l λl=>k (.qp l)
 |.qf f l=>WF l λl=>k (.qf f l)
 |x=>ast x k
def frcC (c:BC) (k:BC->α):α:=match c with
 |.fz l=>al9 l λl=>k (.fz l)
 |.mx l=>WF l λl=>k (.mx l)
 |.it s p=>uX p λp=>k (.it s p)
 |.mp es=>k (.mp es)
def WE :PT R->(PT R->α)->α
 |.leaf,k=>k .leaf
 |.node v l r,k=>(match v with
  |none=>λ(k:M R->α)=>k U
  |some x=>λk=>k (Z x)) λv=>WE l λl=>WE r λr=>k (.node v l r)
def Y4 :Nat->PT R->Nat->M R->(PT R->α)->α
 |0,t,_,_,k=>k t
 |f+1,t,n,x,k=>match t with
  |.leaf=>(match n with
   |0=>k (.node x .leaf .leaf)
   |m+1=>if aA (m%2) 0 then uX (m/2) λq=>Y4 f .leaf q x λu=>k (.node U u .leaf) else uX (m/2) λq=>Y4 f .leaf q x λu=>k (.node U .leaf u))
  |.node v l r=>(match n with
   |0=>k (.node x l r)
   |m+1=>if aA (m%2) 0 then uX (m/2) λq=>Y4 f l q x λu=>k (.node v u r) else uX (m/2) λq=>Y4 f r q x λu=>k (.node v l u))
def TY :∀(x:PT R) (k:PT R->α),WE x k=k x
 |.leaf,_=>rfl
 |.node v l r,k=>by cases v<;>simp[WE,TY l,TY r]
end force
structure IS where
 e:EJ
 h:mY
 nx:Nat
 wr:Nat
structure atd where
 val:AV
 rd:Nat
 wr:Nat
 h:mY
 nx:Nat
def bits:ι->Nat->Nat
 |[],acc=>acc
 |x::r,acc=>bits r (acc|||(1<<<x))
def atq (h:mY) (z:NW):ι->(mY->R)->R
 |[],k=>k h
 |i::r,k=>match jP z i with
  |none=>Y4 (i+1) h i U λh=>atq h z r k
  |some ⟨ty,c⟩=>frcC c λc=>Y4 (i+1) h i (Z ⟨ty,c⟩) λh=>atq h z r k
def asz (call:af6) (f:FuncId) (args:Y AV) (h:mY) (nx:Nat):M atd:=
 uX (acu 1000000 h (AV.idsL args 0) 0) λids=>WE (PT.only ids 1 0 h) λA=>
 if AV.allL (eK · nx) args&&mY.all (eK · nx) A then
  match call f args A nx with
  |some ⟨val,h',nx',z⟩=>ayo val λval=>uX nx' λnx'=>uX z λz=>WE (PT.merge z 1 0 h h') λhm=>Z ⟨val,ids,z,hm,nx'⟩
  |none=>U
 else U
def opA (call:af6) (o:SI) (e:EJ) (h:mY) (nx:Nat):M atd:=
 match o with
 |.call f args=>match evs e args with|some l=>asz call f l h nx|none=>U
 |.jt x args=>match mm e x,evs e args with|some (.qf f cap),Z l=>asz call f (l++cap) h nx|_,_=>U
 |.op o=>match dE o e h nx with
  |some ⟨val,rd,z,I,N⟩=>ayo val λval=>uX (bits rd 0) λrd=>uX (bits z 0) λA=>uX (nx+l! N) λnx'=>atq h I z λh=>Z ⟨val,rd,A,h,nx'⟩
  |none=>U
def axv (e:EJ):M (Nat×Bool)->M Bool
 |none=>Z J
 |some (t,want)=>match e.get t with
  |some (.f (.raw (.bool b)))=>Z (b==want)
  |some (.f (.raw (.tuple _)))=>Z af
  |_=>U
def au8 (e:EJ) (dst:M Nat) (v:AV) (k:EJ->R):R:=match dst with
 |none=>k e
 |some d=>Y4 (d+1) e d (Z v) k
structure FPm where
 rd:Nat
 wr:Nat
def Y9 (call:af6):Y uJ->IS->M (IS×Y FPm)
 |[],s=>Z (s,[])
 |o::r,⟨e,h,nx,A⟩=>
  match axv e o.guard with
  |some J=>(match opA call o.op e h nx with
   |some ⟨val,rd,w,h',nx'⟩=>au8 e o.dst val λe'=>uX (A|||w) λwr'=>(match Y9 call r ⟨e',h',nx',wr'⟩ with
    |some (s',z)=>Z (s',⟨rd,w⟩::z)
    |none=>U)
   |none=>U)
  |some af=>au8 e o.dst (raw undef) λe'=>(match Y9 call r ⟨e',h,nx,A⟩ with
   |some (s',z)=>Z (s',⟨0,0⟩::z)
   |none=>U)
  |none=>U
def agm:Y FPm->Nat->M FPm
 |[],_=>U
 |f::_,0=>Z f
 |_::r,n+1=>agm r n
def Kp (a b:Nat):Bool:=aA (a&&&b) 0
abbrev p?:=Nat×Nat
def Jr (z:Y FPm):Y p?->Bool
 |[]=>J
 |(i,j)::r=>(match agm z i,agm z j with
  |some a,Z b=>Kp a.wr b.rd&&Kp a.wr b.wr&&Kp b.wr a.rd
  |_,_=>af)&&Jr z r
inductive Ex where
 |normal
 |exit (id:Nat)
 |ret
def asq (body:IS->M (Ex×IS)) (e0:EJ):Nat->IS->M (Ex×IS)
 |0,_=>U
 |n+1,s=>match body s with
  |some (.normal,⟨e,h,nx,z⟩)=>WE (PT.mask e e0) λe=>asq body e0 n ⟨e,h,nx,z⟩
  |r=>r
def run (call:af6) (inert:FuncId->Bool) (fuel:Nat):SC->IS->M (Ex×IS)
 |.skip,s=>Z (.normal,s)
 |.jy ops prs,s=>match Y9 call ops s with
  |some (s',A)=>if Jr A prs then Z (.normal,s') else U
  |none=>U
 |.seq a b,s=>match run call inert fuel a s with
  |some (.normal,s')=>run call inert fuel b s'
  |r=>r
 |.cond c a b,s=>match s.e.get c with
  |some (.f (.raw (.bool J)))=>run call inert fuel a s
  |some (.f (.raw (.bool af)))=>run call inert fuel b s
  |_=>U
 |.block id b,s=>match run call inert fuel b s with
  |some (.exit i,s')=>if aA i id then Z (.normal,s') else Z (.exit i,s')
  |r=>r
 |.loop b,s=>asq (run call inert fuel b) s.e fuel s
 |.exit id,s=>Z (.exit id,s)
 |.ret,s=>Z (.ret,s)
 |.defer f caps t,⟨e,h,nx,z⟩=>match evs e caps with
  |some l=>if inert f then au8 e (Z t) (.qf f l) λe'=>Z (.normal,⟨e',h,nx,z⟩) else U
  |none=>U
 |.jq,_=>U
inductive RV where
 |tmp (t:Nat)
 |cell (a:Nat) (sz:Nat) (ag:Bool)
structure SF where
 code:SC
 res:List RV
 nt:Nat
def FH:Y AV->AV
 |[x]=>x
 |l=>.qp l
def auz:Value->Value->Bool
 |.bool a,.bool b=>a==b
 |.int k a,.int A b=>k==A&&a==b
 |.string a,.string b=>ue a b
 |.slice U n c,.slice U z I=>aA n z&&aA c I
 |.pointer U,.pointer U=>J
 |.tuple a,.tuple b=>a.isEmpty&&b.isEmpty
 |_,_=>af
def fO (P:Program) (t:TypeId):M Nat:=(P.info? t).map (·.size)
def I6 (P:Program) (t:TypeId):M Nat:=(P.info? t).map (·.bytes)
def vg (P:Program) (t:TypeId):M ξ:=((P.info? t).bind (·.zero)).map (·.cells.toList)
def Hw (P:Program) (t:TypeId):M Bool:=(P.underlying t).map λ|.struct _=>J|.array _ _=>J|_=>af
def Ed (P:Program) (t:TypeId):M TypeId:=match P.underlying t with|some (.slice e)=>Z e|_=>U
def E0 (P:Program) (t:TypeId) (i:Nat):M p?:=match P.underlying t with
 |some (.struct A)=>(A[i]?).bind λf=>(fO P f.type).map (f.offset,·)
 |some (.array _ z)|some (.slice z)=>(fO P z).map λs=>(i*s,s)
 |_=>U
abbrev H?:=Nat×Operand
def Al (P:Program) (t:TypeId):Y H?->M (Y m?)
 |[]=>Z []
 |(i,x)::r=>match E0 P t i,Al P t r with|some (o,s),Z l=>Z ((o,s,x)::l)|_,_=>U
def og (z:ξ):Bool:=z.all λv=>v.oneCell'
def EZ:TypeDesc->Bool
 |.int _=>J
 |.bool=>J
 |.string=>J
 |_=>af
def lV (P:Program):Nat→Y Field→M (Y TypeDesc)
 |_,[]=>Z []
 |k,f::r=>match P.underlying f.type,lV P (k+1) r with
  |some d,Z ds=>if f.name != "_" &&f.offset==k&&EZ d then Z (d::ds) else U
  |_,_=>U
def EY (P:Program) (t:TypeId):M (Y TypeDesc):=match P.underlying t with
 |some (.struct z)=>if P.stoodInHeld t then U else lV P 0 z.toList
 |_=>U
def X4 (P:Program) (c:Call):M U0:=
 match c.callee with
 |.builtin .len=>(match c.args.toList,c.argTypes.toList with
  |[x],[t]=>(match P.underlying t with
   |some (.slice _)=>Z (.len x)
   |some .string=>Z (.lens x)
   |_=>U)
  |_,_=>U)
 |.builtin .max=>(match c.args.toList with
  |[x,y]=>Z (.max x y)
  |_=>U)
 |.builtin .min=>(match c.args.toList with
  |[x,y]=>Z (.min x y)
  |_=>U)
 |.builtin .copy=>(match c.args.toList,c.argTypes.toList with
  |[d,x],[t,u]=>(match Ed P t,Ed P u with
   |some A,Z _=>(fO P A).bind λsz=>if sz !=0 then Z (.copy sz d x) else U
   |_,_=>U)
  |_,_=>U)
 |.builtin .delete=>(match c.args.toList,c.argTypes.toList with
  |[m,k],[t,_]=>(match P.underlying t with
   |some (.map I _)=>(EY P I).map λds=>.dlq ds m k
   |_=>U)
  |_,_=>U)
 |.builtin .clear=>(match c.args.toList,c.argTypes.toList with
  |[x],[t]=>(Ed P t).bind λA=>(vg P A).bind λz=>(fO P A).bind λsz=>if og z&&l! z==sz&&sz !=0 then Z (.clr sz z x) else U
  |_,_=>U)
 |.builtin .append=>(match c.args.toList,c.argTypes.toList with
  |[s,x],[t,u]=>(match Ed P t,Ed P u with
   |some A,Z _=>(fO P A).bind λsz=>(I6 P A).bind λb=>(vg P A).bind λz=>if sz !=0&&l! z==sz then Z (.app A sz b s x) else U
   |_,_=>U)
  |_,_=>U)
 |_=>U
def cM (P:Program):Op->M U0
 |.move x|.assign x=>Z (.mv x)
 |.pick c a b=>Z (.pick c a b)
 |.alloc t=>(vg P t).bind λz=>if og z then Z (.alloc t z) else U
 |.box t x=>Z (.box t x)
 |.build t ps=>match P.underlying t with
  |some (.struct L)=>(vg P t).bind λz=>if og z&&(L.toList.all λf=>(fO P f.type).isSome) then (Al P t ps.toList).map (.build z) else U
  |some (.array _ A)=>(vg P t).bind λz=>if og z&&(fO P A).isSome then (Al P t ps.toList).map (.build z) else U
  |_=>U
 |.buildSlice t n ps=>(Ed P t).bind λA=>(vg P A).bind λz=>(fO P A).bind λsz=>if og z&&l! z==sz&&dY (n*sz) 65536&&sz !=0 then (Al P t ps.toList).map (.xz A sz n z) else U
 |.load t x=>(fO P t).bind λsz=>(Hw P t).map λag=>.load sz ag x
 |.store t x v=>(fO P t).map λsz=>.store sz x v
 |.nilCheck x=>Z (.jz x)
 |.binOp op t x y _=>match P.underlying t with
  |some (.int _)|some .string=>Z (.bin op x y)
  |some .bool=>(match op with|.eql=>Z (.xq af x y)|.neq=>Z (.xq J x y)|_=>U)
  |some (.slice _)=>(match op,y with
   |.eql,.const (.slice U 0 0)=>Z (.zn af x)
   |.neq,.const (.slice U 0 0)=>Z (.zn J x)
   |_,_=>U)
  |some (.pointer _)=>(match op,y with
   |.eql,.const (.pointer U)=>Z (.jw af x)
   |.neq,.const (.pointer U)=>Z (.jw J x)
   |_,_=>U)
  |some (.struct _)=>(EY P t).bind λds=>(match op with|.eql=>Z (.jh af ds x y)|.neq=>Z (.jh J ds x y)|_=>U)
  |_=>U
 |.unOp .not _ x=>Z (.not x)
 |.unOp .neg t x=>match P.underlying t with|some (.int k)=>Z (.bin .sub (.const (.int k 0)) x)|_=>U
 |.convert s d x=>match P.underlying s,P.underlying d with|some (.int _),Z (.int k)=>Z (.conv k x)|_,_=>U
 |.makeSlice t l c=>(Ed P t).bind λA=>(vg P A).bind λz=>(fO P A).bind λsz=>(I6 P A).bind λb=>if og z&&l! z==sz&&sz !=0 then Z (.zh A sz b z l c) else U
 |.slice t x lo hi mx=>(Ed P t).bind λA=>(fO P A).map λsz=>.slc sz x lo hi mx
 |.fieldAddr t x k=>match P.underlying t with
  |some (.struct L)=>(L[k]?).bind λf=>(fO P f.type).bind λsz=>if sz !=0 then Z (.jp f.offset x) else U
  |_=>U
 |.field t x k=>match P.underlying t with
  |some (.struct L)=>(L[k]?).bind λf=>(fO P f.type).bind λsz=>(Hw P f.type).map λag=>.fld f.offset sz ag x
  |_=>U
 |.indexAddr t x i=>match P.underlying t with
  |some (.slice A)=>(fO P A).map λsz=>.jb sz x i
  |some (.array n A)=>(fO P A).map λsz=>.jk n sz x i
  |_=>U
 |.index t x i=>match P.underlying t with
  |some (.array n A)=>(fO P A).bind λsz=>(Hw P A).map λag=>.idx n sz ag x i
  |some .string=>Z (.jv x i)
  |_=>U
 |.extract x i=>Z (.ext x i)
 |.makeFunc (.func f) first caps=>if first.isEmpty then Z (.mkf f caps.toList) else U
 |.makeMap t U=>match P.underlying t with|some (.map _ _)=>Z .mkm|_=>U
 |.lookup t x k ok=>match P.underlying t with
  |some (.map I A)=>(match P.underlying I,(P.info? A).bind (·.zero) with
   |some (.int _),Z z=>if z.oneCell' then Z (.jf af ok z x k) else U
   |some .string,Z z=>if z.oneCell' then Z (.jf J ok z x k) else U
   |some (.struct _),Z z=>if z.oneCell'&& !ok then (EY P I).map λds=>.lkq ds z x k else U
   |_,_=>U)
  |_=>U
 |.mapUpdate t m k v=>match P.underlying t with
  |some (.map I _)=>(match P.underlying I with
   |some (.int _)=>Z (.jg af m k v)
   |some .string=>Z (.jg J m k v)
   |some (.struct _)=>(EY P I).map λds=>.mpq ds m k v
   |_=>U)
  |_=>U
 |.range t x=>match P.underlying t with|some .string=>Z (.rng x)|_=>U
 |.next x J=>Z (.nxt x)
 |.call c=>X4 P c
 |_=>U
def OR:Op->M SI
 |.call c=>(match c.callee with
  |.value (.func f)=>Z (.call f c.args.toList)
  |.value (.tmp t)=>Z (.jt (.tmp t) c.args.toList)
  |_=>U)
 |_=>U
def xM (P:Program) (op:Op):SI:=match OR op with
 |some i=>i
 |none=>(match cM P op with|some s=>.op s|none=>.op .jq)
def U0.still:U0->Bool
 |.mv _|.pick _ _ _|.build _ _|.jz _|.bin _ _ _|.jh _ _ _ _|.zn _ _|.xq _ _ _|.not _|.conv _ _|.jp _ _|.fld _ _ _ _|.jb _ _ _|.jk _ _ _ _|.idx _ _ _ _ _|.ext _ _|.max _ _|.min _ _|.jv _ _|.mkf _ _|.jw _ _|.jq=>J
 |_=>af
def SI.still:SI->Bool
 |.op s=>s.still
 |_=>af
def ud (P:Program) (ops:Array Oper):Y Oper->M (Y uJ)
 |[]=>Z []
 |o::r=>match ud P ops r with
  |some l=>(match o.guard with
   |none=>Z (⟨o.dst,xM P o.op,U⟩::l)
   |some (j,want)=>(match (ops[j]?).bind (·.dst) with
    |some t=>Z (⟨o.dst,xM P o.op,Z (t,want)⟩::l)
    |none=>U))
  |none=>U
def Q_ (ops:Array Oper) (l:Y uJ):M (Y p?):=
 let B:=OV ops.toList []
 if (dA ops.size).all λj=>((ops[j]?).all λz=>z.after.toList.all λe=> !C3 .any e||decide (e.on<j))&&
     (dA j).all λi=>aM (B.getD j 0) i||(match ops[i]?,ops[j]? with|some A,Z z=>A.apart ops z|_,_=>af)
 then Z ((dA ops.size).flatMap λj=>(dA j).filterMap λi=>
  if aM (B.getD j 0) i||(match l[i]?,l[j]? with|some a,Z b=>a.op.still||b.op.still|_,_=>af) then U else Z (i,j))
 else U
def Hh (ops:Array Oper) (A:Bool):M (FuncId×Y Operand×Nat):=match ops.toList,A with
 |[p,q],af=>(match p.op,p.guard,p.dst,q.op,q.guard,q.dst with
  |.makeFunc (.func f) first caps,U,Z t,.defer c,U,U=>(match c.callee,c.args.toList with
   |.value (.tmp z),[]=>if aA t z&&first.isEmpty then Z (f,caps.toList,t) else U
   |_,_=>U)
  |_,_,_,_,_,_=>U)
 |_,_=>U
def cu (P:Program) (nt:Nat):Code->SC
 |.skip=>.skip
 |.region _ ops z=>if ops.toList.all λo=>match o.dst with|some d=>decide (d<nt)|none=>J then
   (match Hh ops z with
   |some (f,caps,t)=>.defer f caps t
   |none=>(match ud P ops ops.toList with
    |some l=>(match Q_ ops l with|some prs=>.jy l prs|none=>.jq)
    |none=>.jq)) else .jq
 |.seq a b=>.seq (cu P nt a) (cu P nt b)
 |.cond (.tmp c) a b=>.cond c (cu P nt a) (cu P nt b)
 |.cond (.const (.bool J)) a _=>cu P nt a
 |.cond (.const (.bool af)) _ b=>cu P nt b
 |.block id b=>.block id (cu P nt b)
 |.loop b=>.loop (cu P nt b)
 |.exit id=>.exit id
 |.ret=>.ret
 |_=>.jq
def xL (P:Program):Y ResultVar->M (Y RV)
 |[]=>Z []
 |.tmp t::r=>match xL P r with|some l=>Z (.tmp t::l)|none=>U
 |.cell a t::r=>match xL P r,fO P t,Hw P t with|some l,Z sz,Z z=>Z (.cell a sz z::l)|_,_,_=>U
def CP (P:Program) (f:FuncId):M SF:=
 match P.funcs[f]? with
 |some fn=>if fn.name== "runtime.NumGoroutine" then U else (match fn.body,xL P fn.results.toList with
  |some c,Z r=>Z ⟨cu P fn.ntmps c,r,fn.ntmps⟩
  |_,_=>U)
 |none=>U
inductive Xp where
 |mk (op n:Int) (name:ζ) (l:List Xp)
inductive Sx where
 |mk (op line:Int) (name arg:ζ) (index:List Xp) (expr:Xp) (body els:List Sx)
def Xp.op:Xp->Int|.mk a _ _ _=>a
def Xp.n:Xp->Int|.mk _ a _ _=>a
def Xp.name:Xp->ζ|.mk _ _ a _=>a
def Xp.l:Xp->Y Xp|.mk _ _ _ a=>a
def Sx.op:Sx->Int|.mk a _ _ _ _ _ _ _=>a
def Sx.line:Sx->Int|.mk _ a _ _ _ _ _ _=>a
def Sx.name:Sx->ζ|.mk _ _ a _ _ _ _ _=>a
def Sx.arg:Sx->ζ|.mk _ _ _ a _ _ _ _=>a
def Sx.index:Sx->Y Xp|.mk _ _ _ _ a _ _ _=>a
def Sx.expr:Sx->Xp|.mk _ _ _ _ _ a _ _=>a
def Sx.body:Sx->Y Sx|.mk _ _ _ _ _ _ a _=>a
def Sx.els:Sx->Y Sx|.mk _ _ _ _ _ _ _ a=>a
inductive Ty where
 |int (k:IntKind)
 |bool
 |str
 |sl (t:Ty)
 |st (t:Ty)
 |pr (a b:Ty)
 |un
 |ex
 |sm
 deriving DecidableEq
@[reducible] def Ty.den:Ty->Type
  |.int _=>Int
  |.bool=>Bool
  |.str=>ζ
  |.sl t=>Y t.den
  |.st t=>t.den
  |.pr a b=>a.den×b.den
  |.un=>Unit
  |.ex=>Xp
  |.sm=>Sx
def Ty.size:Ty->Nat
 |.st t=>t.size
 |.pr a b=>a.size+b.size
 |.un=>0
 |.ex=>4
 |.sm=>11
 |_=>1
def Ty.zero:(t:Ty)->t.den
 |.int _=>(0:Int)
 |.bool=>af
 |.str=>[]
 |.sl _=>[]
 |.st t=>t.zero
 |.pr a b=>(a.zero,b.zero)
 |.un=>()
 |.ex=>.mk 0 0 [] []
 |.sm=>.mk 0 0 [] [] [] (.mk 0 0 [] []) [] []
def Ty.one:Ty->Bool
 |.int _=>J
 |.bool=>J
 |.str=>J
 |.sl _=>J
 |_=>af
def Rv:Ty:=.pr (.int .i64) (.pr (.int .i64) (.pr .str (.sl .ex)))
def Q3:Ty:=.pr (.int .i64) (.pr (.int .i64) (.pr .str (.pr .str (.pr (.sl .ex) (.pr .ex (.pr (.sl .sm) (.sl .sm)))))))
def Sr (e:Xp):Rv.den:=(e.op,e.n,e.name,e.l)
def eM (x:Rv.den):Xp:=.mk x.1 x.2.1 x.2.2.1 x.2.2.2
def Sq (e:Sx):Q3.den:=(e.op,e.line,e.name,e.arg,e.index,e.expr,e.body,e.els)
def pn (x:Q3.den):Sx:=.mk x.1 x.2.1 x.2.2.1 x.2.2.2.1 x.2.2.2.2.1 x.2.2.2.2.2.1 x.2.2.2.2.2.2.1 x.2.2.2.2.2.2.2
mutual
def y_:Xp->Y FV
 |.mk op n name l=>[.raw (.int .i64 op),.raw (.int .i64 n),.raw (.string ⟨name.toArray⟩),.sl (NJ l) (l! l)]
def NJ:Y Xp->Y FV
 |[]=>[]
 |x::r=>y_ x++NJ r
end
mutual
def Bq:Sx->Y FV
 |.mk op line name arg index expr body els=>[.raw (.int .i64 op),.raw (.int .i64 line),.raw (.string ⟨name.toArray⟩),.raw (.string ⟨arg.toArray⟩),.sl (NJ index) (l! index)]++y_ expr++[.sl (NI body) (l! body),.sl (NI els) (l! els)]
def NI:Y Sx->Y FV
 |[]=>[]
 |x::r=>Bq x++NI r
end
def bI:(T:Ty)->T.den->Y FV
 |.int k,n=>[.raw (.int k n)]
 |.bool,b=>[.raw (.bool b)]
 |.str,s=>[.raw (.string ⟨s.toArray⟩)]
 |.sl t,xs=>[.sl (List.flatMap (bI t) xs) (aj xs)]
 |.st t,v=>bI t v
 |.pr a b,v=>bI a v.1++bI b v.2
 |.un,_=>[]
 |.ex,v=>y_ v
 |.sm,v=>Bq v
def gq:(T:Ty)->T.den->FV
 |.int k,n=>.raw (.int k n)
 |.bool,b=>.raw (.bool b)
 |.str,s=>.raw (.string ⟨s.toArray⟩)
 |.sl t,xs=>.sl (List.flatMap (bI t) xs) (aj xs)
 |.st t,v=>.agg (bI t v)
 |.pr a b,v=>.agg (bI a v.1++bI b v.2)
 |.un,_=>.agg []
 |.ex,v=>.agg (y_ v)
 |.sm,v=>.agg (Bq v)
def UX:(T:Ty)->T.den->T.den->Bool
 |.int _,a,b=>decide ((a:Int)=b)
 |.bool,a,b=>(a:Bool)==b
 |.str,a,b=>decide ((a:ζ)=b)
 |.st t,a,b=>UX t a b
 |.pr x y,a,b=>UX x a.1 b.1&&UX y a.2 b.2
 |_,_,_=>J
variable {S:Ty}
def xO (T:Ty) (v:S.den):M T.den:=if h:S=T then Z (h▸v) else U
def ef (j:Int) (n:Nat):Bool:=cX 0 j&&gI j n
def aI (T:Ty) (xs:Y T.den) (j:Int):T.den:=xs.getD j.toNat T.zero
def ca (xs:Y R) (j:Int) (x:R):Y R:=xs.set j.toNat x
def YO (xs z:Y R):Y R:=z.take (l! xs)++xs.drop (l! z)
def kA (a b:Int):Int:=if gI a b then b else a
def BI (a b:Int):Int:=if gI b a then b else a
def aoc (s:ζ) (j:Int):Int:=aS (s.getD j.toNat 0).toNat
def aJ (b:Bool) (t f:M R):M R:=match b with|true=>t|false=>f
def chk (b:Bool) (k:b=J->M R):M R:=match b,k with|true,k=>k rfl|false,_=>U
open Classical in
def I7 (a b:M R):M R:=if a=b then a else U
open Classical in
def same {α:Type} (a b:α) (r:M R):M R:=if a=b then r else U
def ax {α:Type} (o:M α) (k:α->M R):M R:=match o with|some x=>k x|none=>U
def lt {α:Type} (x:α) (k:α->M R):M R:=k x
def jn {α:Type} (o:M (R⊕α)) (k:α->M R):M R:=match o with|some (.inr x)=>k x|some (.inl r)=>Z r|none=>U
def iterN {σ:Type} (step:σ->M (σ⊕R)):Nat->σ->M R
 |0,_=>U
 |n+1,x=>match step x with
  |some (.inl y)=>iterN step n y
  |some (.inr r)=>Z r
  |none=>U
open Classical in
def iter {σ R:Type} (step:σ->M (σ⊕R)) (x:σ):M R:=
 if h:∃n,(iterN step n x).isSome=J then iterN step (Classical.choose h) x else U
def hZ {σ R:Type} (step:σ->M (σ⊕R)) (x:σ):M R:=iterN step 18446744073709551616 x
abbrev D6:Type 1:=∀σ R:Type,(σ->M (σ⊕R))->σ->M R
def mW (a b:M R):Prop:=∀y,a=Z y->b=Z y
def mW.rfl {a:M R}:mW a a:=λ_ h=>h
def mW.bcase {t f z A:M R} (h1:mW t z) (I:mW f A):mW (AI.aJ b t f) (AI.aJ b z A):=by cases b<;>assumption
def mW.chk {k z:M R} (h:mW k z):mW (AI.chk b λ_=>k) (AI.chk b λ_=>z):=by
 cases b with
 |true=>exact h
 |false=>exact λ_ h=>by cases h
def mW.obind {α:Type} {o z:M α} {k A:α->M R} (h:mW o z) (L:∀x,mW (k x) (A x)):mW (AI.ax o k) (AI.ax z A):=by
 intro y I;cases o with
 |none=>cases I
 |some x=>rw[h x (by rfl)];exact L x y I
def mW.lt {α:Type} {x:α} {k z:α->M R} (h:∀y,mW (k y) (z y)):mW (AI.lt x k) (AI.lt x z):=h x
def mW.jn {α:Type} {o A:M (R⊕α)} {k I:α->M R} (h:mW o A) (L:∀x,mW (k x) (I x)):mW (AI.jn o k) (AI.jn A I):=by
 intro y z;cases o with
 |none=>cases z
 |some x=>
  rw[h x (by rfl)];cases x with
  |inl r=>exact z
  |inr a=>exact L a y z
def mW.iterN {σ:Type} {f g:σ->M (σ⊕R)} (h:∀x,mW (f x) (g x)):∀(n:Nat) (x:σ),mW (AI.iterN f n x) (AI.iterN g n x)
 |0,_=>λ_ h=>by cases h
 |n+1,x=>by
  intro y A;cases hf:f x with
  |none=>rw[AI.iterN,hf]at A;cases A
  |some s=>
   rw[AI.iterN,hf]at A;rw[AI.iterN,h x s hf];cases s with
   |inl z=>exact mW.iterN h n z y A
   |inr r=>exact A
def MU {σ:Type} {f:σ->M (σ⊕R)}:∀{n:Nat} {x:σ} {r:R},iterN f n x=Z r->iterN f (n+1) x=Z r
 |0,x,r,h=>by cases h
 |n+1,x,r,h=>by
  cases hf:f x with
  |none=>rw[iterN,hf]at h;cases h
  |some s=>
   cases s with
   |inl y=>rw[iterN,hf]at h;rw[iterN,hf];exact MU h
   |inr q=>rw[iterN,hf]at h;rw[iterN,hf];exact h
def Ch {σ:Type} {f:σ->M (σ⊕R)} {n:Nat} {x:σ} {r:R} (h:iterN f n x=Z r) (hle:n<=m):iterN f m x=Z r:=by
 induction hle with
 |refl=>exact h
 |step _ z=>exact MU z
def Cf {σ:Type} {f:σ->M (σ⊕R)} {n:Nat} {x:σ} {r:R} (h:iterN f n x=Z r):iter f x=Z r:=by
 have A:∃n,(iterN f n x).isSome=J:=⟨n,by rw[h];exact Eq.refl _⟩
 unfold iter;rw[dif_pos A];have L:=Classical.choose_spec A;let⟨r',z⟩:=ru.1 L;rw[z];rcases Nat.le_total n (Classical.choose A) with I|I
 .rw[Ch h I]at z;exact z.symm
 .rw[Ch z I]at h;exact h
def mW.iter {σ:Type} {f g:σ->M (σ⊕R)} {x:σ} (h:∀x,mW (f x) (g x)):mW (hZ f x) (AI.iter g x):=λy z=>Cf (mW.iterN h _ x y z)
def orE (a b:M R):M R:=match a with|some y=>Z y|none=>b
def fuel:Nat:=Classical.choose (⟨100000,rfl⟩:∃n:Nat,n=100000)
def kM:fuel=100000:=Classical.choose_spec (⟨100000,rfl⟩:∃n:Nat,n=100000)
def KK (a:Ty):Ty->Ty
 |.un=>a
 |.int k=>.pr a (.int k)
 |.bool=>.pr a .bool
 |.str=>.pr a .str
 |.sl t=>.pr a (.sl t)
 |.st t=>.pr a (.st t)
 |.pr x y=>.pr a (.pr x y)
 |.ex=>.pr a .ex
 |.sm=>.pr a .sm
def spr:Ty->Ty->Ty
 |.un,b=>b
 |.int k,b=>KK (.int k) b
 |.bool,b=>KK .bool b
 |.str,b=>KK .str b
 |.sl t,b=>KK (.sl t) b
 |.st t,b=>KK (.st t) b
 |.pr x y,b=>KK (.pr x y) b
 |.ex,b=>KK .ex b
 |.sm,b=>KK .sm b
def VR (a:Ty):(b:Ty)->a.den->b.den->(KK a b).den
 |.un,x,_=>x
 |.int _,x,y|.bool,x,y|.str,x,y|.sl _,x,y|.st _,x,y|.pr _ _,x,y|.ex,x,y|.sm,x,y=>(x,y)
def fsN (a:Ty):(b:Ty)->(KK a b).den->a.den
 |.un,z=>z
 |.int _,z|.bool,z|.str,z|.sl _,z|.st _,z|.pr _ _,z|.ex,z|.sm,z=>z.1
def snN (a:Ty):(b:Ty)->(KK a b).den->b.den
 |.un,_=>()
 |.int _,z|.bool,z|.str,z|.sl _,z|.st _,z|.pr _ _,z|.ex,z|.sm,z=>z.2
def mkp:(a b:Ty)->a.den->b.den->(spr a b).den
 |.un,_,_,y=>y
 |.int k,b,x,y=>VR (.int k) b x y
 |.bool,b,x,y=>VR .bool b x y
 |.str,b,x,y=>VR .str b x y
 |.sl t,b,x,y=>VR (.sl t) b x y
 |.st t,b,x,y=>VR (.st t) b x y
 |.pr u v,b,x,y=>VR (.pr u v) b x y
 |.ex,b,x,y=>VR .ex b x y
 |.sm,b,x,y=>VR .sm b x y
def UW:(a b:Ty)->(spr a b).den->a.den
 |.un,_,_=>()
 |.int k,b,z=>fsN (.int k) b z
 |.bool,b,z=>fsN .bool b z
 |.str,b,z=>fsN .str b z
 |.sl t,b,z=>fsN (.sl t) b z
 |.st t,b,z=>fsN (.st t) b z
 |.pr u v,b,z=>fsN (.pr u v) b z
 |.ex,b,z=>fsN .ex b z
 |.sm,b,z=>fsN .sm b z
def SA:(a b:Ty)->(spr a b).den->b.den
 |.un,_,z=>z
 |.int k,b,z=>snN (.int k) b z
 |.bool,b,z=>snN .bool b z
 |.str,b,z=>snN .str b z
 |.sl t,b,z=>snN (.sl t) b z
 |.st t,b,z=>snN (.st t) b z
 |.pr u v,b,z=>snN (.pr u v) b z
 |.ex,b,z=>snN .ex b z
 |.sm,b,z=>snN .sm b z
def vE (a b:Ty) (x:a.den) (y:b.den):UW a b (mkp a b x y)=x:=by cases a<;>cases b<;>rfl
def xm (a b:Ty) (x:a.den) (y:b.den):SA a b (mkp a b x y)=y:=by cases a<;>cases b<;>rfl
inductive Sb where
 |ob (id:Nat) (j:Int) (off:Nat)
 |om (id:Nat) (j:Int) (b:Nat)
 |nr (id:Nat) (j:Int) (sz n:Nat)
 |np (id:Nat) (j:Int) (sz:Nat) (i:Int) (off:Nat)
 |nl
def Sb.id:Sb->Nat
 |.ob i _ _=>i
 |.om i _ _=>i
 |.nr i _ _ _=>i
 |.np i _ _ _ _=>i
 |.nl=>0
def Sb.to (i:Nat):Sb->Sb
 |.ob _ j o=>.ob i j o
 |.om _ j b=>.om i j b
 |.nr _ j s n=>.nr i j s n
 |.np _ j s k o=>.np i j s k o
 |.nl=>.nl
inductive uM where
 |ar (ty:TypeId) (S:Ty)
 |zm (ty:TypeId)
 |zd
 |rr (ty:TypeId) (sz:Nat)
 |ir (ty:TypeId) (T:Ty)
 deriving DecidableEq
abbrev mbT:Ty:=.sl (.pr (.int .i64) .bool)
abbrev kyT:Ty:=.pr (.int .i64) (.int .i64)
def uM.ty:uM->Ty
 |.ar _ S=>.sl (.pr S (.pr mbT mbT))
 |.zm _=>.sl (.int .i64)
 |.zd=>.sl (.pr kyT (.int .i64))
 |.rr _ _=>.sl (.int .i64)
 |.ir _ T=>.sl (.sl T)
def uM.aid (n:Nat):uM->Nat
 |.ar _ _=>0
 |.ir _ _=>0
 |_=>n
def sM:(F:uM)->F.ty.den->M (Bool×p?)
 |.zm _,A=>Z (J,1,aj A)
 |.rr _ _,z=>Z (af,1,aj z)
 |_,_=>U
inductive TV where
 |f (T:Ty) (v:T.den)
 |zf (T:Ty) (xs:List T.den) (j:Int) (h:ef j (l! xs)=J) (off:Nat)
 |zq (id sz:Nat) (j:Int) (off:Nat)
 |K (id off:Nat)
 |I (id:Nat)
 |qg (id sz n:Nat)
 |emp
 |nil
 |mp (id:Nat)
 |agg (l:List TV)
 |qp (l:List TV)
 |qf (g:FuncId) (l:List TV)
 |undef
 |np
 |qy
 |zl (id:Nat) (j:Int)
 |sb (s:Sb)
instance cty (n:Nat):OfNat (M TypeId) n:=⟨Z n⟩
inductive fc where
 |H (ty:TypeId) (p:Bool) (T:Ty) (xs:List T.den)
 |G (ty:Option TypeId) (l:List TV)
 |qj (p:Bool) (sz n:Nat)
 |mp (K V:Ty) (es:List (K.den×V.den))
 |qx (F:uM) (a:Nat) (x:F.ty.den)
 |qh (F:uM) (a:Nat) (x:F.ty.den) (k:ν) (p:Option (Nat×Bool×Nat))
abbrev ia:=PT TV
abbrev a8:=PT fc
def cst:Value->M TV
 |.int k n=>Z (.f (.int k) n)
 |.bool b=>Z (.f .bool b)
 |.string s=>Z (.f .str s.data.toList)
 |.slice U 0 0=>Z .nil
 |.pointer U=>Z .np
 |.map U=>Z (.sb .nl)
 |_=>U
def Ov:ξ->M (Y TV)
 |[]=>Z []
 |v::r=>match cst v,Ov r with|some x,Z l=>Z (x::l)|_,_=>U
def auq:Value->M TV
 |.agg vs=>if OP vs.toList then (match Ov vs.toList with|some l=>Z (.agg l)|none=>U) else U
 |v=>cst v
def cellsOf:Nat->(T:Ty)->T.den->M (Y TV)
 |0,_,_=>U
 |n+1,.st t,v=>cellsOf n t v
 |n+1,.pr a b,v=>match cellsOf n a v.1,cellsOf n b v.2 with|some x,Z y=>Z (x++y)|_,_=>U
 |_+1,.un,_=>Z []
 |n+1,.ex,v=>cellsOf n Rv (Sr v)
 |n+1,.sm,v=>cellsOf n Q3 (Sq v)
 |_+1,.int k,v=>Z [.f (.int k) v]
 |_+1,.bool,v=>Z [.f .bool v]
 |_+1,.str,v=>Z [.f .str v]
 |_+1,.sl t,v=>Z [.f (.sl t) v]
def TV.isC:TV->Bool
 |.f T _=>T.one
 |.zf _ _ _ _ _=>J
 |.zq _ _ _ _=>J
 |.K _ _=>J
 |.I _=>J
 |.qg _ _ _=>J
 |.emp=>J
 |.nil=>J
 |.np=>J
 |.mp _=>J
 |.qf _ _=>J
 |.sb _=>J
 |_=>af
def lE:Y TV->Bool
 |[]=>J
 |x::r=>x.isC&&lE r
def TV.cs (v:TV):M (Y TV):=match v with
 |.agg l=>if lE l then Z l else U
 |.f T x=>cellsOf 40 T x
 |x=>if x.isC then Z [x] else U
def gA (i:Nat):Nat:=1<<<i
def iN (h:a8) (T:Ty):TV->M (T.den×Nat)
 |.f _ v=>match xO T v with|some x=>Z (x,0)|none=>U
 |.emp|.nil=>(match T with|.sl _=>Z ([],0)|_=>U)
 |.I id=>match h.get id with
  |some (.H _ _ S xs)=>(match xO (S:=.sl S) T xs with|some x=>Z (x,gA id)|none=>U)
  |_=>U
 |_=>U
def fM (h:a8):Nat->(T:Ty)->Y TV->M (T.den×Nat×Y TV)
 |0,_,_=>U
 |n+1,.st t,l=>fM h n t l
 |n+1,.pr a b,l=>match fM h n a l with
  |some (x,m,r)=>(match fM h n b r with|some (y,m',z)=>Z ((x,y),m|||m',z)|none=>U)
  |none=>U
 |_+1,.un,l=>Z ((),0,l)
 |n+1,.ex,l=>match fM h n Rv l with|some (x,m,r)=>Z (eM x,m,r)|none=>U
 |n+1,.sm,l=>match fM h n Q3 l with|some (x,m,r)=>Z (pn x,m,r)|none=>U
 |_+1,.int k,l=>match l with|c::r=>(match iN h (.int k) c with|some (x,m)=>Z (x,m,r)|none=>U)|[]=>U
 |_+1,.bool,l=>match l with|c::r=>(match iN h .bool c with|some (x,m)=>Z (x,m,r)|none=>U)|[]=>U
 |_+1,.str,l=>match l with|c::r=>(match iN h .str c with|some (x,m)=>Z (x,m,r)|none=>U)|[]=>U
 |_+1,.sl t,l=>match l with|c::r=>(match iN h (.sl t) c with|some (x,m)=>Z (x,m,r)|none=>U)|[]=>U
def Ht (h:a8) (T:Ty) (v:TV):M (T.den×Nat):=match v with
 |.agg l=>if T.one then U else (match fM h 40 T l with|some (x,m,[])=>Z (x,m)|_=>U)
 |x=>iN h T x
def od:Nat->(T:Ty)->T.den->Nat->Nat->Bool->M TV
 |0,_,_,_,_,_=>U
 |n+1,.st t,v,off,sz,z=>if aA off 0&&aA sz t.size&&z then Z (.f (.st t) v) else od n t v off sz z
 |n+1,.pr a b,v,off,sz,z=>if eK off a.size then od n a v.1 off sz z else od n b v.2 (off-a.size) sz z
 |_+1,.un,_,_,_,_=>U
 |n+1,.ex,v,off,sz,z=>if aA off 0&&aA sz 4&&z then Z (.f .ex v) else od n Rv (Sr v) off sz z
 |n+1,.sm,v,off,sz,z=>if aA off 0&&aA sz 11&&z then Z (.f .sm v) else od n Q3 (Sq v) off sz z
 |_+1,.int k,v,off,sz,z=>if aA off 0&&aA sz 1&& !z then Z (.f (.int k) v) else U
 |_+1,.bool,v,off,sz,z=>if aA off 0&&aA sz 1&& !z then Z (.f .bool v) else U
 |_+1,.str,v,off,sz,z=>if aA off 0&&aA sz 1&& !z then Z (.f .str v) else U
 |_+1,.sl t,v,off,sz,z=>if aA off 0&&aA sz 1&& !z then Z (.f (.sl t) v) else U
def gL (h:a8) (x:TV):Nat->(T:Ty)->T.den->Nat->Nat->M (T.den×Nat)
 |0,_,_,_,_=>U
 |n+1,.st t,v,off,sz=>match (if aA off 0&&aA sz t.size then Ht h (.st t) x else U) with
  |some y=>Z y
  |none=>gL h x n t v off sz
 |n+1,.pr a b,v,off,sz=>if eK off a.size then (match gL h x n a v.1 off sz with|some (y,m)=>Z ((y,v.2),m)|none=>U) else (match gL h x n b v.2 (off-a.size) sz with|some (y,m)=>Z ((v.1,y),m)|none=>U)
 |_+1,.un,_,_,_=>U
 |n+1,.ex,v,off,sz=>match (if aA off 0&&aA sz 4 then Ht h .ex x else U) with
  |some y=>Z y
  |none=>(match gL h x n Rv (Sr v) off sz with|some (y,m)=>Z (eM y,m)|none=>U)
 |n+1,.sm,v,off,sz=>match (if aA off 0&&aA sz 11 then Ht h .sm x else U) with
  |some y=>Z y
  |none=>(match gL h x n Q3 (Sq v) off sz with|some (y,m)=>Z (pn y,m)|none=>U)
 |_+1,.int k,_,off,sz=>if aA off 0&&aA sz 1 then iN h (.int k) x else U
 |_+1,.bool,_,off,sz=>if aA off 0&&aA sz 1 then iN h .bool x else U
 |_+1,.str,_,off,sz=>if aA off 0&&aA sz 1 then iN h .str x else U
 |_+1,.sl t,_,off,sz=>if aA off 0&&aA sz 1 then iN h (.sl t) x else U
def D9 (h:a8) (T:Ty):Nat->Y TV->M (Y T.den×Nat)
 |0,[]=>Z ([],0)
 |0,_::_=>U
 |n+1,l=>match fM h 40 T l with
  |some (x,m,r)=>(match D9 h T n r with|some (xs,m')=>Z (x::xs,m|||m')|none=>U)
  |none=>U
def ve:Ty->ξ
 |.int k=>[.int k 0]
 |.bool=>[.bool af]
 |.str=>[.string ⟨#[]⟩]
 |.sl _=>[.slice U 0 0]
 |.st t=>ve t
 |.pr a b=>ve a++ve b
 |.un=>[]
 |.ex=>[.int .i64 0,.int .i64 0,.string ⟨#[]⟩,.slice U 0 0]
 |.sm=>[.int .i64 0,.int .i64 0,.string ⟨#[]⟩,.string ⟨#[]⟩,.slice U 0 0,.int .i64 0,.int .i64 0,.string ⟨#[]⟩,.slice U 0 0,.slice U 0 0,.slice U 0 0]
def Ya:ξ->ξ->Bool
 |[],[]=>J
 |x::xs,y::z=>auz x y&&Ya xs z
 |_,_=>af
def Ty.flat:Ty->Bool
 |.int _=>J
 |.bool=>J
 |.str=>J
 |.st t=>t.flat
 |.pr a b=>a.flat&&b.flat
 |.un=>J
 |_=>af
def tj:Y TypeDesc->M Ty
 |[]=>Z .un
 |.int k::r=>match tj r with|some t=>Z (.pr (.int k) t)|none=>U
 |.bool::r=>match tj r with|some t=>Z (.pr .bool t)|none=>U
 |.string::r=>match tj r with|some t=>Z (.pr .str t)|none=>U
 |_=>U
inductive PV where
 |d (T:Ty)
 |K (id off:Nat)
 |I (id:Nat)
 |qg (id sz n:Nat)
 |mp (id:Nat)
 |nil
 |emp
 |qf (q:FuncId) (l:List (Nat×Nat))
 |ob (id off:Nat)
 |nr (id sz:Nat)
 |agg (l:List PV)
inductive PB where
 |H (ty:TypeId) (p:Bool) (T:Ty)
 |qm (ty:TypeId) (T:Ty)
 |G (ty:Option TypeId) (l:List PV)
 |mp (K V:Ty)
 |qx (F:uM) (a:Nat)
 |qd
mutual
def PV.ty:PV->Ty
 |.d T=>T
 |.agg l=>PV.tyL l
 |.K _ _|.I _|.qg _ _ _|.qf _ _=>.un
 |.ob _ _=>.int .i64
 |.nr _ _=>.pr (.int .i64) (.int .i64)
 |.mp _|.nil|.emp=>.un
def PV.tyL:Y PV->Ty
 |[]=>.un
 |p::r=>spr p.ty (PV.tyL r)
end
def PB.ty:PB->Ty
 |.H _ _ T=>.sl T
 |.qm _ T=>.pr .bool (.sl T)
 |.G _ l=>PV.tyL l
 |.mp K V=>.sl (.pr K V)
 |.qx F _=>F.ty
 |.qd=>.un
def PB.tyL:Y PB->Ty
 |[]=>.un
 |p::r=>spr p.ty (PB.tyL r)
structure Tm where
 vs:List PV
 bs:List PB
def Tm.ty (t:Tm):Ty:=spr (PV.tyL t.vs) (PB.tyL t.bs)
def Mo (g:Nat->Nat):Y p?->Y TV->Bool
 |[],[]=>J
 |(i,o)::r,.K A z::vs=>aA (g i) A&&aA o z&&Mo g r vs
 |_,_=>af
mutual
def mP (g:Nat->Nat) (h:a8):(p:PV)->Y TV->M (p.ty.den×Nat×Y TV)
 |.d T,l=>fM h 40 T l
 |.K i o,l=>match l with|.K i' o'::r=>if aA (g i) i'&&aA o o' then Z ((),0,r) else U|_=>U
 |.I i,l=>match l with|.I i'::r=>if aA (g i) i' then Z ((),0,r) else U|_=>U
 |.qg i s n,l=>match l with|.qg i' s' n'::r=>if aA (g i) i'&&aA s s'&&aA n n' then Z ((),0,r) else U|_=>U
 |.qf q ps,l=>match l with|.qf q' vs::r=>if aA q q'&&Mo g ps vs then Z ((),0,r) else U|_=>U
 |.ob i o,l=>match l with|.sb (.ob i' j o')::r=>if aA (g i) i'&&aA o o' then Z (j,0,r) else U|_=>U
 |.nr i s,l=>match l with|.sb (.nr i' j s' n)::r=>if aA (g i) i'&&aA s s' then Z ((j,aS n),0,r) else U|_=>U
 |.mp i,l=>match l with|.mp i'::r=>if aA (g i) i' then Z ((),0,r) else U|_=>U
 |.nil,l=>match l with|.nil::r=>Z ((),0,r)|_=>U
 |.emp,l=>match l with|.nil::r=>Z ((),0,r)|.emp::r=>Z ((),0,r)|_=>U
 |.agg ps,l=>Ct g h ps l
def Ct (g:Nat->Nat) (h:a8):(ps:Y PV)->Y TV->M ((PV.tyL ps).den×Nat×Y TV)
 |[],l=>Z ((),0,l)
 |p::r,l=>match mP g h p l with
  |some (x,m,l')=>(match Ct g h r l' with|some (y,m',l'')=>Z (mkp p.ty (PV.tyL r) x y,m|||m',l'')|none=>U)
  |none=>U
end
def wH (g:Nat->Nat) (h:a8):(p:PV)->TV->M (p.ty.den×Nat)
 |.d T,v=>Ht h T v
 |.agg z,v=>if v.isC then U else (match v.cs with
  |some l=>(match Ct g h z l with|some (x,m,[])=>Z (x,m)|_=>U)
  |none=>U)
 |.K i o,v=>match mP g h (.K i o) [v] with|some (x,m,_)=>Z (x,m)|none=>U
 |.I i,v=>match mP g h (.I i) [v] with|some (x,m,_)=>Z (x,m)|none=>U
 |.qg i s n,v=>match mP g h (.qg i s n) [v] with|some (x,m,_)=>Z (x,m)|none=>U
 |.qf q z,v=>match mP g h (.qf q z) [v] with|some (x,m,_)=>Z (x,m)|none=>U
 |.ob i o,v=>match mP g h (.ob i o) [v] with|some (x,m,_)=>Z (x,m)|none=>U
 |.nr i s,v=>match mP g h (.nr i s) [v] with|some (x,m,_)=>Z (x,m)|none=>U
 |.mp i,v=>match mP g h (.mp i) [v] with|some (x,m,_)=>Z (x,m)|none=>U
 |.nil,v=>match mP g h .nil [v] with|some (x,m,_)=>Z (x,m)|none=>U
 |.emp,v=>match mP g h .emp [v] with|some (x,m,_)=>Z (x,m)|none=>U
def Cr (g:Nat->Nat) (h:a8):(z:Y PV)->Y TV->M ((PV.tyL z).den×Nat)
 |[],[]=>Z ((),0)
 |p::r,v::vs=>match wH g h p v with
  |some (x,m)=>(match Cr g h r vs with|some (y,m')=>Z (mkp p.ty (PV.tyL r) x y,m|||m')|none=>U)
  |none=>U
 |[],_::_=>U
 |_::_,[]=>U
def Fk (g:Nat->Nat) (h:a8) (i:Nat):(b:PB)->M (b.ty.den×Nat)
 |.H ty p T=>match h.get (g i) with
  |some (.H ty' z S xs)=>if ty==ty'&&p==z then (match xO (S:=.sl S) (.sl T) xs with|some x=>Z (x,0)|none=>U) else U
  |_=>U
 |.qm ty T=>match h.get (g i) with
  |some (.H ty' z S xs)=>if ty==ty' then (match xO (S:=.sl S) (.sl T) xs with|some x=>Z ((z,x),0)|none=>U) else U
  |_=>U
 |.G ty A=>match h.get (g i) with
  |some (.G ty' l)=>if ty==ty' then (match Ct g h A l with|some (x,m,[])=>Z (x,m)|_=>U) else U
  |_=>U
 |.mp K V=>match h.get (g i) with
  |some (.mp K' V' es)=>(match xO (S:=.sl (.pr K' V')) (.sl (.pr K V)) es with|some x=>Z (x,0)|none=>U)
  |_=>U
 |.qx F a=>match h.get (g i) with
  |some (.qx F' L x)=>if I:F'=F then (if aA (F.aid (g a)) L then Z (I▸x,0) else U) else U
  |_=>U
 |.qd=>Z ((),0)
def GJ (g:Nat->Nat) (h:a8):Nat->(bs:Y PB)->M ((PB.tyL bs).den×Nat)
 |_,[]=>Z ((),0)
 |i,b::r=>match Fk g h i b with
  |some (x,m)=>(match GJ g h (i+1) r with|some (y,m')=>Z (mkp b.ty (PB.tyL r) x y,m|||m')|none=>U)
  |none=>U
mutual
def nP (g:Nat->Nat):(p:PV)->p.ty.den->M (Y TV)
 |.d T,x=>cellsOf 40 T x
 |.K i o,_=>Z [.K (g i) o]
 |.I i,_=>Z [.I (g i)]
 |.qg i s n,_=>Z [.qg (g i) s n]
 |.mp i,_=>Z [.mp (g i)]
 |.qf q ps,_=>Z [.qf q (ps.map λp=>.K (g p.1) p.2)]
 |.ob i o,j=>Z [.sb (.ob (g i) j o)]
 |.nr i s,x=>Z [.sb (.nr (g i) x.1 s (aO x.2))]
 |.nil,_=>Z [.nil]
 |.emp,_=>Z [.emp]
 |.agg ps,x=>s8 g ps x
def s8 (g:Nat->Nat):(ps:Y PV)->(PV.tyL ps).den->M (Y TV)
 |[],_=>Z []
 |p::r,x=>match nP g p (UW p.ty (PV.tyL r) x) with
  |some a=>(match s8 g r (SA p.ty (PV.tyL r) x) with|some b=>Z (a++b)|none=>U)
  |none=>U
end
def r8 (g:Nat->Nat):(p:PV)->p.ty.den->M TV
 |.d T,x=>Z (.f T x)
 |.K i o,_=>Z (.K (g i) o)
 |.I i,_=>Z (.I (g i))
 |.qg i s n,_=>Z (.qg (g i) s n)
 |.mp i,_=>Z (.mp (g i))
 |.qf q z,_=>Z (.qf q (z.map λp=>.K (g p.1) p.2))
 |.ob i o,j=>Z (.sb (.ob (g i) j o))
 |.nr i s,x=>Z (.sb (.nr (g i) x.1 s (aO x.2)))
 |.nil,_=>Z .nil
 |.emp,_=>Z .emp
 |.agg z,x=>match s8 g z x with|some l=>Z (.agg l)|none=>U
def r7 (g:Nat->Nat):(z:Y PV)->(PV.tyL z).den->M (Y TV)
 |[],_=>Z []
 |p::r,x=>match r8 g p (UW p.ty (PV.tyL r) x) with
  |some a=>(match r7 g r (SA p.ty (PV.tyL r) x) with|some b=>Z (a::b)|none=>U)
  |none=>U
def DC (g:Nat->Nat):(b:PB)->b.ty.den->M (M fc)
 |.H ty p T,x=>Z (Z (.H ty p T x))
 |.qm ty T,x=>Z (Z (.H ty x.1 T x.2))
 |.G ty z,x=>match s8 g z x with|some l=>Z (Z (.G ty l))|none=>U
 |.mp K V,x=>Z (Z (.mp K V x))
 |.qx F a,x=>Z (Z (.qx F (F.aid (g a)) x))
 |.qd,_=>Z U
def vi:fc->fc
 |.H _ p T xs=>.qj p T.size (l! xs)
 |.G _ _|.mp _ _ _=>.qj J 0 0
 |.qx F _ x|.qh F _ x _ _=>(match sM F x with|some (p,s,n)=>.qj p s n|none=>.qj J 0 0)
 |.qj p sz n=>.qj p sz n
def kill (h:a8) (i:Nat):a8:=match h.get i with
 |some b=>h.set i (Z (vi b))
 |none=>h
def ry (g:Nat->Nat):(bs:Y PB)->(PB.tyL bs).den->M (Y (M fc))
 |[],_=>Z []
 |b::r,x=>match DC g b (UW b.ty (PB.tyL r) x) with
  |some c=>(match ry g r (SA b.ty (PB.tyL r) x) with|some l=>Z (c::l)|none=>U)
  |none=>U
def DL (g:Nat->Nat):Nat->Y (M fc)->a8->a8
 |_,[],h=>h
 |i,Z c::r,h=>DL g (i+1) r (h.set (g i) (Z c))
 |i,U::r,h=>DL g (i+1) r (kill h (g i))
def Q9 (g:Nat->Nat) (bs:Y PB) (x:(PB.tyL bs).den) (h:a8):M a8:=match ry g bs x with
 |some l=>Z (DL g 0 l h)
 |none=>U
def s9 {K V:Ty} (k:K.den):Y (K.den×V.den)->M V.den
 |[]=>U
 |(z,v)::r=>if UX K k z then Z v else s9 k r
def Cc {K V:Ty} (k:K.den) (v:V.den):Y (K.den×V.den)->Y (K.den×V.den)
 |[]=>[(k,v)]
 |(z,A)::r=>if UX K k z then (k,v)::r else (z,A)::Cc k v r
def KU {K V:Ty} (k:K.den) (es:Y (K.den×V.den)):Bool:=match s9 k es with|some _=>J|none=>af
def Bh {K V:Ty} (k:K.den) (es:Y (K.den×V.den)) (z:V.den):V.den:=match s9 k es with|some v=>v|none=>z
def ay4 (T:Ty):Nat->Ty
 |0=>.un
 |1=>T
 |n+2=>.pr T (ay4 T (n+1))
def kwT:Ty:=.st (ay4 .str 22)
def kwV:kwT.den:=([118,97,114],[118,111,108,97,116,105,108,101],[109,117,116,101,120],[114,119,108,111,99,107],[99,111,110,100],[102,117,116,117,114,101],[116,104,114,101,97,100],[105,102],[101,108,115,101],[119,104,105,108,101],[108,111,99,107],[114,101,97,100],[119,114,105,116,101],[116,114,97,110,115,97,99,116,105,111,110],[97,116,111,109,105,99],[119,97,105,116],[110,111,116,105,102,121],[110,111,116,105,102,121,97,108,108],[115,112,97,119,110],[106,111,105,110],[115,101,116],[103,101,116])
structure ci where
 pre:Tm
 post:Tm
 m:pre.ty.den->Option post.ty.den
def abn:Y p?->Y TV->PT Nat->PT Nat
 |(i,_)::r,.K a _::vs,σ=>abn r vs (σ.set i (Z a))
 |_::r,_::vs,σ=>abn r vs σ
 |_,_,σ=>σ
mutual
def at2:PV->Y TV->PT Nat->PT Nat×Y TV
 |.d T,l,σ=>(σ,l.drop T.size)
 |.K i _,l,σ=>match l with|.K a _::r=>(σ.set i (Z a),r)|l=>(σ,l.drop 1)
 |.I i,l,σ=>match l with|.I a::r=>(σ.set i (Z a),r)|l=>(σ,l.drop 1)
 |.qg i _ _,l,σ=>match l with|.qg a _ _::r=>(σ.set i (Z a),r)|l=>(σ,l.drop 1)
 |.mp i,l,σ=>match l with|.mp a::r=>(σ.set i (Z a),r)|l=>(σ,l.drop 1)
 |.qf _ ps,l,σ=>match l with|.qf _ vs::r=>(abn ps vs σ,r)|l=>(σ,l.drop 1)
 |.ob i _,l,σ=>match l with|.sb (.ob a _ _)::r=>(σ.set i (Z a),r)|l=>(σ,l.drop 1)
 |.nr i _,l,σ=>match l with|.sb (.nr a _ _ _)::r=>(σ.set i (Z a),r)|l=>(σ,l.drop 1)
 |.nil,l,σ|.emp,l,σ=>(σ,l.drop 1)
 |.agg ps,l,σ=>abo ps l σ
def abo:Y PV->Y TV->PT Nat->PT Nat×Y TV
 |[],l,σ=>(σ,l)
 |p::r,l,σ=>match at2 p l σ with|(σ',l')=>abo r l' σ'
end
def aza (p:PV) (v:TV) (σ:PT Nat):PT Nat:=match p with
 |.d _=>σ
 |p=>match v.cs with|some l=>(at2 p l σ).1|none=>σ
def ama:Y PV->Y TV->PT Nat->PT Nat
 |p::r,v::vs,σ=>ama r vs (aza p v σ)
 |_,_,σ=>σ
def abp (h:a8):Nat->Y PB->PT Nat->PT Nat
 |_,[],σ=>σ
 |i,b::r,σ=>abp h (i+1) r (match b with
  |.G _ z=>(match σ.get i with
   |some a=>(match h.get a with|some (.G _ l)=>(abo z l σ).1|_=>σ)
   |none=>σ)
  |.qx F j=>(match σ.get i with
   |some a=>(match h.get a with|some (.qx _ b _)=>(if aA (F.aid 1) 0 then σ else σ.set j (Z b))|_=>σ)
   |none=>σ)
  |_=>σ)
def iv (σ:PT Nat) (i:Nat):Nat:=match σ.get i with|some a=>a|none=>0
def aj3 (σ:PT Nat):Nat->Nat->Nat->M Nat
 |0,_,acc=>Z acc
 |n+1,i,acc=>match σ.get i with
  |some a=>if aM acc a then U else aj3 σ n (i+1) (acc|||gA a)
  |none=>U
def idn:Nat->PT Nat
 |0=>.leaf
 |n+1=>(idn n).set n (Z n)
def adz (σ:PT Nat):Nat->Bool
 |0=>J
 |n+1=>(match σ.get n with|some a=>aA a n|none=>af)&&adz σ n
structure aA1 (t:Tm) where
 x:t.ty.den
 m:Nat
 σ:PT Nat
 sm:Nat
def Fd (np:Nat) (t:Tm) (vs:Y TV) (h:a8):M (aA1 t):=
 WE (abp h 0 t.bs (abp h 0 t.bs (ama t.vs vs (idn np)))) λσ=>
 match aj3 σ (l! t.bs) 0 0 with
 |some sm=>(match Cr (iv σ) h t.vs vs with
  |some (x,m)=>(match GJ (iv σ) h 0 t.bs with
   |some (y,m')=>if Kp (m|||m') sm&&adz σ np then Z ⟨mkp _ _ x y,m|||m',σ,sm⟩ else U
   |none=>U)
  |none=>U)
 |none=>U
def PT.updI (f:Nat->R->R):Nat->Nat->PT R->PT R
 |_,_,.leaf=>.leaf
 |a,b,.node v l r=>.node (match v with|some x=>Z (f b x)|none=>U) (PT.updI f (2*a) (a+b) l) (PT.updI f (2*a) (2*a+b) r)
def dM (m:Nat) (h:a8):a8:=if aA m 0 then h else PT.updI (λi b=>if aM m i then vi b else b) 1 0 h
def Zx:Operand->Bool
 |.const (.agg _)=>J
 |_=>af
def dz (e:ia):Operand->M TV
 |.tmp t=>e.get t
 |.const v=>auq v
 |.func g=>Z (.qf g [])
 |.global g=>match G g with|some _=>Z (.zf kwT [kwV] 0 (Eq.refl J) 0)|none=>U
def Mt (e:ia):Y Operand->M (Y TV)
 |[]=>Z []
 |x::xs=>match dz e x with|some y=>(match Mt e xs with|some z=>Z (y::z)|none=>U)|none=>U
def Nu (cells:Y TV) (e:ia):Y m?->M (Y TV)
 |[]=>Z cells
 |(off,sz,x)::r=>match dz e x with
  |some v=>(match v.cs with
   |some cs=>if (l! cs)==sz&&dY (off+sz) (l! cells) then Nu (splice cells off cs) e r else U
   |none=>U)
  |none=>U
def YY (l:Y TV) (off sz:Nat):Bool->M TV
 |false=>if aA sz 1 then l[off]? else U
 |true=>if dY (off+sz) (l! l) then Z (.agg ((l.drop off).take sz)) else U
def eO (h:a8) (id:Nat):M (Bool×p?):=match h.get id with
 |some (.H _ p T xs)=>Z (p,T.size,l! xs)
 |some (.qj p sz n)=>Z (p,sz,n)
 |some (.qx F _ x)|some (.qh F _ x _ _)=>sM F x
 |_=>U
def lenOf (h:a8):TV->M Nat
 |.f (.sl _) xs=>Z (aj xs)
 |.emp|.nil=>Z 0
 |.I id=>match eO h id with|some (_,_,n)=>Z n|none=>U
 |.qg _ _ n|.sb (.nr _ _ _ n)=>Z n
 |_=>U
mutual
def PI (h:a8):TV->Bool
 |.I id|.zl id _=>(eO h id).isSome
 |.sb _=>J
 |.agg l|.qp l|.qf _ l=>lM h l
 |.f _ _=>J
 |.zf _ _ _ _ _=>J
 |.zq _ _ _ _=>J
 |.K _ _=>J
 |.qg _ _ _=>J
 |.emp=>J
 |.nil=>J
 |.mp _=>J
 |.undef=>J
 |.np=>J
 |.qy=>J
def lM (h:a8):Y TV->Bool
 |[]=>J
 |x::r=>PI h x&&lM h r
end
mutual
def Jw (n:Nat):TV->Bool
 |.I id|.zl id _=>eK id n
 |.sb s=>eK s.id n
 |.zq id _ _ _|.K id _|.qg id _ _|.mp id=>eK id n
 |.agg l|.qp l|.qf _ l=>rT n l
 |.f _ _=>J
 |.zf _ _ _ _ _=>J
 |.emp=>J
 |.nil=>J
 |.undef=>J
 |.np=>J
 |.qy=>J
def rT (n:Nat):Y TV->Bool
 |[]=>J
 |x::r=>Jw n x&&rT n r
end
def D' (t:Tm) (x:t.ty.den):M (Y TV×a8):=
 match r7 (λi=>i) t.vs (UW _ _ x) with
 |some vs=>(match Q9 (λi=>i) t.bs (SA _ _ x) PT.leaf with
  |some h=>if lM h vs&&rT (l! t.bs) vs&&PT.all (λ_ b=>match b with|.G _ l=>lM h l&&rT (l! t.bs) l|.qx _ a _=>eK a (l! t.bs)|.qh _ _ _ _ _=>af|_=>J) 1 0 h then Z (vs,h) else U
  |none=>U)
 |none=>U
abbrev KO (R:Type):=TV->Nat->Nat->a8->Nat->M R
def Vr:Y TV->TV
 |[x]=>x
 |l=>.qp l
def E6:Y PB->Bool
 |[]=>J
 |.qd::_=>af
 |_::r=>E6 r
def L2:Y PB->Bool
 |[]=>J
 |.H _ _ _::r=>L2 r
 |_::_=>af
def vV (h z:a8) (g:Nat->Nat):Nat->Bool
 |0=>J
 |n+1=>(match eO h (g n) with
  |some (p,s,k)=>(match eO z (g n) with|some (A,s',I)=>(p==A)&&aA s s'&&aA k I|none=>af)
  |none=>J)&&vV h z g n
def aod (f:FuncId):Y TV->FuncId
 |[]=>f
 |.qf g _::_=>f+65536*(g+1)
 |.sb (.nr _ _ _ _)::r=>f+65536*(60000+l! r)
 |_::r=>aod f r
def aus (con:FuncId->M ci) (f:FuncId) (l:Y TV):M ci:=match eK f 65536 with
 |true=>(match con (aod f l) with|some c=>Z c|none=>con f)
 |false=>U
def aeo (con:FuncId->M ci) (f:FuncId) (l:Y TV) (h:a8) (nx:Nat) (K:KO R):M R:=
 match aus con f l with
 |some c=>(match Fd 0 c.pre l h with
  |some ⟨x,m,σ,sm⟩=>(match D' c.pre x with
   |some _=>ax (c.m x) λy=>(match D' c.post y with
    |some _=>if dY (l! c.pre.bs) (l! c.post.bs)&&E6 c.pre.bs then
      let np:=l! c.pre.bs
      let I:=l! c.post.bs-np
      let g:=λi=>if eK i np then iv σ i else nx+(i-np)
      (match r7 g c.post.vs (UW _ _ y) with
      |some z=>if !(aA m 0)&&aA (l! c.post.bs) 0&&(PV.tyL c.post.vs).flat then K (Vr z) m 0 h nx else
       (match Q9 g c.post.bs (SA _ _ y) (dM m h) with
       |some A=>chk (vV h A g np) λ_=>K (Vr z) (sm|||m) (sm|||m|||(((1<<<I)-1)<<<nx)) A (nx+I)
       |none=>U)
      |none=>U) else if aA (l! c.post.bs) 0&&L2 c.pre.bs then
      let np:=l! c.pre.bs
      let g:=λi=>if eK i np then iv σ i else nx+(i-np)
      (match r7 g c.post.vs (UW _ _ y) with
      |some z=>(match Q9 g c.pre.bs (SA _ _ x) (dM m h) with
       |some A=>K (Vr z) (sm|||m) m A nx
       |none=>U)
      |none=>U) else U
    |none=>U)
   |none=>U)
  |none=>U)
 |none=>U
def auy (op:BinOp) (x y:TV) (q:TV->M R):M R:=
 match x,y with
 |.f (.int k) a,.f (.int z) b=>if k==z then
   (match op with
   |.add=>q (.f (.int k) (a_ k (a+b)))
   |.sub=>q (.f (.int k) (a_ k (a-b)))
   |.mul=>q (.f (.int k) (a_ k (a*b)))
   |.rem=>chk (!decide ((b:Int)=0)) λ_=>q (.f (.int k) (lw a b))
   |.quo=>chk (!decide ((b:Int)=0)) λ_=>q (.f (.int k) (a_ k (Pn a b)))
   |.eql=>q (.f .bool (decide ((a:Int)=b)))
   |.neq=>q (.f .bool (!decide ((a:Int)=b)))
   |.lss=>q (.f .bool (gI a b))
   |.leq=>q (.f .bool (cX a b))
   |.gtr=>q (.f .bool (gI b a))
   |.geq=>q (.f .bool (cX b a))
   |_=>U)
  else U
 |.f .str a,.f .str b=>match op with
   |.eql=>q (.f .bool (decide ((a:ζ)=b)))
   |.neq=>q (.f .bool (!decide ((a:ζ)=b)))
   |_=>U
 |_,_=>U
def afr:Bool->Ty->Bool
 |false,.int _=>J
 |true,.str=>J
 |_,_=>af
abbrev itK:Ty:=.st (.pr .str (.int .i64))
def isIt:Ty->Bool
 |.st (.pr .str (.int .i64))=>J
 |_=>af
def afp (K:Ty):Bool:= !isIt K
def Pt:Y ((ζ×Int)×Unit)->ζ
 |[]=>[]
 |e::_=>e.1.1
def MV:Y ((ζ×Int)×Unit)->Nat
 |[]=>0
 |e::_=>aO e.1.2
def rnP (s:ζ) (p:Nat):Int:=rnA (List.getD s p 0) ⟨jG s⟩ p
def wdP (s:ζ) (p:Nat):Nat:=wdA (List.getD s p 0) ⟨jG s⟩ p
def itE:(K V:Ty)->Y (K.den×V.den)->M (ζ×Nat)
 |.st (.pr .str (.int .i64)),.un,es=>Z (Pt es,MV es)
 |_,_,_=>U
def mpE:(K V:Ty)->Y (K.den×V.den)->Bool
 |.un,.un,[]=>J
 |_,_,_=>af
def AY (T:Ty):Y TV->M (Y T.den)
 |[]=>Z []
 |.f S v::r=>match xO (S:=S) T v with
  |some x=>(match AY T r with|some l=>Z (x::l)|none=>U)
  |none=>U
 |_::_=>U
def amd:Y TV->M ((T:Ty)×Y T.den)
 |.f T v::r=>match AY T (.f T v::r) with|some l=>Z ⟨T,l⟩|none=>U
 |_=>U
def ayj (n sz:Nat) (v:TV):Bool->M ((T:Ty)×Y T.den)
 |true=>U
 |false=>if aA sz 1&& !v.isC then (match v.cs with|some l=>if aA (l! l) n then amd l else U|none=>U) else U
def arrB (n sz off:Nat):M fc->M ((T:Ty)×Y T.den)
 |some (.G (Z _) l)=>if aA sz 1&&aA off 0&&aA (l! l) n then amd l else U
 |_=>U
def asv:Ty->Nat
 |.pr .un t=>asv t+1
 |_=>0
def Hl:M Ty->M Nat
 |some (.pr .un t)=>Z (asv t)
 |_=>U
def asy (ty:TypeId) (sz bytes:Nat) (b y:TV) (h:a8) (nx:Nat) (K:KO R):M R:=match y with
 |.qg id2 sz2 m=>(match h.get id2 with
  |some (.G (Z _) z)=>if aA sz2 sz&&aA (l! z) (m*sz)&& !(aA m 0) then (match b with
   |.qg id sz1 n=>(match h.get id with
    |some (.G (Z ty1) l)=>if aA sz1 sz&&ty1==ty&&aA (l! l) (n*sz)&& !(aA id id2) then
      chk (bg (n+m) bytes) λ_=>K (.qg nx sz (n+m)) (gA id|||gA id2) (gA id|||gA nx) ((h.set id (Z (.qj J 0 0))).set nx (Z (.G (Z ty) (l++z)))) (nx+1) else U
    |_=>U)
   |.nil=>chk (bg m bytes) λ_=>K (.qg nx sz m) (gA id2) (0|||gA nx) ((dM 0 h).set nx (Z (.G (Z ty) z))) (nx+1)
   |_=>U) else U
  |_=>U)
 |_=>U
def aqv (ty:TypeId) (sz bytes:Nat) (T:Ty) (b:TV) (z:Y T.den) (m:Nat) (h:a8) (nx:Nat) (K:KO R):M R:=match b with
 |.I id=>(match h.get id with
  |some (.H ty' p S xs)=>(match xO (S:=.sl S) (.sl T) xs with
   |some xs=>if ty'==ty&& !(aM m id) then
     chk (bg (aj xs+aj z) bytes) λ_=>K (.I nx) (gA id|||m) (gA id|||gA nx) ((h.set id (Z (.qj p sz (aj xs)))).set nx (Z (.H ty p T (xs++z)))) (nx+1)
    else U
   |none=>U)
  |_=>U)
 |.emp|.nil=>chk (bg (aj z) bytes) λ_=>K (.I nx) m (gA nx) (h.set nx (Z (.H ty J T z))) (nx+1)
 |_=>U
def pkT (ok:Bool) (v b:TV):TV:=match ok with|true=>.qp [v,b]|false=>v
def eQ (con:FuncId->M ci) (bY:TypeId->M Ty) (o:SI) (e:ia) (h:a8) (nx:Nat) (K:KO R):M R:=
 match o with
 |.call f args=>match Mt e args with|some l=>aeo con f l h nx K|none=>U
 |.jt x args=>match dz e x,Mt e args with
  |some (.qf f cap),Z l=>aeo con f (l++cap) h nx K
  |_,_=>U
 |.op s=>match s with
  |.zh ty sz bytes z l c=>match Hl (bY ty) with
   |some n=>(match Ov z,dz e l,dz e c with
    |some zc,Z (.f (.int _) a),Z (.f (.int _) b)=>chk (cX 0 a&&cX a b&&bg (aO b) bytes&&decide ((a:Int)=aS n)) λ_=>K (.qg nx sz n) 0 (0|||gA nx) ((dM 0 h).set nx (Z (.G (Z ty) (aE n zc).flatten))) (nx+1)
    |_,_,_=>U)
   |none=>match bY ty,dz e l,dz e c with
   |some T,Z (.f (.int _) a),Z (.f (.int _) b)=>if aA sz T.size&&Ya z (ve T) then
     chk (cX 0 a&&cX a b&&bg (aO b) bytes) λ_=>K (.I nx) 0 (gA nx) (h.set nx (Z (.H ty af T (aE (aO a) T.zero)))) (nx+1) else U
   |_,_,_=>U
  |.xz ty sz len z parts=>match Hl (bY ty) with
   |some _=>(match Ov z with
    |some zc=>(match Nu ((aE len zc).flatten) e parts with
     |some cs=>if aA len 0 then U else K (.qg nx sz len) 0 (0|||gA nx) ((dM 0 h).set nx (Z (.G (Z ty) cs))) (nx+1)
     |none=>U)
    |none=>U)
   |none=>match bY ty,Ov z with
   |some T,Z zc=>if aA sz T.size then (match Nu ((aE len zc).flatten) e parts with
    |some cs=>(match D9 h T len cs with
     |some (xs,m)=>K (.I nx) m (m|||gA nx) ((dM m h).set nx (Z (.H ty (aA len 0) T xs))) (nx+1)
     |none=>U)
    |none=>U) else U
   |_,_=>U
  |.app ty sz bytes s x=>match Hl (bY ty) with
   |some _=>(match dz e s,dz e x with
    |some b,Z y=>asy ty sz bytes b y h nx K
    |_,_=>U)
   |none=>match bY ty,dz e s,dz e x with
   |some T,Z b,Z y=>if aA sz T.size then (match Ht h (.sl T) y with
    |some (ys,m)=>aqv ty sz bytes T b ys m h nx K
    |none=>U) else U
   |_,_,_=>U
  |.copy sz d x=>match dz e d,dz e x with
   |some (.I id),Z y=>(match h.get id with
    |some (.H ty p T xs)=>if aA sz T.size then (match Ht h (.sl T) y with
     |some (ys,m)=>if !(aM m id)&& !p then
       K (.f (.int .i64) (aS (lQ (aj ys) (aj xs)))) (gA id|||m) (gA id) (h.set id (Z (.H ty p T (YO xs ys)))) nx else U
     |none=>U) else U
    |_=>U)
   |_,_=>U
  |.clr sz z x=>match dz e x with
   |some (.zl id j)=>(match h.get id with
    |some (.H ty p T xs)=>if (aA sz T.size&&Ya z (ve T))&&og z then
      chk (cX 0 j&&gI j (aj xs)) λ_=>K (.qp []) (gA id) (0|||gA id) ((dM 0 h).set id (Z (.H ty p T (dy (aO j) xs++aE (aj xs-aO j) T.zero)))) nx
     else U
    |_=>U)
   |_=>U
  |.mv x=>match dz e x with|some v=>K v 0 0 h nx|none=>U
  |.pick c a b=>match dz e c with
   |some (.f .bool t)=>aJ t (match dz e a with|some v=>K v 0 0 h nx|none=>U) (match dz e b with|some v=>K v 0 0 h nx|none=>U)
   |_=>U
  |.alloc ty z=>match Ov z with
   |some l=>K (.K nx 0) 0 (gA nx) (h.set nx (Z (.G (Z ty) l))) (nx+1)
   |none=>U
  |.box ty x=>match dz e x with
   |some v=>(match v.cs with|some l=>K (.K nx 0) 0 (gA nx) (h.set nx (Z (.G (Z ty) l))) (nx+1)|none=>U)
   |none=>U
  |.build z parts=>match Ov z with
   |some l=>(match Nu l e parts with|some cs=>K (.agg cs) 0 0 h nx|none=>U)
   |none=>U
  |.load sz L x=>match dz e x with
   |some (.K id off)=>(match h.get id with
    |some (.G (Z _) l)=>(match YY l off sz L with|some v=>K v (gA id) 0 h nx|none=>U)
    |_=>U)
   |some (.zq id sz' j off)=>(match h.get id with
    |some (.H _ _ T xs)=>if aA sz' T.size then chk (ef j (l! xs)) λ_=>(match od 40 T (aI _ xs j) off sz L with|some v=>K v (gA id) 0 h nx|none=>U) else U
    |some (.G (Z _) l)=>(match L with
     |true=>U
     |false=>if aA sz 1&&aA sz' 1&&aA off 0 then (match amd l with
      |some ⟨T,xs⟩=>chk (ef j (l! l)) λ_=>K (.f T (aI _ xs j)) (gA id) 0 h nx
      |none=>U) else U)
    |_=>U)
   |some (.zf T xs j _ off)=>(match od 40 T (aI _ xs j) off sz L with|some v=>K v 0 0 h nx|none=>U)
   |_=>U
  |.store sz x v=>match dz e x,dz e v with
   |some (.K id off),Z y=>(match h.get id with
    |some (.G (Z ty) l)=>(match y.cs with
     |some cs=>if (l! cs)==sz&&dY (off+sz) (l! l) then K .undef (gA id) (gA id) (h.set id (Z (.G (Z ty) (splice l off cs)))) nx else U
     |none=>U)
    |_=>U)
   |some (.zq id sz' j off),Z y=>(match h.get id with
    |some (.H ty p T xs)=>if aA sz' T.size then chk (ef j (l! xs)) λ_=>(match gL h y 40 T (aI _ xs j) off sz with
     |some (z,m)=>if aM m id then U else K .undef (m|||gA id) (m|||gA id) ((dM m h).set id (Z (.H ty p T (ca xs j z)))) nx
     |none=>U) else U
    |some (.G (Z ty) l)=>if aA sz 1&&(aA sz' 1&&aA off 0) then chk (ef j (l! l)) λ_=>(match y.cs with
     |some cs=>if aA (l! cs) 1 then K .undef (gA id) (gA id) (h.set id (Z (.G (Z ty) (splice l j.toNat cs)))) nx else U
     |none=>U) else U
    |_=>U)
   |_,_=>U
  |.jz x=>match dz e x with
   |some (.K id off)=>K (.K id off) 0 0 h nx
   |some (.zq id sz j off)=>K (.zq id sz j off) 0 0 h nx
   |some (.zf T xs j hj off)=>K (.zf T xs j hj off) 0 0 h nx
   |some (.qf g cap)=>K (.qf g cap) 0 0 h nx
   |_=>U
  |.bin op x y=>match dz e x,dz e y with
   |some u,Z v=>auy op u v λr=>K r 0 0 h nx
   |_,_=>U
  |.jh neg ds x y=>match tj ds,dz e x,dz e y with
   |some T,Z u,Z v=>if u.isC||v.isC||Zx x||Zx y then U else (match u.cs,v.cs with
    |some lu,Z lv=>(match fM PT.leaf 40 T lu,fM PT.leaf 40 T lv with
     |some (a,_,[]),Z (b,_,[])=>K (.f .bool (UX T a b !=neg)) 0 0 h nx
     |_,_=>U)
    |_,_=>U)
   |_,_,_=>U
  |.zn neg x=>match dz e x with
   |some .nil=>K (.f .bool (!neg)) 0 0 h nx
   |some .emp=>K .qy 0 0 h nx
   |some (.f (.sl _) xs)=>aJ (aA (aj xs) 0) (K .qy 0 0 h nx) (K (.f .bool neg) 0 0 h nx)
   |some (.I id)=>(match h.get id with
    |some (.H _ af _ _)=>K (.f .bool neg) 0 0 h nx
    |_=>U)
   |_=>U
  |.xq neg x y=>match dz e x,dz e y with
   |some (.f .bool a),Z (.f .bool b)=>K (.f .bool ((a==b) !=neg)) 0 0 h nx
   |_,_=>U
  |.not x=>match dz e x with|some (.f .bool b)=>K (.f .bool (!b)) 0 0 h nx|_=>U
  |.conv k x=>match dz e x with|some (.f (.int _) n)=>K (.f (.int k) (a_ k n)) 0 0 h nx|_=>U
  |.slc sz x lo hi mx=>match dz e x with
   |some v=>(match lo,hi,mx with
    |none,Z b,U=>(match v,dz e b with
     |.f (.sl T) xs,Z (.f (.int _) j)=>if aA sz T.size then chk (cX 0 j&&cX j (aj xs)) λ_=>K (.f (.sl T) (dy (aO j) xs)) 0 0 h nx else U
     |.I id,Z (.f (.int _) j)=>(match h.get id with
      |some (.H ty p T xs)=>if aA sz T.size then
        chk (cX 0 j&&gI j (aj xs)) λ_=>K (.I nx) (gA id) (gA id|||gA nx) ((h.set id (Z (.qj p sz (aj xs)))).set nx (Z (.H ty af T (dy (aO j) xs)))) (nx+1)
       else U
      |_=>U)
     |_,_=>U)
    |some b,U,U=>(match v,dz e b with
     |.f (.sl T) xs,Z (.f (.int _) j)=>if aA sz T.size then chk (cX 0 j&&cX j (aj xs)) λ_=>K (.f (.sl T) (List.drop (aO j) xs)) 0 0 h nx else U
     |.I id,Z (.f (.int _) j)=>(match h.get id with
      |some (.H _ _ T xs)=>if aA sz T.size then chk (cX 0 j&&gI j (aj xs)) λ_=>K (.zl id j) 0 0 h nx else U
      |_=>U)
     |_,_=>U)
    |some b,Z b',U=>(match v,dz e b,dz e b' with
     |.f (.sl T) xs,Z (.f (.int _) j),Z (.f (.int _) k)=>if aA sz T.size then chk (cX 0 j&&(cX j k&&cX k (aj xs))) λ_=>K (.f (.sl T) (dy (aO k-aO j) (List.drop (aO j) xs))) 0 0 h nx else U
     |_,_,_=>U)
    |_,_,_=>U)
   |none=>U
  |.jp off x=>match dz e x with
   |some (.K id o)=>K (.K id (o+off)) 0 0 h nx
   |some (.zq id sz j o)=>K (.zq id sz j (o+off)) 0 0 h nx
   |some (.zf T xs j hj o)=>K (.zf T xs j hj (o+off)) 0 0 h nx
   |_=>U
  |.fld off sz L x=>match dz e x with
   |some (.agg l)=>(match YY l off sz L with|some v=>K v 0 0 h nx|none=>U)
   |some (.f T v)=>if T.one then U else (match od 40 T v off sz L with|some v=>K v 0 0 h nx|none=>U)
   |_=>U
  |.jb sz x i=>match dz e x,dz e i with
   |some (.I id),Z (.f (.int _) j)=>(match h.get id with
    |some (.H _ _ T xs)=>if aA sz T.size then chk (ef j (l! xs)) λ_=>K (.zq id sz j 0) 0 0 h nx else U
    |_=>U)
   |some (.f (.sl T) xs),Z (.f (.int _) j)=>if aA sz T.size then chk (ef j (aj xs)) λhj=>K (.zf T xs j hj 0) 0 0 h nx else U
   |some (.qg id sz' n),Z (.f (.int _) j)=>if aA sz' sz then chk (cX 0 j&&gI j n) λ_=>K (.K id (aO j*sz)) 0 0 h nx else U
   |_,_=>U
  |.jk n sz x i=>match dz e x,dz e i with
   |some (.K id off),Z (.f (.int _) j)=>(match arrB n sz off (h.get id) with
    |some _=>chk (cX 0 j&&gI j n) λ_=>K (.zq id sz j off) 0 0 h nx
    |none=>chk (cX 0 j&&gI j n) λ_=>K (.K id (off+aO j*sz)) 0 0 h nx)
   |_,_=>U
  |.idx n sz L x i=>match dz e x,dz e i with
   |some v,Z (.f (.int _) j)=>(match ayj n sz v L with
    |some ⟨T,xs⟩=>chk (cX 0 j&&gI j n) λ_=>K (.f T (aI _ xs j)) 0 0 h nx
    |none=>(match v with
     |.agg l=>chk (cX 0 j&&gI j n) λ_=>(match YY l (aO j*sz) sz L with|some v=>K v 0 0 h nx|none=>U)
     |.f T v=>if T.one then U else chk (cX 0 j&&gI j n) λ_=>(match od 40 T v (aO j*sz) sz L with|some v=>K v 0 0 h nx|none=>U)
     |_=>U))
   |_,_=>U
  |.ext x i=>match dz e x with|some (.qp l)=>(match l[i]? with|some v=>K v 0 0 h nx|none=>U)|_=>U
  |.len x=>match dz e x with
   |some v=>(match lenOf h v with|some n=>K (.f (.int .i64) (aS n)) 0 0 h nx|none=>U)
   |none=>U
  |.lens x=>match dz e x with
   |some (.f .str s)=>K (.f (.int .i64) (aS (aj s))) 0 0 h nx
   |_=>U
  |.max x y=>match dz e x,dz e y with
   |some (.f (.int k) a),Z (.f (.int k') b)=>if k==k' then K (.f (.int k) (kA a b)) 0 0 h nx else U
   |_,_=>U
  |.min x y=>match dz e x,dz e y with
   |some (.f (.int k) a),Z (.f (.int k') b)=>if k==k' then K (.f (.int k) (BI a b)) 0 0 h nx else U
   |_,_=>U
  |.jv x i=>match dz e x,dz e i with
   |some (.f .str s),Z (.f (.int _) j)=>chk (ef j (aj s)) λ_=>K (.f (.int .u8) (aoc s j)) 0 0 h nx
   |_,_=>U
  |.rng x=>match dz e x with
   |some (.f .str s)=>K (.K nx 0) 0 (0|||gA nx) ((dM 0 h).set nx (Z (.mp itK .un [((s,0),())]))) (nx+1)
   |_=>U
  |.nxt x=>match dz e x with
   |some (.K id 0)=>(match h.get id with
    |some (.mp K' V es)=>(match itE K' V es with
     |some (s,p)=>aJ (eK p (aj s)) (K (.qp [.f .bool J,.f (.int .i64) (aS p),.f (.int .i32) (rnP s p)]) (gA id) (0|||gA id) ((dM 0 h).set id (Z (.mp itK .un [((s,aS (p+wdP s p)),())]))) nx)
       (K (.qp [.f .bool af]) (gA id) (0|||gA id) ((dM 0 h).set id (Z (.mp itK .un [((s,aS p),())]))) nx)
     |none=>U)
    |_=>U)
   |_=>U
  |.mkm=>K (.mp nx) 0 (0|||gA nx) ((dM 0 h).set nx (Z (.mp .un .un []))) (nx+1)
  |.jf str ok z x k=>match dz e x,dz e k with
   |some (.mp id),Z (.f KT kv)=>(match h.get id with
    |some (.mp K' V es)=>if afr str KT&&afp K' then (match mpE K' V es with
     |true=>(match cst z with|some v=>K (pkT ok v (.f .bool af)) (gA id) 0 h nx|none=>U)
     |false=>(match xO (S:=KT) K' kv,cst z with
      |some kv',Z (.f A zv)=>(match xO (S:=A) V zv with
       |some zv'=>K (pkT ok (.f V (Bh kv' es zv')) (.f .bool (KU kv' es))) (gA id) 0 h nx
       |none=>U)
      |_,_=>U)) else U
    |_=>U)
   |_,_=>U
  |.jg str x k v=>match dz e x,dz e k,dz e v with
   |some (.mp id),Z (.f KT kv),Z (.f VT vv)=>(match h.get id with
    |some (.mp K' V es)=>if (afr str KT&&VT.one)&&afp K' then (match mpE K' V es with
     |true=>K .undef (gA id) (0|||gA id) ((dM 0 h).set id (Z (.mp KT VT [(kv,vv)]))) nx
     |false=>(match xO (S:=KT) K' kv,xO (S:=VT) V vv with
      |some kv',Z vv'=>K .undef (gA id) (0|||gA id) ((dM 0 h).set id (Z (.mp K' V (Cc kv' vv' es)))) nx
      |_,_=>U)) else U
    |_=>U)
   |_,_,_=>U
  |.mkf f caps=>match Mt e caps with|some l=>K (.qf f l) 0 0 h nx|none=>U
  |_=>U
abbrev CZ (S:Ty):Type:=S.den×Y (Int×Bool)×Y (Int×Bool)
def o8 (S:Ty) (xs:Y (CZ S)) (j:Int):CZ S:=xs.getD j.toNat (S.zero,[],[])
def aso (xs:Y (CZ S)) (j:Int) (o:CZ S):Y (CZ S):=xs.set j.toNat o
def Zz (z:η) (j:Int):Int:=z.getD j.toNat 0
def BG {T:Ty} (xss:Y (Y T.den)) (j:Int):Y T.den:=xss.getD j.toNat []
def EX {T:Ty} (xss:Y (Y T.den)) (j:Int) (xs:Y T.den):Y (Y T.den):=xss.set j.toNat xs
abbrev j!:=Int×Bool
def Bg (b:Nat) (o:CZ S):Y j!:=match b with|0=>o.2.1|_=>o.2.2
def Mz (b:Nat) (o:CZ S) (m:Y j!):CZ S:=match b with|0=>(o.1,m,o.2.2)|_=>(o.1,o.2.1,m)
def akh (v:TV):M ν:=if v.isC then U else match v.cs with
 |some [.f (.int .i64) a,.f (.int .i64) b]=>Z (a,b)
 |_=>U
def keq (k z:ν):Bool:=decide (k.1=z.1)&&decide (k.2=z.2)
abbrev s?:=ν×Int
def aow (k:ν):Y s?->Bool
 |[]=>af
 |e::r=>keq k e.1||aow k r
def ajy (k:ν):Y s?->Int
 |[]=>0
 |e::r=>match keq k e.1 with|true=>e.2|false=>ajy k r
def ajz (k:ν):Y s?->Y s?
 |[]=>[]
 |e::r=>match keq k e.1 with|true=>r|false=>e::ajz k r
def stN:Ty->Nat
 |.st t=>stN t+1
 |_=>0
def isRr:M Ty->Bool
 |some (.pr .bool (.pr _ (.sl _)))=>J
 |_=>af
def akj:ξ->Bool
 |[.slice U 0 0]=>J
 |_=>af
def ayf:M TV->Bool
 |some (.sb _)=>J
 |_=>af
def Zv:M fc->Bool
 |some (.qx _ _ _)=>J
 |some (.qh _ _ _ _ _)=>J
 |_=>af
def Ci (h:a8):M TV->Bool
 |some (.sb _)=>J
 |some (.zq id _ _ _)|some (.I id)=>Zv (h.get id)
 |_=>af
def ayh (bY:TypeId->M Ty) (e:ia) (h:a8):SI->Bool
 |.op (.load _ _ x)|.op (.store _ x _)|.op (.jz x)|.op (.jp _ x)|.op (.jb _ x _)|.op (.jf _ _ _ x _)|.op (.jg _ x _ _)=>Ci h (dz e x)
 |.op (.app _ _ _ s x)=>Ci h (dz e s)||ayf (dz e x)
 |.op (.zh ty _ _ _ _ _)=>isRr (bY ty)
 |.op (.jw _ _)=>J
 |.op (.lkq _ _ _ _)=>J
 |.op (.mpq _ _ _ _)=>J
 |.op (.dlq _ _ _)=>J
 |_=>af
def pW (bY:TypeId->M Ty) (e:ia) (h:a8) (nx:Nat) (K:KO R):U0->M R
 |.load sz ag x=>match dz e x with
  |some (.sb (.ob id j off))=>(match h.get id with
   |some (.qx (.ar _ S) _ xs)=>chk (ef j (aj (α:=CZ S) xs)) λ_=>
     if ag then U else if eK off S.size then (match od 40 S (o8 S xs j).1 off sz af with|some v=>K v (gA id) 0 h nx|none=>U)
     else if aA sz 1&&eK off (S.size+2) then K (.sb (.om id j (off-S.size))) (gA id) 0 h nx else U
   |_=>U)
  |some (.sb (.np id j s i off))=>(match h.get id with
   |some (.qx (.ir _ T) _ xss)=>if aA s T.size then chk (ef j (aj (α:=Y T.den) xss)) λ_=>chk (ef i (aj (BG (T:=T) xss j))) λ_=>
     (match od 40 T (aI _ (BG (T:=T) xss j) i) off sz ag with|some v=>K v (gA id) 0 h nx|none=>U) else U
   |_=>U)
  |some (.zq id s j off)=>if (aA sz 1&& !ag)&&(aA s 1&&aA off 0) then (match h.get id with
   |some (.qx (.zm _) a L)=>chk (ef j (aj (α:=Int) L)) λ_=>K (.sb (.ob a (Zz L j) 0)) (gA id) 0 h nx
   |some (.qx (.rr _ z) a ls)=>chk (ef j (aj (α:=Int) ls)) λ_=>K (.sb (.nr a j z (aO (Zz ls j)))) (gA id) 0 h nx
   |_=>U) else U
  |_=>U
 |.store sz x v=>match dz e x,dz e v with
  |some (.sb (.ob id j off)),Z y=>(match h.get id with
   |some (.qx (.ar ty S) a xs)=>chk (ef j (aj (α:=CZ S) xs)) λ_=>(match gL h y 40 S (o8 S xs j).1 off sz with
    |some (z,m)=>if aA m 0 then K .undef (gA id) (0|||gA id) ((dM 0 h).set id (Z (.qx (.ar ty S) a (aso (S:=S) xs j (z,(o8 S xs j).2))))) nx else U
    |none=>U)
   |_=>U)
  |some (.sb (.np id j s i off)),Z y=>(match h.get id with
   |some (.qx (.ir ty T) a xss)=>if aA s T.size then chk (ef j (aj (α:=Y T.den) xss)) λ_=>chk (ef i (aj (BG (T:=T) xss j))) λ_=>(match gL h y 40 T (aI _ (BG (T:=T) xss j) i) off sz with
    |some (z,m)=>if aA m 0 then K .undef (gA id) (0|||gA id) ((dM 0 h).set id (Z (.qx (.ir ty T) a (EX (T:=T) xss j (ca (BG (T:=T) xss j) i z))))) nx else U
    |none=>U) else U
   |_=>U)
  |some (.zq id s j off),Z (.I r)=>if aA sz 1&&(aA s 1&&aA off 0) then (match h.get id,h.get r with
   |some (.qx (.rr ty z) a ls),Z (.H _ p T xs)=>if aA z T.size then chk (ef j (aj (α:=Int) ls)) λ_=>chk (p|| !(aA (aj xs) 0)) λ_=>K .undef (gA id) (0|||gA id) ((dM 0 h).set id (Z (.qh (.rr ty z) a ls (j,0) (Z (r,J,aj xs))))) nx else U
   |_,_=>U) else U
  |_,_=>U
 |.jz x=>match dz e x with
  |some (.sb (.ob id j off))=>K (.sb (.ob id j off)) 0 0 h nx
  |some (.sb (.np id j s i off))=>K (.sb (.np id j s i off)) 0 0 h nx
  |_=>U
 |.jp off x=>match dz e x with
  |some (.sb (.ob id j o))=>K (.sb (.ob id j (o+off))) 0 0 h nx
  |some (.sb (.np id j s i o))=>K (.sb (.np id j s i (o+off))) 0 0 h nx
  |_=>U
 |.jb sz x i=>match dz e x,dz e i with
  |some (.I id),Z (.f (.int _) j)=>(match eO h id with
   |some (_,s,n)=>if aA s sz&&Zv (h.get id) then chk (ef j n) λ_=>K (.zq id sz j 0) 0 0 h nx else U
   |none=>U)
  |some (.sb (.nr id j s n)),Z (.f (.int _) i)=>if aA s sz then chk (ef i n) λ_=>K (.sb (.np id j sz i 0)) 0 0 h nx else U
  |_,_=>U
 |.jf str ok z x k=>match dz e x,dz e k with
  |some (.sb (.om id j b)),Z (.f (.int .i64) A)=>(match h.get id,z with
   |some (.qx (.ar _ S) _ xs),.bool zb=>if !str&&eK b 2 then chk (ef j (aj (α:=CZ S) xs)) λ_=>
     K (pkT ok (.f .bool (Bh (K:=.int .i64) (V:=.bool) A (Bg b (o8 S xs j)) zb)) (.f .bool (KU (K:=.int .i64) (V:=.bool) A (Bg b (o8 S xs j))))) (gA id) 0 h nx else U
   |_,_=>U)
  |_,_=>U
 |.jg str x k v=>match dz e x,dz e k,dz e v with
  |some (.sb (.om id j b)),Z (.f (.int .i64) A),Z (.f .bool vv)=>(match h.get id with
   |some (.qx (.ar ty S) a xs)=>if !str&&eK b 2 then chk (ef j (aj (α:=CZ S) xs)) λ_=>
     K .undef (gA id) (0|||gA id) ((dM 0 h).set id (Z (.qx (.ar ty S) a (aso (S:=S) xs j (Mz b (o8 S xs j) (Cc (K:=.int .i64) (V:=.bool) A vv (Bg b (o8 S xs j)))))))) nx else U
   |_=>U)
  |_,_,_=>U
 |.app ty sz bytes s x=>match dz e s,dz e x with
  |some (.I id),Z (.qg id2 1 1)=>(match h.get id,h.get id2 with
   |some (.qx (.zm ty') a L),Z (.G (Z _) [.sb (.ob a' j 0)])=>if (aA sz 1&&ty==ty')&&(aA a a'&& !(aA id id2)) then
     chk (bg (aj (α:=Int) L+1) bytes) λ_=>K (.I nx) (gA id|||gA id2) (gA id|||gA nx) ((h.set id (Z (.qj J 1 (aj (α:=Int) L)))).set nx (Z (.qx (.zm ty) a (Sm (α:=Int) L [j])))) (nx+1) else U
   |_,_=>U)
  |some (.sb (.nr id j s n)),Z y=>(match h.get id with
   |some (.qx (.ir ty' T) a xss)=>if aA s T.size&&(aA sz T.size&&ty==ty') then chk (ef j (aj (α:=Y T.den) xss)) λ_=>(match Ht h (.sl T) y with
    |some (ys,m)=>if aM m id then U else chk (aA n (aj (BG (T:=T) xss j))&&bg (n+aj ys) bytes) λ_=>
      K (.I nx) (gA id|||m) (gA id|||gA nx) ((h.set id (Z (.qx (.ir ty T) a (EX (T:=T) xss j [])))).set nx (Z (.H ty J T (BG (T:=T) xss j++ys)))) (nx+1)
    |none=>U) else U
   |_=>U)
  |some b,Z (.sb (.nr id j s n))=>(match h.get id with
   |some (.qx (.ir _ T) _ xss)=>if aA s T.size&&aA sz T.size then chk (ef j (aj (α:=Y T.den) xss)) λ_=>chk (aA n (aj (BG (T:=T) xss j))) λ_=>aqv ty sz bytes T b (BG (T:=T) xss j) (gA id) h nx K else U
   |_=>U)
  |_,_=>U
 |.zh ty sz bytes z l c=>match bY ty,dz e l,dz e c with
  |some (.pr .bool (.pr q (.sl T))),Z (.f (.int _) a),Z (.f (.int _) b)=>if aA sz 1&&akj z then
    chk (cX 0 a&&cX a b&&bg (aO b) bytes) λ_=>K (.I nx) 0 (gA nx) ((h.set nx (Z (.qx (.rr ty T.size) (nx+1) (aE (aO a) (0:Int))))).set (nx+1) (Z (.qx (.ir (stN q) T) 0 (aE (aO a) ([]:Y T.den))))) (nx+2) else U
  |_,_,_=>U
 |.jw neg x=>match dz e x with
  |some (.sb (.ob _ _ _))|some (.K _ _)=>K (.f .bool neg) 0 0 h nx
  |some .np=>K (.f .bool (!neg)) 0 0 h nx
  |_=>U
 |.lkq [.int .i64,.int .i64] z x k=>match dz e x,(dz e k).bind akh,z with
  |some (.mp id),Z A,.pointer U=>(match h.get id with
   |some (.qx .zd a es)=>aJ (aow A es) (K (.sb (.ob a (ajy A es) 0)) (gA id) 0 h nx) (K .np (gA id) 0 h nx)
   |_=>U)
  |_,_,_=>U
 |.mpq [.int .i64,.int .i64] x k v=>match dz e x,(dz e k).bind akh,dz e v with
  |some (.mp id),Z A,Z (.K p 0)=>(match h.get id with
   |some (.qx .zd a es)=>K .undef (gA id) (0|||gA id) ((dM 0 h).set id (Z (.qh .zd a es A (Z (p,af,0))))) nx
   |_=>U)
  |_,_,_=>U
 |.dlq [.int .i64,.int .i64] x k=>match dz e x,(dz e k).bind akh with
  |some (.mp id),Z A=>(match h.get id with
   |some (.qx .zd a es)=>K (.qp []) (gA id) (0|||gA id) ((dM 0 h).set id (Z (.qx .zd a (ajz A es)))) nx
   |_=>U)
  |_,_=>U
 |_=>U
def opK (con:FuncId->M ci) (bY:TypeId->M Ty) (o:SI) (e:ia) (h:a8) (nx:Nat) (K:KO R):M R:=match ayh bY e h o with
 |true=>(match o with|.op s=>pW bY e h nx K s|_=>U)
 |false=>eQ con bY o e h nx K
def aim (e:ia) (g:M (Nat×Bool)) (K:Bool->ia->M R):M R:=match g with
 |none=>K J e
 |some (t,want)=>match e.get t with
  |some (.f .bool b)=>(match want with
   |true=>aJ b (K J (e.set t (Z (.f .bool J)))) (K af (e.set t (Z (.f .bool af))))
   |false=>aJ b (K af (e.set t (Z (.f .bool J)))) (K J (e.set t (Z (.f .bool af)))))
  |some .undef=>K af e
  |_=>U
def H7 (e:ia) (d:M Nat) (v:TV):ia:=match d with
 |none=>e
 |some d=>e.set d (Z v)
structure TS where
 e:ia
 h:a8
 nx:Nat
def PD (con:FuncId->M ci) (bY:TypeId->M Ty):Y uJ->TS->Y FPm->(TS->Y FPm->M R)->M R
 |[],s,z,K=>K s z.reverse
 |o::r,s,z,K=>aim s.e o.guard λrun e=>match run with
  |true=>opK con bY o.op e s.h s.nx λv rd A h nx=>if PI h v then PD con bY r ⟨H7 e o.dst v,h,nx⟩ (⟨rd,A⟩::z) K else U
  |false=>PD con bY r ⟨H7 e o.dst .undef,s.h,s.nx⟩ (⟨0,0⟩::z) K
inductive Adj where
 |nil (k:Nat) (ty:TypeId) (T:Ty)
 |qn (k:Nat) (off:Nat) (ty:TypeId) (T:Ty)
 |mpt (k:Nat) (K V:Ty)
 |pk (k:Nat) (off:Nat) (T:Ty)
 |qw (k:Nat) (off:Nat)
 |fmp (k off:Nat) (ty:TypeId) (S:Ty)
 |frw (k off off2:Nat) (ty:TypeId)
 |tak (k off:Nat)
mutual
def Px (id sz n:Nat):TV->TV
 |.qg i s m=>if aA i id&&aA s sz&&aA m n then .I id else .qg i s m
 |.agg l=>.agg (Ji id sz n l)
 |.qp l=>.qp (Ji id sz n l)
 |.qf g l=>.qf g (Ji id sz n l)
 |.f T v=>.f T v
 |.zf T xs j h off=>.zf T xs j h off
 |.zq a b c d=>.zq a b c d
 |.K a b=>.K a b
 |.I a=>.I a
 |.zl a j=>.zl a j
 |.sb s=>.sb s
 |.emp=>.emp
 |.nil=>.nil
 |.mp a=>.mp a
 |.undef=>.undef
 |.np=>.np
 |.qy=>.qy
def Ji (id sz n:Nat):Y TV->Y TV
 |[]=>[]
 |x::r=>Px id sz n x::Ji id sz n r
end
def YZ (id sz n:Nat):fc->fc
 |.G ty l=>.G ty (Ji id sz n l)
 |.H ty p T xs=>.H ty p T xs
 |.qj p s m=>.qj p s m
 |.mp K V es=>.mp K V es
 |.qx F a x=>.qx F a x
 |.qh F a x k p=>.qh F a x k p
def az7 (s:TS) (k off:Nat):M (Nat×p?):=match s.e.get k with
 |some (.qg id sz n)=>Z (id,sz,n)
 |some (.agg l)=>(match l[off]? with|some (.qg id sz n)=>Z (id,sz,n)|_=>U)
 |some (.K a o)=>(match s.h.get a with
  |some (.G (Z _) l)=>(match l[o+off]? with|some (.qg id sz n)=>Z (id,sz,n)|_=>U)
  |_=>U)
 |_=>U
def pkS (s:TS) (T:Ty) (id sz n:Nat):M TS:=match s.h.get id with
 |some (.G (Z ty) l)=>if aA sz T.size then (match D9 s.h T n l with
  |some (xs,m)=>if aM m id then U else Z ⟨PT.updI (λ_ v=>Px id sz n v) 1 0 s.e,(PT.updI (λ_ b=>YZ id sz n b) 1 0 (dM m s.h)).set id (Z (.H ty af T xs)),s.nx⟩
  |none=>U) else U
 |_=>U
def aki:TV->Bool
 |.nil=>J
 |.emp=>J
 |_=>af
def ask:M TV->M p?
 |some (.K id o)=>Z (id,o)
 |some (.qg id _ _)|some (.mp id)=>Z (id,0)
 |_=>U
def alf (s:TS) (k off:Nat):M Nat:=match s.e.get k with
 |some (.mp id)|some (.I id)=>Z id
 |some (.K b o)=>(match s.h.get b with
  |some (.G (Z _) l)=>(match l[o+off]? with|some (.mp id)=>Z id|some (.I id)=>Z id|_=>U)
  |_=>U)
 |_=>U
def shf (n:Nat) (j:Int):Int:=if eK j.toNat n then j else aS (j.toNat+1)
def afd (n:Nat) (es:Y s?):Y s?:=es.map λe=>(e.1,shf n e.2)
def afn (k:ν) (v:Int):Y s?->Y s?
 |[]=>[(k,v)]
 |e::r=>match keq k e.1 with|true=>(k,v)::r|false=>e::afn k v r
def rnX (len:Nat):(F:uM)->F.ty.den->F.ty.den
 |.zm _,z=>im (shf len) z
 |.zd,es=>afd len es
 |_,x=>x
def ayg:uM->Bool
 |.zm _=>J
 |.zd=>J
 |_=>af
def rnF (a n len:Nat):fc->fc
 |.qx F b x=>if ayg F&&aA b a then .qx F n (rnX len F x) else .qx F b x
 |b=>b
def ap7:M fc->M (Y j!)
 |some (.mp (.int .i64) .bool es)=>Z es
 |some (.mp .un .un [])=>Z []
 |_=>U
def aiw (s:TS) (o a p:Nat) (kk:ν) (es:Y s?):M TS:=match s.h.get a,s.h.get p with
 |some (.qx (.ar ty S) _ xs),Z (.G (Z ty') l)=>if ty'==ty then (match fM s.h 40 S l with
  |some (z,m,[.mp m1,.mp m2])=>(match ap7 (s.h.get m1),ap7 (s.h.get m2) with
   |some e1,Z e2=>if aA m 0&& !(aA m1 m2) then
     Z ⟨s.e,((((((PT.updI (λ_ b=>rnF a s.nx (aj (α:=CZ S) xs) b) 1 0 s.h).set o (Z (.qx .zd s.nx (afn kk (aS (aj (α:=CZ S) xs)) (afd (aj (α:=CZ S) xs) es))))).set a (Z (.qj J 0 0))).set p (Z (.qj J 0 0))).set m1 (Z (.qj J 0 0))).set m2 (Z (.qj J 0 0))).set s.nx (Z (.qx (.ar ty S) 0 (Sm (α:=CZ S) xs [(z,e1,e2)]))),s.nx+1⟩ else U
   |_,_=>U)
  |_=>U) else U
 |_,_=>U
def aty (s:TS) (o a r n:Nat) (j:Int) (ty:TypeId) (z:Nat) (A:η):M TS:=match s.h.get a,s.h.get r with
 |some (.qx (.ir ty2 T) _ xss),Z (.H ty3 p S xs)=>(match xO (S:=.sl S) (.sl T) xs with
  |some xs'=>if ty3==ty2 then
    Z ⟨s.e,(((s.h.set o (Z (.qx (.rr ty z) s.nx (zX (α:=Int) A j.toNat (aS n))))).set a (Z (.qj J 0 0))).set r (Z (.qj p S.size (aj xs)))).set s.nx (Z (.qx (.ir ty2 T) 0 (EX (T:=T) xss j xs'))),s.nx+1⟩ else U
  |none=>U)
 |_,_=>U
def akk (F:uM):Bool:=aA (F.aid 1) 0
def rnG (a n:Nat):fc->fc
 |.qx F b x=>if !(akk F)&&aA b a then .qx F n x else .qx F b x
 |b=>b
def au1 (s:TS) (a:Nat):M TS:=match s.h.get a with
 |some (.qx F _ x)=>if akk F then Z ⟨s.e,((PT.updI (λ_ b=>rnG a s.nx b) 1 0 s.h).set a (Z (.qj J 0 0))).set s.nx (Z (.qx F 0 x)),s.nx+1⟩ else U
 |_=>U
def atw (s:TS) (o:Nat):M TS:=match s.h.get o with
 |some (.qh .zd a es kk (Z (p,af,0)))=>aiw s o a p kk es
 |some (.qh (.rr ty z) a A kk (Z (r,J,n)))=>aty s o a r n kk.1 ty z A
 |some (.qx F a _)=>if akk F then U else au1 s a
 |_=>U
def Lp (s:TS):Adj->M TS
 |.nil k ty T=>match s.e.get k with
  |some v=>if aki v then Z ⟨s.e.set k (Z (.I s.nx)),s.h.set s.nx (Z (.H ty J T [])),s.nx+1⟩ else Z s
  |none=>U
 |.qn k off ty T=>match ask (s.e.get k) with
  |some (id,o)=>(match s.h.get id with
   |some (.G cty l)=>(match l[o+off]? with
    |some v=>if aki v then Z ⟨s.e,(s.h.set s.nx (Z (.H ty J T []))).set id (Z (.G cty (splice l (o+off) [.I s.nx]))),s.nx+1⟩ else Z s
    |none=>U)
   |_=>U)
  |_=>U
 |.mpt k K V=>match s.e.get k with
  |some (.mp id)=>(match s.h.get id with
   |some (.mp K' V' es)=>(match mpE K' V' es&&afp K with
    |true=>Z ⟨s.e,s.h.set id (Z (.mp K V [])),s.nx⟩
    |false=>Z s)
   |_=>U)
  |_=>U
 |.pk k off T=>match az7 s k off with
  |some (id,sz,n)=>pkS s T id sz n
  |none=>U
 |.qw k off=>match s.e.get k with
  |some (.K b o)=>(match s.h.get b with
   |some (.G (Z cty) l)=>(match l[o+off]? with
    |some (.I id)=>(match s.h.get id with
     |some (.H ty p T xs)=>Z ⟨s.e,((s.h.set id (Z (.qj p T.size (l! xs)))).set s.nx (Z (.H ty p T xs))).set b (Z (.G (Z cty) (splice l (o+off) [.I s.nx]))),s.nx+1⟩
     |some (.qx (.zm ty) a z)=>Z ⟨s.e,((s.h.set id (Z (.qj J 1 (aj (α:=Int) z)))).set s.nx (Z (.qx (.zm ty) a z))).set b (Z (.G (Z cty) (splice l (o+off) [.I s.nx]))),s.nx+1⟩
     |_=>U)
    |_=>U)
   |_=>U)
  |some (.I id)=>(match s.h.get id with
   |some (.H ty p T xs)=>Z ⟨s.e.set k (Z (.I s.nx)),(s.h.set id (Z (.qj p T.size (l! xs)))).set s.nx (Z (.H ty p T xs)),s.nx+1⟩
   |_=>U)
  |_=>U
 |.fmp k off ty S=>match alf s k off with
  |some id=>(match s.h.get id with
   |some (.mp K' V' es)=>if mpE K' V' es then Z ⟨s.e,(s.h.set id (Z (.qx .zd s.nx []))).set s.nx (Z (.qx (.ar ty S) 0 [])),s.nx+1⟩ else U
   |some (.qx _ _ _)=>Z s
   |_=>U)
  |none=>U
 |.frw k off off2 ty=>match alf s k off2,ask (s.e.get k) with
  |some o,Z (id,q)=>(match s.h.get o,s.h.get id with
   |some (.qx .zd a _),Z (.G cty l)=>(match l[q+off]? with
    |some v=>if aki v then Z ⟨s.e,(s.h.set s.nx (Z (.qx (.zm ty) a []))).set id (Z (.G cty (splice l (q+off) [.I s.nx]))),s.nx+1⟩ else Z s
    |none=>U)
   |_,_=>U)
  |_,_=>U
 |.tak k off=>match alf s k off with
  |some o=>atw s o
  |none=>U
def Yj (s:TS):Y Adj->M TS
 |[]=>Z s
 |a::r=>match Lp s a with|some s'=>Yj s' r|none=>U
structure Ann where
 zj:ι
 ks:ι
 t:Tm
 pre:List Adj
abbrev Ann.D (A:Ann):Type:=A.t.ty.den
mutual
def wA:TV->Bool
 |.f _ _=>J
 |.zf _ _ _ _ _=>J
 |.emp=>J
 |.nil=>J
 |.undef=>J
 |.np=>J
 |.qy=>J
 |.agg l|.qp l=>sG l
 |.zq _ _ _ _=>af
 |.K _ _=>af
 |.qg _ _ _=>af
 |.I _=>af
 |.zl _ _=>af
 |.sb _=>af
 |.mp _=>af
 |.qf _ _=>af
def sG:Y TV->Bool
 |[]=>J
 |x::r=>wA x&&sG r
end
def Gk (am:Nat) (e:ia):ι->ia
 |[]=>PT.leaf
 |k::r=>match e.get k with|some v=>if wA v&& !(aM am k) then (Gk am e r).set k (Z v) else Gk am e r|none=>Gk am e r
def j7 (e:ia):ι->M (Y TV)
 |[]=>Z []
 |k::r=>match e.get k with|some v=>(match j7 e r with|some l=>Z (v::l)|none=>U)|none=>U
def afe (e:ia):ι->Y TV->ia
 |k::r,v::l=>(afe e r l).set k (Z v)
 |_,_=>e
def LN (am:Nat) (e0 e:ia):ι->Bool
 |[]=>J
 |k::r=>(match e0.get k with
  |some v=> !(wA v)||aM am k||(match e.get k with|some _=>J|none=>af)
  |none=>J)&&LN am e0 e r
def Qf (np:Nat) (A:Ann) (am:Nat) (z s:TS):M A.D:=if dY np (l! A.t.bs)&&LN am z.e s.e A.zj then (match Yj s A.pre with
 |some s=>(match j7 s.e A.ks with
  |some vs=>(match Fd np A.t vs s.h with
   |some ⟨x,_,_,_⟩=>Z x
   |none=>U)
  |none=>U)
 |none=>U) else U
def KM (A:Ann) (am:Nat) (s:TS) (x:A.D):M TS:=match D' A.t x with
 |some (vs,h)=>if aA (l! vs) (l! A.ks) then Z ⟨afe (Gk am s.e A.zj) A.ks vs,h,l! A.t.bs⟩ else U
 |none=>U
inductive TC where
 |skip
 |jy (ops:List uJ) (prs:List (Nat×Nat))
 |seq (a b:TC)
 |jx (A:Ann) (a b:TC)
 |cond (c:Nat) (a b:TC)
 |block (id:Nat) (b:TC)
 |zk (A:Ann) (id:Nat) (b:TC)
 |loop (A:Ann) (b:TC)
 |exit (id:Nat)
 |ret
 |defer (f:FuncId) (caps:List Operand) (t:Nat)
 |adj (l:List Adj) (c:TC)
 |split (k off lo n:Nat) (c:TC)
 |bsp (t:Nat) (a b:TC)
 |unl (n:Nat) (b:TC)
 |jq
def UC:Y uJ->Nat->Nat
 |[],acc=>acc
 |o::r,acc=>UC r (match o.dst with|some d=>acc|||gA d|none=>acc)
def PL:ι->Nat->Nat
 |[],acc=>acc
 |k::r,acc=>PL r (acc|||gA k)
def mU:Y Adj->Nat->Nat
 |[],acc=>acc
 |.nil k _ _::r,acc=>mU r (acc|||gA k)
 |.qn _ _ _ _::r,acc|.mpt _ _ _::r,acc|.pk _ _ _::r,acc=>mU r acc
 |.qw k _::r,acc=>mU r (acc|||gA k)
 |.fmp _ _ _ _::r,acc|.frw _ _ _ _::r,acc|.tak _ _::r,acc=>mU r acc
def TC.asg:TC->Nat->Nat
 |.jy ops _,acc=>UC ops acc
 |.seq a b,acc=>b.asg (a.asg acc)
 |.jx A a b,acc=>b.asg (a.asg (PL A.ks acc))
 |.cond _ a b,acc=>b.asg (a.asg acc)
 |.block _ b,acc=>b.asg acc
 |.zk A _ b,acc|.loop A b,acc=>b.asg (PL A.ks acc)
 |.defer _ _ t,acc=>acc|||gA t
 |.adj l c,acc=>c.asg (mU l acc)
 |.split _ _ _ _ c,acc=>c.asg acc
 |.bsp _ a b,acc=>b.asg (a.asg acc)
 |.unl _ b,acc=>b.asg acc
 |.skip,acc|.exit _,acc|.ret,acc|.jq,acc=>acc
inductive an8 where
 |j (A:Ann)
 |a (l:List Adj)
 |s (k off lo n:Nat)
 |b (t k off lo n:Nat)
 |u (n:Nat)
def L7 (H:PT an8) (n:Nat) (c:TC):TC:=match H.get n with|some (.a l)=>.adj l c|some (.s k off z m)=>.split k off z m c|some (.b t k off z m)=>.bsp t (.split k off z m c) c|_=>c
def IU (H:PT an8):SC->Nat->TC×Nat
 |.skip,n=>(L7 H n .skip,n+1)
 |.jy o p,n=>(L7 H n (.jy o p),n+1)
 |.seq a b,n=>match IU H a (n+1) with
  |(z,k)=>(match IU H b k with|(b',I)=>((match H.get n with|some (.j A)=>.jx A z b'|_=>.seq z b'),I))
 |.cond c a b,n=>match IU H a (n+1) with
  |(z,k)=>(match IU H b k with|(b',I)=>(L7 H n (.cond c z b'),I))
 |.block id b,n=>match IU H b (n+1) with|(b',k)=>((match H.get n with|some (.j A)=>.zk A id b'|_=>.block id b'),k)
 |.loop b,n=>match IU H b (n+1) with|(b',k)=>((match H.get n with|some (.j A)=>.loop A b'|some (.u m)=>.unl m b'|_=>.jq),k)
 |.exit id,n=>(L7 H n (.exit id),n+1)
 |.ret,n=>(L7 H n .ret,n+1)
 |.defer f c t,n=>(.defer f c t,n+1)
 |.jq,n=>(.jq,n+1)
def ako (s:TS) (k off:Nat):M (IntKind×Int):=match s.e.get k with
 |some (.f (.int kd) v)=>Z (kd,v)
 |some (.K a o)=>(match s.h.get a with
  |some (.G (Z _) l)=>(match l[o+off]? with|some (.f (.int kd) v)=>Z (kd,v)|_=>U)
  |_=>U)
 |_=>U
def Y5 (s:TS) (k off:Nat) (kd:IntKind) (v:Int):M TS:=match s.e.get k with
 |some (.f (.int _) _)=>Z ⟨s.e.set k (Z (.f (.int kd) v)),s.h,s.nx⟩
 |some (.K a o)=>(match s.h.get a with
  |some (.G (Z ty) l)=>Z ⟨s.e,s.h.set a (Z (.G (Z ty) (splice l (o+off) [.f (.int kd) v]))),s.nx⟩
  |_=>U)
 |_=>U
def spl (v:Int) (f:Nat->M R):Nat->Nat->M R
 |_,0=>U
 |i,m+1=>aJ (decide ((v:Int)=aS i)) (f i) (spl v f (i+1) m)
def ao2 (f:TS->(Ex->TS->M R)->M R):Nat->TS->(Ex->TS->M R)->M R
 |0,_,_=>U
 |m+1,s,K=>f s λex s'=>match ex with
  |.normal=>ao2 f m s' K
  |ex=>K ex s'
def o6 {R:Type} (np:Nat) (con:FuncId->M ci) (bY:TypeId->M Ty) (inert:FuncId->Bool):TC->TS->(Ex->TS->M R)->M R
 |.skip,s,K=>K .normal s
 |.jy ops prs,s,K=>PD con bY ops s [] λs' I=>if Jr I prs then K .normal s' else U
 |.seq a b,s,K=>o6 np con bY inert a s λex s'=>match ex with|.normal=>o6 np con bY inert b s' K|ex=>K ex s'
 |.jx A a b,s,K=>jn (o6 np con bY inert a s λex s'=>match ex with
   |.normal=>ax (Qf np A (a.asg 0) s s') λx=>Z (.inr x)
   |ex=>ax (K ex s') λr=>Z (.inl r)) λx=>(match KM A (a.asg 0) s x with|some s'=>o6 np con bY inert b s' K|none=>U)
 |.cond c a b,s,K=>match s.e.get c with
  |some (.f .bool t)=>aJ t (o6 np con bY inert a s K) (o6 np con bY inert b s K)
  |some .qy=>I7 (o6 np con bY inert a s K) (o6 np con bY inert b s K)
  |_=>U
 |.block id b,s,K=>o6 np con bY inert b s λex s'=>match ex with
  |.exit i=>if aA i id then K .normal s' else K (.exit i) s'
  |ex=>K ex s'
 |.zk A id b,s,K=>jn (o6 np con bY inert b s λex s'=>match ex with
   |.normal=>ax (Qf np A (b.asg 0) s s') λx=>Z (.inr x)
   |.exit i=>if aA i id then ax (Qf np A (b.asg 0) s s') λx=>Z (.inr x) else ax (K (.exit i) s') λr=>Z (.inl r)
   |.ret=>ax (K .ret s') λr=>Z (.inl r)) λx=>(match KM A (b.asg 0) s x with|some s'=>K .normal s'|none=>U)
 |.loop A b,s,K=>ax (Qf np A (b.asg 0) s s) λx=>iter (λx=>match KM A (b.asg 0) s x with
   |some s'=>o6 np con bY inert b s' λex s'=>(match ex with
    |.normal=>ax (Qf np A (b.asg 0) s s') λy=>Z (.inl y)
    |ex=>ax (K ex s') λr=>Z (.inr r))
   |none=>U) x
 |.exit id,s,K=>K (.exit id) s
 |.ret,s,K=>K .ret s
 |.defer f _ t,s,K=>if inert f then K .normal ⟨s.e.set t U,s.h,s.nx⟩ else U
 |.adj l c,s,K=>match Yj s l with|some s'=>o6 np con bY inert c s' K|none=>U
 |.split k off z n c,s,K=>match ako s k off with
  |some (kd,v)=>spl v (λi=>match Y5 s k off kd (aS i) with|some s'=>o6 np con bY inert c s' K|none=>U) z n
  |none=>U
 |.bsp t a b,s,K=>match s.e.get t with
  |some (.f .bool v)=>aJ v (o6 np con bY inert a ⟨s.e.set t (Z (.f .bool J)),s.h,s.nx⟩ K) (o6 np con bY inert b ⟨s.e.set t (Z (.f .bool af)),s.h,s.nx⟩ K)
  |_=>U
 |.unl n b,s,K=>ao2 (λs K=>o6 np con bY inert b s K) n s K
 |.jq,_,_=>U
def OZ:Nat->Y TV->ia
 |_,[]=>PT.leaf
 |k,x::r=>(OZ (k+1) r).set k (Z x)
def rvT (s:TS):RV->M TV
 |.tmp t=>s.e.get t
 |.cell a sz z=>match s.e.get a with
  |some (.K id off)=>(match s.h.get id with|some (.G (Z _) l)=>YY l off sz z|_=>U)
  |_=>U
def Vl (s:TS):Y RV->M (Y TV)
 |[]=>Z []
 |x::r=>match rvT s x with|some v=>(match Vl s r with|some l=>Z (v::l)|none=>U)|none=>U
structure FT where
 pre:Tm
 post:Tm
 hints:PT an8
def ayr (D:FT):Y Adj:=match D.hints.get 60000 with
 |some (.a l)=>l
 |_=>[]
def aiv (con:FuncId->M ci) (bY:TypeId->M Ty) (inert:FuncId->Bool) (F:M SF) (D:FT) (x:D.pre.ty.den):M D.post.ty.den:=
 match F with
 |some z=>(match D' D.pre x with
  |some (args,h)=>if dY (l! args) z.nt&&dY (l! D.pre.bs) (l! D.post.bs) then
    o6 (l! D.pre.bs) con bY inert (IU D.hints z.code 0).1 ⟨OZ 0 args,h,l! D.pre.bs⟩ λex s=>(match ex with
    |.exit _=>U
    |_=>(match Yj s (ayr D) with
     |some s=>(match Vl s z.res with
      |some l=>(match Fd (l! D.pre.bs) D.post l s.h with
       |some ⟨y,_,_,_⟩=>(match D' D.post y with|some _=>Z y|none=>U)
       |none=>U)
      |none=>U)
     |none=>U)) else U
  |none=>U)
 |none=>U
def fJ {u:Value} (h:ch T O W (.f (.raw v)) u):u=v:=by
 cases h with
 |f h=>cases h;rfl
def vU (h:HF) (z:HF):fm h [] z=h:=by funext t;simp[fm]
def Kt:∀{l:ξ},OP l=J->∀v∈l,v.oneCell'=J
 |[],_,v,z=>by cases z
 |x::r,h,v,z=>by
  simp[OP,al]at h;rcases bh.1 z with rfl|z
  .exact h.1
  .exact Kt h.2 v z
def ab4 (v:Value):ch T O W (I3 v) v:=by
 unfold I3;split
 .rename_i vs;split
  .rename_i h1;refine ch.agg (vs:=vs.toList) (by simp) (λx z=>?_) (λj x v z A=>?_)
   .obtain⟨u,I,rfl⟩:=cC.1 z;exact Kt h1 u I
   .rw[bE,A]at z;simp[bw,ah]at z;subst z;exact .f (.raw _)
  .exact .f (.raw _)
 .exact .f (.raw _)
variable {c:Operand}
def xE {e:EJ} {xs:Array Operand} (hrep:sV T O A W) (h:∀t,.tmp t∈xs->∀y,e.get t=Z y->ch T (tot O T A) W y (N.tmps.getD t undef)) (I:c∈xs) (z:mm e c=Z y):ch T (tot O T A) W y (N.eval c):=by
 cases c with
 |tmp t=>exact h t I y z
 |const v=>simp[mm,ah]at z;subst z;exact ab4 v
 |func g=>
  simp[mm,ah]at z;subst z;exact ch.qf (vs:=[]) (g:=g) (cells:=[]) rfl (by simp)
 |global g=>
  simp[mm]at z;cases h':G g with
  |none=>rw[h']at z;cases z
  |some cells=>rw[h']at z;simp[ah]at z;subst z;exact .f (hrep.gl g cells h')
abbrev Rel (φ:PM) (E:Nat->Prop) (h':HF) (w:World) (a:Act) (e:EJ) (o:Oper):Prop:=∀x y,x∈o.op.operands->mm e x=Z y->ch φ (tot E φ h') w y (a.eval x)
def gC.reads {o:Oper} {e:EJ} {h:HF} {rd:ι} 
 (hv:∀(φ:PM) (E:Nat->Prop) (h':HF) (w:World) (a:Act),(∀i∈rd,h' i=h i)->Rel φ E h' w a e o->sV φ E h' w->
   ∃v,(execOp a.eval o).run P w= .ok (.value v) w/\ch φ (tot E φ h') w y v):gC P o e.get h ⟨y,rd,[],A,[]⟩:=by
 intro φ E h' w a h1 h2 h3 z h5;let⟨v,r,rel⟩:=hv φ E h' w a h1 (λx val L I=>xE z h3 L I) z;unfold Lv;rw[r];refine ⟨v,φ,rfl,?_,λ_ _ h=>.inl h,?_,?_⟩<;>rw[vU]
 .exact jU.refl _ _ _
 .exact z
 .exact rel
def dx {R:EG} (h:rv y=Z R):R=⟨y,[],[],[],[]⟩:=by simp only[rv,ah]at h;exact h.symm
section pure
variable {P:Program} {o:Oper} {e:EJ} {h:mY} {nx:Nat} {R:EG}
def azh (z:o.op= .move c\/o.op= .assign c) (A:dE (.mv c) e h nx=Z R):gC P o e.get h.get R.eff:=by
 simp[dE]at A;split at A
 next v I=>rw[dx A];exact gC.reads λφ E h' w a _ hop _=>⟨a.eval c,by unfold execOp;rcases z with z|z<;>rw[z]<;>rfl,hop c v (by rcases z with z|z<;>rw[z]<;>simp[Op.operands]) I⟩
 .cases A
def avb {x y:Operand} (A:o.op= .pick c x y) (z:dE (.pick c x y) e h nx=Z R):gC P o e.get h.get R.eff:=by
 simp[dE]at z;split at z
 .rename_i t L;split at z
  .rename_i v I;rw[dx z];refine gC.reads λφ E h' w a _ hop _=>?_
   have hcv:=fJ (hop c _ (by rw[A];simp[Op.operands]) L);refine ⟨a.eval (if t then x else y),?_,hop _ v (by rw[A];cases t<;>simp[Op.operands]) I⟩;unfold execOp;rw[A];simp[hcv];cases t<;>rfl
  .cases z
 .cases z
def avc (A:o.op= .nilCheck c) (I:dE (.jz c) e h nx=Z R):gC P o e.get h.get R.eff:=by
 simp[dE]at I;split at I
 .rename_i id off hx;rw[dx I];refine gC.reads λφ E h' w a _ hop _=>?_
  have h1:=hop c _ (by rw[A];simp[Op.operands]) hx;generalize L:a.eval c=z at h1;cases h1 with
  |K hφ=>exact⟨_,by unfold execOp;rw[A];simp only[L];rfl,.K hφ⟩
 .rename_i cells off hx;rw[dx I];refine gC.reads λφ E h' w a _ hop _=>?_
  have h1:=hop c _ (by rw[A];simp[Op.operands]) hx;generalize L:a.eval c=z at h1;cases h1 with
  |f h1=>
   have h2:=h1;cases h2 with
   |K _ _ b base us hO hb hcl hu hr=>exact⟨_,by unfold execOp;rw[A];simp only[L];rfl,.f h1⟩
 .rename_i g cap hx;rw[dx I];refine gC.reads λφ E h' w a _ hop _=>?_
  have h1:=hop c _ (by rw[A];simp[Op.operands]) hx;generalize L:a.eval c=z at h1;cases h1 with
  |qf hl hr=>exact⟨_,by unfold execOp;rw[A];simp only[L];rfl,.qf hl hr⟩
 .cases I
variable {s:TypeId}
def azf (A:o.op= .unOp .not s c) (z:dE (.not c) e h nx=Z R):gC P o e.get h.get R.eff:=by
 simp[dE]at z;split at z
 .rename_i b I;rw[dx z];refine gC.reads λφ E h' w a _ hop _=>?_
  have h1:=fJ (hop c _ (by rw[A];simp[Op.operands]) I);exact⟨_,by unfold execOp;rw[A];simp[h1];rfl,.f (.raw _)⟩
 .cases z
def BR (k:IntKind) (n:Int):a_ k n=k.wrap n:=by
 rw[Ly];unfold QW;split
 .split
  .rename_i h;simp[cX,al,bu]at h;have:qL .i64 n=if n%18446744073709551616≥9223372036854775808 then n%18446744073709551616-18446744073709551616 else n%18446744073709551616:=by
    simp[qL,IntKind.bits,IntKind.signed]
   rw[this];split<;>omega
  .rfl
 .split
  .rename_i h;simp[cX,al,bu]at h;have:qL .u8 n=n%256:=by
    simp[qL,IntKind.bits,IntKind.signed]
   omega
  .rfl
 .rfl
def avj {d:TypeId} {k I:IntKind} (A:o.op= .convert s d c) (hs:P.underlying s=Z (.int I)) (hd:P.underlying d=Z (.int k)) (z:dE (.conv k c) e h nx=Z R):gC P o e.get h.get R.eff:=by
 simp[dE]at z;split at z
 .rename_i kk n L;rw[dx z];refine gC.reads λφ E h' w a _ hop _=>?_
  have h1:=fJ (hop c _ (by rw[A];simp[Op.operands]) L);refine ⟨_,?_,.f (.raw _)⟩;unfold execOp;rw[A];simp[h1,convert,run_underlying hs,run_underlying hd,Conv.intToInt,BR]
 .cases z
def Uz (a:ByteArray):a.toList=a.data.toList:=by
 first|exact ByteArray.toList_eq a|simp[ByteArray.toList]|rfl
def aj9 {op:BinOp} {t:TypeId} {u r:Value} (z:w_ op u v=Z r) (x y:Operand) (w:World):
 (do eqGuard op t x y u v;binOp op t u v:Sem Value).run P w= .ok r w:=by
 unfold w_ at z;split at z
 .rename_i k a I b;split at z
  .rename_i hk;have A:k=I:=by grind
   subst A;split at z<;>first|(simp [ah]at z;subst z;simp[eqGuard,binOp,Op.intCmp,Op.intArith,BR,cX,gI];done)|(split at z<;>first|(cases z;done)|(rename_i L;simp[ah]at z;subst z;simp[eqGuard,binOp,Op.intDiv,BR,show b≠0 from by simpa using L];done))|(cases z;done)
  .cases z
 next a b=>split at z<;>first|(simp [ah]at z;subst z;simp[eqGuard,binOp,Op.stringOp,ue,Uz];done)|(cases z;done)
 .cases z
def ase {s:Sem Value} {w':World} (z:s.run P W= .ok v w'):(do let x<-s;pure (Next.value x):Sem Next).run P W= .ok (.value v) w':=by
 simp[z]
def ata {op:BinOp} {y:Operand} {I:TypeId} (A:o.op= .binOp op s c y I) (z:dE (.bin op c y) e h nx=Z R):gC P o e.get h.get R.eff:=by
 simp[dE]at z;split at z
 .rename_i u v hx L;split at z
  .rename_i r hr;rw[dx z];refine gC.reads λφ E h' w a _ hop _=>?_
   have h1:=fJ (hop c _ (by rw[A];simp[Op.operands]) hx);have h2:=fJ (hop y _ (by rw[A];simp[Op.operands]) L);refine ⟨r,?_,.f (.raw _)⟩;unfold execOp;rw[A];simp only[h1,h2];exact ase (aj9 (P:=P) (t:=s) hr c y w)
  .cases z
 .cases z
def aa3 (z:P.underlying s=Z .bool) (u v:Bool) (w:World):(Op.equal s (.bool u) (.bool v)).run P w= .ok (u==v) w:=by
 have key:∀d,(Op.equalIn (d+1) s (.bool u) (.bool v)).run P w= .ok (u==v) w:=λd=>by simp[Op.equalIn,run_underlying z]
 exact key 9999
def WY {I:TypeId} (z:P.underlying s=Z (.slice I)) (A:M Addr) (n c:Nat) (w:World):(Op.equal s (.slice A n c) (.slice U 0 0)).run P w= .ok A.isNone w:=by
 have key:∀d,(Op.equalIn (d+1) s (.slice A n c) (.slice U 0 0)).run P w= .ok A.isNone w:=λd=>by cases A<;>simp[Op.equalIn,run_underlying z]
 exact key 9999
def at9 {neg:Bool} {op:BinOp} {y:Operand} {I:TypeId} (A:o.op= .binOp op s c y I) (hop:op=if neg then .neq else .eql) (hu:P.underlying s=Z .bool) (z:dE (.xq neg c y) e h nx=Z R):gC P o e.get h.get R.eff:=by
 simp[dE]at z;split at z
 .rename_i u v hx L;rw[dx z];refine gC.reads λφ E h' w a _ hp _=>?_
  have h1:=fJ (hp c _ (by rw[A];simp[Op.operands]) hx);have h2:=fJ (hp y _ (by rw[A];simp[Op.operands]) L);refine ⟨_,?_,.f (.raw _)⟩;unfold execOp;rw[A];simp[h1,h2];subst hop;cases neg<;>simp[eqGuard,binOp,aa3 hu]
 .cases z
def aey {neg:Bool} {op:BinOp} {y:Operand} {t' el:TypeId} (ho:o.op= .binOp op s c y t') (hop:op=if neg then .neq else .eql) (hy:y= .const (.slice U 0 0)) (hu:P.underlying s=Z (.slice el)) (ha:dE (.zn neg c) e h nx=Z R):gC P o e.get h.get R.eff:=by
 have key:∀(v:Value) (w:World) (ρ:Operand->Value) (A:M Addr) (n x:Nat),ρ c= .slice A n x->ρ y= .slice U 0 0->(execOp ρ o).run P w= .ok (.value (.bool (A.isNone !=neg))) w:=by
  intro v w ρ A n x h1 h2;unfold execOp;rw[ho];simp[h1,h2];subst hop;cases neg<;>simp[eqGuard,binOp,WY hu]
 have hyv:∀a:Act,a.eval y= .slice U 0 0:=λa=>by rw[hy];rfl
 simp[dE]at ha;split at ha
 .rename_i id sz n L;rw[dx ha];refine gC.reads λφ E h' w a _ hp _=>?_
  have h1:=hp c _ (by rw[ho];simp[Op.operands]) L;generalize hz:a.eval c=z at h1;cases h1 with
  |I hφ hn hc hs=>exact⟨_,key (.bool J) w a.eval _ _ _ hz (hyv a),by simpa[raw] using ch.f (.raw _)⟩
 .rename_i id off n L;rw[dx ha];refine gC.reads λφ E h' w a _ hp _=>?_
  have h1:=hp c _ (by rw[ho];simp[Op.operands]) L;generalize hz:a.eval c=z at h1;cases h1 with
  |sl hφ hn hc=>exact⟨_,key (.bool J) w a.eval _ _ _ hz (hyv a),by simpa[raw] using ch.f (.raw _)⟩
 .rename_i cells n L;rw[dx ha];refine gC.reads λφ E h' w a _ hp _=>?_
  have h1:=hp c _ (by rw[ho];simp[Op.operands]) L;generalize hz:a.eval c=z at h1;cases h1 with
  |f h1=>
   cases h1 with
   |sl=>exact⟨_,key (.bool J) w a.eval _ _ _ hz (hyv a),by simpa[raw] using ch.f (.raw _)⟩
 .rename_i cells L;rw[dx ha];refine gC.reads λφ E h' w a _ hp _=>?_
  have h1:=hp c _ (by rw[ho];simp[Op.operands]) L;generalize hz:a.eval c=z at h1;cases h1 with
  |f h1=>
   cases h1 with
   |_=>exact⟨_,key (.bool J) w a.eval _ _ _ hz (hyv a),.qy⟩
 .rename_i L;rw[dx ha];refine gC.reads λφ E h' w a _ hp _=>?_
  have h1:=hp c _ (by rw[ho];simp[Op.operands]) L;generalize hz:a.eval c=z at h1;cases h1 with
  |emp=>exact⟨_,key (.bool J) w a.eval _ _ _ hz (hyv a),.qy⟩
 .rename_i v L;split at ha
  .rename_i hv;rw[dx ha];refine gC.reads λφ E h' w a _ hp _=>?_
   have h1:=fJ (hp c _ (by rw[ho];simp[Op.operands]) L);unfold Dk at hv;split at hv
   .exact⟨_,key (.bool J) w a.eval _ _ _ h1 (hyv a),by simpa[raw] using ch.f (.raw _)⟩
   .cases hv
  .cases ha
 .cases ha
def gM (z:fO P s=Z i) (w:World):(sizeOf s).run P w= .ok i w:=by
 unfold fO at z;cases hi:P.info? s with
 |none=>rw[hi]at z;cases z
 |some sz=>rw[hi]at z;simp at z;simp[sizeOf,typeInfo,program,hi,kY,z]
def Vn (z:Hw P s=Z b) (w:World):(isAgg s).run P w= .ok b w:=by
 unfold Hw at z;cases hi:P.underlying s with
 |none=>rw[hi]at z;cases z
 |some d=>
  rw[hi]at z;simp[bw,ah]at z;rw[<- z];simp[isAgg,fB,run_underlying hi,cQ];cases d<;>rfl
def kE (b off i:Nat):(⟨b,off,U⟩:Addr).add i=⟨b,off+i,U⟩:=by
 unfold Addr.add;split<;>simp_all
variable {C:Array Field}
def Vm {f:Field} (A:P.underlying s=Z (.struct C)) (hf:C[i]? =Z f) (I:fO P f.type=Z m) (h0:m≠0) (w:World) (b k:Nat):
 (Instr.fieldAt s (.pointer (Z ⟨b,k,U⟩)) i).run P w= .ok (.pointer (Z ⟨b,k+f.offset,U⟩)) w:=by
 have h1:=gM I w;simp[Instr.fieldAt,run_underlying A,hf,Instr.sureAddr,fieldPlace,h1,h0,kE]
def azr {f:Field} (ho:o.op= .fieldAddr s c i) (hu:P.underlying s=Z (.struct C)) (hf:C[i]? =Z f) (hs:fO P f.type=Z m) (h0:m≠0) (A:dE (.jp f.offset c) e h nx=Z R):gC P o e.get h.get R.eff:=by
 have key:∀(w:World) (ρ:Operand->Value) (b k:Nat),ρ c= .pointer (Z ⟨b,k,U⟩)->(execOp ρ o).run P w= .ok (.value (.pointer (Z ⟨b,k+f.offset,U⟩))) w:=by
  intro w ρ b k h1;unfold execOp;rw[ho];simp only[h1];exact ase (Vm hu hf hs h0 w b k)
 simp[dE]at A;split at A
 .rename_i id off L;rw[dx A];refine gC.reads λφ E h' w a _ hp _=>?_
  have h1:=hp c _ (by rw[ho];simp[Op.operands]) L;generalize I:a.eval c=z at h1;cases h1 with
  |K hφ=>exact⟨_,key w a.eval _ _ I,.K hφ⟩
 .rename_i cells off L;rw[dx A];refine gC.reads λφ E h' w a _ hp _=>?_
  have h1:=hp c _ (by rw[ho];simp[Op.operands]) L;generalize I:a.eval c=z at h1;cases h1 with
  |f h1=>
   cases h1 with
   |K _ _ b base us hO hb hcl hu hr=>
    refine ⟨_,key w a.eval _ _ I,.f ?_⟩;rw[jA];exact .K cells _ b base us hO hb hcl hu hr
 .cases A
def Ny {z:TypeId} {y:Operand} {off n x:Nat} {k:IntKind} {sz:Int} {ρ:Operand->Value} (ho:o.op= .indexAddr s c y) (L:P.underlying s=Z (.slice z)) (hs:fO P z=Z i) (I:ρ c= .slice (Z ⟨m,off,U⟩) n x) (A:ρ y= .int k sz) (h0:0<=sz) (h1:sz<n):
 (execOp ρ o).run P W= .ok (.value (.pointer (Z ⟨m,off+sz.toNat*i,U⟩))) W:=by
 have h2:=gM hs W;unfold execOp;rw[ho];simp[I,A,Instr.indexAt,asIntOf,run_underlying L,h2,h0,h1,kE]
def azp {el:TypeId} {y:Operand} (ho:o.op= .indexAddr s c y) (hu:P.underlying s=Z (.slice el)) (hs:fO P el=Z i) (A:dE (.jb i c y) e h nx=Z R):gC P o e.get h.get R.eff:=by
 simp[dE]at A;split at A
 .rename_i v k j hx hy;have hyv:∀{φ:PM} {E:Nat->Prop} {h':HF} {w:World} {a:Act},Rel φ E h' w a e o->a.eval y= .int k j:=λhp=>fJ (hp y _ (by rw[ho];simp[Op.operands]) hy)
  split at A
  .split at A
   .rename_i id sz' n hc;simp[cX,gI,al,bu,cU]at hc;obtain⟨⟨rfl,h0⟩,h1⟩:=hc;rw[dx A];refine gC.reads λφ E h' w a _ hp _=>?_
    have L:=hp c _ (by rw[ho];simp[Op.operands]) hx;generalize hz:a.eval c=z at L;cases L with
    |I hφ hn hc' hsh=>
     refine ⟨_,Ny ho hu hs hz (hyv hp) h0 h1,?_⟩;rw[bZ];exact .K hφ
   .cases A
  .split at A
   .rename_i id off n hc;simp[cX,gI,al,bu]at hc;let⟨h0,h1⟩:=hc;rw[dx A];refine gC.reads λφ E h' w a _ hp _=>?_
    have L:=hp c _ (by rw[ho];simp[Op.operands]) hx;generalize hz:a.eval c=z at L;cases L with
    |sl hφ hn hc'=>exact⟨_,Ny ho hu hs hz (hyv hp) h0 h1,.K hφ⟩
   .cases A
  .split at A
   .rename_i cells n hc;simp[cX,gI,al,bu]at hc;let⟨h0,h1⟩:=hc;rw[dx A];refine gC.reads λφ E h' w a _ hp _=>?_
    have L:=hp c _ (by rw[ho];simp[Op.operands]) hx;generalize hz:a.eval c=z at L;cases L with
    |f L=>
     cases L with
     |nil=>omega
     |sl _ _ x b base us hn hc' hO hb hcl hu' hr'=>exact⟨_,Ny ho hu hs hz (hyv hp) h0 h1,.f (.K cells _ b base us hO hb hcl hu' hr')⟩
   .cases A
  .cases A
 .cases A
def avh {el:TypeId} {y:Operand} (L:o.op= .indexAddr s c y) (hu:P.underlying s=Z (.array i el)) (hs:fO P el=Z m) (A:dE (.jk i m c y) e h nx=Z R):gC P o e.get h.get R.eff:=by
 have key:∀(w:World) (ρ:Operand->Value) (b off:Nat) (k:IntKind) (n:Int),ρ c= .pointer (Z ⟨b,off,U⟩)->ρ y= .int k n->0<=n->n<i->(execOp ρ o).run P w= .ok (.value (.pointer (Z ⟨b,off+n.toNat*m,U⟩))) w:=by
  intro w ρ b off k n h1 h2 h3 h4;have h5:=gM hs w;unfold execOp;rw[L];simp[h1,h2,Instr.indexAt,asIntOf,run_underlying hu,h5,h3,h4,kE,Instr.sureAddr]
 simp[dE]at A;split at A
 .rename_i v k j hx hy;split at A
  .rename_i hc;simp[cX,gI,al,bu]at hc;let⟨h0,h1⟩:=hc;split at A
   .rw[dx A];refine gC.reads λφ E h' w a _ hp _=>?_
    have I:=hp c _ (by rw[L];simp[Op.operands]) hx;have hyv:=fJ (hp y _ (by rw[L];simp[Op.operands]) hy);generalize hz:a.eval c=z at I;cases I with
    |K hφ=>exact⟨_,key w a.eval _ _ k j hz hyv h0 h1,.K hφ⟩
   .rw[dx A];refine gC.reads λφ E h' w a _ hp _=>?_
    have I:=hp c _ (by rw[L];simp[Op.operands]) hx;have hyv:=fJ (hp y _ (by rw[L];simp[Op.operands]) hy);generalize hz:a.eval c=z at I;cases I with
    |f I=>
     cases I with
     |K _ _ b base us hO hb hcl hu' hr'=>
      refine ⟨_,key w a.eval _ _ k j hz hyv h0 h1,.f ?_⟩;rw[jA];exact .K _ _ b base us hO hb hcl hu' hr'
   .cases A
  .cases A
 .cases A
def azs (L:o.op= .extract c i) (A:dE (.ext c i) e h nx=Z R):gC P o e.get h.get R.eff:=by
 simp[dE]at A;split at A
 .rename_i l hx;split at A
  .rename_i v hv;rw[dx A];refine gC.reads λφ E h' w a _ hp _=>?_
   have I:=hp c _ (by rw[L];simp[Op.operands]) hx;generalize hz:a.eval c=z at I;cases I with
   |@qp _ vs hl hrr=>
    have hlt:i<l! vs:=by grind
    refine ⟨vs[i],?_,hrr i v _ hv (aF hlt)⟩;unfold execOp;rw[L];simp[hz,Instr.extract,hlt]
  .cases A
 .cases A
def azm {y:Operand} {I:Array TypeId} (A:o.op= .call {callee:=.builtin .max,args:=#[c,y],argTypes:=I}) (z:dE (.max c y) e h nx=Z R):gC P o e.get h.get R.eff:=by
 simp[dE]at z;split at z
 .rename_i k a b k' hx L;rw[dx z];refine gC.reads λφ E h' w a _ hp _=>?_
  have h1:=fJ (hp c _ (by rw[A];simp[Op.operands,eT]) hx);have h2:=fJ (hp y _ (by rw[A];simp[Op.operands,eT]) L);refine ⟨_,?_,.f (.raw _)⟩;unfold execOp;rw[A];simp[resolve,invoke,builtin,Builtin.max_,Builtin.max2,h1,h2,gI]
 .cases z
def azl {y:Operand} {I:Array TypeId} (A:o.op= .call {callee:=.builtin .min,args:=#[c,y],argTypes:=I}) (z:dE (.min c y) e h nx=Z R):gC P o e.get h.get R.eff:=by
 simp[dE]at z;split at z
 .rename_i k a b k' hx L;rw[dx z];refine gC.reads λφ E h' w a _ hp _=>?_
  have h1:=fJ (hp c _ (by rw[A];simp[Op.operands,eT]) hx);have h2:=fJ (hp y _ (by rw[A];simp[Op.operands,eT]) L);refine ⟨_,?_,.f (.raw _)⟩;unfold execOp;rw[A];simp[resolve,invoke,builtin,Builtin.min_,Builtin.min2,h1,h2,gI]
 .cases z
def azg {k:IntKind} (L:o.op= .unOp .neg s c) (A:dE (.bin .sub (.const (.int k 0)) c) e h nx=Z R):gC P o e.get h.get R.eff:=by
 simp[dE,mm,I3]at A;split at A
 .rename_i u v hu hx;cases hu;split at A
  .rename_i r z;rw[dx A];refine gC.reads λφ E h' w a _ hop _=>?_
   have h1:=fJ (hop c _ (by rw[L];simp[Op.operands]) hx);refine ⟨r,?_,.f (.raw _)⟩;unfold execOp;rw[L];cases v<;>simp only[w_]at z<;>try (cases z;done)
   split at z
   next I=>have I:=eq_of_beq I;subst I;simp[ah]at z;subst z;simp[h1,Op.unary,Op.intArith,BR]
   .cases z
  .cases A
 .cases A
def av9 {i:Operand} (A:o.op= .index s c i) (hu:P.underlying s=Z .string) (z:dE (.jv c i) e h nx=Z R):gC P o e.get h.get R.eff:=by
 simp only[dE]at z;split at z
 .rename_i t k j L hi;split at z
  .rename_i h0;simp[cX,bu]at h0;split at z
   .rename_i b I;rw[dx z];refine gC.reads λφ E h' w a _ hop _=>?_
    have h1:=fJ (hop c _ (by rw[A];simp[Op.operands]) L);have h2:=fJ (hop i _ (by rw[A];simp[Op.operands]) hi);refine ⟨_,?_,.f (.raw _)⟩;have hs:t[j.toNat]? =Z b:=by
     rw[c6]at I;let⟨hl,he⟩:=dw.1 I;exact getElem?_pos t j.toNat hl▸d_ Z he
    unfold execOp;rw[A];simp[Instr.index,run_underlying hu,h1,h2,asIntOf,h0,hs]
   .cases z
  .cases z
 .cases z
variable {f:FuncId}
def azk {caps:Array Operand} (L:o.op= .makeFunc (.func f) #[] caps) (A:dE (.mkf f caps.toList) e h nx=Z R):gC P o e.get h.get R.eff:=by
 simp[dE]at A;split at A
 .rename_i l hl;rw[dx A];refine gC.reads λφ E h' w a _ hp _=>?_
  refine ⟨_,by unfold execOp;rw[L];rfl,?_⟩;have key:∀(xs:Y Operand) (z:Y AV),(∀x∈xs,x∈o.op.operands)->evs e xs=Z z->l! z=l! xs/\∀(j:Nat) x v,z[j]? =Z x->(xs.map a.eval)[j]? =Z v->ch φ (tot E φ h') w x v:=by
   intro xs;induction xs with
   |nil=>intro z _ h;simp[evs,ah]at h;subst h;exact⟨rfl,λj x v I=>by simp at I⟩
   |cons x xs ih=>
    intro z hm h;simp[evs]at h
    grind
  let⟨h1,h2⟩:=key caps.toList l (λx I=>by rw[L];simpa[Op.operands] using I) hl;have h3:(caps.map a.eval)=(caps.toList.map a.eval).toArray:=by grind
  have h4:(#[]:Array Operand).map a.eval=#[]:=by simp
  rw[h4,h3];exact .qf (by grind) h2
 .cases A
end pure
section
variable {P:Program} {o:Oper} {e:EJ} {h:mY} {nx:Nat} {R:EG}
def acg {α:Type} {l cs:Y α} (h:i+m<=l! l) (he:(l.drop i).take m=cs):l! cs=m/\∀(j:Nat) x,cs[j]? =Z x->l[i+j]? =Z x:=by grind
def AF (f:Nat->Value) (n j:Nat) (v:Value) (h:((dA n).map f)[j]? =Z v):v=f j/\j<n:=by grind
def Bd (φ:PM) (O:Nat->Prop) (w:World) (c:BC) (f:Nat->M Value):Prop:=∀j x,c.get j=Z x->x.isCell=J/\∃v,f j=Z v/\ch φ O w x v
def acf {c:BC} (z:c.sub? i m b=Z y) {f:Nat->M Value} (hc:Bd T O W c f):
 ∃cs:ξ,l! cs=m/\(∀(j:Nat) v,cs[j]? =Z v->f (i+j)=Z v)/\(b=af->m=1)/\ch T O W y (if b then .agg cs.toArray else cs.getD 0 undef):=by
 cases b with
 |false=>
  simp[BC.sub?]at z;split at z
  .obtain⟨h0,v,h1,I⟩:=hc i y z;exact⟨[v],rfl,λj u hu=>by cases j with|zero=>simp at hu;subst hu;exact h1|succ j=>simp at hu,λ_=>rfl,by simpa using I⟩
  .cases z
 |true=>
  have fin:∀(g:Nat->M AV),(∀j,j<m->∃x,g j=Z x/\c.get (i+j)=Z x)->
   ∃cs:ξ,l! cs=m/\(∀(j:Nat) v,cs[j]? =Z v->f (i+j)=Z v)/\∀(j:Nat) x v,g j=Z x->cs[j]? =Z v->ch T O W x v:=by
   intro g L;refine ⟨(dA m).map λj=>(f (i+j)).getD undef,by simp,λj v hv=>?_,λj x v hx hv=>?_⟩
   .obtain⟨rfl,A⟩:=AF _ _ _ _ hv;let⟨x,_,I⟩:=L j A;let⟨_,v,h3,_⟩:=hc _ _ I;rw[h3];rfl
   .obtain⟨rfl,A⟩:=AF _ _ _ _ hv;let⟨x',h1,I⟩:=L j A;rw[hx]at h1;cases h1;let⟨_,v,h3,h4⟩:=hc _ _ I;rw[h3];exact h4
  simp only[BC.sub?]at z;split at z
  .rename_i l;split at z
   .rename_i hle;simp[ah]at z;subst z;let⟨hl,L⟩:=acg (aY hle) (rfl:(l.drop i).take m=_);let⟨cs,h1,I,h3⟩:=fin (λj=>(((l.drop i).take m)[j]?).map AV.f) (λj A=>by
     have hlt:j<l! ((l.drop i).take m):=by omega
     refine ⟨.f ((l.drop i).take m)[j],by simp[aF hlt,bw],?_⟩;simp[BC.get,L j _ (aF hlt),bw])
    refine ⟨cs,h1,I,nofun,.f (.agg _ _ (by omega) ?_ ?_)⟩
    .intro x hx;let⟨j,A⟩:=fG hx;exact (hc (i+j) (.f x) (by simp[BC.get,L j x A,bw])).1
    .intro j x v hx hv;have:=h3 j (.f x) v (by grind) hv;cases this with
     |f h=>exact h
   .cases z
  .rename_i l;split at z
   .rename_i hle;simp[ah]at z;subst z;let⟨hl,L⟩:=acg (aY hle) (rfl:(l.drop i).take m=_);let⟨cs,h1,I,h3⟩:=fin (λj=>(((l.drop i).take m)[j]?)) (λj A=>by
     have hlt:j<l! ((l.drop i).take m):=by omega
     exact⟨_,aF hlt,L j _ (aF hlt)⟩)
    refine ⟨cs,h1,I,nofun,.agg (by omega) ?_ ?_⟩
    .intro x hx;let⟨j,A⟩:=fG hx;exact (hc (i+j) x (L j x A)).1
    .omega
   .cases z
  .cases z
variable {s:TypeId}
def SK (hs:fO P s=Z i) (ha:Hw P s=Z b) (w:World) (z off:Nat) (cs:ξ) (A:l! cs=i) (I:∀(j:Nat) v,cs[j]? =Z v->w.cell? ⟨z,off+j,U⟩=Z v) (h1:b=af->i=1):
 (loadVar s ⟨z,off,U⟩).run P w= .ok (if b then .agg cs.toArray else cs.getD 0 undef) w:=by
 unfold loadVar;simp[fB,Vn ha w,cQ];cases b with
 |true=>
  simp[bt,fB,gM hs w,cQ];rw[<- A,run_loadCells_list (P:=P) w ⟨z,off,U⟩ cs (λj v L=>by rw[kE];exact I j v L)];rfl
 |false=>
  have h1:=h1 rfl;cases cs with
  |nil=>simp at A;omega
  |cons v r=>
   have:=I 0 v rfl;simp_all
def MO {φ:PM} {w:World} {z:Bool} (I:fO P s=Z i) (ha:Hw P s=Z z) {c:BC} {b base:Nat} (A:c.sub? m i z=Z y)
 (hc:Bd φ O w c λj=>w.cell? ⟨b,base+j,U⟩):∃v,(loadVar s ⟨b,base+m,U⟩).run P w= .ok v w/\ch φ O w y v:=by
 let⟨cs,h1,h2,h3,h4⟩:=acf A hc;exact⟨_,SK I ha w b (base+m) cs h1 (λj v L=>by rw[jA];exact h2 j v L) h3,h4⟩
def X8 (hrep:sV T O A W) (L:A i=Z F) (h':T i=Z m) (I:F.c.isCells=J):Bd T (tot O T A) W F.c λj=>W.cell? ⟨m,0+j,U⟩:=by
 let⟨k',h1,_,h2⟩:=hrep.at_ i F L;rw[h']at h1;cases h1;let⟨arr,h3,h4,h5⟩:=h2.cells I;intro j x z;let⟨c1,v,c2,c3⟩:=h5 j x z;exact⟨c1,v,by simp[Sj,h3,c2],c3⟩
def abg {cells:Y FV} {I:Nat->Value} (hcl:∀x∈cells,x.isCell=J) (L:∀j,j<l! cells->W.cell? ⟨i,m+j,U⟩=Z (I j)) (hr:∀(j:Nat) x,cells[j]? =Z x->nS O W x (I j)):
 Bd T O W (.fz cells) λj=>W.cell? ⟨i,m+j,U⟩:=by
 intro j y z;simp only[BC.get]at z;cases A:cells[j]? with
 |none=>rw[A]at z;cases z
 |some q=>
  rw[A]at z;simp at z;subst z;have hj:j<l! cells:=(bz.1 A).1;exact⟨hcl q (ba A),I j,L j hj,.f (hr j q A)⟩
def U8 {c:BC} (h:c.sub? i m b=Z y):c.isCells=J:=by
 cases c with
 |fz|mx=>rfl
 |_=>cases b<;>simp[BC.sub?,BC.get]at h<;>(try split at h)<;>cases h
def Yh (hs:fO P s=Z i) (hag:Hw P s=Z b) (z:xQ h i b y=Z R):
 R.wr=[]/\R.nw=[]/\R.N=[]/\∀(φ:PM) (E:Nat->Prop) (h':HF) (w:World) (I:Value),(∀sz∈R.rd,h' sz=h.get sz)->sV φ E h' w->ch φ (tot E φ h') w y I->
  ∃ad v,I= .pointer (Z ad)/\(loadVar s ad).run P w= .ok v w/\ch φ (tot E φ h') w R.val v:=by
 unfold xQ at z;split at z
 .rename_i id off;split at z
  .rename_i ag hb;split at z
   .rename_i v L;simp[ah]at z;subst z;refine ⟨rfl,rfl,rfl,λφ E h' w I hrd hrep A=>?_⟩;have hh:h' id=Z ag:=by grind
    cases A with
    |@K _ _ k hφ=>
     let⟨u,h1,h2⟩:=MO hs hag (w:=w) (b:=k) (base:=0) L (X8 hrep hh hφ (U8 L))
     grind
   .cases z
  .cases z
 .rename_i cells off;split at z
  .rename_i v L;rw[dx z];refine ⟨rfl,rfl,rfl,λφ E h' w I hrd hrep A=>?_⟩;cases A with
   |f A=>
    cases A with
    |K _ _ ag base us hO hb hcl hu A=>
     let⟨u,h1,h2⟩:=MO (φ:=φ) (O:=tot E φ h') hs hag (w:=w) (b:=ag) (base:=base) L (abg hcl hu A);exact⟨_,u,rfl,h1,h2⟩
  .cases z
 .cases z
def ave (A:o.op= .load s c) (hs:fO P s=Z i) (hag:Hw P s=Z b) (z:dE (.load i b c) e h nx=Z R):gC P o e.get h.get R.eff:=by
 simp[dE]at z;split at z
 .rename_i p L;let⟨h1,h2,h3,h4⟩:=Yh hs hag z;let⟨val,rd,wr,nw,N⟩:=R;subst h1 h3;refine gC.reads λφ E h' w a hrd hp hrep=>?_
  let⟨ad,v,h5,h6,h7⟩:=h4 φ E h' w _ hrd hrep (hp c _ (by rw[A];simp[Op.operands]) L);refine ⟨v,?_,h7⟩;unfold execOp;rw[A];simp[Instr.loadAt,h5,Instr.sureAddr,h6]
 .cases z
variable {E:ξ}
def acx {φ:PM} (I:fO P s=Z i) (hag:Hw P s=Z b) {c:BC} (A:c.sub? m i b=Z y) 
 (L:Bd φ O W c λj=>E[j]?):∃v,(part s E.toArray m).run P W= .ok v W/\ch φ O W y v:=by
 let⟨cs,h1,h2,h3,h4⟩:=acf A L;refine ⟨_,?_,h4⟩;unfold part;simp only[fB,Vn hag W,cQ];cases b with
 |true=>
  simp only[bt,fB,gM I W,cQ];have:E.toArray.extract m (m+i)=cs.toArray:=by
   apply Array.ext';apply Sl
   grind
  rw[this];rfl
 |false=>
  have h5:=h3 rfl;cases cs with
  |nil=>simp at h1;omega
  |cons v r=>
   have:=h2 0 v rfl;simp_all
variable {r:Y AV}
def X9 (L:l! E=l! r) (hcl:∀x∈r,x.isCell=J) (I:∀(j:Nat) x v,r[j]? =Z x->E[j]? =Z v->ch T O W x v):Bd T O W (.mx r) λj=>E[j]? :=by
 intro j x z;simp[BC.get]at z;have A:j<l! E:=by grind
 exact⟨hcl x (ba z),E[j],aF A,I j x _ z (aF A)⟩
def Uw {l:Y FV} (hl:l! E=l! l) (hcl:∀x∈l,x.isCell=J) (L:∀(j:Nat) x v,l[j]? =Z x->E[j]? =Z v->nS O W x v):Bd T O W (.fz l) λj=>E[j]? :=by
 intro j x z;simp only[BC.get]at z;cases A:l[j]? with
 |none=>rw[A]at z;cases z
 |some q=>
  rw[A]at z;simp at z;subst z;have I:j<l! E:=by grind
  exact⟨hcl q (ba A),E[j],aF I,.f (L j q _ A (aF I))⟩
def O1 (hs:fO P s=Z i) (hag:Hw P s=Z b) (A:ch T O W y v) {val:AV}
 (I:(∃l,y= .agg l/\(BC.mx l).sub? m i b=Z val)\/(∃l,y= .f (.agg l)/\(BC.fz l).sub? m i b=Z val)):∃cs z,v= .agg cs/\(part s cs m).run P W= .ok z W/\ch T O W val z:=by
 rcases I with ⟨l,rfl,I⟩|⟨l,rfl,I⟩
 .cases A with
  |agg L hcl A=>
   let⟨z,h1,h2⟩:=acx hs hag I (X9 L hcl A);exact⟨_,z,rfl,h1,h2⟩
 .cases A with
  |f A=>
   cases A with
   |agg _ vs L hcl A=>
    let⟨z,h1,h2⟩:=acx (φ:=T) hs hag I (Uw L hcl A);exact⟨_,z,rfl,h1,h2⟩
variable {C:Array Field}
def azq {f:Field} (A:o.op= .field s c i) (hu:P.underlying s=Z (.struct C)) (hf:C[i]? =Z f) (hs:fO P f.type=Z m) (hag:Hw P f.type=Z b) (ha:dE (.fld f.offset m b c) e h nx=Z R):gC P o e.get h.get R.eff:=by
 have fin:∀(y:AV) (val:AV),mm e c=Z y->((∃l,y= .agg l/\(BC.mx l).sub? f.offset m b=Z val)\/(∃l,y= .f (.agg l)/\(BC.fz l).sub? f.offset m b=Z val))->rv val=Z R->gC P o e.get h.get R.eff:=by
  intro y val L hv hR;rw[dx hR];refine gC.reads λφ E h' w a _ hp _=>?_
  let⟨cs,v,h1,h2,h3⟩:=O1 hs hag (hp c _ (by rw[A];simp[Op.operands]) L) hv;refine ⟨v,?_,h3⟩;unfold execOp;rw[A];simp[Instr.field,run_underlying hu,hf,h1,asAgg,h2]
 simp[dE]at ha
 grind
def azo {L:TypeId} {y:Operand} (I:o.op= .index s c y) (hu:P.underlying s=Z (.array i L)) (hs:fO P L=Z m) (hag:Hw P L=Z b) (z:dE (.idx i m b c y) e h nx=Z R):gC P o e.get h.get R.eff:=by
 simp[dE]at z;split at z
 .rename_i v0 k j hx hy;split at z
  .rename_i hc;simp[cX,gI,al,bu]at hc;let⟨h0,h1⟩:=hc;have fin:∀(val:AV),((∃l,v0= .agg l/\(BC.mx l).sub? (j.toNat*m) m b=Z val)\/(∃l,v0= .f (.agg l)/\(BC.fz l).sub? (j.toNat*m) m b=Z val))->rv val=Z R->gC P o e.get h.get R.eff:=by
    intro val hv hR;rw[dx hR];refine gC.reads λφ E h' w a _ hp _=>?_
    have hyv:=fJ (hp y _ (by rw[I];simp[Op.operands]) hy);let⟨cs,v,h3,h4,h5⟩:=O1 hs hag (hp c _ (by rw[I];simp[Op.operands]) hx) hv;refine ⟨v,?_,h5⟩;have h6:=gM hs w;unfold execOp;rw[I];simp[Instr.index,run_underlying hu,hyv,asIntOf,h3,h0,h1,h6,h4]
   grind
  .cases z
 .cases z
def avg {el:TypeId} (ho:o.op= .call {callee:=.builtin .len,args:=#[c],argTypes:=#[s]}) (hu:P.underlying s=Z (.slice el)) (L:dE (.len c) e h nx=Z R):gC P o e.get h.get R.eff:=by
 simp[dE]at L;split at L
 .rename_i y hx;split at L
  .rename_i n hn;rw[dx L];refine gC.reads λφ E h' w a _ hp _=>?_
   have I:=hp c _ (by rw[ho];simp[Op.operands,eT]) hx;refine ⟨_,?_,.f (.raw _)⟩;have hz:∃A x,a.eval c= .slice A n x:=by
    generalize a.eval c=z at I;unfold AV.slen at hn;split at hn<;>try (simp [ah]at hn;subst hn)
    .cases I with
     |f I=>cases I with
      |nil|sl=>exact⟨_,_,rfl⟩
    .cases fJ I;exact⟨_,_,rfl⟩
    .cases I;exact⟨_,_,rfl⟩
    .cases I;exact⟨_,_,rfl⟩
    .cases I;exact⟨_,_,rfl⟩
    .cases hn
   let⟨A,x,hz⟩:=hz;unfold execOp;rw[ho];simp[resolve,invoke,builtin,Builtin.len_,run_underlying hu,hz,goInt]
  .cases L
 .cases L
def avf (A:o.op= .call {callee:=.builtin .len,args:=#[c],argTypes:=#[s]}) (L:P.underlying s=Z .string) (z:dE (.lens c) e h nx=Z R):gC P o e.get h.get R.eff:=by
 simp[dE]at z;split at z
 .rename_i t I;rw[dx z];refine gC.reads λφ E h' w a _ hp _=>?_
  have hr:=fJ (hp c _ (by rw[A];simp[Op.operands,eT]) I);refine ⟨_,?_,.f (.raw _)⟩;unfold execOp;rw[A];simp[resolve,invoke,builtin,Builtin.len_,run_underlying L,hr,goInt]
 .cases z
end
structure Ja (w w':World) (k:Nat) (ob:Obj):Prop where
 os:w'.os=w.os
 tape:w'.tape=w.tape
 output:w'.output=w.output
 size:w'.heap.size=w.heap.size
 at_:w'.heap[k]? =Z ob
 other:∀j,j≠k->w'.heap[j]? =w.heap[j]?
 jr:∀j,w'.shape? j=w.shape? j
structure Yp (w w':World) (ob:Obj):Prop where
 os:w'.os=w.os
 tape:w'.tape=w.tape
 output:w'.output=w.output
 size:w'.heap.size=w.heap.size+1
 at_:w'.heap[w.heap.size]? =Z ob
 other:∀j,j<w.heap.size->w'.heap[j]? =w.heap[j]?
def sV.wset {w':World} (r:sV T O A W) {id:Nat} {b':ko} {ob:Obj} (hb:A id=Z F) (L:T id=Z i) (h:Ja W w' i ob) (hob:ii T (tot O T A) W b' ob) (I:HF) (hnw:I id=Z b'):
 jU T T A (fm A [id] I) W w'/\sV T O (fm A [id] I) w':=by
 have hdom:∀k,(∃x,fm A [id] I k=Z x)↔∃x,A k=Z x:=λk=>by
  unfold fm
  grind
 have hown:∀j,own T (fm A [id] I) j↔own T A j:=λj=>by
  constructor
  .rintro⟨k,x,h1,z⟩;let⟨y,hy⟩:=(hdom k).1 ⟨x,h1⟩;exact⟨k,y,hy,z⟩
  .rintro⟨k,x,h1,z⟩;let⟨y,hy⟩:=(hdom k).2 ⟨x,h1⟩;exact⟨k,y,hy,z⟩
 have m:jU T T A (fm A [id] I) W w':=by
  refine ⟨λ_ _ A=>A,⟨h.os,h.tape,h.output,by rw[h.size];exact bK _,λj hj ho=>?_,λj _=>h.jr j⟩,λj _ A=>(hown j).1 A⟩;exact h.other j (λe=>ho (e▸⟨id,F,hb,L⟩))
 refine ⟨m,⟨λk j x y kk hi hj h1 z=>?_,λk x hi=>?_,λi L=>dv (r.el i L) m.ext.size,λg cells hg=>m.keepF (r.gl g cells hg)⟩⟩
 .obtain⟨x',hx'⟩:=(hdom k).1 ⟨x,hi⟩;let⟨y',hy'⟩:=(hdom j).1 ⟨y,hj⟩;exact r.inj k j x' y' kk hx' hy' h1 z
 .by_cases hid:k=id
  .subst hid;have:x=b':=by unfold fm at hi;simp[hnw]at hi;exact hi.symm
   subst this;let⟨k',h1,z,_⟩:=r.at_ k F hb;rw[L]at h1;cases h1;exact⟨i,L,z,ob,h.at_,hob.mono λ_ _ A=>m.zj A⟩
  .have hx:A k=Z x:=by unfold fm at hi;simpa[hid] using hi
   let⟨k',h1,z,ob',h3,h4⟩:=r.at_ k x hx;have hne:k'≠i:=λe=>hid (r.inj k id x F i hx hb (e▸h1) L)
   exact⟨k',h1,z,ob',by rw[h.other k' hne];exact h3,h4.mono λ_ _ A=>m.zj A⟩
def sV.wnew {w':World} (r:sV T O A W) {id:Nat} (hid:T id=U) {b:ko} {ob:Obj} (h:Yp W w' ob) (hob:ii T (tot O T A) W b ob) (del:ι) (L:HF) (hnw:L id=Z b) (hdel:∀i∈del,i≠id->L i=U):
 ∃φ',φ' id=Z W.heap.size/\jU T φ' A (fm A (id::del) L) W w'/\(∀i k,φ' i=Z k->T i=Z k\/i∈[id])/\sV φ' O (fm A (id::del) L) w':=by
 have hsub:∀i x,fm A (id::del) L i=Z x->i≠id->A i=Z x/\i∉del:=λi x hx hi=>by
  unfold fm at hx
  grind
 have hlt:∀i x k,A i=Z x->T i=Z k->k<W.heap.size:=λi x k hi hk=>by
  let⟨k',h1,_,ob',h3,_⟩:=r.at_ i x hi
  grind
 have hφ:∀i,i≠id->(if i=id then Z W.heap.size else T i)=T i:=λi hi=>by simp[hi]
 have m:jU T (λi=>if i=id then Z W.heap.size else T i) A (fm A (id::del) L) W w':=by
  refine ⟨λi k hk=>?_,⟨h.os,h.tape,h.output,by rw[h.size];omega,λj hj _=>h.other j hj,λj hj=>?_⟩,?_⟩
  .grind
  .unfold tV;rw[h.other j hj]
  .rintro j hj ⟨i,x,h1,I⟩;by_cases hi:i=id
   .simp[hi]at I;omega
   .have h3:T i=Z j:=by simpa[hi] using I
    exact⟨i,x,(hsub i x h1 hi).1,h3⟩
 refine ⟨_,by simp,m,λi k hk=>?_,⟨λi j x y k hi hj h1 I=>?_,λi x hi=>?_,λk hk=>dv (r.el k hk) m.ext.size,λg cells hg=>m.keepF (r.gl g cells hg)⟩⟩
 .grind
 .by_cases z:i=id
  .grind
  .rw[hφ i z]at h1;have hix:=(hsub i x hi z).1;by_cases hj':j=id
   .grind
   .rw[hφ j hj']at I;exact r.inj i j x y k hix (hsub j y hj hj').1 h1 I
 .by_cases z:i=id
  .subst z;have:x=b:=by unfold fm at hi;simp[hnw]at hi;exact hi.symm
   subst this;refine ⟨W.heap.size,by simp,λhe=>?_,ob,h.at_,hob.mono λ_ _ A=>m.zj A⟩;have:=r.el _ he;omega
  .obtain⟨k,h1,I,ob',h3,h4⟩:=r.at_ i x (hsub i x hi z).1;refine ⟨k,by rw[hφ i z];exact h1,I,ob',?_,h4.mono λ_ _ A=>m.zj A⟩;rw[h.other k (hlt i x k (hsub i x hi z).1 h1)];exact h3
def tu (w:World) (ob:Obj):Yp w {w with heap:=w.heap.push ob} ob:=by
 refine ⟨rfl,rfl,rfl,by simp,by simp,λj z=>?_⟩
 grind
def Yp.drawn {w':World} {ob:Obj} (d:Nat) (h:Yp {W with drawn:=d} w' ob):Yp W w' ob:=⟨h.os,h.tape,h.output,h.size,h.at_,h.other⟩
def gC.makes {o:Oper} {e:EJ} {rd:ι} 
 (hv:∀(φ:PM) (E:Nat->Prop) (h':HF) (w:World) (a:Act),(∀nx∈rd,h' nx=A nx)->Rel φ E h' w a e o->sV φ E h' w->
   ∃v w' ob,(execOp a.eval o).run P w= .ok (.value v) w'/\Yp w w' ob/\ii φ (tot E φ h') w F ob/\∀φ' O,φ' i=Z w.heap.size->ch φ' O w' y v):
 gC P o e.get A ⟨y,rd,[i],jP [(i,F)],[i]⟩:=by
 intro φ E h' w a h1 h2 h3 z h5;let⟨v,w',ob,hrun,L,hob,hval⟩:=hv φ E h' w a h1 (λx val I h=>xE z h3 I h) z;let⟨φ',g1,g2,g3,g4⟩:=z.wnew (id:=i) (h5 i (by simp)) L hob [] (jP [(i,F)]) (by simp[jP]) (by simp);unfold Lv;rw[hrun];exact⟨v,φ',rfl,g2,g3,g4,hval φ' _ g1⟩
def gC.writes {o:Oper} {e:EJ} {rd:ι} {b':ko} (hb:A i=Z F)
 (hv:∀(φ:PM) (E:Nat->Prop) (h':HF) (w:World) (a:Act),(∀id∈rd,h' id=A id)->h' i=Z F->Rel φ E h' w a e o->sV φ E h' w->
   ∃r w' k ob,(execOp a.eval o).run P w= .ok r w'/\φ i=Z k/\Ja w w' k ob/\ii φ (tot E φ h') w b' ob/\(∃v,(r= .value v\/r= .skip/\v=undef)/\ch φ (tot E φ (fm h' [i] (jP [(i,b')]))) w' y v)):
 gC P o e.get A ⟨y,rd,[i],jP [(i,b')],[]⟩:=by
 intro φ E h' w a h1 h2 h3 z h5;let⟨r,w',k,ob,hrun,hk,hw,hob,v,hr,hval⟩:=hv φ E h' w a h1 (by grind) (λx val hx L=>xE z h3 hx L) z;let⟨I,h⟩:=z.wset (id:=i) (by rw[h2 i (by simp)];exact hb) hk hw hob (jP [(i,b')]) (by simp[jP]);unfold Lv;rw[hrun];rcases hr with rfl|⟨rfl,rfl⟩
 .exact⟨v,φ,rfl,I,λ_ _ A=>.inl A,h,hval⟩
 .exact⟨undef,φ,rfl,I,λ_ _ A=>.inl A,h,hval⟩
variable {r:Y AV}
def mT (h:gD r=J):∀x∈r,x.isCell=J:=by
 induction r with
 |nil=>intro x z;cases z
 |cons y r A=>
  simp[gD,al]at h
  grind
def nO:∀{l:Y AV} {z:Y FV},zK l=Z z->l=z.map .f
 |[],z,h=>by simp[zK,ah]at h;subst h;rfl
 |.f x::r,z,h=>by
  simp[zK]at h;split at h
  next l A=>simp[ah]at h;subst h;rw[nO A];rfl
  .cases h
 |.K _ _::_,_,h|.sl _ _ _::_,_,h|.I _ _ _::_,_,h|.mp _::_,_,h|.emp::_,_,h|.agg _::_,_,h|.qp _::_,_,h|.qf _ _::_,_,h=>by simp[zK]at h
def Cs (φ:PM) (O:Nat->Prop) (w:World) (l:Y AV) (vs:ξ):Prop:=l! vs=l! l/\(∀x∈l,x.isCell=J)/\∀(j:Nat) x v,l[j]? =Z x->vs[j]? =Z v->ch φ O w x v
def BC.get_toMx {c:BC} (z:c.isCells=J) (j:Nat):c.get j=c.toMx[j]? :=by
 cases c with
 |fz l=>simp[BC.get,BC.toMx]
 |mx l=>rfl
 |_=>cases z
def BC.len_toMx {c:BC} (z:c.isCells=J):c.len=l! c.toMx:=by
 cases c with
 |fz l=>simp[BC.len,BC.toMx]
 |mx l=>rfl
 |_=>cases z
def nK (l:Y AV):(oO l).toMx=l/\(oO l).isCells=J:=by
 unfold oO;cases h:zK l with
 |none=>exact⟨rfl,rfl⟩
 |some z=>exact⟨(nO h).symm,rfl⟩
variable {s:TypeId}
def sa {c:BC} (z:c.isCells=J) {arr:Array Value} (hl:l! c.toMx<=arr.size)
 (h:∀(j:Nat) x,c.toMx[j]? =Z x->x.isCell=J/\∃v,arr[j]? =Z v/\ch T O W x v):ii T O W ⟨s,c⟩ (.cells arr s (0,0)):=by
 have I:vH T O W c arr:=⟨by rw[BC.len_toMx z];exact hl,λj x L=>h j x (by rw[<- BC.get_toMx z];exact L)⟩
 cases A:c with
 |fz l|mx l=>rw[A]at I;exact⟨arr,rfl,I⟩
 |_=>rw[A]at z;cases z
variable {E:ξ}
def My {ty:TypeId} (h:Cs T O W r E):ii T O W ⟨ty,oO r⟩ (.cells E.toArray ty (0,0)):=by
 let⟨h1,I⟩:=nK r;refine sa I (by rw[h1];simp[h.1]) λj x z=>?_
 rw[h1]at z;have A:j<l! E:=by rw[h.1];exact (bz.1 z).1
 exact⟨h.2.1 x (ba z),E[j],by simp[A],h.2.2 j x _ z (aF A)⟩
def aa8 (h:ch T O W y v) (A:gD y.cs=J):Cs T O W y.cs v.cells.toList:=by
 have one:y.cs=[y]->v.cells=#[v]->Cs T O W y.cs v.cells.toList:=λh1 h2=>by
  rw[h1]at A ⊢;rw[h2];exact⟨rfl,mT A,λj x u z L=>by cases j with|zero=>simp at z L;subst z L;exact h|succ j=>simp at z⟩
 cases h with
 |qp _ _=>exact bT A (by simp[AV.cs,gD,AV.isCell])
 |@agg l vs hl hcl hr=>exact⟨hl,hcl,hr⟩
 |@f x u hf=>
  cases hf with
  |raw v=>
   have hv:v.oneCell'=J:=by
    have:(AV.f (.raw v)).cs=[.f (.raw v)]:=rfl;rw[this]at A;simpa[gD,AV.isCell,FV.isCell] using A
   refine one rfl ?_;cases v<;>first|rfl|simp[Value.oneCell']at hv
  |agg l vs hl hcl hr=>
   refine ⟨by simp[AV.cs,Value.cells,hl],mT A,λj x u z L=>?_⟩;simp only[AV.cs,bE]at z;cases hq:l[j]? with
   |none=>rw[hq]at z;cases z
   |some q=>rw[hq]at z;simp at z;subst z;exact .f (hr j q u hq (by simpa[Value.cells] using L))
  |_=>exact one rfl rfl
 |_=>exact one rfl rfl
def nS.one {x:FV} (h:nS O W x v) (z:x.isCell=J):v.oneCell'=J:=by
 cases h with
 |raw v=>exact z
 |agg=>cases z
 |_=>rfl
def ch.one (h:ch T O W y v) (z:y.isCell=J):v.oneCell'=J:=by
 cases h with
 |f h=>exact h.one z
 |agg|qp=>cases z
 |_=>rfl
def Cs.one (h:Cs T O W r E):∀v∈E,v.oneCell'=J:=by
 intro v A;let⟨j,z⟩:=fG A;have hlt:j<l! r:=by rw[<- h.1];exact (bz.1 z).1
 exact (h.2.2 j _ v (aF hlt) z).one (h.2.1 _ (List.getElem_mem hlt))
def Cs.append {l':Y AV} {vs':ξ} (h:Cs T O W r E) (h':Cs T O W l' vs'):Cs T O W (r++l') (E++vs'):=by
 refine ⟨by simp[h.1,h'.1],λx z=>(cq.1 z).elim (h.2.1 x) (h'.2.1 x),λj x v z I=>?_⟩;rcases cN j (l! r) with A|A
 .rw[b8 A]at z;rw[b8 (by rw[h.1];exact A)]at I;exact h.2.2 j x v z I
 .rw[bS A]at z;rw[bS (by rw[h.1];exact A),h.1]at I;exact h'.2.2 _ x v z I
def Cs.take (h:Cs T O W r E) (n:Nat):Cs T O W (r.take n) (E.take n):=by
 refine ⟨by simp[h.1],λx z=>h.2.1 x (il z),λj x v z A=>?_⟩;rw[fd]at z A;split at z
 next I=>rw[aC I]at A;exact h.2.2 j x v z A
 .cases z
def Cs.drop (h:Cs T O W r E) (n:Nat):Cs T O W (r.drop n) (E.drop n):=by
 refine ⟨by simp[h.1],λx z=>h.2.1 x (List.mem_of_mem_drop z),λj x v z A=>?_⟩;rw[lJ]at z A;exact h.2.2 _ x v z A
def Cs.splice {l':Y AV} {vs':ξ} (h:Cs T O W r E) (h':Cs T O W l' vs') (off:Nat):Cs T O W (splice r off l') (splice E off vs'):=by
 unfold AI.splice;rw[h'.1];exact ((h.take off).append h').append (h.drop _)
def Cs.raws {φ:PM} {w:World} (z:ξ) (L:og z=J):Cs φ O w (z.map raw) z:=by
 refine ⟨by simp,λx A=>?_,λj x v A I=>?_⟩
 .obtain⟨v,I,rfl⟩:=cC.1 A;exact iF.1 L v I
 .rw[bE]at A;rw[I]at A;simp at A;subst A;exact .f (.raw v)
def Cs.mono {φ':PM} {O':Nat->Prop} {w':World} (h:Cs T O W r E) (I:∀x v,ch T O W x v->ch φ' O' w' x v):Cs φ' O' w' r E:=⟨h.1,h.2.1,λj x v z A=>I _ _ (h.2.2 j x v z A)⟩
def Ja.setRow {arr arr':Array Value} (A:W.heap[i]? =Z (.cells arr s (0,0))) (I:arr'.size=arr.size):Ja W (W.setRow i arr') i (.cells arr' s (0,0)):=by
 refine ⟨rfl,rfl,rfl,by simp,setRow_heap W i arr arr' s (0,0) A,λj z=>setRow_other W i j arr' z,λj=>?_⟩;unfold tV;by_cases z:j=i
 .subst z;rw[setRow_heap W j arr arr' s (0,0) A,A];simp[I]
 .rw[setRow_other W i j arr' z]
section
variable {P:Program} {o:Oper} {e:EJ} {h:mY} {nx:Nat} {R:EG}
def vI (A:vg P s=Z E) (w:World):∃v,(zeroValue s).run P w= .ok v w/\v.cells.toList=E/\∃i,P.info? s=Z i/\i.zero=Z v:=by
 unfold vg at A;cases hi:P.info? s with
 |none=>rw[hi]at A;cases A
 |some i=>
  rw[hi]at A;simp only[aB]at A;cases I:i.zero with
  |none=>rw[I]at A;cases A
  |some v=>
   rw[I]at A;simp[bw,ah]at A;exact⟨v,by simp[zeroValue,typeInfo,hi,I],A,i,rfl,I⟩
def ar7 (ho:o.op= .alloc s) (hz:vg P s=Z E) (hc:og E=J) (L:dE (.alloc s E) e h nx=Z R):gC P o e.get h.get R.eff:=by
 simp[dE,ah]at L;subst L;refine gC.makes λφ z h' w a _ _ _=>?_
 let⟨v,h1,h2,_⟩:=vI hz w;refine ⟨.pointer (Z ⟨w.heap.size,0,U⟩),{w with heap:=w.heap.push (.cells v.cells s)},.cells v.cells s (0,0),?_,tu w _,?_,λφ' O hφ=>.K hφ⟩
 .unfold execOp;rw[ho];simp[Instr.alloc,h1,newVar,newRow,newObj,kY]
 .have A:BC.toMx (.fz (E.map .raw))=E.map raw:=by simp[BC.toMx,raw]
  refine sa rfl (by grind) λj x I=>?_
  rw[A]at I;have cs:=Cs.raws (φ:=φ) (O:=tot z φ h') (w:=w) E hc;have hj:j<l! E:=by grind
  refine ⟨cs.2.1 x (ba I),E[j],?_,cs.2.2 j x _ I (aF hj)⟩
  grind
def azw (A:o.op= .box s c) (z:dE (.box s c) e h nx=Z R):gC P o e.get h.get R.eff:=by
 simp[dE]at z;split at z
 .rename_i v I;split at z
  .rename_i hc;simp[ah]at z;subst z;refine gC.makes λφ E h' w a _ hp _=>?_
   have L:=aa8 (hp c _ (by rw[A];simp[Op.operands]) I) hc;refine ⟨.pointer (Z ⟨w.heap.size,0,U⟩),{w with heap:=w.heap.push (.cells (a.eval c).cells s)},.cells (a.eval c).cells s (0,0),?_,tu w _,?_,λφ' O hφ=>.K hφ⟩
   .unfold execOp;rw[A];simp[Instr.box,newVar,newRow,newObj,kY]
   .have:=My (ty:=s) L;simpa using this
  .cases z
 .cases z
def oA {α:Type} {l vs:Y α} {off:Nat} (hle:off+l! vs<=l! l) (j:Nat):(splice l off vs)[j]? =if j<off then l[j]? else if j<off+l! vs then vs[j-off]? else l[j]? :=by
 unfold splice
 grind
def ny {α:Type} {l vs:Y α} (hle:i+l! vs<=l! l):l! (splice l i vs)=l! l:=by
 unfold splice;simp;omega
def WH (off:Nat):∀(vs:ξ) (k:Nat) (arr:Array Value),off+k+l! vs<=arr.size->∀j:Nat,
 ((vs.zipIdx k).foldl (λcs (p:Value×Nat)=>cs.setIfInBounds (off+p.2) p.1) arr)[j]? =if j<off+k then arr[j]? else if j<off+k+l! vs then vs[j-(off+k)]? else arr[j]?
 |[],k,arr,_,j=>by simp_all
 |v::vs,k,arr,hle,j=>by
  rw[List.zipIdx_cons,Ad,WH off vs (k+1) _ (by grind) j]
  grind
def WG (off:Nat) (c:Array Value) (l:ξ) (hle:off+c.size<=l! l):(c.zipIdx.foldl (λcs (p:Value×Nat)=>cs.setIfInBounds (off+p.2) p.1) l.toArray)=(splice l off c.toList).toArray:=by
 rw[<- Array.foldl_toList,Array.toList_zipIdx];apply Array.ext_getElem?;intro j;rw[WH off c.toList 0 l.toArray (by omega) j];simp only[dQ,List.getElem?_toArray];rw[oA (by omega)]
def TZ (hp:Rel T O A W N e o) {place:Nat->M p?}:∀(z:Y H?) (ps':Y m?) (cells cs:Y AV) (vs:ξ),
 (l! ps'=l! z)->(∀(j:Nat) i x,z[j]? =Z (i,x)->∃of sz,ps'[j]? =Z (of,sz,x)/\place i=Z (of,sz))->(∀p∈z,p.2∈o.op.operands)->Cs T (tot O T A) W cells vs->Cy cells e ps'=Z cs->
 ∃vs',Instr.fill place vs.toArray (z.map λp=>(p.1,N.eval p.2))=Z vs'.toArray/\Cs T (tot O T A) W cs vs'
 |[],ps',cells,cs,vs,hl,_,_,hcs,hf=>by
  cases ps' with
  |nil=>simp[Cy,ah]at hf;subst hf;exact⟨vs,rfl,hcs⟩
  |cons _ _=>simp at hl
 |(i,x)::z,ps',cells,cs,vs,hl,hpl,hm,hcs,hf=>by
  obtain⟨of,sz,h1,h2⟩:=hpl 0 i x rfl;cases ps' with
  |nil=>simp at h1
  |cons p ps'=>
   simp at h1;subst h1;simp only[Cy]at hf;split at hf
   .rename_i v hv;split at hf
    .rename_i hc;simp only[al,cU]at hc;obtain⟨⟨hc1,I⟩,h'⟩:=hc;have L:=aa8 (hp x v (hm _ (dK ..)) hv) h';have hsz:(N.eval x).cells.size=sz:=by have:=L.1;simp at this;omega
     have hle:of+sz<=l! vs:=by rw[hcs.1];exact aY I
     obtain⟨vs',g1,g2⟩:=TZ hp z ps' _ cs _ (by grind) (λj i x hj=>by have:=hpl (j+1) i x (by grind);simpa using this) (λp hp=>hm p (cY _ hp)) (hcs.splice L of) hf;refine ⟨vs',?_,g2⟩;simp only[cD,Instr.fill,h2];have hcd:((decide ((N.eval x).cells.size≠sz))||decide (of+(N.eval x).cells.size>vs.toArray.size))=af:=by grind
     rw[av (by grind)];have:=WG of (N.eval x).cells vs (by omega);rw[<- g1,<-this]
    .cases hf
   .cases hf
def Ia :∀(z:Y H?) (ps':Y m?),Al P s z=Z ps'->l! ps'=l! z/\∀(j:Nat) i x,z[j]? =Z (i,x)->∃of sz,ps'[j]? =Z (of,sz,x)/\E0 P s i=Z (of,sz)
 |[],ps',h=>by simp[Al,ah]at h;subst h;exact⟨rfl,λj i x hx=>by simp at hx⟩
 |(i,x)::z,ps',h=>by
  simp[Al]at h;split at h
  .rename_i of sz l h1 h2;simp[ah]at h;subst h;let⟨g1,g2⟩:=Ia z l h2;refine ⟨by simp[g1],λj L I A=>?_⟩;cases j with
   |zero=>simp at A;obtain⟨rfl,rfl⟩:=A;exact⟨of,sz,rfl,h1⟩
   |succ j=>simpa using g2 j L I (by grind)
  .cases h
def MG (w:World):∀(z:Y Field),(z.all λf=>(fO P f.type).isSome)=J->(z.mapM (λf=>do pure (f.offset,<-sizeOf f.type)):Sem (Y p?)).run P w= .ok (z.map λf=>(f.offset,(fO P f.type).getD 0)) w
 |[],_=>by simp
 |f::z,h=>by
  simp only[List.all_cons,al]at h;let⟨sz,A⟩:=ru.1 h.1;have h1:=gM A w;have I:=MG w z h.2;simp_all
def aez {L:Array H?} {ps':Y m?} (ho:o.op= .build s L) (hz:vg P s=Z E) (hc:og E=J) (hps:Al P s L.toList=Z ps')
 (I:(∃A,P.underlying s=Z (.struct A)/\(A.toList.all λf=>(fO P f.type).isSome)=J)\/∃n el sz,P.underlying s=Z (.array n el)/\fO P el=Z sz) (ha:dE (.build E ps') e h nx=Z R):gC P o e.get h.get R.eff:=by
 simp[dE]at ha;split at ha
 .rename_i cs hf;rw[dx ha];refine gC.reads λφ z h' w a _ hp _=>?_
  let⟨v,h1,h2,_⟩:=vI hz w;have hcells:v.cells=E.toArray:=by rw[<- h2]
  let⟨g1,g2⟩:=Ia L.toList ps' hps;have hops:∀p∈L.toList,p.2∈o.op.operands:=λp hp=>by
   rw[ho];simp only[Op.operands,List.mem_toArray,cC];exact⟨p,hp,rfl⟩
  have hmap:(L.map λx:Nat×Operand=>(x.1,a.eval x.2)).toList=L.toList.map λp=>(p.1,a.eval p.2):=by simp
  have fin:∀place:Nat->M p?,(∀i,E0 P s i≠U->place i=E0 P s i)->∃vs':ξ,Instr.fill place v.cells (L.map λx:Nat×Operand=>(x.1,a.eval x.2)).toList=Z vs'.toArray/\ch φ (tot z φ h') w (Re cs) (.agg vs'.toArray):=by
   intro place hpl;let⟨vs',k1,k2⟩:=TZ (place:=place) hp L.toList ps' _ cs E g1 (λj i x hj=>by
    let⟨of,sz,q1,q2⟩:=g2 j i x hj;exact⟨of,sz,q1,by rw[hpl i (by grind),q2]⟩) hops (Cs.raws E hc) hf
   refine ⟨vs',by rw[hmap,hcells];exact k1,?_⟩;unfold Re;cases hfs:zK cs with
   |none=>exact .agg k2.1 k2.2.1 k2.2.2
   |some A=>
    have he:=nO hfs;refine .f (.agg A vs' (by rw[k2.1,he];simp) (λx hx=>k2.2.1 (.f x) (by grind)) λj x u hx I=>?_);have:=k2.2.2 j (.f x) u (by grind) I;cases this with
    |f h=>exact h
  rcases I with ⟨A,I,hall⟩|⟨n,el,sz,I,hs⟩
  .obtain⟨vs',k1,k2⟩:=fin (λi=>(A.map λf=>(f.offset,(fO P f.type).getD 0))[i]?) (λi hi=>by
    unfold E0 at hi ⊢;rw[I]at hi ⊢;simp[Array.getElem?_map]at hi ⊢;cases hf:A[i]? with
    |none=>rw[hf]at hi;simp at hi
    |some f=>
     simp[bw,aB];cases hs:fO P f.type with
     |none=>rw[hf]at hi;simp[hs]at hi
     |some sz=>simp)
   refine ⟨_,?_,k2⟩;have hm:=MG w A.toList hall;have hm':(A.mapM (λf=>do pure (f.offset,<-sizeOf f.type)):Sem (Array p?)).run P w= .ok (A.map λf=>(f.offset,(fO P f.type).getD 0)) w:=by
    rw[Array.mapM_eq_mapM_toList];simp only[Sem.run_map,hm,cQ];congr 1;apply Array.ext';simp
   unfold execOp;rw[ho];simp only[Instr.build,fB,h1,cQ,run_underlying I,hm',xg,k1]
  .obtain⟨vs',k1,k2⟩:=fin (λi=>Z (i*sz,sz)) (λi hi=>by
    unfold E0;rw[I];simp[hs])
   refine ⟨_,?_,k2⟩;have h3:=gM hs w;unfold execOp;rw[ho];simp only[Instr.build,fB,h1,cQ,run_underlying I,h3,xg,k1]
 .cases ha
end
section
variable {P:Program} {o:Oper} {e:EJ} {h:mY} {nx:Nat} {R:EG}
def uH {z:TypeId} (h:Ed P s=Z z):P.underlying s=Z (.slice z):=by
 unfold Ed at h
 grind
def oD (z:ξ):∀n,l! (repl z n)=n*l! z
 |0=>by simp[repl]
 |n+1=>by simp[repl,oD z n,jF];omega
def FP (z:ξ):∀(n j:Nat),j<n*l! z->(repl z n)[j]? =(z[j%l! z]?).map .raw
 |0,j,h=>by simp at h
 |n+1,j,h=>by
  have I:0<l! z:=by grind
  rw[repl];rcases cN j (l! z) with A|A
  .rw[b8 (by grind),bE,xh A]
  .rw[bS (by grind),bx,FP z n (j-l! z) (by grind),Nat.mod_eq_sub_mod A]
def af7 (I:v.cells.toList=E) (n sz:Nat) (L:l! E=sz) (hsz:sz≠0) (j:Nat) (hj:j<n*sz):
 ((HQ (n*sz)).map (λi=>v.cells[i%v.cells.size]!))[j]? =E[j%sz]? :=by
 have A:v.cells.size=sz:=by grind
 have hlt:j%sz<v.cells.size:=by rw[A];exact Nat.mod_lt _ (by omega)
 grind
def Cs.repl {φ:PM} {w:World} (hv:v.cells.toList=E) (n sz:Nat) (hl:l! E=sz) (hsz:sz≠0) (hc:og E=J):
 Cs φ O w ((repl E n).map .f) ((HQ (n*sz)).map (λi=>v.cells[i%v.cells.size]!)).toList:=by
 have key:∀(j:Nat) (x:AV),((AI.repl E n).map AV.f)[j]? =Z x->∃u,E[j%sz]? =Z u/\x=raw u/\j<n*sz:=by
  intro j x A;rw[bE]at A;have I:j<n*l! E:=by
   rcases cN j (n*l! E) with h|h
   .exact h
   .rw[eA (by rw[oD];exact h)]at A;cases A
  rw[FP E n j I,hl]at A;cases L:E[j%sz]? with
  |none=>rw[L]at A;cases A
  |some u=>rw[L]at A;simp at A;exact⟨u,rfl,A.symm,by rw[<- hl];exact I⟩
 refine ⟨by simp[oD,hl],λx A=>?_,λj x u A L=>?_⟩
 .obtain⟨j,I⟩:=fG A;obtain⟨u,h1,rfl,_⟩:=key j x I;exact iF.1 hc u (ba h1)
 .obtain⟨u',h1,rfl,I⟩:=key j x A;rw[c6,af7 hv n sz hl hsz j I,h1]at L;cases L;exact .f (.raw _)
def azv {L:TypeId} {A:Array H?} {ps':Y m?} (ho:o.op= .buildSlice s i A) (hu:P.underlying s=Z (.slice L)) (hz:vg P L=Z E) (hs:fO P L=Z m) (hc:og E=J) (hl:l! E=m) (hsz:m≠0) (hb:i*m<=65536)
 (hps:Al P s A.toList=Z ps') (ha:dE (.xz L m i E ps') e h nx=Z R):gC P o e.get h.get R.eff:=by
 simp[dE]at ha;split at ha
 .rename_i cs hf;simp[ah]at ha;subst ha;refine gC.makes λφ z h' w a _ hp _=>?_
  let⟨v,h1,h2,_⟩:=vI hz w;let⟨g1,g2⟩:=Ia A.toList ps' hps;have hops:∀p∈A.toList,p.2∈o.op.operands:=λp hp=>by
   rw[ho];simp only[Op.operands,List.mem_toArray,cC];exact⟨p,hp,rfl⟩
  have hmap:(A.map λx:Nat×Operand=>(x.1,a.eval x.2)).toList=A.toList.map λp=>(p.1,a.eval p.2):=by simp
  let⟨vs',k1,k2⟩:=TZ (place:=λn=>Z (n*m,m)) hp A.toList ps' _ cs _ g1 (λj n x hj=>by
   let⟨of,s',q1,q2⟩:=g2 j n x hj;unfold E0 at q2;rw[hu]at q2;simp[hs]at q2;obtain⟨rfl,rfl⟩:=q2;exact⟨_,_,q1,rfl⟩) hops (Cs.repl h2 i m hl hsz hc) hf
  have hcells:(HQ (i*m)).map ((if i*m=0 then #[] else v.cells)[·%(if i*m=0 then #[] else v.cells).size]!)=((HQ (i*m)).map (λn=>v.cells[n%v.cells.size]!)).toList.toArray:=by grind
  have hlen:l! vs'=i*m:=by
   have e1:=k2.1;have e2:l! cs=l! ((AI.repl E i).map AV.f):=by
    have:∀(ps':Y m?) (c0 c1:Y AV),Cy c0 e ps'=Z c1->l! c1=l! c0:=by
     intro ps';induction ps' with
     |nil=>intro c0 c1 h;simp[Cy,ah]at h;rw[h]
     |cons p ps' ih=>
      intro c0 c1 h;simp[Cy]at h;split at h
      .split at h
       next hcc=>rw[ih _ _ h,ny (by simp_all)]
       .cases h
      .cases h
    exact this ps' _ _ hf
   rw[e1,e2];simp[oD,hl]
  refine ⟨.slice (Z ⟨w.heap.size,0,U⟩) i i,{w with heap:=w.heap.push (.cells vs'.toArray L)},.cells vs'.toArray L (0,0),?_,tu w _,My k2,λφ' O hφ=>?_⟩
  .have h3:=gM hs w;have hk:Instr.fill (λn=>Z (n*m,m)) ((HQ (i*m)).map ((if i*m=0 then #[] else v.cells)[·%(if i*m=0 then #[] else v.cells).size]!)) (A.map λx:Nat×Operand=>(x.1,a.eval x.2)).toList=Z vs'.toArray:=by grind
   unfold execOp;rw[ho];simp only[Instr.buildSlice,fB,run_underlying hu,cQ,h3];rw[av (by omega)];by_cases h0:i*m=0
   .simp only[aC h0]at hk ⊢;simp only[fB,xg,cQ,hk,newRow,newObj,kY]
   .simp only[av h0]at hk ⊢;simp only[fB,xg,cQ,h1,hk,newRow,newObj,kY]
  .simp only[];split
   next h0=>subst h0;exact .emp
   refine .I hφ (bK _) ?_ ⟨L,?_⟩
   .have:i<=i*m:=Nat.le_mul_of_pos_right _ (by omega);unfold maxLen;omega
   .unfold tV;simp[hlen]
 .cases ha
end
def sV.wren {w':World} (r:sV T O A W) {k:Nat} {b':ko} {ob:Obj} (hb:A i=Z F) (hk:T i=Z k) (hnx:T m=U) (L:Ja W w' k ob) (hob:ii T (tot O T A) W b' ob) (nw:HF) (hnw:nw m=Z b') (hnid:nw i=U):
 ∃φ',φ' m=Z k/\jU T φ' A (fm A [m,i] nw) W w'/\(∀id k,φ' id=Z k->T id=Z k\/id∈[m])/\sV φ' O (fm A [m,i] nw) w':=by
 have hne:m≠i:=λe=>by grind
 have hsub:∀id x,fm A [m,i] nw id=Z x->id≠m->A id=Z x/\id≠i:=λid x hx hi=>by
  unfold fm at hx
  grind
 have hφ:∀id,id≠m->(if id=m then Z k else T id)=T id:=λid hi=>by simp[hi]
 have nx:jU T (λid=>if id=m then Z k else T id) A (fm A [m,i] nw) W w':=by
  refine ⟨λid k' hk'=>?_,⟨L.os,L.tape,L.output,by rw[L.size];exact bK _,λj hj ho=>?_,λj _=>L.jr j⟩,?_⟩
  .grind
  .exact L.other j (λe=>ho (e▸⟨i,F,hb,hk⟩))
  .rintro j hj ⟨id,x,h1,I⟩;by_cases hi:id=m
   .simp[hi]at I;subst I;exact⟨i,F,hb,hk⟩
   .have h3:T id=Z j:=by simpa[hi] using I
    exact⟨id,x,(hsub id x h1 hi).1,h3⟩
 refine ⟨_,by simp,nx,λid k' hk'=>?_,⟨λid j x y kk hi hj h1 I=>?_,λid x hi=>?_,λk hk=>dv (r.el k hk) nx.ext.size,λg cells hg=>nx.keepF (r.gl g cells hg)⟩⟩
 .grind
 .by_cases z:id=m
  .by_cases h:j=m
   .rw[z,h]
   .exfalso;rw[hφ j h]at I;simp[z]at h1;subst h1;let⟨q1,q2⟩:=hsub j y hj h;exact q2 (r.inj j i y F k q1 hb I hk)
  .rw[hφ id z]at h1;let⟨p1,p2⟩:=hsub id x hi z;by_cases h:j=m
   .exfalso;simp[h]at I;subst I;exact p2 (r.inj id i x F k p1 hb h1 hk)
   .rw[hφ j h]at I;exact r.inj id j x y kk p1 (hsub j y hj h).1 h1 I
 .by_cases z:id=m
  .subst z;have:x=b':=by unfold fm at hi;simp[hnw]at hi;exact hi.symm
   subst this;let⟨k',h1,I,_⟩:=r.at_ i F hb;rw[hk]at h1;cases h1;exact⟨k,by simp,I,ob,L.at_,hob.mono λ_ _ A=>nx.zj A⟩
  .obtain⟨p1,p2⟩:=hsub id x hi z;let⟨k',h1,I,ob',h3,h4⟩:=r.at_ id x p1;have hne':k'≠k:=λe=>p2 (r.inj id i x F k p1 hb (e▸h1) hk)
   exact⟨k',by rw[hφ id z];exact h1,I,ob',by rw[L.other k' hne'];exact h3,h4.mono λ_ _ A=>nx.zj A⟩
def sV.cs (hrep:sV T O A W) (hb:A i=Z F) (hk:T i=Z m) (z:F.c.isCells=J):
 ∃arr,W.heap[m]? =Z (.cells arr F.ty (0,0))/\Cs T (tot O T A) W F.c.toMx (arr.toList.take (l! F.c.toMx))/\l! F.c.toMx<=arr.size:=by
 let⟨k',h1,_,h2⟩:=hrep.at_ i F hb;rw[hk]at h1;cases h1;let⟨arr,h3,L,I⟩:=h2.cells z;rw[BC.len_toMx z]at L;refine ⟨arr,h3,⟨by simp;omega,λx h'=>?_,λj x v h' hv=>?_⟩,L⟩
 .obtain⟨j,hj⟩:=fG h';exact (I j x (by rw[BC.get_toMx z];exact hj)).1
 .obtain⟨_,u,h6,h7⟩:=I j x (by rw[BC.get_toMx z];exact h')
  grind
section
variable {P:Program} {o:Oper} {e:EJ} {h:mY} {nx:Nat} {R:EG}
def R7 (z:I6 P s=Z i):∃b,P.info? s=Z b/\b.bytes=i:=by
 unfold I6 at z;cases hi:P.info? s with
 |none=>rw[hi]at z;cases z
 |some b=>rw[hi]at z;simp at z;exact⟨b,rfl,z⟩
def Mg (h:bg i m=J):i<=1099511627776/\i*m<=1099511627776:=by
 simp[bg,al]at h;simp_all
variable {a:Int}
def aik (h1: -9223372036854775808<=a) (z:a<=9223372036854775807):qL .i64 a=a:=by
 rw[<- BR];have:(cX (-9223372036854775808) a&&cX a 9223372036854775807)=J:=by simp[cX,h1,z]
 simp[Ly,QW,this,bt]
def avd {A:TypeId} {l:Operand} (ho:o.op= .makeSlice s l c) (hu:P.underlying s=Z (.slice A)) (hz:vg P A=Z E) (hs:fO P A=Z i) (hb:I6 P A=Z m) (hc:og E=J) (hl:l! E=i) (hsz:i≠0)
 (L:dE (.zh A i m E l c) e h nx=Z R):gC P o e.get h.get R.eff:=by
 simp only[dE]at L;split at L
 .rename_i k1 n k2 bytes hx hy;split at L
  .rename_i hcd;simp only[cX,al,bu]at hcd;let⟨⟨h0,h1⟩,h2⟩:=hcd;let⟨r1,r2⟩:=Mg h2;cases L;refine gC.makes λφ z h' w a _ hp _=>?_
   have e1:=fJ (hp l _ (by rw[ho];simp[Op.operands]) hx);have e2:=fJ (hp c _ (by rw[ho];simp[Op.operands]) hy);let⟨v,z1,z2,_⟩:=vI hz w;let⟨sz,i1,i2⟩:=R7 hb;have s1:=gM hs w;have w1:qL .i64 n=n:=aik (by omega) (by omega);have w2:qL .i64 bytes=bytes:=aik (by omega) (by omega);have hbm:(m:Int)*bytes=((bytes.toNat*m:Nat):Int):=by grind
   have t1:¬(bytes<0\/(281474976710656:Int)<m*bytes):=by omega
   have hr:¬(bytes.toNat*m>roomBytes):=by unfold roomBytes;omega
   have hn0:bytes.toNat*i=0->bytes.toNat=0:=λh=>(Nat.mul_eq_zero.1 h).resolve_right hsz
   let cells:Array Value:=(HQ (bytes.toNat*i)).map (λsz=>v.cells[sz%v.cells.size]!)
   refine ⟨.slice (Z ⟨w.heap.size,0,U⟩) n.toNat bytes.toNat,{w with heap:=w.heap.push (.cells cells A)},.cells cells A (0,0),?_,tu w _,?_,λφ' O hφ=>?_⟩
   .unfold execOp;rw[ho];by_cases hm0:bytes.toNat*i=0
    .obtain rfl:bytes=0:=by have:=hn0 hm0;omega
     simp[Instr.makeSlice,run_underlying hu,e1,e2,asInt,asIntOf,typeInfo,i1,w1,askRoom,s1,newRow,newObj,kY,cells]
     grind
    .simp[Instr.makeSlice,run_underlying hu,e1,e2,asInt,asIntOf,typeInfo,i1,i2,w1,w2,t1,show ¬n<0 by omega,show ¬bytes<n by omega,askRoom,hr,s1,hm0,z1,newRow,newObj,kY,cells]
   .have cs:=Cs.repl (φ:=φ) (O:=tot z φ h') (w:=w) z2 bytes.toNat i hl hsz hc;have hle:n.toNat<=bytes.toNat:=by omega
    have hlen:n.toNat*i<=bytes.toNat*i:=cw _ hle;refine sa rfl (by simp[BC.toMx,oD,hl,cells];exact hlen) λj x hx=>?_
    simp only[BC.toMx,bE]at hx;have hj:j<n.toNat*l! E:=by
     rcases cN j (n.toNat*l! E) with h|h
     .exact h
     .rw[eA (by rw[oD];exact h)]at hx;cases hx
    have hj2:j<bytes.toNat*l! E:=by grind
    rw[FP E _ j hj,<-FP E bytes.toNat j hj2]at hx;have hx2:((repl E bytes.toNat).map AV.f)[j]? =Z x:=by grind
    have hj3:j<l! cells.toList:=by grind
    exact⟨cs.2.1 x (ba hx2),cells.toList[j],by rw[<- c6];exact aF hj3,cs.2.2 j x _ hx2 (aF hj3)⟩
   .refine .I hφ (by omega) (by unfold maxLen;omega) ⟨A,?_⟩;unfold tV;simp[cells]
  .cases L
 .cases L
def ar6 {y:Operand} (ho:o.op= .store s c y) (hs:fO P s=Z i) (z:dE (.store i c y) e h nx=Z R):gC P o e.get h.get R.eff:=by
 simp only[dE]at z;split at z
 .rename_i p v hx hy;unfold CV at z;split at z
  .rename_i id off;split at z
   .rename_i b hb;split at z
    .rename_i hl;split at z
     .rename_i c' hput;cases z;unfold BC.put at hput;split at hput
      .rename_i hcc;simp only[al]at hcc;let⟨⟨c1,c2⟩,c3⟩:=hcc;have c2:=aY c2;have hl:l! v.cs=i:=by simpa using hl
       have I:c'.toMx=splice b.c.toMx off v.cs/\c'.isCells=J:=by
        split at hput
        next l ys hbl hys=>cases hput;refine ⟨?_,rfl⟩;have hv:=nO hys;rw[hv,hbl];simp only[BC.toMx];unfold splice;simp_all
        .cases hput;exact⟨rfl,rfl⟩
       refine gC.writes hb λφ E h' w a hrd hb' hp hrep=>?_
       have hr:=aa8 (hp y _ (by rw[ho];simp[Op.operands]) hy) c3;have hpx:=hp c _ (by rw[ho];simp[Op.operands]) hx;generalize hz:a.eval c=pv at hpx;cases hpx with
       |@K _ _ k hφ=>
        let⟨arr,g1,g2,g3⟩:=hrep.cs hb' hφ c1;have hvl:(a.eval y).cells.toList.length=i:=by rw[hr.1];exact hl
        rw[BC.len_toMx c1]at c2;have hst:=run_storeCells_at (P:=P) k off b.ty (a.eval y).cells.toList 0 arr w g1 (by rw[hvl];omega) hr.one
        let arr':Array Value:=(arr.toList.take off++(a.eval y).cells.toList++arr.toList.drop (off+i)).toArray
        have hsize:arr'.size=arr.size:=by grind
        refine ⟨.skip,w.setRow k arr',k,.cells arr' b.ty (0,0),?_,hφ,Ja.setRow g1 hsize,?_,undef,.inr ⟨rfl,rfl⟩,.f (.raw _)⟩
        .have s1:=gM hs w;have hvs:(a.eval y).cells.size=i:=by simpa using hvl
         simp only[dQ,hvl]at hst;unfold execOp;rw[ho];simp[Instr.storeAt,hz,Instr.sureAddr,storeVar,s1,hvs,hst,arr']
        .refine sa I.2 (by rw[I.1,ny (by omega),hsize];exact g3) λj q A=>?_
         rw[I.1,oA (by omega)]at A;have ha':arr'[j]? =if j<off then arr.toList[j]? else if j<off+i then (a.eval y).cells.toList[j-off]? else arr.toList[j]? :=by
          have:=oA (l:=arr.toList) (vs:=(a.eval y).cells.toList) (off:=off) (by grind) j;unfold splice at this
          grind
         have old:b.c.toMx[j]? =Z q->q.isCell=J/\∃u,arr.toList[j]? =Z u/\ch φ (tot E φ h') w q u:=λA=>by
          have hj:j<l! b.c.toMx:=(bz.1 A).1;have hj2:j<l! arr.toList:=by simp;omega
          refine ⟨g2.2.1 q (ba A),arr.toList[j],aF hj2,g2.2.2 j q _ A ?_⟩
          grind
         rw[ha'];by_cases h1:j<off
         .grind
         .rw[av h1]at A ⊢;by_cases h2:j<off+i
          .rw[aC (by omega)]at A;rw[aC h2];have L:j-off<(a.eval y).cells.toList.length:=by omega
           exact⟨hr.2.1 q (ba A),_,aF L,hr.2.2 _ q _ A (aF L)⟩
          .grind
      .cases hput
     .cases z
    .cases z
   .cases z
  .cases z
 .cases z
end
section
variable {P:Program} {o:Oper} {e:EJ} {h:mY} {nx:Nat} {R:EG}
def av7 (A:Addr):A.add 0=A:=by cases A;simp[Addr.add]
def azc {el:TypeId} {lo hi mx:M Operand} (ho:o.op= .slice s c lo hi mx) (hu:P.underlying s=Z (.slice el)) (hs:fO P el=Z i) (L:dE (.slc i c lo hi mx) e h nx=Z R):gC P o e.get h.get R.eff:=by
 simp only[dE]at L;split at L
 .rename_i v hx;split at L
  ·
   rename_i b;split at L
   .rename_i id sz' n k j hb;split at L
    .rename_i hc;simp only[cX,al,bu,cU]at hc;obtain⟨⟨rfl,h0⟩,h1⟩:=hc;split at L
     .rename_i blk hblk;split at L
      .rename_i hcl;simp only[al]at hcl;obtain⟨hcells,hlen⟩:=hcl;have hlen:=aY hlen;rw[BC.len_toMx hcells]at hlen;cases L;intro φ E h' w a g1 g2 g3 hrep g5;have hp:Rel φ E h' w a e o:=λc y hx hy=>xE hrep g3 hx hy
       have hb':h' id=Z blk:=by rw[g1 id (by simp[EG.eff])];exact hblk
       have hr:=hp c _ (by rw[ho];simp[Op.operands]) hx;have hbv:=fJ (hp b _ (by rw[ho];simp[Op.operands]) hb);have hnx:φ nx=U:=g5 nx (by simp[EG.eff]);generalize hz:a.eval c=z at hr;cases hr with
       |@I _ _ _ x q hφ hn hcap hsh=>
        obtain⟨arr,a1,a2,a3⟩:=hrep.cs hb' hφ hcells;have s1:=gM hs w;have hne:nx≠id:=λe=>by rw[e,hφ]at hnx;cases hnx
        have hnw1:jP [(nx,⟨blk.ty,oO (blk.c.toMx.take (j.toNat*sz'))⟩)] nx=Z (⟨blk.ty,oO (blk.c.toMx.take (j.toNat*sz'))⟩:ko):=by simp[jP]
        have hnw2:jP [(nx,⟨blk.ty,oO (blk.c.toMx.take (j.toNat*sz'))⟩)] id=U:=by
         simp only[jP];rw[av];intro hb;exact hne (au hb)
        have a4:=a2.take (j.toNat*sz');obtain⟨φ',p1,p2,p3,p4⟩:=hrep.wren hb' hφ hnx (w':=w) ⟨rfl,rfl,rfl,rfl,a1,λ_ _=>rfl,λ_=>rfl⟩ (b':=⟨blk.ty,oO (blk.c.toMx.take (j.toNat*sz'))⟩) (by
         obtain⟨q1,q2⟩:=nK (blk.c.toMx.take (j.toNat*sz'));refine sa q2 (by rw[q1,bR];omega) λsz c hx=>?_
         rw[q1]at hx;have hi:sz<l! ((arr.toList.take (l! blk.c.toMx)).take (j.toNat*sz')):=by rw[a4.1];exact (bz.1 hx).1
         refine ⟨a4.2.1 c (ba hx),_,?_,a4.2.2 sz c _ hx (aF hi)⟩;have hi':sz<arr.size:=by simp at hi;omega
         simp[hi']) _ hnw1 hnw2
        have hrun:(execOp a.eval o).run P w= .ok (.value (.slice (Z ⟨q,0,U⟩) j.toNat x)) w:=by
         unfold execOp;rw[ho];simp[kr,ol,run_underlying hu,hz,gg,gH,asIntOf,s1,hbv,h0,show j<=x by omega,kE]
        unfold Lv;rw[hrun];exact⟨_,φ',rfl,p2,p3,p4,.I p1 (by omega) hcap hsh⟩
      .cases L
     .cases L
    .cases L
   .rename_i cells n k j hb;split at L
    .rename_i hc;simp only[cX,al,bu]at hc;obtain⟨⟨h0,h1⟩,h2⟩:=hc;have h2:=aY h2;rw[dx L];refine gC.reads λφ E h' w a _ hp _=>?_
     have hr:=hp c _ (by rw[ho];simp[Op.operands]) hx;have hbv:=fJ (hp b _ (by rw[ho];simp[Op.operands]) hb);generalize hz:a.eval c=z at hr;have s1:=gM hs w;cases hr with
     |f hr=>
      cases hr with
      |nil A x hc=>
       have hj:j=0:=by omega
       subst hj;refine ⟨.slice A 0 x,?_,by simpa using ch.f (.nil A x hc)⟩;unfold execOp;rw[ho];cases A<;>simp[kr,ol,run_underlying hu,hz,gg,gH,asIntOf,s1,hbv,av7]
      |sl _ _ x q off us hn hc hO hq hcl hu' hr=>
       refine ⟨.slice (Z ⟨q,off,U⟩) j.toNat x,?_,.f (.sl _ _ _ _ _ us (by omega) hc hO hq (λy hy=>hcl y (il hy)) (λsz hi=>hu' sz (by rw[bR]at hi;omega)) λsz y hy=>?_)⟩
       .unfold execOp;rw[ho];simp[kr,ol,run_underlying hu,hz,gg,gH,asIntOf,s1,hbv,h0,show j<=x by omega,kE]
       .rw[fd]at hy;split at hy
        .exact hr sz y hy
        .cases hy
    .cases L
   .cases L
  ·
   rename_i b;split at L
   .rename_i id sz' n k j hb;split at L
    .rename_i hc;simp only[cX,gI,al,bu,cU]at hc;obtain⟨⟨rfl,h0⟩,h1⟩:=hc;rw[dx L];refine gC.reads λφ E h' w a _ hp _=>?_
     have hr:=hp c _ (by rw[ho];simp[Op.operands]) hx;have hbv:=fJ (hp b _ (by rw[ho];simp[Op.operands]) hb);generalize hz:a.eval c=z at hr;cases hr with
     |@I _ _ _ x q hφ hn hc hsh=>
      have s1:=gM hs w;refine ⟨.slice (Z ⟨q,0+j.toNat*sz',U⟩) (n-j.toNat) (x-j.toNat),?_,?_⟩
      .unfold execOp;rw[ho];simp[kr,ol,run_underlying hu,hz,gg,gH,asIntOf,s1,hbv,h0,show j<=n by omega,show ¬x=j.toNat by omega,kE]
      .rw[bZ];exact .sl hφ (by omega) (by omega)
    .cases L
   .rename_i cells n k j hb;split at L
    .rename_i hc;simp only[cX,al,bu]at hc;obtain⟨⟨h0,h1⟩,h2⟩:=hc;have h2:=aY h2;rw[dx L];refine gC.reads λφ E h' w a _ hp _=>?_
     have hr:=hp c _ (by rw[ho];simp[Op.operands]) hx;have hbv:=fJ (hp b _ (by rw[ho];simp[Op.operands]) hb);generalize hz:a.eval c=z at hr;have s1:=gM hs w;cases hr with
     |f hr=>
      cases hr with
      |nil A x hc=>
       have hj:j=0:=by omega
       subst hj;have hex:∃A',(execOp a.eval o).run P w= .ok (.value (.slice A' 0 x)) w:=by
        unfold execOp;rw[ho];cases A with
        |none=>exact⟨U,by simp[kr,ol,run_underlying hu,hz,gg,gH,asIntOf,s1,hbv]⟩
        |some A=>exact⟨Z A,by simp[kr,ol,run_underlying hu,hz,gg,gH,asIntOf,s1,hbv,av7]⟩
       obtain⟨A',hex⟩:=hex;exact⟨.slice A' 0 x,hex,by simpa using ch.f (.nil A' x hc)⟩
      |sl _ _ x q off us hn hc hO hq hcl hu' hr=>
       by_cases hcj:x=j.toNat
       .refine ⟨.slice (Z ⟨q,off,U⟩) 0 0,?_,?_⟩
        .unfold execOp;rw[ho];simp[kr,ol,run_underlying hu,hz,gg,gH,asIntOf,s1,hbv,h0,show j<=n by omega,hcj,show n-j.toNat=0 by omega,kE]
        .rw[show n-j.toNat=0 by omega];simpa using ch.f (.nil (Z ⟨q,off,U⟩) 0 (by unfold maxLen;omega))
       .refine ⟨.slice (Z ⟨q,off+j.toNat*i,U⟩) (n-j.toNat) (x-j.toNat),?_,.f (.sl _ _ _ _ _ (λsz=>us (j.toNat*i+sz)) (by omega) (by omega) hO hq (λy hy=>hcl y (List.mem_of_mem_drop (il hy))) (λsz hi=>?_) λsz y hy=>?_)⟩
        .unfold execOp;rw[ho];simp[kr,ol,run_underlying hu,hz,gg,gH,asIntOf,s1,hbv,h0,show j<=n by omega,hcj,kE]
        .rw[jA];refine hu' _ ?_;rw[bR,lI]at hi;omega
        .rw[fd]at hy;split at hy
         .rw[lJ]at hy;exact hr _ y hy
         .cases hy
    .cases L
   .cases L
  ·
   rename_i b b';split at L
   .rename_i cells n k j k' m hb hb';split at L
    .rename_i hc;simp only[cX,al,bu]at hc;obtain⟨⟨⟨h0,h1⟩,h3⟩,h2⟩:=hc;have h2:=aY h2;rw[dx L];refine gC.reads λφ E h' w a _ hp _=>?_
     have hr:=hp c _ (by rw[ho];simp[Op.operands]) hx;have hbv:=fJ (hp b _ (by rw[ho];simp[Op.operands]) hb);have hbv':=fJ (hp b' _ (by rw[ho];simp[Op.operands]) hb');generalize hz:a.eval c=z at hr;have s1:=gM hs w;cases hr with
     |f hr=>
      cases hr with
      |nil A x hc=>
       have hj:j=0:=by omega
       have hm:m=0:=by omega
       subst hj hm;have hex:∃A',(execOp a.eval o).run P w= .ok (.value (.slice A' 0 x)) w:=by
        unfold execOp;rw[ho];cases A with
        |none=>exact⟨U,by simp[kr,ol,run_underlying hu,hz,gg,gH,asIntOf,s1,hbv,hbv']⟩
        |some A=>exact⟨Z A,by simp[kr,ol,run_underlying hu,hz,gg,gH,asIntOf,s1,hbv,hbv',av7]⟩
       obtain⟨A',hex⟩:=hex;exact⟨.slice A' 0 x,hex,by simpa using ch.f (.nil A' x hc)⟩
      |sl _ _ x q off us hn hc hO hq hcl hu' hr=>
       have hjm:j.toNat<=m.toNat:=by omega
       have hmn:m.toNat<=n:=by omega
       by_cases hcj:x=j.toNat
       .refine ⟨.slice (Z ⟨q,off,U⟩) 0 0,?_,?_⟩
        .unfold execOp;rw[ho];simp[kr,ol,run_underlying hu,hz,gg,gH,asIntOf,s1,hbv,hbv',h0,h1,show m<=x by omega,hcj,show m.toNat-j.toNat=0 by omega,kE];rw[aC (by omega),aC (by omega)]
        .rw[show m.toNat-j.toNat=0 by omega];simpa using ch.f (.nil (Z ⟨q,off,U⟩) 0 (by unfold maxLen;omega))
       .refine ⟨.slice (Z ⟨q,off+j.toNat*i,U⟩) (m.toNat-j.toNat) (x-j.toNat),?_,.f (.sl _ _ _ _ _ (λsz=>us (j.toNat*i+sz)) (by omega) (by omega) hO hq (λy hy=>hcl y (List.mem_of_mem_drop (il hy))) (λsz hi=>?_) λsz y hy=>?_)⟩
        .unfold execOp;rw[ho];simp[kr,ol,run_underlying hu,hz,gg,gH,asIntOf,s1,hbv,hbv',h0,h1,show m<=x by omega,show 0<=m by omega,show max m 0=m by omega,hcj,kE]
        .rw[jA];refine hu' _ ?_;rw[bR,lI]at hi;omega
        .rw[fd]at hy;split at hy
         .rw[lJ]at hy;exact hr _ y hy
         .cases hy
    .cases L
   .cases L
  .cases L
 .cases L
def aja {rd:ι} (hrow:y.row? h i=Z (r,m,rd)) (hrd:∀sz∈rd,A sz=h.get sz) (hrep:sV T O A W) (hr:ch T (tot O T A) W y v):
 ∃h' c vs,v= .slice h' m c/\Cs T (tot O T A) W r vs/\l! vs=m*i/\(h'=U->vs=[])/\(∀ad,h'=Z ad->∀(j:Nat) u,vs[j]? =Z u->W.cell? (ad.add j)=Z u):=by
 have emp:∀h' c,v= .slice h' 0 c->r=[]->m=0->∃h' c vs,v= .slice h' m c/\Cs T (tot O T A) W r vs/\l! vs=m*i/\(h'=U->vs=[])/\(∀ad,h'=Z ad->∀(j:Nat) u,vs[j]? =Z u->W.cell? (ad.add j)=Z u):=by
  rintro h' c rfl rfl rfl;exact⟨h',c,[],rfl,⟨rfl,(by intro y z;cases z),(by intro j y v z;simp at z)⟩,by simp,λ_=>rfl,by intro ad _ j u L;simp at L⟩
 have own:∀(id off n c k:Nat) (b:ko),T id=Z k->A id=Z b->b.c.isCells=J->off+n*i<=b.c.len->v= .slice (Z ⟨k,off,U⟩) n c->r=(b.c.toMx.drop off).take (n*i)->m=n->
  ∃h' c vs,v= .slice h' m c/\Cs T (tot O T A) W r vs/\l! vs=m*i/\(h'=U->vs=[])/\(∀ad,h'=Z ad->∀(j:Nat) u,vs[j]? =Z u->W.cell? (ad.add j)=Z u):=by
  rintro id off n c k b hφ hb hc hle rfl rfl rfl;let⟨arr,g1,g2,g3⟩:=hrep.cs hb hφ hc;rw[BC.len_toMx hc]at hle;refine ⟨_,c,((arr.toList.take (l! b.c.toMx)).drop off).take (m*i),rfl,(g2.drop off).take _,?_,nofun,?_⟩
  .simp;omega
  .intro ad had j u L;cases had;rw[kE];rw[fd]at L;split at L
   .rw[lJ,fd]at L;split at L
    .rw[c6]at L;simp[Sj,g1,L]
    .cases L
   .cases L
 unfold AV.row? at hrow;split at hrow
 .rename_i cells n;split at hrow
  .rename_i hle;have hle:=aY hle;simp only[ah,aQ]at hrow;obtain⟨rfl,rfl,rfl⟩:=hrow;cases hr with
   |f hr=>
    cases hr with
    |nil a c hc=>exact emp a c rfl (by simp) rfl
    |sl _ _ c b off us hn hc hO hb hcl L hr=>
     refine ⟨_,c,(dA (n*i)).map us,rfl,⟨by simp;omega,λy z=>?_,λj y u z hu'=>?_⟩,by simp,nofun,?_⟩
     .obtain⟨x,hy,rfl⟩:=cC.1 z;exact hcl x (il hy)
     .obtain⟨rfl,hj⟩:=AF us _ _ _ hu';rw[bE,fd,aC hj]at z;cases hq:cells[j]? with
      |none=>rw[hq]at z;cases z
      |some q=>rw[hq]at z;simp at z;subst z;exact .f (hr j q hq)
     .intro ad had j u hu';cases had;obtain⟨rfl,hj⟩:=AF us _ _ _ hu';rw[kE];exact L j (by omega)
  .cases hrow
 .simp only[ah,aQ]at hrow;obtain⟨rfl,rfl,rfl⟩:=hrow;exact emp U 0 (fJ hr) rfl rfl
 .simp only[ah,aQ]at hrow;obtain⟨rfl,rfl,rfl⟩:=hrow;cases hr with
  |@emp a=>exact emp a 0 rfl rfl rfl
 .rename_i id sz' n;split at hrow
  .rename_i hsz;split at hrow
   .rename_i b hb;split at hrow
    .rename_i hc;simp only[al]at hc;simp only[ah,aQ]at hrow;obtain⟨rfl,rfl,rfl⟩:=hrow;cases hr with
     |@I _ _ _ c k hφ hn hc' hsh=>
      exact own id 0 n c k b hφ (by rw[hrd id (by simp)];exact hb) hc.1 (by simp_all) rfl (by simp) rfl
    .cases hrow
   .cases hrow
  .cases hrow
 .rename_i id off n;split at hrow
  .rename_i b hb;split at hrow
   .rename_i hc;simp only[al]at hc;simp only[ah,aQ]at hrow;obtain⟨rfl,rfl,rfl⟩:=hrow;cases hr with
    |@sl _ _ _ c k hφ hn hc'=>exact own id off n c k b hφ (by rw[hrd id (by simp)];exact hb) hc.1 (aY hc.2) rfl rfl rfl
   .cases hrow
  .cases hrow
 .cases hrow
def aof {rd:ι} (hrow:y.row? h i=Z (r,m,rd)) (hrd:∀sz∈rd,A sz=h.get sz) (hrep:sV T O A W) (hr:ch T (tot O T A) W y v) {L:TypeId} (I:P.underlying s=Z (.slice L)):
 ∃vs,Src P i s v m vs W/\Cs T (tot O T A) W r vs:=by
 obtain⟨h',c,vs,rfl,h1,h2,h3,h4⟩:=aja hrow hrd hrep hr;refine ⟨vs,?_,h1⟩;cases h' with
 |none=>
  have:=h3 rfl;subst this;have hm:m*i=0:=by grind
  refine ⟨.inl ⟨L,I⟩,λ_=>rfl,run_firstCells_none W i m m c,run_firstCells_none W.drew i m m c,by simp[hm],λ_ h=>by cases h⟩
 |some ad=>exact Src.ofSlice W I ad m c vs h2 (h4 ad rfl) h1.one
def ak9 :∀{l:ι},mem i l=J↔i∈l
 |[]=>by simp[mem]
 |y::r=>by
  simp[mem,mZ,ak9 (l:=r),bh];constructor
  .rintro (h|h)
   .simp_all
   .exact .inr h
  .rintro (h|h)
   .simp_all
   .exact .inr h
def avi {u el el':TypeId} {x:Operand} (ho:o.op= .call {callee:=.builtin .copy,args:=#[c,x],argTypes:=#[s,u]}) (hu:P.underlying s=Z (.slice el)) (hu':P.underlying u=Z (.slice el')) (hs:fO P el=Z i) (z:dE (.copy i c x) e h nx=Z R):gC P o e.get h.get R.eff:=by
 simp only[dE]at z;split at z
 .rename_i id sz' n y hd hx;split at z
  .rename_i blk src m rd hblk hrow;split at z
   .rename_i hc;simp only[al,cU,cS]at hc;obtain⟨⟨rfl,hmem⟩,hlen⟩:=hc;split at z
    .rename_i c' hput;cases z;unfold BC.put at hput;split at hput
     .rename_i hcc;simp only[al]at hcc;let⟨⟨c1,c2⟩,c3⟩:=hcc;have c2:=aY c2;rw[bZ]at c2;have hc':c'.toMx=splice blk.c.toMx 0 (src.take (lQ m n*sz'))/\c'.isCells=J:=by
       split at hput
       next l ys hbl hys=>cases hput;refine ⟨?_,rfl⟩;have hv:=nO hys;rw[hv,hbl];simp only[BC.toMx];unfold splice;simp[gF,zY]
       .cases hput;exact⟨rfl,rfl⟩
      refine gC.writes hblk λφ E h' w a hrd hb' hp hrep=>?_
      have hpd:=hp c _ (by rw[ho];simp[Op.operands,eT]) hd;have hpx:=hp x _ (by rw[ho];simp[Op.operands,eT]) hx;let⟨A,d,vs,hv,q1,q2,q3,q4⟩:=aja hrow (λsz hi=>hrd sz (by simp[hi])) hrep hpx;generalize hz:a.eval c=pv at hpd;cases hpd with
      |@I _ _ _ cap k hφ hn hcap hsh=>
       let⟨arr,g1,g2,g3⟩:=hrep.cs hb' hφ c1;rw[BC.len_toMx c1]at c2;have hmn:lQ m n<=m:=Nat.min_le_left _ _;have hle:lQ m n*sz'<=m*sz':=cw _ hmn
       let ns:=vs.take (lQ m n*sz')
       have hnl:l! ns=lQ m n*sz':=by simp only[ns,bR,q2];omega
       have hsl:l! (src.take (lQ m n*sz'))=lQ m n*sz':=by rw[bR,<-q1.1,q2];omega
       have csn:=q1.take (lQ m n*sz');rw[hsl]at c2;have hst:=run_storeCells_at (P:=P) k 0 blk.ty ns 0 arr w g1 (by rw[hnl];omega) csn.one
       let arr':Array Value:=(arr.toList.take 0++ns++arr.toList.drop (0+lQ m n*sz')).toArray
       have hsize:arr'.size=arr.size:=by simp only[arr',C5,bH,bR,lI,Array.length_toList,hnl];omega
       have hfc:(Po sz' (lQ m n) (.slice A m d)).run P w= .ok ns.toArray w:=by
        cases A with
        |none=>
         have:ns=[]:=by simp[ns,q3 rfl]
         rw[this];exact run_firstCells_none w sz' _ _ _
        |some ad=>exact run_firstCells_some w sz' _ ad m d ns hnl (λj u hu=>q4 ad rfl j u (by
          simp only[ns,fd]at hu;split at hu
          .exact hu
          .cases hu))
       refine ⟨.value (.int .i64 (lQ m n)),w.setRow k arr',k,.cells arr' blk.ty (0,0),?_,hφ,Ja.setRow g1 hsize,?_,_,.inl rfl,.f (.raw _)⟩
       .have s1:=gM hs w;simp only[dQ,hnl]at hst;unfold execOp;rw[ho];simp[resolve,invoke,builtin,Builtin.copy_,run_underlying hu,hz,hv,Builtin.lenOf,s1,hfc,hst,goInt,arr']
       .refine sa hc'.2 (by rw[hc'.1,ny (by rw[hsl];omega),hsize];exact g3) λj q L=>?_
        rw[hc'.1,oA (by rw[hsl];omega)]at L;have ha':arr'[j]? =if j<0 then arr.toList[j]? else if j<0+l! ns then ns[j-0]? else arr.toList[j]? :=by grind
        rw[ha',av (by omega)];rw[av (by omega),hsl]at L;rw[hnl];by_cases h2:j<0+lQ m n*sz'
        .rw[aC h2]at L ⊢;have hj3:j-0<l! ns:=by rw[hnl];omega
         exact⟨csn.2.1 q (ba L),_,aF hj3,csn.2.2 _ q _ L (aF hj3)⟩
        .rw[av h2]at L ⊢;have hj:j<l! blk.c.toMx:=(bz.1 L).1;have hj2:j<l! arr.toList:=by simp;omega
         refine ⟨g2.2.1 q (ba L),arr.toList[j],aF hj2,g2.2.2 j q _ L ?_⟩;rw[fd,aC hj,aF hj2]
     .cases hput
    .cases z
   .cases z
  .cases z
 .cases z
def azu {el:TypeId} (ho:o.op= .call {callee:=.builtin .clear,args:=#[c],argTypes:=#[s]}) (hu:P.underlying s=Z (.slice el)) (hz:vg P el=Z E) (hc:og E=J) (hl:l! E=i) (hsz:i≠0) (I:dE (.clr i E c) e h nx=Z R):gC P o e.get h.get R.eff:=by
 simp only[dE]at I;split at I
 .rename_i id off n hx;split at I
  .rename_i blk hblk;split at I
   .rename_i hn;have hn:=aY hn;obtain⟨m,rfl⟩:∃m,n=m+1:=⟨n-1,by omega⟩
    split at I
    .rename_i c' hput;cases I;unfold BC.put at hput;split at hput
     .rename_i hcc;simp only[al]at hcc;let⟨⟨c1,c2⟩,c3⟩:=hcc;have c2:=aY c2;have hsrc:l! ((repl E (m+1)).map AV.f)=(m+1)*i:=by rw[bx,oD,hl]
      rw[hsrc]at c2;have hc':c'.toMx=splice blk.c.toMx off ((repl E (m+1)).map AV.f)/\c'.isCells=J:=by
       split at hput
       next l ys hbl hys=>cases hput;refine ⟨?_,rfl⟩;have hv:=nO hys;rw[hv,hbl];simp only[BC.toMx];unfold splice;simp[gF,zY]
       .cases hput;exact⟨rfl,rfl⟩
      refine gC.writes hblk λφ z h' w a hrd hb' hp hrep=>?_
      have hpx:=hp c _ (by rw[ho];simp[Op.operands,eT]) hx;generalize hzv:a.eval c=pv at hpx;cases hpx with
      |@sl _ _ _ cap k hφ hn2 hcap=>
       let⟨arr,g1,g2,g3⟩:=hrep.cs hb' hφ c1;rw[BC.len_toMx c1]at c2;let⟨v,z1,z2,_⟩:=vI hz w;have csn:=Cs.repl (φ:=φ) (O:=tot z φ h') (w:=w) z2 (m+1) i hl hsz hc
       let ns:=(mD v.cells (m+1)).toList
       have hvs:v.cells.size=i:=by rw[<- hl,<-z2];simp
       have hns:ns=((HQ ((m+1)*i)).map (λsz=>v.cells[sz%v.cells.size]!)).toList:=by simp only[ns,mD,hvs]
       have hnl:l! ns=(m+1)*i:=by rw[hns];simp
       rw[<- hns]at csn;have hst:=run_storeCells_at (P:=P) k off blk.ty ns 0 arr w g1 (by rw[hnl];omega) csn.one
       let arr':Array Value:=(arr.toList.take (off+0)++ns++arr.toList.drop (off+0+l! ns)).toArray
       have hsize:arr'.size=arr.size:=by grind
       refine ⟨.value (.tuple #[]),w.setRow k arr',k,.cells arr' blk.ty (0,0),?_,hφ,Ja.setRow g1 hsize,?_,_,.inl rfl,.qp (vs:=[]) rfl λj y v hy=>by simp at hy⟩
       .unfold execOp;rw[ho];have hst2:(storeCells ⟨k,off,U⟩ (mD v.cells (m+1)).toList).run P w= .ok () (w.setRow k arr'):=hst;simp[resolve,invoke,builtin,Builtin.clear_,run_underlying hu,hzv,z1,hst2]
       .refine sa hc'.2 (by rw[hc'.1,ny (by rw[hsrc];omega),hsize];exact g3) λj q A=>?_
        rw[hc'.1,oA (by rw[hsrc];omega)]at A;have ha':arr'[j]? =if j<off then arr.toList[j]? else if j<off+l! ns then ns[j-off]? else arr.toList[j]? :=by
         have:=oA (l:=arr.toList) (vs:=ns) (off:=off) (by grind) j;unfold splice at this
         grind
        rw[ha'];rw[hsrc]at A;rw[hnl];by_cases h1:j<off
        .rw[aC h1]at A ⊢;have hj:j<l! blk.c.toMx:=(bz.1 A).1;have L:j<l! arr.toList:=by simp;omega
         refine ⟨g2.2.1 q (ba A),arr.toList[j],aF L,g2.2.2 j q _ A ?_⟩
         grind
        rw[av h1]at A ⊢;by_cases h2:j<off+(m+1)*i
        .rw[aC h2]at A ⊢;have hj3:j-off<l! ns:=by rw[hnl];omega
         exact⟨csn.2.1 q (ba A),_,aF hj3,csn.2.2 _ q _ A (aF hj3)⟩
        .rw[av h2]at A ⊢;have hj:j<l! blk.c.toMx:=(bz.1 A).1;have L:j<l! arr.toList:=by simp;omega
         refine ⟨g2.2.1 q (ba A),arr.toList[j],aF L,g2.2.2 j q _ A ?_⟩
         grind
     .cases hput
    .cases I
   .cases I
  .cases I
 .cases I
end
def QX (w:World) (ob:Obj):Yp w (w.drew.alloc ob) ob:=Yp.drawn (w.drawn+1) (tu {w with drawn:=w.drawn+1} ob)
section
variable {P:Program} {o:Oper} {e:EJ} {h:mY} {nx:Nat} {R:EG}
def L6 (A:v.cells.toList=E) (I:l! E=i) (n:Nat):(mD v.cells n).size=n*i:=by
 have:v.cells.size=i:=by grind
 simp[mD,this]
def Yd {u L:TypeId} {t:Operand} {i:TypeInfo} (ho:o.op= .call {callee:=.builtin .append,args:=#[t,c],argTypes:=#[s,u]}) (hu:P.underlying s=Z (.slice L)) (i1:P.info? L=Z i) (hz:vg P L=Z E) (hzl:l! E=i.size)
 {z:Nat->Prop} (hrep:sV T z A W) (hnx:T nx=U) {h':M Addr} {n cap:Nat} {olds vs:ξ} {oldA:Y AV} (hsl:N.eval t= .slice h' n cap)
 (hold:(Po i.size n (.slice h' n cap)).run P W.drew= .ok olds.toArray W.drew) (csold:Cs T (tot z T A) W oldA olds) (hol:l! olds=n*i.size) (hsrc:Src P i.size u (N.eval c) m vs W) (hcs:Cs T (tot z T A) W r vs)
 (hg:cap<n+m) (r1:n+m<=1099511627776) (r2:(n+m)*i.bytes<=1099511627776) (del:ι) (hdel:∀j∈del,j≠nx):
 o.wp P N W (λa' w'=>∃v φ',a'=N.put o.dst v/\jU T φ' A (fm A (nx::del) (jP [(nx,⟨L,oO (oldA++r)⟩)])) W w'/\(∀i k,φ' i=Z k->T i=Z k\/i∈[nx])/\
  sV φ' z (fm A (nx::del) (jP [(nx,⟨L,oO (oldA++r)⟩)])) w'/\ch φ' (tot z φ' (fm A (nx::del) (jP [(nx,⟨L,oO (oldA++r)⟩)]))) w' (.I nx i.size (n+m)) v) (λ_ _ _=>False):=by
 let⟨zv,z1,z2,i',i1',z3⟩:=vI hz W;rw[i1]at i1';cases i1';have hfb:=growslice_fits (need:=n+m) (old:=cap) (bytes:=i.bytes) hg (by omega);have hrun:=run_append_grow_src W s u o.type L i zv hu i1 z3 h' n cap olds hold (N.eval c) m vs hsrc hg (by omega) hfb;have hgc:=grownCap_ge W (n+m) cap L;have hgm:=grownCap_le_maxLen W (n+m) cap L (by unfold maxLen;omega);generalize grownCap W (n+m) cap L=Gc at hrun hgc hgm;have cs:=csold.append hcs;have hnl:=hsrc.newsLen;let⟨φ',p1,p2,p3,p4⟩:=hrep.wnew hnx (QX W _) (b:=⟨L,oO (oldA++r)⟩) (ob:=.cells ((olds++vs).toArray++mD zv.cells (Gc-(n+m))) L (0,0)) (by
  let⟨q1,q2⟩:=nK (oldA++r);refine sa q2 (by rw[q1,<-cs.1];simp) λj q hq=>?_
  rw[q1]at hq;have hj:j<l! (olds++vs):=by rw[cs.1];exact (bz.1 hq).1
  refine ⟨cs.2.1 q (ba hq),_,?_,cs.2.2 j q _ hq (aF hj)⟩;rw[Array.getElem?_append_left (by omega),List.getElem?_toArray,aF hj]) del (jP [(nx,⟨L,oO (oldA++r)⟩)]) (by simp[jP]) (λj hj hne=>by
   simp only[jP];rw[av];intro hb;exact hne (au hb).symm)
 have hexec:(execOp N.eval o).run P W= .ok (.value (.slice (Z ⟨W.heap.size,0,U⟩) (n+m) Gc)) (W.drew.alloc (.cells ((olds++vs).toArray++mD zv.cells (Gc-(n+m))) L)):=by
  unfold execOp;rw[ho];simp[resolve,invoke,builtin,fB,xg,cQ,List.map_toArray,cD,C6,hsl,hrun]
 unfold Lv;rw[hexec];refine ⟨_,φ',rfl,p2,p3,p4,.I p1 hgc hgm ⟨L,?_⟩⟩;have:=(QX W (.cells ((olds++vs).toArray++mD zv.cells (Gc-(n+m))) L (0,0))).at_;unfold tV;have hzs:=L6 z2 hzl (Gc-(n+m));have e1:(n+m)*i.size+(Gc-(n+m))*i.size=Gc*i.size:=by rw[<- Nat.add_mul];congr 1;omega
 grind
def azx {u el el':TypeId} {t:Operand} (ho:o.op= .call {callee:=.builtin .append,args:=#[t,c],argTypes:=#[s,u]}) (hu:P.underlying s=Z (.slice el)) (hu':P.underlying u=Z (.slice el')) (hs:fO P el=Z i) (hb:I6 P el=Z m) (hz:vg P el=Z E) (hzl:l! E=i) (hsz:i≠0)
 (L:dE (.app el i m t c) e h nx=Z R):gC P o e.get h.get R.eff:=by
 let⟨sz,i1,i2⟩:=R7 hb;have i3:sz.size=i:=by unfold fO at hs;rw[i1]at hs;simpa using hs
 subst i2 i3;simp only[dE]at L;split at L
 .rename_i bv y hsv hx;split at L
  .rename_i src bytes rd hrow;have common:∀{φ:PM} {z:Nat->Prop} {h':HF} {w:World} {a:Act},(∀sz∈rd,h' sz=h.get sz)->Rel φ z h' w a e o->sV φ z h' w->∃vs,Src P sz.size u (a.eval c) bytes vs w/\Cs φ (tot z φ h') w src vs:=
    λhrd hp hrep=>aof hrow hrd hrep (hp c _ (by rw[ho];simp[Op.operands,eT]) hx) hu'
   have exec:∀{w w':World} {a:Act} {v:Value},(Builtin.append_ #[s,u] o.type #[a.eval t,a.eval c]).run P w= .ok v w'->(execOp a.eval o).run P w= .ok (.value v) w':=by
    intro w w' a v hrun;unfold execOp;rw[ho];simp[resolve,invoke,builtin,hrun]
   split at L
   .rename_i id sz' n;split at L
    .rename_i blk hblk;split at L
     .rename_i hc;simp only[al,cU,cS]at hc;obtain⟨⟨⟨⟨⟨rfl,hmem⟩,hcells⟩,hlen⟩,hty⟩,hroom⟩:=hc;have hlen:=aY hlen;rw[BC.len_toMx hcells]at hlen;let⟨r1,r2⟩:=Mg hroom;cases L;subst hty;intro φ z h' w a h1 h2 h3 hrep h5;have hp:Rel φ z h' w a e o:=λc y hx hy=>xE hrep h3 hx hy
      have hb':h' id=Z blk:=by rw[h1 id (by simp[EG.eff])];exact hblk
      let⟨vs,hsrc,hcs⟩:=common (λsz hi=>h1 sz (by simp[EG.eff,hi])) hp hrep;have hpd:=hp t _ (by rw[ho];simp[Op.operands,eT]) hsv;have hnx:φ nx=U:=h5 nx (by simp[EG.eff]);have hwv:=hp t _ (by rw[ho];simp[Op.operands,eT]) hsv;generalize hzv:a.eval t=pv at hpd;cases hpd with
      |@I _ _ _ cap k hφ hn hcap hsh=>
       let⟨arr,g1,g2,g3⟩:=hrep.cs hb' hφ hcells;have hne:nx≠id:=λe=>by rw[e,hφ]at hnx;cases hnx
       have harr:arr.size=cap*sz.size:=by
        let⟨ty,hty⟩:=hsh;unfold tV at hty;rw[g1]at hty;simp at hty;exact hty.2
       have hnl:=hsrc.newsLen;have hnn:n*sz.size<=arr.size:=by omega
       have csnew:Cs φ (tot z φ h') w (blk.c.toMx.take (n*sz.size)++src) (arr.toList.take (n*sz.size)++vs):=by
        have:=(g2.take (n*sz.size)).append hcs
        rwa [List.take_take,Jf hlen]at this
       have hnw1:jP [(nx,⟨blk.ty,oO (blk.c.toMx.take (n*sz.size)++src)⟩)] nx=Z ⟨blk.ty,oO (blk.c.toMx.take (n*sz.size)++src)⟩:=by simp[jP]
       have hnw2:jP [(nx,⟨blk.ty,oO (blk.c.toMx.take (n*sz.size)++src)⟩)] id=U:=by
        simp only[jP];rw[av];intro hb;exact hne (au hb)
       by_cases hfit:n+bytes<=cap
       ·
        have hend:n*sz.size+l! vs<=arr.size:=by
         rw[hnl,harr,<-Nat.add_mul];exact cw _ hfit
        have hst:=run_storeCells_at (P:=P) k (n*sz.size) blk.ty vs 0 arr w g1 (by omega) hsrc.one;simp only[dQ]at hst
        let arr':Array Value:=(arr.toList.take (n*sz.size)++vs++arr.toList.drop (n*sz.size+l! vs)).toArray
        have hsize:arr'.size=arr.size:=by simp only[arr',C5,bH,bR,lI,Array.length_toList];omega
        have hrun:(Builtin.append_ #[s,u] o.type #[a.eval t,a.eval c]).run P w= .ok (.slice (Z ⟨k,0,U⟩) (n+bytes) cap) (w.setRow k arr'):=by
         rw[hzv];rcases hsrc.kind with ⟨e',hk⟩|hk<;>simp[Builtin.append_,run_underlying hu,run_underlying hk,sizeOf,typeInfo,i1,hsrc.len,hfit,hsrc.cells,kE,hst,arr']
        let⟨φ',p1,p2,p3,p4⟩:=hrep.wren hb' hφ hnx (Ja.setRow g1 hsize) (b':=⟨blk.ty,oO (blk.c.toMx.take (n*sz.size)++src)⟩) (by
         let⟨q1,q2⟩:=nK (blk.c.toMx.take (n*sz.size)++src);refine sa q2 (by rw[q1,<-csnew.1,hsize];simp;omega) λj q hq=>?_
         rw[q1]at hq;have hj:j<l! (arr.toList.take (n*sz.size)++vs):=by rw[csnew.1];exact (bz.1 hq).1
         refine ⟨csnew.2.1 q (ba hq),_,?_,csnew.2.2 j q _ hq (aF hj)⟩;simp only[arr',List.getElem?_toArray];rw[b8 hj,aF hj]) _ hnw1 hnw2
        unfold Lv;rw[exec hrun];refine ⟨_,φ',rfl,p2,p3,p4,.I p1 hfit hcap ⟨blk.ty,?_⟩⟩;unfold tV;rw[setRow_heap w k arr arr' blk.ty (0,0) g1];simp[hsize,harr]
       ·
        have hold:(Po sz.size n (.slice (Z ⟨k,0,U⟩) n cap)).run P w.drew= .ok (arr.toList.take (n*sz.size)).toArray w.drew:=by
         refine run_firstCells_some w.drew sz.size n _ n cap _ (by simp;omega) λj v hv=>?_
         rw[fd]at hv;split at hv
         .rw[c6]at hv;rw[kE,bZ];have hcl:w.cell? ⟨k,j,U⟩=Z v:=by simp[Sj,g1,hv]
          simpa using hcl
         .cases hv
        exact Yd ho hu i1 hz hzl hrep hnx hzv hold (by
         have:=g2.take (n*sz.size)
         rwa [List.take_take,Jf hlen]at this) (by simp;omega) hsrc hcs (by omega) r1 r2 [id] (λj hj=>by simp at hj;subst hj;exact λe=>hne e.symm)
     .cases L
    .cases L
   .split at L
    .rename_i hc;simp only[al]at hc;let⟨hb0,hroom⟩:=hc;let⟨r1,r2⟩:=Mg hroom;have hbase:∀{φ:PM} {O:Nat->Prop} {w:World} {v:Value},ch φ O w bv v->∃A,v= .slice A 0 0:=by
      intro φ O w v hr;unfold Ff at hb0;split at hb0
      .cases hr;exact⟨_,rfl⟩
      .rename_i q;cases fJ hr;unfold Dk at hb0;split at hb0
       .exact⟨_,rfl⟩
       .cases hb0
      .cases hb0
     split at L
     .rename_i hm;have hm:bytes=0:=by simpa using hm
      subst hm;cases L;refine gC.reads λφ z h' w a hrd hp hrep=>?_
      let⟨vs,hsrc,hcs⟩:=common hrd hp hrep;have hr:=hp t _ (by rw[ho];simp[Op.operands,eT]) hsv;let⟨A,hA⟩:=hbase hr;refine ⟨a.eval t,exec ?_,hr⟩;rw[hA];have hvs:vs=[]:=by have:=hsrc.newsLen;simpa using this
      have hc0:=hsrc.cells;rw[hvs]at hc0;rcases hsrc.kind with ⟨e',hk⟩|hk<;>cases A<;>simp[Builtin.append_,run_underlying hu,run_underlying hk,sizeOf,typeInfo,i1,hsrc.len,hc0,storeCells]
     .rename_i hm;have hm:bytes≠0:=by simpa using hm
      cases L;intro φ z h' w a h1 h2 h3 hrep h5;have hp:Rel φ z h' w a e o:=λc y hx hy=>xE hrep h3 hx hy
      let⟨vs,hsrc,hcs⟩:=common (λsz hi=>h1 sz hi) hp hrep;let⟨A,hA⟩:=hbase (hp t _ (by rw[ho];simp[Op.operands,eT]) hsv);have hold:(Po sz.size 0 (.slice A 0 0)).run P w.drew= .ok ([]:ξ).toArray w.drew:=by
       cases A with
       |none=>exact run_firstCells_none w.drew sz.size 0 0 0
       |some ad=>exact run_firstCells_some w.drew sz.size 0 ad 0 0 [] (by simp) (by intro j v hv;simp at hv)
      have:=Yd (nx:=nx) (n:=0) (cap:=0) (olds:=[]) (oldA:=[]) ho hu i1 hz hzl hrep (h5 nx (by simp[EG.eff])) hA hold ⟨rfl,(by intro c hx;cases hx),(by intro j c v hx;simp at hx)⟩ (by simp) hsrc hcs (by omega) (by omega) (by simpa using r2) [] (by simp);simpa[EG.eff] using this
    .cases L
  .cases L
 .cases L
end
section
variable {P:Program} {o:Oper} {e:EJ} {h:mY} {nx:Nat} {R:EG}
def azj (I:o.op= .makeMap s U) (z:dE .mkm e h nx=Z R):gC P o e.get h.get R.eff:=by
 simp[dE,ah]at z;subst z;refine gC.makes λφ E h' w a _ _ _=>?_
 refine ⟨.map (Z w.heap.size),{w with heap:=w.heap.push (.map #[] 0)},.map #[] 0,?_,tu w _,⟨#[],0,rfl,by unfold MpK;rfl,by intro j x A;simp at A⟩,λφ' O hφ=>.mp hφ⟩;unfold execOp;rw[I];simp[Instr.makeMap,newObj,kY]
def azd (A:o.op= .range s c) (L:P.underlying s=Z .string) (z:dE (.rng c) e h nx=Z R):gC P o e.get h.get R.eff:=by
 simp[dE]at z;split at z
 .rename_i t I;simp[ah]at z;subst z;refine gC.makes λφ E h' w a _ hp _=>?_
  have hr:=fJ (hp c _ (by rw[A];simp[Op.operands]) I);refine ⟨.pointer (Z ⟨w.heap.size,0,U⟩),{w with heap:=w.heap.push (.stringIter t 0)},.stringIter t 0,?_,tu w _,rfl,λφ' O hφ=>.K hφ⟩;unfold execOp;rw[A];simp[Instr.range,run_underlying L,hr,newObj,kY]
 .cases z
def vS {ob ob':Obj} (z:W.heap[i]? =Z ob) (h1:∀c t f,ob≠ .cells c t f) (I:∀c t f,ob'≠ .cells c t f):Ja W {W with heap:=W.heap.setIfInBounds i ob'} i ob':=by
 have hlt:i<W.heap.size:=(dw.1 z).1;have hat:(W.heap.setIfInBounds i ob')[i]? =Z ob':=by simp[hlt]
 have hot:∀j,j≠i->(W.heap.setIfInBounds i ob')[j]? =W.heap[j]? :=λj A=>Array.getElem?_setIfInBounds_ne (λe=>A e.symm)
 refine ⟨rfl,rfl,rfl,by simp,hat,hot,λj=>?_⟩;unfold tV
 grind
def aze (ho:o.op= .next c J) (A:dE (.nxt c) e h nx=Z R):gC P o e.get h.get R.eff:=by
 simp only[dE]at A;split at A
 .rename_i id hx;split at A
  .rename_i ty s p hid;split at A
   .rename_i b hb;cases A;refine gC.writes hid λφ E h' w a hrd hb' hp hrep=>?_
    have hr:=hp c _ (by rw[ho];simp[Op.operands]) hx;generalize hz:a.eval c=z at hr;cases hr with
    |@K _ _ k hφ=>
     let⟨k',q1,_,ob,q2,q3⟩:=hrep.at_ id _ hb';rw[hφ]at q1;cases q1;have q3:ob= .stringIter s p:=q3;subst q3;have hps:p<s.size:=by
      have:=(bz.1 hb).1;simpa using this
     have hget:s.get! p=b:=by
      have:s.data[p]? =Z b:=by grind
      have hpd:p<s.data.size:=(dw.1 this).1;have h2:s.data[p]! =s.data[p]:=getElem!_pos s.data p hpd;rw[pZ hpd]at this;simp only[ByteArray.get!,h2];exact fU this
     have hdec:∃x:Nat,Utf8.decode s p=(x,wdA b s p)/\rnA b s p=(x:Int):=by
      unfold wdA rnA;cases hlt:eK b.toNat 128 with
      |true=>
       refine ⟨b.toNat,?_,rfl⟩;have:=aY hlt;unfold Utf8.decode
       grind
      |false=>exact⟨(Utf8.decode s p).1,rfl,rfl⟩
     let⟨x,hdec,hc⟩:=hdec;refine ⟨.value (.tuple #[.bool J,.int .i64 p,.int .i32 x]),_,k,.stringIter s (p+wdA b s p),?_,hφ,vS q2 (by simp) (by simp),rfl,_,.inl rfl,?_⟩
     .unfold execOp;rw[ho];simp[Instr.next,hz,getObj,kY,q2,hps,hdec,setObj,goInt]
     .refine ch.qp (vs:=[.bool J,.int .i64 p,.int .i32 x]) rfl λj y v I L=>?_
      rw[hc]at I;rcases j with _|_|_|j<;>simp at I L
      .subst I L;exact .f (.raw _)
      .subst I L;exact .f (.raw _)
      .subst I L;exact .f (.raw _)
   .rename_i hb;cases A;refine gC.writes hid λφ E h' w a hrd hb' hp hrep=>?_
    have hr:=hp c _ (by rw[ho];simp[Op.operands]) hx;generalize hz:a.eval c=z at hr;cases hr with
    |@K _ _ k hφ=>
     let⟨k',q1,_,ob,q2,q3⟩:=hrep.at_ id _ hb';rw[hφ]at q1;cases q1;have q3:ob= .stringIter s p:=q3;subst q3;have hps:¬p<s.size:=by simp_all
     refine ⟨.value (.tuple #[.bool af]),w,k,.stringIter s p,?_,hφ,⟨rfl,rfl,rfl,rfl,q2,λ_ _=>rfl,λ_=>rfl⟩,rfl,_,.inl rfl,?_⟩
     .unfold execOp;rw[ho];simp[Instr.next,hz,getObj,kY,q2,hps]
     .refine ch.qp (vs:=[.bool af]) rfl λj y v I L=>?_
      rcases j with _|j<;>simp at I L;subst I L;exact .f (.raw _)
  .cases A
 .cases A
def xP {a b:ByteArray}:ue a b=J↔a=b:=by
 unfold ue;constructor
 .intro h;have h1:a.data.toList=b.data.toList:=by grind
  cases a;simp_all
 .rintro rfl;simp
def Dx (a b:ByteArray):(a==b)=ue a b:=by
 have h1:(a==b)=(a.data==b.data):=rfl;rw[h1,Bool.eq_iff_iff,xP,cU];constructor
 .intro h;cases a;congr 1
 .rintro rfl;rfl
def kd (str:Bool) (d:TypeDesc):Prop:=if str then d= .string else ∃k,d= .int k
def FN {str:Bool} {d:TypeDesc} (hd:kd str d) {A:Value} (I:yR str v=J) (z:w_ .eql v A=Z (.bool b)):Instr.sameNow d v A=Z b:=by
 cases str with
 |true=>
  subst hd;cases v<;>simp[yR]at I;cases A<;>simp only[w_]at z<;>try (simp at z;done)
  simp[ah,Fz]at z;simp[Instr.sameNow,Dx,z]
 |false=>
  obtain⟨q,rfl⟩:=hd;cases v<;>simp[yR]at I;cases A<;>simp only[w_]at z<;>try (simp at z;done)
  split at z
  next hkk=>have hkk':=eq_of_beq hkk;subst hkk';simp[ah,Fz]at z;simp[Instr.sameNow,<-z]
  .cases z
def WL {d:TypeDesc} (hd:kd b d) (L:yR b v=J):∀(es:Y k?) (ents:Y MapEntry) (i:Nat),ents.map (·.key)=es.map (·.1)->∀r,t7 v es=Z r->
 (r=U/\jB d v ents i=Z U)\/∃(j:Nat) (k:AV) (m:MapEntry) (A:Value),r=Z k/\es[j]? =Z (A,k)/\ents[j]? =Z m/\jB d v ents i=Z (Z (i+j,m.val))/\w_ .eql v A=Z (.bool J)
 |[],ents,i,he,r,h=>by
  cases ents with
  |nil=>simp[t7,ah]at h;exact .inl ⟨h.symm,rfl⟩
  |cons _ _=>simp at he
 |(A,k)::es,ents,i,he,r,h=>by
  cases ents with
  |nil=>simp at he
  |cons m ents=>
   simp[cD,eX]at he;let⟨z,he2⟩:=he;simp[t7]at h;split at h
   next I=>simp[ah]at h;refine .inr ⟨0,k,m,A,h.symm,rfl,rfl,?_,I⟩;simp only[jB];rw[z,FN hd L I];rfl
   .rename_i I;have hs:=FN hd L I;rcases WL hd L es ents (i+1) he2 r h with ⟨h1,h2⟩|⟨j,v',m',k'',h1,h2,h3,h4,h5⟩
    .refine .inl ⟨h1,?_⟩;simp[jB];rw[z,hs];exact h2
    .refine .inr ⟨j+1,v',m',k'',h1,by simpa using h2,by simpa using h3,?_,h5⟩;simp[jB]
     grind
   .cases h
def FO {d:TypeDesc} (A:P.underlying s=Z d) (hd:kd b d) (str:Bool) (v:Value) (w:World):(mw str 10000 s v).run P w= .ok () w:=by
 have key:∀n,(mw str (n+1) s v).run P w= .ok () w:=λn=>by
  unfold kd at hd;cases b with
  |true=>simp[bt]at hd;subst hd;simp[mw,run_underlying A]
  |false=>simp[cO,dZ]at hd;obtain⟨q,rfl⟩:=hd;simp[mw,run_underlying A]
 exact key 9999
def ajo {ok:Bool} (h:ch T O W y v):ch T O W (pkV ok y b) (if ok then .tuple #[v,.bool b] else v):=by
 cases ok with
 |false=>exact h
 |true=>
  refine ch.qp (vs:=[v,.bool b]) rfl λj x u z A=>?_
  rcases j with _|_|j<;>simp at z A
  .grind
  .subst z A;exact .f (.raw _)
def at7 {kt el:TypeId} {k:Operand} {str:Bool} {d:TypeDesc} (ho:o.op= .lookup s c k b) (hu:P.underlying s=Z (.map kt el)) (hk:P.underlying kt=Z d) (hd:kd str d) (L:(P.info? el).bind (·.zero)=Z v) (A:dE (.jf str b v c k) e h nx=Z R):gC P o e.get h.get R.eff:=by
 simp only[dE]at A;split at A
 .rename_i id key hx hkx;split at A
  .rename_i es hid;split at A
   .rename_i hko;have fin:∀val:AV,(∀(φ:PM) (E:Nat->Prop) (h':HF) (w:World) (a:Act),h' id=Z ⟨0,.mp es⟩->Rel φ E h' w a e o->sV φ E h' w->∃z,(execOp a.eval o).run P w= .ok (.value z) w/\ch φ (tot E φ h') w val z)->R=⟨val,[id],[],[],[]⟩->gC P o e.get h.get R.eff:=by
     rintro val hv rfl;exact gC.reads λφ E h' w a hrd hp hrep=>hv φ E h' w a (by rw[hrd id (by simp)];exact hid) hp hrep
    have zrun:∀w:World,(zeroValue el).run P w= .ok v w:=λw=>by
     cases hi:P.info? el with
     |none=>rw[hi]at L;cases L
     |some i=>rw[hi]at L;simp only[aB]at L;simp[zeroValue,typeInfo,hi,L]
    have main:∀r,t7 key es=Z r->∀(φ:PM) (E:Nat->Prop) (h':HF) (w:World) (a:Act),h' id=Z ⟨0,.mp es⟩->Rel φ E h' w a e o->sV φ E h' w->
     ∃z,(execOp a.eval o).run P w= .ok (.value z) w/\ch φ (tot E φ h') w (match r with|some z=>pkV b z J|none=>pkV b (raw v) af) z:=by
     intro r hr φ E h' w a hb' hp hrep;have hrx:=hp c _ (by rw[ho];simp[Op.operands]) hx;have hrk:=fJ (hp k _ (by rw[ho];simp[Op.operands]) hkx);generalize I:a.eval c=zz at hrx;cases hrx with
     |@mp _ ok hφ=>
      let⟨k',q1,_,ob,q2,q3⟩:=hrep.at_ id _ hb';rw[hφ]at q1;cases q1;obtain⟨ents,clock,rfl,q4,q5⟩:=q3;have q4:ents.toList.map (·.key)=es.map (·.1):=by unfold MpK at q4;exact q4
      have hck:=FO (P:=P) hk hd ents.isEmpty key w;rcases WL hd hko es ents.toList 0 q4 r hr with ⟨h1,h2⟩|⟨j,z,m,k',h1,h2,h3,h4,_⟩
      .subst h1;refine ⟨_,?_,ajo (.f (.raw v))⟩;unfold execOp;rw[ho];cases b<;>simp[Instr.lookup,run_underlying hu,I,hrk,getObj,kY,q2,hck,Aa,run_underlying hk,h2,zrun]
      .subst h1;let⟨_,h6,h7⟩:=q5 j _ h2;unfold MpV at h6;obtain⟨m',h6,rfl⟩:=h6;rw[c6]at h3;rw[h3]at h6;cases h6;refine ⟨_,?_,ajo h7⟩;unfold execOp;rw[ho];cases b<;>simp[Instr.lookup,run_underlying hu,I,hrk,getObj,kY,q2,hck,Aa,run_underlying hk,h4]
    split at A
    next z hf=>simp only[ah]at A;exact fin _ (main _ hf) A.symm
    next hf=>simp only[ah]at A;exact fin _ (main _ hf) A.symm
    .cases A
   .cases A
  .cases A
 .cases A
def acv {d:TypeDesc} (hd:kd b d) (hk:yR b v=J) {k:AV}:∀(es es':Y k?) (ents:Y MapEntry) (i:Nat),ents.map (·.key)=es.map (·.1)->As v k es=Z es'->
 (jB d v ents i=Z U/\es'=es++[(v,k)])\/∃(j:Nat) (m:MapEntry) (A:Value) (L:AV),es[j]? =Z (A,L)/\ents[j]? =Z m/\jB d v ents i=Z (Z (i+j,m.val))/\w_ .eql v A=Z (.bool J)/\es'=es.set j (v,k)
 |[],es',ents,i,he,h=>by
  cases ents with
  |nil=>simp[As,ah]at h;exact .inl ⟨rfl,by simp[h]⟩
  |cons _ _=>simp at he
 |(A,L)::es,es',ents,i,he,h=>by
  cases ents with
  |nil=>simp at he
  |cons m ents=>
   simp[cD,eX]at he;let⟨z,he2⟩:=he;simp[As]at h;split at h
   next I=>simp[ah]at h;refine .inr ⟨0,m,A,L,rfl,rfl,?_,I,by simp[h]⟩;simp only[jB];rw[z,FN hd hk I];rfl
   .rename_i I;have hs:=FN hd hk I;split at h
    .rename_i es2 hes2;simp[ah]at h;subst h;rcases acv hd hk es es2 ents (i+1) he2 hes2 with ⟨h1,h2⟩|⟨j,m',k'',v'',h1,h2,h3,h4,h5⟩
     .refine .inl ⟨?_,by simp[h2]⟩;simp[jB];rw[z,hs];exact h1
     .refine .inr ⟨j+1,m',k'',v'',by simpa using h1,by simpa using h2,?_,h4,by simp[h5]⟩;simp[jB]
      grind
    .cases h
   .cases h
def alj {A:Value} (I:yR b v=J) (z:w_ .eql v A=Z (.bool J)):mr 10000 A v=J/\A=v:=by
 cases b with
 |true=>
  cases v<;>simp[yR]at I;cases A<;>simp only[w_]at z<;>try (simp at z;done)
  simp[ah,Fz]at z;have:=xP.1 z;subst this;exact⟨by simp[mr,Dx,z],rfl⟩
 |false=>
  cases v<;>simp[yR]at I;cases A<;>simp only[w_]at z<;>try (simp at z;done)
  split at z
  next hkk=>have hkk':=eq_of_beq hkk;subst hkk';simp[ah,Fz,cU]at z;subst z;exact⟨by simp[mr],rfl⟩
  .cases z
def at6 {kt el:TypeId} {k y:Operand} {str:Bool} {d:TypeDesc} (ho:o.op= .mapUpdate s c k y) (hu:P.underlying s=Z (.map kt el)) (hk:P.underlying kt=Z d) (hd:kd str d) (z:dE (.jg str c k y) e h nx=Z R):gC P o e.get h.get R.eff:=by
 simp only[dE]at z;split at z
 .rename_i id key v L hkx hy;split at z
  .rename_i es hid;split at z
   .rename_i hko;split at z
    .rename_i es' hput;cases z;refine gC.writes hid λφ E h' w a hrd hb' hp hrep=>?_
     have hrx:=hp c _ (by rw[ho];simp[Op.operands]) L;have hrk:=fJ (hp k _ (by rw[ho];simp[Op.operands]) hkx);have hry:=hp y _ (by rw[ho];simp[Op.operands]) hy;generalize I:a.eval c=zz at hrx;cases hrx with
     |@mp _ b hφ=>
      let⟨k',q1,_,ob,q2,q3⟩:=hrep.at_ id _ hb';rw[hφ]at q1;cases q1;obtain⟨ents,clock,rfl,q4,q5⟩:=q3;have q4:ents.toList.map (·.key)=es.map (·.1):=by unfold MpK at q4;exact q4
      have q5:∀(j:Nat) c,es[j]? =Z c->∃m,ents[j]? =Z m/\ch φ (tot E φ h') w c.2 m.val:=λj c L=>by
       let⟨_,A,g2⟩:=q5 j c L;unfold MpV at A;obtain⟨m,A,rfl⟩:=A;exact⟨m,A,g2⟩
      have Jv:∀(es:Y k?) (ents:Array MapEntry) (clock:Nat),ents.toList.map (·.key)=es.map (·.1)->(∀(j:Nat) c,es[j]? =Z c->∃m,ents[j]? =Z m/\ch φ (tot E φ h') w c.2 m.val)->ii φ (tot E φ h') w ⟨0,.mp es⟩ (.map ents clock):=λes ents clock A g2=>⟨ents,clock,rfl,by unfold MpK;exact A,λj c L=>by
       let⟨m,g3,g4⟩:=g2 j c L;exact⟨_,by unfold MpV;exact⟨m,g3,rfl⟩,g4⟩⟩
      have hck:=FO (P:=P) hk hd af key w;have hlen:ents.size=l! es:=by have:=d_ aj q4;simpa using this
      rcases acv hd hko es es' ents.toList 0 q4 hput with ⟨h1,rfl⟩|⟨j,m,k',v',h1,h2,h3,h4,rfl⟩
      .refine ⟨.skip,_,b,.map (ents.push {key,val:=a.eval y,born:=clock}) (clock+1),?_,hφ,vS q2 (by simp) (by simp),Jv _ _ _ (by simp[q4]) λj q hq=>?_,undef,.inr ⟨rfl,rfl⟩,.f (.raw _)⟩
       .unfold execOp;rw[ho];simp[Instr.mapUpdate,run_underlying hu,I,hrk,getObj,kY,q2,hck,Aa,run_underlying hk,h1,setObj]
       .rcases cN j (l! es) with hj|hj
        .grind
        .rw[bS hj]at hq;have hj0:j-l! es=0:=by grind
         rw[hj0]at hq;simp at hq;subst hq;exact⟨_,by rw[Array.getElem?_push,aC (by omega)],hry⟩
      .obtain⟨s1,s2⟩:=alj hko h4;subst s2;rw[c6]at h2;rw[bZ]at h3;have hjl:j<ents.size:=(dw.1 h2).1;have hmk:m.key=k':=by
        have e1:(ents.toList.map (·.key))[j]? =Z m.key:=by rw[bE,c6,h2];rfl
        rw[q4,bE,h1]at e1;simpa using e1.symm
       refine ⟨.skip,_,b,.map (ents.modify j λe=>{e with key:=k',val:=a.eval y}) clock,?_,hφ,vS q2 (by simp) (by simp),Jv _ _ _ ?_ λi q hq=>?_,undef,.inr ⟨rfl,rfl⟩,.f (.raw _)⟩
       .unfold execOp;rw[ho];simp[Instr.mapUpdate,run_underlying hu,I,hrk,getObj,kY,q2,hck,Aa,run_underlying hk,h3,setObj,h2,hmk,Instr.keyThatStays,s1]
       .apply Sl;intro i;simp only[bE,c6,iR,Array.getElem?_modify];have e2:∀i:Nat,(ents[i]?).map (λm:MapEntry=>m.key)=(es[i]?).map (λp:Value×AV=>p.1):=λi=>by
         have:=d_ (λl=>l[i]?) q4;simpa[bE,c6] using this
        grind
       .grind
    .cases z
   .cases z
  .cases z
 .cases z
end
section
variable {P:Program} {o:Oper} {e:EJ} {h:mY} {nx:Nat} {R:EG}
def Mp {d:TypeDesc} (A:P.underlying s=Z d) (hd:(match d with|.int _=>J|.bool=>J|.string=>J|_=>af)=J) (cs:Array Value) (j:Nat) (v:Value) (z:cs[j]? =Z v) (w:World):(part s cs j).run P w= .ok v w:=by
 unfold part;simp[isAgg,fB,run_underlying A,cQ];cases d<;>simp at hd<;>simp[z]
def agu {d:TypeDesc} (z:P.underlying s=Z d) (hd:(match d with|.int _=>J|.bool=>J|.string=>J|_=>af)=J) {x y:FV} (hxy:wL d x y=Z b) {u:Value} (L:x= .raw u) (I:y= .raw v) (n:Nat) (w:World):(Op.equalIn (n+1) s u v).run P w= .ok b w:=by
 subst L I;cases d<;>simp at hd<;>cases u<;>cases v<;>simp only[wL]at hxy<;>first|(cases hxy;done)|skip
 .cases hxy;simp[Op.equalIn,run_underlying z]
 .split at hxy
  next hk=>have A:=eq_of_beq hk;subst A;cases hxy;simp[Op.equalIn,run_underlying z]
  .cases hxy
 .cases hxy;simp[Op.equalIn,run_underlying z,Dx]
abbrev T3 (n:Nat) (xs z:Array Value) (f:Field) (_:M Bool×Unit):Sem (ForInStep (M Bool×Unit)):=
 if f.name≠ "_" then do
  let a←part f.type xs f.offset
  let b←part f.type z f.offset
  let c←Op.equalIn (n+1) f.type a b
  if (!c)=J then pure (ForInStep.done (Z af,())) else pure (Jh (U,()))
 else pure (Jh (U,()))
def Rx (n:Nat) (w:World) (xs A:Array Value):∀(fs:Y Field) (ds:Y TypeDesc) (a b:Y FV) (k:Nat) (r:Bool),lV P k fs=Z ds->
 (∀(j:Nat) x u,a[j]? =Z x->xs[k+j]? =Z u->x= .raw u\/∀v,x≠ .raw v)->(∀(j:Nat) x u,b[j]? =Z x->A[k+j]? =Z u->x= .raw u\/∀v,x≠ .raw v)->(∀(j:Nat),j<l! a->k+j<xs.size)->(∀(j:Nat),j<l! b->k+j<A.size)->jL ds a b=Z r->
 (forIn fs (U,()) (T3 n xs A)).run P w= .ok (if r then (U,()) else (Z af,())) w
 |[],ds,a,b,k,r,hp,_,_,_,_,he=>by
  simp only[lV,ah]at hp;subst hp;cases a<;>cases b<;>simp[jL]at he;subst he;simp
 |f::fs,ds,a,b,k,r,hp,ha,hb,hla,hlb,he=>by
  simp only[lV]at hp;split at hp
  .rename_i d ds' hu hp';split at hp
   .rename_i hc;simp only[al,bne_iff_ne,ne_eq,cU]at hc;let⟨⟨hn,hof⟩,hd⟩:=hc;cases hp;cases a with
    |nil=>cases b<;>simp[jL]at he
    |cons x a=>
     cases b with
     |nil=>simp[jL]at he
     |cons y b=>
      simp only[jL]at he;have hx1:k<xs.size:=by have:=hla 0 (by simp);omega
      have L:k<A.size:=by have:=hlb 0 (by simp);omega
      have hraw:∀(z:FV) (q:Value),(z= .raw q\/∀v,z≠ .raw v)->(∃v,z= .raw v)->z= .raw q:=by
       rintro z q (h|h) ⟨v,hv⟩
       .exact h
       .exact bT hv (h v)
      have hxr:∀I,wL d x y=Z I->x= .raw xs[k]/\y= .raw A[k]:=by
       intro I hbb;have hrr:(∃v,x= .raw v)/\∃v,y= .raw v:=by
        unfold wL at hbb;split at hbb
        .exact⟨⟨_,rfl⟩,⟨_,rfl⟩⟩
        .exact⟨⟨_,rfl⟩,⟨_,rfl⟩⟩
        .exact⟨⟨_,rfl⟩,⟨_,rfl⟩⟩
        .cases hbb
       exact⟨hraw x _ (ha 0 x _ rfl (by simp[hx1])) hrr.1,hraw y _ (hb 0 y _ rfl (by simp[L])) hrr.2⟩
      have hstep:∀I,wL d x y=Z I->(T3 n xs A f (U,())).run P w= .ok (if I then Jh (U,()) else ForInStep.done (Z af,())) w:=by
       intro I hbb;let⟨h1,h2⟩:=hxr I hbb;have p1:=Mp hu (by cases d<;>simp[EZ]at hd<;>rfl) xs k xs[k] (by simp[hx1]) w;have p2:=Mp hu (by cases d<;>simp[EZ]at hd<;>rfl) A k A[k] (by simp[L]) w;have p3:=agu hu (by cases d<;>simp[EZ]at hd<;>rfl) hbb h1 h2 n w;unfold T3;rw[aC hn,hof];simp only[fB,p1,p2,p3,cQ];cases I<;>simp
      rw[List.forIn_cons];simp only[fB];split at he
      .rename_i hbb;rw[hstep J hbb];simp only[cQ,bt];exact Rx n w xs A fs ds' a b (k+1) r hp' (λj x u h1 h2=>ha (j+1) x u (by simpa using h1) (by rw[<- h2];congr 1;omega)) (λj x u h1 h2=>hb (j+1) x u (by simpa using h1) (by rw[<- h2];congr 1;omega))
        (λj hj=>by have:=hla (j+1) (by simpa using hj);omega) (λj hj=>by have:=hlb (j+1) (by simpa using hj);omega) he
      next hbb=>rw[hstep af hbb];cases he;simp
      .cases he
   .cases hp
  .cases hp
variable {C:Array Field} {B:Y TypeDesc}
def Rw (L:P.underlying s=Z (.struct C)) (hs:P.stoodInHeld s=af) (hp:lV P 0 C.toList=Z B) (xs z:Array Value) {a r:Y FV} 
 (ha:∀(j:Nat) x u,a[j]? =Z x->xs[j]? =Z u->x= .raw u\/∀v,x≠ .raw v) (hb:∀(j:Nat) x u,r[j]? =Z x->z[j]? =Z u->x= .raw u\/∀v,x≠ .raw v) (hla:l! a=xs.size) (hlb:l! r=z.size) (he:jL B a r=Z b) (w:World):
 (Op.equal s (.agg xs) (.agg z)).run P w= .ok b w:=by
 have key:∀n,(Op.equalIn (n+2) s (.agg xs) (.agg z)).run P w= .ok b w:=by
  intro n;rw[Op.equalIn];have h1:=Rx (P:=P) n w xs z C.toList B a r 0 b hp (λj x u h1 I=>ha j x u h1 (by grind)) (λj x u h1 I=>hb j x u h1 (by grind)) (λj hj=>by omega) (λj hj=>by omega) he;rw[Array.forIn_toList]at h1;simp only[fB,run_underlying L,cQ,program,kY,hs,cO,dZ];have I:(forIn C (U,()) (λf __s=>T3 n xs z f __s)).run P w= .ok (if b then (U,()) else (Z af,())) w:=h1;rw[I];cases b<;>simp
 exact key 9998
def WZ (hu:P.underlying s=Z (.struct C)) (hp:lV P 0 C.toList=Z B):P.eqGuardType P.depth s=af:=by
 have key:∀(C:Y Field) (k:Nat) (B:Y TypeDesc),lV P k C=Z B→∀d,(C.any λf=>f.name != "_" &&P.eqGuardType (d+1) f.type)=af:=by
  intro C;induction C with
  |nil=>intros;rfl
  |cons f C ih=>
   intro k B hp d;simp only[lV]at hp;split at hp
   .rename_i dd ds' A I;split at hp
    .rename_i L;simp[al]at L;have:P.eqGuardType (d+1) f.type=af:=by
      unfold Program.eqGuardType;rw[A];have:=L.2;cases dd<;>simp[EZ]at this<;>rfl
     simp only[List.any_cons,this,Bool.and_false,Bool.false_or];exact ih (k+1) ds' I d
    .cases hp
   .cases hp
 unfold Program.depth Program.eqGuardType;rw[hu];simp only[];rw[← Array.any_toList];exact key C.toList 0 B hp _
def at8 {t':TypeId} {op:BinOp} {neg:Bool} {y:Operand} (ho:o.op= .binOp op s c y t') (hop:op=if neg then .neq else .eql) (L:P.underlying s=Z (.struct C)) (hs:P.stoodInHeld s=af) (hp:lV P 0 C.toList=Z B) (z:dE (.jh neg B c y) e h nx=Z R):gC P o e.get h.get R.eff:=by
 simp[dE]at z;split at z
 .rename_i a b I hy;split at z
  .rename_i r hr;rw[dx z];refine gC.reads λφ E h' w ac _ hpp _=>?_
   have h1:=hpp c _ (by rw[ho];simp[Op.operands]) I;have A:=hpp y _ (by rw[ho];simp[Op.operands]) hy;generalize hzx:ac.eval c=zx at h1;generalize hzy:ac.eval y=zy at A;have rawOr:∀(l:Y FV) (vs:ξ),(∀(j:Nat) c v,l[j]? =Z c->vs[j]? =Z v->nS (tot E φ h') w c v)->∀(j:Nat) c u,l[j]? =Z c->vs.toArray[j]? =Z u->c= .raw u\/∀v,c≠ .raw v:=by
    intro l vs hr j c u I L;have:=hr j c u I (by grind);cases this with
    |raw v=>exact .inl rfl
    |_=>exact .inr (by simp)
   cases h1 with
   |f h1=>
    cases h1 with
    |agg _ vs hl hcl hr1=>
     cases A with
     |f A=>
      cases A with
      |agg _ us hl' hcl' hr2=>
       have heq:=Rw L hs hp vs.toArray us.toArray (rawOr a vs hr1) (rawOr b us hr2) (by grind) (by grind) hr w;refine ⟨_,?_,.f (.raw _)⟩;have hg:=WZ L hp;unfold execOp;rw[ho];simp[hzx,hzy];subst hop;cases neg<;>simp[eqGuard,program,kY,hg,binOp,heq]
  .cases z
 .cases z
end
section
variable {P:Program} {o:Oper} {e:EJ} {h:mY} {nx:Nat} {R:EG}
def H5:∀{l:Y FV} {vs:ξ},Jp l=Z vs->l=vs.map .raw
 |[],vs,h=>by simp[Jp,ah]at h;subst h;rfl
 |x::r,vs,h=>by
  cases x with
  |raw v=>
   simp[Jp]at h;split at h
   next l z=>simp[ah]at h;subst h;rw[cD,<-H5 z]
   .cases h
  |_=>simp[Jp]at h
def ajg {u:Value} (h:nS O W (.raw v) u):u=v:=by cases h;rfl
def Vu {w:World} {vs:ξ} (hl:l! vs=l! E) (L:∀(j:Nat) x v,(E.map FV.raw)[j]? =Z x->vs[j]? =Z v->nS O w x v):vs=E:=by
 apply Sl;intro j;rcases cN j (l! E) with A|A
 .have h1:(E.map FV.raw)[j]? =Z (.raw E[j]):=by simp[A]
  have I:vs[j]? =Z (vs[j]'(by omega)):=aF (by omega);have:=L j _ _ h1 I;rw[I,aF A,ajg this]
 .grind
def MS (z:aft y=Z E) (I:ch T O W y v):v= .agg E.toArray:=by
 cases I with
 |f I=>
  cases I with
  |agg cells vs hl hcl hrr=>
   have:=H5 (show Jp cells=Z E from z);subst this;rw[Vu (by grind) hrr]
  |_=>simp[aft]at z
 |@agg cells vs hl hcl hrr=>
  simp[aft]at z;split at z
  .rename_i fs hfs;have:=H5 z;have:=nO hfs;have key:vs=E:=Vu (O:=O) (w:=W) (by grind) λj x u hx L=>by
    have:=hrr j (.f x) u (by grind) L;cases this with
    |f h=>exact h
   rw[key]
  .cases z
 |_=>simp[aft]at z
structure EH (P:Program) (kt:TypeId) (fs:Array Field) (ds:List TypeDesc):Prop where
 hu:P.underlying kt=Z (.struct fs)
 hs:P.stoodInHeld kt=af
 hp:lV P 0 fs.toList=Z ds
variable {B:Y TypeDesc}
def H_ (h:EY P s=Z B):∃z,EH P s z B:=by
 unfold EY at h;split at h
 .rename_i z I;split at h
  .cases h
  next hst=>exact⟨z,I,by simpa using hst,h⟩
 .cases h
variable {C:Array Field}
def rZ (K:EH P s C B) (z:D8 B E v=Z b) (w:World):(Op.equal s (.agg E.toArray) v).run P w= .ok b w:=by
 unfold D8 at z;split at z
 .rename_i ws;refine Rw K.hu K.hs K.hp E.toArray ws (λj x u hx hu=>?_) (λj x u hx hu=>?_) (by simp) (by simp) z w
  .grind
  .grind
 .cases z
abbrev alw (z:Bool) (n:Nat) (cs:Array Value) (f:Field) (_:Unit):Sem (ForInStep Unit):=
 if f.name≠ "_" then do
  let a←part f.type cs f.offset
  mw z (n+1) f.type a
  pure (Jh ())
 else pure (Jh ())
def R6 (I:Bool) (n:Nat) (w:World) (cs:Array Value):∀(z:Y Field) (ds:Y TypeDesc) (k:Nat),lV P k z=Z ds->k+l! z<=cs.size->
 (forIn z () (alw I n cs)).run P w= .ok () w
 |[],ds,k,hp,_=>by simp
 |f::z,ds,k,hp,hk=>by
  simp only[lV]at hp;split at hp
  .rename_i d ds' L A;split at hp
   .rename_i hc;simp[al,bne_iff_ne,ne_eq,cU]at hc;let⟨⟨hn,hof⟩,hd⟩:=hc;simp[jW]at hk;have p1:=Mp L (by cases d<;>simp[EZ]at hd<;>rfl) cs k (cs[k]'(by omega)) (by simp) w;have p2:(mw I (n+1) f.type (cs[k]'(by omega))).run P w= .ok () w:=by
     cases d<;>simp[EZ]at hd<;>simp[mw,run_underlying L]
    have ih:=R6 I n w cs z ds' (k+1) A (by omega);simp_all
   .cases hp
  .cases hp
def aba (K:EH P s C B) (A:Bool) {cs:Array Value} (L:l! C.toList<=cs.size) (w:World):(mw A 10000 s (.agg cs)).run P w= .ok () w:=by
 have key:∀n,(mw A (n+2) s (.agg cs)).run P w= .ok () w:=by
  intro n;rw[mw];have h1:=R6 (P:=P) A n w cs C.toList B 0 K.hp (by omega);rw[Array.forIn_toList]at h1;simp[fB,run_underlying K.hu,cQ];have h2:(forIn C () λf I=>alw A n cs f I).run P w= .ok () w:=h1;simp_all
 exact key 9998
def Nt {m:MapEntry} {r:Y MapEntry} :jB (.struct C) v (m::r) i=U:=by
 simp[jB];have:Instr.sameNow (.struct C) v m.key=U:=by rfl
 rw[this]
def Cx (K:EH P s C B) (k:Value) (ents:Y MapEntry) (w:World):(Aa s k ents).run P w=(cZ s k ents).run P w:=by
 cases ents with
 |nil=>simp[Aa,run_underlying K.hu,jB,cZ]
 |cons m r=>simp[Aa,run_underlying K.hu,Nt]
def WM (K:EH P s C B) (w:World):∀(es:Y k?) (ents:Y MapEntry) (i:Nat),ents.map (·.key)=es.map (·.1)->∀r,Jo B E es=Z r->
 (r=U/\(cZ s (.agg E.toArray) ents i).run P w= .ok U w)\/∃(j:Nat) (v:AV) (m:MapEntry) (k':Value),r=Z v/\es[j]? =Z (k',v)/\ents[j]? =Z m/\(cZ s (.agg E.toArray) ents i).run P w= .ok (Z (i+j,m.val)) w
 |[],ents,i,he,r,h=>by
  cases ents with
  |nil=>simp[Jo,ah]at h;exact .inl ⟨h.symm,by simp[cZ]⟩
  |cons _ _=>simp at he
 |(k',v)::es,ents,i,he,r,h=>by
  cases ents with
  |nil=>simp at he
  |cons m ents=>
   simp[cD,eX]at he;let⟨z,he2⟩:=he;simp[Jo]at h;split at h
   next A=>simp[ah]at h;refine .inr ⟨0,v,m,k',h.symm,rfl,rfl,?_⟩;rw[cZ,z];simp[rZ K A w]
   .rename_i A;rcases WM K w es ents (i+1) he2 r h with ⟨h1,h2⟩|⟨j,v',m',k'',h1,h2,h3,h4⟩
    .refine .inl ⟨h1,?_⟩;rw[cZ,z];simp[rZ K A w,h2]
    .refine .inr ⟨j+1,v',m',k'',h1,by simpa using h2,by simpa using h3,?_⟩;rw[cZ,z];simp[rZ K A w,h4];omega
   .cases h
def Vi (K:EH P s C B) (w:World):∀(es es':Y k?) (ents:Y MapEntry) (i:Nat),ents.map (·.key)=es.map (·.1)->Y6 B E y es=Z es'->
 ((cZ s (.agg E.toArray) ents i).run P w= .ok U w/\es'=es++[(.agg E.toArray,y)])\/∃(j:Nat) (m:MapEntry) (L:Value) (v':AV),es[j]? =Z (L,v')/\ents[j]? =Z m/\(cZ s (.agg E.toArray) ents i).run P w= .ok (Z (i+j,m.val)) w/\D8 B E L=Z J/\es'=es.set j (.agg E.toArray,y)
 |[],es',ents,i,he,h=>by
  cases ents with
  |nil=>simp[Y6,ah]at h;exact .inl ⟨by simp[cZ],by simp[h]⟩
  |cons _ _=>simp at he
 |(L,v')::es,es',ents,i,he,h=>by
  cases ents with
  |nil=>simp at he
  |cons m ents=>
   simp[cD,eX]at he;let⟨z,he2⟩:=he;simp[Y6]at h;split at h
   next I=>simp[ah]at h;refine .inr ⟨0,m,L,v',rfl,rfl,?_,I,by simp[h]⟩;rw[cZ,z];simp[rZ K I w]
   .rename_i I;split at h
    .rename_i es2 hes2;simp[ah]at h;subst h;rcases Vi K w es es2 ents (i+1) he2 hes2 with ⟨h1,h2⟩|⟨j,m',k'',v'',h1,h2,h3,h4,h5⟩
     .refine .inl ⟨?_,by simp[h2]⟩;rw[cZ,z];simp[rZ K I w,h1]
     .refine .inr ⟨j+1,m',k'',v'',by simpa using h1,by simpa using h2,?_,h4,by simp[h5]⟩;rw[cZ,z];simp[rZ K I w,h3];omega
    .cases h
   .cases h
def Vk (K:EH P s C B) (w:World):∀(es es':Y k?) (ents:Y MapEntry) (i:Nat),ents.map (·.key)=es.map (·.1)->Y7 B E es=Z es'->
 ((cZ s (.agg E.toArray) ents i).run P w= .ok U w/\es'=es)\/∃(j:Nat) (m:MapEntry),j<l! es/\ents[j]? =Z m/\(cZ s (.agg E.toArray) ents i).run P w= .ok (Z (i+j,m.val)) w/\es'=es.eraseIdx j
 |[],es',ents,i,he,h=>by
  cases ents with
  |nil=>simp only[Y7,ah]at h;exact .inl ⟨by simp[cZ],h.symm⟩
  |cons _ _=>simp at he
 |(k',v')::es,es',ents,i,he,h=>by
  cases ents with
  |nil=>simp at he
  |cons m ents=>
   simp[cD,eX]at he;let⟨z,he2⟩:=he;simp[Y7]at h;split at h
   next A=>simp[ah]at h;refine .inr ⟨0,m,by simp,rfl,?_,by simp[h]⟩;rw[cZ,z];simp[rZ K A w]
   .rename_i A;split at h
    .rename_i es2 hes2;simp[ah]at h;subst h;rcases Vk K w es es2 ents (i+1) he2 hes2 with ⟨h1,h2⟩|⟨j,m',h1,h2,h3,h5⟩
     .refine .inl ⟨?_,by simp[h2]⟩;rw[cZ,z];simp[rZ K A w,h1]
     .refine .inr ⟨j+1,m',by simp;omega,by simpa using h2,?_,by simp[h5]⟩;rw[cZ,z];simp[rZ K A w,h3];omega
    .cases h
   .cases h
def NC:∀{ds:Y TypeDesc} {L A:ξ},jL ds (L.map .raw) (A.map .raw)=Z J->L=A/\∀x∈L,∀n,mr n x x=J
 |[],[],[],_=>⟨rfl,λx I=>by cases I⟩
 |[],[],_::_,h|[],_::_,A,h|_::_,[],A,h|_::_,_::_,[],h=>by simp[jL]at h
 |d::ds,k::L,v::A,h=>by
  simp only[cD,jL]at h;split at h
  .rename_i z;let⟨e1,e2⟩:=NC h;have key:k=v/\∀n,mr n k k=J:=by
    cases d<;>cases k<;>cases v<;>simp only[wL]at z<;>first|(cases z;done)|skip
    .simp only[ah,cU]at z;subst z;exact⟨rfl,λn=>by cases n<;>simp[mr]⟩
    .split at z
     next hk=>have hk:=eq_of_beq hk;simp only[ah,cU]at z;subst z hk;exact⟨rfl,λn=>by cases n<;>simp[mr]⟩
     .cases z
    .simp only[ah]at z;have:=xP.1 z;subst this;exact⟨rfl,λn=>by cases n<;>simp[mr,Dx,z]⟩
   refine ⟨by rw[key.1,e1],λx I n=>?_⟩;rcases bh.1 I with rfl|I
   .exact key.2 n
   .exact e2 x I n
  .cases h
  .cases h
def aj8 (h:D8 B E v=Z J):v= .agg E.toArray/\mr 10000 (.agg E.toArray) (.agg E.toArray)=J:=by
 unfold D8 at h;split at h
 .rename_i I;let⟨e1,e2⟩:=NC h;refine ⟨by rw[e1],?_⟩;rw[mr];simp only[cj,lU,iF];rintro⟨x,y⟩ hxy;have L:x=y/\x∈E:=by
   rw[List.mem_iff_getElem?]at hxy
   grind
  grind
 .cases h
def aa2 {I:TypeId} (z:P.underlying s=Z (.pointer I)) (A:M Addr) (w:World):(Op.equal s (.pointer A) (.pointer U)).run P w= .ok A.isNone w:=by
 have key:∀d,(Op.equalIn (d+1) s (.pointer A) (.pointer U)).run P w= .ok A.isNone w:=λd=>by cases A<;>simp[Op.equalIn,run_underlying z]
 exact key 9999
def amp {neg:Bool} {op:BinOp} {y:Operand} {t' el:TypeId} (ho:o.op= .binOp op s c y t') (hop:op=if neg then .neq else .eql) (hy:y= .const (.pointer U)) (hu:P.underlying s=Z (.pointer el)) (I:dE (.jw neg c) e h nx=Z R):gC P o e.get h.get R.eff:=by
 have key:∀(w:World) (ρ:Operand->Value) (A:M Addr),ρ c= .pointer A->ρ y= .pointer U->(execOp ρ o).run P w= .ok (.value (.bool (A.isNone !=neg))) w:=by
  intro w ρ A h1 h2;unfold execOp;rw[ho];simp[h1,h2];subst hop;cases neg<;>simp[eqGuard,binOp,aa2 hu]
 have hyv:∀a:Act,a.eval y= .pointer U:=λa=>by rw[hy];rfl
 simp[dE]at I;split at I
 .rename_i id off L;rw[dx I];refine gC.reads λφ E h' w a _ hp _=>?_
  have h1:=hp c _ (by rw[ho];simp[Op.operands]) L;generalize hz:a.eval c=z at h1;cases h1 with
  |K hφ=>exact⟨_,key w a.eval _ hz (hyv a),by simpa[raw] using ch.f (.raw _)⟩
 .rename_i cells off L;rw[dx I];refine gC.reads λφ E h' w a _ hp _=>?_
  have h1:=hp c _ (by rw[ho];simp[Op.operands]) L;generalize hz:a.eval c=z at h1;cases h1 with
  |f h1=>
   cases h1 with
   |K=>exact⟨_,key w a.eval _ hz (hyv a),by simpa[raw] using ch.f (.raw _)⟩
 .rename_i L;rw[dx I];refine gC.reads λφ E h' w a _ hp _=>?_
  have h1:=fJ (hp c _ (by rw[ho];simp[Op.operands]) L);exact⟨_,key w a.eval _ h1 (hyv a),by simpa[raw] using ch.f (.raw _)⟩
 .cases I
def r9:∀{A:Y Field} {k:Nat} {ds:Y TypeDesc},lV P k A=Z ds->l! ds=l! A
 |[],k,ds,h=>by simp[lV,ah]at h;subst h;rfl
 |f::A,k,ds,h=>by
  simp[lV]at h;split at h
  .rename_i d ds' _ z;split at h
   .simp[ah]at h;subst h;rw[jW,r9 z,jW]
   .cases h
  .cases h
def Zu {y:M AV} (h:y.bind (afs B)=Z E):∃v,y=Z v/\aft v=Z E/\l! E=l! B:=by
 cases y with
 |none=>cases h
 |some v=>
  unfold afs at h
  grind
def azn {kt el:TypeId} {k:Operand} (ho:o.op= .lookup s c k af) (hu:P.underlying s=Z (.map kt el)) (K:EH P kt C B) (L:(P.info? el).bind (·.zero)=Z v) (A:dE (.lkq B v c k) e h nx=Z R):gC P o e.get h.get R.eff:=by
 simp[dE]at A;split at A
 .rename_i id ks hx hkx;let⟨yk,hkx,hkl,hkn⟩:=Zu hkx;split at A
  .rename_i es hid;have zrun:∀w:World,(zeroValue el).run P w= .ok v w:=λw=>by
    cases hi:P.info? el with
    |none=>rw[hi]at L;cases L
    |some i=>rw[hi]at L;simp[aB]at L;simp[zeroValue,typeInfo,hi,L]
   have main:∀r,Jo B ks es=Z r->∀(φ:PM) (E:Nat->Prop) (h':HF) (w:World) (a:Act),h' id=Z ⟨0,.mp es⟩->Rel φ E h' w a e o->sV φ E h' w->
    ∃z,(execOp a.eval o).run P w= .ok (.value z) w/\ch φ (tot E φ h') w (match r with|some z=>z|none=>raw v) z:=by
    intro r hr φ E h' w a hb' hp hrep;have hrx:=hp c _ (by rw[ho];simp[Op.operands]) hx;have hrk:=MS hkl (hp k _ (by rw[ho];simp[Op.operands]) hkx);generalize I:a.eval c=zz at hrx;cases hrx with
    |@mp _ b hφ=>
     let⟨k',q1,_,ob,q2,q3⟩:=hrep.at_ id _ hb';rw[hφ]at q1;cases q1;obtain⟨ents,clock,rfl,q4,q5⟩:=q3;have hlen:l! C.toList<=ks.toArray.size:=by have:=r9 K.hp;simp only[C5];omega
     have hck:=aba K ents.isEmpty hlen w;have hfk:=Cx (P:=P) K (.agg ks.toArray) ents.toList w;rcases WM K w es ents.toList 0 q4 r hr with ⟨h1,h2⟩|⟨j,z,m,k',h1,h2,h3,h4⟩
     .subst h1;rw[h2]at hfk;refine ⟨_,?_,.f (.raw v)⟩;unfold execOp;rw[ho];simp[Instr.lookup,run_underlying hu,I,hrk,getObj,kY,q2,hck,hfk,zrun]
     .subst h1;rw[h4]at hfk;let⟨_,h6,h7⟩:=q5 j _ h2;obtain⟨m',h6,rfl⟩:=h6;rw[c6]at h3;rw[h3]at h6;cases h6;refine ⟨_,?_,h7⟩;unfold execOp;rw[ho];simp[Instr.lookup,run_underlying hu,I,hrk,getObj,kY,q2,hck,hfk]
   split at A
   next z hf=>simp[ah]at A;subst A;exact gC.reads λφ E h' w a hrd hp hrep=>main _ hf φ E h' w a (by grind) hp hrep
   next hf=>simp[ah]at A;subst A;exact gC.reads λφ E h' w a hrd hp hrep=>main _ hf φ E h' w a (by grind) hp hrep
   .cases A
  .cases A
 .cases A
def azi {kt el:TypeId} {k y:Operand} (ho:o.op= .mapUpdate s c k y) (hu:P.underlying s=Z (.map kt el)) (K:EH P kt C B) (z:dE (.mpq B c k y) e h nx=Z R):gC P o e.get h.get R.eff:=by
 simp only[dE]at z;split at z
 .rename_i id A v L hkx hy;let⟨yk,hkx,hkl,hkn⟩:=Zu hkx;split at z
  .rename_i es hid;split at z
   .rename_i es' hput;cases z;refine gC.writes hid λφ E h' w a hrd hb' hp hrep=>?_
    have hrx:=hp c _ (by rw[ho];simp[Op.operands]) L;have hrk:=MS hkl (hp k _ (by rw[ho];simp[Op.operands]) hkx);have hry:=hp y _ (by rw[ho];simp[Op.operands]) hy;generalize I:a.eval c=zz at hrx;cases hrx with
    |@mp _ b hφ=>
     let⟨k',q1,_,ob,q2,q3⟩:=hrep.at_ id _ hb';rw[hφ]at q1;cases q1;obtain⟨ents,clock,rfl,q4,q5⟩:=q3;have q4:ents.toList.map (·.key)=es.map (·.1):=by unfold MpK at q4;exact q4
     have q5:∀(j:Nat) c,es[j]? =Z c->∃m,ents[j]? =Z m/\ch φ (tot E φ h') w c.2 m.val:=λj c L=>by
      let⟨_,g1,g2⟩:=q5 j c L;unfold MpV at g1
      grind
     have Jv:∀(es:Y k?) (ents:Array MapEntry) (clock:Nat),ents.toList.map (·.key)=es.map (·.1)->(∀(j:Nat) c,es[j]? =Z c->∃m,ents[j]? =Z m/\ch φ (tot E φ h') w c.2 m.val)->ii φ (tot E φ h') w ⟨0,.mp es⟩ (.map ents clock):=λes ents clock g1 g2=>⟨ents,clock,rfl,by unfold MpK;exact g1,λj c L=>by
      let⟨m,g3,g4⟩:=g2 j c L;exact⟨_,by unfold MpV;exact⟨m,g3,rfl⟩,g4⟩⟩
     have hck:=aba K af (cs:=A.toArray) (by have:=r9 K.hp;simp only[C5];omega) w;have hfk:=Cx (P:=P) K (.agg A.toArray) ents.toList w;have hlen:ents.size=l! es:=by have:=d_ aj q4;simpa using this
     rcases Vi K w es es' ents.toList 0 q4 hput with ⟨h1,rfl⟩|⟨j,m,k',v',h1,h2,h3,h4,rfl⟩
     .rw[h1]at hfk;refine ⟨.skip,_,b,.map (ents.push {key:=.agg A.toArray,val:=a.eval y,born:=clock}) (clock+1),?_,hφ,vS q2 (by simp) (by simp),Jv _ _ _ (by simp[q4]) λj q hq=>?_,undef,.inr ⟨rfl,rfl⟩,.f (.raw _)⟩
      .unfold execOp;rw[ho];simp[Instr.mapUpdate,run_underlying hu,I,hrk,getObj,kY,q2,hck,hfk,setObj]
      .rcases cN j (l! es) with hj|hj
       .grind
       .rw[bS hj]at hq;have hj0:j-l! es=0:=by grind
        rw[hj0]at hq;simp at hq;subst hq;exact⟨_,by rw[Array.getElem?_push,aC (by omega)],hry⟩
     .obtain⟨s2,s1⟩:=aj8 h4;subst s2;rw[h3]at hfk;rw[c6]at h2;rw[bZ]at hfk;have hjl:j<ents.size:=(dw.1 h2).1;have hmk:m.key= .agg A.toArray:=by
       have e1:(ents.toList.map (·.key))[j]? =Z m.key:=by grind
       grind
      refine ⟨.skip,_,b,.map (ents.modify j λe=>{e with key:=.agg A.toArray,val:=a.eval y}) clock,?_,hφ,vS q2 (by simp) (by simp),Jv _ _ _ ?_ λi q hq=>?_,undef,.inr ⟨rfl,rfl⟩,.f (.raw _)⟩
      .unfold execOp;rw[ho];simp[Instr.mapUpdate,run_underlying hu,I,hrk,getObj,kY,q2,hck,hfk,setObj,h2,hmk,Instr.keyThatStays,s1]
      .apply Sl;intro i;simp only[bE,c6,iR,Array.getElem?_modify];have e2:∀i:Nat,(ents[i]?).map (λm:MapEntry=>m.key)=(es[i]?).map (λp:Value×AV=>p.1):=λi=>by
        have:=d_ (λl=>l[i]?) q4
        grind
       grind
      .grind
   .cases z
  .cases z
 .cases z
def IK {α β:Type} (f:α->β):∀(l:Y α) (j:Nat),(l.map f).eraseIdx j=(l.eraseIdx j).map f
 |[],_|_::_,0=>rfl
 |x::r,j+1=>by simp[cD,List.eraseIdx_cons_succ,IK f r j]
def azt {t2 kt el:TypeId} {k:Operand} (ho:o.op= .call {callee:=.builtin .delete,args:=#[c,k],argTypes:=#[s,t2]}) (hu:P.underlying s=Z (.map kt el)) (K:EH P kt C B) (z:dE (.dlq B c k) e h nx=Z R):gC P o e.get h.get R.eff:=by
 simp[dE]at z;split at z
 .rename_i id ks I hkx;let⟨yk,hkx,hkl,hkn⟩:=Zu hkx;split at z
  .rename_i es hid;split at z
   .rename_i es' hput;cases z;refine gC.writes hid λφ E h' w a hrd hb' hp hrep=>?_
    have hrx:=hp c _ (by rw[ho];simp[Op.operands,eT]) I;have hrk:=MS hkl (hp k _ (by rw[ho];simp[Op.operands,eT]) hkx);generalize A:a.eval c=zz at hrx;cases hrx with
    |@mp _ b hφ=>
     let⟨k',q1,_,ob,L,q3⟩:=hrep.at_ id _ hb';rw[hφ]at q1;cases q1;obtain⟨ents,clock,rfl,q4,q5⟩:=q3;have q5:∀(j:Nat) c,es[j]? =Z c->∃m,ents[j]? =Z m/\ch φ (tot E φ h') w c.2 m.val:=λj c I=>by
      let⟨_,g1,g2⟩:=q5 j c I;unfold MpV at g1
      grind
     have Jv:∀(es:Y k?) (ents:Array MapEntry) (clock:Nat),ents.toList.map (·.key)=es.map (·.1)->(∀(j:Nat) c,es[j]? =Z c->∃m,ents[j]? =Z m/\ch φ (tot E φ h') w c.2 m.val)->ii φ (tot E φ h') w ⟨0,.mp es⟩ (.map ents clock):=λes ents clock g1 g2=>⟨ents,clock,rfl,by unfold MpK;exact g1,λj c I=>by
      let⟨m,g3,g4⟩:=g2 j c I;exact⟨_,by unfold MpV;exact⟨m,g3,rfl⟩,g4⟩⟩
     have hck:=aba K ents.isEmpty (cs:=ks.toArray) (by have:=r9 K.hp;simp only[C5];omega) w;have hfk:=Cx (P:=P) K (.agg ks.toArray) ents.toList w;rcases Vk K w es es' ents.toList 0 q4 hput with ⟨h1,rfl⟩|⟨j,m,h1,h2,h3,rfl⟩
     .rw[h1]at hfk;refine ⟨.value (.tuple #[]),_,b,.map ents clock,?_,hφ,vS L (by simp) (by simp),Jv _ _ _ q4 q5,_,.inl rfl,ch.qp (vs:=[]) rfl (by simp)⟩;unfold execOp;rw[ho];simp[resolve,invoke,builtin,Builtin.delete_,run_underlying hu,A,hrk,getObj,kY,L,hck,hfk,setObj]
     .rw[h3]at hfk;have hel:(ents.eraseIdxIfInBounds j).toList=ents.toList.eraseIdx j:=by simp_all
      refine ⟨.value (.tuple #[]),_,b,.map (ents.eraseIdxIfInBounds j) clock,?_,hφ,vS L (by simp) (by simp),Jv _ _ _ ?_ λi q hq=>?_,_,.inl rfl,ch.qp (vs:=[]) rfl (by simp)⟩
      .unfold execOp;rw[ho];simp[resolve,invoke,builtin,Builtin.delete_,run_underlying hu,A,hrk,getObj,kY,L,hck,hfk,setObj]
      .rw[hel,<-IK,q4,IK]
      .grind
   .cases z
  .cases z
 .cases z
end
def bind_some {β:Type} {x:M R} {f:R->M β} {y:β} (h:x.bind f=Z y):∃a,x=Z a/\f a=Z y:=by
 cases x with
 |none=>cases h
 |some a=>exact⟨a,rfl,h⟩
def map_some {β:Type} {x:M R} {f:R->β} {y:β} (h:x.map f=Z y):∃a,x=Z a/\f a=y:=by simp_all
def me {x:M R} {y:R} (h:(if b then x else U)=Z y):b=J/\x=Z y:=by grind
def Mu {o:Oper} {e:EJ} {h:mY} {s:U0} {R:EG} (A:cM P o.op=Z s) (L:dE s e h i=Z R):gC P o e.get h.get R.eff:=by
 unfold cM at A;split at A
 next x I=>cases A;exact azh (.inl I) L
 next x I=>cases A;exact azh (.inr I) L
 next c a b I=>cases A;exact avb I L
 next t I=>let⟨z,h1,A⟩:=bind_some A;let⟨h2,A⟩:=me A;cases A;exact ar7 I h1 h2 L
 next t x I=>cases A;exact azw I L
 .rename_i t ps I;split at A
  next fs hu=>let⟨z,h1,A⟩:=bind_some A;let⟨h2,A⟩:=me A;obtain⟨ps',h3,rfl⟩:=map_some A;simp only[al]at h2;exact aez I h1 h2.1 h3 (.inl ⟨fs,hu,h2.2⟩) L
  next n el hu=>let⟨z,h1,A⟩:=bind_some A;let⟨h2,A⟩:=me A;obtain⟨ps',h3,rfl⟩:=map_some A;simp only[al]at h2;let⟨sz,h4⟩:=ru.1 h2.2;exact aez I h1 h2.1 h3 (.inr ⟨n,el,sz,hu,h4⟩) L
  .cases A
 next t n ps I=>let⟨el,h1,A⟩:=bind_some A;let⟨z,h2,A⟩:=bind_some A;let⟨sz,h3,A⟩:=bind_some A;let⟨h4,A⟩:=me A;obtain⟨ps',h5,rfl⟩:=map_some A;simp only[al,cU,bne_iff_ne]at h4;exact azv I (uH h1) h2 h3 h4.1.1.1 h4.1.1.2 h4.2 (aY h4.1.2) h5 L
 next t x I=>let⟨sz,h1,A⟩:=bind_some A;obtain⟨ag,h2,rfl⟩:=map_some A;exact ave I h1 h2 L
 next t x v I=>obtain⟨sz,h1,rfl⟩:=map_some A;exact ar6 I h1 L
 next x I=>cases A;exact avc I L
 .rename_i op t x y t' I;split at A
  .cases A;exact ata I L
  .cases A;exact ata I L
  .rename_i hu;split at A
   .cases A;exact at9 (neg:=af) I rfl hu L
   .cases A;exact at9 (neg:=J) I rfl hu L
   .cases A
  .rename_i el hu;split at A
   .cases A;exact aey (neg:=af) I rfl rfl hu L
   .cases A;exact aey (neg:=J) I rfl rfl hu L
   .cases A
  .rename_i el hu;split at A
   .cases A;exact amp (neg:=af) I rfl rfl hu L
   .cases A;exact amp (neg:=J) I rfl rfl hu L
   .cases A
  .rename_i fs hu;let⟨ds,h1,A⟩:=bind_some A;unfold EY at h1;rw[hu]at h1;simp only[]at h1;split at h1
   .cases h1
   .rename_i hst;have hst:P.stoodInHeld t=af:=by simpa using hst
    split at A
    .cases A;exact at8 (neg:=af) I rfl hu hst h1 L
    .cases A;exact at8 (neg:=J) I rfl hu hst h1 L
    .cases A
  .cases A
 next t x I=>cases A;exact azf I L
 .rename_i t x I;split at A
  .cases A;exact azg I L
  .cases A
 .rename_i s' d x I;split at A
  next k k' h1 h2=>cases A;exact avj I h1 h2 L
  .cases A
 next t l c I=>let⟨el,h1,A⟩:=bind_some A;let⟨z,h2,A⟩:=bind_some A;let⟨sz,h3,A⟩:=bind_some A;let⟨b,h5,A⟩:=bind_some A;let⟨h4,A⟩:=me A;simp only[al,cU,bne_iff_ne]at h4;cases A;exact avd I (uH h1) h2 h3 h5 h4.1.1 h4.1.2 h4.2 L
 next t x lo hi mx I=>let⟨el,h1,A⟩:=bind_some A;obtain⟨sz,h2,rfl⟩:=map_some A;exact azc I (uH h1) h2 L
 .rename_i t x k I;split at A
  next fs hu=>let⟨f,h1,A⟩:=bind_some A;let⟨sz,h2,A⟩:=bind_some A;let⟨h3,A⟩:=me A;cases A;exact azr I hu h1 h2 (by simpa using h3) L
  .cases A
 .rename_i t x k I;split at A
  next fs hu=>let⟨f,h1,A⟩:=bind_some A;let⟨sz,h2,A⟩:=bind_some A;obtain⟨ag,h3,rfl⟩:=map_some A;exact azq I hu h1 h2 h3 L
  .cases A
 .rename_i t x nx I;split at A
  next el hu=>obtain⟨sz,h1,rfl⟩:=map_some A;exact azp I hu h1 L
  next n el hu=>obtain⟨sz,h1,rfl⟩:=map_some A;exact avh I hu h1 L
  .cases A
 .rename_i t x nx I;split at A
  next n el hu=>let⟨sz,h1,A⟩:=bind_some A;obtain⟨ag,h2,rfl⟩:=map_some A;exact azo I hu h1 h2 L
  next hu=>cases A;exact av9 I hu L
  .cases A
 next x nx I=>cases A;exact azs I L
 .rename_i f first caps I
  let⟨h1,A⟩:=me A;cases A;have h2:first=#[]:=by simpa using h1
  subst h2;exact azk I L
 .rename_i t I;split at A
  .cases A;exact azj I L
  .cases A
 .rename_i t x k ok I;split at A
  .rename_i kt el hu;split at A
   next q z h1 h2=>let⟨h3,A⟩:=me A;cases A;exact at7 (str:=af) I hu h1 ⟨q,rfl⟩ h2 L
   next z h1 h2=>let⟨h3,A⟩:=me A;cases A;exact at7 (str:=J) I hu h1 rfl h2 L
   next fs z h1 h2=>let⟨h3,A⟩:=me A;simp only[al,cS]at h3;obtain⟨ds,h4,rfl⟩:=map_some A;let⟨fs',K⟩:=H_ h4;rw[h3.2]at I;exact azn I hu K h2 L
   .cases A
  .cases A
 .rename_i t m k v I;split at A
  .rename_i kt el hu;split at A
   next q h1=>cases A;exact at6 (str:=af) I hu h1 ⟨q,rfl⟩ L
   next h1=>cases A;exact at6 (str:=J) I hu h1 rfl L
   .obtain⟨ds,h4,rfl⟩:=map_some A;let⟨fs',K⟩:=H_ h4;exact azi I hu K L
   .cases A
  .cases A
 .rename_i t x I;split at A
  next hu=>cases A;exact azd I hu L
  .cases A
 next x I=>cases A;exact aze I L
 .rename_i c I;let⟨callee,args,argTypes⟩:=c;have arr:∀{α:Type} {x:Array α} {l:Y α},x.toList=l->x=l.toArray:=λh=>by rw[<- h]
  unfold X4 at A;simp only[]at A;split at A
  .split at A
   .rename_i x t h1 h2;rw[arr h1,arr h2]at I;split at A
    next el hu=>cases A;exact avg I hu L
    next hu=>cases A;exact avf I hu L
    .cases A
   .cases A
  .split at A
   next x y h1=>rw[arr h1]at I;cases A;exact azm I L
   .cases A
  .split at A
   next x y h1=>rw[arr h1]at I;cases A;exact azl I L
   .cases A
  .split at A
   .rename_i d x t u h1 h2;rw[arr h1,arr h2]at I;split at A
    next el el' h1 h2=>let⟨sz,h3,A⟩:=bind_some A;let⟨h4,A⟩:=me A;cases A;exact avi I (uH h1) (uH h2) h3 L
    .cases A
   .cases A
  .split at A
   .rename_i m k t t2 h1 h2;rw[arr h1,arr h2]at I;split at A
    next kt el hu=>obtain⟨ds,h4,rfl⟩:=map_some A;let⟨fs',K⟩:=H_ h4;exact azt I hu K L
    .cases A
   .cases A
  .split at A
   next x t h1 h2=>rw[arr h1,arr h2]at I;let⟨el,h3,A⟩:=bind_some A;let⟨z,h4,A⟩:=bind_some A;let⟨sz,h5,A⟩:=bind_some A;let⟨h6,A⟩:=me A;simp only[al,cU,bne_iff_ne,ne_eq]at h6;cases A;exact azu I (uH h3) h4 h6.1.1 h6.1.2 h6.2 L
   .cases A
  .split at A
   .rename_i s' x t u h1 h2;rw[arr h1,arr h2]at I;split at A
    next el el' h1 h2=>let⟨sz,h3,A⟩:=bind_some A;let⟨b,h4,A⟩:=bind_some A;let⟨z,h5,A⟩:=bind_some A;let⟨h6,A⟩:=me A;simp only[al,cU,bne_iff_ne]at h6;cases A;exact azx I (uH h1) (uH h2) h3 h4 h5 h6.2 h6.1 L
    .cases A
   .cases A
  .cases A
 .cases A
def nj :∀{l:Y AV},AV.allL p l=J->∀x∈l,AV.all p x=J
 |[],_,x,z=>by cases z
 |y::l,h,x,z=>by
  simp[AV.allL,al]at h;rcases bh.1 z with rfl|z
  .exact h.1
  .exact nj h.2 x z
def ch.restrict {φ':PM} {O':Nat->Prop} (hs:∀i k,p i=J->T i=Z k->φ' i=Z k) (ho:∀k,O' k->O k) (h:ch T O W y v):y.all p=J->ch φ' O' W y v:=by
 induction h with
 |f h=>intro _;exact .f (h.ext (O':=O') (Jd.refl O W) λk _ hk=>ho k hk)
 |K h=>intro hp;exact .K (hs _ _ hp h)
 |sl h hn hc=>intro hp;exact .sl (hs _ _ hp h) hn hc
 |I h hn hc hsh=>intro hp;exact .I (hs _ _ hp h) hn hc hsh
 |emp=>intro _;exact .emp
 |qy=>intro _;exact .qy
 |mp h=>intro hp;exact .mp (hs _ _ hp h)
 |agg hl hcl hr A=>intro hp;exact .agg hl hcl λj y v z L=>A j y v z L (nj hp y (ba z))
 |qp hl hr A=>intro hp;exact .qp hl λj y v z L=>A j y v z L (nj hp y (ba z))
 |qf hl hr A=>intro hp;exact .qf hl λj y v z L=>A j y v z L (nj hp y (ba z))
def ii.restrict {φ':PM} {O':Nat->Prop} {w':World} (hk:∀x v,x.all p=J->ch T O W x v->ch φ' O' w' x v) {o:Obj} (hb:F.c.all p=J) (h:ii T O W F o):ii φ' O' w' F o:=by
 unfold ii at h ⊢;cases L:F.c with
 |fz l=>
  rw[L]at h;let⟨arr,h1,I,A⟩:=h;exact⟨arr,h1,I,λj x z=>by
   let⟨a,v,c,d⟩:=A j x z;refine ⟨a,v,c,hk _ _ ?_ d⟩;simp only[BC.get]at z;cases hl:l[j]? with
   |none=>rw[hl]at z;cases z
   |some q=>rw[hl]at z;simp at z;subst z;rfl⟩
 |mx l=>
  rw[L]at h hb;let⟨arr,h1,I,A⟩:=h;exact⟨arr,h1,I,λj x z=>by
   let⟨a,v,c,d⟩:=A j x z;exact⟨a,v,c,hk _ _ (nj hb x (ba z)) d⟩⟩
 |mp es=>
  rw[L]at h hb;let⟨e,c,h1,I,A⟩:=h;exact⟨e,c,h1,I,λj x z=>by
   let⟨m,a,F⟩:=A j x z;exact⟨m,a,hk _ _ (nj hb x.2 (cC.2 ⟨x,ba z,rfl⟩)) F⟩⟩
 |it s q=>rw[L]at h;exact h
def am9 (m:Nat):ι:=(dA (m+1)).filter λi=>aM m i
def Rg :i∈am9 m↔aM m i=J:=by
 unfold am9;rw[jI,oX];constructor
 .exact λh=>h.2
 .intro h;refine ⟨?_,h⟩;have h1:=Nat.ge_two_pow_of_testBit h;have z:=Nat.lt_two_pow_self (n:=i);omega
def lG (φ:PM) (O:Nat->Prop) (w:World):Y AV->ξ->Prop
 |[],[]=>True
 |x::xs,v::vs=>ch φ O w x v/\lG φ O w xs vs
 |_,_=>False
def lG.length :∀{args:Y AV} {vs:ξ},lG T O W args vs->l! vs=l! args
 |[],[],_=>rfl
 |[],_::_,h|_::_,[],h=>h.elim
 |_::_,_::_,h=>by simp[lG.length h.2]
def lG.mono {φ':PM} {O':Nat->Prop} {w':World} (z:∀x v,x.all p=J->ch T O W x v->ch φ' O' w' x v):∀{args:Y AV} {vs:ξ},AV.allL p args=J->lG T O W args vs->lG φ' O' w' args vs
 |[],[],_,_=>trivial
 |[],_::_,_,h|_::_,[],_,h=>h.elim
 |x::xs,_::_,hp,h=>by
  simp[AV.allL,al]at hp;exact⟨z _ _ hp.1 h.1,lG.mono z hp.2 h.2⟩
def lG.append :∀{xs z:Y AV} {vs A:ξ},lG T O W xs vs->lG T O W z A->lG T O W (xs++z) (vs++A)
 |[],_,[],_,_,h=>h
 |[],_,_::_,_,h,_|_::_,_,[],_,h,_=>h.elim
 |_::_,_,_::_,_,h,h'=>⟨h.1,lG.append h.2 h'⟩
def lG.of :∀{xs:Y AV} {vs:ξ},l! vs=l! xs->(∀(j:Nat) x v,xs[j]? =Z x->vs[j]? =Z v->ch T O W x v)->lG T O W xs vs
 |[],[],_,_=>trivial
 |[],_::_,h,_|_::_,[],h,_=>by simp at h
 |x::xs,v::vs,I,h=>⟨h 0 x v rfl rfl,lG.of (by grind) λj x v z A=>h (j+1) x v (by grind) (by grind)⟩
def HL (P:Program) (f:FuncId):Prop:=∃fn,P.funcs[f]? =Z fn∧fn.body.isNone=af∧(fn.name== "runtime.NumGoroutine")=af
def aa1 {e:EJ} {o:Oper} (hp:Rel T O A W N e o):∀(xs:Y Operand) (z:Y AV),(∀x∈xs,x∈o.op.operands)->evs e xs=Z z->lG T (tot O T A) W z (xs.map N.eval)
 |[],z,_,h=>by simp[evs,ah]at h;subst h;trivial
 |x::xs,z,hm,h=>by
  simp[evs]at h;split at h
  .rename_i y h';split at h
   next ys' hys=>simp[ah]at h;subst h;exact⟨hp x y (hm x (dK ..)) h',aa1 hp xs ys' (λx I=>hm x (cY _ I)) hys⟩
   .cases h
  .cases h
variable {f:FuncId}
def Ah (I:HL P f) (args:Array Value) (w:World):(callFunc f args).run P w= .ok (.enter f args) w:=by
 let⟨fn,h1,h2,L⟩:=I;have z:fn.name≠ "runtime.NumGoroutine" :=by grind
 have A:fn.body≠U:=by grind
 simp[callFunc,program,kY,h1,A,z]
def adx:∀(z:Y FPm) (i:Nat),agm z i=z[i]?
 |[],i=>by simp[agm]
 |f::z,0=>rfl
 |f::z,i+1=>by simp[agm,adx z i]
def AS (h:Kp i m=J) (a:Nat) (z:aM i a=J):aM m a=af:=by
 have h0:i&&&m=0:=au h;have:=Nat.testBit_and i m a
 grind
structure Ctx where
 n0:Nat
 φ:PM
 E:Nat->Prop
 h:HF
 w:World
def YF (P:Program) (d:Deferred):Prop:=∀w:World,∃A cap f args,d.target= .fn A cap/\(invoke d.target d.args).run P w= .ok (.enter f args) w/\
 CallsD P f args .returning w λe z w'=>(∃v,e= .returned v)/\z= .returning/\w'=w
structure Cfg (P:Program) (C:Ctx) (nt:Nat) (s:IS) (a:Act) (w:World):Prop where
 ex:∃φ,jU C.φ φ C.h s.h.get C.w w/\sV φ C.E s.h.get w/\Sf φ (tot C.E φ s.h.get) w s.e.get a/\(∀i k,φ i=Z k->i<s.nx)/\∀i k,φ i=Z k->C.φ i=Z k\/C.n0<=i
 low:C.n0<=s.nx
 inert:∀d∈a.defers,YF P d
 size:a.tmps.size=nt
def Cfg.bool {C:Ctx} {s:IS} (c:Cfg P C i s N W) (ht:s.e.get m=Z (.f (.raw (.bool b)))):N.eval (.tmp m)= .bool b:=by
 let⟨φ,_,_,z,_,_⟩:=c.ex;exact fJ (z m _ ht)
def FE {c:Code} {Q:Exit->Act->World->Prop} (I:Nat->Act->World->Prop) (round:∀n N W,I n N W->c.wp P (Exit.then (λz w'=>∃m,m<n/\I m z w') Q) N W) {n:Nat} (h0:I n N W):(Code.loop c).wp P Q N W:=by
 have least:∀(n:Nat) (N:Act) (W:World),I n N W->∃m,I m N W/\∀k,I k N W->m<=k:=by
  intro n;induction n using Nat.strongRecOn with
  |_ n L=>grind
 have pick:∀N W,∃m,(∃n,I n N W)->I m N W/\∀k,I k N W->m<=k:=λN W=>by
  by_cases hx:∃n,I n N W
  .grind
  .simp_all
 let μ:Act->World->Nat:=λN W=>Classical.choose (pick N W)
 have hμ:∀N W,(∃n,I n N W)->I (μ N W) N W/\∀k,I k N W->μ N W<=k:=λN W=>Classical.choose_spec (pick N W)
 refine wp_loop (λN W=>∃n,I n N W) μ ⟨n,h0⟩ λN W A=>?_
 refine wp_mono (round (μ N W) N W (hμ N W A).1) λe z w' he=>?_
 cases e with
 |normal=>grind
 |_=>exact he
def Ex.to:Ex->Exit
 |.normal=>.normal
 |.exit id=>.exit id
 |.ret=>.ret
def Pd (P:Program) (inert:FuncId->Bool):Prop:=∀f,inert f=J->HL P f/\∀(args:Array Value) (w:World),CallsD P f args .returning w λe z w'=>(∃v,e= .returned v)/\z= .returning/\w'=w
def ajf (tmps:Array Value):ResultVar->Sem Value
 |.tmp t=>pure (tmps.getD t undef)
 |.cell a t=>do
  let z<-asAddr (tmps.getD a undef)
  loadVar t z
def Y_ (fn:Func) (tmps:Array Value):results fn tmps=(do let vs<-fn.results.mapM (ajf tmps);pure (if h:vs.size=1 then vs[0] else .tuple vs)):=by
 congr 2
def Gf {P:Program} {fn:Func} {tmps:Array Value} {R:Ending->World->Prop} {w:World} {v:Value} (z:(results fn tmps).run P w= .ok v w) (A:R (.returned v) w):∀(ds:Y Deferred),(∀d∈ds,YF P d)->Leaves P fn tmps R ds .returning w
 |[],_=>⟨v,z,A⟩
 |d::ds,h=>by
  let⟨fv,cap,f,args,h1,L,I⟩:=h d (dK ..) w;refine ⟨by simp,fv,cap,f,args,h1,L,I.mono ?_⟩;rintro e u' w' ⟨⟨v',rfl⟩,rfl,rfl⟩;exact Gf z A ds λd hd=>h d (cY _ hd)
def lG.get :∀{xs:Y AV} {vs:ξ},lG T O W xs vs->∀(j:Nat) x,xs[j]? =Z x->∃v,vs[j]? =Z v/\ch T O W x v
 |[],_,_,j,x,z=>by simp at z
 |_::_,[],h,_,_,_=>h.elim
 |y::xs,u::vs,h,j,x,z=>by
  cases j with
  |zero=>simp at z;subst z;exact⟨u,rfl,h.1⟩
  |succ j=>exact lG.get h.2 j x (by grind)
def X3 {z:SF} (h:CP P f=Z z):∃fn c,P.funcs[f]? =Z fn∧fn.body=Z c∧(fn.name== "runtime.NumGoroutine")=af∧z.code=cu P fn.ntmps c∧xL P fn.results.toList=Z z.res∧z.nt=fn.ntmps:=by
 unfold CP at h
 grind
def aqs {b:Value} (h:auz v b=J):v=b:=by
 unfold auz at h;split at h
 .simp at h;rw[h]
 .grind
 .rw[xP.1 h]
 .simp_all
 .rfl
 .grind
 .cases h
end
end Go.Proofs.YtocjfbiifiaagaaGreatDoor.AI
