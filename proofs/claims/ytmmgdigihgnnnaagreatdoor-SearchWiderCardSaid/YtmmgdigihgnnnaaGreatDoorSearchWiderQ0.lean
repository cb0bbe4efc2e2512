/-
  Texts of the proof, part 1 of 6: what is used to prove the statement. No condition.
-/
import Derived.WalkKit
import Derived.Lib.Hide
import Derived.Deep.QuietTactic
import Derived.WalkSpells
import Derived.Laws.CopyRow
import Derived.Deep.AppendSrc
import Derived.Laws.AppendOwn
import Derived.Laws.BytesString
import Derived.Lib.ConvBytes
import Derived.Defers
namespace Prod
variable {A0 A1 A2 A3 A4 A5 A6 A7 A8 A9 A10 A11 A12 A13 A14 A15 A16 A17 A18 A19 A20 A21 A22 A23 A24:Type}
abbrev a (x:A0×A1×A2×A3):A2:=x.2.2.1
abbrev b (x:A0×A1×A2×A3×A4):A3:=x.2.2.2.1
abbrev d (x:A0×A1×A2×A3):A3:=x.2.2.2
abbrev c (x:A0×A1×A2×A3×A4×A5):A4:=x.2.2.2.2.1
abbrev e (x:A0×A1×A2×A3×A4):A4:=x.2.2.2.2
abbrev f (x:A0×A1×A2×A3×A4×A5×A6):A5:=x.2.2.2.2.2.1
abbrev g (x:A0×A1×A2×A3×A4×A5):A5:=x.2.2.2.2.2
abbrev h (x:A0×A1×A2×A3×A4×A5×A6×A7):A6:=x.2.2.2.2.2.2.1
abbrev i (x:A0×A1×A2×A3×A4×A5×A6):A6:=x.2.2.2.2.2.2
abbrev k (x:A0×A1×A2×A3×A4×A5×A6×A7×A8):A7:=x.2.2.2.2.2.2.2.1
abbrev j (x:A0×A1×A2×A3×A4×A5×A6×A7):A7:=x.2.2.2.2.2.2.2
abbrev p8 (x:A0×A1×A2×A3×A4×A5×A6×A7×A8×A9):A8:=x.2.2.2.2.2.2.2.2.1
abbrev l (x:A0×A1×A2×A3×A4×A5×A6×A7×A8):A8:=x.2.2.2.2.2.2.2.2
abbrev m (x:A0×A1×A2×A3×A4×A5×A6×A7×A8×A9×A10):A9:=x.2.2.2.2.2.2.2.2.2.1
abbrev o (x:A0×A1×A2×A3×A4×A5×A6×A7×A8×A9):A9:=x.2.2.2.2.2.2.2.2.2
abbrev n (x:A0×A1×A2×A3×A4×A5×A6×A7×A8×A9×A10×A11):A10:=x.2.2.2.2.2.2.2.2.2.2.1
abbrev s (x:A0×A1×A2×A3×A4×A5×A6×A7×A8×A9×A10):A10:=x.2.2.2.2.2.2.2.2.2.2
abbrev q (x:A0×A1×A2×A3×A4×A5×A6×A7×A8×A9×A10×A11×A12):A11:=x.2.2.2.2.2.2.2.2.2.2.2.1
abbrev r (x:A0×A1×A2×A3×A4×A5×A6×A7×A8×A9×A10×A11):A11:=x.2.2.2.2.2.2.2.2.2.2.2
abbrev p (x:A0×A1×A2×A3×A4×A5×A6×A7×A8×A9×A10×A11×A12×A13):A12:=x.2.2.2.2.2.2.2.2.2.2.2.2.1
abbrev t (x:A0×A1×A2×A3×A4×A5×A6×A7×A8×A9×A10×A11×A12×A13×A14):A13:=x.2.2.2.2.2.2.2.2.2.2.2.2.2.1
abbrev u (x:A0×A1×A2×A3×A4×A5×A6×A7×A8×A9×A10×A11×A12×A13):A13:=x.2.2.2.2.2.2.2.2.2.2.2.2.2
abbrev v (x:A0×A1×A2×A3×A4×A5×A6×A7×A8×A9×A10×A11×A12×A13×A14×A15):A14:=x.2.2.2.2.2.2.2.2.2.2.2.2.2.2.1
abbrev z (x:A0×A1×A2×A3×A4×A5×A6×A7×A8×A9×A10×A11×A12×A13×A14):A14:=x.2.2.2.2.2.2.2.2.2.2.2.2.2.2
abbrev w (x:A0×A1×A2×A3×A4×A5×A6×A7×A8×A9×A10×A11×A12×A13×A14×A15×A16):A15:=x.2.2.2.2.2.2.2.2.2.2.2.2.2.2.2.1
abbrev y (x:A0×A1×A2×A3×A4×A5×A6×A7×A8×A9×A10×A11×A12×A13×A14×A15×A16×A17):A16:=x.2.2.2.2.2.2.2.2.2.2.2.2.2.2.2.2.1
abbrev B (x:A0×A1×A2×A3×A4×A5×A6×A7×A8×A9×A10×A11×A12×A13×A14×A15×A16×A17×A18):A17:=x.2.2.2.2.2.2.2.2.2.2.2.2.2.2.2.2.2.1
abbrev G (x:A0×A1×A2×A3×A4×A5×A6×A7×A8×A9×A10×A11×A12×A13×A14×A15×A16×A17):A17:=x.2.2.2.2.2.2.2.2.2.2.2.2.2.2.2.2.2
abbrev C (x:A0×A1×A2×A3×A4×A5×A6×A7×A8×A9×A10×A11×A12×A13×A14×A15×A16×A17×A18×A19):A18:=x.2.2.2.2.2.2.2.2.2.2.2.2.2.2.2.2.2.2.1
abbrev q18 (x:A0×A1×A2×A3×A4×A5×A6×A7×A8×A9×A10×A11×A12×A13×A14×A15×A16×A17×A18):A18:=x.2.2.2.2.2.2.2.2.2.2.2.2.2.2.2.2.2.2
abbrev D (x:A0×A1×A2×A3×A4×A5×A6×A7×A8×A9×A10×A11×A12×A13×A14×A15×A16×A17×A18×A19×A20):A19:=x.2.2.2.2.2.2.2.2.2.2.2.2.2.2.2.2.2.2.2.1
abbrev q19 (x:A0×A1×A2×A3×A4×A5×A6×A7×A8×A9×A10×A11×A12×A13×A14×A15×A16×A17×A18×A19):A19:=x.2.2.2.2.2.2.2.2.2.2.2.2.2.2.2.2.2.2.2
abbrev E (x:A0×A1×A2×A3×A4×A5×A6×A7×A8×A9×A10×A11×A12×A13×A14×A15×A16×A17×A18×A19×A20×A21):A20:=x.2.2.2.2.2.2.2.2.2.2.2.2.2.2.2.2.2.2.2.2.1
abbrev F (x:A0×A1×A2×A3×A4×A5×A6×A7×A8×A9×A10×A11×A12×A13×A14×A15×A16×A17×A18×A19×A20×A21):A21:=x.2.2.2.2.2.2.2.2.2.2.2.2.2.2.2.2.2.2.2.2.2
abbrev q22 (x:A0×A1×A2×A3×A4×A5×A6×A7×A8×A9×A10×A11×A12×A13×A14×A15×A16×A17×A18×A19×A20×A21×A22):A22:=x.2.2.2.2.2.2.2.2.2.2.2.2.2.2.2.2.2.2.2.2.2.2
end Prod
namespace Go.Proofs.YtmmgdigihgnnnaaGreatDoor.AI
open Go.RowKit
set_option maxRecDepth 100000
set_option maxHeartbeats 4000000
set_option linter.unusedVariables false
set_option linter.unusedSimpArgs false
set_option linter.defProp false
open _root_.Array renaming replicate→mJ,range→Hg,mapM_eq_mapM_toList→P5
open _root_.Bool renaming true→J,false→aa,false_or→nU,eq_iff_iff→yX
open Builtin renaming zeroCells→ml,append_→II,firstCells→OA
open Call renaming operands→em
open Instr renaming sliceBounds→cX,sliceBound→dk,sliceAt→eh,slice→gu,findNow→nS,sureAddr→Oz
open _root_.Int renaming toNat→aN,ofNat→aY,tmod→cC,tdiv→wn
open IntKind renaming wrap→jW
open _root_.List renaming length→l!,length→ah,replicate→aD,length_singleton→a_,take→cu,foldl_cons→dz,drop→ig,toArray→jV,range→mI,mem_of_mem_drop→pW,take_take→su,map_nil→wE,set→CL
open _root_.Nat renaming beq→aB,testBit→aC,blt→dw,ble→dx,add_zero→dL,mod_eq_of_lt→lF,one_shiftLeft→CG,mul_one→He,testBit_two_pow→J7
open Oper renaming wp→K2
open _root_.Option renaming some→Z,none→U,bind_some→aH,map_some→bS
open Region renaming binds→CD,ready→K0
open Result renaming andThen_ok→cM
open Sem renaming run_bind→eM,run_pure→nB,run→rA
open _root_.UInt8 renaming ofNat→AW
open Value.bool renaming injEq→EV
open World renaming shape?→pU,cell?→Ry
noncomputable section
abbrev Y:=@List
abbrev M:=@Option
abbrev ay:=@if_neg
abbrev aK:=@if_pos
abbrev aO:=@decide_eq_true
abbrev aZ:=@of_decide_eq_true
abbrev bc:=@absurd
abbrev bp:=@decide_eq_false
abbrev bB:=@decide_eq_true_eq
abbrev bJ:=@if_true
abbrev c9:=@beq_self_eq_true
abbrev du:=@beq_iff_eq
abbrev fM:=@if_false
abbrev gH:=@or_false
abbrev gW:=@congrArg
abbrev vy:=@of_decide_eq_false
abbrev af:=@Option.some.injEq
abbrev ak:=@Bool.and_eq_true
abbrev ar:=@Nat.eq_of_beq_eq_true
abbrev aA:=@List.getD_eq_getElem?_getD
abbrev aE:=@List.mem_singleton
abbrev aF:=@List.length_append
abbrev aL:=@List.getElem?_eq_getElem
abbrev aV:=@Prod.mk.injEq
abbrev aX:=@Nat.le_of_ble_eq_true
abbrev bi:=@Nat.le_refl
abbrev bj:=@List.length_map
abbrev bk:=@List.mem_cons
abbrev bl:=@List.length_take
abbrev bm:=@List.append_assoc
abbrev bn:=@List.mem_of_getElem?
abbrev bt:=@List.mem_append
abbrev bx:=@Nat.ble_eq_true_of_le
abbrev bD:=@Nat.testBit_or
abbrev bF:=@Nat.lt_or_ge
abbrev bH:=@List.getElem?_eq_some_iff
abbrev bL:=@List.getElem?_map
abbrev bP:=@List.mem_cons_of_mem
abbrev bR:=@List.contains_iff_mem
abbrev b7:=@List.map_append
abbrev b9:=@Nat.zero_add
abbrev cg:=@Nat.mul_le_mul_right
abbrev cj:=@List.mem_cons_self
abbrev cv:=@List.mem_map
abbrev cA:=@Bool.false_eq_true
abbrev cB:=@List.getElem?_append_right
abbrev cD:=@Bool.true_and
abbrev cH:=@List.take_length
abbrev cI:=@List.not_mem_nil
abbrev cJ:=@List.append_nil
abbrev cP:=@Nat.le_trans
abbrev cQ:=@List.all_eq_true
abbrev cR:=@List.length_replicate
abbrev cU:=@List.getElem?_append_left
abbrev cW:=@Array.getElem?_eq_some_iff
abbrev c6:=@Int.le_refl
abbrev dg:=@Nat.lt_of_lt_of_le
abbrev dp:=@Nat.not_lt_zero
abbrev dD:=@List.foldl_append
abbrev dE:=@Bool.not_eq_true'
abbrev dG:=@List.getElem?_take
abbrev dI:=@List.length_set
abbrev dU:=@Nat.zero_le
abbrev dV:=@List.mem_of_mem_take
abbrev dW:=@List.mem_append_left
abbrev eg:=@List.map_cons
abbrev ep:=@Array.getElem?_toList
abbrev eu:=@Bool.or_eq_true
abbrev eO:=@List.getElem?_of_mem
abbrev eX:=@Int.natCast_nonneg
abbrev fd:=@List.length_eq_zero_iff
abbrev fo:=@List.length_drop
abbrev fC:=@Nat.ne_of_beq_eq_false
abbrev fP:=@Option.some.inj
abbrev fY:=@Bool.false_and
abbrev gF:=@List.take_of_length_le
abbrev gG:=@Int.not_lt
abbrev g9:=@Nat.le_succ_of_le
abbrev g_:=@List.getElem?_set
abbrev hX:=@List.flatMap_cons
abbrev hY:=@Array.getD_eq_getD_getElem?
abbrev iz:=@List.getElem?_drop
abbrev iI:=@List.cons.injEq
abbrev jl:=@Nat.add_mul
abbrev jG:=@List.getElem?_eq_none
abbrev jT:=@Option.isSome_iff_exists
abbrev lw:=@List.mem_append_right
abbrev lG:=@List.mem_flatMap
abbrev lJ:=@Nat.or_assoc
abbrev ma:=@Bool.and_eq_true_iff
abbrev mj:=@List.getElem?_replicate
abbrev nC:=@Nat.succ_mul
abbrev nR:=@List.map_take
abbrev oI:=@List.mem_range
abbrev oK:=@List.take_append_drop
abbrev pF:=@Array.getElem?_eq_getElem
abbrev pV:=@List.take_succ_eq_append_getElem
abbrev qW:=@Nat.add_assoc
abbrev qX:=@List.eq_of_mem_replicate
abbrev sr:=@Nat.lt_succ_self
abbrev td:=@Option.map_eq_some_iff
abbrev uv:=@Bool.and_self
abbrev wj:=@List.replicate_succ'
abbrev wD:=@Nat.beq_refl
abbrev wF:=@List.map_map
abbrev xj:=@Classical.byContradiction
abbrev yW:=@List.mem_filter
abbrev CE:=@Nat.sub_self
abbrev CH:=@Nat.mul_comm
abbrev CJ:=@Nat.lt_trichotomy
abbrev CK:=@Nat.lt_succ_of_lt
abbrev D7:=@List.getElem?_toArray
abbrev EW:=@List.drop_append
abbrev E7:=@Nat.lt_irrefl
abbrev Hd:=@Nat.zero_or
abbrev Hf:=@List.take_append_of_le_length
abbrev IH:=@List.sum_append
abbrev J9:=@List.length_take_le
abbrev η:=Y Int
abbrev ζ:=Y UInt8
abbrev θ:=Y Bool
abbrev ι:=Y Nat
abbrev ξ:=Y Value
abbrev ω:=Int×Int×Int×Int×Int×Int
abbrev υ:=Int×Int×Int×Int×Int
abbrev π:=Int×Int×Int
abbrev ν:=Int×Int
inductive FV where
 |raw (v:Value)
 |sl (cells:List FV) (n:Nat)
 |H (cells:List FV) (off:Nat)
 |agg (cells:List FV)
inductive AV where
 |f (x:FV)
 |H (id off:Nat)
 |sl (id off n:Nat)
 |G (id sz n:Nat)
 |mp (id:Nat)
 |emp
 |qj
 |qc (cells:List FV) (n:Nat)
 |agg (cells:List AV)
 |qp (vs:List AV)
 |qv (g:FuncId) (cap:List AV)
def FV.isCell:FV->Bool
 |.raw v=>v.oneCell'
 |.sl _ _=>J
 |.H _ _=>J
 |.agg _=>aa
def AV.isCell:AV->Bool
 |.f x=>x.isCell
 |.H _ _=>J
 |.sl _ _ _=>J
 |.G _ _ _=>J
 |.mp _=>J
 |.emp=>J
 |.qv _ _=>J
 |_=>aa
inductive nA (O:Nat->Prop) (w:World):FV->Value->Prop
 |raw (v:Value):nA O w (.raw v) v
 |nil (a:Option Addr) (c:Nat) (hc:c<=maxLen):nA O w (.sl [] 0) (.slice a 0 c)
 |sl (cells:List FV) (n c b off:Nat) (us:Nat->Value) (hn:n<=c) (hc:c<=maxLen) (hO:¬O b) (hb:b<w.heap.size)
   (hcl:∀x∈cells,x.isCell=J)
   (hu:∀j,j<l! cells->w.cell? ⟨b,off+j,U⟩=Z (us j)) (hr:∀(j:Nat) x,cells[j]? =Z x->nA O w x (us j)):
   nA O w (.sl cells n) (.slice (Z ⟨b,off,U⟩) n c)
 |H (cells:List FV) (o b off:Nat) (us:Nat->Value) (hO:¬O b) (hb:b<w.heap.size)
   (hcl:∀x∈cells,x.isCell=J)
   (hu:∀j,j<l! cells->w.cell? ⟨b,off+j,U⟩=Z (us j)) (hr:∀(j:Nat) x,cells[j]? =Z x->nA O w x (us j)):
   nA O w (.H cells o) (.pointer (Z ⟨b,off+o,U⟩))
 |agg (cells:List FV) (vs:ξ) (hl:l! vs=l! cells) (hcl:∀x∈cells,x.isCell=J)
   (hr:∀(j:Nat) x v,cells[j]? =Z x->vs[j]? =Z v->nA O w x v):nA O w (.agg cells) (.agg vs.toArray)
abbrev PM:=Nat->M Nat
inductive cG (φ:PM) (O:Nat->Prop) (w:World):AV->Value->Prop
 |f {x:FV} {v:Value} (h:nA O w x v):cG φ O w (.f x) v
 |H {id off b:Nat} (h:φ id=Z b):cG φ O w (.H id off) (.pointer (Z ⟨b,off,U⟩))
 |sl {id off n c b:Nat} (h:φ id=Z b) (hn:n<=c) (hc:c<=maxLen):cG φ O w (.sl id off n) (.slice (Z ⟨b,off,U⟩) n c)
 |G {id sz n c b:Nat} (h:φ id=Z b) (hn:n<=c) (hc:c<=maxLen) (hs:∃ty,w.shape? b=Z (ty,c*sz)):
   cG φ O w (.G id sz n) (.slice (Z ⟨b,0,U⟩) n c)
 |emp {a:Option Addr}:cG φ O w .emp (.slice a 0 0)
 |qj {b:Bool}:cG φ O w .qj (.bool b)
 |qc {cells:List FV} {n:Nat} {a:Option Addr} (h:nA O w (.sl cells n) (.slice a n n)):cG φ O w (.qc cells n) (.slice a n n)
 |mp {id b:Nat} (h:φ id=Z b):cG φ O w (.mp id) (.map (Z b))
 |agg {cells:List AV} {vs:ξ} (hl:l! vs=l! cells) (hcl:∀x∈cells,x.isCell=J)
   (hr:∀(j:Nat) x v,cells[j]? =Z x->vs[j]? =Z v->cG φ O w x v):cG φ O w (.agg cells) (.agg vs.toArray)
 |qp {cells:List AV} {vs:ξ} (hl:l! vs=l! cells)
   (hr:∀(j:Nat) x v,cells[j]? =Z x->vs[j]? =Z v->cG φ O w x v):cG φ O w (.qp cells) (.tuple vs.toArray)
 |qv {g:FuncId} {cells:List AV} {vs:ξ} (hl:l! vs=l! cells)
   (hr:∀(j:Nat) x v,cells[j]? =Z x->vs[j]? =Z v->cG φ O w x v):cG φ O w (.qv g cells) (.func (.func g) #[] vs.toArray)
structure ES (O:Nat->Prop) (w w':World):Prop where
 os:w'.os=w.os
 tape:w'.tape=w.tape
 output:w'.output=w.output
 size:w.heap.size<=w'.heap.size
 jv:∀k,k<w.heap.size->¬O k->w'.heap[k]? =w.heap[k]?
 jd:∀k,k<w.heap.size->w'.shape? k=w.shape? k
def ES.refl (O:Nat->Prop) (w:World):ES O w w:=⟨rfl,rfl,rfl,bi _,λ_ _ _=>rfl,λ_ _=>rfl⟩
variable {w:World} {i:Nat}
def G4 {w':World} (h:w'.heap[i]? =w.heap[i]?) (o:Nat):w'.cell? ⟨i,o,U⟩=w.cell? ⟨i,o,U⟩:=by
 unfold Ry;rw[h]
variable {O:Nat->Prop} {v:Value}
def nA.ext {O':Nat->Prop} {w':World} (he:ES O w w') (ho:∀k,k<w.heap.size->O' k->O k) {x:FV} (h:nA O w x v):nA O' w' x v:=by
 induction h with
 |raw v=>exact .raw v
 |nil a c hc=>exact .nil a c hc
 |sl cells n c b off I hn hc D q hcl N hr A=>
  exact .sl cells n c b off I hn hc (λh=>D (ho b q h)) (dg q he.size) hcl (λj hj=>by rw[G4 (he.jv b q D)];exact N j hj) A
 |H cells o b off I D q hcl N hr A=>
  exact .H cells o b off I (λh=>D (ho b q h)) (dg q he.size) hcl (λj hj=>by rw[G4 (he.jv b q D)];exact N j hj) A
 |agg cells vs hl hcl hr A=>exact .agg cells vs hl hcl A
variable {V:PM} {y:AV}
def cG.ext {φ':PM} {O':Nat->Prop} {w':World} (D:∀i k,V i=Z k->φ' i=Z k) (he:ES O w w') (ho:∀k,k<w.heap.size->O' k->O k) (h:cG V O w y v):cG φ' O' w' y v:=by
 induction h with
 |f h=>exact .f (h.ext he ho)
 |H h=>exact .H (D _ _ h)
 |sl h I N=>exact .sl (D _ _ h) I N
 |G h I N hsh=>
  let⟨ty,hty⟩:=hsh;refine .G (D _ _ h) I N ⟨ty,?_⟩;rw[he.jd _ ?_];exact hty;unfold pU at hty
  grind
 |emp=>exact .emp
 |qj=>exact .qj
 |qc h=>exact .qc (h.ext he ho)
 |mp h=>exact .mp (D _ _ h)
 |agg A hcl hr q=>exact .agg A hcl q
 |qp A hr q=>exact .qp A q
 |qv A hr q=>exact .qv A q
inductive BC where
 |fz (l:List FV)
 |mx (l:List AV)
 |mp (es:List (Value×AV))
 |it (s:ByteArray) (pos:Nat)
def BC.get:BC->Nat->M AV
 |.fz l,j=>l[j]?.map AV.f
 |.mx l,j=>l[j]?
 |_,_=>U
def BC.len:BC->Nat
 |.fz l|.mx l=>l! l
 |_=>0
def BC.isCells:BC->Bool
 |.fz _=>J
 |.mx _=>J
 |_=>aa
structure nk where
 ty:TypeId
 c:BC
abbrev HF:=Nat->M nk
def own (φ:PM) (h:HF) (k:Nat):Prop:=∃id b,h id=Z b/\φ id=Z k
def tot (E:Nat->Prop) (φ:PM) (h:HF) (k:Nat):Prop:=E k\/own φ h k
def xi (φ:PM) (O:Nat->Prop) (w:World) (c:BC) (arr:Array Value):Prop:=
 c.len<=arr.size/\∀j x,c.get j=Z x->x.isCell=J/\∃v,arr[j]? =Z v/\cG φ O w x v
abbrev A!:=Value×AV
def MpK (_:TypeId) (q:Y A!) (ents:Array MapEntry):Prop:=ents.toList.map (·.key)=q.map (·.1)
def MpV (_:TypeId) (ents:Array MapEntry) (j:Nat) (_ v:Value):Prop:=∃m,ents[j]? =Z m/\v=m.val
def jS (φ:PM) (O:Nat->Prop) (w:World) (b:nk) (o:Obj):Prop:=
 match b.c with
 |.mp q=>∃ents clock,o= .map ents clock/\MpK b.ty q ents/\∀(j:Nat) x,q[j]? =Z x->∃v,MpV b.ty ents j x.1 v/\cG φ O w x.2 v
 |.it s p=>o= .stringIter s p
 |c=>∃arr,o= .cells arr b.ty (0,0)/\xi φ O w c arr
def ak6 (φ:PM) (O:Nat->Prop) (w:World) (k:Nat) (b:nk):Prop:=∃o,w.heap[k]? =Z o/\jS φ O w b o
variable {z:nk}
def ak6.cells (h:ak6 V O w i z) (q:z.c.isCells=J):
 ∃arr,w.heap[i]? =Z (.cells arr z.ty (0,0))/\xi V O w z.c arr:=by
 let⟨o,h1,h2⟩:=h;unfold jS at h2;cases A:z.c with
 |fz l|mx l=>rw[A]at h2;obtain⟨arr,rfl,h3⟩:=h2;exact⟨arr,h1,h3⟩
 |_=>rw[A]at q;cases q
def jS.mono {φ':PM} {O':Nat->Prop} {w':World} (D:∀x v,cG V O w x v->cG φ' O' w' x v) {o:Obj} (h:jS V O w z o):jS φ' O' w' z o:=by
 unfold jS at h ⊢;cases A:z.c with
 |mp I=>rw[A]at h;let⟨e,c,h1,h2,h3⟩:=h;exact⟨e,c,h1,h2,λj x q=>by let⟨m,a,z⟩:=h3 j x q;exact⟨m,a,D _ _ z⟩⟩
 |it s p=>rw[A]at h;exact h
 |_=>rw[A]at h;let⟨arr,h1,h2,h3⟩:=h;exact⟨arr,h1,h2,λj x q=>by let⟨a,v,c,d⟩:=h3 j x q;exact⟨a,v,c,D _ _ d⟩⟩
def xi.mono {φ':PM} {O':Nat->Prop} {w':World} (A:∀x v,cG V O w x v->cG φ' O' w' x v) {c:BC} {arr:Array Value} (h:xi V O w c arr):xi φ' O' w' c arr:=
 ⟨h.1,λj x q=>by let⟨a,v,c,d⟩:=h.2 j x q;exact⟨a,v,c,A _ _ d⟩⟩
def wy (l:ζ):FV:=.raw (.string ⟨l.toArray⟩)
def FJ:Y FV:=[wy [118,97,114],wy [118,111,108,97,116,105,108,101],wy [109,117,116,101,120],wy [114,119,108,111,99,107],wy [99,111,110,100],wy [102,117,116,117,114,101],wy [116,104,114,101,97,100],wy [105,102],wy [101,108,115,101],wy [119,104,105,108,101],wy [108,111,99,107],wy [114,101,97,100],wy [119,114,105,116,101],wy [116,114,97,110,115,97,99,116,105,111,110],wy [97,116,111,109,105,99],wy [119,97,105,116],wy [110,111,116,105,102,121],wy [110,111,116,105,102,121,97,108,108],wy [115,112,97,119,110],wy [106,111,105,110],wy [115,101,116],wy [103,101,116]]
def G (g:Nat):M (Y FV):=if g==0 then Z FJ else U
structure qE (φ:PM) (E:Nat->Prop) (h:HF) (w:World):Prop where
 inj:∀i j b b' k,h i=Z b->h j=Z b'->φ i=Z k->φ j=Z k->i=j
 at_:∀i b,h i=Z b->∃k,φ i=Z k/\¬E k/\ak6 φ (tot E φ h) w k b
 el:∀k,E k->k<w.heap.size
 gl:∀g cells,G g=Z cells->nA (tot E φ h) w (.H cells 0) (.pointer (Z ⟨g,0,U⟩))
structure iv (φ φ':PM) (h h':HF) (w w':World):Prop where
 sub:∀i k,φ i=Z k->φ' i=Z k
 ext:ES (own φ h) w w'
 qh:∀k,k<w.heap.size->own φ' h' k->own φ h k
def iv.refl (φ:PM) (h:HF) (w:World):iv φ φ h h w w:=⟨λ_ _ h=>h,ES.refl _ _,λ_ _ h=>h⟩
variable {S:HF}
def iv.trans {φ' φ'':PM} {h' h'':HF} {w' w'':World} (m:iv V φ' S h' w w') (n:iv φ' φ'' h' h'' w' w''):iv V φ'' S h'' w w'' where
 sub:=λi k e=>n.sub i k (m.sub i k e)
 ext:=⟨n.ext.os.trans m.ext.os,n.ext.tape.trans m.ext.tape,n.ext.output.trans m.ext.output,cP m.ext.size n.ext.size,
  λk q A=>(n.ext.jv k (dg q m.ext.size) (λS=>A (m.qh k q S))).trans (m.ext.jv k q A),
  λk q=>(n.ext.jd k (dg q m.ext.size)).trans (m.ext.jd k q)⟩
 qh:=λk q S=>m.qh k q (n.qh k (dg q m.ext.size) S)
def ES.mono {O':Nat->Prop} {w':World} (h:ES O w w') (q:∀k,O k->O' k):ES O' w w':=
 ⟨h.os,h.tape,h.output,h.size,λk A D=>h.jv k A (λx=>D (q k x)),h.jd⟩
def iv.qt {φ':PM} {h':HF} {w':World} (m:iv V φ' S h' w w') (r:cG V (tot O V S) w y v):cG φ' (tot O φ' h') w' y v:=
 r.ext m.sub (m.ext.mono λ_ S=>.inr S) λk A q=>q.elim .inl λo=>.inr (m.qh k A o)
def iv.keepF {φ':PM} {h':HF} {w':World} (m:iv V φ' S h' w w') {x:FV} (r:nA (tot O V S) w x v):nA (tot O φ' h') w' x v:=
 r.ext (m.ext.mono λ_ S=>.inr S) λk A q=>q.elim .inl λo=>.inr (m.qh k A o)
abbrev EF:=Nat->M AV
def Oq (φ:PM) (O:Nat->Prop) (w:World) (e:EF) (a:Act):Prop:=∀t x,e t=Z x->cG φ O w x (a.tmps.getD t undef)
def Hw (e:EF) (dst:M Nat) (x:AV):EF:=λt=>if dst=Z t then Z x else e t
def dX (h:HF) (q:ι) (A:HF):HF:=λi=>if i∈q then A i else h i
structure Bm where
 val:AV
 rd:ι
 wr:ι
 nw:HF
 N:ι
def gJ (P:Program) (o:Oper) (e:EF) (h:HF) (f:Bm):Prop:=
 ∀(φ:PM) (E:Nat->Prop) (h':HF) (w:World) (a:Act),(∀i∈f.rd,h' i=h i)->(∀i∈f.wr,h' i=h i)->
  (∀t,.tmp t∈o.op.operands->∀y,e t=Z y->cG φ (tot E φ h') w y (a.tmps.getD t undef))->qE φ E h' w->(∀n∈f.N,φ n=U)->
  o.wp P a w (λq w'=>∃v φ',q=a.put o.dst v/\iv φ φ' h' (dX h' f.wr f.nw) w w'/\(∀i k,φ' i=Z k->φ i=Z k\/i∈f.N)/\
   qE φ' E (dX h' f.wr f.nw) w'/\cG φ' (tot E φ' (dX h' f.wr f.nw)) w' f.val v) (λ_ _ _=>False)
def mm:Bm:=⟨.f (.raw undef),[],[],λ_=>U,[]⟩
inductive IC (P:Program) (ops:Array Oper) (o:Oper) (f:Bm) (e:EF) (h:HF):Prop
 |run (hg:o.guard=U) (ht:gJ P o e h f)
 |runG (j t:Nat) (want:Bool) (hg:o.guard=Z (j,want)) (hj:(ops[j]?).bind (·.dst)=Z t) (he:e t=Z (.f (.raw (.bool want)))) (ht:gJ P o e h f)
 |skip (j t:Nat) (want:Bool) (hg:o.guard=Z (j,want)) (hj:(ops[j]?).bind (·.dst)=Z t) (v:Value) (he:e t=Z (.f (.raw v))) (hv:v≠ .bool want) (hf:f=mm)
inductive AT (P:Program) (ops:Array Oper):List (Oper×Bm)->EF->HF->EF->HF->Prop
 |nil (e:EF) (h:HF):AT P ops [] e h e h
 |cons {o:Oper} {f:Bm} {r:List (Oper×Bm)} {e e':EF} {h h':HF} (hs:IC P ops o f e h)
   (hr:AT P ops r (Hw e o.dst f.val) (dX h f.wr f.nw) e' h'):AT P ops ((o,f)::r) e h e' h'
abbrev p?:=Oper×Bm
def Qe (S:Nat->Bool):Nat->Y p?->EF->EF
 |_,[],e=>e
 |k,(o,f)::r,e=>Qe S (k+1) r (if S k then Hw e o.dst f.val else e)
def Hh (S:Nat->Bool):Nat->Y p?->HF->HF
 |_,[],h=>h
 |k,(_,f)::r,h=>Hh S (k+1) r (if S k then dX h f.wr f.nw else h)
variable {p:Nat->Bool}
def Ho {S':Nat->Bool} :∀(l:Y p?) (k:Nat) (e e':EF),e i=e' i->
 (∀(j:Nat) o f,l[j]? =Z (o,f)->o.dst=Z i->p (k+j)=S' (k+j))->Qe p k l e i=Qe S' k l e' i
 |[],_,_,_,he,_=>he
 |(o,f)::r,k,e,e',he,q=>by
  refine Ho r (k+1) _ _ ?_ (λj o f A hd=>by have:=q (j+1) o f (by grind) hd;rwa [show k+(j+1)=k+1+j from by omega]at this);by_cases hd:o.dst=Z i
  .rw[show p k=S' k from by simpa using q 0 o f rfl hd];split
   .simp[Hw,hd]
   .exact he
  .split<;>split<;>simp[Hw,hd,he]
def Hn {S':Nat->Bool} :∀(l:Y p?) (k:Nat) (e e':HF),e i=e' i->
 (∀(j:Nat) o f,l[j]? =Z (o,f)->i∈f.wr->p (k+j)=S' (k+j))->Hh p k l e i=Hh S' k l e' i
 |[],_,_,_,he,_=>he
 |(o,f)::r,k,e,e',he,q=>by
  refine Hn r (k+1) _ _ ?_ (λj o f A hd=>by have:=q (j+1) o f (by grind) hd;rwa [show k+(j+1)=k+1+j from by omega]at this);by_cases hd:i∈f.wr
  .rw[show p k=S' k from by simpa using q 0 o f rfl hd];split
   .simp[dX,hd]
   .exact he
  .split<;>split<;>simp[dX,hd,he]
def Ff :∀(l:Y p?) (k:Nat) (e:EF),(∀(j:Nat) o f,l[j]? =Z (o,f)->o.dst=Z i->p (k+j)=aa)->Qe p k l e i=e i
 |[],_,_,_=>rfl
 |(o,f)::r,k,e,q=>by
  simp[Qe];rw[Ff r (k+1) _ (λj o f A hd=>by have:=q (j+1) o f (by grind) hd;rwa [show k+(j+1)=k+1+j from by omega]at this)];split
  next h=>unfold Hw;rw[ay];intro hd;have:=q 0 o f rfl hd;simp_all
  .rfl
def Fe :∀(l:Y p?) (k:Nat) (e:HF),(∀(j:Nat) o f,l[j]? =Z (o,f)->i∈f.wr->p (k+j)=aa)->Hh p k l e i=e i
 |[],_,_,_=>rfl
 |(o,f)::r,k,e,q=>by
  simp[Hh];rw[Fe r (k+1) _ (λj o f A hd=>by have:=q (j+1) o f (by grind) hd;rwa [show k+(j+1)=k+1+j from by omega]at this)];split
  next h=>unfold dX;rw[ay];intro hd;have:=q 0 o f rfl hd;simp_all
  .rfl
def Uo :∀(l:Y p?) (k t:Nat) (e:EF) (o:Oper) (f:Bm),l[t]? =Z (o,f)->o.dst=Z i->p (k+t)=J->
 (∀(j:Nat) q I,t<j->l[j]? =Z (q,I)->q.dst=Z i->p (k+j)=aa)->Qe p k l e i=Z f.val
 |[],_,_,_,_,_,h,_,_,_=>by simp at h
 |(q,I)::r,k,0,e,o,f,h,hd,D,A=>by
  obtain⟨rfl,rfl⟩:=h;simp[Qe];rw[Ff r (k+1) _ (λj o f N hd=>by have:=A (j+1) o f (by omega) (by grind) hd;rwa [show k+(j+1)=k+1+j from by omega]at this)];simp at D;simp[D,Hw,hd]
 |(q,I)::r,k,t+1,e,o,f,h,hd,D,A=>by
  exact Uo r (k+1) t _ o f (by grind) hd (by grind)
   (λj o f hij N hd=>by have:=A (j+1) o f (by omega) (by grind) hd;rwa [show k+(j+1)=k+1+j from by omega]at this)
def Un :∀(l:Y p?) (k t:Nat) (e:HF) (o:Oper) (f:Bm),l[t]? =Z (o,f)->i∈f.wr->p (k+t)=J->
 (∀(j:Nat) A q,t<j->l[j]? =Z (A,q)->i∈q.wr->p (k+j)=aa)->Hh p k l e i=f.nw i
 |[],_,_,_,_,_,h,_,_,_=>by simp at h
 |(A,q)::r,k,0,e,o,f,h,hd,I,D=>by
  obtain⟨rfl,rfl⟩:=h;simp[Hh];rw[Fe r (k+1) _ (λj o f N hd=>by have:=D (j+1) o f (by omega) (by grind) hd;rwa [show k+(j+1)=k+1+j from by omega]at this)];simp at I;simp[I,dX,hd]
 |(A,q)::r,k,t+1,e,o,f,h,hd,I,D=>by
  exact Un r (k+1) t _ o f (by grind) hd (by grind)
   (λj o f hij N hd=>by have:=D (j+1) o f (by omega) (by grind) hd;rwa [show k+(j+1)=k+1+j from by omega]at this)
variable {P:Program} {I:Array Oper}
def AT.step :∀{l:Y p?} {e e':EF} {h h':HF} (_:AT P I l e h e' h') (k i:Nat) (o:Oper) (f:Bm),l[i]? =Z (o,f)->
 IC P I o f (Qe (λj=>decide (j<k+i)) k l e) (Hh (λj=>decide (j<k+i)) k l h):=by
 intro l e e' h h' N;induction N with
 |nil=>intro k i o f hi;simp at hi
 |@cons q A r e e' h h' ops hr D=>
  intro k i o f hi;cases i with
  |zero=>
   obtain⟨rfl,rfl⟩:=hi;have e1:Qe (λj=>decide (j<k+0)) k ((q,A)::r) e=e:=by
    funext t;rw[Ff];simp
   have e2:Hh (λj=>decide (j<k+0)) k ((q,A)::r) h=h:=by
    funext t;rw[Fe];simp
   rw[e1,e2];exact ops
  |succ i=>
   have:=D (k+1) i o f (by grind);simp[Qe,Hh]
   grind
def AT.final :∀{l:Y p?} {e e':EF} {h h':HF} (_:AT P I l e h e' h') (k:Nat) (S:Nat->Bool),(∀j,j<l! l->S (k+j)=J)->
 Qe S k l e=e'/\Hh S k l h=h':=by
 intro l e e' h h' D;induction D with
 |nil=>intro k S _;exact⟨rfl,rfl⟩
 |@cons ops f1 r e e' h h' N hr A=>
  intro k S q;have h0:S k=J:=by simpa using q 0 (by simp)
  simp[Qe,Hh,h0,bJ];exact A (k+1) S (λj hj=>by have:=q (j+1) (by grind);rwa [show k+(j+1)=k+1+j from by omega]at this)
variable {j:Oper} {N:Act} {B:Exit->Act->World->Prop}
def Uh {K K':Act->World->Prop} (h:∀N w,K N w->K' N w)
 (hh:j.wp P N w K (λ_ _ _=>False)):j.wp P N w K' B:=by
 unfold K2 at*
 generalize (execOp N.eval j).run P w=r at*
 cases r with
 |ok n w'=>
  cases n<;>simp[Oper.upon]at hh ⊢<;>
   first
    |exact h _ _ hh
    |exact Calls.mono hh (λe w'' he=>by
      cases e with
      |returned v=>exact h _ _ he
      |panicked c=>exact he.elim
      |outgrown=>let⟨_,_,h⟩:=he;exact h.elim)
    |exact Rows.mono hh (λ_ _ he=>h _ _ he)
 |halt x w'=>cases x<;>simp[Oper.upon]at hh ⊢<;>first|exact hh.elim|exact hh
inductive Bef (ops:Array Oper):Nat->Nat->Prop
 |one {j:Nat} {o:Oper} {e:Edge} (h:ops[j]? =Z o) (he:e∈o.after) (hb:CD .any e=J):Bef ops j e.on
 |more {j i:Nat} {o:Oper} {e:Edge} (h:ops[j]? =Z o) (he:e∈o.after) (hb:CD .any e=J) (hi:Bef ops e.on i):Bef ops j i
structure NIP (ops:Array Oper) (l:List (Oper×Bm)):Prop where
 edge:∀(j:Nat) o,ops[j]? =Z o->∀e∈o.after,CD .any e=J->e.on<j
 pair:∀(i j:Nat) oi fi oj fj,i<j->l[i]? =Z (oi,fi)->l[j]? =Z (oj,fj)->Bef ops j i\/
  (oi.apart ops oj=J/\(∀x∈fi.wr,x∉fj.rd/\x∉fj.wr)/\(∀x∈fj.wr,x∉fi.rd))
 names:∀(i j:Nat) oi fi oj fj,i<j->l[i]? =Z (oi,fi)->l[j]? =Z (oj,fj)->∀n∈fi.N,n∉fj.N
def IG (ops:Array Oper) (listed:Array Bool):Prop:=∀(j:Nat) o,ops[j]? =Z o->listed.getD j aa=J->∀e∈o.after,CD .any e=J->listed.getD e.on aa=J
variable {m:Nat}
def IG.bef {listed:Array Bool} (D:IG I listed) (h:Bef I m i):listed.getD m aa=J->listed.getD i aa=J:=by
 induction h with
 |one h he A=>intro q;exact D _ _ h q _ he A
 |more h he A hi ops=>intro q;exact ops (D _ _ h q _ he A)
def aci {listed:Array Bool} (ops:IG I listed) {o:Oper} (q:I[m]? =Z o) (D:∀e∈o.after,CD .any e=J->listed.getD e.on aa=J) (h:Bef I m i):listed.getD i aa=J:=by
 cases h with
 |one h he A=>rw[h]at q;cases q;exact D _ he A
 |more h he A hi=>rw[h]at q;cases q;exact ops.bef hi (D _ he A)
def Ay {listed:Array Bool} (h:listed.getD i J=aa):listed.getD i aa=aa/\i<listed.size:=by grind
def StP (φ0:PM) (E:Nat->Prop) (e0:EF) (h0:HF) (w0:World) (q:Act) (l:Y p?) (S:Nat->Bool) (a:Act) (w:World):Prop:=
 ∃φ,iv φ0 φ h0 (Hh S 0 l h0) w0 w/\(∀i k,φ i=Z k->φ0 i=Z k\/∃(j:Nat) (o:Oper) (f:Bm),S j=J/\l[j]? =Z (o,f)/\i∈f.N)/\
  qE φ E (Hh S 0 l h0) w/\Oq φ (tot E φ (Hh S 0 l h0)) w (Qe S 0 l e0) a/\a.defers=q.defers/\a.tmps.size=q.tmps.size
def ag5 {dst:M Tmp} (hd:∀d,dst=Z d->d<N.tmps.size):(N.put dst v).tmps.getD i undef=if dst=Z i then v else N.tmps.getD i undef:=by
 cases dst with
 |none=>simp[Act.put]
 |some d=>
  by_cases h:d=i
  .subst h;simp[Act.put,hd d rfl]
  .simp[Act.put,h,Array.getElem?_setIfInBounds_ne h]
def ag4 {dst:M Tmp} :(N.put dst v).tmps.size=N.tmps.size:=by cases dst<;>simp[Act.put]
def X6 {dst:M Tmp} :(N.put dst v).defers=N.defers:=by cases dst<;>rfl
def agd {l:Y p?} {e0 e':EF} {h':HF} {w0:World} 
 (hl:l.map (·.1)=I.toList) (hc:AT P I l e0 S e' h') (ni:NIP I l) (hfr:∀(j:Nat) o f,l[j]? =Z (o,f)->∀n∈f.N,V n=U)
 (hsz:∀(j:Nat) o,I[j]? =Z o->∀d,o.dst=Z d->d<N.tmps.size) {listed:Array Bool} (hcl:IG I listed) (hi:i∈K0 .any I listed) {K:Act->World->Prop}
 (hK:∀a w,StP V O e0 S w0 N l (λj=>(listed.setIfInBounds i J).getD j aa) a w->K a w) {a:Act} (hst:StP V O e0 S w0 N l (λj=>listed.getD j aa) a w):
 wpOp P I B i K a w:=by
 let⟨hun,o,ho,hdeps⟩:=mem_ready.1 hi;let⟨hnf,hlt⟩:=Ay hun;have hln:∀(j:Nat) o',I[j]? =Z o'->∃f,l[j]? =Z (o',f):=λj o' h=>by
  have h1:(l.map (·.1))[j]? =Z o':=by rw[hl];simpa using h
  rw[bL]at h1;cases q:l[j]? with
  |none=>rw[q]at h1;cases h1
  |some p=>rw[q]at h1;let⟨a,b⟩:=p;simp at h1;subst h1;exact⟨b,rfl⟩
 have hnl:∀(j:Nat) o' f,l[j]? =Z (o',f)->I[j]? =Z o':=λj o' f h=>by
  have h1:(l.map (·.1))[j]? =Z o':=by rw[bL,h];rfl
  rw[hl]at h1;simpa using h1
 let⟨f,hf⟩:=hln i o ho;have hord:∀(j:Nat) D A,j≠i->l[j]? =Z (D,A)->(listed.getD j aa=decide (j<i))\/
  (o.apart I D=J\/D.apart I o=J)/\(∀x∈f.wr,x∉A.rd/\x∉A.wr)/\(∀x∈A.wr,x∉f.rd/\x∉f.wr):=by
  intro j D A hji q;rcases bF j i with h|h
  .rcases ni.pair j i D A o f h q hf with hb|⟨h1,h2,h3⟩
   .left;rw[aci hcl ho hdeps hb];simp[h]
   .right;exact⟨.inr h1,λx ops=>⟨h3 x ops,λhx'=>(h2 x hx').2 ops⟩,λx ops=>h2 x ops⟩
  .have h:i<j:=by omega
   rcases ni.pair i j o f D A h hf q with hb|⟨h1,h2,h3⟩
   .left;have:listed.getD j aa=aa:=by
     cases ops:listed.getD j aa with
     |false=>rfl
     |true=>have:=hcl.bef hb ops;rw[hnf]at this;cases this
    rw[this];simp;omega
   .right;exact⟨.inl h1,λx ops=>h2 x ops,λx ops=>⟨h3 x ops,λhx'=>(h2 x hx').2 ops⟩⟩
 have hS':∀j,(listed.setIfInBounds i J).getD j aa=if j=i then J else listed.getD j aa:=λj=>by
  by_cases h:i=j
  .subst h;simp[hlt]
  .rw[getD_set_ne aa h,ay (λe=>h e.symm)]
 have hlater:∀(j:Nat) D A,i<j->l[j]? =Z (D,A)->(listed.getD j aa=aa)\/((o.apart I D=J\/D.apart I o=J)/\(∀x∈f.wr,x∉A.rd/\x∉A.wr)):=by
  intro j D A hij q;rcases hord j D A (by omega) q with h|⟨h1,h2,_⟩
  .left;rw[h];simp;omega
  .right;exact⟨h1,h2⟩
 have hdd:∀{x y:Oper},(x.apart I y=J\/y.apart I x=J)->∀d,x.dst=Z d->y.dst≠Z d:=by
  intro x y h d hd he;rcases h with h|h
  .exact (Oper.apart_spec h).2.1 d hd he
  .exact (Oper.apart_spec h).2.1 d he hd
 have hlook:∀{x y:Oper},(x.apart I y=J\/y.apart I x=J)->∀d,y.dst=Z d->d∉x.looksAt I:=by
  intro x y h d hd;rcases h with h|h
  .exact (Oper.apart_spec h).2.2 d hd
  .exact (Oper.apart_spec h).1 d hd
 have heL:∀t,t∈o.looksAt I->Qe (λj=>listed.getD j aa) 0 l e0 t=Qe (λj=>decide (j<0+i)) 0 l e0 t:=λt ht=>by
  refine Ho l 0 e0 e0 rfl λj D A q hd=>?_
  simp only[b9];by_cases hji:j=i
  .subst hji;rw[hnf];simp
  .rcases hord j D A hji q with h|⟨h,_⟩
   .exact h
   .exact bc ht (hlook h t hd)
 have hhL:∀t,t∈f.rd\/t∈f.wr->Hh (λj=>listed.getD j aa) 0 l S t=Hh (λj=>decide (j<0+i)) 0 l S t:=λt ht=>by
  refine Hn l 0 S S rfl λj D A q hd=>?_
  simp only[b9];by_cases hji:j=i
  .subst hji;rw[hnf];simp
  .rcases hord j D A hji q with h|⟨_,_,h⟩
   .exact h
   .rcases ht with ht|ht
    .exact bc ht (h t hd).1
    .exact bc ht (h t hd).2
 have hE':∀t,Qe (λj=>(listed.setIfInBounds i J).getD j aa) 0 l e0 t=if o.dst=Z t then Z f.val else Qe (λj=>listed.getD j aa) 0 l e0 t:=λt=>by
  by_cases hd:o.dst=Z t
  .rw[aK hd];refine Uo l 0 i e0 o f hf hd (by simp[hS']) λj o' f' hij q hd'=>?_
   simp only[b9,hS',ay (show ¬j=i by omega)];rcases hlater j o' f' hij q with h|⟨h,_⟩
   .exact h
   .exact bc hd' (hdd h t hd)
  .rw[ay hd];refine Ho l 0 e0 e0 rfl λj D A q hd'=>?_
   simp only[b9,hS'];rw[ay];intro hji;subst hji;rw[hf]at q;cases q;exact hd hd'
 have hH':Hh (λj=>(listed.setIfInBounds i J).getD j aa) 0 l S=dX (Hh (λj=>listed.getD j aa) 0 l S) f.wr f.nw:=by
  funext t;unfold dX;by_cases hd:t∈f.wr
  .rw[aK hd];refine Un l 0 i S o f hf hd (by simp[hS']) λj o' f' hij q hd'=>?_
   simp only[b9,hS',ay (show ¬j=i by omega)];rcases hlater j o' f' hij q with h|⟨_,h⟩
   .exact h
   .exact bc hd' (h t hd).2
  .rw[ay hd];refine Hn l 0 S S rfl λj D A q hd'=>?_
   simp only[b9,hS'];rw[ay];intro hji;subst hji;rw[hf]at q;cases q;exact hd hd'
 let⟨φ,hm,hdom,hrep,henv,hdef,hsize⟩:=hst;have hfrN:∀n∈f.N,φ n=U:=λn hn=>by
  cases ops:φ n with
  |none=>rfl
  |some k=>
   rcases hdom n k ops with h|⟨j,D,A,hSj,q,hnj⟩
   .rw[hfr i o f hf n hn]at h;cases h
   .have hji:j≠i:=by intro h;subst h;exact bc hSj (by simp only[hnf];simp)
    rcases bF j i with h|h
    .exact bc hn (ni.names j i D A o f h q hf n hnj)
    .exact bc hnj (ni.names i j o f D A (by omega) hf q n hn)
 have hdsz:∀d,o.dst=Z d->d<a.tmps.size:=λd hd=>by rw[hsize];exact hsz i o ho d hd
 have main:∀(v:Value) (φ':PM) (w':World),iv φ φ' (Hh (λj=>listed.getD j aa) 0 l S) (dX (Hh (λj=>listed.getD j aa) 0 l S) f.wr f.nw) w w'->
  (∀i k,φ' i=Z k->φ i=Z k\/i∈f.N)->qE φ' O (dX (Hh (λj=>listed.getD j aa) 0 l S) f.wr f.nw) w'->
  cG φ' (tot O φ' (dX (Hh (λj=>listed.getD j aa) 0 l S) f.wr f.nw)) w' f.val v->K (a.put o.dst v) w':=by
  intro v φ' w' m1 d1 r1 v1;refine hK _ _ ⟨φ',?_,?_,?_,?_,?_,?_⟩
  .rw[hH'];exact hm.trans m1
  .grind
  .rw[hH'];exact r1
  .rw[hH'];intro t x ops;rw[hE' t]at ops;rw[ag5 hdsz];by_cases hd:o.dst=Z t
   .rw[aK hd]at ops ⊢;cases ops;exact v1
   .rw[ay hd]at ops ⊢;exact m1.qt (henv t x ops)
  .rw[X6];exact hdef
  .rw[ag4];exact hsize
 have hstep:=hc.step 0 i o f hf;have hrun:gJ P o (Qe (λj=>decide (j<0+i)) 0 l e0) (Hh (λj=>decide (j<0+i)) 0 l S) f->o.wp P a w K B:=by
  intro ht;refine Uh ?_ (ht φ O (Hh (λj=>listed.getD j aa) 0 l S) w a (λt h=>hhL t (.inl h)) (λt h=>hhL t (.inr h)) ?_ hrep hfrN)
  .rintro a' w' ⟨v,φ',rfl,m1,d1,r1,v1⟩;exact main v φ' w' m1 d1 r1 v1
  .intro t ht' y hy;refine henv t y ?_;rw[heL t (dW _ (List.mem_filterMap.2 ⟨.tmp t,by simpa using ht',rfl⟩))];exact hy
 have hyield:∀(j t:Nat) (want b:Bool),o.guard=Z (j,want)->(I[j]?).bind (·.dst)=Z t->Qe (λj=>decide (j<0+i)) 0 l e0 t=Z (.f (.raw (.bool b)))->Region.wanted o (yielded I a.tmps)=(b==want):=by
  intro j t want b hg q he;rw[<- heL t (lw _ (by rw[hg];simp[q]))]at he;have h1:=henv t _ he;have h2:a.tmps.getD t undef= .bool b:=by
   generalize hz:a.tmps.getD t undef=z at h1;cases h1 with
   |f h=>cases h;rfl
  have h3:a.tmps[t]? =Z (.bool b):=by
   rw[hY]at h2;cases hz:a.tmps[t]? with
   |none=>rw[hz]at h2;simp[undef]at h2
   |some z=>rw[hz]at h2;simp at h2;rw[h2]
  unfold Region.wanted yielded;rw[hg];simp[q,h3]
 unfold wpOp;simp only[ho];cases hstep with
 |run hg ht=>
  rw[aK (by unfold Region.wanted;rw[hg])];exact .inl (hrun ht)
 |runG j t want hg q he ht=>
  rw[aK (by rw[hyield j t want want hg q he];simp)];exact .inl (hrun ht)
 |skip j t want hg q v he hv hf'=>
  have hnw:Region.wanted o (yielded I a.tmps)=aa:=by
   rw[<- heL t (lw _ (by rw[hg];simp[q]))]at he;have h1:=henv t _ he;have h2:a.tmps.getD t undef=v:=by
    generalize a.tmps.getD t undef=z at h1;cases h1 with
    |f h=>cases h;rfl
   unfold Region.wanted yielded;rw[hg];simp only[q,aH];rw[hY]at h2;cases hz:a.tmps[t]? with
   |none=>simp
   |some z=>
    rw[hz]at h2;simp at h2;subst h2;cases z<;>simp at hv ⊢;exact hv
  rw[ay (by rw[hnw];simp)];subst hf';have hu:dX (Hh (λj=>listed.getD j aa) 0 l S) mm.wr mm.nw=Hh (λj=>listed.getD j aa) 0 l S:=by
   funext t;simp[dX,mm]
  refine main undef φ w ?_ (λ_ _ h=>.inl h) ?_ ?_
  .rw[hu];exact iv.refl _ _ _
  .rw[hu];exact hrep
  .exact .f (.raw _)
def TY {l:θ} (h:l! l<=l.countP id):∀(j:Nat),j<l! l->l[j]? =Z J:=by
 have h1:l.countP id=l! l:=Nat.le_antisymm List.countP_le_length h;rw[List.countP_eq_length]at h1
 grind
def ZB {l:Y p?} (q:NIP I l) {listed:Array Bool} (hs:listed.size=I.size) (A:K0 .any I listed=[]):
 ∀(n j:Nat),j<n->j<I.size->listed.getD j aa=J:=by
 intro n;induction n with
 |zero=>intro j h;omega
 |succ n ops=>
  intro j hj hjs;cases N:listed.getD j aa with
  |true=>rfl
  |false=>
   have hmem:j∈K0 .any I listed:=by
    refine mem_ready.2 ⟨?_,I[j],pF hjs,λe he D=>?_⟩
    .grind
    .have h1:=q.edge j _ (pF hjs) e he D
     grind
   rw[A]at hmem;cases hmem
def Rn {l:Y p?} {e0 e':EF} {h':HF} {E:Nat->Prop} {w0:World} 
 (hl:l.map (·.1)=I.toList) (ops:AT P I l e0 S e' h') (ni:NIP I l) (hfr:∀(j:Nat) o f,l[j]? =Z (o,f)->∀n∈f.N,V n=U)
 (hsz:∀(j:Nat) o,I[j]? =Z o->∀d,o.dst=Z d->d<N.tmps.size) 
 (hQ:∀a w,StP V E e0 S w0 N l (λ_=>J) a w->B .normal a w):
 ∀(fZ:Nat) (listed:Array Bool) (a:Act) (w:World),listed.size=I.size->IG I listed->I.size<=fZ+listed.toList.countP id->
  StP V E e0 S w0 N l (λj=>listed.getD j aa) a w->wpAny P .any I B fZ listed a w:=by
 have hlen:l! l=I.size:=by have:=gW ah hl;simpa using this
 have fin:∀(listed:Array Bool) (a:Act) (w:World),(∀j,j<I.size->listed.getD j aa=J)->StP V E e0 S w0 N l (λj=>listed.getD j aa) a w->B .normal a w:=by
  intro listed a w hall hst;refine hQ a w ?_;have h1:=ops.final 0 (λj=>listed.getD j aa) (λj q=>by simp only[b9];exact hall j (by omega));have h2:=ops.final 0 (λ_=>J) (λ_ _=>rfl);unfold StP at hst ⊢
  grind
 intro fZ;induction fZ with
 |zero=>
  intro listed a w D hcl hcnt hst;have hall:∀j,j<I.size->listed.getD j aa=J:=λj q=>by
   have:=TY (l:=listed.toList) (by grind) j (by grind);simp_all
  refine ⟨?_,fin listed a w hall hst⟩;cases hr:K0 .any I listed with
  |nil=>rfl
  |cons i r=>
   have hi:i∈K0 .any I listed:=by grind
   let⟨hun,o,ho,_⟩:=mem_ready.1 hi
   grind
 |succ fZ ih=>
  intro listed a w D hcl hcnt hst;refine ⟨λhr=>fin listed a w (λj q=>ZB ni D hr (j+1) j (by omega) q) hst,λi hi=>?_⟩;let⟨hun,o,ho,hdeps⟩:=mem_ready.1 hi;let⟨hnf,hlt⟩:=Ay hun;refine agd hl ops ni hfr hsz hcl hi (λa' w' h=>ih _ a' w' ?_ ?_ ?_ h) hst
  .simpa using D
  .intro j oj hoj q e he hb;by_cases hji:i=j
   .subst hji;rw[ho]at hoj;cases hoj;exact getD_set_true (hdeps e he hb)
   .rw[getD_set_ne aa hji]at q;exact getD_set_true (hcl j oj hoj q e he hb)
  .have h1:listed.toList[i]? =Z aa:=by
    simp_all
   grind
def axj (φ0:PM) (E:Nat->Prop) (e':EF) (h0 h':HF) (N:ι) (w0:World) (q:Act) (a:Act) (w:World):Prop:=
 ∃φ,iv φ0 φ h0 h' w0 w/\(∀i k,φ i=Z k->φ0 i=Z k\/i∈N)/\qE φ E h' w/\Oq φ (tot E φ h') w e' a/\a.defers=q.defers/\a.tmps.size=q.tmps.size
def iv.drew (w:World):iv V V S S w {w with drawn:=w.drawn+1}:=
 ⟨λ_ _ S=>S,⟨rfl,rfl,rfl,bi _,λ_ _ _=>rfl,λ_ _=>rfl⟩,λ_ _ S=>S⟩
def qE.moved {w':World} (r:qE V O S w) (m:iv V V S S w w') (q:∀k,own V S k->w'.heap[k]? =w.heap[k]?):qE V O S w':=
 ⟨r.inj,λi b A=>by
   let⟨k,h1,h2,o,h3,h4⟩:=r.at_ i b A;exact⟨k,h1,h2,o,by rw[q k ⟨i,b,A,h1⟩];exact h3,h4.mono λ_ _ S=>m.qt S⟩,λk q=>dg (r.el k q) m.ext.size,
   λg cells D=>m.keepF (r.gl g cells D)⟩
variable {b:Bool}
def IN {l:Y p?} {e0 e':EF} {h':HF} {φ0:PM} {E:Nat->Prop} 
 (hm:P.follows .mixedOrders=J) (hl:l.map (·.1)=I.toList) (hc:AT P I l e0 S e' h') (D:NIP I l) (hfr:∀n∈l.flatMap (λp=>p.2.N),φ0 n=U)
 (hsz:∀(j:Nat) o,I[j]? =Z o->∀d,o.dst=Z d->d<N.tmps.size) (hrep:qE φ0 E S w) (henv:Oq φ0 (tot E φ0 S) w e0 N) 
 (hQ:∀a w0,axj φ0 E e' S h' (l.flatMap (λp=>p.2.N)) w N a w0->B .normal a w0):(Code.region i I b).wp P B N w:=by
 have hfr':∀(j:Nat) o f,l[j]? =Z (o,f)->∀n∈f.N,φ0 n=U:=λj o f A n hn=>hfr n (lG.2 ⟨(o,f),bn A,hn⟩)
 have fin:∀a w0,StP φ0 E e0 S w N l (λ_=>J) a w0->B .normal a w0:=by
  rintro a w0 ⟨φ,m,d,r,en,df,sz⟩;have h2:=hc.final 0 (λ_=>J) (λ_ _=>rfl);rw[h2.2]at m r en;rw[h2.1]at en;refine hQ a w0 ⟨φ,m,λid k h=>?_,r,en,df,sz⟩
  grind
 have st0:∀(w0:World),iv φ0 φ0 S S w w0->qE φ0 E S w0->StP φ0 E e0 S w N l (λj=>(mJ I.size aa).getD j aa) N w0:=by
  intro w0 m r;have e1:(λj=>(mJ I.size aa).getD j aa)=λ_=>aa:=by
   funext j;rw[hY,Array.getElem?_replicate];split<;>rfl
  rw[e1];have e2:Qe (λ_=>aa) 0 l e0=e0:=by funext t;rw[Ff];intros;rfl
  have e3:Hh (λ_=>aa) 0 l S=S:=by funext t;rw[Fe];intros;rfl
  refine ⟨φ0,by rw[e3];exact m,λ_ _ h=>.inl h,by rw[e3];exact r,?_,rfl,rfl⟩;rw[e2,e3];exact λt x hx=>m.qt (henv t x hx)
 have cl0:IG I (mJ I.size aa):=by
  intro j o ho A;rw[hY,Array.getElem?_replicate]at A;split at A<;>simp at A
 cases b with
 |true=>
  refine wp_region_any hm ?_;exact Rn hl hc D hfr' hsz fin I.size _ N _ (by simp) cl0 (by omega) (st0 _ (iv.drew w) (hrep.moved (iv.drew w) λ_ _=>rfl))
 |false=>
  have hany:=Rn (E:=E) (w0:=w) hl hc D hfr' hsz fin I.size _ N w (by simp) cl0 (by omega) (st0 _ (iv.refl _ _ _) hrep);refine wp_region ?_;have key:∀(m k:Nat) (listed:Array Bool) (a:Act) (w0:World),k+m=I.size->listed.size=I.size->(∀j,j<k->listed.getD j aa=J)->(∀j,k<=j->j<I.size->listed.getD j J=aa)->
   wpAny P .any I B m listed a w0->wpOps P I B (List.range' k m) a w0:=by
   intro m;induction m with
   |zero=>intro k listed a w0 hk hs h1 h2 h;simpa[wpOps] using h.2
   |succ m ih=>
    intro k listed a w0 hk hs h1 h2 h;have hkr:k∈K0 .any I listed:=by
     refine mem_ready.2 ⟨h2 k (bi _) (by omega),I[k]'(by omega),pF (by omega),λe he hb=>?_⟩;exact h1 _ (D.edge k _ (pF (by omega)) e he hb)
    refine wpOp_mono (λa' w' h'=>ih (k+1) (listed.setIfInBounds k J) a' w' (by omega) (by grind) ?_ ?_ h') (h.2 k hkr)
    .intro j A;by_cases hjk:k=j
     .subst hjk;simp[show k<listed.size by omega]
     .rw[getD_set_ne aa hjk];exact h1 j (by omega)
    .intro j A ops;rw[getD_set_ne J (by omega)];exact h2 j (by omega) ops
  have:=key I.size 0 (mJ I.size aa) N w (by omega) (by simp) (by simp) (by
   intro j _ A;rw[hY,Array.getElem?_replicate,aK A];rfl) hany
  rwa [List.range_eq_range']
inductive PT (α:Type) where
 |leaf
 |node (v:Option α) (l r:PT α)
namespace PT
variable {α:Type}
def get:PT α->Nat->M α
 |leaf,_=>U
 |node v l r,n=>match n with
  |0=>v
  |m+1=>if aB (m%2) 0 then get l (m/2) else get r (m/2)
def setF:Nat->PT α->Nat->M α->PT α
 |0,t,_,_=>t
 |k+1,t,n,x=>match t with
  |leaf=>(match n with
   |0=>node x leaf leaf
   |m+1=>if aB (m%2) 0 then node U (setF k leaf (m/2) x) leaf else node U leaf (setF k leaf (m/2) x))
  |node v l r=>(match n with
   |0=>node x l r
   |m+1=>if aB (m%2) 0 then node v (setF k l (m/2) x) r else node v l (setF k r (m/2) x))
def set (t:PT α) (n:Nat) (x:M α):PT α:=setF (n+1) t n x
def VF (n:Nat):(leaf:PT α).get n=U:=rfl
def BQ:∀(k:Nat) (t:PT α) (n:Nat) (x:M α),n<k->∀i,(setF k t n x).get i=if i=n then x else t.get i
 |0,_,_,_,h,_=>bc h (dp _)
 |k+1,t,n,x,h,i=>by
  cases n with
  |zero=>
   cases t<;>cases i<;>simp[setF,get]
  |succ m=>
   have hm:m/2<k:=by omega
   cases t with
   |leaf=>
    simp only[setF];cases I:aB (m%2) 0 with
    |true=>
     have D:m%2=0:=ar I;simp[bJ];cases i with
     |zero=>simp[get]
     |succ j=>
      simp only[get];cases A:aB (j%2) 0 with
      |true=>
       have q:j%2=0:=ar A;simp[bJ];rw[BQ k _ _ _ hm];by_cases he:j/2=m/2
       .grind
       .rw[ay he,ay (by omega)];rfl
      |false=>grind
    |false=>
     have D:¬m%2=0:=fC I;simp[cA,fM];cases i with
     |zero=>simp[get]
     |succ j=>
      simp only[get];cases A:aB (j%2) 0 with
      |true=>grind
      |false=>
       have q:¬j%2=0:=fC A;simp[cA,fM];rw[BQ k _ _ _ hm];by_cases he:j/2=m/2
       .grind
       .rw[ay he,ay (by omega)];rfl
   |node v l r=>
    simp only[setF];cases I:aB (m%2) 0 with
    |true=>
     have D:m%2=0:=ar I;simp[bJ];cases i with
     |zero=>simp[get]
     |succ j=>
      simp[get];cases A:aB (j%2) 0 with
      |true=>
       have q:j%2=0:=ar A;rw[BQ k _ _ _ hm]
       grind
      |false=>grind
    |false=>
     have D:¬m%2=0:=fC I;simp[cA,fM];cases i with
     |zero=>simp[get]
     |succ j=>
      simp[get];cases A:aB (j%2) 0 with
      |true=>grind
      |false=>
       have q:¬j%2=0:=fC A;rw[BQ k _ _ _ hm]
       grind
def get_set (t:PT α) (n:Nat) (x:M α) (i:Nat):(t.set n x).get i=if i=n then x else t.get i:=BQ (n+1) t n x (by omega) i
variable {R:Type}
def mask :PT α->PT R->PT α
 |leaf,_|node _ _ _,leaf=>leaf
 |node v l r,node u A q=>node (match u with|some _=>v|none=>U) (mask l A) (mask r q)
def get_mask :∀(t:PT α) (u:PT R) (i:Nat) (x:α),(t.mask u).get i=Z x->t.get i=Z x
 |leaf,_,i,x,h|node _ _ _,leaf,i,x,h=>by simp[mask,get]at h
 |node v l r,node u D A,0,x,h=>by
  simp[mask,get]at h ⊢;cases u with
  |none=>simp at h
  |some _=>exact h
 |node v l r,node u D A,j+1,x,h=>by
  simp[mask,get]at h ⊢;split at h
  next q=>rw[aK q];exact get_mask l D _ x h
  next q=>rw[ay q];exact get_mask r A _ x h
def mk:M α->PT α->PT α->PT α
 |none,leaf,leaf=>leaf
 |v,l,r=>node v l r
def BR (v:M α) (l r:PT α) (i:Nat):(mk v l r).get i=(node v l r).get i:=by
 cases v<;>cases l<;>cases r<;>first|rfl|(cases i<;>simp[mk,get])
def only (m:Nat):Nat->Nat->PT α->PT α
 |_,_,leaf=>leaf
 |a,b,node v l r=>mk (if aC m b then v else U) (only m (2*a) (a+b) l) (only m (2*a) (2*a+b) r)
def get_only (m:Nat):∀(t:PT α) (a b i:Nat),(only m a b t).get i=if aC m (a*i+b) then t.get i else U
 |leaf,_,_,_|node v l r,a,b,0=>by simp[only,BR,get]
 |node v l r,a,b,j+1=>by
  simp only[only,BR,get];cases A:aB (j%2) 0 with
  |true=>
   have q:j%2=0:=ar A;simp[bJ];rw[get_only m l];have:2*a*(j/2)+(a+b)=a*(j+1)+b:=by
    have e:j=2*(j/2):=by omega
    grind
   rw[this]
  |false=>
   have q:¬j%2=0:=fC A;simp[cA,fM];rw[get_only m r];have:2*a*(j/2)+(2*a+b)=a*(j+1)+b:=by
    have e:j=2*(j/2)+1:=by omega
    grind
   rw[this]
def exc (m:Nat):Nat->Nat->PT α->PT α
 |_,_,leaf=>leaf
 |a,b,node v l r=>mk (if aC m b then U else v) (exc m (2*a) (a+b) l) (exc m (2*a) (2*a+b) r)
def SZ (m:Nat):∀(t:PT α) (a b i:Nat),(exc m a b t).get i=if aC m (a*i+b) then U else t.get i
 |leaf,_,_,_|node v l r,a,b,0=>by simp[exc,BR,get]
 |node v l r,a,b,j+1=>by
  simp only[exc,BR,get];cases A:aB (j%2) 0 with
  |true=>
   have q:j%2=0:=ar A;simp[bJ];rw[SZ m l];have:2*a*(j/2)+(a+b)=a*(j+1)+b:=by
    have e:j=2*(j/2):=by omega
    grind
   rw[this]
  |false=>
   have q:¬j%2=0:=fC A;simp[cA,fM];rw[SZ m r];have:2*a*(j/2)+(2*a+b)=a*(j+1)+b:=by
    have e:j=2*(j/2)+1:=by omega
    grind
   rw[this]
def merge (m:Nat):Nat->Nat->PT α->PT α->PT α
 |a,b,leaf,t=>only m a b t
 |a,b,node v l r,leaf=>exc m a b (node v l r)
 |a,b,node v l r,node q D A=>mk (if aC m b then q else v) (merge m (2*a) (a+b) l D) (merge m (2*a) (2*a+b) r A)
def get_merge (m:Nat):∀(t u:PT α) (a b i:Nat),(merge m a b t u).get i=if aC m (a*i+b) then u.get i else t.get i
 |leaf,u,a,b,i=>by simp[merge,get_only,VF]
 |node v l r,leaf,a,b,i=>by simp[merge,SZ,VF]
 |node v l r,node N D A,a,b,0=>by simp[merge,BR,get]
 |node v l r,node N D A,a,b,j+1=>by
  simp only[merge,BR,get];cases I:aB (j%2) 0 with
  |true=>
   have q:j%2=0:=ar I;simp[bJ];rw[get_merge m l D];have:2*a*(j/2)+(a+b)=a*(j+1)+b:=by
    have e:j=2*(j/2):=by omega
    grind
   rw[this]
  |false=>
   have q:¬j%2=0:=fC I;simp[cA,fM];rw[get_merge m r A];have:2*a*(j/2)+(2*a+b)=a*(j+1)+b:=by
    have e:j=2*(j/2)+1:=by omega
    grind
   rw[this]
def all (p:Nat->α->Bool):Nat->Nat->PT α->Bool
 |_,_,leaf=>J
 |a,b,node v l r=>(match v with|some x=>p b x|none=>J)&&all p (2*a) (a+b) l&&all p (2*a) (2*a+b) r
def get_all (p:Nat->α->Bool):∀(t:PT α) (a b i:Nat) (x:α),all p a b t=J->t.get i=Z x->p (a*i+b) x=J
 |leaf,_,_,_,_,_,h=>by simp[get]at h
 |node v l r,a,b,0,x,h,q=>by
  subst q;simp[all,ak]at h
  grind
 |node v l r,a,b,j+1,x,h,q=>by
  simp[all,ak]at h;simp only[get]at q;cases A:aB (j%2) 0 with
  |true=>
   have D:j%2=0:=ar A;simp[A,bJ]at q;have key:=get_all p l _ _ _ x h.1.2 q;have:2*a*(j/2)+(a+b)=a*(j+1)+b:=by
    have e:j=2*(j/2):=by omega
    grind
   rw[this]at key;exact key
  |false=>
   have D:¬j%2=0:=fC A;simp[A,cA,fM]at q;have key:=get_all p r _ _ _ x h.2 q;have:2*a*(j/2)+(2*a+b)=a*(j+1)+b:=by
    have e:j=2*(j/2)+1:=by omega
    grind
   rw[this]at key;exact key
def dom:Nat->Nat->PT α->Nat->Nat
 |_,_,leaf,acc=>acc
 |a,b,node v l r,acc=>dom (2*a) (a+b) l (dom (2*a) (2*a+b) r (match v with|some _=>acc|||(1<<<b)|none=>acc))
def Gz:∀(t:PT α) (a b acc i:Nat),aC acc i=J->aC (dom a b t acc) i=J
 |leaf,_,_,_,_,h=>h
 |node v l r,a,b,acc,i,h=>by
  refine Gz l _ _ _ i (Gz r _ _ _ i ?_);cases v with
  |none=>exact h
  |some x=>simp[bD,h]
def dom_get:∀(t:PT α) (a b acc i:Nat) (x:α),t.get i=Z x->aC (dom a b t acc) (a*i+b)=J
 |leaf,_,_,_,_,_,h=>by simp[get]at h
 |node v l r,a,b,acc,0,x,q=>by
  simp only[get]at q;subst q;simp only[dom,Nat.mul_zero,b9];refine Gz l _ _ _ b (Gz r _ _ _ b ?_);rw[bD,CG,J7];simp
 |node v l r,a,b,acc,j+1,x,q=>by
  simp only[dom];simp only[get]at q;cases A:aB (j%2) 0 with
  |true=>
   have D:j%2=0:=ar A;simp only[A,bJ]at q;have key:=dom_get l (2*a) (a+b) (dom (2*a) (2*a+b) r (match v with|some _=>acc|||(1<<<b)|none=>acc)) (j/2) x q;have:2*a*(j/2)+(a+b)=a*(j+1)+b:=by
    have e:j=2*(j/2):=by omega
    calc 2*a*(j/2)+(a+b)=a*(2*(j/2))+a+b:=by rw[CH 2 a,Nat.mul_assoc];omega
     _=a*(j+1)+b:=by rw[<- e,Nat.mul_add];omega
   rw[this]at key;exact key
  |false=>
   have D:¬j%2=0:=fC A;simp only[A,cA,fM]at q;have key:=dom_get r (2*a) (2*a+b) (match v with|some _=>acc|||(1<<<b)|none=>acc) (j/2) x q;have:2*a*(j/2)+(2*a+b)=a*(j+1)+b:=by
    have h2:a*(j+1)=a*(2*(j/2))+2*a:=by
     calc a*(j+1)=a*(2*(j/2)+2):=by rw[show j+1=2*(j/2)+2 from by omega]
      _=a*(2*(j/2))+2*a:=by rw[Nat.mul_add];omega
    have h3:2*a*(j/2)=a*(2*(j/2)):=by rw[CH 2 a,Nat.mul_assoc]
    omega
   rw[this]at key;exact Gz l _ _ _ _ key
def emp:PT α:=leaf
end PT
abbrev wC:=PT AV
abbrev ie:=PT nk
abbrev NW:=Y (Nat×nk)
def wC.put (e:wC):M Nat->AV->wC
 |none,_=>e
 |some d,x=>e.set d (Z x)
def je:NW->HF
 |[],_=>U
 |(s,x)::r,t=>if aB s t then Z x else je r t
def ie.upd (h:ie) (A:ι) (q:NW):ie:=match A with
 |[]=>h
 |i::r=>ie.upd (h.set i (je q i)) r q
def ag7 (e:wC) (d:M Nat) (x:AV):Hw e.get d x=(e.put d x).get:=by
 funext t;cases d with
 |none=>simp[Hw,wC.put]
 |some d=>
  simp[Hw,wC.put,PT.get_set,af]
  grind
def afh (q:ι) (A:NW):∀h:ie,dX h.get q (je A)=(h.upd q A).get:=by
 induction q with
 |nil=>intro h;funext t;simp[dX,ie.upd]
 |cons i r D=>
  intro h;rw[ie.upd,<-D];funext t;unfold dX;rw[PT.get_set]
  grind
def Lo (acc:ι) (s:Nat) (e:Edge):Nat:=if CD .any e then (s|||2^e.on)|||acc.getD e.on 0 else s
def EI:Y Oper->ι->ι
 |[],acc=>acc
 |o::r,acc=>EI r (acc++[o.after.toList.foldl (Lo acc) 0])
def N5 {acc:ι} (D:I[i]? =Z j) (N:∀(o:Nat) B,acc[o]? =Z B->∀k,B.testBit k=J->Bef I o k):
 ∀(es:Y Edge) (s:Nat),(∀e∈es,e∈j.after)->(∀k,s.testBit k=J->Bef I i k)->∀k,(es.foldl (Lo acc) s).testBit k=J->Bef I i k
 |[],s,_,q,k,hi=>q k hi
 |e::r,s,he,q,k,hi=>by
  refine N5 D N r (Lo acc s e) (λe' h'=>he e' (bP _ h')) (λk hi=>?_) k hi;unfold Lo at hi;split at hi
  .rename_i ops;rw[bD,bD,eu,eu]at hi;rcases hi with (hi|hi)|hi
   .exact q k hi
   .rw[J7]at hi;have:e.on=k:=by grind
    subst this;exact .one D (he e (cj ..)) ops
   .refine .more D (he e (cj ..)) ops ?_;rw[aA]at hi;cases A:acc[e.on]? with
    |none=>rw[A]at hi;simp at hi
    |some C=>rw[A]at hi;exact N _ C A k hi
  .exact q k hi
def Ix {ops:Array Oper}:∀(rest:Y Oper) (acc:ι),(∀(j:Nat),∀o,rest[j]? =Z o->ops[l! acc+j]? =Z o)->
 (∀(j:Nat) B,acc[j]? =Z B->∀i,B.testBit i=J->Bef ops j i)->∀(j:Nat) B,(EI rest acc)[j]? =Z B->∀i,B.testBit i=J->Bef ops j i
 |[],acc,_,A=>A
 |o::r,acc,D,A=>by
  refine Ix r _ (λj N q=>?_) ?_
  .rw[aF,a_,show (l! acc)+1+j=l! acc+(j+1) from by omega];simp_all
  .intro j B q i hi;rcases bF j (l! acc) with h|h
   .grind
   .rw[cB h]at q;have I:j-l! acc=0:=by grind
    have hjl:j=l! acc:=by omega
    subst hjl;simp at q;subst q;have hoo:ops[l! acc]? =Z o:=by simpa using D 0 o rfl
    rw[<- Array.foldl_toList]at hi;exact N5 hoo A _ 0 (λe he=>by simpa using he) (λi hi=>by simp at hi) i hi
inductive Rr where
 |mv (x:Operand)
 |pick (c a b:Operand)
 |alloc (ty:TypeId) (z:ξ)
 |box (ty:TypeId) (x:Operand)
 |build (z:ξ) (parts:List (Nat×Nat×Operand))
 |jt (ty:TypeId) (sz len:Nat) (z:ξ) (parts:List (Nat×Nat×Operand))
 |load (sz:Nat) (ag:Bool) (x:Operand)
 |store (sz:Nat) (x v:Operand)
 |tos (x:Operand)
 |sla (n sz:Nat) (x lo:Operand)
 |sls (x:Operand) (lo hi:Option Operand)
 |byt (x:Operand)
 |jf (neg:Bool) (x:Operand)
 |zh (x:Operand)
 |bin (op:BinOp) (x y:Operand)
 |jp (neg:Bool) (ds:List TypeDesc) (x y:Operand)
 |zf (neg:Bool) (x:Operand)
 |jh (neg:Bool) (x y:Operand)
 |not (x:Operand)
 |conv (k:IntKind) (x:Operand)
 |zk (ty:TypeId) (sz bytes:Nat) (z:ξ) (l c:Operand)
 |slc (sz:Nat) (x:Operand) (lo hi mx:Option Operand)
 |jk (off:Nat) (x:Operand)
 |fld (off sz:Nat) (ag:Bool) (x:Operand)
 |jy (sz:Nat) (x i:Operand)
 |jx (n sz:Nat) (x i:Operand)
 |idx (n sz:Nat) (ag:Bool) (x i:Operand)
 |ext (x:Operand) (i:Nat)
 |len (x:Operand)
 |lens (x:Operand)
 |max (x y:Operand)
 |min (x y:Operand)
 |jq (x i:Operand)
 |app (ty:TypeId) (sz bytes:Nat) (s x:Operand)
 |clr (sz:Nat) (z:ξ) (x:Operand)
 |mkf (f:FuncId) (caps:List Operand)
 |mkm
 |lku (str ok:Bool) (z:Value) (x k:Operand)
 |mup (str:Bool) (x k v:Operand)
 |rng (x:Operand)
 |nxt (x:Operand)
 |zd
inductive SI where
 |op (s:Rr)
 |call (f:FuncId) (args:List Operand)
 |jm (x:Operand) (args:List Operand)
def mem (t:Nat):ι->Bool
 |[]=>aa
 |x::r=>aB x t||mem t r
def NX:ξ->Bool
 |[]=>J
 |v::r=>v.oneCell'&&NX r
def Ip:Value->AV
 |.agg vs=>if NX vs.toList then .agg (vs.toList.map λv=>.f (.raw v)) else .f (.raw (.agg vs))
 |v=>.f (.raw v)
def lZ (e:wC):Operand->M AV
 |.tmp t=>e.get t
 |.const v=>Z (Ip v)
 |.func g=>Z (.qv g [])
 |.global g=>match G g with|some cells=>Z (.f (.H cells 0))|none=>U
def evs (e:wC):Y Operand->M (Y AV)
 |[]=>Z []
 |x::xs=>match lZ e x with|some y=>(match evs e xs with|some q=>Z (y::q)|none=>U)|none=>U
structure AS where
 val:AV
 rd:ι
 wr:ι
 nw:NW
 N:ι
def AS.eff (r:AS):Bm:=⟨r.val,r.rd,r.wr,je r.nw,r.N⟩
def rv (x:AV):M AS:=Z ⟨x,[],[],[],[]⟩
def raw (v:Value):AV:=.f (.raw v)
def pkV (ok:Bool) (v:AV) (b:Bool):AV:=match ok with|true=>.qp [v,raw (.bool b)]|false=>v
def Al:Y AV->M (Y FV)
 |[]=>Z []
 |.f x::r=>match Al r with|some l=>Z (x::l)|none=>U
 |_::_=>U
def pq (l:Y AV):BC:=match Al l with|some q=>.fz q|none=>.mx l
def Qu (l:Y AV):AV:=match Al l with|some q=>.f (.agg q)|none=>.agg l
variable {R:Type}
def splice (l:Y R) (off:Nat) (vs:Y R):Y R:=l.take off++vs++l.drop (off+l! vs)
def BC.toMx:BC->Y AV
 |.fz l=>l.map .f
 |.mx l=>l
 |_=>[]
def h_:Y AV->Bool
 |[]=>J
 |x::r=>x.isCell&&h_ r
def BC.put (c:BC) (off:Nat) (vs:Y AV):M BC:=
 if c.isCells&&dx (off+l! vs) c.len&&h_ vs then
  match c,Al vs with
  |.fz l,Z q=>Z (.fz (splice l off q))
  |c,_=>Z (.mx (splice c.toMx off vs))
 else U
def BC.sub? (c:BC) (off sz:Nat):Bool->M AV
 |false=>match sz with|1=>c.get off|_=>U
 |true=>match c with
  |.fz l=>if dx (off+sz) (l! l) then Z (.f (.agg ((l.drop off).take sz))) else U
  |.mx l=>if dx (off+sz) (l! l) then Z (.agg ((l.drop off).take sz)) else U
  |_=>U
def AV.cs:AV->Y AV
 |.agg l=>l
 |.f (.agg l)=>l.map .f
 |x=>[x]
def yK (h:ie) (sz:Nat) (q:Bool):AV->M AS
 |.H id off=>match h.get id with
  |some b=>(match b.c.sub? off sz q with|some v=>Z ⟨v,[id],[],[],[]⟩|none=>U)
  |none=>U
 |.f (.H cells off)=>(match (BC.fz cells).sub? off sz q with|some v=>rv v|none=>U)
 |_=>U
def EJ (h:ie) (sz:Nat) (v:AV):AV->M AS
 |.H id off=>match h.get id with
  |some b=>if (l! v.cs)==sz then (match b.c.put off v.cs with|some c=>Z ⟨raw undef,[id],[id],[(id,⟨b.ty,c⟩)],[]⟩|none=>U) else U
  |none=>U
 |_=>U
abbrev n?:=Nat×Operand
abbrev J!:=Nat×n?
def BX (cells:Y AV) (e:wC):Y J!->M (Y AV)
 |[]=>Z cells
 |(off,sz,x)::r=>match lZ e x with
  |some v=>if (l! v.cs)==sz&&dx (off+sz) (l! cells)&&h_ v.cs then BX (splice cells off v.cs) e r else U
  |none=>U
def c8 (a b:Int):Bool:=decide (a<=b)
def gM (a b:Int):Bool:=decide (a<b)
def P' (k:IntKind) (n:Int):Int:=
 match k with
 |.i64=>if c8 (-9223372036854775808) n&&c8 n 9223372036854775807 then n else jW .i64 n
 |.u8=>if c8 0 n&&c8 n 255 then n else jW .u8 n
 |k=>jW k n
def nok:Int->Bool
 |.ofNat k|.negSucc k=>aB k k
def aue (n:Int):nok n=J:=by cases n<;>exact wD _
def aT (k:IntKind) (n:Int):Int:=bif nok n then P' k n else 0
def E_ (k:IntKind) (n:Int):aT k n=P' k n:=by unfold aT;rw[aue];rfl
def tH (a b:ByteArray):Bool:=a.data.toList==b.data.toList
def alw (k:IntKind) (a b:Int):Int:=aT k ((BitVec.ofInt k.bits a&&&BitVec.ofInt k.bits b).toNat)
def wA (op:BinOp):Value->Value->M Value
 |.int k a,.int q b=>if k==q then
   match op with
   |.add=>Z (.int k (aT k (a+b)))
   |.sub=>Z (.int k (aT k (a-b)))
   |.mul=>Z (.int k (aT k (a*b)))
   |.rem=>if b==0 then U else Z (.int k (a.tmod b))
   |.quo=>if b==0 then U else Z (.int k (aT k (a.tdiv b)))
   |.eql=>Z (.bool (a==b))
   |.neq=>Z (.bool (a !=b))
   |.lss=>Z (.bool (gM a b))
   |.leq=>Z (.bool (c8 a b))
   |.gtr=>Z (.bool (gM b a))
   |.geq=>Z (.bool (c8 b a))
   |.and=>Z (.int k (alw k a b))
   |.shl=>if c8 0 b then Z (.int k (aT k (a*2^(min b.toNat k.bits)))) else U
   |_=>U
  else U
 |.string a,.string b=>match op with
   |.eql=>Z (.bool (tH a b))
   |.neq=>Z (.bool !(tH a b))
   |_=>U
 |_,_=>U
def Ab:TypeDesc->FV->FV->M Bool
 |.int _,.raw (.int k a),.raw (.int q b)=>if k==q then Z (a==b) else U
 |.bool,.raw (.bool a),.raw (.bool b)=>Z (a==b)
 |.string,.raw (.string a),.raw (.string b)=>Z (tH a b)
 |_,_,_=>U
def qB:Y TypeDesc->Y FV->Y FV->M Bool
 |[],[],[]=>Z J
 |d::ds,x::xs,y::q=>match Ab d x y with
  |some J=>qB ds xs q
  |some aa=>Z aa
  |none=>U
 |_,_,_=>U
def AV.row? (h:ie) (sz:Nat):AV->M (Y AV×Nat×ι)
 |.f (.sl cells n)=>if dx (n*sz) (l! cells) then Z ((cells.take (n*sz)).map .f,n,[]) else U
 |.f (.raw (.slice U 0 0))|.emp=>Z ([],0,[])
 |.G id sz' n=>if sz'==sz then (match h.get id with|some b=>if b.c.isCells&&dx (n*sz) b.c.len then Z (b.c.toMx.take (n*sz),n,[id]) else U|none=>U) else U
 |.sl id off n=>match h.get id with|some b=>if b.c.isCells&&dx (off+n*sz) b.c.len then Z ((b.c.toMx.drop off).take (n*sz),n,[id]) else U|none=>U
 |_=>U
def aiy (e:wC) (d:Nat):M Operand->M Nat
 |none=>Z d
 |some x=>match lZ e x with
  |some (.f (.raw (.int _ j)))=>if c8 0 j then Z j.toNat else U
  |_=>U
def EH:Y AV->M ζ
 |[]=>Z []
 |.f (.raw (.int .u8 n))::r=>(match EH r with|some l=>Z (AW n.toNat::l)|none=>U)
 |_=>U
def AV.slen:AV->M Nat
 |.f (.sl _ n)|.f (.raw (.slice _ n _))=>Z n
 |.emp=>Z 0
 |.G _ _ n|.sl _ _ n=>Z n
 |_=>U
def bh (n bytes:Nat):Bool:=dx n 1099511627776&&dx (n*bytes) 1099511627776
def repl (z:ξ):Nat->Y FV
 |0=>[]
 |n+1=>z.map .raw++repl z n
def CW:Value->Bool
 |.slice U 0 0=>J
 |_=>aa
def HV:AV->Bool
 |.emp=>J
 |.f (.raw v)=>CW v
 |_=>aa
def u4 (k:Value):Y A!->M (M AV)
 |[]=>Z U
 |(q,v)::r=>match wA .eql k q with
  |some (.bool J)=>Z (Z v)
  |some (.bool aa)=>u4 k r
  |_=>U
def Bz (k:Value) (v:AV):Y A!->M (Y A!)
 |[]=>Z [(k,v)]
 |(q,A)::r=>match wA .eql k q with
  |some (.bool J)=>Z ((k,v)::r)
  |some (.bool aa)=>(match Bz k v r with|some D=>Z ((q,A)::D)|none=>U)
  |_=>U
def BE:Bool->Value->Bool
 |false,.int _ _=>J
 |true,.string _=>J
 |_,_=>aa
def rnA (b:UInt8) (s:ByteArray) (p:Nat):Int:=bif dw b.toNat 128 then b.toNat else (Utf8.decode s p).1
def wdA (b:UInt8) (s:ByteArray) (p:Nat):Nat:=bif dw b.toNat 128 then 1 else (Utf8.decode s p).2
def dO (s:Rr) (e:wC) (h:ie) (nx:Nat):M AS:=
 match s with
 |.mv x=>match lZ e x with|some v=>rv v|none=>U
 |.pick c a b=>match lZ e c with
  |some (.f (.raw (.bool t)))=>(match lZ e (if t then a else b) with|some v=>rv v|none=>U)
  |_=>U
 |.alloc ty z=>Z ⟨.H nx 0,[],[nx],[(nx,⟨ty,.fz (z.map .raw)⟩)],[nx]⟩
 |.box ty x=>match lZ e x with
  |some v=>if h_ v.cs then Z ⟨.H nx 0,[],[nx],[(nx,⟨ty,pq v.cs⟩)],[nx]⟩ else U
  |none=>U
 |.build z parts=>match BX (z.map raw) e parts with|some cs=>rv (Qu cs)|none=>U
 |.jt ty sz len z parts=>match BX ((repl z len).map .f) e parts with
  |some cs=>Z ⟨if len=0 then .emp else .G nx sz len,[],[nx],[(nx,⟨ty,pq cs⟩)],[nx]⟩
  |none=>U
 |.load sz q x=>match lZ e x with|some p=>yK h sz q p|none=>U
 |.store sz x v=>match lZ e x,lZ e v with|some p,Z y=>EJ h sz y p|_,_=>U
 |.zh x=>match lZ e x with
  |some (.H id off)=>rv (.H id off)
  |some (.f (.H cells off))=>rv (.f (.H cells off))
  |some (.qv g cap)=>rv (.qv g cap)
  |_=>U
 |.bin op x y=>match lZ e x,lZ e y with
  |some (.f (.raw u)),Z (.f (.raw v))=>(match wA op u v with|some r=>rv (raw r)|none=>U)
  |_,_=>U
 |.jp neg ds x y=>match lZ e x,lZ e y with
  |some (.f (.agg a)),Z (.f (.agg b))=>(match qB ds a b with|some r=>rv (raw (.bool (r !=neg)))|none=>U)
  |_,_=>U
 |.jh neg x y=>match lZ e x,lZ e y with
  |some (.f (.raw (.bool a))),Z (.f (.raw (.bool b)))=>rv (raw (.bool ((a==b) !=neg)))
  |_,_=>U
 |.zf neg x=>match lZ e x with
  |some (.G _ _ _)|some (.sl _ _ _)|some (.f (.sl _ (_+1)))=>rv (raw (.bool neg))
  |some (.f (.sl _ 0))|some .emp=>rv .qj
  |some (.f (.raw v))=>if CW v then rv (raw (.bool !neg)) else U
  |_=>U
 |.not x=>match lZ e x with|some (.f (.raw (.bool b)))=>rv (raw (.bool !b))|_=>U
 |.conv k x=>match lZ e x with|some (.f (.raw (.int _ n)))=>rv (raw (.int k (aT k n)))|_=>U
 |.zk ty sz bytes z l c=>match lZ e l,lZ e c with
  |some (.f (.raw (.int _ a))),Z (.f (.raw (.int _ b)))=>
   if c8 0 a&&c8 a b&&bh b.toNat bytes then Z ⟨.G nx sz a.toNat,[],[nx],[(nx,⟨ty,.fz (repl z a.toNat)⟩)],[nx]⟩ else U
  |_,_=>U
 |.slc sz x A hi mx=>match lZ e x with
  |some v=>match A,hi,mx with
   |none,Z (.const (.int _ 0)),Z (.const (.int _ 0))=>if v.slen.isSome then rv .emp else U
   |none,Z b,U=>match v,lZ e b with
    |.G id sz' n,Z (.f (.raw (.int _ j)))=>if sz'==sz&&c8 0 j&&c8 j n then (match h.get id with
     |some blk=>if blk.c.isCells&&dx (n*sz) blk.c.len then Z ⟨.G nx sz j.toNat,[id],[nx,id],[(nx,⟨blk.ty,pq (blk.c.toMx.take (j.toNat*sz))⟩)],[nx]⟩ else U
     |none=>U) else U
    |.f (.sl cells n),Z (.f (.raw (.int _ j)))=>if c8 0 j&&c8 j n&&dx (n*sz) (l! cells) then rv (.f (.sl (cells.take (j.toNat*sz)) j.toNat)) else U
    |_,_=>U
   |some b,U,U=>match v,lZ e b with
    |.G id sz' n,Z (.f (.raw (.int _ j)))=>if sz'==sz&&c8 0 j&&gM j n then rv (.sl id (j.toNat*sz) (n-j.toNat)) else U
    |.f (.sl cells n),Z (.f (.raw (.int _ j)))=>if c8 0 j&&c8 j n&&dx (n*sz) (l! cells) then rv (.f (.sl ((cells.drop (j.toNat*sz)).take ((n-j.toNat)*sz)) (n-j.toNat))) else U
    |_,_=>U
   |none,Z b,Z b'=>match v,lZ e b,lZ e b' with
    |.f (.sl cells n),Z (.f (.raw (.int _ j))),Z (.f (.raw (.int _ I)))=>if decide (j=I)&&c8 0 j&&c8 j n&&dx (n*sz) (l! cells) then rv (.qc (cells.take (j.toNat*sz)) j.toNat) else U
    |_,_,_=>U
   |some b,Z b',U=>match v,lZ e b,lZ e b' with
    |.f (.sl cells n),Z (.f (.raw (.int _ j))),Z (.f (.raw (.int _ k)))=>if c8 0 j&&c8 j k&&c8 k n&&dx (n*sz) (l! cells) then rv (.f (.sl ((cells.drop (j.toNat*sz)).take ((k.toNat-j.toNat)*sz)) (k.toNat-j.toNat))) else U
    |_,_,_=>U
   |_,_,_=>U
  |none=>U
 |.jk off x=>match lZ e x with
  |some (.H id o)=>rv (.H id (o+off))
  |some (.f (.H cells o))=>rv (.f (.H cells (o+off)))
  |_=>U
 |.fld off sz q x=>match lZ e x with
  |some (.agg l)=>(match (BC.mx l).sub? off sz q with|some v=>rv v|none=>U)
  |some (.f (.agg l))=>(match (BC.fz l).sub? off sz q with|some v=>rv v|none=>U)
  |_=>U
 |.jy sz x i=>match lZ e x,lZ e i with
  |some v,Z (.f (.raw (.int _ j)))=>match v with
   |.G id sz' n=>if sz'==sz&&c8 0 j&&gM j n then rv (.H id (j.toNat*sz)) else U
   |.sl id off n=>if c8 0 j&&gM j n then rv (.H id (off+j.toNat*sz)) else U
   |.f (.sl cells n)=>if c8 0 j&&gM j n then rv (.f (.H cells (j.toNat*sz))) else U
   |_=>U
  |_,_=>U
 |.jx n sz x i=>match lZ e x,lZ e i with
  |some v,Z (.f (.raw (.int _ j)))=>if c8 0 j&&gM j n then (match v with
   |.H id off=>rv (.H id (off+j.toNat*sz))
   |.f (.H cells off)=>rv (.f (.H cells (off+j.toNat*sz)))
   |_=>U) else U
  |_,_=>U
 |.idx n sz q x i=>match lZ e x,lZ e i with
  |some v,Z (.f (.raw (.int _ j)))=>if c8 0 j&&gM j n then (match v with
   |.agg l=>(match (BC.mx l).sub? (j.toNat*sz) sz q with|some v=>rv v|none=>U)
   |.f (.agg l)=>(match (BC.fz l).sub? (j.toNat*sz) sz q with|some v=>rv v|none=>U)
   |_=>U) else U
  |_,_=>U
 |.ext x i=>match lZ e x with|some (.qp l)=>(match l[i]? with|some v=>rv v|none=>U)|_=>U
 |.len x=>match lZ e x with
  |some v=>(match v.slen with|some n=>rv (raw (.int .i64 n))|none=>U)
  |none=>U
 |.lens x=>match lZ e x with
  |some (.f (.raw (.string s)))=>rv (raw (.int .i64 (l! s.data.toList)))
  |_=>U
 |.max x y=>match lZ e x,lZ e y with
  |some (.f (.raw (.int k a))),Z (.f (.raw (.int _ b)))=>rv (raw (.int k (if gM a b then b else a)))
  |_,_=>U
 |.min x y=>match lZ e x,lZ e y with
  |some (.f (.raw (.int k a))),Z (.f (.raw (.int _ b)))=>rv (raw (.int k (if gM b a then b else a)))
  |_,_=>U
 |.jq x i=>match lZ e x,lZ e i with
  |some (.f (.raw (.string s))),Z (.f (.raw (.int _ j)))=>if c8 0 j then (match s.data.toList[j.toNat]? with|some b=>rv (raw (.int .u8 b.toNat))|none=>U) else U
  |_,_=>U
 |.tos x=>match lZ e x with
  |some y=>(match y.row? h 1 with
   |some (src,_,rd)=>(match EH src with|some l=>Z ⟨raw (.string ⟨l.toArray⟩),rd,[],[],[]⟩|none=>U)
   |none=>U)
  |none=>U
 |.sls x A hi=>match lZ e x with
  |some (.f (.raw (.string s)))=>(match aiy e 0 A,aiy e s.data.size hi with
   |some l,Z m=>if dx l m&&dx m s.data.size then rv (raw (.string ⟨((s.data.toList.drop l).take (m-l)).toArray⟩)) else U
   |_,_=>U)
  |_=>U
 |.byt x=>match lZ e x with
  |some (.f (.raw (.string s)))=>if dx s.data.size 65536 then rv (.f (.sl (s.data.toList.map λb=>.raw (.int .u8 b.toNat)) s.data.size)) else U
  |_=>U
 |.jf neg x=>match lZ e x with
  |some (.f (.raw .nilIface))=>rv (raw (.bool (!neg)))
  |_=>U
 |.sla n sz x A=>match lZ e x,lZ e A with
  |some (.H id off),Z (.f (.raw (.int _ j)))=>if c8 0 j&&gM j n then rv (.sl id (off+j.toNat*sz) (n-j.toNat)) else U
  |_,_=>U
 |.app ty sz bytes s x=>match lZ e s,lZ e x with
  |some b,Z y=>match y.row? h sz with
   |some (src,m,rd)=>match b with
    |.G id sz' n=>match h.get id with
     |some blk=>if sz'==sz&& !(mem id rd)&&blk.c.isCells&&dx (n*sz) blk.c.len&&blk.ty==ty&&bh (n+m) bytes then
       Z ⟨.G nx sz (n+m),id::rd,[nx,id],[(nx,⟨ty,pq (blk.c.toMx.take (n*sz)++src)⟩)],[nx]⟩ else U
     |none=>U
    |.qc cells n=>if dx (n*sz) (l! cells)&&bh (n+m) bytes then
      (if m==0 then Z ⟨.f (.sl cells n),rd,[],[],[]⟩ else Z ⟨.G nx sz (n+m),rd,[nx],[(nx,⟨ty,pq ((cells.take (n*sz)).map .f++src)⟩)],[nx]⟩) else U
    |b=>if HV b&&bh m bytes then
      (if m==0 then Z ⟨b,rd,[],[],[]⟩ else Z ⟨.G nx sz m,rd,[nx],[(nx,⟨ty,pq src⟩)],[nx]⟩) else U
   |none=>U
  |_,_=>U
 |.clr _ z x=>match lZ e x with
  |some (.sl id off n)=>(match h.get id with
   |some blk=>if dw 0 n then (match blk.c.put off ((repl z n).map .f) with
    |some c=>Z ⟨.qp [],[id],[id],[(id,⟨blk.ty,c⟩)],[]⟩
    |none=>U) else U
   |none=>U)
  |_=>U
 |.mkf f caps=>match evs e caps with|some l=>rv (.qv f l)|none=>U
 |.mkm=>Z ⟨.mp nx,[],[nx],[(nx,⟨0,.mp []⟩)],[nx]⟩
 |.lku str ok z x k=>match lZ e x,lZ e k with
  |some (.mp id),Z (.f (.raw key))=>(match h.get id with
   |some ⟨0,.mp D⟩=>if BE str key then (match u4 key D with|some (Z v)=>Z ⟨pkV ok v J,[id],[],[],[]⟩|some U=>Z ⟨pkV ok (raw z) aa,[id],[],[],[]⟩|none=>U) else U
   |_=>U)
  |_,_=>U
 |.mup str x k v=>match lZ e x,lZ e k,lZ e v with
  |some (.mp id),Z (.f (.raw key)),Z y=>(match h.get id with
   |some ⟨0,.mp D⟩=>if BE str key then (match Bz key y D with|some es'=>Z ⟨raw undef,[id],[id],[(id,⟨0,.mp es'⟩)],[]⟩|none=>U) else U
   |_=>U)
  |_,_,_=>U
 |.rng x=>match lZ e x with
  |some (.f (.raw (.string s)))=>Z ⟨.H nx 0,[],[nx],[(nx,⟨0,.it s 0⟩)],[nx]⟩
  |_=>U
 |.nxt x=>match lZ e x with
  |some (.H id 0)=>(match h.get id with
   |some ⟨ty,.it s p⟩=>(match s.data.toList[p]? with
    |some b=>Z ⟨.qp [raw (.bool J),raw (.int .i64 p),raw (.int .i32 (rnA b s p))],[id],[id],[(id,⟨ty,.it s (p+wdA b s p)⟩)],[]⟩
    |none=>Z ⟨.qp [raw (.bool aa)],[id],[id],[(id,⟨ty,.it s p⟩)],[]⟩)
   |_=>U)
  |_=>U
 |.zd=>U
structure pQ where
 dst:Option Nat
 op:SI
 guard:Option (Nat×Bool)
inductive SC where
 |skip
 |jz (ops:List pQ) (prs:List (Nat×Nat))
 |seq (a b:SC)
 |cond (c:Nat) (a b:SC)
 |block (id:Nat) (b:SC)
 |loop (b:SC)
 |exit (id:Nat)
 |ret
 |zd
structure Rv where
 val:AV
 h:ie
 nx:Nat
 wr:Nat
abbrev wg:=FuncId->Y AV->ie->Nat->M Rv
mutual
def AV.ids:AV->Nat->Nat
 |.H id _,acc|.sl id _ _,acc|.G id _ _,acc|.mp id,acc=>acc|||(1<<<id)
 |.agg l,acc|.qp l,acc|.qv _ l,acc=>AV.idsL l acc
 |.f _,acc|.emp,acc|.qj,acc|.qc _ _,acc=>acc
def AV.idsL:Y AV->Nat->Nat
 |[],acc=>acc
 |x::r,acc=>AV.idsL r (AV.ids x acc)
end
mutual
def AV.all (p:Nat->Bool):AV->Bool
 |.H id _|.sl id _ _|.G id _ _|.mp id=>p id
 |.agg l|.qp l|.qv _ l=>AV.allL p l
 |.f _=>J
 |.emp=>J
 |.qj=>J
 |.qc _ _=>J
def AV.allL (p:Nat->Bool):Y AV->Bool
 |[]=>J
 |x::r=>AV.all p x&&AV.allL p r
end
def BC.ids:BC->Nat->Nat
 |.mx l,acc=>AV.idsL l acc
 |.mp q,acc=>AV.idsL (q.map (·.2)) acc
 |_,acc=>acc
def BC.all (p:Nat->Bool):BC->Bool
 |.mx l=>AV.allL p l
 |.mp q=>AV.allL p (q.map (·.2))
 |_=>J
def ie.all (p:Nat->Bool) (h:ie):Bool:=PT.all (λi b=>p i&&b.c.all p) 1 0 h
def Qn:Nat->ie->Nat->Nat->Nat
 |0,_,_,OM=>OM
 |n+1,h,todo,OM=>
  if aB todo 0 then OM else
  match Nat.log2 todo with
  |id=>if aC OM id then Qn n h (todo ^^^ (1<<<id)) OM else
   match h.get id with
   |some b=>Qn n h (b.c.ids (todo ^^^ (1<<<id))) (OM|||(1<<<id))
   |none=>Qn n h (todo ^^^ (1<<<id)) OM
section force
variable {α:Type}
def sE (n:Nat) (k:Nat->α):α:=match n with|0=>k 0|m+1=>k (m+1)
def ar1 (n:Int) (k:Int->α):α:=match n with|.ofNat m=>sE m λm=>k (.ofNat m)|.negSucc m=>sE m λm=>k (.negSucc m)
def aur (b:Bool) (k:Bool->α):α:=match b with|true=>k J|false=>k aa
def ar0 (v:Value) (k:Value->α):α:=match v with
 |.int kd n=>ar1 n λn=>k (.int kd n)
 |.bool b=>aur b λb=>k (.bool b)
 |v=>k v
def amb (x:FV) (k:FV->α):α:=match x with
 |.raw v=>ar0 v λv=>k (.raw v)
 |.H cells off=>sE off λoff=>k (.H cells off)
 |.sl cells n=>sE n λn=>k (.sl cells n)
 |.agg l=>k (.agg l)
def VN:Y FV->(Y FV->α)->α
 |[],k=>k []
 |x::r,k=>amb x λx=>VN r λr=>k (x::r)
def ahs (x:FV) (k:FV->α):α:=match x with
 |.agg l=>VN l λl=>k (.agg l)
 |x=>amb x k
def aaz (x:AV) (k:AV->α):α:=match x with
 |.f x=>ahs x λx=>k (.f x)
 |.H id off=>sE id λid=>sE off λoff=>k (.H id off)
 |.sl id off n=>sE id λid=>sE off λoff=>sE n λn=>k (.sl id off n)
 |.G id sz n=>sE id λid=>sE sz λsz=>sE n λn=>k (.G id sz n)
 |.mp id=>sE id λid=>k (.mp id)
 |x=>k x
def MS:Y AV->(Y AV->α)->α
 |[],k=>k []
 |x::r,k=>aaz x λx=>MS r λr=>k (x::r)
def aht (x:AV) (k:AV->α):α:=match x with
 |.agg l=>MS l λl=>k (.agg l)
 |.qp l=>MS l λl=>k (.qp l)
 |.qv f l=>MS l λl=>k (.qv f l)
 |x=>aaz x k
def ar2 (c:BC) (k:BC->α):α:=match c with
 |.fz l=>VN l λl=>k (.fz l)
 |.mx l=>MS l λl=>k (.mx l)
 |.it s p=>sE p λp=>k (.it s p)
 |.mp q=>k (.mp q)
def Ph :PT R->(PT R->α)->α
 |.leaf,k=>k .leaf
 |.node v l r,k=>(match v with
  |none=>λ(k:M R->α)=>k U
  |some x=>λk=>k (Z x)) λv=>Ph l λl=>Ph r λr=>k (.node v l r)
def RQ :Nat->PT R->Nat->M R->(PT R->α)->α
 |0,t,_,_,k=>k t
 |f+1,t,n,x,k=>match t with
  |.leaf=>(match n with
   |0=>k (.node x .leaf .leaf)
   |m+1=>if aB (m%2) 0 then sE (m/2) λq=>RQ f .leaf q x λu=>k (.node U u .leaf) else sE (m/2) λq=>RQ f .leaf q x λu=>k (.node U .leaf u))
  |.node v l r=>(match n with
   |0=>k (.node x l r)
   |m+1=>if aB (m%2) 0 then sE (m/2) λq=>RQ f l q x λu=>k (.node v u r) else sE (m/2) λq=>RQ f r q x λu=>k (.node v l u))
def tF (n:Nat) (k:Nat->α):sE n k=k n:=by cases n<;>rfl
def ama (n:Int) (k:Int->α):ar1 n k=k n:=by cases n<;>simp only[ar1,tF]
def amd (n:Bool) (k:Bool->α):aur n k=k n:=by cases n<;>rfl
def am9 (n:Value) (k:Value->α):ar0 n k=k n:=by cases n<;>simp only[ar0,ama,amd]
def aay (x:FV) (k:FV->α):amb x k=k x:=by cases x<;>simp only[amb,am9,tF]
def MQ:∀(x:Y FV) (k:Y FV->α),VN x k=k x
 |[],_=>rfl
 |x::r,k=>by rw[VN,aay,MQ r]
def ahr (x:FV) (k:FV->α):ahs x k=k x:=by cases x<;>simp only[ahs,aay,MQ]
def VO (x:AV) (k:AV->α):aaz x k=k x:=by cases x<;>simp only[aaz,tF,ahr]
def MR:∀(x:Y AV) (k:Y AV->α),MS x k=k x
 |[],_=>rfl
 |x::r,k=>by rw[MS,VO,MR r]
def S8 (x:AV) (k:AV->α):aht x k=k x:=by cases x<;>simp only[aht,VO,MR]
def amc (x:BC) (k:BC->α):ar2 x k=k x:=by cases x<;>simp only[ar2,MQ,MR,tF]
def wY :∀(x:PT R) (k:PT R->α),Ph x k=k x
 |.leaf,_=>rfl
 |.node v l r,k=>by cases v<;>simp[Ph,wY l,wY r]
def K6 :∀(f:Nat) (t:PT R) (n:Nat) (x:M R) (k:PT R->α),RQ f t n x k=k (PT.setF f t n x)
 |0,_,_,_,_=>rfl
 |f+1,t,n,x,k=>by
  cases t<;>cases n<;>simp[RQ,PT.setF,tF]<;>split<;>rw[K6 f]
end force
structure IS where
 e:wC
 h:ie
 nx:Nat
 wr:Nat
structure Xy where
 val:AV
 rd:Nat
 wr:Nat
 h:ie
 nx:Nat
def bits:ι->Nat->Nat
 |[],acc=>acc
 |x::r,acc=>bits r (acc|||(1<<<x))
def afg (h:ie) (q:NW):ι->(ie->R)->R
 |[],k=>k h
 |i::r,k=>match je q i with
  |none=>RQ (i+1) h i U λh=>afg h q r k
  |some ⟨ty,c⟩=>ar2 c λc=>RQ (i+1) h i (Z ⟨ty,c⟩) λh=>afg h q r k
def RB (q:NW):∀(A:ι) (h:ie) (k:ie->R),afg h q A k=k (h.upd A q)
 |[],_,_=>rfl
 |i::r,h,k=>by
  unfold afg ie.upd PT.set;cases D:je q i with
  |none=>simp[K6,RB q r]
  |some b=>let⟨ty,c⟩:=b;simp[amc,K6,RB q r]
def abo (call:wg) (f:FuncId) (args:Y AV) (h:ie) (nx:Nat):M Xy:=
 sE (Qn 1000000 h (AV.idsL args 0) 0) λids=>Ph (PT.only ids 1 0 h) λA=>
 if AV.allL (dw · nx) args&&ie.all (dw · nx) A then
  match call f args A nx with
  |some ⟨val,h',nx',q⟩=>aht val λval=>sE nx' λnx'=>sE q λq=>Ph (PT.merge q 1 0 h h') λhm=>Z ⟨val,ids,q,hm,nx'⟩
  |none=>U
 else U
def opA (call:wg) (o:SI) (e:wC) (h:ie) (nx:Nat):M Xy:=
 match o with
 |.call f args=>match evs e args with|some l=>abo call f l h nx|none=>U
 |.jm x args=>match lZ e x,evs e args with|some (.qv f cap),Z l=>abo call f (l++cap) h nx|_,_=>U
 |.op o=>match dO o e h nx with
  |some ⟨val,rd,q,D,N⟩=>aht val λval=>sE (bits rd 0) λrd=>sE (bits q 0) λA=>sE (nx+l! N) λnx'=>afg h D q λh=>Z ⟨val,rd,A,h,nx'⟩
  |none=>U
def ZU (e:wC):M (Nat×Bool)->M Bool
 |none=>Z J
 |some (t,want)=>match e.get t with
  |some (.f (.raw (.bool b)))=>Z (b==want)
  |some (.f (.raw (.tuple _)))=>Z aa
  |_=>U
def aqf (e:wC) (dst:M Nat) (v:AV) (k:wC->R):R:=match dst with
 |none=>k e
 |some d=>RQ (d+1) e d (Z v) k
def Z5 (e:wC) (dst:M Nat) (v:AV) (k:wC->R):aqf e dst v k=k (e.put dst v):=by
 cases dst with
 |none=>rfl
 |some d=>exact K6 _ _ _ _ _
structure XK where
 rd:Nat
 wr:Nat
def Br (call:wg):Y pQ->IS->M (IS×Y XK)
 |[],s=>Z (s,[])
 |o::r,⟨e,h,nx,A⟩=>
  match ZU e o.guard with
  |some J=>(match opA call o.op e h nx with
   |some ⟨val,rd,w,h',nx'⟩=>aqf e o.dst val λe'=>sE (A|||w) λwr'=>(match Br call r ⟨e',h',nx',wr'⟩ with
    |some (s',q)=>Z (s',⟨rd,w⟩::q)
    |none=>U)
   |none=>U)
  |some aa=>aqf e o.dst (raw undef) λe'=>(match Br call r ⟨e',h,nx,A⟩ with
   |some (s',q)=>Z (s',⟨0,0⟩::q)
   |none=>U)
  |none=>U
def adh:Y XK->Nat->M XK
 |[],_=>U
 |f::_,0=>Z f
 |_::r,n+1=>adh r n
def Cg (a b:Nat):Bool:=aB (a&&&b) 0
abbrev j?:=Nat×Nat
def Bt (q:Y XK):Y j?->Bool
 |[]=>J
 |(i,j)::r=>(match adh q i,adh q j with
  |some a,Z b=>Cg a.wr b.rd&&Cg a.wr b.wr&&Cg b.wr a.rd
  |_,_=>aa)&&Bt q r
inductive Ex where
 |normal
 |exit (id:Nat)
 |ret
def I0 (body:IS->M (Ex×IS)) (e0:wC):Nat->IS->M (Ex×IS)
 |0,_=>U
 |n+1,s=>match body s with
  |some (.normal,⟨e,h,nx,q⟩)=>Ph (PT.mask e e0) λe=>I0 body e0 n ⟨e,h,nx,q⟩
  |r=>r
def run (call:wg) (inert:FuncId->Bool) (fZ:Nat):SC->IS->M (Ex×IS)
 |.skip,s=>Z (.normal,s)
 |.jz ops prs,s=>match Br call ops s with
  |some (s',q)=>if Bt q prs then Z (.normal,s') else U
  |none=>U
 |.seq a b,s=>match run call inert fZ a s with
  |some (.normal,s')=>run call inert fZ b s'
  |r=>r
 |.cond c a b,s=>match s.e.get c with
  |some (.f (.raw (.bool J)))=>run call inert fZ a s
  |some (.f (.raw (.bool aa)))=>run call inert fZ b s
  |_=>U
 |.block id b,s=>match run call inert fZ b s with
  |some (.exit i,s')=>if aB i id then Z (.normal,s') else Z (.exit i,s')
  |r=>r
 |.loop b,s=>I0 (run call inert fZ b) s.e fZ s
 |.exit id,s=>Z (.exit id,s)
 |.ret,s=>Z (.ret,s)
 |.zd,_=>U
inductive RV where
 |tmp (t:Nat)
 |cell (a:Nat) (sz:Nat) (ag:Bool)
structure SF where
 code:SC
 res:List RV
 nt:Nat
def X5 (e:wC) (h:ie):Y RV->M (Y AV)
 |[]=>Z []
 |.tmp t::r=>match e.get t,X5 e h r with|some v,Z l=>Z (v::l)|_,_=>U
 |.cell a sz q::r=>match e.get a with
  |some p=>(match yK h sz q p,X5 e h r with|some v,Z l=>Z (v.val::l)|_,_=>U)
  |none=>U
def AX:Y AV->AV
 |[x]=>x
 |l=>.qp l
def ZA:Nat->Y AV->wC
 |_,[]=>PT.leaf
 |k,x::xs=>(ZA (k+1) xs).set k (Z x)
def aah (nx0:Nat) (ids0:Nat) (res:Y RV) (s:IS):M Rv:=
 match X5 s.e s.h res with
 |some l=>
  aht (AX l) λv=>sE (Qn 1000000 s.h (AV.ids v ids0) 0|||ids0) λids=>Ph (PT.only ids 1 0 s.h) λh'=>
  sE (((PT.dom 1 0 h' 0)>>>nx0)<<<nx0) λex=>
  if aB (ids0>>>nx0) 0&&AV.all (λi=>dw i nx0||aC ex i) v&&ie.all (λi=>dw i nx0||aC ex i) h' then Z ⟨v,h',(if aB ex 0 then nx0 else Nat.log2 ex+1),s.wr%(1<<<nx0)|||ex⟩ else U
 |none=>U
def afx (tbl:FuncId->M SF) (intr:wg) (inert:FuncId->Bool) (fZ:Nat):Nat->wg
 |0,_,_,_,_=>U
 |n+1,f,args,h,nx=>match intr f args h nx with
  |some r=>Z r
  |none=>(match tbl f with
   |some q=>if dx (l! args) q.nt then Ph (ZA 0 args) λe=>(match run (afx tbl intr inert fZ n) inert fZ q.code ⟨e,h,nx,0⟩ with
    |some (.ret,s)|some (.normal,s)=>aah nx (PT.dom 1 0 h 0) q.res s
    |_=>U) else U
   |none=>U)
def arj:Value->Value->Bool
 |.bool a,.bool b=>a==b
 |.int k a,.int A b=>k==A&&a==b
 |.string a,.string b=>tH a b
 |.slice U n c,.slice U q D=>aB n q&&aB c D
 |.pointer U,.pointer U=>J
 |.tuple a,.tuple b=>a.isEmpty&&b.isEmpty
 |_,_=>aa
def fK (P:Program) (t:TypeId):M Nat:=(P.info? t).map (·.size)
def Iu (P:Program) (t:TypeId):M Nat:=(P.info? t).map (·.bytes)
def uN (P:Program) (t:TypeId):M ξ:=((P.info? t).bind (·.zero)).map (·.cells.toList)
def G9 (P:Program) (t:TypeId):M Bool:=(P.underlying t).map λ|.struct _=>J|.array _ _=>J|_=>aa
def Jc (P:Program) (t:TypeId):M TypeId:=match P.underlying t with|some (.slice e)=>Z e|_=>U
def Eb (P:Program) (t:TypeId) (i:Nat):M j?:=match P.underlying t with
 |some (.struct A)=>(A[i]?).bind λf=>(fK P f.type).map (f.offset,·)
 |some (.array _ q)|some (.slice q)=>(fK P q).map λs=>(i*s,s)
 |_=>U
def zB (P:Program) (t:TypeId):Y n?->M (Y J!)
 |[]=>Z []
 |(i,x)::r=>match Eb P t i,zB P t r with|some (o,s),Z l=>Z ((o,s,x)::l)|_,_=>U
def nO (z:ξ):Bool:=z.all λv=>v.oneCell'
def LO:TypeDesc->Bool
 |.int _=>J
 |.bool=>J
 |.string=>J
 |_=>aa
def tq (P:Program):Nat→Y Field→M (Y TypeDesc)
 |_,[]=>Z []
 |k,f::r=>match P.underlying f.type,tq P (k+1) r with
  |some d,Z ds=>if f.name != "_" &&f.offset==k&&LO d then Z (d::ds) else U
  |_,_=>U
def agb (P:Program) (t:TypeId):M (Y TypeDesc):=match P.underlying t with
 |some (.struct q)=>if P.stoodInHeld t then U else tq P 0 q.toList
 |_=>U
def W6 (P:Program) (c:Call):M Rr:=
 match c.callee with
 |.builtin .len=>(match c.args.toList,c.argTypes.toList with
  |[x],[t]=>(match P.underlying t with
   |some (.slice _)=>Z (.len x)
   |some .string=>Z (.lens x)
   |_=>U)
  |_,_=>U)
 |.builtin .max=>(match c.args.toList with
  |[x,y]=>Z (.max x y)
  |_=>U)
 |.builtin .min=>(match c.args.toList with
  |[x,y]=>Z (.min x y)
  |_=>U)
 |.builtin .clear=>(match c.args.toList,c.argTypes.toList with
  |[x],[t]=>(Jc P t).bind λq=>(uN P q).bind λz=>(fK P q).bind λsz=>if nO z&&l! z==sz&&sz !=0 then Z (.clr sz z x) else U
  |_,_=>U)
 |.builtin .append=>(match c.args.toList,c.argTypes.toList with
  |[s,x],[t,u]=>(match Jc P t,Jc P u with
   |some q,Z _=>(fK P q).bind λsz=>(Iu P q).bind λb=>(uN P q).bind λz=>if sz !=0&&l! z==sz then Z (.app q sz b s x) else U
   |_,_=>U)
  |_,_=>U)
 |_=>U
def cY (P:Program):Op->M Rr
 |.move x|.assign x=>Z (.mv x)
 |.pick c a b=>Z (.pick c a b)
 |.alloc t=>(uN P t).bind λz=>if nO z then Z (.alloc t z) else U
 |.box t x=>Z (.box t x)
 |.build t I=>match P.underlying t with
  |some (.struct A)=>(uN P t).bind λz=>if nO z&&(A.toList.all λf=>(fK P f.type).isSome) then (zB P t I.toList).map (.build z) else U
  |some (.array _ q)=>(uN P t).bind λz=>if nO z&&(fK P q).isSome then (zB P t I.toList).map (.build z) else U
  |_=>U
 |.buildSlice t n I=>(Jc P t).bind λq=>(uN P q).bind λz=>(fK P q).bind λsz=>if nO z&&l! z==sz&&dx (n*sz) 65536&&sz !=0 then (zB P t I.toList).map (.jt q sz n z) else U
 |.load t x=>(fK P t).bind λsz=>(G9 P t).map λD=>.load sz D x
 |.store t x v=>(fK P t).map λsz=>.store sz x v
 |.nilCheck x=>Z (.zh x)
 |.binOp op t x y _=>match P.underlying t with
  |some (.int _)|some .string=>Z (.bin op x y)
  |some .bool=>(match op with|.eql=>Z (.jh aa x y)|.neq=>Z (.jh J x y)|_=>U)
  |some (.slice _)=>(match op,y with
   |.eql,.const (.slice U 0 0)=>Z (.zf aa x)
   |.neq,.const (.slice U 0 0)=>Z (.zf J x)
   |_,_=>U)
  |some (.interface _)=>(match op,y with
   |.eql,.const .nilIface=>Z (.jf aa x)
   |.neq,.const .nilIface=>Z (.jf J x)
   |_,_=>U)
  |some (.struct _)=>(agb P t).bind λds=>(match op with|.eql=>Z (.jp aa ds x y)|.neq=>Z (.jp J ds x y)|_=>U)
  |_=>U
 |.unOp .not _ x=>Z (.not x)
 |.unOp .neg t x=>match P.underlying t with|some (.int k)=>Z (.bin .sub (.const (.int k 0)) x)|_=>U
 |.convert s d x=>match P.underlying s,P.underlying d with
  |some (.int _),Z (.int k)=>Z (.conv k x)
  |some .string,Z (.slice q)=>(match P.underlying q with|some (.int .u8)=>Z (.byt x)|_=>U)
  |some (.slice q),Z .string=>(match P.underlying q with|some (.int .u8)=>Z (.tos x)|_=>U)
  |_,_=>U
 |.makeSlice t l c=>(Jc P t).bind λq=>(uN P q).bind λz=>(fK P q).bind λsz=>(Iu P q).bind λb=>if nO z&&l! z==sz&&sz !=0 then Z (.zk q sz b z l c) else U
 |.slice t x N hi mx=>match P.underlying t with
  |some (.array n q)=>(match N,hi,mx with
   |some b,U,U=>(fK P q).bind λsz=>if dx n 65536 then Z (.sla n sz x b) else U
   |_,_,_=>U)
  |some .string=>(match mx with|none=>Z (.sls x N hi)|some _=>U)
  |_=>(Jc P t).bind λq=>(fK P q).map λsz=>.slc sz x N hi mx
 |.fieldAddr t x k=>match P.underlying t with
  |some (.struct A)=>(A[k]?).bind λf=>(fK P f.type).bind λsz=>if sz !=0 then Z (.jk f.offset x) else U
  |_=>U
 |.field t x k=>match P.underlying t with
  |some (.struct A)=>(A[k]?).bind λf=>(fK P f.type).bind λsz=>(G9 P f.type).map λD=>.fld f.offset sz D x
  |_=>U
 |.indexAddr t x i=>match P.underlying t with
  |some (.slice q)=>(fK P q).map λsz=>.jy sz x i
  |some (.array n q)=>(fK P q).map λsz=>.jx n sz x i
  |_=>U
 |.index t x i=>match P.underlying t with
  |some (.array n q)=>(fK P q).bind λsz=>(G9 P q).map λD=>.idx n sz D x i
  |some .string=>Z (.jq x i)
  |_=>U
 |.extract x i=>Z (.ext x i)
 |.makeFunc (.func f) first caps=>if first.isEmpty then Z (.mkf f caps.toList) else U
 |.makeMap t U=>match P.underlying t with|some (.map _ _)=>Z .mkm|_=>U
 |.lookup t x k ok=>match P.underlying t with
  |some (.map kt q)=>(match P.underlying kt,(P.info? q).bind (·.zero) with
   |some (.int _),Z z=>if z.oneCell' then Z (.lku aa ok z x k) else U
   |some .string,Z z=>if z.oneCell' then Z (.lku J ok z x k) else U
   |_,_=>U)
  |_=>U
 |.mapUpdate t m k v=>match P.underlying t with
  |some (.map kt _)=>(match P.underlying kt with
   |some (.int _)=>Z (.mup aa m k v)
   |some .string=>Z (.mup J m k v)
   |_=>U)
  |_=>U
 |.range t x=>match P.underlying t with|some .string=>Z (.rng x)|_=>U
 |.next x J=>Z (.nxt x)
 |.call c=>W6 P c
 |_=>U
def Co:Op->M SI
 |.call c=>(match c.callee with
  |.value (.func f)=>Z (.call f c.args.toList)
  |.value (.tmp t)=>Z (.jm (.tmp t) c.args.toList)
  |_=>U)
 |_=>U
def pP (P:Program) (op:Op):SI:=match Co op with
 |some i=>i
 |none=>(match cY P op with|some s=>.op s|none=>.op .zd)
def Rr.still:Rr->Bool
 |.mv _|.pick _ _ _|.build _ _|.zh _|.bin _ _ _|.jp _ _ _ _|.zf _ _|.jh _ _ _|.not _|.conv _ _|.jk _ _|.fld _ _ _ _|.jy _ _ _|.jx _ _ _ _|.idx _ _ _ _ _|.ext _ _|.max _ _|.min _ _|.jq _ _|.mkf _ _|.sla _ _ _ _|.sls _ _ _|.jf _ _|.zd=>J
 |_=>aa
def SI.still:SI->Bool
 |.op s=>s.still
 |_=>aa
def nN (P:Program) (ops:Array Oper):Y Oper->M (Y pQ)
 |[]=>Z []
 |o::r=>match nN P ops r with
  |some l=>(match o.guard with
   |none=>Z (⟨o.dst,pP P o.op,U⟩::l)
   |some (j,want)=>(match (ops[j]?).bind (·.dst) with
    |some t=>Z (⟨o.dst,pP P o.op,Z (t,want)⟩::l)
    |none=>U))
  |none=>U
def Fr (ops:Array Oper) (l:Y pQ):M (Y j?):=
 let B:=EI ops.toList []
 if (mI ops.size).all λj=>((ops[j]?).all λq=>q.after.toList.all λe=> !CD .any e||decide (e.on<j))&&
     (mI j).all λi=>aC (B.getD j 0) i||(match ops[i]?,ops[j]? with|some A,Z q=>A.apart ops q|_,_=>aa)
 then Z ((mI ops.size).flatMap λj=>(mI j).filterMap λi=>
  if aC (B.getD j 0) i||(match l[i]?,l[j]? with|some a,Z b=>a.op.still||b.op.still|_,_=>aa) then U else Z (i,j))
 else U
def bz (P:Program) (nt:Nat):Code->SC
 |.skip=>.skip
 |.region _ ops _=>if ops.toList.all λo=>match o.dst with|some d=>decide (d<nt)|none=>J then
   (match nN P ops ops.toList with
     |some l=>(match Fr ops l with|some prs=>.jz l prs|none=>.zd)
     |none=>.zd) else .zd
 |.seq a b=>.seq (bz P nt a) (bz P nt b)
 |.cond (.tmp c) a b=>.cond c (bz P nt a) (bz P nt b)
 |.cond (.const (.bool J)) a _=>bz P nt a
 |.cond (.const (.bool aa)) _ b=>bz P nt b
 |.block id b=>.block id (bz P nt b)
 |.loop b=>.loop (bz P nt b)
 |.exit id=>.exit id
 |.ret=>.ret
 |_=>.zd
def nM (P:Program):Y ResultVar->M (Y RV)
 |[]=>Z []
 |.tmp t::r=>match nM P r with|some l=>Z (.tmp t::l)|none=>U
 |.cell a t::r=>match nM P r,fK P t,G9 P t with|some l,Z sz,Z q=>Z (.cell a sz q::l)|_,_,_=>U
def AQ (P:Program) (f:FuncId):M SF:=
 match P.funcs[f]? with
 |some fn=>if fn.name== "runtime.NumGoroutine" then U else (match fn.body,nM P fn.results.toList with
  |some c,Z r=>Z ⟨bz P fn.ntmps c,r,fn.ntmps⟩
  |_,_=>U)
 |none=>U
inductive Xp where
 |mk (op n:Int) (name:ζ) (l:List Xp)
inductive Sx where
 |mk (op line:Int) (name arg:ζ) (index:List Xp) (expr:Xp) (body els:List Sx)
def Xp.op:Xp->Int|.mk a _ _ _=>a
def Xp.n:Xp->Int|.mk _ a _ _=>a
def Xp.name:Xp->ζ|.mk _ _ a _=>a
def Xp.l:Xp->Y Xp|.mk _ _ _ a=>a
def Sx.op:Sx->Int|.mk a _ _ _ _ _ _ _=>a
def Sx.line:Sx->Int|.mk _ a _ _ _ _ _ _=>a
def Sx.name:Sx->ζ|.mk _ _ a _ _ _ _ _=>a
def Sx.arg:Sx->ζ|.mk _ _ _ a _ _ _ _=>a
def Sx.index:Sx->Y Xp|.mk _ _ _ _ a _ _ _=>a
def Sx.expr:Sx->Xp|.mk _ _ _ _ _ a _ _=>a
def Sx.body:Sx->Y Sx|.mk _ _ _ _ _ _ a _=>a
def Sx.els:Sx->Y Sx|.mk _ _ _ _ _ _ _ a=>a
inductive Ty where
 |int (k:IntKind)
 |bool
 |str
 |sl (t:Ty)
 |st (t:Ty)
 |pr (a b:Ty)
 |un
 |ex
 |sm
 deriving DecidableEq
@[reducible] def Ty.den:Ty->Type
  |.int _=>Int
  |.bool=>Bool
  |.str=>ζ
  |.sl t=>Y t.den
  |.st t=>t.den
  |.pr a b=>a.den×b.den
  |.un=>Unit
  |.ex=>Xp
  |.sm=>Sx
def Ty.size:Ty->Nat
 |.st t=>t.size
 |.pr a b=>a.size+b.size
 |.un=>0
 |.ex=>4
 |.sm=>11
 |_=>1
def Ty.zero:(t:Ty)->t.den
 |.int _=>(0:Int)
 |.bool=>aa
 |.str=>[]
 |.sl _=>[]
 |.st t=>t.zero
 |.pr a b=>(a.zero,b.zero)
 |.un=>()
 |.ex=>.mk 0 0 [] []
 |.sm=>.mk 0 0 [] [] [] (.mk 0 0 [] []) [] []
def Ty.one:Ty->Bool
 |.int _=>J
 |.bool=>J
 |.str=>J
 |.sl _=>J
 |_=>aa
def QL:Ty:=.pr (.int .i64) (.pr (.int .i64) (.pr .str (.sl .ex)))
def Qh:Ty:=.pr (.int .i64) (.pr (.int .i64) (.pr .str (.pr .str (.pr (.sl .ex) (.pr .ex (.pr (.sl .sm) (.sl .sm)))))))
def RE (e:Xp):QL.den:=(e.op,e.n,e.name,e.l)
def eJ (x:QL.den):Xp:=.mk x.1 x.2.1 x.2.2.1 x.2.2.2
def RD (e:Sx):Qh.den:=(e.op,e.line,e.name,e.arg,e.index,e.expr,e.body,e.els)
def oZ (x:Qh.den):Sx:=.mk x.1 x.2.1 x.2.2.1 x.2.2.2.1 x.2.2.2.2.1 x.2.2.2.2.2.1 x.2.2.2.2.2.2.1 x.2.2.2.2.2.2.2
mutual
def yh:Xp->Y FV
 |.mk op n name l=>[.raw (.int .i64 op),.raw (.int .i64 n),.raw (.string ⟨name.toArray⟩),.sl (M5 l) (l! l)]
def M5:Y Xp->Y FV
 |[]=>[]
 |x::r=>yh x++M5 r
end
mutual
def AA:Sx->Y FV
 |.mk op line name arg index expr body els=>[.raw (.int .i64 op),.raw (.int .i64 line),.raw (.string ⟨name.toArray⟩),.raw (.string ⟨arg.toArray⟩),.sl (M5 index) (l! index)]++yh expr++[.sl (M4 body) (l! body),.sl (M4 els) (l! els)]
def M4:Y Sx->Y FV
 |[]=>[]
 |x::r=>AA x++M4 r
end
def b8:(T:Ty)->T.den->Y FV
 |.int k,n=>[.raw (.int k n)]
 |.bool,b=>[.raw (.bool b)]
 |.str,s=>[.raw (.string ⟨s.toArray⟩)]
 |.sl t,xs=>[.sl (List.flatMap (b8 t) xs) (ah xs)]
 |.st t,v=>b8 t v
 |.pr a b,v=>b8 a v.1++b8 b v.2
 |.un,_=>[]
 |.ex,v=>yh v
 |.sm,v=>AA v
def gr:(T:Ty)->T.den->FV
 |.int k,n=>.raw (.int k n)
 |.bool,b=>.raw (.bool b)
 |.str,s=>.raw (.string ⟨s.toArray⟩)
 |.sl t,xs=>.sl (List.flatMap (b8 t) xs) (ah xs)
 |.st t,v=>.agg (b8 t v)
 |.pr a b,v=>.agg (b8 a v.1++b8 b v.2)
 |.un,_=>.agg []
 |.ex,v=>.agg (yh v)
 |.sm,v=>.agg (AA v)
def OG:(T:Ty)->T.den->T.den->Bool
 |.int _,a,b=>decide ((a:Int)=b)
 |.bool,a,b=>(a:Bool)==b
 |.str,a,b=>decide ((a:ζ)=b)
 |.st t,a,b=>OG t a b
 |.pr x y,a,b=>OG x a.1 b.1&&OG y a.2 b.2
 |_,_,_=>J
def uY {S:Ty} (T:Ty) (v:S.den):M T.den:=if h:S=T then Z (h▸v) else U
def ij (j:Int) (n:Nat):Bool:=c8 0 j&&gM j n
def aw (T:Ty) (xs:Y T.den) (j:Int):T.den:=xs.getD j.toNat T.zero
def ca (xs:Y R) (j:Int) (x:R):Y R:=xs.set j.toNat x
def FW (a b:Int):Int:=if gM a b then b else a
def Mk (a b:Int):Int:=if gM b a then b else a
def sC (s:ζ) (j:Int):Int:=aY (s.getD j.toNat 0).toNat
def aJ (b:Bool) (t f:M R):M R:=match b with|true=>t|false=>f
def chk (b:Bool) (k:b=J->M R):M R:=match b,k with|true,k=>k rfl|false,_=>U
open Classical in
def yI (a b:M R):M R:=if a=b then a else U
open Classical in
def same {α:Type} (a b:α) (r:M R):M R:=if a=b then r else U
def av {α:Type} (o:M α) (k:α->M R):M R:=match o with|some x=>k x|none=>U
def lt {α:Type} (x:α) (k:α->M R):M R:=k x
def jn {α:Type} (o:M (R⊕α)) (k:α->M R):M R:=match o with|some (.inr x)=>k x|some (.inl r)=>Z r|none=>U
def iterN {σ:Type} (step:σ->M (σ⊕R)):Nat->σ->M R
 |0,_=>U
 |n+1,x=>match step x with
  |some (.inl y)=>iterN step n y
  |some (.inr r)=>Z r
  |none=>U
open Classical in
def iter {σ R:Type} (step:σ->M (σ⊕R)) (x:σ):M R:=
 if h:∃n,(iterN step n x).isSome=J then iterN step (Classical.choose h) x else U
def mQ {σ R:Type} (step:σ->M (σ⊕R)) (x:σ):M R:=iterN step 18446744073709551616 x
abbrev OH:Type 1:=∀σ R:Type,(σ->M (σ⊕R))->σ->M R
def pi (a b:M R):Prop:=∀y,a=Z y->b=Z y
def pi.rfl {a:M R}:pi a a:=λ_ h=>h
def pi.bcase {t f q A:M R} (h1:pi t q) (h2:pi f A):pi (AI.aJ b t f) (AI.aJ b q A):=by cases b<;>assumption
def pi.chk {k q:M R} (h:pi k q):pi (AI.chk b λ_=>k) (AI.chk b λ_=>q):=by
 cases b with
 |true=>exact h
 |false=>exact λ_ h=>by cases h
def pi.obind {α:Type} {o q:M α} {k A:α->M R} (h:pi o q) (I:∀x,pi (k x) (A x)):pi (AI.av o k) (AI.av q A):=by
 intro y D;cases o with
 |none=>cases D
 |some x=>rw[h x (by rfl)];exact I x y D
def pi.lt {α:Type} {x:α} {k q:α->M R} (h:∀y,pi (k y) (q y)):pi (AI.lt x k) (AI.lt x q):=h x
def pi.jn {α:Type} {o A:M (R⊕α)} {k D:α->M R} (h:pi o A) (I:∀x,pi (k x) (D x)):pi (AI.jn o k) (AI.jn A D):=by
 intro y q;cases o with
 |none=>cases q
 |some x=>
  rw[h x (by rfl)];cases x with
  |inl r=>exact q
  |inr a=>exact I a y q
def pi.iterN {σ:Type} {f g:σ->M (σ⊕R)} (h:∀x,pi (f x) (g x)):∀(n:Nat) (x:σ),pi (AI.iterN f n x) (AI.iterN g n x)
 |0,_=>λ_ h=>by cases h
 |n+1,x=>by
  intro y q;cases hf:f x with
  |none=>rw[AI.iterN,hf]at q;cases q
  |some s=>
   rw[AI.iterN,hf]at q;rw[AI.iterN,h x s hf];cases s with
   |inl z=>exact pi.iterN h n z y q
   |inr r=>exact q
def Mg {σ:Type} {f:σ->M (σ⊕R)}:∀{n:Nat} {x:σ} {r:R},iterN f n x=Z r->iterN f (n+1) x=Z r
 |0,x,r,h=>by cases h
 |n+1,x,r,h=>by
  cases hf:f x with
  |none=>rw[iterN,hf]at h;cases h
  |some s=>
   cases s with
   |inl y=>rw[iterN,hf]at h;rw[iterN,hf];exact Mg h
   |inr q=>rw[iterN,hf]at h;rw[iterN,hf];exact h
def FP {σ:Type} {f:σ->M (σ⊕R)} {n:Nat} {x:σ} {r:R} (h:iterN f n x=Z r) (hle:n<=m):iterN f m x=Z r:=by
 induction hle with
 |refl=>exact h
 |step _ q=>exact Mg q
def BF {σ:Type} {f:σ->M (σ⊕R)} {n:Nat} {x:σ} {r:R} (h:iterN f n x=Z r):iter f x=Z r:=by
 have A:∃n,(iterN f n x).isSome=J:=⟨n,by rw[h];exact Eq.refl _⟩
 unfold iter;rw[dif_pos A];have I:=Classical.choose_spec A;let⟨N,q⟩:=jT.1 I;rw[q];rcases Nat.le_total n (Classical.choose A) with D|D
 .rw[FP h D]at q;exact q.symm
 .rw[FP q D]at h;exact h
def pi.iter {σ:Type} {f g:σ->M (σ⊕R)} {x:σ} (h:∀x,pi (f x) (g x)):pi (mQ f x) (AI.iter g x):=λy q=>BF (pi.iterN h _ x y q)
def orE (a b:M R):M R:=match a with|some y=>Z y|none=>b
def fZ:Nat:=Classical.choose (⟨100000,rfl⟩:∃n:Nat,n=100000)
def kl:fZ=100000:=Classical.choose_spec (⟨100000,rfl⟩:∃n:Nat,n=100000)
def Kb (a:Ty):Ty->Ty
 |.un=>a
 |.int k=>.pr a (.int k)
 |.bool=>.pr a .bool
 |.str=>.pr a .str
 |.sl t=>.pr a (.sl t)
 |.st t=>.pr a (.st t)
 |.pr x y=>.pr a (.pr x y)
 |.ex=>.pr a .ex
 |.sm=>.pr a .sm
def spr:Ty->Ty->Ty
 |.un,b=>b
 |.int k,b=>Kb (.int k) b
 |.bool,b=>Kb .bool b
 |.str,b=>Kb .str b
 |.sl t,b=>Kb (.sl t) b
 |.st t,b=>Kb (.st t) b
 |.pr x y,b=>Kb (.pr x y) b
 |.ex,b=>Kb .ex b
 |.sm,b=>Kb .sm b
def UU (a:Ty):(b:Ty)->a.den->b.den->(Kb a b).den
 |.un,x,_=>x
 |.int _,x,y|.bool,x,y|.str,x,y|.sl _,x,y|.st _,x,y|.pr _ _,x,y|.ex,x,y|.sm,x,y=>(x,y)
def fsN (a:Ty):(b:Ty)->(Kb a b).den->a.den
 |.un,z=>z
 |.int _,z|.bool,z|.str,z|.sl _,z|.st _,z|.pr _ _,z|.ex,z|.sm,z=>z.1
def snN (a:Ty):(b:Ty)->(Kb a b).den->b.den
 |.un,_=>()
 |.int _,z|.bool,z|.str,z|.sl _,z|.st _,z|.pr _ _,z|.ex,z|.sm,z=>z.2
def mkp:(a b:Ty)->a.den->b.den->(spr a b).den
 |.un,_,_,y=>y
 |.int k,b,x,y=>UU (.int k) b x y
 |.bool,b,x,y=>UU .bool b x y
 |.str,b,x,y=>UU .str b x y
 |.sl t,b,x,y=>UU (.sl t) b x y
 |.st t,b,x,y=>UU (.st t) b x y
 |.pr u v,b,x,y=>UU (.pr u v) b x y
 |.ex,b,x,y=>UU .ex b x y
 |.sm,b,x,y=>UU .sm b x y
def S7:(a b:Ty)->(spr a b).den->a.den
 |.un,_,_=>()
 |.int k,b,z=>fsN (.int k) b z
 |.bool,b,z=>fsN .bool b z
 |.str,b,z=>fsN .str b z
 |.sl t,b,z=>fsN (.sl t) b z
 |.st t,b,z=>fsN (.st t) b z
 |.pr u v,b,z=>fsN (.pr u v) b z
 |.ex,b,z=>fsN .ex b z
 |.sm,b,z=>fsN .sm b z
def RM:(a b:Ty)->(spr a b).den->b.den
 |.un,_,z=>z
 |.int k,b,z=>snN (.int k) b z
 |.bool,b,z=>snN .bool b z
 |.str,b,z=>snN .str b z
 |.sl t,b,z=>snN (.sl t) b z
 |.st t,b,z=>snN (.st t) b z
 |.pr u v,b,z=>snN (.pr u v) b z
 |.ex,b,z=>snN .ex b z
 |.sm,b,z=>snN .sm b z
def u_ (a b:Ty) (x:a.den) (y:b.den):S7 a b (mkp a b x y)=x:=by cases a<;>cases b<;>rfl
def wI (a b:Ty) (x:a.den) (y:b.den):RM a b (mkp a b x y)=y:=by cases a<;>cases b<;>rfl
inductive Sb where
 |nr (id:Nat) (j:Int) (sz n:Nat)
 |np (id:Nat) (j:Int) (sz:Nat) (i:Int) (off:Nat)
 |nl (q:Bool)
def Sb.id:Sb->Nat
 |.nr i _ _ _=>i
 |.np i _ _ _ _=>i
 |.nl _=>0
def Sb.to (i:Nat):Sb->Sb
 |.nr _ j s n=>.nr i j s n
 |.np _ j s k o=>.np i j s k o
 |.nl q=>.nl q
inductive wd where
 |rr (ty:TypeId) (sz:Nat)
 |ir (ty:TypeId) (T:Ty)
 deriving DecidableEq
def wd.ty:wd->Ty
 |.rr _ _=>.sl (.int .i64)
 |.ir _ T=>.sl (.sl T)
def wd.aid (n:Nat):wd->Nat
 |.ir _ _=>0
 |_=>n
def Aa:(F:wd)->F.ty.den->M (Bool×j?)
 |.rr _ _,q=>Z (aa,1,ah q)
 |_,_=>U
inductive TV where
 |f (T:Ty) (v:T.den)
 |zw (T:Ty) (xs:List T.den) (j:Int) (h:ij j (l! xs)=J) (off:Nat)
 |qn (id sz:Nat) (j:Int) (off:Nat)
 |H (id off:Nat)
 |G (id:Nat)
 |qf (id sz n:Nat)
 |emp
 |nil
 |mp (id:Nat)
 |agg (l:List TV)
 |qp (l:List TV)
 |qv (g:FuncId) (l:List TV)
 |undef
 |np
 |qj
 |zg (id:Nat) (j:Int)
 |qc (T:Ty) (xs:List T.den)
 |sb (s:Sb)
instance cty (n:Nat):OfNat (M TypeId) n:=⟨Z n⟩
inductive fm where
 |F (ty:TypeId) (p:Bool) (T:Ty) (xs:List T.den)
 |C (ty:Option TypeId) (l:List TV)
 |qx (p:Bool) (sz n:Nat)
 |mp (K V:Ty) (es:List (K.den×V.den))
 |qk (F:wd) (a:Nat) (x:F.ty.den)
 |qr (F:wd) (a:Nat) (x:F.ty.den) (k:ν) (p:Option (Nat×Bool×Nat))
abbrev iu:=PT TV
abbrev bf:=PT fm
def cst:Value->M TV
 |.int k n=>Z (.f (.int k) n)
 |.bool b=>Z (.f .bool b)
 |.string s=>Z (.f .str s.data.toList)
 |.slice U 0 0=>Z .nil
 |.pointer U=>Z .np
 |.map U=>Z (.sb (.nl J))
 |.nilFunc=>Z (.sb (.nl aa))
 |_=>U
def Nv:ξ->M (Y TV)
 |[]=>Z []
 |v::r=>match cst v,Nv r with|some x,Z l=>Z (x::l)|_,_=>U
def arc:Value->M TV
 |.agg vs=>if NX vs.toList then (match Nv vs.toList with|some l=>Z (.agg l)|none=>U) else U
 |v=>cst v
def cellsOf:Nat->(T:Ty)->T.den->M (Y TV)
 |0,_,_=>U
 |n+1,.st t,v=>cellsOf n t v
 |n+1,.pr a b,v=>match cellsOf n a v.1,cellsOf n b v.2 with|some x,Z y=>Z (x++y)|_,_=>U
 |_+1,.un,_=>Z []
 |n+1,.ex,v=>cellsOf n QL (RE v)
 |n+1,.sm,v=>cellsOf n Qh (RD v)
 |_+1,.int k,v=>Z [.f (.int k) v]
 |_+1,.bool,v=>Z [.f .bool v]
 |_+1,.str,v=>Z [.f .str v]
 |_+1,.sl t,v=>Z [.f (.sl t) v]
def TV.isC:TV->Bool
 |.f T _=>T.one
 |.zw _ _ _ _ _=>J
 |.qn _ _ _ _=>J
 |.H _ _=>J
 |.G _=>J
 |.qf _ _ _=>J
 |.emp=>J
 |.nil=>J
 |.np=>J
 |.mp _=>J
 |.qv _ _=>J
 |.sb _=>J
 |_=>aa
def lC:Y TV->Bool
 |[]=>J
 |x::r=>x.isC&&lC r
def TV.cs (v:TV):M (Y TV):=match v with
 |.agg l=>if lC l then Z l else U
 |.f T x=>cellsOf 40 T x
 |x=>if x.isC then Z [x] else U
def kz (i:Nat):Nat:=1<<<i
def iJ (h:bf) (T:Ty):TV->M (T.den×Nat)
 |.f _ v=>match uY T v with|some x=>Z (x,0)|none=>U
 |.emp|.nil=>(match T with|.sl _=>Z ([],0)|_=>U)
 |.G id=>match h.get id with
  |some (.F _ _ S xs)=>(match uY (S:=.sl S) T xs with|some x=>Z (x,kz id)|none=>U)
  |_=>U
 |_=>U
def fL (h:bf):Nat->(T:Ty)->Y TV->M (T.den×Nat×Y TV)
 |0,_,_=>U
 |n+1,.st t,l=>fL h n t l
 |n+1,.pr a b,l=>match fL h n a l with
  |some (x,m,r)=>(match fL h n b r with|some (y,m',q)=>Z ((x,y),m|||m',q)|none=>U)
  |none=>U
 |_+1,.un,l=>Z ((),0,l)
 |n+1,.ex,l=>match fL h n QL l with|some (x,m,r)=>Z (eJ x,m,r)|none=>U
 |n+1,.sm,l=>match fL h n Qh l with|some (x,m,r)=>Z (oZ x,m,r)|none=>U
 |_+1,.int k,l=>match l with|c::r=>(match iJ h (.int k) c with|some (x,m)=>Z (x,m,r)|none=>U)|[]=>U
 |_+1,.bool,l=>match l with|c::r=>(match iJ h .bool c with|some (x,m)=>Z (x,m,r)|none=>U)|[]=>U
 |_+1,.str,l=>match l with|c::r=>(match iJ h .str c with|some (x,m)=>Z (x,m,r)|none=>U)|[]=>U
 |_+1,.sl t,l=>match l with|c::r=>(match iJ h (.sl t) c with|some (x,m)=>Z (x,m,r)|none=>U)|[]=>U
def E0 (h:bf) (T:Ty) (v:TV):M (T.den×Nat):=match v with
 |.agg l=>if T.one then U else (match fL h 40 T l with|some (x,m,[])=>Z (x,m)|_=>U)
 |x=>iJ h T x
def oy:Nat->(T:Ty)->T.den->Nat->Nat->Bool->M TV
 |0,_,_,_,_,_=>U
 |n+1,.st t,v,off,sz,q=>if aB off 0&&aB sz t.size&&q then Z (.f (.st t) v) else oy n t v off sz q
 |n+1,.pr a b,v,off,sz,q=>if dw off a.size then oy n a v.1 off sz q else oy n b v.2 (off-a.size) sz q
 |_+1,.un,_,_,_,_=>U
 |n+1,.ex,v,off,sz,q=>if aB off 0&&aB sz 4&&q then Z (.f .ex v) else oy n QL (RE v) off sz q
 |n+1,.sm,v,off,sz,q=>if aB off 0&&aB sz 11&&q then Z (.f .sm v) else oy n Qh (RD v) off sz q
 |_+1,.int k,v,off,sz,q=>if aB off 0&&aB sz 1&& !q then Z (.f (.int k) v) else U
 |_+1,.bool,v,off,sz,q=>if aB off 0&&aB sz 1&& !q then Z (.f .bool v) else U
 |_+1,.str,v,off,sz,q=>if aB off 0&&aB sz 1&& !q then Z (.f .str v) else U
 |_+1,.sl t,v,off,sz,q=>if aB off 0&&aB sz 1&& !q then Z (.f (.sl t) v) else U
def ik (h:bf) (x:TV):Nat->(T:Ty)->T.den->Nat->Nat->M (T.den×Nat)
 |0,_,_,_,_=>U
 |n+1,.st t,v,off,sz=>match (if aB off 0&&aB sz t.size then E0 h (.st t) x else U) with
  |some y=>Z y
  |none=>ik h x n t v off sz
 |n+1,.pr a b,v,off,sz=>if dw off a.size then (match ik h x n a v.1 off sz with|some (y,m)=>Z ((y,v.2),m)|none=>U) else (match ik h x n b v.2 (off-a.size) sz with|some (y,m)=>Z ((v.1,y),m)|none=>U)
 |_+1,.un,_,_,_=>U
 |n+1,.ex,v,off,sz=>match (if aB off 0&&aB sz 4 then E0 h .ex x else U) with
  |some y=>Z y
  |none=>(match ik h x n QL (RE v) off sz with|some (y,m)=>Z (eJ y,m)|none=>U)
 |n+1,.sm,v,off,sz=>match (if aB off 0&&aB sz 11 then E0 h .sm x else U) with
  |some y=>Z y
  |none=>(match ik h x n Qh (RD v) off sz with|some (y,m)=>Z (oZ y,m)|none=>U)
 |_+1,.int k,_,off,sz=>if aB off 0&&aB sz 1 then iJ h (.int k) x else U
 |_+1,.bool,_,off,sz=>if aB off 0&&aB sz 1 then iJ h .bool x else U
 |_+1,.str,_,off,sz=>if aB off 0&&aB sz 1 then iJ h .str x else U
 |_+1,.sl t,_,off,sz=>if aB off 0&&aB sz 1 then iJ h (.sl t) x else U
def Dz (h:bf) (T:Ty):Nat->Y TV->M (Y T.den×Nat)
 |0,[]=>Z ([],0)
 |0,_::_=>U
 |n+1,l=>match fL h 40 T l with
  |some (x,m,r)=>(match Dz h T n r with|some (xs,m')=>Z (x::xs,m|||m')|none=>U)
  |none=>U
def uM:Ty->ξ
 |.int k=>[.int k 0]
 |.bool=>[.bool aa]
 |.str=>[.string ⟨#[]⟩]
 |.sl _=>[.slice U 0 0]
 |.st t=>uM t
 |.pr a b=>uM a++uM b
 |.un=>[]
 |.ex=>[.int .i64 0,.int .i64 0,.string ⟨#[]⟩,.slice U 0 0]
 |.sm=>[.int .i64 0,.int .i64 0,.string ⟨#[]⟩,.string ⟨#[]⟩,.slice U 0 0,.int .i64 0,.int .i64 0,.string ⟨#[]⟩,.slice U 0 0,.slice U 0 0,.slice U 0 0]
def Rl:ξ->ξ->Bool
 |[],[]=>J
 |x::xs,y::q=>arj x y&&Rl xs q
 |_,_=>aa
def Ty.flat:Ty->Bool
 |.int _=>J
 |.bool=>J
 |.str=>J
 |.st t=>t.flat
 |.pr a b=>a.flat&&b.flat
 |.un=>J
 |_=>aa
def sM:Y TypeDesc->M Ty
 |[]=>Z .un
 |.int k::r=>match sM r with|some t=>Z (.pr (.int k) t)|none=>U
 |.bool::r=>match sM r with|some t=>Z (.pr .bool t)|none=>U
 |.string::r=>match sM r with|some t=>Z (.pr .str t)|none=>U
 |_=>U
inductive PV where
 |d (T:Ty)
 |H (id off:Nat)
 |G (id:Nat)
 |qf (id sz n:Nat)
 |mp (id:Nat)
 |nil
 |emp
 |qv (q:FuncId) (l:List (Nat×Nat))
 |nr (id sz:Nat)
 |agg (l:List PV)
inductive PB where
 |F (ty:TypeId) (p:Bool) (T:Ty)
 |qy (ty:TypeId) (T:Ty)
 |C (ty:Option TypeId) (l:List PV)
 |mp (K V:Ty)
 |qk (F:wd) (a:Nat)
 |qg
mutual
def PV.ty:PV->Ty
 |.d T=>T
 |.agg l=>PV.tyL l
 |.H _ _|.G _|.qf _ _ _|.qv _ _=>.un
 |.nr _ _=>.pr (.int .i64) (.int .i64)
 |.mp _|.nil|.emp=>.un
def PV.tyL:Y PV->Ty
 |[]=>.un
 |p::r=>spr p.ty (PV.tyL r)
end
def PB.ty:PB->Ty
 |.F _ _ T=>.sl T
 |.qy _ T=>.pr .bool (.sl T)
 |.C _ l=>PV.tyL l
 |.mp K V=>.sl (.pr K V)
 |.qk a _=>a.ty
 |.qg=>.un
def PB.tyL:Y PB->Ty
 |[]=>.un
 |p::r=>spr p.ty (PB.tyL r)
structure Tm where
 vs:List PV
 bs:List PB
def Tm.ty (t:Tm):Ty:=spr (PV.tyL t.vs) (PB.tyL t.bs)
def LM (g:Nat->Nat):Y j?->Y TV->Bool
 |[],[]=>J
 |(i,o)::r,.H A q::vs=>aB (g i) A&&aB o q&&LM g r vs
 |_,_=>aa
mutual
def ox (g:Nat->Nat) (h:bf):(p:PV)->Y TV->M (p.ty.den×Nat×Y TV)
 |.d T,l=>fL h 40 T l
 |.H i o,l=>match l with|.H i' o'::r=>if aB (g i) i'&&aB o o' then Z ((),0,r) else U|_=>U
 |.G i,l=>match l with|.G i'::r=>if aB (g i) i' then Z ((),0,r) else U|_=>U
 |.qf i s n,l=>match l with|.qf i' s' n'::r=>if aB (g i) i'&&aB s s'&&aB n n' then Z ((),0,r) else U|_=>U
 |.qv q ps,l=>match l with|.qv q' vs::r=>if aB q q'&&LM g ps vs then Z ((),0,r) else U|_=>U
 |.nr i s,l=>match l with|.sb (.nr i' j s' n)::r=>if aB (g i) i'&&aB s s' then Z ((j,aY n),0,r) else U|_=>U
 |.mp i,l=>match l with|.mp i'::r=>if aB (g i) i' then Z ((),0,r) else U|_=>U
 |.nil,l=>match l with|.nil::r=>Z ((),0,r)|_=>U
 |.emp,l=>match l with|.nil::r=>Z ((),0,r)|.emp::r=>Z ((),0,r)|_=>U
 |.agg ps,l=>BT g h ps l
def BT (g:Nat->Nat) (h:bf):(ps:Y PV)->Y TV->M ((PV.tyL ps).den×Nat×Y TV)
 |[],l=>Z ((),0,l)
 |p::r,l=>match ox g h p l with
  |some (x,m,l')=>(match BT g h r l' with|some (y,m',l'')=>Z (mkp p.ty (PV.tyL r) x y,m|||m',l'')|none=>U)
  |none=>U
end
def xB (g:Nat->Nat) (h:bf):(p:PV)->TV->M (p.ty.den×Nat)
 |.d T,v=>E0 h T v
 |.agg A,v=>if v.isC then U else (match v.cs with
  |some l=>(match BT g h A l with|some (x,m,[])=>Z (x,m)|_=>U)
  |none=>U)
 |.H i o,v=>match ox g h (.H i o) [v] with|some (x,m,_)=>Z (x,m)|none=>U
 |.G i,v=>match ox g h (.G i) [v] with|some (x,m,_)=>Z (x,m)|none=>U
 |.qf i s n,v=>match ox g h (.qf i s n) [v] with|some (x,m,_)=>Z (x,m)|none=>U
 |.qv q A,v=>match ox g h (.qv q A) [v] with|some (x,m,_)=>Z (x,m)|none=>U
 |.nr i s,v=>match ox g h (.nr i s) [v] with|some (x,m,_)=>Z (x,m)|none=>U
 |.mp i,v=>match ox g h (.mp i) [v] with|some (x,m,_)=>Z (x,m)|none=>U
 |.nil,v=>match ox g h .nil [v] with|some (x,m,_)=>Z (x,m)|none=>U
 |.emp,v=>match ox g h .emp [v] with|some (x,m,_)=>Z (x,m)|none=>U
def BS (g:Nat->Nat) (h:bf):(q:Y PV)->Y TV->M ((PV.tyL q).den×Nat)
 |[],[]=>Z ((),0)
 |p::r,v::vs=>match xB g h p v with
  |some (x,m)=>(match BS g h r vs with|some (y,m')=>Z (mkp p.ty (PV.tyL r) x y,m|||m')|none=>U)
  |none=>U
 |[],_::_=>U
 |_::_,[]=>U
def Et (g:Nat->Nat) (h:bf) (i:Nat):(b:PB)->M (b.ty.den×Nat)
 |.F ty p T=>match h.get (g i) with
  |some (.F ty' q S xs)=>if ty==ty'&&p==q then (match uY (S:=.sl S) (.sl T) xs with|some x=>Z (x,0)|none=>U) else U
  |_=>U
 |.qy ty T=>match h.get (g i) with
  |some (.F ty' q S xs)=>if ty==ty' then (match uY (S:=.sl S) (.sl T) xs with|some x=>Z ((q,x),0)|none=>U) else U
  |_=>U
 |.C ty A=>match h.get (g i) with
  |some (.C ty' l)=>if ty==ty' then (match BT g h A l with|some (x,m,[])=>Z (x,m)|_=>U) else U
  |_=>U
 |.mp K V=>match h.get (g i) with
  |some (.mp K' V' I)=>(match uY (S:=.sl (.pr K' V')) (.sl (.pr K V)) I with|some x=>Z (x,0)|none=>U)
  |_=>U
 |.qk F a=>match h.get (g i) with
  |some (.qk F' N x)=>if D:F'=F then (if aB (F.aid (g a)) N then Z (D▸x,0) else U) else U
  |_=>U
 |.qg=>Z ((),0)
def Ge (g:Nat->Nat) (h:bf):Nat->(bs:Y PB)->M ((PB.tyL bs).den×Nat)
 |_,[]=>Z ((),0)
 |i,b::r=>match Et g h i b with
  |some (x,m)=>(match Ge g h (i+1) r with|some (y,m')=>Z (mkp b.ty (PB.tyL r) x y,m|||m')|none=>U)
  |none=>U
mutual
def oL (g:Nat->Nat):(p:PV)->p.ty.den->M (Y TV)
 |.d T,x=>cellsOf 40 T x
 |.H i o,_=>Z [.H (g i) o]
 |.G i,_=>Z [.G (g i)]
 |.qf i s n,_=>Z [.qf (g i) s n]
 |.mp i,_=>Z [.mp (g i)]
 |.qv q ps,_=>Z [.qv q (ps.map λp=>.H (g p.1) p.2)]
 |.nr i s,x=>Z [.sb (.nr (g i) x.1 s (aN x.2))]
 |.nil,_=>Z [.nil]
 |.emp,_=>Z [.emp]
 |.agg ps,x=>sH g ps x
def sH (g:Nat->Nat):(ps:Y PV)->(PV.tyL ps).den->M (Y TV)
 |[],_=>Z []
 |p::r,x=>match oL g p (S7 p.ty (PV.tyL r) x) with
  |some a=>(match sH g r (RM p.ty (PV.tyL r) x) with|some b=>Z (a++b)|none=>U)
  |none=>U
end
def sQ (g:Nat->Nat):(p:PV)->p.ty.den->M TV
 |.d T,x=>Z (.f T x)
 |.H i o,_=>Z (.H (g i) o)
 |.G i,_=>Z (.G (g i))
 |.qf i s n,_=>Z (.qf (g i) s n)
 |.mp i,_=>Z (.mp (g i))
 |.qv q A,_=>Z (.qv q (A.map λp=>.H (g p.1) p.2))
 |.nr i s,x=>Z (.sb (.nr (g i) x.1 s (aN x.2)))
 |.nil,_=>Z .nil
 |.emp,_=>Z .emp
 |.agg A,x=>match sH g A x with|some l=>Z (.agg l)|none=>U
def pH (g:Nat->Nat):(q:Y PV)->(PV.tyL q).den->M (Y TV)
 |[],_=>Z []
 |p::r,x=>match sQ g p (S7 p.ty (PV.tyL r) x) with
  |some a=>(match pH g r (RM p.ty (PV.tyL r) x) with|some b=>Z (a::b)|none=>U)
  |none=>U
def C6 (g:Nat->Nat):(b:PB)->b.ty.den->M (M fm)
 |.F ty p T,x=>Z (Z (.F ty p T x))
 |.qy ty T,x=>Z (Z (.F ty x.1 T x.2))
 |.C ty q,x=>match sH g q x with|some l=>Z (Z (.C ty l))|none=>U
 |.mp K V,x=>Z (Z (.mp K V x))
 |.qk F a,x=>Z (Z (.qk F (F.aid (g a)) x))
 |.qg,_=>Z U
def uO:fm->fm
 |.F _ p T xs=>.qx p T.size (l! xs)
 |.C _ _|.mp _ _ _=>.qx J 0 0
 |.qk F _ x|.qr F _ x _ _=>(match Aa F x with|some (p,s,n)=>.qx p s n|none=>.qx J 0 0)
 |.qx p sz n=>.qx p sz n
def kill (h:bf) (i:Nat):bf:=match h.get i with
 |some b=>h.set i (Z (uO b))
 |none=>h
def qY (g:Nat->Nat):(bs:Y PB)->(PB.tyL bs).den->M (Y (M fm))
 |[],_=>Z []
 |b::r,x=>match C6 g b (S7 b.ty (PB.tyL r) x) with
  |some c=>(match qY g r (RM b.ty (PB.tyL r) x) with|some l=>Z (c::l)|none=>U)
  |none=>U
def Da (g:Nat->Nat):Nat->Y (M fm)->bf->bf
 |_,[],h=>h
 |i,Z c::r,h=>Da g (i+1) r (h.set (g i) (Z c))
 |i,U::r,h=>Da g (i+1) r (kill h (g i))
def Qo (g:Nat->Nat) (bs:Y PB) (x:(PB.tyL bs).den) (h:bf):M bf:=match qY g bs x with
 |some l=>Z (Da g 0 l h)
 |none=>U
def wP {K V:Ty} (k:K.den):Y (K.den×V.den)->M V.den
 |[]=>U
 |(q,v)::r=>if OG K k q then Z v else wP k r
def Kf {K V:Ty} (k:K.den) (v:V.den):Y (K.den×V.den)->Y (K.den×V.den)
 |[]=>[(k,v)]
 |(q,A)::r=>if OG K k q then (k,v)::r else (q,A)::Kf k v r
variable {T:Ty}
def aqn {V:Ty} (k:T.den) (q:Y (T.den×V.den)):Bool:=match wP k q with|some _=>J|none=>aa
def FD {K V:Ty} (k:K.den) (q:Y (K.den×V.den)) (z:V.den):V.den:=match wP k q with|some v=>v|none=>z
def aub (T:Ty):Nat->Ty
 |0=>.un
 |1=>T
 |n+2=>.pr T (aub T (n+1))
def kwT:Ty:=.st (aub .str 22)
def kwV:kwT.den:=([118,97,114],[118,111,108,97,116,105,108,101],[109,117,116,101,120],[114,119,108,111,99,107],[99,111,110,100],[102,117,116,117,114,101],[116,104,114,101,97,100],[105,102],[101,108,115,101],[119,104,105,108,101],[108,111,99,107],[114,101,97,100],[119,114,105,116,101],[116,114,97,110,115,97,99,116,105,111,110],[97,116,111,109,105,99],[119,97,105,116],[110,111,116,105,102,121],[110,111,116,105,102,121,97,108,108],[115,112,97,119,110],[106,111,105,110],[115,101,116],[103,101,116])
structure cr where
 pre:Tm
 post:Tm
 m:pre.ty.den->Option post.ty.den
def Zw:Y j?->Y TV->PT Nat->PT Nat
 |(i,_)::r,.H a _::vs,σ=>Zw r vs (σ.set i (Z a))
 |_::r,_::vs,σ=>Zw r vs σ
 |_,_,σ=>σ
mutual
def ap8:PV->Y TV->PT Nat->PT Nat×Y TV
 |.d T,l,σ=>(σ,l.drop T.size)
 |.H i _,l,σ=>match l with|.H a _::r=>(σ.set i (Z a),r)|l=>(σ,l.drop 1)
 |.G i,l,σ=>match l with|.G a::r=>(σ.set i (Z a),r)|l=>(σ,l.drop 1)
 |.qf i _ _,l,σ=>match l with|.qf a _ _::r=>(σ.set i (Z a),r)|l=>(σ,l.drop 1)
 |.mp i,l,σ=>match l with|.mp a::r=>(σ.set i (Z a),r)|l=>(σ,l.drop 1)
 |.qv _ ps,l,σ=>match l with|.qv _ vs::r=>(Zw ps vs σ,r)|l=>(σ,l.drop 1)
 |.nr i _,l,σ=>match l with|.sb (.nr a _ _ _)::r=>(σ.set i (Z a),r)|l=>(σ,l.drop 1)
 |.nil,l,σ|.emp,l,σ=>(σ,l.drop 1)
 |.agg ps,l,σ=>Zx ps l σ
def Zx:Y PV->Y TV->PT Nat->PT Nat×Y TV
 |[],l,σ=>(σ,l)
 |p::r,l,σ=>match ap8 p l σ with|(σ',l')=>Zx r l' σ'
end
def av0 (p:PV) (v:TV) (σ:PT Nat):PT Nat:=match p with
 |.d _=>σ
 |p=>match v.cs with|some l=>(ap8 p l σ).1|none=>σ
def aj1:Y PV->Y TV->PT Nat->PT Nat
 |p::r,v::vs,σ=>aj1 r vs (av0 p v σ)
 |_,_,σ=>σ
def Zy (h:bf):Nat->Y PB->PT Nat->PT Nat
 |_,[],σ=>σ
 |i,b::r,σ=>Zy h (i+1) r (match b with
  |.C _ q=>(match σ.get i with
   |some a=>(match h.get a with|some (.C _ l)=>(Zx q l σ).1|_=>σ)
   |none=>σ)
  |.qk F j=>(match σ.get i with
   |some a=>(match h.get a with|some (.qk _ b _)=>(if aB (F.aid 1) 0 then σ else σ.set j (Z b))|_=>σ)
   |none=>σ)
  |_=>σ)
def iF (σ:PT Nat) (i:Nat):Nat:=match σ.get i with|some a=>a|none=>0
def afs (σ:PT Nat):Nat->Nat->Nat->M Nat
 |0,_,acc=>Z acc
 |n+1,i,acc=>match σ.get i with
  |some a=>if aC acc a then U else afs σ n (i+1) (acc|||kz a)
  |none=>U
def idn:Nat->PT Nat
 |0=>.leaf
 |n+1=>(idn n).set n (Z n)
def ab3 (σ:PT Nat):Nat->Bool
 |0=>J
 |n+1=>(match σ.get n with|some a=>aB a n|none=>aa)&&ab3 σ n
structure avu (t:Tm) where
 x:t.ty.den
 m:Nat
 σ:PT Nat
 sm:Nat
def Ej (np:Nat) (t:Tm) (vs:Y TV) (h:bf):M (avu t):=
 Ph (Zy h 0 t.bs (Zy h 0 t.bs (aj1 t.vs vs (idn np)))) λσ=>
 match afs σ (l! t.bs) 0 0 with
 |some sm=>(match BS (iF σ) h t.vs vs with
  |some (x,m)=>(match Ge (iF σ) h 0 t.bs with
   |some (y,m')=>if Cg (m|||m') sm&&ab3 σ np then Z ⟨mkp _ _ x y,m|||m',σ,sm⟩ else U
   |none=>U)
  |none=>U)
 |none=>U
def PT.updI (f:Nat->R->R):Nat->Nat->PT R->PT R
 |_,_,.leaf=>.leaf
 |a,b,.node v l r=>.node (match v with|some x=>Z (f b x)|none=>U) (PT.updI f (2*a) (a+b) l) (PT.updI f (2*a) (2*a+b) r)
def dZ (m:Nat) (h:bf):bf:=if aB m 0 then h else PT.updI (λi b=>if aC m i then uO b else b) 1 0 h
def Yp:Operand->Bool
 |.const (.agg _)=>J
 |_=>aa
def eA (e:iu):Operand->M TV
 |.tmp t=>e.get t
 |.const v=>arc v
 |.func g=>Z (.qv g [])
 |.global g=>match G g with|some _=>Z (.zw kwT [kwV] 0 (Eq.refl J) 0)|none=>U
def LR (e:iu):Y Operand->M (Y TV)
 |[]=>Z []
 |x::xs=>match eA e x with|some y=>(match LR e xs with|some q=>Z (y::q)|none=>U)|none=>U
def MV (cells:Y TV) (e:iu):Y J!->M (Y TV)
 |[]=>Z cells
 |(off,sz,x)::r=>match eA e x with
  |some v=>(match v.cs with
   |some cs=>if (l! cs)==sz&&dx (off+sz) (l! cells) then MV (splice cells off cs) e r else U
   |none=>U)
  |none=>U
def XY (l:Y TV) (off sz:Nat):Bool->M TV
 |false=>if aB sz 1 then l[off]? else U
 |true=>if dx (off+sz) (l! l) then Z (.agg ((l.drop off).take sz)) else U
def eK (h:bf) (id:Nat):M (Bool×j?):=match h.get id with
 |some (.F _ p T xs)=>Z (p,T.size,l! xs)
 |some (.qx p sz n)=>Z (p,sz,n)
 |some (.qk F _ x)|some (.qr F _ x _ _)=>Aa F x
 |_=>U
def aag (h:bf):TV->M Nat
 |.f (.sl _) xs=>Z (ah xs)
 |.emp|.nil=>Z 0
 |.G id=>match eK h id with|some (_,_,n)=>Z n|none=>U
 |.qf _ _ n|.sb (.nr _ _ _ n)=>Z n
 |_=>U
mutual
def Qr (h:bf):TV->Bool
 |.G id|.zg id _=>(eK h id).isSome
 |.qc _ _=>J
 |.sb _=>J
 |.agg l|.qp l|.qv _ l=>lI h l
 |.f _ _=>J
 |.zw _ _ _ _ _=>J
 |.qn _ _ _ _=>J
 |.H _ _=>J
 |.qf _ _ _=>J
 |.emp=>J
 |.nil=>J
 |.mp _=>J
 |.undef=>J
 |.np=>J
 |.qj=>J
def lI (h:bf):Y TV->Bool
 |[]=>J
 |x::r=>Qr h x&&lI h r
end
mutual
def Lg (n:Nat):TV->Bool
 |.G id|.zg id _=>dw id n
 |.qc _ _=>J
 |.sb s=>dw s.id n
 |.qn id _ _ _|.H id _|.qf id _ _|.mp id=>dw id n
 |.agg l|.qp l|.qv _ l=>rN n l
 |.f _ _=>J
 |.zw _ _ _ _ _=>J
 |.emp=>J
 |.nil=>J
 |.undef=>J
 |.np=>J
 |.qj=>J
def rN (n:Nat):Y TV->Bool
 |[]=>J
 |x::r=>Lg n x&&rN n r
end
def DB (t:Tm) (x:t.ty.den):M (Y TV×bf):=
 match pH (λi=>i) t.vs (S7 _ _ x) with
 |some vs=>(match Qo (λi=>i) t.bs (RM _ _ x) PT.leaf with
  |some h=>if lI h vs&&rN (l! t.bs) vs&&PT.all (λ_ b=>match b with|.C _ l=>lI h l&&rN (l! t.bs) l|.qk _ a _=>dw a (l! t.bs)|.qr _ _ _ _ _=>aa|_=>J) 1 0 h then Z (vs,h) else U
  |none=>U)
 |none=>U
abbrev KO (R:Type):=TV->Nat->Nat->bf->Nat->M R
def UD:Y TV->TV
 |[x]=>x
 |l=>.qp l
def Ee:Y PB->Bool
 |[]=>J
 |.qg::_=>aa
 |_::r=>Ee r
def Lq:Y PB->Bool
 |[]=>J
 |.F _ _ _::r=>Lq r
 |_::_=>aa
def vA (h h2:bf) (g:Nat->Nat):Nat->Bool
 |0=>J
 |n+1=>(match eK h (g n) with
  |some (p,s,k)=>(match eK h2 (g n) with|some (q,s',A)=>(p==q)&&aB s s'&&aB k A|none=>aa)
  |none=>J)&&vA h h2 g n
def aku (f:FuncId):Y TV->FuncId
 |[]=>f
 |.qv g _::_=>f+65536*(g+1)
 |.sb (.nr _ _ _ _)::r=>f+65536*(60000+l! r)
 |[.nil]=>f+65536*61000
 |_::r=>aku f r
def are (con:FuncId->M cr) (f:FuncId) (l:Y TV):M cr:=match dw f 65536 with
 |true=>(match con (aku f l) with|some c=>Z c|none=>con f)
 |false=>U
def abn (con:FuncId->M cr) (f:FuncId) (l:Y TV) (h:bf) (nx:Nat) (K:KO R):M R:=
 match are con f l with
 |some c=>(match Ej 0 c.pre l h with
  |some ⟨x,m,σ,sm⟩=>(match DB c.pre x with
   |some _=>av (c.m x) λy=>(match DB c.post y with
    |some _=>if dx (l! c.pre.bs) (l! c.post.bs)&&Ee c.pre.bs then
      let np:=l! c.pre.bs
      let A:=l! c.post.bs-np
      let g:=λi=>if dw i np then iF σ i else nx+(i-np)
      (match pH g c.post.vs (S7 _ _ y) with
      |some q=>if !(aB m 0)&&aB (l! c.post.bs) 0&&(PV.tyL c.post.vs).flat then K (UD q) m 0 h nx else
       (match Qo g c.post.bs (RM _ _ y) (dZ m h) with
       |some h2=>chk (vA h h2 g np) λ_=>K (UD q) (sm|||m) (sm|||m|||(((1<<<A)-1)<<<nx)) h2 (nx+A)
       |none=>U)
      |none=>U) else if aB (l! c.post.bs) 0&&Lq c.pre.bs then
      let np:=l! c.pre.bs
      let g:=λi=>if dw i np then iF σ i else nx+(i-np)
      (match pH g c.post.vs (S7 _ _ y) with
      |some q=>(match Qo g c.pre.bs (RM _ _ x) (dZ m h) with
       |some h2=>K (UD q) (sm|||m) m h2 nx
       |none=>U)
      |none=>U) else U
    |none=>U)
   |none=>U)
  |none=>U)
 |none=>U
def ari (op:BinOp) (x y:TV) (q:TV->M R):M R:=
 match x,y with
 |.f (.int k) a,.f (.int A) b=>if k==A then
   (match op with
   |.add=>q (.f (.int k) (aT k (a+b)))
   |.sub=>q (.f (.int k) (aT k (a-b)))
   |.mul=>q (.f (.int k) (aT k (a*b)))
   |.rem=>chk (!decide ((b:Int)=0)) λ_=>q (.f (.int k) (cC a b))
   |.quo=>chk (!decide ((b:Int)=0)) λ_=>q (.f (.int k) (aT k (wn a b)))
   |.eql=>q (.f .bool (decide ((a:Int)=b)))
   |.neq=>q (.f .bool (!decide ((a:Int)=b)))
   |.lss=>q (.f .bool (gM a b))
   |.leq=>q (.f .bool (c8 a b))
   |.gtr=>q (.f .bool (gM b a))
   |.geq=>q (.f .bool (c8 b a))
   |.and=>q (.f (.int k) (alw k a b))
   |_=>U)
  else U
 |.f .str a,.f .str b=>match op with
   |.eql=>q (.f .bool (decide ((a:ζ)=b)))
   |.neq=>q (.f .bool (!decide ((a:ζ)=b)))
   |_=>U
 |_,_=>U
def acp:Bool->Ty->Bool
 |false,.int _=>J
 |true,.str=>J
 |_,_=>aa
abbrev itK:Ty:=.st (.pr .str (.int .i64))
def isIt:Ty->Bool
 |.st (.pr .str (.int .i64))=>J
 |_=>aa
def aco (K:Ty):Bool:= !isIt K
def OE:Y ((ζ×Int)×Unit)->ζ
 |[]=>[]
 |e::_=>e.1.1
def Mh:Y ((ζ×Int)×Unit)->Nat
 |[]=>0
 |e::_=>aN e.1.2
def rnP (s:ζ) (p:Nat):Int:=rnA (List.getD s p 0) ⟨jV s⟩ p
def wdP (s:ζ) (p:Nat):Nat:=wdA (List.getD s p 0) ⟨jV s⟩ p
def itE:(K V:Ty)->Y (K.den×V.den)->M (ζ×Nat)
 |.st (.pr .str (.int .i64)),.un,q=>Z (OE q,Mh q)
 |_,_,_=>U
def mpE:(K V:Ty)->Y (K.den×V.den)->Bool
 |.un,.un,[]=>J
 |_,_,_=>aa
def yJ (T:Ty):Y TV->M (Y T.den)
 |[]=>Z []
 |.f S v::r=>match uY (S:=S) T v with
  |some x=>(match yJ T r with|some l=>Z (x::l)|none=>U)
  |none=>U
 |_::_=>U
def aj4:Y TV->M ((T:Ty)×Y T.den)
 |.f T v::r=>match yJ T (.f T v::r) with|some l=>Z ⟨T,l⟩|none=>U
 |_=>U
def aup (n sz:Nat) (v:TV):Bool->M ((T:Ty)×Y T.den)
 |true=>U
 |false=>if aB sz 1&& !v.isC then (match v.cs with|some l=>if aB (l! l) n then aj4 l else U|none=>U) else U
def arrB (n sz off:Nat):M fm->M ((T:Ty)×Y T.den)
 |some (.C (Z _) l)=>if aB sz 1&&aB off 0&&aB (l! l) n then aj4 l else U
 |_=>U
def ap3:Ty->Nat
 |.pr .un t=>ap3 t+1
 |_=>0
def GY:M Ty->M Nat
 |some (.pr .un t)=>Z (ap3 t)
 |_=>U
def ap6 (ty:TypeId) (sz bytes:Nat) (b y:TV) (h:bf) (nx:Nat) (K:KO R):M R:=match y with
 |.qf id2 sz2 m=>(match h.get id2 with
  |some (.C (Z _) q)=>if aB sz2 sz&&aB (l! q) (m*sz)&& !(aB m 0) then (match b with
   |.qf id sz1 n=>(match h.get id with
    |some (.C (Z ty1) l)=>if aB sz1 sz&&ty1==ty&&aB (l! l) (n*sz)&& !(aB id id2) then
      chk (bh (n+m) bytes) λ_=>K (.qf nx sz (n+m)) (kz id|||kz id2) (kz id|||kz nx) ((h.set id (Z (.qx J 0 0))).set nx (Z (.C (Z ty) (l++q)))) (nx+1) else U
    |_=>U)
   |.nil=>chk (bh m bytes) λ_=>K (.qf nx sz m) (kz id2) (0|||kz nx) ((dZ 0 h).set nx (Z (.C (Z ty) q))) (nx+1)
   |_=>U) else U
  |_=>U)
 |_=>U
def anb (ty:TypeId) (sz bytes:Nat) (T:Ty) (b:TV) (q:Y T.den) (m:Nat) (h:bf) (nx:Nat) (K:KO R):M R:=match b with
 |.G id=>(match h.get id with
  |some (.F ty' p S xs)=>(match uY (S:=.sl S) (.sl T) xs with
   |some xs=>if ty'==ty&& !(aC m id) then
     chk (bh (ah xs+ah q) bytes) λ_=>K (.G nx) (kz id|||m) (kz id|||kz nx) ((h.set id (Z (.qx p sz (ah xs)))).set nx (Z (.F ty p T (xs++q)))) (nx+1)
    else U
   |none=>U)
  |_=>U)
 |.qc S xs=>(match uY (S:=.sl S) (.sl T) xs with
  |some xs=>chk (bh (ah xs+ah q) bytes) λ_=>aJ (aB (ah q) 0) (K (.f (.sl T) xs) m 0 h nx) (K (.G nx) m (0|||kz nx) ((dZ 0 h).set nx (Z (.F ty aa T (xs++q)))) (nx+1))
  |none=>U)
 |.emp|.nil=>chk (bh (ah q) bytes) λ_=>K (.G nx) m (kz nx) (h.set nx (Z (.F ty J T q))) (nx+1)
 |_=>U
def pkT (ok:Bool) (v b:TV):TV:=match ok with|true=>.qp [v,b]|false=>v
def rwB (sz off:Nat):M fm->Bool
 |some (.F _ _ T _)=>aB sz T.size&&aB off 0
 |_=>aa
def nP (l:η):ζ:=l.map λn=>AW n.toNat
def aqa (h:bf) (T:Ty):TV->M (Int×Y T.den×Nat)
 |.zg id j=>(match h.get id with
  |some (.F _ _ S xs)=>(match uY (S:=.sl S) (.sl T) xs with|some xs=>Z (j,xs,id)|none=>U)
  |_=>U)
 |_=>U
def eH (con:FuncId->M cr) (cf:TypeId->M Ty) (o:SI) (e:iu) (h:bf) (nx:Nat) (K:KO R):M R:=
 match o with
 |.call f args=>match LR e args with|some l=>abn con f l h nx K|none=>U
 |.jm x args=>match eA e x,LR e args with
  |some (.qv f cap),Z l=>abn con f (l++cap) h nx K
  |_,_=>U
 |.op s=>match s with
  |.zk ty sz bytes z l c=>match GY (cf ty) with
   |some n=>(match Nv z,eA e l,eA e c with
    |some I,Z (.f (.int _) a),Z (.f (.int _) b)=>chk (c8 0 a&&c8 a b&&bh (aN b) bytes&&decide ((a:Int)=aY n)) λ_=>K (.qf nx sz n) 0 (0|||kz nx) ((dZ 0 h).set nx (Z (.C (Z ty) (aD n I).flatten))) (nx+1)
    |_,_,_=>U)
   |none=>match cf ty,eA e l,eA e c with
   |some T,Z (.f (.int _) a),Z (.f (.int _) b)=>if aB sz T.size&&Rl z (uM T) then
     chk (c8 0 a&&c8 a b&&bh (aN b) bytes) λ_=>K (.G nx) 0 (kz nx) (h.set nx (Z (.F ty aa T (aD (aN a) T.zero)))) (nx+1) else U
   |_,_,_=>U
  |.jt ty sz len z parts=>match GY (cf ty) with
   |some _=>(match Nv z with
    |some I=>(match MV ((aD len I).flatten) e parts with
     |some cs=>if aB len 0 then U else K (.qf nx sz len) 0 (0|||kz nx) ((dZ 0 h).set nx (Z (.C (Z ty) cs))) (nx+1)
     |none=>U)
    |none=>U)
   |none=>match cf ty,Nv z with
   |some T,Z I=>if aB sz T.size then (match MV ((aD len I).flatten) e parts with
    |some cs=>(match Dz h T len cs with
     |some (xs,m)=>K (.G nx) m (m|||kz nx) ((dZ m h).set nx (Z (.F ty (aB len 0) T xs))) (nx+1)
     |none=>U)
    |none=>U) else U
   |_,_=>U
  |.app ty sz bytes s x=>match GY (cf ty) with
   |some _=>(match eA e s,eA e x with
    |some b,Z y=>ap6 ty sz bytes b y h nx K
    |_,_=>U)
   |none=>match cf ty,eA e s,eA e x with
   |some T,Z b,Z y=>if aB sz T.size then (match aqa h T y with
    |some (j,xs,id)=>chk (c8 0 j&&gM j (ah xs)) λ_=>anb ty sz bytes T b (ig (aN j) xs) (kz id) h nx K
    |none=>(match E0 h (.sl T) y with
     |some (ys,m)=>anb ty sz bytes T b ys m h nx K
     |none=>U)) else U
   |_,_,_=>U
  |.clr sz z x=>match eA e x with
   |some (.zg id j)=>(match h.get id with
    |some (.F ty p T xs)=>if (aB sz T.size&&Rl z (uM T))&&nO z then
      chk (c8 0 j&&gM j (ah xs)) λ_=>K (.qp []) (kz id) (0|||kz id) ((dZ 0 h).set id (Z (.F ty p T (cu (aN j) xs++aD (ah xs-aN j) T.zero)))) nx
     else U
    |_=>U)
   |_=>U
  |.mv x=>match eA e x with|some v=>K v 0 0 h nx|none=>U
  |.pick c a b=>match eA e c with
   |some (.f .bool t)=>aJ t (match eA e a with|some v=>K v 0 0 h nx|none=>U) (match eA e b with|some v=>K v 0 0 h nx|none=>U)
   |_=>U
  |.alloc ty z=>if dw 24 (ah z)&&Rl z (aD (ah z) (.int .u8 0)) then
    K (.H nx 0) 0 (0|||kz nx) ((dZ 0 h).set nx (Z (.F ty aa (.int .u8) (aD (ah z) (0:Int))))) (nx+1)
   else match Nv z with
   |some l=>K (.H nx 0) 0 (kz nx) (h.set nx (Z (.C (Z ty) l))) (nx+1)
   |none=>U
  |.box ty x=>match eA e x with
   |some v=>(match v.cs with|some l=>K (.H nx 0) 0 (kz nx) (h.set nx (Z (.C (Z ty) l))) (nx+1)|none=>U)
   |none=>U
  |.build z parts=>match Nv z with
   |some l=>(match MV l e parts with|some cs=>K (.agg cs) 0 0 h nx|none=>U)
   |none=>U
  |.load sz q x=>match eA e x with
   |some (.H id off)=>(match h.get id with
    |some (.C (Z _) l)=>(match XY l off sz q with|some v=>K v (kz id) 0 h nx|none=>U)
    |_=>U)
   |some (.qn id sz' j off)=>(match h.get id with
    |some (.F _ _ T xs)=>if aB sz' T.size then chk (ij j (l! xs)) λ_=>(match oy 40 T (aw _ xs j) off sz q with|some v=>K v (kz id) 0 h nx|none=>U) else U
    |some (.C (Z _) l)=>(match q with
     |true=>U
     |false=>if aB sz 1&&aB sz' 1&&aB off 0 then (match aj4 l with
      |some ⟨T,xs⟩=>chk (ij j (l! l)) λ_=>K (.f T (aw _ xs j)) (kz id) 0 h nx
      |none=>U) else U)
    |_=>U)
   |some (.zw T xs j _ off)=>(match oy 40 T (aw _ xs j) off sz q with|some v=>K v 0 0 h nx|none=>U)
   |_=>U
  |.store sz x v=>match eA e x,eA e v with
   |some (.H id off),Z y=>(match h.get id with
    |some (.C (Z ty) l)=>(match y.cs with
     |some cs=>if (l! cs)==sz&&dx (off+sz) (l! l) then K .undef (kz id) (kz id) (h.set id (Z (.C (Z ty) (splice l off cs)))) nx else U
     |none=>U)
    |_=>U)
   |some (.qn id sz' j off),Z y=>(match h.get id with
    |some (.F ty p T xs)=>if aB sz' T.size then chk (ij j (l! xs)) λ_=>(match ik h y 40 T (aw _ xs j) off sz with
     |some (z,m)=>if aC m id then U else K .undef (m|||kz id) (m|||kz id) ((dZ m h).set id (Z (.F ty p T (ca xs j z)))) nx
     |none=>U) else U
    |some (.C (Z ty) l)=>if aB sz 1&&(aB sz' 1&&aB off 0) then chk (ij j (l! l)) λ_=>(match y.cs with
     |some cs=>if aB (l! cs) 1 then K .undef (kz id) (kz id) (h.set id (Z (.C (Z ty) (splice l j.toNat cs)))) nx else U
     |none=>U) else U
    |_=>U)
   |_,_=>U
  |.zh x=>match eA e x with
   |some (.H id off)=>K (.H id off) 0 0 h nx
   |some (.qn id sz j off)=>K (.qn id sz j off) 0 0 h nx
   |some (.zw T xs j N off)=>K (.zw T xs j N off) 0 0 h nx
   |some (.qv g cap)=>K (.qv g cap) 0 0 h nx
   |_=>U
  |.bin op x y=>match eA e x,eA e y with
   |some u,Z v=>ari op u v λr=>K r 0 0 h nx
   |_,_=>U
  |.jp neg ds x y=>match sM ds,eA e x,eA e y with
   |some T,Z u,Z v=>if u.isC||v.isC||Yp x||Yp y then U else (match u.cs,v.cs with
    |some lu,Z lv=>(match fL PT.leaf 40 T lu,fL PT.leaf 40 T lv with
     |some (a,_,[]),Z (b,_,[])=>K (.f .bool (OG T a b !=neg)) 0 0 h nx
     |_,_=>U)
    |_,_=>U)
   |_,_,_=>U
  |.zf neg x=>match eA e x with
   |some .nil=>K (.f .bool (!neg)) 0 0 h nx
   |some .emp=>K .qj 0 0 h nx
   |some (.f (.sl _) xs)=>aJ (aB (ah xs) 0) (K .qj 0 0 h nx) (K (.f .bool neg) 0 0 h nx)
   |some (.G id)=>(match h.get id with
    |some (.F _ aa _ _)=>K (.f .bool neg) 0 0 h nx
    |_=>U)
   |_=>U
  |.jh neg x y=>match eA e x,eA e y with
   |some (.f .bool a),Z (.f .bool b)=>K (.f .bool ((a==b) !=neg)) 0 0 h nx
   |_,_=>U
  |.not x=>match eA e x with|some (.f .bool b)=>K (.f .bool (!b)) 0 0 h nx|_=>U
  |.conv k x=>match eA e x with|some (.f (.int _) n)=>K (.f (.int k) (aT k n)) 0 0 h nx|_=>U
  |.slc sz x lo hi mx=>match eA e x with
   |some v=>(match lo,hi,mx with
    |none,Z (.const (.int _ 0)),Z (.const (.int _ 0))=>if (aag h v).isSome then K .emp 0 0 h nx else U
    |none,Z b,U=>(match v,eA e b with
     |.f (.sl T) xs,Z (.f (.int _) j)=>if aB sz T.size then chk (c8 0 j&&c8 j (ah xs)) λ_=>K (.f (.sl T) (cu (aN j) xs)) 0 0 h nx else U
     |.G id,Z (.f (.int _) j)=>(match h.get id with
      |some (.F ty p T xs)=>if aB sz T.size then
        chk (c8 0 j&&gM j (ah xs)) λ_=>K (.G nx) (kz id) (kz id|||kz nx) ((h.set id (Z (.qx p sz (ah xs)))).set nx (Z (.F ty aa T (cu (aN j) xs)))) (nx+1)
       else U
      |_=>U)
     |_,_=>U)
    |some b,U,U=>(match v,eA e b with
     |.f (.sl T) xs,Z (.f (.int _) j)=>if aB sz T.size then chk (c8 0 j&&c8 j (ah xs)) λ_=>K (.f (.sl T) (ig (aN j) xs)) 0 0 h nx else U
     |.G id,Z (.f (.int _) j)=>(match h.get id with
      |some (.F _ _ T xs)=>if aB sz T.size then chk (c8 0 j&&gM j (ah xs)) λ_=>K (.zg id j) 0 0 h nx else U
      |_=>U)
     |_,_=>U)
    |none,Z b,Z b'=>(match v,eA e b,eA e b' with
     |.f (.sl T) xs,Z (.f (.int _) j),Z (.f (.int _) j')=>if aB sz T.size then chk ((decide (j=j')&&c8 0 j)&&c8 j (ah xs)) λ_=>K (.qc T (cu (aN j) xs)) 0 0 h nx else U
     |_,_,_=>U)
    |some b,Z b',U=>(match v,eA e b,eA e b' with
     |.f (.sl T) xs,Z (.f (.int _) j),Z (.f (.int _) k)=>if aB sz T.size then chk (c8 0 j&&(c8 j k&&c8 k (ah xs))) λ_=>K (.f (.sl T) (cu (aN k-aN j) (ig (aN j) xs))) 0 0 h nx else U
     |_,_,_=>U)
    |_,_,_=>U)
   |none=>U
  |.jk off x=>match eA e x with
   |some (.H id o)=>K (.H id (o+off)) 0 0 h nx
   |some (.qn id sz j o)=>K (.qn id sz j (o+off)) 0 0 h nx
   |some (.zw T xs j N o)=>K (.zw T xs j N (o+off)) 0 0 h nx
   |_=>U
  |.fld off sz q x=>match eA e x with
   |some (.agg l)=>(match XY l off sz q with|some v=>K v 0 0 h nx|none=>U)
   |some (.f T v)=>if T.one then U else (match oy 40 T v off sz q with|some v=>K v 0 0 h nx|none=>U)
   |_=>U
  |.jy sz x i=>match eA e x,eA e i with
   |some (.G id),Z (.f (.int _) j)=>(match h.get id with
    |some (.F _ _ T xs)=>if aB sz T.size then chk (ij j (l! xs)) λ_=>K (.qn id sz j 0) 0 0 h nx else U
    |_=>U)
   |some (.f (.sl T) xs),Z (.f (.int _) j)=>if aB sz T.size then chk (ij j (ah xs)) λN=>K (.zw T xs j N 0) 0 0 h nx else U
   |some (.qf id sz' n),Z (.f (.int _) j)=>if aB sz' sz then chk (c8 0 j&&gM j n) λ_=>K (.H id (aN j*sz)) 0 0 h nx else U
   |_,_=>U
  |.jx n sz x i=>match eA e x,eA e i with
   |some (.H id off),Z (.f (.int _) j)=>if rwB sz off (h.get id) then chk (c8 0 j&&gM j n) λ_=>K (.qn id sz j off) 0 0 h nx else (match arrB n sz off (h.get id) with
    |some _=>chk (c8 0 j&&gM j n) λ_=>K (.qn id sz j off) 0 0 h nx
    |none=>chk (c8 0 j&&gM j n) λ_=>K (.H id (off+aN j*sz)) 0 0 h nx)
   |_,_=>U
  |.sla n sz x lo=>match eA e x,eA e lo with
   |some (.H id off),Z (.f (.int _) j)=>(match h.get id with
    |some (.F _ _ T xs)=>if aB sz T.size&&aB off 0 then chk (c8 0 j&&(gM j n&&aB n (ah xs))) λ_=>K (.zg id j) 0 0 h nx else U
    |_=>U)
   |_,_=>U
  |.tos x=>match eA e x with
   |some v=>(match E0 h (.sl (.int .u8)) v with|some (ys,m)=>K (.f .str (nP ys)) m 0 h nx|none=>U)
   |none=>U
  |.idx n sz q x i=>match eA e x,eA e i with
   |some v,Z (.f (.int _) j)=>(match aup n sz v q with
    |some ⟨T,xs⟩=>chk (c8 0 j&&gM j n) λ_=>K (.f T (aw _ xs j)) 0 0 h nx
    |none=>(match v with
     |.agg l=>chk (c8 0 j&&gM j n) λ_=>(match XY l (aN j*sz) sz q with|some v=>K v 0 0 h nx|none=>U)
     |.f T v=>if T.one then U else chk (c8 0 j&&gM j n) λ_=>(match oy 40 T v (aN j*sz) sz q with|some v=>K v 0 0 h nx|none=>U)
     |_=>U))
   |_,_=>U
  |.ext x i=>match eA e x with|some (.qp l)=>(match l[i]? with|some v=>K v 0 0 h nx|none=>U)|_=>U
  |.len x=>match eA e x with
   |some v=>(match aag h v with|some n=>K (.f (.int .i64) (aY n)) 0 0 h nx|none=>U)
   |none=>U
  |.lens x=>match eA e x with
   |some (.f .str s)=>K (.f (.int .i64) (aY (ah s))) 0 0 h nx
   |_=>U
  |.max x y=>match eA e x,eA e y with
   |some (.f (.int k) a),Z (.f (.int k') b)=>if k==k' then K (.f (.int k) (FW a b)) 0 0 h nx else U
   |_,_=>U
  |.min x y=>match eA e x,eA e y with
   |some (.f (.int k) a),Z (.f (.int k') b)=>if k==k' then K (.f (.int k) (Mk a b)) 0 0 h nx else U
   |_,_=>U
  |.jq x i=>match eA e x,eA e i with
   |some (.f .str s),Z (.f (.int _) j)=>chk (ij j (ah s)) λ_=>K (.f (.int .u8) (sC s j)) 0 0 h nx
   |_,_=>U
  |.rng x=>match eA e x with
   |some (.f .str s)=>K (.H nx 0) 0 (0|||kz nx) ((dZ 0 h).set nx (Z (.mp itK .un [((s,0),())]))) (nx+1)
   |_=>U
  |.nxt x=>match eA e x with
   |some (.H id 0)=>(match h.get id with
    |some (.mp K' V D)=>(match itE K' V D with
     |some (s,p)=>aJ (dw p (ah s)) (K (.qp [.f .bool J,.f (.int .i64) (aY p),.f (.int .i32) (rnP s p)]) (kz id) (0|||kz id) ((dZ 0 h).set id (Z (.mp itK .un [((s,aY (p+wdP s p)),())]))) nx)
       (K (.qp [.f .bool aa]) (kz id) (0|||kz id) ((dZ 0 h).set id (Z (.mp itK .un [((s,aY p),())]))) nx)
     |none=>U)
    |_=>U)
   |_=>U
  |.mkm=>K (.mp nx) 0 (0|||kz nx) ((dZ 0 h).set nx (Z (.mp .un .un []))) (nx+1)
  |.lku str ok z x k=>match eA e x,eA e k with
   |some (.mp id),Z (.f KT kv)=>(match h.get id with
    |some (.mp K' V D)=>if acp str KT&&aco K' then (match mpE K' V D with
     |true=>(match cst z with|some v=>K (pkT ok v (.f .bool aa)) (kz id) 0 h nx|none=>U)
     |false=>(match uY (S:=KT) K' kv,cst z with
      |some kv',Z (.f A zv)=>(match uY (S:=A) V zv with
       |some zv'=>K (pkT ok (.f V (FD kv' D zv')) (.f .bool (aqn kv' D))) (kz id) 0 h nx
       |none=>U)
      |_,_=>U)) else U
    |_=>U)
   |_,_=>U
  |.mup str x k v=>match eA e x,eA e k,eA e v with
   |some (.mp id),Z (.f KT kv),Z (.f VT vv)=>(match h.get id with
    |some (.mp K' V D)=>if (acp str KT&&VT.one)&&aco K' then (match mpE K' V D with
     |true=>K .undef (kz id) (0|||kz id) ((dZ 0 h).set id (Z (.mp KT VT [(kv,vv)]))) nx
     |false=>(match uY (S:=KT) K' kv,uY (S:=VT) V vv with
      |some kv',Z vv'=>K .undef (kz id) (0|||kz id) ((dZ 0 h).set id (Z (.mp K' V (Kf kv' vv' D)))) nx
      |_,_=>U)) else U
    |_=>U)
   |_,_,_=>U
  |.mkf f caps=>match LR e caps with|some l=>K (.qv f l) 0 0 h nx|none=>U
  |_=>U
def OF (q:η) (j:Int):Int:=q.getD j.toNat 0
def Au (xss:Y (Y T.den)) (j:Int):Y T.den:=xss.getD j.toNat []
def xM (xss:Y (Y T.den)) (j:Int) (xs:Y T.den):Y (Y T.den):=xss.set j.toNat xs
def stN:Ty->Nat
 |.st t=>stN t+1
 |_=>0
def isRr:M Ty->Bool
 |some (.pr .bool (.pr _ (.sl _)))=>J
 |_=>aa
def ah2:ξ->Bool
 |[.slice U 0 0]=>J
 |_=>aa
def Yn:M fm->Bool
 |some (.qk _ _ _)=>J
 |some (.qr _ _ _ _ _)=>J
 |_=>aa
def HU (h:bf):M TV->Bool
 |some (.sb _)=>J
 |some (.qn id _ _ _)|some (.G id)=>Yn (h.get id)
 |_=>aa
def auo (cf:TypeId->M Ty) (e:iu) (h:bf):SI->Bool
 |.op (.load _ _ x)|.op (.store _ x _)|.op (.zh x)|.op (.jk _ x)|.op (.jy _ x _)=>HU h (eA e x)
 |.op (.app _ _ _ s _)=>HU h (eA e s)
 |.op (.zk ty _ _ _ _ _)=>isRr (cf ty)
 |_=>aa
def Bf (cf:TypeId->M Ty) (e:iu) (h:bf) (nx:Nat) (K:KO R):Rr->M R
 |.load sz I x=>match eA e x with
  |some (.sb (.np id j s i off))=>(match h.get id with
   |some (.qk (.ir _ T) _ xss)=>if aB s T.size then chk (ij j (ah (α:=Y T.den) xss)) λ_=>chk (ij i (ah (Au (T:=T) xss j))) λ_=>
     (match oy 40 T (aw _ (Au (T:=T) xss j) i) off sz I with|some v=>K v (kz id) 0 h nx|none=>U) else U
   |_=>U)
  |some (.qn id s j off)=>if (aB sz 1&& !I)&&(aB s 1&&aB off 0) then (match h.get id with
   |some (.qk (.rr _ z) a A)=>chk (ij j (ah (α:=Int) A)) λ_=>K (.sb (.nr a j z (aN (OF A j)))) (kz id) 0 h nx
   |_=>U) else U
  |_=>U
 |.store sz x v=>match eA e x,eA e v with
  |some (.qn id s j off),Z (.G r)=>if aB sz 1&&(aB s 1&&aB off 0) then (match h.get id,h.get r with
   |some (.qk (.rr ty z) a A),Z (.F _ p T xs)=>if aB z T.size then chk (ij j (ah (α:=Int) A)) λ_=>chk (p|| !(aB (ah xs) 0)) λ_=>K .undef (kz id) (0|||kz id) ((dZ 0 h).set id (Z (.qr (.rr ty z) a A (j,0) (Z (r,J,ah xs))))) nx else U
   |_,_=>U) else U
  |_,_=>U
 |.zh x=>match eA e x with
  |some (.sb (.np id j s i off))=>K (.sb (.np id j s i off)) 0 0 h nx
  |_=>U
 |.jk off x=>match eA e x with
  |some (.sb (.np id j s i o))=>K (.sb (.np id j s i (o+off))) 0 0 h nx
  |_=>U
 |.jy sz x i=>match eA e x,eA e i with
  |some (.G id),Z (.f (.int _) j)=>(match eK h id with
   |some (_,s,n)=>if aB s sz&&Yn (h.get id) then chk (ij j n) λ_=>K (.qn id sz j 0) 0 0 h nx else U
   |none=>U)
  |some (.sb (.nr id j s n)),Z (.f (.int _) i)=>if aB s sz then chk (ij i n) λ_=>K (.sb (.np id j sz i 0)) 0 0 h nx else U
  |_,_=>U
 |.app ty sz bytes s x=>match eA e s,eA e x with
  |some (.sb (.nr id j s n)),Z y=>(match h.get id with
   |some (.qk (.ir ty' T) a xss)=>if aB s T.size&&(aB sz T.size&&ty==ty') then chk (ij j (ah (α:=Y T.den) xss)) λ_=>(match E0 h (.sl T) y with
    |some (D,m)=>if aC m id then U else chk (aB n (ah (Au (T:=T) xss j))&&bh (n+ah D) bytes) λ_=>
      K (.G nx) (kz id|||m) (kz id|||kz nx) ((h.set id (Z (.qk (.ir ty T) a (xM (T:=T) xss j [])))).set nx (Z (.F ty J T (Au (T:=T) xss j++D)))) (nx+1)
    |none=>U) else U
   |_=>U)
  |_,_=>U
 |.zk ty sz bytes z l c=>match cf ty,eA e l,eA e c with
  |some (.pr .bool (.pr q (.sl T))),Z (.f (.int _) a),Z (.f (.int _) b)=>if aB sz 1&&ah2 z then
    chk (c8 0 a&&c8 a b&&bh (aN b) bytes) λ_=>K (.G nx) 0 (kz nx) ((h.set nx (Z (.qk (.rr ty T.size) (nx+1) (aD (aN a) (0:Int))))).set (nx+1) (Z (.qk (.ir (stN q) T) 0 (aD (aN a) ([]:Y T.den))))) (nx+2) else U
  |_,_,_=>U
 |_=>U
def opK (con:FuncId->M cr) (cf:TypeId->M Ty) (o:SI) (e:iu) (h:bf) (nx:Nat) (K:KO R):M R:=match auo cf e h o with
 |true=>(match o with|.op s=>Bf cf e h nx K s|_=>U)
 |false=>eH con cf o e h nx K
def afd (e:iu) (g:M (Nat×Bool)) (K:Bool->iu->M R):M R:=match g with
 |none=>K J e
 |some (t,want)=>match e.get t with
  |some (.f .bool b)=>(match want with
   |true=>aJ b (K J (e.set t (Z (.f .bool J)))) (K aa (e.set t (Z (.f .bool aa))))
   |false=>aJ b (K aa (e.set t (Z (.f .bool J)))) (K J (e.set t (Z (.f .bool aa)))))
  |some .undef=>K aa e
  |_=>U
def Ht (e:iu) (d:M Nat) (v:TV):iu:=match d with
 |none=>e
 |some d=>e.set d (Z v)
structure TS where
 e:iu
 h:bf
 nx:Nat
def OO (con:FuncId->M cr) (cf:TypeId->M Ty):Y pQ->TS->Y XK->(TS->Y XK->M R)->M R
 |[],s,q,K=>K s q.reverse
 |o::r,s,q,K=>afd s.e o.guard λrun e=>match run with
  |true=>opK con cf o.op e s.h s.nx λv rd A h nx=>if Qr h v then OO con cf r ⟨Ht e o.dst v,h,nx⟩ (⟨rd,A⟩::q) K else U
  |false=>OO con cf r ⟨Ht e o.dst .undef,s.h,s.nx⟩ (⟨0,0⟩::q) K
inductive Adj where
 |nil (k:Nat) (ty:TypeId) (T:Ty)
 |ql (k:Nat) (off:Nat) (ty:TypeId) (T:Ty)
 |mpt (k:Nat) (K V:Ty)
 |pk (k:Nat) (off:Nat) (T:Ty)
 |qz (k:Nat) (off:Nat)
 |tak (k off:Nat)
mutual
def OJ (id sz n:Nat):TV->TV
 |.qf i s m=>if aB i id&&aB s sz&&aB m n then .G id else .qf i s m
 |.agg l=>.agg (IJ id sz n l)
 |.qp l=>.qp (IJ id sz n l)
 |.qv g l=>.qv g (IJ id sz n l)
 |.f T v=>.f T v
 |.zw T xs j h off=>.zw T xs j h off
 |.qn a b c d=>.qn a b c d
 |.H a b=>.H a b
 |.G a=>.G a
 |.zg a j=>.zg a j
 |.qc T xs=>.qc T xs
 |.sb s=>.sb s
 |.emp=>.emp
 |.nil=>.nil
 |.mp a=>.mp a
 |.undef=>.undef
 |.np=>.np
 |.qj=>.qj
def IJ (id sz n:Nat):Y TV->Y TV
 |[]=>[]
 |x::r=>OJ id sz n x::IJ id sz n r
end
def XZ (id sz n:Nat):fm->fm
 |.C ty l=>.C ty (IJ id sz n l)
 |.F ty p T xs=>.F ty p T xs
 |.qx p s m=>.qx p s m
 |.mp K V q=>.mp K V q
 |.qk F a x=>.qk F a x
 |.qr F a x k p=>.qr F a x k p
def auz (s:TS) (k off:Nat):M (Nat×j?):=match s.e.get k with
 |some (.qf id sz n)=>Z (id,sz,n)
 |some (.agg l)=>(match l[off]? with|some (.qf id sz n)=>Z (id,sz,n)|_=>U)
 |some (.H a o)=>(match s.h.get a with
  |some (.C (Z _) l)=>(match l[o+off]? with|some (.qf id sz n)=>Z (id,sz,n)|_=>U)
  |_=>U)
 |_=>U
def pkS (s:TS) (T:Ty) (id sz n:Nat):M TS:=match s.h.get id with
 |some (.C (Z ty) l)=>if aB sz T.size then (match Dz s.h T n l with
  |some (xs,m)=>if aC m id then U else Z ⟨PT.updI (λ_ v=>OJ id sz n v) 1 0 s.e,(PT.updI (λ_ b=>XZ id sz n b) 1 0 (dZ m s.h)).set id (Z (.F ty aa T xs)),s.nx⟩
  |none=>U) else U
 |_=>U
def alr:TV->Bool
 |.nil=>J
 |.emp=>J
 |_=>aa
def aua:M TV->M j?
 |some (.H id o)=>Z (id,o)
 |some (.qf id _ _)|some (.mp id)=>Z (id,0)
 |_=>U
def auw (s:TS) (k off:Nat):M Nat:=match s.e.get k with
 |some (.mp id)|some (.G id)=>Z id
 |some (.H b o)=>(match s.h.get b with
  |some (.C (Z _) l)=>(match l[o+off]? with|some (.mp id)=>Z id|some (.G id)=>Z id|_=>U)
  |_=>U)
 |_=>U
def aq2 (s:TS) (o a r n:Nat) (j:Int) (ty:TypeId) (z:Nat) (q:η):M TS:=match s.h.get a,s.h.get r with
 |some (.qk (.ir ty2 T) _ xss),Z (.F ty3 p S xs)=>(match uY (S:=.sl S) (.sl T) xs with
  |some xs'=>if ty3==ty2 then
    Z ⟨s.e,(((s.h.set o (Z (.qk (.rr ty z) s.nx (CL (α:=Int) q j.toNat (aY n))))).set a (Z (.qx J 0 0))).set r (Z (.qx p S.size (ah xs)))).set s.nx (Z (.qk (.ir ty2 T) 0 (xM (T:=T) xss j xs'))),s.nx+1⟩ else U
  |none=>U)
 |_,_=>U
def ah3 (F:wd):Bool:=aB (F.aid 1) 0
def rnG (a n:Nat):fm->fm
 |.qk F b x=>if !(ah3 F)&&aB b a then .qk F n x else .qk F b x
 |b=>b
def aq4 (s:TS) (a:Nat):M TS:=match s.h.get a with
 |some (.qk F _ x)=>if ah3 F then Z ⟨s.e,((PT.updI (λ_ b=>rnG a s.nx b) 1 0 s.h).set a (Z (.qx J 0 0))).set s.nx (Z (.qk F 0 x)),s.nx+1⟩ else U
 |_=>U
def aq0 (s:TS) (o:Nat):M TS:=match s.h.get o with
 |some (.qr (.rr ty z) a q A (Z (r,J,n)))=>aq2 s o a r n A.1 ty z q
 |some (.qk F a _)=>if ah3 F then U else aq4 s a
 |_=>U
def PQ (s:TS):Adj->M TS
 |.nil k ty T=>match s.e.get k with
  |some v=>if alr v then Z ⟨s.e.set k (Z (.G s.nx)),s.h.set s.nx (Z (.F ty J T [])),s.nx+1⟩ else Z s
  |none=>U
 |.ql k off ty T=>match aua (s.e.get k) with
  |some (id,o)=>(match s.h.get id with
   |some (.C cty l)=>(match l[o+off]? with
    |some v=>if alr v then Z ⟨s.e,(s.h.set s.nx (Z (.F ty J T []))).set id (Z (.C cty (splice l (o+off) [.G s.nx]))),s.nx+1⟩ else Z s
    |none=>U)
   |_=>U)
  |_=>U
 |.mpt k K V=>match s.e.get k with
  |some (.mp id)=>(match s.h.get id with
   |some (.mp K' V' q)=>(match mpE K' V' q&&aco K with
    |true=>Z ⟨s.e,s.h.set id (Z (.mp K V [])),s.nx⟩
    |false=>Z s)
   |_=>U)
  |_=>U
 |.pk k off T=>match auz s k off with
  |some (id,sz,n)=>pkS s T id sz n
  |none=>U
 |.qz k off=>match s.e.get k with
  |some (.H b o)=>(match s.h.get b with
   |some (.C (Z cty) l)=>(match l[o+off]? with
    |some (.G id)=>(match s.h.get id with
     |some (.F ty p T xs)=>Z ⟨s.e,((s.h.set id (Z (.qx p T.size (l! xs)))).set s.nx (Z (.F ty p T xs))).set b (Z (.C (Z cty) (splice l (o+off) [.G s.nx]))),s.nx+1⟩
     |_=>U)
    |_=>U)
   |_=>U)
  |some (.G id)=>(match s.h.get id with
   |some (.F ty p T xs)=>Z ⟨s.e.set k (Z (.G s.nx)),(s.h.set id (Z (.qx p T.size (l! xs)))).set s.nx (Z (.F ty p T xs)),s.nx+1⟩
   |_=>U)
  |_=>U
 |.tak k off=>match auw s k off with
  |some o=>aq0 s o
  |none=>U
def Xt (s:TS):Y Adj->M TS
 |[]=>Z s
 |a::r=>match PQ s a with|some s'=>Xt s' r|none=>U
structure Ann where
 qt:ι
 ks:ι
 t:Tm
 pre:List Adj
abbrev Ann.D (A:Ann):Type:=A.t.ty.den
mutual
def vQ:TV->Bool
 |.f _ _=>J
 |.zw _ _ _ _ _=>J
 |.emp=>J
 |.nil=>J
 |.undef=>J
 |.np=>J
 |.qj=>J
 |.agg l|.qp l=>rS l
 |.qn _ _ _ _=>aa
 |.H _ _=>aa
 |.qf _ _ _=>aa
 |.G _=>aa
 |.zg _ _=>aa
 |.qc _ _=>aa
 |.sb _=>aa
 |.mp _=>aa
 |.qv _ _=>aa
def rS:Y TV->Bool
 |[]=>J
 |x::r=>vQ x&&rS r
end
def FN (am:Nat) (e:iu):ι->iu
 |[]=>PT.leaf
 |k::r=>match e.get k with|some v=>if vQ v&& !(aC am k) then (FN am e r).set k (Z v) else FN am e r|none=>FN am e r
def ny (e:iu):ι->M (Y TV)
 |[]=>Z []
 |k::r=>match e.get k with|some v=>(match ny e r with|some l=>Z (v::l)|none=>U)|none=>U
def acb (e:iu):ι->Y TV->iu
 |k::r,v::l=>(acb e r l).set k (Z v)
 |_,_=>e
def Lh (am:Nat) (e0 e:iu):ι->Bool
 |[]=>J
 |k::r=>(match e0.get k with
  |some v=> !(vQ v)||aC am k||(match e.get k with|some _=>J|none=>aa)
  |none=>J)&&Lh am e0 e r
def Pj (np:Nat) (A:Ann) (am:Nat) (q s:TS):M A.D:=if dx np (l! A.t.bs)&&Lh am q.e s.e A.qt then (match Xt s A.pre with
 |some s=>(match ny s.e A.ks with
  |some vs=>(match Ej np A.t vs s.h with
   |some ⟨x,_,_,_⟩=>Z x
   |none=>U)
  |none=>U)
 |none=>U) else U
def Kc (A:Ann) (am:Nat) (s:TS) (x:A.D):M TS:=match DB A.t x with
 |some (vs,h)=>if aB (l! vs) (l! A.ks) then Z ⟨acb (FN am s.e A.qt) A.ks vs,h,l! A.t.bs⟩ else U
 |none=>U
inductive TC where
 |skip
 |jz (ops:List pQ) (prs:List (Nat×Nat))
 |seq (a b:TC)
 |zt (A:Ann) (a b:TC)
 |cond (c:Nat) (a b:TC)
 |block (id:Nat) (b:TC)
 |zq (A:Ann) (id:Nat) (b:TC)
 |loop (A:Ann) (b:TC)
 |exit (id:Nat)
 |ret
 |adj (l:List Adj) (c:TC)
 |split (k off lo n:Nat) (c:TC)
 |unl (n:Nat) (b:TC)
 |zd
def TW:Y pQ->Nat->Nat
 |[],acc=>acc
 |o::r,acc=>TW r (match o.dst with|some d=>acc|||kz d|none=>acc)
def OU:ι->Nat->Nat
 |[],acc=>acc
 |k::r,acc=>OU r (acc|||kz k)
def pC:Y Adj->Nat->Nat
 |[],acc=>acc
 |.nil k _ _::r,acc=>pC r (acc|||kz k)
 |.ql _ _ _ _::r,acc|.mpt _ _ _::r,acc|.pk _ _ _::r,acc=>pC r acc
 |.qz k _::r,acc=>pC r (acc|||kz k)
 |.tak _ _::r,acc=>pC r acc
def TC.asg:TC->Nat->Nat
 |.jz ops _,acc=>TW ops acc
 |.seq a b,acc=>b.asg (a.asg acc)
 |.zt A a b,acc=>b.asg (a.asg (OU A.ks acc))
 |.cond _ a b,acc=>b.asg (a.asg acc)
 |.block _ b,acc=>b.asg acc
 |.zq A _ b,acc|.loop A b,acc=>b.asg (OU A.ks acc)
 |.adj l c,acc=>c.asg (pC l acc)
 |.split _ _ _ _ c,acc=>c.asg acc
 |.unl _ b,acc=>b.asg acc
 |.skip,acc|.exit _,acc|.ret,acc|.zd,acc=>acc
inductive ajz where
 |j (A:Ann)
 |a (l:List Adj)
 |s (k off lo n:Nat)
 |u (n:Nat)
def Lv (H:PT ajz) (n:Nat) (c:TC):TC:=match H.get n with|some (.a l)=>.adj l c|some (.s k off q m)=>.split k off q m c|_=>c
def Ih (H:PT ajz):SC->Nat->TC×Nat
 |.skip,n=>(Lv H n .skip,n+1)
 |.jz o p,n=>(Lv H n (.jz o p),n+1)
 |.seq a b,n=>match Ih H a (n+1) with
  |(q,k)=>(match Ih H b k with|(b',D)=>((match H.get n with|some (.j A)=>.zt A q b'|_=>.seq q b'),D))
 |.cond c a b,n=>match Ih H a (n+1) with
  |(q,k)=>(match Ih H b k with|(b',D)=>(Lv H n (.cond c q b'),D))
 |.block id b,n=>match Ih H b (n+1) with|(b',k)=>((match H.get n with|some (.j A)=>.zq A id b'|_=>.block id b'),k)
 |.loop b,n=>match Ih H b (n+1) with|(b',k)=>((match H.get n with|some (.j A)=>.loop A b'|some (.u m)=>.unl m b'|_=>.zd),k)
 |.exit id,n=>(Lv H n (.exit id),n+1)
 |.ret,n=>(Lv H n .ret,n+1)
 |.zd,n=>(.zd,n+1)
def ah7 (s:TS) (k off:Nat):M (IntKind×Int):=match s.e.get k with
 |some (.f (.int kd) v)=>Z (kd,v)
 |some (.H a o)=>(match s.h.get a with
  |some (.C (Z _) l)=>(match l[o+off]? with|some (.f (.int kd) v)=>Z (kd,v)|_=>U)
  |_=>U)
 |_=>U
def X3 (s:TS) (k off:Nat) (kd:IntKind) (v:Int):M TS:=match s.e.get k with
 |some (.f (.int _) _)=>Z ⟨s.e.set k (Z (.f (.int kd) v)),s.h,s.nx⟩
 |some (.H a o)=>(match s.h.get a with
  |some (.C (Z ty) l)=>Z ⟨s.e,s.h.set a (Z (.C (Z ty) (splice l (o+off) [.f (.int kd) v]))),s.nx⟩
  |_=>U)
 |_=>U
def spl (v:Int) (f:Nat->M R):Nat->Nat->M R
 |_,0=>U
 |i,m+1=>aJ (decide ((v:Int)=aY i)) (f i) (spl v f (i+1) m)
def akn (f:TS->(Ex->TS->M R)->M R):Nat->TS->(Ex->TS->M R)->M R
 |0,_,_=>U
 |m+1,s,K=>f s λex s'=>match ex with
  |.normal=>akn f m s' K
  |ex=>K ex s'
def rn {R:Type} (np:Nat) (con:FuncId->M cr) (cf:TypeId->M Ty) (inert:FuncId->Bool):TC->TS->(Ex->TS->M R)->M R
 |.skip,s,K=>K .normal s
 |.jz ops prs,s,K=>OO con cf ops s [] λs' D=>if Bt D prs then K .normal s' else U
 |.seq a b,s,K=>rn np con cf inert a s λex s'=>match ex with|.normal=>rn np con cf inert b s' K|ex=>K ex s'
 |.zt A a b,s,K=>jn (rn np con cf inert a s λex s'=>match ex with
   |.normal=>av (Pj np A (a.asg 0) s s') λx=>Z (.inr x)
   |ex=>av (K ex s') λr=>Z (.inl r)) λx=>(match Kc A (a.asg 0) s x with|some s'=>rn np con cf inert b s' K|none=>U)
 |.cond c a b,s,K=>match s.e.get c with
  |some (.f .bool t)=>aJ t (rn np con cf inert a s K) (rn np con cf inert b s K)
  |some .qj=>yI (rn np con cf inert a s K) (rn np con cf inert b s K)
  |_=>U
 |.block id b,s,K=>rn np con cf inert b s λex s'=>match ex with
  |.exit i=>if aB i id then K .normal s' else K (.exit i) s'
  |ex=>K ex s'
 |.zq A id b,s,K=>jn (rn np con cf inert b s λex s'=>match ex with
   |.normal=>av (Pj np A (b.asg 0) s s') λx=>Z (.inr x)
   |.exit i=>if aB i id then av (Pj np A (b.asg 0) s s') λx=>Z (.inr x) else av (K (.exit i) s') λr=>Z (.inl r)
   |.ret=>av (K .ret s') λr=>Z (.inl r)) λx=>(match Kc A (b.asg 0) s x with|some s'=>K .normal s'|none=>U)
 |.loop A b,s,K=>av (Pj np A (b.asg 0) s s) λx=>iter (λx=>match Kc A (b.asg 0) s x with
   |some s'=>rn np con cf inert b s' λex s'=>(match ex with
    |.normal=>av (Pj np A (b.asg 0) s s') λy=>Z (.inl y)
    |ex=>av (K ex s') λr=>Z (.inr r))
   |none=>U) x
 |.exit id,s,K=>K (.exit id) s
 |.ret,s,K=>K .ret s
 |.adj l c,s,K=>match Xt s l with|some s'=>rn np con cf inert c s' K|none=>U
 |.split k off q n c,s,K=>match ah7 s k off with
  |some (kd,v)=>spl v (λi=>match X3 s k off kd (aY i) with|some s'=>rn np con cf inert c s' K|none=>U) q n
  |none=>U
 |.unl n b,s,K=>akn (λs K=>rn np con cf inert b s K) n s K
 |.zd,_,_=>U
def N8:Nat->Y TV->iu
 |_,[]=>PT.leaf
 |k,x::r=>(N8 (k+1) r).set k (Z x)
def rvT (s:TS):RV->M TV
 |.tmp t=>s.e.get t
 |.cell a sz q=>match s.e.get a with
  |some (.H id off)=>(match s.h.get id with|some (.C (Z _) l)=>XY l off sz q|_=>U)
  |_=>U
def Ux (s:TS):Y RV->M (Y TV)
 |[]=>Z []
 |x::r=>match rvT s x with|some v=>(match Ux s r with|some l=>Z (v::l)|none=>U)|none=>U
structure FT where
 pre:Tm
 post:Tm
 hints:PT ajz
def aut (D:FT):Y Adj:=match D.hints.get 60000 with
 |some (.a l)=>l
 |_=>[]
def afn (con:FuncId->M cr) (cf:TypeId->M Ty) (inert:FuncId->Bool) (F:M SF) (D:FT) (x:D.pre.ty.den):M D.post.ty.den:=
 match F with
 |some q=>(match DB D.pre x with
  |some (args,h)=>if dx (l! args) q.nt&&dx (l! D.pre.bs) (l! D.post.bs) then
    rn (l! D.pre.bs) con cf inert (Ih D.hints q.code 0).1 ⟨N8 0 args,h,l! D.pre.bs⟩ λex s=>(match ex with
    |.exit _=>U
    |_=>(match Xt s (aut D) with
     |some s=>(match Ux s q.res with
      |some l=>(match Ej (l! D.pre.bs) D.post l s.h with
       |some ⟨y,_,_,_⟩=>(match DB D.post y with|some _=>Z y|none=>U)
       |none=>U)
      |none=>U)
     |none=>U)) else U
  |none=>U)
 |none=>U
def dJ {u:Value} (h:cG V O w (.f (.raw v)) u):u=v:=by
 cases h with
 |f h=>cases h;rfl
def tL (h:HF) (q:HF):dX h [] q=h:=by funext t;simp[dX]
def JY:∀{l:ξ},NX l=J->∀v∈l,v.oneCell'=J
 |[],_,v,q=>by cases q
 |x::r,h,v,q=>by
  simp[NX,ak]at h;rcases bk.1 q with rfl|q
  .exact h.1
  .exact JY h.2 v q
def Zk (v:Value):cG V O w (Ip v) v:=by
 unfold Ip;split
 .rename_i vs;split
  .rename_i h1;refine cG.agg (vs:=vs.toList) (by simp) (λx q=>?_) (λj x v q A=>?_)
   .obtain⟨u,D,rfl⟩:=cv.1 q;exact JY h1 u D
   .rw[bL,A]at q;simp[bS,af]at q;subst q;exact .f (.raw _)
  .exact .f (.raw _)
 .exact .f (.raw _)
def rY {e:wC} {xs:Array Operand} (hrep:qE V O S w) (h:∀t,.tmp t∈xs->∀y,e.get t=Z y->cG V (tot O V S) w y (N.tmps.getD t undef)) {x:Operand} (D:x∈xs) (q:lZ e x=Z y):cG V (tot O V S) w y (N.eval x):=by
 cases x with
 |tmp t=>exact h t D y q
 |const v=>simp[lZ,af]at q;subst q;exact Zk v
 |func g=>
  simp[lZ,af]at q;subst q;exact cG.qv (vs:=[]) (g:=g) (cells:=[]) rfl (by simp)
 |global g=>
  simp[lZ]at q;cases A:G g with
  |none=>rw[A]at q;cases q
  |some cells=>rw[A]at q;simp[af]at q;subst q;exact .f (hrep.gl g cells A)
abbrev Uf (φ:PM) (E:Nat->Prop) (h':HF) (w:World) (a:Act) (e:wC) (o:Oper):Prop:=∀x y,x∈o.op.operands->lZ e x=Z y->cG φ (tot E φ h') w y (a.eval x)
def gJ.reads {e:wC} {rd:ι} {q:HF}
 (I:∀(φ:PM) (E:Nat->Prop) (h':HF) (w:World) (a:Act),(∀i∈rd,h' i=S i)->Uf φ E h' w a e j->qE φ E h' w->
   ∃v,(execOp a.eval j).run P w= .ok (.value v) w/\cG φ (tot E φ h') w y v):gJ P j e.get S ⟨y,rd,[],q,[]⟩:=by
 intro φ E h' w a h1 h2 h3 h4 N;let⟨v,r,rel⟩:=I φ E h' w a h1 (λx val D A=>rY h4 h3 D A) h4;unfold K2;rw[r];refine ⟨v,φ,rfl,?_,λ_ _ S=>.inl S,?_,?_⟩<;>rw[tL]
 .exact iv.refl _ _ _
 .exact h4
 .exact rel
def dh {R:AS} (h:rv y=Z R):R=⟨y,[],[],[],[]⟩:=by simp only[rv,af]at h;exact h.symm
section pure
variable {P:Program} {o:Oper} {e:wC} {h:ie} {nx:Nat} {R:AS}
variable {s:Operand}
def avd (q:o.op= .move s\/o.op= .assign s) (A:dO (.mv s) e h nx=Z R):gJ P o e.get h.get R.eff:=by
 simp[dO]at A;split at A
 next v D=>rw[dh A];exact gJ.reads λφ E h' w a _ hop _=>⟨a.eval s,by unfold execOp;rcases q with q|q<;>rw[q]<;>rfl,hop s v (by rcases q with q|q<;>rw[q]<;>simp[Op.operands]) D⟩
 .cases A
def arq {x y:Operand} (A:o.op= .pick s x y) (q:dO (.pick s x y) e h nx=Z R):gJ P o e.get h.get R.eff:=by
 simp[dO]at q;split at q
 .rename_i t I;split at q
  .rename_i v D;rw[dh q];refine gJ.reads λφ E h' w a _ hop _=>?_
   have hcv:=dJ (hop s _ (by rw[A];simp[Op.operands]) I);refine ⟨a.eval (if t then x else y),?_,hop _ v (by rw[A];cases t<;>simp[Op.operands]) D⟩;unfold execOp;rw[A];simp[hcv];cases t<;>rfl
  .cases q
 .cases q
def ars (q:o.op= .nilCheck s) (A:dO (.zh s) e h nx=Z R):gJ P o e.get h.get R.eff:=by
 simp[dO]at A;split at A
 .rename_i id off I;rw[dh A];refine gJ.reads λφ E h' w a _ hop _=>?_
  have h1:=hop s _ (by rw[q];simp[Op.operands]) I;generalize D:a.eval s=z at h1;cases h1 with
  |H hφ=>exact⟨_,by unfold execOp;rw[q];simp only[D];rfl,.H hφ⟩
 .rename_i cells off I;rw[dh A];refine gJ.reads λφ E h' w a _ hop _=>?_
  have h1:=hop s _ (by rw[q];simp[Op.operands]) I;generalize D:a.eval s=z at h1;cases h1 with
  |f h1=>
   have h2:=h1;cases h2 with
   |H _ _ b base us hO hb hcl hu N=>exact⟨_,by unfold execOp;rw[q];simp only[D];rfl,.f h1⟩
 .rename_i g cap I;rw[dh A];refine gJ.reads λφ E h' w a _ hop _=>?_
  have h1:=hop s _ (by rw[q];simp[Op.operands]) I;generalize D:a.eval s=z at h1;cases h1 with
  |qv hl N=>exact⟨_,by unfold execOp;rw[q];simp only[D];rfl,.qv hl N⟩
 .cases A
variable {A:TypeId}
def avb (t:o.op= .unOp .not A s) (q:dO (.not s) e h nx=Z R):gJ P o e.get h.get R.eff:=by
 simp[dO]at q;split at q
 .rename_i b D;rw[dh q];refine gJ.reads λφ E h' w a _ hop _=>?_
  have h1:=dJ (hop s _ (by rw[t];simp[Op.operands]) D);exact⟨_,by unfold execOp;rw[t];simp[h1];rfl,.f (.raw _)⟩
 .cases q
def xG (k:IntKind) (n:Int):aT k n=k.wrap n:=by
 rw[E_];unfold P';split
 .split
  .rename_i h;simp[c8,ak,bB]at h;have:jW .i64 n=if n%18446744073709551616≥9223372036854775808 then n%18446744073709551616-18446744073709551616 else n%18446744073709551616:=by
    simp[jW,IntKind.bits,IntKind.signed]
   rw[this];split<;>omega
  .rfl
 .split
  .rename_i h;simp[c8,ak,bB]at h;have:jW .u8 n=n%256:=by
    simp[jW,IntKind.bits,IntKind.signed]
   omega
  .rfl
 .rfl
def ary {x:TypeId} {k D:IntKind} (d:o.op= .convert x A s) (N:P.underlying x=Z (.int D)) (hd:P.underlying A=Z (.int k)) (q:dO (.conv k s) e h nx=Z R):gJ P o e.get h.get R.eff:=by
 simp[dO]at q;split at q
 .rename_i kk n I;rw[dh q];refine gJ.reads λφ E h' w a _ hop _=>?_
  have h1:=dJ (hop s _ (by rw[d];simp[Op.operands]) I);refine ⟨_,?_,.f (.raw _)⟩;unfold execOp;rw[d];simp[h1,convert,run_underlying N,run_underlying hd,Conv.intToInt,xG]
 .cases q
def TQ (a:ByteArray):a.toList=a.data.toList:=by
 first|exact ByteArray.toList_eq a|simp[ByteArray.toList]|rfl
def afw {op:BinOp} {t:TypeId} {u r:Value} (q:wA op u v=Z r) (x y:Operand) (w:World):
 (do eqGuard op t x y u v;binOp op t u v:Sem Value).run P w= .ok r w:=by
 unfold wA at q;split at q
 .rename_i k a I b;split at q
  .rename_i N;have A:k=I:=by grind
   subst A;split at q<;>first|(simp [af]at q;subst q;simp[eqGuard,binOp,Op.intCmp,Op.intArith,Op.intBits,alw,xG,c8,gM];done)|(split at q<;>first|(cases q;done)|(rename_i D;simp[af]at q;subst q;simp[eqGuard,binOp,Op.intDiv,xG,show b≠0 from by simpa using D];done))|(split at q<;>first|(cases q;done)|(rename_i D;simp only[c8,bB]at D;cases q;simp[eqGuard,binOp,Op.shift,xG,show ¬b<0 by omega];done))|(cases q;done)
  .cases q
 next a b=>split at q<;>first|(simp [af]at q;subst q;simp[eqGuard,binOp,Op.stringOp,tH,TQ];done)|(cases q;done)
 .cases q
def aot {s:Sem Value} {w':World} (q:s.run P w= .ok v w'):(do let x<-s;pure (Next.value x):Sem Next).run P w= .ok (.value v) w':=by
 simp[q]
def apf {op:BinOp} {y:Operand} {D:TypeId} (t:o.op= .binOp op A s y D) (q:dO (.bin op s y) e h nx=Z R):gJ P o e.get h.get R.eff:=by
 simp[dO]at q;split at q
 .rename_i u v N I;split at q
  .rename_i r hr;rw[dh q];refine gJ.reads λφ E h' w a _ hop _=>?_
   have h1:=dJ (hop s _ (by rw[t];simp[Op.operands]) N);have h2:=dJ (hop y _ (by rw[t];simp[Op.operands]) I);refine ⟨r,?_,.f (.raw _)⟩;unfold execOp;rw[t];simp only[h1,h2];exact aot (afw (P:=P) (t:=A) hr s y w)
  .cases q
 .cases q
def YQ (q:P.underlying A=Z .bool) (u v:Bool) (w:World):(Op.equal A (.bool u) (.bool v)).run P w= .ok (u==v) w:=by
 have key:∀d,(Op.equalIn (d+1) A (.bool u) (.bool v)).run P w= .ok (u==v) w:=λd=>by simp[Op.equalIn,run_underlying q]
 exact key 9999
def V6 {D:TypeId} (q:P.underlying A=Z (.slice D)) (t:M Addr) (n c:Nat) (w:World):(Op.equal A (.slice t n c) (.slice U 0 0)).run P w= .ok t.isNone w:=by
 have key:∀d,(Op.equalIn (d+1) A (.slice t n c) (.slice U 0 0)).run P w= .ok t.isNone w:=λd=>by cases t<;>simp[Op.equalIn,run_underlying q]
 exact key 9999
def ape {neg:Bool} {op:BinOp} {y:Operand} {D:TypeId} (t:o.op= .binOp op A s y D) (hop:op=if neg then .neq else .eql) (hu:P.underlying A=Z .bool) (q:dO (.jh neg s y) e h nx=Z R):gJ P o e.get h.get R.eff:=by
 simp[dO]at q;split at q
 .rename_i u v N I;rw[dh q];refine gJ.reads λφ E h' w a _ hp _=>?_
  have h1:=dJ (hp s _ (by rw[t];simp[Op.operands]) N);have h2:=dJ (hp y _ (by rw[t];simp[Op.operands]) I);refine ⟨_,?_,.f (.raw _)⟩;unfold execOp;rw[t];simp[h1,h2];subst hop;cases neg<;>simp[eqGuard,binOp,YQ hu]
 .cases q
def abz {neg:Bool} {op:BinOp} {y:Operand} {t' el:TypeId} (N:o.op= .binOp op A s y t') (hop:op=if neg then .neq else .eql) (hy:y= .const (.slice U 0 0)) (hu:P.underlying A=Z (.slice el)) (D:dO (.zf neg s) e h nx=Z R):gJ P o e.get h.get R.eff:=by
 have key:∀(v:Value) (w:World) (ρ:Operand->Value) (t:M Addr) (n c:Nat),ρ s= .slice t n c->ρ y= .slice U 0 0->(execOp ρ o).run P w= .ok (.value (.bool (t.isNone !=neg))) w:=by
  intro v w ρ t n c h1 h2;unfold execOp;rw[N];simp[h1,h2];subst hop;cases neg<;>simp[eqGuard,binOp,V6 hu]
 have hyv:∀a:Act,a.eval y= .slice U 0 0:=λa=>by rw[hy];rfl
 simp[dO]at D;split at D
 .rename_i id sz n q;rw[dh D];refine gJ.reads λφ E h' w a _ hp _=>?_
  have h1:=hp s _ (by rw[N];simp[Op.operands]) q;generalize I:a.eval s=z at h1;cases h1 with
  |G hφ hn hc hs=>exact⟨_,key (.bool J) w a.eval _ _ _ I (hyv a),by simpa[raw] using cG.f (.raw _)⟩
 .rename_i id off n q;rw[dh D];refine gJ.reads λφ E h' w a _ hp _=>?_
  have h1:=hp s _ (by rw[N];simp[Op.operands]) q;generalize I:a.eval s=z at h1;cases h1 with
  |sl hφ hn hc=>exact⟨_,key (.bool J) w a.eval _ _ _ I (hyv a),by simpa[raw] using cG.f (.raw _)⟩
 .rename_i cells n q;rw[dh D];refine gJ.reads λφ E h' w a _ hp _=>?_
  have h1:=hp s _ (by rw[N];simp[Op.operands]) q;generalize I:a.eval s=z at h1;cases h1 with
  |f h1=>
   cases h1 with
   |sl=>exact⟨_,key (.bool J) w a.eval _ _ _ I (hyv a),by simpa[raw] using cG.f (.raw _)⟩
 .rename_i cells q;rw[dh D];refine gJ.reads λφ E h' w a _ hp _=>?_
  have h1:=hp s _ (by rw[N];simp[Op.operands]) q;generalize I:a.eval s=z at h1;cases h1 with
  |f h1=>
   cases h1 with
   |_=>exact⟨_,key (.bool J) w a.eval _ _ _ I (hyv a),.qj⟩
 .rename_i q;rw[dh D];refine gJ.reads λφ E h' w a _ hp _=>?_
  have h1:=hp s _ (by rw[N];simp[Op.operands]) q;generalize I:a.eval s=z at h1;cases h1 with
  |emp=>exact⟨_,key (.bool J) w a.eval _ _ _ I (hyv a),.qj⟩
 .rename_i v q;split at D
  .rename_i hv;rw[dh D];refine gJ.reads λφ E h' w a _ hp _=>?_
   have h1:=dJ (hp s _ (by rw[N];simp[Op.operands]) q);unfold CW at hv;split at hv
   .exact⟨_,key (.bool J) w a.eval _ _ _ h1 (hyv a),by simpa[raw] using cG.f (.raw _)⟩
   .cases hv
  .cases D
 .cases D
def f_ (q:fK P A=Z i) (w:World):(sizeOf A).run P w= .ok i w:=by
 unfold fK at q;cases hi:P.info? A with
 |none=>rw[hi]at q;cases q
 |some sz=>rw[hi]at q;simp at q;simp[sizeOf,typeInfo,program,hi,rA,q]
def Uz {t:Bool} (q:G9 P A=Z t) (w:World):(isAgg A).run P w= .ok t w:=by
 unfold G9 at q;cases hi:P.underlying A with
 |none=>rw[hi]at q;cases q
 |some d=>
  rw[hi]at q;simp[bS,af]at q;rw[<- q];simp[isAgg,eM,run_underlying hi,cM];cases d<;>rfl
def iT (b off i:Nat):(⟨b,off,U⟩:Addr).add i=⟨b,off+i,U⟩:=by
 unfold Addr.add;split<;>simp_all
def Uy {q:Array Field} {f:Field} (s:P.underlying A=Z (.struct q)) (hf:q[i]? =Z f) (D:fK P f.type=Z m) (h0:m≠0) (w:World) (b k:Nat):
 (Instr.fieldAt A (.pointer (Z ⟨b,k,U⟩)) i).run P w= .ok (.pointer (Z ⟨b,k+f.offset,U⟩)) w:=by
 have h1:=f_ D w;simp[Instr.fieldAt,run_underlying s,hf,Oz,fieldPlace,h1,h0,iT]
def avl {fs:Array Field} {f:Field} {x:Operand} (N:o.op= .fieldAddr A x i) (I:P.underlying A=Z (.struct fs)) (hf:fs[i]? =Z f) (hs:fK P f.type=Z m) (h0:m≠0) (q:dO (.jk f.offset x) e h nx=Z R):gJ P o e.get h.get R.eff:=by
 have key:∀(w:World) (ρ:Operand->Value) (b k:Nat),ρ x= .pointer (Z ⟨b,k,U⟩)->(execOp ρ o).run P w= .ok (.value (.pointer (Z ⟨b,k+f.offset,U⟩))) w:=by
  intro w ρ b k h1;unfold execOp;rw[N];simp only[h1];exact aot (Uy I hf hs h0 w b k)
 simp[dO]at q;split at q
 .rename_i id off D;rw[dh q];refine gJ.reads λφ E h' w a _ hp _=>?_
  have h1:=hp x _ (by rw[N];simp[Op.operands]) D;generalize s:a.eval x=z at h1;cases h1 with
  |H hφ=>exact⟨_,key w a.eval _ _ s,.H hφ⟩
 .rename_i cells off D;rw[dh q];refine gJ.reads λφ E h' w a _ hp _=>?_
  have h1:=hp x _ (by rw[N];simp[Op.operands]) D;generalize s:a.eval x=z at h1;cases h1 with
  |f h1=>
   cases h1 with
   |H _ _ b base us hO hb hcl I hr=>
    refine ⟨_,key w a.eval _ _ s,.f ?_⟩;rw[qW];exact .H cells _ b base us hO hb hcl I hr
 .cases q
def MZ {q:TypeId} {y:Operand} {off n c:Nat} {k:IntKind} {sz:Int} {ρ:Operand->Value} (ho:o.op= .indexAddr A s y) (I:P.underlying A=Z (.slice q)) (N:fK P q=Z i) (D:ρ s= .slice (Z ⟨m,off,U⟩) n c) (t:ρ y= .int k sz) (h0:0<=sz) (h1:sz<n):
 (execOp ρ o).run P w= .ok (.value (.pointer (Z ⟨m,off+sz.toNat*i,U⟩))) w:=by
 have h2:=f_ N w;unfold execOp;rw[ho];simp[D,t,Instr.indexAt,asIntOf,run_underlying I,h2,h0,h1,iT]
def avj {el:TypeId} {y:Operand} (I:o.op= .indexAddr A s y) (hu:P.underlying A=Z (.slice el)) (hs:fK P el=Z i) (q:dO (.jy i s y) e h nx=Z R):gJ P o e.get h.get R.eff:=by
 simp[dO]at q;split at q
 .rename_i v k j hx hy;have hyv:∀{φ:PM} {E:Nat->Prop} {h':HF} {w:World} {a:Act},Uf φ E h' w a e o->a.eval y= .int k j:=λhp=>dJ (hp y _ (by rw[I];simp[Op.operands]) hy)
  split at q
  .split at q
   .rename_i id sz' n D;simp[c8,gM,ak,bB,du]at D;obtain⟨⟨rfl,h0⟩,h1⟩:=D;rw[dh q];refine gJ.reads λφ E h' w a _ hp _=>?_
    have t:=hp s _ (by rw[I];simp[Op.operands]) hx;generalize N:a.eval s=z at t;cases t with
    |G hφ hn hc' hsh=>
     refine ⟨_,MZ I hu hs N (hyv hp) h0 h1,?_⟩;rw[b9];exact .H hφ
   .cases q
  .split at q
   .rename_i id off n D;simp[c8,gM,ak,bB]at D;let⟨h0,h1⟩:=D;rw[dh q];refine gJ.reads λφ E h' w a _ hp _=>?_
    have t:=hp s _ (by rw[I];simp[Op.operands]) hx;generalize N:a.eval s=z at t;cases t with
    |sl hφ hn hc'=>exact⟨_,MZ I hu hs N (hyv hp) h0 h1,.H hφ⟩
   .cases q
  .split at q
   .rename_i cells n D;simp[c8,gM,ak,bB]at D;let⟨h0,h1⟩:=D;rw[dh q];refine gJ.reads λφ E h' w a _ hp _=>?_
    have t:=hp s _ (by rw[I];simp[Op.operands]) hx;generalize N:a.eval s=z at t;cases t with
    |f t=>
     cases t with
     |nil=>omega
     |sl _ _ c b base us hn hc' hO hb hcl hu' hr'=>exact⟨_,MZ I hu hs N (hyv hp) h0 h1,.f (.H cells _ b base us hO hb hcl hu' hr')⟩
   .cases q
  .cases q
 .cases q
def arx {el:TypeId} {y:Operand} (D:o.op= .indexAddr A s y) (hu:P.underlying A=Z (.array i el)) (hs:fK P el=Z m) (q:dO (.jx i m s y) e h nx=Z R):gJ P o e.get h.get R.eff:=by
 have key:∀(w:World) (ρ:Operand->Value) (b off:Nat) (k:IntKind) (n:Int),ρ s= .pointer (Z ⟨b,off,U⟩)->ρ y= .int k n->0<=n->n<i->(execOp ρ o).run P w= .ok (.value (.pointer (Z ⟨b,off+n.toNat*m,U⟩))) w:=by
  intro w ρ b off k n h1 h2 h3 h4;have h5:=f_ hs w;unfold execOp;rw[D];simp[h1,h2,Instr.indexAt,asIntOf,run_underlying hu,h5,h3,h4,iT,Oz]
 simp[dO]at q;split at q
 .rename_i v k j hx hy;split at q
  .rename_i hc;simp[c8,gM,ak,bB]at hc;let⟨h0,h1⟩:=hc;split at q
   .rw[dh q];refine gJ.reads λφ E h' w a _ hp _=>?_
    have t:=hp s _ (by rw[D];simp[Op.operands]) hx;have hyv:=dJ (hp y _ (by rw[D];simp[Op.operands]) hy);generalize I:a.eval s=z at t;cases t with
    |H hφ=>exact⟨_,key w a.eval _ _ k j I hyv h0 h1,.H hφ⟩
   .rw[dh q];refine gJ.reads λφ E h' w a _ hp _=>?_
    have t:=hp s _ (by rw[D];simp[Op.operands]) hx;have hyv:=dJ (hp y _ (by rw[D];simp[Op.operands]) hy);generalize I:a.eval s=z at t;cases t with
    |f t=>
     cases t with
     |H _ _ b base us hO hb hcl N hr'=>
      refine ⟨_,key w a.eval _ _ k j I hyv h0 h1,.f ?_⟩;rw[qW];exact .H _ _ b base us hO hb hcl N hr'
   .cases q
  .cases q
 .cases q
def avm (D:o.op= .extract s i) (q:dO (.ext s i) e h nx=Z R):gJ P o e.get h.get R.eff:=by
 simp[dO]at q;split at q
 .rename_i l N;split at q
  .rename_i v hv;rw[dh q];refine gJ.reads λφ E h' w a _ hp _=>?_
   have A:=hp s _ (by rw[D];simp[Op.operands]) N;generalize I:a.eval s=z at A;cases A with
   |@qp _ vs hl hrr=>
    have hlt:i<l! vs:=by grind
    refine ⟨vs[i],?_,hrr i v _ hv (aL hlt)⟩;unfold execOp;rw[D];simp[I,Instr.extract,hlt]
  .cases q
 .cases q
def avh {y:Operand} {D:Array TypeId} (A:o.op= .call {callee:=.builtin .max,args:=#[s,y],argTypes:=D}) (q:dO (.max s y) e h nx=Z R):gJ P o e.get h.get R.eff:=by
 simp[dO]at q;split at q
 .rename_i k a b k' N I;rw[dh q];refine gJ.reads λφ E h' w a _ hp _=>?_
  have h1:=dJ (hp s _ (by rw[A];simp[Op.operands,em]) N);have h2:=dJ (hp y _ (by rw[A];simp[Op.operands,em]) I);refine ⟨_,?_,.f (.raw _)⟩;unfold execOp;rw[A];simp[resolve,invoke,builtin,Builtin.max_,Builtin.max2,h1,h2,gM]
 .cases q
def avg {y:Operand} {D:Array TypeId} (A:o.op= .call {callee:=.builtin .min,args:=#[s,y],argTypes:=D}) (q:dO (.min s y) e h nx=Z R):gJ P o e.get h.get R.eff:=by
 simp[dO]at q;split at q
 .rename_i k a b k' N I;rw[dh q];refine gJ.reads λφ E h' w a _ hp _=>?_
  have h1:=dJ (hp s _ (by rw[A];simp[Op.operands,em]) N);have h2:=dJ (hp y _ (by rw[A];simp[Op.operands,em]) I);refine ⟨_,?_,.f (.raw _)⟩;unfold execOp;rw[A];simp[resolve,invoke,builtin,Builtin.min_,Builtin.min2,h1,h2,gM]
 .cases q
def avc {k:IntKind} (I:o.op= .unOp .neg A s) (t:dO (.bin .sub (.const (.int k 0)) s) e h nx=Z R):gJ P o e.get h.get R.eff:=by
 simp[dO,lZ,Ip]at t;split at t
 .rename_i u v hu N;cases hu;split at t
  .rename_i r q;rw[dh t];refine gJ.reads λφ E h' w a _ hop _=>?_
   have h1:=dJ (hop s _ (by rw[I];simp[Op.operands]) N);refine ⟨r,?_,.f (.raw _)⟩;unfold execOp;rw[I];cases v<;>simp only[wA]at q<;>try (cases q;done)
   split at q
   next D=>have D:=eq_of_beq D;subst D;simp[af]at q;subst q;simp[h1,Op.unary,Op.intArith,xG]
   .cases q
  .cases t
 .cases t
def arp {i:Operand} (t:o.op= .index A s i) (N:P.underlying A=Z .string) (q:dO (.jq s i) e h nx=Z R):gJ P o e.get h.get R.eff:=by
 simp only[dO]at q;split at q
 .rename_i x k j I hi;split at q
  .rename_i h0;simp[c8,bB]at h0;split at q
   .rename_i b D;rw[dh q];refine gJ.reads λφ E h' w a _ hop _=>?_
    have h1:=dJ (hop s _ (by rw[t];simp[Op.operands]) I);have h2:=dJ (hop i _ (by rw[t];simp[Op.operands]) hi);refine ⟨_,?_,.f (.raw _)⟩;have hs:x[j.toNat]? =Z b:=by
     rw[ep]at D;let⟨hl,he⟩:=cW.1 D;exact getElem?_pos x j.toNat hl▸gW Z he
    unfold execOp;rw[t];simp[Instr.index,run_underlying N,h1,h2,asIntOf,h0,hs]
   .cases q
  .cases q
 .cases q
variable {f:FuncId}
def avf {caps:Array Operand} (I:o.op= .makeFunc (.func f) #[] caps) (A:dO (.mkf f caps.toList) e h nx=Z R):gJ P o e.get h.get R.eff:=by
 simp[dO]at A;split at A
 .rename_i l N;rw[dh A];refine gJ.reads λφ E h' w a _ hp _=>?_
  refine ⟨_,by unfold execOp;rw[I];rfl,?_⟩;have key:∀(xs:Y Operand) (q:Y AV),(∀x∈xs,x∈o.op.operands)->evs e xs=Z q->l! q=l! xs/\∀(j:Nat) x v,q[j]? =Z x->(xs.map a.eval)[j]? =Z v->cG φ (tot E φ h') w x v:=by
   intro xs;induction xs with
   |nil=>intro q _ h;simp[evs,af]at h;subst h;exact⟨rfl,λj x v D=>by simp at D⟩
   |cons x xs ih=>
    intro q hm h;simp[evs]at h
    grind
  let⟨h1,h2⟩:=key caps.toList l (λx D=>by rw[I];simpa[Op.operands] using D) N;have h3:(caps.map a.eval)=(caps.toList.map a.eval).toArray:=by grind
  have h4:(#[]:Array Operand).map a.eval=#[]:=by simp
  rw[h4,h3];exact .qv (by grind) h2
 .cases A
end pure
section
variable {P:Program} {o:Oper} {e:wC} {h:ie} {nx:Nat} {R:AS}
def ZW {α:Type} {l cs:Y α} (h:i+m<=l! l) (he:(l.drop i).take m=cs):l! cs=m/\∀(j:Nat) x,cs[j]? =Z x->l[i+j]? =Z x:=by grind
def zW (f:Nat->Value) (n j:Nat) (v:Value) (h:((mI n).map f)[j]? =Z v):v=f j/\j<n:=by grind
def Aq (φ:PM) (O:Nat->Prop) (w:World) (c:BC) (f:Nat->M Value):Prop:=∀j x,c.get j=Z x->x.isCell=J/\∃v,f j=Z v/\cG φ O w x v
def ZV {c:BC} (q:c.sub? i m b=Z y) {f:Nat->M Value} (hc:Aq V O w c f):
 ∃cs:ξ,l! cs=m/\(∀(j:Nat) v,cs[j]? =Z v->f (i+j)=Z v)/\(b=aa->m=1)/\cG V O w y (if b then .agg cs.toArray else cs.getD 0 undef):=by
 cases b with
 |false=>
  simp[BC.sub?]at q;split at q
  .obtain⟨h0,v,h1,h2⟩:=hc i y q;exact⟨[v],rfl,λj u hu=>by cases j with|zero=>simp at hu;subst hu;exact h1|succ j=>simp at hu,λ_=>rfl,by simpa using h2⟩
  .cases q
 |true=>
  have fin:∀(g:Nat->M AV),(∀j,j<m->∃x,g j=Z x/\c.get (i+j)=Z x)->
   ∃cs:ξ,l! cs=m/\(∀(j:Nat) v,cs[j]? =Z v->f (i+j)=Z v)/\∀(j:Nat) x v,g j=Z x->cs[j]? =Z v->cG V O w x v:=by
   intro g D;refine ⟨(mI m).map λj=>(f (i+j)).getD undef,by simp,λj v N=>?_,λj x v I N=>?_⟩
   .obtain⟨rfl,A⟩:=zW _ _ _ _ N;let⟨x,_,h2⟩:=D j A;let⟨_,v,h3,_⟩:=hc _ _ h2;rw[h3];rfl
   .obtain⟨rfl,A⟩:=zW _ _ _ _ N;let⟨x',h1,h2⟩:=D j A;rw[I]at h1;cases h1;let⟨_,v,h3,h4⟩:=hc _ _ h2;rw[h3];exact h4
  simp only[BC.sub?]at q;split at q
  .rename_i l;split at q
   .rename_i hle;simp[af]at q;subst q;let⟨hl,D⟩:=ZW (aX hle) (rfl:(l.drop i).take m=_);let⟨cs,h1,h2,h3⟩:=fin (λj=>(((l.drop i).take m)[j]?).map AV.f) (λj A=>by
     have hlt:j<l! ((l.drop i).take m):=by omega
     refine ⟨.f ((l.drop i).take m)[j],by simp[aL hlt,bS],?_⟩;simp[BC.get,D j _ (aL hlt),bS])
    refine ⟨cs,h1,h2,nofun,.f (.agg _ _ (by omega) ?_ ?_)⟩
    .intro x I;let⟨j,A⟩:=eO I;exact (hc (i+j) (.f x) (by simp[BC.get,D j x A,bS])).1
    .intro j x v I N;have:=h3 j (.f x) v (by grind) N;cases this with
     |f h=>exact h
   .cases q
  .rename_i l;split at q
   .rename_i hle;simp[af]at q;subst q;let⟨hl,D⟩:=ZW (aX hle) (rfl:(l.drop i).take m=_);let⟨cs,h1,h2,h3⟩:=fin (λj=>(((l.drop i).take m)[j]?)) (λj A=>by
     have hlt:j<l! ((l.drop i).take m):=by omega
     exact⟨_,aL hlt,D j _ (aL hlt)⟩)
    refine ⟨cs,h1,h2,nofun,.agg (by omega) ?_ ?_⟩
    .intro x I;let⟨j,A⟩:=eO I;exact (hc (i+j) x (D j x A)).1
    .omega
   .cases q
  .cases q
variable {A:TypeId}
def RW (N:fK P A=Z i) (ha:G9 P A=Z b) (w:World) (q off:Nat) (cs:ξ) (t:l! cs=i) (D:∀(j:Nat) v,cs[j]? =Z v->w.cell? ⟨q,off+j,U⟩=Z v) (h1:b=aa->i=1):
 (loadVar A ⟨q,off,U⟩).run P w= .ok (if b then .agg cs.toArray else cs.getD 0 undef) w:=by
 unfold loadVar;simp[eM,Uz ha w,cM];cases b with
 |true=>
  simp[bJ,eM,f_ N w,cM];rw[<- t,run_loadCells_list (P:=P) w ⟨q,off,U⟩ cs (λj v I=>by rw[iT];exact D j v I)];rfl
 |false=>
  have h1:=h1 rfl;cases cs with
  |nil=>simp at t;omega
  |cons v r=>
   have:=D 0 v rfl;simp_all
def L_ {φ:PM} {q:Bool} (D:fK P A=Z i) (ha:G9 P A=Z q) {c:BC} {b base:Nat} (t:c.sub? m i q=Z y)
 (N:Aq φ O w c λj=>w.cell? ⟨b,base+j,U⟩):∃v,(loadVar A ⟨b,base+m,U⟩).run P w= .ok v w/\cG φ O w y v:=by
 let⟨cs,h1,h2,h3,h4⟩:=ZV t N;exact⟨_,RW D ha w b (base+m) cs h1 (λj v I=>by rw[qW];exact h2 j v I) h3,h4⟩
def Xi (hrep:qE V O S w) (I:S i=Z z) (A:V i=Z m) (D:z.c.isCells=J):Aq V (tot O V S) w z.c λj=>w.cell? ⟨m,0+j,U⟩:=by
 let⟨k',h1,_,h2⟩:=hrep.at_ i z I;rw[A]at h1;cases h1;let⟨arr,h3,h4,N⟩:=h2.cells D;intro j x q;let⟨c1,v,c2,c3⟩:=N j x q;exact⟨c1,v,by simp[Ry,h3,c2],c3⟩
def Zq {cells:Y FV} {I:Nat->Value} (hcl:∀x∈cells,x.isCell=J) (N:∀j,j<l! cells->w.cell? ⟨i,m+j,U⟩=Z (I j)) (hr:∀(j:Nat) x,cells[j]? =Z x->nA O w x (I j)):
 Aq V O w (.fz cells) λj=>w.cell? ⟨i,m+j,U⟩:=by
 intro j y A;simp only[BC.get]at A;cases D:cells[j]? with
 |none=>rw[D]at A;cases A
 |some q=>
  rw[D]at A;simp at A;subst A;have hj:j<l! cells:=(bH.1 D).1;exact⟨hcl q (bn D),I j,N j hj,.f (hr j q D)⟩
def Um {c:BC} (h:c.sub? i m b=Z y):c.isCells=J:=by
 cases c with
 |fz|mx=>rfl
 |_=>cases b<;>simp[BC.sub?,BC.get]at h<;>(try split at h)<;>cases h
def N_ (hs:fK P A=Z i) (hag:G9 P A=Z b) (q:yK h i b y=Z R):
 R.wr=[]/\R.nw=[]/\R.N=[]/\∀(φ:PM) (E:Nat->Prop) (h':HF) (w:World) (D:Value),(∀sz∈R.rd,h' sz=h.get sz)->qE φ E h' w->cG φ (tot E φ h') w y D->
  ∃ad v,D= .pointer (Z ad)/\(loadVar A ad).run P w= .ok v w/\cG φ (tot E φ h') w R.val v:=by
 unfold yK at q;split at q
 .rename_i id off;split at q
  .rename_i ag hb;split at q
   .rename_i v I;simp[af]at q;subst q;refine ⟨rfl,rfl,rfl,λφ E h' w D hrd hrep t=>?_⟩;have hh:h' id=Z ag:=by grind
    cases t with
    |@H _ _ k hφ=>
     let⟨u,h1,h2⟩:=L_ hs hag (w:=w) (b:=k) (base:=0) I (Xi hrep hh hφ (Um I))
     grind
   .cases q
  .cases q
 .rename_i cells off;split at q
  .rename_i v I;rw[dh q];refine ⟨rfl,rfl,rfl,λφ E h' w D hrd hrep t=>?_⟩;cases t with
   |f t=>
    cases t with
    |H _ _ ag base us hO hb hcl hu t=>
     let⟨u,h1,h2⟩:=L_ (φ:=φ) (O:=tot E φ h') hs hag (w:=w) (b:=ag) (base:=base) I (Zq hcl hu t);exact⟨_,u,rfl,h1,h2⟩
  .cases q
 .cases q
variable {s:Operand}
def aru (t:o.op= .load A s) (hs:fK P A=Z i) (hag:G9 P A=Z b) (q:dO (.load i b s) e h nx=Z R):gJ P o e.get h.get R.eff:=by
 simp[dO]at q;split at q
 .rename_i p I;let⟨h1,h2,h3,h4⟩:=N_ hs hag q;let⟨val,rd,wr,nw,N⟩:=R;subst h1 h3;refine gJ.reads λφ E h' w a hrd hp hrep=>?_
  let⟨ad,v,h5,h6,h7⟩:=h4 φ E h' w _ hrd hrep (hp s _ (by rw[t];simp[Op.operands]) I);refine ⟨v,?_,h7⟩;unfold execOp;rw[t];simp[Instr.loadAt,h5,Oz,h6]
 .cases q
variable {E:ξ}
def Z_ {φ:PM} (D:fK P A=Z i) (hag:G9 P A=Z b) {c:BC} (t:c.sub? m i b=Z y) 
 (I:Aq φ O w c λj=>E[j]?):∃v,(part A E.toArray m).run P w= .ok v w/\cG φ O w y v:=by
 let⟨cs,h1,h2,h3,h4⟩:=ZV t I;refine ⟨_,?_,h4⟩;unfold part;simp only[eM,Uz hag w,cM];cases b with
 |true=>
  simp only[bJ,eM,f_ D w,cM];have:E.toArray.extract m (m+i)=cs.toArray:=by
   apply Array.ext';apply List.ext_getElem?
   grind
  rw[this];rfl
 |false=>
  have N:=h3 rfl;cases cs with
  |nil=>simp at h1;omega
  |cons v r=>
   have:=h2 0 v rfl;simp_all
variable {K:Y AV}
def Xj (I:l! E=l! K) (hcl:∀x∈K,x.isCell=J) (D:∀(j:Nat) x v,K[j]? =Z x->E[j]? =Z v->cG V O w x v):Aq V O w (.mx K) λj=>E[j]? :=by
 intro j x q;simp[BC.get]at q;have A:j<l! E:=by grind
 exact⟨hcl x (bn q),E[j],aL A,D j x _ q (aL A)⟩
def TK {l:Y FV} (hl:l! E=l! l) (hcl:∀x∈l,x.isCell=J) (N:∀(j:Nat) x v,l[j]? =Z x->E[j]? =Z v->nA O w x v):Aq V O w (.fz l) λj=>E[j]? :=by
 intro j x A;simp only[BC.get]at A;cases D:l[j]? with
 |none=>rw[D]at A;cases A
 |some q=>
  rw[D]at A;simp at A;subst A;have I:j<l! E:=by grind
  exact⟨hcl q (bn D),E[j],aL I,.f (N j q _ D (aL I))⟩
def N' (N:fK P A=Z i) (hag:G9 P A=Z b) (q:cG V O w y v) {val:AV}
 (t:(∃l,y= .agg l/\(BC.mx l).sub? m i b=Z val)\/(∃l,y= .f (.agg l)/\(BC.fz l).sub? m i b=Z val)):∃cs z,v= .agg cs/\(part A cs m).run P w= .ok z w/\cG V O w val z:=by
 rcases t with ⟨l,rfl,t⟩|⟨l,rfl,t⟩
 .cases q with
  |agg D hcl q=>
   let⟨z,h1,h2⟩:=Z_ N hag t (Xj D hcl q);exact⟨_,z,rfl,h1,h2⟩
 .cases q with
  |f q=>
   cases q with
   |agg _ vs D hcl q=>
    let⟨z,h1,h2⟩:=Z_ (φ:=V) N hag t (TK D hcl q);exact⟨_,z,rfl,h1,h2⟩
def avk {D:Array Field} {f:Field} {x:Operand} (s:o.op= .field A x i) (hu:P.underlying A=Z (.struct D)) (hf:D[i]? =Z f) (hs:fK P f.type=Z m) (hag:G9 P f.type=Z b) (ha:dO (.fld f.offset m b x) e h nx=Z R):gJ P o e.get h.get R.eff:=by
 have fin:∀(y:AV) (val:AV),lZ e x=Z y->((∃l,y= .agg l/\(BC.mx l).sub? f.offset m b=Z val)\/(∃l,y= .f (.agg l)/\(BC.fz l).sub? f.offset m b=Z val))->rv val=Z R->gJ P o e.get h.get R.eff:=by
  intro y val I N hR;rw[dh hR];refine gJ.reads λφ E h' w a _ hp _=>?_
  let⟨cs,v,h1,h2,h3⟩:=N' hs hag (hp x _ (by rw[s];simp[Op.operands]) I) N;refine ⟨v,?_,h3⟩;unfold execOp;rw[s];simp[Instr.field,run_underlying hu,hf,h1,asAgg,h2]
 simp[dO]at ha
 grind
def avi {I:TypeId} {t:Bool} {y:Operand} (D:o.op= .index A s y) (hu:P.underlying A=Z (.array i I)) (N:fK P I=Z m) (hag:G9 P I=Z t) (q:dO (.idx i m t s y) e h nx=Z R):gJ P o e.get h.get R.eff:=by
 simp[dO]at q;split at q
 .rename_i v0 k j hx hy;split at q
  .rename_i hc;simp[c8,gM,ak,bB]at hc;let⟨h0,h1⟩:=hc;have fin:∀(val:AV),((∃l,v0= .agg l/\(BC.mx l).sub? (j.toNat*m) m t=Z val)\/(∃l,v0= .f (.agg l)/\(BC.fz l).sub? (j.toNat*m) m t=Z val))->rv val=Z R->gJ P o e.get h.get R.eff:=by
    intro val hv hR;rw[dh hR];refine gJ.reads λφ E h' w a _ hp _=>?_
    have hyv:=dJ (hp y _ (by rw[D];simp[Op.operands]) hy);let⟨cs,v,h3,h4,h5⟩:=N' N hag (hp s _ (by rw[D];simp[Op.operands]) hx) hv;refine ⟨v,?_,h5⟩;have h6:=f_ N w;unfold execOp;rw[D];simp[Instr.index,run_underlying hu,hyv,asIntOf,h3,h0,h1,h6,h4]
   grind
  .cases q
 .cases q
def arw {el:TypeId} (ho:o.op= .call {callee:=.builtin .len,args:=#[s],argTypes:=#[A]}) (hu:P.underlying A=Z (.slice el)) (D:dO (.len s) e h nx=Z R):gJ P o e.get h.get R.eff:=by
 simp[dO]at D;split at D
 .rename_i y hx;split at D
  .rename_i n I;rw[dh D];refine gJ.reads λφ E h' w a _ hp _=>?_
   have q:=hp s _ (by rw[ho];simp[Op.operands,em]) hx;refine ⟨_,?_,.f (.raw _)⟩;have N:∃t c,a.eval s= .slice t n c:=by
    generalize a.eval s=z at q;unfold AV.slen at I;split at I<;>try (simp [af]at I;subst I)
    .cases q with
     |f q=>cases q with
      |nil|sl=>exact⟨_,_,rfl⟩
    .cases dJ q;exact⟨_,_,rfl⟩
    .cases q;exact⟨_,_,rfl⟩
    .cases q;exact⟨_,_,rfl⟩
    .cases q;exact⟨_,_,rfl⟩
    .cases I
   let⟨t,c,N⟩:=N;unfold execOp;rw[ho];simp[resolve,invoke,builtin,Builtin.len_,run_underlying hu,N,goInt]
  .cases D
 .cases D
def arv (t:o.op= .call {callee:=.builtin .len,args:=#[s],argTypes:=#[A]}) (I:P.underlying A=Z .string) (q:dO (.lens s) e h nx=Z R):gJ P o e.get h.get R.eff:=by
 simp[dO]at q;split at q
 .rename_i x D;rw[dh q];refine gJ.reads λφ E h' w a _ hp _=>?_
  have N:=dJ (hp s _ (by rw[t];simp[Op.operands,em]) D);refine ⟨_,?_,.f (.raw _)⟩;unfold execOp;rw[t];simp[resolve,invoke,builtin,Builtin.len_,run_underlying I,N,goInt]
 .cases q
end
structure KP (w w':World) (k:Nat) (ob:Obj):Prop where
 os:w'.os=w.os
 tape:w'.tape=w.tape
 output:w'.output=w.output
 size:w'.heap.size=w.heap.size
 at_:w'.heap[k]? =Z ob
 other:∀j,j≠k->w'.heap[j]? =w.heap[j]?
 jd:∀j,w'.shape? j=w.shape? j
structure Xv (w w':World) (ob:Obj):Prop where
 os:w'.os=w.os
 tape:w'.tape=w.tape
 output:w'.output=w.output
 size:w'.heap.size=w.heap.size+1
 at_:w'.heap[w.heap.size]? =Z ob
 other:∀j,j<w.heap.size->w'.heap[j]? =w.heap[j]?
def qE.wset {w':World} (r:qE V O S w) {id:Nat} {b':nk} {ob:Obj} (hb:S id=Z z) (D:V id=Z i) (q:KP w w' i ob) (hob:jS V (tot O V S) w b' ob) (A:HF) (hnw:A id=Z b'):
 iv V V S (dX S [id] A) w w'/\qE V O (dX S [id] A) w':=by
 have hdom:∀k,(∃x,dX S [id] A k=Z x)↔∃x,S k=Z x:=λk=>by
  unfold dX
  grind
 have hown:∀j,own V (dX S [id] A) j↔own V S j:=λj=>by
  constructor
  .rintro⟨k,x,h1,h2⟩;let⟨y,hy⟩:=(hdom k).1 ⟨x,h1⟩;exact⟨k,y,hy,h2⟩
  .rintro⟨k,x,h1,h2⟩;let⟨y,hy⟩:=(hdom k).2 ⟨x,h1⟩;exact⟨k,y,hy,h2⟩
 have m:iv V V S (dX S [id] A) w w':=by
  refine ⟨λ_ _ S=>S,⟨q.os,q.tape,q.output,by rw[q.size];exact bi _,λj hj ho=>?_,λj _=>q.jd j⟩,λj _ S=>(hown j).1 S⟩;exact q.other j (λe=>ho (e▸⟨id,z,hb,D⟩))
 refine ⟨m,⟨λk j x y kk hi hj h1 h2=>?_,λk x hi=>?_,λi D=>dg (r.el i D) m.ext.size,λg cells hg=>m.keepF (r.gl g cells hg)⟩⟩
 .obtain⟨x',hx'⟩:=(hdom k).1 ⟨x,hi⟩;let⟨y',N⟩:=(hdom j).1 ⟨y,hj⟩;exact r.inj k j x' y' kk hx' N h1 h2
 .by_cases hid:k=id
  .subst hid;have:x=b':=by unfold dX at hi;simp[hnw]at hi;exact hi.symm
   subst this;let⟨I,h1,h2,_⟩:=r.at_ k z hb;rw[D]at h1;cases h1;exact⟨i,D,h2,ob,q.at_,hob.mono λ_ _ S=>m.qt S⟩
  .have hx:S k=Z x:=by unfold dX at hi;simpa[hid] using hi
   let⟨I,h1,h2,ob',h3,h4⟩:=r.at_ k x hx;have hne:I≠i:=λe=>hid (r.inj k id x z i hx hb (e▸h1) D)
   exact⟨I,h1,h2,ob',by rw[q.other I hne];exact h3,h4.mono λ_ _ S=>m.qt S⟩
def qE.wnew {w':World} (r:qE V O S w) {id:Nat} (hid:V id=U) {b:nk} {ob:Obj} (A:Xv w w' ob) (hob:jS V (tot O V S) w b ob) (del:ι) (D:HF) (hnw:D id=Z b) (hdel:∀i∈del,i≠id->D i=U):
 ∃φ',φ' id=Z w.heap.size/\iv V φ' S (dX S (id::del) D) w w'/\(∀i k,φ' i=Z k->V i=Z k\/i∈[id])/\qE φ' O (dX S (id::del) D) w':=by
 have hsub:∀i x,dX S (id::del) D i=Z x->i≠id->S i=Z x/\i∉del:=λi x hx hi=>by
  unfold dX at hx
  grind
 have hlt:∀i x k,S i=Z x->V i=Z k->k<w.heap.size:=λi x k hi hk=>by
  let⟨k',h1,_,ob',h3,_⟩:=r.at_ i x hi
  grind
 have hφ:∀i,i≠id->(if i=id then Z w.heap.size else V i)=V i:=λi hi=>by simp[hi]
 have m:iv V (λi=>if i=id then Z w.heap.size else V i) S (dX S (id::del) D) w w':=by
  refine ⟨λi k hk=>?_,⟨A.os,A.tape,A.output,by rw[A.size];omega,λj I _=>A.other j I,λj I=>?_⟩,?_⟩
  .grind
  .unfold pU;rw[A.other j I]
  .rintro j I ⟨i,x,h1,h2⟩;by_cases hi:i=id
   .simp[hi]at h2;omega
   .have h3:V i=Z j:=by simpa[hi] using h2
    exact⟨i,x,(hsub i x h1 hi).1,h3⟩
 refine ⟨_,by simp,m,λi k hk=>?_,⟨λi j x y k hi I h1 h2=>?_,λi x hi=>?_,λk hk=>dg (r.el k hk) m.ext.size,λg cells hg=>m.keepF (r.gl g cells hg)⟩⟩
 .grind
 .by_cases q:i=id
  .grind
  .rw[hφ i q]at h1;have hix:=(hsub i x hi q).1;by_cases N:j=id
   .grind
   .rw[hφ j N]at h2;exact r.inj i j x y k hix (hsub j y I N).1 h1 h2
 .by_cases q:i=id
  .subst q;have:x=b:=by unfold dX at hi;simp[hnw]at hi;exact hi.symm
   subst this;refine ⟨w.heap.size,by simp,λhe=>?_,ob,A.at_,hob.mono λ_ _ S=>m.qt S⟩;have:=r.el _ he;omega
  .obtain⟨k,h1,h2,ob',h3,h4⟩:=r.at_ i x (hsub i x hi q).1;refine ⟨k,by rw[hφ i q];exact h1,h2,ob',?_,h4.mono λ_ _ S=>m.qt S⟩;rw[A.other k (hlt i x k (hsub i x hi q).1 h1)];exact h3
def sN (w:World) (ob:Obj):Xv w {w with heap:=w.heap.push ob} ob:=by
 refine ⟨rfl,rfl,rfl,by simp,by simp,λj q=>?_⟩
 grind
def Xv.drawn {w':World} {ob:Obj} (d:Nat) (h:Xv {w with drawn:=d} w' ob):Xv w w' ob:=⟨h.os,h.tape,h.output,h.size,h.at_,h.other⟩
def gJ.makes {e:wC} {rd:ι} 
 (I:∀(φ:PM) (E:Nat->Prop) (h':HF) (w:World) (a:Act),(∀nx∈rd,h' nx=S nx)->Uf φ E h' w a e j->qE φ E h' w->
   ∃v w' ob,(execOp a.eval j).run P w= .ok (.value v) w'/\Xv w w' ob/\jS φ (tot E φ h') w z ob/\∀φ' O,φ' i=Z w.heap.size->cG φ' O w' y v):
 gJ P j e.get S ⟨y,rd,[i],je [(i,z)],[i]⟩:=by
 intro φ E h' w a h1 h2 h3 h4 N;let⟨v,w',ob,hrun,D,hob,hval⟩:=I φ E h' w a h1 (λx val A q=>rY h4 h3 A q) h4;let⟨φ',g1,g2,g3,g4⟩:=h4.wnew (id:=i) (N i (by simp)) D hob [] (je [(i,z)]) (by simp[je]) (by simp);unfold K2;rw[hrun];exact⟨v,φ',rfl,g2,g3,g4,hval φ' _ g1⟩
def gJ.writes {e:wC} {rd:ι} {b':nk} (hb:S i=Z z)
 (hv:∀(φ:PM) (E:Nat->Prop) (h':HF) (w:World) (a:Act),(∀id∈rd,h' id=S id)->h' i=Z z->Uf φ E h' w a e j->qE φ E h' w->
   ∃r w' k ob,(execOp a.eval j).run P w= .ok r w'/\φ i=Z k/\KP w w' k ob/\jS φ (tot E φ h') w b' ob/\(∃v,(r= .value v\/r= .skip/\v=undef)/\cG φ (tot E φ (dX h' [i] (je [(i,b')]))) w' y v)):
 gJ P j e.get S ⟨y,rd,[i],je [(i,b')],[]⟩:=by
 intro φ E h' w a h1 h2 h3 h4 h5;let⟨r,w',k,ob,hrun,hk,N,hob,v,hr,hval⟩:=hv φ E h' w a h1 (by grind) (λx val I D=>rY h4 h3 I D) h4;let⟨A,q⟩:=h4.wset (id:=i) (by rw[h2 i (by simp)];exact hb) hk N hob (je [(i,b')]) (by simp[je]);unfold K2;rw[hrun];rcases hr with rfl|⟨rfl,rfl⟩
 .exact⟨v,φ,rfl,A,λ_ _ S=>.inl S,q,hval⟩
 .exact⟨undef,φ,rfl,A,λ_ _ S=>.inl S,q,hval⟩
variable {K:Y AV}
def mE (h:h_ K=J):∀x∈K,x.isCell=J:=by
 induction K with
 |nil=>intro x q;cases q
 |cons y K A=>
  simp[h_,ak]at h
  grind
def ta:∀{l:Y AV} {q:Y FV},Al l=Z q->l=q.map .f
 |[],q,h=>by simp[Al,af]at h;subst h;rfl
 |.f x::r,q,h=>by
  simp[Al]at h;split at h
  next l A=>simp[af]at h;subst h;rw[ta A];rfl
  .cases h
 |.H _ _::_,_,h|.sl _ _ _::_,_,h|.G _ _ _::_,_,h|.mp _::_,_,h|.emp::_,_,h|.agg _::_,_,h|.qp _::_,_,h|.qv _ _::_,_,h=>by simp[Al]at h
def Cs (φ:PM) (O:Nat->Prop) (w:World) (l:Y AV) (vs:ξ):Prop:=l! vs=l! l/\(∀x∈l,x.isCell=J)/\∀(j:Nat) x v,l[j]? =Z x->vs[j]? =Z v->cG φ O w x v
def BC.get_toMx {c:BC} (q:c.isCells=J) (j:Nat):c.get j=c.toMx[j]? :=by
 cases c with
 |fz l=>simp[BC.get,BC.toMx]
 |mx l=>rfl
 |_=>cases q
def BC.len_toMx {c:BC} (q:c.isCells=J):c.len=l! c.toMx:=by
 cases c with
 |fz l=>simp[BC.len,BC.toMx]
 |mx l=>rfl
 |_=>cases q
def o6 (l:Y AV):(pq l).toMx=l/\(pq l).isCells=J:=by
 unfold pq;cases h:Al l with
 |none=>exact⟨rfl,rfl⟩
 |some q=>exact⟨(ta h).symm,rfl⟩
variable {A:TypeId}
def tN {c:BC} (q:c.isCells=J) {arr:Array Value} (I:l! c.toMx<=arr.size)
 (h:∀(j:Nat) x,c.toMx[j]? =Z x->x.isCell=J/\∃v,arr[j]? =Z v/\cG V O w x v):jS V O w ⟨A,c⟩ (.cells arr A (0,0)):=by
 have h2:xi V O w c arr:=⟨by rw[BC.len_toMx q];exact I,λj x D=>h j x (by rw[<- BC.get_toMx q];exact D)⟩
 cases ty:c with
 |fz l|mx l=>rw[ty]at h2;exact⟨arr,rfl,h2⟩
 |_=>rw[ty]at q;cases q
variable {E:ξ}
def LW {ty:TypeId} (h:Cs V O w K E):jS V O w ⟨ty,pq K⟩ (.cells E.toArray ty (0,0)):=by
 let⟨h1,h2⟩:=o6 K;refine tN h2 (by rw[h1];simp[h.1]) λj x q=>?_
 rw[h1]at q;have A:j<l! E:=by rw[h.1];exact (bH.1 q).1
 exact⟨h.2.1 x (bn q),E[j],by simp[A],h.2.2 j x _ q (aL A)⟩
def YW (h:cG V O w y v) (D:h_ y.cs=J):Cs V O w y.cs v.cells.toList:=by
 have one:y.cs=[y]->v.cells=#[v]->Cs V O w y.cs v.cells.toList:=λh1 h2=>by
  rw[h1]at D ⊢;rw[h2];exact⟨rfl,mE D,λj x u A I=>by cases j with|zero=>simp at A I;subst A I;exact h|succ j=>simp at A⟩
 cases h with
 |qc _|qp _ _=>exact bc D (by simp[AV.cs,h_,AV.isCell])
 |@agg l vs hl hcl N=>exact⟨hl,hcl,N⟩
 |@f x u hf=>
  cases hf with
  |raw v=>
   have hv:v.oneCell'=J:=by
    have:(AV.f (.raw v)).cs=[.f (.raw v)]:=rfl;rw[this]at D;simpa[h_,AV.isCell,FV.isCell] using D
   refine one rfl ?_;cases v<;>first|rfl|simp[Value.oneCell']at hv
  |agg l vs hl hcl N=>
   refine ⟨by simp[AV.cs,Value.cells,hl],mE D,λj x u A I=>?_⟩;simp only[AV.cs,bL]at A;cases hq:l[j]? with
   |none=>rw[hq]at A;cases A
   |some q=>rw[hq]at A;simp at A;subst A;exact .f (N j q u hq (by simpa[Value.cells] using I))
  |_=>exact one rfl rfl
 |_=>exact one rfl rfl
def nA.one {x:FV} (h:nA O w x v) (q:x.isCell=J):v.oneCell'=J:=by
 cases h with
 |raw v=>exact q
 |agg=>cases q
 |_=>rfl
def cG.one (h:cG V O w y v) (q:y.isCell=J):v.oneCell'=J:=by
 cases h with
 |f h=>exact h.one q
 |qc|agg|qp=>cases q
 |_=>rfl
def Cs.one (h:Cs V O w K E):∀v∈E,v.oneCell'=J:=by
 intro v A;let⟨j,q⟩:=eO A;have hlt:j<l! K:=by rw[<- h.1];exact (bH.1 q).1
 exact (h.2.2 j _ v (aL hlt) q).one (h.2.1 _ (List.getElem_mem hlt))
def Cs.append {I:Y AV} {vs':ξ} (h:Cs V O w K E) (h':Cs V O w I vs'):Cs V O w (K++I) (E++vs'):=by
 refine ⟨by simp[h.1,h'.1],λx q=>(bt.1 q).elim (h.2.1 x) (h'.2.1 x),λj x v q D=>?_⟩;rcases bF j (l! K) with A|A
 .rw[cU A]at q;rw[cU (by rw[h.1];exact A)]at D;exact h.2.2 j x v q D
 .rw[cB A]at q;rw[cB (by rw[h.1];exact A),h.1]at D;exact h'.2.2 _ x v q D
def Cs.take (h:Cs V O w K E) (n:Nat):Cs V O w (K.take n) (E.take n):=by
 refine ⟨by simp[h.1],λx q=>h.2.1 x (dV q),λj x v q A=>?_⟩;rw[dG]at q A;split at q
 next D=>rw[aK D]at A;exact h.2.2 j x v q A
 .cases q
def Cs.drop (h:Cs V O w K E) (n:Nat):Cs V O w (K.drop n) (E.drop n):=by
 refine ⟨by simp[h.1],λx q=>h.2.1 x (pW q),λj x v q A=>?_⟩;rw[iz]at q A;exact h.2.2 _ x v q A
def Cs.splice {q:Y AV} {vs':ξ} (h:Cs V O w K E) (h':Cs V O w q vs') (off:Nat):Cs V O w (splice K off q) (splice E off vs'):=by
 unfold AI.splice;rw[h'.1];exact ((h.take off).append h').append (h.drop _)
def Cs.raws {φ:PM} (z:ξ) (D:nO z=J):Cs φ O w (z.map raw) z:=by
 refine ⟨by simp,λx q=>?_,λj x v q A=>?_⟩
 .obtain⟨v,A,rfl⟩:=cv.1 q;exact cQ.1 D v A
 .rw[bL]at q;rw[A]at q;simp at q;subst q;exact .f (.raw v)
def Cs.mono {φ':PM} {O':Nat->Prop} {w':World} (h:Cs V O w K E) (D:∀x v,cG V O w x v->cG φ' O' w' x v):Cs φ' O' w' K E:=⟨h.1,h.2.1,λj x v q A=>D _ _ (h.2.2 j x v q A)⟩
def KP.setRow {arr arr':Array Value} (ty:w.heap[i]? =Z (.cells arr A (0,0))) (D:arr'.size=arr.size):KP w (w.setRow i arr') i (.cells arr' A (0,0)):=by
 refine ⟨rfl,rfl,rfl,by simp,setRow_heap w i arr arr' A (0,0) ty,λj q=>setRow_other w i j arr' q,λj=>?_⟩;unfold pU;by_cases q:j=i
 .subst q;rw[setRow_heap w j arr arr' A (0,0) ty,ty];simp[D]
 .rw[setRow_other w i j arr' q]
section
variable {P:Program} {o:Oper} {e:wC} {h:ie} {nx:Nat} {R:AS}
def vj (q:uN P A=Z E) (w:World):∃v,(zeroValue A).run P w= .ok v w/\v.cells.toList=E/\∃i,P.info? A=Z i/\i.zero=Z v:=by
 unfold uN at q;cases hi:P.info? A with
 |none=>rw[hi]at q;cases q
 |some i=>
  rw[hi]at q;simp only[aH]at q;cases t:i.zero with
  |none=>rw[t]at q;cases q
  |some v=>
   rw[t]at q;simp[bS,af]at q;exact⟨v,by simp[zeroValue,typeInfo,hi,t],q,i,rfl,t⟩
def anm (N:o.op= .alloc A) (I:uN P A=Z E) (hc:nO E=J) (D:dO (.alloc A E) e h nx=Z R):gJ P o e.get h.get R.eff:=by
 simp[dO,af]at D;subst D;refine gJ.makes λφ z h' w a _ _ _=>?_
 let⟨v,h1,h2,_⟩:=vj I w;refine ⟨.pointer (Z ⟨w.heap.size,0,U⟩),{w with heap:=w.heap.push (.cells v.cells A)},.cells v.cells A (0,0),?_,sN w _,?_,λφ' O hφ=>.H hφ⟩
 .unfold execOp;rw[N];simp[Instr.alloc,h1,newVar,newRow,newObj,rA]
 .have q:BC.toMx (.fz (E.map .raw))=E.map raw:=by simp[BC.toMx,raw]
  refine tN rfl (by grind) λj x t=>?_
  rw[q]at t;have cs:=Cs.raws (φ:=φ) (O:=tot z φ h') (w:=w) E hc;have hj:j<l! E:=by grind
  refine ⟨cs.2.1 x (bn t),E[j],?_,cs.2.2 j x _ t (aL hj)⟩
  grind
variable {s:Operand}
def avq (t:o.op= .box A s) (q:dO (.box A s) e h nx=Z R):gJ P o e.get h.get R.eff:=by
 simp[dO]at q;split at q
 .rename_i v D;split at q
  .rename_i N;simp[af]at q;subst q;refine gJ.makes λφ E h' w a _ hp _=>?_
   have I:=YW (hp s _ (by rw[t];simp[Op.operands]) D) N;refine ⟨.pointer (Z ⟨w.heap.size,0,U⟩),{w with heap:=w.heap.push (.cells (a.eval s).cells A)},.cells (a.eval s).cells A (0,0),?_,sN w _,?_,λφ' O hφ=>.H hφ⟩
   .unfold execOp;rw[t];simp[Instr.box,newVar,newRow,newObj,rA]
   .have:=LW (ty:=A) I;simpa using this
  .cases q
 .cases q
def sO {α:Type} {l vs:Y α} {off:Nat} (hle:off+l! vs<=l! l) (j:Nat):(splice l off vs)[j]? =if j<off then l[j]? else if j<off+l! vs then vs[j-off]? else l[j]? :=by
 unfold splice
 grind
def tp {α:Type} {l vs:Y α} (hle:i+l! vs<=l! l):l! (splice l i vs)=l! l:=by
 unfold splice;simp;omega
def VQ (off:Nat):∀(vs:ξ) (k:Nat) (arr:Array Value),off+k+l! vs<=arr.size->∀j:Nat,
 ((vs.zipIdx k).foldl (λcs (p:Value×Nat)=>cs.setIfInBounds (off+p.2) p.1) arr)[j]? =if j<off+k then arr[j]? else if j<off+k+l! vs then vs[j-(off+k)]? else arr[j]?
 |[],k,arr,_,j=>by simp_all
 |v::vs,k,arr,hle,j=>by
  rw[List.zipIdx_cons,dz,VQ off vs (k+1) _ (by grind) j]
  grind
def VP (off:Nat) (c:Array Value) (l:ξ) (hle:off+c.size<=l! l):(c.zipIdx.foldl (λcs (p:Value×Nat)=>cs.setIfInBounds (off+p.2) p.1) l.toArray)=(splice l off c.toList).toArray:=by
 rw[<- Array.foldl_toList,Array.toList_zipIdx];apply Array.ext_getElem?;intro j;rw[VQ off c.toList 0 l.toArray (by omega) j];simp only[dL,D7];rw[sO (by omega)]
def Tb (hp:Uf V O S w N e o) {place:Nat->M j?}:∀(q:Y n?) (ps':Y J!) (cells cs:Y AV) (vs:ξ),
 (l! ps'=l! q)->(∀(j:Nat) i x,q[j]? =Z (i,x)->∃of sz,ps'[j]? =Z (of,sz,x)/\place i=Z (of,sz))->(∀p∈q,p.2∈o.op.operands)->Cs V (tot O V S) w cells vs->BX cells e ps'=Z cs->
 ∃vs',Instr.fill place vs.toArray (q.map λp=>(p.1,N.eval p.2))=Z vs'.toArray/\Cs V (tot O V S) w cs vs'
 |[],ps',cells,cs,vs,a,_,_,hcs,hf=>by
  cases ps' with
  |nil=>simp[BX,af]at hf;subst hf;exact⟨vs,rfl,hcs⟩
  |cons _ _=>simp at a
 |(i,x)::q,ps',cells,cs,vs,a,hpl,hm,hcs,hf=>by
  obtain⟨of,sz,h1,h2⟩:=hpl 0 i x rfl;cases ps' with
  |nil=>simp at h1
  |cons p ps'=>
   simp at h1;subst h1;simp only[BX]at hf;split at hf
   .rename_i v hv;split at hf
    .rename_i hc;simp only[ak,du]at hc;obtain⟨⟨hc1,D⟩,A⟩:=hc;have I:=YW (hp x v (hm _ (cj ..)) hv) A;have hsz:(N.eval x).cells.size=sz:=by have:=I.1;simp at this;omega
     have hle:of+sz<=l! vs:=by rw[hcs.1];exact aX D
     obtain⟨vs',g1,g2⟩:=Tb hp q ps' _ cs _ (by grind) (λj i x hj=>by have:=hpl (j+1) i x (by grind);simpa using this) (λp hp=>hm p (bP _ hp)) (hcs.splice I of) hf;refine ⟨vs',?_,g2⟩;simp only[eg,Instr.fill,h2];have hcd:((decide ((N.eval x).cells.size≠sz))||decide (of+(N.eval x).cells.size>vs.toArray.size))=aa:=by grind
     rw[ay (by grind)];have:=VP of (N.eval x).cells vs (by omega);rw[<- g1,<-this]
    .cases hf
   .cases hf
def Hy :∀(q:Y n?) (ps':Y J!),zB P A q=Z ps'->l! ps'=l! q/\∀(j:Nat) i x,q[j]? =Z (i,x)->∃of sz,ps'[j]? =Z (of,sz,x)/\Eb P A i=Z (of,sz)
 |[],ps',h=>by simp[zB,af]at h;subst h;exact⟨rfl,λj i x N=>by simp at N⟩
 |(i,x)::q,ps',h=>by
  simp[zB]at h;split at h
  .rename_i of sz l h1 h2;simp[af]at h;subst h;let⟨g1,g2⟩:=Hy q l h2;refine ⟨by simp[g1],λj I D t=>?_⟩;cases j with
   |zero=>simp at t;obtain⟨rfl,rfl⟩:=t;exact⟨of,sz,rfl,h1⟩
   |succ j=>simpa using g2 j I D (by grind)
  .cases h
def L1 (w:World):∀(q:Y Field),(q.all λf=>(fK P f.type).isSome)=J->(q.mapM (λf=>do pure (f.offset,<-sizeOf f.type)):Sem (Y j?)).run P w= .ok (q.map λf=>(f.offset,(fK P f.type).getD 0)) w
 |[],_=>by simp
 |f::q,h=>by
  simp only[List.all_cons,ak]at h;let⟨sz,A⟩:=jT.1 h.1;have h1:=f_ A w;have D:=L1 w q h.2;simp_all
variable {d:Y (Nat×Nat×Operand)}
def ac0 {D:Array n?} (ho:o.op= .build A D) (hz:uN P A=Z E) (hc:nO E=J) (hps:zB P A D.toList=Z d)
 (t:(∃q,P.underlying A=Z (.struct q)/\(q.toList.all λf=>(fK P f.type).isSome)=J)\/∃n el sz,P.underlying A=Z (.array n el)/\fK P el=Z sz) (N:dO (.build E d) e h nx=Z R):gJ P o e.get h.get R.eff:=by
 simp[dO]at N;split at N
 .rename_i cs hf;rw[dh N];refine gJ.reads λφ z h' w a _ hp _=>?_
  let⟨v,h1,h2,_⟩:=vj hz w;have hcells:v.cells=E.toArray:=by rw[<- h2]
  let⟨g1,g2⟩:=Hy D.toList d hps;have hops:∀p∈D.toList,p.2∈o.op.operands:=λp hp=>by
   rw[ho];simp only[Op.operands,List.mem_toArray,cv];exact⟨p,hp,rfl⟩
  have hmap:(D.map λx:Nat×Operand=>(x.1,a.eval x.2)).toList=D.toList.map λp=>(p.1,a.eval p.2):=by simp
  have fin:∀place:Nat->M j?,(∀i,Eb P A i≠U->place i=Eb P A i)->∃vs':ξ,Instr.fill place v.cells (D.map λx:Nat×Operand=>(x.1,a.eval x.2)).toList=Z vs'.toArray/\cG φ (tot z φ h') w (Qu cs) (.agg vs'.toArray):=by
   intro place hpl;let⟨vs',k1,k2⟩:=Tb (place:=place) hp D.toList d _ cs E g1 (λj i x hj=>by
    let⟨of,sz,q1,q2⟩:=g2 j i x hj;exact⟨of,sz,q1,by rw[hpl i (by grind),q2]⟩) hops (Cs.raws E hc) hf
   refine ⟨vs',by rw[hmap,hcells];exact k1,?_⟩;unfold Qu;cases hfs:Al cs with
   |none=>exact .agg k2.1 k2.2.1 k2.2.2
   |some q=>
    have he:=ta hfs;refine .f (.agg q vs' (by rw[k2.1,he];simp) (λx hx=>k2.2.1 (.f x) (by grind)) λj x u hx t=>?_);have:=k2.2.2 j (.f x) u (by grind) t;cases this with
    |f h=>exact h
  rcases t with ⟨q,t,hall⟩|⟨n,el,sz,t,I⟩
  .obtain⟨vs',k1,k2⟩:=fin (λi=>(q.map λf=>(f.offset,(fK P f.type).getD 0))[i]?) (λi hi=>by
    unfold Eb at hi ⊢;rw[t]at hi ⊢;simp[Array.getElem?_map]at hi ⊢;cases hf:q[i]? with
    |none=>rw[hf]at hi;simp at hi
    |some f=>
     simp[bS,aH];cases I:fK P f.type with
     |none=>rw[hf]at hi;simp[I]at hi
     |some sz=>simp)
   refine ⟨_,?_,k2⟩;have hm:=L1 w q.toList hall;have hm':(q.mapM (λf=>do pure (f.offset,<-sizeOf f.type)):Sem (Array j?)).run P w= .ok (q.map λf=>(f.offset,(fK P f.type).getD 0)) w:=by
    rw[P5];simp only[Sem.run_map,hm,cM];congr 1;apply Array.ext';simp
   unfold execOp;rw[ho];simp only[Instr.build,eM,h1,cM,run_underlying t,hm',nB,k1]
  .obtain⟨vs',k1,k2⟩:=fin (λi=>Z (i*sz,sz)) (λi hi=>by
    unfold Eb;rw[t];simp[I])
   refine ⟨_,?_,k2⟩;have h3:=f_ I w;unfold execOp;rw[ho];simp only[Instr.build,eM,h1,cM,run_underlying t,h3,nB,k1]
 .cases N
end
section
variable {P:Program} {o:Oper} {e:wC} {h:ie} {nx:Nat} {R:AS}
def yi {q:TypeId} (h:Jc P A=Z q):P.underlying A=Z (.slice q):=by
 unfold Jc at h
 grind
def nY (z:ξ):∀n,l! (repl z n)=n*l! z
 |0=>by simp[repl]
 |n+1=>by simp[repl,nY z n,nC];omega
def Fm (z:ξ):∀(n j:Nat),j<n*l! z->(repl z n)[j]? =(z[j%l! z]?).map .raw
 |0,j,h=>by simp at h
 |n+1,j,h=>by
  have A:0<l! z:=by grind
  rw[repl];rcases bF j (l! z) with q|q
  .rw[cU (by grind),bL,lF q]
  .rw[cB (by grind),bj,Fm z n (j-l! z) (by grind),Nat.mod_eq_sub_mod q]
def ac8 (A:v.cells.toList=E) (n sz:Nat) (D:l! E=sz) (hsz:sz≠0) (j:Nat) (I:j<n*sz):
 ((Hg (n*sz)).map (λi=>v.cells[i%v.cells.size]!))[j]? =E[j%sz]? :=by
 have q:v.cells.size=sz:=by grind
 have hlt:j%sz<v.cells.size:=by rw[q];exact Nat.mod_lt _ (by omega)
 grind
def Cs.repl {φ:PM} (N:v.cells.toList=E) (n sz:Nat) (I:l! E=sz) (hsz:sz≠0) (hc:nO E=J):
 Cs φ O w ((repl E n).map .f) ((Hg (n*sz)).map (λi=>v.cells[i%v.cells.size]!)).toList:=by
 have key:∀(j:Nat) (x:AV),((AI.repl E n).map AV.f)[j]? =Z x->∃u,E[j%sz]? =Z u/\x=raw u/\j<n*sz:=by
  intro j x q;rw[bL]at q;have A:j<n*l! E:=by
   rcases bF j (n*l! E) with h|h
   .exact h
   .rw[jG (by rw[nY];exact h)]at q;cases q
  rw[Fm E n j A,I]at q;cases D:E[j%sz]? with
  |none=>rw[D]at q;cases q
  |some u=>rw[D]at q;simp at q;exact⟨u,rfl,q.symm,by rw[<- I];exact A⟩
 refine ⟨by simp[nY,I],λx q=>?_,λj x u q D=>?_⟩
 .obtain⟨j,A⟩:=eO q;obtain⟨u,h1,rfl,_⟩:=key j x A;exact cQ.1 hc u (bn h1)
 .obtain⟨u',h1,rfl,A⟩:=key j x q;rw[ep,ac8 N n sz I hsz j A,h1]at D;cases D;exact .f (.raw _)
variable {d:Y (Nat×Nat×Operand)}
def avp {t:TypeId} {q:Array n?} (ho:o.op= .buildSlice t i q) (hu:P.underlying t=Z (.slice A)) (hz:uN P A=Z E) (hs:fK P A=Z m) (hc:nO E=J) (hl:l! E=m) (hsz:m≠0) (hb:i*m<=65536)
 (hps:zB P t q.toList=Z d) (D:dO (.jt A m i E d) e h nx=Z R):gJ P o e.get h.get R.eff:=by
 simp[dO]at D;split at D
 .rename_i cs hf;simp[af]at D;subst D;refine gJ.makes λφ z h' w a _ hp _=>?_
  let⟨v,h1,h2,_⟩:=vj hz w;let⟨g1,g2⟩:=Hy q.toList d hps;have hops:∀p∈q.toList,p.2∈o.op.operands:=λp hp=>by
   rw[ho];simp only[Op.operands,List.mem_toArray,cv];exact⟨p,hp,rfl⟩
  have hmap:(q.map λx:Nat×Operand=>(x.1,a.eval x.2)).toList=q.toList.map λp=>(p.1,a.eval p.2):=by simp
  let⟨vs',k1,k2⟩:=Tb (place:=λn=>Z (n*m,m)) hp q.toList d _ cs _ g1 (λj n x hj=>by
   let⟨of,s',q1,q2⟩:=g2 j n x hj;unfold Eb at q2;rw[hu]at q2;simp[hs]at q2;obtain⟨rfl,rfl⟩:=q2;exact⟨_,_,q1,rfl⟩) hops (Cs.repl h2 i m hl hsz hc) hf
  have hcells:(Hg (i*m)).map ((if i*m=0 then #[] else v.cells)[·%(if i*m=0 then #[] else v.cells).size]!)=((Hg (i*m)).map (λn=>v.cells[n%v.cells.size]!)).toList.toArray:=by grind
  have hlen:l! vs'=i*m:=by
   have e1:=k2.1;have e2:l! cs=l! ((AI.repl E i).map AV.f):=by
    have:∀(d:Y J!) (c0 N:Y AV),BX c0 e d=Z N->l! N=l! c0:=by
     intro d;induction d with
     |nil=>intro c0 N h;simp[BX,af]at h;rw[h]
     |cons p d ih=>
      intro c0 N h;simp[BX]at h;split at h
      .split at h
       next hcc=>rw[ih _ _ h,tp (by simp_all)]
       .cases h
      .cases h
    exact this d _ _ hf
   rw[e1,e2];simp[nY,hl]
  refine ⟨.slice (Z ⟨w.heap.size,0,U⟩) i i,{w with heap:=w.heap.push (.cells vs'.toArray A)},.cells vs'.toArray A (0,0),?_,sN w _,LW k2,λφ' O hφ=>?_⟩
  .have h3:=f_ hs w;have I:Instr.fill (λn=>Z (n*m,m)) ((Hg (i*m)).map ((if i*m=0 then #[] else v.cells)[·%(if i*m=0 then #[] else v.cells).size]!)) (q.map λx:Nat×Operand=>(x.1,a.eval x.2)).toList=Z vs'.toArray:=by grind
   unfold execOp;rw[ho];simp only[Instr.buildSlice,eM,run_underlying hu,cM,h3];rw[ay (by omega)];by_cases h0:i*m=0
   .simp only[aK h0]at I ⊢;simp only[eM,nB,cM,I,newRow,newObj,rA]
   .simp only[ay h0]at I ⊢;simp only[eM,nB,cM,h1,I,newRow,newObj,rA]
  .simp only[];split
   next h0=>subst h0;exact .emp
   refine .G hφ (bi _) ?_ ⟨A,?_⟩
   .have:i<=i*m:=Nat.le_mul_of_pos_right _ (by omega);unfold maxLen;omega
   .unfold pU;simp[hlen]
 .cases D
end
def qE.wren {w':World} (r:qE V O S w) {k:Nat} {b':nk} {ob:Obj} (hb:S i=Z z) (I:V i=Z k) (hnx:V m=U) (D:KP w w' k ob) (hob:jS V (tot O V S) w b' ob) (N:HF) (hnw:N m=Z b') (hnid:N i=U):
 ∃φ',φ' m=Z k/\iv V φ' S (dX S [m,i] N) w w'/\(∀id k,φ' id=Z k->V id=Z k\/id∈[m])/\qE φ' O (dX S [m,i] N) w':=by
 have hne:m≠i:=λe=>by grind
 have hsub:∀id x,dX S [m,i] N id=Z x->id≠m->S id=Z x/\id≠i:=λid x hx hi=>by
  unfold dX at hx
  grind
 have hφ:∀id,id≠m->(if id=m then Z k else V id)=V id:=λid hi=>by simp[hi]
 have nx:iv V (λid=>if id=m then Z k else V id) S (dX S [m,i] N) w w':=by
  refine ⟨λid k' hk'=>?_,⟨D.os,D.tape,D.output,by rw[D.size];exact bi _,λj hj ho=>?_,λj _=>D.jd j⟩,?_⟩
  .grind
  .exact D.other j (λe=>ho (e▸⟨i,z,hb,I⟩))
  .rintro j hj ⟨id,x,h1,h2⟩;by_cases hi:id=m
   .simp[hi]at h2;subst h2;exact⟨i,z,hb,I⟩
   .have h3:V id=Z j:=by simpa[hi] using h2
    exact⟨id,x,(hsub id x h1 hi).1,h3⟩
 refine ⟨_,by simp,nx,λid k' hk'=>?_,⟨λid j x y kk hi hj h1 h2=>?_,λid x hi=>?_,λk I=>dg (r.el k I) nx.ext.size,λg cells hg=>nx.keepF (r.gl g cells hg)⟩⟩
 .grind
 .by_cases q:id=m
  .by_cases A:j=m
   .rw[q,A]
   .exfalso;rw[hφ j A]at h2;simp[q]at h1;subst h1;let⟨q1,q2⟩:=hsub j y hj A;exact q2 (r.inj j i y z k q1 hb h2 I)
  .rw[hφ id q]at h1;let⟨p1,p2⟩:=hsub id x hi q;by_cases A:j=m
   .exfalso;simp[A]at h2;subst h2;exact p2 (r.inj id i x z k p1 hb h1 I)
   .rw[hφ j A]at h2;exact r.inj id j x y kk p1 (hsub j y hj A).1 h1 h2
 .by_cases q:id=m
  .subst q;have:x=b':=by unfold dX at hi;simp[hnw]at hi;exact hi.symm
   subst this;let⟨k',h1,h2,_⟩:=r.at_ i z hb;rw[I]at h1;cases h1;exact⟨k,by simp,h2,ob,D.at_,hob.mono λ_ _ S=>nx.qt S⟩
  .obtain⟨p1,p2⟩:=hsub id x hi q;let⟨k',h1,h2,ob',h3,h4⟩:=r.at_ id x p1;have hne':k'≠k:=λe=>p2 (r.inj id i x z k p1 hb (e▸h1) I)
   exact⟨k',by rw[hφ id q];exact h1,h2,ob',by rw[D.other k' hne'];exact h3,h4.mono λ_ _ S=>nx.qt S⟩
def qE.cs (hrep:qE V O S w) (hb:S i=Z z) (I:V i=Z m) (q:z.c.isCells=J):
 ∃arr,w.heap[m]? =Z (.cells arr z.ty (0,0))/\Cs V (tot O V S) w z.c.toMx (arr.toList.take (l! z.c.toMx))/\l! z.c.toMx<=arr.size:=by
 let⟨k',h1,_,h2⟩:=hrep.at_ i z hb;rw[I]at h1;cases h1;let⟨arr,h3,h4,D⟩:=h2.cells q;rw[BC.len_toMx q]at h4;refine ⟨arr,h3,⟨by simp;omega,λx A=>?_,λj x v A hv=>?_⟩,h4⟩
 .obtain⟨j,N⟩:=eO A;exact (D j x (by rw[BC.get_toMx q];exact N)).1
 .obtain⟨_,u,h6,h7⟩:=D j x (by rw[BC.get_toMx q];exact A)
  grind
section
variable {P:Program} {o:Oper} {e:wC} {h:ie} {nx:Nat} {R:AS}
def Rh (q:Iu P A=Z i):∃b,P.info? A=Z b/\b.bytes=i:=by
 unfold Iu at q;cases hi:P.info? A with
 |none=>rw[hi]at q;cases q
 |some b=>rw[hi]at q;simp at q;exact⟨b,rfl,q⟩
def Fl (h:bh i m=J):i<=1099511627776/\i*m<=1099511627776:=by
 simp[bh,ak]at h;simp_all
variable {a:Int}
def af9 (h1: -9223372036854775808<=a) (h2:a<=9223372036854775807):jW .i64 a=a:=by
 rw[<- xG];have:(c8 (-9223372036854775808) a&&c8 a 9223372036854775807)=J:=by simp[c8,h1,h2]
 simp[E_,P',this,bJ]
variable {s:Operand}
def art {q:TypeId} {c:Operand} (ho:o.op= .makeSlice A s c) (hu:P.underlying A=Z (.slice q)) (hz:uN P q=Z E) (hs:fK P q=Z i) (hb:Iu P q=Z m) (hc:nO E=J) (hl:l! E=i) (hsz:i≠0)
 (t:dO (.zk q i m E s c) e h nx=Z R):gJ P o e.get h.get R.eff:=by
 simp only[dO]at t;split at t
 .rename_i k1 n k2 bytes D hy;split at t
  .rename_i hcd;simp only[c8,ak,bB]at hcd;let⟨⟨h0,h1⟩,h2⟩:=hcd;let⟨r1,r2⟩:=Fl h2;cases t;refine gJ.makes λφ z h' w a _ hp _=>?_
   have e1:=dJ (hp s _ (by rw[ho];simp[Op.operands]) D);have e2:=dJ (hp c _ (by rw[ho];simp[Op.operands]) hy);let⟨v,z1,z2,_⟩:=vj hz w;let⟨sz,i1,i2⟩:=Rh hb;have s1:=f_ hs w;have w1:jW .i64 n=n:=af9 (by omega) (by omega);have w2:jW .i64 bytes=bytes:=af9 (by omega) (by omega);have hbm:(m:Int)*bytes=((bytes.toNat*m:Nat):Int):=by grind
   have t1:¬(bytes<0\/(281474976710656:Int)<m*bytes):=by omega
   have hr:¬(bytes.toNat*m>roomBytes):=by unfold roomBytes;omega
   have hn0:bytes.toNat*i=0->bytes.toNat=0:=λh=>(Nat.mul_eq_zero.1 h).resolve_right hsz
   let cells:Array Value:=(Hg (bytes.toNat*i)).map (λsz=>v.cells[sz%v.cells.size]!)
   refine ⟨.slice (Z ⟨w.heap.size,0,U⟩) n.toNat bytes.toNat,{w with heap:=w.heap.push (.cells cells q)},.cells cells q (0,0),?_,sN w _,?_,λφ' O hφ=>?_⟩
   .unfold execOp;rw[ho];by_cases N:bytes.toNat*i=0
    .obtain rfl:bytes=0:=by have:=hn0 N;omega
     simp[Instr.makeSlice,run_underlying hu,e1,e2,asInt,asIntOf,typeInfo,i1,w1,askRoom,s1,newRow,newObj,rA,cells]
     grind
    .simp[Instr.makeSlice,run_underlying hu,e1,e2,asInt,asIntOf,typeInfo,i1,i2,w1,w2,t1,show ¬n<0 by omega,show ¬bytes<n by omega,askRoom,hr,s1,N,z1,newRow,newObj,rA,cells]
   .have cs:=Cs.repl (φ:=φ) (O:=tot z φ h') (w:=w) z2 bytes.toNat i hl hsz hc;have hle:n.toNat<=bytes.toNat:=by omega
    have hlen:n.toNat*i<=bytes.toNat*i:=cg _ hle;refine tN rfl (by simp[BC.toMx,nY,hl,cells];exact hlen) λj x D=>?_
    simp only[BC.toMx,bL]at D;have hj:j<n.toNat*l! E:=by
     rcases bF j (n.toNat*l! E) with h|h
     .exact h
     .rw[jG (by rw[nY];exact h)]at D;cases D
    have hj2:j<bytes.toNat*l! E:=by grind
    rw[Fm E _ j hj,<-Fm E bytes.toNat j hj2]at D;have I:((repl E bytes.toNat).map AV.f)[j]? =Z x:=by grind
    have hj3:j<l! cells.toList:=by grind
    exact⟨cs.2.1 x (bn I),cells.toList[j],by rw[<- ep];exact aL hj3,cs.2.2 j x _ I (aL hj3)⟩
   .refine .G hφ (by omega) (by unfold maxLen;omega) ⟨q,?_⟩;unfold pU;simp[cells]
  .cases t
 .cases t
def anl {y:Operand} (ho:o.op= .store A s y) (hs:fK P A=Z i) (t:dO (.store i s y) e h nx=Z R):gJ P o e.get h.get R.eff:=by
 simp only[dO]at t;split at t
 .rename_i p v hx hy;unfold EJ at t;split at t
  .rename_i id off;split at t
   .rename_i b hb;split at t
    .rename_i hl;split at t
     .rename_i c' hput;cases t;unfold BC.put at hput;split at hput
      .rename_i hcc;simp only[ak]at hcc;let⟨⟨c1,c2⟩,c3⟩:=hcc;have c2:=aX c2;have hl:l! v.cs=i:=by simpa using hl
       have I:c'.toMx=splice b.c.toMx off v.cs/\c'.isCells=J:=by
        split at hput
        next l ys hbl hys=>cases hput;refine ⟨?_,rfl⟩;have hv:=ta hys;rw[hv,hbl];simp only[BC.toMx];unfold splice;simp_all
        .cases hput;exact⟨rfl,rfl⟩
       refine gJ.writes hb λφ E h' w a hrd hb' hp hrep=>?_
       have hr:=YW (hp y _ (by rw[ho];simp[Op.operands]) hy) c3;have hpx:=hp s _ (by rw[ho];simp[Op.operands]) hx;generalize hz:a.eval s=pv at hpx;cases hpx with
       |@H _ _ k hφ=>
        let⟨arr,g1,g2,g3⟩:=hrep.cs hb' hφ c1;have hvl:(a.eval y).cells.toList.length=i:=by rw[hr.1];exact hl
        rw[BC.len_toMx c1]at c2;have hst:=run_storeCells_at (P:=P) k off b.ty (a.eval y).cells.toList 0 arr w g1 (by rw[hvl];omega) hr.one
        let arr':Array Value:=(arr.toList.take off++(a.eval y).cells.toList++arr.toList.drop (off+i)).toArray
        have hsize:arr'.size=arr.size:=by grind
        refine ⟨.skip,w.setRow k arr',k,.cells arr' b.ty (0,0),?_,hφ,KP.setRow g1 hsize,?_,undef,.inr ⟨rfl,rfl⟩,.f (.raw _)⟩
        .have s1:=f_ hs w;have hvs:(a.eval y).cells.size=i:=by simpa using hvl
         simp only[dL,hvl]at hst;unfold execOp;rw[ho];simp[Instr.storeAt,hz,Oz,storeVar,s1,hvs,hst,arr']
        .refine tN I.2 (by rw[I.1,tp (by omega),hsize];exact g3) λj q D=>?_
         rw[I.1,sO (by omega)]at D;have ha':arr'[j]? =if j<off then arr.toList[j]? else if j<off+i then (a.eval y).cells.toList[j-off]? else arr.toList[j]? :=by
          have:=sO (l:=arr.toList) (vs:=(a.eval y).cells.toList) (off:=off) (by grind) j;unfold splice at this
          grind
         have old:b.c.toMx[j]? =Z q->q.isCell=J/\∃u,arr.toList[j]? =Z u/\cG φ (tot E φ h') w q u:=λD=>by
          have hj:j<l! b.c.toMx:=(bH.1 D).1;have hj2:j<l! arr.toList:=by simp;omega
          refine ⟨g2.2.1 q (bn D),arr.toList[j],aL hj2,g2.2.2 j q _ D ?_⟩
          grind
         rw[ha'];by_cases h1:j<off
         .grind
         .rw[ay h1]at D ⊢;by_cases h2:j<off+i
          .rw[aK (by omega)]at D;rw[aK h2];have N:j-off<(a.eval y).cells.toList.length:=by omega
           exact⟨hr.2.1 q (bn D),_,aL N,hr.2.2 _ q _ D (aL N)⟩
          .grind
      .cases hput
     .cases t
    .cases t
   .cases t
  .cases t
 .cases t
end
section
variable {P:Program} {o:Oper} {e:wC} {h:ie} {nx:Nat} {R:AS}
def anc (A:Addr):A.add 0=A:=by cases A;simp[Addr.add]
variable {s:Operand}
def av7 {el:TypeId} {lo hi mx:M Operand} (ho:o.op= .slice A s lo hi mx) (hu:P.underlying A=Z (.slice el)) (hs:fK P el=Z i) (I:dO (.slc i s lo hi mx) e h nx=Z R):gJ P o e.get h.get R.eff:=by
 simp only[dO]at I;split at I
 .rename_i v hx;split at I
  ·
   rename_i k k';split at I
   .rename_i hsl;rw[dh I];refine gJ.reads λφ E h' w a _ hp _=>?_
    have D:=hp s _ (by rw[ho];simp[Op.operands]) hx;have hz:∃t n c,a.eval s= .slice t n c:=by
     generalize a.eval s=z at D;obtain⟨n,hn⟩:=jT.1 hsl;unfold AV.slen at hn;split at hn
     .cases D with
      |f D=>cases D with
       |nil|sl=>exact⟨_,_,_,rfl⟩
     .cases dJ D;exact⟨_,_,_,rfl⟩
     .cases D;exact⟨_,_,_,rfl⟩
     .cases D;exact⟨_,_,_,rfl⟩
     .cases D;exact⟨_,_,_,rfl⟩
     .cases hn
    obtain⟨t,n,c,hz⟩:=hz;have s1:=f_ hs w;refine ⟨.slice t 0 0,?_,.emp⟩;unfold execOp;rw[ho];have z0:∀k,a.eval (.const (.int k 0))= .int k 0:=λ_=>rfl
    simp[eh,gu,run_underlying hu,hz,cX,dk,asIntOf,s1,z0]
   .cases I
  ·
   rename_i b;split at I
   .rename_i id sz' n k j hb;split at I
    .rename_i hc;simp only[c8,ak,bB,du]at hc;obtain⟨⟨rfl,h0⟩,h1⟩:=hc;split at I
     .rename_i blk hblk;split at I
      .rename_i hcl;simp only[ak]at hcl;obtain⟨hcells,hlen⟩:=hcl;have hlen:=aX hlen;rw[BC.len_toMx hcells]at hlen;cases I;intro φ E h' w a g1 g2 g3 hrep g5;have hp:Uf φ E h' w a e o:=λs y hx N=>rY hrep g3 hx N
       have hb':h' id=Z blk:=by rw[g1 id (by simp[AS.eff])];exact hblk
       have D:=hp s _ (by rw[ho];simp[Op.operands]) hx;have hbv:=dJ (hp b _ (by rw[ho];simp[Op.operands]) hb);have hnx:φ nx=U:=g5 nx (by simp[AS.eff]);generalize hz:a.eval s=z at D;cases D with
       |@G _ _ _ c q hφ hn hcap hsh=>
        obtain⟨arr,a1,a2,a3⟩:=hrep.cs hb' hφ hcells;have s1:=f_ hs w;have hne:nx≠id:=λe=>by rw[e,hφ]at hnx;cases hnx
        have hnw1:je [(nx,⟨blk.ty,pq (blk.c.toMx.take (j.toNat*sz'))⟩)] nx=Z (⟨blk.ty,pq (blk.c.toMx.take (j.toNat*sz'))⟩:nk):=by simp[je]
        have hnw2:je [(nx,⟨blk.ty,pq (blk.c.toMx.take (j.toNat*sz'))⟩)] id=U:=by
         simp only[je];rw[ay];intro hb;exact hne (ar hb)
        have a4:=a2.take (j.toNat*sz');obtain⟨φ',p1,p2,p3,p4⟩:=hrep.wren hb' hφ hnx (w':=w) ⟨rfl,rfl,rfl,rfl,a1,λ_ _=>rfl,λ_=>rfl⟩ (b':=⟨blk.ty,pq (blk.c.toMx.take (j.toNat*sz'))⟩) (by
         obtain⟨q1,q2⟩:=o6 (blk.c.toMx.take (j.toNat*sz'));refine tN q2 (by rw[q1,bl];omega) λsz s hx=>?_
         rw[q1]at hx;have hi:sz<l! ((arr.toList.take (l! blk.c.toMx)).take (j.toNat*sz')):=by rw[a4.1];exact (bH.1 hx).1
         refine ⟨a4.2.1 s (bn hx),_,?_,a4.2.2 sz s _ hx (aL hi)⟩;have hi':sz<arr.size:=by simp at hi;omega
         simp[hi']) _ hnw1 hnw2
        have hrun:(execOp a.eval o).run P w= .ok (.value (.slice (Z ⟨q,0,U⟩) j.toNat c)) w:=by
         unfold execOp;rw[ho];simp[eh,gu,run_underlying hu,hz,cX,dk,asIntOf,s1,hbv,h0,show j<=c by omega,iT]
        unfold K2;rw[hrun];exact⟨_,φ',rfl,p2,p3,p4,.G p1 (by omega) hcap hsh⟩
      .cases I
     .cases I
    .cases I
   .rename_i cells n k j hb;split at I
    .rename_i hc;simp only[c8,ak,bB]at hc;obtain⟨⟨h0,h1⟩,h2⟩:=hc;have h2:=aX h2;rw[dh I];refine gJ.reads λφ E h' w a _ hp _=>?_
     have D:=hp s _ (by rw[ho];simp[Op.operands]) hx;have hbv:=dJ (hp b _ (by rw[ho];simp[Op.operands]) hb);generalize hz:a.eval s=z at D;have s1:=f_ hs w;cases D with
     |f D=>
      cases D with
      |nil t c hc=>
       have hj:j=0:=by omega
       subst hj;refine ⟨.slice t 0 c,?_,by simpa using cG.f (.nil t c hc)⟩;unfold execOp;rw[ho];cases t<;>simp[eh,gu,run_underlying hu,hz,cX,dk,asIntOf,s1,hbv,anc]
      |sl _ _ c q off us hn hc hO hq hcl hu' D=>
       refine ⟨.slice (Z ⟨q,off,U⟩) j.toNat c,?_,.f (.sl _ _ _ _ _ us (by omega) hc hO hq (λy N=>hcl y (dV N)) (λsz hi=>hu' sz (by rw[bl]at hi;omega)) λsz y N=>?_)⟩
       .unfold execOp;rw[ho];simp[eh,gu,run_underlying hu,hz,cX,dk,asIntOf,s1,hbv,h0,show j<=c by omega,iT]
       .rw[dG]at N;split at N
        .exact D sz y N
        .cases N
    .cases I
   .cases I
  ·
   rename_i b;split at I
   .rename_i id sz' n k j hb;split at I
    .rename_i hc;simp only[c8,gM,ak,bB,du]at hc;obtain⟨⟨rfl,h0⟩,h1⟩:=hc;rw[dh I];refine gJ.reads λφ E h' w a _ hp _=>?_
     have D:=hp s _ (by rw[ho];simp[Op.operands]) hx;have hbv:=dJ (hp b _ (by rw[ho];simp[Op.operands]) hb);generalize hz:a.eval s=z at D;cases D with
     |@G _ _ _ c q hφ hn hc hsh=>
      have s1:=f_ hs w;refine ⟨.slice (Z ⟨q,0+j.toNat*sz',U⟩) (n-j.toNat) (c-j.toNat),?_,?_⟩
      .unfold execOp;rw[ho];simp[eh,gu,run_underlying hu,hz,cX,dk,asIntOf,s1,hbv,h0,show j<=n by omega,show ¬c=j.toNat by omega,iT]
      .rw[b9];exact .sl hφ (by omega) (by omega)
    .cases I
   .rename_i cells n k j hb;split at I
    .rename_i hc;simp only[c8,ak,bB]at hc;obtain⟨⟨h0,h1⟩,h2⟩:=hc;have h2:=aX h2;rw[dh I];refine gJ.reads λφ E h' w a _ hp _=>?_
     have D:=hp s _ (by rw[ho];simp[Op.operands]) hx;have hbv:=dJ (hp b _ (by rw[ho];simp[Op.operands]) hb);generalize hz:a.eval s=z at D;have s1:=f_ hs w;cases D with
     |f D=>
      cases D with
      |nil t c hc=>
       have hj:j=0:=by omega
       subst hj;have hex:∃A',(execOp a.eval o).run P w= .ok (.value (.slice A' 0 c)) w:=by
        unfold execOp;rw[ho];cases t with
        |none=>exact⟨U,by simp[eh,gu,run_underlying hu,hz,cX,dk,asIntOf,s1,hbv]⟩
        |some t=>exact⟨Z t,by simp[eh,gu,run_underlying hu,hz,cX,dk,asIntOf,s1,hbv,anc]⟩
       obtain⟨A',hex⟩:=hex;exact⟨.slice A' 0 c,hex,by simpa using cG.f (.nil A' c hc)⟩
      |sl _ _ c q off us hn hc hO hq hcl hu' D=>
       by_cases hcj:c=j.toNat
       .refine ⟨.slice (Z ⟨q,off,U⟩) 0 0,?_,?_⟩
        .unfold execOp;rw[ho];simp[eh,gu,run_underlying hu,hz,cX,dk,asIntOf,s1,hbv,h0,show j<=n by omega,hcj,show n-j.toNat=0 by omega,iT]
        .rw[show n-j.toNat=0 by omega];simpa using cG.f (.nil (Z ⟨q,off,U⟩) 0 (by unfold maxLen;omega))
       .refine ⟨.slice (Z ⟨q,off+j.toNat*i,U⟩) (n-j.toNat) (c-j.toNat),?_,.f (.sl _ _ _ _ _ (λsz=>us (j.toNat*i+sz)) (by omega) (by omega) hO hq (λy N=>hcl y (pW (dV N))) (λsz hi=>?_) λsz y N=>?_)⟩
        .unfold execOp;rw[ho];simp[eh,gu,run_underlying hu,hz,cX,dk,asIntOf,s1,hbv,h0,show j<=n by omega,hcj,iT]
        .rw[qW];refine hu' _ ?_;rw[bl,fo]at hi;omega
        .rw[dG]at N;split at N
         .rw[iz]at N;exact D _ y N
         .cases N
    .cases I
   .cases I
  ·
   rename_i b b' _;split at I
   .rename_i cells n k j k' j' hb hb';split at I
    .rename_i hc;simp only[c8,ak,bB]at hc;obtain⟨⟨⟨hjj,h0⟩,h1⟩,h2⟩:=hc;subst hjj;have h2:=aX h2;rw[dh I];refine gJ.reads λφ E h' w a _ hp _=>?_
     have D:=hp s _ (by rw[ho];simp[Op.operands]) hx;have hbv:=dJ (hp b _ (by rw[ho];simp[Op.operands]) hb);have hbv':=dJ (hp b' _ (by rw[ho];simp[Op.operands]) hb');generalize hz:a.eval s=z at D;have s1:=f_ hs w;cases D with
     |f D=>
      cases D with
      |nil t c hc=>
       have hj:j=0:=by omega
       subst hj;refine ⟨.slice t 0 0,?_,by simpa using cG.qc (nA.nil t 0 (by unfold maxLen;omega))⟩;unfold execOp;rw[ho];cases t<;>simp[eh,gu,run_underlying hu,hz,cX,dk,asIntOf,s1,hbv,hbv',anc]
      |sl _ _ c q off us hn hc hO hq hcl hu' D=>
       refine ⟨.slice (Z ⟨q,off,U⟩) j.toNat j.toNat,?_,.qc (.sl _ _ _ _ _ us (bi _) (by omega) hO hq (λy N=>hcl y (dV N)) (λsz hi=>hu' sz (by rw[bl]at hi;omega)) λsz y N=>?_)⟩
       .unfold execOp;rw[ho];simp[eh,gu,run_underlying hu,hz,cX,dk,asIntOf,s1,hbv,hbv',h0,show j<=c by omega,iT];intro hlt;omega
       .rw[dG]at N;split at N
        .exact D sz y N
        .cases N
    .cases I
   .cases I
  ·
   rename_i b b';split at I
   .rename_i cells n k j k' m hb hb';split at I
    .rename_i hc;simp only[c8,ak,bB]at hc;obtain⟨⟨⟨h0,h1⟩,h3⟩,h2⟩:=hc;have h2:=aX h2;rw[dh I];refine gJ.reads λφ E h' w a _ hp _=>?_
     have D:=hp s _ (by rw[ho];simp[Op.operands]) hx;have hbv:=dJ (hp b _ (by rw[ho];simp[Op.operands]) hb);have hbv':=dJ (hp b' _ (by rw[ho];simp[Op.operands]) hb');generalize hz:a.eval s=z at D;have s1:=f_ hs w;cases D with
     |f D=>
      cases D with
      |nil t c hc=>
       have hj:j=0:=by omega
       have hm:m=0:=by omega
       subst hj hm;have hex:∃A',(execOp a.eval o).run P w= .ok (.value (.slice A' 0 c)) w:=by
        unfold execOp;rw[ho];cases t with
        |none=>exact⟨U,by simp[eh,gu,run_underlying hu,hz,cX,dk,asIntOf,s1,hbv,hbv']⟩
        |some t=>exact⟨Z t,by simp[eh,gu,run_underlying hu,hz,cX,dk,asIntOf,s1,hbv,hbv',anc]⟩
       obtain⟨A',hex⟩:=hex;exact⟨.slice A' 0 c,hex,by simpa using cG.f (.nil A' c hc)⟩
      |sl _ _ c q off us hn hc hO hq hcl hu' D=>
       have hjm:j.toNat<=m.toNat:=by omega
       have hmn:m.toNat<=n:=by omega
       by_cases hcj:c=j.toNat
       .refine ⟨.slice (Z ⟨q,off,U⟩) 0 0,?_,?_⟩
        .unfold execOp;rw[ho];simp[eh,gu,run_underlying hu,hz,cX,dk,asIntOf,s1,hbv,hbv',h0,h1,show m<=c by omega,hcj,show m.toNat-j.toNat=0 by omega,iT];rw[aK (by omega),aK (by omega)]
        .rw[show m.toNat-j.toNat=0 by omega];simpa using cG.f (.nil (Z ⟨q,off,U⟩) 0 (by unfold maxLen;omega))
       .refine ⟨.slice (Z ⟨q,off+j.toNat*i,U⟩) (m.toNat-j.toNat) (c-j.toNat),?_,.f (.sl _ _ _ _ _ (λsz=>us (j.toNat*i+sz)) (by omega) (by omega) hO hq (λy N=>hcl y (pW (dV N))) (λsz hi=>?_) λsz y N=>?_)⟩
        .unfold execOp;rw[ho];simp[eh,gu,run_underlying hu,hz,cX,dk,asIntOf,s1,hbv,hbv',h0,h1,show m<=c by omega,show 0<=m by omega,show max m 0=m by omega,hcj,iT]
        .rw[qW];refine hu' _ ?_;rw[bl,fo]at hi;omega
        .rw[dG]at N;split at N
         .rw[iz]at N;exact D _ y N
         .cases N
    .cases I
   .cases I
  .cases I
 .cases I
def afy {rd:ι} (hrow:y.row? h i=Z (K,m,rd)) (hrd:∀sz∈rd,S sz=h.get sz) (hrep:qE V O S w) (hr:cG V (tot O V S) w y v):
 ∃A c vs,v= .slice A m c/\Cs V (tot O V S) w K vs/\l! vs=m*i/\(A=U->vs=[])/\(∀ad,A=Z ad->∀(j:Nat) u,vs[j]? =Z u->w.cell? (ad.add j)=Z u):=by
 have emp:∀A c,v= .slice A 0 c->K=[]->m=0->∃A c vs,v= .slice A m c/\Cs V (tot O V S) w K vs/\l! vs=m*i/\(A=U->vs=[])/\(∀ad,A=Z ad->∀(j:Nat) u,vs[j]? =Z u->w.cell? (ad.add j)=Z u):=by
  rintro A c rfl rfl rfl;exact⟨A,c,[],rfl,⟨rfl,(by intro y D;cases D),(by intro j y v D;simp at D)⟩,by simp,λ_=>rfl,by intro ad _ j u I;simp at I⟩
 have own:∀(id off n c k:Nat) (b:nk),V id=Z k->S id=Z b->b.c.isCells=J->off+n*i<=b.c.len->v= .slice (Z ⟨k,off,U⟩) n c->K=(b.c.toMx.drop off).take (n*i)->m=n->
  ∃A c vs,v= .slice A m c/\Cs V (tot O V S) w K vs/\l! vs=m*i/\(A=U->vs=[])/\(∀ad,A=Z ad->∀(j:Nat) u,vs[j]? =Z u->w.cell? (ad.add j)=Z u):=by
  rintro id off n c k b hφ hb N hle rfl rfl rfl;let⟨arr,g1,g2,g3⟩:=hrep.cs hb hφ N;rw[BC.len_toMx N]at hle;refine ⟨_,c,((arr.toList.take (l! b.c.toMx)).drop off).take (m*i),rfl,(g2.drop off).take _,?_,nofun,?_⟩
  .simp;omega
  .intro ad had j u I;cases had;rw[iT];rw[dG]at I;split at I
   .rw[iz,dG]at I;split at I
    .rw[ep]at I;simp[Ry,g1,I]
    .cases I
   .cases I
 unfold AV.row? at hrow;split at hrow
 .rename_i cells n;split at hrow
  .rename_i hle;have hle:=aX hle;simp only[af,aV]at hrow;obtain⟨rfl,rfl,rfl⟩:=hrow;cases hr with
   |f hr=>
    cases hr with
    |nil a c N=>exact emp a c rfl (by simp) rfl
    |sl _ _ c b off us hn N hO hb hcl I hr=>
     refine ⟨_,c,(mI (n*i)).map us,rfl,⟨by simp;omega,λy D=>?_,λj y u D hu'=>?_⟩,by simp,nofun,?_⟩
     .obtain⟨x,hy,rfl⟩:=cv.1 D;exact hcl x (dV hy)
     .obtain⟨rfl,hj⟩:=zW us _ _ _ hu';rw[bL,dG,aK hj]at D;cases hq:cells[j]? with
      |none=>rw[hq]at D;cases D
      |some q=>rw[hq]at D;simp at D;subst D;exact .f (hr j q hq)
     .intro ad had j u hu';cases had;obtain⟨rfl,hj⟩:=zW us _ _ _ hu';rw[iT];exact I j (by omega)
  .cases hrow
 .simp only[af,aV]at hrow;obtain⟨rfl,rfl,rfl⟩:=hrow;exact emp U 0 (dJ hr) rfl rfl
 .simp only[af,aV]at hrow;obtain⟨rfl,rfl,rfl⟩:=hrow;cases hr with
  |@emp a=>exact emp a 0 rfl rfl rfl
 .rename_i id sz' n;split at hrow
  .rename_i hsz;split at hrow
   .rename_i b hb;split at hrow
    .rename_i N;simp only[ak]at N;simp only[af,aV]at hrow;obtain⟨rfl,rfl,rfl⟩:=hrow;cases hr with
     |@G _ _ _ c k hφ hn hc' hsh=>
      exact own id 0 n c k b hφ (by rw[hrd id (by simp)];exact hb) N.1 (by simp_all) rfl (by simp) rfl
    .cases hrow
   .cases hrow
  .cases hrow
 .rename_i id off n;split at hrow
  .rename_i b hb;split at hrow
   .rename_i N;simp only[ak]at N;simp only[af,aV]at hrow;obtain⟨rfl,rfl,rfl⟩:=hrow;cases hr with
    |@sl _ _ _ c k hφ hn hc'=>exact own id off n c k b hφ (by rw[hrd id (by simp)];exact hb) N.1 (aX N.2) rfl rfl rfl
   .cases hrow
  .cases hrow
 .cases hrow
def av8 {el:TypeId} {D:Operand} (I:o.op= .slice A s (Z D) U U) (hu:P.underlying A=Z (.array i el)) (hs:fK P el=Z m) (hn:i<=65536) (t:dO (.sla i m s D) e h nx=Z R):gJ P o e.get h.get R.eff:=by
 simp only[dO]at t;split at t
 .rename_i id off k j hx hb;split at t
  .rename_i hc;simp only[c8,gM,ak,bB]at hc;let⟨h0,h1⟩:=hc;rw[dh t];refine gJ.reads λφ E h' w a _ hp _=>?_
   have N:=hp s _ (by rw[I];simp[Op.operands]) hx;have hbv:=dJ (hp D _ (by rw[I];simp[Op.operands]) hb);generalize hz:a.eval s=z at N;cases N with
   |@H _ _ q hφ=>
    have s1:=f_ hs w;refine ⟨.slice (Z ⟨q,off+j.toNat*m,U⟩) (i-j.toNat) (i-j.toNat),?_,.sl hφ (by omega) (by unfold maxLen;omega)⟩;unfold execOp;rw[I];simp[eh,Oz,run_underlying hu,hz,cX,dk,asIntOf,s1,hbv,h0,show j<=i by omega,show ¬i=j.toNat by omega,iT]
  .cases t
 .cases t
def abp {x:M Operand} (A:aiy e i x=Z m) {a:Act} (hev:∀q y,x=Z q->lZ e q=Z (.f (.raw y))->a.eval q=y):(x=U/\m=i)\/∃q k j,x=Z q/\a.eval q= .int k j/\0<=j/\m=j.toNat:=by
 cases x with
 |none=>simp only[aiy,af]at A;exact .inl ⟨rfl,A.symm⟩
 |some q=>
  simp only[aiy]at A;split at A
  .rename_i k j D;split at A
   next h0=>simp only[c8,bB]at h0;simp only[af]at A;exact .inr ⟨q,k,j,rfl,hev q _ rfl D,h0,A.symm⟩
   .cases A
  .cases A
def YN (s:ByteArray) (l m:Nat) (h1:l<=m) (h2:m<=s.data.size):s.extract l m=⟨((s.data.toList.drop l).take (m-l)).toArray⟩:=by
 apply ByteArray.ext;rw[ByteArray.data_extract];apply Array.ext';simp[Array.toList_extract,List.extract_eq_take_drop]
def av6 {lo hi:M Operand} (N:o.op= .slice A s lo hi U) (I:P.underlying A=Z .string) (t:dO (.sls s lo hi) e h nx=Z R):gJ P o e.get h.get R.eff:=by
 simp only[dO]at t;split at t
 .rename_i x hx;split at t
  .rename_i l m hl hm;split at t
   .rename_i hc;simp only[ak]at hc;have c1:=aX hc.1;have c2:=aX hc.2;rw[dh t];refine gJ.reads λφ E h' w a _ hp _=>?_
    have h1:=dJ (hp s _ (by rw[N];simp[Op.operands]) hx);refine ⟨_,?_,.f (.raw _)⟩;rw[<- YN x l m c1 c2];have c2':m<=x.size:=c2;have b1:=abp hl (a:=a) λq y e1 e2=>dJ (hp q _ (by rw[N,e1];simp[Op.operands]) e2)
    have b2:=abp hm (a:=a) λq y e1 e2=>dJ (hp q _ (by rw[N,e1];simp[Op.operands]) e2)
    unfold execOp;rw[N];rcases b1 with ⟨rfl,rfl⟩|⟨q1,k1,j1,rfl,e1,z1,rfl⟩<;>rcases b2 with ⟨rfl,e2⟩|⟨q2,k2,D,rfl,e2,z2,rfl⟩
    .have e2:m=x.size:=e2;subst e2;simp[eh,gu,run_underlying I,h1,cX]
    .simp[eh,gu,run_underlying I,h1,cX,dk,asIntOf,e2,z2,show D<=x.size by omega]
    .have e2:m=x.size:=e2;subst e2;simp[eh,gu,run_underlying I,h1,cX,dk,asIntOf,e1,z1,show j1<=x.size by omega]
    .simp[eh,gu,run_underlying I,h1,cX,dk,asIntOf,e1,z1,e2,z2,show D<=x.size by omega,show j1<=D by omega,show j1<=max D 0 by omega]
   .cases t
  .cases t
 .cases t
def YP {ms:_} (q:P.underlying A=Z (.interface ms)) (w:World):(Op.equal A .nilIface .nilIface).run P w= .ok J w:=by
 have key:∀d,(Op.equalIn (d+1) A .nilIface .nilIface).run P w= .ok J w:=λd=>by simp[Op.equalIn,run_underlying q]
 exact key 9999
def aji {neg:Bool} {op:BinOp} {y:Operand} {I:TypeId} {ms:_} (D:o.op= .binOp op A s y I) (hop:op=if neg then .neq else .eql) (t:y= .const .nilIface) (hu:P.underlying A=Z (.interface ms)) (q:dO (.jf neg s) e h nx=Z R):gJ P o e.get h.get R.eff:=by
 simp only[dO]at q;split at q
 .rename_i N;rw[dh q];refine gJ.reads λφ E h' w a _ hp _=>?_
  have h1:=dJ (hp s _ (by rw[D];simp[Op.operands]) N);have h2:a.eval y= .nilIface:=by rw[t];rfl
  refine ⟨_,?_,.f (.raw _)⟩;unfold execOp;rw[D];simp[h1,h2];subst hop t;cases neg<;>simp[eqGuard,binOp,YP hu]
 .cases q
def avo {t' el:TypeId} (ho:o.op= .convert A t' s) (hs:P.underlying A=Z .string) (hd:P.underlying t'=Z (.slice el)) (he:P.underlying el=Z (.int .u8)) (I:dO (.byt s) e h nx=Z R):gJ P o e.get h.get R.eff:=by
 simp only[dO]at I;split at I
 .rename_i x hx;split at I
  .rename_i hsz;have hsz:=aX hsz;have hsz:x.size<=65536:=hsz;rw[dh I];intro φ E h' w a h1 h2 h3 h4 h5;have hv:=dJ (rY h4 h3 (x:=s) (by rw[ho];simp[Op.operands]) hx);have hrun:(execOp a.eval o).run P w= .ok (.value (.slice (Z ⟨w.heap.size,0,U⟩) x.size (grownCap w x.size 0 el))) (Lib.bytesWorld w el x):=by
    unfold execOp;rw[ho];simp[hv,Lib.run_convert_string_bytes w A t' el x hs hd he]
   have hM:iv φ φ h' h' w (Lib.bytesWorld w el x):=⟨λ_ _ h=>h,⟨rfl,rfl,rfl,by rw[Lib.bytesWorld_size];omega,λk D _=>Lib.bytesWorld_at_old w el x k D,λk D=>by unfold pU;rw[Lib.bytesWorld_at_old w el x k D]⟩,λ_ _ h=>h⟩
   unfold K2;rw[hrun];have hown:∀k,own φ h' k->k<w.heap.size:=λk ⟨i,b,hb,D⟩=>by
    let⟨k',e1,_,ob,e3,_⟩:=h4.at_ i b hb;rw[D]at e1;cases e1;rcases bF k w.heap.size with q|q
    .exact q
    .rw[Array.getElem?_eq_none q]at e3;cases e3
   refine ⟨_,φ,rfl,?_,λ_ _ h=>.inl h,?_,?_⟩<;>simp only[AS.eff,tL]
   .exact hM
   .exact h4.moved hM λk D=>Lib.bytesWorld_at_old w el x k (hown k D)
   .refine .f (.sl _ _ _ _ _ (λi=>.int .u8 (x.data.toList.getD i 0).toNat) (grownCap_ge w _ _ _) (grownCap_le_maxLen w _ _ _ (by unfold maxLen;omega)) (λN=>?_) (by rw[Lib.bytesWorld_size];omega) (λy t=>?_) (λj hj=>?_) λj y t=>?_)
    .rcases N with N|N
     .exact bc (h4.el _ N) (by omega)
     .exact bc (hown _ N) (by omega)
    .obtain⟨b,_,rfl⟩:=cv.1 t;rfl
    .rw[b9];exact Lib.bytesWorld_cell w el x j (by simpa using hj)
    .rw[bL]at t;cases hq:x.data.toList[j]? with
     |none=>rw[hq]at t;cases t
     |some b=>rw[hq]at t;simp at t;subst t;simp only[List.getD,hq];exact .raw _
  .cases I
 .cases I
def Ri :∀{src:Y AV} {l:ζ} {vs:ξ},EH src=Z l->Cs V O w src vs->∃ns:η,vs=ns.map (Value.int .u8)/\l=ns.map (λn=>AW n.toNat)
 |[],l,vs,q,N=>by
  simp only[EH,af]at q;have hl:=N.1;cases vs with
  |nil=>exact⟨[],rfl,q.symm⟩
  |cons _ _=>simp at hl
 |x::r,l,vs,q,N=>by
  unfold EH at q;split at q
  next heq=>cases heq
  .rename_i n r' heq;cases heq;split at q
   .rename_i l' I;simp only[af]at q;obtain⟨h1,h2,h3⟩:=N;cases vs with
    |nil=>simp at h1
    |cons v vs=>
     have D:=dJ (h3 0 _ _ rfl rfl);obtain⟨ns,e1,e2⟩:=Ri I ⟨by simpa using h1,λx A=>h2 x (bP _ A),λj x v A D=>h3 (j+1) x v (by simpa using A) (by simpa using D)⟩;exact⟨n::ns,by rw[eg,<-e1,D],by rw[<- q,eg,e2]⟩
   .cases q
  .cases q
def UL:∀(ns:η) (b:ByteArray),ns.foldl (λr n=>r.push (AW n.toNat)) b=⟨b.data++(ns.map λn=>AW n.toNat).toArray⟩
 |[],b=>by simp
 |n::ns,b=>by rw[dz,UL ns];simp[ByteArray.push]
def av5 {D I:TypeId} (ho:o.op= .convert A D s) (hs:P.underlying A=Z (.slice I)) (he:P.underlying I=Z (.int .u8)) (hd:P.underlying D=Z .string) (q:dO (.tos s) e h nx=Z R):gJ P o e.get h.get R.eff:=by
 simp only[dO]at q;split at q
 .rename_i y hx;split at q
  .rename_i src m rd hrow;split at q
   .rename_i l hl;cases q;refine gJ.reads λφ E h' w a hrd hp hrep=>?_
    let⟨t,c,vs,hv,hcs,hlen,hnone,hcell⟩:=afy hrow hrd hrep (hp s _ (by rw[ho];simp[Op.operands]) hx);let⟨ns,e1,e2⟩:=Ri hl hcs;refine ⟨_,?_,.f (.raw _)⟩;unfold execOp;rw[ho];have key:(convert A D (a.eval s)).run P w= .ok (.string ⟨l.toArray⟩) w:=by
     rw[hv,run_convert_bytes_string w A D I t m c hs he hd];cases t with
     |none=>
      have:=hnone rfl;subst this;cases ns with
      |nil=>subst e2;simp[Conv.bytesToString];rfl
      |cons _ _=>simp at e1
     |some N=>
      rw[run_bytesToString w N m c ns (by
       have:=run_loadCells_list (P:=P) w N vs (hcell N rfl);rw[hlen,He]at this;rw[this,e1]),UL,e2]
      simp[ByteArray.empty,ByteArray.emptyWithCapacity];rfl
    simp[key]
   .cases q
  .cases q
 .cases q
def akx {rd:ι} (hrow:y.row? h i=Z (K,m,rd)) (hrd:∀sz∈rd,S sz=h.get sz) (hrep:qE V O S w) (hr:cG V (tot O V S) w y v) {I:TypeId} (D:P.underlying A=Z (.slice I)):
 ∃vs,Src P i A v m vs w/\Cs V (tot O V S) w K vs:=by
 obtain⟨q,c,vs,rfl,h1,h2,h3,h4⟩:=afy hrow hrd hrep hr;refine ⟨vs,?_,h1⟩;cases q with
 |none=>
  have:=h3 rfl;subst this;have hm:m*i=0:=by grind
  refine ⟨.inl ⟨I,D⟩,λ_=>rfl,run_firstCells_none w i m m c,run_firstCells_none w.drew i m m c,by simp[hm],λ_ h=>by cases h⟩
 |some N=>exact Src.ofSlice w D N m c vs h2 (h4 N rfl) h1.one
def aqo :∀{l:ι},mem i l=J↔i∈l
 |[]=>by simp[mem]
 |y::r=>by
  simp[mem,eu,aqo (l:=r),bk];constructor
  .rintro (h|h)
   .simp_all
   .exact .inr h
  .rintro (h|h)
   .simp_all
   .exact .inr h
def avn {el:TypeId} (ho:o.op= .call {callee:=.builtin .clear,args:=#[s],argTypes:=#[A]}) (hu:P.underlying A=Z (.slice el)) (hz:uN P el=Z E) (hc:nO E=J) (hl:l! E=i) (hsz:i≠0) (D:dO (.clr i E s) e h nx=Z R):gJ P o e.get h.get R.eff:=by
 simp only[dO]at D;split at D
 .rename_i id off n hx;split at D
  .rename_i blk hblk;split at D
   .rename_i hn;have hn:=aX hn;obtain⟨m,rfl⟩:∃m,n=m+1:=⟨n-1,by omega⟩
    split at D
    .rename_i c' hput;cases D;unfold BC.put at hput;split at hput
     .rename_i hcc;simp only[ak]at hcc;let⟨⟨c1,c2⟩,c3⟩:=hcc;have c2:=aX c2;have hsrc:l! ((repl E (m+1)).map AV.f)=(m+1)*i:=by rw[bj,nY,hl]
      rw[hsrc]at c2;have N:c'.toMx=splice blk.c.toMx off ((repl E (m+1)).map AV.f)/\c'.isCells=J:=by
       split at hput
       next l ys hbl hys=>cases hput;refine ⟨?_,rfl⟩;have hv:=ta hys;rw[hv,hbl];simp only[BC.toMx];unfold splice;simp[nR,List.map_drop]
       .cases hput;exact⟨rfl,rfl⟩
      refine gJ.writes hblk λφ z h' w a hrd hb' hp hrep=>?_
      have hpx:=hp s _ (by rw[ho];simp[Op.operands,em]) hx;generalize hzv:a.eval s=pv at hpx;cases hpx with
      |@sl _ _ _ cap k hφ hn2 hcap=>
       let⟨arr,g1,g2,g3⟩:=hrep.cs hb' hφ c1;rw[BC.len_toMx c1]at c2;let⟨v,z1,z2,_⟩:=vj hz w;have csn:=Cs.repl (φ:=φ) (O:=tot z φ h') (w:=w) z2 (m+1) i hl hsz hc
       let ns:=(ml v.cells (m+1)).toList
       have hvs:v.cells.size=i:=by rw[<- hl,<-z2];simp
       have hns:ns=((Hg ((m+1)*i)).map (λsz=>v.cells[sz%v.cells.size]!)).toList:=by simp only[ns,ml,hvs]
       have hnl:l! ns=(m+1)*i:=by rw[hns];simp
       rw[<- hns]at csn;have hst:=run_storeCells_at (P:=P) k off blk.ty ns 0 arr w g1 (by rw[hnl];omega) csn.one
       let arr':Array Value:=(arr.toList.take (off+0)++ns++arr.toList.drop (off+0+l! ns)).toArray
       have hsize:arr'.size=arr.size:=by grind
       refine ⟨.value (.tuple #[]),w.setRow k arr',k,.cells arr' blk.ty (0,0),?_,hφ,KP.setRow g1 hsize,?_,_,.inl rfl,.qp (vs:=[]) rfl λj y v hy=>by simp at hy⟩
       .unfold execOp;rw[ho];have hst2:(storeCells ⟨k,off,U⟩ (ml v.cells (m+1)).toList).run P w= .ok () (w.setRow k arr'):=hst;simp[resolve,invoke,builtin,Builtin.clear_,run_underlying hu,hzv,z1,hst2]
       .refine tN N.2 (by rw[N.1,tp (by rw[hsrc];omega),hsize];exact g3) λj q t=>?_
        rw[N.1,sO (by rw[hsrc];omega)]at t;have ha':arr'[j]? =if j<off then arr.toList[j]? else if j<off+l! ns then ns[j-off]? else arr.toList[j]? :=by
         have:=sO (l:=arr.toList) (vs:=ns) (off:=off) (by grind) j;unfold splice at this
         grind
        rw[ha'];rw[hsrc]at t;rw[hnl];by_cases h1:j<off
        .rw[aK h1]at t ⊢;have hj:j<l! blk.c.toMx:=(bH.1 t).1;have I:j<l! arr.toList:=by simp;omega
         refine ⟨g2.2.1 q (bn t),arr.toList[j],aL I,g2.2.2 j q _ t ?_⟩
         grind
        rw[ay h1]at t ⊢;by_cases h2:j<off+(m+1)*i
        .rw[aK h2]at t ⊢;have hj3:j-off<l! ns:=by rw[hnl];omega
         exact⟨csn.2.1 q (bn t),_,aL hj3,csn.2.2 _ q _ t (aL hj3)⟩
        .rw[ay h2]at t ⊢;have hj:j<l! blk.c.toMx:=(bH.1 t).1;have I:j<l! arr.toList:=by simp;omega
         refine ⟨g2.2.1 q (bn t),arr.toList[j],aL I,g2.2.2 j q _ t ?_⟩
         grind
     .cases hput
    .cases D
   .cases D
  .cases D
 .cases D
end
def Qa (w:World) (ob:Obj):Xv w (w.drew.alloc ob) ob:=Xv.drawn (w.drawn+1) (sN {w with drawn:=w.drawn+1} ob)
section
variable {P:Program} {o:Oper} {e:wC} {h:ie} {nx:Nat} {R:AS}
def Lt (q:v.cells.toList=E) (A:l! E=i) (n:Nat):(ml v.cells n).size=n*i:=by
 have:v.cells.size=i:=by grind
 simp[ml,this]
variable {s:Operand}
def N9 {u D:TypeId} {x:Operand} {i:TypeInfo} (ho:o.op= .call {callee:=.builtin .append,args:=#[s,x],argTypes:=#[A,u]}) (hu:P.underlying A=Z (.slice D)) (i1:P.info? D=Z i) (hz:uN P D=Z E) (hzl:l! E=i.size)
 {z:Nat->Prop} (hrep:qE V z S w) (hnx:V nx=U) {t:M Addr} {n cap:Nat} {olds vs:ξ} {oldA:Y AV} (hsl:N.eval s= .slice t n cap)
 (hold:(OA i.size n (.slice t n cap)).run P w.drew= .ok olds.toArray w.drew) (csold:Cs V (tot z V S) w oldA olds) (hol:l! olds=n*i.size) (hsrc:Src P i.size u (N.eval x) m vs w) (hcs:Cs V (tot z V S) w K vs)
 (hg:cap<n+m) (r1:n+m<=1099511627776) (r2:(n+m)*i.bytes<=1099511627776) (del:ι) (hdel:∀j∈del,j≠nx):
 o.wp P N w (λa' w'=>∃v φ',a'=N.put o.dst v/\iv V φ' S (dX S (nx::del) (je [(nx,⟨D,pq (oldA++K)⟩)])) w w'/\(∀i k,φ' i=Z k->V i=Z k\/i∈[nx])/\
  qE φ' z (dX S (nx::del) (je [(nx,⟨D,pq (oldA++K)⟩)])) w'/\cG φ' (tot z φ' (dX S (nx::del) (je [(nx,⟨D,pq (oldA++K)⟩)]))) w' (.G nx i.size (n+m)) v) (λ_ _ _=>False):=by
 let⟨a,z1,z2,i',I,z3⟩:=vj hz w;rw[i1]at I;cases I;have hfb:=growslice_fits (need:=n+m) (old:=cap) (bytes:=i.bytes) hg (by omega);have hrun:=run_append_grow_src w A u o.type D i a hu i1 z3 t n cap olds hold (N.eval x) m vs hsrc hg (by omega) hfb;have hgc:=grownCap_ge w (n+m) cap D;have hgm:=grownCap_le_maxLen w (n+m) cap D (by unfold maxLen;omega);generalize grownCap w (n+m) cap D=Gc at hrun hgc hgm;have cs:=csold.append hcs;have hnl:=hsrc.newsLen;let⟨φ',p1,p2,p3,p4⟩:=hrep.wnew hnx (Qa w _) (b:=⟨D,pq (oldA++K)⟩) (ob:=.cells ((olds++vs).toArray++ml a.cells (Gc-(n+m))) D (0,0)) (by
  let⟨q1,q2⟩:=o6 (oldA++K);refine tN q2 (by rw[q1,<-cs.1];simp) λj q hq=>?_
  rw[q1]at hq;have hj:j<l! (olds++vs):=by rw[cs.1];exact (bH.1 hq).1
  refine ⟨cs.2.1 q (bn hq),_,?_,cs.2.2 j q _ hq (aL hj)⟩;rw[Array.getElem?_append_left (by omega),D7,aL hj]) del (je [(nx,⟨D,pq (oldA++K)⟩)]) (by simp[je]) (λj hj hne=>by
   simp only[je];rw[ay];intro hb;exact hne (ar hb).symm)
 have hexec:(execOp N.eval o).run P w= .ok (.value (.slice (Z ⟨w.heap.size,0,U⟩) (n+m) Gc)) (w.drew.alloc (.cells ((olds++vs).toArray++ml a.cells (Gc-(n+m))) D)):=by
  unfold execOp;rw[ho];simp[resolve,invoke,builtin,eM,nB,cM,List.map_toArray,eg,wE,hsl,hrun]
 unfold K2;rw[hexec];refine ⟨_,φ',rfl,p2,p3,p4,.G p1 hgc hgm ⟨D,?_⟩⟩;have:=(Qa w (.cells ((olds++vs).toArray++ml a.cells (Gc-(n+m))) D (0,0))).at_;unfold pU;have hzs:=Lt z2 hzl (Gc-(n+m));have e1:(n+m)*i.size+(Gc-(n+m))*i.size=Gc*i.size:=by rw[<- jl];congr 1;omega
 grind
def avr {u el el':TypeId} {x:Operand} (ho:o.op= .call {callee:=.builtin .append,args:=#[s,x],argTypes:=#[A,u]}) (hu:P.underlying A=Z (.slice el)) (hu':P.underlying u=Z (.slice el')) (hs:fK P el=Z i) (hb:Iu P el=Z m) (hz:uN P el=Z E) (hzl:l! E=i) (hsz:i≠0)
 (I:dO (.app el i m s x) e h nx=Z R):gJ P o e.get h.get R.eff:=by
 let⟨sz,i1,i2⟩:=Rh hb;have i3:sz.size=i:=by unfold fK at hs;rw[i1]at hs;simpa using hs
 subst i2 i3;simp only[dO]at I;split at I
 .rename_i bv y hsv D;split at I
  .rename_i src bytes rd hrow;have common:∀{φ:PM} {z:Nat->Prop} {h':HF} {w:World} {a:Act},(∀sz∈rd,h' sz=h.get sz)->Uf φ z h' w a e o->qE φ z h' w->∃vs,Src P sz.size u (a.eval x) bytes vs w/\Cs φ (tot z φ h') w src vs:=
    λhrd hp hrep=>akx hrow hrd hrep (hp x _ (by rw[ho];simp[Op.operands,em]) D) hu'
   have exec:∀{w w':World} {a:Act} {v:Value},(II #[A,u] o.type #[a.eval s,a.eval x]).run P w= .ok v w'->(execOp a.eval o).run P w= .ok (.value v) w':=by
    intro w w' a v hrun;unfold execOp;rw[ho];simp[resolve,invoke,builtin,hrun]
   split at I
   .rename_i id sz' n;split at I
    .rename_i blk hblk;split at I
     .rename_i hc;simp only[ak,du,dE]at hc;obtain⟨⟨⟨⟨⟨rfl,hmem⟩,hcells⟩,hlen⟩,hty⟩,hroom⟩:=hc;have hlen:=aX hlen;rw[BC.len_toMx hcells]at hlen;let⟨r1,r2⟩:=Fl hroom;cases I;subst hty;intro φ z h' w a h1 h2 h3 hrep h5;have hp:Uf φ z h' w a e o:=λx y D hy=>rY hrep h3 D hy
      have hb':h' id=Z blk:=by rw[h1 id (by simp[AS.eff])];exact hblk
      let⟨vs,hsrc,hcs⟩:=common (λsz hi=>h1 sz (by simp[AS.eff,hi])) hp hrep;have hpd:=hp s _ (by rw[ho];simp[Op.operands,em]) hsv;have hnx:φ nx=U:=h5 nx (by simp[AS.eff]);have hwv:=hp s _ (by rw[ho];simp[Op.operands,em]) hsv;generalize hzv:a.eval s=pv at hpd;cases hpd with
      |@G _ _ _ cap k hφ hn hcap hsh=>
       let⟨arr,g1,g2,g3⟩:=hrep.cs hb' hφ hcells;have hne:nx≠id:=λe=>by rw[e,hφ]at hnx;cases hnx
       have harr:arr.size=cap*sz.size:=by
        let⟨ty,hty⟩:=hsh;unfold pU at hty;rw[g1]at hty;simp at hty;exact hty.2
       have hnl:=hsrc.newsLen;have hnn:n*sz.size<=arr.size:=by omega
       have csnew:Cs φ (tot z φ h') w (blk.c.toMx.take (n*sz.size)++src) (arr.toList.take (n*sz.size)++vs):=by
        have:=(g2.take (n*sz.size)).append hcs
        rwa [su,Nat.min_eq_left hlen]at this
       have hnw1:je [(nx,⟨blk.ty,pq (blk.c.toMx.take (n*sz.size)++src)⟩)] nx=Z ⟨blk.ty,pq (blk.c.toMx.take (n*sz.size)++src)⟩:=by simp[je]
       have hnw2:je [(nx,⟨blk.ty,pq (blk.c.toMx.take (n*sz.size)++src)⟩)] id=U:=by
        simp only[je];rw[ay];intro hb;exact hne (ar hb)
       by_cases hfit:n+bytes<=cap
       ·
        have hend:n*sz.size+l! vs<=arr.size:=by
         rw[hnl,harr,<-jl];exact cg _ hfit
        have hst:=run_storeCells_at (P:=P) k (n*sz.size) blk.ty vs 0 arr w g1 (by omega) hsrc.one;simp only[dL]at hst
        let arr':Array Value:=(arr.toList.take (n*sz.size)++vs++arr.toList.drop (n*sz.size+l! vs)).toArray
        have hsize:arr'.size=arr.size:=by simp only[arr',List.size_toArray,aF,bl,fo,Array.length_toList];omega
        have hrun:(II #[A,u] o.type #[a.eval s,a.eval x]).run P w= .ok (.slice (Z ⟨k,0,U⟩) (n+bytes) cap) (w.setRow k arr'):=by
         rw[hzv];rcases hsrc.kind with ⟨e',hk⟩|hk<;>simp[II,run_underlying hu,run_underlying hk,sizeOf,typeInfo,i1,hsrc.len,hfit,hsrc.cells,iT,hst,arr']
        let⟨φ',p1,p2,p3,p4⟩:=hrep.wren hb' hφ hnx (KP.setRow g1 hsize) (b':=⟨blk.ty,pq (blk.c.toMx.take (n*sz.size)++src)⟩) (by
         let⟨q1,q2⟩:=o6 (blk.c.toMx.take (n*sz.size)++src);refine tN q2 (by rw[q1,<-csnew.1,hsize];simp;omega) λj q hq=>?_
         rw[q1]at hq;have hj:j<l! (arr.toList.take (n*sz.size)++vs):=by rw[csnew.1];exact (bH.1 hq).1
         refine ⟨csnew.2.1 q (bn hq),_,?_,csnew.2.2 j q _ hq (aL hj)⟩;simp only[arr',D7];rw[cU hj,aL hj]) _ hnw1 hnw2
        unfold K2;rw[exec hrun];refine ⟨_,φ',rfl,p2,p3,p4,.G p1 hfit hcap ⟨blk.ty,?_⟩⟩;unfold pU;rw[setRow_heap w k arr arr' blk.ty (0,0) g1];simp[hsize,harr]
       ·
        have hold:(OA sz.size n (.slice (Z ⟨k,0,U⟩) n cap)).run P w.drew= .ok (arr.toList.take (n*sz.size)).toArray w.drew:=by
         refine run_firstCells_some w.drew sz.size n _ n cap _ (by simp;omega) λj v N=>?_
         rw[dG]at N;split at N
         .rw[ep]at N;rw[iT,b9];have hcl:w.cell? ⟨k,j,U⟩=Z v:=by simp[Ry,g1,N]
          simpa using hcl
         .cases N
        exact N9 ho hu i1 hz hzl hrep hnx hzv hold (by
         have:=g2.take (n*sz.size)
         rwa [su,Nat.min_eq_left hlen]at this) (by simp;omega) hsrc hcs (by omega) r1 r2 [id] (λj hj=>by simp at hj;subst hj;exact λe=>hne e.symm)
     .cases I
    .cases I
   .rename_i cells n;split at I
    .rename_i hc;simp only[ak]at hc;let⟨hlen,hroom⟩:=hc;have hlen:=aX hlen;let⟨r1,r2⟩:=Fl hroom;split at I
     .rename_i hm;have hm:bytes=0:=by simpa using hm
      subst hm;cases I;refine gJ.reads λφ z h' w a hrd hp hrep=>?_
      let⟨vs,hsrc,hcs⟩:=common hrd hp hrep;have hr:=hp s _ (by rw[ho];simp[Op.operands,em]) hsv;generalize hz:a.eval s=q at hr;cases hr with
      |@qc _ _ t hr=>
       refine ⟨.slice t n n,exec ?_,.f hr⟩;rw[hz];have hvs:vs=[]:=by have:=hsrc.newsLen;simpa using this
       have hc0:=hsrc.cells;rw[hvs]at hc0;rcases hsrc.kind with ⟨e',hk⟩|hk<;>cases t<;>simp[II,run_underlying hu,run_underlying hk,sizeOf,typeInfo,i1,hsrc.len,hc0,storeCells]
     .rename_i hm;have hm:bytes≠0:=by simpa using hm
      cases I;intro φ z h' w a h1 h2 h3 hrep h5;have hp:Uf φ z h' w a e o:=λx y D hy=>rY hrep h3 D hy
      let⟨vs,hsrc,hcs⟩:=common (λsz hi=>h1 sz hi) hp hrep;have hr:=hp s _ (by rw[ho];simp[Op.operands,em]) hsv;generalize hz':a.eval s=q at hr;cases hr with
      |@qc _ _ t hr=>
       have key:∃olds:ξ,(OA sz.size n (.slice t n n)).run P w.drew= .ok olds.toArray w.drew/\Cs φ (tot z φ h') w ((cells.take (n*sz.size)).map .f) olds/\l! olds=n*sz.size:=by
        cases hr with
        |nil a c _=>
         refine ⟨[],?_,⟨by simp,(by intro x D;simp at D),(by intro j x v D;simp at D)⟩,by simp⟩;cases t with
         |none=>exact run_firstCells_none w.drew sz.size 0 0 0
         |some ad=>exact run_firstCells_some w.drew sz.size 0 ad 0 0 [] (by simp) (by intro j v N;simp at N)
        |sl _ _ c b off us hn hc hO hb hcl hu2 hrr=>
         refine ⟨(mI (n*sz.size)).map us,?_,⟨by simp;omega,?_,?_⟩,by simp⟩
         .refine run_firstCells_some w.drew sz.size n _ n n _ (by simp) λj v N=>?_
          rw[bL]at N;rcases bF j (n*sz.size) with hj|hj
          .rw[List.getElem?_range hj]at N;simp only[bS,af]at N;subst N;rw[iT];exact hu2 j (by omega)
          .rw[jG (by simpa using hj)]at N;cases N
         .intro x D;obtain⟨y,hy,rfl⟩:=cv.1 D;exact hcl y (dV hy)
         .intro j x v D N;rw[bL,dG]at D;split at D
          .rename_i hj;rw[bL,List.getElem?_range hj]at N;simp only[bS,af]at N;subst N;cases hcj:cells[j]? with
           |none=>rw[hcj]at D;cases D
           |some y=>
            rw[hcj]at D;simp only[bS,af]at D;subst D;exact .f (hrr j y hcj)
          .cases D
       let⟨olds,k1,k2,k3⟩:=key;have:=N9 (nx:=nx) ho hu i1 hz hzl hrep (h5 nx (by simp[AS.eff])) hz' k1 k2 k3 hsrc hcs (by omega) r1 r2 [] (by simp);simpa[AS.eff] using this
    .cases I
   .split at I
    .rename_i hc;simp only[ak]at hc;let⟨hb0,hroom⟩:=hc;let⟨r1,r2⟩:=Fl hroom;have hbase:∀{φ:PM} {O:Nat->Prop} {w:World} {v:Value},cG φ O w bv v->∃t,v= .slice t 0 0:=by
      intro φ O w v hr;unfold HV at hb0;split at hb0
      .cases hr;exact⟨_,rfl⟩
      .rename_i q;cases dJ hr;unfold CW at hb0;split at hb0
       .exact⟨_,rfl⟩
       .cases hb0
      .cases hb0
     split at I
     .rename_i hm;have hm:bytes=0:=by simpa using hm
      subst hm;cases I;refine gJ.reads λφ z h' w a hrd hp hrep=>?_
      let⟨vs,hsrc,hcs⟩:=common hrd hp hrep;have hr:=hp s _ (by rw[ho];simp[Op.operands,em]) hsv;let⟨t,hA⟩:=hbase hr;refine ⟨a.eval s,exec ?_,hr⟩;rw[hA];have hvs:vs=[]:=by have:=hsrc.newsLen;simpa using this
      have hc0:=hsrc.cells;rw[hvs]at hc0;rcases hsrc.kind with ⟨e',hk⟩|hk<;>cases t<;>simp[II,run_underlying hu,run_underlying hk,sizeOf,typeInfo,i1,hsrc.len,hc0,storeCells]
     .rename_i hm;have hm:bytes≠0:=by simpa using hm
      cases I;intro φ z h' w a h1 h2 h3 hrep h5;have hp:Uf φ z h' w a e o:=λx y D hy=>rY hrep h3 D hy
      let⟨vs,hsrc,hcs⟩:=common (λsz hi=>h1 sz hi) hp hrep;let⟨t,hA⟩:=hbase (hp s _ (by rw[ho];simp[Op.operands,em]) hsv);have hold:(OA sz.size 0 (.slice t 0 0)).run P w.drew= .ok ([]:ξ).toArray w.drew:=by
       cases t with
       |none=>exact run_firstCells_none w.drew sz.size 0 0 0
       |some ad=>exact run_firstCells_some w.drew sz.size 0 ad 0 0 [] (by simp) (by intro j v N;simp at N)
      have:=N9 (nx:=nx) (n:=0) (cap:=0) (olds:=[]) (oldA:=[]) ho hu i1 hz hzl hrep (h5 nx (by simp[AS.eff])) hA hold ⟨rfl,(by intro x D;cases D),(by intro j x v D;simp at D)⟩ (by simp) hsrc hcs (by omega) (by omega) (by simpa using r2) [] (by simp);simpa[AS.eff] using this
    .cases I
  .cases I
 .cases I
end
section
variable {P:Program} {o:Oper} {e:wC} {h:ie} {nx:Nat} {R:AS}
def ave (D:o.op= .makeMap A U) (q:dO .mkm e h nx=Z R):gJ P o e.get h.get R.eff:=by
 simp[dO,af]at q;subst q;refine gJ.makes λφ E h' w a _ _ _=>?_
 refine ⟨.map (Z w.heap.size),{w with heap:=w.heap.push (.map #[] 0)},.map #[] 0,?_,sN w _,⟨#[],0,rfl,by unfold MpK;rfl,by intro j x t;simp at t⟩,λφ' O hφ=>.mp hφ⟩;unfold execOp;rw[D];simp[Instr.makeMap,newObj,rA]
variable {s:Operand}
def av9 (t:o.op= .range A s) (I:P.underlying A=Z .string) (q:dO (.rng s) e h nx=Z R):gJ P o e.get h.get R.eff:=by
 simp[dO]at q;split at q
 .rename_i x D;simp[af]at q;subst q;refine gJ.makes λφ E h' w a _ hp _=>?_
  have N:=dJ (hp s _ (by rw[t];simp[Op.operands]) D);refine ⟨.pointer (Z ⟨w.heap.size,0,U⟩),{w with heap:=w.heap.push (.stringIter x 0)},.stringIter x 0,?_,sN w _,rfl,λφ' O hφ=>.H hφ⟩;unfold execOp;rw[t];simp[Instr.range,run_underlying I,N,newObj,rA]
 .cases q
def Lu {ob ob':Obj} (q:w.heap[i]? =Z ob) (h1:∀c t f,ob≠ .cells c t f) (h2:∀c t f,ob'≠ .cells c t f):KP w {w with heap:=w.heap.setIfInBounds i ob'} i ob':=by
 have hlt:i<w.heap.size:=(cW.1 q).1;have hat:(w.heap.setIfInBounds i ob')[i]? =Z ob':=by simp[hlt]
 have hot:∀j,j≠i->(w.heap.setIfInBounds i ob')[j]? =w.heap[j]? :=λj A=>Array.getElem?_setIfInBounds_ne (λe=>A e.symm)
 refine ⟨rfl,rfl,rfl,by simp,hat,hot,λj=>?_⟩;unfold pU
 grind
def ava (ho:o.op= .next s J) (q:dO (.nxt s) e h nx=Z R):gJ P o e.get h.get R.eff:=by
 simp only[dO]at q;split at q
 .rename_i id hx;split at q
  .rename_i ty x p hid;split at q
   .rename_i b hb;cases q;refine gJ.writes hid λφ E h' w a hrd I hp hrep=>?_
    have N:=hp s _ (by rw[ho];simp[Op.operands]) hx;generalize hz:a.eval s=z at N;cases N with
    |@H _ _ k hφ=>
     let⟨k',q1,_,ob,q2,q3⟩:=hrep.at_ id _ I;rw[hφ]at q1;cases q1;have q3:ob= .stringIter x p:=q3;subst q3;have hps:p<x.size:=by
      have:=(bH.1 hb).1;simpa using this
     have hget:x.get! p=b:=by
      have:x.data[p]? =Z b:=by grind
      have hpd:p<x.data.size:=(cW.1 this).1;have h2:x.data[p]! =x.data[p]:=getElem!_pos x.data p hpd;rw[pF hpd]at this;simp only[ByteArray.get!,h2];exact fP this
     have hdec:∃c:Nat,Utf8.decode x p=(c,wdA b x p)/\rnA b x p=(c:Int):=by
      unfold wdA rnA;cases hlt:dw b.toNat 128 with
      |true=>
       refine ⟨b.toNat,?_,rfl⟩;have:=aX hlt;unfold Utf8.decode
       grind
      |false=>exact⟨(Utf8.decode x p).1,rfl,rfl⟩
     let⟨c,hdec,hc⟩:=hdec;refine ⟨.value (.tuple #[.bool J,.int .i64 p,.int .i32 c]),_,k,.stringIter x (p+wdA b x p),?_,hφ,Lu q2 (by simp) (by simp),rfl,_,.inl rfl,?_⟩
     .unfold execOp;rw[ho];simp[Instr.next,hz,getObj,rA,q2,hps,hdec,setObj,goInt]
     .refine cG.qp (vs:=[.bool J,.int .i64 p,.int .i32 c]) rfl λj y v A D=>?_
      rw[hc]at A;rcases j with _|_|_|j<;>simp at A D
      .subst A D;exact .f (.raw _)
      .subst A D;exact .f (.raw _)
      .subst A D;exact .f (.raw _)
   .rename_i hb;cases q;refine gJ.writes hid λφ E h' w a hrd I hp hrep=>?_
    have N:=hp s _ (by rw[ho];simp[Op.operands]) hx;generalize hz:a.eval s=z at N;cases N with
    |@H _ _ k hφ=>
     let⟨k',q1,_,ob,q2,q3⟩:=hrep.at_ id _ I;rw[hφ]at q1;cases q1;have q3:ob= .stringIter x p:=q3;subst q3;have hps:¬p<x.size:=by simp_all
     refine ⟨.value (.tuple #[.bool aa]),w,k,.stringIter x p,?_,hφ,⟨rfl,rfl,rfl,rfl,q2,λ_ _=>rfl,λ_=>rfl⟩,rfl,_,.inl rfl,?_⟩
     .unfold execOp;rw[ho];simp[Instr.next,hz,getObj,rA,q2,hps]
     .refine cG.qp (vs:=[.bool aa]) rfl λj y v A D=>?_
      rcases j with _|j<;>simp at A D;subst A D;exact .f (.raw _)
  .cases q
 .cases q
def Cv {a b:ByteArray}:tH a b=J↔a=b:=by
 unfold tH;constructor
 .intro h;have h1:a.data.toList=b.data.toList:=by grind
  cases a;simp_all
 .rintro rfl;simp
def It (a b:ByteArray):(a==b)=tH a b:=by
 have h1:(a==b)=(a.data==b.data):=rfl;rw[h1,yX,Cv,du];constructor
 .intro h;cases a;congr 1
 .rintro rfl;rfl
def kd (str:Bool) (d:TypeDesc):Prop:=if str then d= .string else ∃k,d= .int k
def Fj {str:Bool} {d:TypeDesc} (hd:kd str d) {D:Value} (I:BE str v=J) (A:wA .eql v D=Z (.bool b)):Instr.sameNow d v D=Z b:=by
 cases str with
 |true=>
  subst hd;cases v<;>simp[BE]at I;cases D<;>simp only[wA]at A<;>try (simp at A;done)
  simp[af,EV]at A;simp[Instr.sameNow,It,A]
 |false=>
  obtain⟨q,rfl⟩:=hd;cases v<;>simp[BE]at I;cases D<;>simp only[wA]at A<;>try (simp at A;done)
  split at A
  next hkk=>have hkk':=eq_of_beq hkk;subst hkk';simp[af,EV]at A;simp[Instr.sameNow,<-A]
  .cases A
def VY {d:TypeDesc} (hd:kd b d) (N:BE b v=J):∀(A:Y A!) (ents:Y MapEntry) (i:Nat),ents.map (·.key)=A.map (·.1)->∀r,u4 v A=Z r->
 (r=U/\nS d v ents i=Z U)\/∃(j:Nat) (k:AV) (m:MapEntry) (D:Value),r=Z k/\A[j]? =Z (D,k)/\ents[j]? =Z m/\nS d v ents i=Z (Z (i+j,m.val))/\wA .eql v D=Z (.bool J)
 |[],ents,i,he,r,h=>by
  cases ents with
  |nil=>simp[u4,af]at h;exact .inl ⟨h.symm,rfl⟩
  |cons _ _=>simp at he
 |(D,k)::A,ents,i,he,r,h=>by
  cases ents with
  |nil=>simp at he
  |cons m ents=>
   simp[eg,iI]at he;let⟨q,he2⟩:=he;simp[u4]at h;split at h
   next I=>simp[af]at h;refine .inr ⟨0,k,m,D,h.symm,rfl,rfl,?_,I⟩;simp only[nS];rw[q,Fj hd N I];rfl
   .rename_i I;have hs:=Fj hd N I;rcases VY hd N A ents (i+1) he2 r h with ⟨h1,h2⟩|⟨j,v',m',k'',h1,h2,h3,h4,h5⟩
    .refine .inl ⟨h1,?_⟩;simp[nS];rw[q,hs];exact h2
    .refine .inr ⟨j+1,v',m',k'',h1,by simpa using h2,by simpa using h3,?_,h5⟩;simp[nS]
     grind
   .cases h
def Fk {d:TypeDesc} (D:P.underlying A=Z d) (hd:kd b d) (str:Bool) (v:Value) (w:World):(Instr.checkKey str 10000 A v).run P w= .ok () w:=by
 have key:∀n,(Instr.checkKey str (n+1) A v).run P w= .ok () w:=λn=>by
  unfold kd at hd;cases b with
  |true=>simp[bJ]at hd;subst hd;simp[Instr.checkKey,run_underlying D]
  |false=>simp[cA,fM]at hd;obtain⟨q,rfl⟩:=hd;simp[Instr.checkKey,run_underlying D]
 exact key 9999
def agc {ok:Bool} (h:cG V O w y v):cG V O w (pkV ok y b) (if ok then .tuple #[v,.bool b] else v):=by
 cases ok with
 |false=>exact h
 |true=>
  refine cG.qp (vs:=[v,.bool b]) rfl λj x u q A=>?_
  rcases j with _|_|j<;>simp at q A
  .grind
  .subst q A;exact .f (.raw _)
def apc {kt el:TypeId} {k:Operand} {str:Bool} {d:TypeDesc} (ho:o.op= .lookup A s k b) (hu:P.underlying A=Z (.map kt el)) (hk:P.underlying kt=Z d) (hd:kd str d) (D:(P.info? el).bind (·.zero)=Z v) (q:dO (.lku str b v s k) e h nx=Z R):gJ P o e.get h.get R.eff:=by
 simp only[dO]at q;split at q
 .rename_i id key hx hkx;split at q
  .rename_i N hid;split at q
   .rename_i hko;have fin:∀val:AV,(∀(φ:PM) (E:Nat->Prop) (h':HF) (w:World) (a:Act),h' id=Z ⟨0,.mp N⟩->Uf φ E h' w a e o->qE φ E h' w->∃z,(execOp a.eval o).run P w= .ok (.value z) w/\cG φ (tot E φ h') w val z)->R=⟨val,[id],[],[],[]⟩->gJ P o e.get h.get R.eff:=by
     rintro val hv rfl;exact gJ.reads λφ E h' w a hrd hp hrep=>hv φ E h' w a (by rw[hrd id (by simp)];exact hid) hp hrep
    have zrun:∀w:World,(zeroValue el).run P w= .ok v w:=λw=>by
     cases hi:P.info? el with
     |none=>rw[hi]at D;cases D
     |some i=>rw[hi]at D;simp only[aH]at D;simp[zeroValue,typeInfo,hi,D]
    have main:∀r,u4 key N=Z r->∀(φ:PM) (E:Nat->Prop) (h':HF) (w:World) (a:Act),h' id=Z ⟨0,.mp N⟩->Uf φ E h' w a e o->qE φ E h' w->
     ∃z,(execOp a.eval o).run P w= .ok (.value z) w/\cG φ (tot E φ h') w (match r with|some z=>pkV b z J|none=>pkV b (raw v) aa) z:=by
     intro r hr φ E h' w a hb' hp hrep;have hrx:=hp s _ (by rw[ho];simp[Op.operands]) hx;have hrk:=dJ (hp k _ (by rw[ho];simp[Op.operands]) hkx);generalize t:a.eval s=zz at hrx;cases hrx with
     |@mp _ ok hφ=>
      let⟨k',q1,_,ob,q2,q3⟩:=hrep.at_ id _ hb';rw[hφ]at q1;cases q1;obtain⟨ents,clock,rfl,q4,q5⟩:=q3;have q4:ents.toList.map (·.key)=N.map (·.1):=by unfold MpK at q4;exact q4
      have hck:=Fk (P:=P) hk hd ents.isEmpty key w;rcases VY hd hko N ents.toList 0 q4 r hr with ⟨h1,h2⟩|⟨j,z,m,k',h1,h2,h3,h4,_⟩
      .subst h1;refine ⟨_,?_,agc (.f (.raw v))⟩;unfold execOp;rw[ho];cases b<;>simp[Instr.lookup,run_underlying hu,t,hrk,getObj,rA,q2,hck,Instr.findKey,run_underlying hk,h2,zrun]
      .subst h1;let⟨_,I,h7⟩:=q5 j _ h2;unfold MpV at I;obtain⟨m',I,rfl⟩:=I;rw[ep]at h3;rw[h3]at I;cases I;refine ⟨_,?_,agc h7⟩;unfold execOp;rw[ho];cases b<;>simp[Instr.lookup,run_underlying hu,t,hrk,getObj,rA,q2,hck,Instr.findKey,run_underlying hk,h4]
    split at q
    next z hf=>simp only[af]at q;exact fin _ (main _ hf) q.symm
    next hf=>simp only[af]at q;exact fin _ (main _ hf) q.symm
    .cases q
   .cases q
  .cases q
 .cases q
def Z4 {d:TypeDesc} (hd:kd b d) (hk:BE b v=J) {k:AV}:∀(q es':Y A!) (ents:Y MapEntry) (i:Nat),ents.map (·.key)=q.map (·.1)->Bz v k q=Z es'->
 (nS d v ents i=Z U/\es'=q++[(v,k)])\/∃(j:Nat) (m:MapEntry) (D:Value) (N:AV),q[j]? =Z (D,N)/\ents[j]? =Z m/\nS d v ents i=Z (Z (i+j,m.val))/\wA .eql v D=Z (.bool J)/\es'=q.set j (v,k)
 |[],es',ents,i,he,h=>by
  cases ents with
  |nil=>simp[Bz,af]at h;exact .inl ⟨rfl,by simp[h]⟩
  |cons _ _=>simp at he
 |(D,N)::q,es',ents,i,he,h=>by
  cases ents with
  |nil=>simp at he
  |cons m ents=>
   simp[eg,iI]at he;let⟨A,he2⟩:=he;simp[Bz]at h;split at h
   next I=>simp[af]at h;refine .inr ⟨0,m,D,N,rfl,rfl,?_,I,by simp[h]⟩;simp only[nS];rw[A,Fj hd hk I];rfl
   .rename_i I;have hs:=Fj hd hk I;split at h
    .rename_i es2 hes2;simp[af]at h;subst h;rcases Z4 hd hk q es2 ents (i+1) he2 hes2 with ⟨h1,h2⟩|⟨j,m',k'',v'',h1,h2,h3,h4,h5⟩
     .refine .inl ⟨?_,by simp[h2]⟩;simp[nS];rw[A,hs];exact h1
     .refine .inr ⟨j+1,m',k'',v'',by simpa using h1,by simpa using h2,?_,h4,by simp[h5]⟩;simp[nS]
      grind
    .cases h
   .cases h
def ai4 {A:Value} (D:BE b v=J) (q:wA .eql v A=Z (.bool J)):Instr.sameBits 10000 A v=J/\A=v:=by
 cases b with
 |true=>
  cases v<;>simp[BE]at D;cases A<;>simp only[wA]at q<;>try (simp at q;done)
  simp[af,EV]at q;have:=Cv.1 q;subst this;exact⟨by simp[Instr.sameBits,It,q],rfl⟩
 |false=>
  cases v<;>simp[BE]at D;cases A<;>simp only[wA]at q<;>try (simp at q;done)
  split at q
  next hkk=>have hkk':=eq_of_beq hkk;subst hkk';simp[af,EV,du]at q;subst q;exact⟨by simp[Instr.sameBits],rfl⟩
  .cases q
def apb {kt el:TypeId} {k y:Operand} {str:Bool} {d:TypeDesc} (ho:o.op= .mapUpdate A s k y) (hu:P.underlying A=Z (.map kt el)) (hk:P.underlying kt=Z d) (hd:kd str d) (D:dO (.mup str s k y) e h nx=Z R):gJ P o e.get h.get R.eff:=by
 simp only[dO]at D;split at D
 .rename_i id key v hx hkx hy;split at D
  .rename_i t hid;split at D
   .rename_i hko;split at D
    .rename_i es' hput;cases D;refine gJ.writes hid λφ E h' w a hrd hb' hp hrep=>?_
     have hrx:=hp s _ (by rw[ho];simp[Op.operands]) hx;have hrk:=dJ (hp k _ (by rw[ho];simp[Op.operands]) hkx);have hry:=hp y _ (by rw[ho];simp[Op.operands]) hy;generalize N:a.eval s=zz at hrx;cases hrx with
     |@mp _ b hφ=>
      let⟨k',q1,_,ob,q2,q3⟩:=hrep.at_ id _ hb';rw[hφ]at q1;cases q1;obtain⟨ents,clock,rfl,q4,q5⟩:=q3;have q4:ents.toList.map (·.key)=t.map (·.1):=by unfold MpK at q4;exact q4
      have q5:∀(j:Nat) s,t[j]? =Z s->∃m,ents[j]? =Z m/\cG φ (tot E φ h') w s.2 m.val:=λj s hx=>by
       let⟨_,I,g2⟩:=q5 j s hx;unfold MpV at I;obtain⟨m,I,rfl⟩:=I;exact⟨m,I,g2⟩
      have OR:∀(t:Y A!) (ents:Array MapEntry) (clock:Nat),ents.toList.map (·.key)=t.map (·.1)->(∀(j:Nat) s,t[j]? =Z s->∃m,ents[j]? =Z m/\cG φ (tot E φ h') w s.2 m.val)->jS φ (tot E φ h') w ⟨0,.mp t⟩ (.map ents clock):=λt ents clock I g2=>⟨ents,clock,rfl,by unfold MpK;exact I,λj s hx=>by
       let⟨m,g3,g4⟩:=g2 j s hx;exact⟨_,by unfold MpV;exact⟨m,g3,rfl⟩,g4⟩⟩
      have hck:=Fk (P:=P) hk hd aa key w;have hlen:ents.size=l! t:=by have:=gW ah q4;simpa using this
      rcases Z4 hd hko t es' ents.toList 0 q4 hput with ⟨h1,rfl⟩|⟨j,m,k',v',h1,h2,h3,h4,rfl⟩
      .refine ⟨.skip,_,b,.map (ents.push {key,val:=a.eval y,born:=clock}) (clock+1),?_,hφ,Lu q2 (by simp) (by simp),OR _ _ _ (by simp[q4]) λj q hq=>?_,undef,.inr ⟨rfl,rfl⟩,.f (.raw _)⟩
       .unfold execOp;rw[ho];simp[Instr.mapUpdate,run_underlying hu,N,hrk,getObj,rA,q2,hck,Instr.findKey,run_underlying hk,h1,setObj]
       .rcases bF j (l! t) with hj|hj
        .grind
        .rw[cB hj]at hq;have hj0:j-l! t=0:=by grind
         rw[hj0]at hq;simp at hq;subst hq;exact⟨_,by rw[Array.getElem?_push,aK (by omega)],hry⟩
      .obtain⟨s1,s2⟩:=ai4 hko h4;subst s2;rw[ep]at h2;rw[b9]at h3;have hjl:j<ents.size:=(cW.1 h2).1;have hmk:m.key=k':=by
        have e1:(ents.toList.map (·.key))[j]? =Z m.key:=by rw[bL,ep,h2];rfl
        rw[q4,bL,h1]at e1;simpa using e1.symm
       refine ⟨.skip,_,b,.map (ents.modify j λe=>{e with key:=k',val:=a.eval y}) clock,?_,hφ,Lu q2 (by simp) (by simp),OR _ _ _ ?_ λi q hq=>?_,undef,.inr ⟨rfl,rfl⟩,.f (.raw _)⟩
       .unfold execOp;rw[ho];simp[Instr.mapUpdate,run_underlying hu,N,hrk,getObj,rA,q2,hck,Instr.findKey,run_underlying hk,h3,setObj,h2,hmk,Instr.keyThatStays,s1]
       .apply List.ext_getElem?;intro i;simp only[bL,ep,g_,Array.getElem?_modify];have e2:∀i:Nat,(ents[i]?).map (λm:MapEntry=>m.key)=(t[i]?).map (λp:Value×AV=>p.1):=λi=>by
         have:=gW (λl=>l[i]?) q4;simpa[bL,ep] using this
        grind
       .grind
    .cases D
   .cases D
  .cases D
 .cases D
end
section
variable {P:Program} {o:Oper} {e:wC} {h:ie} {nx:Nat} {R:AS}
def UM {d:TypeDesc} (t:P.underlying A=Z d) (hd:(match d with|.int _=>J|.bool=>J|.string=>J|_=>aa)=J) (cs:Array Value) (j:Nat) (v:Value) (q:cs[j]? =Z v) (w:World):(part A cs j).run P w= .ok v w:=by
 unfold part;simp[isAgg,eM,run_underlying t,cM];cases d<;>simp at hd<;>simp[q]
def adq {d:TypeDesc} (q:P.underlying A=Z d) (hd:(match d with|.int _=>J|.bool=>J|.string=>J|_=>aa)=J) {x y:FV} (hxy:Ab d x y=Z b) {u:Value} (I:x= .raw u) (D:y= .raw v) (n:Nat) (w:World):(Op.equalIn (n+1) A u v).run P w= .ok b w:=by
 subst I D;cases d<;>simp at hd<;>cases u<;>cases v<;>simp only[Ab]at hxy<;>first|(cases hxy;done)|skip
 .cases hxy;simp[Op.equalIn,run_underlying q]
 .split at hxy
  next N=>have t:=eq_of_beq N;subst t;cases hxy;simp[Op.equalIn,run_underlying q]
  .cases hxy
 .cases hxy;simp[Op.equalIn,run_underlying q,It]
abbrev Td (n:Nat) (xs q:Array Value) (f:Field) (_:M Bool×Unit):Sem (ForInStep (M Bool×Unit)):=
 if f.name≠ "_" then do
  let a←part f.type xs f.offset
  let b←part f.type q f.offset
  let c←Op.equalIn (n+1) f.type a b
  if (!c)=J then pure (ForInStep.done (Z aa,())) else pure (ForInStep.yield (U,()))
 else pure (ForInStep.yield (U,()))
def QN (n:Nat) (w:World) (xs A:Array Value):∀(fs:Y Field) (ds:Y TypeDesc) (a b:Y FV) (k:Nat) (r:Bool),tq P k fs=Z ds->
 (∀(j:Nat) x u,a[j]? =Z x->xs[k+j]? =Z u->x= .raw u\/∀v,x≠ .raw v)->(∀(j:Nat) x u,b[j]? =Z x->A[k+j]? =Z u->x= .raw u\/∀v,x≠ .raw v)->(∀(j:Nat),j<l! a->k+j<xs.size)->(∀(j:Nat),j<l! b->k+j<A.size)->qB ds a b=Z r->
 (forIn fs (U,()) (Td n xs A)).run P w= .ok (if r then (U,()) else (Z aa,())) w
 |[],ds,a,b,k,r,hp,_,_,_,_,he=>by
  simp only[tq,af]at hp;subst hp;cases a<;>cases b<;>simp[qB]at he;subst he;simp
 |f::fs,ds,a,b,k,r,hp,ha,hb,hla,hlb,he=>by
  simp only[tq]at hp;split at hp
  .rename_i d ds' hu hp';split at hp
   .rename_i hc;simp only[ak,bne_iff_ne,ne_eq,du]at hc;let⟨⟨hn,hof⟩,hd⟩:=hc;cases hp;cases a with
    |nil=>cases b<;>simp[qB]at he
    |cons x a=>
     cases b with
     |nil=>simp[qB]at he
     |cons y b=>
      simp only[qB]at he;have N:k<xs.size:=by have:=hla 0 (by simp);omega
      have I:k<A.size:=by have:=hlb 0 (by simp);omega
      have hraw:∀(z:FV) (q:Value),(z= .raw q\/∀v,z≠ .raw v)->(∃v,z= .raw v)->z= .raw q:=by
       rintro z q (h|h) ⟨v,hv⟩
       .exact h
       .exact bc hv (h v)
      have hxr:∀D,Ab d x y=Z D->x= .raw xs[k]/\y= .raw A[k]:=by
       intro D hbb;have hrr:(∃v,x= .raw v)/\∃v,y= .raw v:=by
        unfold Ab at hbb;split at hbb
        .exact⟨⟨_,rfl⟩,⟨_,rfl⟩⟩
        .exact⟨⟨_,rfl⟩,⟨_,rfl⟩⟩
        .exact⟨⟨_,rfl⟩,⟨_,rfl⟩⟩
        .cases hbb
       exact⟨hraw x _ (ha 0 x _ rfl (by simp[N])) hrr.1,hraw y _ (hb 0 y _ rfl (by simp[I])) hrr.2⟩
      have hstep:∀D,Ab d x y=Z D->(Td n xs A f (U,())).run P w= .ok (if D then ForInStep.yield (U,()) else ForInStep.done (Z aa,())) w:=by
       intro D hbb;let⟨h1,h2⟩:=hxr D hbb;have p1:=UM hu (by cases d<;>simp[LO]at hd<;>rfl) xs k xs[k] (by simp[N]) w;have p2:=UM hu (by cases d<;>simp[LO]at hd<;>rfl) A k A[k] (by simp[I]) w;have p3:=adq hu (by cases d<;>simp[LO]at hd<;>rfl) hbb h1 h2 n w;unfold Td;rw[aK hn,hof];simp only[eM,p1,p2,p3,cM];cases D<;>simp
      rw[List.forIn_cons];simp only[eM];split at he
      .rename_i hbb;rw[hstep J hbb];simp only[cM,bJ];exact QN n w xs A fs ds' a b (k+1) r hp' (λj x u h1 h2=>ha (j+1) x u (by simpa using h1) (by rw[<- h2];congr 1;omega)) (λj x u h1 h2=>hb (j+1) x u (by simpa using h1) (by rw[<- h2];congr 1;omega))
        (λj hj=>by have:=hla (j+1) (by simpa using hj);omega) (λj hj=>by have:=hlb (j+1) (by simpa using hj);omega) he
      next hbb=>rw[hstep aa hbb];cases he;simp
      .cases he
   .cases hp
  .cases hp
def adp {t:Array Field} (D:P.underlying A=Z (.struct t)) (I:P.stoodInHeld A=aa) {ds:Y TypeDesc} (hp:tq P 0 t.toList=Z ds) (xs q:Array Value) {a r:Y FV} 
 (ha:∀(j:Nat) x u,a[j]? =Z x->xs[j]? =Z u->x= .raw u\/∀v,x≠ .raw v) (hb:∀(j:Nat) x u,r[j]? =Z x->q[j]? =Z u->x= .raw u\/∀v,x≠ .raw v) (hla:l! a=xs.size) (hlb:l! r=q.size) (he:qB ds a r=Z b) (w:World):
 (Op.equal A (.agg xs) (.agg q)).run P w= .ok b w:=by
 have key:∀n,(Op.equalIn (n+2) A (.agg xs) (.agg q)).run P w= .ok b w:=by
  intro n;rw[Op.equalIn];have h1:=QN (P:=P) n w xs q t.toList ds a r 0 b hp (λj x u h1 h2=>ha j x u h1 (by grind)) (λj x u h1 h2=>hb j x u h1 (by grind)) (λj N=>by omega) (λj N=>by omega) he;rw[Array.forIn_toList]at h1;simp only[eM,run_underlying D,cM,program,rA,I,cA,fM];have h2:(forIn t (U,()) (λf __s=>Td n xs q f __s)).run P w= .ok (if b then (U,()) else (Z aa,())) w:=h1;rw[h2];cases b<;>simp
 exact key 9998
def V7 {q:Array Field} (hu:P.underlying A=Z (.struct q)) {ds:Y TypeDesc} (hp:tq P 0 q.toList=Z ds):P.eqGuardType P.depth A=aa:=by
 have key:∀(q:Y Field) (k:Nat) (ds:Y TypeDesc),tq P k q=Z ds→∀d,(q.any λf=>f.name != "_" &&P.eqGuardType (d+1) f.type)=aa:=by
  intro q;induction q with
  |nil=>intros;rfl
  |cons f q N=>
   intro k ds hp d;simp only[tq]at hp;split at hp
   .rename_i dd ds' t D;split at hp
    .rename_i I;simp[ak]at I;have:P.eqGuardType (d+1) f.type=aa:=by
      unfold Program.eqGuardType;rw[t];have:=I.2;cases dd<;>simp[LO]at this<;>rfl
     simp only[List.any_cons,this,Bool.and_false,nU];exact N (k+1) ds' D d
    .cases hp
   .cases hp
 unfold Program.depth Program.eqGuardType;rw[hu];simp only[];rw[← Array.any_toList];exact key q.toList 0 ds hp _
variable {s:Operand}
def apd {t':TypeId} {op:BinOp} {neg:Bool} {y:Operand} {fs:Array Field} {ds:Y TypeDesc} (ho:o.op= .binOp op A s y t') (hop:op=if neg then .neq else .eql) (D:P.underlying A=Z (.struct fs)) (hs:P.stoodInHeld A=aa) (hp:tq P 0 fs.toList=Z ds) (q:dO (.jp neg ds s y) e h nx=Z R):gJ P o e.get h.get R.eff:=by
 simp[dO]at q;split at q
 .rename_i a b t hy;split at q
  .rename_i r hr;rw[dh q];refine gJ.reads λφ E h' w ac _ hpp _=>?_
   have h1:=hpp s _ (by rw[ho];simp[Op.operands]) t;have h2:=hpp y _ (by rw[ho];simp[Op.operands]) hy;generalize hzx:ac.eval s=zx at h1;generalize hzy:ac.eval y=zy at h2;have rawOr:∀(l:Y FV) (vs:ξ),(∀(j:Nat) s v,l[j]? =Z s->vs[j]? =Z v->nA (tot E φ h') w s v)->∀(j:Nat) s u,l[j]? =Z s->vs.toArray[j]? =Z u->s= .raw u\/∀v,s≠ .raw v:=by
    intro l vs hr j s u t D;have:=hr j s u t (by grind);cases this with
    |raw v=>exact .inl rfl
    |_=>exact .inr (by simp)
   cases h1 with
   |f h1=>
    cases h1 with
    |agg _ vs hl hcl N=>
     cases h2 with
     |f h2=>
      cases h2 with
      |agg _ us hl' hcl' I=>
       have heq:=adp D hs hp vs.toArray us.toArray (rawOr a vs N) (rawOr b us I) (by grind) (by grind) hr w;refine ⟨_,?_,.f (.raw _)⟩;have hg:=V7 D hp;unfold execOp;rw[ho];simp[hzx,hzy];subst hop;cases neg<;>simp[eqGuard,program,rA,hg,binOp,heq]
  .cases q
 .cases q
end
def bind_some {β:Type} {x:M R} {f:R->M β} {y:β} (h:x.bind f=Z y):∃a,x=Z a/\f a=Z y:=by
 cases x with
 |none=>cases h
 |some a=>exact⟨a,rfl,h⟩
def map_some {β:Type} {x:M R} {f:R->β} {y:β} (h:x.map f=Z y):∃a,x=Z a/\f a=y:=by simp_all
def mR {x:M R} {y:R} (h:(if b then x else U)=Z y):b=J/\x=Z y:=by grind
def Fy {e:wC} {h:ie} {s:Rr} {R:AS} (A:cY P j.op=Z s) (I:dO s e h i=Z R):gJ P j e.get h.get R.eff:=by
 unfold cY at A;split at A
 next x D=>cases A;exact avd (.inl D) I
 next x D=>cases A;exact avd (.inr D) I
 next c a b D=>cases A;exact arq D I
 next t D=>let⟨z,h1,A⟩:=bind_some A;let⟨h2,A⟩:=mR A;cases A;exact anm D h1 h2 I
 next t x D=>cases A;exact avq D I
 .rename_i t ps D;split at A
  next fs N=>let⟨z,h1,A⟩:=bind_some A;let⟨h2,A⟩:=mR A;obtain⟨ps',h3,rfl⟩:=map_some A;simp only[ak]at h2;exact ac0 D h1 h2.1 h3 (.inl ⟨fs,N,h2.2⟩) I
  next n el N=>let⟨z,h1,A⟩:=bind_some A;let⟨h2,A⟩:=mR A;obtain⟨ps',h3,rfl⟩:=map_some A;simp only[ak]at h2;let⟨sz,h4⟩:=jT.1 h2.2;exact ac0 D h1 h2.1 h3 (.inr ⟨n,el,sz,N,h4⟩) I
  .cases A
 next t n ps D=>let⟨el,h1,A⟩:=bind_some A;let⟨z,h2,A⟩:=bind_some A;let⟨sz,h3,A⟩:=bind_some A;let⟨h4,A⟩:=mR A;obtain⟨ps',h5,rfl⟩:=map_some A;simp only[ak,du,bne_iff_ne]at h4;exact avp D (yi h1) h2 h3 h4.1.1.1 h4.1.1.2 h4.2 (aX h4.1.2) h5 I
 next t x D=>let⟨sz,h1,A⟩:=bind_some A;obtain⟨ag,h2,rfl⟩:=map_some A;exact aru D h1 h2 I
 next t x v D=>obtain⟨sz,h1,rfl⟩:=map_some A;exact anl D h1 I
 next x D=>cases A;exact ars D I
 .rename_i op t x y t' D;split at A
  .cases A;exact apf D I
  .cases A;exact apf D I
  .rename_i N;split at A
   .cases A;exact ape (neg:=aa) D rfl N I
   .cases A;exact ape (neg:=J) D rfl N I
   .cases A
  .rename_i el N;split at A
   .cases A;exact abz (neg:=aa) D rfl rfl N I
   .cases A;exact abz (neg:=J) D rfl rfl N I
   .cases A
  .rename_i ms N;split at A
   .cases A;exact aji (neg:=aa) D rfl rfl N I
   .cases A;exact aji (neg:=J) D rfl rfl N I
   .cases A
  .rename_i fs N;let⟨ds,h1,A⟩:=bind_some A;unfold agb at h1;rw[N]at h1;simp only[]at h1;split at h1
   .cases h1
   .rename_i hst;have hst:P.stoodInHeld t=aa:=by simpa using hst
    split at A
    .cases A;exact apd (neg:=aa) D rfl N hst h1 I
    .cases A;exact apd (neg:=J) D rfl N hst h1 I
    .cases A
  .cases A
 next t x D=>cases A;exact avb D I
 .rename_i t x D;split at A
  .cases A;exact avc D I
  .cases A
 .rename_i s' d x D;split at A
  next k k' h1 h2=>cases A;exact ary D h1 h2 I
  .rename_i el h1 h2;split at A
   next h3=>cases A;exact avo D h1 h2 h3 I
   .cases A
  .rename_i el h1 h2;split at A
   next h3=>cases A;exact av5 D h1 h3 h2 I
   .cases A
  .cases A
 next t l c D=>let⟨el,h1,A⟩:=bind_some A;let⟨z,h2,A⟩:=bind_some A;let⟨sz,h3,A⟩:=bind_some A;let⟨b,h5,A⟩:=bind_some A;let⟨h4,A⟩:=mR A;simp only[ak,du,bne_iff_ne]at h4;cases A;exact art D (yi h1) h2 h3 h5 h4.1.1 h4.1.2 h4.2 I
 .rename_i t x lo hi mx D;split at A
  .rename_i n el N;split at A
   .obtain⟨sz,h1,A⟩:=bind_some A;let⟨h2,A⟩:=mR A;cases A;exact av8 D N h1 (aX h2) I
   .cases A
  .rename_i N;split at A
   .cases A;exact av6 D N I
   .cases A
  .obtain⟨el,h1,A⟩:=bind_some A;obtain⟨sz,h2,rfl⟩:=map_some A;exact av7 D (yi h1) h2 I
 .rename_i t x k D;split at A
  next fs N=>let⟨f,h1,A⟩:=bind_some A;let⟨sz,h2,A⟩:=bind_some A;let⟨h3,A⟩:=mR A;cases A;exact avl D N h1 h2 (by simpa using h3) I
  .cases A
 .rename_i t x k D;split at A
  next fs N=>let⟨f,h1,A⟩:=bind_some A;let⟨sz,h2,A⟩:=bind_some A;obtain⟨ag,h3,rfl⟩:=map_some A;exact avk D N h1 h2 h3 I
  .cases A
 .rename_i t x nx D;split at A
  next el N=>obtain⟨sz,h1,rfl⟩:=map_some A;exact avj D N h1 I
  next n el N=>obtain⟨sz,h1,rfl⟩:=map_some A;exact arx D N h1 I
  .cases A
 .rename_i t x nx D;split at A
  next n el N=>let⟨sz,h1,A⟩:=bind_some A;obtain⟨ag,h2,rfl⟩:=map_some A;exact avi D N h1 h2 I
  next N=>cases A;exact arp D N I
  .cases A
 next x nx D=>cases A;exact avm D I
 .rename_i f first caps D
  let⟨h1,A⟩:=mR A;cases A;have h2:first=#[]:=by simpa using h1
  subst h2;exact avf D I
 .rename_i t D;split at A
  .cases A;exact ave D I
  .cases A
 .rename_i t x k ok D;split at A
  .rename_i kt el N;split at A
   next q z h1 h2=>let⟨h3,A⟩:=mR A;cases A;exact apc (str:=aa) D N h1 ⟨q,rfl⟩ h2 I
   next z h1 h2=>let⟨h3,A⟩:=mR A;cases A;exact apc (str:=J) D N h1 rfl h2 I
   .cases A
  .cases A
 .rename_i t m k v D;split at A
  .rename_i kt el N;split at A
   next q h1=>cases A;exact apb (str:=aa) D N h1 ⟨q,rfl⟩ I
   next h1=>cases A;exact apb (str:=J) D N h1 rfl I
   .cases A
  .cases A
 .rename_i t x D;split at A
  next N=>cases A;exact av9 D N I
  .cases A
 next x D=>cases A;exact ava D I
 .rename_i c D;let⟨callee,args,argTypes⟩:=c;have arr:∀{α:Type} {x:Array α} {l:Y α},x.toList=l->x=l.toArray:=λh=>by rw[<- h]
  unfold W6 at A;simp only[]at A;split at A
  .split at A
   .rename_i x t h1 h2;rw[arr h1,arr h2]at D;split at A
    next el N=>cases A;exact arw D N I
    next N=>cases A;exact arv D N I
    .cases A
   .cases A
  .split at A
   next x y h1=>rw[arr h1]at D;cases A;exact avh D I
   .cases A
  .split at A
   next x y h1=>rw[arr h1]at D;cases A;exact avg D I
   .cases A
  .split at A
   next x t h1 h2=>rw[arr h1,arr h2]at D;let⟨el,h3,A⟩:=bind_some A;let⟨z,h4,A⟩:=bind_some A;let⟨sz,h5,A⟩:=bind_some A;let⟨h6,A⟩:=mR A;simp only[ak,du,bne_iff_ne,ne_eq]at h6;cases A;exact avn D (yi h3) h4 h6.1.1 h6.1.2 h6.2 I
   .cases A
  .split at A
   .rename_i s' x t u h1 h2;rw[arr h1,arr h2]at D;split at A
    next el el' h1 h2=>let⟨sz,h3,A⟩:=bind_some A;let⟨b,h4,A⟩:=bind_some A;let⟨z,h5,A⟩:=bind_some A;let⟨h6,A⟩:=mR A;simp only[ak,du,bne_iff_ne]at h6;cases A;exact avr D (yi h1) (yi h2) h3 h4 h5 h6.2 h6.1 I
    .cases A
   .cases A
  .cases A
 .cases A
def mX :∀{l:Y AV},AV.allL p l=J->∀x∈l,AV.all p x=J
 |[],_,x,q=>by cases q
 |y::l,h,x,q=>by
  simp[AV.allL,ak]at h;rcases bk.1 q with rfl|q
  .exact h.1
  .exact mX h.2 x q
def cG.restrict {φ':PM} {O':Nat->Prop} (N:∀i k,p i=J->V i=Z k->φ' i=Z k) (ho:∀k,O' k->O k) (h:cG V O w y v):y.all p=J->cG φ' O' w y v:=by
 induction h with
 |f h=>intro _;exact .f (h.ext (O':=O') (ES.refl O w) λk _ hk=>ho k hk)
 |H h=>intro hp;exact .H (N _ _ hp h)
 |sl h hn hc=>intro hp;exact .sl (N _ _ hp h) hn hc
 |G h hn hc hsh=>intro hp;exact .G (N _ _ hp h) hn hc hsh
 |emp=>intro _;exact .emp
 |qj=>intro _;exact .qj
 |qc h=>intro _;exact .qc (h.ext (O':=O') (ES.refl O w) λk _ hk=>ho k hk)
 |mp h=>intro hp;exact .mp (N _ _ hp h)
 |agg I hcl hr A=>intro hp;exact .agg I hcl λj y v q D=>A j y v q D (mX hp y (bn q))
 |qp I hr A=>intro hp;exact .qp I λj y v q D=>A j y v q D (mX hp y (bn q))
 |qv I hr A=>intro hp;exact .qv I λj y v q D=>A j y v q D (mX hp y (bn q))
def jS.restrict {φ':PM} {O':Nat->Prop} {w':World} (N:∀x v,x.all p=J->cG V O w x v->cG φ' O' w' x v) {o:Obj} (I:z.c.all p=J) (h:jS V O w z o):jS φ' O' w' z o:=by
 unfold jS at h ⊢;cases D:z.c with
 |fz l=>
  rw[D]at h;let⟨arr,h1,h2,h3⟩:=h;exact⟨arr,h1,h2,λj x A=>by
   let⟨a,v,c,d⟩:=h3 j x A;refine ⟨a,v,c,N _ _ ?_ d⟩;simp only[BC.get]at A;cases hl:l[j]? with
   |none=>rw[hl]at A;cases A
   |some q=>rw[hl]at A;simp at A;subst A;rfl⟩
 |mx l=>
  rw[D]at h I;let⟨arr,h1,h2,h3⟩:=h;exact⟨arr,h1,h2,λj x A=>by
   let⟨a,v,c,d⟩:=h3 j x A;exact⟨a,v,c,N _ _ (mX I x (bn A)) d⟩⟩
 |mp es=>
  rw[D]at h I;let⟨e,c,h1,h2,h3⟩:=h;exact⟨e,c,h1,h2,λj x A=>by
   let⟨m,a,z⟩:=h3 j x A;exact⟨m,a,N _ _ (mX I x.2 (cv.2 ⟨x,bn A,rfl⟩)) z⟩⟩
 |it s q=>rw[D]at h;exact h
def aav {h:ie} (A:ie.all p h=J) (q:h.get i=Z z):p i=J/\z.c.all p=J:=by
 have:=PT.get_all _ h 1 0 i z A q
 grind
def Rk (m:Nat):ι:=(mI (m+1)).filter λi=>aC m i
def lV :i∈Rk m↔aC m i=J:=by
 unfold Rk;rw[yW,oI];constructor
 .exact λh=>h.2
 .intro h;refine ⟨?_,h⟩;have h1:=Nat.ge_two_pow_of_testBit h;have h2:=Nat.lt_two_pow_self (n:=i);omega
def jR (φ:PM) (O:Nat->Prop) (w:World):Y AV->ξ->Prop
 |[],[]=>True
 |x::xs,v::vs=>cG φ O w x v/\jR φ O w xs vs
 |_,_=>False
def jR.length :∀{args:Y AV} {vs:ξ},jR V O w args vs->l! vs=l! args
 |[],[],_=>rfl
 |[],_::_,h|_::_,[],h=>h.elim
 |_::_,_::_,h=>by simp[jR.length h.2]
def jR.mono {φ':PM} {O':Nat->Prop} {w':World} (q:∀x v,x.all p=J->cG V O w x v->cG φ' O' w' x v):∀{args:Y AV} {vs:ξ},AV.allL p args=J->jR V O w args vs->jR φ' O' w' args vs
 |[],[],_,_=>trivial
 |[],_::_,_,h|_::_,[],_,h=>h.elim
 |x::xs,_::_,hp,h=>by
  simp[AV.allL,ak]at hp;exact⟨q _ _ hp.1 h.1,jR.mono q hp.2 h.2⟩
def jR.append :∀{xs q:Y AV} {vs A:ξ},jR V O w xs vs->jR V O w q A->jR V O w (xs++q) (vs++A)
 |[],_,[],_,_,h=>h
 |[],_,_::_,_,h,_|_::_,_,[],_,h,_=>h.elim
 |_::_,_,_::_,_,h,h'=>⟨h.1,jR.append h.2 h'⟩
def jR.of :∀{xs:Y AV} {vs:ξ},l! vs=l! xs->(∀(j:Nat) x v,xs[j]? =Z x->vs[j]? =Z v->cG V O w x v)->jR V O w xs vs
 |[],[],_,_=>trivial
 |[],_::_,h,_|_::_,[],h,_=>by simp at h
 |x::xs,v::vs,D,h=>⟨h 0 x v rfl rfl,jR.of (by grind) λj x v q A=>h (j+1) x v (by grind) (by grind)⟩
def yT (P:Program) (f:FuncId):Prop:=∃fn,P.funcs[f]? =Z fn∧fn.body.isNone=aa∧(fn.name== "runtime.NumGoroutine")=aa
structure ano (P:Program) (f:FuncId) (args:List AV) (h:ie) (nx:Nat) (r:Rv):Prop where
 qd:yT P f
 frame:∀i,aC r.wr i=aa->r.h.get i=h.get i
 names:∀i,aC r.wr i=J->nx<=i->i<r.nx
 zm:nx<=r.nx
 calls:∀(φ:PM) (E:Nat->Prop) (w:World) (vs:ξ),qE φ E h.get w->jR φ (tot E φ h.get) w args vs->(∀i k,φ i=Z k->i<nx)->
  Calls P f vs.toArray w λe w'=>∃v φ',e= .returned v/\iv φ φ' h.get r.h.get w w'/\qE φ' E r.h.get w'/\cG φ' (tot E φ' r.h.get) w' r.val v/\∀i k,φ' i=Z k->φ i=Z k\/(nx<=i/\aC r.wr i=J)
def kP (ids nx:Nat) (r:Rv):Bm:=⟨r.val,Rk ids,Rk r.wr,r.h.get,(Rk r.wr).filter (nx<=·)⟩
variable {f:FuncId}
def Zt {e:wC} {h:ie} {r:Rv} (sp:ano P f K (PT.only m 1 0 h) i r) (hargs:AV.allL (dw · i) K=J) (hhc:ie.all (dw · i) (PT.only m 1 0 h)=J)
 (hexec:∀(φ:PM) (E:Nat->Prop) (h':HF) (w:World) (a:Act),Uf φ E h' w a e j->qE φ E h' w->∃vs:ξ,(execOp a.eval j).run P w= .ok (.enter f vs.toArray) w/\jR φ (tot E φ h') w K vs):
 gJ P j e.get h.get (kP m i r):=by
 intro φ E h' w a hrd hwr hops hrep hN;have hp:Uf φ E h' w a e j:=λx y hx hy=>rY hrep hops hx hy
 let⟨vs,hrun,hrel⟩:=hexec φ E h' w a hp hrep;have hcg:∀nx,(PT.only m 1 0 h).get nx=if aC m nx then h.get nx else U:=λnx=>by rw[PT.get_only];simp
 generalize hhcd:PT.only m 1 0 h=hc at*
 have I:∀nx b,hc.get nx=Z b->aC m nx=J/\h' nx=Z b/\nx<i/\b.c.all (dw · i)=J:=λnx b D=>by
  let⟨q1,q2⟩:=aav hhc D;have q1:nx<i:=aX q1;rw[hcg]at D;split at D
  next ht=>exact⟨ht,by rw[hrd nx (lV.2 ht)];exact D,q1,q2⟩
  .cases D
 let E':Nat->Prop:=λk=>E k\/∃id b,h' id=Z b/\aC m id=aa/\φ id=Z k
 let φc:PM:=λnx=>if nx<i then φ nx else U
 have φc_sub:∀nx k,φc nx=Z k->φ nx=Z k/\nx<i:=λnx k q=>by grind
 have φc_of:∀nx k,nx<i->φ nx=Z k->φc nx=Z k:=λnx k hi q=>by simp only[φc,hi,bJ];exact q
 have own_c:∀k,own φc hc.get k->own φ h' k:=by
  rintro k ⟨nx,b,h1,h2⟩;exact⟨nx,b,(I nx b h1).2.1,(φc_sub nx k h2).1⟩
 have tot_c:∀k,tot E' φc hc.get k->tot E φ h' k:=by
  rintro k ((h1|⟨id,b,h1,_,h2⟩)|h1)
  .exact .inl h1
  .exact .inr ⟨id,b,h1,h2⟩
  .exact .inr (own_c k h1)
 have relc:∀x v,x.all (dw · i)=J->cG φ (tot E φ h') w x v->cG φc (tot E' φc hc.get) w x v:=λx v hx hr=>
  hr.restrict (λnx k hi q=>φc_of nx k (aX hi) q) tot_c hx
 have repc:qE φc E' hc.get w:=by
  refine ⟨λnx o b b' k h1 h2 h3 h4=>hrep.inj nx o b b' k (I nx b h1).2.1 (I o b' h2).2.1 (φc_sub nx k h3).1 (φc_sub o k h4).1,λnx b D=>?_,?_,λg cells hg=>?_⟩
  .obtain⟨t1,t2,t3,t4⟩:=I nx b D;let⟨k,q1,q2,ob,q3,q4⟩:=hrep.at_ nx b t2;refine ⟨k,φc_of nx k t3 q1,?_,ob,q3,q4.restrict relc t4⟩;rintro (hE|⟨id,b',p1,p2,p3⟩)
   .exact q2 hE
   .have:=hrep.inj id nx b' b k p1 t2 p3 q1;subst this;rw[t1]at p2;cases p2
  .rintro k (hE|⟨id,b,p1,_,p3⟩)
   .exact hrep.el k hE
   .obtain⟨k',q1,_,ob,q3,_⟩:=hrep.at_ id b p1;rw[p3]at q1;cases q1;exact (cW.1 q3).1
  .exact (hrep.gl g cells hg).ext (ES.refl _ w) λk _ q=>tot_c k q
 have hcalls:=sp.calls φc E' w vs repc (jR.mono relc hargs hrel) (λnx k q=>(φc_sub nx k q).2);unfold K2;rw[hrun];refine Calls.mono hcalls ?_;rintro en w' ⟨v,φc',rfl,mv,rp,rv',nm⟩
 let φ':PM:=λnx=>if i<=nx/\aC r.wr nx=J then φc' nx else φ nx
 have φ'_new:∀nx,i<=nx->aC r.wr nx=J->φ' nx=φc' nx:=λnx h1 h2=>by simp only[φ',h1,h2,and_self,bJ]
 have φ'_old:∀nx,¬(i<=nx/\aC r.wr nx=J)->φ' nx=φ nx:=λnx h1=>by simp only[φ',ay h1]
 have hfresh:∀nx,i<=nx->aC r.wr nx=J->φ nx=U:=λnx h1 h2=>hN nx (by simp only[kP,yW,bB];exact⟨lV.2 h2,h1⟩)
 have φc'_to:∀nx k,φc' nx=Z k->φ' nx=Z k:=λnx k q=>by grind
 have hsub:∀nx k,φ nx=Z k->φ' nx=Z k:=λnx k q=>by grind
 have H2:∀nx,dX h' (kP m i r).wr (kP m i r).nw nx=if aC r.wr nx=J then r.h.get nx else h' nx:=λnx=>by
  unfold dX kP;simp only[lV]
 have from_:∀nx b,dX h' (kP m i r).wr (kP m i r).nw nx=Z b->(r.h.get nx=Z b/\∀k,φ' nx=Z k->φc' nx=Z k)\/(h' nx=Z b/\aC m nx=aa/\φ' nx=φ nx/\aC r.wr nx=aa):=λnx b D=>by
  rw[H2]at D;by_cases hwi:aC r.wr nx=J
  .rw[aK hwi]at D;refine .inl ⟨D,λk q=>?_⟩;by_cases hi:i<=nx
   .rw[φ'_new nx hi hwi]at q;exact q
   .rw[φ'_old nx (by omega)]at q;exact mv.sub nx k (φc_of nx k (by omega) q)
  .rw[ay hwi]at D;have hwi:aC r.wr nx=aa:=by simpa using hwi
   by_cases hid:aC m nx=J
   .have h1:hc.get nx=Z b:=by rw[hcg,aK hid,<-hrd nx (lV.2 hid)];exact D
    refine .inl ⟨by rw[sp.frame nx hwi];exact h1,λk q=>?_⟩;rw[φ'_old nx (by rw[hwi];simp)]at q;exact mv.sub nx k (φc_of nx k (I nx b h1).2.2.1 q)
   .exact .inr ⟨D,by simpa using hid,φ'_old nx (by rw[hwi];simp),hwi⟩
 have own':∀k,own φ' (dX h' (kP m i r).wr (kP m i r).nw) k->own φc' r.h.get k\/∃nx b,h' nx=Z b/\aC m nx=aa/\φ nx=Z k:=by
  rintro k ⟨nx,b,h1,h2⟩;rcases from_ nx b h1 with ⟨A,N⟩|⟨A,N,g3,_⟩
  .exact .inl ⟨nx,b,A,N k h2⟩
  .exact .inr ⟨nx,b,A,N,by rw[<- g3];exact h2⟩
 have ids:iv φ φ' h' (dX h' (kP m i r).wr (kP m i r).nw) w w':=by
  refine ⟨hsub,mv.ext.mono own_c,λk q ho=>?_⟩;rcases own' k ho with h1|⟨nx,b,h1,_,h2⟩
  .exact own_c k (mv.qh k q h1)
  .exact⟨nx,b,h1,h2⟩
 have tot':∀k,tot E φ' (dX h' (kP m i r).wr (kP m i r).nw) k->tot E' φc' r.h.get k:=by
  rintro k (h1|h1)
  .exact .inl (.inl h1)
  .rcases own' k h1 with h2|⟨nx,b,A,N,g3⟩
   .exact .inr h2
   .exact .inl (.inr ⟨nx,b,A,N,g3⟩)
 have relOut:∀x v,cG φc' (tot E' φc' r.h.get) w' x v->cG φ' (tot E φ' (dX h' (kP m i r).wr (kP m i r).nw)) w' x v:=λx v hr=>
  hr.ext φc'_to (ES.refl _ w') λk _ q=>tot' k q
 refine ⟨v,φ',rfl,ids,?_,?_,relOut _ _ rv'⟩
 .intro nx k q;by_cases hi:i<=nx/\aC r.wr nx=J
  .right;simp only[kP,yW,bB];exact⟨lV.2 hi.2,hi.1⟩
  .left;rw[φ'_old nx hi]at q;exact q
 .refine ⟨λnx o x y k hi hj h1 h2=>?_,λnx b hi=>?_,λk q=>dg (hrep.el k q) ids.ext.size,λg cells hg=>ids.keepF (hrep.gl g cells hg)⟩
  .rcases from_ nx x hi with ⟨A,N⟩|⟨A,N,g3,_⟩
   .rcases from_ o y hj with ⟨q1,q2⟩|⟨q1,q2,q3,_⟩
    .exact rp.inj nx o x y k A q1 (N k h1) (q2 k h2)
    .exfalso;let⟨k',p1,p2,_⟩:=rp.at_ nx x A
     grind
   .rcases from_ o y hj with ⟨q1,q2⟩|⟨q1,q2,q3,_⟩
    .exfalso;let⟨k',p1,p2,_⟩:=rp.at_ o y q1
     grind
    .exact hrep.inj nx o x y k A q1 (by rw[<- g3];exact h1) (by rw[<- q3];exact h2)
  .rcases from_ nx b hi with ⟨A,N⟩|⟨A,N,g3,_⟩
   .obtain⟨k,p1,p2,ob,p3,p4⟩:=rp.at_ nx b A;exact⟨k,φc'_to nx k p1,λhE=>p2 (.inl hE),ob,p3,p4.mono λx v hr=>relOut x v hr⟩
   .obtain⟨k,p1,p2,ob,p3,p4⟩:=hrep.at_ nx b A;have q:k<w.heap.size:=(cW.1 p3).1;refine ⟨k,hsub nx k p1,p2,ob,?_,p4.mono λx v hr=>ids.qt hr⟩;rw[mv.ext.jv k q ?_]
    .exact p3
    .rintro⟨o,b',q1,q2⟩;let⟨t1,t2,_,_⟩:=I o b' q1;have:=hrep.inj nx o b b' k A t2 p1 (φc_sub o k q2).1;subst this;rw[t1]at N;cases N
def Ar (P:Program) (call:wg):Prop:=∀f args h nx r,call f args h nx=Z r->ano P f args h nx r
def M0 {e:wC} (hp:Uf V O S w N e j):∀(xs:Y Operand) (q:Y AV),(∀x∈xs,x∈j.op.operands)->evs e xs=Z q->jR V (tot O V S) w q (xs.map N.eval)
 |[],q,_,h=>by simp[evs,af]at h;subst h;trivial
 |x::xs,q,hm,h=>by
  simp[evs]at h;split at h
  .rename_i y A;split at h
   next ys' hys=>simp[af]at h;subst h;exact⟨hp x y (hm x (cj ..)) A,M0 hp xs ys' (λx D=>hm x (bP _ D)) hys⟩
   .cases h
  .cases h
def uZ (D:yT P f) (args:Array Value) (w:World):(callFunc f args).run P w= .ok (.enter f args) w:=by
 let⟨fn,h1,h2,h3⟩:=D;have q:fn.name≠ "runtime.NumGoroutine" :=by grind
 have A:fn.body≠U:=by grind
 simp[callFunc,program,rA,h1,A,q]
structure ak3 (e:wC) (h:ie) (nx:Nat) (S:Xy) (f:Bm):Prop where
 val:f.val=S.val
 heap:dX h.get f.wr f.nw=S.h.get
 rd:∀i∈f.rd,aC S.rd i=J
 wr:∀i∈f.wr,aC S.wr i=J
 names:∀n∈f.N,nx<=n/\n<S.nx
 zm:nx<=S.nx
def Iv:∀(l:ι) (acc i:Nat),aC (bits l acc) i=J↔aC acc i=J\/i∈l
 |[],acc,i=>by simp[bits]
 |x::l,acc,i=>by
  rw[bits,Iv l];rw[bD,eu,CG,J7]
  grind
def aef {s:Rr} {e:wC} {h:ie} {R:AS} (q:dO s e h i=Z R):R.N=[]\/R.N=[i]:=by
 cases s<;>simp only[dO,yK,EJ]at q<;>(repeat' (split at q))<;>first|(cases q;done)|(simp [rv,af]at q;subst q;simp;done)
def afp {s:Rr} {e:wC} {h:ie} {R:AS} (A:s.still=J) (q:dO s e h i=Z R):R.rd=[]/\R.wr=[]:=by
 cases s<;>first|(simp [Rr.still]at A;done)|(simp only[dO]at q;(repeat' (split at q))<;>first|(cases q;done)|(simp [rv,af]at q;subst q;simp;done))
def acm {call:wg} (hcall:Ar P call) {o:Oper} {s:SI} (q:pP P o.op=s) {e:wC} {h:ie} {S:Xy} (A:opA call s e h i=Z S):
 ∃f,gJ P o e.get h.get f/\ak3 e h i S f/\(s.still=J->f.rd=[]/\f.wr=[]):=by
 have callCase:∀(f:FuncId) (args:Y AV),abo call f args h i=Z S->s.still=aa->
  (∀(φ:PM) (E:Nat->Prop) (h':HF) (w:World) (a:Act),yT P f->Uf φ E h' w a e o->qE φ E h' w->∃vs:ξ,(execOp a.eval o).run P w= .ok (.enter f vs.toArray) w/\jR φ (tot E φ h') w args vs)->
  ∃f,gJ P o e.get h.get f/\ak3 e h i S f/\(s.still=J->f.rd=[]/\f.wr=[]):=by
  intro f args hca hst hex;unfold abo at hca;simp only[tF,wY]at hca;split at hca
  .rename_i hcond;simp only[ak]at hcond;split at hca
   .rename_i val h' nx' wr hcr;simp only[S8,tF,af]at hca;have sp:=hcall _ _ _ _ _ hcr;refine ⟨_,Zt sp hcond.1 hcond.2 (λφ E h' w a=>hex φ E h' w a sp.qd),?_,λh=>by rw[hst]at h;cases h⟩;subst hca;refine ⟨rfl,?_,λnx hi=>lV.1 hi,λnx hi=>lV.1 hi,λn I=>?_,sp.zm⟩
    .funext nx;unfold dX kP;simp only[lV];rw[PT.get_merge]
     grind
    .simp only[kP,yW,bB]at I;exact⟨I.2,sp.names n (lV.1 I.1) I.2⟩
   .cases hca
  .cases hca
 have callOps:∀(c:Call),o.op= .call c->∀x,x∈c.operands->x∈o.op.operands:=λc D x hx=>by rw[D];exact hx
 unfold opA at A;split at A
 .rename_i f args;split at A
  .rename_i l hl;have D:∃c:Call,o.op= .call c/\c.callee= .value (.func f)/\c.args.toList=args:=by
    unfold pP at q;split at q
    .rename_i nx hi;subst q;unfold Co at hi
     grind
    .grind
   let⟨c,D,h1,h2⟩:=D;refine callCase f l A rfl λφ E h' w a hcb hp hrep=>?_
   refine ⟨args.map a.eval,?_,M0 hp args l (λx hx=>callOps c D x (by simp[em,h1,<-h2]at hx ⊢;exact .inr hx)) hl⟩;unfold execOp;rw[D];have hm:c.args.map a.eval=(args.map a.eval).toArray:=by grind
   simp[resolve,h1,Act.eval,Deferred.ofValue,invoke,hm,uZ hcb]
  .cases A
 .rename_i x args;split at A
  .rename_i f cap l hx hl;have D:∃c:Call,o.op= .call c/\c.callee= .value x/\c.args.toList=args:=by
    unfold pP at q;split at q
    .rename_i nx hi;subst q;unfold Co at hi
     grind
    .grind
   let⟨c,D,h1,h2⟩:=D;refine callCase f (l++cap) A rfl λφ E h' w a hcb hp hrep=>?_
   have hxv:=hp x _ (callOps c D x (by simp[em,h1])) hx;have hlv:=M0 hp args l (λx hx=>callOps c D x (by simp[em,h1,<-h2]at hx ⊢;exact .inr hx)) hl;generalize hz:a.eval x=z at hxv;cases hxv with
   |@qv _ _ vs hvl hvr=>
    refine ⟨args.map a.eval++vs,?_,hlv.append (jR.of hvl hvr)⟩;unfold execOp;rw[D];have hm:c.args.map a.eval=(args.map a.eval).toArray:=by grind
    simp[resolve,h1,hz,Deferred.ofValue,invoke,hm,uZ hcb]
  .cases A
 .rename_i s;have q:s= .zd\/cY P o.op=Z s:=by
   unfold pP at q;split at q
   .rename_i nx hi;subst q;unfold Co at hi
    grind
   .grind
  rcases q with rfl|q
  .simp[dO]at A
  split at A
  .rename_i val rd wr nw N hR;simp only[S8,tF,RB,af]at A;refine ⟨_,Fy q hR,?_,λhs=>afp hs hR⟩;subst A;refine ⟨rfl,afh _ _ _,λnx hi=>(Iv _ _ _).2 (.inr hi),λnx hi=>(Iv _ _ _).2 (.inr hi),λn I=>?_,by simp⟩;rcases aef hR with h1|h1
   .simp only[AS.eff]at I;simp only at h1;rw[h1]at I;cases I
   .simp only[AS.eff]at I;simp only at h1;rw[h1]at I;simp at I;subst I;simp[h1]
  .cases A
def S9:∀(q:Y XK) (i:Nat),adh q i=q[i]?
 |[],i=>by simp[adh]
 |f::q,0=>rfl
 |f::q,i+1=>by simp[adh,S9 q i]
structure Lay (P:Program) (ops:Array Oper) (rest:List Oper) (sl:List pQ) (s s':IS) (fs:List XK) (l:List (Oper×Bm)):Prop where
 jw:l.map (·.1)=rest
 chain:AT P ops l s.e.get s.h.get s'.e.get s'.h.get
 fsl:l! fs=l! l
 jg:l! sl=l! l
 fp:∀(j:Nat) o f q,l[j]? =Z (o,f)->fs[j]? =Z q->(∀i∈f.rd,aC q.rd i=J)/\∀i∈f.wr,aC q.wr i=J
 still:∀(j:Nat) o f so,l[j]? =Z (o,f)->sl[j]? =Z so->so.op.still=J->f.rd=[]/\f.wr=[]
 names:∀(j:Nat) o f,l[j]? =Z (o,f)->∀n∈f.N,s.nx<=n/\n<s'.nx
 zl:∀(i j:Nat) oi fi oj fj,i<j->l[i]? =Z (oi,fi)->l[j]? =Z (oj,fj)->∀n∈fi.N,n∉fj.N
 zm:s.nx<=s'.nx
 frame:∀i,aC s'.wr i=aa->s'.h.get i=s.h.get i/\aC s.wr i=aa
def zo {call:wg} (hcall:Ar P call) :∀(rest:Y Oper) (sl:Y pQ) (s s':IS) (fs:Y XK),nN P I rest=Z sl->Br call sl s=Z (s',fs)->∃l,Lay P I rest sl s s' fs l
 |[],sl,s,s',fs,hc,A=>by
  simp only[nN,af]at hc;subst hc;simp only[Br,af,aV]at A;obtain⟨rfl,rfl⟩:=A;exact⟨[],rfl,.nil _ _,rfl,rfl,by simp,by simp,by simp,by simp,bi _,λi h=>⟨rfl,h⟩⟩
 |o::rest,sl,⟨e,h,nx,wr⟩,s',fs,hc,A=>by
  simp only[nN]at hc;split at hc
  .rename_i sl' hsl';have hso:∃g,sl=⟨o.dst,pP P o.op,g⟩::sl'/\((g=U/\o.guard=U)\/∃j want t,g=Z (t,want)/\o.guard=Z (j,want)/\(I[j]?).bind (·.dst)=Z t):=by grind
   obtain⟨g,rfl,N⟩:=hso;simp only[Br]at A;have done:∀(f:Bm) (S:Xy) (s1:IS) (fs':Y XK) (q:XK),IC P I o f e.get h.get->s1=⟨e.put o.dst S.val,S.h,S.nx,wr|||S.wr⟩->ak3 e h nx S f->((pP P o.op).still=J->f.rd=[]/\f.wr=[])->q=⟨S.rd,S.wr⟩->Br call sl' s1=Z (s',fs')->(∀i,aC S.wr i=aa->S.h.get i=h.get i)->
    ∃l,Lay P I (o::rest) (⟨o.dst,pP P o.op,g⟩::sl') ⟨e,h,nx,wr⟩ s' (q::fs') l:=by
    rintro f S s1 fs' q hst rfl hef hstill rfl hrun hfr;let⟨l,ops⟩:=zo hcall rest sl' _ s' fs' hsl' hrun;have hg2:S.nx<=s'.nx:=ops.zm;refine ⟨(o,f)::l,by simp[ops.jw],.cons hst ?_,by simp[ops.fsl],by simp[ops.jg],?_,?_,?_,?_,cP hef.zm hg2,?_⟩
    .rw[hef.val,ag7,hef.heap];exact ops.chain
    .intro j o' f' q' h1 h2;cases j with
     |zero=>simp at h1 h2;obtain⟨rfl,rfl⟩:=h1;subst h2;exact⟨hef.rd,hef.wr⟩
     |succ j=>exact ops.fp j o' f' q' (by grind) (by grind)
    .intro j o' f' so h1 h2 h3;cases j with
     |zero=>simp at h1 h2;obtain⟨rfl,rfl⟩:=h1;subst h2;exact hstill h3
     |succ j=>exact ops.still j o' f' so (by grind) (by grind) h3
    .intro j o' f' h1 n hn;cases j with
     |zero=>
      simp at h1;obtain⟨rfl,rfl⟩:=h1;have:=hef.names n hn;exact⟨this.1,by omega⟩
     |succ j=>
      have:=ops.names j o' f' (by grind) n hn;have h3:=hef.zm
      grind
    .intro i j oi fi oj fj hij h1 h2 n hn hn';cases j with
     |zero=>omega
     |succ j=>
      have hj:=ops.names j oj fj (by grind) n hn';cases i with
      |zero=>
       simp at h1;obtain⟨rfl,rfl⟩:=h1;have h3:=(hef.names n hn).2
       grind
      |succ i=>exact ops.zl i j oi fi oj fj (by omega) (by grind) (by grind) n hn hn'
    .intro i hi;let⟨h1,h2⟩:=ops.frame i hi
     grind
   split at A
   .rename_i D;split at A
    .rename_i val rd w' h' nx' hop;rw[Z5,tF]at A;split at A
     .rename_i s2 fs' hrun;cases A;let⟨f,hT,hef,hst⟩:=acm hcall (o:=o) rfl hop;refine done f ⟨val,rd,w',h',nx'⟩ _ fs' _ ?_ rfl hef hst rfl hrun ?_
      .rcases N with ⟨rfl,N⟩|⟨j,want,t,rfl,N,ht⟩
       .exact .run N hT
       .simp only[ZU]at D;split at D
        next b hb=>simp only[af,du]at D;subst D;exact .runG j t b N ht hb hT
        .cases D
        .cases D
      .intro i hi;have:=congrFun hef.heap i;simp only[dX]at this;rw[ay]at this
       .exact this.symm
       .intro hmem;have:=hef.wr i hmem
        grind
     .cases A
    .cases A
   .rename_i D;rw[Z5]at A;split at A
    .rename_i s2 fs' hrun;cases A;rcases N with ⟨rfl,N⟩|⟨j,want,t,rfl,N,ht⟩
     .simp[ZU]at D
     .refine done mm ⟨raw undef,0,0,h,nx⟩ _ fs' _ ?_ (by simp) ⟨rfl,by funext i;simp[dX,mm],by simp[mm],by simp[mm],by simp[mm],bi _⟩ (λ_=>⟨rfl,rfl⟩) rfl hrun (λ_ _=>rfl);simp only[ZU]at D;split at D
      next b hb=>simp only[af,beq_eq_false_iff_ne,ne_eq]at D;exact .skip j t want N ht _ hb (by simpa using D) rfl
      next q hb=>exact .skip j t want N ht _ hb (by simp) rfl
      .cases D
    .cases A
   .cases A
  .cases hc
def qT (h:Cg i m=J) (a:Nat) (q:aC i a=J):aC m a=aa:=by
 have h0:i&&&m=0:=ar h;have:=Nat.testBit_and i m a
 grind
def aqk {sl:Y pQ} {s s':IS} {fs:Y XK} {l:Y p?} {prs:Y j?} (A:Lay P I I.toList sl s s' fs l) (hp:Fr I sl=Z prs) (hok:Bt fs prs=J):NIP I l:=by
 unfold Fr at hp;simp only[]at hp;split at hp
 .rename_i hall;simp only[cQ,oI,ak]at hall;simp only[af]at hp;have hop:∀(j:Nat) o f,l[j]? =Z (o,f)->I[j]? =Z o:=λj o f D=>by
   have h1:(l.map (·.1))[j]? =Z o:=by rw[bL,D];rfl
   rw[A.jw]at h1;simpa using h1
  have hsize:∀(j:Nat) o,I[j]? =Z o->j<I.size:=λj o h=>(cW.1 h).1
  have hprs:∀i j,(i,j)∈prs->∃a b,fs[i]? =Z a/\fs[j]? =Z b/\Cg a.wr b.rd=J/\Cg a.wr b.wr=J/\Cg b.wr a.rd=J:=by
   clear hp hall;induction prs with
   |nil=>intro i j h;cases h
   |cons p prs ih=>
    let⟨i0,j0⟩:=p;simp only[Bt,ak,S9]at hok
    grind
  refine ⟨λj o ho e he hb=>?_,λi j oi fi oj fj hij hi D=>?_,A.zl⟩
  .grind
  .have h1:=hop i oi fi hi;have h2:=hop j oj fj D;have hcase:=(hall j (hsize j oj h2)).2 i hij;rw[h1,h2]at hcase;simp only[eu]at hcase;by_cases N:aC ((EI I.toList []).getD j 0) i=J
   .left;rw[aA]at N;cases ops:(EI I.toList [])[j]? with
    |none=>rw[ops]at N;simp at N
    |some B=>
     rw[ops]at N;exact Ix (ops:=I) I.toList [] (λj o D=>by simpa using D) (λj B D=>by simp at D) j B ops i (by simpa using N)
   .right;have hap:=hcase.resolve_left N;refine ⟨hap,?_⟩;have hil:i<l! l:=(bH.1 hi).1;have hjl:j<l! l:=(bH.1 D).1;have hsi:=aL (show i<l! sl by rw[A.jg];exact hil);have hsj:=aL (show j<l! sl by rw[A.jg];exact hjl);by_cases hst:(sl[i]'(by rw[A.jg];exact hil)).op.still=J
    .obtain⟨q1,q2⟩:=A.still i oi fi _ hi hsi hst
     grind
    .by_cases hst2:(sl[j]'(by rw[A.jg];exact hjl)).op.still=J
     .obtain⟨q1,q2⟩:=A.still j oj fj _ D hsj hst2
      grind
     .have hmem:(i,j)∈prs:=by
       rw[<- hp,lG];refine ⟨j,oI.2 (hsize j oj h2),?_⟩
       grind
      let⟨a,b,ha,hb,d1,d2,d3⟩:=hprs i j hmem;let⟨f1,f2⟩:=A.fp i oi fi a hi ha;let⟨g1,g2⟩:=A.fp j oj fj b D hb;refine ⟨λx ops=>⟨λq=>?_,λq=>?_⟩,λx ops q=>?_⟩
      .have:=qT d1 x (f2 x ops);rw[g1 x q]at this;cases this
      .have:=qT d2 x (f2 x ops);rw[g2 x q]at this;cases this
      .have:=qT d3 x (g2 x ops);rw[f1 x q]at this;cases this
 .cases hp
end
end Go.Proofs.YtmmgdigihgnnnaaGreatDoor.AI
