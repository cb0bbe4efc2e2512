/-
  Texts of the proof, part 1 of 6: what is used to prove the statement. No condition.
-/
import Derived.WalkKit
import Derived.Lib.Hide
import Derived.Deep.QuietTactic
import Derived.WalkSpells
import Derived.Laws.CopyRow
import Derived.Deep.AppendSrc
import Derived.Laws.AppendOwn
import Derived.Laws.BytesString
import Derived.Lib.ConvBytes
namespace Prod
variable {A0 A1 A2 A3 A4 A5 A6 A7 A8 A9 A10 A11 A12 A13 A14 A15 A16 A17 A18 A19 A20 A21 A22 A23 A24:Type}
abbrev a (x:A0×A1×A2×A3):A2:=x.2.2.1
abbrev b (x:A0×A1×A2×A3×A4):A3:=x.2.2.2.1
abbrev d (x:A0×A1×A2×A3):A3:=x.2.2.2
abbrev c (x:A0×A1×A2×A3×A4×A5):A4:=x.2.2.2.2.1
abbrev f (x:A0×A1×A2×A3×A4):A4:=x.2.2.2.2
abbrev e (x:A0×A1×A2×A3×A4×A5×A6):A5:=x.2.2.2.2.2.1
abbrev h (x:A0×A1×A2×A3×A4×A5):A5:=x.2.2.2.2.2
abbrev g (x:A0×A1×A2×A3×A4×A5×A6×A7):A6:=x.2.2.2.2.2.2.1
abbrev i (x:A0×A1×A2×A3×A4×A5×A6):A6:=x.2.2.2.2.2.2
abbrev j (x:A0×A1×A2×A3×A4×A5×A6×A7×A8):A7:=x.2.2.2.2.2.2.2.1
abbrev k (x:A0×A1×A2×A3×A4×A5×A6×A7):A7:=x.2.2.2.2.2.2.2
abbrev p8 (x:A0×A1×A2×A3×A4×A5×A6×A7×A8×A9):A8:=x.2.2.2.2.2.2.2.2.1
abbrev n (x:A0×A1×A2×A3×A4×A5×A6×A7×A8):A8:=x.2.2.2.2.2.2.2.2
abbrev l (x:A0×A1×A2×A3×A4×A5×A6×A7×A8×A9×A10):A9:=x.2.2.2.2.2.2.2.2.2.1
abbrev o (x:A0×A1×A2×A3×A4×A5×A6×A7×A8×A9):A9:=x.2.2.2.2.2.2.2.2.2
abbrev m (x:A0×A1×A2×A3×A4×A5×A6×A7×A8×A9×A10×A11):A10:=x.2.2.2.2.2.2.2.2.2.2.1
abbrev s (x:A0×A1×A2×A3×A4×A5×A6×A7×A8×A9×A10):A10:=x.2.2.2.2.2.2.2.2.2.2
abbrev p (x:A0×A1×A2×A3×A4×A5×A6×A7×A8×A9×A10×A11×A12):A11:=x.2.2.2.2.2.2.2.2.2.2.2.1
abbrev r (x:A0×A1×A2×A3×A4×A5×A6×A7×A8×A9×A10×A11):A11:=x.2.2.2.2.2.2.2.2.2.2.2
abbrev q (x:A0×A1×A2×A3×A4×A5×A6×A7×A8×A9×A10×A11×A12×A13):A12:=x.2.2.2.2.2.2.2.2.2.2.2.2.1
abbrev t (x:A0×A1×A2×A3×A4×A5×A6×A7×A8×A9×A10×A11×A12):A12:=x.2.2.2.2.2.2.2.2.2.2.2.2
abbrev u (x:A0×A1×A2×A3×A4×A5×A6×A7×A8×A9×A10×A11×A12×A13×A14):A13:=x.2.2.2.2.2.2.2.2.2.2.2.2.2.1
abbrev w (x:A0×A1×A2×A3×A4×A5×A6×A7×A8×A9×A10×A11×A12×A13):A13:=x.2.2.2.2.2.2.2.2.2.2.2.2.2
abbrev y (x:A0×A1×A2×A3×A4×A5×A6×A7×A8×A9×A10×A11×A12×A13×A14×A15):A14:=x.2.2.2.2.2.2.2.2.2.2.2.2.2.2.1
abbrev v (x:A0×A1×A2×A3×A4×A5×A6×A7×A8×A9×A10×A11×A12×A13×A14):A14:=x.2.2.2.2.2.2.2.2.2.2.2.2.2.2
abbrev z (x:A0×A1×A2×A3×A4×A5×A6×A7×A8×A9×A10×A11×A12×A13×A14×A15×A16):A15:=x.2.2.2.2.2.2.2.2.2.2.2.2.2.2.2.1
abbrev B (x:A0×A1×A2×A3×A4×A5×A6×A7×A8×A9×A10×A11×A12×A13×A14×A15×A16×A17):A16:=x.2.2.2.2.2.2.2.2.2.2.2.2.2.2.2.2.1
abbrev C (x:A0×A1×A2×A3×A4×A5×A6×A7×A8×A9×A10×A11×A12×A13×A14×A15×A16×A17):A17:=x.2.2.2.2.2.2.2.2.2.2.2.2.2.2.2.2.2
abbrev q18 (x:A0×A1×A2×A3×A4×A5×A6×A7×A8×A9×A10×A11×A12×A13×A14×A15×A16×A17×A18):A18:=x.2.2.2.2.2.2.2.2.2.2.2.2.2.2.2.2.2.2
abbrev q19 (x:A0×A1×A2×A3×A4×A5×A6×A7×A8×A9×A10×A11×A12×A13×A14×A15×A16×A17×A18×A19):A19:=x.2.2.2.2.2.2.2.2.2.2.2.2.2.2.2.2.2.2.2
abbrev q22 (x:A0×A1×A2×A3×A4×A5×A6×A7×A8×A9×A10×A11×A12×A13×A14×A15×A16×A17×A18×A19×A20×A21×A22):A22:=x.2.2.2.2.2.2.2.2.2.2.2.2.2.2.2.2.2.2.2.2.2.2
end Prod
namespace Go.Proofs.YtlmflgjjamepmaaGreatDoor.AI
open Go.RowKit
set_option maxRecDepth 100000
set_option maxHeartbeats 4000000
set_option linter.unusedVariables false
set_option linter.unusedSimpArgs false
set_option linter.defProp false
open _root_.Array renaming replicate→lZ,range→EZ,mapM_eq_mapM_toList→NC
open _root_.Bool renaming true→J,false→aa,false_or→Da
open Builtin renaming zeroCells→lM,firstCells→yp,append_→Ga
open Call renaming operands→c9
open ForInStep renaming yield→F_
open Instr renaming sliceBounds→cX,sliceBound→dt,sliceAt→eg,slice→fS,findNow→iL,sameBits→lB,checkKey→lC,findKey→xm,sureAddr→Ml
open _root_.Int renaming toNat→aS,ofNat→bC,tmod→fR
open IntKind renaming wrap→kW
open _root_.List renaming length→l!,length→ah,length_singleton→aJ,replicate→aP,take→ca,foldl_cons→dg,map→gD,drop→gL,toArray→iO,map_nil→kV,range→lY,map_drop→sW,set→AU,mem_of_mem_drop→EY,ext_getElem?→O4,append→O5
open _root_.Nat renaming beq→ay,testBit→aC,blt→db,ble→dc,add_zero→dQ,min→kU,mod_eq_of_lt→rn,mul_one→yQ,one_shiftLeft→AS,testBit_two_pow→HM
open Oper renaming wp→vp
open _root_.Option renaming some→Z,none→U,bind_some→aB,map_some→bw
open Region renaming wanted→iJ,binds→AQ,ready→Iw
open Result renaming andThen_ok→cJ
open Sem renaming run_bind→ec,run→jZ,run_pure→mB
open _root_.UInt8 renaming ofNat→O2
open Value.bool renaming injEq→C7
open World renaming shape?→pd,cell?→O1
noncomputable section
abbrev Y:=@List
abbrev M:=@Option
abbrev aE:=@if_neg
abbrev aR:=@if_pos
abbrev bo:=@if_true
abbrev bG:=@decide_eq_true_eq
abbrev bJ:=@of_decide_eq_true
abbrev bK:=@decide_eq_true
abbrev bO:=@absurd
abbrev bT:=@decide_eq_false
abbrev cz:=@beq_self_eq_true
abbrev cV:=@beq_iff_eq
abbrev eV:=@if_false
abbrev gx:=@or_false
abbrev iQ:=@congrArg
abbrev Ct:=@of_decide_eq_false
abbrev af:=@Option.some.injEq
abbrev al:=@Bool.and_eq_true
abbrev au:=@Nat.eq_of_beq_eq_true
abbrev aA:=@List.mem_singleton
abbrev aD:=@List.length_append
abbrev aH:=@List.getElem?_eq_getElem
abbrev aT:=@List.getD_eq_getElem?_getD
abbrev aU:=@Prod.mk.injEq
abbrev aW:=@Nat.le_of_ble_eq_true
abbrev bd:=@List.mem_of_getElem?
abbrev bf:=@Nat.ble_eq_true_of_le
abbrev bj:=@Nat.testBit_or
abbrev bm:=@List.getElem?_eq_some_iff
abbrev bB:=@List.mem_cons
abbrev bD:=@List.length_take
abbrev bF:=@List.mem_append
abbrev bL:=@Nat.le_refl
abbrev bM:=@List.getElem?_map
abbrev bN:=@List.length_map
abbrev bR:=@List.mem_map
abbrev bZ:=@Nat.lt_or_ge
abbrev b5:=@List.map_cons
abbrev b6:=@Nat.zero_add
abbrev cf:=@List.map_append
abbrev cg:=@Bool.false_eq_true
abbrev co:=@Nat.mul_le_mul_right
abbrev cq:=@List.mem_cons_of_mem
abbrev cr:=@List.append_assoc
abbrev cw:=@List.getElem?_append_right
abbrev cA:=@Nat.le_trans
abbrev cE:=@List.getElem?_append_left
abbrev cK:=@Bool.not_eq_true'
abbrev cO:=@List.not_mem_nil
abbrev cR:=@Array.getElem?_eq_some_iff
abbrev cS:=@List.mem_cons_self
abbrev c8:=@Array.getElem?_toList
abbrev dj:=@Nat.lt_of_lt_of_le
abbrev dl:=@Bool.true_and
abbrev dq:=@List.all_eq_true
abbrev dC:=@List.take_length
abbrev dE:=@Nat.not_lt_zero
abbrev dF:=@List.mem_of_mem_take
abbrev dG:=@List.append_nil
abbrev dJ:=@List.contains_iff_mem
abbrev dM:=@List.getElem?_take
abbrev dX:=@Int.le_refl
abbrev dY:=@Bool.false_and
abbrev eA:=@List.getElem?_of_mem
abbrev eE:=@List.flatMap_cons
abbrev eF:=@List.cons.injEq
abbrev eL:=@List.length_replicate
abbrev eQ:=@Nat.zero_le
abbrev eR:=@List.length_eq_zero_iff
abbrev eW:=@Option.some.inj
abbrev eX:=@Bool.or_eq_true
abbrev fa:=@Nat.ne_of_beq_eq_false
abbrev fD:=@List.length_set
abbrev fJ:=@Nat.le_succ_of_le
abbrev fQ:=@List.mem_append_left
abbrev fY:=@Option.map_eq_some_iff
abbrev fZ:=@List.take_of_length_le
abbrev gw:=@List.length_drop
abbrev gE:=@Array.getD_eq_getD_getElem?
abbrev gX:=@List.map_take
abbrev ib:=@Nat.lt_succ_self
abbrev ic:=@List.map_map
abbrev iK:=@Option.isSome_iff_exists
abbrev iN:=@Nat.succ_mul
abbrev iX:=@List.getElem?_drop
abbrev iY:=@Int.natCast_nonneg
abbrev j6:=@Nat.or_assoc
abbrev j7:=@List.getElem?_set
abbrev j8:=@List.foldl_append
abbrev kE:=@List.mem_append_right
abbrev kF:=@List.getElem?_eq_none
abbrev kN:=@List.mem_flatMap
abbrev lA:=@List.replicate_succ'
abbrev lD:=@Bool.and_eq_true_iff
abbrev nM:=@List.mem_range
abbrev nN:=@List.filter_append
abbrev oK:=@Array.getElem?_eq_getElem
abbrev oN:=@List.mem_filter
abbrev pe:=@Nat.add_mul
abbrev pf:=@List.take_succ_eq_append_getElem
abbrev pL:=@Nat.add_assoc
abbrev sX:=@Bool.and_self
abbrev tK:=@Nat.lt_succ_of_lt
abbrev tL:=@List.size_toArray
abbrev uZ:=@Nat.zero_or
abbrev vr:=@List.drop_append
abbrev yo:=@Int.not_lt
abbrev yS:=@List.getElem?_replicate
abbrev AT:=@Nat.beq_refl
abbrev AW:=@List.drop_of_length_le
abbrev Cq:=@List.length_filter_le
abbrev Cr:=@List.getElem?_toArray
abbrev EX:=@List.take_append_of_le_length
abbrev HO:=@List.drop_succ_cons
abbrev Ix:=@Nat.sub_self
abbrev η:=Y Int
abbrev ζ:=Y UInt8
abbrev θ:=Y Bool
abbrev ι:=Y Nat
abbrev ξ:=Y Value
abbrev ω:=Int×Int×Int×Int×Int×Int
abbrev υ:=Int×Int×Int×Int×Int
abbrev π:=Int×Int×Int
abbrev ν:=Int×Int
inductive FV where
 |raw (v:Value)
 |sl (cells:List FV) (n:Nat)
 |H (cells:List FV) (off:Nat)
 |agg (cells:List FV)
inductive AV where
 |f (x:FV)
 |H (id off:Nat)
 |sl (id off n:Nat)
 |G (id sz n:Nat)
 |mp (id:Nat)
 |emp
 |qv
 |qh (cells:List FV) (n:Nat)
 |agg (cells:List AV)
 |qb (vs:List AV)
 |qy (g:FuncId) (cap:List AV)
def FV.isCell:FV->Bool
 |.raw v=>v.oneCell'
 |.sl _ _=>J
 |.H _ _=>J
 |.agg _=>aa
def AV.isCell:AV->Bool
 |.f x=>x.isCell
 |.H _ _=>J
 |.sl _ _ _=>J
 |.G _ _ _=>J
 |.mp _=>J
 |.emp=>J
 |.qy _ _=>J
 |_=>aa
inductive lX (O:Nat->Prop) (w:World):FV->Value->Prop
 |raw (v:Value):lX O w (.raw v) v
 |nil (a:Option Addr) (c:Nat) (hc:c<=maxLen):lX O w (.sl [] 0) (.slice a 0 c)
 |sl (cells:List FV) (n c b off:Nat) (us:Nat->Value) (hn:n<=c) (hc:c<=maxLen) (hO:¬O b) (hb:b<w.heap.size)
   (hcl:∀x∈cells,x.isCell=J)
   (hu:∀j,j<l! cells->w.cell? ⟨b,off+j,U⟩=Z (us j)) (hr:∀(j:Nat) x,cells[j]? =Z x->lX O w x (us j)):
   lX O w (.sl cells n) (.slice (Z ⟨b,off,U⟩) n c)
 |H (cells:List FV) (o b off:Nat) (us:Nat->Value) (hO:¬O b) (hb:b<w.heap.size)
   (hcl:∀x∈cells,x.isCell=J)
   (hu:∀j,j<l! cells->w.cell? ⟨b,off+j,U⟩=Z (us j)) (hr:∀(j:Nat) x,cells[j]? =Z x->lX O w x (us j)):
   lX O w (.H cells o) (.pointer (Z ⟨b,off+o,U⟩))
 |agg (cells:List FV) (vs:ξ) (hl:l! vs=l! cells) (hcl:∀x∈cells,x.isCell=J)
   (hr:∀(j:Nat) x v,cells[j]? =Z x->vs[j]? =Z v->lX O w x v):lX O w (.agg cells) (.agg vs.toArray)
abbrev PM:=Nat->M Nat
inductive cm (φ:PM) (O:Nat->Prop) (w:World):AV->Value->Prop
 |f {x:FV} {v:Value} (h:lX O w x v):cm φ O w (.f x) v
 |H {id off b:Nat} (h:φ id=Z b):cm φ O w (.H id off) (.pointer (Z ⟨b,off,U⟩))
 |sl {id off n c b:Nat} (h:φ id=Z b) (hn:n<=c) (hc:c<=maxLen):cm φ O w (.sl id off n) (.slice (Z ⟨b,off,U⟩) n c)
 |G {id sz n c b:Nat} (h:φ id=Z b) (hn:n<=c) (hc:c<=maxLen) (hs:∃ty,w.shape? b=Z (ty,c*sz)):
   cm φ O w (.G id sz n) (.slice (Z ⟨b,0,U⟩) n c)
 |emp {a:Option Addr}:cm φ O w .emp (.slice a 0 0)
 |qv {b:Bool}:cm φ O w .qv (.bool b)
 |qh {cells:List FV} {n:Nat} {a:Option Addr} (h:lX O w (.sl cells n) (.slice a n n)):cm φ O w (.qh cells n) (.slice a n n)
 |mp {id b:Nat} (h:φ id=Z b):cm φ O w (.mp id) (.map (Z b))
 |agg {cells:List AV} {vs:ξ} (hl:l! vs=l! cells) (hcl:∀x∈cells,x.isCell=J)
   (hr:∀(j:Nat) x v,cells[j]? =Z x->vs[j]? =Z v->cm φ O w x v):cm φ O w (.agg cells) (.agg vs.toArray)
 |qb {cells:List AV} {vs:ξ} (hl:l! vs=l! cells)
   (hr:∀(j:Nat) x v,cells[j]? =Z x->vs[j]? =Z v->cm φ O w x v):cm φ O w (.qb cells) (.tuple vs.toArray)
 |qy {g:FuncId} {cells:List AV} {vs:ξ} (hl:l! vs=l! cells)
   (hr:∀(j:Nat) x v,cells[j]? =Z x->vs[j]? =Z v->cm φ O w x v):cm φ O w (.qy g cells) (.func (.func g) #[] vs.toArray)
structure C5 (O:Nat->Prop) (w w':World):Prop where
 os:w'.os=w.os
 tape:w'.tape=w.tape
 output:w'.output=w.output
 size:w.heap.size<=w'.heap.size
 jg:∀k,k<w.heap.size->¬O k->w'.heap[k]? =w.heap[k]?
 jl:∀k,k<w.heap.size->w'.shape? k=w.shape? k
def C5.refl (O:Nat->Prop) (w:World):C5 O w w:=⟨rfl,rfl,rfl,bL _,λ_ _ _=>rfl,λ_ _=>rfl⟩
variable {w:World} {i:Nat}
def EI {w':World} (h:w'.heap[i]? =w.heap[i]?) (o:Nat):w'.cell? ⟨i,o,U⟩=w.cell? ⟨i,o,U⟩:=by
 unfold O1;rw[h]
variable {O:Nat->Prop} {v:Value}
def lX.ext {O':Nat->Prop} {w':World} (he:C5 O w w') (ho:∀k,k<w.heap.size->O' k->O k) {x:FV} (h:lX O w x v):lX O' w' x v:=by
 induction h with
 |raw v=>exact .raw v
 |nil a c N=>exact .nil a c N
 |sl cells n c b off D hn N A q hcl F hr z=>
  exact .sl cells n c b off D hn N (λh=>A (ho b q h)) (dj q he.size) hcl (λj I=>by rw[EI (he.jg b q A)];exact F j I) z
 |H cells o b off D A q hcl F hr z=>
  exact .H cells o b off D (λh=>A (ho b q h)) (dj q he.size) hcl (λj I=>by rw[EI (he.jg b q A)];exact F j I) z
 |agg cells vs hl hcl hr z=>exact .agg cells vs hl hcl z
variable {V:PM} {y:AV}
def cm.ext {φ':PM} {O':Nat->Prop} {w':World} (z:∀i k,V i=Z k->φ' i=Z k) (he:C5 O w w') (I:∀k,k<w.heap.size->O' k->O k) (h:cm V O w y v):cm φ' O' w' y v:=by
 induction h with
 |f h=>exact .f (h.ext he I)
 |H h=>exact .H (z _ _ h)
 |sl h A D=>exact .sl (z _ _ h) A D
 |G h A D hsh=>
  let⟨ty,hty⟩:=hsh;refine .G (z _ _ h) A D ⟨ty,?_⟩;rw[he.jl _ ?_];exact hty;unfold pd at hty
  grind
 |emp=>exact .emp
 |qv=>exact .qv
 |qh h=>exact .qh (h.ext he I)
 |mp h=>exact .mp (z _ _ h)
 |agg q hcl F c=>exact .agg q hcl c
 |qb q F c=>exact .qb q c
 |qy q F c=>exact .qy q c
inductive BC where
 |fz (l:List FV)
 |mx (l:List AV)
 |mp (es:List (Value×AV))
 |it (s:ByteArray) (pos:Nat)
def BC.get:BC->Nat->M AV
 |.fz l,j=>l[j]?.map AV.f
 |.mx l,j=>l[j]?
 |_,_=>U
def BC.len:BC->Nat
 |.fz l|.mx l=>l! l
 |_=>0
def BC.isCells:BC->Bool
 |.fz _=>J
 |.mx _=>J
 |_=>aa
structure jI where
 ty:TypeId
 c:BC
abbrev HF:=Nat->M jI
def own (φ:PM) (h:HF) (k:Nat):Prop:=∃id b,h id=Z b/\φ id=Z k
def tot (E:Nat->Prop) (φ:PM) (h:HF) (k:Nat):Prop:=E k\/own φ h k
def tZ (φ:PM) (O:Nat->Prop) (w:World) (c:BC) (arr:Array Value):Prop:=
 c.len<=arr.size/\∀j x,c.get j=Z x->x.isCell=J/\∃v,arr[j]? =Z v/\cm φ O w x v
abbrev k?:=Value×AV
def MpK (_:TypeId) (es:Y k?) (ents:Array MapEntry):Prop:=ents.toList.map (·.key)=es.map (·.1)
def MpV (_:TypeId) (ents:Array MapEntry) (j:Nat) (_ v:Value):Prop:=∃m,ents[j]? =Z m/\v=m.val
def gQ (φ:PM) (O:Nat->Prop) (w:World) (b:jI) (o:Obj):Prop:=
 match b.c with
 |.mp es=>∃ents clock,o= .map ents clock/\MpK b.ty es ents/\∀(j:Nat) x,es[j]? =Z x->∃v,MpV b.ty ents j x.1 v/\cm φ O w x.2 v
 |.it s p=>o= .stringIter s p
 |c=>∃arr,o= .cells arr b.ty (0,0)/\tZ φ O w c arr
def agn (φ:PM) (O:Nat->Prop) (w:World) (k:Nat) (b:jI):Prop:=∃o,w.heap[k]? =Z o/\gQ φ O w b o
variable {z:jI}
def agn.cells (h:agn V O w i z) (b:z.c.isCells=J):
 ∃arr,w.heap[i]? =Z (.cells arr z.ty (0,0))/\tZ V O w z.c arr:=by
 let⟨o,h1,q⟩:=h;unfold gQ at q;cases A:z.c with
 |fz l|mx l=>rw[A]at q;obtain⟨arr,rfl,D⟩:=q;exact⟨arr,h1,D⟩
 |_=>rw[A]at b;cases b
def gQ.mono {φ':PM} {O':Nat->Prop} {w':World} (F:∀x v,cm V O w x v->cm φ' O' w' x v) {o:Obj} (h:gQ V O w z o):gQ φ' O' w' z o:=by
 unfold gQ at h ⊢;cases D:z.c with
 |mp es=>rw[D]at h;let⟨e,c,h1,A,b⟩:=h;exact⟨e,c,h1,A,λj x q=>by let⟨m,a,z⟩:=b j x q;exact⟨m,a,F _ _ z⟩⟩
 |it s p=>rw[D]at h;exact h
 |_=>rw[D]at h;let⟨arr,h1,A,b⟩:=h;exact⟨arr,h1,A,λj x q=>by let⟨a,v,c,d⟩:=b j x q;exact⟨a,v,c,F _ _ d⟩⟩
def tZ.mono {φ':PM} {O':Nat->Prop} {w':World} (z:∀x v,cm V O w x v->cm φ' O' w' x v) {c:BC} {arr:Array Value} (h:tZ V O w c arr):tZ φ' O' w' c arr:=
 ⟨h.1,λj x q=>by let⟨a,v,c,d⟩:=h.2 j x q;exact⟨a,v,c,z _ _ d⟩⟩
def vj (l:ζ):FV:=.raw (.string ⟨l.toArray⟩)
def DC:Y FV:=[vj [118,97,114],vj [118,111,108,97,116,105,108,101],vj [109,117,116,101,120],vj [114,119,108,111,99,107],vj [99,111,110,100],vj [102,117,116,117,114,101],vj [116,104,114,101,97,100],vj [105,102],vj [101,108,115,101],vj [119,104,105,108,101],vj [108,111,99,107],vj [114,101,97,100],vj [119,114,105,116,101],vj [116,114,97,110,115,97,99,116,105,111,110],vj [97,116,111,109,105,99],vj [119,97,105,116],vj [110,111,116,105,102,121],vj [110,111,116,105,102,121,97,108,108],vj [115,112,97,119,110],vj [106,111,105,110],vj [115,101,116],vj [103,101,116]]
def G (g:Nat):M (Y FV):=if g==1 then Z DC else U
structure oM (φ:PM) (E:Nat->Prop) (h:HF) (w:World):Prop where
 inj:∀i j b b' k,h i=Z b->h j=Z b'->φ i=Z k->φ j=Z k->i=j
 at_:∀i b,h i=Z b->∃k,φ i=Z k/\¬E k/\agn φ (tot E φ h) w k b
 el:∀k,E k->k<w.heap.size
 gl:∀g cells,G g=Z cells->lX (tot E φ h) w (.H cells 0) (.pointer (Z ⟨g,0,U⟩))
structure gR (φ φ':PM) (h h':HF) (w w':World):Prop where
 sub:∀i k,φ i=Z k->φ' i=Z k
 ext:C5 (own φ h) w w'
 qn:∀k,k<w.heap.size->own φ' h' k->own φ h k
def gR.refl (φ:PM) (h:HF) (w:World):gR φ φ h h w w:=⟨λ_ _ h=>h,C5.refl _ _,λ_ _ h=>h⟩
variable {S:HF}
def gR.trans {φ' φ'':PM} {h' h'':HF} {w' w'':World} (m:gR V φ' S h' w w') (n:gR φ' φ'' h' h'' w' w''):gR V φ'' S h'' w w'' where
 sub:=λi k e=>n.sub i k (m.sub i k e)
 ext:=⟨n.ext.os.trans m.ext.os,n.ext.tape.trans m.ext.tape,n.ext.output.trans m.ext.output,cA m.ext.size n.ext.size,
  λk c q=>(n.ext.jg k (dj c m.ext.size) (λS=>q (m.qn k c S))).trans (m.ext.jg k c q),
  λk c=>(n.ext.jl k (dj c m.ext.size)).trans (m.ext.jl k c)⟩
 qn:=λk c S=>m.qn k c (n.qn k (dj c m.ext.size) S)
def C5.mono {O':Nat->Prop} {w':World} (h:C5 O w w') (c:∀k,O k->O' k):C5 O' w w':=
 ⟨h.os,h.tape,h.output,h.size,λk q z=>h.jg k q (λx=>z (c k x)),h.jl⟩
def gR.ql {φ':PM} {h':HF} {w':World} (m:gR V φ' S h' w w') (r:cm V (tot O V S) w y v):cm φ' (tot O φ' h') w' y v:=
 r.ext m.sub (m.ext.mono λ_ S=>.inr S) λk q c=>c.elim .inl λo=>.inr (m.qn k q o)
def gR.keepF {φ':PM} {h':HF} {w':World} (m:gR V φ' S h' w w') {x:FV} (r:lX (tot O V S) w x v):lX (tot O φ' h') w' x v:=
 r.ext (m.ext.mono λ_ S=>.inr S) λk q c=>c.elim .inl λo=>.inr (m.qn k q o)
abbrev EF:=Nat->M AV
def Mf (φ:PM) (O:Nat->Prop) (w:World) (e:EF) (a:Act):Prop:=∀t x,e t=Z x->cm φ O w x (a.tmps.getD t undef)
def Do (e:EF) (dst:M Nat) (x:AV):EF:=λt=>if dst=Z t then Z x else e t
def dZ (h:HF) (c:ι) (q:HF):HF:=λi=>if i∈c then q i else h i
structure zD where
 val:AV
 rd:ι
 wr:ι
 nw:HF
 N:ι
def ft (P:Program) (o:Oper) (e:EF) (h:HF) (f:zD):Prop:=
 ∀(φ:PM) (E:Nat->Prop) (h':HF) (w:World) (a:Act),(∀i∈f.rd,h' i=h i)->(∀i∈f.wr,h' i=h i)->
  (∀t,.tmp t∈o.op.operands->∀y,e t=Z y->cm φ (tot E φ h') w y (a.tmps.getD t undef))->oM φ E h' w->(∀n∈f.N,φ n=U)->
  o.wp P a w (λc w'=>∃v φ',c=a.put o.dst v/\gR φ φ' h' (dZ h' f.wr f.nw) w w'/\(∀i k,φ' i=Z k->φ i=Z k\/i∈f.N)/\
   oM φ' E (dZ h' f.wr f.nw) w'/\cm φ' (tot E φ' (dZ h' f.wr f.nw)) w' f.val v) (λ_ _ _=>False)
def lN:zD:=⟨.f (.raw undef),[],[],λ_=>U,[]⟩
inductive F5 (P:Program) (ops:Array Oper) (o:Oper) (f:zD) (e:EF) (h:HF):Prop
 |run (hg:o.guard=U) (ht:ft P o e h f)
 |runG (j t:Nat) (want:Bool) (hg:o.guard=Z (j,want)) (hj:(ops[j]?).bind (·.dst)=Z t) (he:e t=Z (.f (.raw (.bool want)))) (ht:ft P o e h f)
 |skip (j t:Nat) (want:Bool) (hg:o.guard=Z (j,want)) (hj:(ops[j]?).bind (·.dst)=Z t) (v:Value) (he:e t=Z (.f (.raw v))) (hv:v≠ .bool want) (hf:f=lN)
inductive yP (P:Program) (ops:Array Oper):List (Oper×zD)->EF->HF->EF->HF->Prop
 |nil (e:EF) (h:HF):yP P ops [] e h e h
 |cons {o:Oper} {f:zD} {r:List (Oper×zD)} {e e':EF} {h h':HF} (hs:F5 P ops o f e h)
   (hr:yP P ops r (Do e o.dst f.val) (dZ h f.wr f.nw) e' h'):yP P ops ((o,f)::r) e h e' h'
abbrev u!:=Oper×zD
def NI (S:Nat->Bool):Nat->Y u!->EF->EF
 |_,[],e=>e
 |k,(o,f)::r,e=>NI S (k+1) r (if S k then Do e o.dst f.val else e)
def E0 (S:Nat->Bool):Nat->Y u!->HF->HF
 |_,[],h=>h
 |k,(_,f)::r,h=>E0 S (k+1) r (if S k then dZ h f.wr f.nw else h)
variable {p:Nat->Bool}
def E4 {S':Nat->Bool} :∀(l:Y u!) (k:Nat) (e c:EF),e i=c i->
 (∀(j:Nat) o f,l[j]? =Z (o,f)->o.dst=Z i->p (k+j)=S' (k+j))->NI p k l e i=NI S' k l c i
 |[],_,_,_,he,_=>he
 |(o,f)::r,k,e,c,he,q=>by
  refine E4 r (k+1) _ _ ?_ (λj o f z hd=>by have:=q (j+1) o f (by grind) hd;rwa [show k+(j+1)=k+1+j from by omega]at this);by_cases hd:o.dst=Z i
  .rw[show p k=S' k from by simpa using q 0 o f rfl hd];split
   .simp[Do,hd]
   .exact he
  .split<;>split<;>simp[Do,hd,he]
def E3 {S':Nat->Bool} :∀(l:Y u!) (k:Nat) (e c:HF),e i=c i->
 (∀(j:Nat) o f,l[j]? =Z (o,f)->i∈f.wr->p (k+j)=S' (k+j))->E0 p k l e i=E0 S' k l c i
 |[],_,_,_,he,_=>he
 |(o,f)::r,k,e,c,he,q=>by
  refine E3 r (k+1) _ _ ?_ (λj o f z hd=>by have:=q (j+1) o f (by grind) hd;rwa [show k+(j+1)=k+1+j from by omega]at this);by_cases hd:i∈f.wr
  .rw[show p k=S' k from by simpa using q 0 o f rfl hd];split
   .simp[dZ,hd]
   .exact he
  .split<;>split<;>simp[dZ,hd,he]
def Df :∀(l:Y u!) (k:Nat) (e:EF),(∀(j:Nat) o f,l[j]? =Z (o,f)->o.dst=Z i->p (k+j)=aa)->NI p k l e i=e i
 |[],_,_,_=>rfl
 |(o,f)::r,k,e,c=>by
  simp[NI];rw[Df r (k+1) _ (λj o f q hd=>by have:=c (j+1) o f (by grind) hd;rwa [show k+(j+1)=k+1+j from by omega]at this)];split
  next h=>unfold Do;rw[aE];intro hd;have:=c 0 o f rfl hd;simp_all
  .rfl
def De :∀(l:Y u!) (k:Nat) (e:HF),(∀(j:Nat) o f,l[j]? =Z (o,f)->i∈f.wr->p (k+j)=aa)->E0 p k l e i=e i
 |[],_,_,_=>rfl
 |(o,f)::r,k,e,c=>by
  simp[E0];rw[De r (k+1) _ (λj o f q hd=>by have:=c (j+1) o f (by grind) hd;rwa [show k+(j+1)=k+1+j from by omega]at this)];split
  next h=>unfold dZ;rw[aE];intro hd;have:=c 0 o f rfl hd;simp_all
  .rfl
def Rx :∀(l:Y u!) (k t:Nat) (e:EF) (o:Oper) (f:zD),l[t]? =Z (o,f)->o.dst=Z i->p (k+t)=J->
 (∀(j:Nat) c A,t<j->l[j]? =Z (c,A)->c.dst=Z i->p (k+j)=aa)->NI p k l e i=Z f.val
 |[],_,_,_,_,_,h,_,_,_=>by simp at h
 |(c,A)::r,k,0,e,o,f,h,hd,z,q=>by
  obtain⟨rfl,rfl⟩:=h;simp[NI];rw[Df r (k+1) _ (λj o f D hd=>by have:=q (j+1) o f (by omega) (by grind) hd;rwa [show k+(j+1)=k+1+j from by omega]at this)];simp at z;simp[z,Do,hd]
 |(c,A)::r,k,t+1,e,o,f,h,hd,z,q=>by
  exact Rx r (k+1) t _ o f (by grind) hd (by grind)
   (λj o f hij D hd=>by have:=q (j+1) o f (by omega) (by grind) hd;rwa [show k+(j+1)=k+1+j from by omega]at this)
def Rw :∀(l:Y u!) (k t:Nat) (e:HF) (o:Oper) (f:zD),l[t]? =Z (o,f)->i∈f.wr->p (k+t)=J->
 (∀(j:Nat) q c,t<j->l[j]? =Z (q,c)->i∈c.wr->p (k+j)=aa)->E0 p k l e i=f.nw i
 |[],_,_,_,_,_,h,_,_,_=>by simp at h
 |(q,c)::r,k,0,e,o,f,h,hd,A,z=>by
  obtain⟨rfl,rfl⟩:=h;simp[E0];rw[De r (k+1) _ (λj o f D hd=>by have:=z (j+1) o f (by omega) (by grind) hd;rwa [show k+(j+1)=k+1+j from by omega]at this)];simp at A;simp[A,dZ,hd]
 |(q,c)::r,k,t+1,e,o,f,h,hd,A,z=>by
  exact Rw r (k+1) t _ o f (by grind) hd (by grind)
   (λj o f hij D hd=>by have:=z (j+1) o f (by omega) (by grind) hd;rwa [show k+(j+1)=k+1+j from by omega]at this)
variable {P:Program} {L:Array Oper}
def yP.step :∀{l:Y u!} {e c:EF} {h h':HF} (_:yP P L l e h c h') (k i:Nat) (o:Oper) (f:zD),l[i]? =Z (o,f)->
 F5 P L o f (NI (λj=>decide (j<k+i)) k l e) (E0 (λj=>decide (j<k+i)) k l h):=by
 intro l e c h h' F;induction F with
 |nil=>intro k i o f hi;simp at hi
 |@cons q z r e c h h' D I A=>
  intro k i o f hi;cases i with
  |zero=>
   obtain⟨rfl,rfl⟩:=hi;have e1:NI (λj=>decide (j<k+0)) k ((q,z)::r) e=e:=by
    funext t;rw[Df];simp
   have e2:E0 (λj=>decide (j<k+0)) k ((q,z)::r) h=h:=by
    funext t;rw[De];simp
   rw[e1,e2];exact D
  |succ i=>
   have:=A (k+1) i o f (by grind);simp[NI,E0]
   grind
def yP.final :∀{l:Y u!} {e c:EF} {h h':HF} (_:yP P L l e h c h') (k:Nat) (S:Nat->Bool),(∀j,j<l! l->S (k+j)=J)->
 NI S k l e=c/\E0 S k l h=h':=by
 intro l e c h h' A;induction A with
 |nil=>intro k S _;exact⟨rfl,rfl⟩
 |@cons D f1 r e c h h' F I z=>
  intro k S q;have h0:S k=J:=by simpa using q 0 (by simp)
  simp[NI,E0,h0,bo];exact z (k+1) S (λj N=>by have:=q (j+1) (by grind);rwa [show k+(j+1)=k+1+j from by omega]at this)
variable {k:Oper} {Q:Act}
def Rq {K K':Act->World->Prop} {a:Exit->Act->World->Prop} (h:∀Q w,K Q w->K' Q w)
 (hh:k.wp P Q w K (λ_ _ _=>False)):k.wp P Q w K' a:=by
 unfold vp at*
 generalize (execOp Q.eval k).run P w=r at*
 cases r with
 |ok n w'=>
  cases n<;>simp[Oper.upon]at hh ⊢<;>
   first
    |exact h _ _ hh
    |exact Calls.mono hh (λe w'' he=>by
      cases e with
      |returned v=>exact h _ _ he
      |panicked c=>exact he.elim
      |outgrown=>let⟨_,_,h⟩:=he;exact h.elim)
    |exact Rows.mono hh (λ_ _ he=>h _ _ he)
 |halt x w'=>cases x<;>simp[Oper.upon]at hh ⊢<;>first|exact hh.elim|exact hh
inductive Bef (ops:Array Oper):Nat->Nat->Prop
 |one {j:Nat} {o:Oper} {e:Edge} (h:ops[j]? =Z o) (he:e∈o.after) (hb:AQ .any e=J):Bef ops j e.on
 |more {j i:Nat} {o:Oper} {e:Edge} (h:ops[j]? =Z o) (he:e∈o.after) (hb:AQ .any e=J) (hi:Bef ops e.on i):Bef ops j i
structure NIP (ops:Array Oper) (l:List (Oper×zD)):Prop where
 edge:∀(j:Nat) o,ops[j]? =Z o->∀e∈o.after,AQ .any e=J->e.on<j
 pair:∀(i j:Nat) oi fi oj fj,i<j->l[i]? =Z (oi,fi)->l[j]? =Z (oj,fj)->Bef ops j i\/
  (oi.apart ops oj=J/\(∀x∈fi.wr,x∉fj.rd/\x∉fj.wr)/\(∀x∈fj.wr,x∉fi.rd))
 names:∀(i j:Nat) oi fi oj fj,i<j->l[i]? =Z (oi,fi)->l[j]? =Z (oj,fj)->∀n∈fi.N,n∉fj.N
def F9 (ops:Array Oper) (listed:Array Bool):Prop:=∀(j:Nat) o,ops[j]? =Z o->listed.getD j aa=J->∀e∈o.after,AQ .any e=J->listed.getD e.on aa=J
variable {m:Nat}
def F9.bef {listed:Array Bool} (z:F9 L listed) (h:Bef L m i):listed.getD m aa=J->listed.getD i aa=J:=by
 induction h with
 |one h he q=>intro c;exact z _ _ h c _ he q
 |more h he q hi A=>intro c;exact A (z _ _ h c _ he q)
def ZC {listed:Array Bool} (A:F9 L listed) (c:L[m]? =Z k) (z:∀e∈k.after,AQ .any e=J->listed.getD e.on aa=J) (h:Bef L m i):listed.getD i aa=J:=by
 cases h with
 |one h he q=>rw[h]at c;cases c;exact z _ he q
 |more h he q hi=>rw[h]at c;cases c;exact A.bef hi (z _ he q)
def yC {listed:Array Bool} (h:listed.getD i J=aa):listed.getD i aa=aa/\i<listed.size:=by grind
def StP (φ0:PM) (E:Nat->Prop) (e0:EF) (h0:HF) (w0:World) (c:Act) (l:Y u!) (S:Nat->Bool) (a:Act) (w:World):Prop:=
 ∃φ,gR φ0 φ h0 (E0 S 0 l h0) w0 w/\(∀i k,φ i=Z k->φ0 i=Z k\/∃(j:Nat) (o:Oper) (f:zD),S j=J/\l[j]? =Z (o,f)/\i∈f.N)/\
  oM φ E (E0 S 0 l h0) w/\Mf φ (tot E φ (E0 S 0 l h0)) w (NI S 0 l e0) a/\a.defers=c.defers/\a.tmps.size=c.tmps.size
def Dn {dst:M Tmp} (hd:∀d,dst=Z d->d<Q.tmps.size):(Q.put dst v).tmps.getD i undef=if dst=Z i then v else Q.tmps.getD i undef:=by
 cases dst with
 |none=>simp[Act.put]
 |some d=>
  by_cases h:d=i
  .subst h;simp[Act.put,hd d rfl]
  .simp[Act.put,h,Array.getElem?_setIfInBounds_ne h]
def Jn {dst:M Tmp} :(Q.put dst v).tmps.size=Q.tmps.size:=by cases dst<;>simp[Act.put]
def CA {dst:M Tmp} :(Q.put dst v).defers=Q.defers:=by cases dst<;>rfl
def ad9 {l:Y u!} {e0 e':EF} {h':HF} {w0:World} 
 (hl:l.map (·.1)=L.toList) (hc:yP P L l e0 S e' h') (ni:NIP L l) (hfr:∀(j:Nat) o f,l[j]? =Z (o,f)->∀n∈f.N,V n=U)
 (hsz:∀(j:Nat) o,L[j]? =Z o->∀d,o.dst=Z d->d<Q.tmps.size) {listed:Array Bool} (hcl:F9 L listed) (hi:i∈Iw .any L listed) {a0:Exit->Act->World->Prop} {K:Act->World->Prop}
 (hK:∀a w,StP V O e0 S w0 Q l (λj=>(listed.setIfInBounds i J).getD j aa) a w->K a w) {a:Act} (hst:StP V O e0 S w0 Q l (λj=>listed.getD j aa) a w):
 wpOp P L a0 i K a w:=by
 let⟨hun,o,ho,hdeps⟩:=mem_ready.1 hi;let⟨hnf,hlt⟩:=yC hun;have hln:∀(j:Nat) o',L[j]? =Z o'->∃f,l[j]? =Z (o',f):=λj o' h=>by
  have h1:(l.map (·.1))[j]? =Z o':=by rw[hl];simpa using h
  rw[bM]at h1;cases c:l[j]? with
  |none=>rw[c]at h1;cases h1
  |some p=>rw[c]at h1;let⟨a,b⟩:=p;simp at h1;subst h1;exact⟨b,rfl⟩
 have hnl:∀(j:Nat) o' f,l[j]? =Z (o',f)->L[j]? =Z o':=λj o' f h=>by
  have h1:(l.map (·.1))[j]? =Z o':=by rw[bM,h];rfl
  rw[hl]at h1;simpa using h1
 let⟨f,hf⟩:=hln i o ho;have hord:∀(j:Nat) A q,j≠i->l[j]? =Z (A,q)->(listed.getD j aa=decide (j<i))\/
  (o.apart L A=J\/A.apart L o=J)/\(∀x∈f.wr,x∉q.rd/\x∉q.wr)/\(∀x∈q.wr,x∉f.rd/\x∉f.wr):=by
  intro j A q hji c;rcases bZ j i with h|h
  .rcases ni.pair j i A q o f h c hf with hb|⟨h1,F,h3⟩
   .left;rw[ZC hcl ho hdeps hb];simp[h]
   .right;exact⟨.inr h1,λx D=>⟨h3 x D,λhx'=>(F x hx').2 D⟩,λx D=>F x D⟩
  .have h:i<j:=by omega
   rcases ni.pair i j o f A q h hf c with hb|⟨h1,F,h3⟩
   .left;have:listed.getD j aa=aa:=by
     cases D:listed.getD j aa with
     |false=>rfl
     |true=>have:=hcl.bef hb D;rw[hnf]at this;cases this
    rw[this];simp;omega
   .right;exact⟨.inl h1,λx D=>F x D,λx D=>⟨h3 x D,λhx'=>(F x hx').2 D⟩⟩
 have hS':∀j,(listed.setIfInBounds i J).getD j aa=if j=i then J else listed.getD j aa:=λj=>by
  by_cases h:i=j
  .subst h;simp[hlt]
  .rw[getD_set_ne aa h,aE (λe=>h e.symm)]
 have hlater:∀(j:Nat) A q,i<j->l[j]? =Z (A,q)->(listed.getD j aa=aa)\/((o.apart L A=J\/A.apart L o=J)/\(∀x∈f.wr,x∉q.rd/\x∉q.wr)):=by
  intro j A q hij c;rcases hord j A q (by omega) c with h|⟨h1,F,_⟩
  .left;rw[h];simp;omega
  .right;exact⟨h1,F⟩
 have hdd:∀{x y:Oper},(x.apart L y=J\/y.apart L x=J)->∀d,x.dst=Z d->y.dst≠Z d:=by
  intro x y h d hd he;rcases h with h|h
  .exact (Oper.apart_spec h).2.1 d hd he
  .exact (Oper.apart_spec h).2.1 d he hd
 have hlook:∀{x y:Oper},(x.apart L y=J\/y.apart L x=J)->∀d,y.dst=Z d->d∉x.looksAt L:=by
  intro x y h d hd;rcases h with h|h
  .exact (Oper.apart_spec h).2.2 d hd
  .exact (Oper.apart_spec h).1 d hd
 have heL:∀t,t∈o.looksAt L->NI (λj=>listed.getD j aa) 0 l e0 t=NI (λj=>decide (j<0+i)) 0 l e0 t:=λt ht=>by
  refine E4 l 0 e0 e0 rfl λj A q c hd=>?_
  simp only[b6];by_cases hji:j=i
  .subst hji;rw[hnf];simp
  .rcases hord j A q hji c with h|⟨h,_⟩
   .exact h
   .exact bO ht (hlook h t hd)
 have hhL:∀t,t∈f.rd\/t∈f.wr->E0 (λj=>listed.getD j aa) 0 l S t=E0 (λj=>decide (j<0+i)) 0 l S t:=λt ht=>by
  refine E3 l 0 S S rfl λj A q c hd=>?_
  simp only[b6];by_cases hji:j=i
  .subst hji;rw[hnf];simp
  .rcases hord j A q hji c with h|⟨_,_,h⟩
   .exact h
   .rcases ht with ht|ht
    .exact bO ht (h t hd).1
    .exact bO ht (h t hd).2
 have hE':∀t,NI (λj=>(listed.setIfInBounds i J).getD j aa) 0 l e0 t=if o.dst=Z t then Z f.val else NI (λj=>listed.getD j aa) 0 l e0 t:=λt=>by
  by_cases hd:o.dst=Z t
  .rw[aR hd];refine Rx l 0 i e0 o f hf hd (by simp[hS']) λj o' f' hij c I=>?_
   simp only[b6,hS',aE (show ¬j=i by omega)];rcases hlater j o' f' hij c with h|⟨h,_⟩
   .exact h
   .exact bO I (hdd h t hd)
  .rw[aE hd];refine E4 l 0 e0 e0 rfl λj A q c I=>?_
   simp only[b6,hS'];rw[aE];intro hji;subst hji;rw[hf]at c;cases c;exact hd I
 have hH':E0 (λj=>(listed.setIfInBounds i J).getD j aa) 0 l S=dZ (E0 (λj=>listed.getD j aa) 0 l S) f.wr f.nw:=by
  funext t;unfold dZ;by_cases hd:t∈f.wr
  .rw[aR hd];refine Rw l 0 i S o f hf hd (by simp[hS']) λj o' f' hij c I=>?_
   simp only[b6,hS',aE (show ¬j=i by omega)];rcases hlater j o' f' hij c with h|⟨_,h⟩
   .exact h
   .exact bO I (h t hd).2
  .rw[aE hd];refine E3 l 0 S S rfl λj A q c I=>?_
   simp only[b6,hS'];rw[aE];intro hji;subst hji;rw[hf]at c;cases c;exact hd I
 let⟨φ,hm,hdom,hrep,henv,hdef,hsize⟩:=hst;have hfrN:∀n∈f.N,φ n=U:=λn hn=>by
  cases D:φ n with
  |none=>rfl
  |some k=>
   rcases hdom n k D with h|⟨j,A,q,hSj,c,hnj⟩
   .rw[hfr i o f hf n hn]at h;cases h
   .have hji:j≠i:=by intro h;subst h;exact bO hSj (by simp only[hnf];simp)
    rcases bZ j i with h|h
    .exact bO hn (ni.names j i A q o f h c hf n hnj)
    .exact bO hnj (ni.names i j o f A q (by omega) hf c n hn)
 have hdsz:∀d,o.dst=Z d->d<a.tmps.size:=λd hd=>by rw[hsize];exact hsz i o ho d hd
 have main:∀(v:Value) (φ':PM) (w':World),gR φ φ' (E0 (λj=>listed.getD j aa) 0 l S) (dZ (E0 (λj=>listed.getD j aa) 0 l S) f.wr f.nw) w w'->
  (∀i k,φ' i=Z k->φ i=Z k\/i∈f.N)->oM φ' O (dZ (E0 (λj=>listed.getD j aa) 0 l S) f.wr f.nw) w'->
  cm φ' (tot O φ' (dZ (E0 (λj=>listed.getD j aa) 0 l S) f.wr f.nw)) w' f.val v->K (a.put o.dst v) w':=by
  intro v φ' w' m1 d1 r1 v1;refine hK _ _ ⟨φ',?_,?_,?_,?_,?_,?_⟩
  .rw[hH'];exact hm.trans m1
  .grind
  .rw[hH'];exact r1
  .rw[hH'];intro t x D;rw[hE' t]at D;rw[Dn hdsz];by_cases hd:o.dst=Z t
   .rw[aR hd]at D ⊢;cases D;exact v1
   .rw[aE hd]at D ⊢;exact m1.ql (henv t x D)
  .rw[CA];exact hdef
  .rw[Jn];exact hsize
 have hstep:=hc.step 0 i o f hf;have hrun:ft P o (NI (λj=>decide (j<0+i)) 0 l e0) (E0 (λj=>decide (j<0+i)) 0 l S) f->o.wp P a w K a0:=by
  intro ht;refine Rq ?_ (ht φ O (E0 (λj=>listed.getD j aa) 0 l S) w a (λt h=>hhL t (.inl h)) (λt h=>hhL t (.inr h)) ?_ hrep hfrN)
  .rintro a' w' ⟨v,φ',rfl,m1,d1,r1,v1⟩;exact main v φ' w' m1 d1 r1 v1
  .intro t ht' y hy;refine henv t y ?_;rw[heL t (fQ _ (List.mem_filterMap.2 ⟨.tmp t,by simpa using ht',rfl⟩))];exact hy
 have hyield:∀(j t:Nat) (want b:Bool),o.guard=Z (j,want)->(L[j]?).bind (·.dst)=Z t->NI (λj=>decide (j<0+i)) 0 l e0 t=Z (.f (.raw (.bool b)))->iJ o (yielded L a.tmps)=(b==want):=by
  intro j t want b hg c he;rw[<- heL t (kE _ (by rw[hg];simp[c]))]at he;have h1:=henv t _ he;have F:a.tmps.getD t undef= .bool b:=by
   generalize hz:a.tmps.getD t undef=z at h1;cases h1 with
   |f h=>cases h;rfl
  have h3:a.tmps[t]? =Z (.bool b):=by
   rw[gE]at F;cases hz:a.tmps[t]? with
   |none=>rw[hz]at F;simp[undef]at F
   |some z=>rw[hz]at F;simp at F;rw[F]
  unfold iJ yielded;rw[hg];simp[c,h3]
 unfold wpOp;simp only[ho];cases hstep with
 |run hg ht=>
  rw[aR (by unfold iJ;rw[hg])];exact .inl (hrun ht)
 |runG j t want hg c he ht=>
  rw[aR (by rw[hyield j t want want hg c he];simp)];exact .inl (hrun ht)
 |skip j t want hg c v he hv hf'=>
  have hnw:iJ o (yielded L a.tmps)=aa:=by
   rw[<- heL t (kE _ (by rw[hg];simp[c]))]at he;have h1:=henv t _ he;have F:a.tmps.getD t undef=v:=by
    generalize a.tmps.getD t undef=z at h1;cases h1 with
    |f h=>cases h;rfl
   unfold iJ yielded;rw[hg];simp only[c,aB];rw[gE]at F;cases hz:a.tmps[t]? with
   |none=>simp
   |some z=>
    rw[hz]at F;simp at F;subst F;cases z<;>simp at hv ⊢;exact hv
  rw[aE (by rw[hnw];simp)];subst hf';have hu:dZ (E0 (λj=>listed.getD j aa) 0 l S) lN.wr lN.nw=E0 (λj=>listed.getD j aa) 0 l S:=by
   funext t;simp[dZ,lN]
  refine main undef φ w ?_ (λ_ _ h=>.inl h) ?_ ?_
  .rw[hu];exact gR.refl _ _ _
  .rw[hu];exact hrep
  .exact .f (.raw _)
def Rc {l:θ} (h:l! l<=l.countP id):∀(j:Nat),j<l! l->l[j]? =Z J:=by
 have h1:l.countP id=l! l:=Nat.le_antisymm List.countP_le_length h;rw[List.countP_eq_length]at h1
 grind
def XQ {l:Y u!} (c:NIP L l) {listed:Array Bool} (F:listed.size=L.size) (q:Iw .any L listed=[]):
 ∀(n j:Nat),j<n->j<L.size->listed.getD j aa=J:=by
 intro n;induction n with
 |zero=>intro j h;omega
 |succ n A=>
  intro j I hjs;cases D:listed.getD j aa with
  |true=>rfl
  |false=>
   have hmem:j∈Iw .any L listed:=by
    refine mem_ready.2 ⟨?_,L[j],oK hjs,λe he z=>?_⟩
    .grind
    .have h1:=c.edge j _ (oK hjs) e he z
     grind
   rw[q]at hmem;cases hmem
def OO {l:Y u!} {e0 e':EF} {h':HF} {E:Nat->Prop} {w0:World} 
 (hl:l.map (·.1)=L.toList) (A:yP P L l e0 S e' h') (D:NIP L l) (hfr:∀(j:Nat) o f,l[j]? =Z (o,f)->∀n∈f.N,V n=U)
 (hsz:∀(j:Nat) o,L[j]? =Z o->∀d,o.dst=Z d->d<Q.tmps.size) {q:Exit->Act->World->Prop}
 (hQ:∀a w,StP V E e0 S w0 Q l (λ_=>J) a w->q .normal a w):
 ∀(fI:Nat) (listed:Array Bool) (a:Act) (w:World),listed.size=L.size->F9 L listed->L.size<=fI+listed.toList.countP id->
  StP V E e0 S w0 Q l (λj=>listed.getD j aa) a w->wpAny P .any L q fI listed a w:=by
 have hlen:l! l=L.size:=by have:=iQ ah hl;simpa using this
 have fin:∀(listed:Array Bool) (a:Act) (w:World),(∀j,j<L.size->listed.getD j aa=J)->StP V E e0 S w0 Q l (λj=>listed.getD j aa) a w->q .normal a w:=by
  intro listed a w hall hst;refine hQ a w ?_;have h1:=A.final 0 (λj=>listed.getD j aa) (λj c=>by simp only[b6];exact hall j (by omega));have h2:=A.final 0 (λ_=>J) (λ_ _=>rfl);unfold StP at hst ⊢
  grind
 intro fI;induction fI with
 |zero=>
  intro listed a w z hcl hcnt hst;have hall:∀j,j<L.size->listed.getD j aa=J:=λj c=>by
   have:=Rc (l:=listed.toList) (by grind) j (by grind);simp_all
  refine ⟨?_,fin listed a w hall hst⟩;cases F:Iw .any L listed with
  |nil=>rfl
  |cons i r=>
   have hi:i∈Iw .any L listed:=by grind
   let⟨hun,o,I,_⟩:=mem_ready.1 hi
   grind
 |succ fI ih=>
  intro listed a w z hcl hcnt hst;refine ⟨λF=>fin listed a w (λj c=>XQ D z F (j+1) j (by omega) c) hst,λi hi=>?_⟩;let⟨hun,o,I,hdeps⟩:=mem_ready.1 hi;let⟨hnf,hlt⟩:=yC hun;refine ad9 hl A D hfr hsz hcl hi (λa' w' h=>ih _ a' w' ?_ ?_ ?_ h) hst
  .simpa using z
  .intro j oj hoj c e he hb;by_cases hji:i=j
   .subst hji;rw[I]at hoj;cases hoj;exact getD_set_true (hdeps e he hb)
   .rw[getD_set_ne aa hji]at c;exact getD_set_true (hcl j oj hoj c e he hb)
  .have h1:listed.toList[i]? =Z aa:=by
    simp_all
   grind
def ats (φ0:PM) (E:Nat->Prop) (q:EF) (h0 h':HF) (N:ι) (w0:World) (c:Act) (a:Act) (w:World):Prop:=
 ∃φ,gR φ0 φ h0 h' w0 w/\(∀i k,φ i=Z k->φ0 i=Z k\/i∈N)/\oM φ E h' w/\Mf φ (tot E φ h') w q a/\a.defers=c.defers/\a.tmps.size=c.tmps.size
def gR.drew (w:World):gR V V S S w {w with drawn:=w.drawn+1}:=
 ⟨λ_ _ S=>S,⟨rfl,rfl,rfl,bL _,λ_ _ _=>rfl,λ_ _=>rfl⟩,λ_ _ S=>S⟩
def oM.moved {w':World} (r:oM V O S w) (m:gR V V S S w w') (c:∀k,own V S k->w'.heap[k]? =w.heap[k]?):oM V O S w':=
 ⟨r.inj,λi b q=>by
   let⟨k,h1,F,o,D,A⟩:=r.at_ i b q;exact⟨k,h1,F,o,by rw[c k ⟨i,b,q,h1⟩];exact D,A.mono λ_ _ S=>m.ql S⟩,λk c=>dj (r.el k c) m.ext.size,
   λg cells z=>m.keepF (r.gl g cells z)⟩
variable {b:Bool}
def Gi {l:Y u!} {e0 e':EF} {h':HF} {φ0:PM} {E:Nat->Prop} 
 (hm:P.follows .mixedOrders=J) (hl:l.map (·.1)=L.toList) (F:yP P L l e0 S e' h') (A:NIP L l) (hfr:∀n∈l.flatMap (λp=>p.2.N),φ0 n=U)
 (hsz:∀(j:Nat) o,L[j]? =Z o->∀d,o.dst=Z d->d<Q.tmps.size) (hrep:oM φ0 E S w) (henv:Mf φ0 (tot E φ0 S) w e0 Q) {c:Exit->Act->World->Prop}
 (hQ:∀a w0,ats φ0 E e' S h' (l.flatMap (λp=>p.2.N)) w Q a w0->c .normal a w0):(Code.region i L b).wp P c Q w:=by
 have hfr':∀(j:Nat) o f,l[j]? =Z (o,f)->∀n∈f.N,φ0 n=U:=λj o f q n hn=>hfr n (kN.2 ⟨(o,f),bd q,hn⟩)
 have fin:∀a w0,StP φ0 E e0 S w Q l (λ_=>J) a w0->c .normal a w0:=by
  rintro a w0 ⟨φ,m,d,r,en,df,sz⟩;have z:=F.final 0 (λ_=>J) (λ_ _=>rfl);rw[z.2]at m r en;rw[z.1]at en;refine hQ a w0 ⟨φ,m,λid k h=>?_,r,en,df,sz⟩
  grind
 have Vx:∀(w0:World),gR φ0 φ0 S S w w0->oM φ0 E S w0->StP φ0 E e0 S w Q l (λj=>(lZ L.size aa).getD j aa) Q w0:=by
  intro w0 m r;have e1:(λj=>(lZ L.size aa).getD j aa)=λ_=>aa:=by
   funext j;rw[gE,Array.getElem?_replicate];split<;>rfl
  rw[e1];have e2:NI (λ_=>aa) 0 l e0=e0:=by funext t;rw[Df];intros;rfl
  have I:E0 (λ_=>aa) 0 l S=S:=by funext t;rw[De];intros;rfl
  refine ⟨φ0,by rw[I];exact m,λ_ _ h=>.inl h,by rw[I];exact r,?_,rfl,rfl⟩;rw[e2,I];exact λt x hx=>m.ql (henv t x hx)
 have cl0:F9 L (lZ L.size aa):=by
  intro j o ho q;rw[gE,Array.getElem?_replicate]at q;split at q<;>simp at q
 cases b with
 |true=>
  refine wp_region_any hm ?_;exact OO hl F A hfr' hsz fin L.size _ Q _ (by simp) cl0 (by omega) (Vx _ (gR.drew w) (hrep.moved (gR.drew w) λ_ _=>rfl))
 |false=>
  have hany:=OO (E:=E) (w0:=w) hl F A hfr' hsz fin L.size _ Q w (by simp) cl0 (by omega) (Vx _ (gR.refl _ _ _) hrep);refine wp_region ?_;have key:∀(m k:Nat) (listed:Array Bool) (a:Act) (w0:World),k+m=L.size->listed.size=L.size->(∀j,j<k->listed.getD j aa=J)->(∀j,k<=j->j<L.size->listed.getD j J=aa)->
   wpAny P .any L c m listed a w0->wpOps P L c (List.range' k m) a w0:=by
   intro m;induction m with
   |zero=>intro k listed a w0 hk hs h1 z h;simpa[wpOps] using h.2
   |succ m ih=>
    intro k listed a w0 hk hs h1 z h;have hkr:k∈Iw .any L listed:=by
     refine mem_ready.2 ⟨z k (bL _) (by omega),L[k]'(by omega),oK (by omega),λe he hb=>?_⟩;exact h1 _ (A.edge k _ (oK (by omega)) e he hb)
    refine wpOp_mono (λa' w' h'=>ih (k+1) (listed.setIfInBounds k J) a' w' (by omega) (by grind) ?_ ?_ h') (h.2 k hkr)
    .intro j q;by_cases hjk:k=j
     .subst hjk;simp[show k<listed.size by omega]
     .rw[getD_set_ne aa hjk];exact h1 j (by omega)
    .intro j q D;rw[getD_set_ne J (by omega)];exact z j (by omega) D
  have:=key L.size 0 (lZ L.size aa) Q w (by omega) (by simp) (by simp) (by
   intro j _ q;rw[gE,Array.getElem?_replicate,aR q];rfl) hany
  rwa [List.range_eq_range']
inductive PT (α:Type) where
 |leaf
 |node (v:Option α) (l r:PT α)
namespace PT
variable {α:Type}
def get:PT α->Nat->M α
 |leaf,_=>U
 |node v l r,n=>match n with
  |0=>v
  |m+1=>if ay (m%2) 0 then get l (m/2) else get r (m/2)
def setF:Nat->PT α->Nat->M α->PT α
 |0,t,_,_=>t
 |k+1,t,n,x=>match t with
  |leaf=>(match n with
   |0=>node x leaf leaf
   |m+1=>if ay (m%2) 0 then node U (setF k leaf (m/2) x) leaf else node U leaf (setF k leaf (m/2) x))
  |node v l r=>(match n with
   |0=>node x l r
   |m+1=>if ay (m%2) 0 then node v (setF k l (m/2) x) r else node v l (setF k r (m/2) x))
def set (t:PT α) (n:Nat) (x:M α):PT α:=setF (n+1) t n x
def S9 (n:Nat):(leaf:PT α).get n=U:=rfl
def Ac:∀(k:Nat) (t:PT α) (n:Nat) (x:M α),n<k->∀i,(setF k t n x).get i=if i=n then x else t.get i
 |0,_,_,_,h,_=>bO h (dE _)
 |k+1,t,n,x,h,i=>by
  cases n with
  |zero=>
   cases t<;>cases i<;>simp[setF,get]
  |succ m=>
   have hm:m/2<k:=by omega
   cases t with
   |leaf=>
    simp only[setF];cases A:ay (m%2) 0 with
    |true=>
     have z:m%2=0:=au A;simp[bo];cases i with
     |zero=>simp[get]
     |succ j=>
      simp only[get];cases q:ay (j%2) 0 with
      |true=>
       have c:j%2=0:=au q;simp[bo];rw[Ac k _ _ _ hm];by_cases he:j/2=m/2
       .grind
       .rw[aE he,aE (by omega)];rfl
      |false=>grind
    |false=>
     have z:¬m%2=0:=fa A;simp[cg,eV];cases i with
     |zero=>simp[get]
     |succ j=>
      simp only[get];cases q:ay (j%2) 0 with
      |true=>grind
      |false=>
       have c:¬j%2=0:=fa q;simp[cg,eV];rw[Ac k _ _ _ hm];by_cases he:j/2=m/2
       .grind
       .rw[aE he,aE (by omega)];rfl
   |node v l r=>
    simp only[setF];cases A:ay (m%2) 0 with
    |true=>
     have z:m%2=0:=au A;simp[bo];cases i with
     |zero=>simp[get]
     |succ j=>
      simp[get];cases q:ay (j%2) 0 with
      |true=>
       have c:j%2=0:=au q;rw[Ac k _ _ _ hm]
       grind
      |false=>grind
    |false=>
     have z:¬m%2=0:=fa A;simp[cg,eV];cases i with
     |zero=>simp[get]
     |succ j=>
      simp[get];cases q:ay (j%2) 0 with
      |true=>grind
      |false=>
       have c:¬j%2=0:=fa q;rw[Ac k _ _ _ hm]
       grind
def get_set (t:PT α) (n:Nat) (x:M α) (i:Nat):(t.set n x).get i=if i=n then x else t.get i:=Ac (n+1) t n x (by omega) i
variable {R:Type}
def mask :PT α->PT R->PT α
 |leaf,_|node _ _ _,leaf=>leaf
 |node v l r,node u l' c=>node (match u with|some _=>v|none=>U) (mask l l') (mask r c)
def get_mask :∀(t:PT α) (u:PT R) (i:Nat) (x:α),(t.mask u).get i=Z x->t.get i=Z x
 |leaf,_,i,x,h|node _ _ _,leaf,i,x,h=>by simp[mask,get]at h
 |node v l r,node u l' q,0,x,h=>by
  simp[mask,get]at h ⊢;cases u with
  |none=>simp at h
  |some _=>exact h
 |node v l r,node u l' q,j+1,x,h=>by
  simp[mask,get]at h ⊢;split at h
  next c=>rw[aR c];exact get_mask l l' _ x h
  next c=>rw[aE c];exact get_mask r q _ x h
def mk:M α->PT α->PT α->PT α
 |none,leaf,leaf=>leaf
 |v,l,r=>node v l r
def Ad (v:M α) (l r:PT α) (i:Nat):(mk v l r).get i=(node v l r).get i:=by
 cases v<;>cases l<;>cases r<;>first|rfl|(cases i<;>simp[mk,get])
def only (m:Nat):Nat->Nat->PT α->PT α
 |_,_,leaf=>leaf
 |a,b,node v l r=>mk (if aC m b then v else U) (only m (2*a) (a+b) l) (only m (2*a) (2*a+b) r)
def get_only (m:Nat):∀(t:PT α) (a b i:Nat),(only m a b t).get i=if aC m (a*i+b) then t.get i else U
 |leaf,_,_,_|node v l r,a,b,0=>by simp[only,Ad,get]
 |node v l r,a,b,j+1=>by
  simp only[only,Ad,get];cases q:ay (j%2) 0 with
  |true=>
   have c:j%2=0:=au q;simp[bo];rw[get_only m l];have:2*a*(j/2)+(a+b)=a*(j+1)+b:=by
    have e:j=2*(j/2):=by omega
    grind
   rw[this]
  |false=>
   have c:¬j%2=0:=fa q;simp[cg,eV];rw[get_only m r];have:2*a*(j/2)+(2*a+b)=a*(j+1)+b:=by
    have e:j=2*(j/2)+1:=by omega
    grind
   rw[this]
def exc (m:Nat):Nat->Nat->PT α->PT α
 |_,_,leaf=>leaf
 |a,b,node v l r=>mk (if aC m b then U else v) (exc m (2*a) (a+b) l) (exc m (2*a) (2*a+b) r)
def Qf (m:Nat):∀(t:PT α) (a b i:Nat),(exc m a b t).get i=if aC m (a*i+b) then U else t.get i
 |leaf,_,_,_|node v l r,a,b,0=>by simp[exc,Ad,get]
 |node v l r,a,b,j+1=>by
  simp only[exc,Ad,get];cases q:ay (j%2) 0 with
  |true=>
   have c:j%2=0:=au q;simp[bo];rw[Qf m l];have:2*a*(j/2)+(a+b)=a*(j+1)+b:=by
    have e:j=2*(j/2):=by omega
    grind
   rw[this]
  |false=>
   have c:¬j%2=0:=fa q;simp[cg,eV];rw[Qf m r];have:2*a*(j/2)+(2*a+b)=a*(j+1)+b:=by
    have e:j=2*(j/2)+1:=by omega
    grind
   rw[this]
def merge (m:Nat):Nat->Nat->PT α->PT α->PT α
 |a,b,leaf,t=>only m a b t
 |a,b,node v l r,leaf=>exc m a b (node v l r)
 |a,b,node v l r,node c l' q=>mk (if aC m b then c else v) (merge m (2*a) (a+b) l l') (merge m (2*a) (2*a+b) r q)
def get_merge (m:Nat):∀(t u:PT α) (a b i:Nat),(merge m a b t u).get i=if aC m (a*i+b) then u.get i else t.get i
 |leaf,u,a,b,i=>by simp[merge,get_only,S9]
 |node v l r,leaf,a,b,i=>by simp[merge,Qf,S9]
 |node v l r,node A l' q,a,b,0=>by simp[merge,Ad,get]
 |node v l r,node A l' q,a,b,j+1=>by
  simp only[merge,Ad,get];cases z:ay (j%2) 0 with
  |true=>
   have c:j%2=0:=au z;simp[bo];rw[get_merge m l l'];have:2*a*(j/2)+(a+b)=a*(j+1)+b:=by
    have e:j=2*(j/2):=by omega
    grind
   rw[this]
  |false=>
   have c:¬j%2=0:=fa z;simp[cg,eV];rw[get_merge m r q];have:2*a*(j/2)+(2*a+b)=a*(j+1)+b:=by
    have e:j=2*(j/2)+1:=by omega
    grind
   rw[this]
def all (p:Nat->α->Bool):Nat->Nat->PT α->Bool
 |_,_,leaf=>J
 |a,b,node v l r=>(match v with|some x=>p b x|none=>J)&&all p (2*a) (a+b) l&&all p (2*a) (2*a+b) r
def get_all (p:Nat->α->Bool):∀(t:PT α) (a b i:Nat) (x:α),all p a b t=J->t.get i=Z x->p (a*i+b) x=J
 |leaf,_,_,_,_,_,h=>by simp[get]at h
 |node v l r,a,b,0,x,h,c=>by
  subst c;simp[all,al]at h
  grind
 |node v l r,a,b,j+1,x,h,c=>by
  simp[all,al]at h;simp only[get]at c;cases q:ay (j%2) 0 with
  |true=>
   have z:j%2=0:=au q;simp[q,bo]at c;have key:=get_all p l _ _ _ x h.1.2 c;have:2*a*(j/2)+(a+b)=a*(j+1)+b:=by
    have e:j=2*(j/2):=by omega
    grind
   rw[this]at key;exact key
  |false=>
   have z:¬j%2=0:=fa q;simp[q,cg,eV]at c;have key:=get_all p r _ _ _ x h.2 c;have:2*a*(j/2)+(2*a+b)=a*(j+1)+b:=by
    have e:j=2*(j/2)+1:=by omega
    grind
   rw[this]at key;exact key
def dom:Nat->Nat->PT α->Nat->Nat
 |_,_,leaf,acc=>acc
 |a,b,node v l r,acc=>dom (2*a) (a+b) l (dom (2*a) (2*a+b) r (match v with|some _=>acc|||(1<<<b)|none=>acc))
def Es:∀(t:PT α) (a b acc i:Nat),aC acc i=J->aC (dom a b t acc) i=J
 |leaf,_,_,_,_,h=>h
 |node v l r,a,b,acc,i,h=>by
  refine Es l _ _ _ i (Es r _ _ _ i ?_);cases v with
  |none=>exact h
  |some x=>simp[bj,h]
def dom_get:∀(t:PT α) (a b acc i:Nat) (x:α),t.get i=Z x->aC (dom a b t acc) (a*i+b)=J
 |leaf,_,_,_,_,_,h=>by simp[get]at h
 |node v l r,a,b,acc,0,x,c=>by
  simp only[get]at c;subst c;simp only[dom,Nat.mul_zero,b6];refine Es l _ _ _ b (Es r _ _ _ b ?_);rw[bj,AS,HM];simp
 |node v l r,a,b,acc,j+1,x,c=>by
  simp only[dom];simp only[get]at c;cases q:ay (j%2) 0 with
  |true=>
   have z:j%2=0:=au q;simp only[q,bo]at c;have key:=dom_get l (2*a) (a+b) (dom (2*a) (2*a+b) r (match v with|some _=>acc|||(1<<<b)|none=>acc)) (j/2) x c;have:2*a*(j/2)+(a+b)=a*(j+1)+b:=by
    have e:j=2*(j/2):=by omega
    calc 2*a*(j/2)+(a+b)=a*(2*(j/2))+a+b:=by rw[Nat.mul_comm 2 a,Nat.mul_assoc];omega
     _=a*(j+1)+b:=by rw[<- e,Nat.mul_add];omega
   rw[this]at key;exact key
  |false=>
   have z:¬j%2=0:=fa q;simp only[q,cg,eV]at c;have key:=dom_get r (2*a) (2*a+b) (match v with|some _=>acc|||(1<<<b)|none=>acc) (j/2) x c;have:2*a*(j/2)+(2*a+b)=a*(j+1)+b:=by
    have D:a*(j+1)=a*(2*(j/2))+2*a:=by
     calc a*(j+1)=a*(2*(j/2)+2):=by rw[show j+1=2*(j/2)+2 from by omega]
      _=a*(2*(j/2))+2*a:=by rw[Nat.mul_add];omega
    have A:2*a*(j/2)=a*(2*(j/2)):=by rw[Nat.mul_comm 2 a,Nat.mul_assoc]
    omega
   rw[this]at key;exact Es l _ _ _ _ key
def emp:PT α:=leaf
end PT
abbrev ve:=PT AV
abbrev gy:=PT jI
abbrev NW:=Y (Nat×jI)
def ve.put (e:ve):M Nat->AV->ve
 |none,_=>e
 |some d,x=>e.set d (Z x)
def iy:NW->HF
 |[],_=>U
 |(s,x)::r,t=>if ay s t then Z x else iy r t
def gy.upd (h:gy) (q:ι) (c:NW):gy:=match q with
 |[]=>h
 |i::r=>gy.upd (h.set i (iy c i)) r c
def R1 (e:ve) (d:M Nat) (x:AV):Do e.get d x=(e.put d x).get:=by
 funext t;cases d with
 |none=>simp[Do,ve.put]
 |some d=>
  simp[Do,ve.put,PT.get_set,af]
  grind
def acd (c:ι) (q:NW):∀h:gy,dZ h.get c (iy q)=(h.upd c q).get:=by
 induction c with
 |nil=>intro h;funext t;simp[dZ,gy.upd]
 |cons i r z=>
  intro h;rw[gy.upd,<-z];funext t;unfold dZ;rw[PT.get_set]
  grind
def I3 (acc:ι) (s:Nat) (e:Edge):Nat:=if AQ .any e then (s|||2^e.on)|||acc.getD e.on 0 else s
def CZ:Y Oper->ι->ι
 |[],acc=>acc
 |o::r,acc=>CZ r (acc++[o.after.toList.foldl (I3 acc) 0])
def LR {o:Nat} {acc:ι} (z:L[o]? =Z k) (D:∀(j:Nat) B,acc[j]? =Z B->∀i,B.testBit i=J->Bef L j i):
 ∀(es:Y Edge) (s:Nat),(∀e∈es,e∈k.after)->(∀i,s.testBit i=J->Bef L o i)->∀i,(es.foldl (I3 acc) s).testBit i=J->Bef L o i
 |[],s,_,c,i,hi=>c i hi
 |e::r,s,he,c,i,hi=>by
  refine LR z D r (I3 acc s e) (λF h'=>he F (cq _ h')) (λi hi=>?_) i hi;unfold I3 at hi;split at hi
  .rename_i A;rw[bj,bj,eX,eX]at hi;rcases hi with (hi|hi)|hi
   .exact c i hi
   .rw[HM]at hi;have:e.on=i:=by grind
    subst this;exact .one z (he e (cS ..)) A
   .refine .more z (he e (cS ..)) A ?_;rw[aT]at hi;cases q:acc[e.on]? with
    |none=>rw[q]at hi;simp at hi
    |some C=>rw[q]at hi;exact D _ C q i hi
  .exact c i hi
def F0 {ops:Array Oper}:∀(rest:Y Oper) (acc:ι),(∀(j:Nat),∀o,rest[j]? =Z o->ops[l! acc+j]? =Z o)->
 (∀(j:Nat) B,acc[j]? =Z B->∀i,B.testBit i=J->Bef ops j i)->∀(j:Nat) B,(CZ rest acc)[j]? =Z B->∀i,B.testBit i=J->Bef ops j i
 |[],acc,_,q=>q
 |o::r,acc,z,q=>by
  refine F0 r _ (λj D c=>?_) ?_
  .rw[aD,aJ,show (l! acc)+1+j=l! acc+(j+1) from by omega];simp_all
  .intro j B c i hi;rcases bZ j (l! acc) with h|h
   .grind
   .rw[cw h]at c;have A:j-l! acc=0:=by grind
    have hjl:j=l! acc:=by omega
    subst hjl;simp at c;subst c;have hoo:ops[l! acc]? =Z o:=by simpa using z 0 o rfl
    rw[<- Array.foldl_toList]at hi;exact LR hoo q _ 0 (λe he=>by simpa using he) (λi hi=>by simp at hi) i hi
inductive Np where
 |mv (x:Operand)
 |pick (c a b:Operand)
 |alloc (ty:TypeId) (z:ξ)
 |box (ty:TypeId) (x:Operand)
 |build (z:ξ) (parts:List (Nat×Nat×Operand))
 |xz (ty:TypeId) (sz len:Nat) (z:ξ) (parts:List (Nat×Nat×Operand))
 |load (sz:Nat) (ag:Bool) (x:Operand)
 |store (sz:Nat) (x v:Operand)
 |tos (x:Operand)
 |sla (n sz:Nat) (x lo:Operand)
 |sls (x:Operand) (lo hi:Option Operand)
 |byt (x:Operand)
 |jh (neg:Bool) (x:Operand)
 |zr (x:Operand)
 |bin (op:BinOp) (x y:Operand)
 |jt (neg:Bool) (ds:List TypeDesc) (x y:Operand)
 |zm (neg:Bool) (x:Operand)
 |xq (neg:Bool) (x y:Operand)
 |not (x:Operand)
 |conv (k:IntKind) (x:Operand)
 |zf (ty:TypeId) (sz bytes:Nat) (z:ξ) (l c:Operand)
 |slc (sz:Nat) (x:Operand) (lo hi mx:Option Operand)
 |jm (off:Nat) (x:Operand)
 |fld (off sz:Nat) (ag:Bool) (x:Operand)
 |jp (sz:Nat) (x i:Operand)
 |jv (n sz:Nat) (x i:Operand)
 |idx (n sz:Nat) (ag:Bool) (x i:Operand)
 |ext (x:Operand) (i:Nat)
 |len (x:Operand)
 |lens (x:Operand)
 |jk (x:Operand)
 |max (x y:Operand)
 |min (x y:Operand)
 |jx (x i:Operand)
 |app (ty:TypeId) (sz bytes:Nat) (s x:Operand)
 |copy (sz:Nat) (d x:Operand)
 |clr (sz:Nat) (z:ξ) (x:Operand)
 |mkf (f:FuncId) (caps:List Operand)
 |mkm
 |jb (str ok:Bool) (z:Value) (x k:Operand)
 |jf (str:Bool) (x k v:Operand)
 |rng (x:Operand)
 |nxt (x:Operand)
 |jq (neg:Bool) (x:Operand)
 |lkq (ds:List TypeDesc) (z:Value) (x k:Operand)
 |mpq (ds:List TypeDesc) (x k v:Operand)
 |dlq (ds:List TypeDesc) (x k:Operand)
 |zh
inductive SI where
 |op (s:Np)
 |call (f:FuncId) (args:List Operand)
 |jr (x:Operand) (args:List Operand)
def mem (t:Nat):ι->Bool
 |[]=>aa
 |x::r=>ay x t||mem t r
def LL:ξ->Bool
 |[]=>J
 |v::r=>v.oneCell'&&LL r
def FQ:Value->AV
 |.agg vs=>if LL vs.toList then .agg (vs.toList.map λv=>.f (.raw v)) else .f (.raw (.agg vs))
 |v=>.f (.raw v)
def kc (e:ve):Operand->M AV
 |.tmp t=>e.get t
 |.const v=>Z (FQ v)
 |.func g=>Z (.qy g [])
 |.global g=>match G g with|some cells=>Z (.f (.H cells 0))|none=>U
def YT (e:ve):Y Operand->M (Y AV)
 |[]=>Z []
 |x::xs=>match kc e x with|some y=>(match YT e xs with|some c=>Z (y::c)|none=>U)|none=>U
structure yf where
 val:AV
 rd:ι
 wr:ι
 nw:NW
 N:ι
def yf.eff (r:yf):zD:=⟨r.val,r.rd,r.wr,iy r.nw,r.N⟩
def rv (x:AV):M yf:=Z ⟨x,[],[],[],[]⟩
def raw (v:Value):AV:=.f (.raw v)
def pkV (ok:Bool) (v:AV) (b:Bool):AV:=match ok with|true=>.qb [v,raw (.bool b)]|false=>v
def xd:Y AV->M (Y FV)
 |[]=>Z []
 |.f x::r=>match xd r with|some l=>Z (x::l)|none=>U
 |_::_=>U
def mN (l:Y AV):BC:=match xd l with|some c=>.fz c|none=>.mx l
def N0 (l:Y AV):AV:=match xd l with|some c=>.f (.agg c)|none=>.agg l
variable {R:Type}
def splice (l:Y R) (off:Nat) (vs:Y R):Y R:=l.take off++vs++l.drop (off+l! vs)
def BC.toMx:BC->Y AV
 |.fz l=>l.map .f
 |.mx l=>l
 |_=>[]
def gf:Y AV->Bool
 |[]=>J
 |x::r=>x.isCell&&gf r
def BC.put (c:BC) (off:Nat) (vs:Y AV):M BC:=
 if c.isCells&&dc (off+l! vs) c.len&&gf vs then
  match c,xd vs with
  |.fz l,Z q=>Z (.fz (splice l off q))
  |c,_=>Z (.mx (splice c.toMx off vs))
 else U
def BC.sub? (c:BC) (off sz:Nat):Bool->M AV
 |false=>match sz with|1=>c.get off|_=>U
 |true=>match c with
  |.fz l=>if dc (off+sz) (l! l) then Z (.f (.agg ((l.drop off).take sz))) else U
  |.mx l=>if dc (off+sz) (l! l) then Z (.agg ((l.drop off).take sz)) else U
  |_=>U
def AV.cs:AV->Y AV
 |.agg l=>l
 |.f (.agg l)=>l.map .f
 |x=>[x]
def tH (h:gy) (sz:Nat) (q:Bool):AV->M yf
 |.H id off=>match h.get id with
  |some b=>(match b.c.sub? off sz q with|some v=>Z ⟨v,[id],[],[],[]⟩|none=>U)
  |none=>U
 |.f (.H cells off)=>(match (BC.fz cells).sub? off sz q with|some v=>rv v|none=>U)
 |_=>U
def xZ (h:gy) (sz:Nat) (v:AV):AV->M yf
 |.H id off=>match h.get id with
  |some b=>if (l! v.cs)==sz then (match b.c.put off v.cs with|some c=>Z ⟨raw undef,[id],[id],[(id,⟨b.ty,c⟩)],[]⟩|none=>U) else U
  |none=>U
 |_=>U
abbrev l?:=Nat×Nat×Operand
def Aj (cells:Y AV) (e:ve):Y l?->M (Y AV)
 |[]=>Z cells
 |(off,sz,x)::r=>match kc e x with
  |some v=>if (l! v.cs)==sz&&dc (off+sz) (l! cells)&&gf v.cs then Aj (splice cells off v.cs) e r else U
  |none=>U
def cZ (a b:Int):Bool:=decide (a<=b)
def fV (a b:Int):Bool:=decide (a<b)
def Rp (k:IntKind) (n:Int):Int:=
 match k with
 |.i64=>if cZ (-9223372036854775808) n&&cZ n 9223372036854775807 then n else kW .i64 n
 |.u8=>if cZ 0 n&&cZ n 255 then n else kW .u8 n
 |k=>kW k n
def nok:Int->Bool
 |.ofNat k|.negSucc k=>ay k k
def aqf (n:Int):nok n=J:=by cases n<;>exact AT _
def aZ (k:IntKind) (n:Int):Int:=bif nok n then Rp k n else 0
def IA (k:IntKind) (n:Int):aZ k n=Rp k n:=by unfold aZ;rw[aqf];rfl
def sg (a b:ByteArray):Bool:=a.data.toList==b.data.toList
def aic (k:IntKind) (a b:Int):Int:=aZ k ((BitVec.ofInt k.bits a&&&BitVec.ofInt k.bits b).toNat)
def vn (op:BinOp):Value->Value->M Value
 |.int k a,.int c b=>if k==c then
   match op with
   |.add=>Z (.int k (aZ k (a+b)))
   |.sub=>Z (.int k (aZ k (a-b)))
   |.mul=>Z (.int k (aZ k (a*b)))
   |.rem=>if b==0 then U else Z (.int k (a.tmod b))
   |.quo=>if b==0 then U else Z (.int k (aZ k (a.tdiv b)))
   |.eql=>Z (.bool (a==b))
   |.neq=>Z (.bool (a !=b))
   |.lss=>Z (.bool (fV a b))
   |.leq=>Z (.bool (cZ a b))
   |.gtr=>Z (.bool (fV b a))
   |.geq=>Z (.bool (cZ b a))
   |.and=>Z (.int k (aic k a b))
   |.shl=>if cZ 0 b then Z (.int k (aZ k (a*2^(min b.toNat k.bits)))) else U
   |_=>U
  else U
 |.string a,.string b=>match op with
   |.eql=>Z (.bool (sg a b))
   |.neq=>Z (.bool !(sg a b))
   |_=>U
 |_,_=>U
def uS:TypeDesc->FV->FV->M Bool
 |.int _,.raw (.int k a),.raw (.int c b)=>if k==c then Z (a==b) else U
 |.bool,.raw (.bool a),.raw (.bool b)=>Z (a==b)
 |.string,.raw (.string a),.raw (.string b)=>Z (sg a b)
 |_,_,_=>U
def iP:Y TypeDesc->Y FV->Y FV->M Bool
 |[],[],[]=>Z J
 |d::ds,x::xs,y::c=>match uS d x y with
  |some J=>iP ds xs c
  |some aa=>Z aa
  |none=>U
 |_,_,_=>U
def AV.row? (h:gy) (sz:Nat):AV->M (Y AV×Nat×ι)
 |.f (.sl cells n)=>if dc (n*sz) (l! cells) then Z ((cells.take (n*sz)).map .f,n,[]) else U
 |.f (.raw (.slice U 0 0))|.emp=>Z ([],0,[])
 |.G id sz' n=>if sz'==sz then (match h.get id with|some b=>if b.c.isCells&&dc (n*sz) b.c.len then Z (b.c.toMx.take (n*sz),n,[id]) else U|none=>U) else U
 |.sl id off n=>match h.get id with|some b=>if b.c.isCells&&dc (off+n*sz) b.c.len then Z ((b.c.toMx.drop off).take (n*sz),n,[id]) else U|none=>U
 |_=>U
def afj (e:ve) (d:Nat):M Operand->M Nat
 |none=>Z d
 |some x=>match kc e x with
  |some (.f (.raw (.int _ j)))=>if cZ 0 j then Z j.toNat else U
  |_=>U
def CY:Y AV->M ζ
 |[]=>Z []
 |.f (.raw (.int .u8 n))::r=>(match CY r with|some l=>Z (O2 n.toNat::l)|none=>U)
 |_=>U
def AV.slen:AV->M Nat
 |.f (.sl _ n)|.f (.raw (.slice _ n _))=>Z n
 |.emp=>Z 0
 |.G _ _ n|.sl _ _ n=>Z n
 |_=>U
def bl (n bytes:Nat):Bool:=dc n 1099511627776&&dc (n*bytes) 1099511627776
def repl (z:ξ):Nat->Y FV
 |0=>[]
 |n+1=>z.map .raw++repl z n
def Bg:Value->Bool
 |.slice U 0 0=>J
 |_=>aa
def CK:AV->Bool
 |.emp=>J
 |.f (.raw v)=>Bg v
 |_=>aa
def rY (k:Value):Y k?->M (M AV)
 |[]=>Z U
 |(c,v)::r=>match vn .eql k c with
  |some (.bool J)=>Z (Z v)
  |some (.bool aa)=>rY k r
  |_=>U
def xD (k:Value) (v:AV):Y k?->M (Y k?)
 |[]=>Z [(k,v)]
 |(c,q)::r=>match vn .eql k c with
  |some (.bool J)=>Z ((k,v)::r)
  |some (.bool aa)=>(match xD k v r with|some z=>Z ((c,q)::z)|none=>U)
  |_=>U
def Gj:Y FV->M ξ
 |[]=>Z []
 |.raw v::r=>match Gj r with|some l=>Z (v::l)|none=>U
 |_::_=>U
def ZO:AV->M ξ
 |.f (.agg l)=>Gj l
 |.agg l=>match xd l with|some c=>Gj c|none=>U
 |_=>U
def ZN (ds:Y TypeDesc) (y:AV):M ξ:=match ZO y with
 |some l=>if (l! l)==l! ds then Z l else U
 |none=>U
def BI (ds:Y TypeDesc) (k:ξ):Value->M Bool
 |.agg c=>iP ds (k.map .raw) (c.toList.map .raw)
 |_=>U
def Gh (ds:Y TypeDesc) (k:ξ):Y k?->M (M AV)
 |[]=>Z U
 |(c,v)::r=>match BI ds k c with
  |some J=>Z (Z v)
  |some aa=>Gh ds k r
  |none=>U
def VW (ds:Y TypeDesc) (k:ξ) (v:AV):Y k?->M (Y k?)
 |[]=>Z [(.agg k.toArray,v)]
 |(c,q)::r=>match BI ds k c with
  |some J=>Z ((.agg k.toArray,v)::r)
  |some aa=>(match VW ds k v r with|some z=>Z ((c,q)::z)|none=>U)
  |none=>U
def VX (ds:Y TypeDesc) (k:ξ):Y k?->M (Y k?)
 |[]=>Z []
 |(c,q)::r=>match BI ds k c with
  |some J=>Z r
  |some aa=>(match VX ds k r with|some z=>Z ((c,q)::z)|none=>U)
  |none=>U
def wN:Bool->Value->Bool
 |false,.int _ _=>J
 |true,.string _=>J
 |_,_=>aa
def rnA (b:UInt8) (s:ByteArray) (p:Nat):Int:=bif db b.toNat 128 then b.toNat else (Utf8.decode s p).1
def wdA (b:UInt8) (s:ByteArray) (p:Nat):Nat:=bif db b.toNat 128 then 1 else (Utf8.decode s p).2
def dk (s:Np) (e:ve) (h:gy) (nx:Nat):M yf:=
 match s with
 |.mv x=>match kc e x with|some v=>rv v|none=>U
 |.pick c a b=>match kc e c with
  |some (.f (.raw (.bool t)))=>(match kc e (if t then a else b) with|some v=>rv v|none=>U)
  |_=>U
 |.alloc ty z=>Z ⟨.H nx 0,[],[nx],[(nx,⟨ty,.fz (z.map .raw)⟩)],[nx]⟩
 |.box ty x=>match kc e x with
  |some v=>if gf v.cs then Z ⟨.H nx 0,[],[nx],[(nx,⟨ty,mN v.cs⟩)],[nx]⟩ else U
  |none=>U
 |.build z parts=>match Aj (z.map raw) e parts with|some cs=>rv (N0 cs)|none=>U
 |.xz ty sz len z parts=>match Aj ((repl z len).map .f) e parts with
  |some cs=>Z ⟨if len=0 then .emp else .G nx sz len,[],[nx],[(nx,⟨ty,mN cs⟩)],[nx]⟩
  |none=>U
 |.load sz q x=>match kc e x with|some p=>tH h sz q p|none=>U
 |.store sz x v=>match kc e x,kc e v with|some p,Z y=>xZ h sz y p|_,_=>U
 |.zr x=>match kc e x with
  |some (.H id off)=>rv (.H id off)
  |some (.f (.H cells off))=>rv (.f (.H cells off))
  |some (.qy g cap)=>rv (.qy g cap)
  |_=>U
 |.bin op x y=>match kc e x,kc e y with
  |some (.f (.raw u)),Z (.f (.raw v))=>(match vn op u v with|some r=>rv (raw r)|none=>U)
  |_,_=>U
 |.jt neg ds x y=>match kc e x,kc e y with
  |some (.f (.agg a)),Z (.f (.agg b))=>(match iP ds a b with|some r=>rv (raw (.bool (r !=neg)))|none=>U)
  |_,_=>U
 |.xq neg x y=>match kc e x,kc e y with
  |some (.f (.raw (.bool a))),Z (.f (.raw (.bool b)))=>rv (raw (.bool ((a==b) !=neg)))
  |_,_=>U
 |.zm neg x=>match kc e x with
  |some (.G _ _ _)|some (.sl _ _ _)|some (.f (.sl _ (_+1)))=>rv (raw (.bool neg))
  |some (.f (.sl _ 0))|some .emp=>rv .qv
  |some (.f (.raw v))=>if Bg v then rv (raw (.bool !neg)) else U
  |_=>U
 |.not x=>match kc e x with|some (.f (.raw (.bool b)))=>rv (raw (.bool !b))|_=>U
 |.conv k x=>match kc e x with|some (.f (.raw (.int _ n)))=>rv (raw (.int k (aZ k n)))|_=>U
 |.zf ty sz bytes z l c=>match kc e l,kc e c with
  |some (.f (.raw (.int _ a))),Z (.f (.raw (.int _ b)))=>
   if cZ 0 a&&cZ a b&&bl b.toNat bytes then Z ⟨.G nx sz a.toNat,[],[nx],[(nx,⟨ty,.fz (repl z a.toNat)⟩)],[nx]⟩ else U
  |_,_=>U
 |.slc sz x A hi mx=>match kc e x with
  |some v=>match A,hi,mx with
   |none,Z (.const (.int _ 0)),Z (.const (.int _ 0))=>if v.slen.isSome then rv .emp else U
   |none,Z b,U=>match v,kc e b with
    |.G id sz' n,Z (.f (.raw (.int _ j)))=>if sz'==sz&&cZ 0 j&&cZ j n then (match h.get id with
     |some blk=>if blk.c.isCells&&dc (n*sz) blk.c.len then Z ⟨.G nx sz j.toNat,[id],[nx,id],[(nx,⟨blk.ty,mN (blk.c.toMx.take (j.toNat*sz))⟩)],[nx]⟩ else U
     |none=>U) else U
    |.f (.sl cells n),Z (.f (.raw (.int _ j)))=>if cZ 0 j&&cZ j n&&dc (n*sz) (l! cells) then rv (.f (.sl (cells.take (j.toNat*sz)) j.toNat)) else U
    |_,_=>U
   |some b,U,U=>match v,kc e b with
    |.G id sz' n,Z (.f (.raw (.int _ j)))=>if sz'==sz&&cZ 0 j&&fV j n then rv (.sl id (j.toNat*sz) (n-j.toNat)) else U
    |.f (.sl cells n),Z (.f (.raw (.int _ j)))=>if cZ 0 j&&cZ j n&&dc (n*sz) (l! cells) then rv (.f (.sl ((cells.drop (j.toNat*sz)).take ((n-j.toNat)*sz)) (n-j.toNat))) else U
    |_,_=>U
   |none,Z b,Z b'=>match v,kc e b,kc e b' with
    |.f (.sl cells n),Z (.f (.raw (.int _ j))),Z (.f (.raw (.int _ D)))=>if decide (j=D)&&cZ 0 j&&cZ j n&&dc (n*sz) (l! cells) then rv (.qh (cells.take (j.toNat*sz)) j.toNat) else U
    |_,_,_=>U
   |some b,Z b',U=>match v,kc e b,kc e b' with
    |.f (.sl cells n),Z (.f (.raw (.int _ j))),Z (.f (.raw (.int _ k)))=>if cZ 0 j&&cZ j k&&cZ k n&&dc (n*sz) (l! cells) then rv (.f (.sl ((cells.drop (j.toNat*sz)).take ((k.toNat-j.toNat)*sz)) (k.toNat-j.toNat))) else U
    |_,_,_=>U
   |_,_,_=>U
  |none=>U
 |.jm off x=>match kc e x with
  |some (.H id o)=>rv (.H id (o+off))
  |some (.f (.H cells o))=>rv (.f (.H cells (o+off)))
  |_=>U
 |.fld off sz q x=>match kc e x with
  |some (.agg l)=>(match (BC.mx l).sub? off sz q with|some v=>rv v|none=>U)
  |some (.f (.agg l))=>(match (BC.fz l).sub? off sz q with|some v=>rv v|none=>U)
  |_=>U
 |.jp sz x i=>match kc e x,kc e i with
  |some v,Z (.f (.raw (.int _ j)))=>match v with
   |.G id sz' n=>if sz'==sz&&cZ 0 j&&fV j n then rv (.H id (j.toNat*sz)) else U
   |.sl id off n=>if cZ 0 j&&fV j n then rv (.H id (off+j.toNat*sz)) else U
   |.f (.sl cells n)=>if cZ 0 j&&fV j n then rv (.f (.H cells (j.toNat*sz))) else U
   |_=>U
  |_,_=>U
 |.jv n sz x i=>match kc e x,kc e i with
  |some v,Z (.f (.raw (.int _ j)))=>if cZ 0 j&&fV j n then (match v with
   |.H id off=>rv (.H id (off+j.toNat*sz))
   |.f (.H cells off)=>rv (.f (.H cells (off+j.toNat*sz)))
   |_=>U) else U
  |_,_=>U
 |.idx n sz q x i=>match kc e x,kc e i with
  |some v,Z (.f (.raw (.int _ j)))=>if cZ 0 j&&fV j n then (match v with
   |.agg l=>(match (BC.mx l).sub? (j.toNat*sz) sz q with|some v=>rv v|none=>U)
   |.f (.agg l)=>(match (BC.fz l).sub? (j.toNat*sz) sz q with|some v=>rv v|none=>U)
   |_=>U) else U
  |_,_=>U
 |.ext x i=>match kc e x with|some (.qb l)=>(match l[i]? with|some v=>rv v|none=>U)|_=>U
 |.len x=>match kc e x with
  |some v=>(match v.slen with|some n=>rv (raw (.int .i64 n))|none=>U)
  |none=>U
 |.lens x=>match kc e x with
  |some (.f (.raw (.string s)))=>rv (raw (.int .i64 (l! s.data.toList)))
  |_=>U
 |.jk x=>match kc e x with
  |some (.mp id)=>(match h.get id with|some ⟨0,.mp es⟩=>Z ⟨raw (.int .i64 (l! es)),[id],[],[],[]⟩|_=>U)
  |_=>U
 |.max x y=>match kc e x,kc e y with
  |some (.f (.raw (.int k a))),Z (.f (.raw (.int _ b)))=>rv (raw (.int k (if fV a b then b else a)))
  |_,_=>U
 |.min x y=>match kc e x,kc e y with
  |some (.f (.raw (.int k a))),Z (.f (.raw (.int _ b)))=>rv (raw (.int k (if fV b a then b else a)))
  |_,_=>U
 |.jx x i=>match kc e x,kc e i with
  |some (.f (.raw (.string s))),Z (.f (.raw (.int _ j)))=>if cZ 0 j then (match s.data.toList[j.toNat]? with|some b=>rv (raw (.int .u8 b.toNat))|none=>U) else U
  |_,_=>U
 |.tos x=>match kc e x with
  |some y=>(match y.row? h 1 with
   |some (src,_,rd)=>(match CY src with|some l=>Z ⟨raw (.string ⟨l.toArray⟩),rd,[],[],[]⟩|none=>U)
   |none=>U)
  |none=>U
 |.sls x A hi=>match kc e x with
  |some (.f (.raw (.string s)))=>(match afj e 0 A,afj e s.data.size hi with
   |some l,Z m=>if dc l m&&dc m s.data.size then rv (raw (.string ⟨((s.data.toList.drop l).take (m-l)).toArray⟩)) else U
   |_,_=>U)
  |_=>U
 |.byt x=>match kc e x with
  |some (.f (.raw (.string s)))=>if dc s.data.size 65536 then rv (.f (.sl (s.data.toList.map λb=>.raw (.int .u8 b.toNat)) s.data.size)) else U
  |_=>U
 |.jh neg x=>match kc e x with
  |some (.f (.raw .nilIface))=>rv (raw (.bool (!neg)))
  |_=>U
 |.sla n sz x A=>match kc e x,kc e A with
  |some (.H id off),Z (.f (.raw (.int _ j)))=>if cZ 0 j&&fV j n then rv (.sl id (off+j.toNat*sz) (n-j.toNat)) else U
  |_,_=>U
 |.app ty sz bytes s x=>match kc e s,kc e x with
  |some b,Z y=>match y.row? h sz with
   |some (src,m,rd)=>match b with
    |.G id sz' n=>match h.get id with
     |some blk=>if sz'==sz&& !(mem id rd)&&blk.c.isCells&&dc (n*sz) blk.c.len&&blk.ty==ty&&bl (n+m) bytes then
       Z ⟨.G nx sz (n+m),id::rd,[nx,id],[(nx,⟨ty,mN (blk.c.toMx.take (n*sz)++src)⟩)],[nx]⟩ else U
     |none=>U
    |.qh cells n=>if dc (n*sz) (l! cells)&&bl (n+m) bytes then
      (if m==0 then Z ⟨.f (.sl cells n),rd,[],[],[]⟩ else Z ⟨.G nx sz (n+m),rd,[nx],[(nx,⟨ty,mN ((cells.take (n*sz)).map .f++src)⟩)],[nx]⟩) else U
    |b=>if CK b&&bl m bytes then
      (if m==0 then Z ⟨b,rd,[],[],[]⟩ else Z ⟨.G nx sz m,rd,[nx],[(nx,⟨ty,mN src⟩)],[nx]⟩) else U
   |none=>U
  |_,_=>U
 |.copy sz d x=>match kc e d,kc e x with
  |some (.G id sz' n),Z y=>(match h.get id,y.row? h sz with
   |some blk,Z (src,m,rd)=>if sz'==sz&& !(mem id rd)&&dc (n*sz) blk.c.len then
     (match blk.c.put 0 (src.take (kU m n*sz)) with
     |some c=>Z ⟨raw (.int .i64 (kU m n)),id::rd,[id],[(id,⟨blk.ty,c⟩)],[]⟩
     |none=>U) else U
   |_,_=>U)
  |_,_=>U
 |.clr _ z x=>match kc e x with
  |some (.sl id off n)=>(match h.get id with
   |some blk=>if db 0 n then (match blk.c.put off ((repl z n).map .f) with
    |some c=>Z ⟨.qb [],[id],[id],[(id,⟨blk.ty,c⟩)],[]⟩
    |none=>U) else U
   |none=>U)
  |_=>U
 |.mkf f caps=>match YT e caps with|some l=>rv (.qy f l)|none=>U
 |.mkm=>Z ⟨.mp nx,[],[nx],[(nx,⟨0,.mp []⟩)],[nx]⟩
 |.jb str ok z x k=>match kc e x,kc e k with
  |some (.mp id),Z (.f (.raw key))=>(match h.get id with
   |some ⟨0,.mp es⟩=>if wN str key then (match rY key es with|some (Z v)=>Z ⟨pkV ok v J,[id],[],[],[]⟩|some U=>Z ⟨pkV ok (raw z) aa,[id],[],[],[]⟩|none=>U) else U
   |_=>U)
  |_,_=>U
 |.jf str x k v=>match kc e x,kc e k,kc e v with
  |some (.mp id),Z (.f (.raw key)),Z y=>(match h.get id with
   |some ⟨0,.mp es⟩=>if wN str key then (match xD key y es with|some es'=>Z ⟨raw undef,[id],[id],[(id,⟨0,.mp es'⟩)],[]⟩|none=>U) else U
   |_=>U)
  |_,_,_=>U
 |.rng x=>match kc e x with
  |some (.f (.raw (.string s)))=>Z ⟨.H nx 0,[],[nx],[(nx,⟨0,.it s 0⟩)],[nx]⟩
  |_=>U
 |.nxt x=>match kc e x with
  |some (.H id 0)=>(match h.get id with
   |some ⟨ty,.it s p⟩=>(match s.data.toList[p]? with
    |some b=>Z ⟨.qb [raw (.bool J),raw (.int .i64 p),raw (.int .i32 (rnA b s p))],[id],[id],[(id,⟨ty,.it s (p+wdA b s p)⟩)],[]⟩
    |none=>Z ⟨.qb [raw (.bool aa)],[id],[id],[(id,⟨ty,.it s p⟩)],[]⟩)
   |_=>U)
  |_=>U
 |.jq neg x=>match kc e x with
  |some (.H _ _)|some (.f (.H _ _))=>rv (raw (.bool neg))
  |some (.f (.raw (.pointer U)))=>rv (raw (.bool !neg))
  |_=>U
 |.lkq ds z x k=>match kc e x,(kc e k).bind (ZN ds) with
  |some (.mp id),Z key=>(match h.get id with
   |some ⟨0,.mp es⟩=>(match Gh ds key es with
    |some (Z v)=>Z ⟨v,[id],[],[],[]⟩
    |some U=>Z ⟨raw z,[id],[],[],[]⟩
    |none=>U)
   |_=>U)
  |_,_=>U
 |.mpq ds x k v=>match kc e x,(kc e k).bind (ZN ds),kc e v with
  |some (.mp id),Z key,Z y=>(match h.get id with
   |some ⟨0,.mp es⟩=>(match VW ds key y es with|some es'=>Z ⟨raw undef,[id],[id],[(id,⟨0,.mp es'⟩)],[]⟩|none=>U)
   |_=>U)
  |_,_,_=>U
 |.dlq ds x k=>match kc e x,(kc e k).bind (ZN ds) with
  |some (.mp id),Z key=>(match h.get id with
   |some ⟨0,.mp es⟩=>(match VX ds key es with|some es'=>Z ⟨.qb [],[id],[id],[(id,⟨0,.mp es'⟩)],[]⟩|none=>U)
   |_=>U)
  |_,_=>U
 |.zh=>U
structure o9 where
 dst:Option Nat
 op:SI
 guard:Option (Nat×Bool)
inductive SC where
 |skip
 |jw (ops:List o9) (prs:List (Nat×Nat))
 |seq (a b:SC)
 |cond (c:Nat) (a b:SC)
 |block (id:Nat) (b:SC)
 |loop (b:SC)
 |exit (id:Nat)
 |ret
 |defer (f:FuncId) (caps:List Operand) (t:Nat)
 |zh
structure OY where
 val:AV
 h:gy
 nx:Nat
 wr:Nat
abbrev uY:=FuncId->Y AV->gy->Nat->M OY
mutual
def AV.ids:AV->Nat->Nat
 |.H id _,acc|.sl id _ _,acc|.G id _ _,acc|.mp id,acc=>acc|||(1<<<id)
 |.agg l,acc|.qb l,acc|.qy _ l,acc=>AV.idsL l acc
 |.f _,acc|.emp,acc|.qv,acc|.qh _ _,acc=>acc
def AV.idsL:Y AV->Nat->Nat
 |[],acc=>acc
 |x::r,acc=>AV.idsL r (AV.ids x acc)
end
mutual
def AV.all (p:Nat->Bool):AV->Bool
 |.H id _|.sl id _ _|.G id _ _|.mp id=>p id
 |.agg l|.qb l|.qy _ l=>AV.allL p l
 |.f _=>J
 |.emp=>J
 |.qv=>J
 |.qh _ _=>J
def AV.allL (p:Nat->Bool):Y AV->Bool
 |[]=>J
 |x::r=>AV.all p x&&AV.allL p r
end
def BC.ids:BC->Nat->Nat
 |.mx l,acc=>AV.idsL l acc
 |.mp es,acc=>AV.idsL (es.map (·.2)) acc
 |_,acc=>acc
def BC.all (p:Nat->Bool):BC->Bool
 |.mx l=>AV.allL p l
 |.mp es=>AV.allL p (es.map (·.2))
 |_=>J
def gy.all (p:Nat->Bool) (h:gy):Bool:=PT.all (λi b=>p i&&b.c.all p) 1 0 h
def NQ:Nat->gy->Nat->Nat->Nat
 |0,_,_,Ms=>Ms
 |n+1,h,todo,Ms=>
  if ay todo 0 then Ms else
  match Nat.log2 todo with
  |id=>if aC Ms id then NQ n h (todo ^^^ (1<<<id)) Ms else
   match h.get id with
   |some b=>NQ n h (b.c.ids (todo ^^^ (1<<<id))) (Ms|||(1<<<id))
   |none=>NQ n h (todo ^^^ (1<<<id)) Ms
section force
variable {α:Type}
def rx (n:Nat) (k:Nat->α):α:=match n with|0=>k 0|m+1=>k (m+1)
def an4 (n:Int) (k:Int->α):α:=match n with|.ofNat m=>rx m λm=>k (.ofNat m)|.negSucc m=>rx m λm=>k (.negSucc m)
def aqv (b:Bool) (k:Bool->α):α:=match b with|true=>k J|false=>k aa
def an3 (v:Value) (k:Value->α):α:=match v with
 |.int kd n=>an4 n λn=>k (.int kd n)
 |.bool b=>aqv b λb=>k (.bool b)
 |v=>k v
def air (x:FV) (k:FV->α):α:=match x with
 |.raw v=>an3 v λv=>k (.raw v)
 |.H cells off=>rx off λoff=>k (.H cells off)
 |.sl cells n=>rx n λn=>k (.sl cells n)
 |.agg l=>k (.agg l)
def Tc:Y FV->(Y FV->α)->α
 |[],k=>k []
 |x::r,k=>air x λx=>Tc r λr=>k (x::r)
def ael (x:FV) (k:FV->α):α:=match x with
 |.agg l=>Tc l λl=>k (.agg l)
 |x=>air x k
def YL (x:AV) (k:AV->α):α:=match x with
 |.f x=>ael x λx=>k (.f x)
 |.H id off=>rx id λid=>rx off λoff=>k (.H id off)
 |.sl id off n=>rx id λid=>rx off λoff=>rx n λn=>k (.sl id off n)
 |.G id sz n=>rx id λid=>rx sz λsz=>rx n λn=>k (.G id sz n)
 |.mp id=>rx id λid=>k (.mp id)
 |x=>k x
def Kt:Y AV->(Y AV->α)->α
 |[],k=>k []
 |x::r,k=>YL x λx=>Kt r λr=>k (x::r)
def aem (x:AV) (k:AV->α):α:=match x with
 |.agg l=>Kt l λl=>k (.agg l)
 |.qb l=>Kt l λl=>k (.qb l)
 |.qy f l=>Kt l λl=>k (.qy f l)
 |x=>YL x k
def an5 (c:BC) (k:BC->α):α:=match c with
 |.fz l=>Tc l λl=>k (.fz l)
 |.mx l=>Kt l λl=>k (.mx l)
 |.it s p=>rx p λp=>k (.it s p)
 |.mp es=>k (.mp es)
def MX :PT R->(PT R->α)->α
 |.leaf,k=>k .leaf
 |.node v l r,k=>(match v with
  |none=>λ(k:M R->α)=>k U
  |some x=>λk=>k (Z x)) λv=>MX l λl=>MX r λr=>k (.node v l r)
def Pj :Nat->PT R->Nat->M R->(PT R->α)->α
 |0,t,_,_,k=>k t
 |f+1,t,n,x,k=>match t with
  |.leaf=>(match n with
   |0=>k (.node x .leaf .leaf)
   |m+1=>if ay (m%2) 0 then rx (m/2) λq=>Pj f .leaf q x λu=>k (.node U u .leaf) else rx (m/2) λq=>Pj f .leaf q x λu=>k (.node U .leaf u))
  |.node v l r=>(match n with
   |0=>k (.node x l r)
   |m+1=>if ay (m%2) 0 then rx (m/2) λq=>Pj f l q x λu=>k (.node v u r) else rx (m/2) λq=>Pj f r q x λu=>k (.node v l u))
def r_ (n:Nat) (k:Nat->α):rx n k=k n:=by cases n<;>rfl
def aiq (n:Int) (k:Int->α):an4 n k=k n:=by cases n<;>simp only[an4,r_]
def ait (n:Bool) (k:Bool->α):aqv n k=k n:=by cases n<;>rfl
def aip (n:Value) (k:Value->α):an3 n k=k n:=by cases n<;>simp only[an3,aiq,ait]
def YK (x:FV) (k:FV->α):air x k=k x:=by cases x<;>simp only[air,aip,r_]
def Kr:∀(x:Y FV) (k:Y FV->α),Tc x k=k x
 |[],_=>rfl
 |x::r,k=>by rw[Tc,YK,Kr r]
def aek (x:FV) (k:FV->α):ael x k=k x:=by cases x<;>simp only[ael,YK,Kr]
def Td (x:AV) (k:AV->α):YL x k=k x:=by cases x<;>simp only[YL,r_,aek]
def Ks:∀(x:Y AV) (k:Y AV->α),Kt x k=k x
 |[],_=>rfl
 |x::r,k=>by rw[Kt,Td,Ks r]
def Ql (x:AV) (k:AV->α):aem x k=k x:=by cases x<;>simp only[aem,Td,Ks]
def ais (x:BC) (k:BC->α):an5 x k=k x:=by cases x<;>simp only[an5,Kr,Ks,r_]
def vM :∀(x:PT R) (k:PT R->α),MX x k=k x
 |.leaf,_=>rfl
 |.node v l r,k=>by cases v<;>simp[MX,vM l,vM r]
def ID :∀(f:Nat) (t:PT R) (n:Nat) (x:M R) (k:PT R->α),Pj f t n x k=k (PT.setF f t n x)
 |0,_,_,_,_=>rfl
 |f+1,t,n,x,k=>by
  cases t<;>cases n<;>simp[Pj,PT.setF,r_]<;>split<;>rw[ID f]
end force
structure IS where
 e:ve
 h:gy
 nx:Nat
 wr:Nat
structure U7 where
 val:AV
 rd:Nat
 wr:Nat
 h:gy
 nx:Nat
def bits:ι->Nat->Nat
 |[],acc=>acc
 |x::r,acc=>bits r (acc|||(1<<<x))
def acb (h:gy) (q:NW):ι->(gy->R)->R
 |[],k=>k h
 |i::r,k=>match iy q i with
  |none=>Pj (i+1) h i U λh=>acb h q r k
  |some ⟨ty,c⟩=>an5 c λc=>Pj (i+1) h i (Z ⟨ty,c⟩) λh=>acb h q r k
def O7 (q:NW):∀(z:ι) (h:gy) (k:gy->R),acb h q z k=k (h.upd z q)
 |[],_,_=>rfl
 |i::r,h,k=>by
  unfold acb gy.upd PT.set;cases A:iy q i with
  |none=>simp[ID,O7 q r]
  |some b=>let⟨ty,c⟩:=b;simp[ais,ID,O7 q r]
def Za (call:uY) (f:FuncId) (args:Y AV) (h:gy) (nx:Nat):M U7:=
 rx (NQ 1000000 h (AV.idsL args 0) 0) λids=>MX (PT.only ids 1 0 h) λq=>
 if AV.allL (db · nx) args&&gy.all (db · nx) q then
  match call f args q nx with
  |some ⟨val,h',nx',c⟩=>aem val λval=>rx nx' λnx'=>rx c λc=>MX (PT.merge c 1 0 h h') λhm=>Z ⟨val,ids,c,hm,nx'⟩
  |none=>U
 else U
def opA (call:uY) (o:SI) (e:ve) (h:gy) (nx:Nat):M U7:=
 match o with
 |.call f args=>match YT e args with|some l=>Za call f l h nx|none=>U
 |.jr x args=>match kc e x,YT e args with|some (.qy f cap),Z l=>Za call f (l++cap) h nx|_,_=>U
 |.op o=>match dk o e h nx with
  |some ⟨val,rd,c,z,N⟩=>aem val λval=>rx (bits rd 0) λrd=>rx (bits c 0) λq=>rx (nx+l! N) λnx'=>acb h z c λh=>Z ⟨val,rd,q,h,nx'⟩
  |none=>U
def X4 (e:ve):M (Nat×Bool)->M Bool
 |none=>Z J
 |some (t,want)=>match e.get t with
  |some (.f (.raw (.bool b)))=>Z (b==want)
  |some (.f (.raw (.tuple _)))=>Z aa
  |_=>U
def ahi (e:ve) (dst:M Nat) (v:AV) (k:ve->R):R:=match dst with
 |none=>k e
 |some d=>Pj (d+1) e d (Z v) k
def II (e:ve) (dst:M Nat) (v:AV) (k:ve->R):ahi e dst v k=k (e.put dst v):=by
 cases dst with
 |none=>rfl
 |some d=>exact ID _ _ _ _ _
structure Vi where
 rd:Nat
 wr:Nat
def zJ (call:uY):Y o9->IS->M (IS×Y Vi)
 |[],s=>Z (s,[])
 |o::r,⟨e,h,nx,z⟩=>
  match X4 e o.guard with
  |some J=>(match opA call o.op e h nx with
   |some ⟨val,rd,w,h',nx'⟩=>ahi e o.dst val λq=>rx (z|||w) λwr'=>(match zJ call r ⟨q,h',nx',wr'⟩ with
    |some (s',c)=>Z (s',⟨rd,w⟩::c)
    |none=>U)
   |none=>U)
  |some aa=>ahi e o.dst (raw undef) λq=>(match zJ call r ⟨q,h,nx,z⟩ with
   |some (s',c)=>Z (s',⟨0,0⟩::c)
   |none=>U)
  |none=>U
def Z9:Y Vi->Nat->M Vi
 |[],_=>U
 |f::_,0=>Z f
 |_::r,n+1=>Z9 r n
def Ax (a b:Nat):Bool:=ay (a&&&b) 0
abbrev n!:=Nat×Nat
def zL (c:Y Vi):Y n!->Bool
 |[]=>J
 |(i,j)::r=>(match Z9 c i,Z9 c j with
  |some a,Z b=>Ax a.wr b.rd&&Ax a.wr b.wr&&Ax b.wr a.rd
  |_,_=>aa)&&zL c r
inductive Ex where
 |normal
 |exit (id:Nat)
 |ret
def Gr (body:IS->M (Ex×IS)) (e0:ve):Nat->IS->M (Ex×IS)
 |0,_=>U
 |n+1,s=>match body s with
  |some (.normal,⟨e,h,nx,c⟩)=>MX (PT.mask e e0) λe=>Gr body e0 n ⟨e,h,nx,c⟩
  |r=>r
def run (call:uY) (inert:FuncId->Bool) (fI:Nat):SC->IS->M (Ex×IS)
 |.skip,s=>Z (.normal,s)
 |.jw ops prs,s=>match zJ call ops s with
  |some (s',z)=>if zL z prs then Z (.normal,s') else U
  |none=>U
 |.seq a b,s=>match run call inert fI a s with
  |some (.normal,s')=>run call inert fI b s'
  |r=>r
 |.cond c a b,s=>match s.e.get c with
  |some (.f (.raw (.bool J)))=>run call inert fI a s
  |some (.f (.raw (.bool aa)))=>run call inert fI b s
  |_=>U
 |.block id b,s=>match run call inert fI b s with
  |some (.exit i,s')=>if ay i id then Z (.normal,s') else Z (.exit i,s')
  |r=>r
 |.loop b,s=>Gr (run call inert fI b) s.e fI s
 |.exit id,s=>Z (.exit id,s)
 |.ret,s=>Z (.ret,s)
 |.defer f caps t,⟨e,h,nx,q⟩=>match YT e caps with
  |some l=>if inert f then ahi e (Z t) (.qy f l) λA=>Z (.normal,⟨A,h,nx,q⟩) else U
  |none=>U
 |.zh,_=>U
inductive RV where
 |tmp (t:Nat)
 |cell (a:Nat) (sz:Nat) (ag:Bool)
structure SF where
 code:SC
 res:List RV
 nt:Nat
def V0 (e:ve) (h:gy):Y RV->M (Y AV)
 |[]=>Z []
 |.tmp t::r=>match e.get t,V0 e h r with|some v,Z l=>Z (v::l)|_,_=>U
 |.cell a sz c::r=>match e.get a with
  |some p=>(match tH h sz c p,V0 e h r with|some v,Z l=>Z (v.val::l)|_,_=>U)
  |none=>U
def yU:Y AV->AV
 |[x]=>x
 |l=>.qb l
def XP:Nat->Y AV->ve
 |_,[]=>PT.leaf
 |k,x::xs=>(XP (k+1) xs).set k (Z x)
def Yr (nx0:Nat) (ids0:Nat) (res:Y RV) (s:IS):M OY:=
 match V0 s.e s.h res with
 |some l=>
  aem (yU l) λv=>rx (NQ 1000000 s.h (AV.ids v ids0) 0|||ids0) λids=>MX (PT.only ids 1 0 s.h) λh'=>
  rx (((PT.dom 1 0 h' 0)>>>nx0)<<<nx0) λex=>
  if ay (ids0>>>nx0) 0&&AV.all (λi=>db i nx0||aC ex i) v&&gy.all (λi=>db i nx0||aC ex i) h' then Z ⟨v,h',(if ay ex 0 then nx0 else Nat.log2 ex+1),s.wr%(1<<<nx0)|||ex⟩ else U
 |none=>U
def acu (tbl:FuncId->M SF) (intr:uY) (inert:FuncId->Bool) (fI:Nat):Nat->uY
 |0,_,_,_,_=>U
 |n+1,f,args,h,nx=>match intr f args h nx with
  |some r=>Z r
  |none=>(match tbl f with
   |some c=>if dc (l! args) c.nt then MX (XP 0 args) λe=>(match run (acu tbl intr inert fI n) inert fI c.code ⟨e,h,nx,0⟩ with
    |some (.ret,s)|some (.normal,s)=>Yr nx (PT.dom 1 0 h 0) c.res s
    |_=>U) else U
   |none=>U)
def anm:Value->Value->Bool
 |.bool a,.bool b=>a==b
 |.int k a,.int z b=>k==z&&a==b
 |.string a,.string b=>sg a b
 |.slice U n c,.slice U q A=>ay n q&&ay c A
 |.pointer U,.pointer U=>J
 |.tuple a,.tuple b=>a.isEmpty&&b.isEmpty
 |_,_=>aa
def fe (P:Program) (t:TypeId):M Nat:=(P.info? t).map (·.size)
def FW (P:Program) (t:TypeId):M Nat:=(P.info? t).map (·.bytes)
def tu (P:Program) (t:TypeId):M ξ:=((P.info? t).bind (·.zero)).map (·.cells.toList)
def EO (P:Program) (t:TypeId):M Bool:=(P.underlying t).map λ|.struct _=>J|.array _ _=>J|_=>aa
def BV (P:Program) (t:TypeId):M TypeId:=match P.underlying t with|some (.slice e)=>Z e|_=>U
def CE (P:Program) (t:TypeId) (i:Nat):M n!:=match P.underlying t with
 |some (.struct q)=>(q[i]?).bind λf=>(fe P f.type).map (f.offset,·)
 |some (.array _ c)|some (.slice c)=>(fe P c).map λs=>(i*s,s)
 |_=>U
abbrev G!:=Nat×Operand
def xv (P:Program) (t:TypeId):Y G!->M (Y l?)
 |[]=>Z []
 |(i,x)::r=>match CE P t i,xv P t r with|some (o,s),Z l=>Z ((o,s,x)::l)|_,_=>U
def mM (z:ξ):Bool:=z.all λv=>v.oneCell'
def CD:TypeDesc->Bool
 |.int _=>J
 |.bool=>J
 |.string=>J
 |_=>aa
def kX (P:Program):Nat→Y Field→M (Y TypeDesc)
 |_,[]=>Z []
 |k,f::r=>match P.underlying f.type,kX P (k+1) r with
  |some d,Z ds=>if f.name != "_" &&f.offset==k&&CD d then Z (d::ds) else U
  |_,_=>U
def CC (P:Program) (t:TypeId):M (Y TypeDesc):=match P.underlying t with
 |some (.struct c)=>if P.stoodInHeld t then U else kX P 0 c.toList
 |_=>U
def UG (P:Program) (c:Call):M Np:=
 match c.callee with
 |.builtin .len=>(match c.args.toList,c.argTypes.toList with
  |[x],[t]=>(match P.underlying t with
   |some (.slice _)=>Z (.len x)
   |some .string=>Z (.lens x)
   |some (.map _ _)=>Z (.jk x)
   |_=>U)
  |_,_=>U)
 |.builtin .max=>(match c.args.toList with
  |[x,y]=>Z (.max x y)
  |_=>U)
 |.builtin .min=>(match c.args.toList with
  |[x,y]=>Z (.min x y)
  |_=>U)
 |.builtin .copy=>(match c.args.toList,c.argTypes.toList with
  |[d,x],[t,u]=>(match BV P t,BV P u with
   |some q,Z _=>(fe P q).bind λsz=>if sz !=0 then Z (.copy sz d x) else U
   |_,_=>U)
  |_,_=>U)
 |.builtin .delete=>(match c.args.toList,c.argTypes.toList with
  |[m,k],[t,_]=>(match P.underlying t with
   |some (.map A _)=>(CC P A).map λds=>.dlq ds m k
   |_=>U)
  |_,_=>U)
 |.builtin .clear=>(match c.args.toList,c.argTypes.toList with
  |[x],[t]=>(BV P t).bind λq=>(tu P q).bind λz=>(fe P q).bind λsz=>if mM z&&l! z==sz&&sz !=0 then Z (.clr sz z x) else U
  |_,_=>U)
 |.builtin .append=>(match c.args.toList,c.argTypes.toList with
  |[s,x],[t,u]=>(match BV P t,BV P u with
   |some q,Z _=>(fe P q).bind λsz=>(FW P q).bind λb=>(tu P q).bind λz=>if sz !=0&&l! z==sz then Z (.app q sz b s x) else U
   |_,_=>U)
  |_,_=>U)
 |_=>U
def cP (P:Program):Op->M Np
 |.move x|.assign x=>Z (.mv x)
 |.pick c a b=>Z (.pick c a b)
 |.alloc t=>(tu P t).bind λz=>if mM z then Z (.alloc t z) else U
 |.box t x=>Z (.box t x)
 |.build t I=>match P.underlying t with
  |some (.struct D)=>(tu P t).bind λz=>if mM z&&(D.toList.all λf=>(fe P f.type).isSome) then (xv P t I.toList).map (.build z) else U
  |some (.array _ q)=>(tu P t).bind λz=>if mM z&&(fe P q).isSome then (xv P t I.toList).map (.build z) else U
  |_=>U
 |.buildSlice t n I=>(BV P t).bind λq=>(tu P q).bind λz=>(fe P q).bind λsz=>if mM z&&l! z==sz&&dc (n*sz) 65536&&sz !=0 then (xv P t I.toList).map (.xz q sz n z) else U
 |.load t x=>(fe P t).bind λsz=>(EO P t).map λF=>.load sz F x
 |.store t x v=>(fe P t).map λsz=>.store sz x v
 |.nilCheck x=>Z (.zr x)
 |.binOp op t x y _=>match P.underlying t with
  |some (.int _)|some .string=>Z (.bin op x y)
  |some .bool=>(match op with|.eql=>Z (.xq aa x y)|.neq=>Z (.xq J x y)|_=>U)
  |some (.slice _)=>(match op,y with
   |.eql,.const (.slice U 0 0)=>Z (.zm aa x)
   |.neq,.const (.slice U 0 0)=>Z (.zm J x)
   |_,_=>U)
  |some (.pointer _)=>(match op,y with
   |.eql,.const (.pointer U)=>Z (.jq aa x)
   |.neq,.const (.pointer U)=>Z (.jq J x)
   |_,_=>U)
  |some (.interface _)=>(match op,y with
   |.eql,.const .nilIface=>Z (.jh aa x)
   |.neq,.const .nilIface=>Z (.jh J x)
   |_,_=>U)
  |some (.struct _)=>(CC P t).bind λds=>(match op with|.eql=>Z (.jt aa ds x y)|.neq=>Z (.jt J ds x y)|_=>U)
  |_=>U
 |.unOp .not _ x=>Z (.not x)
 |.unOp .neg t x=>match P.underlying t with|some (.int k)=>Z (.bin .sub (.const (.int k 0)) x)|_=>U
 |.convert s d x=>match P.underlying s,P.underlying d with
  |some (.int _),Z (.int k)=>Z (.conv k x)
  |some .string,Z (.slice q)=>(match P.underlying q with|some (.int .u8)=>Z (.byt x)|_=>U)
  |some (.slice q),Z .string=>(match P.underlying q with|some (.int .u8)=>Z (.tos x)|_=>U)
  |_,_=>U
 |.makeSlice t l c=>(BV P t).bind λq=>(tu P q).bind λz=>(fe P q).bind λsz=>(FW P q).bind λb=>if mM z&&l! z==sz&&sz !=0 then Z (.zf q sz b z l c) else U
 |.slice t x N hi mx=>match P.underlying t with
  |some (.array n q)=>(match N,hi,mx with
   |some b,U,U=>(fe P q).bind λsz=>if dc n 65536 then Z (.sla n sz x b) else U
   |_,_,_=>U)
  |some .string=>(match mx with|none=>Z (.sls x N hi)|some _=>U)
  |_=>(BV P t).bind λq=>(fe P q).map λsz=>.slc sz x N hi mx
 |.fieldAddr t x k=>match P.underlying t with
  |some (.struct D)=>(D[k]?).bind λf=>(fe P f.type).bind λsz=>if sz !=0 then Z (.jm f.offset x) else U
  |_=>U
 |.field t x k=>match P.underlying t with
  |some (.struct D)=>(D[k]?).bind λf=>(fe P f.type).bind λsz=>(EO P f.type).map λF=>.fld f.offset sz F x
  |_=>U
 |.indexAddr t x i=>match P.underlying t with
  |some (.slice q)=>(fe P q).map λsz=>.jp sz x i
  |some (.array n q)=>(fe P q).map λsz=>.jv n sz x i
  |_=>U
 |.index t x i=>match P.underlying t with
  |some (.array n q)=>(fe P q).bind λsz=>(EO P q).map λF=>.idx n sz F x i
  |some .string=>Z (.jx x i)
  |_=>U
 |.extract x i=>Z (.ext x i)
 |.makeFunc (.func f) first caps=>if first.isEmpty then Z (.mkf f caps.toList) else U
 |.makeMap t U=>match P.underlying t with|some (.map _ _)=>Z .mkm|_=>U
 |.lookup t x k ok=>match P.underlying t with
  |some (.map A q)=>(match P.underlying A,(P.info? q).bind (·.zero) with
   |some (.int _),Z z=>if z.oneCell' then Z (.jb aa ok z x k) else U
   |some .string,Z z=>if z.oneCell' then Z (.jb J ok z x k) else U
   |some (.struct _),Z z=>if z.oneCell'&& !ok then (CC P A).map λds=>.lkq ds z x k else U
   |_,_=>U)
  |_=>U
 |.mapUpdate t m k v=>match P.underlying t with
  |some (.map A _)=>(match P.underlying A with
   |some (.int _)=>Z (.jf aa m k v)
   |some .string=>Z (.jf J m k v)
   |some (.struct _)=>(CC P A).map λds=>.mpq ds m k v
   |_=>U)
  |_=>U
 |.range t x=>match P.underlying t with|some .string=>Z (.rng x)|_=>U
 |.next x J=>Z (.nxt x)
 |.call c=>UG P c
 |_=>U
def AF:Op->M SI
 |.call c=>(match c.callee with
  |.value (.func f)=>Z (.call f c.args.toList)
  |.value (.tmp t)=>Z (.jr (.tmp t) c.args.toList)
  |_=>U)
 |_=>U
def o7 (P:Program) (op:Op):SI:=match AF op with
 |some i=>i
 |none=>(match cP P op with|some s=>.op s|none=>.op .zh)
def Np.still:Np->Bool
 |.mv _|.pick _ _ _|.build _ _|.zr _|.bin _ _ _|.jt _ _ _ _|.zm _ _|.xq _ _ _|.not _|.conv _ _|.jm _ _|.fld _ _ _ _|.jp _ _ _|.jv _ _ _ _|.idx _ _ _ _ _|.ext _ _|.max _ _|.min _ _|.jx _ _|.mkf _ _|.jq _ _|.sla _ _ _ _|.sls _ _ _|.jh _ _|.zh=>J
 |_=>aa
def SI.still:SI->Bool
 |.op s=>s.still
 |_=>aa
def mL (P:Program) (ops:Array Oper):Y Oper->M (Y o9)
 |[]=>Z []
 |o::r=>match mL P ops r with
  |some l=>(match o.guard with
   |none=>Z (⟨o.dst,o7 P o.op,U⟩::l)
   |some (j,want)=>(match (ops[j]?).bind (·.dst) with
    |some t=>Z (⟨o.dst,o7 P o.op,Z (t,want)⟩::l)
    |none=>U))
  |none=>U
def Dq (ops:Array Oper) (l:Y o9):M (Y n!):=
 let B:=CZ ops.toList []
 if (lY ops.size).all λj=>((ops[j]?).all λc=>c.after.toList.all λe=> !AQ .any e||decide (e.on<j))&&
     (lY j).all λi=>aC (B.getD j 0) i||(match ops[i]?,ops[j]? with|some q,Z c=>q.apart ops c|_,_=>aa)
 then Z ((lY ops.size).flatMap λj=>(lY j).filterMap λi=>
  if aC (B.getD j 0) i||(match l[i]?,l[j]? with|some a,Z b=>a.op.still||b.op.still|_,_=>aa) then U else Z (i,j))
 else U
def xW (ops:Array Oper) (A:Bool):M (FuncId×Y Operand×Nat):=match ops.toList,A with
 |[p,q],aa=>(match p.op,p.guard,p.dst,q.op,q.guard,q.dst with
  |.makeFunc (.func f) first caps,U,Z t,.defer c,U,U=>(match c.callee,c.args.toList with
   |.value (.tmp z),[]=>if ay t z&&first.isEmpty then Z (f,caps.toList,t) else U
   |_,_=>U)
  |_,_,_,_,_,_=>U)
 |_,_=>U
def bA (P:Program) (nt:Nat):Code->SC
 |.skip=>.skip
 |.region _ ops q=>if ops.toList.all λo=>match o.dst with|some d=>decide (d<nt)|none=>J then
   (match xW ops q with
   |some (f,caps,t)=>.defer f caps t
   |none=>(match mL P ops ops.toList with
    |some l=>(match Dq ops l with|some prs=>.jw l prs|none=>.zh)
    |none=>.zh)) else .zh
 |.seq a b=>.seq (bA P nt a) (bA P nt b)
 |.cond (.tmp c) a b=>.cond c (bA P nt a) (bA P nt b)
 |.cond (.const (.bool J)) a _=>bA P nt a
 |.cond (.const (.bool aa)) _ b=>bA P nt b
 |.block id b=>.block id (bA P nt b)
 |.loop b=>.loop (bA P nt b)
 |.exit id=>.exit id
 |.ret=>.ret
 |_=>.zh
def mK (P:Program):Y ResultVar->M (Y RV)
 |[]=>Z []
 |.tmp t::r=>match mK P r with|some l=>Z (.tmp t::l)|none=>U
 |.cell a t::r=>match mK P r,fe P t,EO P t with|some l,Z sz,Z c=>Z (.cell a sz c::l)|_,_,_=>U
def yO (P:Program) (f:FuncId):M SF:=
 match P.funcs[f]? with
 |some fn=>if fn.name== "runtime.NumGoroutine" then U else (match fn.body,mK P fn.results.toList with
  |some c,Z r=>Z ⟨bA P fn.ntmps c,r,fn.ntmps⟩
  |_,_=>U)
 |none=>U
inductive Xp where
 |mk (op n:Int) (name:ζ) (l:List Xp)
inductive Sx where
 |mk (op line:Int) (name arg:ζ) (index:List Xp) (expr:Xp) (body els:List Sx)
def Xp.op:Xp->Int|.mk a _ _ _=>a
def Xp.n:Xp->Int|.mk _ a _ _=>a
def Xp.name:Xp->ζ|.mk _ _ a _=>a
def Xp.l:Xp->Y Xp|.mk _ _ _ a=>a
def Sx.op:Sx->Int|.mk a _ _ _ _ _ _ _=>a
def Sx.line:Sx->Int|.mk _ a _ _ _ _ _ _=>a
def Sx.name:Sx->ζ|.mk _ _ a _ _ _ _ _=>a
def Sx.arg:Sx->ζ|.mk _ _ _ a _ _ _ _=>a
def Sx.index:Sx->Y Xp|.mk _ _ _ _ a _ _ _=>a
def Sx.expr:Sx->Xp|.mk _ _ _ _ _ a _ _=>a
def Sx.body:Sx->Y Sx|.mk _ _ _ _ _ _ a _=>a
def Sx.els:Sx->Y Sx|.mk _ _ _ _ _ _ _ a=>a
inductive Ty where
 |int (k:IntKind)
 |bool
 |str
 |sl (t:Ty)
 |st (t:Ty)
 |pr (a b:Ty)
 |un
 |ex
 |sm
 deriving DecidableEq
@[reducible] def Ty.den:Ty->Type
  |.int _=>Int
  |.bool=>Bool
  |.str=>ζ
  |.sl t=>Y t.den
  |.st t=>t.den
  |.pr a b=>a.den×b.den
  |.un=>Unit
  |.ex=>Xp
  |.sm=>Sx
def Ty.size:Ty->Nat
 |.st t=>t.size
 |.pr a b=>a.size+b.size
 |.un=>0
 |.ex=>4
 |.sm=>11
 |_=>1
def Ty.zero:(t:Ty)->t.den
 |.int _=>(0:Int)
 |.bool=>aa
 |.str=>[]
 |.sl _=>[]
 |.st t=>t.zero
 |.pr a b=>(a.zero,b.zero)
 |.un=>()
 |.ex=>.mk 0 0 [] []
 |.sm=>.mk 0 0 [] [] [] (.mk 0 0 [] []) [] []
def Ty.one:Ty->Bool
 |.int _=>J
 |.bool=>J
 |.str=>J
 |.sl _=>J
 |_=>aa
def Of:Ty:=.pr (.int .i64) (.pr (.int .i64) (.pr .str (.sl .ex)))
def NJ:Ty:=.pr (.int .i64) (.pr (.int .i64) (.pr .str (.pr .str (.pr (.sl .ex) (.pr .ex (.pr (.sl .sm) (.sl .sm)))))))
def O9 (e:Xp):Of.den:=(e.op,e.n,e.name,e.l)
def ey (x:Of.den):Xp:=.mk x.1 x.2.1 x.2.2.1 x.2.2.2
def O8 (e:Sx):NJ.den:=(e.op,e.line,e.name,e.arg,e.index,e.expr,e.body,e.els)
def oY (x:NJ.den):Sx:=.mk x.1 x.2.1 x.2.2.1 x.2.2.2.1 x.2.2.2.2.1 x.2.2.2.2.2.1 x.2.2.2.2.2.2.1 x.2.2.2.2.2.2.2
mutual
def wU:Xp->Y FV
 |.mk op n name l=>[.raw (.int .i64 op),.raw (.int .i64 n),.raw (.string ⟨name.toArray⟩),.sl (KM l) (l! l)]
def KM:Y Xp->Y FV
 |[]=>[]
 |x::r=>wU x++KM r
end
mutual
def yD:Sx->Y FV
 |.mk op line name arg index expr body els=>[.raw (.int .i64 op),.raw (.int .i64 line),.raw (.string ⟨name.toArray⟩),.raw (.string ⟨arg.toArray⟩),.sl (KM index) (l! index)]++wU expr++[.sl (KL body) (l! body),.sl (KL els) (l! els)]
def KL:Y Sx->Y FV
 |[]=>[]
 |x::r=>yD x++KL r
end
def bP:(T:Ty)->T.den->Y FV
 |.int k,n=>[.raw (.int k n)]
 |.bool,b=>[.raw (.bool b)]
 |.str,s=>[.raw (.string ⟨s.toArray⟩)]
 |.sl t,xs=>[.sl (List.flatMap (bP t) xs) (ah xs)]
 |.st t,v=>bP t v
 |.pr a b,v=>bP a v.1++bP b v.2
 |.un,_=>[]
 |.ex,v=>wU v
 |.sm,v=>yD v
def fC:(T:Ty)->T.den->FV
 |.int k,n=>.raw (.int k n)
 |.bool,b=>.raw (.bool b)
 |.str,s=>.raw (.string ⟨s.toArray⟩)
 |.sl t,xs=>.sl (List.flatMap (bP t) xs) (ah xs)
 |.st t,v=>.agg (bP t v)
 |.pr a b,v=>.agg (bP a v.1++bP b v.2)
 |.un,_=>.agg []
 |.ex,v=>.agg (wU v)
 |.sm,v=>.agg (yD v)
def Qr:(T:Ty)->T.den->T.den->Bool
 |.int _,a,b=>decide ((a:Int)=b)
 |.bool,a,b=>(a:Bool)==b
 |.str,a,b=>decide ((a:ζ)=b)
 |.st t,a,b=>Qr t a b
 |.pr x y,a,b=>Qr x a.1 b.1&&Qr y a.2 b.2
 |_,_,_=>J
def tG {S:Ty} (T:Ty) (v:S.den):M T.den:=if h:S=T then Z (h▸v) else U
def gr (j:Int) (n:Nat):Bool:=cZ 0 j&&fV j n
def aK (T:Ty) (xs:Y T.den) (j:Int):T.den:=xs.getD j.toNat T.zero
def cC (xs:Y R) (j:Int) (x:R):Y R:=xs.set j.toNat x
def cpy (xs c:Y R):Y R:=c.take (l! xs)++xs.drop (l! c)
def Fo (a b:Int):Int:=if fV a b then b else a
def yY (a b:Int):Int:=if fV b a then b else a
def zH (s:ζ) (j:Int):Int:=bC (s.getD j.toNat 0).toNat
def aI (b:Bool) (t f:M R):M R:=match b with|true=>t|false=>f
def chk (b:Bool) (k:b=J->M R):M R:=match b,k with|true,k=>k rfl|false,_=>U
open Classical in
def FX (a b:M R):M R:=if a=b then a else U
open Classical in
def same {α:Type} (a b:α) (r:M R):M R:=if a=b then r else U
def aw {α:Type} (o:M α) (k:α->M R):M R:=match o with|some x=>k x|none=>U
def lt {α:Type} (x:α) (k:α->M R):M R:=k x
def jn {α:Type} (o:M (R⊕α)) (k:α->M R):M R:=match o with|some (.inr x)=>k x|some (.inl r)=>Z r|none=>U
def iterN {σ:Type} (step:σ->M (σ⊕R)):Nat->σ->M R
 |0,_=>U
 |n+1,x=>match step x with
  |some (.inl y)=>iterN step n y
  |some (.inr r)=>Z r
  |none=>U
open Classical in
def iter {σ R:Type} (step:σ->M (σ⊕R)) (x:σ):M R:=
 if h:∃n,(iterN step n x).isSome=J then iterN step (Classical.choose h) x else U
def wO {σ R:Type} (step:σ->M (σ⊕R)) (x:σ):M R:=iterN step 18446744073709551616 x
abbrev Itr:Type 1:=∀σ R:Type,(σ->M (σ⊕R))->σ->M R
def rF (a b:M R):Prop:=∀y,a=Z y->b=Z y
def rF.rfl {a:M R}:rF a a:=λ_ h=>h
def rF.bcase {t f c q:M R} (h1:rF t c) (z:rF f q):rF (AI.aI b t f) (AI.aI b c q):=by cases b<;>assumption
def rF.chk {k c:M R} (h:rF k c):rF (AI.chk b λ_=>k) (AI.chk b λ_=>c):=by
 cases b with
 |true=>exact h
 |false=>exact λ_ h=>by cases h
def rF.obind {α:Type} {o c:M α} {k q:α->M R} (h:rF o c) (A:∀x,rF (k x) (q x)):rF (AI.aw o k) (AI.aw c q):=by
 intro y z;cases o with
 |none=>cases z
 |some x=>rw[h x (by rfl)];exact A x y z
def rF.lt {α:Type} {x:α} {k c:α->M R} (h:∀y,rF (k y) (c y)):rF (AI.lt x k) (AI.lt x c):=h x
def rF.jn {α:Type} {o q:M (R⊕α)} {k z:α->M R} (h:rF o q) (A:∀x,rF (k x) (z x)):rF (AI.jn o k) (AI.jn q z):=by
 intro y c;cases o with
 |none=>cases c
 |some x=>
  rw[h x (by rfl)];cases x with
  |inl r=>exact c
  |inr a=>exact A a y c
def rF.iterN {σ:Type} {f g:σ->M (σ⊕R)} (h:∀x,rF (f x) (g x)):∀(n:Nat) (x:σ),rF (AI.iterN f n x) (AI.iterN g n x)
 |0,_=>λ_ h=>by cases h
 |n+1,x=>by
  intro y c;cases hf:f x with
  |none=>rw[AI.iterN,hf]at c;cases c
  |some s=>
   rw[AI.iterN,hf]at c;rw[AI.iterN,h x s hf];cases s with
   |inl z=>exact rF.iterN h n z y c
   |inr r=>exact c
def J0 {σ:Type} {f:σ->M (σ⊕R)}:∀{n:Nat} {x:σ} {r:R},iterN f n x=Z r->iterN f (n+1) x=Z r
 |0,x,r,h=>by cases h
 |n+1,x,r,h=>by
  cases hf:f x with
  |none=>rw[iterN,hf]at h;cases h
  |some s=>
   cases s with
   |inl y=>rw[iterN,hf]at h;rw[iterN,hf];exact J0 h
   |inr q=>rw[iterN,hf]at h;rw[iterN,hf];exact h
def DJ {σ:Type} {f:σ->M (σ⊕R)} {n:Nat} {x:σ} {r:R} (h:iterN f n x=Z r) (hle:n<=m):iterN f m x=Z r:=by
 induction hle with
 |refl=>exact h
 |step _ c=>exact J0 c
def JZ {σ:Type} {f:σ->M (σ⊕R)} {x:σ} {r:R} (h:iterN f i x=Z r):iter f x=Z r:=by
 have q:∃i,(iterN f i x).isSome=J:=⟨i,by rw[h];exact Eq.refl _⟩
 unfold iter;rw[dif_pos q];have A:=Classical.choose_spec q;let⟨D,c⟩:=iK.1 A;rw[c];rcases Nat.le_total i (Classical.choose q) with z|z
 .rw[DJ h z]at c;exact c.symm
 .rw[DJ c z]at h;exact h
def rF.iter {σ:Type} {f g:σ->M (σ⊕R)} {x:σ} (h:∀x,rF (f x) (g x)):rF (wO f x) (AI.iter g x):=λy c=>JZ (rF.iterN h _ x y c)
def orE (a b:M R):M R:=match a with|some y=>Z y|none=>b
def fI:Nat:=Classical.choose (⟨100000,rfl⟩:∃n:Nat,n=100000)
def po:fI=100000:=Classical.choose_spec (⟨100000,rfl⟩:∃n:Nat,n=100000)
def HP (a:Ty):Ty->Ty
 |.un=>a
 |.int k=>.pr a (.int k)
 |.bool=>.pr a .bool
 |.str=>.pr a .str
 |.sl t=>.pr a (.sl t)
 |.st t=>.pr a (.st t)
 |.pr x y=>.pr a (.pr x y)
 |.ex=>.pr a .ex
 |.sm=>.pr a .sm
def spr:Ty->Ty->Ty
 |.un,b=>b
 |.int k,b=>HP (.int k) b
 |.bool,b=>HP .bool b
 |.str,b=>HP .str b
 |.sl t,b=>HP (.sl t) b
 |.st t,b=>HP (.st t) b
 |.pr x y,b=>HP (.pr x y) b
 |.ex,b=>HP .ex b
 |.sm,b=>HP .sm b
def R6 (a:Ty):(b:Ty)->a.den->b.den->(HP a b).den
 |.un,x,_=>x
 |.int _,x,y|.bool,x,y|.str,x,y|.sl _,x,y|.st _,x,y|.pr _ _,x,y|.ex,x,y|.sm,x,y=>(x,y)
def fsN (a:Ty):(b:Ty)->(HP a b).den->a.den
 |.un,z=>z
 |.int _,z|.bool,z|.str,z|.sl _,z|.st _,z|.pr _ _,z|.ex,z|.sm,z=>z.1
def snN (a:Ty):(b:Ty)->(HP a b).den->b.den
 |.un,_=>()
 |.int _,z|.bool,z|.str,z|.sl _,z|.st _,z|.pr _ _,z|.ex,z|.sm,z=>z.2
def Ym:(a b:Ty)->a.den->b.den->(spr a b).den
 |.un,_,_,y=>y
 |.int k,b,x,y=>R6 (.int k) b x y
 |.bool,b,x,y=>R6 .bool b x y
 |.str,b,x,y=>R6 .str b x y
 |.sl t,b,x,y=>R6 (.sl t) b x y
 |.st t,b,x,y=>R6 (.st t) b x y
 |.pr u v,b,x,y=>R6 (.pr u v) b x y
 |.ex,b,x,y=>R6 .ex b x y
 |.sm,b,x,y=>R6 .sm b x y
def Qk:(a b:Ty)->(spr a b).den->a.den
 |.un,_,_=>()
 |.int k,b,z=>fsN (.int k) b z
 |.bool,b,z=>fsN .bool b z
 |.str,b,z=>fsN .str b z
 |.sl t,b,z=>fsN (.sl t) b z
 |.st t,b,z=>fsN (.st t) b z
 |.pr u v,b,z=>fsN (.pr u v) b z
 |.ex,b,z=>fsN .ex b z
 |.sm,b,z=>fsN .sm b z
def Pf:(a b:Ty)->(spr a b).den->b.den
 |.un,_,z=>z
 |.int k,b,z=>snN (.int k) b z
 |.bool,b,z=>snN .bool b z
 |.str,b,z=>snN .str b z
 |.sl t,b,z=>snN (.sl t) b z
 |.st t,b,z=>snN (.st t) b z
 |.pr u v,b,z=>snN (.pr u v) b z
 |.ex,b,z=>snN .ex b z
 |.sm,b,z=>snN .sm b z
def tT (a b:Ty) (x:a.den) (y:b.den):Qk a b (Ym a b x y)=x:=by cases a<;>cases b<;>rfl
def vx (a b:Ty) (x:a.den) (y:b.den):Pf a b (Ym a b x y)=y:=by cases a<;>cases b<;>rfl
inductive Sb where
 |ob (id:Nat) (j:Int) (off:Nat)
 |om (id:Nat) (j:Int) (b:Nat)
 |nr (id:Nat) (j:Int) (sz n:Nat)
 |np (id:Nat) (j:Int) (sz:Nat) (i:Int) (off:Nat)
 |nl (q:Bool)
def Sb.id:Sb->Nat
 |.ob i _ _=>i
 |.om i _ _=>i
 |.nr i _ _ _=>i
 |.np i _ _ _ _=>i
 |.nl _=>0
def Sb.to (i:Nat):Sb->Sb
 |.ob _ j o=>.ob i j o
 |.om _ j b=>.om i j b
 |.nr _ j s n=>.nr i j s n
 |.np _ j s k o=>.np i j s k o
 |.nl q=>.nl q
inductive sU where
 |ar (ty:TypeId) (S:Ty)
 |zk (ty:TypeId)
 |zg
 |rr (ty:TypeId) (sz:Nat)
 |ir (ty:TypeId) (T:Ty)
 deriving DecidableEq
abbrev mbT:Ty:=.sl (.pr (.int .i64) .bool)
abbrev kyT:Ty:=.pr (.int .i64) (.int .i64)
def sU.ty:sU->Ty
 |.ar _ S=>.sl (.pr S (.pr mbT mbT))
 |.zk _=>.sl (.int .i64)
 |.zg=>.sl (.pr kyT (.int .i64))
 |.rr _ _=>.sl (.int .i64)
 |.ir _ T=>.sl (.sl T)
def sU.aid (n:Nat):sU->Nat
 |.ar _ _=>0
 |.ir _ _=>0
 |_=>n
def qY:(F:sU)->F.ty.den->M (Bool×n!)
 |.zk _,q=>Z (J,1,ah q)
 |.rr _ _,c=>Z (aa,1,ah c)
 |_,_=>U
inductive TV where
 |f (T:Ty) (v:T.den)
 |zw (T:Ty) (xs:List T.den) (j:Int) (h:gr j (l! xs)=J) (off:Nat)
 |qr (id sz:Nat) (j:Int) (off:Nat)
 |H (id off:Nat)
 |G (id:Nat)
 |qk (id sz n:Nat)
 |emp
 |nil
 |mp (id:Nat)
 |agg (l:List TV)
 |qb (l:List TV)
 |qy (g:FuncId) (l:List TV)
 |undef
 |np
 |qv
 |zp (id:Nat) (j:Int)
 |qh (T:Ty) (xs:List T.den)
 |sb (s:Sb)
instance cty (n:Nat):OfNat (M TypeId) n:=⟨Z n⟩
inductive eC where
 |F (ty:TypeId) (p:Bool) (T:Ty) (xs:List T.den)
 |C (ty:Option TypeId) (l:List TV)
 |qj (p:Bool) (sz n:Nat)
 |mp (K V:Ty) (es:List (K.den×V.den))
 |qw (F:sU) (a:Nat) (x:F.ty.den)
 |qm (F:sU) (a:Nat) (x:F.ty.den) (k:ν) (p:Option (Nat×Bool×Nat))
abbrev gM:=PT TV
abbrev a_:=PT eC
def cst:Value->M TV
 |.int k n=>Z (.f (.int k) n)
 |.bool b=>Z (.f .bool b)
 |.string s=>Z (.f .str s.data.toList)
 |.slice U 0 0=>Z .nil
 |.pointer U=>Z .np
 |.map U=>Z (.sb (.nl J))
 |.nilFunc=>Z (.sb (.nl aa))
 |_=>U
def Lq:ξ->M (Y TV)
 |[]=>Z []
 |v::r=>match cst v,Lq r with|some x,Z l=>Z (x::l)|_,_=>U
def anf:Value->M TV
 |.agg vs=>if LL vs.toList then (match Lq vs.toList with|some l=>Z (.agg l)|none=>U) else U
 |v=>cst v
def cellsOf:Nat->(T:Ty)->T.den->M (Y TV)
 |0,_,_=>U
 |n+1,.st t,v=>cellsOf n t v
 |n+1,.pr a b,v=>match cellsOf n a v.1,cellsOf n b v.2 with|some x,Z y=>Z (x++y)|_,_=>U
 |_+1,.un,_=>Z []
 |n+1,.ex,v=>cellsOf n Of (O9 v)
 |n+1,.sm,v=>cellsOf n NJ (O8 v)
 |_+1,.int k,v=>Z [.f (.int k) v]
 |_+1,.bool,v=>Z [.f .bool v]
 |_+1,.str,v=>Z [.f .str v]
 |_+1,.sl t,v=>Z [.f (.sl t) v]
def TV.isC:TV->Bool
 |.f T _=>T.one
 |.zw _ _ _ _ _=>J
 |.qr _ _ _ _=>J
 |.H _ _=>J
 |.G _=>J
 |.qk _ _ _=>J
 |.emp=>J
 |.nil=>J
 |.np=>J
 |.mp _=>J
 |.qy _ _=>J
 |.sb _=>J
 |_=>aa
def kL:Y TV->Bool
 |[]=>J
 |x::r=>x.isC&&kL r
def TV.cs (v:TV):M (Y TV):=match v with
 |.agg l=>if kL l then Z l else U
 |.f T x=>cellsOf 40 T x
 |x=>if x.isC then Z [x] else U
def fT (i:Nat):Nat:=1<<<i
def gY (h:a_) (T:Ty):TV->M (T.den×Nat)
 |.f _ v=>match tG T v with|some x=>Z (x,0)|none=>U
 |.emp|.nil=>(match T with|.sl _=>Z ([],0)|_=>U)
 |.G id=>match h.get id with
  |some (.F _ _ S xs)=>(match tG (S:=.sl S) T xs with|some x=>Z (x,fT id)|none=>U)
  |_=>U
 |_=>U
def fh (h:a_):Nat->(T:Ty)->Y TV->M (T.den×Nat×Y TV)
 |0,_,_=>U
 |n+1,.st t,l=>fh h n t l
 |n+1,.pr a b,l=>match fh h n a l with
  |some (x,m,r)=>(match fh h n b r with|some (y,m',q)=>Z ((x,y),m|||m',q)|none=>U)
  |none=>U
 |_+1,.un,l=>Z ((),0,l)
 |n+1,.ex,l=>match fh h n Of l with|some (x,m,r)=>Z (ey x,m,r)|none=>U
 |n+1,.sm,l=>match fh h n NJ l with|some (x,m,r)=>Z (oY x,m,r)|none=>U
 |_+1,.int k,l=>match l with|c::r=>(match gY h (.int k) c with|some (x,m)=>Z (x,m,r)|none=>U)|[]=>U
 |_+1,.bool,l=>match l with|c::r=>(match gY h .bool c with|some (x,m)=>Z (x,m,r)|none=>U)|[]=>U
 |_+1,.str,l=>match l with|c::r=>(match gY h .str c with|some (x,m)=>Z (x,m,r)|none=>U)|[]=>U
 |_+1,.sl t,l=>match l with|c::r=>(match gY h (.sl t) c with|some (x,m)=>Z (x,m,r)|none=>U)|[]=>U
def C1 (h:a_) (T:Ty) (v:TV):M (T.den×Nat):=match v with
 |.agg l=>if T.one then U else (match fh h 40 T l with|some (x,m,[])=>Z (x,m)|_=>U)
 |x=>gY h T x
def mG:Nat->(T:Ty)->T.den->Nat->Nat->Bool->M TV
 |0,_,_,_,_,_=>U
 |n+1,.st t,v,off,sz,c=>if ay off 0&&ay sz t.size&&c then Z (.f (.st t) v) else mG n t v off sz c
 |n+1,.pr a b,v,off,sz,c=>if db off a.size then mG n a v.1 off sz c else mG n b v.2 (off-a.size) sz c
 |_+1,.un,_,_,_,_=>U
 |n+1,.ex,v,off,sz,c=>if ay off 0&&ay sz 4&&c then Z (.f .ex v) else mG n Of (O9 v) off sz c
 |n+1,.sm,v,off,sz,c=>if ay off 0&&ay sz 11&&c then Z (.f .sm v) else mG n NJ (O8 v) off sz c
 |_+1,.int k,v,off,sz,c=>if ay off 0&&ay sz 1&& !c then Z (.f (.int k) v) else U
 |_+1,.bool,v,off,sz,c=>if ay off 0&&ay sz 1&& !c then Z (.f .bool v) else U
 |_+1,.str,v,off,sz,c=>if ay off 0&&ay sz 1&& !c then Z (.f .str v) else U
 |_+1,.sl t,v,off,sz,c=>if ay off 0&&ay sz 1&& !c then Z (.f (.sl t) v) else U
def gz (h:a_) (x:TV):Nat->(T:Ty)->T.den->Nat->Nat->M (T.den×Nat)
 |0,_,_,_,_=>U
 |n+1,.st t,v,off,sz=>match (if ay off 0&&ay sz t.size then C1 h (.st t) x else U) with
  |some y=>Z y
  |none=>gz h x n t v off sz
 |n+1,.pr a b,v,off,sz=>if db off a.size then (match gz h x n a v.1 off sz with|some (y,m)=>Z ((y,v.2),m)|none=>U) else (match gz h x n b v.2 (off-a.size) sz with|some (y,m)=>Z ((v.1,y),m)|none=>U)
 |_+1,.un,_,_,_=>U
 |n+1,.ex,v,off,sz=>match (if ay off 0&&ay sz 4 then C1 h .ex x else U) with
  |some y=>Z y
  |none=>(match gz h x n Of (O9 v) off sz with|some (y,m)=>Z (ey y,m)|none=>U)
 |n+1,.sm,v,off,sz=>match (if ay off 0&&ay sz 11 then C1 h .sm x else U) with
  |some y=>Z y
  |none=>(match gz h x n NJ (O8 v) off sz with|some (y,m)=>Z (oY y,m)|none=>U)
 |_+1,.int k,_,off,sz=>if ay off 0&&ay sz 1 then gY h (.int k) x else U
 |_+1,.bool,_,off,sz=>if ay off 0&&ay sz 1 then gY h .bool x else U
 |_+1,.str,_,off,sz=>if ay off 0&&ay sz 1 then gY h .str x else U
 |_+1,.sl t,_,off,sz=>if ay off 0&&ay sz 1 then gY h (.sl t) x else U
def BK (h:a_) (T:Ty):Nat->Y TV->M (Y T.den×Nat)
 |0,[]=>Z ([],0)
 |0,_::_=>U
 |n+1,l=>match fh h 40 T l with
  |some (x,m,r)=>(match BK h T n r with|some (xs,m')=>Z (x::xs,m|||m')|none=>U)
  |none=>U
def tm:Ty->ξ
 |.int k=>[.int k 0]
 |.bool=>[.bool aa]
 |.str=>[.string ⟨#[]⟩]
 |.sl _=>[.slice U 0 0]
 |.st t=>tm t
 |.pr a b=>tm a++tm b
 |.un=>[]
 |.ex=>[.int .i64 0,.int .i64 0,.string ⟨#[]⟩,.slice U 0 0]
 |.sm=>[.int .i64 0,.int .i64 0,.string ⟨#[]⟩,.string ⟨#[]⟩,.slice U 0 0,.int .i64 0,.int .i64 0,.string ⟨#[]⟩,.slice U 0 0,.slice U 0 0,.slice U 0 0]
def ON:ξ->ξ->Bool
 |[],[]=>J
 |x::xs,y::c=>anm x y&&ON xs c
 |_,_=>aa
def Ty.flat:Ty->Bool
 |.int _=>J
 |.bool=>J
 |.str=>J
 |.st t=>t.flat
 |.pr a b=>a.flat&&b.flat
 |.un=>J
 |_=>aa
def rE:Y TypeDesc->M Ty
 |[]=>Z .un
 |.int k::r=>match rE r with|some t=>Z (.pr (.int k) t)|none=>U
 |.bool::r=>match rE r with|some t=>Z (.pr .bool t)|none=>U
 |.string::r=>match rE r with|some t=>Z (.pr .str t)|none=>U
 |_=>U
inductive PV where
 |d (T:Ty)
 |H (id off:Nat)
 |G (id:Nat)
 |qk (id sz n:Nat)
 |mp (id:Nat)
 |nil
 |emp
 |qy (q:FuncId) (l:List (Nat×Nat))
 |ob (id off:Nat)
 |nr (id sz:Nat)
 |agg (l:List PV)
inductive PB where
 |F (ty:TypeId) (p:Bool) (T:Ty)
 |qg (ty:TypeId) (T:Ty)
 |C (ty:Option TypeId) (l:List PV)
 |mp (K V:Ty)
 |qw (F:sU) (a:Nat)
 |qf
mutual
def PV.ty:PV->Ty
 |.d T=>T
 |.agg l=>PV.tyL l
 |.H _ _|.G _|.qk _ _ _|.qy _ _=>.un
 |.ob _ _=>.int .i64
 |.nr _ _=>.pr (.int .i64) (.int .i64)
 |.mp _|.nil|.emp=>.un
def PV.tyL:Y PV->Ty
 |[]=>.un
 |p::r=>spr p.ty (PV.tyL r)
end
def PB.ty:PB->Ty
 |.F _ _ T=>.sl T
 |.qg _ T=>.pr .bool (.sl T)
 |.C _ l=>PV.tyL l
 |.mp K V=>.sl (.pr K V)
 |.qw a _=>a.ty
 |.qf=>.un
def PB.tyL:Y PB->Ty
 |[]=>.un
 |p::r=>spr p.ty (PB.tyL r)
structure Tm where
 vs:List PV
 bs:List PB
def Tm.ty (t:Tm):Ty:=spr (PV.tyL t.vs) (PB.tyL t.bs)
def Jr (g:Nat->Nat):Y n!->Y TV->Bool
 |[],[]=>J
 |(i,o)::r,.H q c::vs=>ay (g i) q&&ay o c&&Jr g r vs
 |_,_=>aa
mutual
def lS (g:Nat->Nat) (h:a_):(p:PV)->Y TV->M (p.ty.den×Nat×Y TV)
 |.d T,l=>fh h 40 T l
 |.H i o,l=>match l with|.H i' o'::r=>if ay (g i) i'&&ay o o' then Z ((),0,r) else U|_=>U
 |.G i,l=>match l with|.G i'::r=>if ay (g i) i' then Z ((),0,r) else U|_=>U
 |.qk i s n,l=>match l with|.qk i' s' n'::r=>if ay (g i) i'&&ay s s'&&ay n n' then Z ((),0,r) else U|_=>U
 |.qy q ps,l=>match l with|.qy q' vs::r=>if ay q q'&&Jr g ps vs then Z ((),0,r) else U|_=>U
 |.ob i o,l=>match l with|.sb (.ob i' j o')::r=>if ay (g i) i'&&ay o o' then Z (j,0,r) else U|_=>U
 |.nr i s,l=>match l with|.sb (.nr i' j s' n)::r=>if ay (g i) i'&&ay s s' then Z ((j,bC n),0,r) else U|_=>U
 |.mp i,l=>match l with|.mp i'::r=>if ay (g i) i' then Z ((),0,r) else U|_=>U
 |.nil,l=>match l with|.nil::r=>Z ((),0,r)|_=>U
 |.emp,l=>match l with|.nil::r=>Z ((),0,r)|.emp::r=>Z ((),0,r)|_=>U
 |.agg ps,l=>Af g h ps l
def Af (g:Nat->Nat) (h:a_):(ps:Y PV)->Y TV->M ((PV.tyL ps).den×Nat×Y TV)
 |[],l=>Z ((),0,l)
 |p::r,l=>match lS g h p l with
  |some (x,m,l')=>(match Af g h r l' with|some (y,m',l'')=>Z (Ym p.ty (PV.tyL r) x y,m|||m',l'')|none=>U)
  |none=>U
end
def uO (g:Nat->Nat) (h:a_):(p:PV)->TV->M (p.ty.den×Nat)
 |.d T,v=>C1 h T v
 |.agg c,v=>if v.isC then U else (match v.cs with
  |some l=>(match Af g h c l with|some (x,m,[])=>Z (x,m)|_=>U)
  |none=>U)
 |.H i o,v=>match lS g h (.H i o) [v] with|some (x,m,_)=>Z (x,m)|none=>U
 |.G i,v=>match lS g h (.G i) [v] with|some (x,m,_)=>Z (x,m)|none=>U
 |.qk i s n,v=>match lS g h (.qk i s n) [v] with|some (x,m,_)=>Z (x,m)|none=>U
 |.qy q c,v=>match lS g h (.qy q c) [v] with|some (x,m,_)=>Z (x,m)|none=>U
 |.ob i o,v=>match lS g h (.ob i o) [v] with|some (x,m,_)=>Z (x,m)|none=>U
 |.nr i s,v=>match lS g h (.nr i s) [v] with|some (x,m,_)=>Z (x,m)|none=>U
 |.mp i,v=>match lS g h (.mp i) [v] with|some (x,m,_)=>Z (x,m)|none=>U
 |.nil,v=>match lS g h .nil [v] with|some (x,m,_)=>Z (x,m)|none=>U
 |.emp,v=>match lS g h .emp [v] with|some (x,m,_)=>Z (x,m)|none=>U
def Ae (g:Nat->Nat) (h:a_):(c:Y PV)->Y TV->M ((PV.tyL c).den×Nat)
 |[],[]=>Z ((),0)
 |p::r,v::vs=>match uO g h p v with
  |some (x,m)=>(match Ae g h r vs with|some (y,m')=>Z (Ym p.ty (PV.tyL r) x y,m|||m')|none=>U)
  |none=>U
 |[],_::_=>U
 |_::_,[]=>U
def CS (g:Nat->Nat) (h:a_) (i:Nat):(b:PB)->M (b.ty.den×Nat)
 |.F ty p T=>match h.get (g i) with
  |some (.F ty' c S xs)=>if ty==ty'&&p==c then (match tG (S:=.sl S) (.sl T) xs with|some x=>Z (x,0)|none=>U) else U
  |_=>U
 |.qg ty T=>match h.get (g i) with
  |some (.F ty' c S xs)=>if ty==ty' then (match tG (S:=.sl S) (.sl T) xs with|some x=>Z ((c,x),0)|none=>U) else U
  |_=>U
 |.C ty q=>match h.get (g i) with
  |some (.C ty' l)=>if ty==ty' then (match Af g h q l with|some (x,m,[])=>Z (x,m)|_=>U) else U
  |_=>U
 |.mp K V=>match h.get (g i) with
  |some (.mp K' V' es)=>(match tG (S:=.sl (.pr K' V')) (.sl (.pr K V)) es with|some x=>Z (x,0)|none=>U)
  |_=>U
 |.qw F a=>match h.get (g i) with
  |some (.qw F' A x)=>if z:F'=F then (if ay (F.aid (g a)) A then Z (z▸x,0) else U) else U
  |_=>U
 |.qf=>Z ((),0)
def DZ (g:Nat->Nat) (h:a_):Nat->(bs:Y PB)->M ((PB.tyL bs).den×Nat)
 |_,[]=>Z ((),0)
 |i,b::r=>match CS g h i b with
  |some (x,m)=>(match DZ g h (i+1) r with|some (y,m')=>Z (Ym b.ty (PB.tyL r) x y,m|||m')|none=>U)
  |none=>U
mutual
def mA (g:Nat->Nat):(p:PV)->p.ty.den->M (Y TV)
 |.d T,x=>cellsOf 40 T x
 |.H i o,_=>Z [.H (g i) o]
 |.G i,_=>Z [.G (g i)]
 |.qk i s n,_=>Z [.qk (g i) s n]
 |.mp i,_=>Z [.mp (g i)]
 |.qy q ps,_=>Z [.qy q (ps.map λp=>.H (g p.1) p.2)]
 |.ob i o,j=>Z [.sb (.ob (g i) j o)]
 |.nr i s,x=>Z [.sb (.nr (g i) x.1 s (aS x.2))]
 |.nil,_=>Z [.nil]
 |.emp,_=>Z [.emp]
 |.agg ps,x=>rA g ps x
def rA (g:Nat->Nat):(ps:Y PV)->(PV.tyL ps).den->M (Y TV)
 |[],_=>Z []
 |p::r,x=>match mA g p (Qk p.ty (PV.tyL r) x) with
  |some a=>(match rA g r (Pf p.ty (PV.tyL r) x) with|some b=>Z (a++b)|none=>U)
  |none=>U
end
def qo (g:Nat->Nat):(p:PV)->p.ty.den->M TV
 |.d T,x=>Z (.f T x)
 |.H i o,_=>Z (.H (g i) o)
 |.G i,_=>Z (.G (g i))
 |.qk i s n,_=>Z (.qk (g i) s n)
 |.mp i,_=>Z (.mp (g i))
 |.qy q c,_=>Z (.qy q (c.map λp=>.H (g p.1) p.2))
 |.ob i o,j=>Z (.sb (.ob (g i) j o))
 |.nr i s,x=>Z (.sb (.nr (g i) x.1 s (aS x.2)))
 |.nil,_=>Z .nil
 |.emp,_=>Z .emp
 |.agg c,x=>match rA g c x with|some l=>Z (.agg l)|none=>U
def oO (g:Nat->Nat):(c:Y PV)->(PV.tyL c).den->M (Y TV)
 |[],_=>Z []
 |p::r,x=>match qo g p (Qk p.ty (PV.tyL r) x) with
  |some a=>(match oO g r (Pf p.ty (PV.tyL r) x) with|some b=>Z (a::b)|none=>U)
  |none=>U
def Bs (g:Nat->Nat):(b:PB)->b.ty.den->M (M eC)
 |.F ty p T,x=>Z (Z (.F ty p T x))
 |.qg ty T,x=>Z (Z (.F ty x.1 T x.2))
 |.C ty c,x=>match rA g c x with|some l=>Z (Z (.C ty l))|none=>U
 |.mp K V,x=>Z (Z (.mp K V x))
 |.qw F a,x=>Z (Z (.qw F (F.aid (g a)) x))
 |.qf,_=>Z U
def tA:eC->eC
 |.F _ p T xs=>.qj p T.size (l! xs)
 |.C _ _|.mp _ _ _=>.qj J 0 0
 |.qw F _ x|.qm F _ x _ _=>(match qY F x with|some (p,s,n)=>.qj p s n|none=>.qj J 0 0)
 |.qj p sz n=>.qj p sz n
def kill (h:a_) (i:Nat):a_:=match h.get i with
 |some b=>h.set i (Z (tA b))
 |none=>h
def pM (g:Nat->Nat):(bs:Y PB)->(PB.tyL bs).den->M (Y (M eC))
 |[],_=>Z []
 |b::r,x=>match Bs g b (Qk b.ty (PB.tyL r) x) with
  |some c=>(match pM g r (Pf b.ty (PB.tyL r) x) with|some l=>Z (c::l)|none=>U)
  |none=>U
def Bv (g:Nat->Nat):Nat->Y (M eC)->a_->a_
 |_,[],h=>h
 |i,Z c::r,h=>Bv g (i+1) r (h.set (g i) (Z c))
 |i,U::r,h=>Bv g (i+1) r (kill h (g i))
def NR (g:Nat->Nat) (bs:Y PB) (x:(PB.tyL bs).den) (h:a_):M a_:=match pM g bs x with
 |some l=>Z (Bv g 0 l h)
 |none=>U
def tw {K V:Ty} (k:K.den):Y (K.den×V.den)->M V.den
 |[]=>U
 |(c,v)::r=>if Qr K k c then Z v else tw k r
def zQ {K V:Ty} (k:K.den) (v:V.den):Y (K.den×V.den)->Y (K.den×V.den)
 |[]=>[(k,v)]
 |(c,q)::r=>if Qr K k c then (k,v)::r else (c,q)::zQ k v r
def ZL {K V:Ty} (k:K.den) (es:Y (K.den×V.den)):Bool:=match tw k es with|some _=>J|none=>aa
def yr {K V:Ty} (k:K.den) (es:Y (K.den×V.den)) (z:V.den):V.den:=match tw k es with|some v=>v|none=>z
def aq9 (T:Ty):Nat->Ty
 |0=>.un
 |1=>T
 |n+2=>.pr T (aq9 T (n+1))
def kwT:Ty:=.st (aq9 .str 22)
def kwV:kwT.den:=([118,97,114],[118,111,108,97,116,105,108,101],[109,117,116,101,120],[114,119,108,111,99,107],[99,111,110,100],[102,117,116,117,114,101],[116,104,114,101,97,100],[105,102],[101,108,115,101],[119,104,105,108,101],[108,111,99,107],[114,101,97,100],[119,114,105,116,101],[116,114,97,110,115,97,99,116,105,111,110],[97,116,111,109,105,99],[119,97,105,116],[110,111,116,105,102,121],[110,111,116,105,102,121,97,108,108],[115,112,97,119,110],[106,111,105,110],[115,101,116],[103,101,116])
structure cu where
 pre:Tm
 post:Tm
 m:pre.ty.den->Option post.ty.den
def XL:Y n!->Y TV->PT Nat->PT Nat
 |(i,_)::r,.H a _::vs,σ=>XL r vs (σ.set i (Z a))
 |_::r,_::vs,σ=>XL r vs σ
 |_,_,σ=>σ
mutual
def alq:PV->Y TV->PT Nat->PT Nat×Y TV
 |.d T,l,σ=>(σ,l.drop T.size)
 |.H i _,l,σ=>match l with|.H a _::r=>(σ.set i (Z a),r)|l=>(σ,l.drop 1)
 |.G i,l,σ=>match l with|.G a::r=>(σ.set i (Z a),r)|l=>(σ,l.drop 1)
 |.qk i _ _,l,σ=>match l with|.qk a _ _::r=>(σ.set i (Z a),r)|l=>(σ,l.drop 1)
 |.mp i,l,σ=>match l with|.mp a::r=>(σ.set i (Z a),r)|l=>(σ,l.drop 1)
 |.qy _ ps,l,σ=>match l with|.qy _ vs::r=>(XL ps vs σ,r)|l=>(σ,l.drop 1)
 |.ob i _,l,σ=>match l with|.sb (.ob a _ _)::r=>(σ.set i (Z a),r)|l=>(σ,l.drop 1)
 |.nr i _,l,σ=>match l with|.sb (.nr a _ _ _)::r=>(σ.set i (Z a),r)|l=>(σ,l.drop 1)
 |.nil,l,σ|.emp,l,σ=>(σ,l.drop 1)
 |.agg ps,l,σ=>XM ps l σ
def XM:Y PV->Y TV->PT Nat->PT Nat×Y TV
 |[],l,σ=>(σ,l)
 |p::r,l,σ=>match alq p l σ with|(σ',l')=>XM r l' σ'
end
def ar2 (p:PV) (v:TV) (σ:PT Nat):PT Nat:=match p with
 |.d _=>σ
 |p=>match v.cs with|some l=>(alq p l σ).1|none=>σ
def afl:Y PV->Y TV->PT Nat->PT Nat
 |p::r,v::vs,σ=>afl r vs (ar2 p v σ)
 |_,_,σ=>σ
def XN (h:a_):Nat->Y PB->PT Nat->PT Nat
 |_,[],σ=>σ
 |i,b::r,σ=>XN h (i+1) r (match b with
  |.C _ c=>(match σ.get i with
   |some a=>(match h.get a with|some (.C _ l)=>(XM c l σ).1|_=>σ)
   |none=>σ)
  |.qw F j=>(match σ.get i with
   |some a=>(match h.get a with|some (.qw _ b _)=>(if ay (F.aid 1) 0 then σ else σ.set j (Z b))|_=>σ)
   |none=>σ)
  |_=>σ)
def gU (σ:PT Nat) (i:Nat):Nat:=match σ.get i with|some a=>a|none=>0
def acm (σ:PT Nat):Nat->Nat->Nat->M Nat
 |0,_,acc=>Z acc
 |n+1,i,acc=>match σ.get i with
  |some a=>if aC acc a then U else acm σ n (i+1) (acc|||fT a)
  |none=>U
def idn:Nat->PT Nat
 |0=>.leaf
 |n+1=>(idn n).set n (Z n)
def YO (σ:PT Nat):Nat->Bool
 |0=>J
 |n+1=>(match σ.get n with|some a=>ay a n|none=>aa)&&YO σ n
structure ary (t:Tm) where
 x:t.ty.den
 m:Nat
 σ:PT Nat
 sm:Nat
def CJ (np:Nat) (t:Tm) (vs:Y TV) (h:a_):M (ary t):=
 MX (XN h 0 t.bs (XN h 0 t.bs (afl t.vs vs (idn np)))) λσ=>
 match acm σ (l! t.bs) 0 0 with
 |some sm=>(match Ae (gU σ) h t.vs vs with
  |some (x,m)=>(match DZ (gU σ) h 0 t.bs with
   |some (y,m')=>if Ax (m|||m') sm&&YO σ np then Z ⟨Ym _ _ x y,m|||m',σ,sm⟩ else U
   |none=>U)
  |none=>U)
 |none=>U
def PT.updI (f:Nat->R->R):Nat->Nat->PT R->PT R
 |_,_,.leaf=>.leaf
 |a,b,.node v l r=>.node (match v with|some x=>Z (f b x)|none=>U) (PT.updI f (2*a) (a+b) l) (PT.updI f (2*a) (2*a+b) r)
def dI (m:Nat) (h:a_):a_:=if ay m 0 then h else PT.updI (λi b=>if aC m i then tA b else b) 1 0 h
def Wh:Operand->Bool
 |.const (.agg _)=>J
 |_=>aa
def dy (e:gM):Operand->M TV
 |.tmp t=>e.get t
 |.const v=>anf v
 |.func g=>Z (.qy g [])
 |.global g=>match G g with|some _=>Z (.zw kwT [kwV] 0 (Eq.refl J) 0)|none=>U
def Jw (e:gM):Y Operand->M (Y TV)
 |[]=>Z []
 |x::xs=>match dy e x with|some y=>(match Jw e xs with|some c=>Z (y::c)|none=>U)|none=>U
def Ky (cells:Y TV) (e:gM):Y l?->M (Y TV)
 |[]=>Z cells
 |(off,sz,x)::r=>match dy e x with
  |some v=>(match v.cs with
   |some cs=>if (l! cs)==sz&&dc (off+sz) (l! cells) then Ky (splice cells off cs) e r else U
   |none=>U)
  |none=>U
def VQ (l:Y TV) (off sz:Nat):Bool->M TV
 |false=>if ay sz 1 then l[off]? else U
 |true=>if dc (off+sz) (l! l) then Z (.agg ((l.drop off).take sz)) else U
def ep (h:a_) (id:Nat):M (Bool×n!):=match h.get id with
 |some (.F _ p T xs)=>Z (p,T.size,l! xs)
 |some (.qj p sz n)=>Z (p,sz,n)
 |some (.qw F _ x)|some (.qm F _ x _ _)=>qY F x
 |_=>U
def lenOf (h:a_):TV->M Nat
 |.f (.sl _) xs=>Z (ah xs)
 |.emp|.nil=>Z 0
 |.G id=>match ep h id with|some (_,_,n)=>Z n|none=>U
 |.qk _ _ n|.sb (.nr _ _ _ n)=>Z n
 |_=>U
mutual
def Mv (h:a_):TV->Bool
 |.G id|.zp id _=>(ep h id).isSome
 |.qh _ _=>J
 |.sb _=>J
 |.agg l|.qb l|.qy _ l=>kR h l
 |.f _ _=>J
 |.zw _ _ _ _ _=>J
 |.qr _ _ _ _=>J
 |.H _ _=>J
 |.qk _ _ _=>J
 |.emp=>J
 |.nil=>J
 |.mp _=>J
 |.undef=>J
 |.np=>J
 |.qv=>J
def kR (h:a_):Y TV->Bool
 |[]=>J
 |x::r=>Mv h x&&kR h r
end
mutual
def Gq (n:Nat):TV->Bool
 |.G id|.zp id _=>db id n
 |.qh _ _=>J
 |.sb s=>db s.id n
 |.qr id _ _ _|.H id _|.qk id _ _|.mp id=>db id n
 |.agg l|.qb l|.qy _ l=>qa n l
 |.f _ _=>J
 |.zw _ _ _ _ _=>J
 |.emp=>J
 |.nil=>J
 |.undef=>J
 |.np=>J
 |.qv=>J
def qa (n:Nat):Y TV->Bool
 |[]=>J
 |x::r=>Gq n x&&qa n r
end
def BQ (t:Tm) (x:t.ty.den):M (Y TV×a_):=
 match oO (λi=>i) t.vs (Qk _ _ x) with
 |some vs=>(match NR (λi=>i) t.bs (Pf _ _ x) PT.leaf with
  |some h=>if kR h vs&&qa (l! t.bs) vs&&PT.all (λ_ b=>match b with|.C _ l=>kR h l&&qa (l! t.bs) l|.qw _ a _=>db a (l! t.bs)|.qm _ _ _ _ _=>aa|_=>J) 1 0 h then Z (vs,h) else U
  |none=>U)
 |none=>U
abbrev KO (R:Type):=TV->Nat->Nat->a_->Nat->M R
def RM:Y TV->TV
 |[x]=>x
 |l=>.qb l
def CG:Y PB->Bool
 |[]=>J
 |.qf::_=>aa
 |_::r=>CG r
def I7:Y PB->Bool
 |[]=>J
 |.F _ _ _::r=>I7 r
 |_::_=>aa
def uk (h c:a_) (g:Nat->Nat):Nat->Bool
 |0=>J
 |n+1=>(match ep h (g n) with
  |some (p,s,k)=>(match ep c (g n) with|some (q,s',z)=>(p==q)&&ay s s'&&ay k z|none=>aa)
  |none=>J)&&uk h c g n
def ah9 (f:FuncId):Y TV->FuncId
 |[]=>f
 |.qy g _::_=>f+65536*(g+1)
 |.sb (.nr _ _ _ _)::r=>f+65536*(60000+l! r)
 |[.nil]=>f+65536*61000
 |_::r=>ah9 f r
def anh (con:FuncId->M cu) (f:FuncId) (l:Y TV):M cu:=match db f 65536 with
 |true=>(match con (ah9 f l) with|some c=>Z c|none=>con f)
 |false=>U
def Y' (con:FuncId->M cu) (f:FuncId) (l:Y TV) (h:a_) (nx:Nat) (K:KO R):M R:=
 match anh con f l with
 |some c=>(match CJ 0 c.pre l h with
  |some ⟨x,m,σ,sm⟩=>(match BQ c.pre x with
   |some _=>aw (c.m x) λy=>(match BQ c.post y with
    |some _=>if dc (l! c.pre.bs) (l! c.post.bs)&&CG c.pre.bs then
      let np:=l! c.pre.bs
      let A:=l! c.post.bs-np
      let g:=λi=>if db i np then gU σ i else nx+(i-np)
      (match oO g c.post.vs (Qk _ _ y) with
      |some q=>if !(ay m 0)&&ay (l! c.post.bs) 0&&(PV.tyL c.post.vs).flat then K (RM q) m 0 h nx else
       (match NR g c.post.bs (Pf _ _ y) (dI m h) with
       |some z=>chk (uk h z g np) λ_=>K (RM q) (sm|||m) (sm|||m|||(((1<<<A)-1)<<<nx)) z (nx+A)
       |none=>U)
      |none=>U) else if ay (l! c.post.bs) 0&&I7 c.pre.bs then
      let np:=l! c.pre.bs
      let g:=λi=>if db i np then gU σ i else nx+(i-np)
      (match oO g c.post.vs (Qk _ _ y) with
      |some q=>(match NR g c.pre.bs (Pf _ _ x) (dI m h) with
       |some z=>K (RM q) (sm|||m) m z nx
       |none=>U)
      |none=>U) else U
    |none=>U)
   |none=>U)
  |none=>U)
 |none=>U
def anl (op:BinOp) (x y:TV) (q:TV->M R):M R:=
 match x,y with
 |.f (.int k) a,.f (.int c) b=>if k==c then
   (match op with
   |.add=>q (.f (.int k) (aZ k (a+b)))
   |.sub=>q (.f (.int k) (aZ k (a-b)))
   |.mul=>q (.f (.int k) (aZ k (a*b)))
   |.rem=>chk (!decide ((b:Int)=0)) λ_=>q (.f (.int k) (fR a b))
   |.quo=>chk (!decide ((b:Int)=0)) λ_=>q (.f (.int k) (aZ k (Int.tdiv a b)))
   |.eql=>q (.f .bool (decide ((a:Int)=b)))
   |.neq=>q (.f .bool (!decide ((a:Int)=b)))
   |.lss=>q (.f .bool (fV a b))
   |.leq=>q (.f .bool (cZ a b))
   |.gtr=>q (.f .bool (fV b a))
   |.geq=>q (.f .bool (cZ b a))
   |.and=>q (.f (.int k) (aic k a b))
   |_=>U)
  else U
 |.f .str a,.f .str b=>match op with
   |.eql=>q (.f .bool (decide ((a:ζ)=b)))
   |.neq=>q (.f .bool (!decide ((a:ζ)=b)))
   |_=>U
 |_,_=>U
def ZM:Bool->Ty->Bool
 |false,.int _=>J
 |true,.str=>J
 |_,_=>aa
abbrev itK:Ty:=.st (.pr .str (.int .i64))
def isIt:Ty->Bool
 |.st (.pr .str (.int .i64))=>J
 |_=>aa
def V9 (K:Ty):Bool:= !isIt K
def itS:Y ((ζ×Int)×Unit)->ζ
 |[]=>[]
 |e::_=>e.1.1
def itP:Y ((ζ×Int)×Unit)->Nat
 |[]=>0
 |e::_=>aS e.1.2
def rnP (s:ζ) (p:Nat):Int:=rnA (List.getD s p 0) ⟨iO s⟩ p
def wdP (s:ζ) (p:Nat):Nat:=wdA (List.getD s p 0) ⟨iO s⟩ p
def itE:(K V:Ty)->Y (K.den×V.den)->M (ζ×Nat)
 |.st (.pr .str (.int .i64)),.un,es=>Z (itS es,itP es)
 |_,_,_=>U
def mpE:(K V:Ty)->Y (K.den×V.den)->Bool
 |.un,.un,[]=>J
 |_,_,_=>aa
def xc (T:Ty):Y TV->M (Y T.den)
 |[]=>Z []
 |.f S v::r=>match tG (S:=S) T v with
  |some x=>(match xc T r with|some l=>Z (x::l)|none=>U)
  |none=>U
 |_::_=>U
def afn:Y TV->M ((T:Ty)×Y T.den)
 |.f T v::r=>match xc T (.f T v::r) with|some l=>Z ⟨T,l⟩|none=>U
 |_=>U
def aqs (n sz:Nat) (v:TV):Bool->M ((T:Ty)×Y T.den)
 |true=>U
 |false=>if ay sz 1&& !v.isC then (match v.cs with|some l=>if ay (l! l) n then afn l else U|none=>U) else U
def arrB (n sz off:Nat):M eC->M ((T:Ty)×Y T.den)
 |some (.C (Z _) l)=>if ay sz 1&&ay off 0&&ay (l! l) n then afn l else U
 |_=>U
def alm:Ty->Nat
 |.pr .un t=>alm t+1
 |_=>0
def ED:M Ty->M Nat
 |some (.pr .un t)=>Z (alm t)
 |_=>U
def alp (ty:TypeId) (sz bytes:Nat) (b y:TV) (h:a_) (nx:Nat) (K:KO R):M R:=match y with
 |.qk id2 sz2 m=>(match h.get id2 with
  |some (.C (Z _) c)=>if ay sz2 sz&&ay (l! c) (m*sz)&& !(ay m 0) then (match b with
   |.qk id sz1 n=>(match h.get id with
    |some (.C (Z ty1) l)=>if ay sz1 sz&&ty1==ty&&ay (l! l) (n*sz)&& !(ay id id2) then
      chk (bl (n+m) bytes) λ_=>K (.qk nx sz (n+m)) (fT id|||fT id2) (fT id|||fT nx) ((h.set id (Z (.qj J 0 0))).set nx (Z (.C (Z ty) (l++c)))) (nx+1) else U
    |_=>U)
   |.nil=>chk (bl m bytes) λ_=>K (.qk nx sz m) (fT id2) (0|||fT nx) ((dI 0 h).set nx (Z (.C (Z ty) c))) (nx+1)
   |_=>U) else U
  |_=>U)
 |_=>U
def afo (ty:TypeId) (sz bytes:Nat) (T:Ty) (b:TV) (c:Y T.den) (m:Nat) (h:a_) (nx:Nat) (K:KO R):M R:=match b with
 |.G id=>(match h.get id with
  |some (.F ty' p S xs)=>(match tG (S:=.sl S) (.sl T) xs with
   |some xs=>if ty'==ty&& !(aC m id) then
     chk (bl (ah xs+ah c) bytes) λ_=>K (.G nx) (fT id|||m) (fT id|||fT nx) ((h.set id (Z (.qj p sz (ah xs)))).set nx (Z (.F ty p T (xs++c)))) (nx+1)
    else U
   |none=>U)
  |_=>U)
 |.qh S xs=>(match tG (S:=.sl S) (.sl T) xs with
  |some xs=>chk (bl (ah xs+ah c) bytes) λ_=>aI (ay (ah c) 0) (K (.f (.sl T) xs) m 0 h nx) (K (.G nx) m (0|||fT nx) ((dI 0 h).set nx (Z (.F ty aa T (xs++c)))) (nx+1))
  |none=>U)
 |.emp|.nil=>chk (bl (ah c) bytes) λ_=>K (.G nx) m (fT nx) (h.set nx (Z (.F ty J T c))) (nx+1)
 |_=>U
def pkT (ok:Bool) (v b:TV):TV:=match ok with|true=>.qb [v,b]|false=>v
def rwB (sz off:Nat):M eC->Bool
 |some (.F _ _ T _)=>ay sz T.size&&ay off 0
 |_=>aa
def jH (l:η):ζ:=l.map λn=>O2 n.toNat
def amh (h:a_) (T:Ty):TV->M (Int×Y T.den×Nat)
 |.zp id j=>(match h.get id with
  |some (.F _ _ S xs)=>(match tG (S:=.sl S) (.sl T) xs with|some xs=>Z (j,xs,id)|none=>U)
  |_=>U)
 |_=>U
def d_ (con:FuncId->M cu) (b9:TypeId->M Ty) (o:SI) (e:gM) (h:a_) (nx:Nat) (K:KO R):M R:=
 match o with
 |.call f args=>match Jw e args with|some l=>Y' con f l h nx K|none=>U
 |.jr x args=>match dy e x,Jw e args with
  |some (.qy f cap),Z l=>Y' con f (l++cap) h nx K
  |_,_=>U
 |.op s=>match s with
  |.zf ty sz bytes z l c=>match ED (b9 ty) with
   |some n=>(match Lq z,dy e l,dy e c with
    |some I,Z (.f (.int _) a),Z (.f (.int _) b)=>chk (cZ 0 a&&cZ a b&&bl (aS b) bytes&&decide ((a:Int)=bC n)) λ_=>K (.qk nx sz n) 0 (0|||fT nx) ((dI 0 h).set nx (Z (.C (Z ty) (aP n I).flatten))) (nx+1)
    |_,_,_=>U)
   |none=>match b9 ty,dy e l,dy e c with
   |some T,Z (.f (.int _) a),Z (.f (.int _) b)=>if ay sz T.size&&ON z (tm T) then
     chk (cZ 0 a&&cZ a b&&bl (aS b) bytes) λ_=>K (.G nx) 0 (fT nx) (h.set nx (Z (.F ty aa T (aP (aS a) T.zero)))) (nx+1) else U
   |_,_,_=>U
  |.xz ty sz len z parts=>match ED (b9 ty) with
   |some _=>(match Lq z with
    |some I=>(match Ky ((aP len I).flatten) e parts with
     |some cs=>if ay len 0 then U else K (.qk nx sz len) 0 (0|||fT nx) ((dI 0 h).set nx (Z (.C (Z ty) cs))) (nx+1)
     |none=>U)
    |none=>U)
   |none=>match b9 ty,Lq z with
   |some T,Z I=>if ay sz T.size then (match Ky ((aP len I).flatten) e parts with
    |some cs=>(match BK h T len cs with
     |some (xs,m)=>K (.G nx) m (m|||fT nx) ((dI m h).set nx (Z (.F ty (ay len 0) T xs))) (nx+1)
     |none=>U)
    |none=>U) else U
   |_,_=>U
  |.app ty sz bytes s x=>match ED (b9 ty) with
   |some _=>(match dy e s,dy e x with
    |some b,Z y=>alp ty sz bytes b y h nx K
    |_,_=>U)
   |none=>match b9 ty,dy e s,dy e x with
   |some T,Z b,Z y=>if ay sz T.size then (match amh h T y with
    |some (j,xs,id)=>chk (cZ 0 j&&fV j (ah xs)) λ_=>afo ty sz bytes T b (gL (aS j) xs) (fT id) h nx K
    |none=>(match C1 h (.sl T) y with
     |some (D,m)=>afo ty sz bytes T b D m h nx K
     |none=>U)) else U
   |_,_,_=>U
  |.copy sz d x=>match dy e d,dy e x with
   |some (.G id),Z y=>(match h.get id with
    |some (.F ty p T xs)=>if ay sz T.size then (match C1 h (.sl T) y with
     |some (D,m)=>if !(aC m id)&& !p then
       K (.f (.int .i64) (bC (kU (ah D) (ah xs)))) (fT id|||m) (fT id) (h.set id (Z (.F ty p T (cpy xs D)))) nx else U
     |none=>U) else U
    |_=>U)
   |_,_=>U
  |.clr sz z x=>match dy e x with
   |some (.zp id j)=>(match h.get id with
    |some (.F ty p T xs)=>if (ay sz T.size&&ON z (tm T))&&mM z then
      chk (cZ 0 j&&fV j (ah xs)) λ_=>K (.qb []) (fT id) (0|||fT id) ((dI 0 h).set id (Z (.F ty p T (ca (aS j) xs++aP (ah xs-aS j) T.zero)))) nx
     else U
    |_=>U)
   |_=>U
  |.mv x=>match dy e x with|some v=>K v 0 0 h nx|none=>U
  |.pick c a b=>match dy e c with
   |some (.f .bool t)=>aI t (match dy e a with|some v=>K v 0 0 h nx|none=>U) (match dy e b with|some v=>K v 0 0 h nx|none=>U)
   |_=>U
  |.alloc ty z=>if db 24 (ah z)&&ON z (aP (ah z) (.int .u8 0)) then
    K (.H nx 0) 0 (0|||fT nx) ((dI 0 h).set nx (Z (.F ty aa (.int .u8) (aP (ah z) (0:Int))))) (nx+1)
   else match Lq z with
   |some l=>K (.H nx 0) 0 (fT nx) (h.set nx (Z (.C (Z ty) l))) (nx+1)
   |none=>U
  |.box ty x=>match dy e x with
   |some v=>(match v.cs with|some l=>K (.H nx 0) 0 (fT nx) (h.set nx (Z (.C (Z ty) l))) (nx+1)|none=>U)
   |none=>U
  |.build z parts=>match Lq z with
   |some l=>(match Ky l e parts with|some cs=>K (.agg cs) 0 0 h nx|none=>U)
   |none=>U
  |.load sz q x=>match dy e x with
   |some (.H id off)=>(match h.get id with
    |some (.C (Z _) l)=>(match VQ l off sz q with|some v=>K v (fT id) 0 h nx|none=>U)
    |_=>U)
   |some (.qr id sz' j off)=>(match h.get id with
    |some (.F _ _ T xs)=>if ay sz' T.size then chk (gr j (l! xs)) λ_=>(match mG 40 T (aK _ xs j) off sz q with|some v=>K v (fT id) 0 h nx|none=>U) else U
    |some (.C (Z _) l)=>(match q with
     |true=>U
     |false=>if ay sz 1&&ay sz' 1&&ay off 0 then (match afn l with
      |some ⟨T,xs⟩=>chk (gr j (l! l)) λ_=>K (.f T (aK _ xs j)) (fT id) 0 h nx
      |none=>U) else U)
    |_=>U)
   |some (.zw T xs j _ off)=>(match mG 40 T (aK _ xs j) off sz q with|some v=>K v 0 0 h nx|none=>U)
   |_=>U
  |.store sz x v=>match dy e x,dy e v with
   |some (.H id off),Z y=>(match h.get id with
    |some (.C (Z ty) l)=>(match y.cs with
     |some cs=>if (l! cs)==sz&&dc (off+sz) (l! l) then K .undef (fT id) (fT id) (h.set id (Z (.C (Z ty) (splice l off cs)))) nx else U
     |none=>U)
    |_=>U)
   |some (.qr id sz' j off),Z y=>(match h.get id with
    |some (.F ty p T xs)=>if ay sz' T.size then chk (gr j (l! xs)) λ_=>(match gz h y 40 T (aK _ xs j) off sz with
     |some (z,m)=>if aC m id then U else K .undef (m|||fT id) (m|||fT id) ((dI m h).set id (Z (.F ty p T (cC xs j z)))) nx
     |none=>U) else U
    |some (.C (Z ty) l)=>if ay sz 1&&(ay sz' 1&&ay off 0) then chk (gr j (l! l)) λ_=>(match y.cs with
     |some cs=>if ay (l! cs) 1 then K .undef (fT id) (fT id) (h.set id (Z (.C (Z ty) (splice l j.toNat cs)))) nx else U
     |none=>U) else U
    |_=>U)
   |_,_=>U
  |.zr x=>match dy e x with
   |some (.H id off)=>K (.H id off) 0 0 h nx
   |some (.qr id sz j off)=>K (.qr id sz j off) 0 0 h nx
   |some (.zw T xs j N off)=>K (.zw T xs j N off) 0 0 h nx
   |some (.qy g cap)=>K (.qy g cap) 0 0 h nx
   |_=>U
  |.bin op x y=>match dy e x,dy e y with
   |some u,Z v=>anl op u v λr=>K r 0 0 h nx
   |_,_=>U
  |.jt neg ds x y=>match rE ds,dy e x,dy e y with
   |some T,Z u,Z v=>if u.isC||v.isC||Wh x||Wh y then U else (match u.cs,v.cs with
    |some lu,Z lv=>(match fh PT.leaf 40 T lu,fh PT.leaf 40 T lv with
     |some (a,_,[]),Z (b,_,[])=>K (.f .bool (Qr T a b !=neg)) 0 0 h nx
     |_,_=>U)
    |_,_=>U)
   |_,_,_=>U
  |.zm neg x=>match dy e x with
   |some .nil=>K (.f .bool (!neg)) 0 0 h nx
   |some .emp=>K .qv 0 0 h nx
   |some (.f (.sl _) xs)=>aI (ay (ah xs) 0) (K .qv 0 0 h nx) (K (.f .bool neg) 0 0 h nx)
   |some (.G id)=>(match h.get id with
    |some (.F _ aa _ _)=>K (.f .bool neg) 0 0 h nx
    |_=>U)
   |_=>U
  |.xq neg x y=>match dy e x,dy e y with
   |some (.f .bool a),Z (.f .bool b)=>K (.f .bool ((a==b) !=neg)) 0 0 h nx
   |_,_=>U
  |.not x=>match dy e x with|some (.f .bool b)=>K (.f .bool (!b)) 0 0 h nx|_=>U
  |.conv k x=>match dy e x with|some (.f (.int _) n)=>K (.f (.int k) (aZ k n)) 0 0 h nx|_=>U
  |.slc sz x lo hi mx=>match dy e x with
   |some v=>(match lo,hi,mx with
    |none,Z (.const (.int _ 0)),Z (.const (.int _ 0))=>if (lenOf h v).isSome then K .emp 0 0 h nx else U
    |none,Z b,U=>(match v,dy e b with
     |.f (.sl T) xs,Z (.f (.int _) j)=>if ay sz T.size then chk (cZ 0 j&&cZ j (ah xs)) λ_=>K (.f (.sl T) (ca (aS j) xs)) 0 0 h nx else U
     |.G id,Z (.f (.int _) j)=>(match h.get id with
      |some (.F ty p T xs)=>if ay sz T.size then
        chk (cZ 0 j&&fV j (ah xs)) λ_=>K (.G nx) (fT id) (fT id|||fT nx) ((h.set id (Z (.qj p sz (ah xs)))).set nx (Z (.F ty aa T (ca (aS j) xs)))) (nx+1)
       else U
      |_=>U)
     |_,_=>U)
    |some b,U,U=>(match v,dy e b with
     |.f (.sl T) xs,Z (.f (.int _) j)=>if ay sz T.size then chk (cZ 0 j&&cZ j (ah xs)) λ_=>K (.f (.sl T) (gL (aS j) xs)) 0 0 h nx else U
     |.G id,Z (.f (.int _) j)=>(match h.get id with
      |some (.F _ _ T xs)=>if ay sz T.size then chk (cZ 0 j&&fV j (ah xs)) λ_=>K (.zp id j) 0 0 h nx else U
      |_=>U)
     |_,_=>U)
    |none,Z b,Z b'=>(match v,dy e b,dy e b' with
     |.f (.sl T) xs,Z (.f (.int _) j),Z (.f (.int _) j')=>if ay sz T.size then chk ((decide (j=j')&&cZ 0 j)&&cZ j (ah xs)) λ_=>K (.qh T (ca (aS j) xs)) 0 0 h nx else U
     |_,_,_=>U)
    |some b,Z b',U=>(match v,dy e b,dy e b' with
     |.f (.sl T) xs,Z (.f (.int _) j),Z (.f (.int _) k)=>if ay sz T.size then chk (cZ 0 j&&(cZ j k&&cZ k (ah xs))) λ_=>K (.f (.sl T) (ca (aS k-aS j) (gL (aS j) xs))) 0 0 h nx else U
     |_,_,_=>U)
    |_,_,_=>U)
   |none=>U
  |.jm off x=>match dy e x with
   |some (.H id o)=>K (.H id (o+off)) 0 0 h nx
   |some (.qr id sz j o)=>K (.qr id sz j (o+off)) 0 0 h nx
   |some (.zw T xs j N o)=>K (.zw T xs j N (o+off)) 0 0 h nx
   |_=>U
  |.fld off sz q x=>match dy e x with
   |some (.agg l)=>(match VQ l off sz q with|some v=>K v 0 0 h nx|none=>U)
   |some (.f T v)=>if T.one then U else (match mG 40 T v off sz q with|some v=>K v 0 0 h nx|none=>U)
   |_=>U
  |.jp sz x i=>match dy e x,dy e i with
   |some (.G id),Z (.f (.int _) j)=>(match h.get id with
    |some (.F _ _ T xs)=>if ay sz T.size then chk (gr j (l! xs)) λ_=>K (.qr id sz j 0) 0 0 h nx else U
    |_=>U)
   |some (.f (.sl T) xs),Z (.f (.int _) j)=>if ay sz T.size then chk (gr j (ah xs)) λN=>K (.zw T xs j N 0) 0 0 h nx else U
   |some (.qk id sz' n),Z (.f (.int _) j)=>if ay sz' sz then chk (cZ 0 j&&fV j n) λ_=>K (.H id (aS j*sz)) 0 0 h nx else U
   |_,_=>U
  |.jv n sz x i=>match dy e x,dy e i with
   |some (.H id off),Z (.f (.int _) j)=>if rwB sz off (h.get id) then chk (cZ 0 j&&fV j n) λ_=>K (.qr id sz j off) 0 0 h nx else (match arrB n sz off (h.get id) with
    |some _=>chk (cZ 0 j&&fV j n) λ_=>K (.qr id sz j off) 0 0 h nx
    |none=>chk (cZ 0 j&&fV j n) λ_=>K (.H id (off+aS j*sz)) 0 0 h nx)
   |_,_=>U
  |.sla n sz x lo=>match dy e x,dy e lo with
   |some (.H id off),Z (.f (.int _) j)=>(match h.get id with
    |some (.F _ _ T xs)=>if ay sz T.size&&ay off 0 then chk (cZ 0 j&&(fV j n&&ay n (ah xs))) λ_=>K (.zp id j) 0 0 h nx else U
    |_=>U)
   |_,_=>U
  |.tos x=>match dy e x with
   |some v=>(match C1 h (.sl (.int .u8)) v with|some (D,m)=>K (.f .str (jH D)) m 0 h nx|none=>U)
   |none=>U
  |.idx n sz q x i=>match dy e x,dy e i with
   |some v,Z (.f (.int _) j)=>(match aqs n sz v q with
    |some ⟨T,xs⟩=>chk (cZ 0 j&&fV j n) λ_=>K (.f T (aK _ xs j)) 0 0 h nx
    |none=>(match v with
     |.agg l=>chk (cZ 0 j&&fV j n) λ_=>(match VQ l (aS j*sz) sz q with|some v=>K v 0 0 h nx|none=>U)
     |.f T v=>if T.one then U else chk (cZ 0 j&&fV j n) λ_=>(match mG 40 T v (aS j*sz) sz q with|some v=>K v 0 0 h nx|none=>U)
     |_=>U))
   |_,_=>U
  |.ext x i=>match dy e x with|some (.qb l)=>(match l[i]? with|some v=>K v 0 0 h nx|none=>U)|_=>U
  |.len x=>match dy e x with
   |some v=>(match lenOf h v with|some n=>K (.f (.int .i64) (bC n)) 0 0 h nx|none=>U)
   |none=>U
  |.lens x=>match dy e x with
   |some (.f .str s)=>K (.f (.int .i64) (bC (ah s))) 0 0 h nx
   |_=>U
  |.max x y=>match dy e x,dy e y with
   |some (.f (.int k) a),Z (.f (.int k') b)=>if k==k' then K (.f (.int k) (Fo a b)) 0 0 h nx else U
   |_,_=>U
  |.min x y=>match dy e x,dy e y with
   |some (.f (.int k) a),Z (.f (.int k') b)=>if k==k' then K (.f (.int k) (yY a b)) 0 0 h nx else U
   |_,_=>U
  |.jx x i=>match dy e x,dy e i with
   |some (.f .str s),Z (.f (.int _) j)=>chk (gr j (ah s)) λ_=>K (.f (.int .u8) (zH s j)) 0 0 h nx
   |_,_=>U
  |.rng x=>match dy e x with
   |some (.f .str s)=>K (.H nx 0) 0 (0|||fT nx) ((dI 0 h).set nx (Z (.mp itK .un [((s,0),())]))) (nx+1)
   |_=>U
  |.nxt x=>match dy e x with
   |some (.H id 0)=>(match h.get id with
    |some (.mp K' V es)=>(match itE K' V es with
     |some (s,p)=>aI (db p (ah s)) (K (.qb [.f .bool J,.f (.int .i64) (bC p),.f (.int .i32) (rnP s p)]) (fT id) (0|||fT id) ((dI 0 h).set id (Z (.mp itK .un [((s,bC (p+wdP s p)),())]))) nx)
       (K (.qb [.f .bool aa]) (fT id) (0|||fT id) ((dI 0 h).set id (Z (.mp itK .un [((s,bC p),())]))) nx)
     |none=>U)
    |_=>U)
   |_=>U
  |.mkm=>K (.mp nx) 0 (0|||fT nx) ((dI 0 h).set nx (Z (.mp .un .un []))) (nx+1)
  |.jb str ok z x k=>match dy e x,dy e k with
   |some (.mp id),Z (.f KT kv)=>(match h.get id with
    |some (.mp K' V es)=>if ZM str KT&&V9 K' then (match mpE K' V es with
     |true=>(match cst z with|some v=>K (pkT ok v (.f .bool aa)) (fT id) 0 h nx|none=>U)
     |false=>(match tG (S:=KT) K' kv,cst z with
      |some kv',Z (.f A zv)=>(match tG (S:=A) V zv with
       |some zv'=>K (pkT ok (.f V (yr kv' es zv')) (.f .bool (ZL kv' es))) (fT id) 0 h nx
       |none=>U)
      |_,_=>U)) else U
    |_=>U)
   |_,_=>U
  |.jf str x k v=>match dy e x,dy e k,dy e v with
   |some (.mp id),Z (.f KT kv),Z (.f VT vv)=>(match h.get id with
    |some (.mp K' V es)=>if (ZM str KT&&VT.one)&&V9 K' then (match mpE K' V es with
     |true=>K .undef (fT id) (0|||fT id) ((dI 0 h).set id (Z (.mp KT VT [(kv,vv)]))) nx
     |false=>(match tG (S:=KT) K' kv,tG (S:=VT) V vv with
      |some kv',Z vv'=>K .undef (fT id) (0|||fT id) ((dI 0 h).set id (Z (.mp K' V (zQ kv' vv' es)))) nx
      |_,_=>U)) else U
    |_=>U)
   |_,_,_=>U
  |.jk x=>match dy e x with
   |some (.mp id)=>(match h.get id with
    |some (.mp K' _ es)=>if V9 K' then K (.f (.int .i64) (bC (l! es))) (fT id) 0 h nx else U
    |_=>U)
   |_=>U
  |.mkf f caps=>match Jw e caps with|some l=>K (.qy f l) 0 0 h nx|none=>U
  |_=>U
abbrev AM (S:Ty):Type:=S.den×Y (Int×Bool)×Y (Int×Bool)
def nS (S:Ty) (xs:Y (AM S)) (j:Int):AM S:=xs.getD j.toNat (S.zero,[],[])
def alb {S:Ty} (xs:Y (AM S)) (j:Int) (o:AM S):Y (AM S):=xs.set j.toNat o
def Rn (c:η) (j:Int):Int:=c.getD j.toNat 0
variable {T:Ty}
def Gk (xss:Y (Y T.den)) (j:Int):Y T.den:=xss.getD j.toNat []
def E9 (xss:Y (Y T.den)) (j:Int) (xs:Y T.den):Y (Y T.den):=xss.set j.toNat xs
abbrev c!:=Int×Bool
def yq (b:Nat) (o:AM T):Y c!:=match b with|0=>o.2.1|_=>o.2.2
def JB (b:Nat) (o:AM T) (m:Y c!):AM T:=match b with|0=>(o.1,m,o.2.2)|_=>(o.1,o.2.1,m)
def ady (v:TV):M ν:=if v.isC then U else match v.cs with
 |some [.f (.int .i64) a,.f (.int .i64) b]=>Z (a,b)
 |_=>U
def keq (k c:ν):Bool:=decide (k.1=c.1)&&decide (k.2=c.2)
abbrev r?:=ν×Int
def ahs (k:ν):Y r?->Bool
 |[]=>aa
 |e::r=>keq k e.1||ahs k r
def ade (k:ν):Y r?->Int
 |[]=>0
 |e::r=>match keq k e.1 with|true=>e.2|false=>ade k r
def adf (k:ν):Y r?->Y r?
 |[]=>[]
 |e::r=>match keq k e.1 with|true=>r|false=>e::adf k r
def stN:Ty->Nat
 |.st t=>stN t+1
 |_=>0
def isRr:M Ty->Bool
 |some (.pr .bool (.pr _ (.sl _)))=>J
 |_=>aa
def ae0:ξ->Bool
 |[.slice U 0 0]=>J
 |_=>aa
def aqo:M TV->Bool
 |some (.sb _)=>J
 |_=>aa
def Wf:M eC->Bool
 |some (.qw _ _ _)=>J
 |some (.qm _ _ _ _ _)=>J
 |_=>aa
def zW (h:a_):M TV->Bool
 |some (.sb _)=>J
 |some (.qr id _ _ _)|some (.G id)=>Wf (h.get id)
 |_=>aa
def aqq (b9:TypeId->M Ty) (e:gM) (h:a_):SI->Bool
 |.op (.load _ _ x)|.op (.store _ x _)|.op (.zr x)|.op (.jm _ x)|.op (.jp _ x _)|.op (.jb _ _ _ x _)|.op (.jf _ x _ _)=>zW h (dy e x)
 |.op (.app _ _ _ s x)=>zW h (dy e s)||aqo (dy e x)
 |.op (.zf ty _ _ _ _ _)=>isRr (b9 ty)
 |.op (.jq _ _)=>J
 |.op (.lkq _ _ _ _)=>J
 |.op (.mpq _ _ _ _)=>J
 |.op (.dlq _ _ _)=>J
 |_=>aa
def oE (b9:TypeId->M Ty) (e:gM) (h:a_) (nx:Nat) (K:KO R):Np->M R
 |.load sz N x=>match dy e x with
  |some (.sb (.ob id j off))=>(match h.get id with
   |some (.qw (.ar _ S) _ xs)=>chk (gr j (ah (α:=AM S) xs)) λ_=>
     if N then U else if db off S.size then (match mG 40 S (nS S xs j).1 off sz aa with|some v=>K v (fT id) 0 h nx|none=>U)
     else if ay sz 1&&db off (S.size+2) then K (.sb (.om id j (off-S.size))) (fT id) 0 h nx else U
   |_=>U)
  |some (.sb (.np id j s i off))=>(match h.get id with
   |some (.qw (.ir _ T) _ xss)=>if ay s T.size then chk (gr j (ah (α:=Y T.den) xss)) λ_=>chk (gr i (ah (Gk (T:=T) xss j))) λ_=>
     (match mG 40 T (aK _ (Gk (T:=T) xss j) i) off sz N with|some v=>K v (fT id) 0 h nx|none=>U) else U
   |_=>U)
  |some (.qr id s j off)=>if (ay sz 1&& !N)&&(ay s 1&&ay off 0) then (match h.get id with
   |some (.qw (.zk _) a D)=>chk (gr j (ah (α:=Int) D)) λ_=>K (.sb (.ob a (Rn D j) 0)) (fT id) 0 h nx
   |some (.qw (.rr _ z) a I)=>chk (gr j (ah (α:=Int) I)) λ_=>K (.sb (.nr a j z (aS (Rn I j)))) (fT id) 0 h nx
   |_=>U) else U
  |_=>U
 |.store sz x v=>match dy e x,dy e v with
  |some (.sb (.ob id j off)),Z y=>(match h.get id with
   |some (.qw (.ar ty S) a xs)=>chk (gr j (ah (α:=AM S) xs)) λ_=>(match gz h y 40 S (nS S xs j).1 off sz with
    |some (z,m)=>if ay m 0 then K .undef (fT id) (0|||fT id) ((dI 0 h).set id (Z (.qw (.ar ty S) a (alb (S:=S) xs j (z,(nS S xs j).2))))) nx else U
    |none=>U)
   |_=>U)
  |some (.sb (.np id j s i off)),Z y=>(match h.get id with
   |some (.qw (.ir ty T) a xss)=>if ay s T.size then chk (gr j (ah (α:=Y T.den) xss)) λ_=>chk (gr i (ah (Gk (T:=T) xss j))) λ_=>(match gz h y 40 T (aK _ (Gk (T:=T) xss j) i) off sz with
    |some (z,m)=>if ay m 0 then K .undef (fT id) (0|||fT id) ((dI 0 h).set id (Z (.qw (.ir ty T) a (E9 (T:=T) xss j (cC (Gk (T:=T) xss j) i z))))) nx else U
    |none=>U) else U
   |_=>U)
  |some (.qr id s j off),Z (.G r)=>if ay sz 1&&(ay s 1&&ay off 0) then (match h.get id,h.get r with
   |some (.qw (.rr ty z) a I),Z (.F _ p T xs)=>if ay z T.size then chk (gr j (ah (α:=Int) I)) λ_=>chk (p|| !(ay (ah xs) 0)) λ_=>K .undef (fT id) (0|||fT id) ((dI 0 h).set id (Z (.qm (.rr ty z) a I (j,0) (Z (r,J,ah xs))))) nx else U
   |_,_=>U) else U
  |_,_=>U
 |.zr x=>match dy e x with
  |some (.sb (.ob id j off))=>K (.sb (.ob id j off)) 0 0 h nx
  |some (.sb (.np id j s i off))=>K (.sb (.np id j s i off)) 0 0 h nx
  |_=>U
 |.jm off x=>match dy e x with
  |some (.sb (.ob id j o))=>K (.sb (.ob id j (o+off))) 0 0 h nx
  |some (.sb (.np id j s i o))=>K (.sb (.np id j s i (o+off))) 0 0 h nx
  |_=>U
 |.jp sz x i=>match dy e x,dy e i with
  |some (.G id),Z (.f (.int _) j)=>(match ep h id with
   |some (_,s,n)=>if ay s sz&&Wf (h.get id) then chk (gr j n) λ_=>K (.qr id sz j 0) 0 0 h nx else U
   |none=>U)
  |some (.sb (.nr id j s n)),Z (.f (.int _) i)=>if ay s sz then chk (gr i n) λ_=>K (.sb (.np id j sz i 0)) 0 0 h nx else U
  |_,_=>U
 |.jb str ok z x k=>match dy e x,dy e k with
  |some (.sb (.om id j b)),Z (.f (.int .i64) A)=>(match h.get id,z with
   |some (.qw (.ar _ S) _ xs),.bool zb=>if !str&&db b 2 then chk (gr j (ah (α:=AM S) xs)) λ_=>
     K (pkT ok (.f .bool (yr (K:=.int .i64) (V:=.bool) A (yq b (nS S xs j)) zb)) (.f .bool (ZL (K:=.int .i64) (V:=.bool) A (yq b (nS S xs j))))) (fT id) 0 h nx else U
   |_,_=>U)
  |_,_=>U
 |.jf str x k v=>match dy e x,dy e k,dy e v with
  |some (.sb (.om id j b)),Z (.f (.int .i64) A),Z (.f .bool vv)=>(match h.get id with
   |some (.qw (.ar ty S) a xs)=>if !str&&db b 2 then chk (gr j (ah (α:=AM S) xs)) λ_=>
     K .undef (fT id) (0|||fT id) ((dI 0 h).set id (Z (.qw (.ar ty S) a (alb (S:=S) xs j (JB b (nS S xs j) (zQ (K:=.int .i64) (V:=.bool) A vv (yq b (nS S xs j)))))))) nx else U
   |_=>U)
  |_,_,_=>U
 |.app ty sz bytes s x=>match dy e s,dy e x with
  |some (.G id),Z (.qk id2 1 1)=>(match h.get id,h.get id2 with
   |some (.qw (.zk ty') a D),Z (.C (Z _) [.sb (.ob a' j 0)])=>if (ay sz 1&&ty==ty')&&(ay a a'&& !(ay id id2)) then
     chk (bl (ah (α:=Int) D+1) bytes) λ_=>K (.G nx) (fT id|||fT id2) (fT id|||fT nx) ((h.set id (Z (.qj J 1 (ah (α:=Int) D)))).set nx (Z (.qw (.zk ty) a (O5 (α:=Int) D [j])))) (nx+1) else U
   |_,_=>U)
  |some (.sb (.nr id j s n)),Z y=>(match h.get id with
   |some (.qw (.ir ty' T) a xss)=>if ay s T.size&&(ay sz T.size&&ty==ty') then chk (gr j (ah (α:=Y T.den) xss)) λ_=>(match C1 h (.sl T) y with
    |some (ys,m)=>if aC m id then U else chk (ay n (ah (Gk (T:=T) xss j))&&bl (n+ah ys) bytes) λ_=>
      K (.G nx) (fT id|||m) (fT id|||fT nx) ((h.set id (Z (.qw (.ir ty T) a (E9 (T:=T) xss j [])))).set nx (Z (.F ty J T (Gk (T:=T) xss j++ys)))) (nx+1)
    |none=>U) else U
   |_=>U)
  |some b,Z (.sb (.nr id j s n))=>(match h.get id with
   |some (.qw (.ir _ T) _ xss)=>if ay s T.size&&ay sz T.size then chk (gr j (ah (α:=Y T.den) xss)) λ_=>chk (ay n (ah (Gk (T:=T) xss j))) λ_=>afo ty sz bytes T b (Gk (T:=T) xss j) (fT id) h nx K else U
   |_=>U)
  |_,_=>U
 |.zf ty sz bytes z l c=>match b9 ty,dy e l,dy e c with
  |some (.pr .bool (.pr q (.sl T))),Z (.f (.int _) a),Z (.f (.int _) b)=>if ay sz 1&&ae0 z then
    chk (cZ 0 a&&cZ a b&&bl (aS b) bytes) λ_=>K (.G nx) 0 (fT nx) ((h.set nx (Z (.qw (.rr ty T.size) (nx+1) (aP (aS a) (0:Int))))).set (nx+1) (Z (.qw (.ir (stN q) T) 0 (aP (aS a) ([]:Y T.den))))) (nx+2) else U
  |_,_,_=>U
 |.jq neg x=>match dy e x with
  |some (.sb (.ob _ _ _))|some (.H _ _)=>K (.f .bool neg) 0 0 h nx
  |some .np=>K (.f .bool (!neg)) 0 0 h nx
  |_=>U
 |.lkq [.int .i64,.int .i64] z x k=>match dy e x,(dy e k).bind ady,z with
  |some (.mp id),Z A,.pointer U=>(match h.get id with
   |some (.qw .zg a es)=>aI (ahs A es) (K (.sb (.ob a (ade A es) 0)) (fT id) 0 h nx) (K .np (fT id) 0 h nx)
   |_=>U)
  |_,_,_=>U
 |.mpq [.int .i64,.int .i64] x k v=>match dy e x,(dy e k).bind ady,dy e v with
  |some (.mp id),Z A,Z (.H p 0)=>(match h.get id with
   |some (.qw .zg a es)=>K .undef (fT id) (0|||fT id) ((dI 0 h).set id (Z (.qm .zg a es A (Z (p,aa,0))))) nx
   |_=>U)
  |_,_,_=>U
 |.dlq [.int .i64,.int .i64] x k=>match dy e x,(dy e k).bind ady with
  |some (.mp id),Z A=>(match h.get id with
   |some (.qw .zg a es)=>K (.qb []) (fT id) (0|||fT id) ((dI 0 h).set id (Z (.qw .zg a (adf A es)))) nx
   |_=>U)
  |_,_=>U
 |_=>U
def opK (con:FuncId->M cu) (b9:TypeId->M Ty) (o:SI) (e:gM) (h:a_) (nx:Nat) (K:KO R):M R:=match aqq b9 e h o with
 |true=>(match o with|.op s=>oE b9 e h nx K s|_=>U)
 |false=>d_ con b9 o e h nx K
def ac8 (e:gM) (g:M (Nat×Bool)) (K:Bool->gM->M R):M R:=match g with
 |none=>K J e
 |some (t,want)=>match e.get t with
  |some (.f .bool b)=>(match want with
   |true=>aI b (K J (e.set t (Z (.f .bool J)))) (K aa (e.set t (Z (.f .bool aa))))
   |false=>aI b (K aa (e.set t (Z (.f .bool J)))) (K J (e.set t (Z (.f .bool aa)))))
  |some .undef=>K aa e
  |_=>U
def E_ (e:gM) (d:M Nat) (v:TV):gM:=match d with
 |none=>e
 |some d=>e.set d (Z v)
structure TS where
 e:gM
 h:a_
 nx:Nat
def Mt (con:FuncId->M cu) (b9:TypeId->M Ty):Y o9->TS->Y Vi->(TS->Y Vi->M R)->M R
 |[],s,c,K=>K s c.reverse
 |o::r,s,c,K=>ac8 s.e o.guard λrun e=>match run with
  |true=>opK con b9 o.op e s.h s.nx λv rd q h nx=>if Mv h v then Mt con b9 r ⟨E_ e o.dst v,h,nx⟩ (⟨rd,q⟩::c) K else U
  |false=>Mt con b9 r ⟨E_ e o.dst .undef,s.h,s.nx⟩ (⟨0,0⟩::c) K
inductive Adj where
 |nil (k:Nat) (ty:TypeId) (T:Ty)
 |qc (k:Nat) (off:Nat) (ty:TypeId) (T:Ty)
 |mpt (k:Nat) (K V:Ty)
 |pk (k:Nat) (off:Nat) (T:Ty)
 |qx (k:Nat) (off:Nat)
 |fmp (k off:Nat) (ty:TypeId) (S:Ty)
 |frw (k off off2:Nat) (ty:TypeId)
 |tak (k off:Nat)
mutual
def Mq (id sz n:Nat):TV->TV
 |.qk i s m=>if ay i id&&ay s sz&&ay m n then .G id else .qk i s m
 |.agg l=>.agg (Gd id sz n l)
 |.qb l=>.qb (Gd id sz n l)
 |.qy g l=>.qy g (Gd id sz n l)
 |.f T v=>.f T v
 |.zw T xs j h off=>.zw T xs j h off
 |.qr a b c d=>.qr a b c d
 |.H a b=>.H a b
 |.G a=>.G a
 |.zp a j=>.zp a j
 |.qh T xs=>.qh T xs
 |.sb s=>.sb s
 |.emp=>.emp
 |.nil=>.nil
 |.mp a=>.mp a
 |.undef=>.undef
 |.np=>.np
 |.qv=>.qv
def Gd (id sz n:Nat):Y TV->Y TV
 |[]=>[]
 |x::r=>Mq id sz n x::Gd id sz n r
end
def VR (id sz n:Nat):eC->eC
 |.C ty l=>.C ty (Gd id sz n l)
 |.F ty p T xs=>.F ty p T xs
 |.qj p s m=>.qj p s m
 |.mp K V es=>.mp K V es
 |.qw F a x=>.qw F a x
 |.qm F a x k p=>.qm F a x k p
def ar1 (s:TS) (k off:Nat):M (Nat×n!):=match s.e.get k with
 |some (.qk id sz n)=>Z (id,sz,n)
 |some (.agg l)=>(match l[off]? with|some (.qk id sz n)=>Z (id,sz,n)|_=>U)
 |some (.H a o)=>(match s.h.get a with
  |some (.C (Z _) l)=>(match l[o+off]? with|some (.qk id sz n)=>Z (id,sz,n)|_=>U)
  |_=>U)
 |_=>U
def pkS (s:TS) (T:Ty) (id sz n:Nat):M TS:=match s.h.get id with
 |some (.C (Z ty) l)=>if ay sz T.size then (match BK s.h T n l with
  |some (xs,m)=>if aC m id then U else Z ⟨PT.updI (λ_ v=>Mq id sz n v) 1 0 s.e,(PT.updI (λ_ b=>VR id sz n b) 1 0 (dI m s.h)).set id (Z (.F ty aa T xs)),s.nx⟩
  |none=>U) else U
 |_=>U
def adz:TV->Bool
 |.nil=>J
 |.emp=>J
 |_=>aa
def al7:M TV->M n!
 |some (.H id o)=>Z (id,o)
 |some (.qk id _ _)|some (.mp id)=>Z (id,0)
 |_=>U
def aeu (s:TS) (k off:Nat):M Nat:=match s.e.get k with
 |some (.mp id)|some (.G id)=>Z id
 |some (.H b o)=>(match s.h.get b with
  |some (.C (Z _) l)=>(match l[o+off]? with|some (.mp id)=>Z id|some (.G id)=>Z id|_=>U)
  |_=>U)
 |_=>U
def shf (n:Nat) (j:Int):Int:=if db j.toNat n then j else bC (j.toNat+1)
def Zw (n:Nat) (es:Y r?):Y r?:=es.map λe=>(e.1,shf n e.2)
def ZJ (k:ν) (v:Int):Y r?->Y r?
 |[]=>[(k,v)]
 |e::r=>match keq k e.1 with|true=>(k,v)::r|false=>e::ZJ k v r
def rnX (len:Nat):(F:sU)->F.ty.den->F.ty.den
 |.zk _,c=>gD (shf len) c
 |.zg,es=>Zw len es
 |_,x=>x
def aqp:sU->Bool
 |.zk _=>J
 |.zg=>J
 |_=>aa
def rnF (a n len:Nat):eC->eC
 |.qw F b x=>if aqp F&&ay b a then .qw F n (rnX len F x) else .qw F b x
 |b=>b
def ai3:M eC->M (Y c!)
 |some (.mp (.int .i64) .bool es)=>Z es
 |some (.mp .un .un [])=>Z []
 |_=>U
def acj (s:TS) (o a p:Nat) (kk:ν) (es:Y r?):M TS:=match s.h.get a,s.h.get p with
 |some (.qw (.ar ty S) _ xs),Z (.C (Z ty') l)=>if ty'==ty then (match fh s.h 40 S l with
  |some (z,m,[.mp m1,.mp m2])=>(match ai3 (s.h.get m1),ai3 (s.h.get m2) with
   |some e1,Z e2=>if ay m 0&& !(ay m1 m2) then
     Z ⟨s.e,((((((PT.updI (λ_ b=>rnF a s.nx (ah (α:=AM S) xs) b) 1 0 s.h).set o (Z (.qw .zg s.nx (ZJ kk (bC (ah (α:=AM S) xs)) (Zw (ah (α:=AM S) xs) es))))).set a (Z (.qj J 0 0))).set p (Z (.qj J 0 0))).set m1 (Z (.qj J 0 0))).set m2 (Z (.qj J 0 0))).set s.nx (Z (.qw (.ar ty S) 0 (O5 (α:=AM S) xs [(z,e1,e2)]))),s.nx+1⟩ else U
   |_,_=>U)
  |_=>U) else U
 |_,_=>U
def amc (s:TS) (o a r n:Nat) (j:Int) (ty:TypeId) (z:Nat) (c:η):M TS:=match s.h.get a,s.h.get r with
 |some (.qw (.ir ty2 T) _ xss),Z (.F ty3 p S xs)=>(match tG (S:=.sl S) (.sl T) xs with
  |some xs'=>if ty3==ty2 then
    Z ⟨s.e,(((s.h.set o (Z (.qw (.rr ty z) s.nx (AU (α:=Int) c j.toNat (bC n))))).set a (Z (.qj J 0 0))).set r (Z (.qj p S.size (ah xs)))).set s.nx (Z (.qw (.ir ty2 T) 0 (E9 (T:=T) xss j xs'))),s.nx+1⟩ else U
  |none=>U)
 |_,_=>U
def ae1 (F:sU):Bool:=ay (F.aid 1) 0
def rnG (a n:Nat):eC->eC
 |.qw F b x=>if !(ae1 F)&&ay b a then .qw F n x else .qw F b x
 |b=>b
def amf (s:TS) (a:Nat):M TS:=match s.h.get a with
 |some (.qw F _ x)=>if ae1 F then Z ⟨s.e,((PT.updI (λ_ b=>rnG a s.nx b) 1 0 s.h).set a (Z (.qj J 0 0))).set s.nx (Z (.qw F 0 x)),s.nx+1⟩ else U
 |_=>U
def ama (s:TS) (o:Nat):M TS:=match s.h.get o with
 |some (.qm .zg a es kk (Z (p,aa,0)))=>acj s o a p kk es
 |some (.qm (.rr ty z) a c kk (Z (r,J,n)))=>amc s o a r n kk.1 ty z c
 |some (.qw F a _)=>if ae1 F then U else amf s a
 |_=>U
def Iq (s:TS):Adj->M TS
 |.nil k ty T=>match s.e.get k with
  |some v=>if adz v then Z ⟨s.e.set k (Z (.G s.nx)),s.h.set s.nx (Z (.F ty J T [])),s.nx+1⟩ else Z s
  |none=>U
 |.qc k off ty T=>match al7 (s.e.get k) with
  |some (id,o)=>(match s.h.get id with
   |some (.C cty l)=>(match l[o+off]? with
    |some v=>if adz v then Z ⟨s.e,(s.h.set s.nx (Z (.F ty J T []))).set id (Z (.C cty (splice l (o+off) [.G s.nx]))),s.nx+1⟩ else Z s
    |none=>U)
   |_=>U)
  |_=>U
 |.mpt k K V=>match s.e.get k with
  |some (.mp id)=>(match s.h.get id with
   |some (.mp K' V' es)=>(match mpE K' V' es&&V9 K with
    |true=>Z ⟨s.e,s.h.set id (Z (.mp K V [])),s.nx⟩
    |false=>Z s)
   |_=>U)
  |_=>U
 |.pk k off T=>match ar1 s k off with
  |some (id,sz,n)=>pkS s T id sz n
  |none=>U
 |.qx k off=>match s.e.get k with
  |some (.H b o)=>(match s.h.get b with
   |some (.C (Z cty) l)=>(match l[o+off]? with
    |some (.G id)=>(match s.h.get id with
     |some (.F ty p T xs)=>Z ⟨s.e,((s.h.set id (Z (.qj p T.size (l! xs)))).set s.nx (Z (.F ty p T xs))).set b (Z (.C (Z cty) (splice l (o+off) [.G s.nx]))),s.nx+1⟩
     |some (.qw (.zk ty) a c)=>Z ⟨s.e,((s.h.set id (Z (.qj J 1 (ah (α:=Int) c)))).set s.nx (Z (.qw (.zk ty) a c))).set b (Z (.C (Z cty) (splice l (o+off) [.G s.nx]))),s.nx+1⟩
     |_=>U)
    |_=>U)
   |_=>U)
  |some (.G id)=>(match s.h.get id with
   |some (.F ty p T xs)=>Z ⟨s.e.set k (Z (.G s.nx)),(s.h.set id (Z (.qj p T.size (l! xs)))).set s.nx (Z (.F ty p T xs)),s.nx+1⟩
   |_=>U)
  |_=>U
 |.fmp k off ty S=>match aeu s k off with
  |some id=>(match s.h.get id with
   |some (.mp K' V' es)=>if mpE K' V' es then Z ⟨s.e,(s.h.set id (Z (.qw .zg s.nx []))).set s.nx (Z (.qw (.ar ty S) 0 [])),s.nx+1⟩ else U
   |some (.qw _ _ _)=>Z s
   |_=>U)
  |none=>U
 |.frw k off off2 ty=>match aeu s k off2,al7 (s.e.get k) with
  |some o,Z (id,q)=>(match s.h.get o,s.h.get id with
   |some (.qw .zg a _),Z (.C cty l)=>(match l[q+off]? with
    |some v=>if adz v then Z ⟨s.e,(s.h.set s.nx (Z (.qw (.zk ty) a []))).set id (Z (.C cty (splice l (q+off) [.G s.nx]))),s.nx+1⟩ else Z s
    |none=>U)
   |_,_=>U)
  |_,_=>U
 |.tak k off=>match aeu s k off with
  |some o=>ama s o
  |none=>U
def U0 (s:TS):Y Adj->M TS
 |[]=>Z s
 |a::r=>match Iq s a with|some s'=>U0 s' r|none=>U
structure Ann where
 ql:ι
 ks:ι
 t:Tm
 pre:List Adj
abbrev Ann.D (A:Ann):Type:=A.t.ty.den
mutual
def uI:TV->Bool
 |.f _ _=>J
 |.zw _ _ _ _ _=>J
 |.emp=>J
 |.nil=>J
 |.undef=>J
 |.np=>J
 |.qv=>J
 |.agg l|.qb l=>qT l
 |.qr _ _ _ _=>aa
 |.H _ _=>aa
 |.qk _ _ _=>aa
 |.G _=>aa
 |.zp _ _=>aa
 |.qh _ _=>aa
 |.sb _=>aa
 |.mp _=>aa
 |.qy _ _=>aa
def qT:Y TV->Bool
 |[]=>J
 |x::r=>uI x&&qT r
end
def DH (am:Nat) (e:gM):ι->gM
 |[]=>PT.leaf
 |k::r=>match e.get k with|some v=>if uI v&& !(aC am k) then (DH am e r).set k (Z v) else DH am e r|none=>DH am e r
def jF (e:gM):ι->M (Y TV)
 |[]=>Z []
 |k::r=>match e.get k with|some v=>(match jF e r with|some l=>Z (v::l)|none=>U)|none=>U
def Zx (e:gM):ι->Y TV->gM
 |k::r,v::l=>(Zx e r l).set k (Z v)
 |_,_=>e
def IU (am:Nat) (e0 e:gM):ι->Bool
 |[]=>J
 |k::r=>(match e0.get k with
  |some v=> !(uI v)||aC am k||(match e.get k with|some _=>J|none=>aa)
  |none=>J)&&IU am e0 e r
def MY (np:Nat) (A:Ann) (am:Nat) (c s:TS):M A.D:=if dc np (l! A.t.bs)&&IU am c.e s.e A.ql then (match U0 s A.pre with
 |some s=>(match jF s.e A.ks with
  |some vs=>(match CJ np A.t vs s.h with
   |some ⟨x,_,_,_⟩=>Z x
   |none=>U)
  |none=>U)
 |none=>U) else U
def HQ (A:Ann) (am:Nat) (s:TS) (x:A.D):M TS:=match BQ A.t x with
 |some (vs,h)=>if ay (l! vs) (l! A.ks) then Z ⟨Zx (DH am s.e A.ql) A.ks vs,h,l! A.t.bs⟩ else U
 |none=>U
inductive TC where
 |skip
 |jw (ops:List o9) (prs:List (Nat×Nat))
 |seq (a b:TC)
 |zl (A:Ann) (a b:TC)
 |cond (c:Nat) (a b:TC)
 |block (id:Nat) (b:TC)
 |zj (A:Ann) (id:Nat) (b:TC)
 |loop (A:Ann) (b:TC)
 |exit (id:Nat)
 |ret
 |defer (f:FuncId) (caps:List Operand) (t:Nat)
 |adj (l:List Adj) (c:TC)
 |split (k off lo n:Nat) (c:TC)
 |bsp (t:Nat) (a b:TC)
 |unl (n:Nat) (b:TC)
 |zh
def Ra:Y o9->Nat->Nat
 |[],acc=>acc
 |o::r,acc=>Ra r (match o.dst with|some d=>acc|||fT d|none=>acc)
def Mx:ι->Nat->Nat
 |[],acc=>acc
 |k::r,acc=>Mx r (acc|||fT k)
def lW:Y Adj->Nat->Nat
 |[],acc=>acc
 |.nil k _ _::r,acc=>lW r (acc|||fT k)
 |.qc _ _ _ _::r,acc|.mpt _ _ _::r,acc|.pk _ _ _::r,acc=>lW r acc
 |.qx k _::r,acc=>lW r (acc|||fT k)
 |.fmp _ _ _ _::r,acc|.frw _ _ _ _::r,acc|.tak _ _::r,acc=>lW r acc
def TC.asg:TC->Nat->Nat
 |.jw ops _,acc=>Ra ops acc
 |.seq a b,acc=>b.asg (a.asg acc)
 |.zl A a b,acc=>b.asg (a.asg (Mx A.ks acc))
 |.cond _ a b,acc=>b.asg (a.asg acc)
 |.block _ b,acc=>b.asg acc
 |.zj A _ b,acc|.loop A b,acc=>b.asg (Mx A.ks acc)
 |.defer _ _ t,acc=>acc|||fT t
 |.adj l c,acc=>c.asg (lW l acc)
 |.split _ _ _ _ c,acc=>c.asg acc
 |.bsp _ a b,acc=>b.asg (a.asg acc)
 |.unl _ b,acc=>b.asg acc
 |.skip,acc|.exit _,acc|.ret,acc|.zh,acc=>acc
inductive agf where
 |j (A:Ann)
 |a (l:List Adj)
 |s (k off lo n:Nat)
 |b (t k off lo n:Nat)
 |u (n:Nat)
def Jb (H:PT agf) (n:Nat) (c:TC):TC:=match H.get n with|some (.a l)=>.adj l c|some (.s k off q m)=>.split k off q m c|some (.b t k off q m)=>.bsp t (.split k off q m c) c|_=>c
def FK (H:PT agf):SC->Nat->TC×Nat
 |.skip,n=>(Jb H n .skip,n+1)
 |.jw o p,n=>(Jb H n (.jw o p),n+1)
 |.seq a b,n=>match FK H a (n+1) with
  |(q,k)=>(match FK H b k with|(b',z)=>((match H.get n with|some (.j A)=>.zl A q b'|_=>.seq q b'),z))
 |.cond c a b,n=>match FK H a (n+1) with
  |(q,k)=>(match FK H b k with|(b',z)=>(Jb H n (.cond c q b'),z))
 |.block id b,n=>match FK H b (n+1) with|(b',k)=>((match H.get n with|some (.j A)=>.zj A id b'|_=>.block id b'),k)
 |.loop b,n=>match FK H b (n+1) with|(b',k)=>((match H.get n with|some (.j A)=>.loop A b'|some (.u m)=>.unl m b'|_=>.zh),k)
 |.exit id,n=>(Jb H n (.exit id),n+1)
 |.ret,n=>(Jb H n .ret,n+1)
 |.defer f c t,n=>(.defer f c t,n+1)
 |.zh,n=>(.zh,n+1)
def ae5 (s:TS) (k off:Nat):M (IntKind×Int):=match s.e.get k with
 |some (.f (.int kd) v)=>Z (kd,v)
 |some (.H a o)=>(match s.h.get a with
  |some (.C (Z _) l)=>(match l[o+off]? with|some (.f (.int kd) v)=>Z (kd,v)|_=>U)
  |_=>U)
 |_=>U
def VV (s:TS) (k off:Nat) (kd:IntKind) (v:Int):M TS:=match s.e.get k with
 |some (.f (.int _) _)=>Z ⟨s.e.set k (Z (.f (.int kd) v)),s.h,s.nx⟩
 |some (.H a o)=>(match s.h.get a with
  |some (.C (Z ty) l)=>Z ⟨s.e,s.h.set a (Z (.C (Z ty) (splice l (o+off) [.f (.int kd) v]))),s.nx⟩
  |_=>U)
 |_=>U
def spl (v:Int) (f:Nat->M R):Nat->Nat->M R
 |_,0=>U
 |i,m+1=>aI (decide ((v:Int)=bC i)) (f i) (spl v f (i+1) m)
def ah2 (f:TS->(Ex->TS->M R)->M R):Nat->TS->(Ex->TS->M R)->M R
 |0,_,_=>U
 |m+1,s,K=>f s λex s'=>match ex with
  |.normal=>ah2 f m s' K
  |ex=>K ex s'
def nQ {R:Type} (np:Nat) (con:FuncId->M cu) (b9:TypeId->M Ty) (inert:FuncId->Bool):TC->TS->(Ex->TS->M R)->M R
 |.skip,s,K=>K .normal s
 |.jw ops prs,s,K=>Mt con b9 ops s [] λs' z=>if zL z prs then K .normal s' else U
 |.seq a b,s,K=>nQ np con b9 inert a s λex s'=>match ex with|.normal=>nQ np con b9 inert b s' K|ex=>K ex s'
 |.zl A a b,s,K=>jn (nQ np con b9 inert a s λex s'=>match ex with
   |.normal=>aw (MY np A (a.asg 0) s s') λx=>Z (.inr x)
   |ex=>aw (K ex s') λr=>Z (.inl r)) λx=>(match HQ A (a.asg 0) s x with|some s'=>nQ np con b9 inert b s' K|none=>U)
 |.cond c a b,s,K=>match s.e.get c with
  |some (.f .bool t)=>aI t (nQ np con b9 inert a s K) (nQ np con b9 inert b s K)
  |some .qv=>FX (nQ np con b9 inert a s K) (nQ np con b9 inert b s K)
  |_=>U
 |.block id b,s,K=>nQ np con b9 inert b s λex s'=>match ex with
  |.exit i=>if ay i id then K .normal s' else K (.exit i) s'
  |ex=>K ex s'
 |.zj A id b,s,K=>jn (nQ np con b9 inert b s λex s'=>match ex with
   |.normal=>aw (MY np A (b.asg 0) s s') λx=>Z (.inr x)
   |.exit i=>if ay i id then aw (MY np A (b.asg 0) s s') λx=>Z (.inr x) else aw (K (.exit i) s') λr=>Z (.inl r)
   |.ret=>aw (K .ret s') λr=>Z (.inl r)) λx=>(match HQ A (b.asg 0) s x with|some s'=>K .normal s'|none=>U)
 |.loop A b,s,K=>aw (MY np A (b.asg 0) s s) λx=>iter (λx=>match HQ A (b.asg 0) s x with
   |some s'=>nQ np con b9 inert b s' λex s'=>(match ex with
    |.normal=>aw (MY np A (b.asg 0) s s') λy=>Z (.inl y)
    |ex=>aw (K ex s') λr=>Z (.inr r))
   |none=>U) x
 |.exit id,s,K=>K (.exit id) s
 |.ret,s,K=>K .ret s
 |.defer f _ t,s,K=>if inert f then K .normal ⟨s.e.set t U,s.h,s.nx⟩ else U
 |.adj l c,s,K=>match U0 s l with|some s'=>nQ np con b9 inert c s' K|none=>U
 |.split k off q n c,s,K=>match ae5 s k off with
  |some (kd,v)=>spl v (λi=>match VV s k off kd (bC i) with|some s'=>nQ np con b9 inert c s' K|none=>U) q n
  |none=>U
 |.bsp t a b,s,K=>match s.e.get t with
  |some (.f .bool v)=>aI v (nQ np con b9 inert a ⟨s.e.set t (Z (.f .bool J)),s.h,s.nx⟩ K) (nQ np con b9 inert b ⟨s.e.set t (Z (.f .bool aa)),s.h,s.nx⟩ K)
  |_=>U
 |.unl n b,s,K=>ah2 (λs K=>nQ np con b9 inert b s K) n s K
 |.zh,_,_=>U
def LU:Nat->Y TV->gM
 |_,[]=>PT.leaf
 |k,x::r=>(LU (k+1) r).set k (Z x)
def rvT (s:TS):RV->M TV
 |.tmp t=>s.e.get t
 |.cell a sz c=>match s.e.get a with
  |some (.H id off)=>(match s.h.get id with|some (.C (Z _) l)=>VQ l off sz c|_=>U)
  |_=>U
def RG (s:TS):Y RV->M (Y TV)
 |[]=>Z []
 |x::r=>match rvT s x with|some v=>(match RG s r with|some l=>Z (v::l)|none=>U)|none=>U
structure FT where
 pre:Tm
 post:Tm
 hints:PT agf
def aqx (D:FT):Y Adj:=match D.hints.get 60000 with
 |some (.a l)=>l
 |_=>[]
def aci (con:FuncId->M cu) (b9:TypeId->M Ty) (inert:FuncId->Bool) (F:M SF) (D:FT) (x:D.pre.ty.den):M D.post.ty.den:=
 match F with
 |some c=>(match BQ D.pre x with
  |some (args,h)=>if dc (l! args) c.nt&&dc (l! D.pre.bs) (l! D.post.bs) then
    nQ (l! D.pre.bs) con b9 inert (FK D.hints c.code 0).1 ⟨LU 0 args,h,l! D.pre.bs⟩ λex s=>(match ex with
    |.exit _=>U
    |_=>(match U0 s (aqx D) with
     |some s=>(match RG s c.res with
      |some l=>(match CJ (l! D.pre.bs) D.post l s.h with
       |some ⟨y,_,_,_⟩=>(match BQ D.post y with|some _=>Z y|none=>U)
       |none=>U)
      |none=>U)
     |none=>U)) else U
  |none=>U)
 |none=>U
def dL {u:Value} (h:cm V O w (.f (.raw v)) u):u=v:=by
 cases h with
 |f h=>cases h;rfl
def sk (h:HF) (c:HF):dZ h [] c=h:=by funext t;simp[dZ]
def HG:∀{l:ξ},LL l=J->∀v∈l,v.oneCell'=J
 |[],_,v,c=>by cases c
 |x::r,h,v,c=>by
  simp[LL,al]at h;rcases bB.1 c with rfl|c
  .exact h.1
  .exact HG h.2 v c
def XA (v:Value):cm V O w (FQ v) v:=by
 unfold FQ;split
 .rename_i vs;split
  .rename_i h1;refine cm.agg (vs:=vs.toList) (by simp) (λx c=>?_) (λj x v c q=>?_)
   .obtain⟨u,z,rfl⟩:=bR.1 c;exact HG h1 u z
   .rw[bM,q]at c;simp[bw,af]at c;subst c;exact .f (.raw _)
  .exact .f (.raw _)
 .exact .f (.raw _)
def pq {e:ve} {xs:Array Operand} (hrep:oM V O S w) (h:∀t,.tmp t∈xs->∀y,e.get t=Z y->cm V (tot O V S) w y (Q.tmps.getD t undef)) {x:Operand} (z:x∈xs) (c:kc e x=Z y):cm V (tot O V S) w y (Q.eval x):=by
 cases x with
 |tmp t=>exact h t z y c
 |const v=>simp[kc,af]at c;subst c;exact XA v
 |func g=>
  simp[kc,af]at c;subst c;exact cm.qy (vs:=[]) (g:=g) (cells:=[]) rfl (by simp)
 |global g=>
  simp[kc]at c;cases q:G g with
  |none=>rw[q]at c;cases c
  |some cells=>rw[q]at c;simp[af]at c;subst c;exact .f (hrep.gl g cells q)
abbrev OT (φ:PM) (E:Nat->Prop) (h':HF) (w:World) (a:Act) (e:ve) (o:Oper):Prop:=∀x y,x∈o.op.operands->kc e x=Z y->cm φ (tot E φ h') w y (a.eval x)
def ft.reads {e:ve} {rd:ι} {q:HF}
 (D:∀(φ:PM) (E:Nat->Prop) (h':HF) (w:World) (a:Act),(∀i∈rd,h' i=S i)->OT φ E h' w a e k->oM φ E h' w->
   ∃v,(execOp a.eval k).run P w= .ok (.value v) w/\cm φ (tot E φ h') w y v):ft P k e.get S ⟨y,rd,[],q,[]⟩:=by
 intro φ E h' w a h1 N F c I;let⟨v,r,rel⟩:=D φ E h' w a h1 (λx val A z=>pq c F A z) c;unfold vp;rw[r];refine ⟨v,φ,rfl,?_,λ_ _ S=>.inl S,?_,?_⟩<;>rw[sk]
 .exact gR.refl _ _ _
 .exact c
 .exact rel
def c6 {R:yf} (h:rv y=Z R):R=⟨y,[],[],[],[]⟩:=by simp only[rv,af]at h;exact h.symm
section pure
variable {P:Program} {o:Oper} {e:ve} {h:gy} {nx:Nat} {R:yf}
variable {c:Operand}
def ard (x:o.op= .move c\/o.op= .assign c) (q:dk (.mv c) e h nx=Z R):ft P o e.get h.get R.eff:=by
 simp[dk]at q;split at q
 next v z=>rw[c6 q];exact ft.reads λφ E h' w a _ hop _=>⟨a.eval c,by unfold execOp;rcases x with x|x<;>rw[x]<;>rfl,hop c v (by rcases x with x|x<;>rw[x]<;>simp[Op.operands]) z⟩
 .cases q
def ant {x y:Operand} (z:o.op= .pick c x y) (q:dk (.pick c x y) e h nx=Z R):ft P o e.get h.get R.eff:=by
 simp[dk]at q;split at q
 .rename_i t D;split at q
  .rename_i v A;rw[c6 q];refine ft.reads λφ E h' w a _ hop _=>?_
   have hcv:=dL (hop c _ (by rw[z];simp[Op.operands]) D);refine ⟨a.eval (if t then x else y),?_,hop _ v (by rw[z];cases t<;>simp[Op.operands]) A⟩;unfold execOp;rw[z];simp[hcv];cases t<;>rfl
  .cases q
 .cases q
def anu (x:o.op= .nilCheck c) (q:dk (.zr c) e h nx=Z R):ft P o e.get h.get R.eff:=by
 simp[dk]at q;split at q
 .rename_i id off D;rw[c6 q];refine ft.reads λφ E h' w a _ hop _=>?_
  have h1:=hop c _ (by rw[x];simp[Op.operands]) D;generalize A:a.eval c=z at h1;cases h1 with
  |H hφ=>exact⟨_,by unfold execOp;rw[x];simp only[A];rfl,.H hφ⟩
 .rename_i cells off D;rw[c6 q];refine ft.reads λφ E h' w a _ hop _=>?_
  have h1:=hop c _ (by rw[x];simp[Op.operands]) D;generalize A:a.eval c=z at h1;cases h1 with
  |f h1=>
   have N:=h1;cases N with
   |H _ _ b base us hO hb hcl hu F=>exact⟨_,by unfold execOp;rw[x];simp only[A];rfl,.f h1⟩
 .rename_i g cap D;rw[c6 q];refine ft.reads λφ E h' w a _ hop _=>?_
  have h1:=hop c _ (by rw[x];simp[Op.operands]) D;generalize A:a.eval c=z at h1;cases h1 with
  |qy I F=>exact⟨_,by unfold execOp;rw[x];simp only[A];rfl,.qy I F⟩
 .cases q
variable {s:TypeId}
def arb (q:o.op= .unOp .not s c) (x:dk (.not c) e h nx=Z R):ft P o e.get h.get R.eff:=by
 simp[dk]at x;split at x
 .rename_i b z;rw[c6 x];refine ft.reads λφ E h' w a _ hop _=>?_
  have h1:=dL (hop c _ (by rw[q];simp[Op.operands]) z);exact⟨_,by unfold execOp;rw[q];simp[h1];rfl,.f (.raw _)⟩
 .cases x
def wh (k:IntKind) (n:Int):aZ k n=k.wrap n:=by
 rw[IA];unfold Rp;split
 .split
  .rename_i h;simp[cZ,al,bG]at h;have:kW .i64 n=if n%18446744073709551616≥9223372036854775808 then n%18446744073709551616-18446744073709551616 else n%18446744073709551616:=by
    simp[kW,IntKind.bits,IntKind.signed]
   rw[this];split<;>omega
  .rfl
 .split
  .rename_i h;simp[cZ,al,bG]at h;have:kW .u8 n=n%256:=by
    simp[kW,IntKind.bits,IntKind.signed]
   omega
  .rfl
 .rfl
def ao3 {d:TypeId} {k z:IntKind} (q:o.op= .convert s d c) (D:P.underlying s=Z (.int z)) (hd:P.underlying d=Z (.int k)) (x:dk (.conv k c) e h nx=Z R):ft P o e.get h.get R.eff:=by
 simp[dk]at x;split at x
 .rename_i kk n A;rw[c6 x];refine ft.reads λφ E h' w a _ hop _=>?_
  have h1:=dL (hop c _ (by rw[q];simp[Op.operands]) A);refine ⟨_,?_,.f (.raw _)⟩;unfold execOp;rw[q];simp[h1,convert,run_underlying D,run_underlying hd,Conv.intToInt,wh]
 .cases x
def Q7 (a:ByteArray):a.toList=a.data.toList:=by
 first|exact ByteArray.toList_eq a|simp[ByteArray.toList]|rfl
def act {op:BinOp} {t:TypeId} {u r:Value} (c:vn op u v=Z r) (x y:Operand) (w:World):
 (do eqGuard op t x y u v;binOp op t u v:Sem Value).run P w= .ok r w:=by
 unfold vn at c;split at c
 .rename_i k a A b;split at c
  .rename_i D;have q:k=A:=by grind
   subst q;split at c<;>first|(simp [af]at c;subst c;simp[eqGuard,binOp,Op.intCmp,Op.intArith,Op.intBits,aic,wh,cZ,fV];done)|(split at c<;>first|(cases c;done)|(rename_i z;simp[af]at c;subst c;simp[eqGuard,binOp,Op.intDiv,wh,show b≠0 from by simpa using z];done))|(split at c<;>first|(cases c;done)|(rename_i z;simp only[cZ,bG]at z;cases c;simp[eqGuard,binOp,Op.shift,wh,show ¬b<0 by omega];done))|(cases c;done)
  .cases c
 next a b=>split at c<;>first|(simp [af]at c;subst c;simp[eqGuard,binOp,Op.stringOp,sg,Q7];done)|(cases c;done)
 .cases c
def al4 {s:Sem Value} {w':World} (c:s.run P w= .ok v w'):(do let x<-s;pure (Next.value x):Sem Next).run P w= .ok (.value v) w':=by
 simp[c]
def alw {op:BinOp} {y:Operand} {z:TypeId} (q:o.op= .binOp op s c y z) (x:dk (.bin op c y) e h nx=Z R):ft P o e.get h.get R.eff:=by
 simp[dk]at x;split at x
 .rename_i u v D A;split at x
  .rename_i r F;rw[c6 x];refine ft.reads λφ E h' w a _ hop _=>?_
   have h1:=dL (hop c _ (by rw[q];simp[Op.operands]) D);have I:=dL (hop y _ (by rw[q];simp[Op.operands]) A);refine ⟨r,?_,.f (.raw _)⟩;unfold execOp;rw[q];simp only[h1,I];exact al4 (act (P:=P) (t:=s) F c y w)
  .cases x
 .cases x
def WX (c:P.underlying s=Z .bool) (u v:Bool) (w:World):(Op.equal s (.bool u) (.bool v)).run P w= .ok (u==v) w:=by
 have key:∀d,(Op.equalIn (d+1) s (.bool u) (.bool v)).run P w= .ok (u==v) w:=λd=>by simp[Op.equalIn,run_underlying c]
 exact key 9999
def Tv {z:TypeId} (q:P.underlying s=Z (.slice z)) (A:M Addr) (n c:Nat) (w:World):(Op.equal s (.slice A n c) (.slice U 0 0)).run P w= .ok A.isNone w:=by
 have key:∀d,(Op.equalIn (d+1) s (.slice A n c) (.slice U 0 0)).run P w= .ok A.isNone w:=λd=>by cases A<;>simp[Op.equalIn,run_underlying q]
 exact key 9999
def alv {neg:Bool} {op:BinOp} {y:Operand} {z:TypeId} (q:o.op= .binOp op s c y z) (hop:op=if neg then .neq else .eql) (F:P.underlying s=Z .bool) (x:dk (.xq neg c y) e h nx=Z R):ft P o e.get h.get R.eff:=by
 simp[dk]at x;split at x
 .rename_i u v D A;rw[c6 x];refine ft.reads λφ E h' w a _ hp _=>?_
  have h1:=dL (hp c _ (by rw[q];simp[Op.operands]) D);have I:=dL (hp y _ (by rw[q];simp[Op.operands]) A);refine ⟨_,?_,.f (.raw _)⟩;unfold execOp;rw[q];simp[h1,I];subst hop;cases neg<;>simp[eqGuard,binOp,WX F]
 .cases x
def Zi {neg:Bool} {op:BinOp} {y:Operand} {t' el:TypeId} (I:o.op= .binOp op s c y t') (hop:op=if neg then .neq else .eql) (hy:y= .const (.slice U 0 0)) (hu:P.underlying s=Z (.slice el)) (D:dk (.zm neg c) e h nx=Z R):ft P o e.get h.get R.eff:=by
 have key:∀(v:Value) (w:World) (ρ:Operand->Value) (A:M Addr) (n x:Nat),ρ c= .slice A n x->ρ y= .slice U 0 0->(execOp ρ o).run P w= .ok (.value (.bool (A.isNone !=neg))) w:=by
  intro v w ρ A n x h1 h2;unfold execOp;rw[I];simp[h1,h2];subst hop;cases neg<;>simp[eqGuard,binOp,Tv hu]
 have hyv:∀a:Act,a.eval y= .slice U 0 0:=λa=>by rw[hy];rfl
 simp[dk]at D;split at D
 .rename_i id sz n q;rw[c6 D];refine ft.reads λφ E h' w a _ hp _=>?_
  have h1:=hp c _ (by rw[I];simp[Op.operands]) q;generalize F:a.eval c=z at h1;cases h1 with
  |G hφ hn hc hs=>exact⟨_,key (.bool J) w a.eval _ _ _ F (hyv a),by simpa[raw] using cm.f (.raw _)⟩
 .rename_i id off n q;rw[c6 D];refine ft.reads λφ E h' w a _ hp _=>?_
  have h1:=hp c _ (by rw[I];simp[Op.operands]) q;generalize F:a.eval c=z at h1;cases h1 with
  |sl hφ hn hc=>exact⟨_,key (.bool J) w a.eval _ _ _ F (hyv a),by simpa[raw] using cm.f (.raw _)⟩
 .rename_i cells n q;rw[c6 D];refine ft.reads λφ E h' w a _ hp _=>?_
  have h1:=hp c _ (by rw[I];simp[Op.operands]) q;generalize F:a.eval c=z at h1;cases h1 with
  |f h1=>
   cases h1 with
   |sl=>exact⟨_,key (.bool J) w a.eval _ _ _ F (hyv a),by simpa[raw] using cm.f (.raw _)⟩
 .rename_i cells q;rw[c6 D];refine ft.reads λφ E h' w a _ hp _=>?_
  have h1:=hp c _ (by rw[I];simp[Op.operands]) q;generalize F:a.eval c=z at h1;cases h1 with
  |f h1=>
   cases h1 with
   |_=>exact⟨_,key (.bool J) w a.eval _ _ _ F (hyv a),.qv⟩
 .rename_i q;rw[c6 D];refine ft.reads λφ E h' w a _ hp _=>?_
  have h1:=hp c _ (by rw[I];simp[Op.operands]) q;generalize F:a.eval c=z at h1;cases h1 with
  |emp=>exact⟨_,key (.bool J) w a.eval _ _ _ F (hyv a),.qv⟩
 .rename_i v q;split at D
  .rename_i N;rw[c6 D];refine ft.reads λφ E h' w a _ hp _=>?_
   have h1:=dL (hp c _ (by rw[I];simp[Op.operands]) q);unfold Bg at N;split at N
   .exact⟨_,key (.bool J) w a.eval _ _ _ h1 (hyv a),by simpa[raw] using cm.f (.raw _)⟩
   .cases N
  .cases D
 .cases D
def fw (c:fe P s=Z i) (w:World):(sizeOf s).run P w= .ok i w:=by
 unfold fe at c;cases hi:P.info? s with
 |none=>rw[hi]at c;cases c
 |some sz=>rw[hi]at c;simp at c;simp[sizeOf,typeInfo,program,hi,jZ,c]
def RI (c:EO P s=Z b) (w:World):(isAgg s).run P w= .ok b w:=by
 unfold EO at c;cases hi:P.underlying s with
 |none=>rw[hi]at c;cases c
 |some d=>
  rw[hi]at c;simp[bw,af]at c;rw[<- c];simp[isAgg,ec,run_underlying hi,cJ];cases d<;>rfl
def ij (b off i:Nat):(⟨b,off,U⟩:Addr).add i=⟨b,off+i,U⟩:=by
 unfold Addr.add;split<;>simp_all
variable {I:Array Field}
def RH {f:Field} (q:P.underlying s=Z (.struct I)) (hf:I[i]? =Z f) (z:fe P f.type=Z m) (h0:m≠0) (w:World) (b k:Nat):
 (Instr.fieldAt s (.pointer (Z ⟨b,k,U⟩)) i).run P w= .ok (.pointer (Z ⟨b,k+f.offset,U⟩)) w:=by
 have h1:=fw z w;simp[Instr.fieldAt,run_underlying q,hf,Ml,fieldPlace,h1,h0,ij]
def aro {f:Field} (F:o.op= .fieldAddr s c i) (D:P.underlying s=Z (.struct I)) (hf:I[i]? =Z f) (hs:fe P f.type=Z m) (h0:m≠0) (x:dk (.jm f.offset c) e h nx=Z R):ft P o e.get h.get R.eff:=by
 have key:∀(w:World) (ρ:Operand->Value) (b k:Nat),ρ c= .pointer (Z ⟨b,k,U⟩)->(execOp ρ o).run P w= .ok (.value (.pointer (Z ⟨b,k+f.offset,U⟩))) w:=by
  intro w ρ b k h1;unfold execOp;rw[F];simp only[h1];exact al4 (RH D hf hs h0 w b k)
 simp[dk]at x;split at x
 .rename_i id off A;rw[c6 x];refine ft.reads λφ E h' w a _ hp _=>?_
  have h1:=hp c _ (by rw[F];simp[Op.operands]) A;generalize q:a.eval c=z at h1;cases h1 with
  |H hφ=>exact⟨_,key w a.eval _ _ q,.H hφ⟩
 .rename_i cells off A;rw[c6 x];refine ft.reads λφ E h' w a _ hp _=>?_
  have h1:=hp c _ (by rw[F];simp[Op.operands]) A;generalize q:a.eval c=z at h1;cases h1 with
  |f h1=>
   cases h1 with
   |H _ _ b base N hO hb hcl D hr=>
    refine ⟨_,key w a.eval _ _ q,.f ?_⟩;rw[pL];exact .H cells _ b base N hO hb hcl D hr
 .cases x
def KC {q:TypeId} {y:Operand} {off n x:Nat} {k:IntKind} {sz:Int} {ρ:Operand->Value} (I:o.op= .indexAddr s c y) (D:P.underlying s=Z (.slice q)) (F:fe P q=Z i) (A:ρ c= .slice (Z ⟨m,off,U⟩) n x) (z:ρ y= .int k sz) (h0:0<=sz) (h1:sz<n):
 (execOp ρ o).run P w= .ok (.value (.pointer (Z ⟨m,off+sz.toNat*i,U⟩))) w:=by
 have N:=fw F w;unfold execOp;rw[I];simp[A,z,Instr.indexAt,asIntOf,run_underlying D,N,h0,h1,ij]
def arm {el:TypeId} {y:Operand} (F:o.op= .indexAddr s c y) (hu:P.underlying s=Z (.slice el)) (hs:fe P el=Z i) (q:dk (.jp i c y) e h nx=Z R):ft P o e.get h.get R.eff:=by
 simp[dk]at q;split at q
 .rename_i v k j hx hy;have hyv:∀{φ:PM} {E:Nat->Prop} {h':HF} {w:World} {a:Act},OT φ E h' w a e o->a.eval y= .int k j:=λhp=>dL (hp y _ (by rw[F];simp[Op.operands]) hy)
  split at q
  .split at q
   .rename_i id sz' n D;simp[cZ,fV,al,bG,cV]at D;obtain⟨⟨rfl,h0⟩,h1⟩:=D;rw[c6 q];refine ft.reads λφ E h' w a _ hp _=>?_
    have A:=hp c _ (by rw[F];simp[Op.operands]) hx;generalize I:a.eval c=z at A;cases A with
    |G hφ hn N hsh=>
     refine ⟨_,KC F hu hs I (hyv hp) h0 h1,?_⟩;rw[b6];exact .H hφ
   .cases q
  .split at q
   .rename_i id off n D;simp[cZ,fV,al,bG]at D;let⟨h0,h1⟩:=D;rw[c6 q];refine ft.reads λφ E h' w a _ hp _=>?_
    have A:=hp c _ (by rw[F];simp[Op.operands]) hx;generalize I:a.eval c=z at A;cases A with
    |sl hφ hn N=>exact⟨_,KC F hu hs I (hyv hp) h0 h1,.H hφ⟩
   .cases q
  .split at q
   .rename_i cells n D;simp[cZ,fV,al,bG]at D;let⟨h0,h1⟩:=D;rw[c6 q];refine ft.reads λφ E h' w a _ hp _=>?_
    have A:=hp c _ (by rw[F];simp[Op.operands]) hx;generalize I:a.eval c=z at A;cases A with
    |f A=>
     cases A with
     |nil=>omega
     |sl _ _ x b base us hn N hO hb hcl hu' hr'=>exact⟨_,KC F hu hs I (hyv hp) h0 h1,.f (.H cells _ b base us hO hb hcl hu' hr')⟩
   .cases q
  .cases q
 .cases q
def ao1 {el:TypeId} {y:Operand} (A:o.op= .indexAddr s c y) (hu:P.underlying s=Z (.array i el)) (hs:fe P el=Z m) (x:dk (.jv i m c y) e h nx=Z R):ft P o e.get h.get R.eff:=by
 have key:∀(w:World) (ρ:Operand->Value) (b off:Nat) (k:IntKind) (n:Int),ρ c= .pointer (Z ⟨b,off,U⟩)->ρ y= .int k n->0<=n->n<i->(execOp ρ o).run P w= .ok (.value (.pointer (Z ⟨b,off+n.toNat*m,U⟩))) w:=by
  intro w ρ b off k n h1 h2 h3 h4;have h5:=fw hs w;unfold execOp;rw[A];simp[h1,h2,Instr.indexAt,asIntOf,run_underlying hu,h5,h3,h4,ij,Ml]
 simp[dk]at x;split at x
 .rename_i v k j hx N;split at x
  .rename_i hc;simp[cZ,fV,al,bG]at hc;let⟨h0,h1⟩:=hc;split at x
   .rw[c6 x];refine ft.reads λφ E h' w a _ hp _=>?_
    have q:=hp c _ (by rw[A];simp[Op.operands]) hx;have hyv:=dL (hp y _ (by rw[A];simp[Op.operands]) N);generalize D:a.eval c=z at q;cases q with
    |H hφ=>exact⟨_,key w a.eval _ _ k j D hyv h0 h1,.H hφ⟩
   .rw[c6 x];refine ft.reads λφ E h' w a _ hp _=>?_
    have q:=hp c _ (by rw[A];simp[Op.operands]) hx;have hyv:=dL (hp y _ (by rw[A];simp[Op.operands]) N);generalize D:a.eval c=z at q;cases q with
    |f q=>
     cases q with
     |H _ _ b base us hO hb hcl F I=>
      refine ⟨_,key w a.eval _ _ k j D hyv h0 h1,.f ?_⟩;rw[pL];exact .H _ _ b base us hO hb hcl F I
   .cases x
  .cases x
 .cases x
def arp (A:o.op= .extract c i) (x:dk (.ext c i) e h nx=Z R):ft P o e.get h.get R.eff:=by
 simp[dk]at x;split at x
 .rename_i l F;split at x
  .rename_i v I;rw[c6 x];refine ft.reads λφ E h' w a _ hp _=>?_
   have q:=hp c _ (by rw[A];simp[Op.operands]) F;generalize D:a.eval c=z at q;cases q with
   |@qb _ vs N hrr=>
    have hlt:i<l! vs:=by grind
    refine ⟨vs[i],?_,hrr i v _ I (aH hlt)⟩;unfold execOp;rw[A];simp[D,Instr.extract,hlt]
  .cases x
 .cases x
def arj {y:Operand} {z:Array TypeId} (q:o.op= .call {callee:=.builtin .max,args:=#[c,y],argTypes:=z}) (x:dk (.max c y) e h nx=Z R):ft P o e.get h.get R.eff:=by
 simp[dk]at x;split at x
 .rename_i k a b I D A;rw[c6 x];refine ft.reads λφ E h' w a _ hp _=>?_
  have h1:=dL (hp c _ (by rw[q];simp[Op.operands,c9]) D);have F:=dL (hp y _ (by rw[q];simp[Op.operands,c9]) A);refine ⟨_,?_,.f (.raw _)⟩;unfold execOp;rw[q];simp[resolve,invoke,builtin,Builtin.max_,Builtin.max2,h1,F,fV]
 .cases x
def ari {y:Operand} {z:Array TypeId} (q:o.op= .call {callee:=.builtin .min,args:=#[c,y],argTypes:=z}) (x:dk (.min c y) e h nx=Z R):ft P o e.get h.get R.eff:=by
 simp[dk]at x;split at x
 .rename_i k a b I D A;rw[c6 x];refine ft.reads λφ E h' w a _ hp _=>?_
  have h1:=dL (hp c _ (by rw[q];simp[Op.operands,c9]) D);have F:=dL (hp y _ (by rw[q];simp[Op.operands,c9]) A);refine ⟨_,?_,.f (.raw _)⟩;unfold execOp;rw[q];simp[resolve,invoke,builtin,Builtin.min_,Builtin.min2,h1,F,fV]
 .cases x
def arc {k:IntKind} (A:o.op= .unOp .neg s c) (q:dk (.bin .sub (.const (.int k 0)) c) e h nx=Z R):ft P o e.get h.get R.eff:=by
 simp[dk,kc,FQ]at q;split at q
 .rename_i u v F D;cases F;split at q
  .rename_i r x;rw[c6 q];refine ft.reads λφ E h' w a _ hop _=>?_
   have h1:=dL (hop c _ (by rw[A];simp[Op.operands]) D);refine ⟨r,?_,.f (.raw _)⟩;unfold execOp;rw[A];cases v<;>simp only[vn]at x<;>try (cases x;done)
   split at x
   next z=>have z:=eq_of_beq z;subst z;simp[af]at x;subst x;simp[h1,Op.unary,Op.intArith,wh]
   .cases x
  .cases q
 .cases q
def ans {i:Operand} (q:o.op= .index s c i) (D:P.underlying s=Z .string) (x:dk (.jx c i) e h nx=Z R):ft P o e.get h.get R.eff:=by
 simp only[dk]at x;split at x
 .rename_i t k j A hi;split at x
  .rename_i h0;simp[cZ,bG]at h0;split at x
   .rename_i b z;rw[c6 x];refine ft.reads λφ E h' w a _ hop _=>?_
    have h1:=dL (hop c _ (by rw[q];simp[Op.operands]) A);have N:=dL (hop i _ (by rw[q];simp[Op.operands]) hi);refine ⟨_,?_,.f (.raw _)⟩;have F:t[j.toNat]? =Z b:=by
     rw[c8]at z;let⟨I,he⟩:=cR.1 z;exact getElem?_pos t j.toNat I▸iQ Z he
    unfold execOp;rw[q];simp[Instr.index,run_underlying D,h1,N,asIntOf,h0,F]
   .cases x
  .cases x
 .cases x
variable {f:FuncId}
def arh {caps:Array Operand} (A:o.op= .makeFunc (.func f) #[] caps) (q:dk (.mkf f caps.toList) e h nx=Z R):ft P o e.get h.get R.eff:=by
 simp[dk]at q;split at q
 .rename_i l D;rw[c6 q];refine ft.reads λφ E h' w a _ hp _=>?_
  refine ⟨_,by unfold execOp;rw[A];rfl,?_⟩;have key:∀(xs:Y Operand) (c:Y AV),(∀x∈xs,x∈o.op.operands)->YT e xs=Z c->l! c=l! xs/\∀(j:Nat) x v,c[j]? =Z x->(xs.map a.eval)[j]? =Z v->cm φ (tot E φ h') w x v:=by
   intro xs;induction xs with
   |nil=>intro c _ h;simp[YT,af]at h;subst h;exact⟨rfl,λj x v z=>by simp at z⟩
   |cons x xs ih=>
    intro c hm h;simp[YT]at h
    grind
  let⟨h1,N⟩:=key caps.toList l (λx z=>by rw[A];simpa[Op.operands] using z) D;have I:(caps.map a.eval)=(caps.toList.map a.eval).toArray:=by grind
  have F:(#[]:Array Operand).map a.eval=#[]:=by simp
  rw[F,I];exact .qy (by grind) N
 .cases q
end pure
section
variable {P:Program} {o:Oper} {e:ve} {h:gy} {nx:Nat} {R:yf}
def X7 {α:Type} {l cs:Y α} (h:i+m<=l! l) (he:(l.drop i).take m=cs):l! cs=m/\∀(j:Nat) x,cs[j]? =Z x->l[i+j]? =Z x:=by grind
def xO (f:Nat->Value) (n j:Nat) (v:Value) (h:((lY n).map f)[j]? =Z v):v=f j/\j<n:=by grind
def ym (φ:PM) (O:Nat->Prop) (w:World) (c:BC) (f:Nat->M Value):Prop:=∀j x,c.get j=Z x->x.isCell=J/\∃v,f j=Z v/\cm φ O w x v
def X6 {c:BC} (q:c.sub? i m b=Z y) {f:Nat->M Value} (hc:ym V O w c f):
 ∃cs:ξ,l! cs=m/\(∀(j:Nat) v,cs[j]? =Z v->f (i+j)=Z v)/\(b=aa->m=1)/\cm V O w y (if b then .agg cs.toArray else cs.getD 0 undef):=by
 cases b with
 |false=>
  simp[BC.sub?]at q;split at q
  .obtain⟨h0,v,h1,A⟩:=hc i y q;exact⟨[v],rfl,λj u hu=>by cases j with|zero=>simp at hu;subst hu;exact h1|succ j=>simp at hu,λ_=>rfl,by simpa using A⟩
  .cases q
 |true=>
  have fin:∀(g:Nat->M AV),(∀j,j<m->∃x,g j=Z x/\c.get (i+j)=Z x)->
   ∃cs:ξ,l! cs=m/\(∀(j:Nat) v,cs[j]? =Z v->f (i+j)=Z v)/\∀(j:Nat) x v,g j=Z x->cs[j]? =Z v->cm V O w x v:=by
   intro g D;refine ⟨(lY m).map λj=>(f (i+j)).getD undef,by simp,λj v N=>?_,λj x v F N=>?_⟩
   .obtain⟨rfl,z⟩:=xO _ _ _ _ N;let⟨x,_,A⟩:=D j z;let⟨_,v,I,_⟩:=hc _ _ A;rw[I];rfl
   .obtain⟨rfl,z⟩:=xO _ _ _ _ N;let⟨x',h1,A⟩:=D j z;rw[F]at h1;cases h1;let⟨_,v,I,h4⟩:=hc _ _ A;rw[I];exact h4
  simp only[BC.sub?]at q;split at q
  .rename_i l;split at q
   .rename_i hle;simp[af]at q;subst q;let⟨hl,D⟩:=X7 (aW hle) (rfl:(l.drop i).take m=_);let⟨cs,h1,A,I⟩:=fin (λj=>(((l.drop i).take m)[j]?).map AV.f) (λj z=>by
     have hlt:j<l! ((l.drop i).take m):=by omega
     refine ⟨.f ((l.drop i).take m)[j],by simp[aH hlt,bw],?_⟩;simp[BC.get,D j _ (aH hlt),bw])
    refine ⟨cs,h1,A,nofun,.f (.agg _ _ (by omega) ?_ ?_)⟩
    .intro x F;let⟨j,z⟩:=eA F;exact (hc (i+j) (.f x) (by simp[BC.get,D j x z,bw])).1
    .intro j x v F N;have:=I j (.f x) v (by grind) N;cases this with
     |f h=>exact h
   .cases q
  .rename_i l;split at q
   .rename_i hle;simp[af]at q;subst q;let⟨hl,D⟩:=X7 (aW hle) (rfl:(l.drop i).take m=_);let⟨cs,h1,A,I⟩:=fin (λj=>(((l.drop i).take m)[j]?)) (λj z=>by
     have hlt:j<l! ((l.drop i).take m):=by omega
     exact⟨_,aH hlt,D j _ (aH hlt)⟩)
    refine ⟨cs,h1,A,nofun,.agg (by omega) ?_ ?_⟩
    .intro x F;let⟨j,z⟩:=eA F;exact (hc (i+j) x (D j x z)).1
    .omega
   .cases q
  .cases q
variable {s:TypeId}
def Pm (D:fe P s=Z i) (F:EO P s=Z b) (w:World) (c off:Nat) (cs:ξ) (q:l! cs=i) (z:∀(j:Nat) v,cs[j]? =Z v->w.cell? ⟨c,off+j,U⟩=Z v) (h1:b=aa->i=1):
 (loadVar s ⟨c,off,U⟩).run P w= .ok (if b then .agg cs.toArray else cs.getD 0 undef) w:=by
 unfold loadVar;simp[ec,RI F w,cJ];cases b with
 |true=>
  simp[bo,ec,fw D w,cJ];rw[<- q,run_loadCells_list (P:=P) w ⟨c,off,U⟩ cs (λj v A=>by rw[ij];exact z j v A)];rfl
 |false=>
  have h1:=h1 rfl;cases cs with
  |nil=>simp at q;omega
  |cons v r=>
   have:=z 0 v rfl;simp_all
def JT {φ:PM} {q:Bool} (A:fe P s=Z i) (I:EO P s=Z q) {c:BC} {b base:Nat} (z:c.sub? m i q=Z y)
 (F:ym φ O w c λj=>w.cell? ⟨b,base+j,U⟩):∃v,(loadVar s ⟨b,base+m,U⟩).run P w= .ok v w/\cm φ O w y v:=by
 let⟨cs,h1,h2,h3,N⟩:=X6 z F;exact⟨_,Pm A I w b (base+m) cs h1 (λj v D=>by rw[pL];exact h2 j v D) h3,N⟩
def UR (hrep:oM V O S w) (D:S i=Z z) (b:V i=Z m) (A:z.c.isCells=J):ym V (tot O V S) w z.c λj=>w.cell? ⟨m,0+j,U⟩:=by
 let⟨k',h1,_,N⟩:=hrep.at_ i z D;rw[b]at h1;cases h1;let⟨arr,I,h4,F⟩:=N.cells A;intro j x q;let⟨c1,v,c2,c3⟩:=F j x q;exact⟨c1,v,by simp[O1,I,c2],c3⟩
def XG {cells:Y FV} {A:Nat->Value} (hcl:∀x∈cells,x.isCell=J) (D:∀j,j<l! cells->w.cell? ⟨i,m+j,U⟩=Z (A j)) (F:∀(j:Nat) x,cells[j]? =Z x->lX O w x (A j)):
 ym V O w (.fz cells) λj=>w.cell? ⟨i,m+j,U⟩:=by
 intro j y c;simp only[BC.get]at c;cases z:cells[j]? with
 |none=>rw[z]at c;cases c
 |some q=>
  rw[z]at c;simp at c;subst c;have I:j<l! cells:=(bm.1 z).1;exact⟨hcl q (bd z),A j,D j I,.f (F j q z)⟩
def Ru {c:BC} (h:c.sub? i m b=Z y):c.isCells=J:=by
 cases c with
 |fz|mx=>rfl
 |_=>cases b<;>simp[BC.sub?,BC.get]at h<;>(try split at h)<;>cases h
def LX (D:fe P s=Z i) (hag:EO P s=Z b) (c:tH h i b y=Z R):
 R.wr=[]/\R.nw=[]/\R.N=[]/\∀(φ:PM) (E:Nat->Prop) (h':HF) (w:World) (z:Value),(∀sz∈R.rd,h' sz=h.get sz)->oM φ E h' w->cm φ (tot E φ h') w y z->
  ∃ad v,z= .pointer (Z ad)/\(loadVar s ad).run P w= .ok v w/\cm φ (tot E φ h') w R.val v:=by
 unfold tH at c;split at c
 .rename_i id off;split at c
  .rename_i I hb;split at c
   .rename_i v A;simp[af]at c;subst c;refine ⟨rfl,rfl,rfl,λφ E h' w z hrd hrep q=>?_⟩;have hh:h' id=Z I:=by grind
    cases q with
    |@H _ _ k hφ=>
     let⟨u,h1,F⟩:=JT D hag (w:=w) (b:=k) (base:=0) A (UR hrep hh hφ (Ru A))
     grind
   .cases c
  .cases c
 .rename_i cells off;split at c
  .rename_i v A;rw[c6 c];refine ⟨rfl,rfl,rfl,λφ E h' w z hrd hrep q=>?_⟩;cases q with
   |f q=>
    cases q with
    |H _ _ I base us hO hb hcl hu q=>
     let⟨u,h1,F⟩:=JT (φ:=φ) (O:=tot E φ h') D hag (w:=w) (b:=I) (base:=base) A (XG hcl hu q);exact⟨_,u,rfl,h1,F⟩
  .cases c
 .cases c
variable {c:Operand}
def anw (q:o.op= .load s c) (D:fe P s=Z i) (hag:EO P s=Z b) (x:dk (.load i b c) e h nx=Z R):ft P o e.get h.get R.eff:=by
 simp[dk]at x;split at x
 .rename_i p A;let⟨h1,h2,h3,h4⟩:=LX D hag x;let⟨val,rd,wr,nw,N⟩:=R;subst h1 h3;refine ft.reads λφ E h' w a hrd hp hrep=>?_
  let⟨ad,v,h5,I,F⟩:=h4 φ E h' w _ hrd hrep (hp c _ (by rw[q];simp[Op.operands]) A);refine ⟨v,?_,F⟩;unfold execOp;rw[q];simp[Instr.loadAt,h5,Ml,I]
 .cases x
variable {A:ξ}
def Yg {φ:PM} (vs:fe P s=Z i) (hag:EO P s=Z b) {c:BC} (z:c.sub? m i b=Z y) 
 (D:ym φ O w c λj=>A[j]?):∃v,(part s A.toArray m).run P w= .ok v w/\cm φ O w y v:=by
 let⟨cs,h1,N,I,F⟩:=X6 z D;refine ⟨_,?_,F⟩;unfold part;simp only[ec,RI hag w,cJ];cases b with
 |true=>
  simp only[bo,ec,fw vs w,cJ];have:A.toArray.extract m (m+i)=cs.toArray:=by
   apply Array.ext';apply O4
   grind
  rw[this];rfl
 |false=>
  have h5:=I rfl;cases cs with
  |nil=>simp at h1;omega
  |cons v r=>
   have:=N 0 v rfl;simp_all
variable {N:Y AV}
def US (vs:l! A=l! N) (hcl:∀x∈N,x.isCell=J) (z:∀(j:Nat) x v,N[j]? =Z x->A[j]? =Z v->cm V O w x v):ym V O w (.mx N) λj=>A[j]? :=by
 intro j x c;simp[BC.get]at c;have q:j<l! A:=by grind
 exact⟨hcl x (bd c),A[j],aH q,z j x _ c (aH q)⟩
def Q2 {l:Y FV} (F:l! A=l! l) (hcl:∀x∈l,x.isCell=J) (D:∀(j:Nat) x v,l[j]? =Z x->A[j]? =Z v->lX O w x v):ym V O w (.fz l) λj=>A[j]? :=by
 intro j x c;simp only[BC.get]at c;cases z:l[j]? with
 |none=>rw[z]at c;cases c
 |some q=>
  rw[z]at c;simp at c;subst c;have vs:j<l! A:=by grind
  exact⟨hcl q (bd z),A[j],aH vs,.f (D j q _ z (aH vs))⟩
def LZ (I:fe P s=Z i) (hag:EO P s=Z b) (c:cm V O w y v) {val:AV}
 (q:(∃l,y= .agg l/\(BC.mx l).sub? m i b=Z val)\/(∃l,y= .f (.agg l)/\(BC.fz l).sub? m i b=Z val)):∃cs z,v= .agg cs/\(part s cs m).run P w= .ok z w/\cm V O w val z:=by
 rcases q with ⟨l,rfl,q⟩|⟨l,rfl,q⟩
 .cases c with
  |agg A hcl c=>
   let⟨z,h1,D⟩:=Yg I hag q (US A hcl c);exact⟨_,z,rfl,h1,D⟩
 .cases c with
  |f c=>
   cases c with
   |agg _ vs A hcl c=>
    let⟨z,h1,D⟩:=Yg (φ:=V) I hag q (Q2 A hcl c);exact⟨_,z,rfl,h1,D⟩
variable {I:Array Field}
def arn {f:Field} {x:Operand} (q:o.op= .field s x i) (F:P.underlying s=Z (.struct I)) (hf:I[i]? =Z f) (z:fe P f.type=Z m) (hag:EO P f.type=Z b) (N:dk (.fld f.offset m b x) e h nx=Z R):ft P o e.get h.get R.eff:=by
 have fin:∀(y:AV) (val:AV),kc e x=Z y->((∃l,y= .agg l/\(BC.mx l).sub? f.offset m b=Z val)\/(∃l,y= .f (.agg l)/\(BC.fz l).sub? f.offset m b=Z val))->rv val=Z R->ft P o e.get h.get R.eff:=by
  intro y val A D hR;rw[c6 hR];refine ft.reads λφ E h' w a _ hp _=>?_
  let⟨cs,v,h1,h2,h3⟩:=LZ z hag (hp x _ (by rw[q];simp[Op.operands]) A) D;refine ⟨v,?_,h3⟩;unfold execOp;rw[q];simp[Instr.field,run_underlying F,hf,h1,asAgg,h2]
 simp[dk]at N
 grind
def arl {A:TypeId} {y:Operand} (z:o.op= .index s c y) (hu:P.underlying s=Z (.array i A)) (D:fe P A=Z m) (hag:EO P A=Z b) (x:dk (.idx i m b c y) e h nx=Z R):ft P o e.get h.get R.eff:=by
 simp[dk]at x;split at x
 .rename_i v0 k j N I;split at x
  .rename_i F;simp[cZ,fV,al,bG]at F;let⟨h0,h1⟩:=F;have fin:∀(val:AV),((∃l,v0= .agg l/\(BC.mx l).sub? (j.toNat*m) m b=Z val)\/(∃l,v0= .f (.agg l)/\(BC.fz l).sub? (j.toNat*m) m b=Z val))->rv val=Z R->ft P o e.get h.get R.eff:=by
    intro val hv hR;rw[c6 hR];refine ft.reads λφ E h' w a _ hp _=>?_
    have hyv:=dL (hp y _ (by rw[z];simp[Op.operands]) I);let⟨cs,v,h3,h4,h5⟩:=LZ D hag (hp c _ (by rw[z];simp[Op.operands]) N) hv;refine ⟨v,?_,h5⟩;have h6:=fw D w;unfold execOp;rw[z];simp[Instr.index,run_underlying hu,hyv,asIntOf,h3,h0,h1,h6,h4]
   grind
  .cases x
 .cases x
def ao0 {el:TypeId} (N:o.op= .call {callee:=.builtin .len,args:=#[c],argTypes:=#[s]}) (hu:P.underlying s=Z (.slice el)) (D:dk (.len c) e h nx=Z R):ft P o e.get h.get R.eff:=by
 simp[dk]at D;split at D
 .rename_i y hx;split at D
  .rename_i n F;rw[c6 D];refine ft.reads λφ E h' w a _ hp _=>?_
   have q:=hp c _ (by rw[N];simp[Op.operands,c9]) hx;refine ⟨_,?_,.f (.raw _)⟩;have I:∃A x,a.eval c= .slice A n x:=by
    generalize a.eval c=z at q;unfold AV.slen at F;split at F<;>try (simp [af]at F;subst F)
    .cases q with
     |f q=>cases q with
      |nil|sl=>exact⟨_,_,rfl⟩
    .cases dL q;exact⟨_,_,rfl⟩
    .cases q;exact⟨_,_,rfl⟩
    .cases q;exact⟨_,_,rfl⟩
    .cases q;exact⟨_,_,rfl⟩
    .cases F
   let⟨A,x,I⟩:=I;unfold execOp;rw[N];simp[resolve,invoke,builtin,Builtin.len_,run_underlying hu,I,goInt]
  .cases D
 .cases D
def anz (q:o.op= .call {callee:=.builtin .len,args:=#[c],argTypes:=#[s]}) (A:P.underlying s=Z .string) (x:dk (.lens c) e h nx=Z R):ft P o e.get h.get R.eff:=by
 simp[dk]at x;split at x
 .rename_i t z;rw[c6 x];refine ft.reads λφ E h' w a _ hp _=>?_
  have D:=dL (hp c _ (by rw[q];simp[Op.operands,c9]) z);refine ⟨_,?_,.f (.raw _)⟩;unfold execOp;rw[q];simp[resolve,invoke,builtin,Builtin.len_,run_underlying A,D,goInt]
 .cases x
def anx {k v:TypeId} (A:o.op= .call {callee:=.builtin .len,args:=#[c],argTypes:=#[s]}) (I:P.underlying s=Z (.map k v)) (x:dk (.jk c) e h nx=Z R):ft P o e.get h.get R.eff:=by
 simp[dk]at x;split at x
 .rename_i id F;split at x
  .rename_i es hid;simp[af]at x;subst x;refine ft.reads λφ E h' w a hrd hp hrep=>?_
   have q:=hp c _ (by rw[A];simp[Op.operands,c9]) F;have hh:h' id=Z ⟨0,.mp es⟩:=by grind
   generalize D:a.eval c=z at q;cases q with
   |@mp _ b hφ=>
    let⟨b',h1,_,ob,h2,h3⟩:=hrep.at_ id _ hh;rw[hφ]at h1;cases h1;obtain⟨ents,clock,rfl,h4,_⟩:=h3;have N:ents.size=l! es:=by have:=iQ ah h4;simpa using this
    refine ⟨_,?_,.f (.raw _)⟩;unfold execOp;rw[A];simp[resolve,invoke,builtin,Builtin.len_,run_underlying I,D,goInt,getObj,jZ,h2,N]
  .cases x
 .cases x
end
structure F4 (w w':World) (k:Nat) (ob:Obj):Prop where
 os:w'.os=w.os
 tape:w'.tape=w.tape
 output:w'.output=w.output
 size:w'.heap.size=w.heap.size
 at_:w'.heap[k]? =Z ob
 other:∀j,j≠k->w'.heap[j]? =w.heap[j]?
 jl:∀j,w'.shape? j=w.shape? j
structure U5 (w w':World) (ob:Obj):Prop where
 os:w'.os=w.os
 tape:w'.tape=w.tape
 output:w'.output=w.output
 size:w'.heap.size=w.heap.size+1
 at_:w'.heap[w.heap.size]? =Z ob
 other:∀j,j<w.heap.size->w'.heap[j]? =w.heap[j]?
def oM.wset {w':World} (r:oM V O S w) {id:Nat} {b':jI} {ob:Obj} (hb:S id=Z z) (A:V id=Z i) (q:F4 w w' i ob) (hob:gQ V (tot O V S) w b' ob) (b:HF) (hnw:b id=Z b'):
 gR V V S (dZ S [id] b) w w'/\oM V O (dZ S [id] b) w':=by
 have hdom:∀k,(∃x,dZ S [id] b k=Z x)↔∃x,S k=Z x:=λk=>by
  unfold dZ
  grind
 have hown:∀j,own V (dZ S [id] b) j↔own V S j:=λj=>by
  constructor
  .rintro⟨k,x,h1,c⟩;let⟨y,I⟩:=(hdom k).1 ⟨x,h1⟩;exact⟨k,y,I,c⟩
  .rintro⟨k,x,h1,c⟩;let⟨y,I⟩:=(hdom k).2 ⟨x,h1⟩;exact⟨k,y,I,c⟩
 have m:gR V V S (dZ S [id] b) w w':=by
  refine ⟨λ_ _ S=>S,⟨q.os,q.tape,q.output,by rw[q.size];exact bL _,λj hj ho=>?_,λj _=>q.jl j⟩,λj _ S=>(hown j).1 S⟩;exact q.other j (λe=>ho (e▸⟨id,z,hb,A⟩))
 refine ⟨m,⟨λk j x y kk hi hj h1 c=>?_,λk x hi=>?_,λi A=>dj (r.el i A) m.ext.size,λg cells hg=>m.keepF (r.gl g cells hg)⟩⟩
 .obtain⟨x',N⟩:=(hdom k).1 ⟨x,hi⟩;let⟨y',F⟩:=(hdom j).1 ⟨y,hj⟩;exact r.inj k j x' y' kk N F h1 c
 .by_cases hid:k=id
  .subst hid;have:x=b':=by unfold dZ at hi;simp[hnw]at hi;exact hi.symm
   subst this;let⟨D,h1,c,_⟩:=r.at_ k z hb;rw[A]at h1;cases h1;exact⟨i,A,c,ob,q.at_,hob.mono λ_ _ S=>m.ql S⟩
  .have hx:S k=Z x:=by unfold dZ at hi;simpa[hid] using hi
   let⟨D,h1,c,ob',h3,h4⟩:=r.at_ k x hx;have hne:D≠i:=λe=>hid (r.inj k id x z i hx hb (e▸h1) A)
   exact⟨D,h1,c,ob',by rw[q.other D hne];exact h3,h4.mono λ_ _ S=>m.ql S⟩
def oM.wnew {w':World} (r:oM V O S w) {id:Nat} (hid:V id=U) {b:jI} {ob:Obj} (q:U5 w w' ob) (hob:gQ V (tot O V S) w b ob) (del:ι) (A:HF) (hnw:A id=Z b) (hdel:∀i∈del,i≠id->A i=U):
 ∃φ',φ' id=Z w.heap.size/\gR V φ' S (dZ S (id::del) A) w w'/\(∀i k,φ' i=Z k->V i=Z k\/i∈[id])/\oM φ' O (dZ S (id::del) A) w':=by
 have hsub:∀i x,dZ S (id::del) A i=Z x->i≠id->S i=Z x/\i∉del:=λi x hx hi=>by
  unfold dZ at hx
  grind
 have hlt:∀i x k,S i=Z x->V i=Z k->k<w.heap.size:=λi x k hi I=>by
  let⟨k',h1,_,ob',N,_⟩:=r.at_ i x hi
  grind
 have hφ:∀i,i≠id->(if i=id then Z w.heap.size else V i)=V i:=λi hi=>by simp[hi]
 have m:gR V (λi=>if i=id then Z w.heap.size else V i) S (dZ S (id::del) A) w w':=by
  refine ⟨λi k I=>?_,⟨q.os,q.tape,q.output,by rw[q.size];omega,λj D _=>q.other j D,λj D=>?_⟩,?_⟩
  .grind
  .unfold pd;rw[q.other j D]
  .rintro j D ⟨i,x,h1,z⟩;by_cases hi:i=id
   .simp[hi]at z;omega
   .have N:V i=Z j:=by simpa[hi] using z
    exact⟨i,x,(hsub i x h1 hi).1,N⟩
 refine ⟨_,by simp,m,λi k I=>?_,⟨λi j x y k hi D h1 z=>?_,λi x hi=>?_,λk I=>dj (r.el k I) m.ext.size,λg cells hg=>m.keepF (r.gl g cells hg)⟩⟩
 .grind
 .by_cases c:i=id
  .grind
  .rw[hφ i c]at h1;have hix:=(hsub i x hi c).1;by_cases F:j=id
   .grind
   .rw[hφ j F]at z;exact r.inj i j x y k hix (hsub j y D F).1 h1 z
 .by_cases c:i=id
  .subst c;have:x=b:=by unfold dZ at hi;simp[hnw]at hi;exact hi.symm
   subst this;refine ⟨w.heap.size,by simp,λhe=>?_,ob,q.at_,hob.mono λ_ _ S=>m.ql S⟩;have:=r.el _ he;omega
  .obtain⟨k,h1,z,ob',N,h4⟩:=r.at_ i x (hsub i x hi c).1;refine ⟨k,by rw[hφ i c];exact h1,z,ob',?_,h4.mono λ_ _ S=>m.ql S⟩;rw[q.other k (hlt i x k (hsub i x hi c).1 h1)];exact N
def rG (w:World) (ob:Obj):U5 w {w with heap:=w.heap.push ob} ob:=by
 refine ⟨rfl,rfl,rfl,by simp,by simp,λj c=>?_⟩
 grind
def U5.drawn {w':World} {ob:Obj} (d:Nat) (h:U5 {w with drawn:=d} w' ob):U5 w w' ob:=⟨h.os,h.tape,h.output,h.size,h.at_,h.other⟩
def ft.makes {e:ve} {rd:ι} 
 (D:∀(φ:PM) (E:Nat->Prop) (h':HF) (w:World) (a:Act),(∀nx∈rd,h' nx=S nx)->OT φ E h' w a e k->oM φ E h' w->
   ∃v w' ob,(execOp a.eval k).run P w= .ok (.value v) w'/\U5 w w' ob/\gQ φ (tot E φ h') w z ob/\∀φ' O,φ' i=Z w.heap.size->cm φ' O w' y v):
 ft P k e.get S ⟨y,rd,[i],iy [(i,z)],[i]⟩:=by
 intro φ E h' w a h1 h2 I c F;let⟨v,w',ob,hrun,A,hob,hval⟩:=D φ E h' w a h1 (λx val b q=>pq c I b q) c;let⟨φ',g1,g2,g3,N⟩:=c.wnew (id:=i) (F i (by simp)) A hob [] (iy [(i,z)]) (by simp[iy]) (by simp);unfold vp;rw[hrun];exact⟨v,φ',rfl,g2,g3,N,hval φ' _ g1⟩
def ft.writes {e:ve} {rd:ι} {b':jI} (hb:S i=Z z)
 (I:∀(φ:PM) (E:Nat->Prop) (h':HF) (w:World) (a:Act),(∀id∈rd,h' id=S id)->h' i=Z z->OT φ E h' w a e k->oM φ E h' w->
   ∃r w' o ob,(execOp a.eval k).run P w= .ok r w'/\φ i=Z o/\F4 w w' o ob/\gQ φ (tot E φ h') w b' ob/\(∃v,(r= .value v\/r= .skip/\v=undef)/\cm φ (tot E φ (dZ h' [i] (iy [(i,b')]))) w' y v)):
 ft P k e.get S ⟨y,rd,[i],iy [(i,b')],[]⟩:=by
 intro φ E h' w a h1 h2 h3 c h5;let⟨r,w',o,ob,hrun,hk,F,hob,v,N,hval⟩:=I φ E h' w a h1 (by grind) (λx val D A=>pq c h3 D A) c;let⟨b,q⟩:=c.wset (id:=i) (by rw[h2 i (by simp)];exact hb) hk F hob (iy [(i,b')]) (by simp[iy]);unfold vp;rw[hrun];rcases N with rfl|⟨rfl,rfl⟩
 .exact⟨v,φ,rfl,b,λ_ _ S=>.inl S,q,hval⟩
 .exact⟨undef,φ,rfl,b,λ_ _ S=>.inl S,q,hval⟩
variable {N:Y AV}
def lV (h:gf N=J):∀x∈N,x.isCell=J:=by
 induction N with
 |nil=>intro x c;cases c
 |cons y N q=>
  simp[gf,al]at h
  grind
def mz:∀{l:Y AV} {c:Y FV},xd l=Z c->l=c.map .f
 |[],c,h=>by simp[xd,af]at h;subst h;rfl
 |.f x::r,c,h=>by
  simp[xd]at h;split at h
  next l q=>simp[af]at h;subst h;rw[mz q];rfl
  .cases h
 |.H _ _::_,_,h|.sl _ _ _::_,_,h|.G _ _ _::_,_,h|.mp _::_,_,h|.emp::_,_,h|.agg _::_,_,h|.qb _::_,_,h|.qy _ _::_,_,h=>by simp[xd]at h
def Cs (φ:PM) (O:Nat->Prop) (w:World) (l:Y AV) (vs:ξ):Prop:=l! vs=l! l/\(∀x∈l,x.isCell=J)/\∀(j:Nat) x v,l[j]? =Z x->vs[j]? =Z v->cm φ O w x v
def BC.get_toMx {c:BC} (q:c.isCells=J) (j:Nat):c.get j=c.toMx[j]? :=by
 cases c with
 |fz l=>simp[BC.get,BC.toMx]
 |mx l=>rfl
 |_=>cases q
def BC.len_toMx {c:BC} (q:c.isCells=J):c.len=l! c.toMx:=by
 cases c with
 |fz l=>simp[BC.len,BC.toMx]
 |mx l=>rfl
 |_=>cases q
def mq (l:Y AV):(mN l).toMx=l/\(mN l).isCells=J:=by
 unfold mN;cases h:xd l with
 |none=>exact⟨rfl,rfl⟩
 |some c=>exact⟨(mz h).symm,rfl⟩
variable {s:TypeId}
def qC {c:BC} (q:c.isCells=J) {arr:Array Value} (F:l! c.toMx<=arr.size)
 (h:∀(j:Nat) x,c.toMx[j]? =Z x->x.isCell=J/\∃v,arr[j]? =Z v/\cm V O w x v):gQ V O w ⟨s,c⟩ (.cells arr s (0,0)):=by
 have A:tZ V O w c arr:=⟨by rw[BC.len_toMx q];exact F,λj x D=>h j x (by rw[<- BC.get_toMx q];exact D)⟩
 cases z:c with
 |fz l|mx l=>rw[z]at A;exact⟨arr,rfl,A⟩
 |_=>rw[z]at q;cases q
variable {A:ξ}
def JA {ty:TypeId} (h:Cs V O w N A):gQ V O w ⟨ty,mN N⟩ (.cells A.toArray ty (0,0)):=by
 let⟨h1,z⟩:=mq N;refine qC z (by rw[h1];simp[h.1]) λj x c=>?_
 rw[h1]at c;have q:j<l! A:=by rw[h.1];exact (bm.1 c).1
 exact⟨h.2.1 x (bd c),A[j],by simp[q],h.2.2 j x _ c (aH q)⟩
def W3 (h:cm V O w y v) (z:gf y.cs=J):Cs V O w y.cs v.cells.toList:=by
 have one:y.cs=[y]->v.cells=#[v]->Cs V O w y.cs v.cells.toList:=λh1 h2=>by
  rw[h1]at z ⊢;rw[h2];exact⟨rfl,lV z,λj x u c A=>by cases j with|zero=>simp at c A;subst c A;exact h|succ j=>simp at c⟩
 cases h with
 |qh _|qb _ _=>exact bO z (by simp[AV.cs,gf,AV.isCell])
 |@agg l vs I hcl D=>exact⟨I,hcl,D⟩
 |@f x u hf=>
  cases hf with
  |raw v=>
   have N:v.oneCell'=J:=by
    have:(AV.f (.raw v)).cs=[.f (.raw v)]:=rfl;rw[this]at z;simpa[gf,AV.isCell,FV.isCell] using z
   refine one rfl ?_;cases v<;>first|rfl|simp[Value.oneCell']at N
  |agg l vs I hcl D=>
   refine ⟨by simp[AV.cs,Value.cells,I],lV z,λj x u c A=>?_⟩;simp only[AV.cs,bM]at c;cases F:l[j]? with
   |none=>rw[F]at c;cases c
   |some q=>rw[F]at c;simp at c;subst c;exact .f (D j q u F (by simpa[Value.cells] using A))
  |_=>exact one rfl rfl
 |_=>exact one rfl rfl
def lX.one {x:FV} (h:lX O w x v) (c:x.isCell=J):v.oneCell'=J:=by
 cases h with
 |raw v=>exact c
 |agg=>cases c
 |_=>rfl
def cm.one (h:cm V O w y v) (c:y.isCell=J):v.oneCell'=J:=by
 cases h with
 |f h=>exact h.one c
 |qh|agg|qb=>cases c
 |_=>rfl
def Cs.one (h:Cs V O w N A):∀v∈A,v.oneCell'=J:=by
 intro v q;let⟨j,c⟩:=eA q;have hlt:j<l! N:=by rw[<- h.1];exact (bm.1 c).1
 exact (h.2.2 j _ v (aH hlt) c).one (h.2.1 _ (List.getElem_mem hlt))
def Cs.append {l':Y AV} {vs':ξ} (h:Cs V O w N A) (h':Cs V O w l' vs'):Cs V O w (N++l') (A++vs'):=by
 refine ⟨by simp[h.1,h'.1],λx c=>(bF.1 c).elim (h.2.1 x) (h'.2.1 x),λj x v c z=>?_⟩;rcases bZ j (l! N) with q|q
 .rw[cE q]at c;rw[cE (by rw[h.1];exact q)]at z;exact h.2.2 j x v c z
 .rw[cw q]at c;rw[cw (by rw[h.1];exact q),h.1]at z;exact h'.2.2 _ x v c z
def Cs.take (h:Cs V O w N A) (n:Nat):Cs V O w (N.take n) (A.take n):=by
 refine ⟨by simp[h.1],λx c=>h.2.1 x (dF c),λj x v c q=>?_⟩;rw[dM]at c q;split at c
 next z=>rw[aR z]at q;exact h.2.2 j x v c q
 .cases c
def Cs.drop (h:Cs V O w N A) (n:Nat):Cs V O w (N.drop n) (A.drop n):=by
 refine ⟨by simp[h.1],λx c=>h.2.1 x (EY c),λj x v c q=>?_⟩;rw[iX]at c q;exact h.2.2 _ x v c q
def Cs.splice {l':Y AV} {vs':ξ} (h:Cs V O w N A) (h':Cs V O w l' vs') (off:Nat):Cs V O w (splice N off l') (splice A off vs'):=by
 unfold AI.splice;rw[h'.1];exact ((h.take off).append h').append (h.drop _)
def Cs.raws {φ:PM} (z:ξ) (A:mM z=J):Cs φ O w (z.map raw) z:=by
 refine ⟨by simp,λx c=>?_,λj x v c q=>?_⟩
 .obtain⟨v,q,rfl⟩:=bR.1 c;exact dq.1 A v q
 .rw[bM]at c;rw[q]at c;simp at c;subst c;exact .f (.raw v)
def Cs.mono {φ':PM} {O':Nat->Prop} {w':World} (h:Cs V O w N A) (z:∀x v,cm V O w x v->cm φ' O' w' x v):Cs φ' O' w' N A:=⟨h.1,h.2.1,λj x v c q=>z _ _ (h.2.2 j x v c q)⟩
def F4.setRow {arr arr':Array Value} (q:w.heap[i]? =Z (.cells arr s (0,0))) (z:arr'.size=arr.size):F4 w (w.setRow i arr') i (.cells arr' s (0,0)):=by
 refine ⟨rfl,rfl,rfl,by simp,setRow_heap w i arr arr' s (0,0) q,λj c=>setRow_other w i j arr' c,λj=>?_⟩;unfold pd;by_cases c:j=i
 .subst c;rw[setRow_heap w j arr arr' s (0,0) q,q];simp[z]
 .rw[setRow_other w i j arr' c]
section
variable {P:Program} {o:Oper} {e:ve} {h:gy} {nx:Nat} {R:yf}
def t7 (c:tu P s=Z A) (w:World):∃v,(zeroValue s).run P w= .ok v w/\v.cells.toList=A/\∃i,P.info? s=Z i/\i.zero=Z v:=by
 unfold tu at c;cases hi:P.info? s with
 |none=>rw[hi]at c;cases c
 |some i=>
  rw[hi]at c;simp only[aB]at c;cases q:i.zero with
  |none=>rw[q]at c;cases c
  |some v=>
   rw[q]at c;simp[bw,af]at c;exact⟨v,by simp[zeroValue,typeInfo,hi,q],c,i,rfl,q⟩
def ajz (F:o.op= .alloc s) (D:tu P s=Z A) (N:mM A=J) (z:dk (.alloc s A) e h nx=Z R):ft P o e.get h.get R.eff:=by
 simp[dk,af]at z;subst z;refine ft.makes λφ E h' w a _ _ _=>?_
 let⟨v,h1,h2,_⟩:=t7 D w;refine ⟨.pointer (Z ⟨w.heap.size,0,U⟩),{w with heap:=w.heap.push (.cells v.cells s)},.cells v.cells s (0,0),?_,rG w _,?_,λφ' O hφ=>.H hφ⟩
 .unfold execOp;rw[F];simp[Instr.alloc,h1,newVar,newRow,newObj,jZ]
 .have c:BC.toMx (.fz (A.map .raw))=A.map raw:=by simp[BC.toMx,raw]
  refine qC rfl (by grind) λj x q=>?_
  rw[c]at q;have cs:=Cs.raws (φ:=φ) (O:=tot E φ h') (w:=w) A N;have I:j<l! A:=by grind
  refine ⟨cs.2.1 x (bd q),A[j],?_,cs.2.2 j x _ q (aH I)⟩
  grind
variable {c:Operand}
def arv (q:o.op= .box s c) (x:dk (.box s c) e h nx=Z R):ft P o e.get h.get R.eff:=by
 simp[dk]at x;split at x
 .rename_i v z;split at x
  .rename_i D;simp[af]at x;subst x;refine ft.makes λφ E h' w a _ hp _=>?_
   have A:=W3 (hp c _ (by rw[q];simp[Op.operands]) z) D;refine ⟨.pointer (Z ⟨w.heap.size,0,U⟩),{w with heap:=w.heap.push (.cells (a.eval c).cells s)},.cells (a.eval c).cells s (0,0),?_,rG w _,?_,λφ' O hφ=>.H hφ⟩
   .unfold execOp;rw[q];simp[Instr.box,newVar,newRow,newObj,jZ]
   .have:=JA (ty:=s) A;simpa using this
  .cases x
 .cases x
def mS {α:Type} {l vs:Y α} {off:Nat} (hle:off+l! vs<=l! l) (j:Nat):(splice l off vs)[j]? =if j<off then l[j]? else if j<off+l! vs then vs[j-off]? else l[j]? :=by
 unfold splice
 grind
def mi {α:Type} {l vs:Y α} (hle:i+l! vs<=l! l):l! (splice l i vs)=l! l:=by
 unfold splice;simp;omega
def Tf (off:Nat):∀(vs:ξ) (k:Nat) (arr:Array Value),off+k+l! vs<=arr.size->∀j:Nat,
 ((vs.zipIdx k).foldl (λcs (p:Value×Nat)=>cs.setIfInBounds (off+p.2) p.1) arr)[j]? =if j<off+k then arr[j]? else if j<off+k+l! vs then vs[j-(off+k)]? else arr[j]?
 |[],k,arr,_,j=>by simp_all
 |v::vs,k,arr,hle,j=>by
  rw[List.zipIdx_cons,dg,Tf off vs (k+1) _ (by grind) j]
  grind
def Te (off:Nat) (c:Array Value) (l:ξ) (hle:off+c.size<=l! l):(c.zipIdx.foldl (λcs (p:Value×Nat)=>cs.setIfInBounds (off+p.2) p.1) l.toArray)=(splice l off c.toList).toArray:=by
 rw[<- Array.foldl_toList,Array.toList_zipIdx];apply Array.ext_getElem?;intro j;rw[Tf off c.toList 0 l.toArray (by omega) j];simp only[dQ,Cr];rw[mS (by omega)]
def Qp (hp:OT V O S w Q e o) {place:Nat->M n!}:∀(c:Y G!) (ps':Y l?) (cells cs:Y AV) (vs:ξ),
 (l! ps'=l! c)->(∀(j:Nat) i x,c[j]? =Z (i,x)->∃of sz,ps'[j]? =Z (of,sz,x)/\place i=Z (of,sz))->(∀p∈c,p.2∈o.op.operands)->Cs V (tot O V S) w cells vs->Aj cells e ps'=Z cs->
 ∃vs',Instr.fill place vs.toArray (c.map λp=>(p.1,Q.eval p.2))=Z vs'.toArray/\Cs V (tot O V S) w cs vs'
 |[],ps',cells,cs,vs,D,_,_,hcs,hf=>by
  cases ps' with
  |nil=>simp[Aj,af]at hf;subst hf;exact⟨vs,rfl,hcs⟩
  |cons _ _=>simp at D
 |(i,x)::c,ps',cells,cs,vs,D,hpl,hm,hcs,hf=>by
  obtain⟨of,sz,h1,h2⟩:=hpl 0 i x rfl;cases ps' with
  |nil=>simp at h1
  |cons p ps'=>
   simp at h1;subst h1;simp only[Aj]at hf;split at hf
   .rename_i v I;split at hf
    .rename_i F;simp only[al,cV]at F;obtain⟨⟨N,z⟩,q⟩:=F;have A:=W3 (hp x v (hm _ (cS ..)) I) q;have hsz:(Q.eval x).cells.size=sz:=by have:=A.1;simp at this;omega
     have hle:of+sz<=l! vs:=by rw[hcs.1];exact aW z
     obtain⟨vs',g1,g2⟩:=Qp hp c ps' _ cs _ (by grind) (λj i x hj=>by have:=hpl (j+1) i x (by grind);simpa using this) (λp hp=>hm p (cq _ hp)) (hcs.splice A of) hf;refine ⟨vs',?_,g2⟩;simp only[b5,Instr.fill,h2];have hcd:((decide ((Q.eval x).cells.size≠sz))||decide (of+(Q.eval x).cells.size>vs.toArray.size))=aa:=by grind
     rw[aE (by grind)];have:=Te of (Q.eval x).cells vs (by omega);rw[<- g1,<-this]
    .cases hf
   .cases hf
def Fd :∀(c:Y G!) (ps':Y l?),xv P s c=Z ps'->l! ps'=l! c/\∀(j:Nat) i x,c[j]? =Z (i,x)->∃of sz,ps'[j]? =Z (of,sz,x)/\CE P s i=Z (of,sz)
 |[],ps',h=>by simp[xv,af]at h;subst h;exact⟨rfl,λj i x A=>by simp at A⟩
 |(i,x)::c,ps',h=>by
  simp[xv]at h;split at h
  .rename_i of sz l h1 D;simp[af]at h;subst h;let⟨I,F⟩:=Fd c l D;refine ⟨by simp[I],λj z x' q=>?_⟩;cases j with
   |zero=>simp at q;obtain⟨rfl,rfl⟩:=q;exact⟨of,sz,rfl,h1⟩
   |succ j=>simpa using F j z x' (by grind)
  .cases h
def JM (w:World):∀(c:Y Field),(c.all λf=>(fe P f.type).isSome)=J->(c.mapM (λf=>do pure (f.offset,<-sizeOf f.type)):Sem (Y n!)).run P w= .ok (c.map λf=>(f.offset,(fe P f.type).getD 0)) w
 |[],_=>by simp
 |f::c,h=>by
  simp only[List.all_cons,al]at h;let⟨sz,q⟩:=iK.1 h.1;have h1:=fw q w;have z:=JM w c h.2;simp_all
def Zj {z:Array G!} {ps':Y l?} (I:o.op= .build s z) (hz:tu P s=Z A) (hc:mM A=J) (hps:xv P s z.toList=Z ps')
 (q:(∃c,P.underlying s=Z (.struct c)/\(c.toList.all λf=>(fe P f.type).isSome)=J)\/∃n el sz,P.underlying s=Z (.array n el)/\fe P el=Z sz) (F:dk (.build A ps') e h nx=Z R):ft P o e.get h.get R.eff:=by
 simp[dk]at F;split at F
 .rename_i cs hf;rw[c6 F];refine ft.reads λφ E h' w a _ hp _=>?_
  let⟨v,h1,h2,_⟩:=t7 hz w;have hcells:v.cells=A.toArray:=by rw[<- h2]
  let⟨g1,g2⟩:=Fd z.toList ps' hps;have hops:∀p∈z.toList,p.2∈o.op.operands:=λp hp=>by
   rw[I];simp only[Op.operands,List.mem_toArray,bR];exact⟨p,hp,rfl⟩
  have hmap:(z.map λx:Nat×Operand=>(x.1,a.eval x.2)).toList=z.toList.map λp=>(p.1,a.eval p.2):=by simp
  have fin:∀place:Nat->M n!,(∀i,CE P s i≠U->place i=CE P s i)->∃vs':ξ,Instr.fill place v.cells (z.map λx:Nat×Operand=>(x.1,a.eval x.2)).toList=Z vs'.toArray/\cm φ (tot E φ h') w (N0 cs) (.agg vs'.toArray):=by
   intro place hpl;let⟨vs',k1,k2⟩:=Qp (place:=place) hp z.toList ps' _ cs A g1 (λj i x hj=>by
    let⟨of,sz,q1,q2⟩:=g2 j i x hj;exact⟨of,sz,q1,by rw[hpl i (by grind),q2]⟩) hops (Cs.raws A hc) hf
   refine ⟨vs',by rw[hmap,hcells];exact k1,?_⟩;unfold N0;cases hfs:xd cs with
   |none=>exact .agg k2.1 k2.2.1 k2.2.2
   |some c=>
    have he:=mz hfs;refine .f (.agg c vs' (by rw[k2.1,he];simp) (λx hx=>k2.2.1 (.f x) (by grind)) λj x u hx q=>?_);have:=k2.2.2 j (.f x) u (by grind) q;cases this with
    |f h=>exact h
  rcases q with ⟨c,q,hall⟩|⟨n,el,sz,q,D⟩
  .obtain⟨vs',k1,k2⟩:=fin (λi=>(c.map λf=>(f.offset,(fe P f.type).getD 0))[i]?) (λi hi=>by
    unfold CE at hi ⊢;rw[q]at hi ⊢;simp[Array.getElem?_map]at hi ⊢;cases hf:c[i]? with
    |none=>rw[hf]at hi;simp at hi
    |some f=>
     simp[bw,aB];cases D:fe P f.type with
     |none=>rw[hf]at hi;simp[D]at hi
     |some sz=>simp)
   refine ⟨_,?_,k2⟩;have hm:=JM w c.toList hall;have N:(c.mapM (λf=>do pure (f.offset,<-sizeOf f.type)):Sem (Array n!)).run P w= .ok (c.map λf=>(f.offset,(fe P f.type).getD 0)) w:=by
    rw[NC];simp only[Sem.run_map,hm,cJ];congr 1;apply Array.ext';simp
   unfold execOp;rw[I];simp only[Instr.build,ec,h1,cJ,run_underlying q,N,mB,k1]
  .obtain⟨vs',k1,k2⟩:=fin (λi=>Z (i*sz,sz)) (λi hi=>by
    unfold CE;rw[q];simp[D])
   refine ⟨_,?_,k2⟩;have h3:=fw D w;unfold execOp;rw[I];simp only[Instr.build,ec,h1,cJ,run_underlying q,h3,mB,k1]
 .cases F
end
section
variable {P:Program} {o:Oper} {e:ve} {h:gy} {nx:Nat} {R:yf}
def sN {c:TypeId} (h:BV P s=Z c):P.underlying s=Z (.slice c):=by
 unfold BV at h
 grind
def mU (z:ξ):∀n,l! (repl z n)=n*l! z
 |0=>by simp[repl]
 |n+1=>by simp[repl,mU z n,iN];omega
def Dk (z:ξ):∀(n j:Nat),j<n*l! z->(repl z n)[j]? =(z[j%l! z]?).map .raw
 |0,j,h=>by simp at h
 |n+1,j,h=>by
  have q:0<l! z:=by grind
  rw[repl];rcases bZ j (l! z) with c|c
  .rw[cE (by grind),bM,rn c]
  .rw[cw (by grind),bN,Dk z n (j-l! z) (by grind),Nat.mod_eq_sub_mod c]
def Zr (q:v.cells.toList=A) (n sz:Nat) (z:l! A=sz) (hsz:sz≠0) (j:Nat) (D:j<n*sz):
 ((EZ (n*sz)).map (λi=>v.cells[i%v.cells.size]!))[j]? =A[j%sz]? :=by
 have c:v.cells.size=sz:=by grind
 have hlt:j%sz<v.cells.size:=by rw[c];exact Nat.mod_lt _ (by omega)
 grind
def Cs.repl {φ:PM} (F:v.cells.toList=A) (n sz:Nat) (D:l! A=sz) (hsz:sz≠0) (I:mM A=J):
 Cs φ O w ((repl A n).map .f) ((EZ (n*sz)).map (λi=>v.cells[i%v.cells.size]!)).toList:=by
 have key:∀(j:Nat) (x:AV),((AI.repl A n).map AV.f)[j]? =Z x->∃u,A[j%sz]? =Z u/\x=raw u/\j<n*sz:=by
  intro j x c;rw[bM]at c;have q:j<n*l! A:=by
   rcases bZ j (n*l! A) with h|h
   .exact h
   .rw[kF (by rw[mU];exact h)]at c;cases c
  rw[Dk A n j q,D]at c;cases z:A[j%sz]? with
  |none=>rw[z]at c;cases c
  |some u=>rw[z]at c;simp at c;exact⟨u,rfl,c.symm,by rw[<- D];exact q⟩
 refine ⟨by simp[mU,D],λx c=>?_,λj x u c z=>?_⟩
 .obtain⟨j,q⟩:=eA c;obtain⟨u,h1,rfl,_⟩:=key j x q;exact dq.1 I u (bd h1)
 .obtain⟨N,h1,rfl,q⟩:=key j x c;rw[c8,Zr F n sz D hsz j q,h1]at z;cases z;exact .f (.raw _)
def aru {q:TypeId} {c:Array G!} {ps':Y l?} (ho:o.op= .buildSlice s i c) (hu:P.underlying s=Z (.slice q)) (hz:tu P q=Z A) (hs:fe P q=Z m) (hc:mM A=J) (hl:l! A=m) (hsz:m≠0) (hb:i*m<=65536)
 (hps:xv P s c.toList=Z ps') (z:dk (.xz q m i A ps') e h nx=Z R):ft P o e.get h.get R.eff:=by
 simp[dk]at z;split at z
 .rename_i cs hf;simp[af]at z;subst z;refine ft.makes λφ E h' w a _ hp _=>?_
  let⟨v,h1,h2,_⟩:=t7 hz w;let⟨g1,g2⟩:=Fd c.toList ps' hps;have hops:∀p∈c.toList,p.2∈o.op.operands:=λp hp=>by
   rw[ho];simp only[Op.operands,List.mem_toArray,bR];exact⟨p,hp,rfl⟩
  have hmap:(c.map λx:Nat×Operand=>(x.1,a.eval x.2)).toList=c.toList.map λp=>(p.1,a.eval p.2):=by simp
  let⟨vs',k1,k2⟩:=Qp (place:=λn=>Z (n*m,m)) hp c.toList ps' _ cs _ g1 (λj n x hj=>by
   let⟨of,s',q1,D⟩:=g2 j n x hj;unfold CE at D;rw[hu]at D;simp[hs]at D;obtain⟨rfl,rfl⟩:=D;exact⟨_,_,q1,rfl⟩) hops (Cs.repl h2 i m hl hsz hc) hf
  have hcells:(EZ (i*m)).map ((if i*m=0 then #[] else v.cells)[·%(if i*m=0 then #[] else v.cells).size]!)=((EZ (i*m)).map (λn=>v.cells[n%v.cells.size]!)).toList.toArray:=by grind
  have hlen:l! vs'=i*m:=by
   have e1:=k2.1;have e2:l! cs=l! ((AI.repl A i).map AV.f):=by
    have:∀(ps':Y l?) (N I:Y AV),Aj N e ps'=Z I->l! I=l! N:=by
     intro ps';induction ps' with
     |nil=>intro N I h;simp[Aj,af]at h;rw[h]
     |cons p ps' ih=>
      intro N I h;simp[Aj]at h;split at h
      .split at h
       next hcc=>rw[ih _ _ h,mi (by simp_all)]
       .cases h
      .cases h
    exact this ps' _ _ hf
   rw[e1,e2];simp[mU,hl]
  refine ⟨.slice (Z ⟨w.heap.size,0,U⟩) i i,{w with heap:=w.heap.push (.cells vs'.toArray q)},.cells vs'.toArray q (0,0),?_,rG w _,JA k2,λφ' O hφ=>?_⟩
  .have h3:=fw hs w;have F:Instr.fill (λn=>Z (n*m,m)) ((EZ (i*m)).map ((if i*m=0 then #[] else v.cells)[·%(if i*m=0 then #[] else v.cells).size]!)) (c.map λx:Nat×Operand=>(x.1,a.eval x.2)).toList=Z vs'.toArray:=by grind
   unfold execOp;rw[ho];simp only[Instr.buildSlice,ec,run_underlying hu,cJ,h3];rw[aE (by omega)];by_cases h0:i*m=0
   .simp only[aR h0]at F ⊢;simp only[ec,mB,cJ,F,newRow,newObj,jZ]
   .simp only[aE h0]at F ⊢;simp only[ec,mB,cJ,h1,F,newRow,newObj,jZ]
  .simp only[];split
   next h0=>subst h0;exact .emp
   refine .G hφ (bL _) ?_ ⟨q,?_⟩
   .have:i<=i*m:=Nat.le_mul_of_pos_right _ (by omega);unfold maxLen;omega
   .unfold pd;simp[hlen]
 .cases z
end
def oM.wren {w':World} (r:oM V O S w) {k:Nat} {b':jI} {ob:Obj} (N:S i=Z z) (D:V i=Z k) (hnx:V m=U) (A:F4 w w' k ob) (hob:gQ V (tot O V S) w b' ob) (F:HF) (hnw:F m=Z b') (hnid:F i=U):
 ∃φ',φ' m=Z k/\gR V φ' S (dZ S [m,i] F) w w'/\(∀id k,φ' id=Z k->V id=Z k\/id∈[m])/\oM φ' O (dZ S [m,i] F) w':=by
 have hne:m≠i:=λe=>by grind
 have hsub:∀id x,dZ S [m,i] F id=Z x->id≠m->S id=Z x/\id≠i:=λid x hx hi=>by
  unfold dZ at hx
  grind
 have hφ:∀id,id≠m->(if id=m then Z k else V id)=V id:=λid hi=>by simp[hi]
 have nx:gR V (λid=>if id=m then Z k else V id) S (dZ S [m,i] F) w w':=by
  refine ⟨λid I hk'=>?_,⟨A.os,A.tape,A.output,by rw[A.size];exact bL _,λj hj ho=>?_,λj _=>A.jl j⟩,?_⟩
  .grind
  .exact A.other j (λe=>ho (e▸⟨i,z,N,D⟩))
  .rintro j hj ⟨id,x,h1,b⟩;by_cases hi:id=m
   .simp[hi]at b;subst b;exact⟨i,z,N,D⟩
   .have h3:V id=Z j:=by simpa[hi] using b
    exact⟨id,x,(hsub id x h1 hi).1,h3⟩
 refine ⟨_,by simp,nx,λid I hk'=>?_,⟨λid j x y kk hi hj h1 b=>?_,λid x hi=>?_,λk D=>dj (r.el k D) nx.ext.size,λg cells hg=>nx.keepF (r.gl g cells hg)⟩⟩
 .grind
 .by_cases c:id=m
  .by_cases q:j=m
   .rw[c,q]
   .exfalso;rw[hφ j q]at b;simp[c]at h1;subst h1;let⟨q1,q2⟩:=hsub j y hj q;exact q2 (r.inj j i y z k q1 N b D)
  .rw[hφ id c]at h1;let⟨p1,p2⟩:=hsub id x hi c;by_cases q:j=m
   .exfalso;simp[q]at b;subst b;exact p2 (r.inj id i x z k p1 N h1 D)
   .rw[hφ j q]at b;exact r.inj id j x y kk p1 (hsub j y hj q).1 h1 b
 .by_cases c:id=m
  .subst c;have:x=b':=by unfold dZ at hi;simp[hnw]at hi;exact hi.symm
   subst this;let⟨I,h1,b,_⟩:=r.at_ i z N;rw[D]at h1;cases h1;exact⟨k,by simp,b,ob,A.at_,hob.mono λ_ _ S=>nx.ql S⟩
  .obtain⟨p1,p2⟩:=hsub id x hi c;let⟨I,h1,b,ob',h3,h4⟩:=r.at_ id x p1;have hne':I≠k:=λe=>p2 (r.inj id i x z k p1 N (e▸h1) D)
   exact⟨I,by rw[hφ id c];exact h1,b,ob',by rw[A.other I hne'];exact h3,h4.mono λ_ _ S=>nx.ql S⟩
def oM.cs (hrep:oM V O S w) (N:S i=Z z) (F:V i=Z m) (q:z.c.isCells=J):
 ∃arr,w.heap[m]? =Z (.cells arr z.ty (0,0))/\Cs V (tot O V S) w z.c.toMx (arr.toList.take (l! z.c.toMx))/\l! z.c.toMx<=arr.size:=by
 let⟨k',h1,_,h2⟩:=hrep.at_ i z N;rw[F]at h1;cases h1;let⟨arr,h3,D,A⟩:=h2.cells q;rw[BC.len_toMx q]at D;refine ⟨arr,h3,⟨by simp;omega,λx b=>?_,λj x v b hv=>?_⟩,D⟩
 .obtain⟨j,I⟩:=eA b;exact (A j x (by rw[BC.get_toMx q];exact I)).1
 .obtain⟨_,u,h6,h7⟩:=A j x (by rw[BC.get_toMx q];exact b)
  grind
section
variable {P:Program} {o:Oper} {e:ve} {h:gy} {nx:Nat} {R:yf}
def OJ (c:FW P s=Z i):∃b,P.info? s=Z b/\b.bytes=i:=by
 unfold FW at c;cases hi:P.info? s with
 |none=>rw[hi]at c;cases c
 |some b=>rw[hi]at c;simp at c;exact⟨b,rfl,c⟩
def Dj (h:bl i m=J):i<=1099511627776/\i*m<=1099511627776:=by
 simp[bl,al]at h;simp_all
variable {a:Int}
def ac7 (h1: -9223372036854775808<=a) (c:a<=9223372036854775807):kW .i64 a=a:=by
 rw[<- wh];have:(cZ (-9223372036854775808) a&&cZ a 9223372036854775807)=J:=by simp[cZ,h1,c]
 simp[IA,Rp,this,bo]
variable {c:Operand}
def anv {q:TypeId} {l:Operand} (ho:o.op= .makeSlice s l c) (hu:P.underlying s=Z (.slice q)) (hz:tu P q=Z A) (hs:fe P q=Z i) (hb:FW P q=Z m) (hc:mM A=J) (hl:l! A=i) (hsz:i≠0)
 (z:dk (.zf q i m A l c) e h nx=Z R):ft P o e.get h.get R.eff:=by
 simp only[dk]at z;split at z
 .rename_i k1 n k2 bytes D hy;split at z
  .rename_i hcd;simp only[cZ,al,bG]at hcd;let⟨⟨h0,h1⟩,h2⟩:=hcd;let⟨r1,r2⟩:=Dj h2;cases z;refine ft.makes λφ E h' w a _ hp _=>?_
   have e1:=dL (hp l _ (by rw[ho];simp[Op.operands]) D);have e2:=dL (hp c _ (by rw[ho];simp[Op.operands]) hy);let⟨v,z1,z2,_⟩:=t7 hz w;let⟨sz,i1,i2⟩:=OJ hb;have s1:=fw hs w;have w1:kW .i64 n=n:=ac7 (by omega) (by omega);have w2:kW .i64 bytes=bytes:=ac7 (by omega) (by omega);have hbm:(m:Int)*bytes=((bytes.toNat*m:Nat):Int):=by grind
   have t1:¬(bytes<0\/(281474976710656:Int)<m*bytes):=by omega
   have hr:¬(bytes.toNat*m>roomBytes):=by unfold roomBytes;omega
   have hn0:bytes.toNat*i=0->bytes.toNat=0:=λh=>(Nat.mul_eq_zero.1 h).resolve_right hsz
   let cells:Array Value:=(EZ (bytes.toNat*i)).map (λsz=>v.cells[sz%v.cells.size]!)
   refine ⟨.slice (Z ⟨w.heap.size,0,U⟩) n.toNat bytes.toNat,{w with heap:=w.heap.push (.cells cells q)},.cells cells q (0,0),?_,rG w _,?_,λφ' O hφ=>?_⟩
   .unfold execOp;rw[ho];by_cases I:bytes.toNat*i=0
    .obtain rfl:bytes=0:=by have:=hn0 I;omega
     simp[Instr.makeSlice,run_underlying hu,e1,e2,asInt,asIntOf,typeInfo,i1,w1,askRoom,s1,newRow,newObj,jZ,cells]
     grind
    .simp[Instr.makeSlice,run_underlying hu,e1,e2,asInt,asIntOf,typeInfo,i1,i2,w1,w2,t1,show ¬n<0 by omega,show ¬bytes<n by omega,askRoom,hr,s1,I,z1,newRow,newObj,jZ,cells]
   .have cs:=Cs.repl (φ:=φ) (O:=tot E φ h') (w:=w) z2 bytes.toNat i hl hsz hc;have hle:n.toNat<=bytes.toNat:=by omega
    have hlen:n.toNat*i<=bytes.toNat*i:=co _ hle;refine qC rfl (by simp[BC.toMx,mU,hl,cells];exact hlen) λj x D=>?_
    simp only[BC.toMx,bM]at D;have hj:j<n.toNat*l! A:=by
     rcases bZ j (n.toNat*l! A) with h|h
     .exact h
     .rw[kF (by rw[mU];exact h)]at D;cases D
    have hj2:j<bytes.toNat*l! A:=by grind
    rw[Dk A _ j hj,<-Dk A bytes.toNat j hj2]at D;have F:((repl A bytes.toNat).map AV.f)[j]? =Z x:=by grind
    have N:j<l! cells.toList:=by grind
    exact⟨cs.2.1 x (bd F),cells.toList[j],by rw[<- c8];exact aH N,cs.2.2 j x _ F (aH N)⟩
   .refine .G hφ (by omega) (by unfold maxLen;omega) ⟨q,?_⟩;unfold pd;simp[cells]
  .cases z
 .cases z
def ajy {y:Operand} (N:o.op= .store s c y) (hs:fe P s=Z i) (z:dk (.store i c y) e h nx=Z R):ft P o e.get h.get R.eff:=by
 simp only[dk]at z;split at z
 .rename_i p v hx hy;unfold xZ at z;split at z
  .rename_i id off;split at z
   .rename_i b hb;split at z
    .rename_i hl;split at z
     .rename_i c' hput;cases z;unfold BC.put at hput;split at hput
      .rename_i hcc;simp only[al]at hcc;let⟨⟨c1,c2⟩,c3⟩:=hcc;have c2:=aW c2;have hl:l! v.cs=i:=by simpa using hl
       have D:c'.toMx=splice b.c.toMx off v.cs/\c'.isCells=J:=by
        split at hput
        next l ys hbl hys=>cases hput;refine ⟨?_,rfl⟩;have hv:=mz hys;rw[hv,hbl];simp only[BC.toMx];unfold splice;simp_all
        .cases hput;exact⟨rfl,rfl⟩
       refine ft.writes hb λφ E h' w a hrd hb' hp hrep=>?_
       have I:=W3 (hp y _ (by rw[N];simp[Op.operands]) hy) c3;have hpx:=hp c _ (by rw[N];simp[Op.operands]) hx;generalize hz:a.eval c=pv at hpx;cases hpx with
       |@H _ _ k hφ=>
        let⟨arr,g1,g2,g3⟩:=hrep.cs hb' hφ c1;have hvl:(a.eval y).cells.toList.length=i:=by rw[I.1];exact hl
        rw[BC.len_toMx c1]at c2;have hst:=run_storeCells_at (P:=P) k off b.ty (a.eval y).cells.toList 0 arr w g1 (by rw[hvl];omega) I.one
        let arr':Array Value:=(arr.toList.take off++(a.eval y).cells.toList++arr.toList.drop (off+i)).toArray
        have hsize:arr'.size=arr.size:=by grind
        refine ⟨.skip,w.setRow k arr',k,.cells arr' b.ty (0,0),?_,hφ,F4.setRow g1 hsize,?_,undef,.inr ⟨rfl,rfl⟩,.f (.raw _)⟩
        .have s1:=fw hs w;have hvs:(a.eval y).cells.size=i:=by simpa using hvl
         simp only[dQ,hvl]at hst;unfold execOp;rw[N];simp[Instr.storeAt,hz,Ml,storeVar,s1,hvs,hst,arr']
        .refine qC D.2 (by rw[D.1,mi (by omega),hsize];exact g3) λj q A=>?_
         rw[D.1,mS (by omega)]at A;have ha':arr'[j]? =if j<off then arr.toList[j]? else if j<off+i then (a.eval y).cells.toList[j-off]? else arr.toList[j]? :=by
          have:=mS (l:=arr.toList) (vs:=(a.eval y).cells.toList) (off:=off) (by grind) j;unfold splice at this
          grind
         have old:b.c.toMx[j]? =Z q->q.isCell=J/\∃u,arr.toList[j]? =Z u/\cm φ (tot E φ h') w q u:=λA=>by
          have hj:j<l! b.c.toMx:=(bm.1 A).1;have hj2:j<l! arr.toList:=by simp;omega
          refine ⟨g2.2.1 q (bd A),arr.toList[j],aH hj2,g2.2.2 j q _ A ?_⟩
          grind
         rw[ha'];by_cases h1:j<off
         .grind
         .rw[aE h1]at A ⊢;by_cases h2:j<off+i
          .rw[aR (by omega)]at A;rw[aR h2];have F:j-off<(a.eval y).cells.toList.length:=by omega
           exact⟨I.2.1 q (bd A),_,aH F,I.2.2 _ q _ A (aH F)⟩
          .grind
      .cases hput
     .cases z
    .cases z
   .cases z
  .cases z
 .cases z
end
section
variable {P:Program} {o:Oper} {e:ve} {h:gy} {nx:Nat} {R:yf}
def ajr (A:Addr):A.add 0=A:=by cases A;simp[Addr.add]
variable {c:Operand}
def ar7 {el:TypeId} {lo hi mx:M Operand} (ho:o.op= .slice s c lo hi mx) (hu:P.underlying s=Z (.slice el)) (hs:fe P el=Z i) (F:dk (.slc i c lo hi mx) e h nx=Z R):ft P o e.get h.get R.eff:=by
 simp only[dk]at F;split at F
 .rename_i v hx;split at F
  ·
   rename_i k k';split at F
   .rename_i hsl;rw[c6 F];refine ft.reads λφ E h' w a _ hp _=>?_
    have D:=hp c _ (by rw[ho];simp[Op.operands]) hx;have hz:∃A n x,a.eval c= .slice A n x:=by
     generalize a.eval c=z at D;obtain⟨n,hn⟩:=iK.1 hsl;unfold AV.slen at hn;split at hn
     .cases D with
      |f D=>cases D with
       |nil|sl=>exact⟨_,_,_,rfl⟩
     .cases dL D;exact⟨_,_,_,rfl⟩
     .cases D;exact⟨_,_,_,rfl⟩
     .cases D;exact⟨_,_,_,rfl⟩
     .cases D;exact⟨_,_,_,rfl⟩
     .cases hn
    obtain⟨A,n,x,hz⟩:=hz;have s1:=fw hs w;refine ⟨.slice A 0 0,?_,.emp⟩;unfold execOp;rw[ho];have z0:∀k,a.eval (.const (.int k 0))= .int k 0:=λ_=>rfl
    simp[eg,fS,run_underlying hu,hz,cX,dt,asIntOf,s1,z0]
   .cases F
  ·
   rename_i b;split at F
   .rename_i id sz' n k j hb;split at F
    .rename_i N;simp only[cZ,al,bG,cV]at N;obtain⟨⟨rfl,h0⟩,h1⟩:=N;split at F
     .rename_i blk hblk;split at F
      .rename_i hcl;simp only[al]at hcl;obtain⟨hcells,hlen⟩:=hcl;have hlen:=aW hlen;rw[BC.len_toMx hcells]at hlen;cases F;intro φ E h' w a g1 g2 g3 hrep g5;have hp:OT φ E h' w a e o:=λc y hx I=>pq hrep g3 hx I
       have hb':h' id=Z blk:=by rw[g1 id (by simp[yf.eff])];exact hblk
       have D:=hp c _ (by rw[ho];simp[Op.operands]) hx;have hbv:=dL (hp b _ (by rw[ho];simp[Op.operands]) hb);have hnx:φ nx=U:=g5 nx (by simp[yf.eff]);generalize hz:a.eval c=z at D;cases D with
       |@G _ _ _ x q hφ hn hcap hsh=>
        obtain⟨arr,a1,a2,a3⟩:=hrep.cs hb' hφ hcells;have s1:=fw hs w;have hne:nx≠id:=λe=>by rw[e,hφ]at hnx;cases hnx
        have hnw1:iy [(nx,⟨blk.ty,mN (blk.c.toMx.take (j.toNat*sz'))⟩)] nx=Z (⟨blk.ty,mN (blk.c.toMx.take (j.toNat*sz'))⟩:jI):=by simp[iy]
        have hnw2:iy [(nx,⟨blk.ty,mN (blk.c.toMx.take (j.toNat*sz'))⟩)] id=U:=by
         simp only[iy];rw[aE];intro hb;exact hne (au hb)
        have a4:=a2.take (j.toNat*sz');obtain⟨φ',p1,p2,p3,p4⟩:=hrep.wren hb' hφ hnx (w':=w) ⟨rfl,rfl,rfl,rfl,a1,λ_ _=>rfl,λ_=>rfl⟩ (b':=⟨blk.ty,mN (blk.c.toMx.take (j.toNat*sz'))⟩) (by
         obtain⟨q1,q2⟩:=mq (blk.c.toMx.take (j.toNat*sz'));refine qC q2 (by rw[q1,bD];omega) λsz c hx=>?_
         rw[q1]at hx;have hi:sz<l! ((arr.toList.take (l! blk.c.toMx)).take (j.toNat*sz')):=by rw[a4.1];exact (bm.1 hx).1
         refine ⟨a4.2.1 c (bd hx),_,?_,a4.2.2 sz c _ hx (aH hi)⟩;have hi':sz<arr.size:=by simp at hi;omega
         simp[hi']) _ hnw1 hnw2
        have hrun:(execOp a.eval o).run P w= .ok (.value (.slice (Z ⟨q,0,U⟩) j.toNat x)) w:=by
         unfold execOp;rw[ho];simp[eg,fS,run_underlying hu,hz,cX,dt,asIntOf,s1,hbv,h0,show j<=x by omega,ij]
        unfold vp;rw[hrun];exact⟨_,φ',rfl,p2,p3,p4,.G p1 (by omega) hcap hsh⟩
      .cases F
     .cases F
    .cases F
   .rename_i cells n k j hb;split at F
    .rename_i N;simp only[cZ,al,bG]at N;obtain⟨⟨h0,h1⟩,h2⟩:=N;have h2:=aW h2;rw[c6 F];refine ft.reads λφ E h' w a _ hp _=>?_
     have D:=hp c _ (by rw[ho];simp[Op.operands]) hx;have hbv:=dL (hp b _ (by rw[ho];simp[Op.operands]) hb);generalize hz:a.eval c=z at D;have s1:=fw hs w;cases D with
     |f D=>
      cases D with
      |nil A x N=>
       have hj:j=0:=by omega
       subst hj;refine ⟨.slice A 0 x,?_,by simpa using cm.f (.nil A x N)⟩;unfold execOp;rw[ho];cases A<;>simp[eg,fS,run_underlying hu,hz,cX,dt,asIntOf,s1,hbv,ajr]
      |sl _ _ x q off us hn N hO hq hcl hu' D=>
       refine ⟨.slice (Z ⟨q,off,U⟩) j.toNat x,?_,.f (.sl _ _ _ _ _ us (by omega) N hO hq (λy I=>hcl y (dF I)) (λsz hi=>hu' sz (by rw[bD]at hi;omega)) λsz y I=>?_)⟩
       .unfold execOp;rw[ho];simp[eg,fS,run_underlying hu,hz,cX,dt,asIntOf,s1,hbv,h0,show j<=x by omega,ij]
       .rw[dM]at I;split at I
        .exact D sz y I
        .cases I
    .cases F
   .cases F
  ·
   rename_i b;split at F
   .rename_i id sz' n k j hb;split at F
    .rename_i N;simp only[cZ,fV,al,bG,cV]at N;obtain⟨⟨rfl,h0⟩,h1⟩:=N;rw[c6 F];refine ft.reads λφ E h' w a _ hp _=>?_
     have D:=hp c _ (by rw[ho];simp[Op.operands]) hx;have hbv:=dL (hp b _ (by rw[ho];simp[Op.operands]) hb);generalize hz:a.eval c=z at D;cases D with
     |@G _ _ _ x q hφ hn N hsh=>
      have s1:=fw hs w;refine ⟨.slice (Z ⟨q,0+j.toNat*sz',U⟩) (n-j.toNat) (x-j.toNat),?_,?_⟩
      .unfold execOp;rw[ho];simp[eg,fS,run_underlying hu,hz,cX,dt,asIntOf,s1,hbv,h0,show j<=n by omega,show ¬x=j.toNat by omega,ij]
      .rw[b6];exact .sl hφ (by omega) (by omega)
    .cases F
   .rename_i cells n k j hb;split at F
    .rename_i N;simp only[cZ,al,bG]at N;obtain⟨⟨h0,h1⟩,h2⟩:=N;have h2:=aW h2;rw[c6 F];refine ft.reads λφ E h' w a _ hp _=>?_
     have D:=hp c _ (by rw[ho];simp[Op.operands]) hx;have hbv:=dL (hp b _ (by rw[ho];simp[Op.operands]) hb);generalize hz:a.eval c=z at D;have s1:=fw hs w;cases D with
     |f D=>
      cases D with
      |nil A x N=>
       have hj:j=0:=by omega
       subst hj;have hex:∃A',(execOp a.eval o).run P w= .ok (.value (.slice A' 0 x)) w:=by
        unfold execOp;rw[ho];cases A with
        |none=>exact⟨U,by simp[eg,fS,run_underlying hu,hz,cX,dt,asIntOf,s1,hbv]⟩
        |some A=>exact⟨Z A,by simp[eg,fS,run_underlying hu,hz,cX,dt,asIntOf,s1,hbv,ajr]⟩
       obtain⟨A',hex⟩:=hex;exact⟨.slice A' 0 x,hex,by simpa using cm.f (.nil A' x N)⟩
      |sl _ _ x q off us hn N hO hq hcl hu' D=>
       by_cases hcj:x=j.toNat
       .refine ⟨.slice (Z ⟨q,off,U⟩) 0 0,?_,?_⟩
        .unfold execOp;rw[ho];simp[eg,fS,run_underlying hu,hz,cX,dt,asIntOf,s1,hbv,h0,show j<=n by omega,hcj,show n-j.toNat=0 by omega,ij]
        .rw[show n-j.toNat=0 by omega];simpa using cm.f (.nil (Z ⟨q,off,U⟩) 0 (by unfold maxLen;omega))
       .refine ⟨.slice (Z ⟨q,off+j.toNat*i,U⟩) (n-j.toNat) (x-j.toNat),?_,.f (.sl _ _ _ _ _ (λsz=>us (j.toNat*i+sz)) (by omega) (by omega) hO hq (λy I=>hcl y (EY (dF I))) (λsz hi=>?_) λsz y I=>?_)⟩
        .unfold execOp;rw[ho];simp[eg,fS,run_underlying hu,hz,cX,dt,asIntOf,s1,hbv,h0,show j<=n by omega,hcj,ij]
        .rw[pL];refine hu' _ ?_;rw[bD,gw]at hi;omega
        .rw[dM]at I;split at I
         .rw[iX]at I;exact D _ y I
         .cases I
    .cases F
   .cases F
  ·
   rename_i b b' _;split at F
   .rename_i cells n k j k' j' hb hb';split at F
    .rename_i N;simp only[cZ,al,bG]at N;obtain⟨⟨⟨hjj,h0⟩,h1⟩,h2⟩:=N;subst hjj;have h2:=aW h2;rw[c6 F];refine ft.reads λφ E h' w a _ hp _=>?_
     have D:=hp c _ (by rw[ho];simp[Op.operands]) hx;have hbv:=dL (hp b _ (by rw[ho];simp[Op.operands]) hb);have hbv':=dL (hp b' _ (by rw[ho];simp[Op.operands]) hb');generalize hz:a.eval c=z at D;have s1:=fw hs w;cases D with
     |f D=>
      cases D with
      |nil A x N=>
       have hj:j=0:=by omega
       subst hj;refine ⟨.slice A 0 0,?_,by simpa using cm.qh (lX.nil A 0 (by unfold maxLen;omega))⟩;unfold execOp;rw[ho];cases A<;>simp[eg,fS,run_underlying hu,hz,cX,dt,asIntOf,s1,hbv,hbv',ajr]
      |sl _ _ x q off us hn N hO hq hcl hu' D=>
       refine ⟨.slice (Z ⟨q,off,U⟩) j.toNat j.toNat,?_,.qh (.sl _ _ _ _ _ us (bL _) (by omega) hO hq (λy I=>hcl y (dF I)) (λsz hi=>hu' sz (by rw[bD]at hi;omega)) λsz y I=>?_)⟩
       .unfold execOp;rw[ho];simp[eg,fS,run_underlying hu,hz,cX,dt,asIntOf,s1,hbv,hbv',h0,show j<=x by omega,ij];intro hlt;omega
       .rw[dM]at I;split at I
        .exact D sz y I
        .cases I
    .cases F
   .cases F
  ·
   rename_i b b';split at F
   .rename_i cells n k j k' m hb hb';split at F
    .rename_i N;simp only[cZ,al,bG]at N;obtain⟨⟨⟨h0,h1⟩,h3⟩,h2⟩:=N;have h2:=aW h2;rw[c6 F];refine ft.reads λφ E h' w a _ hp _=>?_
     have D:=hp c _ (by rw[ho];simp[Op.operands]) hx;have hbv:=dL (hp b _ (by rw[ho];simp[Op.operands]) hb);have hbv':=dL (hp b' _ (by rw[ho];simp[Op.operands]) hb');generalize hz:a.eval c=z at D;have s1:=fw hs w;cases D with
     |f D=>
      cases D with
      |nil A x N=>
       have hj:j=0:=by omega
       have hm:m=0:=by omega
       subst hj hm;have hex:∃A',(execOp a.eval o).run P w= .ok (.value (.slice A' 0 x)) w:=by
        unfold execOp;rw[ho];cases A with
        |none=>exact⟨U,by simp[eg,fS,run_underlying hu,hz,cX,dt,asIntOf,s1,hbv,hbv']⟩
        |some A=>exact⟨Z A,by simp[eg,fS,run_underlying hu,hz,cX,dt,asIntOf,s1,hbv,hbv',ajr]⟩
       obtain⟨A',hex⟩:=hex;exact⟨.slice A' 0 x,hex,by simpa using cm.f (.nil A' x N)⟩
      |sl _ _ x q off us hn N hO hq hcl hu' D=>
       have hjm:j.toNat<=m.toNat:=by omega
       have hmn:m.toNat<=n:=by omega
       by_cases hcj:x=j.toNat
       .refine ⟨.slice (Z ⟨q,off,U⟩) 0 0,?_,?_⟩
        .unfold execOp;rw[ho];simp[eg,fS,run_underlying hu,hz,cX,dt,asIntOf,s1,hbv,hbv',h0,h1,show m<=x by omega,hcj,show m.toNat-j.toNat=0 by omega,ij];rw[aR (by omega),aR (by omega)]
        .rw[show m.toNat-j.toNat=0 by omega];simpa using cm.f (.nil (Z ⟨q,off,U⟩) 0 (by unfold maxLen;omega))
       .refine ⟨.slice (Z ⟨q,off+j.toNat*i,U⟩) (m.toNat-j.toNat) (x-j.toNat),?_,.f (.sl _ _ _ _ _ (λsz=>us (j.toNat*i+sz)) (by omega) (by omega) hO hq (λy I=>hcl y (EY (dF I))) (λsz hi=>?_) λsz y I=>?_)⟩
        .unfold execOp;rw[ho];simp[eg,fS,run_underlying hu,hz,cX,dt,asIntOf,s1,hbv,hbv',h0,h1,show m<=x by omega,show 0<=m by omega,show max m 0=m by omega,hcj,ij]
        .rw[pL];refine hu' _ ?_;rw[bD,gw]at hi;omega
        .rw[dM]at I;split at I
         .rw[iX]at I;exact D _ y I
         .cases I
    .cases F
   .cases F
  .cases F
 .cases F
def VY {rd:ι} (hrow:y.row? h i=Z (N,m,rd)) (hrd:∀sz∈rd,S sz=h.get sz) (hrep:oM V O S w) (src:cm V (tot O V S) w y v):
 ∃A c vs,v= .slice A m c/\Cs V (tot O V S) w N vs/\l! vs=m*i/\(A=U->vs=[])/\(∀I,A=Z I->∀(j:Nat) u,vs[j]? =Z u->w.cell? (I.add j)=Z u):=by
 have emp:∀A c,v= .slice A 0 c->N=[]->m=0->∃A c vs,v= .slice A m c/\Cs V (tot O V S) w N vs/\l! vs=m*i/\(A=U->vs=[])/\(∀I,A=Z I->∀(j:Nat) u,vs[j]? =Z u->w.cell? (I.add j)=Z u):=by
  rintro A c rfl rfl rfl;exact⟨A,c,[],rfl,⟨rfl,(by intro y z;cases z),(by intro j y v z;simp at z)⟩,by simp,λ_=>rfl,by intro I _ j u D;simp at D⟩
 have own:∀(id off n c k:Nat) (b:jI),V id=Z k->S id=Z b->b.c.isCells=J->off+n*i<=b.c.len->v= .slice (Z ⟨k,off,U⟩) n c->N=(b.c.toMx.drop off).take (n*i)->m=n->
  ∃A c vs,v= .slice A m c/\Cs V (tot O V S) w N vs/\l! vs=m*i/\(A=U->vs=[])/\(∀I,A=Z I->∀(j:Nat) u,vs[j]? =Z u->w.cell? (I.add j)=Z u):=by
  rintro id off n c k b hφ hb F hle rfl rfl rfl;let⟨arr,g1,g2,g3⟩:=hrep.cs hb hφ F;rw[BC.len_toMx F]at hle;refine ⟨_,c,((arr.toList.take (l! b.c.toMx)).drop off).take (m*i),rfl,(g2.drop off).take _,?_,nofun,?_⟩
  .simp;omega
  .intro I had j u D;cases had;rw[ij];rw[dM]at D;split at D
   .rw[iX,dM]at D;split at D
    .rw[c8]at D;simp[O1,g1,D]
    .cases D
   .cases D
 unfold AV.row? at hrow;split at hrow
 .rename_i cells n;split at hrow
  .rename_i hle;have hle:=aW hle;simp only[af,aU]at hrow;obtain⟨rfl,rfl,rfl⟩:=hrow;cases src with
   |f src=>
    cases src with
    |nil a c F=>exact emp a c rfl (by simp) rfl
    |sl _ _ c b off us hn F hO hb hcl D src=>
     refine ⟨_,c,(lY (n*i)).map us,rfl,⟨by simp;omega,λy z=>?_,λj y u z hu'=>?_⟩,by simp,nofun,?_⟩
     .obtain⟨x,hy,rfl⟩:=bR.1 z;exact hcl x (dF hy)
     .obtain⟨rfl,hj⟩:=xO us _ _ _ hu';rw[bM,dM,aR hj]at z;cases hq:cells[j]? with
      |none=>rw[hq]at z;cases z
      |some q=>rw[hq]at z;simp at z;subst z;exact .f (src j q hq)
     .intro I had j u hu';cases had;obtain⟨rfl,hj⟩:=xO us _ _ _ hu';rw[ij];exact D j (by omega)
  .cases hrow
 .simp only[af,aU]at hrow;obtain⟨rfl,rfl,rfl⟩:=hrow;exact emp U 0 (dL src) rfl rfl
 .simp only[af,aU]at hrow;obtain⟨rfl,rfl,rfl⟩:=hrow;cases src with
  |@emp a=>exact emp a 0 rfl rfl rfl
 .rename_i id sz' n;split at hrow
  .rename_i hsz;split at hrow
   .rename_i b hb;split at hrow
    .rename_i F;simp only[al]at F;simp only[af,aU]at hrow;obtain⟨rfl,rfl,rfl⟩:=hrow;cases src with
     |@G _ _ _ c k hφ hn hc' hsh=>
      exact own id 0 n c k b hφ (by rw[hrd id (by simp)];exact hb) F.1 (by simp_all) rfl (by simp) rfl
    .cases hrow
   .cases hrow
  .cases hrow
 .rename_i id off n;split at hrow
  .rename_i b hb;split at hrow
   .rename_i F;simp only[al]at F;simp only[af,aU]at hrow;obtain⟨rfl,rfl,rfl⟩:=hrow;cases src with
    |@sl _ _ _ c k hφ hn hc'=>exact own id off n c k b hφ (by rw[hrd id (by simp)];exact hb) F.1 (aW F.2) rfl rfl rfl
   .cases hrow
  .cases hrow
 .cases hrow
def ar8 {N:TypeId} {A:Operand} (D:o.op= .slice s c (Z A) U U) (hu:P.underlying s=Z (.array i N)) (hs:fe P N=Z m) (hn:i<=65536) (x:dk (.sla i m c A) e h nx=Z R):ft P o e.get h.get R.eff:=by
 simp only[dk]at x;split at x
 .rename_i id off k j hx hb;split at x
  .rename_i I;simp only[cZ,fV,al,bG]at I;let⟨h0,h1⟩:=I;rw[c6 x];refine ft.reads λφ E h' w a _ hp _=>?_
   have F:=hp c _ (by rw[D];simp[Op.operands]) hx;have hbv:=dL (hp A _ (by rw[D];simp[Op.operands]) hb);generalize hz:a.eval c=z at F;cases F with
   |@H _ _ q hφ=>
    have s1:=fw hs w;refine ⟨.slice (Z ⟨q,off+j.toNat*m,U⟩) (i-j.toNat) (i-j.toNat),?_,.sl hφ (by omega) (by unfold maxLen;omega)⟩;unfold execOp;rw[D];simp[eg,Ml,run_underlying hu,hz,cX,dt,asIntOf,s1,hbv,h0,show j<=i by omega,show ¬i=j.toNat by omega,ij]
  .cases x
 .cases x
def Zb {x:M Operand} (c:afj e i x=Z m) {a:Act} (hev:∀q y,x=Z q->kc e q=Z (.f (.raw y))->a.eval q=y):(x=U/\m=i)\/∃q k j,x=Z q/\a.eval q= .int k j/\0<=j/\m=j.toNat:=by
 cases x with
 |none=>simp only[afj,af]at c;exact .inl ⟨rfl,c.symm⟩
 |some q=>
  simp only[afj]at c;split at c
  .rename_i k j z;split at c
   next h0=>simp only[cZ,bG]at h0;simp only[af]at c;exact .inr ⟨q,k,j,rfl,hev q _ rfl z,h0,c.symm⟩
   .cases c
  .cases c
def WS (s:ByteArray) (l m:Nat) (h1:l<=m) (c:m<=s.data.size):s.extract l m=⟨((s.data.toList.drop l).take (m-l)).toArray⟩:=by
 apply ByteArray.ext;rw[ByteArray.data_extract];apply Array.ext';simp[Array.toList_extract,List.extract_eq_take_drop]
def ar6 {lo hi:M Operand} (D:o.op= .slice s c lo hi U) (A:P.underlying s=Z .string) (x:dk (.sls c lo hi) e h nx=Z R):ft P o e.get h.get R.eff:=by
 simp only[dk]at x;split at x
 .rename_i t hx;split at x
  .rename_i l m hl hm;split at x
   .rename_i I;simp only[al]at I;have c1:=aW I.1;have c2:=aW I.2;rw[c6 x];refine ft.reads λφ E h' w a _ hp _=>?_
    have h1:=dL (hp c _ (by rw[D];simp[Op.operands]) hx);refine ⟨_,?_,.f (.raw _)⟩;rw[<- WS t l m c1 c2];have c2':m<=t.size:=c2;have b1:=Zb hl (a:=a) λq y e1 e2=>dL (hp q _ (by rw[D,e1];simp[Op.operands]) e2)
    have b2:=Zb hm (a:=a) λq y e1 e2=>dL (hp q _ (by rw[D,e1];simp[Op.operands]) e2)
    unfold execOp;rw[D];rcases b1 with ⟨rfl,rfl⟩|⟨q1,k1,F,rfl,e1,z1,rfl⟩<;>rcases b2 with ⟨rfl,e2⟩|⟨q2,k2,z,rfl,e2,N,rfl⟩
    .have e2:m=t.size:=e2;subst e2;simp[eg,fS,run_underlying A,h1,cX]
    .simp[eg,fS,run_underlying A,h1,cX,dt,asIntOf,e2,N,show z<=t.size by omega]
    .have e2:m=t.size:=e2;subst e2;simp[eg,fS,run_underlying A,h1,cX,dt,asIntOf,e1,z1,show F<=t.size by omega]
    .simp[eg,fS,run_underlying A,h1,cX,dt,asIntOf,e1,z1,e2,N,show z<=t.size by omega,show F<=z by omega,show F<=max z 0 by omega]
   .cases x
  .cases x
 .cases x
def WV {c:_} (q:P.underlying s=Z (.interface c)) (w:World):(Op.equal s .nilIface .nilIface).run P w= .ok J w:=by
 have key:∀d,(Op.equalIn (d+1) s .nilIface .nilIface).run P w= .ok J w:=λd=>by simp[Op.equalIn,run_underlying q]
 exact key 9999
def ag0 {neg:Bool} {op:BinOp} {y:Operand} {A:TypeId} {D:_} (z:o.op= .binOp op s c y A) (hop:op=if neg then .neq else .eql) (q:y= .const .nilIface) (I:P.underlying s=Z (.interface D)) (x:dk (.jh neg c) e h nx=Z R):ft P o e.get h.get R.eff:=by
 simp only[dk]at x;split at x
 .rename_i F;rw[c6 x];refine ft.reads λφ E h' w a _ hp _=>?_
  have h1:=dL (hp c _ (by rw[z];simp[Op.operands]) F);have N:a.eval y= .nilIface:=by rw[q];rfl
  refine ⟨_,?_,.f (.raw _)⟩;unfold execOp;rw[z];simp[h1,N];subst hop q;cases neg<;>simp[eqGuard,binOp,WV I]
 .cases x
def art {I el:TypeId} (ho:o.op= .convert s I c) (hs:P.underlying s=Z .string) (hd:P.underlying I=Z (.slice el)) (he:P.underlying el=Z (.int .u8)) (A:dk (.byt c) e h nx=Z R):ft P o e.get h.get R.eff:=by
 simp only[dk]at A;split at A
 .rename_i t hx;split at A
  .rename_i hsz;have hsz:=aW hsz;have hsz:t.size<=65536:=hsz;rw[c6 A];intro φ E h' w a h1 h2 h3 F h5;have hv:=dL (pq F h3 (x:=c) (by rw[ho];simp[Op.operands]) hx);have hrun:(execOp a.eval o).run P w= .ok (.value (.slice (Z ⟨w.heap.size,0,U⟩) t.size (grownCap w t.size 0 el))) (Lib.bytesWorld w el t):=by
    unfold execOp;rw[ho];simp[hv,Lib.run_convert_string_bytes w s I el t hs hd he]
   have hM:gR φ φ h' h' w (Lib.bytesWorld w el t):=⟨λ_ _ h=>h,⟨rfl,rfl,rfl,by rw[Lib.bytesWorld_size];omega,λk z _=>Lib.bytesWorld_at_old w el t k z,λk z=>by unfold pd;rw[Lib.bytesWorld_at_old w el t k z]⟩,λ_ _ h=>h⟩
   unfold vp;rw[hrun];have hown:∀k,own φ h' k->k<w.heap.size:=λk ⟨i,b,hb,z⟩=>by
    let⟨k',e1,_,ob,e3,_⟩:=F.at_ i b hb;rw[z]at e1;cases e1;rcases bZ k w.heap.size with q|q
    .exact q
    .rw[Array.getElem?_eq_none q]at e3;cases e3
   refine ⟨_,φ,rfl,?_,λ_ _ h=>.inl h,?_,?_⟩<;>simp only[yf.eff,sk]
   .exact hM
   .exact F.moved hM λk z=>Lib.bytesWorld_at_old w el t k (hown k z)
   .refine .f (.sl _ _ _ _ _ (λi=>.int .u8 (t.data.toList.getD i 0).toNat) (grownCap_ge w _ _ _) (grownCap_le_maxLen w _ _ _ (by unfold maxLen;omega)) (λD=>?_) (by rw[Lib.bytesWorld_size];omega) (λy x=>?_) (λj hj=>?_) λj y x=>?_)
    .rcases D with D|D
     .exact bO (F.el _ D) (by omega)
     .exact bO (hown _ D) (by omega)
    .obtain⟨b,_,rfl⟩:=bR.1 x;rfl
    .rw[b6];exact Lib.bytesWorld_cell w el t j (by simpa using hj)
    .rw[bM]at x;cases N:t.data.toList[j]? with
     |none=>rw[N]at x;cases x
     |some b=>rw[N]at x;simp at x;subst x;simp only[List.getD,N];exact .raw _
  .cases A
 .cases A
def OK :∀{src:Y AV} {l:ζ} {vs:ξ},CY src=Z l->Cs V O w src vs->∃ns:η,vs=ns.map (Value.int .u8)/\l=ns.map (λn=>O2 n.toNat)
 |[],l,vs,c,D=>by
  simp only[CY,af]at c;have I:=D.1;cases vs with
  |nil=>exact⟨[],rfl,c.symm⟩
  |cons _ _=>simp at I
 |x::r,l,vs,c,D=>by
  unfold CY at c;split at c
  next heq=>cases heq
  .rename_i n r' heq;cases heq;split at c
   .rename_i l' A;simp only[af]at c;obtain⟨h1,N,F⟩:=D;cases vs with
    |nil=>simp at h1
    |cons v vs=>
     have z:=dL (F 0 _ _ rfl rfl);obtain⟨ns,e1,e2⟩:=OK A ⟨by simpa using h1,λx q=>N x (cq _ q),λj x v q z=>F (j+1) x v (by simpa using q) (by simpa using z)⟩;exact⟨n::ns,by rw[b5,<-e1,z],by rw[<- c,b5,e2]⟩
   .cases c
  .cases c
def R2:∀(ns:η) (b:ByteArray),ns.foldl (λr n=>r.push (O2 n.toNat)) b=⟨b.data++(ns.map λn=>O2 n.toNat).toArray⟩
 |[],b=>by simp
 |n::ns,b=>by rw[dg,R2 ns];simp[ByteArray.push]
def ar5 {z D:TypeId} (I:o.op= .convert s z c) (hs:P.underlying s=Z (.slice D)) (he:P.underlying D=Z (.int .u8)) (hd:P.underlying z=Z .string) (q:dk (.tos c) e h nx=Z R):ft P o e.get h.get R.eff:=by
 simp only[dk]at q;split at q
 .rename_i y N;split at q
  .rename_i src m rd hrow;split at q
   .rename_i l hl;cases q;refine ft.reads λφ E h' w a hrd hp hrep=>?_
    let⟨A,x,vs,hv,hcs,hlen,hnone,hcell⟩:=VY hrow hrd hrep (hp c _ (by rw[I];simp[Op.operands]) N);let⟨ns,e1,e2⟩:=OK hl hcs;refine ⟨_,?_,.f (.raw _)⟩;unfold execOp;rw[I];have key:(convert s z (a.eval c)).run P w= .ok (.string ⟨l.toArray⟩) w:=by
     rw[hv,run_convert_bytes_string w s z D A m x hs he hd];cases A with
     |none=>
      have:=hnone rfl;subst this;cases ns with
      |nil=>subst e2;simp[Conv.bytesToString];rfl
      |cons _ _=>simp at e1
     |some F=>
      rw[run_bytesToString w F m x ns (by
       have:=run_loadCells_list (P:=P) w F vs (hcell F rfl);rw[hlen,yQ]at this;rw[this,e1]),R2,e2]
      simp[ByteArray.empty,ByteArray.emptyWithCapacity];rfl
    simp[key]
   .cases q
  .cases q
 .cases q
def ahd {rd:ι} (hrow:y.row? h i=Z (N,m,rd)) (hrd:∀sz∈rd,S sz=h.get sz) (hrep:oM V O S w) (I:cm V (tot O V S) w y v) {D:TypeId} (z:P.underlying s=Z (.slice D)):
 ∃vs,Src P i s v m vs w/\Cs V (tot O V S) w N vs:=by
 obtain⟨A,c,vs,rfl,h1,h2,h3,src⟩:=VY hrow hrd hrep I;refine ⟨vs,?_,h1⟩;cases A with
 |none=>
  have:=h3 rfl;subst this;have hm:m*i=0:=by grind
  refine ⟨.inl ⟨D,z⟩,λ_=>rfl,run_firstCells_none w i m m c,run_firstCells_none w.drew i m m c,by simp[hm],λ_ h=>by cases h⟩
 |some F=>exact Src.ofSlice w z F m c vs h2 (src F rfl) h1.one
def adq :∀{l:ι},mem i l=J↔i∈l
 |[]=>by simp[mem]
 |y::r=>by
  simp[mem,eX,adq (l:=r),bB];constructor
  .rintro (h|h)
   .simp_all
   .exact .inr h
  .rintro (h|h)
   .simp_all
   .exact .inr h
def ao2 {u el el':TypeId} {x:Operand} (ho:o.op= .call {callee:=.builtin .copy,args:=#[c,x],argTypes:=#[s,u]}) (I:P.underlying s=Z (.slice el)) (hu':P.underlying u=Z (.slice el')) (hs:fe P el=Z i) (z:dk (.copy i c x) e h nx=Z R):ft P o e.get h.get R.eff:=by
 simp only[dk]at z;split at z
 .rename_i id sz' n y hd hx;split at z
  .rename_i blk src m rd hblk hrow;split at z
   .rename_i hc;simp only[al,cV,cK]at hc;obtain⟨⟨rfl,hmem⟩,hlen⟩:=hc;split at z
    .rename_i c' hput;cases z;unfold BC.put at hput;split at hput
     .rename_i hcc;simp only[al]at hcc;let⟨⟨c1,c2⟩,c3⟩:=hcc;have c2:=aW c2;rw[b6]at c2;have F:c'.toMx=splice blk.c.toMx 0 (src.take (kU m n*sz'))/\c'.isCells=J:=by
       split at hput
       next l ys hbl hys=>cases hput;refine ⟨?_,rfl⟩;have hv:=mz hys;rw[hv,hbl];simp only[BC.toMx];unfold splice;simp[gX,sW]
       .cases hput;exact⟨rfl,rfl⟩
      refine ft.writes hblk λφ E h' w a hrd hb' hp hrep=>?_
      have hpd:=hp c _ (by rw[ho];simp[Op.operands,c9]) hd;have hpx:=hp x _ (by rw[ho];simp[Op.operands,c9]) hx;let⟨A,d,vs,hv,q1,q2,q3,q4⟩:=VY hrow (λsz hi=>hrd sz (by simp[hi])) hrep hpx;generalize hz:a.eval c=pv at hpd;cases hpd with
      |@G _ _ _ cap k hφ hn hcap hsh=>
       let⟨arr,g1,g2,g3⟩:=hrep.cs hb' hφ c1;rw[BC.len_toMx c1]at c2;have hmn:kU m n<=m:=Nat.min_le_left _ _;have hle:kU m n*sz'<=m*sz':=co _ hmn
       let ns:=vs.take (kU m n*sz')
       have hnl:l! ns=kU m n*sz':=by simp only[ns,bD,q2];omega
       have hsl:l! (src.take (kU m n*sz'))=kU m n*sz':=by rw[bD,<-q1.1,q2];omega
       have csn:=q1.take (kU m n*sz');rw[hsl]at c2;have hst:=run_storeCells_at (P:=P) k 0 blk.ty ns 0 arr w g1 (by rw[hnl];omega) csn.one
       let arr':Array Value:=(arr.toList.take 0++ns++arr.toList.drop (0+kU m n*sz')).toArray
       have hsize:arr'.size=arr.size:=by simp only[arr',tL,aD,bD,gw,Array.length_toList,hnl];omega
       have hfc:(yp sz' (kU m n) (.slice A m d)).run P w= .ok ns.toArray w:=by
        cases A with
        |none=>
         have:ns=[]:=by simp[ns,q3 rfl]
         rw[this];exact run_firstCells_none w sz' _ _ _
        |some ad=>exact run_firstCells_some w sz' _ ad m d ns hnl (λj u I=>q4 ad rfl j u (by
          simp only[ns,dM]at I;split at I
          .exact I
          .cases I))
       refine ⟨.value (.int .i64 (kU m n)),w.setRow k arr',k,.cells arr' blk.ty (0,0),?_,hφ,F4.setRow g1 hsize,?_,_,.inl rfl,.f (.raw _)⟩
       .have s1:=fw hs w;simp only[dQ,hnl]at hst;unfold execOp;rw[ho];simp[resolve,invoke,builtin,Builtin.copy_,run_underlying I,hz,hv,Builtin.lenOf,s1,hfc,hst,goInt,arr']
       .refine qC F.2 (by rw[F.1,mi (by rw[hsl];omega),hsize];exact g3) λj q D=>?_
        rw[F.1,mS (by rw[hsl];omega)]at D;have ha':arr'[j]? =if j<0 then arr.toList[j]? else if j<0+l! ns then ns[j-0]? else arr.toList[j]? :=by grind
        rw[ha',aE (by omega)];rw[aE (by omega),hsl]at D;rw[hnl];by_cases h2:j<0+kU m n*sz'
        .rw[aR h2]at D ⊢;have N:j-0<l! ns:=by rw[hnl];omega
         exact⟨csn.2.1 q (bd D),_,aH N,csn.2.2 _ q _ D (aH N)⟩
        .rw[aE h2]at D ⊢;have hj:j<l! blk.c.toMx:=(bm.1 D).1;have hj2:j<l! arr.toList:=by simp;omega
         refine ⟨g2.2.1 q (bd D),arr.toList[j],aH hj2,g2.2.2 j q _ D ?_⟩;rw[dM,aR hj,aH hj2]
     .cases hput
    .cases z
   .cases z
  .cases z
 .cases z
def ars {el:TypeId} (ho:o.op= .call {callee:=.builtin .clear,args:=#[c],argTypes:=#[s]}) (hu:P.underlying s=Z (.slice el)) (hz:tu P el=Z A) (hc:mM A=J) (hl:l! A=i) (hsz:i≠0) (D:dk (.clr i A c) e h nx=Z R):ft P o e.get h.get R.eff:=by
 simp only[dk]at D;split at D
 .rename_i id off n hx;split at D
  .rename_i blk hblk;split at D
   .rename_i hn;have hn:=aW hn;obtain⟨m,rfl⟩:∃m,n=m+1:=⟨n-1,by omega⟩
    split at D
    .rename_i c' hput;cases D;unfold BC.put at hput;split at hput
     .rename_i hcc;simp only[al]at hcc;let⟨⟨c1,c2⟩,c3⟩:=hcc;have c2:=aW c2;have hsrc:l! ((repl A (m+1)).map AV.f)=(m+1)*i:=by rw[bN,mU,hl]
      rw[hsrc]at c2;have I:c'.toMx=splice blk.c.toMx off ((repl A (m+1)).map AV.f)/\c'.isCells=J:=by
       split at hput
       next l ys hbl hys=>cases hput;refine ⟨?_,rfl⟩;have hv:=mz hys;rw[hv,hbl];simp only[BC.toMx];unfold splice;simp[gX,sW]
       .cases hput;exact⟨rfl,rfl⟩
      refine ft.writes hblk λφ E h' w a hrd hb' hp hrep=>?_
      have hpx:=hp c _ (by rw[ho];simp[Op.operands,c9]) hx;generalize hzv:a.eval c=pv at hpx;cases hpx with
      |@sl _ _ _ cap k hφ hn2 hcap=>
       let⟨arr,g1,g2,g3⟩:=hrep.cs hb' hφ c1;rw[BC.len_toMx c1]at c2;let⟨v,z1,z2,_⟩:=t7 hz w;have csn:=Cs.repl (φ:=φ) (O:=tot E φ h') (w:=w) z2 (m+1) i hl hsz hc
       let ns:=(lM v.cells (m+1)).toList
       have hvs:v.cells.size=i:=by rw[<- hl,<-z2];simp
       have hns:ns=((EZ ((m+1)*i)).map (λsz=>v.cells[sz%v.cells.size]!)).toList:=by simp only[ns,lM,hvs]
       have hnl:l! ns=(m+1)*i:=by rw[hns];simp
       rw[<- hns]at csn;have hst:=run_storeCells_at (P:=P) k off blk.ty ns 0 arr w g1 (by rw[hnl];omega) csn.one
       let arr':Array Value:=(arr.toList.take (off+0)++ns++arr.toList.drop (off+0+l! ns)).toArray
       have hsize:arr'.size=arr.size:=by grind
       refine ⟨.value (.tuple #[]),w.setRow k arr',k,.cells arr' blk.ty (0,0),?_,hφ,F4.setRow g1 hsize,?_,_,.inl rfl,.qb (vs:=[]) rfl λj y v hy=>by simp at hy⟩
       .unfold execOp;rw[ho];have hst2:(storeCells ⟨k,off,U⟩ (lM v.cells (m+1)).toList).run P w= .ok () (w.setRow k arr'):=hst;simp[resolve,invoke,builtin,Builtin.clear_,run_underlying hu,hzv,z1,hst2]
       .refine qC I.2 (by rw[I.1,mi (by rw[hsrc];omega),hsize];exact g3) λj q z=>?_
        rw[I.1,mS (by rw[hsrc];omega)]at z;have ha':arr'[j]? =if j<off then arr.toList[j]? else if j<off+l! ns then ns[j-off]? else arr.toList[j]? :=by
         have:=mS (l:=arr.toList) (vs:=ns) (off:=off) (by grind) j;unfold splice at this
         grind
        rw[ha'];rw[hsrc]at z;rw[hnl];by_cases h1:j<off
        .rw[aR h1]at z ⊢;have hj:j<l! blk.c.toMx:=(bm.1 z).1;have F:j<l! arr.toList:=by simp;omega
         refine ⟨g2.2.1 q (bd z),arr.toList[j],aH F,g2.2.2 j q _ z ?_⟩
         grind
        rw[aE h1]at z ⊢;by_cases h2:j<off+(m+1)*i
        .rw[aR h2]at z ⊢;have N:j-off<l! ns:=by rw[hnl];omega
         exact⟨csn.2.1 q (bd z),_,aH N,csn.2.2 _ q _ z (aH N)⟩
        .rw[aE h2]at z ⊢;have hj:j<l! blk.c.toMx:=(bm.1 z).1;have F:j<l! arr.toList:=by simp;omega
         refine ⟨g2.2.1 q (bd z),arr.toList[j],aH F,g2.2.2 j q _ z ?_⟩
         grind
     .cases hput
    .cases D
   .cases D
  .cases D
 .cases D
end
def ND (w:World) (ob:Obj):U5 w (w.drew.alloc ob) ob:=U5.drawn (w.drawn+1) (rG {w with drawn:=w.drawn+1} ob)
section
variable {P:Program} {o:Oper} {e:ve} {h:gy} {nx:Nat} {R:yf}
def Ja (c:v.cells.toList=A) (q:l! A=i) (n:Nat):(lM v.cells n).size=n*i:=by
 have:v.cells.size=i:=by grind
 simp[lM,this]
variable {c:Operand}
def LW {u x:TypeId} {t:Operand} {i:TypeInfo} (ho:o.op= .call {callee:=.builtin .append,args:=#[t,c],argTypes:=#[s,u]}) (hu:P.underlying s=Z (.slice x)) (i1:P.info? x=Z i) (hz:tu P x=Z A) (hzl:l! A=i.size)
 (hrep:oM V O S w) (hnx:V nx=U) {z:M Addr} {n cap:Nat} {olds vs:ξ} {oldA:Y AV} (hsl:Q.eval t= .slice z n cap)
 (hold:(yp i.size n (.slice z n cap)).run P w.drew= .ok olds.toArray w.drew) (csold:Cs V (tot O V S) w oldA olds) (hol:l! olds=n*i.size) (hsrc:Src P i.size u (Q.eval c) m vs w) (hcs:Cs V (tot O V S) w N vs)
 (hg:cap<n+m) (r1:n+m<=1099511627776) (r2:(n+m)*i.bytes<=1099511627776) (del:ι) (hdel:∀j∈del,j≠nx):
 o.wp P Q w (λa' w'=>∃v φ',a'=Q.put o.dst v/\gR V φ' S (dZ S (nx::del) (iy [(nx,⟨x,mN (oldA++N)⟩)])) w w'/\(∀i k,φ' i=Z k->V i=Z k\/i∈[nx])/\
  oM φ' O (dZ S (nx::del) (iy [(nx,⟨x,mN (oldA++N)⟩)])) w'/\cm φ' (tot O φ' (dZ S (nx::del) (iy [(nx,⟨x,mN (oldA++N)⟩)]))) w' (.G nx i.size (n+m)) v) (λ_ _ _=>False):=by
 let⟨F,z1,z2,i',D,z3⟩:=t7 hz w;rw[i1]at D;cases D;have hfb:=growslice_fits (need:=n+m) (old:=cap) (bytes:=i.bytes) hg (by omega);have hrun:=run_append_grow_src w s u o.type x i F hu i1 z3 z n cap olds hold (Q.eval c) m vs hsrc hg (by omega) hfb;have hgc:=grownCap_ge w (n+m) cap x;have hgm:=grownCap_le_maxLen w (n+m) cap x (by unfold maxLen;omega);generalize grownCap w (n+m) cap x=Gc at hrun hgc hgm;have cs:=csold.append hcs;have hnl:=hsrc.newsLen;let⟨φ',p1,p2,p3,p4⟩:=hrep.wnew hnx (ND w _) (b:=⟨x,mN (oldA++N)⟩) (ob:=.cells ((olds++vs).toArray++lM F.cells (Gc-(n+m))) x (0,0)) (by
  let⟨q1,q2⟩:=mq (oldA++N);refine qC q2 (by rw[q1,<-cs.1];simp) λj q I=>?_
  rw[q1]at I;have src:j<l! (olds++vs):=by rw[cs.1];exact (bm.1 I).1
  refine ⟨cs.2.1 q (bd I),_,?_,cs.2.2 j q _ I (aH src)⟩;rw[Array.getElem?_append_left (by omega),Cr,aH src]) del (iy [(nx,⟨x,mN (oldA++N)⟩)]) (by simp[iy]) (λj src hne=>by
   simp only[iy];rw[aE];intro hb;exact hne (au hb).symm)
 have hexec:(execOp Q.eval o).run P w= .ok (.value (.slice (Z ⟨w.heap.size,0,U⟩) (n+m) Gc)) (w.drew.alloc (.cells ((olds++vs).toArray++lM F.cells (Gc-(n+m))) x)):=by
  unfold execOp;rw[ho];simp[resolve,invoke,builtin,ec,mB,cJ,List.map_toArray,b5,kV,hsl,hrun]
 unfold vp;rw[hexec];refine ⟨_,φ',rfl,p2,p3,p4,.G p1 hgc hgm ⟨x,?_⟩⟩;have:=(ND w (.cells ((olds++vs).toArray++lM F.cells (Gc-(n+m))) x (0,0))).at_;unfold pd;have hzs:=Ja z2 hzl (Gc-(n+m));have e1:(n+m)*i.size+(Gc-(n+m))*i.size=Gc*i.size:=by rw[<- pe];congr 1;omega
 grind
def arw {u el el':TypeId} {t:Operand} (ho:o.op= .call {callee:=.builtin .append,args:=#[t,c],argTypes:=#[s,u]}) (hu:P.underlying s=Z (.slice el)) (hu':P.underlying u=Z (.slice el')) (hs:fe P el=Z i) (hb:FW P el=Z m) (hz:tu P el=Z A) (hzl:l! A=i) (hsz:i≠0)
 (F:dk (.app el i m t c) e h nx=Z R):ft P o e.get h.get R.eff:=by
 let⟨sz,i1,i2⟩:=OJ hb;have i3:sz.size=i:=by unfold fe at hs;rw[i1]at hs;simpa using hs
 subst i2 i3;simp only[dk]at F;split at F
 .rename_i bv y hsv D;split at F
  .rename_i src bytes rd hrow;have common:∀{φ:PM} {E:Nat->Prop} {h':HF} {w:World} {a:Act},(∀sz∈rd,h' sz=h.get sz)->OT φ E h' w a e o->oM φ E h' w->∃vs,Src P sz.size u (a.eval c) bytes vs w/\Cs φ (tot E φ h') w src vs:=
    λhrd hp hrep=>ahd hrow hrd hrep (hp c _ (by rw[ho];simp[Op.operands,c9]) D) hu'
   have exec:∀{w w':World} {a:Act} {v:Value},(Ga #[s,u] o.type #[a.eval t,a.eval c]).run P w= .ok v w'->(execOp a.eval o).run P w= .ok (.value v) w':=by
    intro w w' a v hrun;unfold execOp;rw[ho];simp[resolve,invoke,builtin,hrun]
   split at F
   .rename_i id sz' n;split at F
    .rename_i blk hblk;split at F
     .rename_i hc;simp only[al,cV,cK]at hc;obtain⟨⟨⟨⟨⟨rfl,hmem⟩,hcells⟩,hlen⟩,hty⟩,hroom⟩:=hc;have hlen:=aW hlen;rw[BC.len_toMx hcells]at hlen;let⟨r1,r2⟩:=Dj hroom;cases F;subst hty;intro φ E h' w a h1 h2 h3 hrep h5;have hp:OT φ E h' w a e o:=λc y D hy=>pq hrep h3 D hy
      have hb':h' id=Z blk:=by rw[h1 id (by simp[yf.eff])];exact hblk
      let⟨vs,hsrc,hcs⟩:=common (λsz hi=>h1 sz (by simp[yf.eff,hi])) hp hrep;have hpd:=hp t _ (by rw[ho];simp[Op.operands,c9]) hsv;have hnx:φ nx=U:=h5 nx (by simp[yf.eff]);have hwv:=hp t _ (by rw[ho];simp[Op.operands,c9]) hsv;generalize hzv:a.eval t=pv at hpd;cases hpd with
      |@G _ _ _ cap k hφ hn hcap hsh=>
       let⟨arr,g1,g2,g3⟩:=hrep.cs hb' hφ hcells;have hne:nx≠id:=λe=>by rw[e,hφ]at hnx;cases hnx
       have harr:arr.size=cap*sz.size:=by
        let⟨ty,hty⟩:=hsh;unfold pd at hty;rw[g1]at hty;simp at hty;exact hty.2
       have hnl:=hsrc.newsLen;have hnn:n*sz.size<=arr.size:=by omega
       have csnew:Cs φ (tot E φ h') w (blk.c.toMx.take (n*sz.size)++src) (arr.toList.take (n*sz.size)++vs):=by
        have:=(g2.take (n*sz.size)).append hcs
        rwa [List.take_take,Nat.min_eq_left hlen]at this
       have hnw1:iy [(nx,⟨blk.ty,mN (blk.c.toMx.take (n*sz.size)++src)⟩)] nx=Z ⟨blk.ty,mN (blk.c.toMx.take (n*sz.size)++src)⟩:=by simp[iy]
       have hnw2:iy [(nx,⟨blk.ty,mN (blk.c.toMx.take (n*sz.size)++src)⟩)] id=U:=by
        simp only[iy];rw[aE];intro hb;exact hne (au hb)
       by_cases hfit:n+bytes<=cap
       ·
        have hend:n*sz.size+l! vs<=arr.size:=by
         rw[hnl,harr,<-pe];exact co _ hfit
        have hst:=run_storeCells_at (P:=P) k (n*sz.size) blk.ty vs 0 arr w g1 (by omega) hsrc.one;simp only[dQ]at hst
        let arr':Array Value:=(arr.toList.take (n*sz.size)++vs++arr.toList.drop (n*sz.size+l! vs)).toArray
        have hsize:arr'.size=arr.size:=by simp only[arr',tL,aD,bD,gw,Array.length_toList];omega
        have hrun:(Ga #[s,u] o.type #[a.eval t,a.eval c]).run P w= .ok (.slice (Z ⟨k,0,U⟩) (n+bytes) cap) (w.setRow k arr'):=by
         rw[hzv];rcases hsrc.kind with ⟨e',hk⟩|hk<;>simp[Ga,run_underlying hu,run_underlying hk,sizeOf,typeInfo,i1,hsrc.len,hfit,hsrc.cells,ij,hst,arr']
        let⟨φ',p1,p2,p3,p4⟩:=hrep.wren hb' hφ hnx (F4.setRow g1 hsize) (b':=⟨blk.ty,mN (blk.c.toMx.take (n*sz.size)++src)⟩) (by
         let⟨q1,q2⟩:=mq (blk.c.toMx.take (n*sz.size)++src);refine qC q2 (by rw[q1,<-csnew.1,hsize];simp;omega) λj q hq=>?_
         rw[q1]at hq;have hj:j<l! (arr.toList.take (n*sz.size)++vs):=by rw[csnew.1];exact (bm.1 hq).1
         refine ⟨csnew.2.1 q (bd hq),_,?_,csnew.2.2 j q _ hq (aH hj)⟩;simp only[arr',Cr];rw[cE hj,aH hj]) _ hnw1 hnw2
        unfold vp;rw[exec hrun];refine ⟨_,φ',rfl,p2,p3,p4,.G p1 hfit hcap ⟨blk.ty,?_⟩⟩;unfold pd;rw[setRow_heap w k arr arr' blk.ty (0,0) g1];simp[hsize,harr]
       ·
        have hold:(yp sz.size n (.slice (Z ⟨k,0,U⟩) n cap)).run P w.drew= .ok (arr.toList.take (n*sz.size)).toArray w.drew:=by
         refine run_firstCells_some w.drew sz.size n _ n cap _ (by simp;omega) λj v I=>?_
         rw[dM]at I;split at I
         .rw[c8]at I;rw[ij,b6];have hcl:w.cell? ⟨k,j,U⟩=Z v:=by simp[O1,g1,I]
          simpa using hcl
         .cases I
        exact LW ho hu i1 hz hzl hrep hnx hzv hold (by
         have:=g2.take (n*sz.size)
         rwa [List.take_take,Nat.min_eq_left hlen]at this) (by simp;omega) hsrc hcs (by omega) r1 r2 [id] (λj hj=>by simp at hj;subst hj;exact λe=>hne e.symm)
     .cases F
    .cases F
   .rename_i cells n;split at F
    .rename_i hc;simp only[al]at hc;let⟨hlen,hroom⟩:=hc;have hlen:=aW hlen;let⟨r1,r2⟩:=Dj hroom;split at F
     .rename_i hm;have hm:bytes=0:=by simpa using hm
      subst hm;cases F;refine ft.reads λφ E h' w a hrd hp hrep=>?_
      let⟨vs,hsrc,hcs⟩:=common hrd hp hrep;have N:=hp t _ (by rw[ho];simp[Op.operands,c9]) hsv;generalize hz:a.eval t=q at N;cases N with
      |@qh _ _ z N=>
       refine ⟨.slice z n n,exec ?_,.f N⟩;rw[hz];have hvs:vs=[]:=by have:=hsrc.newsLen;simpa using this
       have hc0:=hsrc.cells;rw[hvs]at hc0;rcases hsrc.kind with ⟨e',hk⟩|hk<;>cases z<;>simp[Ga,run_underlying hu,run_underlying hk,sizeOf,typeInfo,i1,hsrc.len,hc0,storeCells]
     .rename_i hm;have hm:bytes≠0:=by simpa using hm
      cases F;intro φ E h' w a h1 h2 h3 hrep h5;have hp:OT φ E h' w a e o:=λc y D hy=>pq hrep h3 D hy
      let⟨vs,hsrc,hcs⟩:=common (λsz hi=>h1 sz hi) hp hrep;have N:=hp t _ (by rw[ho];simp[Op.operands,c9]) hsv;generalize hz':a.eval t=q at N;cases N with
      |@qh _ _ z N=>
       have key:∃olds:ξ,(yp sz.size n (.slice z n n)).run P w.drew= .ok olds.toArray w.drew/\Cs φ (tot E φ h') w ((cells.take (n*sz.size)).map .f) olds/\l! olds=n*sz.size:=by
        cases N with
        |nil a x _=>
         refine ⟨[],?_,⟨by simp,(by intro c D;simp at D),(by intro j c v D;simp at D)⟩,by simp⟩;cases z with
         |none=>exact run_firstCells_none w.drew sz.size 0 0 0
         |some ad=>exact run_firstCells_some w.drew sz.size 0 ad 0 0 [] (by simp) (by intro j v I;simp at I)
        |sl _ _ x b off us hn hc hO hb hcl hu2 hrr=>
         refine ⟨(lY (n*sz.size)).map us,?_,⟨by simp;omega,?_,?_⟩,by simp⟩
         .refine run_firstCells_some w.drew sz.size n _ n n _ (by simp) λj v I=>?_
          rw[bM]at I;rcases bZ j (n*sz.size) with hj|hj
          .rw[List.getElem?_range hj]at I;simp only[bw,af]at I;subst I;rw[ij];exact hu2 j (by omega)
          .rw[kF (by simpa using hj)]at I;cases I
         .intro c D;obtain⟨y,hy,rfl⟩:=bR.1 D;exact hcl y (dF hy)
         .intro j c v D I;rw[bM,dM]at D;split at D
          .rename_i hj;rw[bM,List.getElem?_range hj]at I;simp only[bw,af]at I;subst I;cases hcj:cells[j]? with
           |none=>rw[hcj]at D;cases D
           |some y=>
            rw[hcj]at D;simp only[bw,af]at D;subst D;exact .f (hrr j y hcj)
          .cases D
       let⟨olds,k1,k2,k3⟩:=key;have:=LW (nx:=nx) ho hu i1 hz hzl hrep (h5 nx (by simp[yf.eff])) hz' k1 k2 k3 hsrc hcs (by omega) r1 r2 [] (by simp);simpa[yf.eff] using this
    .cases F
   .split at F
    .rename_i hc;simp only[al]at hc;let⟨hb0,hroom⟩:=hc;let⟨r1,r2⟩:=Dj hroom;have hbase:∀{φ:PM} {O:Nat->Prop} {w:World} {v:Value},cm φ O w bv v->∃z,v= .slice z 0 0:=by
      intro φ O w v N;unfold CK at hb0;split at hb0
      .cases N;exact⟨_,rfl⟩
      .rename_i q;cases dL N;unfold Bg at hb0;split at hb0
       .exact⟨_,rfl⟩
       .cases hb0
      .cases hb0
     split at F
     .rename_i hm;have hm:bytes=0:=by simpa using hm
      subst hm;cases F;refine ft.reads λφ E h' w a hrd hp hrep=>?_
      let⟨vs,hsrc,hcs⟩:=common hrd hp hrep;have N:=hp t _ (by rw[ho];simp[Op.operands,c9]) hsv;let⟨z,hA⟩:=hbase N;refine ⟨a.eval t,exec ?_,N⟩;rw[hA];have hvs:vs=[]:=by have:=hsrc.newsLen;simpa using this
      have hc0:=hsrc.cells;rw[hvs]at hc0;rcases hsrc.kind with ⟨e',hk⟩|hk<;>cases z<;>simp[Ga,run_underlying hu,run_underlying hk,sizeOf,typeInfo,i1,hsrc.len,hc0,storeCells]
     .rename_i hm;have hm:bytes≠0:=by simpa using hm
      cases F;intro φ E h' w a h1 h2 h3 hrep h5;have hp:OT φ E h' w a e o:=λc y D hy=>pq hrep h3 D hy
      let⟨vs,hsrc,hcs⟩:=common (λsz hi=>h1 sz hi) hp hrep;let⟨z,hA⟩:=hbase (hp t _ (by rw[ho];simp[Op.operands,c9]) hsv);have hold:(yp sz.size 0 (.slice z 0 0)).run P w.drew= .ok ([]:ξ).toArray w.drew:=by
       cases z with
       |none=>exact run_firstCells_none w.drew sz.size 0 0 0
       |some ad=>exact run_firstCells_some w.drew sz.size 0 ad 0 0 [] (by simp) (by intro j v I;simp at I)
      have:=LW (nx:=nx) (n:=0) (cap:=0) (olds:=[]) (oldA:=[]) ho hu i1 hz hzl hrep (h5 nx (by simp[yf.eff])) hA hold ⟨rfl,(by intro c D;cases D),(by intro j c v D;simp at D)⟩ (by simp) hsrc hcs (by omega) (by omega) (by simpa using r2) [] (by simp);simpa[yf.eff] using this
    .cases F
  .cases F
 .cases F
end
section
variable {P:Program} {o:Oper} {e:ve} {h:gy} {nx:Nat} {R:yf}
def arf (z:o.op= .makeMap s U) (c:dk .mkm e h nx=Z R):ft P o e.get h.get R.eff:=by
 simp[dk,af]at c;subst c;refine ft.makes λφ E h' w a _ _ _=>?_
 refine ⟨.map (Z w.heap.size),{w with heap:=w.heap.push (.map #[] 0)},.map #[] 0,?_,rG w _,⟨#[],0,rfl,by unfold MpK;rfl,by intro j x q;simp at q⟩,λφ' O hφ=>.mp hφ⟩;unfold execOp;rw[z];simp[Instr.makeMap,newObj,jZ]
variable {c:Operand}
def ar9 (q:o.op= .range s c) (A:P.underlying s=Z .string) (x:dk (.rng c) e h nx=Z R):ft P o e.get h.get R.eff:=by
 simp[dk]at x;split at x
 .rename_i t z;simp[af]at x;subst x;refine ft.makes λφ E h' w a _ hp _=>?_
  have D:=dL (hp c _ (by rw[q];simp[Op.operands]) z);refine ⟨.pointer (Z ⟨w.heap.size,0,U⟩),{w with heap:=w.heap.push (.stringIter t 0)},.stringIter t 0,?_,rG w _,rfl,λφ' O hφ=>.H hφ⟩;unfold execOp;rw[q];simp[Instr.range,run_underlying A,D,newObj,jZ]
 .cases x
def ug {ob ob':Obj} (q:w.heap[i]? =Z ob) (h1:∀c t f,ob≠ .cells c t f) (A:∀c t f,ob'≠ .cells c t f):F4 w {w with heap:=w.heap.setIfInBounds i ob'} i ob':=by
 have hlt:i<w.heap.size:=(cR.1 q).1;have hat:(w.heap.setIfInBounds i ob')[i]? =Z ob':=by simp[hlt]
 have hot:∀j,j≠i->(w.heap.setIfInBounds i ob')[j]? =w.heap[j]? :=λj z=>Array.getElem?_setIfInBounds_ne (λe=>z e.symm)
 refine ⟨rfl,rfl,rfl,by simp,hat,hot,λj=>?_⟩;unfold pd
 grind
def ara (ho:o.op= .next c J) (q:dk (.nxt c) e h nx=Z R):ft P o e.get h.get R.eff:=by
 simp only[dk]at q;split at q
 .rename_i id hx;split at q
  .rename_i ty s p hid;split at q
   .rename_i b hb;cases q;refine ft.writes hid λφ E h' w a hrd F hp hrep=>?_
    have N:=hp c _ (by rw[ho];simp[Op.operands]) hx;generalize hz:a.eval c=z at N;cases N with
    |@H _ _ k hφ=>
     let⟨k',q1,_,ob,I,q3⟩:=hrep.at_ id _ F;rw[hφ]at q1;cases q1;have q3:ob= .stringIter s p:=q3;subst q3;have hps:p<s.size:=by
      have:=(bm.1 hb).1;simpa using this
     have hget:s.get! p=b:=by
      have:s.data[p]? =Z b:=by grind
      have hpd:p<s.data.size:=(cR.1 this).1;have h2:s.data[p]! =s.data[p]:=getElem!_pos s.data p hpd;rw[oK hpd]at this;simp only[ByteArray.get!,h2];exact eW this
     have hdec:∃x:Nat,Utf8.decode s p=(x,wdA b s p)/\rnA b s p=(x:Int):=by
      unfold wdA rnA;cases hlt:db b.toNat 128 with
      |true=>
       refine ⟨b.toNat,?_,rfl⟩;have:=aW hlt;unfold Utf8.decode
       grind
      |false=>exact⟨(Utf8.decode s p).1,rfl,rfl⟩
     let⟨x,hdec,hc⟩:=hdec;refine ⟨.value (.tuple #[.bool J,.int .i64 p,.int .i32 x]),_,k,.stringIter s (p+wdA b s p),?_,hφ,ug I (by simp) (by simp),rfl,_,.inl rfl,?_⟩
     .unfold execOp;rw[ho];simp[Instr.next,hz,getObj,jZ,I,hps,hdec,setObj,goInt]
     .refine cm.qb (vs:=[.bool J,.int .i64 p,.int .i32 x]) rfl λj y v A D=>?_
      rw[hc]at A;rcases j with _|_|_|j<;>simp at A D
      .subst A D;exact .f (.raw _)
      .subst A D;exact .f (.raw _)
      .subst A D;exact .f (.raw _)
   .rename_i hb;cases q;refine ft.writes hid λφ E h' w a hrd F hp hrep=>?_
    have N:=hp c _ (by rw[ho];simp[Op.operands]) hx;generalize hz:a.eval c=z at N;cases N with
    |@H _ _ k hφ=>
     let⟨k',q1,_,ob,I,q3⟩:=hrep.at_ id _ F;rw[hφ]at q1;cases q1;have q3:ob= .stringIter s p:=q3;subst q3;have hps:¬p<s.size:=by simp_all
     refine ⟨.value (.tuple #[.bool aa]),w,k,.stringIter s p,?_,hφ,⟨rfl,rfl,rfl,rfl,I,λ_ _=>rfl,λ_=>rfl⟩,rfl,_,.inl rfl,?_⟩
     .unfold execOp;rw[ho];simp[Instr.next,hz,getObj,jZ,I,hps]
     .refine cm.qb (vs:=[.bool aa]) rfl λj y v A D=>?_
      rcases j with _|j<;>simp at A D;subst A D;exact .f (.raw _)
  .cases q
 .cases q
def vS {a b:ByteArray}:sg a b=J↔a=b:=by
 unfold sg;constructor
 .intro h;have h1:a.data.toList=b.data.toList:=by grind
  cases a;simp_all
 .rintro rfl;simp
def Bo (a b:ByteArray):(a==b)=sg a b:=by
 have h1:(a==b)=(a.data==b.data):=rfl;rw[h1,Bool.eq_iff_iff,vS,cV];constructor
 .intro h;cases a;congr 1
 .rintro rfl;rfl
def kd (str:Bool) (d:TypeDesc):Prop:=if str then d= .string else ∃k,d= .int k
def Dh {str:Bool} {d:TypeDesc} (hd:kd str d) {z:Value} (A:wN str v=J) (c:vn .eql v z=Z (.bool b)):Instr.sameNow d v z=Z b:=by
 cases str with
 |true=>
  subst hd;cases v<;>simp[wN]at A;cases z<;>simp only[vn]at c<;>try (simp at c;done)
  simp[af,C7]at c;simp[Instr.sameNow,Bo,c]
 |false=>
  obtain⟨q,rfl⟩:=hd;cases v<;>simp[wN]at A;cases z<;>simp only[vn]at c<;>try (simp at c;done)
  split at c
  next hkk=>have hkk':=eq_of_beq hkk;subst hkk';simp[af,C7]at c;simp[Instr.sameNow,<-c]
  .cases c
def Tk {d:TypeDesc} (hd:kd b d) (A:wN b v=J):∀(es:Y k?) (ents:Y MapEntry) (i:Nat),ents.map (·.key)=es.map (·.1)->∀r,rY v es=Z r->
 (r=U/\iL d v ents i=Z U)\/∃(j:Nat) (k:AV) (m:MapEntry) (q:Value),r=Z k/\es[j]? =Z (q,k)/\ents[j]? =Z m/\iL d v ents i=Z (Z (i+j,m.val))/\vn .eql v q=Z (.bool J)
 |[],ents,i,he,r,h=>by
  cases ents with
  |nil=>simp[rY,af]at h;exact .inl ⟨h.symm,rfl⟩
  |cons _ _=>simp at he
 |(q,k)::es,ents,i,he,r,h=>by
  cases ents with
  |nil=>simp at he
  |cons m ents=>
   simp[b5,eF]at he;let⟨c,D⟩:=he;simp[rY]at h;split at h
   next z=>simp[af]at h;refine .inr ⟨0,k,m,q,h.symm,rfl,rfl,?_,z⟩;simp only[iL];rw[c,Dh hd A z];rfl
   .rename_i z;have N:=Dh hd A z;rcases Tk hd A es ents (i+1) D r h with ⟨h1,F⟩|⟨j,I,m',k'',h1,F,h3,h4,h5⟩
    .refine .inl ⟨h1,?_⟩;simp[iL];rw[c,N];exact F
    .refine .inr ⟨j+1,I,m',k'',h1,by simpa using F,by simpa using h3,?_,h5⟩;simp[iL]
     grind
   .cases h
def Di {d:TypeDesc} (z:P.underlying s=Z d) (hd:kd b d) (str:Bool) (v:Value) (w:World):(lC str 10000 s v).run P w= .ok () w:=by
 have key:∀n,(lC str (n+1) s v).run P w= .ok () w:=λn=>by
  unfold kd at hd;cases b with
  |true=>simp[bo]at hd;subst hd;simp[lC,run_underlying z]
  |false=>simp[cg,eV]at hd;obtain⟨q,rfl⟩:=hd;simp[lC,run_underlying z]
 exact key 9999
def ad5 {ok:Bool} (h:cm V O w y v):cm V O w (pkV ok y b) (if ok then .tuple #[v,.bool b] else v):=by
 cases ok with
 |false=>exact h
 |true=>
  refine cm.qb (vs:=[v,.bool b]) rfl λj x u c q=>?_
  rcases j with _|_|j<;>simp at c q
  .grind
  .subst c q;exact .f (.raw _)
def alt {kt I:TypeId} {k:Operand} {str:Bool} {d:TypeDesc} (F:o.op= .lookup s c k b) (hu:P.underlying s=Z (.map kt I)) (N:P.underlying kt=Z d) (hd:kd str d) (A:(P.info? I).bind (·.zero)=Z v) (x:dk (.jb str b v c k) e h nx=Z R):ft P o e.get h.get R.eff:=by
 simp only[dk]at x;split at x
 .rename_i id key hx hkx;split at x
  .rename_i es hid;split at x
   .rename_i hko;have fin:∀val:AV,(∀(φ:PM) (E:Nat->Prop) (h':HF) (w:World) (a:Act),h' id=Z ⟨0,.mp es⟩->OT φ E h' w a e o->oM φ E h' w->∃z,(execOp a.eval o).run P w= .ok (.value z) w/\cm φ (tot E φ h') w val z)->R=⟨val,[id],[],[],[]⟩->ft P o e.get h.get R.eff:=by
     rintro val hv rfl;exact ft.reads λφ E h' w a hrd hp hrep=>hv φ E h' w a (by rw[hrd id (by simp)];exact hid) hp hrep
    have zrun:∀w:World,(zeroValue I).run P w= .ok v w:=λw=>by
     cases hi:P.info? I with
     |none=>rw[hi]at A;cases A
     |some i=>rw[hi]at A;simp only[aB]at A;simp[zeroValue,typeInfo,hi,A]
    have main:∀r,rY key es=Z r->∀(φ:PM) (E:Nat->Prop) (h':HF) (w:World) (a:Act),h' id=Z ⟨0,.mp es⟩->OT φ E h' w a e o->oM φ E h' w->
     ∃z,(execOp a.eval o).run P w= .ok (.value z) w/\cm φ (tot E φ h') w (match r with|some z=>pkV b z J|none=>pkV b (raw v) aa) z:=by
     intro r hr φ E h' w a hb' hp hrep;have hrx:=hp c _ (by rw[F];simp[Op.operands]) hx;have hrk:=dL (hp k _ (by rw[F];simp[Op.operands]) hkx);generalize q:a.eval c=zz at hrx;cases hrx with
     |@mp _ ok hφ=>
      let⟨k',q1,_,ob,q2,q3⟩:=hrep.at_ id _ hb';rw[hφ]at q1;cases q1;obtain⟨ents,clock,rfl,q4,q5⟩:=q3;have q4:ents.toList.map (·.key)=es.map (·.1):=by unfold MpK at q4;exact q4
      have hck:=Di (P:=P) N hd ents.isEmpty key w;rcases Tk hd hko es ents.toList 0 q4 r hr with ⟨h1,h2⟩|⟨j,z,m,k',h1,h2,h3,h4,_⟩
      .subst h1;refine ⟨_,?_,ad5 (.f (.raw v))⟩;unfold execOp;rw[F];cases b<;>simp[Instr.lookup,run_underlying hu,q,hrk,getObj,jZ,q2,hck,xm,run_underlying N,h2,zrun]
      .subst h1;let⟨_,D,h7⟩:=q5 j _ h2;unfold MpV at D;obtain⟨m',D,rfl⟩:=D;rw[c8]at h3;rw[h3]at D;cases D;refine ⟨_,?_,ad5 h7⟩;unfold execOp;rw[F];cases b<;>simp[Instr.lookup,run_underlying hu,q,hrk,getObj,jZ,q2,hck,xm,run_underlying N,h4]
    split at x
    next z hf=>simp only[af]at x;exact fin _ (main _ hf) x.symm
    next hf=>simp only[af]at x;exact fin _ (main _ hf) x.symm
    .cases x
   .cases x
  .cases x
 .cases x
def Yc {d:TypeDesc} (hd:kd b d) (D:wN b v=J) {k:AV}:∀(es es':Y k?) (ents:Y MapEntry) (i:Nat),ents.map (·.key)=es.map (·.1)->xD v k es=Z es'->
 (iL d v ents i=Z U/\es'=es++[(v,k)])\/∃(j:Nat) (m:MapEntry) (q:Value) (A:AV),es[j]? =Z (q,A)/\ents[j]? =Z m/\iL d v ents i=Z (Z (i+j,m.val))/\vn .eql v q=Z (.bool J)/\es'=es.set j (v,k)
 |[],es',ents,i,he,h=>by
  cases ents with
  |nil=>simp[xD,af]at h;exact .inl ⟨rfl,by simp[h]⟩
  |cons _ _=>simp at he
 |(q,A)::es,es',ents,i,he,h=>by
  cases ents with
  |nil=>simp at he
  |cons m ents=>
   simp[b5,eF]at he;let⟨c,F⟩:=he;simp[xD]at h;split at h
   next z=>simp[af]at h;refine .inr ⟨0,m,q,A,rfl,rfl,?_,z,by simp[h]⟩;simp only[iL];rw[c,Dh hd D z];rfl
   .rename_i z;have N:=Dh hd D z;split at h
    .rename_i es2 hes2;simp[af]at h;subst h;rcases Yc hd D es es2 ents (i+1) F hes2 with ⟨h1,I⟩|⟨j,m',k'',v'',h1,I,h3,h4,h5⟩
     .refine .inl ⟨?_,by simp[I]⟩;simp[iL];rw[c,N];exact h1
     .refine .inr ⟨j+1,m',k'',v'',by simpa using h1,by simpa using I,?_,h4,by simp[h5]⟩;simp[iL]
      grind
    .cases h
   .cases h
def aex {q:Value} (z:wN b v=J) (c:vn .eql v q=Z (.bool J)):lB 10000 q v=J/\q=v:=by
 cases b with
 |true=>
  cases v<;>simp[wN]at z;cases q<;>simp only[vn]at c<;>try (simp at c;done)
  simp[af,C7]at c;have:=vS.1 c;subst this;exact⟨by simp[lB,Bo,c],rfl⟩
 |false=>
  cases v<;>simp[wN]at z;cases q<;>simp only[vn]at c<;>try (simp at c;done)
  split at c
  next hkk=>have hkk':=eq_of_beq hkk;subst hkk';simp[af,C7,cV]at c;subst c;exact⟨by simp[lB],rfl⟩
  .cases c
def als {kt el:TypeId} {k y:Operand} {str:Bool} {d:TypeDesc} (I:o.op= .mapUpdate s c k y) (hu:P.underlying s=Z (.map kt el)) (hk:P.underlying kt=Z d) (hd:kd str d) (x:dk (.jf str c k y) e h nx=Z R):ft P o e.get h.get R.eff:=by
 simp only[dk]at x;split at x
 .rename_i id key v D hkx hy;split at x
  .rename_i es hid;split at x
   .rename_i hko;split at x
    .rename_i es' hput;cases x;refine ft.writes hid λφ E h' w a hrd hb' hp hrep=>?_
     have hrx:=hp c _ (by rw[I];simp[Op.operands]) D;have hrk:=dL (hp k _ (by rw[I];simp[Op.operands]) hkx);have hry:=hp y _ (by rw[I];simp[Op.operands]) hy;generalize A:a.eval c=zz at hrx;cases hrx with
     |@mp _ b hφ=>
      let⟨k',q1,_,ob,N,q3⟩:=hrep.at_ id _ hb';rw[hφ]at q1;cases q1;obtain⟨ents,clock,rfl,q4,q5⟩:=q3;have q4:ents.toList.map (·.key)=es.map (·.1):=by unfold MpK at q4;exact q4
      have q5:∀(j:Nat) c,es[j]? =Z c->∃m,ents[j]? =Z m/\cm φ (tot E φ h') w c.2 m.val:=λj c D=>by
       let⟨_,z,g2⟩:=q5 j c D;unfold MpV at z;obtain⟨m,z,rfl⟩:=z;exact⟨m,z,g2⟩
      have Ff:∀(es:Y k?) (ents:Array MapEntry) (clock:Nat),ents.toList.map (·.key)=es.map (·.1)->(∀(j:Nat) c,es[j]? =Z c->∃m,ents[j]? =Z m/\cm φ (tot E φ h') w c.2 m.val)->gQ φ (tot E φ h') w ⟨0,.mp es⟩ (.map ents clock):=λes ents clock z g2=>⟨ents,clock,rfl,by unfold MpK;exact z,λj c D=>by
       let⟨m,g3,g4⟩:=g2 j c D;exact⟨_,by unfold MpV;exact⟨m,g3,rfl⟩,g4⟩⟩
      have hck:=Di (P:=P) hk hd aa key w;have hlen:ents.size=l! es:=by have:=iQ ah q4;simpa using this
      rcases Yc hd hko es es' ents.toList 0 q4 hput with ⟨h1,rfl⟩|⟨j,m,k',v',h1,h2,h3,h4,rfl⟩
      .refine ⟨.skip,_,b,.map (ents.push {key,val:=a.eval y,born:=clock}) (clock+1),?_,hφ,ug N (by simp) (by simp),Ff _ _ _ (by simp[q4]) λj q F=>?_,undef,.inr ⟨rfl,rfl⟩,.f (.raw _)⟩
       .unfold execOp;rw[I];simp[Instr.mapUpdate,run_underlying hu,A,hrk,getObj,jZ,N,hck,xm,run_underlying hk,h1,setObj]
       .rcases bZ j (l! es) with hj|hj
        .grind
        .rw[cw hj]at F;have hj0:j-l! es=0:=by grind
         rw[hj0]at F;simp at F;subst F;exact⟨_,by rw[Array.getElem?_push,aR (by omega)],hry⟩
      .obtain⟨s1,s2⟩:=aex hko h4;subst s2;rw[c8]at h2;rw[b6]at h3;have hjl:j<ents.size:=(cR.1 h2).1;have hmk:m.key=k':=by
        have e1:(ents.toList.map (·.key))[j]? =Z m.key:=by rw[bM,c8,h2];rfl
        rw[q4,bM,h1]at e1;simpa using e1.symm
       refine ⟨.skip,_,b,.map (ents.modify j λe=>{e with key:=k',val:=a.eval y}) clock,?_,hφ,ug N (by simp) (by simp),Ff _ _ _ ?_ λi q F=>?_,undef,.inr ⟨rfl,rfl⟩,.f (.raw _)⟩
       .unfold execOp;rw[I];simp[Instr.mapUpdate,run_underlying hu,A,hrk,getObj,jZ,N,hck,xm,run_underlying hk,h3,setObj,h2,hmk,Instr.keyThatStays,s1]
       .apply O4;intro i;simp only[bM,c8,j7,Array.getElem?_modify];have e2:∀i:Nat,(ents[i]?).map (λm:MapEntry=>m.key)=(es[i]?).map (λp:Value×AV=>p.1):=λi=>by
         have:=iQ (λl=>l[i]?) q4;simpa[bM,c8] using this
        grind
       .grind
    .cases x
   .cases x
  .cases x
 .cases x
end
section
variable {P:Program} {o:Oper} {e:ve} {h:gy} {nx:Nat} {R:yf}
def Js {d:TypeDesc} (q:P.underlying s=Z d) (hd:(match d with|.int _=>J|.bool=>J|.string=>J|_=>aa)=J) (cs:Array Value) (j:Nat) (v:Value) (c:cs[j]? =Z v) (w:World):(part s cs j).run P w= .ok v w:=by
 unfold part;simp[isAgg,ec,run_underlying q,cJ];cases d<;>simp at hd<;>simp[c]
def aa4 {d:TypeDesc} (c:P.underlying s=Z d) (hd:(match d with|.int _=>J|.bool=>J|.string=>J|_=>aa)=J) {x y:FV} (hxy:uS d x y=Z b) {u:Value} (A:x= .raw u) (z:y= .raw v) (n:Nat) (w:World):(Op.equalIn (n+1) s u v).run P w= .ok b w:=by
 subst A z;cases d<;>simp at hd<;>cases u<;>cases v<;>simp only[uS]at hxy<;>first|(cases hxy;done)|skip
 .cases hxy;simp[Op.equalIn,run_underlying c]
 .split at hxy
  next D=>have q:=eq_of_beq D;subst q;cases hxy;simp[Op.equalIn,run_underlying c]
  .cases hxy
 .cases hxy;simp[Op.equalIn,run_underlying c,Bo]
abbrev Qs (n:Nat) (xs q:Array Value) (f:Field) (_:M Bool×Unit):Sem (ForInStep (M Bool×Unit)):=
 if f.name≠ "_" then do
  let a←part f.type xs f.offset
  let b←part f.type q f.offset
  let c←Op.equalIn (n+1) f.type a b
  if (!c)=J then pure (ForInStep.done (Z aa,())) else pure (F_ (U,()))
 else pure (F_ (U,()))
def Oh (n:Nat) (w:World) (xs c:Array Value):∀(N:Y Field) (ds:Y TypeDesc) (a b:Y FV) (k:Nat) (r:Bool),kX P k N=Z ds->
 (∀(j:Nat) x u,a[j]? =Z x->xs[k+j]? =Z u->x= .raw u\/∀v,x≠ .raw v)->(∀(j:Nat) x u,b[j]? =Z x->c[k+j]? =Z u->x= .raw u\/∀v,x≠ .raw v)->(∀(j:Nat),j<l! a->k+j<xs.size)->(∀(j:Nat),j<l! b->k+j<c.size)->iP ds a b=Z r->
 (forIn N (U,()) (Qs n xs c)).run P w= .ok (if r then (U,()) else (Z aa,())) w
 |[],ds,a,b,k,r,hp,_,_,_,_,he=>by
  simp only[kX,af]at hp;subst hp;cases a<;>cases b<;>simp[iP]at he;subst he;simp
 |f::N,ds,a,b,k,r,hp,ha,hb,hla,hlb,he=>by
  simp only[kX]at hp;split at hp
  .rename_i d ds' hu hp';split at hp
   .rename_i hc;simp only[al,bne_iff_ne,ne_eq,cV]at hc;let⟨⟨hn,hof⟩,hd⟩:=hc;cases hp;cases a with
    |nil=>cases b<;>simp[iP]at he
    |cons x a=>
     cases b with
     |nil=>simp[iP]at he
     |cons y b=>
      simp only[iP]at he;have F:k<xs.size:=by have:=hla 0 (by simp);omega
      have D:k<c.size:=by have:=hlb 0 (by simp);omega
      have hraw:∀(z:FV) (q:Value),(z= .raw q\/∀v,z≠ .raw v)->(∃v,z= .raw v)->z= .raw q:=by
       rintro z q (h|h) ⟨v,hv⟩
       .exact h
       .exact bO hv (h v)
      have hxr:∀A,uS d x y=Z A->x= .raw xs[k]/\y= .raw c[k]:=by
       intro A hbb;have hrr:(∃v,x= .raw v)/\∃v,y= .raw v:=by
        unfold uS at hbb;split at hbb
        .exact⟨⟨_,rfl⟩,⟨_,rfl⟩⟩
        .exact⟨⟨_,rfl⟩,⟨_,rfl⟩⟩
        .exact⟨⟨_,rfl⟩,⟨_,rfl⟩⟩
        .cases hbb
       exact⟨hraw x _ (ha 0 x _ rfl (by simp[F])) hrr.1,hraw y _ (hb 0 y _ rfl (by simp[D])) hrr.2⟩
      have hstep:∀A,uS d x y=Z A->(Qs n xs c f (U,())).run P w= .ok (if A then F_ (U,()) else ForInStep.done (Z aa,())) w:=by
       intro A hbb;let⟨h1,I⟩:=hxr A hbb;have p1:=Js hu (by cases d<;>simp[CD]at hd<;>rfl) xs k xs[k] (by simp[F]) w;have p2:=Js hu (by cases d<;>simp[CD]at hd<;>rfl) c k c[k] (by simp[D]) w;have p3:=aa4 hu (by cases d<;>simp[CD]at hd<;>rfl) hbb h1 I n w;unfold Qs;rw[aR hn,hof];simp only[ec,p1,p2,p3,cJ];cases A<;>simp
      rw[List.forIn_cons];simp only[ec];split at he
      .rename_i hbb;rw[hstep J hbb];simp only[cJ,bo];exact Oh n w xs c N ds' a b (k+1) r hp' (λj x u h1 I=>ha (j+1) x u (by simpa using h1) (by rw[<- I];congr 1;omega)) (λj x u h1 I=>hb (j+1) x u (by simpa using h1) (by rw[<- I];congr 1;omega))
        (λj hj=>by have:=hla (j+1) (by simpa using hj);omega) (λj hj=>by have:=hlb (j+1) (by simpa using hj);omega) he
      next hbb=>rw[hstep aa hbb];cases he;simp
      .cases he
   .cases hp
  .cases hp
variable {I:Array Field} {K:Y TypeDesc}
def Og (A:P.underlying s=Z (.struct I)) (D:P.stoodInHeld s=aa) (hp:kX P 0 I.toList=Z K) (xs c:Array Value) {a r:Y FV} 
 (N:∀(j:Nat) x u,a[j]? =Z x->xs[j]? =Z u->x= .raw u\/∀v,x≠ .raw v) (q:∀(j:Nat) x u,r[j]? =Z x->c[j]? =Z u->x= .raw u\/∀v,x≠ .raw v) (hla:l! a=xs.size) (hlb:l! r=c.size) (he:iP K a r=Z b) (w:World):
 (Op.equal s (.agg xs) (.agg c)).run P w= .ok b w:=by
 have key:∀n,(Op.equalIn (n+2) s (.agg xs) (.agg c)).run P w= .ok b w:=by
  intro n;rw[Op.equalIn];have h1:=Oh (P:=P) n w xs c I.toList K a r 0 b hp (λj x u h1 z=>N j x u h1 (by grind)) (λj x u h1 z=>q j x u h1 (by grind)) (λj F=>by omega) (λj F=>by omega) he;rw[Array.forIn_toList]at h1;simp only[ec,run_underlying A,cJ,program,jZ,D,cg,eV];have z:(forIn I (U,()) (λf __s=>Qs n xs c f __s)).run P w= .ok (if b then (U,()) else (Z aa,())) w:=h1;rw[z];cases b<;>simp
 exact key 9998
def Tw (F:P.underlying s=Z (.struct I)) (hp:kX P 0 I.toList=Z K):P.eqGuardType P.depth s=aa:=by
 have key:∀(I:Y Field) (k:Nat) (K:Y TypeDesc),kX P k I=Z K→∀d,(I.any λf=>f.name != "_" &&P.eqGuardType (d+1) f.type)=aa:=by
  intro I;induction I with
  |nil=>intros;rfl
  |cons f I D=>
   intro k K hp d;simp only[kX]at hp;split at hp
   .rename_i c ds' q z;split at hp
    .rename_i A;simp[al]at A;have:P.eqGuardType (d+1) f.type=aa:=by
      unfold Program.eqGuardType;rw[q];have:=A.2;cases c<;>simp[CD]at this<;>rfl
     simp only[List.any_cons,this,Bool.and_false,Da];exact D (k+1) ds' z d
    .cases hp
   .cases hp
 unfold Program.depth Program.eqGuardType;rw[F];simp only[];rw[← Array.any_toList];exact key I.toList 0 K hp _
variable {c:Operand}
def alu {t':TypeId} {op:BinOp} {neg:Bool} {y:Operand} (N:o.op= .binOp op s c y t') (hop:op=if neg then .neq else .eql) (A:P.underlying s=Z (.struct I)) (hs:P.stoodInHeld s=aa) (hp:kX P 0 I.toList=Z K) (x:dk (.jt neg K c y) e h nx=Z R):ft P o e.get h.get R.eff:=by
 simp[dk]at x;split at x
 .rename_i a b z hy;split at x
  .rename_i r fs;rw[c6 x];refine ft.reads λφ E h' w ac _ hpp _=>?_
   have h1:=hpp c _ (by rw[N];simp[Op.operands]) z;have q:=hpp y _ (by rw[N];simp[Op.operands]) hy;generalize hzx:ac.eval c=zx at h1;generalize hzy:ac.eval y=zy at q;have rawOr:∀(l:Y FV) (vs:ξ),(∀(j:Nat) c v,l[j]? =Z c->vs[j]? =Z v->lX (tot E φ h') w c v)->∀(j:Nat) c u,l[j]? =Z c->vs.toArray[j]? =Z u->c= .raw u\/∀v,c≠ .raw v:=by
    intro l vs fs j c u z A;have:=fs j c u z (by grind);cases this with
    |raw v=>exact .inl rfl
    |_=>exact .inr (by simp)
   cases h1 with
   |f h1=>
    cases h1 with
    |agg _ vs hl hcl F=>
     cases q with
     |f q=>
      cases q with
      |agg _ us hl' hcl' D=>
       have heq:=Og A hs hp vs.toArray us.toArray (rawOr a vs F) (rawOr b us D) (by grind) (by grind) fs w;refine ⟨_,?_,.f (.raw _)⟩;have hg:=Tw A hp;unfold execOp;rw[N];simp[hzx,hzy];subst hop;cases neg<;>simp[eqGuard,program,jZ,hg,binOp,heq]
  .cases x
 .cases x
end
end
end Go.Proofs.YtlmflgjjamepmaaGreatDoor.AI
