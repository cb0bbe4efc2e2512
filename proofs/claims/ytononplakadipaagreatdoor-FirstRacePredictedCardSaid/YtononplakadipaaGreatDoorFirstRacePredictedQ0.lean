/-
  Texts of the proof, part 1 of 6: what is used to prove the statement. No condition.
-/
import Derived.WalkKit
import Derived.Lib.Hide
import Derived.Deep.QuietTactic
import Derived.WalkSpells
import Derived.Laws.CopyRow
import Derived.Deep.AppendSrc
import Derived.Laws.AppendOwn
import Derived.Laws.BytesString
import Derived.Lib.ConvBytes
import Derived.Defers
namespace Prod
variable {A0 A1 A2 A3 A4 A5 A6 A7 A8 A9 A10 A11 A12 A13 A14 A15 A16 A17 A18 A19 A20 A21 A22 A23 A24:Type}
abbrev a (x:A0×A1×A2×A3):A2:=x.2.2.1
abbrev b (x:A0×A1×A2×A3×A4):A3:=x.2.2.2.1
abbrev d (x:A0×A1×A2×A3):A3:=x.2.2.2
abbrev c (x:A0×A1×A2×A3×A4×A5):A4:=x.2.2.2.2.1
abbrev f (x:A0×A1×A2×A3×A4):A4:=x.2.2.2.2
abbrev e (x:A0×A1×A2×A3×A4×A5×A6):A5:=x.2.2.2.2.2.1
abbrev h (x:A0×A1×A2×A3×A4×A5):A5:=x.2.2.2.2.2
abbrev g (x:A0×A1×A2×A3×A4×A5×A6×A7):A6:=x.2.2.2.2.2.2.1
abbrev i (x:A0×A1×A2×A3×A4×A5×A6):A6:=x.2.2.2.2.2.2
abbrev j (x:A0×A1×A2×A3×A4×A5×A6×A7×A8):A7:=x.2.2.2.2.2.2.2.1
abbrev l (x:A0×A1×A2×A3×A4×A5×A6×A7):A7:=x.2.2.2.2.2.2.2
abbrev p8 (x:A0×A1×A2×A3×A4×A5×A6×A7×A8×A9):A8:=x.2.2.2.2.2.2.2.2.1
abbrev n (x:A0×A1×A2×A3×A4×A5×A6×A7×A8):A8:=x.2.2.2.2.2.2.2.2
abbrev k (x:A0×A1×A2×A3×A4×A5×A6×A7×A8×A9×A10):A9:=x.2.2.2.2.2.2.2.2.2.1
abbrev o (x:A0×A1×A2×A3×A4×A5×A6×A7×A8×A9):A9:=x.2.2.2.2.2.2.2.2.2
abbrev m (x:A0×A1×A2×A3×A4×A5×A6×A7×A8×A9×A10×A11):A10:=x.2.2.2.2.2.2.2.2.2.2.1
abbrev s (x:A0×A1×A2×A3×A4×A5×A6×A7×A8×A9×A10):A10:=x.2.2.2.2.2.2.2.2.2.2
abbrev q (x:A0×A1×A2×A3×A4×A5×A6×A7×A8×A9×A10×A11×A12):A11:=x.2.2.2.2.2.2.2.2.2.2.2.1
abbrev t (x:A0×A1×A2×A3×A4×A5×A6×A7×A8×A9×A10×A11):A11:=x.2.2.2.2.2.2.2.2.2.2.2
abbrev p (x:A0×A1×A2×A3×A4×A5×A6×A7×A8×A9×A10×A11×A12×A13):A12:=x.2.2.2.2.2.2.2.2.2.2.2.2.1
abbrev C (x:A0×A1×A2×A3×A4×A5×A6×A7×A8×A9×A10×A11×A12):A12:=x.2.2.2.2.2.2.2.2.2.2.2.2
abbrev u (x:A0×A1×A2×A3×A4×A5×A6×A7×A8×A9×A10×A11×A12×A13×A14):A13:=x.2.2.2.2.2.2.2.2.2.2.2.2.2.1
abbrev D (x:A0×A1×A2×A3×A4×A5×A6×A7×A8×A9×A10×A11×A12×A13):A13:=x.2.2.2.2.2.2.2.2.2.2.2.2.2
abbrev r (x:A0×A1×A2×A3×A4×A5×A6×A7×A8×A9×A10×A11×A12×A13×A14×A15):A14:=x.2.2.2.2.2.2.2.2.2.2.2.2.2.2.1
abbrev F (x:A0×A1×A2×A3×A4×A5×A6×A7×A8×A9×A10×A11×A12×A13×A14):A14:=x.2.2.2.2.2.2.2.2.2.2.2.2.2.2
abbrev v (x:A0×A1×A2×A3×A4×A5×A6×A7×A8×A9×A10×A11×A12×A13×A14×A15×A16):A15:=x.2.2.2.2.2.2.2.2.2.2.2.2.2.2.2.1
abbrev w (x:A0×A1×A2×A3×A4×A5×A6×A7×A8×A9×A10×A11×A12×A13×A14×A15×A16×A17):A16:=x.2.2.2.2.2.2.2.2.2.2.2.2.2.2.2.2.1
abbrev E (x:A0×A1×A2×A3×A4×A5×A6×A7×A8×A9×A10×A11×A12×A13×A14×A15×A16):A16:=x.2.2.2.2.2.2.2.2.2.2.2.2.2.2.2.2
abbrev y (x:A0×A1×A2×A3×A4×A5×A6×A7×A8×A9×A10×A11×A12×A13×A14×A15×A16×A17×A18):A17:=x.2.2.2.2.2.2.2.2.2.2.2.2.2.2.2.2.2.1
abbrev z (x:A0×A1×A2×A3×A4×A5×A6×A7×A8×A9×A10×A11×A12×A13×A14×A15×A16×A17):A17:=x.2.2.2.2.2.2.2.2.2.2.2.2.2.2.2.2.2
abbrev G (x:A0×A1×A2×A3×A4×A5×A6×A7×A8×A9×A10×A11×A12×A13×A14×A15×A16×A17×A18×A19):A18:=x.2.2.2.2.2.2.2.2.2.2.2.2.2.2.2.2.2.2.1
abbrev B (x:A0×A1×A2×A3×A4×A5×A6×A7×A8×A9×A10×A11×A12×A13×A14×A15×A16×A17×A18):A18:=x.2.2.2.2.2.2.2.2.2.2.2.2.2.2.2.2.2.2
abbrev H (x:A0×A1×A2×A3×A4×A5×A6×A7×A8×A9×A10×A11×A12×A13×A14×A15×A16×A17×A18×A19×A20):A19:=x.2.2.2.2.2.2.2.2.2.2.2.2.2.2.2.2.2.2.2.1
abbrev q19 (x:A0×A1×A2×A3×A4×A5×A6×A7×A8×A9×A10×A11×A12×A13×A14×A15×A16×A17×A18×A19):A19:=x.2.2.2.2.2.2.2.2.2.2.2.2.2.2.2.2.2.2.2
abbrev I (x:A0×A1×A2×A3×A4×A5×A6×A7×A8×A9×A10×A11×A12×A13×A14×A15×A16×A17×A18×A19×A20×A21):A20:=x.2.2.2.2.2.2.2.2.2.2.2.2.2.2.2.2.2.2.2.2.1
abbrev K (x:A0×A1×A2×A3×A4×A5×A6×A7×A8×A9×A10×A11×A12×A13×A14×A15×A16×A17×A18×A19×A20×A21):A21:=x.2.2.2.2.2.2.2.2.2.2.2.2.2.2.2.2.2.2.2.2.2
abbrev q22 (x:A0×A1×A2×A3×A4×A5×A6×A7×A8×A9×A10×A11×A12×A13×A14×A15×A16×A17×A18×A19×A20×A21×A22):A22:=x.2.2.2.2.2.2.2.2.2.2.2.2.2.2.2.2.2.2.2.2.2.2
end Prod
namespace Go.Proofs.YtononplakadipaaGreatDoor.AI
open Go.RowKit
set_option maxRecDepth 100000
set_option maxHeartbeats 4000000
set_option linter.unusedVariables false
set_option linter.unusedSimpArgs false
set_option linter.defProp false
open Act renaming put→Uf
open _root_.Array renaming replicate→lQ,range→I9,mapM_eq_mapM_toList→Sf
open _root_.Bool renaming true→J,false→af,false_or→vG
open Builtin renaming zeroCells→m7,firstCells→BU,append_→Kz
open Call renaming operands→AJ
open Deferred renaming ofValue→GW
open Instr renaming sliceBounds→cX,sliceBound→dw,sliceAt→eU,slice→ic,findNow→oN,sureAddr→QL
open _root_.Int renaming toNat→aL,ofNat→aZ,tmod→vE
open IntKind renaming wrap→kx
open _root_.List renaming length→l!,length→ah,replicate→aA,length_singleton→bJ,take→cG,foldl_cons→dN,range→dV,toArray→kw,drop→oR,mem_of_mem_drop→xO,take_take→Ef,set→Eg
open _root_.Nat renaming beq→aB,testBit→aF,ble→di,blt→dE,add_zero→dR,mod_eq_of_lt→ml,min→mr,one_shiftLeft→Ed,mul_one→I7,testBit_two_pow→LY
open Oper renaming wp→Ec
open _root_.Option renaming some→Z,none→U,bind_some→aH,map_some→cj
open Region renaming wanted→ko,binds→Ea,ready→MI
open Result renaming andThen_ok→cI
open Sem renaming run_bind→fA,run_pure→oA,run→sK
open _root_.UInt8 renaming ofNat→Ct
open Value.bool renaming injEq→GR
open World renaming shape?→qX,cell?→Ud
noncomputable section
theorem M{p:Prop}(h:p:=by omega):p:=h
theorem b8{p:Prop}(h:p:=by simp):p:=h
theorem cr{p:Prop}(h:p:=by decide):p:=h
theorem cf{p:Prop}(h:p:=by grind):p:=h
theorem lX{p:Prop}(h:p:=by dsimp only; omega):p:=h
theorem ye{p:Prop}(h:p:=by simp; omega):p:=h
theorem Ja{p:Prop}(h:p:=by dsimp only [Int.ofNat_eq_natCast]; omega):p:=h
theorem faA{p:Prop}(h:p:=by first | omega | (dsimp only; omega)):p:=h
abbrev Y:=@List
abbrev aj:=@Option
abbrev av:=@if_neg
abbrev aD:=@if_pos
abbrev aP:=@decide_eq_true
abbrev a_:=@of_decide_eq_true
abbrev bi:=@absurd
abbrev bl:=@decide_eq_true_eq
abbrev bC:=@if_true
abbrev bE:=@decide_eq_false
abbrev dz:=@beq_iff_eq
abbrev dA:=@beq_self_eq_true
abbrev dI:=@decide_false
abbrev dQ:=@if_false
abbrev eY:=@decide_true
abbrev eZ:=@congrArg
abbrev fM:=@or_false
abbrev m8:=@of_decide_eq_false
abbrev FW:=@true_and
abbrev L1:=@false_or
abbrev al:=@Option.some.injEq
abbrev ar:=@Bool.and_eq_true
abbrev au:=@Nat.eq_of_beq_eq_true
abbrev aC:=@List.getD_eq_getElem?_getD
abbrev aG:=@List.mem_singleton
abbrev aI:=@List.getElem?_eq_getElem
abbrev aQ:=@List.length_append
abbrev aT:=@Prod.mk.injEq
abbrev aY:=@Nat.le_of_ble_eq_true
abbrev bc:=@List.mem_cons
abbrev bg:=@Nat.le_refl
abbrev bh:=@List.mem_of_getElem?
abbrev bj:=@Nat.ble_eq_true_of_le
abbrev bm:=@List.length_take
abbrev bt:=@Nat.testBit_or
abbrev bw:=@List.append_assoc
abbrev bx:=@List.mem_cons_of_mem
abbrev bz:=@List.mem_append
abbrev bG:=@List.getElem?_eq_some_iff
abbrev bH:=@List.getElem?_map
abbrev bL:=@List.length_map
abbrev bU:=@List.mem_cons_self
abbrev bV:=@Nat.zero_add
abbrev b_:=@List.map_append
abbrev ca:=@List.contains_iff_mem
abbrev co:=@Nat.lt_or_ge
abbrev cA:=@List.not_mem_nil
abbrev cD:=@Nat.mul_le_mul_right
abbrev cE:=@Bool.false_eq_true
abbrev cF:=@List.mem_map
abbrev cL:=@List.getElem?_append_right
abbrev cO:=@List.take_length
abbrev cQ:=@List.length_replicate
abbrev cR:=@Nat.le_trans
abbrev cS:=@List.append_nil
abbrev cU:=@Int.le_refl
abbrev cZ:=@List.getElem?_append_left
abbrev c9:=@Array.getElem?_eq_some_iff
abbrev c_:=@List.length_set
abbrev db:=@Nat.lt_of_lt_of_le
abbrev dj:=@Bool.not_eq_true'
abbrev du:=@Bool.true_and
abbrev dF:=@List.getElem?_take
abbrev dG:=@List.foldl_append
abbrev dL:=@List.mem_of_mem_take
abbrev dM:=@List.mem_append_left
abbrev dZ:=@List.take_of_length_le
abbrev d5:=@List.map_cons
abbrev eC:=@List.getElem?_of_mem
abbrev eQ:=@List.ext_getElem
abbrev eS:=@List.all_eq_true
abbrev eT:=@List.getElem?_eq_none
abbrev eV:=@Array.getElem?_toList
abbrev fE:=@Nat.zero_le
abbrev fG:=@List.length_drop
abbrev fJ:=@Nat.not_lt_zero
abbrev fK:=@List.flatMap_cons
abbrev fV:=@Int.natCast_nonneg
abbrev gg:=@List.length_eq_zero_iff
abbrev gm:=@Bool.or_eq_true
abbrev gw:=@Nat.ne_of_beq_eq_false
abbrev gy:=@List.getElem?_set
abbrev gH:=@Option.some.inj
abbrev gI:=@List.mem_filter
abbrev gX:=@Nat.le_succ_of_le
abbrev iK:=@Array.getD_eq_getD_getElem?
abbrev iZ:=@Int.not_lt
abbrev i_:=@Bool.and_eq_true_iff
abbrev jC:=@List.cons.injEq
abbrev kf:=@List.mem_append_right
abbrev kq:=@Option.isSome_iff_exists
abbrev kH:=@List.getElem?_drop
abbrev kN:=@List.getElem?_replicate
abbrev lh:=@List.map_take
abbrev lD:=@Nat.succ_mul
abbrev mq:=@Nat.or_assoc
abbrev mw:=@Nat.add_assoc
abbrev oP:=@List.mem_flatMap
abbrev px:=@List.mem_range
abbrev qJ:=@Array.getElem?_eq_getElem
abbrev qZ:=@List.take_succ_eq_append_getElem
abbrev q_:=@List.length_range
abbrev r7:=@List.eq_of_mem_replicate
abbrev r8:=@Bool.and_self
abbrev sM:=@List.length_take_le
abbrev tR:=@Nat.lt_succ_self
abbrev tU:=@Bool.false_and
abbrev ue:=@Nat.add_mul
abbrev uJ:=@Option.map_eq_some_iff
abbrev wv:=@Nat.lt_succ_of_lt
abbrev xN:=@List.replicate_succ'
abbrev x_:=@Nat.beq_refl
abbrev ya:=@List.map_map
abbrev yc:=@List.drop_append
abbrev yJ:=@Classical.byContradiction
abbrev zA:=@List.map_congr_left
abbrev zC:=@List.getElem?_range
abbrev zE:=@Int.toNat_of_nonneg
abbrev AM:=@Nat.min_eq_left
abbrev Ee:=@Nat.lt_trichotomy
abbrev Eh:=@List.drop_of_length_le
abbrev FR:=@List.take_append_drop
abbrev FU:=@List.getElem?_toArray
abbrev G7:=@Nat.lt_irrefl
abbrev I6:=@Nat.zero_or
abbrev I8:=@List.take_append_of_le_length
abbrev Ky:=@List.sum_append
abbrev LZ:=@List.drop_succ_cons
abbrev Ue:=@Bool.eq_false_iff
abbrev η:=Y Int
abbrev ζ:=Y UInt8
abbrev θ:=Y Bool
abbrev ι:=Y Nat
abbrev ξ:=Y Value
abbrev ω:=Int×Int×Int×Int×Int×Int
abbrev υ:=Int×Int×Int×Int×Int
abbrev π:=Int×Int×Int
abbrev ν:=Int×Int
def dO {α:Type _} {c:Prop} [Decidable c] {x:aj α} {y:α} (h:(if c then x else U)=Z y):c/\x=Z y:=by
 split at h;exact⟨by assumption,h⟩;cases h
variable {d:Oper} {s:Operand}
def mn {q:Op} (A:d.op=q) (h:s∈q.operands:=by simp[Op.operands,AJ]):s∈d.op.operands:=by rw[A];exact h
inductive FV where
 |raw (v:Value)
 |sl (cells:List FV) (n:Nat)
 |K (cells:List FV) (off:Nat)
 |agg (cells:List FV)
inductive AV where
 |f (x:FV)
 |K (id off:Nat)
 |sl (id off n:Nat)
 |I (id sz n:Nat)
 |mp (id:Nat)
 |emp
 |qj
 |qn (cells:List FV) (n:Nat)
 |agg (cells:List AV)
 |qd (vs:List AV)
 |qy (g:FuncId) (cap:List AV)
def FV.isCell:FV->Bool
 |.raw v=>v.oneCell'
 |.sl _ _=>J
 |.K _ _=>J
 |.agg _=>af
def AV.isCell:AV->Bool
 |.f x=>x.isCell
 |.K _ _=>J
 |.sl _ _ _=>J
 |.I _ _ _=>J
 |.mp _=>J
 |.emp=>J
 |.qy _ _=>J
 |_=>af
inductive oz (O:Nat->Prop) (w:World):FV->Value->Prop
 |raw (v:Value):oz O w (.raw v) v
 |nil (a:Option Addr) (c:Nat) (hc:c<=maxLen):oz O w (.sl [] 0) (.slice a 0 c)
 |sl (cells:List FV) (n c b off:Nat) (us:Nat->Value) (hn:n<=c) (hc:c<=maxLen) (hO:¬O b) (hb:b<w.heap.size)
   (hcl:∀x∈cells,x.isCell=J)
   (hu:∀j,j<l! cells->w.cell? ⟨b,off+j,U⟩=Z (us j)) (hr:∀(j:Nat) x,cells[j]? =Z x->oz O w x (us j)):
   oz O w (.sl cells n) (.slice (Z ⟨b,off,U⟩) n c)
 |K (cells:List FV) (o b off:Nat) (us:Nat->Value) (hO:¬O b) (hb:b<w.heap.size)
   (hcl:∀x∈cells,x.isCell=J)
   (hu:∀j,j<l! cells->w.cell? ⟨b,off+j,U⟩=Z (us j)) (hr:∀(j:Nat) x,cells[j]? =Z x->oz O w x (us j)):
   oz O w (.K cells o) (.pointer (Z ⟨b,off+o,U⟩))
 |agg (cells:List FV) (vs:ξ) (hl:l! vs=l! cells) (hcl:∀x∈cells,x.isCell=J)
   (hr:∀(j:Nat) x v,cells[j]? =Z x->vs[j]? =Z v->oz O w x v):oz O w (.agg cells) (.agg vs.toArray)
abbrev PM:=Nat->aj Nat
inductive cC (φ:PM) (O:Nat->Prop) (w:World):AV->Value->Prop
 |f {x:FV} {v:Value} (h:oz O w x v):cC φ O w (.f x) v
 |K {id off b:Nat} (h:φ id=Z b):cC φ O w (.K id off) (.pointer (Z ⟨b,off,U⟩))
 |sl {id off n c b:Nat} (h:φ id=Z b) (hn:n<=c) (hc:c<=maxLen):cC φ O w (.sl id off n) (.slice (Z ⟨b,off,U⟩) n c)
 |I {id sz n c b:Nat} (h:φ id=Z b) (hn:n<=c) (hc:c<=maxLen) (hs:∃ty,w.shape? b=Z (ty,c*sz)):
   cC φ O w (.I id sz n) (.slice (Z ⟨b,0,U⟩) n c)
 |emp {a:Option Addr}:cC φ O w .emp (.slice a 0 0)
 |qj {b:Bool}:cC φ O w .qj (.bool b)
 |qn {cells:List FV} {n:Nat} {a:Option Addr} (h:oz O w (.sl cells n) (.slice a n n)):cC φ O w (.qn cells n) (.slice a n n)
 |mp {id b:Nat} (h:φ id=Z b):cC φ O w (.mp id) (.map (Z b))
 |agg {cells:List AV} {vs:ξ} (hl:l! vs=l! cells) (hcl:∀x∈cells,x.isCell=J)
   (hr:∀(j:Nat) x v,cells[j]? =Z x->vs[j]? =Z v->cC φ O w x v):cC φ O w (.agg cells) (.agg vs.toArray)
 |qd {cells:List AV} {vs:ξ} (hl:l! vs=l! cells)
   (hr:∀(j:Nat) x v,cells[j]? =Z x->vs[j]? =Z v->cC φ O w x v):cC φ O w (.qd cells) (.tuple vs.toArray)
 |qy {g:FuncId} {cells:List AV} {vs:ξ} (hl:l! vs=l! cells)
   (hr:∀(j:Nat) x v,cells[j]? =Z x->vs[j]? =Z v->cC φ O w x v):cC φ O w (.qy g cells) (.func (.func g) #[] vs.toArray)
structure GP (O:Nat->Prop) (w w':World):Prop where
 os:w'.os=w.os
 tape:w'.tape=w.tape
 output:w'.output=w.output
 size:w.heap.size<=w'.heap.size
 jg:∀k,k<w.heap.size->¬O k->w'.heap[k]? =w.heap[k]?
 jh:∀k,k<w.heap.size->w'.shape? k=w.shape? k
def GP.refl (O:Nat->Prop) (w:World):GP O w w:=⟨rfl,rfl,rfl,bg _,λ_ _ _=>rfl,λ_ _=>rfl⟩
variable {W:World} {i:Nat}
def IN {w':World} (h:w'.heap[i]? =W.heap[i]?) (o:Nat):w'.cell? ⟨i,o,U⟩=W.cell? ⟨i,o,U⟩:=by
 unfold Ud;rw[h]
variable {O:Nat->Prop} {v:Value}
def oz.ext {O':Nat->Prop} {w':World} (he:GP O W w') (ho:∀k,k<W.heap.size->O' k->O k) {x:FV} (h:oz O W x v):oz O' w' x v:=by
 induction h with
 |raw v=>exact .raw v
 |nil a c hc=>exact .nil a c hc
 |sl cells n c b off us hn hc I q hcl hu hr A=>
  exact .sl cells n c b off us hn hc (λh=>I (ho b q h)) (db q he.size) hcl (λj hj=>by rw[IN (he.jg b q I)];exact hu j hj) A
 |K cells o b off us I q hcl hu hr A=>
  exact .K cells o b off us (λh=>I (ho b q h)) (db q he.size) hcl (λj hj=>by rw[IN (he.jg b q I)];exact hu j hj) A
 |agg cells vs hl hcl hr A=>exact .agg cells vs hl hcl A
variable {T:PM} {y:AV}
def cC.ext {φ':PM} {O':Nat->Prop} {w':World} (hs:∀i k,T i=Z k->φ' i=Z k) (he:GP O W w') (ho:∀k,k<W.heap.size->O' k->O k) (h:cC T O W y v):cC φ' O' w' y v:=by
 induction h with
 |f h=>exact .f (h.ext he ho)
 |K h=>exact .K (hs _ _ h)
 |sl h hn hc=>exact .sl (hs _ _ h) hn hc
 |I h hn hc hsh=>
  let⟨ty,hty⟩:=hsh;refine .I (hs _ _ h) hn hc ⟨ty,?_⟩;rw[he.jh _ ?_];exact hty;unfold qX at hty
  grind
 |emp=>exact .emp
 |qj=>exact .qj
 |qn h=>exact .qn (h.ext he ho)
 |mp h=>exact .mp (hs _ _ h)
 |agg A hcl hr q=>exact .agg A hcl q
 |qd A hr q=>exact .qd A q
 |qy A hr q=>exact .qy A q
inductive BC where
 |fz (l:List FV)
 |mx (l:List AV)
 |mp (es:List (Value×AV))
 |it (s:ByteArray) (pos:Nat)
def BC.get:BC->Nat->aj AV
 |.fz l,j=>l[j]?.map AV.f
 |.mx l,j=>l[j]?
 |_,_=>U
def BC.len:BC->Nat
 |.fz l|.mx l=>l! l
 |_=>0
def BC.isCells:BC->Bool
 |.fz _=>J
 |.mx _=>J
 |_=>af
structure ot where
 ty:TypeId
 c:BC
abbrev HF:=Nat->aj ot
def own (φ:PM) (h:HF) (k:Nat):Prop:=∃id b,h id=Z b/\φ id=Z k
def tot (E:Nat->Prop) (φ:PM) (h:HF) (k:Nat):Prop:=E k\/own φ h k
def yI (φ:PM) (O:Nat->Prop) (w:World) (c:BC) (arr:Array Value):Prop:=
 c.len<=arr.size/\∀j x,c.get j=Z x->x.isCell=J/\∃v,arr[j]? =Z v/\cC φ O w x v
abbrev C!:=Value×AV
def MpK (_:TypeId) (q:Y C!) (ents:Array MapEntry):Prop:=ents.toList.map (·.key)=q.map (·.1)
def MpV (_:TypeId) (ents:Array MapEntry) (j:Nat) (_ v:Value):Prop:=∃m,ents[j]? =Z m/\v=m.val
def kn (φ:PM) (O:Nat->Prop) (w:World) (b:ot) (o:Obj):Prop:=
 match b.c with
 |.mp q=>∃ents clock,o= .map ents clock/\MpK b.ty q ents/\∀(j:Nat) x,q[j]? =Z x->∃v,MpV b.ty ents j x.1 v/\cC φ O w x.2 v
 |.it s p=>o= .stringIter s p
 |c=>∃arr,o= .cells arr b.ty (0,0)/\yI φ O w c arr
def aqq (φ:PM) (O:Nat->Prop) (w:World) (k:Nat) (b:ot):Prop:=∃o,w.heap[k]? =Z o/\kn φ O w b o
variable {z:ot}
def aqq.cells (h:aqq T O W i z) (q:z.c.isCells=J):
 ∃arr,W.heap[i]? =Z (.cells arr z.ty (0,0))/\yI T O W z.c arr:=by
 let⟨o,h1,h2⟩:=h;unfold kn at h2;cases A:z.c with
 |fz l|mx l=>rw[A]at h2;obtain⟨arr,rfl,I⟩:=h2;exact⟨arr,h1,I⟩
 |_=>rw[A]at q;cases q
def kn.mono {φ':PM} {O':Nat->Prop} {w':World} (hk:∀x v,cC T O W x v->cC φ' O' w' x v) {o:Obj} (h:kn T O W z o):kn φ' O' w' z o:=by
 unfold kn at h ⊢;cases I:z.c with
 |mp es=>rw[I]at h;let⟨e,c,h1,h2,A⟩:=h;exact⟨e,c,h1,h2,λj x q=>by let⟨m,a,z⟩:=A j x q;exact⟨m,a,hk _ _ z⟩⟩
 |it s p=>rw[I]at h;exact h
 |_=>rw[I]at h;let⟨arr,h1,h2,A⟩:=h;exact⟨arr,h1,h2,λj x q=>by let⟨a,v,c,d⟩:=A j x q;exact⟨a,v,c,hk _ _ d⟩⟩
def yI.mono {φ':PM} {O':Nat->Prop} {w':World} (hk:∀x v,cC T O W x v->cC φ' O' w' x v) {c:BC} {arr:Array Value} (h:yI T O W c arr):yI φ' O' w' c arr:=
 ⟨h.1,λj x q=>by let⟨a,v,c,d⟩:=h.2 j x q;exact⟨a,v,c,hk _ _ d⟩⟩
def xV (l:ζ):FV:=.raw (.string ⟨l.toArray⟩)
def HH:Y FV:=[xV [118,97,114],xV [118,111,108,97,116,105,108,101],xV [109,117,116,101,120],xV [114,119,108,111,99,107],xV [99,111,110,100],xV [102,117,116,117,114,101],xV [116,104,114,101,97,100],xV [105,102],xV [101,108,115,101],xV [119,104,105,108,101],xV [108,111,99,107],xV [114,101,97,100],xV [119,114,105,116,101],xV [116,114,97,110,115,97,99,116,105,111,110],xV [97,116,111,109,105,99],xV [119,97,105,116],xV [110,111,116,105,102,121],xV [110,111,116,105,102,121,97,108,108],xV [115,112,97,119,110],xV [106,111,105,110],xV [115,101,116],xV [103,101,116]]
def G (g:Nat):aj (Y FV):=if g==1 then Z HH else U
structure rA (φ:PM) (E:Nat->Prop) (h:HF) (w:World):Prop where
 inj:∀i j b b' k,h i=Z b->h j=Z b'->φ i=Z k->φ j=Z k->i=j
 at_:∀i b,h i=Z b->∃k,φ i=Z k/\¬E k/\aqq φ (tot E φ h) w k b
 el:∀k,E k->k<w.heap.size
 gl:∀g cells,G g=Z cells->oz (tot E φ h) w (.K cells 0) (.pointer (Z ⟨g,0,U⟩))
structure iX (φ φ':PM) (h h':HF) (w w':World):Prop where
 sub:∀i k,φ i=Z k->φ' i=Z k
 ext:GP (own φ h) w w'
 qr:∀k,k<w.heap.size->own φ' h' k->own φ h k
def iX.refl (φ:PM) (h:HF) (w:World):iX φ φ h h w w:=⟨λ_ _ h=>h,GP.refl _ _,λ_ _ h=>h⟩
variable {N:HF}
def iX.trans {φ' φ'':PM} {h' h'':HF} {w' w'':World} (m:iX T φ' N h' W w') (n:iX φ' φ'' h' h'' w' w''):iX T φ'' N h'' W w'' where
 sub:=λi k e=>n.sub i k (m.sub i k e)
 ext:=⟨n.ext.os.trans m.ext.os,n.ext.tape.trans m.ext.tape,n.ext.output.trans m.ext.output,cR m.ext.size n.ext.size,
  λk hk q=>(n.ext.jg k (db hk m.ext.size) (λN=>q (m.qr k hk N))).trans (m.ext.jg k hk q),
  λk hk=>(n.ext.jh k (db hk m.ext.size)).trans (m.ext.jh k hk)⟩
 qr:=λk hk N=>m.qr k hk (n.qr k (db hk m.ext.size) N)
def GP.mono {O':Nat->Prop} {w':World} (h:GP O W w') (q:∀k,O k->O' k):GP O' W w':=
 ⟨h.os,h.tape,h.output,h.size,λk hk A=>h.jg k hk (λx=>A (q k x)),h.jh⟩
def iX.zq {φ':PM} {h':HF} {w':World} (m:iX T φ' N h' W w') (r:cC T (tot O T N) W y v):cC φ' (tot O φ' h') w' y v:=
 r.ext m.sub (m.ext.mono λ_ N=>.inr N) λk hk q=>q.elim .inl λo=>.inr (m.qr k hk o)
def iX.keepF {φ':PM} {h':HF} {w':World} (m:iX T φ' N h' W w') {x:FV} (r:oz (tot O T N) W x v):oz (tot O φ' h') w' x v:=
 r.ext (m.ext.mono λ_ N=>.inr N) λk hk q=>q.elim .inl λo=>.inr (m.qr k hk o)
abbrev EF:=Nat->aj AV
def QF (φ:PM) (O:Nat->Prop) (w:World) (e:EF) (a:Act):Prop:=∀t x,e t=Z x->cC φ O w x (a.tmps.getD t undef)
def Jq (e:EF) (dst:aj Nat) (x:AV):EF:=λt=>if dst=Z t then Z x else e t
def eD (h:HF) (q:ι) (A:HF):HF:=λi=>if i∈q then A i else h i
structure BQ where
 val:AV
 rd:ι
 wr:ι
 nw:HF
 N:ι
def im (P:Program) (o:Oper) (e:EF) (h:HF) (f:BQ):Prop:=
 ∀(φ:PM) (E:Nat->Prop) (h':HF) (w:World) (a:Act),(∀i∈f.rd,h' i=h i)->(∀i∈f.wr,h' i=h i)->
  (∀t,.tmp t∈o.op.operands->∀y,e t=Z y->cC φ (tot E φ h') w y (a.tmps.getD t undef))->rA φ E h' w->(∀n∈f.N,φ n=U)->
  o.wp P a w (λq w'=>∃v φ',q=a.put o.dst v/\iX φ φ' h' (eD h' f.wr f.nw) w w'/\(∀i k,φ' i=Z k->φ i=Z k\/i∈f.N)/\
   rA φ' E (eD h' f.wr f.nw) w'/\cC φ' (tot E φ' (eD h' f.wr f.nw)) w' f.val v) (λ_ _ _=>False)
def m_:BQ:=⟨.f (.raw undef),[],[],λ_=>U,[]⟩
inductive Ku (P:Program) (ops:Array Oper) (o:Oper) (f:BQ) (e:EF) (h:HF):Prop
 |run (hg:o.guard=U) (ht:im P o e h f)
 |runG (j t:Nat) (want:Bool) (hg:o.guard=Z (j,want)) (hj:(ops[j]?).bind (·.dst)=Z t) (he:e t=Z (.f (.raw (.bool want)))) (ht:im P o e h f)
 |skip (j t:Nat) (want:Bool) (hg:o.guard=Z (j,want)) (hj:(ops[j]?).bind (·.dst)=Z t) (v:Value) (he:e t=Z (.f (.raw v))) (hv:v≠ .bool want) (hf:f=m_)
inductive Cq (P:Program) (ops:Array Oper):List (Oper×BQ)->EF->HF->EF->HF->Prop
 |nil (e:EF) (h:HF):Cq P ops [] e h e h
 |cons {o:Oper} {f:BQ} {r:List (Oper×BQ)} {e e':EF} {h h':HF} (hs:Ku P ops o f e h)
   (hr:Cq P ops r (Jq e o.dst f.val) (eD h f.wr f.nw) e' h'):Cq P ops ((o,f)::r) e h e' h'
abbrev q?:=Oper×BQ
def Sn (S:Nat->Bool):Nat->Y q?->EF->EF
 |_,[],e=>e
 |k,(o,f)::r,e=>Sn S (k+1) r (if S k then Jq e o.dst f.val else e)
def I_ (S:Nat->Bool):Nat->Y q?->HF->HF
 |_,[],h=>h
 |k,(_,f)::r,h=>I_ S (k+1) r (if S k then eD h f.wr f.nw else h)
variable {p:Nat->Bool}
def Jh {S':Nat->Bool} :∀(l:Y q?) (k:Nat) (e e':EF),e i=e' i->
 (∀(j:Nat) o f,l[j]? =Z (o,f)->o.dst=Z i->p (k+j)=S' (k+j))->Sn p k l e i=Sn S' k l e' i
 |[],_,_,_,he,_=>he
 |(o,f)::r,k,e,e',he,q=>by
  refine Jh r (k+1) _ _ ?_ (λj o f hj hd=>by have:=q (j+1) o f cf hd;rwa [show k+(j+1)=k+1+j from M]at this);by_cases hd:o.dst=Z i;rw[show p k=S' k from by simpa using q 0 o f rfl hd];split;simp[Jq,hd];exact he;split<;>split<;>simp[Jq,hd,he]
def Jg {S':Nat->Bool} :∀(l:Y q?) (k:Nat) (e e':HF),e i=e' i->
 (∀(j:Nat) o f,l[j]? =Z (o,f)->i∈f.wr->p (k+j)=S' (k+j))->I_ p k l e i=I_ S' k l e' i
 |[],_,_,_,he,_=>he
 |(o,f)::r,k,e,e',he,q=>by
  refine Jg r (k+1) _ _ ?_ (λj o f hj hd=>by have:=q (j+1) o f cf hd;rwa [show k+(j+1)=k+1+j from M]at this);by_cases hd:i∈f.wr;rw[show p k=S' k from by simpa using q 0 o f rfl hd];split;simp[eD,hd];exact he;split<;>split<;>simp[eD,hd,he]
def Hf :∀(l:Y q?) (k:Nat) (e:EF),(∀(j:Nat) o f,l[j]? =Z (o,f)->o.dst=Z i->p (k+j)=af)->Sn p k l e i=e i
 |[],_,_,_=>rfl
 |(o,f)::r,k,e,q=>by
  simp[Sn];rw[Hf r (k+1) _ (λj o f hj hd=>by have:=q (j+1) o f cf hd;rwa [show k+(j+1)=k+1+j from M]at this)];split;rename_i h;unfold Jq;rw[av];intro hd;have:=q 0 o f rfl hd;simp_all;rfl
def He :∀(l:Y q?) (k:Nat) (e:HF),(∀(j:Nat) o f,l[j]? =Z (o,f)->i∈f.wr->p (k+j)=af)->I_ p k l e i=e i
 |[],_,_,_=>rfl
 |(o,f)::r,k,e,q=>by
  simp[I_];rw[He r (k+1) _ (λj o f hj hd=>by have:=q (j+1) o f cf hd;rwa [show k+(j+1)=k+1+j from M]at this)];split;rename_i h;unfold eD;rw[av];intro hd;have:=q 0 o f rfl hd;simp_all;rfl
def WA :∀(l:Y q?) (k t:Nat) (e:EF) (o:Oper) (f:BQ),l[t]? =Z (o,f)->o.dst=Z i->p (k+t)=J->
 (∀(j:Nat) q f',t<j->l[j]? =Z (q,f')->q.dst=Z i->p (k+j)=af)->Sn p k l e i=Z f.val
 |[],_,_,_,_,_,h,_,_,_=>by simp at h
 |(q,f')::r,k,0,e,o,f,h,hd,I,A=>by
  obtain⟨rfl,rfl⟩:=h;simp[Sn];rw[Hf r (k+1) _ (λj o f hj hd=>by have:=A (j+1) o f M cf hd;rwa [show k+(j+1)=k+1+j from M]at this)];simp at I;simp[I,Jq,hd]
 |(q,f')::r,k,t+1,e,o,f,h,hd,I,A=>by
  exact WA r (k+1) t _ o f cf hd cf
   (λj o f hij hj hd=>by have:=A (j+1) o f M cf hd;rwa [show k+(j+1)=k+1+j from M]at this)
def Wz :∀(l:Y q?) (k t:Nat) (e:HF) (o:Oper) (f:BQ),l[t]? =Z (o,f)->i∈f.wr->p (k+t)=J->
 (∀(j:Nat) A q,t<j->l[j]? =Z (A,q)->i∈q.wr->p (k+j)=af)->I_ p k l e i=f.nw i
 |[],_,_,_,_,_,h,_,_,_=>by simp at h
 |(A,q)::r,k,0,e,o,f,h,hd,hS,I=>by
  obtain⟨rfl,rfl⟩:=h;simp[I_];rw[He r (k+1) _ (λj o f hj hd=>by have:=I (j+1) o f M cf hd;rwa [show k+(j+1)=k+1+j from M]at this)];simp at hS;simp[hS,eD,hd]
 |(A,q)::r,k,t+1,e,o,f,h,hd,hS,I=>by
  exact Wz r (k+1) t _ o f cf hd cf
   (λj o f hij hj hd=>by have:=I (j+1) o f M cf hd;rwa [show k+(j+1)=k+1+j from M]at this)
variable {P:Program} {E:Array Oper}
def Cq.step :∀{l:Y q?} {e e':EF} {h h':HF} (_:Cq P E l e h e' h') (k i:Nat) (o:Oper) (f:BQ),l[i]? =Z (o,f)->
 Ku P E o f (Sn (λj=>decide (j<k+i)) k l e) (I_ (λj=>decide (j<k+i)) k l h):=by
 intro l e e' h h' hc;induction hc with
 |nil=>intro k i o f hi;simp at hi
 |@cons q A r e e' h h' hs hr I=>
  intro k i o f hi;cases i with
  |zero=>
   obtain⟨rfl,rfl⟩:=hi;have e1:Sn (λj=>decide (j<k+0)) k ((q,A)::r) e=e:=by
    funext t;rw[Hf];simp
   have e2:I_ (λj=>decide (j<k+0)) k ((q,A)::r) h=h:=by
    funext t;rw[He];simp
   rw[e1,e2];exact hs
  |succ i=>
   have:=I (k+1) i o f cf;simp[Sn,I_]
   grind
def Cq.final :∀{l:Y q?} {e e':EF} {h h':HF} (_:Cq P E l e h e' h') (k:Nat) (S:Nat->Bool),(∀j,j<l! l->S (k+j)=J)->
 Sn S k l e=e'/\I_ S k l h=h':=by
 intro l e e' h h' I;induction I with
 |nil=>intro k S _;exact⟨rfl,rfl⟩
 |@cons o1 f1 r e e' h h' hs hr A=>
  intro k S q;have h0:S k=J:=by simpa using q 0 b8
  simp[Sn,I_,h0,bC];exact A (k+1) S (λj hj=>by have:=q (j+1) cf;rwa [show k+(j+1)=k+1+j from M]at this)
variable {F:Act} {B:Exit->Act->World->Prop}
def Wr {K K':Act->World->Prop} (h:∀F W,K F W->K' F W)
 (hh:d.wp P F W K (λ_ _ _=>False)):d.wp P F W K' B:=by
 unfold Ec at*
 generalize (execOp F.eval d).run P W=r at*
 cases r with
 |ok n w'=>
  cases n<;>simp[Oper.upon]at hh ⊢<;>
   first
    |exact h _ _ hh
    |exact Calls.mono hh (λe w'' he=>by
      cases e with
      |returned v=>exact h _ _ he
      |panicked c=>exact he.elim
      |outgrown=>let⟨_,_,h⟩:=he;exact h.elim)
    |exact Rows.mono hh (λ_ _ he=>h _ _ he)
 |halt x w'=>cases x<;>simp[Oper.upon]at hh ⊢<;>first|exact hh.elim|exact hh
inductive Bef (ops:Array Oper):Nat->Nat->Prop
 |one {j:Nat} {o:Oper} {e:Edge} (h:ops[j]? =Z o) (he:e∈o.after) (hb:Ea .any e=J):Bef ops j e.on
 |more {j i:Nat} {o:Oper} {e:Edge} (h:ops[j]? =Z o) (he:e∈o.after) (hb:Ea .any e=J) (hi:Bef ops e.on i):Bef ops j i
structure NIP (ops:Array Oper) (l:List (Oper×BQ)):Prop where
 edge:∀(j:Nat) o,ops[j]? =Z o->∀e∈o.after,Ea .any e=J->e.on<j
 pair:∀(i j:Nat) oi fi oj fj,i<j->l[i]? =Z (oi,fi)->l[j]? =Z (oj,fj)->Bef ops j i\/
  (oi.apart ops oj=J/\(∀x∈fi.wr,x∉fj.rd/\x∉fj.wr)/\(∀x∈fj.wr,x∉fi.rd))
 names:∀(i j:Nat) oi fi oj fj,i<j->l[i]? =Z (oi,fi)->l[j]? =Z (oj,fj)->∀n∈fi.N,n∉fj.N
def Kx (ops:Array Oper) (listed:Array Bool):Prop:=∀(j:Nat) o,ops[j]? =Z o->listed.getD j af=J->∀e∈o.after,Ea .any e=J->listed.getD e.on af=J
variable {m:Nat}
def Kx.bef {listed:Array Bool} (A:Kx E listed) (h:Bef E m i):listed.getD m af=J->listed.getD i af=J:=by
 induction h with
 |one h he q=>intro hj;exact A _ _ h hj _ he q
 |more h he q hi I=>intro hj;exact I (A _ _ h hj _ he q)
def ai3 {listed:Array Bool} (hc:Kx E listed) (q:E[m]? =Z d) (I:∀e∈d.after,Ea .any e=J->listed.getD e.on af=J) (h:Bef E m i):listed.getD i af=J:=by
 cases h with
 |one h he A=>rw[h]at q;cases q;exact I _ he A
 |more h he A hi=>rw[h]at q;cases q;exact hc.bef hi (I _ he A)
def B9 {listed:Array Bool} (h:listed.getD i J=af):listed.getD i af=af/\i<listed.size:=cf
def StP (φ0:PM) (E:Nat->Prop) (e0:EF) (h0:HF) (w0:World) (q:Act) (l:Y q?) (S:Nat->Bool) (a:Act) (w:World):Prop:=
 ∃φ,iX φ0 φ h0 (I_ S 0 l h0) w0 w/\(∀i k,φ i=Z k->φ0 i=Z k\/∃(j:Nat) (o:Oper) (f:BQ),S j=J/\l[j]? =Z (o,f)/\i∈f.N)/\
  rA φ E (I_ S 0 l h0) w/\QF φ (tot E φ (I_ S 0 l h0)) w (Sn S 0 l e0) a/\a.defers=q.defers/\a.tmps.size=q.tmps.size
def W7 {dst:aj Tmp} (hd:∀d,dst=Z d->d<F.tmps.size):(F.put dst v).tmps.getD i undef=if dst=Z i then v else F.tmps.getD i undef:=by
 cases dst with
 |none=>simp[Uf]
 |some d=>
  by_cases h:d=i;subst h;simp[Uf,hd d rfl];simp[Uf,h,Array.getElem?_setIfInBounds_ne h]
def W6 {dst:aj Tmp} :(F.put dst v).tmps.size=F.tmps.size:=by cases dst<;>simp[Uf]
def Nv {dst:aj Tmp} :(F.put dst v).defers=F.defers:=by cases dst<;>rfl
def amm {l:Y q?} {e0 e':EF} {h':HF} {ops:Nat->Prop} 
 (hl:l.map (·.1)=E.toList) (hc:Cq P E l e0 N e' h') (ni:NIP E l) (hfr:∀(j:Nat) o f,l[j]? =Z (o,f)->∀n∈f.N,T n=U)
 (hsz:∀(j:Nat) o,E[j]? =Z o->∀d,o.dst=Z d->d<F.tmps.size) {listed:Array Bool} (hcl:Kx E listed) (hi:i∈MI .any E listed) {K:Act->World->Prop}
 (hK:∀a w,StP T ops e0 N W F l (λj=>(listed.setIfInBounds i J).getD j af) a w->K a w) {a:Act} {w:World} (hst:StP T ops e0 N W F l (λj=>listed.getD j af) a w):
 wpOp P E B i K a w:=by
 let⟨hun,o,ho,hdeps⟩:=mem_ready.1 hi;let⟨hnf,hlt⟩:=B9 hun;have hln:∀(j:Nat) o',E[j]? =Z o'->∃f,l[j]? =Z (o',f):=λj o' h=>by
  have h1:(l.map (·.1))[j]? =Z o':=by rw[hl];simpa using h
  rw[bH]at h1;cases hj:l[j]? with
  |none=>rw[hj]at h1;cases h1
  |some p=>rw[hj]at h1;let⟨a,b⟩:=p;simp at h1;subst h1;exact⟨b,rfl⟩
 have hnl:∀(j:Nat) o' f,l[j]? =Z (o',f)->E[j]? =Z o':=λj o' f h=>by
  have h1:(l.map (·.1))[j]? =Z o':=by rw[bH,h];rfl
  rw[hl]at h1;simpa using h1
 let⟨f,hf⟩:=hln i o ho;have hord:∀(j:Nat) A q,j≠i->l[j]? =Z (A,q)->(listed.getD j af=decide (j<i))\/
  (o.apart E A=J\/A.apart E o=J)/\(∀x∈f.wr,x∉q.rd/\x∉q.wr)/\(∀x∈q.wr,x∉f.rd/\x∉f.wr):=by
  intro j A q hji hj;rcases co j i with h|h;rcases ni.pair j i A q o f h hj hf with hb|⟨h1,h2,h3⟩;left;rw[ai3 hcl ho hdeps hb];simp[h];right;exact⟨.inr h1,λx I=>⟨h3 x I,λhx'=>(h2 x hx').2 I⟩,λx I=>h2 x I⟩;have h:i<j:=M;rcases ni.pair i j o f A q h hf hj with hb|⟨h1,h2,h3⟩;left;have:listed.getD j af=af:=by
   cases I:listed.getD j af with
   |false=>rfl
   |true=>have:=hcl.bef hb I;rw[hnf]at this;cases this
  rw[this];simp;omega;right;exact⟨.inl h1,λx I=>h2 x I,λx I=>⟨h3 x I,λhx'=>(h2 x hx').2 I⟩⟩
 have hS':∀j,(listed.setIfInBounds i J).getD j af=if j=i then J else listed.getD j af:=λj=>by
  by_cases h:i=j;subst h;simp[hlt];rw[getD_set_ne af h,av (λe=>h e.symm)]
 have hlater:∀(j:Nat) A q,i<j->l[j]? =Z (A,q)->(listed.getD j af=af)\/((o.apart E A=J\/A.apart E o=J)/\(∀x∈f.wr,x∉q.rd/\x∉q.wr)):=by
  intro j A q hij hj;rcases hord j A q M hj with h|⟨h1,h2,_⟩;left;rw[h];simp;omega;right;exact⟨h1,h2⟩
 have hdd:∀{x y:Oper},(x.apart E y=J\/y.apart E x=J)->∀d,x.dst=Z d->y.dst≠Z d:=by
  intro x y h d hd he;rcases h with h|h;exact (Oper.apart_spec h).2.1 d hd he;exact (Oper.apart_spec h).2.1 d he hd
 have hlook:∀{x y:Oper},(x.apart E y=J\/y.apart E x=J)->∀d,y.dst=Z d->d∉x.looksAt E:=by
  intro x y h d hd;rcases h with h|h;exact (Oper.apart_spec h).2.2 d hd;exact (Oper.apart_spec h).1 d hd
 have heL:∀t,t∈o.looksAt E->Sn (λj=>listed.getD j af) 0 l e0 t=Sn (λj=>decide (j<0+i)) 0 l e0 t:=λt ht=>by
  refine Jh l 0 e0 e0 rfl λj A q hj hd=>?_
  simp only[bV];by_cases hji:j=i;subst hji;rw[hnf];simp;rcases hord j A q hji hj with h|⟨h,_⟩;exact h;exact bi ht (hlook h t hd)
 have hhL:∀t,t∈f.rd\/t∈f.wr->I_ (λj=>listed.getD j af) 0 l N t=I_ (λj=>decide (j<0+i)) 0 l N t:=λt ht=>by
  refine Jg l 0 N N rfl λj A q hj hd=>?_
  simp only[bV];by_cases hji:j=i;subst hji;rw[hnf];simp;rcases hord j A q hji hj with h|⟨_,_,h⟩;exact h;rcases ht with ht|ht;exact bi ht (h t hd).1;exact bi ht (h t hd).2
 have hE':∀t,Sn (λj=>(listed.setIfInBounds i J).getD j af) 0 l e0 t=if o.dst=Z t then Z f.val else Sn (λj=>listed.getD j af) 0 l e0 t:=λt=>by
  by_cases hd:o.dst=Z t;rw[aD hd];refine WA l 0 i e0 o f hf hd (by simp[hS']) λj o' f' hij hj hd'=>?_
  simp only[bV,hS',av (show ¬j=i by omega)];rcases hlater j o' f' hij hj with h|⟨h,_⟩;exact h;exact bi hd' (hdd h t hd);rw[av hd];refine Jh l 0 e0 e0 rfl λj A q hj hd'=>?_
  simp only[bV,hS'];rw[av];intro hji;subst hji;rw[hf]at hj;cases hj;exact hd hd'
 have hH':I_ (λj=>(listed.setIfInBounds i J).getD j af) 0 l N=eD (I_ (λj=>listed.getD j af) 0 l N) f.wr f.nw:=by
  funext t;unfold eD;by_cases hd:t∈f.wr;rw[aD hd];refine Wz l 0 i N o f hf hd (by simp[hS']) λj o' f' hij hj hd'=>?_
  simp only[bV,hS',av (show ¬j=i by omega)];rcases hlater j o' f' hij hj with h|⟨_,h⟩;exact h;exact bi hd' (h t hd).2;rw[av hd];refine Jg l 0 N N rfl λj A q hj hd'=>?_
  simp only[bV,hS'];rw[av];intro hji;subst hji;rw[hf]at hj;cases hj;exact hd hd'
 let⟨φ,hm,hdom,hrep,henv,hdef,hsize⟩:=hst;have hfrN:∀n∈f.N,φ n=U:=λn hn=>by
  cases I:φ n with
  |none=>rfl
  |some k=>
   rcases hdom n k I with h|⟨j,A,q,hSj,hj,hnj⟩;rw[hfr i o f hf n hn]at h;cases h;have hji:j≠i:=by intro h;subst h;exact bi hSj (by simp only[hnf];simp)
   rcases co j i with h|h;exact bi hn (ni.names j i A q o f h hj hf n hnj);exact bi hnj (ni.names i j o f A q M hf hj n hn)
 have hdsz:∀d,o.dst=Z d->d<a.tmps.size:=λd hd=>by rw[hsize];exact hsz i o ho d hd
 have main:∀(v:Value) (φ':PM) (w':World),iX φ φ' (I_ (λj=>listed.getD j af) 0 l N) (eD (I_ (λj=>listed.getD j af) 0 l N) f.wr f.nw) w w'->
  (∀i k,φ' i=Z k->φ i=Z k\/i∈f.N)->rA φ' ops (eD (I_ (λj=>listed.getD j af) 0 l N) f.wr f.nw) w'->
  cC φ' (tot ops φ' (eD (I_ (λj=>listed.getD j af) 0 l N) f.wr f.nw)) w' f.val v->K (a.put o.dst v) w':=by
  intro v φ' w' m1 d1 r1 v1;refine hK _ _ ⟨φ',?_,cf,?_,?_,?_,?_⟩;rw[hH'];exact hm.trans m1;rw[hH'];exact r1;rw[hH'];intro t x I;rw[hE' t]at I;rw[W7 hdsz];by_cases hd:o.dst=Z t;rw[aD hd]at I ⊢;cases I;exact v1;rw[av hd]at I ⊢;exact m1.zq (henv t x I);rw[Nv];exact hdef;rw[W6];exact hsize
 have hstep:=hc.step 0 i o f hf;have hrun:im P o (Sn (λj=>decide (j<0+i)) 0 l e0) (I_ (λj=>decide (j<0+i)) 0 l N) f->o.wp P a w K B:=by
  intro ht;refine Wr ?_ (ht φ ops (I_ (λj=>listed.getD j af) 0 l N) w a (λt h=>hhL t (.inl h)) (λt h=>hhL t (.inr h)) ?_ hrep hfrN);rintro a' w' ⟨v,φ',rfl,m1,d1,r1,v1⟩;exact main v φ' w' m1 d1 r1 v1;intro t ht' y hy;refine henv t y ?_;rw[heL t (dM _ (List.mem_filterMap.2 ⟨.tmp t,by simpa using ht',rfl⟩))];exact hy
 have hyield:∀(j t:Nat) (want b:Bool),o.guard=Z (j,want)->(E[j]?).bind (·.dst)=Z t->Sn (λj=>decide (j<0+i)) 0 l e0 t=Z (.f (.raw (.bool b)))->ko o (yielded E a.tmps)=(b==want):=by
  intro j t want b hg hj he;rw[<- heL t (kf _ (by rw[hg];simp[hj]))]at he;have h1:=henv t _ he;have h2:a.tmps.getD t undef= .bool b:=by
   generalize hz:a.tmps.getD t undef=z at h1;cases h1 with
   |f h=>cases h;rfl
  have h3:a.tmps[t]? =Z (.bool b):=by
   rw[iK]at h2;cases hz:a.tmps[t]? with
   |none=>rw[hz]at h2;simp[undef]at h2
   |some z=>rw[hz]at h2;simp at h2;rw[h2]
  unfold ko yielded;rw[hg];simp[hj,h3]
 unfold wpOp;simp only[ho];cases hstep with
 |run hg ht=>
  rw[aD (by unfold ko;rw[hg])];exact .inl (hrun ht)
 |runG j t want hg hj he ht=>
  rw[aD (by rw[hyield j t want want hg hj he];simp)];exact .inl (hrun ht)
 |skip j t want hg hj v he hv hf'=>
  have hnw:ko o (yielded E a.tmps)=af:=by
   rw[<- heL t (kf _ (by rw[hg];simp[hj]))]at he;have h1:=henv t _ he;have h2:a.tmps.getD t undef=v:=by
    generalize a.tmps.getD t undef=z at h1;cases h1 with
    |f h=>cases h;rfl
   unfold ko yielded;rw[hg];simp only[hj,aH];rw[iK]at h2;cases hz:a.tmps[t]? with
   |none=>simp
   |some z=>
    rw[hz]at h2;simp at h2;subst h2;cases z<;>simp at hv ⊢;exact hv
  rw[av (by rw[hnw];simp)];subst hf';have hu:eD (I_ (λj=>listed.getD j af) 0 l N) m_.wr m_.nw=I_ (λj=>listed.getD j af) 0 l N:=by
   funext t;simp[eD,m_]
  refine main undef φ w ?_ (λ_ _ h=>.inl h) ?_ (.f (.raw _));rw[hu];exact iX.refl _ _ _;rw[hu];exact hrep
def V8 {l:θ} (h:l! l<=l.countP id):∀(j:Nat),j<l! l->l[j]? =Z J:=by
 have h1:l.countP id=l! l:=Nat.le_antisymm List.countP_le_length h;rw[List.countP_eq_length]at h1
 grind
def ae0 {l:Y q?} (q:NIP E l) {listed:Array Bool} (hs:listed.size=E.size) (A:MI .any E listed=[]):
 ∀(n j:Nat),j<n->j<E.size->listed.getD j af=J:=by
 intro n;induction n with
 |zero=>intro j h;omega
 |succ n ih=>
  intro j hj hjs;cases hx:listed.getD j af with
  |true=>rfl
  |false=>
   have hmem:j∈MI .any E listed:=by
    refine mem_ready.2 ⟨?_,E[j],qJ hjs,λe he I=>?_⟩
    grind
    have h1:=q.edge j _ (qJ hjs) e he I
    grind
   rw[A]at hmem;cases hmem
def TZ {ops:Array Oper} {l:Y q?} {e0 e':EF} {h':HF} {E:Nat->Prop} {w0:World} 
 (hl:l.map (·.1)=ops.toList) (I:Cq P ops l e0 N e' h') (ni:NIP ops l) (hfr:∀(j:Nat) o f,l[j]? =Z (o,f)->∀n∈f.N,T n=U)
 (hsz:∀(j:Nat) o,ops[j]? =Z o->∀d,o.dst=Z d->d<F.tmps.size) 
 (hQ:∀a w,StP T E e0 N w0 F l (λ_=>J) a w->B .normal a w):
 ∀(ii:Nat) (listed:Array Bool) (a:Act) (w:World),listed.size=ops.size->Kx ops listed->ops.size<=ii+listed.toList.countP id->
  StP T E e0 N w0 F l (λj=>listed.getD j af) a w->wpAny P .any ops B ii listed a w:=by
 have hlen:l! l=ops.size:=by have:=eZ ah hl;simpa using this
 have fin:∀(listed:Array Bool) (a:Act) (w:World),(∀j,j<ops.size->listed.getD j af=J)->StP T E e0 N w0 F l (λj=>listed.getD j af) a w->B .normal a w:=by
  intro listed a w hall hst;refine hQ a w ?_;have h1:=I.final 0 (λj=>listed.getD j af) (λj hj=>by simp only[bV];exact hall j M);have h2:=I.final 0 (λ_=>J) (λ_ _=>rfl);unfold StP at hst ⊢
  grind
 intro ii;induction ii with
 |zero=>
  intro listed a w A hcl hcnt hst;have hall:∀j,j<ops.size->listed.getD j af=J:=λj hj=>by
   have:=V8 (l:=listed.toList) cf j cf;simp_all
  refine ⟨?_,fin listed a w hall hst⟩;cases hr:MI .any ops listed with
  |nil=>rfl
  |cons i r=>
   have hi:i∈MI .any ops listed:=cf;let⟨hun,o,ho,_⟩:=mem_ready.1 hi
   grind
 |succ ii ih=>
  intro listed a w A hcl hcnt hst;refine ⟨λhr=>fin listed a w (λj hj=>ae0 ni A hr (j+1) j M hj) hst,λi hi=>?_⟩;let⟨hun,o,ho,hdeps⟩:=mem_ready.1 hi;let⟨hnf,hlt⟩:=B9 hun;refine amm hl I ni hfr hsz hcl hi (λa' w' h=>ih _ a' w' ?_ ?_ ?_ h) hst;simpa using A;intro j oj hoj hj e he hb;by_cases hji:i=j;subst hji;rw[ho]at hoj;cases hoj;exact getD_set_true (hdeps e he hb);rw[getD_set_ne af hji]at hj;exact getD_set_true (hcl j oj hoj hj e he hb);have h1:listed.toList[i]? =Z af:=by
   simp_all
  grind
def aFx (φ0:PM) (E:Nat->Prop) (e':EF) (h0 h':HF) (N:ι) (w0:World) (q:Act) (a:Act) (w:World):Prop:=
 ∃φ,iX φ0 φ h0 h' w0 w/\(∀i k,φ i=Z k->φ0 i=Z k\/i∈N)/\rA φ E h' w/\QF φ (tot E φ h') w e' a/\a.defers=q.defers/\a.tmps.size=q.tmps.size
def iX.drew (w:World):iX T T N N w {w with drawn:=w.drawn+1}:=
 ⟨λ_ _ N=>N,⟨rfl,rfl,rfl,bg _,λ_ _ _=>rfl,λ_ _=>rfl⟩,λ_ _ N=>N⟩
def rA.moved {w':World} (r:rA T O N W) (m:iX T T N N W w') (hk:∀k,own T N k->w'.heap[k]? =W.heap[k]?):rA T O N w':=
 ⟨r.inj,λi b q=>by
   let⟨k,h1,h2,o,h3,I⟩:=r.at_ i b q;exact⟨k,h1,h2,o,by rw[hk k ⟨i,b,q,h1⟩];exact h3,I.mono λ_ _ N=>m.zq N⟩,λk hk=>db (r.el k hk) m.ext.size,
   λg cells A=>m.keepF (r.gl g cells A)⟩
variable {b:Bool}
def KE {ops:Array Oper} {l:Y q?} {e0 e':EF} {h':HF} {φ0:PM} {E:Nat->Prop} 
 (hm:P.follows .mixedOrders=J) (hl:l.map (·.1)=ops.toList) (hc:Cq P ops l e0 N e' h') (A:NIP ops l) (hfr:∀n∈l.flatMap (λp=>p.2.N),φ0 n=U)
 (hsz:∀(j:Nat) o,ops[j]? =Z o->∀d,o.dst=Z d->d<F.tmps.size) (hrep:rA φ0 E N W) (henv:QF φ0 (tot E φ0 N) W e0 F) 
 (hQ:∀a w,aFx φ0 E e' N h' (l.flatMap (λp=>p.2.N)) W F a w->B .normal a w):(Code.region i ops b).wp P B F W:=by
 have hfr':∀(j:Nat) o f,l[j]? =Z (o,f)->∀n∈f.N,φ0 n=U:=λj o f hj n hn=>hfr n (oP.2 ⟨(o,f),bh hj,hn⟩)
 have fin:∀a w,StP φ0 E e0 N W F l (λ_=>J) a w->B .normal a w:=by
  rintro a w ⟨φ,m,d,r,en,df,sz⟩;have h2:=hc.final 0 (λ_=>J) (λ_ _=>rfl);rw[h2.2]at m r en;rw[h2.1]at en;refine hQ a w ⟨φ,m,λid k h=>?_,r,en,df,sz⟩
  grind
 have st0:∀(w:World),iX φ0 φ0 N N W w->rA φ0 E N w->StP φ0 E e0 N W F l (λj=>(lQ ops.size af).getD j af) F w:=by
  intro w m r;have e1:(λj=>(lQ ops.size af).getD j af)=λ_=>af:=by
   funext j;rw[iK,Array.getElem?_replicate];split<;>rfl
  rw[e1];have e2:Sn (λ_=>af) 0 l e0=e0:=by funext t;rw[Hf];intros;rfl
  have e3:I_ (λ_=>af) 0 l N=N:=by funext t;rw[He];intros;rfl
  refine ⟨φ0,by rw[e3];exact m,λ_ _ h=>.inl h,by rw[e3];exact r,?_,rfl,rfl⟩;rw[e2,e3];exact λt x hx=>m.zq (henv t x hx)
 have cl0:Kx ops (lQ ops.size af):=by
  intro j o ho hj;rw[iK,Array.getElem?_replicate]at hj;split at hj<;>simp at hj
 cases b with
 |true=>
  refine wp_region_any hm ?_;exact TZ hl hc A hfr' hsz fin ops.size _ F _ b8 cl0 M (st0 _ (iX.drew W) (hrep.moved (iX.drew W) λ_ _=>rfl))
 |false=>
  have hany:=TZ (E:=E) (w0:=W) hl hc A hfr' hsz fin ops.size _ F W b8 cl0 M (st0 _ (iX.refl _ _ _) hrep);refine wp_region ?_;have key:∀(m k:Nat) (listed:Array Bool) (a:Act) (w:World),k+m=ops.size->listed.size=ops.size->(∀j,j<k->listed.getD j af=J)->(∀j,k<=j->j<ops.size->listed.getD j J=af)->
   wpAny P .any ops B m listed a w->wpOps P ops B (List.range' k m) a w:=by
   intro m;induction m with
   |zero=>intro k listed a w hk hs h1 h2 h;simpa[wpOps] using h.2
   |succ m ih=>
    intro k listed a w hk hs h1 h2 h;have hkr:k∈MI .any ops listed:=by
     refine mem_ready.2 ⟨h2 k (bg _) M,ops[k]'M,qJ M,λe he hb=>?_⟩;exact h1 _ (A.edge k _ (qJ M) e he hb)
    refine wpOp_mono (λa' w' h'=>ih (k+1) (listed.setIfInBounds k J) a' w' M cf ?_ ?_ h') (h.2 k hkr);intro j hj;by_cases hjk:k=j;subst hjk;simp[show k<listed.size by omega];rw[getD_set_ne af hjk];exact h1 j M;intro j hj I;rw[getD_set_ne J M];exact h2 j M I
  have:=key ops.size 0 (lQ ops.size af) F W M b8 b8 (by
   intro j _ hj;rw[iK,Array.getElem?_replicate,aD hj];rfl) hany
  rwa [List.range_eq_range']
inductive PT (α:Type) where
 |leaf
 |node (v:Option α) (l r:PT α)
namespace PT
variable {α:Type}
def get:PT α->Nat->aj α
 |leaf,_=>U
 |node v l r,n=>match n with
  |0=>v
  |m+1=>if aB (m%2) 0 then get l (m/2) else get r (m/2)
def setF:Nat->PT α->Nat->aj α->PT α
 |0,t,_,_=>t
 |k+1,t,n,x=>match t with
  |leaf=>(match n with
   |0=>node x leaf leaf
   |m+1=>if aB (m%2) 0 then node U (setF k leaf (m/2) x) leaf else node U leaf (setF k leaf (m/2) x))
  |node v l r=>(match n with
   |0=>node x l r
   |m+1=>if aB (m%2) 0 then node v (setF k l (m/2) x) r else node v l (setF k r (m/2) x))
def set (t:PT α) (n:Nat) (x:aj α):PT α:=setF (n+1) t n x
def X6 (n:Nat):(leaf:PT α).get n=U:=rfl
def Du:∀(k:Nat) (t:PT α) (n:Nat) (x:aj α),n<k->∀i,(setF k t n x).get i=if i=n then x else t.get i
 |0,_,_,_,h,_=>bi h (fJ _)
 |k+1,t,n,x,h,i=>by
  cases n with
  |zero=>
   cases t<;>cases i<;>simp[setF,get]
  |succ m=>
   have hm:m/2<k:=M;cases t with
   |leaf=>
    simp only[setF];cases I:aB (m%2) 0 with
    |true=>
     have A:m%2=0:=au I;simp[bC];cases i with
     |zero=>simp[get]
     |succ j=>
      simp only[get];cases hj:aB (j%2) 0 with
      |true=>
       have q:j%2=0:=au hj;simp[bC];rw[Du k _ _ _ hm];by_cases he:j/2=m/2
       grind
       rw[av he,av M];rfl
      |false=>grind
    |false=>
     have A:¬m%2=0:=gw I;simp[cE,dQ];cases i with
     |zero=>simp[get]
     |succ j=>
      simp only[get];cases hj:aB (j%2) 0 with
      |true=>grind
      |false=>
       have q:¬j%2=0:=gw hj;simp[cE,dQ];rw[Du k _ _ _ hm];by_cases he:j/2=m/2
       grind
       rw[av he,av M];rfl
   |node v l r=>
    simp only[setF];cases I:aB (m%2) 0 with
    |true=>
     have A:m%2=0:=au I;simp[bC];cases i with
     |zero=>simp[get]
     |succ j=>
      simp[get];cases hj:aB (j%2) 0 with
      |true=>
       have q:j%2=0:=au hj;rw[Du k _ _ _ hm]
       grind
      |false=>grind
    |false=>
     have A:¬m%2=0:=gw I;simp[cE,dQ];cases i with
     |zero=>simp[get]
     |succ j=>
      simp[get];cases hj:aB (j%2) 0 with
      |true=>grind
      |false=>
       have q:¬j%2=0:=gw hj;rw[Du k _ _ _ hm]
       grind
def get_set (t:PT α) (n:Nat) (x:aj α) (i:Nat):(t.set n x).get i=if i=n then x else t.get i:=Du (n+1) t n x M i
variable {R:Type}
def mask :PT α->PT R->PT α
 |leaf,_|node _ _ _,leaf=>leaf
 |node v l r,node u A q=>node (match u with|some _=>v|none=>U) (mask l A) (mask r q)
def get_mask :∀(t:PT α) (u:PT R) (i:Nat) (x:α),(t.mask u).get i=Z x->t.get i=Z x
 |leaf,_,i,x,h|node _ _ _,leaf,i,x,h=>by simp[mask,get]at h
 |node v l r,node u A q,0,x,h=>by
  simp[mask,get]at h ⊢;cases u with
  |none=>simp at h
  |some _=>exact h
 |node v l r,node u A q,j+1,x,h=>by
  simp[mask,get]at h ⊢;split at h;rename_i hj;rw[aD hj];exact get_mask l A _ x h;rename_i hj;rw[av hj];exact get_mask r q _ x h
def mk:aj α->PT α->PT α->PT α
 |none,leaf,leaf=>leaf
 |v,l,r=>node v l r
def Dv (v:aj α) (l r:PT α) (i:Nat):(mk v l r).get i=(node v l r).get i:=by
 cases v<;>cases l<;>cases r<;>first|rfl|(cases i<;>simp[mk,get])
def only (m:Nat):Nat->Nat->PT α->PT α
 |_,_,leaf=>leaf
 |a,b,node v l r=>mk (if aF m b then v else U) (only m (2*a) (a+b) l) (only m (2*a) (2*a+b) r)
def get_only (m:Nat):∀(t:PT α) (a b i:Nat),(only m a b t).get i=if aF m (a*i+b) then t.get i else U
 |leaf,_,_,_|node v l r,a,b,0=>by simp[only,Dv,get]
 |node v l r,a,b,j+1=>by
  simp only[only,Dv,get];cases hj:aB (j%2) 0 with
  |true=>
   have q:j%2=0:=au hj;simp[bC];rw[get_only m l];have:2*a*(j/2)+(a+b)=a*(j+1)+b:=by
    have e:j=2*(j/2):=M
    grind
   rw[this]
  |false=>
   have q:¬j%2=0:=gw hj;simp[cE,dQ];rw[get_only m r];have:2*a*(j/2)+(2*a+b)=a*(j+1)+b:=by
    have e:j=2*(j/2)+1:=M
    grind
   rw[this]
def exc (m:Nat):Nat->Nat->PT α->PT α
 |_,_,leaf=>leaf
 |a,b,node v l r=>mk (if aF m b then U else v) (exc m (2*a) (a+b) l) (exc m (2*a) (2*a+b) r)
def Vd (m:Nat):∀(t:PT α) (a b i:Nat),(exc m a b t).get i=if aF m (a*i+b) then U else t.get i
 |leaf,_,_,_|node v l r,a,b,0=>by simp[exc,Dv,get]
 |node v l r,a,b,j+1=>by
  simp only[exc,Dv,get];cases hj:aB (j%2) 0 with
  |true=>
   have q:j%2=0:=au hj;simp[bC];rw[Vd m l];have:2*a*(j/2)+(a+b)=a*(j+1)+b:=by
    have e:j=2*(j/2):=M
    grind
   rw[this]
  |false=>
   have q:¬j%2=0:=gw hj;simp[cE,dQ];rw[Vd m r];have:2*a*(j/2)+(2*a+b)=a*(j+1)+b:=by
    have e:j=2*(j/2)+1:=M
    grind
   rw[this]
def merge (m:Nat):Nat->Nat->PT α->PT α->PT α
 |a,b,leaf,t=>only m a b t
 |a,b,node v l r,leaf=>exc m a b (node v l r)
 |a,b,node v l r,node q I A=>mk (if aF m b then q else v) (merge m (2*a) (a+b) l I) (merge m (2*a) (2*a+b) r A)
def get_merge (m:Nat):∀(t u:PT α) (a b i:Nat),(merge m a b t u).get i=if aF m (a*i+b) then u.get i else t.get i
 |leaf,u,a,b,i=>by simp[merge,get_only,X6]
 |node v l r,leaf,a,b,i=>by simp[merge,Vd,X6]
 |node v l r,node v' I A,a,b,0=>by simp[merge,Dv,get]
 |node v l r,node v' I A,a,b,j+1=>by
  simp only[merge,Dv,get];cases hj:aB (j%2) 0 with
  |true=>
   have q:j%2=0:=au hj;simp[bC];rw[get_merge m l I];have:2*a*(j/2)+(a+b)=a*(j+1)+b:=by
    have e:j=2*(j/2):=M
    grind
   rw[this]
  |false=>
   have q:¬j%2=0:=gw hj;simp[cE,dQ];rw[get_merge m r A];have:2*a*(j/2)+(2*a+b)=a*(j+1)+b:=by
    have e:j=2*(j/2)+1:=M
    grind
   rw[this]
def all (p:Nat->α->Bool):Nat->Nat->PT α->Bool
 |_,_,leaf=>J
 |a,b,node v l r=>(match v with|some x=>p b x|none=>J)&&all p (2*a) (a+b) l&&all p (2*a) (2*a+b) r
def get_all (p:Nat->α->Bool):∀(t:PT α) (a b i:Nat) (x:α),all p a b t=J->t.get i=Z x->p (a*i+b) x=J
 |leaf,_,_,_,_,_,h=>by simp[get]at h
 |node v l r,a,b,0,x,h,q=>by
  subst q;simp[all,ar]at h
  grind
 |node v l r,a,b,j+1,x,h,q=>by
  simp[all,ar]at h;simp only[get]at q;cases hj:aB (j%2) 0 with
  |true=>
   have A:j%2=0:=au hj;simp[hj,bC]at q;have key:=get_all p l _ _ _ x h.1.2 q;have:2*a*(j/2)+(a+b)=a*(j+1)+b:=by
    have e:j=2*(j/2):=M
    grind
   rw[this]at key;exact key
  |false=>
   have A:¬j%2=0:=gw hj;simp[hj,cE,dQ]at q;have key:=get_all p r _ _ _ x h.2 q;have:2*a*(j/2)+(2*a+b)=a*(j+1)+b:=by
    have e:j=2*(j/2)+1:=M
    grind
   rw[this]at key;exact key
def dom:Nat->Nat->PT α->Nat->Nat
 |_,_,leaf,acc=>acc
 |a,b,node v l r,acc=>dom (2*a) (a+b) l (dom (2*a) (2*a+b) r (match v with|some _=>acc|||(1<<<b)|none=>acc))
def It:∀(t:PT α) (a b acc i:Nat),aF acc i=J->aF (dom a b t acc) i=J
 |leaf,_,_,_,_,h=>h
 |node v l r,a,b,acc,i,h=>by
  refine It l _ _ _ i (It r _ _ _ i ?_);cases v with
  |none=>exact h
  |some x=>simp[bt,h]
def dom_get:∀(t:PT α) (a b acc i:Nat) (x:α),t.get i=Z x->aF (dom a b t acc) (a*i+b)=J
 |leaf,_,_,_,_,_,h=>by simp[get]at h
 |node v l r,a,b,acc,0,x,q=>by
  cases q;simp only[dom,Nat.mul_zero,bV];refine It l _ _ _ b (It r _ _ _ b ?_);rw[bt,Ed,LY];simp
 |node v l r,a,b,acc,j+1,x,q=>by
  simp only[dom];simp only[get]at q;cases hj:aB (j%2) 0 with
  |true=>
   have A:j%2=0:=au hj;simp only[hj,bC]at q;have key:=dom_get l (2*a) (a+b) (dom (2*a) (2*a+b) r (match v with|some _=>acc|||(1<<<b)|none=>acc)) (j/2) x q;have:2*a*(j/2)+(a+b)=a*(j+1)+b:=by
    have e:j=2*(j/2):=M
    calc 2*a*(j/2)+(a+b)=a*(2*(j/2))+a+b:=by rw[Nat.mul_comm 2 a,Nat.mul_assoc];omega
     _=a*(j+1)+b:=by rw[<- e,Nat.mul_add];omega
   rw[this]at key;exact key
  |false=>
   have A:¬j%2=0:=gw hj;simp only[hj,cE,dQ]at q;have key:=dom_get r (2*a) (2*a+b) (match v with|some _=>acc|||(1<<<b)|none=>acc) (j/2) x q;have:2*a*(j/2)+(2*a+b)=a*(j+1)+b:=by
    have h2:a*(j+1)=a*(2*(j/2))+2*a:=by
     calc a*(j+1)=a*(2*(j/2)+2):=by rw[show j+1=2*(j/2)+2 from M]
      _=a*(2*(j/2))+2*a:=by rw[Nat.mul_add];omega
    have I:2*a*(j/2)=a*(2*(j/2)):=by rw[Nat.mul_comm 2 a,Nat.mul_assoc]
    omega
   rw[this]at key;exact It l _ _ _ _ key
def emp:PT α:=leaf
end PT
abbrev xY:=PT AV
abbrev iN:=PT ot
abbrev NW:=Y (Nat×ot)
def xY.put (e:xY):aj Nat->AV->xY
 |none,_=>e
 |some d,x=>e.set d (Z x)
def jZ:NW->HF
 |[],_=>U
 |(s,x)::r,t=>if aB s t then Z x else jZ r t
def iN.upd (h:iN) (A:ι) (q:NW):iN:=match A with
 |[]=>h
 |i::r=>iN.upd (h.set i (jZ q i)) r q
def amd (e:xY) (d:aj Nat) (x:AV):Jq e.get d x=(e.put d x).get:=by
 funext t;cases d with
 |none=>simp[Jq,xY.put]
 |some d=>
  simp[Jq,xY.put,PT.get_set,al]
  grind
def alg (q:ι) (A:NW):∀h:iN,eD h.get q (jZ A)=(h.upd q A).get:=by
 induction q with
 |nil=>intro h;funext t;simp[eD,iN.upd]
 |cons i r I=>
  intro h;rw[iN.upd,<-I];funext t;unfold eD;rw[PT.get_set]
  grind
def M8 (acc:ι) (s:Nat) (e:Edge):Nat:=if Ea .any e then (s|||2^e.on)|||acc.getD e.on 0 else s
def Qf:Y Oper->ι->ι
 |[],acc=>acc
 |o::r,acc=>Qf r (acc++[o.after.toList.foldl (M8 acc) 0])
def Qg {acc:ι} (I:E[i]? =Z d) (ha:∀(j:Nat) B,acc[j]? =Z B->∀k,B.testBit k=J->Bef E j k):
 ∀(es:Y Edge) (s:Nat),(∀e∈es,e∈d.after)->(∀k,s.testBit k=J->Bef E i k)->∀k,(es.foldl (M8 acc) s).testBit k=J->Bef E i k
 |[],s,_,q,k,hi=>q k hi
 |e::r,s,he,q,k,hi=>by
  refine Qg I ha r (M8 acc s e) (λe' h'=>he e' (bx _ h')) (λk hi=>?_) k hi;unfold M8 at hi;split at hi;rename_i hb;rw[bt,bt,gm,gm]at hi;rcases hi with (hi|hi)|hi;exact q k hi;rw[LY]at hi;have:e.on=k:=cf;subst this;exact .one I (he e (bU ..)) hb;refine .more I (he e (bU ..)) hb ?_;rw[aC]at hi;cases A:acc[e.on]? with
  |none=>rw[A]at hi;simp at hi
  |some C=>rw[A]at hi;exact ha _ C A k hi
  exact q k hi
def TX {ops:Array Oper}:∀(rest:Y Oper) (acc:ι),(∀(j:Nat),∀o,rest[j]? =Z o->ops[l! acc+j]? =Z o)->
 (∀(j:Nat) B,acc[j]? =Z B->∀i,B.testBit i=J->Bef ops j i)->∀(j:Nat) B,(Qf rest acc)[j]? =Z B->∀i,B.testBit i=J->Bef ops j i
 |[],acc,_,q=>q
 |o::r,acc,A,q=>by
  refine TX r _ (λj o' hj=>?_) ?_;rw[aQ,bJ,show (l! acc)+1+j=l! acc+(j+1) from M];simp_all;intro j B hj i hi;rcases co j (l! acc) with h|h
  grind
  rw[cL h]at hj;have I:j-l! acc=0:=cf;have hjl:j=l! acc:=M;subst hjl;simp at hj;subst hj;have hoo:ops[l! acc]? =Z o:=by simpa using A 0 o rfl
  rw[<- Array.foldl_toList]at hi;exact Qg hoo q _ 0 (λe he=>by simpa using he) (λi hi=>by simp at hi) i hi
inductive T5 where
 |mv (x:Operand)
 |pick (c a b:Operand)
 |alloc (ty:TypeId) (z:ξ)
 |box (ty:TypeId) (x:Operand)
 |build (z:ξ) (parts:List (Nat×Nat×Operand))
 |xq (ty:TypeId) (sz len:Nat) (z:ξ) (parts:List (Nat×Nat×Operand))
 |load (sz:Nat) (ag:Bool) (x:Operand)
 |store (sz:Nat) (x v:Operand)
 |tos (x:Operand)
 |sla (n sz:Nat) (x lo:Operand)
 |sls (x:Operand) (lo hi:Option Operand)
 |byt (x:Operand)
 |jp (neg:Bool) (x:Operand)
 |jz (x:Operand)
 |bin (op:BinOp) (x y:Operand)
 |jm (neg:Bool) (ds:List TypeDesc) (x y:Operand)
 |zt (neg:Bool) (x:Operand)
 |jr (neg:Bool) (x y:Operand)
 |not (x:Operand)
 |conv (k:IntKind) (x:Operand)
 |zd (ty:TypeId) (sz bytes:Nat) (z:ξ) (l c:Operand)
 |slc (sz:Nat) (x:Operand) (lo hi mx:Option Operand)
 |jb (off:Nat) (x:Operand)
 |fld (off sz:Nat) (ag:Bool) (x:Operand)
 |jf (sz:Nat) (x i:Operand)
 |jk (n sz:Nat) (x i:Operand)
 |idx (n sz:Nat) (ag:Bool) (x i:Operand)
 |ext (x:Operand) (i:Nat)
 |len (x:Operand)
 |lens (x:Operand)
 |max (x y:Operand)
 |min (x y:Operand)
 |jv (x i:Operand)
 |app (ty:TypeId) (sz bytes:Nat) (s x:Operand)
 |copy (sz:Nat) (d x:Operand)
 |clr (sz:Nat) (z:ξ) (x:Operand)
 |mkf (f:FuncId) (caps:List Operand)
 |mkm
 |lku (str ok:Bool) (z:Value) (x k:Operand)
 |mup (str:Bool) (x k v:Operand)
 |rng (x:Operand)
 |nxt (x:Operand)
 |jq
inductive SI where
 |op (s:T5)
 |call (f:FuncId) (args:List Operand)
 |jd (x:Operand) (args:List Operand)
def mem (t:Nat):ι->Bool
 |[]=>af
 |x::r=>aB x t||mem t r
def Qa:ξ->Bool
 |[]=>J
 |v::r=>v.oneCell'&&Qa r
def Ki:Value->AV
 |.agg vs=>if Qa vs.toList then .agg (vs.toList.map λv=>.f (.raw v)) else .f (.raw (.agg vs))
 |v=>.f (.raw v)
def mN (e:xY):Operand->aj AV
 |.tmp t=>e.get t
 |.const v=>Z (Ki v)
 |.func g=>Z (.qy g [])
 |.global g=>match G g with|some cells=>Z (.f (.K cells 0))|none=>U
def evs (e:xY):Y Operand->aj (Y AV)
 |[]=>Z []
 |x::xs=>match mN e x with|some y=>(match evs e xs with|some q=>Z (y::q)|none=>U)|none=>U
structure Cp where
 val:AV
 rd:ι
 wr:ι
 nw:NW
 N:ι
def Cp.eff (r:Cp):BQ:=⟨r.val,r.rd,r.wr,jZ r.nw,r.N⟩
def rv (x:AV):aj Cp:=Z ⟨x,[],[],[],[]⟩
def raw (v:Value):AV:=.f (.raw v)
def pkV (ok:Bool) (v:AV) (b:Bool):AV:=match ok with|true=>.qd [v,raw (.bool b)]|false=>v
def CP:Y AV->aj (Y FV)
 |[]=>Z []
 |.f x::r=>match CP r with|some l=>Z (x::l)|none=>U
 |_::_=>U
def qB (l:Y AV):BC:=match CP l with|some q=>.fz q|none=>.mx l
def SJ (l:Y AV):AV:=match CP l with|some q=>.f (.agg q)|none=>.agg l
variable {R:Type}
def splice (l:Y R) (off:Nat) (vs:Y R):Y R:=l.take off++vs++l.drop (off+l! vs)
def BC.toMx:BC->Y AV
 |.fz l=>l.map .f
 |.mx l=>l
 |_=>[]
def il:Y AV->Bool
 |[]=>J
 |x::r=>x.isCell&&il r
def BC.put (c:BC) (off:Nat) (vs:Y AV):aj BC:=
 if c.isCells&&di (off+l! vs) c.len&&il vs then
  match c,CP vs with
  |.fz l,Z q=>Z (.fz (splice l off q))
  |c,_=>Z (.mx (splice c.toMx off vs))
 else U
def BC.sub? (c:BC) (off sz:Nat):Bool->aj AV
 |false=>match sz with|1=>c.get off|_=>U
 |true=>match c with
  |.fz l=>if di (off+sz) (l! l) then Z (.f (.agg ((l.drop off).take sz))) else U
  |.mx l=>if di (off+sz) (l! l) then Z (.agg ((l.drop off).take sz)) else U
  |_=>U
def AV.cs:AV->Y AV
 |.agg l=>l
 |.f (.agg l)=>l.map .f
 |x=>[x]
def Ax (h:iN) (sz:Nat) (q:Bool):AV->aj Cp
 |.K id off=>match h.get id with
  |some b=>(match b.c.sub? off sz q with|some v=>Z ⟨v,[id],[],[],[]⟩|none=>U)
  |none=>U
 |.f (.K cells off)=>(match (BC.fz cells).sub? off sz q with|some v=>rv v|none=>U)
 |_=>U
def Kq (h:iN) (sz:Nat) (v:AV):AV->aj Cp
 |.K id off=>match h.get id with
  |some b=>if (l! v.cs)==sz then (match b.c.put off v.cs with|some c=>Z ⟨raw undef,[id],[id],[(id,⟨b.ty,c⟩)],[]⟩|none=>U) else U
  |none=>U
 |_=>U
abbrev j?:=Nat×Nat×Operand
def Fq (cells:Y AV) (e:xY):Y j?->aj (Y AV)
 |[]=>Z cells
 |(off,sz,x)::r=>match mN e x with
  |some v=>if (l! v.cs)==sz&&di (off+sz) (l! cells)&&il v.cs then Fq (splice cells off v.cs) e r else U
  |none=>U
def cN (a b:Int):Bool:=decide (a<=b)
def hY (a b:Int):Bool:=decide (a<b)
def Nh (k:IntKind) (n:Int):Int:=
 match k with
 |.i64=>if cN (-9223372036854775808) n&&cN n 9223372036854775807 then n else kx .i64 n
 |.u8=>if cN 0 n&&cN n 255 then n else kx .u8 n
 |k=>kx k n
def nok:Int->Bool
 |.ofNat k|.negSucc k=>aB k k
def aCs (n:Int):nok n=J:=by cases n<;>exact x_ _
def aU (k:IntKind) (n:Int):Int:=bif nok n then Nh k n else 0
def Ei (k:IntKind) (n:Int):aU k n=Nh k n:=by unfold aU;rw[aCs];rfl
def uS (a b:ByteArray):Bool:=a.data.toList==b.data.toList
def asq (k:IntKind) (a b:Int):Int:=aU k ((BitVec.ofInt k.bits a&&&BitVec.ofInt k.bits b).toNat)
def xX (op:BinOp):Value->Value->aj Value
 |.int k a,.int q b=>if k==q then
   match op with
   |.add=>Z (.int k (aU k (a+b)))
   |.sub=>Z (.int k (aU k (a-b)))
   |.mul=>Z (.int k (aU k (a*b)))
   |.rem=>if b==0 then U else Z (.int k (a.tmod b))
   |.quo=>if b==0 then U else Z (.int k (aU k (a.tdiv b)))
   |.eql=>Z (.bool (a==b))
   |.neq=>Z (.bool (a !=b))
   |.lss=>Z (.bool (hY a b))
   |.leq=>Z (.bool (cN a b))
   |.gtr=>Z (.bool (hY b a))
   |.geq=>Z (.bool (cN b a))
   |.and=>Z (.int k (asq k a b))
   |.shl=>if cN 0 b then Z (.int k (aU k (a*2^(min b.toNat k.bits)))) else U
   |_=>U
  else U
 |.string a,.string b=>match op with
   |.eql=>Z (.bool (uS a b))
   |.neq=>Z (.bool !(uS a b))
   |_=>U
 |_,_=>U
def Bx:TypeDesc->FV->FV->aj Bool
 |.int _,.raw (.int k a),.raw (.int q b)=>if k==q then Z (a==b) else U
 |.bool,.raw (.bool a),.raw (.bool b)=>Z (a==b)
 |.string,.raw (.string a),.raw (.string b)=>Z (uS a b)
 |_,_,_=>U
def tH:Y TypeDesc->Y FV->Y FV->aj Bool
 |[],[],[]=>Z J
 |d::ds,x::xs,y::q=>match Bx d x y with
  |some J=>tH ds xs q
  |some af=>Z af
  |none=>U
 |_,_,_=>U
def AV.row? (h:iN) (sz:Nat):AV->aj (Y AV×Nat×ι)
 |.f (.sl cells n)=>if di (n*sz) (l! cells) then Z ((cells.take (n*sz)).map .f,n,[]) else U
 |.f (.raw (.slice U 0 0))|.emp=>Z ([],0,[])
 |.I id sz' n=>if sz'==sz then (match h.get id with|some b=>if b.c.isCells&&di (n*sz) b.c.len then Z (b.c.toMx.take (n*sz),n,[id]) else U|none=>U) else U
 |.sl id off n=>match h.get id with|some b=>if b.c.isCells&&di (off+n*sz) b.c.len then Z ((b.c.toMx.drop off).take (n*sz),n,[id]) else U|none=>U
 |_=>U
def apg (e:xY) (d:Nat):aj Operand->aj Nat
 |none=>Z d
 |some x=>match mN e x with
  |some (.f (.raw (.int _ j)))=>if cN 0 j then Z j.toNat else U
  |_=>U
def Gy:Y AV->aj ζ
 |[]=>Z []
 |.f (.raw (.int .u8 n))::r=>(match Gy r with|some l=>Z (Ct n.toNat::l)|none=>U)
 |_=>U
def AV.slen:AV->aj Nat
 |.f (.sl _ n)|.f (.raw (.slice _ n _))=>Z n
 |.emp=>Z 0
 |.I _ _ n|.sl _ _ n=>Z n
 |_=>U
def bk (n bytes:Nat):Bool:=di n 1099511627776&&di (n*bytes) 1099511627776
def repl (z:ξ):Nat->Y FV
 |0=>[]
 |n+1=>z.map .raw++repl z n
def Ez:Value->Bool
 |.slice U 0 0=>J
 |_=>af
def JL:AV->Bool
 |.emp=>J
 |.f (.raw v)=>Ez v
 |_=>af
def wy (k:Value):Y C!->aj (aj AV)
 |[]=>Z U
 |(q,v)::r=>match xX .eql k q with
  |some (.bool J)=>Z (Z v)
  |some (.bool af)=>wy k r
  |_=>U
def C' (k:Value) (v:AV):Y C!->aj (Y C!)
 |[]=>Z [(k,v)]
 |(q,A)::r=>match xX .eql k q with
  |some (.bool J)=>Z ((k,v)::r)
  |some (.bool af)=>(match C' k v r with|some I=>Z ((q,A)::I)|none=>U)
  |_=>U
def Df:Bool->Value->Bool
 |false,.int _ _=>J
 |true,.string _=>J
 |_,_=>af
def rnA (b:UInt8) (s:ByteArray) (p:Nat):Int:=bif dE b.toNat 128 then b.toNat else (Utf8.decode s p).1
def wdA (b:UInt8) (s:ByteArray) (p:Nat):Nat:=bif dE b.toNat 128 then 1 else (Utf8.decode s p).2
def eE (s:T5) (e:xY) (h:iN) (nx:Nat):aj Cp:=
 match s with
 |.mv x=>match mN e x with|some v=>rv v|none=>U
 |.pick c a b=>match mN e c with
  |some (.f (.raw (.bool t)))=>(match mN e (if t then a else b) with|some v=>rv v|none=>U)
  |_=>U
 |.alloc ty z=>Z ⟨.K nx 0,[],[nx],[(nx,⟨ty,.fz (z.map .raw)⟩)],[nx]⟩
 |.box ty x=>match mN e x with
  |some v=>if il v.cs then Z ⟨.K nx 0,[],[nx],[(nx,⟨ty,qB v.cs⟩)],[nx]⟩ else U
  |none=>U
 |.build z parts=>match Fq (z.map raw) e parts with|some cs=>rv (SJ cs)|none=>U
 |.xq ty sz len z parts=>match Fq ((repl z len).map .f) e parts with
  |some cs=>Z ⟨if len=0 then .emp else .I nx sz len,[],[nx],[(nx,⟨ty,qB cs⟩)],[nx]⟩
  |none=>U
 |.load sz q x=>match mN e x with|some p=>Ax h sz q p|none=>U
 |.store sz x v=>match mN e x,mN e v with|some p,Z y=>Kq h sz y p|_,_=>U
 |.jz x=>match mN e x with
  |some (.K id off)=>rv (.K id off)
  |some (.f (.K cells off))=>rv (.f (.K cells off))
  |some (.qy g cap)=>rv (.qy g cap)
  |_=>U
 |.bin op x y=>match mN e x,mN e y with
  |some (.f (.raw u)),Z (.f (.raw v))=>(match xX op u v with|some r=>rv (raw r)|none=>U)
  |_,_=>U
 |.jm neg ds x y=>match mN e x,mN e y with
  |some (.f (.agg a)),Z (.f (.agg b))=>(match tH ds a b with|some r=>rv (raw (.bool (r !=neg)))|none=>U)
  |_,_=>U
 |.jr neg x y=>match mN e x,mN e y with
  |some (.f (.raw (.bool a))),Z (.f (.raw (.bool b)))=>rv (raw (.bool ((a==b) !=neg)))
  |_,_=>U
 |.zt neg x=>match mN e x with
  |some (.I _ _ _)|some (.sl _ _ _)|some (.f (.sl _ (_+1)))=>rv (raw (.bool neg))
  |some (.f (.sl _ 0))|some .emp=>rv .qj
  |some (.f (.raw v))=>if Ez v then rv (raw (.bool !neg)) else U
  |_=>U
 |.not x=>match mN e x with|some (.f (.raw (.bool b)))=>rv (raw (.bool !b))|_=>U
 |.conv k x=>match mN e x with|some (.f (.raw (.int _ n)))=>rv (raw (.int k (aU k n)))|_=>U
 |.zd ty sz bytes z l c=>match mN e l,mN e c with
  |some (.f (.raw (.int _ a))),Z (.f (.raw (.int _ b)))=>
   if cN 0 a&&cN a b&&bk b.toNat bytes then Z ⟨.I nx sz a.toNat,[],[nx],[(nx,⟨ty,.fz (repl z a.toNat)⟩)],[nx]⟩ else U
  |_,_=>U
 |.slc sz x A hi mx=>match mN e x with
  |some v=>match A,hi,mx with
   |none,Z (.const (.int _ 0)),Z (.const (.int _ 0))=>if v.slen.isSome then rv .emp else U
   |none,Z b,U=>match v,mN e b with
    |.I id sz' n,Z (.f (.raw (.int _ j)))=>if sz'==sz&&cN 0 j&&cN j n then (match h.get id with
     |some blk=>if blk.c.isCells&&di (n*sz) blk.c.len then Z ⟨.I nx sz j.toNat,[id],[nx,id],[(nx,⟨blk.ty,qB (blk.c.toMx.take (j.toNat*sz))⟩)],[nx]⟩ else U
     |none=>U) else U
    |.f (.sl cells n),Z (.f (.raw (.int _ j)))=>if cN 0 j&&cN j n&&di (n*sz) (l! cells) then rv (.f (.sl (cells.take (j.toNat*sz)) j.toNat)) else U
    |_,_=>U
   |some b,U,U=>match v,mN e b with
    |.I id sz' n,Z (.f (.raw (.int _ j)))=>if sz'==sz&&cN 0 j&&hY j n then rv (.sl id (j.toNat*sz) (n-j.toNat)) else U
    |.f (.sl cells n),Z (.f (.raw (.int _ j)))=>if cN 0 j&&cN j n&&di (n*sz) (l! cells) then rv (.f (.sl ((cells.drop (j.toNat*sz)).take ((n-j.toNat)*sz)) (n-j.toNat))) else U
    |_,_=>U
   |none,Z b,Z b'=>match v,mN e b,mN e b' with
    |.f (.sl cells n),Z (.f (.raw (.int _ j))),Z (.f (.raw (.int _ j')))=>if decide (j=j')&&cN 0 j&&cN j n&&di (n*sz) (l! cells) then rv (.qn (cells.take (j.toNat*sz)) j.toNat) else U
    |_,_,_=>U
   |some b,Z b',U=>match v,mN e b,mN e b' with
    |.f (.sl cells n),Z (.f (.raw (.int _ j))),Z (.f (.raw (.int _ k)))=>if cN 0 j&&cN j k&&cN k n&&di (n*sz) (l! cells) then rv (.f (.sl ((cells.drop (j.toNat*sz)).take ((k.toNat-j.toNat)*sz)) (k.toNat-j.toNat))) else U
    |_,_,_=>U
   |_,_,_=>U
  |none=>U
 |.jb off x=>match mN e x with
  |some (.K id o)=>rv (.K id (o+off))
  |some (.f (.K cells o))=>rv (.f (.K cells (o+off)))
  |_=>U
 |.fld off sz q x=>match mN e x with
  |some (.agg l)=>(match (BC.mx l).sub? off sz q with|some v=>rv v|none=>U)
  |some (.f (.agg l))=>(match (BC.fz l).sub? off sz q with|some v=>rv v|none=>U)
  |_=>U
 |.jf sz x i=>match mN e x,mN e i with
  |some v,Z (.f (.raw (.int _ j)))=>match v with
   |.I id sz' n=>if sz'==sz&&cN 0 j&&hY j n then rv (.K id (j.toNat*sz)) else U
   |.sl id off n=>if cN 0 j&&hY j n then rv (.K id (off+j.toNat*sz)) else U
   |.f (.sl cells n)=>if cN 0 j&&hY j n then rv (.f (.K cells (j.toNat*sz))) else U
   |_=>U
  |_,_=>U
 |.jk n sz x i=>match mN e x,mN e i with
  |some v,Z (.f (.raw (.int _ j)))=>if cN 0 j&&hY j n then (match v with
   |.K id off=>rv (.K id (off+j.toNat*sz))
   |.f (.K cells off)=>rv (.f (.K cells (off+j.toNat*sz)))
   |_=>U) else U
  |_,_=>U
 |.idx n sz q x i=>match mN e x,mN e i with
  |some v,Z (.f (.raw (.int _ j)))=>if cN 0 j&&hY j n then (match v with
   |.agg l=>(match (BC.mx l).sub? (j.toNat*sz) sz q with|some v=>rv v|none=>U)
   |.f (.agg l)=>(match (BC.fz l).sub? (j.toNat*sz) sz q with|some v=>rv v|none=>U)
   |_=>U) else U
  |_,_=>U
 |.ext x i=>match mN e x with|some (.qd l)=>(match l[i]? with|some v=>rv v|none=>U)|_=>U
 |.len x=>match mN e x with
  |some v=>(match v.slen with|some n=>rv (raw (.int .i64 n))|none=>U)
  |none=>U
 |.lens x=>match mN e x with
  |some (.f (.raw (.string s)))=>rv (raw (.int .i64 (l! s.data.toList)))
  |_=>U
 |.max x y=>match mN e x,mN e y with
  |some (.f (.raw (.int k a))),Z (.f (.raw (.int _ b)))=>rv (raw (.int k (if hY a b then b else a)))
  |_,_=>U
 |.min x y=>match mN e x,mN e y with
  |some (.f (.raw (.int k a))),Z (.f (.raw (.int _ b)))=>rv (raw (.int k (if hY b a then b else a)))
  |_,_=>U
 |.jv x i=>match mN e x,mN e i with
  |some (.f (.raw (.string s))),Z (.f (.raw (.int _ j)))=>if cN 0 j then (match s.data.toList[j.toNat]? with|some b=>rv (raw (.int .u8 b.toNat))|none=>U) else U
  |_,_=>U
 |.tos x=>match mN e x with
  |some y=>(match y.row? h 1 with
   |some (src,_,rd)=>(match Gy src with|some l=>Z ⟨raw (.string ⟨l.toArray⟩),rd,[],[],[]⟩|none=>U)
   |none=>U)
  |none=>U
 |.sls x A hi=>match mN e x with
  |some (.f (.raw (.string s)))=>(match apg e 0 A,apg e s.data.size hi with
   |some l,Z m=>if di l m&&di m s.data.size then rv (raw (.string ⟨((s.data.toList.drop l).take (m-l)).toArray⟩)) else U
   |_,_=>U)
  |_=>U
 |.byt x=>match mN e x with
  |some (.f (.raw (.string s)))=>if di s.data.size 65536 then rv (.f (.sl (s.data.toList.map λb=>.raw (.int .u8 b.toNat)) s.data.size)) else U
  |_=>U
 |.jp neg x=>match mN e x with
  |some (.f (.raw .nilIface))=>rv (raw (.bool (!neg)))
  |_=>U
 |.sla n sz x A=>match mN e x,mN e A with
  |some (.K id off),Z (.f (.raw (.int _ j)))=>if cN 0 j&&hY j n then rv (.sl id (off+j.toNat*sz) (n-j.toNat)) else U
  |_,_=>U
 |.app ty sz bytes s x=>match mN e s,mN e x with
  |some b,Z y=>match y.row? h sz with
   |some (src,m,rd)=>match b with
    |.I id sz' n=>match h.get id with
     |some blk=>if sz'==sz&& !(mem id rd)&&blk.c.isCells&&di (n*sz) blk.c.len&&blk.ty==ty&&bk (n+m) bytes then
       Z ⟨.I nx sz (n+m),id::rd,[nx,id],[(nx,⟨ty,qB (blk.c.toMx.take (n*sz)++src)⟩)],[nx]⟩ else U
     |none=>U
    |.qn cells n=>if di (n*sz) (l! cells)&&bk (n+m) bytes then
      (if m==0 then Z ⟨.f (.sl cells n),rd,[],[],[]⟩ else Z ⟨.I nx sz (n+m),rd,[nx],[(nx,⟨ty,qB ((cells.take (n*sz)).map .f++src)⟩)],[nx]⟩) else U
    |b=>if JL b&&bk m bytes then
      (if m==0 then Z ⟨b,rd,[],[],[]⟩ else Z ⟨.I nx sz m,rd,[nx],[(nx,⟨ty,qB src⟩)],[nx]⟩) else U
   |none=>U
  |_,_=>U
 |.copy sz d x=>match mN e d,mN e x with
  |some (.I id sz' n),Z y=>(match h.get id,y.row? h sz with
   |some blk,Z (src,m,rd)=>if sz'==sz&& !(mem id rd)&&di (n*sz) blk.c.len then
     (match blk.c.put 0 (src.take (mr m n*sz)) with
     |some c=>Z ⟨raw (.int .i64 (mr m n)),id::rd,[id],[(id,⟨blk.ty,c⟩)],[]⟩
     |none=>U) else U
   |_,_=>U)
  |_,_=>U
 |.clr _ z x=>match mN e x with
  |some (.sl id off n)=>(match h.get id with
   |some blk=>if dE 0 n then (match blk.c.put off ((repl z n).map .f) with
    |some c=>Z ⟨.qd [],[id],[id],[(id,⟨blk.ty,c⟩)],[]⟩
    |none=>U) else U
   |none=>U)
  |_=>U
 |.mkf f caps=>match evs e caps with|some l=>rv (.qy f l)|none=>U
 |.mkm=>Z ⟨.mp nx,[],[nx],[(nx,⟨0,.mp []⟩)],[nx]⟩
 |.lku str ok z x k=>match mN e x,mN e k with
  |some (.mp id),Z (.f (.raw key))=>(match h.get id with
   |some ⟨0,.mp es⟩=>if Df str key then (match wy key es with|some (Z v)=>Z ⟨pkV ok v J,[id],[],[],[]⟩|some U=>Z ⟨pkV ok (raw z) af,[id],[],[],[]⟩|none=>U) else U
   |_=>U)
  |_,_=>U
 |.mup str x k v=>match mN e x,mN e k,mN e v with
  |some (.mp id),Z (.f (.raw key)),Z y=>(match h.get id with
   |some ⟨0,.mp es⟩=>if Df str key then (match C' key y es with|some es'=>Z ⟨raw undef,[id],[id],[(id,⟨0,.mp es'⟩)],[]⟩|none=>U) else U
   |_=>U)
  |_,_,_=>U
 |.rng x=>match mN e x with
  |some (.f (.raw (.string s)))=>Z ⟨.K nx 0,[],[nx],[(nx,⟨0,.it s 0⟩)],[nx]⟩
  |_=>U
 |.nxt x=>match mN e x with
  |some (.K id 0)=>(match h.get id with
   |some ⟨ty,.it s p⟩=>(match s.data.toList[p]? with
    |some b=>Z ⟨.qd [raw (.bool J),raw (.int .i64 p),raw (.int .i32 (rnA b s p))],[id],[id],[(id,⟨ty,.it s (p+wdA b s p)⟩)],[]⟩
    |none=>Z ⟨.qd [raw (.bool af)],[id],[id],[(id,⟨ty,.it s p⟩)],[]⟩)
   |_=>U)
  |_=>U
 |.jq=>U
structure pt where
 dst:Option Nat
 op:SI
 guard:Option (Nat×Bool)
inductive SC where
 |skip
 |jy (ops:List pt) (prs:List (Nat×Nat))
 |seq (a b:SC)
 |cond (c:Nat) (a b:SC)
 |block (id:Nat) (b:SC)
 |loop (b:SC)
 |exit (id:Nat)
 |ret
 |defer (f:FuncId) (caps:List Operand) (t:Nat)
 |jq
structure Ub where
 val:AV
 h:iN
 nx:Nat
 wr:Nat
abbrev xM:=FuncId->Y AV->iN->Nat->aj Ub
mutual
def AV.ids:AV->Nat->Nat
 |.K id _,acc|.sl id _ _,acc|.I id _ _,acc|.mp id,acc=>acc|||(1<<<id)
 |.agg l,acc|.qd l,acc|.qy _ l,acc=>AV.idsL l acc
 |.f _,acc|.emp,acc|.qj,acc|.qn _ _,acc=>acc
def AV.idsL:Y AV->Nat->Nat
 |[],acc=>acc
 |x::r,acc=>AV.idsL r (AV.ids x acc)
end
mutual
def AV.all (p:Nat->Bool):AV->Bool
 |.K id _|.sl id _ _|.I id _ _|.mp id=>p id
 |.agg l|.qd l|.qy _ l=>AV.allL p l
 |.f _=>J
 |.emp=>J
 |.qj=>J
 |.qn _ _=>J
def AV.allL (p:Nat->Bool):Y AV->Bool
 |[]=>J
 |x::r=>AV.all p x&&AV.allL p r
end
def BC.ids:BC->Nat->Nat
 |.mx l,acc=>AV.idsL l acc
 |.mp q,acc=>AV.idsL (q.map (·.2)) acc
 |_,acc=>acc
def BC.all (p:Nat->Bool):BC->Bool
 |.mx l=>AV.allL p l
 |.mp q=>AV.allL p (q.map (·.2))
 |_=>J
def iN.all (p:Nat->Bool) (h:iN):Bool:=PT.all (λi b=>p i&&b.c.all p) 1 0 h
def Su:Nat->iN->Nat->Nat->Nat
 |0,_,_,QZ=>QZ
 |n+1,h,todo,QZ=>
  if aB todo 0 then QZ else
  match Nat.log2 todo with
  |id=>if aF QZ id then Su n h (todo ^^^ (1<<<id)) QZ else
   match h.get id with
   |some b=>Su n h (b.c.ids (todo ^^^ (1<<<id))) (QZ|||(1<<<id))
   |none=>Su n h (todo ^^^ (1<<<id)) QZ
section force
variable {α:Type}
def tX (n:Nat) (k:Nat->α):α:=match n with|0=>k 0|m+1=>k (m+1)
def ayu (n:Int) (k:Int->α):α:=match n with|.ofNat m=>tX m λm=>k (.ofNat m)|.negSucc m=>tX m λm=>k (.negSucc m)
def aD4 (b:Bool) (k:Bool->α):α:=match b with|true=>k J|false=>k af
def ayt (v:Value) (k:Value->α):α:=match v with
 |.int kd n=>ayu n λn=>k (.int kd n)
 |.bool b=>aD4 b λb=>k (.bool b)
 |v=>k v
def at4 (x:FV) (k:FV->α):α:=match x with
 |.raw v=>ayt v λv=>k (.raw v)
 |.K cells off=>tX off λoff=>k (.K cells off)
 |.sl cells n=>tX n λn=>k (.sl cells n)
 |.agg l=>k (.agg l)
def X_:Y FV->(Y FV->α)->α
 |[],k=>k []
 |x::r,k=>at4 x λx=>X_ r λr=>k (x::r)
def ao4 (x:FV) (k:FV->α):α:=match x with
 |.agg l=>X_ l λl=>k (.agg l)
 |x=>at4 x k
def agk (x:AV) (k:AV->α):α:=match x with
 |.f x=>ao4 x λx=>k (.f x)
 |.K id off=>tX id λid=>tX off λoff=>k (.K id off)
 |.sl id off n=>tX id λid=>tX off λoff=>tX n λn=>k (.sl id off n)
 |.I id sz n=>tX id λid=>tX sz λsz=>tX n λn=>k (.I id sz n)
 |.mp id=>tX id λid=>k (.mp id)
 |x=>k x
def OP:Y AV->(Y AV->α)->α
 |[],k=>k []
 |x::r,k=>agk x λx=>OP r λr=>k (x::r)
def ao5 (x:AV) (k:AV->α):α:=match x with
 |.agg l=>OP l λl=>k (.agg l)
 |.qd l=>OP l λl=>k (.qd l)
 |.qy f l=>OP l λl=>k (.qy f l)
 |x=>agk x k
def ayv (c:BC) (k:BC->α):α:=match c with
 |.fz l=>X_ l λl=>k (.fz l)
 |.mx l=>OP l λl=>k (.mx l)
 |.it s p=>tX p λp=>k (.it s p)
 |.mp q=>k (.mp q)
def Ru :PT R->(PT R->α)->α
 |.leaf,k=>k .leaf
 |.node v l r,k=>(match v with
  |none=>λ(k:aj R->α)=>k U
  |some x=>λk=>k (Z x)) λv=>Ru l λl=>Ru r λr=>k (.node v l r)
def Uv :Nat->PT R->Nat->aj R->(PT R->α)->α
 |0,t,_,_,k=>k t
 |f+1,t,n,x,k=>match t with
  |.leaf=>(match n with
   |0=>k (.node x .leaf .leaf)
   |m+1=>if aB (m%2) 0 then tX (m/2) λq=>Uv f .leaf q x λu=>k (.node U u .leaf) else tX (m/2) λq=>Uv f .leaf q x λu=>k (.node U .leaf u))
  |.node v l r=>(match n with
   |0=>k (.node x l r)
   |m+1=>if aB (m%2) 0 then tX (m/2) λq=>Uv f l q x λu=>k (.node v u r) else tX (m/2) λq=>Uv f r q x λu=>k (.node v l u))
def uP (n:Nat) (k:Nat->α):tX n k=k n:=by cases n<;>rfl
def at3 (n:Int) (k:Int->α):ayu n k=k n:=by cases n<;>simp only[ayu,uP]
def at6 (n:Bool) (k:Bool->α):aD4 n k=k n:=by cases n<;>rfl
def at2 (n:Value) (k:Value->α):ayt n k=k n:=by cases n<;>simp only[ayt,at3,at6]
def agj (x:FV) (k:FV->α):at4 x k=k x:=by cases x<;>simp only[at4,at2,uP]
def ON:∀(x:Y FV) (k:Y FV->α),X_ x k=k x
 |[],_=>rfl
 |x::r,k=>by rw[X_,agj,ON r]
def ao3 (x:FV) (k:FV->α):ao4 x k=k x:=by cases x<;>simp only[ao4,agj,ON]
def X' (x:AV) (k:AV->α):agk x k=k x:=by cases x<;>simp only[agk,uP,ao3]
def OO:∀(x:Y AV) (k:Y AV->α),OP x k=k x
 |[],_=>rfl
 |x::r,k=>by rw[OP,X',OO r]
def Vi (x:AV) (k:AV->α):ao5 x k=k x:=by cases x<;>simp only[ao5,X',OO]
def at5 (x:BC) (k:BC->α):ayv x k=k x:=by cases x<;>simp only[ayv,ON,OO,uP]
def yw :∀(x:PT R) (k:PT R->α),Ru x k=k x
 |.leaf,_=>rfl
 |.node v l r,k=>by cases v<;>simp[Ru,yw l,yw r]
def MO :∀(f:Nat) (t:PT R) (n:Nat) (x:aj R) (k:PT R->α),Uv f t n x k=k (PT.setF f t n x)
 |0,_,_,_,_=>rfl
 |f+1,t,n,x,k=>by
  cases t<;>cases n<;>simp[Uv,PT.setF,uP]<;>split<;>rw[MO f]
end force
structure IS where
 e:xY
 h:iN
 nx:Nat
 wr:Nat
structure ZD where
 val:AV
 rd:Nat
 wr:Nat
 h:iN
 nx:Nat
def bits:ι->Nat->Nat
 |[],acc=>acc
 |x::r,acc=>bits r (acc|||(1<<<x))
def alf (h:iN) (q:NW):ι->(iN->R)->R
 |[],k=>k h
 |i::r,k=>match jZ q i with
  |none=>Uv (i+1) h i U λh=>alf h q r k
  |some ⟨ty,c⟩=>ayv c λc=>Uv (i+1) h i (Z ⟨ty,c⟩) λh=>alf h q r k
def Ui (q:NW):∀(A:ι) (h:iN) (k:iN->R),alf h q A k=k (h.upd A q)
 |[],_,_=>rfl
 |i::r,h,k=>by
  unfold alf iN.upd PT.set;cases I:jZ q i with
  |none=>simp[MO,Ui q r]
  |some b=>let⟨ty,c⟩:=b;simp[at5,MO,Ui q r]
def aha (call:xM) (f:FuncId) (args:Y AV) (h:iN) (nx:Nat):aj ZD:=
 tX (Su 1000000 h (AV.idsL args 0) 0) λids=>Ru (PT.only ids 1 0 h) λA=>
 if AV.allL (dE · nx) args&&iN.all (dE · nx) A then
  match call f args A nx with
  |some ⟨val,h',nx',q⟩=>ao5 val λval=>tX nx' λnx'=>tX q λq=>Ru (PT.merge q 1 0 h h') λhm=>Z ⟨val,ids,q,hm,nx'⟩
  |none=>U
 else U
def opA (call:xM) (o:SI) (e:xY) (h:iN) (nx:Nat):aj ZD:=
 match o with
 |.call f args=>match evs e args with|some l=>aha call f l h nx|none=>U
 |.jd x args=>match mN e x,evs e args with|some (.qy f cap),Z l=>aha call f (l++cap) h nx|_,_=>U
 |.op o=>match eE o e h nx with
  |some ⟨val,rd,q,I,N⟩=>ao5 val λval=>tX (bits rd 0) λrd=>tX (bits q 0) λA=>tX (nx+l! N) λnx'=>alf h I q λh=>Z ⟨val,rd,A,h,nx'⟩
  |none=>U
def aem (e:xY):aj (Nat×Bool)->aj Bool
 |none=>Z J
 |some (t,want)=>match e.get t with
  |some (.f (.raw (.bool b)))=>Z (b==want)
  |some (.f (.raw (.tuple _)))=>Z af
  |_=>U
def ay8 (e:xY) (dst:aj Nat) (v:AV) (k:xY->R):R:=match dst with
 |none=>k e
 |some d=>Uv (d+1) e d (Z v) k
def af3 (e:xY) (dst:aj Nat) (v:AV) (k:xY->R):ay8 e dst v k=k (e.put dst v):=by
 cases dst with
 |none=>rfl
 |some d=>exact MO _ _ _ _ _
structure Wp where
 rd:Nat
 wr:Nat
def F0 (call:xM):Y pt->IS->aj (IS×Y Wp)
 |[],s=>Z (s,[])
 |o::r,⟨e,h,nx,A⟩=>
  match aem e o.guard with
  |some J=>(match opA call o.op e h nx with
   |some ⟨val,rd,w,h',nx'⟩=>ay8 e o.dst val λe'=>tX (A|||w) λwr'=>(match F0 call r ⟨e',h',nx',wr'⟩ with
    |some (s',q)=>Z (s',⟨rd,w⟩::q)
    |none=>U)
   |none=>U)
  |some af=>ay8 e o.dst (raw undef) λe'=>(match F0 call r ⟨e',h,nx,A⟩ with
   |some (s',q)=>Z (s',⟨0,0⟩::q)
   |none=>U)
  |none=>U
def aj6:Y Wp->Nat->aj Wp
 |[],_=>U
 |f::_,0=>Z f
 |_::r,n+1=>aj6 r n
def LG (a b:Nat):Bool:=aB (a&&&b) 0
abbrev n!:=Nat×Nat
def Hq (q:Y Wp):Y n!->Bool
 |[]=>J
 |(i,j)::r=>(match aj6 q i,aj6 q j with
  |some a,Z b=>LG a.wr b.rd&&LG a.wr b.wr&&LG b.wr a.rd
  |_,_=>af)&&Hq q r
inductive Ex where
 |normal
 |exit (id:Nat)
 |ret
def KK (body:IS->aj (Ex×IS)) (e0:xY):Nat->IS->aj (Ex×IS)
 |0,_=>U
 |n+1,s=>match body s with
  |some (.normal,⟨e,h,nx,q⟩)=>Ru (PT.mask e e0) λe=>KK body e0 n ⟨e,h,nx,q⟩
  |r=>r
def run (call:xM) (inert:FuncId->Bool) (ii:Nat):SC->IS->aj (Ex×IS)
 |.skip,s=>Z (.normal,s)
 |.jy ops prs,s=>match F0 call ops s with
  |some (s',q)=>if Hq q prs then Z (.normal,s') else U
  |none=>U
 |.seq a b,s=>match run call inert ii a s with
  |some (.normal,s')=>run call inert ii b s'
  |r=>r
 |.cond c a b,s=>match s.e.get c with
  |some (.f (.raw (.bool J)))=>run call inert ii a s
  |some (.f (.raw (.bool af)))=>run call inert ii b s
  |_=>U
 |.block id b,s=>match run call inert ii b s with
  |some (.exit i,s')=>if aB i id then Z (.normal,s') else Z (.exit i,s')
  |r=>r
 |.loop b,s=>KK (run call inert ii b) s.e ii s
 |.exit id,s=>Z (.exit id,s)
 |.ret,s=>Z (.ret,s)
 |.defer _ _ _,_=>U
 |.jq,_=>U
inductive RV where
 |tmp (t:Nat)
 |cell (a:Nat) (sz:Nat) (ag:Bool)
structure SF where
 code:SC
 res:List RV
 nt:Nat
def ai2 (e:xY) (h:iN):Y RV->aj (Y AV)
 |[]=>Z []
 |.tmp t::r=>match e.get t,ai2 e h r with|some v,Z l=>Z (v::l)|_,_=>U
 |.cell a sz q::r=>match e.get a with
  |some p=>(match Ax h sz q p,ai2 e h r with|some v,Z l=>Z (v.val::l)|_,_=>U)
  |none=>U
def Cu:Y AV->AV
 |[x]=>x
 |l=>.qd l
def ady:Nat->Y AV->xY
 |_,[]=>PT.leaf
 |k,x::xs=>(ady (k+1) xs).set k (Z x)
def afu (nx0:Nat) (ids0:Nat) (res:Y RV) (s:IS):aj Ub:=
 match ai2 s.e s.h res with
 |some l=>
  ao5 (Cu l) λv=>tX (Su 1000000 s.h (AV.ids v ids0) 0|||ids0) λids=>Ru (PT.only ids 1 0 s.h) λh'=>
  tX (((PT.dom 1 0 h' 0)>>>nx0)<<<nx0) λex=>
  if aB (ids0>>>nx0) 0&&AV.all (λi=>dE i nx0||aF ex i) v&&iN.all (λi=>dE i nx0||aF ex i) h' then Z ⟨v,h',(if aB ex 0 then nx0 else Nat.log2 ex+1),s.wr%(1<<<nx0)|||ex⟩ else U
 |none=>U
def am3 (tbl:FuncId->aj SF) (intr:xM) (inert:FuncId->Bool) (ii:Nat):Nat->xM
 |0,_,_,_,_=>U
 |n+1,f,args,h,nx=>match intr f args h nx with
  |some r=>Z r
  |none=>(match tbl f with
   |some q=>if di (l! args) q.nt then Ru (ady 0 args) λe=>(match run (am3 tbl intr inert ii n) inert ii q.code ⟨e,h,nx,0⟩ with
    |some (.ret,s)|some (.normal,s)=>afu nx (PT.dom 1 0 h 0) q.res s
    |_=>U) else U
   |none=>U)
def aze:Value->Value->Bool
 |.bool a,.bool b=>a==b
 |.int k a,.int A b=>k==A&&a==b
 |.string a,.string b=>uS a b
 |.slice U n c,.slice U q I=>aB n q&&aB c I
 |.pointer U,.pointer U=>J
 |.tuple a,.tuple b=>a.isEmpty&&b.isEmpty
 |_,_=>af
def gD (P:Program) (t:TypeId):aj Nat:=(P.info? t).map (·.size)
def Kn (P:Program) (t:TypeId):aj Nat:=(P.info? t).map (·.bytes)
def vY (P:Program) (t:TypeId):aj ξ:=((P.info? t).bind (·.zero)).map (·.cells.toList)
def IY (P:Program) (t:TypeId):aj Bool:=(P.underlying t).map λ|.struct _=>J|.array _ _=>J|_=>af
def Fr (P:Program) (t:TypeId):aj TypeId:=match P.underlying t with|some (.slice e)=>Z e|_=>U
def F4 (P:Program) (t:TypeId) (i:Nat):aj n!:=match P.underlying t with
 |some (.struct A)=>(A[i]?).bind λf=>(gD P f.type).map (f.offset,·)
 |some (.array _ q)|some (.slice q)=>(gD P q).map λs=>(i*s,s)
 |_=>U
abbrev H!:=Nat×Operand
def C3 (P:Program) (t:TypeId):Y H!->aj (Y j?)
 |[]=>Z []
 |(i,x)::r=>match F4 P t i,C3 P t r with|some (o,s),Z l=>Z ((o,s,x)::l)|_,_=>U
def oK (z:ξ):Bool:=z.all λv=>v.oneCell'
def NF:TypeDesc->Bool
 |.int _=>J
 |.bool=>J
 |.string=>J
 |_=>af
def ww (P:Program):Nat→Y Field→aj (Y TypeDesc)
 |_,[]=>Z []
 |k,f::r=>match P.underlying f.type,ww P (k+1) r with
  |some d,Z ds=>if f.name != "_" &&f.offset==k&&NF d then Z (d::ds) else U
  |_,_=>U
def amh (P:Program) (t:TypeId):aj (Y TypeDesc):=match P.underlying t with
 |some (.struct q)=>if P.stoodInHeld t then U else ww P 0 q.toList
 |_=>U
def Y_ (P:Program) (c:Call):aj T5:=
 match c.callee with
 |.builtin .len=>(match c.args.toList,c.argTypes.toList with
  |[x],[t]=>(match P.underlying t with
   |some (.slice _)=>Z (.len x)
   |some .string=>Z (.lens x)
   |_=>U)
  |_,_=>U)
 |.builtin .max=>(match c.args.toList with
  |[x,y]=>Z (.max x y)
  |_=>U)
 |.builtin .min=>(match c.args.toList with
  |[x,y]=>Z (.min x y)
  |_=>U)
 |.builtin .copy=>(match c.args.toList,c.argTypes.toList with
  |[d,x],[t,u]=>(match Fr P t,Fr P u with
   |some q,Z _=>(gD P q).bind λsz=>if sz !=0 then Z (.copy sz d x) else U
   |_,_=>U)
  |_,_=>U)
 |.builtin .clear=>(match c.args.toList,c.argTypes.toList with
  |[x],[t]=>(Fr P t).bind λq=>(vY P q).bind λz=>(gD P q).bind λsz=>if oK z&&l! z==sz&&sz !=0 then Z (.clr sz z x) else U
  |_,_=>U)
 |.builtin .append=>(match c.args.toList,c.argTypes.toList with
  |[s,x],[t,u]=>(match Fr P t,Fr P u with
   |some q,Z _=>(gD P q).bind λsz=>(Kn P q).bind λb=>(vY P q).bind λz=>if sz !=0&&l! z==sz then Z (.app q sz b s x) else U
   |_,_=>U)
  |_,_=>U)
 |_=>U
def cY (P:Program):Op->aj T5
 |.move x|.assign x=>Z (.mv x)
 |.pick c a b=>Z (.pick c a b)
 |.alloc t=>(vY P t).bind λz=>if oK z then Z (.alloc t z) else U
 |.box t x=>Z (.box t x)
 |.build t ps=>match P.underlying t with
  |some (.struct A)=>(vY P t).bind λz=>if oK z&&(A.toList.all λf=>(gD P f.type).isSome) then (C3 P t ps.toList).map (.build z) else U
  |some (.array _ q)=>(vY P t).bind λz=>if oK z&&(gD P q).isSome then (C3 P t ps.toList).map (.build z) else U
  |_=>U
 |.buildSlice t n ps=>(Fr P t).bind λq=>(vY P q).bind λz=>(gD P q).bind λsz=>if oK z&&l! z==sz&&di (n*sz) 65536&&sz !=0 then (C3 P t ps.toList).map (.xq q sz n z) else U
 |.load t x=>(gD P t).bind λsz=>(IY P t).map λI=>.load sz I x
 |.store t x v=>(gD P t).map λsz=>.store sz x v
 |.nilCheck x=>Z (.jz x)
 |.binOp op t x y _=>match P.underlying t with
  |some (.int _)|some .string=>Z (.bin op x y)
  |some .bool=>(match op with|.eql=>Z (.jr af x y)|.neq=>Z (.jr J x y)|_=>U)
  |some (.slice _)=>(match op,y with
   |.eql,.const (.slice U 0 0)=>Z (.zt af x)
   |.neq,.const (.slice U 0 0)=>Z (.zt J x)
   |_,_=>U)
  |some (.interface _)=>(match op,y with
   |.eql,.const .nilIface=>Z (.jp af x)
   |.neq,.const .nilIface=>Z (.jp J x)
   |_,_=>U)
  |some (.struct _)=>(amh P t).bind λds=>(match op with|.eql=>Z (.jm af ds x y)|.neq=>Z (.jm J ds x y)|_=>U)
  |_=>U
 |.unOp .not _ x=>Z (.not x)
 |.unOp .neg t x=>match P.underlying t with|some (.int k)=>Z (.bin .sub (.const (.int k 0)) x)|_=>U
 |.convert s d x=>match P.underlying s,P.underlying d with
  |some (.int _),Z (.int k)=>Z (.conv k x)
  |some .string,Z (.slice q)=>(match P.underlying q with|some (.int .u8)=>Z (.byt x)|_=>U)
  |some (.slice q),Z .string=>(match P.underlying q with|some (.int .u8)=>Z (.tos x)|_=>U)
  |_,_=>U
 |.makeSlice t l c=>(Fr P t).bind λq=>(vY P q).bind λz=>(gD P q).bind λsz=>(Kn P q).bind λb=>if oK z&&l! z==sz&&sz !=0 then Z (.zd q sz b z l c) else U
 |.slice t x lo hi mx=>match P.underlying t with
  |some (.array n q)=>(match lo,hi,mx with
   |some b,U,U=>(gD P q).bind λsz=>if di n 65536 then Z (.sla n sz x b) else U
   |_,_,_=>U)
  |some .string=>(match mx with|none=>Z (.sls x lo hi)|some _=>U)
  |_=>(Fr P t).bind λq=>(gD P q).map λsz=>.slc sz x lo hi mx
 |.fieldAddr t x k=>match P.underlying t with
  |some (.struct A)=>(A[k]?).bind λf=>(gD P f.type).bind λsz=>if sz !=0 then Z (.jb f.offset x) else U
  |_=>U
 |.field t x k=>match P.underlying t with
  |some (.struct A)=>(A[k]?).bind λf=>(gD P f.type).bind λsz=>(IY P f.type).map λI=>.fld f.offset sz I x
  |_=>U
 |.indexAddr t x i=>match P.underlying t with
  |some (.slice q)=>(gD P q).map λsz=>.jf sz x i
  |some (.array n q)=>(gD P q).map λsz=>.jk n sz x i
  |_=>U
 |.index t x i=>match P.underlying t with
  |some (.array n q)=>(gD P q).bind λsz=>(IY P q).map λI=>.idx n sz I x i
  |some .string=>Z (.jv x i)
  |_=>U
 |.extract x i=>Z (.ext x i)
 |.makeFunc (.func f) first caps=>if first.isEmpty then Z (.mkf f caps.toList) else U
 |.makeMap t U=>match P.underlying t with|some (.map _ _)=>Z .mkm|_=>U
 |.lookup t x k ok=>match P.underlying t with
  |some (.map kt q)=>(match P.underlying kt,(P.info? q).bind (·.zero) with
   |some (.int _),Z z=>if z.oneCell' then Z (.lku af ok z x k) else U
   |some .string,Z z=>if z.oneCell' then Z (.lku J ok z x k) else U
   |_,_=>U)
  |_=>U
 |.mapUpdate t m k v=>match P.underlying t with
  |some (.map kt _)=>(match P.underlying kt with
   |some (.int _)=>Z (.mup af m k v)
   |some .string=>Z (.mup J m k v)
   |_=>U)
  |_=>U
 |.range t x=>match P.underlying t with|some .string=>Z (.rng x)|_=>U
 |.next x J=>Z (.nxt x)
 |.call c=>Y_ P c
 |_=>U
def DY:Op->aj SI
 |.call c=>(match c.callee with
  |.value (.func f)=>Z (.call f c.args.toList)
  |.value (.tmp t)=>Z (.jd (.tmp t) c.args.toList)
  |_=>U)
 |_=>U
def qU (P:Program) (op:Op):SI:=match DY op with
 |some i=>i
 |none=>(match cY P op with|some s=>.op s|none=>.op .jq)
def T5.still:T5->Bool
 |.mv _|.pick _ _ _|.build _ _|.jz _|.bin _ _ _|.jm _ _ _ _|.zt _ _|.jr _ _ _|.not _|.conv _ _|.jb _ _|.fld _ _ _ _|.jf _ _ _|.jk _ _ _ _|.idx _ _ _ _ _|.ext _ _|.max _ _|.min _ _|.jv _ _|.mkf _ _|.sla _ _ _ _|.sls _ _ _|.jp _ _|.jq=>J
 |_=>af
def SI.still:SI->Bool
 |.op s=>s.still
 |_=>af
def rz (P:Program) (ops:Array Oper):Y Oper->aj (Y pt)
 |[]=>Z []
 |o::r=>match rz P ops r with
  |some l=>(match o.guard with
   |none=>Z (⟨o.dst,qU P o.op,U⟩::l)
   |some (j,want)=>(match (ops[j]?).bind (·.dst) with
    |some t=>Z (⟨o.dst,qU P o.op,Z (t,want)⟩::l)
    |none=>U))
  |none=>U
def NC (ops:Array Oper) (l:Y pt):aj (Y n!):=
 let B:=Qf ops.toList []
 if (dV ops.size).all λj=>((ops[j]?).all λq=>q.after.toList.all λe=> !Ea .any e||decide (e.on<j))&&
     (dV j).all λi=>aF (B.getD j 0) i||(match ops[i]?,ops[j]? with|some A,Z q=>A.apart ops q|_,_=>af)
 then Z ((dV ops.size).flatMap λj=>(dV j).filterMap λi=>
  if aF (B.getD j 0) i||(match l[i]?,l[j]? with|some a,Z b=>a.op.still||b.op.still|_,_=>af) then U else Z (i,j))
 else U
def IC (ops:Array Oper) (I:Bool):aj (FuncId×Y Operand×Nat):=match ops.toList,I with
 |[p,q],af=>(match p.op,p.guard,p.dst,q.op,q.guard,q.dst with
  |.makeFunc (.func f) first caps,U,Z t,.defer c,U,U=>(match c.callee,c.args.toList with
   |.value (.tmp A),[]=>if aB t A&&first.isEmpty then Z (f,caps.toList,t) else U
   |_,_=>U)
  |_,_,_,_,_,_=>U)
 |_,_=>U
def bq (P:Program) (nt:Nat):Code->SC
 |.skip=>.skip
 |.region _ ops q=>if ops.toList.all λo=>match o.dst with|some d=>decide (d<nt)|none=>J then
   (match IC ops q with
   |some (f,caps,t)=>.defer f caps t
   |none=>(match rz P ops ops.toList with
    |some l=>(match NC ops l with|some prs=>.jy l prs|none=>.jq)
    |none=>.jq)) else .jq
 |.seq a b=>.seq (bq P nt a) (bq P nt b)
 |.cond (.tmp c) a b=>.cond c (bq P nt a) (bq P nt b)
 |.cond (.const (.bool J)) a _=>bq P nt a
 |.cond (.const (.bool af)) _ b=>bq P nt b
 |.block id b=>.block id (bq P nt b)
 |.loop b=>.loop (bq P nt b)
 |.exit id=>.exit id
 |.ret=>.ret
 |_=>.jq
def rx (P:Program):Y ResultVar->aj (Y RV)
 |[]=>Z []
 |.tmp t::r=>match rx P r with|some l=>Z (.tmp t::l)|none=>U
 |.cell a t::r=>match rx P r,gD P t,IY P t with|some l,Z sz,Z q=>Z (.cell a sz q::l)|_,_,_=>U
def Cn (P:Program) (f:FuncId):aj SF:=
 match P.funcs[f]? with
 |some fn=>if fn.name== "runtime.NumGoroutine" then U else (match fn.body,rx P fn.results.toList with
  |some c,Z r=>Z ⟨bq P fn.ntmps c,r,fn.ntmps⟩
  |_,_=>U)
 |none=>U
inductive Xp where
 |mk (op n:Int) (name:ζ) (l:List Xp)
inductive Sx where
 |mk (op line:Int) (name arg:ζ) (index:List Xp) (expr:Xp) (body els:List Sx)
def Xp.op:Xp->Int|.mk a _ _ _=>a
def Xp.n:Xp->Int|.mk _ a _ _=>a
def Xp.name:Xp->ζ|.mk _ _ a _=>a
def Xp.l:Xp->Y Xp|.mk _ _ _ a=>a
def Sx.op:Sx->Int|.mk a _ _ _ _ _ _ _=>a
def Sx.line:Sx->Int|.mk _ a _ _ _ _ _ _=>a
def Sx.name:Sx->ζ|.mk _ _ a _ _ _ _ _=>a
def Sx.arg:Sx->ζ|.mk _ _ _ a _ _ _ _=>a
def Sx.index:Sx->Y Xp|.mk _ _ _ _ a _ _ _=>a
def Sx.expr:Sx->Xp|.mk _ _ _ _ _ a _ _=>a
def Sx.body:Sx->Y Sx|.mk _ _ _ _ _ _ a _=>a
def Sx.els:Sx->Y Sx|.mk _ _ _ _ _ _ _ a=>a
inductive Ty where
 |int (k:IntKind)
 |bool
 |str
 |sl (t:Ty)
 |st (t:Ty)
 |pr (a b:Ty)
 |un
 |ex
 |sm
 deriving DecidableEq
@[reducible] def Ty.den:Ty->Type
  |.int _=>Int
  |.bool=>Bool
  |.str=>ζ
  |.sl t=>Y t.den
  |.st t=>t.den
  |.pr a b=>a.den×b.den
  |.un=>Unit
  |.ex=>Xp
  |.sm=>Sx
def Ty.size:Ty->Nat
 |.st t=>t.size
 |.pr a b=>a.size+b.size
 |.un=>0
 |.ex=>4
 |.sm=>11
 |_=>1
def Ty.zero:(t:Ty)->t.den
 |.int _=>(0:Int)
 |.bool=>af
 |.str=>[]
 |.sl _=>[]
 |.st t=>t.zero
 |.pr a b=>(a.zero,b.zero)
 |.un=>()
 |.ex=>.mk 0 0 [] []
 |.sm=>.mk 0 0 [] [] [] (.mk 0 0 [] []) [] []
def Ty.one:Ty->Bool
 |.int _=>J
 |.bool=>J
 |.str=>J
 |.sl _=>J
 |_=>af
def Td:Ty:=.pr (.int .i64) (.pr (.int .i64) (.pr .str (.sl .ex)))
def So:Ty:=.pr (.int .i64) (.pr (.int .i64) (.pr .str (.pr .str (.pr (.sl .ex) (.pr .ex (.pr (.sl .sm) (.sl .sm)))))))
def Uk (e:Xp):Td.den:=(e.op,e.n,e.name,e.l)
def fm (x:Td.den):Xp:=.mk x.1 x.2.1 x.2.2.1 x.2.2.2
def Uj (e:Sx):So.den:=(e.op,e.line,e.name,e.arg,e.index,e.expr,e.body,e.els)
def pL (x:So.den):Sx:=.mk x.1 x.2.1 x.2.2.1 x.2.2.2.1 x.2.2.2.2.1 x.2.2.2.2.2.1 x.2.2.2.2.2.2.1 x.2.2.2.2.2.2.2
mutual
def Ah:Xp->Y FV
 |.mk op n name l=>[.raw (.int .i64 op),.raw (.int .i64 n),.raw (.string ⟨name.toArray⟩),.sl (O3 l) (l! l)]
def O3:Y Xp->Y FV
 |[]=>[]
 |x::r=>Ah x++O3 r
end
mutual
def Ca:Sx->Y FV
 |.mk op line name arg index expr body els=>[.raw (.int .i64 op),.raw (.int .i64 line),.raw (.string ⟨name.toArray⟩),.raw (.string ⟨arg.toArray⟩),.sl (O3 index) (l! index)]++Ah expr++[.sl (O2 body) (l! body),.sl (O2 els) (l! els)]
def O2:Y Sx->Y FV
 |[]=>[]
 |x::r=>Ca x++O2 r
end
def bQ:(T:Ty)->T.den->Y FV
 |.int k,n=>[.raw (.int k n)]
 |.bool,b=>[.raw (.bool b)]
 |.str,s=>[.raw (.string ⟨s.toArray⟩)]
 |.sl t,xs=>[.sl (List.flatMap (bQ t) xs) (ah xs)]
 |.st t,v=>bQ t v
 |.pr a b,v=>bQ a v.1++bQ b v.2
 |.un,_=>[]
 |.ex,v=>Ah v
 |.sm,v=>Ca v
def iu:(T:Ty)->T.den->FV
 |.int k,n=>.raw (.int k n)
 |.bool,b=>.raw (.bool b)
 |.str,s=>.raw (.string ⟨s.toArray⟩)
 |.sl t,xs=>.sl (List.flatMap (bQ t) xs) (ah xs)
 |.st t,v=>.agg (bQ t v)
 |.pr a b,v=>.agg (bQ a v.1++bQ b v.2)
 |.un,_=>.agg []
 |.ex,v=>.agg (Ah v)
 |.sm,v=>.agg (Ca v)
def QV:(T:Ty)->T.den->T.den->Bool
 |.int _,a,b=>decide ((a:Int)=b)
 |.bool,a,b=>(a:Bool)==b
 |.str,a,b=>decide ((a:ζ)=b)
 |.st t,a,b=>QV t a b
 |.pr x y,a,b=>QV x a.1 b.1&&QV y a.2 b.2
 |_,_,_=>J
variable {S:Ty}
def wu (T:Ty) (v:S.den):aj T.den:=if h:S=T then Z (h▸v) else U
def fO (j:Int) (n:Nat):Bool:=cN 0 j&&hY j n
def aE (T:Ty) (xs:Y T.den) (j:Int):T.den:=xs.getD j.toNat T.zero
def bW (xs:Y R) (j:Int) (x:R):Y R:=xs.set j.toNat x
def ZZ (xs q:Y R):Y R:=q.take (l! xs)++xs.drop (l! q)
def mJ (a b:Int):Int:=if hY a b then b else a
def ab0 (a b:Int):Int:=if hY b a then b else a
def tW (s:ζ) (j:Int):Int:=aZ (s.getD j.toNat 0).toNat
def aK (b:Bool) (t f:aj R):aj R:=match b with|true=>t|false=>f
def chk (b:Bool) (k:b=J->aj R):aj R:=match b,k with|true,k=>k rfl|false,_=>U
open Classical in
def IR (a b:aj R):aj R:=if a=b then a else U
open Classical in
def same {α:Type} (a b:α) (r:aj R):aj R:=if a=b then r else U
def aw {α:Type} (o:aj α) (k:α->aj R):aj R:=match o with|some x=>k x|none=>U
def lt {α:Type} (x:α) (k:α->aj R):aj R:=k x
def jn {α:Type} (o:aj (R⊕α)) (k:α->aj R):aj R:=match o with|some (.inr x)=>k x|some (.inl r)=>Z r|none=>U
def iterN {σ:Type} (step:σ->aj (σ⊕R)):Nat->σ->aj R
 |0,_=>U
 |n+1,x=>match step x with
  |some (.inl y)=>iterN step n y
  |some (.inr r)=>Z r
  |none=>U
open Classical in
def iter {σ R:Type} (step:σ->aj (σ⊕R)) (x:σ):aj R:=
 if h:∃n,(iterN step n x).isSome=J then iterN step (Classical.choose h) x else U
def jG {σ R:Type} (step:σ->aj (σ⊕R)) (x:σ):aj R:=iterN step 18446744073709551616 x
abbrev GM:Type 1:=∀σ R:Type,(σ->aj (σ⊕R))->σ->aj R
def nU (a b:aj R):Prop:=∀y,a=Z y->b=Z y
def nU.rfl {a:aj R}:nU a a:=λ_ h=>h
def nU.bcase {t f q A:aj R} (h1:nU t q) (h2:nU f A):nU (AI.aK b t f) (AI.aK b q A):=by cases b<;>assumption
def nU.chk {k q:aj R} (h:nU k q):nU (AI.chk b λ_=>k) (AI.chk b λ_=>q):=by
 cases b with
 |true=>exact h
 |false=>exact λ_ h=>by cases h
def nU.obind {α:Type} {o q:aj α} {k A:α->aj R} (h:nU o q) (hk:∀x,nU (k x) (A x)):nU (AI.aw o k) (AI.aw q A):=by
 intro y I;cases o with
 |none=>cases I
 |some x=>rw[h x (by rfl)];exact hk x y I
def nU.lt {α:Type} {x:α} {k q:α->aj R} (h:∀y,nU (k y) (q y)):nU (AI.lt x k) (AI.lt x q):=h x
def nU.jn {α:Type} {o A:aj (R⊕α)} {k I:α->aj R} (h:nU o A) (hk:∀x,nU (k x) (I x)):nU (AI.jn o k) (AI.jn A I):=by
 intro y q;cases o with
 |none=>cases q
 |some x=>
  rw[h x (by rfl)];cases x with
  |inl r=>exact q
  |inr a=>exact hk a y q
def nU.iterN {σ:Type} {f g:σ->aj (σ⊕R)} (h:∀x,nU (f x) (g x)):∀(n:Nat) (x:σ),nU (AI.iterN f n x) (AI.iterN g n x)
 |0,_=>λ_ h=>by cases h
 |n+1,x=>by
  intro y q;cases hf:f x with
  |none=>rw[AI.iterN,hf]at q;cases q
  |some s=>
   rw[AI.iterN,hf]at q;rw[AI.iterN,h x s hf];cases s with
   |inl z=>exact nU.iterN h n z y q
   |inr r=>exact q
def N' {σ:Type} {f:σ->aj (σ⊕R)}:∀{n:Nat} {x:σ} {r:R},iterN f n x=Z r->iterN f (n+1) x=Z r
 |0,x,r,h=>by cases h
 |n+1,x,r,h=>by
  cases hf:f x with
  |none=>rw[iterN,hf]at h;cases h
  |some s=>
   cases s with
   |inl y=>rw[iterN,hf]at h;rw[iterN,hf];exact N' h
   |inr q=>rw[iterN,hf]at h;rw[iterN,hf];exact h
def Di {σ:Type} {f:σ->aj (σ⊕R)} {n:Nat} {x:σ} {r:R} (h:iterN f n x=Z r) (hle:n<=m):iterN f m x=Z r:=by
 induction hle with
 |refl=>exact h
 |step _ q=>exact N' q
def Dg {σ:Type} {f:σ->aj (σ⊕R)} {n:Nat} {x:σ} {r:R} (h:iterN f n x=Z r):iter f x=Z r:=by
 have A:∃n,(iterN f n x).isSome=J:=⟨n,by rw[h];exact Eq.refl _⟩
 unfold iter;rw[dif_pos A];have hc:=Classical.choose_spec A;let⟨r',q⟩:=kq.1 hc;rw[q];rcases Nat.le_total n (Classical.choose A) with I|I;rw[Di h I]at q;exact q.symm;rw[Di q I]at h;exact h
def nU.iter {σ:Type} {f g:σ->aj (σ⊕R)} {x:σ} (h:∀x,nU (f x) (g x)):nU (jG f x) (AI.iter g x):=λy q=>Dg (nU.iterN h _ x y q)
def orE (a b:aj R):aj R:=match a with|some y=>Z y|none=>b
def ii:Nat:=Classical.choose (⟨100000,rfl⟩:∃n:Nat,n=100000)
def lH:ii=100000:=Classical.choose_spec (⟨100000,rfl⟩:∃n:Nat,n=100000)
def L2 (a:Ty):Ty->Ty
 |.un=>a
 |.int k=>.pr a (.int k)
 |.bool=>.pr a .bool
 |.str=>.pr a .str
 |.sl t=>.pr a (.sl t)
 |.st t=>.pr a (.st t)
 |.pr x y=>.pr a (.pr x y)
 |.ex=>.pr a .ex
 |.sm=>.pr a .sm
def spr:Ty->Ty->Ty
 |.un,b=>b
 |.int k,b=>L2 (.int k) b
 |.bool,b=>L2 .bool b
 |.str,b=>L2 .str b
 |.sl t,b=>L2 (.sl t) b
 |.st t,b=>L2 (.st t) b
 |.pr x y,b=>L2 (.pr x y) b
 |.ex,b=>L2 .ex b
 |.sm,b=>L2 .sm b
def Xk (a:Ty):(b:Ty)->a.den->b.den->(L2 a b).den
 |.un,x,_=>x
 |.int _,x,y|.bool,x,y|.str,x,y|.sl _,x,y|.st _,x,y|.pr _ _,x,y|.ex,x,y|.sm,x,y=>(x,y)
def fsN (a:Ty):(b:Ty)->(L2 a b).den->a.den
 |.un,z=>z
 |.int _,z|.bool,z|.str,z|.sl _,z|.st _,z|.pr _ _,z|.ex,z|.sm,z=>z.1
def snN (a:Ty):(b:Ty)->(L2 a b).den->b.den
 |.un,_=>()
 |.int _,z|.bool,z|.str,z|.sl _,z|.st _,z|.pr _ _,z|.ex,z|.sm,z=>z.2
def mkp:(a b:Ty)->a.den->b.den->(spr a b).den
 |.un,_,_,y=>y
 |.int k,b,x,y=>Xk (.int k) b x y
 |.bool,b,x,y=>Xk .bool b x y
 |.str,b,x,y=>Xk .str b x y
 |.sl t,b,x,y=>Xk (.sl t) b x y
 |.st t,b,x,y=>Xk (.st t) b x y
 |.pr u v,b,x,y=>Xk (.pr u v) b x y
 |.ex,b,x,y=>Xk .ex b x y
 |.sm,b,x,y=>Xk .sm b x y
def Vh:(a b:Ty)->(spr a b).den->a.den
 |.un,_,_=>()
 |.int k,b,z=>fsN (.int k) b z
 |.bool,b,z=>fsN .bool b z
 |.str,b,z=>fsN .str b z
 |.sl t,b,z=>fsN (.sl t) b z
 |.st t,b,z=>fsN (.st t) b z
 |.pr u v,b,z=>fsN (.pr u v) b z
 |.ex,b,z=>fsN .ex b z
 |.sm,b,z=>fsN .sm b z
def Us:(a b:Ty)->(spr a b).den->b.den
 |.un,_,z=>z
 |.int k,b,z=>snN (.int k) b z
 |.bool,b,z=>snN .bool b z
 |.str,b,z=>snN .str b z
 |.sl t,b,z=>snN (.sl t) b z
 |.st t,b,z=>snN (.st t) b z
 |.pr u v,b,z=>snN (.pr u v) b z
 |.ex,b,z=>snN .ex b z
 |.sm,b,z=>snN .sm b z
def wF (a b:Ty) (x:a.den) (y:b.den):Vh a b (mkp a b x y)=x:=by cases a<;>cases b<;>rfl
def yf (a b:Ty) (x:a.den) (y:b.den):Us a b (mkp a b x y)=y:=by cases a<;>cases b<;>rfl
inductive Sb where
 |nr (id:Nat) (j:Int) (sz n:Nat)
 |np (id:Nat) (j:Int) (sz:Nat) (i:Int) (off:Nat)
 |nl (q:Bool)
def Sb.id:Sb->Nat
 |.nr i _ _ _=>i
 |.np i _ _ _ _=>i
 |.nl _=>0
def Sb.to (i:Nat):Sb->Sb
 |.nr _ j s n=>.nr i j s n
 |.np _ j s k o=>.np i j s k o
 |.nl q=>.nl q
inductive xL where
 |rr (ty:TypeId) (sz:Nat)
 |ir (ty:TypeId) (T:Ty)
 deriving DecidableEq
def xL.ty:xL->Ty
 |.rr _ _=>.sl (.int .i64)
 |.ir _ T=>.sl (.sl T)
def xL.aid (n:Nat):xL->Nat
 |.ir _ _=>0
 |_=>n
def DA:(F:xL)->F.ty.den->aj (Bool×n!)
 |.rr _ _,q=>Z (af,1,ah q)
 |_,_=>U
inductive TV where
 |f (T:Ty) (v:T.den)
 |zm (T:Ty) (xs:List T.den) (j:Int) (h:fO j (l! xs)=J) (off:Nat)
 |ql (id sz:Nat) (j:Int) (off:Nat)
 |K (id off:Nat)
 |I (id:Nat)
 |qp (id sz n:Nat)
 |emp
 |nil
 |mp (id:Nat)
 |agg (l:List TV)
 |qd (l:List TV)
 |qy (g:FuncId) (l:List TV)
 |undef
 |np
 |qj
 |zh (id:Nat) (j:Int)
 |qn (T:Ty) (xs:List T.den)
 |sb (s:Sb)
instance cty (n:Nat):OfNat (aj TypeId) n:=⟨Z n⟩
inductive gi where
 |H (ty:TypeId) (p:Bool) (T:Ty) (xs:List T.den)
 |G (ty:Option TypeId) (l:List TV)
 |qw (p:Bool) (sz n:Nat)
 |mp (K V:Ty) (es:List (K.den×V.den))
 |qf (F:xL) (a:Nat) (x:F.ty.den)
 |zj (F:xL) (a:Nat) (x:F.ty.den) (k:ν) (p:Option (Nat×Bool×Nat))
abbrev iW:=PT TV
abbrev ba:=PT gi
def cst:Value->aj TV
 |.int k n=>Z (.f (.int k) n)
 |.bool b=>Z (.f .bool b)
 |.string s=>Z (.f .str s.data.toList)
 |.slice U 0 0=>Z .nil
 |.pointer U=>Z .np
 |.map U=>Z (.sb (.nl J))
 |.nilFunc=>Z (.sb (.nl af))
 |_=>U
def Ry:ξ->aj (Y TV)
 |[]=>Z []
 |v::r=>match cst v,Ry r with|some x,Z l=>Z (x::l)|_,_=>U
def az5:Value->aj TV
 |.agg vs=>if Qa vs.toList then (match Ry vs.toList with|some l=>Z (.agg l)|none=>U) else U
 |v=>cst v
def cellsOf:Nat->(T:Ty)->T.den->aj (Y TV)
 |0,_,_=>U
 |n+1,.st t,v=>cellsOf n t v
 |n+1,.pr a b,v=>match cellsOf n a v.1,cellsOf n b v.2 with|some x,Z y=>Z (x++y)|_,_=>U
 |_+1,.un,_=>Z []
 |n+1,.ex,v=>cellsOf n Td (Uk v)
 |n+1,.sm,v=>cellsOf n So (Uj v)
 |_+1,.int k,v=>Z [.f (.int k) v]
 |_+1,.bool,v=>Z [.f .bool v]
 |_+1,.str,v=>Z [.f .str v]
 |_+1,.sl t,v=>Z [.f (.sl t) v]
def TV.isC:TV->Bool
 |.f T _=>T.one
 |.zm _ _ _ _ _=>J
 |.ql _ _ _ _=>J
 |.K _ _=>J
 |.I _=>J
 |.qp _ _ _=>J
 |.emp=>J
 |.nil=>J
 |.np=>J
 |.mp _=>J
 |.qy _ _=>J
 |.sb _=>J
 |_=>af
def mi:Y TV->Bool
 |[]=>J
 |x::r=>x.isC&&mi r
def TV.cs (v:TV):aj (Y TV):=match v with
 |.agg l=>if mi l then Z l else U
 |.f T x=>cellsOf 40 T x
 |x=>if x.isC then Z [x] else U
def kZ (i:Nat):Nat:=1<<<i
def jD (h:ba) (T:Ty):TV->aj (T.den×Nat)
 |.f _ v=>match wu T v with|some x=>Z (x,0)|none=>U
 |.emp|.nil=>(match T with|.sl _=>Z ([],0)|_=>U)
 |.I id=>match h.get id with
  |some (.H _ _ S xs)=>(match wu (S:=.sl S) T xs with|some x=>Z (x,kZ id)|none=>U)
  |_=>U
 |_=>U
def gG (h:ba):Nat->(T:Ty)->Y TV->aj (T.den×Nat×Y TV)
 |0,_,_=>U
 |n+1,.st t,l=>gG h n t l
 |n+1,.pr a b,l=>match gG h n a l with
  |some (x,m,r)=>(match gG h n b r with|some (y,m',q)=>Z ((x,y),m|||m',q)|none=>U)
  |none=>U
 |_+1,.un,l=>Z ((),0,l)
 |n+1,.ex,l=>match gG h n Td l with|some (x,m,r)=>Z (fm x,m,r)|none=>U
 |n+1,.sm,l=>match gG h n So l with|some (x,m,r)=>Z (pL x,m,r)|none=>U
 |_+1,.int k,l=>match l with|c::r=>(match jD h (.int k) c with|some (x,m)=>Z (x,m,r)|none=>U)|[]=>U
 |_+1,.bool,l=>match l with|c::r=>(match jD h .bool c with|some (x,m)=>Z (x,m,r)|none=>U)|[]=>U
 |_+1,.str,l=>match l with|c::r=>(match jD h .str c with|some (x,m)=>Z (x,m,r)|none=>U)|[]=>U
 |_+1,.sl t,l=>match l with|c::r=>(match jD h (.sl t) c with|some (x,m)=>Z (x,m,r)|none=>U)|[]=>U
def GA (h:ba) (T:Ty) (v:TV):aj (T.den×Nat):=match v with
 |.agg l=>if T.one then U else (match gG h 40 T l with|some (x,m,[])=>Z (x,m)|_=>U)
 |x=>jD h T x
def su:Nat->(T:Ty)->T.den->Nat->Nat->Bool->aj TV
 |0,_,_,_,_,_=>U
 |n+1,.st t,v,off,sz,q=>if aB off 0&&aB sz t.size&&q then Z (.f (.st t) v) else su n t v off sz q
 |n+1,.pr a b,v,off,sz,q=>if dE off a.size then su n a v.1 off sz q else su n b v.2 (off-a.size) sz q
 |_+1,.un,_,_,_,_=>U
 |n+1,.ex,v,off,sz,q=>if aB off 0&&aB sz 4&&q then Z (.f .ex v) else su n Td (Uk v) off sz q
 |n+1,.sm,v,off,sz,q=>if aB off 0&&aB sz 11&&q then Z (.f .sm v) else su n So (Uj v) off sz q
 |_+1,.int k,v,off,sz,q=>if aB off 0&&aB sz 1&& !q then Z (.f (.int k) v) else U
 |_+1,.bool,v,off,sz,q=>if aB off 0&&aB sz 1&& !q then Z (.f .bool v) else U
 |_+1,.str,v,off,sz,q=>if aB off 0&&aB sz 1&& !q then Z (.f .str v) else U
 |_+1,.sl t,v,off,sz,q=>if aB off 0&&aB sz 1&& !q then Z (.f (.sl t) v) else U
def iR (h:ba) (x:TV):Nat->(T:Ty)->T.den->Nat->Nat->aj (T.den×Nat)
 |0,_,_,_,_=>U
 |n+1,.st t,v,off,sz=>match (if aB off 0&&aB sz t.size then GA h (.st t) x else U) with
  |some y=>Z y
  |none=>iR h x n t v off sz
 |n+1,.pr a b,v,off,sz=>if dE off a.size then (match iR h x n a v.1 off sz with|some (y,m)=>Z ((y,v.2),m)|none=>U) else (match iR h x n b v.2 (off-a.size) sz with|some (y,m)=>Z ((v.1,y),m)|none=>U)
 |_+1,.un,_,_,_=>U
 |n+1,.ex,v,off,sz=>match (if aB off 0&&aB sz 4 then GA h .ex x else U) with
  |some y=>Z y
  |none=>(match iR h x n Td (Uk v) off sz with|some (y,m)=>Z (fm y,m)|none=>U)
 |n+1,.sm,v,off,sz=>match (if aB off 0&&aB sz 11 then GA h .sm x else U) with
  |some y=>Z y
  |none=>(match iR h x n So (Uj v) off sz with|some (y,m)=>Z (pL y,m)|none=>U)
 |_+1,.int k,_,off,sz=>if aB off 0&&aB sz 1 then jD h (.int k) x else U
 |_+1,.bool,_,off,sz=>if aB off 0&&aB sz 1 then jD h .bool x else U
 |_+1,.str,_,off,sz=>if aB off 0&&aB sz 1 then jD h .str x else U
 |_+1,.sl t,_,off,sz=>if aB off 0&&aB sz 1 then jD h (.sl t) x else U
def Fk (h:ba) (T:Ty):Nat->Y TV->aj (Y T.den×Nat)
 |0,[]=>Z ([],0)
 |0,_::_=>U
 |n+1,l=>match gG h 40 T l with
  |some (x,m,r)=>(match Fk h T n r with|some (xs,m')=>Z (x::xs,m|||m')|none=>U)
  |none=>U
def vX:Ty->ξ
 |.int k=>[.int k 0]
 |.bool=>[.bool af]
 |.str=>[.string ⟨#[]⟩]
 |.sl _=>[.slice U 0 0]
 |.st t=>vX t
 |.pr a b=>vX a++vX b
 |.un=>[]
 |.ex=>[.int .i64 0,.int .i64 0,.string ⟨#[]⟩,.slice U 0 0]
 |.sm=>[.int .i64 0,.int .i64 0,.string ⟨#[]⟩,.string ⟨#[]⟩,.slice U 0 0,.int .i64 0,.int .i64 0,.string ⟨#[]⟩,.slice U 0 0,.slice U 0 0,.slice U 0 0]
def TW:ξ->ξ->Bool
 |[],[]=>J
 |x::xs,y::q=>aze x y&&TW xs q
 |_,_=>af
def Ty.flat:Ty->Bool
 |.int _=>J
 |.bool=>J
 |.str=>J
 |.st t=>t.flat
 |.pr a b=>a.flat&&b.flat
 |.un=>J
 |_=>af
def v_:Y TypeDesc->aj Ty
 |[]=>Z .un
 |.int k::r=>match v_ r with|some t=>Z (.pr (.int k) t)|none=>U
 |.bool::r=>match v_ r with|some t=>Z (.pr .bool t)|none=>U
 |.string::r=>match v_ r with|some t=>Z (.pr .str t)|none=>U
 |_=>U
inductive PV where
 |d (T:Ty)
 |K (id off:Nat)
 |I (id:Nat)
 |qp (id sz n:Nat)
 |mp (id:Nat)
 |nil
 |emp
 |qy (q:FuncId) (l:List (Nat×Nat))
 |nr (id sz:Nat)
 |agg (l:List PV)
inductive PB where
 |H (ty:TypeId) (p:Bool) (T:Ty)
 |qg (ty:TypeId) (T:Ty)
 |G (ty:Option TypeId) (l:List PV)
 |mp (K V:Ty)
 |qf (F:xL) (a:Nat)
 |qm
mutual
def PV.ty:PV->Ty
 |.d T=>T
 |.agg l=>PV.tyL l
 |.K _ _|.I _|.qp _ _ _|.qy _ _=>.un
 |.nr _ _=>.pr (.int .i64) (.int .i64)
 |.mp _|.nil|.emp=>.un
def PV.tyL:Y PV->Ty
 |[]=>.un
 |p::r=>spr p.ty (PV.tyL r)
end
def PB.ty:PB->Ty
 |.H _ _ T=>.sl T
 |.qg _ T=>.pr .bool (.sl T)
 |.G _ l=>PV.tyL l
 |.mp K V=>.sl (.pr K V)
 |.qf F _=>F.ty
 |.qm=>.un
def PB.tyL:Y PB->Ty
 |[]=>.un
 |p::r=>spr p.ty (PB.tyL r)
structure Tm where
 vs:List PV
 bs:List PB
def Tm.ty (t:Tm):Ty:=spr (PV.tyL t.vs) (PB.tyL t.bs)
def Nz (g:Nat->Nat):Y n!->Y TV->Bool
 |[],[]=>J
 |(i,o)::r,.K A q::vs=>aB (g i) A&&aB o q&&Nz g r vs
 |_,_=>af
mutual
def pe (g:Nat->Nat) (h:ba):(p:PV)->Y TV->aj (p.ty.den×Nat×Y TV)
 |.d T,l=>gG h 40 T l
 |.K i o,l=>match l with|.K i' o'::r=>if aB (g i) i'&&aB o o' then Z ((),0,r) else U|_=>U
 |.I i,l=>match l with|.I i'::r=>if aB (g i) i' then Z ((),0,r) else U|_=>U
 |.qp i s n,l=>match l with|.qp i' s' n'::r=>if aB (g i) i'&&aB s s'&&aB n n' then Z ((),0,r) else U|_=>U
 |.qy q ps,l=>match l with|.qy q' vs::r=>if aB q q'&&Nz g ps vs then Z ((),0,r) else U|_=>U
 |.nr i s,l=>match l with|.sb (.nr i' j s' n)::r=>if aB (g i) i'&&aB s s' then Z ((j,aZ n),0,r) else U|_=>U
 |.mp i,l=>match l with|.mp i'::r=>if aB (g i) i' then Z ((),0,r) else U|_=>U
 |.nil,l=>match l with|.nil::r=>Z ((),0,r)|_=>U
 |.emp,l=>match l with|.nil::r=>Z ((),0,r)|.emp::r=>Z ((),0,r)|_=>U
 |.agg ps,l=>Dx g h ps l
def Dx (g:Nat->Nat) (h:ba):(ps:Y PV)->Y TV->aj ((PV.tyL ps).den×Nat×Y TV)
 |[],l=>Z ((),0,l)
 |p::r,l=>match pe g h p l with
  |some (x,m,l')=>(match Dx g h r l' with|some (y,m',l'')=>Z (mkp p.ty (PV.tyL r) x y,m|||m',l'')|none=>U)
  |none=>U
end
def yX (g:Nat->Nat) (h:ba):(p:PV)->TV->aj (p.ty.den×Nat)
 |.d T,v=>GA h T v
 |.agg A,v=>if v.isC then U else (match v.cs with
  |some l=>(match Dx g h A l with|some (x,m,[])=>Z (x,m)|_=>U)
  |none=>U)
 |.K i o,v=>match pe g h (.K i o) [v] with|some (x,m,_)=>Z (x,m)|none=>U
 |.I i,v=>match pe g h (.I i) [v] with|some (x,m,_)=>Z (x,m)|none=>U
 |.qp i s n,v=>match pe g h (.qp i s n) [v] with|some (x,m,_)=>Z (x,m)|none=>U
 |.qy q A,v=>match pe g h (.qy q A) [v] with|some (x,m,_)=>Z (x,m)|none=>U
 |.nr i s,v=>match pe g h (.nr i s) [v] with|some (x,m,_)=>Z (x,m)|none=>U
 |.mp i,v=>match pe g h (.mp i) [v] with|some (x,m,_)=>Z (x,m)|none=>U
 |.nil,v=>match pe g h .nil [v] with|some (x,m,_)=>Z (x,m)|none=>U
 |.emp,v=>match pe g h .emp [v] with|some (x,m,_)=>Z (x,m)|none=>U
def Dw (g:Nat->Nat) (h:ba):(q:Y PV)->Y TV->aj ((PV.tyL q).den×Nat)
 |[],[]=>Z ((),0)
 |p::r,v::vs=>match yX g h p v with
  |some (x,m)=>(match Dw g h r vs with|some (y,m')=>Z (mkp p.ty (PV.tyL r) x y,m|||m')|none=>U)
  |none=>U
 |[],_::_=>U
 |_::_,[]=>U
def Gp (g:Nat->Nat) (h:ba) (i:Nat):(b:PB)->aj (b.ty.den×Nat)
 |.H ty p T=>match h.get (g i) with
  |some (.H ty' q S xs)=>if ty==ty'&&p==q then (match wu (S:=.sl S) (.sl T) xs with|some x=>Z (x,0)|none=>U) else U
  |_=>U
 |.qg ty T=>match h.get (g i) with
  |some (.H ty' q S xs)=>if ty==ty' then (match wu (S:=.sl S) (.sl T) xs with|some x=>Z ((q,x),0)|none=>U) else U
  |_=>U
 |.G ty A=>match h.get (g i) with
  |some (.G ty' l)=>if ty==ty' then (match Dx g h A l with|some (x,m,[])=>Z (x,m)|_=>U) else U
  |_=>U
 |.mp K V=>match h.get (g i) with
  |some (.mp K' V' es)=>(match wu (S:=.sl (.pr K' V')) (.sl (.pr K V)) es with|some x=>Z (x,0)|none=>U)
  |_=>U
 |.qf F a=>match h.get (g i) with
  |some (.qf F' a' x)=>if I:F'=F then (if aB (F.aid (g a)) a' then Z (I▸x,0) else U) else U
  |_=>U
 |.qm=>Z ((),0)
def H9 (g:Nat->Nat) (h:ba):Nat->(bs:Y PB)->aj ((PB.tyL bs).den×Nat)
 |_,[]=>Z ((),0)
 |i,b::r=>match Gp g h i b with
  |some (x,m)=>(match H9 g h (i+1) r with|some (y,m')=>Z (mkp b.ty (PB.tyL r) x y,m|||m')|none=>U)
  |none=>U
mutual
def C2 (g:Nat->Nat):(p:PV)->p.ty.den->aj (Y TV)
 |.d T,x=>cellsOf 40 T x
 |.K i o,_=>Z [.K (g i) o]
 |.I i,_=>Z [.I (g i)]
 |.qp i s n,_=>Z [.qp (g i) s n]
 |.mp i,_=>Z [.mp (g i)]
 |.qy q ps,_=>Z [.qy q (ps.map λp=>.K (g p.1) p.2)]
 |.nr i s,x=>Z [.sb (.nr (g i) x.1 s (aL x.2))]
 |.nil,_=>Z [.nil]
 |.emp,_=>Z [.emp]
 |.agg ps,x=>wZ g ps x
def wZ (g:Nat->Nat):(ps:Y PV)->(PV.tyL ps).den->aj (Y TV)
 |[],_=>Z []
 |p::r,x=>match C2 g p (Vh p.ty (PV.tyL r) x) with
  |some a=>(match wZ g r (Us p.ty (PV.tyL r) x) with|some b=>Z (a++b)|none=>U)
  |none=>U
end
def EQ (g:Nat->Nat):(p:PV)->p.ty.den->aj TV
 |.d T,x=>Z (.f T x)
 |.K i o,_=>Z (.K (g i) o)
 |.I i,_=>Z (.I (g i))
 |.qp i s n,_=>Z (.qp (g i) s n)
 |.mp i,_=>Z (.mp (g i))
 |.qy q A,_=>Z (.qy q (A.map λp=>.K (g p.1) p.2))
 |.nr i s,x=>Z (.sb (.nr (g i) x.1 s (aL x.2)))
 |.nil,_=>Z .nil
 |.emp,_=>Z .emp
 |.agg A,x=>match wZ g A x with|some l=>Z (.agg l)|none=>U
def sP (g:Nat->Nat):(q:Y PV)->(PV.tyL q).den->aj (Y TV)
 |[],_=>Z []
 |p::r,x=>match EQ g p (Vh p.ty (PV.tyL r) x) with
  |some a=>(match sP g r (Us p.ty (PV.tyL r) x) with|some b=>Z (a::b)|none=>U)
  |none=>U
def Jr (g:Nat->Nat):(b:PB)->b.ty.den->aj (aj gi)
 |.H ty p T,x=>Z (Z (.H ty p T x))
 |.qg ty T,x=>Z (Z (.H ty x.1 T x.2))
 |.G ty q,x=>match wZ g q x with|some l=>Z (Z (.G ty l))|none=>U
 |.mp K V,x=>Z (Z (.mp K V x))
 |.qf F a,x=>Z (Z (.qf F (F.aid (g a)) x))
 |.qm,_=>Z U
def vZ:gi->gi
 |.H _ p T xs=>.qw p T.size (l! xs)
 |.G _ _|.mp _ _ _=>.qw J 0 0
 |.qf F _ x|.zj F _ x _ _=>(match DA F x with|some (p,s,n)=>.qw p s n|none=>.qw J 0 0)
 |.qw p sz n=>.qw p sz n
def kill (h:ba) (i:Nat):ba:=match h.get i with
 |some b=>h.set i (Z (vZ b))
 |none=>h
def uV (g:Nat->Nat):(bs:Y PB)->(PB.tyL bs).den->aj (Y (aj gi))
 |[],_=>Z []
 |b::r,x=>match Jr g b (Vh b.ty (PB.tyL r) x) with
  |some c=>(match uV g r (Us b.ty (PB.tyL r) x) with|some l=>Z (c::l)|none=>U)
  |none=>U
def EY (g:Nat->Nat):Nat->Y (aj gi)->ba->ba
 |_,[],h=>h
 |i,Z c::r,h=>EY g (i+1) r (h.set (g i) (Z c))
 |i,U::r,h=>EY g (i+1) r (kill h (g i))
def Sw (g:Nat->Nat) (bs:Y PB) (x:(PB.tyL bs).den) (h:ba):aj ba:=match uV g bs x with
 |some l=>Z (EY g 0 l h)
 |none=>U
def qR {K V:Ty} (k:K.den):Y (K.den×V.den)->aj V.den
 |[]=>U
 |(q,v)::r=>if QV K k q then Z v else qR k r
def Cw {K V:Ty} (k:K.den) (v:V.den):Y (K.den×V.den)->Y (K.den×V.den)
 |[]=>[(k,v)]
 |(q,A)::r=>if QV K k q then (k,v)::r else (q,A)::Cw k v r
def ayi {V:Ty} (k:S.den) (q:Y (S.den×V.den)):Bool:=match qR k q with|some _=>J|none=>af
def vp {K V:Ty} (k:K.den) (q:Y (K.den×V.den)) (z:V.den):V.den:=match qR k q with|some v=>v|none=>z
def aCo (T:Ty):Nat->Ty
 |0=>.un
 |1=>T
 |n+2=>.pr T (aCo T (n+1))
def kwT:Ty:=.st (aCo .str 22)
def kwV:kwT.den:=([118,97,114],[118,111,108,97,116,105,108,101],[109,117,116,101,120],[114,119,108,111,99,107],[99,111,110,100],[102,117,116,117,114,101],[116,104,114,101,97,100],[105,102],[101,108,115,101],[119,104,105,108,101],[108,111,99,107],[114,101,97,100],[119,114,105,116,101],[116,114,97,110,115,97,99,116,105,111,110],[97,116,111,109,105,99],[119,97,105,116],[110,111,116,105,102,121],[110,111,116,105,102,121,97,108,108],[115,112,97,119,110],[106,111,105,110],[115,101,116],[103,101,116])
structure cu where
 pre:Tm
 post:Tm
 m:pre.ty.den->Option post.ty.den
def adt:Y n!->Y TV->PT Nat->PT Nat
 |(i,_)::r,.K a _::vs,σ=>adt r vs (σ.set i (Z a))
 |_::r,_::vs,σ=>adt r vs σ
 |_,_,σ=>σ
mutual
def awz:PV->Y TV->PT Nat->PT Nat×Y TV
 |.d T,l,σ=>(σ,l.drop T.size)
 |.K i _,l,σ=>match l with|.K a _::r=>(σ.set i (Z a),r)|l=>(σ,l.drop 1)
 |.I i,l,σ=>match l with|.I a::r=>(σ.set i (Z a),r)|l=>(σ,l.drop 1)
 |.qp i _ _,l,σ=>match l with|.qp a _ _::r=>(σ.set i (Z a),r)|l=>(σ,l.drop 1)
 |.mp i,l,σ=>match l with|.mp a::r=>(σ.set i (Z a),r)|l=>(σ,l.drop 1)
 |.qy _ ps,l,σ=>match l with|.qy _ vs::r=>(adt ps vs σ,r)|l=>(σ,l.drop 1)
 |.nr i _,l,σ=>match l with|.sb (.nr a _ _ _)::r=>(σ.set i (Z a),r)|l=>(σ,l.drop 1)
 |.nil,l,σ|.emp,l,σ=>(σ,l.drop 1)
 |.agg ps,l,σ=>adu ps l σ
def adu:Y PV->Y TV->PT Nat->PT Nat×Y TV
 |[],l,σ=>(σ,l)
 |p::r,l,σ=>match awz p l σ with|(σ',l')=>adu r l' σ'
end
def aDi (p:PV) (v:TV) (σ:PT Nat):PT Nat:=match p with
 |.d _=>σ
 |p=>match v.cs with|some l=>(awz p l σ).1|none=>σ
def api:Y PV->Y TV->PT Nat->PT Nat
 |p::r,v::vs,σ=>api r vs (aDi p v σ)
 |_,_,σ=>σ
def adv (h:ba):Nat->Y PB->PT Nat->PT Nat
 |_,[],σ=>σ
 |i,b::r,σ=>adv h (i+1) r (match b with
  |.G _ q=>(match σ.get i with
   |some a=>(match h.get a with|some (.G _ l)=>(adu q l σ).1|_=>σ)
   |none=>σ)
  |.qf F j=>(match σ.get i with
   |some a=>(match h.get a with|some (.qf _ b _)=>(if aB (F.aid 1) 0 then σ else σ.set j (Z b))|_=>σ)
   |none=>σ)
  |_=>σ)
def ju (σ:PT Nat) (i:Nat):Nat:=match σ.get i with|some a=>a|none=>0
def aly (σ:PT Nat):Nat->Nat->Nat->aj Nat
 |0,_,acc=>Z acc
 |n+1,i,acc=>match σ.get i with
  |some a=>if aF acc a then U else aly σ n (i+1) (acc|||kZ a)
  |none=>U
def idn:Nat->PT Nat
 |0=>.leaf
 |n+1=>(idn n).set n (Z n)
def ago (σ:PT Nat):Nat->Bool
 |0=>J
 |n+1=>(match σ.get n with|some a=>aB a n|none=>af)&&ago σ n
structure aEc (t:Tm) where
 x:t.ty.den
 m:Nat
 σ:PT Nat
 sm:Nat
def Gh (np:Nat) (t:Tm) (vs:Y TV) (h:ba):aj (aEc t):=
 Ru (adv h 0 t.bs (adv h 0 t.bs (api t.vs vs (idn np)))) λσ=>
 match aly σ (l! t.bs) 0 0 with
 |some sm=>(match Dw (ju σ) h t.vs vs with
  |some (x,m)=>(match H9 (ju σ) h 0 t.bs with
   |some (y,m')=>if LG (m|||m') sm&&ago σ np then Z ⟨mkp _ _ x y,m|||m',σ,sm⟩ else U
   |none=>U)
  |none=>U)
 |none=>U
def PT.updI (f:Nat->R->R):Nat->Nat->PT R->PT R
 |_,_,.leaf=>.leaf
 |a,b,.node v l r=>.node (match v with|some x=>Z (f b x)|none=>U) (PT.updI f (2*a) (a+b) l) (PT.updI f (2*a) (2*a+b) r)
def eP (m:Nat) (h:ba):ba:=if aB m 0 then h else PT.updI (λi b=>if aF m i then vZ b else b) 1 0 h
def aaz:Operand->Bool
 |.const (.agg _)=>J
 |_=>af
def fc (e:iW):Operand->aj TV
 |.tmp t=>e.get t
 |.const v=>az5 v
 |.func g=>Z (.qy g [])
 |.global g=>match G g with|some _=>Z (.zm kwT [kwV] 0 (Eq.refl J) 0)|none=>U
def Sy (e:iW):Y Operand->aj (Y TV)
 |[]=>Z []
 |x::xs=>match fc e x with|some y=>(match Sy e xs with|some q=>Z (y::q)|none=>U)|none=>U
def S_ (cells:Y TV) (e:iW):Y j?->aj (Y TV)
 |[]=>Z cells
 |(off,sz,x)::r=>match fc e x with
  |some v=>(match v.cs with
   |some cs=>if (l! cs)==sz&&di (off+sz) (l! cells) then S_ (splice cells off cs) e r else U
   |none=>U)
  |none=>U
def alr (l:Y TV) (off sz:Nat):Bool->aj TV
 |false=>if aB sz 1 then l[off]? else U
 |true=>if di (off+sz) (l! l) then Z (.agg ((l.drop off).take sz)) else U
def e_ (h:ba) (id:Nat):aj (Bool×n!):=match h.get id with
 |some (.H _ p T xs)=>Z (p,T.size,l! xs)
 |some (.qw p sz n)=>Z (p,sz,n)
 |some (.qf F _ x)|some (.zj F _ x _ _)=>DA F x
 |_=>U
def lenOf (h:ba):TV->aj Nat
 |.f (.sl _) xs=>Z (ah xs)
 |.emp|.nil=>Z 0
 |.I id=>match e_ h id with|some (_,_,n)=>Z n|none=>U
 |.qp _ _ n|.sb (.nr _ _ _ n)=>Z n
 |_=>U
mutual
def SD (h:ba):TV->Bool
 |.I id|.zh id _=>(e_ h id).isSome
 |.qn _ _=>J
 |.sb _=>J
 |.agg l|.qd l|.qy _ l=>mo h l
 |.f _ _=>J
 |.zm _ _ _ _ _=>J
 |.ql _ _ _ _=>J
 |.K _ _=>J
 |.qp _ _ _=>J
 |.emp=>J
 |.nil=>J
 |.mp _=>J
 |.undef=>J
 |.np=>J
 |.qj=>J
def mo (h:ba):Y TV->Bool
 |[]=>J
 |x::r=>SD h x&&mo h r
end
mutual
def MW (n:Nat):TV->Bool
 |.I id|.zh id _=>dE id n
 |.qn _ _=>J
 |.sb s=>dE s.id n
 |.ql id _ _ _|.K id _|.qp id _ _|.mp id=>dE id n
 |.agg l|.qd l|.qy _ l=>s_ n l
 |.f _ _=>J
 |.zm _ _ _ _ _=>J
 |.emp=>J
 |.nil=>J
 |.undef=>J
 |.np=>J
 |.qj=>J
def s_ (n:Nat):Y TV->Bool
 |[]=>J
 |x::r=>MW n x&&s_ n r
end
def Fn (t:Tm) (x:t.ty.den):aj (Y TV×ba):=
 match sP (λi=>i) t.vs (Vh _ _ x) with
 |some vs=>(match Sw (λi=>i) t.bs (Us _ _ x) PT.leaf with
  |some h=>if mo h vs&&s_ (l! t.bs) vs&&PT.all (λ_ b=>match b with|.G _ l=>mo h l&&s_ (l! t.bs) l|.qf _ a _=>dE a (l! t.bs)|.zj _ _ _ _ _=>af|_=>J) 1 0 h then Z (vs,h) else U
  |none=>U)
 |none=>U
abbrev KO (R:Type):=TV->Nat->Nat->ba->Nat->aj R
def WZ:Y TV->TV
 |[x]=>x
 |l=>.qd l
def F7:Y PB->Bool
 |[]=>J
 |.qm::_=>af
 |_::r=>F7 r
def Na:Y PB->Bool
 |[]=>J
 |.H _ _ _::r=>Na r
 |_::_=>af
def wX (h h2:ba) (g:Nat->Nat):Nat->Bool
 |0=>J
 |n+1=>(match e_ h (g n) with
  |some (p,s,k)=>(match e_ h2 (g n) with|some (q,s',A)=>(p==q)&&aB s s'&&aB k A|none=>af)
  |none=>J)&&wX h h2 g n
def ark (f:FuncId):Y TV->FuncId
 |[]=>f
 |.qy g _::_=>f+65536*(g+1)
 |.sb (.nr _ _ _ _)::r=>f+65536*(60000+l! r)
 |[.nil]=>f+65536*61000
 |_::r=>ark f r
def az7 (con:FuncId->aj cu) (f:FuncId) (l:Y TV):aj cu:=match dE f 65536 with
 |true=>(match con (ark f l) with|some c=>Z c|none=>con f)
 |false=>U
def ah9 (con:FuncId->aj cu) (f:FuncId) (l:Y TV) (h:ba) (nx:Nat) (K:KO R):aj R:=
 match az7 con f l with
 |some c=>(match Gh 0 c.pre l h with
  |some ⟨x,m,σ,sm⟩=>(match Fn c.pre x with
   |some _=>aw (c.m x) λy=>(match Fn c.post y with
    |some _=>if di (l! c.pre.bs) (l! c.post.bs)&&F7 c.pre.bs then
      let np:=l! c.pre.bs
      let A:=l! c.post.bs-np
      let g:=λi=>if dE i np then ju σ i else nx+(i-np)
      (match sP g c.post.vs (Vh _ _ y) with
      |some q=>if !(aB m 0)&&aB (l! c.post.bs) 0&&(PV.tyL c.post.vs).flat then K (WZ q) m 0 h nx else
       (match Sw g c.post.bs (Us _ _ y) (eP m h) with
       |some h2=>chk (wX h h2 g np) λ_=>K (WZ q) (sm|||m) (sm|||m|||(((1<<<A)-1)<<<nx)) h2 (nx+A)
       |none=>U)
      |none=>U) else if aB (l! c.post.bs) 0&&Na c.pre.bs then
      let np:=l! c.pre.bs
      let g:=λi=>if dE i np then ju σ i else nx+(i-np)
      (match sP g c.post.vs (Vh _ _ y) with
      |some q=>(match Sw g c.pre.bs (Us _ _ x) (eP m h) with
       |some h2=>K (WZ q) (sm|||m) m h2 nx
       |none=>U)
      |none=>U) else U
    |none=>U)
   |none=>U)
  |none=>U)
 |none=>U
def azd (op:BinOp) (x y:TV) (q:TV->aj R):aj R:=
 match x,y with
 |.f (.int k) a,.f (.int A) b=>if k==A then
   (match op with
   |.add=>q (.f (.int k) (aU k (a+b)))
   |.sub=>q (.f (.int k) (aU k (a-b)))
   |.mul=>q (.f (.int k) (aU k (a*b)))
   |.rem=>chk (!decide ((b:Int)=0)) λ_=>q (.f (.int k) (vE a b))
   |.quo=>chk (!decide ((b:Int)=0)) λ_=>q (.f (.int k) (aU k (Int.tdiv a b)))
   |.eql=>q (.f .bool (decide ((a:Int)=b)))
   |.neq=>q (.f .bool (!decide ((a:Int)=b)))
   |.lss=>q (.f .bool (hY a b))
   |.leq=>q (.f .bool (cN a b))
   |.gtr=>q (.f .bool (hY b a))
   |.geq=>q (.f .bool (cN b a))
   |.and=>q (.f (.int k) (asq k a b))
   |_=>U)
  else U
 |.f .str a,.f .str b=>match op with
   |.eql=>q (.f .bool (decide ((a:ζ)=b)))
   |.neq=>q (.f .bool (!decide ((a:ζ)=b)))
   |_=>U
 |_,_=>U
def aig:Bool->Ty->Bool
 |false,.int _=>J
 |true,.str=>J
 |_,_=>af
abbrev itK:Ty:=.st (.pr .str (.int .i64))
def isIt:Ty->Bool
 |.st (.pr .str (.int .i64))=>J
 |_=>af
def aic (K:Ty):Bool:= !isIt K
def QQ:Y ((ζ×Int)×Unit)->ζ
 |[]=>[]
 |e::_=>e.1.1
def Oa:Y ((ζ×Int)×Unit)->Nat
 |[]=>0
 |e::_=>aL e.1.2
def rnP (s:ζ) (p:Nat):Int:=rnA (List.getD s p 0) ⟨kw s⟩ p
def wdP (s:ζ) (p:Nat):Nat:=wdA (List.getD s p 0) ⟨kw s⟩ p
def itE:(K V:Ty)->Y (K.den×V.den)->aj (ζ×Nat)
 |.st (.pr .str (.int .i64)),.un,q=>Z (QQ q,Oa q)
 |_,_,_=>U
def mpE:(K V:Ty)->Y (K.den×V.den)->Bool
 |.un,.un,[]=>J
 |_,_,_=>af
def Aw (T:Ty):Y TV->aj (Y T.den)
 |[]=>Z []
 |.f S v::r=>match wu (S:=S) T v with
  |some x=>(match Aw T r with|some l=>Z (x::l)|none=>U)
  |none=>U
 |_::_=>U
def apl:Y TV->aj ((T:Ty)×Y T.den)
 |.f T v::r=>match Aw T (.f T v::r) with|some l=>Z ⟨T,l⟩|none=>U
 |_=>U
def aD3 (n sz:Nat) (v:TV):Bool->aj ((T:Ty)×Y T.den)
 |true=>U
 |false=>if aB sz 1&& !v.isC then (match v.cs with|some l=>if aB (l! l) n then apl l else U|none=>U) else U
def arrB (n sz off:Nat):aj gi->aj ((T:Ty)×Y T.den)
 |some (.G (Z _) l)=>if aB sz 1&&aB off 0&&aB (l! l) n then apl l else U
 |_=>U
def aws:Ty->Nat
 |.pr .un t=>aws t+1
 |_=>0
def IH:aj Ty->aj Nat
 |some (.pr .un t)=>Z (aws t)
 |_=>U
def awx (ty:TypeId) (sz bytes:Nat) (b y:TV) (h:ba) (nx:Nat) (K:KO R):aj R:=match y with
 |.qp id2 sz2 m=>(match h.get id2 with
  |some (.G (Z _) q)=>if aB sz2 sz&&aB (l! q) (m*sz)&& !(aB m 0) then (match b with
   |.qp id sz1 n=>(match h.get id with
    |some (.G (Z ty1) l)=>if aB sz1 sz&&ty1==ty&&aB (l! l) (n*sz)&& !(aB id id2) then
      chk (bk (n+m) bytes) λ_=>K (.qp nx sz (n+m)) (kZ id|||kZ id2) (kZ id|||kZ nx) ((h.set id (Z (.qw J 0 0))).set nx (Z (.G (Z ty) (l++q)))) (nx+1) else U
    |_=>U)
   |.nil=>chk (bk m bytes) λ_=>K (.qp nx sz m) (kZ id2) (0|||kZ nx) ((eP 0 h).set nx (Z (.G (Z ty) q))) (nx+1)
   |_=>U) else U
  |_=>U)
 |_=>U
def au9 (ty:TypeId) (sz bytes:Nat) (T:Ty) (b:TV) (q:Y T.den) (m:Nat) (h:ba) (nx:Nat) (K:KO R):aj R:=match b with
 |.I id=>(match h.get id with
  |some (.H ty' p S xs)=>(match wu (S:=.sl S) (.sl T) xs with
   |some xs=>if ty'==ty&& !(aF m id) then
     chk (bk (ah xs+ah q) bytes) λ_=>K (.I nx) (kZ id|||m) (kZ id|||kZ nx) ((h.set id (Z (.qw p sz (ah xs)))).set nx (Z (.H ty p T (xs++q)))) (nx+1)
    else U
   |none=>U)
  |_=>U)
 |.qn S xs=>(match wu (S:=.sl S) (.sl T) xs with
  |some xs=>chk (bk (ah xs+ah q) bytes) λ_=>aK (aB (ah q) 0) (K (.f (.sl T) xs) m 0 h nx) (K (.I nx) m (0|||kZ nx) ((eP 0 h).set nx (Z (.H ty af T (xs++q)))) (nx+1))
  |none=>U)
 |.emp|.nil=>chk (bk (ah q) bytes) λ_=>K (.I nx) m (kZ nx) (h.set nx (Z (.H ty J T q))) (nx+1)
 |_=>U
def pkT (ok:Bool) (v b:TV):TV:=match ok with|true=>.qd [v,b]|false=>v
def rwB (sz off:Nat):aj gi->Bool
 |some (.H _ _ T _)=>aB sz T.size&&aB off 0
 |_=>af
def oL (l:η):ζ:=l.map λn=>Ct n.toNat
def ay4 (h:ba) (T:Ty):TV->aj (Int×Y T.den×Nat)
 |.zh id j=>(match h.get id with
  |some (.H _ _ S xs)=>(match wu (S:=.sl S) (.sl T) xs with|some xs=>Z (j,xs,id)|none=>U)
  |_=>U)
 |_=>U
def fh (con:FuncId->aj cu) (b9:TypeId->aj Ty) (o:SI) (e:iW) (h:ba) (nx:Nat) (K:KO R):aj R:=
 match o with
 |.call f args=>match Sy e args with|some l=>ah9 con f l h nx K|none=>U
 |.jd x args=>match fc e x,Sy e args with
  |some (.qy f cap),Z l=>ah9 con f (l++cap) h nx K
  |_,_=>U
 |.op s=>match s with
  |.zd ty sz bytes z l c=>match IH (b9 ty) with
   |some n=>(match Ry z,fc e l,fc e c with
    |some zc,Z (.f (.int _) a),Z (.f (.int _) b)=>chk (cN 0 a&&cN a b&&bk (aL b) bytes&&decide ((a:Int)=aZ n)) λ_=>K (.qp nx sz n) 0 (0|||kZ nx) ((eP 0 h).set nx (Z (.G (Z ty) (aA n zc).flatten))) (nx+1)
    |_,_,_=>U)
   |none=>match b9 ty,fc e l,fc e c with
   |some T,Z (.f (.int _) a),Z (.f (.int _) b)=>if aB sz T.size&&TW z (vX T) then
     chk (cN 0 a&&cN a b&&bk (aL b) bytes) λ_=>K (.I nx) 0 (kZ nx) (h.set nx (Z (.H ty af T (aA (aL a) T.zero)))) (nx+1) else U
   |_,_,_=>U
  |.xq ty sz len z parts=>match IH (b9 ty) with
   |some _=>(match Ry z with
    |some zc=>(match S_ ((aA len zc).flatten) e parts with
     |some cs=>if aB len 0 then U else K (.qp nx sz len) 0 (0|||kZ nx) ((eP 0 h).set nx (Z (.G (Z ty) cs))) (nx+1)
     |none=>U)
    |none=>U)
   |none=>match b9 ty,Ry z with
   |some T,Z zc=>if aB sz T.size then (match S_ ((aA len zc).flatten) e parts with
    |some cs=>(match Fk h T len cs with
     |some (xs,m)=>K (.I nx) m (m|||kZ nx) ((eP m h).set nx (Z (.H ty (aB len 0) T xs))) (nx+1)
     |none=>U)
    |none=>U) else U
   |_,_=>U
  |.app ty sz bytes s x=>match IH (b9 ty) with
   |some _=>(match fc e s,fc e x with
    |some b,Z y=>awx ty sz bytes b y h nx K
    |_,_=>U)
   |none=>match b9 ty,fc e s,fc e x with
   |some T,Z b,Z y=>if aB sz T.size then (match ay4 h T y with
    |some (j,xs,id)=>chk (cN 0 j&&hY j (ah xs)) λ_=>au9 ty sz bytes T b (oR (aL j) xs) (kZ id) h nx K
    |none=>(match GA h (.sl T) y with
     |some (ys,m)=>au9 ty sz bytes T b ys m h nx K
     |none=>U)) else U
   |_,_,_=>U
  |.copy sz d x=>match fc e d,fc e x with
   |some (.I id),Z y=>(match h.get id with
    |some (.H ty p T xs)=>if aB sz T.size then (match GA h (.sl T) y with
     |some (ys,m)=>if !(aF m id)&& !p then
       K (.f (.int .i64) (aZ (mr (ah ys) (ah xs)))) (kZ id|||m) (kZ id) (h.set id (Z (.H ty p T (ZZ xs ys)))) nx else U
     |none=>U) else U
    |_=>U)
   |_,_=>U
  |.clr sz z x=>match fc e x with
   |some (.zh id j)=>(match h.get id with
    |some (.H ty p T xs)=>if (aB sz T.size&&TW z (vX T))&&oK z then
      chk (cN 0 j&&hY j (ah xs)) λ_=>K (.qd []) (kZ id) (0|||kZ id) ((eP 0 h).set id (Z (.H ty p T (cG (aL j) xs++aA (ah xs-aL j) T.zero)))) nx
     else U
    |_=>U)
   |_=>U
  |.mv x=>match fc e x with|some v=>K v 0 0 h nx|none=>U
  |.pick c a b=>match fc e c with
   |some (.f .bool t)=>aK t (match fc e a with|some v=>K v 0 0 h nx|none=>U) (match fc e b with|some v=>K v 0 0 h nx|none=>U)
   |_=>U
  |.alloc ty z=>if dE 24 (ah z)&&TW z (aA (ah z) (.int .u8 0)) then
    K (.K nx 0) 0 (0|||kZ nx) ((eP 0 h).set nx (Z (.H ty af (.int .u8) (aA (ah z) (0:Int))))) (nx+1)
   else match Ry z with
   |some l=>K (.K nx 0) 0 (kZ nx) (h.set nx (Z (.G (Z ty) l))) (nx+1)
   |none=>U
  |.box ty x=>match fc e x with
   |some v=>(match v.cs with|some l=>K (.K nx 0) 0 (kZ nx) (h.set nx (Z (.G (Z ty) l))) (nx+1)|none=>U)
   |none=>U
  |.build z parts=>match Ry z with
   |some l=>(match S_ l e parts with|some cs=>K (.agg cs) 0 0 h nx|none=>U)
   |none=>U
  |.load sz ag x=>match fc e x with
   |some (.K id off)=>(match h.get id with
    |some (.G (Z _) l)=>(match alr l off sz ag with|some v=>K v (kZ id) 0 h nx|none=>U)
    |_=>U)
   |some (.ql id sz' j off)=>(match h.get id with
    |some (.H _ _ T xs)=>if aB sz' T.size then chk (fO j (l! xs)) λ_=>(match su 40 T (aE _ xs j) off sz ag with|some v=>K v (kZ id) 0 h nx|none=>U) else U
    |some (.G (Z _) l)=>(match ag with
     |true=>U
     |false=>if aB sz 1&&aB sz' 1&&aB off 0 then (match apl l with
      |some ⟨T,xs⟩=>chk (fO j (l! l)) λ_=>K (.f T (aE _ xs j)) (kZ id) 0 h nx
      |none=>U) else U)
    |_=>U)
   |some (.zm T xs j _ off)=>(match su 40 T (aE _ xs j) off sz ag with|some v=>K v 0 0 h nx|none=>U)
   |_=>U
  |.store sz x v=>match fc e x,fc e v with
   |some (.K id off),Z y=>(match h.get id with
    |some (.G (Z ty) l)=>(match y.cs with
     |some cs=>if (l! cs)==sz&&di (off+sz) (l! l) then K .undef (kZ id) (kZ id) (h.set id (Z (.G (Z ty) (splice l off cs)))) nx else U
     |none=>U)
    |_=>U)
   |some (.ql id sz' j off),Z y=>(match h.get id with
    |some (.H ty p T xs)=>if aB sz' T.size then chk (fO j (l! xs)) λ_=>(match iR h y 40 T (aE _ xs j) off sz with
     |some (z,m)=>if aF m id then U else K .undef (m|||kZ id) (m|||kZ id) ((eP m h).set id (Z (.H ty p T (bW xs j z)))) nx
     |none=>U) else U
    |_=>U)
   |_,_=>U
  |.jz x=>match fc e x with
   |some (.K id off)=>K (.K id off) 0 0 h nx
   |some (.ql id sz j off)=>K (.ql id sz j off) 0 0 h nx
   |some (.zm T xs j hj off)=>K (.zm T xs j hj off) 0 0 h nx
   |some (.qy g cap)=>K (.qy g cap) 0 0 h nx
   |_=>U
  |.bin op x y=>match fc e x,fc e y with
   |some u,Z v=>azd op u v λr=>K r 0 0 h nx
   |_,_=>U
  |.jm neg ds x y=>match v_ ds,fc e x,fc e y with
   |some T,Z u,Z v=>if u.isC||v.isC||aaz x||aaz y then U else (match u.cs,v.cs with
    |some lu,Z lv=>(match gG PT.leaf 40 T lu,gG PT.leaf 40 T lv with
     |some (a,_,[]),Z (b,_,[])=>K (.f .bool (QV T a b !=neg)) 0 0 h nx
     |_,_=>U)
    |_,_=>U)
   |_,_,_=>U
  |.zt neg x=>match fc e x with
   |some .nil=>K (.f .bool (!neg)) 0 0 h nx
   |some .emp=>K .qj 0 0 h nx
   |some (.f (.sl _) xs)=>aK (aB (ah xs) 0) (K .qj 0 0 h nx) (K (.f .bool neg) 0 0 h nx)
   |some (.I id)=>(match h.get id with
    |some (.H _ af _ _)=>K (.f .bool neg) 0 0 h nx
    |_=>U)
   |_=>U
  |.jr neg x y=>match fc e x,fc e y with
   |some (.f .bool a),Z (.f .bool b)=>K (.f .bool ((a==b) !=neg)) 0 0 h nx
   |_,_=>U
  |.not x=>match fc e x with|some (.f .bool b)=>K (.f .bool (!b)) 0 0 h nx|_=>U
  |.conv k x=>match fc e x with|some (.f (.int _) n)=>K (.f (.int k) (aU k n)) 0 0 h nx|_=>U
  |.slc sz x lo hi mx=>match fc e x with
   |some v=>(match lo,hi,mx with
    |none,Z (.const (.int _ 0)),Z (.const (.int _ 0))=>if (lenOf h v).isSome then K .emp 0 0 h nx else U
    |none,Z b,U=>(match v,fc e b with
     |.f (.sl T) xs,Z (.f (.int _) j)=>if aB sz T.size then chk (cN 0 j&&cN j (ah xs)) λ_=>K (.f (.sl T) (cG (aL j) xs)) 0 0 h nx else U
     |.I id,Z (.f (.int _) j)=>(match h.get id with
      |some (.H ty p T xs)=>if aB sz T.size then
        chk (cN 0 j&&hY j (ah xs)) λ_=>K (.I nx) (kZ id) (kZ id|||kZ nx) ((h.set id (Z (.qw p sz (ah xs)))).set nx (Z (.H ty af T (cG (aL j) xs)))) (nx+1)
       else U
      |_=>U)
     |_,_=>U)
    |some b,U,U=>(match v,fc e b with
     |.f (.sl T) xs,Z (.f (.int _) j)=>if aB sz T.size then chk (cN 0 j&&cN j (ah xs)) λ_=>K (.f (.sl T) (oR (aL j) xs)) 0 0 h nx else U
     |.I id,Z (.f (.int _) j)=>(match h.get id with
      |some (.H _ _ T xs)=>if aB sz T.size then chk (cN 0 j&&hY j (ah xs)) λ_=>K (.zh id j) 0 0 h nx else U
      |_=>U)
     |_,_=>U)
    |none,Z b,Z b'=>(match v,fc e b,fc e b' with
     |.f (.sl T) xs,Z (.f (.int _) j),Z (.f (.int _) j')=>if aB sz T.size then chk ((decide (j=j')&&cN 0 j)&&cN j (ah xs)) λ_=>K (.qn T (cG (aL j) xs)) 0 0 h nx else U
     |_,_,_=>U)
    |some b,Z b',U=>(match v,fc e b,fc e b' with
     |.f (.sl T) xs,Z (.f (.int _) j),Z (.f (.int _) k)=>if aB sz T.size then chk (cN 0 j&&(cN j k&&cN k (ah xs))) λ_=>K (.f (.sl T) (cG (aL k-aL j) (oR (aL j) xs))) 0 0 h nx else U
     |_,_,_=>U)
    |_,_,_=>U)
   |none=>U
  |.jb off x=>match fc e x with
   |some (.K id o)=>K (.K id (o+off)) 0 0 h nx
   |some (.ql id sz j o)=>K (.ql id sz j (o+off)) 0 0 h nx
   |some (.zm T xs j hj o)=>K (.zm T xs j hj (o+off)) 0 0 h nx
   |_=>U
  |.jf sz x i=>match fc e x,fc e i with
   |some (.I id),Z (.f (.int _) j)=>(match h.get id with
    |some (.H _ _ T xs)=>if aB sz T.size then chk (fO j (l! xs)) λ_=>K (.ql id sz j 0) 0 0 h nx else U
    |_=>U)
   |some (.f (.sl T) xs),Z (.f (.int _) j)=>if aB sz T.size then chk (fO j (ah xs)) λhj=>K (.zm T xs j hj 0) 0 0 h nx else U
   |some (.qp id sz' n),Z (.f (.int _) j)=>if aB sz' sz then chk (cN 0 j&&hY j n) λ_=>K (.K id (aL j*sz)) 0 0 h nx else U
   |_,_=>U
  |.jk n sz x i=>match fc e x,fc e i with
   |some (.K id off),Z (.f (.int _) j)=>if rwB sz off (h.get id) then chk (cN 0 j&&hY j n) λ_=>K (.ql id sz j off) 0 0 h nx else (match arrB n sz off (h.get id) with
    |some _=>chk (cN 0 j&&hY j n) λ_=>K (.ql id sz j off) 0 0 h nx
    |none=>U)
   |_,_=>U
  |.sla n sz x lo=>match fc e x,fc e lo with
   |some (.K id off),Z (.f (.int _) j)=>(match h.get id with
    |some (.H _ _ T xs)=>if aB sz T.size&&aB off 0 then chk (cN 0 j&&(hY j n&&aB n (ah xs))) λ_=>K (.zh id j) 0 0 h nx else U
    |_=>U)
   |_,_=>U
  |.tos x=>match fc e x with
   |some v=>(match GA h (.sl (.int .u8)) v with|some (ys,m)=>K (.f .str (oL ys)) m 0 h nx|none=>U)
   |none=>U
  |.idx n sz ag x i=>match fc e x,fc e i with
   |some v,Z (.f (.int _) j)=>(match aD3 n sz v ag with
    |some ⟨T,xs⟩=>chk (cN 0 j&&hY j n) λ_=>K (.f T (aE _ xs j)) 0 0 h nx
    |none=>U)
   |_,_=>U
  |.ext x i=>match fc e x with|some (.qd l)=>(match l[i]? with|some v=>K v 0 0 h nx|none=>U)|_=>U
  |.len x=>match fc e x with
   |some v=>(match lenOf h v with|some n=>K (.f (.int .i64) (aZ n)) 0 0 h nx|none=>U)
   |none=>U
  |.lens x=>match fc e x with
   |some (.f .str s)=>K (.f (.int .i64) (aZ (ah s))) 0 0 h nx
   |_=>U
  |.max x y=>match fc e x,fc e y with
   |some (.f (.int k) a),Z (.f (.int k') b)=>if k==k' then K (.f (.int k) (mJ a b)) 0 0 h nx else U
   |_,_=>U
  |.min x y=>match fc e x,fc e y with
   |some (.f (.int k) a),Z (.f (.int k') b)=>if k==k' then K (.f (.int k) (ab0 a b)) 0 0 h nx else U
   |_,_=>U
  |.jv x i=>match fc e x,fc e i with
   |some (.f .str s),Z (.f (.int _) j)=>chk (fO j (ah s)) λ_=>K (.f (.int .u8) (tW s j)) 0 0 h nx
   |_,_=>U
  |.rng x=>match fc e x with
   |some (.f .str s)=>K (.K nx 0) 0 (0|||kZ nx) ((eP 0 h).set nx (Z (.mp itK .un [((s,0),())]))) (nx+1)
   |_=>U
  |.nxt x=>match fc e x with
   |some (.K id 0)=>(match h.get id with
    |some (.mp K' V q)=>(match itE K' V q with
     |some (s,p)=>aK (dE p (ah s)) (K (.qd [.f .bool J,.f (.int .i64) (aZ p),.f (.int .i32) (rnP s p)]) (kZ id) (0|||kZ id) ((eP 0 h).set id (Z (.mp itK .un [((s,aZ (p+wdP s p)),())]))) nx)
       (K (.qd [.f .bool af]) (kZ id) (0|||kZ id) ((eP 0 h).set id (Z (.mp itK .un [((s,aZ p),())]))) nx)
     |none=>U)
    |_=>U)
   |_=>U
  |.mkm=>K (.mp nx) 0 (0|||kZ nx) ((eP 0 h).set nx (Z (.mp .un .un []))) (nx+1)
  |.lku str ok z x k=>match fc e x,fc e k with
   |some (.mp id),Z (.f KT kv)=>(match h.get id with
    |some (.mp K' V q)=>if aig str KT&&aic K' then (match mpE K' V q with
     |true=>(match cst z with|some v=>K (pkT ok v (.f .bool af)) (kZ id) 0 h nx|none=>U)
     |false=>(match wu (S:=KT) K' kv,cst z with
      |some kv',Z (.f A zv)=>(match wu (S:=A) V zv with
       |some zv'=>K (pkT ok (.f V (vp kv' q zv')) (.f .bool (ayi kv' q))) (kZ id) 0 h nx
       |none=>U)
      |_,_=>U)) else U
    |_=>U)
   |_,_=>U
  |.mup str x k v=>match fc e x,fc e k,fc e v with
   |some (.mp id),Z (.f KT kv),Z (.f VT vv)=>(match h.get id with
    |some (.mp K' V q)=>if (aig str KT&&VT.one)&&aic K' then (match mpE K' V q with
     |true=>K .undef (kZ id) (0|||kZ id) ((eP 0 h).set id (Z (.mp KT VT [(kv,vv)]))) nx
     |false=>(match wu (S:=KT) K' kv,wu (S:=VT) V vv with
      |some kv',Z vv'=>K .undef (kZ id) (0|||kZ id) ((eP 0 h).set id (Z (.mp K' V (Cw kv' vv' q)))) nx
      |_,_=>U)) else U
    |_=>U)
   |_,_,_=>U
  |.mkf f caps=>match Sy e caps with|some l=>K (.qy f l) 0 0 h nx|none=>U
  |_=>U
def QR (q:η) (j:Int):Int:=q.getD j.toNat 0
def BX {T:Ty} (xss:Y (Y T.den)) (j:Int):Y T.den:=xss.getD j.toNat []
def zN {T:Ty} (xss:Y (Y T.den)) (j:Int) (xs:Y T.den):Y (Y T.den):=xss.set j.toNat xs
def stN:Ty->Nat
 |.st t=>stN t+1
 |_=>0
def isRr:aj Ty->Bool
 |some (.pr .bool (.pr _ (.sl _)))=>J
 |_=>af
def an9:ξ->Bool
 |[.slice U 0 0]=>J
 |_=>af
def aax:aj gi->Bool
 |some (.qf _ _ _)=>J
 |some (.zj _ _ _ _ _)=>J
 |_=>af
def JK (h:ba):aj TV->Bool
 |some (.sb _)=>J
 |some (.ql id _ _ _)|some (.I id)=>aax (h.get id)
 |_=>af
def aD1 (b9:TypeId->aj Ty) (e:iW) (h:ba):SI->Bool
 |.op (.load _ _ x)|.op (.store _ x _)|.op (.jz x)|.op (.jb _ x)|.op (.jf _ x _)=>JK h (fc e x)
 |.op (.app _ _ _ s _)=>JK h (fc e s)
 |.op (.zd ty _ _ _ _ _)=>isRr (b9 ty)
 |_=>af
def CE (b9:TypeId->aj Ty) (e:iW) (h:ba) (nx:Nat) (K:KO R):T5->aj R
 |.load sz ag x=>match fc e x with
  |some (.sb (.np id j s i off))=>(match h.get id with
   |some (.qf (.ir _ T) _ xss)=>if aB s T.size then chk (fO j (ah (α:=Y T.den) xss)) λ_=>chk (fO i (ah (BX (T:=T) xss j))) λ_=>
     (match su 40 T (aE _ (BX (T:=T) xss j) i) off sz ag with|some v=>K v (kZ id) 0 h nx|none=>U) else U
   |_=>U)
  |some (.ql id s j off)=>if (aB sz 1&& !ag)&&(aB s 1&&aB off 0) then (match h.get id with
   |some (.qf (.rr _ z) a A)=>chk (fO j (ah (α:=Int) A)) λ_=>K (.sb (.nr a j z (aL (QR A j)))) (kZ id) 0 h nx
   |_=>U) else U
  |_=>U
 |.store sz x v=>match fc e x,fc e v with
  |some (.ql id s j off),Z (.I r)=>if aB sz 1&&(aB s 1&&aB off 0) then (match h.get id,h.get r with
   |some (.qf (.rr ty z) a A),Z (.H _ p T xs)=>if aB z T.size then chk (fO j (ah (α:=Int) A)) λ_=>chk (p|| !(aB (ah xs) 0)) λ_=>K .undef (kZ id) (0|||kZ id) ((eP 0 h).set id (Z (.zj (.rr ty z) a A (j,0) (Z (r,J,ah xs))))) nx else U
   |_,_=>U) else U
  |_,_=>U
 |.jz x=>match fc e x with
  |some (.sb (.np id j s i off))=>K (.sb (.np id j s i off)) 0 0 h nx
  |_=>U
 |.jb off x=>match fc e x with
  |some (.sb (.np id j s i o))=>K (.sb (.np id j s i (o+off))) 0 0 h nx
  |_=>U
 |.jf sz x i=>match fc e x,fc e i with
  |some (.I id),Z (.f (.int _) j)=>(match e_ h id with
   |some (_,s,n)=>if aB s sz&&aax (h.get id) then chk (fO j n) λ_=>K (.ql id sz j 0) 0 0 h nx else U
   |none=>U)
  |some (.sb (.nr id j s n)),Z (.f (.int _) i)=>if aB s sz then chk (fO i n) λ_=>K (.sb (.np id j sz i 0)) 0 0 h nx else U
  |_,_=>U
 |.app ty sz bytes s x=>match fc e s,fc e x with
  |some (.sb (.nr id j s n)),Z y=>(match h.get id with
   |some (.qf (.ir ty' T) a xss)=>if aB s T.size&&(aB sz T.size&&ty==ty') then chk (fO j (ah (α:=Y T.den) xss)) λ_=>(match GA h (.sl T) y with
    |some (ys,m)=>if aF m id then U else chk (aB n (ah (BX (T:=T) xss j))&&bk (n+ah ys) bytes) λ_=>
      K (.I nx) (kZ id|||m) (kZ id|||kZ nx) ((h.set id (Z (.qf (.ir ty T) a (zN (T:=T) xss j [])))).set nx (Z (.H ty J T (BX (T:=T) xss j++ys)))) (nx+1)
    |none=>U) else U
   |_=>U)
  |_,_=>U
 |.zd ty sz bytes z l c=>match b9 ty,fc e l,fc e c with
  |some (.pr .bool (.pr q (.sl T))),Z (.f (.int _) a),Z (.f (.int _) b)=>if aB sz 1&&an9 z then
    chk (cN 0 a&&cN a b&&bk (aL b) bytes) λ_=>K (.I nx) 0 (kZ nx) ((h.set nx (Z (.qf (.rr ty T.size) (nx+1) (aA (aL a) (0:Int))))).set (nx+1) (Z (.qf (.ir (stN q) T) 0 (aA (aL a) ([]:Y T.den))))) (nx+2) else U
  |_,_,_=>U
 |_=>U
def opK (con:FuncId->aj cu) (b9:TypeId->aj Ty) (o:SI) (e:iW) (h:ba) (nx:Nat) (K:KO R):aj R:=match aD1 b9 e h o with
 |true=>(match o with|.op s=>CE b9 e h nx K s|_=>U)
 |false=>fh con b9 o e h nx K
def alb (e:iW) (g:aj (Nat×Bool)) (K:Bool->iW->aj R):aj R:=match g with
 |none=>K J e
 |some (t,want)=>match e.get t with
  |some (.f .bool b)=>(match want with
   |true=>aK b (K J (e.set t (Z (.f .bool J)))) (K af (e.set t (Z (.f .bool af))))
   |false=>aK b (K af (e.set t (Z (.f .bool J)))) (K J (e.set t (Z (.f .bool af)))))
  |some .undef=>K af e
  |_=>U
def Jo (e:iW) (d:aj Nat) (v:TV):iW:=match d with
 |none=>e
 |some d=>e.set d (Z v)
structure TS where
 e:iW
 h:ba
 nx:Nat
def Q4 (con:FuncId->aj cu) (b9:TypeId->aj Ty):Y pt->TS->Y Wp->(TS->Y Wp->aj R)->aj R
 |[],s,q,K=>K s q.reverse
 |o::r,s,q,K=>alb s.e o.guard λrun e=>match run with
  |true=>opK con b9 o.op e s.h s.nx λv rd A h nx=>if SD h v then Q4 con b9 r ⟨Jo e o.dst v,h,nx⟩ (⟨rd,A⟩::q) K else U
  |false=>Q4 con b9 r ⟨Jo e o.dst .undef,s.h,s.nx⟩ (⟨0,0⟩::q) K
inductive Adj where
 |nil (k:Nat) (ty:TypeId) (T:Ty)
 |zk (k:Nat) (off:Nat) (ty:TypeId) (T:Ty)
 |mpt (k:Nat) (K V:Ty)
 |pk (k:Nat) (off:Nat) (T:Ty)
 |qz (k:Nat) (off:Nat)
 |tak (k off:Nat)
mutual
def QX (id sz n:Nat):TV->TV
 |.qp i s m=>if aB i id&&aB s sz&&aB m n then .I id else .qp i s m
 |.agg l=>.agg (KA id sz n l)
 |.qd l=>.qd (KA id sz n l)
 |.qy g l=>.qy g (KA id sz n l)
 |.f T v=>.f T v
 |.zm T xs j h off=>.zm T xs j h off
 |.ql a b c d=>.ql a b c d
 |.K a b=>.K a b
 |.I a=>.I a
 |.zh a j=>.zh a j
 |.qn T xs=>.qn T xs
 |.sb s=>.sb s
 |.emp=>.emp
 |.nil=>.nil
 |.mp a=>.mp a
 |.undef=>.undef
 |.np=>.np
 |.qj=>.qj
def KA (id sz n:Nat):Y TV->Y TV
 |[]=>[]
 |x::r=>QX id sz n x::KA id sz n r
end
def Z9 (id sz n:Nat):gi->gi
 |.G ty l=>.G ty (KA id sz n l)
 |.H ty p T xs=>.H ty p T xs
 |.qw p s m=>.qw p s m
 |.mp K V q=>.mp K V q
 |.qf F a x=>.qf F a x
 |.zj F a x k p=>.zj F a x k p
def aDh (s:TS) (k off:Nat):aj (Nat×n!):=match s.e.get k with
 |some (.qp id sz n)=>Z (id,sz,n)
 |some (.agg l)=>(match l[off]? with|some (.qp id sz n)=>Z (id,sz,n)|_=>U)
 |some (.K a o)=>(match s.h.get a with
  |some (.G (Z _) l)=>(match l[o+off]? with|some (.qp id sz n)=>Z (id,sz,n)|_=>U)
  |_=>U)
 |_=>U
def pkS (s:TS) (T:Ty) (id sz n:Nat):aj TS:=match s.h.get id with
 |some (.G (Z ty) l)=>if aB sz T.size then (match Fk s.h T n l with
  |some (xs,m)=>if aF m id then U else Z ⟨PT.updI (λ_ v=>QX id sz n v) 1 0 s.e,(PT.updI (λ_ b=>Z9 id sz n b) 1 0 (eP m s.h)).set id (Z (.H ty af T xs)),s.nx⟩
  |none=>U) else U
 |_=>U
def asl:TV->Bool
 |.nil=>J
 |.emp=>J
 |_=>af
def aCn:aj TV->aj n!
 |some (.K id o)=>Z (id,o)
 |some (.qp id _ _)|some (.mp id)=>Z (id,0)
 |_=>U
def aD8 (s:TS) (k off:Nat):aj Nat:=match s.e.get k with
 |some (.mp id)|some (.I id)=>Z id
 |some (.K b o)=>(match s.h.get b with
  |some (.G (Z _) l)=>(match l[o+off]? with|some (.mp id)=>Z id|some (.I id)=>Z id|_=>U)
  |_=>U)
 |_=>U
def axt (s:TS) (o a r n:Nat) (j:Int) (ty:TypeId) (z:Nat) (q:η):aj TS:=match s.h.get a,s.h.get r with
 |some (.qf (.ir ty2 T) _ xss),Z (.H ty3 p S xs)=>(match wu (S:=.sl S) (.sl T) xs with
  |some xs'=>if ty3==ty2 then
    Z ⟨s.e,(((s.h.set o (Z (.qf (.rr ty z) s.nx (Eg (α:=Int) q j.toNat (aZ n))))).set a (Z (.qw J 0 0))).set r (Z (.qw p S.size (ah xs)))).set s.nx (Z (.qf (.ir ty2 T) 0 (zN (T:=T) xss j xs'))),s.nx+1⟩ else U
  |none=>U)
 |_,_=>U
def ana (F:xL):Bool:=aB (F.aid 1) 0
def rnG (a n:Nat):gi->gi
 |.qf F b x=>if !(ana F)&&aB b a then .qf F n x else .qf F b x
 |b=>b
def axv (s:TS) (a:Nat):aj TS:=match s.h.get a with
 |some (.qf F _ x)=>if ana F then Z ⟨s.e,((PT.updI (λ_ b=>rnG a s.nx b) 1 0 s.h).set a (Z (.qw J 0 0))).set s.nx (Z (.qf F 0 x)),s.nx+1⟩ else U
 |_=>U
def axr (s:TS) (o:Nat):aj TS:=match s.h.get o with
 |some (.zj (.rr ty z) a q A (Z (r,J,n)))=>axt s o a r n A.1 ty z q
 |some (.qf F a _)=>if ana F then U else axv s a
 |_=>U
def R1 (s:TS):Adj->aj TS
 |.nil k ty T=>match s.e.get k with
  |some v=>if asl v then Z ⟨s.e.set k (Z (.I s.nx)),s.h.set s.nx (Z (.H ty J T [])),s.nx+1⟩ else Z s
  |none=>U
 |.zk k off ty T=>match aCn (s.e.get k) with
  |some (id,o)=>(match s.h.get id with
   |some (.G cty l)=>(match l[o+off]? with
    |some v=>if asl v then Z ⟨s.e,(s.h.set s.nx (Z (.H ty J T []))).set id (Z (.G cty (splice l (o+off) [.I s.nx]))),s.nx+1⟩ else Z s
    |none=>U)
   |_=>U)
  |_=>U
 |.mpt k K V=>match s.e.get k with
  |some (.mp id)=>(match s.h.get id with
   |some (.mp K' V' q)=>(match mpE K' V' q&&aic K with
    |true=>Z ⟨s.e,s.h.set id (Z (.mp K V [])),s.nx⟩
    |false=>Z s)
   |_=>U)
  |_=>U
 |.pk k off T=>match aDh s k off with
  |some (id,sz,n)=>pkS s T id sz n
  |none=>U
 |.qz k off=>match s.e.get k with
  |some (.K b o)=>(match s.h.get b with
   |some (.G (Z cty) l)=>(match l[o+off]? with
    |some (.I id)=>(match s.h.get id with
     |some (.H ty p T xs)=>Z ⟨s.e,((s.h.set id (Z (.qw p T.size (l! xs)))).set s.nx (Z (.H ty p T xs))).set b (Z (.G (Z cty) (splice l (o+off) [.I s.nx]))),s.nx+1⟩
     |_=>U)
    |_=>U)
   |_=>U)
  |some (.I id)=>(match s.h.get id with
   |some (.H ty p T xs)=>Z ⟨s.e.set k (Z (.I s.nx)),(s.h.set id (Z (.qw p T.size (l! xs)))).set s.nx (Z (.H ty p T xs)),s.nx+1⟩
   |_=>U)
  |_=>U
 |.tak k off=>match aD8 s k off with
  |some o=>axr s o
  |none=>U
def ae1 (s:TS):Y Adj->aj TS
 |[]=>Z s
 |a::r=>match R1 s a with|some s'=>ae1 s' r|none=>U
structure Ann where
 zq:ι
 ks:ι
 t:Tm
 pre:List Adj
abbrev Ann.D (A:Ann):Type:=A.t.ty.den
mutual
def xu:TV->Bool
 |.f _ _=>J
 |.zm _ _ _ _ _=>J
 |.emp=>J
 |.nil=>J
 |.undef=>J
 |.np=>J
 |.qj=>J
 |.agg l|.qd l=>tq l
 |.ql _ _ _ _=>af
 |.K _ _=>af
 |.qp _ _ _=>af
 |.I _=>af
 |.zh _ _=>af
 |.qn _ _=>af
 |.sb _=>af
 |.mp _=>af
 |.qy _ _=>af
def tq:Y TV->Bool
 |[]=>J
 |x::r=>xu x&&tq r
end
def HM (am:Nat) (e:iW):ι->iW
 |[]=>PT.leaf
 |k::r=>match e.get k with|some v=>if xu v&& !(aF am k) then (HM am e r).set k (Z v) else HM am e r|none=>HM am e r
def pd (e:iW):ι->aj (Y TV)
 |[]=>Z []
 |k::r=>match e.get k with|some v=>(match pd e r with|some l=>Z (v::l)|none=>U)|none=>U
def ahx (e:iW):ι->Y TV->iW
 |k::r,v::l=>(ahx e r l).set k (Z v)
 |_,_=>e
def MX (am:Nat) (e0 e:iW):ι->Bool
 |[]=>J
 |k::r=>(match e0.get k with
  |some v=> !(xu v)||aF am k||(match e.get k with|some _=>J|none=>af)
  |none=>J)&&MX am e0 e r
def Rw (np:Nat) (A:Ann) (am:Nat) (q s:TS):aj A.D:=if di np (l! A.t.bs)&&MX am q.e s.e A.zq then (match ae1 s A.pre with
 |some s=>(match pd s.e A.ks with
  |some vs=>(match Gh np A.t vs s.h with
   |some ⟨x,_,_,_⟩=>Z x
   |none=>U)
  |none=>U)
 |none=>U) else U
def L4 (A:Ann) (am:Nat) (s:TS) (x:A.D):aj TS:=match Fn A.t x with
 |some (vs,h)=>if aB (l! vs) (l! A.ks) then Z ⟨ahx (HM am s.e A.zq) A.ks vs,h,l! A.t.bs⟩ else U
 |none=>U
inductive TC where
 |skip
 |jy (ops:List pt) (prs:List (Nat×Nat))
 |seq (a b:TC)
 |jx (A:Ann) (a b:TC)
 |cond (c:Nat) (a b:TC)
 |block (id:Nat) (b:TC)
 |zg (A:Ann) (id:Nat) (b:TC)
 |loop (A:Ann) (b:TC)
 |exit (id:Nat)
 |ret
 |defer (f:FuncId) (caps:List Operand) (t:Nat)
 |adj (l:List Adj) (c:TC)
 |split (k off lo n:Nat) (c:TC)
 |unl (n:Nat) (b:TC)
 |jq
def V5:Y pt->Nat->Nat
 |[],acc=>acc
 |o::r,acc=>V5 r (match o.dst with|some d=>acc|||kZ d|none=>acc)
def Q9:ι->Nat->Nat
 |[],acc=>acc
 |k::r,acc=>Q9 r (acc|||kZ k)
def qI:Y Adj->Nat->Nat
 |[],acc=>acc
 |.nil k _ _::r,acc=>qI r (acc|||kZ k)
 |.zk _ _ _ _::r,acc|.mpt _ _ _::r,acc|.pk _ _ _::r,acc=>qI r acc
 |.qz k _::r,acc=>qI r (acc|||kZ k)
 |.tak _ _::r,acc=>qI r acc
def TC.asg:TC->Nat->Nat
 |.jy ops _,acc=>V5 ops acc
 |.seq a b,acc=>b.asg (a.asg acc)
 |.jx A a b,acc=>b.asg (a.asg (Q9 A.ks acc))
 |.cond _ a b,acc=>b.asg (a.asg acc)
 |.block _ b,acc=>b.asg acc
 |.zg A _ b,acc|.loop A b,acc=>b.asg (Q9 A.ks acc)
 |.defer _ _ t,acc=>acc|||kZ t
 |.adj l c,acc=>c.asg (qI l acc)
 |.split _ _ _ _ c,acc=>c.asg acc
 |.unl _ b,acc=>b.asg acc
 |.skip,acc|.exit _,acc|.ret,acc|.jq,acc=>acc
inductive aqh where
 |j (A:Ann)
 |a (l:List Adj)
 |s (k off lo n:Nat)
 |u (n:Nat)
def Ng (H:PT aqh) (n:Nat) (c:TC):TC:=match H.get n with|some (.a l)=>.adj l c|some (.s k off q m)=>.split k off q m c|_=>c
def Ka (H:PT aqh):SC->Nat->TC×Nat
 |.skip,n=>(Ng H n .skip,n+1)
 |.jy o p,n=>(Ng H n (.jy o p),n+1)
 |.seq a b,n=>match Ka H a (n+1) with
  |(q,k)=>(match Ka H b k with|(b',I)=>((match H.get n with|some (.j A)=>.jx A q b'|_=>.seq q b'),I))
 |.cond c a b,n=>match Ka H a (n+1) with
  |(q,k)=>(match Ka H b k with|(b',I)=>(Ng H n (.cond c q b'),I))
 |.block id b,n=>match Ka H b (n+1) with|(b',k)=>((match H.get n with|some (.j A)=>.zg A id b'|_=>.block id b'),k)
 |.loop b,n=>match Ka H b (n+1) with|(b',k)=>((match H.get n with|some (.j A)=>.loop A b'|some (.u m)=>.unl m b'|_=>.jq),k)
 |.exit id,n=>(Ng H n (.exit id),n+1)
 |.ret,n=>(Ng H n .ret,n+1)
 |.defer f c t,n=>(.defer f c t,n+1)
 |.jq,n=>(.jq,n+1)
def anf (s:TS) (k off:Nat):aj (IntKind×Int):=match s.e.get k with
 |some (.f (.int kd) v)=>Z (kd,v)
 |some (.K a o)=>(match s.h.get a with
  |some (.G (Z _) l)=>(match l[o+off]? with|some (.f (.int kd) v)=>Z (kd,v)|_=>U)
  |_=>U)
 |_=>U
def aa1 (s:TS) (k off:Nat) (kd:IntKind) (v:Int):aj TS:=match s.e.get k with
 |some (.f (.int _) _)=>Z ⟨s.e.set k (Z (.f (.int kd) v)),s.h,s.nx⟩
 |some (.K a o)=>(match s.h.get a with
  |some (.G (Z ty) l)=>Z ⟨s.e,s.h.set a (Z (.G (Z ty) (splice l (o+off) [.f (.int kd) v]))),s.nx⟩
  |_=>U)
 |_=>U
def spl (v:Int) (f:Nat->aj R):Nat->Nat->aj R
 |_,0=>U
 |i,m+1=>aK (decide ((v:Int)=aZ i)) (f i) (spl v f (i+1) m)
def ara (f:TS->(Ex->TS->aj R)->aj R):Nat->TS->(Ex->TS->aj R)->aj R
 |0,_,_=>U
 |m+1,s,K=>f s λex s'=>match ex with
  |.normal=>ara f m s' K
  |ex=>K ex s'
def rC {R:Type} (np:Nat) (con:FuncId->aj cu) (b9:TypeId->aj Ty) (inert:FuncId->Bool):TC->TS->(Ex->TS->aj R)->aj R
 |.skip,s,K=>K .normal s
 |.jy ops prs,s,K=>Q4 con b9 ops s [] λs' I=>if Hq I prs then K .normal s' else U
 |.seq a b,s,K=>rC np con b9 inert a s λex s'=>match ex with|.normal=>rC np con b9 inert b s' K|ex=>K ex s'
 |.jx A a b,s,K=>jn (rC np con b9 inert a s λex s'=>match ex with
   |.normal=>aw (Rw np A (a.asg 0) s s') λx=>Z (.inr x)
   |ex=>aw (K ex s') λr=>Z (.inl r)) λx=>(match L4 A (a.asg 0) s x with|some s'=>rC np con b9 inert b s' K|none=>U)
 |.cond c a b,s,K=>match s.e.get c with
  |some (.f .bool t)=>aK t (rC np con b9 inert a s K) (rC np con b9 inert b s K)
  |some .qj=>IR (rC np con b9 inert a s K) (rC np con b9 inert b s K)
  |_=>U
 |.block id b,s,K=>rC np con b9 inert b s λex s'=>match ex with
  |.exit i=>if aB i id then K .normal s' else K (.exit i) s'
  |ex=>K ex s'
 |.zg A id b,s,K=>jn (rC np con b9 inert b s λex s'=>match ex with
   |.normal=>aw (Rw np A (b.asg 0) s s') λx=>Z (.inr x)
   |.exit i=>if aB i id then aw (Rw np A (b.asg 0) s s') λx=>Z (.inr x) else aw (K (.exit i) s') λr=>Z (.inl r)
   |.ret=>aw (K .ret s') λr=>Z (.inl r)) λx=>(match L4 A (b.asg 0) s x with|some s'=>K .normal s'|none=>U)
 |.loop A b,s,K=>aw (Rw np A (b.asg 0) s s) λx=>iter (λx=>match L4 A (b.asg 0) s x with
   |some s'=>rC np con b9 inert b s' λex s'=>(match ex with
    |.normal=>aw (Rw np A (b.asg 0) s s') λy=>Z (.inl y)
    |ex=>aw (K ex s') λr=>Z (.inr r))
   |none=>U) x
 |.exit id,s,K=>K (.exit id) s
 |.ret,s,K=>K .ret s
 |.defer f _ t,s,K=>if inert f then K .normal ⟨s.e.set t U,s.h,s.nx⟩ else U
 |.adj l c,s,K=>match ae1 s l with|some s'=>rC np con b9 inert c s' K|none=>U
 |.split k off q n c,s,K=>match anf s k off with
  |some (kd,v)=>spl v (λi=>match aa1 s k off kd (aZ i) with|some s'=>rC np con b9 inert c s' K|none=>U) q n
  |none=>U
 |.unl n b,s,K=>ara (λs K=>rC np con b9 inert b s K) n s K
 |.jq,_,_=>U
def Qj:Nat->Y TV->iW
 |_,[]=>PT.leaf
 |k,x::r=>(Qj (k+1) r).set k (Z x)
def rvT (s:TS):RV->aj TV
 |.tmp t=>s.e.get t
 |.cell a sz q=>match s.e.get a with
  |some (.K id off)=>(match s.h.get id with|some (.G (Z _) l)=>alr l off sz q|_=>U)
  |_=>U
def aa2 (s:TS):Y RV->aj (Y TV)
 |[]=>Z []
 |x::r=>match rvT s x with|some v=>(match aa2 s r with|some l=>Z (v::l)|none=>U)|none=>U
structure FT where
 pre:Tm
 post:Tm
 hints:PT aqh
def aD6 (D:FT):Y Adj:=match D.hints.get 60000 with
 |some (.a l)=>l
 |_=>[]
def alo (con:FuncId->aj cu) (b9:TypeId->aj Ty) (inert:FuncId->Bool) (F:aj SF) (D:FT) (x:D.pre.ty.den):aj D.post.ty.den:=
 match F with
 |some q=>(match Fn D.pre x with
  |some (args,h)=>if di (l! args) q.nt&&di (l! D.pre.bs) (l! D.post.bs) then
    rC (l! D.pre.bs) con b9 inert (Ka D.hints q.code 0).1 ⟨Qj 0 args,h,l! D.pre.bs⟩ λex s=>(match ex with
    |.exit _=>U
    |_=>(match ae1 s (aD6 D) with
     |some s=>(match aa2 s q.res with
      |some l=>(match Gh (l! D.pre.bs) D.post l s.h with
       |some ⟨y,_,_,_⟩=>(match Fn D.post y with|some _=>Z y|none=>U)
       |none=>U)
      |none=>U)
     |none=>U)) else U
  |none=>U)
 |none=>U
def dX {u:Value} (h:cC T O W (.f (.raw v)) u):u=v:=by
 cases h with
 |f h=>cases h;rfl
def uU (h:HF) (q:HF):eD h [] q=h:=by funext t;simp[eD]
def LO:∀{l:ξ},Qa l=J->∀v∈l,v.oneCell'=J
 |[],_,v,q=>by cases q
 |x::r,h,v,q=>by
  simp[Qa,ar]at h;rcases bc.1 q with rfl|q;exact h.1;exact LO h.2 v q
def ad5 (v:Value):cC T O W (Ki v) v:=by
 unfold Ki;split;rename_i vs;split;rename_i h1;refine cC.agg (vs:=vs.toList) b8 (λx q=>?_) (λj x v q A=>?_);obtain⟨u,I,rfl⟩:=cF.1 q;exact LO h1 u I;rw[bH,A]at q;cases q;exact .f (.raw _);exact .f (.raw _);exact .f (.raw _)
def tG {e:xY} {xs:Array Operand} (hrep:rA T O N W) (h:∀t,.tmp t∈xs->∀y,e.get t=Z y->cC T (tot O T N) W y (F.tmps.getD t undef)) {x:Operand} (I:x∈xs) (q:mN e x=Z y):cC T (tot O T N) W y (F.eval x):=by
 cases x with
 |tmp t=>exact h t I y q
 |const v=>cases q;exact ad5 v
 |func g=>
  cases q;exact cC.qy (vs:=[]) (g:=g) (cells:=[]) rfl b8
 |global g=>
  simp[mN]at q;cases A:G g with
  |none=>rw[A]at q;cases q
  |some cells=>rw[A]at q;cases q;exact .f (hrep.gl g cells A)
abbrev Wo (φ:PM) (E:Nat->Prop) (h':HF) (w:World) (a:Act) (e:xY) (o:Oper):Prop:=∀x y,x∈o.op.operands->mN e x=Z y->cC φ (tot E φ h') w y (a.eval x)
def im.reads {e:xY} {rd:ι} {A:HF}
 (hv:∀(φ:PM) (E:Nat->Prop) (h':HF) (w:World) (a:Act),(∀i∈rd,h' i=N i)->Wo φ E h' w a e d->rA φ E h' w->
   ∃v,(execOp a.eval d).run P w= .ok (.value v) w/\cC φ (tot E φ h') w y v):im P d e.get N ⟨y,rd,[],A,[]⟩:=by
 intro φ E h' w a h1 h2 h3 q h5;let⟨v,r,rel⟩:=hv φ E h' w a h1 (λx val hx I=>tG q h3 hx I) q;unfold Ec;rw[r];exact⟨v,φ,rfl,iX.refl _ _ _,λ_ _ N=>.inl N,q,rel⟩<;>rw[uU]
def dl {R:Cp} (h:rv y=Z R):R=⟨y,[],[],[],[]⟩:=by simp only[rv,al]at h;exact h.symm
section pure
variable {P:Program} {o:Oper} {e:xY} {h:iN} {nx:Nat} {R:Cp}
def aDv (q:o.op= .move s\/o.op= .assign s) (A:eE (.mv s) e h nx=Z R):im P o e.get h.get R.eff:=by
 simp[eE]at A;split at A;rename_i v I;rw[dl A];exact im.reads λφ E h' w a _ hop _=>⟨a.eval s,by unfold execOp;rcases q with q|q<;>rw[q]<;>rfl,hop s v (by rcases q with q|q<;>rw[q]<;>simp[Op.operands]) I⟩
 cases A
def azp {x y:Operand} (A:o.op= .pick s x y) (q:eE (.pick s x y) e h nx=Z R):im P o e.get h.get R.eff:=by
 simp[eE]at q;split at q;rename_i t hc;split at q;rename_i v I;rw[dl q];refine im.reads λφ E h' w a _ hop _=>?_
 have hcv:=dX (hop s _ (mn A) hc);refine ⟨a.eval (if t then x else y),?_,hop _ v (by rw[A];cases t<;>simp[Op.operands]) I⟩;unfold execOp;rw[A];simp[hcv];cases t<;>rfl;cases q;cases q
def azq (q:o.op= .nilCheck s) (A:eE (.jz s) e h nx=Z R):im P o e.get h.get R.eff:=by
 simp[eE]at A;split at A;rename_i id off hx;rw[dl A];refine im.reads λφ E h' w a _ hop _=>?_
 have h1:=hop s _ (mn q) hx;generalize I:a.eval s=z at h1;cases h1 with
 |K hφ=>exact⟨_,by unfold execOp;rw[q];simp only[I];rfl,.K hφ⟩
 rename_i cells off hx;rw[dl A];refine im.reads λφ E h' w a _ hop _=>?_
 have h1:=hop s _ (mn q) hx;generalize I:a.eval s=z at h1;cases h1 with
 |f h1=>
  have h2:=h1;cases h2 with
  |K _ _ b base us hO hb hcl hu hr=>exact⟨_,by unfold execOp;rw[q];simp only[I];rfl,.f h1⟩
 rename_i g cap hx;rw[dl A];refine im.reads λφ E h' w a _ hop _=>?_
 have h1:=hop s _ (mn q) hx;generalize I:a.eval s=z at h1;cases h1 with
 |qy hl hr=>exact⟨_,by unfold execOp;rw[q];simp only[I];rfl,.qy hl hr⟩
 cases A
variable {A:TypeId}
def aDt (t:o.op= .unOp .not A s) (q:eE (.not s) e h nx=Z R):im P o e.get h.get R.eff:=by
 simp[eE]at q;split at q;rename_i b I;rw[dl q];refine im.reads λφ E h' w a _ hop _=>?_
 have h1:=dX (hop s _ (mn t) I);exact⟨_,by unfold execOp;rw[t];simp[h1];rfl,.f (.raw _)⟩;cases q
def zH (k:IntKind) (n:Int):aU k n=k.wrap n:=by
 rw[Ei];unfold Nh;split;split;rename_i h;simp[cN,ar,bl]at h;have:kx .i64 n=if n%18446744073709551616≥9223372036854775808 then n%18446744073709551616-18446744073709551616 else n%18446744073709551616:=by
  simp[kx,IntKind.bits,IntKind.signed]
 rw[this];split<;>omega;rfl;split;rename_i h;simp[cN,ar,bl]at h;have:kx .u8 n=n%256:=by
  simp[kx,IntKind.bits,IntKind.signed]
 omega;rfl;rfl
def azx {x:TypeId} {k I:IntKind} (d:o.op= .convert x A s) (hs:P.underlying x=Z (.int I)) (hd:P.underlying A=Z (.int k)) (q:eE (.conv k s) e h nx=Z R):im P o e.get h.get R.eff:=by
 simp[eE]at q;split at q;rename_i kk n hx;rw[dl q];refine im.reads λφ E h' w a _ hop _=>?_
 have h1:=dX (hop s _ (mn d) hx);refine ⟨_,?_,.f (.raw _)⟩;unfold execOp;rw[d];simp[h1,convert,run_underlying hs,run_underlying hd,Conv.intToInt,zH];cases q
def V4 (a:ByteArray):a.toList=a.data.toList:=by
 first|exact ByteArray.toList_eq a|simp[ByteArray.toList]|rfl
def am2 {op:BinOp} {t:TypeId} {u r:Value} (q:xX op u v=Z r) (x y:Operand) (w:World):
 (do eqGuard op t x y u v;binOp op t u v:Sem Value).run P w= .ok r w:=by
 unfold xX at q;split at q;rename_i k a k' b;split at q;rename_i hk;have A:k=k':=cf;subst A;split at q<;>first|(cases q;simp[eqGuard,binOp,Op.intCmp,Op.intArith,Op.intBits,asq,zH,cN,hY];done)|(split at q<;>first|(cases q;done)|(rename_i I;cases q;simp[eqGuard,binOp,Op.intDiv,zH,show b≠0 from by simpa using I];done))|(split at q<;>first|(cases q;done)|(rename_i I;simp only[cN,bl]at I;cases q;simp[eqGuard,binOp,Op.shift,zH,show ¬b<0 by omega];done))|(cases q;done)
 cases q;rename_i a b;split at q<;>first|(cases q;simp[eqGuard,binOp,Op.stringOp,uS,V4];done)|(cases q;done)
 cases q
def aw5 {s:Sem Value} {w':World} (q:s.run P W= .ok v w'):(do let x<-s;pure (Next.value x):Sem Next).run P W= .ok (.value v) w':=by
 simp[q]
def ax8 {op:BinOp} {y:Operand} {I:TypeId} (t:o.op= .binOp op A s y I) (q:eE (.bin op s y) e h nx=Z R):im P o e.get h.get R.eff:=by
 simp[eE]at q;split at q;rename_i u v hx hy;split at q;rename_i r hr;rw[dl q];refine im.reads λφ E h' w a _ hop _=>?_
 have h1:=dX (hop s _ (mn t) hx);have h2:=dX (hop y _ (mn t) hy);refine ⟨r,?_,.f (.raw _)⟩;unfold execOp;rw[t];simp only[h1,h2];exact aw5 (am2 (P:=P) (t:=A) hr s y w);cases q;cases q
def ac6 (q:P.underlying A=Z .bool) (u v:Bool) (w:World):(Op.equal A (.bool u) (.bool v)).run P w= .ok (u==v) w:=by
 have key:∀d,(Op.equalIn (d+1) A (.bool u) (.bool v)).run P w= .ok (u==v) w:=λd=>by simp[Op.equalIn,run_underlying q]
 exact key 9999
def Yo {I:TypeId} (q:P.underlying A=Z (.slice I)) (t:aj Addr) (n c:Nat) (w:World):(Op.equal A (.slice t n c) (.slice U 0 0)).run P w= .ok t.isNone w:=by
 have key:∀d,(Op.equalIn (d+1) A (.slice t n c) (.slice U 0 0)).run P w= .ok t.isNone w:=λd=>by cases t<;>simp[Op.equalIn,run_underlying q]
 exact key 9999
def ax7 {neg:Bool} {op:BinOp} {y:Operand} {I:TypeId} (t:o.op= .binOp op A s y I) (hop:op=if neg then .neq else .eql) (hu:P.underlying A=Z .bool) (q:eE (.jr neg s y) e h nx=Z R):im P o e.get h.get R.eff:=by
 simp[eE]at q;split at q;rename_i u v hx hy;rw[dl q];refine im.reads λφ E h' w a _ hp _=>?_
 have h1:=dX (hp s _ (mn t) hx);have h2:=dX (hp y _ (mn t) hy);refine ⟨_,?_,.f (.raw _)⟩;unfold execOp;rw[t];simp[h1,h2];subst hop;cases neg<;>simp[eqGuard,binOp,ac6 hu];cases q
def ahl {neg:Bool} {op:BinOp} {y:Operand} {t' el:TypeId} (ho:o.op= .binOp op A s y t') (hop:op=if neg then .neq else .eql) (hy:y= .const (.slice U 0 0)) (hu:P.underlying A=Z (.slice el)) (ha:eE (.zt neg s) e h nx=Z R):im P o e.get h.get R.eff:=by
 have key:∀(v:Value) (w:World) (ρ:Operand->Value) (t:aj Addr) (n c:Nat),ρ s= .slice t n c->ρ y= .slice U 0 0->(execOp ρ o).run P w= .ok (.value (.bool (t.isNone !=neg))) w:=by
  intro v w ρ t n c h1 h2;unfold execOp;rw[ho];simp[h1,h2];subst hop;cases neg<;>simp[eqGuard,binOp,Yo hu]
 have hyv:∀a:Act,a.eval y= .slice U 0 0:=λa=>by rw[hy];rfl
 simp[eE]at ha;split at ha;rename_i id sz n q;rw[dl ha];refine im.reads λφ E h' w a _ hp _=>?_
 have h1:=hp s _ (mn ho) q;generalize hz:a.eval s=z at h1;cases h1 with
 |I hφ hn hc hs=>exact⟨_,key (.bool J) w a.eval _ _ _ hz (hyv a),by simpa[raw] using cC.f (.raw _)⟩
 rename_i id off n q;rw[dl ha];refine im.reads λφ E h' w a _ hp _=>?_
 have h1:=hp s _ (mn ho) q;generalize hz:a.eval s=z at h1;cases h1 with
 |sl hφ hn hc=>exact⟨_,key (.bool J) w a.eval _ _ _ hz (hyv a),by simpa[raw] using cC.f (.raw _)⟩
 rename_i cells n q;rw[dl ha];refine im.reads λφ E h' w a _ hp _=>?_
 have h1:=hp s _ (mn ho) q;generalize hz:a.eval s=z at h1;cases h1 with
 |f h1=>
  cases h1 with
  |sl=>exact⟨_,key (.bool J) w a.eval _ _ _ hz (hyv a),by simpa[raw] using cC.f (.raw _)⟩
 rename_i cells q;rw[dl ha];refine im.reads λφ E h' w a _ hp _=>?_
 have h1:=hp s _ (mn ho) q;generalize hz:a.eval s=z at h1;cases h1 with
 |f h1=>
  cases h1 with
  |_=>exact⟨_,key (.bool J) w a.eval _ _ _ hz (hyv a),.qj⟩
 rename_i q;rw[dl ha];refine im.reads λφ E h' w a _ hp _=>?_
 have h1:=hp s _ (mn ho) q;generalize hz:a.eval s=z at h1;cases h1 with
 |emp=>exact⟨_,key (.bool J) w a.eval _ _ _ hz (hyv a),.qj⟩
 rename_i v q;let⟨hv,ha⟩:=dO ha;rw[dl ha];refine im.reads λφ E h' w a _ hp _=>?_
 have h1:=dX (hp s _ (mn ho) q);unfold Ez at hv;split at hv;exact⟨_,key (.bool J) w a.eval _ _ _ h1 (hyv a),by simpa[raw] using cC.f (.raw _)⟩;cases hv;cases ha
def gF (q:gD P A=Z i) (w:World):(sizeOf A).run P w= .ok i w:=by
 unfold gD at q;cases hi:P.info? A with
 |none=>rw[hi]at q;cases q
 |some sz=>rw[hi]at q;simp at q;simp[sizeOf,typeInfo,program,hi,sK,q]
def WS {t:Bool} (q:IY P A=Z t) (w:World):(isAgg A).run P w= .ok t w:=by
 unfold IY at q;cases hi:P.underlying A with
 |none=>rw[hi]at q;cases q
 |some d=>
  rw[hi]at q;simp[cj,al]at q;rw[<- q];simp[isAgg,fA,run_underlying hi,cI];cases d<;>rfl
def jL (b off i:Nat):(⟨b,off,U⟩:Addr).add i=⟨b,off+i,U⟩:=by
 unfold Addr.add;split<;>simp_all
def WR {q:Array Field} {f:Field} (s:P.underlying A=Z (.struct q)) (hf:q[i]? =Z f) (I:gD P f.type=Z m) (h0:m≠0) (w:World) (b k:Nat):
 (Instr.fieldAt A (.pointer (Z ⟨b,k,U⟩)) i).run P w= .ok (.pointer (Z ⟨b,k+f.offset,U⟩)) w:=by
 have h1:=gF I w;simp[Instr.fieldAt,run_underlying s,hf,QL,fieldPlace,h1,h0,jL]
def aE3 {fs:Array Field} {f:Field} {x:Operand} (ho:o.op= .fieldAddr A x i) (hu:P.underlying A=Z (.struct fs)) (hf:fs[i]? =Z f) (hs:gD P f.type=Z m) (h0:m≠0) (q:eE (.jb f.offset x) e h nx=Z R):im P o e.get h.get R.eff:=by
 have key:∀(w:World) (ρ:Operand->Value) (b k:Nat),ρ x= .pointer (Z ⟨b,k,U⟩)->(execOp ρ o).run P w= .ok (.value (.pointer (Z ⟨b,k+f.offset,U⟩))) w:=by
  intro w ρ b k h1;unfold execOp;rw[ho];simp only[h1];exact aw5 (WR hu hf hs h0 w b k)
 simp[eE]at q;split at q;rename_i id off I;rw[dl q];refine im.reads λφ E h' w a _ hp _=>?_
 have h1:=hp x _ (mn ho) I;generalize s:a.eval x=z at h1;cases h1 with
 |K hφ=>exact⟨_,key w a.eval _ _ s,.K hφ⟩
 rename_i cells off I;rw[dl q];refine im.reads λφ E h' w a _ hp _=>?_
 have h1:=hp x _ (mn ho) I;generalize s:a.eval x=z at h1;cases h1 with
 |f h1=>
  cases h1 with
  |K _ _ b base us hO hb hcl hu hr=>
   refine ⟨_,key w a.eval _ _ s,.f ?_⟩;rw[mw];exact .K cells _ b base us hO hb hcl hu hr
 cases q
def OW {q:TypeId} {y:Operand} {off n c:Nat} {k:IntKind} {sz:Int} {ρ:Operand->Value} (ho:o.op= .indexAddr A s y) (hu:P.underlying A=Z (.slice q)) (hs:gD P q=Z i) (I:ρ s= .slice (Z ⟨m,off,U⟩) n c) (t:ρ y= .int k sz) (h0:0<=sz) (h1:sz<n):
 (execOp ρ o).run P W= .ok (.value (.pointer (Z ⟨m,off+sz.toNat*i,U⟩))) W:=by
 have h2:=gF hs W;unfold execOp;rw[ho];simp[I,t,Instr.indexAt,asIntOf,run_underlying hu,h2,h0,h1,jL]
def aE1 {el:TypeId} {y:Operand} (ho:o.op= .indexAddr A s y) (hu:P.underlying A=Z (.slice el)) (hs:gD P el=Z i) (q:eE (.jf i s y) e h nx=Z R):im P o e.get h.get R.eff:=by
 simp[eE]at q;split at q;rename_i v k j hx hy;have hyv:∀{φ:PM} {E:Nat->Prop} {h':HF} {w:World} {a:Act},Wo φ E h' w a e o->a.eval y= .int k j:=λhp=>dX (hp y _ (mn ho) hy)
 split at q;split at q;rename_i id sz' n hc;simp[cN,hY,ar,bl,dz]at hc;obtain⟨⟨rfl,h0⟩,h1⟩:=hc;rw[dl q];refine im.reads λφ E h' w a _ hp _=>?_
 have t:=hp s _ (mn ho) hx;generalize hz:a.eval s=z at t;cases t with
 |I hφ hn hc' hsh=>
  refine ⟨_,OW ho hu hs hz (hyv hp) h0 h1,?_⟩;rw[bV];exact .K hφ
 cases q;split at q;rename_i id off n hc;simp[cN,hY,ar,bl]at hc;let⟨h0,h1⟩:=hc;rw[dl q];refine im.reads λφ E h' w a _ hp _=>?_
 have t:=hp s _ (mn ho) hx;generalize hz:a.eval s=z at t;cases t with
 |sl hφ hn hc'=>exact⟨_,OW ho hu hs hz (hyv hp) h0 h1,.K hφ⟩
 cases q;split at q;rename_i cells n hc;simp[cN,hY,ar,bl]at hc;let⟨h0,h1⟩:=hc;rw[dl q];refine im.reads λφ E h' w a _ hp _=>?_
 have t:=hp s _ (mn ho) hx;generalize hz:a.eval s=z at t;cases t with
 |f t=>
  cases t with
  |nil=>omega
  |sl _ _ c b base us hn hc' hO hb hcl hu' hr'=>exact⟨_,OW ho hu hs hz (hyv hp) h0 h1,.f (.K cells _ b base us hO hb hcl hu' hr')⟩
 cases q;cases q;cases q
def azv {el:TypeId} {y:Operand} (I:o.op= .indexAddr A s y) (hu:P.underlying A=Z (.array i el)) (hs:gD P el=Z m) (q:eE (.jk i m s y) e h nx=Z R):im P o e.get h.get R.eff:=by
 have key:∀(w:World) (ρ:Operand->Value) (b off:Nat) (k:IntKind) (n:Int),ρ s= .pointer (Z ⟨b,off,U⟩)->ρ y= .int k n->0<=n->n<i->(execOp ρ o).run P w= .ok (.value (.pointer (Z ⟨b,off+n.toNat*m,U⟩))) w:=by
  intro w ρ b off k n h1 h2 h3 h4;have h5:=gF hs w;unfold execOp;rw[I];simp[h1,h2,Instr.indexAt,asIntOf,run_underlying hu,h5,h3,h4,jL,QL]
 simp[eE]at q;split at q;rename_i v k j hx hy;let⟨hc,q⟩:=dO q;simp[cN,hY,ar,bl]at hc;let⟨h0,h1⟩:=hc;split at q;rw[dl q];refine im.reads λφ E h' w a _ hp _=>?_
 have t:=hp s _ (mn I) hx;have hyv:=dX (hp y _ (mn I) hy);generalize hz:a.eval s=z at t;cases t with
 |K hφ=>exact⟨_,key w a.eval _ _ k j hz hyv h0 h1,.K hφ⟩
 rw[dl q];refine im.reads λφ E h' w a _ hp _=>?_
 have t:=hp s _ (mn I) hx;have hyv:=dX (hp y _ (mn I) hy);generalize hz:a.eval s=z at t;cases t with
 |f t=>
  cases t with
  |K _ _ b base us hO hb hcl hu' hr'=>
   refine ⟨_,key w a.eval _ _ k j hz hyv h0 h1,.f ?_⟩;rw[mw];exact .K _ _ b base us hO hb hcl hu' hr'
 cases q;cases q
def aE4 (I:o.op= .extract s i) (q:eE (.ext s i) e h nx=Z R):im P o e.get h.get R.eff:=by
 simp[eE]at q;split at q;rename_i l hx;split at q;rename_i v hv;rw[dl q];refine im.reads λφ E h' w a _ hp _=>?_
 have A:=hp s _ (mn I) hx;generalize hz:a.eval s=z at A;cases A with
 |@qd _ vs hl hrr=>
  have hlt:i<l! vs:=cf;refine ⟨vs[i],?_,hrr i v _ hv (aI hlt)⟩;unfold execOp;rw[I];simp[hz,Instr.extract,hlt]
 cases q;cases q
def aDz {y:Operand} {I:Array TypeId} (A:o.op= .call {callee:=.builtin .max,args:=#[s,y],argTypes:=I}) (q:eE (.max s y) e h nx=Z R):im P o e.get h.get R.eff:=by
 simp[eE]at q;split at q;rename_i k a b k' hx hy;rw[dl q];refine im.reads λφ E h' w a _ hp _=>?_
 have h1:=dX (hp s _ (mn A) hx);have h2:=dX (hp y _ (mn A) hy);refine ⟨_,?_,.f (.raw _)⟩;unfold execOp;rw[A];simp[resolve,invoke,builtin,Builtin.max_,Builtin.max2,h1,h2,hY];cases q
def aDy {y:Operand} {I:Array TypeId} (A:o.op= .call {callee:=.builtin .min,args:=#[s,y],argTypes:=I}) (q:eE (.min s y) e h nx=Z R):im P o e.get h.get R.eff:=by
 simp[eE]at q;split at q;rename_i k a b k' hx hy;rw[dl q];refine im.reads λφ E h' w a _ hp _=>?_
 have h1:=dX (hp s _ (mn A) hx);have h2:=dX (hp y _ (mn A) hy);refine ⟨_,?_,.f (.raw _)⟩;unfold execOp;rw[A];simp[resolve,invoke,builtin,Builtin.min_,Builtin.min2,h1,h2,hY];cases q
def aDu {k:IntKind} (I:o.op= .unOp .neg A s) (t:eE (.bin .sub (.const (.int k 0)) s) e h nx=Z R):im P o e.get h.get R.eff:=by
 simp[eE,mN,Ki]at t;split at t;rename_i u v hu hx;cases hu;split at t;rename_i r q;rw[dl t];refine im.reads λφ E h' w a _ hop _=>?_
 have h1:=dX (hop s _ (mn I) hx);refine ⟨r,?_,.f (.raw _)⟩;unfold execOp;rw[I];cases v<;>simp only[xX]at q<;>try (cases q;done)
 let⟨hk,q⟩:=dO q;have hk:=eq_of_beq hk;subst hk;simp[al]at q;subst q;simp[h1,Op.unary,Op.intArith,zH];cases t;cases t
def azo {i:Operand} (t:o.op= .index A s i) (hu:P.underlying A=Z .string) (q:eE (.jv s i) e h nx=Z R):im P o e.get h.get R.eff:=by
 simp only[eE]at q;split at q;rename_i x k j hx hi;let⟨h0,q⟩:=dO q;simp[cN,bl]at h0;split at q;rename_i b I;rw[dl q];refine im.reads λφ E h' w a _ hop _=>?_
 have h1:=dX (hop s _ (mn t) hx);have h2:=dX (hop i _ (mn t) hi);refine ⟨_,?_,.f (.raw _)⟩;have hs:x[j.toNat]? =Z b:=by
  rw[eV]at I;let⟨hl,he⟩:=c9.1 I;exact getElem?_pos x j.toNat hl▸eZ Z he
 unfold execOp;rw[t];simp[Instr.index,run_underlying hu,h1,h2,asIntOf,h0,hs];cases q;cases q
variable {f:FuncId}
def aDx {caps:Array Operand} (ho:o.op= .makeFunc (.func f) #[] caps) (A:eE (.mkf f caps.toList) e h nx=Z R):im P o e.get h.get R.eff:=by
 simp[eE]at A;split at A;rename_i l hl;rw[dl A];refine im.reads λφ E h' w a _ hp _=>?_
 refine ⟨_,by unfold execOp;rw[ho];rfl,?_⟩;have key:∀(xs:Y Operand) (q:Y AV),(∀x∈xs,x∈o.op.operands)->evs e xs=Z q->l! q=l! xs/\∀(j:Nat) x v,q[j]? =Z x->(xs.map a.eval)[j]? =Z v->cC φ (tot E φ h') w x v:=by
  intro xs;induction xs with
  |nil=>intro q _ h;cases h;exact⟨rfl,λj x v I=>by simp at I⟩
  |cons x xs ih=>
   intro q hm h;simp[evs]at h
   grind
 let⟨h1,h2⟩:=key caps.toList l (λx I=>by rw[ho];simpa[Op.operands] using I) hl;have h3:(caps.map a.eval)=(caps.toList.map a.eval).toArray:=cf;have h4:(#[]:Array Operand).map a.eval=#[]:=b8;rw[h4,h3];exact .qy cf h2;cases A
end pure
section
variable {P:Program} {o:Oper} {e:xY} {h:iN} {nx:Nat} {R:Cp}
def aer {α:Type} {l cs:Y α} (h:i+m<=l! l) (he:(l.drop i).take m=cs):l! cs=m/\∀(j:Nat) x,cs[j]? =Z x->l[i+j]? =Z x:=cf
def Bt (f:Nat->Value) (n j:Nat) (v:Value) (h:((dV n).map f)[j]? =Z v):v=f j/\j<n:=cf
def BR (φ:PM) (O:Nat->Prop) (w:World) (c:BC) (f:Nat->aj Value):Prop:=∀j x,c.get j=Z x->x.isCell=J/\∃v,f j=Z v/\cC φ O w x v
def aeq {c:BC} (q:c.sub? i m b=Z y) {f:Nat->aj Value} (hc:BR T O W c f):
 ∃cs:ξ,l! cs=m/\(∀(j:Nat) v,cs[j]? =Z v->f (i+j)=Z v)/\(b=af->m=1)/\cC T O W y (if b then .agg cs.toArray else cs.getD 0 undef):=by
 cases b with
 |false=>
  simp[BC.sub?]at q;split at q;let⟨h0,v,h1,h2⟩:=hc i y q;exact⟨[v],rfl,λj u hu=>by cases j with|zero=>simp at hu;subst hu;exact h1|succ j=>simp at hu,λ_=>rfl,by simpa using h2⟩;cases q
 |true=>
  have fin:∀(g:Nat->aj AV),(∀j,j<m->∃x,g j=Z x/\c.get (i+j)=Z x)->
   ∃cs:ξ,l! cs=m/\(∀(j:Nat) v,cs[j]? =Z v->f (i+j)=Z v)/\∀(j:Nat) x v,g j=Z x->cs[j]? =Z v->cC T O W x v:=by
   intro g A;refine ⟨(dV m).map λj=>(f (i+j)).getD undef,b8,λj v hv=>?_,λj x v I hv=>?_⟩;obtain⟨rfl,hj⟩:=Bt _ _ _ _ hv;let⟨x,_,h2⟩:=A j hj;let⟨_,v,h3,_⟩:=hc _ _ h2;rw[h3];rfl;obtain⟨rfl,hj⟩:=Bt _ _ _ _ hv;let⟨x',h1,h2⟩:=A j hj;rw[I]at h1;cases h1;let⟨_,v,h3,h4⟩:=hc _ _ h2;rw[h3];exact h4
  simp only[BC.sub?]at q;split at q;rename_i l;let⟨hle,q⟩:=dO q;cases q;let⟨hl,A⟩:=aer (aY hle) (rfl:(l.drop i).take m=_);let⟨cs,h1,h2,h3⟩:=fin (λj=>(((l.drop i).take m)[j]?).map AV.f) (λj hj=>by
   have hlt:j<l! ((l.drop i).take m):=M;refine ⟨.f ((l.drop i).take m)[j],by simp[aI hlt,cj],?_⟩;simp[BC.get,A j _ (aI hlt),cj])
  refine ⟨cs,h1,h2,nofun,.f (.agg _ _ M ?_ ?_)⟩;intro x I;let⟨j,hj⟩:=eC I;exact (hc (i+j) (.f x) (by simp[BC.get,A j x hj,cj])).1;intro j x v I hv;have:=h3 j (.f x) v cf hv;cases this with
  |f h=>exact h
  rename_i l;let⟨hle,q⟩:=dO q;simp[al]at q;subst q;let⟨hl,A⟩:=aer (aY hle) (rfl:(l.drop i).take m=_);let⟨cs,h1,h2,h3⟩:=fin (λj=>(((l.drop i).take m)[j]?)) (λj hj=>by
   have hlt:j<l! ((l.drop i).take m):=M;exact⟨_,aI hlt,A j _ (aI hlt)⟩)
  refine ⟨cs,h1,h2,nofun,.agg M ?_ M⟩;intro x I;let⟨j,hj⟩:=eC I;exact (hc (i+j) x (A j x hj)).1;cases q
variable {A:TypeId}
def Uy (hs:gD P A=Z i) (ha:IY P A=Z b) (w:World) (q off:Nat) (cs:ξ) (t:l! cs=i) (I:∀(j:Nat) v,cs[j]? =Z v->w.cell? ⟨q,off+j,U⟩=Z v) (h1:b=af->i=1):
 (loadVar A ⟨q,off,U⟩).run P w= .ok (if b then .agg cs.toArray else cs.getD 0 undef) w:=by
 unfold loadVar;simp[fA,WS ha w,cI];cases b with
 |true=>
  simp[bC,fA,gF hs w,cI];rw[<- t,run_loadCells_list (P:=P) w ⟨q,off,U⟩ cs (λj v hv=>by rw[jL];exact I j v hv)];rfl
 |false=>
  have h1:=h1 rfl;cases cs with
  |nil=>simp at t;omega
  |cons v r=>
   have:=I 0 v rfl;simp_all
def N3 {φ:PM} {w:World} {q:Bool} (I:gD P A=Z i) (ha:IY P A=Z q) {c:BC} {b base:Nat} (t:c.sub? m i q=Z y)
 (hc:BR φ O w c λj=>w.cell? ⟨b,base+j,U⟩):∃v,(loadVar A ⟨b,base+m,U⟩).run P w= .ok v w/\cC φ O w y v:=by
 let⟨cs,h1,h2,h3,h4⟩:=aeq t hc;exact⟨_,Uy I ha w b (base+m) cs h1 (λj v hj=>by rw[mw];exact h2 j v hj) h3,h4⟩
def Zl (hrep:rA T O N W) (I:N i=Z z) (hk:T i=Z m) (A:z.c.isCells=J):BR T (tot O T N) W z.c λj=>W.cell? ⟨m,0+j,U⟩:=by
 let⟨k',h1,_,h2⟩:=hrep.at_ i z I;rw[hk]at h1;cases h1;let⟨arr,h3,h4,h5⟩:=h2.cells A;intro j x q;let⟨c1,v,c2,c3⟩:=h5 j x q;exact⟨c1,v,by simp[Ud,h3,c2],c3⟩
def adm {cells:Y FV} {us:Nat->Value} (hcl:∀x∈cells,x.isCell=J) (hu:∀j,j<l! cells->W.cell? ⟨i,m+j,U⟩=Z (us j)) (hr:∀(j:Nat) x,cells[j]? =Z x->oz O W x (us j)):
 BR T O W (.fz cells) λj=>W.cell? ⟨i,m+j,U⟩:=by
 intro j y A;simp only[BC.get]at A;cases I:cells[j]? with
 |none=>rw[I]at A;cases A
 |some q=>
  rw[I]at A;simp at A;subst A;have hj:j<l! cells:=(bG.1 I).1;exact⟨hcl q (bh I),us j,hu j hj,.f (hr j q I)⟩
def Wx {c:BC} (h:c.sub? i m b=Z y):c.isCells=J:=by
 cases c with
 |fz|mx=>rfl
 |_=>cases b<;>simp[BC.sub?,BC.get]at h<;>(try split at h)<;>cases h
def Ql (hs:gD P A=Z i) (hag:IY P A=Z b) (q:Ax h i b y=Z R):
 R.wr=[]/\R.nw=[]/\R.N=[]/\∀(φ:PM) (E:Nat->Prop) (h':HF) (w:World) (I:Value),(∀sz∈R.rd,h' sz=h.get sz)->rA φ E h' w->cC φ (tot E φ h') w y I->
  ∃ad v,I= .pointer (Z ad)/\(loadVar A ad).run P w= .ok v w/\cC φ (tot E φ h') w R.val v:=by
 unfold Ax at q;split at q;rename_i id off;split at q;rename_i ag hb;split at q;rename_i v hv;cases q;refine ⟨rfl,rfl,rfl,λφ E h' w I hrd hrep t=>?_⟩;have hh:h' id=Z ag:=cf;cases t with
 |@K _ _ k hφ=>
  let⟨u,h1,h2⟩:=N3 hs hag (w:=w) (b:=k) (base:=0) hv (Zl hrep hh hφ (Wx hv))
  grind
 cases q;cases q;rename_i cells off;split at q;rename_i v hv;rw[dl q];refine ⟨rfl,rfl,rfl,λφ E h' w I hrd hrep t=>?_⟩;cases t with
 |f t=>
  cases t with
  |K _ _ ag base us hO hb hcl hu t=>
   let⟨u,h1,h2⟩:=N3 (φ:=φ) (O:=tot E φ h') hs hag (w:=w) (b:=ag) (base:=base) hv (adm hcl hu t);exact⟨_,u,rfl,h1,h2⟩
 cases q;cases q
def azs (t:o.op= .load A s) (hs:gD P A=Z i) (hag:IY P A=Z b) (q:eE (.load i b s) e h nx=Z R):im P o e.get h.get R.eff:=by
 simp[eE]at q;split at q;rename_i p hx;let⟨h1,h2,h3,h4⟩:=Ql hs hag q;let⟨val,rd,wr,nw,N⟩:=R;subst h1 h3;refine im.reads λφ E h' w a hrd hp hrep=>?_
 let⟨ad,v,h5,h6,h7⟩:=h4 φ E h' w _ hrd hrep (hp s _ (mn t) hx);refine ⟨v,?_,h7⟩;unfold execOp;rw[t];simp[Instr.loadAt,h5,QL,h6];cases q
variable {k:ξ}
def af8 {φ:PM} (I:gD P A=Z i) (hag:IY P A=Z b) {c:BC} (t:c.sub? m i b=Z y) 
 (hc:BR φ O W c λj=>k[j]?):∃v,(part A k.toArray m).run P W= .ok v W/\cC φ O W y v:=by
 let⟨cs,h1,h2,h3,h4⟩:=aeq t hc;refine ⟨_,?_,h4⟩;unfold part;simp only[fA,WS hag W,cI];cases b with
 |true=>
  simp only[bC,fA,gF I W,cI];have:k.toArray.extract m (m+i)=cs.toArray:=by
   apply Array.ext';apply List.ext_getElem?
   grind
  rw[this];rfl
 |false=>
  have h5:=h3 rfl;cases cs with
  |nil=>simp at h1;omega
  |cons v r=>
   have:=h2 0 v rfl;simp_all
variable {C:Y AV}
def Zm (I:l! k=l! C) (hcl:∀x∈C,x.isCell=J) (A:∀(j:Nat) x v,C[j]? =Z x->k[j]? =Z v->cC T O W x v):BR T O W (.mx C) λj=>k[j]? :=by
 intro j x q;simp[BC.get]at q;have hj:j<l! k:=cf;exact⟨hcl x (bh q),k[j],aI hj,A j x _ q (aI hj)⟩
def VY {l:Y FV} (hl:l! k=l! l) (hcl:∀x∈l,x.isCell=J) (hr:∀(j:Nat) x v,l[j]? =Z x->k[j]? =Z v->oz O W x v):BR T O W (.fz l) λj=>k[j]? :=by
 intro j x A;simp only[BC.get]at A;cases I:l[j]? with
 |none=>rw[I]at A;cases A
 |some q=>
  rw[I]at A;simp at A;subst A;have hj:j<l! k:=cf;exact⟨hcl q (bh I),k[j],aI hj,.f (hr j q _ I (aI hj))⟩
def Qn (hs:gD P A=Z i) (hag:IY P A=Z b) (q:cC T O W y v) {val:AV}
 (t:(∃l,y= .agg l/\(BC.mx l).sub? m i b=Z val)\/(∃l,y= .f (.agg l)/\(BC.fz l).sub? m i b=Z val)):∃cs z,v= .agg cs/\(part A cs m).run P W= .ok z W/\cC T O W val z:=by
 rcases t with ⟨l,rfl,t⟩|⟨l,rfl,t⟩;cases q with
 |agg I hcl q=>
  let⟨z,h1,h2⟩:=af8 hs hag t (Zm I hcl q);exact⟨_,z,rfl,h1,h2⟩
 cases q with
 |f q=>
  cases q with
  |agg _ vs I hcl q=>
   let⟨z,h1,h2⟩:=af8 (φ:=T) hs hag t (VY I hcl q);exact⟨_,z,rfl,h1,h2⟩
def aE2 {I:Array Field} {f:Field} {x:Operand} (s:o.op= .field A x i) (hu:P.underlying A=Z (.struct I)) (hf:I[i]? =Z f) (hs:gD P f.type=Z m) (hag:IY P f.type=Z b) (ha:eE (.fld f.offset m b x) e h nx=Z R):im P o e.get h.get R.eff:=by
 have fin:∀(y:AV) (val:AV),mN e x=Z y->((∃l,y= .agg l/\(BC.mx l).sub? f.offset m b=Z val)\/(∃l,y= .f (.agg l)/\(BC.fz l).sub? f.offset m b=Z val))->rv val=Z R->im P o e.get h.get R.eff:=by
  intro y val hx hv hR;rw[dl hR];refine im.reads λφ E h' w a _ hp _=>?_
  let⟨cs,v,h1,h2,h3⟩:=Qn hs hag (hp x _ (mn s) hx) hv;refine ⟨v,?_,h3⟩;unfold execOp;rw[s];simp[Instr.field,run_underlying hu,hf,h1,asAgg,h2]
 simp[eE]at ha
 grind
def aE0 {el:TypeId} {t:Bool} {y:Operand} (I:o.op= .index A s y) (hu:P.underlying A=Z (.array i el)) (hs:gD P el=Z m) (hag:IY P el=Z t) (q:eE (.idx i m t s y) e h nx=Z R):im P o e.get h.get R.eff:=by
 simp[eE]at q;split at q;rename_i v0 k j hx hy;let⟨hc,q⟩:=dO q;simp[cN,hY,ar,bl]at hc;let⟨h0,h1⟩:=hc;have fin:∀(val:AV),((∃l,v0= .agg l/\(BC.mx l).sub? (j.toNat*m) m t=Z val)\/(∃l,v0= .f (.agg l)/\(BC.fz l).sub? (j.toNat*m) m t=Z val))->rv val=Z R->im P o e.get h.get R.eff:=by
  intro val hv hR;rw[dl hR];refine im.reads λφ E h' w a _ hp _=>?_
  have hyv:=dX (hp y _ (mn I) hy);let⟨cs,v,h3,h4,h5⟩:=Qn hs hag (hp s _ (mn I) hx) hv;refine ⟨v,?_,h5⟩;have h6:=gF hs w;unfold execOp;rw[I];simp[Instr.index,run_underlying hu,hyv,asIntOf,h3,h0,h1,h6,h4]
 grind
 cases q
def azu {el:TypeId} (ho:o.op= .call {callee:=.builtin .len,args:=#[s],argTypes:=#[A]}) (hu:P.underlying A=Z (.slice el)) (I:eE (.len s) e h nx=Z R):im P o e.get h.get R.eff:=by
 simp[eE]at I;split at I;rename_i y hx;split at I;rename_i n hn;rw[dl I];refine im.reads λφ E h' w a _ hp _=>?_
 have q:=hp s _ (mn ho) hx;refine ⟨_,?_,.f (.raw _)⟩;have hz:∃t c,a.eval s= .slice t n c:=by
  generalize a.eval s=z at q;unfold AV.slen at hn;split at hn<;>try (simp [al]at hn;subst hn)
  cases q with
  |f q=>cases q with
   |nil|sl=>exact⟨_,_,rfl⟩
  cases dX q;exact⟨_,_,rfl⟩;cases q;exact⟨_,_,rfl⟩;cases q;exact⟨_,_,rfl⟩;cases q;exact⟨_,_,rfl⟩;cases hn
 let⟨t,c,hz⟩:=hz;unfold execOp;rw[ho];simp[resolve,invoke,builtin,Builtin.len_,run_underlying hu,hz,goInt];cases I;cases I
def azt (t:o.op= .call {callee:=.builtin .len,args:=#[s],argTypes:=#[A]}) (hu:P.underlying A=Z .string) (q:eE (.lens s) e h nx=Z R):im P o e.get h.get R.eff:=by
 simp[eE]at q;split at q;rename_i x I;rw[dl q];refine im.reads λφ E h' w a _ hp _=>?_
 have hr:=dX (hp s _ (mn t) I);refine ⟨_,?_,.f (.raw _)⟩;unfold execOp;rw[t];simp[resolve,invoke,builtin,Builtin.len_,run_underlying hu,hr,goInt];cases q
end
structure Kt (w w':World) (k:Nat) (ob:Obj):Prop where
 os:w'.os=w.os
 tape:w'.tape=w.tape
 output:w'.output=w.output
 size:w'.heap.size=w.heap.size
 at_:w'.heap[k]? =Z ob
 other:∀j,j≠k->w'.heap[j]? =w.heap[j]?
 jh:∀j,w'.shape? j=w.shape? j
structure ZA (w w':World) (ob:Obj):Prop where
 os:w'.os=w.os
 tape:w'.tape=w.tape
 output:w'.output=w.output
 size:w'.heap.size=w.heap.size+1
 at_:w'.heap[w.heap.size]? =Z ob
 other:∀j,j<w.heap.size->w'.heap[j]? =w.heap[j]?
def rA.wset {w':World} (r:rA T O N W) {id:Nat} {b':ot} {ob:Obj} (hb:N id=Z z) (hk:T id=Z i) (q:Kt W w' i ob) (hob:kn T (tot O T N) W b' ob) (A:HF) (hnw:A id=Z b'):
 iX T T N (eD N [id] A) W w'/\rA T O (eD N [id] A) w':=by
 have hdom:∀k,(∃x,eD N [id] A k=Z x)↔∃x,N k=Z x:=λk=>by
  unfold eD
  grind
 have hown:∀j,own T (eD N [id] A) j↔own T N j:=λj=>by
  constructor;rintro⟨k,x,h1,h2⟩;let⟨y,hy⟩:=(hdom k).1 ⟨x,h1⟩;exact⟨k,y,hy,h2⟩;rintro⟨k,x,h1,h2⟩;let⟨y,hy⟩:=(hdom k).2 ⟨x,h1⟩;exact⟨k,y,hy,h2⟩
 have m:iX T T N (eD N [id] A) W w':=by
  refine ⟨λ_ _ N=>N,⟨q.os,q.tape,q.output,by rw[q.size];exact bg _,λj hj ho=>?_,λj _=>q.jh j⟩,λj _ N=>(hown j).1 N⟩;exact q.other j (λe=>ho (e▸⟨id,z,hb,hk⟩))
 refine ⟨m,⟨λk j x y kk hi hj h1 h2=>?_,λk x hi=>?_,λi hk=>db (r.el i hk) m.ext.size,λg cells hg=>m.keepF (r.gl g cells hg)⟩⟩;let⟨x',hx'⟩:=(hdom k).1 ⟨x,hi⟩;let⟨y',hy'⟩:=(hdom j).1 ⟨y,hj⟩;exact r.inj k j x' y' kk hx' hy' h1 h2;by_cases hid:k=id;subst hid;have:x=b':=by unfold eD at hi;simp[hnw]at hi;exact hi.symm
 subst this;let⟨I,h1,h2,_⟩:=r.at_ k z hb;rw[hk]at h1;cases h1;exact⟨i,hk,h2,ob,q.at_,hob.mono λ_ _ N=>m.zq N⟩;have hx:N k=Z x:=by unfold eD at hi;simpa[hid] using hi
 let⟨I,h1,h2,ob',h3,h4⟩:=r.at_ k x hx;have hne:I≠i:=λe=>hid (r.inj k id x z i hx hb (e▸h1) hk)
 exact⟨I,h1,h2,ob',by rw[q.other I hne];exact h3,h4.mono λ_ _ N=>m.zq N⟩
def rA.wnew {w':World} (r:rA T O N W) {id:Nat} (hid:T id=U) {b:ot} {ob:Obj} (A:ZA W w' ob) (hob:kn T (tot O T N) W b ob) (del:ι) (I:HF) (hnw:I id=Z b) (hdel:∀i∈del,i≠id->I i=U):
 ∃φ',φ' id=Z W.heap.size/\iX T φ' N (eD N (id::del) I) W w'/\(∀i k,φ' i=Z k->T i=Z k\/i∈[id])/\rA φ' O (eD N (id::del) I) w':=by
 have hsub:∀i x,eD N (id::del) I i=Z x->i≠id->N i=Z x/\i∉del:=λi x hx hi=>by
  unfold eD at hx
  grind
 have hlt:∀i x k,N i=Z x->T i=Z k->k<W.heap.size:=λi x k hi hk=>by
  let⟨k',h1,_,ob',h3,_⟩:=r.at_ i x hi
  grind
 have hφ:∀i,i≠id->(if i=id then Z W.heap.size else T i)=T i:=λi hi=>by simp[hi]
 have m:iX T (λi=>if i=id then Z W.heap.size else T i) N (eD N (id::del) I) W w':=by
  refine ⟨λi k hk=>cf,⟨A.os,A.tape,A.output,by rw[A.size];omega,λj hj _=>A.other j hj,λj hj=>?_⟩,?_⟩;unfold qX;rw[A.other j hj];rintro j hj ⟨i,x,h1,h2⟩;by_cases hi:i=id;simp[hi]at h2;omega;have h3:T i=Z j:=by simpa[hi] using h2
  exact⟨i,x,(hsub i x h1 hi).1,h3⟩
 refine ⟨_,b8,m,λi k hk=>cf,⟨λi j x y k hi hj h1 h2=>?_,λi x hi=>?_,λk hk=>db (r.el k hk) m.ext.size,λg cells hg=>m.keepF (r.gl g cells hg)⟩⟩;by_cases q:i=id
 grind
 rw[hφ i q]at h1;have hix:=(hsub i x hi q).1;by_cases hj':j=id
 grind
 rw[hφ j hj']at h2;exact r.inj i j x y k hix (hsub j y hj hj').1 h1 h2;by_cases q:i=id;subst q;have:x=b:=by unfold eD at hi;simp[hnw]at hi;exact hi.symm
 subst this;refine ⟨W.heap.size,b8,λhe=>?_,ob,A.at_,hob.mono λ_ _ N=>m.zq N⟩;have:=r.el _ he;omega;let⟨k,h1,h2,ob',h3,h4⟩:=r.at_ i x (hsub i x hi q).1;refine ⟨k,by rw[hφ i q];exact h1,h2,ob',?_,h4.mono λ_ _ N=>m.zq N⟩;rw[A.other k (hlt i x k (hsub i x hi q).1 h1)];exact h3
def ug (w:World) (ob:Obj):ZA w {w with heap:=w.heap.push ob} ob:=by
 refine ⟨rfl,rfl,rfl,b8,b8,λj hj=>?_⟩
 grind
def ZA.drawn {w':World} {ob:Obj} (d:Nat) (h:ZA {W with drawn:=d} w' ob):ZA W w' ob:=⟨h.os,h.tape,h.output,h.size,h.at_,h.other⟩
def im.makes {e:xY} {rd:ι} 
 (hv:∀(φ:PM) (E:Nat->Prop) (h':HF) (w:World) (a:Act),(∀nx∈rd,h' nx=N nx)->Wo φ E h' w a e d->rA φ E h' w->
   ∃v w' ob,(execOp a.eval d).run P w= .ok (.value v) w'/\ZA w w' ob/\kn φ (tot E φ h') w z ob/\∀φ' O,φ' i=Z w.heap.size->cC φ' O w' y v):
 im P d e.get N ⟨y,rd,[i],jZ [(i,z)],[i]⟩:=by
 intro φ E h' w a h1 h2 h3 q h5;let⟨v,w',ob,hrun,hw,hob,hval⟩:=hv φ E h' w a h1 (λx val I A=>tG q h3 I A) q;let⟨φ',g1,g2,g3,g4⟩:=q.wnew (id:=i) (h5 i b8) hw hob [] (jZ [(i,z)]) (by simp[jZ]) b8;unfold Ec;rw[hrun];exact⟨v,φ',rfl,g2,g3,g4,hval φ' _ g1⟩
def im.writes {e:xY} {rd:ι} {b':ot} (hb:N i=Z z)
 (hv:∀(φ:PM) (E:Nat->Prop) (h':HF) (w:World) (a:Act),(∀id∈rd,h' id=N id)->h' i=Z z->Wo φ E h' w a e d->rA φ E h' w->
   ∃r w' k ob,(execOp a.eval d).run P w= .ok r w'/\φ i=Z k/\Kt w w' k ob/\kn φ (tot E φ h') w b' ob/\(∃v,(r= .value v\/r= .skip/\v=undef)/\cC φ (tot E φ (eD h' [i] (jZ [(i,b')]))) w' y v)):
 im P d e.get N ⟨y,rd,[i],jZ [(i,b')],[]⟩:=by
 intro φ E h' w a h1 h2 h3 q h5;let⟨r,w',k,ob,hrun,hk,hw,hob,v,hr,hval⟩:=hv φ E h' w a h1 cf (λx val hx hy=>tG q h3 hx hy) q;let⟨I,A⟩:=q.wset (id:=i) (by rw[h2 i b8];exact hb) hk hw hob (jZ [(i,b')]) (by simp[jZ]);unfold Ec;rw[hrun];rcases hr with rfl|⟨rfl,rfl⟩;exact⟨v,φ,rfl,I,λ_ _ N=>.inl N,A,hval⟩;exact⟨undef,φ,rfl,I,λ_ _ N=>.inl N,A,hval⟩
variable {C:Y AV}
def nH (h:il C=J):∀x∈C,x.isCell=J:=by
 induction C with
 |nil=>intro x q;cases q
 |cons y C A=>
  simp[il,ar]at h
  grind
def sC:∀{l:Y AV} {q:Y FV},CP l=Z q->l=q.map .f
 |[],q,h=>by cases h;rfl
 |.f x::r,q,h=>by
  simp[CP]at h;split at h;rename_i l A;cases h;rw[sC A];rfl;cases h
 |.K _ _::_,_,h|.sl _ _ _::_,_,h|.I _ _ _::_,_,h|.mp _::_,_,h|.emp::_,_,h|.agg _::_,_,h|.qd _::_,_,h|.qy _ _::_,_,h=>by simp[CP]at h
def Cs (φ:PM) (O:Nat->Prop) (w:World) (l:Y AV) (vs:ξ):Prop:=l! vs=l! l/\(∀x∈l,x.isCell=J)/\∀(j:Nat) x v,l[j]? =Z x->vs[j]? =Z v->cC φ O w x v
def BC.get_toMx {c:BC} (q:c.isCells=J) (j:Nat):c.get j=c.toMx[j]? :=by
 cases c with
 |fz l=>simp[BC.get,BC.toMx]
 |mx l=>rfl
 |_=>cases q
def BC.len_toMx {c:BC} (q:c.isCells=J):c.len=l! c.toMx:=by
 cases c with
 |fz l=>simp[BC.len,BC.toMx]
 |mx l=>rfl
 |_=>cases q
def pM (l:Y AV):(qB l).toMx=l/\(qB l).isCells=J:=by
 unfold qB;cases h:CP l with
 |none=>exact⟨rfl,rfl⟩
 |some q=>exact⟨(sC h).symm,rfl⟩
variable {A:TypeId}
def sR {c:BC} (q:c.isCells=J) {arr:Array Value} (hl:l! c.toMx<=arr.size)
 (h:∀(j:Nat) x,c.toMx[j]? =Z x->x.isCell=J/\∃v,arr[j]? =Z v/\cC T O W x v):kn T O W ⟨A,c⟩ (.cells arr A (0,0)):=by
 have h2:yI T O W c arr:=⟨by rw[BC.len_toMx q];exact hl,λj x I=>h j x (by rw[<- BC.get_toMx q];exact I)⟩
 cases ty:c with
 |fz l|mx l=>rw[ty]at h2;exact⟨arr,rfl,h2⟩
 |_=>rw[ty]at q;cases q
variable {k:ξ}
def NL {ty:TypeId} (h:Cs T O W C k):kn T O W ⟨ty,qB C⟩ (.cells k.toArray ty (0,0)):=by
 let⟨h1,h2⟩:=pM C;refine sR h2 (by rw[h1];simp[h.1]) λj x q=>?_
 rw[h1]at q;have hj:j<l! k:=by rw[h.1];exact (bG.1 q).1
 exact⟨h.2.1 x (bh q),k[j],by simp[hj],h.2.2 j x _ q (aI hj)⟩
def aca (h:cC T O W y v) (hc:il y.cs=J):Cs T O W y.cs v.cells.toList:=by
 have one:y.cs=[y]->v.cells=#[v]->Cs T O W y.cs v.cells.toList:=λh1 h2=>by
  rw[h1]at hc ⊢;rw[h2];exact⟨rfl,nH hc,λj x u A hu=>by cases j with|zero=>simp at A hu;subst A hu;exact h|succ j=>simp at A⟩
 cases h with
 |qn _|qd _ _=>exact bi hc (by simp[AV.cs,il,AV.isCell])
 |@agg l vs hl hcl hr=>exact⟨hl,hcl,hr⟩
 |@f x u hf=>
  cases hf with
  |raw v=>
   have hv:v.oneCell'=J:=by
    have:(AV.f (.raw v)).cs=[.f (.raw v)]:=rfl;rw[this]at hc;simpa[il,AV.isCell,FV.isCell] using hc
   refine one rfl ?_;cases v<;>first|rfl|simp[Value.oneCell']at hv
  |agg l vs hl hcl hr=>
   refine ⟨by simp[AV.cs,Value.cells,hl],nH hc,λj x u A hu=>?_⟩;simp only[AV.cs,bH]at A;cases hq:l[j]? with
   |none=>rw[hq]at A;cases A
   |some q=>rw[hq]at A;simp at A;subst A;exact .f (hr j q u hq (by simpa[Value.cells] using hu))
  |_=>exact one rfl rfl
 |_=>exact one rfl rfl
def oz.one {x:FV} (h:oz O W x v) (q:x.isCell=J):v.oneCell'=J:=by
 cases h with
 |raw v=>exact q
 |agg=>cases q
 |_=>rfl
def cC.one (h:cC T O W y v) (q:y.isCell=J):v.oneCell'=J:=by
 cases h with
 |f h=>exact h.one q
 |qn|agg|qd=>cases q
 |_=>rfl
def Cs.one (h:Cs T O W C k):∀v∈k,v.oneCell'=J:=by
 intro v q;let⟨j,hj⟩:=eC q;have hlt:j<l! C:=by rw[<- h.1];exact (bG.1 hj).1
 exact (h.2.2 j _ v (aI hlt) hj).one (h.2.1 _ (List.getElem_mem hlt))
def Cs.append {I:Y AV} {vs':ξ} (h:Cs T O W C k) (h':Cs T O W I vs'):Cs T O W (C++I) (k++vs'):=by
 refine ⟨by simp[h.1,h'.1],λx q=>(bz.1 q).elim (h.2.1 x) (h'.2.1 x),λj x v q A=>?_⟩;rcases co j (l! C) with hj|hj;rw[cZ hj]at q;rw[cZ (by rw[h.1];exact hj)]at A;exact h.2.2 j x v q A;rw[cL hj]at q;rw[cL (by rw[h.1];exact hj),h.1]at A;exact h'.2.2 _ x v q A
def Cs.take (h:Cs T O W C k) (n:Nat):Cs T O W (C.take n) (k.take n):=by
 refine ⟨by simp[h.1],λx q=>h.2.1 x (dL q),λj x v q A=>?_⟩;rw[dF]at q A;let⟨hj,q⟩:=dO q;rw[aD hj]at A;exact h.2.2 j x v q A
def Cs.drop (h:Cs T O W C k) (n:Nat):Cs T O W (C.drop n) (k.drop n):=by
 refine ⟨by simp[h.1],λx q=>h.2.1 x (xO q),λj x v q A=>?_⟩;rw[kH]at q A;exact h.2.2 _ x v q A
def Cs.splice {q:Y AV} {vs':ξ} (h:Cs T O W C k) (h':Cs T O W q vs') (off:Nat):Cs T O W (splice C off q) (splice k off vs'):=by
 unfold AI.splice;rw[h'.1];exact ((h.take off).append h').append (h.drop _)
def Cs.raws {φ:PM} {w:World} (z:ξ) (I:oK z=J):Cs φ O w (z.map raw) z:=by
 refine ⟨b8,λx q=>?_,λj x v q A=>?_⟩;obtain⟨v,A,rfl⟩:=cF.1 q;exact eS.1 I v A;rw[bH]at q;rw[A]at q;simp at q;subst q;exact .f (.raw v)
def Cs.mono {φ':PM} {O':Nat->Prop} {w':World} (h:Cs T O W C k) (hk:∀x v,cC T O W x v->cC φ' O' w' x v):Cs φ' O' w' C k:=⟨h.1,h.2.1,λj x v q A=>hk _ _ (h.2.2 j x v q A)⟩
def Kt.setRow {arr arr':Array Value} (q:W.heap[i]? =Z (.cells arr A (0,0))) (ty:arr'.size=arr.size):Kt W (W.setRow i arr') i (.cells arr' A (0,0)):=by
 refine ⟨rfl,rfl,rfl,b8,setRow_heap W i arr arr' A (0,0) q,λj hj=>setRow_other W i j arr' hj,λj=>?_⟩;unfold qX;by_cases hj:j=i;subst hj;rw[setRow_heap W j arr arr' A (0,0) q,q];simp[ty];rw[setRow_other W i j arr' hj]
section
variable {P:Program} {o:Oper} {e:xY} {h:iN} {nx:Nat} {R:Cp}
def wM (q:vY P A=Z k) (w:World):∃v,(zeroValue A).run P w= .ok v w/\v.cells.toList=k/\∃i,P.info? A=Z i/\i.zero=Z v:=by
 unfold vY at q;cases hi:P.info? A with
 |none=>rw[hi]at q;cases q
 |some i=>
  rw[hi]at q;simp only[aH]at q;cases t:i.zero with
  |none=>rw[t]at q;cases q
  |some v=>
   rw[t]at q;simp[cj,al]at q;exact⟨v,by simp[zeroValue,typeInfo,hi,t],q,i,rfl,t⟩
def aum (ho:o.op= .alloc A) (I:vY P A=Z k) (hc:oK k=J) (ha:eE (.alloc A k) e h nx=Z R):im P o e.get h.get R.eff:=by
 cases ha;refine im.makes λφ E h' w a _ _ _=>?_
 let⟨v,h1,h2,_⟩:=wM I w;refine ⟨.pointer (Z ⟨w.heap.size,0,U⟩),{w with heap:=w.heap.push (.cells v.cells A)},.cells v.cells A (0,0),?_,ug w _,?_,λφ' O hφ=>.K hφ⟩;unfold execOp;rw[ho];simp[Instr.alloc,h1,newVar,newRow,newObj,sK];have q:BC.toMx (.fz (k.map .raw))=k.map raw:=by simp[BC.toMx,raw]
 refine sR rfl cf λj x t=>?_
 rw[q]at t;have cs:=Cs.raws (φ:=φ) (O:=tot E φ h') (w:=w) k hc;have hj:j<l! k:=cf;refine ⟨cs.2.1 x (bh t),k[j],?_,cs.2.2 j x _ t (aI hj)⟩
 grind
def aE8 (t:o.op= .box A s) (q:eE (.box A s) e h nx=Z R):im P o e.get h.get R.eff:=by
 simp[eE]at q;split at q;rename_i v I;let⟨hc,q⟩:=dO q;cases q;refine im.makes λφ E h' w a _ hp _=>?_
 have hr:=aca (hp s _ (mn t) I) hc;refine ⟨.pointer (Z ⟨w.heap.size,0,U⟩),{w with heap:=w.heap.push (.cells (a.eval s).cells A)},.cells (a.eval s).cells A (0,0),?_,ug w _,?_,λφ' O hφ=>.K hφ⟩;unfold execOp;rw[t];simp[Instr.box,newVar,newRow,newObj,sK];have:=NL (ty:=A) hr;simpa using this;cases q
def rD {α:Type} {l vs:Y α} {off:Nat} (hle:off+l! vs<=l! l) (j:Nat):(splice l off vs)[j]? =if j<off then l[j]? else if j<off+l! vs then vs[j-off]? else l[j]? :=by
 unfold splice
 grind
def qL {α:Type} {l vs:Y α} (hle:i+l! vs<=l! l):l! (splice l i vs)=l! l:=by
 unfold splice;simp;omega
def Yb (off:Nat):∀(vs:ξ) (k:Nat) (arr:Array Value),off+k+l! vs<=arr.size->∀j:Nat,
 ((vs.zipIdx k).foldl (λcs (p:Value×Nat)=>cs.setIfInBounds (off+p.2) p.1) arr)[j]? =if j<off+k then arr[j]? else if j<off+k+l! vs then vs[j-(off+k)]? else arr[j]?
 |[],k,arr,_,j=>by simp_all
 |v::vs,k,arr,hle,j=>by
  rw[List.zipIdx_cons,dN,Yb off vs (k+1) _ cf j]
  grind
def Ya (off:Nat) (c:Array Value) (l:ξ) (hle:off+c.size<=l! l):(c.zipIdx.foldl (λcs (p:Value×Nat)=>cs.setIfInBounds (off+p.2) p.1) l.toArray)=(splice l off c.toList).toArray:=by
 rw[<- Array.foldl_toList,Array.toList_zipIdx];apply Array.ext_getElem?;intro j;rw[Yb off c.toList 0 l.toArray M j];simp only[dR,FU];rw[rD M]
def Vk (hp:Wo T O N W F e o) {place:Nat->aj n!}:∀(q:Y H!) (ps':Y j?) (cells cs:Y AV) (vs:ξ),
 (l! ps'=l! q)->(∀(j:Nat) i x,q[j]? =Z (i,x)->∃of sz,ps'[j]? =Z (of,sz,x)/\place i=Z (of,sz))->(∀p∈q,p.2∈o.op.operands)->Cs T (tot O T N) W cells vs->Fq cells e ps'=Z cs->
 ∃vs',Instr.fill place vs.toArray (q.map λp=>(p.1,F.eval p.2))=Z vs'.toArray/\Cs T (tot O T N) W cs vs'
 |[],ps',cells,cs,vs,hl,_,_,hcs,hf=>by
  cases ps' with
  |nil=>cases hf;exact⟨vs,rfl,hcs⟩
  |cons _ _=>simp at hl
 |(i,x)::q,ps',cells,cs,vs,hl,hpl,hm,hcs,hf=>by
  obtain⟨of,sz,h1,h2⟩:=hpl 0 i x rfl;cases ps' with
  |nil=>simp at h1
  |cons p ps'=>
   simp at h1;subst h1;simp only[Fq]at hf;split at hf;rename_i v hv;obtain⟨hc,hf⟩:=dO hf;simp only[ar,dz]at hc;obtain⟨⟨hc1,I⟩,A⟩:=hc;have hr:=aca (hp x v (hm _ (bU ..)) hv) A;have hsz:(F.eval x).cells.size=sz:=by have:=hr.1;simp at this;omega
   have hle:of+sz<=l! vs:=by rw[hcs.1];exact aY I
   obtain⟨vs',g1,g2⟩:=Vk hp q ps' _ cs _ cf (λj i x hj=>by have:=hpl (j+1) i x cf;simpa using this) (λp hp=>hm p (bx _ hp)) (hcs.splice hr of) hf;refine ⟨vs',?_,g2⟩;simp only[d5,Instr.fill,h2];have hcd:((decide ((F.eval x).cells.size≠sz))||decide (of+(F.eval x).cells.size>vs.toArray.size))=af:=cf;rw[av cf];have:=Ya of (F.eval x).cells vs M;rw[<- g1,<-this];cases hf
def Jt :∀(q:Y H!) (ps':Y j?),C3 P A q=Z ps'->l! ps'=l! q/\∀(j:Nat) i x,q[j]? =Z (i,x)->∃of sz,ps'[j]? =Z (of,sz,x)/\F4 P A i=Z (of,sz)
 |[],ps',h=>by cases h;exact⟨rfl,λj i x hx=>by simp at hx⟩
 |(i,x)::q,ps',h=>by
  simp[C3]at h;split at h;rename_i of sz l h1 h2;cases h;let⟨g1,g2⟩:=Jt q l h2;refine ⟨by simp[g1],λj I t hj=>?_⟩;cases j with
  |zero=>simp at hj;obtain⟨rfl,rfl⟩:=hj;exact⟨of,sz,rfl,h1⟩
  |succ j=>simpa using g2 j I t cf
  cases h
def NU (w:World):∀(q:Y Field),(q.all λf=>(gD P f.type).isSome)=J->(q.mapM (λf=>do pure (f.offset,<-sizeOf f.type)):Sem (Y n!)).run P w= .ok (q.map λf=>(f.offset,(gD P f.type).getD 0)) w
 |[],_=>b8
 |f::q,h=>by
  simp only[List.all_cons,ar]at h;let⟨sz,A⟩:=kq.1 h.1;have h1:=gF A w;have I:=NU w q h.2;simp_all
def ahm {I:Array H!} {ps':Y j?} (ho:o.op= .build A I) (hz:vY P A=Z k) (hc:oK k=J) (hps:C3 P A I.toList=Z ps')
 (t:(∃q,P.underlying A=Z (.struct q)/\(q.toList.all λf=>(gD P f.type).isSome)=J)\/∃n el sz,P.underlying A=Z (.array n el)/\gD P el=Z sz) (ha:eE (.build k ps') e h nx=Z R):im P o e.get h.get R.eff:=by
 simp[eE]at ha;split at ha;rename_i cs hf;rw[dl ha];refine im.reads λφ E h' w a _ hp _=>?_
 let⟨v,h1,h2,_⟩:=wM hz w;have hcells:v.cells=k.toArray:=by rw[<- h2]
 let⟨g1,g2⟩:=Jt I.toList ps' hps;have hops:∀p∈I.toList,p.2∈o.op.operands:=λp hp=>by
  rw[ho];simp only[Op.operands,List.mem_toArray,cF];exact⟨p,hp,rfl⟩
 have hmap:(I.map λx:Nat×Operand=>(x.1,a.eval x.2)).toList=I.toList.map λp=>(p.1,a.eval p.2):=b8
 have fin:∀place:Nat->aj n!,(∀i,F4 P A i≠U->place i=F4 P A i)->∃vs':ξ,Instr.fill place v.cells (I.map λx:Nat×Operand=>(x.1,a.eval x.2)).toList=Z vs'.toArray/\cC φ (tot E φ h') w (SJ cs) (.agg vs'.toArray):=by
  intro place hpl;let⟨vs',k1,k2⟩:=Vk (place:=place) hp I.toList ps' _ cs k g1 (λj i x hj=>by
   let⟨of,sz,q1,q2⟩:=g2 j i x hj;exact⟨of,sz,q1,by rw[hpl i cf,q2]⟩) hops (Cs.raws k hc) hf
  refine ⟨vs',by rw[hmap,hcells];exact k1,?_⟩;unfold SJ;cases hfs:CP cs with
  |none=>exact .agg k2.1 k2.2.1 k2.2.2
  |some q=>
   have he:=sC hfs;refine .f (.agg q vs' (by rw[k2.1,he];simp) (λx hx=>k2.2.1 (.f x) cf) λj x u hx t=>?_);have:=k2.2.2 j (.f x) u cf t;cases this with
   |f h=>exact h
 rcases t with ⟨q,t,hall⟩|⟨n,el,sz,t,hs⟩;let⟨vs',k1,k2⟩:=fin (λi=>(q.map λf=>(f.offset,(gD P f.type).getD 0))[i]?) (λi hi=>by
  unfold F4 at hi ⊢;rw[t]at hi ⊢;simp[Array.getElem?_map]at hi ⊢;cases hf:q[i]? with
  |none=>rw[hf]at hi;simp at hi
  |some f=>
   simp[cj,aH];cases hs:gD P f.type with
   |none=>rw[hf]at hi;simp[hs]at hi
   |some sz=>simp)
 refine ⟨_,?_,k2⟩;have hm:=NU w q.toList hall;have hm':(q.mapM (λf=>do pure (f.offset,<-sizeOf f.type)):Sem (Array n!)).run P w= .ok (q.map λf=>(f.offset,(gD P f.type).getD 0)) w:=by
  rw[Sf];simp only[Sem.run_map,hm,cI];congr 1;apply Array.ext';simp
 unfold execOp;rw[ho];simp only[Instr.build,fA,h1,cI,run_underlying t,hm',oA,k1];let⟨vs',k1,k2⟩:=fin (λi=>Z (i*sz,sz)) (λi hi=>by
  unfold F4;rw[t];simp[hs])
 refine ⟨_,?_,k2⟩;have h3:=gF hs w;unfold execOp;rw[ho];simp only[Instr.build,fA,h1,cI,run_underlying t,h3,oA,k1];cases ha
end
section
variable {P:Program} {o:Oper} {e:xY} {h:iN} {nx:Nat} {R:Cp}
def vz {q:TypeId} (h:Fr P A=Z q):P.underlying A=Z (.slice q):=by
 unfold Fr at h
 grind
def oU (z:ξ):∀n,l! (repl z n)=n*l! z
 |0=>by simp[repl]
 |n+1=>by simp[repl,oU z n,lD];omega
def Hl (z:ξ):∀(n j:Nat),j<n*l! z->(repl z n)[j]? =(z[j%l! z]?).map .raw
 |0,j,h=>by simp at h
 |n+1,j,h=>by
  have q:0<l! z:=cf;rw[repl];rcases co j (l! z) with hj|hj;rw[cZ cf,bH,ml hj];rw[cL cf,bL,Hl z n (j-l! z) cf,Nat.mod_eq_sub_mod hj]
def aht (A:v.cells.toList=k) (n sz:Nat) (I:l! k=sz) (hsz:sz≠0) (j:Nat) (hj:j<n*sz):
 ((I9 (n*sz)).map (λi=>v.cells[i%v.cells.size]!))[j]? =k[j%sz]? :=by
 have q:v.cells.size=sz:=cf;have hlt:j%sz<v.cells.size:=by rw[q];exact Nat.mod_lt _ M
 grind
def Cs.repl {φ:PM} {w:World} (hv:v.cells.toList=k) (n sz:Nat) (I:l! k=sz) (hsz:sz≠0) (hc:oK k=J):
 Cs φ O w ((repl k n).map .f) ((I9 (n*sz)).map (λi=>v.cells[i%v.cells.size]!)).toList:=by
 have key:∀(j:Nat) (x:AV),((AI.repl k n).map AV.f)[j]? =Z x->∃u,k[j%sz]? =Z u/\x=raw u/\j<n*sz:=by
  intro j x q;rw[bH]at q;have hj:j<n*l! k:=by
   rcases co j (n*l! k) with h|h;exact h;rw[eT (by rw[oU];exact h)]at q;cases q
  rw[Hl k n j hj,I]at q;cases A:k[j%sz]? with
  |none=>rw[A]at q;cases q
  |some u=>rw[A]at q;simp at q;exact⟨u,rfl,q.symm,by rw[<- I];exact hj⟩
 refine ⟨by simp[oU,I],λx q=>?_,λj x u q A=>?_⟩;let⟨j,hj⟩:=eC q;obtain⟨u,h1,rfl,_⟩:=key j x hj;exact eS.1 hc u (bh h1);obtain⟨u',h1,rfl,hj⟩:=key j x q;rw[eV,aht hv n sz I hsz j hj,h1]at A;cases A;exact .f (.raw _)
def aE7 {t:TypeId} {q:Array H!} {ps':Y j?} (ho:o.op= .buildSlice t i q) (hu:P.underlying t=Z (.slice A)) (hz:vY P A=Z k) (hs:gD P A=Z m) (hc:oK k=J) (hl:l! k=m) (hsz:m≠0) (hb:i*m<=65536)
 (hps:C3 P t q.toList=Z ps') (ha:eE (.xq A m i k ps') e h nx=Z R):im P o e.get h.get R.eff:=by
 simp[eE]at ha;split at ha;rename_i cs hf;cases ha;refine im.makes λφ E h' w a _ hp _=>?_
 let⟨v,h1,h2,_⟩:=wM hz w;let⟨g1,g2⟩:=Jt q.toList ps' hps;have hops:∀p∈q.toList,p.2∈o.op.operands:=λp hp=>by
  rw[ho];simp only[Op.operands,List.mem_toArray,cF];exact⟨p,hp,rfl⟩
 have hmap:(q.map λx:Nat×Operand=>(x.1,a.eval x.2)).toList=q.toList.map λp=>(p.1,a.eval p.2):=b8
 let⟨vs',k1,k2⟩:=Vk (place:=λn=>Z (n*m,m)) hp q.toList ps' _ cs _ g1 (λj n x hj=>by
  let⟨of,s',q1,q2⟩:=g2 j n x hj;unfold F4 at q2;rw[hu]at q2;simp[hs]at q2;obtain⟨rfl,rfl⟩:=q2;exact⟨_,_,q1,rfl⟩) hops (Cs.repl h2 i m hl hsz hc) hf
 have hcells:(I9 (i*m)).map ((if i*m=0 then #[] else v.cells)[·%(if i*m=0 then #[] else v.cells).size]!)=((I9 (i*m)).map (λn=>v.cells[n%v.cells.size]!)).toList.toArray:=cf;have hlen:l! vs'=i*m:=by
  have e1:=k2.1;have e2:l! cs=l! ((AI.repl k i).map AV.f):=by
   have:∀(ps':Y j?) (c0 c1:Y AV),Fq c0 e ps'=Z c1->l! c1=l! c0:=by
    intro ps';induction ps' with
    |nil=>intro c0 c1 h;simp[Fq,al]at h;rw[h]
    |cons p ps' ih=>
     intro c0 c1 h;simp[Fq]at h;split at h;let⟨hcc,h⟩:=dO h;rw[ih _ _ h,qL (by simp_all)];cases h
   exact this ps' _ _ hf
  rw[e1,e2];simp[oU,hl]
 refine ⟨.slice (Z ⟨w.heap.size,0,U⟩) i i,{w with heap:=w.heap.push (.cells vs'.toArray A)},.cells vs'.toArray A (0,0),?_,ug w _,NL k2,λφ' O hφ=>?_⟩;have h3:=gF hs w;have hk:Instr.fill (λn=>Z (n*m,m)) ((I9 (i*m)).map ((if i*m=0 then #[] else v.cells)[·%(if i*m=0 then #[] else v.cells).size]!)) (q.map λx:Nat×Operand=>(x.1,a.eval x.2)).toList=Z vs'.toArray:=cf;unfold execOp;rw[ho];simp only[Instr.buildSlice,fA,run_underlying hu,cI,h3];rw[av M];by_cases h0:i*m=0;simp only[aD h0]at hk ⊢;simp only[fA,oA,cI,hk,newRow,newObj,sK];simp only[av h0]at hk ⊢;simp only[fA,oA,cI,h1,hk,newRow,newObj,sK];simp only[];split;rename_i h0;subst h0;exact .emp;refine .I hφ (bg _) ?_ ⟨A,?_⟩;have:i<=i*m:=Nat.le_mul_of_pos_right _ M;unfold maxLen;omega;unfold qX;simp[hlen];cases ha
end
def rA.wren {w':World} (r:rA T O N W) {k:Nat} {b':ot} {ob:Obj} (hb:N i=Z z) (hk:T i=Z k) (hnx:T m=U) (I:Kt W w' k ob) (hob:kn T (tot O T N) W b' ob) (nw:HF) (hnw:nw m=Z b') (hnid:nw i=U):
 ∃φ',φ' m=Z k/\iX T φ' N (eD N [m,i] nw) W w'/\(∀id k,φ' id=Z k->T id=Z k\/id∈[m])/\rA φ' O (eD N [m,i] nw) w':=by
 have hne:m≠i:=λe=>cf
 have hsub:∀id x,eD N [m,i] nw id=Z x->id≠m->N id=Z x/\id≠i:=λid x hx hi=>by
  unfold eD at hx
  grind
 have hφ:∀id,id≠m->(if id=m then Z k else T id)=T id:=λid hi=>by simp[hi]
 have nx:iX T (λid=>if id=m then Z k else T id) N (eD N [m,i] nw) W w':=by
  refine ⟨λid k' hk'=>cf,⟨I.os,I.tape,I.output,by rw[I.size];exact bg _,λj hj ho=>I.other j (λe=>ho (e▸⟨i,z,hb,hk⟩)),λj _=>I.jh j⟩,?_⟩;rintro j hj ⟨id,x,h1,h2⟩;by_cases hi:id=m;simp[hi]at h2;subst h2;exact⟨i,z,hb,hk⟩;have h3:T id=Z j:=by simpa[hi] using h2
  exact⟨id,x,(hsub id x h1 hi).1,h3⟩
 refine ⟨_,b8,nx,λid k' hk'=>cf,⟨λid j x y kk hi hj h1 h2=>?_,λid x hi=>?_,λk hk=>db (r.el k hk) nx.ext.size,λg cells hg=>nx.keepF (r.gl g cells hg)⟩⟩;by_cases q:id=m;by_cases A:j=m;rw[q,A];exfalso;rw[hφ j A]at h2;simp[q]at h1;subst h1;let⟨q1,q2⟩:=hsub j y hj A;exact q2 (r.inj j i y z k q1 hb h2 hk);rw[hφ id q]at h1;let⟨p1,p2⟩:=hsub id x hi q;by_cases A:j=m;exfalso;simp[A]at h2;subst h2;exact p2 (r.inj id i x z k p1 hb h1 hk);rw[hφ j A]at h2;exact r.inj id j x y kk p1 (hsub j y hj A).1 h1 h2;by_cases q:id=m;subst q;have:x=b':=by unfold eD at hi;simp[hnw]at hi;exact hi.symm
 subst this;let⟨k',h1,h2,_⟩:=r.at_ i z hb;rw[hk]at h1;cases h1;exact⟨k,b8,h2,ob,I.at_,hob.mono λ_ _ N=>nx.zq N⟩;let⟨p1,p2⟩:=hsub id x hi q;let⟨k',h1,h2,ob',h3,h4⟩:=r.at_ id x p1;have hne':k'≠k:=λe=>p2 (r.inj id i x z k p1 hb (e▸h1) hk)
 exact⟨k',by rw[hφ id q];exact h1,h2,ob',by rw[I.other k' hne'];exact h3,h4.mono λ_ _ N=>nx.zq N⟩
def rA.cs (hrep:rA T O N W) (hb:N i=Z z) (hk:T i=Z m) (q:z.c.isCells=J):
 ∃arr,W.heap[m]? =Z (.cells arr z.ty (0,0))/\Cs T (tot O T N) W z.c.toMx (arr.toList.take (l! z.c.toMx))/\l! z.c.toMx<=arr.size:=by
 let⟨k',h1,_,h2⟩:=hrep.at_ i z hb;rw[hk]at h1;cases h1;let⟨arr,h3,h4,I⟩:=h2.cells q;rw[BC.len_toMx q]at h4;refine ⟨arr,h3,⟨ye,λx A=>?_,λj x v A hv=>?_⟩,h4⟩;let⟨j,hj⟩:=eC A;exact (I j x (by rw[BC.get_toMx q];exact hj)).1;let⟨_,u,h6,h7⟩:=I j x (by rw[BC.get_toMx q];exact A)
 grind
section
variable {P:Program} {o:Oper} {e:xY} {h:iN} {nx:Nat} {R:Cp}
def TN (q:Kn P A=Z i):∃b,P.info? A=Z b/\b.bytes=i:=by
 unfold Kn at q;cases hi:P.info? A with
 |none=>rw[hi]at q;cases q
 |some b=>rw[hi]at q;simp at q;exact⟨b,rfl,q⟩
def Hk (h:bk i m=J):i<=1099511627776/\i*m<=1099511627776:=by
 simp[bk,ar]at h;simp_all
variable {a:Int}
def al6 (h1: -9223372036854775808<=a) (h2:a<=9223372036854775807):kx .i64 a=a:=by
 rw[<- zH];have:(cN (-9223372036854775808) a&&cN a 9223372036854775807)=J:=by simp[cN,h1,h2]
 simp[Ei,Nh,this,bC]
def azr {q:TypeId} {c:Operand} (ho:o.op= .makeSlice A s c) (hu:P.underlying A=Z (.slice q)) (hz:vY P q=Z k) (hs:gD P q=Z i) (hb:Kn P q=Z m) (hc:oK k=J) (hl:l! k=i) (hsz:i≠0)
 (ha:eE (.zd q i m k s c) e h nx=Z R):im P o e.get h.get R.eff:=by
 simp only[eE]at ha;split at ha;rename_i k1 n k2 bytes t hy;let⟨hcd,ha⟩:=dO ha;simp only[cN,ar,bl]at hcd;let⟨⟨h0,h1⟩,h2⟩:=hcd;let⟨r1,r2⟩:=Hk h2;cases ha;refine im.makes λφ E h' w a _ hp _=>?_
 have e1:=dX (hp s _ (mn ho) t);have e2:=dX (hp c _ (mn ho) hy);let⟨v,z1,z2,_⟩:=wM hz w;let⟨sz,i1,i2⟩:=TN hb;have s1:=gF hs w;have w1:kx .i64 n=n:=al6 M M;have w2:kx .i64 bytes=bytes:=al6 M M;have hbm:(m:Int)*bytes=((bytes.toNat*m:Nat):Int):=cf;have t1:¬(bytes<0\/(281474976710656:Int)<m*bytes):=M;have hr:¬(bytes.toNat*m>roomBytes):=by unfold roomBytes;omega
 have hn0:bytes.toNat*i=0->bytes.toNat=0:=λh=>(Nat.mul_eq_zero.1 h).resolve_right hsz
 let cells:Array Value:=(I9 (bytes.toNat*i)).map (λsz=>v.cells[sz%v.cells.size]!)
 refine ⟨.slice (Z ⟨w.heap.size,0,U⟩) n.toNat bytes.toNat,{w with heap:=w.heap.push (.cells cells q)},.cells cells q (0,0),?_,ug w _,?_,λφ' O hφ=>?_⟩;unfold execOp;rw[ho];by_cases hm0:bytes.toNat*i=0;obtain rfl:bytes=0:=by have:=hn0 hm0;omega
 simp[Instr.makeSlice,run_underlying hu,e1,e2,asInt,asIntOf,typeInfo,i1,w1,askRoom,s1,newRow,newObj,sK,cells]
 grind
 simp[Instr.makeSlice,run_underlying hu,e1,e2,asInt,asIntOf,typeInfo,i1,i2,w1,w2,t1,show ¬n<0 by omega,show ¬bytes<n by omega,askRoom,hr,s1,hm0,z1,newRow,newObj,sK,cells];have cs:=Cs.repl (φ:=φ) (O:=tot E φ h') (w:=w) z2 bytes.toNat i hl hsz hc;have hle:n.toNat<=bytes.toNat:=M;have hlen:n.toNat*i<=bytes.toNat*i:=cD _ hle;refine sR rfl (by simp[BC.toMx,oU,hl,cells];exact hlen) λj x t=>?_
 simp only[BC.toMx,bH]at t;have hj:j<n.toNat*l! k:=by
  rcases co j (n.toNat*l! k) with h|h;exact h;rw[eT (by rw[oU];exact h)]at t;cases t
 have hj2:j<bytes.toNat*l! k:=cf;rw[Hl k _ j hj,<-Hl k bytes.toNat j hj2]at t;have hx2:((repl k bytes.toNat).map AV.f)[j]? =Z x:=cf;have hj3:j<l! cells.toList:=cf;exact⟨cs.2.1 x (bh hx2),cells.toList[j],by rw[<- eV];exact aI hj3,cs.2.2 j x _ hx2 (aI hj3)⟩;refine .I hφ M (by unfold maxLen;omega) ⟨q,?_⟩;unfold qX;simp[cells];cases ha
def aul {y:Operand} (ho:o.op= .store A s y) (hs:gD P A=Z i) (t:eE (.store i s y) e h nx=Z R):im P o e.get h.get R.eff:=by
 simp only[eE]at t;split at t;rename_i p v hx hy;unfold Kq at t;split at t;rename_i id off;split at t;rename_i b hb;let⟨hl,t⟩:=dO t;split at t;rename_i c' hput;cases t;unfold BC.put at hput;let⟨hcc,hput⟩:=dO hput;simp only[ar]at hcc;let⟨⟨c1,c2⟩,c3⟩:=hcc;have c2:=aY c2;have hl:l! v.cs=i:=by simpa using hl
 have hc':c'.toMx=splice b.c.toMx off v.cs/\c'.isCells=J:=by
  split at hput;rename_i l ys hbl hys;cases hput;refine ⟨?_,rfl⟩;have hv:=sC hys;rw[hv,hbl];simp only[BC.toMx];unfold splice;simp_all;cases hput;exact⟨rfl,rfl⟩
 refine im.writes hb λφ E h' w a hrd hb' hp hrep=>?_
 have hr:=aca (hp y _ (mn ho) hy) c3;have hpx:=hp s _ (mn ho) hx;generalize hz:a.eval s=pv at hpx;cases hpx with
 |@K _ _ k hφ=>
  let⟨arr,g1,g2,g3⟩:=hrep.cs hb' hφ c1;have hvl:(a.eval y).cells.toList.length=i:=by rw[hr.1];exact hl
  rw[BC.len_toMx c1]at c2;have hst:=run_storeCells_at (P:=P) k off b.ty (a.eval y).cells.toList 0 arr w g1 (by rw[hvl];omega) hr.one
  let arr':Array Value:=(arr.toList.take off++(a.eval y).cells.toList++arr.toList.drop (off+i)).toArray
  have hsize:arr'.size=arr.size:=cf;refine ⟨.skip,w.setRow k arr',k,.cells arr' b.ty (0,0),?_,hφ,Kt.setRow g1 hsize,?_,undef,.inr ⟨rfl,rfl⟩,.f (.raw _)⟩;have s1:=gF hs w;have hvs:(a.eval y).cells.size=i:=by simpa using hvl
  simp only[dR,hvl]at hst;unfold execOp;rw[ho];simp[Instr.storeAt,hz,QL,storeVar,s1,hvs,hst,arr'];refine sR hc'.2 (by rw[hc'.1,qL M,hsize];exact g3) λj q I=>?_
  rw[hc'.1,rD M]at I;have ha':arr'[j]? =if j<off then arr.toList[j]? else if j<off+i then (a.eval y).cells.toList[j-off]? else arr.toList[j]? :=by
   have:=rD (l:=arr.toList) (vs:=(a.eval y).cells.toList) (off:=off) cf j;unfold splice at this
   grind
  have old:b.c.toMx[j]? =Z q->q.isCell=J/\∃u,arr.toList[j]? =Z u/\cC φ (tot E φ h') w q u:=λI=>by
   have hj:j<l! b.c.toMx:=(bG.1 I).1;have hj2:j<l! arr.toList:=ye;refine ⟨g2.2.1 q (bh I),arr.toList[j],aI hj2,g2.2.2 j q _ I ?_⟩
   grind
  rw[ha'];by_cases h1:j<off
  grind
  rw[av h1]at I ⊢;by_cases h2:j<off+i;rw[aD M]at I;rw[aD h2];have hj3:j-off<(a.eval y).cells.toList.length:=M;exact⟨hr.2.1 q (bh I),_,aI hj3,hr.2.2 _ q _ I (aI hj3)⟩
  grind
 cases t;cases t;cases t;cases t
end
section
variable {P:Program} {o:Oper} {e:xY} {h:iN} {nx:Nat} {R:Cp}
def auc (A:Addr):A.add 0=A:=by cases A;simp[Addr.add]
def aDp {el:TypeId} {lo hi mx:aj Operand} (ho:o.op= .slice A s lo hi mx) (hu:P.underlying A=Z (.slice el)) (hs:gD P el=Z i) (ha:eE (.slc i s lo hi mx) e h nx=Z R):im P o e.get h.get R.eff:=by
 simp only[eE]at ha;split at ha;rename_i v hx;split at ha;rename_i k k';obtain⟨hsl,ha⟩:=dO ha;rw[dl ha];refine im.reads λφ E h' w a _ hp _=>?_
 have hr:=hp s _ (mn ho) hx;have hz:∃t n c,a.eval s= .slice t n c:=by
  generalize a.eval s=z at hr;obtain⟨n,hn⟩:=kq.1 hsl;unfold AV.slen at hn;split at hn;cases hr with
  |f hr=>cases hr with
   |nil|sl=>exact⟨_,_,_,rfl⟩
  cases dX hr;exact⟨_,_,_,rfl⟩;cases hr;exact⟨_,_,_,rfl⟩;cases hr;exact⟨_,_,_,rfl⟩;cases hr;exact⟨_,_,_,rfl⟩;cases hn
 obtain⟨t,n,c,hz⟩:=hz;have s1:=gF hs w;refine ⟨.slice t 0 0,?_,.emp⟩;unfold execOp;rw[ho];have z0:∀k,a.eval (.const (.int k 0))= .int k 0:=λ_=>rfl
 simp[eU,ic,run_underlying hu,hz,cX,dw,asIntOf,s1,z0];rename_i b;split at ha;rename_i id sz' n k j hb;obtain⟨hc,ha⟩:=dO ha;simp only[cN,ar,bl,dz]at hc;obtain⟨⟨rfl,h0⟩,h1⟩:=hc;split at ha;rename_i blk hblk;obtain⟨hcl,ha⟩:=dO ha;simp only[ar]at hcl;obtain⟨hcells,hlen⟩:=hcl;have hlen:=aY hlen;rw[BC.len_toMx hcells]at hlen;cases ha;intro φ E h' w a g1 g2 g3 hrep g5;have hp:Wo φ E h' w a e o:=λs y hx hy=>tG hrep g3 hx hy
 have hb':h' id=Z blk:=by rw[g1 id (by simp[Cp.eff])];exact hblk
 have hr:=hp s _ (mn ho) hx;have hbv:=dX (hp b _ (mn ho) hb);have hnx:φ nx=U:=g5 nx (by simp[Cp.eff]);generalize hz:a.eval s=z at hr;cases hr with
 |@I _ _ _ c q hφ hn hcap hsh=>
  obtain⟨arr,a1,a2,a3⟩:=hrep.cs hb' hφ hcells;have s1:=gF hs w;have hne:nx≠id:=λe=>by rw[e,hφ]at hnx;cases hnx
  have hnw1:jZ [(nx,⟨blk.ty,qB (blk.c.toMx.take (j.toNat*sz'))⟩)] nx=Z (⟨blk.ty,qB (blk.c.toMx.take (j.toNat*sz'))⟩:ot):=by simp[jZ]
  have hnw2:jZ [(nx,⟨blk.ty,qB (blk.c.toMx.take (j.toNat*sz'))⟩)] id=U:=by
   simp only[jZ];rw[av];intro hb;exact hne (au hb)
  have a4:=a2.take (j.toNat*sz');obtain⟨φ',p1,p2,p3,p4⟩:=hrep.wren hb' hφ hnx (w':=w) ⟨rfl,rfl,rfl,rfl,a1,λ_ _=>rfl,λ_=>rfl⟩ (b':=⟨blk.ty,qB (blk.c.toMx.take (j.toNat*sz'))⟩) (by
   obtain⟨q1,q2⟩:=pM (blk.c.toMx.take (j.toNat*sz'));refine sR q2 (by rw[q1,bm];omega) λsz s hx=>?_
   rw[q1]at hx;have hi:sz<l! ((arr.toList.take (l! blk.c.toMx)).take (j.toNat*sz')):=by rw[a4.1];exact (bG.1 hx).1
   refine ⟨a4.2.1 s (bh hx),_,?_,a4.2.2 sz s _ hx (aI hi)⟩;have hi':sz<arr.size:=by simp at hi;omega
   simp[hi']) _ hnw1 hnw2
  have hrun:(execOp a.eval o).run P w= .ok (.value (.slice (Z ⟨q,0,U⟩) j.toNat c)) w:=by
   unfold execOp;rw[ho];simp[eU,ic,run_underlying hu,hz,cX,dw,asIntOf,s1,hbv,h0,show j<=c by omega,jL]
  unfold Ec;rw[hrun];exact⟨_,φ',rfl,p2,p3,p4,.I p1 M hcap hsh⟩
 cases ha;rename_i cells n k j hb;obtain⟨hc,ha⟩:=dO ha;simp only[cN,ar,bl]at hc;obtain⟨⟨h0,h1⟩,h2⟩:=hc;have h2:=aY h2;rw[dl ha];refine im.reads λφ E h' w a _ hp _=>?_
 have hr:=hp s _ (mn ho) hx;have hbv:=dX (hp b _ (mn ho) hb);generalize hz:a.eval s=z at hr;have s1:=gF hs w;cases hr with
 |f hr=>
  cases hr with
  |nil t c hc=>
   have hj:j=0:=M;subst hj;refine ⟨.slice t 0 c,?_,by simpa using cC.f (.nil t c hc)⟩;unfold execOp;rw[ho];cases t<;>simp[eU,ic,run_underlying hu,hz,cX,dw,asIntOf,s1,hbv,auc]
  |sl _ _ c q off us hn hc hO hq hcl hu' hr=>
   refine ⟨.slice (Z ⟨q,off,U⟩) j.toNat c,?_,.f (.sl _ _ _ _ _ us M hc hO hq (λy hy=>hcl y (dL hy)) (λsz hi=>hu' sz (by rw[bm]at hi;omega)) λsz y hy=>?_)⟩;unfold execOp;rw[ho];simp[eU,ic,run_underlying hu,hz,cX,dw,asIntOf,s1,hbv,h0,show j<=c by omega,jL];rw[dF]at hy;obtain⟨h9,hy⟩:=dO hy;exact hr sz y hy
 cases ha;rename_i b;split at ha;rename_i id sz' n k j hb;obtain⟨hc,ha⟩:=dO ha;simp only[cN,hY,ar,bl,dz]at hc;obtain⟨⟨rfl,h0⟩,h1⟩:=hc;rw[dl ha];refine im.reads λφ E h' w a _ hp _=>?_
 have hr:=hp s _ (mn ho) hx;have hbv:=dX (hp b _ (mn ho) hb);generalize hz:a.eval s=z at hr;cases hr with
 |@I _ _ _ c q hφ hn hc hsh=>
  have s1:=gF hs w;refine ⟨.slice (Z ⟨q,0+j.toNat*sz',U⟩) (n-j.toNat) (c-j.toNat),?_,?_⟩;unfold execOp;rw[ho];simp[eU,ic,run_underlying hu,hz,cX,dw,asIntOf,s1,hbv,h0,show j<=n by omega,show ¬c=j.toNat by omega,jL];rw[bV];exact .sl hφ M M
 rename_i cells n k j hb;split at ha;rename_i hc;simp only[cN,ar,bl]at hc;obtain⟨⟨h0,h1⟩,h2⟩:=hc;have h2:=aY h2;rw[dl ha];refine im.reads λφ E h' w a _ hp _=>?_
 have hr:=hp s _ (mn ho) hx;have hbv:=dX (hp b _ (mn ho) hb);generalize hz:a.eval s=z at hr;have s1:=gF hs w;cases hr with
 |f hr=>
  cases hr with
  |nil t c hc=>
   have hj:j=0:=M;subst hj;have hex:∃A',(execOp a.eval o).run P w= .ok (.value (.slice A' 0 c)) w:=by
    unfold execOp;rw[ho];cases t with
    |none=>exact⟨U,by simp[eU,ic,run_underlying hu,hz,cX,dw,asIntOf,s1,hbv]⟩
    |some t=>exact⟨Z t,by simp[eU,ic,run_underlying hu,hz,cX,dw,asIntOf,s1,hbv,auc]⟩
   obtain⟨A',hex⟩:=hex;exact⟨.slice A' 0 c,hex,by simpa using cC.f (.nil A' c hc)⟩
  |sl _ _ c q off us hn hc hO hq hcl hu' hr=>
   by_cases hcj:c=j.toNat;refine ⟨.slice (Z ⟨q,off,U⟩) 0 0,?_,?_⟩;unfold execOp;rw[ho];simp[eU,ic,run_underlying hu,hz,cX,dw,asIntOf,s1,hbv,h0,show j<=n by omega,hcj,show n-j.toNat=0 by omega,jL];rw[show n-j.toNat=0 by omega];simpa using cC.f (.nil (Z ⟨q,off,U⟩) 0 (by unfold maxLen;omega));refine ⟨.slice (Z ⟨q,off+j.toNat*i,U⟩) (n-j.toNat) (c-j.toNat),?_,.f (.sl _ _ _ _ _ (λsz=>us (j.toNat*i+sz)) M M hO hq (λy hy=>hcl y (xO (dL hy))) (λsz hi=>?_) λsz y hy=>?_)⟩;unfold execOp;rw[ho];simp[eU,ic,run_underlying hu,hz,cX,dw,asIntOf,s1,hbv,h0,show j<=n by omega,hcj,jL];rw[mw];refine hu' _ ?_;rw[bm,fG]at hi;omega;rw[dF]at hy;obtain⟨h9,hy⟩:=dO hy;rw[kH]at hy;exact hr _ y hy
 cases ha;cases ha;rename_i b b' _;split at ha;rename_i cells n k j k' j' hb hb';split at ha;rename_i hc;simp only[cN,ar,bl]at hc;obtain⟨⟨⟨hjj,h0⟩,h1⟩,h2⟩:=hc;subst hjj;have h2:=aY h2;rw[dl ha];refine im.reads λφ E h' w a _ hp _=>?_
 have hr:=hp s _ (mn ho) hx;have hbv:=dX (hp b _ (mn ho) hb);have hbv':=dX (hp b' _ (mn ho) hb');generalize hz:a.eval s=z at hr;have s1:=gF hs w;cases hr with
 |f hr=>
  cases hr with
  |nil t c hc=>
   have hj:j=0:=M;subst hj;refine ⟨.slice t 0 0,?_,by simpa using cC.qn (oz.nil t 0 (by unfold maxLen;omega))⟩;unfold execOp;rw[ho];cases t<;>simp[eU,ic,run_underlying hu,hz,cX,dw,asIntOf,s1,hbv,hbv',auc]
  |sl _ _ c q off us hn hc hO hq hcl hu' hr=>
   refine ⟨.slice (Z ⟨q,off,U⟩) j.toNat j.toNat,?_,.qn (.sl _ _ _ _ _ us (bg _) M hO hq (λy hy=>hcl y (dL hy)) (λsz hi=>hu' sz (by rw[bm]at hi;omega)) λsz y hy=>?_)⟩;unfold execOp;rw[ho];simp[eU,ic,run_underlying hu,hz,cX,dw,asIntOf,s1,hbv,hbv',h0,show j<=c by omega,jL];intro hlt;omega;rw[dF]at hy;split at hy;exact hr sz y hy;cases hy
 cases ha;cases ha;rename_i b b';split at ha;rename_i cells n k j k' m hb hb';obtain⟨hc,ha⟩:=dO ha;simp only[cN,ar,bl]at hc;obtain⟨⟨⟨h0,h1⟩,h3⟩,h2⟩:=hc;have h2:=aY h2;rw[dl ha];refine im.reads λφ E h' w a _ hp _=>?_
 have hr:=hp s _ (mn ho) hx;have hbv:=dX (hp b _ (mn ho) hb);have hbv':=dX (hp b' _ (mn ho) hb');generalize hz:a.eval s=z at hr;have s1:=gF hs w;cases hr with
 |f hr=>
  cases hr with
  |nil t c hc=>
   have hj:j=0:=M;have hm:m=0:=M;subst hj hm;have hex:∃A',(execOp a.eval o).run P w= .ok (.value (.slice A' 0 c)) w:=by
    unfold execOp;rw[ho];cases t with
    |none=>exact⟨U,by simp[eU,ic,run_underlying hu,hz,cX,dw,asIntOf,s1,hbv,hbv']⟩
    |some t=>exact⟨Z t,by simp[eU,ic,run_underlying hu,hz,cX,dw,asIntOf,s1,hbv,hbv',auc]⟩
   obtain⟨A',hex⟩:=hex;exact⟨.slice A' 0 c,hex,by simpa using cC.f (.nil A' c hc)⟩
  |sl _ _ c q off us hn hc hO hq hcl hu' hr=>
   have hjm:j.toNat<=m.toNat:=M;have hmn:m.toNat<=n:=M;by_cases hcj:c=j.toNat;refine ⟨.slice (Z ⟨q,off,U⟩) 0 0,?_,?_⟩;unfold execOp;rw[ho];simp[eU,ic,run_underlying hu,hz,cX,dw,asIntOf,s1,hbv,hbv',h0,h1,show m<=c by omega,hcj,show m.toNat-j.toNat=0 by omega,jL];rw[aD M,aD M];rw[show m.toNat-j.toNat=0 by omega];simpa using cC.f (.nil (Z ⟨q,off,U⟩) 0 (by unfold maxLen;omega));refine ⟨.slice (Z ⟨q,off+j.toNat*i,U⟩) (m.toNat-j.toNat) (c-j.toNat),?_,.f (.sl _ _ _ _ _ (λsz=>us (j.toNat*i+sz)) M M hO hq (λy hy=>hcl y (xO (dL hy))) (λsz hi=>?_) λsz y hy=>?_)⟩;unfold execOp;rw[ho];simp[eU,ic,run_underlying hu,hz,cX,dw,asIntOf,s1,hbv,hbv',h0,h1,show m<=c by omega,show 0<=m by omega,show max m 0=m by omega,hcj,jL];rw[mw];refine hu' _ ?_;rw[bm,fG]at hi;omega;rw[dF]at hy;split at hy;rw[kH]at hy;exact hr _ y hy;cases hy
 cases ha;cases ha;cases ha
def aa3 {rd:ι} (hrow:y.row? h i=Z (C,m,rd)) (hrd:∀sz∈rd,N sz=h.get sz) (hrep:rA T O N W) (hr:cC T (tot O T N) W y v):
 ∃A c vs,v= .slice A m c/\Cs T (tot O T N) W C vs/\l! vs=m*i/\(A=U->vs=[])/\(∀ad,A=Z ad->∀(j:Nat) u,vs[j]? =Z u->W.cell? (ad.add j)=Z u):=by
 have emp:∀A c,v= .slice A 0 c->C=[]->m=0->∃A c vs,v= .slice A m c/\Cs T (tot O T N) W C vs/\l! vs=m*i/\(A=U->vs=[])/\(∀ad,A=Z ad->∀(j:Nat) u,vs[j]? =Z u->W.cell? (ad.add j)=Z u):=by
  rintro A c rfl rfl rfl;exact⟨A,c,[],rfl,⟨rfl,(by intro y hx;cases hx),(by intro j y v hx;simp at hx)⟩,b8,λ_=>rfl,by intro ad _ j u hu;simp at hu⟩
 have own:∀(id off n c k:Nat) (b:ot),T id=Z k->N id=Z b->b.c.isCells=J->off+n*i<=b.c.len->v= .slice (Z ⟨k,off,U⟩) n c->C=(b.c.toMx.drop off).take (n*i)->m=n->
  ∃A c vs,v= .slice A m c/\Cs T (tot O T N) W C vs/\l! vs=m*i/\(A=U->vs=[])/\(∀ad,A=Z ad->∀(j:Nat) u,vs[j]? =Z u->W.cell? (ad.add j)=Z u):=by
  rintro id off n c k b hφ hb hc hle rfl rfl rfl;let⟨arr,g1,g2,g3⟩:=hrep.cs hb hφ hc;rw[BC.len_toMx hc]at hle;refine ⟨_,c,((arr.toList.take (l! b.c.toMx)).drop off).take (m*i),rfl,(g2.drop off).take _,?_,nofun,?_⟩;simp;omega;intro ad had j u hu;cases had;rw[jL];rw[dF]at hu;let⟨h9,hu⟩:=dO hu;rw[kH,dF]at hu;let⟨h9,hu⟩:=dO hu;rw[eV]at hu;simp[Ud,g1,hu]
 unfold AV.row? at hrow;split at hrow;rename_i cells n;let⟨hle,hrow⟩:=dO hrow;have hle:=aY hle;simp only[al,aT]at hrow;obtain⟨rfl,rfl,rfl⟩:=hrow;cases hr with
 |f hr=>
  cases hr with
  |nil a c hc=>exact emp a c rfl b8 rfl
  |sl _ _ c b off us hn hc hO hb hcl hu hr=>
   refine ⟨_,c,(dV (n*i)).map us,rfl,⟨ye,λy hx=>?_,λj y u hx hu'=>?_⟩,b8,nofun,?_⟩;obtain⟨x,hy,rfl⟩:=cF.1 hx;exact hcl x (dL hy);obtain⟨rfl,hj⟩:=Bt us _ _ _ hu';rw[bH,dF,aD hj]at hx;cases hq:cells[j]? with
   |none=>rw[hq]at hx;cases hx
   |some q=>rw[hq]at hx;simp at hx;subst hx;exact .f (hr j q hq)
   intro ad had j u hu';cases had;obtain⟨rfl,hj⟩:=Bt us _ _ _ hu';rw[jL];exact hu j M
 cases hrow;exact emp U 0 (dX hr) rfl rfl;cases hrow;cases hr with
 |@emp a=>exact emp a 0 rfl rfl rfl
 rename_i id sz' n;let⟨hsz,hrow⟩:=dO hrow;split at hrow;rename_i b hb;let⟨hc,hrow⟩:=dO hrow;simp only[ar]at hc;simp only[al,aT]at hrow;obtain⟨rfl,rfl,rfl⟩:=hrow;cases hr with
 |@I _ _ _ c k hφ hn hc' hsh=>
  exact own id 0 n c k b hφ (by rw[hrd id b8];exact hb) hc.1 (by simp_all) rfl b8 rfl
 cases hrow;rename_i id off n;split at hrow;rename_i b hb;let⟨hc,hrow⟩:=dO hrow;simp only[ar]at hc;simp only[al,aT]at hrow;obtain⟨rfl,rfl,rfl⟩:=hrow;cases hr with
 |@sl _ _ _ c k hφ hn hc'=>exact own id off n c k b hφ (by rw[hrd id b8];exact hb) hc.1 (aY hc.2) rfl rfl rfl
 cases hrow;cases hrow
def aDq {el:TypeId} {I:Operand} (ho:o.op= .slice A s (Z I) U U) (hu:P.underlying A=Z (.array i el)) (hs:gD P el=Z m) (hn:i<=65536) (t:eE (.sla i m s I) e h nx=Z R):im P o e.get h.get R.eff:=by
 simp only[eE]at t;split at t;rename_i id off k j hx hb;let⟨hc,t⟩:=dO t;simp only[cN,hY,ar,bl]at hc;let⟨h0,h1⟩:=hc;rw[dl t];refine im.reads λφ E h' w a _ hp _=>?_
 have hr:=hp s _ (mn ho) hx;have hbv:=dX (hp I _ (mn ho) hb);generalize hz:a.eval s=z at hr;cases hr with
 |@K _ _ q hφ=>
  have s1:=gF hs w;refine ⟨.slice (Z ⟨q,off+j.toNat*m,U⟩) (i-j.toNat) (i-j.toNat),?_,.sl hφ M (by unfold maxLen;omega)⟩;unfold execOp;rw[ho];simp[eU,QL,run_underlying hu,hz,cX,dw,asIntOf,s1,hbv,h0,show j<=i by omega,show ¬i=j.toNat by omega,jL]
 cases t
def ahc {x:aj Operand} (A:apg e i x=Z m) {a:Act} (hev:∀q y,x=Z q->mN e q=Z (.f (.raw y))->a.eval q=y):(x=U/\m=i)\/∃q k j,x=Z q/\a.eval q= .int k j/\0<=j/\m=j.toNat:=by
 cases x with
 |none=>simp only[apg,al]at A;exact .inl ⟨rfl,A.symm⟩
 |some q=>
  simp only[apg]at A;split at A;rename_i k j I;let⟨h0,A⟩:=dO A;simp only[cN,bl]at h0;simp only[al]at A;exact .inr ⟨q,k,j,rfl,hev q _ rfl I,h0,A.symm⟩;cases A
def ac4 (s:ByteArray) (l m:Nat) (h1:l<=m) (h2:m<=s.data.size):s.extract l m=⟨((s.data.toList.drop l).take (m-l)).toArray⟩:=by
 apply ByteArray.ext;rw[ByteArray.data_extract];apply Array.ext';simp[Array.toList_extract,List.extract_eq_take_drop]
def aDo {lo hi:aj Operand} (ho:o.op= .slice A s lo hi U) (hu:P.underlying A=Z .string) (t:eE (.sls s lo hi) e h nx=Z R):im P o e.get h.get R.eff:=by
 simp only[eE]at t;split at t;rename_i x hx;split at t;rename_i l m hl hm;let⟨hc,t⟩:=dO t;simp only[ar]at hc;have c1:=aY hc.1;have c2:=aY hc.2;rw[dl t];refine im.reads λφ E h' w a _ hp _=>?_
 have h1:=dX (hp s _ (mn ho) hx);refine ⟨_,?_,.f (.raw _)⟩;rw[<- ac4 x l m c1 c2];have c2':m<=x.size:=c2;have b1:=ahc hl (a:=a) λq y e1 e2=>dX (hp q _ (by rw[ho,e1];simp[Op.operands]) e2)
 have b2:=ahc hm (a:=a) λq y e1 e2=>dX (hp q _ (by rw[ho,e1];simp[Op.operands]) e2)
 unfold execOp;rw[ho];rcases b1 with ⟨rfl,rfl⟩|⟨q1,k1,j1,rfl,e1,z1,rfl⟩<;>rcases b2 with ⟨rfl,e2⟩|⟨q2,k2,I,rfl,e2,z2,rfl⟩;have e2:m=x.size:=e2;subst e2;simp[eU,ic,run_underlying hu,h1,cX];simp[eU,ic,run_underlying hu,h1,cX,dw,asIntOf,e2,z2,show I<=x.size by omega];have e2:m=x.size:=e2;subst e2;simp[eU,ic,run_underlying hu,h1,cX,dw,asIntOf,e1,z1,show j1<=x.size by omega];simp[eU,ic,run_underlying hu,h1,cX,dw,asIntOf,e1,z1,e2,z2,show I<=x.size by omega,show j1<=I by omega,show j1<=max I 0 by omega];cases t;cases t
def ac5 {ms:_} (q:P.underlying A=Z (.interface ms)) (w:World):(Op.equal A .nilIface .nilIface).run P w= .ok J w:=by
 have key:∀d,(Op.equalIn (d+1) A .nilIface .nilIface).run P w= .ok J w:=λd=>by simp[Op.equalIn,run_underlying q]
 exact key 9999
def apz {neg:Bool} {op:BinOp} {y:Operand} {t':TypeId} {ms:_} (I:o.op= .binOp op A s y t') (hop:op=if neg then .neq else .eql) (t:y= .const .nilIface) (hu:P.underlying A=Z (.interface ms)) (q:eE (.jp neg s) e h nx=Z R):im P o e.get h.get R.eff:=by
 simp only[eE]at q;split at q;rename_i hx;rw[dl q];refine im.reads λφ E h' w a _ hp _=>?_
 have h1:=dX (hp s _ (mn I) hx);have h2:a.eval y= .nilIface:=by rw[t];rfl
 refine ⟨_,?_,.f (.raw _)⟩;unfold execOp;rw[I];simp[h1,h2];subst hop t;cases neg<;>simp[eqGuard,binOp,ac5 hu];cases q
def aE6 {t' el:TypeId} (ho:o.op= .convert A t' s) (hs:P.underlying A=Z .string) (hd:P.underlying t'=Z (.slice el)) (he:P.underlying el=Z (.int .u8)) (I:eE (.byt s) e h nx=Z R):im P o e.get h.get R.eff:=by
 simp only[eE]at I;split at I;rename_i x hx;let⟨hsz,I⟩:=dO I;have hsz:=aY hsz;have hsz:x.size<=65536:=hsz;rw[dl I];intro φ E h' w a h1 h2 h3 h4 h5;have hv:=dX (tG h4 h3 (x:=s) (mn ho) hx);have hrun:(execOp a.eval o).run P w= .ok (.value (.slice (Z ⟨w.heap.size,0,U⟩) x.size (grownCap w x.size 0 el))) (Lib.bytesWorld w el x):=by
  unfold execOp;rw[ho];simp[hv,Lib.run_convert_string_bytes w A t' el x hs hd he]
 have hM:iX φ φ h' h' w (Lib.bytesWorld w el x):=⟨λ_ _ h=>h,⟨rfl,rfl,rfl,by rw[Lib.bytesWorld_size];omega,λk hk _=>Lib.bytesWorld_at_old w el x k hk,λk hk=>by unfold qX;rw[Lib.bytesWorld_at_old w el x k hk]⟩,λ_ _ h=>h⟩
 unfold Ec;rw[hrun];have hown:∀k,own φ h' k->k<w.heap.size:=λk ⟨i,b,hb,hk⟩=>by
  let⟨k',e1,_,ob,e3,_⟩:=h4.at_ i b hb;rw[hk]at e1;cases e1;rcases co k w.heap.size with q|q;exact q;rw[Array.getElem?_eq_none q]at e3;cases e3
 refine ⟨_,φ,rfl,hM,λ_ _ h=>.inl h,h4.moved hM λk hk=>Lib.bytesWorld_at_old w el x k (hown k hk),?_⟩<;>simp only[Cp.eff,uU];refine .f (.sl _ _ _ _ _ (λi=>.int .u8 (x.data.toList.getD i 0).toNat) (grownCap_ge w _ _ _) (grownCap_le_maxLen w _ _ _ (by unfold maxLen;omega)) (λhO=>?_) (by rw[Lib.bytesWorld_size];omega) (λy t=>?_) (λj hj=>?_) λj y t=>?_);rcases hO with hO|hO;exact bi (h4.el _ hO) M;exact bi (hown _ hO) M;obtain⟨b,_,rfl⟩:=cF.1 t;rfl;rw[bV];exact Lib.bytesWorld_cell w el x j (by simpa using hj);rw[bH]at t;cases hq:x.data.toList[j]? with
 |none=>rw[hq]at t;cases t
 |some b=>rw[hq]at t;simp at t;subst t;simp only[List.getD,hq];exact .raw _
 cases I
def TO :∀{src:Y AV} {l:ζ} {vs:ξ},Gy src=Z l->Cs T O W src vs->∃ns:η,vs=ns.map (Value.int .u8)/\l=ns.map (λn=>Ct n.toNat)
 |[],l,vs,q,hc=>by
  simp only[Gy,al]at q;have hl:=hc.1;cases vs with
  |nil=>exact⟨[],rfl,q.symm⟩
  |cons _ _=>simp at hl
 |x::r,l,vs,q,hc=>by
  unfold Gy at q;split at q;rename_i heq;cases heq;rename_i n r' heq;cases heq;split at q;rename_i l' hl';simp only[al]at q;obtain⟨h1,h2,h3⟩:=hc;cases vs with
  |nil=>simp at h1
  |cons v vs=>
   have I:=dX (h3 0 _ _ rfl rfl);obtain⟨ns,e1,e2⟩:=TO hl' ⟨by simpa using h1,λx A=>h2 x (bx _ A),λj x v A I=>h3 (j+1) x v (by simpa using A) (by simpa using I)⟩;exact⟨n::ns,by rw[d5,<-e1,I],by rw[<- q,d5,e2]⟩
  cases q;cases q
def Xa:∀(ns:η) (b:ByteArray),ns.foldl (λr n=>r.push (Ct n.toNat)) b=⟨b.data++(ns.map λn=>Ct n.toNat).toArray⟩
 |[],b=>b8
 |n::ns,b=>by rw[dN,Xa ns];simp[ByteArray.push]
def aDn {I el:TypeId} (ho:o.op= .convert A I s) (hs:P.underlying A=Z (.slice el)) (he:P.underlying el=Z (.int .u8)) (hd:P.underlying I=Z .string) (q:eE (.tos s) e h nx=Z R):im P o e.get h.get R.eff:=by
 simp only[eE]at q;split at q;rename_i y hx;split at q;rename_i src m rd hrow;split at q;rename_i l hl;cases q;refine im.reads λφ E h' w a hrd hp hrep=>?_
 let⟨t,c,vs,hv,hcs,hlen,hnone,hcell⟩:=aa3 hrow hrd hrep (hp s _ (mn ho) hx);let⟨ns,e1,e2⟩:=TO hl hcs;refine ⟨_,?_,.f (.raw _)⟩;unfold execOp;rw[ho];have key:(convert A I (a.eval s)).run P w= .ok (.string ⟨l.toArray⟩) w:=by
  rw[hv,run_convert_bytes_string w A I el t m c hs he hd];cases t with
  |none=>
   have:=hnone rfl;subst this;cases ns with
   |nil=>subst e2;simp[Conv.bytesToString];rfl
   |cons _ _=>simp at e1
  |some ad=>
   rw[run_bytesToString w ad m c ns (by
    have:=run_loadCells_list (P:=P) w ad vs (hcell ad rfl);rw[hlen,I7]at this;rw[this,e1]),Xa,e2]
   simp[ByteArray.empty,ByteArray.emptyWithCapacity];rfl
 simp[key];cases q;cases q;cases q
def arn {rd:ι} (hrow:y.row? h i=Z (C,m,rd)) (hrd:∀sz∈rd,N sz=h.get sz) (hrep:rA T O N W) (hr:cC T (tot O T N) W y v) {I:TypeId} (hk:P.underlying A=Z (.slice I)):
 ∃vs,Src P i A v m vs W/\Cs T (tot O T N) W C vs:=by
 obtain⟨q,c,vs,rfl,h1,h2,h3,h4⟩:=aa3 hrow hrd hrep hr;refine ⟨vs,?_,h1⟩;cases q with
 |none=>
  have:=h3 rfl;subst this;have hm:m*i=0:=cf;refine ⟨.inl ⟨I,hk⟩,λ_=>rfl,run_firstCells_none W i m m c,run_firstCells_none W.drew i m m c,by simp[hm],λ_ h=>by cases h⟩
 |some ad=>exact Src.ofSlice W hk ad m c vs h2 (h4 ad rfl) h1.one
def asd :∀{l:ι},mem i l=J↔i∈l
 |[]=>by simp[mem]
 |y::r=>by
  simp[mem,gm,asd (l:=r),bc];constructor;rintro (h|h);simp_all;exact .inr h;rintro (h|h);simp_all;exact .inr h
def azw {u el el':TypeId} {x:Operand} (ho:o.op= .call {callee:=.builtin .copy,args:=#[s,x],argTypes:=#[A,u]}) (hu:P.underlying A=Z (.slice el)) (hu':P.underlying u=Z (.slice el')) (hs:gD P el=Z i) (ha:eE (.copy i s x) e h nx=Z R):im P o e.get h.get R.eff:=by
 simp only[eE]at ha;split at ha;rename_i id sz' n y hd hx;split at ha;rename_i blk src m rd hblk hrow;let⟨hc,ha⟩:=dO ha;simp only[ar,dz,dj]at hc;obtain⟨⟨rfl,hmem⟩,hlen⟩:=hc;split at ha;rename_i c' hput;cases ha;unfold BC.put at hput;let⟨hcc,hput⟩:=dO hput;simp only[ar]at hcc;let⟨⟨c1,c2⟩,c3⟩:=hcc;have c2:=aY c2;rw[bV]at c2;have hc':c'.toMx=splice blk.c.toMx 0 (src.take (mr m n*sz'))/\c'.isCells=J:=by
  split at hput;rename_i l ys hbl hys;cases hput;refine ⟨?_,rfl⟩;have hv:=sC hys;rw[hv,hbl];simp only[BC.toMx];unfold splice;simp[lh,List.map_drop];cases hput;exact⟨rfl,rfl⟩
 refine im.writes hblk λφ E h' w a hrd hb' hp hrep=>?_
 have hpd:=hp s _ (mn ho) hd;have hpx:=hp x _ (mn ho) hx;let⟨t,c,vs,hv,q1,q2,q3,q4⟩:=aa3 hrow (λsz hi=>hrd sz (by simp[hi])) hrep hpx;generalize hz:a.eval s=pv at hpd;cases hpd with
 |@I _ _ _ cap k hφ hn hcap hsh=>
  let⟨arr,g1,g2,g3⟩:=hrep.cs hb' hφ c1;rw[BC.len_toMx c1]at c2;have hmn:mr m n<=m:=Nat.min_le_left _ _;have hle:mr m n*sz'<=m*sz':=cD _ hmn
  let ns:=vs.take (mr m n*sz')
  have hnl:l! ns=mr m n*sz':=by simp only[ns,bm,q2];omega
  have hsl:l! (src.take (mr m n*sz'))=mr m n*sz':=by rw[bm,<-q1.1,q2];omega
  have csn:=q1.take (mr m n*sz');rw[hsl]at c2;have hst:=run_storeCells_at (P:=P) k 0 blk.ty ns 0 arr w g1 (by rw[hnl];omega) csn.one
  let arr':Array Value:=(arr.toList.take 0++ns++arr.toList.drop (0+mr m n*sz')).toArray
  have hsize:arr'.size=arr.size:=by simp only[arr',List.size_toArray,aQ,bm,fG,Array.length_toList,hnl];omega
  have hfc:(BU sz' (mr m n) (.slice t m c)).run P w= .ok ns.toArray w:=by
   cases t with
   |none=>
    have:ns=[]:=by simp[ns,q3 rfl]
    rw[this];exact run_firstCells_none w sz' _ _ _
   |some ad=>exact run_firstCells_some w sz' _ ad m c ns hnl (λj u hu=>q4 ad rfl j u (by
     simp only[ns,dF]at hu;split at hu;exact hu;cases hu))
  refine ⟨.value (.int .i64 (mr m n)),w.setRow k arr',k,.cells arr' blk.ty (0,0),?_,hφ,Kt.setRow g1 hsize,?_,_,.inl rfl,.f (.raw _)⟩;have s1:=gF hs w;simp only[dR,hnl]at hst;unfold execOp;rw[ho];simp[resolve,invoke,builtin,Builtin.copy_,run_underlying hu,hz,hv,Builtin.lenOf,s1,hfc,hst,goInt,arr'];refine sR hc'.2 (by rw[hc'.1,qL (by rw[hsl];omega),hsize];exact g3) λj q hq=>?_
  rw[hc'.1,rD (by rw[hsl];omega)]at hq;have ha':arr'[j]? =if j<0 then arr.toList[j]? else if j<0+l! ns then ns[j-0]? else arr.toList[j]? :=cf
  rw[ha',av M];rw[av M,hsl]at hq;rw[hnl];by_cases h2:j<0+mr m n*sz';rw[aD h2]at hq ⊢;have hj3:j-0<l! ns:=by rw[hnl];omega
  exact⟨csn.2.1 q (bh hq),_,aI hj3,csn.2.2 _ q _ hq (aI hj3)⟩;rw[av h2]at hq ⊢;have hj:j<l! blk.c.toMx:=(bG.1 hq).1;have hj2:j<l! arr.toList:=ye;refine ⟨g2.2.1 q (bh hq),arr.toList[j],aI hj2,g2.2.2 j q _ hq ?_⟩;rw[dF,aD hj,aI hj2]
 cases ha;cases ha;cases ha
def aE5 {el:TypeId} (ho:o.op= .call {callee:=.builtin .clear,args:=#[s],argTypes:=#[A]}) (hu:P.underlying A=Z (.slice el)) (hz:vY P el=Z k) (hc:oK k=J) (hl:l! k=i) (hsz:i≠0) (I:eE (.clr i k s) e h nx=Z R):im P o e.get h.get R.eff:=by
 simp only[eE]at I;split at I;rename_i id off n hx;split at I;rename_i blk hblk;let⟨hn,I⟩:=dO I;have hn:=aY hn;obtain⟨m,rfl⟩:∃m,n=m+1:=⟨n-1,M⟩
 split at I;rename_i c' hput;cases I;unfold BC.put at hput;let⟨hcc,hput⟩:=dO hput;simp only[ar]at hcc;let⟨⟨c1,c2⟩,c3⟩:=hcc;have c2:=aY c2;have hsrc:l! ((repl k (m+1)).map AV.f)=(m+1)*i:=by rw[bL,oU,hl]
 rw[hsrc]at c2;have hc':c'.toMx=splice blk.c.toMx off ((repl k (m+1)).map AV.f)/\c'.isCells=J:=by
  split at hput;rename_i l ys hbl hys;cases hput;refine ⟨?_,rfl⟩;have hv:=sC hys;rw[hv,hbl];simp only[BC.toMx];unfold splice;simp[lh,List.map_drop];cases hput;exact⟨rfl,rfl⟩
 refine im.writes hblk λφ E h' w a hrd hb' hp hrep=>?_
 have hpx:=hp s _ (mn ho) hx;generalize hzv:a.eval s=pv at hpx;cases hpx with
 |@sl _ _ _ cap z hφ hn2 hcap=>
  let⟨arr,g1,g2,g3⟩:=hrep.cs hb' hφ c1;rw[BC.len_toMx c1]at c2;let⟨v,z1,z2,_⟩:=wM hz w;have csn:=Cs.repl (φ:=φ) (O:=tot E φ h') (w:=w) z2 (m+1) i hl hsz hc
  let ns:=(m7 v.cells (m+1)).toList
  have hvs:v.cells.size=i:=by rw[<- hl,<-z2];simp
  have hns:ns=((I9 ((m+1)*i)).map (λsz=>v.cells[sz%v.cells.size]!)).toList:=by simp only[ns,m7,hvs]
  have hnl:l! ns=(m+1)*i:=by rw[hns];simp
  rw[<- hns]at csn;have hst:=run_storeCells_at (P:=P) z off blk.ty ns 0 arr w g1 (by rw[hnl];omega) csn.one
  let arr':Array Value:=(arr.toList.take (off+0)++ns++arr.toList.drop (off+0+l! ns)).toArray
  have hsize:arr'.size=arr.size:=cf;refine ⟨.value (.tuple #[]),w.setRow z arr',z,.cells arr' blk.ty (0,0),?_,hφ,Kt.setRow g1 hsize,?_,_,.inl rfl,.qd (vs:=[]) rfl λj y v hy=>by simp at hy⟩;unfold execOp;rw[ho];have hst2:(storeCells ⟨z,off,U⟩ (m7 v.cells (m+1)).toList).run P w= .ok () (w.setRow z arr'):=hst;simp[resolve,invoke,builtin,Builtin.clear_,run_underlying hu,hzv,z1,hst2];refine sR hc'.2 (by rw[hc'.1,qL (by rw[hsrc];omega),hsize];exact g3) λj q t=>?_
  rw[hc'.1,rD (by rw[hsrc];omega)]at t;have ha':arr'[j]? =if j<off then arr.toList[j]? else if j<off+l! ns then ns[j-off]? else arr.toList[j]? :=by
   have:=rD (l:=arr.toList) (vs:=ns) (off:=off) cf j;unfold splice at this
   grind
  rw[ha'];rw[hsrc]at t;rw[hnl];by_cases h1:j<off;rw[aD h1]at t ⊢;have hj:j<l! blk.c.toMx:=(bG.1 t).1;have hj2:j<l! arr.toList:=ye;refine ⟨g2.2.1 q (bh t),arr.toList[j],aI hj2,g2.2.2 j q _ t ?_⟩
  grind
  rw[av h1]at t ⊢;by_cases h2:j<off+(m+1)*i;rw[aD h2]at t ⊢;have hj3:j-off<l! ns:=by rw[hnl];omega
  exact⟨csn.2.1 q (bh t),_,aI hj3,csn.2.2 _ q _ t (aI hj3)⟩;rw[av h2]at t ⊢;have hj:j<l! blk.c.toMx:=(bG.1 t).1;have hj2:j<l! arr.toList:=ye;refine ⟨g2.2.1 q (bh t),arr.toList[j],aI hj2,g2.2.2 j q _ t ?_⟩
  grind
 cases I;cases I;cases I
end
def Sh (w:World) (ob:Obj):ZA w (w.drew.alloc ob) ob:=ZA.drawn (w.drawn+1) (ug {w with drawn:=w.drawn+1} ob)
section
variable {P:Program} {o:Oper} {e:xY} {h:iN} {nx:Nat} {R:Cp}
def Nd (q:v.cells.toList=k) (A:l! k=i) (n:Nat):(m7 v.cells n).size=n*i:=by
 have:v.cells.size=i:=cf;simp[m7,this]
def Qk {u el:TypeId} {x:Operand} {i:TypeInfo} (ho:o.op= .call {callee:=.builtin .append,args:=#[s,x],argTypes:=#[A,u]}) (hu:P.underlying A=Z (.slice el)) (i1:P.info? el=Z i) (hz:vY P el=Z k) (hzl:l! k=i.size)
 (hrep:rA T O N W) (hnx:T nx=U) {t:aj Addr} {n cap:Nat} {olds vs:ξ} {oldA:Y AV} (hsl:F.eval s= .slice t n cap)
 (hold:(BU i.size n (.slice t n cap)).run P W.drew= .ok olds.toArray W.drew) (csold:Cs T (tot O T N) W oldA olds) (hol:l! olds=n*i.size) (hsrc:Src P i.size u (F.eval x) m vs W) (hcs:Cs T (tot O T N) W C vs)
 (hg:cap<n+m) (r1:n+m<=1099511627776) (r2:(n+m)*i.bytes<=1099511627776) (del:ι) (hdel:∀j∈del,j≠nx):
 o.wp P F W (λa' w'=>∃v φ',a'=F.put o.dst v/\iX T φ' N (eD N (nx::del) (jZ [(nx,⟨el,qB (oldA++C)⟩)])) W w'/\(∀i z,φ' i=Z z->T i=Z z\/i∈[nx])/\
  rA φ' O (eD N (nx::del) (jZ [(nx,⟨el,qB (oldA++C)⟩)])) w'/\cC φ' (tot O φ' (eD N (nx::del) (jZ [(nx,⟨el,qB (oldA++C)⟩)]))) w' (.I nx i.size (n+m)) v) (λ_ _ _=>False):=by
 let⟨zv,z1,z2,i',i1',z3⟩:=wM hz W;rw[i1]at i1';cases i1';have hfb:=growslice_fits (need:=n+m) (old:=cap) (bytes:=i.bytes) hg M;have hrun:=run_append_grow_src W A u o.type el i zv hu i1 z3 t n cap olds hold (F.eval x) m vs hsrc hg M hfb;have hgc:=grownCap_ge W (n+m) cap el;have hgm:=grownCap_le_maxLen W (n+m) cap el (by unfold maxLen;omega);generalize grownCap W (n+m) cap el=Gc at hrun hgc hgm;have cs:=csold.append hcs;have hnl:=hsrc.newsLen;let⟨φ',p1,p2,p3,p4⟩:=hrep.wnew hnx (Sh W _) (b:=⟨el,qB (oldA++C)⟩) (ob:=.cells ((olds++vs).toArray++m7 zv.cells (Gc-(n+m))) el (0,0)) (by
  let⟨q1,q2⟩:=pM (oldA++C);refine sR q2 (by rw[q1,<-cs.1];simp) λj q hq=>?_
  rw[q1]at hq;have hj:j<l! (olds++vs):=by rw[cs.1];exact (bG.1 hq).1
  refine ⟨cs.2.1 q (bh hq),_,?_,cs.2.2 j q _ hq (aI hj)⟩;rw[Array.getElem?_append_left M,FU,aI hj]) del (jZ [(nx,⟨el,qB (oldA++C)⟩)]) (by simp[jZ]) (λj hj hne=>by
   simp only[jZ];rw[av];intro hb;exact hne (au hb).symm)
 have hexec:(execOp F.eval o).run P W= .ok (.value (.slice (Z ⟨W.heap.size,0,U⟩) (n+m) Gc)) (W.drew.alloc (.cells ((olds++vs).toArray++m7 zv.cells (Gc-(n+m))) el)):=by
  unfold execOp;rw[ho];simp[resolve,invoke,builtin,fA,oA,cI,List.map_toArray,d5,List.map_nil,hsl,hrun]
 unfold Ec;rw[hexec];refine ⟨_,φ',rfl,p2,p3,p4,.I p1 hgc hgm ⟨el,?_⟩⟩;have:=(Sh W (.cells ((olds++vs).toArray++m7 zv.cells (Gc-(n+m))) el (0,0))).at_;unfold qX;have hzs:=Nd z2 hzl (Gc-(n+m));have e1:(n+m)*i.size+(Gc-(n+m))*i.size=Gc*i.size:=by rw[<- ue];congr 1;omega
 grind
def aE9 {u el el':TypeId} {x:Operand} (ho:o.op= .call {callee:=.builtin .append,args:=#[s,x],argTypes:=#[A,u]}) (hu:P.underlying A=Z (.slice el)) (hu':P.underlying u=Z (.slice el')) (hs:gD P el=Z i) (hb:Kn P el=Z m) (hz:vY P el=Z k) (hzl:l! k=i) (hsz:i≠0)
 (ha:eE (.app el i m s x) e h nx=Z R):im P o e.get h.get R.eff:=by
 let⟨sz,i1,i2⟩:=TN hb;have i3:sz.size=i:=by unfold gD at hs;rw[i1]at hs;simpa using hs
 subst i2 i3;simp only[eE]at ha;split at ha;rename_i bv y hsv hx;split at ha;rename_i src bytes rd hrow;have common:∀{φ:PM} {E:Nat->Prop} {h':HF} {w:World} {a:Act},(∀sz∈rd,h' sz=h.get sz)->Wo φ E h' w a e o->rA φ E h' w->∃vs,Src P sz.size u (a.eval x) bytes vs w/\Cs φ (tot E φ h') w src vs:=
  λhrd hp hrep=>arn hrow hrd hrep (hp x _ (mn ho) hx) hu'
 have exec:∀{w w':World} {a:Act} {v:Value},(Kz #[A,u] o.type #[a.eval s,a.eval x]).run P w= .ok v w'->(execOp a.eval o).run P w= .ok (.value v) w':=by
  intro w w' a v hrun;unfold execOp;rw[ho];simp[resolve,invoke,builtin,hrun]
 split at ha;rename_i id sz' n;split at ha;rename_i blk hblk;split at ha;rename_i hc;simp only[ar,dz,dj]at hc;obtain⟨⟨⟨⟨⟨rfl,hmem⟩,hcells⟩,hlen⟩,hty⟩,hroom⟩:=hc;have hlen:=aY hlen;rw[BC.len_toMx hcells]at hlen;let⟨r1,r2⟩:=Hk hroom;cases ha;subst hty;intro φ E h' w a h1 h2 h3 hrep h5;have hp:Wo φ E h' w a e o:=λx y hx hy=>tG hrep h3 hx hy
 have hb':h' id=Z blk:=by rw[h1 id (by simp[Cp.eff])];exact hblk
 let⟨vs,hsrc,hcs⟩:=common (λsz hi=>h1 sz (by simp[Cp.eff,hi])) hp hrep;have hpd:=hp s _ (mn ho) hsv;have hnx:φ nx=U:=h5 nx (by simp[Cp.eff]);have hwv:=hp s _ (mn ho) hsv;generalize hzv:a.eval s=pv at hpd;cases hpd with
 |@I _ _ _ cap z hφ hn hcap hsh=>
  let⟨arr,g1,g2,g3⟩:=hrep.cs hb' hφ hcells;have hne:nx≠id:=λe=>by rw[e,hφ]at hnx;cases hnx
  have harr:arr.size=cap*sz.size:=by
   let⟨ty,hty⟩:=hsh;unfold qX at hty;rw[g1]at hty;simp at hty;exact hty.2
  have hnl:=hsrc.newsLen;have hnn:n*sz.size<=arr.size:=M;have csnew:Cs φ (tot E φ h') w (blk.c.toMx.take (n*sz.size)++src) (arr.toList.take (n*sz.size)++vs):=by
   have:=(g2.take (n*sz.size)).append hcs
   rwa [Ef,AM hlen]at this
  have hnw1:jZ [(nx,⟨blk.ty,qB (blk.c.toMx.take (n*sz.size)++src)⟩)] nx=Z ⟨blk.ty,qB (blk.c.toMx.take (n*sz.size)++src)⟩:=by simp[jZ]
  have hnw2:jZ [(nx,⟨blk.ty,qB (blk.c.toMx.take (n*sz.size)++src)⟩)] id=U:=by
   simp only[jZ];rw[av];intro hb;exact hne (au hb)
  by_cases hfit:n+bytes<=cap;have hend:n*sz.size+l! vs<=arr.size:=by
   rw[hnl,harr,<-ue];exact cD _ hfit
  have hst:=run_storeCells_at (P:=P) z (n*sz.size) blk.ty vs 0 arr w g1 M hsrc.one;simp only[dR]at hst
  let arr':Array Value:=(arr.toList.take (n*sz.size)++vs++arr.toList.drop (n*sz.size+l! vs)).toArray
  have hsize:arr'.size=arr.size:=by simp only[arr',List.size_toArray,aQ,bm,fG,Array.length_toList];omega
  have hrun:(Kz #[A,u] o.type #[a.eval s,a.eval x]).run P w= .ok (.slice (Z ⟨z,0,U⟩) (n+bytes) cap) (w.setRow z arr'):=by
   rw[hzv];rcases hsrc.kind with ⟨e',hk⟩|hk<;>simp[Kz,run_underlying hu,run_underlying hk,sizeOf,typeInfo,i1,hsrc.len,hfit,hsrc.cells,jL,hst,arr']
  let⟨φ',p1,p2,p3,p4⟩:=hrep.wren hb' hφ hnx (Kt.setRow g1 hsize) (b':=⟨blk.ty,qB (blk.c.toMx.take (n*sz.size)++src)⟩) (by
   let⟨q1,q2⟩:=pM (blk.c.toMx.take (n*sz.size)++src);refine sR q2 (by rw[q1,<-csnew.1,hsize];simp;omega) λj q hq=>?_
   rw[q1]at hq;have hj:j<l! (arr.toList.take (n*sz.size)++vs):=by rw[csnew.1];exact (bG.1 hq).1
   refine ⟨csnew.2.1 q (bh hq),_,?_,csnew.2.2 j q _ hq (aI hj)⟩;simp only[arr',FU];rw[cZ hj,aI hj]) _ hnw1 hnw2
  unfold Ec;rw[exec hrun];refine ⟨_,φ',rfl,p2,p3,p4,.I p1 hfit hcap ⟨blk.ty,?_⟩⟩;unfold qX;rw[setRow_heap w z arr arr' blk.ty (0,0) g1];simp[hsize,harr];have hold:(BU sz.size n (.slice (Z ⟨z,0,U⟩) n cap)).run P w.drew= .ok (arr.toList.take (n*sz.size)).toArray w.drew:=by
   refine run_firstCells_some w.drew sz.size n _ n cap _ ye λj v hv=>?_
   rw[dF]at hv;let⟨h9,hv⟩:=dO hv;rw[eV]at hv;rw[jL,bV];have hcl:w.cell? ⟨z,j,U⟩=Z v:=by simp[Ud,g1,hv]
   simpa using hcl
  exact Qk ho hu i1 hz hzl hrep hnx hzv hold (by
   have:=g2.take (n*sz.size)
   rwa [Ef,AM hlen]at this) ye hsrc hcs M r1 r2 [id] (λj hj=>by simp at hj;subst hj;exact λe=>hne e.symm)
 cases ha;cases ha;rename_i cells n;split at ha;rename_i hc;simp only[ar]at hc;let⟨hlen,hroom⟩:=hc;have hlen:=aY hlen;let⟨r1,r2⟩:=Hk hroom;split at ha;rename_i hm;have hm:bytes=0:=by simpa using hm
 subst hm;cases ha;refine im.reads λφ E h' w a hrd hp hrep=>?_
 let⟨vs,hsrc,hcs⟩:=common hrd hp hrep;have hr:=hp s _ (mn ho) hsv;generalize hz:a.eval s=q at hr;cases hr with
 |@qn _ _ t hr=>
  refine ⟨.slice t n n,exec ?_,.f hr⟩;rw[hz];have hvs:vs=[]:=by have:=hsrc.newsLen;simpa using this
  have hc0:=hsrc.cells;rw[hvs]at hc0;rcases hsrc.kind with ⟨e',hk⟩|hk<;>cases t<;>simp[Kz,run_underlying hu,run_underlying hk,sizeOf,typeInfo,i1,hsrc.len,hc0,storeCells]
 rename_i hm;have hm:bytes≠0:=by simpa using hm
 cases ha;intro φ E h' w a h1 h2 h3 hrep h5;have hp:Wo φ E h' w a e o:=λx y hx hy=>tG hrep h3 hx hy
 let⟨vs,hsrc,hcs⟩:=common (λsz hi=>h1 sz hi) hp hrep;have hr:=hp s _ (mn ho) hsv;generalize hz':a.eval s=q at hr;cases hr with
 |@qn _ _ t hr=>
  have key:∃olds:ξ,(BU sz.size n (.slice t n n)).run P w.drew= .ok olds.toArray w.drew/\Cs φ (tot E φ h') w ((cells.take (n*sz.size)).map .f) olds/\l! olds=n*sz.size:=by
   cases hr with
   |nil a c _=>
    refine ⟨[],?_,⟨b8,(by intro x hx;simp at hx),(by intro j x v hx;simp at hx)⟩,b8⟩;cases t with
    |none=>exact run_firstCells_none w.drew sz.size 0 0 0
    |some ad=>exact run_firstCells_some w.drew sz.size 0 ad 0 0 [] b8 (by intro j v hv;simp at hv)
   |sl _ _ c b off us hn hc hO hb hcl hu2 hrr=>
    refine ⟨(dV (n*sz.size)).map us,?_,⟨ye,?_,?_⟩,b8⟩;refine run_firstCells_some w.drew sz.size n _ n n _ b8 λj v hv=>?_
    rw[bH]at hv;rcases co j (n*sz.size) with hj|hj;rw[zC hj]at hv;simp only[cj,al]at hv;subst hv;rw[jL];exact hu2 j M;rw[eT (by simpa using hj)]at hv;cases hv;intro x hx;obtain⟨y,hy,rfl⟩:=cF.1 hx;exact hcl y (dL hy);intro j x v hx hv;rw[bH,dF]at hx;split at hx;rename_i hj;rw[bH,zC hj]at hv;simp only[cj,al]at hv;subst hv;cases hcj:cells[j]? with
    |none=>rw[hcj]at hx;cases hx
    |some y=>
     rw[hcj]at hx;simp only[cj,al]at hx;subst hx;exact .f (hrr j y hcj)
    cases hx
  let⟨olds,k1,k2,k3⟩:=key;have:=Qk (nx:=nx) ho hu i1 hz hzl hrep (h5 nx (by simp[Cp.eff])) hz' k1 k2 k3 hsrc hcs M r1 r2 [] b8;simpa[Cp.eff] using this
 cases ha;split at ha;rename_i hc;simp only[ar]at hc;let⟨hb0,hroom⟩:=hc;let⟨r1,r2⟩:=Hk hroom;have hbase:∀{φ:PM} {O:Nat->Prop} {w:World} {v:Value},cC φ O w bv v->∃t,v= .slice t 0 0:=by
  intro φ O w v hr;unfold JL at hb0;split at hb0;cases hr;exact⟨_,rfl⟩;rename_i q;cases dX hr;unfold Ez at hb0;split at hb0;exact⟨_,rfl⟩;cases hb0;cases hb0
 split at ha;rename_i hm;have hm:bytes=0:=by simpa using hm
 subst hm;cases ha;refine im.reads λφ E h' w a hrd hp hrep=>?_
 let⟨vs,hsrc,hcs⟩:=common hrd hp hrep;have hr:=hp s _ (mn ho) hsv;let⟨t,hA⟩:=hbase hr;refine ⟨a.eval s,exec ?_,hr⟩;rw[hA];have hvs:vs=[]:=by have:=hsrc.newsLen;simpa using this
 have hc0:=hsrc.cells;rw[hvs]at hc0;rcases hsrc.kind with ⟨e',hk⟩|hk<;>cases t<;>simp[Kz,run_underlying hu,run_underlying hk,sizeOf,typeInfo,i1,hsrc.len,hc0,storeCells];rename_i hm;have hm:bytes≠0:=by simpa using hm
 cases ha;intro φ E h' w a h1 h2 h3 hrep h5;have hp:Wo φ E h' w a e o:=λx y hx hy=>tG hrep h3 hx hy
 let⟨vs,hsrc,hcs⟩:=common (λsz hi=>h1 sz hi) hp hrep;let⟨t,hA⟩:=hbase (hp s _ (mn ho) hsv);have hold:(BU sz.size 0 (.slice t 0 0)).run P w.drew= .ok ([]:ξ).toArray w.drew:=by
  cases t with
  |none=>exact run_firstCells_none w.drew sz.size 0 0 0
  |some ad=>exact run_firstCells_some w.drew sz.size 0 ad 0 0 [] b8 (by intro j v hv;simp at hv)
 have:=Qk (nx:=nx) (n:=0) (cap:=0) (olds:=[]) (oldA:=[]) ho hu i1 hz hzl hrep (h5 nx (by simp[Cp.eff])) hA hold ⟨rfl,(by intro x hx;cases hx),(by intro j x v hx;simp at hx)⟩ b8 hsrc hcs M M (by simpa using r2) [] b8;simpa[Cp.eff] using this;cases ha;cases ha;cases ha
end
section
variable {P:Program} {o:Oper} {e:xY} {h:iN} {nx:Nat} {R:Cp}
def aDw (t:o.op= .makeMap A U) (I:eE .mkm e h nx=Z R):im P o e.get h.get R.eff:=by
 cases I;refine im.makes λφ E h' w a _ _ _=>?_
 refine ⟨.map (Z w.heap.size),{w with heap:=w.heap.push (.map #[] 0)},.map #[] 0,?_,ug w _,⟨#[],0,rfl,by unfold MpK;rfl,by intro j x q;simp at q⟩,λφ' O hφ=>.mp hφ⟩;unfold execOp;rw[t];simp[Instr.makeMap,newObj,sK]
def aDr (t:o.op= .range A s) (hu:P.underlying A=Z .string) (q:eE (.rng s) e h nx=Z R):im P o e.get h.get R.eff:=by
 simp[eE]at q;split at q;rename_i x I;cases q;refine im.makes λφ E h' w a _ hp _=>?_
 have hr:=dX (hp s _ (mn t) I);refine ⟨.pointer (Z ⟨w.heap.size,0,U⟩),{w with heap:=w.heap.push (.stringIter x 0)},.stringIter x 0,?_,ug w _,rfl,λφ' O hφ=>.K hφ⟩;unfold execOp;rw[t];simp[Instr.range,run_underlying hu,hr,newObj,sK];cases q
def Nf {ob ob':Obj} (hk:W.heap[i]? =Z ob) (h1:∀c t f,ob≠ .cells c t f) (h2:∀c t f,ob'≠ .cells c t f):Kt W {W with heap:=W.heap.setIfInBounds i ob'} i ob':=by
 have hlt:i<W.heap.size:=(c9.1 hk).1;have hat:(W.heap.setIfInBounds i ob')[i]? =Z ob':=by simp[hlt]
 have hot:∀j,j≠i->(W.heap.setIfInBounds i ob')[j]? =W.heap[j]? :=λj hj=>Array.getElem?_setIfInBounds_ne (λe=>hj e.symm)
 refine ⟨rfl,rfl,rfl,b8,hat,hot,λj=>?_⟩;unfold qX
 grind
def aDs (ho:o.op= .next s J) (q:eE (.nxt s) e h nx=Z R):im P o e.get h.get R.eff:=by
 simp only[eE]at q;split at q;rename_i id hx;split at q;rename_i ty x p hid;split at q;rename_i b hb;cases q;refine im.writes hid λφ E h' w a hrd hb' hp hrep=>?_
 have hr:=hp s _ (mn ho) hx;generalize hz:a.eval s=z at hr;cases hr with
 |@K _ _ k hφ=>
  let⟨k',q1,_,ob,q2,q3⟩:=hrep.at_ id _ hb';rw[hφ]at q1;cases q1;have q3:ob= .stringIter x p:=q3;subst q3;have hps:p<x.size:=by
   have:=(bG.1 hb).1;simpa using this
  have hget:x.get! p=b:=by
   have:x.data[p]? =Z b:=cf;have hpd:p<x.data.size:=(c9.1 this).1;have h2:x.data[p]! =x.data[p]:=getElem!_pos x.data p hpd;rw[qJ hpd]at this;simp only[ByteArray.get!,h2];exact gH this
  have hdec:∃c:Nat,Utf8.decode x p=(c,wdA b x p)/\rnA b x p=(c:Int):=by
   unfold wdA rnA;cases hlt:dE b.toNat 128 with
   |true=>
    refine ⟨b.toNat,?_,rfl⟩;have:=aY hlt;unfold Utf8.decode
    grind
   |false=>exact⟨(Utf8.decode x p).1,rfl,rfl⟩
  let⟨c,hdec,hc⟩:=hdec;refine ⟨.value (.tuple #[.bool J,.int .i64 p,.int .i32 c]),_,k,.stringIter x (p+wdA b x p),?_,hφ,Nf q2 b8 b8,rfl,_,.inl rfl,?_⟩;unfold execOp;rw[ho];simp[Instr.next,hz,getObj,sK,q2,hps,hdec,setObj,goInt];refine cC.qd (vs:=[.bool J,.int .i64 p,.int .i32 c]) rfl λj y v A I=>?_
  rw[hc]at A;rcases j with _|_|_|j<;>simp at A I;subst A I;exact .f (.raw _);subst A I;exact .f (.raw _);subst A I;exact .f (.raw _)
 rename_i hb;cases q;refine im.writes hid λφ E h' w a hrd hb' hp hrep=>?_
 have hr:=hp s _ (mn ho) hx;generalize hz:a.eval s=z at hr;cases hr with
 |@K _ _ k hφ=>
  let⟨k',q1,_,ob,q2,q3⟩:=hrep.at_ id _ hb';rw[hφ]at q1;cases q1;have q3:ob= .stringIter x p:=q3;subst q3;have hps:¬p<x.size:=by simp_all
  refine ⟨.value (.tuple #[.bool af]),w,k,.stringIter x p,?_,hφ,⟨rfl,rfl,rfl,rfl,q2,λ_ _=>rfl,λ_=>rfl⟩,rfl,_,.inl rfl,?_⟩;unfold execOp;rw[ho];simp[Instr.next,hz,getObj,sK,q2,hps];refine cC.qd (vs:=[.bool af]) rfl λj y v A I=>?_
  rcases j with _|j<;>simp at A I;subst A I;exact .f (.raw _)
 cases q;cases q
def D5 {a b:ByteArray}:uS a b=J↔a=b:=by
 unfold uS;constructor;intro h;have h1:a.data.toList=b.data.toList:=cf;cases a;simp_all;rintro rfl;simp
def Km (a b:ByteArray):(a==b)=uS a b:=by
 have h1:(a==b)=(a.data==b.data):=rfl;rw[h1,Bool.eq_iff_iff,D5,dz];constructor;intro h;cases a;congr 1;rintro rfl;rfl
def kd (str:Bool) (d:TypeDesc):Prop:=if str then d= .string else ∃k,d= .int k
def Hi {str:Bool} {d:TypeDesc} (hd:kd str d) {I:Value} (hk:Df str v=J) (A:xX .eql v I=Z (.bool b)):Instr.sameNow d v I=Z b:=by
 cases str with
 |true=>
  subst hd;cases v<;>simp[Df]at hk;cases I<;>simp only[xX]at A<;>try (simp at A;done)
  simp[al,GR]at A;simp[Instr.sameNow,Km,A]
 |false=>
  obtain⟨q,rfl⟩:=hd;cases v<;>simp[Df]at hk;cases I<;>simp only[xX]at A<;>try (simp at A;done)
  let⟨hkk,A⟩:=dO A;have hkk':=eq_of_beq hkk;subst hkk';simp[al,GR]at A;simp[Instr.sameNow,<-A]
def Yh {d:TypeDesc} (hd:kd b d) (hk:Df b v=J):∀(A:Y C!) (ents:Y MapEntry) (i:Nat),ents.map (·.key)=A.map (·.1)->∀r,wy v A=Z r->
 (r=U/\oN d v ents i=Z U)\/∃(j:Nat) (k:AV) (m:MapEntry) (I:Value),r=Z k/\A[j]? =Z (I,k)/\ents[j]? =Z m/\oN d v ents i=Z (Z (i+j,m.val))/\xX .eql v I=Z (.bool J)
 |[],ents,i,he,r,h=>by
  cases ents with
  |nil=>simp[wy,al]at h;exact .inl ⟨h.symm,rfl⟩
  |cons _ _=>simp at he
 |(I,k)::A,ents,i,he,r,h=>by
  cases ents with
  |nil=>simp at he
  |cons m ents=>
   simp[d5,jC]at he;let⟨q,he2⟩:=he;simp[wy]at h;split at h;rename_i hb;simp[al]at h;refine .inr ⟨0,k,m,I,h.symm,rfl,rfl,?_,hb⟩;simp only[oN];rw[q,Hi hd hk hb];rfl;rename_i hb;have hs:=Hi hd hk hb;rcases Yh hd hk A ents (i+1) he2 r h with ⟨h1,h2⟩|⟨j,v',m',k'',h1,h2,h3,h4,h5⟩;refine .inl ⟨h1,?_⟩;simp[oN];rw[q,hs];exact h2;refine .inr ⟨j+1,v',m',k'',h1,by simpa using h2,by simpa using h3,?_,h5⟩;simp[oN]
   grind
   cases h
def Hj {d:TypeDesc} (I:P.underlying A=Z d) (hd:kd b d) (str:Bool) (v:Value) (w:World):(Instr.checkKey str 10000 A v).run P w= .ok () w:=by
 have key:∀n,(Instr.checkKey str (n+1) A v).run P w= .ok () w:=λn=>by
  unfold kd at hd;cases b with
  |true=>cases hd;simp[Instr.checkKey,run_underlying I]
  |false=>simp[cE,dQ]at hd;obtain⟨q,rfl⟩:=hd;simp[Instr.checkKey,run_underlying I]
 exact key 9999
def ami {ok:Bool} (h:cC T O W y v):cC T O W (pkV ok y b) (if ok then .tuple #[v,.bool b] else v):=by
 cases ok with
 |false=>exact h
 |true=>
  refine cC.qd (vs:=[v,.bool b]) rfl λj x u q A=>?_
  rcases j with _|_|j<;>simp at q A
  grind
  subst q A;exact .f (.raw _)
def ax5 {kt el:TypeId} {k:Operand} {str:Bool} {d:TypeDesc} (ho:o.op= .lookup A s k b) (hu:P.underlying A=Z (.map kt el)) (hk:P.underlying kt=Z d) (hd:kd str d) (I:(P.info? el).bind (·.zero)=Z v) (q:eE (.lku str b v s k) e h nx=Z R):im P o e.get h.get R.eff:=by
 simp only[eE]at q;split at q;rename_i id key hx hkx;split at q;rename_i es hid;let⟨hko,q⟩:=dO q;have fin:∀val:AV,(∀(φ:PM) (E:Nat->Prop) (h':HF) (w:World) (a:Act),h' id=Z ⟨0,.mp es⟩->Wo φ E h' w a e o->rA φ E h' w->∃z,(execOp a.eval o).run P w= .ok (.value z) w/\cC φ (tot E φ h') w val z)->R=⟨val,[id],[],[],[]⟩->im P o e.get h.get R.eff:=by
  rintro val hv rfl;exact im.reads λφ E h' w a hrd hp hrep=>hv φ E h' w a (by rw[hrd id b8];exact hid) hp hrep
 have zrun:∀w:World,(zeroValue el).run P w= .ok v w:=λw=>by
  cases hi:P.info? el with
  |none=>rw[hi]at I;cases I
  |some i=>rw[hi]at I;simp only[aH]at I;simp[zeroValue,typeInfo,hi,I]
 have main:∀r,wy key es=Z r->∀(φ:PM) (E:Nat->Prop) (h':HF) (w:World) (a:Act),h' id=Z ⟨0,.mp es⟩->Wo φ E h' w a e o->rA φ E h' w->
  ∃z,(execOp a.eval o).run P w= .ok (.value z) w/\cC φ (tot E φ h') w (match r with|some z=>pkV b z J|none=>pkV b (raw v) af) z:=by
  intro r hr φ E h' w a hb' hp hrep;have hrx:=hp s _ (mn ho) hx;have hrk:=dX (hp k _ (mn ho) hkx);generalize t:a.eval s=zz at hrx;cases hrx with
  |@mp _ ok hφ=>
   let⟨k',q1,_,ob,q2,q3⟩:=hrep.at_ id _ hb';rw[hφ]at q1;cases q1;obtain⟨ents,clock,rfl,q4,q5⟩:=q3;have q4:ents.toList.map (·.key)=es.map (·.1):=by unfold MpK at q4;exact q4
   have hck:=Hj (P:=P) hk hd ents.isEmpty key w;rcases Yh hd hko es ents.toList 0 q4 r hr with ⟨h1,h2⟩|⟨j,z,m,k',h1,h2,h3,h4,_⟩;subst h1;refine ⟨_,?_,ami (.f (.raw v))⟩;unfold execOp;rw[ho];cases b<;>simp[Instr.lookup,run_underlying hu,t,hrk,getObj,sK,q2,hck,Instr.findKey,run_underlying hk,h2,zrun];subst h1;let⟨_,h6,h7⟩:=q5 j _ h2;unfold MpV at h6;obtain⟨m',h6,rfl⟩:=h6;rw[eV]at h3;rw[h3]at h6;cases h6;refine ⟨_,?_,ami h7⟩;unfold execOp;rw[ho];cases b<;>simp[Instr.lookup,run_underlying hu,t,hrk,getObj,sK,q2,hck,Instr.findKey,run_underlying hk,h4]
 split at q;rename_i z hf;simp only[al]at q;exact fin _ (main _ hf) q.symm;rename_i hf;simp only[al]at q;exact fin _ (main _ hf) q.symm;cases q;cases q;cases q
def af2 {d:TypeDesc} (hd:kd b d) (hk:Df b v=J) {k:AV}:∀(q es':Y C!) (ents:Y MapEntry) (i:Nat),ents.map (·.key)=q.map (·.1)->C' v k q=Z es'->
 (oN d v ents i=Z U/\es'=q++[(v,k)])\/∃(j:Nat) (m:MapEntry) (I:Value) (v':AV),q[j]? =Z (I,v')/\ents[j]? =Z m/\oN d v ents i=Z (Z (i+j,m.val))/\xX .eql v I=Z (.bool J)/\es'=q.set j (v,k)
 |[],es',ents,i,he,h=>by
  cases ents with
  |nil=>simp[C',al]at h;exact .inl ⟨rfl,by simp[h]⟩
  |cons _ _=>simp at he
 |(I,v')::q,es',ents,i,he,h=>by
  cases ents with
  |nil=>simp at he
  |cons m ents=>
   simp[d5,jC]at he;let⟨A,he2⟩:=he;simp[C']at h;split at h;rename_i hb;simp[al]at h;refine .inr ⟨0,m,I,v',rfl,rfl,?_,hb,by simp[h]⟩;simp only[oN];rw[A,Hi hd hk hb];rfl;rename_i hb;have hs:=Hi hd hk hb;split at h;rename_i es2 hes2;cases h;rcases af2 hd hk q es2 ents (i+1) he2 hes2 with ⟨h1,h2⟩|⟨j,m',k'',v'',h1,h2,h3,h4,h5⟩;refine .inl ⟨?_,by simp[h2]⟩;simp[oN];rw[A,hs];exact h1;refine .inr ⟨j+1,m',k'',v'',by simpa using h1,by simpa using h2,?_,h4,by simp[h5]⟩;simp[oN]
   grind
   cases h;cases h
def aoi {A:Value} (hk:Df b v=J) (q:xX .eql v A=Z (.bool J)):Instr.sameBits 10000 A v=J/\A=v:=by
 cases b with
 |true=>
  cases v<;>simp[Df]at hk;cases A<;>simp only[xX]at q<;>try (simp at q;done)
  simp[al,GR]at q;have:=D5.1 q;subst this;exact⟨by simp[Instr.sameBits,Km,q],rfl⟩
 |false=>
  cases v<;>simp[Df]at hk;cases A<;>simp only[xX]at q<;>try (simp at q;done)
  let⟨hkk,q⟩:=dO q;have hkk':=eq_of_beq hkk;subst hkk';simp[al,GR,dz]at q;subst q;exact⟨by simp[Instr.sameBits],rfl⟩
def ax4 {kt el:TypeId} {k y:Operand} {str:Bool} {d:TypeDesc} (ho:o.op= .mapUpdate A s k y) (hu:P.underlying A=Z (.map kt el)) (hk:P.underlying kt=Z d) (hd:kd str d) (I:eE (.mup str s k y) e h nx=Z R):im P o e.get h.get R.eff:=by
 simp only[eE]at I;split at I;rename_i id key v hx hkx hy;split at I;rename_i t hid;let⟨hko,I⟩:=dO I;split at I;rename_i es' hput;cases I;refine im.writes hid λφ E h' w a hrd hb' hp hrep=>?_
 have hrx:=hp s _ (mn ho) hx;have hrk:=dX (hp k _ (mn ho) hkx);have hry:=hp y _ (mn ho) hy;generalize hz':a.eval s=zz at hrx;cases hrx with
 |@mp _ b hφ=>
  let⟨k',q1,_,ob,q2,q3⟩:=hrep.at_ id _ hb';rw[hφ]at q1;cases q1;obtain⟨ents,clock,rfl,q4,q5⟩:=q3;have q4:ents.toList.map (·.key)=t.map (·.1):=by unfold MpK at q4;exact q4
  have q5:∀(j:Nat) s,t[j]? =Z s->∃m,ents[j]? =Z m/\cC φ (tot E φ h') w s.2 m.val:=λj s hx=>by
   let⟨_,g1,g2⟩:=q5 j s hx;unfold MpV at g1;obtain⟨m,g1,rfl⟩:=g1;exact⟨m,g1,g2⟩
  have SK:∀(t:Y C!) (ents:Array MapEntry) (clock:Nat),ents.toList.map (·.key)=t.map (·.1)->(∀(j:Nat) s,t[j]? =Z s->∃m,ents[j]? =Z m/\cC φ (tot E φ h') w s.2 m.val)->kn φ (tot E φ h') w ⟨0,.mp t⟩ (.map ents clock):=λt ents clock g1 g2=>⟨ents,clock,rfl,by unfold MpK;exact g1,λj s hx=>by
   let⟨m,g3,g4⟩:=g2 j s hx;exact⟨_,by unfold MpV;exact⟨m,g3,rfl⟩,g4⟩⟩
  have hck:=Hj (P:=P) hk hd af key w;have hlen:ents.size=l! t:=by have:=eZ ah q4;simpa using this
  rcases af2 hd hko t es' ents.toList 0 q4 hput with ⟨h1,rfl⟩|⟨j,m,k',v',h1,h2,h3,h4,rfl⟩;refine ⟨.skip,_,b,.map (ents.push {key,val:=a.eval y,born:=clock}) (clock+1),?_,hφ,Nf q2 b8 b8,SK _ _ _ (by simp[q4]) λj q hq=>?_,undef,.inr ⟨rfl,rfl⟩,.f (.raw _)⟩;unfold execOp;rw[ho];simp[Instr.mapUpdate,run_underlying hu,hz',hrk,getObj,sK,q2,hck,Instr.findKey,run_underlying hk,h1,setObj];rcases co j (l! t) with hj|hj
  grind
  rw[cL hj]at hq;have hj0:j-l! t=0:=cf;rw[hj0]at hq;simp at hq;subst hq;exact⟨_,by rw[Array.getElem?_push,aD M],hry⟩;let⟨s1,s2⟩:=aoi hko h4;subst s2;rw[eV]at h2;rw[bV]at h3;have hjl:j<ents.size:=(c9.1 h2).1;have hmk:m.key=k':=by
   have e1:(ents.toList.map (·.key))[j]? =Z m.key:=by rw[bH,eV,h2];rfl
   rw[q4,bH,h1]at e1;simpa using e1.symm
  refine ⟨.skip,_,b,.map (ents.modify j λe=>{e with key:=k',val:=a.eval y}) clock,?_,hφ,Nf q2 b8 b8,SK _ _ _ ?_ λi q hq=>cf,undef,.inr ⟨rfl,rfl⟩,.f (.raw _)⟩;unfold execOp;rw[ho];simp[Instr.mapUpdate,run_underlying hu,hz',hrk,getObj,sK,q2,hck,Instr.findKey,run_underlying hk,h3,setObj,h2,hmk,Instr.keyThatStays,s1];apply List.ext_getElem?;intro i;simp only[bH,eV,gy,Array.getElem?_modify];have e2:∀i:Nat,(ents[i]?).map (λm:MapEntry=>m.key)=(t[i]?).map (λp:Value×AV=>p.1):=λi=>by
   have:=eZ (λl=>l[i]?) q4;simpa[bH,eV] using this
  grind
 cases I;cases I;cases I
end
section
variable {P:Program} {o:Oper} {e:xY} {h:iN} {nx:Nat} {R:Cp}
def Xb {d:TypeDesc} (t:P.underlying A=Z d) (hd:(match d with|.int _=>J|.bool=>J|.string=>J|_=>af)=J) (cs:Array Value) (j:Nat) (v:Value) (q:cs[j]? =Z v) (w:World):(part A cs j).run P w= .ok v w:=by
 unfold part;simp[isAgg,fA,run_underlying t,cI];cases d<;>simp at hd<;>simp[q]
def aje {d:TypeDesc} (q:P.underlying A=Z d) (hd:(match d with|.int _=>J|.bool=>J|.string=>J|_=>af)=J) {x y:FV} (hxy:Bx d x y=Z b) {u:Value} (hx:x= .raw u) (I:y= .raw v) (n:Nat) (w:World):(Op.equalIn (n+1) A u v).run P w= .ok b w:=by
 subst hx I;cases d<;>simp at hd<;>cases u<;>cases v<;>simp only[Bx]at hxy<;>first|(cases hxy;done)|skip
 cases hxy;simp[Op.equalIn,run_underlying q];split at hxy;rename_i hk;have t:=eq_of_beq hk;subst t;cases hxy;simp[Op.equalIn,run_underlying q];cases hxy;cases hxy;simp[Op.equalIn,run_underlying q,Km]
abbrev Vn (n:Nat) (xs q:Array Value) (f:Field) (_:aj Bool×Unit):Sem (ForInStep (aj Bool×Unit)):=
 if f.name≠ "_" then do
  let a←part f.type xs f.offset
  let b←part f.type q f.offset
  let c←Op.equalIn (n+1) f.type a b
  if (!c)=J then pure (ForInStep.done (Z af,())) else pure (ForInStep.yield (U,()))
 else pure (ForInStep.yield (U,()))
def Tf (n:Nat) (w:World) (xs A:Array Value):∀(fs:Y Field) (ds:Y TypeDesc) (a b:Y FV) (k:Nat) (r:Bool),ww P k fs=Z ds->
 (∀(j:Nat) x u,a[j]? =Z x->xs[k+j]? =Z u->x= .raw u\/∀v,x≠ .raw v)->(∀(j:Nat) x u,b[j]? =Z x->A[k+j]? =Z u->x= .raw u\/∀v,x≠ .raw v)->(∀(j:Nat),j<l! a->k+j<xs.size)->(∀(j:Nat),j<l! b->k+j<A.size)->tH ds a b=Z r->
 (forIn fs (U,()) (Vn n xs A)).run P w= .ok (if r then (U,()) else (Z af,())) w
 |[],ds,a,b,k,r,hp,_,_,_,_,he=>by
  cases hp;cases a<;>cases b<;>cases he;simp
 |f::fs,ds,a,b,k,r,hp,ha,hb,hla,hlb,he=>by
  simp only[ww]at hp;split at hp;rename_i d ds' hu hp';let⟨hc,hp⟩:=dO hp;simp only[ar,bne_iff_ne,ne_eq,dz]at hc;let⟨⟨hn,hof⟩,hd⟩:=hc;cases hp;cases a with
  |nil=>cases b<;>simp[tH]at he
  |cons x a=>
   cases b with
   |nil=>simp[tH]at he
   |cons y b=>
    simp only[tH]at he;have hx1:k<xs.size:=by have:=hla 0 b8;omega
    have hy1:k<A.size:=by have:=hlb 0 b8;omega
    have hraw:∀(z:FV) (q:Value),(z= .raw q\/∀v,z≠ .raw v)->(∃v,z= .raw v)->z= .raw q:=by
     rintro z q (h|h) ⟨v,hv⟩;exact h;exact bi hv (h v)
    have hxr:∀I,Bx d x y=Z I->x= .raw xs[k]/\y= .raw A[k]:=by
     intro I hbb;have hrr:(∃v,x= .raw v)/\∃v,y= .raw v:=by
      unfold Bx at hbb;split at hbb;exact⟨⟨_,rfl⟩,⟨_,rfl⟩⟩;exact⟨⟨_,rfl⟩,⟨_,rfl⟩⟩;exact⟨⟨_,rfl⟩,⟨_,rfl⟩⟩;cases hbb
     exact⟨hraw x _ (ha 0 x _ rfl (by simp[hx1])) hrr.1,hraw y _ (hb 0 y _ rfl (by simp[hy1])) hrr.2⟩
    have hstep:∀I,Bx d x y=Z I->(Vn n xs A f (U,())).run P w= .ok (if I then ForInStep.yield (U,()) else ForInStep.done (Z af,())) w:=by
     intro I hbb;let⟨h1,h2⟩:=hxr I hbb;have p1:=Xb hu (by cases d<;>simp[NF]at hd<;>rfl) xs k xs[k] (by simp[hx1]) w;have p2:=Xb hu (by cases d<;>simp[NF]at hd<;>rfl) A k A[k] (by simp[hy1]) w;have p3:=aje hu (by cases d<;>simp[NF]at hd<;>rfl) hbb h1 h2 n w;unfold Vn;rw[aD hn,hof];simp only[fA,p1,p2,p3,cI];cases I<;>simp
    rw[List.forIn_cons];simp only[fA];split at he;rename_i hbb;rw[hstep J hbb];simp only[cI,bC];exact Tf n w xs A fs ds' a b (k+1) r hp' (λj x u h1 h2=>ha (j+1) x u (by simpa using h1) (by rw[<- h2];congr 1;omega)) (λj x u h1 h2=>hb (j+1) x u (by simpa using h1) (by rw[<- h2];congr 1;omega))
     (λj hj=>by have:=hla (j+1) (by simpa using hj);omega) (λj hj=>by have:=hlb (j+1) (by simpa using hj);omega) he
    rename_i hbb;rw[hstep af hbb];cases he;simp;cases he
  cases hp
def ajd {t:Array Field} (I:P.underlying A=Z (.struct t)) (hs:P.stoodInHeld A=af) {ds:Y TypeDesc} (hp:ww P 0 t.toList=Z ds) (xs q:Array Value) {a r:Y FV} 
 (ha:∀(j:Nat) x u,a[j]? =Z x->xs[j]? =Z u->x= .raw u\/∀v,x≠ .raw v) (hb:∀(j:Nat) x u,r[j]? =Z x->q[j]? =Z u->x= .raw u\/∀v,x≠ .raw v) (hla:l! a=xs.size) (hlb:l! r=q.size) (he:tH ds a r=Z b) (w:World):
 (Op.equal A (.agg xs) (.agg q)).run P w= .ok b w:=by
 have key:∀n,(Op.equalIn (n+2) A (.agg xs) (.agg q)).run P w= .ok b w:=by
  intro n;rw[Op.equalIn];have h1:=Tf (P:=P) n w xs q t.toList ds a r 0 b hp (λj x u h1 h2=>ha j x u h1 cf) (λj x u h1 h2=>hb j x u h1 cf) (λj hj=>M) (λj hj=>M) he;rw[Array.forIn_toList]at h1;simp only[fA,run_underlying I,cI,program,sK,hs,cE,dQ];have h2:(forIn t (U,()) (λf __s=>Vn n xs q f __s)).run P w= .ok (if b then (U,()) else (Z af,())) w:=h1;rw[h2];cases b<;>simp
 exact key 9998
def Yp {q:Array Field} (hu:P.underlying A=Z (.struct q)) {ds:Y TypeDesc} (hp:ww P 0 q.toList=Z ds):P.eqGuardType P.depth A=af:=by
 have key:∀(q:Y Field) (k:Nat) (ds:Y TypeDesc),ww P k q=Z ds→∀d,(q.any λf=>f.name != "_" &&P.eqGuardType (d+1) f.type)=af:=by
  intro q;induction q with
  |nil=>intros;rfl
  |cons f q ih=>
   intro k ds hp d;simp only[ww]at hp;split at hp;rename_i dd ds' t I;let⟨hc,hp⟩:=dO hp;simp[ar]at hc;have:P.eqGuardType (d+1) f.type=af:=by
    unfold Program.eqGuardType;rw[t];have:=hc.2;cases dd<;>simp[NF]at this<;>rfl
   simp only[List.any_cons,this,Bool.and_false,vG];exact ih (k+1) ds' I d;cases hp
 unfold Program.depth Program.eqGuardType;rw[hu];simp only[];rw[← Array.any_toList];exact key q.toList 0 ds hp _
def ax6 {t':TypeId} {op:BinOp} {neg:Bool} {y:Operand} {fs:Array Field} {ds:Y TypeDesc} (ho:o.op= .binOp op A s y t') (hop:op=if neg then .neq else .eql) (I:P.underlying A=Z (.struct fs)) (hs:P.stoodInHeld A=af) (hp:ww P 0 fs.toList=Z ds) (q:eE (.jm neg ds s y) e h nx=Z R):im P o e.get h.get R.eff:=by
 simp[eE]at q;split at q;rename_i a b t hy;split at q;rename_i r hr;rw[dl q];refine im.reads λφ E h' w ac _ hpp _=>?_
 have h1:=hpp s _ (mn ho) t;have h2:=hpp y _ (mn ho) hy;generalize hzx:ac.eval s=zx at h1;generalize hzy:ac.eval y=zy at h2;have rawOr:∀(l:Y FV) (vs:ξ),(∀(j:Nat) s v,l[j]? =Z s->vs[j]? =Z v->oz (tot E φ h') w s v)->∀(j:Nat) s u,l[j]? =Z s->vs.toArray[j]? =Z u->s= .raw u\/∀v,s≠ .raw v:=by
  intro l vs hr j s u t I;have:=hr j s u t cf;cases this with
  |raw v=>exact .inl rfl
  |_=>exact .inr b8
 cases h1 with
 |f h1=>
  cases h1 with
  |agg _ vs hl hcl hr1=>
   cases h2 with
   |f h2=>
    cases h2 with
    |agg _ us hl' hcl' hr2=>
     have heq:=ajd I hs hp vs.toArray us.toArray (rawOr a vs hr1) (rawOr b us hr2) cf cf hr w;refine ⟨_,?_,.f (.raw _)⟩;have hg:=Yp I hp;unfold execOp;rw[ho];simp[hzx,hzy];subst hop;cases neg<;>simp[eqGuard,program,sK,hg,binOp,heq]
 cases q;cases q
end
def bind_some {β:Type} {x:aj R} {f:R->aj β} {y:β} (h:x.bind f=Z y):∃a,x=Z a/\f a=Z y:=by
 cases x with
 |none=>cases h
 |some a=>exact⟨a,rfl,h⟩
def map_some {β:Type} {x:aj R} {f:R->β} {y:β} (h:x.map f=Z y):∃a,x=Z a/\f a=y:=by simp_all
def mI {x:aj R} {y:R} (h:(if b then x else U)=Z y):b=J/\x=Z y:=cf
def Hx {e:xY} {h:iN} {s:T5} {R:Cp} (A:cY P d.op=Z s) (ha:eE s e h i=Z R):im P d e.get h.get R.eff:=by
 unfold cY at A;split at A;rename_i x I;cases A;exact aDv (.inl I) ha;rename_i x I;cases A;exact aDv (.inr I) ha;rename_i c a b I;cases A;exact azp I ha;rename_i t I;let⟨z,h1,A⟩:=bind_some A;let⟨h2,A⟩:=mI A;cases A;exact aum I h1 h2 ha;rename_i t x I;cases A;exact aE8 I ha;rename_i t ps I;split at A;rename_i fs hu;let⟨z,h1,A⟩:=bind_some A;let⟨h2,A⟩:=mI A;obtain⟨ps',h3,rfl⟩:=map_some A;simp only[ar]at h2;exact ahm I h1 h2.1 h3 (.inl ⟨fs,hu,h2.2⟩) ha;rename_i n el hu;let⟨z,h1,A⟩:=bind_some A;let⟨h2,A⟩:=mI A;obtain⟨ps',h3,rfl⟩:=map_some A;simp only[ar]at h2;let⟨sz,h4⟩:=kq.1 h2.2;exact ahm I h1 h2.1 h3 (.inr ⟨n,el,sz,hu,h4⟩) ha;cases A;rename_i t n ps I;let⟨el,h1,A⟩:=bind_some A;let⟨z,h2,A⟩:=bind_some A;let⟨sz,h3,A⟩:=bind_some A;let⟨h4,A⟩:=mI A;obtain⟨ps',h5,rfl⟩:=map_some A;simp only[ar,dz,bne_iff_ne]at h4;exact aE7 I (vz h1) h2 h3 h4.1.1.1 h4.1.1.2 h4.2 (aY h4.1.2) h5 ha;rename_i t x I;let⟨sz,h1,A⟩:=bind_some A;obtain⟨ag,h2,rfl⟩:=map_some A;exact azs I h1 h2 ha;rename_i t x v I;obtain⟨sz,h1,rfl⟩:=map_some A;exact aul I h1 ha;rename_i x I;cases A;exact azq I ha;rename_i op t x y t' I;split at A;cases A;exact ax8 I ha;cases A;exact ax8 I ha;rename_i hu;split at A;cases A;exact ax7 (neg:=af) I rfl hu ha;cases A;exact ax7 (neg:=J) I rfl hu ha;cases A;rename_i el hu;split at A;cases A;exact ahl (neg:=af) I rfl rfl hu ha;cases A;exact ahl (neg:=J) I rfl rfl hu ha;cases A;rename_i ms hu;split at A;cases A;exact apz (neg:=af) I rfl rfl hu ha;cases A;exact apz (neg:=J) I rfl rfl hu ha;cases A;rename_i fs hu;let⟨ds,h1,A⟩:=bind_some A;unfold amh at h1;rw[hu]at h1;simp only[]at h1;split at h1;cases h1;rename_i hst;have hst:P.stoodInHeld t=af:=by simpa using hst
 split at A;cases A;exact ax6 (neg:=af) I rfl hu hst h1 ha;cases A;exact ax6 (neg:=J) I rfl hu hst h1 ha;cases A;cases A;rename_i t x I;cases A;exact aDt I ha;rename_i t x I;split at A;cases A;exact aDu I ha;cases A;rename_i s' o x I;split at A;rename_i k k' h1 h2;cases A;exact azx I h1 h2 ha;rename_i el h1 h2;split at A;rename_i h3;cases A;exact aE6 I h1 h2 h3 ha;cases A;rename_i el h1 h2;split at A;rename_i h3;cases A;exact aDn I h1 h3 h2 ha;cases A;cases A;rename_i t l c I;let⟨el,h1,A⟩:=bind_some A;let⟨z,h2,A⟩:=bind_some A;let⟨sz,h3,A⟩:=bind_some A;let⟨b,h5,A⟩:=bind_some A;let⟨h4,A⟩:=mI A;simp only[ar,dz,bne_iff_ne]at h4;cases A;exact azr I (vz h1) h2 h3 h5 h4.1.1 h4.1.2 h4.2 ha;rename_i t x lo hi mx I;split at A;rename_i n el hu;split at A;let⟨sz,h1,A⟩:=bind_some A;let⟨h2,A⟩:=mI A;cases A;exact aDq I hu h1 (aY h2) ha;cases A;rename_i hu;split at A;cases A;exact aDo I hu ha;cases A;let⟨el,h1,A⟩:=bind_some A;obtain⟨sz,h2,rfl⟩:=map_some A;exact aDp I (vz h1) h2 ha;rename_i t x k I;split at A;rename_i fs hu;let⟨f,h1,A⟩:=bind_some A;let⟨sz,h2,A⟩:=bind_some A;let⟨h3,A⟩:=mI A;cases A;exact aE3 I hu h1 h2 (by simpa using h3) ha;cases A;rename_i t x k I;split at A;rename_i fs hu;let⟨f,h1,A⟩:=bind_some A;let⟨sz,h2,A⟩:=bind_some A;obtain⟨ag,h3,rfl⟩:=map_some A;exact aE2 I hu h1 h2 h3 ha;cases A;rename_i t x nx I;split at A;rename_i el hu;obtain⟨sz,h1,rfl⟩:=map_some A;exact aE1 I hu h1 ha;rename_i n el hu;obtain⟨sz,h1,rfl⟩:=map_some A;exact azv I hu h1 ha;cases A;rename_i t x nx I;split at A;rename_i n el hu;let⟨sz,h1,A⟩:=bind_some A;obtain⟨ag,h2,rfl⟩:=map_some A;exact aE0 I hu h1 h2 ha;rename_i hu;cases A;exact azo I hu ha;cases A;rename_i x nx I;cases A;exact aE4 I ha;rename_i f first caps I
 let⟨h1,A⟩:=mI A;cases A;have h2:first=#[]:=by simpa using h1
 subst h2;exact aDx I ha;rename_i t I;split at A;cases A;exact aDw I ha;cases A;rename_i t x k ok I;split at A;rename_i kt el hu;split at A;rename_i q z h1 h2;let⟨h3,A⟩:=mI A;cases A;exact ax5 (str:=af) I hu h1 ⟨q,rfl⟩ h2 ha;rename_i z h1 h2;let⟨h3,A⟩:=mI A;cases A;exact ax5 (str:=J) I hu h1 rfl h2 ha;cases A;cases A;rename_i t m k v I;split at A;rename_i kt el hu;split at A;rename_i q h1;cases A;exact ax4 (str:=af) I hu h1 ⟨q,rfl⟩ ha;rename_i h1;cases A;exact ax4 (str:=J) I hu h1 rfl ha;cases A;cases A;rename_i t x I;split at A;rename_i hu;cases A;exact aDr I hu ha;cases A;rename_i x I;cases A;exact aDs I ha;rename_i c I;let⟨callee,args,argTypes⟩:=c;have arr:∀{α:Type} {x:Array α} {l:Y α},x.toList=l->x=l.toArray:=λh=>by rw[<- h]
 unfold Y_ at A;simp only[]at A;split at A;split at A;rename_i x t h1 h2;rw[arr h1,arr h2]at I;split at A;rename_i el hu;cases A;exact azu I hu ha;rename_i hu;cases A;exact azt I hu ha;cases A;cases A;split at A;rename_i x y h1;rw[arr h1]at I;cases A;exact aDz I ha;cases A;split at A;rename_i x y h1;rw[arr h1]at I;cases A;exact aDy I ha;cases A;split at A;rename_i o x t u h1 h2;rw[arr h1,arr h2]at I;split at A;rename_i el el' h1 h2;let⟨sz,h3,A⟩:=bind_some A;let⟨h4,A⟩:=mI A;cases A;exact azw I (vz h1) (vz h2) h3 ha;cases A;cases A;split at A;rename_i x t h1 h2;rw[arr h1,arr h2]at I;let⟨el,h3,A⟩:=bind_some A;let⟨z,h4,A⟩:=bind_some A;let⟨sz,h5,A⟩:=bind_some A;let⟨h6,A⟩:=mI A;simp only[ar,dz,bne_iff_ne,ne_eq]at h6;cases A;exact aE5 I (vz h3) h4 h6.1.1 h6.1.2 h6.2 ha;cases A;split at A;rename_i s' x t u h1 h2;rw[arr h1,arr h2]at I;split at A;rename_i el el' h1 h2;let⟨sz,h3,A⟩:=bind_some A;let⟨b,h4,A⟩:=bind_some A;let⟨z,h5,A⟩:=bind_some A;let⟨h6,A⟩:=mI A;simp only[ar,dz,bne_iff_ne]at h6;cases A;exact aE9 I (vz h1) (vz h2) h3 h4 h5 h6.2 h6.1 ha;cases A;cases A;cases A;cases A
def nS :∀{l:Y AV},AV.allL p l=J->∀x∈l,AV.all p x=J
 |[],_,x,q=>by cases q
 |y::l,h,x,q=>by
  simp[AV.allL,ar]at h;rcases bc.1 q with rfl|q;exact h.1;exact nS h.2 x q
def cC.restrict {φ':PM} {O':Nat->Prop} (hs:∀i k,p i=J->T i=Z k->φ' i=Z k) (ho:∀k,O' k->O k) (h:cC T O W y v):y.all p=J->cC φ' O' W y v:=by
 induction h with
 |f h=>intro _;exact .f (h.ext (O':=O') (GP.refl O W) λk _ hk=>ho k hk)
 |K h=>intro hp;exact .K (hs _ _ hp h)
 |sl h hn hc=>intro hp;exact .sl (hs _ _ hp h) hn hc
 |I h hn hc hsh=>intro hp;exact .I (hs _ _ hp h) hn hc hsh
 |emp=>intro _;exact .emp
 |qj=>intro _;exact .qj
 |qn h=>intro _;exact .qn (h.ext (O':=O') (GP.refl O W) λk _ hk=>ho k hk)
 |mp h=>intro hp;exact .mp (hs _ _ hp h)
 |agg hl hcl hr A=>intro hp;exact .agg hl hcl λj y v q hv=>A j y v q hv (nS hp y (bh q))
 |qd hl hr A=>intro hp;exact .qd hl λj y v q hv=>A j y v q hv (nS hp y (bh q))
 |qy hl hr A=>intro hp;exact .qy hl λj y v q hv=>A j y v q hv (nS hp y (bh q))
def kn.restrict {φ':PM} {O':Nat->Prop} {w':World} (hk:∀x v,x.all p=J->cC T O W x v->cC φ' O' w' x v) {o:Obj} (hb:z.c.all p=J) (h:kn T O W z o):kn φ' O' w' z o:=by
 unfold kn at h ⊢;cases hc:z.c with
 |fz l=>
  rw[hc]at h;let⟨arr,h1,h2,I⟩:=h;exact⟨arr,h1,h2,λj x A=>by
   let⟨a,v,c,d⟩:=I j x A;refine ⟨a,v,c,hk _ _ ?_ d⟩;simp only[BC.get]at A;cases hl:l[j]? with
   |none=>rw[hl]at A;cases A
   |some q=>rw[hl]at A;simp at A;subst A;rfl⟩
 |mx l=>
  rw[hc]at h hb;let⟨arr,h1,h2,I⟩:=h;exact⟨arr,h1,h2,λj x A=>by
   let⟨a,v,c,d⟩:=I j x A;exact⟨a,v,c,hk _ _ (nS hb x (bh A)) d⟩⟩
 |mp es=>
  rw[hc]at h hb;let⟨e,c,h1,h2,I⟩:=h;exact⟨e,c,h1,h2,λj x A=>by
   let⟨m,a,z⟩:=I j x A;exact⟨m,a,hk _ _ (nS hb x.2 (cF.2 ⟨x,bh A,rfl⟩)) z⟩⟩
 |it s q=>rw[hc]at h;exact h
def ag8 {h:iN} (A:iN.all p h=J) (q:h.get i=Z z):p i=J/\z.c.all p=J:=by
 have:=PT.get_all _ h 1 0 i z A q
 grind
def TU (m:Nat):ι:=(dV (m+1)).filter λi=>aF m i
def mH :i∈TU m↔aF m i=J:=by
 unfold TU;rw[gI,px];constructor;exact λh=>h.2
 intro h;refine ⟨?_,h⟩;have h1:=Nat.ge_two_pow_of_testBit h;have h2:=Nat.lt_two_pow_self (n:=i);omega
def km (φ:PM) (O:Nat->Prop) (w:World):Y AV->ξ->Prop
 |[],[]=>True
 |x::xs,v::vs=>cC φ O w x v/\km φ O w xs vs
 |_,_=>False
def km.length :∀{args:Y AV} {vs:ξ},km T O W args vs->l! vs=l! args
 |[],[],_=>rfl
 |[],_::_,h|_::_,[],h=>h.elim
 |_::_,_::_,h=>by simp[km.length h.2]
def km.mono {φ':PM} {O':Nat->Prop} {w':World} (hk:∀x v,x.all p=J->cC T O W x v->cC φ' O' w' x v):∀{args:Y AV} {vs:ξ},AV.allL p args=J->km T O W args vs->km φ' O' w' args vs
 |[],[],_,_=>trivial
 |[],_::_,_,h|_::_,[],_,h=>h.elim
 |x::xs,_::_,hp,h=>by
  simp[AV.allL,ar]at hp;exact⟨hk _ _ hp.1 h.1,km.mono hk hp.2 h.2⟩
def km.append :∀{xs q:Y AV} {vs A:ξ},km T O W xs vs->km T O W q A->km T O W (xs++q) (vs++A)
 |[],_,[],_,_,h=>h
 |[],_,_::_,_,h,_|_::_,_,[],_,h,_=>h.elim
 |_::_,_,_::_,_,h,h'=>⟨h.1,km.append h.2 h'⟩
def km.of :∀{xs:Y AV} {vs:ξ},l! vs=l! xs->(∀(j:Nat) x v,xs[j]? =Z x->vs[j]? =Z v->cC T O W x v)->km T O W xs vs
 |[],[],_,_=>trivial
 |[],_::_,h,_|_::_,[],h,_=>by simp at h
 |x::xs,v::vs,I,h=>⟨h 0 x v rfl rfl,km.of cf λj x v q A=>h (j+1) x v cf cf⟩
def AH (P:Program) (f:FuncId):Prop:=∃fn,P.funcs[f]? =Z fn∧fn.body.isNone=af∧(fn.name== "runtime.NumGoroutine")=af
structure aus (P:Program) (f:FuncId) (args:List AV) (h:iN) (nx:Nat) (r:Ub):Prop where
 qh:AH P f
 frame:∀i,aF r.wr i=af->r.h.get i=h.get i
 names:∀i,aF r.wr i=J->nx<=i->i<r.nx
 jw:nx<=r.nx
 calls:∀(φ:PM) (E:Nat->Prop) (w:World) (vs:ξ),rA φ E h.get w->km φ (tot E φ h.get) w args vs->(∀i k,φ i=Z k->i<nx)->
  Calls P f vs.toArray w λe w'=>∃v φ',e= .returned v/\iX φ φ' h.get r.h.get w w'/\rA φ' E r.h.get w'/\cC φ' (tot E φ' r.h.get) w' r.val v/\∀i k,φ' i=Z k->φ i=Z k\/(nx<=i/\aF r.wr i=J)
def lI (ids nx:Nat) (r:Ub):BQ:=⟨r.val,TU ids,TU r.wr,r.h.get,(TU r.wr).filter (nx<=·)⟩
variable {f:FuncId}
def adq {e:xY} {h:iN} {r:Ub} (sp:aus P f C (PT.only m 1 0 h) i r) (hargs:AV.allL (dE · i) C=J) (hhc:iN.all (dE · i) (PT.only m 1 0 h)=J)
 (hexec:∀(φ:PM) (E:Nat->Prop) (h':HF) (w:World) (a:Act),Wo φ E h' w a e d->rA φ E h' w->∃vs:ξ,(execOp a.eval d).run P w= .ok (.enter f vs.toArray) w/\km φ (tot E φ h') w C vs):
 im P d e.get h.get (lI m i r):=by
 intro φ E h' w a hrd hwr hops hrep hN;have hp:Wo φ E h' w a e d:=λx y hx hy=>tG hrep hops hx hy
 let⟨vs,hrun,hrel⟩:=hexec φ E h' w a hp hrep;have hcg:∀nx,(PT.only m 1 0 h).get nx=if aF m nx then h.get nx else U:=λnx=>by rw[PT.get_only];simp
 generalize hhcd:PT.only m 1 0 h=hc at*
 have I:∀nx b,hc.get nx=Z b->aF m nx=J/\h' nx=Z b/\nx<i/\b.c.all (dE · i)=J:=λnx b A=>by
  let⟨q1,q2⟩:=ag8 hhc A;have q1:nx<i:=aY q1;rw[hcg]at A;let⟨ht,A⟩:=dO A;exact⟨ht,by rw[hrd nx (mH.2 ht)];exact A,q1,q2⟩
 let E':Nat->Prop:=λk=>E k\/∃id b,h' id=Z b/\aF m id=af/\φ id=Z k
 let φc:PM:=λnx=>if nx<i then φ nx else U
 have φc_sub:∀nx k,φc nx=Z k->φ nx=Z k/\nx<i:=λnx k hk=>cf
 have φc_of:∀nx k,nx<i->φ nx=Z k->φc nx=Z k:=λnx k hi hk=>by simp only[φc,hi,bC];exact hk
 have own_c:∀k,own φc hc.get k->own φ h' k:=by
  rintro k ⟨nx,b,h1,h2⟩;exact⟨nx,b,(I nx b h1).2.1,(φc_sub nx k h2).1⟩
 have tot_c:∀k,tot E' φc hc.get k->tot E φ h' k:=by
  rintro k ((h1|⟨id,b,h1,_,h2⟩)|h1);exact .inl h1;exact .inr ⟨id,b,h1,h2⟩;exact .inr (own_c k h1)
 have relc:∀x v,x.all (dE · i)=J->cC φ (tot E φ h') w x v->cC φc (tot E' φc hc.get) w x v:=λx v hx hr=>
  hr.restrict (λnx k hi hk=>φc_of nx k (aY hi) hk) tot_c hx
 have repc:rA φc E' hc.get w:=by
  refine ⟨λnx j b b' k h1 h2 h3 h4=>hrep.inj nx j b b' k (I nx b h1).2.1 (I j b' h2).2.1 (φc_sub nx k h3).1 (φc_sub j k h4).1,λnx b A=>?_,?_,λg cells hg=>(hrep.gl g cells hg).ext (GP.refl _ w) λk _ hk=>tot_c k hk⟩;let⟨t1,t2,t3,t4⟩:=I nx b A;let⟨k,q1,q2,ob,q3,q4⟩:=hrep.at_ nx b t2;refine ⟨k,φc_of nx k t3 q1,?_,ob,q3,q4.restrict relc t4⟩;rintro (hE|⟨id,b',p1,p2,p3⟩);exact q2 hE;have:=hrep.inj id nx b' b k p1 t2 p3 q1;subst this;rw[t1]at p2;cases p2;rintro k (hE|⟨id,b,p1,_,p3⟩);exact hrep.el k hE;let⟨k',q1,_,ob,q3,_⟩:=hrep.at_ id b p1;rw[p3]at q1;cases q1;exact (c9.1 q3).1
 have hcalls:=sp.calls φc E' w vs repc (km.mono relc hargs hrel) (λnx k hk=>(φc_sub nx k hk).2);unfold Ec;rw[hrun];refine Calls.mono hcalls ?_;rintro en w' ⟨v,φc',rfl,mv,rp,rv',nm⟩
 let φ':PM:=λnx=>if i<=nx/\aF r.wr nx=J then φc' nx else φ nx
 have φ'_new:∀nx,i<=nx->aF r.wr nx=J->φ' nx=φc' nx:=λnx h1 h2=>by simp only[φ',h1,h2,and_self,bC]
 have φ'_old:∀nx,¬(i<=nx/\aF r.wr nx=J)->φ' nx=φ nx:=λnx h1=>by simp only[φ',av h1]
 have hfresh:∀nx,i<=nx->aF r.wr nx=J->φ nx=U:=λnx h1 h2=>hN nx (by simp only[lI,gI,bl];exact⟨mH.2 h2,h1⟩)
 have φc'_to:∀nx k,φc' nx=Z k->φ' nx=Z k:=λnx k hk=>cf
 have hsub:∀nx k,φ nx=Z k->φ' nx=Z k:=λnx k hk=>cf
 have H2:∀nx,eD h' (lI m i r).wr (lI m i r).nw nx=if aF r.wr nx=J then r.h.get nx else h' nx:=λnx=>by
  unfold eD lI;simp only[mH]
 have from_:∀nx b,eD h' (lI m i r).wr (lI m i r).nw nx=Z b->(r.h.get nx=Z b/\∀k,φ' nx=Z k->φc' nx=Z k)\/(h' nx=Z b/\aF m nx=af/\φ' nx=φ nx/\aF r.wr nx=af):=λnx b A=>by
  rw[H2]at A;by_cases hwi:aF r.wr nx=J;rw[aD hwi]at A;refine .inl ⟨A,λk hk=>?_⟩;by_cases hi:i<=nx;rw[φ'_new nx hi hwi]at hk;exact hk;rw[φ'_old nx M]at hk;exact mv.sub nx k (φc_of nx k M hk);rw[av hwi]at A;have hwi:aF r.wr nx=af:=by simpa using hwi
  by_cases hid:aF m nx=J;have h1:hc.get nx=Z b:=by rw[hcg,aD hid,<-hrd nx (mH.2 hid)];exact A
  refine .inl ⟨by rw[sp.frame nx hwi];exact h1,λk hk=>?_⟩;rw[φ'_old nx (by rw[hwi];simp)]at hk;exact mv.sub nx k (φc_of nx k (I nx b h1).2.2.1 hk);exact .inr ⟨A,by simpa using hid,φ'_old nx (by rw[hwi];simp),hwi⟩
 have own':∀k,own φ' (eD h' (lI m i r).wr (lI m i r).nw) k->own φc' r.h.get k\/∃nx b,h' nx=Z b/\aF m nx=af/\φ nx=Z k:=by
  rintro k ⟨nx,b,h1,h2⟩;rcases from_ nx b h1 with ⟨q,g2⟩|⟨q,g2,g3,_⟩;exact .inl ⟨nx,b,q,g2 k h2⟩;exact .inr ⟨nx,b,q,g2,by rw[<- g3];exact h2⟩
 have ids:iX φ φ' h' (eD h' (lI m i r).wr (lI m i r).nw) w w':=by
  refine ⟨hsub,mv.ext.mono own_c,λk hk ho=>?_⟩;rcases own' k ho with h1|⟨nx,b,h1,_,h2⟩;exact own_c k (mv.qr k hk h1);exact⟨nx,b,h1,h2⟩
 have tot':∀k,tot E φ' (eD h' (lI m i r).wr (lI m i r).nw) k->tot E' φc' r.h.get k:=by
  rintro k (h1|h1);exact .inl (.inl h1);rcases own' k h1 with h2|⟨nx,b,q,g2,g3⟩;exact .inr h2;exact .inl (.inr ⟨nx,b,q,g2,g3⟩)
 have relOut:∀x v,cC φc' (tot E' φc' r.h.get) w' x v->cC φ' (tot E φ' (eD h' (lI m i r).wr (lI m i r).nw)) w' x v:=λx v hr=>
  hr.ext φc'_to (GP.refl _ w') λk _ hk=>tot' k hk
 refine ⟨v,φ',rfl,ids,?_,?_,relOut _ _ rv'⟩;intro nx k hk;by_cases hi:i<=nx/\aF r.wr nx=J;right;simp only[lI,gI,bl];exact⟨mH.2 hi.2,hi.1⟩;left;rw[φ'_old nx hi]at hk;exact hk;refine ⟨λnx j x y k hi hj h1 h2=>?_,λnx b hi=>?_,λk hk=>db (hrep.el k hk) ids.ext.size,λg cells hg=>ids.keepF (hrep.gl g cells hg)⟩;rcases from_ nx x hi with ⟨q,g2⟩|⟨q,g2,g3,_⟩;rcases from_ j y hj with ⟨q1,q2⟩|⟨q1,q2,q3,_⟩;exact rp.inj nx j x y k q q1 (g2 k h1) (q2 k h2);exfalso;let⟨k',p1,p2,_⟩:=rp.at_ nx x q
 grind
 rcases from_ j y hj with ⟨q1,q2⟩|⟨q1,q2,q3,_⟩;exfalso;let⟨k',p1,p2,_⟩:=rp.at_ j y q1
 grind
 exact hrep.inj nx j x y k q q1 (by rw[<- g3];exact h1) (by rw[<- q3];exact h2);rcases from_ nx b hi with ⟨q,g2⟩|⟨q,g2,g3,_⟩;let⟨k,p1,p2,ob,p3,p4⟩:=rp.at_ nx b q;exact⟨k,φc'_to nx k p1,λhE=>p2 (.inl hE),ob,p3,p4.mono λx v hr=>relOut x v hr⟩;let⟨k,p1,p2,ob,p3,p4⟩:=hrep.at_ nx b q;have hk:k<w.heap.size:=(c9.1 p3).1;refine ⟨k,hsub nx k p1,p2,ob,?_,p4.mono λx v hr=>ids.zq hr⟩;rw[mv.ext.jg k hk ?_];exact p3;rintro⟨j,b',q1,q2⟩;let⟨t1,t2,_,_⟩:=I j b' q1;have:=hrep.inj nx j b b' k q t2 p1 (φc_sub j k q2).1;subst this;rw[t1]at g2;cases g2
def BS (P:Program) (call:xM):Prop:=∀f args h nx r,call f args h nx=Z r->aus P f args h nx r
def OX {e:xY} (hp:Wo T O N W F e d):∀(xs:Y Operand) (q:Y AV),(∀x∈xs,x∈d.op.operands)->evs e xs=Z q->km T (tot O T N) W q (xs.map F.eval)
 |[],q,_,h=>by cases h;trivial
 |x::xs,q,hm,h=>by
  simp[evs]at h;split at h;rename_i y A;split at h;rename_i ys' hys;cases h;exact⟨hp x y (hm x (bU ..)) A,OX hp xs ys' (λx I=>hm x (bx _ I)) hys⟩;cases h;cases h
def sO (I:AH P f) (args:Array Value) (w:World):(callFunc f args).run P w= .ok (.enter f args) w:=by
 let⟨fn,h1,h2,h3⟩:=I;have q:fn.name≠ "runtime.NumGoroutine" :=cf;have A:fn.body≠U:=cf;simp[callFunc,program,sK,h1,A,q]
structure aqn (e:xY) (h:iN) (nx:Nat) (S:ZD) (f:BQ):Prop where
 val:f.val=S.val
 heap:eD h.get f.wr f.nw=S.h.get
 rd:∀i∈f.rd,aF S.rd i=J
 wr:∀i∈f.wr,aF S.wr i=J
 names:∀n∈f.N,nx<=n/\n<S.nx
 jw:nx<=S.nx
def Ko:∀(l:ι) (acc i:Nat),aF (bits l acc) i=J↔aF acc i=J\/i∈l
 |[],acc,i=>by simp[bits]
 |x::l,acc,i=>by
  rw[bits,Ko l];rw[bt,gm,Ed,LY]
  grind
def ak6 {s:T5} {e:xY} {h:iN} {R:Cp} (q:eE s e h i=Z R):R.N=[]\/R.N=[i]:=by
 cases s<;>simp only[eE,Ax,Kq]at q<;>(repeat' (split at q))<;>first|(cases q;done)|(cases q;simp;done)
def alt {s:T5} {e:xY} {h:iN} {R:Cp} (A:s.still=J) (q:eE s e h i=Z R):R.rd=[]/\R.wr=[]:=by
 cases s<;>first|(simp [T5.still]at A;done)|(simp only[eE]at q;(repeat' (split at q))<;>first|(cases q;done)|(cases q;simp;done))
def ai7 {call:xM} (hcall:BS P call) {o:Oper} {s:SI} (q:qU P o.op=s) {e:xY} {h:iN} {S:ZD} (A:opA call s e h i=Z S):
 ∃f,im P o e.get h.get f/\aqn e h i S f/\(s.still=J->f.rd=[]/\f.wr=[]):=by
 have callCase:∀(f:FuncId) (args:Y AV),aha call f args h i=Z S->s.still=af->
  (∀(φ:PM) (E:Nat->Prop) (h':HF) (w:World) (a:Act),AH P f->Wo φ E h' w a e o->rA φ E h' w->∃vs:ξ,(execOp a.eval o).run P w= .ok (.enter f vs.toArray) w/\km φ (tot E φ h') w args vs)->
  ∃f,im P o e.get h.get f/\aqn e h i S f/\(s.still=J->f.rd=[]/\f.wr=[]):=by
  intro f args hca hst hex;unfold aha at hca;simp only[uP,yw]at hca;let⟨hcond,hca⟩:=dO hca;simp only[ar]at hcond;split at hca;rename_i val h' nx' wr hcr;simp only[Vi,uP,al]at hca;have sp:=hcall _ _ _ _ _ hcr;refine ⟨_,adq sp hcond.1 hcond.2 (λφ E h' w a=>hex φ E h' w a sp.qh),?_,λh=>by rw[hst]at h;cases h⟩;subst hca;refine ⟨rfl,?_,λnx hi=>mH.1 hi,λnx hi=>mH.1 hi,λn hn=>?_,sp.jw⟩;funext nx;unfold eD lI;simp only[mH];rw[PT.get_merge]
  grind
  simp only[lI,gI,bl]at hn;exact⟨hn.2,sp.names n (mH.1 hn.1) hn.2⟩;cases hca
 have callOps:∀(c:Call),o.op= .call c->∀x,x∈c.operands->x∈o.op.operands:=λc I x hx=>by rw[I];exact hx
 unfold opA at A;split at A;rename_i f args;split at A;rename_i l hl;have I:∃c:Call,o.op= .call c/\c.callee= .value (.func f)/\c.args.toList=args:=by
  unfold qU at q;split at q;rename_i nx hi;subst q;unfold DY at hi
  grind
  grind
 let⟨c,I,h1,h2⟩:=I;refine callCase f l A rfl λφ E h' w a hcb hp hrep=>?_
 refine ⟨args.map a.eval,?_,OX hp args l (λx hx=>callOps c I x (by simp[AJ,h1,<-h2]at hx ⊢;exact .inr hx)) hl⟩;unfold execOp;rw[I];have hm:c.args.map a.eval=(args.map a.eval).toArray:=cf;simp[resolve,h1,Act.eval,GW,invoke,hm,sO hcb];cases A;rename_i x args;split at A;rename_i f cap l hx hl;have I:∃c:Call,o.op= .call c/\c.callee= .value x/\c.args.toList=args:=by
  unfold qU at q;split at q;rename_i nx hi;subst q;unfold DY at hi
  grind
  grind
 let⟨c,I,h1,h2⟩:=I;refine callCase f (l++cap) A rfl λφ E h' w a hcb hp hrep=>?_
 have hxv:=hp x _ (callOps c I x (by simp[AJ,h1])) hx;have hlv:=OX hp args l (λx hx=>callOps c I x (by simp[AJ,h1,<-h2]at hx ⊢;exact .inr hx)) hl;generalize hz:a.eval x=z at hxv;cases hxv with
 |@qy _ _ vs hvl hvr=>
  refine ⟨args.map a.eval++vs,?_,hlv.append (km.of hvl hvr)⟩;unfold execOp;rw[I];have hm:c.args.map a.eval=(args.map a.eval).toArray:=cf;simp[resolve,h1,hz,GW,invoke,hm,sO hcb]
 cases A;rename_i s;have q:s= .jq\/cY P o.op=Z s:=by
  unfold qU at q;split at q;rename_i nx hi;subst q;unfold DY at hi
  grind
  grind
 rcases q with rfl|q;simp[eE]at A;split at A;rename_i val rd wr nw N hR;simp only[Vi,uP,Ui,al]at A;refine ⟨_,Hx q hR,?_,λhs=>alt hs hR⟩;subst A;refine ⟨rfl,alg _ _ _,λnx hi=>(Ko _ _ _).2 (.inr hi),λnx hi=>(Ko _ _ _).2 (.inr hi),λn hn=>?_,b8⟩;rcases ak6 hR with h1|h1;simp only[Cp.eff]at hn;simp only at h1;rw[h1]at hn;cases hn;simp only[Cp.eff]at hn;simp only at h1;rw[h1]at hn;simp at hn;subst hn;simp[h1];cases A
def agl:∀(q:Y Wp) (i:Nat),aj6 q i=q[i]?
 |[],i=>by simp[aj6]
 |f::q,0=>rfl
 |f::q,i+1=>by simp[aj6,agl q i]
structure ZK (κ:Nat->Nat) (rest:List Oper) (sl:List pt) (n0 n1:Nat) (fs:List Wp) (l:List (Oper×BQ)):Prop where
 jt:l.map (·.1)=rest
 fsl:l! fs=l! l
 sll:l! sl=l! l
 fp:∀(j:Nat) o f q,l[j]? =Z (o,f)->fs[j]? =Z q->(∀i∈f.rd,aF q.rd (κ i)=J)/\∀i∈f.wr,aF q.wr (κ i)=J
 still:∀(j:Nat) o f so,l[j]? =Z (o,f)->sl[j]? =Z so->so.op.still=J->f.rd=[]/\f.wr=[]
 names:∀(j:Nat) o f,l[j]? =Z (o,f)->∀n∈f.N,n0<=κ n/\κ n<n1
 xz:∀(i j:Nat) oi fi oj fj,i<j->l[i]? =Z (oi,fi)->l[j]? =Z (oj,fj)->∀n∈fi.N,n∉fj.N
 jw:n0<=n1
variable {g:Nat->Nat}
def ZK.nil (n:Nat):ZK g [] [] n n [] []:=⟨rfl,rfl,rfl,b8,b8,b8,b8,bg _⟩
def ZK.cons {rest:Y Oper} {sl:Y pt} {n2:Nat} {fs:Y Wp} {l:Y q?} (L:ZK g rest sl m n2 fs l) {f:BQ} {s:pt} {rd wr:Nat} (hgr:i<=m) (hrd:∀n∈f.rd,aF rd (g n)=J) (hwr:∀n∈f.wr,aF wr (g n)=J) (hN:∀n∈f.N,i<=g n/\g n<m) (hst:s.op.still=J->f.rd=[]/\f.wr=[]):ZK g (d::rest) (s::sl) i n2 (⟨rd,wr⟩::fs) ((d,f)::l):=by
 have hg2:=L.jw;refine ⟨by simp[L.jt],by simp[L.fsl],by simp[L.sll],?_,?_,?_,?_,cR hgr hg2⟩;intro j q f' q' h1 h2;cases j with
 |zero=>simp at h1 h2;obtain⟨rfl,rfl⟩:=h1;subst h2;exact⟨hrd,hwr⟩
 |succ j=>exact L.fp j q f' q' (by simpa using h1) (by simpa using h2)
 intro j q f' so h1 h2 h3;cases j with
 |zero=>simp at h1 h2;obtain⟨rfl,rfl⟩:=h1;subst h2;exact hst h3
 |succ j=>exact L.still j q f' so (by simpa using h1) (by simpa using h2) h3
 intro j q f' h1 n I;cases j with
 |zero=>
  simp at h1;obtain⟨rfl,rfl⟩:=h1;have:=hN n I;exact⟨this.1,M⟩
 |succ j=>
  have:=L.names j q f' (by simpa using h1) n I;exact⟨cR hgr this.1,this.2⟩
 intro n0 j oi fi oj fj hij h1 h2 n I A;cases j with
 |zero=>omega
 |succ j=>
  have hj:=L.names j oj fj (by simpa using h2) n A;cases n0 with
  |zero=>
   simp at h1;obtain⟨rfl,rfl⟩:=h1;have h3:=(hN n I).2;omega
  |succ n0=>exact L.xz n0 j oi fi oj fj M (by simpa using h1) (by simpa using h2) n I A
structure Lay (P:Program) (ops:Array Oper) (rest:List Oper) (sl:List pt) (s s':IS) (fs:List Wp) (l:List (Oper×BQ)):Prop where
 lay:ZK (λn=>n) rest sl s.nx s'.nx fs l
 chain:Cq P ops l s.e.get s.h.get s'.e.get s'.h.get
 frame:∀i,aF s'.wr i=af->s'.h.get i=s.h.get i/\aF s.wr i=af
def AS {call:xM} (hcall:BS P call) :∀(rest:Y Oper) (sl:Y pt) (s s':IS) (fs:Y Wp),rz P E rest=Z sl->F0 call sl s=Z (s',fs)->∃l,Lay P E rest sl s s' fs l
 |[],sl,s,s',fs,hc,A=>by
  cases hc;cases A;exact⟨[],.nil _,.nil _ _,λi h=>⟨rfl,h⟩⟩
 |o::rest,sl,⟨e,h,nx,wr⟩,s',fs,hc,A=>by
  simp only[rz]at hc;split at hc;rename_i sl' hsl';have hso:∃g,sl=⟨o.dst,qU P o.op,g⟩::sl'/\((g=U/\o.guard=U)\/∃j want t,g=Z (t,want)/\o.guard=Z (j,want)/\(E[j]?).bind (·.dst)=Z t):=cf;obtain⟨g,rfl,hg⟩:=hso;simp only[F0]at A;have done:∀(f:BQ) (S:ZD) (s1:IS) (fs':Y Wp) (q:Wp),Ku P E o f e.get h.get->s1=⟨e.put o.dst S.val,S.h,S.nx,wr|||S.wr⟩->aqn e h nx S f->((qU P o.op).still=J->f.rd=[]/\f.wr=[])->q=⟨S.rd,S.wr⟩->F0 call sl' s1=Z (s',fs')->(∀i,aF S.wr i=af->S.h.get i=h.get i)->
   ∃l,Lay P E (o::rest) (⟨o.dst,qU P o.op,g⟩::sl') ⟨e,h,nx,wr⟩ s' (q::fs') l:=by
   rintro f S s1 fs' q hst rfl hef hstill rfl hrun hfr;let⟨l,hl⟩:=AS hcall rest sl' _ s' fs' hsl' hrun;refine ⟨(o,f)::l,hl.lay.cons hef.jw hef.rd hef.wr hef.names hstill,.cons hst ?_,?_⟩;rw[hef.val,amd,hef.heap];exact hl.chain;intro i hi;let⟨h1,h2⟩:=hl.frame i hi
   grind
  split at A;rename_i I;split at A;rename_i val rd w' h' nx' hop;rw[af3,uP]at A;split at A;rename_i s2 fs' hrun;cases A;let⟨f,hT,hef,hst⟩:=ai7 hcall (o:=o) rfl hop;refine done f ⟨val,rd,w',h',nx'⟩ _ fs' _ ?_ rfl hef hst rfl hrun ?_;rcases hg with ⟨rfl,hg⟩|⟨j,want,t,rfl,hg,ht⟩;exact .run hg hT;simp only[aem]at I;split at I;rename_i b hb;simp only[al,dz]at I;subst I;exact .runG j t b hg ht hb hT;cases I;cases I;intro i hi;have:=congrFun hef.heap i;simp only[eD]at this;rw[av]at this;exact this.symm;intro hmem;have:=hef.wr i hmem
  grind
  cases A;cases A;rename_i I;rw[af3]at A;split at A;rename_i s2 fs' hrun;cases A;rcases hg with ⟨rfl,hg⟩|⟨j,want,t,rfl,hg,ht⟩;simp[aem]at I;refine done m_ ⟨raw undef,0,0,h,nx⟩ _ fs' _ ?_ b8 ⟨rfl,by funext i;simp[eD,m_],by simp[m_],by simp[m_],by simp[m_],bg _⟩ (λ_=>⟨rfl,rfl⟩) rfl hrun (λ_ _=>rfl);simp only[aem]at I;split at I;rename_i b hb;simp only[al,beq_eq_false_iff_ne,ne_eq]at I;exact .skip j t want hg ht _ hb (by simpa using I) rfl;rename_i q hb;exact .skip j t want hg ht _ hb b8 rfl;cases I;cases A;cases A;cases hc
def BE (h:LG i m=J) (a:Nat) (q:aF i a=J):aF m a=af:=by
 have h0:i&&&m=0:=au h;have:=Nat.testBit_and i m a
 grind
def amp {sl:Y pt} {fs:Y Wp} {l:Y q?} {prs:Y n!} (A:ZK g E.toList sl i m fs l) (hp:NC E sl=Z prs) (hok:Hq fs prs=J):NIP E l:=by
 unfold NC at hp;simp only[]at hp;split at hp;rename_i hall;simp only[eS,px,ar]at hall;simp only[al]at hp;have hop:∀(j:Nat) o f,l[j]? =Z (o,f)->E[j]? =Z o:=λj o f hj=>by
  have h1:(l.map (·.1))[j]? =Z o:=by rw[bH,hj];rfl
  rw[A.jt]at h1;simpa using h1
 have hsize:∀(j:Nat) o,E[j]? =Z o->j<E.size:=λj o h=>(c9.1 h).1
 have hprs:∀n0 j,(n0,j)∈prs->∃a b,fs[n0]? =Z a/\fs[j]? =Z b/\LG a.wr b.rd=J/\LG a.wr b.wr=J/\LG b.wr a.rd=J:=by
  clear hp hall;induction prs with
  |nil=>intro n0 j h;cases h
  |cons p prs ih=>
   let⟨i0,j0⟩:=p;simp only[Hq,ar,agl]at hok
   grind
 refine ⟨λj o ho e he hb=>cf,λn0 j oi fi oj fj hij hi hj=>?_,A.xz⟩;have h1:=hop n0 oi fi hi;have h2:=hop j oj fj hj;have hcase:=(hall j (hsize j oj h2)).2 n0 hij;rw[h1,h2]at hcase;simp only[gm]at hcase;by_cases hB:aF ((Qf E.toList []).getD j 0) n0=J;left;rw[aC]at hB;cases I:(Qf E.toList [])[j]? with
 |none=>rw[I]at hB;simp at hB
 |some B=>
  rw[I]at hB;exact TX (ops:=E) E.toList [] (λj o hj=>by simpa using hj) (λj B hj=>by simp at hj) j B I n0 (by simpa using hB)
 right;have hap:=hcase.resolve_left hB;refine ⟨hap,?_⟩;have hil:n0<l! l:=(bG.1 hi).1;have hjl:j<l! l:=(bG.1 hj).1;have hsi:=aI (show n0<l! sl by rw[A.sll];exact hil);have hsj:=aI (show j<l! sl by rw[A.sll];exact hjl);by_cases hst:(sl[n0]'(by rw[A.sll];exact hil)).op.still=J;let⟨q1,q2⟩:=A.still n0 oi fi _ hi hsi hst
 grind
 by_cases hst2:(sl[j]'(by rw[A.sll];exact hjl)).op.still=J;let⟨q1,q2⟩:=A.still j oj fj _ hj hsj hst2
 grind
 have hmem:(n0,j)∈prs:=by
  rw[<- hp,oP];refine ⟨j,px.2 (hsize j oj h2),?_⟩
  grind
 let⟨a,b,ha,hb,d1,d2,d3⟩:=hprs n0 j hmem;let⟨f1,f2⟩:=A.fp n0 oi fi a hi ha;let⟨g1,g2⟩:=A.fp j oj fj b hj hb;refine ⟨λx I=>⟨λq=>?_,λq=>?_⟩,λx I q=>?_⟩;have:=BE d1 (g x) (f2 x I);rw[g1 x q]at this;cases this;have:=BE d2 (g x) (f2 x I);rw[g2 x q]at this;cases this;have:=BE d3 (g x) (g2 x I);rw[f1 x q]at this;cases this;cases hp
structure Ctx where
 n0:Nat
 φ:PM
 E:Nat->Prop
 h:HF
 w:World
def ZQ (P:Program) (d:Deferred):Prop:=∀w:World,∃A cap f args,d.target= .fn A cap/\(invoke d.target d.args).run P w= .ok (.enter f args) w/\
 CallsD P f args .returning w λe q w'=>(∃v,e= .returned v)/\q= .returning/\w'=w
structure Cfg (P:Program) (C:Ctx) (nt:Nat) (s:IS) (a:Act) (w:World):Prop where
 ex:∃φ,iX C.φ φ C.h s.h.get C.w w/\rA φ C.E s.h.get w/\QF φ (tot C.E φ s.h.get) w s.e.get a/\(∀i k,φ i=Z k->i<s.nx)/\∀i k,φ i=Z k->C.φ i=Z k\/C.n0<=i
 low:C.n0<=s.nx
 inert:∀d∈a.defers,ZQ P d
 size:a.tmps.size=nt
def UB {C:Ctx} {s s':IS} {call:xM} (hm:P.follows .mixedOrders=J) (hcall:BS P call) (c:Cfg P C i s F W) {sl:Y pt} {prs:Y n!} {fs:Y Wp}
 (hd:(E.toList.all λo=>match o.dst with|some d=>decide (d<i)|none=>J)=J) (hc:rz P E E.toList=Z sl) (hp:NC E sl=Z prs) (hr:F0 call sl s=Z (s',fs)) (hok:Hq fs prs=J) 
 (hQ:∀F W,Cfg P C i s' F W->B .normal F W):(Code.region m E b).wp P B F W:=by
 let⟨φ,id,r,en,dm,d0⟩:=c.ex;let⟨l,q⟩:=AS hcall E.toList sl s s' fs hc hr;refine KE (φ0:=φ) (E:=C.E) hm q.lay.jt q.chain (amp q.lay hp hok) ?_ ?_ r en ?_;intro n A;let⟨p,hp,A⟩:=oP.1 A;let⟨j,hj⟩:=eC hp;have:=q.lay.names j p.1 p.2 hj n A;cases hx:φ n with
 |none=>rfl
 |some k=>have:=dm n k hx;omega
 intro j o ho d I;have:=eS.1 hd o cf;rw[I]at this;rw[c.size];simpa using this;rintro a' w' ⟨φ',m',d',r',en',df',sz'⟩;have hnm:∀nt k,φ' nt=Z k->φ nt=Z k\/(s.nx<=nt/\nt<s'.nx):=λnt k hik=>by
  rcases d' nt k hik with h|h;exact .inl h;let⟨p,hp,A⟩:=oP.1 h;let⟨j,hj⟩:=eC hp;exact .inr (q.lay.names j p.1 p.2 hj nt A)
 have hg:=q.lay.jw;have hlow:=c.low;exact hQ a' w' ⟨⟨φ',id.trans m',r',en',λnt k hik=>cf,λnt k hik=>cf⟩,M,by rw[df'];exact c.inert,by rw[sz'];exact c.size⟩
def Cfg.bool {C:Ctx} {s:IS} (c:Cfg P C i s F W) (ht:s.e.get m=Z (.f (.raw (.bool b)))):F.eval (.tmp m)= .bool b:=by
 let⟨φ,_,_,en,_,_⟩:=c.ex;exact dX (en m _ ht)
def Cfg.weak {C:Ctx} {s:IS} (c:Cfg P C i s F W) {e':xY} (he:∀t x,e'.get t=Z x->s.e.get t=Z x) :Cfg P C i ⟨e',s.h,s.nx,m⟩ F W:=by
 let⟨φ,q,r,en,I⟩:=c.ex;exact⟨⟨φ,q,r,λt x A=>en t x (he t x A),I⟩,c.low,c.inert,c.size⟩
def AQ {c:Code} (I:Nat->Act->World->Prop) (round:∀n F W,I n F W->c.wp P (Exit.then (λq w'=>∃m,m<n/\I m q w') B) F W) {n:Nat} (h0:I n F W):(Code.loop c).wp P B F W:=by
 have least:∀(n:Nat) (F:Act) (W:World),I n F W->∃m,I m F W/\∀k,I k F W->m<=k:=by
  intro n;induction n using Nat.strongRecOn with
  |_ n ih=>grind
 have pick:∀F W,∃m,(∃n,I n F W)->I m F W/\∀k,I k F W->m<=k:=λF W=>by
  by_cases hx:∃n,I n F W
  grind
  simp_all
 let μ:Act->World->Nat:=λF W=>Classical.choose (pick F W)
 have hμ:∀F W,(∃n,I n F W)->I (μ F W) F W/\∀k,I k F W->μ F W<=k:=λF W=>Classical.choose_spec (pick F W)
 refine wp_loop (λF W=>∃n,I n F W) μ ⟨n,h0⟩ λF W A=>?_
 refine wp_mono (round (μ F W) F W (hμ F W A).1) λe q w' he=>?_
 cases e with
 |normal=>grind
 |_=>exact he
def Ex.to:Ex->Exit
 |.normal=>.normal
 |.exit id=>.exit id
 |.ret=>.ret
def D_ (P:Program) (inert:FuncId->Bool):Prop:=∀f,inert f=J->AH P f/\∀(args:Array Value) (w:World),CallsD P f args .returning w λe q w'=>(∃v,e= .returned v)/\q= .returning/\w'=w
def ahy {C:Ctx} {call:xM} {inert:FuncId->Bool} (hm:P.follows .mixedOrders=J) (hcall:BS P call) (hin:D_ P inert):∀(c:Code) (s:IS) (ex:Ex) (s':IS),run call inert m (bq P i c) s=Z (ex,s')->
 ∀a w,Cfg P C i s a w->c.wp P (λe a' w'=>e=ex.to/\Cfg P C i s' a' w') a w:=by
 intro c;induction c with
 |skip=>
  intro s ex s' h a w A;obtain⟨rfl,rfl⟩:=h;exact wp_skip ⟨rfl,A⟩
 |region id ops dr=>
  intro s ex s' h a w A;simp only[bq]at h;split at h;rename_i hd;split at h;simp[run]at h;split at h;rename_i sl hsl;split at h;rename_i prs hprs;simp[run]at h;split at h;rename_i s2 fs hr;let⟨hok,h⟩:=dO h;obtain⟨rfl,rfl⟩:=h;exact UB hm hcall A hd hsl hprs hr hok λa w q=>⟨rfl,q⟩
  cases h;simp[run]at h;simp[run]at h;simp[run]at h
 |seq x y ihx ihy=>
  intro s ex s' h a w A;simp[bq,run]at h;split at h;rename_i I h1;refine wp_seq (wp_mono (ihx s .normal I h1 a w A) ?_);rintro e a' w' ⟨rfl,q⟩;exact ihy I ex s' h a' w' q;rename_i hne;refine wp_seq (wp_mono (ihx s ex s' h a w A) ?_);rintro e a' w' ⟨rfl,q⟩;cases ex with
  |normal=>exact bi h (λh=>hne s' h)
  |_=>exact⟨rfl,q⟩
 |cond o x y ihx ihy=>
  intro s ex s' h a w A;cases o with
  |tmp t=>
   simp[bq,run]at h;split at h;rename_i ht;exact wp_cond_true (A.bool ht) (ihx s ex s' h a w A);rename_i ht;exact wp_cond_false (A.bool ht) (ihy s ex s' h a w A);cases h
  |const v=>
   cases v with
   |bool b=>
    cases b with
    |true=>exact wp_cond_true rfl (ihx s ex s' h a w A)
    |false=>exact wp_cond_false rfl (ihy s ex s' h a w A)
   |_=>simp[bq,run]at h
  |_=>simp[bq,run]at h
 |block id x ih=>
  intro s ex s' h a w A;simp only[bq,run]at h;split at h;rename_i nt I h1;refine wp_block (wp_mono (ih s (.exit nt) I h1 a w A) ?_);simp[Ex.to,Exit.inBlock];split at h;rename_i hb;have hb:=au hb
  grind
  rename_i hb;obtain⟨rfl,rfl⟩:=h;simp_all;rename_i hne;refine wp_block (wp_mono (ih s ex s' h a w A) ?_);rintro e a' w' ⟨rfl,q⟩;cases ex with
  |exit id=>exact bi h (λh=>hne id s' h)
  |_=>exact⟨rfl,q⟩
 |loop x ih=>
  intro s ex s' h a w A;refine AQ (λn a w=>∃I,KK (run call inert m (bq P i x)) s.e n I=Z (ex,s')/\Cfg P C i I a w) ?_ ⟨s,h,A⟩;rintro n a1 w1 ⟨I,h1,hc1⟩;cases n with
  |zero=>simp[KK]at h1
  |succ n=>
   simp[KK]at h1;split at h1;rename_i e2 h2 nx2 wr2 hb;rw[yw]at h1;refine wp_mono (ih I .normal _ hb a1 w1 hc1) ?_;rintro e a' w' ⟨rfl,q⟩;exact⟨n,M,_,h1,q.weak λt x hx=>PT.get_mask _ _ _ _ hx⟩;rename_i hne;refine wp_mono (ih I ex s' h1 a1 w1 hc1) ?_;rintro e a' w' ⟨rfl,q⟩;cases ex with
   |normal=>let⟨e',h',nx',wr'⟩:=s';exact bi h1 (λh=>hne e' h' nx' wr' h)
   |_=>exact⟨rfl,q⟩
 |exit id=>
  intro s ex s' h a w A;obtain⟨rfl,rfl⟩:=h;exact wp_exit ⟨rfl,A⟩
 |ret=>
  intro s ex s' h a w A;obtain⟨rfl,rfl⟩:=h;exact wp_ret ⟨rfl,A⟩
 |rangeFunc f ps as b _ _|scope b _|label l|goto l|refuse y=>intro s ex s' h;simp[bq,run]at h
end
end Go.Proofs.YtononplakadipaaGreatDoor.AI
