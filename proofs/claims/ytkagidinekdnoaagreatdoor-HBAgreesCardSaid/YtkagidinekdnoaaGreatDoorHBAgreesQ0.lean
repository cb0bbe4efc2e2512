/-
  Texts of the proof, part 1 of 6: what is used to prove the statement. No condition.
-/
import Derived.WalkKit
import Derived.Lib.Hide
import Derived.Deep.QuietTactic
namespace Prod
variable {A0 A1 A2 A3 A4 A5 A6 A7 A8 A9 A10 A11 A12 A13 A14 A15 A16 A17 A18 A19 A20 A21 A22 A23 A24:Type}
abbrev p2 (x:A0×A1×A2×A3):A2:=x.2.2.1
abbrev p3 (x:A0×A1×A2×A3×A4):A3:=x.2.2.2.1
abbrev q3 (x:A0×A1×A2×A3):A3:=x.2.2.2
abbrev p4 (x:A0×A1×A2×A3×A4×A5):A4:=x.2.2.2.2.1
abbrev q4 (x:A0×A1×A2×A3×A4):A4:=x.2.2.2.2
abbrev p5 (x:A0×A1×A2×A3×A4×A5×A6):A5:=x.2.2.2.2.2.1
abbrev q5 (x:A0×A1×A2×A3×A4×A5):A5:=x.2.2.2.2.2
abbrev p6 (x:A0×A1×A2×A3×A4×A5×A6×A7):A6:=x.2.2.2.2.2.2.1
abbrev q6 (x:A0×A1×A2×A3×A4×A5×A6):A6:=x.2.2.2.2.2.2
abbrev p7 (x:A0×A1×A2×A3×A4×A5×A6×A7×A8):A7:=x.2.2.2.2.2.2.2.1
abbrev q7 (x:A0×A1×A2×A3×A4×A5×A6×A7):A7:=x.2.2.2.2.2.2.2
abbrev p8 (x:A0×A1×A2×A3×A4×A5×A6×A7×A8×A9):A8:=x.2.2.2.2.2.2.2.2.1
abbrev q8 (x:A0×A1×A2×A3×A4×A5×A6×A7×A8):A8:=x.2.2.2.2.2.2.2.2
abbrev p9 (x:A0×A1×A2×A3×A4×A5×A6×A7×A8×A9×A10):A9:=x.2.2.2.2.2.2.2.2.2.1
abbrev q9 (x:A0×A1×A2×A3×A4×A5×A6×A7×A8×A9):A9:=x.2.2.2.2.2.2.2.2.2
abbrev p10 (x:A0×A1×A2×A3×A4×A5×A6×A7×A8×A9×A10×A11):A10:=x.2.2.2.2.2.2.2.2.2.2.1
abbrev q10 (x:A0×A1×A2×A3×A4×A5×A6×A7×A8×A9×A10):A10:=x.2.2.2.2.2.2.2.2.2.2
abbrev p11 (x:A0×A1×A2×A3×A4×A5×A6×A7×A8×A9×A10×A11×A12):A11:=x.2.2.2.2.2.2.2.2.2.2.2.1
abbrev q11 (x:A0×A1×A2×A3×A4×A5×A6×A7×A8×A9×A10×A11):A11:=x.2.2.2.2.2.2.2.2.2.2.2
abbrev p12 (x:A0×A1×A2×A3×A4×A5×A6×A7×A8×A9×A10×A11×A12×A13):A12:=x.2.2.2.2.2.2.2.2.2.2.2.2.1
abbrev q12 (x:A0×A1×A2×A3×A4×A5×A6×A7×A8×A9×A10×A11×A12):A12:=x.2.2.2.2.2.2.2.2.2.2.2.2
abbrev p13 (x:A0×A1×A2×A3×A4×A5×A6×A7×A8×A9×A10×A11×A12×A13×A14):A13:=x.2.2.2.2.2.2.2.2.2.2.2.2.2.1
abbrev q13 (x:A0×A1×A2×A3×A4×A5×A6×A7×A8×A9×A10×A11×A12×A13):A13:=x.2.2.2.2.2.2.2.2.2.2.2.2.2
abbrev p14 (x:A0×A1×A2×A3×A4×A5×A6×A7×A8×A9×A10×A11×A12×A13×A14×A15):A14:=x.2.2.2.2.2.2.2.2.2.2.2.2.2.2.1
abbrev p15 (x:A0×A1×A2×A3×A4×A5×A6×A7×A8×A9×A10×A11×A12×A13×A14×A15×A16):A15:=x.2.2.2.2.2.2.2.2.2.2.2.2.2.2.2.1
abbrev p16 (x:A0×A1×A2×A3×A4×A5×A6×A7×A8×A9×A10×A11×A12×A13×A14×A15×A16×A17):A16:=x.2.2.2.2.2.2.2.2.2.2.2.2.2.2.2.2.1
abbrev q16 (x:A0×A1×A2×A3×A4×A5×A6×A7×A8×A9×A10×A11×A12×A13×A14×A15×A16):A16:=x.2.2.2.2.2.2.2.2.2.2.2.2.2.2.2.2
abbrev p17 (x:A0×A1×A2×A3×A4×A5×A6×A7×A8×A9×A10×A11×A12×A13×A14×A15×A16×A17×A18):A17:=x.2.2.2.2.2.2.2.2.2.2.2.2.2.2.2.2.2.1
abbrev q17 (x:A0×A1×A2×A3×A4×A5×A6×A7×A8×A9×A10×A11×A12×A13×A14×A15×A16×A17):A17:=x.2.2.2.2.2.2.2.2.2.2.2.2.2.2.2.2.2
abbrev p18 (x:A0×A1×A2×A3×A4×A5×A6×A7×A8×A9×A10×A11×A12×A13×A14×A15×A16×A17×A18×A19):A18:=x.2.2.2.2.2.2.2.2.2.2.2.2.2.2.2.2.2.2.1
abbrev q18 (x:A0×A1×A2×A3×A4×A5×A6×A7×A8×A9×A10×A11×A12×A13×A14×A15×A16×A17×A18):A18:=x.2.2.2.2.2.2.2.2.2.2.2.2.2.2.2.2.2.2
abbrev p19 (x:A0×A1×A2×A3×A4×A5×A6×A7×A8×A9×A10×A11×A12×A13×A14×A15×A16×A17×A18×A19×A20):A19:=x.2.2.2.2.2.2.2.2.2.2.2.2.2.2.2.2.2.2.2.1
abbrev p20 (x:A0×A1×A2×A3×A4×A5×A6×A7×A8×A9×A10×A11×A12×A13×A14×A15×A16×A17×A18×A19×A20×A21):A20:=x.2.2.2.2.2.2.2.2.2.2.2.2.2.2.2.2.2.2.2.2.1
abbrev q21 (x:A0×A1×A2×A3×A4×A5×A6×A7×A8×A9×A10×A11×A12×A13×A14×A15×A16×A17×A18×A19×A20×A21):A21:=x.2.2.2.2.2.2.2.2.2.2.2.2.2.2.2.2.2.2.2.2.2
end Prod
namespace Go.Proofs.YtkagidinekdnoaaGreatDoor.AI
open Go.RowKit
set_option maxRecDepth 100000
set_option maxHeartbeats 4000000
set_option linter.unusedVariables false
set_option linter.unusedSimpArgs false
open Act renaming put→LO
open _root_.Array renaming getElem?_eq_some_iff→b9,getElem?_toList→ch,getD_eq_getD_getElem?→fI,getElem?_eq_getElem→gu,length_toList→gE,replicate→ng,getElem?_setIfInBounds_ne→oI
open _root_.Bool renaming true→ajp,false→ajq,and_eq_true→aj,false_eq_true→b8,or_eq_true→hP
open _root_.Int renaming ofNat→aJ,toNat→aL,tmod→yl
open IntKind renaming wrap→nK
open _root_.List renaming length→af,getElem?_eq_getElem→ar,getD_eq_getElem?_getD→au,replicate→ay,mem_of_getElem?→aS,getElem?_map→aU,length_append→bg,getElem?_append_left→bA,getElem?_eq_none→bB,getElem?_append_right→bJ,mem_cons_of_mem→cA,take→db,mem_cons_self→dg,range→eU,length_singleton→fw,mem_append_left→kc,mem_append_right→mr,getElem?_cons_zero→pF,mem_flatMap→tw,getElem_mem→tC
open _root_.Nat renaming eq_of_beq_eq_true→ak,beq→av,testBit→aG,testBit_or→bf,ble_eq_true_of_le→bp,zero_add→bz,le_refl→bF,lt_or_ge→bI,le_trans→cM,lt_of_lt_of_le→cU,ble→dJ,blt→fd,ne_of_beq_eq_false→gp,min→gY,beq_refl→tu,not_lt_zero→vC,mul_comm→FL,eq_zero_or_pos→Jm
open Oper renaming wp→FK
open _root_.Option renaming some→ajn,none→ajo,bind_some→aA,isSome_iff_exists→gR
open _root_.Option.some renaming injEq→aa
open _root_.Prod.mk renaming injEq→aw
open Region renaming wanted→gQ,binds→yh,ready→FJ
open _root_.Sum renaming inr→bM,inl→nG
open World renaming shape?→qp,cell?→LL
noncomputable section
inductive FV where
 |raw (v:Value)
 |sl (cells:List FV) (n:Nat)
 |ptr (cells:List FV) (off:Nat)
 |agg (cells:List FV)
inductive AV where
 |f (x:FV)
 |ptr (id off:Nat)
 |sl (id off n:Nat)
 |row (id sz n:Nat)
 |mp (id:Nat)
 |emp
 |anyb
 |agg (cells:List AV)
 |tup (vs:List AV)
 |clo (g:FuncId) (cap:List AV)
def FV.isCell:FV->Bool
 |.raw v=>v.oneCell'
 |.sl _ _=>ajp
 |.ptr _ _=>ajp
 |.agg _=>ajq
def AV.isCell:AV->Bool
 |.f x=>x.isCell
 |.ptr _ _=>ajp
 |.sl _ _ _=>ajp
 |.row _ _ _=>ajp
 |.mp _=>ajp
 |.emp=>ajp
 |.clo _ _=>ajp
 |_=>ajq
inductive mj (O:Nat->Prop) (w:World):FV->Value->Prop
 |raw (v:Value):mj O w (.raw v) v
 |nil (a:Option Addr) (c:Nat) (hc:c<=maxLen):mj O w (.sl [] 0) (.slice a 0 c)
 |sl (cells:List FV) (n c b off:Nat) (us:Nat->Value) (hn:n<=c) (hc:c<=maxLen) (hO:¬O b) (hb:b<w.heap.size)
   (hcl:∀ x∈cells,x.isCell=ajp)
   (hu:∀ j,j<cells.length->w.cell? ⟨b,off+j,ajo⟩=ajn (us j)) (hr:∀ (j:Nat) x,cells[j]? =ajn x->mj O w x (us j)):
   mj O w (.sl cells n) (.slice (ajn ⟨b,off,ajo⟩) n c)
 |ptr (cells:List FV) (o b off:Nat) (us:Nat->Value) (hO:¬O b) (hb:b<w.heap.size)
   (hcl:∀ x∈cells,x.isCell=ajp)
   (hu:∀ j,j<cells.length->w.cell? ⟨b,off+j,ajo⟩=ajn (us j)) (hr:∀ (j:Nat) x,cells[j]? =ajn x->mj O w x (us j)):
   mj O w (.ptr cells o) (.pointer (ajn ⟨b,off+o,ajo⟩))
 |agg (cells:List FV) (vs:List Value) (hl:vs.length=cells.length) (hcl:∀ x∈cells,x.isCell=ajp)
   (hr:∀ (j:Nat) x v,cells[j]? =ajn x->vs[j]? =ajn v->mj O w x v):mj O w (.agg cells) (.agg vs.toArray)
abbrev PM:=Nat->Option Nat
inductive cq (φ:PM) (O:Nat->Prop) (w:World):AV->Value->Prop
 |f {x:FV} {v:Value} (h:mj O w x v):cq φ O w (.f x) v
 |ptr {id off b:Nat} (h:φ id=ajn b):cq φ O w (.ptr id off) (.pointer (ajn ⟨b,off,ajo⟩))
 |sl {id off n c b:Nat} (h:φ id=ajn b) (hn:n<=c) (hc:c<=maxLen):cq φ O w (.sl id off n) (.slice (ajn ⟨b,off,ajo⟩) n c)
 |row {id sz n c b:Nat} (h:φ id=ajn b) (hn:n<=c) (hc:c<=maxLen) (hs:∃ ty,w.shape? b=ajn (ty,c*sz)):
   cq φ O w (.row id sz n) (.slice (ajn ⟨b,0,ajo⟩) n c)
 |emp {a:Option Addr}:cq φ O w .emp (.slice a 0 0)
 |anyb {b:Bool}:cq φ O w .anyb (.bool b)
 |mp {id b:Nat} (h:φ id=ajn b):cq φ O w (.mp id) (.map (ajn b))
 |agg {cells:List AV} {vs:List Value} (hl:vs.length=cells.length) (hcl:∀ x∈cells,x.isCell=ajp)
   (hr:∀ (j:Nat) x v,cells[j]? =ajn x->vs[j]? =ajn v->cq φ O w x v):cq φ O w (.agg cells) (.agg vs.toArray)
 |tup {cells:List AV} {vs:List Value} (hl:vs.length=cells.length)
   (hr:∀ (j:Nat) x v,cells[j]? =ajn x->vs[j]? =ajn v->cq φ O w x v):cq φ O w (.tup cells) (.tuple vs.toArray)
 |clo {g:FuncId} {cells:List AV} {vs:List Value} (hl:vs.length=cells.length)
   (hr:∀ (j:Nat) x v,cells[j]? =ajn x->vs[j]? =ajn v->cq φ O w x v):cq φ O w (.clo g cells) (.func (.func g) #[] vs.toArray)
structure Jj (O:Nat->Prop) (w w':World):Prop where
 os:w'.os=w.os
 tape:w'.tape=w.tape
 output:w'.output=w.output
 size:w.heap.size<=w'.heap.size
 blk:∀ k,k<w.heap.size->¬O k->w'.heap[k]? =w.heap[k]?
 shp:∀ k,k<w.heap.size->w'.shape? k=w.shape? k
theorem Jj.refl (O:Nat->Prop) (w:World):Jj O w w:=⟨rfl,rfl,rfl,bF _,λ_ _ _=>rfl,λ_ _=>rfl⟩
theorem Cq {w w':World} {b:Nat} (h:w'.heap[b]? =w.heap[b]?) (o:Nat):w'.cell? ⟨b,o,ajo⟩=w.cell? ⟨b,o,ajo⟩:=by
 unfold LL;rw[h]
theorem mj.ext {O O':Nat->Prop} {w w':World} (he:Jj O w w') (J:∀ k,k<w.heap.size->O' k->O k) {x:FV} {v:Value} (h:mj O w x v):mj O' w' x v:=by
 induction h with
 |raw v=>exact .raw v
 |nil a c hc=>exact .nil a c hc
 |sl cells n c b off us hn hc hO hb hcl hu hr I=>
  exact .sl cells n c b off us hn hc (λh=>hO (J b hb h)) (cU hb he.size) hcl (λj hj=>by rw[Cq (he.blk b hb hO)];exact hu j hj) I
 |ptr cells o b off us hO hb hcl hu hr I=>
  exact .ptr cells o b off us (λh=>hO (J b hb h)) (cU hb he.size) hcl (λj hj=>by rw[Cq (he.blk b hb hO)];exact hu j hj) I
 |agg cells vs hl hcl hr I=>exact .agg cells vs hl hcl I
theorem cq.ext {φ φ':PM} {O O':Nat->Prop} {w w':World} (hs:∀ i k,φ i=ajn k->φ' i=ajn k) (he:Jj O w w') (J:∀ k,k<w.heap.size->O' k->O k) {x:AV} {v:Value} (h:cq φ O w x v):cq φ' O' w' x v:=by
 induction h with
 |f h=>exact .f (h.ext he J)
 |ptr h=>exact .ptr (hs _ _ h)
 |sl h hn hc=>exact .sl (hs _ _ h) hn hc
 |row h hn hc hsh=>
  obtain⟨ty,hty⟩:=hsh;refine .row (hs _ _ h) hn hc ⟨ty,?_⟩;rw[he.shp _ ?_];exact hty;unfold qp at hty;rcases bI _ w.heap.size with hlt|hge
  ·exact hlt
  ·rw[Array.getElem?_eq_none hge] at hty;cases hty
 |emp=>exact .emp
 |anyb=>exact .anyb
 |mp h=>exact .mp (hs _ _ h)
 |agg hl hcl hr I=>exact .agg hl hcl I
 |tup hl hr I=>exact .tup hl I
 |clo hl hr I=>exact .clo hl I
inductive BC where
 |fz (l:List FV)
 |mx (l:List AV)
 |mp (es:List (Value×AV))
 |it (s:ByteArray) (pos:Nat)
def BC.get:BC->Nat->Option AV
 |.fz l,j=>l[j]?.map AV.f
 |.mx l,j=>l[j]?
 |_,_=>ajo
def BC.len:BC->Nat
 |.fz l=>l.length
 |.mx l=>l.length
 |_=>0
def BC.isCells:BC->Bool
 |.fz _=>ajp
 |.mx _=>ajp
 |_=>ajq
structure vy where
 ty:TypeId
 c:BC
abbrev HF:=Nat->Option vy
def own (φ:PM) (h:HF) (k:Nat):Prop:=∃ id b,h id=ajn b/\φ id=ajn k
def tot (E:Nat->Prop) (φ:PM) (h:HF) (k:Nat):Prop:=E k\/own φ h k
def t7 (φ:PM) (O:Nat->Prop) (w:World) (c:BC) (arr:Array Value):Prop:=
 c.len<=arr.size/\∀ j x,c.get j=ajn x->x.isCell=ajp/\∃ v,arr[j]? =ajn v/\cq φ O w x v
def iE (φ:PM) (O:Nat->Prop) (w:World) (b:vy) (o:Obj):Prop:=
 match b.c with
 |.mp es=>∃ ents clock,o= .map ents clock/\ents.toList.map (·.key)=es.map (·.1)/\∀ (j:Nat) x,es[j]? =ajn x->∃ m,ents[j]? =ajn m/\cq φ O w x.2 m.val
 |.it s p=>o= .stringIter s p
 |c=>∃ arr,o= .cells arr b.ty (0,0)/\t7 φ O w c arr
def Vf (φ:PM) (O:Nat->Prop) (w:World) (k:Nat) (b:vy):Prop:=∃ o,w.heap[k]? =ajn o/\iE φ O w b o
theorem Vf.cells {φ:PM} {O:Nat->Prop} {w:World} {k:Nat} {b:vy} (h:Vf φ O w k b) (hc:b.c.isCells=ajp):
 ∃ arr,w.heap[k]? =ajn (.cells arr b.ty (0,0))/\t7 φ O w b.c arr:=by
 obtain⟨o,h1,I⟩:=h;unfold iE at I;cases hb:b.c with
 |fz l=>rw[hb] at I;obtain⟨arr,rfl,J⟩:=I;exact⟨arr,h1,J⟩
 |mx l=>rw[hb] at I;obtain⟨arr,rfl,J⟩:=I;exact⟨arr,h1,J⟩
 |mp _=>rw[hb] at hc;cases hc
 |it _ _=>rw[hb] at hc;cases hc
theorem iE.mono {φ φ':PM} {O O':Nat->Prop} {w w':World} (hk:∀ x v,cq φ O w x v->cq φ' O' w' x v) {b:vy} {o:Obj} (h:iE φ O w b o):iE φ' O' w' b o:=by
 unfold iE at h ⊢;cases hb:b.c with
 |fz l=>rw[hb] at h;obtain⟨arr,h1,M,J⟩:=h;exact⟨arr,h1,M,λj x I=>by obtain⟨a,v,c,d⟩:=J j x I;exact⟨a,v,c,hk _ _ d⟩⟩
 |mx l=>rw[hb] at h;obtain⟨arr,h1,M,J⟩:=h;exact⟨arr,h1,M,λj x I=>by obtain⟨a,v,c,d⟩:=J j x I;exact⟨a,v,c,hk _ _ d⟩⟩
 |mp es=>rw[hb] at h;obtain⟨e,c,h1,M,J⟩:=h;exact⟨e,c,h1,M,λj x I=>by obtain⟨m,a,b⟩:=J j x I;exact⟨m,a,hk _ _ b⟩⟩
 |it s p=>rw[hb] at h;exact h
theorem t7.mono {φ φ':PM} {O O':Nat->Prop} {w w':World} (hk:∀ x v,cq φ O w x v->cq φ' O' w' x v) {c:BC} {arr:Array Value} (h:t7 φ O w c arr):t7 φ' O' w' c arr:=
 ⟨h.1,λj x I=>by obtain⟨a,v,c,d⟩:=h.2 j x I;exact⟨a,v,c,hk _ _ d⟩⟩
def ta (l:List UInt8):FV:=.raw (.string ⟨l.toArray⟩)
def Br:List FV:=[ta [118,97,114],ta [118,111,108,97,116,105,108,101],ta [109,117,116,101,120],ta [114,119,108,111,99,107],ta [99,111,110,100],ta [102,117,116,117,114,101],ta [116,104,114,101,97,100],ta [105,102],ta [101,108,115,101],ta [119,104,105,108,101],ta [108,111,99,107],ta [114,101,97,100],ta [119,114,105,116,101],ta [116,114,97,110,115,97,99,116,105,111,110],ta [97,116,111,109,105,99],ta [119,97,105,116],ta [110,111,116,105,102,121],ta [110,111,116,105,102,121,97,108,108],ta [115,112,97,119,110],ta [106,111,105,110],ta [115,101,116],ta [103,101,116]]
def G (g:Nat):Option (List FV):=if g==0 then ajn Br else ajo
structure pM (φ:PM) (E:Nat->Prop) (h:HF) (w:World):Prop where
 inj:∀ i j b b' k,h i=ajn b->h j=ajn b'->φ i=ajn k->φ j=ajn k->i=j
 at_:∀ i b,h i=ajn b->∃ k,φ i=ajn k/\¬E k/\Vf φ (tot E φ h) w k b
 el:∀ k,E k->k<w.heap.size
 gl:∀ g cells,G g=ajn cells->mj (tot E φ h) w (.ptr cells 0) (.pointer (ajn ⟨g,0,ajo⟩))
structure ie (φ φ':PM) (h h':HF) (w w':World):Prop where
 sub:∀ i k,φ i=ajn k->φ' i=ajn k
 ext:Jj (own φ h) w w'
 own_:∀ k,k<w.heap.size->own φ' h' k->own φ h k
theorem ie.refl (φ:PM) (h:HF) (w:World):ie φ φ h h w w:=⟨λ_ _ h=>h,Jj.refl _ _,λ_ _ h=>h⟩
theorem ie.trans {φ φ' φ'':PM} {h h' h'':HF} {w w' w'':World} (m:ie φ φ' h h' w w') (n:ie φ' φ'' h' h'' w' w''):ie φ φ'' h h'' w w'' where
 sub:=λi k e=>n.sub i k (m.sub i k e)
 ext:=⟨n.ext.os.trans m.ext.os,n.ext.tape.trans m.ext.tape,n.ext.output.trans m.ext.output,cM m.ext.size n.ext.size,
  λk hk I=>(n.ext.blk k (cU hk m.ext.size) (λh=>I (m.own_ k hk h))).trans (m.ext.blk k hk I),
  λk hk=>(n.ext.shp k (cU hk m.ext.size)).trans (m.ext.shp k hk)⟩
 own_:=λk hk h=>m.own_ k hk (n.own_ k (cU hk m.ext.size) h)
theorem Jj.mono {O O':Nat->Prop} {w w':World} (h:Jj O w w') (I:∀ k,O k->O' k):Jj O' w w':=
 ⟨h.os,h.tape,h.output,h.size,λk hk hO=>h.blk k hk (λx=>hO (I k x)),h.shp⟩
theorem ie.keep {φ φ':PM} {h h':HF} {w w':World} (m:ie φ φ' h h' w w') {E:Nat->Prop} {x:AV} {v:Value} (r:cq φ (tot E φ h) w x v):cq φ' (tot E φ' h') w' x v:=
 r.ext m.sub (m.ext.mono λ_ h=>.inr h) λk hk I=>I.elim .inl λo=>.inr (m.own_ k hk o)
theorem ie.keepF {φ φ':PM} {h h':HF} {w w':World} (m:ie φ φ' h h' w w') {E:Nat->Prop} {x:FV} {v:Value} (r:mj (tot E φ h) w x v):mj (tot E φ' h') w' x v:=
 r.ext (m.ext.mono λ_ h=>.inr h) λk hk I=>I.elim .inl λo=>.inr (m.own_ k hk o)
abbrev EF:=Nat->Option AV
def LH (φ:PM) (O:Nat->Prop) (w:World) (e:EF) (a:Act):Prop:=∀ t x,e t=ajn x->cq φ O w x (a.tmps.getD t undef)
def Bg (e:EF) (dst:Option Nat) (x:AV):EF:=λt=>if dst=ajn t then ajn x else e t
def dQ (h:HF) (wr:List Nat) (nw:HF):HF:=λi=>if i∈wr then nw i else h i
structure zK where
 val:AV
 rd:List Nat
 wr:List Nat
 nw:HF
 N:List Nat
def fO (P:Program) (o:Oper) (e:EF) (h:HF) (f:zK):Prop:=
 ∀ (φ:PM) (E:Nat->Prop) (h':HF) (w:World) (a:Act),(∀ i∈f.rd,h' i=h i)->(∀ i∈f.wr,h' i=h i)->
  (∀ t,.tmp t∈o.op.operands->∀ y,e t=ajn y->cq φ (tot E φ h') w y (a.tmps.getD t undef))->pM φ E h' w->(∀ n∈f.N,φ n=ajo)->
  o.wp P a w (λa' w'=>∃ v φ',a'=a.put o.dst v/\ie φ φ' h' (dQ h' f.wr f.nw) w w'/\(∀ i k,φ' i=ajn k->φ i=ajn k\/i∈f.N)/\
   pM φ' E (dQ h' f.wr f.nw) w'/\cq φ' (tot E φ' (dQ h' f.wr f.nw)) w' f.val v) (λ_ _ _=>False)
def qu:zK:=⟨.f (.raw undef),[],[],λ_=>ajo,[]⟩
inductive I6 (P:Program) (ops:Array Oper) (o:Oper) (f:zK) (e:EF) (h:HF):Prop
 |run (hg:o.guard=ajo) (ht:fO P o e h f)
 |runG (j t:Nat) (want:Bool) (hg:o.guard=ajn (j,want)) (hj:(ops[j]?).bind (·.dst)=ajn t) (he:e t=ajn (.f (.raw (.bool want)))) (ht:fO P o e h f)
 |skip (j t:Nat) (want:Bool) (hg:o.guard=ajn (j,want)) (hj:(ops[j]?).bind (·.dst)=ajn t) (v:Value) (he:e t=ajn (.f (.raw v))) (hv:v≠ .bool want) (hf:f=qu)
inductive yg (P:Program) (ops:Array Oper):List (Oper×zK)->EF->HF->EF->HF->Prop
 |nil (e:EF) (h:HF):yg P ops [] e h e h
 |cons {o:Oper} {f:zK} {r:List (Oper×zK)} {e e':EF} {h h':HF} (hs:I6 P ops o f e h)
   (hr:yg P ops r (Bg e o.dst f.val) (dQ h f.wr f.nw) e' h'):yg P ops ((o,f)::r) e h e' h'
def Jq (S:Nat->Bool):Nat->List (Oper×zK)->EF->EF
 |_,[],e=>e
 |k,(o,f)::r,e=>Jq S (k+1) r (if S k then Bg e o.dst f.val else e)
def AJ (S:Nat->Bool):Nat->List (Oper×zK)->HF->HF
 |_,[],h=>h
 |k,(_,f)::r,h=>AJ S (k+1) r (if S k then dQ h f.wr f.nw else h)
theorem CM {S S':Nat->Bool} {t:Nat}:∀ (l:List (Oper×zK)) (k:Nat) (e e':EF),e t=e' t->
 (∀ (j:Nat) o f,l[j]? =ajn (o,f)->o.dst=ajn t->S (k+j)=S' (k+j))->Jq S k l e t=Jq S' k l e' t
 |[],_,_,_,he,_=>he
 |(o,f)::r,k,e,e',he,I=>by
  simp only[Jq];refine CM r (k+1) _ _ ?_ (λj o f hj hd=>by have:=I (j+1) o f (by simpa using hj) hd;rwa [show k+(j+1)=k+1+j from by omega] at this);by_cases hd:o.dst=ajn t
  ·rw[show S k=S' k from by simpa using I 0 o f rfl hd];split
   ·simp[Bg,hd]
   ·exact he
  ·split<;>split<;>simp[Bg,hd,he]
theorem CL {S S':Nat->Bool} {t:Nat}:∀ (l:List (Oper×zK)) (k:Nat) (e e':HF),e t=e' t->
 (∀ (j:Nat) o f,l[j]? =ajn (o,f)->t∈f.wr->S (k+j)=S' (k+j))->AJ S k l e t=AJ S' k l e' t
 |[],_,_,_,he,_=>he
 |(o,f)::r,k,e,e',he,I=>by
  simp only[AJ];refine CL r (k+1) _ _ ?_ (λj o f hj hd=>by have:=I (j+1) o f (by simpa using hj) hd;rwa [show k+(j+1)=k+1+j from by omega] at this);by_cases hd:t∈f.wr
  ·rw[show S k=S' k from by simpa using I 0 o f rfl hd];split
   ·simp[dQ,hd]
   ·exact he
  ·split<;>split<;>simp[dQ,hd,he]
theorem AW {S:Nat->Bool} {t:Nat}:∀ (l:List (Oper×zK)) (k:Nat) (e:EF),(∀ (j:Nat) o f,l[j]? =ajn (o,f)->o.dst=ajn t->S (k+j)=ajq)->Jq S k l e t=e t
 |[],_,_,_=>rfl
 |(o,f)::r,k,e,I=>by
  simp only[Jq];rw[AW r (k+1) _ (λj o f hj hd=>by have:=I (j+1) o f (by simpa using hj) hd;rwa [show k+(j+1)=k+1+j from by omega] at this)];split
  ·rename_i h;unfold Bg;rw[if_neg];intro hd;have:=I 0 o f rfl hd;simp_all
  ·rfl
theorem AU {S:Nat->Bool} {t:Nat}:∀ (l:List (Oper×zK)) (k:Nat) (e:HF),(∀ (j:Nat) o f,l[j]? =ajn (o,f)->t∈f.wr->S (k+j)=ajq)->AJ S k l e t=e t
 |[],_,_,_=>rfl
 |(o,f)::r,k,e,I=>by
  simp only[AJ];rw[AU r (k+1) _ (λj o f hj hd=>by have:=I (j+1) o f (by simpa using hj) hd;rwa [show k+(j+1)=k+1+j from by omega] at this)];split
  ·rename_i h;unfold dQ;rw[if_neg];intro hd;have:=I 0 o f rfl hd;simp_all
  ·rfl
theorem NP {S:Nat->Bool} {t:Nat}:∀ (l:List (Oper×zK)) (k i:Nat) (e:EF) (o:Oper) (f:zK),l[i]? =ajn (o,f)->o.dst=ajn t->S (k+i)=ajp->
 (∀ (j:Nat) I M,i<j->l[j]? =ajn (I,M)->I.dst=ajn t->S (k+j)=ajq)->Jq S k l e t=ajn f.val
 |[],_,_,_,_,_,h,_,_,_=>by simp at h
 |(I,M)::r,k,0,e,o,f,h,hd,J,hl=>by
  simp only[pF,aa,aw] at h;obtain⟨rfl,rfl⟩:=h;simp only[Jq];rw[AW r (k+1) _ (λj o f hj hd=>by have:=hl (j+1) o f (by omega) (by simpa using hj) hd;rwa [show k+(j+1)=k+1+j from by omega] at this)];simp at J;simp[J,Bg,hd]
 |(I,M)::r,k,i+1,e,o,f,h,hd,J,hl=>by
  simp only[Jq];exact NP r (k+1) i _ o f (by simpa using h) hd (by rwa [show k+1+i=k+(i+1) from by omega])
   (λj o f hij hj hd=>by have:=hl (j+1) o f (by omega) (by simpa using hj) hd;rwa [show k+(j+1)=k+1+j from by omega] at this)
theorem NL {S:Nat->Bool} {t:Nat}:∀ (l:List (Oper×zK)) (k i:Nat) (e:HF) (o:Oper) (f:zK),l[i]? =ajn (o,f)->t∈f.wr->S (k+i)=ajp->
 (∀ (j:Nat) J I,i<j->l[j]? =ajn (J,I)->t∈I.wr->S (k+j)=ajq)->AJ S k l e t=f.nw t
 |[],_,_,_,_,_,h,_,_,_=>by simp at h
 |(J,I)::r,k,0,e,o,f,h,hd,M,hl=>by
  simp only[pF,aa,aw] at h;obtain⟨rfl,rfl⟩:=h;simp only[AJ];rw[AU r (k+1) _ (λj o f hj hd=>by have:=hl (j+1) o f (by omega) (by simpa using hj) hd;rwa [show k+(j+1)=k+1+j from by omega] at this)];simp at M;simp[M,dQ,hd]
 |(J,I)::r,k,i+1,e,o,f,h,hd,M,hl=>by
  simp only[AJ];exact NL r (k+1) i _ o f (by simpa using h) hd (by rwa [show k+1+i=k+(i+1) from by omega])
   (λj o f hij hj hd=>by have:=hl (j+1) o f (by omega) (by simpa using hj) hd;rwa [show k+(j+1)=k+1+j from by omega] at this)
theorem yg.step {P:Program} {ops:Array Oper}:∀ {l:List (Oper×zK)} {e e':EF} {h h':HF} (_:yg P ops l e h e' h') (k i:Nat) (o:Oper) (f:zK),l[i]? =ajn (o,f)->
 I6 P ops o f (Jq (λj=>decide (j<k+i)) k l e) (AJ (λj=>decide (j<k+i)) k l h):=by
 intro l e e' h h' hc;induction hc with
 |nil=>intro k i o f hi;simp at hi
 |@cons o1 I r e e' h h' hs hr J=>
  intro k i o f hi;cases i with
  |zero=>
   simp only[pF,aa,aw] at hi;obtain⟨rfl,rfl⟩:=hi;have e1:Jq (λj=>decide (j<k+0)) k ((o1,I)::r) e=e:=by
    funext t;rw[AW];intro j o f _ _;simp
   have e2:AJ (λj=>decide (j<k+0)) k ((o1,I)::r) h=h:=by
    funext t;rw[AU];intro j o f _ _;simp
   rw[e1,e2];exact hs
  |succ i=>
   have:=J (k+1) i o f (by simpa using hi);simp only[Jq,AJ];rw[show k+(i+1)=k+1+i from by omega];simpa[show k<k+1+i from by omega] using this
theorem yg.final {P:Program} {ops:Array Oper}:∀ {l:List (Oper×zK)} {e e':EF} {h h':HF} (_:yg P ops l e h e' h') (k:Nat) (S:Nat->Bool),(∀ j,j<l.length->S (k+j)=ajp)->
 Jq S k l e=e'/\AJ S k l h=h':=by
 intro l e e' h h' hc;induction hc with
 |nil=>intro k S _;exact⟨rfl,rfl⟩
 |@cons o1 M r e e' h h' hs hr J=>
  intro k S I;have h0:S k=ajp:=by simpa using I 0 (by simp)
  simp only[Jq,AJ,h0,if_true];exact J (k+1) S (λj hj=>by have:=I (j+1) (by simpa using hj);rwa [show k+(j+1)=k+1+j from by omega] at this)
theorem ND {P:Program} {o:Oper} {a:Act} {w:World} {K K':Act->World->Prop} {Q:Exit->Act->World->Prop} (h:∀ a w,K a w->K' a w)
 (hh:o.wp P a w K (λ_ _ _=>False)):o.wp P a w K' Q:=by
 unfold FK at*
 generalize (execOp a.eval o).run P w=r at*
 cases r with
 |ok n w'=>
  cases n<;>simp only[Oper.upon] at hh ⊢<;>
   first
    |exact h _ _ hh
    |exact Calls.mono hh (λe w'' he=>by
      cases e with
      |returned v=>exact h _ _ he
      |panicked c=>exact he.elim
      |outgrown=>obtain⟨_,_,h⟩:=he;exact h.elim)
    |exact Rows.mono hh (λ_ _ he=>h _ _ he)
 |halt x w'=>cases x<;>simp only[Oper.upon] at hh ⊢<;>first|exact hh.elim|exact hh
inductive ZJ (ops:Array Oper):Nat->Nat->Prop
 |one {j:Nat} {o:Oper} {e:Edge} (h:ops[j]? =ajn o) (he:e∈o.after) (hb:yh .any e=ajp):ZJ ops j e.on
 |more {j i:Nat} {o:Oper} {e:Edge} (h:ops[j]? =ajn o) (he:e∈o.after) (hb:yh .any e=ajp) (hi:ZJ ops e.on i):ZJ ops j i
structure NIP (ops:Array Oper) (l:List (Oper×zK)):Prop where
 edge:∀ (j:Nat) o,ops[j]? =ajn o->∀ e∈o.after,yh .any e=ajp->e.on<j
 pair:∀ (i j:Nat) oi fi oj fj,i<j->l[i]? =ajn (oi,fi)->l[j]? =ajn (oj,fj)->ZJ ops j i\/
  (oi.apart ops oj=ajp/\(∀ x∈fi.wr,x∉fj.rd/\x∉fj.wr)/\(∀ x∈fj.wr,x∉fi.rd))
 names:∀ (i j:Nat) oi fi oj fj,i<j->l[i]? =ajn (oi,fi)->l[j]? =ajn (oj,fj)->∀ n∈fi.N,n∉fj.N
def DP (ops:Array Oper) (listed:Array Bool):Prop:=∀ (j:Nat) o,ops[j]? =ajn o->listed.getD j ajq=ajp->∀ e∈o.after,yh .any e=ajp->listed.getD e.on ajq=ajp
theorem DP.bef {ops:Array Oper} {listed:Array Bool} (hc:DP ops listed) {j i:Nat} (h:ZJ ops j i):listed.getD j ajq=ajp->listed.getD i ajq=ajp:=by
 induction h with
 |one h he hb=>intro hj;exact hc _ _ h hj _ he hb
 |more h he hb hi I=>intro hj;exact I (hc _ _ h hj _ he hb)
theorem Vn {ops:Array Oper} {listed:Array Bool} (hc:DP ops listed) {j i:Nat} {o:Oper} (I:ops[j]? =ajn o) (hr:∀ e∈o.after,yh .any e=ajp->listed.getD e.on ajq=ajp) (h:ZJ ops j i):listed.getD i ajq=ajp:=by
 cases h with
 |one h he hb=>rw[h] at I;cases I;exact hr _ he hb
 |more h he hb hi=>rw[h] at I;cases I;exact hc.bef hi (hr _ he hb)
theorem rh {listed:Array Bool} {j:Nat} (h:listed.getD j ajp=ajq):listed.getD j ajq=ajq/\j<listed.size:=by
 rcases bI j listed.size with h1|h1
 ·simp[h1] at h ⊢;exact h
 ·simp[Array.getElem?_eq_none h1] at h
def StP (φ0:PM) (E:Nat->Prop) (e0:EF) (h0:HF) (w0:World) (a0:Act) (l:List (Oper×zK)) (S:Nat->Bool) (a:Act) (w:World):Prop:=
 ∃ φ,ie φ0 φ h0 (AJ S 0 l h0) w0 w/\(∀ i k,φ i=ajn k->φ0 i=ajn k\/∃ (j:Nat) (o:Oper) (f:zK),S j=ajp/\l[j]? =ajn (o,f)/\i∈f.N)/\
  pM φ E (AJ S 0 l h0) w/\LH φ (tot E φ (AJ S 0 l h0)) w (Jq S 0 l e0) a/\a.defers=a0.defers/\a.tmps.size=a0.tmps.size
theorem Gu {a:Act} {dst:Option Tmp} {v:Value} {t:Nat} (hd:∀ d,dst=ajn d->d<a.tmps.size):(a.put dst v).tmps.getD t undef=if dst=ajn t then v else a.tmps.getD t undef:=by
 cases dst with
 |none=>simp[LO]
 |some d=>
  by_cases h:d=t
  ·subst h;simp[LO,hd d rfl]
  ·simp[LO,h,oI h]
theorem N9 {a:Act} {dst:Option Tmp} {v:Value}:(a.put dst v).tmps.size=a.tmps.size:=by cases dst<;>simp[LO]
theorem Gv {a:Act} {dst:Option Tmp} {v:Value}:(a.put dst v).defers=a.defers:=by cases dst<;>rfl
theorem XZ {P:Program} {ops:Array Oper} {l:List (Oper×zK)} {e0 e':EF} {h0 h':HF} {φ0:PM} {E:Nat->Prop} {w0:World} {a0:Act}
 (hl:l.map (·.1)=ops.toList) (hc:yg P ops l e0 h0 e' h') (ni:NIP ops l) (hfr:∀ (j:Nat) o f,l[j]? =ajn (o,f)->∀ n∈f.N,φ0 n=ajo)
 (hsz:∀ (j:Nat) o,ops[j]? =ajn o->∀ d,o.dst=ajn d->d<a0.tmps.size) {listed:Array Bool} (hcl:DP ops listed) {i:Nat} (hi:i∈FJ .any ops listed) {Q:Exit->Act->World->Prop} {K:Act->World->Prop}
 (hK:∀ a w,StP φ0 E e0 h0 w0 a0 l (λj=>(listed.setIfInBounds i ajp).getD j ajq) a w->K a w) {a:Act} {w:World} (hst:StP φ0 E e0 h0 w0 a0 l (λj=>listed.getD j ajq) a w):
 wpOp P ops Q i K a w:=by
 obtain⟨hun,o,ho,hdeps⟩:=mem_ready.1 hi;obtain⟨hnf,hlt⟩:=rh hun;have hln:∀ (j:Nat) Y,ops[j]? =ajn Y->∃ f,l[j]? =ajn (Y,f):=λj Y h=>by
  have h1:(l.map (·.1))[j]? =ajn Y:=by rw[hl];simpa using h
  rw[aU] at h1;cases hj:l[j]? with
  |none=>rw[hj] at h1;cases h1
  |some p=>rw[hj] at h1;obtain⟨a,b⟩:=p;simp at h1;subst h1;exact⟨b,rfl⟩
 have hnl:∀ (j:Nat) Y f,l[j]? =ajn (Y,f)->ops[j]? =ajn Y:=λj Y f h=>by
  have h1:(l.map (·.1))[j]? =ajn Y:=by rw[aU,h];rfl
  rw[hl] at h1;simpa using h1
 obtain⟨f,hf⟩:=hln i o ho;have hord:∀ (j:Nat) oj fj,j≠i->l[j]? =ajn (oj,fj)->(listed.getD j ajq=decide (j<i))\/
  (o.apart ops oj=ajp\/oj.apart ops o=ajp)/\(∀ x∈f.wr,x∉fj.rd/\x∉fj.wr)/\(∀ x∈fj.wr,x∉f.rd/\x∉f.wr):=by
  intro j oj fj hji hj;rcases bI j i with h|h
  ·rcases ni.pair j i oj fj o f h hj hf with hb|⟨h1,J,h3⟩
   ·left;rw[Vn hcl ho hdeps hb];simp[h]
   ·right;exact⟨.inr h1,λx I=>⟨h3 x I,λZ=>(J x Z).2 I⟩,λx I=>J x I⟩
  ·have h:i<j:=by omega
   rcases ni.pair i j o f oj fj h hf hj with hb|⟨h1,J,h3⟩
   ·left;have:listed.getD j ajq=ajq:=by
     cases I:listed.getD j ajq with
     |false=>rfl
     |true=>have:=hcl.bef hb I;rw[hnf] at this;cases this
    rw[this];simp;omega
   ·right;exact⟨.inl h1,λx I=>J x I,λx I=>⟨h3 x I,λZ=>(J x Z).2 I⟩⟩
 have M:∀ j,(listed.setIfInBounds i ajp).getD j ajq=if j=i then ajp else listed.getD j ajq:=λj=>by
  by_cases h:i=j
  ·subst h;simp[hlt]
  ·rw[getD_set_ne ajq h,if_neg (λe=>h e.symm)]
 have hlater:∀ (j:Nat) oj fj,i<j->l[j]? =ajn (oj,fj)->(listed.getD j ajq=ajq)\/((o.apart ops oj=ajp\/oj.apart ops o=ajp)/\(∀ x∈f.wr,x∉fj.rd/\x∉fj.wr)):=by
  intro j oj fj hij hj;rcases hord j oj fj (by omega) hj with h|⟨h1,J,_⟩
  ·left;rw[h];simp;omega
  ·right;exact⟨h1,J⟩
 have hdd:∀ {x y:Oper},(x.apart ops y=ajp\/y.apart ops x=ajp)->∀ d,x.dst=ajn d->y.dst≠ajn d:=by
  intro x y h d hd he;rcases h with h|h
  ·exact (Oper.apart_spec h).2.1 d hd he
  ·exact (Oper.apart_spec h).2.1 d he hd
 have hlook:∀ {x y:Oper},(x.apart ops y=ajp\/y.apart ops x=ajp)->∀ d,y.dst=ajn d->d∉x.looksAt ops:=by
  intro x y h d hd;rcases h with h|h
  ·exact (Oper.apart_spec h).2.2 d hd
  ·exact (Oper.apart_spec h).1 d hd
 have heL:∀ t,t∈o.looksAt ops->Jq (λj=>listed.getD j ajq) 0 l e0 t=Jq (λj=>decide (j<0+i)) 0 l e0 t:=λt ht=>by
  refine CM l 0 e0 e0 rfl λj oj fj hj hd=>?_
  simp only[bz];by_cases hji:j=i
  ·subst hji;rw[hnf];simp
  ·rcases hord j oj fj hji hj with h|⟨h,_⟩
   ·exact h
   ·exact absurd ht (hlook h t hd)
 have hhL:∀ t,t∈f.rd\/t∈f.wr->AJ (λj=>listed.getD j ajq) 0 l h0 t=AJ (λj=>decide (j<0+i)) 0 l h0 t:=λt ht=>by
  refine CL l 0 h0 h0 rfl λj oj fj hj hd=>?_
  simp only[bz];by_cases hji:j=i
  ·subst hji;rw[hnf];simp
  ·rcases hord j oj fj hji hj with h|⟨_,_,h⟩
   ·exact h
   ·rcases ht with ht|ht
    ·exact absurd ht (h t hd).1
    ·exact absurd ht (h t hd).2
 have hE':∀ t,Jq (λj=>(listed.setIfInBounds i ajp).getD j ajq) 0 l e0 t=if o.dst=ajn t then ajn f.val else Jq (λj=>listed.getD j ajq) 0 l e0 t:=λt=>by
  by_cases hd:o.dst=ajn t
  ·rw[if_pos hd];refine NP l 0 i e0 o f hf hd (by simp[M]) λj Y f' hij hj U=>?_
   simp only[bz,M,if_neg (show ¬j=i by omega)];rcases hlater j Y f' hij hj with h|⟨h,_⟩
   ·exact h
   ·exact absurd U (hdd h t hd)
  ·rw[if_neg hd];refine CM l 0 e0 e0 rfl λj oj fj hj U=>?_
   simp only[bz,M];rw[if_neg];intro hji;subst hji;rw[hf] at hj;cases hj;exact hd U
 have hH':AJ (λj=>(listed.setIfInBounds i ajp).getD j ajq) 0 l h0=dQ (AJ (λj=>listed.getD j ajq) 0 l h0) f.wr f.nw:=by
  funext t;unfold dQ;by_cases hd:t∈f.wr
  ·rw[if_pos hd];refine NL l 0 i h0 o f hf hd (by simp[M]) λj Y f' hij hj U=>?_
   simp only[bz,M,if_neg (show ¬j=i by omega)];rcases hlater j Y f' hij hj with h|⟨_,h⟩
   ·exact h
   ·exact absurd U (h t hd).2
  ·rw[if_neg hd];refine CL l 0 h0 h0 rfl λj oj fj hj U=>?_
   simp only[bz,M];rw[if_neg];intro hji;subst hji;rw[hf] at hj;cases hj;exact hd U
 obtain⟨φ,hm,hdom,hrep,henv,hdef,hsize⟩:=hst;have hfrN:∀ n∈f.N,φ n=ajo:=λn hn=>by
  cases I:φ n with
  |none=>rfl
  |some k=>
   rcases hdom n k I with h|⟨j,oj,fj,hSj,hj,hnj⟩
   ·rw[hfr i o f hf n hn] at h;cases h
   ·have hji:j≠i:=by intro h;subst h;exact absurd hSj (by simp only[hnf];simp)
    rcases bI j i with h|h
    ·exact absurd hn (ni.names j i oj fj o f h hj hf n hnj)
    ·exact absurd hnj (ni.names i j o f oj fj (by omega) hf hj n hn)
 have hdsz:∀ d,o.dst=ajn d->d<a.tmps.size:=λd hd=>by rw[hsize];exact hsz i o ho d hd
 have main:∀ (v:Value) (φ':PM) (w':World),ie φ φ' (AJ (λj=>listed.getD j ajq) 0 l h0) (dQ (AJ (λj=>listed.getD j ajq) 0 l h0) f.wr f.nw) w w'->
  (∀ i k,φ' i=ajn k->φ i=ajn k\/i∈f.N)->pM φ' E (dQ (AJ (λj=>listed.getD j ajq) 0 l h0) f.wr f.nw) w'->
  cq φ' (tot E φ' (dQ (AJ (λj=>listed.getD j ajq) 0 l h0) f.wr f.nw)) w' f.val v->K (a.put o.dst v) w':=by
  intro v φ' w' m1 d1 r1 v1;refine hK _ _ ⟨φ',?_,?_,?_,?_,?_,?_⟩
  ·rw[hH'];exact hm.trans m1
  ·intro i' k h;rcases d1 i' k h with h|h
   ·rcases hdom i' k h with h|⟨j,oj,fj,hSj,hj,hnj⟩
    ·exact .inl h
    ·refine .inr ⟨j,oj,fj,?_,hj,hnj⟩;show (listed.setIfInBounds i ajp).getD j ajq=ajp;rw[M j];split
     ·rfl
     ·exact hSj
   ·exact .inr ⟨i,o,f,(M i).trans (by simp),hf,h⟩
  ·rw[hH'];exact r1
  ·rw[hH'];intro t x I;rw[hE' t] at I;rw[Gu hdsz];by_cases hd:o.dst=ajn t
   ·rw[if_pos hd] at I ⊢;cases I;exact v1
   ·rw[if_neg hd] at I ⊢;exact m1.keep (henv t x I)
  ·rw[Gv];exact hdef
  ·rw[N9];exact hsize
 have hstep:=hc.step 0 i o f hf;have hrun:fO P o (Jq (λj=>decide (j<0+i)) 0 l e0) (AJ (λj=>decide (j<0+i)) 0 l h0) f->o.wp P a w K Q:=by
  intro ht;refine ND ?_ (ht φ E (AJ (λj=>listed.getD j ajq) 0 l h0) w a (λt h=>hhL t (.inl h)) (λt h=>hhL t (.inr h)) ?_ hrep hfrN)
  ·rintro a' w' ⟨v,φ',rfl,m1,d1,r1,v1⟩;exact main v φ' w' m1 d1 r1 v1
  ·intro t ht' y hy;refine henv t y ?_;rw[heL t (kc _ (List.mem_filterMap.2 ⟨.tmp t,by simpa using ht',rfl⟩))];exact hy
 have hyield:∀ (j t:Nat) (want b:Bool),o.guard=ajn (j,want)->(ops[j]?).bind (·.dst)=ajn t->Jq (λj=>decide (j<0+i)) 0 l e0 t=ajn (.f (.raw (.bool b)))->gQ o (yielded ops a.tmps)=(b==want):=by
  intro j t want b hg hj he;rw[<- heL t (mr _ (by rw[hg];simp[hj]))] at he;have h1:=henv t _ he;have J:a.tmps.getD t undef= .bool b:=by
   generalize hz:a.tmps.getD t undef=z at h1;cases h1 with
   |f h=>cases h;rfl
  have h3:a.tmps[t]? =ajn (.bool b):=by
   rw[fI] at J;cases hz:a.tmps[t]? with
   |none=>rw[hz] at J;simp[undef] at J
   |some z=>rw[hz] at J;simp at J;rw[J]
  unfold gQ yielded;rw[hg];simp[hj,h3]
 unfold wpOp;simp only[ho];cases hstep with
 |run hg ht=>
  rw[if_pos (by unfold gQ;rw[hg])];exact .inl (hrun ht)
 |runG j t want hg hj he ht=>
  rw[if_pos (by rw[hyield j t want want hg hj he];simp)];exact .inl (hrun ht)
 |skip j t want hg hj v he hv hf'=>
  have hnw:gQ o (yielded ops a.tmps)=ajq:=by
   rw[<- heL t (mr _ (by rw[hg];simp[hj]))] at he;have h1:=henv t _ he;have J:a.tmps.getD t undef=v:=by
    generalize a.tmps.getD t undef=z at h1;cases h1 with
    |f h=>cases h;rfl
   unfold gQ yielded;rw[hg];simp only[hj,aA];rw[fI] at J;cases hz:a.tmps[t]? with
   |none=>simp
   |some z=>
    rw[hz] at J;simp at J;subst J;cases z<;>simp at hv ⊢;exact hv
  rw[if_neg (by rw[hnw];simp)];subst hf';have hu:dQ (AJ (λj=>listed.getD j ajq) 0 l h0) qu.wr qu.nw=AJ (λj=>listed.getD j ajq) 0 l h0:=by
   funext t;simp[dQ,qu]
  refine main undef φ w ?_ (λ_ _ h=>.inl h) ?_ ?_
  ·rw[hu];exact ie.refl _ _ _
  ·rw[hu];exact hrep
  ·exact .f (.raw _)
theorem Wj {l:List Bool}:∀ {i:Nat},l[i]? =ajn ajq->(l.set i ajp).countP id=l.countP id+1:=by
 induction l with
 |nil=>intro i h;simp at h
 |cons b l I=>
  intro i h;cases i with
  |zero=>simp at h;subst h;simp
  |succ i=>
   simp only[List.set_cons_succ,List.countP_cons];rw[I (by simpa using h)];omega
theorem Nk {l:List Bool} (h:l.length<=l.countP id):∀ (j:Nat),j<l.length->l[j]? =ajn ajp:=by
 have h1:l.countP id=l.length:=Nat.le_antisymm List.countP_le_length h;rw[List.countP_eq_length] at h1;intro j hj;rw[ar hj];simpa using h1 _ (tC hj)
theorem TB {ops:Array Oper} {l:List (Oper×zK)} (J:NIP ops l) {listed:Array Bool} (hs:listed.size=ops.size) (hr:FJ .any ops listed=[]):
 ∀ (n j:Nat),j<n->j<ops.size->listed.getD j ajq=ajp:=by
 intro n;induction n with
 |zero=>intro j h;omega
 |succ n M=>
  intro j hj hjs;cases I:listed.getD j ajq with
  |true=>rfl
  |false=>
   exfalso;have hmem:j∈FJ .any ops listed:=by
    refine mem_ready.2 ⟨?_,ops[j],gu hjs,λe he hb=>?_⟩
    ·have:j<listed.size:=by omega
     simp[this] at I ⊢;exact I
    ·have h1:=J.edge j _ (gu hjs) e he hb;exact M e.on (by omega) (by omega)
   rw[hr] at hmem;cases hmem
theorem LB {P:Program} {ops:Array Oper} {l:List (Oper×zK)} {e0 e':EF} {h0 h':HF} {φ0:PM} {E:Nat->Prop} {w0:World} {a0:Act}
 (hl:l.map (·.1)=ops.toList) (hc:yg P ops l e0 h0 e' h') (J:NIP ops l) (hfr:∀ (j:Nat) o f,l[j]? =ajn (o,f)->∀ n∈f.N,φ0 n=ajo)
 (hsz:∀ (j:Nat) o,ops[j]? =ajn o->∀ d,o.dst=ajn d->d<a0.tmps.size) {Q:Exit->Act->World->Prop}
 (Y:∀ a w,StP φ0 E e0 h0 w0 a0 l (λ_=>ajp) a w->Q .normal a w):
 ∀ (fuel:Nat) (listed:Array Bool) (a:Act) (w:World),listed.size=ops.size->DP ops listed->ops.size<=fuel+listed.toList.countP id->
  StP φ0 E e0 h0 w0 a0 l (λj=>listed.getD j ajq) a w->wpAny P .any ops Q fuel listed a w:=by
 have hlen:l.length=ops.size:=by have:=congrArg af hl;simpa using this
 have fin:∀ (listed:Array Bool) (a:Act) (w:World),(∀ j,j<ops.size->listed.getD j ajq=ajp)->StP φ0 E e0 h0 w0 a0 l (λj=>listed.getD j ajq) a w->Q .normal a w:=by
  intro listed a w hall hst;refine Y a w ?_;have h1:=hc.final 0 (λj=>listed.getD j ajq) (λj hj=>by simp only[bz];exact hall j (by omega));have M:=hc.final 0 (λ_=>ajp) (λ_ _=>rfl);unfold StP at hst ⊢;rw[h1.1,h1.2] at hst;rw[M.1,M.2];obtain⟨φ,m,d,r⟩:=hst;refine ⟨φ,m,λi k h=>?_,r⟩;rcases d i k h with h|⟨j,o,f,_,hj,hn⟩
  ·exact .inl h
  ·exact .inr ⟨j,o,f,rfl,hj,hn⟩
 intro fuel;induction fuel with
 |zero=>
  intro listed a w hs hcl hcnt hst;have hall:∀ j,j<ops.size->listed.getD j ajq=ajp:=λj hj=>by
   have:=Nk (l:=listed.toList) (by simp only[gE];omega) j (by simp only[gE];omega);rw[ch] at this;rw[fI,this];rfl
  refine ⟨?_,fin listed a w hall hst⟩;cases hr:FJ .any ops listed with
  |nil=>rfl
  |cons i r=>
   have hi:i∈FJ .any ops listed:=by rw[hr];simp
   obtain⟨hun,o,I,_⟩:=mem_ready.1 hi;have hnf:=(rh hun).1;rw[hall i (b9.1 I).1] at hnf;cases hnf
 |succ fuel U=>
  intro listed a w hs hcl hcnt hst;refine ⟨λhr=>fin listed a w (λj hj=>TB J hs hr (j+1) j (by omega) hj) hst,λi hi=>?_⟩;obtain⟨hun,o,I,hdeps⟩:=mem_ready.1 hi;obtain⟨hnf,hlt⟩:=rh hun;refine XZ hl hc J hfr hsz hcl hi (λa' w' h=>U _ a' w' ?_ ?_ ?_ h) hst
  ·simpa using hs
  ·intro j oj hoj hj e he hb;by_cases hji:i=j
   ·subst hji;rw[I] at hoj;cases hoj;exact getD_set_true (hdeps e he hb)
   ·rw[getD_set_ne ajq hji] at hj;exact getD_set_true (hcl j oj hoj hj e he hb)
  ·have h1:listed.toList[i]? =ajn ajq:=by
    rw[ch,gu hlt];simp[hlt] at hnf;rw[hnf]
   rw[Array.toList_setIfInBounds,Wj h1];omega
def ajm (φ0:PM) (E:Nat->Prop) (e':EF) (h0 h':HF) (N:List Nat) (w0:World) (a0:Act) (a:Act) (w:World):Prop:=
 ∃ φ,ie φ0 φ h0 h' w0 w/\(∀ i k,φ i=ajn k->φ0 i=ajn k\/i∈N)/\pM φ E h' w/\LH φ (tot E φ h') w e' a/\a.defers=a0.defers/\a.tmps.size=a0.tmps.size
theorem ie.drew {φ:PM} {h:HF} (w:World):ie φ φ h h w {w with drawn:=w.drawn+1}:=
 ⟨λ_ _ h=>h,⟨rfl,rfl,rfl,bF _,λ_ _ _=>rfl,λ_ _=>rfl⟩,λ_ _ h=>h⟩
theorem pM.moved {φ:PM} {E:Nat->Prop} {h:HF} {w w':World} (r:pM φ E h w) (m:ie φ φ h h w w') (hk:∀ k,own φ h k->w'.heap[k]? =w.heap[k]?):pM φ E h w':=
 ⟨r.inj,λi b hb=>by
   obtain⟨k,h1,M,o,J,I⟩:=r.at_ i b hb;exact⟨k,h1,M,o,by rw[hk k ⟨i,b,hb,h1⟩];exact J,I.mono λ_ _ h=>m.keep h⟩,λk hk=>cU (r.el k hk) m.ext.size,
   λg cells hg=>m.keepF (r.gl g cells hg)⟩
theorem N7 {P:Program} {ops:Array Oper} {l:List (Oper×zK)} {e0 e':EF} {h0 h':HF} {φ0:PM} {E:Nat->Prop} {w0:World} {a0:Act} {id:Nat} {draw:Bool}
 (hm:P.follows .mixedOrders=ajp) (hl:l.map (·.1)=ops.toList) (hc:yg P ops l e0 h0 e' h') (J:NIP ops l) (hfr:∀ n∈l.flatMap (λp=>p.2.N),φ0 n=ajo)
 (hsz:∀ (j:Nat) o,ops[j]? =ajn o->∀ d,o.dst=ajn d->d<a0.tmps.size) (hrep:pM φ0 E h0 w0) (henv:LH φ0 (tot E φ0 h0) w0 e0 a0) {Q:Exit->Act->World->Prop}
 (Z:∀ a w,ajm φ0 E e' h0 h' (l.flatMap (λp=>p.2.N)) w0 a0 a w->Q .normal a w):(Code.region id ops draw).wp P Q a0 w0:=by
 have hfr':∀ (j:Nat) o f,l[j]? =ajn (o,f)->∀ n∈f.N,φ0 n=ajo:=λj o f hj n hn=>hfr n (tw.2 ⟨(o,f),aS hj,hn⟩)
 have fin:∀ a w,StP φ0 E e0 h0 w0 a0 l (λ_=>ajp) a w->Q .normal a w:=by
  rintro a w ⟨φ,m,d,r,en,df,sz⟩;have I:=hc.final 0 (λ_=>ajp) (λ_ _=>rfl);rw[I.2] at m r en;rw[I.1] at en;refine Z a w ⟨φ,m,λi k h=>?_,r,en,df,sz⟩;rcases d i k h with h|⟨j,o,f,_,hj,hn⟩
  ·exact .inl h
  ·exact .inr (tw.2 ⟨(o,f),aS hj,hn⟩)
 have st0:∀ (w:World),ie φ0 φ0 h0 h0 w0 w->pM φ0 E h0 w->StP φ0 E e0 h0 w0 a0 l (λj=>(ng ops.size ajq).getD j ajq) a0 w:=by
  intro w m r;have e1:(λj=>(ng ops.size ajq).getD j ajq)=λ_=>ajq:=by
   funext j;rw[fI,Array.getElem?_replicate];split<;>rfl
  rw[e1];have e2:Jq (λ_=>ajq) 0 l e0=e0:=by funext t;rw[AW];intros;rfl
  have e3:AJ (λ_=>ajq) 0 l h0=h0:=by funext t;rw[AU];intros;rfl
  refine ⟨φ0,by rw[e3];exact m,λ_ _ h=>.inl h,by rw[e3];exact r,?_,rfl,rfl⟩;rw[e2,e3];exact λt x Y=>m.keep (henv t x Y)
 have cl0:DP ops (ng ops.size ajq):=by
  intro j o ho hj;rw[fI,Array.getElem?_replicate] at hj;split at hj<;>simp at hj
 cases draw with
 |true=>
  refine wp_region_any hm ?_;exact LB hl hc J hfr' hsz fin ops.size _ a0 _ (by simp) cl0 (by omega) (st0 _ (ie.drew w0) (hrep.moved (ie.drew w0) λ_ _=>rfl))
 |false=>
  have hany:=LB (E:=E) (w0:=w0) hl hc J hfr' hsz fin ops.size _ a0 w0 (by simp) cl0 (by omega) (st0 _ (ie.refl _ _ _) hrep);refine wp_region ?_;have key:∀ (m k:Nat) (listed:Array Bool) (a:Act) (w:World),k+m=ops.size->listed.size=ops.size->(∀ j,j<k->listed.getD j ajq=ajp)->(∀ j,k<=j->j<ops.size->listed.getD j ajp=ajq)->
   wpAny P .any ops Q m listed a w->wpOps P ops Q (List.range' k m) a w:=by
   intro m;induction m with
   |zero=>intro k listed a w hk hs h1 I h;simpa[wpOps] using h.2
   |succ m U=>
    intro k listed a w hk hs h1 I h;rw[List.range'_succ,wpOps_cons];have hkr:k∈FJ .any ops listed:=by
     refine mem_ready.2 ⟨I k (bF _) (by omega),ops[k]'(by omega),gu (by omega),λe he hb=>?_⟩;exact h1 _ (J.edge k _ (gu (by omega)) e he hb)
    refine wpOp_mono (λa' w' h'=>U (k+1) (listed.setIfInBounds k ajp) a' w' (by omega) (by simpa using hs) ?_ ?_ h') (h.2 k hkr)
    ·intro j hj;by_cases hjk:k=j
     ·subst hjk;simp[show k<listed.size by omega]
     ·rw[getD_set_ne ajq hjk];exact h1 j (by omega)
    ·intro j hj M;rw[getD_set_ne ajp (by omega)];exact I j (by omega) M
  have:=key ops.size 0 (ng ops.size ajq) a0 w0 (by omega) (by simp) (by intro j hj;omega) (by
   intro j _ hj;rw[fI,Array.getElem?_replicate,if_pos hj];rfl) hany
  rwa [List.range_eq_range']
inductive PT (α:Type) where
 |leaf
 |node (v:Option α) (l r:PT α)
namespace PT
variable {α:Type}
def get:PT α->Nat->Option α
 |leaf,_=>ajo
 |node v l r,n=>match n with
  |0=>v
  |m+1=>if av (m%2) 0 then get l (m/2) else get r (m/2)
def LY:Nat->PT α->Nat->Option α->PT α
 |0,t,_,_=>t
 |k+1,t,n,x=>match t with
  |leaf=>(match n with
   |0=>node x leaf leaf
   |m+1=>if av (m%2) 0 then node ajo (LY k leaf (m/2) x) leaf else node ajo leaf (LY k leaf (m/2) x))
  |node v l r=>(match n with
   |0=>node x l r
   |m+1=>if av (m%2) 0 then node v (LY k l (m/2) x) r else node v l (LY k r (m/2) x))
def set (t:PT α) (n:Nat) (x:Option α):PT α:=LY (n+1) t n x
theorem xB:∀ (k:Nat) (t:PT α) (n:Nat) (x:Option α),n<k->∀ i,(LY k t n x).get i=if i=n then x else t.get i
 |0,_,_,_,h,_=>absurd h (vC _)
 |k+1,t,n,x,h,i=>by
  cases n with
  |zero=>
   cases t<;>cases i<;>simp[LY,get]
  |succ m=>
   have hm:m/2<k:=by have:=Nat.div_le_self m 2;omega
   cases t with
   |leaf=>
    simp only[LY];cases hb:av (m%2) 0 with
    |true=>
     have J:m%2=0:=ak hb;simp only[if_true];cases i with
     |zero=>simp[get]
     |succ j=>
      simp only[get];cases hj:av (j%2) 0 with
      |true=>
       have I:j%2=0:=ak hj;simp only[if_true];rw[xB k _ _ _ hm];by_cases he:j/2=m/2
       ·rw[if_pos he,if_pos (by omega)]
       ·rw[if_neg he,if_neg (by omega)];rfl
      |false=>
       have I:¬j%2=0:=gp hj;simp only[b8,if_false];rw[if_neg (by omega)]
    |false=>
     have J:¬m%2=0:=gp hb;simp only[b8,if_false];cases i with
     |zero=>simp[get]
     |succ j=>
      simp only[get];cases hj:av (j%2) 0 with
      |true=>
       have I:j%2=0:=ak hj;simp only[if_true];rw[if_neg (by omega)]
      |false=>
       have I:¬j%2=0:=gp hj;simp only[b8,if_false];rw[xB k _ _ _ hm];by_cases he:j/2=m/2
       ·rw[if_pos he,if_pos (by omega)]
       ·rw[if_neg he,if_neg (by omega)];rfl
   |node v l r=>
    simp only[LY];cases hb:av (m%2) 0 with
    |true=>
     have J:m%2=0:=ak hb;simp only[if_true];cases i with
     |zero=>simp[get]
     |succ j=>
      simp only[get];cases hj:av (j%2) 0 with
      |true=>
       have I:j%2=0:=ak hj;simp only[if_true];rw[xB k _ _ _ hm];by_cases he:j/2=m/2
       ·rw[if_pos he,if_pos (by omega)]
       ·rw[if_neg he,if_neg (by omega)]
      |false=>
       have I:¬j%2=0:=gp hj;simp only[b8,if_false];rw[if_neg (by omega)]
    |false=>
     have J:¬m%2=0:=gp hb;simp only[b8,if_false];cases i with
     |zero=>simp[get]
     |succ j=>
      simp only[get];cases hj:av (j%2) 0 with
      |true=>
       have I:j%2=0:=ak hj;simp only[if_true];rw[if_neg (by omega)]
      |false=>
       have I:¬j%2=0:=gp hj;simp only[b8,if_false];rw[xB k _ _ _ hm];by_cases he:j/2=m/2
       ·rw[if_pos he,if_pos (by omega)]
       ·rw[if_neg he,if_neg (by omega)]
theorem get_set (t:PT α) (n:Nat) (x:Option α) (i:Nat):(t.set n x).get i=if i=n then x else t.get i:=xB (n+1) t n x (by omega) i
def mask {β:Type}:PT α->PT β->PT α
 |leaf,_=>leaf
 |node _ _ _,leaf=>leaf
 |node v l r,node u J I=>node (match u with|some _=>v|none=>ajo) (mask l J) (mask r I)
def mk:Option α->PT α->PT α->PT α
 |none,leaf,leaf=>leaf
 |v,l,r=>node v l r
def only (m:Nat):Nat->Nat->PT α->PT α
 |_,_,leaf=>leaf
 |a,b,node v l r=>mk (if aG m b then v else ajo) (only m (2*a) (a+b) l) (only m (2*a) (2*a+b) r)
def exc (m:Nat):Nat->Nat->PT α->PT α
 |_,_,leaf=>leaf
 |a,b,node v l r=>mk (if aG m b then ajo else v) (exc m (2*a) (a+b) l) (exc m (2*a) (2*a+b) r)
def merge (m:Nat):Nat->Nat->PT α->PT α->PT α
 |a,b,leaf,t=>only m a b t
 |a,b,node v l r,leaf=>exc m a b (node v l r)
 |a,b,node v l r,node I M J=>mk (if aG m b then I else v) (merge m (2*a) (a+b) l M) (merge m (2*a) (2*a+b) r J)
def all (p:Nat->α->Bool):Nat->Nat->PT α->Bool
 |_,_,leaf=>ajp
 |a,b,node v l r=>(match v with|some x=>p b x|none=>ajp)&&all p (2*a) (a+b) l&&all p (2*a) (2*a+b) r
theorem get_all (p:Nat->α->Bool):∀ (t:PT α) (a b i:Nat) (x:α),all p a b t=ajp->t.get i=ajn x->p (a*i+b) x=ajp
 |leaf,_,_,_,_,_,h=>by simp[get] at h
 |node v l r,a,b,0,x,h,I=>by
  simp only[get] at I;subst I;simp only[all,aj] at h;rw[Nat.mul_zero,bz];exact h.1.1
 |node v l r,a,b,j+1,x,h,I=>by
  simp only[all,aj] at h;simp only[get] at I;cases hj:av (j%2) 0 with
  |true=>
   have J:j%2=0:=ak hj;simp only[hj,if_true] at I;have key:=get_all p l _ _ _ x h.1.2 I;have:2*a*(j/2)+(a+b)=a*(j+1)+b:=by
    have e:j=2*(j/2):=by omega
    calc 2*a*(j/2)+(a+b)=a*(2*(j/2))+a+b:=by rw[FL 2 a,Nat.mul_assoc];omega
     _=a*(j+1)+b:=by rw[<- e,Nat.mul_add];omega
   rw[this] at key;exact key
  |false=>
   have J:¬j%2=0:=gp hj;simp only[hj,b8,if_false] at I;have key:=get_all p r _ _ _ x h.2 I;have:2*a*(j/2)+(2*a+b)=a*(j+1)+b:=by
    have e:j=2*(j/2)+1:=by omega
    have U:a*(j+1)=a*(2*(j/2))+2*a:=by
     calc a*(j+1)=a*(2*(j/2)+2):=by rw[show j+1=2*(j/2)+2 from by omega]
      _=a*(2*(j/2))+2*a:=by rw[Nat.mul_add];omega
    have M:2*a*(j/2)=a*(2*(j/2)):=by rw[FL 2 a,Nat.mul_assoc]
    omega
   rw[this] at key;exact key
def dom:Nat->Nat->PT α->Nat->Nat
 |_,_,leaf,acc=>acc
 |a,b,node v l r,acc=>dom (2*a) (a+b) l (dom (2*a) (2*a+b) r (match v with|some _=>acc|||(1<<<b)|none=>acc))
def emp:PT α:=leaf
end PT
abbrev yf:=PT AV
abbrev mP:=PT vy
abbrev NW:=List (Nat×vy)
def yf.put (e:yf):Option Nat->AV->yf
 |none,_=>e
 |some d,x=>e.set d (ajn x)
def il:NW->HF
 |[],_=>ajo
 |(s,x)::r,t=>if av s t then ajn x else il r t
theorem XR (e:yf) (d:Option Nat) (x:AV):Bg e.get d x=(e.put d x).get:=by
 funext t;cases d with
 |none=>simp[Bg,yf.put]
 |some d=>
  simp only[Bg,yf.put,PT.get_set,aa];by_cases h:d=t
  ·simp[h]
  ·rw[if_neg h,if_neg (λe=>h e.symm)]
def F8 (acc:List Nat) (s:Nat) (e:Edge):Nat:=if yh .any e then (s|||2^e.on)|||acc.getD e.on 0 else s
def IW:List Oper->List Nat->List Nat
 |[],acc=>acc
 |o::r,acc=>IW r (acc++[o.after.toList.foldl (F8 acc) 0])
theorem IX {ops:Array Oper} {o:Oper} {k:Nat} {acc:List Nat} (J:ops[k]? =ajn o) (M:∀ (j:Nat) B,acc[j]? =ajn B->∀ i,B.testBit i=ajp->ZJ ops j i):
 ∀ (es:List Edge) (s:Nat),(∀ e∈es,e∈o.after)->(∀ i,s.testBit i=ajp->ZJ ops k i)->∀ i,(es.foldl (F8 acc) s).testBit i=ajp->ZJ ops k i
 |[],s,_,hs,i,hi=>hs i hi
 |e::r,s,he,hs,i,hi=>by
  refine IX J M r (F8 acc s e) (λe' h'=>he e' (cA _ h')) (λi hi=>?_) i hi;unfold F8 at hi;split at hi
  ·rename_i hb;rw[bf,bf,hP,hP] at hi;rcases hi with (hi|hi)|hi
   ·exact hs i hi
   ·rw[Nat.testBit_two_pow] at hi;have:e.on=i:=by simpa using hi
    subst this;exact .one J (he e (dg ..)) hb
   ·refine .more J (he e (dg ..)) hb ?_;rw[au] at hi;cases I:acc[e.on]? with
    |none=>rw[I] at hi;simp at hi
    |some C=>rw[I] at hi;exact M _ C I i hi
  ·exact hs i hi
theorem LA {ops:Array Oper}:∀ (rest:List Oper) (acc:List Nat),(∀ (j:Nat),∀ o,rest[j]? =ajn o->ops[acc.length+j]? =ajn o)->
 (∀ (j:Nat) B,acc[j]? =ajn B->∀ i,B.testBit i=ajp->ZJ ops j i)->∀ (j:Nat) B,(IW rest acc)[j]? =ajn B->∀ i,B.testBit i=ajp->ZJ ops j i
 |[],acc,_,I=>I
 |o::r,acc,J,I=>by
  refine LA r _ (λj M hj=>?_) ?_
  ·rw[bg,fw,show acc.length+1+j=acc.length+(j+1) from by omega];exact J (j+1) M (by simpa using hj)
  ·intro j B hj i hi;rcases bI j acc.length with h|h
   ·rw[bA h] at hj;exact I j B hj i hi
   ·rw[bJ h] at hj;have U:j-acc.length=0:=by
     rcases Jm (j-acc.length) with h0|h0
     ·exact h0
     ·rw[bB (by simp;omega)] at hj;cases hj
    have hjl:j=acc.length:=by omega
    subst hjl;simp at hj;subst hj;have hoo:ops[acc.length]? =ajn o:=by simpa using J 0 o rfl
    rw[<- Array.foldl_toList] at hi;exact IX hoo I _ 0 (λe he=>by simpa using he) (λi hi=>by simp at hi) i hi
inductive WR where
 |mv (x:Operand)
 |pick (c a b:Operand)
 |alloc (ty:TypeId) (z:List Value)
 |box (ty:TypeId) (x:Operand)
 |build (z:List Value) (parts:List (Nat×Nat×Operand))
 |bsl (ty:TypeId) (sz len:Nat) (z:List Value) (parts:List (Nat×Nat×Operand))
 |load (sz:Nat) (ag:Bool) (x:Operand)
 |store (sz:Nat) (x v:Operand)
 |nilc (x:Operand)
 |bin (op:BinOp) (x y:Operand)
 |eqs (neg:Bool) (ds:List TypeDesc) (x y:Operand)
 |isnil (neg:Bool) (x:Operand)
 |eqb (neg:Bool) (x y:Operand)
 |not (x:Operand)
 |conv (k:IntKind) (x:Operand)
 |mksl (ty:TypeId) (sz bytes:Nat) (z:List Value) (l c:Operand)
 |slc (sz:Nat) (x:Operand) (lo hi mx:Option Operand)
 |fad (off:Nat) (x:Operand)
 |fld (off sz:Nat) (ag:Bool) (x:Operand)
 |iad (sz:Nat) (x i:Operand)
 |iada (n sz:Nat) (x i:Operand)
 |idx (n sz:Nat) (ag:Bool) (x i:Operand)
 |ext (x:Operand) (i:Nat)
 |len (x:Operand)
 |lens (x:Operand)
 |lenm (x:Operand)
 |max (x y:Operand)
 |min (x y:Operand)
 |sidx (x i:Operand)
 |app (ty:TypeId) (sz bytes:Nat) (s x:Operand)
 |copy (sz:Nat) (d x:Operand)
 |clr (sz:Nat) (z:List Value) (x:Operand)
 |mkf (f:FuncId) (caps:List Operand)
 |mkm
 |lku (str:Bool) (z:Value) (x k:Operand)
 |mup (str:Bool) (x k v:Operand)
 |rng (x:Operand)
 |nxt (x:Operand)
 |bad
inductive SI where
 |op (s:WR)
 |call (f:FuncId) (args:List Operand)
 |callv (x:Operand) (args:List Operand)
def Vu (t:Nat):List Nat->Bool
 |[]=>ajq
 |x::r=>av x t||Vu t r
def IQ:List Value->Bool
 |[]=>ajp
 |v::r=>v.oneCell'&&IQ r
def DB:Value->AV
 |.agg vs=>if IQ vs.toList then .agg (vs.toList.map λv=>.f (.raw v)) else .f (.raw (.agg vs))
 |v=>.f (.raw v)
def lB (e:yf):Operand->Option AV
 |.tmp t=>e.get t
 |.const v=>ajn (DB v)
 |.func g=>ajn (.clo g [])
 |.global g=>match G g with|some cells=>ajn (.f (.ptr cells 0))|none=>ajo
def UK (e:yf):List Operand->Option (List AV)
 |[]=>ajn []
 |x::xs=>match lB e x with|some y=>(match UK e xs with|some I=>ajn (y::I)|none=>ajo)|none=>ajo
structure AD where
 val:AV
 rd:List Nat
 wr:List Nat
 nw:NW
 N:List Nat
def AD.eff (r:AD):zK:=⟨r.val,r.rd,r.wr,il r.nw,r.N⟩
def rv (x:AV):Option AD:=ajn ⟨x,[],[],[],[]⟩
def raw (v:Value):AV:=.f (.raw v)
def wy:List AV->Option (List FV)
 |[]=>ajn []
 |.f x::r=>match wy r with|some l=>ajn (x::l)|none=>ajo
 |_::_=>ajo
def oo (l:List AV):BC:=match wy l with|some fs=>.fz fs|none=>.mx l
def KU (l:List AV):AV:=match wy l with|some fs=>.f (.agg fs)|none=>.agg l
def splice {α:Type} (l:List α) (off:Nat) (vs:List α):List α:=l.take off++vs++l.drop (off+vs.length)
def BC.toMx:BC->List AV
 |.fz l=>l.map .f
 |.mx l=>l
 |_=>[]
def fJ:List AV->Bool
 |[]=>ajp
 |x::r=>x.isCell&&fJ r
def BC.put (c:BC) (off:Nat) (vs:List AV):Option BC:=
 if c.isCells&&dJ (off+vs.length) c.len&&fJ vs then
  match c,wy vs with
  |.fz l,ajn I=>ajn (.fz (splice l off I))
  |c,_=>ajn (.mx (splice c.toMx off vs))
 else ajo
def BC.sub? (c:BC) (off sz:Nat):Bool->Option AV
 |false=>match sz with|1=>c.get off|_=>ajo
 |true=>match c with
  |.fz l=>if dJ (off+sz) l.length then ajn (.f (.agg ((l.drop off).take sz))) else ajo
  |.mx l=>if dJ (off+sz) l.length then ajn (.agg ((l.drop off).take sz)) else ajo
  |_=>ajo
def AV.cs:AV->List AV
 |.agg l=>l
 |.f (.agg l)=>l.map .f
 |x=>[x]
def Cv (h:mP) (sz:Nat) (ag:Bool):AV->Option AD
 |.ptr id off=>match h.get id with
  |some b=>(match b.c.sub? off sz ag with|some v=>ajn ⟨v,[id],[],[],[]⟩|none=>ajo)
  |none=>ajo
 |.f (.ptr cells off)=>(match (BC.fz cells).sub? off sz ag with|some v=>rv v|none=>ajo)
 |_=>ajo
def Ng (h:mP) (sz:Nat) (v:AV):AV->Option AD
 |.ptr id off=>match h.get id with
  |some b=>if v.cs.length==sz then (match b.c.put off v.cs with|some c=>ajn ⟨raw undef,[id],[id],[(id,⟨b.ty,c⟩)],[]⟩|none=>ajo) else ajo
  |none=>ajo
 |_=>ajo
def xH (cells:List AV) (e:yf):List (Nat×Nat×Operand)->Option (List AV)
 |[]=>ajn cells
 |(off,sz,x)::r=>match lB e x with
  |some v=>if v.cs.length==sz&&dJ (off+sz) cells.length&&fJ v.cs then xH (splice cells off v.cs) e r else ajo
  |none=>ajo
def cD (a b:Int):Bool:=decide (a<=b)
def eX (a b:Int):Bool:=decide (a<b)
def Kx (k:IntKind) (n:Int):Int:=
 match k with
 |.i64=>if cD (-9223372036854775808) n&&cD n 9223372036854775807 then n else nK .i64 n
 |.u8=>if cD 0 n&&cD n 255 then n else nK .u8 n
 |k=>nK k n
def nok:Int->Bool
 |.ofNat k=>av k k
 |.negSucc k=>av k k
theorem ah4 (n:Int):nok n=ajp:=by cases n<;>exact tu _
def be (k:IntKind) (n:Int):Int:=bif nok n then Kx k n else 0
theorem FM (k:IntKind) (n:Int):be k n=Kx k n:=by unfold be;rw[ah4];rfl
def qD (a b:ByteArray):Bool:=a.data.toList==b.data.toList
def td (op:BinOp):Value->Value->Option Value
 |.int k a,.int I b=>if k==I then
   match op with
   |.add=>ajn (.int k (be k (a+b)))
   |.sub=>ajn (.int k (be k (a-b)))
   |.mul=>ajn (.int k (be k (a*b)))
   |.rem=>if b==0 then ajo else ajn (.int k (a.tmod b))
   |.quo=>if b==0 then ajo else ajn (.int k (be k (a.tdiv b)))
   |.eql=>ajn (.bool (a==b))
   |.neq=>ajn (.bool (a !=b))
   |.lss=>ajn (.bool (eX a b))
   |.leq=>ajn (.bool (cD a b))
   |.gtr=>ajn (.bool (eX b a))
   |.geq=>ajn (.bool (cD b a))
   |_=>ajo
  else ajo
 |.string a,.string b=>match op with
   |.eql=>ajn (.bool (qD a b))
   |.neq=>ajn (.bool !(qD a b))
   |_=>ajo
 |_,_=>ajo
def v9:TypeDesc->FV->FV->Option Bool
 |.int _,.raw (.int k a),.raw (.int I b)=>if k==I then ajn (a==b) else ajo
 |.bool,.raw (.bool a),.raw (.bool b)=>ajn (a==b)
 |.string,.raw (.string a),.raw (.string b)=>ajn (qD a b)
 |_,_,_=>ajo
def nR:List TypeDesc->List FV->List FV->Option Bool
 |[],[],[]=>ajn ajp
 |d::ds,x::xs,y::I=>match v9 d x y with
  |some ajp=>nR ds xs I
  |some ajq=>ajn ajq
  |none=>ajo
 |_,_,_=>ajo
def AV.row? (h:mP) (sz:Nat):AV->Option (List AV×Nat×List Nat)
 |.f (.sl cells n)=>if dJ (n*sz) cells.length then ajn ((cells.take (n*sz)).map .f,n,[]) else ajo
 |.f (.raw (.slice ajo 0 0))=>ajn ([],0,[])
 |.emp=>ajn ([],0,[])
 |.row id sz' n=>if sz'==sz then (match h.get id with|some b=>if b.c.isCells&&dJ (n*sz) b.c.len then ajn (b.c.toMx.take (n*sz),n,[id]) else ajo|none=>ajo) else ajo
 |.sl id off n=>match h.get id with|some b=>if b.c.isCells&&dJ (off+n*sz) b.c.len then ajn ((b.c.toMx.drop off).take (n*sz),n,[id]) else ajo|none=>ajo
 |_=>ajo
def AV.slen:AV->Option Nat
 |.f (.sl _ n)=>ajn n
 |.f (.raw (.slice _ n _))=>ajn n
 |.emp=>ajn 0
 |.row _ _ n=>ajn n
 |.sl _ _ n=>ajn n
 |_=>ajo
def aT (n bytes:Nat):Bool:=dJ n 1099511627776&&dJ (n*bytes) 1099511627776
def repl (z:List Value):Nat->List FV
 |0=>[]
 |n+1=>z.map .raw++repl z n
def yz:Value->Bool
 |.slice ajo 0 0=>ajp
 |_=>ajq
def Hb:AV->Bool
 |.emp=>ajp
 |.f (.raw v)=>yz v
 |_=>ajq
def rK (k:Value):List (Value×AV)->Option (Option AV)
 |[]=>ajn ajo
 |(I,v)::r=>match td .eql k I with
  |some (.bool ajp)=>ajn (ajn v)
  |some (.bool ajq)=>rK k r
  |_=>ajo
def xt (k:Value) (v:AV):List (Value×AV)->Option (List (Value×AV))
 |[]=>ajn [(k,v)]
 |(I,J)::r=>match td .eql k I with
  |some (.bool ajp)=>ajn ((k,v)::r)
  |some (.bool ajq)=>(match xt k v r with|some M=>ajn ((I,J)::M)|none=>ajo)
  |_=>ajo
def xv:Bool->Value->Bool
 |false,.int _ _=>ajp
 |true,.string _=>ajp
 |_,_=>ajq
def dO (s:WR) (e:yf) (h:mP) (nx:Nat):Option AD:=
 match s with
 |.mv x=>match lB e x with|some v=>rv v|none=>ajo
 |.pick c a b=>match lB e c with
  |some (.f (.raw (.bool t)))=>(match lB e (if t then a else b) with|some v=>rv v|none=>ajo)
  |_=>ajo
 |.alloc ty z=>ajn ⟨.ptr nx 0,[],[nx],[(nx,⟨ty,.fz (z.map .raw)⟩)],[nx]⟩
 |.box ty x=>match lB e x with
  |some v=>if fJ v.cs then ajn ⟨.ptr nx 0,[],[nx],[(nx,⟨ty,oo v.cs⟩)],[nx]⟩ else ajo
  |none=>ajo
 |.build z parts=>match xH (z.map raw) e parts with|some cs=>rv (KU cs)|none=>ajo
 |.bsl ty sz len z parts=>match xH ((repl z len).map .f) e parts with
  |some cs=>ajn ⟨if len=0 then .emp else .row nx sz len,[],[nx],[(nx,⟨ty,oo cs⟩)],[nx]⟩
  |none=>ajo
 |.load sz ag x=>match lB e x with|some p=>Cv h sz ag p|none=>ajo
 |.store sz x v=>match lB e x,lB e v with|some p,ajn y=>Ng h sz y p|_,_=>ajo
 |.nilc x=>match lB e x with
  |some (.ptr id off)=>rv (.ptr id off)
  |some (.f (.ptr cells off))=>rv (.f (.ptr cells off))
  |some (.clo g cap)=>rv (.clo g cap)
  |_=>ajo
 |.bin op x y=>match lB e x,lB e y with
  |some (.f (.raw u)),ajn (.f (.raw v))=>(match td op u v with|some r=>rv (raw r)|none=>ajo)
  |_,_=>ajo
 |.eqs neg ds x y=>match lB e x,lB e y with
  |some (.f (.agg a)),ajn (.f (.agg b))=>(match nR ds a b with|some r=>rv (raw (.bool (r !=neg)))|none=>ajo)
  |_,_=>ajo
 |.eqb neg x y=>match lB e x,lB e y with
  |some (.f (.raw (.bool a))),ajn (.f (.raw (.bool b)))=>rv (raw (.bool ((a==b) !=neg)))
  |_,_=>ajo
 |.isnil neg x=>match lB e x with
  |some (.row _ _ _)=>rv (raw (.bool neg))
  |some (.sl _ _ _)=>rv (raw (.bool neg))
  |some (.f (.sl _ (_+1)))=>rv (raw (.bool neg))
  |some (.f (.sl _ 0))=>rv .anyb
  |some .emp=>rv .anyb
  |some (.f (.raw v))=>if yz v then rv (raw (.bool !neg)) else ajo
  |_=>ajo
 |.not x=>match lB e x with|some (.f (.raw (.bool b)))=>rv (raw (.bool !b))|_=>ajo
 |.conv k x=>match lB e x with|some (.f (.raw (.int _ n)))=>rv (raw (.int k (be k n)))|_=>ajo
 |.mksl ty sz bytes z l c=>match lB e l,lB e c with
  |some (.f (.raw (.int _ a))),ajn (.f (.raw (.int _ b)))=>
   if cD 0 a&&cD a b&&aT b.toNat bytes then ajn ⟨.row nx sz a.toNat,[],[nx],[(nx,⟨ty,.fz (repl z a.toNat)⟩)],[nx]⟩ else ajo
  |_,_=>ajo
 |.slc sz x lo hi mx=>match lB e x with
  |some v=>match lo,hi,mx with
   |none,ajn (.const (.int _ 0)),ajn (.const (.int _ 0))=>if v.slen.isSome then rv .emp else ajo
   |none,ajn b,ajo=>match v,lB e b with
    |.row id sz' n,ajn (.f (.raw (.int _ j)))=>if sz'==sz&&cD 0 j&&cD j n then (match h.get id with
     |some blk=>if blk.c.isCells&&dJ (n*sz) blk.c.len then ajn ⟨.row nx sz j.toNat,[id],[nx,id],[(nx,⟨blk.ty,oo (blk.c.toMx.take (j.toNat*sz))⟩)],[nx]⟩ else ajo
     |none=>ajo) else ajo
    |.f (.sl cells n),ajn (.f (.raw (.int _ j)))=>if cD 0 j&&cD j n&&dJ (n*sz) cells.length then rv (.f (.sl (cells.take (j.toNat*sz)) j.toNat)) else ajo
    |_,_=>ajo
   |some b,ajo,ajo=>match v,lB e b with
    |.row id sz' n,ajn (.f (.raw (.int _ j)))=>if sz'==sz&&cD 0 j&&eX j n then rv (.sl id (j.toNat*sz) (n-j.toNat)) else ajo
    |.f (.sl cells n),ajn (.f (.raw (.int _ j)))=>if cD 0 j&&cD j n&&dJ (n*sz) cells.length then rv (.f (.sl ((cells.drop (j.toNat*sz)).take ((n-j.toNat)*sz)) (n-j.toNat))) else ajo
    |_,_=>ajo
   |_,_,_=>ajo
  |none=>ajo
 |.fad off x=>match lB e x with
  |some (.ptr id o)=>rv (.ptr id (o+off))
  |some (.f (.ptr cells o))=>rv (.f (.ptr cells (o+off)))
  |_=>ajo
 |.fld off sz ag x=>match lB e x with
  |some (.agg l)=>(match (BC.mx l).sub? off sz ag with|some v=>rv v|none=>ajo)
  |some (.f (.agg l))=>(match (BC.fz l).sub? off sz ag with|some v=>rv v|none=>ajo)
  |_=>ajo
 |.iad sz x i=>match lB e x,lB e i with
  |some v,ajn (.f (.raw (.int _ j)))=>match v with
   |.row id sz' n=>if sz'==sz&&cD 0 j&&eX j n then rv (.ptr id (j.toNat*sz)) else ajo
   |.sl id off n=>if cD 0 j&&eX j n then rv (.ptr id (off+j.toNat*sz)) else ajo
   |.f (.sl cells n)=>if cD 0 j&&eX j n then rv (.f (.ptr cells (j.toNat*sz))) else ajo
   |_=>ajo
  |_,_=>ajo
 |.iada n sz x i=>match lB e x,lB e i with
  |some v,ajn (.f (.raw (.int _ j)))=>if cD 0 j&&eX j n then (match v with
   |.ptr id off=>rv (.ptr id (off+j.toNat*sz))
   |.f (.ptr cells off)=>rv (.f (.ptr cells (off+j.toNat*sz)))
   |_=>ajo) else ajo
  |_,_=>ajo
 |.idx n sz ag x i=>match lB e x,lB e i with
  |some v,ajn (.f (.raw (.int _ j)))=>if cD 0 j&&eX j n then (match v with
   |.agg l=>(match (BC.mx l).sub? (j.toNat*sz) sz ag with|some v=>rv v|none=>ajo)
   |.f (.agg l)=>(match (BC.fz l).sub? (j.toNat*sz) sz ag with|some v=>rv v|none=>ajo)
   |_=>ajo) else ajo
  |_,_=>ajo
 |.ext x i=>match lB e x with|some (.tup l)=>(match l[i]? with|some v=>rv v|none=>ajo)|_=>ajo
 |.len x=>match lB e x with
  |some v=>(match v.slen with|some n=>rv (raw (.int .i64 n))|none=>ajo)
  |none=>ajo
 |.lens x=>match lB e x with
  |some (.f (.raw (.string s)))=>rv (raw (.int .i64 s.data.toList.length))
  |_=>ajo
 |.lenm x=>match lB e x with
  |some (.mp id)=>(match h.get id with|some ⟨_,.mp es⟩=>ajn ⟨raw (.int .i64 es.length),[id],[],[],[]⟩|_=>ajo)
  |_=>ajo
 |.max x y=>match lB e x,lB e y with
  |some (.f (.raw (.int k a))),ajn (.f (.raw (.int _ b)))=>rv (raw (.int k (if eX a b then b else a)))
  |_,_=>ajo
 |.min x y=>match lB e x,lB e y with
  |some (.f (.raw (.int k a))),ajn (.f (.raw (.int _ b)))=>rv (raw (.int k (if eX b a then b else a)))
  |_,_=>ajo
 |.sidx x i=>match lB e x,lB e i with
  |some (.f (.raw (.string s))),ajn (.f (.raw (.int _ j)))=>if cD 0 j then (match s.data.toList[j.toNat]? with|some b=>rv (raw (.int .u8 b.toNat))|none=>ajo) else ajo
  |_,_=>ajo
 |.app ty sz bytes s x=>match lB e s,lB e x with
  |some b,ajn y=>match y.row? h sz with
   |some (src,m,rd)=>match b with
    |.row id sz' n=>match h.get id with
     |some blk=>if sz'==sz&& !(Vu id rd)&&blk.c.isCells&&dJ (n*sz) blk.c.len&&blk.ty==ty&&aT (n+m) bytes then
       ajn ⟨.row nx sz (n+m),id::rd,[nx,id],[(nx,⟨ty,oo (blk.c.toMx.take (n*sz)++src)⟩)],[nx]⟩ else ajo
     |none=>ajo
    |b=>if Hb b&&aT m bytes then
      (if m==0 then ajn ⟨b,rd,[],[],[]⟩ else ajn ⟨.row nx sz m,rd,[nx],[(nx,⟨ty,oo src⟩)],[nx]⟩) else ajo
   |none=>ajo
  |_,_=>ajo
 |.copy sz d x=>match lB e d,lB e x with
  |some (.row id sz' n),ajn y=>(match h.get id,y.row? h sz with
   |some blk,ajn (src,m,rd)=>if sz'==sz&& !(Vu id rd)&&dJ (n*sz) blk.c.len then
     (match blk.c.put 0 (src.take (gY m n*sz)) with
     |some c=>ajn ⟨raw (.int .i64 (gY m n)),id::rd,[id],[(id,⟨blk.ty,c⟩)],[]⟩
     |none=>ajo) else ajo
   |_,_=>ajo)
  |_,_=>ajo
 |.clr _ z x=>match lB e x with
  |some (.sl id off n)=>(match h.get id with
   |some blk=>if fd 0 n then (match blk.c.put off ((repl z n).map .f) with
    |some c=>ajn ⟨.tup [],[id],[id],[(id,⟨blk.ty,c⟩)],[]⟩
    |none=>ajo) else ajo
   |none=>ajo)
  |_=>ajo
 |.mkf f caps=>match UK e caps with|some l=>rv (.clo f l)|none=>ajo
 |.mkm=>ajn ⟨.mp nx,[],[nx],[(nx,⟨0,.mp []⟩)],[nx]⟩
 |.lku str z x k=>match lB e x,lB e k with
  |some (.mp id),ajn (.f (.raw key))=>(match h.get id with
   |some ⟨_,.mp es⟩=>if xv str key then (match rK key es with|some (ajn v)=>ajn ⟨v,[id],[],[],[]⟩|some ajo=>ajn ⟨raw z,[id],[],[],[]⟩|none=>ajo) else ajo
   |_=>ajo)
  |_,_=>ajo
 |.mup str x k v=>match lB e x,lB e k,lB e v with
  |some (.mp id),ajn (.f (.raw key)),ajn y=>(match h.get id with
   |some ⟨ty,.mp es⟩=>if xv str key then (match xt key y es with|some es'=>ajn ⟨raw undef,[id],[id],[(id,⟨ty,.mp es'⟩)],[]⟩|none=>ajo) else ajo
   |_=>ajo)
  |_,_,_=>ajo
 |.rng x=>match lB e x with
  |some (.f (.raw (.string s)))=>ajn ⟨.ptr nx 0,[],[nx],[(nx,⟨0,.it s 0⟩)],[nx]⟩
  |_=>ajo
 |.nxt x=>match lB e x with
  |some (.ptr id 0)=>(match h.get id with
   |some ⟨ty,.it s p⟩=>(match s.data.toList[p]? with
    |some b=>if fd b.toNat 128 then ajn ⟨.tup [raw (.bool ajp),raw (.int .i64 p),raw (.int .i32 b.toNat)],[id],[id],[(id,⟨ty,.it s (p+1)⟩)],[]⟩ else ajo
    |none=>ajn ⟨.tup [raw (.bool ajq)],[id],[id],[(id,⟨ty,.it s p⟩)],[]⟩)
   |_=>ajo)
  |_=>ajo
 |.bad=>ajo
structure qU where
 dst:Option Nat
 op:SI
 guard:Option (Nat×Bool)
inductive SC where
 |skip
 |reg (ops:List qU) (prs:List (Nat×Nat))
 |seq (a b:SC)
 |cond (c:Nat) (a b:SC)
 |block (id:Nat) (b:SC)
 |loop (b:SC)
 |exit (id:Nat)
 |ret
 |defer (f:FuncId) (caps:List Operand) (t:Nat)
 |bad
structure ajl where
 val:AV
 h:mP
 nx:Nat
 wr:Nat
abbrev Ve:=FuncId->List AV->mP->Nat->Option ajl
mutual
def AV.ids:AV->Nat->Nat
 |.ptr id _,acc=>acc|||(1<<<id)
 |.sl id _ _,acc=>acc|||(1<<<id)
 |.row id _ _,acc=>acc|||(1<<<id)
 |.mp id,acc=>acc|||(1<<<id)
 |.agg l,acc=>AV.idsL l acc
 |.tup l,acc=>AV.idsL l acc
 |.clo _ l,acc=>AV.idsL l acc
 |.f _,acc=>acc
 |.emp,acc=>acc
 |.anyb,acc=>acc
def AV.idsL:List AV->Nat->Nat
 |[],acc=>acc
 |x::r,acc=>AV.idsL r (AV.ids x acc)
end
mutual
def AV.all (p:Nat->Bool):AV->Bool
 |.ptr id _=>p id
 |.sl id _ _=>p id
 |.row id _ _=>p id
 |.mp id=>p id
 |.agg l=>AV.allL p l
 |.tup l=>AV.allL p l
 |.clo _ l=>AV.allL p l
 |.f _=>ajp
 |.emp=>ajp
 |.anyb=>ajp
def AV.allL (p:Nat->Bool):List AV->Bool
 |[]=>ajp
 |x::r=>AV.all p x&&AV.allL p r
end
def BC.ids:BC->Nat->Nat
 |.mx l,acc=>AV.idsL l acc
 |.mp es,acc=>AV.idsL (es.map (·.2)) acc
 |_,acc=>acc
def BC.all (p:Nat->Bool):BC->Bool
 |.mx l=>AV.allL p l
 |.mp es=>AV.allL p (es.map (·.2))
 |_=>ajp
def mP.all (p:Nat->Bool) (h:mP):Bool:=PT.all (λi b=>p i&&b.c.all p) 1 0 h
def Ug:Nat->mP->Nat->Nat->Nat
 |0,_,_,Jz=>Jz
 |n+1,h,todo,Jz=>
  if av todo 0 then Jz else
  match Nat.log2 todo with
  |id=>if aG Jz id then Ug n h (todo ^^^ (1<<<id)) Jz else
   match h.get id with
   |some b=>Ug n h (b.c.ids (todo ^^^ (1<<<id))) (Jz|||(1<<<id))
   |none=>Ug n h (todo ^^^ (1<<<id)) Jz
section force
variable {α:Type}
def rj (n:Nat) (k:Nat->α):α:=match n with|0=>k 0|m+1=>k (m+1)
def frcI (n:Int) (k:Int->α):α:=match n with|.ofNat m=>rj m λm=>k (.ofNat m)|.negSucc m=>rj m λm=>k (.negSucc m)
def frcB (b:Bool) (k:Bool->α):α:=match b with|true=>k ajp|false=>k ajq
def frcV (v:Value) (k:Value->α):α:=match v with
 |.int kd n=>frcI n λn=>k (.int kd n)
 |.bool b=>frcB b λb=>k (.bool b)
 |v=>k v
def ahb (x:FV) (k:FV->α):α:=match x with
 |.raw v=>frcV v λv=>k (.raw v)
 |.ptr cells off=>rj off λoff=>k (.ptr cells off)
 |.sl cells n=>rj n λn=>k (.sl cells n)
 |.agg l=>k (.agg l)
def YD:List FV->(List FV->α)->α
 |[],k=>k []
 |x::r,k=>ahb x λx=>YD r λr=>k (x::r)
def aha (x:FV) (k:FV->α):α:=match x with
 |.agg l=>YD l λl=>k (.agg l)
 |x=>ahb x k
def acw (x:AV) (k:AV->α):α:=match x with
 |.f x=>aha x λx=>k (.f x)
 |.ptr id off=>rj id λid=>rj off λoff=>k (.ptr id off)
 |.sl id off n=>rj id λid=>rj off λoff=>rj n λn=>k (.sl id off n)
 |.row id sz n=>rj id λid=>rj sz λsz=>rj n λn=>k (.row id sz n)
 |.mp id=>rj id λid=>k (.mp id)
 |x=>k x
def O8:List AV->(List AV->α)->α
 |[],k=>k []
 |x::r,k=>acw x λx=>O8 r λr=>k (x::r)
def ahc (x:AV) (k:AV->α):α:=match x with
 |.agg l=>O8 l λl=>k (.agg l)
 |.tup l=>O8 l λl=>k (.tup l)
 |.clo f l=>O8 l λl=>k (.clo f l)
 |x=>acw x k
def frcC (c:BC) (k:BC->α):α:=match c with
 |.fz l=>YD l λl=>k (.fz l)
 |.mx l=>O8 l λl=>k (.mx l)
 |.it s p=>rj p λp=>k (.it s p)
 |.mp es=>k (.mp es)
def O7 {β:Type}:PT β->(PT β->α)->α
 |.leaf,k=>k .leaf
 |.node v l r,k=>(match v with
  |none=>λ(k:Option β->α)=>k ajo
  |some x=>λk=>k (ajn x)) λv=>O7 l λl=>O7 r λr=>k (.node v l r)
def Rp {β:Type}:Nat->PT β->Nat->Option β->(PT β->α)->α
 |0,t,_,_,k=>k t
 |f+1,t,n,x,k=>match t with
  |.leaf=>(match n with
   |0=>k (.node x .leaf .leaf)
   |m+1=>if av (m%2) 0 then rj (m/2) λq=>Rp f .leaf q x λu=>k (.node ajo u .leaf) else rj (m/2) λq=>Rp f .leaf q x λu=>k (.node ajo .leaf u))
  |.node v l r=>(match n with
   |0=>k (.node x l r)
   |m+1=>if av (m%2) 0 then rj (m/2) λq=>Rp f l q x λu=>k (.node v u r) else rj (m/2) λq=>Rp f r q x λu=>k (.node v l u))
theorem MG {β:Type}:∀ (x:PT β) (k:PT β->α),O7 x k=k x
 |.leaf,_=>rfl
 |.node v l r,k=>by cases v<;>simp only[O7,MG l,MG r]
end force
structure IS where
 e:yf
 h:mP
 nx:Nat
 wr:Nat
structure adc where
 val:AV
 rd:Nat
 wr:Nat
 h:mP
 nx:Nat
def bits:List Nat->Nat->Nat
 |[],acc=>acc
 |x::r,acc=>bits r (acc|||(1<<<x))
def adq {α:Type} (h:mP) (nw:NW):List Nat->(mP->α)->α
 |[],k=>k h
 |i::r,k=>match il nw i with
  |none=>Rp (i+1) h i ajo λh=>adq h nw r k
  |some ⟨ty,c⟩=>frcC c λc=>Rp (i+1) h i (ajn ⟨ty,c⟩) λh=>adq h nw r k
def ad0 (call:Ve) (f:FuncId) (args:List AV) (h:mP) (nx:Nat):Option adc:=
 rj (Ug 1000000 h (AV.idsL args 0) 0) λids=>O7 (PT.only ids 1 0 h) λhc=>
 if AV.allL (fd · nx) args&&mP.all (fd · nx) hc then
  match call f args hc nx with
  |some ⟨val,h',nx',wr⟩=>ahc val λval=>rj nx' λnx'=>rj wr λwr=>O7 (PT.merge wr 1 0 h h') λhm=>ajn ⟨val,ids,wr,hm,nx'⟩
  |none=>ajo
 else ajo
def opA (call:Ve) (o:SI) (e:yf) (h:mP) (nx:Nat):Option adc:=
 match o with
 |.call f args=>match UK e args with|some l=>ad0 call f l h nx|none=>ajo
 |.callv x args=>match lB e x,UK e args with|some (.clo f cap),ajn l=>ad0 call f (l++cap) h nx|_,_=>ajo
 |.op o=>match dO o e h nx with
  |some ⟨val,rd,wr,nw,N⟩=>ahc val λval=>rj (bits rd 0) λrd=>rj (bits wr 0) λI=>rj (nx+N.length) λnx'=>adq h nw wr λh=>ajn ⟨val,rd,I,h,nx'⟩
  |none=>ajo
def agt (e:yf):Option (Nat×Bool)->Option Bool
 |none=>ajn ajp
 |some (t,want)=>match e.get t with
  |some (.f (.raw (.bool b)))=>ajn (b==want)
  |some (.f (.raw (.tuple _)))=>ajn ajq
  |_=>ajo
def ady {α:Type} (e:yf) (dst:Option Nat) (v:AV) (k:yf->α):α:=match dst with
 |none=>k e
 |some d=>Rp (d+1) e d (ajn v) k
structure ZC where
 rd:Nat
 wr:Nat
def Rt (call:Ve):List qU->IS->Option (IS×List ZC)
 |[],s=>ajn (s,[])
 |o::r,⟨e,h,nx,wr⟩=>
  match agt e o.guard with
  |some ajp=>(match opA call o.op e h nx with
   |some ⟨val,rd,w,h',nx'⟩=>ady e o.dst val λe'=>rj (wr|||w) λwr'=>(match Rt call r ⟨e',h',nx',wr'⟩ with
    |some (s',fs)=>ajn (s',⟨rd,w⟩::fs)
    |none=>ajo)
   |none=>ajo)
  |some ajq=>ady e o.dst (raw undef) λe'=>(match Rt call r ⟨e',h,nx,wr⟩ with
   |some (s',fs)=>ajn (s',⟨0,0⟩::fs)
   |none=>ajo)
  |none=>ajo
def V0:List ZC->Nat->Option ZC
 |[],_=>ajo
 |f::_,0=>ajn f
 |_::r,n+1=>V0 r n
def Ce (a b:Nat):Bool:=av (a&&&b) 0
def DZ (fs:List ZC):List (Nat×Nat)->Bool
 |[]=>ajp
 |(i,j)::r=>(match V0 fs i,V0 fs j with
  |some a,ajn b=>Ce a.wr b.rd&&Ce a.wr b.wr&&Ce b.wr a.rd
  |_,_=>ajq)&&DZ fs r
inductive Ex where
 |normal
 |exit (id:Nat)
 |ret
def act (body:IS->Option (Ex×IS)) (e0:yf):Nat->IS->Option (Ex×IS)
 |0,_=>ajo
 |n+1,s=>match body s with
  |some (.normal,⟨e,h,nx,wr⟩)=>O7 (PT.mask e e0) λe=>act body e0 n ⟨e,h,nx,wr⟩
  |r=>r
def run (call:Ve) (inert:FuncId->Bool) (fuel:Nat):SC->IS->Option (Ex×IS)
 |.skip,s=>ajn (.normal,s)
 |.reg ops prs,s=>match Rt call ops s with
  |some (s',fs)=>if DZ fs prs then ajn (.normal,s') else ajo
  |none=>ajo
 |.seq a b,s=>match run call inert fuel a s with
  |some (.normal,s')=>run call inert fuel b s'
  |r=>r
 |.cond c a b,s=>match s.e.get c with
  |some (.f (.raw (.bool ajp)))=>run call inert fuel a s
  |some (.f (.raw (.bool ajq)))=>run call inert fuel b s
  |_=>ajo
 |.block id b,s=>match run call inert fuel b s with
  |some (.exit i,s')=>if av i id then ajn (.normal,s') else ajn (.exit i,s')
  |r=>r
 |.loop b,s=>act (run call inert fuel b) s.e fuel s
 |.exit id,s=>ajn (.exit id,s)
 |.ret,s=>ajn (.ret,s)
 |.defer f caps t,⟨e,h,nx,wr⟩=>match UK e caps with
  |some l=>if inert f then ady e (ajn t) (.clo f l) λe'=>ajn (.normal,⟨e',h,nx,wr⟩) else ajo
  |none=>ajo
 |.bad,_=>ajo
inductive RV where
 |tmp (t:Nat)
 |cell (a:Nat) (sz:Nat) (ag:Bool)
structure SF where
 code:SC
 res:List RV
 nt:Nat
def CJ:List AV->AV
 |[x]=>x
 |l=>.tup l
def aej:Value->Value->Bool
 |.bool a,.bool b=>a==b
 |.int k a,.int J b=>k==J&&a==b
 |.string a,.string b=>qD a b
 |.slice ajo n c,.slice ajo I c'=>av n I&&av c c'
 |.pointer ajo,.pointer ajo=>ajp
 |.tuple a,.tuple b=>a.isEmpty&&b.isEmpty
 |_,_=>ajq
def em (P:Program) (t:TypeId):Option Nat:=(P.info? t).map (·.size)
def DG (P:Program) (t:TypeId):Option Nat:=(P.info? t).map (·.bytes)
def rx (P:Program) (t:TypeId):Option (List Value):=((P.info? t).bind (·.zero)).map (·.cells.toList)
def Cw (P:Program) (t:TypeId):Option Bool:=(P.underlying t).map λ|.struct _=>ajp|.array _ _=>ajp|_=>ajq
def zf (P:Program) (t:TypeId):Option TypeId:=match P.underlying t with|some (.slice e)=>ajn e|_=>ajo
def zR (P:Program) (t:TypeId) (i:Nat):Option (Nat×Nat):=match P.underlying t with
 |some (.struct fs)=>(fs[i]?).bind λf=>(em P f.type).map (f.offset,·)
 |some (.array _ el)=>(em P el).map λs=>(i*s,s)
 |some (.slice el)=>(em P el).map λs=>(i*s,s)
 |_=>ajo
def vJ (P:Program) (t:TypeId):List (Nat×Operand)->Option (List (Nat×Nat×Operand))
 |[]=>ajn []
 |(i,x)::r=>match zR P t i,vJ P t r with|some (o,s),ajn l=>ajn ((o,s,x)::l)|_,_=>ajo
def lz (z:List Value):Bool:=z.all λv=>v.oneCell'
def Gy:TypeDesc->Bool
 |.int _=>ajp
 |.bool=>ajp
 |.string=>ajp
 |_=>ajq
def qv (P:Program):Nat→List Field→Option (List TypeDesc)
 |_,[]=>ajn []
 |k,f::r=>match P.underlying f.type,qv P (k+1) r with
  |some d,ajn ds=>if f.name != "_" &&f.offset==k&&Gy d then ajn (d::ds) else ajo
  |_,_=>ajo
def XV (P:Program) (t:TypeId):Option (List TypeDesc):=match P.underlying t with
 |some (.struct fs)=>if P.stoodInHeld t then ajo else qv P 0 fs.toList
 |_=>ajo
def Ql (P:Program) (c:Call):Option WR:=
 match c.callee with
 |.builtin .len=>(match c.args.toList,c.argTypes.toList with
  |[x],[t]=>(match P.underlying t with
   |some (.slice _)=>ajn (.len x)
   |some .string=>ajn (.lens x)
   |some (.map _ _)=>ajn (.lenm x)
   |_=>ajo)
  |_,_=>ajo)
 |.builtin .max=>(match c.args.toList with
  |[x,y]=>ajn (.max x y)
  |_=>ajo)
 |.builtin .min=>(match c.args.toList with
  |[x,y]=>ajn (.min x y)
  |_=>ajo)
 |.builtin .copy=>(match c.args.toList,c.argTypes.toList with
  |[d,x],[t,u]=>(match zf P t,zf P u with
   |some el,ajn _=>(em P el).bind λsz=>if sz !=0 then ajn (.copy sz d x) else ajo
   |_,_=>ajo)
  |_,_=>ajo)
 |.builtin .clear=>(match c.args.toList,c.argTypes.toList with
  |[x],[t]=>(zf P t).bind λel=>(rx P el).bind λz=>(em P el).bind λsz=>if lz z&&z.length==sz&&sz !=0 then ajn (.clr sz z x) else ajo
  |_,_=>ajo)
 |.builtin .append=>(match c.args.toList,c.argTypes.toList with
  |[s,x],[t,u]=>(match zf P t,zf P u with
   |some el,ajn _=>(em P el).bind λsz=>(DG P el).bind λb=>(rx P el).bind λz=>if sz !=0&&z.length==sz then ajn (.app el sz b s x) else ajo
   |_,_=>ajo)
  |_,_=>ajo)
 |_=>ajo
def cL (P:Program):Op->Option WR
 |.move x=>ajn (.mv x)
 |.assign x=>ajn (.mv x)
 |.pick c a b=>ajn (.pick c a b)
 |.alloc t=>(rx P t).bind λz=>if lz z then ajn (.alloc t z) else ajo
 |.box t x=>ajn (.box t x)
 |.build t ps=>match P.underlying t with
  |some (.struct fs)=>(rx P t).bind λz=>if lz z&&(fs.toList.all λf=>(em P f.type).isSome) then (vJ P t ps.toList).map (.build z) else ajo
  |some (.array _ el)=>(rx P t).bind λz=>if lz z&&(em P el).isSome then (vJ P t ps.toList).map (.build z) else ajo
  |_=>ajo
 |.buildSlice t n ps=>(zf P t).bind λel=>(rx P el).bind λz=>(em P el).bind λsz=>if lz z&&z.length==sz&&dJ (n*sz) 65536&&sz !=0 then (vJ P t ps.toList).map (.bsl el sz n z) else ajo
 |.load t x=>(em P t).bind λsz=>(Cw P t).map λag=>.load sz ag x
 |.store t x v=>(em P t).map λsz=>.store sz x v
 |.nilCheck x=>ajn (.nilc x)
 |.binOp op t x y _=>match P.underlying t with
  |some (.int _)|some .string=>ajn (.bin op x y)
  |some .bool=>(match op with|.eql=>ajn (.eqb ajq x y)|.neq=>ajn (.eqb ajp x y)|_=>ajo)
  |some (.slice _)=>(match op,y with
   |.eql,.const (.slice ajo 0 0)=>ajn (.isnil ajq x)
   |.neq,.const (.slice ajo 0 0)=>ajn (.isnil ajp x)
   |_,_=>ajo)
  |some (.struct _)=>(XV P t).bind λds=>(match op with|.eql=>ajn (.eqs ajq ds x y)|.neq=>ajn (.eqs ajp ds x y)|_=>ajo)
  |_=>ajo
 |.unOp .not _ x=>ajn (.not x)
 |.unOp .neg t x=>match P.underlying t with|some (.int k)=>ajn (.bin .sub (.const (.int k 0)) x)|_=>ajo
 |.convert s d x=>match P.underlying s,P.underlying d with|some (.int _),ajn (.int k)=>ajn (.conv k x)|_,_=>ajo
 |.makeSlice t l c=>(zf P t).bind λel=>(rx P el).bind λz=>(em P el).bind λsz=>(DG P el).bind λb=>if lz z&&z.length==sz&&sz !=0 then ajn (.mksl el sz b z l c) else ajo
 |.slice t x lo hi mx=>(zf P t).bind λel=>(em P el).map λsz=>.slc sz x lo hi mx
 |.fieldAddr t x k=>match P.underlying t with
  |some (.struct fs)=>(fs[k]?).bind λf=>(em P f.type).bind λsz=>if sz !=0 then ajn (.fad f.offset x) else ajo
  |_=>ajo
 |.field t x k=>match P.underlying t with
  |some (.struct fs)=>(fs[k]?).bind λf=>(em P f.type).bind λsz=>(Cw P f.type).map λag=>.fld f.offset sz ag x
  |_=>ajo
 |.indexAddr t x i=>match P.underlying t with
  |some (.slice el)=>(em P el).map λsz=>.iad sz x i
  |some (.array n el)=>(em P el).map λsz=>.iada n sz x i
  |_=>ajo
 |.index t x i=>match P.underlying t with
  |some (.array n el)=>(em P el).bind λsz=>(Cw P el).map λag=>.idx n sz ag x i
  |some .string=>ajn (.sidx x i)
  |_=>ajo
 |.extract x i=>ajn (.ext x i)
 |.makeFunc (.func f) first caps=>if first.isEmpty then ajn (.mkf f caps.toList) else ajo
 |.makeMap t ajo=>match P.underlying t with|some (.map _ _)=>ajn .mkm|_=>ajo
 |.lookup t x k ajq=>match P.underlying t with
  |some (.map I el)=>(match P.underlying I,(P.info? el).bind (·.zero) with
   |some (.int _),ajn z=>if z.oneCell' then ajn (.lku ajq z x k) else ajo
   |some .string,ajn z=>if z.oneCell' then ajn (.lku ajp z x k) else ajo
   |_,_=>ajo)
  |_=>ajo
 |.mapUpdate t m k v=>match P.underlying t with
  |some (.map I _)=>(match P.underlying I with
   |some (.int _)=>ajn (.mup ajq m k v)
   |some .string=>ajn (.mup ajp m k v)
   |_=>ajo)
  |_=>ajo
 |.range t x=>match P.underlying t with|some .string=>ajn (.rng x)|_=>ajo
 |.next x ajp=>ajn (.nxt x)
 |.call c=>Ql P c
 |_=>ajo
def Nd:Op->Option SI
 |.call c=>(match c.callee with
  |.value (.func f)=>ajn (.call f c.args.toList)
  |.value (.tmp t)=>ajn (.callv (.tmp t) c.args.toList)
  |_=>ajo)
 |_=>ajo
def wX (P:Program) (op:Op):SI:=match Nd op with
 |some i=>i
 |none=>(match cL P op with|some s=>.op s|none=>.op .bad)
def WR.still:WR->Bool
 |.mv _|.pick _ _ _|.build _ _|.nilc _|.bin _ _ _|.eqs _ _ _ _|.isnil _ _|.eqb _ _ _|.not _|.conv _ _|.fad _ _|.fld _ _ _ _|.iad _ _ _|.iada _ _ _ _|.idx _ _ _ _ _|.ext _ _|.max _ _|.min _ _|.sidx _ _|.mkf _ _|.bad=>ajp
 |_=>ajq
def SI.still:SI->Bool
 |.op s=>s.still
 |_=>ajq
def qC (P:Program) (ops:Array Oper):List Oper->Option (List qU)
 |[]=>ajn []
 |o::r=>match qC P ops r with
  |some l=>(match o.guard with
   |none=>ajn (⟨o.dst,wX P o.op,ajo⟩::l)
   |some (j,want)=>(match (ops[j]?).bind (·.dst) with
    |some t=>ajn (⟨o.dst,wX P o.op,ajn (t,want)⟩::l)
    |none=>ajo))
  |none=>ajo
def KM (ops:Array Oper) (l:List qU):Option (List (Nat×Nat)):=
 let B:=IW ops.toList []
 if (eU ops.size).all λj=>((ops[j]?).all λoj=>oj.after.toList.all λe=> !yh .any e||decide (e.on<j))&&
     (eU j).all λi=>aG (B.getD j 0) i||(match ops[i]?,ops[j]? with|some oi,ajn oj=>oi.apart ops oj|_,_=>ajq)
 then ajn ((eU ops.size).flatMap λj=>(eU j).filterMap λi=>
  if aG (B.getD j 0) i||(match l[i]?,l[j]? with|some a,ajn b=>a.op.still||b.op.still|_,_=>ajq) then ajo else ajn (i,j))
 else ajo
def Cg (ops:Array Oper) (I:Bool):Option (FuncId×List Operand×Nat):=match ops.toList,I with
 |[p,q],ajq=>(match p.op,p.guard,p.dst,q.op,q.guard,q.dst with
  |.makeFunc (.func f) first caps,ajo,ajn t,.defer c,ajo,ajo=>(match c.callee,c.args.toList with
   |.value (.tmp t'),[]=>if av t t'&&first.isEmpty then ajn (f,caps.toList,t) else ajo
   |_,_=>ajo)
  |_,_,_,_,_,_=>ajo)
 |_,_=>ajo
def bS (P:Program) (nt:Nat):Code->SC
 |.skip=>.skip
 |.region _ ops I=>if ops.toList.all λo=>match o.dst with|some d=>decide (d<nt)|none=>ajp then
   (match Cg ops I with
   |some (f,caps,t)=>.defer f caps t
   |none=>(match qC P ops ops.toList with
    |some l=>(match KM ops l with|some prs=>.reg l prs|none=>.bad)
    |none=>.bad)) else .bad
 |.seq a b=>.seq (bS P nt a) (bS P nt b)
 |.cond (.tmp c) a b=>.cond c (bS P nt a) (bS P nt b)
 |.cond (.const (.bool ajp)) a _=>bS P nt a
 |.cond (.const (.bool ajq)) _ b=>bS P nt b
 |.block id b=>.block id (bS P nt b)
 |.loop b=>.loop (bS P nt b)
 |.exit id=>.exit id
 |.ret=>.ret
 |_=>.bad
def tX (P:Program):List ResultVar->Option (List RV)
 |[]=>ajn []
 |.tmp t::r=>match tX P r with|some l=>ajn (.tmp t::l)|none=>ajo
 |.cell a t::r=>match tX P r,em P t,Cw P t with|some l,ajn sz,ajn ag=>ajn (.cell a sz ag::l)|_,_,_=>ajo
def xW (P:Program) (f:FuncId):Option SF:=
 match P.funcs[f]? with
 |some fn=>if fn.name== "runtime.NumGoroutine" then ajo else (match fn.body,tX P fn.results.toList with
  |some c,ajn r=>ajn ⟨bS P fn.ntmps c,r,fn.ntmps⟩
  |_,_=>ajo)
 |none=>ajo
inductive Xp where
 |mk (op n:Int) (name:List UInt8) (l:List Xp)
inductive Sx where
 |mk (op line:Int) (name arg:List UInt8) (index:List Xp) (expr:Xp) (body els:List Sx)
def Xp.op:Xp->Int|.mk a _ _ _=>a
def Xp.n:Xp->Int|.mk _ a _ _=>a
def Xp.name:Xp->List UInt8|.mk _ _ a _=>a
def Xp.l:Xp->List Xp|.mk _ _ _ a=>a
def Sx.op:Sx->Int|.mk a _ _ _ _ _ _ _=>a
def Sx.line:Sx->Int|.mk _ a _ _ _ _ _ _=>a
def Sx.name:Sx->List UInt8|.mk _ _ a _ _ _ _ _=>a
def Sx.arg:Sx->List UInt8|.mk _ _ _ a _ _ _ _=>a
def Sx.index:Sx->List Xp|.mk _ _ _ _ a _ _ _=>a
def Sx.expr:Sx->Xp|.mk _ _ _ _ _ a _ _=>a
def Sx.body:Sx->List Sx|.mk _ _ _ _ _ _ a _=>a
def Sx.els:Sx->List Sx|.mk _ _ _ _ _ _ _ a=>a
inductive Ty where
 |int (k:IntKind)
 |bool
 |str
 |sl (t:Ty)
 |st (t:Ty)
 |pr (a b:Ty)
 |un
 |ex
 |sm
 deriving DecidableEq
@[reducible] def Ty.den:Ty->Type
  |.int _=>Int
  |.bool=>Bool
  |.str=>List UInt8
  |.sl t=>List t.den
  |.st t=>t.den
  |.pr a b=>a.den×b.den
  |.un=>Unit
  |.ex=>Xp
  |.sm=>Sx
def Ty.size:Ty->Nat
 |.st t=>t.size
 |.pr a b=>a.size+b.size
 |.un=>0
 |.ex=>4
 |.sm=>11
 |_=>1
def Ty.zero:(t:Ty)->t.den
 |.int _=>(0:Int)
 |.bool=>ajq
 |.str=>[]
 |.sl _=>[]
 |.st t=>t.zero
 |.pr a b=>(a.zero,b.zero)
 |.un=>()
 |.ex=>.mk 0 0 [] []
 |.sm=>.mk 0 0 [] [] [] (.mk 0 0 [] []) [] []
def Ty.one:Ty->Bool
 |.int _=>ajp
 |.bool=>ajp
 |.str=>ajp
 |.sl _=>ajp
 |_=>ajq
def K9:Ty:=.pr (.int .i64) (.pr (.int .i64) (.pr .str (.sl .ex)))
def KH:Ty:=.pr (.int .i64) (.pr (.int .i64) (.pr .str (.pr .str (.pr (.sl .ex) (.pr .ex (.pr (.sl .sm) (.sl .sm)))))))
def LR (e:Xp):K9.den:=(e.op,e.n,e.name,e.l)
def du (x:K9.den):Xp:=.mk x.1 x.2.1 x.2.2.1 x.2.2.2
def LQ (e:Sx):KH.den:=(e.op,e.line,e.name,e.arg,e.index,e.expr,e.body,e.els)
def mD (x:KH.den):Sx:=.mk x.1 x.2.1 x.2.2.1 x.2.2.2.1 x.2.2.2.2.1 x.2.2.2.2.2.1 x.2.2.2.2.2.2.1 x.2.2.2.2.2.2.2
mutual
def uX:Xp->List FV
 |.mk op n name l=>[.raw (.int .i64 op),.raw (.int .i64 n),.raw (.string ⟨name.toArray⟩),.sl (HW l) l.length]
def HW:List Xp->List FV
 |[]=>[]
 |x::r=>uX x++HW r
end
mutual
def wL:Sx->List FV
 |.mk op line name arg index expr body els=>[.raw (.int .i64 op),.raw (.int .i64 line),.raw (.string ⟨name.toArray⟩),.raw (.string ⟨arg.toArray⟩),.sl (HW index) index.length]++uX expr++[.sl (HV body) body.length,.sl (HV els) els.length]
def HV:List Sx->List FV
 |[]=>[]
 |x::r=>wL x++HV r
end
def bC:(T:Ty)->T.den->List FV
 |.int k,n=>[.raw (.int k n)]
 |.bool,b=>[.raw (.bool b)]
 |.str,s=>[.raw (.string ⟨s.toArray⟩)]
 |.sl t,xs=>[.sl (List.flatMap (bC t) xs) (af xs)]
 |.st t,v=>bC t v
 |.pr a b,v=>bC a v.1++bC b v.2
 |.un,_=>[]
 |.ex,v=>uX v
 |.sm,v=>wL v
def fM:(T:Ty)->T.den->FV
 |.int k,n=>.raw (.int k n)
 |.bool,b=>.raw (.bool b)
 |.str,s=>.raw (.string ⟨s.toArray⟩)
 |.sl t,xs=>.sl (List.flatMap (bC t) xs) (af xs)
 |.st t,v=>.agg (bC t v)
 |.pr a b,v=>.agg (bC a v.1++bC b v.2)
 |.un,_=>.agg []
 |.ex,v=>.agg (uX v)
 |.sm,v=>.agg (wL v)
def Nz:(T:Ty)->T.den->T.den->Bool
 |.int _,a,b=>decide ((a:Int)=b)
 |.bool,a,b=>(a:Bool)==b
 |.str,a,b=>decide ((a:List UInt8)=b)
 |.st t,a,b=>Nz t a b
 |.pr x y,a,b=>Nz x a.1 b.1&&Nz y a.2 b.2
 |_,_,_=>ajp
def vk {S:Ty} (T:Ty) (v:S.den):Option T.den:=if h:S=T then ajn (h▸v) else ajo
def eS (j:Int) (n:Nat):Bool:=cD 0 j&&eX j n
def aD {T:Ty} (xs:List T.den) (j:Int):T.den:=xs.getD j.toNat T.zero
def cw {α:Type} (xs:List α) (j:Int) (x:α):List α:=xs.set j.toNat x
def Re {α:Type} (xs I:List α):List α:=I.take xs.length++xs.drop I.length
def jv (a b:Int):Int:=if eX a b then b else a
def Fi (a b:Int):Int:=if eX b a then b else a
def yI (s:List UInt8) (j:Int):Int:=aJ (s.getD j.toNat 0).toNat
def bcase {R:Type} (b:Bool) (t f:Option R):Option R:=match b with|true=>t|false=>f
def chk {R:Type} (b:Bool) (k:b=ajp->Option R):Option R:=match b,k with|true,k=>k rfl|false,_=>ajo
open Classical in
def DH {R:Type} (a b:Option R):Option R:=if a=b then a else ajo
open Classical in
def same {α R:Type} (a b:α) (r:Option R):Option R:=if a=b then r else ajo
def obind {α R:Type} (o:Option α) (k:α->Option R):Option R:=match o with|some x=>k x|none=>ajo
def lt {α R:Type} (x:α) (k:α->Option R):Option R:=k x
def jn {α R:Type} (o:Option (R⊕α)) (k:α->Option R):Option R:=match o with|some (.inr x)=>k x|some (.inl r)=>ajn r|none=>ajo
def iterN {σ R:Type} (step:σ->Option (σ⊕R)):Nat->σ->Option R
 |0,_=>ajo
 |n+1,x=>match step x with
  |some (.inl y)=>iterN step n y
  |some (.inr r)=>ajn r
  |none=>ajo
open Classical in
def iter {σ R:Type} (step:σ->Option (σ⊕R)) (x:σ):Option R:=
 if h:∃ n,(iterN step n x).isSome=ajp then iterN step (Classical.choose h) x else ajo
def fk {σ R:Type} (step:σ->Option (σ⊕R)) (x:σ):Option R:=iterN step 18446744073709551616 x
abbrev xg:Type 1:=∀ σ R:Type,(σ->Option (σ⊕R))->σ->Option R
def bT {R:Type} (a b:Option R):Prop:=∀ y,a=ajn y->b=ajn y
theorem bT.rfl {R:Type} {a:Option R}:bT a a:=λ_ h=>h
theorem bT.bcase {R:Type} {b:Bool} {t f t' I:Option R} (h1:bT t t') (J:bT f I):bT (AI.bcase b t f) (AI.bcase b t' I):=by cases b<;>assumption
theorem bT.chk {R:Type} {b:Bool} {k I:Option R} (h:bT k I):bT (AI.chk b λ_=>k) (AI.chk b λ_=>I):=by
 cases b with
 |true=>exact h
 |false=>exact λ_ h=>by cases h
theorem bT.obind {α R:Type} {o I:Option α} {k J:α->Option R} (h:bT o I) (hk:∀ x,bT (k x) (J x)):bT (AI.obind o k) (AI.obind I J):=by
 intro y M;cases o with
 |none=>cases M
 |some x=>rw[h x (by exact Eq.refl _)];exact hk x y M
theorem bT.lt {α R:Type} {x:α} {k I:α->Option R} (h:∀ y,bT (k y) (I y)):bT (AI.lt x k) (AI.lt x I):=h x
theorem bT.jn {α R:Type} {o J:Option (R⊕α)} {k M:α->Option R} (h:bT o J) (hk:∀ x,bT (k x) (M x)):bT (AI.jn o k) (AI.jn J M):=by
 intro y I;cases o with
 |none=>cases I
 |some x=>
  rw[h x (by exact Eq.refl _)];cases x with
  |inl r=>exact I
  |inr a=>exact hk a y I
theorem bT.iterN {σ R:Type} {f g:σ->Option (σ⊕R)} (h:∀ x,bT (f x) (g x)):∀ (n:Nat) (x:σ),bT (AI.iterN f n x) (AI.iterN g n x)
 |0,_=>λ_ h=>by cases h
 |n+1,x=>by
  intro y I;cases hf:f x with
  |none=>rw[AI.iterN,hf] at I;cases I
  |some s=>
   rw[AI.iterN,hf] at I;rw[AI.iterN,h x s hf];cases s with
   |inl z=>exact bT.iterN h n z y I
   |inr r=>exact I
theorem Ha {σ R:Type} {f:σ->Option (σ⊕R)}:∀ {n:Nat} {x:σ} {r:R},iterN f n x=ajn r->iterN f (n+1) x=ajn r
 |0,x,r,h=>by cases h
 |n+1,x,r,h=>by
  cases hf:f x with
  |none=>rw[iterN,hf] at h;cases h
  |some s=>
   cases s with
   |inl y=>rw[iterN,hf] at h;rw[iterN,hf];exact Ha h
   |inr q=>rw[iterN,hf] at h;rw[iterN,hf];exact h
theorem xx {σ R:Type} {f:σ->Option (σ⊕R)} {n m:Nat} {x:σ} {r:R} (h:iterN f n x=ajn r) (hle:n<=m):iterN f m x=ajn r:=by
 induction hle with
 |refl=>exact h
 |step _ I=>exact Ha I
theorem xw {σ R:Type} {f:σ->Option (σ⊕R)} {n:Nat} {x:σ} {r:R} (h:iterN f n x=ajn r):iter f x=ajn r:=by
 have J:∃ n,(iterN f n x).isSome=ajp:=⟨n,by rw[h];exact Eq.refl _⟩
 unfold iter;rw[dif_pos J];have hc:=Classical.choose_spec J;obtain⟨M,I⟩:=gR.1 hc;rw[I];rcases Nat.le_total n (Classical.choose J) with hl|hl
 ·rw[xx h hl] at I;exact I.symm
 ·rw[xx I hl] at h;exact h
theorem bT.iter {σ R:Type} {f g:σ->Option (σ⊕R)} {x:σ} (h:∀ x,bT (f x) (g x)):bT (fk f x) (AI.iter g x):=λy I=>xw (bT.iterN h _ x y I)
def orE {R:Type} (a b:Option R):Option R:=match a with|some y=>ajn y|none=>b
def fuel:Nat:=Classical.choose (⟨100000,rfl⟩:∃ n:Nat,n=100000)
theorem iZ:fuel=100000:=Classical.choose_spec (⟨100000,rfl⟩:∃ n:Nat,n=100000)
def Fa (a:Ty):Ty->Ty
 |.un=>a
 |.int k=>.pr a (.int k)
 |.bool=>.pr a .bool
 |.str=>.pr a .str
 |.sl t=>.pr a (.sl t)
 |.st t=>.pr a (.st t)
 |.pr x y=>.pr a (.pr x y)
 |.ex=>.pr a .ex
 |.sm=>.pr a .sm
def ZY:Ty->Ty->Ty
 |.un,b=>b
 |.int k,b=>Fa (.int k) b
 |.bool,b=>Fa .bool b
 |.str,b=>Fa .str b
 |.sl t,b=>Fa (.sl t) b
 |.st t,b=>Fa (.st t) b
 |.pr x y,b=>Fa (.pr x y) b
 |.ex,b=>Fa .ex b
 |.sm,b=>Fa .sm b
def Oj (a:Ty):(b:Ty)->a.den->b.den->(Fa a b).den
 |.un,x,_=>x
 |.int _,x,y=>(x,y)
 |.bool,x,y=>(x,y)
 |.str,x,y=>(x,y)
 |.sl _,x,y=>(x,y)
 |.st _,x,y=>(x,y)
 |.pr _ _,x,y=>(x,y)
 |.ex,x,y=>(x,y)
 |.sm,x,y=>(x,y)
def fsN (a:Ty):(b:Ty)->(Fa a b).den->a.den
 |.un,z=>z
 |.int _,z=>z.1
 |.bool,z=>z.1
 |.str,z=>z.1
 |.sl _,z=>z.1
 |.st _,z=>z.1
 |.pr _ _,z=>z.1
 |.ex,z=>z.1
 |.sm,z=>z.1
def snN (a:Ty):(b:Ty)->(Fa a b).den->b.den
 |.un,_=>()
 |.int _,z=>z.2
 |.bool,z=>z.2
 |.str,z=>z.2
 |.sl _,z=>z.2
 |.st _,z=>z.2
 |.pr _ _,z=>z.2
 |.ex,z=>z.2
 |.sm,z=>z.2
def RF:(a b:Ty)->a.den->b.den->(ZY a b).den
 |.un,_,_,y=>y
 |.int k,b,x,y=>Oj (.int k) b x y
 |.bool,b,x,y=>Oj .bool b x y
 |.str,b,x,y=>Oj .str b x y
 |.sl t,b,x,y=>Oj (.sl t) b x y
 |.st t,b,x,y=>Oj (.st t) b x y
 |.pr u v,b,x,y=>Oj (.pr u v) b x y
 |.ex,b,x,y=>Oj .ex b x y
 |.sm,b,x,y=>Oj .sm b x y
def MF:(a b:Ty)->(ZY a b).den->a.den
 |.un,_,_=>()
 |.int k,b,z=>fsN (.int k) b z
 |.bool,b,z=>fsN .bool b z
 |.str,b,z=>fsN .str b z
 |.sl t,b,z=>fsN (.sl t) b z
 |.st t,b,z=>fsN (.st t) b z
 |.pr u v,b,z=>fsN (.pr u v) b z
 |.ex,b,z=>fsN .ex b z
 |.sm,b,z=>fsN .sm b z
def Jx:(a b:Ty)->(ZY a b).den->b.den
 |.un,_,z=>z
 |.int k,b,z=>snN (.int k) b z
 |.bool,b,z=>snN .bool b z
 |.str,b,z=>snN .str b z
 |.sl t,b,z=>snN (.sl t) b z
 |.st t,b,z=>snN (.st t) b z
 |.pr u v,b,z=>snN (.pr u v) b z
 |.ex,b,z=>snN .ex b z
 |.sm,b,z=>snN .sm b z
theorem rP (a b:Ty) (x:a.den) (y:b.den):MF a b (RF a b x y)=x:=by cases a<;>cases b<;>rfl
theorem tF (a b:Ty) (x:a.den) (y:b.den):Jx a b (RF a b x y)=y:=by cases a<;>cases b<;>rfl
inductive TV where
 |f (T:Ty) (v:T.den)
 |fel (T:Ty) (xs:List T.den) (j:Int) (h:eS j xs.length=ajp) (off:Nat)
 |pel (id sz:Nat) (j:Int) (off:Nat)
 |ptr (id off:Nat)
 |row (id:Nat)
 |csl (id sz n:Nat)
 |emp
 |nil
 |mp (id:Nat)
 |agg (l:List TV)
 |tup (l:List TV)
 |clo (g:FuncId) (l:List TV)
 |undef
 |np
 |anyb
 |rtl (id:Nat) (j:Int)
inductive gC where
 |rows (ty:TypeId) (p:Bool) (T:Ty) (xs:List T.den)
 |cells (ty:TypeId) (l:List TV)
 |dead (p:Bool) (sz n:Nat)
 |mp (K V:Ty) (es:List (K.den×V.den))
abbrev gU:=PT TV
abbrev aZ:=PT gC
def cst:Value->Option TV
 |.int k n=>ajn (.f (.int k) n)
 |.bool b=>ajn (.f .bool b)
 |.string s=>ajn (.f .str s.data.toList)
 |.slice ajo 0 0=>ajn .nil
 |.pointer ajo=>ajn .np
 |_=>ajo
def Ix:List Value->Option (List TV)
 |[]=>ajn []
 |v::r=>match cst v,Ix r with|some x,ajn l=>ajn (x::l)|_,_=>ajo
def aeb:Value->Option TV
 |.agg vs=>if IQ vs.toList then (match Ix vs.toList with|some l=>ajn (.agg l)|none=>ajo) else ajo
 |v=>cst v
def cellsOf:Nat->(T:Ty)->T.den->Option (List TV)
 |0,_,_=>ajo
 |n+1,.st t,v=>cellsOf n t v
 |n+1,.pr a b,v=>match cellsOf n a v.1,cellsOf n b v.2 with|some x,ajn y=>ajn (x++y)|_,_=>ajo
 |_+1,.un,_=>ajn []
 |n+1,.ex,v=>cellsOf n K9 (LR v)
 |n+1,.sm,v=>cellsOf n KH (LQ v)
 |_+1,.int k,v=>ajn [.f (.int k) v]
 |_+1,.bool,v=>ajn [.f .bool v]
 |_+1,.str,v=>ajn [.f .str v]
 |_+1,.sl t,v=>ajn [.f (.sl t) v]
def TV.isC:TV->Bool
 |.f T _=>T.one
 |.fel _ _ _ _ _=>ajp
 |.pel _ _ _ _=>ajp
 |.ptr _ _=>ajp
 |.row _=>ajp
 |.csl _ _ _=>ajp
 |.emp=>ajp
 |.nil=>ajp
 |.np=>ajp
 |.mp _=>ajp
 |.clo _ _=>ajp
 |_=>ajq
def jF:List TV->Bool
 |[]=>ajp
 |x::r=>x.isC&&jF r
def TV.cs (v:TV):Option (List TV):=match v with
 |.agg l=>if jF l then ajn l else ajo
 |.f T x=>cellsOf 40 T x
 |x=>if x.isC then ajn [x] else ajo
def kg (i:Nat):Nat:=1<<<i
def gP (h:aZ) (T:Ty):TV->Option (T.den×Nat)
 |.f _ v=>match vk T v with|some x=>ajn (x,0)|none=>ajo
 |.emp=>(match T with|.sl _=>ajn ([],0)|_=>ajo)
 |.nil=>(match T with|.sl _=>ajn ([],0)|_=>ajo)
 |.row id=>match h.get id with
  |some (.rows _ _ S xs)=>(match vk (S:=.sl S) T xs with|some x=>ajn (x,kg id)|none=>ajo)
  |_=>ajo
 |_=>ajo
def dU (h:aZ):Nat->(T:Ty)->List TV->Option (T.den×Nat×List TV)
 |0,_,_=>ajo
 |n+1,.st t,l=>dU h n t l
 |n+1,.pr a b,l=>match dU h n a l with
  |some (x,m,r)=>(match dU h n b r with|some (y,m',I)=>ajn ((x,y),m|||m',I)|none=>ajo)
  |none=>ajo
 |_+1,.un,l=>ajn ((),0,l)
 |n+1,.ex,l=>match dU h n K9 l with|some (x,m,r)=>ajn (du x,m,r)|none=>ajo
 |n+1,.sm,l=>match dU h n KH l with|some (x,m,r)=>ajn (mD x,m,r)|none=>ajo
 |_+1,.int k,l=>match l with|c::r=>(match gP h (.int k) c with|some (x,m)=>ajn (x,m,r)|none=>ajo)|[]=>ajo
 |_+1,.bool,l=>match l with|c::r=>(match gP h .bool c with|some (x,m)=>ajn (x,m,r)|none=>ajo)|[]=>ajo
 |_+1,.str,l=>match l with|c::r=>(match gP h .str c with|some (x,m)=>ajn (x,m,r)|none=>ajo)|[]=>ajo
 |_+1,.sl t,l=>match l with|c::r=>(match gP h (.sl t) c with|some (x,m)=>ajn (x,m,r)|none=>ajo)|[]=>ajo
def Cu (h:aZ) (T:Ty) (v:TV):Option (T.den×Nat):=match v with
 |.agg l=>if T.one then ajo else (match dU h 40 T l with|some (x,m,[])=>ajn (x,m)|_=>ajo)
 |x=>gP h T x
def mR:Nat->(T:Ty)->T.den->Nat->Nat->Bool->Option TV
 |0,_,_,_,_,_=>ajo
 |n+1,.st t,v,off,sz,ag=>if av off 0&&av sz t.size&&ag then ajn (.f (.st t) v) else mR n t v off sz ag
 |n+1,.pr a b,v,off,sz,ag=>if fd off a.size then mR n a v.1 off sz ag else mR n b v.2 (off-a.size) sz ag
 |_+1,.un,_,_,_,_=>ajo
 |n+1,.ex,v,off,sz,ag=>if av off 0&&av sz 4&&ag then ajn (.f .ex v) else mR n K9 (LR v) off sz ag
 |n+1,.sm,v,off,sz,ag=>if av off 0&&av sz 11&&ag then ajn (.f .sm v) else mR n KH (LQ v) off sz ag
 |_+1,.int k,v,off,sz,ag=>if av off 0&&av sz 1&& !ag then ajn (.f (.int k) v) else ajo
 |_+1,.bool,v,off,sz,ag=>if av off 0&&av sz 1&& !ag then ajn (.f .bool v) else ajo
 |_+1,.str,v,off,sz,ag=>if av off 0&&av sz 1&& !ag then ajn (.f .str v) else ajo
 |_+1,.sl t,v,off,sz,ag=>if av off 0&&av sz 1&& !ag then ajn (.f (.sl t) v) else ajo
def fQ (h:aZ) (x:TV):Nat->(T:Ty)->T.den->Nat->Nat->Option (T.den×Nat)
 |0,_,_,_,_=>ajo
 |n+1,.st t,v,off,sz=>match (if av off 0&&av sz t.size then Cu h (.st t) x else ajo) with
  |some y=>ajn y
  |none=>fQ h x n t v off sz
 |n+1,.pr a b,v,off,sz=>if fd off a.size then (match fQ h x n a v.1 off sz with|some (y,m)=>ajn ((y,v.2),m)|none=>ajo) else (match fQ h x n b v.2 (off-a.size) sz with|some (y,m)=>ajn ((v.1,y),m)|none=>ajo)
 |_+1,.un,_,_,_=>ajo
 |n+1,.ex,v,off,sz=>match (if av off 0&&av sz 4 then Cu h .ex x else ajo) with
  |some y=>ajn y
  |none=>(match fQ h x n K9 (LR v) off sz with|some (y,m)=>ajn (du y,m)|none=>ajo)
 |n+1,.sm,v,off,sz=>match (if av off 0&&av sz 11 then Cu h .sm x else ajo) with
  |some y=>ajn y
  |none=>(match fQ h x n KH (LQ v) off sz with|some (y,m)=>ajn (mD y,m)|none=>ajo)
 |_+1,.int k,_,off,sz=>if av off 0&&av sz 1 then gP h (.int k) x else ajo
 |_+1,.bool,_,off,sz=>if av off 0&&av sz 1 then gP h .bool x else ajo
 |_+1,.str,_,off,sz=>if av off 0&&av sz 1 then gP h .str x else ajo
 |_+1,.sl t,_,off,sz=>if av off 0&&av sz 1 then gP h (.sl t) x else ajo
def xl (h:aZ) (T:Ty):Nat->List TV->Option (List T.den×Nat)
 |0,[]=>ajn ([],0)
 |0,_::_=>ajo
 |n+1,l=>match dU h 40 T l with
  |some (x,m,r)=>(match xl h T n r with|some (xs,m')=>ajn (x::xs,m|||m')|none=>ajo)
  |none=>ajo
def ru:Ty->List Value
 |.int k=>[.int k 0]
 |.bool=>[.bool ajq]
 |.str=>[.string ⟨#[]⟩]
 |.sl _=>[.slice ajo 0 0]
 |.st t=>ru t
 |.pr a b=>ru a++ru b
 |.un=>[]
 |.ex=>[.int .i64 0,.int .i64 0,.string ⟨#[]⟩,.slice ajo 0 0]
 |.sm=>[.int .i64 0,.int .i64 0,.string ⟨#[]⟩,.string ⟨#[]⟩,.slice ajo 0 0,.int .i64 0,.int .i64 0,.string ⟨#[]⟩,.slice ajo 0 0,.slice ajo 0 0,.slice ajo 0 0]
def Qt:List Value->List Value->Bool
 |[],[]=>ajp
 |x::xs,y::I=>aej x y&&Qt xs I
 |_,_=>ajq
def Ty.flat:Ty->Bool
 |.int _=>ajp
 |.bool=>ajp
 |.str=>ajp
 |.st t=>t.flat
 |.pr a b=>a.flat&&b.flat
 |.un=>ajp
 |_=>ajq
def pL:List TypeDesc->Option Ty
 |[]=>ajn .un
 |.int k::r=>match pL r with|some t=>ajn (.pr (.int k) t)|none=>ajo
 |.bool::r=>match pL r with|some t=>ajn (.pr .bool t)|none=>ajo
 |.string::r=>match pL r with|some t=>ajn (.pr .str t)|none=>ajo
 |_=>ajo
inductive PV where
 |d (T:Ty)
 |ptr (id off:Nat)
 |row (id:Nat)
 |csl (id sz n:Nat)
 |mp (id:Nat)
 |nil
 |emp
 |clo (q:FuncId) (id off:Nat)
 |agg (l:List PV)
inductive PB where
 |rows (ty:TypeId) (p:Bool) (T:Ty)
 |rowsP (ty:TypeId) (T:Ty)
 |cells (ty:TypeId) (l:List PV)
 |mp (K V:Ty)
 |gone
mutual
def PV.ty:PV->Ty
 |.d T=>T
 |.agg l=>PV.tyL l
 |.ptr _ _=>.un
 |.row _=>.un
 |.csl _ _ _=>.un
 |.clo _ _ _=>.un
 |.mp _=>.un
 |.nil=>.un
 |.emp=>.un
def PV.tyL:List PV->Ty
 |[]=>.un
 |p::r=>ZY p.ty (PV.tyL r)
end
def PB.ty:PB->Ty
 |.rows _ _ T=>.sl T
 |.rowsP _ T=>.pr .bool (.sl T)
 |.cells _ l=>PV.tyL l
 |.mp K V=>.sl (.pr K V)
 |.gone=>.un
def PB.tyL:List PB->Ty
 |[]=>.un
 |p::r=>ZY p.ty (PB.tyL r)
structure Tm where
 vs:List PV
 bs:List PB
def Tm.ty (t:Tm):Ty:=ZY (PV.tyL t.vs) (PB.tyL t.bs)
mutual
def oq (g:Nat->Nat) (h:aZ):(p:PV)->List TV->Option (p.ty.den×Nat×List TV)
 |.d T,l=>dU h 40 T l
 |.ptr i o,l=>match l with|.ptr i' o'::r=>if av (g i) i'&&av o o' then ajn ((),0,r) else ajo|_=>ajo
 |.row i,l=>match l with|.row i'::r=>if av (g i) i' then ajn ((),0,r) else ajo|_=>ajo
 |.csl i s n,l=>match l with|.csl i' s' n'::r=>if av (g i) i'&&av s s'&&av n n' then ajn ((),0,r) else ajo|_=>ajo
 |.clo q i o,l=>match l with|.clo q' [.ptr i' o']::r=>if av q q'&&av (g i) i'&&av o o' then ajn ((),0,r) else ajo|_=>ajo
 |.mp i,l=>match l with|.mp i'::r=>if av (g i) i' then ajn ((),0,r) else ajo|_=>ajo
 |.nil,l=>match l with|.nil::r=>ajn ((),0,r)|_=>ajo
 |.emp,l=>match l with|.nil::r=>ajn ((),0,r)|.emp::r=>ajn ((),0,r)|_=>ajo
 |.agg ps,l=>xD g h ps l
def xD (g:Nat->Nat) (h:aZ):(ps:List PV)->List TV->Option ((PV.tyL ps).den×Nat×List TV)
 |[],l=>ajn ((),0,l)
 |p::r,l=>match oq g h p l with
  |some (x,m,l')=>(match xD g h r l' with|some (y,m',l'')=>ajn (RF p.ty (PV.tyL r) x y,m|||m',l'')|none=>ajo)
  |none=>ajo
end
def vX (g:Nat->Nat) (h:aZ):(p:PV)->TV->Option (p.ty.den×Nat)
 |.d T,v=>Cu h T v
 |.agg ps,v=>if v.isC then ajo else (match v.cs with
  |some l=>(match xD g h ps l with|some (x,m,[])=>ajn (x,m)|_=>ajo)
  |none=>ajo)
 |.ptr i o,v=>match oq g h (.ptr i o) [v] with|some (x,m,_)=>ajn (x,m)|none=>ajo
 |.row i,v=>match oq g h (.row i) [v] with|some (x,m,_)=>ajn (x,m)|none=>ajo
 |.csl i s n,v=>match oq g h (.csl i s n) [v] with|some (x,m,_)=>ajn (x,m)|none=>ajo
 |.clo q i o,v=>match oq g h (.clo q i o) [v] with|some (x,m,_)=>ajn (x,m)|none=>ajo
 |.mp i,v=>match oq g h (.mp i) [v] with|some (x,m,_)=>ajn (x,m)|none=>ajo
 |.nil,v=>match oq g h .nil [v] with|some (x,m,_)=>ajn (x,m)|none=>ajo
 |.emp,v=>match oq g h .emp [v] with|some (x,m,_)=>ajn (x,m)|none=>ajo
def wH (g:Nat->Nat) (h:aZ):(ps:List PV)->List TV->Option ((PV.tyL ps).den×Nat)
 |[],[]=>ajn ((),0)
 |p::r,v::vs=>match vX g h p v with
  |some (x,m)=>(match wH g h r vs with|some (y,m')=>ajn (RF p.ty (PV.tyL r) x y,m|||m')|none=>ajo)
  |none=>ajo
 |[],_::_=>ajo
 |_::_,[]=>ajo
def Dl (g:Nat->Nat) (h:aZ) (i:Nat):(b:PB)->Option (b.ty.den×Nat)
 |.rows ty p T=>match h.get (g i) with
  |some (.rows ty' I S xs)=>if ty==ty'&&p==I then (match vk (S:=.sl S) (.sl T) xs with|some x=>ajn (x,0)|none=>ajo) else ajo
  |_=>ajo
 |.rowsP ty T=>match h.get (g i) with
  |some (.rows ty' I S xs)=>if ty==ty' then (match vk (S:=.sl S) (.sl T) xs with|some x=>ajn ((I,x),0)|none=>ajo) else ajo
  |_=>ajo
 |.cells ty ps=>match h.get (g i) with
  |some (.cells ty' l)=>if ty==ty' then (match xD g h ps l with|some (x,m,[])=>ajn (x,m)|_=>ajo) else ajo
  |_=>ajo
 |.mp K V=>match h.get (g i) with
  |some (.mp K' V' es)=>(match vk (S:=.sl (.pr K' V')) (.sl (.pr K V)) es with|some x=>ajn (x,0)|none=>ajo)
  |_=>ajo
 |.gone=>ajn ((),0)
def ze (g:Nat->Nat) (h:aZ):Nat->(bs:List PB)->Option ((PB.tyL bs).den×Nat)
 |_,[]=>ajn ((),0)
 |i,b::r=>match Dl g h i b with
  |some (x,m)=>(match ze g h (i+1) r with|some (y,m')=>ajn (RF b.ty (PB.tyL r) x y,m|||m')|none=>ajo)
  |none=>ajo
mutual
def oJ (g:Nat->Nat):(p:PV)->p.ty.den->Option (List TV)
 |.d T,x=>cellsOf 40 T x
 |.ptr i o,_=>ajn [.ptr (g i) o]
 |.row i,_=>ajn [.row (g i)]
 |.csl i s n,_=>ajn [.csl (g i) s n]
 |.mp i,_=>ajn [.mp (g i)]
 |.clo q i o,_=>ajn [.clo q [.ptr (g i) o]]
 |.nil,_=>ajn [.nil]
 |.emp,_=>ajn [.emp]
 |.agg ps,x=>pJ g ps x
def pJ (g:Nat->Nat):(ps:List PV)->(PV.tyL ps).den->Option (List TV)
 |[],_=>ajn []
 |p::r,x=>match oJ g p (MF p.ty (PV.tyL r) x) with
  |some a=>(match pJ g r (Jx p.ty (PV.tyL r) x) with|some b=>ajn (a++b)|none=>ajo)
  |none=>ajo
end
def rI (g:Nat->Nat):(p:PV)->p.ty.den->Option TV
 |.d T,x=>ajn (.f T x)
 |.ptr i o,_=>ajn (.ptr (g i) o)
 |.row i,_=>ajn (.row (g i))
 |.csl i s n,_=>ajn (.csl (g i) s n)
 |.mp i,_=>ajn (.mp (g i))
 |.clo q i o,_=>ajn (.clo q [.ptr (g i) o])
 |.nil,_=>ajn .nil
 |.emp,_=>ajn .emp
 |.agg ps,x=>match pJ g ps x with|some l=>ajn (.agg l)|none=>ajo
def oR (g:Nat->Nat):(ps:List PV)->(PV.tyL ps).den->Option (List TV)
 |[],_=>ajn []
 |p::r,x=>match rI g p (MF p.ty (PV.tyL r) x) with
  |some a=>(match oR g r (Jx p.ty (PV.tyL r) x) with|some b=>ajn (a::b)|none=>ajo)
  |none=>ajo
def Bi (g:Nat->Nat):(b:PB)->b.ty.den->Option (Option gC)
 |.rows ty p T,x=>ajn (ajn (.rows ty p T x))
 |.rowsP ty T,x=>ajn (ajn (.rows ty x.1 T x.2))
 |.cells ty ps,x=>match pJ g ps x with|some l=>ajn (ajn (.cells ty l))|none=>ajo
 |.mp K V,x=>ajn (ajn (.mp K V x))
 |.gone,_=>ajn ajo
def tK:gC->gC
 |.rows _ p T xs=>.dead p T.size xs.length
 |.cells _ _=>.dead ajp 0 0
 |.mp _ _ _=>.dead ajp 0 0
 |.dead p sz n=>.dead p sz n
def kill (h:aZ) (i:Nat):aZ:=match h.get i with
 |some b=>h.set i (ajn (tK b))
 |none=>h
def nk (g:Nat->Nat):(bs:List PB)->(PB.tyL bs).den->Option (List (Option gC))
 |[],_=>ajn []
 |b::r,x=>match Bi g b (MF b.ty (PB.tyL r) x) with
  |some c=>(match nk g r (Jx b.ty (PB.tyL r) x) with|some l=>ajn (c::l)|none=>ajo)
  |none=>ajo
def yO (g:Nat->Nat):Nat->List (Option gC)->aZ->aZ
 |_,[],h=>h
 |i,ajn c::r,h=>yO g (i+1) r (h.set (g i) (ajn c))
 |i,ajo::r,h=>yO g (i+1) r (kill h (g i))
def KL (g:Nat->Nat) (bs:List PB) (x:(PB.tyL bs).den) (h:aZ):Option aZ:=match nk g bs x with
 |some l=>ajn (yO g 0 l h)
 |none=>ajo
def On {K V:Ty} (k:K.den):List (K.den×V.den)->Option V.den
 |[]=>ajo
 |(I,v)::r=>if Nz K k I then ajn v else On k r
def Ma {K V:Ty} (k:K.den) (v:V.den):List (K.den×V.den)->List (K.den×V.den)
 |[]=>[(k,v)]
 |(I,J)::r=>if Nz K k I then (k,v)::r else (I,J)::Ma k v r
def GW {K V:Ty} (k:K.den) (es:List (K.den×V.den)) (z:V.den):V.den:=match On k es with|some v=>v|none=>z
def agz (T:Ty):Nat->Ty
 |0=>.un
 |1=>T
 |n+2=>.pr T (agz T (n+1))
def kwT:Ty:=.st (agz .str 22)
def kwV:kwT.den:=([118,97,114],[118,111,108,97,116,105,108,101],[109,117,116,101,120],[114,119,108,111,99,107],[99,111,110,100],[102,117,116,117,114,101],[116,104,114,101,97,100],[105,102],[101,108,115,101],[119,104,105,108,101],[108,111,99,107],[114,101,97,100],[119,114,105,116,101],[116,114,97,110,115,97,99,116,105,111,110],[97,116,111,109,105,99],[119,97,105,116],[110,111,116,105,102,121],[110,111,116,105,102,121,97,108,108],[115,112,97,119,110],[106,111,105,110],[115,101,116],[103,101,116])
@[simp] theorem cS {R:Type} (t f:Option R):bcase ajp t f=t:=Eq.trans rfl rfl
@[simp] theorem dc {R:Type} (t f:Option R):bcase ajq t f=f:=Eq.trans rfl rfl
@[simp] theorem chk_t {R:Type} (k:ajp=ajp->Option R):chk ajp k=k rfl:=Eq.trans rfl rfl
theorem cg {R:Type} {b:Bool} (h:b=ajp) (k:Option R):chk b (λ_=>k)=k:=by cases b with|true=>rfl|false=>cases h
@[simp] theorem cI {α R:Type} (x:α) (k:α->Option R):obind (ajn x) k=k x:=Eq.trans rfl rfl
@[simp] theorem kN {α R:Type} (x:α) (k:α->Option R):jn (ajn (.inr x)) k=k x:=Eq.trans rfl rfl
@[simp] theorem jn_l {α R:Type} (r:R) (k:α->Option R):jn (ajn (.inl r)) k=ajn r:=Eq.trans rfl rfl
theorem aa8 {σ R:Type} {f:σ->Option (σ⊕R)} {n:Nat} {x:σ} {r:R} (h:iterN f n x=ajn r) (hn:n<=18446744073709551616):fk f x=ajn r:=xx h hn
theorem uP {σ R:Type} {f:σ->Option (σ⊕R)} (n:Nat) (hn:n<18446744073709551616) (st:Nat->σ) {r:R} (h0:∀ i,i<n->f (st i)=ajn (.inl (st (i+1)))) (h1:f (st n)=ajn (.inr r)):fk f (st 0)=ajn r:=by
 have key:∀ k i,i+k=n->iterN f (k+1) (st i)=ajn r:=by
  intro k;induction k with
  |zero=>intro i hi;have:i=n:=by omega
         subst this;simp only[iterN,h1]
  |succ k I=>intro i hi;rw[iterN,h0 i (by omega)];exact I (i+1) (by omega)
 exact aa8 (key n 0 (by omega)) (by omega)
@[simp] theorem Yn {a b:Int}:cD a b=ajp↔a<=b:=by unfold cD;simp
@[simp] theorem Ym {a b:Int}:eX a b=ajp↔a<b:=by unfold eX;simp
theorem pK {a b:Int} (h:a<=b):cD a b=ajp:=Yn.2 h
theorem tL {a b:Int} (h:a<b):eX a b=ajp:=Ym.2 h
theorem Yo {a b:Int} (h:b<a):cD a b=ajq:=by unfold cD;simp;omega
theorem uR {a b:Int} (h:b<=a):eX a b=ajq:=by unfold eX;simp;omega
theorem ah6 {j:Int} {n:Nat} (h0:0<=j) (h1:j<n):eS j n=ajp:=by unfold eS;rw[pK h0,tL h1];rfl
theorem cH {j n:Nat} (h1:j<n):eS (j:Int) n=ajp:=ah6 (by omega) (by omega)
theorem vG {n b:Nat} (h0:n<=1099511627776) (h1:n*b<=1099511627776):aT n b=ajp:=by
 unfold aT;rw[bp h0,bp h1];rfl
theorem ach {n:Int} (h0: -9223372036854775808<=n) (h1:n<=9223372036854775807):be .i64 n=n:=by
 rw[FM];unfold Kx;simp only[];rw[pK h0,pK h1];rfl
theorem oz {i n:Nat} (h:i<n) (hn:n<=1099511627776):be .i64 ((i:Int)+1)=((i+1:Nat):Int):=by
 rw[ach (by omega) (by omega)];omega
theorem sI (a b:Nat):jv (aJ a) (aJ b)=((max a b:Nat):Int):=by
 unfold jv;by_cases h:a<b
 ·rw[tL (by simp;omega),if_pos rfl];simp;omega
 ·rw[uR (by simp;omega)];simp;omega
theorem sQ {T:Ty} (xs:List T.den) (i:Nat):aD xs (i:Int)=xs.getD i T.zero:=by unfold aD;simp
theorem qi (xs:List (List Int)) (i:Nat):aD (T:=.sl (.int .i64)) xs (i:Int)=xs.getD i []:=sQ (T:=.sl (.int .i64)) xs i
theorem ae5 (xs:List Int) (i:Nat):aD (T:=.int .i64) xs (i:Int)=xs.getD i 0:=sQ (T:=.int .i64) xs i
theorem fx {α:Type} (xs:List α) (i:Nat) (x:α):cw xs (i:Int) x=xs.set i x:=by unfold cw;simp
structure bW where
 pre:Tm
 post:Tm
 m:pre.ty.den->Option post.ty.den
mutual
def ad2:PV->List TV->PT Nat->PT Nat×List TV
 |.d T,l,σ=>(σ,l.drop T.size)
 |.ptr i _,l,σ=>match l with|.ptr a _::r=>(σ.set i (ajn a),r)|l=>(σ,l.drop 1)
 |.row i,l,σ=>match l with|.row a::r=>(σ.set i (ajn a),r)|l=>(σ,l.drop 1)
 |.csl i _ _,l,σ=>match l with|.csl a _ _::r=>(σ.set i (ajn a),r)|l=>(σ,l.drop 1)
 |.mp i,l,σ=>match l with|.mp a::r=>(σ.set i (ajn a),r)|l=>(σ,l.drop 1)
 |.clo _ i _,l,σ=>match l with|.clo _ [.ptr a _]::r=>(σ.set i (ajn a),r)|l=>(σ,l.drop 1)
 |.nil,l,σ=>(σ,l.drop 1)
 |.emp,l,σ=>(σ,l.drop 1)
 |.agg ps,l,σ=>Tv ps l σ
def Tv:List PV->List TV->PT Nat->PT Nat×List TV
 |[],l,σ=>(σ,l)
 |p::r,l,σ=>match ad2 p l σ with|(σ',l')=>Tv r l' σ'
end
def ahl (p:PV) (v:TV) (σ:PT Nat):PT Nat:=match p with
 |.d _=>σ
 |p=>match v.cs with|some l=>(ad2 p l σ).1|none=>σ
def Y4:List PV->List TV->PT Nat->PT Nat
 |p::r,v::vs,σ=>Y4 r vs (ahl p v σ)
 |_,_,σ=>σ
def Tw (h:aZ):Nat->List PB->PT Nat->PT Nat
 |_,[],σ=>σ
 |i,b::r,σ=>Tw h (i+1) r (match b with
  |.cells _ ps=>(match σ.get i with
   |some a=>(match h.get a with|some (.cells _ l)=>(Tv ps l σ).1|_=>σ)
   |none=>σ)
  |_=>σ)
def gq (σ:PT Nat) (i:Nat):Nat:=match σ.get i with|some a=>a|none=>0
def XK (σ:PT Nat):Nat->Nat->Nat->Option Nat
 |0,_,acc=>ajn acc
 |n+1,i,acc=>match σ.get i with
  |some a=>if aG acc a then ajo else XK σ n (i+1) (acc|||kg a)
  |none=>ajo
def idn:Nat->PT Nat
 |0=>.leaf
 |n+1=>(idn n).set n (ajn n)
def UH (σ:PT Nat):Nat->Bool
 |0=>ajp
 |n+1=>(match σ.get n with|some a=>av a n|none=>ajq)&&UH σ n
structure adf (t:Tm) where
 x:t.ty.den
 m:Nat
 σ:PT Nat
 sm:Nat
def CZ (np:Nat) (t:Tm) (vs:List TV) (h:aZ):Option (adf t):=
 O7 (Tw h 0 t.bs (Tw h 0 t.bs (Y4 t.vs vs (idn np)))) λσ=>
 match XK σ t.bs.length 0 0 with
 |some sm=>(match wH (gq σ) h t.vs vs with
  |some (x,m)=>(match ze (gq σ) h 0 t.bs with
   |some (y,m')=>if Ce (m|||m') sm&&UH σ np then ajn ⟨RF _ _ x y,m|||m',σ,sm⟩ else ajo
   |none=>ajo)
  |none=>ajo)
 |none=>ajo
def PT.updI {α:Type} (f:Nat->α->α):Nat->Nat->PT α->PT α
 |_,_,.leaf=>.leaf
 |a,b,.node v l r=>.node (match v with|some x=>ajn (f b x)|none=>ajo) (PT.updI f (2*a) (a+b) l) (PT.updI f (2*a) (2*a+b) r)
def dM (m:Nat) (h:aZ):aZ:=if av m 0 then h else PT.updI (λi b=>if aG m i then tK b else b) 1 0 h
def RM:Operand->Bool
 |.const (.agg _)=>ajp
 |_=>ajq
def eH (e:gU):Operand->Option TV
 |.tmp t=>e.get t
 |.const v=>aeb v
 |.func g=>ajn (.clo g [])
 |.global g=>match G g with|some _=>ajn (.fel kwT [kwV] 0 (Eq.refl ajp) 0)|none=>ajo
def D2 (e:gU):List Operand->Option (List TV)
 |[]=>ajn []
 |x::xs=>match eH e x with|some y=>(match D2 e xs with|some I=>ajn (y::I)|none=>ajo)|none=>ajo
def HM (cells:List TV) (e:gU):List (Nat×Nat×Operand)->Option (List TV)
 |[]=>ajn cells
 |(off,sz,x)::r=>match eH e x with
  |some v=>(match v.cs with
   |some cs=>if cs.length==sz&&dJ (off+sz) cells.length then HM (splice cells off cs) e r else ajo
   |none=>ajo)
  |none=>ajo
def Rm (l:List TV) (off sz:Nat):Bool->Option TV
 |false=>if av sz 1 then l[off]? else ajo
 |true=>if dJ (off+sz) l.length then ajn (.agg ((l.drop off).take sz)) else ajo
def dE (h:aZ) (id:Nat):Option (Bool×Nat×Nat):=match h.get id with
 |some (.rows _ p T xs)=>ajn (p,T.size,xs.length)
 |some (.dead p sz n)=>ajn (p,sz,n)
 |_=>ajo
def lenOf (h:aZ):TV->Option Nat
 |.f (.sl _) xs=>ajn (af xs)
 |.emp=>ajn 0
 |.nil=>ajn 0
 |.row id=>match dE h id with|some (_,_,n)=>ajn n|none=>ajo
 |.csl _ _ n=>ajn n
 |_=>ajo
mutual
def JE (h:aZ):TV->Bool
 |.row id=>(dE h id).isSome
 |.rtl id _=>(dE h id).isSome
 |.agg l=>jT h l
 |.tup l=>jT h l
 |.clo _ l=>jT h l
 |.f _ _=>ajp
 |.fel _ _ _ _ _=>ajp
 |.pel _ _ _ _=>ajp
 |.ptr _ _=>ajp
 |.csl _ _ _=>ajp
 |.emp=>ajp
 |.nil=>ajp
 |.mp _=>ajp
 |.undef=>ajp
 |.np=>ajp
 |.anyb=>ajp
def jT (h:aZ):List TV->Bool
 |[]=>ajp
 |x::r=>JE h x&&jT h r
end
mutual
def JG (n:Nat):TV->Bool
 |.row id=>fd id n
 |.rtl id _=>fd id n
 |.pel id _ _ _=>fd id n
 |.ptr id _=>fd id n
 |.csl id _ _=>fd id n
 |.mp id=>fd id n
 |.agg l=>qe n l
 |.tup l=>qe n l
 |.clo _ l=>qe n l
 |.f _ _=>ajp
 |.fel _ _ _ _ _=>ajp
 |.emp=>ajp
 |.nil=>ajp
 |.undef=>ajp
 |.np=>ajp
 |.anyb=>ajp
def qe (n:Nat):List TV->Bool
 |[]=>ajp
 |x::r=>JG n x&&qe n r
end
def Bw (t:Tm) (x:t.ty.den):Option (List TV×aZ):=
 match oR (λi=>i) t.vs (MF _ _ x) with
 |some vs=>(match KL (λi=>i) t.bs (Jx _ _ x) PT.leaf with
  |some h=>if jT h vs&&qe t.bs.length vs&&PT.all (λ_ b=>match b with|.cells _ l=>jT h l&&qe t.bs.length l|_=>ajp) 1 0 h then ajn (vs,h) else ajo
  |none=>ajo)
 |none=>ajo
abbrev KO (R:Type):=TV->Nat->Nat->aZ->Nat->Option R
def N5:List TV->TV
 |[x]=>x
 |l=>.tup l
def zZ:List PB->Bool
 |[]=>ajp
 |.gone::_=>ajq
 |_::r=>zZ r
def Ga:List PB->Bool
 |[]=>ajp
 |.rows _ _ _::r=>Ga r
 |_::_=>ajq
def sh (h I:aZ) (g:Nat->Nat):Nat->Bool
 |0=>ajp
 |n+1=>(match dE h (g n) with
  |some (p,s,k)=>(match dE I (g n) with|some (J,s',M)=>(p==J)&&av s s'&&av k M|none=>ajq)
  |none=>ajp)&&sh h I g n
def UY {R:Type} (con:FuncId->Option bW) (f:FuncId) (l:List TV) (h:aZ) (nx:Nat) (K:KO R):Option R:=
 match con f with
 |some c=>(match CZ 0 c.pre l h with
  |some ⟨x,m,σ,sm⟩=>(match Bw c.pre x with
   |some _=>obind (c.m x) λy=>(match Bw c.post y with
    |some _=>if dJ c.pre.bs.length c.post.bs.length&&zZ c.pre.bs then
      let np:=c.pre.bs.length
      let J:=c.post.bs.length-np
      let g:=λi=>if fd i np then gq σ i else nx+(i-np)
      (match oR g c.post.vs (MF _ _ y) with
      |some rs=>if !(av m 0)&&av c.post.bs.length 0&&(PV.tyL c.post.vs).flat then K (N5 rs) m 0 h nx else
       (match KL g c.post.bs (Jx _ _ y) (dM m h) with
       |some I=>chk (sh h I g np) λ_=>K (N5 rs) (sm|||m) (sm|||m|||(((1<<<J)-1)<<<nx)) I (nx+J)
       |none=>ajo)
      |none=>ajo) else if av c.post.bs.length 0&&Ga c.pre.bs then
      let np:=c.pre.bs.length
      let g:=λi=>if fd i np then gq σ i else nx+(i-np)
      (match oR g c.post.vs (MF _ _ y) with
      |some rs=>(match KL g c.pre.bs (Jx _ _ x) (dM m h) with
       |some I=>K (N5 rs) (sm|||m) m I nx
       |none=>ajo)
      |none=>ajo) else ajo
    |none=>ajo)
   |none=>ajo)
  |none=>ajo)
 |none=>ajo
def aei {R:Type} (op:BinOp) (x y:TV) (q:TV->Option R):Option R:=
 match x,y with
 |.f (.int k) a,.f (.int I) b=>if k==I then
   (match op with
   |.add=>q (.f (.int k) (be k (a+b)))
   |.sub=>q (.f (.int k) (be k (a-b)))
   |.mul=>q (.f (.int k) (be k (a*b)))
   |.rem=>chk (!decide ((b:Int)=0)) λ_=>q (.f (.int k) (yl a b))
   |.quo=>chk (!decide ((b:Int)=0)) λ_=>q (.f (.int k) (be k (Int.tdiv a b)))
   |.eql=>q (.f .bool (decide ((a:Int)=b)))
   |.neq=>q (.f .bool (!decide ((a:Int)=b)))
   |.lss=>q (.f .bool (eX a b))
   |.leq=>q (.f .bool (cD a b))
   |.gtr=>q (.f .bool (eX b a))
   |.geq=>q (.f .bool (cD b a))
   |_=>ajo)
  else ajo
 |.f .str a,.f .str b=>match op with
   |.eql=>q (.f .bool (decide ((a:List UInt8)=b)))
   |.neq=>q (.f .bool (!decide ((a:List UInt8)=b)))
   |_=>ajo
 |_,_=>ajo
def Vw:Bool->Ty->Bool
 |false,.int _=>ajp
 |true,.str=>ajp
 |_,_=>ajq
abbrev itK:Ty:=.st (.pr .str (.int .i64))
def isIt:Ty->Bool
 |.st (.pr .str (.int .i64))=>ajp
 |_=>ajq
def RD (K:Ty):Bool:= !isIt K
def Nx:List ((List UInt8×Int)×Unit)->List UInt8
 |[]=>[]
 |e::_=>e.1.1
def Mg:List ((List UInt8×Int)×Unit)->Nat
 |[]=>0
 |e::_=>aL e.1.2
def itE:(K V:Ty)->List (K.den×V.den)->Option (List UInt8×Nat)
 |.st (.pr .str (.int .i64)),.un,es=>ajn (Nx es,Mg es)
 |_,_,_=>ajo
def mpE:(K V:Ty)->List (K.den×V.den)->Bool
 |.un,.un,[]=>ajp
 |_,_,_=>ajq
def xa (T:Ty):List TV->Option (List T.den)
 |[]=>ajn []
 |.f S v::r=>match vk (S:=S) T v with
  |some x=>(match xa T r with|some l=>ajn (x::l)|none=>ajo)
  |none=>ajo
 |_::_=>ajo
def Y7:List TV->Option ((T:Ty)×List T.den)
 |.f T v::r=>match xa T (.f T v::r) with|some l=>ajn ⟨T,l⟩|none=>ajo
 |_=>ajo
def ah8 (n sz:Nat) (v:TV):Bool->Option ((T:Ty)×List T.den)
 |true=>ajo
 |false=>if av sz 1&& !v.isC then (match v.cs with|some l=>if av l.length n then Y7 l else ajo|none=>ajo) else ajo
def arrB (n sz off:Nat):Option gC->Option ((T:Ty)×List T.den)
 |some (.cells _ l)=>if av sz 1&&av off 0&&av l.length n then Y7 l else ajo
 |_=>ajo
def acx:Ty->Nat
 |.pr .un t=>acx t+1
 |_=>0
def Cl:Option Ty->Option Nat
 |some (.pr .un t)=>ajn (acx t)
 |_=>ajo
def acz {R:Type} (ty:TypeId) (sz bytes:Nat) (b y:TV) (h:aZ) (nx:Nat) (K:KO R):Option R:=match y with
 |.csl id2 sz2 m=>(match h.get id2 with
  |some (.cells _ l2)=>if av sz2 sz&&av l2.length (m*sz)&& !(av m 0) then (match b with
   |.csl id sz1 n=>(match h.get id with
    |some (.cells ty1 l)=>if av sz1 sz&&ty1==ty&&av l.length (n*sz)&& !(av id id2) then
      chk (aT (n+m) bytes) λ_=>K (.csl nx sz (n+m)) (kg id|||kg id2) (kg id|||kg nx) ((h.set id (ajn (.dead ajp 0 0))).set nx (ajn (.cells ty (l++l2)))) (nx+1) else ajo
    |_=>ajo)
   |.nil=>chk (aT m bytes) λ_=>K (.csl nx sz m) (kg id2) (0|||kg nx) ((dM 0 h).set nx (ajn (.cells ty l2))) (nx+1)
   |_=>ajo) else ajo
  |_=>ajo)
 |_=>ajo
def dj {R:Type} (con:FuncId->Option bW) (bL:TypeId->Option Ty) (o:SI) (e:gU) (h:aZ) (nx:Nat) (K:KO R):Option R:=
 match o with
 |.call f args=>match D2 e args with|some l=>UY con f l h nx K|none=>ajo
 |.callv x args=>match eH e x,D2 e args with
  |some (.clo f cap),ajn l=>UY con f (l++cap) h nx K
  |_,_=>ajo
 |.op s=>match s with
  |.mksl ty sz bytes z l c=>match Cl (bL ty) with
   |some n=>(match Ix z,eH e l,eH e c with
    |some J,ajn (.f (.int _) a),ajn (.f (.int _) b)=>chk (cD 0 a&&cD a b&&aT (aL b) bytes&&decide ((a:Int)=aJ n)) λ_=>K (.csl nx sz n) 0 (0|||kg nx) ((dM 0 h).set nx (ajn (.cells ty (ay n J).flatten))) (nx+1)
    |_,_,_=>ajo)
   |none=>match bL ty,eH e l,eH e c with
   |some T,ajn (.f (.int _) a),ajn (.f (.int _) b)=>if av sz T.size&&Qt z (ru T) then
     chk (cD 0 a&&cD a b&&aT (aL b) bytes) λ_=>K (.row nx) 0 (kg nx) (h.set nx (ajn (.rows ty ajq T (ay (aL a) T.zero)))) (nx+1) else ajo
   |_,_,_=>ajo
  |.bsl ty sz len z parts=>match Cl (bL ty) with
   |some _=>(match Ix z with
    |some J=>(match HM ((ay len J).flatten) e parts with
     |some cs=>if av len 0 then ajo else K (.csl nx sz len) 0 (0|||kg nx) ((dM 0 h).set nx (ajn (.cells ty cs))) (nx+1)
     |none=>ajo)
    |none=>ajo)
   |none=>match bL ty,Ix z with
   |some T,ajn J=>if av sz T.size then (match HM ((ay len J).flatten) e parts with
    |some cs=>(match xl h T len cs with
     |some (xs,m)=>K (.row nx) m (m|||kg nx) ((dM m h).set nx (ajn (.rows ty (av len 0) T xs))) (nx+1)
     |none=>ajo)
    |none=>ajo) else ajo
   |_,_=>ajo
  |.app ty sz bytes s x=>match Cl (bL ty) with
   |some _=>(match eH e s,eH e x with
    |some b,ajn y=>acz ty sz bytes b y h nx K
    |_,_=>ajo)
   |none=>match bL ty,eH e s,eH e x with
   |some T,ajn b,ajn y=>if av sz T.size then (match Cu h (.sl T) y with
    |some (I,m)=>(match b with
     |.row id=>(match h.get id with
      |some (.rows ty' p S xs)=>(match vk (S:=.sl S) (.sl T) xs with
       |some xs=>if ty'==ty&& !(aG m id) then
         chk (aT (af xs+af I) bytes) λ_=>K (.row nx) (kg id|||m) (kg id|||kg nx) ((h.set id (ajn (.dead p sz (af xs)))).set nx (ajn (.rows ty p T (xs++I)))) (nx+1)
        else ajo
       |none=>ajo)
      |_=>ajo)
     |.emp=>chk (aT (af I) bytes) λ_=>K (.row nx) m (kg nx) (h.set nx (ajn (.rows ty ajp T I))) (nx+1)
     |.nil=>chk (aT (af I) bytes) λ_=>K (.row nx) m (kg nx) (h.set nx (ajn (.rows ty ajp T I))) (nx+1)
     |_=>ajo)
    |none=>ajo) else ajo
   |_,_,_=>ajo
  |.copy sz d x=>match eH e d,eH e x with
   |some (.row id),ajn y=>(match h.get id with
    |some (.rows ty p T xs)=>if av sz T.size then (match Cu h (.sl T) y with
     |some (I,m)=>if !(aG m id)&& !p then
       K (.f (.int .i64) (aJ (gY (af I) (af xs)))) (kg id|||m) (kg id) (h.set id (ajn (.rows ty p T (Re xs I)))) nx else ajo
     |none=>ajo) else ajo
    |_=>ajo)
   |_,_=>ajo
  |.clr sz z x=>match eH e x with
   |some (.rtl id j)=>(match h.get id with
    |some (.rows ty p T xs)=>if (av sz T.size&&Qt z (ru T))&&lz z then
      chk (cD 0 j&&eX j (af xs)) λ_=>K (.tup []) (kg id) (0|||kg id) ((dM 0 h).set id (ajn (.rows ty p T (db (aL j) xs++ay (af xs-aL j) T.zero)))) nx
     else ajo
    |_=>ajo)
   |_=>ajo
  |.mv x=>match eH e x with|some v=>K v 0 0 h nx|none=>ajo
  |.pick c a b=>match eH e c with
   |some (.f .bool t)=>bcase t (match eH e a with|some v=>K v 0 0 h nx|none=>ajo) (match eH e b with|some v=>K v 0 0 h nx|none=>ajo)
   |_=>ajo
  |.alloc ty z=>match Ix z with
   |some l=>K (.ptr nx 0) 0 (kg nx) (h.set nx (ajn (.cells ty l))) (nx+1)
   |none=>ajo
  |.box ty x=>match eH e x with
   |some v=>(match v.cs with|some l=>K (.ptr nx 0) 0 (kg nx) (h.set nx (ajn (.cells ty l))) (nx+1)|none=>ajo)
   |none=>ajo
  |.build z parts=>match Ix z with
   |some l=>(match HM l e parts with|some cs=>K (.agg cs) 0 0 h nx|none=>ajo)
   |none=>ajo
  |.load sz ag x=>match eH e x with
   |some (.ptr id off)=>(match h.get id with
    |some (.cells _ l)=>(match Rm l off sz ag with|some v=>K v (kg id) 0 h nx|none=>ajo)
    |_=>ajo)
   |some (.pel id sz' j off)=>(match h.get id with
    |some (.rows _ _ T xs)=>if av sz' T.size then chk (eS j xs.length) λ_=>(match mR 40 T (aD xs j) off sz ag with|some v=>K v (kg id) 0 h nx|none=>ajo) else ajo
    |some (.cells _ l)=>(match ag with
     |true=>ajo
     |false=>if av sz 1&&av sz' 1&&av off 0 then (match Y7 l with
      |some ⟨T,xs⟩=>chk (eS j l.length) λ_=>K (.f T (aD xs j)) (kg id) 0 h nx
      |none=>ajo) else ajo)
    |_=>ajo)
   |some (.fel T xs j _ off)=>(match mR 40 T (aD xs j) off sz ag with|some v=>K v 0 0 h nx|none=>ajo)
   |_=>ajo
  |.store sz x v=>match eH e x,eH e v with
   |some (.ptr id off),ajn y=>(match h.get id with
    |some (.cells ty l)=>(match y.cs with
     |some cs=>if cs.length==sz&&dJ (off+sz) l.length then K .undef (kg id) (kg id) (h.set id (ajn (.cells ty (splice l off cs)))) nx else ajo
     |none=>ajo)
    |_=>ajo)
   |some (.pel id sz' j off),ajn y=>(match h.get id with
    |some (.rows ty p T xs)=>if av sz' T.size then chk (eS j xs.length) λ_=>(match fQ h y 40 T (aD xs j) off sz with
     |some (z,m)=>if aG m id then ajo else K .undef (m|||kg id) (m|||kg id) ((dM m h).set id (ajn (.rows ty p T (cw xs j z)))) nx
     |none=>ajo) else ajo
    |_=>ajo)
   |_,_=>ajo
  |.nilc x=>match eH e x with
   |some (.ptr id off)=>K (.ptr id off) 0 0 h nx
   |some (.pel id sz j off)=>K (.pel id sz j off) 0 0 h nx
   |some (.fel T xs j hj off)=>K (.fel T xs j hj off) 0 0 h nx
   |some (.clo g cap)=>K (.clo g cap) 0 0 h nx
   |_=>ajo
  |.bin op x y=>match eH e x,eH e y with
   |some u,ajn v=>aei op u v λr=>K r 0 0 h nx
   |_,_=>ajo
  |.eqs neg ds x y=>match pL ds,eH e x,eH e y with
   |some T,ajn u,ajn v=>if u.isC||v.isC||RM x||RM y then ajo else (match u.cs,v.cs with
    |some lu,ajn lv=>(match dU PT.leaf 40 T lu,dU PT.leaf 40 T lv with
     |some (a,_,[]),ajn (b,_,[])=>K (.f .bool (Nz T a b !=neg)) 0 0 h nx
     |_,_=>ajo)
    |_,_=>ajo)
   |_,_,_=>ajo
  |.isnil neg x=>match eH e x with
   |some .nil=>K (.f .bool (!neg)) 0 0 h nx
   |some .emp=>K .anyb 0 0 h nx
   |some (.f (.sl _) xs)=>bcase (av (af xs) 0) (K .anyb 0 0 h nx) (K (.f .bool neg) 0 0 h nx)
   |some (.row id)=>(match h.get id with
    |some (.rows _ ajq _ _)=>K (.f .bool neg) 0 0 h nx
    |_=>ajo)
   |_=>ajo
  |.eqb neg x y=>match eH e x,eH e y with
   |some (.f .bool a),ajn (.f .bool b)=>K (.f .bool ((a==b) !=neg)) 0 0 h nx
   |_,_=>ajo
  |.not x=>match eH e x with|some (.f .bool b)=>K (.f .bool (!b)) 0 0 h nx|_=>ajo
  |.conv k x=>match eH e x with|some (.f (.int _) n)=>K (.f (.int k) (be k n)) 0 0 h nx|_=>ajo
  |.slc sz x lo hi mx=>match eH e x with
   |some v=>(match lo,hi,mx with
    |none,ajn (.const (.int _ 0)),ajn (.const (.int _ 0))=>if (lenOf h v).isSome then K .emp 0 0 h nx else ajo
    |none,ajn b,ajo=>(match v,eH e b with
     |.f (.sl T) xs,ajn (.f (.int _) j)=>if av sz T.size then chk (cD 0 j&&cD j (af xs)) λ_=>K (.f (.sl T) (db (aL j) xs)) 0 0 h nx else ajo
     |.row id,ajn (.f (.int _) j)=>(match h.get id with
      |some (.rows ty p T xs)=>if av sz T.size then
        chk (cD 0 j&&eX j (af xs)) λ_=>K (.row nx) (kg id) (kg id|||kg nx) ((h.set id (ajn (.dead p sz (af xs)))).set nx (ajn (.rows ty ajq T (db (aL j) xs)))) (nx+1)
       else ajo
      |_=>ajo)
     |_,_=>ajo)
    |some b,ajo,ajo=>(match v,eH e b with
     |.f (.sl T) xs,ajn (.f (.int _) j)=>if av sz T.size then chk (cD 0 j&&cD j (af xs)) λ_=>K (.f (.sl T) (List.drop (aL j) xs)) 0 0 h nx else ajo
     |.row id,ajn (.f (.int _) j)=>(match h.get id with
      |some (.rows _ _ T xs)=>if av sz T.size then chk (cD 0 j&&eX j (af xs)) λ_=>K (.rtl id j) 0 0 h nx else ajo
      |_=>ajo)
     |_,_=>ajo)
    |_,_,_=>ajo)
   |none=>ajo
  |.fad off x=>match eH e x with
   |some (.ptr id o)=>K (.ptr id (o+off)) 0 0 h nx
   |some (.pel id sz j o)=>K (.pel id sz j (o+off)) 0 0 h nx
   |some (.fel T xs j hj o)=>K (.fel T xs j hj (o+off)) 0 0 h nx
   |_=>ajo
  |.fld off sz ag x=>match eH e x with
   |some (.agg l)=>(match Rm l off sz ag with|some v=>K v 0 0 h nx|none=>ajo)
   |some (.f T v)=>if T.one then ajo else (match mR 40 T v off sz ag with|some v=>K v 0 0 h nx|none=>ajo)
   |_=>ajo
  |.iad sz x i=>match eH e x,eH e i with
   |some (.row id),ajn (.f (.int _) j)=>(match h.get id with
    |some (.rows _ _ T xs)=>if av sz T.size then chk (eS j xs.length) λ_=>K (.pel id sz j 0) 0 0 h nx else ajo
    |_=>ajo)
   |some (.f (.sl T) xs),ajn (.f (.int _) j)=>if av sz T.size then chk (eS j (af xs)) λhj=>K (.fel T xs j hj 0) 0 0 h nx else ajo
   |some (.csl id sz' n),ajn (.f (.int _) j)=>if av sz' sz then chk (cD 0 j&&eX j n) λ_=>K (.ptr id (aL j*sz)) 0 0 h nx else ajo
   |_,_=>ajo
  |.iada n sz x i=>match eH e x,eH e i with
   |some (.ptr id off),ajn (.f (.int _) j)=>(match arrB n sz off (h.get id) with
    |some _=>chk (cD 0 j&&eX j n) λ_=>K (.pel id sz j off) 0 0 h nx
    |none=>chk (cD 0 j&&eX j n) λ_=>K (.ptr id (off+aL j*sz)) 0 0 h nx)
   |_,_=>ajo
  |.idx n sz ag x i=>match eH e x,eH e i with
   |some v,ajn (.f (.int _) j)=>(match ah8 n sz v ag with
    |some ⟨T,xs⟩=>chk (cD 0 j&&eX j n) λ_=>K (.f T (aD xs j)) 0 0 h nx
    |none=>(match v with
     |.agg l=>chk (cD 0 j&&eX j n) λ_=>(match Rm l (aL j*sz) sz ag with|some v=>K v 0 0 h nx|none=>ajo)
     |.f T v=>if T.one then ajo else chk (cD 0 j&&eX j n) λ_=>(match mR 40 T v (aL j*sz) sz ag with|some v=>K v 0 0 h nx|none=>ajo)
     |_=>ajo))
   |_,_=>ajo
  |.ext x i=>match eH e x with|some (.tup l)=>(match l[i]? with|some v=>K v 0 0 h nx|none=>ajo)|_=>ajo
  |.len x=>match eH e x with
   |some v=>(match lenOf h v with|some n=>K (.f (.int .i64) (aJ n)) 0 0 h nx|none=>ajo)
   |none=>ajo
  |.lens x=>match eH e x with
   |some (.f .str s)=>K (.f (.int .i64) (aJ (af s))) 0 0 h nx
   |_=>ajo
  |.max x y=>match eH e x,eH e y with
   |some (.f (.int k) a),ajn (.f (.int U) b)=>if k==U then K (.f (.int k) (jv a b)) 0 0 h nx else ajo
   |_,_=>ajo
  |.min x y=>match eH e x,eH e y with
   |some (.f (.int k) a),ajn (.f (.int U) b)=>if k==U then K (.f (.int k) (Fi a b)) 0 0 h nx else ajo
   |_,_=>ajo
  |.sidx x i=>match eH e x,eH e i with
   |some (.f .str s),ajn (.f (.int _) j)=>chk (eS j (af s)) λ_=>K (.f (.int .u8) (yI s j)) 0 0 h nx
   |_,_=>ajo
  |.rng x=>match eH e x with
   |some (.f .str s)=>K (.ptr nx 0) 0 (0|||kg nx) ((dM 0 h).set nx (ajn (.mp itK .un [((s,0),())]))) (nx+1)
   |_=>ajo
  |.nxt x=>match eH e x with
   |some (.ptr id 0)=>(match h.get id with
    |some (.mp K' V es)=>(match itE K' V es with
     |some (s,p)=>bcase (fd p (af s)) (chk (eX (yI s (aJ p)) 128) λ_=>K (.tup [.f .bool ajp,.f (.int .i64) (aJ p),.f (.int .i32) (yI s (aJ p))]) (kg id) (0|||kg id) ((dM 0 h).set id (ajn (.mp itK .un [((s,aJ (p+1)),())]))) nx)
       (K (.tup [.f .bool ajq]) (kg id) (0|||kg id) ((dM 0 h).set id (ajn (.mp itK .un [((s,aJ p),())]))) nx)
     |none=>ajo)
    |_=>ajo)
   |_=>ajo
  |.mkm=>K (.mp nx) 0 (0|||kg nx) ((dM 0 h).set nx (ajn (.mp .un .un []))) (nx+1)
  |.lku str z x k=>match eH e x,eH e k with
   |some (.mp id),ajn (.f KT M)=>(match h.get id with
    |some (.mp K' V es)=>if Vw str KT&&RD K' then (match mpE K' V es with
     |true=>(match cst z with|some v=>K v (kg id) 0 h nx|none=>ajo)
     |false=>(match vk (S:=KT) K' M,cst z with
      |some kv',ajn (.f Z zv)=>(match vk (S:=Z) V zv with
       |some zv'=>K (.f V (GW kv' es zv')) (kg id) 0 h nx
       |none=>ajo)
      |_,_=>ajo)) else ajo
    |_=>ajo)
   |_,_=>ajo
  |.mup str x k v=>match eH e x,eH e k,eH e v with
   |some (.mp id),ajn (.f KT M),ajn (.f VT Y)=>(match h.get id with
    |some (.mp K' V es)=>if (Vw str KT&&VT.one)&&RD K' then (match mpE K' V es with
     |true=>K .undef (kg id) (0|||kg id) ((dM 0 h).set id (ajn (.mp KT VT [(M,Y)]))) nx
     |false=>(match vk (S:=KT) K' M,vk (S:=VT) V Y with
      |some kv',ajn vv'=>K .undef (kg id) (0|||kg id) ((dM 0 h).set id (ajn (.mp K' V (Ma kv' vv' es)))) nx
      |_,_=>ajo)) else ajo
    |_=>ajo)
   |_,_,_=>ajo
  |.lenm x=>match eH e x with
   |some (.mp id)=>(match h.get id with
    |some (.mp K' _ es)=>if RD K' then K (.f (.int .i64) (aJ es.length)) (kg id) 0 h nx else ajo
    |_=>ajo)
   |_=>ajo
  |.mkf f caps=>match D2 e caps with|some l=>K (.clo f l) 0 0 h nx|none=>ajo
  |_=>ajo
def Xw {R:Type} (e:gU) (g:Option (Nat×Bool)) (K:Bool->gU->Option R):Option R:=match g with
 |none=>K ajp e
 |some (t,want)=>match e.get t with
  |some (.f .bool b)=>(match want with
   |true=>bcase b (K ajp (e.set t (ajn (.f .bool ajp)))) (K ajq (e.set t (ajn (.f .bool ajq))))
   |false=>bcase b (K ajq (e.set t (ajn (.f .bool ajp)))) (K ajp (e.set t (ajn (.f .bool ajq)))))
  |some .undef=>K ajq e
  |_=>ajo
def CQ (e:gU) (d:Option Nat) (v:TV):gU:=match d with
 |none=>e
 |some d=>e.set d (ajn v)
structure TS where
 e:gU
 h:aZ
 nx:Nat
def JB {R:Type} (con:FuncId->Option bW) (bL:TypeId->Option Ty):List qU->TS->List ZC->(TS->List ZC->Option R)->Option R
 |[],s,fs,K=>K s fs.reverse
 |o::r,s,fs,K=>Xw s.e o.guard λrun e=>match run with
  |true=>dj con bL o.op e s.h s.nx λv rd wr h nx=>if JE h v then JB con bL r ⟨CQ e o.dst v,h,nx⟩ (⟨rd,wr⟩::fs) K else ajo
  |false=>JB con bL r ⟨CQ e o.dst .undef,s.h,s.nx⟩ (⟨0,0⟩::fs) K
inductive ZK where
 |nil (k:Nat) (ty:TypeId) (T:Ty)
 |cel (k:Nat) (off:Nat) (ty:TypeId) (T:Ty)
 |mpt (k:Nat) (K V:Ty)
 |pk (k:Nat) (off:Nat) (T:Ty)
 |ren (k:Nat) (off:Nat)
mutual
def Jw (id sz n:Nat):TV->TV
 |.csl i s m=>if av i id&&av s sz&&av m n then .row id else .csl i s m
 |.agg l=>.agg (AT id sz n l)
 |.tup l=>.tup (AT id sz n l)
 |.clo g l=>.clo g (AT id sz n l)
 |.f T v=>.f T v
 |.fel T xs j h off=>.fel T xs j h off
 |.pel a b c d=>.pel a b c d
 |.ptr a b=>.ptr a b
 |.row a=>.row a
 |.rtl a j=>.rtl a j
 |.emp=>.emp
 |.nil=>.nil
 |.mp a=>.mp a
 |.undef=>.undef
 |.np=>.np
 |.anyb=>.anyb
def AT (id sz n:Nat):List TV->List TV
 |[]=>[]
 |x::r=>Jw id sz n x::AT id sz n r
end
def Vi (id sz n:Nat):gC->gC
 |.cells ty l=>.cells ty (AT id sz n l)
 |.rows ty p T xs=>.rows ty p T xs
 |.dead p s m=>.dead p s m
 |.mp K V es=>.mp K V es
def ahj (s:TS) (k off:Nat):Option (Nat×Nat×Nat):=match s.e.get k with
 |some (.csl id sz n)=>ajn (id,sz,n)
 |some (.agg l)=>(match l[off]? with|some (.csl id sz n)=>ajn (id,sz,n)|_=>ajo)
 |some (.ptr a o)=>(match s.h.get a with
  |some (.cells _ l)=>(match l[o+off]? with|some (.csl id sz n)=>ajn (id,sz,n)|_=>ajo)
  |_=>ajo)
 |_=>ajo
def pkS (s:TS) (T:Ty) (id sz n:Nat):Option TS:=match s.h.get id with
 |some (.cells ty l)=>if av sz T.size then (match xl s.h T n l with
  |some (xs,m)=>if aG m id then ajo else ajn ⟨PT.updI (λ_ v=>Jw id sz n v) 1 0 s.e,(PT.updI (λ_ b=>Vi id sz n b) 1 0 (dM m s.h)).set id (ajn (.rows ty ajq T xs)),s.nx⟩
  |none=>ajo) else ajo
 |_=>ajo
def aa9:TV->Bool
 |.nil=>ajp
 |.emp=>ajp
 |_=>ajq
def agy:Option TV->Option (Nat×Nat)
 |some (.ptr id o)=>ajn (id,o)
 |some (.csl id _ _)=>ajn (id,0)
 |_=>ajo
def Nl (s:TS):ZK->Option TS
 |.nil k ty T=>match s.e.get k with
  |some v=>if aa9 v then ajn ⟨s.e.set k (ajn (.row s.nx)),s.h.set s.nx (ajn (.rows ty ajp T [])),s.nx+1⟩ else ajn s
  |none=>ajo
 |.cel k off ty T=>match agy (s.e.get k) with
  |some (id,o)=>(match s.h.get id with
   |some (.cells cty l)=>(match l[o+off]? with
    |some v=>if aa9 v then ajn ⟨s.e,(s.h.set s.nx (ajn (.rows ty ajp T []))).set id (ajn (.cells cty (splice l (o+off) [.row s.nx]))),s.nx+1⟩ else ajn s
    |none=>ajo)
   |_=>ajo)
  |_=>ajo
 |.mpt k K V=>match s.e.get k with
  |some (.mp id)=>(match s.h.get id with
   |some (.mp K' V' es)=>(match mpE K' V' es&&RD K with
    |true=>ajn ⟨s.e,s.h.set id (ajn (.mp K V [])),s.nx⟩
    |false=>ajn s)
   |_=>ajo)
  |_=>ajo
 |.pk k off T=>match ahj s k off with
  |some (id,sz,n)=>pkS s T id sz n
  |none=>ajo
 |.ren k off=>match s.e.get k with
  |some (.ptr b o)=>(match s.h.get b with
   |some (.cells cty l)=>(match l[o+off]? with
    |some (.row id)=>(match s.h.get id with
     |some (.rows ty p T xs)=>ajn ⟨s.e,((s.h.set id (ajn (.dead p T.size xs.length))).set s.nx (ajn (.rows ty p T xs))).set b (ajn (.cells cty (splice l (o+off) [.row s.nx]))),s.nx+1⟩
     |_=>ajo)
    |_=>ajo)
   |_=>ajo)
  |some (.row id)=>(match s.h.get id with
   |some (.rows ty p T xs)=>ajn ⟨s.e.set k (ajn (.row s.nx)),(s.h.set id (ajn (.dead p T.size xs.length))).set s.nx (ajn (.rows ty p T xs)),s.nx+1⟩
   |_=>ajo)
  |_=>ajo
def Wx (s:TS):List ZK->Option TS
 |[]=>ajn s
 |a::r=>match Nl s a with|some s'=>Wx s' r|none=>ajo
structure Xq where
 keep:List Nat
 ks:List Nat
 t:Tm
 pre:List ZK
abbrev Xq.D (A:Xq):Type:=A.t.ty.den
mutual
def sJ:TV->Bool
 |.f _ _=>ajp
 |.fel _ _ _ _ _=>ajp
 |.emp=>ajp
 |.nil=>ajp
 |.undef=>ajp
 |.np=>ajp
 |.anyb=>ajp
 |.agg l=>ph l
 |.tup l=>ph l
 |.pel _ _ _ _=>ajq
 |.ptr _ _=>ajq
 |.csl _ _ _=>ajq
 |.row _=>ajq
 |.rtl _ _=>ajq
 |.mp _=>ajq
 |.clo _ _=>ajq
def ph:List TV->Bool
 |[]=>ajp
 |x::r=>sJ x&&ph r
end
def Bv (am:Nat) (e:gU):List Nat->gU
 |[]=>PT.leaf
 |k::r=>match e.get k with|some v=>if sJ v&& !(aG am k) then (Bv am e r).set k (ajn v) else Bv am e r|none=>Bv am e r
def mL (e:gU):List Nat->Option (List TV)
 |[]=>ajn []
 |k::r=>match e.get k with|some v=>(match mL e r with|some l=>ajn (v::l)|none=>ajo)|none=>ajo
def Vk (e:gU):List Nat->List TV->gU
 |k::r,v::l=>(Vk e r l).set k (ajn v)
 |_,_=>e
def FX (am:Nat) (e0 e:gU):List Nat->Bool
 |[]=>ajp
 |k::r=>(match e0.get k with
  |some v=> !(sJ v)||aG am k||(match e.get k with|some _=>ajp|none=>ajq)
  |none=>ajp)&&FX am e0 e r
def J4 (np:Nat) (A:Xq) (am:Nat) (I s:TS):Option A.D:=if dJ np A.t.bs.length&&FX am I.e s.e A.keep then (match Wx s A.pre with
 |some s=>(match mL s.e A.ks with
  |some vs=>(match CZ np A.t vs s.h with
   |some ⟨x,_,_,_⟩=>ajn x
   |none=>ajo)
  |none=>ajo)
 |none=>ajo) else ajo
def Fb (A:Xq) (am:Nat) (s:TS) (x:A.D):Option TS:=match Bw A.t x with
 |some (vs,h)=>if av vs.length A.ks.length then ajn ⟨Vk (Bv am s.e A.keep) A.ks vs,h,A.t.bs.length⟩ else ajo
 |none=>ajo
inductive TC where
 |skip
 |reg (ops:List qU) (prs:List (Nat×Nat))
 |seq (a b:TC)
 |jseq (A:Xq) (a b:TC)
 |cond (c:Nat) (a b:TC)
 |block (id:Nat) (b:TC)
 |jblock (A:Xq) (id:Nat) (b:TC)
 |loop (A:Xq) (b:TC)
 |exit (id:Nat)
 |ret
 |defer (f:FuncId) (caps:List Operand) (t:Nat)
 |adj (l:List ZK) (c:TC)
 |split (k off lo n:Nat) (c:TC)
 |unl (n:Nat) (b:TC)
 |bad
def Nh:List qU->Nat->Nat
 |[],acc=>acc
 |o::r,acc=>Nh r (match o.dst with|some d=>acc|||kg d|none=>acc)
def JH:List Nat->Nat->Nat
 |[],acc=>acc
 |k::r,acc=>JH r (acc|||kg k)
def m8:List ZK->Nat->Nat
 |[],acc=>acc
 |.nil k _ _::r,acc=>m8 r (acc|||kg k)
 |.cel _ _ _ _::r,acc=>m8 r acc
 |.mpt _ _ _::r,acc=>m8 r acc
 |.pk _ _ _::r,acc=>m8 r acc
 |.ren k _::r,acc=>m8 r (acc|||kg k)
def TC.asg:TC->Nat->Nat
 |.reg ops _,acc=>Nh ops acc
 |.seq a b,acc=>b.asg (a.asg acc)
 |.jseq A a b,acc=>b.asg (a.asg (JH A.ks acc))
 |.cond _ a b,acc=>b.asg (a.asg acc)
 |.block _ b,acc=>b.asg acc
 |.jblock A _ b,acc=>b.asg (JH A.ks acc)
 |.loop A b,acc=>b.asg (JH A.ks acc)
 |.defer _ _ t,acc=>acc|||kg t
 |.adj l c,acc=>c.asg (m8 l acc)
 |.split _ _ _ _ c,acc=>c.asg acc
 |.unl _ b,acc=>b.asg acc
 |.skip,acc=>acc
 |.exit _,acc=>acc
 |.ret,acc=>acc
 |.bad,acc=>acc
inductive ZB where
 |j (A:Xq)
 |a (l:List ZK)
 |s (k off lo n:Nat)
 |u (n:Nat)
def Gg (H:PT ZB) (n:Nat) (c:TC):TC:=match H.get n with|some (.a l)=>.adj l c|some (.s k off lo m)=>.split k off lo m c|_=>c
def Ch (H:PT ZB):SC->Nat->TC×Nat
 |.skip,n=>(Gg H n .skip,n+1)
 |.reg o p,n=>(Gg H n (.reg o p),n+1)
 |.seq a b,n=>match Ch H a (n+1) with
  |(a',k)=>(match Ch H b k with|(b',I)=>((match H.get n with|some (.j A)=>.jseq A a' b'|_=>.seq a' b'),I))
 |.cond c a b,n=>match Ch H a (n+1) with
  |(a',k)=>(match Ch H b k with|(b',I)=>(Gg H n (.cond c a' b'),I))
 |.block id b,n=>match Ch H b (n+1) with|(b',k)=>((match H.get n with|some (.j A)=>.jblock A id b'|_=>.block id b'),k)
 |.loop b,n=>match Ch H b (n+1) with|(b',k)=>((match H.get n with|some (.j A)=>.loop A b'|some (.u m)=>.unl m b'|_=>.bad),k)
 |.exit id,n=>(Gg H n (.exit id),n+1)
 |.ret,n=>(Gg H n .ret,n+1)
 |.defer f c t,n=>(.defer f c t,n+1)
 |.bad,n=>(.bad,n+1)
def Yi (s:TS) (k off:Nat):Option (IntKind×Int):=match s.e.get k with
 |some (.f (.int kd) v)=>ajn (kd,v)
 |some (.ptr a o)=>(match s.h.get a with
  |some (.cells _ l)=>(match l[o+off]? with|some (.f (.int kd) v)=>ajn (kd,v)|_=>ajo)
  |_=>ajo)
 |_=>ajo
def Rq (s:TS) (k off:Nat) (kd:IntKind) (v:Int):Option TS:=match s.e.get k with
 |some (.f (.int _) _)=>ajn ⟨s.e.set k (ajn (.f (.int kd) v)),s.h,s.nx⟩
 |some (.ptr a o)=>(match s.h.get a with
  |some (.cells ty l)=>ajn ⟨s.e,s.h.set a (ajn (.cells ty (splice l (o+off) [.f (.int kd) v]))),s.nx⟩
  |_=>ajo)
 |_=>ajo
def spl {R:Type} (v:Int) (f:Nat->Option R):Nat->Nat->Option R
 |_,0=>ajo
 |i,m+1=>bcase (decide ((v:Int)=aJ i)) (f i) (spl v f (i+1) m)
def ZU {R:Type} (f:TS->(Ex->TS->Option R)->Option R):Nat->TS->(Ex->TS->Option R)->Option R
 |0,_,_=>ajo
 |m+1,s,K=>f s λex s'=>match ex with
  |.normal=>ZU f m s' K
  |ex=>K ex s'
def nV {R:Type} (np:Nat) (con:FuncId->Option bW) (bL:TypeId->Option Ty) (inert:FuncId->Bool):TC->TS->(Ex->TS->Option R)->Option R
 |.skip,s,K=>K .normal s
 |.reg ops prs,s,K=>JB con bL ops s [] λs' fs=>if DZ fs prs then K .normal s' else ajo
 |.seq a b,s,K=>nV np con bL inert a s λex s'=>match ex with|.normal=>nV np con bL inert b s' K|ex=>K ex s'
 |.jseq A a b,s,K=>jn (nV np con bL inert a s λex s'=>match ex with
   |.normal=>obind (J4 np A (a.asg 0) s s') λx=>ajn (.inr x)
   |ex=>obind (K ex s') λr=>ajn (.inl r)) λx=>(match Fb A (a.asg 0) s x with|some s'=>nV np con bL inert b s' K|none=>ajo)
 |.cond c a b,s,K=>match s.e.get c with
  |some (.f .bool t)=>bcase t (nV np con bL inert a s K) (nV np con bL inert b s K)
  |some .anyb=>DH (nV np con bL inert a s K) (nV np con bL inert b s K)
  |_=>ajo
 |.block id b,s,K=>nV np con bL inert b s λex s'=>match ex with
  |.exit i=>if av i id then K .normal s' else K (.exit i) s'
  |ex=>K ex s'
 |.jblock A id b,s,K=>jn (nV np con bL inert b s λex s'=>match ex with
   |.normal=>obind (J4 np A (b.asg 0) s s') λx=>ajn (.inr x)
   |.exit i=>if av i id then obind (J4 np A (b.asg 0) s s') λx=>ajn (.inr x) else obind (K (.exit i) s') λr=>ajn (.inl r)
   |.ret=>obind (K .ret s') λr=>ajn (.inl r)) λx=>(match Fb A (b.asg 0) s x with|some s'=>K .normal s'|none=>ajo)
 |.loop A b,s,K=>obind (J4 np A (b.asg 0) s s) λx=>iter (λx=>match Fb A (b.asg 0) s x with
   |some s'=>nV np con bL inert b s' λex s'=>(match ex with
    |.normal=>obind (J4 np A (b.asg 0) s s') λy=>ajn (.inl y)
    |ex=>obind (K ex s') λr=>ajn (.inr r))
   |none=>ajo) x
 |.exit id,s,K=>K (.exit id) s
 |.ret,s,K=>K .ret s
 |.defer f caps t,s,K=>match D2 s.e caps with
  |some l=>if inert f then K .normal ⟨s.e.set t (ajn (.clo f l)),s.h,s.nx⟩ else ajo
  |none=>ajo
 |.adj l c,s,K=>match Wx s l with|some s'=>nV np con bL inert c s' K|none=>ajo
 |.split k off lo n c,s,K=>match Yi s k off with
  |some (kd,v)=>spl v (λi=>match Rq s k off kd (aJ i) with|some s'=>nV np con bL inert c s' K|none=>ajo) lo n
  |none=>ajo
 |.unl n b,s,K=>ZU (λs K=>nV np con bL inert b s K) n s K
 |.bad,_,_=>ajo
def I0:Nat->List TV->gU
 |_,[]=>PT.leaf
 |k,x::r=>(I0 (k+1) r).set k (ajn x)
def rvT (s:TS):RV->Option TV
 |.tmp t=>s.e.get t
 |.cell a sz ag=>match s.e.get a with
  |some (.ptr id off)=>(match s.h.get id with|some (.cells _ l)=>Rm l off sz ag|_=>ajo)
  |_=>ajo
def Rs (s:TS):List RV->Option (List TV)
 |[]=>ajn []
 |x::r=>match rvT s x with|some v=>(match Rs s r with|some l=>ajn (v::l)|none=>ajo)|none=>ajo
structure FT where
 pre:Tm
 post:Tm
 hints:PT ZB
def XG (con:FuncId->Option bW) (bL:TypeId->Option Ty) (inert:FuncId->Bool) (F:Option SF) (D:FT) (x:D.pre.ty.den):Option D.post.ty.den:=
 match F with
 |some I=>(match Bw D.pre x with
  |some (args,h)=>if dJ args.length I.nt&&dJ D.pre.bs.length D.post.bs.length then
    nV D.pre.bs.length con bL inert (Ch D.hints I.code 0).1 ⟨I0 0 args,h,D.pre.bs.length⟩ λex s=>(match ex with
    |.exit _=>ajo
    |_=>(match Rs s I.res with
     |some l=>(match CZ D.pre.bs.length D.post l s.h with
      |some ⟨y,_,_,_⟩=>(match Bw D.post y with|some _=>ajn y|none=>ajo)
      |none=>ajo)
     |none=>ajo)) else ajo
  |none=>ajo)
 |none=>ajo
abbrev aH:Ty:=(.int .i64)
abbrev jI:Ty:=(.st (.pr .str (.pr aH (.pr aH (.pr .bool aH)))))
abbrev pI:Ty:=(.st (.pr .str .bool))
abbrev kC:Ty:=(.st (.pr .str aH))
abbrev ne:Ty:=(.st (.pr aH (.pr aH aH)))
abbrev mT:Ty:=(.st (.pr (.sl jI) (.pr (.sl pI) (.pr (.sl kC) (.pr (.sl .str) (.pr (.sl .str) (.sl ne)))))))
abbrev uu:Ty:=(.sl (.sl aH))
abbrev dR:Ty:=(.st (.pr aH (.pr (.sl aH) (.pr uu aH))))
abbrev pG:Ty:=(.st (.pr aH (.pr aH (.pr aH (.pr aH (.pr aH aH))))))
abbrev dt:Ty:=(.st (.pr aH (.sl aH)))
abbrev oM:Ty:=(.sl .bool)
abbrev gm:Ty:=(.st (.pr aH (.pr aH .bool)))
abbrev FG:Ty:=(.st (.pr (.sl dt) (.pr aH (.pr oM (.sl gm)))))
abbrev ip:Ty:=(.st (.pr aH (.pr aH (.pr aH (.pr aH (.pr aH (.pr (.sl aH) (.sl aH))))))))
abbrev E8:Ty:=(.st (.pr aH (.pr aH (.pr .str (.pr aH (.pr aH .str))))))
abbrev rn:Ty:=(.st (.pr .str (.pr aH (.pr (.sl .str) (.sl .sm)))))
abbrev LG:Ty:=(.st (.pr (.sl E8) (.sl rn)))
abbrev vu:Ty:=(.st (.pr aH (.sl pG)))
abbrev sZ:Ty:=(.st (.pr mT (.sl vu)))
abbrev uv:Ty:=(.st (.pr FG (.pr (.sl aH) (.pr (.sl aH) (.sl dR)))))
abbrev gW:Ty:=(.st (.pr FG (.pr (.sl aH) (.pr (.sl aH) (.sl aH)))))
abbrev CA:Ty:=(.sl (.int .u8))
abbrev xc:Ty:=(.st (.pr CA aH))
abbrev gV:Ty:=(.st (.pr aH aH))
abbrev nE:Ty:=(.st (.pr mT (.sl ip)))
abbrev QD:=((List UInt8)×Int×Int×Bool×Int)
abbrev fY:=(List QD)
abbrev fH:=(List ((List UInt8)×Bool))
abbrev eh:=((List UInt8)×Int)
abbrev bP:=(List (List UInt8))
abbrev dv:=(fY×fH×(List eh)×bP×bP×List (Int×Int×Int))
abbrev qn:=(fY×fH×(List eh)×bP×bP×(List (Int×Int×Int))×bP×Int×Int)
abbrev fG:=(List (Int×List Int))
abbrev cQ:=(Int×Int×Bool)
abbrev nU:=(fG×Int×(List Bool)×List cQ)
abbrev sd:=(Int×(List Int)×(List (List Int))×Int)
abbrev jb:=(Int×Int×Int×Int×Int×Int)
abbrev gk:=(Int×Int×Int×Int×Int×(List Int)×List Int)
abbrev Ze:=(Int×Int×(List UInt8)×Int×Int×List UInt8)
abbrev qF:=(List Ze)
abbrev qE:=((List UInt8)×Int×bP×List Sx)
abbrev xf:=(Int×Int×Bool×Bool×Bool×Bool)
abbrev yd:=(dv×List (Int×List jb))
abbrev uq:=(Int×Int×Int×Int×Int)
abbrev dH:=(nU×(List Int)×(List Int)×List Int)
abbrev eL:=((List Int)×Int)
abbrev vp:=(nU×(List Int)×(List Int)×List sd)
abbrev FD:=(Int×Int×(List UInt8)×(List UInt8)×Int×Int×List UInt8)
abbrev pH:=(qF×(List qE)×Int)
abbrev QE:=(Bool×List (List UInt8))
abbrev Ya23:=(Int×Int×sd×sd×Int×(List Int)×(List (List Int))×Int)
abbrev Ya24:=(sd×Int×Int×sd×Int×(List Int)×(List (List Int))×Int)
abbrev Ya25:=(sd×sd×Int×Int×Int×(List Int)×(List (List Int))×Int)
abbrev Zg:=((List Sx)×xf×eL×Bool×List (List UInt8))
abbrev Ya27:=(Int×Int×sd×Int×(List Int)×(List (List Int))×Int)
abbrev Ya28:=(sd×Int×Int×Int×(List Int)×(List (List Int))×Int)
abbrev Ya29:=(Int×Int×Int×(List Int)×(List (List Int))×Int)
abbrev Wz:=(Int×xf×eL×Bool×List (List UInt8))
abbrev Zf:=(Sx×xf×eL×Bool×List (List UInt8))
abbrev abk:=((Int×Int)×pH×(Bool×List Sx)×bP×List (List UInt8))
abbrev Kp:=(Sx×qn×List jb)
abbrev Cx:=(vp×gk×Bool)
abbrev Zd:=((Sx×Int×Int×Int)×qn×List jb)
abbrev abj:=((Int×Int)×xf×eL×Bool×List (List UInt8))
abbrev abi:=(eh×xf×eL×Bool×List (List UInt8))
abbrev Wy:=(xf×eL×QE×List Sx)
abbrev abh:=(Xp×xf×eL×Bool×List (List UInt8))
abbrev Ya42:=(sd×sd×sd×Int×Int)
abbrev Zc:=((List Sx)×qn×List jb)
abbrev aP {α:Type} (l:List α):Int:=aJ (af l)
abbrev ca (n:Int):Int:=be .i64 (n+1)
abbrev ax {R α:Type} (x:α):Option (R⊕α):=ajn (bM x)
abbrev cu {R α:Type} (x:R):Option (R⊕α):=ajn (nG x)
abbrev bw {R:Type} (T:Ty) (l:List T.den) (j:Int) (k:T.den->Option R):Option R:=chk (eS j (af l)) λ_=>lt (aD (T:=T) l j) k
abbrev kf {R:Type} (T:Ty) (l:List T.den) (j:Int) (k:T.den->Option R):Option R:=chk (eS j (af l)) λ_=>chk (eS j (af l)) λ_=>lt (aD (T:=T) l j) k
abbrev vA {R α:Type} (j:Int) (l:List α) (k:Option R):Option R:=chk (eS j (af l)) λ_=>k
abbrev bn {R:Type} (b:Bool) (k:Option R):Option R:=chk b λ_=>k
abbrev aX {R:Type} (a b:Int) (t f:Option R):Option R:=bcase (decide (a=b)) t f
abbrev ik {R:Type} (a b:Int) (t f:Option R):Option R:=bcase (!decide (a=b)) t f
abbrev bk {R:Type} (a b:Int) (t f:Option R):Option R:=bcase (eX a b) t f
abbrev jf {R:Type} (a b:Int) (t f:Option R):Option R:=bcase (cD a b) t f
def ck {R:Type} (b:Bool) (k:Option R):Option R:=chk b λ_=>chk b λ_=>k
def dw (s:Sx):Sx:=mD (Sx.op s,Sx.line s,Sx.name s,Sx.arg s,Sx.index s,du (Xp.op (Sx.expr s),Xp.n (Sx.expr s),Xp.name (Sx.expr s),Xp.l (Sx.expr s)),Sx.body s,Sx.els s)
def jC (x:Unit):Option bP:=
 (ajn ([[118,97,114],[118,111,108,97,116,105,108,101],[109,117,116,101,120],[114,119,108,111,99,107],[99,111,110,100],[102,117,116,117,114,101],[116,104,114,101,97,100],[105,102],[101,108,115,101],[119,104,105,108,101],[108,111,99,107],[114,101,97,100],[119,114,105,116,101],[116,114,97,110,115,97,99,116,105,111,110],[97,116,111,109,105,99],[119,97,105,116],[110,111,116,105,102,121],[110,111,116,105,102,121,97,108,108],[115,112,97,119,110],[106,111,105,110],[115,101,116],[103,101,116]]))
def iM (x:List UInt8):Option (Bool):=
 (obind (jC ()) λJ=>(iter (σ:=Int) (λI=>(bk I (aP J) (bw (.str) J I λM=>(bcase (decide ((M:List UInt8)=x)) (ax ajp) (cu (ca I)))) (ax ajq))) 0))
def kj (x:Int):Option (Bool):=
 (jn (α:=Bool) (jf 97 x (jf x 122 (ax ajp) (jf 65 x (ax (cD x 90)) (ax ajq))) (jf 65 x (ax (cD x 90)) (ax ajq))) λI=>(ajn I))
def pZ (x:Int):Option (Bool):=
 (jn (α:=Bool) (jf 48 x (ax (cD x 57)) (ax ajq)) λI=>(ajn I))
def ol (x:Int):Option (Bool):=
 (jn (α:=Bool) (obind (kj x) λJ=>(bcase J (ax ajp) (obind (pZ x) λI=>(bcase I (ax ajp) (ax (decide ((x:Int)=95))))))) λM=>(ajn M))
def ec (x:List UInt8):Option (Bool):=
 (jn (α:=Bool) (bk (aP x) 1 (ax ajp) (bk 12 (aP x) (ax ajp) (vA 0 x (obind (kj (yI x 0)) λU=>(bcase (!U) (ax ajp) (obind (iM x) λM=>(ax M))))))) λY=>(bcase Y (ajn ajq) (iter (σ:=Int) (λI=>(bk I (aP x) (vA I x (obind (ol (yI x I)) λJ=>(bcase (!J) (ax ajq) (cu (ca I))))) (ax ajp))) 0)))
def eQ (x:Bool):Option (Int):=
 (bcase x (ajn 1) (ajn 0))
def sC (x:Int×Int):Option (Int×Bool):=
 (aX x.1 4 (ajn ((be .i64 (0-x.2)),ajp)) (aX x.1 5 (obind (eQ (decide ((x.2:Int)=0))) λI=>(ajn (I,ajp))) (ajn (0,ajq))))
def qK (x:Int×Int×Int):Option (Int×Bool):=
 (aX x.1 6 (ajn ((be .i64 (x.2.1+x.2.2)),ajp)) (aX x.1 7 (ajn ((be .i64 (x.2.1-x.2.2)),ajp)) (aX x.1 8 (ajn ((be .i64 (x.2.1*x.2.2)),ajp)) (aX x.1 9 (aX x.2.2 0 (ajn (0,ajp)) (bn (!decide ((x.2.2:Int)=0)) (ajn ((be .i64 (Int.tdiv x.2.1 x.2.2)),ajp)))) (aX x.1 10 (aX x.2.2 0 (ajn (0,ajp)) (bn (!decide ((x.2.2:Int)=0)) (ajn ((yl x.2.1 x.2.2),ajp)))) (aX x.1 11 (obind (eQ (decide ((x.2.1:Int)=x.2.2))) λy1=>(ajn (y1,ajp))) (aX x.1 12 (obind (eQ (!decide ((x.2.1:Int)=x.2.2))) λy2=>(ajn (y2,ajp))) (aX x.1 13 (obind (eQ (eX x.2.1 x.2.2)) λy3=>(ajn (y3,ajp))) (aX x.1 14 (obind (eQ (cD x.2.1 x.2.2)) λy4=>(ajn (y4,ajp))) (aX x.1 15 (obind (eQ (eX x.2.2 x.2.1)) λy5=>(ajn (y5,ajp))) (aX x.1 16 (obind (eQ (cD x.2.2 x.2.1)) λZ=>(ajn (Z,ajp))) (aX x.1 17 (jn (α:=Int×Bool) (ik x.2.1 0 (obind (eQ (!decide ((x.2.2:Int)=0))) λY=>(ax (Y,ajp))) (obind (eQ ajq) λU=>(ax (U,ajp)))) λx7=>(ajn x7)) (aX x.1 18 (jn (α:=Int×Bool) (ik x.2.1 0 (obind (eQ ajp) λJ=>(ax (J,ajp))) (obind (eQ (!decide ((x.2.2:Int)=0))) λI=>(ax (I,ajp)))) λM=>(ajn M)) (ajn (0,ajq)))))))))))))))
def pX (x:Int×Int):Option (Int):=
 (bk x.2 1 (ajn 0) (bn (!decide ((x.2:Int)=0)) (jn (α:=Int) (bk (yl x.1 x.2) 0 (ax (be .i64 ((yl x.1 x.2)+x.2))) (ax (yl x.1 x.2))) λI=>(ajn I))))
def kZ (x:Int):Option (Int):=
 (jn (α:=Bool) (aX x 1 (ax ajp) (ax (decide ((x:Int)=2)))) λM=>(bcase M (ajn 0) (jn (α:=Bool) (jf 3 x (ax (cD x 5)) (ax ajq)) λJ=>(bcase J (ajn 1) (jn (α:=Bool) (jf 6 x (ax (cD x 18)) (ax ajq)) λI=>(bcase I (ajn 2) (ajn (-1))))))))
def kQ (rr02_ShapedExpr:Xp->Option (Bool)) (x:Xp):Option (Bool):=
 (jn (α:=Bool×Xp) (aX (Xp.op x) 2 (ax (ajp,du ((Xp.op x),(Xp.n x),(Xp.name x),(Xp.l x)))) (ax ((decide (((Xp.op x):Int)=3)),du ((Xp.op x),(Xp.n x),(Xp.name x),(Xp.l x))))) λI=>(jn (α:=Bool×Xp) (obind (kZ (Xp.op I.2)) λy3=>(ik y3 (aJ (af (Xp.l I.2))) (ax (ajp,du ((Xp.op I.2),(Xp.n I.2),(Xp.name I.2),(Xp.l I.2)))) (bcase ((I.1==(!decide (((Xp.name I.2):List UInt8)=([])))) !=ajp) (ax (ajp,du ((Xp.op I.2),(Xp.n I.2),(Xp.name I.2),(Xp.l I.2)))) (bcase I.1 (obind (ec (Xp.name I.2)) λZ=>(bcase (!Z) (ax (ajp,du ((Xp.op I.2),(Xp.n I.2),(Xp.name I.2),(Xp.l I.2)))) (bk (Xp.n I.2) 0 (ax (ajp,du ((Xp.op I.2),(Xp.n I.2),(Xp.name I.2),(Xp.l I.2)))) (ik (Xp.op I.2) 1 (ax ((!decide (((Xp.n I.2):Int)=0)),du ((Xp.op I.2),(Xp.n I.2),(Xp.name I.2),(Xp.l I.2)))) (ax (ajq,du ((Xp.op I.2),(Xp.n I.2),(Xp.name I.2),(Xp.l I.2)))))))) (bk (Xp.n I.2) 0 (ax (ajp,du ((Xp.op I.2),(Xp.n I.2),(Xp.name I.2),(Xp.l I.2)))) (ik (Xp.op I.2) 1 (ax ((!decide (((Xp.n I.2):Int)=0)),du ((Xp.op I.2),(Xp.n I.2),(Xp.name I.2),(Xp.l I.2)))) (ax (ajq,du ((Xp.op I.2),(Xp.n I.2),(Xp.name I.2),(Xp.l I.2)))))))))) λM=>(bcase M.1 (ajn ajq) (iter (σ:=Int×Xp) (λJ=>(bk J.1 (aJ (af (Xp.l J.2))) (bw (.ex) (Xp.l J.2) J.1 λU=>(obind (rr02_ShapedExpr U) λY=>(bcase (!Y) (ax ajq) (cu ((ca J.1),du ((Xp.op J.2),(Xp.n J.2),(Xp.name J.2),(Xp.l J.2))))))) (ax ajp))) (0,du ((Xp.op M.2),(Xp.n M.2),(Xp.name M.2),(Xp.l M.2)))))))
def gj:Nat->Xp->Option (Bool)
 |0,_=>ajo
 |n+1,x=>kQ (gj n) x
theorem qP (n:Nat) (x:Xp):gj (n+1) x=kQ (gj n) x:=rfl
def ig (x:Xp):Option (Bool):=gj fuel x
def oh (x:Xp):Option (Bool):=
 (jn (α:=Bool) (aX (Xp.op x) 0 (aX (Xp.n x) 0 (bcase (decide (((Xp.name x):List UInt8)=([]))) (ax (decide (((aJ (af (Xp.l x))):Int)=0))) (ax ajq)) (ax ajq)) (ax ajq)) λI=>(ajn I))
def jp (rr02_ShapedStmt:Sx->Option (Bool)) (rr02_ShapedStmts:(List Sx)->Option (Bool)) (x:Sx):Option (Bool):=
 (jn (α:=Bool×Sx) (bk (Sx.op x) 1 (ax (ajp,dw x)) (ax ((eX 15 (Sx.op x)),dw x))) λx1=>(bcase x1.1 (ajn ajq) (jn (α:=Bool×Sx) (aX (Sx.op x1.2) 2 (ax (ajp,dw x1.2)) (aX (Sx.op x1.2) 3 (ax (ajp,dw x1.2)) (aX (Sx.op x1.2) 7 (ax (ajp,dw x1.2)) (ax ((decide (((Sx.op x1.2):Int)=8)),dw x1.2))))) λY=>(jn (α:=Bool×Sx) (bcase Y.1 (bcase (!decide (((Sx.name Y.2):List UInt8)=([]))) (ax (ajp,dw Y.2)) (bcase (!Y.1) (obind (ec (Sx.name Y.2)) λy4=>(ax ((!y4),dw Y.2))) (ax (ajq,dw Y.2)))) (bcase (!Y.1) (obind (ec (Sx.name Y.2)) λy5=>(ax ((!y5),dw Y.2))) (ax (ajq,dw Y.2)))) λU=>(bcase U.1 (ajn ajq) (jn (α:=Bool×Sx) (aX (Sx.op U.2) 15 (obind (ec (Sx.arg U.2)) λy7=>(bcase (!y7) (ax (ajp,dw U.2)) (ik (Sx.op U.2) 15 (ax ((!decide (((Sx.arg U.2):List UInt8)=([]))),dw U.2)) (ax (ajq,dw U.2))))) (ik (Sx.op U.2) 15 (ax ((!decide (((Sx.arg U.2):List UInt8)=([]))),dw U.2)) (ax (ajq,dw U.2)))) λM=>(bcase M.1 (ajn ajq) (jn (α:=Bool×Sx) (bk 1 (aJ (af (Sx.index M.2))) (ax (ajp,dw M.2)) (ik (Sx.op M.2) 1 (bk 0 (aJ (af (Sx.index M.2))) (ax (ajp,dw M.2)) (aX (aJ (af (Sx.index M.2))) 1 (bw (.ex) (Sx.index M.2) 0 λz9=>(obind (ig z9) λy10=>(ax ((!y10),dw M.2)))) (ax (ajq,dw M.2)))) (aX (aJ (af (Sx.index M.2))) 1 (bw (.ex) (Sx.index M.2) 0 λz11=>(obind (ig z11) λy12=>(ax ((!y12),dw M.2)))) (ax (ajq,dw M.2))))) λx8=>(bcase x8.1 (ajn ajq) (jn (α:=Bool×Sx) (aX (Sx.op x8.2) 1 (ax (ajp,dw x8.2)) (aX (Sx.op x8.2) 2 (ax (ajp,dw x8.2)) (aX (Sx.op x8.2) 3 (ax (ajp,dw x8.2)) (ax ((decide (((Sx.op x8.2):Int)=14)),dw x8.2))))) λI=>(jn (α:=Bool×Sx) (bcase I.1 (obind (ig (du ((Xp.op (Sx.expr I.2)),(Xp.n (Sx.expr I.2)),(Xp.name (Sx.expr I.2)),(Xp.l (Sx.expr I.2))))) λy15=>(bcase (!y15) (ax (ajp,dw I.2)) (bcase (!I.1) (obind (oh (du ((Xp.op (Sx.expr I.2)),(Xp.n (Sx.expr I.2)),(Xp.name (Sx.expr I.2)),(Xp.l (Sx.expr I.2))))) λy16=>(ax ((!y16),dw I.2))) (ax (ajq,dw I.2))))) (bcase (!I.1) (obind (oh (du ((Xp.op (Sx.expr I.2)),(Xp.n (Sx.expr I.2)),(Xp.name (Sx.expr I.2)),(Xp.l (Sx.expr I.2))))) λy17=>(ax ((!y17),dw I.2))) (ax (ajq,dw I.2)))) λZ=>(bcase Z.1 (ajn ajq) (jn (α:=Bool×Sx) (jf 2 (Sx.op Z.2) (ax ((cD (Sx.op Z.2) 8),dw Z.2)) (ax (ajq,dw Z.2))) λJ=>(jn (α:=Bool×Sx) (bcase (!J.1) (bk 0 (aJ (af (Sx.body J.2))) (ax (ajp,dw J.2)) (ik (Sx.op J.2) 2 (ax ((eX 0 (aJ (af (Sx.els J.2)))),dw J.2)) (ax (ajq,dw J.2)))) (ik (Sx.op J.2) 2 (ax ((eX 0 (aJ (af (Sx.els J.2)))),dw J.2)) (ax (ajq,dw J.2)))) λx19=>(bcase x19.1 (ajn ajq) (jn (α:=Bool) (obind (rr02_ShapedStmts (Sx.body x19.2)) λy21=>(bcase y21 (obind (rr02_ShapedStmts (Sx.els x19.2)) λy22=>(ax y22)) (ax ajq))) λx20=>(ajn x20)))))))))))))))))
def iF (rr02_ShapedStmt:Sx->Option (Bool)) (rr02_ShapedStmts:(List Sx)->Option (Bool)) (x:List Sx):Option (Bool):=
 (iter (σ:=Int) (λI=>(bk I (aP x) (vA I x (obind (rr02_ShapedStmt (aD (T:=.sm) x I)) λJ=>(bcase (!J) (ax ajq) (cu (ca I))))) (ax ajp))) 0)
mutual
def dD:Nat->Sx->Option (Bool)
 |0,_=>ajo
 |n+1,x=>jp (dD n) (cX n) x
def cX:Nat->(List Sx)->Option (Bool)
 |0,_=>ajo
 |n+1,x=>iF (dD n) (cX n) x
end
theorem xF (n:Nat) (x:Sx):dD (n+1) x=jp (dD n) (cX n) x:=rfl
theorem w7 (n:Nat) (x:List Sx):cX (n+1) x=iF (dD n) (cX n) x:=rfl
def mB (x:List Sx):Option (Bool):=cX fuel x
def jk (x:Int×Int×(List UInt8)×Int×Int×List UInt8):Option (Bool):=
 (jn (α:=Bool×Int×Int×(List UInt8)×Int×Int×List UInt8) (bk x.1 1 (ax (ajp,x)) (bk 6 x.1 (ax (ajp,x)) (obind (ec x.p2) λU=>(bcase (!U) (ax (ajp,x)) (bk x.p3 0 (ax (ajp,x)) (ik x.1 1 (ax ((!decide ((x.p3:Int)=0)),x)) (ax (ajq,x)))))))) λI=>(bcase I.1 (ajn ajq) (jn (α:=Bool×Int×Int×(List UInt8)×Int×Int×List UInt8) (aX I.2.1 5 (obind (ec I.q6) λM=>(bcase (!M) (ax (ajp,I.2)) (ik I.2.1 5 (ax ((!decide ((I.q6:List UInt8)=([]))),I.2)) (ax (ajq,I.2))))) (ik I.2.1 5 (ax ((!decide ((I.q6:List UInt8)=([]))),I.2)) (ax (ajq,I.2)))) λJ=>(bcase J.1 (ajn ajq) (jn (α:=Bool) (bk (-9223372036854775808) J.p5 (aX J.p5 0 (ax ajp) (aX J.2.1 1 (ax ajp) (ax (decide ((J.2.1:Int)=2))))) (ax ajq)) λY=>(ajn Y))))))
def oD (x:qF×List qE):Option (Bool):=
 (iter (σ:=Int×qF×List qE) (λM=>(bk M.1 (aP M.2.1) (bw E8 M.2.1 M.1 λz2=>(obind (jk z2) λy3=>(bcase (!y3) (ax ajq) (cu ((ca M.1),M.2))))) (obind (iter (σ:=Int×qF×List qE) (λJ=>(bk J.1 (aP J.2.2) (bw rn J.2.2 J.1 λz5=>(iter (σ:=Int×(qF×List qE)×(List UInt8)×Int×bP×List Sx) (λI=>(bk I.1 (aP I.p4) (bw (.str) I.p4 I.1 λz7=>(obind (ec z7) λy8=>(bcase (!y8) (ax (bM ajq)) (cu ((ca I.1),I.2))))) (obind (jn (α:=Bool×qF×List qE) (obind (ec I.p2) λY=>(bcase (!Y) (ax (ajp,I.2.1)) (obind (mB I.q5) λU=>(ax ((!U),I.2.1))))) λZ=>(bcase Z.1 (ax ajq) (cu ((ca J.1),Z.2)))) λr=>ajn (bM r)))) (0,J.2,z5))) (ax (eX 0 (aP J.2.2))))) (0,M.2)) λr=>ajn (bM r)))) (0,x))
def hZ (x:bP×List UInt8):Option (Int):=
 (iter (σ:=Int) (λI=>(bk I (aP x.1) (bw (.str) x.1 I λJ=>(bcase (decide ((J:List UInt8)=x.2)) (ax I) (cu (ca I)))) (ax (-1)))) 0)
def gi (x:qF×List UInt8):Option (Int):=
 (iter (σ:=Int) (λI=>(bk I (aP x.1) (bw E8 x.1 I λJ=>(bcase (decide ((J.2.2.1:List UInt8)=x.2)) (ax I) (cu (ca I)))) (ax (-1)))) 0)
def fP (x:(List qE)×List UInt8):Option (Int):=
 (iter (σ:=Int) (λI=>(bk I (aP x.1) (bw rn x.1 I λJ=>(bcase (decide ((J.1:List UInt8)=x.2)) (ax I) (cu (ca I)))) (ax (-1)))) 0)
def oC (x:(qF×List qE)×Int×List UInt8):Option (Int):=
 (jn (α:=Bool×qF×List qE) (jf 0 x.2.1 (bk x.2.1 (aP x.1.2) (bw rn x.1.2 x.2.1 λz2=>(obind (hZ (z2.2.2.1,x.2.2)) λy3=>(ax ((cD 0 y3),x.1)))) (ax (ajq,x.1))) (ax (ajq,x.1))) λI=>(bcase I.1 (ajn 8) (obind (gi (I.2.1,x.2.2)) λM=>(bk M 0 (obind (fP (I.2.2,x.2.2)) λy5=>(jf 0 y5 (ajn 7) (ajn 0))) (vA M I.2.1 (lt ((aD (T:=E8) I.2.1 M).1) λJ=>(aX J 1 (bw E8 I.2.1 M λZ=>(ik Z.2.2.2.1 0 (ajn 2) (ajn 1))) (aX J 2 (ajn 1) (jn (α:=Bool×qF×List qE) (aX J 3 (ax ((decide ((J:Int)=3)),I.2)) (aX J 4 (ax ((decide ((J:Int)=4)),I.2)) (aX J 5 (ax ((decide ((J:Int)=5)),I.2)) (ax ((decide ((J:Int)=6)),I.2))))) λU=>(bcase U.1 (bw E8 U.2.1 M λY=>(ajn Y.1)) (ajn 9)))))))))))
def fD (x:(qF×List qE)×Int×(List UInt8)×Int×Int):Option (Int):=
 (obind (oC (x.1,x.2.1,x.p2)) λI=>(aX I 0 (ajn 5) (jn (α:=Bool) (ik I x.p3 (ax (!decide ((I:Int)=x.q4))) (ax ajq)) λJ=>(bcase J (ajn 6) (ajn 0)))))
def sO (rr04_Nodes:Xp->Option (Int×Int)) (x:Xp):Option (Int×Int):=
 (iter (σ:=(Int×Int×Int)×Xp) (λI=>(bk I.1.2.2 (aJ (af (Xp.l I.2))) (bw (.ex) (Xp.l I.2) I.1.2.2 λM=>(obind (rr04_Nodes M) λJ=>(cu (((be .i64 (I.1.1+J.1)),(jv I.1.2.1 J.2),(ca I.1.2.2)),du ((Xp.op I.2),(Xp.n I.2),(Xp.name I.2),(Xp.l I.2)))))) (ax (I.1.1,(ca I.1.2.1))))) ((1,0,0),du ((Xp.op x),(Xp.n x),(Xp.name x),(Xp.l x))))
def me:Nat->Xp->Option (Int×Int)
 |0,_=>ajo
 |n+1,x=>sO (me n) x
theorem wJ (n:Nat) (x:Xp):me (n+1) x=sO (me n) x:=rfl
def Af (x:Xp):Option (Int×Int):=me fuel x
def sN (rr04_names:((qF×List qE)×Int×Xp)->Option (Int)) (x:(qF×List qE)×Int×Xp):Option (Int):=
 (jn (α:=Int×(qF×List qE)×Xp) (aX (Xp.op x.2.2) 2 (obind (fD (x.1,x.2.1,(Xp.name x.2.2),8,1)) λy2=>(ax (y2,x.1,du ((Xp.op x.2.2),(Xp.n x.2.2),(Xp.name x.2.2),(Xp.l x.2.2))))) (aX (Xp.op x.2.2) 3 (obind (fD (x.1,x.2.1,(Xp.name x.2.2),2,2)) λZ=>(ax (Z,x.1,du ((Xp.op x.2.2),(Xp.n x.2.2),(Xp.name x.2.2),(Xp.l x.2.2))))) (ax (0,x.1,du ((Xp.op x.2.2),(Xp.n x.2.2),(Xp.name x.2.2),(Xp.l x.2.2)))))) λM=>(iter (σ:=(Int×Int)×(qF×List qE)×Xp) (λI=>(jn (α:=Bool×(qF×List qE)×Xp) (bk I.1.2 (aJ (af (Xp.l I.2.2))) (ax ((decide ((I.1.1:Int)=0)),I.2.1,du ((Xp.op I.2.2),(Xp.n I.2.2),(Xp.name I.2.2),(Xp.l I.2.2)))) (ax (ajq,I.2.1,du ((Xp.op I.2.2),(Xp.n I.2.2),(Xp.name I.2.2),(Xp.l I.2.2))))) λJ=>(bcase J.1 (bw (.ex) (Xp.l J.2.2) I.1.2 λU=>(obind (rr04_names (J.2.1,x.2.1,U)) λY=>(cu ((Y,(ca I.1.2)),J.2.1,du ((Xp.op J.2.2),(Xp.n J.2.2),(Xp.name J.2.2),(Xp.l J.2.2)))))) (ax I.1.1)))) ((M.1,0),M.2.1,du ((Xp.op M.2.2),(Xp.n M.2.2),(Xp.name M.2.2),(Xp.l M.2.2)))))
def md:Nat->((qF×List qE)×Int×Xp)->Option (Int)
 |0,_=>ajo
 |n+1,x=>sN (md n) x
theorem wI (n:Nat) (x:(qF×List qE)×Int×Xp):md (n+1) x=sN (md n) x:=rfl
def Ae (x:(qF×List qE)×Int×Xp):Option (Int):=md fuel x
def kY (x:(qF×List qE)×Int×Xp):Option (Int):=
 (obind (ig (du ((Xp.op x.2.2),(Xp.n x.2.2),(Xp.name x.2.2),(Xp.l x.2.2)))) λU=>(bcase (!U) (ajn 3) (obind (Af (du ((Xp.op x.2.2),(Xp.n x.2.2),(Xp.name x.2.2),(Xp.l x.2.2)))) λJ=>(jn (α:=Bool×(qF×List qE)×Xp) (bk 24 J.1 (ax (ajp,x.1,du ((Xp.op x.2.2),(Xp.n x.2.2),(Xp.name x.2.2),(Xp.l x.2.2)))) (ax ((eX 6 J.2),x.1,du ((Xp.op x.2.2),(Xp.n x.2.2),(Xp.name x.2.2),(Xp.l x.2.2))))) λI=>(bcase I.1 (ajn 2) (obind (Ae (I.2.1,x.2.1,du ((Xp.op I.2.2),(Xp.n I.2.2),(Xp.name I.2.2),(Xp.l I.2.2)))) λM=>(ajn M)))))))
def cC (x:Bool):Option (Int):=
 (bcase x (ajn 7) (ajn 0))
def hY (x:Int×Int):Option (Int):=
 (ik x.1 0 (ajn x.1) (ajn x.2))
def di (x:(Int×Int×List UInt8)×pH×(Bool×List Sx)×bP×List (List UInt8)):Option (Bool×pH×(Bool×List Sx)×bP×List (List UInt8)):=
 (iter (σ:=Int×pH×(Bool×List Sx)×bP×List (List UInt8)) (λI=>(bk I.1 (aP I.p2.2) (kf (.sm) I.p2.2 I.1 λJ=>(jn (α:=Bool×pH×(Bool×List Sx)×bP×List (List UInt8)) (aX (Sx.op J) x.1.1 (bcase (decide ((x.1.2.2:List UInt8)=([]))) (ax (ajp,I.2)) (ax ((decide (((Sx.name J):List UInt8)=x.1.2.2)),I.2))) (aX (Sx.op J) x.1.2.1 (bcase (decide ((x.1.2.2:List UInt8)=([]))) (ax (ajp,I.2)) (ax ((decide (((Sx.name J):List UInt8)=x.1.2.2)),I.2))) (ax (ajq,I.2)))) λM=>(bcase M.1 (ax (ajp,M.2)) (cu ((ca I.1),M.2))))) (ax (ajq,I.2)))) (0,x.2))
def kX (x:Sx×pH×(Bool×List Sx)×bP×List (List UInt8)):Option (Int×pH×(Bool×List Sx)×bP×List (List UInt8)):=
 (obind (di ((7,7,[]),x.2)) λy1=>(bn (av (af x.q4) (af y1.q4)&&(av (af x.p3) (af y1.p3)&&(((x.p2.1==y1.p2.1)&&ajp)&&av (af x.p2.2) (af y1.p2.2)&&ajp))) (obind (di ((8,8,[]),y1.2)) λy2=>(bn (av (af y1.q4) (af y2.q4)&&(av (af y1.p3) (af y2.p3)&&(((y1.p2.1==y2.p2.1)&&ajp)&&av (af y1.p2.2) (af y2.p2.2)&&ajp))) (obind (di ((3,3,[]),y2.2)) λy3=>(bn (av (af y2.q4) (af y3.q4)&&(av (af y2.p3) (af y3.p3)&&(((y2.p2.1==y3.p2.1)&&ajp)&&av (af y2.p2.2) (af y3.p2.2)&&ajp))) (aX (Sx.op x.1) 1 (aX (aJ (af (Sx.index x.1))) 0 (obind (fD ((x.2.1.1,x.2.1.2.1),x.2.1.2.2,(Sx.name x.1),8,1)) λy4=>(obind (kY ((x.2.1.1,x.2.1.2.1),x.2.1.2.2,du ((Xp.op (Sx.expr x.1)),(Xp.n (Sx.expr x.1)),(Xp.name (Sx.expr x.1)),(Xp.l (Sx.expr x.1))))) λy5=>(obind (hY (y4,y5)) λy6=>(ajn (y6,y3.2))))) (obind (fD ((x.2.1.1,x.2.1.2.1),x.2.1.2.2,(Sx.name x.1),2,2)) λy7=>(bw (.ex) (Sx.index x.1) 0 λz8=>(obind (kY ((x.2.1.1,x.2.1.2.1),x.2.1.2.2,z8)) λy9=>(obind (kY ((x.2.1.1,x.2.1.2.1),x.2.1.2.2,du ((Xp.op (Sx.expr x.1)),(Xp.n (Sx.expr x.1)),(Xp.name (Sx.expr x.1)),(Xp.l (Sx.expr x.1))))) λy10=>(obind (hY (y9,y10)) λy11=>(obind (hY (y7,y11)) λy12=>(ajn (y12,y3.2))))))))) (jn (α:=Bool×pH×(Bool×List Sx)×Sx×(qF×List qE)×bP×List (List UInt8)) (aX (Sx.op x.1) 2 (ax ((decide (((Sx.op x.1):Int)=2)),y3.2.1,y3.p2,dw x.1,(x.2.1.1,x.2.1.2.1),y3.q3)) (ax ((decide (((Sx.op x.1):Int)=3)),y3.2.1,y3.p2,dw x.1,(x.2.1.1,x.2.1.2.1),y3.q3))) λM=>(bcase M.1 (obind (kY (M.p4,x.2.1.2.2,du ((Xp.op (Sx.expr M.p3)),(Xp.n (Sx.expr M.p3)),(Xp.name (Sx.expr M.p3)),(Xp.l (Sx.expr M.p3))))) λy14=>(ajn (y14,M.2.1,M.p2,M.q5))) (aX (Sx.op x.1) 4 (jn (α:=Int×pH×(Bool×List Sx)×bP×List (List UInt8)) (obind (fD (M.p4,x.2.1.2.2,(Sx.name M.p3),3,3)) λy16=>(bcase y1.1 (obind (cC ajp) λy17=>(obind (hY (y16,y17)) λy18=>(ax (y18,M.2.1,M.p2,M.q5)))) (obind (di ((4,4,(Sx.name M.p3)),M.2.1,M.p2,M.q5)) λy19=>(bn (av (af M.q6) (af y19.q4)&&(av (af M.p5) (af y19.p3)&&(((M.p2.1==y19.p2.1)&&ajp)&&av (af M.p2.2) (af y19.p2.2)&&ajp))) (obind (cC y19.1) λy20=>(obind (hY (y16,y20)) λy21=>(ax (y21,y19.2)))))))) λx15=>(ajn x15)) (jn (α:=Bool×pH×(Bool×List Sx)×Sx×(qF×List qE)×bP×List (List UInt8)) (aX (Sx.op x.1) 5 (ax ((decide (((Sx.op x.1):Int)=5)),M.2.1,M.p2,dw M.p3,M.q4)) (ax ((decide (((Sx.op x.1):Int)=6)),M.2.1,M.p2,dw M.p3,M.q4))) λJ=>(bcase J.1 (jn (α:=Int×pH×(Bool×List Sx)×bP×List (List UInt8)) (obind (fD (J.p4,x.2.1.2.2,(Sx.name J.p3),4,4)) λy24=>(bcase y1.1 (obind (cC ajp) λy25=>(obind (hY (y24,y25)) λy26=>(ax (y26,J.2.1,J.p2,J.q5)))) (obind (di ((5,6,(Sx.name J.p3)),J.2.1,J.p2,J.q5)) λy27=>(bn (av (af J.q6) (af y27.q4)&&(av (af J.p5) (af y27.p3)&&(((J.p2.1==y27.p2.1)&&ajp)&&av (af J.p2.2) (af y27.p2.2)&&ajp))) (obind (cC y27.1) λy28=>(obind (hY (y24,y28)) λy29=>(ax (y29,y27.2)))))))) λx23=>(ajn x23)) (aX (Sx.op x.1) 7 (obind (cC y1.1) λy30=>(ajn (y30,J.2.1,J.p2,J.q5))) (aX (Sx.op x.1) 8 (jn (α:=Int×pH×(Bool×List Sx)×bP×List (List UInt8)) (bcase y1.1 (obind (cC ajp) λy32=>(ax (y32,J.2.1,J.p2,J.q5))) (obind (cC y2.1) λy33=>(ax (y33,J.2.1,J.p2,J.q5)))) λx31=>(ajn x31)) (jn (α:=Bool×pH×(Bool×List Sx)×Sx×(qF×List qE)×bP×List (List UInt8)) (aX (Sx.op x.1) 9 (ax ((decide (((Sx.op x.1):Int)=9)),J.2.1,J.p2,dw J.p3,J.q4)) (aX (Sx.op x.1) 10 (ax ((decide (((Sx.op x.1):Int)=10)),J.2.1,J.p2,dw J.p3,J.q4)) (ax ((decide (((Sx.op x.1):Int)=11)),J.2.1,J.p2,dw J.p3,J.q4)))) λI=>(bcase I.1 (obind (fD (I.p4,x.2.1.2.2,(Sx.name I.p3),5,5)) λy35=>(ik y35 0 (ajn (y35,I.2.1,I.p2,I.q5)) (obind (gi (I.p4.1,(Sx.name I.p3))) λy36=>(bw E8 I.p4.1 y36 λz37=>(obind (di ((4,4,z37.2.2.2.2.2),I.2.1,I.p2,I.q5)) λy38=>(bn (av (af I.q6) (af y38.q4)&&(av (af I.p5) (af y38.p3)&&(((I.p2.1==y38.p2.1)&&ajp)&&av (af I.p2.2) (af y38.p2.2)&&ajp))) (jn (α:=Int×pH×(Bool×List Sx)×bP×List (List UInt8)) (bcase y1.1 (obind (cC ajp) λy40=>(ax (y40,y38.2))) (bcase (!y38.1) (obind (cC ajp) λy41=>(ax (y41,y38.2))) (aX (Sx.op I.p3) 9 (obind (cC y2.1) λy42=>(ax (y42,y38.2))) (obind (cC ajq) λy43=>(ax (y43,y38.2)))))) λx39=>(ajn x39)))))))) (aX (Sx.op x.1) 12 (obind (fD (I.p4,x.2.1.2.2,(Sx.name I.p3),7,7)) λy44=>(ik y44 0 (ajn (y44,I.2.1,I.p2,I.q5)) (obind (fP (I.p4.2,(Sx.name I.p3))) λy45=>(jn (α:=Bool×pH×(Bool×List Sx)×Sx×bP×List (List UInt8)) (bcase y1.1 (ax (ajp,I.2.1,I.p2,dw I.p3,I.q5)) (bcase y2.1 (ax (ajp,I.2.1,I.p2,dw I.p3,I.q5)) (bcase y3.1 (ax (ajp,I.2.1,I.p2,dw I.p3,I.q5)) (aX y45 x.2.1.2.2 (ax (ajp,I.2.1,I.p2,dw I.p3,I.q5)) (ax ((decide ((y45:Int)=0)),I.2.1,I.p2,dw I.p3,I.q5)))))) λU=>(bcase U.1 (ajn (7,U.2.1,U.p2,U.q4)) (obind (hZ (U.p4,(Sx.name U.p3))) λy47=>(jf 0 y47 (ajn (8,U.2.1,U.p2,U.q4)) (bn (aT (af U.p4+af ([(Sx.name U.p3)])) 16) (ajn (0,U.2.1,U.p2,(U.p4++([(Sx.name U.p3)])),U.q5)))))))))) (aX (Sx.op x.1) 13 (jn (α:=Int×pH×(Bool×List Sx)×bP×List (List UInt8)) (obind (fD (I.p4,x.2.1.2.2,(Sx.name I.p3),7,7)) λy49=>(bcase y1.1 (obind (cC ajp) λy50=>(obind (hY (y49,y50)) λy51=>(ax (y51,I.2.1,I.p2,I.q5)))) (bcase y2.1 (obind (cC ajp) λy52=>(obind (hY (y49,y52)) λy53=>(ax (y53,I.2.1,I.p2,I.q5)))) (obind (fP (I.p4.2,(Sx.name I.p3))) λy54=>(obind (cC (decide ((y54:Int)=x.2.1.2.2))) λy55=>(obind (hY (y49,y55)) λy56=>(ax (y56,I.2.1,I.p2,I.q5)))))))) λx48=>(ajn x48)) (aX (Sx.op x.1) 14 (jn (α:=Int×pH×(Bool×List Sx)×Sx×(qF×List qE)×bP×List (List UInt8)) (obind (fD (I.p4,x.2.1.2.2,(Sx.name I.p3),6,6)) λy58=>(bcase y1.1 (obind (cC ajp) λy59=>(obind (hY (y58,y59)) λy60=>(ax (y60,I.2.1,I.p2,dw I.p3,I.q4)))) (obind (cC y3.1) λy61=>(obind (hY (y58,y61)) λy62=>(ax (y62,I.2.1,I.p2,dw I.p3,I.q4)))))) λZ=>(jn (α:=Int×pH×(Bool×List Sx)×Sx×(qF×List qE)×bP×List (List UInt8)) (jn (α:=Bool×pH×(Bool×List Sx)×Sx×(qF×List qE)×bP×List (List UInt8)) (aX Z.1 0 (obind (hZ (Z.q6,(Sx.name Z.p3))) λy65=>(ax ((cD 0 y65),Z.2.1,Z.p2,dw Z.p3,Z.q4))) (ax (ajq,Z.2.1,Z.p2,dw Z.p3,Z.q4))) λx64=>(bcase x64.1 (ax (8,x64.2.1,x64.p2,dw x64.p3,x64.q4)) (ax (Z.1,x64.2.1,x64.p2,dw x64.p3,x64.q4)))) λY=>(bn (aT (af Y.q6+af ([(Sx.name Y.p3)])) 16) (obind (kY (Y.p4,x.2.1.2.2,du ((Xp.op (Sx.expr Y.p3)),(Xp.n (Sx.expr Y.p3)),(Xp.name (Sx.expr Y.p3)),(Xp.l (Sx.expr Y.p3))))) λy66=>(obind (hY (Y.1,y66)) λy67=>(ajn (y67,Y.2.1,Y.p2,Y.p5,(Y.q6++([(Sx.name Y.p3)]))))))))) (obind (fD (I.p4,x.2.1.2.2,(Sx.name I.p3),8,8)) λy68=>(obind (fD (I.p4,x.2.1.2.2,(Sx.arg I.p3),6,6)) λy69=>(obind (cC y1.1) λy70=>(obind (hY (y69,y70)) λy71=>(obind (hY (y68,y71)) λy72=>(ajn (y72,I.2.1,I.p2,I.q5))))))))))))))))))))))))))
def lh (rr04_walk_all:((List Sx)×pH×(Bool×List Sx)×bP×List (List UInt8))->Option abk) (x:(List Sx)×pH×(Bool×List Sx)×bP×List (List UInt8)):Option abk:=
 (iter (σ:=Int×pH×(Bool×List Sx)×bP×List (List UInt8)) (λU=>(bk U.1 (aP x.1) (bw (.sm) x.1 U.1 λZ=>(obind (kX (dw Z,U.2)) λY=>(bn (av (af U.q4) (af U.q4)&&(av (af U.p3) (af U.p3)&&(((U.p2.1==Y.p2.1)&&ajp)&&av (af U.p2.2) (af Y.p2.2)&&ajp))) (jn (α:=Int×pH×Sx×(Bool×List Sx)×bP×List (List UInt8)) (bk 6 (be .i64 ((aP Y.p2.2)+1)) (ax (2,Y.2.1,dw Z,Y.2.2)) (ax (Y.1,Y.2.1,dw Z,Y.2.2))) λI=>(ik I.1 0 (ax ((I.1,(Sx.line I.p2)),I.2.1,I.q3)) (bn (aT (af I.p3.2+af ([mD (0,0,[],[],([]:List Xp),du (0,0,[],([]:List Xp)),([]:List Sx),([]:List Sx))])) 176) (ck (eS (aP I.p3.2) (af (I.p3.2++([mD (0,0,[],[],([]:List Xp),du (0,0,[],([]:List Xp)),([]:List Sx),([]:List Sx))])))) (obind (rr04_walk_all ((Sx.body I.p2),I.2.1,(I.p3.1,(cw (I.p3.2++([mD (0,0,[],[],([]:List Xp),du (0,0,[],([]:List Xp)),([]:List Sx),([]:List Sx))])) (aP I.p3.2) (dw I.p2))),I.q4)) λM=>(bn (av (af I.q5) (af I.q5)&&(av (af I.p4) (af I.p4)&&(((I.p3.1==I.p3.1)&&ajp)&&av (af (cw (I.p3.2++([mD (0,0,[],[],([]:List Xp),du (0,0,[],([]:List Xp)),([]:List Sx),([]:List Sx))])) (aP I.p3.2) (dw I.p2))) (af (cw (I.p3.2++([mD (0,0,[],[],([]:List Xp),du (0,0,[],([]:List Xp)),([]:List Sx),([]:List Sx))])) (aP I.p3.2) (dw I.p2)))&&ajp))) (jn (α:=(Int×Int)×pH×(Bool×List Sx)×bP×List (List UInt8)) (aX M.1.1 0 (obind (rr04_walk_all ((Sx.els I.p2),M.2)) λy7=>(bn (av (af M.q4) (af M.q4)&&(av (af M.p3) (af M.p3)&&(((M.p2.1==M.p2.1)&&ajp)&&av (af M.p2.2) (af M.p2.2)&&ajp))) (ax y7))) (ax M)) λJ=>(bn (cD 0 (be .i64 ((aP J.p2.2)-1))&&eX (be .i64 ((aP J.p2.2)-1)) (af J.p2.2)) (ik J.1.1 0 (ax (J.1,J.2.1,(ajq,(db (aL (be .i64 ((aP J.p2.2)-1))) J.p2.2)),J.q3)) (cu ((ca U.1),J.2.1,(ajq,(db (aL (be .i64 ((aP J.p2.2)-1))) J.p2.2)),J.q3)))))))))))))) (ax ((0,0),U.2)))) (0,x.2))
def gI:Nat->((List Sx)×pH×(Bool×List Sx)×bP×List (List UInt8))->Option abk
 |0,_=>ajo
 |n+1,x=>lh (gI n) x
theorem As (n:Nat) (x:(List Sx)×pH×(Bool×List Sx)×bP×List (List UInt8)):gI (n+1) x=lh (gI n) x:=rfl
def uf (x:(List Sx)×pH×(Bool×List Sx)×bP×List (List UInt8)):Option abk:=gI fuel x
def sP (rr04_Count:(List Sx)->Option (Int)) (x:List Sx):Option (Int):=
 (iter (σ:=Int×Int) (λI=>(bk I.2 (aP x) (vA I.2 x (lt (Sx.body (aD (T:=.sm) x I.2)) λM=>(obind (rr04_Count M) λY=>(vA I.2 x (lt (Sx.els (aD (T:=.sm) x I.2)) λJ=>(obind (rr04_Count J) λU=>(cu ((be .i64 ((be .i64 (I.1+Y))+U)),(ca I.2))))))))) (ax I.1))) ((aP x),0))
def mf:Nat->(List Sx)->Option (Int)
 |0,_=>ajo
 |n+1,x=>sP (mf n) x
theorem wK (n:Nat) (x:List Sx):mf (n+1) x=sP (mf n) x:=rfl
def Ag (x:List Sx):Option (Int):=mf fuel x
def pY (x:List Ze):Option (Int×Int):=
 (iter (σ:=Int×Int×Int×Int×Int) (λI=>(bk I.q4 (aP x) (jn (α:=Int×Int×Int×Int) (bw E8 x I.q4 λJ=>(bn (cD 0 I.q4&&cD I.q4 (af x)) (obind (gi ((db (aL I.q4) x),J.p2)) λy4=>(jf 0 y4 (cu (bM (4,J.2.1))) (bk 4 J.p3 (cu (bM (2,J.2.1))) (jn (α:=(Int×Int×Int×Int)×Int×Int×(List UInt8)×Int×Int×List UInt8) (jn (α:=Bool×Int×Int×(List UInt8)×Int×Int×List UInt8) (aX J.1 1 (ax ((decide ((J.1:Int)=1)),J)) (ax ((decide ((J.1:Int)=2)),J))) λY=>(bcase Y.1 (ax (((be .i64 (I.1+(jv Y.p4 1))),I.2.1,I.p2,I.p3),Y.2)) (jn (α:=Bool×Int×Int×(List UInt8)×Int×Int×List UInt8) (aX J.1 3 (ax ((decide ((J.1:Int)=3)),Y.2)) (ax ((decide ((J.1:Int)=4)),Y.2))) λZ=>(bcase Z.1 (ax ((I.1,(ca I.2.1),I.p2,I.p3),Z.2)) (aX J.1 5 (ax ((I.1,I.2.1,(ca I.p2),I.p3),Z.2)) (ax ((I.1,I.2.1,I.p2,(ca I.p3)),Z.2))))))) λM=>(jn (α:=Bool×Int×Int×(List UInt8)×Int×Int×List UInt8) (bk 12 M.1.1 (ax (ajp,M.2)) (bk 4 M.1.2.1 (ax (ajp,M.2)) (bk 2 M.1.p2 (ax (ajp,M.2)) (ax ((eX 2 M.1.q3),M.2))))) λU=>(bcase U.1 (cu (bM (2,U.p2))) (aX U.2.1 5 (bn (cD 0 I.q4&&cD I.q4 (af x)) (obind (gi ((db (aL I.q4) x),U.q6)) λy9=>(bk y9 0 (cu (bM (5,U.p2))) (bw E8 x y9 λz10=>(ik z10.1 3 (cu (bM (6,U.p2))) (ax M.1)))))) (ax M.1)))))))))) λx2=>(cu (x2.1,x2.2.1,x2.p2,x2.q3,(ca I.q4)))) (ax (0,0)))) (0,0,0,0,0))
def mA (x:qF×List qE):Option (Int×Int):=
 (iter (σ:=Int×qF×List qE) (λJ=>(bk J.1 (aP J.2.2) (bw rn J.2.2 J.1 λY=>(jn (α:=Bool×(qF×List qE)×(List UInt8)×Int×bP×List Sx) (obind (gi (J.2.1,Y.1)) λy4=>(jf 0 y4 (ax (ajp,J.2,Y)) (bn (cD 0 J.1&&cD J.1 (af J.2.2)) (obind (fP ((db (aL J.1) J.2.2),Y.1)) λy5=>(ax ((cD 0 y5),J.2,Y)))))) λx3=>(bcase x3.1 (ax (4,x3.p3)) (cu ((ca J.1),x3.2.1))))) (obind (iter (σ:=Int×qF×List qE) (λU=>(bk U.1 (aP U.2.2) (bw rn U.2.2 U.1 λz7=>(bk 4 (aP z7.p2) (ax (2,z7.2.1)) (iter (σ:=Int×(qF×List qE)×(List UInt8)×Int×bP×List Sx) (λI=>(bk I.1 (aP I.p4) (bw (.str) I.p4 I.1 λZ=>(jn (α:=Bool×(qF×List qE)×(List UInt8)×Int×bP×List Sx) (obind (gi (I.2.1.1,Z)) λy11=>(jf 0 y11 (ax (ajp,I.2)) (obind (fP (I.2.1.2,Z)) λy12=>(jf 0 y12 (ax (ajp,I.2)) (bn (cD 0 I.1&&cD I.1 (af I.p4)) (obind (hZ ((db (aL I.1) I.p4),Z)) λy13=>(ax ((cD 0 y13),I.2)))))))) λM=>(bcase M.1 (ax (bM (4,M.p3))) (cu ((ca I.1),M.2))))) (ax (nG ((ca U.1),I.2.1))))) (0,U.2,z7)))) (ax (0,0)))) (0,J.2)) λr=>ajn (bM r)))) (0,x))
def eg (x:qF×List qE):Option (Int×Int):=
 (obind (oD x) λy1=>(bcase (!y1) (ajn (3,0)) (obind (pY x.1) λY=>(ik Y.1 0 (ajn Y) (bk 4 (aP x.2) (ajn (2,0)) (obind (mA x) λU=>(ik U.1 0 (ajn U) (iter (σ:=(Int×Int)×qF×List qE) (λJ=>(bk J.1.2 (aP J.2.2) (bw rn J.2.2 J.1.2 λz5=>(obind (Ag z5.2.2.2) λy6=>(cu (((be .i64 (J.1.1+y6)),(ca J.1.2)),J.2)))) (obind (bk 60 J.1.1 (ajn (2,0)) (iter (σ:=Int×(qF×List qE)×pH×(Bool×List Sx)×bP×List (List UInt8)) (λI=>(bk I.1 (aP I.2.1.2) (bw rn I.2.1.2 I.1 λZ=>(obind (uf (Z.2.2.2,(I.p2.1,I.p2.2.1,I.1),I.q3)) λM=>(bn (av (af I.q5) (af I.q5)&&(av (af I.p4) (af I.p4)&&(((I.p3.1==I.p3.1)&&ajp)&&av (af I.p3.2) (af I.p3.2)&&ajp))) (ik M.1.1 0 (ax M.1) (cu ((ca I.1),I.2.1,M.2)))))) (ax (0,0)))) (0,J.2,(J.2.1,J.2.2,0),(ajp,([]:List Sx)),([]:List (List UInt8)),([]:List (List UInt8))))) λr=>ajn (bM r)))) ((0,0),x)))))))))
def vU (rr06_sites:((Int×Int×List Sx)×List (Int×Int×Int))->Option (Int×List (Int×Int×Int))) (x:(Int×Int×List Sx)×List (Int×Int×Int)):Option (Int×List (Int×Int×Int)):=
 (iter (σ:=(Int×Int)×List (Int×Int×Int)) (λI=>(bk I.1.2 (aP x.1.2.2) (vA I.1.2 x.1.2.2 (lt (Sx.line (aD (T:=.sm) x.1.2.2 I.1.2)) λJ=>(bn (aT (af I.2+af ([(x.1.1,I.1.1,J)])) 24) (vA I.1.2 x.1.2.2 (lt (Sx.body (aD (T:=.sm) x.1.2.2 I.1.2)) λZ=>(obind (rr06_sites ((x.1.1,(ca I.1.1),Z),(I.2++([(x.1.1,I.1.1,J)])))) λM=>(bn (av (af (I.2++([(x.1.1,I.1.1,J)]))) (af (I.2++([(x.1.1,I.1.1,J)])))&&ajp) (vA I.1.2 x.1.2.2 (lt (Sx.els (aD (T:=.sm) x.1.2.2 I.1.2)) λY=>(obind (rr06_sites ((x.1.1,M.1,Y),M.2)) λU=>(bn (av (af M.2) (af M.2)&&ajp) (cu ((U.1,(ca I.1.2)),U.2))))))))))))) (ax (I.1.1,I.2)))) ((x.1.2.1,0),x.2))
def ou:Nat->((Int×Int×List Sx)×List (Int×Int×Int))->Option (Int×List (Int×Int×Int))
 |0,_=>ajo
 |n+1,x=>vU (ou n) x
theorem Fq (n:Nat) (x:(Int×Int×List Sx)×List (Int×Int×Int)):ou (n+1) x=vU (ou n) x:=rfl
def GV (x:(Int×Int×List Sx)×List (Int×Int×Int)):Option (Int×List (Int×Int×Int)):=ou fuel x
def jt (x:fH×List UInt8):Option (Int):=
 (iter (σ:=Int) (λI=>(bk I (aP x.1) (bw pI x.1 I λJ=>(bcase (decide ((J.1:List UInt8)=x.2)) (ax I) (cu (ca I)))) (ax (-1)))) 0)
def ki (x:dv×List UInt8):Option (Int):=
 (iter (σ:=Int×fY×fH×(List eh)×bP×bP×List (Int×Int×Int)) (λI=>(bk I.1 (aP I.2.1) (bw jI I.2.1 I.1 λJ=>(bcase (decide ((J.1:List UInt8)=x.2)) (ax I.1) (cu ((ca I.1),I.2)))) (ax (-1)))) (0,x.1))
def sB (x:qF×List qE):Option dv:=
 (obind (eg x) λy1=>(ik y1.1 0 (ajn (([]:List QD),([]:List ((List UInt8)×Bool)),([]:List eh),([]:List (List UInt8)),([]:List (List UInt8)),([]:List (Int×Int×Int)))) (iter (σ:=Int×(qF×List qE)×fY×fH×(List eh)×List (List UInt8)) (λU=>(bk U.1 (aP U.2.1.1) (bw E8 U.2.1.1 U.1 λY=>(jn (α:=(qF×List qE)×fY×fH×(List eh)×List (List UInt8)) (jn (α:=Bool×(qF×List qE)×Ze×fY×fH×(List eh)×List (List UInt8)) (aX Y.1 1 (ax ((decide ((Y.1:Int)=1)),U.2.1,Y,U.2.2)) (ax ((decide ((Y.1:Int)=2)),U.2.1,Y,U.2.2))) λx5=>(bcase x5.1 (iter (σ:=Int×(qF×List qE)×Ze×fY×fH×(List eh)×List (List UInt8)) (λJ=>(bk J.1 (jv J.p2.p3 1) (bn (aT (af J.p3+af ([(J.p2.p2,J.1,J.p2.p3,(decide ((J.p2.1:Int)=2)),J.p2.p4)])) 48) (cu ((ca J.1),J.2.1,J.p2,(J.p3++([(J.p2.p2,J.1,J.p2.p3,(decide ((J.p2.1:Int)=2)),J.p2.p4)])),J.q4))) (ax (bM (J.2.1,J.q3))))) (0,x5.2)) (jn (α:=Bool×(qF×List qE)×Ze×fY×fH×(List eh)×List (List UInt8)) (aX Y.1 3 (ax ((decide ((Y.1:Int)=3)),x5.2)) (ax ((decide ((Y.1:Int)=4)),x5.2))) λI=>(bcase I.1 (bn (aT (af I.p4+af ([(I.p2.p2,(decide ((I.p2.1:Int)=4)))])) 24) (ax (I.2.1,I.p3,(I.p4++([(I.p2.p2,(decide ((I.p2.1:Int)=4)))])),I.q5))) (aX Y.1 5 (obind (jt (I.p4,I.p2.q5)) λy8=>(bn (aT (af I.p5+af ([(I.p2.p2,y8)])) 24) (ax (I.2.1,I.p3,I.p4,(I.p5++([(I.p2.p2,y8)])),I.q6)))) (bn (aT (af I.q6+af ([I.p2.p2])) 16) (ax (I.2.1,I.p3,I.p4,I.p5,(I.q6++([I.p2.p2])))))))))) λx4=>(cu ((ca U.1),x4)))) (obind (iter (σ:=Int×(qF×List qE)×fY×fH×(List eh)×bP×bP×List (Int×Int×Int)) (λM=>(bk M.1 (aP M.2.1.2) (bw rn M.2.1.2 M.1 λZ=>(bn (aT (af M.p6+af ([Z.1])) 16) (bw rn M.2.1.2 M.1 λz11=>(obind (GV ((M.1,0,z11.2.2.2),M.q7)) λy12=>(bn (av (af M.q7) (af M.q7)&&ajp) (cu ((ca M.1),M.2.1,M.p2,M.p3,M.p4,M.p5,(M.p6++([Z.1])),y12.2))))))) (ax M.2.2))) (0,U.2.1,U.p2,U.p3,U.p4,U.q5,([]:List (List UInt8)),([]:List (Int×Int×Int)))) λr=>ajn (bM r)))) (0,x,([]:List QD),([]:List ((List UInt8)×Bool)),([]:List eh),([]:List (List UInt8))))))
def oe (x:fY×fH×(List eh)×bP×bP×List (Int×Int×Int)):Option (bP×Bool):=
 (iter (σ:=Int×dv×List (List UInt8)) (λJ=>(bk J.1 (aP J.2.1.1) (jn (α:=Int×dv×List (List UInt8)) (bw jI J.2.1.1 J.1 λU=>(bn (aT (af J.2.2+af ([U.1])) 16) (aX U.p2 0 (ik U.2.1 0 (cu (bM (([]:List (List UInt8)),ajq))) (ax ((ca J.1),J.2.1,(J.2.2++([U.1]))))) (jn (α:=Bool×dv×bP×(List UInt8)×Int×Int×Bool×Int) (bk U.p2 1 (ax (ajp,J.2.1,(J.2.2++([U.1])),U)) (bk 4 U.p2 (ax (ajp,J.2.1,(J.2.2++([U.1])),U)) (ax ((eX (be .i64 ((aP J.2.1.1)-J.1)) U.p2),J.2.1,(J.2.2++([U.1])),U)))) λx4=>(bcase x4.1 (cu (bM (([]:List (List UInt8)),ajq))) (iter (σ:=Int×dv×bP×(List UInt8)×Int×Int×Bool×Int) (λM=>(bk M.1 M.p5 (bw jI M.2.1.1 (be .i64 (J.1+M.1)) λZ=>(jn (α:=Bool×dv×bP×(List UInt8)×Int×Int×Bool×Int) (ik Z.2.1 M.1 (ax (ajp,M.2)) (bcase (!decide ((Z.1:List UInt8)=M.p3)) (ax (ajp,M.2)) (ik Z.p2 M.p5 (ax (ajp,M.2)) (ik Z.q4 M.q7 (ax (ajp,M.2)) (ax (Z.p3,M.2)))))) λx7=>(bcase x7.1 (ax (nG (bM (([]:List (List UInt8)),ajq)))) (cu ((ca M.1),x7.2))))) (ax (bM ((be .i64 (J.1+M.p5)),M.2.1,M.p2))))) (0,x4.2))))))) λx2=>(cu x2)) (obind (iter (σ:=Int×dv×List (List UInt8)) (λY=>(bk Y.1 (aP Y.2.1.2.1) (bw pI Y.2.1.2.1 Y.1 λz9=>(bn (aT (af Y.2.2+af ([z9.1])) 16) (cu ((ca Y.1),Y.2.1,(Y.2.2++([z9.1])))))) (obind (iter (σ:=Int×dv×List (List UInt8)) (λI=>(bk I.1 (aP I.2.1.p2) (bw kC I.2.1.p2 I.1 λz11=>(bn (aT (af I.2.2+af ([z11.1])) 16) (cu ((ca I.1),I.2.1,(I.2.2++([z11.1])))))) (obind (bn (aT (af I.2.2+af I.2.1.p3) 16) (bn (aT (af (I.2.2++I.2.1.p3)+af I.2.1.p4) 16) (ajn (((I.2.2++I.2.1.p3)++I.2.1.p4),ajp)))) λr=>ajn (bM r)))) (0,Y.2)) λr=>ajn (bM r)))) (0,J.2)) λr=>ajn (bM r)))) (0,x,([]:List (List UInt8))))
def gh (x:fY×fH×(List eh)×bP×bP×List (Int×Int×Int)):Option (Bool):=
 (jn (α:=Bool×fY×fH×(List eh)×bP×bP×List (Int×Int×Int)) (bk 12 (aP x.1) (ax (ajp,x)) (bk 4 (aP x.2.1) (ax (ajp,x)) (bk 2 (aP x.p2) (ax (ajp,x)) (bk 2 (aP x.p3) (ax (ajp,x)) (bk (aP x.p4) 1 (ax (ajp,x)) (bk 4 (aP x.p4) (ax (ajp,x)) (ax ((eX 60 (aP x.q5)),x)))))))) λx1=>(bcase x1.1 (ajn ajq) (obind (oe x1.2) λy2=>(bcase (!y2.2) (ajn ajq) (iter (σ:=Int×fY×fH×(List eh)×bP×bP×List (Int×Int×Int)) (λY=>(bk Y.1 (aP y2.1) (jn (α:=Bool×fY×fH×(List eh)×bP×bP×List (Int×Int×Int)) (bw (.str) y2.1 Y.1 λz5=>(obind (ec z5) λy6=>(bcase (!y6) (ax (ajp,Y.2)) (bn (cD 0 Y.1&&cD Y.1 (af y2.1)) (bw (.str) y2.1 Y.1 λz7=>(obind (hZ ((db (aL Y.1) y2.1),z7)) λy8=>(ax ((cD 0 y8),Y.2)))))))) λx4=>(bcase x4.1 (ax ajq) (cu ((ca Y.1),x4.2)))) (obind (iter (σ:=Int×fY×fH×(List eh)×bP×bP×List (Int×Int×Int)) (λM=>(bk M.1 (aP M.p3) (bw kC M.p3 M.1 λz10=>(jn (α:=Bool×fY×fH×(List eh)×bP×bP×List (Int×Int×Int)) (bk z10.2 0 (ax (ajp,M.2)) (jf (aP M.p2) z10.2 (ax (ajp,M.2)) (bw pI M.p2 z10.2 λz12=>(ax (z12.2,M.2))))) λx11=>(bcase x11.1 (ax ajq) (cu ((ca M.1),x11.2))))) (obind (iter (σ:=Int×fY×fH×(List eh)×bP×bP×List (Int×Int×Int)) (λI=>(bk I.1 (aP I.q6) (jn (α:=fY×fH×(List eh)×bP×bP×List (Int×Int×Int)) (bw ne I.q6 I.1 λZ=>(jn (α:=Bool×dv×Int×Int×Int) (bk Z.1 0 (ax (ajp,I.2,Z)) (ax ((cD (aP I.p5) Z.1),I.2,Z))) λU=>(bcase U.1 (cu (bM ajq)) (jn (α:=Bool×dv×Int×Int×Int) (aX I.1 0 (ax (ajp,U.2)) (bw ne U.2.1.q5 (be .i64 (I.1-1)) λz18=>(ax ((!decide ((z18.1:Int)=U.p2)),U.2)))) λJ=>(bcase J.1 (jn (α:=Bool×fY×fH×(List eh)×bP×bP×List (Int×Int×Int)) (ik J.p3 0 (ax (ajp,J.2.1)) (bk 0 I.1 (bw ne J.2.1.q5 (be .i64 (I.1-1)) λz20=>(ax ((eX J.p2 z20.1),J.2.1))) (ax (ajq,J.2.1)))) λx19=>(bcase x19.1 (cu (bM ajq)) (ax x19.2))) (bw ne J.2.1.q5 (be .i64 (I.1-1)) λz21=>(ik J.p3 (ca z21.2.1) (cu (bM ajq)) (ax J.2.1)))))))) λx14=>(cu ((ca I.1),x14))) (ax ajp))) (0,M.2)) λr=>ajn (bM r)))) (0,Y.2)) λr=>ajn (bM r)))) (0,x1.2))))))
def iL (x:Int×Int×Int×Int×Int×Int):Option (List Int):=
 (jn (α:=Bool×Int×Int×Int×Int×Int×Int) (aX x.1 1 (ax ((decide ((x.1:Int)=1)),x)) (aX x.1 6 (ax ((decide ((x.1:Int)=6)),x)) (aX x.1 10 (ax ((decide ((x.1:Int)=10)),x)) (ax ((decide ((x.1:Int)=27)),x))))) λM=>(bcase M.1 (ajn ([M.p2])) (jn (α:=Bool×Int×Int×Int×Int×Int×Int) (aX x.1 2 (ax ((decide ((x.1:Int)=2)),M.2)) (ax ((decide ((x.1:Int)=3)),M.2))) λI=>(bcase I.1 (ajn ([I.p2,I.p3])) (aX x.1 4 (ajn ([I.p2,I.p3,I.p4])) (aX x.1 7 (ajn ([I.p2,I.p4])) (jn (α:=Bool×Int×Int×Int×Int×Int×Int) (aX x.1 8 (ax ((decide ((x.1:Int)=8)),I.2)) (ax ((decide ((x.1:Int)=26)),I.2))) λJ=>(bcase J.1 (ajn ([J.p3])) (aX x.1 9 (ajn ([J.p3,J.p4])) (ajn ([]:List Int)))))))))))
def oB (x:Int):Option (Bool):=
 (jn (α:=Bool) (jf 1 x (ax (cD x 5)) (ax ajq)) λI=>(ajn I))
def og (x:(List jb)×Int):Option (Bool):=
 (iter (σ:=Int×Int) (λI=>(jf I.2 (aP x.1) (jn (α:=Int) (jn (α:=Bool) (bk I.1 0 (ax ajp) (ax (cD (aP x.1) I.1))) λZ=>(bcase Z (cu (bM ajq)) (bw pG x.1 I.1 λU=>(obind (oB U.1) λY=>(bcase (!Y) (cu (bM ajp)) (bw pG x.1 I.1 λM=>(aX M.1 5 (bw pG x.1 I.1 λJ=>(ax J.2.1)) (ax (ca I.1))))))))) λx2=>(cu (x2,(ca I.2)))) (ax ajq))) (x.2,0))
def iu (x:Int×Int):Option (Bool):=
 (jn (α:=Bool) (jf 0 x.1 (ax (eX x.1 x.2)) (ax ajq)) λI=>(ajn I))
def l9 (x:dv×Int×Int):Option (Bool):=
 (jn (α:=Bool) (obind (iu (x.2.1,(aP x.1.1))) λU=>(bcase U (bw jI x.1.1 x.2.1 λM=>(aX M.2.1 0 (bw jI x.1.1 x.2.1 λJ=>(ik J.2.2.1 0 (bw jI x.1.1 x.2.1 λI=>(ax (decide ((I.2.2.1:Int)=x.2.2)))) (ax ajq))) (ax ajq))) (ax ajq))) λY=>(ajn Y))
def kr (x:dv×Int×Int×Int×Int×Int×Int):Option (Bool):=
 (aX x.2.1 6 (jn (α:=Bool) (obind (iu (x.p3,(aP x.1.1))) λy2=>(bcase y2 (bw jI x.1.1 x.p3 λz3=>(ax (decide ((z3.2.2.1:Int)=0)))) (ax ajq))) λx1=>(ajn x1)) (aX x.2.1 8 (jn (α:=Bool) (obind (iu (x.p2,(aP x.1.1))) λy5=>(bcase y5 (bw jI x.1.1 x.p2 λz6=>(ax (decide ((z6.2.2.1:Int)=0)))) (ax ajq))) λx4=>(ajn x4)) (aX x.2.1 7 (obind (l9 (x.1,x.p3,x.p5)) λy7=>(ajn y7)) (aX x.2.1 9 (obind (l9 (x.1,x.p2,x.p5)) λy8=>(ajn y8)) (jn (α:=Bool×dv×Int×Int×Int×Int×Int×Int) (aX x.2.1 11 (ax ((decide ((x.2.1:Int)=11)),x)) (ax ((decide ((x.2.1:Int)=12)),x))) λU=>(bcase U.1 (jn (α:=Bool) (obind (iu (U.p3,(aP U.2.1.2.1))) λy11=>(bcase y11 (bw pI U.2.1.2.1 U.p3 λZ=>(ax (!Z.2))) (ax ajq))) λx10=>(ajn x10)) (jn (α:=Bool×dv×Int×Int×Int×Int×Int×Int) (aX x.2.1 13 (ax ((decide ((x.2.1:Int)=13)),U.2)) (aX x.2.1 14 (ax ((decide ((x.2.1:Int)=14)),U.2)) (aX x.2.1 15 (ax ((decide ((x.2.1:Int)=15)),U.2)) (ax ((decide ((x.2.1:Int)=16)),U.2))))) λJ=>(bcase J.1 (jn (α:=Bool) (obind (iu (J.p3,(aP J.2.1.2.1))) λy15=>(bcase y15 (bw pI J.2.1.2.1 J.p3 λY=>(ax Y.2)) (ax ajq))) λx14=>(ajn x14)) (jn (α:=Bool×dv×Int×Int×Int×Int×Int×Int) (aX x.2.1 21 (ax ((decide ((x.2.1:Int)=21)),J.2)) (aX x.2.1 22 (ax ((decide ((x.2.1:Int)=22)),J.2)) (ax ((decide ((x.2.1:Int)=23)),J.2)))) λM=>(bcase M.1 (obind (iu (M.p3,(aP M.2.1.p2))) λy18=>(ajn y18)) (jn (α:=Bool×dv×Int×Int×Int×Int×Int×Int) (aX x.2.1 24 (ax ((decide ((x.2.1:Int)=24)),M.2)) (ax ((decide ((x.2.1:Int)=25)),M.2))) λI=>(bcase I.1 (obind (iu (I.p3,(aP I.2.1.p4))) λy20=>(ajn y20)) (aX x.2.1 26 (obind (iu (I.p3,(aP I.2.1.p3))) λy21=>(ajn y21)) (aX x.2.1 27 (obind (iu (I.p4,(aP I.2.1.p3))) λy22=>(ajn y22)) (aX x.2.1 3 (jn (α:=Bool) (aX I.p6 4 (ax ajp) (ax (decide ((I.p6:Int)=5)))) λx23=>(ajn x23)) (aX x.2.1 4 (jn (α:=Bool) (jf 6 I.p6 (ax (cD I.p6 18)) (ax ajq)) λx24=>(ajn x24)) (ajn ajp)))))))))))))))))
def gy (x:dv×Int×Int×List jb):Option (Bool):=
 (jn (α:=Bool×dv×Int×List jb) (bk x.p2 0 (ax (ajp,x.1,x.2.2)) (bk 32 x.p2 (ax (ajp,x.1,x.2.2)) (ax ((decide (((aP x.q3):Int)=0)),x.1,x.2.2)))) λx1=>(bcase x1.1 (ajn ajq) (iter (σ:=Int×dv×Int×List jb) (λJ=>(bk J.1 (aP x.q3) (bw pG J.q3 J.1 λY=>(jn (α:=Bool×dv×(Int×List jb)×Int×Int×Int×Int×Int×Int) (bk Y.1 1 (ax (ajp,J.2.1,J.2.2,Y)) (bk 28 Y.1 (ax (ajp,J.2.1,J.2.2,Y)) (bcase (((decide ((Y.1:Int)=28))==(decide ((J.1:Int)=(be .i64 ((aP x.q3)-1))))) !=ajp) (ax (ajp,J.2.1,J.2.2,Y)) (obind (kr (J.2.1,Y)) λy5=>(bcase (!y5) (ax (ajp,J.2.1,J.2.2,Y)) (obind (og (J.q3,J.1)) λy6=>(ax ((!y6),J.2.1,J.2.2,Y)))))))) λI=>(bcase I.1 (ax ajq) (jn (α:=Bool×dv×(Int×List jb)×Int×Int×Int×Int×Int×Int) (aX I.p3 28 (ik I.q8 (-1) (ax (ajp,I.2)) (ik I.p3 28 (obind (iu (I.q8,(aP I.2.1.q5))) λy8=>(bcase (!y8) (ax (ajp,I.2)) (bw ne I.2.1.q5 I.q8 λz9=>(ax ((!decide ((z9.1:Int)=x.2.1)),I.2))))) (ax (ajq,I.2)))) (ik I.p3 28 (obind (iu (I.q8,(aP I.2.1.q5))) λy10=>(bcase (!y10) (ax (ajp,I.2)) (bw ne I.2.1.q5 I.q8 λz11=>(ax ((!decide ((z11.1:Int)=x.2.1)),I.2))))) (ax (ajq,I.2)))) λU=>(bcase U.1 (ax ajq) (jn (α:=Bool×dv×(Int×List jb)×Int×Int×Int×Int×Int×Int) (aX U.p3 5 (obind (iu (U.p4,(aP x.q3))) λy13=>(bcase (!y13) (ax (ajp,U.2)) (aX U.p3 10 (obind (iu (U.p5,(aP x.q3))) λy14=>(ax ((!y14),U.2))) (ax (ajq,U.2))))) (aX U.p3 10 (obind (iu (U.p5,(aP x.q3))) λy15=>(ax ((!y15),U.2))) (ax (ajq,U.2)))) λZ=>(bcase Z.1 (ax ajq) (obind (iL Z.q3) λy16=>(iter (σ:=Int×dv×Int×List jb) (λM=>(bk M.1 (aP y16) (bw aH y16 M.1 λz18=>(obind (iu (z18,M.p2)) λy19=>(bcase (!y19) (ax (bM ajq)) (cu ((ca M.1),M.2))))) (ax (nG ((ca J.1),M.2))))) (0,Z.2.1,Z.p2)))))))))) (ax ajp))) (0,x1.2))))
def iK (x:dv×List (Int×List jb)):Option (Bool):=
 (jn (α:=Bool×dv×List (Int×List jb)) (obind (gh x.1) λY=>(bcase (!Y) (ax (ajp,x)) (ax ((!decide (((aP x.2):Int)=(aP x.1.p4))),x)))) λJ=>(bcase J.1 (ajn ajq) (iter (σ:=Int×dv×List (Int×List jb)) (λI=>(bk I.1 (aP I.2.2) (bw vu I.2.2 I.1 λM=>(obind (gy (I.2.1,I.1,M)) λU=>(bcase (!U) (ax ajq) (cu ((ca I.1),I.2))))) (ax ajp))) (0,J.2))))
def b7 (x:jb×qn×List jb):Option (qn×List jb):=
 (bn (aT (af x.2.2+af ([(x.1.1,x.1.2.1,x.1.p2,x.1.p3,x.1.p4,x.2.1.p7)])) 48) (ajn (x.2.1,(x.2.2++([(x.1.1,x.1.2.1,x.1.p2,x.1.p3,x.1.p4,x.2.1.p7)])))))
def pj (rr06_gen_value:((Xp×Int)×qn×List jb)->Option (qn×List jb)) (x:(Xp×Int)×qn×List jb):Option (qn×List jb):=
 (jn (α:=qn×List jb) (aX (Xp.op x.1.1) 1 (obind (b7 ((1,x.1.2,0,0,(Xp.n x.1.1),0),x.2)) λy2=>(bn (av (af x.2.2) (af x.2.2)&&ajp) (ax y2))) (aX (Xp.op x.1.1) 2 (obind (hZ (x.2.1.p6,(Xp.name x.1.1))) λy3=>(jf 0 y3 (obind (b7 ((2,x.1.2,y3,0,0,0),x.2)) λy4=>(bn (av (af x.2.2) (af x.2.2)&&ajp) (ax y4))) (obind (ki ((x.2.1.1,x.2.1.2.1,x.2.1.p2,x.2.1.p3,x.2.1.p4,x.2.1.p5),(Xp.name x.1.1))) λy5=>(obind (b7 ((6,x.1.2,y5,0,0,0),x.2)) λy6=>(bn (av (af x.2.2) (af x.2.2)&&ajp) (ax y6)))))) (aX (Xp.op x.1.1) 3 (bw (.ex) (Xp.l x.1.1) 0 λz7=>(obind (rr06_gen_value ((z7,x.1.2),x.2)) λI=>(bn (av (af x.2.2) (af x.2.2)&&ajp) (obind (ki ((I.1.1,I.1.2.1,I.1.p2,I.1.p3,I.1.p4,I.1.p5),(Xp.name x.1.1))) λy9=>(bw jI I.1.1 y9 λz10=>(obind (b7 ((7,x.1.2,y9,x.1.2,z10.2.2.1,0),I)) λy11=>(bn (av (af I.2) (af I.2)&&ajp) (ax y11)))))))) (aX (aJ (af (Xp.l x.1.1))) 1 (bw (.ex) (Xp.l x.1.1) 0 λz12=>(obind (rr06_gen_value ((z12,x.1.2),x.2)) λU=>(bn (av (af x.2.2) (af x.2.2)&&ajp) (obind (b7 ((3,x.1.2,x.1.2,0,(Xp.op x.1.1),0),U)) λy14=>(bn (av (af U.2) (af U.2)&&ajp) (ax y14)))))) (bw (.ex) (Xp.l x.1.1) 0 λZ=>(obind (rr06_gen_value ((Z,x.1.2),x.2)) λM=>(bn (av (af x.2.2) (af x.2.2)&&ajp) (bw (.ex) (Xp.l x.1.1) 1 λY=>(obind (rr06_gen_value ((Y,(ca x.1.2)),M)) λJ=>(bn (av (af M.2) (af M.2)&&ajp) (obind (b7 ((4,x.1.2,x.1.2,(ca x.1.2),(Xp.op x.1.1),0),J)) λy19=>(bn (av (af J.2) (af J.2)&&ajp) (ax y19))))))))))))) λx1=>(ajn x1))
def gO:Nat->((Xp×Int)×qn×List jb)->Option (qn×List jb)
 |0,_=>ajo
 |n+1,x=>pj (gO n) x
theorem yT (n:Nat) (x:(Xp×Int)×qn×List jb):gO (n+1) x=pj (gO n) x:=rfl
def gM (x:(Xp×Int)×qn×List jb):Option (qn×List jb):=gO fuel x
def kK (x:Sx×qn×List jb):Option (qn×List jb):=
 (bk 0 (aJ (af (Sx.index x.1))) (bw (.ex) (Sx.index x.1) 0 λz1=>(obind (gM ((z1,(aP x.2.1.p6)),x.2)) λM=>(bn (av (af x.2.2) (af x.2.2)&&ajp) (obind (gM ((du ((Xp.op (Sx.expr x.1)),(Xp.n (Sx.expr x.1)),(Xp.name (Sx.expr x.1)),(Xp.l (Sx.expr x.1))),(be .i64 ((aP x.2.1.p6)+1))),M)) λJ=>(bn (av (af M.2) (af M.2)&&ajp) (obind (ki ((J.1.1,J.1.2.1,J.1.p2,J.1.p3,J.1.p4,J.1.p5),(Sx.name x.1))) λy4=>(bw jI J.1.1 y4 λz5=>(obind (b7 ((9,y4,(be .i64 ((aP x.2.1.p6)+1)),(aP x.2.1.p6),z5.2.2.1,0),J)) λy6=>(bn (av (af J.2) (af J.2)&&ajp) (ajn y6)))))))))) (obind (gM ((du ((Xp.op (Sx.expr x.1)),(Xp.n (Sx.expr x.1)),(Xp.name (Sx.expr x.1)),(Xp.l (Sx.expr x.1))),(aP x.2.1.p6)),x.2)) λI=>(bn (av (af x.2.2) (af x.2.2)&&ajp) (obind (hZ (I.1.p6,(Sx.name x.1))) λZ=>(jf 0 Z (obind (b7 ((2,Z,(aP x.2.1.p6),0,0,0),I)) λy9=>(bn (av (af I.2) (af I.2)&&ajp) (ajn y9))) (obind (ki ((I.1.1,I.1.2.1,I.1.p2,I.1.p3,I.1.p4,I.1.p5),(Sx.name x.1))) λY=>(obind (b7 ((8,Y,(aP x.2.1.p6),0,0,0),I)) λU=>(bn (av (af I.2) (af I.2)&&ajp) (ajn U)))))))))
def iB (x:(List UInt8)×qn×List jb):Option (Int×qn×List jb):=
 (iter (σ:=Int×qn×List jb) (λI=>(bk I.1 (aP I.2.1.p2) (bw kC I.2.1.p2 I.1 λJ=>(bcase (decide ((J.1:List UInt8)=x.1)) (ax I) (cu ((ca I.1),I.2)))) (ax ((-1),I.2)))) (0,x.2))
def pl (rr06_gen_stmts:Zc->Option (qn×List jb)) (rr06_gen_stmt:Kp->Option (qn×List jb)) (rr06_gen_branches:Kp->Option (qn×List jb)) (rr06_gen_around:Zd->Option (qn×List jb)) (x:(List Sx)×qn×List jb):Option (qn×List jb):=
 (iter (σ:=Int×qn×List jb) (λI=>(bk I.1 (aP x.1) (bw (.sm) x.1 I.1 λJ=>(obind (rr06_gen_stmt (J,I.2)) λM=>(bn (av (af I.2.2) (af I.2.2)&&ajp) (cu ((ca I.1),M))))) (ax I.2))) (0,x.2))
def qz (rr06_gen_stmts:Zc->Option (qn×List jb)) (rr06_gen_stmt:Kp->Option (qn×List jb)) (rr06_gen_branches:Kp->Option (qn×List jb)) (rr06_gen_around:Zd->Option (qn×List jb)) (x:Sx×qn×List jb):Option (qn×List jb):=
 (jn (α:=qn×List jb) (aX (Sx.op x.1) 1 (obind (kK (dw x.1,(x.2.1.1,x.2.1.2.1,x.2.1.p2,x.2.1.p3,x.2.1.p4,x.2.1.p5,x.2.1.p6,x.2.1.q8,(ca x.2.1.q8)),x.2.2)) λy2=>(bn (av (af x.2.2) (af x.2.2)&&ajp) (ax y2))) (jn (α:=Bool×qn×Sx×List jb) (aX (Sx.op x.1) 2 (ax ((decide (((Sx.op x.1):Int)=2)),(x.2.1.1,x.2.1.2.1,x.2.1.p2,x.2.1.p3,x.2.1.p4,x.2.1.p5,x.2.1.p6,x.2.1.q8,(ca x.2.1.q8)),dw x.1,x.2.2)) (ax ((decide (((Sx.op x.1):Int)=3)),(x.2.1.1,x.2.1.2.1,x.2.1.p2,x.2.1.p3,x.2.1.p4,x.2.1.p5,x.2.1.p6,x.2.1.q8,(ca x.2.1.q8)),dw x.1,x.2.2))) λI=>(bcase I.1 (obind (rr06_gen_branches (dw I.p2,I.2.1,I.q3)) λy4=>(bn (av (af I.q3) (af I.q3)&&ajp) (ax y4))) (aX (Sx.op x.1) 4 (obind (jt (I.2.1.2.1,(Sx.name I.p2))) λy5=>(obind (rr06_gen_around ((dw I.p2,11,12,y5),I.2.1,I.q3)) λy6=>(bn (av (af I.q3) (af I.q3)&&ajp) (ax y6)))) (aX (Sx.op x.1) 5 (obind (jt (I.2.1.2.1,(Sx.name I.p2))) λy7=>(obind (rr06_gen_around ((dw I.p2,13,14,y7),I.2.1,I.q3)) λy8=>(bn (av (af I.q3) (af I.q3)&&ajp) (ax y8)))) (aX (Sx.op x.1) 6 (obind (jt (I.2.1.2.1,(Sx.name I.p2))) λy9=>(obind (rr06_gen_around ((dw I.p2,15,16,y9),I.2.1,I.q3)) λy10=>(bn (av (af I.q3) (af I.q3)&&ajp) (ax y10)))) (aX (Sx.op x.1) 7 (obind (rr06_gen_around ((dw I.p2,17,18,0),I.2.1,I.q3)) λy11=>(bn (av (af I.q3) (af I.q3)&&ajp) (ax y11))) (aX (Sx.op x.1) 8 (obind (rr06_gen_around ((dw I.p2,19,20,0),I.2.1,I.q3)) λy12=>(bn (av (af I.q3) (af I.q3)&&ajp) (ax y12))) (aX (Sx.op x.1) 9 (obind (iB ((Sx.name I.p2),I.2.1,I.q3)) λU=>(bn (av (af I.q3) (af U.2.2)&&ajp) (obind (b7 ((21,U.1,0,0,0,0),U.2)) λy14=>(bn (av (af U.2.2) (af U.2.2)&&ajp) (ax y14))))) (aX (Sx.op x.1) 10 (obind (iB ((Sx.name I.p2),I.2.1,I.q3)) λM=>(bn (av (af I.q3) (af M.2.2)&&ajp) (obind (b7 ((22,M.1,0,0,0,0),M.2)) λy16=>(bn (av (af M.2.2) (af M.2.2)&&ajp) (ax y16))))) (aX (Sx.op x.1) 11 (obind (iB ((Sx.name I.p2),I.2.1,I.q3)) λJ=>(bn (av (af I.q3) (af J.2.2)&&ajp) (obind (b7 ((23,J.1,0,0,0,0),J.2)) λy18=>(bn (av (af J.2.2) (af J.2.2)&&ajp) (ax y18))))) (aX (Sx.op x.1) 12 (obind (hZ (I.2.1.p4,(Sx.name I.p2))) λy19=>(obind (b7 ((24,y19,0,0,0,0),I.2.1,I.q3)) λy20=>(bn (av (af I.q3) (af I.q3)&&ajp) (ax y20)))) (aX (Sx.op x.1) 13 (obind (hZ (I.2.1.p4,(Sx.name I.p2))) λy21=>(obind (b7 ((25,y21,0,0,0,0),I.2.1,I.q3)) λy22=>(bn (av (af I.q3) (af I.q3)&&ajp) (ax y22)))) (aX (Sx.op x.1) 14 (obind (gM ((du ((Xp.op (Sx.expr I.p2)),(Xp.n (Sx.expr I.p2)),(Xp.name (Sx.expr I.p2)),(Xp.l (Sx.expr I.p2))),(aP x.2.1.p6)),I.2.1,I.q3)) λY=>(bn (av (af I.q3) (af I.q3)&&ajp) (obind (hZ (Y.1.p3,(Sx.name I.p2))) λy24=>(obind (b7 ((26,y24,(aP x.2.1.p6),0,0,0),Y)) λy25=>(bn (av (af Y.2) (af Y.2)&&ajp) (ax y25)))))) (aX (Sx.op x.1) 15 (obind (hZ (I.2.1.p6,(Sx.name I.p2))) λy26=>(obind (hZ (I.2.1.p3,(Sx.arg I.p2))) λy27=>(obind (b7 ((27,y26,y27,0,0,0),I.2.1,I.q3)) λZ=>(bn (av (af I.q3) (af I.q3)&&ajp) (ax Z))))) (ax (I.2.1,I.q3))))))))))))))))) λx1=>(ajn x1))
def lm (rr06_gen_stmts:Zc->Option (qn×List jb)) (rr06_gen_stmt:Kp->Option (qn×List jb)) (rr06_gen_branches:Kp->Option (qn×List jb)) (rr06_gen_around:Zd->Option (qn×List jb)) (x:Sx×qn×List jb):Option (qn×List jb):=
 (obind (gM ((du ((Xp.op (Sx.expr x.1)),(Xp.n (Sx.expr x.1)),(Xp.name (Sx.expr x.1)),(Xp.l (Sx.expr x.1))),(aP x.2.1.p6)),x.2)) λJ=>(bn (av (af x.2.2) (af x.2.2)&&ajp) (obind (b7 ((10,(aP J.1.p6),0,0,0,0),J)) λZ=>(bn (av (af J.2) (af J.2)&&ajp) (obind (rr06_gen_stmts ((Sx.body x.1),Z)) λI=>(bn (av (af Z.2) (af Z.2)&&ajp) (aX (Sx.op x.1) 3 (obind (b7 ((5,(aP x.2.2),0,0,0,0),(I.1.1,I.1.2.1,I.1.p2,I.1.p3,I.1.p4,I.1.p5,I.1.p6,x.2.1.p7,I.1.q8),I.2)) λU=>(bn (av (af I.2) (af I.2)&&ajp) (ck (eS (aP J.2) (af U.2)) (ajn (U.1,(cw U.2 (aP J.2) ((aD (T:=pG) U.2 (aP J.2)).1,((aD (T:=pG) U.2 (aP J.2)).2).1,(aP U.2),(((aD (T:=pG) U.2 (aP J.2)).2).2).2))))))) (aX (aJ (af (Sx.els x.1))) 0 (ck (eS (aP J.2) (af I.2)) (ajn ((I.1.1,I.1.2.1,I.1.p2,I.1.p3,I.1.p4,I.1.p5,I.1.p6,x.2.1.p7,I.1.q8),(cw I.2 (aP J.2) ((aD (T:=pG) I.2 (aP J.2)).1,((aD (T:=pG) I.2 (aP J.2)).2).1,(aP I.2),(((aD (T:=pG) I.2 (aP J.2)).2).2).2))))) (obind (b7 ((5,0,0,0,0,0),(I.1.1,I.1.2.1,I.1.p2,I.1.p3,I.1.p4,I.1.p5,I.1.p6,x.2.1.p7,I.1.q8),I.2)) λM=>(bn (av (af I.2) (af I.2)&&ajp) (ck (eS (aP J.2) (af M.2)) (obind (rr06_gen_stmts ((Sx.els x.1),M.1,(cw M.2 (aP J.2) ((aD (T:=pG) M.2 (aP J.2)).1,((aD (T:=pG) M.2 (aP J.2)).2).1,(aP M.2),(((aD (T:=pG) M.2 (aP J.2)).2).2).2)))) λY=>(bn (av (af (cw M.2 (aP J.2) ((aD (T:=pG) M.2 (aP J.2)).1,((aD (T:=pG) M.2 (aP J.2)).2).1,(aP M.2),(((aD (T:=pG) M.2 (aP J.2)).2).2).2))) (af (cw M.2 (aP J.2) ((aD (T:=pG) M.2 (aP J.2)).1,((aD (T:=pG) M.2 (aP J.2)).2).1,(aP M.2),(((aD (T:=pG) M.2 (aP J.2)).2).2).2)))&&ajp) (ck (eS (aP I.2) (af Y.2)) (ajn (Y.1,(cw Y.2 (aP I.2) ((aD (T:=pG) Y.2 (aP I.2)).1,(aP Y.2),((aD (T:=pG) Y.2 (aP I.2)).2).2))))))))))))))))))
def nP (rr06_gen_stmts:Zc->Option (qn×List jb)) (rr06_gen_stmt:Kp->Option (qn×List jb)) (rr06_gen_branches:Kp->Option (qn×List jb)) (rr06_gen_around:Zd->Option (qn×List jb)) (x:(Sx×Int×Int×Int)×qn×List jb):Option (qn×List jb):=
 (obind (b7 ((x.1.2.1,x.1.q3,0,0,0,0),x.2)) λJ=>(bn (av (af x.2.2) (af x.2.2)&&ajp) (obind (rr06_gen_stmts ((Sx.body x.1.1),J)) λI=>(bn (av (af J.2) (af J.2)&&ajp) (obind (b7 ((x.1.p2,x.1.q3,0,0,0,0),(I.1.1,I.1.2.1,I.1.p2,I.1.p3,I.1.p4,I.1.p5,I.1.p6,x.2.1.p7,I.1.q8),I.2)) λM=>(bn (av (af I.2) (af I.2)&&ajp) (ajn M)))))))
mutual
def c7:Nat->Zc->Option (qn×List jb)
 |0,_=>ajo
 |n+1,x=>pl (c7 n) (dN n) (cF n) (cZ n) x
def dN:Nat->Kp->Option (qn×List jb)
 |0,_=>ajo
 |n+1,x=>qz (c7 n) (dN n) (cF n) (cZ n) x
def cF:Nat->Kp->Option (qn×List jb)
 |0,_=>ajo
 |n+1,x=>lm (c7 n) (dN n) (cF n) (cZ n) x
def cZ:Nat->Zd->Option (qn×List jb)
 |0,_=>ajo
 |n+1,x=>nP (c7 n) (dN n) (cF n) (cZ n) x
end
def sA (x:(List Sx)×qn×List jb):Option (qn×List jb):=c7 fuel x
def pa (x:qF×List qE):Option (yd×Int×Int):=
 (obind (eg x) λy1=>(ik y1.1 0 (ajn (((([]:List QD),([]:List ((List UInt8)×Bool)),([]:List eh),([]:List (List UInt8)),([]:List (List UInt8)),([]:List (Int×Int×Int))),([]:List (Int×List jb))),y1)) (obind (sB x) λy2=>(iter (σ:=(Int×Int)×(qF×List qE)×dv×List (Int×List jb)) (λJ=>(bk J.1.2 (aP J.2.1.2) (bw rn J.2.1.2 J.1.2 λz4=>(bw rn J.2.1.2 J.1.2 λz5=>(obind (sA (z5.2.2.2,(J.p2.1,J.p2.2.1,J.p2.p2,J.p2.p3,J.p2.p4,J.p2.q5,z4.2.2.1,0,J.1.1),([]:List jb))) λU=>(bn (av (af ([]:List jb)) (af ([]:List jb))&&ajp) (obind (b7 ((28,0,0,0,0,0),(U.1.1,U.1.2.1,U.1.p2,U.1.p3,U.1.p4,U.1.p5,U.1.p6,(-1),U.1.q8),U.2)) λy7=>(bn (av (af U.2) (af U.2)&&ajp) (iter (σ:=Int×(qF×List qE)×dv×qn×Int×(List (Int×List jb))×List jb) (λM=>(bk M.1 (aP M.q6) (kf pG M.q6 M.1 λz9=>(obind (iL z9) λY=>(iter (σ:=Int×(qF×List qE)×dv×qn×Int×(List (Int×List jb))×List jb) (λI=>(bk I.1 (aP Y) (bw aH Y I.1 λZ=>(cu ((ca I.1),I.2.1,I.p2,I.p3,(jv I.p4 (ca Z)),I.q5))) (ax (nG ((ca M.1),I.2))))) (0,M.2)))) (obind (bn (aT (af M.p5+af ([(M.p4,M.q6)])) 32) (cu ((U.1.q8,(ca J.1.2)),M.2.1,M.p2,(M.p5++([(M.p4,M.q6)]))))) λr=>ajn (bM r)))) (0,J.2.1,J.p2,y7.1,(aP y7.1.p6),J.q3,y7.2)))))))) (ax (J.2.2,0,0)))) ((0,0),x,y2,([]:List (Int×List jb)))))))
def o9 (x:(List Int)×Int):Option (Bool):=
 (iter (σ:=Int) (λI=>(bk I (aP x.1) (bw aH x.1 I λJ=>(aX J x.2 (ax ajp) (cu (ca I)))) (ax ajq))) 0)
def uJ (x:(List Int)×Int):Option (List Int):=
 (iter (σ:=Int) (λI=>(jn (α:=Bool) (bk I (aP x.1) (bw aH x.1 I λM=>(ax (eX M x.2))) (ax ajq)) λY=>(bcase Y (cu (ca I)) (obind (jn (α:=Bool) (bk I (aP x.1) (bw aH x.1 I λJ=>(ax (decide ((J:Int)=x.2)))) (ax ajq)) λU=>(bcase U (ajn x.1) (bn (cD 0 I&&cD I (af x.1)) (bn (aT (af ([]:List Int)+af (db (aL I) x.1)) 8) (bn (aT (af (([]:List Int)++(db (aL I) x.1))+af ([x.2])) 8) (bn (cD 0 I&&cD I (af x.1)) (bn (aT (af ((([]:List Int)++(db (aL I) x.1))++([x.2]))+af (List.drop (aL I) x.1)) 8) (ajn (((([]:List Int)++(db (aL I) x.1))++([x.2]))++(List.drop (aL I) x.1)))))))))) λr=>ajn (bM r))))) 0)
def pW (x:(List Int)×List Int):Option (List Int):=
 (iter (σ:=(List Int)×Int) (λJ=>(bk J.2 (aP x.1) (bw aH x.1 J.2 λU=>(obind (uJ (J.1,U)) λZ=>(cu (Z,(ca J.2))))) (obind (iter (σ:=(List Int)×Int) (λI=>(bk I.2 (aP x.2) (bw aH x.2 I.2 λM=>(obind (uJ (I.1,M)) λY=>(cu (Y,(ca I.2))))) (ax I.1))) (J.1,0)) λr=>ajn (bM r)))) (([]:List Int),0))
def kW (x:Int):Option (Int):=
 (jn (α:=Bool) (bk x 1 (ax ajp) (ax (eX 100 x))) λI=>(bcase I (ajn 0) (ajn x)))
def bR (x:Int×(List Int)×(List (List Int))×Int):Option ((Int×Int)×(List Int)×List (List Int)):=
 (bn (aT (af ([]:List Int)+af x.2.1) 8) (iter (σ:=Int×sd×(Int×Int)×(Int×Int)×(List Int)×List (List Int)) (λI=>(bk I.1 (aP I.2.1.p2) (bw (.sl aH) I.2.1.p2 I.1 λJ=>(bn (aT (af ([]:List Int)+af J) 8) (bn (aT (af I.q5+af ([(([]:List Int)++J)])) 24) (cu ((ca I.1),I.2.1,I.p2,I.p3,I.p4,(I.q5++([(([]:List Int)++J)]))))))) (ax I.q3))) (0,x,(0,0),(x.1,x.q3),(([]:List Int)++x.2.1),([]:List (List Int)))))
def uI (x:(jb×Int×Int)×(List Int)×List (List Int)):Option (((Int×Int)×Bool)×(List Int)×List (List Int)):=
 (obind (iL x.1.1) λy1=>(iter (σ:=Int×(List Int)×(List (List Int))×jb×(Int×Int)×Int×Int) (λI=>(bk I.1 (aP y1) (jn (α:=Bool×(List Int)×(List (List Int))×jb×(Int×Int)×Int×Int) (bw aH y1 I.1 λz4=>(bk z4 0 (ax (ajp,I.2)) (bw aH y1 I.1 λz5=>(ax ((cD (aP I.2.1) z5),I.2))))) λx3=>(bcase x3.1 ajo (cu ((ca I.1),x3.2)))) (obind (jn (α:=(Int×Bool×List Int)×(List Int)×(List (List Int))×jb×(Int×Int)×Int×Int) (aX I.p3.1 5 (cu (((I.p3.2.1,I.p4.2),ajp),I.2.1,I.p2)) (aX I.p3.1 1 (ax ((I.p3.p4,ajp,([]:List Int)),I.2)) (aX I.p3.1 2 (kf aH I.2.1 I.p3.p2 λz7=>(kf (.sl aH) I.p2 I.p3.p2 λz8=>(ax ((z7,ajp,z8),I.2)))) (aX I.p3.1 3 (obind (kW I.p3.p4) λy9=>(kf aH I.2.1 I.p3.p2 λz10=>(obind (sC (y9,z10)) λU=>(kf (.sl aH) I.p2 I.p3.p2 λz12=>(ax ((U.1,U.2,z12),I.2)))))) (obind (kW I.p3.p4) λy13=>(kf aH I.2.1 I.p3.p2 λz14=>(kf aH I.2.1 I.p3.p3 λz15=>(obind (qK (y13,z14,z15)) λM=>(kf (.sl aH) I.p2 I.p3.p2 λZ=>(kf (.sl aH) I.p2 I.p3.p3 λY=>(obind (pW (Z,Y)) λy19=>(ax ((M.1,M.2,y19),I.2))))))))))))) λJ=>(bn (aT (af ([]:List Int)+af J.1.2.2) 8) (ck (eS J.p3.2.1 (af J.2.1)) (ck (eS J.p3.2.1 (af J.p2)) (ajn ((((ca J.p4.1),J.p4.2),J.1.2.1),(cw J.2.1 J.p3.2.1 J.1.1),(cw J.p2 J.p3.2.1 (([]:List Int)++J.1.2.2)))))))) λr=>ajn (bM r)))) (0,x.2.1,x.2.2,x.1.1,x.1.2,0,0)))
def l8 (x:(Int×List jb)×Int×(List Int)×(List (List Int))×Int):Option (sd×Bool):=
 (jn (α:=Bool×(Int×List jb)×sd×Int×Int) (ik (aP x.p2) x.1.1 (ax (ajp,x.1,x.2,0,0)) (ax ((!decide (((aP x.p3):Int)=x.1.1)),x.1,x.2,0,0))) λU=>(bcase U.1 (ajn ((0,([]:List Int),([]:List (List Int)),0),ajq)) (obind (bR U.p2) λZ=>(iter (σ:=Int×(Int×List jb)×(Int×Int)×(Int×Int)×(List Int)×List (List Int)) (λJ=>(jf J.1 (aP J.2.1.2) (jn (α:=Bool×(Int×List jb)×(Int×Int)×(Int×Int)×(List Int)×List (List Int)) (bk J.p2.1 0 (ax (ajp,J.2)) (ax ((cD (aP J.2.1.2) J.p2.1),J.2))) λI=>(bcase I.1 (ax ((0,([]:List Int),([]:List (List Int)),0),ajq)) (bw pG I.2.1.2 I.p2.1 λY=>(obind (oB Y.1) λy6=>(bcase (!y6) (ax ((I.p2.1,I.p4,I.q5,I.p2.2),ajp)) (aX J.1 (aP I.2.1.2) (ax ((0,([]:List Int),([]:List (List Int)),0),ajq)) (obind (uI ((Y,I.p2),I.q4)) λM=>(bn (av (af I.q5) (af M.2.2)&&(av (af I.p4) (af M.2.1)&&ajp)) (bcase (!M.1.2) (ax ((0,([]:List Int),([]:List (List Int)),0),ajq)) (cu ((ca J.1),I.2.1,M.1.1,I.p3,M.2))))))))))) (ax ((0,([]:List Int),([]:List (List Int)),0),ajq)))) (0,U.2.1,Z.1,U.q3,Z.2)))))
def pU (x:fY×fH×(List eh)×bP×bP×List (Int×Int×Int)):Option nU:=
 (iter (σ:=Int×dv×Int×Int×List (Int×List Int)) (λM=>(bk M.1 (aP M.2.1.2.1) (bn (aT (af M.q4+af ([((-1),([]:List Int))])) 32) (cu ((ca M.1),M.2.1,M.p2,M.p3,(M.q4++([((-1),([]:List Int))]))))) (obind (iter (σ:=Int×dv×Int×Int×fG×List Bool) (λJ=>(bk J.1 (aP J.2.1.p3) (bn (aT (af J.q5+af ([ajq])) 1) (cu ((ca J.1),J.2.1,J.p2,J.p3,J.p4,(J.q5++([ajq]))))) (obind (iter (σ:=Int×dv×Int×Int×fG×(List Bool)×List cQ) (λI=>(bk I.1 (aP I.2.1.p4) (jn (α:=dv×Int×Int×cQ×fG×(List Bool)×List cQ) (aX I.1 0 (ax (I.2.1,I.p2,I.p3,(1,0,ajq),I.q4)) (ax (I.2.1,I.p2,I.p3,(0,0,ajq),I.q4))) λU=>(bn (aT (af U.q6+af ([U.p3])) 24) (cu ((ca I.1),U.1,U.2.1,U.p2,U.p4,U.p5,(U.q6++([U.p3])))))) (ax (I.p4,I.p3,I.q5)))) (0,J.2.1,J.p2,J.p3,J.p4,J.q5,([]:List cQ))) λr=>ajn (bM r)))) (0,M.2.1,M.p2,M.p3,M.q4,([]:List Bool))) λr=>ajn (bM r)))) (0,x,0,(-1),([]:List (Int×List Int))))
def pV (x:dv×fG×Int×(List Bool)×List cQ):Option (Bool):=
 (iter (σ:=Int×dv×fG×Int×(List Bool)×List cQ) (λI=>(bk I.1 (aP I.2.1.p2) (jn (α:=Bool×dv×fG×Int×(List Bool)×List cQ) (bw kC I.2.1.p2 I.1 λU=>(bk U.2 0 (ax (ajp,I.2)) (bw kC I.2.1.p2 I.1 λM=>(ax ((cD (aP I.2.1.2.1) M.2),I.2))))) λJ=>(bcase J.1 (ax ajq) (cu ((ca I.1),J.2)))) (obind (jn (α:=Bool) (aX (aP I.p2) (aP I.2.1.2.1) (aX (aP I.p4) (aP I.2.1.p3) (ax (decide (((aP I.q5):Int)=(aP I.2.1.p4)))) (ax ajq)) (ax ajq)) λY=>(ajn Y)) λr=>ajn (bM r)))) (0,x))
def o8 (x:Int×Int):Option (Bool):=
 (jn (α:=Bool) (jf 0 x.1 (ax (eX x.1 x.2)) (ax ajq)) λI=>(ajn I))
def sx (x:dv×Int×Int):Option (Bool):=
 (jn (α:=Bool×fY×fH×(List eh)×bP×bP×List (Int×Int×Int)) (aX x.2.1 1 (ax ((decide ((x.2.1:Int)=1)),x.1)) (aX x.2.1 2 (ax ((decide ((x.2.1:Int)=2)),x.1)) (aX x.2.1 5 (ax ((decide ((x.2.1:Int)=5)),x.1)) (aX x.2.1 12 (ax ((decide ((x.2.1:Int)=12)),x.1)) (aX x.2.1 13 (ax ((decide ((x.2.1:Int)=13)),x.1)) (aX x.2.1 14 (ax ((decide ((x.2.1:Int)=14)),x.1)) (ax ((decide ((x.2.1:Int)=15)),x.1)))))))) λx1=>(bcase x1.1 (ajn (decide ((x.2.2:Int)=(-1)))) (jn (α:=Bool×fY×fH×(List eh)×bP×bP×List (Int×Int×Int)) (aX x.2.1 3 (ax ((decide ((x.2.1:Int)=3)),x1.2)) (ax ((decide ((x.2.1:Int)=4)),x1.2))) λZ=>(bcase Z.1 (obind (o8 (x.2.2,(aP Z.2.1))) λy3=>(ajn y3)) (jn (α:=Bool×fY×fH×(List eh)×bP×bP×List (Int×Int×Int)) (aX x.2.1 6 (ax ((decide ((x.2.1:Int)=6)),Z.2)) (ax ((decide ((x.2.1:Int)=7)),Z.2))) λU=>(bcase U.1 (jn (α:=Bool) (obind (o8 (x.2.2,(aP U.p2))) λy6=>(bcase y6 (bw pI U.p2 x.2.2 λz7=>(ax (!z7.2))) (ax ajq))) λx5=>(ajn x5)) (jn (α:=Bool×fY×fH×(List eh)×bP×bP×List (Int×Int×Int)) (aX x.2.1 8 (ax ((decide ((x.2.1:Int)=8)),U.2)) (aX x.2.1 9 (ax ((decide ((x.2.1:Int)=9)),U.2)) (aX x.2.1 10 (ax ((decide ((x.2.1:Int)=10)),U.2)) (ax ((decide ((x.2.1:Int)=11)),U.2))))) λM=>(bcase M.1 (jn (α:=Bool) (obind (o8 (x.2.2,(aP M.p2))) λy10=>(bcase y10 (bw pI M.p2 x.2.2 λz11=>(ax z11.2)) (ax ajq))) λx9=>(ajn x9)) (jn (α:=Bool×fY×fH×(List eh)×bP×bP×List (Int×Int×Int)) (aX x.2.1 16 (ax ((decide ((x.2.1:Int)=16)),M.2)) (aX x.2.1 17 (ax ((decide ((x.2.1:Int)=17)),M.2)) (aX x.2.1 18 (ax ((decide ((x.2.1:Int)=18)),M.2)) (ax ((decide ((x.2.1:Int)=19)),M.2))))) λJ=>(bcase J.1 (obind (o8 (x.2.2,(aP J.p3))) λy13=>(ajn y13)) (jn (α:=Bool×fY×fH×(List eh)×bP×bP×List (Int×Int×Int)) (aX x.2.1 20 (ax ((decide ((x.2.1:Int)=20)),J.2)) (ax ((decide ((x.2.1:Int)=21)),J.2))) λI=>(bcase I.1 (obind (o8 (x.2.2,(aP I.p5))) λy15=>(ajn y15)) (jn (α:=Bool×fY×fH×(List eh)×bP×bP×List (Int×Int×Int)) (aX x.2.1 22 (ax ((decide ((x.2.1:Int)=22)),I.2)) (ax ((decide ((x.2.1:Int)=23)),I.2))) λY=>(bcase Y.1 (obind (o8 (x.2.2,(aP Y.p4))) λy17=>(ajn y17)) (ajn ajq)))))))))))))))
def js (x:dv×nU×Int×Int×Int):Option (Bool):=
 (jn (α:=Bool×dv×fG×Int×(List Bool)×List cQ) (obind (pV (x.1,x.2.1)) λy2=>(bcase (!y2) (ax (ajp,x.1,x.2.1)) (obind (o8 (x.p2,(aP x.1.p4))) λy3=>(bcase (!y3) (ax (ajp,x.1,x.2.1)) (obind (sx (x.1,x.q3)) λy4=>(ax ((!y4),x.1,x.2.1))))))) λM=>(bcase M.1 (ajn ajq) (bw gm M.q5 x.p2 λU=>(aX x.p3 1 (ajn (decide ((U.1:Int)=1))) (aX x.p3 17 (jn (α:=Bool) (aX U.1 4 (aX U.2.1 x.q4 (bw kC M.2.1.p2 x.q4 λz7=>(bw dt M.p2 z7.2 λz8=>(ax (decide ((z8.1:Int)=(-1)))))) (ax ajq)) (ax ajq)) λx6=>(ajn x6)) (ik U.1 2 (ajn ajq) (aX x.p3 6 (bw dt M.p2 x.q4 λz9=>(ajn (decide ((z9.1:Int)=(-1))))) (aX x.p3 10 (jn (α:=Bool) (bw dt M.p2 x.q4 λz11=>(aX z11.1 (-1) (bw dt M.p2 x.q4 λz12=>(ax (decide (((aP z12.2):Int)=0)))) (ax ajq))) λx10=>(ajn x10)) (aX x.p3 8 (jn (α:=Bool) (bw dt M.p2 x.q4 λz14=>(aX z14.1 (-1) (bw dt M.p2 x.q4 λz15=>(obind (o9 (z15.2,x.p2)) λy16=>(ax (!y16)))) (ax ajq))) λx13=>(ajn x13)) (jn (α:=Bool×dv×nU×Int×Int×Bool) (aX x.p3 7 (ax ((decide ((x.p3:Int)=7)),M.2.1,M.2.2,U)) (ax ((decide ((x.p3:Int)=11)),M.2.1,M.2.2,U))) λI=>(bcase I.1 (bw dt I.p2.1 x.q4 λz18=>(ajn (decide ((z18.1:Int)=x.p2)))) (aX x.p3 9 (bw dt I.p2.1 x.q4 λz19=>(obind (o9 (z19.2,x.p2)) λy20=>(ajn y20))) (aX x.p3 12 (ajn (decide ((I.p2.2.1:Int)=(-1)))) (aX x.p3 13 (ajn (decide ((I.p2.2.1:Int)=x.p2))) (aX x.p3 14 (ajn (!I.q5)) (aX x.p3 15 (ajn I.q5) (jn (α:=Bool×dv×fG×Int×(List Bool)×List cQ) (aX x.p3 16 (ax ((decide ((x.p3:Int)=16)),I.2.1,I.p2)) (aX x.p3 18 (ax ((decide ((x.p3:Int)=18)),I.2.1,I.p2)) (ax ((decide ((x.p3:Int)=19)),I.2.1,I.p2)))) λJ=>(bcase J.1 (bw kC J.2.1.p2 x.q4 λz22=>(bw dt J.p2 z22.2 λz23=>(ajn (decide ((z23.1:Int)=x.p2))))) (aX x.p3 20 (jn (α:=Bool) (ik x.q4 x.p2 (bw gm J.q5 x.q4 λz25=>(ax (decide ((z25.1:Int)=0)))) (ax ajq)) λx24=>(ajn x24)) (aX x.p3 21 (jn (α:=Bool) (ik x.q4 x.p2 (bw gm J.q5 x.q4 λz27=>(ax (decide ((z27.1:Int)=5)))) (ax ajq)) λx26=>(ajn x26)) (aX x.p3 22 (bw (.bool) J.p4 x.q4 λZ=>(ajn (!Z))) (aX x.p3 23 (bw (.bool) J.p4 x.q4 λY=>(ajn Y)) (ajn ajp)))))))))))))))))))))))
def mz (x:nU×Int):Option (List Int):=
 (iter (σ:=Int×nU×List Int) (λI=>(bk I.1 (aP I.2.1.q3) (jn (α:=nU×List Int) (jn (α:=Bool×nU×List Int) (bw gm I.2.1.q3 I.1 λU=>(aX U.1 3 (bw gm I.2.1.q3 I.1 λM=>(ax ((decide ((M.2.1:Int)=x.2)),I.2))) (ax (ajq,I.2)))) λJ=>(bcase J.1 (bn (aT (af J.2.2+af ([I.1])) 8) (ax (J.2.1,(J.2.2++([I.1]))))) (ax J.2))) λY=>(cu ((ca I.1),Y))) (ax I.2.2))) (0,x.1,([]:List Int)))
def o7 (x:(List Int)×Int):Option (List Int):=
 (iter (σ:=Int×List Int) (λI=>(bk I.1 (aP x.1) (jn (α:=List Int) (bw aH x.1 I.1 λM=>(ik M x.2 (bw aH x.1 I.1 λJ=>(bn (aT (af I.2+af ([J])) 8) (ax (I.2++([J]))))) (ax I.2))) λU=>(cu ((ca I.1),U))) (ax I.2))) (0,([]:List Int)))
def gx (x:fG×Int×(List Bool)×List cQ):Option (Int×fG×(List Bool)×List cQ):=
 (bn (aT (af ([]:List Bool)+af x.p2) 1) (bn (aT (af ([]:List cQ)+af x.q3) 24) (iter (σ:=Int×nU×Int×Int×fG×(List Bool)×List cQ) (λI=>(bk I.1 (aP I.2.1.1) (bw dt I.2.1.1 I.1 λM=>(bw dt I.2.1.1 I.1 λJ=>(bn (aT (af ([]:List Int)+af J.2) 8) (bn (aT (af I.p4+af ([(M.1,(([]:List Int)++J.2))])) 32) (cu ((ca I.1),I.2.1,I.p2,I.p3,(I.p4++([(M.1,(([]:List Int)++J.2))])),I.q5)))))) (ax I.q3))) (0,x,0,x.2.1,([]:List (Int×List Int)),(([]:List Bool)++x.p2),(([]:List cQ)++x.q3)))))
def kV (x:(Int×Int)×fG×(List Bool)×List cQ):Option ((List Int)×fG×(List Bool)×List cQ):=
 (iter (σ:=Int×fG×(List Bool)×(List cQ)×Int×List Int) (λI=>(bk I.1 (aP I.p3) (jn (α:=fG×(List Bool)×(List cQ)×Int×List Int) (jn (α:=Bool×fG×(List Bool)×(List cQ)×Int×List Int) (kf gm I.p3 I.1 λU=>(aX U.1 3 (kf gm I.p3 I.1 λM=>(ax ((decide ((M.2.1:Int)=x.1.2)),I.2))) (ax (ajq,I.2)))) λJ=>(bcase J.1 (bn (aT (af J.q5+af ([I.1])) 8) (ax (J.2.1,J.p2,J.p3,J.p4,(J.q5++([I.1]))))) (ax J.2))) λY=>(cu ((ca I.1),Y))) (ax (I.q5,I.2.1,I.p2,I.p3)))) (0,x.2.1,x.p2,x.q3,x.1.1,([]:List Int)))
def iJ (x:(Int×Int)×fG×(List Bool)×List cQ):Option (List Int):=obind (kV x) λy=>same y.2 x.2 (ajn y.1)
def od (x:dv×nU×Int×Int×Int×Int):Option (nU×Int×Bool):=
 (obind (js (x.1,x.2.1,x.p2,x.p3,x.p4)) λy1=>(bcase (!y1) (ajn ((([]:List (Int×List Int)),0,([]:List Bool),([]:List cQ)),0,ajq)) (obind (gx x.2.1) λU=>(jn (α:=Int×Int×Int×fG×(List Bool)×List cQ) (aX x.p3 1 (ck (eS x.p2 (af U.q3)) (ax (0,U.1,0,U.2.1,U.p2,(cw U.q3 x.p2 (2,(aD (T:=gm) U.q3 x.p2).2))))) (aX x.p3 2 (ck (eS x.p2 (af U.q3)) (ax (0,U.1,0,U.2.1,U.p2,(cw U.q3 x.p2 (5,(aD (T:=gm) U.q3 x.p2).2))))) (jn (α:=Bool×dv×Int×Int×fG×(List Bool)×List cQ) (aX x.p3 6 (ax ((decide ((x.p3:Int)=6)),x.1,U.1,0,U.2)) (ax ((decide ((x.p3:Int)=10)),x.1,U.1,0,U.2))) λY=>(bcase Y.1 (ck (eS x.p4 (af Y.p4)) (ax (0,Y.p2,Y.p3,(cw Y.p4 x.p4 (x.p2,(aD (T:=dt) Y.p4 x.p4).2)),Y.q5))) (jn (α:=Bool×dv×Int×Int×fG×(List Bool)×List cQ) (aX x.p3 7 (ax ((decide ((x.p3:Int)=7)),Y.2)) (ax ((decide ((x.p3:Int)=11)),Y.2))) λI=>(bcase I.1 (ck (eS x.p4 (af I.p4)) (ax (0,I.p2,I.p3,(cw I.p4 x.p4 ((-1),(aD (T:=dt) I.p4 x.p4).2)),I.q5))) (aX x.p3 8 (kf dt I.p4 x.p4 λz6=>(obind (pW (z6.2,[x.p2])) λy7=>(ck (eS x.p4 (af I.p4)) (ax (0,I.p2,I.p3,(cw I.p4 x.p4 ((aD (T:=dt) I.p4 x.p4).1,y7)),I.q5))))) (aX x.p3 9 (kf dt I.p4 x.p4 λz8=>(obind (o7 (z8.2,x.p2)) λy9=>(ck (eS x.p4 (af I.p4)) (ax (0,I.p2,I.p3,(cw I.p4 x.p4 ((aD (T:=dt) I.p4 x.p4).1,y9)),I.q5))))) (aX x.p3 12 (ax (0,x.p2,I.q3)) (aX x.p3 13 (ax (0,(-1),I.q3)) (aX x.p3 14 (ck (eS x.p2 (af I.q6)) (ax (0,I.p2,I.p3,I.p4,I.p5,(cw I.q6 x.p2 ((aD (T:=gm) I.q6 x.p2).1,((aD (T:=gm) I.q6 x.p2).2).1,ajp))))) (aX x.p3 15 (ck (eS x.p2 (af I.q6)) (ax (0,I.p2,I.p3,I.p4,I.p5,(cw I.q6 x.p2 ((aD (T:=gm) I.q6 x.p2).1,((aD (T:=gm) I.q6 x.p2).2).1,ajq))))) (aX x.p3 16 (bw kC I.2.1.p2 x.p4 λz10=>(ck (eS z10.2 (af I.p4)) (ck (eS x.p2 (af I.q6)) (ck (eS x.p2 (af (cw I.q6 x.p2 (3,(aD (T:=gm) I.q6 x.p2).2)))) (ax (0,I.p2,I.p3,(cw I.p4 z10.2 ((-1),(aD (T:=dt) I.p4 z10.2).2)),I.p5,(cw (cw I.q6 x.p2 (3,(aD (T:=gm) I.q6 x.p2).2)) x.p2 ((aD (T:=gm) (cw I.q6 x.p2 (3,(aD (T:=gm) I.q6 x.p2).2)) x.p2).1,x.p4,((aD (T:=gm) (cw I.q6 x.p2 (3,(aD (T:=gm) I.q6 x.p2).2)) x.p2).2).2)))))))) (aX x.p3 17 (bw kC I.2.1.p2 x.p4 λz11=>(ck (eS z11.2 (af I.p4)) (ck (eS x.p2 (af I.q6)) (ck (eS x.p2 (af (cw I.q6 x.p2 (2,(aD (T:=gm) I.q6 x.p2).2)))) (ax (0,I.p2,I.p3,(cw I.p4 z11.2 (x.p2,(aD (T:=dt) I.p4 z11.2).2)),I.p5,(cw (cw I.q6 x.p2 (2,(aD (T:=gm) I.q6 x.p2).2)) x.p2 ((aD (T:=gm) (cw I.q6 x.p2 (2,(aD (T:=gm) I.q6 x.p2).2)) x.p2).1,0,((aD (T:=gm) (cw I.q6 x.p2 (2,(aD (T:=gm) I.q6 x.p2).2)) x.p2).2).2)))))))) (aX x.p3 18 (obind (iJ ((I.p2,x.p4),I.q4)) λy12=>(bk 0 (aP y12) (bw aH y12 0 λz13=>(jn (α:=Int×Int×Int×fG×(List Bool)×List cQ) (obind (o9 (y12,x.q5)) λy15=>(bcase y15 (ax (x.q5,I.2.2)) (ax (z13,I.2.2)))) λM=>(ck (eS M.1 (af M.q5)) (ax (M.1,M.2.1,M.p2,M.p3,M.p4,(cw M.q5 M.1 (4,(aD (T:=gm) M.q5 M.1).2))))))) (ax ((-1),I.2.2)))) (aX x.p3 19 (obind (iJ ((I.p2,x.p4),I.q4)) λy16=>(iter (σ:=Int×Int×Int×fG×(List Bool)×List cQ) (λJ=>(bk J.1 (aP y16) (bw aH y16 J.1 λZ=>(ck (eS Z (af J.q5)) (cu ((ca J.1),J.2.1,J.p2,J.p3,J.p4,(cw J.q5 Z (4,(aD (T:=gm) J.q5 Z).2)))))) (ax (bM ((aP y16),J.2))))) (0,I.2.2))) (aX x.p3 20 (ck (eS x.p4 (af I.q6)) (ax (0,I.p2,I.p3,I.p4,I.p5,(cw I.q6 x.p4 (1,(aD (T:=gm) I.q6 x.p4).2))))) (aX x.p3 22 (ck (eS x.p4 (af I.p5)) (ax (0,I.p2,I.p3,I.p4,(cw I.p5 x.p4 ajp),I.q6))) (ax (0,I.2.2)))))))))))))))))))) λx3=>(ajn ((x3.p3,x3.2.1,x3.q4),x3.1,ajp))))))
def sw (x:dv×List (Int×List jb)):Option vp:=
 (obind (iK x) λy1=>(bcase (!y1) (ajn ((([]:List (Int×List Int)),0,([]:List Bool),([]:List cQ)),([]:List Int),([]:List Int),([]:List sd))) (obind (pU x.1) λy2=>(iter (σ:=Int×yd×Int×nU×List Int) (λM=>(bk M.1 (aP M.2.1.1.1) (bw jI M.2.1.1.1 M.1 λZ=>(bn (aT (af M.q4+af ([Z.2.2.2.2])) 8) (cu ((ca M.1),M.2.1,M.p2,M.p3,(M.q4++([Z.2.2.2.2])))))) (obind (iter (σ:=Int×yd×Int×nU×(List Int)×List Int) (λJ=>(bk J.1 (aP J.2.1.1.p3) (bn (aT (af J.q5+af ([0])) 8) (cu ((ca J.1),J.2.1,J.p2,J.p3,J.p4,(J.q5++([0]))))) (obind (iter (σ:=Int×yd×Int×nU×(List Int)×(List Int)×List sd) (λI=>(bk I.1 (aP I.2.1.2) (vA I.1 I.2.1.2 (lt ((aD (T:=vu) I.2.1.2 I.1).1) λY=>(bn (cD 0 Y&&cD Y Y&&aT (aL Y) 8) (vA I.1 I.2.1.2 (lt ((aD (T:=vu) I.2.1.2 I.1).1) λU=>(bn (cD 0 U&&cD U U&&aT (aL U) 24) (bn (aT (af I.q6+af ([(0,(ay (aL Y) (0:Int)),(ay (aL U) ([]:List Int)),0)])) 64) (cu ((ca I.1),I.2.1,I.p2,I.p3,I.p4,I.p5,(I.q6++([(0,(ay (aL Y) (0:Int)),(ay (aL U) ([]:List Int)),0)]))))))))))) (ax I.q3))) (0,J.2.1,J.p2,J.p3,J.p4,J.q5,([]:List sd))) λr=>ajn (bM r)))) (0,M.2.1,M.p2,M.p3,M.q4,([]:List Int))) λr=>ajn (bM r)))) (0,x,0,y2,([]:List Int))))))
def uH (x:yd×nU×(List Int)×(List Int)×List sd):Option (Bool):=
 (jn (α:=Bool×yd×nU×(List Int)×(List Int)×List sd) (obind (iK x.1) λy2=>(bcase (!y2) (ax (ajp,x)) (obind (pV (x.1.1,x.2.1)) λy3=>(bcase (!y3) (ax (ajp,x)) (ik (aP x.p2) (aP x.1.1.1) (ax (ajp,x)) (ik (aP x.p3) (aP x.1.1.p3) (ax (ajp,x)) (ax ((!decide (((aP x.q4):Int)=(aP x.1.2))),x)))))))) λU=>(bcase U.1 (ajn ajq) (iter (σ:=Int×yd×nU×(List Int)×(List Int)×List sd) (λI=>(bk I.1 (aP I.2.1.2) (bw dR I.q5 I.1 λJ=>(jn (α:=Bool×yd×nU×(List Int)×(List Int)×List sd) (bk J.1 0 (ax (ajp,I.2)) (bw vu I.2.1.2 I.1 λz7=>(jf (aP z7.2) J.1 (ax (ajp,I.2)) (bw vu I.2.1.2 I.1 λZ=>(ik (aP J.2.1) Z.1 (ax (ajp,I.2)) (bw vu I.2.1.2 I.1 λY=>(ax ((!decide (((aP J.p2):Int)=Y.1)),I.2)))))))) λM=>(bcase M.1 (ax ajq) (cu ((ca I.1),M.2))))) (ax ajp))) (0,U.2))))
def uF (x:Int):Option (Int):=
 (jn (α:=Bool×List Int) (bk x 6 (ax (ajp,[3,3,4,4,5,6,7,8,9,10,11,12,13,14,15,16,18,19,20,21,22,23,2])) (ax ((eX 28 x),[3,3,4,4,5,6,7,8,9,10,11,12,13,14,15,16,18,19,20,21,22,23,2]))) λI=>(bcase I.1 (ajn 0) (kf aH I.2 (be .i64 (x-6)) λJ=>(ajn J))))
def qJ (x:jb×Int×(List Int)×(List (List Int))×Int):Option (Int):=
 (jn (α:=Bool×jb×Int×(List Int)×(List (List Int))×Int) (aX x.1.1 6 (ax ((decide ((x.1.1:Int)=6)),x)) (ax ((decide ((x.1.1:Int)=27)),x))) λI=>(bcase I.1 (ajn I.2.1.p2) (aX x.1.1 7 (bw aH I.p3 I.2.1.p3 λU=>(obind (pX (U,I.2.1.p4)) λZ=>(ajn (be .i64 (I.2.1.p2+Z))))) (aX x.1.1 9 (bw aH I.p3 I.2.1.p3 λM=>(obind (pX (M,I.2.1.p4)) λY=>(ajn (be .i64 (I.2.1.2.1+Y))))) (jn (α:=Bool×Int×Int×Int×Int×Int×Int) (aX x.1.1 10 (ax ((decide ((x.1.1:Int)=10)),I.2.1)) (aX x.1.1 17 (ax ((decide ((x.1.1:Int)=17)),I.2.1)) (aX x.1.1 18 (ax ((decide ((x.1.1:Int)=18)),I.2.1)) (aX x.1.1 19 (ax ((decide ((x.1.1:Int)=19)),I.2.1)) (aX x.1.1 20 (ax ((decide ((x.1.1:Int)=20)),I.2.1)) (ax ((decide ((x.1.1:Int)=28)),I.2.1))))))) λJ=>(bcase J.1 (ajn (-1)) (ajn J.p2)))))))
def my (x:yd×vp×Int):Option (gk×Bool):=
 (jn (α:=Bool×yd×vp×Int×Int×Int×Int×Int) (obind (uH (x.1,x.2.1)) λy2=>(bcase (!y2) (ax (ajp,x.1,x.2.1,0,0,0,0,0)) (bk x.2.2 0 (ax (ajp,x.1,x.2.1,0,0,0,0,0)) (ax ((cD (aP x.1.2) x.2.2),x.1,x.2.1,0,0,0,0,0))))) λZ=>(bcase Z.1 (ajn ((0,0,0,0,0,([]:List Int),([]:List Int)),ajq)) (bw dR Z.p2.q3 x.2.2 λz3=>(bw vu Z.2.1.2 x.2.2 λz4=>(bw pG z4.2 z3.1 λM=>(bw gm Z.p2.1.q3 x.2.2 λz6=>(aX z6.1 1 (ajn ((x.2.2,1,(-1),0,(-1),([]:List Int),([]:List Int)),ajp)) (aX z6.1 4 (bw gm Z.p2.1.q3 x.2.2 λz7=>(ajn ((x.2.2,17,z7.2.1,0,M.q5,([]:List Int),([]:List Int)),ajp))) (aX z6.1 2 (obind (uF M.1) λy8=>(obind (qJ (M,z3)) λy9=>(aX y8 0 (ajn ((0,0,0,0,0,([]:List Int),([]:List Int)),ajq)) (jn (α:=uq×sd×jb×uq×List Int) (aX M.1 10 (bw (.sl aH) z3.p2 M.2.1 λz11=>(bn (aT (af (z11:List Int)) 8) (ax (Z.q3,z3,M,(x.2.2,y8,y9,0,M.q5),z11)))) (jn (α:=Bool×uq×sd×jb×Int×Int×Int×Int×Int) (aX M.1 7 (ax ((decide ((M.1:Int)=7)),Z.q3,z3,M,x.2.2,y8,y9,0,M.q5)) (ax ((decide ((M.1:Int)=9)),Z.q3,z3,M,x.2.2,y8,y9,0,M.q5))) λI=>(bcase I.1 (bw (.sl aH) I.p2.p2 I.p3.p3 λz13=>(bn (aT (af (z13:List Int)) 8) (ax (I.2.1,I.p2,I.p3,I.q4,z13)))) (ax (I.2.1,I.p2,I.p3,I.q4,([]:List Int)))))) λY=>(jn (α:=uq×uq×(List Int)×List Int) (jn (α:=Bool×uq×sd×jb×uq×List Int) (aX Y.p2.1 8 (ax (ajp,Y)) (aX Y.p2.1 9 (ax (ajp,Y)) (ax ((decide ((Y.p2.1:Int)=26)),Y)))) λJ=>(bcase J.1 (bw (.sl aH) J.p2.p2 J.p3.p2 λz16=>(bn (aT (af (z16:List Int)) 8) (ax (J.2.1,J.p4,J.q5,z16)))) (ax (J.2.1,J.p4,J.q5,([]:List Int))))) λU=>(ajn ((U.2.1.1,U.2.1.2.1,U.2.1.p2,U.2.1.p3,U.2.1.q4,U.2.2),ajp))))))) (ajn ((0,0,0,0,0,([]:List Int),([]:List Int)),ajq)))))))))))
def lI (x:fY×fH×(List eh)×bP×bP×List (Int×Int×Int)):Option dH:=
 (obind (pU x) λM=>(bn (cD 0 (aP x.p3)&&cD (aP x.p3) (aP x.p3)&&aT (aL (aP x.p3)) 8) (bn (cD 0 (aP x.p4)&&cD (aP x.p4) (aP x.p4)&&aT (aL (aP x.p4)) 8) (iter (σ:=Int×dv×Int×nU×(List Int)×(List Int)×List Int) (λI=>(bk I.1 (aP I.2.1.1) (bw jI I.2.1.1 I.1 λJ=>(bn (aT (af I.p4+af ([J.2.2.2.2])) 8) (cu ((ca I.1),I.2.1,I.p2,I.p3,(I.p4++([J.2.2.2.2])),I.q5)))) (ax I.q3))) (0,x,0,M,([]:List Int),(ay (aL (aP x.p3)) (0:Int)),(ay (aL (aP x.p4)) (0:Int)))))))
def uE (x:dv×nU×(List Int)×(List Int)×List Int):Option (Bool):=
 (jn (α:=Bool) (obind (pV (x.1,x.2.1)) λI=>(bcase I (aX (aP x.p2) (aP x.1.1) (aX (aP x.p3) (aP x.1.p3) (ax (decide (((aP x.q4):Int)=(aP x.1.p4)))) (ax ajq)) (ax ajq)) (ax ajq))) λJ=>(ajn J))
def Bn (x:Int×Int):Option (Bool):=
 (jn (α:=Bool) (jf 0 x.1 (ax (eX x.1 x.2)) (ax ajq)) λI=>(ajn I))
def mw (x:(List Int)×Int):Option (Bool):=
 (iter (σ:=Int) (λI=>(bk I (aP x.1) (jn (α:=Bool) (bw aH x.1 I λY=>(bk Y 1 (ax ajp) (bw aH x.1 I λU=>(jf x.2 U (ax ajp) (bk 0 I (bw aH x.1 I λM=>(bw aH x.1 (be .i64 (I-1)) λJ=>(ax (cD M J)))) (ax ajq)))))) λZ=>(bcase Z (ax ajq) (cu (ca I)))) (ax ajp))) 0)
def sr (x:dH×Int×Int×Int×Int×Int×(List Int)×List Int):Option (Bool):=
 (aX x.p2 3 (bw aH x.1.2.1 x.p3 λU=>(ajn (decide ((x.p4:Int)=U)))) (aX x.p2 23 (bw aH x.1.p2 x.p3 λM=>(ajn (decide ((x.p4:Int)=M)))) (aX x.p2 5 (jn (α:=Bool) (aX x.p4 0 (ax ajp) (ax (decide ((x.p4:Int)=1)))) λx3=>(ajn x3)) (jn (α:=Bool×dH×Int×Int×Int×Int×Int×(List Int)×List Int) (aX x.p2 4 (ax ((decide ((x.p2:Int)=4)),x)) (ax ((decide ((x.p2:Int)=22)),x))) λI=>(bcase I.1 (ajn ajp) (aX x.p2 18 (obind (mz (I.2.1.1,I.p4)) λJ=>(aX (aP J) 0 (ajn (decide ((I.p5:Int)=(-1)))) (jn (α:=Bool) (jf 0 I.p5 (bk I.p5 (aP I.2.1.1.q3) (obind (o9 (J,I.p5)) λZ=>(ax Z)) (ax ajq)) (ax ajq)) λx6=>(ajn x6)))) (aX x.p2 19 (obind (mz (I.2.1.1,I.p4)) λY=>(ajn (decide ((I.p5:Int)=(aP Y))))) (ajn (decide ((I.p5:Int)=0))))))))))
def pT (x:dv×dH×Int×Int×Int×Int×Int×(List Int)×List Int):Option (dH×Bool):=
 (jn (α:=Bool×dv×dH×gk×Int) (obind (uE (x.1,x.2.1)) λy2=>(bcase (!y2) (ax (ajp,x.1,x.2.1,x.2.2,0)) (obind (Bn (x.p2,(aP x.1.p4))) λy3=>(bcase (!y3) (ax (ajp,x.1,x.2.1,x.2.2,0)) (bk x.p3 1 (ax (ajp,x.1,x.2.1,x.2.2,0)) (bk 23 x.p3 (ax (ajp,x.1,x.2.1,x.2.2,0)) (obind (js (x.1,x.2.1.1,x.p2,x.p3,x.p4)) λy4=>(ax ((!y4),x.1,x.2.1,x.2.2,0))))))))) λx1=>(bcase x1.1 (ajn (((([]:List (Int×List Int)),0,([]:List Bool),([]:List cQ)),([]:List Int),([]:List Int),([]:List Int)),ajq)) (jn (α:=dv×dH×gk×Int) (jn (α:=Bool×dv×dH×gk×Int) (aX x1.p3.2.1 1 (ax (ajp,x1.2)) (ax ((decide ((x1.p3.2.1:Int)=2)),x1.2))) λx6=>(bcase x6.1 (ik x6.p3.p4 (-1) (cu (((([]:List (Int×List Int)),0,([]:List Bool),([]:List cQ)),([]:List Int),([]:List Int),([]:List Int)),ajq)) (ax x6.2)) (jn (α:=Bool×dv×dH×gk×Int) (obind (Bn (x6.p3.p4,(aP x6.2.1.q5))) λy8=>(bcase (!y8) (ax (ajp,x6.2)) (bw ne x6.2.1.q5 x6.p3.p4 λz9=>(ax ((!decide ((z9.1:Int)=x6.p3.1)),x6.2))))) λx7=>(bcase x7.1 (cu (((([]:List (Int×List Int)),0,([]:List Bool),([]:List cQ)),([]:List Int),([]:List Int),([]:List Int)),ajq)) (ax x7.2))))) λx5=>(jn (α:=Bool×dv×dH×gk×Int) (aX x5.p2.2.1 3 (ax (ajp,x5)) (ax ((decide ((x5.p2.2.1:Int)=4)),x5))) λZ=>(jn (α:=Bool×dv×dH×gk×Int) (bk 0 (aP Z.p3.p5) (ik Z.p3.2.1 5 (bcase Z.1 (bw jI Z.2.1.1 Z.p3.p2 λz12=>(ax ((!(!decide ((z12.2.2.1:Int)=0))),Z.2))) (ax (ajp,Z.2))) (ax (ajq,Z.2))) (ax (ajq,Z.2))) λx11=>(bcase x11.1 (ajn (((([]:List (Int×List Int)),0,([]:List Bool),([]:List cQ)),([]:List Int),([]:List Int),([]:List Int)),ajq)) (jn (α:=Bool×dv×dH×gk×Int) (bk 0 (aP x11.p3.q6) (ik x11.p3.2.1 4 (ax ((!decide ((x11.p3.2.1:Int)=22)),x11.2)) (ax (ajq,x11.2))) (ax (ajq,x11.2))) λU=>(bcase U.1 (ajn (((([]:List (Int×List Int)),0,([]:List Bool),([]:List cQ)),([]:List Int),([]:List Int),([]:List Int)),ajq)) (jn (α:=Bool×dv×dH×gk×Int) (bw aH U.p2.q3 U.p3.1 λz15=>(obind (mw (U.p3.p5,z15)) λy16=>(bcase (!y16) (ax (ajp,U.2)) (bw aH U.p2.q3 U.p3.1 λz17=>(obind (mw (U.p3.q6,z17)) λy18=>(bcase (!y18) (ax (ajp,U.2)) (obind (sr (U.p2,U.p3)) λy19=>(ax ((!y19),U.2))))))))) λI=>(bcase I.1 (ajn (((([]:List (Int×List Int)),0,([]:List Bool),([]:List cQ)),([]:List Int),([]:List Int),([]:List Int)),ajq)) (bn (aT (af ([]:List Int)+af I.p2.2.1) 8) (bn (aT (af ([]:List Int)+af I.p2.p2) 8) (bn (aT (af ([]:List Int)+af I.p2.q3) 8) (jn (α:=Int×dv×dH×gk×Int×Int×(List Int)×(List Int)×List Int) (aX I.p3.2.1 18 (ax (I.p3.p3,I.2.1,I.p2,I.p3,I.q4,0,(([]:List Int)++I.p2.2.1),(([]:List Int)++I.p2.p2),(([]:List Int)++I.p2.q3))) (ax ((-1),I.2.1,I.p2,I.p3,I.q4,0,(([]:List Int)++I.p2.2.1),(([]:List Int)++I.p2.p2),(([]:List Int)++I.p2.q3)))) λJ=>(obind (od (J.2.1,J.p2.1,J.p3.1,J.p3.2.1,J.p3.p2,J.1)) λy21=>(jn (α:=gk×Int×nU×(List Int)×(List Int)×List Int) (aX J.p3.2.1 4 (ck (eS J.p3.p2 (af J.p6)) (ax (J.p3,J.p4,y21.1,(cw J.p6 J.p3.p2 J.p3.p3),J.q7))) (ax (J.p3,J.p4,y21.1,J.q6))) λM=>(jn (α:=gk×Int×nU×(List Int)×(List Int)×List Int) (aX M.1.2.1 22 (ck (eS M.1.p2 (af M.p4)) (ax (M.1,M.2.1,M.p2,M.p3,(cw M.p4 M.1.p2 M.1.p3),M.q5))) (ax M)) λY=>(kf aH Y.q5 Y.1.1 λz24=>(ck (eS Y.1.1 (af Y.q5)) (ajn ((Y.p2,Y.p3,Y.p4,(cw Y.q5 Y.1.1 (ca z24))),ajp)))))))))))))))))))))
def pS (x:(List gk)×Int×Int×List Int):Option (Bool):=
 (iter (σ:=Int) (λJ=>(bk J (aP x.q3) (iter (σ:=Int×Bool×Int) (λI=>(bk I.2.2 x.2.1 (jn (α:=Int×Bool) (bw ip x.1 I.2.2 λz4=>(ik z4.1 x.p2 (ax (I.1,I.2.1)) (jn (α:=Bool) (bcase I.2.1 (ax ajp) (bw aH x.q3 J λZ=>(aX I.1 Z (bw ip x.1 I.2.2 λY=>(aX Y.2.1 3 (ax ajp) (bw ip x.1 I.2.2 λU=>(ax (decide ((U.2.1:Int)=23)))))) (ax ajq)))) λx5=>(ax ((ca I.1),x5))))) λM=>(cu (M.1,M.2,(ca I.2.2)))) (obind (bcase (!I.2.1) (ax ajq) (cu (ca J))) λr=>ajn (bM r)))) (0,ajq,0)) (ax ajp))) 0)
def su (x:dv×List gk):Option (Int×Int):=
 (bk 400 (aP x.2) (ajn (0,2)) (obind (gh x.1) λy1=>(bcase (!y1) (ajn (0,1)) (obind (lI x.1) λy2=>(iter (σ:=Int×(dv×List gk)×nU×(List Int)×(List Int)×List Int) (λI=>(bk I.1 (aP I.2.1.2) (bw ip I.2.1.2 I.1 λJ=>(obind (pT (I.2.1.1,I.2.2,J)) λM=>(jn (α:=Bool×(dv×List gk)×dH×nU×(List Int)×(List Int)×List Int) (bcase (!M.2) (ax (ajp,I.2.1,I.2.2,M.1)) (obind (pS (I.2.1.2,I.1,J.1,J.p5)) λZ=>(bcase (!Z) (ax (ajp,I.2.1,I.2.2,M.1)) (obind (pS (I.2.1.2,I.1,J.1,J.q6)) λY=>(ax ((!Y),I.2.1,I.2.2,M.1)))))) λU=>(bcase U.1 (ax (I.1,12)) (cu ((ca I.1),U.2.1,U.q3)))))) (ax (0,0)))) (0,x,y2))))))
def KG {Z W V:Type} (i:Int) (t1:Z->(List Int)->(List (List Int))->W) (t2:W->V) (t3:V->sd->List sd) (x6:Int) (I:yd×nU×(Int×Int)×Int×uq×gk×(Int×Int)×(List Int)×(List Int)×Z×(List Int)×List (List Int)):Option Cx:=
 (jn (α:=nU×(Int×Int)×Int×uq×gk×sd×(List Int)×(List Int)×V) (jn (α:=Bool×yd×nU×(Int×Int)×Int×uq×gk×sd×(List Int)×(List Int)×W) (ik I.p5.2.1 16 (ax ((!decide ((I.p5.2.1:Int)=2)),I.1,I.2.1,I.p2,I.p3,I.p4,I.p5,(x6,I.p10,I.q11,(ca I.p6.2)),I.p7,I.p8,(t1 I.p9 I.p10 I.q11))) (ax (ajq,I.1,I.2.1,I.p2,I.p3,I.p4,I.p5,(x6,I.p10,I.q11,(ca I.p6.2)),I.p7,I.p8,(t1 I.p9 I.p10 I.q11)))) λJ=>(bcase J.1 (bw vu J.2.1.2 J.p3.1 λU=>(obind (l8 (U,J.p7)) λY=>(ax (J.p2,J.p3,J.p4,J.p5,J.p6,Y.1,J.p8,J.p9,(t2 J.q10))))) (ax (J.p2,J.p3,J.p4,J.p5,J.p6,J.p7,J.p8,J.p9,(t2 J.q10))))) λM=>(aX M.2.1.1 i (ajn ((M.1,M.p6,M.p7,(t3 M.q8 M.p5)),M.p4,ajp)) ajo))
def SG {Z:Type} (i:Int) (cp:(nU×(List Int)×(List Int)×List sd)->Option (Int×fG×(List Bool)×(List cQ)×(List Int)×(List Int)×Z×(List Int)×List (List Int))) (Y ev:Z->Int) (k:Int->(yd×nU×(Int×Int)×Int×uq×gk×(Int×Int)×(List Int)×(List Int)×Z×(List Int)×List (List Int))->Option Cx) (x:yd×vp×Int×Int):Option Cx:=
 (obind (my (x.1,x.2.1,x.p2)) λM=>(bcase (!M.2) (ajn (((([]:List (Int×List Int)),0,([]:List Bool),([]:List cQ)),([]:List Int),([]:List Int),([]:List sd)),(0,0,0,0,0,([]:List Int),([]:List Int)),ajq)) (obind (od (x.1.1,x.2.1.1,x.p2,M.1.2.1,M.1.p2,x.q3)) λy2=>(bcase (!y2.2.2) (ajn (((([]:List (Int×List Int)),0,([]:List Bool),([]:List cQ)),([]:List Int),([]:List Int),([]:List sd)),(0,0,0,0,0,([]:List Int),([]:List Int)),ajq)) (obind (cp x.2.1) λU=>(aX x.p2 i (bw vu x.1.2 i λz4=>(bw pG z4.2 (Y U.p6) λz5=>(jn (α:=Int×yd×nU×(Int×Int)×Int×uq×gk×(Int×Int)×jb×(List Int)×(List Int)×Z×(List Int)×List (List Int)) (jn (α:=Bool×yd×nU×(Int×Int)×Int×uq×gk×(Int×Int)×jb×(List Int)×(List Int)×Z×(List Int)×List (List Int)) (aX M.1.2.1 1 (ax ((decide ((M.1.2.1:Int)=1)),x.1,y2.1,(i,x.q3),0,(0,0,0,0,0),(M.1.1,M.1.2.1,M.1.p2,y2.2.1,M.1.q4),((Y U.p6),(ev U.p6)),z5,U.q4)) (aX M.1.2.1 16 (ax ((decide ((M.1.2.1:Int)=16)),x.1,y2.1,(i,x.q3),0,(0,0,0,0,0),(M.1.1,M.1.2.1,M.1.p2,y2.2.1,M.1.q4),((Y U.p6),(ev U.p6)),z5,U.q4)) (ax ((decide ((M.1.2.1:Int)=2)),x.1,y2.1,(i,x.q3),0,(0,0,0,0,0),(M.1.1,M.1.2.1,M.1.p2,y2.2.1,M.1.q4),((Y U.p6),(ev U.p6)),z5,U.q4)))) λI=>(bcase I.1 (ax (I.p7.1,I.2)) (aX M.1.2.1 3 (kf aH I.p9 I.p6.p2 λz8=>(ax ((be .i64 ((Y U.p6)+1)),I.2.1,I.p2,I.p3,I.p4,I.p5,(I.p6.1,I.p6.2.1,I.p6.p2,z8,I.p6.q4),I.q7))) (aX M.1.2.1 23 (kf aH I.p10 I.p6.p2 λz9=>(ax ((be .i64 ((Y U.p6)+1)),I.2.1,I.p2,I.p3,I.p4,I.p5,(I.p6.1,I.p6.2.1,I.p6.p2,z9,I.p6.q4),I.q7))) (aX M.1.2.1 4 (kf aH I.p12 I.p8.p2 λz10=>(ck (eS I.p6.p2 (af I.p9)) (ax ((be .i64 ((Y U.p6)+1)),I.2.1,I.p2,I.p3,I.p4,I.p5,(I.p6.1,I.p6.2.1,I.p6.p2,z10,I.p6.q4),I.p7,I.p8,(cw I.p9 I.p6.p2 z10),I.q10)))) (aX M.1.2.1 22 (kf aH I.p12 I.p8.p2 λz11=>(ck (eS I.p6.p2 (af I.p10)) (ax ((be .i64 ((Y U.p6)+1)),I.2.1,I.p2,I.p3,I.p4,I.p5,(I.p6.1,I.p6.2.1,I.p6.p2,z11,I.p6.q4),I.p7,I.p8,I.p9,(cw I.p10 I.p6.p2 z11),I.q11)))) (aX M.1.2.1 5 (kf aH I.p12 I.p8.2.1 λz12=>(aX z12 0 (ax (I.p8.p2,I.2.1,I.p2,I.p3,I.p4,I.p5,(I.p6.1,I.p6.2.1,I.p6.p2,0,I.p6.q4),I.q7)) (ax ((be .i64 ((Y U.p6)+1)),I.2.1,I.p2,I.p3,I.p4,I.p5,(I.p6.1,I.p6.2.1,I.p6.p2,1,I.p6.q4),I.q7)))) (ax ((be .i64 ((Y U.p6)+1)),I.2))))))))) λx6=>(jn (α:=yd×nU×(Int×Int)×Int×uq×gk×(Int×Int)×(List Int)×(List Int)×Z×(List Int)×List (List Int)) (jn (α:=Bool×yd×nU×(Int×Int)×Int×uq×gk×(Int×Int)×jb×(List Int)×(List Int)×Z×(List Int)×List (List Int)) (aX x6.p6.2.1 3 (ax (ajp,x6.2)) (ax ((decide ((x6.p6.2.1:Int)=23)),x6.2))) λJ=>(bcase J.1 (ck (eS J.p8.2.1 (af J.p12)) (ck (eS J.p8.2.1 (af J.q13)) (ax (J.2.1,J.p2,J.p3,J.p4,J.p5,J.p6,J.p7,J.p9,J.p10,J.p11,(cw J.p12 J.p8.2.1 J.p6.p3),(cw J.q13 J.p8.2.1 ([J.p7.2])))))) (ax (J.2.1,J.p2,J.p3,J.p4,J.p5,J.p6,J.p7,J.q9)))) λx13=>(k x6.1 x13))))) ajo))))))
def l7 (x:nU×(List Int)×(List Int)×List sd):Option (Int×fG×(List Bool)×(List cQ)×(List Int)×(List Int)×(Int×Int)×(List Int)×List (List Int)):=
 (obind (gx x.1) λI=>(bn (aT (af ([]:List Int)+af x.2.1) 8) (bn (aT (af ([]:List Int)+af x.p2) 8) (bk 0 (aP x.q3) (bw dR x.q3 0 λM=>(obind (bR M) λU=>(bk 1 (aP x.q3) (bw dR x.q3 1 λJ=>(obind (bR J) λY=>ajo)) (ajn (I.1,I.2.1,I.p2,I.q3,(([]:List Int)++x.2.1),(([]:List Int)++x.p2),U))))) ajo))))
def eW (x:yd×vp×Int×Int):Option Cx:=
 SG 0 l7 (λz=>z.1) (λz=>z.2) (KG 0 (λz R T=>(z.1,R,T,z.2)) (λw=>((w.1,w.2.1,w.2.2.1,w.2.2.2))) (λv t=>[t])) x
def lZ (x:nU×(List Int)×(List Int)×List sd):Option (Int×fG×(List Bool)×(List cQ)×(List Int)×(List Int)×Ya29×(List Int)×List (List Int)):=
 (obind (gx x.1) λJ=>(bn (aT (af ([]:List Int)+af x.2.1) 8) (bn (aT (af ([]:List Int)+af x.p2) 8) (bk 0 (aP x.q3) (bw dR x.q3 0 λZ=>(obind (bR Z) λM=>(bk 1 (aP x.q3) (bw dR x.q3 1 λY=>(obind (bR Y) λI=>(bk 2 (aP x.q3) (bw dR x.q3 2 λU=>(obind (bR U) λy7=>ajo)) (ajn (J.1,J.2.1,J.p2,J.q3,(([]:List Int)++x.2.1),(([]:List Int)++x.p2),(M.1.1,M.1.2,I.1.1,I.2.1,I.2.2,I.1.2),M.2))))) ajo))) ajo))))
def fB (x:yd×vp×Int×Int):Option Cx:=
 SG 0 lZ (λz=>z.1) (λz=>z.2.1) (KG 0 (λz R T=>(z.1,R,T,z.2.1,z.2.2)) (λw=>((w.1,w.2.1,w.2.2.1,w.2.2.2.1),w.2.2.2.2)) (λv t=>[t,v.2])) x
def lY (x:nU×(List Int)×(List Int)×List sd):Option (Int×fG×(List Bool)×(List cQ)×(List Int)×(List Int)×(sd×Int×Int)×(List Int)×List (List Int)):=
 (obind (gx x.1) λJ=>(bn (aT (af ([]:List Int)+af x.2.1) 8) (bn (aT (af ([]:List Int)+af x.p2) 8) (bk 0 (aP x.q3) (bw dR x.q3 0 λZ=>(obind (bR Z) λI=>(bk 1 (aP x.q3) (bw dR x.q3 1 λY=>(obind (bR Y) λM=>(bk 2 (aP x.q3) (bw dR x.q3 2 λU=>(obind (bR U) λy7=>ajo)) (ajn (J.1,J.2.1,J.p2,J.q3,(([]:List Int)++x.2.1),(([]:List Int)++x.p2),((I.1.1,I.2.1,I.2.2,I.1.2),M.1),M.2))))) ajo))) ajo))))
def eV (x:yd×vp×Int×Int):Option Cx:=
 SG 1 lY (λz=>z.2.1) (λz=>z.2.2) (KG 1 (λz R T=>(z.1,z.2.1,R,T,z.2.2)) (λw=>(w.1,(w.2.1,w.2.2.1,w.2.2.2.1,w.2.2.2.2))) (λv t=>[v.1,t])) x
def lX (x:nU×(List Int)×(List Int)×List sd):Option (Int×fG×(List Bool)×(List cQ)×(List Int)×(List Int)×Ya27×(List Int)×List (List Int)):=
 (obind (gx x.1) λM=>(bn (aT (af ([]:List Int)+af x.2.1) 8) (bn (aT (af ([]:List Int)+af x.p2) 8) (bk 0 (aP x.q3) (bw dR x.q3 0 λz2=>(obind (bR z2) λU=>(bk 1 (aP x.q3) (bw dR x.q3 1 λz4=>(obind (bR z4) λJ=>(bk 2 (aP x.q3) (bw dR x.q3 2 λZ=>(obind (bR Z) λI=>(bk 3 (aP x.q3) (bw dR x.q3 3 λY=>(obind (bR Y) λy9=>ajo)) (ajn (M.1,M.2.1,M.p2,M.q3,(([]:List Int)++x.2.1),(([]:List Int)++x.p2),(U.1.1,U.1.2,(J.1.1,J.2.1,J.2.2,J.1.2),I.1.1,I.2.1,I.2.2,I.1.2),U.2))))) ajo))) ajo))) ajo))))
def iz (x:yd×vp×Int×Int):Option Cx:=
 SG 0 lX (λz=>z.1) (λz=>z.2.1) (KG 0 (λz R T=>(z.1,R,T,z.2.1,z.p2,z.q3)) (λw=>((w.1,w.2.1,w.2.2.1,w.2.2.2.1),w.2.2.2.2.1,w.2.2.2.2.2)) (λv t=>[t,v.2.1,v.2.2])) x
def lV (x:nU×(List Int)×(List Int)×List sd):Option (Int×fG×(List Bool)×(List cQ)×(List Int)×(List Int)×Ya28×(List Int)×List (List Int)):=
 (obind (gx x.1) λM=>(bn (aT (af ([]:List Int)+af x.2.1) 8) (bn (aT (af ([]:List Int)+af x.p2) 8) (bk 0 (aP x.q3) (bw dR x.q3 0 λz2=>(obind (bR z2) λJ=>(bk 1 (aP x.q3) (bw dR x.q3 1 λz4=>(obind (bR z4) λU=>(bk 2 (aP x.q3) (bw dR x.q3 2 λZ=>(obind (bR Z) λI=>(bk 3 (aP x.q3) (bw dR x.q3 3 λY=>(obind (bR Y) λy9=>ajo)) (ajn (M.1,M.2.1,M.p2,M.q3,(([]:List Int)++x.2.1),(([]:List Int)++x.p2),((J.1.1,J.2.1,J.2.2,J.1.2),U.1.1,U.1.2,I.1.1,I.2.1,I.2.2,I.1.2),U.2))))) ajo))) ajo))) ajo))))
def gL (x:yd×vp×Int×Int):Option Cx:=
 SG 1 lV (λz=>z.2.1) (λz=>z.p2) (KG 1 (λz R T=>(z.1,z.2.1,R,T,z.p2,z.q3)) (λw=>(w.1,(w.2.1,w.2.2.1,w.2.2.2.1,w.2.2.2.2.1),w.2.2.2.2.2)) (λv t=>[v.1,t,v.2.2])) x
def lU (x:nU×(List Int)×(List Int)×List sd):Option (Int×fG×(List Bool)×(List cQ)×(List Int)×(List Int)×(sd×sd×Int×Int)×(List Int)×List (List Int)):=
 (obind (gx x.1) λM=>(bn (aT (af ([]:List Int)+af x.2.1) 8) (bn (aT (af ([]:List Int)+af x.p2) 8) (bk 0 (aP x.q3) (bw dR x.q3 0 λz2=>(obind (bR z2) λJ=>(bk 1 (aP x.q3) (bw dR x.q3 1 λz4=>(obind (bR z4) λI=>(bk 2 (aP x.q3) (bw dR x.q3 2 λZ=>(obind (bR Z) λU=>(bk 3 (aP x.q3) (bw dR x.q3 3 λY=>(obind (bR Y) λy9=>ajo)) (ajn (M.1,M.2.1,M.p2,M.q3,(([]:List Int)++x.2.1),(([]:List Int)++x.p2),((J.1.1,J.2.1,J.2.2,J.1.2),(I.1.1,I.2.1,I.2.2,I.1.2),U.1),U.2))))) ajo))) ajo))) ajo))))
def gg (x:yd×vp×Int×Int):Option Cx:=
 SG 2 lU (λz=>z.p2) (λz=>z.q3) (KG 2 (λz R T=>(z.1,z.2.1,z.p2,R,T,z.q3)) (λw=>(w.1,w.2.1,(w.2.2.1,w.2.2.2.1,w.2.2.2.2.1,w.2.2.2.2.2))) (λv t=>[v.1,v.2.1,t])) x
def lQ (x:nU×(List Int)×(List Int)×List sd):Option (Int×fG×(List Bool)×(List cQ)×(List Int)×(List Int)×Ya23×(List Int)×List (List Int)):=
 (obind (gx x.1) λU=>(bn (aT (af ([]:List Int)+af x.2.1) 8) (bn (aT (af ([]:List Int)+af x.p2) 8) (bk 0 (aP x.q3) (bw dR x.q3 0 λz2=>(obind (bR z2) λZ=>(bk 1 (aP x.q3) (bw dR x.q3 1 λz4=>(obind (bR z4) λM=>(bk 2 (aP x.q3) (bw dR x.q3 2 λz6=>(obind (bR z6) λJ=>(bk 3 (aP x.q3) (bw dR x.q3 3 λz8=>(obind (bR z8) λI=>(bk 4 (aP x.q3) (bw dR x.q3 4 λY=>(obind (bR Y) λy11=>ajo)) (ajn (U.1,U.2.1,U.p2,U.q3,(([]:List Int)++x.2.1),(([]:List Int)++x.p2),(Z.1.1,Z.1.2,(M.1.1,M.2.1,M.2.2,M.1.2),(J.1.1,J.2.1,J.2.2,J.1.2),I.1.1,I.2.1,I.2.2,I.1.2),Z.2))))) ajo))) ajo))) ajo))) ajo))))
def lK (x:yd×vp×Int×Int):Option Cx:=
 SG 0 lQ (λz=>z.1) (λz=>z.2.1) (KG 0 (λz R T=>(z.1,R,T,z.2.1,z.p2,z.p3,z.q4)) (λw=>((w.1,w.2.1,w.2.2.1,w.2.2.2.1),w.2.2.2.2.1,w.2.2.2.2.2.1,w.2.2.2.2.2.2)) (λv t=>[t,v.2.1,v.2.2.1,v.2.2.2])) x
def lP (x:nU×(List Int)×(List Int)×List sd):Option (Int×fG×(List Bool)×(List cQ)×(List Int)×(List Int)×Ya24×(List Int)×List (List Int)):=
 (obind (gx x.1) λU=>(bn (aT (af ([]:List Int)+af x.2.1) 8) (bn (aT (af ([]:List Int)+af x.p2) 8) (bk 0 (aP x.q3) (bw dR x.q3 0 λz2=>(obind (bR z2) λM=>(bk 1 (aP x.q3) (bw dR x.q3 1 λz4=>(obind (bR z4) λZ=>(bk 2 (aP x.q3) (bw dR x.q3 2 λz6=>(obind (bR z6) λJ=>(bk 3 (aP x.q3) (bw dR x.q3 3 λz8=>(obind (bR z8) λI=>(bk 4 (aP x.q3) (bw dR x.q3 4 λY=>(obind (bR Y) λy11=>ajo)) (ajn (U.1,U.2.1,U.p2,U.q3,(([]:List Int)++x.2.1),(([]:List Int)++x.p2),((M.1.1,M.2.1,M.2.2,M.1.2),Z.1.1,Z.1.2,(J.1.1,J.2.1,J.2.2,J.1.2),I.1.1,I.2.1,I.2.2,I.1.2),Z.2))))) ajo))) ajo))) ajo))) ajo))))
def lJ (x:yd×vp×Int×Int):Option Cx:=
 SG 1 lP (λz=>z.2.1) (λz=>z.p2) (KG 1 (λz R T=>(z.1,z.2.1,R,T,z.p2,z.p3,z.q4)) (λw=>(w.1,(w.2.1,w.2.2.1,w.2.2.2.1,w.2.2.2.2.1),w.2.2.2.2.2.1,w.2.2.2.2.2.2)) (λv t=>[v.1,t,v.2.2.1,v.2.2.2])) x
def lO (x:nU×(List Int)×(List Int)×List sd):Option (Int×fG×(List Bool)×(List cQ)×(List Int)×(List Int)×Ya25×(List Int)×List (List Int)):=
 (obind (gx x.1) λU=>(bn (aT (af ([]:List Int)+af x.2.1) 8) (bn (aT (af ([]:List Int)+af x.p2) 8) (bk 0 (aP x.q3) (bw dR x.q3 0 λz2=>(obind (bR z2) λM=>(bk 1 (aP x.q3) (bw dR x.q3 1 λz4=>(obind (bR z4) λJ=>(bk 2 (aP x.q3) (bw dR x.q3 2 λz6=>(obind (bR z6) λZ=>(bk 3 (aP x.q3) (bw dR x.q3 3 λz8=>(obind (bR z8) λI=>(bk 4 (aP x.q3) (bw dR x.q3 4 λY=>(obind (bR Y) λy11=>ajo)) (ajn (U.1,U.2.1,U.p2,U.q3,(([]:List Int)++x.2.1),(([]:List Int)++x.p2),((M.1.1,M.2.1,M.2.2,M.1.2),(J.1.1,J.2.1,J.2.2,J.1.2),Z.1.1,Z.1.2,I.1.1,I.2.1,I.2.2,I.1.2),Z.2))))) ajo))) ajo))) ajo))) ajo))))
def kh (x:yd×vp×Int×Int):Option Cx:=
 SG 2 lO (λz=>z.p2) (λz=>z.p3) (KG 2 (λz R T=>(z.1,z.2.1,z.p2,R,T,z.p3,z.q4)) (λw=>(w.1,w.2.1,(w.2.2.1,w.2.2.2.1,w.2.2.2.2.1,w.2.2.2.2.2.1),w.2.2.2.2.2.2)) (λv t=>[v.1,v.2.1,t,v.2.2.2])) x
def lM (x:nU×(List Int)×(List Int)×List sd):Option (Int×fG×(List Bool)×(List cQ)×(List Int)×(List Int)×Ya42×(List Int)×List (List Int)):=
 (obind (gx x.1) λU=>(bn (aT (af ([]:List Int)+af x.2.1) 8) (bn (aT (af ([]:List Int)+af x.p2) 8) (bk 0 (aP x.q3) (bw dR x.q3 0 λz2=>(obind (bR z2) λM=>(bk 1 (aP x.q3) (bw dR x.q3 1 λz4=>(obind (bR z4) λJ=>(bk 2 (aP x.q3) (bw dR x.q3 2 λz6=>(obind (bR z6) λI=>(bk 3 (aP x.q3) (bw dR x.q3 3 λz8=>(obind (bR z8) λZ=>(bk 4 (aP x.q3) (bw dR x.q3 4 λY=>(obind (bR Y) λy11=>ajo)) (ajn (U.1,U.2.1,U.p2,U.q3,(([]:List Int)++x.2.1),(([]:List Int)++x.p2),((M.1.1,M.2.1,M.2.2,M.1.2),(J.1.1,J.2.1,J.2.2,J.1.2),(I.1.1,I.2.1,I.2.2,I.1.2),Z.1),Z.2))))) ajo))) ajo))) ajo))) ajo))))
def jr (x:yd×vp×Int×Int):Option Cx:=
 SG 3 lM (λz=>z.p3) (λz=>z.q4) (KG 3 (λz R T=>(z.1,z.2.1,z.p2,z.p3,R,T,z.q4)) (λw=>(w.1,w.2.1,w.2.2.1,(w.2.2.2.1,w.2.2.2.2.1,w.2.2.2.2.2.1,w.2.2.2.2.2.2))) (λv t=>[v.1,v.2.1,v.2.2.1,t])) x
def yq (x:yd×vp×Int×Int):Option Cx:=orE (lK x) (orE (lJ x) (orE (kh x) (orE (jr x) (orE (iz x) (orE (gL x) (orE (gg x) (orE (fB x) (orE (eV x) (eW x)))))))))
def uG (x:yd×vp×List (Int×Int)):Option ((List gk)×nU×(List Int)×(List Int)×List sd):=
 (iter (σ:=Int×(List gk)×yd×vp×Int) (λJ=>(jn (α:=Bool×(List gk)×yd×vp×Int) (bk J.1 (aP x.2.2) (ax ((eX (aP J.2.1) 400),J.2)) (ax (ajq,J.2))) λI=>(bcase I.1 (jn (α:=(List gk)×yd×vp×Int) (bw gV x.2.2 J.1 λU=>(obind (yq (I.p2,I.p3,U)) λM=>(bcase M.2.2 (bn (aT (af I.2.1+af ([M.2.1])) 88) (ax ((I.2.1++([M.2.1])),I.p2,M.1,I.q4))) (ax I.2)))) λY=>(cu ((ca J.1),Y))) (ax (I.2.1,I.p3))))) (0,([]:List gk),x.1,x.2.1,0))
def xr (x:yd×List (Int×Int)):Option ((dv×List gk)×nU×(List Int)×(List Int)×List sd):=
 (obind (iK x.1) λM=>(bcase (!M) (ajn (((([]:List QD),([]:List ((List UInt8)×Bool)),([]:List eh),([]:List (List UInt8)),([]:List (List UInt8)),([]:List (Int×Int×Int))),([]:List gk)),(([]:List (Int×List Int)),0,([]:List Bool),([]:List cQ)),([]:List Int),([]:List Int),([]:List sd))) (obind (sw x.1) λJ=>(obind (uG (x.1,J,x.2)) λI=>(ajn ((x.1.1,I.1),I.2))))))
def bh (x:Int×(List Int)×Int):Option (Int×(List Int)×Int):=
 (jn (α:=Bool×(List Int)×Int) (jf (aP x.2.1) x.2.2 (ax (ajp,x.2)) (ax ((eX x.1 1),x.2))) λI=>(bcase I.1 (ajn (0,I.2)) (lt (ca I.2.2) λM=>(bw (.int .u8) I.2.1 (be .i64 (M-1)) λJ=>(bn (!decide ((x.1:Int)=0)) (ajn ((yl (be .i64 J) x.1),I.2.1,(ca I.2.2))))))))
def qb (x:Int):Option (Xp):=
 (ajn (du (1,x,[],([]:List Xp))))
def om (x:List UInt8):Option (Xp):=
 (ajn (du (2,0,x,([]:List Xp))))
def mC (x:Int×Xp×Xp):Option (Xp):=
 (ajn (du (x.1,0,[],[du ((Xp.op x.2.1),(Xp.n x.2.1),(Xp.name x.2.1),(Xp.l x.2.1)),du ((Xp.op x.2.2),(Xp.n x.2.2),(Xp.name x.2.2),(Xp.l x.2.2))])))
def iv (x:(List UInt8)×Xp):Option (Sx):=
 (ajn (mD (1,0,x.1,[],([]:List Xp),du ((Xp.op x.2),(Xp.n x.2),(Xp.name x.2),(Xp.l x.2)),([]:List Sx),([]:List Sx))))
def qL (x:Unit):Option qF:=
 (ajn ([(1,0,[120],0,0,[]),(1,0,[121],0,1,[]),(2,0,[118],0,0,[]),(1,0,[113],2,0,[]),(3,0,[109],0,0,[]),(3,0,[110],0,0,[]),(4,0,[114],0,0,[]),(5,0,[99],0,0,[109]),(6,0,[102],0,0,[])]))
def nB (x:List Int):Option (List (Int×Int)):=
 (iter (σ:=Int×List (Int×Int)) (λI=>(bk I.1 (aP x) (bw (.int .u8) x I.1 λM=>(bw (.int .u8) x I.1 λJ=>(bn (aT (af I.2+af ([((yl (be .i64 M) 4),(be .i64 ((yl (be .i64 (Int.tdiv (be .i64 J) 4)) 5)-1)))])) 16) (cu ((ca I.1),(I.2++([((yl (be .i64 M) 4),(be .i64 ((yl (be .i64 (Int.tdiv (be .i64 J) 4)) 5)-1)))]))))))) (ax I.2))) (0,([]:List (Int×Int))))
def mK (rmade_maker_expr:Wz->Option abh) (x:Int×xf×eL×Bool×List (List UInt8)):Option abh:=
 (obind (bh (10,x.p2)) λZ=>(jn (α:=Bool×xf×eL×QE×(Int×Int×List UInt8)×List (List UInt8)) (bk Z.1 2 (ax (ajp,x.2.1,Z.2,x.q3,(0,0,[]),[[97],[98],[120],[121],[118],[120],[121]])) (aX x.1 0 (ax ((cD 7 Z.1),x.2.1,Z.2,x.q3,(0,0,[]),[[97],[98],[120],[121],[118],[120],[121]])) (ax (ajq,x.2.1,Z.2,x.q3,(0,0,[]),[[97],[98],[120],[121],[118],[120],[121]])))) λI=>(bcase I.1 (obind (bh (4,I.p2)) λy3=>(obind (qb y3.1) λy4=>(ajn (du ((Xp.op y4),(Xp.n y4),(Xp.name y4),(Xp.l y4)),I.2.1,y3.2,I.p3)))) (bk Z.1 7 (obind (bh ((aP I.q5),I.p2)) λy5=>(kf (.str) I.q5 y5.1 λz6=>(obind (om z6) λy7=>(ajn (du ((Xp.op y7),(Xp.n y7),(Xp.name y7),(Xp.l y7)),I.2.1,y5.2,I.p3))))) (aX Z.1 7 (obind (rmade_maker_expr (0,I.2.1,I.p2,I.p3)) λY=>(bn (((I.p3.1==Y.p3)&&ajp)&&av (af I.p3.2) (af Y.q4)&&ajp) (ajn (du (3,0,[113],[du ((Xp.op Y.1),(Xp.n Y.1),(Xp.name Y.1),(Xp.l Y.1))]),Y.2)))) (obind (bh ((aJ (af ([6,7,8,11,13,17]))),I.p2)) λy9=>(kf aH ([6,7,8,11,13,17]) y9.1 λz10=>(obind (rmade_maker_expr ((be .i64 (x.1-1)),I.2.1,y9.2,I.p3)) λJ=>(bn (((I.p3.1==J.p3)&&ajp)&&av (af I.p3.2) (af J.q4)&&ajp) (obind (rmade_maker_expr ((be .i64 (x.1-1)),J.2)) λU=>(bn (((J.p3==U.p3)&&ajp)&&av (af J.q4) (af U.q4)&&ajp) (obind (mC (z10,J.1,U.1)) λM=>(ajn (du ((Xp.op M),(Xp.n M),(Xp.name M),(Xp.l M)),U.2))))))))))))))
def gA:Nat->Wz->Option abh
 |0,_=>ajo
 |n+1,x=>mK (gA n) x
theorem w9 (n:Nat) (x:Int×xf×eL×Bool×List (List UInt8)):gA (n+1) x=mK (gA n) x:=rfl
def dZ (x:Int×xf×eL×Bool×List (List UInt8)):Option abh:=gA fuel x
def dL (x:(List UInt8)×xf×eL×Bool×List (List UInt8)):Option (Bool×xf×eL×Bool×List (List UInt8)):=
 (obind (hZ (x.q4,x.1)) λI=>(ajn ((cD 0 I),x.2)))
def lw (rmade_maker_stmts:abj->Option Wy) (rmade_maker_stmt:Wz->Option Zf) (rmade_maker_block:abi->Option Zg) (x:(Int×Int)×xf×eL×Bool×List (List UInt8)):Option Wy:=
 (iter (σ:=Int×xf×eL×(List Sx)×Bool×List (List UInt8)) (λJ=>(jn (α:=Bool×xf×eL×(List Sx)×Bool×List (List UInt8)) (bk J.1 x.1.2 (aX J.1 0 (ax (ajp,J.2)) (ax ((eX 0 J.2.1.2.1),J.2))) (ax (ajq,J.2))) λI=>(bcase I.1 (obind (rmade_maker_stmt (x.1.1,I.2.1,I.p2,I.q4)) λM=>(bn (((I.p4==I.p4)&&ajp)&&av (af I.q5) (af I.q5)&&ajp) (bn (aT (af I.p3+af ([dw M.1])) 176) (cu ((ca J.1),M.2.1,M.p2,(I.p3++([dw M.1])),M.q3))))) (ax (I.2.1,I.p2,I.q4,I.p3))))) (0,x.2.1,x.p2,([]:List Sx),x.q3))
def mJ (rmade_maker_stmts:abj->Option Wy) (rmade_maker_stmt:Wz->Option Zf) (rmade_maker_block:abi->Option Zg) (x:Int×xf×eL×Bool×List (List UInt8)):Option Zf:=
 (obind (bh (18,x.p2)) λy1=>(jn (α:=Bool×xf×eL×FD×Bool×List (List UInt8)) (bk 0 x.1 (lt (be .i64 (x.2.1.2.1-1)) λz3=>(bk 0 z3 (ax ((!x.2.1.p3),(x.2.1.1,(be .i64 (x.2.1.2.1-1)),x.2.1.2.2),y1.2,(0,0,[],[],0,0,[]),x.q3)) (ax (ajq,(x.2.1.1,(be .i64 (x.2.1.2.1-1)),x.2.1.2.2),y1.2,(0,0,[],[],0,0,[]),x.q3)))) (ax (ajq,(x.2.1.1,(be .i64 (x.2.1.2.1-1)),x.2.1.2.2),y1.2,(0,0,[],[],0,0,[]),x.q3))) λx2=>(bk y1.1 4 (kf (.str) ([[120],[121],[120],[118]]) y1.1 λz4=>(obind (dZ (1,x2.2.1,x2.p2,x2.q4)) λy5=>(bn (((x2.p4==y5.p3)&&ajp)&&av (af x2.q5) (af y5.q4)&&ajp) (obind (iv (z4,y5.1)) λy6=>(ajn (dw y6,y5.2)))))) (aX y1.1 4 (obind (bh (2,x2.p2)) λy7=>(kf (.str) ([[97],[98]]) y7.1 λz8=>(obind (dZ (1,x2.2.1,y7.2,x2.q4)) λy9=>(bn (((x2.p4==y9.p3)&&ajp)&&av (af x2.q5) (af y9.q4)&&ajp) (obind (iv (z8,y9.1)) λy10=>(ajn (dw y10,y9.2))))))) (aX y1.1 5 (obind (dZ (0,x2.2.1,x2.p2,x2.q4)) λy11=>(bn (((x2.p4==y11.p3)&&ajp)&&av (af x2.q5) (af y11.q4)&&ajp) (obind (dZ (1,y11.2)) λy12=>(bn (((y11.p3==y12.p3)&&ajp)&&av (af y11.q4) (af y12.q4)&&ajp) (ajn (mD (1,0,[113],[],[du ((Xp.op y11.1),(Xp.n y11.1),(Xp.name y11.1),(Xp.l y11.1))],du ((Xp.op y12.1),(Xp.n y12.1),(Xp.name y12.1),(Xp.l y12.1)),([]:List Sx),([]:List Sx)),y12.2)))))) (jn (α:=Bool×xf×eL×FD×Bool×List (List UInt8)) (aX y1.1 6 (ax ((eX 0 x.1),x2.2)) (ax (ajq,x2.2))) λx13=>(bcase x13.1 (obind (dZ (1,x13.2.1,x13.p2,x13.q4)) λU=>(bn (((x13.p4==U.p3)&&ajp)&&av (af x13.q5) (af U.q4)&&ajp) (obind (rmade_maker_stmts (((be .i64 (x.1-1)),1),U.2)) λy15=>(bn (((U.p3==U.p3)&&ajp)&&av (af U.q4) (af U.q4)&&ajp) (jn (α:=xf×eL×FD×(Int×Int×(List UInt8)×(List UInt8)×Int×Int×(List UInt8)×List Xp)×QE×(List Sx)×List Sx) (obind (bh (2,y15.2.1)) λy17=>(aX y17.1 1 (obind (rmade_maker_stmts (((be .i64 (x.1-1)),1),y15.1,y17.2,y15.p2)) λy18=>(bn (((y15.p2.1==y15.p2.1)&&ajp)&&av (af y15.p2.2) (af y15.p2.2)&&ajp) (ax (y18.1,y18.2.1,x13.p3,(2,0,[],[],(Xp.op U.1),(Xp.n U.1),(Xp.name U.1),(Xp.l U.1)),y18.p2,y15.q3,y18.q3)))) (ax (y15.1,y17.2,x13.p3,(2,0,[],[],(Xp.op U.1),(Xp.n U.1),(Xp.name U.1),(Xp.l U.1)),y15.p2,y15.q3,([]:List Sx))))) λx16=>(ajn (mD (x16.p3.1,x16.p3.2.1,x16.p3.p2,x16.p3.p3,([]:List Xp),du x16.p3.q4,x16.q5),x16.1,x16.2.1,x16.p4))))))) (jn (α:=Bool×xf×eL×FD×Bool×List (List UInt8)) (aX y1.1 7 (ax ((eX 0 x.1),x13.2)) (ax (ajq,x13.2))) λI=>(bcase I.1 (obind (om ([98])) λy20=>(obind (qb 2) λy21=>(obind (mC (13,y20,y21)) λy22=>(obind (rmade_maker_stmts (((be .i64 (x.1-1)),1),(I.2.1.1,I.2.1.2.1,I.2.1.p2,I.2.1.p3,I.2.1.p4,ajp),I.p2,I.q4)) λy23=>(bn (((I.p4==I.p4)&&ajp)&&av (af I.q5) (af I.q5)&&ajp) (obind (om ([98])) λy24=>(obind (qb 1) λy25=>(obind (mC (6,y24,y25)) λy26=>(obind (iv ([98],y26)) λy27=>(bn (aT (af y23.q3+af ([dw y27])) 176) (ajn (mD (3,0,[],[],([]:List Xp),du ((Xp.op y22),(Xp.n y22),(Xp.name y22),(Xp.l y22)),(y23.q3++([dw y27])),([]:List Sx)),(y23.1.1,y23.1.2.1,y23.1.p2,y23.1.p3,y23.1.p4,I.2.1.q5),y23.2.1,y23.p2)))))))))))) (jn (α:=Bool×xf×eL×FD×Bool×List (List UInt8)) (aX y1.1 8 (bcase x2.1 (kf (.str) ([[109],[110]]) (be .i64 (y1.1-8)) λz29=>(obind (dL (z29,I.2.1,I.p2,I.q4)) λy30=>(bn (((I.p4==y30.p3)&&ajp)&&av (af I.q5) (af y30.q4)&&ajp) (ax ((!y30.1),y30.2.1,y30.p2,I.p3,y30.q3))))) (ax (ajq,I.2))) (aX y1.1 9 (bcase x2.1 (kf (.str) ([[109],[110]]) (be .i64 (y1.1-8)) λz31=>(obind (dL (z31,I.2.1,I.p2,I.q4)) λy32=>(bn (((I.p4==y32.p3)&&ajp)&&av (af I.q5) (af y32.q4)&&ajp) (ax ((!y32.1),y32.2.1,y32.p2,I.p3,y32.q3))))) (ax (ajq,I.2))) (ax (ajq,I.2)))) λJ=>(bcase J.1 (kf (.str) ([[109],[110]]) (be .i64 (y1.1-8)) λz33=>(obind (rmade_maker_block ((z33,(be .i64 (x.1-1))),J.2.1,J.p2,J.q4)) λy34=>(bn (((J.p4==J.p4)&&ajp)&&av (af J.q5) (af J.q5)&&ajp) (ajn (mD (4,0,z33,[],([]:List Xp),du (0,0,[],([]:List Xp)),y34.1,([]:List Sx)),y34.2))))) (jn (α:=Bool×xf×eL×FD×Bool×List (List UInt8)) (aX y1.1 10 (bcase x2.1 (obind (dL ([114],J.2.1,J.p2,J.q4)) λy36=>(bn (((J.p4==y36.p3)&&ajp)&&av (af J.q5) (af y36.q4)&&ajp) (ax ((!y36.1),y36.2.1,y36.p2,J.p3,y36.q3)))) (ax (ajq,J.2))) (aX y1.1 11 (bcase x2.1 (obind (dL ([114],J.2.1,J.p2,J.q4)) λy37=>(bn (((J.p4==y37.p3)&&ajp)&&av (af J.q5) (af y37.q4)&&ajp) (ax ((!y37.1),y37.2.1,y37.p2,J.p3,y37.q3)))) (ax (ajq,J.2))) (ax (ajq,J.2)))) λx35=>(bcase x35.1 (obind (rmade_maker_block (([114],(be .i64 (x.1-1))),x35.2.1,x35.p2,x35.q4)) λy38=>(bn (((x35.p4==x35.p4)&&ajp)&&av (af x35.q5) (af x35.q5)&&ajp) (ajn (mD ((be .i64 ((be .i64 (y1.1-10))+5)),0,[114],[],([]:List Xp),du (0,0,[],([]:List Xp)),y38.1,([]:List Sx)),y38.2)))) (jn (α:=Bool×xf×eL×FD×Bool×List (List UInt8)) (aX y1.1 12 (ax (x2.1,x35.2)) (ax (ajq,x35.2))) λY=>(bcase Y.1 (obind (bh (2,Y.p2)) λy40=>(obind (rmade_maker_stmts ((0,(be .i64 (1+y40.1))),(Y.2.1.1,Y.2.1.2.1,Y.2.1.p2,ajp,Y.2.1.q4),y40.2,Y.q4)) λy41=>(bn (((Y.p4==Y.p4)&&ajp)&&av (af Y.q5) (af Y.q5)&&ajp) (ajn (mD (7,0,[],[],([]:List Xp),du (0,0,[],([]:List Xp)),y41.q3,([]:List Sx)),(y41.1.1,y41.1.2.1,y41.1.p2,ajq,y41.1.q4),y41.2.1,y41.p2))))) (jn (α:=Bool×xf×eL×FD×Bool×List (List UInt8)) (aX y1.1 13 (bcase x2.1 (ax ((!Y.2.1.p4),Y.2)) (ax (ajq,Y.2))) (ax (ajq,Y.2))) λM=>(bcase M.1 (obind (rmade_maker_stmts (((be .i64 (x.1-1)),2),(M.2.1.1,M.2.1.2.1,M.2.1.p2,M.2.1.p3,ajp,M.2.1.q5),M.p2,M.q4)) λy43=>(bn (((M.p4==M.p4)&&ajp)&&av (af M.q5) (af M.q5)&&ajp) (ajn (mD (8,0,[],[],([]:List Xp),du (0,0,[],([]:List Xp)),y43.q3,([]:List Sx)),(y43.1.1,y43.1.2.1,y43.1.p2,y43.1.p3,ajq,y43.1.q5),y43.2.1,y43.p2)))) (jn (α:=Bool×xf×eL×FD×Bool×List (List UInt8)) (aX y1.1 14 (bcase x2.1 (bcase (!M.2.1.p4) (obind (dL ([109],M.2.1,M.p2,M.q4)) λy45=>(bn (((M.p4==y45.p3)&&ajp)&&av (af M.q5) (af y45.q4)&&ajp) (ax ((!y45.1),y45.2.1,y45.p2,M.p3,y45.q3)))) (ax (ajq,M.2))) (ax (ajq,M.2))) (ax (ajq,M.2))) λx44=>(bcase x44.1 (obind (om ([120])) λy46=>(obind (iv ([97],y46)) λy47=>(ajn (mD (4,0,[109],[],([]:List Xp),du (0,0,[],([]:List Xp)),[mD (9,0,[99],[],([]:List Xp),du (0,0,[],([]:List Xp)),([]:List Sx),([]:List Sx)),dw y47],([]:List Sx)),x44.2.1,x44.p2,x44.q4)))) (jn (α:=Bool×xf×eL×FD×Bool×List (List UInt8)) (aX y1.1 15 (bcase x2.1 (obind (dL ([109],x44.2.1,x44.p2,x44.q4)) λy49=>(bn (((x44.p4==y49.p3)&&ajp)&&av (af x44.q5) (af y49.q4)&&ajp) (ax ((!y49.1),y49.2.1,y49.p2,x44.p3,y49.q3)))) (ax (ajq,x44.2))) (ax (ajq,x44.2))) λx48=>(bcase x48.1 (obind (bh (2,x48.p2)) λy50=>(ajn (mD (4,0,[109],[],([]:List Xp),du (0,0,[],([]:List Xp)),[mD ((be .i64 (10+y50.1)),0,[99],[],([]:List Xp),du (0,0,[],([]:List Xp)),([]:List Sx),([]:List Sx))],([]:List Sx)),x48.2.1,y50.2,x48.q4))) (jn (α:=Bool×xf×eL×FD×Bool×List (List UInt8)) (aX y1.1 16 (bcase (!x48.2.1.p3) (bcase (!x48.2.1.q5) (ax ((!x48.2.1.p2),x48.2)) (ax (ajq,x48.2))) (ax (ajq,x48.2))) (ax (ajq,x48.2))) λZ=>(bcase Z.1 (obind (dZ (1,(Z.2.1.1,Z.2.1.2.1,ajp,Z.2.1.q3),Z.p2,Z.q4)) λy52=>(bn (((Z.p4==y52.p3)&&ajp)&&av (af Z.q5) (af y52.q4)&&ajp) (ajn (mD (14,0,[102],[],([]:List Xp),du ((Xp.op y52.1),(Xp.n y52.1),(Xp.name y52.1),(Xp.l y52.1)),([]:List Sx),([]:List Sx)),y52.2)))) (jn (α:=Bool×xf×eL×FD×Bool×List (List UInt8)) (aX y1.1 17 (bcase (!Z.2.1.p3) (obind (bh (2,Z.p2)) λy54=>(ax ((decide ((y54.1:Int)=1)),Z.2.1,y54.2,Z.q3))) (ax (ajq,Z.2))) (ax (ajq,Z.2))) λx53=>(bcase x53.1 (ajn (mD (15,0,[97],[102],([]:List Xp),du (0,0,[],([]:List Xp)),([]:List Sx),([]:List Sx)),x53.2.1,x53.p2,x53.q4)) (obind (dZ (1,x53.2.1,x53.p2,x53.q4)) λy55=>(bn (((x53.p4==y55.p3)&&ajp)&&av (af x53.q5) (af y55.q4)&&ajp) (obind (iv ([120],y55.1)) λy56=>(ajn (dw y56,y55.2))))))))))))))))))))))))))))))
def lx (rmade_maker_stmts:abj->Option Wy) (rmade_maker_stmt:Wz->Option Zf) (rmade_maker_block:abi->Option Zg) (x:eh×xf×eL×Bool×List (List UInt8)):Option Zg:=
 (bn (aT (af x.q4+af ([x.1.1])) 16) (obind (bh (2,x.p2)) λJ=>(obind (rmade_maker_stmts ((x.1.2,(be .i64 (1+J.1))),x.2.1,J.2,x.p3,(x.q4++([x.1.1])))) λI=>(bn (((x.p3==x.p3)&&ajp)&&av (af (x.q4++([x.1.1]))) (af (x.q4++([x.1.1])))&&ajp) (bn (cD 0 (be .i64 ((aP I.p2.2)-1))&&eX (be .i64 ((aP I.p2.2)-1)) (af I.p2.2)) (ajn (I.q3,I.1,I.2.1,ajq,(db (aL (be .i64 ((aP I.p2.2)-1))) I.p2.2))))))))
mutual
def c4:Nat->abj->Option Wy
 |0,_=>ajo
 |n+1,x=>lw (c4 n) (dF n) (dk n) x
def dF:Nat->Wz->Option Zf
 |0,_=>ajo
 |n+1,x=>mJ (c4 n) (dF n) (dk n) x
def dk:Nat->abi->Option Zg
 |0,_=>ajo
 |n+1,x=>lx (c4 n) (dF n) (dk n) x
end
def pd (x:(Int×Int)×xf×eL×Bool×List (List UInt8)):Option Wy:=c4 fuel x
def nA (x:List Int):Option (qF×List qE):=
 (obind (qL ()) λy1=>(obind (bh (3,x,0)) λy2=>(iter (σ:=Int×xf×qF×bP×eL×QE×List qE) (λM=>(bk M.1 (be .i64 (2+y2.1)) (kf (.str) M.p3 M.1 λz4=>(jn (α:=xf×qF×bP×eh×eL×QE×(List qE)×bP×List Sx) (aX M.1 0 (iter (σ:=Int×xf×qF×bP×eh×eL×QE×(List qE)×bP×List Sx) (λY=>(bk Y.1 (be .i64 (2+y2.1)) (kf (.str) Y.p3 Y.1 λz7=>(bn (aT (af Y.q9+af ([mD (12,0,z7,[],([]:List Xp),du (0,0,[],([]:List Xp)),([]:List Sx),([]:List Sx))])) 176) (cu ((ca Y.1),Y.2.1,Y.p2,Y.p3,Y.p4,Y.p5,Y.p6,Y.p7,Y.p8,(Y.q9++([mD (12,0,z7,[],([]:List Xp),du (0,0,[],([]:List Xp)),([]:List Sx),([]:List Sx))])))))) (ax (bM Y.2)))) (1,(M.1,M.2.1.2),M.p2,M.p3,(z4,0),M.p4,M.p5,M.q6,[[97],[98]],([]:List Sx))) (ax ((M.1,M.2.1.2),M.p2,M.p3,(z4,0),M.p4,M.p5,M.q6,[[97],[98]],([]:List Sx)))) λU=>(obind (bh (3,U.p4)) λy8=>(obind (pd ((2,(be .i64 (1+y8.1))),U.1,y8.2,U.p5)) λZ=>(bn (((U.p5.1==U.p5.1)&&ajp)&&av (af U.p5.2) (af U.p5.2)&&ajp) (bn (aT (af U.q8+af Z.q3) 176) (jn (α:=xf×qF×bP×eh×eL×QE×(List qE)×bP×List Sx) (jn (α:=Bool×xf×qF×bP×eh×eL×QE×(List qE)×bP×List Sx) (aX M.1 0 (obind (bh (3,Z.2.1)) λy12=>(ax ((decide ((y12.1:Int)=2)),Z.1,U.2.1,U.p2,U.p3,y12.2,Z.p2,U.p6,U.p7,(U.q8++Z.q3)))) (ax (ajq,Z.1,U.2.1,U.p2,U.p3,Z.2.1,Z.p2,U.p6,U.p7,(U.q8++Z.q3)))) λI=>(bcase I.1 (kf (.str) I.p3 1 λz13=>(bn (aT (af I.q9+af ([mD (13,0,z13,[],([]:List Xp),du (0,0,[],([]:List Xp)),([]:List Sx),([]:List Sx))])) 176) (ax (I.2.1,I.p2,I.p3,I.p4,I.p5,I.p6,I.p7,I.p8,(I.q9++([mD (13,0,z13,[],([]:List Xp),du (0,0,[],([]:List Xp)),([]:List Sx),([]:List Sx))])))))) (ax I.2))) λJ=>(bn (aT (af J.p6+af ([(J.p3.1,J.p3.2,J.q7)])) 72) (cu ((ca M.1),J.1,J.2.1,J.p2,J.p4,J.p5,(J.p6++([(J.p3.1,J.p3.2,J.q7)])))))))))))) (obind (obind (eg (M.p2,M.q6)) λy14=>(ik y14.1 0 (obind (qL ()) λy15=>(obind (qb 1) λy16=>(obind (iv ([120],y16)) λy17=>(ajn (y15,[([109,97,105,110],0,[[97],[98]],[dw y17])]))))) (ajn (M.p2,M.q6)))) λr=>ajn (bM r)))) (0,(0,20,ajq,ajq,ajq,ajq),y1,[[109,97,105,110],[116,49],[116,50],[116,51]],y2.2,(ajp,([]:List (List UInt8))),([]:List qE)))))
def vN (x:List Int):Option yd:=
 (obind (nA x) λJ=>(obind (pa J) λI=>(ajn I.1)))
def qM (x:(List Int)×List Int):Option (dv×List gk):=
 (obind (vN x.1) λM=>(obind (nB x.2) λJ=>(obind (xr (M,J)) λI=>(ajn I.1))))
def mt (x:Unit):Option dv:=
 (iter (σ:=Int×fY×fH×(List eh)×bP×bP×List (Int×Int×Int)) (λJ=>(bk J.1 (aJ (af ([[109,97,105,110],[116,49],[116,50],[116,51]]))) (iter (σ:=Int×fY×fH×(List eh)×bP×bP×List (Int×Int×Int)) (λI=>(bk I.1 6 (bn (aT (af I.q6+af ([(J.1,I.1,(be .i64 ((be .i64 ((be .i64 (10*J.1))+I.1))+1)))])) 24) (cu ((ca I.1),I.2.1,I.p2,I.p3,I.p4,I.p5,(I.q6++([(J.1,I.1,(be .i64 ((be .i64 ((be .i64 (10*J.1))+I.1))+1)))]))))) (ax (nG ((ca J.1),I.2))))) (0,J.2)) (ax J.2))) (0,[([120],0,0,ajq,0),([121],0,0,ajq,1),([118],0,0,ajp,0),([113],0,2,ajq,0),([113],1,2,ajq,0)],[([109],ajq),([110],ajq),([114],ajp)],[([99],0)],[[102]],[[109,97,105,110],[116,49],[116,50],[116,51]],([]:List (Int×Int×Int))))
def jX (x:nU×(List Int)×(List Int)×List Int):Option (List Int):=
 (iter (σ:=Int×List Int) (λI=>(bk I.1 (aP x.1.q3) (jn (α:=List Int) (bw gm x.1.q3 I.1 λJ=>(aX J.1 3 (bn (aT (af I.2+af ([I.1])) 8) (ax (I.2++([I.1])))) (ax I.2))) λM=>(cu ((ca I.1),M))) (ax I.2))) (0,([]:List Int)))
def rJ (x:Unit):Option (List Int):=
 (ajn ([3,3,3,3,3,4,4,4,4,4,5,5,5,6,6,6,7,7,7,8,9,10,11,12,13,14,14,15,16,16,17,17,18,18,19,20,1,1,2,21,22,23,23]))
def nv (x:(Int×Int)×(List Int)×Int):Option (Int×(List Int)×Int):=
 (jn (α:=Bool×(List Int)×Int) (aX x.1.1 3 (ax ((decide ((x.1.1:Int)=3)),x.2)) (ax ((decide ((x.1.1:Int)=4)),x.2))) λU=>(bcase U.1 (obind (bh (8,U.2)) λy2=>(kf aH ([0,0,0,1,1,2,3,4]) y2.1 λz3=>(ajn (z3,y2.2)))) (jn (α:=Bool×(List Int)×Int) (aX x.1.1 6 (ax ((decide ((x.1.1:Int)=6)),U.2)) (ax ((decide ((x.1.1:Int)=7)),U.2))) λJ=>(bcase J.1 (obind (bh (2,J.2)) λy5=>(ajn y5)) (jn (α:=Bool×(List Int)×Int) (aX x.1.1 8 (ax ((decide ((x.1.1:Int)=8)),J.2)) (aX x.1.1 9 (ax ((decide ((x.1.1:Int)=9)),J.2)) (aX x.1.1 10 (ax ((decide ((x.1.1:Int)=10)),J.2)) (ax ((decide ((x.1.1:Int)=11)),J.2))))) λI=>(bcase I.1 (ajn (2,I.2)) (jn (α:=Bool×(List Int)×Int) (aX x.1.1 16 (ax ((decide ((x.1.1:Int)=16)),I.2)) (aX x.1.1 17 (ax ((decide ((x.1.1:Int)=17)),I.2)) (aX x.1.1 18 (ax ((decide ((x.1.1:Int)=18)),I.2)) (aX x.1.1 19 (ax ((decide ((x.1.1:Int)=19)),I.2)) (aX x.1.1 22 (ax ((decide ((x.1.1:Int)=22)),I.2)) (ax ((decide ((x.1.1:Int)=23)),I.2))))))) λM=>(bcase M.1 (ajn (0,M.2)) (jn (α:=Bool×(List Int)×Int) (aX x.1.1 20 (ax ((decide ((x.1.1:Int)=20)),M.2)) (ax ((decide ((x.1.1:Int)=21)),M.2))) λY=>(bcase Y.1 (obind (bh (3,Y.2)) λZ=>(ajn ((yl (be .i64 ((ca x.1.2)+Z.1)) 4),Z.2))) (ajn ((-1),Y.2))))))))))))
def oY (x:(dH×Int×Int)×(List Int)×Int):Option (Int×(List Int)×Int):=
 (aX x.1.2.1 3 (bw aH x.1.1.2.1 x.1.2.2 λZ=>(ajn (Z,x.2))) (aX x.1.2.1 23 (bw aH x.1.1.p2 0 λY=>(ajn (Y,x.2))) (jn (α:=Bool×eL×nU×(List Int)×(List Int)×List Int) (aX x.1.2.1 4 (ax ((decide ((x.1.2.1:Int)=4)),x.2,x.1.1)) (ax ((decide ((x.1.2.1:Int)=22)),x.2,x.1.1))) λI=>(bcase I.1 (obind (bh (3,I.2.1)) λy4=>(ajn y4)) (aX x.1.2.1 5 (obind (bh (2,I.2.1)) λy5=>(ajn y5)) (aX x.1.2.1 18 (obind (jX I.2.2) λJ=>(bk 0 (aP J) (obind (bh ((aP J),I.2.1)) λM=>(bw aH J M.1 λU=>(ajn (U,M.2)))) (ajn ((-1),I.2.1)))) (aX x.1.2.1 19 (obind (jX I.2.2) λy9=>(ajn ((aP y9),I.2.1))) (ajn (0,I.2.1)))))))))
def fA (x:eL×List Int):Option ((List Int)×eL×List Int):=
 (iter (σ:=Int×eL×(List Int)×List Int) (λI=>(bk I.1 (aP x.2) (jn (α:=eL×(List Int)×List Int) (kf aH I.p2 I.1 λM=>(jn (α:=Bool×eL×(List Int)×List Int) (jf (aP I.p2) (be .i64 (I.1+3)) (obind (bh (2,I.2.1)) λU=>(ax ((decide ((U.1:Int)=1)),U.2,I.2.2))) (ax (ajq,I.2))) λJ=>(bcase J.1 (bn (aT (af J.q3+af ([M])) 8) (ax (J.2.1,J.p2,(J.q3++([M]))))) (ax J.2)))) λY=>(cu ((ca I.1),Y))) (ax (I.q3,I.2.1,I.p2)))) (0,x.1,x.2,([]:List Int)))
def oZ (x:(dH×fY×fH×(List eh)×bP×bP×List (Int×Int×Int))×eL×(List Int)×(List Int)×(List Int)×List Int):Option (gk×eL×(List Int)×(List Int)×(List Int)×List Int):=
 (obind (bh (4,x.2.1)) λU=>(obind (rJ ()) λy2=>(obind (bh ((aP y2),U.2)) λy3=>(bw aH y2 y3.1 λz4=>(obind (bh (6,y3.2)) λy5=>(jn (α:=eL×(List Int)×(List Int)×(List Int)×(List Int)×dH×dv×uq×Int×Int×Int×Int×Int) (jn (α:=Bool×eL×(List Int)×(List Int)×(List Int)×(List Int)×dH×dv×uq×Int×Int×Int×Int×Int) (aX z4 1 (ax (ajp,y5.2,x.p2,x.p3,x.p4,x.q5,x.1.1,x.1.2,(0,0,0,0,0),U.1,z4,0,0,(be .i64 ((be .i64 (U.1*6))+y5.1)))) (ax ((decide ((z4:Int)=2)),y5.2,x.p2,x.p3,x.p4,x.q5,x.1.1,x.1.2,(0,0,0,0,0),U.1,z4,0,0,(be .i64 ((be .i64 (U.1*6))+y5.1))))) λY=>(bcase Y.1 (ax (Y.2.1,Y.p2,Y.p3,Y.p4,Y.p5,Y.p6,Y.p7,Y.p8,Y.p9,Y.p10,Y.p11,Y.p12,(-1))) (ax Y.2))) λM=>(obind (nv ((M.p9,U.1),M.1)) λy8=>(obind (oY ((M.p5,M.p9,y8.1),y8.2)) λy9=>(jn (α:=eL×(List Int)×(List Int)×(List Int)×(List Int)×uq×Int×Int×Int×Int×Int×List Int) (jn (α:=Bool×eL×(List Int)×(List Int)×(List Int)×(List Int)×uq×Int×Int×Int×Int×Int) (aX M.p9 5 (ax (ajp,y9.2,M.2.1,M.p2,M.p3,M.p4,M.p7,M.p8,M.p9,y8.1,y9.1,M.q12)) (aX M.p9 3 (bw jI M.p6.1 y8.1 λz12=>(ax ((eX 0 z12.2.2.1),y9.2,M.2.1,M.p2,M.p3,M.p4,M.p7,M.p8,M.p9,y8.1,y9.1,M.q12))) (aX M.p9 4 (bw jI M.p6.1 y8.1 λz13=>(ax ((eX 0 z13.2.2.1),y9.2,M.2.1,M.p2,M.p3,M.p4,M.p7,M.p8,M.p9,y8.1,y9.1,M.q12))) (ax (ajq,y9.2,M.2.1,M.p2,M.p3,M.p4,M.p7,M.p8,M.p9,y8.1,y9.1,M.q12))))) λJ=>(bcase J.1 (aX U.1 0 (obind (fA (J.2.1,J.p2)) λy14=>(bn (av (af J.p2) (af y14.2.2)&&ajp) (ax (y14.2.1,y14.2.2,J.p3,J.p4,J.p5,J.p6,J.p7,J.p8,J.p9,J.p10,J.q11,y14.1)))) (aX U.1 1 (obind (fA (J.2.1,J.p3)) λy15=>(bn (av (af J.p3) (af y15.2.2)&&ajp) (ax (y15.2.1,J.p2,y15.2.2,J.p4,J.p5,J.p6,J.p7,J.p8,J.p9,J.p10,J.q11,y15.1)))) (aX U.1 2 (obind (fA (J.2.1,J.p4)) λy16=>(bn (av (af J.p4) (af y16.2.2)&&ajp) (ax (y16.2.1,J.p2,J.p3,y16.2.2,J.p5,J.p6,J.p7,J.p8,J.p9,J.p10,J.q11,y16.1)))) (aX U.1 3 (obind (fA (J.2.1,J.p5)) λy17=>(bn (av (af J.p5) (af y17.2.2)&&ajp) (ax (y17.2.1,J.p2,J.p3,J.p4,y17.2.2,J.p6,J.p7,J.p8,J.p9,J.p10,J.q11,y17.1)))) ajo)))) (ax (J.2.1,J.p2,J.p3,J.p4,J.p5,J.p6,J.p7,J.p8,J.p9,J.p10,J.q11,([]:List Int))))) λx10=>(jn (α:=eL×(List Int)×(List Int)×(List Int)×(List Int)×uq×Int×Int×Int×Int×Int×(List Int)×List Int) (jn (α:=Bool×eL×(List Int)×(List Int)×(List Int)×(List Int)×uq×Int×Int×Int×Int×Int×List Int) (aX x10.p7 4 (ax (ajp,x10)) (ax ((decide ((x10.p7:Int)=22)),x10))) λI=>(bcase I.1 (aX U.1 0 (obind (fA (I.2.1,I.p2)) λy20=>(bn (av (af I.p2) (af y20.2.2)&&ajp) (ax (y20.2.1,y20.2.2,I.p3,I.p4,I.p5,I.p6,I.p7,I.p8,I.p9,I.p10,I.p11,I.q12,y20.1)))) (aX U.1 1 (obind (fA (I.2.1,I.p3)) λy21=>(bn (av (af I.p3) (af y21.2.2)&&ajp) (ax (y21.2.1,I.p2,y21.2.2,I.p4,I.p5,I.p6,I.p7,I.p8,I.p9,I.p10,I.p11,I.q12,y21.1)))) (aX U.1 2 (obind (fA (I.2.1,I.p4)) λy22=>(bn (av (af I.p4) (af y22.2.2)&&ajp) (ax (y22.2.1,I.p2,I.p3,y22.2.2,I.p5,I.p6,I.p7,I.p8,I.p9,I.p10,I.p11,I.q12,y22.1)))) (aX U.1 3 (obind (fA (I.2.1,I.p5)) λy23=>(bn (av (af I.p5) (af y23.2.2)&&ajp) (ax (y23.2.1,I.p2,I.p3,I.p4,y23.2.2,I.p6,I.p7,I.p8,I.p9,I.p10,I.p11,I.q12,y23.1)))) ajo)))) (ax (I.2.1,I.p2,I.p3,I.p4,I.p5,I.p6,I.p7,I.p8,I.p9,I.p10,I.p11,I.q12,([]:List Int))))) λZ=>(ajn (Z.q6,Z.1,Z.2.1,Z.p2,Z.p3,Z.p4))))))))))))
def qH (x:(dH×dv×Int×Bool)×(List Int)×Int):Option ((List gk)×(List Int)×Int):=
 (bn (cD 0 (aP x.1.2.1.p4)&&cD (aP x.1.2.1.p4) (aP x.1.2.1.p4)&&aT (aL (aP x.1.2.1.p4)) 24&&decide (((aP x.1.2.1.p4):Int)=4)) (jn (α:=eL×dH×dv×(List Int)×(List Int)×(List Int)×List Int) (bk 0 (aJ 4) (jn (α:=eL×dH×dv×(List Int)×(List Int)×(List Int)×List Int) (jn (α:=Bool×eL×dH×dv×(List Int)×(List Int)×(List Int)×List Int) (bcase x.1.q3 (bw aH x.1.1.q3 0 λz4=>(bk 1 z4 (obind (bh (3,x.2)) λy5=>(ax ((decide ((y5.1:Int)=2)),y5.2,x.1.1,x.1.2.1,([]:List Int),([]:List Int),([]:List Int),([]:List Int)))) (ax (ajq,x.2,x.1.1,x.1.2.1,([]:List Int),([]:List Int),([]:List Int),([]:List Int))))) (ax (ajq,x.2,x.1.1,x.1.2.1,([]:List Int),([]:List Int),([]:List Int),([]:List Int)))) λx3=>(bcase x3.1 (bn (aT (af x3.p4+af ([1])) 8) (ax (x3.2.1,x3.p2,x3.p3,(x3.p4++([1])),x3.q5))) (ax x3.2))) λx2=>(bk 1 (aJ 4) (jn (α:=eL×dH×dv×(List Int)×(List Int)×(List Int)×List Int) (jn (α:=Bool×eL×dH×dv×(List Int)×(List Int)×(List Int)×List Int) (bcase x.1.q3 (bw aH x2.2.1.q3 1 λz8=>(bk 1 z8 (obind (bh (3,x2.1)) λy9=>(ax ((decide ((y9.1:Int)=2)),y9.2,x2.2))) (ax (ajq,x2)))) (ax (ajq,x2))) λx7=>(bcase x7.1 (bn (aT (af x7.p5+af ([1])) 8) (ax (x7.2.1,x7.p2,x7.p3,x7.p4,(x7.p5++([1])),x7.q6))) (ax x7.2))) λx6=>(bk 2 (aJ 4) (jn (α:=eL×dH×dv×(List Int)×(List Int)×(List Int)×List Int) (jn (α:=Bool×eL×dH×dv×(List Int)×(List Int)×(List Int)×List Int) (bcase x.1.q3 (bw aH x6.2.1.q3 2 λz12=>(bk 1 z12 (obind (bh (3,x6.1)) λy13=>(ax ((decide ((y13.1:Int)=2)),y13.2,x6.2))) (ax (ajq,x6)))) (ax (ajq,x6))) λY=>(bcase Y.1 (bn (aT (af Y.p6+af ([1])) 8) (ax (Y.2.1,Y.p2,Y.p3,Y.p4,Y.p5,(Y.p6++([1])),Y.q7))) (ax Y.2))) λx10=>(bk 3 (aJ 4) (jn (α:=eL×dH×dv×(List Int)×(List Int)×(List Int)×List Int) (jn (α:=Bool×eL×dH×dv×(List Int)×(List Int)×(List Int)×List Int) (bcase x.1.q3 (bw aH x10.2.1.q3 3 λz16=>(bk 1 z16 (obind (bh (3,x10.1)) λy17=>(ax ((decide ((y17.1:Int)=2)),y17.2,x10.2))) (ax (ajq,x10)))) (ax (ajq,x10))) λU=>(bcase U.1 (bn (aT (af U.q7+af ([1])) 8) (ax (U.2.1,U.p2,U.p3,U.p4,U.p5,U.p6,(U.q7++([1]))))) (ax U.2))) λx14=>(bk 4 (aJ 4) (jn (α:=eL×dH×dv×(List Int)×(List Int)×(List Int)×List Int) (jn (α:=Bool×eL×dH×dv×(List Int)×(List Int)×(List Int)×List Int) (bcase x.1.q3 (bw aH x14.2.1.q3 4 λz20=>(bk 1 z20 (obind (bh (3,x14.1)) λy21=>(ax ((decide ((y21.1:Int)=2)),y21.2,x14.2))) (ax (ajq,x14)))) (ax (ajq,x14))) λx19=>(bcase x19.1 ajo (ax x19.2))) λx18=>ajo) (ax x14))) (ax x10))) (ax x6))) (ax x2))) (ax (x.2,x.1.1,x.1.2.1,([]:List Int),([]:List Int),([]:List Int),([]:List Int)))) λx1=>(iter (σ:=eL×dH×dv×(List gk)×(List Int)×(List Int)×(List Int)×List Int) (λx22=>(jn (α:=Bool×eL×dH×dv×(List gk)×(List Int)×(List Int)×(List Int)×List Int) (bk (aP x22.p3) x.1.p2 (ax ((eX x22.1.2 (aP x22.1.1)),x22)) (ax (ajq,x22))) λJ=>(bcase J.1 (jn (α:=eL×dH×dv×(List gk)×(List Int)×(List Int)×(List Int)×List Int) (obind (oZ ((J.p2,J.p3),J.2.1,J.q5)) λM=>(bn (av (af J.q8) (af M.q5)&&(av (af J.p7) (af M.p4)&&(av (af J.p6) (af M.p3)&&(av (af J.p5) (af M.p2)&&ajp)))) (obind (pT (J.p3,J.p2,M.1)) λy26=>(bcase (!y26.2) (ax (M.2.1,J.p2,J.p3,J.p4,M.2.2)) (jn (α:=eL×dH×dv×(List gk)×gk×dH×(List Int)×(List Int)×(List Int)×List Int) (jn (α:=Bool×eL×dH×dv×(List gk)×gk×dH×(List Int)×(List Int)×(List Int)×List Int) (aX M.1.2.1 3 (ax (ajp,M.2.1,J.p2,J.p3,J.p4,M.1,y26.1,M.2.2)) (ax ((decide ((M.1.2.1:Int)=23)),M.2.1,J.p2,J.p3,J.p4,M.1,y26.1,M.2.2))) λI=>(bcase I.1 (aX I.p5.1 0 (bw aH I.p2.q3 0 λz29=>(bn (aT (af I.p7+af ([z29])) 8) (ax (I.2.1,I.p2,I.p3,I.p4,(0,I.p5.2),I.p6,(I.p7++([z29])),I.q8)))) (aX I.p5.1 1 (bw aH I.p2.q3 1 λz30=>(bn (aT (af I.p8+af ([z30])) 8) (ax (I.2.1,I.p2,I.p3,I.p4,(1,I.p5.2),I.p6,I.p7,(I.p8++([z30])),I.q9)))) (aX I.p5.1 2 (bw aH I.p2.q3 2 λz31=>(bn (aT (af I.p9+af ([z31])) 8) (ax (I.2.1,I.p2,I.p3,I.p4,(2,I.p5.2),I.p6,I.p7,I.p8,(I.p9++([z31])),I.q10)))) (aX I.p5.1 3 (bw aH I.p2.q3 3 λz32=>(bn (aT (af I.q10+af ([z32])) 8) (ax (I.2.1,I.p2,I.p3,I.p4,(3,I.p5.2),I.p6,I.p7,I.p8,I.p9,(I.q10++([z32])))))) ajo)))) (ax I.2))) λZ=>(bn (aT (af Z.p3+af ([Z.p4])) 88) (ax (Z.1,Z.p5,Z.p2,(Z.p3++([Z.p4])),Z.q6)))))))) λx24=>(cu x24)) (ax (J.p4,J.2.1))))) (x1.1,x1.2.1,x1.p2,([]:List gk),x1.q3))))
def o6 (x:(List Int)×Int):Option (dv×List gk):=
 (jn (α:=List Int) (bk 600 (aP x.1) (bn (cD 0 600&&cD 600 (af x.1)) (ax (db (aL 600) x.1))) (ax x.1)) λx1=>(obind (mt ()) λy2=>(obind (lI y2) λy3=>(obind (bh (3,x1,0)) λy4=>(iter (σ:=Int×eL×dv×dH×List gk) (λJ=>(jf J.1 (be .i64 (1+y4.1)) (bn (aT (af J.q4+af ([(0,20,J.1,0,0,([]:List Int),([]:List Int)),(J.1,1,(-1),0,(-1),([]:List Int),([]:List Int))])) 88) (cu ((ca J.1),J.2.1,J.p2,J.p3,(J.q4++([(0,20,J.1,0,0,([]:List Int),([]:List Int)),(J.1,1,(-1),0,(-1),([]:List Int),([]:List Int))]))))) (obind (iter (σ:=Int×eL×dv×dH×(List gk)×List gk) (λI=>(bk I.1 (aP J.q4) (jn (α:=eL×dv×dH×(List gk)×List gk) (kf ip I.p4 I.1 λU=>(obind (pT (I.p2,I.p3,U)) λy9=>(bcase y9.2 (bn (aT (af I.q5+af ([U])) 88) (ax (I.2.1,I.p2,y9.1,I.p4,(I.q5++([U]))))) (ax I.2)))) λx7=>(cu ((ca I.1),x7))) (obind (obind (qH ((I.p3,I.p2,(Fi (jv x.2 0) 60),ajq),I.2.1)) λM=>(bn (aT (af I.q5+af M.1) 88) (obind (su (I.p2,(I.q5++M.1))) λZ=>(ik Z.2 0 (obind (mt ()) λY=>(ajn (Y,([]:List gk)))) (ajn (I.p2,(I.q5++M.1))))))) λr=>ajn (bM r)))) (0,J.2.1,J.p2,J.p3,J.q4,([]:List gk))) λr=>ajn (bM r)))) (1,y4.2,y2,y3,[(0,1,(-1),0,(-1),([]:List Int),([]:List Int))]))))))
def jY (x:((List Int)×(List Int)×List Int)×Int):Option (dv×List gk):=
 (bk 0 (aP x.1.2.2) (obind (o6 (x.1.2.2,x.2)) λJ=>(ajn J)) (bn (cD 0 (Fi (aP x.1.2.1) x.2)&&cD (Fi (aP x.1.2.1) x.2) (af x.1.2.1)) (obind (qM (x.1.1,(db (aL (Fi (aP x.1.2.1) x.2)) x.1.2.1))) λI=>(ajn I))))
end
end Go.Proofs.YtkagidinekdnoaaGreatDoor.AI
