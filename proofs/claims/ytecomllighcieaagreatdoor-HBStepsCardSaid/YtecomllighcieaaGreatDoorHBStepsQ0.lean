/-
  Texts of the proof, part 1 of 6: what is used to prove the statement. No condition.
-/
import Derived.WalkKit
import Derived.Lib.Hide
import Derived.Deep.QuietTactic
namespace Go.Proofs.YtecomllighcieaaGreatDoor.AI
open Go.RowKit
set_option maxRecDepth 100000
set_option maxHeartbeats 4000000
set_option linter.unusedVariables false
set_option linter.unusedSimpArgs false
open Act renaming put→xR
open _root_.Array renaming getElem?_eq_some_iff→b6,getElem?_toList→b8,getD_eq_getD_getElem?→dS,getElem?_eq_getElem→em,length_toList→ic,replicate→jt,getElem?_setIfInBounds_ne→kx
open _root_.Bool renaming and_eq_true→ak,false_eq_true→bW,or_eq_true→eO
open _root_.Int renaming ofNat→ah,toNat→aM,tmod→qA
open IntKind renaming wrap→jN
open _root_.List renaming length→aa,getElem?_eq_getElem→aw,replicate→aF,getD_eq_getElem?_getD→aN,getElem?_map→aY,mem_of_getElem?→bc,getElem?_eq_none→bU,getElem?_append_left→bV,getElem?_append_right→co,length_append→cq,mem_cons_of_mem→cS,take→dD,length_singleton→dM,mem_cons_self→eU,mem_append_left→fb,range→fE,mem_append_right→gh,getElem?_cons_zero→lh,mem_flatMap→nX,getElem_mem→nY
open _root_.Nat renaming eq_of_beq_eq_true→au,beq→av,testBit→aI,testBit_or→bh,zero_add→bw,ble_eq_true_of_le→bB,lt_or_ge→cA,le_refl→cD,lt_of_lt_of_le→cI,le_trans→cO,ble→cZ,ne_of_beq_eq_false→ec,blt→eg,min→eN,beq_refl→nW,not_lt_zero→uh,mul_comm→uT
open Oper renaming wp→uS
open _root_.Option renaming bind_some→aC,isSome_iff_exists→eK
open _root_.Option.some renaming injEq→ae
open _root_.Prod.mk renaming injEq→ay
open Region renaming wanted→eJ,binds→qu,ready→uR
open World renaming shape?→ma,cell?→xP
inductive FV where
 |raw (v:Value)
 |sl (cells:List FV) (n:Nat)
 |ptr (cells:List FV) (off:Nat)
 |agg (cells:List FV)
inductive AV where
 |f (x:FV)
 |ptr (id off:Nat)
 |sl (id off n:Nat)
 |row (id sz n:Nat)
 |mp (id:Nat)
 |emp
 |anyb
 |agg (cells:List AV)
 |tup (vs:List AV)
 |clo (g:FuncId) (cap:List AV)
def FV.isCell:FV→Bool
 |.raw v=>v.oneCell'
 |.sl _ _=>true
 |.ptr _ _=>true
 |.agg _=>false
def AV.isCell:AV→Bool
 |.f x=>x.isCell
 |.ptr _ _=>true
 |.sl _ _ _=>true
 |.row _ _ _=>true
 |.mp _=>true
 |.emp=>true
 |.clo _ _=>true
 |_=>false
inductive iM (O:Nat→Prop) (w:World):FV→Value→Prop
 |raw (v:Value):iM O w (.raw v) v
 |nil (a:Option Addr) (c:Nat) (hc:c≤maxLen):iM O w (.sl [] 0) (.slice a 0 c)
 |sl (cells:List FV) (n c b off:Nat) (us:Nat→Value) (hn:n≤c) (hc:c≤maxLen) (hO:¬O b) (hb:b<w.heap.size)
   (hcl:∀ x∈cells,x.isCell=true)
   (hu:∀ j,j<cells.length→w.cell? ⟨b,off+j,none⟩=some (us j)) (hr:∀ (j:Nat) x,cells[j]? =some x→iM O w x (us j)):
   iM O w (.sl cells n) (.slice (some ⟨b,off,none⟩) n c)
 |ptr (cells:List FV) (o b off:Nat) (us:Nat→Value) (hO:¬O b) (hb:b<w.heap.size)
   (hcl:∀ x∈cells,x.isCell=true)
   (hu:∀ j,j<cells.length→w.cell? ⟨b,off+j,none⟩=some (us j)) (hr:∀ (j:Nat) x,cells[j]? =some x→iM O w x (us j)):
   iM O w (.ptr cells o) (.pointer (some ⟨b,off+o,none⟩))
 |agg (cells:List FV) (vs:List Value) (hl:vs.length=cells.length) (hcl:∀ x∈cells,x.isCell=true)
   (hr:∀ (j:Nat) x v,cells[j]? =some x→vs[j]? =some v→iM O w x v):iM O w (.agg cells) (.agg vs.toArray)
abbrev PM:=Nat→Option Nat
inductive cg (φ:PM) (O:Nat→Prop) (w:World):AV→Value→Prop
 |f {x:FV} {v:Value} (h:iM O w x v):cg φ O w (.f x) v
 |ptr {id off b:Nat} (h:φ id=some b):cg φ O w (.ptr id off) (.pointer (some ⟨b,off,none⟩))
 |sl {id off n c b:Nat} (h:φ id=some b) (hn:n≤c) (hc:c≤maxLen):cg φ O w (.sl id off n) (.slice (some ⟨b,off,none⟩) n c)
 |row {id sz n c b:Nat} (h:φ id=some b) (hn:n≤c) (hc:c≤maxLen) (hs:∃ ty,w.shape? b=some (ty,c*sz)):
   cg φ O w (.row id sz n) (.slice (some ⟨b,0,none⟩) n c)
 |emp {a:Option Addr}:cg φ O w .emp (.slice a 0 0)
 |anyb {b:Bool}:cg φ O w .anyb (.bool b)
 |mp {id b:Nat} (h:φ id=some b):cg φ O w (.mp id) (.map (some b))
 |agg {cells:List AV} {vs:List Value} (hl:vs.length=cells.length) (hcl:∀ x∈cells,x.isCell=true)
   (hr:∀ (j:Nat) x v,cells[j]? =some x→vs[j]? =some v→cg φ O w x v):cg φ O w (.agg cells) (.agg vs.toArray)
 |tup {cells:List AV} {vs:List Value} (hl:vs.length=cells.length)
   (hr:∀ (j:Nat) x v,cells[j]? =some x→vs[j]? =some v→cg φ O w x v):cg φ O w (.tup cells) (.tuple vs.toArray)
 |clo {g:FuncId} {cells:List AV} {vs:List Value} (hl:vs.length=cells.length)
   (hr:∀ (j:Nat) x v,cells[j]? =some x→vs[j]? =some v→cg φ O w x v):cg φ O w (.clo g cells) (.func (.func g) #[] vs.toArray)
structure wQ (O:Nat→Prop) (w w':World):Prop where
 os:w'.os=w.os
 tape:w'.tape=w.tape
 output:w'.output=w.output
 size:w.heap.size≤w'.heap.size
 blk:∀ k,k<w.heap.size→¬O k→w'.heap[k]? =w.heap[k]?
 shp:∀ k,k<w.heap.size→w'.shape? k=w.shape? k
theorem wQ.refl (O:Nat→Prop) (w:World):wQ O w w:=⟨rfl,rfl,rfl,cD _,fun _ _ _=>rfl,fun _ _=>rfl⟩
theorem sT {w w':World} {b:Nat} (h:w'.heap[b]? =w.heap[b]?) (o:Nat):w'.cell? ⟨b,o,none⟩=w.cell? ⟨b,o,none⟩:=by
 unfold xP;rw[h]
theorem iM.ext {O O':Nat→Prop} {w w':World} (he:wQ O w w') (ho:∀ k,k<w.heap.size→O' k→O k) {x:FV} {v:Value} (h:iM O w x v):iM O' w' x v:=by
 induction h with
 |raw v=>exact .raw v
 |nil a c hc=>exact .nil a c hc
 |sl cells n c b off us hn hc hO hb hcl hu hr ih=>
  exact .sl cells n c b off us hn hc (fun h=>hO (ho b hb h)) (cI hb he.size) hcl (fun j hj=>by rw[sT (he.blk b hb hO)];exact hu j hj) ih
 |ptr cells o b off us hO hb hcl hu hr ih=>
  exact .ptr cells o b off us (fun h=>hO (ho b hb h)) (cI hb he.size) hcl (fun j hj=>by rw[sT (he.blk b hb hO)];exact hu j hj) ih
 |agg cells vs hl hcl hr ih=>exact .agg cells vs hl hcl ih
theorem cg.ext {φ φ':PM} {O O':Nat→Prop} {w w':World} (hs:∀ i k,φ i=some k→φ' i=some k) (he:wQ O w w') (ho:∀ k,k<w.heap.size→O' k→O k) {x:AV} {v:Value} (h:cg φ O w x v):cg φ' O' w' x v:=by
 induction h with
 |f h=>exact .f (h.ext he ho)
 |ptr h=>exact .ptr (hs _ _ h)
 |sl h hn hc=>exact .sl (hs _ _ h) hn hc
 |row h hn hc hsh=>
  obtain⟨ty,hty⟩:=hsh;refine .row (hs _ _ h) hn hc ⟨ty,?_⟩;rw[he.shp _ ?_];exact hty;unfold ma at hty;rcases cA _ w.heap.size with hlt|hge
  ·exact hlt
  ·rw[Array.getElem?_eq_none hge] at hty;cases hty
 |emp=>exact .emp
 |anyb=>exact .anyb
 |mp h=>exact .mp (hs _ _ h)
 |agg hl hcl hr ih=>exact .agg hl hcl ih
 |tup hl hr ih=>exact .tup hl ih
 |clo hl hr ih=>exact .clo hl ih
inductive BC where
 |fz (l:List FV)
 |mx (l:List AV)
 |mp (es:List (Value×AV))
 |it (s:ByteArray) (pos:Nat)
def BC.get:BC→Nat→Option AV
 |.fz l,j=>l[j]?.map AV.f
 |.mx l,j=>l[j]?
 |_,_=>none
def BC.len:BC→Nat
 |.fz l=>l.length
 |.mx l=>l.length
 |_=>0
def BC.isCells:BC→Bool
 |.fz _=>true
 |.mx _=>true
 |_=>false
structure ph where
 ty:TypeId
 c:BC
abbrev HF:=Nat→Option ph
def own (φ:PM) (h:HF) (k:Nat):Prop:=∃ id b,h id=some b∧φ id=some k
def tot (E:Nat→Prop) (φ:PM) (h:HF) (k:Nat):Prop:=E k∨own φ h k
def ox (φ:PM) (O:Nat→Prop) (w:World) (c:BC) (arr:Array Value):Prop:=
 c.len≤arr.size∧∀ j x,c.get j=some x→x.isCell=true∧∃ v,arr[j]? =some v∧cg φ O w x v
def fm (φ:PM) (O:Nat→Prop) (w:World) (b:ph) (o:Obj):Prop:=
 match b.c with
 |.mp es=>∃ ents clock,o= .map ents clock∧ents.toList.map (·.key)=es.map (·.1)∧∀ (j:Nat) x,es[j]? =some x→∃ m,ents[j]? =some m∧cg φ O w x.2 m.val
 |.it s p=>o= .stringIter s p
 |c=>∃ arr,o= .cells arr b.ty (0,0)∧ox φ O w c arr
def Ck (φ:PM) (O:Nat→Prop) (w:World) (k:Nat) (b:ph):Prop:=∃ o,w.heap[k]? =some o∧fm φ O w b o
theorem Ck.cells {φ:PM} {O:Nat→Prop} {w:World} {k:Nat} {b:ph} (h:Ck φ O w k b) (hc:b.c.isCells=true):
 ∃ arr,w.heap[k]? =some (.cells arr b.ty (0,0))∧ox φ O w b.c arr:=by
 obtain⟨o,h1,h2⟩:=h;unfold fm at h2;cases hb:b.c with
 |fz l=>rw[hb] at h2;obtain⟨arr,rfl,h3⟩:=h2;exact⟨arr,h1,h3⟩
 |mx l=>rw[hb] at h2;obtain⟨arr,rfl,h3⟩:=h2;exact⟨arr,h1,h3⟩
 |mp _=>rw[hb] at hc;cases hc
 |it _ _=>rw[hb] at hc;cases hc
theorem fm.mono {φ φ':PM} {O O':Nat→Prop} {w w':World} (hk:∀ x v,cg φ O w x v→cg φ' O' w' x v) {b:ph} {o:Obj} (h:fm φ O w b o):fm φ' O' w' b o:=by
 unfold fm at h ⊢;cases hb:b.c with
 |fz l=>rw[hb] at h;obtain⟨arr,h1,h2,h3⟩:=h;exact⟨arr,h1,h2,fun j x hx=>by obtain⟨a,v,c,d⟩:=h3 j x hx;exact⟨a,v,c,hk _ _ d⟩⟩
 |mx l=>rw[hb] at h;obtain⟨arr,h1,h2,h3⟩:=h;exact⟨arr,h1,h2,fun j x hx=>by obtain⟨a,v,c,d⟩:=h3 j x hx;exact⟨a,v,c,hk _ _ d⟩⟩
 |mp es=>rw[hb] at h;obtain⟨e,c,h1,h2,h3⟩:=h;exact⟨e,c,h1,h2,fun j x hx=>by obtain⟨m,a,b⟩:=h3 j x hx;exact⟨m,a,hk _ _ b⟩⟩
 |it s p=>rw[hb] at h;exact h
theorem ox.mono {φ φ':PM} {O O':Nat→Prop} {w w':World} (hk:∀ x v,cg φ O w x v→cg φ' O' w' x v) {c:BC} {arr:Array Value} (h:ox φ O w c arr):ox φ' O' w' c arr:=
 ⟨h.1,fun j x hx=>by obtain⟨a,v,c,d⟩:=h.2 j x hx;exact⟨a,v,c,hk _ _ d⟩⟩
def nT (l:List UInt8):FV:=.raw (.string ⟨l.toArray⟩)
def kwCells:List FV:=[nT [118,97,114],nT [118,111,108,97,116,105,108,101],nT [109,117,116,101,120],nT [114,119,108,111,99,107],nT [99,111,110,100],nT [102,117,116,117,114,101],nT [116,104,114,101,97,100],nT [105,102],nT [101,108,115,101],nT [119,104,105,108,101],nT [108,111,99,107],nT [114,101,97,100],nT [119,114,105,116,101],nT [116,114,97,110,115,97,99,116,105,111,110],nT [97,116,111,109,105,99],nT [119,97,105,116],nT [110,111,116,105,102,121],nT [110,111,116,105,102,121,97,108,108],nT [115,112,97,119,110],nT [106,111,105,110],nT [115,101,116],nT [103,101,116]]
def G (g:Nat):Option (List FV):=if g==0 then some kwCells else none
structure lm (φ:PM) (E:Nat→Prop) (h:HF) (w:World):Prop where
 inj:∀ i j b b' k,h i=some b→h j=some b'→φ i=some k→φ j=some k→i=j
 at_:∀ i b,h i=some b→∃ k,φ i=some k∧¬E k∧Ck φ (tot E φ h) w k b
 el:∀ k,E k→k<w.heap.size
 gl:∀ g cells,G g=some cells→iM (tot E φ h) w (.ptr cells 0) (.pointer (some ⟨g,0,none⟩))
structure eT (φ φ':PM) (h h':HF) (w w':World):Prop where
 sub:∀ i k,φ i=some k→φ' i=some k
 ext:wQ (own φ h) w w'
 own_:∀ k,k<w.heap.size→own φ' h' k→own φ h k
theorem eT.refl (φ:PM) (h:HF) (w:World):eT φ φ h h w w:=⟨fun _ _ h=>h,wQ.refl _ _,fun _ _ h=>h⟩
theorem eT.trans {φ φ' φ'':PM} {h h' h'':HF} {w w' w'':World} (m:eT φ φ' h h' w w') (n:eT φ' φ'' h' h'' w' w''):eT φ φ'' h h'' w w'' where
 sub:=fun i k e=>n.sub i k (m.sub i k e)
 ext:=⟨n.ext.os.trans m.ext.os,n.ext.tape.trans m.ext.tape,n.ext.output.trans m.ext.output,cO m.ext.size n.ext.size,
  fun k hk ho=>(n.ext.blk k (cI hk m.ext.size) (fun h=>ho (m.own_ k hk h))).trans (m.ext.blk k hk ho),
  fun k hk=>(n.ext.shp k (cI hk m.ext.size)).trans (m.ext.shp k hk)⟩
 own_:=fun k hk h=>m.own_ k hk (n.own_ k (cI hk m.ext.size) h)
theorem wQ.mono {O O':Nat→Prop} {w w':World} (h:wQ O w w') (ho:∀ k,O k→O' k):wQ O' w w':=
 ⟨h.os,h.tape,h.output,h.size,fun k hk hO=>h.blk k hk (fun x=>hO (ho k x)),h.shp⟩
theorem eT.keep {φ φ':PM} {h h':HF} {w w':World} (m:eT φ φ' h h' w w') {E:Nat→Prop} {x:AV} {v:Value} (r:cg φ (tot E φ h) w x v):cg φ' (tot E φ' h') w' x v:=
 r.ext m.sub (m.ext.mono fun _ h=>.inr h) fun k hk ho=>ho.elim .inl fun o=>.inr (m.own_ k hk o)
theorem eT.keepF {φ φ':PM} {h h':HF} {w w':World} (m:eT φ φ' h h' w w') {E:Nat→Prop} {x:FV} {v:Value} (r:iM (tot E φ h) w x v):iM (tot E φ' h') w' x v:=
 r.ext (m.ext.mono fun _ h=>.inr h) fun k hk ho=>ho.elim .inl fun o=>.inr (m.own_ k hk o)
abbrev EF:=Nat→Option AV
def xM (φ:PM) (O:Nat→Prop) (w:World) (e:EF) (a:Act):Prop:=∀ t x,e t=some x→cg φ O w x (a.tmps.getD t undef)
def r9 (e:EF) (dst:Option Nat) (x:AV):EF:=fun t=>if dst=some t then some x else e t
def c5 (h:HF) (wr:List Nat) (nw:HF):HF:=fun i=>if i∈wr then nw i else h i
structure q9 where
 val:AV
 rd:List Nat
 wr:List Nat
 nw:HF
 N:List Nat
def dX (P:Program) (o:Oper) (e:EF) (h:HF) (f:q9):Prop:=
 ∀ (φ:PM) (E:Nat→Prop) (h':HF) (w:World) (a:Act),(∀ i∈f.rd,h' i=h i)→(∀ i∈f.wr,h' i=h i)→
  (∀ t,.tmp t∈o.op.operands→∀ y,e t=some y→cg φ (tot E φ h') w y (a.tmps.getD t undef))→lm φ E h' w→(∀ n∈f.N,φ n=none)→
  o.wp P a w (fun a' w'=>∃ v φ',a'=a.put o.dst v∧eT φ φ' h' (c5 h' f.wr f.nw) w w'∧(∀ i k,φ' i=some k→φ i=some k∨i∈f.N)∧
   lm φ' E (c5 h' f.wr f.nw) w'∧cg φ' (tot E φ' (c5 h' f.wr f.nw)) w' f.val v) (fun _ _ _=>False)
def skipEff:q9:=⟨.f (.raw undef),[],[],fun _=>none,[]⟩
inductive wK (P:Program) (ops:Array Oper) (o:Oper) (f:q9) (e:EF) (h:HF):Prop
 |run (hg:o.guard=none) (ht:dX P o e h f)
 |runG (j t:Nat) (want:Bool) (hg:o.guard=some (j,want)) (hj:(ops[j]?).bind (·.dst)=some t) (he:e t=some (.f (.raw (.bool want)))) (ht:dX P o e h f)
 |skip (j t:Nat) (want:Bool) (hg:o.guard=some (j,want)) (hj:(ops[j]?).bind (·.dst)=some t) (v:Value) (he:e t=some (.f (.raw v))) (hv:v≠ .bool want) (hf:f=skipEff)
inductive qr (P:Program) (ops:Array Oper):List (Oper×q9)→EF→HF→EF→HF→Prop
 |nil (e:EF) (h:HF):qr P ops [] e h e h
 |cons {o:Oper} {f:q9} {r:List (Oper×q9)} {e e':EF} {h h':HF} (hs:wK P ops o f e h)
   (hr:qr P ops r (r9 e o.dst f.val) (c5 h f.wr f.nw) e' h'):qr P ops ((o,f)::r) e h e' h'
def wW (S:Nat→Bool):Nat→List (Oper×q9)→EF→EF
 |_,[],e=>e
 |k,(o,f)::r,e=>wW S (k+1) r (if S k then r9 e o.dst f.val else e)
def rN (S:Nat→Bool):Nat→List (Oper×q9)→HF→HF
 |_,[],h=>h
 |k,(_,f)::r,h=>rN S (k+1) r (if S k then c5 h f.wr f.nw else h)
theorem tf {S S':Nat→Bool} {t:Nat}:∀ (l:List (Oper×q9)) (k:Nat) (e e':EF),e t=e' t→
 (∀ (j:Nat) o f,l[j]? =some (o,f)→o.dst=some t→S (k+j)=S' (k+j))→wW S k l e t=wW S' k l e' t
 |[],_,_,_,he,_=>he
 |(o,f)::r,k,e,e',he,hw=>by
  simp only[wW];refine tf r (k+1) _ _ ?_ (fun j o f hj hd=>by have:=hw (j+1) o f (by simpa using hj) hd;rwa [show k+(j+1)=k+1+j from by omega] at this);by_cases hd:o.dst=some t
  ·rw[show S k=S' k from by simpa using hw 0 o f rfl hd];split
   ·simp[r9,hd]
   ·exact he
  ·split<;>split<;>simp[r9,hd,he]
theorem te {S S':Nat→Bool} {t:Nat}:∀ (l:List (Oper×q9)) (k:Nat) (e e':HF),e t=e' t→
 (∀ (j:Nat) o f,l[j]? =some (o,f)→t∈f.wr→S (k+j)=S' (k+j))→rN S k l e t=rN S' k l e' t
 |[],_,_,_,he,_=>he
 |(o,f)::r,k,e,e',he,hw=>by
  simp only[rN];refine te r (k+1) _ _ ?_ (fun j o f hj hd=>by have:=hw (j+1) o f (by simpa using hj) hd;rwa [show k+(j+1)=k+1+j from by omega] at this);by_cases hd:t∈f.wr
  ·rw[show S k=S' k from by simpa using hw 0 o f rfl hd];split
   ·simp[c5,hd]
   ·exact he
  ·split<;>split<;>simp[c5,hd,he]
theorem rX {S:Nat→Bool} {t:Nat}:∀ (l:List (Oper×q9)) (k:Nat) (e:EF),(∀ (j:Nat) o f,l[j]? =some (o,f)→o.dst=some t→S (k+j)=false)→wW S k l e t=e t
 |[],_,_,_=>rfl
 |(o,f)::r,k,e,hw=>by
  simp only[wW];rw[rX r (k+1) _ (fun j o f hj hd=>by have:=hw (j+1) o f (by simpa using hj) hd;rwa [show k+(j+1)=k+1+j from by omega] at this)];split
  ·rename_i h;unfold r9;rw[if_neg];intro hd;have:=hw 0 o f rfl hd;simp_all
  ·rfl
theorem rW {S:Nat→Bool} {t:Nat}:∀ (l:List (Oper×q9)) (k:Nat) (e:HF),(∀ (j:Nat) o f,l[j]? =some (o,f)→t∈f.wr→S (k+j)=false)→rN S k l e t=e t
 |[],_,_,_=>rfl
 |(o,f)::r,k,e,hw=>by
  simp only[rN];rw[rW r (k+1) _ (fun j o f hj hd=>by have:=hw (j+1) o f (by simpa using hj) hd;rwa [show k+(j+1)=k+1+j from by omega] at this)];split
  ·rename_i h;unfold c5;rw[if_neg];intro hd;have:=hw 0 o f rfl hd;simp_all
  ·rfl
theorem yY {S:Nat→Bool} {t:Nat}:∀ (l:List (Oper×q9)) (k i:Nat) (e:EF) (o:Oper) (f:q9),l[i]? =some (o,f)→o.dst=some t→S (k+i)=true→
 (∀ (j:Nat) o' f',i<j→l[j]? =some (o',f')→o'.dst=some t→S (k+j)=false)→wW S k l e t=some f.val
 |[],_,_,_,_,_,h,_,_,_=>by simp at h
 |(o',f')::r,k,0,e,o,f,h,hd,hS,hl=>by
  simp only[lh,ae,ay] at h;obtain⟨rfl,rfl⟩:=h;simp only[wW];rw[rX r (k+1) _ (fun j o f hj hd=>by have:=hl (j+1) o f (by omega) (by simpa using hj) hd;rwa [show k+(j+1)=k+1+j from by omega] at this)];simp at hS;simp[hS,r9,hd]
 |(o',f')::r,k,i+1,e,o,f,h,hd,hS,hl=>by
  simp only[wW];exact yY r (k+1) i _ o f (by simpa using h) hd (by rwa [show k+1+i=k+(i+1) from by omega])
   (fun j o f hij hj hd=>by have:=hl (j+1) o f (by omega) (by simpa using hj) hd;rwa [show k+(j+1)=k+1+j from by omega] at this)
theorem yX {S:Nat→Bool} {t:Nat}:∀ (l:List (Oper×q9)) (k i:Nat) (e:HF) (o:Oper) (f:q9),l[i]? =some (o,f)→t∈f.wr→S (k+i)=true→
 (∀ (j:Nat) o' f',i<j→l[j]? =some (o',f')→t∈f'.wr→S (k+j)=false)→rN S k l e t=f.nw t
 |[],_,_,_,_,_,h,_,_,_=>by simp at h
 |(o',f')::r,k,0,e,o,f,h,hd,hS,hl=>by
  simp only[lh,ae,ay] at h;obtain⟨rfl,rfl⟩:=h;simp only[rN];rw[rW r (k+1) _ (fun j o f hj hd=>by have:=hl (j+1) o f (by omega) (by simpa using hj) hd;rwa [show k+(j+1)=k+1+j from by omega] at this)];simp at hS;simp[hS,c5,hd]
 |(o',f')::r,k,i+1,e,o,f,h,hd,hS,hl=>by
  simp only[rN];exact yX r (k+1) i _ o f (by simpa using h) hd (by rwa [show k+1+i=k+(i+1) from by omega])
   (fun j o f hij hj hd=>by have:=hl (j+1) o f (by omega) (by simpa using hj) hd;rwa [show k+(j+1)=k+1+j from by omega] at this)
theorem qr.step {P:Program} {ops:Array Oper}:∀ {l:List (Oper×q9)} {e e':EF} {h h':HF} (_:qr P ops l e h e' h') (k i:Nat) (o:Oper) (f:q9),l[i]? =some (o,f)→
 wK P ops o f (wW (fun j=>decide (j<k+i)) k l e) (rN (fun j=>decide (j<k+i)) k l h):=by
 intro l e e' h h' hc;induction hc with
 |nil=>intro k i o f hi;simp at hi
 |@cons o1 f1 r e e' h h' hs hr ih=>
  intro k i o f hi;cases i with
  |zero=>
   simp only[lh,ae,ay] at hi;obtain⟨rfl,rfl⟩:=hi;have e1:wW (fun j=>decide (j<k+0)) k ((o1,f1)::r) e=e:=by
    funext t;rw[rX];intro j o f _ _;simp
   have e2:rN (fun j=>decide (j<k+0)) k ((o1,f1)::r) h=h:=by
    funext t;rw[rW];intro j o f _ _;simp
   rw[e1,e2];exact hs
  |succ i=>
   have:=ih (k+1) i o f (by simpa using hi);simp only[wW,rN];rw[show k+(i+1)=k+1+i from by omega];simpa[show k<k+1+i from by omega] using this
theorem qr.final {P:Program} {ops:Array Oper}:∀ {l:List (Oper×q9)} {e e':EF} {h h':HF} (_:qr P ops l e h e' h') (k:Nat) (S:Nat→Bool),(∀ j,j<l.length→S (k+j)=true)→
 wW S k l e=e'∧rN S k l h=h':=by
 intro l e e' h h' hc;induction hc with
 |nil=>intro k S _;exact⟨rfl,rfl⟩
 |@cons o1 f1 r e e' h h' hs hr ih=>
  intro k S hS;have h0:S k=true:=by simpa using hS 0 (by simp)
  simp only[wW,rN,h0,if_true];exact ih (k+1) S (fun j hj=>by have:=hS (j+1) (by simpa using hj);rwa [show k+(j+1)=k+1+j from by omega] at this)
theorem yT {P:Program} {o:Oper} {a:Act} {w:World} {K K':Act→World→Prop} {Q:Exit→Act→World→Prop} (h:∀ a w,K a w→K' a w)
 (hh:o.wp P a w K (fun _ _ _=>False)):o.wp P a w K' Q:=by
 unfold uS at*
 generalize (execOp a.eval o).run P w=r at*
 cases r with
 |ok n w'=>
  cases n<;>simp only[Oper.upon] at hh ⊢<;>
   first
    |exact h _ _ hh
    |exact Calls.mono hh (fun e w'' he=>by
      cases e with
      |returned v=>exact h _ _ he
      |panicked c=>exact he.elim
      |outgrown=>obtain⟨_,_,h⟩:=he;exact h.elim)
    |exact Rows.mono hh (fun _ _ he=>h _ _ he)
 |halt x w'=>cases x<;>simp only[Oper.upon] at hh ⊢<;>first|exact hh.elim|exact hh
inductive EJ (ops:Array Oper):Nat→Nat→Prop
 |one {j:Nat} {o:Oper} {e:Edge} (h:ops[j]? =some o) (he:e∈o.after) (hb:qu .any e=true):EJ ops j e.on
 |more {j i:Nat} {o:Oper} {e:Edge} (h:ops[j]? =some o) (he:e∈o.after) (hb:qu .any e=true) (hi:EJ ops e.on i):EJ ops j i
structure HA (ops:Array Oper) (l:List (Oper×q9)):Prop where
 edge:∀ (j:Nat) o,ops[j]? =some o→∀ e∈o.after,qu .any e=true→e.on<j
 pair:∀ (i j:Nat) oi fi oj fj,i<j→l[i]? =some (oi,fi)→l[j]? =some (oj,fj)→EJ ops j i∨
  (oi.apart ops oj=true∧(∀ x∈fi.wr,x∉fj.rd∧x∉fj.wr)∧(∀ x∈fj.wr,x∉fi.rd))
 names:∀ (i j:Nat) oi fi oj fj,i<j→l[i]? =some (oi,fi)→l[j]? =some (oj,fj)→∀ n∈fi.N,n∉fj.N
def ug (ops:Array Oper) (listed:Array Bool):Prop:=∀ (j:Nat) o,ops[j]? =some o→listed.getD j false=true→∀ e∈o.after,qu .any e=true→listed.getD e.on false=true
theorem ug.bef {ops:Array Oper} {listed:Array Bool} (hc:ug ops listed) {j i:Nat} (h:EJ ops j i):listed.getD j false=true→listed.getD i false=true:=by
 induction h with
 |one h he hb=>intro hj;exact hc _ _ h hj _ he hb
 |more h he hb hi ih=>intro hj;exact ih (hc _ _ h hj _ he hb)
theorem Cu {ops:Array Oper} {listed:Array Bool} (hc:ug ops listed) {j i:Nat} {o:Oper} (ho:ops[j]? =some o) (hr:∀ e∈o.after,qu .any e=true→listed.getD e.on false=true) (h:EJ ops j i):listed.getD i false=true:=by
 cases h with
 |one h he hb=>rw[h] at ho;cases ho;exact hr _ he hb
 |more h he hb hi=>rw[h] at ho;cases ho;exact hc.bef hi (hr _ he hb)
theorem mO {listed:Array Bool} {j:Nat} (h:listed.getD j true=false):listed.getD j false=false∧j<listed.size:=by
 rcases cA j listed.size with h1|h1
 ·simp[h1] at h ⊢;exact h
 ·simp[Array.getElem?_eq_none h1] at h
def FW (φ0:PM) (E:Nat→Prop) (e0:EF) (h0:HF) (w0:World) (a0:Act) (l:List (Oper×q9)) (S:Nat→Bool) (a:Act) (w:World):Prop:=
 ∃ φ,eT φ0 φ h0 (rN S 0 l h0) w0 w∧(∀ i k,φ i=some k→φ0 i=some k∨∃ (j:Nat) (o:Oper) (f:q9),S j=true∧l[j]? =some (o,f)∧i∈f.N)∧
  lm φ E (rN S 0 l h0) w∧xM φ (tot E φ (rN S 0 l h0)) w (wW S 0 l e0) a∧a.defers=a0.defers∧a.tmps.size=a0.tmps.size
theorem vz {a:Act} {dst:Option Tmp} {v:Value} {t:Nat} (hd:∀ d,dst=some d→d<a.tmps.size):(a.put dst v).tmps.getD t undef=if dst=some t then v else a.tmps.getD t undef:=by
 cases dst with
 |none=>simp[xR]
 |some d=>
  by_cases h:d=t
  ·subst h;simp[xR,hd d rfl]
  ·simp[xR,h,kx h]
theorem zm {a:Act} {dst:Option Tmp} {v:Value}:(a.put dst v).tmps.size=a.tmps.size:=by cases dst<;>simp[xR]
theorem vA {a:Act} {dst:Option Tmp} {v:Value}:(a.put dst v).defers=a.defers:=by cases dst<;>rfl
theorem DS {P:Program} {ops:Array Oper} {l:List (Oper×q9)} {e0 e':EF} {h0 h':HF} {φ0:PM} {E:Nat→Prop} {w0:World} {a0:Act}
 (hl:l.map (·.1)=ops.toList) (hc:qr P ops l e0 h0 e' h') (ni:HA ops l) (hfr:∀ (j:Nat) o f,l[j]? =some (o,f)→∀ n∈f.N,φ0 n=none)
 (hsz:∀ (j:Nat) o,ops[j]? =some o→∀ d,o.dst=some d→d<a0.tmps.size) {listed:Array Bool} (hcl:ug ops listed) {i:Nat} (hi:i∈uR .any ops listed) {Q:Exit→Act→World→Prop} {K:Act→World→Prop}
 (hK:∀ a w,FW φ0 E e0 h0 w0 a0 l (fun j=>(listed.setIfInBounds i true).getD j false) a w→K a w) {a:Act} {w:World} (hst:FW φ0 E e0 h0 w0 a0 l (fun j=>listed.getD j false) a w):
 wpOp P ops Q i K a w:=by
 obtain⟨hun,o,ho,hdeps⟩:=mem_ready.1 hi;obtain⟨hnf,hlt⟩:=mO hun;have hln:∀ (j:Nat) o',ops[j]? =some o'→∃ f,l[j]? =some (o',f):=fun j o' h=>by
  have h1:(l.map (·.1))[j]? =some o':=by rw[hl];simpa using h
  rw[aY] at h1;cases hj:l[j]? with
  |none=>rw[hj] at h1;cases h1
  |some p=>rw[hj] at h1;obtain⟨a,b⟩:=p;simp at h1;subst h1;exact⟨b,rfl⟩
 have hnl:∀ (j:Nat) o' f,l[j]? =some (o',f)→ops[j]? =some o':=fun j o' f h=>by
  have h1:(l.map (·.1))[j]? =some o':=by rw[aY,h];rfl
  rw[hl] at h1;simpa using h1
 obtain⟨f,hf⟩:=hln i o ho;have hord:∀ (j:Nat) oj fj,j≠i→l[j]? =some (oj,fj)→(listed.getD j false=decide (j<i))∨
  (o.apart ops oj=true∨oj.apart ops o=true)∧(∀ x∈f.wr,x∉fj.rd∧x∉fj.wr)∧(∀ x∈fj.wr,x∉f.rd∧x∉f.wr):=by
  intro j oj fj hji hj;rcases cA j i with h|h
  ·rcases ni.pair j i oj fj o f h hj hf with hb|⟨h1,h2,h3⟩
   ·left;rw[Cu hcl ho hdeps hb];simp[h]
   ·right;exact⟨.inr h1,fun x hx=>⟨h3 x hx,fun hx'=>(h2 x hx').2 hx⟩,fun x hx=>h2 x hx⟩
  ·have h:i<j:=by omega
   rcases ni.pair i j o f oj fj h hf hj with hb|⟨h1,h2,h3⟩
   ·left;have:listed.getD j false=false:=by
     cases hx:listed.getD j false with
     |false=>rfl
     |true=>have:=hcl.bef hb hx;rw[hnf] at this;cases this
    rw[this];simp;omega
   ·right;exact⟨.inl h1,fun x hx=>h2 x hx,fun x hx=>⟨h3 x hx,fun hx'=>(h2 x hx').2 hx⟩⟩
 have hS':∀ j,(listed.setIfInBounds i true).getD j false=if j=i then true else listed.getD j false:=fun j=>by
  by_cases h:i=j
  ·subst h;simp[hlt]
  ·rw[getD_set_ne false h,if_neg (fun e=>h e.symm)]
 have hlater:∀ (j:Nat) oj fj,i<j→l[j]? =some (oj,fj)→(listed.getD j false=false)∨((o.apart ops oj=true∨oj.apart ops o=true)∧(∀ x∈f.wr,x∉fj.rd∧x∉fj.wr)):=by
  intro j oj fj hij hj;rcases hord j oj fj (by omega) hj with h|⟨h1,h2,_⟩
  ·left;rw[h];simp;omega
  ·right;exact⟨h1,h2⟩
 have hdd:∀ {x y:Oper},(x.apart ops y=true∨y.apart ops x=true)→∀ d,x.dst=some d→y.dst≠some d:=by
  intro x y h d hd he;rcases h with h|h
  ·exact (Oper.apart_spec h).2.1 d hd he
  ·exact (Oper.apart_spec h).2.1 d he hd
 have hlook:∀ {x y:Oper},(x.apart ops y=true∨y.apart ops x=true)→∀ d,y.dst=some d→d∉x.looksAt ops:=by
  intro x y h d hd;rcases h with h|h
  ·exact (Oper.apart_spec h).2.2 d hd
  ·exact (Oper.apart_spec h).1 d hd
 have heL:∀ t,t∈o.looksAt ops→wW (fun j=>listed.getD j false) 0 l e0 t=wW (fun j=>decide (j<0+i)) 0 l e0 t:=fun t ht=>by
  refine tf l 0 e0 e0 rfl fun j oj fj hj hd=>?_
  simp only[bw];by_cases hji:j=i
  ·subst hji;rw[hnf];simp
  ·rcases hord j oj fj hji hj with h|⟨h,_⟩
   ·exact h
   ·exact absurd ht (hlook h t hd)
 have hhL:∀ t,t∈f.rd∨t∈f.wr→rN (fun j=>listed.getD j false) 0 l h0 t=rN (fun j=>decide (j<0+i)) 0 l h0 t:=fun t ht=>by
  refine te l 0 h0 h0 rfl fun j oj fj hj hd=>?_
  simp only[bw];by_cases hji:j=i
  ·subst hji;rw[hnf];simp
  ·rcases hord j oj fj hji hj with h|⟨_,_,h⟩
   ·exact h
   ·rcases ht with ht|ht
    ·exact absurd ht (h t hd).1
    ·exact absurd ht (h t hd).2
 have hE':∀ t,wW (fun j=>(listed.setIfInBounds i true).getD j false) 0 l e0 t=if o.dst=some t then some f.val else wW (fun j=>listed.getD j false) 0 l e0 t:=fun t=>by
  by_cases hd:o.dst=some t
  ·rw[if_pos hd];refine yY l 0 i e0 o f hf hd (by simp[hS']) fun j o' f' hij hj hd'=>?_
   simp only[bw,hS',if_neg (show ¬j=i by omega)];rcases hlater j o' f' hij hj with h|⟨h,_⟩
   ·exact h
   ·exact absurd hd' (hdd h t hd)
  ·rw[if_neg hd];refine tf l 0 e0 e0 rfl fun j oj fj hj hd'=>?_
   simp only[bw,hS'];rw[if_neg];intro hji;subst hji;rw[hf] at hj;cases hj;exact hd hd'
 have hH':rN (fun j=>(listed.setIfInBounds i true).getD j false) 0 l h0=c5 (rN (fun j=>listed.getD j false) 0 l h0) f.wr f.nw:=by
  funext t;unfold c5;by_cases hd:t∈f.wr
  ·rw[if_pos hd];refine yX l 0 i h0 o f hf hd (by simp[hS']) fun j o' f' hij hj hd'=>?_
   simp only[bw,hS',if_neg (show ¬j=i by omega)];rcases hlater j o' f' hij hj with h|⟨_,h⟩
   ·exact h
   ·exact absurd hd' (h t hd).2
  ·rw[if_neg hd];refine te l 0 h0 h0 rfl fun j oj fj hj hd'=>?_
   simp only[bw,hS'];rw[if_neg];intro hji;subst hji;rw[hf] at hj;cases hj;exact hd hd'
 obtain⟨φ,hm,hdom,hrep,henv,hdef,hsize⟩:=hst;have hfrN:∀ n∈f.N,φ n=none:=fun n hn=>by
  cases hx:φ n with
  |none=>rfl
  |some k=>
   rcases hdom n k hx with h|⟨j,oj,fj,hSj,hj,hnj⟩
   ·rw[hfr i o f hf n hn] at h;cases h
   ·have hji:j≠i:=by intro h;subst h;exact absurd hSj (by simp only[hnf];simp)
    rcases cA j i with h|h
    ·exact absurd hn (ni.names j i oj fj o f h hj hf n hnj)
    ·exact absurd hnj (ni.names i j o f oj fj (by omega) hf hj n hn)
 have hdsz:∀ d,o.dst=some d→d<a.tmps.size:=fun d hd=>by rw[hsize];exact hsz i o ho d hd
 have main:∀ (v:Value) (φ':PM) (w':World),eT φ φ' (rN (fun j=>listed.getD j false) 0 l h0) (c5 (rN (fun j=>listed.getD j false) 0 l h0) f.wr f.nw) w w'→
  (∀ i k,φ' i=some k→φ i=some k∨i∈f.N)→lm φ' E (c5 (rN (fun j=>listed.getD j false) 0 l h0) f.wr f.nw) w'→
  cg φ' (tot E φ' (c5 (rN (fun j=>listed.getD j false) 0 l h0) f.wr f.nw)) w' f.val v→K (a.put o.dst v) w':=by
  intro v φ' w' m1 d1 r1 v1;refine hK _ _ ⟨φ',?_,?_,?_,?_,?_,?_⟩
  ·rw[hH'];exact hm.trans m1
  ·intro i' k h;rcases d1 i' k h with h|h
   ·rcases hdom i' k h with h|⟨j,oj,fj,hSj,hj,hnj⟩
    ·exact .inl h
    ·refine .inr ⟨j,oj,fj,?_,hj,hnj⟩;show (listed.setIfInBounds i true).getD j false=true;rw[hS' j];split
     ·rfl
     ·exact hSj
   ·exact .inr ⟨i,o,f,(hS' i).trans (by simp),hf,h⟩
  ·rw[hH'];exact r1
  ·rw[hH'];intro t x hx;rw[hE' t] at hx;rw[vz hdsz];by_cases hd:o.dst=some t
   ·rw[if_pos hd] at hx ⊢;cases hx;exact v1
   ·rw[if_neg hd] at hx ⊢;exact m1.keep (henv t x hx)
  ·rw[vA];exact hdef
  ·rw[zm];exact hsize
 have hstep:=hc.step 0 i o f hf;have hrun:dX P o (wW (fun j=>decide (j<0+i)) 0 l e0) (rN (fun j=>decide (j<0+i)) 0 l h0) f→o.wp P a w K Q:=by
  intro ht;refine yT ?_ (ht φ E (rN (fun j=>listed.getD j false) 0 l h0) w a (fun t h=>hhL t (.inl h)) (fun t h=>hhL t (.inr h)) ?_ hrep hfrN)
  ·rintro a' w' ⟨v,φ',rfl,m1,d1,r1,v1⟩;exact main v φ' w' m1 d1 r1 v1
  ·intro t ht' y hy;refine henv t y ?_;rw[heL t (fb _ (List.mem_filterMap.2 ⟨.tmp t,by simpa using ht',rfl⟩))];exact hy
 have hyield:∀ (j t:Nat) (want b:Bool),o.guard=some (j,want)→(ops[j]?).bind (·.dst)=some t→wW (fun j=>decide (j<0+i)) 0 l e0 t=some (.f (.raw (.bool b)))→eJ o (yielded ops a.tmps)=(b==want):=by
  intro j t want b hg hj he;rw[← heL t (gh _ (by rw[hg];simp[hj]))] at he;have h1:=henv t _ he;have h2:a.tmps.getD t undef= .bool b:=by
   generalize hz:a.tmps.getD t undef=z at h1;cases h1 with
   |f h=>cases h;rfl
  have h3:a.tmps[t]? =some (.bool b):=by
   rw[dS] at h2;cases hz:a.tmps[t]? with
   |none=>rw[hz] at h2;simp[undef] at h2
   |some z=>rw[hz] at h2;simp at h2;rw[h2]
  unfold eJ yielded;rw[hg];simp[hj,h3]
 unfold wpOp;simp only[ho];cases hstep with
 |run hg ht=>
  rw[if_pos (by unfold eJ;rw[hg])];exact .inl (hrun ht)
 |runG j t want hg hj he ht=>
  rw[if_pos (by rw[hyield j t want want hg hj he];simp)];exact .inl (hrun ht)
 |skip j t want hg hj v he hv hf'=>
  have hnw:eJ o (yielded ops a.tmps)=false:=by
   rw[← heL t (gh _ (by rw[hg];simp[hj]))] at he;have h1:=henv t _ he;have h2:a.tmps.getD t undef=v:=by
    generalize a.tmps.getD t undef=z at h1;cases h1 with
    |f h=>cases h;rfl
   unfold eJ yielded;rw[hg];simp only[hj,aC];rw[dS] at h2;cases hz:a.tmps[t]? with
   |none=>simp
   |some z=>
    rw[hz] at h2;simp at h2;subst h2;cases z<;>simp at hv ⊢;exact hv
  rw[if_neg (by rw[hnw];simp)];subst hf';have hu:c5 (rN (fun j=>listed.getD j false) 0 l h0) skipEff.wr skipEff.nw=rN (fun j=>listed.getD j false) 0 l h0:=by
   funext t;simp[c5,skipEff]
  refine main undef φ w ?_ (fun _ _ h=>.inl h) ?_ ?_
  ·rw[hu];exact eT.refl _ _ _
  ·rw[hu];exact hrep
  ·exact .f (.raw _)
theorem CP {l:List Bool}:∀ {i:Nat},l[i]? =some false→(l.set i true).countP id=l.countP id+1:=by
 induction l with
 |nil=>intro i h;simp at h
 |cons b l ih=>
  intro i h;cases i with
  |zero=>simp at h;subst h;simp
  |succ i=>
   simp only[List.set_cons_succ,List.countP_cons];rw[ih (by simpa using h)];omega
theorem yJ {l:List Bool} (h:l.length≤l.countP id):∀ (j:Nat),j<l.length→l[j]? =some true:=by
 have h1:l.countP id=l.length:=Nat.le_antisymm List.countP_le_length h;rw[List.countP_eq_length] at h1;intro j hj;rw[aw hj];simpa using h1 _ (nY hj)
theorem By {ops:Array Oper} {l:List (Oper×q9)} (ni:HA ops l) {listed:Array Bool} (hs:listed.size=ops.size) (hr:uR .any ops listed=[]):
 ∀ (n j:Nat),j<n→j<ops.size→listed.getD j false=true:=by
 intro n;induction n with
 |zero=>intro j h;omega
 |succ n ih=>
  intro j hj hjs;cases hx:listed.getD j false with
  |true=>rfl
  |false=>
   exfalso;have hmem:j∈uR .any ops listed:=by
    refine mem_ready.2 ⟨?_,ops[j],em hjs,fun e he hb=>?_⟩
    ·have:j<listed.size:=by omega
     simp[this] at hx ⊢;exact hx
    ·have h1:=ni.edge j _ (em hjs) e he hb;exact ih e.on (by omega) (by omega)
   rw[hr] at hmem;cases hmem
theorem xI {P:Program} {ops:Array Oper} {l:List (Oper×q9)} {e0 e':EF} {h0 h':HF} {φ0:PM} {E:Nat→Prop} {w0:World} {a0:Act}
 (hl:l.map (·.1)=ops.toList) (hc:qr P ops l e0 h0 e' h') (ni:HA ops l) (hfr:∀ (j:Nat) o f,l[j]? =some (o,f)→∀ n∈f.N,φ0 n=none)
 (hsz:∀ (j:Nat) o,ops[j]? =some o→∀ d,o.dst=some d→d<a0.tmps.size) {Q:Exit→Act→World→Prop}
 (hQ:∀ a w,FW φ0 E e0 h0 w0 a0 l (fun _=>true) a w→Q .normal a w):
 ∀ (fuel:Nat) (listed:Array Bool) (a:Act) (w:World),listed.size=ops.size→ug ops listed→ops.size≤fuel+listed.toList.countP id→
  FW φ0 E e0 h0 w0 a0 l (fun j=>listed.getD j false) a w→wpAny P .any ops Q fuel listed a w:=by
 have hlen:l.length=ops.size:=by have:=congrArg aa hl;simpa using this
 have fin:∀ (listed:Array Bool) (a:Act) (w:World),(∀ j,j<ops.size→listed.getD j false=true)→FW φ0 E e0 h0 w0 a0 l (fun j=>listed.getD j false) a w→Q .normal a w:=by
  intro listed a w hall hst;refine hQ a w ?_;have h1:=hc.final 0 (fun j=>listed.getD j false) (fun j hj=>by simp only[bw];exact hall j (by omega));have h2:=hc.final 0 (fun _=>true) (fun _ _=>rfl);unfold FW at hst ⊢;rw[h1.1,h1.2] at hst;rw[h2.1,h2.2];obtain⟨φ,m,d,r⟩:=hst;refine ⟨φ,m,fun i k h=>?_,r⟩;rcases d i k h with h|⟨j,o,f,_,hj,hn⟩
  ·exact .inl h
  ·exact .inr ⟨j,o,f,rfl,hj,hn⟩
 intro fuel;induction fuel with
 |zero=>
  intro listed a w hs hcl hcnt hst;have hall:∀ j,j<ops.size→listed.getD j false=true:=fun j hj=>by
   have:=yJ (l:=listed.toList) (by simp only[ic];omega) j (by simp only[ic];omega);rw[b8] at this;rw[dS,this];rfl
  refine ⟨?_,fin listed a w hall hst⟩;cases hr:uR .any ops listed with
  |nil=>rfl
  |cons i r=>
   have hi:i∈uR .any ops listed:=by rw[hr];simp
   obtain⟨hun,o,ho,_⟩:=mem_ready.1 hi;have hnf:=(mO hun).1;rw[hall i (b6.1 ho).1] at hnf;cases hnf
 |succ fuel ih=>
  intro listed a w hs hcl hcnt hst;refine ⟨fun hr=>fin listed a w (fun j hj=>By ni hs hr (j+1) j (by omega) hj) hst,fun i hi=>?_⟩;obtain⟨hun,o,ho,hdeps⟩:=mem_ready.1 hi;obtain⟨hnf,hlt⟩:=mO hun;refine DS hl hc ni hfr hsz hcl hi (fun a' w' h=>ih _ a' w' ?_ ?_ ?_ h) hst
  ·simpa using hs
  ·intro j oj hoj hj e he hb;by_cases hji:i=j
   ·subst hji;rw[ho] at hoj;cases hoj;exact getD_set_true (hdeps e he hb)
   ·rw[getD_set_ne false hji] at hj;exact getD_set_true (hcl j oj hoj hj e he hb)
  ·have h1:listed.toList[i]? =some false:=by
    rw[b8,em hlt];simp[hlt] at hnf;rw[hnf]
   rw[Array.toList_setIfInBounds,CP h1];omega
def H5 (φ0:PM) (E:Nat→Prop) (e':EF) (h0 h':HF) (N:List Nat) (w0:World) (a0:Act) (a:Act) (w:World):Prop:=
 ∃ φ,eT φ0 φ h0 h' w0 w∧(∀ i k,φ i=some k→φ0 i=some k∨i∈N)∧lm φ E h' w∧xM φ (tot E φ h') w e' a∧a.defers=a0.defers∧a.tmps.size=a0.tmps.size
theorem eT.drew {φ:PM} {h:HF} (w:World):eT φ φ h h w {w with drawn:=w.drawn+1}:=
 ⟨fun _ _ h=>h,⟨rfl,rfl,rfl,cD _,fun _ _ _=>rfl,fun _ _=>rfl⟩,fun _ _ h=>h⟩
theorem lm.moved {φ:PM} {E:Nat→Prop} {h:HF} {w w':World} (r:lm φ E h w) (m:eT φ φ h h w w') (hk:∀ k,own φ h k→w'.heap[k]? =w.heap[k]?):lm φ E h w':=
 ⟨r.inj,fun i b hb=>by
   obtain⟨k,h1,h2,o,h3,h4⟩:=r.at_ i b hb;exact⟨k,h1,h2,o,by rw[hk k ⟨i,b,hb,h1⟩];exact h3,h4.mono fun _ _ h=>m.keep h⟩,fun k hk=>cI (r.el k hk) m.ext.size,
   fun g cells hg=>m.keepF (r.gl g cells hg)⟩
theorem zk {P:Program} {ops:Array Oper} {l:List (Oper×q9)} {e0 e':EF} {h0 h':HF} {φ0:PM} {E:Nat→Prop} {w0:World} {a0:Act} {id:Nat} {draw:Bool}
 (hm:P.follows .mixedOrders=true) (hl:l.map (·.1)=ops.toList) (hc:qr P ops l e0 h0 e' h') (ni:HA ops l) (hfr:∀ n∈l.flatMap (fun p=>p.2.N),φ0 n=none)
 (hsz:∀ (j:Nat) o,ops[j]? =some o→∀ d,o.dst=some d→d<a0.tmps.size) (hrep:lm φ0 E h0 w0) (henv:xM φ0 (tot E φ0 h0) w0 e0 a0) {Q:Exit→Act→World→Prop}
 (hQ:∀ a w,H5 φ0 E e' h0 h' (l.flatMap (fun p=>p.2.N)) w0 a0 a w→Q .normal a w):(Code.region id ops draw).wp P Q a0 w0:=by
 have hfr':∀ (j:Nat) o f,l[j]? =some (o,f)→∀ n∈f.N,φ0 n=none:=fun j o f hj n hn=>hfr n (nX.2 ⟨(o,f),bc hj,hn⟩)
 have fin:∀ a w,FW φ0 E e0 h0 w0 a0 l (fun _=>true) a w→Q .normal a w:=by
  rintro a w ⟨φ,m,d,r,en,df,sz⟩;have h2:=hc.final 0 (fun _=>true) (fun _ _=>rfl);rw[h2.2] at m r en;rw[h2.1] at en;refine hQ a w ⟨φ,m,fun i k h=>?_,r,en,df,sz⟩;rcases d i k h with h|⟨j,o,f,_,hj,hn⟩
  ·exact .inl h
  ·exact .inr (nX.2 ⟨(o,f),bc hj,hn⟩)
 have st0:∀ (w:World),eT φ0 φ0 h0 h0 w0 w→lm φ0 E h0 w→FW φ0 E e0 h0 w0 a0 l (fun j=>(jt ops.size false).getD j false) a0 w:=by
  intro w m r;have e1:(fun j=>(jt ops.size false).getD j false)=fun _=>false:=by
   funext j;rw[dS,Array.getElem?_replicate];split<;>rfl
  rw[e1];have e2:wW (fun _=>false) 0 l e0=e0:=by funext t;rw[rX];intros;rfl
  have e3:rN (fun _=>false) 0 l h0=h0:=by funext t;rw[rW];intros;rfl
  refine ⟨φ0,by rw[e3];exact m,fun _ _ h=>.inl h,by rw[e3];exact r,?_,rfl,rfl⟩;rw[e2,e3];exact fun t x hx=>m.keep (henv t x hx)
 have cl0:ug ops (jt ops.size false):=by
  intro j o ho hj;rw[dS,Array.getElem?_replicate] at hj;split at hj<;>simp at hj
 cases draw with
 |true=>
  refine wp_region_any hm ?_;exact xI hl hc ni hfr' hsz fin ops.size _ a0 _ (by simp) cl0 (by omega) (st0 _ (eT.drew w0) (hrep.moved (eT.drew w0) fun _ _=>rfl))
 |false=>
  have hany:=xI (E:=E) (w0:=w0) hl hc ni hfr' hsz fin ops.size _ a0 w0 (by simp) cl0 (by omega) (st0 _ (eT.refl _ _ _) hrep);refine wp_region ?_;have key:∀ (m k:Nat) (listed:Array Bool) (a:Act) (w:World),k+m=ops.size→listed.size=ops.size→(∀ j,j<k→listed.getD j false=true)→(∀ j,k≤j→j<ops.size→listed.getD j true=false)→
   wpAny P .any ops Q m listed a w→wpOps P ops Q (List.range' k m) a w:=by
   intro m;induction m with
   |zero=>intro k listed a w hk hs h1 h2 h;simpa[wpOps] using h.2
   |succ m ih=>
    intro k listed a w hk hs h1 h2 h;rw[List.range'_succ,wpOps_cons];have hkr:k∈uR .any ops listed:=by
     refine mem_ready.2 ⟨h2 k (cD _) (by omega),ops[k]'(by omega),em (by omega),fun e he hb=>?_⟩;exact h1 _ (ni.edge k _ (em (by omega)) e he hb)
    refine wpOp_mono (fun a' w' h'=>ih (k+1) (listed.setIfInBounds k true) a' w' (by omega) (by simpa using hs) ?_ ?_ h') (h.2 k hkr)
    ·intro j hj;by_cases hjk:k=j
     ·subst hjk;simp[show k<listed.size by omega]
     ·rw[getD_set_ne false hjk];exact h1 j (by omega)
    ·intro j hj hj2;rw[getD_set_ne true (by omega)];exact h2 j (by omega) hj2
  have:=key ops.size 0 (jt ops.size false) a0 w0 (by omega) (by simp) (by intro j hj;omega) (by
   intro j _ hj;rw[dS,Array.getElem?_replicate,if_pos hj];rfl) hany
  rwa [List.range_eq_range']
inductive PT (α:Type) where
 |leaf
 |node (v:Option α) (l r:PT α)
namespace PT
variable {α:Type}
def get:PT α→Nat→Option α
 |leaf,_=>none
 |node v l r,n=>match n with
  |0=>v
  |m+1=>if av (m%2) 0 then get l (m/2) else get r (m/2)
def setF:Nat→PT α→Nat→Option α→PT α
 |0,t,_,_=>t
 |k+1,t,n,x=>match t with
  |leaf=>(match n with
   |0=>node x leaf leaf
   |m+1=>if av (m%2) 0 then node none (setF k leaf (m/2) x) leaf else node none leaf (setF k leaf (m/2) x))
  |node v l r=>(match n with
   |0=>node x l r
   |m+1=>if av (m%2) 0 then node v (setF k l (m/2) x) r else node v l (setF k r (m/2) x))
def set (t:PT α) (n:Nat) (x:Option α):PT α:=setF (n+1) t n x
theorem get_setF:∀ (k:Nat) (t:PT α) (n:Nat) (x:Option α),n<k→∀ i,(setF k t n x).get i=if i=n then x else t.get i
 |0,_,_,_,h,_=>absurd h (uh _)
 |k+1,t,n,x,h,i=>by
  cases n with
  |zero=>
   cases t<;>cases i<;>simp[setF,get]
  |succ m=>
   have hm:m/2<k:=by have:=Nat.div_le_self m 2;omega
   cases t with
   |leaf=>
    simp only[setF];cases hb:av (m%2) 0 with
    |true=>
     have hb':m%2=0:=au hb;simp only[if_true];cases i with
     |zero=>simp[get]
     |succ j=>
      simp only[get];cases hj:av (j%2) 0 with
      |true=>
       have hj':j%2=0:=au hj;simp only[if_true];rw[get_setF k _ _ _ hm];by_cases he:j/2=m/2
       ·rw[if_pos he,if_pos (by omega)]
       ·rw[if_neg he,if_neg (by omega)];rfl
      |false=>
       have hj':¬j%2=0:=ec hj;simp only[bW,if_false];rw[if_neg (by omega)]
    |false=>
     have hb':¬m%2=0:=ec hb;simp only[bW,if_false];cases i with
     |zero=>simp[get]
     |succ j=>
      simp only[get];cases hj:av (j%2) 0 with
      |true=>
       have hj':j%2=0:=au hj;simp only[if_true];rw[if_neg (by omega)]
      |false=>
       have hj':¬j%2=0:=ec hj;simp only[bW,if_false];rw[get_setF k _ _ _ hm];by_cases he:j/2=m/2
       ·rw[if_pos he,if_pos (by omega)]
       ·rw[if_neg he,if_neg (by omega)];rfl
   |node v l r=>
    simp only[setF];cases hb:av (m%2) 0 with
    |true=>
     have hb':m%2=0:=au hb;simp only[if_true];cases i with
     |zero=>simp[get]
     |succ j=>
      simp only[get];cases hj:av (j%2) 0 with
      |true=>
       have hj':j%2=0:=au hj;simp only[if_true];rw[get_setF k _ _ _ hm];by_cases he:j/2=m/2
       ·rw[if_pos he,if_pos (by omega)]
       ·rw[if_neg he,if_neg (by omega)]
      |false=>
       have hj':¬j%2=0:=ec hj;simp only[bW,if_false];rw[if_neg (by omega)]
    |false=>
     have hb':¬m%2=0:=ec hb;simp only[bW,if_false];cases i with
     |zero=>simp[get]
     |succ j=>
      simp only[get];cases hj:av (j%2) 0 with
      |true=>
       have hj':j%2=0:=au hj;simp only[if_true];rw[if_neg (by omega)]
      |false=>
       have hj':¬j%2=0:=ec hj;simp only[bW,if_false];rw[get_setF k _ _ _ hm];by_cases he:j/2=m/2
       ·rw[if_pos he,if_pos (by omega)]
       ·rw[if_neg he,if_neg (by omega)]
theorem get_set (t:PT α) (n:Nat) (x:Option α) (i:Nat):(t.set n x).get i=if i=n then x else t.get i:=get_setF (n+1) t n x (by omega) i
def mask {β:Type}:PT α→PT β→PT α
 |leaf,_=>leaf
 |node _ _ _,leaf=>leaf
 |node v l r,node u l' r'=>node (match u with|some _=>v|none=>none) (mask l l') (mask r r')
def mk:Option α→PT α→PT α→PT α
 |none,leaf,leaf=>leaf
 |v,l,r=>node v l r
def only (m:Nat):Nat→Nat→PT α→PT α
 |_,_,leaf=>leaf
 |a,b,node v l r=>mk (if aI m b then v else none) (only m (2*a) (a+b) l) (only m (2*a) (2*a+b) r)
def exc (m:Nat):Nat→Nat→PT α→PT α
 |_,_,leaf=>leaf
 |a,b,node v l r=>mk (if aI m b then none else v) (exc m (2*a) (a+b) l) (exc m (2*a) (2*a+b) r)
def merge (m:Nat):Nat→Nat→PT α→PT α→PT α
 |a,b,leaf,t=>only m a b t
 |a,b,node v l r,leaf=>exc m a b (node v l r)
 |a,b,node v l r,node v' l' r'=>mk (if aI m b then v' else v) (merge m (2*a) (a+b) l l') (merge m (2*a) (2*a+b) r r')
def all (p:Nat→α→Bool):Nat→Nat→PT α→Bool
 |_,_,leaf=>true
 |a,b,node v l r=>(match v with|some x=>p b x|none=>true)&&all p (2*a) (a+b) l&&all p (2*a) (2*a+b) r
theorem get_all (p:Nat→α→Bool):∀ (t:PT α) (a b i:Nat) (x:α),all p a b t=true→t.get i=some x→p (a*i+b) x=true
 |leaf,_,_,_,_,_,h=>by simp[get] at h
 |node v l r,a,b,0,x,h,hx=>by
  simp only[get] at hx;subst hx;simp only[all,ak] at h;rw[Nat.mul_zero,bw];exact h.1.1
 |node v l r,a,b,j+1,x,h,hx=>by
  simp only[all,ak] at h;simp only[get] at hx;cases hj:av (j%2) 0 with
  |true=>
   have hj':j%2=0:=au hj;simp only[hj,if_true] at hx;have key:=get_all p l _ _ _ x h.1.2 hx;have:2*a*(j/2)+(a+b)=a*(j+1)+b:=by
    have e:j=2*(j/2):=by omega
    calc 2*a*(j/2)+(a+b)=a*(2*(j/2))+a+b:=by rw[uT 2 a,Nat.mul_assoc];omega
     _=a*(j+1)+b:=by rw[← e,Nat.mul_add];omega
   rw[this] at key;exact key
  |false=>
   have hj':¬j%2=0:=ec hj;simp only[hj,bW,if_false] at hx;have key:=get_all p r _ _ _ x h.2 hx;have:2*a*(j/2)+(2*a+b)=a*(j+1)+b:=by
    have e:j=2*(j/2)+1:=by omega
    have h2:a*(j+1)=a*(2*(j/2))+2*a:=by
     calc a*(j+1)=a*(2*(j/2)+2):=by rw[show j+1=2*(j/2)+2 from by omega]
      _=a*(2*(j/2))+2*a:=by rw[Nat.mul_add];omega
    have h3:2*a*(j/2)=a*(2*(j/2)):=by rw[uT 2 a,Nat.mul_assoc]
    omega
   rw[this] at key;exact key
def dom:Nat→Nat→PT α→Nat→Nat
 |_,_,leaf,acc=>acc
 |a,b,node v l r,acc=>dom (2*a) (a+b) l (dom (2*a) (2*a+b) r (match v with|some _=>acc|||(1<<<b)|none=>acc))
def emp:PT α:=leaf
end PT
abbrev Env:=PT AV
abbrev Heap:=PT ph
abbrev NW:=List (Nat×ph)
def Env.put (e:Env):Option Nat→AV→Env
 |none,_=>e
 |some d,x=>e.set d (some x)
def nwGet:NW→HF
 |[],_=>none
 |(s,x)::r,t=>if av s t then some x else nwGet r t
theorem DK (e:Env) (d:Option Nat) (x:AV):r9 e.get d x=(e.put d x).get:=by
 funext t;cases d with
 |none=>simp[r9,Env.put]
 |some d=>
  simp only[r9,Env.put,PT.get_set,ae];by_cases h:d=t
  ·simp[h]
  ·rw[if_neg h,if_neg (fun e=>h e.symm)]
def vi (acc:List Nat) (s:Nat) (e:Edge):Nat:=if qu .any e then (s|||2^e.on)|||acc.getD e.on 0 else s
def befsGo:List Oper→List Nat→List Nat
 |[],acc=>acc
 |o::r,acc=>befsGo r (acc++[o.after.toList.foldl (vi acc) 0])
theorem wE {ops:Array Oper} {o:Oper} {k:Nat} {acc:List Nat} (ho:ops[k]? =some o) (ha:∀ (j:Nat) B,acc[j]? =some B→∀ i,B.testBit i=true→EJ ops j i):
 ∀ (es:List Edge) (s:Nat),(∀ e∈es,e∈o.after)→(∀ i,s.testBit i=true→EJ ops k i)→∀ i,(es.foldl (vi acc) s).testBit i=true→EJ ops k i
 |[],s,_,hs,i,hi=>hs i hi
 |e::r,s,he,hs,i,hi=>by
  refine wE ho ha r (vi acc s e) (fun e' h'=>he e' (cS _ h')) (fun i hi=>?_) i hi;unfold vi at hi;split at hi
  ·rename_i hb;rw[bh,bh,eO,eO] at hi;rcases hi with (hi|hi)|hi
   ·exact hs i hi
   ·rw[Nat.testBit_two_pow] at hi;have:e.on=i:=by simpa using hi
    subst this;exact .one ho (he e (eU ..)) hb
   ·refine .more ho (he e (eU ..)) hb ?_;rw[aN] at hi;cases hx:acc[e.on]? with
    |none=>rw[hx] at hi;simp at hi
    |some C=>rw[hx] at hi;exact ha _ C hx i hi
  ·exact hs i hi
theorem xH {ops:Array Oper}:∀ (rest:List Oper) (acc:List Nat),(∀ (j:Nat),∀ o,rest[j]? =some o→ops[acc.length+j]? =some o)→
 (∀ (j:Nat) B,acc[j]? =some B→∀ i,B.testBit i=true→EJ ops j i)→∀ (j:Nat) B,(befsGo rest acc)[j]? =some B→∀ i,B.testBit i=true→EJ ops j i
 |[],acc,_,ha=>ha
 |o::r,acc,ho,ha=>by
  refine xH r _ (fun j o' hj=>?_) ?_
  ·rw[cq,dM,show acc.length+1+j=acc.length+(j+1) from by omega];exact ho (j+1) o' (by simpa using hj)
  ·intro j B hj i hi;rcases cA j acc.length with h|h
   ·rw[bV h] at hj;exact ha j B hj i hi
   ·rw[co h] at hj;have hj0:j-acc.length=0:=by
     rcases Nat.eq_zero_or_pos (j-acc.length) with h0|h0
     ·exact h0
     ·rw[bU (by simp;omega)] at hj;cases hj
    have hjl:j=acc.length:=by omega
    subst hjl;simp at hj;subst hj;have hoo:ops[acc.length]? =some o:=by simpa using ho 0 o rfl
    rw[← Array.foldl_toList] at hi;exact wE hoo ha _ 0 (fun e he=>by simpa using he) (fun i hi=>by simp at hi) i hi
inductive C8 where
 |mv (x:Operand)
 |pick (c a b:Operand)
 |alloc (ty:TypeId) (z:List Value)
 |box (ty:TypeId) (x:Operand)
 |build (z:List Value) (parts:List (Nat×Nat×Operand))
 |bsl (ty:TypeId) (sz len:Nat) (z:List Value) (parts:List (Nat×Nat×Operand))
 |load (sz:Nat) (ag:Bool) (x:Operand)
 |store (sz:Nat) (x v:Operand)
 |nilc (x:Operand)
 |bin (op:BinOp) (x y:Operand)
 |eqs (neg:Bool) (ds:List TypeDesc) (x y:Operand)
 |isnil (neg:Bool) (x:Operand)
 |eqb (neg:Bool) (x y:Operand)
 |not (x:Operand)
 |conv (k:IntKind) (x:Operand)
 |mksl (ty:TypeId) (sz bytes:Nat) (z:List Value) (l c:Operand)
 |slc (sz:Nat) (x:Operand) (lo hi mx:Option Operand)
 |fad (off:Nat) (x:Operand)
 |fld (off sz:Nat) (ag:Bool) (x:Operand)
 |iad (sz:Nat) (x i:Operand)
 |iada (n sz:Nat) (x i:Operand)
 |idx (n sz:Nat) (ag:Bool) (x i:Operand)
 |ext (x:Operand) (i:Nat)
 |len (x:Operand)
 |lens (x:Operand)
 |lenm (x:Operand)
 |max (x y:Operand)
 |min (x y:Operand)
 |sidx (x i:Operand)
 |app (ty:TypeId) (sz bytes:Nat) (s x:Operand)
 |copy (sz:Nat) (d x:Operand)
 |mkf (f:FuncId) (caps:List Operand)
 |mkm
 |lku (str:Bool) (z:Value) (x k:Operand)
 |mup (str:Bool) (x k v:Operand)
 |rng (x:Operand)
 |nxt (x:Operand)
 |bad
inductive SI where
 |op (s:C8)
 |call (f:FuncId) (args:List Operand)
 |callv (x:Operand) (args:List Operand)
def CE (t:Nat):List Nat→Bool
 |[]=>false
 |x::r=>av x t||CE t r
def cells1:List Value→Bool
 |[]=>true
 |v::r=>v.oneCell'&&cells1 r
def constA:Value→AV
 |.agg vs=>if cells1 vs.toList then .agg (vs.toList.map fun v=>.f (.raw v)) else .f (.raw (.agg vs))
 |v=>.f (.raw v)
def iK (e:Env):Operand→Option AV
 |.tmp t=>e.get t
 |.const v=>some (constA v)
 |.func g=>some (.clo g [])
 |.global g=>match G g with|some cells=>some (.f (.ptr cells 0))|none=>none
def B7 (e:Env):List Operand→Option (List AV)
 |[]=>some []
 |x::xs=>match iK e x with|some y=>(match B7 e xs with|some ys=>some (y::ys)|none=>none)|none=>none
structure rI where
 val:AV
 rd:List Nat
 wr:List Nat
 nw:NW
 N:List Nat
def rI.eff (r:rI):q9:=⟨r.val,r.rd,r.wr,nwGet r.nw,r.N⟩
def rv (x:AV):Option rI:=some ⟨x,[],[],[],[]⟩
def raw (v:Value):AV:=.f (.raw v)
def allF:List AV→Option (List FV)
 |[]=>some []
 |.f x::r=>match allF r with|some l=>some (x::l)|none=>none
 |_::_=>none
def ka (l:List AV):BC:=match allF l with|some fs=>.fz fs|none=>.mx l
def xw (l:List AV):AV:=match allF l with|some fs=>.f (.agg fs)|none=>.agg l
def splice {α:Type} (l:List α) (off:Nat) (vs:List α):List α:=l.take off++vs++l.drop (off+vs.length)
def BC.toMx:BC→List AV
 |.fz l=>l.map .f
 |.mx l=>l
 |_=>[]
def allCell:List AV→Bool
 |[]=>true
 |x::r=>x.isCell&&allCell r
def BC.put (c:BC) (off:Nat) (vs:List AV):Option BC:=
 if c.isCells&&cZ (off+vs.length) c.len&&allCell vs then
  match c,allF vs with
  |.fz l,some ys=>some (.fz (splice l off ys))
  |c,_=>some (.mx (splice c.toMx off vs))
 else none
def BC.sub? (c:BC) (off sz:Nat):Bool→Option AV
 |false=>match sz with|1=>c.get off|_=>none
 |true=>match c with
  |.fz l=>if cZ (off+sz) l.length then some (.f (.agg ((l.drop off).take sz))) else none
  |.mx l=>if cZ (off+sz) l.length then some (.agg ((l.drop off).take sz)) else none
  |_=>none
def AV.cs:AV→List AV
 |.agg l=>l
 |.f (.agg l)=>l.map .f
 |x=>[x]
def sV (h:Heap) (sz:Nat) (ag:Bool):AV→Option rI
 |.ptr id off=>match h.get id with
  |some b=>(match b.c.sub? off sz ag with|some v=>some ⟨v,[id],[],[],[]⟩|none=>none)
  |none=>none
 |.f (.ptr cells off)=>(match (BC.fz cells).sub? off sz ag with|some v=>rv v|none=>none)
 |_=>none
def yG (h:Heap) (sz:Nat) (v:AV):AV→Option rI
 |.ptr id off=>match h.get id with
  |some b=>if v.cs.length==sz then (match b.c.put off v.cs with|some c=>some ⟨raw undef,[id],[id],[(id,⟨b.ty,c⟩)],[]⟩|none=>none) else none
  |none=>none
 |_=>none
def qm (cells:List AV) (e:Env):List (Nat×Nat×Operand)→Option (List AV)
 |[]=>some cells
 |(off,sz,x)::r=>match iK e x with
  |some v=>if v.cs.length==sz&&cZ (off+sz) cells.length&&allCell v.cs then qm (splice cells off v.cs) e r else none
  |none=>none
def b9 (a b:Int):Bool:=decide (a≤b)
def bz (a b:Int):Bool:=decide (a<b)
def xj (k:IntKind) (n:Int):Int:=
 match k with
 |.i64=>if b9 (-9223372036854775808) n&&b9 n 9223372036854775807 then n else jN .i64 n
 |.u8=>if b9 0 n&&b9 n 255 then n else jN .u8 n
 |k=>jN k n
def nok:Int→Bool
 |.ofNat k=>av k k
 |.negSucc k=>av k k
theorem G6 (n:Int):nok n=true:=by cases n<;>exact nW _
def aJ (k:IntKind) (n:Int):Int:=bif nok n then xj k n else 0
theorem uU (k:IntKind) (n:Int):aJ k n=xj k n:=by unfold aJ;rw[G6];rfl
def mn (a b:ByteArray):Bool:=a.data.toList==b.data.toList
def nU (op:BinOp):Value→Value→Option Value
 |.int k a,.int k' b=>if k==k' then
   match op with
   |.add=>some (.int k (aJ k (a+b)))
   |.sub=>some (.int k (aJ k (a-b)))
   |.mul=>some (.int k (aJ k (a*b)))
   |.rem=>if b==0 then none else some (.int k (a.tmod b))
   |.quo=>if b==0 then none else some (.int k (aJ k (a.tdiv b)))
   |.eql=>some (.bool (a==b))
   |.neq=>some (.bool (a !=b))
   |.lss=>some (.bool (bz a b))
   |.leq=>some (.bool (b9 a b))
   |.gtr=>some (.bool (bz b a))
   |.geq=>some (.bool (b9 b a))
   |_=>none
  else none
 |.string a,.string b=>match op with
   |.eql=>some (.bool (mn a b))
   |.neq=>some (.bool !(mn a b))
   |_=>none
 |_,_=>none
def eqCell:TypeDesc→FV→FV→Option Bool
 |.int _,.raw (.int k a),.raw (.int k' b)=>if k==k' then some (a==b) else none
 |.bool,.raw (.bool a),.raw (.bool b)=>some (a==b)
 |.string,.raw (.string a),.raw (.string b)=>some (mn a b)
 |_,_,_=>none
def eqCells:List TypeDesc→List FV→List FV→Option Bool
 |[],[],[]=>some true
 |d::ds,x::xs,y::ys=>match eqCell d x y with
  |some true=>eqCells ds xs ys
  |some false=>some false
  |none=>none
 |_,_,_=>none
def AV.row? (h:Heap) (sz:Nat):AV→Option (List AV×Nat×List Nat)
 |.f (.sl cells n)=>if cZ (n*sz) cells.length then some ((cells.take (n*sz)).map .f,n,[]) else none
 |.f (.raw (.slice none 0 0))=>some ([],0,[])
 |.emp=>some ([],0,[])
 |.row id sz' n=>if sz'==sz then (match h.get id with|some b=>if b.c.isCells&&cZ (n*sz) b.c.len then some (b.c.toMx.take (n*sz),n,[id]) else none|none=>none) else none
 |.sl id off n=>match h.get id with|some b=>if b.c.isCells&&cZ (off+n*sz) b.c.len then some ((b.c.toMx.drop off).take (n*sz),n,[id]) else none|none=>none
 |_=>none
def AV.slen:AV→Option Nat
 |.f (.sl _ n)=>some n
 |.f (.raw (.slice _ n _))=>some n
 |.emp=>some 0
 |.row _ _ n=>some n
 |.sl _ _ n=>some n
 |_=>none
def aZ (n bytes:Nat):Bool:=cZ n 1099511627776&&cZ (n*bytes) 1099511627776
def repl (z:List Value):Nat→List FV
 |0=>[]
 |n+1=>z.map .raw++repl z n
def isNilSl:Value→Bool
 |.slice none 0 0=>true
 |_=>false
def isEmpB:AV→Bool
 |.emp=>true
 |.f (.raw v)=>isNilSl v
 |_=>false
def mS (k:Value):List (Value×AV)→Option (Option AV)
 |[]=>some none
 |(k',v)::r=>match nU .eql k k' with
  |some (.bool true)=>some (some v)
  |some (.bool false)=>mS k r
  |_=>none
def qh (k:Value) (v:AV):List (Value×AV)→Option (List (Value×AV))
 |[]=>some [(k,v)]
 |(k',v')::r=>match nU .eql k k' with
  |some (.bool true)=>some ((k,v)::r)
  |some (.bool false)=>(match qh k v r with|some r'=>some ((k',v')::r')|none=>none)
  |_=>none
def keyOK:Bool→Value→Bool
 |false,.int _ _=>true
 |true,.string _=>true
 |_,_=>false
def da (s:C8) (e:Env) (h:Heap) (nx:Nat):Option rI:=
 match s with
 |.mv x=>match iK e x with|some v=>rv v|none=>none
 |.pick c a b=>match iK e c with
  |some (.f (.raw (.bool t)))=>(match iK e (if t then a else b) with|some v=>rv v|none=>none)
  |_=>none
 |.alloc ty z=>some ⟨.ptr nx 0,[],[nx],[(nx,⟨ty,.fz (z.map .raw)⟩)],[nx]⟩
 |.box ty x=>match iK e x with
  |some v=>if allCell v.cs then some ⟨.ptr nx 0,[],[nx],[(nx,⟨ty,ka v.cs⟩)],[nx]⟩ else none
  |none=>none
 |.build z parts=>match qm (z.map raw) e parts with|some cs=>rv (xw cs)|none=>none
 |.bsl ty sz len z parts=>match qm ((repl z len).map .f) e parts with
  |some cs=>some ⟨if len=0 then .emp else .row nx sz len,[],[nx],[(nx,⟨ty,ka cs⟩)],[nx]⟩
  |none=>none
 |.load sz ag x=>match iK e x with|some p=>sV h sz ag p|none=>none
 |.store sz x v=>match iK e x,iK e v with|some p,some y=>yG h sz y p|_,_=>none
 |.nilc x=>match iK e x with
  |some (.ptr id off)=>rv (.ptr id off)
  |some (.f (.ptr cells off))=>rv (.f (.ptr cells off))
  |some (.clo g cap)=>rv (.clo g cap)
  |_=>none
 |.bin op x y=>match iK e x,iK e y with
  |some (.f (.raw u)),some (.f (.raw v))=>(match nU op u v with|some r=>rv (raw r)|none=>none)
  |_,_=>none
 |.eqs neg ds x y=>match iK e x,iK e y with
  |some (.f (.agg a)),some (.f (.agg b))=>(match eqCells ds a b with|some r=>rv (raw (.bool (r !=neg)))|none=>none)
  |_,_=>none
 |.eqb neg x y=>match iK e x,iK e y with
  |some (.f (.raw (.bool a))),some (.f (.raw (.bool b)))=>rv (raw (.bool ((a==b) !=neg)))
  |_,_=>none
 |.isnil neg x=>match iK e x with
  |some (.row _ _ _)=>rv (raw (.bool neg))
  |some (.sl _ _ _)=>rv (raw (.bool neg))
  |some (.f (.sl _ (_+1)))=>rv (raw (.bool neg))
  |some (.f (.sl _ 0))=>rv .anyb
  |some .emp=>rv .anyb
  |some (.f (.raw v))=>if isNilSl v then rv (raw (.bool !neg)) else none
  |_=>none
 |.not x=>match iK e x with|some (.f (.raw (.bool b)))=>rv (raw (.bool !b))|_=>none
 |.conv k x=>match iK e x with|some (.f (.raw (.int _ n)))=>rv (raw (.int k (aJ k n)))|_=>none
 |.mksl ty sz bytes z l c=>match iK e l,iK e c with
  |some (.f (.raw (.int _ a))),some (.f (.raw (.int _ b)))=>
   if b9 0 a&&b9 a b&&aZ b.toNat bytes then some ⟨.row nx sz a.toNat,[],[nx],[(nx,⟨ty,.fz (repl z a.toNat)⟩)],[nx]⟩ else none
  |_,_=>none
 |.slc sz x lo hi mx=>match iK e x with
  |some v=>match lo,hi,mx with
   |none,some (.const (.int _ 0)),some (.const (.int _ 0))=>if v.slen.isSome then rv .emp else none
   |none,some b,none=>match v,iK e b with
    |.row id sz' n,some (.f (.raw (.int _ j)))=>if sz'==sz&&b9 0 j&&b9 j n then (match h.get id with
     |some blk=>if blk.c.isCells&&cZ (n*sz) blk.c.len then some ⟨.row nx sz j.toNat,[id],[nx,id],[(nx,⟨blk.ty,ka (blk.c.toMx.take (j.toNat*sz))⟩)],[nx]⟩ else none
     |none=>none) else none
    |.f (.sl cells n),some (.f (.raw (.int _ j)))=>if b9 0 j&&b9 j n&&cZ (n*sz) cells.length then rv (.f (.sl (cells.take (j.toNat*sz)) j.toNat)) else none
    |_,_=>none
   |some b,none,none=>match v,iK e b with
    |.row id sz' n,some (.f (.raw (.int _ j)))=>if sz'==sz&&b9 0 j&&bz j n then rv (.sl id (j.toNat*sz) (n-j.toNat)) else none
    |.f (.sl cells n),some (.f (.raw (.int _ j)))=>if b9 0 j&&b9 j n&&cZ (n*sz) cells.length then rv (.f (.sl ((cells.drop (j.toNat*sz)).take ((n-j.toNat)*sz)) (n-j.toNat))) else none
    |_,_=>none
   |_,_,_=>none
  |none=>none
 |.fad off x=>match iK e x with
  |some (.ptr id o)=>rv (.ptr id (o+off))
  |some (.f (.ptr cells o))=>rv (.f (.ptr cells (o+off)))
  |_=>none
 |.fld off sz ag x=>match iK e x with
  |some (.agg l)=>(match (BC.mx l).sub? off sz ag with|some v=>rv v|none=>none)
  |some (.f (.agg l))=>(match (BC.fz l).sub? off sz ag with|some v=>rv v|none=>none)
  |_=>none
 |.iad sz x i=>match iK e x,iK e i with
  |some v,some (.f (.raw (.int _ j)))=>match v with
   |.row id sz' n=>if sz'==sz&&b9 0 j&&bz j n then rv (.ptr id (j.toNat*sz)) else none
   |.sl id off n=>if b9 0 j&&bz j n then rv (.ptr id (off+j.toNat*sz)) else none
   |.f (.sl cells n)=>if b9 0 j&&bz j n then rv (.f (.ptr cells (j.toNat*sz))) else none
   |_=>none
  |_,_=>none
 |.iada n sz x i=>match iK e x,iK e i with
  |some v,some (.f (.raw (.int _ j)))=>if b9 0 j&&bz j n then (match v with
   |.ptr id off=>rv (.ptr id (off+j.toNat*sz))
   |.f (.ptr cells off)=>rv (.f (.ptr cells (off+j.toNat*sz)))
   |_=>none) else none
  |_,_=>none
 |.idx n sz ag x i=>match iK e x,iK e i with
  |some v,some (.f (.raw (.int _ j)))=>if b9 0 j&&bz j n then (match v with
   |.agg l=>(match (BC.mx l).sub? (j.toNat*sz) sz ag with|some v=>rv v|none=>none)
   |.f (.agg l)=>(match (BC.fz l).sub? (j.toNat*sz) sz ag with|some v=>rv v|none=>none)
   |_=>none) else none
  |_,_=>none
 |.ext x i=>match iK e x with|some (.tup l)=>(match l[i]? with|some v=>rv v|none=>none)|_=>none
 |.len x=>match iK e x with
  |some v=>(match v.slen with|some n=>rv (raw (.int .i64 n))|none=>none)
  |none=>none
 |.lens x=>match iK e x with
  |some (.f (.raw (.string s)))=>rv (raw (.int .i64 s.data.toList.length))
  |_=>none
 |.lenm x=>match iK e x with
  |some (.mp id)=>(match h.get id with|some ⟨_,.mp es⟩=>some ⟨raw (.int .i64 es.length),[id],[],[],[]⟩|_=>none)
  |_=>none
 |.max x y=>match iK e x,iK e y with
  |some (.f (.raw (.int k a))),some (.f (.raw (.int _ b)))=>rv (raw (.int k (if bz a b then b else a)))
  |_,_=>none
 |.min x y=>match iK e x,iK e y with
  |some (.f (.raw (.int k a))),some (.f (.raw (.int _ b)))=>rv (raw (.int k (if bz b a then b else a)))
  |_,_=>none
 |.sidx x i=>match iK e x,iK e i with
  |some (.f (.raw (.string s))),some (.f (.raw (.int _ j)))=>if b9 0 j then (match s.data.toList[j.toNat]? with|some b=>rv (raw (.int .u8 b.toNat))|none=>none) else none
  |_,_=>none
 |.app ty sz bytes s x=>match iK e s,iK e x with
  |some b,some y=>match y.row? h sz with
   |some (src,m,rd)=>match b with
    |.row id sz' n=>match h.get id with
     |some blk=>if sz'==sz&& !(CE id rd)&&blk.c.isCells&&cZ (n*sz) blk.c.len&&blk.ty==ty&&aZ (n+m) bytes then
       some ⟨.row nx sz (n+m),id::rd,[nx,id],[(nx,⟨ty,ka (blk.c.toMx.take (n*sz)++src)⟩)],[nx]⟩ else none
     |none=>none
    |b=>if isEmpB b&&aZ m bytes then
      (if m==0 then some ⟨b,rd,[],[],[]⟩ else some ⟨.row nx sz m,rd,[nx],[(nx,⟨ty,ka src⟩)],[nx]⟩) else none
   |none=>none
  |_,_=>none
 |.copy sz d x=>match iK e d,iK e x with
  |some (.row id sz' n),some y=>(match h.get id,y.row? h sz with
   |some blk,some (src,m,rd)=>if sz'==sz&& !(CE id rd)&&cZ (n*sz) blk.c.len then
     (match blk.c.put 0 (src.take (eN m n*sz)) with
     |some c=>some ⟨raw (.int .i64 (eN m n)),id::rd,[id],[(id,⟨blk.ty,c⟩)],[]⟩
     |none=>none) else none
   |_,_=>none)
  |_,_=>none
 |.mkf f caps=>match B7 e caps with|some l=>rv (.clo f l)|none=>none
 |.mkm=>some ⟨.mp nx,[],[nx],[(nx,⟨0,.mp []⟩)],[nx]⟩
 |.lku str z x k=>match iK e x,iK e k with
  |some (.mp id),some (.f (.raw key))=>(match h.get id with
   |some ⟨_,.mp es⟩=>if keyOK str key then (match mS key es with|some (some v)=>some ⟨v,[id],[],[],[]⟩|some none=>some ⟨raw z,[id],[],[],[]⟩|none=>none) else none
   |_=>none)
  |_,_=>none
 |.mup str x k v=>match iK e x,iK e k,iK e v with
  |some (.mp id),some (.f (.raw key)),some y=>(match h.get id with
   |some ⟨ty,.mp es⟩=>if keyOK str key then (match qh key y es with|some es'=>some ⟨raw undef,[id],[id],[(id,⟨ty,.mp es'⟩)],[]⟩|none=>none) else none
   |_=>none)
  |_,_,_=>none
 |.rng x=>match iK e x with
  |some (.f (.raw (.string s)))=>some ⟨.ptr nx 0,[],[nx],[(nx,⟨0,.it s 0⟩)],[nx]⟩
  |_=>none
 |.nxt x=>match iK e x with
  |some (.ptr id 0)=>(match h.get id with
   |some ⟨ty,.it s p⟩=>(match s.data.toList[p]? with
    |some b=>if eg b.toNat 128 then some ⟨.tup [raw (.bool true),raw (.int .i64 p),raw (.int .i32 b.toNat)],[id],[id],[(id,⟨ty,.it s (p+1)⟩)],[]⟩ else none
    |none=>some ⟨.tup [raw (.bool false)],[id],[id],[(id,⟨ty,.it s p⟩)],[]⟩)
   |_=>none)
  |_=>none
 |.bad=>none
structure mI where
 dst:Option Nat
 op:SI
 guard:Option (Nat×Bool)
inductive SC where
 |skip
 |reg (ops:List mI) (prs:List (Nat×Nat))
 |seq (a b:SC)
 |cond (c:Nat) (a b:SC)
 |block (id:Nat) (b:SC)
 |loop (b:SC)
 |exit (id:Nat)
 |ret
 |defer (f:FuncId) (caps:List Operand) (t:Nat)
 |bad
structure H4 where
 val:AV
 h:Heap
 nx:Nat
 wr:Nat
abbrev CallF:=FuncId→List AV→Heap→Nat→Option H4
mutual
def AV.ids:AV→Nat→Nat
 |.ptr id _,acc=>acc|||(1<<<id)
 |.sl id _ _,acc=>acc|||(1<<<id)
 |.row id _ _,acc=>acc|||(1<<<id)
 |.mp id,acc=>acc|||(1<<<id)
 |.agg l,acc=>AV.idsL l acc
 |.tup l,acc=>AV.idsL l acc
 |.clo _ l,acc=>AV.idsL l acc
 |.f _,acc=>acc
 |.emp,acc=>acc
 |.anyb,acc=>acc
def AV.idsL:List AV→Nat→Nat
 |[],acc=>acc
 |x::r,acc=>AV.idsL r (AV.ids x acc)
end
mutual
def AV.all (p:Nat→Bool):AV→Bool
 |.ptr id _=>p id
 |.sl id _ _=>p id
 |.row id _ _=>p id
 |.mp id=>p id
 |.agg l=>AV.allL p l
 |.tup l=>AV.allL p l
 |.clo _ l=>AV.allL p l
 |.f _=>true
 |.emp=>true
 |.anyb=>true
def AV.allL (p:Nat→Bool):List AV→Bool
 |[]=>true
 |x::r=>AV.all p x&&AV.allL p r
end
def BC.ids:BC→Nat→Nat
 |.mx l,acc=>AV.idsL l acc
 |.mp es,acc=>AV.idsL (es.map (·.2)) acc
 |_,acc=>acc
def BC.all (p:Nat→Bool):BC→Bool
 |.mx l=>AV.allL p l
 |.mp es=>AV.allL p (es.map (·.2))
 |_=>true
def Heap.all (p:Nat→Bool) (h:Heap):Bool:=PT.all (fun i b=>p i&&b.c.all p) 1 0 h
def reach:Nat→Heap→Nat→Nat→Nat
 |0,_,_,wZ=>wZ
 |n+1,h,todo,wZ=>
  if av todo 0 then wZ else
  match Nat.log2 todo with
  |id=>if aI wZ id then reach n h (todo ^^^ (1<<<id)) wZ else
   match h.get id with
   |some b=>reach n h (b.c.ids (todo ^^^ (1<<<id))) (wZ|||(1<<<id))
   |none=>reach n h (todo ^^^ (1<<<id)) wZ
section force
variable {α:Type}
def mP (n:Nat) (k:Nat→α):α:=match n with|0=>k 0|m+1=>k (m+1)
def frcI (n:Int) (k:Int→α):α:=match n with|.ofNat m=>mP m fun m=>k (.ofNat m)|.negSucc m=>mP m fun m=>k (.negSucc m)
def frcB (b:Bool) (k:Bool→α):α:=match b with|true=>k true|false=>k false
def frcV (v:Value) (k:Value→α):α:=match v with
 |.int kd n=>frcI n fun n=>k (.int kd n)
 |.bool b=>frcB b fun b=>k (.bool b)
 |v=>k v
def Hb (x:FV) (k:FV→α):α:=match x with
 |.raw v=>frcV v fun v=>k (.raw v)
 |.ptr cells off=>mP off fun off=>k (.ptr cells off)
 |.sl cells n=>mP n fun n=>k (.sl cells n)
 |.agg l=>k (.agg l)
def frcFL:List FV→(List FV→α)→α
 |[],k=>k []
 |x::r,k=>Hb x fun x=>frcFL r fun r=>k (x::r)
def Ha (x:FV) (k:FV→α):α:=match x with
 |.agg l=>frcFL l fun l=>k (.agg l)
 |x=>Hb x k
def FI (x:AV) (k:AV→α):α:=match x with
 |.f x=>Ha x fun x=>k (.f x)
 |.ptr id off=>mP id fun id=>mP off fun off=>k (.ptr id off)
 |.sl id off n=>mP id fun id=>mP off fun off=>mP n fun n=>k (.sl id off n)
 |.row id sz n=>mP id fun id=>mP sz fun sz=>mP n fun n=>k (.row id sz n)
 |.mp id=>mP id fun id=>k (.mp id)
 |x=>k x
def frcAL:List AV→(List AV→α)→α
 |[],k=>k []
 |x::r,k=>FI x fun x=>frcAL r fun r=>k (x::r)
def Hc (x:AV) (k:AV→α):α:=match x with
 |.agg l=>frcAL l fun l=>k (.agg l)
 |.tup l=>frcAL l fun l=>k (.tup l)
 |.clo f l=>frcAL l fun l=>k (.clo f l)
 |x=>FI x k
def frcC (c:BC) (k:BC→α):α:=match c with
 |.fz l=>frcFL l fun l=>k (.fz l)
 |.mx l=>frcAL l fun l=>k (.mx l)
 |.it s p=>mP p fun p=>k (.it s p)
 |.mp es=>k (.mp es)
def zL {β:Type}:PT β→(PT β→α)→α
 |.leaf,k=>k .leaf
 |.node v l r,k=>(match v with
  |none=>fun (k:Option β→α)=>k none
  |some x=>fun k=>k (some x)) fun v=>zL l fun l=>zL r fun r=>k (.node v l r)
def AR {β:Type}:Nat→PT β→Nat→Option β→(PT β→α)→α
 |0,t,_,_,k=>k t
 |f+1,t,n,x,k=>match t with
  |.leaf=>(match n with
   |0=>k (.node x .leaf .leaf)
   |m+1=>if av (m%2) 0 then mP (m/2) fun q=>AR f .leaf q x fun u=>k (.node none u .leaf) else mP (m/2) fun q=>AR f .leaf q x fun u=>k (.node none .leaf u))
  |.node v l r=>(match n with
   |0=>k (.node x l r)
   |m+1=>if av (m%2) 0 then mP (m/2) fun q=>AR f l q x fun u=>k (.node v u r) else mP (m/2) fun q=>AR f r q x fun u=>k (.node v l u))
theorem yB {β:Type}:∀ (x:PT β) (k:PT β→α),zL x k=k x
 |.leaf,_=>rfl
 |.node v l r,k=>by cases v<;>simp only[zL,yB l,yB r]
end force
structure IS where
 e:Env
 h:Heap
 nx:Nat
 wr:Nat
structure FU where
 val:AV
 rd:Nat
 wr:Nat
 h:Heap
 nx:Nat
def bits:List Nat→Nat→Nat
 |[],acc=>acc
 |x::r,acc=>bits r (acc|||(1<<<x))
def FZ {α:Type} (h:Heap) (nw:NW):List Nat→(Heap→α)→α
 |[],k=>k h
 |i::r,k=>match nwGet nw i with
  |none=>AR (i+1) h i none fun h=>FZ h nw r k
  |some ⟨ty,c⟩=>frcC c fun c=>AR (i+1) h i (some ⟨ty,c⟩) fun h=>FZ h nw r k
def FL (call:CallF) (f:FuncId) (args:List AV) (h:Heap) (nx:Nat):Option FU:=
 mP (reach 1000000 h (AV.idsL args 0) 0) fun ids=>zL (PT.only ids 1 0 h) fun hc=>
 if AV.allL (eg · nx) args&&Heap.all (eg · nx) hc then
  match call f args hc nx with
  |some ⟨val,h',nx',wr⟩=>Hc val fun val=>mP nx' fun nx'=>mP wr fun wr=>zL (PT.merge wr 1 0 h h') fun hm=>some ⟨val,ids,wr,hm,nx'⟩
  |none=>none
 else none
def opA (call:CallF) (o:SI) (e:Env) (h:Heap) (nx:Nat):Option FU:=
 match o with
 |.call f args=>match B7 e args with|some l=>FL call f l h nx|none=>none
 |.callv x args=>match iK e x,B7 e args with|some (.clo f cap),some l=>FL call f (l++cap) h nx|_,_=>none
 |.op o=>match da o e h nx with
  |some ⟨val,rd,wr,nw,N⟩=>Hc val fun val=>mP (bits rd 0) fun rd=>mP (bits wr 0) fun wm=>mP (nx+N.length) fun nx'=>FZ h nw wr fun h=>some ⟨val,rd,wm,h,nx'⟩
  |none=>none
def G1 (e:Env):Option (Nat×Bool)→Option Bool
 |none=>some true
 |some (t,want)=>match e.get t with
  |some (.f (.raw (.bool b)))=>some (b==want)
  |some (.f (.raw (.tuple _)))=>some false
  |_=>none
def F3 {α:Type} (e:Env) (dst:Option Nat) (v:AV) (k:Env→α):α:=match dst with
 |none=>k e
 |some d=>AR (d+1) e d (some v) k
structure EH where
 rd:Nat
 wr:Nat
def AU (call:CallF):List mI→IS→Option (IS×List EH)
 |[],s=>some (s,[])
 |o::r,⟨e,h,nx,wr⟩=>
  match G1 e o.guard with
  |some true=>(match opA call o.op e h nx with
   |some ⟨val,rd,w,h',nx'⟩=>F3 e o.dst val fun e'=>mP (wr|||w) fun wr'=>(match AU call r ⟨e',h',nx',wr'⟩ with
    |some (s',fs)=>some (s',⟨rd,w⟩::fs)
    |none=>none)
   |none=>none)
  |some false=>F3 e o.dst (raw undef) fun e'=>(match AU call r ⟨e',h,nx,wr⟩ with
   |some (s',fs)=>some (s',⟨0,0⟩::fs)
   |none=>none)
  |none=>none
def fpAt:List EH→Nat→Option EH
 |[],_=>none
 |f::_,0=>some f
 |_::r,n+1=>fpAt r n
def sQ (a b:Nat):Bool:=av (a&&&b) 0
def uq (fs:List EH):List (Nat×Nat)→Bool
 |[]=>true
 |(i,j)::r=>(match fpAt fs i,fpAt fs j with
  |some a,some b=>sQ a.wr b.rd&&sQ a.wr b.wr&&sQ b.wr a.rd
  |_,_=>false)&&uq fs r
inductive Ex where
 |normal
 |exit (id:Nat)
 |ret
def FG (body:IS→Option (Ex×IS)) (e0:Env):Nat→IS→Option (Ex×IS)
 |0,_=>none
 |n+1,s=>match body s with
  |some (.normal,⟨e,h,nx,wr⟩)=>zL (PT.mask e e0) fun e=>FG body e0 n ⟨e,h,nx,wr⟩
  |r=>r
def run (call:CallF) (inert:FuncId→Bool) (fuel:Nat):SC→IS→Option (Ex×IS)
 |.skip,s=>some (.normal,s)
 |.reg ops prs,s=>match AU call ops s with
  |some (s',fs)=>if uq fs prs then some (.normal,s') else none
  |none=>none
 |.seq a b,s=>match run call inert fuel a s with
  |some (.normal,s')=>run call inert fuel b s'
  |r=>r
 |.cond c a b,s=>match s.e.get c with
  |some (.f (.raw (.bool true)))=>run call inert fuel a s
  |some (.f (.raw (.bool false)))=>run call inert fuel b s
  |_=>none
 |.block id b,s=>match run call inert fuel b s with
  |some (.exit i,s')=>if av i id then some (.normal,s') else some (.exit i,s')
  |r=>r
 |.loop b,s=>FG (run call inert fuel b) s.e fuel s
 |.exit id,s=>some (.exit id,s)
 |.ret,s=>some (.ret,s)
 |.defer f caps t,⟨e,h,nx,wr⟩=>match B7 e caps with
  |some l=>if inert f then F3 e (some t) (.clo f l) fun e'=>some (.normal,⟨e',h,nx,wr⟩) else none
  |none=>none
 |.bad,_=>none
inductive RV where
 |tmp (t:Nat)
 |cell (a:Nat) (sz:Nat) (ag:Bool)
structure SF where
 code:SC
 res:List RV
 nt:Nat
def tupA:List AV→AV
 |[x]=>x
 |l=>.tup l
def beqV:Value→Value→Bool
 |.bool a,.bool b=>a==b
 |.int k a,.int k' b=>k==k'&&a==b
 |.string a,.string b=>mn a b
 |.slice none n c,.slice none n' c'=>av n n'&&av c c'
 |.pointer none,.pointer none=>true
 |.tuple a,.tuple b=>a.isEmpty&&b.isEmpty
 |_,_=>false
def dk (P:Program) (t:TypeId):Option Nat:=(P.info? t).map (·.size)
def ua (P:Program) (t:TypeId):Option Nat:=(P.info? t).map (·.bytes)
def n7 (P:Program) (t:TypeId):Option (List Value):=((P.info? t).bind (·.zero)).map (·.cells.toList)
def sW (P:Program) (t:TypeId):Option Bool:=(P.underlying t).map fun|.struct _=>true|.array _ _=>true|_=>false
def sP (P:Program) (t:TypeId):Option TypeId:=match P.underlying t with|some (.slice e)=>some e|_=>none
def ri (P:Program) (t:TypeId) (i:Nat):Option (Nat×Nat):=match P.underlying t with
 |some (.struct fs)=>(fs[i]?).bind fun f=>(dk P f.type).map (f.offset,·)
 |some (.array _ el)=>(dk P el).map fun s=>(i*s,s)
 |some (.slice el)=>(dk P el).map fun s=>(i*s,s)
 |_=>none
def pn (P:Program) (t:TypeId):List (Nat×Operand)→Option (List (Nat×Nat×Operand))
 |[]=>some []
 |(i,x)::r=>match ri P t i,pn P t r with|some (o,s),some l=>some ((o,s,x)::l)|_,_=>none
def kW (z:List Value):Bool:=z.all fun v=>v.oneCell'
def plainD:TypeDesc→Bool
 |.int _=>true
 |.bool=>true
 |.string=>true
 |_=>false
def mf (P:Program):Nat→List Field→Option (List TypeDesc)
 |_,[]=>some []
 |k,f::r=>match P.underlying f.type,mf P (k+1) r with
  |some d,some ds=>if f.name != "_" &&f.offset==k&&plainD d then some (d::ds) else none
  |_,_=>none
def DO (P:Program) (t:TypeId):Option (List TypeDesc):=match P.underlying t with
 |some (.struct fs)=>if P.stoodInHeld t then none else mf P 0 fs.toList
 |_=>none
def Ac (P:Program) (c:Call):Option C8:=
 match c.callee with
 |.builtin .len=>(match c.args.toList,c.argTypes.toList with
  |[x],[t]=>(match P.underlying t with
   |some (.slice _)=>some (.len x)
   |some .string=>some (.lens x)
   |some (.map _ _)=>some (.lenm x)
   |_=>none)
  |_,_=>none)
 |.builtin .max=>(match c.args.toList with
  |[x,y]=>some (.max x y)
  |_=>none)
 |.builtin .min=>(match c.args.toList with
  |[x,y]=>some (.min x y)
  |_=>none)
 |.builtin .copy=>(match c.args.toList,c.argTypes.toList with
  |[d,x],[t,u]=>(match sP P t,sP P u with
   |some el,some _=>(dk P el).bind fun sz=>if sz !=0 then some (.copy sz d x) else none
   |_,_=>none)
  |_,_=>none)
 |.builtin .append=>(match c.args.toList,c.argTypes.toList with
  |[s,x],[t,u]=>(match sP P t,sP P u with
   |some el,some _=>(dk P el).bind fun sz=>(ua P el).bind fun b=>(n7 P el).bind fun z=>if sz !=0&&z.length==sz then some (.app el sz b s x) else none
   |_,_=>none)
  |_,_=>none)
 |_=>none
def cE (P:Program):Op→Option C8
 |.move x=>some (.mv x)
 |.assign x=>some (.mv x)
 |.pick c a b=>some (.pick c a b)
 |.alloc t=>(n7 P t).bind fun z=>if kW z then some (.alloc t z) else none
 |.box t x=>some (.box t x)
 |.build t ps=>match P.underlying t with
  |some (.struct fs)=>(n7 P t).bind fun z=>if kW z&&(fs.toList.all fun f=>(dk P f.type).isSome) then (pn P t ps.toList).map (.build z) else none
  |some (.array _ el)=>(n7 P t).bind fun z=>if kW z&&(dk P el).isSome then (pn P t ps.toList).map (.build z) else none
  |_=>none
 |.buildSlice t n ps=>(sP P t).bind fun el=>(n7 P el).bind fun z=>(dk P el).bind fun sz=>if kW z&&z.length==sz&&cZ (n*sz) 65536&&sz !=0 then (pn P t ps.toList).map (.bsl el sz n z) else none
 |.load t x=>(dk P t).bind fun sz=>(sW P t).map fun ag=>.load sz ag x
 |.store t x v=>(dk P t).map fun sz=>.store sz x v
 |.nilCheck x=>some (.nilc x)
 |.binOp op t x y _=>match P.underlying t with
  |some (.int _)|some .string=>some (.bin op x y)
  |some .bool=>(match op with|.eql=>some (.eqb false x y)|.neq=>some (.eqb true x y)|_=>none)
  |some (.slice _)=>(match op,y with
   |.eql,.const (.slice none 0 0)=>some (.isnil false x)
   |.neq,.const (.slice none 0 0)=>some (.isnil true x)
   |_,_=>none)
  |some (.struct _)=>(DO P t).bind fun ds=>(match op with|.eql=>some (.eqs false ds x y)|.neq=>some (.eqs true ds x y)|_=>none)
  |_=>none
 |.unOp .not _ x=>some (.not x)
 |.unOp .neg t x=>match P.underlying t with|some (.int k)=>some (.bin .sub (.const (.int k 0)) x)|_=>none
 |.convert s d x=>match P.underlying s,P.underlying d with|some (.int _),some (.int k)=>some (.conv k x)|_,_=>none
 |.makeSlice t l c=>(sP P t).bind fun el=>(n7 P el).bind fun z=>(dk P el).bind fun sz=>(ua P el).bind fun b=>if kW z&&z.length==sz&&sz !=0 then some (.mksl el sz b z l c) else none
 |.slice t x lo hi mx=>(sP P t).bind fun el=>(dk P el).map fun sz=>.slc sz x lo hi mx
 |.fieldAddr t x k=>match P.underlying t with
  |some (.struct fs)=>(fs[k]?).bind fun f=>(dk P f.type).bind fun sz=>if sz !=0 then some (.fad f.offset x) else none
  |_=>none
 |.field t x k=>match P.underlying t with
  |some (.struct fs)=>(fs[k]?).bind fun f=>(dk P f.type).bind fun sz=>(sW P f.type).map fun ag=>.fld f.offset sz ag x
  |_=>none
 |.indexAddr t x i=>match P.underlying t with
  |some (.slice el)=>(dk P el).map fun sz=>.iad sz x i
  |some (.array n el)=>(dk P el).map fun sz=>.iada n sz x i
  |_=>none
 |.index t x i=>match P.underlying t with
  |some (.array n el)=>(dk P el).bind fun sz=>(sW P el).map fun ag=>.idx n sz ag x i
  |some .string=>some (.sidx x i)
  |_=>none
 |.extract x i=>some (.ext x i)
 |.makeFunc (.func f) first caps=>if first.isEmpty then some (.mkf f caps.toList) else none
 |.makeMap t none=>match P.underlying t with|some (.map _ _)=>some .mkm|_=>none
 |.lookup t x k false=>match P.underlying t with
  |some (.map kt el)=>(match P.underlying kt,(P.info? el).bind (·.zero) with
   |some (.int _),some z=>if z.oneCell' then some (.lku false z x k) else none
   |some .string,some z=>if z.oneCell' then some (.lku true z x k) else none
   |_,_=>none)
  |_=>none
 |.mapUpdate t m k v=>match P.underlying t with
  |some (.map kt _)=>(match P.underlying kt with
   |some (.int _)=>some (.mup false m k v)
   |some .string=>some (.mup true m k v)
   |_=>none)
  |_=>none
 |.range t x=>match P.underlying t with|some .string=>some (.rng x)|_=>none
 |.next x true=>some (.nxt x)
 |.call c=>Ac P c
 |_=>none
def callOf:Op→Option SI
 |.call c=>(match c.callee with
  |.value (.func f)=>some (.call f c.args.toList)
  |.value (.tmp t)=>some (.callv (.tmp t) c.args.toList)
  |_=>none)
 |_=>none
def pT (P:Program) (op:Op):SI:=match callOf op with
 |some i=>i
 |none=>(match cE P op with|some s=>.op s|none=>.op .bad)
def C8.still:C8→Bool
 |.mv _|.pick _ _ _|.build _ _|.nilc _|.bin _ _ _|.eqs _ _ _ _|.isnil _ _|.eqb _ _ _|.not _|.conv _ _|.fad _ _|.fld _ _ _ _|.iad _ _ _|.iada _ _ _ _|.idx _ _ _ _ _|.ext _ _|.max _ _|.min _ _|.sidx _ _|.mkf _ _|.bad=>true
 |_=>false
def SI.still:SI→Bool
 |.op s=>s.still
 |_=>false
def mm (P:Program) (ops:Array Oper):List Oper→Option (List mI)
 |[]=>some []
 |o::r=>match mm P ops r with
  |some l=>(match o.guard with
   |none=>some (⟨o.dst,pT P o.op,none⟩::l)
   |some (j,want)=>(match (ops[j]?).bind (·.dst) with
    |some t=>some (⟨o.dst,pT P o.op,some (t,want)⟩::l)
    |none=>none))
  |none=>none
def xr (ops:Array Oper) (l:List mI):Option (List (Nat×Nat)):=
 let B:=befsGo ops.toList []
 if (fE ops.size).all fun j=>((ops[j]?).all fun oj=>oj.after.toList.all fun e=> !qu .any e||decide (e.on<j))&&
     (fE j).all fun i=>aI (B.getD j 0) i||(match ops[i]?,ops[j]? with|some oi,some oj=>oi.apart ops oj|_,_=>false)
 then some ((fE ops.size).flatMap fun j=>(fE j).filterMap fun i=>
  if aI (B.getD j 0) i||(match l[i]?,l[j]? with|some a,some b=>a.op.still||b.op.still|_,_=>false) then none else some (i,j))
 else none
def sR (ops:Array Oper) (dr:Bool):Option (FuncId×List Operand×Nat):=match ops.toList,dr with
 |[p,q],false=>(match p.op,p.guard,p.dst,q.op,q.guard,q.dst with
  |.makeFunc (.func f) first caps,none,some t,.defer c,none,none=>(match c.callee,c.args.toList with
   |.value (.tmp t'),[]=>if av t t'&&first.isEmpty then some (f,caps.toList,t) else none
   |_,_=>none)
  |_,_,_,_,_,_=>none)
 |_,_=>none
def bM (P:Program) (nt:Nat):Code→SC
 |.skip=>.skip
 |.region _ ops dr=>if ops.toList.all fun o=>match o.dst with|some d=>decide (d<nt)|none=>true then
   (match sR ops dr with
   |some (f,caps,t)=>.defer f caps t
   |none=>(match mm P ops ops.toList with
    |some l=>(match xr ops l with|some prs=>.reg l prs|none=>.bad)
    |none=>.bad)) else .bad
 |.seq a b=>.seq (bM P nt a) (bM P nt b)
 |.cond (.tmp c) a b=>.cond c (bM P nt a) (bM P nt b)
 |.block id b=>.block id (bM P nt b)
 |.loop b=>.loop (bM P nt b)
 |.exit id=>.exit id
 |.ret=>.ret
 |_=>.bad
def oq (P:Program):List ResultVar→Option (List RV)
 |[]=>some []
 |.tmp t::r=>match oq P r with|some l=>some (.tmp t::l)|none=>none
 |.cell a t::r=>match oq P r,dk P t,sW P t with|some l,some sz,some ag=>some (.cell a sz ag::l)|_,_,_=>none
def qo (P:Program) (f:FuncId):Option SF:=
 match P.funcs[f]? with
 |some fn=>if fn.name== "runtime.NumGoroutine" then none else (match fn.body,oq P fn.results.toList with
  |some c,some r=>some ⟨bM P fn.ntmps c,r,fn.ntmps⟩
  |_,_=>none)
 |none=>none
inductive Xp where
 |mk (op n:Int) (name:List UInt8) (l:List Xp)
inductive Sx where
 |mk (op line:Int) (name arg:List UInt8) (index:List Xp) (expr:Xp) (body els:List Sx)
def Xp.op:Xp→Int|.mk a _ _ _=>a
def Xp.n:Xp→Int|.mk _ a _ _=>a
def Xp.name:Xp→List UInt8|.mk _ _ a _=>a
def Xp.l:Xp→List Xp|.mk _ _ _ a=>a
def Sx.op:Sx→Int|.mk a _ _ _ _ _ _ _=>a
def Sx.line:Sx→Int|.mk _ a _ _ _ _ _ _=>a
def Sx.name:Sx→List UInt8|.mk _ _ a _ _ _ _ _=>a
def Sx.arg:Sx→List UInt8|.mk _ _ _ a _ _ _ _=>a
def Sx.index:Sx→List Xp|.mk _ _ _ _ a _ _ _=>a
def Sx.expr:Sx→Xp|.mk _ _ _ _ _ a _ _=>a
def Sx.body:Sx→List Sx|.mk _ _ _ _ _ _ a _=>a
def Sx.els:Sx→List Sx|.mk _ _ _ _ _ _ _ a=>a
inductive Ty where
 |int (k:IntKind)
 |bool
 |str
 |sl (t:Ty)
 |st (t:Ty)
 |pr (a b:Ty)
 |un
 |ex
 |sm
 deriving DecidableEq
@[reducible] def Ty.den:Ty→Type
  |.int _=>Int
  |.bool=>Bool
  |.str=>List UInt8
  |.sl t=>List t.den
  |.st t=>t.den
  |.pr a b=>a.den×b.den
  |.un=>Unit
  |.ex=>Xp
  |.sm=>Sx
def Ty.size:Ty→Nat
 |.st t=>t.size
 |.pr a b=>a.size+b.size
 |.un=>0
 |.ex=>4
 |.sm=>11
 |_=>1
def Ty.zero:(t:Ty)→t.den
 |.int _=>(0:Int)
 |.bool=>false
 |.str=>[]
 |.sl _=>[]
 |.st t=>t.zero
 |.pr a b=>(a.zero,b.zero)
 |.un=>()
 |.ex=>.mk 0 0 [] []
 |.sm=>.mk 0 0 [] [] [] (.mk 0 0 [] []) [] []
def Ty.one:Ty→Bool
 |.int _=>true
 |.bool=>true
 |.str=>true
 |.sl _=>true
 |_=>false
def exF:Ty:=.pr (.int .i64) (.pr (.int .i64) (.pr .str (.sl .ex)))
def smF:Ty:=.pr (.int .i64) (.pr (.int .i64) (.pr .str (.pr .str (.pr (.sl .ex) (.pr .ex (.pr (.sl .sm) (.sl .sm)))))))
def xU (e:Xp):exF.den:=(e.op,e.n,e.name,e.l)
def bG (x:exF.den):Xp:=.mk x.1 x.2.1 x.2.2.1 x.2.2.2
def xT (e:Sx):smF.den:=(e.op,e.line,e.name,e.arg,e.index,e.expr,e.body,e.els)
def cz (x:smF.den):Sx:=.mk x.1 x.2.1 x.2.2.1 x.2.2.2.1 x.2.2.2.2.1 x.2.2.2.2.2.1 x.2.2.2.2.2.2.1 x.2.2.2.2.2.2.2
mutual
def encEx:Xp→List FV
 |.mk op n name l=>[.raw (.int .i64 op),.raw (.int .i64 n),.raw (.string ⟨name.toArray⟩),.sl (encExs l) l.length]
def encExs:List Xp→List FV
 |[]=>[]
 |x::r=>encEx x++encExs r
end
mutual
def encSm:Sx→List FV
 |.mk op line name arg index expr body els=>[.raw (.int .i64 op),.raw (.int .i64 line),.raw (.string ⟨name.toArray⟩),.raw (.string ⟨arg.toArray⟩),.sl (encExs index) index.length]++encEx expr++[.sl (encSms body) body.length,.sl (encSms els) els.length]
def encSms:List Sx→List FV
 |[]=>[]
 |x::r=>encSm x++encSms r
end
def encC:(T:Ty)→T.den→List FV
 |.int k,n=>[.raw (.int k n)]
 |.bool,b=>[.raw (.bool b)]
 |.str,s=>[.raw (.string ⟨s.toArray⟩)]
 |.sl t,xs=>[.sl (List.flatMap (encC t) xs) (aa xs)]
 |.st t,v=>encC t v
 |.pr a b,v=>encC a v.1++encC b v.2
 |.un,_=>[]
 |.ex,v=>encEx v
 |.sm,v=>encSm v
def enc1:(T:Ty)→T.den→FV
 |.int k,n=>.raw (.int k n)
 |.bool,b=>.raw (.bool b)
 |.str,s=>.raw (.string ⟨s.toArray⟩)
 |.sl t,xs=>.sl (List.flatMap (encC t) xs) (aa xs)
 |.st t,v=>.agg (encC t v)
 |.pr a b,v=>.agg (encC a v.1++encC b v.2)
 |.un,_=>.agg []
 |.ex,v=>.agg (encEx v)
 |.sm,v=>.agg (encSm v)
def eqT:(T:Ty)→T.den→T.den→Bool
 |.int _,a,b=>decide ((a:Int)=b)
 |.bool,a,b=>(a:Bool)==b
 |.str,a,b=>decide ((a:List UInt8)=b)
 |.st t,a,b=>eqT t a b
 |.pr x y,a,b=>eqT x a.1 b.1&&eqT y a.2 b.2
 |_,_,_=>true
def pe {S:Ty} (T:Ty) (v:S.den):Option T.den:=if h:S=T then some (h▸v) else none
def aS (j:Int) (n:Nat):Bool:=b9 0 j&&bz j n
def aB {T:Ty} (xs:List T.den) (j:Int):T.den:=xs.getD j.toNat T.zero
def ch {α:Type} (xs:List α) (j:Int) (x:α):List α:=xs.set j.toNat x
def Aa {α:Type} (xs ys:List α):List α:=ys.take xs.length++xs.drop ys.length
def eI (a b:Int):Int:=if bz a b then b else a
def uJ (a b:Int):Int:=if bz b a then b else a
def rh (s:List UInt8) (j:Int):Int:=ah (s.getD j.toNat 0).toNat
def bcase {R:Type} (b:Bool) (t f:Option R):Option R:=match b with|true=>t|false=>f
def chk {R:Type} (b:Bool) (k:b=true→Option R):Option R:=match b,k with|true,k=>k rfl|false,_=>none
open Classical in
noncomputable def wD {R:Type} (a b:Option R):Option R:=if a=b then a else none
open Classical in
noncomputable def same {α R:Type} (a b:α) (r:Option R):Option R:=if a=b then r else none
def obind {α R:Type} (o:Option α) (k:α→Option R):Option R:=match o with|some x=>k x|none=>none
def lt {α R:Type} (x:α) (k:α→Option R):Option R:=k x
def jn {α R:Type} (o:Option (R⊕α)) (k:α→Option R):Option R:=match o with|some (.inr x)=>k x|some (.inl r)=>some r|none=>none
def iterN {σ R:Type} (step:σ→Option (σ⊕R)):Nat→σ→Option R
 |0,_=>none
 |n+1,x=>match step x with
  |some (.inl y)=>iterN step n y
  |some (.inr r)=>some r
  |none=>none
open Classical in
noncomputable def iter {σ R:Type} (step:σ→Option (σ⊕R)) (x:σ):Option R:=
 if h:∃ n,(iterN step n x).isSome=true then iterN step (Classical.choose h) x else none
def dT {σ R:Type} (step:σ→Option (σ⊕R)) (x:σ):Option R:=iterN step 18446744073709551616 x
abbrev Itr:Type 1:=∀ σ R:Type,(σ→Option (σ⊕R))→σ→Option R
def bP {R:Type} (a b:Option R):Prop:=∀ y,a=some y→b=some y
theorem bP.rfl {R:Type} {a:Option R}:bP a a:=fun _ h=>h
theorem bP.bcase {R:Type} {b:Bool} {t f t' f':Option R} (h1:bP t t') (h2:bP f f'):bP (AI.bcase b t f) (AI.bcase b t' f'):=by cases b<;>assumption
theorem bP.chk {R:Type} {b:Bool} {k k':Option R} (h:bP k k'):bP (AI.chk b fun _=>k) (AI.chk b fun _=>k'):=by
 cases b with
 |true=>exact h
 |false=>exact fun _ h=>by cases h
theorem bP.obind {α R:Type} {o o':Option α} {k k':α→Option R} (h:bP o o') (hk:∀ x,bP (k x) (k' x)):bP (AI.obind o k) (AI.obind o' k'):=by
 intro y hy;cases o with
 |none=>cases hy
 |some x=>rw[h x (by exact Eq.refl _)];exact hk x y hy
theorem bP.lt {α R:Type} {x:α} {k k':α→Option R} (h:∀ y,bP (k y) (k' y)):bP (AI.lt x k) (AI.lt x k'):=h x
theorem bP.jn {α R:Type} {o o':Option (R⊕α)} {k k':α→Option R} (h:bP o o') (hk:∀ x,bP (k x) (k' x)):bP (AI.jn o k) (AI.jn o' k'):=by
 intro y hy;cases o with
 |none=>cases hy
 |some x=>
  rw[h x (by exact Eq.refl _)];cases x with
  |inl r=>exact hy
  |inr a=>exact hk a y hy
theorem bP.iterN {σ R:Type} {f g:σ→Option (σ⊕R)} (h:∀ x,bP (f x) (g x)):∀ (n:Nat) (x:σ),bP (AI.iterN f n x) (AI.iterN g n x)
 |0,_=>fun _ h=>by cases h
 |n+1,x=>by
  intro y hy;cases hf:f x with
  |none=>rw[AI.iterN,hf] at hy;cases hy
  |some s=>
   rw[AI.iterN,hf] at hy;rw[AI.iterN,h x s hf];cases s with
   |inl z=>exact bP.iterN h n z y hy
   |inr r=>exact hy
theorem v9 {σ R:Type} {f:σ→Option (σ⊕R)}:∀ {n:Nat} {x:σ} {r:R},iterN f n x=some r→iterN f (n+1) x=some r
 |0,x,r,h=>by cases h
 |n+1,x,r,h=>by
  cases hf:f x with
  |none=>rw[iterN,hf] at h;cases h
  |some s=>
   cases s with
   |inl y=>rw[iterN,hf] at h;rw[iterN,hf];exact v9 h
   |inr q=>rw[iterN,hf] at h;rw[iterN,hf];exact h
theorem wa {σ R:Type} {f:σ→Option (σ⊕R)} {n m:Nat} {x:σ} {r:R} (h:iterN f n x=some r) (hle:n≤m):iterN f m x=some r:=by
 induction hle with
 |refl=>exact h
 |step _ ih=>exact v9 ih
theorem v8 {σ R:Type} {f:σ→Option (σ⊕R)} {n:Nat} {x:σ} {r:R} (h:iterN f n x=some r):iter f x=some r:=by
 have hx:∃ n,(iterN f n x).isSome=true:=⟨n,by rw[h];exact Eq.refl _⟩
 unfold iter;rw[dif_pos hx];have hc:=Classical.choose_spec hx;obtain⟨r',hr'⟩:=eK.1 hc;rw[hr'];rcases Nat.le_total n (Classical.choose hx) with hl|hl
 ·rw[wa h hl] at hr';exact hr'.symm
 ·rw[wa hr' hl] at h;exact h
theorem bP.iter {σ R:Type} {f g:σ→Option (σ⊕R)} {x:σ} (h:∀ x,bP (f x) (g x)):bP (dT f x) (AI.iter g x):=fun y hy=>v8 (bP.iterN h _ x y hy)
def orE {R:Type} (a b:Option R):Option R:=match a with|some y=>some y|none=>b
noncomputable def fuel:Nat:=Classical.choose (⟨100000,rfl⟩:∃ n:Nat,n=100000)
theorem fuel_eq:fuel=100000:=Classical.choose_spec (⟨100000,rfl⟩:∃ n:Nat,n=100000)
def uB (a:Ty):Ty→Ty
 |.un=>a
 |.int k=>.pr a (.int k)
 |.bool=>.pr a .bool
 |.str=>.pr a .str
 |.sl t=>.pr a (.sl t)
 |.st t=>.pr a (.st t)
 |.pr x y=>.pr a (.pr x y)
 |.ex=>.pr a .ex
 |.sm=>.pr a .sm
def spr:Ty→Ty→Ty
 |.un,b=>b
 |.int k,b=>uB (.int k) b
 |.bool,b=>uB .bool b
 |.str,b=>uB .str b
 |.sl t,b=>uB (.sl t) b
 |.st t,b=>uB (.st t) b
 |.pr x y,b=>uB (.pr x y) b
 |.ex,b=>uB .ex b
 |.sm,b=>uB .sm b
def zA (a:Ty):(b:Ty)→a.den→b.den→(uB a b).den
 |.un,x,_=>x
 |.int _,x,y=>(x,y)
 |.bool,x,y=>(x,y)
 |.str,x,y=>(x,y)
 |.sl _,x,y=>(x,y)
 |.st _,x,y=>(x,y)
 |.pr _ _,x,y=>(x,y)
 |.ex,x,y=>(x,y)
 |.sm,x,y=>(x,y)
def FH (a:Ty):(b:Ty)→(uB a b).den→a.den
 |.un,z=>z
 |.int _,z=>z.1
 |.bool,z=>z.1
 |.str,z=>z.1
 |.sl _,z=>z.1
 |.st _,z=>z.1
 |.pr _ _,z=>z.1
 |.ex,z=>z.1
 |.sm,z=>z.1
def FC (a:Ty):(b:Ty)→(uB a b).den→b.den
 |.un,_=>()
 |.int _,z=>z.2
 |.bool,z=>z.2
 |.str,z=>z.2
 |.sl _,z=>z.2
 |.st _,z=>z.2
 |.pr _ _,z=>z.2
 |.ex,z=>z.2
 |.sm,z=>z.2
def mkp:(a b:Ty)→a.den→b.den→(spr a b).den
 |.un,_,_,y=>y
 |.int k,b,x,y=>zA (.int k) b x y
 |.bool,b,x,y=>zA .bool b x y
 |.str,b,x,y=>zA .str b x y
 |.sl t,b,x,y=>zA (.sl t) b x y
 |.st t,b,x,y=>zA (.st t) b x y
 |.pr u v,b,x,y=>zA (.pr u v) b x y
 |.ex,b,x,y=>zA .ex b x y
 |.sm,b,x,y=>zA .sm b x y
def fsp:(a b:Ty)→(spr a b).den→a.den
 |.un,_,_=>()
 |.int k,b,z=>FH (.int k) b z
 |.bool,b,z=>FH .bool b z
 |.str,b,z=>FH .str b z
 |.sl t,b,z=>FH (.sl t) b z
 |.st t,b,z=>FH (.st t) b z
 |.pr u v,b,z=>FH (.pr u v) b z
 |.ex,b,z=>FH .ex b z
 |.sm,b,z=>FH .sm b z
def snp:(a b:Ty)→(spr a b).den→b.den
 |.un,_,z=>z
 |.int k,b,z=>FC (.int k) b z
 |.bool,b,z=>FC .bool b z
 |.str,b,z=>FC .str b z
 |.sl t,b,z=>FC (.sl t) b z
 |.st t,b,z=>FC (.st t) b z
 |.pr u v,b,z=>FC (.pr u v) b z
 |.ex,b,z=>FC .ex b z
 |.sm,b,z=>FC .sm b z
theorem mX (a b:Ty) (x:a.den) (y:b.den):fsp a b (mkp a b x y)=x:=by cases a<;>cases b<;>rfl
theorem n8 (a b:Ty) (x:a.den) (y:b.den):snp a b (mkp a b x y)=y:=by cases a<;>cases b<;>rfl
inductive TV where
 |f (T:Ty) (v:T.den)
 |fel (T:Ty) (xs:List T.den) (j:Int) (h:aS j xs.length=true) (off:Nat)
 |pel (id sz:Nat) (j:Int) (off:Nat)
 |ptr (id off:Nat)
 |row (id:Nat)
 |csl (id sz n:Nat)
 |emp
 |nil
 |mp (id:Nat)
 |agg (l:List TV)
 |tup (l:List TV)
 |clo (g:FuncId) (l:List TV)
 |undef
 |np
 |anyb
inductive ey where
 |rows (ty:TypeId) (p:Bool) (T:Ty) (xs:List T.den)
 |cells (ty:TypeId) (l:List TV)
 |dead (p:Bool) (sz n:Nat)
 |mp (K V:Ty) (es:List (K.den×V.den))
abbrev TEnv:=PT TV
abbrev THeap:=PT ey
def cst:Value→Option TV
 |.int k n=>some (.f (.int k) n)
 |.bool b=>some (.f .bool b)
 |.string s=>some (.f .str s.data.toList)
 |.slice none 0 0=>some .nil
 |.pointer none=>some .np
 |_=>none
def csts:List Value→Option (List TV)
 |[]=>some []
 |v::r=>match cst v,csts r with|some x,some l=>some (x::l)|_,_=>none
def cstA:Value→Option TV
 |.agg vs=>if cells1 vs.toList then (match csts vs.toList with|some l=>some (.agg l)|none=>none) else none
 |v=>cst v
def cellsOf:Nat→(T:Ty)→T.den→Option (List TV)
 |0,_,_=>none
 |n+1,.st t,v=>cellsOf n t v
 |n+1,.pr a b,v=>match cellsOf n a v.1,cellsOf n b v.2 with|some x,some y=>some (x++y)|_,_=>none
 |_+1,.un,_=>some []
 |n+1,.ex,v=>cellsOf n exF (xU v)
 |n+1,.sm,v=>cellsOf n smF (xT v)
 |_+1,.int k,v=>some [.f (.int k) v]
 |_+1,.bool,v=>some [.f .bool v]
 |_+1,.str,v=>some [.f .str v]
 |_+1,.sl t,v=>some [.f (.sl t) v]
def TV.isC:TV→Bool
 |.f T _=>T.one
 |.fel _ _ _ _ _=>true
 |.pel _ _ _ _=>true
 |.ptr _ _=>true
 |.row _=>true
 |.csl _ _ _=>true
 |.emp=>true
 |.nil=>true
 |.np=>true
 |.mp _=>true
 |.clo _ _=>true
 |_=>false
def allC:List TV→Bool
 |[]=>true
 |x::r=>x.isC&&allC r
def TV.cs (v:TV):Option (List TV):=match v with
 |.agg l=>if allC l then some l else none
 |.f T x=>cellsOf 40 T x
 |x=>if x.isC then some [x] else none
def gZ (i:Nat):Nat:=1<<<i
def e9 (h:THeap) (T:Ty):TV→Option (T.den×Nat)
 |.f _ v=>match pe T v with|some x=>some (x,0)|none=>none
 |.emp=>(match T with|.sl _=>some ([],0)|_=>none)
 |.nil=>(match T with|.sl _=>some ([],0)|_=>none)
 |.row id=>match h.get id with
  |some (.rows _ _ S xs)=>(match pe (S:=.sl S) T xs with|some x=>some (x,gZ id)|none=>none)
  |_=>none
 |_=>none
def c9 (h:THeap):Nat→(T:Ty)→List TV→Option (T.den×Nat×List TV)
 |0,_,_=>none
 |n+1,.st t,l=>c9 h n t l
 |n+1,.pr a b,l=>match c9 h n a l with
  |some (x,m,r)=>(match c9 h n b r with|some (y,m',r')=>some ((x,y),m|||m',r')|none=>none)
  |none=>none
 |_+1,.un,l=>some ((),0,l)
 |n+1,.ex,l=>match c9 h n exF l with|some (x,m,r)=>some (bG x,m,r)|none=>none
 |n+1,.sm,l=>match c9 h n smF l with|some (x,m,r)=>some (cz x,m,r)|none=>none
 |_+1,.int k,l=>match l with|c::r=>(match e9 h (.int k) c with|some (x,m)=>some (x,m,r)|none=>none)|[]=>none
 |_+1,.bool,l=>match l with|c::r=>(match e9 h .bool c with|some (x,m)=>some (x,m,r)|none=>none)|[]=>none
 |_+1,.str,l=>match l with|c::r=>(match e9 h .str c with|some (x,m)=>some (x,m,r)|none=>none)|[]=>none
 |_+1,.sl t,l=>match l with|c::r=>(match e9 h (.sl t) c with|some (x,m)=>some (x,m,r)|none=>none)|[]=>none
def tb (h:THeap) (T:Ty) (v:TV):Option (T.den×Nat):=match v with
 |.agg l=>if T.one then none else (match c9 h 40 T l with|some (x,m,[])=>some (x,m)|_=>none)
 |x=>e9 h T x
def getAt:Nat→(T:Ty)→T.den→Nat→Nat→Bool→Option TV
 |0,_,_,_,_,_=>none
 |n+1,.st t,v,off,sz,ag=>if av off 0&&av sz t.size&&ag then some (.f (.st t) v) else getAt n t v off sz ag
 |n+1,.pr a b,v,off,sz,ag=>if eg off a.size then getAt n a v.1 off sz ag else getAt n b v.2 (off-a.size) sz ag
 |_+1,.un,_,_,_,_=>none
 |n+1,.ex,v,off,sz,ag=>if av off 0&&av sz 4&&ag then some (.f .ex v) else getAt n exF (xU v) off sz ag
 |n+1,.sm,v,off,sz,ag=>if av off 0&&av sz 11&&ag then some (.f .sm v) else getAt n smF (xT v) off sz ag
 |_+1,.int k,v,off,sz,ag=>if av off 0&&av sz 1&& !ag then some (.f (.int k) v) else none
 |_+1,.bool,v,off,sz,ag=>if av off 0&&av sz 1&& !ag then some (.f .bool v) else none
 |_+1,.str,v,off,sz,ag=>if av off 0&&av sz 1&& !ag then some (.f .str v) else none
 |_+1,.sl t,v,off,sz,ag=>if av off 0&&av sz 1&& !ag then some (.f (.sl t) v) else none
def dU (h:THeap) (x:TV):Nat→(T:Ty)→T.den→Nat→Nat→Option (T.den×Nat)
 |0,_,_,_,_=>none
 |n+1,.st t,v,off,sz=>match (if av off 0&&av sz t.size then tb h (.st t) x else none) with
  |some y=>some y
  |none=>dU h x n t v off sz
 |n+1,.pr a b,v,off,sz=>if eg off a.size then (match dU h x n a v.1 off sz with|some (y,m)=>some ((y,v.2),m)|none=>none) else (match dU h x n b v.2 (off-a.size) sz with|some (y,m)=>some ((v.1,y),m)|none=>none)
 |_+1,.un,_,_,_=>none
 |n+1,.ex,v,off,sz=>match (if av off 0&&av sz 4 then tb h .ex x else none) with
  |some y=>some y
  |none=>(match dU h x n exF (xU v) off sz with|some (y,m)=>some (bG y,m)|none=>none)
 |n+1,.sm,v,off,sz=>match (if av off 0&&av sz 11 then tb h .sm x else none) with
  |some y=>some y
  |none=>(match dU h x n smF (xT v) off sz with|some (y,m)=>some (cz y,m)|none=>none)
 |_+1,.int k,_,off,sz=>if av off 0&&av sz 1 then e9 h (.int k) x else none
 |_+1,.bool,_,off,sz=>if av off 0&&av sz 1 then e9 h .bool x else none
 |_+1,.str,_,off,sz=>if av off 0&&av sz 1 then e9 h .str x else none
 |_+1,.sl t,_,off,sz=>if av off 0&&av sz 1 then e9 h (.sl t) x else none
def qa (h:THeap) (T:Ty):Nat→List TV→Option (List T.den×Nat)
 |0,[]=>some ([],0)
 |0,_::_=>none
 |n+1,l=>match c9 h 40 T l with
  |some (x,m,r)=>(match qa h T n r with|some (xs,m')=>some (x::xs,m|||m')|none=>none)
  |none=>none
def zeroV:Ty→List Value
 |.int k=>[.int k 0]
 |.bool=>[.bool false]
 |.str=>[.string ⟨#[]⟩]
 |.sl _=>[.slice none 0 0]
 |.st t=>zeroV t
 |.pr a b=>zeroV a++zeroV b
 |.un=>[]
 |.ex=>[.int .i64 0,.int .i64 0,.string ⟨#[]⟩,.slice none 0 0]
 |.sm=>[.int .i64 0,.int .i64 0,.string ⟨#[]⟩,.string ⟨#[]⟩,.slice none 0 0,.int .i64 0,.int .i64 0,.string ⟨#[]⟩,.slice none 0 0,.slice none 0 0,.slice none 0 0]
def beqVs:List Value→List Value→Bool
 |[],[]=>true
 |x::xs,y::ys=>beqV x y&&beqVs xs ys
 |_,_=>false
def Ty.flat:Ty→Bool
 |.int _=>true
 |.bool=>true
 |.str=>true
 |.st t=>t.flat
 |.pr a b=>a.flat&&b.flat
 |.un=>true
 |_=>false
def descT:List TypeDesc→Option Ty
 |[]=>some .un
 |.int k::r=>match descT r with|some t=>some (.pr (.int k) t)|none=>none
 |.bool::r=>match descT r with|some t=>some (.pr .bool t)|none=>none
 |.string::r=>match descT r with|some t=>some (.pr .str t)|none=>none
 |_=>none
inductive PV where
 |d (T:Ty)
 |ptr (id off:Nat)
 |row (id:Nat)
 |csl (id sz n:Nat)
 |mp (id:Nat)
 |nil
 |emp
 |agg (l:List PV)
inductive PB where
 |rows (ty:TypeId) (p:Bool) (T:Ty)
 |rowsP (ty:TypeId) (T:Ty)
 |cells (ty:TypeId) (l:List PV)
 |mp (K V:Ty)
 |gone
mutual
def PV.ty:PV→Ty
 |.d T=>T
 |.agg l=>PV.tyL l
 |.ptr _ _=>.un
 |.row _=>.un
 |.csl _ _ _=>.un
 |.mp _=>.un
 |.nil=>.un
 |.emp=>.un
def PV.tyL:List PV→Ty
 |[]=>.un
 |p::r=>spr p.ty (PV.tyL r)
end
def PB.ty:PB→Ty
 |.rows _ _ T=>.sl T
 |.rowsP _ T=>.pr .bool (.sl T)
 |.cells _ l=>PV.tyL l
 |.mp K V=>.sl (.pr K V)
 |.gone=>.un
def PB.tyL:List PB→Ty
 |[]=>.un
 |p::r=>spr p.ty (PB.tyL r)
structure Tm where
 vs:List PV
 bs:List PB
def Tm.ty (t:Tm):Ty:=spr (PV.tyL t.vs) (PB.tyL t.bs)
mutual
def l8 (g:Nat→Nat) (h:THeap):(p:PV)→List TV→Option (p.ty.den×Nat×List TV)
 |.d T,l=>c9 h 40 T l
 |.ptr i o,l=>match l with|.ptr i' o'::r=>if av (g i) i'&&av o o' then some ((),0,r) else none|_=>none
 |.row i,l=>match l with|.row i'::r=>if av (g i) i' then some ((),0,r) else none|_=>none
 |.csl i s n,l=>match l with|.csl i' s' n'::r=>if av (g i) i'&&av s s'&&av n n' then some ((),0,r) else none|_=>none
 |.mp i,l=>match l with|.mp i'::r=>if av (g i) i' then some ((),0,r) else none|_=>none
 |.nil,l=>match l with|.nil::r=>some ((),0,r)|_=>none
 |.emp,l=>match l with|.nil::r=>some ((),0,r)|.emp::r=>some ((),0,r)|_=>none
 |.agg ps,l=>qj g h ps l
def qj (g:Nat→Nat) (h:THeap):(ps:List PV)→List TV→Option ((PV.tyL ps).den×Nat×List TV)
 |[],l=>some ((),0,l)
 |p::r,l=>match l8 g h p l with
  |some (x,m,l')=>(match qj g h r l' with|some (y,m',l'')=>some (mkp p.ty (PV.tyL r) x y,m|||m',l'')|none=>none)
  |none=>none
end
def qi (g:Nat→Nat) (h:THeap):(p:PV)→TV→Option (p.ty.den×Nat)
 |.d T,v=>tb h T v
 |.agg ps,v=>if v.isC then none else (match v.cs with
  |some l=>(match qj g h ps l with|some (x,m,[])=>some (x,m)|_=>none)
  |none=>none)
 |.ptr i o,v=>match l8 g h (.ptr i o) [v] with|some (x,m,_)=>some (x,m)|none=>none
 |.row i,v=>match l8 g h (.row i) [v] with|some (x,m,_)=>some (x,m)|none=>none
 |.csl i s n,v=>match l8 g h (.csl i s n) [v] with|some (x,m,_)=>some (x,m)|none=>none
 |.mp i,v=>match l8 g h (.mp i) [v] with|some (x,m,_)=>some (x,m)|none=>none
 |.nil,v=>match l8 g h .nil [v] with|some (x,m,_)=>some (x,m)|none=>none
 |.emp,v=>match l8 g h .emp [v] with|some (x,m,_)=>some (x,m)|none=>none
def pS (g:Nat→Nat) (h:THeap):(ps:List PV)→List TV→Option ((PV.tyL ps).den×Nat)
 |[],[]=>some ((),0)
 |p::r,v::vs=>match qi g h p v with
  |some (x,m)=>(match pS g h r vs with|some (y,m')=>some (mkp p.ty (PV.tyL r) x y,m|||m')|none=>none)
  |none=>none
 |[],_::_=>none
 |_::_,[]=>none
def tT (g:Nat→Nat) (h:THeap) (i:Nat):(b:PB)→Option (b.ty.den×Nat)
 |.rows ty p T=>match h.get (g i) with
  |some (.rows ty' p' S xs)=>if ty==ty'&&p==p' then (match pe (S:=.sl S) (.sl T) xs with|some x=>some (x,0)|none=>none) else none
  |_=>none
 |.rowsP ty T=>match h.get (g i) with
  |some (.rows ty' p' S xs)=>if ty==ty' then (match pe (S:=.sl S) (.sl T) xs with|some x=>some ((p',x),0)|none=>none) else none
  |_=>none
 |.cells ty ps=>match h.get (g i) with
  |some (.cells ty' l)=>if ty==ty' then (match qj g h ps l with|some (x,m,[])=>some (x,m)|_=>none) else none
  |_=>none
 |.mp K V=>match h.get (g i) with
  |some (.mp K' V' es)=>(match pe (S:=.sl (.pr K' V')) (.sl (.pr K V)) es with|some x=>some (x,0)|none=>none)
  |_=>none
 |.gone=>some ((),0)
def qY (g:Nat→Nat) (h:THeap):Nat→(bs:List PB)→Option ((PB.tyL bs).den×Nat)
 |_,[]=>some ((),0)
 |i,b::r=>match tT g h i b with
  |some (x,m)=>(match qY g h (i+1) r with|some (y,m')=>some (mkp b.ty (PB.tyL r) x y,m|||m')|none=>none)
  |none=>none
mutual
def ly (g:Nat→Nat):(p:PV)→p.ty.den→Option (List TV)
 |.d T,x=>cellsOf 40 T x
 |.ptr i o,_=>some [.ptr (g i) o]
 |.row i,_=>some [.row (g i)]
 |.csl i s n,_=>some [.csl (g i) s n]
 |.mp i,_=>some [.mp (g i)]
 |.nil,_=>some [.nil]
 |.emp,_=>some [.emp]
 |.agg ps,x=>ll g ps x
def ll (g:Nat→Nat):(ps:List PV)→(PV.tyL ps).den→Option (List TV)
 |[],_=>some []
 |p::r,x=>match ly g p (fsp p.ty (PV.tyL r) x) with
  |some a=>(match ll g r (snp p.ty (PV.tyL r) x) with|some b=>some (a++b)|none=>none)
  |none=>none
end
def nS (g:Nat→Nat):(p:PV)→p.ty.den→Option TV
 |.d T,x=>some (.f T x)
 |.ptr i o,_=>some (.ptr (g i) o)
 |.row i,_=>some (.row (g i))
 |.csl i s n,_=>some (.csl (g i) s n)
 |.mp i,_=>some (.mp (g i))
 |.nil,_=>some .nil
 |.emp,_=>some .emp
 |.agg ps,x=>match ll g ps x with|some l=>some (.agg l)|none=>none
def ky (g:Nat→Nat):(ps:List PV)→(PV.tyL ps).den→Option (List TV)
 |[],_=>some []
 |p::r,x=>match nS g p (fsp p.ty (PV.tyL r) x) with
  |some a=>(match ky g r (snp p.ty (PV.tyL r) x) with|some b=>some (a::b)|none=>none)
  |none=>none
def sd (g:Nat→Nat):(b:PB)→b.ty.den→Option (Option ey)
 |.rows ty p T,x=>some (some (.rows ty p T x))
 |.rowsP ty T,x=>some (some (.rows ty x.1 T x.2))
 |.cells ty ps,x=>match ll g ps x with|some l=>some (some (.cells ty l))|none=>none
 |.mp K V,x=>some (some (.mp K V x))
 |.gone,_=>some none
def killB:ey→ey
 |.rows _ p T xs=>.dead p T.size xs.length
 |.cells _ _=>.dead true 0 0
 |.mp _ _ _=>.dead true 0 0
 |.dead p sz n=>.dead p sz n
def kill (h:THeap) (i:Nat):THeap:=match h.get i with
 |some b=>h.set i (some (killB b))
 |none=>h
def jv (g:Nat→Nat):(bs:List PB)→(PB.tyL bs).den→Option (List (Option ey))
 |[],_=>some []
 |b::r,x=>match sd g b (fsp b.ty (PB.tyL r) x) with
  |some c=>(match jv g r (snp b.ty (PB.tyL r) x) with|some l=>some (c::l)|none=>none)
  |none=>none
def qV (g:Nat→Nat):Nat→List (Option ey)→THeap→THeap
 |_,[],h=>h
 |i,some c::r,h=>qV g (i+1) r (h.set (g i) (some c))
 |i,none::r,h=>qV g (i+1) r (kill h (g i))
def xq (g:Nat→Nat) (bs:List PB) (x:(PB.tyL bs).den) (h:THeap):Option THeap:=match jv g bs x with
 |some l=>some (qV g 0 l h)
 |none=>none
def zD {K V:Ty} (k:K.den):List (K.den×V.den)→Option V.den
 |[]=>none
 |(k',v)::r=>if eqT K k k' then some v else zD k r
def ym {K V:Ty} (k:K.den) (v:V.den):List (K.den×V.den)→List (K.den×V.den)
 |[]=>[(k,v)]
 |(k',v')::r=>if eqT K k k' then (k,v)::r else (k',v')::ym k v r
def vR {K V:Ty} (k:K.den) (es:List (K.den×V.den)) (z:V.den):V.den:=match zD k es with|some v=>v|none=>z
def G4 (T:Ty):Nat→Ty
 |0=>.un
 |1=>T
 |n+2=>.pr T (G4 T (n+1))
def kwT:Ty:=.st (G4 .str 22)
def kwV:kwT.den:=([118,97,114],[118,111,108,97,116,105,108,101],[109,117,116,101,120],[114,119,108,111,99,107],[99,111,110,100],[102,117,116,117,114,101],[116,104,114,101,97,100],[105,102],[101,108,115,101],[119,104,105,108,101],[108,111,99,107],[114,101,97,100],[119,114,105,116,101],[116,114,97,110,115,97,99,116,105,111,110],[97,116,111,109,105,99],[119,97,105,116],[110,111,116,105,102,121],[110,111,116,105,102,121,97,108,108],[115,112,97,119,110],[106,111,105,110],[115,101,116],[103,101,116])
@[simp] theorem bm {R:Type} (t f:Option R):bcase true t f=t:=Eq.trans rfl rfl
@[simp] theorem bt {R:Type} (t f:Option R):bcase false t f=f:=Eq.trans rfl rfl
@[simp] theorem chk_t {R:Type} (k:true=true→Option R):chk true k=k rfl:=Eq.trans rfl rfl
theorem bk {R:Type} {b:Bool} (h:b=true) (k:Option R):chk b (fun _=>k)=k:=by cases b with|true=>rfl|false=>cases h
@[simp] theorem bd {α R:Type} (x:α) (k:α→Option R):obind (some x) k=k x:=Eq.trans rfl rfl
@[simp] theorem cX {α R:Type} (x:α) (k:α→Option R):jn (some (.inr x)) k=k x:=Eq.trans rfl rfl
@[simp] theorem jn_l {α R:Type} (r:R) (k:α→Option R):jn (some (.inl r)) k=some r:=Eq.trans rfl rfl
theorem EP {α R:Type} {a b:α} (h:a=b) (r:Option R):same a b r=r:=by unfold same;rw[if_pos h]
theorem E5 {σ R:Type} {f:σ→Option (σ⊕R)} {n:Nat} {x:σ} {r:R} (h:iterN f n x=some r) (hn:n≤18446744073709551616):dT f x=some r:=wa h hn
theorem kP {σ R:Type} {f:σ→Option (σ⊕R)} (n:Nat) (hn:n<18446744073709551616) (st:Nat→σ) {r:R} (h0:∀ i,i<n→f (st i)=some (.inl (st (i+1)))) (h1:f (st n)=some (.inr r)):dT f (st 0)=some r:=by
 have key:∀ k i,i+k=n→iterN f (k+1) (st i)=some r:=by
  intro k;induction k with
  |zero=>intro i hi;have:i=n:=by omega
         subst this;simp only[iterN,h1]
  |succ k ih=>intro i hi;rw[iterN,h0 i (by omega)];exact ih (i+1) (by omega)
 exact E5 (key n 0 (by omega)) (by omega)
@[simp] theorem Ee {a b:Int}:b9 a b=true↔a≤b:=by unfold b9;simp
@[simp] theorem Ed {a b:Int}:bz a b=true↔a<b:=by unfold bz;simp
theorem fB {a b:Int} (h:a≤b):b9 a b=true:=Ee.2 h
theorem gf {a b:Int} (h:a<b):bz a b=true:=Ed.2 h
theorem kr {a b:Int} (h:b<a):b9 a b=false:=by unfold b9;simp;omega
theorem jI {a b:Int} (h:b≤a):bz a b=false:=by unfold bz;simp;omega
theorem G7 {j:Int} {n:Nat} (h0:0≤j) (h1:j<n):aS j n=true:=by unfold aS;rw[fB h0,gf h1];rfl
theorem bi {j n:Nat} (h1:j<n):aS (j:Int) n=true:=G7 (by omega) (by omega)
theorem me {n b:Nat} (h0:n≤1099511627776) (h1:n*b≤1099511627776):aZ n b=true:=by
 unfold aZ;rw[bB h0,bB h1];rfl
theorem Dq {n:Int} (h0: -9223372036854775808≤n) (h1:n≤9223372036854775807):aJ .i64 n=n:=by
 rw[uU];unfold xj;simp only[];rw[fB h0,fB h1];rfl
theorem gy {i n:Nat} (h:i<n) (hn:n≤1099511627776):aJ .i64 ((i:Int)+1)=((i+1:Nat):Int):=by
 rw[Dq (by omega) (by omega)];omega
theorem o7 (a b:Nat):eI (ah a) (ah b)=((max a b:Nat):Int):=by
 unfold eI;by_cases h:a<b
 ·rw[gf (by simp;omega),if_pos rfl];simp;omega
 ·rw[jI (by simp;omega)];simp;omega
theorem mG {T:Ty} (xs:List T.den) (i:Nat):aB xs (i:Int)=xs.getD i T.zero:=by unfold aB;simp
theorem d9 (xs:List (List Int)) (i:Nat):aB (T:=.sl (.int .i64)) xs (i:Int)=xs.getD i []:=mG (T:=.sl (.int .i64)) xs i
theorem Eg (xs:List Int) (i:Nat):aB (T:=.int .i64) xs (i:Int)=xs.getD i 0:=mG (T:=.int .i64) xs i
theorem cw {α:Type} (xs:List α) (i:Nat) (x:α):ch xs (i:Int) x=xs.set i x:=by unfold ch;simp
structure bR where
 pre:Tm
 post:Tm
 m:pre.ty.den→Option post.ty.den
mutual
def bindC:PV→List TV→PT Nat→PT Nat×List TV
 |.d T,l,σ=>(σ,l.drop T.size)
 |.ptr i _,l,σ=>match l with|.ptr a _::r=>(σ.set i (some a),r)|l=>(σ,l.drop 1)
 |.row i,l,σ=>match l with|.row a::r=>(σ.set i (some a),r)|l=>(σ,l.drop 1)
 |.csl i _ _,l,σ=>match l with|.csl a _ _::r=>(σ.set i (some a),r)|l=>(σ,l.drop 1)
 |.mp i,l,σ=>match l with|.mp a::r=>(σ.set i (some a),r)|l=>(σ,l.drop 1)
 |.nil,l,σ=>(σ,l.drop 1)
 |.emp,l,σ=>(σ,l.drop 1)
 |.agg ps,l,σ=>bindCs ps l σ
def bindCs:List PV→List TV→PT Nat→PT Nat×List TV
 |[],l,σ=>(σ,l)
 |p::r,l,σ=>match bindC p l σ with|(σ',l')=>bindCs r l' σ'
end
def Hf (p:PV) (v:TV) (σ:PT Nat):PT Nat:=match p with
 |.d _=>σ
 |p=>match v.cs with|some l=>(bindC p l σ).1|none=>σ
def bindVs:List PV→List TV→PT Nat→PT Nat
 |p::r,v::vs,σ=>bindVs r vs (Hf p v σ)
 |_,_,σ=>σ
def Bu (h:THeap):Nat→List PB→PT Nat→PT Nat
 |_,[],σ=>σ
 |i,b::r,σ=>Bu h (i+1) r (match b with
  |.cells _ ps=>(match σ.get i with
   |some a=>(match h.get a with|some (.cells _ l)=>(bindCs ps l σ).1|_=>σ)
   |none=>σ)
  |_=>σ)
def eh (σ:PT Nat) (i:Nat):Nat:=match σ.get i with|some a=>a|none=>0
def DC (σ:PT Nat):Nat→Nat→Nat→Option Nat
 |0,_,acc=>some acc
 |n+1,i,acc=>match σ.get i with
  |some a=>if aI acc a then none else DC σ n (i+1) (acc|||gZ a)
  |none=>none
def idn:Nat→PT Nat
 |0=>.leaf
 |n+1=>(idn n).set n (some n)
def B6 (σ:PT Nat):Nat→Bool
 |0=>true
 |n+1=>(match σ.get n with|some a=>av a n|none=>false)&&B6 σ n
structure FX (t:Tm) where
 x:t.ty.den
 m:Nat
 σ:PT Nat
 sm:Nat
def tI (np:Nat) (t:Tm) (vs:List TV) (h:THeap):Option (FX t):=
 zL (Bu h 0 t.bs (Bu h 0 t.bs (bindVs t.vs vs (idn np)))) fun σ=>
 match DC σ t.bs.length 0 0 with
 |some sm=>(match pS (eh σ) h t.vs vs with
  |some (x,m)=>(match qY (eh σ) h 0 t.bs with
   |some (y,m')=>if sQ (m|||m') sm&&B6 σ np then some ⟨mkp _ _ x y,m|||m',σ,sm⟩ else none
   |none=>none)
  |none=>none)
 |none=>none
def PT.updI {α:Type} (f:Nat→α→α):Nat→Nat→PT α→PT α
 |_,_,.leaf=>.leaf
 |a,b,.node v l r=>.node (match v with|some x=>some (f b x)|none=>none) (PT.updI f (2*a) (a+b) l) (PT.updI f (2*a) (2*a+b) r)
def c7 (m:Nat) (h:THeap):THeap:=if av m 0 then h else PT.updI (fun i b=>if aI m i then killB b else b) 1 0 h
def isAggC:Operand→Bool
 |.const (.agg _)=>true
 |_=>false
def dB (e:TEnv):Operand→Option TV
 |.tmp t=>e.get t
 |.const v=>cstA v
 |.func g=>some (.clo g [])
 |.global g=>match G g with|some _=>some (.fel kwT [kwV] 0 (Eq.refl true) 0)|none=>none
def ur (e:TEnv):List Operand→Option (List TV)
 |[]=>some []
 |x::xs=>match dB e x with|some y=>(match ur e xs with|some ys=>some (y::ys)|none=>none)|none=>none
def wt (cells:List TV) (e:TEnv):List (Nat×Nat×Operand)→Option (List TV)
 |[]=>some cells
 |(off,sz,x)::r=>match dB e x with
  |some v=>(match v.cs with
   |some cs=>if cs.length==sz&&cZ (off+sz) cells.length then wt (splice cells off cs) e r else none
   |none=>none)
  |none=>none
def AO (l:List TV) (off sz:Nat):Bool→Option TV
 |false=>if av sz 1 then l[off]? else none
 |true=>if cZ (off+sz) l.length then some (.agg ((l.drop off).take sz)) else none
def dg (h:THeap) (id:Nat):Option (Bool×Nat×Nat):=match h.get id with
 |some (.rows _ p T xs)=>some (p,T.size,xs.length)
 |some (.dead p sz n)=>some (p,sz,n)
 |_=>none
def lenOf (h:THeap):TV→Option Nat
 |.f (.sl _) xs=>some (aa xs)
 |.emp=>some 0
 |.nil=>some 0
 |.row id=>match dg h id with|some (_,_,n)=>some n|none=>none
 |.csl _ _ n=>some n
 |_=>none
mutual
def yP (h:THeap):TV→Bool
 |.row id=>(dg h id).isSome
 |.agg l=>gz h l
 |.tup l=>gz h l
 |.clo _ l=>gz h l
 |.f _ _=>true
 |.fel _ _ _ _ _=>true
 |.pel _ _ _ _=>true
 |.ptr _ _=>true
 |.csl _ _ _=>true
 |.emp=>true
 |.nil=>true
 |.mp _=>true
 |.undef=>true
 |.np=>true
 |.anyb=>true
def gz (h:THeap):List TV→Bool
 |[]=>true
 |x::r=>yP h x&&gz h r
end
mutual
def yQ (n:Nat):TV→Bool
 |.row id=>eg id n
 |.pel id _ _ _=>eg id n
 |.ptr id _=>eg id n
 |.csl id _ _=>eg id n
 |.mp id=>eg id n
 |.agg l=>mN n l
 |.tup l=>mN n l
 |.clo _ l=>mN n l
 |.f _ _=>true
 |.fel _ _ _ _ _=>true
 |.emp=>true
 |.nil=>true
 |.undef=>true
 |.np=>true
 |.anyb=>true
def mN (n:Nat):List TV→Bool
 |[]=>true
 |x::r=>yQ n x&&mN n r
end
def sF (t:Tm) (x:t.ty.den):Option (List TV×THeap):=
 match ky (fun i=>i) t.vs (fsp _ _ x) with
 |some vs=>(match xq (fun i=>i) t.bs (snp _ _ x) PT.leaf with
  |some h=>if gz h vs&&mN t.bs.length vs&&PT.all (fun _ b=>match b with|.cells _ l=>gz h l&&mN t.bs.length l|_=>true) 1 0 h then some (vs,h) else none
  |none=>none)
 |none=>none
abbrev KO (R:Type):=TV→Nat→Nat→THeap→Nat→Option R
def resT:List TV→TV
 |[x]=>x
 |l=>.tup l
def noGone:List PB→Bool
 |[]=>true
 |.gone::_=>false
 |_::r=>noGone r
def allRows:List PB→Bool
 |[]=>true
 |.rows _ _ _::r=>allRows r
 |_::_=>false
def nj (h h2:THeap) (g:Nat→Nat):Nat→Bool
 |0=>true
 |n+1=>(match dg h (g n) with
  |some (p,s,k)=>(match dg h2 (g n) with|some (p',s',k')=>(p==p')&&av s s'&&av k k'|none=>false)
  |none=>true)&&nj h h2 g n
def Ca {R:Type} (con:FuncId→Option bR) (f:FuncId) (l:List TV) (h:THeap) (nx:Nat) (K:KO R):Option R:=
 match con f with
 |some c=>(match tI 0 c.pre l h with
  |some ⟨x,m,σ,sm⟩=>(match sF c.pre x with
   |some _=>obind (c.m x) fun y=>(match sF c.post y with
    |some _=>if cZ c.pre.bs.length c.post.bs.length&&noGone c.pre.bs then
      let np:=c.pre.bs.length
      let nn:=c.post.bs.length-np
      let g:=fun i=>if eg i np then eh σ i else nx+(i-np)
      (match ky g c.post.vs (fsp _ _ y) with
      |some rs=>if !(av m 0)&&av c.post.bs.length 0&&(PV.tyL c.post.vs).flat then K (resT rs) m 0 h nx else
       (match xq g c.post.bs (snp _ _ y) (c7 m h) with
       |some h2=>chk (nj h h2 g np) fun _=>K (resT rs) (sm|||m) (sm|||m|||(((1<<<nn)-1)<<<nx)) h2 (nx+nn)
       |none=>none)
      |none=>none) else if av c.post.bs.length 0&&allRows c.pre.bs then
      let np:=c.pre.bs.length
      let g:=fun i=>if eg i np then eh σ i else nx+(i-np)
      (match ky g c.post.vs (fsp _ _ y) with
      |some rs=>(match xq g c.pre.bs (snp _ _ x) (c7 m h) with
       |some h2=>K (resT rs) (sm|||m) m h2 nx
       |none=>none)
      |none=>none) else none
    |none=>none)
   |none=>none)
  |none=>none)
 |none=>none
def Gi {R:Type} (op:BinOp) (x y:TV) (q:TV→Option R):Option R:=
 match x,y with
 |.f (.int k) a,.f (.int k') b=>if k==k' then
   (match op with
   |.add=>q (.f (.int k) (aJ k (a+b)))
   |.sub=>q (.f (.int k) (aJ k (a-b)))
   |.mul=>q (.f (.int k) (aJ k (a*b)))
   |.rem=>chk (!decide ((b:Int)=0)) fun _=>q (.f (.int k) (qA a b))
   |.quo=>chk (!decide ((b:Int)=0)) fun _=>q (.f (.int k) (aJ k (Int.tdiv a b)))
   |.eql=>q (.f .bool (decide ((a:Int)=b)))
   |.neq=>q (.f .bool (!decide ((a:Int)=b)))
   |.lss=>q (.f .bool (bz a b))
   |.leq=>q (.f .bool (b9 a b))
   |.gtr=>q (.f .bool (bz b a))
   |.geq=>q (.f .bool (b9 b a))
   |_=>none)
  else none
 |.f .str a,.f .str b=>match op with
   |.eql=>q (.f .bool (decide ((a:List UInt8)=b)))
   |.neq=>q (.f .bool (!decide ((a:List UInt8)=b)))
   |_=>none
 |_,_=>none
def keyT:Bool→Ty→Bool
 |false,.int _=>true
 |true,.str=>true
 |_,_=>false
abbrev itK:Ty:=.st (.pr .str (.int .i64))
def isIt:Ty→Bool
 |.st (.pr .str (.int .i64))=>true
 |_=>false
def Bb (K:Ty):Bool:= !isIt K
def itS:List ((List UInt8×Int)×Unit)→List UInt8
 |[]=>[]
 |e::_=>e.1.1
def itP:List ((List UInt8×Int)×Unit)→Nat
 |[]=>0
 |e::_=>aM e.1.2
def itE:(K V:Ty)→List (K.den×V.den)→Option (List UInt8×Nat)
 |.st (.pr .str (.int .i64)),.un,es=>some (itS es,itP es)
 |_,_,_=>none
def mpE:(K V:Ty)→List (K.den×V.den)→Bool
 |.un,.un,[]=>true
 |_,_,_=>false
def pW (T:Ty):List TV→Option (List T.den)
 |[]=>some []
 |.f S v::r=>match pe (S:=S) T v with
  |some x=>(match pW T r with|some l=>some (x::l)|none=>none)
  |none=>none
 |_::_=>none
def arrT:List TV→Option ((T:Ty)×List T.den)
 |.f T v::r=>match pW T (.f T v::r) with|some l=>some ⟨T,l⟩|none=>none
 |_=>none
def G9 (n sz:Nat) (v:TV):Bool→Option ((T:Ty)×List T.den)
 |true=>none
 |false=>if av sz 1&& !v.isC then (match v.cs with|some l=>if av l.length n then arrT l else none|none=>none) else none
def arrB (n sz off:Nat):Option ey→Option ((T:Ty)×List T.den)
 |some (.cells _ l)=>if av sz 1&&av off 0&&av l.length n then arrT l else none
 |_=>none
def crowN:Ty→Nat
 |.pr .un t=>crowN t+1
 |_=>0
def crowM:Option Ty→Option Nat
 |some (.pr .un t)=>some (crowN t)
 |_=>none
def FK {R:Type} (ty:TypeId) (sz bytes:Nat) (b y:TV) (h:THeap) (nx:Nat) (K:KO R):Option R:=match y with
 |.csl id2 sz2 m=>(match h.get id2 with
  |some (.cells _ l2)=>if av sz2 sz&&av l2.length (m*sz)&& !(av m 0) then (match b with
   |.csl id sz1 n=>(match h.get id with
    |some (.cells ty1 l)=>if av sz1 sz&&ty1==ty&&av l.length (n*sz)&& !(av id id2) then
      chk (aZ (n+m) bytes) fun _=>K (.csl nx sz (n+m)) (gZ id|||gZ id2) (gZ id|||gZ nx) ((h.set id (some (.dead true 0 0))).set nx (some (.cells ty (l++l2)))) (nx+1) else none
    |_=>none)
   |.nil=>chk (aZ m bytes) fun _=>K (.csl nx sz m) (gZ id2) (0|||gZ nx) ((c7 0 h).set nx (some (.cells ty l2))) (nx+1)
   |_=>none) else none
  |_=>none)
 |_=>none
def cN {R:Type} (con:FuncId→Option bR) (bH:TypeId→Option Ty) (o:SI) (e:TEnv) (h:THeap) (nx:Nat) (K:KO R):Option R:=
 match o with
 |.call f args=>match ur e args with|some l=>Ca con f l h nx K|none=>none
 |.callv x args=>match dB e x,ur e args with
  |some (.clo f cap),some l=>Ca con f (l++cap) h nx K
  |_,_=>none
 |.op s=>match s with
  |.mksl ty sz bytes z l c=>match crowM (bH ty) with
   |some n=>(match csts z,dB e l,dB e c with
    |some zc,some (.f (.int _) a),some (.f (.int _) b)=>chk (b9 0 a&&b9 a b&&aZ (aM b) bytes&&decide ((a:Int)=ah n)) fun _=>K (.csl nx sz n) 0 (0|||gZ nx) ((c7 0 h).set nx (some (.cells ty (aF n zc).flatten))) (nx+1)
    |_,_,_=>none)
   |none=>match bH ty,dB e l,dB e c with
   |some T,some (.f (.int _) a),some (.f (.int _) b)=>if av sz T.size&&beqVs z (zeroV T) then
     chk (b9 0 a&&b9 a b&&aZ (aM b) bytes) fun _=>K (.row nx) 0 (gZ nx) (h.set nx (some (.rows ty false T (aF (aM a) T.zero)))) (nx+1) else none
   |_,_,_=>none
  |.bsl ty sz len z parts=>match crowM (bH ty) with
   |some _=>(match csts z with
    |some zc=>(match wt ((aF len zc).flatten) e parts with
     |some cs=>if av len 0 then none else K (.csl nx sz len) 0 (0|||gZ nx) ((c7 0 h).set nx (some (.cells ty cs))) (nx+1)
     |none=>none)
    |none=>none)
   |none=>match bH ty,csts z with
   |some T,some zc=>if av sz T.size then (match wt ((aF len zc).flatten) e parts with
    |some cs=>(match qa h T len cs with
     |some (xs,m)=>K (.row nx) m (m|||gZ nx) ((c7 m h).set nx (some (.rows ty (av len 0) T xs))) (nx+1)
     |none=>none)
    |none=>none) else none
   |_,_=>none
  |.app ty sz bytes s x=>match crowM (bH ty) with
   |some _=>(match dB e s,dB e x with
    |some b,some y=>FK ty sz bytes b y h nx K
    |_,_=>none)
   |none=>match bH ty,dB e s,dB e x with
   |some T,some b,some y=>if av sz T.size then (match tb h (.sl T) y with
    |some (ys,m)=>(match b with
     |.row id=>(match h.get id with
      |some (.rows ty' p S xs)=>(match pe (S:=.sl S) (.sl T) xs with
       |some xs=>if ty'==ty&& !(aI m id) then
         chk (aZ (aa xs+aa ys) bytes) fun _=>K (.row nx) (gZ id|||m) (gZ id|||gZ nx) ((h.set id (some (.dead p sz (aa xs)))).set nx (some (.rows ty p T (xs++ys)))) (nx+1)
        else none
       |none=>none)
      |_=>none)
     |.emp=>chk (aZ (aa ys) bytes) fun _=>K (.row nx) m (gZ nx) (h.set nx (some (.rows ty true T ys))) (nx+1)
     |.nil=>chk (aZ (aa ys) bytes) fun _=>K (.row nx) m (gZ nx) (h.set nx (some (.rows ty true T ys))) (nx+1)
     |_=>none)
    |none=>none) else none
   |_,_,_=>none
  |.copy sz d x=>match dB e d,dB e x with
   |some (.row id),some y=>(match h.get id with
    |some (.rows ty p T xs)=>if av sz T.size then (match tb h (.sl T) y with
     |some (ys,m)=>if !(aI m id)&& !p then
       K (.f (.int .i64) (ah (eN (aa ys) (aa xs)))) (gZ id|||m) (gZ id) (h.set id (some (.rows ty p T (Aa xs ys)))) nx else none
     |none=>none) else none
    |_=>none)
   |_,_=>none
  |.mv x=>match dB e x with|some v=>K v 0 0 h nx|none=>none
  |.pick c a b=>match dB e c with
   |some (.f .bool t)=>bcase t (match dB e a with|some v=>K v 0 0 h nx|none=>none) (match dB e b with|some v=>K v 0 0 h nx|none=>none)
   |_=>none
  |.alloc ty z=>match csts z with
   |some l=>K (.ptr nx 0) 0 (gZ nx) (h.set nx (some (.cells ty l))) (nx+1)
   |none=>none
  |.box ty x=>match dB e x with
   |some v=>(match v.cs with|some l=>K (.ptr nx 0) 0 (gZ nx) (h.set nx (some (.cells ty l))) (nx+1)|none=>none)
   |none=>none
  |.build z parts=>match csts z with
   |some l=>(match wt l e parts with|some cs=>K (.agg cs) 0 0 h nx|none=>none)
   |none=>none
  |.load sz ag x=>match dB e x with
   |some (.ptr id off)=>(match h.get id with
    |some (.cells _ l)=>(match AO l off sz ag with|some v=>K v (gZ id) 0 h nx|none=>none)
    |_=>none)
   |some (.pel id sz' j off)=>(match h.get id with
    |some (.rows _ _ T xs)=>if av sz' T.size then chk (aS j xs.length) fun _=>(match getAt 40 T (aB xs j) off sz ag with|some v=>K v (gZ id) 0 h nx|none=>none) else none
    |some (.cells _ l)=>(match ag with
     |true=>none
     |false=>if av sz 1&&av sz' 1&&av off 0 then (match arrT l with
      |some ⟨T,xs⟩=>chk (aS j l.length) fun _=>K (.f T (aB xs j)) (gZ id) 0 h nx
      |none=>none) else none)
    |_=>none)
   |some (.fel T xs j _ off)=>(match getAt 40 T (aB xs j) off sz ag with|some v=>K v 0 0 h nx|none=>none)
   |_=>none
  |.store sz x v=>match dB e x,dB e v with
   |some (.ptr id off),some y=>(match h.get id with
    |some (.cells ty l)=>(match y.cs with
     |some cs=>if cs.length==sz&&cZ (off+sz) l.length then K .undef (gZ id) (gZ id) (h.set id (some (.cells ty (splice l off cs)))) nx else none
     |none=>none)
    |_=>none)
   |some (.pel id sz' j off),some y=>(match h.get id with
    |some (.rows ty p T xs)=>if av sz' T.size then chk (aS j xs.length) fun _=>(match dU h y 40 T (aB xs j) off sz with
     |some (z,m)=>if aI m id then none else K .undef (m|||gZ id) (m|||gZ id) ((c7 m h).set id (some (.rows ty p T (ch xs j z)))) nx
     |none=>none) else none
    |_=>none)
   |_,_=>none
  |.nilc x=>match dB e x with
   |some (.ptr id off)=>K (.ptr id off) 0 0 h nx
   |some (.pel id sz j off)=>K (.pel id sz j off) 0 0 h nx
   |some (.fel T xs j hj off)=>K (.fel T xs j hj off) 0 0 h nx
   |some (.clo g cap)=>K (.clo g cap) 0 0 h nx
   |_=>none
  |.bin op x y=>match dB e x,dB e y with
   |some u,some v=>Gi op u v fun r=>K r 0 0 h nx
   |_,_=>none
  |.eqs neg ds x y=>match descT ds,dB e x,dB e y with
   |some T,some u,some v=>if u.isC||v.isC||isAggC x||isAggC y then none else (match u.cs,v.cs with
    |some lu,some lv=>(match c9 PT.leaf 40 T lu,c9 PT.leaf 40 T lv with
     |some (a,_,[]),some (b,_,[])=>K (.f .bool (eqT T a b !=neg)) 0 0 h nx
     |_,_=>none)
    |_,_=>none)
   |_,_,_=>none
  |.isnil neg x=>match dB e x with
   |some .nil=>K (.f .bool (!neg)) 0 0 h nx
   |some .emp=>K .anyb 0 0 h nx
   |some (.f (.sl _) xs)=>bcase (av (aa xs) 0) (K .anyb 0 0 h nx) (K (.f .bool neg) 0 0 h nx)
   |some (.row id)=>(match h.get id with
    |some (.rows _ false _ _)=>K (.f .bool neg) 0 0 h nx
    |_=>none)
   |_=>none
  |.eqb neg x y=>match dB e x,dB e y with
   |some (.f .bool a),some (.f .bool b)=>K (.f .bool ((a==b) !=neg)) 0 0 h nx
   |_,_=>none
  |.not x=>match dB e x with|some (.f .bool b)=>K (.f .bool (!b)) 0 0 h nx|_=>none
  |.conv k x=>match dB e x with|some (.f (.int _) n)=>K (.f (.int k) (aJ k n)) 0 0 h nx|_=>none
  |.slc sz x lo hi mx=>match dB e x with
   |some v=>(match lo,hi,mx with
    |none,some (.const (.int _ 0)),some (.const (.int _ 0))=>if (lenOf h v).isSome then K .emp 0 0 h nx else none
    |none,some b,none=>(match v,dB e b with
     |.f (.sl T) xs,some (.f (.int _) j)=>if av sz T.size then chk (b9 0 j&&b9 j (aa xs)) fun _=>K (.f (.sl T) (dD (aM j) xs)) 0 0 h nx else none
     |.row id,some (.f (.int _) j)=>(match h.get id with
      |some (.rows ty p T xs)=>if av sz T.size then
        chk (b9 0 j&&bz j (aa xs)) fun _=>K (.row nx) (gZ id) (gZ id|||gZ nx) ((h.set id (some (.dead p sz (aa xs)))).set nx (some (.rows ty false T (dD (aM j) xs)))) (nx+1)
       else none
      |_=>none)
     |_,_=>none)
    |some b,none,none=>(match v,dB e b with
     |.f (.sl T) xs,some (.f (.int _) j)=>if av sz T.size then chk (b9 0 j&&b9 j (aa xs)) fun _=>K (.f (.sl T) (List.drop (aM j) xs)) 0 0 h nx else none
     |_,_=>none)
    |_,_,_=>none)
   |none=>none
  |.fad off x=>match dB e x with
   |some (.ptr id o)=>K (.ptr id (o+off)) 0 0 h nx
   |some (.pel id sz j o)=>K (.pel id sz j (o+off)) 0 0 h nx
   |some (.fel T xs j hj o)=>K (.fel T xs j hj (o+off)) 0 0 h nx
   |_=>none
  |.fld off sz ag x=>match dB e x with
   |some (.agg l)=>(match AO l off sz ag with|some v=>K v 0 0 h nx|none=>none)
   |some (.f T v)=>if T.one then none else (match getAt 40 T v off sz ag with|some v=>K v 0 0 h nx|none=>none)
   |_=>none
  |.iad sz x i=>match dB e x,dB e i with
   |some (.row id),some (.f (.int _) j)=>(match h.get id with
    |some (.rows _ _ T xs)=>if av sz T.size then chk (aS j xs.length) fun _=>K (.pel id sz j 0) 0 0 h nx else none
    |_=>none)
   |some (.f (.sl T) xs),some (.f (.int _) j)=>if av sz T.size then chk (aS j (aa xs)) fun hj=>K (.fel T xs j hj 0) 0 0 h nx else none
   |some (.csl id sz' n),some (.f (.int _) j)=>if av sz' sz then chk (b9 0 j&&bz j n) fun _=>K (.ptr id (aM j*sz)) 0 0 h nx else none
   |_,_=>none
  |.iada n sz x i=>match dB e x,dB e i with
   |some (.ptr id off),some (.f (.int _) j)=>(match arrB n sz off (h.get id) with
    |some _=>chk (b9 0 j&&bz j n) fun _=>K (.pel id sz j off) 0 0 h nx
    |none=>chk (b9 0 j&&bz j n) fun _=>K (.ptr id (off+aM j*sz)) 0 0 h nx)
   |_,_=>none
  |.idx n sz ag x i=>match dB e x,dB e i with
   |some v,some (.f (.int _) j)=>(match G9 n sz v ag with
    |some ⟨T,xs⟩=>chk (b9 0 j&&bz j n) fun _=>K (.f T (aB xs j)) 0 0 h nx
    |none=>(match v with
     |.agg l=>chk (b9 0 j&&bz j n) fun _=>(match AO l (aM j*sz) sz ag with|some v=>K v 0 0 h nx|none=>none)
     |.f T v=>if T.one then none else chk (b9 0 j&&bz j n) fun _=>(match getAt 40 T v (aM j*sz) sz ag with|some v=>K v 0 0 h nx|none=>none)
     |_=>none))
   |_,_=>none
  |.ext x i=>match dB e x with|some (.tup l)=>(match l[i]? with|some v=>K v 0 0 h nx|none=>none)|_=>none
  |.len x=>match dB e x with
   |some v=>(match lenOf h v with|some n=>K (.f (.int .i64) (ah n)) 0 0 h nx|none=>none)
   |none=>none
  |.lens x=>match dB e x with
   |some (.f .str s)=>K (.f (.int .i64) (ah (aa s))) 0 0 h nx
   |_=>none
  |.max x y=>match dB e x,dB e y with
   |some (.f (.int k) a),some (.f (.int k') b)=>if k==k' then K (.f (.int k) (eI a b)) 0 0 h nx else none
   |_,_=>none
  |.min x y=>match dB e x,dB e y with
   |some (.f (.int k) a),some (.f (.int k') b)=>if k==k' then K (.f (.int k) (uJ a b)) 0 0 h nx else none
   |_,_=>none
  |.sidx x i=>match dB e x,dB e i with
   |some (.f .str s),some (.f (.int _) j)=>chk (aS j (aa s)) fun _=>K (.f (.int .u8) (rh s j)) 0 0 h nx
   |_,_=>none
  |.rng x=>match dB e x with
   |some (.f .str s)=>K (.ptr nx 0) 0 (0|||gZ nx) ((c7 0 h).set nx (some (.mp itK .un [((s,0),())]))) (nx+1)
   |_=>none
  |.nxt x=>match dB e x with
   |some (.ptr id 0)=>(match h.get id with
    |some (.mp K' V es)=>(match itE K' V es with
     |some (s,p)=>bcase (eg p (aa s)) (chk (bz (rh s (ah p)) 128) fun _=>K (.tup [.f .bool true,.f (.int .i64) (ah p),.f (.int .i32) (rh s (ah p))]) (gZ id) (0|||gZ id) ((c7 0 h).set id (some (.mp itK .un [((s,ah (p+1)),())]))) nx)
       (K (.tup [.f .bool false]) (gZ id) (0|||gZ id) ((c7 0 h).set id (some (.mp itK .un [((s,ah p),())]))) nx)
     |none=>none)
    |_=>none)
   |_=>none
  |.mkm=>K (.mp nx) 0 (0|||gZ nx) ((c7 0 h).set nx (some (.mp .un .un []))) (nx+1)
  |.lku str z x k=>match dB e x,dB e k with
   |some (.mp id),some (.f KT kv)=>(match h.get id with
    |some (.mp K' V es)=>if keyT str KT&&Bb K' then (match mpE K' V es with
     |true=>(match cst z with|some v=>K v (gZ id) 0 h nx|none=>none)
     |false=>(match pe (S:=KT) K' kv,cst z with
      |some kv',some (.f Z zv)=>(match pe (S:=Z) V zv with
       |some zv'=>K (.f V (vR kv' es zv')) (gZ id) 0 h nx
       |none=>none)
      |_,_=>none)) else none
    |_=>none)
   |_,_=>none
  |.mup str x k v=>match dB e x,dB e k,dB e v with
   |some (.mp id),some (.f KT kv),some (.f VT vv)=>(match h.get id with
    |some (.mp K' V es)=>if (keyT str KT&&VT.one)&&Bb K' then (match mpE K' V es with
     |true=>K .undef (gZ id) (0|||gZ id) ((c7 0 h).set id (some (.mp KT VT [(kv,vv)]))) nx
     |false=>(match pe (S:=KT) K' kv,pe (S:=VT) V vv with
      |some kv',some vv'=>K .undef (gZ id) (0|||gZ id) ((c7 0 h).set id (some (.mp K' V (ym kv' vv' es)))) nx
      |_,_=>none)) else none
    |_=>none)
   |_,_,_=>none
  |.lenm x=>match dB e x with
   |some (.mp id)=>(match h.get id with
    |some (.mp K' _ es)=>if Bb K' then K (.f (.int .i64) (ah es.length)) (gZ id) 0 h nx else none
    |_=>none)
   |_=>none
  |.mkf f caps=>match ur e caps with|some l=>K (.clo f l) 0 0 h nx|none=>none
  |_=>none
def Ds {R:Type} (e:TEnv) (g:Option (Nat×Bool)) (K:Bool→TEnv→Option R):Option R:=match g with
 |none=>K true e
 |some (t,want)=>match e.get t with
  |some (.f .bool b)=>(match want with
   |true=>bcase b (K true (e.set t (some (.f .bool true)))) (K false (e.set t (some (.f .bool false))))
   |false=>bcase b (K false (e.set t (some (.f .bool true)))) (K true (e.set t (some (.f .bool false)))))
  |some .undef=>K false e
  |_=>none
def tj (e:TEnv) (d:Option Nat) (v:TV):TEnv:=match d with
 |none=>e
 |some d=>e.set d (some v)
structure TS where
 e:TEnv
 h:THeap
 nx:Nat
def w9 {R:Type} (con:FuncId→Option bR) (bH:TypeId→Option Ty):List mI→TS→List EH→(TS→List EH→Option R)→Option R
 |[],s,fs,K=>K s fs.reverse
 |o::r,s,fs,K=>Ds s.e o.guard fun run e=>match run with
  |true=>cN con bH o.op e s.h s.nx fun v rd wr h nx=>if yP h v then w9 con bH r ⟨tj e o.dst v,h,nx⟩ (⟨rd,wr⟩::fs) K else none
  |false=>w9 con bH r ⟨tj e o.dst .undef,s.h,s.nx⟩ (⟨0,0⟩::fs) K
inductive EK where
 |nil (k:Nat) (ty:TypeId) (T:Ty)
 |cel (k:Nat) (off:Nat) (ty:TypeId) (T:Ty)
 |mpt (k:Nat) (K V:Ty)
 |pk (k:Nat) (off:Nat) (T:Ty)
 |ren (k:Nat) (off:Nat)
mutual
def wX (id sz n:Nat):TV→TV
 |.csl i s m=>if av i id&&av s sz&&av m n then .row id else .csl i s m
 |.agg l=>.agg (rU id sz n l)
 |.tup l=>.tup (rU id sz n l)
 |.clo g l=>.clo g (rU id sz n l)
 |.f T v=>.f T v
 |.fel T xs j h off=>.fel T xs j h off
 |.pel a b c d=>.pel a b c d
 |.ptr a b=>.ptr a b
 |.row a=>.row a
 |.emp=>.emp
 |.nil=>.nil
 |.mp a=>.mp a
 |.undef=>.undef
 |.np=>.np
 |.anyb=>.anyb
def rU (id sz n:Nat):List TV→List TV
 |[]=>[]
 |x::r=>wX id sz n x::rU id sz n r
end
def Co (id sz n:Nat):ey→ey
 |.cells ty l=>.cells ty (rU id sz n l)
 |.rows ty p T xs=>.rows ty p T xs
 |.dead p s m=>.dead p s m
 |.mp K V es=>.mp K V es
def He (s:TS) (k off:Nat):Option (Nat×Nat×Nat):=match s.e.get k with
 |some (.csl id sz n)=>some (id,sz,n)
 |some (.agg l)=>(match l[off]? with|some (.csl id sz n)=>some (id,sz,n)|_=>none)
 |some (.ptr a o)=>(match s.h.get a with
  |some (.cells _ l)=>(match l[o+off]? with|some (.csl id sz n)=>some (id,sz,n)|_=>none)
  |_=>none)
 |_=>none
def pkS (s:TS) (T:Ty) (id sz n:Nat):Option TS:=match s.h.get id with
 |some (.cells ty l)=>if av sz T.size then (match qa s.h T n l with
  |some (xs,m)=>if aI m id then none else some ⟨PT.updI (fun _ v=>wX id sz n v) 1 0 s.e,(PT.updI (fun _ b=>Co id sz n b) 1 0 (c7 m s.h)).set id (some (.rows ty false T xs)),s.nx⟩
  |none=>none) else none
 |_=>none
def isNl:TV→Bool
 |.nil=>true
 |.emp=>true
 |_=>false
def ptrOf:Option TV→Option (Nat×Nat)
 |some (.ptr id o)=>some (id,o)
 |some (.csl id _ _)=>some (id,0)
 |_=>none
def yK (s:TS):EK→Option TS
 |.nil k ty T=>match s.e.get k with
  |some v=>if isNl v then some ⟨s.e.set k (some (.row s.nx)),s.h.set s.nx (some (.rows ty true T [])),s.nx+1⟩ else some s
  |none=>none
 |.cel k off ty T=>match ptrOf (s.e.get k) with
  |some (id,o)=>(match s.h.get id with
   |some (.cells cty l)=>(match l[o+off]? with
    |some v=>if isNl v then some ⟨s.e,(s.h.set s.nx (some (.rows ty true T []))).set id (some (.cells cty (splice l (o+off) [.row s.nx]))),s.nx+1⟩ else some s
    |none=>none)
   |_=>none)
  |_=>none
 |.mpt k K V=>match s.e.get k with
  |some (.mp id)=>(match s.h.get id with
   |some (.mp K' V' es)=>(match mpE K' V' es&&Bb K with
    |true=>some ⟨s.e,s.h.set id (some (.mp K V [])),s.nx⟩
    |false=>some s)
   |_=>none)
  |_=>none
 |.pk k off T=>match He s k off with
  |some (id,sz,n)=>pkS s T id sz n
  |none=>none
 |.ren k off=>match s.e.get k with
  |some (.ptr b o)=>(match s.h.get b with
   |some (.cells cty l)=>(match l[o+off]? with
    |some (.row id)=>(match s.h.get id with
     |some (.rows ty p T xs)=>some ⟨s.e,((s.h.set id (some (.dead p T.size xs.length))).set s.nx (some (.rows ty p T xs))).set b (some (.cells cty (splice l (o+off) [.row s.nx]))),s.nx+1⟩
     |_=>none)
    |_=>none)
   |_=>none)
  |some (.row id)=>(match s.h.get id with
   |some (.rows ty p T xs)=>some ⟨s.e.set k (some (.row s.nx)),(s.h.set id (some (.dead p T.size xs.length))).set s.nx (some (.rows ty p T xs)),s.nx+1⟩
   |_=>none)
  |_=>none
def CU (s:TS):List EK→Option TS
 |[]=>some s
 |a::r=>match yK s a with|some s'=>CU s' r|none=>none
structure Dn where
 keep:List Nat
 ks:List Nat
 t:Tm
 pre:List EK
abbrev Dn.D (A:Dn):Type:=A.t.ty.den
mutual
def idFree:TV→Bool
 |.f _ _=>true
 |.fel _ _ _ _ _=>true
 |.emp=>true
 |.nil=>true
 |.undef=>true
 |.np=>true
 |.anyb=>true
 |.agg l=>idFrees l
 |.tup l=>idFrees l
 |.pel _ _ _ _=>false
 |.ptr _ _=>false
 |.csl _ _ _=>false
 |.row _=>false
 |.mp _=>false
 |.clo _ _=>false
def idFrees:List TV→Bool
 |[]=>true
 |x::r=>idFree x&&idFrees r
end
def sC (am:Nat) (e:TEnv):List Nat→TEnv
 |[]=>PT.leaf
 |k::r=>match e.get k with|some v=>if idFree v&& !(aI am k) then (sC am e r).set k (some v) else sC am e r|none=>sC am e r
def jf (e:TEnv):List Nat→Option (List TV)
 |[]=>some []
 |k::r=>match e.get k with|some v=>(match jf e r with|some l=>some (v::l)|none=>none)|none=>none
def Cq (e:TEnv):List Nat→List TV→TEnv
 |k::r,v::l=>(Cq e r l).set k (some v)
 |_,_=>e
def uY (am:Nat) (e0 e:TEnv):List Nat→Bool
 |[]=>true
 |k::r=>(match e0.get k with
  |some v=> !(idFree v)||aI am k||(match e.get k with|some _=>true|none=>false)
  |none=>true)&&uY am e0 e r
def xg (np:Nat) (A:Dn) (am:Nat) (s0 s:TS):Option A.D:=if cZ np A.t.bs.length&&uY am s0.e s.e A.keep then (match CU s A.pre with
 |some s=>(match jf s.e A.ks with
  |some vs=>(match tI np A.t vs s.h with
   |some ⟨x,_,_,_⟩=>some x
   |none=>none)
  |none=>none)
 |none=>none) else none
def uC (A:Dn) (am:Nat) (s:TS) (x:A.D):Option TS:=match sF A.t x with
 |some (vs,h)=>if av vs.length A.ks.length then some ⟨Cq (sC am s.e A.keep) A.ks vs,h,A.t.bs.length⟩ else none
 |none=>none
inductive TC where
 |skip
 |reg (ops:List mI) (prs:List (Nat×Nat))
 |seq (a b:TC)
 |jseq (A:Dn) (a b:TC)
 |cond (c:Nat) (a b:TC)
 |block (id:Nat) (b:TC)
 |jblock (A:Dn) (id:Nat) (b:TC)
 |loop (A:Dn) (b:TC)
 |exit (id:Nat)
 |ret
 |defer (f:FuncId) (caps:List Operand) (t:Nat)
 |adj (l:List EK) (c:TC)
 |split (k off lo n:Nat) (c:TC)
 |unl (n:Nat) (b:TC)
 |bad
def asgO:List mI→Nat→Nat
 |[],acc=>acc
 |o::r,acc=>asgO r (match o.dst with|some d=>acc|||gZ d|none=>acc)
def ksB:List Nat→Nat→Nat
 |[],acc=>acc
 |k::r,acc=>ksB r (acc|||gZ k)
def adjB:List EK→Nat→Nat
 |[],acc=>acc
 |.nil k _ _::r,acc=>adjB r (acc|||gZ k)
 |.cel _ _ _ _::r,acc=>adjB r acc
 |.mpt _ _ _::r,acc=>adjB r acc
 |.pk _ _ _::r,acc=>adjB r acc
 |.ren k _::r,acc=>adjB r (acc|||gZ k)
def TC.asg:TC→Nat→Nat
 |.reg ops _,acc=>asgO ops acc
 |.seq a b,acc=>b.asg (a.asg acc)
 |.jseq A a b,acc=>b.asg (a.asg (ksB A.ks acc))
 |.cond _ a b,acc=>b.asg (a.asg acc)
 |.block _ b,acc=>b.asg acc
 |.jblock A _ b,acc=>b.asg (ksB A.ks acc)
 |.loop A b,acc=>b.asg (ksB A.ks acc)
 |.defer _ _ t,acc=>acc|||gZ t
 |.adj l c,acc=>c.asg (adjB l acc)
 |.split _ _ _ _ c,acc=>c.asg acc
 |.unl _ b,acc=>b.asg acc
 |.skip,acc=>acc
 |.exit _,acc=>acc
 |.ret,acc=>acc
 |.bad,acc=>acc
inductive EG where
 |j (A:Dn)
 |a (l:List EK)
 |s (k off lo n:Nat)
 |u (n:Nat)
def vo (H:PT EG) (n:Nat) (c:TC):TC:=match H.get n with|some (.a l)=>.adj l c|some (.s k off lo m)=>.split k off lo m c|_=>c
def sS (H:PT EG):SC→Nat→TC×Nat
 |.skip,n=>(vo H n .skip,n+1)
 |.reg o p,n=>(vo H n (.reg o p),n+1)
 |.seq a b,n=>match sS H a (n+1) with
  |(a',k)=>(match sS H b k with|(b',k')=>((match H.get n with|some (.j A)=>.jseq A a' b'|_=>.seq a' b'),k'))
 |.cond c a b,n=>match sS H a (n+1) with
  |(a',k)=>(match sS H b k with|(b',k')=>(vo H n (.cond c a' b'),k'))
 |.block id b,n=>match sS H b (n+1) with|(b',k)=>((match H.get n with|some (.j A)=>.jblock A id b'|_=>.block id b'),k)
 |.loop b,n=>match sS H b (n+1) with|(b',k)=>((match H.get n with|some (.j A)=>.loop A b'|some (.u m)=>.unl m b'|_=>.bad),k)
 |.exit id,n=>(vo H n (.exit id),n+1)
 |.ret,n=>(vo H n .ret,n+1)
 |.defer f c t,n=>(.defer f c t,n+1)
 |.bad,n=>(.bad,n+1)
def D9 (s:TS) (k off:Nat):Option (IntKind×Int):=match s.e.get k with
 |some (.f (.int kd) v)=>some (kd,v)
 |some (.ptr a o)=>(match s.h.get a with
  |some (.cells _ l)=>(match l[o+off]? with|some (.f (.int kd) v)=>some (kd,v)|_=>none)
  |_=>none)
 |_=>none
def AS (s:TS) (k off:Nat) (kd:IntKind) (v:Int):Option TS:=match s.e.get k with
 |some (.f (.int _) _)=>some ⟨s.e.set k (some (.f (.int kd) v)),s.h,s.nx⟩
 |some (.ptr a o)=>(match s.h.get a with
  |some (.cells ty l)=>some ⟨s.e,s.h.set a (some (.cells ty (splice l (o+off) [.f (.int kd) v]))),s.nx⟩
  |_=>none)
 |_=>none
def spl {R:Type} (v:Int) (f:Nat→Option R):Nat→Nat→Option R
 |_,0=>none
 |i,m+1=>bcase (decide ((v:Int)=ah i)) (f i) (spl v f (i+1) m)
def EM {R:Type} (f:TS→(Ex→TS→Option R)→Option R):Nat→TS→(Ex→TS→Option R)→Option R
 |0,_,_=>none
 |m+1,s,K=>f s fun ex s'=>match ex with
  |.normal=>EM f m s' K
  |ex=>K ex s'
noncomputable def jU {R:Type} (np:Nat) (con:FuncId→Option bR) (bH:TypeId→Option Ty) (inert:FuncId→Bool):TC→TS→(Ex→TS→Option R)→Option R
 |.skip,s,K=>K .normal s
 |.reg ops prs,s,K=>w9 con bH ops s [] fun s' fs=>if uq fs prs then K .normal s' else none
 |.seq a b,s,K=>jU np con bH inert a s fun ex s'=>match ex with|.normal=>jU np con bH inert b s' K|ex=>K ex s'
 |.jseq A a b,s,K=>jn (jU np con bH inert a s fun ex s'=>match ex with
   |.normal=>obind (xg np A (a.asg 0) s s') fun x=>some (.inr x)
   |ex=>obind (K ex s') fun r=>some (.inl r)) fun x=>(match uC A (a.asg 0) s x with|some s'=>jU np con bH inert b s' K|none=>none)
 |.cond c a b,s,K=>match s.e.get c with
  |some (.f .bool t)=>bcase t (jU np con bH inert a s K) (jU np con bH inert b s K)
  |some .anyb=>wD (jU np con bH inert a s K) (jU np con bH inert b s K)
  |_=>none
 |.block id b,s,K=>jU np con bH inert b s fun ex s'=>match ex with
  |.exit i=>if av i id then K .normal s' else K (.exit i) s'
  |ex=>K ex s'
 |.jblock A id b,s,K=>jn (jU np con bH inert b s fun ex s'=>match ex with
   |.normal=>obind (xg np A (b.asg 0) s s') fun x=>some (.inr x)
   |.exit i=>if av i id then obind (xg np A (b.asg 0) s s') fun x=>some (.inr x) else obind (K (.exit i) s') fun r=>some (.inl r)
   |.ret=>obind (K .ret s') fun r=>some (.inl r)) fun x=>(match uC A (b.asg 0) s x with|some s'=>K .normal s'|none=>none)
 |.loop A b,s,K=>obind (xg np A (b.asg 0) s s) fun x=>iter (fun x=>match uC A (b.asg 0) s x with
   |some s'=>jU np con bH inert b s' fun ex s'=>(match ex with
    |.normal=>obind (xg np A (b.asg 0) s s') fun y=>some (.inl y)
    |ex=>obind (K ex s') fun r=>some (.inr r))
   |none=>none) x
 |.exit id,s,K=>K (.exit id) s
 |.ret,s,K=>K .ret s
 |.defer f caps t,s,K=>match ur s.e caps with
  |some l=>if inert f then K .normal ⟨s.e.set t (some (.clo f l)),s.h,s.nx⟩ else none
  |none=>none
 |.adj l c,s,K=>match CU s l with|some s'=>jU np con bH inert c s' K|none=>none
 |.split k off lo n c,s,K=>match D9 s k off with
  |some (kd,v)=>spl v (fun i=>match AS s k off kd (ah i) with|some s'=>jU np con bH inert c s' K|none=>none) lo n
  |none=>none
 |.unl n b,s,K=>EM (fun s K=>jU np con bH inert b s K) n s K
 |.bad,_,_=>none
def argsT:Nat→List TV→TEnv
 |_,[]=>PT.leaf
 |k,x::r=>(argsT (k+1) r).set k (some x)
def rvT (s:TS):RV→Option TV
 |.tmp t=>s.e.get t
 |.cell a sz ag=>match s.e.get a with
  |some (.ptr id off)=>(match s.h.get id with|some (.cells _ l)=>AO l off sz ag|_=>none)
  |_=>none
def AT (s:TS):List RV→Option (List TV)
 |[]=>some []
 |x::r=>match rvT s x with|some v=>(match AT s r with|some l=>some (v::l)|none=>none)|none=>none
structure FT where
 pre:Tm
 post:Tm
 hints:PT EG
noncomputable def DA (con:FuncId→Option bR) (bH:TypeId→Option Ty) (inert:FuncId→Bool) (F:Option SF) (D:FT) (x:D.pre.ty.den):Option D.post.ty.den:=
 match F with
 |some sf=>(match sF D.pre x with
  |some (args,h)=>if cZ args.length sf.nt&&cZ D.pre.bs.length D.post.bs.length then
    jU D.pre.bs.length con bH inert (sS D.hints sf.code 0).1 ⟨argsT 0 args,h,D.pre.bs.length⟩ fun ex s=>(match ex with
    |.exit _=>none
    |_=>(match AT s sf.res with
     |some l=>(match tI D.pre.bs.length D.post l s.h with
      |some ⟨y,_,_,_⟩=>(match sF D.post y with|some _=>some y|none=>none)
      |none=>none)
     |none=>none)) else none
  |none=>none)
 |none=>none
end Go.Proofs.YtecomllighcieaaGreatDoor.AI
