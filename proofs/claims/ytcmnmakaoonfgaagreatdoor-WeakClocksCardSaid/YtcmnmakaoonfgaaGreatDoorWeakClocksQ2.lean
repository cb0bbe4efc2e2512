/-
  Texts of the proof, part 3 of 6: what is used to prove the statement. No condition.
-/
import Derived.Test.YtcmnmakaoonfgaaGreatDoorWeakClocksQ1
import Derived.Test.YtcmnmakaoonfgaaGreatDoorProg
import Derived.KernelRfl
namespace Go.Proofs.YtcmnmakaoonfgaaGreatDoor.AI
open Go.RowKit
set_option maxRecDepth 100000
set_option maxHeartbeats 4000000
set_option linter.unusedVariables false
set_option linter.unusedSimpArgs false
set_option linter.defProp false
open _root_.Array renaming replicate→zY
open _root_.Bool renaming true→J,false→af
open _root_.Int renaming ofNat_eq_natCast→ay,toNat→aM,ofNat→aS,reduceEq→c8,reduceNeg→ep,tmod→C4
open _root_.List renaming length→l!,length→aj,replicate→aG,length_singleton→cH,range→dE,take→dW,map→gD,cons_append→gI,getElem?_cons_zero→hY,length_cons→jX,nil_append→kR,set→oG,length_nil→pG,getElem?_concat_length→vo,take_succ_cons→yi,foldl_cons→zX,getElem?_cons_succ→Bu,map_nil→C2
open _root_.Nat renaming beq→aB,testBit→aO,blt→eH,ble→eJ,mod_eq_of_lt→xa,le_succ→Sk
open Oper renaming wp→Lj
open _root_.Option renaming some→Z,none→U,bind_some→aD,map_some→bx,map→ie
open _root_.Prod renaming a→bk,b→bD,c→bQ,e→cS,d→db,f→dZ,h→eh,g→eV,k→iS,p→w9
open Region renaming wanted→qM
open Result renaming andThen_ok→c4
open Sem renaming run_bind→fD,run_pure→w7
open _root_.Sum renaming inr→bZ,inl→lJ
noncomputable section
section ren
variable {P:Program} {E:Nat->Prop} {nt np:Nat}
variable {w:World} {V:PM} {S:Act} {h:aY}
def Lt {s:TS} (c:ju P E nt np V s S w) (src:Nat->Nat) (hsrc:∀n,ow n≠s.nx->src n=n) (hr:bY s.h h) (hinv:gZ h (s.nx+1))
 (L:∀n b',erHF h n=Z b'->∃b,erHF s.h (src n)=Z b/\∀(φ':PM) (O':Nat->Prop),(∀n,φ' n=V (src n))->(∀x v,cz V (tot E V (erHF s.h)) w x v->cz φ' O' w x v)->∀o,ic V (tot E V (erHF s.h)) w b o->ic φ' O' w b' o)
 (inj:∀n m b b',erHF h n=Z b->erHF h m=Z b'->src n=src m->n=m):∃φ',ju P E nt np φ' ⟨s.e,h,s.nx+1⟩ S w/\xM np V φ' (erHF s.h) (erHF h) w w:=by
 have sub:∀n k,V n=Z k->V (src n)=Z k:=λn k A=>by
  have:=c.dom n k A
  grind
 have own_:∀k,own (λn=>V (src n)) (erHF h) k->own V (erHF s.h) k:=by
  rintro k ⟨i,b,h1,N⟩;let⟨b0,h3,_⟩:=L i b h1;exact⟨src i,b0,h3,N⟩
 have tot_:∀k,tot E (λn=>V (src n)) (erHF h) k->tot E V (erHF s.h) k:=λk A=>A.imp id (own_ k)
 have keep:∀x v,cz V (tot E V (erHF s.h)) w x v->cz (λn=>V (src n)) (tot E (λn=>V (src n)) (erHF h)) w x v:=λx v h'=>h'.ext sub (I5.refl _ w) λk _ A=>tot_ k A
 refine ⟨λn=>V (src n),⟨⟨λi j b b' k h1 N h3 h4=>?_,λn b' hb=>?_,c.zk.el,λg cells hg=>(c.zk.gl g cells hg).ext (I5.refl _ w) λk _ A=>tot_ k A⟩,λt x D=>?_,λn k A=>?_,fX c.low,hinv,λt x D=>mX hr x (c.qp t x D),c.inert,c.size⟩,⟨I5.refl _ _,λk _ A=>own_ k A,λn hn=>?_⟩⟩
 .obtain⟨b0,q1,_⟩:=L i b h1;let⟨b1,q2,_⟩:=L j b' N;exact inj i j b b' h1 N (c.zk.inj _ _ b0 b1 k q1 q2 h3 h4)
 .obtain⟨b,q1,q2⟩:=L n b' hb;let⟨k,p1,p2,o,p3,p4⟩:=c.zk.at_ _ b q1;exact⟨k,p1,p2,o,p3,q2 _ _ (λ_=>rfl) keep o p4⟩
 .simp[fK]at D;cases he:s.e.get t with
  |none=>rw[he]at D;cases D
  |some q=>
   rw[he]at D;let⟨z,hz⟩:=pi s.h q (c.qp t q he);simp[aD,fS hr q z hz,ah]at D;subst D;exact keep _ _ (c.env t _ (by simp[fK,he,aD,hz]))
 .have A:V (src n)=Z k:=A;by_cases e:ow n=s.nx
  .grind
  .rw[hsrc n e]at A;have:=c.dom n k A
   grind
 .have:=c.low
  grind
variable {O:Nat->Prop} {s:TypeId} {B:Y AV}
def yF {φ':PM} {O':Nat->Prop} {l':Y AV} {o:Obj} (hlen:l! l'=l! B) (L:∀(j:Nat) z,l'[j]? =Z z->z.isCell=J/\∃x,B[j]? =Z x/\∀v,cz V O w x v->cz φ' O' w z v) (h:ic V O w ⟨s,.mx B⟩ o):ic φ' O' w ⟨s,.mx l'⟩ o:=by
 let⟨arr,h1,h2,N⟩:=h;refine ⟨arr,h1,by simp[BC.len]at h2 ⊢;omega,λj z D=>?_⟩;let⟨A,x,p2,p3⟩:=L j z D;let⟨_,v,p4,p5⟩:=N j x p2;exact⟨A,v,p4,p3 v p5⟩
def Mm {φ':PM} {O':Nat->Prop} {l l':Y m?} {o:Obj} (D:l'.map (·.1)=l.map (·.1)) (N:∀(j:Nat) z,l'[j]? =Z z->∃x,l[j]? =Z x/\x.1=z.1/\∀v,cz V O w x.2 v->cz φ' O' w z.2 v) (h:ic V O w ⟨0,.mp l⟩ o):ic φ' O' w ⟨0,.mp l'⟩ o:=by
 let⟨ents,clock,h1,A,h3⟩:=h;refine ⟨ents,clock,h1,?_,λj z L=>?_⟩
 .unfold MpK at A ⊢;rw[D];exact A
 .grind
def ae3 (n:Nat) (j:Int):(shf n j).toNat=if j.toNat<n then j.toNat else j.toNat+1:=by
 unfold shf;by_cases h:j.toNat<n
 .simp_all
 .rw[ax h,ax (λe=>h (Ur e))];rfl
def uJ (nx a p m1 m2 len n:Nat):Nat:=if ow n=nx then (match ix n with
 |0=>n
 |k+1=>if k/3<len then jC a (k+1) else if k/3=len then (if k%3=0 then nm p else if k%3=1 then nm m1 else nm m2) else jC a (k+1-3)) else n
def yw (nx a p m1 m2 len k:Nat):uJ nx a p m1 m2 len (jC nx (k+1))=if k/3<len then jC a (k+1) else if k/3=len then (if k%3=0 then nm p else if k%3=1 then nm m1 else nm m2) else jC a (k+1-3):=by
 unfold uJ;rw[iK,wn,aE rfl]
variable {i j:Nat}
def aay {p m1 m2 len k:Nat} (h:k/3<len):uJ i j p m1 m2 len (jC i (k+1))=jC j (k+1):=by rw[yw,aE h]
def LZ (nx a p m1 m2 len:Nat) (j:Int):uJ nx a p m1 m2 len (pI nx (shf len j))=pI a j:=by
 unfold pI;rw[yw,ae3]
 grind
def aby {e:Y q!} (hm:anl (h.get i)=Z e):erHF h (nm i)=Z ⟨0,.mp (H5 e)⟩/\∃K V es,h.get i=Z (.mp K V es):=by
 unfold anl at hm;split at hm
 next es z=>simp[ah]at hm;subst hm;exact⟨by rw[bK,z];rfl,_,_,_,z⟩
 next z=>simp[ah]at hm;subst hm;exact⟨by rw[bK,z];rfl,_,_,_,z⟩
 .cases hm
def EnR (R:AV->AV->Prop):Y m?->Y m?->Prop
 |[],[]=>True
 |x::l,y::l'=>x.1=y.1/\R x.2 y.2/\EnR R l l'
 |_,_=>False
def EnR.get {R:AV->AV->Prop}:∀{l l':Y m?},EnR R l l'->l'.map (·.1)=l.map (·.1)/\∀(j:Nat) z,l'[j]? =Z z->∃x,l[j]? =Z x/\x.1=z.1/\R x.2 z.2
 |[],[],_=>⟨rfl,λj z A=>by simp at A⟩
 |[],_::_,h|_::_,[],h=>h.elim
 |x::l,y::l',h=>by
  let⟨L,D⟩:=EnR.get h.2.2;refine ⟨by simp[ch,L,h.1],λj z A=>?_⟩;cases j with
  |zero=>simp[hY,ah]at A;subst A;exact⟨x,rfl,h.1,h.2.1⟩
  |succ j=>exact D j z A
def Nv {R:AV->AV->Prop} {a nx len:Nat} (z:∀j,R (.H (pI a j) 0) (.H (pI nx (shf len j)) 0)):∀es:Y d?,EnR R (wU a es) (wU nx (L2 len es))
 |[]=>trivial
 |e::r=>⟨rfl,z e.2,Nv z r⟩
def WJ {R:AV->AV->Prop} {a nx len:Nat} (D:∀j,R (.H (pI a j) 0) (.H (pI nx (shf len j)) 0)) {v:AV} (A:R v (.H (pI nx (aS len)) 0)) (k:ν):∀es:Y d?,EnR R (Nu a k v es) (wU nx (sG k (aS len) (L2 len es)))
 |[]=>⟨rfl,A,trivial⟩
 |e::r=>by
  have L:=WJ D A k r;show EnR R (Nu a k v (e::r)) (wU nx (sG k (aS len) ((e.1,shf len e.2)::L2 len r)));simp[Nu,sG];by_cases z:k=e.1
  .rw[aE z,LA.2 z];exact⟨rfl,A,Nv D r⟩
  .rw[ax z];cases N:Ib k e.1 with
   |true=>exact bA (LA.1 N) z
   |false=>exact⟨rfl,D e.2,L⟩
variable {v:Value}
def C9 {φ':PM} {O':Nat->Prop} {off:Nat} (h:φ' j=V i) (A:cz V O w (.H i off) v):cz φ' O' w (.H j off) v:=by
 cases A with
 |H D=>exact .H (h.trans D)
def S_ {φ':PM} {O':Nat->Prop} (h:φ' j=V i) (A:cz V O w (.mp i) v):cz φ' O' w (.mp j) v:=by
 cases A with
 |mp D=>exact .mp (h.trans D)
def Lr {φ':PM} {O':Nat->Prop} {sz m:Nat} (h:φ' j=V i) (A:cz V O w (.G i sz m) v):cz φ' O' w (.G j sz m) v:=by
 cases A with
 |G D h1 N L=>exact .G (h.trans D) h1 N L
def ahz (a n len:Nat) (B:fg):iJ (rnF a n len B)=iJ B:=by
 cases B with
 |I F b x=>
  simp[rnF];split
  .cases F with
   |qh ty=>
    show Z (J,1,aj (gD (shf len) (x:η)))=Z (J,1,aj (α:=Int) x)
    grind
   |_=>rfl
  .rfl
 |_=>rfl
def ye (φ:PM) (O:Nat->Prop) (w:World) (src:Nat->Nat) (b b':kw):Prop:=∀(φ':PM) (O':Nat->Prop),(∀n,φ' n=φ (src n))->(∀x v,cz φ O w x v->cz φ' O' w x v)->∀o,ic φ O w b o->ic φ' O' w b' o
variable {g:Nat->Nat}
def ye.refl (b:kw):ye V O w g b b:=λ_ _ _ keep _ h=>h.mono keep
variable {T:Ty}
def Wz {k:Nat} {ob:CU T} (h1:k%3=0->g (jC i (k+2))=jC j (k+2)) (h2:k%3=0->g (jC i (k+3))=jC j (k+3)):ye V O w g (wD j k s T ob) (wD i k s T ob):=by
 intro φ' O' hφ keep oo hoo;unfold wD at hoo ⊢;by_cases D:k%3=0
 .rw[aE D]at hoo ⊢;refine yF (by simp) (λai L z=>?_) hoo;by_cases hj:ai<l! (bM T ob.1)
  .rw[bT (by grind)]at z ⊢;refine ⟨?_,L,z,λv A=>keep _ _ A⟩;obtain⟨y,N,rfl⟩:=cu.1 (ba z);exact l9 T [ob.1] y (by grind)
  .rw[cj (by grind)]at z ⊢;generalize ai-l! (gD AV.f (bM T ob.1))=q at z ⊢
   match q with
   |0=>
    simp only[hY,ah]at z ⊢;subst z;exact⟨rfl,_,rfl,λv A=>S_ (by grind) A⟩
   |1=>
    simp only[Bu,hY,ah]at z ⊢;subst z;exact⟨rfl,_,rfl,λv A=>S_ (by grind) A⟩
   |q+2=>simp at z
 .rw[ax D]at hoo ⊢;exact hoo.mono keep
variable {A:HF}
def ajz {E:Nat->Prop} (rep:sA V E A w) {m1 m2:Nat} {ob:CU T} (k0:j%3=0) (hle:gX A A B ((bM T ob.1).map .f)) (h1:g (jC i (j+2))=nm m1) (h2:g (jC i (j+3))=nm m2):ye V (tot E V A) w g ⟨s,.mx (B++[.mp (nm m1),.mp (nm m2)])⟩ (wD i j s T ob):=by
 intro φ' O' hφ keep oo hoo;unfold wD;rw[aE k0];have hll:=hle.length;refine yF (by grind) (λk N z=>?_) hoo;by_cases hj:k<(bM T ob.1).length
 .rw[bT (by grind)]at z;rw[bT (by grind)];let⟨x,L,D⟩:=hle.get k N z;refine ⟨?_,x,L,λv H=>keep _ _ (D V E w v rep H)⟩;obtain⟨y,hy,rfl⟩:=cu.1 (ba z);exact l9 T [ob.1] y (by grind)
 .rw[cj (by grind)]at z;rw[cj (by grind),<-hll];generalize k-(gD AV.f (bM T ob.1)).length=q at z ⊢
  match q with
  |0=>
   simp only[hY,ah]at z ⊢;subst z;exact⟨rfl,_,rfl,λv H=>S_ (by grind) H⟩
  |1=>
   simp only[Bu,hY,ah]at z ⊢;subst z;exact⟨rfl,_,rfl,λv H=>S_ (by grind) H⟩
  |q+2=>simp at z
variable {z:η} {Q:kw}
def an2 {p m1 m2 len:Nat} (D:uv i (.qh s) (rnX len (.qh s) z)=Z Q):∃b,uv j (.qh s) z=Z b/\ye V O w (uJ i j p m1 m2 len) b Q:=by
 have D:(if aj (gD (shf len) z)==0 then U else Z (kw.mk s (.mx (gD (λa=>AV.H (pI i a) 0) (gD (shf len) z)))))=Z Q:=D;rw[cm]at D;show ∃b,(if aj z==0 then U else Z (kw.mk s (.mx (gD (λa=>AV.H (pI j a) 0) z))))=Z b/\_;split at D
 .cases D
 .rename_i L;rw[ax L];cases D;refine ⟨_,rfl,λφ' O' hφ keep oo hoo=>yF (by simp) (λa x' A=>?_) hoo⟩;rw[kK,bE]at A;rw[bE];cases hjx:z[a]? with
  |none=>rw[hjx]at A;cases A
  |some nx=>
   rw[hjx]at A;simp[bx,Function.comp,ah]at A;subst A;exact⟨rfl,_,rfl,λv N=>C9 (by rw[hφ,LZ]) N⟩
def an3 {p m1 m2 len:Nat} {es:Y d?} (L:uv i .zq (rnX len .zq es)=Z Q):∃b,uv j .zq es=Z b/\ye V O w (uJ i j p m1 m2 len) b Q:=by
 cases L;refine ⟨_,rfl,λφ' O' hφ keep oo hoo=>?_⟩;let⟨A,z⟩:=EnR.get (Nv (R:=λx y=>∀v,cz V O w x v->cz φ' O' w y v) (a:=j) (nx:=i) (len:=len) (λa v D=>C9 (by rw[hφ,LZ]) D) es);exact Mm A z hoo
def Ab {nx a p m1 m2:Nat} (z:j/3<=i):(j/3<i/\uJ nx a p m1 m2 i (jC nx (j+1))=jC a (j+1))\/(j/3=i/\j%3=0/\uJ nx a p m1 m2 i (jC nx (j+1))=nm p)\/(j/3=i/\j%3=1/\uJ nx a p m1 m2 i (jC nx (j+1))=nm m1)\/(j/3=i/\j%3=2/\uJ nx a p m1 m2 i (jC nx (j+1))=nm m2):=by
 rw[yw]
 grind
structure zL (s:TS) (h':aY) (o ai p m1 m2 len:Nat) (ty:TypeId) (S:Ty) (xs:List (CU S)) (new:CU S) (kk:ν) (es:List (ν×Int)):Prop where
 ho:s.h.get o=Z (.qm .zq ai es kk (Z (p,af,0)))
 ha:∃a0,s.h.get ai=Z (.I (.ar ty S) a0 xs)
 hp:∃l,s.h.get p=Z (.C (Z ty) l)
 g1:∃K V es,s.h.get m1=Z (.mp K V es)
 g2:∃K V es,s.h.get m2=Z (.mp K V es)
 hmm:m1≠m2
 hlen:l! xs=len
 hg:∀i,h'.get i=if i=s.nx then Z (.I (.ar ty S) 0 (xs++[new]:List (CU S))) else if i=m2\/i=m1\/i=p\/i=ai then Z (.qj J 0 0) else if i=o then Z (.I .zq s.nx (sG kk (aS len) (L2 len es))) else (s.h.get i).map (rnF ai s.nx len)
section ahi
variable {s:TS} {h':aY} {o ai p m1 m2 len:Nat} {ty:TypeId} {S:Ty} {xs:Y (CU S)} {new:CU S} {kk:ν} {es:Y d?} (t:zL s h' o ai p m1 m2 len ty S xs new kk es)
include t
def zL.ne:o≠ai/\o≠p/\o≠m1/\o≠m2/\p≠m1/\p≠m2:=by
 let⟨z,ha⟩:=t.ha;let⟨l,hp⟩:=t.hp;let⟨_,_,_,g1⟩:=t.g1;let⟨_,_,_,g2⟩:=t.g2;have ho:=t.ho
 grind
def zL.F (hi:gZ s.h s.nx):bY s.h h':=λi r z=>by
 let⟨a0,ha⟩:=t.ha;let⟨l,hp⟩:=t.hp;let⟨_,_,_,g1⟩:=t.g1;let⟨_,_,_,g2⟩:=t.g2;have hfr:=hi.fresh;rw[bB]at z ⊢;rw[t.hg];by_cases N:i=s.nx
 .grind
 .rw[ax N];by_cases L:i=m2\/i=m1\/i=p\/i=ai
  .rcases L with rfl|rfl|rfl|rfl
   .rw[g2]at z;cases z
   .rw[g1]at z;cases z
   .rw[hp]at z;cases z
   .rw[ha]at z;cases z
  .rw[ax L];by_cases D:i=o
   .rw[D,t.ho]at z;cases z
   .rw[ax D];cases A:s.h.get i with
    |none=>rw[A]at z;cases z
    |some B=>rw[A]at z;simp[bx,aD]at z ⊢;rw[ahz];exact z
def zL.lows (hi:gZ s.h s.nx):o<s.nx/\ai<s.nx/\p<s.nx/\m1<s.nx/\m2<s.nx:=by
 let⟨z,ha⟩:=t.ha;let⟨l,hp⟩:=t.hp;let⟨_,_,_,g1⟩:=t.g1;let⟨_,_,_,g2⟩:=t.g2;exact⟨hi.low o _ t.ho,hi.low ai _ ha,hi.low p _ hp,hi.low m1 _ g1,hi.low m2 _ g2⟩
def zL.inv (hi:gZ s.h s.nx):gZ h' (s.nx+1):=by
 have D:=t.F hi;let⟨N,la,L,l1,l2⟩:=t.lows hi;refine ⟨λi ty l hil=>?_,λi c' hic=>?_⟩
 .rw[t.hg]at hil;split at hil
  .cases hil
  .split at hil
   .cases hil
   .split at hil
    .cases hil
    .cases z:s.h.get i with
     |none=>rw[z]at hil;cases hil
     |some B=>
      rw[z]at hil;simp[bx,ah]at hil;cases B with
      |C ty2 A=>
       simp[rnF,fg.C.injEq]at hil;obtain⟨_,rfl⟩:=hil;exact fx D A (hi.C i _ A z)
      |I F b x=>simp[rnF]at hil;split at hil<;>cases hil
      |_=>cases hil
 .rw[t.hg]at hic;split at hic
  .omega
  .split at hic
   .omega
   .split at hic
    .omega
    .cases z:s.h.get i with
     |none=>rw[z]at hic;cases hic
     |some B=>have:=hi.low i B z;omega
def zL.qj (hi:gZ s.h s.nx) (z:ow i=m2\/ow i=m1\/ow i=p\/ow i=ai):erHF h' i=U:=by
 let⟨D,la,A,N,L⟩:=t.lows hi;unfold erHF;rw[t.hg,ax (by omega),aE z];cases ix i<;>rfl
def zL.new0:erHF h' (nm s.nx)=U:=by rw[bK,t.hg,aE rfl];rfl
def zL.newN (k:Nat):erHF h' (jC s.nx (k+1))=q_ s.nx k ty S (xs++[new]):=by rw[kG,t.hg,aE rfl];rfl
def zL.oldN (k:Nat):erHF s.h (jC ai (k+1))=q_ ai k ty S xs:=by
 let⟨z,ha⟩:=t.ha;rw[kG,ha];rfl
def zL.gt (z:len<i/3):erHF h' (jC s.nx (i+1))=U:=by
 rw[t.newN];unfold q_;rw[dI (by rw[bC,t.hlen];exact z)];rfl
def zL.lt (L:i/3<len) (z:erHF h' (jC s.nx (i+1))=Z Q):∃b,erHF s.h (jC ai (i+1))=Z b/\ye V O w (uJ s.nx ai p m1 m2 len) b Q:=by
 rw[t.newN]at z;rw[t.oldN];unfold q_ at z ⊢;rw[bT (by rw[t.hlen];exact L)]at z;cases A:xs[i/3]? with
 |none=>rw[A]at z;cases z
 |some ob=>
  rw[A]at z;simp[bx,ah]at z;subst z;exact⟨_,rfl,Wz (λD=>aay (k:=i+1) (by omega)) (λD=>aay (k:=i+2) (by omega))⟩
def zL.eqB (z:i/3=len):erHF h' (jC s.nx (i+1))=Z (wD s.nx i ty S new):=by
 rw[t.newN];unfold q_;rw[z,<-t.hlen,vo];rfl
def zL.mapB (hi:gZ s.h s.nx) (z:erHF h' (nm o)=Z Q):∃b,erHF s.h (nm o)=Z b/\ye V O w (uJ s.nx ai p m1 m2 len) b Q:=by
 let⟨lo,_⟩:=t.lows hi;let⟨n1,n2,n3,N,_⟩:=t.ne;rw[bK,t.hg,ax (by omega),ax (by omega),aE rfl]at z;cases z;rw[bK,t.ho];refine ⟨_,rfl,λφ' O' hφ keep oo hoo=>?_⟩;let⟨L,D⟩:=EnR.get (WJ (R:=λx y=>∀v,cz V O w x v->cz φ' O' w y v) (a:=ai) (nx:=s.nx) (len:=len) (λj v A=>C9 (by rw[hφ,LZ]) A) (v:=.H (nm p) 0) (λv A=>C9 (by
  rw[hφ];show V (uJ s.nx ai p m1 m2 len (jC s.nx (3*len+1)))=_;rw[yw,ax (by omega),aE (by omega),aE (by omega)]) A) kk es)
 exact Mm L D hoo
def zL.oth (hi:gZ s.h s.nx) (f0:ow i≠s.nx) (f1:¬(ow i=m2\/ow i=m1\/ow i=p\/ow i=ai)) (N:ow i≠o) (A:erHF h' i=Z Q):∃b,erHF s.h i=Z b/\ye V O w (uJ s.nx ai p m1 m2 len) b Q:=by
 have hr:=t.F hi;cases L:s.h.get (ow i) with
 |none=>
  unfold erHF at A;rw[t.hg,ax f0,ax f1,ax N,L]at A;cases A
 |some B=>
  have z:Pn h' (ow i) (ix i) (rnF ai s.nx len B)=Z Q:=by
   unfold erHF at A;rw[t.hg,ax f0,ax f1,ax N,L]at A;exact A
  have same:rnF ai s.nx len B=B->∃b,erHF s.h i=Z b/\ye V O w (uJ s.nx ai p m1 m2 len) b Q:=λe=>by
   rw[e,ma hr (λty l e=>hi.C _ _ l (by rw[L,e]))]at z;exact⟨Q,by unfold erHF;rw[L];exact z,ye.refl Q⟩
  cases B with
  |I F b x=>
   by_cases D:(ax0 F&&aB b ai)=J
   .have e0:rnF ai s.nx len (.I F b x)= .I F s.nx (rnX len F x):=by simp only[rnF];rw[aE D]
    rw[e0]at z;simp only[au]at D;have hba:=av D.2;subst hba;cases hix:ix i with
    |succ k=>rw[hix]at z;cases F<;>first|cases z|cases D.1
    |zero=>
     rw[hix]at z;have hsrc:erHF s.h i=uv b F x:=by unfold erHF;rw[L,hix];rfl
     rw[hsrc];cases F with
     |qh tyo=>exact an2 z
     |zq=>exact an3 z
     |_=>cases D.1
   .exact same (by simp only[rnF];rw[ax D])
  |_=>exact same rfl
def zL.key (z:erHF h' i=Z Q) (D:ow i=s.nx):∃k,i=jC s.nx (k+1)/\k/3<=len:=by
 cases hix:ix i with
 |zero=>rw[pl hix,D,t.new0]at z;cases z
 |succ k=>
  have en:i=jC s.nx (k+1):=by rw[<- D,<-hix,kL]
  refine ⟨k,en,?_⟩;subst en;rcases cJ len (k/3) with A|A
  .rw[t.gt A]at z;cases z
  .exact A
def zL.dS (hi:gZ s.h s.nx) (z:i/3<=len):erHF h' (uJ s.nx ai p m1 m2 len (jC s.nx (i+1)))=U:=by
 refine t.qj hi ?_;rcases Ab (nx:=s.nx) (a:=ai) (p:=p) (m1:=m1) (m2:=m2) z with ⟨_,e⟩|⟨_,_,e⟩|⟨_,_,e⟩|⟨_,_,e⟩<;>rw[e]
 .rw[iK];exact .inr (.inr (.inr rfl))
 .rw[dv];exact .inr (.inr (.inl rfl))
 .rw[dv];exact .inr (.inl rfl)
 .rw[dv];exact .inl rfl
def zL.inj1 (A:i/3<=len) (z:j/3<=len) (he:uJ s.nx ai p m1 m2 len (jC s.nx (i+1))=uJ s.nx ai p m1 m2 len (jC s.nx (j+1))):i=j:=by
 let⟨_,_,_,_,N,L⟩:=t.ne;have D:=t.hmm;rcases Ab (nx:=s.nx) (a:=ai) (p:=p) (m1:=m1) (m2:=m2) A with ⟨_,e⟩|⟨_,_,e⟩|⟨_,_,e⟩|⟨_,_,e⟩<;>rcases Ab (nx:=s.nx) (a:=ai) (p:=p) (m1:=m1) (m2:=m2) z with ⟨_,e'⟩|⟨_,_,e'⟩|⟨_,_,e'⟩|⟨_,_,e'⟩<;>rw[e,e']at he<;>clear e e'<;>first|omega|(have:=(vp he).2;omega)|(have:=uL he;omega)
def zL.inj (hi:gZ s.h s.nx) {b':kw} (z:erHF h' i=Z Q) (hm:erHF h' j=Z b') (he:uJ s.nx ai p m1 m2 len i=uJ s.nx ai p m1 m2 len j):i=j:=by
 have L:∀i,ow i≠s.nx->uJ s.nx ai p m1 m2 len i=i:=λi z=>by unfold uJ;rw[ax z]
 by_cases f0:ow i=s.nx
 .obtain⟨k,rfl,N⟩:=t.key z f0;by_cases A:ow j=s.nx
  .obtain⟨q,rfl,D⟩:=t.key hm A;rw[t.inj1 N D he]
  .rw[L j A]at he;rw[<- he,t.dS hi N]at hm;cases hm
 .rw[L i f0]at he;by_cases A:ow j=s.nx
  .obtain⟨q,rfl,D⟩:=t.key hm A;rw[he,t.dS hi D]at z;cases z
  .grind
def zL.cfg {a:Act} (c:ju P E nt np V s a w) (bp:erHF s.h (nm p)=Z ⟨ty,.mx (B++[.mp (nm m1),.mp (nm m2)])⟩) (hle:gX (erHF s.h) (erHF s.h) B ((bM S new.1).map .f)) (b1:erHF s.h (nm m1)=Z ⟨0,.mp (H5 new.2.1)⟩) (b2:erHF s.h (nm m2)=Z ⟨0,.mp (H5 new.2.2)⟩):∃φ',ju P E nt np φ' ⟨s.e,h',s.nx+1⟩ a w/\xM np V φ' (erHF s.h) (erHF h') w w:=by
 have hi:=c.qz;have hs:∀n,ow n≠s.nx->uJ s.nx ai p m1 m2 len n=n:=λn L=>by unfold uJ;rw[ax L]
 refine Lt c (uJ s.nx ai p m1 m2 len) hs (t.F hi) (t.inv hi) (λn b' z=>?_) λn m b b' L hm he=>t.inj hi L hm he
 by_cases D:ow n=s.nx
 .obtain⟨k,rfl,hk⟩:=t.key z D;rcases Ab (nx:=s.nx) (a:=ai) (p:=p) (m1:=m1) (m2:=m2) hk with ⟨g,e⟩|⟨g,A,e⟩|⟨g,A,e⟩|⟨g,A,e⟩<;>rw[e]
  .exact t.lt g z
  .rw[t.eqB g,ah]at z;subst z;refine ⟨_,bp,ajz c.zk A hle ?_ ?_⟩
   .rw[yw,ax (by omega),aE (by omega),ax (by omega),aE (by omega)]
   .rw[yw,ax (by omega),aE (by omega),ax (by omega),ax (by omega)]
  .rw[t.eqB g,ah]at z;subst z;refine ⟨_,b1,?_⟩;unfold wD;rw[ax (by omega),aE A];exact ye.refl _
  .rw[t.eqB g,ah]at z;subst z;refine ⟨_,b2,?_⟩;unfold wD;rw[ax (by omega),ax (by omega)];exact ye.refl _
 .rw[hs n D];by_cases f1:ow n=m2\/ow n=m1\/ow n=p\/ow n=ai
  .rw[t.qj hi f1]at z;cases z
  .by_cases N:ow n=o
   .cases hix:ix n with
    |succ k=>
     unfold erHF at z;rw[t.hg,ax D,ax f1,aE N,hix]at z;cases z
    |zero=>
     have en:n=nm o:=by rw[<- N];exact pl hix
     subst en;exact t.mapB hi z
   .exact t.oth hi D f1 N z
end ahi
def asi {s:TS} (c:ju P E nt np V s S w) {p:Nat} {kk:ν} {es:Y d?} (ho:s.h.get i=Z (.qm .zq j es kk (Z (p,af,0)))) {s':TS} (h:ahi s i j p kk es=Z s'):s'.e=s.e/\∃φ',ju P E nt np φ' s' S w/\xM np V φ' (erHF s.h) (erHF s'.h) w w:=by
 unfold ahi at h;split at h
 .rename_i ty a a0 xs ty' l ha hp;split at h
  .rename_i hty;have hty:=eq_of_beq hty;subst hty;split at h
   .rename_i z m m1 m2 hpk;split at h
    .rename_i e1 e2 N L;split at h
     .rename_i hq;simp only[au,cV]at hq;let⟨D,q2⟩:=hq;have D:=av D;subst D;have hmm:m1≠m2:=λe=>by simp_all
      let⟨b1,K1,V1,es1,g1⟩:=aby N;let⟨b2,K2,V2,es2,g2⟩:=aby L;simp[ah]at h;subst h;refine ⟨rfl,?_⟩;let⟨l',A⟩:=fE s.h l (c.qz.C p _ l hp);let⟨la1,la2,hlap,hla2,hle⟩:=rF (rx.refl (erHF s.h)) 40 a l z 0 _ l' hpk A Fl.zero;have hla2:la2=[.mp (nm m1),.mp (nm m2)]:=by simp[cM,b_,ah]at hla2;exact hla2.symm
      have bp:erHF s.h (nm p)=Z ⟨ty',.mx (la1++[.mp (nm m1),.mp (nm m2)])⟩:=by rw[bK,hp];simp[aD,kx,A];rw[hlap,hla2]
      refine zL.cfg (o:=i) (ai:=j) (p:=p) (m1:=m1) (m2:=m2) (len:=aj (α:=CU a) xs) (ty:=ty') (S:=a) (xs:=xs) (new:=(z,e1,e2)) (kk:=kk) (es:=es) ⟨ho,⟨a0,ha⟩,⟨l,hp⟩,⟨_,_,_,g1⟩,⟨_,_,_,g2⟩,hmm,rfl,λo=>?_⟩ c bp hle b1 b2;rw[PT.get_set,PT.get_set,PT.get_set,PT.get_set,PT.get_set,PT.get_set,PT.get_updI];by_cases f0:o=s.nx
      .rw[aE f0,aE f0];rfl
      .grind
     .cases h
    .cases h
   .cases h
  .cases h
 .cases h
def Zw {n:Nat} {ty:TypeId} {xss:Y (Y T.den)} {xs:Y T.den} (h:l! xss<=i):qZ i ty T (xss.set n xs)=U:=by
 unfold qZ
 grind
def HM (nx a r j n:Nat):Nat:=if ow n=nx then (match ix n with
 |0=>n
 |k+1=>if k=j then nm r else jC a (k+1)) else n
def yr (nx a r j k:Nat):HM nx a r j (jC nx (k+1))=if k=j then nm r else jC a (k+1):=by
 unfold HM;rw[iK,wn,aE rfl]
def asf {ty:TS} (c:ju P E nt np V ty S w) {r n:Nat} {kk:ν} {N:Nat} (ho:ty.h.get i=Z (.qm (.rr s N) j z kk (Z (r,J,n)))) {s':TS} (h:ash ty i j r n kk.1 s N z=Z s'):s'.e=ty.e/\∃φ',ju P E nt np φ' s' S w/\xM np V φ' (erHF ty.h) (erHF s'.h) w w:=by
 unfold ash at h;split at h
 .rename_i ty2 T a0 xss ty3 p a xs ha hrr;split at h
  .rename_i xs' hxs;split at h
   .rename_i hty;have hty:=eq_of_beq hty;subst hty;cases h;refine ⟨rfl,?_⟩;let⟨ee,exs⟩:=ji hxs;cases ee;have exs:xs'=xs:=exs;subst exs;have hfr:=c.qz.fresh;have lo:=c.qz.low i _ ho;have la:=c.qz.low j _ ha;have lr:=c.qz.low r _ hrr;have n1:i≠j:=λe=>by rw[e,ha]at ho;cases ho
    have n2:i≠r:=λe=>by rw[e,hrr]at ho;cases ho
    have n3:j≠r:=λe=>by rw[e,hrr]at ha;cases ha
    generalize hjj:kk.1.toNat=ai;generalize hh':(((ty.h.set i (Z (.I (.rr s N) ty.nx (oG (α:=Int) z ai (aS n))))).set j (Z (.qj J 0 0))).set r (Z (.qj p T.size (aj xs')))).set ty.nx (Z (.I (.ir ty3 T) 0 (mB (T:=T) xss kk.1 xs')))=h';have hg:∀o,h'.get o=if o=ty.nx then Z (.I (.ir ty3 T) 0 (mB (T:=T) xss kk.1 xs')) else if o=r then Z (.qj p T.size (aj xs')) else if o=j then Z (.qj J 0 0) else if o=i then Z (.I (.rr s N) ty.nx (oG (α:=Int) z ai (aS n))) else ty.h.get o:=λo=>by
     rw[<- hh',PT.get_set,PT.get_set,PT.get_set,PT.get_set]
    have hdead:∀n,ow n=r\/ow n=j->erHF h' n=U:=λn hn=>by
     unfold erHF;rcases hn with e|e
     .rw[hg,ax (by omega),aE e];simp only[aD];cases ix n<;>rfl
     .rw[hg,ax (by omega),ax (by omega),aE e];simp only[aD];cases ix n<;>rfl
    have hr:bY ty.h h':=λo q hi=>by
     rw[bB]at hi ⊢;rw[hg];by_cases L:o=ty.nx
     .rw[L,hfr]at hi;cases hi
     .rw[ax L];by_cases f1:o=r
      .rw[aE f1];rw[f1,hrr]at hi;exact hi
      .rw[ax f1];by_cases f2:o=j
       .rw[f2,ha]at hi;cases hi
       .rw[ax f2];by_cases f3:o=i
        .rw[aE f3];rw[f3,ho]at hi;simp only[aD,iJ,sh,dD]at hi ⊢;exact hi
        .rw[ax f3];exact hi
    have hinv:gZ h' (ty.nx+1):=by
     refine ⟨λo s l hil=>?_,λo c' hic=>?_⟩
     .rw[hg]at hil;split at hil
      .cases hil
      .split at hil
       .cases hil
       .split at hil
        .cases hil
        .split at hil
         .cases hil
         .exact fx hr l (c.qz.C o _ l hil)
     .rw[hg]at hic;split at hic
      .omega
      .split at hic
       .omega
       .split at hic
        .omega
        .split at hic
         .omega
         .have:=c.qz.low o c' hic;omega
    have hmN:∀k,erHF h' (jC ty.nx (k+1))=qZ k ty3 T (oG xss ai xs'):=λk=>by
     rw[kG,hg,aE rfl,<-hjj];rfl
    have hmO:∀k,erHF ty.h (jC j (k+1))=qZ k ty3 T xss:=λk=>by rw[kG,ha];rfl
    have hn0:erHF h' (nm ty.nx)=U:=by rw[bK,hg,aE rfl];rfl
    refine Lt c (HM ty.nx j r ai) (λn hn=>by unfold HM;rw[ax hn]) hr hinv ?_ ?_
    .intro q b' A;by_cases L:ow q=ty.nx
     .cases hix:ix q with
      |zero=>rw[pl hix,L,hn0]at A;cases A
      |succ k=>
       have en:q=jC ty.nx (k+1):=by rw[<- L,<-hix,kL]
       subst en;rw[hmN]at A;rw[yr];by_cases hk:k=ai
       .rw[aE hk];subst hk;refine ⟨b',?_,λφ' O' hφ keep oo hoo=>hoo.mono keep⟩;rw[bK,hrr];have hl:k<aj (α:=Y T.den) xss:=by
         rcases cJ k (aj (α:=Y T.den) xss) with h1|h1
         .exact h1
         .have A:=(Zw (ty:=ty3) (T:=T) (xss:=xss) (xs:=xs') (n:=k) h1).symm.trans A;cases A
        have A:=(Np (ty:=ty3) (T:=T) (xss:=xss) (xs:=xs') hl).symm.trans A;unfold Zv at A;split at A
        .cases A
        next hz=>simp only[aD,kx];rw[ax (by rw[au];exact λe=>hz e.2)];exact A
       .rw[ax hk,hmO];exact⟨b',(Iv (ty:=ty3) (T:=T) (xss:=xss) (xs:=xs') hk).symm.trans A,λφ' O' hφ keep oo hoo=>hoo.mono keep⟩
     .have hs:HM ty.nx j r ai q=q:=by unfold HM;rw[ax L]
      rw[hs];by_cases f1:ow q=r\/ow q=j
      .rw[hdead q f1]at A;cases A
      .have f1a:ow q≠r:=λe=>f1 (.inl e)
       have f1b:ow q≠j:=λe=>f1 (.inr e)
       by_cases f2:ow q=i
       .cases hix:ix q with
        |succ k=>
         unfold erHF at A;rw[hg,ax L,ax f1a,ax f1b,aE f2,hix]at A;cases A
        |zero=>
         have en:q=nm i:=by rw[<- f2];exact pl hix
         subst en;rw[dv]at f1a f1b;rw[bK,hg,ax (by omega),ax f1a,ax f1b,aE rfl]at A;have A:Z (kw.mk s (.mx (lG ty.nx N 0 (oG (α:=Int) z ai (aS n)))))=Z b':=A;cases A;rw[bK,ho];refine ⟨⟨s,.mx ((lG j N 0 z).set kk.1.toNat (dz J r N n))⟩,rfl,λφ' O' hφ keep oo hoo=>?_⟩;rw[hjj]at hoo;have cl:∀(S k l:Nat),(uK S k N l).isCell=J:=λS k l=>by unfold uK;split<;>rfl
         refine yF (by rw[dD,lh,lh,dD]) (λo x' D=>?_) hoo;have D:=D.symm.trans (yD ty.nx N (oG (α:=Int) z ai (aS n)) 0 o);rw[b9,em]at D;by_cases hij:ai=o
         .subst hij;rw[aE rfl]at D;by_cases hl:ai<aj (α:=Int) z
          .rw[aE hl]at D;simp only[bx,ah]at D;subst D;refine ⟨cl _ _ _,_,by rw[em,aE rfl,aE (by rw[lh];exact hl)],λv hv=>?_⟩;have hn2:(aS n).toNat=n:=rfl;rw[hn2];unfold dz at hv;unfold uK;by_cases hz:n=0
           .rw[aE (by simpa using hz)]at hv ⊢;exact keep _ _ hv
           .rw[ax (by simpa using hz)]at hv ⊢;exact Lr (by rw[hφ,yr,aE rfl]) hv
          .rw[ax hl]at D;cases D
         .rw[ax hij]at D;cases hli:(z:η)[o]? with
          |none=>
           have D:Z x'=ie _ ((z:η)[o]?):=D;rw[hli]at D;cases D
          |some l=>
           have D:Z x'=ie _ ((z:η)[o]?):=D;rw[hli]at D;simp only[bx,ah]at D;subst D;refine ⟨cl _ _ _,uK j o N l.toNat,?_,λv hv=>?_⟩
           .rw[em,ax hij];have:=yD j N z 0 o;rw[b9]at this;refine this.trans ?_;show ie _ ((z:η)[o]?)=_;rw[hli];rfl
           .unfold uK at hv ⊢;by_cases hz:l.toNat=0
            .rw[aE (by simpa using hz)]at hv ⊢;exact keep _ _ hv
            .rw[ax (by simpa using hz)]at hv ⊢;exact Lr (by rw[hφ,yr,ax (λe=>hij e.symm)]) hv
       .have hb2:(ty.h.get (ow q)).bind (Pn h' (ow q) (ix q))=Z b':=by
         unfold erHF at A;rw[hg,ax L,ax f1a,ax f1b,ax f2]at A;exact A
        cases hx:ty.h.get (ow q) with
        |none=>rw[hx]at hb2;cases hb2
        |some B=>
         rw[hx]at hb2;simp only[aD]at hb2;rw[ma hr (λs l e=>c.qz.C _ _ l (by rw[hx,e]))]at hb2;exact⟨b',by unfold erHF;rw[hx];exact hb2,λφ' O' hφ keep oo hoo=>hoo.mono keep⟩
    .intro q m b b' hn hm he;have key:∀n b,erHF h' n=Z b->ow n=ty.nx->∃k,n=jC ty.nx (k+1):=λn b hn L=>by
      cases hix:ix n with
      |zero=>rw[pl hix,L,hn0]at hn;cases hn
      |succ k=>exact⟨k,by rw[<- L,<-hix,kL]⟩
     have dS:∀k,erHF h' (HM ty.nx j r ai (jC ty.nx (k+1)))=U:=λk=>by
      refine hdead _ ?_;rw[yr];split
      .rw[dv];exact .inl rfl
      .rw[iK];exact .inr rfl
     by_cases L:ow q=ty.nx
     .obtain⟨k,rfl⟩:=key q b hn L;by_cases f1:ow m=ty.nx
      .obtain⟨k2,rfl⟩:=key m b' hm f1;rw[yr,yr]at he;have:k=k2:=by
        split at he<;>split at he
        .omega
        .have:=(vp he).2;omega
        .have:=(vp he).2;omega
        .have:=(vp he).2;omega
       rw[this]
      .rw[show HM ty.nx j r ai m=m from by unfold HM;rw[ax f1]]at he;rw[<- he,dS k]at hm;cases hm
     .rw[show HM ty.nx j r ai q=q from by unfold HM;rw[ax L]]at he;by_cases f1:ow m=ty.nx
      .obtain⟨k2,rfl⟩:=key m b' hm f1;rw[he,dS k2]at hn;cases hn
      .rw[show HM ty.nx j r ai m=m from by unfold HM;rw[ax f1]]at he;exact he
   .cases h
  .cases h
 .cases h
def Bx (nx a n:Nat):Nat:=if ow n=nx then jC a (ix n) else n
def yz (nx a k:Nat):Bx nx a (jC nx k)=jC a k:=by
 unfold Bx;rw[iK,wn,aE rfl]
def ahy (a n:Nat) (B:fg):iJ (rnG a n B)=iJ B:=by
 cases B with
 |I F b x=>
  simp[rnG];split<;>rfl
 |_=>rfl
def MM {F:uE} (h:ajd F=J):(∃ty S,F= .ar ty S)\/∃ty T,F= .ir ty T:=by
 cases F with
 |ar ty S=>exact .inl ⟨ty,S,rfl⟩
 |ir ty T=>exact .inr ⟨ty,T,rfl⟩
 |_=>cases h
def af9 {k:Nat} {F:uE} {x:F.ty.den} (z:KN i k F x=Z Q):∃b,KN j k F x=Z b/\ye V O w (Bx i j) b Q:=by
 cases F with
 |ar ty S=>
  let⟨ob,h1,A⟩:=gq.1 z;subst A;exact⟨_,gq.2 ⟨ob,h1,rfl⟩,Wz (λ_=>yz i j _) (λ_=>yz i j _)⟩
 |ir ty T=>exact⟨Q,z,ye.refl _⟩
 |_=>cases z
def RJ {R:AV->AV->Prop} {a nx:Nat} (z:∀j,R (.H (pI a j) 0) (.H (pI nx j) 0)):∀es:Y d?,EnR R (wU a es) (wU nx es)
 |[]=>trivial
 |e::r=>⟨rfl,z e.2,RJ z r⟩
def aij (D:uv i (.qh s) z=Z Q):∃b,uv j (.qh s) z=Z b/\ye V O w (Bx i j) b Q:=by
 have hob:∀a,Bx i j (pI i a)=pI j a:=λa=>yz i j _
 have D:(if aj z==0 then U else Z (kw.mk s (.mx (gD (λa=>AV.H (pI i a) 0) z))))=Z Q:=D;show ∃b,(if aj z==0 then U else Z (kw.mk s (.mx (gD (λa=>AV.H (pI j a) 0) z))))=Z b/\_;split at D
 .cases D
 .rename_i L;rw[ax L];simp[ah]at D;subst D;refine ⟨_,rfl,λφ' O' hφ keep oo hoo=>yF (by simp) (λa x' A=>?_) hoo⟩;rw[bE]at A ⊢;cases hjx:z[a]? with
  |none=>rw[hjx]at A;cases A
  |some nx=>
   rw[hjx]at A;simp[bx,ah]at A;subst A;exact⟨rfl,_,rfl,λv N=>C9 (by grind) N⟩
def ail {es:Y d?} (L:uv i .zq es=Z Q):∃b,uv j .zq es=Z b/\ye V O w (Bx i j) b Q:=by
 have hob:∀a,Bx i j (pI i a)=pI j a:=λa=>yz i j _
 cases L;refine ⟨_,rfl,λφ' O' hφ keep oo hoo=>?_⟩;let⟨A,z⟩:=EnR.get (RJ (R:=λx y=>∀v,cz V O w x v->cz φ' O' w y v) (a:=j) (nx:=i) (λa v D=>C9 (by grind) D) es);exact Mm A z hoo
def amr {D:Nat} (L:uv i (.rr s D) z=Z Q):∃b,uv j (.rr s D) z=Z b/\ye V O w (Bx i j) b Q:=by
 have L:Z (kw.mk s (.mx (lG i D 0 z)))=Z Q:=L;simp[ah]at L;subst L;refine ⟨_,rfl,λφ' O' hφ keep oo hoo=>yF (by rw[lh,lh]) (λa x' A=>?_) hoo⟩;rw[yD]at A ⊢;cases hjx:z[a]? with
 |none=>rw[hjx]at A;cases A
 |some l=>
  rw[hjx]at A;simp only[bx,ah]at A;subst A;refine ⟨by unfold uK;split<;>rfl,uK j (0+a) D l.toNat,rfl,λv N=>?_⟩;unfold uK at N ⊢;by_cases hz:(l.toNat==0)=J
  .grind
  .rw[ax hz]at N ⊢;exact Lr (by rw[hφ,yz]) N
def afc {F:uE} {x:F.ty.den} (A:uv i F x=Z Q):∃b,uv j F x=Z b/\ye V O w (Bx i j) b Q:=by
 cases F with
 |qh ty=>exact aij A
 |zq=>exact ail A
 |rr ty z=>exact amr A
 |_=>cases A
def asj {s:TS} (c:ju P E nt np V s S w) {s':TS} (h:ask s i=Z s'):s'.e=s.e/\∃φ',ju P E nt np φ' s' S w/\xM np V φ' (erHF s.h) (erHF s'.h) w w:=by
 unfold ask at h;split at h
 .rename_i F a0 x ha;split at h
  .rename_i hF;cases h;refine ⟨rfl,?_⟩;have hfr:=c.qz.fresh;have la:=c.qz.low i _ ha;have hi:=c.qz;generalize hh':((PT.updI (λ_ b=>rnG i s.nx b) 1 0 s.h).set i (Z (.qj J 0 0))).set s.nx (Z (.I F 0 x))=h';have hg:∀ai,h'.get ai=if ai=s.nx then Z (.I F 0 x) else if ai=i then Z (.qj J 0 0) else (s.h.get ai).map (rnG i s.nx):=λai=>by
    rw[<- hh',PT.get_set,PT.get_set,PT.get_updI]
   have hF0:sh F x=U:=by rcases MM hF with ⟨_,_,rfl⟩|⟨_,_,rfl⟩<;>rfl
   have hFB:∀q,uv q F x=U:=λq=>by rcases MM hF with ⟨_,_,rfl⟩|⟨_,_,rfl⟩<;>rfl
   have hr:bY s.h h':=λai q hq=>by
    rw[bB]at hq ⊢;rw[hg];by_cases L:ai=s.nx
    .grind
    .rw[ax L];by_cases f1:ai=i
     .rw[f1,ha]at hq;simp only[aD,iJ,hF0]at hq;cases hq
     .rw[ax f1];cases A:s.h.get ai with
      |none=>rw[A]at hq;cases hq
      |some B=>rw[A]at hq;simp only[bx,aD]at hq ⊢;rw[ahy];exact hq
   have hinv:gZ h' (s.nx+1):=by
    refine ⟨λai ty l hil=>?_,λai c' hic=>?_⟩
    .rw[hg]at hil;split at hil
     .cases hil
     .split at hil
      .cases hil
      .cases A:s.h.get ai with
       |none=>rw[A]at hil;cases hil
       |some B=>
        rw[A]at hil;simp only[bx,ah]at hil;cases B with
        |C ty2 l3=>
         simp only[rnG,fg.C.injEq]at hil;obtain⟨_,rfl⟩:=hil;exact fx hr l3 (hi.C ai _ l3 A)
        |I F b x=>simp only[rnG]at hil;split at hil<;>cases hil
        |_=>cases hil
    .rw[hg]at hic;split at hic
     .omega
     .split at hic
      .omega
      .cases A:s.h.get ai with
       |none=>rw[A]at hic;cases hic
       |some B=>have:=hi.low ai B A;omega
   have hdead:∀n,ow n=i->erHF h' n=U:=λn N=>by
    unfold erHF;rw[hg,ax (by omega),aE N];simp only[aD];cases ix n<;>rfl
   have hn0:erHF h' (nm s.nx)=U:=by
    rw[bK,hg,aE rfl];exact hFB _
   have hmN:∀k,erHF h' (jC s.nx (k+1))=KN s.nx k F x:=λk=>by rw[kG,hg,aE rfl];rfl
   have hmO:∀k,erHF s.h (jC i (k+1))=KN i k F x:=λk=>by rw[kG,ha];rfl
   refine Lt c (Bx s.nx i) (λn N=>by unfold Bx;rw[ax N]) hr hinv (λn b' D=>?_) λn m b b' N hm he=>?_
   .by_cases L:ow n=s.nx
    .cases hix:ix n with
     |zero=>rw[pl hix,L,hn0]at D;cases D
     |succ k=>
      have en:n=jC s.nx (k+1):=by rw[<- L,<-hix,kL]
      subst en;rw[hmN]at D;rw[yz,hmO];exact af9 D
    .have hs:Bx s.nx i n=n:=by unfold Bx;rw[ax L]
     rw[hs];by_cases f1:ow n=i
     .grind
     .cases A:s.h.get (ow n) with
      |none=>
       unfold erHF at D
       grind
      |some B=>
       have z:Pn h' (ow n) (ix n) (rnG i s.nx B)=Z b':=by
        unfold erHF at D
        grind
       have same:rnG i s.nx B=B->∃b,erHF s.h n=Z b/\ye V (tot E V (erHF s.h)) w (Bx s.nx i) b b':=λe=>by
        rw[e,ma hr (λty l e=>hi.C _ _ l (by rw[A,e]))]at z;exact⟨b',by unfold erHF;rw[A];exact z,ye.refl b'⟩
       cases B with
       |I G b y=>
        by_cases hc:(!(ajd G)&&aB b i)=J
        .have e0:rnG i s.nx (.I G b y)= .I G s.nx y:=by simp only[rnG];rw[aE hc]
         rw[e0]at z;simp only[au,cV]at hc;have hba:=av hc.2;subst hba;cases hix:ix n with
         |succ k=>
          rw[hix]at z;cases G with
          |ar ty a|ir ty T=>cases hc.1
          |_=>cases z
         |zero=>
          rw[hix]at z;have hsrc:erHF s.h n=uv b G y:=by unfold erHF;rw[A,hix];rfl
          rw[hsrc];exact afc z
        .exact same (by simp only[rnG];rw[ax hc])
       |_=>exact same rfl
   .have hs:∀n,ow n≠s.nx->Bx s.nx i n=n:=λn N=>by unfold Bx;rw[ax N]
    have key:∀n b,erHF h' n=Z b->ow n=s.nx->Bx s.nx i n=jC i (ix n):=λn b N L=>by unfold Bx;rw[aE L]
    by_cases L:ow n=s.nx
    .rw[key n b N L]at he;by_cases f1:ow m=s.nx
     .rw[key m b' hm f1]at he;rw[<- kL n,<-kL m,L,f1,(vp he).2]
     .rw[hs m f1]at he;rw[<- he,hdead _ (iK ..)]at hm;cases hm
    .rw[hs n L]at he;by_cases f1:ow m=s.nx
     .rw[key m b' hm f1]at he;rw[he,hdead _ (iK ..)]at N;cases N
     .grind
  .cases h
 .cases h
variable {r:Y TV}
def asp {cty:TS} (c:ju P E nt np V cty S w) {id:Nat} (hb:cty.h.get i=Z (.C (Z s) r)) (hv:r[j]? =Z (.G id)) {ty:TypeId} {ai:Nat} (L:cty.h.get id=Z (.I (.qh ty) ai z)):∃φ',ju P E nt np φ' ⟨cty.e,((cty.h.set id (Z (.qj J 1 (aj z)))).set cty.nx (Z (.I (.qh ty) ai z))).set i (Z (.C (Z s) (splice r j [.G cty.nx]))),cty.nx+1⟩ S w/\xM np V φ' (erHF cty.h) (erHF (((cty.h.set id (Z (.qj J 1 (aj z)))).set cty.nx (Z (.I (.qh ty) ai z))).set i (Z (.C (Z s) (splice r j [.G cty.nx]))))) w w:=by
 have hfr:=c.qz.fresh;have hidlt:=c.qz.low id _ L;have hblt:=c.qz.low i _ hb;have hbid:i≠id:=λe=>by rw[e,L]at hb;cases hb
 have hbn:i≠cty.nx:=by omega
 have hin:id≠cty.nx:=by omega
 generalize hh2:(((cty.h.set id (Z (.qj J 1 (aj z)))).set cty.nx (Z (.I (.qh ty) ai z))).set i (Z (.C (Z s) (splice r j [.G cty.nx]))))=h2;have j9:∀b,h2.get b=if b=i then Z (.C (Z s) (splice r j [.G cty.nx])) else if b=cty.nx then Z (.I (.qh ty) ai z) else if b=id then Z (.qj J 1 (aj z)) else cty.h.get b:=λb=>by
  rw[<- hh2,PT.get_set,PT.get_set,PT.get_set]
 have hr:bY cty.h h2:=λb l hi=>by
  rw[bB]at hi ⊢;rw[j9];by_cases e1:b=i
  .subst e1;rw[hb]at hi;cases hi
  .rw[ax e1];by_cases e2:b=cty.nx
   .subst e2;rw[hfr]at hi;cases hi
   .rw[ax e2];by_cases e3:b=id
    .subst e3;rw[aE rfl];rw[L]at hi;exact hi
    .rw[ax e3];exact hi
 have hlo:=c.qz.C i _ r hb;let⟨l',hl'⟩:=fE cty.h r hlo;have hrow:b_ h2 (.G cty.nx)=Z (dz J cty.nx 1 (l! z)):=by
  simp only[b_,bB,j9];rw[ax hbn.symm];simp only[bq,aD,iJ,sh]
 have hsp:cM h2 (splice r j [.G cty.nx])=Z (splice l' j [dz J cty.nx 1 (l! z)]):=rc _ (gV hr _ _ hl') (by simp only[cM,hrow]);let⟨y,hy,hey⟩:=l_ hl' _ _ hv;have hy0:y=dz J id 1 (l! z):=by
  simp only[b_,bB,L,aD,iJ,sh,ah]at hey;exact hey.symm
 subst hy0;have hinv:gZ h2 (cty.nx+1):=by
  refine ⟨λb ty2 l2 hil=>?_,λb q hiq=>?_⟩
  .rw[j9]at hil;split at hil
   .simp only[ah,fg.C.injEq]at hil;obtain⟨_,rfl⟩:=hil;exact lN _ _ _ hsp
   .split at hil
    .cases hil
    .split at hil
     .cases hil
     .exact fx hr l2 (c.qz.C b _ l2 hil)
  .rw[j9]at hiq;split at hiq
   .omega
   .split at hiq
    .omega
    .split at hiq
     .omega
     .have:=c.qz.low b q hiq;omega
 have hdead:∀n,ow n=id->erHF h2 n=U:=λn hn=>by
  unfold erHF;rw[j9,ax (by omega),ax (by omega),aE hn];simp only[aD];cases ix n<;>rfl
 have hm0:∀n k,ow n=cty.nx->ix n=k+1->erHF h2 n=U:=λn k hn hk=>by
  unfold erHF;rw[j9,ax (by omega),aE hn,hk];rfl
 refine Lt c (λn=>if n=nm cty.nx then nm id else n) (λn hn=>by rw[ax (λe=>hn (by rw[e,dv]))]) hr hinv (λn b' A=>?_) λn m p q hn hm he=>?_
 .show ∃i,erHF cty.h (if n=nm cty.nx then nm id else n)=Z i/\_;by_cases f0:ow n=cty.nx
  .cases hix:ix n with
   |succ k=>rw[hm0 n k f0 hix]at A;cases A
   |zero=>
    have en:n=nm cty.nx:=by rw[<- f0];exact pl hix
    rw[aE en];subst en;rw[bK,j9,ax hbn.symm,aE rfl]at A;rw[bK,L];exact⟨b',A,λφ' O' hφ keep oo hoo=>hoo.mono keep⟩
  .have en:n≠nm cty.nx:=λe=>f0 (by rw[e,dv])
   rw[ax en];by_cases N:ow n=id
   .rw[hdead n N]at A;cases A
   .by_cases f2:ow n=i
    .cases hix:ix n with
     |succ k=>
      unfold erHF at A;rw[j9,aE f2,hix]at A;cases A
     |zero=>
      have eb:n=nm i:=by rw[<- f2];exact pl hix
      subst eb;rw[bK,j9,aE rfl]at A;simp only[aD,kx,hsp,ah]at A;subst A;refine ⟨⟨s,.mx l'⟩,by rw[bK,hb];simp only[aD,kx,hl'],λφ' O' hφ keep oo hoo=>?_⟩;have hlt:j<l! l':=(bz.1 hy).1;have hφ0:φ' (nm cty.nx)=V (nm id):=by rw[hφ];simp
      rw[qQ rfl]at hoo ⊢;let⟨arr,a1,a2⟩:=hoo;refine ⟨arr,a1,?_⟩;unfold vG at a2 ⊢;refine ⟨by simp only[BC.len]at a2 ⊢;rw[nj (by simp;omega)];exact a2.1,λo x D=>?_⟩;simp only[BC.get]at D a2;rw[oa (by simp;omega)]at D;split at D
      .grind
      .split at D
       .rename_i h3 h4;simp only[cH]at h4;have hj:o=j:=by omega
        subst hj;simp only[w_,hY,ah]at D;subst D;let⟨_,v,a3,a4⟩:=a2.2 _ _ hy;refine ⟨by unfold dz;split<;>rfl,v,a3,?_⟩;unfold dz at a4 ⊢;by_cases hz:l! z=0
        .grind
        .rw[ax (by simpa using hz)]at a4 ⊢;exact Lr hφ0 a4
       .grind
    .cases D:cty.h.get (ow n) with
     |none=>
      unfold erHF at A;rw[j9,ax f2,ax f0,ax N,D]at A;cases A
     |some B=>
      unfold erHF at A;rw[j9,ax f2,ax f0,ax N,D]at A;simp only[aD]at A;rw[ma hr (λty r e=>c.qz.C _ _ r (by rw[D,e]))]at A;exact⟨b',by unfold erHF;rw[D];exact A,λφ' O' hφ keep oo hoo=>hoo.mono keep⟩
 .have he:(if n=nm cty.nx then nm id else n)=(if m=nm cty.nx then nm id else m):=he;by_cases f0:n=nm cty.nx
  .rw[aE f0]at he;by_cases N:m=nm cty.nx
   .rw[f0,N]
   .rw[ax N]at he;rw[<- he,hdead _ (dv id)]at hm;cases hm
  .rw[ax f0]at he;by_cases N:m=nm cty.nx
   .rw[aE N]at he;rw[he,hdead _ (dv id)]at hn;cases hn
   .rw[ax N]at he;exact he
def asd {s:TS} (c:ju P E nt np V s S w) {s':TS} (h:ase s i=Z s'):s'.e=s.e/\∃φ',ju P E nt np φ' s' S w/\xM np V φ' (erHF s.h) (erHF s'.h) w w:=by
 unfold ase at h;split at h
 next z=>exact asi c z h
 next z=>exact asf c z h
 .split at h
  .cases h
  .exact asj c h
 .cases h
def X3 {s:TS} (c:ju P E nt np V s S w) (N:bY s.h h) (D:erHF h=erHF s.h) (hinv:gZ h (s.nx+1)):ju P E nt np V ⟨s.e,h,s.nx+1⟩ S w/\xM np V V (erHF s.h) (erHF h) w w:=by
 refine ⟨⟨by rw[D];exact c.zk,λt x A=>?_,λn k hk=>my (c.dom n k hk),fX c.low,hinv,λt x A=>mX N x (c.qp t x A),c.inert,c.size⟩,by rw[D];exact xM.refl _ _ _ _⟩;rw[D];simp[fK]at A;cases he:s.e.get t with
 |none=>rw[he]at A;cases A
 |some q=>
  rw[he]at A;let⟨z,L⟩:=pi s.h q (c.qp t q he);simp[aD,fS N q z L,ah]at A;subst A;exact c.env t _ (by simp[fK,he,aD,L])
def axa {s:TS} (c:ju P E nt np V s S w) {φ:Ty} {es:Y (T.den×φ.den)} (hb:s.h.get i=Z (.mp T φ es)) (hE:mpE T φ es=J) (ty:TypeId) (a:Ty):ju P E nt np V ⟨s.e,(s.h.set i (Z (.I .zq s.nx []))).set s.nx (Z (.I (.ar ty a) 0 [])),s.nx+1⟩ S w/\xM np V V (erHF s.h) (erHF ((s.h.set i (Z (.I .zq s.nx []))).set s.nx (Z (.I (.ar ty a) 0 [])))) w w:=by
 have hfr:=c.qz.fresh;have hlt:=c.qz.low i _ hb;generalize N:(s.h.set i (Z (.I .zq s.nx []))).set s.nx (Z (.I (.ar ty a) 0 []))=h';have D:∀id,h'.get id=if id=s.nx then Z (.I (.ar ty a) 0 []) else if id=i then Z (.I .zq s.nx []) else s.h.get id:=λid=>by
  rw[<- N,PT.get_set,PT.get_set]
 have L:bY s.h h':=λid q hi=>by
  rw[bB]at hi ⊢;rw[D];by_cases A:id=s.nx
  .grind
  .rw[ax A];by_cases z:id=i
   .rw[z,hb]at hi;cases hi
   .grind
 refine X3 c L ?_ ⟨λid ty l hil=>?_,λid c' hic=>?_⟩
 .funext n;unfold erHF;rw[D];by_cases A:ow n=s.nx
  .rw[aE A,A,hfr];cases ix n<;>rfl
  .rw[ax A];by_cases z:ow n=i
   .rw[aE z,z,hb];simp[aD];cases ix n with
    |succ k=>rfl
    |zero=>
     simp[Pn,kx,E6 (aiw hE),Ta hE,C2];rfl
   .rw[ax z];cases hx:s.h.get (ow n) with
    |none=>rfl
    |some B=>exact ma L (λty l e=>c.qz.C _ _ l (by rw[hx,e])) _ _
 .rw[D]at hil;split at hil
  .cases hil
  .split at hil
   .cases hil
   .exact fx L l (c.qz.C id _ l hil)
 .rw[D]at hic;split at hic
  .omega
  .split at hic
   .omega
   .have:=c.qz.low id c' hic;omega
def ax6 {s:TS} (c:ju P E nt np V s S w) (ai:Nat) (ty:TypeId):ju P E nt np V ⟨s.e,s.h.set s.nx (Z (.I (.qh ty) ai [])),s.nx+1⟩ S w/\erHF (s.h.set s.nx (Z (.I (.qh ty) ai [])))=erHF s.h:=by
 have hfr:=c.qz.fresh;have z:bY s.h (s.h.set s.nx (Z (.I (.qh ty) ai []))):=bY.set λr z=>by rw[bB,hfr]at z;cases z
 have D:erHF (s.h.set s.nx (Z (.I (.qh ty) ai [])))=erHF s.h:=by
  funext n;unfold erHF;rw[PT.get_set];by_cases A:ow n=s.nx
  .rw[aE A,A,hfr];cases ix n<;>rfl
  .rw[ax A];cases L:s.h.get (ow n) with
   |none=>rfl
   |some B=>exact ma z (λty l e=>c.qz.C _ _ l (by rw[L,e])) _ _
 exact⟨(X3 c z D (c.qz.set z (nZ _) (Sk _) (λ_ _ he=>by cases he))).1,D⟩
end ren
def CR:∀(l:Y uB) (acc:Nat),Us l acc=acc|||Us l 0
 |[],acc=>by simp[Us]
 |o::r,acc=>by
  simp only[Us];cases o.dst with
  |none=>exact CR r acc
  |some d=>simp only[];rw[CR r (acc|||gA d),CR r (0|||gA d),wK,kJ]
def Df:∀(l:ι) (acc:Nat),PI l acc=acc|||PI l 0
 |[],acc=>by simp[PI]
 |k::r,acc=>by simp only[PI];rw[Df r (acc|||gA k),Df r (0|||gA k),wK,kJ]
def kH:∀(l:Y Adj) (acc:Nat),mR l acc=acc|||mR l 0
 |[],acc=>by simp[mR]
 |.nil k _ _::r,acc=>by simp only[mR];rw[kH r (acc|||gA k),kH r (0|||gA k),wK,kJ]
 |.qc _ _ _ _::r,acc|.mpt _ _ _::r,acc=>by exact kH r acc
 |.qx k _::r,acc=>by simp only[mR];rw[kH r (acc|||gA k),kH r (0|||gA k),wK,kJ]
 |.pk _ _ _::r,acc|.fmp _ _ _ _::r,acc|.frw _ _ _ _::r,acc|.jg _ _::r,acc=>by exact kH r acc
def g_:∀(c:TC) (acc:Nat),c.asg acc=acc|||c.asg 0
 |.jy ops _,acc=>CR ops acc
 |.seq a b,acc=>by simp[TC.asg];rw[g_ b (a.asg acc),g_ b (a.asg 0),g_ a acc,kJ]
 |.jx A a b,acc=>by simp[TC.asg];rw[g_ b (a.asg _),g_ b (a.asg (PI A.ks 0)),g_ a (PI A.ks acc),g_ a (PI A.ks 0),Df A.ks acc,kJ,kJ,kJ]
 |.cond _ a b,acc=>by simp[TC.asg];rw[g_ b (a.asg acc),g_ b (a.asg 0),g_ a acc,kJ]
 |.block _ b,acc=>g_ b acc
 |.zf A _ b,acc|.loop A b,acc=>by simp[TC.asg];rw[g_ b (PI A.ks acc),g_ b (PI A.ks 0),Df A.ks acc,kJ]
 |.defer _ _ t,acc=>by simp[TC.asg]
 |.adj l c,acc=>by simp[TC.asg];rw[g_ c (mR l acc),g_ c (mR l 0),kH l acc,kJ]
 |.split _ _ _ _ c,acc=>g_ c acc
 |.bsp _ a b,acc=>by simp[TC.asg];rw[g_ b (a.asg acc),g_ b (a.asg 0),g_ a acc,kJ]
 |.unl _ b,acc=>g_ b acc
 |.skip,acc|.exit _,acc|.ret,acc|.jq,acc=>by simp[TC.asg]
variable {i j:Nat}
def vD {c:TC} (h:aO (c.asg 0) j=J):aO (c.asg i) j=J:=by rw[g_,bw,h];simp
def kl {c:TC} (h:aO i j=J):aO (c.asg i) j=J:=by rw[g_,bw,h];rfl
def abz:∀{l:ι} {acc k:Nat},k∈l->aO (PI l acc) k=J
 |[],_,_,h=>by cases h
 |x::r,acc,k,h=>by
  simp[PI];rcases a_.1 h with rfl|h
  .rw[Df,bw,bw,bt.2 rfl];simp
  .exact abz h
def XW:∀{l:Y uB} {acc:Nat} {o:uB} {d:Nat},o∈l->o.dst=Z d->aO (Us l acc) d=J
 |[],_,_,_,h,_=>by cases h
 |x::r,acc,o,d,h,hd=>by
  simp[Us];rcases a_.1 h with rfl|h
  .rw[hd];rw[CR,bw,bw,bt.2 rfl];simp
  .exact XW h hd
def aca:∀{e:hZ} {z:ι} {vs:Y TV},j9 e z=Z vs->l! vs=l! z/\∀(j k:Nat),z[j]? =Z k->∃v,vs[j]? =Z v/\e.get k=Z v
 |e,[],vs,h=>by simp[j9,ah]at h;subst h;exact⟨rfl,by simp⟩
 |e,k::r,vs,h=>by
  simp[j9]at h;split at h
  .rename_i v L;split at h
   .rename_i l N;simp[ah]at h;subst h;let⟨h1,h2⟩:=aca N;refine ⟨by simp[h1],λj D A=>?_⟩;cases j with
    |zero=>simp at A;subst A;exact⟨v,rfl,L⟩
    |succ j=>simpa using h2 j D (by grind)
   .cases h
  .cases h
variable {h:aY}
def Ml {e:hZ} (hi:sH e h):∀{A:ι} {vs:Y TV},j9 e A=Z vs->lH h vs=J
 |[],vs,z=>by simp[j9,ah]at z;subst z;rfl
 |k::r,vs,z=>by
  simp[j9]at z;split at z
  .rename_i v D;split at z
   next l L=>simp[ah]at z;subst z;simp[lH,au];exact⟨hi k v D,Ml hi L⟩
   .cases z
  .cases z
def Fv:∀{e:hZ} {z:ι} {vs:Y TV},l! vs=l! z->∀t v,(ae4 e z vs).get t=Z v->(∃j:Nat,z[j]? =Z t/\vs[j]? =Z v)\/(t∉z/\e.get t=Z v)
 |e,[],[],_,t,v,h=>.inr ⟨by simp,h⟩
 |e,[],_::_,A,t,v,h|e,_::_,[],A,t,v,h=>by simp at A
 |e,k::r,u::l,A,t,v,h=>by
  simp[ae4,PT.get_set]at h;split at h
  next L=>subst L;cases h;exact .inl ⟨0,rfl,rfl⟩
  .rename_i L;rcases Fv (by grind) t v h with ⟨j,h1,D⟩|⟨h1,D⟩
   .exact .inl ⟨j+1,by simpa using h1,by simpa using D⟩
   .grind
def vL {e:hZ}:∀{A:ι} {k:Nat} {v:TV},(F9 i e A).get k=Z v->k∈A/\e.get k=Z v/\wq v=J/\aO i k=af
 |[],k,v,h=>by simp[F9,PT.get]at h
 |x::r,k,v,h=>by
  simp[F9]at h;split at h
  .rename_i u D;split at h
   .rename_i L;rw[PT.get_set]at h;split at h
    .grind
    .obtain⟨h1,z⟩:=vL h;exact⟨by simp[h1],z⟩
   .obtain⟨h1,z⟩:=vL h;exact⟨by simp[h1],z⟩
  .obtain⟨h1,z⟩:=vL h;exact⟨by simp[h1],z⟩
def MH {e0 e:hZ}:∀{z:ι},LB i e0 e z=J->∀k v,k∈z->e0.get k=Z v->wq v=J->aO i k=af->∃D,e.get k=Z D
 |[],_,k,v,h,_,_,_=>by cases h
 |x::r,A,k,v,h,L,hf,N=>by
  simp[LB,au]at A;rcases a_.1 h with rfl|h
  .grind
  .exact MH A.2 k v h L hf N
section walk
variable {P:Program} {E:Nat->Prop} {nt np:Nat}
variable {y:AV} {u:TV}
def WD (A:ajb u=J) (z:b_ h u=Z y):Le y .emp:=by
 cases u with
 |nil=>simp[b_,ah]at z;subst z;exact Le.nilEmp
 |emp=>simp[b_,ah]at z;subst z;exact Le.refl _
 |_=>cases A
variable {w:World} {V:PM} {S:Act}
def ada {s:TS} (c:ju P E nt np V s S w) (ty:TypeId) (T:Ty):ju P E nt np V ⟨s.e,s.h.set s.nx (Z (.F ty J T [])),s.nx+1⟩ S w/\erHF (s.h.set s.nx (Z (.F ty J T [])))=erHF s.h/\bY s.h (s.h.set s.nx (Z (.F ty J T []))):=by
 have hfr:=c.qz.fresh;have D:bY s.h (s.h.set s.nx (Z (.F ty J T []))):=bY.set λr D=>by rw[bB,hfr]at D;cases D
 have L:erHF (s.h.set s.nx (Z (.F ty J T [])))=erHF s.h:=by
  funext n;by_cases hn:n=nm s.nx
  .subst hn;rw[bK,bK,PT.get_set,aE rfl,hfr];rfl
  .refine mN c.qz D (iH.set (by rw[hfr];rfl) rfl) λi e=>?_
   subst e;rw[PT.get_set,ax (λe=>hn (by rw[e]))]
 refine ⟨⟨by rw[L];exact c.zk,?_,λn k hk=>my (c.dom n k hk),fX c.low,c.qz.set D (nZ _) (Sk _) (λ_ _ he=>by cases he),?_,c.inert,c.size⟩,L,D⟩
 .intro t x A;rw[L];simp[fK]at A;cases he:s.e.get t with
  |none=>rw[he]at A;cases A
  |some q=>
   rw[he]at A;let⟨z,N⟩:=pi s.h q (c.qp t q he);simp[aD,fS D q z N,ah]at A;subst A;exact c.env t _ (by simp[fK,he,aD,N])
 .intro t x A;exact mX D x (c.qp t x A)
def BV :∀{a b:Y TV},lH h a=J->lH h b=J->lH h (a++b)=J
 |[],_,_,z=>z
 |x::r,b,A,z=>by
  simp[lH,au]at A;simp[gI,lH,au];exact⟨A.1,BV A.2 z⟩
def Rm :∀{a:Y TV} (n:Nat),lH h a=J->lH h (a.take n)=J
 |[],n,_=>by simp[lH]
 |x::r,0,_=>rfl
 |x::r,n+1,z=>by
  simp[lH,au]at z;simp[yi,lH,au];exact⟨z.1,Rm n z.2⟩
def Rn :∀{a:Y TV} (n:Nat),lH h a=J->lH h (a.drop n)=J
 |[],n,_=>by simp[lH]
 |x::r,0,z=>z
 |x::r,n+1,z=>by
  simp[lH,au]at z;exact Rn n z.2
variable {R:Type}
def BP {l:Y R} {x:R} (h:l[j]? =Z x):splice l j [x]=l:=by
 have z:j<l! l:=by grind
 rw[aH z,ah]at h;unfold splice;subst h;simp
def X4 {s:TS} (c:ju P E nt np V s S w) {id:Nat} {cty:M TypeId} {l:Y TV} {v:TV} (N:s.h.get id=Z (.C cty l)) (hv:l[j]? =Z v) (hn:ajb v=J) (hu:b_ s.h u=Z .emp) (huo:PD s.h u=J):
 ju P E nt np V ⟨s.e,s.h.set id (Z (.C cty (splice l j [u]))),s.nx⟩ S w/\xM np V V (erHF s.h) (erHF (s.h.set id (Z (.C cty (splice l j [u]))))) w w:=by
 have D:bY s.h (s.h.set id (Z (.C cty (splice l j [u])))):=bY.set λr D=>by rw[bB,N]at D;cases D
 have hlo:=c.qz.C id _ l N;let⟨l',L⟩:=fE s.h l hlo;have hsp:cM s.h (splice l j [u])=Z (splice l' j [.emp]):=rc j L (by simp[cM,hu]);have hsp':cM (s.h.set id (Z (.C cty (splice l j [u])))) (splice l j [u])=Z (splice l' j [.emp]):=gV D _ _ hsp;let⟨y,hy,hey⟩:=l_ L j v hv;have hold:erHF s.h (nm id)=Z (akl cty l'):=by rw[bK,N];cases cty<;>(simp [aD,kx,L];rfl)
 have hnew:erHF (s.h.set id (Z (.C cty (splice l j [u])))) (nm id)=Z (akl cty (splice l' j [.emp])):=by
  rw[bK,PT.get_set,aE rfl];cases cty<;>(simp [aD,kx,hsp'];rfl)
 have hoth:∀n,n≠nm id->erHF (s.h.set id (Z (.C cty (splice l j [u])))) n=erHF s.h n:=λn hn'=>by
  refine mN c.qz D (iH.set (by rw[N];rfl) rfl) λi e=>?_
  subst e;rw[PT.get_set,ax (λe=>hn' (by rw[e]))]
 have hdom:rx (erHF s.h) (erHF (s.h.set id (Z (.C cty (splice l j [u]))))):=λn b hb'=>by grind
 have hcell:∀ty,cty=Z ty->∀x∈l',x.isCell=J:=λty hty x A=>by
  subst hty;let⟨k,hk⟩:=gi A;let⟨q,_,_,hat⟩:=c.zk.at_ _ _ hold;let⟨ob,_,hob⟩:=hat;let⟨arr,_,hca⟩:=hob;exact (hca.2 k x hk).1
 have hV:OX (erHF s.h) (erHF (s.h.set id (Z (.C cty (splice l j [u]))))):=⟨hdom,λn b b' h1 h2=>by
  by_cases e:n=nm id
  .subst e;rw[hold]at h1;cases h1;rw[hnew]at h2;cases h2;have hle:gX (erHF s.h) (erHF (s.h.set id (Z (.C cty (splice l j [u]))))) l' (splice l' j [.emp]):=by
    have:=gX.splice j (gX.refl hdom l') (b:=[y]) (b':=[.emp]) ⟨(WD hn hey).toH hdom,trivial⟩;rw[BP hy]at this;exact this
   cases cty with
   |none=>exact gp.none
   |some ty=>
    refine gp.C rfl rfl hle λx A=>?_
    have A:x∈splice l' j [.emp]:=A;unfold splice at A;rw[bO,bO,aC]at A;rcases A with (A|A)|A
    .grind
    .subst A;rfl
    .grind
  .rw[hoth n e,h1]at h2;cases h2;exact gp.refl hdom b⟩
 refine ⟨⟨hV.zk c.zk,?_,c.dom,c.low,c.qz.set D (c.qz.low id _ N) (bJ _) (λty l2 he=>?_),?_,c.inert,c.size⟩,⟨I5.refl _ _,λk _ ho=>hdom.own ho,λ_ _=>rfl⟩⟩
 .intro t x A;simp[fK]at A;cases he:s.e.get t with
  |none=>rw[he]at A;cases A
  |some q=>
   rw[he]at A;let⟨z,hz⟩:=pi s.h q (c.qp t q he);simp[aD,fS D q z hz,ah]at A;subst A;exact (c.env t _ (by simp[fK,he,aD,hz])).dom hdom
 .simp[fg.C.injEq]at he;obtain⟨_,rfl⟩:=he;refine fx D _ ?_;exact BV (BV (Rm _ hlo) (by simp only[lH,huo,io])) (Rn _ hlo)
 .intro t x A;exact mX D x (c.qp t x A)
def ju.congr {s s':TS} (c:ju P E nt np V s S w) (he:∀t,s'.e.get t=s.e.get t) (hh:∀i,s'.h.get i=s.h.get i) (N:s'.nx=s.nx):ju P E nt np V s' S w/\erHF s'.h=erHF s.h:=by
 have L:bY s.h s'.h:=λi r hi=>by rw[bB]at hi ⊢;rw[hh];exact hi
 have hH:erHF s'.h=erHF s.h:=by funext n;exact mN c.qz L (λi k=>by rw[hh]) λi _=>hh i
 refine ⟨⟨by rw[hH];exact c.zk,?_,by rw[N];exact c.dom,by rw[N];exact c.low,⟨λi ty l A=>?_,λi b A=>?_⟩,λt v hv=>?_,c.inert,c.size⟩,hH⟩
 .intro t x D;rw[hH];simp[fK,he]at D;cases A:s.e.get t with
  |none=>rw[A]at D;cases D
  |some v=>
   rw[A]at D;let⟨z,hz⟩:=pi s.h v (c.qp t v A);simp[aD,fS L v z hz,ah]at D;subst D;exact c.env t _ (by simp[fK,A,aD,hz])
 .rw[hh]at A;exact fx L l (c.qz.C i _ l A)
 .rw[hh]at A;rw[N];exact c.qz.low i b A
 .rw[he]at hv;exact mX L v (c.qp t v hv)
variable {a:Int}
def UW {f:Nat->M R} {r:R}:∀{m i:Nat},spl a f i m=Z r->∃j,a=aS j/\f j=Z r
 |0,i,h=>by cases h
 |m+1,i,h=>by
  rcases mP h with ⟨h1,z⟩|⟨_,z⟩
  .grind
  .exact UW z
def ahq {s s':TS} (c:ju P E nt np V s S w) {kd:IntKind} {v:Int} (h1:ajh s i j=Z (kd,v)) (z:YF s i j kd v=Z s'):ju P E nt np V s' S w/\erHF s'.h=erHF s.h/\∀t,s'.e.get t=s.e.get t:=by
 unfold ajh at h1;unfold YF at z;cases hk:s.e.get i with
 |none=>rw[hk]at h1;cases h1
 |some x=>
  rw[hk]at h1 z;cases x with
  |f T q=>
   cases T with
   |int kd'=>
    simp[ah,aT]at h1;obtain⟨rfl,rfl⟩:=h1;simp[ah]at z;subst z;have he:∀t,(s.e.set i (Z (.f (.int kd') q))).get t=s.e.get t:=λt=>by
     rw[PT.get_set];split
     .grind
     .rfl
    let⟨g1,N⟩:=c.congr (s':=⟨s.e.set i (Z (.f (.int kd') q)),s.h,s.nx⟩) he (λ_=>rfl) rfl;exact⟨g1,N,he⟩
   |_=>cases h1
  |H a0 A=>
   simp[]at h1 z;cases L:s.h.get a0 with
   |none=>rw[L]at h1;cases h1
   |some b=>
    rw[L]at h1 z;cases b with
    |C ty l=>
     cases ty with
     |none=>cases h1
     |some ty=>
     simp only[]at h1 z;cases D:l[A+j]? with
     |none=>rw[D]at h1;cases h1
     |some y=>
      rw[D]at h1;cases y with
      |f T q=>
       cases T with
       |int kd'=>
        simp[ah,aT]at h1;obtain⟨rfl,rfl⟩:=h1;simp[ah]at z;subst z;have hh:∀k,(s.h.set a0 (Z (.C (Z ty) (splice l (A+j) [.f (.int kd') q])))).get k=s.h.get k:=λk=>by
         rw[PT.get_set];split
         next e=>subst e;rw[L,BP D]
         .rfl
        let⟨g1,N⟩:=c.congr (s':=⟨s.e,s.h.set a0 (Z (.C (Z ty) (splice l (A+j) [.f (.int kd') q]))),s.nx⟩) (λ_=>rfl) hh rfl;exact⟨g1,N,λ_=>rfl⟩
       |_=>cases h1
      |_=>cases h1
    |_=>cases h1
  |_=>cases h1
mutual
def Q9 (id sz n:Nat):∀v:TV,wq v=J->Ps id sz n v=v
 |.f _ _,_|.zd _ _ _ _ _,_|.emp,_|.nil,_|.undef,_|.np,_|.qw,_=>rfl
 |.agg l,h|.qg l,h=>by simp[Ps];rw[EO id sz n l h]
 |.zg _ _ _ _,h|.H _ _,h|.qy _ _ _,h|.G _,h|.zl _ _,h|.mp _,h|.qv _ _,h|.sb _,h=>by cases h
def EO (id sz n:Nat):∀l:Y TV,r7 l=J->I_ id sz n l=l
 |[],_=>rfl
 |x::r,h=>by
  simp[r7,au]at h;simp only[I_];rw[Q9 id sz n x h.1,EO id sz n r h.2]
end
section subs
variable {id sz n:Nat} {h h':aY}
mutual
def Su (hr:bY h h') (hid:eM h' id=Z (af,sz,n)):∀(v:TV) (y:AV),b_ h v=Z y->b_ h' (Ps id sz n v)=Z y
 |.qy i s m,y,he=>by
  simp[b_,ah]at he;subst he;simp only[Ps];split
  .rename_i hq;simp only[au]at hq;have e1:=av hq.1.1;have e2:=av hq.1.2;have e3:=av hq.2;subst e1 e2 e3;simp[b_,hid,dz,mi,cZ,dV]
  .rfl
 |.agg l,y,he|.qg l,y,he|.qv g l,y,he=>by
  simp[b_]at he;cases hl:cM h l with
  |none=>rw[hl]at he;cases he
  |some l'=>rw[hl]at he;simp only[Ps,b_,yq hr hid l l' hl];exact he
 |.f T v,y,he|.zd T xs j hj off,y,he|.zg _ _ _ _,y,he|.H _ _,y,he|.G _,y,he|.zl _ _,y,he|.emp,y,he|.nil,y,he|.mp _,y,he|.undef,y,he|.np,y,he|.qw,y,he|.sb _,y,he=>fS hr _ _ he
def yq (hr:bY h h') (hid:eM h' id=Z (af,sz,n)):∀(l:Y TV) (l':Y AV),cM h l=Z l'->cM h' (I_ id sz n l)=Z l'
 |[],l',he=>by simp[cM,ah]at he;subst he;rfl
 |x::r,l',he=>by
  obtain⟨y,l2,rfl,h1,h2⟩:=c9 he;exact qi (Su hr hid x y h1) (yq hr hid r l2 h2)
end
end subs
variable {T:Ty}
def awp {s:TS} (c:ju P E nt np V s S w) {n:Nat} {s':TS} (hp:pkS s T i j n=Z s'):ju P E nt np V s' S w/\xM np V V (erHF s.h) (erHF s'.h) w w/\fI 0 s.e s'.e:=by
 unfold pkS at hp;split at hp
 .rename_i ty l hb;split at hp
  .rename_i hs;have hs:=av hs;subst hs;split at hp
   .rename_i xs m hpk;split at hp
    .cases hp
    .rename_i hmid;cases hp;have hm:dM s.h m:=SJ n l xs m hpk;let⟨l',hl⟩:=fE s.h l (c.qz.C i _ l hb);have hidlt:=c.qz.low i _ hb;have j9:∀id,((PT.updI (λ_ b=>YA i T.size n b) 1 0 (dP m s.h)).set i (Z (.F ty af T xs))).get id=if id=i then Z (.F ty af T xs) else if aO m id then (s.h.get id).map vb else (s.h.get id).map (YA i T.size n):=λid=>by
      rw[PT.get_set];by_cases e:id=i
      .rw[aE e,aE e]
      .rw[ax e,ax e,PT.get_updI,iN];split
       .cases A:s.h.get id with
        |none=>rfl
        |some b=>
         let⟨p1,s1,n1,e1⟩:=MF b;simp only[bx,e1,YA]
       .rfl
     generalize hH2:((PT.updI (λ_ b=>YA i T.size n b) 1 0 (dP m s.h)).set i (Z (.F ty af T xs)))=h2 at j9 ⊢;have hr:bY s.h h2:=λid r hi=>by
      rw[bB]at hi ⊢;rw[j9];by_cases e:id=i
      .subst e;rw[hb]at hi;cases hi
      .rw[ax e];cases A:s.h.get id with
       |none=>rw[A]at hi;cases hi
       |some b=>
        rw[A]at hi;split
        .exact Rg hi
        .cases b<;>first|exact hi|cases hi
     have hnone:∀id,aO m id=J->erHF h2 (nm id)=U:=λid hi=>by
      have e:id≠i:=λe=>by subst e;exact hmid hi
      let⟨ty',p',T',xs',L⟩:=hm id hi;rw[bK,j9,ax e,aE hi,L];rfl
     have hme:iH s.h h2:=λid k=>by
      rw[j9];by_cases e:id=i
      .rw[aE e,e,hb];rfl
      .rw[ax e];split
       next hmi=>let⟨ty',p',T',xs',L⟩:=hm id hmi;rw[L];rfl
       .cases A:s.h.get id with
        |none=>rfl
        |some b=>cases b<;>rfl
     have hdom:rx (erHF s.h) (erHF h2):=λq b hq=>by
      rcases Ns hme hq with h0|⟨id,cc,rfl,D,h4⟩
      .exact⟨b,h0⟩
      rw[bK];rw[j9]at D;by_cases e:id=i
      .subst e;rw[hb];simp only[aD,kx,hl];exact⟨_,rfl⟩
      .rw[ax e]at D;cases A:s.h.get id with
       |none=>rw[A]at D;split at D<;>cases D
       |some b0=>
        rw[A]at D;split at D
        .grind
        .simp only[bx,ah]at D;subst D;simp only[aD];cases b0 with
         |C ty0 l0=>
          let⟨l0',hl0⟩:=fE s.h l0 (c.qz.C id _ l0 A);exact⟨akl ty0 l0',by cases ty0<;>(simp only[kx,hl0];rfl)⟩
         |_=>exact⟨_,h4⟩
     have giv:Fl s.h (erHF s.h) (erHF h2) m:=λid hi=>⟨rfl,hnone id hi⟩
     let⟨hle,hlen⟩:=FJ hdom n l xs m l' hpk hl giv;have hrow:eM h2 i=Z (af,T.size,n):=by rw[bB,j9,aE rfl,<-hlen];rfl
     have hV:OX (erHF s.h) (erHF h2):=⟨hdom,λq b b' D h4=>by
      rcases Ns hme h4 with h0|⟨id,cc,rfl,h5,h6⟩
      .rw[D]at h0;cases h0;exact gp.refl hdom _
      rw[bK]at D;rw[j9]at h5;by_cases e:id=i
      .subst e;rw[aE rfl]at h5;cases h5;rw[hb]at D;simp only[aD,kx,hl,ah]at D;subst D;simp only[kx,mi,cZ,dV,ah]at h6;subst h6;refine gp.C rfl rfl hle λx L=>?_
       simp only[BC.toMx]at L;obtain⟨q,hq,rfl⟩:=cu.1 L;exact l9 T _ q hq
      .rw[ax e]at h5;cases A:s.h.get id with
       |none=>rw[A]at h5;split at h5<;>cases h5
       |some b0=>
        rw[A]at h5 D;split at h5
        .grind
        .simp only[bx,ah]at h5;subst h5;have:b=b':=by
          simp only[aD]at D;cases b0 with
          |C ty0 l0=>
           let⟨l0',hl0⟩:=fE s.h l0 (c.qz.C id _ l0 A);cases ty0<;>
            (simp only[kx,hl0,ah]at D
             simp only[YA,kx,yq hr hrow l0 l0' hl0,ah]at h6;rw[<- D,<-h6])
          |F ty1 p1 T1 xs1=>
           have N:kx h2 (.F ty1 p1 T1 xs1)=Z b:=D;exact fL (N.symm.trans h6)
          |qj p1 s1 n1=>
           have N:kx h2 (.qj p1 s1 n1)=Z b:=D;exact fL (N.symm.trans h6)
          |mp K1 V1 es1=>
           have N:kx h2 (.mp K1 V1 es1)=Z b:=D;exact fL (N.symm.trans h6)
          |I F1 a1 x1=>
           have N:kx h2 (.I F1 a1 x1)=Z b:=D;exact fL (N.symm.trans h6)
          |qm F1 a1 x1 k1 p1=>
           have N:kx h2 (.qm F1 a1 x1 k1 p1)=Z b:=D;exact fL (N.symm.trans h6)
         subst this;exact gp.refl hdom b⟩
     refine ⟨⟨hV.zk c.zk,?_,c.dom,c.low,⟨λid ty' l2 A=>?_,λid b A=>?_⟩,?_,c.inert,c.size⟩,⟨I5.refl _ _,λk _ hk=>hdom.own hk,λ_ _=>rfl⟩,?_⟩
     .intro t x L;simp only[fK,PT.get_updI]at L;cases he:s.e.get t with
      |none=>rw[he]at L;cases L
      |some v=>
       rw[he]at L;let⟨z,hz⟩:=pi s.h v (c.qp t v he);simp only[bx,aD,Su hr hrow v z hz,ah]at L;subst L;exact (c.env t _ (by simp only[fK,he,aD,hz])).dom hdom
     .rw[j9]at A;by_cases e:id=i
      .rw[aE e]at A;cases A
      .rw[ax e]at A;cases hg0:s.h.get id with
       |none=>rw[hg0]at A;split at A<;>cases A
       |some b0=>
        rw[hg0]at A;split at A
        .simp only[bx,ah]at A;exact (B6 A).elim
        .simp only[bx,ah]at A;cases b0 with
         |C ty0 l0=>
          simp only[YA,fg.C.injEq]at A;obtain⟨_,rfl⟩:=A;let⟨l0',hl0⟩:=fE s.h l0 (c.qz.C id _ l0 hg0);exact lN _ _ _ (yq hr hrow l0 l0' hl0)
         |_=>cases A
     .rw[j9]at A;by_cases e:id=i
      .subst e;exact hidlt
      .rw[ax e]at A;cases hg0:s.h.get id with
       |none=>rw[hg0]at A;split at A<;>cases A
       |some b0=>exact c.qz.low id b0 hg0
     .intro t x L;simp only[PT.get_updI]at L;cases he:s.e.get t with
      |none=>rw[he]at L;cases L
      |some v=>
       rw[he]at L;simp only[bx,ah]at L;subst L;let⟨z,hz⟩:=pi s.h v (c.qp t v he);exact Iy _ _ _ (Su hr hrow v z hz)
     .intro k _ v' hv';simp only[PT.get_updI]at hv';cases he:s.e.get k with
      |none=>rw[he]at hv';cases hv'
      |some v=>
       rw[he]at hv';simp only[bx,ah]at hv';subst hv';exact⟨v,rfl,λhf=>Q9 _ _ _ v hf⟩
   .cases hp
  .cases hp
 .cases hp
def awl {s:TS} (c:ju P E nt np V s S w) {s':TS} (h:K_ s (.qx i j)=Z s'):∃φ',ju P E nt np φ' s' S w/\xM np V φ' (erHF s.h) (erHF s'.h) w w/\fI (mR [.qx i j] 0) s.e s'.e:=by
 simp only[K_]at h;split at h
 .rename_i b o hk;split at h
  .rename_i cty l hb;split at h
   .rename_i id hv;split at h
    .rename_i ty p T xs D;cases h;have hfr:=c.qz.fresh;have hidlt:=c.qz.low id _ D;have hblt:=c.qz.low b _ hb;have hbid:b≠id:=λe=>by rw[e,D]at hb;cases hb
     have hbn:b≠s.nx:=by omega
     have hin:id≠s.nx:=by omega
     generalize hh2:(((s.h.set id (Z (.qj p T.size (l! xs)))).set s.nx (Z (.F ty p T xs))).set b (Z (.C (Z cty) (splice l (o+j) [.G s.nx]))))=L;have j9:∀k,L.get k=if k=b then Z (.C (Z cty) (splice l (o+j) [.G s.nx])) else if k=s.nx then Z (.F ty p T xs) else if k=id then Z (.qj p T.size (l! xs)) else s.h.get k:=λk=>by
      rw[<- hh2,PT.get_set,PT.get_set,PT.get_set]
     have hr:bY s.h L:=λk r hi=>by
      rw[bB]at hi ⊢;rw[j9];by_cases e1:k=b
      .subst e1;rw[hb]at hi;cases hi
      .rw[ax e1];by_cases e2:k=s.nx
       .subst e2;rw[hfr]at hi;cases hi
       .rw[ax e2];by_cases N:k=id
        .subst N;rw[aE rfl];rw[D]at hi;exact hi
        .rw[ax N];exact hi
     have hlo:=c.qz.C b _ l hb;let⟨l',hl'⟩:=fE s.h l hlo;have hrow:b_ L (.G s.nx)=Z (dz p s.nx T.size (l! xs)):=by
      simp only[b_,bB,j9];rw[ax hbn.symm];simp only[bq,aD,iJ]
     have hsp:cM L (splice l (o+j) [.G s.nx])=Z (splice l' (o+j) [dz p s.nx T.size (l! xs)]):=rc _ (gV hr _ _ hl') (by simp only[cM,hrow]);let⟨y,hy,hey⟩:=l_ hl' _ _ hv;have hy0:y=dz p id T.size (l! xs):=by
      simp only[b_,bB,D,aD,iJ,ah]at hey;exact hey.symm
     subst hy0;have hold:erHF s.h (nm b)=Z ⟨cty,.mx l'⟩:=by rw[bK,hb];simp only[aD,kx,hl']
     have hnew:erHF L (nm b)=Z ⟨cty,.mx (splice l' (o+j) [dz p s.nx T.size (l! xs)])⟩:=by
      rw[bK,j9,aE rfl];simp only[aD,kx,hsp]
     have hdead:erHF L (nm id)=U:=by rw[bK,j9,ax hbid.symm,ax hin,aE rfl];rfl
     have hnx2:erHF L (nm s.nx)=if p&&l! xs==0 then U else Z ⟨ty,.fz (xs.flatMap (bM T))⟩:=by rw[bK,j9,ax hbn.symm,aE rfl];rfl
     have hid0:erHF s.h (nm id)=if p&&l! xs==0 then U else Z ⟨ty,.fz (xs.flatMap (bM T))⟩:=by rw[bK,D];rfl
     have hoth:∀n,n≠nm b->n≠nm s.nx->n≠nm id->erHF L n=erHF s.h n:=λn e1 e2 N=>mN c.qz hr (iH.of λk=>by
      rw[j9];by_cases f1:k=b
      .rw[aE f1,f1,hb];exact .inr ⟨rfl,rfl⟩
      .rw[ax f1];by_cases f2:k=s.nx
       .rw[aE f2,f2,hfr];exact .inr ⟨rfl,rfl⟩
       .rw[ax f2];by_cases f3:k=id
        .rw[aE f3,f3,D];exact .inr ⟨rfl,rfl⟩
        .rw[ax f3];exact .inl rfl) λk e=>by
      subst e;rw[j9,ax (λe=>e1 (by rw[e])),ax (λe=>e2 (by rw[e])),ax (λe=>N (by rw[e]))]
     have hnb:nm b≠nm s.nx:=λe=>hbn (uL e)
     have hbi:nm b≠nm id:=λe=>hbid (uL e)
     have hni:nm s.nx≠nm id:=λe=>hin (uL e).symm
     have hinv:gZ L (s.nx+1):=by
      refine ⟨λk ty2 l2 hil=>?_,λk q hiq=>?_⟩
      .rw[j9]at hil;split at hil
       .simp only[ah,fg.C.injEq]at hil;obtain⟨_,rfl⟩:=hil;exact lN _ _ _ hsp
       .split at hil
        .cases hil
        .split at hil
         .cases hil
         .exact fx hr l2 (c.qz.C k _ l2 hil)
      .rw[j9]at hiq;split at hiq
       .omega
       .split at hiq
        .omega
        .split at hiq
         .omega
         .have:=c.qz.low k q hiq;omega
     have hE:∀t x,fK s.e L t=Z x->fK s.e s.h t=Z x:=λt x A=>by
      simp only[fK]at A ⊢;cases he:s.e.get t with
      |none=>rw[he]at A;cases A
      |some q=>
       rw[he]at A;let⟨z,hz⟩:=pi s.h q (c.qp t q he);simp only[aD,fS hr q z hz,ah]at A;subst A;simp only[aD,hz]
     by_cases hp:(p&&l! xs==0)=J
     ·
      have hH:erHF L=erHF s.h:=by
       funext n;by_cases e1:n=nm b
       .subst e1;rw[hold,hnew];have:dz p s.nx T.size (l! xs)=dz p id T.size (l! xs):=by unfold dz;rw[aE hp,aE hp]
        rw[this,BP hy]
       .by_cases e2:n=nm s.nx
        .subst e2;rw[hnx2,aE hp,bK,hfr];rfl
        .by_cases N:n=nm id
         .subst N;rw[hdead,hid0,aE hp]
         .exact hoth n e1 e2 N
      refine ⟨V,⟨by rw[hH];exact c.zk,λt x A=>by rw[hH];exact c.env t x (hE t x A),λn q hq=>my (c.dom n q hq),fX c.low,hinv,λt x A=>mX hr x (c.qp t x A),c.inert,c.size⟩,by rw[hH];exact xM.refl _ _ _ _,fI.refl _ _⟩
     .have hid1:erHF s.h (nm id)=Z ⟨ty,.fz (xs.flatMap (bM T))⟩:=by rw[hid0,ax hp]
      let⟨kk,k1,k2,ob,k3,k4⟩:=c.zk.at_ _ _ hid1;have hφn:V (nm s.nx)=U:=by
       cases hq:V (nm s.nx) with
       |none=>rfl
       |some q=>have:=c.dom _ q hq;rw[dv]at this;omega
      let nw:HF:=λn=>if n=nm s.nx then Z ⟨ty,.fz (xs.flatMap (bM T))⟩ else U
      have hsh:IZ w w kk ob:=⟨rfl,rfl,rfl,rfl,k3,λ_ _=>rfl,λ_=>rfl⟩
      let⟨φ',p1,p2,p3,p4⟩:=c.zk.wren hid1 k1 hφn hsh k4 nw (by simp[nw]) (by simp only[nw];rw[ax hni.symm]);have hb1:ft (erHF s.h) [nm s.nx,nm id] nw (nm b)=Z ⟨cty,.mx l'⟩:=by
       unfold ft;rw[ax (by simp[hnb,hbi]),hold]
      let⟨kb,b1,b2,ob2,b3,b4⟩:=p4.at_ _ _ hb1;have hlt:o+j<l! l':=by
       rcases cJ (o+j) (l! l') with h'|h'
       .exact h'
       .rw[dI h']at hy;cases hy
      have hob:ic φ' (tot E φ' (ft (erHF s.h) [nm s.nx,nm id] nw)) w ⟨cty,.mx (splice l' (o+j) [dz p s.nx T.size (l! xs)])⟩ ob2:=by
       rw[qQ rfl]at b4 ⊢;let⟨arr,a1,a2⟩:=b4;refine ⟨arr,a1,?_⟩;unfold vG at a2 ⊢;refine ⟨by simp only[BC.len]at a2 ⊢;rw[nj (by simp;omega)];exact a2.1,λoff x A=>?_⟩;simp only[BC.get]at A a2;rw[oa (by simp;omega)]at A;split at A
       .exact a2.2 off x A
       .split at A
        .rename_i h3 h4;simp only[cH]at h4;have hj:off=o+j:=by omega
         subst hj;simp only[w_,hY,ah]at A;subst A;let⟨_,v,a3,a4⟩:=a2.2 _ _ hy;unfold dz at a4 ⊢;rw[ax hp]at a4 ⊢;refine ⟨rfl,v,a3,?_⟩;cases a4 with
         |@G _ _ _ cc q hφq hn hc hs2=>
          have:=p2.sub _ _ k1;rw[this,ah]at hφq;subst hφq;exact .G p1 hn hc hs2
        .exact a2.2 off x A
      let⟨q1,q2⟩:=p4.wset hb1 b1 (⟨rfl,rfl,rfl,rfl,b3,λ_ _=>rfl,λ_=>rfl⟩:IZ w w kb ob2) hob (λn=>if n=nm b then Z ⟨cty,.mx (splice l' (o+j) [dz p s.nx T.size (l! xs)])⟩ else U) (by simp);have hH:ft (ft (erHF s.h) [nm s.nx,nm id] nw) [nm b] (λn=>if n=nm b then Z ⟨cty,.mx (splice l' (o+j) [dz p s.nx T.size (l! xs)])⟩ else U)=erHF L:=by
       funext n;by_cases e1:n=nm b
       .subst e1;rw[hnew];simp[ft]
       .by_cases e2:n=nm s.nx
        .subst e2;rw[hnx2,ax hp];simp[ft,nw,hnb.symm]
        .by_cases N:n=nm id
         .subst N;rw[hdead];simp[ft,nw,hbi.symm,hni.symm]
         .rw[hoth n e1 e2 N];simp[ft,e1,e2,N]
      rw[hH]at q1 q2;have m:=p2.trans q1;refine ⟨φ',⟨q2,λt x A=>m.zj (c.env t x (hE t x A)),λn q hq=>?_,fX c.low,hinv,λt x A=>mX hr x (c.qp t x A),c.inert,c.size⟩,⟨I5.refl _ _,m.zw,λk hi=>?_⟩,fI.refl _ _⟩
      .rcases p3 n q hq with h4|h4
       .exact my (c.dom n q h4)
       .simp only[aC]at h4;subst h4;rw[dv];exact nZ _
      .cases hq:φ' k with
       |none=>
        cases hq2:V k with
        |none=>rfl
        |some z=>rw[p2.sub _ _ hq2]at hq;cases hq
       |some z=>
        rcases p3 _ _ hq with h4|h4
        .exact h4.symm
        .simp only[aC]at h4;subst h4;rw[dv]at hi;have:=c.low;omega
    next ty ai js D=>cases h;let⟨φ',p1,p2⟩:=asp c hb hv D;exact⟨φ',p1,p2,fI.refl _ _⟩
    .cases h
   .cases h
  .cases h
 .rename_i id hk;split at h
  .rename_i ty p T xs D;cases h;have hfr:=c.qz.fresh;have hidlt:=c.qz.low id _ D;have hin:id≠s.nx:=by omega
   generalize hh2:((s.h.set id (Z (.qj p T.size (l! xs)))).set s.nx (Z (.F ty p T xs)))=L;have j9:∀k,L.get k=if k=s.nx then Z (.F ty p T xs) else if k=id then Z (.qj p T.size (l! xs)) else s.h.get k:=λk=>by
    rw[<- hh2,PT.get_set,PT.get_set]
   have hr:bY s.h L:=λk r hi=>by
    rw[bB]at hi ⊢;rw[j9];by_cases e2:k=s.nx
    .subst e2;rw[hfr]at hi;cases hi
    .rw[ax e2];by_cases N:k=id
     .subst N;rw[aE rfl];rw[D]at hi;exact hi
     .rw[ax N];exact hi
   have hrow:b_ L (.G s.nx)=Z (dz p s.nx T.size (l! xs)):=by
    simp only[b_,bB,j9,bq,aD,iJ]
   have hrow0:b_ s.h (.G id)=Z (dz p id T.size (l! xs)):=by
    simp only[b_,bB,D,aD,iJ]
   have hdead:erHF L (nm id)=U:=by rw[bK,j9,ax hin,aE rfl];rfl
   have hnx2:erHF L (nm s.nx)=if p&&l! xs==0 then U else Z ⟨ty,.fz (xs.flatMap (bM T))⟩:=by rw[bK,j9,aE rfl];rfl
   have hid0:erHF s.h (nm id)=if p&&l! xs==0 then U else Z ⟨ty,.fz (xs.flatMap (bM T))⟩:=by rw[bK,D];rfl
   have hoth:∀n,n≠nm s.nx->n≠nm id->erHF L n=erHF s.h n:=λn e2 N=>mN c.qz hr (iH.of λk=>by
    rw[j9];by_cases f2:k=s.nx
    .rw[aE f2,f2,hfr];exact .inr ⟨rfl,rfl⟩
    .rw[ax f2];by_cases f3:k=id
     .rw[aE f3,f3,D];exact .inr ⟨rfl,rfl⟩
     .rw[ax f3];exact .inl rfl) λk e=>by
    subst e;rw[j9,ax (λe=>e2 (by rw[e])),ax (λe=>N (by rw[e]))]
   have hni:nm s.nx≠nm id:=λe=>hin (uL e).symm
   have hinv:gZ L (s.nx+1):=by
    refine ⟨λk ty2 l2 hil=>?_,λk q hiq=>?_⟩
    .rw[j9]at hil;split at hil
     .cases hil
     .split at hil
      .cases hil
      .exact fx hr l2 (c.qz.C k _ l2 hil)
    .rw[j9]at hiq;split at hiq
     .omega
     .split at hiq
      .omega
      .have:=c.qz.low k q hiq;omega
   have hE:∀t x,t≠i->fK (s.e.set i (Z (.G s.nx))) L t=Z x->fK s.e s.h t=Z x:=λt x ht A=>by
    simp only[fK,PT.get_set]at A ⊢;rw[ax ht]at A;cases he:s.e.get t with
    |none=>rw[he]at A;cases A
    |some q=>
     rw[he]at A;let⟨z,hz⟩:=pi s.h q (c.qp t q he);simp only[aD,fS hr q z hz,ah]at A;subst A;simp only[aD,hz]
   have hIE:sH (s.e.set i (Z (.G s.nx))) L:=λt x A=>by
    simp only[PT.get_set]at A;split at A
    .cases A;exact Iy _ _ _ hrow
    .exact mX hr x (c.qp t x A)
   have hKp:fI (mR [.qx i j] 0) s.e (s.e.set i (Z (.G s.nx))):=λt ht v' hv'=>by
    simp only[PT.get_set]at hv';split at hv'
    next et=>subst et;simp only[mR]at ht;rw[bw,bt.2 rfl]at ht;simp at ht
    .exact⟨v',hv',λ_=>rfl⟩
   have hk0:=c.env i (dz p id T.size (l! xs)) (by simp only[fK,hk,aD,hrow0]);by_cases hp:(p&&l! xs==0)=J
   .have hH:erHF L=erHF s.h:=by
     funext n;by_cases e2:n=nm s.nx
     .subst e2;rw[hnx2,aE hp,bK,hfr];rfl
     .by_cases N:n=nm id
      .subst N;rw[hdead,hid0,aE hp]
      .exact hoth n e2 N
    have hsame:dz p s.nx T.size (l! xs)=dz p id T.size (l! xs):=by unfold dz;rw[aE hp,aE hp]
    refine ⟨V,⟨by rw[hH];exact c.zk,λt x A=>?_,λn q hq=>my (c.dom n q hq),fX c.low,hinv,hIE,c.inert,c.size⟩,by rw[hH];exact xM.refl _ _ _ _,hKp⟩;rw[hH];by_cases ht:t=i
    .subst ht;simp only[fK,PT.get_set,bq,aD,hrow,ah]at A;subst A;rw[hsame];exact hk0
    .exact c.env t x (hE t x ht A)
   .have hid1:erHF s.h (nm id)=Z ⟨ty,.fz (xs.flatMap (bM T))⟩:=by rw[hid0,ax hp]
    let⟨kk,k1,k2,ob,k3,k4⟩:=c.zk.at_ _ _ hid1;have hφn:V (nm s.nx)=U:=by
     cases hq:V (nm s.nx) with
     |none=>rfl
     |some q=>have:=c.dom _ q hq;rw[dv]at this;omega
    let nw:HF:=λn=>if n=nm s.nx then Z ⟨ty,.fz (xs.flatMap (bM T))⟩ else U
    have hsh:IZ w w kk ob:=⟨rfl,rfl,rfl,rfl,k3,λ_ _=>rfl,λ_=>rfl⟩
    let⟨φ',p1,p2,p3,p4⟩:=c.zk.wren hid1 k1 hφn hsh k4 nw (by simp[nw]) (by simp only[nw];rw[ax hni.symm]);have hH:ft (erHF s.h) [nm s.nx,nm id] nw=erHF L:=by
     funext n;by_cases e2:n=nm s.nx
     .subst e2;rw[hnx2,ax hp];simp[ft,nw]
     .by_cases N:n=nm id
      .subst N;rw[hdead];simp[ft,nw,hni.symm]
      .rw[hoth n e2 N];simp[ft,e2,N]
    rw[hH]at p2 p4;refine ⟨φ',⟨p4,λt x A=>?_,λn q hq=>?_,fX c.low,hinv,hIE,c.inert,c.size⟩,⟨I5.refl _ _,p2.zw,λk hi=>?_⟩,hKp⟩
    .by_cases ht:t=i
     .subst ht;simp only[fK,PT.get_set,bq,aD,hrow,ah]at A;subst A;unfold dz at hk0 ⊢;rw[ax hp]at hk0 ⊢;generalize S.tmps.getD t undef=z at hk0;cases hk0 with
      |@G _ _ _ cc q hφq hn hc hs2=>
       rw[k1,ah]at hφq;subst hφq;exact .G p1 hn hc hs2
     .exact p2.zj (c.env t x (hE t x ht A))
    .rcases p3 n q hq with h4|h4
     .exact my (c.dom n q h4)
     .simp only[aC]at h4;subst h4;rw[dv];exact nZ _
    .cases hq:φ' k with
     |none=>
      cases hq2:V k with
      |none=>rfl
      |some z=>rw[p2.sub _ _ hq2]at hq;cases hq
     |some z=>
      rcases p3 _ _ hq with h4|h4
      .exact h4.symm
      .simp only[aC]at h4;subst h4;rw[dv]at hi;have:=c.low;omega
  .cases h
 .cases h
def atr {s:TS} (c:ju P E nt np V s S w) {ad:Adj} {s':TS} (h:K_ s ad=Z s') (hnr:∀k off,ad≠ .qx k off) (hnt:∀k off,ad≠ .jg k off):ju P E nt np V s' S w/\xM np V V (erHF s.h) (erHF s'.h) w w/\fI (mR [ad] 0) s.e s'.e:=by
 cases ad with
 |qx k off=>exact bA rfl (hnr k off)
 |jg k off=>exact bA rfl (hnt k off)
 |fmp k off ty a=>
  simp only[K_]at h;split at h
  .split at h
   .rename_i K' V' es D;split at h
    next hE=>cases h;let⟨h1,h2⟩:=axa c D hE ty a;exact⟨h1,h2,fI.refl _ _⟩
    .cases h
   .cases h;exact⟨c,xM.refl _ _ _ _,fI.refl _ _⟩
   .cases h
  .cases h
 |frw k off off2 ty=>
  simp only[K_]at h;split at h
  .rename_i o id q _ _;split at h
   .rename_i ai es cty l ho D;split at h
    .rename_i v hv;split at h
     .rename_i hn;cases h;let⟨L,N⟩:=ax6 c ai ty;have hid:id≠s.nx:=λe=>by have:=c.qz.low id _ D;omega
      let⟨c2,t2⟩:=X4 L (id:=id) (cty:=cty) (l:=l) (v:=v) (u:=.G s.nx) (by show (s.h.set s.nx _).get id=_;rw[PT.get_set,ax hid];exact D) hv hn (by simp only[b_,bB,PT.get_set,bq,aD,iJ,sh,dz];rfl) (by simp only[PD,bB,PT.get_set,bq];rfl);exact⟨c2,by rw[<- N];exact t2,fI.refl _ _⟩
     .cases h;exact⟨c,xM.refl _ _ _ _,fI.refl _ _⟩
    .cases h
   .cases h
  .cases h
 |nil k ty T=>
  simp only[K_]at h;split at h
  .rename_i v hv;split at h
   .rename_i hn;cases h;let⟨L,N,hr⟩:=ada c ty T;refine ⟨⟨L.zk,?_,L.dom,L.low,L.qz,?_,L.inert,L.size⟩,by rw[N];exact xM.refl _ _ _ _,?_⟩
    .intro t x A;simp only[fK,PT.get_set]at A;split at A
     next et=>subst et;simp only[aD,b_,bB,PT.get_set,bq,iJ,dz,pG,cw,io,ah]at A;subst A;let⟨z,hz⟩:=pi s.h v (c.qp _ v hv);rw[N];exact WD hn hz _ _ _ _ (c.env _ _ (by simp only[fK,hv,aD,hz]))
     .exact L.env t x A
    .intro t x A;simp only[PT.get_set]at A;split at A
     .cases A;simp only[PD,bB,PT.get_set,bq];rfl
     .exact L.qp t x A
    .intro t ht v' hv';simp only[PT.get_set]at hv';split at hv'
     next et=>subst et;simp only[mR]at ht;rw[bw,bt.2 rfl]at ht;simp at ht
     .exact⟨v',hv',λ_=>rfl⟩
   .cases h;exact⟨c,xM.refl _ _ _ _,fI.refl _ _⟩
  .cases h
 |qc k off ty T=>
  simp only[K_]at h;split at h
  .rename_i id o hk;split at h
   .rename_i cty l D;split at h
    .rename_i v hv;split at h
     .rename_i hn;cases h;let⟨L,N,hr⟩:=ada c ty T;have hid:id≠s.nx:=λe=>by have:=c.qz.low id _ D;omega
      let⟨c2,t2⟩:=X4 L (id:=id) (cty:=cty) (l:=l) (v:=v) (u:=.G s.nx) (by show (s.h.set s.nx _).get id=_;rw[PT.get_set,ax hid];exact D) hv hn (by simp only[b_,bB,PT.get_set,bq,aD,iJ,dz,pG,cw,io]) (by simp only[PD,bB,PT.get_set,bq];rfl);exact⟨c2,by rw[<- N];exact t2,fI.refl _ _⟩
     .cases h;exact⟨c,xM.refl _ _ _ _,fI.refl _ _⟩
    .cases h
   .cases h
  .cases h
 |mpt k K φ=>
  simp only[K_]at h;split at h
  .rename_i id hk;split at h
   .rename_i K' V' es D;split at h
    .rename_i hE;cases h;have hr:bY s.h (s.h.set id (Z (.mp K φ []))):=bY.set λr hr=>by rw[bB,D]at hr;cases hr
     have N:erHF (s.h.set id (Z (.mp K φ [])))=erHF s.h:=by
      funext n;by_cases hn:n=nm id
      .subst hn;rw[bK,bK,PT.get_set,aE rfl,D];simp only[aD,kx,E6 (aiw (wN.1 hE).1),E6 (wN.1 hE).2,Ta (wN.1 hE).1,C2]
      .refine mN c.qz hr (iH.set (by rw[D];rfl) rfl) λi e=>?_
       subst e;rw[PT.get_set,ax (λe=>hn (by rw[e]))]
     refine ⟨⟨by rw[N];exact c.zk,?_,c.dom,c.low,c.qz.set hr (c.qz.low id _ D) (bJ _) (λ_ _ he=>by cases he),λt x A=>mX hr x (c.qp t x A),c.inert,c.size⟩,by rw[N];exact xM.refl _ _ _ _,fI.refl _ _⟩;intro t x A;rw[N];simp only[fK]at A;cases he:s.e.get t with
     |none=>rw[he]at A;cases A
     |some q=>
      rw[he]at A;let⟨z,hz⟩:=pi s.h q (c.qp t q he);simp only[aD,fS hr q z hz,ah]at A;subst A;exact c.env t _ (by simp only[fK,he,aD,hz])
    .cases h;exact⟨c,xM.refl _ _ _ _,fI.refl _ _⟩
   .cases h
  .cases h
 |pk k off T=>
  simp only[K_]at h;split at h
  .obtain⟨h1,h2,h3⟩:=awp c h;exact⟨h1,h2,h3.mono λk hk=>by simp at hk⟩
  .cases h
def atq {s:TS} (c:ju P E nt np V s S w) {ad:Adj} {s':TS} (h:K_ s ad=Z s'):∃φ',ju P E nt np φ' s' S w/\xM np V φ' (erHF s.h) (erHF s'.h) w w/\fI (mR [ad] 0) s.e s'.e:=by
 by_cases A:∃k off,ad= .qx k off
 .obtain⟨k,off,rfl⟩:=A;exact awl c h
 .by_cases z:∃k off,ad= .jg k off
  .obtain⟨k,off,rfl⟩:=z;simp[K_]at h;split at h
   .obtain⟨he,φ',h1,D⟩:=asd c h;exact⟨φ',h1,D,by rw[he];exact fI.refl _ _⟩
   .cases h
  .exact⟨V,atr c h (λk off e=>A ⟨k,off,e⟩) λk off e=>z ⟨k,off,e⟩⟩
def Ux {φ:PM} {a:Act} {w:World}:∀{l:Y Adj} {s s':TS},ju P E nt np φ s a w->X2 s l=Z s'->∃φ',ju P E nt np φ' s' a w/\xM np φ φ' (erHF s.h) (erHF s'.h) w w/\fI (mR l 0) s.e s'.e
 |[],s,s',c,h=>by simp[X2,ah]at h;subst h;exact⟨φ,c,xM.refl _ _ _ _,fI.refl _ _⟩
 |ad::r,s,s',c,h=>by
  simp[X2]at h;split at h
  .rename_i s1 h1;let⟨φ1,c1,D,k1⟩:=atq c h1;let⟨φ2,N,A,k2⟩:=Ux c1 h;refine ⟨φ2,N,D.trans A,(k1.mono ?_).trans (k2.mono ?_)⟩
   .intro k z;cases ad with
    |nil q ty T|qx q off=>simp[mR]at z ⊢;rw[kH,bw,z];rfl
    |_=>simp[mR]at z
   .intro k z;cases ad with
    |nil q ty T|qx q off=>simp[mR];rw[kH,bw,z];simp
    |_=>simp[mR];exact z
  .cases h
mutual
def Wq {h:aY}:∀(v:TV) (y:AV),wq v=J->b_ h v=Z y->y.all (λ_=>af)=J
 |.f _ _,y,_,he|.zd _ _ _ _ _,y,_,he|.emp,y,_,he|.nil,y,_,he|.undef,y,_,he|.np,y,_,he|.qw,y,_,he=>by simp[b_,ah]at he;subst he;rfl
 |.agg l,y,hl,he|.qg l,y,hl,he=>by
  simp[b_]at he;split at he
  .rename_i l' hl';simp[ah]at he;subst he;exact It l l' hl hl'
  .cases he
 |.zg _ _ _ _,_,h,_|.H _ _,_,h,_|.qy _ _ _,_,h,_|.G _,_,h,_|.zl _ _,_,h,_|.mp _,_,h,_|.qv _ _,_,h,_=>by cases h
def It {h:aY}:∀(l:Y TV) (l':Y AV),r7 l=J->cM h l=Z l'->AV.allL (λ_=>af) l'=J
 |[],l',_,he=>by simp[cM,ah]at he;subst he;rfl
 |x::r,l',hl,he=>by
  obtain⟨y,l2,rfl,e1,e2⟩:=c9 he;simp[r7,au]at hl;simp[AV.allL,au];exact⟨Wq x y hl.1 e1,It r l2 hl.2 e2⟩
end
mutual
def acd (h:aY):∀(v:TV),wq v=J->PD h v=J
 |.f _ _,_|.zd _ _ _ _ _,_|.emp,_|.nil,_|.undef,_|.np,_|.qw,_=>rfl
 |.agg l,hl|.qg l,hl=>Nh h l hl
 |.zg _ _ _ _,h|.H _ _,h|.qy _ _ _,h|.G _,h|.zl _ _,h|.mp _,h|.qv _ _,h=>by cases h
def Nh (h:aY):∀(l:Y TV),r7 l=J->lH h l=J
 |[],_=>rfl
 |x::r,hl=>by
  simp[r7,au]at hl;simp[lH,au];exact⟨acd h x hl.1,Nh h r hl.2⟩
end
structure Seen (np:Nat) (t:Tm) (x:t.ty.den) (us:List TV) (h1:aY) (φ φ':PM) (H:HF) (E:Nat->Prop) (w:World) (la lu:List AV):Prop where
 zk:sA φ' E (erHF h1) w
 val:∀(j:Nat) y v,lu[j]? =Z y->∃z,la[j]? =Z z/\(cz φ (tot E φ H) w z v->cz φ' (tot E φ' (erHF h1)) w y v)
 len:l! lu=l! la
 tot_:∀k,tot E φ' (erHF h1) k->tot E φ H k
 zw:∀k,own φ' (erHF h1) k->own φ H k
 dom:∀n k,φ' n=Z k->ow n<l! t.bs
 par:∀n,ow n<np->ow n<l! t.bs->φ' n=φ n
variable {r:Y TV} {B:Y AV}
def Pu {t:Tm} {x:t.ty.den} {h1:aY} {l1:Y (M fg)} (I:pD t x r h1 l1) (hinv:gZ h i) {vs:Y TV} {σ:PT Nat} {sm:Nat} (A:LP np t vs h x j σ sm) (hla:cM h vs=Z B) (us:sA V E (erHF h) w):∃φ' lu,cM h1 r=Z lu/\Seen np t x r h1 V φ' (erHF h) E w B lu:=by
 let⟨x1,m1,x2,m2,hx,hmm,gv,gb⟩:=A.ex;have pvg:rC (im σ) t.vs x1=Z (li (im σ) r):=by
  have h3:=vJ (im σ) t.vs x1;have L:=I.pv;rw[hx,vC]at L;rw[h3,L];rfl
 have pbg:qO (im σ) t.bs x2=Z (l1.map (ie (kQ (im σ)))):=by
  have h3:=yE (im σ) t.bs x2;have L:=I.pb;rw[hx,xf]at L;rw[h3,L];rfl
 have hbm:∀nx b,l1[nx]? =Z (Z b)->∃b0,h.get (im σ nx)=Z b0/\BM (im σ) h j b0 (kQ (im σ) b):=λnx b D=>by
  let⟨b0,q1,q2⟩:=Nf t.bs 0 x2 m2 _ gb pbg nx (kQ (im σ) b) (by grind);rw[b9]at q1;exact⟨b0,q1,q2.mono λm hj=>by rw[hmm,bw,hj];simp⟩
 let hv:aY:=DB (im σ) 0 (l1.map (ie (kQ (im σ)))) PT.leaf
 have hv_at:∀nx b,l1[nx]? =Z (Z b)->hv.get (im σ nx)=Z (kQ (im σ) b):=λnx b D=>by
  have:=xn (im σ) (l1.map (ie (kQ (im σ)))) 0 PT.leaf (λa b ha D=>by
   simp only[cm,I.len]at ha D;simp only[b9];exact A.inj a b ha D) nx (Z (kQ (im σ) b)) (by grind)
  grind
 have hv_ex:∀m c,hv.get m=Z c->∃nx b,l1[nx]? =Z (Z b)/\m=im σ nx/\c=kQ (im σ) b:=λm c hj=>by
  by_cases hex:∃nx,nx<l1.length/\m=im σ nx
  .obtain⟨nx,hi,rfl⟩:=hex;have hcc:=aH hi;cases hcv:l1[nx] with
   |some b=>rw[hcv]at hcc;rw[hv_at nx b hcc]at hj;cases hj;exact⟨nx,b,hcc,rfl,rfl⟩
   |none=>
    rw[hcv]at hcc;have:=xn (im σ) (l1.map (ie (kQ (im σ)))) 0 PT.leaf (λa b ha D=>by
     simp only[cm,I.len]at ha D;simp only[b9];exact A.inj a b ha D) nx U (by grind)
    rw[b9]at this;have hj':(DB (im σ) 0 (l1.map (ie (kQ (im σ)))) PT.leaf).get (im σ nx)=Z c:=hj;rw[this]at hj';simp[PT.get]at hj'
  .have:hv.get m=(PT.leaf:aY).get m:=xm (im σ) _ 0 _ m λk N=>by
    grind
   rw[this]at hj;simp[PT.get]at hj
 have rows_in:AQ hv h:=λm q hq=>by
  rw[bB]at hq ⊢;cases hc:hv.get m with
  |none=>rw[hc]at hq;cases hq
  |some c=>
   rw[hc]at hq;obtain⟨nx,b,q1,rfl,rfl⟩:=hv_ex m c hc;let⟨b0,q2,q3⟩:=hbm nx b q1;rw[q2];simp only[aD]at hq ⊢;rw[<- q3.G];exact hq
 have rows_h1:∀nx q,eM h1 nx=Z q->eM hv (im σ nx)=Z q:=λnx q hq=>by
  rw[bB]at hq ⊢;cases D:h1.get nx with
  |none=>rw[D]at hq;cases hq
  |some b=>
   rw[D]at hq;rw[hv_at nx b ((I.at_ nx b).1 D)];simp only[aD,L5]at hq ⊢;exact hq
 have hd:rx (erHF h) (erHF hv):=λn y hy=>by
  let⟨c,h3,L⟩:=iO hy;obtain⟨nx,b,q1,e,rfl⟩:=hv_ex _ c h3;let⟨b0,q2,q3⟩:=hbm nx b q1;unfold erHF;rw[e,q2];rw[e]at L;cases N:ix n with
  |zero=>
   rw[N]at L;exact BM.erB_some hinv q2 q3 L
  |succ k=>
   rw[N]at L;exact⟨y,(q3.mem _ _).trans L⟩
 have gvv:Fl h (erHF h) (erHF hv) j:=λnx hi=>⟨rfl,by
  cases hc:erHF hv (nm nx) with
  |none=>rfl
  |some y=>
   let⟨c,h3,L⟩:=iO hc;rw[dv]at h3;obtain⟨k,b,q1,rfl,rfl⟩:=hv_ex nx c h3;have N:k<t.bs.length:=by rw[<- I.len];exact (bz.1 q1).1
   have h5:=A.disj _ hi;rw[(A.sig _).2 ⟨k,N,rfl⟩]at h5;cases h5⟩
 have φ:OX (erHF h) (erHF hv):=⟨hd,λn b b' D hb'=>by
  let⟨c,h3,L⟩:=iO hb';obtain⟨nx,bb,q1,e,rfl⟩:=hv_ex _ c h3;let⟨b0,q2,q3⟩:=hbm nx bb q1;unfold erHF at D;rw[e,q2]at D;rw[e]at L;have D:Pn h (im σ nx) (ix n) b0=Z b:=D;cases N:ix n with
  |zero=>
   rw[N]at L D;exact BM.view hd gvv rows_in q3 D L
  |succ k=>
   rw[N]at L D;have:=(q3.mem _ _).symm.trans D;have L:wQ (im σ nx) k (kQ (im σ) bb)=Z b':=L;rw[L]at this;cases this;exact gp.refl hd _⟩
 have rv:=φ.zk us;have T:ape t x r h1 (im σ) V E E (erHF hv) w:=by
  have hat:∀n y,erHF h1 n=Z y->erHF hv (pF (im σ) n)=Z (y.qx (pF (im σ))):=λn y hn=>by
   let⟨b,D,hyb⟩:=iO hn;unfold erHF;rw[xQ,Ap,hv_at _ b ((I.at_ _ b).1 D)];exact Dl rows_h1 hyb
  refine sA.toId I A.inj rv hat (λk N=>.inl N) (λn k y hn L hE=>?_) rv.el;let⟨k',p1,p2,_⟩:=rv.at_ _ _ (hat n y hn)
  grind
 let⟨lu,hlu⟩:=fE h1 r I.ok;have hlug:cM hv (li (im σ) r)=Z (AV.renL (pF (im σ)) lu):=qe rows_h1 r lu hlu;have hle:=Gr hd rows_in t.vs vs x1 m1 _ B _ gv pvg hla hlug (λnx hi=>gvv nx (by grind));have hall:=vx r lu I.lt hlu;refine ⟨_,lu,hlu,T.zk,λm y v hy=>?_,?_,λk N=>hd.tot (T.tot_ k N),λk N=>hd.own (T.zw k N),λn k N=>?_,λnx hi D=>?_⟩
 .rw[oe]at hle;let⟨z,hz,hlz⟩:=hle.get m (y.qx (pF (im σ))) (by grind);exact⟨z,hz,λhr=>T.val y v (m_ hall y (ba hy)) (hlz _ _ _ _ us hr)⟩
 .have:=hle.length;rw[oe,cm]at this;exact this
 .exact (zZ N).1
 .rw[ah2 D];unfold pF;rw[A.fix _ hi,kL]
def Ti {s':TS} (c:ju P E nt np V s' S w) {A:Ann} {s0 s1:TS} {x:A.D} (L:Qi np A i s0 s'=Z x) (hs:Kt A i s0 x=Z s1)
 (hk:∀k,k∈A.zj->k∉A.ks->∀v,s0.e.get k=Z v->wq v=J->aO i k=af->∀v',s'.e.get k=Z v'->v'=v):∃φ',ju P E nt np φ' s1 S w/\xM np V φ' (erHF s'.h) (erHF s1.h) w w:=by
 unfold Qi at L;split at L
 .rename_i hc;simp only[au]at hc;have hnp:=aX hc.1;split at L
  .rename_i s2 h2;let⟨φ2,c2,t2,_⟩:=Ux c h2;split at L
   .rename_i vs hvs;split at L
    .rename_i z m σ sm hM;simp[ah]at L;subst L;have B:=yM hM;unfold Kt at hs;split at hs
     .rename_i us h1 hi;let⟨l1,I⟩:=yR hi;split at hs
      .rename_i hlen;have hlen:=av hlen;simp[ah]at hs;subst hs;let⟨g1,g2⟩:=aca hvs;have hvok:lH s2.h vs=J:=Ml c2.qp hvs;let⟨la,hla⟩:=fE s2.h vs hvok;let⟨φ',lu,hlu,a⟩:=Pu (E:=E) I c2.qz B hla c2.zk;refine ⟨φ',⟨a.zk,?_,a.dom,hnp,⟨λam ty l hl=>(I.C am _ l hl).1,λam b hb=>I.lt_len hb⟩,?_,c.inert,c.size⟩,t2.trans ⟨I5.refl _ _,λk _ h=>a.zw k h,λam hi=>a.par am hi (by omega)⟩⟩
       .intro t y N;simp[fK]at N;cases ht:(ae4 (F9 i s0.e A.zj) A.ks us).get t with
        |none=>rw[ht]at N;cases N
        |some v=>
         rw[ht]at N;simp[aD]at N;rcases Fv hlen t v ht with ⟨j,q1,q2⟩|⟨q1,q2⟩
         .obtain⟨y',p1,p2⟩:=l_ hlu j v q2;rw[N]at p2;cases p2;let⟨z,p3,p4⟩:=a.val j y (S.tmps.getD t undef) p1;refine p4 ?_;let⟨v0,p5,p6⟩:=g2 j t q1;let⟨z',p7,p8⟩:=l_ hla j v0 p5;rw[p3]at p7;cases p7;exact c2.env t _ (by simp[fK,p6,aD,p8])
         .obtain⟨k1,k2,k3,k4⟩:=vL q2;let⟨v',k5⟩:=MH hc.2 t v k1 k2 k3 k4;have:=hk t k1 q1 v k2 k3 k4 v' k5;subst this;have h3:=c.env t y (by simp[fK,k5,aD];rw[WE s'.h h1 v' k3];exact N);exact h3.restrict (p:=λ_=>af) (λam k hi _=>by cases hi) (λk hk=>by
           have h4:=a.tot_ k hk;rcases h4 with h4|h4
           .exact .inl h4
           .exact .inr (by
             have hkl:k<w.heap.size:=by
              let⟨n,b,e1,e2⟩:=h4;let⟨k',p1,_,ob,p3,_⟩:=c2.zk.at_ n b e1
              grind
             exact t2.zw k hkl h4)) (Wq v' y k3 N)
       .intro t v hv;rcases Fv hlen t v hv with ⟨j,q1,q2⟩|⟨q1,q2⟩
        .obtain⟨y',_,p2⟩:=l_ hlu j v q2;exact Iy _ _ _ p2
        .exact acd _ v (vL q2).2.2.1
      .cases hs
     .cases hs
    .cases L
   .cases L
  .cases L
 .cases L
def HO {A:Ann} {L N:TS} {x:A.D} (z:Kt A i L x=Z N):fI (PI A.ks 0) L.e N.e/\∀k,k∉A.ks->∀v,N.e.get k=Z v->L.e.get k=Z v:=by
 unfold Kt at z;split at z
 .rename_i us h1 hi;split at z
  .rename_i hlen;have hlen:=av hlen;simp[ah]at z;subst z;have key:∀k,k∉A.ks->∀v,(ae4 (F9 i L.e A.zj) A.ks us).get k=Z v->L.e.get k=Z v:=λk hk v hv=>by
    rcases Fv hlen k v hv with ⟨j,q1,_⟩|⟨_,q2⟩
    .grind
    .exact (vL q2).2.1
   refine ⟨λk hk v' hv=>?_,key⟩;have hnk:k∉A.ks:=λhm=>by rw[abz hm]at hk;cases hk
   grind
  .cases z
 .cases z
end walk
inductive Er:TC->SC->Prop
 |skip:Er .skip .skip
 |jy (ops:List uB) (prs:List (Nat×Nat)):Er (.jy ops prs) (.jy ops prs)
 |seq {a b:TC} {a' b':SC}:Er a a'->Er b b'->Er (.seq a b) (.seq a' b')
 |jx (A:Ann) {a b:TC} {a' b':SC}:Er a a'->Er b b'->Er (.jx A a b) (.seq a' b')
 |cond (c:Nat) {a b:TC} {a' b':SC}:Er a a'->Er b b'->Er (.cond c a b) (.cond c a' b')
 |block (id:Nat) {b:TC} {b':SC}:Er b b'->Er (.block id b) (.block id b')
 |zf (A:Ann) (id:Nat) {b:TC} {b':SC}:Er b b'->Er (.zf A id b) (.block id b')
 |loop (A:Ann) {b:TC} {b':SC}:Er b b'->Er (.loop A b) (.loop b')
 |exit (id:Nat):Er (.exit id) (.exit id)
 |ret:Er .ret .ret
 |defer (f:FuncId) (c:List Operand) (t:Nat):Er (.defer f c t) (.defer f c t)
 |adj (l:List Adj) {c:TC} {c':SC}:Er c c'->Er (.adj l c) c'
 |split (k off lo n:Nat) {c:TC} {c':SC}:Er c c'->Er (.split k off lo n c) c'
 |bsp (t:Nat) {a b:TC} {c':SC}:Er a c'->Er b c'->Er (.bsp t a b) c'
 |unl (n:Nat) {b:TC} {b':SC}:Er b b'->Er (.unl n b) (.loop b')
 |jq (c:SC):Er .jq c
def Fp {H:PT alx} {c:TC} {z:SC} (h:Er c z):Er (LR H i c) z:=by
 unfold LR;split
 .exact .adj _ h
 .exact .split _ _ _ _ h
 .exact .bsp _ (.split _ _ _ _ h) h
 .exact h
def AH (H:PT alx):∀(c:SC) (n:Nat),Er (ID H c n).1 c
 |.skip,n=>Fp .skip
 |.jy o p,n=>Fp (.jy o p)
 |.seq a b,n=>by
  have h1:=AH H a (n+1);have z:=AH H b (ID H a (n+1)).2;simp[ID];split
  .exact .jx _ h1 z
  .exact .seq h1 z
 |.cond c a b,n=>by
  have h1:=AH H a (n+1);have z:=AH H b (ID H a (n+1)).2;exact Fp (.cond c h1 z)
 |.block id b,n=>by
  have h1:=AH H b (n+1);simp[ID];split
  .exact .zf _ id h1
  .exact .block id h1
 |.loop b,n=>by
  have h1:=AH H b (n+1);simp[ID];split
  .exact .loop _ h1
  .exact .unl _ h1
  .exact .jq _
 |.exit id,n=>Fp (.exit id)
 |.ret,n=>Fp .ret
 |.defer f c t,n=>.defer f c t
 |.jq,n=>.jq _
variable {R:Type}
def aek {σ:Type} {step:σ->M (σ⊕R)} {x:σ} {r:R} (h:iter step x=Z r):∃n,iterN step n x=Z r:=by
 unfold iter at h;split at h
 .exact⟨_,h⟩
 .cases h
def ac1 {α:Type} {o:M (R⊕α)} {k:α->M R} {r:R} (h:jn o k=Z r):(∃x,o=Z (.inr x)/\k x=Z r)\/o=Z (.inl r):=by
 unfold jn at h
 grind
section inv
variable {P:Program} {nt:Nat}
def CK (id:Nat) (ops:Array Oper) (z:Bool):cG P nt (.region id ops z)= .jq\/
 ((ops.toList.all λo=>match o.dst with|some d=>decide (d<nt)|none=>J)=J/\
   ((∃f caps t,G8 ops z=Z (f,caps,t)/\cG P nt (.region id ops z)= .defer f caps t)\/
    ∃l prs,tU P ops ops.toList=Z l/\Rj ops l=Z prs/\cG P nt (.region id ops z)= .jy l prs)):=by
 simp[cG]
 grind
def H3:Code->Bool
 |.cond (.const (.bool _)) _ _=>af
 |_=>J
def k_ (P:Program) (nt:Nat) (c:Code):∃z,H3 z=J/\cG P nt z=cG P nt c/\∀Q a w,z.wp P Q a w->c.wp P Q a w:=by
 have self:∀c:Code,H3 c=J->∃z,H3 z=J/\cG P nt z=cG P nt c/\∀Q a w,z.wp P Q a w->c.wp P Q a w:=λc h=>⟨c,h,rfl,λ_ _ _ h=>h⟩
 induction c with
 |cond o x y ihx ihy=>
  cases o with
  |const v=>
   cases v with
   |bool b=>
    cases b with
    |true=>
     let⟨z,h1,D,A⟩:=ihx;exact⟨z,h1,D,λQ a w h=>wp_cond_true rfl (A Q a w h)⟩
    |false=>
     let⟨z,h1,D,A⟩:=ihy;exact⟨z,h1,D,λQ a w h=>wp_cond_false rfl (A Q a w h)⟩
   |_=>exact self _ rfl
  |_=>exact self _ rfl
 |_=>exact self _ rfl
variable {c:Operand}
def Jm {α:Prop} {x y:Code} {sc:SC} (z:H3 (.cond c x y)=J) (h:cG P nt (.cond c x y)=sc) (h1:sc≠ .jq) (A:∀t a b,sc≠ .cond t a b):α:=by
 cases c with
 |tmp q=>exact (A _ _ _ h.symm).elim
 |const v=>cases v<;>first|exact (h1 h.symm).elim|cases z
 |_=>exact (h1 h.symm).elim
def ans {c:Code} {sl:Y uB} {prs:Y p?} (A:H3 c=J) (h:cG P nt c= .jy sl prs):∃id ops z,c= .region id ops z/\(ops.toList.all λo=>match o.dst with|some d=>decide (d<nt)|none=>J)=J/\tU P ops ops.toList=Z sl/\Rj ops sl=Z prs:=by
 cases c with
 |region id ops z=>
  rcases CK (P:=P) (nt:=nt) id ops z with h1|⟨hd,⟨f,caps,t,_,h1⟩|⟨l,p,L,D,h1⟩⟩
  .rw[h1]at h;cases h
  .rw[h1]at h;cases h
  .grind
 |cond o x y=>exact Jm A h (by simp) (by simp)
 |_=>simp[cG]at h
variable {f:FuncId}
def ael {c:Code} {caps:Y Operand} (A:H3 c=J) (h:cG P nt c= .defer f caps i):∃id ops z,c= .region id ops z/\(ops.toList.all λo=>match o.dst with|some d=>decide (d<nt)|none=>J)=J/\G8 ops z=Z (f,caps,i):=by
 cases c with
 |region id ops z=>
  rcases CK (P:=P) (nt:=nt) id ops z with h1|⟨hd,⟨f',caps',L,D,h1⟩|⟨l,p,D,N,h1⟩⟩
  .rw[h1]at h;cases h
  .grind
  .rw[h1]at h;cases h
 |cond o x y=>exact Jm A h (by simp) (by simp)
 |_=>simp[cG]at h
def qB {c:Code} {sc:SC} (h:cG P nt c=sc) (h1:sc≠ .jq) (L:∀a b,sc≠ .jy a b) (D:∀a b t,sc≠ .defer a b t):∀id ops A,c≠ .region id ops A:=by
 rintro id ops A rfl;rcases CK (P:=P) (nt:=nt) id ops A with z|⟨_,⟨f,caps,t,_,z⟩|⟨l,p,_,_,z⟩⟩<;>rw[z]at h
 .exact h1 h.symm
 .exact D _ _ _ h.symm
 .exact L _ _ h.symm
def aje {c:Code} (z:H3 c=J) (h:cG P nt c= .skip):c= .skip:=by
 have nr:=qB h (by simp) (by simp) (by simp);cases c with
 |skip=>rfl
 |region id ops A=>exact bA rfl (nr id ops A)
 |cond o x y=>exact Jm z h (by simp) (by simp)
 |_=>simp[cG]at h
def anr {c:Code} (z:H3 c=J) (h:cG P nt c= .ret):c= .ret:=by
 have nr:=qB h (by simp) (by simp) (by simp);cases c with
 |ret=>rfl
 |region id ops A=>exact bA rfl (nr id ops A)
 |cond o x y=>exact Jm z h (by simp) (by simp)
 |_=>simp[cG]at h
def ajf {c:Code} (z:H3 c=J) (h:cG P nt c= .exit i):c= .exit i:=by
 have nr:=qB h (by simp) (by simp) (by simp);cases c with
 |exit id=>simp[cG]at h;rw[h]
 |region id ops A=>exact bA rfl (nr id ops A)
 |cond o x y=>exact Jm z h (by simp) (by simp)
 |_=>simp[cG]at h
def ac4 {c:Code} {a b:SC} (z:H3 c=J) (h:cG P nt c= .seq a b):∃x y,c= .seq x y/\cG P nt x=a/\cG P nt y=b:=by
 have nr:=qB h (by simp) (by simp) (by simp);cases c with
 |seq x y=>simp[cG]at h;exact⟨x,y,rfl,h.1,h.2⟩
 |region id ops A=>exact bA rfl (nr id ops A)
 |cond o x y=>exact Jm z h (by simp) (by simp)
 |_=>simp[cG]at h
def ajg {c:Code} {a b:SC} (z:H3 c=J) (h:cG P nt c= .cond i a b):∃x y,c= .cond (.tmp i) x y/\cG P nt x=a/\cG P nt y=b:=by
 have nr:=qB h (by simp) (by simp) (by simp);cases c with
 |cond o x y=>
  cases o with
  |tmp q=>simp[cG]at h;obtain⟨rfl,h1,A⟩:=h;exact⟨x,y,rfl,h1,A⟩
  |const v=>cases v<;>first|(simp [cG]at h;done)|cases z
  |_=>simp[cG]at h
 |region id ops D=>exact bA rfl (nr id ops D)
 |_=>simp[cG]at h
def Rv {c:Code} {b:SC} (z:H3 c=J) (h:cG P nt c= .block i b):∃y,c= .block i y/\cG P nt y=b:=by
 have nr:=qB h (by simp) (by simp) (by simp);cases c with
 |block id y=>simp[cG]at h;obtain⟨rfl,h1⟩:=h;exact⟨y,rfl,h1⟩
 |region i ops A=>exact bA rfl (nr i ops A)
 |cond o x y=>exact Jm z h (by simp) (by simp)
 |_=>simp[cG]at h
def VH {c:Code} {b:SC} (z:H3 c=J) (h:cG P nt c= .loop b):∃y,c= .loop y/\cG P nt y=b:=by
 have nr:=qB h (by simp) (by simp) (by simp);cases c with
 |loop y=>simp[cG]at h;exact⟨y,rfl,h⟩
 |region id ops A=>exact bA rfl (nr id ops A)
 |cond o x y=>exact Jm z h (by simp) (by simp)
 |_=>simp[cG]at h
end inv
def arn (P:Program) (E:Nat->Prop) (nt np:Nat) (φ:PM) (s:TS) (w:World) (am:Nat) (K:Ex->TS->M R) (r:R):Exit->Act->World->Prop:=
 λe z w'=>∃ex s' φ',e=ex.to/\K ex s'=Z r/\ju P E nt np φ' s' z w'/\xM np φ φ' (erHF s.h) (erHF s'.h) w w'/\fI am s.e s'.e
variable {P:Program} {w:World} {b:Bool} {O:Nat->Prop} {V:PM} {S:Act}
def ju.bool {s:TS} (c:ju P O i j V s S w) {t:Nat} (ht:s.e.get t=Z (.f .bool b)):S.eval (.tmp t)= .bool b:=
 fM (c.env t _ (by simp[fK,ht,aD,b_];rfl))
def ju.qw {s:TS} (c:ju P O i j V s S w) {t:Nat} (ht:s.e.get t=Z .qw):∃b,S.eval (.tmp t)= .bool b:=by
 have:=c.env t .qw (by simp[fK,ht,aD,b_]);show ∃b,S.tmps.getD t undef= .bool b;generalize S.tmps.getD t undef=z at this;cases this with
 |qw=>exact⟨_,rfl⟩
def ag3 {a b:M R} {r:R} (h:IU a b=Z r):a=Z r/\b=Z r:=by
 unfold IU at h
 grind
variable {f:FuncId} {e:Array Oper} {d:Exit->Act->World->Prop}
def aog {inert:FuncId->Bool} (hin:Pa P inert) (ha:∀Q∈S.defers,Yj P Q) (hs:S.tmps.size=i) {caps:Y Operand} {t:Nat} (hd:(e.toList.all λo=>match o.dst with|some Q=>decide (Q<i)|none=>J)=J) (hdf:G8 e b=Z (f,caps,t)) (hi:inert f=J) 
 (hQ:∀L,(∀u,u≠t->L.tmps.getD u undef=S.tmps.getD u undef)->(∀Q∈L.defers,Yj P Q)->L.tmps.size=i->d .normal L w):(Code.region j e b).wp P d S w:=by
 unfold G8 at hdf;split at hdf
 .rename_i p q hops;split at hdf
  .rename_i D first caps' N cl hpo hpg hpd hqo hqg hqd
   split at hdf
   .rename_i t2 hcl hca;split at hdf
    .rename_i hcond;simp only[au]at hcond;let⟨h1,h2⟩:=hcond;have h1:=av h1;have h2:first=#[]:=by grind
     simp only[ah,aT]at hdf;obtain⟨rfl,rfl,rfl⟩:=hdf;subst h1 h2;have hops':e=#[p,q]:=by grind
     let⟨hcb,hincalls⟩:=hin D hi;have htn:N<i:=by grind
     let z:Value:=.func (.func D) #[] (caps'.map S.eval)
     refine wp_region ?_;have hr2:dE e.size=[0,1]:=by rw[hops'];rfl
     rw[hr2];have e0:e[0]? =Z p:=by grind
     have e1:e[1]? =Z q:=by grind
     rw[wpOps_cons];have hexec1:(execOp S.eval p).run P w= .ok (.value z) w:=by
      unfold execOp;rw[hpo];simp[Instr.makeFunc,z]
     have w1:qM p (yielded e S.tmps)=J:=by unfold qM;rw[hpg]
     unfold wpOp;simp only[e0,w1,bq];left;unfold Lj;rw[hexec1];show wpOps P e d [1] (S.put p.dst z) w;rw[wpOps_cons];unfold wpOp;have w2:qM q (yielded e (S.put p.dst z).tmps)=J:=by unfold qM;rw[hqg]
     simp only[e1,w2,bq];left;have pg:∀u,(S.put p.dst z).tmps.getD u undef=if p.dst=Z u then z else S.tmps.getD u undef:=λu=>Vk (by intro Q A;rw[hpd]at A;cases A;rw[hs];exact htn)
     have heval:(S.put p.dst z).eval (.tmp N)=z:=by
      show (S.put p.dst z).tmps.getD N undef=z;rw[pg,aE hpd]
     have hargs:cl.args=#[]:=by grind
     have hexec2:(execOp (S.put p.dst z).eval q).run P w= .ok (.defer {target:=.fn (.func D) (caps'.map S.eval),args:=#[]}) w:=by
      unfold execOp;rw[hqo];simp[resolve,hcl,heval,z,Deferred.ofValue,hargs]
     unfold Lj;rw[hexec2];show wpOps P e d [] _ w;refine hQ _ (λu hu=>?_) (λQ A=>?_) ?_
     .rw[hqd];show (S.put p.dst z).tmps.getD u undef=_;rw[pg,ax (by rw[hpd];intro ops;cases ops;exact hu rfl)]
     .rw[hqd]at A;have hd'':Q={target:=.fn (.func D) (caps'.map S.eval),args:=#[]}\/Q∈(S.put p.dst z).defers:=by
       simpa[Act.put] using A
      rcases hd'' with rfl|hd''
      .intro w0;refine ⟨_,_,D,caps'.map S.eval,rfl,?_,hincalls _ w0⟩;simp[invoke,Ac hcb]
      .rw[L9]at hd'';exact ha Q hd''
     .rw[hqd];show (S.put p.dst z).tmps.size=i;rw[Vj];exact hs
    .cases hdf
   .cases hdf
  .cases hdf
 .cases hdf
variable {X:FuncId->M cA} {W:TypeId->M Ty}
def as9 {E:Nat->Prop} {inert:FuncId->Bool} (hm:P.follows .mixedOrders=J) (hcon:Hw P X) (hin:Pa P inert):
 ∀{tc:TC} {sc:SC},Er tc sc->∀(c:Code),cG P i c=sc->∀(R:Type) (s:TS) (K:Ex->TS->M R) (r:R),oI j X W inert tc s K=Z r->∀(φ:PM) (a:Act) (w:World),ju P E i j φ s a w->c.wp P (arn P E i j φ s w (tc.asg 0) K r) a w:=by
 intro tc sc hE;induction hE with
 |skip=>
  intro c hc R s K r h φ a w g;let⟨c',hn,L,hsim⟩:=k_ P i c;refine hsim _ _ _ ?_;rw[<- L]at hc;rw[aje hn hc];exact wp_skip ⟨.normal,s,φ,rfl,h,g,xM.refl _ _ _ _,fI.refl _ _⟩
 |jy ops prs=>
  intro c hc R s K r h φ a w g;let⟨c',hn,L,hsim⟩:=k_ P i c;refine hsim _ _ _ ?_;rw[<- L]at hc;obtain⟨id,os,dr,rfl,h1,h2,h3⟩:=ans hn hc;simp only[oI]at h;refine ai7 (K:=λs'=>K .normal s') hm hcon g (am:=Us ops 0) (λnp o d ho hd=>?_) h1 h2 h3 h λa' w' s' φ' q1 N q3 q4=>⟨.normal,s',φ',rfl,q1,N,q3,q4⟩
  have hmem:o∈os.toList:=by have:=Array.mem_of_getElem? ho;simpa using this
  have key:∀(rest:Y Oper) (sl:Y uB),tU P os rest=Z sl->∀o∈rest,∃so∈sl,so.dst=o.dst:=by
   intro rest;induction rest with
   |nil=>intro sl _ o ho;cases ho
   |cons x rest ih=>
    intro sl hsl o ho;simp only[tU]at hsl;split at hsl
    .rename_i l hl;have:∃so,sl=so::l/\so.dst=x.dst:=by
      split at hsl
      .simp only[ah]at hsl;exact⟨_,hsl.symm,rfl⟩
      .split at hsl
       .simp only[ah]at hsl;exact⟨_,hsl.symm,rfl⟩
       .cases hsl
     obtain⟨so,rfl,hso⟩:=this;rcases a_.1 ho with rfl|ho
     .exact⟨so,by simp,hso⟩
     .obtain⟨q,hq,hq2⟩:=ih l hl o ho;exact⟨q,by simp[hq],hq2⟩
    .cases hsl
  let⟨so,hso,hd2⟩:=key os.toList ops h2 o hmem;exact XW hso (by rw[hd2];exact hd)
 |@seq x y x' y' _ _ ihx ihy=>
  intro c hc R s K r h φ a w g;let⟨c',hn,L,hsim⟩:=k_ P i c;refine hsim _ _ _ ?_;rw[<- L]at hc;obtain⟨cx,cy,rfl,h1,h2⟩:=ac4 hn hc;simp only[oI]at h;refine wp_seq (wp_mono (ihx cx h1 R s _ r h φ a w g) ?_);rintro e a' w' ⟨ex,s',φ',rfl,z,g',st,kp⟩;have kp':fI ((TC.seq x y).asg 0) s.e s'.e:=kp.mono λk z=>by simp only[TC.asg];exact kl z
  cases ex with
  |normal=>
   refine wp_mono (ihy cy h2 R s' K r z φ' a' w' g') ?_;rintro e2 a2 w2 ⟨ex2,s2,φ2,rfl,hk2,g2,st2,kp2⟩;exact⟨ex2,s2,φ2,rfl,hk2,g2,st.trans st2,kp'.trans (kp2.mono λk z=>by simp only[TC.asg];exact vD z)⟩
  |exit id=>exact⟨.exit id,s',φ',rfl,z,g',st,kp'⟩
  |ret=>exact⟨.ret,s',φ',rfl,z,g',st,kp'⟩
 |@jx A x y x' y' _ _ ihx ihy=>
  intro c hc R s K r h φ a w g;let⟨c',hn,L,hsim⟩:=k_ P i c;refine hsim _ _ _ ?_;rw[<- L]at hc;obtain⟨cx,cy,rfl,h1,h2⟩:=ac4 hn hc;simp only[oI]at h;have sub1:∀k,aO (x.asg 0) k=J->aO ((TC.jx A x y).asg 0) k=J:=λk z=>by simp only[TC.asg];exact kl (vD z)
  have sub2:∀k,aO (y.asg 0) k=J->aO ((TC.jx A x y).asg 0) k=J:=λk z=>by simp only[TC.asg];exact vD z
  have sub3:∀k,aO (PI A.ks 0) k=J->aO ((TC.jx A x y).asg 0) k=J:=λk z=>by simp only[TC.asg];exact kl (kl z)
  rcases ac1 h with ⟨d,h3,h4⟩|h3
  .refine wp_seq (wp_mono (ihx cx h1 _ s _ _ h3 φ a w g) ?_);rintro e a' w' ⟨ex,s',φ',rfl,z,g',st,kp⟩;cases ex with
   |normal=>
    simp only[]at z;let⟨d',q1,N⟩:=dX z;simp only[ah,Sum.inr.injEq]at N;subst N;split at h4
    .rename_i s1 hs1;let⟨φ1,g1,Pj⟩:=Ti g' q1 hs1 λk _ _ v hv hf ha v' hv'=>by
      let⟨v0,e1,e2⟩:=kp k ha v' hv';rw[hv]at e1;cases e1;exact e2 hf
     refine wp_mono (ihy cy h2 R s1 K r h4 φ1 a' w' g1) ?_;rintro e2 a2 w2 ⟨ex2,s2,φ2,rfl,hk2,g2,st2,kp2⟩;exact⟨ex2,s2,φ2,rfl,hk2,g2,(st.trans Pj).trans st2,((HO hs1).1.mono sub3).trans (kp2.mono sub2)⟩
    .cases h4
   |_=>simp only[]at z;let⟨_,_,N⟩:=dX z;simp at N
  .refine wp_seq (wp_mono (ihx cx h1 _ s _ _ h3 φ a w g) ?_);rintro e a' w' ⟨ex,s',φ',rfl,z,g',st,kp⟩;cases ex with
   |normal=>simp only[]at z;let⟨_,_,N⟩:=dX z;simp at N
   |exit id=>
    simp only[]at z;let⟨r',q1,N⟩:=dX z;simp only[ah,Sum.inl.injEq]at N;subst N;exact⟨.exit id,s',φ',rfl,q1,g',st,kp.mono sub1⟩
   |ret=>
    simp only[]at z;let⟨r',q1,N⟩:=dX z;simp only[ah,Sum.inl.injEq]at N;subst N;exact⟨.ret,s',φ',rfl,q1,g',st,kp.mono sub1⟩
 |@cond t x y x' y' _ _ ihx ihy=>
  intro c hc R s K r h φ a w g;let⟨c',hn,L,hsim⟩:=k_ P i c;refine hsim _ _ _ ?_;rw[<- L]at hc;obtain⟨cx,cy,rfl,h1,h2⟩:=ajg hn hc;simp only[oI]at h;split at h
  .rename_i b hb;rcases mP h with ⟨rfl,h⟩|⟨rfl,h⟩
   .refine wp_cond_true (g.bool hb) (wp_mono (ihx cx h1 R s K r h φ a w g) ?_);rintro e a' w' ⟨ex,s',φ',rfl,z,g',st,kp⟩;exact⟨ex,s',φ',rfl,z,g',st,kp.mono λk z=>by simp only[TC.asg];exact kl z⟩
   .refine wp_cond_false (g.bool hb) (wp_mono (ihy cy h2 R s K r h φ a w g) ?_);rintro e a' w' ⟨ex,s',φ',rfl,z,g',st,kp⟩;exact⟨ex,s',φ',rfl,z,g',st,kp.mono λk z=>by simp only[TC.asg];exact vD z⟩
  .rename_i hb;let⟨ha,hbb⟩:=ag3 h;let⟨bv,hbv⟩:=g.qw hb;cases bv with
   |true=>
    refine wp_cond_true hbv (wp_mono (ihx cx h1 R s K r ha φ a w g) ?_);rintro e a' w' ⟨ex,s',φ',rfl,z,g',st,kp⟩;exact⟨ex,s',φ',rfl,z,g',st,kp.mono λk z=>by simp only[TC.asg];exact kl z⟩
   |false=>
    refine wp_cond_false hbv (wp_mono (ihy cy h2 R s K r hbb φ a w g) ?_);rintro e a' w' ⟨ex,s',φ',rfl,z,g',st,kp⟩;exact⟨ex,s',φ',rfl,z,g',st,kp.mono λk z=>by simp only[TC.asg];exact vD z⟩
  .cases h
 |@block id b b' _ ih=>
  intro c hc R s K r h φ a w g;let⟨c',hn,L,hsim⟩:=k_ P i c;refine hsim _ _ _ ?_;rw[<- L]at hc;obtain⟨cb,rfl,h1⟩:=Rv hn hc;simp only[oI]at h;refine wp_block (wp_mono (ih cb h1 R s _ r h φ a w g) ?_);rintro e a' w' ⟨ex,s',φ',rfl,z,g',st,kp⟩;cases ex with
  |normal=>exact⟨.normal,s',φ',rfl,z,g',st,kp⟩
  |ret=>exact⟨.ret,s',φ',rfl,z,g',st,kp⟩
  |exit nt=>
   simp only[Ex.to,Exit.inBlock];simp only[]at z;split at z
   next hb=>rw[aE (av hb)];exact⟨.normal,s',φ',rfl,z,g',st,kp⟩
   next hb=>rw[ax (λe=>hb (by rw[e];exact gr id))];exact⟨.exit nt,s',φ',rfl,z,g',st,kp⟩
 |@zf A id b b' _ ih=>
  intro c hc R s K r h φ a w g;let⟨c',hn,L,hsim⟩:=k_ P i c;refine hsim _ _ _ ?_;rw[<- L]at hc;obtain⟨cb,rfl,h1⟩:=Rv hn hc;simp only[oI]at h;have sub1:∀k,aO (b.asg 0) k=J->aO ((TC.zf A id b).asg 0) k=J:=λk z=>by simp only[TC.asg];exact vD z
  have sub3:∀k,aO (PI A.ks 0) k=J->aO ((TC.zf A id b).asg 0) k=J:=λk z=>by simp only[TC.asg];exact kl z
  rcases ac1 h with ⟨d,h3,h4⟩|h3
  .refine wp_block (wp_mono (ih cb h1 _ s _ _ h3 φ a w g) ?_);rintro e a' w' ⟨ex,s',φ',rfl,z,g',st,kp⟩;have fin:aA (Qi j A (b.asg 0) s s') (λx=>Z (bZ (α:=R) x))=Z (bZ d)->arn P E i j φ s w ((TC.zf A id b).asg 0) K r .normal a' w':=by
    intro z;let⟨d',q1,N⟩:=dX z;simp only[ah,Sum.inr.injEq]at N;subst N;split at h4
    .rename_i s1 hs1;let⟨φ1,g1,Pj⟩:=Ti g' q1 hs1 λk _ _ v hv hf ha v' hv'=>by
      let⟨v0,e1,e2⟩:=kp k ha v' hv';rw[hv]at e1;cases e1;exact e2 hf
     exact⟨.normal,s1,φ1,rfl,h4,g1,st.trans Pj,(HO hs1).1.mono sub3⟩
    .cases h4
   cases ex with
   |normal=>exact fin z
   |ret=>simp only[]at z;let⟨_,_,N⟩:=dX z;simp at N
   |exit nt=>
    simp only[Ex.to,Exit.inBlock];simp only[]at z;split at z
    next hb=>rw[aE (av hb)];exact fin z
    .obtain⟨_,_,N⟩:=dX z;simp at N
  .refine wp_block (wp_mono (ih cb h1 _ s _ _ h3 φ a w g) ?_);rintro e a' w' ⟨ex,s',φ',rfl,z,g',st,kp⟩;cases ex with
   |normal=>simp only[]at z;let⟨_,_,N⟩:=dX z;simp at N
   |ret=>
    simp only[]at z;let⟨r',q1,N⟩:=dX z;simp only[ah,Sum.inl.injEq]at N;subst N;exact⟨.ret,s',φ',rfl,q1,g',st,kp.mono sub1⟩
   |exit nt=>
    simp only[Ex.to,Exit.inBlock];simp only[]at z;split at z
    .obtain⟨_,_,N⟩:=dX z;simp at N
    next hb=>rw[ax (λe=>hb (by rw[e];exact gr id))];let⟨r',q1,N⟩:=dX z;simp only[ah,Sum.inl.injEq]at N;subst N;exact⟨.exit nt,s',φ',rfl,q1,g',st,kp.mono sub1⟩
 |@loop A b b' _ ih=>
  intro c hc R s K r h φ a w g;let⟨c',hn,L,hsim⟩:=k_ P i c;refine hsim _ _ _ ?_;rw[<- L]at hc;obtain⟨cb,rfl,h1⟩:=VH hn hc;simp only[oI]at h;let⟨x0,hx0,h⟩:=dX h;let⟨n,hn⟩:=aek h;have sub1:∀k,aO (b.asg 0) k=J->aO ((TC.loop A b).asg 0) k=J:=λk z=>by simp only[TC.asg];exact vD z
  have sub3:∀k,aO (PI A.ks 0) k=J->aO ((TC.loop A b).asg 0) k=J:=λk z=>by simp only[TC.asg];exact kl z
  obtain⟨step,hstep⟩:∃step:A.D->M (A.D⊕R),step=λx=>(match Kt A (b.asg 0) s x with
   |some s'=>oI j X W inert b s' λex s'=>(match ex with
    |.normal=>aA (Qi j A (b.asg 0) s s') λy=>Z (lJ y)
    |ex=>aA (K ex s') λr=>Z (bZ r))
   |none=>U):=⟨_,rfl⟩
  have hn:iterN step n x0=Z r:=by rw[hstep];exact hn
  have stepEq:∀x,step x=(match Kt A (b.asg 0) s x with
   |some s'=>oI j X W inert b s' λex s'=>(match ex with
    |.normal=>aA (Qi j A (b.asg 0) s s') λy=>Z (lJ y)
    |ex=>aA (K ex s') λr=>Z (bZ r))
   |none=>U):=λx=>by rw[hstep]
  let Inv:Nat->Act->World->Prop:=λn a w'=>∃x s1 φ1,iterN step n x=Z r/\Kt A (b.asg 0) s x=Z s1/\ju P E i j φ1 s1 a w'/\xM j φ φ1 (erHF s.h) (erHF s1.h) w w'
  have head:∀(n:Nat) (x:A.D),iterN step n x=Z r->∃s1,Kt A (b.asg 0) s x=Z s1:=by
   intro n x hn;cases n with
   |zero=>cases hn
   |succ n=>
    simp only[iterN]at hn;cases hr:Kt A (b.asg 0) s x with
    |some s1=>exact⟨s1,rfl⟩
    |none=>rw[stepEq,hr]at hn;cases hn
  refine Fq Inv ?_ (n:=n) ?_
  .rintro n a1 w1 ⟨x,s1,φ1,hi,hr,g1,Pj⟩;cases n with
   |zero=>cases hi
   |succ n=>
    simp only[iterN]at hi;have hse:=stepEq x;rw[hr]at hse;simp only[]at hse;let⟨kp1,kp1'⟩:=HO hr;split at hi
    .rename_i y hy;rw[hy]at hse;refine wp_mono (ih cb h1 _ s1 _ _ hse.symm φ1 a1 w1 g1) ?_;rintro e a' w' ⟨ex,s',φ',rfl,z,g',st,kp⟩;cases ex with
     |normal=>
      simp only[]at z;let⟨d',q1,N⟩:=dX z;simp only[ah,Sum.inl.injEq]at N;subst N;let⟨s2,hs2⟩:=head n d' hi;let⟨φ2,g2,st2⟩:=Ti g' q1 hs2 λk hkk hks v hv hf ha v' hv'=>by
       let⟨v0,e1,e2⟩:=kp k ha v' hv';have:=kp1' k hks v0 e1;rw[hv]at this;cases this;exact e2 hf
      exact⟨n,by omega,d',s2,φ2,hi,hs2,g2,(Pj.trans st).trans st2⟩
     |_=>simp only[]at z;let⟨_,_,N⟩:=dX z;simp at N
    .rename_i r' hy;cases hi;rw[hy]at hse;refine wp_mono (ih cb h1 _ s1 _ _ hse.symm φ1 a1 w1 g1) ?_;rintro e a' w' ⟨ex,s',φ',rfl,z,g',st,kp⟩;cases ex with
     |normal=>simp only[]at z;let⟨_,_,N⟩:=dX z;simp at N
     |exit id=>
      simp only[]at z;let⟨r',q1,N⟩:=dX z;simp only[ah,Sum.inr.injEq]at N;subst N;exact⟨.exit id,s',φ',rfl,q1,g',Pj.trans st,(kp1.mono sub3).trans (kp.mono sub1)⟩
     |ret=>
      simp only[]at z;let⟨r',q1,N⟩:=dX z;simp only[ah,Sum.inr.injEq]at N;subst N;exact⟨.ret,s',φ',rfl,q1,g',Pj.trans st,(kp1.mono sub3).trans (kp.mono sub1)⟩
    .cases hi
  .obtain⟨s1,hs1⟩:=head n x0 hn;let⟨φ1,g1,Pj⟩:=Ti g hx0 hs1 λk _ _ v hv _ _ v' hv'=>by rw[hv]at hv';cases hv';rfl
   exact⟨x0,s1,φ1,hn,hs1,g1,Pj⟩
 |exit id=>
  intro c hc R s K r h φ a w g;let⟨c',hn,L,hsim⟩:=k_ P i c;refine hsim _ _ _ ?_;rw[<- L]at hc;rw[ajf hn hc];exact wp_exit ⟨.exit id,s,φ,rfl,h,g,xM.refl _ _ _ _,fI.refl _ _⟩
 |ret=>
  intro c hc R s K r h φ a w g;let⟨c',hn,L,hsim⟩:=k_ P i c;refine hsim _ _ _ ?_;rw[<- L]at hc;rw[anr hn hc];exact wp_ret ⟨.ret,s,φ,rfl,h,g,xM.refl _ _ _ _,fI.refl _ _⟩
 |defer f caps t=>
  intro c hc R s K r h φ a w g;let⟨c',hn,L,hsim⟩:=k_ P i c;refine hsim _ _ _ ?_;rw[<- L]at hc;obtain⟨id,ops,dr,rfl,h1,h2⟩:=ael hn hc;simp only[oI]at h;split at h
  .rename_i hi;refine aog hin g.inert g.size h1 h2 hi λa' d1 d2 d3=>⟨.normal,_,φ,rfl,h,⟨g.zk,λu x hx=>?_,g.dom,g.low,g.qz,λu x hx=>?_,d2,d3⟩,xM.refl _ _ _ _,λk z v' hv'=>?_⟩
   .simp only[fK,PT.get_set]at hx;split at hx
    .cases hx
    next hu=>rw[d1 u hu];exact g.env u x hx
   .simp only[PT.get_set]at hx;split at hx
    .cases hx
    .exact g.qp u x hx
   .simp only[PT.get_set]at hv';split at hv'
    .cases hv'
    .exact⟨v',hv',λ_=>rfl⟩
  .cases h
 |@adj l tc' sc' _ ih=>
  intro c hc R s K r h φ a w g;let⟨c',hn,L,hsim⟩:=k_ P i c;refine hsim _ _ _ ?_;rw[<- L]at hc;simp only[oI]at h;split at h
  next s1 hs1=>let⟨φ1,g1,Pj,kp1⟩:=Ux g hs1;refine wp_mono (ih c' hc R s1 K r h φ1 a w g1) ?_;rintro e a' w' ⟨ex,s',φ',rfl,z,g',st,kp⟩;exact⟨ex,s',φ',rfl,z,g',Pj.trans st,(kp1.mono λk z=>by simp only[TC.asg];exact kl z).trans (kp.mono λk z=>by simp only[TC.asg];exact vD z)⟩
  .cases h
 |@split k off lo n tc' sc' _ ih=>
  intro c hc R s K r h φ a w g;let⟨c',hn,L,hsim⟩:=k_ P i c;refine hsim _ _ _ ?_;rw[<- L]at hc;simp only[oI]at h;split at h
  .rename_i kd v hv;let⟨np,hj,h2⟩:=UW h;subst hj;split at h2
   .rename_i s1 hs1;let⟨g1,hH,he⟩:=ahq g hv hs1;refine wp_mono (ih c' hc R s1 K r h2 φ a w g1) ?_;rintro e a' w' ⟨ex,s',φ',rfl,z,g',st,kp⟩;exact⟨ex,s',φ',rfl,z,g',by rw[<- hH];exact st,λk z v' hv'=>by
     let⟨v,q1,N⟩:=kp k z v' hv';exact⟨v,by rw[<- he];exact q1,N⟩⟩
   .cases h2
  .cases h
 |@bsp t x y sc' _ _ ihx ihy=>
  intro c hc R s K r h φ a w g;simp only[oI]at h;split at h
  .rename_i v hv;rcases mP h with ⟨rfl,h⟩|⟨rfl,h⟩
   .have he:∀q,(s.e.set t (Z (.f .bool J))).get q=s.e.get q:=λq=>by
     rw[PT.get_set];split
     next e=>subst e;exact hv.symm
     .rfl
    let⟨g1,hH⟩:=g.congr (s':=⟨s.e.set t (Z (.f .bool J)),s.h,s.nx⟩) he (λ_=>rfl) rfl;refine wp_mono (ihx c hc R _ K r h φ a w g1) ?_;rintro e a' w' ⟨ex,s',φ',rfl,z,g',st,kp⟩;exact⟨ex,s',φ',rfl,z,g',by rw[<- hH];exact st,λk z v' hv'=>by
     let⟨v,q1,N⟩:=(kp.mono λk z=>by simp only[TC.asg];exact kl z) k z v' hv';exact⟨v,by rw[<- he];exact q1,N⟩⟩
   .have he:∀q,(s.e.set t (Z (.f .bool af))).get q=s.e.get q:=λq=>by
     rw[PT.get_set];split
     next e=>subst e;exact hv.symm
     .rfl
    let⟨g1,hH⟩:=g.congr (s':=⟨s.e.set t (Z (.f .bool af)),s.h,s.nx⟩) he (λ_=>rfl) rfl;refine wp_mono (ihy c hc R _ K r h φ a w g1) ?_;rintro e a' w' ⟨ex,s',φ',rfl,z,g',st,kp⟩;exact⟨ex,s',φ',rfl,z,g',by rw[<- hH];exact st,λk z v' hv'=>by
     let⟨v,q1,N⟩:=(kp.mono λk z=>by simp only[TC.asg];exact vD z) k z v' hv';exact⟨v,by rw[<- he];exact q1,N⟩⟩
  .cases h
 |@unl n b b' _ ih=>
  intro c hc R s K r h φ a w g;let⟨c',hn,L,hsim⟩:=k_ P i c;refine hsim _ _ _ ?_;rw[<- L]at hc;obtain⟨cb,rfl,h1⟩:=VH hn hc;simp only[oI]at h
  let Inv:Nat->Act->World->Prop:=λm a w'=>∃s1 φ1,amh (λs K=>oI j X W inert b s K) m s1 K=Z r/\ju P E i j φ1 s1 a w'/\xM j φ φ1 (erHF s.h) (erHF s1.h) w w'/\fI (b.asg 0) s.e s1.e
  refine Fq Inv ?_ (n:=n) ⟨s,φ,h,g,xM.refl _ _ _ _,fI.refl _ _⟩;rintro m a1 w1 ⟨s1,φ1,hi,g1,Pj,kp1⟩;cases m with
  |zero=>cases hi
  |succ m=>
   simp only[amh]at hi;refine wp_mono (ih cb h1 R s1 _ r hi φ1 a1 w1 g1) ?_;rintro e a' w' ⟨ex,s',φ',rfl,z,g',st,kp⟩;cases ex with
   |normal=>exact⟨m,nZ m,s',φ',z,g',Pj.trans st,kp1.trans kp⟩
   |exit id=>exact⟨.exit id,s',φ',rfl,z,g',Pj.trans st,kp1.trans kp⟩
   |ret=>exact⟨.ret,s',φ',rfl,z,g',Pj.trans st,kp1.trans kp⟩
 |jq sc'=>
  intro c hc R s K r h;simp[oI]at h
def SD {s:TS} (hinv:gZ s.h s.nx) (hiE:sH s.e s.h) (r:sA V O (erHF s.h) w) (en:Si V (tot O V (erHF s.h)) w (fK s.e s.h) S):∀(N:Y ResultVar) (rvs:Y RV) (l:Y TV),xH P N=Z rvs->U7 s rvs=Z l->
 ∃la vs,cM s.h l=Z la/\(N.mapM (ai2 S.tmps)).run P w= .ok vs w/\lE V (tot O V (erHF s.h)) w la vs
 |[],rvs,l,A,z=>by
  simp[xH,ah]at A;subst A;simp[U7,ah]at z;subst z;exact⟨[],[],rfl,by simp,trivial⟩
 |.tmp t::N,rvs,l,A,z=>by
  simp[xH]at A;split at A
  .rename_i rvs' hrs;simp[ah]at A;subst A;simp[U7]at z;split at z
   .rename_i v D;split at z
    next l' L=>simp[ah]at z;subst z;let⟨la,vs,h0,h1,h2⟩:=SD hinv hiE r en N rvs' l' hrs L;simp[rvT]at D;let⟨y,hy⟩:=pi s.h v (hiE t v D);refine ⟨y::la,S.tmps.getD t undef::vs,qi hy h0,?_,en t y (by simp[fK,D,aD,hy]),h2⟩;simp[List.mapM_cons,fD,ai2,w7,c4];simp_all
    .cases z
   .cases z
  .cases A
 |.cell ad t::N,rvs,l,A,z=>by
  simp[xH]at A;split at A
  .rename_i rvs' sz ag hrs hsz hag;simp[ah]at A;subst A;simp[U7]at z;split at z
   .rename_i v D;split at z
    .rename_i l' L;simp[ah]at z;subst z;let⟨la,vs,h0,h1,h2⟩:=SD hinv hiE r en N rvs' l' hrs L;simp[rvT]at D;split at D
     .rename_i id off hp;split at D
      .rename_i ty q hb;let⟨q',hq'⟩:=fE s.h q (hinv.C id _ q hb);let⟨y,e1,e2⟩:=ahj hq' D;let⟨H,hH⟩:=gM s.h;have hR:xL H sz ag (.H (nm id) off)=Z ⟨y,[nm id],[],[],[]⟩:=by
        have hg:H.get (nm id)=Z ⟨ty,.mx q'⟩:=by rw[hH,bK,hb];simp[aD,kx,hq']
        simp[xL,hg,e2]
       let⟨_,_,_,h3⟩:=X0 (P:=P) hsz hag hR;let⟨qq,v',h4,h5,h6⟩:=h3 V O (erHF s.h) w _ (λi _=>by rw[hH]) r (en ad _ (by simp[fK,hp,aD,b_]));refine ⟨y::la,v'::vs,qi e1 h0,?_,h6,h2⟩;have hone:(ai2 S.tmps (.cell ad t)).run P w= .ok v' w:=by
        simp[ai2,fD,h4,asAddr,w7,c4,h5]
       simp_all
      .cases D
     .cases D
    .cases z
   .cases z
  .cases A
def IW:∀(args:Y TV) (k t:Nat) (x:TV),(OT k args).get t=Z x->k<=t/\args[t-k]? =Z x
 |[],k,t,x,h=>by simp[OT,PT.get]at h
 |y::args,k,t,x,h=>by
  rw[OT,PT.get_set]at h;split at h
  .grind
  .obtain⟨h1,z⟩:=IW args (k+1) t x h
   grind
variable {r:Y TV} {u:TV}
def ain (A:lH h r=J) (L:r[j]? =Z u):PD h u=J:=by
 let⟨l',D⟩:=fE h r A;let⟨y,_,z⟩:=l_ D j u L;exact Iy _ _ _ z
def Yz {inert:FuncId->Bool} (hm:P.follows .mixedOrders=J) (hcon:Hw P X) (hin:Pa P inert) {sf:SF} (hf:CL P f=Z sf) (D:FT) (m:D.pre.ty.den->M D.post.ty.den) (hmod:∀x y,m x=Z y->ahh X W inert (Z sf) D x=Z y):rh P f ⟨D.pre,D.post,m⟩:=by
 let⟨fn,c,hfn,hb,hnm,hcode,hres,hnt⟩:=XN hf;refine ⟨⟨fn,hfn,by rw[hb];rfl,hnm⟩,λx y hxy vs hp l1 rs hq l2 la lr I B hla hlr φ E w us hrep hrel hdom=>?_⟩;have ht:=hmod x y hxy;unfold ahh at ht;simp only[]at ht;split at ht
 .rename_i args h hins;let⟨l1',I'⟩:=yR hins;have e1:args=vs:=by have h1:=I.pv;have N:=I'.pv;rw[h1]at N;cases N;rfl
  have e2:l1'=l1:=by have h1:=I.pb;have N:=I'.pb;rw[h1]at N;cases N;rfl
  subst e1 e2;have hget:∀i,h.get i=hp.get i:=λi=>by
   cases h3:hp.get i with
   |some b=>exact (I'.at_ i b).2 ((I.at_ i b).1 h3)
   |none=>
    cases h4:h.get i with
    |none=>rfl
    |some b=>have:=(I.at_ i b).2 ((I'.at_ i b).1 h4);rw[h3]at this;cases this
  have hrow:∀i,eM h i=eM hp i:=λi=>by rw[bB,bB,hget]
  have herH:erHF h=erHF hp:=by
   funext n;unfold erHF;rw[hget];cases h3:hp.get (ow n) with
   |none=>rfl
   |some b=>
    simp only[aD];refine ma (λi r hr=>by rw[hrow];exact hr) (λty l e=>?_) _ _;exact (I.C _ _ l (by rw[h3,e])).1
  have hla':cM h args=Z la:=gV (λi r hr=>by rw[hrow];exact hr) args la hla;split at ht
  .rename_i hle;simp only[au]at hle;have hle2:=aX hle.2;have hle:=aX hle.1;have hlen:=hrel.length;have hargl:args.length=la.length:=(iB hla).symm;refine calls_of_wp_defers hfn hb ?_;have hcfg:ju P E fn.ntmps D.pre.bs.length φ ⟨OT 0 args,h,D.pre.bs.length⟩ {tmps:=us.toArray++zY (fn.ntmps-us.toArray.size) undef,defers:=[]} w:=by
    refine ⟨by rw[herH];exact hrep,?_,hdom,bJ _,⟨λi ty l hl=>(I'.C i _ l hl).1,λi b hbb=>I'.lt_len hbb⟩,?_,by simp,by simp;omega⟩
    .intro t z hz;simp only[fK]at hz;cases hx:(OT 0 args).get t with
     |none=>rw[hx]at hz;cases hz
     |some v0=>
      rw[hx]at hz;let⟨_,N⟩:=IW args 0 t v0 hx;rw[Nat.sub_zero]at N;let⟨y0,q1,q2⟩:=l_ hla' t v0 N;simp only[aD]at hz;rw[hz]at q2;cases q2;let⟨v,h3,h4⟩:=hrel.get t z q1;have hlt:t<us.length:=(bz.1 h3).1;have:(us.toArray++zY (fn.ntmps-us.toArray.size) undef).getD t undef=v:=by
       rw[jZ,Array.getElem?_append]
       grind
      grind
    .intro t v0 hv0;let⟨_,N⟩:=IW args 0 t v0 hv0;exact ain I'.ok N
   refine wp_mono (as9 (E:=E) hm hcon hin (AH D.hints sf.code 0) c hcode.symm _ _ _ _ ht φ _ w hcfg) ?_;rintro e a' w' ⟨ex,s',φ',rfl,L,g',st,_⟩;have fin:∀(s':TS) (φ':PM),ju P E fn.ntmps D.pre.bs.length φ' s' a' w'->xM D.pre.bs.length φ φ' (erHF h) (erHF s'.h) w w'->(match U7 s' sf.res with
    |some l=>(match E7 D.pre.bs.length D.post l s'.h with
     |some ⟨y,_,_,_⟩=>(match D2 D.post y with|some _=>Z y|none=>U)
     |none=>U)
    |none=>U)=Z y->Leaves P fn a'.tmps (λen w'=>∃v φ',en= .returned v/\I5 (own φ (erHF hp)) w w'/\(∀k,k<w.heap.size->own φ' (erHF hq) k->own φ (erHF hp) k)/\(∀n,ow n<D.pre.bs.length->φ' n=φ n)/\sA φ' E (erHF hq) w'/\cz φ' (tot E φ' (erHF hq)) w' (Fs lr) v) a'.defers .returning w':=by
    intro s' φ' g' st L;split at L
    .rename_i l hl;split at L
     .rename_i y' m' σ sm hM;split at L
      .cases L;let⟨lo,rvs,q0,q1,q2⟩:=SD g'.qz g'.qp g'.zk g'.env fn.results.toList sf.res l hres hl;have A:=yM hM;let⟨φ2,lu,hlu,S⟩:=Pu (np:=D.pre.bs.length) (E:=E) B g'.qz A q0 g'.zk;rw[hlr]at hlu;cases hlu;have hresults:(results fn a'.tmps).run P w'= .ok (if h:rvs.toArray.size=1 then rvs.toArray[0] else .tuple rvs.toArray) w':=by
        rw[YK,Array.mapM_eq_mapM_toList];simp only[fD,Sem.run_map,q1,c4,w7]
       have hrl:lE φ2 (tot E φ2 (erHF hq)) w' lr rvs:=by
        refine lE.of (by rw[q2.length,S.len]) λj z v hz hv=>?_
        let⟨z0,p1,p2⟩:=S.val j z v hz;let⟨v',p3,p4⟩:=q2.get j z0 p1;rw[hv]at p3;cases p3;exact p2 p4
       have hval:cz φ2 (tot E φ2 (erHF hq)) w' (Fs lr) (if h:rvs.toArray.size=1 then rvs.toArray[0] else .tuple rvs.toArray):=by
        have hll:=hrl.length;clear hlr S;cases lr with
        |nil=>
         cases rvs with
         |nil=>exact cz.qg (vs:=[]) rfl (by intro j x v hx;simp at hx)
         |cons _ _=>exact hrl.elim
        |cons z lr=>
         cases rvs with
         |nil=>exact hrl.elim
         |cons v rvs=>
          cases lr with
          |nil=>
           cases rvs with
           |nil=>exact hrl.1
           |cons _ _=>exact hrl.2.elim
          |cons y l=>
           cases rvs with
           |nil=>exact hrl.2.elim
           |cons u rvs=>
            rw[dif_neg (by simp)];refine cz.qg (vs:=v::u::rvs) (by simpa using hll) λj x' v' hx hv=>?_
            let⟨v'',q1,q2⟩:=hrl.get j x' hx;rw[hv]at q1;cases q1;exact q2
       have st':xM D.pre.bs.length φ φ' (erHF hp) (erHF s'.h) w w':=by rw[<- herH];exact st
       refine F4 hresults ⟨_,φ2,rfl,st'.ext,λk L ho=>st'.zw k L (S.zw k ho),λi hi=>?_,S.zk,hval⟩ a'.defers g'.inert;rw[S.par i hi (dB hi hle2),st'.par i hi]
      .cases L
     .cases L
    .cases L
   have fin2:(match X2 s' (axc D) with
    |some s=>(match U7 s sf.res with
     |some l=>(match E7 D.pre.bs.length D.post l s.h with
      |some ⟨y,_,_,_⟩=>(match D2 D.post y with|some _=>Z y|none=>U)
      |none=>U)
     |none=>U)
    |none=>U)=Z y->Leaves P fn a'.tmps (λen w'=>∃v φ',en= .returned v/\I5 (own φ (erHF hp)) w w'/\(∀k,k<w.heap.size->own φ' (erHF hq) k->own φ (erHF hp) k)/\(∀n,ow n<D.pre.bs.length->φ' n=φ n)/\sA φ' E (erHF hq) w'/\cz φ' (tot E φ' (erHF hq)) w' (Fs lr) v) a'.defers .returning w':=by
    intro L;split at L
    next s2 ha=>let⟨φ3,c3,t3,_⟩:=Ux g' ha;exact fin s2 φ3 c3 (st.trans t3) L
    .cases L
   cases ex with
   |exit id=>cases L
   |_=>exact fin2 L
  .cases ht
 .cases ht
abbrev A?:=FuncId×cA
def Z8:Y A?->FuncId->M cA
 |[],_=>U
 |(g,c)::r,f=>if aB g f then Z c else Z8 r f
def Q0 (P:Program):Y A?->Prop
 |[]=>True
 |p::r=>aN P (p.1%65536) p.2/\Q0 P r
def acu :∀{l:Y A?},Q0 P l->Hw P (Z8 l)
 |[],_,f,c,h=>by simp[Z8]at h
 |(g,d)::r,z,f,c,h=>by
  simp only[Z8]at h;split at h
  next A=>have:=av A;subst this;cases h;exact z.1
  .exact acu z.2 f c h
def Wk {inert:FuncId->Bool} (hm:P.follows .mixedOrders=J) (hin:Pa P inert) {l:Y A?} (A:Q0 P l) {D:FT} {m:D.pre.ty.den->M D.post.ty.den} (z:(CL P f).isSome=J) (he:∀x,ahh (Z8 l) W inert (CL P f) D x=m x):rh P f ⟨D.pre,D.post,m⟩:=by
 let⟨L,hf⟩:=qN.1 z;exact Yz hm (acu A) hin hf D m λx y hxy=>by rw[<- hf,he];exact hxy
def rh.sub {pre post:Tm} {m m':pre.ty.den->M post.ty.den} (h:rh P f ⟨pre,post,m⟩) (z:∀x y,m' x=Z y->m x=Z y):rh P f ⟨pre,post,m'⟩:=
 ⟨h.zm,λx y hxy=>h.calls x y (z x y hxy)⟩
def aN.sub {P:Program} {f:FuncId} {pre post:Tm} {m m':pre.ty.den->M post.ty.den} (h:aN P f ⟨pre,post,m⟩) (z:eJ (l! pre.bs) (l! post.bs)=J) (A:∀x y,m' x=Z y->m x=Z y):aN P f ⟨pre,post,m'⟩:=
 ((h.holds z).sub A).toC z
def tB {b:Nat}:∀(x y:Y R),chk (bh (aj x) b) (λ_=>Z x)=Z y->aJ (aB (aj x) 0) (IU (Z ([]:Y R)) (chk (bh (aj ([]:Y R)+aj x) b) λ_=>(Z (([]:Y R)++x)))) (chk (bh (aj ([]:Y R)+aj x) b) λ_=>(Z (([]:Y R)++x)))=Z y:=by
 intro x y h;rw[kR,pG,b9,h];cases x with
 |nil=>
  let⟨_,h⟩:=cN h;cases h;show IU (Z []) (Z [])=_;unfold IU;rw[aE rfl]
 |cons a r=>rfl
def Zr {pre post:Tm} (z:(CL P f).isSome=J):rh P f ⟨pre,post,λ_=>U⟩:=by
 let⟨D,hf⟩:=qN.1 z;let⟨fn,c,hfn,A,hnm,_⟩:=XN hf;exact⟨⟨fn,hfn,by rw[A];rfl,hnm⟩,λx y h=>by cases h⟩
def rh.orElse {pre post:Tm} {m m':pre.ty.den->M post.ty.den} (h:rh P f ⟨pre,post,m⟩) (h':rh P f ⟨pre,post,m'⟩):rh P f ⟨pre,post,λx=>match m x with|some y=>Z y|none=>m' x⟩:=
 ⟨h.zm,λx y hxy=>by
   cases hm:m x with
   |some z=>rw[show (cA.m ⟨pre,post,λx=>match m x with|some y=>Z y|none=>m' x⟩ x)=Z z by show (match m x with|some y=>Z y|none=>m' x)=Z z;rw[hm]]at hxy;cases hxy;exact h.calls x _ hm
   |none=>rw[show (cA.m ⟨pre,post,λx=>match m x with|some y=>Z y|none=>m' x⟩ x)=m' x by show (match m x with|some y=>Z y|none=>m' x)=m' x;rw[hm]]at hxy;exact h'.calls x y hxy⟩
def aN.orE {pre post:Tm} {m m':pre.ty.den->M post.ty.den} (z:eJ (l! pre.bs) (l! post.bs)=J) (h:aN P f ⟨pre,post,m⟩) (h':aN P f ⟨pre,post,m'⟩):aN P f ⟨pre,post,λx=>AI.orE (m x) (m' x)⟩:=by
 have e:(λx=>AI.orE (m x) (m' x))=λx=>match m x with|some y=>Z y|none=>m' x:=by funext x;cases m x<;>rfl
 rw[e];exact ((h.holds z).orElse (h'.holds z)).toC z
def inert (_:FuncId):Bool:=af
def VK:Pa Tryz.prog inert:=λ_ h=>by cases h
def dN :Y (Nat×R)->PT R
 |[]=>.leaf
 |p::r=>(dN r).set p.1 (Z p.2)
noncomputable abbrev Pg:Program:=Tryz.prog
def cn (D:FT) (m:D.pre.ty.den->M D.post.ty.den):cA:=⟨D.pre,D.post,m⟩
def ax5:Pg.follows .mixedOrders=J:=by kernel_rfl
def ac {c:cA} {l:Y A?} (h:aN Pg f c) (t:Q0 Pg l) (hf:eH f 65536=J:=by rfl):Q0 Pg ((f,c)::l):=⟨by rw[xa (Ur hf)];exact h,t⟩
def ac2 {c:cA} {l:Y A?} (q:FuncId) (z:q%65536=f) (h:aN Pg f c) (t:Q0 Pg l):Q0 Pg ((q,c)::l):=⟨by rw[z];exact h,t⟩
def an:Q0 Pg []:=trivial
inductive OI {R:Type}:Option R->Option R->Prop where
 |rfl {a:Option R}:OI a a
 |chk {b:Bool} {k k':Option R} (h:ms k k'):OI (chk b λ_=>k) (chk b λ_=>k')
 |aJ {b:Bool} {t f t' f':Option R} (h1:ms t t') (h2:ms f f'):OI (aJ b t f) (aJ b t' f')
 |lt {α:Type} {x:α} {k k':α->Option R} (h:∀y,ms (k y) (k' y)):OI (lt x k) (lt x k')
 |jn {α:Type} {o o':Option (R⊕α)} {k k':α->Option R} (h:ms o o') (hk:∀x,ms (k x) (k' x)):OI (jn o k) (jn o' k')
 |aA {α:Type} {o o':Option α} {k k':α->Option R} (h:ms o o') (hk:∀x,ms (k x) (k' x)):OI (aA o k) (aA o' k')
 |iter {σ:Type} {f g:σ->Option (σ⊕R)} {x:σ} (h:∀x,ms (f x) (g x)):OI (hX f x) (iter g x)
def OI.o {a b:M R} (h:OI a b):ms a b:=by
 cases h with
 |rfl=>exact ms.rfl
 |chk h=>exact ms.chk h
 |aJ h g=>exact ms.bcase h g
 |lt h=>exact ms.lt h
 |jn h g=>exact ms.jn h g
 |aA h g=>exact ms.obind h g
 |iter h=>exact ms.iter h
def mk (D:FT) (m:D.pre.ty.den->M D.post.ty.den) {l:Y A?} (N:Q0 Pg l) (z:TypeId->M Ty) (he:∀x,ahh (Z8 l) z inert (CL Pg f) D x=m x:=by intro x;kernel_rfl) (A:(CL Pg f).isSome=J:=by kernel_rfl) (L:eJ (l! D.pre.bs) (l! D.post.bs)=J:=by kernel_rfl):aN Pg f (cn D m):=(Wk ax5 VK N A he).toC L
def Dd (D:FT) (m n:D.pre.ty.den->M D.post.ty.den) (L:∀x,ms (m x) (n x)) {l:Y A?} (ha:Q0 Pg l) (z:TypeId->M Ty) (he:∀x,ahh (Z8 l) z inert (CL Pg f) D x=n x:=by intro x;kernel_rfl) (A:(CL Pg f).isSome=J:=by kernel_rfl) (N:eJ (l! D.pre.bs) (l! D.post.bs)=J:=by kernel_rfl):aN Pg f (cn D m):=((Wk ax5 VK ha A he).sub L).toC N
def Jk (D:FT) (z:(CL Pg f).isSome=J:=by kernel_rfl) (A:eJ (l! D.pre.bs) (l! D.post.bs)=J:=by kernel_rfl):aN Pg f (cn D λ_=>U):=(Zr z).toC A
abbrev aP:Ty:=(.int .i64)
abbrev lF:Ty:=(.st (.pr .str (.pr aP (.pr aP (.pr .bool aP)))))
abbrev tC:Ty:=(.st (.pr .str .bool))
abbrev pR:Ty:=(.st (.pr aP (.pr aP aP)))
abbrev mn:Ty:=(.st (.pr (.sl lF) (.pr (.sl tC) (.pr (.sl itK) (.pr (.sl .str) (.pr (.sl .str) (.sl pR)))))))
abbrev I4:Ty:=(.sl (.sl aP))
abbrev fy:Ty:=(.st (.pr aP (.pr (.sl aP) (.pr I4 aP))))
abbrev sF:Ty:=(.st (.pr aP (.pr aP (.pr aP (.pr aP (.pr aP aP))))))
abbrev ec:Ty:=(.st (.pr aP (.sl aP)))
abbrev uD:Ty:=(.sl .bool)
abbrev alw:Ty:=(.pr aP (.pr aP .bool))
abbrev iC:Ty:=(.st alw)
abbrev HC:Ty:=(.st (.pr (.sl ec) (.pr aP (.pr uD (.sl iC)))))
abbrev gz:Ty:=(.st (.pr aP (.pr aP (.pr aP (.pr aP (.pr aP (.pr (.sl aP) (.sl aP))))))))
abbrev Kn:Ty:=(.st (.pr aP (.pr aP (.pr .str (.pr aP (.pr aP .str))))))
abbrev uX:Ty:=(.st (.pr .str (.pr aP (.pr (.sl .str) (.sl .sm)))))
abbrev Sh:Ty:=(.st (.pr (.sl Kn) (.sl uX)))
abbrev zP:Ty:=(.st (.pr aP (.sl sF)))
abbrev wJ:Ty:=(.st (.pr mn (.sl zP)))
abbrev yh:Ty:=(.st (.pr HC (.pr (.sl aP) (.pr (.sl aP) (.sl fy)))))
abbrev nL:Ty:=(.st (.pr HC (.pr (.sl aP) (.pr (.sl aP) (.sl aP)))))
abbrev Hs:Ty:=(.sl (.int .u8))
abbrev BI:Ty:=(.st (.pr Hs aP))
abbrev gf:Ty:=(.st (.pr aP aP))
abbrev rn:Ty:=(.st (.pr mn (.sl gz)))
abbrev s?:=Int×Int×Bool×Int
abbrev X6:=(ζ×s?)
abbrev oF:=(Y X6)
abbrev H?:=ζ×Bool
abbrev nJ:=(Y H?)
abbrev ku:=(ζ×Int)
abbrev dA:=(Y ζ)
abbrev c!:=oF×nJ×(Y ku)×dA×dA×Y π
abbrev eC:=c!
abbrev i?:=Int×Int
abbrev tX:=(oF×nJ×(Y ku)×dA×dA×(Y π)×dA×i?)
abbrev j!:=Int×η
abbrev jV:=(Y j!)
abbrev e!:=Int×Int×Bool
abbrev eE:=e!
abbrev h?:=(θ)×Y eE
abbrev w!:=jV×Int×h?
abbrev rq:=w!
abbrev k?:=Int×(η)×(Y η)×Int
abbrev yd:=k?
abbrev mc:=(ω)
abbrev b!:=Int×Int×Int×Int×Int×(η)×η
abbrev gJ:=b!
abbrev C!:=Int×Int×(ζ)×Int×Int×ζ
abbrev ats:=C!
abbrev zJ:=(Y ats)
abbrev zI:=(ζ×Int×dA×Y Sx)
abbrev N?:=Bool×Bool
abbrev Y!:=Int×Int×Bool×Bool×N?
abbrev Ho:=Y!
abbrev z?:=eC×Y (Int×Y mc)
abbrev Fn:=z?
abbrev Hq:=(υ)
abbrev f?:=(η)×(η)×η
abbrev V!:=rq×f?
abbrev j_:=V!
abbrev n?:=η×Int
abbrev iD:=n?
abbrev h!:=rq×(η)×(η)×Y yd
abbrev AO:=h!
abbrev aad:=(Int×Int×(ζ)×(ζ)×Int×Int×ζ)
abbrev zK:=(zJ×(Y zI)×Int)
abbrev X7:=(Bool×Y ζ)
abbrev Ya23:=(Int×Int×yd×yd×k?)
abbrev Ya24:=(yd×Int×Int×yd×k?)
abbrev À:=Int×Int×k?
abbrev Ya25:=(yd×yd×À)
abbrev j?:=Ho×iD×Bool×Y ζ
abbrev al9:=((Y Sx)×j?)
abbrev Ya27:=(Int×Int×yd×k?)
abbrev Ya28:=(yd×À)
abbrev Ya29:=À
abbrev ag6:=(Int×j?)
abbrev al8:=(Sx×j?)
abbrev e?:=zK×(Bool×Y Sx)×dA×Y ζ
abbrev apa:=(ν×e?)
abbrev g!:=tX×Y mc
abbrev QR:=(Sx×g!)
abbrev Hp:=(AO×gJ×Bool)
abbrev Z!:=(Sx×Int×Int×Int)×g!
abbrev al7:=Z!
abbrev ap9:=(ν×j?)
abbrev ap8:=(ku×j?)
abbrev ag5:=(Ho×iD×X7×Y Sx)
abbrev ap7:=(Xp×j?)
abbrev Ya42:=(yd×yd×yd×i?)
abbrev al6:=((Y Sx)×g!)
abbrev be {α:Type} (l:Y α):Int:=aS (aj l)
abbrev cQ (n:Int):Int:=bn .i64 (n+1)
abbrev aI {R α:Type} (x:α):M (R⊕α):=Z (bZ x)
abbrev c7 {R α:Type} (x:R):M (R⊕α):=Z (lJ x)
abbrev bX {R:Type} (T:Ty) (l:Y T.den) (j:Int) (k:T.den->M R):M R:=chk (dK j (aj l)) λ_=>lt (geti T l j) k
abbrev kq {R:Type} (T:Ty) (l:Y T.den) (j:Int) (k:T.den->M R):M R:=chk (dK j (aj l)) λ_=>chk (dK j (aj l)) λ_=>lt (geti T l j) k
abbrev ky {R α:Type} (j:Int) (l:Y α) (k:M R):M R:=chk (dK j (aj l)) λ_=>k
abbrev bU {R:Type} (b:Bool) (k:M R):M R:=chk b λ_=>k
abbrev bm {R:Type} (a b:Int) (t f:M R):M R:=aJ (decide (a=b)) t f
abbrev jK {R:Type} (a b:Int) (t f:M R):M R:=aJ (!decide (a=b)) t f
abbrev bS {R:Type} (a b:Int) (t f:M R):M R:=aJ (gE a b) t f
abbrev jY {R:Type} (a b:Int) (t f:M R):M R:=aJ (dy a b) t f
def ck (b:Bool) (k:M R):M R:=chk b λ_=>chk b λ_=>k
def eO (s:Sx):Sx:=oV (Sx.op s,Sx.line s,Sx.name s,Sx.arg s,Sx.index s,eL (Xp.op (Sx.expr s),Xp.n (Sx.expr s),Xp.name (Sx.expr s),Xp.l (Sx.expr s)),Sx.body s,Sx.els s)
def lA (x:Unit):M dA:=
 (Z ([[118,97,114],[118,111,108,97,116,105,108,101],[109,117,116,101,120],[114,119,108,111,99,107],[99,111,110,100],[102,117,116,117,114,101],[116,104,114,101,97,100],[105,102],[101,108,115,101],[119,104,105,108,101],[108,111,99,107],[114,101,97,100],[119,114,105,116,101],[116,114,97,110,115,97,99,116,105,111,110],[97,116,111,109,105,99],[119,97,105,116],[110,111,116,105,102,121],[110,111,116,105,102,121,97,108,108],[115,112,97,119,110],[106,111,105,110],[115,101,116],[103,101,116]]))
def lU (x:ζ):M (Bool):=
 (aA (lA ()) λA=>(iter (σ:=Int) (λz=>(bS z (be A) (bX (.str) A z λD=>(aJ (decide ((D:ζ)=x)) (aI J) (c7 (cQ z)))) (aI af))) 0))
def mr (x:Int):M (Bool):=
 (jn (jY 97 x (jY x 122 (aI J) (jY 65 x (aI (dy x 90)) (aI af))) (jY 65 x (aI (dy x 90)) (aI af))) λz=>(Z z))
def s8 (x:Int):M (Bool):=
 (jn (jY 48 x (aI (dy x 57)) (aI af)) λz=>(Z z))
def qI (x:Int):M (Bool):=
 (jn (aA (mr x) λA=>(aJ A (aI J) (aA (s8 x) λz=>(aJ z (aI J) (aI (decide ((x:Int)=95))))))) λD=>(Z D))
def fR (x:ζ):M (Bool):=
 (jn (bS (be x) 1 (aI J) (bS 12 (be x) (aI J) (ky 0 x (aA (mr (amo x 0)) λL=>(aJ (!L) (aI J) (aA (lU x) λD=>(aI D))))))) λN=>(aJ N (Z af) (iter (σ:=Int) (λz=>(bS z (be x) (ky z x (aA (qI (amo x z)) λA=>(aJ (!A) (aI af) (c7 (cQ z))))) (aI J))) 0)))
def gk (x:Bool):M (Int):=
 (aJ x (Z 1) (Z 0))
def wg (x:ν):M q!:=
 (bm x.1 4 (Z ((bn .i64 (0-x.2)),J)) (bm x.1 5 (aA (gk (decide ((x.2:Int)=0))) λz=>(Z (z,J))) (Z (0,af))))
def xi (x:π):M q!:=
 (bm x.1 6 (Z ((bn .i64 (x.2.1+x.2.2)),J)) (bm x.1 7 (Z ((bn .i64 (x.2.1-x.2.2)),J)) (bm x.1 8 (Z ((bn .i64 (x.2.1*x.2.2)),J)) (bm x.1 9 (bm x.2.2 0 (Z (0,J)) (bU (!decide ((x.2.2:Int)=0)) (Z ((bn .i64 (Int.tdiv x.2.1 x.2.2)),J)))) (bm x.1 10 (bm x.2.2 0 (Z (0,J)) (bU (!decide ((x.2.2:Int)=0)) (Z ((C4 x.2.1 x.2.2),J)))) (bm x.1 11 (aA (gk (decide ((x.2.1:Int)=x.2.2))) λy1=>(Z (y1,J))) (bm x.1 12 (aA (gk (!decide ((x.2.1:Int)=x.2.2))) λy2=>(Z (y2,J))) (bm x.1 13 (aA (gk (gE x.2.1 x.2.2)) λy3=>(Z (y3,J))) (bm x.1 14 (aA (gk (dy x.2.1 x.2.2)) λy4=>(Z (y4,J))) (bm x.1 15 (aA (gk (gE x.2.2 x.2.1)) λy5=>(Z (y5,J))) (bm x.1 16 (aA (gk (dy x.2.2 x.2.1)) λy6=>(Z (y6,J))) (bm x.1 17 (jn (jK x.2.1 0 (aA (gk (!decide ((x.2.2:Int)=0))) λN=>(aI (N,J))) (aA (gk af) λL=>(aI (L,J)))) λx7=>(Z x7)) (bm x.1 18 (jn (jK x.2.1 0 (aA (gk J) λA=>(aI (A,J))) (aA (gk (!decide ((x.2.2:Int)=0))) λz=>(aI (z,J)))) λD=>(Z D)) (Z (0,af)))))))))))))))
def wh (x:ν):M (Int):=
 (bS x.2 1 (Z 0) (bU (!decide ((x.2:Int)=0)) (jn (bS (C4 x.1 x.2) 0 (aI (bn .i64 ((C4 x.1 x.2)+x.2))) (aI (C4 x.1 x.2))) λz=>(Z z))))
def nA (x:Int):M (Int):=
 (jn (bm x 1 (aI J) (aI (decide ((x:Int)=2)))) λD=>(aJ D (Z 0) (jn (jY 3 x (aI (dy x 5)) (aI af)) λA=>(aJ A (Z 1) (jn (jY 6 x (aI (dy x 18)) (aI af)) λz=>(aJ z (Z 2) (Z (-1))))))))
def p_ (rr02_ShapedExpr:Xp->M (Bool)) (x:Xp):M (Bool):=
 (jn (bm (Xp.op x) 2 (aI (J,eL ((Xp.op x),(Xp.n x),(Xp.name x),(Xp.l x)))) (aI ((decide (((Xp.op x):Int)=3)),eL ((Xp.op x),(Xp.n x),(Xp.name x),(Xp.l x))))) λz=>(jn (α:=Bool×Xp) (aA (nA (Xp.op z.2)) λy3=>(jK y3 (aS (aj (Xp.l z.2))) (aI (J,eL ((Xp.op z.2),(Xp.n z.2),(Xp.name z.2),(Xp.l z.2)))) (aJ ((z.1==(!decide (((Xp.name z.2):ζ)=([])))) !=J) (aI (J,eL ((Xp.op z.2),(Xp.n z.2),(Xp.name z.2),(Xp.l z.2)))) (aJ z.1 (aA (fR (Xp.name z.2)) λy4=>(aJ (!y4) (aI (J,eL ((Xp.op z.2),(Xp.n z.2),(Xp.name z.2),(Xp.l z.2)))) (bS (Xp.n z.2) 0 (aI (J,eL ((Xp.op z.2),(Xp.n z.2),(Xp.name z.2),(Xp.l z.2)))) (jK (Xp.op z.2) 1 (aI ((!decide (((Xp.n z.2):Int)=0)),eL ((Xp.op z.2),(Xp.n z.2),(Xp.name z.2),(Xp.l z.2)))) (aI (af,eL ((Xp.op z.2),(Xp.n z.2),(Xp.name z.2),(Xp.l z.2)))))))) (bS (Xp.n z.2) 0 (aI (J,eL ((Xp.op z.2),(Xp.n z.2),(Xp.name z.2),(Xp.l z.2)))) (jK (Xp.op z.2) 1 (aI ((!decide (((Xp.n z.2):Int)=0)),eL ((Xp.op z.2),(Xp.n z.2),(Xp.name z.2),(Xp.l z.2)))) (aI (af,eL ((Xp.op z.2),(Xp.n z.2),(Xp.name z.2),(Xp.l z.2)))))))))) λD=>(aJ D.1 (Z af) (iter (σ:=Int×Xp) (λA=>(bS A.1 (aS (aj (Xp.l A.2))) (bX (.ex) (Xp.l A.2) A.1 λL=>(aA (rr02_ShapedExpr L) λN=>(aJ (!N) (aI af) (c7 ((cQ A.1),eL ((Xp.op A.2),(Xp.n A.2),(Xp.name A.2),(Xp.l A.2))))))) (aI J))) (0,eL ((Xp.op D.2),(Xp.n D.2),(Xp.name D.2),(Xp.l D.2)))))))
def iz:Nat->Xp->M (Bool)
 |0,_=>U
 |n+1,x=>p_ (iz n) x
def Cj (n:Nat) (x:Xp):iz (n+1) x=p_ (iz n) x:=rfl
def jM (x:Xp):M (Bool):=iz fuel x
def qH (x:Xp):M (Bool):=
 (jn (α:=Bool) (bm (Xp.op x) 0 (bm (Xp.n x) 0 (aJ (decide (((Xp.name x):ζ)=([]))) (aI (decide (((aS (aj (Xp.l x))):Int)=0))) (aI af)) (aI af)) (aI af)) λz=>(Z z))
def kX (rr02_ShapedStmt:Sx->M (Bool)) (rr02_ShapedStmts:(Y Sx)->M (Bool)) (x:Sx):M (Bool):=
 (jn (bS (Sx.op x) 1 (aI (J,eO x)) (aI ((gE 15 (Sx.op x)),eO x))) λx1=>(aJ x1.1 (Z af) (jn (bm (Sx.op x1.2) 2 (aI (J,eO x1.2)) (bm (Sx.op x1.2) 3 (aI (J,eO x1.2)) (bm (Sx.op x1.2) 7 (aI (J,eO x1.2)) (aI ((decide (((Sx.op x1.2):Int)=8)),eO x1.2))))) λN=>(jn (α:=Bool×Sx) (aJ N.1 (aJ (!decide (((Sx.name N.2):ζ)=([]))) (aI (J,eO N.2)) (aJ (!N.1) (aA (fR (Sx.name N.2)) λy4=>(aI ((!y4),eO N.2))) (aI (af,eO N.2)))) (aJ (!N.1) (aA (fR (Sx.name N.2)) λy5=>(aI ((!y5),eO N.2))) (aI (af,eO N.2)))) λL=>(aJ L.1 (Z af) (jn (α:=Bool×Sx) (bm (Sx.op L.2) 15 (aA (fR (Sx.arg L.2)) λy7=>(aJ (!y7) (aI (J,eO L.2)) (jK (Sx.op L.2) 15 (aI ((!decide (((Sx.arg L.2):ζ)=([]))),eO L.2)) (aI (af,eO L.2))))) (jK (Sx.op L.2) 15 (aI ((!decide (((Sx.arg L.2):ζ)=([]))),eO L.2)) (aI (af,eO L.2)))) λD=>(aJ D.1 (Z af) (jn (bS 1 (aS (aj (Sx.index D.2))) (aI (J,eO D.2)) (jK (Sx.op D.2) 1 (bS 0 (aS (aj (Sx.index D.2))) (aI (J,eO D.2)) (bm (aS (aj (Sx.index D.2))) 1 (bX (.ex) (Sx.index D.2) 0 λz9=>(aA (jM z9) λy10=>(aI ((!y10),eO D.2)))) (aI (af,eO D.2)))) (bm (aS (aj (Sx.index D.2))) 1 (bX (.ex) (Sx.index D.2) 0 λz11=>(aA (jM z11) λy12=>(aI ((!y12),eO D.2)))) (aI (af,eO D.2))))) λx8=>(aJ x8.1 (Z af) (jn (bm (Sx.op x8.2) 1 (aI (J,eO x8.2)) (bm (Sx.op x8.2) 2 (aI (J,eO x8.2)) (bm (Sx.op x8.2) 3 (aI (J,eO x8.2)) (aI ((decide (((Sx.op x8.2):Int)=14)),eO x8.2))))) λz=>(jn (aJ z.1 (aA (jM (eL ((Xp.op (Sx.expr z.2)),(Xp.n (Sx.expr z.2)),(Xp.name (Sx.expr z.2)),(Xp.l (Sx.expr z.2))))) λy15=>(aJ (!y15) (aI (J,eO z.2)) (aJ (!z.1) (aA (qH (eL ((Xp.op (Sx.expr z.2)),(Xp.n (Sx.expr z.2)),(Xp.name (Sx.expr z.2)),(Xp.l (Sx.expr z.2))))) λy16=>(aI ((!y16),eO z.2))) (aI (af,eO z.2))))) (aJ (!z.1) (aA (qH (eL ((Xp.op (Sx.expr z.2)),(Xp.n (Sx.expr z.2)),(Xp.name (Sx.expr z.2)),(Xp.l (Sx.expr z.2))))) λy17=>(aI ((!y17),eO z.2))) (aI (af,eO z.2)))) λx14=>(aJ x14.1 (Z af) (jn (jY 2 (Sx.op x14.2) (aI ((dy (Sx.op x14.2) 8),eO x14.2)) (aI (af,eO x14.2))) λA=>(jn (aJ (!A.1) (bS 0 (aS (aj (Sx.body A.2))) (aI (J,eO A.2)) (jK (Sx.op A.2) 2 (aI ((gE 0 (aS (aj (Sx.els A.2)))),eO A.2)) (aI (af,eO A.2)))) (jK (Sx.op A.2) 2 (aI ((gE 0 (aS (aj (Sx.els A.2)))),eO A.2)) (aI (af,eO A.2)))) λx19=>(aJ x19.1 (Z af) (jn (aA (rr02_ShapedStmts (Sx.body x19.2)) λy21=>(aJ y21 (aA (rr02_ShapedStmts (Sx.els x19.2)) λy22=>(aI y22)) (aI af))) λx20=>(Z x20)))))))))))))))))
def l7 (rr02_ShapedStmt:Sx->M (Bool)) (rr02_ShapedStmts:(Y Sx)->M (Bool)) (x:Y Sx):M (Bool):=
 (iter (σ:=Int) (λz=>(bS z (be x) (ky z x (aA (rr02_ShapedStmt (geti (.sm) x z)) λA=>(aJ (!A) (aI af) (c7 (cQ z))))) (aI J))) 0)
mutual
def e_:Nat->Sx->M (Bool)
 |0,_=>U
 |n+1,x=>kX (e_ n) (dR n) x
def dR:Nat->(Y Sx)->M (Bool)
 |0,_=>U
 |n+1,x=>l7 (e_ n) (dR n) x
end
def Ci (n:Nat) (x:Sx):e_ (n+1) x=kX (e_ n) (dR n) x:=rfl
def BD (n:Nat) (x:Y Sx):dR (n+1) x=l7 (e_ n) (dR n) x:=rfl
def oT (x:Y Sx):M (Bool):=dR fuel x
def mZ (x:C!):M (Bool):=
 (jn (bS x.1 1 (aI (J,x)) (bS 6 x.1 (aI (J,x)) (aA (fR x.a) λL=>(aJ (!L) (aI (J,x)) (bS x.b 0 (aI (J,x)) (jK x.1 1 (aI ((!decide ((x.b:Int)=0)),x)) (aI (af,x)))))))) λz=>(aJ z.1 (Z af) (jn (α:=Bool×C!) (bm z.2.1 5 (aA (fR z.k) λD=>(aJ (!D) (aI (J,z.2)) (jK z.2.1 5 (aI ((!decide ((z.k:ζ)=([]))),z.2)) (aI (af,z.2))))) (jK z.2.1 5 (aI ((!decide ((z.k:ζ)=([]))),z.2)) (aI (af,z.2)))) λA=>(aJ A.1 (Z af) (jn (α:=Bool) (bS (-9223372036854775808) A.e (bm A.e 0 (aI J) (bm A.2.1 1 (aI J) (aI (decide ((A.2.1:Int)=2))))) (aI af)) λN=>(Z N))))))
abbrev A!:=zJ×Y zI
abbrev M?:=Int×(zJ×Y zI)×(ζ)×Int×dA×Y Sx
def qX (x:A!):M (Bool):=
 (iter (σ:=Int×A!) (λD=>(bS D.1 (be D.2.1) (bX Kn D.2.1 D.1 λz2=>(aA (mZ z2) λy3=>(aJ (!y3) (aI af) (c7 ((cQ D.1),D.2))))) (aA (iter (σ:=Int×A!) (λA=>(bS A.1 (be A.2.2) (bX uX A.2.2 A.1 λz5=>(iter (σ:=M?) (λz=>(bS z.1 (be z.c) (bX (.str) z.c z.1 λz7=>(aA (fR z7) λy8=>(aJ (!y8) (aI (bZ af)) (c7 ((cQ z.1),z.2))))) (aA (jn (aA (fR z.a) λN=>(aJ (!N) (aI (J,z.2.1)) (aA (oT z.h) λL=>(aI ((!L),z.2.1))))) λx9=>(aJ x9.1 (aI af) (c7 ((cQ A.1),x9.2)))) λr=>Z (bZ r)))) (0,A.2,z5))) (aI (gE 0 (be A.2.2))))) (0,D.2)) λr=>Z (bZ r)))) (0,x))
def j7 (x:dA×ζ):M (Int):=
 (iter (σ:=Int) (λz=>(bS z (be x.1) (bX (.str) x.1 z λA=>(aJ (decide ((A:ζ)=x.2)) (aI z) (c7 (cQ z)))) (aI (-1)))) 0)
def i_ (x:zJ×ζ):M (Int):=
 (iter (σ:=Int) (λz=>(bS z (be x.1) (bX Kn x.1 z λA=>(aJ (decide ((A.2.2.1:ζ)=x.2)) (aI z) (c7 (cQ z)))) (aI (-1)))) 0)
def iU (x:(Y zI)×ζ):M (Int):=
 (iter (σ:=Int) (λz=>(bS z (be x.1) (bX uX x.1 z λA=>(aJ (decide ((A.1:ζ)=x.2)) (aI z) (c7 (cQ z)))) (aI (-1)))) 0)
def uq (x:(zJ×Y zI)×Int×ζ):M (Int):=
 (jn (jY 0 x.2.1 (bS x.2.1 (be x.1.2) (bX uX x.1.2 x.2.1 λz2=>(aA (j7 (z2.2.2.1,x.2.2)) λy3=>(aI ((dy 0 y3),x.1)))) (aI (af,x.1))) (aI (af,x.1))) λz=>(aJ z.1 (Z 8) (aA (i_ (z.2.1,x.2.2)) λD=>(bS D 0 (aA (iU (z.2.2,x.2.2)) λy5=>(jY 0 y5 (Z 7) (Z 0))) (ky D z.2.1 (lt ((geti Kn z.2.1 D).1) λA=>(bm A 1 (bX Kn z.2.1 D λz7=>(jK z7.2.2.2.1 0 (Z 2) (Z 1))) (bm A 2 (Z 1) (jn (bm A 3 (aI ((decide ((A:Int)=3)),z.2)) (bm A 4 (aI ((decide ((A:Int)=4)),z.2)) (bm A 5 (aI ((decide ((A:Int)=5)),z.2)) (aI ((decide ((A:Int)=6)),z.2))))) λL=>(aJ L.1 (bX Kn L.2.1 D λN=>(Z N.1)) (Z 9)))))))))))
def ii (x:(zJ×Y zI)×Int×(ζ)×i?):M (Int):=
 (aA (uq (x.1,x.2.1,x.a)) λz=>(bm z 0 (Z 5) (jn (jK z x.b (aI (!decide ((z:Int)=x.f))) (aI af)) λA=>(aJ A (Z 6) (Z 0)))))
def Aw (rr04_Nodes:Xp->M ν) (x:Xp):M ν:=
 (iter (σ:=(π)×Xp) (λz=>(bS z.1.2.2 (aS (aj (Xp.l z.2))) (bX (.ex) (Xp.l z.2) z.1.2.2 λD=>(aA (rr04_Nodes D) λA=>(c7 (((bn .i64 (z.1.1+A.1)),(lX z.1.2.1 A.2),(cQ z.1.2.2)),eL ((Xp.op z.2),(Xp.n z.2),(Xp.name z.2),(Xp.l z.2)))))) (aI (z.1.1,(cQ z.1.2.1))))) ((1,0,0),eL ((Xp.op x),(Xp.n x),(Xp.name x),(Xp.l x))))
def oB:Nat->Xp->M ν
 |0,_=>U
 |n+1,x=>Aw (oB n) x
def KL (n:Nat) (x:Xp):oB (n+1) x=Aw (oB n) x:=rfl
def E4 (x:Xp):M ν:=oB fuel x
abbrev x?:=(zJ×Y zI)×Int×Xp
def wz (rr04_names:x?->M (Int)) (x:x?):M (Int):=
 (jn (α:=Int×(zJ×Y zI)×Xp) (bm (Xp.op x.2.2) 2 (aA (ii (x.1,x.2.1,(Xp.name x.2.2),8,1)) λy2=>(aI (y2,x.1,eL ((Xp.op x.2.2),(Xp.n x.2.2),(Xp.name x.2.2),(Xp.l x.2.2))))) (bm (Xp.op x.2.2) 3 (aA (ii (x.1,x.2.1,(Xp.name x.2.2),2,2)) λy3=>(aI (y3,x.1,eL ((Xp.op x.2.2),(Xp.n x.2.2),(Xp.name x.2.2),(Xp.l x.2.2))))) (aI (0,x.1,eL ((Xp.op x.2.2),(Xp.n x.2.2),(Xp.name x.2.2),(Xp.l x.2.2)))))) λD=>(iter (σ:=(ν)×(zJ×Y zI)×Xp) (λz=>(jn (bS z.1.2 (aS (aj (Xp.l z.2.2))) (aI ((decide ((z.1.1:Int)=0)),z.2.1,eL ((Xp.op z.2.2),(Xp.n z.2.2),(Xp.name z.2.2),(Xp.l z.2.2)))) (aI (af,z.2.1,eL ((Xp.op z.2.2),(Xp.n z.2.2),(Xp.name z.2.2),(Xp.l z.2.2))))) λA=>(aJ A.1 (bX (.ex) (Xp.l A.2.2) z.1.2 λL=>(aA (rr04_names (A.2.1,x.2.1,L)) λN=>(c7 ((N,(cQ z.1.2)),A.2.1,eL ((Xp.op A.2.2),(Xp.n A.2.2),(Xp.name A.2.2),(Xp.l A.2.2)))))) (aI z.1.1)))) ((D.1,0),D.2.1,eL ((Xp.op D.2.2),(Xp.n D.2.2),(Xp.name D.2.2),(Xp.l D.2.2)))))
def oA:Nat->(x?)->M (Int)
 |0,_=>U
 |n+1,x=>wz (oA n) x
def Bf (n:Nat) (x:x?):oA (n+1) x=wz (oA n) x:=rfl
def E3 (x:x?):M (Int):=oA fuel x
def oR (x:x?):M (Int):=
 (aA (jM (eL ((Xp.op x.2.2),(Xp.n x.2.2),(Xp.name x.2.2),(Xp.l x.2.2)))) λL=>(aJ (!L) (Z 3) (aA (E4 (eL ((Xp.op x.2.2),(Xp.n x.2.2),(Xp.name x.2.2),(Xp.l x.2.2)))) λA=>(jn (bS 24 A.1 (aI (J,x.1,eL ((Xp.op x.2.2),(Xp.n x.2.2),(Xp.name x.2.2),(Xp.l x.2.2)))) (aI ((gE 6 A.2),x.1,eL ((Xp.op x.2.2),(Xp.n x.2.2),(Xp.name x.2.2),(Xp.l x.2.2))))) λz=>(aJ z.1 (Z 2) (aA (E3 (z.2.1,x.2.1,eL ((Xp.op z.2.2),(Xp.n z.2.2),(Xp.name z.2.2),(Xp.l z.2.2)))) λD=>(Z D)))))))
def dt (x:Bool):M (Int):=
 (aJ x (Z 7) (Z 0))
def jG (x:ν):M (Int):=
 (jK x.1 0 (Z x.1) (Z x.2))
abbrev U?:=Int×e?
def eD (x:(Int×Int×ζ)×e?):M (Bool×e?):=
 (iter (σ:=U?) (λz=>(bS z.1 (be z.a.2) (kq (.sm) z.a.2 z.1 λA=>(jn (α:=Bool×e?) (bm (Sx.op A) x.1.1 (aJ (decide ((x.1.2.2:ζ)=([]))) (aI (J,z.2)) (aI ((decide (((Sx.name A):ζ)=x.1.2.2)),z.2))) (bm (Sx.op A) x.1.2.1 (aJ (decide ((x.1.2.2:ζ)=([]))) (aI (J,z.2)) (aI ((decide (((Sx.name A):ζ)=x.1.2.2)),z.2))) (aI (af,z.2)))) λD=>(aJ D.1 (aI (J,D.2)) (c7 ((cQ z.1),D.2))))) (aI (af,z.2)))) (0,x.2))
abbrev F!:=Int×zK×(Bool×Y Sx)×Sx×(zJ×Y zI)×dA×Y ζ
def nz (x:Sx×e?):M U?:=
 (aA (eD ((7,7,[]),x.2)) λy1=>(bU (aB (aj x.f) (aj y1.f)&&(aB (aj x.b) (aj y1.b)&&(((x.a.1==y1.a.1)&&J)&&aB (aj x.a.2) (aj y1.a.2)&&J))) (aA (eD ((8,8,[]),y1.2)) λy2=>(bU (aB (aj y1.f) (aj y2.f)&&(aB (aj y1.b) (aj y2.b)&&(((y1.a.1==y2.a.1)&&J)&&aB (aj y1.a.2) (aj y2.a.2)&&J))) (aA (eD ((3,3,[]),y2.2)) λy3=>(bU (aB (aj y2.f) (aj y3.f)&&(aB (aj y2.b) (aj y3.b)&&(((y2.a.1==y3.a.1)&&J)&&aB (aj y2.a.2) (aj y3.a.2)&&J))) (bm (Sx.op x.1) 1 (bm (aS (aj (Sx.index x.1))) 0 (aA (ii ((x.2.1.1,x.2.1.2.1),x.2.1.2.2,(Sx.name x.1),8,1)) λy4=>(aA (oR ((x.2.1.1,x.2.1.2.1),x.2.1.2.2,eL ((Xp.op (Sx.expr x.1)),(Xp.n (Sx.expr x.1)),(Xp.name (Sx.expr x.1)),(Xp.l (Sx.expr x.1))))) λy5=>(aA (jG (y4,y5)) λy6=>(Z (y6,y3.2))))) (aA (ii ((x.2.1.1,x.2.1.2.1),x.2.1.2.2,(Sx.name x.1),2,2)) λy7=>(bX (.ex) (Sx.index x.1) 0 λz8=>(aA (oR ((x.2.1.1,x.2.1.2.1),x.2.1.2.2,z8)) λy9=>(aA (oR ((x.2.1.1,x.2.1.2.1),x.2.1.2.2,eL ((Xp.op (Sx.expr x.1)),(Xp.n (Sx.expr x.1)),(Xp.name (Sx.expr x.1)),(Xp.l (Sx.expr x.1))))) λy10=>(aA (jG (y9,y10)) λy11=>(aA (jG (y7,y11)) λy12=>(Z (y12,y3.2))))))))) (jn (bm (Sx.op x.1) 2 (aI ((decide (((Sx.op x.1):Int)=2)),y3.2.1,y3.a,eO x.1,(x.2.1.1,x.2.1.2.1),y3.d)) (aI ((decide (((Sx.op x.1):Int)=3)),y3.2.1,y3.a,eO x.1,(x.2.1.1,x.2.1.2.1),y3.d))) λD=>(aJ D.1 (aA (oR (D.c,x.2.1.2.2,eL ((Xp.op (Sx.expr D.b)),(Xp.n (Sx.expr D.b)),(Xp.name (Sx.expr D.b)),(Xp.l (Sx.expr D.b))))) λy14=>(Z (y14,D.2.1,D.a,D.h))) (bm (Sx.op x.1) 4 (jn (α:=U?) (aA (ii (D.c,x.2.1.2.2,(Sx.name D.b),3,3)) λy16=>(aJ y1.1 (aA (dt J) λy17=>(aA (jG (y16,y17)) λy18=>(aI (y18,D.2.1,D.a,D.h)))) (aA (eD ((4,4,(Sx.name D.b)),D.2.1,D.a,D.h)) λy19=>(bU (aB (aj D.k) (aj y19.f)&&(aB (aj D.e) (aj y19.b)&&(((D.a.1==y19.a.1)&&J)&&aB (aj D.a.2) (aj y19.a.2)&&J))) (aA (dt y19.1) λy20=>(aA (jG (y16,y20)) λy21=>(aI (y21,y19.2)))))))) λx15=>(Z x15)) (jn (bm (Sx.op x.1) 5 (aI ((decide (((Sx.op x.1):Int)=5)),D.2.1,D.a,eO D.b,D.f)) (aI ((decide (((Sx.op x.1):Int)=6)),D.2.1,D.a,eO D.b,D.f))) λA=>(aJ A.1 (jn (α:=U?) (aA (ii (A.c,x.2.1.2.2,(Sx.name A.b),4,4)) λy24=>(aJ y1.1 (aA (dt J) λy25=>(aA (jG (y24,y25)) λy26=>(aI (y26,A.2.1,A.a,A.h)))) (aA (eD ((5,6,(Sx.name A.b)),A.2.1,A.a,A.h)) λy27=>(bU (aB (aj A.k) (aj y27.f)&&(aB (aj A.e) (aj y27.b)&&(((A.a.1==y27.a.1)&&J)&&aB (aj A.a.2) (aj y27.a.2)&&J))) (aA (dt y27.1) λy28=>(aA (jG (y24,y28)) λy29=>(aI (y29,y27.2)))))))) λx23=>(Z x23)) (bm (Sx.op x.1) 7 (aA (dt y1.1) λy30=>(Z (y30,A.2.1,A.a,A.h))) (bm (Sx.op x.1) 8 (jn (aJ y1.1 (aA (dt J) λy32=>(aI (y32,A.2.1,A.a,A.h))) (aA (dt y2.1) λy33=>(aI (y33,A.2.1,A.a,A.h)))) λx31=>(Z x31)) (jn (bm (Sx.op x.1) 9 (aI ((decide (((Sx.op x.1):Int)=9)),A.2.1,A.a,eO A.b,A.f)) (bm (Sx.op x.1) 10 (aI ((decide (((Sx.op x.1):Int)=10)),A.2.1,A.a,eO A.b,A.f)) (aI ((decide (((Sx.op x.1):Int)=11)),A.2.1,A.a,eO A.b,A.f)))) λz=>(aJ z.1 (aA (ii (z.c,x.2.1.2.2,(Sx.name z.b),5,5)) λy35=>(jK y35 0 (Z (y35,z.2.1,z.a,z.h)) (aA (i_ (z.c.1,(Sx.name z.b))) λy36=>(bX Kn z.c.1 y36 λz37=>(aA (eD ((4,4,z37.2.2.2.2.2),z.2.1,z.a,z.h)) λy38=>(bU (aB (aj z.k) (aj y38.f)&&(aB (aj z.e) (aj y38.b)&&(((z.a.1==y38.a.1)&&J)&&aB (aj z.a.2) (aj y38.a.2)&&J))) (jn (aJ y1.1 (aA (dt J) λy40=>(aI (y40,y38.2))) (aJ (!y38.1) (aA (dt J) λy41=>(aI (y41,y38.2))) (bm (Sx.op z.b) 9 (aA (dt y2.1) λy42=>(aI (y42,y38.2))) (aA (dt af) λy43=>(aI (y43,y38.2)))))) λx39=>(Z x39)))))))) (bm (Sx.op x.1) 12 (aA (ii (z.c,x.2.1.2.2,(Sx.name z.b),7,7)) λy44=>(jK y44 0 (Z (y44,z.2.1,z.a,z.h)) (aA (iU (z.c.2,(Sx.name z.b))) λy45=>(jn (aJ y1.1 (aI (J,z.2.1,z.a,eO z.b,z.h)) (aJ y2.1 (aI (J,z.2.1,z.a,eO z.b,z.h)) (aJ y3.1 (aI (J,z.2.1,z.a,eO z.b,z.h)) (bm y45 x.2.1.2.2 (aI (J,z.2.1,z.a,eO z.b,z.h)) (aI ((decide ((y45:Int)=0)),z.2.1,z.a,eO z.b,z.h)))))) λL=>(aJ L.1 (Z (7,L.2.1,L.a,L.f)) (aA (j7 (L.c,(Sx.name L.b))) λy47=>(jY 0 y47 (Z (8,L.2.1,L.a,L.f)) (bU (bh (aj L.c+aj ([(Sx.name L.b)])) 16) (Z (0,L.2.1,L.a,(L.c++([(Sx.name L.b)])),L.h)))))))))) (bm (Sx.op x.1) 13 (jn (α:=U?) (aA (ii (z.c,x.2.1.2.2,(Sx.name z.b),7,7)) λy49=>(aJ y1.1 (aA (dt J) λy50=>(aA (jG (y49,y50)) λy51=>(aI (y51,z.2.1,z.a,z.h)))) (aJ y2.1 (aA (dt J) λy52=>(aA (jG (y49,y52)) λy53=>(aI (y53,z.2.1,z.a,z.h)))) (aA (iU (z.c.2,(Sx.name z.b))) λy54=>(aA (dt (decide ((y54:Int)=x.2.1.2.2))) λy55=>(aA (jG (y49,y55)) λy56=>(aI (y56,z.2.1,z.a,z.h)))))))) λx48=>(Z x48)) (bm (Sx.op x.1) 14 (jn (α:=F!) (aA (ii (z.c,x.2.1.2.2,(Sx.name z.b),6,6)) λy58=>(aJ y1.1 (aA (dt J) λy59=>(aA (jG (y58,y59)) λy60=>(aI (y60,z.2.1,z.a,eO z.b,z.f)))) (aA (dt y3.1) λy61=>(aA (jG (y58,y61)) λy62=>(aI (y62,z.2.1,z.a,eO z.b,z.f)))))) λx57=>(jn (α:=F!) (jn (bm x57.1 0 (aA (j7 (x57.k,(Sx.name x57.b))) λy65=>(aI ((dy 0 y65),x57.2.1,x57.a,eO x57.b,x57.f))) (aI (af,x57.2.1,x57.a,eO x57.b,x57.f))) λx64=>(aJ x64.1 (aI (8,x64.2.1,x64.a,eO x64.b,x64.f)) (aI (x57.1,x64.2.1,x64.a,eO x64.b,x64.f)))) λN=>(bU (bh (aj N.k+aj ([(Sx.name N.b)])) 16) (aA (oR (N.c,x.2.1.2.2,eL ((Xp.op (Sx.expr N.b)),(Xp.n (Sx.expr N.b)),(Xp.name (Sx.expr N.b)),(Xp.l (Sx.expr N.b))))) λy66=>(aA (jG (N.1,y66)) λy67=>(Z (y67,N.2.1,N.a,N.e,(N.k++([(Sx.name N.b)]))))))))) (aA (ii (z.c,x.2.1.2.2,(Sx.name z.b),8,8)) λy68=>(aA (ii (z.c,x.2.1.2.2,(Sx.arg z.b),6,6)) λy69=>(aA (dt y1.1) λy70=>(aA (jG (y69,y70)) λy71=>(aA (jG (y68,y71)) λy72=>(Z (y72,z.2.1,z.a,z.h))))))))))))))))))))))))))
abbrev O!:=(Y Sx)×e?
def nE (rr04_walk_all:O!->M apa) (x:O!):M apa:=
 (iter (σ:=U?) (λL=>(bS L.1 (be x.1) (bX (.sm) x.1 L.1 λz2=>(aA (nz (eO z2,L.2)) λN=>(bU (aB (aj L.f) (aj L.f)&&(aB (aj L.b) (aj L.b)&&(((L.a.1==N.a.1)&&J)&&aB (aj L.a.2) (aj N.a.2)&&J))) (jn (α:=Int×zK×Sx×(Bool×Y Sx)×dA×Y ζ) (bS 6 (bn .i64 ((be N.a.2)+1)) (aI (2,N.2.1,eO z2,N.2.2)) (aI (N.1,N.2.1,eO z2,N.2.2))) λz=>(jK z.1 0 (aI ((z.1,(Sx.line z.a)),z.2.1,z.d)) (bU (bh (aj z.b.2+aj ([oV (0,0,[],[],([]:Y Xp),eL (0,0,[],([]:Y Xp)),([]:Y Sx),([]:Y Sx))])) 176) (ck (dK (be z.b.2) (aj (z.b.2++([oV (0,0,[],[],([]:Y Xp),eL (0,0,[],([]:Y Xp)),([]:Y Sx),([]:Y Sx))])))) (aA (rr04_walk_all ((Sx.body z.a),z.2.1,(z.b.1,(cC (z.b.2++([oV (0,0,[],[],([]:Y Xp),eL (0,0,[],([]:Y Xp)),([]:Y Sx),([]:Y Sx))])) (be z.b.2) (eO z.a))),z.f)) λD=>(bU (aB (aj z.h) (aj z.h)&&(aB (aj z.c) (aj z.c)&&(((z.b.1==z.b.1)&&J)&&aB (aj (cC (z.b.2++([oV (0,0,[],[],([]:Y Xp),eL (0,0,[],([]:Y Xp)),([]:Y Sx),([]:Y Sx))])) (be z.b.2) (eO z.a))) (aj (cC (z.b.2++([oV (0,0,[],[],([]:Y Xp),eL (0,0,[],([]:Y Xp)),([]:Y Sx),([]:Y Sx))])) (be z.b.2) (eO z.a)))&&J))) (jn (bm D.1.1 0 (aA (rr04_walk_all ((Sx.els z.a),D.2)) λy7=>(bU (aB (aj D.f) (aj D.f)&&(aB (aj D.b) (aj D.b)&&(((D.a.1==D.a.1)&&J)&&aB (aj D.a.2) (aj D.a.2)&&J))) (aI y7))) (aI D)) λA=>(bU (dy 0 (bn .i64 ((be A.a.2)-1))&&gE (bn .i64 ((be A.a.2)-1)) (aj A.a.2)) (jK A.1.1 0 (aI (A.1,A.2.1,(af,(dW (aM (bn .i64 ((be A.a.2)-1))) A.a.2)),A.d)) (c7 ((cQ L.1),A.2.1,(af,(dW (aM (bn .i64 ((be A.a.2)-1))) A.a.2)),A.d)))))))))))))) (aI ((0,0),L.2)))) (0,x.2))
def iW:Nat->(O!)->M apa
 |0,_=>U
 |n+1,x=>nE (iW n) x
def Fd (n:Nat) (x:O!):iW (n+1) x=nE (iW n) x:=rfl
def xV (x:O!):M apa:=iW fuel x
def Ax (rr04_Count:(Y Sx)->M (Int)) (x:Y Sx):M (Int):=
 (iter (σ:=ν) (λz=>(bS z.2 (be x) (ky z.2 x (lt (Sx.body (geti (.sm) x z.2)) λD=>(aA (rr04_Count D) λN=>(ky z.2 x (lt (Sx.els (geti (.sm) x z.2)) λA=>(aA (rr04_Count A) λL=>(c7 ((bn .i64 ((bn .i64 (z.1+N))+L)),(cQ z.2))))))))) (aI z.1))) ((be x),0))
def oC:Nat->(Y Sx)->M (Int)
 |0,_=>U
 |n+1,x=>Ax (oC n) x
def KM (n:Nat) (x:Y Sx):oC (n+1) x=Ax (oC n) x:=rfl
def E5 (x:Y Sx):M (Int):=oC fuel x
abbrev t?:=Int×Int×i?
def s7 (x:Y ats):M ν:=
 (iter (σ:=υ) (λz=>(bS z.f (be x) (jn (α:=t?) (bX Kn x z.f λA=>(bU (dy 0 z.f&&dy z.f (aj x)) (aA (i_ ((dW (aM z.f) x),A.a)) λy4=>(jY 0 y4 (c7 (bZ (4,A.2.1))) (bS 4 A.b (c7 (bZ (2,A.2.1))) (jn (jn (bm A.1 1 (aI ((decide ((A.1:Int)=1)),A)) (aI ((decide ((A.1:Int)=2)),A))) λN=>(aJ N.1 (aI (((bn .i64 (z.1+(lX N.c 1))),z.2.1,z.a,z.b),N.2)) (jn (bm A.1 3 (aI ((decide ((A.1:Int)=3)),N.2)) (aI ((decide ((A.1:Int)=4)),N.2))) λx7=>(aJ x7.1 (aI ((z.1,(cQ z.2.1),z.a,z.b),x7.2)) (bm A.1 5 (aI ((z.1,z.2.1,(cQ z.a),z.b),x7.2)) (aI ((z.1,z.2.1,z.a,(cQ z.b)),x7.2))))))) λD=>(jn (bS 12 D.1.1 (aI (J,D.2)) (bS 4 D.1.2.1 (aI (J,D.2)) (bS 2 D.1.a (aI (J,D.2)) (aI ((gE 2 D.1.d),D.2))))) λL=>(aJ L.1 (c7 (bZ (2,L.a))) (bm L.2.1 5 (bU (dy 0 z.f&&dy z.f (aj x)) (aA (i_ ((dW (aM z.f) x),L.k)) λy9=>(bS y9 0 (c7 (bZ (5,L.a))) (bX Kn x y9 λz10=>(jK z10.1 3 (c7 (bZ (6,L.a))) (aI D.1)))))) (aI D.1)))))))))) λx2=>(c7 (x2.1,x2.2.1,x2.a,x2.d,(cQ z.f)))) (aI (0,0)))) (0,0,0,0,0))
def oP (x:A!):M ν:=
 (iter (σ:=Int×A!) (λA=>(bS A.1 (be A.2.2) (bX uX A.2.2 A.1 λN=>(jn (aA (i_ (A.2.1,N.1)) λy4=>(jY 0 y4 (aI (J,A.2,N)) (bU (dy 0 A.1&&dy A.1 (aj A.2.2)) (aA (iU ((dW (aM A.1) A.2.2),N.1)) λy5=>(aI ((dy 0 y5),A.2,N)))))) λx3=>(aJ x3.1 (aI (4,x3.b)) (c7 ((cQ A.1),x3.2.1))))) (aA (iter (σ:=Int×A!) (λL=>(bS L.1 (be L.2.2) (bX uX L.2.2 L.1 λz7=>(bS 4 (be z7.a) (aI (2,z7.2.1)) (iter (σ:=M?) (λz=>(bS z.1 (be z.c) (bX (.str) z.c z.1 λz9=>(jn (aA (i_ (z.2.1.1,z9)) λy11=>(jY 0 y11 (aI (J,z.2)) (aA (iU (z.2.1.2,z9)) λy12=>(jY 0 y12 (aI (J,z.2)) (bU (dy 0 z.1&&dy z.1 (aj z.c)) (aA (j7 ((dW (aM z.1) z.c),z9)) λy13=>(aI ((dy 0 y13),z.2)))))))) λD=>(aJ D.1 (aI (bZ (4,D.b))) (c7 ((cQ z.1),D.2))))) (aI (lJ ((cQ L.1),z.2.1))))) (0,L.2,z7)))) (aI (0,0)))) (0,A.2)) λr=>Z (bZ r)))) (0,x))
def f_ (x:A!):M ν:=
 (aA (qX x) λy1=>(aJ (!y1) (Z (3,0)) (aA (s7 x.1) λN=>(jK N.1 0 (Z N) (bS 4 (be x.2) (Z (2,0)) (aA (oP x) λL=>(jK L.1 0 (Z L) (iter (σ:=(ν)×A!) (λA=>(bS A.1.2 (be A.2.2) (bX uX A.2.2 A.1.2 λz5=>(aA (E5 z5.2.2.2) λy6=>(c7 (((bn .i64 (A.1.1+y6)),(cQ A.1.2)),A.2)))) (aA (bS 60 A.1.1 (Z (2,0)) (iter (σ:=Int×(zJ×Y zI)×e?) (λz=>(bS z.1 (be z.2.1.2) (bX uX z.2.1.2 z.1 λz8=>(aA (xV (z8.2.2.2,(z.a.1,z.a.2.1,z.1),z.d)) λD=>(bU (aB (aj z.h) (aj z.h)&&(aB (aj z.c) (aj z.c)&&(((z.b.1==z.b.1)&&J)&&aB (aj z.b.2) (aj z.b.2)&&J))) (jK D.1.1 0 (aI D.1) (c7 ((cQ z.1),z.2.1,D.2)))))) (aI (0,0)))) (0,A.2,(A.2.1,A.2.2,0),(J,([]:Y Sx)),([]:Y ζ),([]:Y ζ)))) λr=>Z (bZ r)))) ((0,0),x)))))))))
abbrev y!:=(Int×Int×Y Sx)×Y π
abbrev Z?:=Int×Y π
def Av (rr06_sites:y!->M Z?) (x:y!):M Z?:=
 (iter (σ:=(ν)×Y π) (λz=>(bS z.1.2 (be x.1.2.2) (ky z.1.2 x.1.2.2 (lt (Sx.line (geti (.sm) x.1.2.2 z.1.2)) λA=>(bU (bh (aj z.2+aj ([(x.1.1,z.1.1,A)])) 24) (ky z.1.2 x.1.2.2 (lt (Sx.body (geti (.sm) x.1.2.2 z.1.2)) λz3=>(aA (rr06_sites ((x.1.1,(cQ z.1.1),z3),(z.2++([(x.1.1,z.1.1,A)])))) λD=>(bU (aB (aj (z.2++([(x.1.1,z.1.1,A)]))) (aj (z.2++([(x.1.1,z.1.1,A)])))&&J) (ky z.1.2 x.1.2.2 (lt (Sx.els (geti (.sm) x.1.2.2 z.1.2)) λN=>(aA (rr06_sites ((x.1.1,D.1,N),D.2)) λL=>(bU (aB (aj D.2) (aj D.2)&&J) (c7 ((L.1,(cQ z.1.2)),L.2))))))))))))) (aI (z.1.1,z.2)))) ((x.1.2.1,0),x.2))
def qL:Nat->(y!)->M Z?
 |0,_=>U
 |n+1,x=>Av (qL n) x
def KK (n:Nat) (x:y!):qL (n+1) x=Av (qL n) x:=rfl
def Mr (x:y!):M Z?:=qL fuel x
def mq (x:nJ×ζ):M (Int):=
 (iter (σ:=Int) (λz=>(bS z (be x.1) (bX tC x.1 z λA=>(aJ (decide ((A.1:ζ)=x.2)) (aI z) (c7 (cQ z)))) (aI (-1)))) 0)
abbrev F?:=Int×c!
def ov (x:eC×ζ):M (Int):=
 (iter (σ:=F?) (λz=>(bS z.1 (be z.2.1) (bX lF z.2.1 z.1 λA=>(aJ (decide ((A.1:ζ)=x.2)) (aI z.1) (c7 ((cQ z.1),z.2)))) (aI (-1)))) (0,x.1))
abbrev K?:=oF×nJ×(Y ku)×Y ζ
def wd (x:A!):M eC:=
 (aA (f_ x) λy1=>(jK y1.1 0 (Z (([]:Y X6),([]:Y H?),([]:Y ku),([]:Y ζ),([]:Y ζ),([]:Y π))) (iter (σ:=Int×(zJ×Y zI)×K?) (λL=>(bS L.1 (be L.2.1.1) (bX Kn L.2.1.1 L.1 λN=>(jn (α:=(zJ×Y zI)×K?) (jn (bm N.1 1 (aI ((decide ((N.1:Int)=1)),L.2.1,N,L.2.2)) (aI ((decide ((N.1:Int)=2)),L.2.1,N,L.2.2))) λx5=>(aJ x5.1 (iter (σ:=Int×(zJ×Y zI)×ats×K?) (λA=>(bS A.1 (lX A.a.b 1) (bU (bh (aj A.b+aj ([(A.a.a,A.1,A.a.b,(decide ((A.a.1:Int)=2)),A.a.c)])) 48) (c7 ((cQ A.1),A.2.1,A.a,(A.b++([(A.a.a,A.1,A.a.b,(decide ((A.a.1:Int)=2)),A.a.c)])),A.f))) (aI (bZ (A.2.1,A.d))))) (0,x5.2)) (jn (bm N.1 3 (aI ((decide ((N.1:Int)=3)),x5.2)) (aI ((decide ((N.1:Int)=4)),x5.2))) λz=>(aJ z.1 (bU (bh (aj z.c+aj ([(z.a.a,(decide ((z.a.1:Int)=4)))])) 24) (aI (z.2.1,z.b,(z.c++([(z.a.a,(decide ((z.a.1:Int)=4)))])),z.h))) (bm N.1 5 (aA (mq (z.c,z.a.h)) λy8=>(bU (bh (aj z.e+aj ([(z.a.a,y8)])) 24) (aI (z.2.1,z.b,z.c,(z.e++([(z.a.a,y8)])),z.k)))) (bU (bh (aj z.k+aj ([z.a.a])) 16) (aI (z.2.1,z.b,z.c,z.e,(z.k++([z.a.a])))))))))) λx4=>(c7 ((cQ L.1),x4)))) (aA (iter (σ:=Int×(zJ×Y zI)×c!) (λD=>(bS D.1 (be D.2.1.2) (bX uX D.2.1.2 D.1 λz10=>(bU (bh (aj D.g+aj ([z10.1])) 16) (bX uX D.2.1.2 D.1 λz11=>(aA (Mr ((D.1,0,z11.2.2.2),D.p)) λy12=>(bU (aB (aj D.p) (aj D.p)&&J) (c7 ((cQ D.1),D.2.1,D.a,D.b,D.c,D.e,(D.g++([z10.1])),y12.2))))))) (aI D.2.2))) (0,L.2.1,L.a,L.b,L.c,L.h,([]:Y ζ),([]:Y π))) λr=>Z (bZ r)))) (0,x,([]:Y X6),([]:Y H?),([]:Y ku),([]:Y ζ)))))
abbrev B!:=Int×eC×Y ζ
abbrev P?:=dA×(ζ)×s?
def qE (x:c!):M (dA×Bool):=
 (iter (σ:=B!) (λA=>(bS A.1 (be A.2.1.1) (jn (α:=B!) (bX lF A.2.1.1 A.1 λL=>(bU (bh (aj A.2.2+aj ([L.1])) 16) (bm L.a 0 (jK L.2.1 0 (c7 (bZ (([]:Y ζ),af))) (aI ((cQ A.1),A.2.1,(A.2.2++([L.1]))))) (jn (α:=Bool×eC×P?) (bS L.a 1 (aI (J,A.2.1,(A.2.2++([L.1])),L)) (bS 4 L.a (aI (J,A.2.1,(A.2.2++([L.1])),L)) (aI ((gE (bn .i64 ((be A.2.1.1)-A.1)) L.a),A.2.1,(A.2.2++([L.1])),L)))) λx4=>(aJ x4.1 (c7 (bZ (([]:Y ζ),af))) (iter (σ:=Int×eC×P?) (λD=>(bS D.1 D.e (bX lF D.2.1.1 (bn .i64 (A.1+D.1)) λz6=>(jn (jK z6.2.1 D.1 (aI (J,D.2)) (aJ (!decide ((z6.1:ζ)=D.b)) (aI (J,D.2)) (jK z6.a D.e (aI (J,D.2)) (jK z6.f D.p (aI (J,D.2)) (aI (z6.b,D.2)))))) λx7=>(aJ x7.1 (aI (lJ (bZ (([]:Y ζ),af)))) (c7 ((cQ D.1),x7.2))))) (aI (bZ ((bn .i64 (A.1+D.e)),D.2.1,D.a))))) (0,x4.2))))))) λx2=>(c7 x2)) (aA (iter (σ:=B!) (λN=>(bS N.1 (be N.2.1.2.1) (bX tC N.2.1.2.1 N.1 λz9=>(bU (bh (aj N.2.2+aj ([z9.1])) 16) (c7 ((cQ N.1),N.2.1,(N.2.2++([z9.1])))))) (aA (iter (σ:=B!) (λz=>(bS z.1 (be z.2.1.a) (bX itK z.2.1.a z.1 λz11=>(bU (bh (aj z.2.2+aj ([z11.1])) 16) (c7 ((cQ z.1),z.2.1,(z.2.2++([z11.1])))))) (aA (bU (bh (aj z.2.2+aj z.2.1.b) 16) (bU (bh (aj (z.2.2++z.2.1.b)+aj z.2.1.c) 16) (Z (((z.2.2++z.2.1.b)++z.2.1.c),J)))) λr=>Z (bZ r)))) (0,N.2)) λr=>Z (bZ r)))) (0,A.2)) λr=>Z (bZ r)))) (0,x,([]:Y ζ)))
def iy (x:c!):M (Bool):=
 (jn (bS 12 (be x.1) (aI (J,x)) (bS 4 (be x.2.1) (aI (J,x)) (bS 2 (be x.a) (aI (J,x)) (bS 2 (be x.b) (aI (J,x)) (bS (be x.c) 1 (aI (J,x)) (bS 4 (be x.c) (aI (J,x)) (aI ((gE 60 (be x.h)),x)))))))) λx1=>(aJ x1.1 (Z af) (aA (qE x1.2) λy2=>(aJ (!y2.2) (Z af) (iter (σ:=F?) (λN=>(bS N.1 (be y2.1) (jn (bX (.str) y2.1 N.1 λz5=>(aA (fR z5) λy6=>(aJ (!y6) (aI (J,N.2)) (bU (dy 0 N.1&&dy N.1 (aj y2.1)) (bX (.str) y2.1 N.1 λz7=>(aA (j7 ((dW (aM N.1) y2.1),z7)) λy8=>(aI ((dy 0 y8),N.2)))))))) λx4=>(aJ x4.1 (aI af) (c7 ((cQ N.1),x4.2)))) (aA (iter (σ:=F?) (λD=>(bS D.1 (be D.b) (bX itK D.b D.1 λz10=>(jn (bS z10.2 0 (aI (J,D.2)) (jY (be D.a) z10.2 (aI (J,D.2)) (bX tC D.a z10.2 λz12=>(aI (z12.2,D.2))))) λx11=>(aJ x11.1 (aI af) (c7 ((cQ D.1),x11.2))))) (aA (iter (σ:=F?) (λz=>(bS z.1 (be z.k) (jn (bX pR z.k z.1 λz15=>(jn (bS z15.1 0 (aI (J,z.2,z15)) (aI ((dy (be z.e) z15.1),z.2,z15))) λL=>(aJ L.1 (c7 (bZ af)) (jn (bm z.1 0 (aI (J,L.2)) (bX pR L.2.1.h (bn .i64 (z.1-1)) λz18=>(aI ((!decide ((z18.1:Int)=L.a)),L.2)))) λA=>(aJ A.1 (jn (jK A.b 0 (aI (J,A.2.1)) (bS 0 z.1 (bX pR A.2.1.h (bn .i64 (z.1-1)) λz20=>(aI ((gE A.a z20.1),A.2.1))) (aI (af,A.2.1)))) λx19=>(aJ x19.1 (c7 (bZ af)) (aI x19.2))) (bX pR A.2.1.h (bn .i64 (z.1-1)) λz21=>(jK A.b (cQ z21.2.1) (c7 (bZ af)) (aI A.2.1)))))))) λx14=>(c7 ((cQ z.1),x14))) (aI J))) (0,D.2)) λr=>Z (bZ r)))) (0,N.2)) λr=>Z (bZ r)))) (0,x1.2))))))
def kC (x:ω):M η:=
 (jn (bm x.1 1 (aI ((decide ((x.1:Int)=1)),x)) (bm x.1 6 (aI ((decide ((x.1:Int)=6)),x)) (bm x.1 10 (aI ((decide ((x.1:Int)=10)),x)) (aI ((decide ((x.1:Int)=27)),x))))) λD=>(aJ D.1 (Z ([D.a])) (jn (bm x.1 2 (aI ((decide ((x.1:Int)=2)),D.2)) (aI ((decide ((x.1:Int)=3)),D.2))) λz=>(aJ z.1 (Z ([z.a,z.b])) (bm x.1 4 (Z ([z.a,z.b,z.c])) (bm x.1 7 (Z ([z.a,z.c])) (jn (bm x.1 8 (aI ((decide ((x.1:Int)=8)),z.2)) (aI ((decide ((x.1:Int)=26)),z.2))) λA=>(aJ A.1 (Z ([A.b])) (bm x.1 9 (Z ([A.b,A.c])) (Z ([]:η)))))))))))
def qW (x:Int):M (Bool):=
 (jn (jY 1 x (aI (dy x 5)) (aI af)) λz=>(Z z))
def qF (x:(Y mc)×Int):M (Bool):=
 (iter (σ:=ν) (λz=>(jY z.2 (be x.1) (jn (jn (bS z.1 0 (aI J) (aI (dy (be x.1) z.1))) λx3=>(aJ x3 (c7 (bZ af)) (bX sF x.1 z.1 λL=>(aA (qW L.1) λN=>(aJ (!N) (c7 (bZ J)) (bX sF x.1 z.1 λD=>(bm D.1 5 (bX sF x.1 z.1 λA=>(aI A.2.1)) (aI (cQ z.1))))))))) λx2=>(c7 (x2,(cQ z.2)))) (aI af))) (x.2,0))
def j6 (x:ν):M (Bool):=
 (jn (jY 0 x.1 (aI (gE x.1 x.2)) (aI af)) λz=>(Z z))
def qG (x:eC×i?):M (Bool):=
 (jn (aA (j6 (x.2.1,(be x.1.1))) λL=>(aJ L (bX lF x.1.1 x.2.1 λD=>(bm D.2.1 0 (bX lF x.1.1 x.2.1 λA=>(jK A.2.2.1 0 (bX lF x.1.1 x.2.1 λz=>(aI (decide ((z.2.2.1:Int)=x.2.2)))) (aI af))) (aI af))) (aI af))) λN=>(Z N))
def mF (x:eC×Int×Int×t?):M (Bool):=
 (bm x.2.1 6 (jn (aA (j6 (x.b,(be x.1.1))) λy2=>(aJ y2 (bX lF x.1.1 x.b λz3=>(aI (decide ((z3.2.2.1:Int)=0)))) (aI af))) λx1=>(Z x1)) (bm x.2.1 8 (jn (aA (j6 (x.a,(be x.1.1))) λy5=>(aJ y5 (bX lF x.1.1 x.a λz6=>(aI (decide ((z6.2.2.1:Int)=0)))) (aI af))) λx4=>(Z x4)) (bm x.2.1 7 (aA (qG (x.1,x.b,x.e)) λy7=>(Z y7)) (bm x.2.1 9 (aA (qG (x.1,x.a,x.e)) λy8=>(Z y8)) (jn (bm x.2.1 11 (aI ((decide ((x.2.1:Int)=11)),x)) (aI ((decide ((x.2.1:Int)=12)),x))) λL=>(aJ L.1 (jn (aA (j6 (L.b,(be L.2.1.2.1))) λy11=>(aJ y11 (bX tC L.2.1.2.1 L.b λz12=>(aI (!z12.2))) (aI af))) λx10=>(Z x10)) (jn (bm x.2.1 13 (aI ((decide ((x.2.1:Int)=13)),L.2)) (bm x.2.1 14 (aI ((decide ((x.2.1:Int)=14)),L.2)) (bm x.2.1 15 (aI ((decide ((x.2.1:Int)=15)),L.2)) (aI ((decide ((x.2.1:Int)=16)),L.2))))) λA=>(aJ A.1 (jn (aA (j6 (A.b,(be A.2.1.2.1))) λy15=>(aJ y15 (bX tC A.2.1.2.1 A.b λN=>(aI N.2)) (aI af))) λx14=>(Z x14)) (jn (bm x.2.1 21 (aI ((decide ((x.2.1:Int)=21)),A.2)) (bm x.2.1 22 (aI ((decide ((x.2.1:Int)=22)),A.2)) (aI ((decide ((x.2.1:Int)=23)),A.2)))) λD=>(aJ D.1 (aA (j6 (D.b,(be D.2.1.a))) λy18=>(Z y18)) (jn (bm x.2.1 24 (aI ((decide ((x.2.1:Int)=24)),D.2)) (aI ((decide ((x.2.1:Int)=25)),D.2))) λz=>(aJ z.1 (aA (j6 (z.b,(be z.2.1.c))) λy20=>(Z y20)) (bm x.2.1 26 (aA (j6 (z.b,(be z.2.1.b))) λy21=>(Z y21)) (bm x.2.1 27 (aA (j6 (z.c,(be z.2.1.b))) λy22=>(Z y22)) (bm x.2.1 3 (jn (bm z.g 4 (aI J) (aI (decide ((z.g:Int)=5)))) λx23=>(Z x23)) (bm x.2.1 4 (jn (jY 6 z.g (aI (dy z.g 18)) (aI af)) λx24=>(Z x24)) (Z J)))))))))))))))))
abbrev R?:=Int×Y mc
def iM (x:eC×Int×R?):M (Bool):=
 (jn (bS x.a 0 (aI (J,x.1,x.2.2)) (bS 32 x.a (aI (J,x.1,x.2.2)) (aI ((decide (((be x.d):Int)=0)),x.1,x.2.2)))) λx1=>(aJ x1.1 (Z af) (iter (σ:=Int×eC×R?) (λA=>(bS A.1 (be x.d) (bX sF A.d A.1 λN=>(jn (bS N.1 1 (aI (J,A.2.1,A.2.2,N)) (bS 28 N.1 (aI (J,A.2.1,A.2.2,N)) (aJ (((decide ((N.1:Int)=28))==(decide ((A.1:Int)=(bn .i64 ((be x.d)-1))))) !=J) (aI (J,A.2.1,A.2.2,N)) (aA (mF (A.2.1,N)) λy5=>(aJ (!y5) (aI (J,A.2.1,A.2.2,N)) (aA (qF (A.d,A.1)) λy6=>(aI ((!y6),A.2.1,A.2.2,N)))))))) λz=>(aJ z.1 (aI af) (jn (α:=Bool×eC×(Int×Y mc)×Int×Int×t?) (bm z.b 28 (jK z.s (-1) (aI (J,z.2)) (jK z.b 28 (aA (j6 (z.s,(be z.2.1.h))) λy8=>(aJ (!y8) (aI (J,z.2)) (bX pR z.2.1.h z.s λz9=>(aI ((!decide ((z9.1:Int)=x.2.1)),z.2))))) (aI (af,z.2)))) (jK z.b 28 (aA (j6 (z.s,(be z.2.1.h))) λy10=>(aJ (!y10) (aI (J,z.2)) (bX pR z.2.1.h z.s λz11=>(aI ((!decide ((z11.1:Int)=x.2.1)),z.2))))) (aI (af,z.2)))) λL=>(aJ L.1 (aI af) (jn (bm L.b 5 (aA (j6 (L.c,(be x.d))) λy13=>(aJ (!y13) (aI (J,L.2)) (bm L.b 10 (aA (j6 (L.e,(be x.d))) λy14=>(aI ((!y14),L.2))) (aI (af,L.2))))) (bm L.b 10 (aA (j6 (L.e,(be x.d))) λy15=>(aI ((!y15),L.2))) (aI (af,L.2)))) λx12=>(aJ x12.1 (aI af) (aA (kC x12.d) λy16=>(iter (σ:=Int×eC×R?) (λD=>(bS D.1 (be y16) (bX aP y16 D.1 λz18=>(aA (j6 (z18,D.a)) λy19=>(aJ (!y19) (aI (bZ af)) (c7 ((cQ D.1),D.2))))) (aI (lJ ((cQ A.1),D.2))))) (0,x12.2.1,x12.a)))))))))) (aI J))) (0,x1.2))))
def kB (x:z?):M (Bool):=
 (jn (aA (iy x.1) λN=>(aJ (!N) (aI (J,x)) (aI ((!decide (((be x.2):Int)=(be x.1.c))),x)))) λA=>(aJ A.1 (Z af) (iter (σ:=Int×z?) (λz=>(bS z.1 (be z.2.2) (bX zP z.2.2 z.1 λD=>(aA (iM (z.2.1,z.1,D)) λL=>(aJ (!L) (aI af) (c7 ((cQ z.1),z.2))))) (aI J))) (0,A.2))))
def cO (x:mc×g!):M g!:=
 (bU (bh (aj x.2.2+aj ([(x.1.1,x.1.2.1,x.1.a,x.1.b,x.1.c,x.2.1.j)])) 48) (Z (x.2.1,(x.2.2++([(x.1.1,x.1.2.1,x.1.a,x.1.b,x.1.c,x.2.1.j)])))))
abbrev H!:=(Xp×Int)×g!
def sd (rr06_gen_value:H!->M g!) (x:H!):M g!:=
 (jn (α:=g!) (bm (Xp.op x.1.1) 1 (aA (cO ((1,x.1.2,0,0,(Xp.n x.1.1),0),x.2)) λy2=>(bU (aB (aj x.2.2) (aj x.2.2)&&J) (aI y2))) (bm (Xp.op x.1.1) 2 (aA (j7 (x.2.1.g,(Xp.name x.1.1))) λy3=>(jY 0 y3 (aA (cO ((2,x.1.2,y3,0,0,0),x.2)) λy4=>(bU (aB (aj x.2.2) (aj x.2.2)&&J) (aI y4))) (aA (ov ((x.2.1.1,x.2.1.2.1,x.2.1.a,x.2.1.b,x.2.1.c,x.2.1.e),(Xp.name x.1.1))) λy5=>(aA (cO ((6,x.1.2,y5,0,0,0),x.2)) λy6=>(bU (aB (aj x.2.2) (aj x.2.2)&&J) (aI y6)))))) (bm (Xp.op x.1.1) 3 (bX (.ex) (Xp.l x.1.1) 0 λz7=>(aA (rr06_gen_value ((z7,x.1.2),x.2)) λz=>(bU (aB (aj x.2.2) (aj x.2.2)&&J) (aA (ov ((z.1.1,z.1.2.1,z.1.a,z.1.b,z.1.c,z.1.e),(Xp.name x.1.1))) λy9=>(bX lF z.1.1 y9 λz10=>(aA (cO ((7,x.1.2,y9,x.1.2,z10.2.2.1,0),z)) λy11=>(bU (aB (aj z.2) (aj z.2)&&J) (aI y11)))))))) (bm (aS (aj (Xp.l x.1.1))) 1 (bX (.ex) (Xp.l x.1.1) 0 λz12=>(aA (rr06_gen_value ((z12,x.1.2),x.2)) λL=>(bU (aB (aj x.2.2) (aj x.2.2)&&J) (aA (cO ((3,x.1.2,x.1.2,0,(Xp.op x.1.1),0),L)) λy14=>(bU (aB (aj L.2) (aj L.2)&&J) (aI y14)))))) (bX (.ex) (Xp.l x.1.1) 0 λz15=>(aA (rr06_gen_value ((z15,x.1.2),x.2)) λD=>(bU (aB (aj x.2.2) (aj x.2.2)&&J) (bX (.ex) (Xp.l x.1.1) 1 λN=>(aA (rr06_gen_value ((N,(cQ x.1.2)),D)) λA=>(bU (aB (aj D.2) (aj D.2)&&J) (aA (cO ((4,x.1.2,x.1.2,(cQ x.1.2),(Xp.op x.1.1),0),A)) λy19=>(bU (aB (aj A.2) (aj A.2)&&J) (aI y19))))))))))))) λx1=>(Z x1))
def je:Nat->(H!)->M g!
 |0,_=>U
 |n+1,x=>sd (je n) x
def DL (n:Nat) (x:H!):je (n+1) x=sd (je n) x:=rfl
def iZ (x:H!):M g!:=je fuel x
def mY (x:Sx×g!):M g!:=
 (bS 0 (aS (aj (Sx.index x.1))) (bX (.ex) (Sx.index x.1) 0 λz1=>(aA (iZ ((z1,(be x.2.1.g)),x.2)) λD=>(bU (aB (aj x.2.2) (aj x.2.2)&&J) (aA (iZ ((eL ((Xp.op (Sx.expr x.1)),(Xp.n (Sx.expr x.1)),(Xp.name (Sx.expr x.1)),(Xp.l (Sx.expr x.1))),(bn .i64 ((be x.2.1.g)+1))),D)) λA=>(bU (aB (aj D.2) (aj D.2)&&J) (aA (ov ((A.1.1,A.1.2.1,A.1.a,A.1.b,A.1.c,A.1.e),(Sx.name x.1))) λy4=>(bX lF A.1.1 y4 λz5=>(aA (cO ((9,y4,(bn .i64 ((be x.2.1.g)+1)),(be x.2.1.g),z5.2.2.1,0),A)) λy6=>(bU (aB (aj A.2) (aj A.2)&&J) (Z y6)))))))))) (aA (iZ ((eL ((Xp.op (Sx.expr x.1)),(Xp.n (Sx.expr x.1)),(Xp.name (Sx.expr x.1)),(Xp.l (Sx.expr x.1))),(be x.2.1.g)),x.2)) λz=>(bU (aB (aj x.2.2) (aj x.2.2)&&J) (aA (j7 (z.1.g,(Sx.name x.1))) λy8=>(jY 0 y8 (aA (cO ((2,y8,(be x.2.1.g),0,0,0),z)) λy9=>(bU (aB (aj z.2) (aj z.2)&&J) (Z y9))) (aA (ov ((z.1.1,z.1.2.1,z.1.a,z.1.b,z.1.c,z.1.e),(Sx.name x.1))) λN=>(aA (cO ((8,N,(be x.2.1.g),0,0,0),z)) λL=>(bU (aB (aj z.2) (aj z.2)&&J) (Z L)))))))))
def kg (x:ζ×g!):M (Int×g!):=
 (iter (σ:=Int×g!) (λz=>(bS z.1 (be z.2.1.a) (bX itK z.2.1.a z.1 λA=>(aJ (decide ((A.1:ζ)=x.1)) (aI z) (c7 ((cQ z.1),z.2)))) (aI ((-1),z.2)))) (0,x.2))
def wy (rr06_gen_stmts:al6->M g!) (rr06_gen_stmt:QR->M g!) (rr06_gen_branches:QR->M g!) (rr06_gen_around:al7->M g!) (x:(Y Sx)×g!):M g!:=
 (iter (σ:=Int×g!) (λz=>(bS z.1 (be x.1) (bX (.sm) x.1 z.1 λA=>(aA (rr06_gen_stmt (A,z.2)) λD=>(bU (aB (aj z.2.2) (aj z.2.2)&&J) (c7 ((cQ z.1),D))))) (aI z.2))) (0,x.2))
def tP (rr06_gen_stmts:al6->M g!) (rr06_gen_stmt:QR->M g!) (rr06_gen_branches:QR->M g!) (rr06_gen_around:al7->M g!) (x:Sx×g!):M g!:=
 (jn (α:=g!) (bm (Sx.op x.1) 1 (aA (mY (eO x.1,(x.2.1.1,x.2.1.2.1,x.2.1.a,x.2.1.b,x.2.1.c,x.2.1.e,x.2.1.g,x.2.1.s,(cQ x.2.1.s)),x.2.2)) λy2=>(bU (aB (aj x.2.2) (aj x.2.2)&&J) (aI y2))) (jn (bm (Sx.op x.1) 2 (aI ((decide (((Sx.op x.1):Int)=2)),(x.2.1.1,x.2.1.2.1,x.2.1.a,x.2.1.b,x.2.1.c,x.2.1.e,x.2.1.g,x.2.1.s,(cQ x.2.1.s)),eO x.1,x.2.2)) (aI ((decide (((Sx.op x.1):Int)=3)),(x.2.1.1,x.2.1.2.1,x.2.1.a,x.2.1.b,x.2.1.c,x.2.1.e,x.2.1.g,x.2.1.s,(cQ x.2.1.s)),eO x.1,x.2.2))) λz=>(aJ z.1 (aA (rr06_gen_branches (eO z.a,z.2.1,z.d)) λy4=>(bU (aB (aj z.d) (aj z.d)&&J) (aI y4))) (bm (Sx.op x.1) 4 (aA (mq (z.2.1.2.1,(Sx.name z.a))) λy5=>(aA (rr06_gen_around ((eO z.a,11,12,y5),z.2.1,z.d)) λy6=>(bU (aB (aj z.d) (aj z.d)&&J) (aI y6)))) (bm (Sx.op x.1) 5 (aA (mq (z.2.1.2.1,(Sx.name z.a))) λy7=>(aA (rr06_gen_around ((eO z.a,13,14,y7),z.2.1,z.d)) λy8=>(bU (aB (aj z.d) (aj z.d)&&J) (aI y8)))) (bm (Sx.op x.1) 6 (aA (mq (z.2.1.2.1,(Sx.name z.a))) λy9=>(aA (rr06_gen_around ((eO z.a,15,16,y9),z.2.1,z.d)) λy10=>(bU (aB (aj z.d) (aj z.d)&&J) (aI y10)))) (bm (Sx.op x.1) 7 (aA (rr06_gen_around ((eO z.a,17,18,0),z.2.1,z.d)) λy11=>(bU (aB (aj z.d) (aj z.d)&&J) (aI y11))) (bm (Sx.op x.1) 8 (aA (rr06_gen_around ((eO z.a,19,20,0),z.2.1,z.d)) λy12=>(bU (aB (aj z.d) (aj z.d)&&J) (aI y12))) (bm (Sx.op x.1) 9 (aA (kg ((Sx.name z.a),z.2.1,z.d)) λL=>(bU (aB (aj z.d) (aj L.2.2)&&J) (aA (cO ((21,L.1,0,0,0,0),L.2)) λy14=>(bU (aB (aj L.2.2) (aj L.2.2)&&J) (aI y14))))) (bm (Sx.op x.1) 10 (aA (kg ((Sx.name z.a),z.2.1,z.d)) λD=>(bU (aB (aj z.d) (aj D.2.2)&&J) (aA (cO ((22,D.1,0,0,0,0),D.2)) λy16=>(bU (aB (aj D.2.2) (aj D.2.2)&&J) (aI y16))))) (bm (Sx.op x.1) 11 (aA (kg ((Sx.name z.a),z.2.1,z.d)) λA=>(bU (aB (aj z.d) (aj A.2.2)&&J) (aA (cO ((23,A.1,0,0,0,0),A.2)) λy18=>(bU (aB (aj A.2.2) (aj A.2.2)&&J) (aI y18))))) (bm (Sx.op x.1) 12 (aA (j7 (z.2.1.c,(Sx.name z.a))) λy19=>(aA (cO ((24,y19,0,0,0,0),z.2.1,z.d)) λy20=>(bU (aB (aj z.d) (aj z.d)&&J) (aI y20)))) (bm (Sx.op x.1) 13 (aA (j7 (z.2.1.c,(Sx.name z.a))) λy21=>(aA (cO ((25,y21,0,0,0,0),z.2.1,z.d)) λy22=>(bU (aB (aj z.d) (aj z.d)&&J) (aI y22)))) (bm (Sx.op x.1) 14 (aA (iZ ((eL ((Xp.op (Sx.expr z.a)),(Xp.n (Sx.expr z.a)),(Xp.name (Sx.expr z.a)),(Xp.l (Sx.expr z.a))),(be x.2.1.g)),z.2.1,z.d)) λN=>(bU (aB (aj z.d) (aj z.d)&&J) (aA (j7 (N.1.b,(Sx.name z.a))) λy24=>(aA (cO ((26,y24,(be x.2.1.g),0,0,0),N)) λy25=>(bU (aB (aj N.2) (aj N.2)&&J) (aI y25)))))) (bm (Sx.op x.1) 15 (aA (j7 (z.2.1.g,(Sx.name z.a))) λy26=>(aA (j7 (z.2.1.b,(Sx.arg z.a))) λy27=>(aA (cO ((27,y26,y27,0,0,0),z.2.1,z.d)) λy28=>(bU (aB (aj z.d) (aj z.d)&&J) (aI y28))))) (aI (z.2.1,z.d))))))))))))))))) λx1=>(Z x1))
def nR (rr06_gen_stmts:al6->M g!) (rr06_gen_stmt:QR->M g!) (rr06_gen_branches:QR->M g!) (rr06_gen_around:al7->M g!) (x:Sx×g!):M g!:=
 (aA (iZ ((eL ((Xp.op (Sx.expr x.1)),(Xp.n (Sx.expr x.1)),(Xp.name (Sx.expr x.1)),(Xp.l (Sx.expr x.1))),(be x.2.1.g)),x.2)) λA=>(bU (aB (aj x.2.2) (aj x.2.2)&&J) (aA (cO ((10,(be A.1.g),0,0,0,0),A)) λy2=>(bU (aB (aj A.2) (aj A.2)&&J) (aA (rr06_gen_stmts ((Sx.body x.1),y2)) λz=>(bU (aB (aj y2.2) (aj y2.2)&&J) (bm (Sx.op x.1) 3 (aA (cO ((5,(be x.2.2),0,0,0,0),(z.1.1,z.1.2.1,z.1.a,z.1.b,z.1.c,z.1.e,z.1.g,x.2.1.j,z.1.s),z.2)) λL=>(bU (aB (aj z.2) (aj z.2)&&J) (ck (dK (be A.2) (aj L.2)) (Z (L.1,(cC L.2 (be A.2) ((geti sF L.2 (be A.2)).1,((geti sF L.2 (be A.2)).2).1,(be L.2),(((geti sF L.2 (be A.2)).2).2).2))))))) (bm (aS (aj (Sx.els x.1))) 0 (ck (dK (be A.2) (aj z.2)) (Z ((z.1.1,z.1.2.1,z.1.a,z.1.b,z.1.c,z.1.e,z.1.g,x.2.1.j,z.1.s),(cC z.2 (be A.2) ((geti sF z.2 (be A.2)).1,((geti sF z.2 (be A.2)).2).1,(be z.2),(((geti sF z.2 (be A.2)).2).2).2))))) (aA (cO ((5,0,0,0,0,0),(z.1.1,z.1.2.1,z.1.a,z.1.b,z.1.c,z.1.e,z.1.g,x.2.1.j,z.1.s),z.2)) λD=>(bU (aB (aj z.2) (aj z.2)&&J) (ck (dK (be A.2) (aj D.2)) (aA (rr06_gen_stmts ((Sx.els x.1),D.1,(cC D.2 (be A.2) ((geti sF D.2 (be A.2)).1,((geti sF D.2 (be A.2)).2).1,(be D.2),(((geti sF D.2 (be A.2)).2).2).2)))) λN=>(bU (aB (aj (cC D.2 (be A.2) ((geti sF D.2 (be A.2)).1,((geti sF D.2 (be A.2)).2).1,(be D.2),(((geti sF D.2 (be A.2)).2).2).2))) (aj (cC D.2 (be A.2) ((geti sF D.2 (be A.2)).1,((geti sF D.2 (be A.2)).2).1,(be D.2),(((geti sF D.2 (be A.2)).2).2).2)))&&J) (ck (dK (be z.2) (aj N.2)) (Z (N.1,(cC N.2 (be z.2) ((geti sF N.2 (be z.2)).1,(be N.2),((geti sF N.2 (be z.2)).2).2))))))))))))))))))
def uS (rr06_gen_stmts:al6->M g!) (rr06_gen_stmt:QR->M g!) (rr06_gen_branches:QR->M g!) (rr06_gen_around:al7->M g!) (x:Z!):M g!:=
 (aA (cO ((x.1.2.1,x.1.d,0,0,0,0),x.2)) λA=>(bU (aB (aj x.2.2) (aj x.2.2)&&J) (aA (rr06_gen_stmts ((Sx.body x.1.1),A)) λz=>(bU (aB (aj A.2) (aj A.2)&&J) (aA (cO ((x.1.a,x.1.d,0,0,0,0),(z.1.1,z.1.2.1,z.1.a,z.1.b,z.1.c,z.1.e,z.1.g,x.2.1.j,z.1.s),z.2)) λD=>(bU (aB (aj z.2) (aj z.2)&&J) (Z D)))))))
mutual
def dY:Nat->al6->M g!
 |0,_=>U
 |n+1,x=>wy (dY n) (fm n) (dw n) (dT n) x
def fm:Nat->QR->M g!
 |0,_=>U
 |n+1,x=>tP (dY n) (fm n) (dw n) (dT n) x
def dw:Nat->QR->M g!
 |0,_=>U
 |n+1,x=>nR (dY n) (fm n) (dw n) (dT n) x
def dT:Nat->al7->M g!
 |0,_=>U
 |n+1,x=>uS (dY n) (fm n) (dw n) (dT n) x
end
def wc (x:(Y Sx)×g!):M g!:=dY fuel x
abbrev D?:=Int×(zJ×Y zI)×eC×tX×Int×(Y (Int×Y mc))×Y mc
def rU (x:A!):M (Fn×i?):=
 (aA (f_ x) λy1=>(jK y1.1 0 (Z (((([]:Y X6),([]:Y H?),([]:Y ku),([]:Y ζ),([]:Y ζ),([]:Y π)),([]:Y R?)),y1)) (aA (wd x) λy2=>(iter (σ:=(ν)×(zJ×Y zI)×z?) (λA=>(bS A.1.2 (be A.2.1.2) (bX uX A.2.1.2 A.1.2 λz4=>(bX uX A.2.1.2 A.1.2 λz5=>(aA (wc (z5.2.2.2,(A.a.1,A.a.2.1,A.a.a,A.a.b,A.a.c,A.a.h,z4.2.2.1,0,A.1.1),([]:Y mc))) λL=>(bU (aB (aj ([]:Y mc)) (aj ([]:Y mc))&&J) (aA (cO ((28,0,0,0,0,0),(L.1.1,L.1.2.1,L.1.a,L.1.b,L.1.c,L.1.e,L.1.g,(-1),L.1.s),L.2)) λy7=>(bU (aB (aj L.2) (aj L.2)&&J) (iter (σ:=D?) (λD=>(bS D.1 (be D.k) (kq sF D.k D.1 λz9=>(aA (kC z9) λN=>(iter (σ:=D?) (λz=>(bS z.1 (be N) (bX aP N z.1 λz12=>(c7 ((cQ z.1),z.2.1,z.a,z.b,(lX z.c (cQ z12)),z.h))) (aI (lJ ((cQ D.1),z.2))))) (0,D.2)))) (aA (bU (bh (aj D.e+aj ([(D.c,D.k)])) 32) (c7 ((L.1.s,(cQ A.1.2)),D.2.1,D.a,(D.e++([(D.c,D.k)]))))) λr=>Z (bZ r)))) (0,A.2.1,A.a,y7.1,(be y7.1.g),A.d,y7.2)))))))) (aI (A.2.2,0,0)))) ((0,0),x,y2,([]:Y R?))))))
def uo (x:n?):M (Bool):=
 (iter (σ:=Int) (λz=>(bS z (be x.1) (bX aP x.1 z λA=>(bm A x.2 (aI J) (c7 (cQ z)))) (aI af))) 0)
def yK (x:n?):M η:=
 (iter (σ:=Int) (λz=>(jn (bS z (be x.1) (bX aP x.1 z λD=>(aI (gE D x.2))) (aI af)) λN=>(aJ N (c7 (cQ z)) (aA (jn (bS z (be x.1) (bX aP x.1 z λA=>(aI (decide ((A:Int)=x.2)))) (aI af)) λL=>(aJ L (Z x.1) (bU (dy 0 z&&dy z (aj x.1)) (bU (bh (aj ([]:η)+aj (dW (aM z) x.1)) 8) (bU (bh (aj (([]:η)++(dW (aM z) x.1))+aj ([x.2])) 8) (bU (dy 0 z&&dy z (aj x.1)) (bU (bh (aj ((([]:η)++(dW (aM z) x.1))++([x.2]))+aj (List.drop (aM z) x.1)) 8) (Z (((([]:η)++(dW (aM z) x.1))++([x.2]))++(List.drop (aM z) x.1)))))))))) λr=>Z (bZ r))))) 0)
abbrev u!:=(η)×Int
abbrev I?:=η×η
def v_ (x:I?):M η:=
 (iter (σ:=u!) (λA=>(bS A.2 (be x.1) (bX aP x.1 A.2 λL=>(aA (yK (A.1,L)) λy3=>(c7 (y3,(cQ A.2))))) (aA (iter (σ:=u!) (λz=>(bS z.2 (be x.2) (bX aP x.2 z.2 λD=>(aA (yK (z.1,D)) λN=>(c7 (N,(cQ z.2))))) (aI z.1))) (A.1,0)) λr=>Z (bZ r)))) (([]:η),0))
def ny (x:Int):M (Int):=
 (jn (bS x 1 (aI J) (aI (gE 100 x))) λz=>(aJ z (Z 0) (Z x)))
abbrev k!:=(η)×Y η
def cE (x:k?):M (ν×k!):=
 (bU (bh (aj ([]:η)+aj x.2.1) 8) (iter (σ:=Int×yd×(ν)×(ν)×k!) (λz=>(bS z.1 (be z.2.1.a) (bX (.sl aP) z.2.1.a z.1 λA=>(bU (bh (aj ([]:η)+aj A) 8) (bU (bh (aj z.h+aj ([(([]:η)++A)])) 24) (c7 ((cQ z.1),z.2.1,z.a,z.b,z.c,(z.h++([(([]:η)++A)]))))))) (aI z.d))) (0,x,(0,0),(x.1,x.d),(([]:η)++x.2.1),([]:Y η))))
abbrev V?:=(η)×(Y η)×mc×(ν)×i?
def yJ (x:(mc×Int×Int)×k!):M ((ν×Bool)×k!):=
 (aA (kC x.1.1) λy1=>(iter (σ:=Int×V?) (λz=>(bS z.1 (be y1) (jn (bX aP y1 z.1 λz4=>(bS z4 0 (aI (J,z.2)) (bX aP y1 z.1 λz5=>(aI ((dy (be z.2.1) z5),z.2))))) λx3=>(aJ x3.1 U (c7 ((cQ z.1),x3.2)))) (aA (jn (α:=(Int×Bool×η)×V?) (bm z.b.1 5 (c7 (((z.b.2.1,z.c.2),J),z.2.1,z.a)) (bm z.b.1 1 (aI ((z.b.c,J,([]:η)),z.2)) (bm z.b.1 2 (kq aP z.2.1 z.b.a λz7=>(kq (.sl aP) z.a z.b.a λz8=>(aI ((z7,J,z8),z.2)))) (bm z.b.1 3 (aA (ny z.b.c) λy9=>(kq aP z.2.1 z.b.a λz10=>(aA (wg (y9,z10)) λL=>(kq (.sl aP) z.a z.b.a λz12=>(aI ((L.1,L.2,z12),z.2)))))) (aA (ny z.b.c) λy13=>(kq aP z.2.1 z.b.a λz14=>(kq aP z.2.1 z.b.b λz15=>(aA (xi (y13,z14,z15)) λD=>(kq (.sl aP) z.a z.b.a λz17=>(kq (.sl aP) z.a z.b.b λN=>(aA (v_ (z17,N)) λy19=>(aI ((D.1,D.2,y19),z.2))))))))))))) λA=>(bU (bh (aj ([]:η)+aj A.1.2.2) 8) (ck (dK A.b.2.1 (aj A.2.1)) (ck (dK A.b.2.1 (aj A.a)) (Z ((((cQ A.c.1),A.c.2),A.1.2.1),(cC A.2.1 A.b.2.1 A.1.1),(cC A.a A.b.2.1 (([]:η)++A.1.2.2)))))))) λr=>Z (bZ r)))) (0,x.2.1,x.2.2,x.1.1,x.1.2,0,0)))
def ou (x:(Int×Y mc)×k?):M (yd×Bool):=
 (jn (α:=Bool×(Int×Y mc)×yd×i?) (jK (be x.a) x.1.1 (aI (J,x.1,x.2,0,0)) (aI ((!decide (((be x.b):Int)=x.1.1)),x.1,x.2,0,0))) λL=>(aJ L.1 (Z ((0,([]:η),([]:Y η),0),af)) (aA (cE L.a) λy2=>(iter (σ:=Int×(Int×Y mc)×(ν)×(ν)×k!) (λA=>(jY A.1 (be A.2.1.2) (jn (bS A.a.1 0 (aI (J,A.2)) (aI ((dy (be A.2.1.2) A.a.1),A.2))) λz=>(aJ z.1 (aI ((0,([]:η),([]:Y η),0),af)) (bX sF z.2.1.2 z.a.1 λN=>(aA (qW N.1) λy6=>(aJ (!y6) (aI ((z.a.1,z.c,z.h,z.a.2),J)) (bm A.1 (be z.2.1.2) (aI ((0,([]:η),([]:Y η),0),af)) (aA (yJ ((N,z.a),z.f)) λD=>(bU (aB (aj z.h) (aj D.2.2)&&(aB (aj z.c) (aj D.2.1)&&J)) (aJ (!D.1.2) (aI ((0,([]:η),([]:Y η),0),af)) (c7 ((cQ A.1),z.2.1,D.1.1,z.b,D.2))))))))))) (aI ((0,([]:η),([]:Y η),0),af)))) (0,L.2.1,y2.1,L.d,y2.2)))))
abbrev r?:=Int×Int×jV×h?
abbrev E!:=jV×h?
abbrev S!:=Int×Y (Int×η)
def sZ (x:c!):M rq:=
 (iter (σ:=Int×eC×Int×S!) (λD=>(bS D.1 (be D.2.1.2.1) (bU (bh (aj D.f+aj ([((-1),([]:η))])) 32) (c7 ((cQ D.1),D.2.1,D.a,D.b,(D.f++([((-1),([]:η))]))))) (aA (iter (σ:=Int×eC×Int×Int×jV×θ) (λA=>(bS A.1 (be A.2.1.b) (bU (bh (aj A.h+aj ([af])) 1) (c7 ((cQ A.1),A.2.1,A.a,A.b,A.c,(A.h++([af]))))) (aA (iter (σ:=Int×eC×r?) (λz=>(bS z.1 (be z.2.1.c) (jn (α:=eC×Int×Int×eE×E!) (bm z.1 0 (aI (z.2.1,z.a,z.b,(1,0,af),z.f)) (aI (z.2.1,z.a,z.b,(0,0,af),z.f))) λL=>(bU (bh (aj L.k+aj ([L.b])) 24) (c7 ((cQ z.1),L.1,L.2.1,L.a,L.c,L.e,(L.k++([L.b])))))) (aI (z.c,z.b,z.h)))) (0,A.2.1,A.a,A.b,A.c,A.h,([]:Y eE))) λr=>Z (bZ r)))) (0,D.2.1,D.a,D.b,D.f,([]:θ))) λr=>Z (bZ r)))) (0,x,0,(-1),([]:Y j!)))
def s5 (x:eC×w!):M (Bool):=
 (iter (σ:=Int×eC×w!) (λz=>(bS z.1 (be z.2.1.a) (jn (bX itK z.2.1.a z.1 λL=>(bS L.2 0 (aI (J,z.2)) (bX itK z.2.1.a z.1 λD=>(aI ((dy (be z.2.1.2.1) D.2),z.2))))) λA=>(aJ A.1 (aI af) (c7 ((cQ z.1),A.2)))) (aA (jn (bm (be z.a) (be z.2.1.2.1) (bm (be z.c) (be z.2.1.b) (aI (decide (((be z.h):Int)=(be z.2.1.c)))) (aI af)) (aI af)) λN=>(Z N)) λr=>Z (bZ r)))) (0,x))
def rT (x:ν):M (Bool):=
 (jn (jY 0 x.1 (aI (gE x.1 x.2)) (aI af)) λz=>(Z z))
def v9 (x:eC×i?):M (Bool):=
 (jn (bm x.2.1 1 (aI ((decide ((x.2.1:Int)=1)),x.1)) (bm x.2.1 2 (aI ((decide ((x.2.1:Int)=2)),x.1)) (bm x.2.1 5 (aI ((decide ((x.2.1:Int)=5)),x.1)) (bm x.2.1 12 (aI ((decide ((x.2.1:Int)=12)),x.1)) (bm x.2.1 13 (aI ((decide ((x.2.1:Int)=13)),x.1)) (bm x.2.1 14 (aI ((decide ((x.2.1:Int)=14)),x.1)) (aI ((decide ((x.2.1:Int)=15)),x.1)))))))) λx1=>(aJ x1.1 (Z (decide ((x.2.2:Int)=(-1)))) (jn (bm x.2.1 3 (aI ((decide ((x.2.1:Int)=3)),x1.2)) (aI ((decide ((x.2.1:Int)=4)),x1.2))) λx2=>(aJ x2.1 (aA (rT (x.2.2,(be x2.2.1))) λy3=>(Z y3)) (jn (bm x.2.1 6 (aI ((decide ((x.2.1:Int)=6)),x2.2)) (aI ((decide ((x.2.1:Int)=7)),x2.2))) λL=>(aJ L.1 (jn (aA (rT (x.2.2,(be L.a))) λy6=>(aJ y6 (bX tC L.a x.2.2 λz7=>(aI (!z7.2))) (aI af))) λx5=>(Z x5)) (jn (bm x.2.1 8 (aI ((decide ((x.2.1:Int)=8)),L.2)) (bm x.2.1 9 (aI ((decide ((x.2.1:Int)=9)),L.2)) (bm x.2.1 10 (aI ((decide ((x.2.1:Int)=10)),L.2)) (aI ((decide ((x.2.1:Int)=11)),L.2))))) λD=>(aJ D.1 (jn (aA (rT (x.2.2,(be D.a))) λy10=>(aJ y10 (bX tC D.a x.2.2 λz11=>(aI z11.2)) (aI af))) λx9=>(Z x9)) (jn (bm x.2.1 16 (aI ((decide ((x.2.1:Int)=16)),D.2)) (bm x.2.1 17 (aI ((decide ((x.2.1:Int)=17)),D.2)) (bm x.2.1 18 (aI ((decide ((x.2.1:Int)=18)),D.2)) (aI ((decide ((x.2.1:Int)=19)),D.2))))) λA=>(aJ A.1 (aA (rT (x.2.2,(be A.b))) λy13=>(Z y13)) (jn (bm x.2.1 20 (aI ((decide ((x.2.1:Int)=20)),A.2)) (aI ((decide ((x.2.1:Int)=21)),A.2))) λz=>(aJ z.1 (aA (rT (x.2.2,(be z.e))) λy15=>(Z y15)) (jn (bm x.2.1 22 (aI ((decide ((x.2.1:Int)=22)),z.2)) (aI ((decide ((x.2.1:Int)=23)),z.2))) λN=>(aJ N.1 (aA (rT (x.2.2,(be N.c))) λy17=>(Z y17)) (Z af)))))))))))))))
abbrev T!:=eC×rq×Int×i?
def lq (x:T!):M (Bool):=
 (jn (aA (s5 (x.1,x.2.1)) λy2=>(aJ (!y2) (aI (J,x.1,x.2.1)) (aA (rT (x.a,(be x.1.c))) λy3=>(aJ (!y3) (aI (J,x.1,x.2.1)) (aA (v9 (x.1,x.d)) λy4=>(aI ((!y4),x.1,x.2.1))))))) λD=>(aJ D.1 (Z af) (bX iC D.h x.a λL=>(bm x.b 1 (Z (decide ((L.1:Int)=1))) (bm x.b 17 (jn (α:=Bool) (bm L.1 4 (bm L.2.1 x.f (bX itK D.2.1.a x.f λz7=>(bX ec D.a z7.2 λz8=>(aI (decide ((z8.1:Int)=(-1)))))) (aI af)) (aI af)) λx6=>(Z x6)) (jK L.1 2 (Z af) (bm x.b 6 (bX ec D.a x.f λz9=>(Z (decide ((z9.1:Int)=(-1))))) (bm x.b 10 (jn (α:=Bool) (bX ec D.a x.f λz11=>(bm z11.1 (-1) (bX ec D.a x.f λz12=>(aI (decide (((be z12.2):Int)=0)))) (aI af))) λx10=>(Z x10)) (bm x.b 8 (jn (α:=Bool) (bX ec D.a x.f λz14=>(bm z14.1 (-1) (bX ec D.a x.f λz15=>(aA (uo (z15.2,x.a)) λy16=>(aI (!y16)))) (aI af))) λx13=>(Z x13)) (jn (bm x.b 7 (aI ((decide ((x.b:Int)=7)),D.2.1,D.2.2,L)) (aI ((decide ((x.b:Int)=11)),D.2.1,D.2.2,L))) λz=>(aJ z.1 (bX ec z.a.1 x.f λz18=>(Z (decide ((z18.1:Int)=x.a)))) (bm x.b 9 (bX ec z.a.1 x.f λz19=>(aA (uo (z19.2,x.a)) λy20=>(Z y20))) (bm x.b 12 (Z (decide ((z.a.2.1:Int)=(-1)))) (bm x.b 13 (Z (decide ((z.a.2.1:Int)=x.a))) (bm x.b 14 (Z (!z.h)) (bm x.b 15 (Z z.h) (jn (bm x.b 16 (aI ((decide ((x.b:Int)=16)),z.2.1,z.a)) (bm x.b 18 (aI ((decide ((x.b:Int)=18)),z.2.1,z.a)) (aI ((decide ((x.b:Int)=19)),z.2.1,z.a)))) λA=>(aJ A.1 (bX itK A.2.1.a x.f λz22=>(bX ec A.a z22.2 λz23=>(Z (decide ((z23.1:Int)=x.a))))) (bm x.b 20 (jn (jK x.f x.a (bX iC A.h x.f λz25=>(aI (decide ((z25.1:Int)=0)))) (aI af)) λx24=>(Z x24)) (bm x.b 21 (jn (jK x.f x.a (bX iC A.h x.f λz27=>(aI (decide ((z27.1:Int)=5)))) (aI af)) λx26=>(Z x26)) (bm x.b 22 (bX (.bool) A.c x.f λz28=>(Z (!z28))) (bm x.b 23 (bX (.bool) A.c x.f λN=>(Z N)) (Z J)))))))))))))))))))))))
def oO (x:rq×Int):M η:=
 (iter (σ:=Int×rq×η) (λz=>(bS z.1 (be z.2.1.d) (jn (α:=rq×η) (jn (bX iC z.2.1.d z.1 λL=>(bm L.1 3 (bX iC z.2.1.d z.1 λD=>(aI ((decide ((D.2.1:Int)=x.2)),z.2))) (aI (af,z.2)))) λA=>(aJ A.1 (bU (bh (aj A.2.2+aj ([z.1])) 8) (aI (A.2.1,(A.2.2++([z.1]))))) (aI A.2))) λN=>(c7 ((cQ z.1),N))) (aI z.2.2))) (0,x.1,([]:η)))
def rS (x:n?):M η:=
 (iter (σ:=j!) (λz=>(bS z.1 (be x.1) (jn (α:=η) (bX aP x.1 z.1 λD=>(jK D x.2 (bX aP x.1 z.1 λA=>(bU (bh (aj z.2+aj ([A])) 8) (aI (z.2++([A]))))) (aI z.2))) λL=>(c7 ((cQ z.1),L))) (aI z.2))) (0,([]:η)))
def iL (x:w!):M (Int×E!):=
 (bU (bh (aj ([]:θ)+aj x.a) 1) (bU (bh (aj ([]:Y eE)+aj x.d) 24) (iter (σ:=Int×rq×r?) (λz=>(bS z.1 (be z.2.1.1) (bX ec z.2.1.1 z.1 λD=>(bX ec z.2.1.1 z.1 λA=>(bU (bh (aj ([]:η)+aj A.2) 8) (bU (bh (aj z.c+aj ([(D.1,(([]:η)++A.2))])) 32) (c7 ((cQ z.1),z.2.1,z.a,z.b,(z.c++([(D.1,(([]:η)++A.2))])),z.h)))))) (aI z.d))) (0,x,0,x.2.1,([]:Y j!),(([]:θ)++x.a),(([]:Y eE)++x.d)))))
def nv (x:ν×E!):M (η×E!):=
 (iter (σ:=Int×jV×(θ)×(Y eE)×j!) (λz=>(bS z.1 (be z.b) (jn (α:=jV×(θ)×(Y eE)×j!) (jn (kq iC z.b z.1 λL=>(bm L.1 3 (kq iC z.b z.1 λD=>(aI ((decide ((D.2.1:Int)=x.1.2)),z.2))) (aI (af,z.2)))) λA=>(aJ A.1 (bU (bh (aj A.h+aj ([z.1])) 8) (aI (A.2.1,A.a,A.b,A.c,(A.h++([z.1]))))) (aI A.2))) λN=>(c7 ((cQ z.1),N))) (aI (z.h,z.2.1,z.a,z.b)))) (0,x.2.1,x.a,x.d,x.1.1,([]:η)))
def lT (x:ν×E!):M η:=aA (nv x) λy=>same y.2 x.2 (Z y.1)
abbrev W!:=eC×rq×t?
abbrev Á:=Int×r?
def qD (x:W!):M (rq×q!):=
 (aA (lq (x.1,x.2.1,x.a,x.b,x.c)) λy1=>(aJ (!y1) (Z ((([]:Y j!),0,([]:θ),([]:Y eE)),0,af)) (aA (iL x.2.1) λL=>(jn (α:=Á) (bm x.b 1 (ck (dK x.a (aj L.d)) (aI (0,L.1,0,L.2.1,L.a,(cC L.d x.a (2,(geti iC L.d x.a).2))))) (bm x.b 2 (ck (dK x.a (aj L.d)) (aI (0,L.1,0,L.2.1,L.a,(cC L.d x.a (5,(geti iC L.d x.a).2))))) (jn (α:=Bool×eC×r?) (bm x.b 6 (aI ((decide ((x.b:Int)=6)),x.1,L.1,0,L.2)) (aI ((decide ((x.b:Int)=10)),x.1,L.1,0,L.2))) λN=>(aJ N.1 (ck (dK x.c (aj N.c)) (aI (0,N.a,N.b,(cC N.c x.c (x.a,(geti ec N.c x.c).2)),N.h))) (jn (bm x.b 7 (aI ((decide ((x.b:Int)=7)),N.2)) (aI ((decide ((x.b:Int)=11)),N.2))) λz=>(aJ z.1 (ck (dK x.c (aj z.c)) (aI (0,z.a,z.b,(cC z.c x.c ((-1),(geti ec z.c x.c).2)),z.h))) (bm x.b 8 (kq ec z.c x.c λz6=>(aA (v_ (z6.2,[x.a])) λy7=>(ck (dK x.c (aj z.c)) (aI (0,z.a,z.b,(cC z.c x.c ((geti ec z.c x.c).1,y7)),z.h))))) (bm x.b 9 (kq ec z.c x.c λz8=>(aA (rS (z8.2,x.a)) λy9=>(ck (dK x.c (aj z.c)) (aI (0,z.a,z.b,(cC z.c x.c ((geti ec z.c x.c).1,y9)),z.h))))) (bm x.b 12 (aI (0,x.a,z.d)) (bm x.b 13 (aI (0,(-1),z.d)) (bm x.b 14 (ck (dK x.a (aj z.k)) (aI (0,z.a,z.b,z.c,z.e,(cC z.k x.a ((geti iC z.k x.a).1,((geti iC z.k x.a).2).1,J))))) (bm x.b 15 (ck (dK x.a (aj z.k)) (aI (0,z.a,z.b,z.c,z.e,(cC z.k x.a ((geti iC z.k x.a).1,((geti iC z.k x.a).2).1,af))))) (bm x.b 16 (bX itK z.2.1.a x.c λz10=>(ck (dK z10.2 (aj z.c)) (ck (dK x.a (aj z.k)) (ck (dK x.a (aj (cC z.k x.a (3,(geti iC z.k x.a).2)))) (aI (0,z.a,z.b,(cC z.c z10.2 ((-1),(geti ec z.c z10.2).2)),z.e,(cC (cC z.k x.a (3,(geti iC z.k x.a).2)) x.a ((geti iC (cC z.k x.a (3,(geti iC z.k x.a).2)) x.a).1,x.c,((geti iC (cC z.k x.a (3,(geti iC z.k x.a).2)) x.a).2).2)))))))) (bm x.b 17 (bX itK z.2.1.a x.c λz11=>(ck (dK z11.2 (aj z.c)) (ck (dK x.a (aj z.k)) (ck (dK x.a (aj (cC z.k x.a (2,(geti iC z.k x.a).2)))) (aI (0,z.a,z.b,(cC z.c z11.2 (x.a,(geti ec z.c z11.2).2)),z.e,(cC (cC z.k x.a (2,(geti iC z.k x.a).2)) x.a ((geti iC (cC z.k x.a (2,(geti iC z.k x.a).2)) x.a).1,0,((geti iC (cC z.k x.a (2,(geti iC z.k x.a).2)) x.a).2).2)))))))) (bm x.b 18 (aA (lT ((z.a,x.c),z.f)) λy12=>(bS 0 (be y12) (bX aP y12 0 λz13=>(jn (aA (uo (y12,x.h)) λy15=>(aJ y15 (aI (x.h,z.2.2)) (aI (z13,z.2.2)))) λD=>(ck (dK D.1 (aj D.h)) (aI (D.1,D.2.1,D.a,D.b,D.c,(cC D.h D.1 (4,(geti iC D.h D.1).2))))))) (aI ((-1),z.2.2)))) (bm x.b 19 (aA (lT ((z.a,x.c),z.f)) λy16=>(iter (σ:=Á) (λA=>(bS A.1 (be y16) (bX aP y16 A.1 λz18=>(ck (dK z18 (aj A.h)) (c7 ((cQ A.1),A.2.1,A.a,A.b,A.c,(cC A.h z18 (4,(geti iC A.h z18).2)))))) (aI (bZ ((be y16),A.2))))) (0,z.2.2))) (bm x.b 20 (ck (dK x.c (aj z.k)) (aI (0,z.a,z.b,z.c,z.e,(cC z.k x.c (1,(geti iC z.k x.c).2))))) (bm x.b 22 (ck (dK x.c (aj z.e)) (aI (0,z.a,z.b,z.c,(cC z.e x.c J),z.k))) (aI (0,z.2.2)))))))))))))))))))) λx3=>(Z ((x3.b,x3.2.1,x3.f),x3.1,J))))))
abbrev Q!:=(η)×η
def v8 (x:z?):M AO:=
 (aA (kB x) λy1=>(aJ (!y1) (Z ((([]:Y j!),0,([]:θ),([]:Y eE)),([]:η),([]:η),([]:Y yd))) (aA (sZ x.1) λy2=>(iter (σ:=Int×Fn×Int×rq×η) (λD=>(bS D.1 (be D.2.1.1.1) (bX lF D.2.1.1.1 D.1 λz4=>(bU (bh (aj D.f+aj ([z4.2.2.2.2])) 8) (c7 ((cQ D.1),D.2.1,D.a,D.b,(D.f++([z4.2.2.2.2])))))) (aA (iter (σ:=Int×Fn×Int×rq×Q!) (λA=>(bS A.1 (be A.2.1.1.b) (bU (bh (aj A.h+aj ([0])) 8) (c7 ((cQ A.1),A.2.1,A.a,A.b,A.c,(A.h++([0]))))) (aA (iter (σ:=Int×Fn×Int×h!) (λz=>(bS z.1 (be z.2.1.2) (ky z.1 z.2.1.2 (lt ((geti zP z.2.1.2 z.1).1) λN=>(bU (dy 0 N&&dy N N&&bh (aM N) 8) (ky z.1 z.2.1.2 (lt ((geti zP z.2.1.2 z.1).1) λL=>(bU (dy 0 L&&dy L L&&bh (aM L) 24) (bU (bh (aj z.k+aj ([(0,(aG (aM N) (0:Int)),(aG (aM L) ([]:η)),0)])) 64) (c7 ((cQ z.1),z.2.1,z.a,z.b,z.c,z.e,(z.k++([(0,(aG (aM N) (0:Int)),(aG (aM L) ([]:η)),0)]))))))))))) (aI z.d))) (0,A.2.1,A.a,A.b,A.c,A.h,([]:Y yd))) λr=>Z (bZ r)))) (0,D.2.1,D.a,D.b,D.f,([]:η))) λr=>Z (bZ r)))) (0,x,0,y2,([]:η))))))
def yI (x:Fn×h!):M (Bool):=
 (jn (aA (kB x.1) λy2=>(aJ (!y2) (aI (J,x)) (aA (s5 (x.1.1,x.2.1)) λy3=>(aJ (!y3) (aI (J,x)) (jK (be x.a) (be x.1.1.1) (aI (J,x)) (jK (be x.b) (be x.1.1.b) (aI (J,x)) (aI ((!decide (((be x.f):Int)=(be x.1.2))),x)))))))) λL=>(aJ L.1 (Z af) (iter (σ:=Int×Fn×h!) (λz=>(bS z.1 (be z.2.1.2) (bX fy z.h z.1 λA=>(jn (bS A.1 0 (aI (J,z.2)) (bX zP z.2.1.2 z.1 λz7=>(jY (be z7.2) A.1 (aI (J,z.2)) (bX zP z.2.1.2 z.1 λz8=>(jK (be A.2.1) z8.1 (aI (J,z.2)) (bX zP z.2.1.2 z.1 λN=>(aI ((!decide (((be A.a):Int)=N.1)),z.2)))))))) λD=>(aJ D.1 (aI af) (c7 ((cQ z.1),D.2))))) (aI J))) (0,L.2))))
def Db (x:Int):M (Int):=
 (jn (α:=Bool×η) (bS x 6 (aI (J,[3,3,4,4,5,6,7,8,9,10,11,12,13,14,15,16,18,19,20,21,22,23,2])) (aI ((gE 28 x),[3,3,4,4,5,6,7,8,9,10,11,12,13,14,15,16,18,19,20,21,22,23,2]))) λz=>(aJ z.1 (Z 0) (kq aP z.2 (bn .i64 (x-6)) λA=>(Z A))))
def xh (x:mc×k?):M (Int):=
 (jn (bm x.1.1 6 (aI ((decide ((x.1.1:Int)=6)),x)) (aI ((decide ((x.1.1:Int)=27)),x))) λz=>(aJ z.1 (Z z.2.1.a) (bm x.1.1 7 (bX aP z.b z.2.1.b λL=>(aA (wh (L,z.2.1.c)) λy3=>(Z (bn .i64 (z.2.1.a+y3))))) (bm x.1.1 9 (bX aP z.b z.2.1.b λD=>(aA (wh (D,z.2.1.c)) λN=>(Z (bn .i64 (z.2.1.2.1+N))))) (jn (bm x.1.1 10 (aI ((decide ((x.1.1:Int)=10)),z.2.1)) (bm x.1.1 17 (aI ((decide ((x.1.1:Int)=17)),z.2.1)) (bm x.1.1 18 (aI ((decide ((x.1.1:Int)=18)),z.2.1)) (bm x.1.1 19 (aI ((decide ((x.1.1:Int)=19)),z.2.1)) (bm x.1.1 20 (aI ((decide ((x.1.1:Int)=20)),z.2.1)) (aI ((decide ((x.1.1:Int)=28)),z.2.1))))))) λA=>(aJ A.1 (Z (-1)) (Z A.a)))))))
def oN (x:Fn×AO×Int):M (gJ×Bool):=
 (jn (α:=Bool×Fn×AO×Int×t?) (aA (yI (x.1,x.2.1)) λy2=>(aJ (!y2) (aI (J,x.1,x.2.1,0,0,0,0,0)) (bS x.2.2 0 (aI (J,x.1,x.2.1,0,0,0,0,0)) (aI ((dy (be x.1.2) x.2.2),x.1,x.2.1,0,0,0,0,0))))) λx1=>(aJ x1.1 (Z ((0,0,0,0,0,([]:η),([]:η)),af)) (bX fy x1.a.d x.2.2 λz3=>(bX zP x1.2.1.2 x.2.2 λz4=>(bX sF z4.2 z3.1 λD=>(bX iC x1.a.1.d x.2.2 λz6=>(bm z6.1 1 (Z ((x.2.2,1,(-1),0,(-1),([]:η),([]:η)),J)) (bm z6.1 4 (bX iC x1.a.1.d x.2.2 λz7=>(Z ((x.2.2,17,z7.2.1,0,D.h,([]:η),([]:η)),J))) (bm z6.1 2 (aA (Db D.1) λy8=>(aA (xh (D,z3)) λy9=>(bm y8 0 (Z ((0,0,0,0,0,([]:η),([]:η)),af)) (jn (α:=Hq×yd×mc×Hq×η) (bm D.1 10 (bX (.sl aP) z3.a D.2.1 λz11=>(bU (bh (aj (z11:η)) 8) (aI (x1.d,z3,D,(x.2.2,y8,y9,0,D.h),z11)))) (jn (α:=Bool×Hq×yd×mc×Int×t?) (bm D.1 7 (aI ((decide ((D.1:Int)=7)),x1.d,z3,D,x.2.2,y8,y9,0,D.h)) (aI ((decide ((D.1:Int)=9)),x1.d,z3,D,x.2.2,y8,y9,0,D.h))) λz=>(aJ z.1 (bX (.sl aP) z.a.a z.b.b λz13=>(bU (bh (aj (z13:η)) 8) (aI (z.2.1,z.a,z.b,z.f,z13)))) (aI (z.2.1,z.a,z.b,z.f,([]:η)))))) λN=>(jn (α:=Hq×Hq×Q!) (jn (bm N.a.1 8 (aI (J,N)) (bm N.a.1 9 (aI (J,N)) (aI ((decide ((N.a.1:Int)=26)),N)))) λA=>(aJ A.1 (bX (.sl aP) A.a.a A.b.a λz16=>(bU (bh (aj (z16:η)) 8) (aI (A.2.1,A.c,A.h,z16)))) (aI (A.2.1,A.c,A.h,([]:η))))) λL=>(Z ((L.2.1.1,L.2.1.2.1,L.2.1.a,L.2.1.b,L.2.1.f,L.2.2),J))))))) (Z ((0,0,0,0,0,([]:η),([]:η)),af)))))))))))
def ol (x:c!):M j_:=
 (aA (sZ x) λD=>(bU (dy 0 (be x.b)&&dy (be x.b) (be x.b)&&bh (aM (be x.b)) 8) (bU (dy 0 (be x.c)&&dy (be x.c) (be x.c)&&bh (aM (be x.c)) 8) (iter (σ:=Int×eC×Int×V!) (λz=>(bS z.1 (be z.2.1.1) (bX lF z.2.1.1 z.1 λA=>(bU (bh (aj z.c+aj ([A.2.2.2.2])) 8) (c7 ((cQ z.1),z.2.1,z.a,z.b,(z.c++([A.2.2.2.2])),z.h)))) (aI z.d))) (0,x,0,D,([]:η),(aG (aM (be x.b)) (0:Int)),(aG (aM (be x.c)) (0:Int)))))))
def yG (x:eC×V!):M (Bool):=
 (jn (aA (s5 (x.1,x.2.1)) λz=>(aJ z (bm (be x.a) (be x.1.1) (bm (be x.b) (be x.1.b) (aI (decide (((be x.f):Int)=(be x.1.c)))) (aI af)) (aI af)) (aI af))) λA=>(Z A))
def FZ (x:ν):M (Bool):=
 (jn (jY 0 x.1 (aI (gE x.1 x.2)) (aI af)) λz=>(Z z))
def rR (x:n?):M (Bool):=
 (iter (σ:=Int) (λz=>(bS z (be x.1) (jn (bX aP x.1 z λN=>(bS N 1 (aI J) (bX aP x.1 z λL=>(jY x.2 L (aI J) (bS 0 z (bX aP x.1 z λD=>(bX aP x.1 (bn .i64 (z-1)) λA=>(aI (dy D A)))) (aI af)))))) λx2=>(aJ x2 (aI af) (c7 (cQ z)))) (aI J))) 0)
abbrev O?:=j_×b!
def Am (x:O?):M (Bool):=
 (bm x.a 3 (bX aP x.1.2.1 x.b λL=>(Z (decide ((x.c:Int)=L)))) (bm x.a 23 (bX aP x.1.a x.b λD=>(Z (decide ((x.c:Int)=D)))) (bm x.a 5 (jn (bm x.c 0 (aI J) (aI (decide ((x.c:Int)=1)))) λx3=>(Z x3)) (jn (bm x.a 4 (aI ((decide ((x.a:Int)=4)),x)) (aI ((decide ((x.a:Int)=22)),x))) λz=>(aJ z.1 (Z J) (bm x.a 18 (aA (oO (z.2.1.1,z.c)) λA=>(bm (be A) 0 (Z (decide ((z.e:Int)=(-1)))) (jn (jY 0 z.e (bS z.e (be z.2.1.1.d) (aA (uo (A,z.e)) λy7=>(aI y7)) (aI af)) (aI af)) λx6=>(Z x6)))) (bm x.a 19 (aA (oO (z.2.1.1,z.c)) λN=>(Z (decide ((z.e:Int)=(be N))))) (Z (decide ((z.e:Int)=0))))))))))
abbrev J!:=eC×j_×gJ×Int
def sY (x:eC×O?):M (j_×Bool):=
 (jn (α:=Bool×J!) (aA (yG (x.1,x.2.1)) λy2=>(aJ (!y2) (aI (J,x.1,x.2.1,x.2.2,0)) (aA (FZ (x.a,(be x.1.c))) λy3=>(aJ (!y3) (aI (J,x.1,x.2.1,x.2.2,0)) (bS x.b 1 (aI (J,x.1,x.2.1,x.2.2,0)) (bS 23 x.b (aI (J,x.1,x.2.1,x.2.2,0)) (aA (lq (x.1,x.2.1.1,x.a,x.b,x.c)) λy4=>(aI ((!y4),x.1,x.2.1,x.2.2,0))))))))) λx1=>(aJ x1.1 (Z (((([]:Y j!),0,([]:θ),([]:Y eE)),([]:η),([]:η),([]:η)),af)) (jn (α:=J!) (jn (bm x1.b.2.1 1 (aI (J,x1.2)) (aI ((decide ((x1.b.2.1:Int)=2)),x1.2))) λx6=>(aJ x6.1 (jK x6.b.c (-1) (c7 (((([]:Y j!),0,([]:θ),([]:Y eE)),([]:η),([]:η),([]:η)),af)) (aI x6.2)) (jn (aA (FZ (x6.b.c,(be x6.2.1.h))) λy8=>(aJ (!y8) (aI (J,x6.2)) (bX pR x6.2.1.h x6.b.c λz9=>(aI ((!decide ((z9.1:Int)=x6.b.1)),x6.2))))) λx7=>(aJ x7.1 (c7 (((([]:Y j!),0,([]:θ),([]:Y eE)),([]:η),([]:η),([]:η)),af)) (aI x7.2))))) λx5=>(jn (bm x5.a.2.1 3 (aI (J,x5)) (aI ((decide ((x5.a.2.1:Int)=4)),x5))) λx10=>(jn (bS 0 (be x10.b.e) (jK x10.b.2.1 5 (aJ x10.1 (bX lF x10.2.1.1 x10.b.a λz12=>(aI ((!(!decide ((z12.2.2.1:Int)=0))),x10.2))) (aI (J,x10.2))) (aI (af,x10.2))) (aI (af,x10.2))) λx11=>(aJ x11.1 (Z (((([]:Y j!),0,([]:θ),([]:Y eE)),([]:η),([]:η),([]:η)),af)) (jn (bS 0 (be x11.b.k) (jK x11.b.2.1 4 (aI ((!decide ((x11.b.2.1:Int)=22)),x11.2)) (aI (af,x11.2))) (aI (af,x11.2))) λL=>(aJ L.1 (Z (((([]:Y j!),0,([]:θ),([]:Y eE)),([]:η),([]:η),([]:η)),af)) (jn (bX aP L.a.d L.b.1 λz15=>(aA (rR (L.b.e,z15)) λy16=>(aJ (!y16) (aI (J,L.2)) (bX aP L.a.d L.b.1 λz17=>(aA (rR (L.b.k,z17)) λy18=>(aJ (!y18) (aI (J,L.2)) (aA (Am (L.a,L.b)) λy19=>(aI ((!y19),L.2))))))))) λz=>(aJ z.1 (Z (((([]:Y j!),0,([]:θ),([]:Y eE)),([]:η),([]:η),([]:η)),af)) (bU (bh (aj ([]:η)+aj z.a.2.1) 8) (bU (bh (aj ([]:η)+aj z.a.a) 8) (bU (bh (aj ([]:η)+aj z.a.d) 8) (jn (α:=Int×eC×j_×gJ×Int×Int×f?) (bm z.b.2.1 18 (aI (z.b.b,z.2.1,z.a,z.b,z.f,0,(([]:η)++z.a.2.1),(([]:η)++z.a.a),(([]:η)++z.a.d))) (aI ((-1),z.2.1,z.a,z.b,z.f,0,(([]:η)++z.a.2.1),(([]:η)++z.a.a),(([]:η)++z.a.d)))) λA=>(aA (qD (A.2.1,A.a.1,A.b.1,A.b.2.1,A.b.a,A.1)) λy21=>(jn (bm A.b.2.1 4 (ck (dK A.b.a (aj A.g)) (aI (A.b,A.c,y21.1,(cC A.g A.b.a A.b.b),A.p))) (aI (A.b,A.c,y21.1,A.k))) λD=>(jn (bm D.1.2.1 22 (ck (dK D.1.a (aj D.c)) (aI (D.1,D.2.1,D.a,D.b,(cC D.c D.1.a D.1.b),D.h))) (aI D)) λN=>(kq aP N.h N.1.1 λz24=>(ck (dK N.1.1 (aj N.h)) (Z ((N.a,N.b,N.c,(cC N.h N.1.1 (cQ z24))),J)))))))))))))))))))))
def sX (x:(Y gJ)×Int×j!):M (Bool):=
 (iter (σ:=Int) (λA=>(bS A (be x.d) (iter (σ:=Int×Bool×Int) (λz=>(bS z.2.2 x.2.1 (jn (bX gz x.1 z.2.2 λz4=>(jK z4.1 x.a (aI (z.1,z.2.1)) (jn (aJ z.2.1 (aI J) (bX aP x.d A λz6=>(bm z.1 z6 (bX gz x.1 z.2.2 λN=>(bm N.2.1 3 (aI J) (bX gz x.1 z.2.2 λL=>(aI (decide ((L.2.1:Int)=23)))))) (aI af)))) λx5=>(aI ((cQ z.1),x5))))) λD=>(c7 (D.1,D.2,(cQ z.2.2)))) (aA (aJ (!z.2.1) (aI af) (c7 (cQ A))) λr=>Z (bZ r)))) (0,af,0)) (aI J))) 0)
abbrev w?:=eC×Y gJ
def v7 (x:w?):M ν:=
 (bS 400 (be x.2) (Z (0,2)) (aA (iy x.1) λy1=>(aJ (!y1) (Z (0,1)) (aA (ol x.1) λy2=>(iter (σ:=Int×(eC×Y gJ)×V!) (λz=>(bS z.1 (be z.2.1.2) (bX gz z.2.1.2 z.1 λA=>(aA (sY (z.2.1.1,z.2.2,A)) λD=>(jn (aJ (!D.2) (aI (J,z.2.1,z.2.2,D.1)) (aA (sX (z.2.1.2,z.1,A.1,A.e)) λy7=>(aJ (!y7) (aI (J,z.2.1,z.2.2,D.1)) (aA (sX (z.2.1.2,z.1,A.1,A.k)) λN=>(aI ((!N),z.2.1,z.2.2,D.1)))))) λL=>(aJ L.1 (aI (z.1,12)) (c7 ((cQ z.1),L.2.1,L.d)))))) (aI (0,0)))) (0,x,y2))))))
def KG {W V:Type} (i:Int) (t1:R->(η)->(Y η)->W) (t2:W->V) (t3:V->yd->Y yd) (x6:Int) (z:Fn×rq×(ν)×Int×Hq×gJ×(ν)×(η)×(η)×R×(η)×Y η):M Hp:=
 (jn (jn (jK z.e.2.1 16 (aI ((!decide ((z.e.2.1:Int)=2)),z.1,z.2.1,z.a,z.b,z.c,z.e,(x6,z.l,z.v,(cQ z.g.2)),z.j,z.m,(t1 z.o z.l z.v))) (aI (af,z.1,z.2.1,z.a,z.b,z.c,z.e,(x6,z.l,z.v,(cQ z.g.2)),z.j,z.m,(t1 z.o z.l z.v)))) λA=>(aJ A.1 (bX zP A.2.1.2 A.b.1 λL=>(aA (ou (L,A.j)) λN=>(aI (A.a,A.b,A.c,A.e,A.g,N.1,A.m,A.o,(t2 A.w))))) (aI (A.a,A.b,A.c,A.e,A.g,A.j,A.m,A.o,(t2 A.w))))) λD=>(bm D.2.1.1 i (Z ((D.1,D.g,D.j,(t3 D.s D.e)),D.c,J)) U))
abbrev x!:=Fn×AO×i?
def SG (i:Int) (cp:h!->M (Int×jV×(θ)×(Y eE)×(η)×(η)×R×(η)×Y η)) (N ev:R->Int) (k:Int->(Fn×rq×(ν)×Int×Hq×gJ×(ν)×(η)×(η)×R×(η)×Y η)->M Hp) (x:x!):M Hp:=
 (aA (oN (x.1,x.2.1,x.a)) λD=>(aJ (!D.2) (Z (((([]:Y j!),0,([]:θ),([]:Y eE)),([]:η),([]:η),([]:Y yd)),(0,0,0,0,0,([]:η),([]:η)),af)) (aA (qD (x.1.1,x.2.1.1,x.a,D.1.2.1,D.1.a,x.d)) λy2=>(aJ (!y2.2.2) (Z (((([]:Y j!),0,([]:θ),([]:Y eE)),([]:η),([]:η),([]:Y yd)),(0,0,0,0,0,([]:η),([]:η)),af)) (aA (cp x.2.1) λL=>(bm x.a i (bX zP x.1.2 i λz4=>(bX sF z4.2 (N L.g) λz5=>(jn (α:=Int×Fn×rq×(ν)×Int×Hq×gJ×(ν)×mc×(η)×(η)×R×(η)×Y η) (jn (α:=Bool×Fn×rq×(ν)×Int×Hq×gJ×(ν)×mc×(η)×(η)×R×(η)×Y η) (bm D.1.2.1 1 (aI ((decide ((D.1.2.1:Int)=1)),x.1,y2.1,(i,x.d),0,(0,0,0,0,0),(D.1.1,D.1.2.1,D.1.a,y2.2.1,D.1.f),((N L.g),(ev L.g)),z5,L.f)) (bm D.1.2.1 16 (aI ((decide ((D.1.2.1:Int)=16)),x.1,y2.1,(i,x.d),0,(0,0,0,0,0),(D.1.1,D.1.2.1,D.1.a,y2.2.1,D.1.f),((N L.g),(ev L.g)),z5,L.f)) (aI ((decide ((D.1.2.1:Int)=2)),x.1,y2.1,(i,x.d),0,(0,0,0,0,0),(D.1.1,D.1.2.1,D.1.a,y2.2.1,D.1.f),((N L.g),(ev L.g)),z5,L.f)))) λz=>(aJ z.1 (aI (z.j.1,z.2)) (bm D.1.2.1 3 (kq aP z.o z.g.a λz8=>(aI ((bn .i64 ((N L.g)+1)),z.2.1,z.a,z.b,z.c,z.e,(z.g.1,z.g.2.1,z.g.a,z8,z.g.f),z.p))) (bm D.1.2.1 23 (kq aP z.l z.g.a λz9=>(aI ((bn .i64 ((N L.g)+1)),z.2.1,z.a,z.b,z.c,z.e,(z.g.1,z.g.2.1,z.g.a,z9,z.g.f),z.p))) (bm D.1.2.1 4 (kq aP z.i z.m.a λz10=>(ck (dK z.g.a (aj z.o)) (aI ((bn .i64 ((N L.g)+1)),z.2.1,z.a,z.b,z.c,z.e,(z.g.1,z.g.2.1,z.g.a,z10,z.g.f),z.j,z.m,(cC z.o z.g.a z10),z.w)))) (bm D.1.2.1 22 (kq aP z.i z.m.a λz11=>(ck (dK z.g.a (aj z.l)) (aI ((bn .i64 ((N L.g)+1)),z.2.1,z.a,z.b,z.c,z.e,(z.g.1,z.g.2.1,z.g.a,z11,z.g.f),z.j,z.m,z.o,(cC z.l z.g.a z11),z.v)))) (bm D.1.2.1 5 (kq aP z.i z.m.2.1 λz12=>(bm z12 0 (aI (z.m.a,z.2.1,z.a,z.b,z.c,z.e,(z.g.1,z.g.2.1,z.g.a,0,z.g.f),z.p)) (aI ((bn .i64 ((N L.g)+1)),z.2.1,z.a,z.b,z.c,z.e,(z.g.1,z.g.2.1,z.g.a,1,z.g.f),z.p)))) (aI ((bn .i64 ((N L.g)+1)),z.2))))))))) λx6=>(jn (α:=Fn×rq×(ν)×Int×Hq×gJ×(ν)×(η)×(η)×R×(η)×Y η) (jn (bm x6.g.2.1 3 (aI (J,x6.2)) (aI ((decide ((x6.g.2.1:Int)=23)),x6.2))) λA=>(aJ A.1 (ck (dK A.m.2.1 (aj A.i)) (ck (dK A.m.2.1 (aj A.z)) (aI (A.2.1,A.a,A.b,A.c,A.e,A.g,A.j,A.o,A.l,A.n,(cC A.i A.m.2.1 A.g.b),(cC A.z A.m.2.1 ([A.j.2])))))) (aI (A.2.1,A.a,A.b,A.c,A.e,A.g,A.j,A.B)))) λx13=>(k x6.1 x13))))) U))))))
def um (x:h!):M (Int×jV×(θ)×(Y eE)×(η)×(η)×(ν)×k!):=
 (aA (iL x.1) λz=>(bU (bh (aj ([]:η)+aj x.2.1) 8) (bU (bh (aj ([]:η)+aj x.a) 8) (bS 0 (be x.d) (bX fy x.d 0 λD=>(aA (cE D) λL=>(bS 1 (be x.d) (bX fy x.d 1 λA=>(aA (cE A) λN=>U)) (Z (z.1,z.2.1,z.a,z.d,(([]:η)++x.2.1),(([]:η)++x.a),L))))) U))))
def gU (x:x!):M Hp:=
 SG 0 um (λz=>z.1) (λz=>z.2) (KG 0 (λz R T=>(z.1,R,T,z.2)) (λw=>((w.1,w.2.1,w.2.2.1,w.2.2.2))) (λv t=>[t])) x
def ul (x:h!):M (Int×jV×(θ)×(Y eE)×(η)×(η)×Ya29×k!):=
 (aA (iL x.1) λA=>(bU (bh (aj ([]:η)+aj x.2.1) 8) (bU (bh (aj ([]:η)+aj x.a) 8) (bS 0 (be x.d) (bX fy x.d 0 λz2=>(aA (cE z2) λD=>(bS 1 (be x.d) (bX fy x.d 1 λN=>(aA (cE N) λz=>(bS 2 (be x.d) (bX fy x.d 2 λL=>(aA (cE L) λy7=>U)) (Z (A.1,A.2.1,A.a,A.d,(([]:η)++x.2.1),(([]:η)++x.a),(D.1.1,D.1.2,z.1.1,z.2.1,z.2.2,z.1.2),D.2))))) U))) U))))
def iw (x:x!):M Hp:=
 SG 0 ul (λz=>z.1) (λz=>z.2.1) (KG 0 (λz R T=>(z.1,R,T,z.2.1,z.2.2)) (λw=>((w.1,w.2.1,w.2.2.1,w.2.2.2.1),w.2.2.2.2)) (λv t=>[t,v.2])) x
def uk (x:h!):M (Int×jV×(θ)×(Y eE)×(η)×(η)×(yd×Int×Int)×k!):=
 (aA (iL x.1) λA=>(bU (bh (aj ([]:η)+aj x.2.1) 8) (bU (bh (aj ([]:η)+aj x.a) 8) (bS 0 (be x.d) (bX fy x.d 0 λz2=>(aA (cE z2) λz=>(bS 1 (be x.d) (bX fy x.d 1 λN=>(aA (cE N) λD=>(bS 2 (be x.d) (bX fy x.d 2 λL=>(aA (cE L) λy7=>U)) (Z (A.1,A.2.1,A.a,A.d,(([]:η)++x.2.1),(([]:η)++x.a),((z.1.1,z.2.1,z.2.2,z.1.2),D.1),D.2))))) U))) U))))
def gR (x:x!):M Hp:=
 SG 1 uk (λz=>z.2.1) (λz=>z.2.2) (KG 1 (λz R T=>(z.1,z.2.1,R,T,z.2.2)) (λw=>(w.1,(w.2.1,w.2.2.1,w.2.2.2.1,w.2.2.2.2))) (λv t=>[v.1,t])) x
def uj (x:h!):M (Int×jV×(θ)×(Y eE)×(η)×(η)×Ya27×k!):=
 (aA (iL x.1) λD=>(bU (bh (aj ([]:η)+aj x.2.1) 8) (bU (bh (aj ([]:η)+aj x.a) 8) (bS 0 (be x.d) (bX fy x.d 0 λz2=>(aA (cE z2) λL=>(bS 1 (be x.d) (bX fy x.d 1 λz4=>(aA (cE z4) λA=>(bS 2 (be x.d) (bX fy x.d 2 λz6=>(aA (cE z6) λz=>(bS 3 (be x.d) (bX fy x.d 3 λN=>(aA (cE N) λy9=>U)) (Z (D.1,D.2.1,D.a,D.d,(([]:η)++x.2.1),(([]:η)++x.a),(L.1.1,L.1.2,(A.1.1,A.2.1,A.2.2,A.1.2),z.1.1,z.2.1,z.2.2,z.1.2),L.2))))) U))) U))) U))))
def lm (x:x!):M Hp:=
 SG 0 uj (λz=>z.1) (λz=>z.2.1) (KG 0 (λz R T=>(z.1,R,T,z.2.1,z.a,z.d)) (λw=>((w.1,w.2.1,w.2.2.1,w.2.2.2.1),w.2.2.2.2.1,w.2.2.2.2.2)) (λv t=>[t,v.2.1,v.2.2])) x
def ui (x:h!):M (Int×jV×(θ)×(Y eE)×(η)×(η)×Ya28×k!):=
 (aA (iL x.1) λD=>(bU (bh (aj ([]:η)+aj x.2.1) 8) (bU (bh (aj ([]:η)+aj x.a) 8) (bS 0 (be x.d) (bX fy x.d 0 λz2=>(aA (cE z2) λA=>(bS 1 (be x.d) (bX fy x.d 1 λz4=>(aA (cE z4) λL=>(bS 2 (be x.d) (bX fy x.d 2 λz6=>(aA (cE z6) λz=>(bS 3 (be x.d) (bX fy x.d 3 λN=>(aA (cE N) λy9=>U)) (Z (D.1,D.2.1,D.a,D.d,(([]:η)++x.2.1),(([]:η)++x.a),((A.1.1,A.2.1,A.2.2,A.1.2),L.1.1,L.1.2,z.1.1,z.2.1,z.2.2,z.1.2),L.2))))) U))) U))) U))))
def kf (x:x!):M Hp:=
 SG 1 ui (λz=>z.2.1) (λz=>z.a) (KG 1 (λz R T=>(z.1,z.2.1,R,T,z.a,z.d)) (λw=>(w.1,(w.2.1,w.2.2.1,w.2.2.2.1,w.2.2.2.2.1),w.2.2.2.2.2)) (λv t=>[v.1,t,v.2.2])) x
def uh (x:h!):M (Int×jV×(θ)×(Y eE)×(η)×(η)×(yd×yd×Int×Int)×k!):=
 (aA (iL x.1) λD=>(bU (bh (aj ([]:η)+aj x.2.1) 8) (bU (bh (aj ([]:η)+aj x.a) 8) (bS 0 (be x.d) (bX fy x.d 0 λz2=>(aA (cE z2) λA=>(bS 1 (be x.d) (bX fy x.d 1 λz4=>(aA (cE z4) λz=>(bS 2 (be x.d) (bX fy x.d 2 λz6=>(aA (cE z6) λL=>(bS 3 (be x.d) (bX fy x.d 3 λN=>(aA (cE N) λy9=>U)) (Z (D.1,D.2.1,D.a,D.d,(([]:η)++x.2.1),(([]:η)++x.a),((A.1.1,A.2.1,A.2.2,A.1.2),(z.1.1,z.2.1,z.2.2,z.1.2),L.1),L.2))))) U))) U))) U))))
def iY (x:x!):M Hp:=
 SG 2 uh (λz=>z.a) (λz=>z.d) (KG 2 (λz R T=>(z.1,z.2.1,z.a,R,T,z.d)) (λw=>(w.1,w.2.1,(w.2.2.1,w.2.2.2.1,w.2.2.2.2.1,w.2.2.2.2.2))) (λv t=>[v.1,v.2.1,t])) x
def ug (x:h!):M (Int×jV×(θ)×(Y eE)×(η)×(η)×Ya23×k!):=
 (aA (iL x.1) λL=>(bU (bh (aj ([]:η)+aj x.2.1) 8) (bU (bh (aj ([]:η)+aj x.a) 8) (bS 0 (be x.d) (bX fy x.d 0 λz2=>(aA (cE z2) λy3=>(bS 1 (be x.d) (bX fy x.d 1 λz4=>(aA (cE z4) λD=>(bS 2 (be x.d) (bX fy x.d 2 λz6=>(aA (cE z6) λA=>(bS 3 (be x.d) (bX fy x.d 3 λz8=>(aA (cE z8) λz=>(bS 4 (be x.d) (bX fy x.d 4 λN=>(aA (cE N) λy11=>U)) (Z (L.1,L.2.1,L.a,L.d,(([]:η)++x.2.1),(([]:η)++x.a),(y3.1.1,y3.1.2,(D.1.1,D.2.1,D.2.2,D.1.2),(A.1.1,A.2.1,A.2.2,A.1.2),z.1.1,z.2.1,z.2.2,z.1.2),y3.2))))) U))) U))) U))) U))))
def qV (x:x!):M Hp:=
 SG 0 ug (λz=>z.1) (λz=>z.2.1) (KG 0 (λz R T=>(z.1,R,T,z.2.1,z.a,z.b,z.f)) (λw=>((w.1,w.2.1,w.2.2.1,w.2.2.2.1),w.2.2.2.2.1,w.2.2.2.2.2.1,w.2.2.2.2.2.2)) (λv t=>[t,v.2.1,v.2.2.1,v.2.2.2])) x
def uf (x:h!):M (Int×jV×(θ)×(Y eE)×(η)×(η)×Ya24×k!):=
 (aA (iL x.1) λL=>(bU (bh (aj ([]:η)+aj x.2.1) 8) (bU (bh (aj ([]:η)+aj x.a) 8) (bS 0 (be x.d) (bX fy x.d 0 λz2=>(aA (cE z2) λD=>(bS 1 (be x.d) (bX fy x.d 1 λz4=>(aA (cE z4) λy5=>(bS 2 (be x.d) (bX fy x.d 2 λz6=>(aA (cE z6) λA=>(bS 3 (be x.d) (bX fy x.d 3 λz8=>(aA (cE z8) λz=>(bS 4 (be x.d) (bX fy x.d 4 λN=>(aA (cE N) λy11=>U)) (Z (L.1,L.2.1,L.a,L.d,(([]:η)++x.2.1),(([]:η)++x.a),((D.1.1,D.2.1,D.2.2,D.1.2),y5.1.1,y5.1.2,(A.1.1,A.2.1,A.2.2,A.1.2),z.1.1,z.2.1,z.2.2,z.1.2),y5.2))))) U))) U))) U))) U))))
def qU (x:x!):M Hp:=
 SG 1 uf (λz=>z.2.1) (λz=>z.a) (KG 1 (λz R T=>(z.1,z.2.1,R,T,z.a,z.b,z.f)) (λw=>(w.1,(w.2.1,w.2.2.1,w.2.2.2.1,w.2.2.2.2.1),w.2.2.2.2.2.1,w.2.2.2.2.2.2)) (λv t=>[v.1,t,v.2.2.1,v.2.2.2])) x
def ue (x:h!):M (Int×jV×(θ)×(Y eE)×(η)×(η)×Ya25×k!):=
 (aA (iL x.1) λL=>(bU (bh (aj ([]:η)+aj x.2.1) 8) (bU (bh (aj ([]:η)+aj x.a) 8) (bS 0 (be x.d) (bX fy x.d 0 λz2=>(aA (cE z2) λD=>(bS 1 (be x.d) (bX fy x.d 1 λz4=>(aA (cE z4) λA=>(bS 2 (be x.d) (bX fy x.d 2 λz6=>(aA (cE z6) λy7=>(bS 3 (be x.d) (bX fy x.d 3 λz8=>(aA (cE z8) λz=>(bS 4 (be x.d) (bX fy x.d 4 λN=>(aA (cE N) λy11=>U)) (Z (L.1,L.2.1,L.a,L.d,(([]:η)++x.2.1),(([]:η)++x.a),((D.1.1,D.2.1,D.2.2,D.1.2),(A.1.1,A.2.1,A.2.2,A.1.2),y7.1.1,y7.1.2,z.1.1,z.2.1,z.2.2,z.1.2),y7.2))))) U))) U))) U))) U))))
def oq (x:x!):M Hp:=
 SG 2 ue (λz=>z.a) (λz=>z.b) (KG 2 (λz R T=>(z.1,z.2.1,z.a,R,T,z.b,z.f)) (λw=>(w.1,w.2.1,(w.2.2.1,w.2.2.2.1,w.2.2.2.2.1,w.2.2.2.2.2.1),w.2.2.2.2.2.2)) (λv t=>[v.1,v.2.1,t,v.2.2.2])) x
def ud (x:h!):M (Int×jV×(θ)×(Y eE)×(η)×(η)×Ya42×k!):=
 (aA (iL x.1) λL=>(bU (bh (aj ([]:η)+aj x.2.1) 8) (bU (bh (aj ([]:η)+aj x.a) 8) (bS 0 (be x.d) (bX fy x.d 0 λz2=>(aA (cE z2) λD=>(bS 1 (be x.d) (bX fy x.d 1 λz4=>(aA (cE z4) λA=>(bS 2 (be x.d) (bX fy x.d 2 λz6=>(aA (cE z6) λz=>(bS 3 (be x.d) (bX fy x.d 3 λz8=>(aA (cE z8) λy9=>(bS 4 (be x.d) (bX fy x.d 4 λN=>(aA (cE N) λy11=>U)) (Z (L.1,L.2.1,L.a,L.d,(([]:η)++x.2.1),(([]:η)++x.a),((D.1.1,D.2.1,D.2.2,D.1.2),(A.1.1,A.2.1,A.2.2,A.1.2),(z.1.1,z.2.1,z.2.2,z.1.2),y9.1),y9.2))))) U))) U))) U))) U))))
def mo (x:x!):M Hp:=
 SG 3 ud (λz=>z.b) (λz=>z.f) (KG 3 (λz R T=>(z.1,z.2.1,z.a,z.b,R,T,z.f)) (λw=>(w.1,w.2.1,w.2.2.1,(w.2.2.2.1,w.2.2.2.2.1,w.2.2.2.2.2.1,w.2.2.2.2.2.2))) (λv t=>[v.1,v.2.1,v.2.2.1,t])) x
def Dc (x:x!):M Hp:=orE (qV x) (orE (qU x) (orE (oq x) (orE (mo x) (orE (lm x) (orE (kf x) (orE (iY x) (orE (iw x) (orE (gR x) (gU x)))))))))
def yH (x:Fn×AO×Y ν):M ((Y gJ)×h!):=
 (iter (σ:=Int×(Y gJ)×Fn×AO×Int) (λA=>(jn (bS A.1 (be x.2.2) (aI ((gE (be A.2.1) 400),A.2)) (aI (af,A.2))) λz=>(aJ z.1 (jn (α:=(Y gJ)×Fn×AO×Int) (bX gf x.2.2 A.1 λL=>(aA (Dc (z.a,z.b,L)) λD=>(aJ D.2.2 (bU (bh (aj z.2.1+aj ([D.2.1])) 88) (aI ((z.2.1++([D.2.1])),z.a,D.1,z.f))) (aI z.2)))) λN=>(c7 ((cQ A.1),N))) (aI (z.2.1,z.b))))) (0,([]:Y gJ),x.1,x.2.1,0))
def F0 (x:Fn×Y ν):M ((eC×Y gJ)×h!):=
 (aA (kB x.1) λD=>(aJ (!D) (Z (((([]:Y X6),([]:Y H?),([]:Y ku),([]:Y ζ),([]:Y ζ),([]:Y π)),([]:Y gJ)),(([]:Y j!),0,([]:θ),([]:Y eE)),([]:η),([]:η),([]:Y yd))) (aA (v8 x.1) λA=>(aA (yH (x.1,A,x.2)) λz=>(Z ((x.1.1,z.1),z.2))))))
abbrev M!:=Int×u!
def bF (x:M!):M M!:=
 (jn (jY (be x.2.1) x.2.2 (aI (J,x.2)) (aI ((gE x.1 1),x.2))) λz=>(aJ z.1 (Z (0,z.2)) (lt (cQ z.2.2) λD=>(bX (.int .u8) z.2.1 (bn .i64 (D-1)) λA=>(bU (!decide ((x.1:Int)=0)) (Z ((C4 (bn .i64 A) x.1),z.2.1,(cQ z.2.2))))))))
def s_ (x:Int):M (Xp):=
 (Z (eL (1,x,[],([]:Y Xp))))
def qJ (x:ζ):M (Xp):=
 (Z (eL (2,0,x,([]:Y Xp))))
def oU (x:Int×Xp×Xp):M (Xp):=
 (Z (eL (x.1,0,[],[eL ((Xp.op x.2.1),(Xp.n x.2.1),(Xp.name x.2.1),(Xp.l x.2.1)),eL ((Xp.op x.2.2),(Xp.n x.2.2),(Xp.name x.2.2),(Xp.l x.2.2))])))
def j8 (x:ζ×Xp):M (Sx):=
 (Z (oV (1,0,x.1,[],([]:Y Xp),eL ((Xp.op x.2),(Xp.n x.2),(Xp.name x.2),(Xp.l x.2)),([]:Y Sx),([]:Y Sx))))
def ur (x:Unit):M zJ:=
 (Z ([(1,0,[120],0,0,[]),(1,0,[121],0,1,[]),(2,0,[118],0,0,[]),(1,0,[113],2,0,[]),(3,0,[109],0,0,[]),(3,0,[110],0,0,[]),(4,0,[114],0,0,[]),(5,0,[99],0,0,[109]),(6,0,[102],0,0,[])]))
def tL (x:η):M (Y ν):=
 (iter (σ:=Int×Y ν) (λz=>(bS z.1 (be x) (bX (.int .u8) x z.1 λD=>(bX (.int .u8) x z.1 λA=>(bU (bh (aj z.2+aj ([((C4 (bn .i64 D) 4),(bn .i64 ((C4 (bn .i64 (Int.tdiv (bn .i64 A) 4)) 5)-1)))])) 16) (c7 ((cQ z.1),(z.2++([((C4 (bn .i64 D) 4),(bn .i64 ((C4 (bn .i64 (Int.tdiv (bn .i64 A) 4)) 5)-1)))]))))))) (aI z.2))) (0,([]:Y ν)))
def yT (rmade_maker_expr:ag6->M ap7) (x:Int×j?):M ap7:=
 (aA (bF (10,x.a)) λy1=>(jn (α:=Bool×Ho×iD×X7×(Int×Int×ζ)×Y ζ) (bS y1.1 2 (aI (J,x.2.1,y1.2,x.d,(0,0,[]),[[97],[98],[120],[121],[118],[120],[121]])) (bm x.1 0 (aI ((dy 7 y1.1),x.2.1,y1.2,x.d,(0,0,[]),[[97],[98],[120],[121],[118],[120],[121]])) (aI (af,x.2.1,y1.2,x.d,(0,0,[]),[[97],[98],[120],[121],[118],[120],[121]])))) λz=>(aJ z.1 (aA (bF (4,z.a)) λy3=>(aA (s_ y3.1) λy4=>(Z (eL ((Xp.op y4),(Xp.n y4),(Xp.name y4),(Xp.l y4)),z.2.1,y3.2,z.b)))) (bS y1.1 7 (aA (bF ((be z.h),z.a)) λy5=>(kq (.str) z.h y5.1 λz6=>(aA (qJ z6) λy7=>(Z (eL ((Xp.op y7),(Xp.n y7),(Xp.name y7),(Xp.l y7)),z.2.1,y5.2,z.b))))) (bm y1.1 7 (aA (rmade_maker_expr (0,z.2.1,z.a,z.b)) λN=>(bU (((z.b.1==N.b)&&J)&&aB (aj z.b.2) (aj N.f)&&J) (Z (eL (3,0,[113],[eL ((Xp.op N.1),(Xp.n N.1),(Xp.name N.1),(Xp.l N.1))]),N.2)))) (aA (bF ((aS (aj ([6,7,8,11,13,17]))),z.a)) λy9=>(kq aP ([6,7,8,11,13,17]) y9.1 λz10=>(aA (rmade_maker_expr ((bn .i64 (x.1-1)),z.2.1,y9.2,z.b)) λA=>(bU (((z.b.1==A.b)&&J)&&aB (aj z.b.2) (aj A.f)&&J) (aA (rmade_maker_expr ((bn .i64 (x.1-1)),A.2)) λL=>(bU (((A.b==L.b)&&J)&&aB (aj A.f) (aj L.f)&&J) (aA (oU (z10,A.1,L.1)) λD=>(Z (eL ((Xp.op D),(Xp.n D),(Xp.name D),(Xp.l D)),L.2))))))))))))))
def l8:Nat->ag6->M ap7
 |0,_=>U
 |n+1,x=>yT (l8 n) x
def fF (x:Int×j?):M ap7:=l8 fuel x
def fk (x:ζ×j?):M (Bool×j?):=
 (aA (j7 (x.f,x.1)) λz=>(Z ((dy 0 z),x.2)))
def nU (rmade_maker_stmts:ap9->M ag5) (rmade_maker_stmt:ag6->M al8) (rmade_maker_block:ap8->M al9) (x:ν×j?):M ag5:=
 (iter (σ:=Int×Ho×iD×(Y Sx)×Bool×Y ζ) (λA=>(jn (bS A.1 x.1.2 (bm A.1 0 (aI (J,A.2)) (aI ((gE 0 A.2.1.2.1),A.2))) (aI (af,A.2))) λz=>(aJ z.1 (aA (rmade_maker_stmt (x.1.1,z.2.1,z.a,z.f)) λD=>(bU (((z.c==z.c)&&J)&&aB (aj z.h) (aj z.h)&&J) (bU (bh (aj z.b+aj ([eO D.1])) 176) (c7 ((cQ A.1),D.2.1,D.a,(z.b++([eO D.1])),D.d))))) (aI (z.2.1,z.a,z.f,z.b))))) (0,x.2.1,x.a,([]:Y Sx),x.d))
abbrev o!:=Bool×Ho×iD×aad×Bool×Y ζ
def oY (rmade_maker_stmts:ap9->M ag5) (rmade_maker_stmt:ag6->M al8) (rmade_maker_block:ap8->M al9) (x:Int×j?):M al8:=
 (aA (bF (18,x.a)) λy1=>(jn (α:=o!) (bS 0 x.1 (lt (bn .i64 (x.2.1.2.1-1)) λz3=>(bS 0 z3 (aI ((!x.2.1.b),(x.2.1.1,(bn .i64 (x.2.1.2.1-1)),x.2.1.2.2),y1.2,(0,0,[],[],0,0,[]),x.d)) (aI (af,(x.2.1.1,(bn .i64 (x.2.1.2.1-1)),x.2.1.2.2),y1.2,(0,0,[],[],0,0,[]),x.d)))) (aI (af,(x.2.1.1,(bn .i64 (x.2.1.2.1-1)),x.2.1.2.2),y1.2,(0,0,[],[],0,0,[]),x.d))) λx2=>(bS y1.1 4 (kq (.str) ([[120],[121],[120],[118]]) y1.1 λz4=>(aA (fF (1,x2.2.1,x2.a,x2.f)) λy5=>(bU (((x2.c==y5.b)&&J)&&aB (aj x2.h) (aj y5.f)&&J) (aA (j8 (z4,y5.1)) λy6=>(Z (eO y6,y5.2)))))) (bm y1.1 4 (aA (bF (2,x2.a)) λy7=>(kq (.str) ([[97],[98]]) y7.1 λz8=>(aA (fF (1,x2.2.1,y7.2,x2.f)) λy9=>(bU (((x2.c==y9.b)&&J)&&aB (aj x2.h) (aj y9.f)&&J) (aA (j8 (z8,y9.1)) λy10=>(Z (eO y10,y9.2))))))) (bm y1.1 5 (aA (fF (0,x2.2.1,x2.a,x2.f)) λy11=>(bU (((x2.c==y11.b)&&J)&&aB (aj x2.h) (aj y11.f)&&J) (aA (fF (1,y11.2)) λy12=>(bU (((y11.b==y12.b)&&J)&&aB (aj y11.f) (aj y12.f)&&J) (Z (oV (1,0,[113],[],[eL ((Xp.op y11.1),(Xp.n y11.1),(Xp.name y11.1),(Xp.l y11.1))],eL ((Xp.op y12.1),(Xp.n y12.1),(Xp.name y12.1),(Xp.l y12.1)),([]:Y Sx),([]:Y Sx)),y12.2)))))) (jn (bm y1.1 6 (aI ((gE 0 x.1),x2.2)) (aI (af,x2.2))) λx13=>(aJ x13.1 (aA (fF (1,x13.2.1,x13.a,x13.f)) λL=>(bU (((x13.c==L.b)&&J)&&aB (aj x13.h) (aj L.f)&&J) (aA (rmade_maker_stmts (((bn .i64 (x.1-1)),1),L.2)) λy15=>(bU (((L.b==L.b)&&J)&&aB (aj L.f) (aj L.f)&&J) (jn (α:=Ho×iD×aad×(Int×Int×(ζ)×(ζ)×Int×Int×(ζ)×Y Xp)×X7×(Y Sx)×Y Sx) (aA (bF (2,y15.2.1)) λy17=>(bm y17.1 1 (aA (rmade_maker_stmts (((bn .i64 (x.1-1)),1),y15.1,y17.2,y15.a)) λy18=>(bU (((y15.a.1==y15.a.1)&&J)&&aB (aj y15.a.2) (aj y15.a.2)&&J) (aI (y18.1,y18.2.1,x13.b,(2,0,[],[],(Xp.op L.1),(Xp.n L.1),(Xp.name L.1),(Xp.l L.1)),y18.a,y15.d,y18.d)))) (aI (y15.1,y17.2,x13.b,(2,0,[],[],(Xp.op L.1),(Xp.n L.1),(Xp.name L.1),(Xp.l L.1)),y15.a,y15.d,([]:Y Sx))))) λx16=>(Z (oV (x16.b.1,x16.b.2.1,x16.b.a,x16.b.b,([]:Y Xp),eL x16.b.f,x16.h),x16.1,x16.2.1,x16.c))))))) (jn (bm y1.1 7 (aI ((gE 0 x.1),x13.2)) (aI (af,x13.2))) λz=>(aJ z.1 (aA (qJ ([98])) λy20=>(aA (s_ 2) λy21=>(aA (oU (13,y20,y21)) λy22=>(aA (rmade_maker_stmts (((bn .i64 (x.1-1)),1),(z.2.1.1,z.2.1.2.1,z.2.1.a,z.2.1.b,z.2.1.c,J),z.a,z.f)) λy23=>(bU (((z.c==z.c)&&J)&&aB (aj z.h) (aj z.h)&&J) (aA (qJ ([98])) λy24=>(aA (s_ 1) λy25=>(aA (oU (6,y24,y25)) λy26=>(aA (j8 ([98],y26)) λy27=>(bU (bh (aj y23.d+aj ([eO y27])) 176) (Z (oV (3,0,[],[],([]:Y Xp),eL ((Xp.op y22),(Xp.n y22),(Xp.name y22),(Xp.l y22)),(y23.d++([eO y27])),([]:Y Sx)),(y23.1.1,y23.1.2.1,y23.1.a,y23.1.b,y23.1.c,z.2.1.h),y23.2.1,y23.a)))))))))))) (jn (α:=o!) (bm y1.1 8 (aJ x2.1 (kq (.str) ([[109],[110]]) (bn .i64 (y1.1-8)) λz29=>(aA (fk (z29,z.2.1,z.a,z.f)) λy30=>(bU (((z.c==y30.b)&&J)&&aB (aj z.h) (aj y30.f)&&J) (aI ((!y30.1),y30.2.1,y30.a,z.b,y30.d))))) (aI (af,z.2))) (bm y1.1 9 (aJ x2.1 (kq (.str) ([[109],[110]]) (bn .i64 (y1.1-8)) λz31=>(aA (fk (z31,z.2.1,z.a,z.f)) λy32=>(bU (((z.c==y32.b)&&J)&&aB (aj z.h) (aj y32.f)&&J) (aI ((!y32.1),y32.2.1,y32.a,z.b,y32.d))))) (aI (af,z.2))) (aI (af,z.2)))) λA=>(aJ A.1 (kq (.str) ([[109],[110]]) (bn .i64 (y1.1-8)) λz33=>(aA (rmade_maker_block ((z33,(bn .i64 (x.1-1))),A.2.1,A.a,A.f)) λy34=>(bU (((A.c==A.c)&&J)&&aB (aj A.h) (aj A.h)&&J) (Z (oV (4,0,z33,[],([]:Y Xp),eL (0,0,[],([]:Y Xp)),y34.1,([]:Y Sx)),y34.2))))) (jn (α:=o!) (bm y1.1 10 (aJ x2.1 (aA (fk ([114],A.2.1,A.a,A.f)) λy36=>(bU (((A.c==y36.b)&&J)&&aB (aj A.h) (aj y36.f)&&J) (aI ((!y36.1),y36.2.1,y36.a,A.b,y36.d)))) (aI (af,A.2))) (bm y1.1 11 (aJ x2.1 (aA (fk ([114],A.2.1,A.a,A.f)) λy37=>(bU (((A.c==y37.b)&&J)&&aB (aj A.h) (aj y37.f)&&J) (aI ((!y37.1),y37.2.1,y37.a,A.b,y37.d)))) (aI (af,A.2))) (aI (af,A.2)))) λx35=>(aJ x35.1 (aA (rmade_maker_block (([114],(bn .i64 (x.1-1))),x35.2.1,x35.a,x35.f)) λy38=>(bU (((x35.c==x35.c)&&J)&&aB (aj x35.h) (aj x35.h)&&J) (Z (oV ((bn .i64 ((bn .i64 (y1.1-10))+5)),0,[114],[],([]:Y Xp),eL (0,0,[],([]:Y Xp)),y38.1,([]:Y Sx)),y38.2)))) (jn (bm y1.1 12 (aI (x2.1,x35.2)) (aI (af,x35.2))) λN=>(aJ N.1 (aA (bF (2,N.a)) λy40=>(aA (rmade_maker_stmts ((0,(bn .i64 (1+y40.1))),(N.2.1.1,N.2.1.2.1,N.2.1.a,J,N.2.1.f),y40.2,N.f)) λy41=>(bU (((N.c==N.c)&&J)&&aB (aj N.h) (aj N.h)&&J) (Z (oV (7,0,[],[],([]:Y Xp),eL (0,0,[],([]:Y Xp)),y41.d,([]:Y Sx)),(y41.1.1,y41.1.2.1,y41.1.a,af,y41.1.f),y41.2.1,y41.a))))) (jn (bm y1.1 13 (aJ x2.1 (aI ((!N.2.1.c),N.2)) (aI (af,N.2))) (aI (af,N.2))) λD=>(aJ D.1 (aA (rmade_maker_stmts (((bn .i64 (x.1-1)),2),(D.2.1.1,D.2.1.2.1,D.2.1.a,D.2.1.b,J,D.2.1.h),D.a,D.f)) λy43=>(bU (((D.c==D.c)&&J)&&aB (aj D.h) (aj D.h)&&J) (Z (oV (8,0,[],[],([]:Y Xp),eL (0,0,[],([]:Y Xp)),y43.d,([]:Y Sx)),(y43.1.1,y43.1.2.1,y43.1.a,y43.1.b,af,y43.1.h),y43.2.1,y43.a)))) (jn (α:=o!) (bm y1.1 14 (aJ x2.1 (aJ (!D.2.1.c) (aA (fk ([109],D.2.1,D.a,D.f)) λy45=>(bU (((D.c==y45.b)&&J)&&aB (aj D.h) (aj y45.f)&&J) (aI ((!y45.1),y45.2.1,y45.a,D.b,y45.d)))) (aI (af,D.2))) (aI (af,D.2))) (aI (af,D.2))) λx44=>(aJ x44.1 (aA (qJ ([120])) λy46=>(aA (j8 ([97],y46)) λy47=>(Z (oV (4,0,[109],[],([]:Y Xp),eL (0,0,[],([]:Y Xp)),[oV (9,0,[99],[],([]:Y Xp),eL (0,0,[],([]:Y Xp)),([]:Y Sx),([]:Y Sx)),eO y47],([]:Y Sx)),x44.2.1,x44.a,x44.f)))) (jn (α:=o!) (bm y1.1 15 (aJ x2.1 (aA (fk ([109],x44.2.1,x44.a,x44.f)) λy49=>(bU (((x44.c==y49.b)&&J)&&aB (aj x44.h) (aj y49.f)&&J) (aI ((!y49.1),y49.2.1,y49.a,x44.b,y49.d)))) (aI (af,x44.2))) (aI (af,x44.2))) λx48=>(aJ x48.1 (aA (bF (2,x48.a)) λy50=>(Z (oV (4,0,[109],[],([]:Y Xp),eL (0,0,[],([]:Y Xp)),[oV ((bn .i64 (10+y50.1)),0,[99],[],([]:Y Xp),eL (0,0,[],([]:Y Xp)),([]:Y Sx),([]:Y Sx))],([]:Y Sx)),x48.2.1,y50.2,x48.f))) (jn (bm y1.1 16 (aJ (!x48.2.1.b) (aJ (!x48.2.1.h) (aI ((!x48.2.1.a),x48.2)) (aI (af,x48.2))) (aI (af,x48.2))) (aI (af,x48.2))) λx51=>(aJ x51.1 (aA (fF (1,(x51.2.1.1,x51.2.1.2.1,J,x51.2.1.d),x51.a,x51.f)) λy52=>(bU (((x51.c==y52.b)&&J)&&aB (aj x51.h) (aj y52.f)&&J) (Z (oV (14,0,[102],[],([]:Y Xp),eL ((Xp.op y52.1),(Xp.n y52.1),(Xp.name y52.1),(Xp.l y52.1)),([]:Y Sx),([]:Y Sx)),y52.2)))) (jn (α:=o!) (bm y1.1 17 (aJ (!x51.2.1.b) (aA (bF (2,x51.a)) λy54=>(aI ((decide ((y54.1:Int)=1)),x51.2.1,y54.2,x51.d))) (aI (af,x51.2))) (aI (af,x51.2))) λx53=>(aJ x53.1 (Z (oV (15,0,[97],[102],([]:Y Xp),eL (0,0,[],([]:Y Xp)),([]:Y Sx),([]:Y Sx)),x53.2.1,x53.a,x53.f)) (aA (fF (1,x53.2.1,x53.a,x53.f)) λy55=>(bU (((x53.c==y55.b)&&J)&&aB (aj x53.h) (aj y55.f)&&J) (aA (j8 ([120],y55.1)) λy56=>(Z (eO y56,y55.2))))))))))))))))))))))))))))))
def nV (rmade_maker_stmts:ap9->M ag5) (rmade_maker_stmt:ag6->M al8) (rmade_maker_block:ap8->M al9) (x:ku×j?):M al9:=
 (bU (bh (aj x.f+aj ([x.1.1])) 16) (aA (bF (2,x.a)) λA=>(aA (rmade_maker_stmts ((x.1.2,(bn .i64 (1+A.1))),x.2.1,A.2,x.b,(x.f++([x.1.1])))) λz=>(bU (((x.b==x.b)&&J)&&aB (aj (x.f++([x.1.1]))) (aj (x.f++([x.1.1])))&&J) (bU (dy 0 (bn .i64 ((be z.a.2)-1))&&gE (bn .i64 ((be z.a.2)-1)) (aj z.a.2)) (Z (z.d,z.1,z.2.1,af,(dW (aM (bn .i64 ((be z.a.2)-1))) z.a.2))))))))
mutual
def dU:Nat->ap9->M ag5
 |0,_=>U
 |n+1,x=>nU (dU n) (fe n) (eK n) x
def fe:Nat->ag6->M al8
 |0,_=>U
 |n+1,x=>oY (dU n) (fe n) (eK n) x
def eK:Nat->ap8->M al9
 |0,_=>U
 |n+1,x=>nV (dU n) (fe n) (eK n) x
end
def rW (x:ν×j?):M ag5:=dU fuel x
abbrev q?:=Ho×zJ×dA×ku×iD×X7×(Y zI)×dA×Y Sx
def pP (x:η):M A!:=
 (aA (ur ()) λy1=>(aA (bF (3,x,0)) λy2=>(iter (σ:=Int×Ho×zJ×dA×iD×X7×Y zI) (λD=>(bS D.1 (bn .i64 (2+y2.1)) (kq (.str) D.b D.1 λz4=>(jn (α:=q?) (bm D.1 0 (iter (σ:=Int×q?) (λN=>(bS N.1 (bn .i64 (2+y2.1)) (kq (.str) N.b N.1 λz7=>(bU (bh (aj N.B+aj ([oV (12,0,z7,[],([]:Y Xp),eL (0,0,[],([]:Y Xp)),([]:Y Sx),([]:Y Sx))])) 176) (c7 ((cQ N.1),N.2.1,N.a,N.b,N.c,N.e,N.g,N.j,N.m,(N.B++([oV (12,0,z7,[],([]:Y Xp),eL (0,0,[],([]:Y Xp)),([]:Y Sx),([]:Y Sx))])))))) (aI (bZ N.2)))) (1,(D.1,D.2.1.2),D.a,D.b,(z4,0),D.c,D.e,D.k,[[97],[98]],([]:Y Sx))) (aI ((D.1,D.2.1.2),D.a,D.b,(z4,0),D.c,D.e,D.k,[[97],[98]],([]:Y Sx)))) λL=>(aA (bF (3,L.c)) λy8=>(aA (rW ((2,(bn .i64 (1+y8.1))),L.1,y8.2,L.e)) λy9=>(bU (((L.e.1==L.e.1)&&J)&&aB (aj L.e.2) (aj L.e.2)&&J) (bU (bh (aj L.s+aj y9.d) 176) (jn (α:=q?) (jn (α:=Bool×q?) (bm D.1 0 (aA (bF (3,y9.2.1)) λy12=>(aI ((decide ((y12.1:Int)=2)),y9.1,L.2.1,L.a,L.b,y12.2,y9.a,L.g,L.j,(L.s++y9.d)))) (aI (af,y9.1,L.2.1,L.a,L.b,y9.2.1,y9.a,L.g,L.j,(L.s++y9.d)))) λz=>(aJ z.1 (kq (.str) z.b 1 λz13=>(bU (bh (aj z.B+aj ([oV (13,0,z13,[],([]:Y Xp),eL (0,0,[],([]:Y Xp)),([]:Y Sx),([]:Y Sx))])) 176) (aI (z.2.1,z.a,z.b,z.c,z.e,z.g,z.j,z.m,(z.B++([oV (13,0,z13,[],([]:Y Xp),eL (0,0,[],([]:Y Xp)),([]:Y Sx),([]:Y Sx))])))))) (aI z.2))) λA=>(bU (bh (aj A.g+aj ([(A.b.1,A.b.2,A.p)])) 72) (c7 ((cQ D.1),A.1,A.2.1,A.a,A.c,A.e,(A.g++([(A.b.1,A.b.2,A.p)])))))))))))) (aA (aA (f_ (D.a,D.k)) λy14=>(jK y14.1 0 (aA (ur ()) λy15=>(aA (s_ 1) λy16=>(aA (j8 ([120],y16)) λy17=>(Z (y15,[([109,97,105,110],0,[[97],[98]],[eO y17])]))))) (Z (D.a,D.k)))) λr=>Z (bZ r)))) (0,(0,20,af,af,af,af),y1,[[109,97,105,110],[116,49],[116,50],[116,51]],y2.2,(J,([]:Y ζ)),([]:Y zI)))))
def An (x:η):M Fn:=
 (aA (pP x) λA=>(aA (rU A) λz=>(Z z.1)))
def xk (x:I?):M w?:=
 (aA (An x.1) λD=>(aA (tL x.2) λA=>(aA (F0 (D,A)) λz=>(Z z.1))))
def oK (x:Unit):M eC:=
 (iter (σ:=F?) (λA=>(bS A.1 (aS (aj ([[109,97,105,110],[116,49],[116,50],[116,51]]))) (iter (σ:=F?) (λz=>(bS z.1 6 (bU (bh (aj z.k+aj ([(A.1,z.1,(bn .i64 ((bn .i64 ((bn .i64 (10*A.1))+z.1))+1)))])) 24) (c7 ((cQ z.1),z.2.1,z.a,z.b,z.c,z.e,(z.k++([(A.1,z.1,(bn .i64 ((bn .i64 ((bn .i64 (10*A.1))+z.1))+1)))]))))) (aI (lJ ((cQ A.1),z.2))))) (0,A.2)) (aI A.2))) (0,[([120],0,0,af,0),([121],0,0,af,1),([118],0,0,J,0),([113],0,2,af,0),([113],1,2,af,0)],[([109],af),([110],af),([114],J)],[([99],0)],[[102]],[[109,97,105,110],[116,49],[116,50],[116,51]],([]:Y π)))
def og (x:V!):M η:=
 (iter (σ:=j!) (λz=>(bS z.1 (be x.1.d) (jn (α:=η) (bX iC x.1.d z.1 λA=>(bm A.1 3 (bU (bh (aj z.2+aj ([z.1])) 8) (aI (z.2++([z.1])))) (aI z.2))) λD=>(c7 ((cQ z.1),D))) (aI z.2))) (0,([]:η)))
def vq (x:Unit):M η:=
 (Z ([3,3,3,3,3,4,4,4,4,4,5,5,5,6,6,6,7,7,7,8,9,10,11,12,13,14,14,15,16,16,17,17,18,18,19,20,1,1,2,21,22,23,23]))
def pK (x:ν×u!):M M!:=
 (jn (bm x.1.1 3 (aI ((decide ((x.1.1:Int)=3)),x.2)) (aI ((decide ((x.1.1:Int)=4)),x.2))) λL=>(aJ L.1 (aA (bF (8,L.2)) λy2=>(kq aP ([0,0,0,1,1,2,3,4]) y2.1 λz3=>(Z (z3,y2.2)))) (jn (bm x.1.1 6 (aI ((decide ((x.1.1:Int)=6)),L.2)) (aI ((decide ((x.1.1:Int)=7)),L.2))) λA=>(aJ A.1 (aA (bF (2,A.2)) λy5=>(Z y5)) (jn (bm x.1.1 8 (aI ((decide ((x.1.1:Int)=8)),A.2)) (bm x.1.1 9 (aI ((decide ((x.1.1:Int)=9)),A.2)) (bm x.1.1 10 (aI ((decide ((x.1.1:Int)=10)),A.2)) (aI ((decide ((x.1.1:Int)=11)),A.2))))) λz=>(aJ z.1 (Z (2,z.2)) (jn (bm x.1.1 16 (aI ((decide ((x.1.1:Int)=16)),z.2)) (bm x.1.1 17 (aI ((decide ((x.1.1:Int)=17)),z.2)) (bm x.1.1 18 (aI ((decide ((x.1.1:Int)=18)),z.2)) (bm x.1.1 19 (aI ((decide ((x.1.1:Int)=19)),z.2)) (bm x.1.1 22 (aI ((decide ((x.1.1:Int)=22)),z.2)) (aI ((decide ((x.1.1:Int)=23)),z.2))))))) λD=>(aJ D.1 (Z (0,D.2)) (jn (bm x.1.1 20 (aI ((decide ((x.1.1:Int)=20)),D.2)) (aI ((decide ((x.1.1:Int)=21)),D.2))) λN=>(aJ N.1 (aA (bF (3,N.2)) λy9=>(Z ((C4 (bn .i64 ((cQ x.1.2)+y9.1)) 4),y9.2))) (Z ((-1),N.2))))))))))))
def rM (x:(j_×Int×Int)×u!):M M!:=
 (bm x.1.2.1 3 (bX aP x.1.1.2.1 x.1.2.2 λz1=>(Z (z1,x.2))) (bm x.1.2.1 23 (bX aP x.1.1.a 0 λN=>(Z (N,x.2))) (jn (bm x.1.2.1 4 (aI ((decide ((x.1.2.1:Int)=4)),x.2,x.1.1)) (aI ((decide ((x.1.2.1:Int)=22)),x.2,x.1.1))) λz=>(aJ z.1 (aA (bF (3,z.2.1)) λy4=>(Z y4)) (bm x.1.2.1 5 (aA (bF (2,z.2.1)) λy5=>(Z y5)) (bm x.1.2.1 18 (aA (og z.2.2) λA=>(bS 0 (be A) (aA (bF ((be A),z.2.1)) λD=>(bX aP A D.1 λL=>(Z (L,D.2)))) (Z ((-1),z.2.1)))) (bm x.1.2.1 19 (aA (og z.2.2) λy9=>(Z ((be y9),z.2.1))) (Z (0,z.2.1)))))))))
def iu (x:iD×η):M (η×iD×η):=
 (iter (σ:=Int×iD×Q!) (λz=>(bS z.1 (be x.2) (jn (α:=iD×Q!) (kq aP z.a z.1 λD=>(jn (α:=Bool×iD×Q!) (jY (be z.a) (bn .i64 (z.1+3)) (aA (bF (2,z.2.1)) λL=>(aI ((decide ((L.1:Int)=1)),L.2,z.2.2))) (aI (af,z.2))) λA=>(aJ A.1 (bU (bh (aj A.d+aj ([D])) 8) (aI (A.2.1,A.a,(A.d++([D]))))) (aI A.2)))) λN=>(c7 ((cQ z.1),N))) (aI (z.d,z.2.1,z.a)))) (0,x.1,x.2,([]:η)))
abbrev G!:=iD×(η)×(η)×(η)×(η)×j_×eC×Hq×Int×t?
def rN (x:(j_×oF×nJ×(Y ku)×dA×dA×Y π)×iD×(η)×f?):M (gJ×iD×(η)×f?):=
 (aA (bF (4,x.2.1)) λL=>(aA (vq ()) λy2=>(aA (bF ((be y2),L.2)) λy3=>(bX aP y2 y3.1 λz4=>(aA (bF (6,y3.2)) λy5=>(jn (α:=G!) (jn (α:=Bool×G!) (bm z4 1 (aI (J,y5.2,x.a,x.b,x.c,x.h,x.1.1,x.1.2,(0,0,0,0,0),L.1,z4,0,0,(bn .i64 ((bn .i64 (L.1*6))+y5.1)))) (aI ((decide ((z4:Int)=2)),y5.2,x.a,x.b,x.c,x.h,x.1.1,x.1.2,(0,0,0,0,0),L.1,z4,0,0,(bn .i64 ((bn .i64 (L.1*6))+y5.1))))) λN=>(aJ N.1 (aI (N.2.1,N.a,N.b,N.c,N.e,N.g,N.j,N.m,N.o,N.l,N.n,N.i,(-1))) (aI N.2))) λD=>(aA (pK ((D.o,L.1),D.1)) λy8=>(aA (rM ((D.e,D.o,y8.1),y8.2)) λy9=>(jn (α:=iD×(η)×(η)×(η)×(η)×Hq×Int×Int×Int×Int×j!) (jn (bm D.o 5 (aI (J,y9.2,D.2.1,D.a,D.b,D.c,D.j,D.m,D.o,y8.1,y9.1,D.y)) (bm D.o 3 (bX lF D.g.1 y8.1 λz12=>(aI ((gE 0 z12.2.2.1),y9.2,D.2.1,D.a,D.b,D.c,D.j,D.m,D.o,y8.1,y9.1,D.y))) (bm D.o 4 (bX lF D.g.1 y8.1 λz13=>(aI ((gE 0 z13.2.2.1),y9.2,D.2.1,D.a,D.b,D.c,D.j,D.m,D.o,y8.1,y9.1,D.y))) (aI (af,y9.2,D.2.1,D.a,D.b,D.c,D.j,D.m,D.o,y8.1,y9.1,D.y))))) λA=>(aJ A.1 (bm L.1 0 (aA (iu (A.2.1,A.a)) λy14=>(bU (aB (aj A.a) (aj y14.2.2)&&J) (aI (y14.2.1,y14.2.2,A.b,A.c,A.e,A.g,A.j,A.m,A.o,A.l,A.v,y14.1)))) (bm L.1 1 (aA (iu (A.2.1,A.b)) λy15=>(bU (aB (aj A.b) (aj y15.2.2)&&J) (aI (y15.2.1,A.a,y15.2.2,A.c,A.e,A.g,A.j,A.m,A.o,A.l,A.v,y15.1)))) (bm L.1 2 (aA (iu (A.2.1,A.c)) λy16=>(bU (aB (aj A.c) (aj y16.2.2)&&J) (aI (y16.2.1,A.a,A.b,y16.2.2,A.e,A.g,A.j,A.m,A.o,A.l,A.v,y16.1)))) (bm L.1 3 (aA (iu (A.2.1,A.e)) λy17=>(bU (aB (aj A.e) (aj y17.2.2)&&J) (aI (y17.2.1,A.a,A.b,A.c,y17.2.2,A.g,A.j,A.m,A.o,A.l,A.v,y17.1)))) U)))) (aI (A.2.1,A.a,A.b,A.c,A.e,A.g,A.j,A.m,A.o,A.l,A.v,([]:η))))) λx10=>(jn (α:=iD×(η)×(η)×(η)×(η)×Hq×b!) (jn (bm x10.j 4 (aI (J,x10)) (aI ((decide ((x10.j:Int)=22)),x10))) λz=>(aJ z.1 (bm L.1 0 (aA (iu (z.2.1,z.a)) λy20=>(bU (aB (aj z.a) (aj y20.2.2)&&J) (aI (y20.2.1,y20.2.2,z.b,z.c,z.e,z.g,z.j,z.m,z.o,z.l,z.n,z.y,y20.1)))) (bm L.1 1 (aA (iu (z.2.1,z.b)) λy21=>(bU (aB (aj z.b) (aj y21.2.2)&&J) (aI (y21.2.1,z.a,y21.2.2,z.c,z.e,z.g,z.j,z.m,z.o,z.l,z.n,z.y,y21.1)))) (bm L.1 2 (aA (iu (z.2.1,z.c)) λy22=>(bU (aB (aj z.c) (aj y22.2.2)&&J) (aI (y22.2.1,z.a,z.b,y22.2.2,z.e,z.g,z.j,z.m,z.o,z.l,z.n,z.y,y22.1)))) (bm L.1 3 (aA (iu (z.2.1,z.e)) λy23=>(bU (aB (aj z.e) (aj y23.2.2)&&J) (aI (y23.2.1,z.a,z.b,z.c,y23.2.2,z.g,z.j,z.m,z.o,z.l,z.n,z.y,y23.1)))) U)))) (aI (z.2.1,z.a,z.b,z.c,z.e,z.g,z.j,z.m,z.o,z.l,z.n,z.y,([]:η))))) λx18=>(Z (x18.k,x18.1,x18.2.1,x18.a,x18.b,x18.c))))))))))))
abbrev l?:=iD×j_×eC×(η)×f?
abbrev T?:=iD×j_×eC×(Y gJ)×(η)×f?
abbrev W?:=Bool×l?
def ua (x:(j_×eC×Int×Bool)×u!):M ((Y gJ)×u!):=
 (bU (dy 0 (be x.1.2.1.c)&&dy (be x.1.2.1.c) (be x.1.2.1.c)&&bh (aM (be x.1.2.1.c)) 24&&decide (((be x.1.2.1.c):Int)=4)) (jn (α:=l?) (bS 0 (aS 4) (jn (α:=l?) (jn (α:=W?) (aJ x.1.d (bX aP x.1.1.d 0 λz4=>(bS 1 z4 (aA (bF (3,x.2)) λy5=>(aI ((decide ((y5.1:Int)=2)),y5.2,x.1.1,x.1.2.1,([]:η),([]:η),([]:η),([]:η)))) (aI (af,x.2,x.1.1,x.1.2.1,([]:η),([]:η),([]:η),([]:η))))) (aI (af,x.2,x.1.1,x.1.2.1,([]:η),([]:η),([]:η),([]:η)))) λx3=>(aJ x3.1 (bU (bh (aj x3.c+aj ([1])) 8) (aI (x3.2.1,x3.a,x3.b,(x3.c++([1])),x3.h))) (aI x3.2))) λx2=>(bS 1 (aS 4) (jn (α:=l?) (jn (α:=W?) (aJ x.1.d (bX aP x2.2.1.d 1 λz8=>(bS 1 z8 (aA (bF (3,x2.1)) λy9=>(aI ((decide ((y9.1:Int)=2)),y9.2,x2.2))) (aI (af,x2)))) (aI (af,x2))) λx7=>(aJ x7.1 (bU (bh (aj x7.e+aj ([1])) 8) (aI (x7.2.1,x7.a,x7.b,x7.c,(x7.e++([1])),x7.k))) (aI x7.2))) λx6=>(bS 2 (aS 4) (jn (α:=l?) (jn (α:=W?) (aJ x.1.d (bX aP x6.2.1.d 2 λz12=>(bS 1 z12 (aA (bF (3,x6.1)) λy13=>(aI ((decide ((y13.1:Int)=2)),y13.2,x6.2))) (aI (af,x6)))) (aI (af,x6))) λN=>(aJ N.1 (bU (bh (aj N.g+aj ([1])) 8) (aI (N.2.1,N.a,N.b,N.c,N.e,(N.g++([1])),N.p))) (aI N.2))) λx10=>(bS 3 (aS 4) (jn (α:=l?) (jn (α:=W?) (aJ x.1.d (bX aP x10.2.1.d 3 λz16=>(bS 1 z16 (aA (bF (3,x10.1)) λy17=>(aI ((decide ((y17.1:Int)=2)),y17.2,x10.2))) (aI (af,x10)))) (aI (af,x10))) λL=>(aJ L.1 (bU (bh (aj L.p+aj ([1])) 8) (aI (L.2.1,L.a,L.b,L.c,L.e,L.g,(L.p++([1]))))) (aI L.2))) λx14=>(bS 4 (aS 4) (jn (α:=l?) (jn (α:=W?) (aJ x.1.d (bX aP x14.2.1.d 4 λz20=>(bS 1 z20 (aA (bF (3,x14.1)) λy21=>(aI ((decide ((y21.1:Int)=2)),y21.2,x14.2))) (aI (af,x14)))) (aI (af,x14))) λx19=>(aJ x19.1 U (aI x19.2))) λx18=>U) (aI x14))) (aI x10))) (aI x6))) (aI x2))) (aI (x.2,x.1.1,x.1.2.1,([]:η),([]:η),([]:η),([]:η)))) λx1=>(iter (σ:=T?) (λx22=>(jn (bS (be x22.b) x.1.a (aI ((gE x22.1.2 (be x22.1.1)),x22)) (aI (af,x22))) λA=>(aJ A.1 (jn (α:=T?) (aA (rN ((A.a,A.b),A.2.1,A.h)) λD=>(bU (aB (aj A.s) (aj D.h)&&(aB (aj A.j) (aj D.c)&&(aB (aj A.g) (aj D.b)&&(aB (aj A.e) (aj D.a)&&J)))) (aA (sY (A.b,A.a,D.1)) λy26=>(aJ (!y26.2) (aI (D.2.1,A.a,A.b,A.c,D.2.2)) (jn (α:=iD×j_×eC×(Y gJ)×gJ×j_×(η)×f?) (jn (bm D.1.2.1 3 (aI (J,D.2.1,A.a,A.b,A.c,D.1,y26.1,D.2.2)) (aI ((decide ((D.1.2.1:Int)=23)),D.2.1,A.a,A.b,A.c,D.1,y26.1,D.2.2))) λz=>(aJ z.1 (bm z.e.1 0 (bX aP z.a.d 0 λz29=>(bU (bh (aj z.j+aj ([z29])) 8) (aI (z.2.1,z.a,z.b,z.c,(0,z.e.2),z.g,(z.j++([z29])),z.s)))) (bm z.e.1 1 (bX aP z.a.d 1 λz30=>(bU (bh (aj z.m+aj ([z30])) 8) (aI (z.2.1,z.a,z.b,z.c,(1,z.e.2),z.g,z.j,(z.m++([z30])),z.B)))) (bm z.e.1 2 (bX aP z.a.d 2 λz31=>(bU (bh (aj z.o+aj ([z31])) 8) (aI (z.2.1,z.a,z.b,z.c,(2,z.e.2),z.g,z.j,z.m,(z.o++([z31])),z.w)))) (bm z.e.1 3 (bX aP z.a.d 3 λz32=>(bU (bh (aj z.w+aj ([z32])) 8) (aI (z.2.1,z.a,z.b,z.c,(3,z.e.2),z.g,z.j,z.m,z.o,(z.w++([z32])))))) U)))) (aI z.2))) λx27=>(bU (bh (aj x27.b+aj ([x27.c])) 88) (aI (x27.1,x27.e,x27.a,(x27.b++([x27.c])),x27.k)))))))) λx24=>(c7 x24)) (aI (A.c,A.2.1))))) (x1.1,x1.2.1,x1.a,([]:Y gJ),x1.d))))
abbrev Y?:=iD×eC×j_×(Y gJ)×Y gJ
def rO (x:n?):M w?:=
 (jn (bS 600 (be x.1) (bU (dy 0 600&&dy 600 (aj x.1)) (aI (dW (aM 600) x.1))) (aI x.1)) λx1=>(aA (oK ()) λy2=>(aA (ol y2) λy3=>(aA (bF (3,x1,0)) λy4=>(iter (σ:=Int×iD×eC×j_×Y gJ) (λA=>(jY A.1 (bn .i64 (1+y4.1)) (bU (bh (aj A.f+aj ([(0,20,A.1,0,0,([]:η),([]:η)),(A.1,1,(-1),0,(-1),([]:η),([]:η))])) 88) (c7 ((cQ A.1),A.2.1,A.a,A.b,(A.f++([(0,20,A.1,0,0,([]:η),([]:η)),(A.1,1,(-1),0,(-1),([]:η),([]:η))]))))) (aA (iter (σ:=Int×Y?) (λz=>(bS z.1 (be A.f) (jn (α:=Y?) (kq gz z.c z.1 λL=>(aA (sY (z.a,z.b,L)) λy9=>(aJ y9.2 (bU (bh (aj z.h+aj ([L])) 88) (aI (z.2.1,z.a,y9.1,z.c,(z.h++([L]))))) (aI z.2)))) λx7=>(c7 ((cQ z.1),x7))) (aA (aA (ua ((z.b,z.a,(Kz (lX x.2 0) 60),af),z.2.1)) λD=>(bU (bh (aj z.h+aj D.1) 88) (aA (v7 (z.a,(z.h++D.1))) λy11=>(jK y11.2 0 (aA (oK ()) λN=>(Z (N,([]:Y gJ)))) (Z (z.a,(z.h++D.1))))))) λr=>Z (bZ r)))) (0,A.2.1,A.a,A.b,A.f,([]:Y gJ))) λr=>Z (bZ r)))) (1,y4.2,y2,y3,[(0,1,(-1),0,(-1),([]:η),([]:η))]))))))
def oL (x:(η×(η)×η)×Int):M w?:=
 (bS 0 (be x.1.2.2) (aA (rO (x.1.2.2,x.2)) λA=>(Z A)) (bU (dy 0 (Kz (be x.1.2.1) x.2)&&dy (Kz (be x.1.2.1) x.2) (aj x.1.2.1)) (aA (xk (x.1.1,(dW (aM (Kz (be x.1.2.1) x.2)) x.1.2.1))) λz=>(Z z))))
def Ok (o:M R) (Q:R->Prop):Prop:=∃y,o=Z y/\Q y
def Ok.mono {o:M R} {Q Q':R->Prop} (h:Ok o Q) (z:∀y,Q y->Q' y):Ok o Q':=by let⟨y,h1,A⟩:=h;exact⟨y,h1,z y A⟩
def ak {y:R} {Q:R->Prop} (h:Q y):Ok (Z y) Q:=⟨y,rfl,h⟩
def awr {o:M R} {y:R} {Q:R->Prop} (e:o=Z y) (h:Q y):Ok o Q:=⟨y,e,h⟩
def bl {k:M R} {Q:R->Prop} (h:b=J) (z:Ok k Q):Ok (chk b λ_=>k) Q:=by subst h;exact z
def aQ {t f:M R} {Q:R->Prop} (ht:b=J->Ok t Q) (hf:b=af->Ok f Q):Ok (aJ b t f) Q:=by
 cases b with
 |true=>exact ht rfl
 |false=>exact hf rfl
def qP {t f:M R} {Q:R->Prop} (h:b=J) (ht:Ok t Q):Ok (aJ b t f) Q:=by subst h;exact ht
def jO {t f:M R} {Q:R->Prop} (h:b=af) (hf:Ok f Q):Ok (aJ b t f) Q:=by subst h;exact hf
def aw {α:Type} {o:M α} {k:α->M R} {P:α->Prop} {Q:R->Prop} (h:Ok o P) (A:∀x,P x->Ok (k x) Q):Ok (aA o k) Q:=by
 obtain⟨x,rfl,z⟩:=h;exact A x z
def aZ {α:Type} {o:M α} {k:α->M R} {x:α} {Q:R->Prop} (h:o=Z x) (z:Ok (k x) Q):Ok (aA o k) Q:=by subst h;exact z
def aU {α:Type} {x:α} {k:α->M R} {Q:R->Prop} (h:Ok (k x) Q):Ok (lt x k) Q:=h
def aV {α:Type} {o:M (R⊕α)} {k:α->M R} {Q:R->Prop} (P:α->Prop) (h:Ok o λr=>match r with|.inl r=>Q r|.inr x=>P x) (A:∀x,P x->Ok (k x) Q):Ok (jn o k) Q:=by
 obtain⟨r,rfl,z⟩:=h;cases r with
 |inl r=>exact⟨r,rfl,z⟩
 |inr x=>exact A x z
def gQ {α:Type} {o:M (R⊕α)} {k:α->M R} {Q:R->Prop} (h:Ok o λr=>match r with|.inl r=>Q r|.inr x=>Ok (k x) Q):Ok (jn o k) Q:=aV (λx=>Ok (k x) Q) h λ_ h=>h
def an5 {α:Type} {a b:α} {r:M R} {Q:R->Prop} (e:a=b) (h:Ok r Q):Ok (same a b r) Q:=by unfold same;rw[aE e];exact h
def pX {σ:Type} {f:σ->M (σ⊕R)} {Q:R->Prop} (μ:σ->Nat) (I:σ->Prop) (h:∀x,I x->Ok (f x) λr=>match r with|.inl y=>I y/\μ y<μ x|.inr r=>Q r) {x:σ} (A:I x):Ok (iter f x) Q:=by
 have key:∀n x,μ x<n->I x->∃m r,iterN f m x=Z r/\Q r:=by
  intro n;induction n with
  |zero=>intro x hm;omega
  |succ n D=>
   intro x hm A;let⟨r,h1,z⟩:=h x A;cases r with
   |inl y=>
    let⟨m,r,N,L⟩:=D y (by omega) z.1;exact⟨m+1,r,by rw[iterN,h1];exact N,L⟩
   |inr r=>exact⟨1,r,by rw[iterN,h1],z⟩
 let⟨m,r,h1,z⟩:=key (μ x+1) x (nZ _) A;exact⟨r,B7 h1,z⟩
def bV {σ:Type} {f:σ->M (σ⊕R)} {Q:R->Prop} (n:Nat) (I:Nat->σ->Prop) (h0:∀i x,i<n->I i x->Ok (f x) λr=>match r with|.inl y=>I (i+1) y|.inr r=>Q r) (h1:∀x,I n x->Ok (f x) λr=>match r with|.inl _=>False|.inr r=>Q r) {x:σ} (D:I 0 x):Ok (iter f x) Q:=by
 have key:∀m i x,i+m=n->I i x->∃k r,iterN f k x=Z r/\Q r:=by
  intro m;induction m with
  |zero=>
   intro i x hi D;have:i=n:=by omega
   subst this;let⟨r,A,z⟩:=h1 x D;cases r with
   |inl y=>exact z.elim
   |inr r=>exact⟨1,r,by rw[iterN,A],z⟩
  |succ m L=>
   intro i x hi D;let⟨r,A,z⟩:=h0 i x (by omega) D;cases r with
   |inl y=>
    let⟨k,r,g3,N⟩:=L (i+1) y (by omega) z;exact⟨k+1,r,by rw[iterN,A];exact g3,N⟩
   |inr r=>exact⟨1,r,by rw[iterN,A],z⟩
 let⟨m,r,A,z⟩:=key n 0 x (by omega) D;exact⟨r,B7 A,z⟩
def itQ {σ:Type} (f:σ->M (σ⊕R)) (Q:R->Prop):σ⊕R->Prop
 |.inl y=>Ok (iter f y) Q
 |.inr r=>Q r
def jnQ {α:Type} (k:α->M R) (Q:R->Prop):R⊕α->Prop
 |.inl r=>Q r
 |.inr x=>Ok (k x) Q
def an4 {σ:Type} {f:σ->M (σ⊕R)} {x:σ} {Q:R->Prop} (h:Ok (f x) (itQ f Q)):Ok (iter f x) Q:=by
 let⟨r,h1,D⟩:=h;cases r with
 |inr r=>exact⟨r,B7 (n:=1) (by rw[iterN,h1]),D⟩
 |inl y=>
  let⟨z,A,L⟩:=D;unfold iter at A;split at A
  .exact⟨z,B7 (n:=_+1) (by rw[iterN,h1];exact A),L⟩
  .cases A
def abl {σ:Type} {f:σ->M (σ⊕R)} {y:σ} {Q:R->Prop} (h:Ok (iter f y) Q):Ok (Z (.inl y)) (itQ f Q):=⟨_,rfl,h⟩
def abk {σ:Type} {f:σ->M (σ⊕R)} {r:R} {Q:R->Prop} (h:Ok (Z r) Q):Ok (Z (.inr r)) (itQ f Q):=by
 let⟨_,h1,z⟩:=h;cases h1;exact⟨_,rfl,z⟩
def abi {α:Type} {o:M (R⊕α)} {k:α->M R} {Q:R->Prop} (h:Ok o (jnQ k Q)):Ok (jn o k) Q:=by
 obtain⟨r,rfl,z⟩:=h;cases r with
 |inl r=>exact⟨r,rfl,z⟩
 |inr x=>exact z
def abj {α:Type} {r:R} {k:α->M R} {Q:R->Prop} (h:Ok (Z r) Q):Ok (Z (.inl r)) (jnQ k Q):=by
 let⟨_,h1,z⟩:=h;cases h1;exact⟨_,rfl,z⟩
def abh {α:Type} {x:α} {k:α->M R} {Q:R->Prop} (h:Ok (k x) Q):Ok (Z (.inr x)) (jnQ k Q):=⟨_,rfl,h⟩
def oQ {α:Type} (k:α->M R) (Q:R->Prop) (x:α):Prop:=Ok (k x) Q
def Rl {α:Type} {o:M α} {k:α->M R} {Q:R->Prop} (h:Ok o (oQ k Q)):Ok (aA o k) Q:=aw h λ_ h=>h
def Vq {α:Type} {x:α} {k:α->M R} {Q:R->Prop} (h:Ok (k x) Q):Ok (Z x) (oQ k Q):=⟨_,rfl,h⟩
variable {a:Int}
def LC :dK a i=J↔0<=a/\a<i:=by simp[dK,dy,gE]
def LD {b:Int}:dy a b=J↔a<=b:=by simp[dy]
def rZ {b:Int}:gE a b=J↔a<b:=by simp[gE]
def ja {b:Int}:gE a b=af↔b<=a:=by simp[gE]
def m7 {b:Int}:dy a b=af↔b<a:=by simp[dy]
def ae7 :bh i j=J↔i<=1099511627776/\i*j<=1099511627776:=by simp[bh]
def cI {o:M R} {v:R} (h:Ok o (·=v)):o=Z v:=by let⟨y,h1,z⟩:=h;rw[h1,z]
section steps
variable {R:Type} {k t f:M R} {Q:R->Prop}
def aR (h0:0<=a) (h1:a<i) (z:Ok k Q):Ok (chk (dK a i) λ_=>k) Q:=bl (LC.2 ⟨h0,h1⟩) z
def bG (h0:i<=1073741824) (h1:j<=1024) (z:Ok k Q):Ok (chk (bh i j) λ_=>k) Q:=
 bl (ae7.2 ⟨by omega,dc (Nat.mul_le_mul h0 h1) (by omega)⟩) z
def a! {i j:Nat} (d:Ok k Q) (h:i<=1073741824:=by first|omega|(simp;omega)|(dsimp only;omega)) (g:j<=1024:=by omega):Ok (chk (bh i j) λ_=>k) Q:=bG h g d
def cF {a:Bool} (h:Ok (chk a λ_=>chk b λ_=>k) Q):Ok (chk (a&&b) λ_=>k) Q:=by
 cases a with
 |true=>exact h
 |false=>let⟨y,h,_⟩:=h;cases h
def dj {b:Int} (h:a<=b) (z:Ok k Q):Ok (chk (dy a b) λ_=>k) Q:=bl (LD.2 h) z
def a? {a b:Int} (d:Ok k Q) (h:a<=b:=by first|omega|(simp;omega)|(dsimp only;omega)):Ok (chk (dy a b) λ_=>k) Q:=dj h d
def C' {b:Int} (h:a<b) (z:Ok k Q):Ok (chk (gE a b) λ_=>k) Q:=bl (rZ.2 h) z
def abm {p:Prop} {i:Decidable p} (h:p) (z:Ok k Q):Ok (chk (decide p) λ_=>k) Q:=bl (bc h) z
def BU {p:Prop} {i:Decidable p} (h:¬p) (z:Ok k Q):Ok (chk (!decide p) λ_=>k) Q:=bl (by simp[h]) z
def jF (h:i=j) (z:Ok k Q):Ok (chk (aB i j) λ_=>k) Q:=bl (by subst h;exact gr i) z
def vU (z:Ok k Q):Ok (chk J λ_=>k) Q:=z
def bP {b:Int} (ht:a<b->Ok t Q) (hf:b<=a->Ok f Q):Ok (aJ (gE a b) t f) Q:=aQ (λh=>ht (rZ.1 h)) (λh=>hf (ja.1 h))
def d_ {b:Int} (ht:a<=b->Ok t Q) (hf:b<a->Ok f Q):Ok (aJ (dy a b) t f) Q:=aQ (λh=>ht (LD.1 h)) (λh=>hf (m7.1 h))
def aK {p:Prop} {i:Decidable p} (ht:p->Ok t Q) (hf:¬p->Ok f Q):Ok (aJ (decide p) t f) Q:=aQ (λh=>ht (bL h)) (λh=>hf (Yt h))
def cq {p:Prop} {i:Decidable p} (ht:¬p->Ok t Q) (hf:p->Ok f Q):Ok (aJ (!decide p) t f) Q:=aQ (λh=>ht (by simpa using h)) (λh=>hf (by simpa using h))
def eu (ht:b=af->Ok t Q) (hf:b=J->Ok f Q):Ok (aJ (!b) t f) Q:=aQ (λh=>ht (by simpa using h)) (λh=>hf (by simpa using h))
def FP (ht:Ok t Q):Ok (aJ J t f) Q:=ht
def jP (hf:Ok f Q):Ok (aJ af t f) Q:=hf
def bH (z:Ok k Q) (h0:0<=a:=by first|omega|(dsimp only;omega)) (h1:a<i:=by first|omega|(dsimp only;omega)):Ok (chk (dK a i) λ_=>k) Q:=aR h0 h1 z
def cW {b:Int} (ht:Ok t Q) (h:a<b:=by first|omega|(dsimp only[ay];omega)):Ok (aJ (gE a b) t f) Q:=bP (λ_=>ht) λg=>bA h (AU.2 g)
def cP {b:Int} (hf:Ok f Q) (h:b<=a:=by first|omega|(dsimp only[ay];omega)):Ok (aJ (gE a b) t f) Q:=bP (λg=>bA g (AU.2 h)) λ_=>hf
end steps
def tZ:(∀(p:Prop) [Decidable p],(decide p=J)=p)/\(∀p:Prop,(True\/p)=True)/\(∀p:Prop,(p\/True)=True)/\(∀p:Prop,(True->p)=p)/\(∀p:Prop,(True/\p)=p)/\∀p:Prop,(p/\True)=p:=⟨λ_=>bR,true_or,or_true,λ_=>true_implies _,true_and,and_true⟩
def Rc:(∀i:Decidable True,@decide True i=J)/\(∀i:Decidable False,@decide False i=af)/\(∀{R:Type} (t f:M R),aJ J t f=t)/\(∀{R:Type} (t f:M R),aJ af t f=f)/\(∀{α R:Type} (x:α) (k:α->M R),jn (Z (.inr x)) k=k x)/\(∀{α R:Type} (r:R) (k:α->M R),jn (Z (.inl r)) k=Z r)/\(∀{α R:Type} (x:α) (k:α->M R),aA (Z x) k=k x)/\(∀{α R:Type} (x:α) (k:α->M R),lt x k=k x)/\(!J)=af/\(!af)=J:=⟨decide_true,decide_false,λ_ _=>rfl,λ_ _=>rfl,λ_ _=>rfl,λ_ _=>rfl,λ_ _=>rfl,λ_ _=>rfl,rfl,rfl⟩
structure IM (p q:Prop):Prop where
 h:p->q
inductive OS {R:Type}:Option R->(R->Prop)->Prop where
 |cand {a b:Bool} {k:Option R} {Q:R->Prop} (h:Ok (chk a λ_=>chk b λ_=>k) Q):OS (chk (a&&b) λ_=>k) Q
 |dK {j:Int} {n:Nat} {k:Option R} {Q:R->Prop} (h0:0<=j) (h1:j<n) (hk:Ok k Q):OS (chk (dK j n) λ_=>k) Q
 |room {n b:Nat} {k:Option R} {Q:R->Prop} (h0:n<=1073741824) (h1:b<=1024) (hk:Ok k Q):OS (chk (bh n b) λ_=>k) Q
 |cile {a b:Int} {k:Option R} {Q:R->Prop} (h:a<=b) (hk:Ok k Q):OS (chk (dy a b) λ_=>k) Q
 |cilt {a b:Int} {k:Option R} {Q:R->Prop} (h:a<b) (hk:Ok k Q):OS (chk (gE a b) λ_=>k) Q
 |cdec {p:Prop} {i:Decidable p} {k:Option R} {Q:R->Prop} (h:p) (hk:Ok k Q):OS (chk (decide p) λ_=>k) Q
 |cndec {p:Prop} {i:Decidable p} {k:Option R} {Q:R->Prop} (h:¬p) (hk:Ok k Q):OS (chk (!decide p) λ_=>k) Q
 |cbeq {a b:Nat} {k:Option R} {Q:R->Prop} (h:a=b) (hk:Ok k Q):OS (chk (aB a b) λ_=>k) Q
 |cT {k:Option R} {Q:R->Prop} (hk:Ok k Q):OS (chk J λ_=>k) Q
 |lt {α:Type} {x:α} {k:α->Option R} {Q:R->Prop} (h:Ok (k x) Q):OS (lt x k) Q
 |b1 {t f:Option R} {Q:R->Prop} (h:Ok t Q):OS (aJ J t f) Q
 |b0 {t f:Option R} {Q:R->Prop} (h:Ok f Q):OS (aJ af t f) Q
 |gE {a b:Int} {t f:Option R} {Q:R->Prop} (ht:IM (a<b) (Ok t Q)) (hf:IM (b<=a) (Ok f Q)):OS (aJ (gE a b) t f) Q
 |dy {a b:Int} {t f:Option R} {Q:R->Prop} (ht:IM (a<=b) (Ok t Q)) (hf:IM (b<a) (Ok f Q)):OS (aJ (dy a b) t f) Q
 |dec {p:Prop} {i:Decidable p} {t f:Option R} {Q:R->Prop} (ht:IM p (Ok t Q)) (hf:IM (¬p) (Ok f Q)):OS (aJ (decide p) t f) Q
 |ndec {p:Prop} {i:Decidable p} {t f:Option R} {Q:R->Prop} (ht:IM (¬p) (Ok t Q)) (hf:IM p (Ok f Q)):OS (aJ (!decide p) t f) Q
 |not {b:Bool} {t f:Option R} {Q:R->Prop} (ht:IM (b=af) (Ok t Q)) (hf:IM (b=J) (Ok f Q)):OS (aJ (!b) t f) Q
 |aJ {b:Bool} {t f:Option R} {Q:R->Prop} (ht:IM (b=J) (Ok t Q)) (hf:IM (b=af) (Ok f Q)):OS (aJ b t f) Q
 |jc {α:Type} {o:Option (R⊕α)} {k:α->Option R} {Q:R->Prop} (h:Ok o λr=>match r with|.inl r=>Q r|.inr x=>Ok (k x) Q):OS (jn o k) Q
 |some {y:R} {Q:R->Prop} (h:Q y):OS (Z y) Q
def OS.ok {o:M R} {Q:R->Prop} (h:OS o Q):Ok o Q:=by
 cases h with
 |cand h=>exact cF h
 |dK a b h=>exact aR a b h
 |room a b h=>exact bG a b h
 |cile a h=>exact dj a h
 |cilt a h=>exact C' a h
 |cdec a h=>exact abm a h
 |cndec a h=>exact BU a h
 |cbeq a h=>exact jF a h
 |cT h|lt h|b1 h|b0 h=>exact h
 |gE a b=>exact bP a.h b.h
 |dy a b=>exact d_ a.h b.h
 |dec a b=>exact aK a.h b.h
 |ndec a b=>exact cq a.h b.h
 |not a b=>exact eu a.h b.h
 |aJ a b=>exact aQ a.h b.h
 |jc h=>
  let⟨r,e,h⟩:=h;exact gQ ⟨r,e,by cases r<;>exact h⟩
 |some h=>exact ak h
def bcT (t f:M R):aJ J t f=t:=rfl
def bcF (t f:M R):aJ af t f=f:=rfl
def jnr {α:Type} (x:α) (k:α->M R):jn (Z (.inr x)) k=k x:=rfl
def obs {α:Type} (x:α) (k:α->M R):aA (Z x) k=k x:=rfl
inductive Ld:Int->Prop where
 |k1:Ld 1
 |k2:Ld 2
 |k3:Ld 3
 |k4:Ld 4
 |k5:Ld 5
 |k6:Ld 6
 |k7:Ld 7
 |k8:Ld 8
 |k9:Ld 9
 |k10:Ld 10
 |k11:Ld 11
 |k12:Ld 12
 |k13:Ld 13
 |k14:Ld 14
 |k15:Ld 15
 |k16:Ld 16
 |k17:Ld 17
 |k18:Ld 18
 |k19:Ld 19
 |k20:Ld 20
 |k21:Ld 21
 |k22:Ld 22
 |k23:Ld 23
 |no {k:Int} (h:¬k=1/\¬k=2/\¬k=3/\¬k=4/\¬k=5/\¬k=6/\¬k=7/\¬k=8/\¬k=9/\¬k=10/\¬k=11/\¬k=12/\¬k=13/\¬k=14/\¬k=15/\¬k=16/\¬k=17/\¬k=18/\¬k=19/\¬k=20/\¬k=21/\¬k=22/\¬k=23) (h2:k<1\/23<k):Ld k
def kdI (k:Int):Ld k:=by
 by_cases h:k<1\/23<k
 .exact .no (by omega) h
 .have:k=1\/k=2\/k=3\/k=4\/k=5\/k=6\/k=7\/k=8\/k=9\/k=10\/k=11\/k=12\/k=13\/k=14\/k=15\/k=16\/k=17\/k=18\/k=19\/k=20\/k=21\/k=22\/k=23:=by omega
  repeat' (rcases this with rfl|this)
  all_goals first|(subst this;constructor)|constructor
def iI {n:Int} (h0: -9223372036854775808<=n:=by omega) (h1:n<=9223372036854775807:=by omega):bn .i64 n=n:=by
 rw[Lm];unfold Q3;simp[dy,h0,h1]
def fV (h:i<9223372036854775807:=by omega):bn .i64 ((i:Int)+1)=((i+1:Nat):Int):=by rw[iI];omega
variable {T:Ty}
def wT (xs:Y T.den) (i:Nat):geti _ xs (i:Int)=xs.getD i T.zero:=by unfold geti;simp
def vB (xs:η) (i:Nat):geti aP xs (i:Int)=xs.getD i 0:=wT (T:=aP) xs i
def bI {xs:Y T.den} {j:Int} (h0:0<=j) (h1:j<l! xs):geti _ xs j∈xs:=by
 unfold geti;rw[aF,aH (by omega)];exact List.getElem_mem _
def bW (xs:Y R) (j:Int) (x:R):l! (cC xs j x)=l! xs:=by unfold cC;simp
def Fw {xs:Y R} {x y:R} (h:y∈cC xs a x):y∈xs\/y=x:=List.mem_or_eq_of_mem_set h
def g9 {σ:Type} {f:σ->M (σ⊕R)} {Q:R->Prop} (n:Nat) (hn:n<=1000000) (I:Nat->σ->Prop) (h0:∀i x,i<n->I i x->Ok (f x) λr=>match r with|.inl y=>I (i+1) y|.inr r=>Q r) (h1:∀x,I n x->Ok (f x) λr=>match r with|.inl _=>False|.inr r=>Q r) {x:σ} (D:I 0 x):Ok (hX f x) Q:=by
 have key:∀m i x,i+m=n->I i x->∃r,iterN f (m+1) x=Z r/\Q r:=by
  intro m;induction m with
  |zero=>
   intro i x hi D;have:i=n:=by omega
   subst this;let⟨r,A,z⟩:=h1 x D;cases r with
   |inl y=>exact z.elim
   |inr r=>exact⟨r,by rw[iterN,A],z⟩
  |succ m L=>
   intro i x hi D;let⟨r,A,z⟩:=h0 i x (by omega) D;cases r with
   |inl y=>
    let⟨r,g3,N⟩:=L (i+1) y (by omega) z;exact⟨r,by rw[iterN,A];exact g3,N⟩
   |inr r=>exact⟨r,yQ (n:=1) (by rw[iterN,A]) (by omega),z⟩
 let⟨r,A,z⟩:=key n 0 x (by omega) D;exact⟨r,yQ A (by omega),z⟩
def aim {σ:Type} {f:σ->M (σ⊕R)} {Q:R->Prop} (n:Nat) (μ:σ->Nat) (I:σ->Prop) (h:∀x,I x->Ok (f x) λr=>match r with|.inl y=>I y/\μ y<μ x|.inr r=>Q r) {x:σ} (L:μ x<=n/\n<=1000000) (A:I x):Ok (hX f x) Q:=by
 have key:∀n x,μ x<n->I x->∃r,iterN f n x=Z r/\Q r:=by
  intro n;induction n with
  |zero=>intro x hm;omega
  |succ n D=>
   intro x hm A;let⟨r,h1,z⟩:=h x A;cases r with
   |inl y=>
    let⟨r,h3,N⟩:=D y (by omega) z.1;exact⟨r,by rw[iterN,h1];exact h3,N⟩
   |inr r=>exact⟨r,by rw[iterN,h1],z⟩
 let⟨r,h1,z⟩:=key (n+1) x (Nat.lt_succ_of_le L.1) A;exact⟨r,yQ h1 (by omega),z⟩
abbrev WT:Type:=Y (ζ×Int×Int×Bool×Int)×Y (ζ×Bool)×Y (ζ×Int)×Y ζ×Y ζ×Y π
abbrev J?:=Y (Int×η)×Int×θ×Y (Int×Int×Bool)
abbrev SY:Type:=J?
def ajj (a b:Int):rT (a,b)=Z (decide (0<=a/\a<b)):=by
 refine cI ?_;unfold rT jY aI;with_reducible repeat' first|apply OS.ok;constructor|refine IM.mk λ_=>?_
 .by_cases h:a<b<;>simp[*,gE]
 .simp;omega
def aar (l:η) (n:Int) (L:l! l<=1000000):uo (l,n)=Z (l.contains n):=by
 refine cI ?_;refine bV (l! l) (λi x=>x=(i:Int)/\∀k,k<i->l.getD k 0≠n) ?_ ?_ ⟨rfl,λk z=>by omega⟩
 .rintro i x hi ⟨rfl,D⟩;with_reducible repeat' first|apply OS.ok;constructor|refine IM.mk λ_=>?_
  all_goals try simp only[ay,tZ] at*
  .omega
  .omega
  .rename_i h;rw[vB]at h
   grind
  .rename_i h;rw[vB]at h;refine ⟨fV,λk z=>?_⟩
   grind
  .omega
 .rintro x ⟨rfl,D⟩;with_reducible repeat' first|apply OS.ok;constructor|refine IM.mk λ_=>?_
  all_goals try simp only[ay,tZ] at*
  .omega
  .omega
  .omega
  .omega
  .symm
   rw[Sl];intro A;rw[EI]at A;let⟨k,z,he⟩:=List.getElem_of_mem A
   grind
def iQ {xs:Y T.den} {p:T.den->Prop} (h:∀k:Nat,k<aj xs->p (geti _ xs (k:Int))):∀c∈xs,p c:=λc A=>by
 let⟨k,z,he⟩:=List.getElem_of_mem A;have:=h k z;rw[wT,aF,aH z,Option.getD_some,he]at this;exact this
def UG (w:WT) (s:SY) (hw:l! w.2.2.1<=1000000):Ok (s5 (w,s)) λb=>b=J->(∀c∈w.2.2.1,0<=c.2/\c.2<l! w.2.1)/\l! s.1=l! w.2.1/\l! s.2.2.1=l! w.2.2.2.1/\l! s.2.2.2=l! w.2.2.2.2.1:=by
 unfold s5 bk bD bQ eh bm bS bX be c7 aI cQ;refine bV (l! w.2.2.1) (λi x=>x.1=(i:Int)/\x.2=(w,s)/\∀k:Nat,k<i->0<=(geti itK w.2.2.1 (k:Int)).2/\(geti itK w.2.2.1 (k:Int)).2<l! w.2.1) ?_ ?_ ⟨rfl,rfl,λk hk=>by omega⟩
 .rintro i ⟨N,L⟩ hi ⟨A,z,D⟩;subst A z;with_reducible repeat' first|apply OS.ok;constructor|refine IM.mk λ_=>?_
  all_goals try simp only[ay,tZ] at*
  all_goals first|omega|skip
  .intro h;cases h
  .intro h;cases h
  .refine ⟨fV,λk hk=>?_⟩
   grind
 .rintro⟨N,L⟩ ⟨A,z,D⟩;subst A z;with_reducible repeat' first|apply OS.ok;constructor|refine IM.mk λ_=>?_
  all_goals try simp only[ay,tZ] at*
  all_goals first|omega|skip
  refine aw (P:=λb=>b=J->l! s.1=l! w.2.1/\l! s.2.2.1=l! w.2.2.2.1/\l! s.2.2.2=l! w.2.2.2.2.1) ?_ ?_
  .with_reducible repeat' first|apply OS.ok;constructor|refine IM.mk λ_=>?_
   all_goals try simp only[ay,tZ] at*
   .omega
   .intro h;cases h
   .intro h;cases h
  .intro b hb;with_reducible repeat' first|apply OS.ok;constructor|refine IM.mk λ_=>?_
   exact λh=>⟨iQ (T:=itK) D,hb h⟩
structure NM (w:WT) (k o:Int):Prop where
 k1:1<=k
 k2:k<=23
 ce:k=3\/k=4->0<=o/\o<l! w.1
 lk:6<=k/\k<=11->0<=o/\o<l! w.2.1
 cd:16<=k/\k<=19->0<=o/\o<l! w.2.2.1
 th:k=20\/k=21->0<=o/\o<l! w.2.2.2.2.1
 fu:k=22\/k=23->0<=o/\o<l! w.2.2.2.1
 no:k=1\/k=2\/k=5\/(12<=k/\k<=15)->o= -1
 mu:k=6\/k=7->(geti tC w.2.1 o).2=af
 rw:8<=k/\k<=11->(geti tC w.2.1 o).2=J
def ais (w:WT) (k o:Int):Ok (v9 (w,k,o)) λb=>b=J->NM w k o:=by
 unfold v9 bk bD bQ cS bm bX be aI;cases kdI k
 case no z _=>
  simp[z,c8,ep,Rc];exact ak nofun
 all_goals simp only[c8,ep,Rc,ajj]
 all_goals with_reducible repeat' first|apply OS.ok;constructor|refine IM.mk λ_=>?_
 all_goals try simp only[ay,tZ] at*
 all_goals first|omega|(intro h;cases h;done)|(intro h;constructor<;>first|omega|(intro A;first|omega|(simpa using h)))
structure SB (n:Nat) (s:SY):Prop where
 n1:n<=100000
 lk:l! s.1<=1000
 rd:∀l∈s.1,l! l.2<=n
 dn:l! s.2.2.1<=1000
 th:l! s.2.2.2<=1000
structure EN (w:WT) (s:SY) (t k o:Int):Prop where
 nm:NM w k o
 t0:0<=t
 t1:t<l! w.2.2.2.2.1
 cd:∀c∈w.2.2.1,0<=c.2/\c.2<l! w.2.1
 e1:l! s.1=l! w.2.1
 e2:l! s.2.2.1=l! w.2.2.2.1
 e3:l! s.2.2.2=l! w.2.2.2.2.1
structure UK (w:WT) (s:SY) (t k o:Int):Prop where
 b:k=1->(geti iC s.2.2.2 t).1=1
 wk:k=17->(geti iC s.2.2.2 t).1=4/\(geti iC s.2.2.2 t).2.1=o/\(geti ec s.1 (geti itK w.2.2.1 o).2).1= -1
 r:k≠1->k≠17->(geti iC s.2.2.2 t).1=2
 aq:k=6\/k=8\/k=10->(geti ec s.1 o).1= -1
 wr:k=10->(geti ec s.1 o).2.length=0
 ra:k=8->(geti ec s.1 o).2.contains t=af
 rl:k=7\/k=11->(geti ec s.1 o).1=t
 rr:k=9->(geti ec s.1 o).2.contains t=J
 xb:k=12->s.2.1= -1
 xe:k=13->s.2.1=t
 ab:k=14->(geti iC s.2.2.2 t).2.2=af
 ae:k=15->(geti iC s.2.2.2 t).2.2=J
 nt:k=16\/k=18\/k=19->(geti ec s.1 (geti itK w.2.2.1 o).2).1=t
 sp:k=20->¬o=t/\(geti iC s.2.2.2 o).1=0
 jo:k=21->¬o=t/\(geti iC s.2.2.2 o).1=5
 se:k=22->geti (.bool) s.2.2.1 o=af
 ge:k=23->geti (.bool) s.2.2.1 o=J
def Pc (w:WT) (s:SY) (D:SB i s) (hw:l! w.2.2.1<=1000) (t k o:Int):Ok (lq (w,s,t,k,o)) λb=>b=J->EN w s t k o/\UK w s t k o:=by
 unfold lq bk bD bQ db dZ eh bm jK bX be aI;refine aV (λx=>x.2=(w,s)/\(x.1=af->EN w s t k o)) ?_ ?_
 .refine aw (UG w s (by omega)) λb N=>?_
  with_reducible repeat' first|apply OS.ok;constructor|refine IM.mk λ_=>?_
  .exact⟨rfl,nofun⟩
  .simp only[ajj,obs];with_reducible repeat' first|apply OS.ok;constructor|refine IM.mk λ_=>?_
   .exact⟨rfl,nofun⟩
   .refine aw (ais w k o) λc L=>?_
    with_reducible repeat' first|apply OS.ok;constructor|refine IM.mk λ_=>?_
    all_goals try simp only[ay,tZ] at*
    rename_i h1 h2;obtain⟨f1,f2,f3,f4⟩:=N h1;exact λh=>⟨L (by simpa using h),by omega,by omega,f1,f2,f3,f4⟩
 .rintro⟨x1,x2⟩ ⟨z,A⟩;dsimp only at z A;subst z;refine aQ (λh=>ak λh=>by cases h) (λh=>?_);have he:=A h;obtain⟨nm,t0,t1,cd,e1,e2,e3⟩:=id he;obtain⟨_,_,ce,lk,cn,th,fu⟩:=nm;have hm:16<=k/\k<=19->0<=(geti itK w.2.2.1 o).2/\(geti itK w.2.2.1 o).2<l! w.2.1:=λh=>cd _ (bI (cn h).1 (cn h).2)
  have hH:6<=k/\k<=11->uo ((geti ec s.1 o).2,t)=Z ((geti ec s.1 o).2.contains t):=λh=>aar _ _ (by
   have:=D.rd _ (bI (T:=ec) (lk h).1 (by have:=(lk h).2;omega));have:=D.n1;omega)
  cases kdI k
  case no hk _=>omega
  all_goals simp only[c8,ep,Rc]
  all_goals with_reducible repeat' first|apply OS.ok;constructor|refine IM.mk λ_=>?_
  all_goals try simp only[hH (by omega),obs]
  all_goals with_reducible repeat' first|apply OS.ok;constructor|refine IM.mk λ_=>?_
  all_goals try simp only[ay,tZ] at*
  all_goals first|omega|(intro h;cases h;done)|exact (hm ⟨by decide,by decide⟩).1|(rw [e1];exact (hm ⟨by decide,by decide⟩).2)|(intro h;refine ⟨he,?_⟩;constructor<;>first|omega|(intros;first|omega|assumption|(simpa using h)|exact⟨by assumption,by first|assumption|exact⟨by assumption,by assumption⟩⟩))|(refine ⟨he,?_⟩;constructor<;>first|omega|(intros;first|omega|assumption))
def mW:η->Int->η
 |[],n=>[n]
 |x::r,n=>if x<n then x::mW r n else if x=n then x::r else n::x::r
def HU (n:Int):∀(i:Nat) (l:η),i<=l! l->(∀k,k<i->l.getD k 0<n)->mW l n=l.take i++mW (l.drop i) n
 |0,l,_,_=>by simp
 |i+1,[],h,_=>by simp at h
 |i+1,x::r,h,z=>by
  have h0:=z 0 (by omega);simp at h0;have:=HU n i r (by grind) (λk A=>by have:=z (k+1) (by omega);simpa using this);rw[mW,aE h0,this,yi,Kp,gI]
def Jf (n:Int):∀l:η,l! (mW l n)<=l! l+1
 |[]=>by simp[mW]
 |x::r=>by
  have:=Jf n r;rw[mW];split
  .simp;omega
  .split<;>simp
def L_ {n y:Int}:∀{l:η},y∈mW l n↔y=n\/y∈l
 |[]=>by simp[mW]
 |x::r=>by
  have:=L_ (n:=n) (y:=y) (l:=r);rw[mW];split
  .grind
  .grind
def Lf:η->Prop
 |[]=>True
 |x::r=>(∀y∈r,x<y)/\Lf r
def Vm :∀{l:η},Lf l->Lf (mW l a)
 |[],_=>by simp[mW,Lf]
 |x::r,h=>by
  rw[mW];split
  .rename_i A;refine ⟨λy z=>?_,Vm h.2⟩;rcases L_.1 z with rfl|z
   .exact A
   .exact h.1 y z
  .split
   .exact h
   .rename_i h1 D;refine ⟨λy z=>?_,h⟩;rcases a_.1 z with rfl|z
    .omega
    .have:=h.1 y z;omega
def alj (l:η) (n:Int) (hl:l! l<=1000000):yK (l,n)=Z (mW l n):=by
 refine cI ?_;unfold yK bS bU bX be c7 aI cQ;have fin:∀i:Nat,i<=l! l->(∀k,k<i->l.getD k 0<n)->(i<l! l->¬l.getD i 0<n/\l.getD i 0≠n)->l.take i++[n]++l.drop i=mW l n:=λi hi L hn=>by
  rw[HU n i l hi L];cases hd:l.drop i with
  |nil=>simp[mW]
  |cons y r=>
   have hlt:i<l! l:=by grind
   have A:l.getD i 0=y:=by
    rw[aF,<-List.head?_drop,hd];rfl
   let⟨h1,N⟩:=hn hlt;rw[A]at h1 N;rw[mW,ax h1,ax N];simp
 refine bV (l! l) (λi x=>x=(i:Int)/\∀k,k<i->l.getD k 0<n) ?_ ?_ ⟨rfl,λk L=>by omega⟩
 .rintro i x hi ⟨rfl,z⟩;by_cases hlt:l.getD i 0<n
  .with_reducible repeat' first|apply OS.ok;constructor|refine IM.mk λ_=>?_
   all_goals try simp only[ay,tZ] at*
   all_goals first|omega|skip
   .refine ⟨fV,λk L=>?_⟩
    grind
   next h=>exact bA hlt (AU.2 h)
  .have key:l.getD i 0=n->mW l n=l:=λhe=>by
    rw[HU n i l (by omega) z];cases hd:l.drop i with
    |nil=>have:=eZ aj hd;simp at this;omega
    |cons y r=>
     have A:l.getD i 0=y:=by rw[aF,<-List.head?_drop,hd];rfl
     rw[A]at he;rw[mW,ax (by omega),aE he,<-hd,EG]
   with_reducible repeat' first|apply OS.ok;constructor|refine IM.mk λ_=>?_
   all_goals try simp only[ay,tZ] at*
   all_goals first|omega|skip
   next h=>exact bA h hlt
   .refine aw (P:=λr=>r=mW l n) ?_ λr D=>ak D
    with_reducible repeat' first|apply OS.ok;constructor|refine IM.mk λ_=>?_
    all_goals try simp only[ay,tZ] at*
    all_goals first|omega|skip
    next h=>exact (key h).symm
    .simp;omega
    .simp;omega
    .simp;omega
    next h=>simpa using fin i (by omega) z (λ_=>⟨hlt,h⟩)
 .rintro x ⟨rfl,z⟩;with_reducible repeat' first|apply OS.ok;constructor|refine IM.mk λ_=>?_
  all_goals try simp only[ay,tZ] at*
  all_goals first|omega|skip
  refine aw (P:=λr=>r=mW l n) ?_ λr D=>ak D
  with_reducible repeat' first|apply OS.ok;constructor|refine IM.mk λ_=>?_
  all_goals try simp only[ay,tZ] at*
  all_goals first|omega|skip
  .simp;omega
  .simp;omega
  .simp;omega
  .simpa using fin (l! l) (by omega) z (λh=>by omega)
def yo (a b:η):η:=b.foldl mW (a.foldl mW [])
def yV:∀(b acc:η),l! (b.foldl mW acc)<=l! acc+l! b
 |[],acc=>by simp
 |x::r,acc=>by
  have:=yV r (mW acc x);have:=Jf x acc;rw[zX,jX];omega
def Nj:∀{b acc:η},Lf acc->Lf (b.foldl mW acc)
 |[],_,h=>h
 |x::r,acc,h=>by rw[zX];exact Nj (Vm h)
def Ni :∀{b acc:η},a∈b.foldl mW acc↔a∈acc\/a∈b
 |[],acc=>by simp
 |x::r,acc=>by
  rw[zX,Ni,L_]
  grind
def UP (a b:η):Lf (yo a b):=Nj (Nj trivial)
variable {z:η}
def BN {b:η} {y:Int}:y∈yo z b↔y∈z\/y∈b:=by unfold yo;rw[Ni,Ni];simp
def ahc (a b:η):l! (yo a b)<=l! a+l! b:=by
 have:=yV b (a.foldl mW []);have:=yV a [];unfold yo;simp at *;omega
def RC {acc:η} (hi:i<l! z):(z.take (i+1)).foldl mW acc=mW ((z.take i).foldl mW acc) (z.getD i 0):=by
 rw[pS hi,eX,aF,aH hi];rfl
def X' (a b:η) (ha:l! a<=400000) (hb:l! b<=400000):v_ (a,b)=Z (yo a b):=by
 refine cI ?_;refine bV (l! a) (λi x=>x.2=(i:Int)/\x.1=(a.take i).foldl mW []) ?_ ?_ ⟨rfl,rfl⟩
 .rintro i ⟨D,A⟩ hi ⟨h1,z⟩;subst h1 z;have L:l! ((a.take i).foldl mW [])<=1000000:=by have:=yV (a.take i) [];simp at *;omega
  with_reducible repeat' first|apply OS.ok;constructor|refine IM.mk λ_=>?_
  all_goals try simp[ay,tZ] at*
  all_goals first|omega|skip
  refine aZ (alj _ _ L) (ak ?_);refine ⟨fV,?_⟩;rw[vB,RC hi]
 .rintro⟨D,A⟩ ⟨h1,z⟩;subst h1 z;rw[cY];have hla:=yV a [];with_reducible repeat' first|apply OS.ok;constructor|refine IM.mk λ_=>?_
  all_goals try simp[ay,tZ] at*
  all_goals first|omega|skip
  refine aw (P:=λr=>r=yo a b) ?_ λr N=>ak N
  refine bV (l! b) (λi x=>x.2=(i:Int)/\x.1=(b.take i).foldl mW (a.foldl mW [])) ?_ ?_ ⟨rfl,rfl⟩
  .rintro i ⟨D,A⟩ hi ⟨h1,z⟩;subst h1 z;have L:l! ((b.take i).foldl mW (a.foldl mW []))<=1000000:=by have:=yV (b.take i) (a.foldl mW []);simp at *;omega
   with_reducible repeat' first|apply OS.ok;constructor|refine IM.mk λ_=>?_
   all_goals first|omega|skip
   refine aZ (alj _ _ L) (ak ?_);refine ⟨fV,?_⟩;rw[vB,RC hi]
  .rintro⟨D,A⟩ ⟨h1,z⟩;subst h1 z;rw[cY];with_reducible repeat' first|apply OS.ok;constructor|refine IM.mk λ_=>?_
   all_goals first|omega|rfl
def Pr (c:Int) (x:e!):Bool:=decide (x.1=3)&&decide (x.2.1=c)
def wl (th:Y e!) (c:Int):Nat->η
 |0=>[]
 |i+1=>if Pr c (geti iC th (i:Int)) then wl th c i++[(i:Int)] else wl th c i
def xO (th:Y e!) (c:Int):∀i,l! (wl th c i)<=i
 |0=>bJ _
 |i+1=>by have:=xO th c i;rw[wl];split<;>simp<;>omega
def sQ {th:Y e!} {c u:Int}:∀{i:Nat},u∈wl th c i↔0<=u/\u<i/\Pr c (geti iC th u)=J
 |0=>by simp[wl];omega
 |i+1=>by
  have z:= @sQ th c u i;rw[wl]
  grind
variable {N:Y (Int×Int×Bool)}
def awf (h1:(geti iC N (i:Int)).1=3) (z:(geti iC N (i:Int)).2.1=a):wl N a (i+1)=wl N a i++[(i:Int)]:=by
 rw[wl,aE];unfold Pr;rw[h1,z];simp
def aqg (h1:¬(geti iC N (i:Int)).1=3):wl N a (i+1)=wl N a i:=by
 rw[wl,ax];unfold Pr;rw[dm h1];simp
def aqf (h1:¬(geti iC N (i:Int)).2.1=a):wl N a (i+1)=wl N a i:=by
 rw[wl,ax];unfold Pr;rw[dm h1];simp
def aaf (s:SY) (c:Int) (A:l! s.2.2.2<=1000):oO (s,c)=Z (wl s.2.2.2 c (l! s.2.2.2)):=by
 refine cI ?_;unfold oO db bm bS bU bX be c7 aI cQ;refine bV (l! s.2.2.2) (λi x=>x=((i:Int),s,wl s.2.2.2 c i)) ?_ ?_ rfl
 .rintro i x hi rfl;have D:=xO s.2.2.2 c i;with_reducible repeat' first|apply OS.ok;constructor|refine IM.mk λ_=>?_
  all_goals try simp only[ay,tZ] at*
  all_goals first|omega|skip
  all_goals first|(simp;omega)|skip
  next h1 z=>rw[awf h1 z,fV]
  next h1 z=>rw[aqf z,fV]
  next h1=>rw[aqg h1,fV]
 .rintro x rfl;with_reducible repeat' first|apply OS.ok;constructor|refine IM.mk λ_=>?_
  all_goals try simp[ay,tZ] at*
  all_goals first|omega|rfl
def wo (l:η) (n:Int):η:=l.filter λx=> !decide (x=n)
def Yv (l:η) (n:Int) (A:l! l<=1000000):rS (l,n)=Z (wo l n):=by
 refine cI ?_;unfold rS bS jK bU bX be c7 aI cQ;refine bV (l! l) (λi x=>x=((i:Int),wo (l.take i) n)) ?_ ?_ rfl
 .rintro i x hi rfl;have z:l! (wo (l.take i) n)<=i:=dc (EH ..) (ym ..);have ht:wo (l.take (i+1)) n=if geti aP l (i:Int)=n then wo (l.take i) n else wo (l.take i) n++[geti aP l (i:Int)]:=by
   unfold wo;rw[pS hi,List.filter_append,vB,aF,aH hi]
   grind
  with_reducible repeat' first|apply OS.ok;constructor|refine IM.mk λ_=>?_
  all_goals try simp only[ay,tZ] at*
  all_goals first|omega|skip
  .simp;omega
  next h=>rw[ht,ax h,fV]
  next h=>rw[ht,aE h,fV]
 .rintro x rfl;with_reducible repeat' first|apply OS.ok;constructor|refine IM.mk λ_=>?_
  all_goals try simp[ay,tZ] at*
  all_goals first|omega|(rw [cY])
def pH {xs:Y T.den} (hi:i<aj xs):dW (i+1) xs=dW i xs++[geti _ xs (i:Int)]:=by
 rw[pS hi,wT,aF,aH hi];rfl
def adq (s:SY) (z:SB i s):iL s=Z (s.2.1,s.1,s.2.2.1,s.2.2.2):=by
 refine cI ?_;let⟨A,N,L,D⟩:=s;have hn:=z.n1;have g1:=z.lk;have g2:=z.dn;have g3:=z.th;dsimp only at g1 g2 g3;unfold iL bk bD bQ db eh bS bU bX be c7 aI cQ;with_reducible repeat' first|apply OS.ok;constructor|refine IM.mk λ_=>?_
 .simp;omega
 .omega
 .simp;omega
 .omega
 refine bV (l! A) (λn x=>x=((n:Int),(A,N,L,D),0,N,A.take n,L,D)) ?_ ?_ ?_
 .rintro n x hi rfl;have hg:=z.rd _ (bI (T:=ec) (xs:=A) (j:=(n:Int)) (by omega) (by omega));with_reducible repeat' first|apply OS.ok;constructor|refine IM.mk λ_=>?_
  all_goals try simp only[ay,tZ] at*
  all_goals first|omega|skip
  .simp;omega
  .simp;omega
  .rw[fV,pH (T:=ec) hi];rfl
 .rintro x rfl;with_reducible repeat' first|apply OS.ok;constructor|refine IM.mk λ_=>?_
  all_goals try simp only[ay,tZ] at*
  all_goals first|omega|skip
  simp
 .simp
def Kl (s:SY) (c:Int) (D:l! s.2.2.2<=1000):lT ((s.2.1,c),s.1,s.2.2.1,s.2.2.2)=Z (wl s.2.2.2 c (l! s.2.2.2)):=by
 refine cI ?_;refine aw (P:=λy=>y=(wl s.2.2.2 c (l! s.2.2.2),s.1,s.2.2.1,s.2.2.2)) ?_ λy A=>by subst A;exact an5 rfl (ak rfl)
 unfold nv bk bD bQ db eh bm bS bU kq be c7 aI cQ;refine bV (l! s.2.2.2) (λi x=>x=((i:Int),s.1,s.2.2.1,s.2.2.2,s.2.1,wl s.2.2.2 c i)) ?_ ?_ rfl
 .rintro i x hi rfl;have L:=xO s.2.2.2 c i;with_reducible repeat' first|apply OS.ok;constructor|refine IM.mk λ_=>?_
  all_goals try simp only[ay,tZ] at*
  all_goals first|omega|skip
  all_goals first|(simp;omega)|skip
  next h1 z=>rw[awf h1 z,fV]
  next h1 z=>rw[aqf z,fV]
  next h1=>rw[aqg h1,fV]
 .rintro x rfl;with_reducible repeat' first|apply OS.ok;constructor|refine IM.mk λ_=>?_
  all_goals try simp[ay,tZ] at*
  all_goals first|omega|rfl
structure AP (n:Nat) (s y:SY):Prop where
 a1:l! y.1=l! s.1
 a2:l! y.2.2.1=l! s.2.2.1
 a3:l! y.2.2.2=l! s.2.2.2
 rd:∀l∈y.1,l! l.2<=n+1
def AP.toSB {s y:SY} (h:AP i s y) (z:SB i s) (A:i+1<=100000):SB (i+1) y:=
 ⟨A,by rw[h.a1];exact z.lk,h.rd,by rw[h.a2];exact z.dn,by rw[h.a3];exact z.th⟩
def AP.same {s:SY} (z:SB i s) (x:Int) (d:θ) (t:Y e!) (hd:l! d=l! s.2.2.1) (ht:l! t=l! s.2.2.2):AP i s (s.1,x,d,t):=
 ⟨rfl,hd,ht,λl A=>fX (z.rd l A)⟩
def AP.set {s:SY} (z:SB i s) (j a:Int) (r:η) (A:l! r<=i+1) (x:Int) (d:θ) (t:Y e!) (hd:l! d=l! s.2.2.1) (ht:l! t=l! s.2.2.2):AP i s (cC s.1 j (a,r),x,d,t):=
 ⟨bW _ _ _,hd,ht,λl D=>by
   rcases Fw D with h|rfl
   .exact fX (z.rd l h)
   .exact A⟩
def AX (th:Y e!) (t st:Int):Y e!:=cC th t (st,(geti iC th t).2)
def YO (lk:Y j!) (o t:Int):Y j!:=cC lk o (t,(geti ec lk o).2)
def rdP (lk:Y j!) (o:Int) (l:η):Y j!:=cC lk o ((geti ec lk o).1,l)
def cdP (th:Y e!) (t c:Int):Y e!:=cC th t ((geti iC th t).1,c,(geti iC th t).2.2)
def atP (th:Y e!) (t:Int) (b:Bool):Y e!:=cC th t ((geti iC th t).1,(geti iC th t).2.1,b)
def FX (th:Y e!) (l:η):Y e!:=l.foldl (λx u=>AX x u 4) th
def Ew (l:η) (u:Int):Int:=if (l! l)=0 then -1 else if l.contains u then u else geti aP l 0
def PF (w:WT) (o:Int):Int:=(geti itK w.2.2.1 o).2
def ph (w:WT) (s:SY) (t k o u:Int):SY×Int:=
 if k=1 then ((s.1,s.2.1,s.2.2.1,AX s.2.2.2 t 2),0)
 else if k=2 then ((s.1,s.2.1,s.2.2.1,AX s.2.2.2 t 5),0)
 else if k=6\/k=10 then ((YO s.1 o t,s.2),0)
 else if k=7\/k=11 then ((YO s.1 o (-1),s.2),0)
 else if k=8 then ((rdP s.1 o (yo (geti ec s.1 o).2 [t]),s.2),0)
 else if k=9 then ((rdP s.1 o (wo (geti ec s.1 o).2 t),s.2),0)
 else if k=12 then ((s.1,t,s.2.2),0)
 else if k=13 then ((s.1,-1,s.2.2),0)
 else if k=14 then ((s.1,s.2.1,s.2.2.1,atP s.2.2.2 t J),0)
 else if k=15 then ((s.1,s.2.1,s.2.2.1,atP s.2.2.2 t af),0)
 else if k=16 then ((YO s.1 (PF w o) (-1),s.2.1,s.2.2.1,cdP (AX s.2.2.2 t 3) t o),0)
 else if k=17 then ((YO s.1 (PF w o) t,s.2.1,s.2.2.1,cdP (AX s.2.2.2 t 2) t 0),0)
 else if k=18 then (if (l! (wl s.2.2.2 o (l! s.2.2.2)))=0 then (s,-1) else ((s.1,s.2.1,s.2.2.1,AX s.2.2.2 (Ew (wl s.2.2.2 o (l! s.2.2.2)) u) 4),Ew (wl s.2.2.2 o (l! s.2.2.2)) u))
 else if k=19 then ((s.1,s.2.1,s.2.2.1,FX s.2.2.2 (wl s.2.2.2 o (l! s.2.2.2))),(l! (wl s.2.2.2 o (l! s.2.2.2)):Int))
 else if k=20 then ((s.1,s.2.1,s.2.2.1,AX s.2.2.2 o 1),0)
 else if k=22 then ((s.1,s.2.1,cC s.2.2.1 o J,s.2.2.2),0)
 else (s,0)
def Lz (l:η):∀th,l! (FX th l)=l! th:=by
 induction l with
 |nil=>intro th;rfl
 |cons x r z=>intro th;unfold FX;rw[zX];exact (z _).trans (bW ..)
def ait (hi:i<l! z):FX N (z.take (i+1))=AX (FX N (z.take i)) (geti aP z (i:Int)) 4:=by
 unfold FX;rw[pS hi,eX,vB,aF,aH hi];rfl
def LJ (u:Int) (l:¬l! z=0):Ew z u∈z:=by
 unfold Ew;rw[ax l];split
 next h=>exact EI.1 h
 .exact bI (T:=aP) (by omega) (by omega)
def Yn (w:WT) (s:SY) (z:SB i s) (hw:l! w.2.2.1<=1000) (t k o u:Int):Ok (qD (w,s,t,k,o,u)) λy=>(y.2.2=J->EN w s t k o/\UK w s t k o/\AP i s y.1/\(y.1,y.2.1)=ph w s t k o u)/\(y.2.2=af->y.1=([],0,[],[]))/\(lq (w,s,t,k,o)=Z J->y.2.2=J):=by
 unfold qD bk bD bQ cS db dZ eh iS ck bm bS bX kq be c7 aI cQ;obtain⟨b,N,hb⟩:=Pc w s z hw t k o;refine aZ N ?_;refine eu (λh=>ak ⟨nofun,λ_=>rfl,λh2=>(by rw[N,h]at h2;cases h2)⟩) (λh=>?_);obtain⟨he,hry⟩:=hb h;refine aZ (adq s z) ?_;suffices hmain:Ok _ _ from aV (λx=>AP i s (x.2.2.2.1,x.2.1,x.2.2.2.2)/\((x.2.2.2.1,x.2.1,x.2.2.2.2),x.1)=ph w s t k o u) hmain λx hx=>ak ⟨λ_=>⟨he,hry,hx⟩,nofun,λ_=>rfl⟩
 obtain⟨nm,t0,t1,cd,e1,e2,e3⟩:=id he;obtain⟨_,_,ce,lk,cn,th,fu⟩:=nm;have hn:=z.n1;have hlk:=z.lk;have hm:16<=k/\k<=19->0<=(geti itK w.2.2.1 o).2/\(geti itK w.2.2.1 o).2<l! w.2.1:=λh=>cd _ (bI (cn h).1 (cn h).2)
 have L:∀j:Int,0<=j->j<l! s.1->(geti ec s.1 j).2.length<=i:=λj h0 h1=>z.rd _ (bI (T:=ec) h0 h1)
 cases kdI k
 case no hk _=>omega
 all_goals simp only[c8,ep,Rc]
 all_goals with_reducible repeat' first|apply OS.ok;constructor|refine IM.mk λ_=>?_
 all_goals try simp only[ay,tZ] at*
 all_goals try rw[bW]
 all_goals first|omega|exact (hm ⟨by decide,by decide⟩).1|exact e1▸(hm ⟨by decide,by decide⟩).2|exact⟨AP.same z _ _ _ rfl rfl,rfl⟩|exact⟨AP.same z _ _ _ rfl (bW _ _ _),rfl⟩|exact⟨AP.same z _ _ _ (bW _ _ _) rfl,rfl⟩|skip
 all_goals try exact⟨AP.set z _ _ _ (fX (L o (by omega) (by omega))) _ _ _ rfl rfl,rfl⟩
 .have:=L o (by omega) (by omega);refine aZ (X' _ _ (dc this (by have:=z.n1;omega)) (by simp)) ?_;with_reducible repeat' first|apply OS.ok;constructor|refine IM.mk λ_=>?_
  all_goals try simp only[ay,tZ] at*
  all_goals first|omega|skip
  exact⟨AP.set z _ _ _ (by have:=ahc (geti ec s.1 o).2 [t];simp at this;omega) _ _ _ rfl rfl,rfl⟩
 .have:=L o (by omega) (by omega);have hl:l! (wo (geti ec s.1 o).2 t)<=(geti ec s.1 o).2.length:=EH ..;refine aZ (Yv _ _ (by omega)) ?_;with_reducible repeat' first|apply OS.ok;constructor|refine IM.mk λ_=>?_
  all_goals try simp only[ay,tZ] at*
  all_goals first|omega|skip
  exact⟨AP.set z _ _ _ (dc hl (by omega)) _ _ _ rfl rfl,rfl⟩
 .exact⟨AP.set z _ _ _ (fX (L _ (hm ⟨by decide,by decide⟩).1 (by rw[e1];exact (hm ⟨by decide,by decide⟩).2))) _ _ _ rfl (by rw[bW,bW]),rfl⟩
 .exact⟨AP.set z _ _ _ (fX (L _ (hm ⟨by decide,by decide⟩).1 (by rw[e1];exact (hm ⟨by decide,by decide⟩).2))) _ _ _ rfl (by rw[bW,bW]),rfl⟩
 .refine aZ (Kl s o z.th) ?_;have hth:=z.th;have hll:=xO s.2.2.2 o (l! s.2.2.2);have hml:∀u∈wl s.2.2.2 o (l! s.2.2.2),0<=u/\u<l! s.2.2.2:=λu D=>⟨(sQ.1 D).1,(sQ.1 D).2.1⟩
  have hap:ph w s t 18 o u=if (l! (wl s.2.2.2 o (l! s.2.2.2)))=0 then (s,-1) else ((s.1,s.2.1,s.2.2.1,AX s.2.2.2 (Ew (wl s.2.2.2 o (l! s.2.2.2)) u) 4),Ew (wl s.2.2.2 o (l! s.2.2.2)) u):=rfl
  unfold Ew at hap;revert hll hml hap;generalize wl s.2.2.2 o (l! s.2.2.2)=l;intro hll hml hap;with_reducible repeat' first|apply OS.ok;constructor|refine IM.mk λ_=>?_
  all_goals try simp only[ay,tZ] at*
  all_goals first|omega|skip
  .have A:=hml _ (bI (T:=aP) (xs:=l) (j:=0) (by omega) (by omega));rw[ax (by omega),ax (by omega)]at hap;simp only[aar l u (by omega),obs];refine aQ (λhc=>?_) λhc=>?_
   .have D:=hml u (EI.1 hc);rw[hc,aE rfl]at hap;refine ak (aR D.1 D.2 (aR D.1 D.2 (ak ⟨AP.same z _ _ _ rfl (bW ..),?_⟩)));rw[hap];rfl
   .rw[hc,ax (by decide)]at hap;refine ak (aR A.1 A.2 (aR A.1 A.2 (ak ⟨AP.same z _ _ _ rfl (bW ..),?_⟩)));rw[hap];rfl
  .rw[aE (by omega)]at hap;exact⟨AP.same z _ _ _ rfl rfl,hap.symm⟩
 .refine aZ (Kl s o z.th) ?_;have hth:=z.th;have hll:=xO s.2.2.2 o (l! s.2.2.2);have hml:∀u∈wl s.2.2.2 o (l! s.2.2.2),0<=u/\u<l! s.2.2.2:=λu D=>⟨(sQ.1 D).1,(sQ.1 D).2.1⟩
  have hap:ph w s t 19 o u=((s.1,s.2.1,s.2.2.1,FX s.2.2.2 (wl s.2.2.2 o (l! s.2.2.2))),(l! (wl s.2.2.2 o (l! s.2.2.2)):Int)):=rfl;rw[hap];clear hap;generalize wl s.2.2.2 o (l! s.2.2.2)=l at hll hml ⊢;refine bV (l! l) (λn x=>x=((n:Int),s.2.1,0,s.1,s.2.2.1,FX s.2.2.2 (l.take n))) ?_ ?_ rfl
  .rintro n x hi rfl;have A:=hml _ (bI (T:=aP) (xs:=l) (j:=(n:Int)) (by omega) (by omega));have hq:=Lz (l.take n) s.2.2.2;with_reducible repeat' first|apply OS.ok;constructor|refine IM.mk λ_=>?_
   all_goals try simp only[ay,tZ] at*
   all_goals first|omega|skip
   rw[fV,ait hi];rfl
  .rintro x rfl;rw[cY];with_reducible repeat' first|apply OS.ok;constructor|refine IM.mk λ_=>?_
   all_goals try simp only[ay,tZ] at*
   all_goals first|omega|skip
   exact AP.same z _ _ _ rfl (Lz ..)
abbrev SN:Type:=SY×η×I?
abbrev ET:Type:=Int×Int×Int×Int×Int×I?
def ax3 (a b:Int):FZ (a,b)=Z (decide (0<=a/\a<b)):=ajj a b
structure NB (n:Nat) (s:SN):Prop where
 sb:SB n s.1
 c:l! s.2.1<=1000
 f:l! s.2.2.1<=1000
 k:l! s.2.2.2<=1000
structure SP (n:Nat) (s y:SN):Prop where
 ap:AP n s.1 y.1
 c:l! y.2.1=l! s.2.1
 f:l! y.2.2.1=l! s.2.2.1
 k:l! y.2.2.2=l! s.2.2.2
def SP.NB {s y:SN} (h:SP i s y) (z:NB i s) (A:i+1<=100000):NB (i+1) y:=
 ⟨h.ap.toSB z.sb A,by rw[h.c];exact z.c,by rw[h.f];exact z.f,by rw[h.k];exact z.k⟩
def sn0:SN:=(([],0,[],[]),[],[],[])
structure F16 (w:WT) (s:SN):Prop where
 c:l! s.2.1=l! w.1
 f:l! s.2.2.1=l! w.2.2.2.1
 k:l! s.2.2.2=l! w.2.2.2.2.1
def ago (w:WT) (s:SN) (z:l! w.2.2.1<=1000):Ok (yG (w,s)) λb=>b=J->F16 w s:=by
 unfold yG bk bD bQ dZ bm be aI;refine gQ (aw (UG w s.1 (by omega)) λb A=>?_);with_reducible repeat' first|apply OS.ok;constructor|refine IM.mk λ_=>?_
 all_goals try simp[ay,tZ] at*
 all_goals first|(intro h;constructor<;>omega)|(intro h;cases h;done)
def ad4:∀(l:η),(∀k:Nat,k+1<l! l->l.getD k 0<l.getD (k+1) 0)->Lf l
 |[],_=>trivial
 |[x],_=>⟨λy L=>(by cases L),trivial⟩
 |x::y::r,h=>by
  have D:=ad4 (y::r) λk N=>by have:=h (k+1) (by grind);simpa using this
  have h0:=h 0 (by simp);simp at h0;refine ⟨λz A=>?_,D⟩;rcases a_.1 A with rfl|A
  .exact h0
  .have:=D.1 z A;omega
structure AN (c:Int) (l:η):Prop where
 a:Lf l
 m:∀x:Int,x∈l->1<=x/\x<c
def LM:∀(l:η) (z hi:Int),Lf l->(∀y∈l,z<=y/\y<hi)->(l! l:Int)<=max 0 (hi-z)
 |[],z,hi,_,_=>by simp;omega
 |x::r,z,hi,h,hm=>by
  have h1:=hm x (dk ..);have D:=LM r (x+1) hi h.2 λy A=>⟨by have:=h.1 y A;omega,(hm y (cg _ A)).2⟩
  grind
def AN.len (h:AN a z):(l! z:Int)<=max 0 a:=by
 have:=LM z 1 a h.a h.m;omega
def at4 (A:∀k:Nat,k<i->1<=geti aP z (k:Int)/\geti aP z (k:Int)<a) (ha:∀k:Nat,k+1<i->z.getD k 0<z.getD (k+1) 0):(i:Int)<=max 0 a:=by
 have key:∀k:Nat,k<i->(k:Int)+1<=z.getD k 0:=by
  intro k;induction k with
  |zero=>intro D;have:=(A 0 D).1;exact this
  |succ k N=>grind
 rcases Nat.eq_zero_or_pos i with l|l
 .omega
 .have h1:=key (i-1) (by omega);have L:=(A (i-1) (by omega)).2;rw[vB]at L
  grind
def Mq (l:η) (c:Int) (hl:l! l<=1000000000\/c<=1000000000):Ok (rR (l,c)) λb=>b=J->AN c l:=by
 refine bV (l! l) (λi x=>x=(i:Int)/\(∀k:Nat,k<i->1<=geti aP l (k:Int)/\geti aP l (k:Int)<c)/\∀k:Nat,k+1<i->l.getD k 0<l.getD (k+1) 0) ?_ ?_ ⟨rfl,λk z=>by omega,λk z=>by omega⟩
 .rintro i x hi ⟨rfl,A,D⟩;have hbd:i<=1000000000:=by
   have:=at4 A D;omega
  have L:0<(i:Int)->bn .i64 ((i:Int)-1)=((i-1:Nat):Int):=λh=>by rw[iI];omega
  have hq:(0<i->l.getD (i-1) 0<l.getD i 0)->1<=geti aP l (i:Int)/\geti aP l (i:Int)<c->bn .i64 ((i:Int)+1)=((i+1:Nat):Int)/\(∀k:Nat,k<i+1->1<=geti aP l (k:Int)/\geti aP l (k:Int)<c)/\∀k:Nat,k+1<i+1->l.getD k 0<l.getD (k+1) 0:=λg1 g2=>by
   refine ⟨fV,λk z=>?_,λk z=>?_⟩
   .grind
   .grind
  with_reducible repeat' first|apply OS.ok;constructor|refine IM.mk λ_=>?_
  all_goals try simp only[ay,tZ] at*
  all_goals first|omega|(intro h;cases h;done)|(rw [L (by omega)];omega)|skip
  .rename_i h1 h2 h3 N;rw[L h3,vB,vB]at N
   grind
  .grind
 .rintro x ⟨rfl,A,D⟩;with_reducible repeat' first|apply OS.ok;constructor|refine IM.mk λ_=>?_
  all_goals try simp only[ay,tZ] at*
  all_goals first|omega|skip
  exact⟨ad4 l λk z=>D k z,iQ (T:=aP) A⟩
structure VA (w:WT) (sy:SY) (ce fu:η) (t k o v:Int):Prop where
 ld:k=3->v=geti aP ce o
 gt:k=23->v=geti aP fu o
 br:k=5->v=0\/v=1
 el:¬k=3->¬k=23->¬k=5->¬k=4->¬k=22->v=(ph w sy t k o v).2
def ite2 {c:Prop} [Decidable c] {a b:SY×Int} (A:a.2=0) (z:b.2=0):(if c then a else b).2=0:=by by_cases h:c<;>simp[h,A,z]
def ard (w:WT) (z:SY) (t k o u:Int) (h1:¬k=18) (A:¬k=19):(ph w z t k o u).2=0:=by
 unfold ph;rw[ax h1,ax A];repeat (first|exact rfl|refine ite2 rfl ?_)
def ad8 (w:WT) (z:SY) (t k o u A:Int) (h1:¬k=18):ph w z t k o u=ph w z t k o A:=by
 unfold ph;rw[ax h1,ax h1]
def Fk (w:WT) (z:SY) (t o u:Int):ph w z t 18 o u=if (l! (wl z.2.2.2 o (l! z.2.2.2)))=0 then (z,-1) else ((z.1,z.2.1,z.2.2.1,AX z.2.2.2 (Ew (wl z.2.2.2 o (l! z.2.2.2)) u) 4),Ew (wl z.2.2.2 o (l! z.2.2.2)) u):=rfl
def ato (w:WT) (z:SY) (t o u:Int):(ph w z t 19 o u).2=(l! (wl z.2.2.2 o (l! z.2.2.2)):Int):=rfl
def ahb (w:WT) (s:SN) (hs:NB i s) (hf:F16 w s) (e:ET) (he:EN w s.1 e.1 e.2.1 e.2.2.1):Ok (Am (s,e)) λb=>b=J->VA w s.1 s.2.1 s.2.2.1 e.1 e.2.1 e.2.2.1 e.2.2.2.1:=by
 let⟨t,k,o,v,si,de,fr⟩:=e;let⟨D,s2,s3,s4⟩:=s;let⟨nm,t0,t1,cd,e1,e2,e3⟩:=he;let⟨_,_,ce,lk,cn,th,fu,_,_,_⟩:=nm;let⟨f1,f2,f3⟩:=hf;have hth:=hs.sb.th;dsimp only at*
 have hW:=aaf D o hth;have hWl:=xO D.2.2.2 o (l! D.2.2.2);refine aK (λh=>?_) λn3=>?_
 .have h:k=3:=h;let⟨c0,c1⟩:=ce (.inl h);exact aR c0 (by grind) (aU (ak λA=>⟨λ_=>bL A,λz=>by omega,λz=>by omega,λz=>(z h).elim⟩))
 refine aK (λh=>?_) λL=>?_
 .have h:k=23:=h;let⟨c0,c1⟩:=fu (.inr h);exact aR c0 (by grind) (aU (ak λA=>⟨λz=>by omega,λ_=>bL A,λz=>by omega,λ_ z=>(z h).elim⟩))
 refine aK (λh=>?_) λn5=>?_
 .have h:k=5:=h;exact gQ (aK (λA=>ak (ak λ_=>⟨λz=>by omega,λz=>by omega,λ_=>.inl A,λ_ _ z=>(z h).elim⟩)) λ_=>ak (ak λA=>⟨λz=>by omega,λz=>by omega,λ_=>.inr (bL A),λ_ _ z=>(z h).elim⟩))
 refine aV (λx=>x.2=((D,s2,s3,s4),t,k,o,v,si,de,fr)/\(x.1=J->k=4\/k=22)) (aK (λh=>ak ⟨rfl,λ_=>.inl h⟩) λ_=>ak ⟨rfl,λh=>.inr (bL h)⟩) ?_;rintro⟨b,x⟩ ⟨e,hb⟩;subst e;refine aQ (λh=>ak λ_=>⟨λz=>(n3 z).elim,λz=>(L z).elim,λz=>(n5 z).elim,λ_ _ _ h4 h5=>(hb h).elim (λh=>(h4 h).elim) λh=>(h5 h).elim⟩) λ_=>?_
 have fin:v=(ph w D t k o v).2->VA w D s2 s3 t k o v:=λh=>⟨λz=>(n3 z).elim,λz=>(L z).elim,λz=>(n5 z).elim,λ_ _ _ _ _=>h⟩
 refine aK (λh=>?_) λn18=>?_
 .have h:k=18:=h;subst h;rw[Fk]at fin;refine aZ hW ?_;revert fin hWl;generalize wl D.2.2.2 o (l! D.2.2.2)=l;intro hWl fin;refine aK (λh=>ak λA=>fin ?_) λh=>?_
  .grind
  .dsimp [ay]at h;have hne:¬l! l=0:=by omega
   refine gQ (d_ (λ_=>bP (λ_=>?_) λ_=>ak (ak nofun)) λ_=>ak (ak nofun));refine aZ (aar _ _ (by omega)) (ak (ak λA=>fin ?_));rw[ax hne];unfold Ew;rw[ax hne,aE A]
 refine aK (λh=>?_) λN=>?_
 .have h:k=19:=h;subst h;exact aZ hW (ak λA=>fin (bL A))
 exact ak λA=>fin (by rw[ard _ _ _ _ _ _ n18 N];exact bL A)
structure S16 (w:WT) (s:SN) (e:ET):Prop where
 rd:UK w s.1 e.1 e.2.1 e.2.2.1
 s1:e.2.1=1\/e.2.1=2->e.2.2.2.2.1= -1
 s2:¬(e.2.1=1\/e.2.1=2)->0<=e.2.2.2.2.1/\e.2.2.2.2.1<l! w.2.2.2.2.2/\(geti pR w.2.2.2.2.2 e.2.2.2.2.1).1=e.1
 de:0<l! e.2.2.2.2.2.1->e.2.1=5\/(e.2.1=3\/e.2.1=4)/\¬(geti lF w.1 e.2.2.1).2.2.1=0
 fr:0<l! e.2.2.2.2.2.2->e.2.1=4\/e.2.1=22
 nd:AN (geti aP s.2.2.2 e.1) e.2.2.2.2.2.1
 nf:AN (geti aP s.2.2.2 e.1) e.2.2.2.2.2.2
 va:VA w s.1 s.2.1 s.2.2.1 e.1 e.2.1 e.2.2.1 e.2.2.2.1
def ceP (z:η) (e:ET):η:=if e.2.1=4 then cC z e.2.2.1 e.2.2.2.1 else z
def fuP (z:η) (e:ET):η:=if e.2.1=22 then cC z e.2.2.1 e.2.2.2.1 else z
def nxP (w:WT) (s:SN) (e:ET):SN:=((ph w s.1 e.1 e.2.1 e.2.2.1 e.2.2.2.1).1,ceP s.2.1 e,fuP s.2.2.1 e,cC s.2.2.2 e.1 (bn .i64 (geti aP s.2.2.2 e.1+1)))
def I0 (w:WT) (s:SN) (hs:NB i s) (hw:l! w.2.2.1<=1000) (e:ET) (hd:l! e.2.2.2.2.2.1<=1000000000\/(geti aP s.2.2.2 e.1:Int)<=1000000000) (hf:l! e.2.2.2.2.2.2<=1000000000\/(geti aP s.2.2.2 e.1:Int)<=1000000000):Ok (sY (w,s,e)) λy=>(y.2=J->EN w s.1 e.1 e.2.1 e.2.2.1/\SP i s y.1/\S16 w s e/\y.1=nxP w s e)/\(y.2=af->y.1=sn0):=by
 have hz:∀{Q:SN×Bool->Prop},Q (sn0,af)->Ok (Z (sn0,af)) Q:=λh=>ak h
 have z0:((sn0,af).2=J->EN w s.1 e.1 e.2.1 e.2.2.1/\SP i s (sn0,af).1/\S16 w s e/\(sn0,af).1=nxP w s e)/\((sn0,af).2=af->(sn0,af).1=sn0):=⟨nofun,λ_=>rfl⟩
 unfold sY bk bD bQ cS eV db dZ eh iS w9 ck bm bS jK bU bX kq be c7 aI cQ;refine aV (λx=>x.2=(w,s,e,0)/\(x.1=af->F16 w s/\(EN w s.1 e.1 e.2.1 e.2.2.1/\UK w s.1 e.1 e.2.1 e.2.2.1)/\lq (w,s.1,e.1,e.2.1,e.2.2.1)=Z J)) ?_ ?_
 .refine aw (ago w s hw) λb hb=>?_
  with_reducible repeat' first|apply OS.ok;constructor|refine IM.mk λ_=>?_
  .exact⟨rfl,nofun⟩
  simp only[ax3,obs];with_reducible repeat' first|apply OS.ok;constructor|refine IM.mk λ_=>?_
  .exact⟨rfl,nofun⟩
  .exact⟨rfl,nofun⟩
  .exact⟨rfl,nofun⟩
  let⟨c,hc0,hc⟩:=Pc w s.1 hs.sb hw e.1 e.2.1 e.2.2.1;refine aZ hc0 (ak ⟨rfl,λh=>?_⟩);have h:c=J:=by simpa using h
  exact⟨hb (by assumption),hc h,h▸hc0⟩
 rintro⟨A,L⟩ ⟨z,hx⟩;dsimp only at z hx;subst z;refine aQ (λ_=>hz z0) λh1=>?_
 let⟨hF,⟨hE,hR⟩,hEn⟩:=hx h1;clear hx h1;refine aV (λx=>x=(w,s,e,0)/\(e.2.1=1\/e.2.1=2->e.2.2.2.2.1= -1)/\(¬(e.2.1=1\/e.2.1=2)->0<=e.2.2.2.2.1/\e.2.2.2.2.1<l! w.2.2.2.2.2/\(geti pR w.2.2.2.2.2 e.2.2.2.2.1).1=e.1)) ?_ ?_
 .refine aV (λx=>x.2=(w,s,e,0)/\(x.1=J->e.2.1=1\/e.2.1=2)/\(x.1=af->¬(e.2.1=1\/e.2.1=2))) ?_ ?_
  .refine aK (λh=>ak ⟨rfl,λ_=>.inl h,nofun⟩) λh=>ak ⟨rfl,λD=>.inr (bL D),λD=>?_⟩
   have:=Yt D;exact λh3=>h3.elim h this
  rintro⟨A,L⟩ ⟨z,hy1,hy2⟩;dsimp only at z hy1 hy2;subst z;refine aQ (λhk=>?_) λhk=>?_
  .exact cq (λ_=>ak z0) λh=>ak ⟨rfl,λ_=>h,λh3=>(h3 (hy1 hk)).elim⟩
  .refine aV (λx=>x.2=(w,s,e,0)/\(x.1=af->0<=e.2.2.2.2.1/\e.2.2.2.2.1<l! w.2.2.2.2.2/\(geti pR w.2.2.2.2.2 e.2.2.2.2.1).1=e.1)) ?_ ?_
   .simp only[ax3,obs];refine cq (λ_=>ak ⟨rfl,nofun⟩) λh=>aR h.1 h.2 (aU (ak ⟨rfl,λD=>⟨h.1,h.2,?_⟩⟩))
    simpa using D
   rintro⟨A,L⟩ ⟨z,hz⟩;dsimp only at z hz;subst z;exact aQ (λ_=>ak z0) λh=>ak ⟨rfl,λh3=>((hy2 hk) h3).elim,λ_=>hz h⟩
 rintro x ⟨rfl,hS1,hS2⟩;let⟨nm,t0,t1,cd,e1,e2,e3⟩:=id hE;let⟨_,_,ce,lk,cn,th,fu,_,_,_⟩:=nm;let⟨f1,f2,f3⟩:=id hF;refine aV (λx=>x.2=(w,s,e,0)/\(x.1=J->e.2.1=3\/e.2.1=4)) ?_ ?_
 .with_reducible repeat' first|apply OS.ok;constructor|refine IM.mk λ_=>?_
  .exact⟨rfl,λ_=>.inl (by assumption)⟩
  .exact⟨rfl,λh=>.inr (bL h)⟩
 rintro⟨A,L⟩ ⟨z,N⟩;dsimp only at z N;subst z;refine aV (λx=>x.2=(w,s,e,0)/\(x.1=af->0<l! e.2.2.2.2.2.1->e.2.1=5\/(e.2.1=3\/e.2.1=4)/\¬(geti lF w.1 e.2.2.1).2.2.1=0)) ?_ ?_
 .refine bP (λ_=>cq (λ_=>aQ (λh=>?_) λ_=>ak ⟨rfl,nofun⟩) λh5=>ak ⟨rfl,λ_ _=>.inl h5⟩) λh=>ak ⟨rfl,λ_ D=>?_⟩
  .refine aR (ce (N h)).1 (ce (N h)).2 (aU (ak ⟨rfl,λD _=>.inr ⟨N h,?_⟩⟩));simpa using D
  .dsimp only[ay]at h;omega
 rintro⟨A,L⟩ ⟨z,hDe⟩;dsimp only at z hDe;subst z;refine aQ (λ_=>hz z0) λhde=>?_
 refine aV (λx=>x.2=(w,s,e,0)/\(x.1=af->0<l! e.2.2.2.2.2.2->e.2.1=4\/e.2.1=22)) ?_ ?_
 .refine bP (λ_=>cq (λ_=>ak ⟨rfl,λh _=>.inr (by simpa using h)⟩) λh4=>ak ⟨rfl,λ_ _=>.inl h4⟩) λh=>ak ⟨rfl,λ_ D=>?_⟩
  dsimp only[ay]at h;omega
 rintro⟨A,L⟩ ⟨z,hFr⟩;dsimp only at z hFr;subst z;refine aQ (λ_=>hz z0) λhfr=>?_
 have hk:=hs.k;have hc:=hs.c;have hfu:=hs.f;refine aV (λx=>x.2=(w,s,e,0)/\(x.1=af->AN (geti aP s.2.2.2 e.1) e.2.2.2.2.2.1/\AN (geti aP s.2.2.2 e.1) e.2.2.2.2.2.2/\VA w s.1 s.2.1 s.2.2.1 e.1 e.2.1 e.2.2.1 e.2.2.2.1)) ?_ ?_
 .have hv:=ahb w s hs hF e hE;refine aR t0 (by rw[f3];exact t1) (aU (aw (Mq _ _ hd) λb hb=>?_));refine eu (λ_=>ak ⟨rfl,nofun⟩) λb1=>?_
  refine aR t0 (by rw[f3];exact t1) (aU (aw (Mq _ _ hf) λb hb2=>?_));refine eu (λ_=>ak ⟨rfl,nofun⟩) λb2=>?_
  exact aw hv λb hb3=>ak ⟨rfl,λh=>⟨hb b1,hb2 b2,hb3 (by simpa using h)⟩⟩
 rintro⟨A,L⟩ ⟨z,hNum⟩;dsimp only at z hNum;subst z;refine aQ (λ_=>hz z0) λhnu=>?_
 let⟨hN1,hN2,hVA⟩:=hNum hnu;have hS:S16 w s e:=⟨hR,hS1,hS2,hDe hde,hFr hfr,hN1,hN2,hVA⟩
 refine a! (a! (a! ?_));refine aV (λx=>x.2=(w,s,e,0,0,s.2.1,s.2.2.1,s.2.2.2)/\ph w s.1 e.1 e.2.1 e.2.2.1 x.1=ph w s.1 e.1 e.2.1 e.2.2.1 e.2.2.2.1) ?_ ?_
 .exact aK (λ_=>ak ⟨rfl,rfl⟩) λh=>ak ⟨rfl,ad8 _ _ _ _ _ _ _ h⟩
 rintro⟨A,L⟩ ⟨z,hxu⟩;dsimp only at z hxu;subst z;refine aw (Yn w s.1 hs.sb hw e.1 e.2.1 e.2.2.1 A) λy hy=>?_
 let⟨_,_,hap,hyq⟩:=hy.1 (hy.2.2 hEn);rw[hxu]at hyq;refine aV (λx=>x.1=e/\x.2.2.1=y.1/\x.2.2.2.1=ceP s.2.1 e/\x.2.2.2.2=(s.2.2.1,s.2.2.2)) ?_ ?_
 .unfold ceP;refine aK (λh=>?_) λh=>ak ⟨rfl,rfl,(ax h).symm,rfl⟩
  have hc4:=ce (.inr h);with_reducible repeat' first|apply OS.ok;constructor|refine IM.mk λ_=>?_
  all_goals try simp only[ay,tZ] at*
  all_goals first|omega|exact (aE h).symm
 rintro⟨A,L,x3,x4,x5,x6⟩ ⟨h1,D,h3,h4⟩;simp only[aT]at h1 D h3 h4;obtain⟨rfl,rfl⟩:=h4;subst h1 D h3;refine aV (λx=>x.1=A/\x.2.2.1=y.1/\x.2.2.2.1=ceP s.2.1 A/\x.2.2.2.2.1=fuP s.2.2.1 A/\x.2.2.2.2.2=s.2.2.2) ?_ ?_
 .unfold fuP;refine aK (λh=>?_) λh=>ak ⟨rfl,rfl,rfl,(ax h).symm,rfl⟩
  have hc4:=fu (.inl h);with_reducible repeat' first|apply OS.ok;constructor|refine IM.mk λ_=>?_
  all_goals try simp only[ay,tZ] at*
  all_goals first|omega|exact (aE h).symm
 rintro⟨A,L,x3,x4,x5,x6⟩ ⟨h1,D,h4,h5,h6⟩;simp only at h1 D h4 h5 h6;subst h1 D h4 h5 h6;have l1:l! (ceP s.2.1 A)=l! s.2.1:=by unfold ceP;split<;>simp[bW]
 have l2:l! (fuP s.2.2.1 A)=l! s.2.2.1:=by unfold fuP;split<;>simp[bW]
 with_reducible repeat' first|apply OS.ok;constructor|refine IM.mk λ_=>?_
 all_goals try simp only[ay,tZ] at*
 all_goals first|omega|skip
 exact⟨⟨hE,⟨hap,l1,l2,by rw[bW]⟩,hS,by unfold nxP;rw[<- hyq]⟩,nofun⟩
def Yh:Ok (lA ()) λl=>l! l=22:=by
 unfold lA;with_reducible repeat' first|apply OS.ok;constructor|refine IM.mk λ_=>?_
 all_goals rfl
def UF (s:ζ):Ok (lU s) λ_=>True:=by
 refine aw Yh λl z=>?_
 refine bV (l! l) (λi x=>x=(i:Int)) ?_ ?_ rfl
 .rintro i x hi rfl;with_reducible repeat' first|apply OS.ok;constructor|refine IM.mk λ_=>?_
  all_goals try simp[ay,tZ] at*
  all_goals first|omega|exact fV
 .rintro x rfl;with_reducible repeat' first|apply OS.ok;constructor|refine IM.mk λ_=>?_
  all_goals try simp[ay,tZ] at*
  all_goals omega
def Sf (c:Int):Ok (mr c) λ_=>True:=by
 unfold mr jY aI;with_reducible repeat' first|apply OS.ok;constructor|refine IM.mk λ_=>?_
 all_goals exact trivial
def aji (c:Int):Ok (qI c) λ_=>True:=by
 unfold qI s8 jY aI;refine gQ (aw (Sf c) λ_ _=>?_);with_reducible repeat' first|apply OS.ok;constructor|refine IM.mk λ_=>?_
 all_goals try exact trivial
 refine aw (P:=λ_=>True) ?_ λ_ _=>?_
 .with_reducible repeat' first|apply OS.ok;constructor|refine IM.mk λ_=>?_
  all_goals exact trivial
 .with_reducible repeat' first|apply OS.ok;constructor|refine IM.mk λ_=>?_
  all_goals exact trivial
def iR (s:ζ):Ok (fR s) λ_=>True:=by
 refine aV (λb=>b=af->l! s<=12) ?_ ?_
 .with_reducible repeat' first|apply OS.ok;constructor|refine IM.mk λ_=>?_
  .grind
  .grind
  .omega
  .grind
  refine aw (Sf _) λ_ _=>?_
  with_reducible repeat' first|apply OS.ok;constructor|refine IM.mk λ_=>?_
  .grind
  refine aw (UF _) λ_ _=>ak λ_=>?_
  grind
 .rintro b z;refine aQ (λ_=>ak trivial) λh=>?_
  have z:=z h;refine bV (l! s) (λi x=>x=(i:Int)) ?_ ?_ rfl
  .rintro i x hi rfl;with_reducible repeat' first|apply OS.ok;constructor|refine IM.mk λ_=>?_
   all_goals try simp[ay,tZ] at*
   all_goals first|omega|skip
   refine aw (aji _) λ_ _=>?_
   with_reducible repeat' first|apply OS.ok;constructor|refine IM.mk λ_=>?_
   .exact trivial
   .exact fV
  .rintro x rfl;with_reducible repeat' first|apply OS.ok;constructor|refine IM.mk λ_=>?_
   all_goals try simp[ay,tZ] at*
   all_goals first|omega|exact trivial
def Bt (l:Y ζ) (s:ζ) (D:l! l<=1000000000):Ok (j7 (l,s)) λr=> -1<=r/\r<l! l/\(0<=r->geti (.str) l r=s)/\(r<0->s∉l):=by
 refine bV (l! l) (λi x=>x=(i:Int)/\∀k:Nat,k<i->geti (.str) l (k:Int)≠s) ?_ ?_ ⟨rfl,λk A=>by omega⟩
 .rintro i x hi ⟨rfl,z⟩;with_reducible repeat' first|apply OS.ok;constructor|refine IM.mk λ_=>?_
  all_goals try simp[ay,tZ] at*
  all_goals first|omega|skip
  .grind
  .refine ⟨fV,λk A=>?_⟩
   grind
 .rintro x ⟨rfl,z⟩;with_reducible repeat' first|apply OS.ok;constructor|refine IM.mk λ_=>?_
  all_goals try simp only[ay,tZ] at*
  all_goals first|omega|skip
  exact⟨by omega,by omega,λh=>by omega,λ_ h=>iQ (T:=.str) (p:=λc=>c≠s) z s h rfl⟩
structure VL (w:WT):Prop where
 c:l! w.1<=12
 l:l! w.2.1<=4
 d:l! w.2.2.1<=2
 f:l! w.2.2.2.1<=2
 t0:1<=l! w.2.2.2.2.1
 t:l! w.2.2.2.2.1<=4
 s:l! w.2.2.2.2.2<=60
def aiq (w:WT) (h:VL w):Ok (qE w) λy=>l! y.1<=100:=by
 let⟨D,w2,N,w4,w5,w6⟩:=w;let⟨h1,h2,h3,h4,_,h5,h6⟩:=h;dsimp only at*
 unfold qE bk bD bQ cS dZ w9 bm bS jK bU bX be c7 aI cQ;refine pX (λx=>((l! D:Int)-x.1).toNat) (λx=>x.2.1=(D,w2,N,w4,w5,w6)/\0<=x.1/\x.1<=(l! D:Int)/\(l! x.2.2:Int)<=x.1) ?_ ⟨rfl,by simp,by simp,by simp⟩;rintro⟨x1,x2,x3⟩ ⟨e,g1,g2,g3⟩;dsimp only at e g1 g2 g3;subst e;refine bP (λg4=>?_) λg4=>?_
 .dsimp only[ay]at g4;refine aV (λx=>x.2.1=(D,w2,N,w4,w5,w6)/\x1<x.1/\x.1<=(l! D:Int)/\(l! x.2.2:Int)<=x.1) ?_ ?_
  .refine bH (aU (a! ?_));refine aK (λ_=>?_) λ_=>?_
   .with_reducible repeat' first|apply OS.ok;constructor|refine IM.mk λ_=>?_
    .exact mf _
    .rw[iI];exact⟨rfl,by dsimp only;omega,by dsimp only;omega,by simp;omega⟩
   .generalize hz:geti _ _ x1=z;obtain⟨z1,(z2:Int),(L:Int),z4,z5⟩:=z;dsimp only;refine aV (λx=>x.2=((D,w2,N,w4,w5,w6),x3++[z1],z1,z2,L,z4,z5)/\(x.1=af->1<=L/\L<=4/\x1+L<=l! D)) ?_ ?_
    .with_reducible repeat' first|apply OS.ok;constructor|refine IM.mk λ_=>?_
     .exact⟨rfl,nofun⟩
     .exact⟨rfl,nofun⟩
     .refine ⟨rfl,λh=>?_⟩;dsimp only[ay] at*
      rw[iI,ja]at h;omega
    .rintro⟨b,y⟩ ⟨e,hb⟩;dsimp only at e hb;subst e;refine aQ (λ_=>ak (mf _)) λh=>?_
     let⟨q1,q2,q3⟩:=hb h;refine pX (λx=>(L-x.1).toNat) (λx=>x.2=((D,w2,N,w4,w5,w6),x3++[z1],z1,z2,L,z4,z5)/\0<=x.1/\x.1<=L) ?_ ⟨rfl,by simp,by dsimp only;omega⟩;rintro⟨k,y⟩ ⟨e,k0,k1⟩;dsimp only at e k0 k1;subst e;refine bP (λk2=>?_) λk2=>?_
     .dsimp only at k2;have A:bn .i64 (x1+k)=x1+k:=iI;refine aR (by dsimp only;rw[A];omega) (by dsimp only;rw[A];omega) (aU ?_);refine aV (λx=>x.2=((D,w2,N,w4,w5,w6),x3++[z1],z1,z2,L,z4,z5)) ?_ ?_
      .with_reducible repeat' first|apply OS.ok;constructor|refine IM.mk λ_=>?_
       all_goals rfl
      .rintro⟨b,y⟩ e;dsimp only at e;subst e;refine aQ (λ_=>ak (mf _)) λ_=>ak ?_
       dsimp only;rw[iI];exact⟨⟨rfl,by omega,by omega⟩,by omega⟩
     .dsimp only at k2;refine ak ?_;dsimp only;rw[iI];exact⟨rfl,by omega,by omega,by simp;omega⟩
  .rintro⟨y1,y2,y3⟩ ⟨e,g5,g6,g7⟩;dsimp only at e g5 g6 g7;subst e;refine ak ⟨⟨rfl,by dsimp only;omega,g6,g7⟩,?_⟩;dsimp only;omega
 .dsimp only[ay]at g4;refine aw (P:=λy=>l! y.1<=100) ?_ λy hy=>ak hy
  refine bV (l! w2) (λi x=>x.1=(i:Int)/\x.2.1=(D,w2,N,w4,w5,w6)/\l! x.2.2<=12+i) ?_ ?_ ⟨rfl,rfl,by dsimp only;omega⟩
  .rintro i ⟨a,b,c⟩ hi ⟨A,e2,e3⟩;dsimp only at A e2 e3;subst A e2;with_reducible repeat' first|apply OS.ok;constructor|refine IM.mk λ_=>?_
   all_goals try simp only[ay,tZ] at*
   all_goals first|omega|(simp;omega)|skip
   exact⟨fV,by simp;omega⟩
  .rintro⟨a,b,c⟩ ⟨A,e2,e3⟩;dsimp only at A e2 e3;subst A e2;refine bP (λg4=>(by dsimp only[ay]at g4;omega)) λ_=>?_
   refine aw (P:=λy=>l! y.1<=100) ?_ λy hy=>ak hy
   refine bV (l! N) (λi x=>x.1=(i:Int)/\x.2.1=(D,w2,N,w4,w5,w6)/\l! x.2.2<=16+i) ?_ ?_ ⟨rfl,rfl,by dsimp only;omega⟩
   .rintro i ⟨a,b,c⟩ hi ⟨A,e2,e3⟩;dsimp only at A e2 e3;subst A e2;with_reducible repeat' first|apply OS.ok;constructor|refine IM.mk λ_=>?_
    all_goals try simp only[ay,tZ] at*
    all_goals first|omega|(simp;omega)|skip
    exact⟨fV,by simp;omega⟩
   .rintro⟨a,b,c⟩ ⟨A,e2,e3⟩;dsimp only at A e2 e3;subst A e2;refine bP (λg4=>(by dsimp only[ay]at g4;omega)) λ_=>?_
    refine aw (P:=λy=>l! y.1<=100) ?_ λy hy=>ak hy
    with_reducible repeat' first|apply OS.ok;constructor|refine IM.mk λ_=>?_
    all_goals try simp only[ay,tZ] at*
    all_goals first|omega|(simp;omega)
def Yo (T:Int) (o:M ν) (s:π):M ν:=
 match o with
 |none=>U
 |some (t,n)=>if s.1=t/\s.2.1=n then Z (t,n+1) else if t<s.1/\s.1<T/\s.2.1=0 then Z (s.1,1) else U
def Pk (T:Int) (l:Y π):M ν:=l.foldl (Yo T) (Z (0,0))
def SV0 (w:WT):Prop:=Pk (l! w.2.2.2.2.1) w.2.2.2.2.2≠U
def L1 {T:Int} {l:Y π} (hi:i<l! l):Pk T (l.take (i+1))=Yo T (Pk T (l.take i)) (geti pR l (i:Int)):=by
 rw[pH (T:=pR) hi];unfold Pk;rw[eX];rfl
def UZ (T:Int):∀l:Y π,l.foldl (Yo T) U=U
 |[]=>rfl
 |_::r=>UZ T r
def ab2 {l:Y π} (h:Pk a l≠U) (i:Nat):Pk a (l.take i)≠U:=λz=>h (by
 unfold Pk at z ⊢;rw[<- EG i l,eX,z,UZ])
def aho {t n:Int} {z:π} (h:Yo a (Z (t,n)) z≠U):Yo a (Z (t,n)) z=Z (z.1,z.2.1+1)/\(z.1=t/\z.2.1=n\/t<z.1/\z.1<a/\z.2.1=0):=by
 unfold Yo at h ⊢
 grind
def Ey (w:WT):Ok (iy w) λb=>b=J->VL w/\SV0 w:=by
 unfold iy bk bD bQ cS eh iS bm bS jY jK bU bX be c7 aI cQ;refine aV (λx=>x.2=w/\(x.1=af->VL w)) ?_ ?_
 .with_reducible repeat' first|apply OS.ok;constructor|refine IM.mk λ_=>?_
  all_goals first|exact⟨rfl,λh=>(by cases h)⟩|skip
  dsimp only[ay] at*
  refine ⟨rfl,λh=>?_⟩;rw[ja]at h;constructor<;>omega
 rintro⟨b,x⟩ ⟨e,hb⟩;dsimp only at e hb;subst e;refine aQ (λ_=>ak λh=>(by cases h)) λh=>?_
 have hv:=hb h;refine aw (aiq _ hv) λy hy=>?_
 refine eu (λ_=>ak λh=>(by cases h)) λ_=>?_
 let⟨w1,w2,N,w4,D,A⟩:=x;have h6:=hv.s;have h3:=hv.d;dsimp only at h6 h3;refine bV (l! y.1) (λi x=>x.1=(i:Int)/\x.2=(w1,w2,N,w4,D,A)) ?_ ?_ ⟨rfl,rfl⟩
 .rintro i ⟨a,b⟩ hi ⟨L,e2⟩;dsimp only at L e2;subst L e2;refine bP (λg4=>?_) λg4=>(by dsimp only[ay]at g4;omega)
  refine aV (λx=>x.2=(w1,w2,N,w4,D,A)) ?_ ?_
  .refine bH (aU (aw (iR _) λ_ _=>?_));refine eu (λ_=>ak rfl) λ_=>?_
   with_reducible repeat' first|apply OS.ok;constructor|refine IM.mk λ_=>?_
   all_goals try simp only[ay,tZ] at*
   all_goals first|omega|skip
   refine aw (Bt _ _ (by simp;omega)) λ_ _=>ak rfl
  .rintro⟨a,b⟩ e;dsimp only at e;subst e;with_reducible repeat' first|apply OS.ok;constructor|refine IM.mk λ_=>?_
   .exact λh=>(by cases h)
   .dsimp only;exact⟨fV,rfl⟩
 rintro⟨a,b⟩ ⟨L,e2⟩;dsimp only at L e2;subst L e2;refine bP (λg4=>(by dsimp only[ay]at g4;omega)) λ_=>?_
 refine aw (P:=λb=>b=J->VL (w1,w2,N,w4,D,A)/\SV0 (w1,w2,N,w4,D,A)) ?_ λy hy=>ak hy
 refine bV (l! N) (λi x=>x.1=(i:Int)/\x.2=(w1,w2,N,w4,D,A)) ?_ ?_ ⟨rfl,rfl⟩
 .rintro i ⟨a,b⟩ hi ⟨L,e2⟩;dsimp only at L e2;subst L e2;refine bP (λg4=>?_) λg4=>(by dsimp only[ay]at g4;omega)
  refine bH (aU ?_);refine aV (λx=>x.2=(w1,w2,N,w4,D,A)) ?_ ?_
  .with_reducible repeat' first|apply OS.ok;constructor|refine IM.mk λ_=>?_
   all_goals try simp only[ay,tZ] at*
   all_goals first|omega|rfl
  .rintro⟨a,b⟩ e;dsimp only at e;subst e;with_reducible repeat' first|apply OS.ok;constructor|refine IM.mk λ_=>?_
   .exact λh=>(by cases h)
   .dsimp only;exact⟨fV,rfl⟩
 rintro⟨a,b⟩ ⟨L,e2⟩;dsimp only at L e2;subst L e2;refine bP (λg4=>(by dsimp only[ay]at g4;omega)) λ_=>?_
 refine aw (P:=λb=>b=J->VL (w1,w2,N,w4,D,A)/\SV0 (w1,w2,N,w4,D,A)) ?_ λy hy=>ak hy
 refine bV (l! A) (λi x=>x.1=(i:Int)/\x.2=(w1,w2,N,w4,D,A)/\Pk (l! D) (A.take i)=Z (if i=0 then (0,0) else ((geti pR A ((i-1:Nat):Int)).1,(geti pR A ((i-1:Nat):Int)).2.1+1))/\(¬i=0->(0:Int)<=(geti pR A ((i-1:Nat):Int)).2.1/\(i:Int)>(geti pR A ((i-1:Nat):Int)).2.1)) ?_ ?_ ⟨rfl,rfl,rfl,λh=>(h rfl).elim⟩
 .rintro i ⟨a,b⟩ hi ⟨L,e2,e3,hpb⟩;dsimp only at L e2;subst L e2;have hw:¬(i:Int)=0->bn .i64 ((i:Int)-1)=((i-1:Nat):Int):=λh=>by rw[iI];omega
  have hnx:=L1 (T:=l! D) hi;rw[e3]at hnx;clear e3;refine bP (λg4=>?_) λg4=>(by dsimp only[ay]at g4;omega)
  refine aV (λx=>x=(w1,w2,N,w4,D,A)/\Pk (l! D) (A.take (i+1))=Z (((geti pR A (i:Int)).1,(geti pR A (i:Int)).2.1+1))/\(0:Int)<=(geti pR A (i:Int)).2.1/\((i+1:Nat):Int)>(geti pR A (i:Int)).2.1) ?_ ?_
  .refine bH (aU ?_);rw[hnx];generalize hz:geti pR A (i:Int)=z;obtain⟨(z1:Int),(z2:Int),(z3:Int)⟩:=z;dsimp only;refine aV (λx=>x.2=((w1,w2,N,w4,D,A),z1,z2,z3)/\(x.1=af->0<=z1/\z1<l! D)) ?_ ?_
   .refine bP (λ_=>ak ⟨rfl,λh=>(by cases h)⟩) λg=>ak ⟨rfl,λh=>⟨g,?_⟩⟩
    rw[m7]at h;exact h
   rintro⟨c,y⟩ ⟨e,hzr⟩;dsimp only at e hzr;subst e;refine aQ (λ_=>ak λh=>(by cases h)) λhzb=>?_
   let⟨z0,zT⟩:=hzr hzb;refine aV (λx=>x.2=((w1,w2,N,w4,D,A),z1,z2,z3)/\(x.1=J->i=0\/¬(geti pR A ((i-1:Nat):Int)).1=z1)/\(x.1=af->¬(i:Int)=0/\(geti pR A ((i-1:Nat):Int)).1=z1)) ?_ ?_
   .refine aK (λh=>ak ⟨rfl,λ_=>.inl (by have h:((i:Nat):Int)=0:=h;omega),λh=>(by cases h)⟩) λh=>?_
    rw[hw h];refine bH (aU (ak ⟨rfl,λh2=>.inr (by simpa using h2),λh2=>⟨h,by simpa using h2⟩⟩))
   rintro⟨c,y⟩ ⟨e,hc1,hc⟩;dsimp only at e hc1 hc;subst e;refine aQ (λhct=>?_) λhcf=>?_
   .refine aV (λx=>x.2=(w1,w2,N,w4,D,A)/\(x.1=af->z2=0/\(¬i=0->((geti pR A ((i-1:Nat):Int)).1:Int)<z1))) ?_ ?_
    .refine cq (λ_=>ak ⟨rfl,λh=>(by cases h)⟩) λhz2=>?_
     refine bP (λh=>?_) λhi0=>ak ⟨rfl,λ_=>⟨hz2,λh=>by have hi0:((i:Nat):Int)<=0:=hi0;omega⟩⟩
     have h:(0:Int)<((i:Nat):Int):=h;rw[hw (by omega)];refine bH (aU (ak ⟨rfl,λh2=>⟨hz2,λh3=>?_⟩⟩));rw[ja]at h2;have h4:=(hc1 hct).resolve_left h3;have h2:(geti pR A ((i-1:Nat):Int)).1<=z1:=h2;exact Int.lt_iff_le_and_ne.2 ⟨h2,h4⟩
    rintro⟨c,y⟩ ⟨e,hy⟩;dsimp only at e hy;subst e;refine aQ (λ_=>ak λh=>(by cases h)) λh=>ak ⟨rfl,?_⟩
    let⟨q1,q2⟩:=hy h;have q1:z2=0:=q1;subst q1;refine ⟨?_,dg 0,by show _>(0:Int);omega⟩;unfold Yo
    grind
   .obtain⟨hi0,hpr⟩:=hc hcf;rw[hw hi0];refine bH (aU ?_);refine cq (λ_=>ak λh=>(by cases h)) λh=>ak ⟨rfl,?_⟩
    let⟨b0,b1⟩:=hpb (by omega);have h:z2=bn .i64 ((geti pR A ((i-1:Nat):Int)).2.1+1):=h;rw[iI]at h;refine ⟨?_,by omega,by omega⟩;rw[ax (by omega)];unfold Yo;dsimp only;rw[aE ⟨hpr.symm,h⟩,hpr,h]
  .rintro x ⟨rfl,hx,hx2⟩;refine ak ?_;dsimp only;refine ⟨fV,rfl,?_,λ_=>hx2⟩;rw[ax (by omega)];exact hx
 .rintro⟨a,b⟩ ⟨L,e2,e3,_⟩;dsimp only at L e2;subst L e2;refine bP (λg4=>(by dsimp only[ay]at g4;omega)) λ_=>?_
  rw[cY]at e3;exact ak λ_=>⟨hv,by unfold SV0;dsimp only;rw[e3];simp⟩
end
end Go.Proofs.YtcmnmakaoonfgaaGreatDoor.AI
