/-
  Texts of the proof, part 3 of 6: what is used to prove the statement. No condition.
-/
import Derived.Test.YtcmnmakaoonfgaaGreatDoorWeakRacesQ1
import Derived.Test.YtcmnmakaoonfgaaGreatDoorProg
import Derived.KernelRfl
namespace Go.Proofs.YtcmnmakaoonfgaaGreatDoor.AI
open Go.RowKit
set_option maxRecDepth 100000
set_option maxHeartbeats 4000000
set_option linter.unusedVariables false
set_option linter.unusedSimpArgs false
set_option linter.defProp false
open _root_.Array renaming replicate→zY
open _root_.Bool renaming true→J,false→af
open _root_.Int renaming ofNat_eq_natCast→ay,toNat→aN,ofNat→aS,reduceEq→c7,reduceNeg→eC,tmod→C5
open _root_.List renaming length→l!,length→aj,replicate→aG,length_singleton→cH,take→dE,range→dG,map→gE,cons_append→gJ,getElem?_cons_zero→g_,length_cons→jX,nil_append→kW,set→oI,length_nil→pK,getElem?_concat_length→vo,take_succ_cons→yh,foldl_cons→zX,getElem?_cons_succ→Bu,map_nil→C3
open _root_.Nat renaming beq→aB,testBit→aO,blt→eJ,ble→eK,mod_eq_of_lt→xd,le_succ→Sm
open Oper renaming wp→Lk
open _root_.Option renaming some→Z,none→U,bind_some→aD,map_some→bx,map→ie
open _root_.Prod renaming a→bk,b→bB,c→bP,e→cP,d→c_,f→dQ,h→ef,g→eU,k→iF,p→xa
open Region renaming wanted→qR
open Result renaming andThen_ok→c4
open Sem renaming run_bind→fE,run_pure→w_
open _root_.Sum renaming inr→bZ,inl→li
noncomputable section
section ren
variable {P:Program} {E:Nat->Prop} {nt np:Nat}
variable {w:World} {V:PM} {S:Act} {h:aZ}
def Lu {s:TS} (c:jB P E nt np V s S w) (src:Nat->Nat) (hsrc:∀n,ow n≠s.nx->src n=n) (hr:bY s.h h) (hinv:gZ h (s.nx+1))
 (L:∀n b',erHF h n=Z b'->∃b,erHF s.h (src n)=Z b/\∀(φ':PM) (O':Nat->Prop),(∀n,φ' n=V (src n))->(∀x v,cz V (tot E V (erHF s.h)) w x v->cz φ' O' w x v)->∀o,ic V (tot E V (erHF s.h)) w b o->ic φ' O' w b' o)
 (inj:∀n m b b',erHF h n=Z b->erHF h m=Z b'->src n=src m->n=m):∃φ',jB P E nt np φ' ⟨s.e,h,s.nx+1⟩ S w/\xN np V φ' (erHF s.h) (erHF h) w w:=by
 have sub:∀n k,V n=Z k->V (src n)=Z k:=λn k A=>by
  have:=c.dom n k A
  grind
 have own_:∀k,own (λn=>V (src n)) (erHF h) k->own V (erHF s.h) k:=by
  rintro k ⟨i,b,h1,N⟩;let⟨b0,h3,_⟩:=L i b h1;exact⟨src i,b0,h3,N⟩
 have tot_:∀k,tot E (λn=>V (src n)) (erHF h) k->tot E V (erHF s.h) k:=λk A=>A.imp id (own_ k)
 have keep:∀x v,cz V (tot E V (erHF s.h)) w x v->cz (λn=>V (src n)) (tot E (λn=>V (src n)) (erHF h)) w x v:=λx v h'=>h'.ext sub (I3.refl _ w) λk _ A=>tot_ k A
 refine ⟨λn=>V (src n),⟨⟨λi j b b' k h1 N h3 h4=>?_,λn b' hb=>?_,c.zk.el,λg cells hg=>(c.zk.gl g cells hg).ext (I3.refl _ w) λk _ A=>tot_ k A⟩,λt x D=>?_,λn k A=>?_,fZ c.low,hinv,λt x D=>mX hr x (c.qp t x D),c.inert,c.size⟩,⟨I3.refl _ _,λk _ A=>own_ k A,λn hn=>?_⟩⟩
 .obtain⟨b0,q1,_⟩:=L i b h1;let⟨b1,q2,_⟩:=L j b' N;exact inj i j b b' h1 N (c.zk.inj _ _ b0 b1 k q1 q2 h3 h4)
 .obtain⟨b,q1,q2⟩:=L n b' hb;let⟨k,p1,p2,o,p3,p4⟩:=c.zk.at_ _ b q1;exact⟨k,p1,p2,o,p3,q2 _ _ (λ_=>rfl) keep o p4⟩
 .simp[fM]at D;cases he:s.e.get t with
  |none=>rw[he]at D;cases D
  |some q=>
   rw[he]at D;let⟨z,hz⟩:=pq s.h q (c.qp t q he);simp[aD,fU hr q z hz,ah]at D;subst D;exact keep _ _ (c.env t _ (by simp[fM,he,aD,hz]))
 .have A:V (src n)=Z k:=A;by_cases e:ow n=s.nx
  .grind
  .rw[hsrc n e]at A;have:=c.dom n k A
   grind
 .have:=c.low
  grind
variable {O:Nat->Prop} {s:TypeId} {B:Y AV}
def yE {φ':PM} {O':Nat->Prop} {l':Y AV} {o:Obj} (hlen:l! l'=l! B) (L:∀(j:Nat) z,l'[j]? =Z z->z.isCell=J/\∃x,B[j]? =Z x/\∀v,cz V O w x v->cz φ' O' w z v) (h:ic V O w ⟨s,.mx B⟩ o):ic φ' O' w ⟨s,.mx l'⟩ o:=by
 let⟨arr,h1,h2,N⟩:=h;refine ⟨arr,h1,by simp[BC.len]at h2 ⊢;omega,λj z D=>?_⟩;let⟨A,x,p2,p3⟩:=L j z D;let⟨_,v,p4,p5⟩:=N j x p2;exact⟨A,v,p4,p3 v p5⟩
def Mq {φ':PM} {O':Nat->Prop} {l l':Y l?} {o:Obj} (D:l'.map (·.1)=l.map (·.1)) (N:∀(j:Nat) z,l'[j]? =Z z->∃x,l[j]? =Z x/\x.1=z.1/\∀v,cz V O w x.2 v->cz φ' O' w z.2 v) (h:ic V O w ⟨0,.mp l⟩ o):ic φ' O' w ⟨0,.mp l'⟩ o:=by
 let⟨ents,clock,h1,A,h3⟩:=h;refine ⟨ents,clock,h1,?_,λj z L=>?_⟩
 .unfold MpK at A ⊢;rw[D];exact A
 .grind
def ae8 (n:Nat) (j:Int):(shf n j).toNat=if j.toNat<n then j.toNat else j.toNat+1:=by
 unfold shf;by_cases h:j.toNat<n
 .simp_all
 .rw[ax h,ax (λe=>h (Uw e))];rfl
def uJ (nx a p m1 m2 len n:Nat):Nat:=if ow n=nx then (match ix n with
 |0=>n
 |k+1=>if k/3<len then jE a (k+1) else if k/3=len then (if k%3=0 then nm p else if k%3=1 then nm m1 else nm m2) else jE a (k+1-3)) else n
def yr (nx a p m1 m2 len k:Nat):uJ nx a p m1 m2 len (jE nx (k+1))=if k/3<len then jE a (k+1) else if k/3=len then (if k%3=0 then nm p else if k%3=1 then nm m1 else nm m2) else jE a (k+1-3):=by
 unfold uJ;rw[iN,wq,aF rfl]
variable {i j:Nat}
def ab4 {p m1 m2 len k:Nat} (h:k/3<len):uJ i j p m1 m2 len (jE i (k+1))=jE j (k+1):=by rw[yr,aF h]
def L4 (nx a p m1 m2 len:Nat) (j:Int):uJ nx a p m1 m2 len (pM nx (shf len j))=pM a j:=by
 unfold pM;rw[yr,ae8]
 grind
def ac5 {e:Y q!} (hm:anl (h.get i)=Z e):erHF h (nm i)=Z ⟨0,.mp (H3 e)⟩/\∃K V es,h.get i=Z (.mp K V es):=by
 unfold anl at hm;split at hm
 next es z=>simp[ah]at hm;subst hm;exact⟨by rw[bL,z];rfl,_,_,_,z⟩
 next z=>simp[ah]at hm;subst hm;exact⟨by rw[bL,z];rfl,_,_,_,z⟩
 .cases hm
def EnR (R:AV->AV->Prop):Y l?->Y l?->Prop
 |[],[]=>True
 |x::l,y::l'=>x.1=y.1/\R x.2 y.2/\EnR R l l'
 |_,_=>False
def EnR.get {R:AV->AV->Prop}:∀{l l':Y l?},EnR R l l'->l'.map (·.1)=l.map (·.1)/\∀(j:Nat) z,l'[j]? =Z z->∃x,l[j]? =Z x/\x.1=z.1/\R x.2 z.2
 |[],[],_=>⟨rfl,λj z A=>by simp at A⟩
 |[],_::_,h|_::_,[],h=>h.elim
 |x::l,y::l',h=>by
  let⟨L,D⟩:=EnR.get h.2.2;refine ⟨by simp[ch,L,h.1],λj z A=>?_⟩;cases j with
  |zero=>simp[g_,ah]at A;subst A;exact⟨x,rfl,h.1,h.2.1⟩
  |succ j=>exact D j z A
def ND {R:AV->AV->Prop} {a nx len:Nat} (z:∀j,R (.H (pM a j) 0) (.H (pM nx (shf len j)) 0)):∀es:Y d?,EnR R (wV a es) (wV nx (L6 len es))
 |[]=>trivial
 |e::r=>⟨rfl,z e.2,ND z r⟩
def WR {R:AV->AV->Prop} {a nx len:Nat} (D:∀j,R (.H (pM a j) 0) (.H (pM nx (shf len j)) 0)) {v:AV} (A:R v (.H (pM nx (aS len)) 0)) (k:ν):∀es:Y d?,EnR R (NC a k v es) (wV nx (sK k (aS len) (L6 len es)))
 |[]=>⟨rfl,A,trivial⟩
 |e::r=>by
  have L:=WR D A k r;show EnR R (NC a k v (e::r)) (wV nx (sK k (aS len) ((e.1,shf len e.2)::L6 len r)));simp[NC,sK];by_cases z:k=e.1
  .rw[aF z,LD.2 z];exact⟨rfl,A,ND D r⟩
  .rw[ax z];cases N:H_ k e.1 with
   |true=>exact bC (LD.1 N) z
   |false=>exact⟨rfl,D e.2,L⟩
variable {v:Value}
def C' {φ':PM} {O':Nat->Prop} {off:Nat} (h:φ' j=V i) (A:cz V O w (.H i off) v):cz φ' O' w (.H j off) v:=by
 cases A with
 |H D=>exact .H (h.trans D)
def Tc {φ':PM} {O':Nat->Prop} (h:φ' j=V i) (A:cz V O w (.mp i) v):cz φ' O' w (.mp j) v:=by
 cases A with
 |mp D=>exact .mp (h.trans D)
def Ls {φ':PM} {O':Nat->Prop} {sz m:Nat} (h:φ' j=V i) (A:cz V O w (.G i sz m) v):cz φ' O' w (.G j sz m) v:=by
 cases A with
 |G D h1 N L=>exact .G (h.trans D) h1 N L
def ahy (a n len:Nat) (B:fk):iM (rnF a n len B)=iM B:=by
 cases B with
 |I F b x=>
  simp[rnF];split
  .cases F with
   |qh ty=>
    show Z (J,1,aj (gE (shf len) (x:η)))=Z (J,1,aj (α:=Int) x)
    grind
   |_=>rfl
  .rfl
 |_=>rfl
def yd (φ:PM) (O:Nat->Prop) (w:World) (src:Nat->Nat) (b b':kx):Prop:=∀(φ':PM) (O':Nat->Prop),(∀n,φ' n=φ (src n))->(∀x v,cz φ O w x v->cz φ' O' w x v)->∀o,ic φ O w b o->ic φ' O' w b' o
variable {g:Nat->Nat}
def yd.refl (b:kx):yd V O w g b b:=λ_ _ _ keep _ h=>h.mono keep
variable {T:Ty}
def WF {k:Nat} {ob:CU T} (h1:k%3=0->g (jE i (k+2))=jE j (k+2)) (h2:k%3=0->g (jE i (k+3))=jE j (k+3)):yd V O w g (wE j k s T ob) (wE i k s T ob):=by
 intro φ' O' hφ keep oo hoo;unfold wE at hoo ⊢;by_cases D:k%3=0
 .rw[aF D]at hoo ⊢;refine yE (by simp) (λai L z=>?_) hoo;by_cases hj:ai<l! (bM T ob.1)
  .rw[bU (by grind)]at z ⊢;refine ⟨?_,L,z,λv A=>keep _ _ A⟩;obtain⟨y,N,rfl⟩:=cu.1 (ba z);exact md T [ob.1] y (by grind)
  .rw[cm (by grind)]at z ⊢;generalize ai-l! (gE AV.f (bM T ob.1))=q at z ⊢
   match q with
   |0=>
    simp only[g_,ah]at z ⊢;subst z;exact⟨rfl,_,rfl,λv A=>Tc (by grind) A⟩
   |1=>
    simp only[Bu,g_,ah]at z ⊢;subst z;exact⟨rfl,_,rfl,λv A=>Tc (by grind) A⟩
   |q+2=>simp at z
 .rw[ax D]at hoo ⊢;exact hoo.mono keep
variable {A:HF}
def ajz {E:Nat->Prop} (rep:sE V E A w) {m1 m2:Nat} {ob:CU T} (k0:j%3=0) (hle:gX A A B ((bM T ob.1).map .f)) (h1:g (jE i (j+2))=nm m1) (h2:g (jE i (j+3))=nm m2):yd V (tot E V A) w g ⟨s,.mx (B++[.mp (nm m1),.mp (nm m2)])⟩ (wE i j s T ob):=by
 intro φ' O' hφ keep oo hoo;unfold wE;rw[aF k0];have hll:=hle.length;refine yE (by grind) (λk N z=>?_) hoo;by_cases hj:k<(bM T ob.1).length
 .rw[bU (by grind)]at z;rw[bU (by grind)];let⟨x,L,D⟩:=hle.get k N z;refine ⟨?_,x,L,λv H=>keep _ _ (D V E w v rep H)⟩;obtain⟨y,hy,rfl⟩:=cu.1 (ba z);exact md T [ob.1] y (by grind)
 .rw[cm (by grind)]at z;rw[cm (by grind),<-hll];generalize k-(gE AV.f (bM T ob.1)).length=q at z ⊢
  match q with
  |0=>
   simp only[g_,ah]at z ⊢;subst z;exact⟨rfl,_,rfl,λv H=>Tc (by grind) H⟩
  |1=>
   simp only[Bu,g_,ah]at z ⊢;subst z;exact⟨rfl,_,rfl,λv H=>Tc (by grind) H⟩
  |q+2=>simp at z
variable {z:η} {Q:kx}
def an2 {p m1 m2 len:Nat} (D:uv i (.qh s) (rnX len (.qh s) z)=Z Q):∃b,uv j (.qh s) z=Z b/\yd V O w (uJ i j p m1 m2 len) b Q:=by
 have D:(if aj (gE (shf len) z)==0 then U else Z (kx.mk s (.mx (gE (λa=>AV.H (pM i a) 0) (gE (shf len) z)))))=Z Q:=D;rw[cq]at D;show ∃b,(if aj z==0 then U else Z (kx.mk s (.mx (gE (λa=>AV.H (pM j a) 0) z))))=Z b/\_;split at D
 .cases D
 .rename_i L;rw[ax L];cases D;refine ⟨_,rfl,λφ' O' hφ keep oo hoo=>yE (by simp) (λa x' A=>?_) hoo⟩;rw[kM,bE]at A;rw[bE];cases hjx:z[a]? with
  |none=>rw[hjx]at A;cases A
  |some nx=>
   rw[hjx]at A;simp[bx,Function.comp,ah]at A;subst A;exact⟨rfl,_,rfl,λv N=>C' (by rw[hφ,L4]) N⟩
def an3 {p m1 m2 len:Nat} {es:Y d?} (L:uv i .zq (rnX len .zq es)=Z Q):∃b,uv j .zq es=Z b/\yd V O w (uJ i j p m1 m2 len) b Q:=by
 cases L;refine ⟨_,rfl,λφ' O' hφ keep oo hoo=>?_⟩;let⟨A,z⟩:=EnR.get (ND (R:=λx y=>∀v,cz V O w x v->cz φ' O' w y v) (a:=j) (nx:=i) (len:=len) (λa v D=>C' (by rw[hφ,L4]) D) es);exact Mq A z hoo
def Ab {nx a p m1 m2:Nat} (z:j/3<=i):(j/3<i/\uJ nx a p m1 m2 i (jE nx (j+1))=jE a (j+1))\/(j/3=i/\j%3=0/\uJ nx a p m1 m2 i (jE nx (j+1))=nm p)\/(j/3=i/\j%3=1/\uJ nx a p m1 m2 i (jE nx (j+1))=nm m1)\/(j/3=i/\j%3=2/\uJ nx a p m1 m2 i (jE nx (j+1))=nm m2):=by
 rw[yr]
 grind
structure zL (s:TS) (h':aZ) (o ai p m1 m2 len:Nat) (ty:TypeId) (S:Ty) (xs:List (CU S)) (new:CU S) (kk:ν) (es:List (ν×Int)):Prop where
 ho:s.h.get o=Z (.qm .zq ai es kk (Z (p,af,0)))
 ha:∃a0,s.h.get ai=Z (.I (.ar ty S) a0 xs)
 hp:∃l,s.h.get p=Z (.C (Z ty) l)
 g1:∃K V es,s.h.get m1=Z (.mp K V es)
 g2:∃K V es,s.h.get m2=Z (.mp K V es)
 hmm:m1≠m2
 hlen:l! xs=len
 hg:∀i,h'.get i=if i=s.nx then Z (.I (.ar ty S) 0 (xs++[new]:List (CU S))) else if i=m2\/i=m1\/i=p\/i=ai then Z (.qj J 0 0) else if i=o then Z (.I .zq s.nx (sK kk (aS len) (L6 len es))) else (s.h.get i).map (rnF ai s.nx len)
section ahh
variable {s:TS} {h':aZ} {o ai p m1 m2 len:Nat} {ty:TypeId} {S:Ty} {xs:Y (CU S)} {new:CU S} {kk:ν} {es:Y d?} (t:zL s h' o ai p m1 m2 len ty S xs new kk es)
include t
def zL.ne:o≠ai/\o≠p/\o≠m1/\o≠m2/\p≠m1/\p≠m2:=by
 let⟨z,ha⟩:=t.ha;let⟨l,hp⟩:=t.hp;let⟨_,_,_,g1⟩:=t.g1;let⟨_,_,_,g2⟩:=t.g2;have ho:=t.ho
 grind
def zL.F (hi:gZ s.h s.nx):bY s.h h':=λi r z=>by
 let⟨a0,ha⟩:=t.ha;let⟨l,hp⟩:=t.hp;let⟨_,_,_,g1⟩:=t.g1;let⟨_,_,_,g2⟩:=t.g2;have hfr:=hi.fresh;rw[bD]at z ⊢;rw[t.hg];by_cases N:i=s.nx
 .grind
 .rw[ax N];by_cases L:i=m2\/i=m1\/i=p\/i=ai
  .rcases L with rfl|rfl|rfl|rfl
   .rw[g2]at z;cases z
   .rw[g1]at z;cases z
   .rw[hp]at z;cases z
   .rw[ha]at z;cases z
  .rw[ax L];by_cases D:i=o
   .rw[D,t.ho]at z;cases z
   .rw[ax D];cases A:s.h.get i with
    |none=>rw[A]at z;cases z
    |some B=>rw[A]at z;simp[bx,aD]at z ⊢;rw[ahy];exact z
def zL.lows (hi:gZ s.h s.nx):o<s.nx/\ai<s.nx/\p<s.nx/\m1<s.nx/\m2<s.nx:=by
 let⟨z,ha⟩:=t.ha;let⟨l,hp⟩:=t.hp;let⟨_,_,_,g1⟩:=t.g1;let⟨_,_,_,g2⟩:=t.g2;exact⟨hi.low o _ t.ho,hi.low ai _ ha,hi.low p _ hp,hi.low m1 _ g1,hi.low m2 _ g2⟩
def zL.inv (hi:gZ s.h s.nx):gZ h' (s.nx+1):=by
 have D:=t.F hi;let⟨N,la,L,l1,l2⟩:=t.lows hi;refine ⟨λi ty l hil=>?_,λi c' hic=>?_⟩
 .rw[t.hg]at hil;split at hil
  .cases hil
  .split at hil
   .cases hil
   .split at hil
    .cases hil
    .cases z:s.h.get i with
     |none=>rw[z]at hil;cases hil
     |some B=>
      rw[z]at hil;simp[bx,ah]at hil;cases B with
      |C ty2 A=>
       simp[rnF,fk.C.injEq]at hil;obtain⟨_,rfl⟩:=hil;exact fy D A (hi.C i _ A z)
      |I F b x=>simp[rnF]at hil;split at hil<;>cases hil
      |_=>cases hil
 .rw[t.hg]at hic;split at hic
  .omega
  .split at hic
   .omega
   .split at hic
    .omega
    .cases z:s.h.get i with
     |none=>rw[z]at hic;cases hic
     |some B=>have:=hi.low i B z;omega
def zL.qj (hi:gZ s.h s.nx) (z:ow i=m2\/ow i=m1\/ow i=p\/ow i=ai):erHF h' i=U:=by
 let⟨D,la,A,N,L⟩:=t.lows hi;unfold erHF;rw[t.hg,ax (by omega),aF z];cases ix i<;>rfl
def zL.new0:erHF h' (nm s.nx)=U:=by rw[bL,t.hg,aF rfl];rfl
def zL.newN (k:Nat):erHF h' (jE s.nx (k+1))=ri s.nx k ty S (xs++[new]):=by rw[kG,t.hg,aF rfl];rfl
def zL.oldN (k:Nat):erHF s.h (jE ai (k+1))=ri ai k ty S xs:=by
 let⟨z,ha⟩:=t.ha;rw[kG,ha];rfl
def zL.gt (z:len<i/3):erHF h' (jE s.nx (i+1))=U:=by
 rw[t.newN];unfold ri;rw[dL (by rw[bz,t.hlen];exact z)];rfl
def zL.lt (L:i/3<len) (z:erHF h' (jE s.nx (i+1))=Z Q):∃b,erHF s.h (jE ai (i+1))=Z b/\yd V O w (uJ s.nx ai p m1 m2 len) b Q:=by
 rw[t.newN]at z;rw[t.oldN];unfold ri at z ⊢;rw[bU (by rw[t.hlen];exact L)]at z;cases A:xs[i/3]? with
 |none=>rw[A]at z;cases z
 |some ob=>
  rw[A]at z;simp[bx,ah]at z;subst z;exact⟨_,rfl,WF (λD=>ab4 (k:=i+1) (by omega)) (λD=>ab4 (k:=i+2) (by omega))⟩
def zL.eqB (z:i/3=len):erHF h' (jE s.nx (i+1))=Z (wE s.nx i ty S new):=by
 rw[t.newN];unfold ri;rw[z,<-t.hlen,vo];rfl
def zL.mapB (hi:gZ s.h s.nx) (z:erHF h' (nm o)=Z Q):∃b,erHF s.h (nm o)=Z b/\yd V O w (uJ s.nx ai p m1 m2 len) b Q:=by
 let⟨lo,_⟩:=t.lows hi;let⟨n1,n2,n3,N,_⟩:=t.ne;rw[bL,t.hg,ax (by omega),ax (by omega),aF rfl]at z;cases z;rw[bL,t.ho];refine ⟨_,rfl,λφ' O' hφ keep oo hoo=>?_⟩;let⟨L,D⟩:=EnR.get (WR (R:=λx y=>∀v,cz V O w x v->cz φ' O' w y v) (a:=ai) (nx:=s.nx) (len:=len) (λj v A=>C' (by rw[hφ,L4]) A) (v:=.H (nm p) 0) (λv A=>C' (by
  rw[hφ];show V (uJ s.nx ai p m1 m2 len (jE s.nx (3*len+1)))=_;rw[yr,ax (by omega),aF (by omega),aF (by omega)]) A) kk es)
 exact Mq L D hoo
def zL.oth (hi:gZ s.h s.nx) (f0:ow i≠s.nx) (f1:¬(ow i=m2\/ow i=m1\/ow i=p\/ow i=ai)) (N:ow i≠o) (A:erHF h' i=Z Q):∃b,erHF s.h i=Z b/\yd V O w (uJ s.nx ai p m1 m2 len) b Q:=by
 have hr:=t.F hi;cases L:s.h.get (ow i) with
 |none=>
  unfold erHF at A;rw[t.hg,ax f0,ax f1,ax N,L]at A;cases A
 |some B=>
  have z:Pu h' (ow i) (ix i) (rnF ai s.nx len B)=Z Q:=by
   unfold erHF at A;rw[t.hg,ax f0,ax f1,ax N,L]at A;exact A
  have same:rnF ai s.nx len B=B->∃b,erHF s.h i=Z b/\yd V O w (uJ s.nx ai p m1 m2 len) b Q:=λe=>by
   rw[e,mf hr (λty l e=>hi.C _ _ l (by rw[L,e]))]at z;exact⟨Q,by unfold erHF;rw[L];exact z,yd.refl Q⟩
  cases B with
  |I F b x=>
   by_cases D:(aww F&&aB b ai)=J
   .have e0:rnF ai s.nx len (.I F b x)= .I F s.nx (rnX len F x):=by simp only[rnF];rw[aF D]
    rw[e0]at z;simp only[au]at D;have hba:=av D.2;subst hba;cases hix:ix i with
    |succ k=>rw[hix]at z;cases F<;>first|cases z|cases D.1
    |zero=>
     rw[hix]at z;have hsrc:erHF s.h i=uv b F x:=by unfold erHF;rw[L,hix];rfl
     rw[hsrc];cases F with
     |qh tyo=>exact an2 z
     |zq=>exact an3 z
     |_=>cases D.1
   .exact same (by simp only[rnF];rw[ax D])
  |_=>exact same rfl
def zL.key (z:erHF h' i=Z Q) (D:ow i=s.nx):∃k,i=jE s.nx (k+1)/\k/3<=len:=by
 cases hix:ix i with
 |zero=>rw[pw hix,D,t.new0]at z;cases z
 |succ k=>
  have en:i=jE s.nx (k+1):=by rw[<- D,<-hix,kP]
  refine ⟨k,en,?_⟩;subst en;rcases cJ len (k/3) with A|A
  .rw[t.gt A]at z;cases z
  .exact A
def zL.dS (hi:gZ s.h s.nx) (z:i/3<=len):erHF h' (uJ s.nx ai p m1 m2 len (jE s.nx (i+1)))=U:=by
 refine t.qj hi ?_;rcases Ab (nx:=s.nx) (a:=ai) (p:=p) (m1:=m1) (m2:=m2) z with ⟨_,e⟩|⟨_,_,e⟩|⟨_,_,e⟩|⟨_,_,e⟩<;>rw[e]
 .rw[iN];exact .inr (.inr (.inr rfl))
 .rw[dw];exact .inr (.inr (.inl rfl))
 .rw[dw];exact .inr (.inl rfl)
 .rw[dw];exact .inl rfl
def zL.inj1 (A:i/3<=len) (z:j/3<=len) (he:uJ s.nx ai p m1 m2 len (jE s.nx (i+1))=uJ s.nx ai p m1 m2 len (jE s.nx (j+1))):i=j:=by
 let⟨_,_,_,_,N,L⟩:=t.ne;have D:=t.hmm;rcases Ab (nx:=s.nx) (a:=ai) (p:=p) (m1:=m1) (m2:=m2) A with ⟨_,e⟩|⟨_,_,e⟩|⟨_,_,e⟩|⟨_,_,e⟩<;>rcases Ab (nx:=s.nx) (a:=ai) (p:=p) (m1:=m1) (m2:=m2) z with ⟨_,e'⟩|⟨_,_,e'⟩|⟨_,_,e'⟩|⟨_,_,e'⟩<;>rw[e,e']at he<;>clear e e'<;>first|omega|(have:=(vp he).2;omega)|(have:=uL he;omega)
def zL.inj (hi:gZ s.h s.nx) {b':kx} (z:erHF h' i=Z Q) (hm:erHF h' j=Z b') (he:uJ s.nx ai p m1 m2 len i=uJ s.nx ai p m1 m2 len j):i=j:=by
 have L:∀i,ow i≠s.nx->uJ s.nx ai p m1 m2 len i=i:=λi z=>by unfold uJ;rw[ax z]
 by_cases f0:ow i=s.nx
 .obtain⟨k,rfl,N⟩:=t.key z f0;by_cases A:ow j=s.nx
  .obtain⟨q,rfl,D⟩:=t.key hm A;rw[t.inj1 N D he]
  .rw[L j A]at he;rw[<- he,t.dS hi N]at hm;cases hm
 .rw[L i f0]at he;by_cases A:ow j=s.nx
  .obtain⟨q,rfl,D⟩:=t.key hm A;rw[he,t.dS hi D]at z;cases z
  .grind
def zL.cfg {a:Act} (c:jB P E nt np V s a w) (bp:erHF s.h (nm p)=Z ⟨ty,.mx (B++[.mp (nm m1),.mp (nm m2)])⟩) (hle:gX (erHF s.h) (erHF s.h) B ((bM S new.1).map .f)) (b1:erHF s.h (nm m1)=Z ⟨0,.mp (H3 new.2.1)⟩) (b2:erHF s.h (nm m2)=Z ⟨0,.mp (H3 new.2.2)⟩):∃φ',jB P E nt np φ' ⟨s.e,h',s.nx+1⟩ a w/\xN np V φ' (erHF s.h) (erHF h') w w:=by
 have hi:=c.qz;have hs:∀n,ow n≠s.nx->uJ s.nx ai p m1 m2 len n=n:=λn L=>by unfold uJ;rw[ax L]
 refine Lu c (uJ s.nx ai p m1 m2 len) hs (t.F hi) (t.inv hi) (λn b' z=>?_) λn m b b' L hm he=>t.inj hi L hm he
 by_cases D:ow n=s.nx
 .obtain⟨k,rfl,hk⟩:=t.key z D;rcases Ab (nx:=s.nx) (a:=ai) (p:=p) (m1:=m1) (m2:=m2) hk with ⟨g,e⟩|⟨g,A,e⟩|⟨g,A,e⟩|⟨g,A,e⟩<;>rw[e]
  .exact t.lt g z
  .rw[t.eqB g,ah]at z;subst z;refine ⟨_,bp,ajz c.zk A hle ?_ ?_⟩
   .rw[yr,ax (by omega),aF (by omega),ax (by omega),aF (by omega)]
   .rw[yr,ax (by omega),aF (by omega),ax (by omega),ax (by omega)]
  .rw[t.eqB g,ah]at z;subst z;refine ⟨_,b1,?_⟩;unfold wE;rw[ax (by omega),aF A];exact yd.refl _
  .rw[t.eqB g,ah]at z;subst z;refine ⟨_,b2,?_⟩;unfold wE;rw[ax (by omega),ax (by omega)];exact yd.refl _
 .rw[hs n D];by_cases f1:ow n=m2\/ow n=m1\/ow n=p\/ow n=ai
  .rw[t.qj hi f1]at z;cases z
  .by_cases N:ow n=o
   .cases hix:ix n with
    |succ k=>
     unfold erHF at z;rw[t.hg,ax D,ax f1,aF N,hix]at z;cases z
    |zero=>
     have en:n=nm o:=by rw[<- N];exact pw hix
     subst en;exact t.mapB hi z
   .exact t.oth hi D f1 N z
end ahh
def ase {s:TS} (c:jB P E nt np V s S w) {p:Nat} {kk:ν} {es:Y d?} (ho:s.h.get i=Z (.qm .zq j es kk (Z (p,af,0)))) {s':TS} (h:ahh s i j p kk es=Z s'):s'.e=s.e/\∃φ',jB P E nt np φ' s' S w/\xN np V φ' (erHF s.h) (erHF s'.h) w w:=by
 unfold ahh at h;split at h
 .rename_i ty a a0 xs ty' l ha hp;split at h
  .rename_i hty;have hty:=eq_of_beq hty;subst hty;split at h
   .rename_i z m m1 m2 hpk;split at h
    .rename_i e1 e2 N L;split at h
     .rename_i hq;simp only[au,cW]at hq;let⟨D,q2⟩:=hq;have D:=av D;subst D;have hmm:m1≠m2:=λe=>by simp_all
      let⟨b1,K1,V1,es1,g1⟩:=ac5 N;let⟨b2,K2,V2,es2,g2⟩:=ac5 L;simp[ah]at h;subst h;refine ⟨rfl,?_⟩;let⟨l',A⟩:=fF s.h l (c.qz.C p _ l hp);let⟨la1,la2,hlap,hla2,hle⟩:=rI (rA.refl (erHF s.h)) 40 a l z 0 _ l' hpk A Fm.zero;have hla2:la2=[.mp (nm m1),.mp (nm m2)]:=by simp[cM,b_,ah]at hla2;exact hla2.symm
      have bp:erHF s.h (nm p)=Z ⟨ty',.mx (la1++[.mp (nm m1),.mp (nm m2)])⟩:=by rw[bL,hp];simp[aD,ky,A];rw[hlap,hla2]
      refine zL.cfg (o:=i) (ai:=j) (p:=p) (m1:=m1) (m2:=m2) (len:=aj (α:=CU a) xs) (ty:=ty') (S:=a) (xs:=xs) (new:=(z,e1,e2)) (kk:=kk) (es:=es) ⟨ho,⟨a0,ha⟩,⟨l,hp⟩,⟨_,_,_,g1⟩,⟨_,_,_,g2⟩,hmm,rfl,λo=>?_⟩ c bp hle b1 b2;rw[PT.get_set,PT.get_set,PT.get_set,PT.get_set,PT.get_set,PT.get_set,PT.get_updI];by_cases f0:o=s.nx
      .rw[aF f0,aF f0];rfl
      .grind
     .cases h
    .cases h
   .cases h
  .cases h
 .cases h
def ZD {n:Nat} {ty:TypeId} {xss:Y (Y T.den)} {xs:Y T.den} (h:l! xss<=i):rh i ty T (xss.set n xs)=U:=by
 unfold rh
 grind
def HM (nx a r j n:Nat):Nat:=if ow n=nx then (match ix n with
 |0=>n
 |k+1=>if k=j then nm r else jE a (k+1)) else n
def yq (nx a r j k:Nat):HM nx a r j (jE nx (k+1))=if k=j then nm r else jE a (k+1):=by
 unfold HM;rw[iN,wq,aF rfl]
def asc {ty:TS} (c:jB P E nt np V ty S w) {r n:Nat} {kk:ν} {N:Nat} (ho:ty.h.get i=Z (.qm (.rr s N) j z kk (Z (r,J,n)))) {s':TS} (h:asd ty i j r n kk.1 s N z=Z s'):s'.e=ty.e/\∃φ',jB P E nt np φ' s' S w/\xN np V φ' (erHF ty.h) (erHF s'.h) w w:=by
 unfold asd at h;split at h
 .rename_i ty2 T a0 xss ty3 p a xs ha hrr;split at h
  .rename_i xs' hxs;split at h
   .rename_i hty;have hty:=eq_of_beq hty;subst hty;cases h;refine ⟨rfl,?_⟩;let⟨ee,exs⟩:=jA hxs;cases ee;have exs:xs'=xs:=exs;subst exs;have hfr:=c.qz.fresh;have lo:=c.qz.low i _ ho;have la:=c.qz.low j _ ha;have lr:=c.qz.low r _ hrr;have n1:i≠j:=λe=>by rw[e,ha]at ho;cases ho
    have n2:i≠r:=λe=>by rw[e,hrr]at ho;cases ho
    have n3:j≠r:=λe=>by rw[e,hrr]at ha;cases ha
    generalize hjj:kk.1.toNat=ai;generalize hh':(((ty.h.set i (Z (.I (.rr s N) ty.nx (oI (α:=Int) z ai (aS n))))).set j (Z (.qj J 0 0))).set r (Z (.qj p T.size (aj xs')))).set ty.nx (Z (.I (.ir ty3 T) 0 (mB (T:=T) xss kk.1 xs')))=h';have hg:∀o,h'.get o=if o=ty.nx then Z (.I (.ir ty3 T) 0 (mB (T:=T) xss kk.1 xs')) else if o=r then Z (.qj p T.size (aj xs')) else if o=j then Z (.qj J 0 0) else if o=i then Z (.I (.rr s N) ty.nx (oI (α:=Int) z ai (aS n))) else ty.h.get o:=λo=>by
     rw[<- hh',PT.get_set,PT.get_set,PT.get_set,PT.get_set]
    have hdead:∀n,ow n=r\/ow n=j->erHF h' n=U:=λn hn=>by
     unfold erHF;rcases hn with e|e
     .rw[hg,ax (by omega),aF e];simp only[aD];cases ix n<;>rfl
     .rw[hg,ax (by omega),ax (by omega),aF e];simp only[aD];cases ix n<;>rfl
    have hr:bY ty.h h':=λo q hi=>by
     rw[bD]at hi ⊢;rw[hg];by_cases L:o=ty.nx
     .rw[L,hfr]at hi;cases hi
     .rw[ax L];by_cases f1:o=r
      .rw[aF f1];rw[f1,hrr]at hi;exact hi
      .rw[ax f1];by_cases f2:o=j
       .rw[f2,ha]at hi;cases hi
       .rw[ax f2];by_cases f3:o=i
        .rw[aF f3];rw[f3,ho]at hi;simp only[aD,iM,su,dF]at hi ⊢;exact hi
        .rw[ax f3];exact hi
    have hinv:gZ h' (ty.nx+1):=by
     refine ⟨λo s l hil=>?_,λo c' hic=>?_⟩
     .rw[hg]at hil;split at hil
      .cases hil
      .split at hil
       .cases hil
       .split at hil
        .cases hil
        .split at hil
         .cases hil
         .exact fy hr l (c.qz.C o _ l hil)
     .rw[hg]at hic;split at hic
      .omega
      .split at hic
       .omega
       .split at hic
        .omega
        .split at hic
         .omega
         .have:=c.qz.low o c' hic;omega
    have hmN:∀k,erHF h' (jE ty.nx (k+1))=rh k ty3 T (oI xss ai xs'):=λk=>by
     rw[kG,hg,aF rfl,<-hjj];rfl
    have hmO:∀k,erHF ty.h (jE j (k+1))=rh k ty3 T xss:=λk=>by rw[kG,ha];rfl
    have hn0:erHF h' (nm ty.nx)=U:=by rw[bL,hg,aF rfl];rfl
    refine Lu c (HM ty.nx j r ai) (λn hn=>by unfold HM;rw[ax hn]) hr hinv ?_ ?_
    .intro q b' A;by_cases L:ow q=ty.nx
     .cases hix:ix q with
      |zero=>rw[pw hix,L,hn0]at A;cases A
      |succ k=>
       have en:q=jE ty.nx (k+1):=by rw[<- L,<-hix,kP]
       subst en;rw[hmN]at A;rw[yq];by_cases hk:k=ai
       .rw[aF hk];subst hk;refine ⟨b',?_,λφ' O' hφ keep oo hoo=>hoo.mono keep⟩;rw[bL,hrr];have hl:k<aj (α:=Y T.den) xss:=by
         rcases cJ k (aj (α:=Y T.den) xss) with h1|h1
         .exact h1
         .have A:=(ZD (ty:=ty3) (T:=T) (xss:=xss) (xs:=xs') (n:=k) h1).symm.trans A;cases A
        have A:=(Nw (ty:=ty3) (T:=T) (xss:=xss) (xs:=xs') hl).symm.trans A;unfold ZC at A;split at A
        .cases A
        next hz=>simp only[aD,ky];rw[ax (by rw[au];exact λe=>hz e.2)];exact A
       .rw[ax hk,hmO];exact⟨b',(It (ty:=ty3) (T:=T) (xss:=xss) (xs:=xs') hk).symm.trans A,λφ' O' hφ keep oo hoo=>hoo.mono keep⟩
     .have hs:HM ty.nx j r ai q=q:=by unfold HM;rw[ax L]
      rw[hs];by_cases f1:ow q=r\/ow q=j
      .rw[hdead q f1]at A;cases A
      .have f1a:ow q≠r:=λe=>f1 (.inl e)
       have f1b:ow q≠j:=λe=>f1 (.inr e)
       by_cases f2:ow q=i
       .cases hix:ix q with
        |succ k=>
         unfold erHF at A;rw[hg,ax L,ax f1a,ax f1b,aF f2,hix]at A;cases A
        |zero=>
         have en:q=nm i:=by rw[<- f2];exact pw hix
         subst en;rw[dw]at f1a f1b;rw[bL,hg,ax (by omega),ax f1a,ax f1b,aF rfl]at A;have A:Z (kx.mk s (.mx (lM ty.nx N 0 (oI (α:=Int) z ai (aS n)))))=Z b':=A;cases A;rw[bL,ho];refine ⟨⟨s,.mx ((lM j N 0 z).set kk.1.toNat (dA J r N n))⟩,rfl,λφ' O' hφ keep oo hoo=>?_⟩;rw[hjj]at hoo;have cl:∀(S k l:Nat),(uK S k N l).isCell=J:=λS k l=>by unfold uK;split<;>rfl
         refine yE (by rw[dF,lw,lw,dF]) (λo x' D=>?_) hoo;have D:=D.symm.trans (yC ty.nx N (oI (α:=Int) z ai (aS n)) 0 o);rw[b9,ey]at D;by_cases hij:ai=o
         .subst hij;rw[aF rfl]at D;by_cases hl:ai<aj (α:=Int) z
          .rw[aF hl]at D;simp only[bx,ah]at D;subst D;refine ⟨cl _ _ _,_,by rw[ey,aF rfl,aF (by rw[lw];exact hl)],λv hv=>?_⟩;have hn2:(aS n).toNat=n:=rfl;rw[hn2];unfold dA at hv;unfold uK;by_cases hz:n=0
           .rw[aF (by simpa using hz)]at hv ⊢;exact keep _ _ hv
           .rw[ax (by simpa using hz)]at hv ⊢;exact Ls (by rw[hφ,yq,aF rfl]) hv
          .rw[ax hl]at D;cases D
         .rw[ax hij]at D;cases hli:(z:η)[o]? with
          |none=>
           have D:Z x'=ie _ ((z:η)[o]?):=D;rw[hli]at D;cases D
          |some l=>
           have D:Z x'=ie _ ((z:η)[o]?):=D;rw[hli]at D;simp only[bx,ah]at D;subst D;refine ⟨cl _ _ _,uK j o N l.toNat,?_,λv hv=>?_⟩
           .rw[ey,ax hij];have:=yC j N z 0 o;rw[b9]at this;refine this.trans ?_;show ie _ ((z:η)[o]?)=_;rw[hli];rfl
           .unfold uK at hv ⊢;by_cases hz:l.toNat=0
            .rw[aF (by simpa using hz)]at hv ⊢;exact keep _ _ hv
            .rw[ax (by simpa using hz)]at hv ⊢;exact Ls (by rw[hφ,yq,ax (λe=>hij e.symm)]) hv
       .have hb2:(ty.h.get (ow q)).bind (Pu h' (ow q) (ix q))=Z b':=by
         unfold erHF at A;rw[hg,ax L,ax f1a,ax f1b,ax f2]at A;exact A
        cases hx:ty.h.get (ow q) with
        |none=>rw[hx]at hb2;cases hb2
        |some B=>
         rw[hx]at hb2;simp only[aD]at hb2;rw[mf hr (λs l e=>c.qz.C _ _ l (by rw[hx,e]))]at hb2;exact⟨b',by unfold erHF;rw[hx];exact hb2,λφ' O' hφ keep oo hoo=>hoo.mono keep⟩
    .intro q m b b' hn hm he;have key:∀n b,erHF h' n=Z b->ow n=ty.nx->∃k,n=jE ty.nx (k+1):=λn b hn L=>by
      cases hix:ix n with
      |zero=>rw[pw hix,L,hn0]at hn;cases hn
      |succ k=>exact⟨k,by rw[<- L,<-hix,kP]⟩
     have dS:∀k,erHF h' (HM ty.nx j r ai (jE ty.nx (k+1)))=U:=λk=>by
      refine hdead _ ?_;rw[yq];split
      .rw[dw];exact .inl rfl
      .rw[iN];exact .inr rfl
     by_cases L:ow q=ty.nx
     .obtain⟨k,rfl⟩:=key q b hn L;by_cases f1:ow m=ty.nx
      .obtain⟨k2,rfl⟩:=key m b' hm f1;rw[yq,yq]at he;have:k=k2:=by
        split at he<;>split at he
        .omega
        .have:=(vp he).2;omega
        .have:=(vp he).2;omega
        .have:=(vp he).2;omega
       rw[this]
      .rw[show HM ty.nx j r ai m=m from by unfold HM;rw[ax f1]]at he;rw[<- he,dS k]at hm;cases hm
     .rw[show HM ty.nx j r ai q=q from by unfold HM;rw[ax L]]at he;by_cases f1:ow m=ty.nx
      .obtain⟨k2,rfl⟩:=key m b' hm f1;rw[he,dS k2]at hn;cases hn
      .rw[show HM ty.nx j r ai m=m from by unfold HM;rw[ax f1]]at he;exact he
   .cases h
  .cases h
 .cases h
def Bx (nx a n:Nat):Nat:=if ow n=nx then jE a (ix n) else n
def yw (nx a k:Nat):Bx nx a (jE nx k)=jE a k:=by
 unfold Bx;rw[iN,wq,aF rfl]
def ahx (a n:Nat) (B:fk):iM (rnG a n B)=iM B:=by
 cases B with
 |I F b x=>
  simp[rnG];split<;>rfl
 |_=>rfl
def MQ {F:uE} (h:ajc F=J):(∃ty S,F= .ar ty S)\/∃ty T,F= .ir ty T:=by
 cases F with
 |ar ty S=>exact .inl ⟨ty,S,rfl⟩
 |ir ty T=>exact .inr ⟨ty,T,rfl⟩
 |_=>cases h
def afa {k:Nat} {F:uE} {x:F.ty.den} (z:KN i k F x=Z Q):∃b,KN j k F x=Z b/\yd V O w (Bx i j) b Q:=by
 cases F with
 |ar ty S=>
  let⟨ob,h1,A⟩:=gu.1 z;subst A;exact⟨_,gu.2 ⟨ob,h1,rfl⟩,WF (λ_=>yw i j _) (λ_=>yw i j _)⟩
 |ir ty T=>exact⟨Q,z,yd.refl _⟩
 |_=>cases z
def RN {R:AV->AV->Prop} {a nx:Nat} (z:∀j,R (.H (pM a j) 0) (.H (pM nx j) 0)):∀es:Y d?,EnR R (wV a es) (wV nx es)
 |[]=>trivial
 |e::r=>⟨rfl,z e.2,RN z r⟩
def aii (D:uv i (.qh s) z=Z Q):∃b,uv j (.qh s) z=Z b/\yd V O w (Bx i j) b Q:=by
 have hob:∀a,Bx i j (pM i a)=pM j a:=λa=>yw i j _
 have D:(if aj z==0 then U else Z (kx.mk s (.mx (gE (λa=>AV.H (pM i a) 0) z))))=Z Q:=D;show ∃b,(if aj z==0 then U else Z (kx.mk s (.mx (gE (λa=>AV.H (pM j a) 0) z))))=Z b/\_;split at D
 .cases D
 .rename_i L;rw[ax L];simp[ah]at D;subst D;refine ⟨_,rfl,λφ' O' hφ keep oo hoo=>yE (by simp) (λa x' A=>?_) hoo⟩;rw[bE]at A ⊢;cases hjx:z[a]? with
  |none=>rw[hjx]at A;cases A
  |some nx=>
   rw[hjx]at A;simp[bx,ah]at A;subst A;exact⟨rfl,_,rfl,λv N=>C' (by grind) N⟩
def aik {es:Y d?} (L:uv i .zq es=Z Q):∃b,uv j .zq es=Z b/\yd V O w (Bx i j) b Q:=by
 have hob:∀a,Bx i j (pM i a)=pM j a:=λa=>yw i j _
 cases L;refine ⟨_,rfl,λφ' O' hφ keep oo hoo=>?_⟩;let⟨A,z⟩:=EnR.get (RN (R:=λx y=>∀v,cz V O w x v->cz φ' O' w y v) (a:=j) (nx:=i) (λa v D=>C' (by grind) D) es);exact Mq A z hoo
def amr {D:Nat} (L:uv i (.rr s D) z=Z Q):∃b,uv j (.rr s D) z=Z b/\yd V O w (Bx i j) b Q:=by
 have L:Z (kx.mk s (.mx (lM i D 0 z)))=Z Q:=L;simp[ah]at L;subst L;refine ⟨_,rfl,λφ' O' hφ keep oo hoo=>yE (by rw[lw,lw]) (λa x' A=>?_) hoo⟩;rw[yC]at A ⊢;cases hjx:z[a]? with
 |none=>rw[hjx]at A;cases A
 |some l=>
  rw[hjx]at A;simp only[bx,ah]at A;subst A;refine ⟨by unfold uK;split<;>rfl,uK j (0+a) D l.toNat,rfl,λv N=>?_⟩;unfold uK at N ⊢;by_cases hz:(l.toNat==0)=J
  .grind
  .rw[ax hz]at N ⊢;exact Ls (by rw[hφ,yw]) N
def afd {F:uE} {x:F.ty.den} (A:uv i F x=Z Q):∃b,uv j F x=Z b/\yd V O w (Bx i j) b Q:=by
 cases F with
 |qh ty=>exact aii A
 |zq=>exact aik A
 |rr ty z=>exact amr A
 |_=>cases A
def asf {s:TS} (c:jB P E nt np V s S w) {s':TS} (h:ash s i=Z s'):s'.e=s.e/\∃φ',jB P E nt np φ' s' S w/\xN np V φ' (erHF s.h) (erHF s'.h) w w:=by
 unfold ash at h;split at h
 .rename_i F a0 x ha;split at h
  .rename_i hF;cases h;refine ⟨rfl,?_⟩;have hfr:=c.qz.fresh;have la:=c.qz.low i _ ha;have hi:=c.qz;generalize hh':((PT.updI (λ_ b=>rnG i s.nx b) 1 0 s.h).set i (Z (.qj J 0 0))).set s.nx (Z (.I F 0 x))=h';have hg:∀ai,h'.get ai=if ai=s.nx then Z (.I F 0 x) else if ai=i then Z (.qj J 0 0) else (s.h.get ai).map (rnG i s.nx):=λai=>by
    rw[<- hh',PT.get_set,PT.get_set,PT.get_updI]
   have hF0:su F x=U:=by rcases MQ hF with ⟨_,_,rfl⟩|⟨_,_,rfl⟩<;>rfl
   have hFB:∀q,uv q F x=U:=λq=>by rcases MQ hF with ⟨_,_,rfl⟩|⟨_,_,rfl⟩<;>rfl
   have hr:bY s.h h':=λai q hq=>by
    rw[bD]at hq ⊢;rw[hg];by_cases L:ai=s.nx
    .grind
    .rw[ax L];by_cases f1:ai=i
     .rw[f1,ha]at hq;simp only[aD,iM,hF0]at hq;cases hq
     .rw[ax f1];cases A:s.h.get ai with
      |none=>rw[A]at hq;cases hq
      |some B=>rw[A]at hq;simp only[bx,aD]at hq ⊢;rw[ahx];exact hq
   have hinv:gZ h' (s.nx+1):=by
    refine ⟨λai ty l hil=>?_,λai c' hic=>?_⟩
    .rw[hg]at hil;split at hil
     .cases hil
     .split at hil
      .cases hil
      .cases A:s.h.get ai with
       |none=>rw[A]at hil;cases hil
       |some B=>
        rw[A]at hil;simp only[bx,ah]at hil;cases B with
        |C ty2 l3=>
         simp only[rnG,fk.C.injEq]at hil;obtain⟨_,rfl⟩:=hil;exact fy hr l3 (hi.C ai _ l3 A)
        |I F b x=>simp only[rnG]at hil;split at hil<;>cases hil
        |_=>cases hil
    .rw[hg]at hic;split at hic
     .omega
     .split at hic
      .omega
      .cases A:s.h.get ai with
       |none=>rw[A]at hic;cases hic
       |some B=>have:=hi.low ai B A;omega
   have hdead:∀n,ow n=i->erHF h' n=U:=λn N=>by
    unfold erHF;rw[hg,ax (by omega),aF N];simp only[aD];cases ix n<;>rfl
   have hn0:erHF h' (nm s.nx)=U:=by
    rw[bL,hg,aF rfl];exact hFB _
   have hmN:∀k,erHF h' (jE s.nx (k+1))=KN s.nx k F x:=λk=>by rw[kG,hg,aF rfl];rfl
   have hmO:∀k,erHF s.h (jE i (k+1))=KN i k F x:=λk=>by rw[kG,ha];rfl
   refine Lu c (Bx s.nx i) (λn N=>by unfold Bx;rw[ax N]) hr hinv (λn b' D=>?_) λn m b b' N hm he=>?_
   .by_cases L:ow n=s.nx
    .cases hix:ix n with
     |zero=>rw[pw hix,L,hn0]at D;cases D
     |succ k=>
      have en:n=jE s.nx (k+1):=by rw[<- L,<-hix,kP]
      subst en;rw[hmN]at D;rw[yw,hmO];exact afa D
    .have hs:Bx s.nx i n=n:=by unfold Bx;rw[ax L]
     rw[hs];by_cases f1:ow n=i
     .grind
     .cases A:s.h.get (ow n) with
      |none=>
       unfold erHF at D
       grind
      |some B=>
       have z:Pu h' (ow n) (ix n) (rnG i s.nx B)=Z b':=by
        unfold erHF at D
        grind
       have same:rnG i s.nx B=B->∃b,erHF s.h n=Z b/\yd V (tot E V (erHF s.h)) w (Bx s.nx i) b b':=λe=>by
        rw[e,mf hr (λty l e=>hi.C _ _ l (by rw[A,e]))]at z;exact⟨b',by unfold erHF;rw[A];exact z,yd.refl b'⟩
       cases B with
       |I G b y=>
        by_cases hc:(!(ajc G)&&aB b i)=J
        .have e0:rnG i s.nx (.I G b y)= .I G s.nx y:=by simp only[rnG];rw[aF hc]
         rw[e0]at z;simp only[au,cW]at hc;have hba:=av hc.2;subst hba;cases hix:ix n with
         |succ k=>
          rw[hix]at z;cases G with
          |ar ty a|ir ty T=>cases hc.1
          |_=>cases z
         |zero=>
          rw[hix]at z;have hsrc:erHF s.h n=uv b G y:=by unfold erHF;rw[A,hix];rfl
          rw[hsrc];exact afd z
        .exact same (by simp only[rnG];rw[ax hc])
       |_=>exact same rfl
   .have hs:∀n,ow n≠s.nx->Bx s.nx i n=n:=λn N=>by unfold Bx;rw[ax N]
    have key:∀n b,erHF h' n=Z b->ow n=s.nx->Bx s.nx i n=jE i (ix n):=λn b N L=>by unfold Bx;rw[aF L]
    by_cases L:ow n=s.nx
    .rw[key n b N L]at he;by_cases f1:ow m=s.nx
     .rw[key m b' hm f1]at he;rw[<- kP n,<-kP m,L,f1,(vp he).2]
     .rw[hs m f1]at he;rw[<- he,hdead _ (iN ..)]at hm;cases hm
    .rw[hs n L]at he;by_cases f1:ow m=s.nx
     .rw[key m b' hm f1]at he;rw[he,hdead _ (iN ..)]at N;cases N
     .grind
  .cases h
 .cases h
variable {r:Y TV}
def asm {cty:TS} (c:jB P E nt np V cty S w) {id:Nat} (hb:cty.h.get i=Z (.C (Z s) r)) (hv:r[j]? =Z (.G id)) {ty:TypeId} {ai:Nat} (L:cty.h.get id=Z (.I (.qh ty) ai z)):∃φ',jB P E nt np φ' ⟨cty.e,((cty.h.set id (Z (.qj J 1 (aj z)))).set cty.nx (Z (.I (.qh ty) ai z))).set i (Z (.C (Z s) (splice r j [.G cty.nx]))),cty.nx+1⟩ S w/\xN np V φ' (erHF cty.h) (erHF (((cty.h.set id (Z (.qj J 1 (aj z)))).set cty.nx (Z (.I (.qh ty) ai z))).set i (Z (.C (Z s) (splice r j [.G cty.nx]))))) w w:=by
 have hfr:=c.qz.fresh;have hidlt:=c.qz.low id _ L;have hblt:=c.qz.low i _ hb;have hbid:i≠id:=λe=>by rw[e,L]at hb;cases hb
 have hbn:i≠cty.nx:=by omega
 have hin:id≠cty.nx:=by omega
 generalize hh2:(((cty.h.set id (Z (.qj J 1 (aj z)))).set cty.nx (Z (.I (.qh ty) ai z))).set i (Z (.C (Z s) (splice r j [.G cty.nx]))))=h2;have j_:∀b,h2.get b=if b=i then Z (.C (Z s) (splice r j [.G cty.nx])) else if b=cty.nx then Z (.I (.qh ty) ai z) else if b=id then Z (.qj J 1 (aj z)) else cty.h.get b:=λb=>by
  rw[<- hh2,PT.get_set,PT.get_set,PT.get_set]
 have hr:bY cty.h h2:=λb l hi=>by
  rw[bD]at hi ⊢;rw[j_];by_cases e1:b=i
  .subst e1;rw[hb]at hi;cases hi
  .rw[ax e1];by_cases e2:b=cty.nx
   .subst e2;rw[hfr]at hi;cases hi
   .rw[ax e2];by_cases e3:b=id
    .subst e3;rw[aF rfl];rw[L]at hi;exact hi
    .rw[ax e3];exact hi
 have hlo:=c.qz.C i _ r hb;let⟨l',hl'⟩:=fF cty.h r hlo;have hrow:b_ h2 (.G cty.nx)=Z (dA J cty.nx 1 (l! z)):=by
  simp only[b_,bD,j_];rw[ax hbn.symm];simp only[bq,aD,iM,su]
 have hsp:cM h2 (splice r j [.G cty.nx])=Z (splice l' j [dA J cty.nx 1 (l! z)]):=rk _ (gV hr _ _ hl') (by simp only[cM,hrow]);let⟨y,hy,hey⟩:=me hl' _ _ hv;have hy0:y=dA J id 1 (l! z):=by
  simp only[b_,bD,L,aD,iM,su,ah]at hey;exact hey.symm
 subst hy0;have hinv:gZ h2 (cty.nx+1):=by
  refine ⟨λb ty2 l2 hil=>?_,λb q hiq=>?_⟩
  .rw[j_]at hil;split at hil
   .simp only[ah,fk.C.injEq]at hil;obtain⟨_,rfl⟩:=hil;exact lT _ _ _ hsp
   .split at hil
    .cases hil
    .split at hil
     .cases hil
     .exact fy hr l2 (c.qz.C b _ l2 hil)
  .rw[j_]at hiq;split at hiq
   .omega
   .split at hiq
    .omega
    .split at hiq
     .omega
     .have:=c.qz.low b q hiq;omega
 have hdead:∀n,ow n=id->erHF h2 n=U:=λn hn=>by
  unfold erHF;rw[j_,ax (by omega),ax (by omega),aF hn];simp only[aD];cases ix n<;>rfl
 have hm0:∀n k,ow n=cty.nx->ix n=k+1->erHF h2 n=U:=λn k hn hk=>by
  unfold erHF;rw[j_,ax (by omega),aF hn,hk];rfl
 refine Lu c (λn=>if n=nm cty.nx then nm id else n) (λn hn=>by rw[ax (λe=>hn (by rw[e,dw]))]) hr hinv (λn b' A=>?_) λn m p q hn hm he=>?_
 .show ∃i,erHF cty.h (if n=nm cty.nx then nm id else n)=Z i/\_;by_cases f0:ow n=cty.nx
  .cases hix:ix n with
   |succ k=>rw[hm0 n k f0 hix]at A;cases A
   |zero=>
    have en:n=nm cty.nx:=by rw[<- f0];exact pw hix
    rw[aF en];subst en;rw[bL,j_,ax hbn.symm,aF rfl]at A;rw[bL,L];exact⟨b',A,λφ' O' hφ keep oo hoo=>hoo.mono keep⟩
  .have en:n≠nm cty.nx:=λe=>f0 (by rw[e,dw])
   rw[ax en];by_cases N:ow n=id
   .rw[hdead n N]at A;cases A
   .by_cases f2:ow n=i
    .cases hix:ix n with
     |succ k=>
      unfold erHF at A;rw[j_,aF f2,hix]at A;cases A
     |zero=>
      have eb:n=nm i:=by rw[<- f2];exact pw hix
      subst eb;rw[bL,j_,aF rfl]at A;simp only[aD,ky,hsp,ah]at A;subst A;refine ⟨⟨s,.mx l'⟩,by rw[bL,hb];simp only[aD,ky,hl'],λφ' O' hφ keep oo hoo=>?_⟩;have hlt:j<l! l':=(bA.1 hy).1;have hφ0:φ' (nm cty.nx)=V (nm id):=by rw[hφ];simp
      rw[qV rfl]at hoo ⊢;let⟨arr,a1,a2⟩:=hoo;refine ⟨arr,a1,?_⟩;unfold vH at a2 ⊢;refine ⟨by simp only[BC.len]at a2 ⊢;rw[nu (by simp;omega)];exact a2.1,λo x D=>?_⟩;simp only[BC.get]at D a2;rw[oc (by simp;omega)]at D;split at D
      .grind
      .split at D
       .rename_i h3 h4;simp only[cH]at h4;have hj:o=j:=by omega
        subst hj;simp only[xc,g_,ah]at D;subst D;let⟨_,v,a3,a4⟩:=a2.2 _ _ hy;refine ⟨by unfold dA;split<;>rfl,v,a3,?_⟩;unfold dA at a4 ⊢;by_cases hz:l! z=0
        .grind
        .rw[ax (by simpa using hz)]at a4 ⊢;exact Ls hφ0 a4
       .grind
    .cases D:cty.h.get (ow n) with
     |none=>
      unfold erHF at A;rw[j_,ax f2,ax f0,ax N,D]at A;cases A
     |some B=>
      unfold erHF at A;rw[j_,ax f2,ax f0,ax N,D]at A;simp only[aD]at A;rw[mf hr (λty r e=>c.qz.C _ _ r (by rw[D,e]))]at A;exact⟨b',by unfold erHF;rw[D];exact A,λφ' O' hφ keep oo hoo=>hoo.mono keep⟩
 .have he:(if n=nm cty.nx then nm id else n)=(if m=nm cty.nx then nm id else m):=he;by_cases f0:n=nm cty.nx
  .rw[aF f0]at he;by_cases N:m=nm cty.nx
   .rw[f0,N]
   .rw[ax N]at he;rw[<- he,hdead _ (dw id)]at hm;cases hm
  .rw[ax f0]at he;by_cases N:m=nm cty.nx
   .rw[aF N]at he;rw[he,hdead _ (dw id)]at hn;cases hn
   .rw[ax N]at he;exact he
def asa {s:TS} (c:jB P E nt np V s S w) {s':TS} (h:asb s i=Z s'):s'.e=s.e/\∃φ',jB P E nt np φ' s' S w/\xN np V φ' (erHF s.h) (erHF s'.h) w w:=by
 unfold asb at h;split at h
 next z=>exact ase c z h
 next z=>exact asc c z h
 .split at h
  .cases h
  .exact asf c h
 .cases h
def X9 {s:TS} (c:jB P E nt np V s S w) (N:bY s.h h) (D:erHF h=erHF s.h) (hinv:gZ h (s.nx+1)):jB P E nt np V ⟨s.e,h,s.nx+1⟩ S w/\xN np V V (erHF s.h) (erHF h) w w:=by
 refine ⟨⟨by rw[D];exact c.zk,λt x A=>?_,λn k hk=>my (c.dom n k hk),fZ c.low,hinv,λt x A=>mX N x (c.qp t x A),c.inert,c.size⟩,by rw[D];exact xN.refl _ _ _ _⟩;rw[D];simp[fM]at A;cases he:s.e.get t with
 |none=>rw[he]at A;cases A
 |some q=>
  rw[he]at A;let⟨z,L⟩:=pq s.h q (c.qp t q he);simp[aD,fU N q z L,ah]at A;subst A;exact c.env t _ (by simp[fM,he,aD,L])
def ax6 {s:TS} (c:jB P E nt np V s S w) {φ:Ty} {es:Y (T.den×φ.den)} (hb:s.h.get i=Z (.mp T φ es)) (hE:mpE T φ es=J) (ty:TypeId) (a:Ty):jB P E nt np V ⟨s.e,(s.h.set i (Z (.I .zq s.nx []))).set s.nx (Z (.I (.ar ty a) 0 [])),s.nx+1⟩ S w/\xN np V V (erHF s.h) (erHF ((s.h.set i (Z (.I .zq s.nx []))).set s.nx (Z (.I (.ar ty a) 0 [])))) w w:=by
 have hfr:=c.qz.fresh;have hlt:=c.qz.low i _ hb;generalize N:(s.h.set i (Z (.I .zq s.nx []))).set s.nx (Z (.I (.ar ty a) 0 []))=h';have D:∀id,h'.get id=if id=s.nx then Z (.I (.ar ty a) 0 []) else if id=i then Z (.I .zq s.nx []) else s.h.get id:=λid=>by
  rw[<- N,PT.get_set,PT.get_set]
 have L:bY s.h h':=λid q hi=>by
  rw[bD]at hi ⊢;rw[D];by_cases A:id=s.nx
  .grind
  .rw[ax A];by_cases z:id=i
   .rw[z,hb]at hi;cases hi
   .grind
 refine X9 c L ?_ ⟨λid ty l hil=>?_,λid c' hic=>?_⟩
 .funext n;unfold erHF;rw[D];by_cases A:ow n=s.nx
  .rw[aF A,A,hfr];cases ix n<;>rfl
  .rw[ax A];by_cases z:ow n=i
   .rw[aF z,z,hb];simp[aD];cases ix n with
    |succ k=>rfl
    |zero=>
     simp[Pu,ky,E6 (aiv hE),Td hE,C3];rfl
   .rw[ax z];cases hx:s.h.get (ow n) with
    |none=>rfl
    |some B=>exact mf L (λty l e=>c.qz.C _ _ l (by rw[hx,e])) _ _
 .rw[D]at hil;split at hil
  .cases hil
  .split at hil
   .cases hil
   .exact fy L l (c.qz.C id _ l hil)
 .rw[D]at hic;split at hic
  .omega
  .split at hic
   .omega
   .have:=c.qz.low id c' hic;omega
def ax2 {s:TS} (c:jB P E nt np V s S w) (ai:Nat) (ty:TypeId):jB P E nt np V ⟨s.e,s.h.set s.nx (Z (.I (.qh ty) ai [])),s.nx+1⟩ S w/\erHF (s.h.set s.nx (Z (.I (.qh ty) ai [])))=erHF s.h:=by
 have hfr:=c.qz.fresh;have z:bY s.h (s.h.set s.nx (Z (.I (.qh ty) ai []))):=bY.set λr z=>by rw[bD,hfr]at z;cases z
 have D:erHF (s.h.set s.nx (Z (.I (.qh ty) ai [])))=erHF s.h:=by
  funext n;unfold erHF;rw[PT.get_set];by_cases A:ow n=s.nx
  .rw[aF A,A,hfr];cases ix n<;>rfl
  .rw[ax A];cases L:s.h.get (ow n) with
   |none=>rfl
   |some B=>exact mf z (λty l e=>c.qz.C _ _ l (by rw[L,e])) _ _
 exact⟨(X9 c z D (c.qz.set z (n_ _) (Sm _) (λ_ _ he=>by cases he))).1,D⟩
end ren
def CR:∀(l:Y uB) (acc:Nat),Ux l acc=acc|||Ux l 0
 |[],acc=>by simp[Ux]
 |o::r,acc=>by
  simp only[Ux];cases o.dst with
  |none=>exact CR r acc
  |some d=>simp only[];rw[CR r (acc|||gC d),CR r (0|||gC d),wL,kL]
def Dg:∀(l:ι) (acc:Nat),PP l acc=acc|||PP l 0
 |[],acc=>by simp[PP]
 |k::r,acc=>by simp only[PP];rw[Dg r (acc|||gC k),Dg r (0|||gC k),wL,kL]
def kH:∀(l:Y Adj) (acc:Nat),mS l acc=acc|||mS l 0
 |[],acc=>by simp[mS]
 |.nil k _ _::r,acc=>by simp only[mS];rw[kH r (acc|||gC k),kH r (0|||gC k),wL,kL]
 |.qc _ _ _ _::r,acc|.mpt _ _ _::r,acc=>by exact kH r acc
 |.qx k _::r,acc=>by simp only[mS];rw[kH r (acc|||gC k),kH r (0|||gC k),wL,kL]
 |.pk _ _ _::r,acc|.fmp _ _ _ _::r,acc|.frw _ _ _ _::r,acc|.jg _ _::r,acc=>by exact kH r acc
def g9:∀(c:TC) (acc:Nat),c.asg acc=acc|||c.asg 0
 |.jy ops _,acc=>CR ops acc
 |.seq a b,acc=>by simp[TC.asg];rw[g9 b (a.asg acc),g9 b (a.asg 0),g9 a acc,kL]
 |.jx A a b,acc=>by simp[TC.asg];rw[g9 b (a.asg _),g9 b (a.asg (PP A.ks 0)),g9 a (PP A.ks acc),g9 a (PP A.ks 0),Dg A.ks acc,kL,kL,kL]
 |.cond _ a b,acc=>by simp[TC.asg];rw[g9 b (a.asg acc),g9 b (a.asg 0),g9 a acc,kL]
 |.block _ b,acc=>g9 b acc
 |.zf A _ b,acc|.loop A b,acc=>by simp[TC.asg];rw[g9 b (PP A.ks acc),g9 b (PP A.ks 0),Dg A.ks acc,kL]
 |.defer _ _ t,acc=>by simp[TC.asg]
 |.adj l c,acc=>by simp[TC.asg];rw[g9 c (mS l acc),g9 c (mS l 0),kH l acc,kL]
 |.split _ _ _ _ c,acc=>g9 c acc
 |.bsp _ a b,acc=>by simp[TC.asg];rw[g9 b (a.asg acc),g9 b (a.asg 0),g9 a acc,kL]
 |.unl _ b,acc=>g9 b acc
 |.skip,acc|.exit _,acc|.ret,acc|.jq,acc=>by simp[TC.asg]
variable {i j:Nat}
def vE {c:TC} (h:aO (c.asg 0) j=J):aO (c.asg i) j=J:=by rw[g9,bw,h];simp
def kq {c:TC} (h:aO i j=J):aO (c.asg i) j=J:=by rw[g9,bw,h];rfl
def ac6:∀{l:ι} {acc k:Nat},k∈l->aO (PP l acc) k=J
 |[],_,_,h=>by cases h
 |x::r,acc,k,h=>by
  simp[PP];rcases a_.1 h with rfl|h
  .rw[Dg,bw,bw,bt.2 rfl];simp
  .exact ac6 h
def X2:∀{l:Y uB} {acc:Nat} {o:uB} {d:Nat},o∈l->o.dst=Z d->aO (Ux l acc) d=J
 |[],_,_,_,h,_=>by cases h
 |x::r,acc,o,d,h,hd=>by
  simp[Ux];rcases a_.1 h with rfl|h
  .rw[hd];rw[CR,bw,bw,bt.2 rfl];simp
  .exact X2 h hd
def acf:∀{e:hX} {z:ι} {vs:Y TV},j_ e z=Z vs->l! vs=l! z/\∀(j k:Nat),z[j]? =Z k->∃v,vs[j]? =Z v/\e.get k=Z v
 |e,[],vs,h=>by simp[j_,ah]at h;subst h;exact⟨rfl,by simp⟩
 |e,k::r,vs,h=>by
  simp[j_]at h;split at h
  .rename_i v L;split at h
   .rename_i l N;simp[ah]at h;subst h;let⟨h1,h2⟩:=acf N;refine ⟨by simp[h1],λj D A=>?_⟩;cases j with
    |zero=>simp at A;subst A;exact⟨v,rfl,L⟩
    |succ j=>simpa using h2 j D (by grind)
   .cases h
  .cases h
variable {h:aZ}
def Mp {e:hX} (hi:sL e h):∀{A:ι} {vs:Y TV},j_ e A=Z vs->lN h vs=J
 |[],vs,z=>by simp[j_,ah]at z;subst z;rfl
 |k::r,vs,z=>by
  simp[j_]at z;split at z
  .rename_i v D;split at z
   next l L=>simp[ah]at z;subst z;simp[lN,au];exact⟨hi k v D,Mp hi L⟩
   .cases z
  .cases z
def Fx:∀{e:hX} {z:ι} {vs:Y TV},l! vs=l! z->∀t v,(ae9 e z vs).get t=Z v->(∃j:Nat,z[j]? =Z t/\vs[j]? =Z v)\/(t∉z/\e.get t=Z v)
 |e,[],[],_,t,v,h=>.inr ⟨by simp,h⟩
 |e,[],_::_,A,t,v,h|e,_::_,[],A,t,v,h=>by simp at A
 |e,k::r,u::l,A,t,v,h=>by
  simp[ae9,PT.get_set]at h;split at h
  next L=>subst L;cases h;exact .inl ⟨0,rfl,rfl⟩
  .rename_i L;rcases Fx (by grind) t v h with ⟨j,h1,D⟩|⟨h1,D⟩
   .exact .inl ⟨j+1,by simpa using h1,by simpa using D⟩
   .grind
def vM {e:hX}:∀{A:ι} {k:Nat} {v:TV},(Ga i e A).get k=Z v->k∈A/\e.get k=Z v/\wu v=J/\aO i k=af
 |[],k,v,h=>by simp[Ga,PT.get]at h
 |x::r,k,v,h=>by
  simp[Ga]at h;split at h
  .rename_i u D;split at h
   .rename_i L;rw[PT.get_set]at h;split at h
    .grind
    .obtain⟨h1,z⟩:=vM h;exact⟨by simp[h1],z⟩
   .obtain⟨h1,z⟩:=vM h;exact⟨by simp[h1],z⟩
  .obtain⟨h1,z⟩:=vM h;exact⟨by simp[h1],z⟩
def MM {e0 e:hX}:∀{z:ι},LF i e0 e z=J->∀k v,k∈z->e0.get k=Z v->wu v=J->aO i k=af->∃D,e.get k=Z D
 |[],_,k,v,h,_,_,_=>by cases h
 |x::r,A,k,v,h,L,hf,N=>by
  simp[LF,au]at A;rcases a_.1 h with rfl|h
  .grind
  .exact MM A.2 k v h L hf N
section walk
variable {P:Program} {E:Nat->Prop} {nt np:Nat}
variable {y:AV} {u:TV}
def WI (A:aja u=J) (z:b_ h u=Z y):Le y .emp:=by
 cases u with
 |nil=>simp[b_,ah]at z;subst z;exact Le.nilEmp
 |emp=>simp[b_,ah]at z;subst z;exact Le.refl _
 |_=>cases A
variable {w:World} {V:PM} {S:Act}
def adf {s:TS} (c:jB P E nt np V s S w) (ty:TypeId) (T:Ty):jB P E nt np V ⟨s.e,s.h.set s.nx (Z (.F ty J T [])),s.nx+1⟩ S w/\erHF (s.h.set s.nx (Z (.F ty J T [])))=erHF s.h/\bY s.h (s.h.set s.nx (Z (.F ty J T []))):=by
 have hfr:=c.qz.fresh;have D:bY s.h (s.h.set s.nx (Z (.F ty J T []))):=bY.set λr D=>by rw[bD,hfr]at D;cases D
 have L:erHF (s.h.set s.nx (Z (.F ty J T [])))=erHF s.h:=by
  funext n;by_cases hn:n=nm s.nx
  .subst hn;rw[bL,bL,PT.get_set,aF rfl,hfr];rfl
  .refine mO c.qz D (iL.set (by rw[hfr];rfl) rfl) λi e=>?_
   subst e;rw[PT.get_set,ax (λe=>hn (by rw[e]))]
 refine ⟨⟨by rw[L];exact c.zk,?_,λn k hk=>my (c.dom n k hk),fZ c.low,c.qz.set D (n_ _) (Sm _) (λ_ _ he=>by cases he),?_,c.inert,c.size⟩,L,D⟩
 .intro t x A;rw[L];simp[fM]at A;cases he:s.e.get t with
  |none=>rw[he]at A;cases A
  |some q=>
   rw[he]at A;let⟨z,N⟩:=pq s.h q (c.qp t q he);simp[aD,fU D q z N,ah]at A;subst A;exact c.env t _ (by simp[fM,he,aD,N])
 .intro t x A;exact mX D x (c.qp t x A)
def BU :∀{a b:Y TV},lN h a=J->lN h b=J->lN h (a++b)=J
 |[],_,_,z=>z
 |x::r,b,A,z=>by
  simp[lN,au]at A;simp[gJ,lN,au];exact⟨A.1,BU A.2 z⟩
def Rq :∀{a:Y TV} (n:Nat),lN h a=J->lN h (a.take n)=J
 |[],n,_=>by simp[lN]
 |x::r,0,_=>rfl
 |x::r,n+1,z=>by
  simp[lN,au]at z;simp[yh,lN,au];exact⟨z.1,Rq n z.2⟩
def Rr :∀{a:Y TV} (n:Nat),lN h a=J->lN h (a.drop n)=J
 |[],n,_=>by simp[lN]
 |x::r,0,z=>z
 |x::r,n+1,z=>by
  simp[lN,au]at z;exact Rr n z.2
variable {R:Type}
def BO {l:Y R} {x:R} (h:l[j]? =Z x):splice l j [x]=l:=by
 have z:j<l! l:=by grind
 rw[aH z,ah]at h;unfold splice;subst h;simp
def X_ {s:TS} (c:jB P E nt np V s S w) {id:Nat} {cty:M TypeId} {l:Y TV} {v:TV} (N:s.h.get id=Z (.C cty l)) (hv:l[j]? =Z v) (hn:aja v=J) (hu:b_ s.h u=Z .emp) (huo:PL s.h u=J):
 jB P E nt np V ⟨s.e,s.h.set id (Z (.C cty (splice l j [u]))),s.nx⟩ S w/\xN np V V (erHF s.h) (erHF (s.h.set id (Z (.C cty (splice l j [u]))))) w w:=by
 have D:bY s.h (s.h.set id (Z (.C cty (splice l j [u])))):=bY.set λr D=>by rw[bD,N]at D;cases D
 have hlo:=c.qz.C id _ l N;let⟨l',L⟩:=fF s.h l hlo;have hsp:cM s.h (splice l j [u])=Z (splice l' j [.emp]):=rk j L (by simp[cM,hu]);have hsp':cM (s.h.set id (Z (.C cty (splice l j [u])))) (splice l j [u])=Z (splice l' j [.emp]):=gV D _ _ hsp;let⟨y,hy,hey⟩:=me L j v hv;have hold:erHF s.h (nm id)=Z (akl cty l'):=by rw[bL,N];cases cty<;>(simp [aD,ky,L];rfl)
 have hnew:erHF (s.h.set id (Z (.C cty (splice l j [u])))) (nm id)=Z (akl cty (splice l' j [.emp])):=by
  rw[bL,PT.get_set,aF rfl];cases cty<;>(simp [aD,ky,hsp'];rfl)
 have hoth:∀n,n≠nm id->erHF (s.h.set id (Z (.C cty (splice l j [u])))) n=erHF s.h n:=λn hn'=>by
  refine mO c.qz D (iL.set (by rw[N];rfl) rfl) λi e=>?_
  subst e;rw[PT.get_set,ax (λe=>hn' (by rw[e]))]
 have hdom:rA (erHF s.h) (erHF (s.h.set id (Z (.C cty (splice l j [u]))))):=λn b hb'=>by grind
 have hcell:∀ty,cty=Z ty->∀x∈l',x.isCell=J:=λty hty x A=>by
  subst hty;let⟨k,hk⟩:=gm A;let⟨q,_,_,hat⟩:=c.zk.at_ _ _ hold;let⟨ob,_,hob⟩:=hat;let⟨arr,_,hca⟩:=hob;exact (hca.2 k x hk).1
 have hV:O5 (erHF s.h) (erHF (s.h.set id (Z (.C cty (splice l j [u]))))):=⟨hdom,λn b b' h1 h2=>by
  by_cases e:n=nm id
  .subst e;rw[hold]at h1;cases h1;rw[hnew]at h2;cases h2;have hle:gX (erHF s.h) (erHF (s.h.set id (Z (.C cty (splice l j [u]))))) l' (splice l' j [.emp]):=by
    have:=gX.splice j (gX.refl hdom l') (b:=[y]) (b':=[.emp]) ⟨(WI hn hey).toH hdom,trivial⟩;rw[BO hy]at this;exact this
   cases cty with
   |none=>exact gr.none
   |some ty=>
    refine gr.C rfl rfl hle λx A=>?_
    have A:x∈splice l' j [.emp]:=A;unfold splice at A;rw[bO,bO,aC]at A;rcases A with (A|A)|A
    .grind
    .subst A;rfl
    .grind
  .rw[hoth n e,h1]at h2;cases h2;exact gr.refl hdom b⟩
 refine ⟨⟨hV.zk c.zk,?_,c.dom,c.low,c.qz.set D (c.qz.low id _ N) (bI _) (λty l2 he=>?_),?_,c.inert,c.size⟩,⟨I3.refl _ _,λk _ ho=>hdom.own ho,λ_ _=>rfl⟩⟩
 .intro t x A;simp[fM]at A;cases he:s.e.get t with
  |none=>rw[he]at A;cases A
  |some q=>
   rw[he]at A;let⟨z,hz⟩:=pq s.h q (c.qp t q he);simp[aD,fU D q z hz,ah]at A;subst A;exact (c.env t _ (by simp[fM,he,aD,hz])).dom hdom
 .simp[fk.C.injEq]at he;obtain⟨_,rfl⟩:=he;refine fy D _ ?_;exact BU (BU (Rq _ hlo) (by simp only[lN,huo,ip])) (Rr _ hlo)
 .intro t x A;exact mX D x (c.qp t x A)
def jB.congr {s s':TS} (c:jB P E nt np V s S w) (he:∀t,s'.e.get t=s.e.get t) (hh:∀i,s'.h.get i=s.h.get i) (N:s'.nx=s.nx):jB P E nt np V s' S w/\erHF s'.h=erHF s.h:=by
 have L:bY s.h s'.h:=λi r hi=>by rw[bD]at hi ⊢;rw[hh];exact hi
 have hH:erHF s'.h=erHF s.h:=by funext n;exact mO c.qz L (λi k=>by rw[hh]) λi _=>hh i
 refine ⟨⟨by rw[hH];exact c.zk,?_,by rw[N];exact c.dom,by rw[N];exact c.low,⟨λi ty l A=>?_,λi b A=>?_⟩,λt v hv=>?_,c.inert,c.size⟩,hH⟩
 .intro t x D;rw[hH];simp[fM,he]at D;cases A:s.e.get t with
  |none=>rw[A]at D;cases D
  |some v=>
   rw[A]at D;let⟨z,hz⟩:=pq s.h v (c.qp t v A);simp[aD,fU L v z hz,ah]at D;subst D;exact c.env t _ (by simp[fM,A,aD,hz])
 .rw[hh]at A;exact fy L l (c.qz.C i _ l A)
 .rw[hh]at A;rw[N];exact c.qz.low i b A
 .rw[he]at hv;exact mX L v (c.qp t v hv)
variable {a:Int}
def U1 {f:Nat->M R} {r:R}:∀{m i:Nat},spl a f i m=Z r->∃j,a=aS j/\f j=Z r
 |0,i,h=>by cases h
 |m+1,i,h=>by
  rcases mQ h with ⟨h1,z⟩|⟨_,z⟩
  .grind
  .exact U1 z
def ahp {s s':TS} (c:jB P E nt np V s S w) {kd:IntKind} {v:Int} (h1:ajg s i j=Z (kd,v)) (z:YN s i j kd v=Z s'):jB P E nt np V s' S w/\erHF s'.h=erHF s.h/\∀t,s'.e.get t=s.e.get t:=by
 unfold ajg at h1;unfold YN at z;cases hk:s.e.get i with
 |none=>rw[hk]at h1;cases h1
 |some x=>
  rw[hk]at h1 z;cases x with
  |f T q=>
   cases T with
   |int kd'=>
    simp[ah,aU]at h1;obtain⟨rfl,rfl⟩:=h1;simp[ah]at z;subst z;have he:∀t,(s.e.set i (Z (.f (.int kd') q))).get t=s.e.get t:=λt=>by
     rw[PT.get_set];split
     .grind
     .rfl
    let⟨g1,N⟩:=c.congr (s':=⟨s.e.set i (Z (.f (.int kd') q)),s.h,s.nx⟩) he (λ_=>rfl) rfl;exact⟨g1,N,he⟩
   |_=>cases h1
  |H a0 A=>
   simp[]at h1 z;cases L:s.h.get a0 with
   |none=>rw[L]at h1;cases h1
   |some b=>
    rw[L]at h1 z;cases b with
    |C ty l=>
     cases ty with
     |none=>cases h1
     |some ty=>
     simp only[]at h1 z;cases D:l[A+j]? with
     |none=>rw[D]at h1;cases h1
     |some y=>
      rw[D]at h1;cases y with
      |f T q=>
       cases T with
       |int kd'=>
        simp[ah,aU]at h1;obtain⟨rfl,rfl⟩:=h1;simp[ah]at z;subst z;have hh:∀k,(s.h.set a0 (Z (.C (Z ty) (splice l (A+j) [.f (.int kd') q])))).get k=s.h.get k:=λk=>by
         rw[PT.get_set];split
         next e=>subst e;rw[L,BO D]
         .rfl
        let⟨g1,N⟩:=c.congr (s':=⟨s.e,s.h.set a0 (Z (.C (Z ty) (splice l (A+j) [.f (.int kd') q]))),s.nx⟩) (λ_=>rfl) hh rfl;exact⟨g1,N,λ_=>rfl⟩
       |_=>cases h1
      |_=>cases h1
    |_=>cases h1
  |_=>cases h1
mutual
def Rc (id sz n:Nat):∀v:TV,wu v=J->Pz id sz n v=v
 |.f _ _,_|.zd _ _ _ _ _,_|.emp,_|.nil,_|.undef,_|.np,_|.qw,_=>rfl
 |.agg l,h|.qg l,h=>by simp[Pz];rw[EO id sz n l h]
 |.zg _ _ _ _,h|.H _ _,h|.qy _ _ _,h|.G _,h|.zl _ _,h|.mp _,h|.qv _ _,h|.sb _,h=>by cases h
def EO (id sz n:Nat):∀l:Y TV,sd l=J->I8 id sz n l=l
 |[],_=>rfl
 |x::r,h=>by
  simp[sd,au]at h;simp only[I8];rw[Rc id sz n x h.1,EO id sz n r h.2]
end
section subs
variable {id sz n:Nat} {h h':aZ}
mutual
def Sv (hr:bY h h') (hid:eR h' id=Z (af,sz,n)):∀(v:TV) (y:AV),b_ h v=Z y->b_ h' (Pz id sz n v)=Z y
 |.qy i s m,y,he=>by
  simp[b_,ah]at he;subst he;simp only[Pz];split
  .rename_i hq;simp only[au]at hq;have e1:=av hq.1.1;have e2:=av hq.1.2;have e3:=av hq.2;subst e1 e2 e3;simp[b_,hid,dA,kN,cZ,dZ]
  .rfl
 |.agg l,y,he|.qg l,y,he|.qv g l,y,he=>by
  simp[b_]at he;cases hl:cM h l with
  |none=>rw[hl]at he;cases he
  |some l'=>rw[hl]at he;simp only[Pz,b_,yp hr hid l l' hl];exact he
 |.f T v,y,he|.zd T xs j hj off,y,he|.zg _ _ _ _,y,he|.H _ _,y,he|.G _,y,he|.zl _ _,y,he|.emp,y,he|.nil,y,he|.mp _,y,he|.undef,y,he|.np,y,he|.qw,y,he|.sb _,y,he=>fU hr _ _ he
def yp (hr:bY h h') (hid:eR h' id=Z (af,sz,n)):∀(l:Y TV) (l':Y AV),cM h l=Z l'->cM h' (I8 id sz n l)=Z l'
 |[],l',he=>by simp[cM,ah]at he;subst he;rfl
 |x::r,l',he=>by
  obtain⟨y,l2,rfl,h1,h2⟩:=c9 he;exact qC (Sv hr hid x y h1) (yp hr hid r l2 h2)
end
end subs
variable {T:Ty}
def awl {s:TS} (c:jB P E nt np V s S w) {n:Nat} {s':TS} (hp:pkS s T i j n=Z s'):jB P E nt np V s' S w/\xN np V V (erHF s.h) (erHF s'.h) w w/\fJ 0 s.e s'.e:=by
 unfold pkS at hp;split at hp
 .rename_i ty l hb;split at hp
  .rename_i hs;have hs:=av hs;subst hs;split at hp
   .rename_i xs m hpk;split at hp
    .cases hp
    .rename_i hmid;cases hp;have hm:dP s.h m:=SM n l xs m hpk;let⟨l',hl⟩:=fF s.h l (c.qz.C i _ l hb);have hidlt:=c.qz.low i _ hb;have j_:∀id,((PT.updI (λ_ b=>YI i T.size n b) 1 0 (dU m s.h)).set i (Z (.F ty af T xs))).get id=if id=i then Z (.F ty af T xs) else if aO m id then (s.h.get id).map vb else (s.h.get id).map (YI i T.size n):=λid=>by
      rw[PT.get_set];by_cases e:id=i
      .rw[aF e,aF e]
      .rw[ax e,ax e,PT.get_updI,iQ];split
       .cases A:s.h.get id with
        |none=>rfl
        |some b=>
         let⟨p1,s1,n1,e1⟩:=MJ b;simp only[bx,e1,YI]
       .rfl
     generalize hH2:((PT.updI (λ_ b=>YI i T.size n b) 1 0 (dU m s.h)).set i (Z (.F ty af T xs)))=h2 at j_ ⊢;have hr:bY s.h h2:=λid r hi=>by
      rw[bD]at hi ⊢;rw[j_];by_cases e:id=i
      .subst e;rw[hb]at hi;cases hi
      .rw[ax e];cases A:s.h.get id with
       |none=>rw[A]at hi;cases hi
       |some b=>
        rw[A]at hi;split
        .exact Rk hi
        .cases b<;>first|exact hi|cases hi
     have hnone:∀id,aO m id=J->erHF h2 (nm id)=U:=λid hi=>by
      have e:id≠i:=λe=>by subst e;exact hmid hi
      let⟨ty',p',T',xs',L⟩:=hm id hi;rw[bL,j_,ax e,aF hi,L];rfl
     have hme:iL s.h h2:=λid k=>by
      rw[j_];by_cases e:id=i
      .rw[aF e,e,hb];rfl
      .rw[ax e];split
       next hmi=>let⟨ty',p',T',xs',L⟩:=hm id hmi;rw[L];rfl
       .cases A:s.h.get id with
        |none=>rfl
        |some b=>cases b<;>rfl
     have hdom:rA (erHF s.h) (erHF h2):=λq b hq=>by
      rcases Nz hme hq with h0|⟨id,cc,rfl,D,h4⟩
      .exact⟨b,h0⟩
      rw[bL];rw[j_]at D;by_cases e:id=i
      .subst e;rw[hb];simp only[aD,ky,hl];exact⟨_,rfl⟩
      .rw[ax e]at D;cases A:s.h.get id with
       |none=>rw[A]at D;split at D<;>cases D
       |some b0=>
        rw[A]at D;split at D
        .grind
        .simp only[bx,ah]at D;subst D;simp only[aD];cases b0 with
         |C ty0 l0=>
          let⟨l0',hl0⟩:=fF s.h l0 (c.qz.C id _ l0 A);exact⟨akl ty0 l0',by cases ty0<;>(simp only[ky,hl0];rfl)⟩
         |_=>exact⟨_,h4⟩
     have giv:Fm s.h (erHF s.h) (erHF h2) m:=λid hi=>⟨rfl,hnone id hi⟩
     let⟨hle,hlen⟩:=FL hdom n l xs m l' hpk hl giv;have hrow:eR h2 i=Z (af,T.size,n):=by rw[bD,j_,aF rfl,<-hlen];rfl
     have hV:O5 (erHF s.h) (erHF h2):=⟨hdom,λq b b' D h4=>by
      rcases Nz hme h4 with h0|⟨id,cc,rfl,h5,h6⟩
      .rw[D]at h0;cases h0;exact gr.refl hdom _
      rw[bL]at D;rw[j_]at h5;by_cases e:id=i
      .subst e;rw[aF rfl]at h5;cases h5;rw[hb]at D;simp only[aD,ky,hl,ah]at D;subst D;simp only[ky,kN,cZ,dZ,ah]at h6;subst h6;refine gr.C rfl rfl hle λx L=>?_
       simp only[BC.toMx]at L;obtain⟨q,hq,rfl⟩:=cu.1 L;exact md T _ q hq
      .rw[ax e]at h5;cases A:s.h.get id with
       |none=>rw[A]at h5;split at h5<;>cases h5
       |some b0=>
        rw[A]at h5 D;split at h5
        .grind
        .simp only[bx,ah]at h5;subst h5;have:b=b':=by
          simp only[aD]at D;cases b0 with
          |C ty0 l0=>
           let⟨l0',hl0⟩:=fF s.h l0 (c.qz.C id _ l0 A);cases ty0<;>
            (simp only[ky,hl0,ah]at D
             simp only[YI,ky,yp hr hrow l0 l0' hl0,ah]at h6;rw[<- D,<-h6])
          |F ty1 p1 T1 xs1=>
           have N:ky h2 (.F ty1 p1 T1 xs1)=Z b:=D;exact fO (N.symm.trans h6)
          |qj p1 s1 n1=>
           have N:ky h2 (.qj p1 s1 n1)=Z b:=D;exact fO (N.symm.trans h6)
          |mp K1 V1 es1=>
           have N:ky h2 (.mp K1 V1 es1)=Z b:=D;exact fO (N.symm.trans h6)
          |I F1 a1 x1=>
           have N:ky h2 (.I F1 a1 x1)=Z b:=D;exact fO (N.symm.trans h6)
          |qm F1 a1 x1 k1 p1=>
           have N:ky h2 (.qm F1 a1 x1 k1 p1)=Z b:=D;exact fO (N.symm.trans h6)
         subst this;exact gr.refl hdom b⟩
     refine ⟨⟨hV.zk c.zk,?_,c.dom,c.low,⟨λid ty' l2 A=>?_,λid b A=>?_⟩,?_,c.inert,c.size⟩,⟨I3.refl _ _,λk _ hk=>hdom.own hk,λ_ _=>rfl⟩,?_⟩
     .intro t x L;simp only[fM,PT.get_updI]at L;cases he:s.e.get t with
      |none=>rw[he]at L;cases L
      |some v=>
       rw[he]at L;let⟨z,hz⟩:=pq s.h v (c.qp t v he);simp only[bx,aD,Sv hr hrow v z hz,ah]at L;subst L;exact (c.env t _ (by simp only[fM,he,aD,hz])).dom hdom
     .rw[j_]at A;by_cases e:id=i
      .rw[aF e]at A;cases A
      .rw[ax e]at A;cases hg0:s.h.get id with
       |none=>rw[hg0]at A;split at A<;>cases A
       |some b0=>
        rw[hg0]at A;split at A
        .simp only[bx,ah]at A;exact (BY A).elim
        .simp only[bx,ah]at A;cases b0 with
         |C ty0 l0=>
          simp only[YI,fk.C.injEq]at A;obtain⟨_,rfl⟩:=A;let⟨l0',hl0⟩:=fF s.h l0 (c.qz.C id _ l0 hg0);exact lT _ _ _ (yp hr hrow l0 l0' hl0)
         |_=>cases A
     .rw[j_]at A;by_cases e:id=i
      .subst e;exact hidlt
      .rw[ax e]at A;cases hg0:s.h.get id with
       |none=>rw[hg0]at A;split at A<;>cases A
       |some b0=>exact c.qz.low id b0 hg0
     .intro t x L;simp only[PT.get_updI]at L;cases he:s.e.get t with
      |none=>rw[he]at L;cases L
      |some v=>
       rw[he]at L;simp only[bx,ah]at L;subst L;let⟨z,hz⟩:=pq s.h v (c.qp t v he);exact Iw _ _ _ (Sv hr hrow v z hz)
     .intro k _ v' hv';simp only[PT.get_updI]at hv';cases he:s.e.get k with
      |none=>rw[he]at hv';cases hv'
      |some v=>
       rw[he]at hv';simp only[bx,ah]at hv';subst hv';exact⟨v,rfl,λhf=>Rc _ _ _ v hf⟩
   .cases hp
  .cases hp
 .cases hp
def awh {s:TS} (c:jB P E nt np V s S w) {s':TS} (h:K_ s (.qx i j)=Z s'):∃φ',jB P E nt np φ' s' S w/\xN np V φ' (erHF s.h) (erHF s'.h) w w/\fJ (mS [.qx i j] 0) s.e s'.e:=by
 simp only[K_]at h;split at h
 .rename_i b o hk;split at h
  .rename_i cty l hb;split at h
   .rename_i id hv;split at h
    .rename_i ty p T xs D;cases h;have hfr:=c.qz.fresh;have hidlt:=c.qz.low id _ D;have hblt:=c.qz.low b _ hb;have hbid:b≠id:=λe=>by rw[e,D]at hb;cases hb
     have hbn:b≠s.nx:=by omega
     have hin:id≠s.nx:=by omega
     generalize hh2:(((s.h.set id (Z (.qj p T.size (l! xs)))).set s.nx (Z (.F ty p T xs))).set b (Z (.C (Z cty) (splice l (o+j) [.G s.nx]))))=L;have j_:∀k,L.get k=if k=b then Z (.C (Z cty) (splice l (o+j) [.G s.nx])) else if k=s.nx then Z (.F ty p T xs) else if k=id then Z (.qj p T.size (l! xs)) else s.h.get k:=λk=>by
      rw[<- hh2,PT.get_set,PT.get_set,PT.get_set]
     have hr:bY s.h L:=λk r hi=>by
      rw[bD]at hi ⊢;rw[j_];by_cases e1:k=b
      .subst e1;rw[hb]at hi;cases hi
      .rw[ax e1];by_cases e2:k=s.nx
       .subst e2;rw[hfr]at hi;cases hi
       .rw[ax e2];by_cases N:k=id
        .subst N;rw[aF rfl];rw[D]at hi;exact hi
        .rw[ax N];exact hi
     have hlo:=c.qz.C b _ l hb;let⟨l',hl'⟩:=fF s.h l hlo;have hrow:b_ L (.G s.nx)=Z (dA p s.nx T.size (l! xs)):=by
      simp only[b_,bD,j_];rw[ax hbn.symm];simp only[bq,aD,iM]
     have hsp:cM L (splice l (o+j) [.G s.nx])=Z (splice l' (o+j) [dA p s.nx T.size (l! xs)]):=rk _ (gV hr _ _ hl') (by simp only[cM,hrow]);let⟨y,hy,hey⟩:=me hl' _ _ hv;have hy0:y=dA p id T.size (l! xs):=by
      simp only[b_,bD,D,aD,iM,ah]at hey;exact hey.symm
     subst hy0;have hold:erHF s.h (nm b)=Z ⟨cty,.mx l'⟩:=by rw[bL,hb];simp only[aD,ky,hl']
     have hnew:erHF L (nm b)=Z ⟨cty,.mx (splice l' (o+j) [dA p s.nx T.size (l! xs)])⟩:=by
      rw[bL,j_,aF rfl];simp only[aD,ky,hsp]
     have hdead:erHF L (nm id)=U:=by rw[bL,j_,ax hbid.symm,ax hin,aF rfl];rfl
     have hnx2:erHF L (nm s.nx)=if p&&l! xs==0 then U else Z ⟨ty,.fz (xs.flatMap (bM T))⟩:=by rw[bL,j_,ax hbn.symm,aF rfl];rfl
     have hid0:erHF s.h (nm id)=if p&&l! xs==0 then U else Z ⟨ty,.fz (xs.flatMap (bM T))⟩:=by rw[bL,D];rfl
     have hoth:∀n,n≠nm b->n≠nm s.nx->n≠nm id->erHF L n=erHF s.h n:=λn e1 e2 N=>mO c.qz hr (iL.of λk=>by
      rw[j_];by_cases f1:k=b
      .rw[aF f1,f1,hb];exact .inr ⟨rfl,rfl⟩
      .rw[ax f1];by_cases f2:k=s.nx
       .rw[aF f2,f2,hfr];exact .inr ⟨rfl,rfl⟩
       .rw[ax f2];by_cases f3:k=id
        .rw[aF f3,f3,D];exact .inr ⟨rfl,rfl⟩
        .rw[ax f3];exact .inl rfl) λk e=>by
      subst e;rw[j_,ax (λe=>e1 (by rw[e])),ax (λe=>e2 (by rw[e])),ax (λe=>N (by rw[e]))]
     have hnb:nm b≠nm s.nx:=λe=>hbn (uL e)
     have hbi:nm b≠nm id:=λe=>hbid (uL e)
     have hni:nm s.nx≠nm id:=λe=>hin (uL e).symm
     have hinv:gZ L (s.nx+1):=by
      refine ⟨λk ty2 l2 hil=>?_,λk q hiq=>?_⟩
      .rw[j_]at hil;split at hil
       .simp only[ah,fk.C.injEq]at hil;obtain⟨_,rfl⟩:=hil;exact lT _ _ _ hsp
       .split at hil
        .cases hil
        .split at hil
         .cases hil
         .exact fy hr l2 (c.qz.C k _ l2 hil)
      .rw[j_]at hiq;split at hiq
       .omega
       .split at hiq
        .omega
        .split at hiq
         .omega
         .have:=c.qz.low k q hiq;omega
     have hE:∀t x,fM s.e L t=Z x->fM s.e s.h t=Z x:=λt x A=>by
      simp only[fM]at A ⊢;cases he:s.e.get t with
      |none=>rw[he]at A;cases A
      |some q=>
       rw[he]at A;let⟨z,hz⟩:=pq s.h q (c.qp t q he);simp only[aD,fU hr q z hz,ah]at A;subst A;simp only[aD,hz]
     by_cases hp:(p&&l! xs==0)=J
     ·
      have hH:erHF L=erHF s.h:=by
       funext n;by_cases e1:n=nm b
       .subst e1;rw[hold,hnew];have:dA p s.nx T.size (l! xs)=dA p id T.size (l! xs):=by unfold dA;rw[aF hp,aF hp]
        rw[this,BO hy]
       .by_cases e2:n=nm s.nx
        .subst e2;rw[hnx2,aF hp,bL,hfr];rfl
        .by_cases N:n=nm id
         .subst N;rw[hdead,hid0,aF hp]
         .exact hoth n e1 e2 N
      refine ⟨V,⟨by rw[hH];exact c.zk,λt x A=>by rw[hH];exact c.env t x (hE t x A),λn q hq=>my (c.dom n q hq),fZ c.low,hinv,λt x A=>mX hr x (c.qp t x A),c.inert,c.size⟩,by rw[hH];exact xN.refl _ _ _ _,fJ.refl _ _⟩
     .have hid1:erHF s.h (nm id)=Z ⟨ty,.fz (xs.flatMap (bM T))⟩:=by rw[hid0,ax hp]
      let⟨kk,k1,k2,ob,k3,k4⟩:=c.zk.at_ _ _ hid1;have hφn:V (nm s.nx)=U:=by
       cases hq:V (nm s.nx) with
       |none=>rfl
       |some q=>have:=c.dom _ q hq;rw[dw]at this;omega
      let nw:HF:=λn=>if n=nm s.nx then Z ⟨ty,.fz (xs.flatMap (bM T))⟩ else U
      have hsh:IY w w kk ob:=⟨rfl,rfl,rfl,rfl,k3,λ_ _=>rfl,λ_=>rfl⟩
      let⟨φ',p1,p2,p3,p4⟩:=c.zk.wren hid1 k1 hφn hsh k4 nw (by simp[nw]) (by simp only[nw];rw[ax hni.symm]);have hb1:fw (erHF s.h) [nm s.nx,nm id] nw (nm b)=Z ⟨cty,.mx l'⟩:=by
       unfold fw;rw[ax (by simp[hnb,hbi]),hold]
      let⟨kb,b1,b2,ob2,b3,b4⟩:=p4.at_ _ _ hb1;have hlt:o+j<l! l':=by
       rcases cJ (o+j) (l! l') with h'|h'
       .exact h'
       .rw[dL h']at hy;cases hy
      have hob:ic φ' (tot E φ' (fw (erHF s.h) [nm s.nx,nm id] nw)) w ⟨cty,.mx (splice l' (o+j) [dA p s.nx T.size (l! xs)])⟩ ob2:=by
       rw[qV rfl]at b4 ⊢;let⟨arr,a1,a2⟩:=b4;refine ⟨arr,a1,?_⟩;unfold vH at a2 ⊢;refine ⟨by simp only[BC.len]at a2 ⊢;rw[nu (by simp;omega)];exact a2.1,λoff x A=>?_⟩;simp only[BC.get]at A a2;rw[oc (by simp;omega)]at A;split at A
       .exact a2.2 off x A
       .split at A
        .rename_i h3 h4;simp only[cH]at h4;have hj:off=o+j:=by omega
         subst hj;simp only[xc,g_,ah]at A;subst A;let⟨_,v,a3,a4⟩:=a2.2 _ _ hy;unfold dA at a4 ⊢;rw[ax hp]at a4 ⊢;refine ⟨rfl,v,a3,?_⟩;cases a4 with
         |@G _ _ _ cc q hφq hn hc hs2=>
          have:=p2.sub _ _ k1;rw[this,ah]at hφq;subst hφq;exact .G p1 hn hc hs2
        .exact a2.2 off x A
      let⟨q1,q2⟩:=p4.wset hb1 b1 (⟨rfl,rfl,rfl,rfl,b3,λ_ _=>rfl,λ_=>rfl⟩:IY w w kb ob2) hob (λn=>if n=nm b then Z ⟨cty,.mx (splice l' (o+j) [dA p s.nx T.size (l! xs)])⟩ else U) (by simp);have hH:fw (fw (erHF s.h) [nm s.nx,nm id] nw) [nm b] (λn=>if n=nm b then Z ⟨cty,.mx (splice l' (o+j) [dA p s.nx T.size (l! xs)])⟩ else U)=erHF L:=by
       funext n;by_cases e1:n=nm b
       .subst e1;rw[hnew];simp[fw]
       .by_cases e2:n=nm s.nx
        .subst e2;rw[hnx2,ax hp];simp[fw,nw,hnb.symm]
        .by_cases N:n=nm id
         .subst N;rw[hdead];simp[fw,nw,hbi.symm,hni.symm]
         .rw[hoth n e1 e2 N];simp[fw,e1,e2,N]
      rw[hH]at q1 q2;have m:=p2.trans q1;refine ⟨φ',⟨q2,λt x A=>m.zj (c.env t x (hE t x A)),λn q hq=>?_,fZ c.low,hinv,λt x A=>mX hr x (c.qp t x A),c.inert,c.size⟩,⟨I3.refl _ _,m.zw,λk hi=>?_⟩,fJ.refl _ _⟩
      .rcases p3 n q hq with h4|h4
       .exact my (c.dom n q h4)
       .simp only[aC]at h4;subst h4;rw[dw];exact n_ _
      .cases hq:φ' k with
       |none=>
        cases hq2:V k with
        |none=>rfl
        |some z=>rw[p2.sub _ _ hq2]at hq;cases hq
       |some z=>
        rcases p3 _ _ hq with h4|h4
        .exact h4.symm
        .simp only[aC]at h4;subst h4;rw[dw]at hi;have:=c.low;omega
    next ty ai js D=>cases h;let⟨φ',p1,p2⟩:=asm c hb hv D;exact⟨φ',p1,p2,fJ.refl _ _⟩
    .cases h
   .cases h
  .cases h
 .rename_i id hk;split at h
  .rename_i ty p T xs D;cases h;have hfr:=c.qz.fresh;have hidlt:=c.qz.low id _ D;have hin:id≠s.nx:=by omega
   generalize hh2:((s.h.set id (Z (.qj p T.size (l! xs)))).set s.nx (Z (.F ty p T xs)))=L;have j_:∀k,L.get k=if k=s.nx then Z (.F ty p T xs) else if k=id then Z (.qj p T.size (l! xs)) else s.h.get k:=λk=>by
    rw[<- hh2,PT.get_set,PT.get_set]
   have hr:bY s.h L:=λk r hi=>by
    rw[bD]at hi ⊢;rw[j_];by_cases e2:k=s.nx
    .subst e2;rw[hfr]at hi;cases hi
    .rw[ax e2];by_cases N:k=id
     .subst N;rw[aF rfl];rw[D]at hi;exact hi
     .rw[ax N];exact hi
   have hrow:b_ L (.G s.nx)=Z (dA p s.nx T.size (l! xs)):=by
    simp only[b_,bD,j_,bq,aD,iM]
   have hrow0:b_ s.h (.G id)=Z (dA p id T.size (l! xs)):=by
    simp only[b_,bD,D,aD,iM]
   have hdead:erHF L (nm id)=U:=by rw[bL,j_,ax hin,aF rfl];rfl
   have hnx2:erHF L (nm s.nx)=if p&&l! xs==0 then U else Z ⟨ty,.fz (xs.flatMap (bM T))⟩:=by rw[bL,j_,aF rfl];rfl
   have hid0:erHF s.h (nm id)=if p&&l! xs==0 then U else Z ⟨ty,.fz (xs.flatMap (bM T))⟩:=by rw[bL,D];rfl
   have hoth:∀n,n≠nm s.nx->n≠nm id->erHF L n=erHF s.h n:=λn e2 N=>mO c.qz hr (iL.of λk=>by
    rw[j_];by_cases f2:k=s.nx
    .rw[aF f2,f2,hfr];exact .inr ⟨rfl,rfl⟩
    .rw[ax f2];by_cases f3:k=id
     .rw[aF f3,f3,D];exact .inr ⟨rfl,rfl⟩
     .rw[ax f3];exact .inl rfl) λk e=>by
    subst e;rw[j_,ax (λe=>e2 (by rw[e])),ax (λe=>N (by rw[e]))]
   have hni:nm s.nx≠nm id:=λe=>hin (uL e).symm
   have hinv:gZ L (s.nx+1):=by
    refine ⟨λk ty2 l2 hil=>?_,λk q hiq=>?_⟩
    .rw[j_]at hil;split at hil
     .cases hil
     .split at hil
      .cases hil
      .exact fy hr l2 (c.qz.C k _ l2 hil)
    .rw[j_]at hiq;split at hiq
     .omega
     .split at hiq
      .omega
      .have:=c.qz.low k q hiq;omega
   have hE:∀t x,t≠i->fM (s.e.set i (Z (.G s.nx))) L t=Z x->fM s.e s.h t=Z x:=λt x ht A=>by
    simp only[fM,PT.get_set]at A ⊢;rw[ax ht]at A;cases he:s.e.get t with
    |none=>rw[he]at A;cases A
    |some q=>
     rw[he]at A;let⟨z,hz⟩:=pq s.h q (c.qp t q he);simp only[aD,fU hr q z hz,ah]at A;subst A;simp only[aD,hz]
   have hIE:sL (s.e.set i (Z (.G s.nx))) L:=λt x A=>by
    simp only[PT.get_set]at A;split at A
    .cases A;exact Iw _ _ _ hrow
    .exact mX hr x (c.qp t x A)
   have hKp:fJ (mS [.qx i j] 0) s.e (s.e.set i (Z (.G s.nx))):=λt ht v' hv'=>by
    simp only[PT.get_set]at hv';split at hv'
    next et=>subst et;simp only[mS]at ht;rw[bw,bt.2 rfl]at ht;simp at ht
    .exact⟨v',hv',λ_=>rfl⟩
   have hk0:=c.env i (dA p id T.size (l! xs)) (by simp only[fM,hk,aD,hrow0]);by_cases hp:(p&&l! xs==0)=J
   .have hH:erHF L=erHF s.h:=by
     funext n;by_cases e2:n=nm s.nx
     .subst e2;rw[hnx2,aF hp,bL,hfr];rfl
     .by_cases N:n=nm id
      .subst N;rw[hdead,hid0,aF hp]
      .exact hoth n e2 N
    have hsame:dA p s.nx T.size (l! xs)=dA p id T.size (l! xs):=by unfold dA;rw[aF hp,aF hp]
    refine ⟨V,⟨by rw[hH];exact c.zk,λt x A=>?_,λn q hq=>my (c.dom n q hq),fZ c.low,hinv,hIE,c.inert,c.size⟩,by rw[hH];exact xN.refl _ _ _ _,hKp⟩;rw[hH];by_cases ht:t=i
    .subst ht;simp only[fM,PT.get_set,bq,aD,hrow,ah]at A;subst A;rw[hsame];exact hk0
    .exact c.env t x (hE t x ht A)
   .have hid1:erHF s.h (nm id)=Z ⟨ty,.fz (xs.flatMap (bM T))⟩:=by rw[hid0,ax hp]
    let⟨kk,k1,k2,ob,k3,k4⟩:=c.zk.at_ _ _ hid1;have hφn:V (nm s.nx)=U:=by
     cases hq:V (nm s.nx) with
     |none=>rfl
     |some q=>have:=c.dom _ q hq;rw[dw]at this;omega
    let nw:HF:=λn=>if n=nm s.nx then Z ⟨ty,.fz (xs.flatMap (bM T))⟩ else U
    have hsh:IY w w kk ob:=⟨rfl,rfl,rfl,rfl,k3,λ_ _=>rfl,λ_=>rfl⟩
    let⟨φ',p1,p2,p3,p4⟩:=c.zk.wren hid1 k1 hφn hsh k4 nw (by simp[nw]) (by simp only[nw];rw[ax hni.symm]);have hH:fw (erHF s.h) [nm s.nx,nm id] nw=erHF L:=by
     funext n;by_cases e2:n=nm s.nx
     .subst e2;rw[hnx2,ax hp];simp[fw,nw]
     .by_cases N:n=nm id
      .subst N;rw[hdead];simp[fw,nw,hni.symm]
      .rw[hoth n e2 N];simp[fw,e2,N]
    rw[hH]at p2 p4;refine ⟨φ',⟨p4,λt x A=>?_,λn q hq=>?_,fZ c.low,hinv,hIE,c.inert,c.size⟩,⟨I3.refl _ _,p2.zw,λk hi=>?_⟩,hKp⟩
    .by_cases ht:t=i
     .subst ht;simp only[fM,PT.get_set,bq,aD,hrow,ah]at A;subst A;unfold dA at hk0 ⊢;rw[ax hp]at hk0 ⊢;generalize S.tmps.getD t undef=z at hk0;cases hk0 with
      |@G _ _ _ cc q hφq hn hc hs2=>
       rw[k1,ah]at hφq;subst hφq;exact .G p1 hn hc hs2
     .exact p2.zj (c.env t x (hE t x ht A))
    .rcases p3 n q hq with h4|h4
     .exact my (c.dom n q h4)
     .simp only[aC]at h4;subst h4;rw[dw];exact n_ _
    .cases hq:φ' k with
     |none=>
      cases hq2:V k with
      |none=>rfl
      |some z=>rw[p2.sub _ _ hq2]at hq;cases hq
     |some z=>
      rcases p3 _ _ hq with h4|h4
      .exact h4.symm
      .simp only[aC]at h4;subst h4;rw[dw]at hi;have:=c.low;omega
  .cases h
 .cases h
def ato {s:TS} (c:jB P E nt np V s S w) {ad:Adj} {s':TS} (h:K_ s ad=Z s') (hnr:∀k off,ad≠ .qx k off) (hnt:∀k off,ad≠ .jg k off):jB P E nt np V s' S w/\xN np V V (erHF s.h) (erHF s'.h) w w/\fJ (mS [ad] 0) s.e s'.e:=by
 cases ad with
 |qx k off=>exact bC rfl (hnr k off)
 |jg k off=>exact bC rfl (hnt k off)
 |fmp k off ty a=>
  simp only[K_]at h;split at h
  .split at h
   .rename_i K' V' es D;split at h
    next hE=>cases h;let⟨h1,h2⟩:=ax6 c D hE ty a;exact⟨h1,h2,fJ.refl _ _⟩
    .cases h
   .cases h;exact⟨c,xN.refl _ _ _ _,fJ.refl _ _⟩
   .cases h
  .cases h
 |frw k off off2 ty=>
  simp only[K_]at h;split at h
  .rename_i o id q _ _;split at h
   .rename_i ai es cty l ho D;split at h
    .rename_i v hv;split at h
     .rename_i hn;cases h;let⟨L,N⟩:=ax2 c ai ty;have hid:id≠s.nx:=λe=>by have:=c.qz.low id _ D;omega
      let⟨c2,t2⟩:=X_ L (id:=id) (cty:=cty) (l:=l) (v:=v) (u:=.G s.nx) (by show (s.h.set s.nx _).get id=_;rw[PT.get_set,ax hid];exact D) hv hn (by simp only[b_,bD,PT.get_set,bq,aD,iM,su,dA];rfl) (by simp only[PL,bD,PT.get_set,bq];rfl);exact⟨c2,by rw[<- N];exact t2,fJ.refl _ _⟩
     .cases h;exact⟨c,xN.refl _ _ _ _,fJ.refl _ _⟩
    .cases h
   .cases h
  .cases h
 |nil k ty T=>
  simp only[K_]at h;split at h
  .rename_i v hv;split at h
   .rename_i hn;cases h;let⟨L,N,hr⟩:=adf c ty T;refine ⟨⟨L.zk,?_,L.dom,L.low,L.qz,?_,L.inert,L.size⟩,by rw[N];exact xN.refl _ _ _ _,?_⟩
    .intro t x A;simp only[fM,PT.get_set]at A;split at A
     next et=>subst et;simp only[aD,b_,bD,PT.get_set,bq,iM,dA,pK,cw,ip,ah]at A;subst A;let⟨z,hz⟩:=pq s.h v (c.qp _ v hv);rw[N];exact WI hn hz _ _ _ _ (c.env _ _ (by simp only[fM,hv,aD,hz]))
     .exact L.env t x A
    .intro t x A;simp only[PT.get_set]at A;split at A
     .cases A;simp only[PL,bD,PT.get_set,bq];rfl
     .exact L.qp t x A
    .intro t ht v' hv';simp only[PT.get_set]at hv';split at hv'
     next et=>subst et;simp only[mS]at ht;rw[bw,bt.2 rfl]at ht;simp at ht
     .exact⟨v',hv',λ_=>rfl⟩
   .cases h;exact⟨c,xN.refl _ _ _ _,fJ.refl _ _⟩
  .cases h
 |qc k off ty T=>
  simp only[K_]at h;split at h
  .rename_i id o hk;split at h
   .rename_i cty l D;split at h
    .rename_i v hv;split at h
     .rename_i hn;cases h;let⟨L,N,hr⟩:=adf c ty T;have hid:id≠s.nx:=λe=>by have:=c.qz.low id _ D;omega
      let⟨c2,t2⟩:=X_ L (id:=id) (cty:=cty) (l:=l) (v:=v) (u:=.G s.nx) (by show (s.h.set s.nx _).get id=_;rw[PT.get_set,ax hid];exact D) hv hn (by simp only[b_,bD,PT.get_set,bq,aD,iM,dA,pK,cw,ip]) (by simp only[PL,bD,PT.get_set,bq];rfl);exact⟨c2,by rw[<- N];exact t2,fJ.refl _ _⟩
     .cases h;exact⟨c,xN.refl _ _ _ _,fJ.refl _ _⟩
    .cases h
   .cases h
  .cases h
 |mpt k K φ=>
  simp only[K_]at h;split at h
  .rename_i id hk;split at h
   .rename_i K' V' es D;split at h
    .rename_i hE;cases h;have hr:bY s.h (s.h.set id (Z (.mp K φ []))):=bY.set λr hr=>by rw[bD,D]at hr;cases hr
     have N:erHF (s.h.set id (Z (.mp K φ [])))=erHF s.h:=by
      funext n;by_cases hn:n=nm id
      .subst hn;rw[bL,bL,PT.get_set,aF rfl,D];simp only[aD,ky,E6 (aiv (wO.1 hE).1),E6 (wO.1 hE).2,Td (wO.1 hE).1,C3]
      .refine mO c.qz hr (iL.set (by rw[D];rfl) rfl) λi e=>?_
       subst e;rw[PT.get_set,ax (λe=>hn (by rw[e]))]
     refine ⟨⟨by rw[N];exact c.zk,?_,c.dom,c.low,c.qz.set hr (c.qz.low id _ D) (bI _) (λ_ _ he=>by cases he),λt x A=>mX hr x (c.qp t x A),c.inert,c.size⟩,by rw[N];exact xN.refl _ _ _ _,fJ.refl _ _⟩;intro t x A;rw[N];simp only[fM]at A;cases he:s.e.get t with
     |none=>rw[he]at A;cases A
     |some q=>
      rw[he]at A;let⟨z,hz⟩:=pq s.h q (c.qp t q he);simp only[aD,fU hr q z hz,ah]at A;subst A;exact c.env t _ (by simp only[fM,he,aD,hz])
    .cases h;exact⟨c,xN.refl _ _ _ _,fJ.refl _ _⟩
   .cases h
  .cases h
 |pk k off T=>
  simp only[K_]at h;split at h
  .obtain⟨h1,h2,h3⟩:=awl c h;exact⟨h1,h2,h3.mono λk hk=>by simp at hk⟩
  .cases h
def atn {s:TS} (c:jB P E nt np V s S w) {ad:Adj} {s':TS} (h:K_ s ad=Z s'):∃φ',jB P E nt np φ' s' S w/\xN np V φ' (erHF s.h) (erHF s'.h) w w/\fJ (mS [ad] 0) s.e s'.e:=by
 by_cases A:∃k off,ad= .qx k off
 .obtain⟨k,off,rfl⟩:=A;exact awh c h
 .by_cases z:∃k off,ad= .jg k off
  .obtain⟨k,off,rfl⟩:=z;simp[K_]at h;split at h
   .obtain⟨he,φ',h1,D⟩:=asa c h;exact⟨φ',h1,D,by rw[he];exact fJ.refl _ _⟩
   .cases h
  .exact⟨V,ato c h (λk off e=>A ⟨k,off,e⟩) λk off e=>z ⟨k,off,e⟩⟩
def UC {φ:PM} {a:Act} {w:World}:∀{l:Y Adj} {s s':TS},jB P E nt np φ s a w->X8 s l=Z s'->∃φ',jB P E nt np φ' s' a w/\xN np φ φ' (erHF s.h) (erHF s'.h) w w/\fJ (mS l 0) s.e s'.e
 |[],s,s',c,h=>by simp[X8,ah]at h;subst h;exact⟨φ,c,xN.refl _ _ _ _,fJ.refl _ _⟩
 |ad::r,s,s',c,h=>by
  simp[X8]at h;split at h
  .rename_i s1 h1;let⟨φ1,c1,D,k1⟩:=atn c h1;let⟨φ2,N,A,k2⟩:=UC c1 h;refine ⟨φ2,N,D.trans A,(k1.mono ?_).trans (k2.mono ?_)⟩
   .intro k z;cases ad with
    |nil q ty T|qx q off=>simp[mS]at z ⊢;rw[kH,bw,z];rfl
    |_=>simp[mS]at z
   .intro k z;cases ad with
    |nil q ty T|qx q off=>simp[mS];rw[kH,bw,z];simp
    |_=>simp[mS];exact z
  .cases h
mutual
def Wv {h:aZ}:∀(v:TV) (y:AV),wu v=J->b_ h v=Z y->y.all (λ_=>af)=J
 |.f _ _,y,_,he|.zd _ _ _ _ _,y,_,he|.emp,y,_,he|.nil,y,_,he|.undef,y,_,he|.np,y,_,he|.qw,y,_,he=>by simp[b_,ah]at he;subst he;rfl
 |.agg l,y,hl,he|.qg l,y,hl,he=>by
  simp[b_]at he;split at he
  .rename_i l' hl';simp[ah]at he;subst he;exact Ir l l' hl hl'
  .cases he
 |.zg _ _ _ _,_,h,_|.H _ _,_,h,_|.qy _ _ _,_,h,_|.G _,_,h,_|.zl _ _,_,h,_|.mp _,_,h,_|.qv _ _,_,h,_=>by cases h
def Ir {h:aZ}:∀(l:Y TV) (l':Y AV),sd l=J->cM h l=Z l'->AV.allL (λ_=>af) l'=J
 |[],l',_,he=>by simp[cM,ah]at he;subst he;rfl
 |x::r,l',hl,he=>by
  obtain⟨y,l2,rfl,e1,e2⟩:=c9 he;simp[sd,au]at hl;simp[AV.allL,au];exact⟨Wv x y hl.1 e1,Ir r l2 hl.2 e2⟩
end
mutual
def ach (h:aZ):∀(v:TV),wu v=J->PL h v=J
 |.f _ _,_|.zd _ _ _ _ _,_|.emp,_|.nil,_|.undef,_|.np,_|.qw,_=>rfl
 |.agg l,hl|.qg l,hl=>No h l hl
 |.zg _ _ _ _,h|.H _ _,h|.qy _ _ _,h|.G _,h|.zl _ _,h|.mp _,h|.qv _ _,h=>by cases h
def No (h:aZ):∀(l:Y TV),sd l=J->lN h l=J
 |[],_=>rfl
 |x::r,hl=>by
  simp[sd,au]at hl;simp[lN,au];exact⟨ach h x hl.1,No h r hl.2⟩
end
structure Seen (np:Nat) (t:Tm) (x:t.ty.den) (us:List TV) (h1:aZ) (φ φ':PM) (H:HF) (E:Nat->Prop) (w:World) (la lu:List AV):Prop where
 zk:sE φ' E (erHF h1) w
 val:∀(j:Nat) y v,lu[j]? =Z y->∃z,la[j]? =Z z/\(cz φ (tot E φ H) w z v->cz φ' (tot E φ' (erHF h1)) w y v)
 len:l! lu=l! la
 tot_:∀k,tot E φ' (erHF h1) k->tot E φ H k
 zw:∀k,own φ' (erHF h1) k->own φ H k
 dom:∀n k,φ' n=Z k->ow n<l! t.bs
 par:∀n,ow n<np->ow n<l! t.bs->φ' n=φ n
variable {r:Y TV} {B:Y AV}
def PC {t:Tm} {x:t.ty.den} {h1:aZ} {l1:Y (M fk)} (I:pH t x r h1 l1) (hinv:gZ h i) {vs:Y TV} {σ:PT Nat} {sm:Nat} (A:LU np t vs h x j σ sm) (hla:cM h vs=Z B) (us:sE V E (erHF h) w):∃φ' lu,cM h1 r=Z lu/\Seen np t x r h1 V φ' (erHF h) E w B lu:=by
 let⟨x1,m1,x2,m2,hx,hmm,gv,gb⟩:=A.ex;have pvg:rF (im σ) t.vs x1=Z (lx (im σ) r):=by
  have h3:=vK (im σ) t.vs x1;have L:=I.pv;rw[hx,vD]at L;rw[h3,L];rfl
 have pbg:qT (im σ) t.bs x2=Z (l1.map (ie (kU (im σ)))):=by
  have h3:=yD (im σ) t.bs x2;have L:=I.pb;rw[hx,xh]at L;rw[h3,L];rfl
 have hbm:∀nx b,l1[nx]? =Z (Z b)->∃b0,h.get (im σ nx)=Z b0/\BM (im σ) h j b0 (kU (im σ) b):=λnx b D=>by
  let⟨b0,q1,q2⟩:=Nm t.bs 0 x2 m2 _ gb pbg nx (kU (im σ) b) (by grind);rw[b9]at q1;exact⟨b0,q1,q2.mono λm hj=>by rw[hmm,bw,hj];simp⟩
 let hv:aZ:=Dz (im σ) 0 (l1.map (ie (kU (im σ)))) PT.leaf
 have hv_at:∀nx b,l1[nx]? =Z (Z b)->hv.get (im σ nx)=Z (kU (im σ) b):=λnx b D=>by
  have:=xp (im σ) (l1.map (ie (kU (im σ)))) 0 PT.leaf (λa b ha D=>by
   simp only[cq,I.len]at ha D;simp only[b9];exact A.inj a b ha D) nx (Z (kU (im σ) b)) (by grind)
  grind
 have hv_ex:∀m c,hv.get m=Z c->∃nx b,l1[nx]? =Z (Z b)/\m=im σ nx/\c=kU (im σ) b:=λm c hj=>by
  by_cases hex:∃nx,nx<l1.length/\m=im σ nx
  .obtain⟨nx,hi,rfl⟩:=hex;have hcc:=aH hi;cases hcv:l1[nx] with
   |some b=>rw[hcv]at hcc;rw[hv_at nx b hcc]at hj;cases hj;exact⟨nx,b,hcc,rfl,rfl⟩
   |none=>
    rw[hcv]at hcc;have:=xp (im σ) (l1.map (ie (kU (im σ)))) 0 PT.leaf (λa b ha D=>by
     simp only[cq,I.len]at ha D;simp only[b9];exact A.inj a b ha D) nx U (by grind)
    rw[b9]at this;have hj':(Dz (im σ) 0 (l1.map (ie (kU (im σ)))) PT.leaf).get (im σ nx)=Z c:=hj;rw[this]at hj';simp[PT.get]at hj'
  .have:hv.get m=(PT.leaf:aZ).get m:=xo (im σ) _ 0 _ m λk N=>by
    grind
   rw[this]at hj;simp[PT.get]at hj
 have rows_in:AO hv h:=λm q hq=>by
  rw[bD]at hq ⊢;cases hc:hv.get m with
  |none=>rw[hc]at hq;cases hq
  |some c=>
   rw[hc]at hq;obtain⟨nx,b,q1,rfl,rfl⟩:=hv_ex m c hc;let⟨b0,q2,q3⟩:=hbm nx b q1;rw[q2];simp only[aD]at hq ⊢;rw[<- q3.G];exact hq
 have rows_h1:∀nx q,eR h1 nx=Z q->eR hv (im σ nx)=Z q:=λnx q hq=>by
  rw[bD]at hq ⊢;cases D:h1.get nx with
  |none=>rw[D]at hq;cases hq
  |some b=>
   rw[D]at hq;rw[hv_at nx b ((I.at_ nx b).1 D)];simp only[aD,L9]at hq ⊢;exact hq
 have hd:rA (erHF h) (erHF hv):=λn y hy=>by
  let⟨c,h3,L⟩:=iR hy;obtain⟨nx,b,q1,e,rfl⟩:=hv_ex _ c h3;let⟨b0,q2,q3⟩:=hbm nx b q1;unfold erHF;rw[e,q2];rw[e]at L;cases N:ix n with
  |zero=>
   rw[N]at L;exact BM.erB_some hinv q2 q3 L
  |succ k=>
   rw[N]at L;exact⟨y,(q3.mem _ _).trans L⟩
 have gvv:Fm h (erHF h) (erHF hv) j:=λnx hi=>⟨rfl,by
  cases hc:erHF hv (nm nx) with
  |none=>rfl
  |some y=>
   let⟨c,h3,L⟩:=iR hc;rw[dw]at h3;obtain⟨k,b,q1,rfl,rfl⟩:=hv_ex nx c h3;have N:k<t.bs.length:=by rw[<- I.len];exact (bA.1 q1).1
   have h5:=A.disj _ hi;rw[(A.sig _).2 ⟨k,N,rfl⟩]at h5;cases h5⟩
 have φ:O5 (erHF h) (erHF hv):=⟨hd,λn b b' D hb'=>by
  let⟨c,h3,L⟩:=iR hb';obtain⟨nx,bb,q1,e,rfl⟩:=hv_ex _ c h3;let⟨b0,q2,q3⟩:=hbm nx bb q1;unfold erHF at D;rw[e,q2]at D;rw[e]at L;have D:Pu h (im σ nx) (ix n) b0=Z b:=D;cases N:ix n with
  |zero=>
   rw[N]at L D;exact BM.view hd gvv rows_in q3 D L
  |succ k=>
   rw[N]at L D;have:=(q3.mem _ _).symm.trans D;have L:wS (im σ nx) k (kU (im σ) bb)=Z b':=L;rw[L]at this;cases this;exact gr.refl hd _⟩
 have rv:=φ.zk us;have T:apd t x r h1 (im σ) V E E (erHF hv) w:=by
  have hat:∀n y,erHF h1 n=Z y->erHF hv (pJ (im σ) n)=Z (y.qx (pJ (im σ))):=λn y hn=>by
   let⟨b,D,hyb⟩:=iR hn;unfold erHF;rw[xR,Ao,hv_at _ b ((I.at_ _ b).1 D)];exact Dk rows_h1 hyb
  refine sE.toId I A.inj rv hat (λk N=>.inl N) (λn k y hn L hE=>?_) rv.el;let⟨k',p1,p2,_⟩:=rv.at_ _ _ (hat n y hn)
  grind
 let⟨lu,hlu⟩:=fF h1 r I.ok;have hlug:cM hv (lx (im σ) r)=Z (AV.renL (pJ (im σ)) lu):=qB rows_h1 r lu hlu;have hle:=Gs hd rows_in t.vs vs x1 m1 _ B _ gv pvg hla hlug (λnx hi=>gvv nx (by grind));have hall:=vy r lu I.lt hlu;refine ⟨_,lu,hlu,T.zk,λm y v hy=>?_,?_,λk N=>hd.tot (T.tot_ k N),λk N=>hd.own (T.zw k N),λn k N=>?_,λnx hi D=>?_⟩
 .rw[og]at hle;let⟨z,hz,hlz⟩:=hle.get m (y.qx (pJ (im σ))) (by grind);exact⟨z,hz,λhr=>T.val y v (ng hall y (ba hy)) (hlz _ _ _ _ us hr)⟩
 .have:=hle.length;rw[og,cq]at this;exact this
 .exact (zZ N).1
 .rw[ah1 D];unfold pJ;rw[A.fix _ hi,kP]
def Tk {s':TS} (c:jB P E nt np V s' S w) {A:Ann} {s0 s1:TS} {x:A.D} (L:Qk np A i s0 s'=Z x) (hs:Kt A i s0 x=Z s1)
 (hk:∀k,k∈A.zj->k∉A.ks->∀v,s0.e.get k=Z v->wu v=J->aO i k=af->∀v',s'.e.get k=Z v'->v'=v):∃φ',jB P E nt np φ' s1 S w/\xN np V φ' (erHF s'.h) (erHF s1.h) w w:=by
 unfold Qk at L;split at L
 .rename_i hc;simp only[au]at hc;have hnp:=aY hc.1;split at L
  .rename_i s2 h2;let⟨φ2,c2,t2,_⟩:=UC c h2;split at L
   .rename_i vs hvs;split at L
    .rename_i z m σ sm hM;simp[ah]at L;subst L;have B:=yL hM;unfold Kt at hs;split at hs
     .rename_i us h1 hi;let⟨l1,I⟩:=yQ hi;split at hs
      .rename_i hlen;have hlen:=av hlen;simp[ah]at hs;subst hs;let⟨g1,g2⟩:=acf hvs;have hvok:lN s2.h vs=J:=Mp c2.qp hvs;let⟨la,hla⟩:=fF s2.h vs hvok;let⟨φ',lu,hlu,a⟩:=PC (E:=E) I c2.qz B hla c2.zk;refine ⟨φ',⟨a.zk,?_,a.dom,hnp,⟨λam ty l hl=>(I.C am _ l hl).1,λam b hb=>I.lt_len hb⟩,?_,c.inert,c.size⟩,t2.trans ⟨I3.refl _ _,λk _ h=>a.zw k h,λam hi=>a.par am hi (by omega)⟩⟩
       .intro t y N;simp[fM]at N;cases ht:(ae9 (Ga i s0.e A.zj) A.ks us).get t with
        |none=>rw[ht]at N;cases N
        |some v=>
         rw[ht]at N;simp[aD]at N;rcases Fx hlen t v ht with ⟨j,q1,q2⟩|⟨q1,q2⟩
         .obtain⟨y',p1,p2⟩:=me hlu j v q2;rw[N]at p2;cases p2;let⟨z,p3,p4⟩:=a.val j y (S.tmps.getD t undef) p1;refine p4 ?_;let⟨v0,p5,p6⟩:=g2 j t q1;let⟨z',p7,p8⟩:=me hla j v0 p5;rw[p3]at p7;cases p7;exact c2.env t _ (by simp[fM,p6,aD,p8])
         .obtain⟨k1,k2,k3,k4⟩:=vM q2;let⟨v',k5⟩:=MM hc.2 t v k1 k2 k3 k4;have:=hk t k1 q1 v k2 k3 k4 v' k5;subst this;have h3:=c.env t y (by simp[fM,k5,aD];rw[WJ s'.h h1 v' k3];exact N);exact h3.restrict (p:=λ_=>af) (λam k hi _=>by cases hi) (λk hk=>by
           have h4:=a.tot_ k hk;rcases h4 with h4|h4
           .exact .inl h4
           .exact .inr (by
             have hkl:k<w.heap.size:=by
              let⟨n,b,e1,e2⟩:=h4;let⟨k',p1,_,ob,p3,_⟩:=c2.zk.at_ n b e1
              grind
             exact t2.zw k hkl h4)) (Wv v' y k3 N)
       .intro t v hv;rcases Fx hlen t v hv with ⟨j,q1,q2⟩|⟨q1,q2⟩
        .obtain⟨y',_,p2⟩:=me hlu j v q2;exact Iw _ _ _ p2
        .exact ach _ v (vM q2).2.2.1
      .cases hs
     .cases hs
    .cases L
   .cases L
  .cases L
 .cases L
def HO {A:Ann} {L N:TS} {x:A.D} (z:Kt A i L x=Z N):fJ (PP A.ks 0) L.e N.e/\∀k,k∉A.ks->∀v,N.e.get k=Z v->L.e.get k=Z v:=by
 unfold Kt at z;split at z
 .rename_i us h1 hi;split at z
  .rename_i hlen;have hlen:=av hlen;simp[ah]at z;subst z;have key:∀k,k∉A.ks->∀v,(ae9 (Ga i L.e A.zj) A.ks us).get k=Z v->L.e.get k=Z v:=λk hk v hv=>by
    rcases Fx hlen k v hv with ⟨j,q1,_⟩|⟨_,q2⟩
    .grind
    .exact (vM q2).2.1
   refine ⟨λk hk v' hv=>?_,key⟩;have hnk:k∉A.ks:=λhm=>by rw[ac6 hm]at hk;cases hk
   grind
  .cases z
 .cases z
end walk
inductive Er:TC->SC->Prop
 |skip:Er .skip .skip
 |jy (ops:List uB) (prs:List (Nat×Nat)):Er (.jy ops prs) (.jy ops prs)
 |seq {a b:TC} {a' b':SC}:Er a a'->Er b b'->Er (.seq a b) (.seq a' b')
 |jx (A:Ann) {a b:TC} {a' b':SC}:Er a a'->Er b b'->Er (.jx A a b) (.seq a' b')
 |cond (c:Nat) {a b:TC} {a' b':SC}:Er a a'->Er b b'->Er (.cond c a b) (.cond c a' b')
 |block (id:Nat) {b:TC} {b':SC}:Er b b'->Er (.block id b) (.block id b')
 |zf (A:Ann) (id:Nat) {b:TC} {b':SC}:Er b b'->Er (.zf A id b) (.block id b')
 |loop (A:Ann) {b:TC} {b':SC}:Er b b'->Er (.loop A b) (.loop b')
 |exit (id:Nat):Er (.exit id) (.exit id)
 |ret:Er .ret .ret
 |defer (f:FuncId) (c:List Operand) (t:Nat):Er (.defer f c t) (.defer f c t)
 |adj (l:List Adj) {c:TC} {c':SC}:Er c c'->Er (.adj l c) c'
 |split (k off lo n:Nat) {c:TC} {c':SC}:Er c c'->Er (.split k off lo n c) c'
 |bsp (t:Nat) {a b:TC} {c':SC}:Er a c'->Er b c'->Er (.bsp t a b) c'
 |unl (n:Nat) {b:TC} {b':SC}:Er b b'->Er (.unl n b) (.loop b')
 |jq (c:SC):Er .jq c
def Fr {H:PT aly} {c:TC} {z:SC} (h:Er c z):Er (LX H i c) z:=by
 unfold LX;split
 .exact .adj _ h
 .exact .split _ _ _ _ h
 .exact .bsp _ (.split _ _ _ _ h) h
 .exact h
def AG (H:PT aly):∀(c:SC) (n:Nat),Er (IB H c n).1 c
 |.skip,n=>Fr .skip
 |.jy o p,n=>Fr (.jy o p)
 |.seq a b,n=>by
  have h1:=AG H a (n+1);have z:=AG H b (IB H a (n+1)).2;simp[IB];split
  .exact .jx _ h1 z
  .exact .seq h1 z
 |.cond c a b,n=>by
  have h1:=AG H a (n+1);have z:=AG H b (IB H a (n+1)).2;exact Fr (.cond c h1 z)
 |.block id b,n=>by
  have h1:=AG H b (n+1);simp[IB];split
  .exact .zf _ id h1
  .exact .block id h1
 |.loop b,n=>by
  have h1:=AG H b (n+1);simp[IB];split
  .exact .loop _ h1
  .exact .unl _ h1
  .exact .jq _
 |.exit id,n=>Fr (.exit id)
 |.ret,n=>Fr .ret
 |.defer f c t,n=>.defer f c t
 |.jq,n=>.jq _
variable {R:Type}
def aen {σ:Type} {step:σ->M (σ⊕R)} {x:σ} {r:R} (h:iter step x=Z r):∃n,iterN step n x=Z r:=by
 unfold iter at h;split at h
 .exact⟨_,h⟩
 .cases h
def ac8 {α:Type} {o:M (R⊕α)} {k:α->M R} {r:R} (h:jn o k=Z r):(∃x,o=Z (.inr x)/\k x=Z r)\/o=Z (.inl r):=by
 unfold jn at h
 grind
section inv
variable {P:Program} {nt:Nat}
def CK (id:Nat) (ops:Array Oper) (z:Bool):cG P nt (.region id ops z)= .jq\/
 ((ops.toList.all λo=>match o.dst with|some d=>decide (d<nt)|none=>J)=J/\
   ((∃f caps t,G_ ops z=Z (f,caps,t)/\cG P nt (.region id ops z)= .defer f caps t)\/
    ∃l prs,tS P ops ops.toList=Z l/\Rn ops l=Z prs/\cG P nt (.region id ops z)= .jy l prs)):=by
 simp[cG]
 grind
def HZ:Code->Bool
 |.cond (.const (.bool _)) _ _=>af
 |_=>J
def lm (P:Program) (nt:Nat) (c:Code):∃z,HZ z=J/\cG P nt z=cG P nt c/\∀Q a w,z.wp P Q a w->c.wp P Q a w:=by
 have self:∀c:Code,HZ c=J->∃z,HZ z=J/\cG P nt z=cG P nt c/\∀Q a w,z.wp P Q a w->c.wp P Q a w:=λc h=>⟨c,h,rfl,λ_ _ _ h=>h⟩
 induction c with
 |cond o x y ihx ihy=>
  cases o with
  |const v=>
   cases v with
   |bool b=>
    cases b with
    |true=>
     let⟨z,h1,D,A⟩:=ihx;exact⟨z,h1,D,λQ a w h=>wp_cond_true rfl (A Q a w h)⟩
    |false=>
     let⟨z,h1,D,A⟩:=ihy;exact⟨z,h1,D,λQ a w h=>wp_cond_false rfl (A Q a w h)⟩
   |_=>exact self _ rfl
  |_=>exact self _ rfl
 |_=>exact self _ rfl
variable {c:Operand}
def Jk {α:Prop} {x y:Code} {sc:SC} (z:HZ (.cond c x y)=J) (h:cG P nt (.cond c x y)=sc) (h1:sc≠ .jq) (A:∀t a b,sc≠ .cond t a b):α:=by
 cases c with
 |tmp q=>exact (A _ _ _ h.symm).elim
 |const v=>cases v<;>first|exact (h1 h.symm).elim|cases z
 |_=>exact (h1 h.symm).elim
def ans {c:Code} {sl:Y uB} {prs:Y p?} (A:HZ c=J) (h:cG P nt c= .jy sl prs):∃id ops z,c= .region id ops z/\(ops.toList.all λo=>match o.dst with|some d=>decide (d<nt)|none=>J)=J/\tS P ops ops.toList=Z sl/\Rn ops sl=Z prs:=by
 cases c with
 |region id ops z=>
  rcases CK (P:=P) (nt:=nt) id ops z with h1|⟨hd,⟨f,caps,t,_,h1⟩|⟨l,p,L,D,h1⟩⟩
  .rw[h1]at h;cases h
  .rw[h1]at h;cases h
  .grind
 |cond o x y=>exact Jk A h (by simp) (by simp)
 |_=>simp[cG]at h
variable {f:FuncId}
def aeo {c:Code} {caps:Y Operand} (A:HZ c=J) (h:cG P nt c= .defer f caps i):∃id ops z,c= .region id ops z/\(ops.toList.all λo=>match o.dst with|some d=>decide (d<nt)|none=>J)=J/\G_ ops z=Z (f,caps,i):=by
 cases c with
 |region id ops z=>
  rcases CK (P:=P) (nt:=nt) id ops z with h1|⟨hd,⟨f',caps',L,D,h1⟩|⟨l,p,D,N,h1⟩⟩
  .rw[h1]at h;cases h
  .grind
  .rw[h1]at h;cases h
 |cond o x y=>exact Jk A h (by simp) (by simp)
 |_=>simp[cG]at h
def qG {c:Code} {sc:SC} (h:cG P nt c=sc) (h1:sc≠ .jq) (L:∀a b,sc≠ .jy a b) (D:∀a b t,sc≠ .defer a b t):∀id ops A,c≠ .region id ops A:=by
 rintro id ops A rfl;rcases CK (P:=P) (nt:=nt) id ops A with z|⟨_,⟨f,caps,t,_,z⟩|⟨l,p,_,_,z⟩⟩<;>rw[z]at h
 .exact h1 h.symm
 .exact D _ _ _ h.symm
 .exact L _ _ h.symm
def ajd {c:Code} (z:HZ c=J) (h:cG P nt c= .skip):c= .skip:=by
 have nr:=qG h (by simp) (by simp) (by simp);cases c with
 |skip=>rfl
 |region id ops A=>exact bC rfl (nr id ops A)
 |cond o x y=>exact Jk z h (by simp) (by simp)
 |_=>simp[cG]at h
def anr {c:Code} (z:HZ c=J) (h:cG P nt c= .ret):c= .ret:=by
 have nr:=qG h (by simp) (by simp) (by simp);cases c with
 |ret=>rfl
 |region id ops A=>exact bC rfl (nr id ops A)
 |cond o x y=>exact Jk z h (by simp) (by simp)
 |_=>simp[cG]at h
def aje {c:Code} (z:HZ c=J) (h:cG P nt c= .exit i):c= .exit i:=by
 have nr:=qG h (by simp) (by simp) (by simp);cases c with
 |exit id=>simp[cG]at h;rw[h]
 |region id ops A=>exact bC rfl (nr id ops A)
 |cond o x y=>exact Jk z h (by simp) (by simp)
 |_=>simp[cG]at h
def aca {c:Code} {a b:SC} (z:HZ c=J) (h:cG P nt c= .seq a b):∃x y,c= .seq x y/\cG P nt x=a/\cG P nt y=b:=by
 have nr:=qG h (by simp) (by simp) (by simp);cases c with
 |seq x y=>simp[cG]at h;exact⟨x,y,rfl,h.1,h.2⟩
 |region id ops A=>exact bC rfl (nr id ops A)
 |cond o x y=>exact Jk z h (by simp) (by simp)
 |_=>simp[cG]at h
def ajf {c:Code} {a b:SC} (z:HZ c=J) (h:cG P nt c= .cond i a b):∃x y,c= .cond (.tmp i) x y/\cG P nt x=a/\cG P nt y=b:=by
 have nr:=qG h (by simp) (by simp) (by simp);cases c with
 |cond o x y=>
  cases o with
  |tmp q=>simp[cG]at h;obtain⟨rfl,h1,A⟩:=h;exact⟨x,y,rfl,h1,A⟩
  |const v=>cases v<;>first|(simp [cG]at h;done)|cases z
  |_=>simp[cG]at h
 |region id ops D=>exact bC rfl (nr id ops D)
 |_=>simp[cG]at h
def RA {c:Code} {b:SC} (z:HZ c=J) (h:cG P nt c= .block i b):∃y,c= .block i y/\cG P nt y=b:=by
 have nr:=qG h (by simp) (by simp) (by simp);cases c with
 |block id y=>simp[cG]at h;obtain⟨rfl,h1⟩:=h;exact⟨y,rfl,h1⟩
 |region i ops A=>exact bC rfl (nr i ops A)
 |cond o x y=>exact Jk z h (by simp) (by simp)
 |_=>simp[cG]at h
def VQ {c:Code} {b:SC} (z:HZ c=J) (h:cG P nt c= .loop b):∃y,c= .loop y/\cG P nt y=b:=by
 have nr:=qG h (by simp) (by simp) (by simp);cases c with
 |loop y=>simp[cG]at h;exact⟨y,rfl,h⟩
 |region id ops A=>exact bC rfl (nr id ops A)
 |cond o x y=>exact Jk z h (by simp) (by simp)
 |_=>simp[cG]at h
end inv
def ark (P:Program) (E:Nat->Prop) (nt np:Nat) (φ:PM) (s:TS) (w:World) (am:Nat) (K:Ex->TS->M R) (r:R):Exit->Act->World->Prop:=
 λe z w'=>∃ex s' φ',e=ex.to/\K ex s'=Z r/\jB P E nt np φ' s' z w'/\xN np φ φ' (erHF s.h) (erHF s'.h) w w'/\fJ am s.e s'.e
variable {P:Program} {w:World} {b:Bool} {O:Nat->Prop} {V:PM} {S:Act}
def jB.bool {s:TS} (c:jB P O i j V s S w) {t:Nat} (ht:s.e.get t=Z (.f .bool b)):S.eval (.tmp t)= .bool b:=
 fR (c.env t _ (by simp[fM,ht,aD,b_];rfl))
def jB.qw {s:TS} (c:jB P O i j V s S w) {t:Nat} (ht:s.e.get t=Z .qw):∃b,S.eval (.tmp t)= .bool b:=by
 have:=c.env t .qw (by simp[fM,ht,aD,b_]);show ∃b,S.tmps.getD t undef= .bool b;generalize S.tmps.getD t undef=z at this;cases this with
 |qw=>exact⟨_,rfl⟩
def ag2 {a b:M R} {r:R} (h:IR a b=Z r):a=Z r/\b=Z r:=by
 unfold IR at h
 grind
variable {f:FuncId} {e:Array Oper} {d:Exit->Act->World->Prop}
def aog {inert:FuncId->Bool} (hin:Pk P inert) (ha:∀Q∈S.defers,Yq P Q) (hs:S.tmps.size=i) {caps:Y Operand} {t:Nat} (hd:(e.toList.all λo=>match o.dst with|some Q=>decide (Q<i)|none=>J)=J) (hdf:G_ e b=Z (f,caps,t)) (hi:inert f=J) 
 (hQ:∀L,(∀u,u≠t->L.tmps.getD u undef=S.tmps.getD u undef)->(∀Q∈L.defers,Yq P Q)->L.tmps.size=i->d .normal L w):(Code.region j e b).wp P d S w:=by
 unfold G_ at hdf;split at hdf
 .rename_i p q hops;split at hdf
  .rename_i D first caps' N cl hpo hpg hpd hqo hqg hqd
   split at hdf
   .rename_i t2 hcl hca;split at hdf
    .rename_i hcond;simp only[au]at hcond;let⟨h1,h2⟩:=hcond;have h1:=av h1;have h2:first=#[]:=by grind
     simp only[ah,aU]at hdf;obtain⟨rfl,rfl,rfl⟩:=hdf;subst h1 h2;have hops':e=#[p,q]:=by grind
     let⟨hcb,hincalls⟩:=hin D hi;have htn:N<i:=by grind
     let z:Value:=.func (.func D) #[] (caps'.map S.eval)
     refine wp_region ?_;have hr2:dG e.size=[0,1]:=by rw[hops'];rfl
     rw[hr2];have e0:e[0]? =Z p:=by grind
     have e1:e[1]? =Z q:=by grind
     rw[wpOps_cons];have hexec1:(execOp S.eval p).run P w= .ok (.value z) w:=by
      unfold execOp;rw[hpo];simp[Instr.makeFunc,z]
     have w1:qR p (yielded e S.tmps)=J:=by unfold qR;rw[hpg]
     unfold wpOp;simp only[e0,w1,bq];left;unfold Lk;rw[hexec1];show wpOps P e d [1] (S.put p.dst z) w;rw[wpOps_cons];unfold wpOp;have w2:qR q (yielded e (S.put p.dst z).tmps)=J:=by unfold qR;rw[hqg]
     simp only[e1,w2,bq];left;have pg:∀u,(S.put p.dst z).tmps.getD u undef=if p.dst=Z u then z else S.tmps.getD u undef:=λu=>Vq (by intro Q A;rw[hpd]at A;cases A;rw[hs];exact htn)
     have heval:(S.put p.dst z).eval (.tmp N)=z:=by
      show (S.put p.dst z).tmps.getD N undef=z;rw[pg,aF hpd]
     have hargs:cl.args=#[]:=by grind
     have hexec2:(execOp (S.put p.dst z).eval q).run P w= .ok (.defer {target:=.fn (.func D) (caps'.map S.eval),args:=#[]}) w:=by
      unfold execOp;rw[hqo];simp[resolve,hcl,heval,z,Deferred.ofValue,hargs]
     unfold Lk;rw[hexec2];show wpOps P e d [] _ w;refine hQ _ (λu hu=>?_) (λQ A=>?_) ?_
     .rw[hqd];show (S.put p.dst z).tmps.getD u undef=_;rw[pg,ax (by rw[hpd];intro ops;cases ops;exact hu rfl)]
     .rw[hqd]at A;have hd'':Q={target:=.fn (.func D) (caps'.map S.eval),args:=#[]}\/Q∈(S.put p.dst z).defers:=by
       simpa[Act.put] using A
      rcases hd'' with rfl|hd''
      .intro w0;refine ⟨_,_,D,caps'.map S.eval,rfl,?_,hincalls _ w0⟩;simp[invoke,Ac hcb]
      .rw[Mc]at hd'';exact ha Q hd''
     .rw[hqd];show (S.put p.dst z).tmps.size=i;rw[Vp];exact hs
    .cases hdf
   .cases hdf
  .cases hdf
 .cases hdf
variable {X:FuncId->M cA} {W:TypeId->M Ty}
def as6 {E:Nat->Prop} {inert:FuncId->Bool} (hm:P.follows .mixedOrders=J) (hcon:Hw P X) (hin:Pk P inert):
 ∀{tc:TC} {sc:SC},Er tc sc->∀(c:Code),cG P i c=sc->∀(R:Type) (s:TS) (K:Ex->TS->M R) (r:R),oK j X W inert tc s K=Z r->∀(φ:PM) (a:Act) (w:World),jB P E i j φ s a w->c.wp P (ark P E i j φ s w (tc.asg 0) K r) a w:=by
 intro tc sc hE;induction hE with
 |skip=>
  intro c hc R s K r h φ a w g;let⟨c',hn,L,hsim⟩:=lm P i c;refine hsim _ _ _ ?_;rw[<- L]at hc;rw[ajd hn hc];exact wp_skip ⟨.normal,s,φ,rfl,h,g,xN.refl _ _ _ _,fJ.refl _ _⟩
 |jy ops prs=>
  intro c hc R s K r h φ a w g;let⟨c',hn,L,hsim⟩:=lm P i c;refine hsim _ _ _ ?_;rw[<- L]at hc;obtain⟨id,os,dr,rfl,h1,h2,h3⟩:=ans hn hc;simp only[oK]at h;refine ai6 (K:=λs'=>K .normal s') hm hcon g (am:=Ux ops 0) (λnp o d ho hd=>?_) h1 h2 h3 h λa' w' s' φ' q1 N q3 q4=>⟨.normal,s',φ',rfl,q1,N,q3,q4⟩
  have hmem:o∈os.toList:=by have:=Array.mem_of_getElem? ho;simpa using this
  have key:∀(rest:Y Oper) (sl:Y uB),tS P os rest=Z sl->∀o∈rest,∃so∈sl,so.dst=o.dst:=by
   intro rest;induction rest with
   |nil=>intro sl _ o ho;cases ho
   |cons x rest ih=>
    intro sl hsl o ho;simp only[tS]at hsl;split at hsl
    .rename_i l hl;have:∃so,sl=so::l/\so.dst=x.dst:=by
      split at hsl
      .simp only[ah]at hsl;exact⟨_,hsl.symm,rfl⟩
      .split at hsl
       .simp only[ah]at hsl;exact⟨_,hsl.symm,rfl⟩
       .cases hsl
     obtain⟨so,rfl,hso⟩:=this;rcases a_.1 ho with rfl|ho
     .exact⟨so,by simp,hso⟩
     .obtain⟨q,hq,hq2⟩:=ih l hl o ho;exact⟨q,by simp[hq],hq2⟩
    .cases hsl
  let⟨so,hso,hd2⟩:=key os.toList ops h2 o hmem;exact X2 hso (by rw[hd2];exact hd)
 |@seq x y x' y' _ _ ihx ihy=>
  intro c hc R s K r h φ a w g;let⟨c',hn,L,hsim⟩:=lm P i c;refine hsim _ _ _ ?_;rw[<- L]at hc;obtain⟨cx,cy,rfl,h1,h2⟩:=aca hn hc;simp only[oK]at h;refine wp_seq (wp_mono (ihx cx h1 R s _ r h φ a w g) ?_);rintro e a' w' ⟨ex,s',φ',rfl,z,g',st,kp⟩;have kp':fJ ((TC.seq x y).asg 0) s.e s'.e:=kp.mono λk z=>by simp only[TC.asg];exact kq z
  cases ex with
  |normal=>
   refine wp_mono (ihy cy h2 R s' K r z φ' a' w' g') ?_;rintro e2 a2 w2 ⟨ex2,s2,φ2,rfl,hk2,g2,st2,kp2⟩;exact⟨ex2,s2,φ2,rfl,hk2,g2,st.trans st2,kp'.trans (kp2.mono λk z=>by simp only[TC.asg];exact vE z)⟩
  |exit id=>exact⟨.exit id,s',φ',rfl,z,g',st,kp'⟩
  |ret=>exact⟨.ret,s',φ',rfl,z,g',st,kp'⟩
 |@jx A x y x' y' _ _ ihx ihy=>
  intro c hc R s K r h φ a w g;let⟨c',hn,L,hsim⟩:=lm P i c;refine hsim _ _ _ ?_;rw[<- L]at hc;obtain⟨cx,cy,rfl,h1,h2⟩:=aca hn hc;simp only[oK]at h;have sub1:∀k,aO (x.asg 0) k=J->aO ((TC.jx A x y).asg 0) k=J:=λk z=>by simp only[TC.asg];exact kq (vE z)
  have sub2:∀k,aO (y.asg 0) k=J->aO ((TC.jx A x y).asg 0) k=J:=λk z=>by simp only[TC.asg];exact vE z
  have sub3:∀k,aO (PP A.ks 0) k=J->aO ((TC.jx A x y).asg 0) k=J:=λk z=>by simp only[TC.asg];exact kq (kq z)
  rcases ac8 h with ⟨d,h3,h4⟩|h3
  .refine wp_seq (wp_mono (ihx cx h1 _ s _ _ h3 φ a w g) ?_);rintro e a' w' ⟨ex,s',φ',rfl,z,g',st,kp⟩;cases ex with
   |normal=>
    simp only[]at z;let⟨d',q1,N⟩:=d_ z;simp only[ah,Sum.inr.injEq]at N;subst N;split at h4
    .rename_i s1 hs1;let⟨φ1,g1,Pr⟩:=Tk g' q1 hs1 λk _ _ v hv hf ha v' hv'=>by
      let⟨v0,e1,e2⟩:=kp k ha v' hv';rw[hv]at e1;cases e1;exact e2 hf
     refine wp_mono (ihy cy h2 R s1 K r h4 φ1 a' w' g1) ?_;rintro e2 a2 w2 ⟨ex2,s2,φ2,rfl,hk2,g2,st2,kp2⟩;exact⟨ex2,s2,φ2,rfl,hk2,g2,(st.trans Pr).trans st2,((HO hs1).1.mono sub3).trans (kp2.mono sub2)⟩
    .cases h4
   |_=>simp only[]at z;let⟨_,_,N⟩:=d_ z;simp at N
  .refine wp_seq (wp_mono (ihx cx h1 _ s _ _ h3 φ a w g) ?_);rintro e a' w' ⟨ex,s',φ',rfl,z,g',st,kp⟩;cases ex with
   |normal=>simp only[]at z;let⟨_,_,N⟩:=d_ z;simp at N
   |exit id=>
    simp only[]at z;let⟨r',q1,N⟩:=d_ z;simp only[ah,Sum.inl.injEq]at N;subst N;exact⟨.exit id,s',φ',rfl,q1,g',st,kp.mono sub1⟩
   |ret=>
    simp only[]at z;let⟨r',q1,N⟩:=d_ z;simp only[ah,Sum.inl.injEq]at N;subst N;exact⟨.ret,s',φ',rfl,q1,g',st,kp.mono sub1⟩
 |@cond t x y x' y' _ _ ihx ihy=>
  intro c hc R s K r h φ a w g;let⟨c',hn,L,hsim⟩:=lm P i c;refine hsim _ _ _ ?_;rw[<- L]at hc;obtain⟨cx,cy,rfl,h1,h2⟩:=ajf hn hc;simp only[oK]at h;split at h
  .rename_i b hb;rcases mQ h with ⟨rfl,h⟩|⟨rfl,h⟩
   .refine wp_cond_true (g.bool hb) (wp_mono (ihx cx h1 R s K r h φ a w g) ?_);rintro e a' w' ⟨ex,s',φ',rfl,z,g',st,kp⟩;exact⟨ex,s',φ',rfl,z,g',st,kp.mono λk z=>by simp only[TC.asg];exact kq z⟩
   .refine wp_cond_false (g.bool hb) (wp_mono (ihy cy h2 R s K r h φ a w g) ?_);rintro e a' w' ⟨ex,s',φ',rfl,z,g',st,kp⟩;exact⟨ex,s',φ',rfl,z,g',st,kp.mono λk z=>by simp only[TC.asg];exact vE z⟩
  .rename_i hb;let⟨ha,hbb⟩:=ag2 h;let⟨bv,hbv⟩:=g.qw hb;cases bv with
   |true=>
    refine wp_cond_true hbv (wp_mono (ihx cx h1 R s K r ha φ a w g) ?_);rintro e a' w' ⟨ex,s',φ',rfl,z,g',st,kp⟩;exact⟨ex,s',φ',rfl,z,g',st,kp.mono λk z=>by simp only[TC.asg];exact kq z⟩
   |false=>
    refine wp_cond_false hbv (wp_mono (ihy cy h2 R s K r hbb φ a w g) ?_);rintro e a' w' ⟨ex,s',φ',rfl,z,g',st,kp⟩;exact⟨ex,s',φ',rfl,z,g',st,kp.mono λk z=>by simp only[TC.asg];exact vE z⟩
  .cases h
 |@block id b b' _ ih=>
  intro c hc R s K r h φ a w g;let⟨c',hn,L,hsim⟩:=lm P i c;refine hsim _ _ _ ?_;rw[<- L]at hc;obtain⟨cb,rfl,h1⟩:=RA hn hc;simp only[oK]at h;refine wp_block (wp_mono (ih cb h1 R s _ r h φ a w g) ?_);rintro e a' w' ⟨ex,s',φ',rfl,z,g',st,kp⟩;cases ex with
  |normal=>exact⟨.normal,s',φ',rfl,z,g',st,kp⟩
  |ret=>exact⟨.ret,s',φ',rfl,z,g',st,kp⟩
  |exit nt=>
   simp only[Ex.to,Exit.inBlock];simp only[]at z;split at z
   next hb=>rw[aF (av hb)];exact⟨.normal,s',φ',rfl,z,g',st,kp⟩
   next hb=>rw[ax (λe=>hb (by rw[e];exact gw id))];exact⟨.exit nt,s',φ',rfl,z,g',st,kp⟩
 |@zf A id b b' _ ih=>
  intro c hc R s K r h φ a w g;let⟨c',hn,L,hsim⟩:=lm P i c;refine hsim _ _ _ ?_;rw[<- L]at hc;obtain⟨cb,rfl,h1⟩:=RA hn hc;simp only[oK]at h;have sub1:∀k,aO (b.asg 0) k=J->aO ((TC.zf A id b).asg 0) k=J:=λk z=>by simp only[TC.asg];exact vE z
  have sub3:∀k,aO (PP A.ks 0) k=J->aO ((TC.zf A id b).asg 0) k=J:=λk z=>by simp only[TC.asg];exact kq z
  rcases ac8 h with ⟨d,h3,h4⟩|h3
  .refine wp_block (wp_mono (ih cb h1 _ s _ _ h3 φ a w g) ?_);rintro e a' w' ⟨ex,s',φ',rfl,z,g',st,kp⟩;have fin:aA (Qk j A (b.asg 0) s s') (λx=>Z (bZ (α:=R) x))=Z (bZ d)->ark P E i j φ s w ((TC.zf A id b).asg 0) K r .normal a' w':=by
    intro z;let⟨d',q1,N⟩:=d_ z;simp only[ah,Sum.inr.injEq]at N;subst N;split at h4
    .rename_i s1 hs1;let⟨φ1,g1,Pr⟩:=Tk g' q1 hs1 λk _ _ v hv hf ha v' hv'=>by
      let⟨v0,e1,e2⟩:=kp k ha v' hv';rw[hv]at e1;cases e1;exact e2 hf
     exact⟨.normal,s1,φ1,rfl,h4,g1,st.trans Pr,(HO hs1).1.mono sub3⟩
    .cases h4
   cases ex with
   |normal=>exact fin z
   |ret=>simp only[]at z;let⟨_,_,N⟩:=d_ z;simp at N
   |exit nt=>
    simp only[Ex.to,Exit.inBlock];simp only[]at z;split at z
    next hb=>rw[aF (av hb)];exact fin z
    .obtain⟨_,_,N⟩:=d_ z;simp at N
  .refine wp_block (wp_mono (ih cb h1 _ s _ _ h3 φ a w g) ?_);rintro e a' w' ⟨ex,s',φ',rfl,z,g',st,kp⟩;cases ex with
   |normal=>simp only[]at z;let⟨_,_,N⟩:=d_ z;simp at N
   |ret=>
    simp only[]at z;let⟨r',q1,N⟩:=d_ z;simp only[ah,Sum.inl.injEq]at N;subst N;exact⟨.ret,s',φ',rfl,q1,g',st,kp.mono sub1⟩
   |exit nt=>
    simp only[Ex.to,Exit.inBlock];simp only[]at z;split at z
    .obtain⟨_,_,N⟩:=d_ z;simp at N
    next hb=>rw[ax (λe=>hb (by rw[e];exact gw id))];let⟨r',q1,N⟩:=d_ z;simp only[ah,Sum.inl.injEq]at N;subst N;exact⟨.exit nt,s',φ',rfl,q1,g',st,kp.mono sub1⟩
 |@loop A b b' _ ih=>
  intro c hc R s K r h φ a w g;let⟨c',hn,L,hsim⟩:=lm P i c;refine hsim _ _ _ ?_;rw[<- L]at hc;obtain⟨cb,rfl,h1⟩:=VQ hn hc;simp only[oK]at h;let⟨x0,hx0,h⟩:=d_ h;let⟨n,hn⟩:=aen h;have sub1:∀k,aO (b.asg 0) k=J->aO ((TC.loop A b).asg 0) k=J:=λk z=>by simp only[TC.asg];exact vE z
  have sub3:∀k,aO (PP A.ks 0) k=J->aO ((TC.loop A b).asg 0) k=J:=λk z=>by simp only[TC.asg];exact kq z
  obtain⟨step,hstep⟩:∃step:A.D->M (A.D⊕R),step=λx=>(match Kt A (b.asg 0) s x with
   |some s'=>oK j X W inert b s' λex s'=>(match ex with
    |.normal=>aA (Qk j A (b.asg 0) s s') λy=>Z (li y)
    |ex=>aA (K ex s') λr=>Z (bZ r))
   |none=>U):=⟨_,rfl⟩
  have hn:iterN step n x0=Z r:=by rw[hstep];exact hn
  have stepEq:∀x,step x=(match Kt A (b.asg 0) s x with
   |some s'=>oK j X W inert b s' λex s'=>(match ex with
    |.normal=>aA (Qk j A (b.asg 0) s s') λy=>Z (li y)
    |ex=>aA (K ex s') λr=>Z (bZ r))
   |none=>U):=λx=>by rw[hstep]
  let Inv:Nat->Act->World->Prop:=λn a w'=>∃x s1 φ1,iterN step n x=Z r/\Kt A (b.asg 0) s x=Z s1/\jB P E i j φ1 s1 a w'/\xN j φ φ1 (erHF s.h) (erHF s1.h) w w'
  have head:∀(n:Nat) (x:A.D),iterN step n x=Z r->∃s1,Kt A (b.asg 0) s x=Z s1:=by
   intro n x hn;cases n with
   |zero=>cases hn
   |succ n=>
    simp only[iterN]at hn;cases hr:Kt A (b.asg 0) s x with
    |some s1=>exact⟨s1,rfl⟩
    |none=>rw[stepEq,hr]at hn;cases hn
  refine Fs Inv ?_ (n:=n) ?_
  .rintro n a1 w1 ⟨x,s1,φ1,hi,hr,g1,Pr⟩;cases n with
   |zero=>cases hi
   |succ n=>
    simp only[iterN]at hi;have hse:=stepEq x;rw[hr]at hse;simp only[]at hse;let⟨kp1,kp1'⟩:=HO hr;split at hi
    .rename_i y hy;rw[hy]at hse;refine wp_mono (ih cb h1 _ s1 _ _ hse.symm φ1 a1 w1 g1) ?_;rintro e a' w' ⟨ex,s',φ',rfl,z,g',st,kp⟩;cases ex with
     |normal=>
      simp only[]at z;let⟨d',q1,N⟩:=d_ z;simp only[ah,Sum.inl.injEq]at N;subst N;let⟨s2,hs2⟩:=head n d' hi;let⟨φ2,g2,st2⟩:=Tk g' q1 hs2 λk hkk hks v hv hf ha v' hv'=>by
       let⟨v0,e1,e2⟩:=kp k ha v' hv';have:=kp1' k hks v0 e1;rw[hv]at this;cases this;exact e2 hf
      exact⟨n,by omega,d',s2,φ2,hi,hs2,g2,(Pr.trans st).trans st2⟩
     |_=>simp only[]at z;let⟨_,_,N⟩:=d_ z;simp at N
    .rename_i r' hy;cases hi;rw[hy]at hse;refine wp_mono (ih cb h1 _ s1 _ _ hse.symm φ1 a1 w1 g1) ?_;rintro e a' w' ⟨ex,s',φ',rfl,z,g',st,kp⟩;cases ex with
     |normal=>simp only[]at z;let⟨_,_,N⟩:=d_ z;simp at N
     |exit id=>
      simp only[]at z;let⟨r',q1,N⟩:=d_ z;simp only[ah,Sum.inr.injEq]at N;subst N;exact⟨.exit id,s',φ',rfl,q1,g',Pr.trans st,(kp1.mono sub3).trans (kp.mono sub1)⟩
     |ret=>
      simp only[]at z;let⟨r',q1,N⟩:=d_ z;simp only[ah,Sum.inr.injEq]at N;subst N;exact⟨.ret,s',φ',rfl,q1,g',Pr.trans st,(kp1.mono sub3).trans (kp.mono sub1)⟩
    .cases hi
  .obtain⟨s1,hs1⟩:=head n x0 hn;let⟨φ1,g1,Pr⟩:=Tk g hx0 hs1 λk _ _ v hv _ _ v' hv'=>by rw[hv]at hv';cases hv';rfl
   exact⟨x0,s1,φ1,hn,hs1,g1,Pr⟩
 |exit id=>
  intro c hc R s K r h φ a w g;let⟨c',hn,L,hsim⟩:=lm P i c;refine hsim _ _ _ ?_;rw[<- L]at hc;rw[aje hn hc];exact wp_exit ⟨.exit id,s,φ,rfl,h,g,xN.refl _ _ _ _,fJ.refl _ _⟩
 |ret=>
  intro c hc R s K r h φ a w g;let⟨c',hn,L,hsim⟩:=lm P i c;refine hsim _ _ _ ?_;rw[<- L]at hc;rw[anr hn hc];exact wp_ret ⟨.ret,s,φ,rfl,h,g,xN.refl _ _ _ _,fJ.refl _ _⟩
 |defer f caps t=>
  intro c hc R s K r h φ a w g;let⟨c',hn,L,hsim⟩:=lm P i c;refine hsim _ _ _ ?_;rw[<- L]at hc;obtain⟨id,ops,dr,rfl,h1,h2⟩:=aeo hn hc;simp only[oK]at h;split at h
  .rename_i hi;refine aog hin g.inert g.size h1 h2 hi λa' d1 d2 d3=>⟨.normal,_,φ,rfl,h,⟨g.zk,λu x hx=>?_,g.dom,g.low,g.qz,λu x hx=>?_,d2,d3⟩,xN.refl _ _ _ _,λk z v' hv'=>?_⟩
   .simp only[fM,PT.get_set]at hx;split at hx
    .cases hx
    next hu=>rw[d1 u hu];exact g.env u x hx
   .simp only[PT.get_set]at hx;split at hx
    .cases hx
    .exact g.qp u x hx
   .simp only[PT.get_set]at hv';split at hv'
    .cases hv'
    .exact⟨v',hv',λ_=>rfl⟩
  .cases h
 |@adj l tc' sc' _ ih=>
  intro c hc R s K r h φ a w g;let⟨c',hn,L,hsim⟩:=lm P i c;refine hsim _ _ _ ?_;rw[<- L]at hc;simp only[oK]at h;split at h
  next s1 hs1=>let⟨φ1,g1,Pr,kp1⟩:=UC g hs1;refine wp_mono (ih c' hc R s1 K r h φ1 a w g1) ?_;rintro e a' w' ⟨ex,s',φ',rfl,z,g',st,kp⟩;exact⟨ex,s',φ',rfl,z,g',Pr.trans st,(kp1.mono λk z=>by simp only[TC.asg];exact kq z).trans (kp.mono λk z=>by simp only[TC.asg];exact vE z)⟩
  .cases h
 |@split k off lo n tc' sc' _ ih=>
  intro c hc R s K r h φ a w g;let⟨c',hn,L,hsim⟩:=lm P i c;refine hsim _ _ _ ?_;rw[<- L]at hc;simp only[oK]at h;split at h
  .rename_i kd v hv;let⟨np,hj,h2⟩:=U1 h;subst hj;split at h2
   .rename_i s1 hs1;let⟨g1,hH,he⟩:=ahp g hv hs1;refine wp_mono (ih c' hc R s1 K r h2 φ a w g1) ?_;rintro e a' w' ⟨ex,s',φ',rfl,z,g',st,kp⟩;exact⟨ex,s',φ',rfl,z,g',by rw[<- hH];exact st,λk z v' hv'=>by
     let⟨v,q1,N⟩:=kp k z v' hv';exact⟨v,by rw[<- he];exact q1,N⟩⟩
   .cases h2
  .cases h
 |@bsp t x y sc' _ _ ihx ihy=>
  intro c hc R s K r h φ a w g;simp only[oK]at h;split at h
  .rename_i v hv;rcases mQ h with ⟨rfl,h⟩|⟨rfl,h⟩
   .have he:∀q,(s.e.set t (Z (.f .bool J))).get q=s.e.get q:=λq=>by
     rw[PT.get_set];split
     next e=>subst e;exact hv.symm
     .rfl
    let⟨g1,hH⟩:=g.congr (s':=⟨s.e.set t (Z (.f .bool J)),s.h,s.nx⟩) he (λ_=>rfl) rfl;refine wp_mono (ihx c hc R _ K r h φ a w g1) ?_;rintro e a' w' ⟨ex,s',φ',rfl,z,g',st,kp⟩;exact⟨ex,s',φ',rfl,z,g',by rw[<- hH];exact st,λk z v' hv'=>by
     let⟨v,q1,N⟩:=(kp.mono λk z=>by simp only[TC.asg];exact kq z) k z v' hv';exact⟨v,by rw[<- he];exact q1,N⟩⟩
   .have he:∀q,(s.e.set t (Z (.f .bool af))).get q=s.e.get q:=λq=>by
     rw[PT.get_set];split
     next e=>subst e;exact hv.symm
     .rfl
    let⟨g1,hH⟩:=g.congr (s':=⟨s.e.set t (Z (.f .bool af)),s.h,s.nx⟩) he (λ_=>rfl) rfl;refine wp_mono (ihy c hc R _ K r h φ a w g1) ?_;rintro e a' w' ⟨ex,s',φ',rfl,z,g',st,kp⟩;exact⟨ex,s',φ',rfl,z,g',by rw[<- hH];exact st,λk z v' hv'=>by
     let⟨v,q1,N⟩:=(kp.mono λk z=>by simp only[TC.asg];exact vE z) k z v' hv';exact⟨v,by rw[<- he];exact q1,N⟩⟩
  .cases h
 |@unl n b b' _ ih=>
  intro c hc R s K r h φ a w g;let⟨c',hn,L,hsim⟩:=lm P i c;refine hsim _ _ _ ?_;rw[<- L]at hc;obtain⟨cb,rfl,h1⟩:=VQ hn hc;simp only[oK]at h
  let Inv:Nat->Act->World->Prop:=λm a w'=>∃s1 φ1,amh (λs K=>oK j X W inert b s K) m s1 K=Z r/\jB P E i j φ1 s1 a w'/\xN j φ φ1 (erHF s.h) (erHF s1.h) w w'/\fJ (b.asg 0) s.e s1.e
  refine Fs Inv ?_ (n:=n) ⟨s,φ,h,g,xN.refl _ _ _ _,fJ.refl _ _⟩;rintro m a1 w1 ⟨s1,φ1,hi,g1,Pr,kp1⟩;cases m with
  |zero=>cases hi
  |succ m=>
   simp only[amh]at hi;refine wp_mono (ih cb h1 R s1 _ r hi φ1 a1 w1 g1) ?_;rintro e a' w' ⟨ex,s',φ',rfl,z,g',st,kp⟩;cases ex with
   |normal=>exact⟨m,n_ m,s',φ',z,g',Pr.trans st,kp1.trans kp⟩
   |exit id=>exact⟨.exit id,s',φ',rfl,z,g',Pr.trans st,kp1.trans kp⟩
   |ret=>exact⟨.ret,s',φ',rfl,z,g',Pr.trans st,kp1.trans kp⟩
 |jq sc'=>
  intro c hc R s K r h;simp[oK]at h
def SE {s:TS} (hinv:gZ s.h s.nx) (hiE:sL s.e s.h) (r:sE V O (erHF s.h) w) (en:Sk V (tot O V (erHF s.h)) w (fM s.e s.h) S):∀(N:Y ResultVar) (rvs:Y RV) (l:Y TV),xI P N=Z rvs->Va s rvs=Z l->
 ∃la vs,cM s.h l=Z la/\(N.mapM (ai1 S.tmps)).run P w= .ok vs w/\lK V (tot O V (erHF s.h)) w la vs
 |[],rvs,l,A,z=>by
  simp[xI,ah]at A;subst A;simp[Va,ah]at z;subst z;exact⟨[],[],rfl,by simp,trivial⟩
 |.tmp t::N,rvs,l,A,z=>by
  simp[xI]at A;split at A
  .rename_i rvs' hrs;simp[ah]at A;subst A;simp[Va]at z;split at z
   .rename_i v D;split at z
    next l' L=>simp[ah]at z;subst z;let⟨la,vs,h0,h1,h2⟩:=SE hinv hiE r en N rvs' l' hrs L;simp[rvT]at D;let⟨y,hy⟩:=pq s.h v (hiE t v D);refine ⟨y::la,S.tmps.getD t undef::vs,qC hy h0,?_,en t y (by simp[fM,D,aD,hy]),h2⟩;simp[List.mapM_cons,fE,ai1,w_,c4];simp_all
    .cases z
   .cases z
  .cases A
 |.cell ad t::N,rvs,l,A,z=>by
  simp[xI]at A;split at A
  .rename_i rvs' sz ag hrs hsz hag;simp[ah]at A;subst A;simp[Va]at z;split at z
   .rename_i v D;split at z
    .rename_i l' L;simp[ah]at z;subst z;let⟨la,vs,h0,h1,h2⟩:=SE hinv hiE r en N rvs' l' hrs L;simp[rvT]at D;split at D
     .rename_i id off hp;split at D
      .rename_i ty q hb;let⟨q',hq'⟩:=fF s.h q (hinv.C id _ q hb);let⟨y,e1,e2⟩:=ahi hq' D;let⟨H,hH⟩:=gM s.h;have hR:xM H sz ag (.H (nm id) off)=Z ⟨y,[nm id],[],[],[]⟩:=by
        have hg:H.get (nm id)=Z ⟨ty,.mx q'⟩:=by rw[hH,bL,hb];simp[aD,ky,hq']
        simp[xM,hg,e2]
       let⟨_,_,_,h3⟩:=X6 (P:=P) hsz hag hR;let⟨qq,v',h4,h5,h6⟩:=h3 V O (erHF s.h) w _ (λi _=>by rw[hH]) r (en ad _ (by simp[fM,hp,aD,b_]));refine ⟨y::la,v'::vs,qC e1 h0,?_,h6,h2⟩;have hone:(ai1 S.tmps (.cell ad t)).run P w= .ok v' w:=by
        simp[ai1,fE,h4,asAddr,w_,c4,h5]
       simp_all
      .cases D
     .cases D
    .cases z
   .cases z
  .cases A
def IV:∀(args:Y TV) (k t:Nat) (x:TV),(O0 k args).get t=Z x->k<=t/\args[t-k]? =Z x
 |[],k,t,x,h=>by simp[O0,PT.get]at h
 |y::args,k,t,x,h=>by
  rw[O0,PT.get_set]at h;split at h
  .grind
  .obtain⟨h1,z⟩:=IV args (k+1) t x h
   grind
variable {r:Y TV} {u:TV}
def aim (A:lN h r=J) (L:r[j]? =Z u):PL h u=J:=by
 let⟨l',D⟩:=fF h r A;let⟨y,_,z⟩:=me D j u L;exact Iw _ _ _ z
def YH {inert:FuncId->Bool} (hm:P.follows .mixedOrders=J) (hcon:Hw P X) (hin:Pk P inert) {sf:SF} (hf:CL P f=Z sf) (D:FT) (m:D.pre.ty.den->M D.post.ty.den) (hmod:∀x y,m x=Z y->ahg X W inert (Z sf) D x=Z y):rn P f ⟨D.pre,D.post,m⟩:=by
 let⟨fn,c,hfn,hb,hnm,hcode,hres,hnt⟩:=XT hf;refine ⟨⟨fn,hfn,by rw[hb];rfl,hnm⟩,λx y hxy vs hp l1 rs hq l2 la lr I B hla hlr φ E w us hrep hrel hdom=>?_⟩;have ht:=hmod x y hxy;unfold ahg at ht;simp only[]at ht;split at ht
 .rename_i args h hins;let⟨l1',I'⟩:=yQ hins;have e1:args=vs:=by have h1:=I.pv;have N:=I'.pv;rw[h1]at N;cases N;rfl
  have e2:l1'=l1:=by have h1:=I.pb;have N:=I'.pb;rw[h1]at N;cases N;rfl
  subst e1 e2;have hget:∀i,h.get i=hp.get i:=λi=>by
   cases h3:hp.get i with
   |some b=>exact (I'.at_ i b).2 ((I.at_ i b).1 h3)
   |none=>
    cases h4:h.get i with
    |none=>rfl
    |some b=>have:=(I.at_ i b).2 ((I'.at_ i b).1 h4);rw[h3]at this;cases this
  have hrow:∀i,eR h i=eR hp i:=λi=>by rw[bD,bD,hget]
  have herH:erHF h=erHF hp:=by
   funext n;unfold erHF;rw[hget];cases h3:hp.get (ow n) with
   |none=>rfl
   |some b=>
    simp only[aD];refine mf (λi r hr=>by rw[hrow];exact hr) (λty l e=>?_) _ _;exact (I.C _ _ l (by rw[h3,e])).1
  have hla':cM h args=Z la:=gV (λi r hr=>by rw[hrow];exact hr) args la hla;split at ht
  .rename_i hle;simp only[au]at hle;have hle2:=aY hle.2;have hle:=aY hle.1;have hlen:=hrel.length;have hargl:args.length=la.length:=(iC hla).symm;refine calls_of_wp_defers hfn hb ?_;have hcfg:jB P E fn.ntmps D.pre.bs.length φ ⟨O0 0 args,h,D.pre.bs.length⟩ {tmps:=us.toArray++zY (fn.ntmps-us.toArray.size) undef,defers:=[]} w:=by
    refine ⟨by rw[herH];exact hrep,?_,hdom,bI _,⟨λi ty l hl=>(I'.C i _ l hl).1,λi b hbb=>I'.lt_len hbb⟩,?_,by simp,by simp;omega⟩
    .intro t z hz;simp only[fM]at hz;cases hx:(O0 0 args).get t with
     |none=>rw[hx]at hz;cases hz
     |some v0=>
      rw[hx]at hz;let⟨_,N⟩:=IV args 0 t v0 hx;rw[Nat.sub_zero]at N;let⟨y0,q1,q2⟩:=me hla' t v0 N;simp only[aD]at hz;rw[hz]at q2;cases q2;let⟨v,h3,h4⟩:=hrel.get t z q1;have hlt:t<us.length:=(bA.1 h3).1;have:(us.toArray++zY (fn.ntmps-us.toArray.size) undef).getD t undef=v:=by
       rw[j6,Array.getElem?_append]
       grind
      grind
    .intro t v0 hv0;let⟨_,N⟩:=IV args 0 t v0 hv0;exact aim I'.ok N
   refine wp_mono (as6 (E:=E) hm hcon hin (AG D.hints sf.code 0) c hcode.symm _ _ _ _ ht φ _ w hcfg) ?_;rintro e a' w' ⟨ex,s',φ',rfl,L,g',st,_⟩;have fin:∀(s':TS) (φ':PM),jB P E fn.ntmps D.pre.bs.length φ' s' a' w'->xN D.pre.bs.length φ φ' (erHF h) (erHF s'.h) w w'->(match Va s' sf.res with
    |some l=>(match E8 D.pre.bs.length D.post l s'.h with
     |some ⟨y,_,_,_⟩=>(match DY D.post y with|some _=>Z y|none=>U)
     |none=>U)
    |none=>U)=Z y->Leaves P fn a'.tmps (λen w'=>∃v φ',en= .returned v/\I3 (own φ (erHF hp)) w w'/\(∀k,k<w.heap.size->own φ' (erHF hq) k->own φ (erHF hp) k)/\(∀n,ow n<D.pre.bs.length->φ' n=φ n)/\sE φ' E (erHF hq) w'/\cz φ' (tot E φ' (erHF hq)) w' (Fu lr) v) a'.defers .returning w':=by
    intro s' φ' g' st L;split at L
    .rename_i l hl;split at L
     .rename_i y' m' σ sm hM;split at L
      .cases L;let⟨lo,rvs,q0,q1,q2⟩:=SE g'.qz g'.qp g'.zk g'.env fn.results.toList sf.res l hres hl;have A:=yL hM;let⟨φ2,lu,hlu,S⟩:=PC (np:=D.pre.bs.length) (E:=E) B g'.qz A q0 g'.zk;rw[hlr]at hlu;cases hlu;have hresults:(results fn a'.tmps).run P w'= .ok (if h:rvs.toArray.size=1 then rvs.toArray[0] else .tuple rvs.toArray) w':=by
        rw[YS,Array.mapM_eq_mapM_toList];simp only[fE,Sem.run_map,q1,c4,w_]
       have hrl:lK φ2 (tot E φ2 (erHF hq)) w' lr rvs:=by
        refine lK.of (by rw[q2.length,S.len]) λj z v hz hv=>?_
        let⟨z0,p1,p2⟩:=S.val j z v hz;let⟨v',p3,p4⟩:=q2.get j z0 p1;rw[hv]at p3;cases p3;exact p2 p4
       have hval:cz φ2 (tot E φ2 (erHF hq)) w' (Fu lr) (if h:rvs.toArray.size=1 then rvs.toArray[0] else .tuple rvs.toArray):=by
        have hll:=hrl.length;clear hlr S;cases lr with
        |nil=>
         cases rvs with
         |nil=>exact cz.qg (vs:=[]) rfl (by intro j x v hx;simp at hx)
         |cons _ _=>exact hrl.elim
        |cons z lr=>
         cases rvs with
         |nil=>exact hrl.elim
         |cons v rvs=>
          cases lr with
          |nil=>
           cases rvs with
           |nil=>exact hrl.1
           |cons _ _=>exact hrl.2.elim
          |cons y l=>
           cases rvs with
           |nil=>exact hrl.2.elim
           |cons u rvs=>
            rw[dif_neg (by simp)];refine cz.qg (vs:=v::u::rvs) (by simpa using hll) λj x' v' hx hv=>?_
            let⟨v'',q1,q2⟩:=hrl.get j x' hx;rw[hv]at q1;cases q1;exact q2
       have st':xN D.pre.bs.length φ φ' (erHF hp) (erHF s'.h) w w':=by rw[<- herH];exact st
       refine F6 hresults ⟨_,φ2,rfl,st'.ext,λk L ho=>st'.zw k L (S.zw k ho),λi hi=>?_,S.zk,hval⟩ a'.defers g'.inert;rw[S.par i hi (dC hi hle2),st'.par i hi]
      .cases L
     .cases L
    .cases L
   have fin2:(match X8 s' (ax8 D) with
    |some s=>(match Va s sf.res with
     |some l=>(match E8 D.pre.bs.length D.post l s.h with
      |some ⟨y,_,_,_⟩=>(match DY D.post y with|some _=>Z y|none=>U)
      |none=>U)
     |none=>U)
    |none=>U)=Z y->Leaves P fn a'.tmps (λen w'=>∃v φ',en= .returned v/\I3 (own φ (erHF hp)) w w'/\(∀k,k<w.heap.size->own φ' (erHF hq) k->own φ (erHF hp) k)/\(∀n,ow n<D.pre.bs.length->φ' n=φ n)/\sE φ' E (erHF hq) w'/\cz φ' (tot E φ' (erHF hq)) w' (Fu lr) v) a'.defers .returning w':=by
    intro L;split at L
    next s2 ha=>let⟨φ3,c3,t3,_⟩:=UC g' ha;exact fin s2 φ3 c3 (st.trans t3) L
    .cases L
   cases ex with
   |exit id=>cases L
   |_=>exact fin2 L
  .cases ht
 .cases ht
abbrev A?:=FuncId×cA
def aa2:Y A?->FuncId->M cA
 |[],_=>U
 |(g,c)::r,f=>if aB g f then Z c else aa2 r f
def Q3 (P:Program):Y A?->Prop
 |[]=>True
 |p::r=>aM P (p.1%65536) p.2/\Q3 P r
def acy :∀{l:Y A?},Q3 P l->Hw P (aa2 l)
 |[],_,f,c,h=>by simp[aa2]at h
 |(g,d)::r,z,f,c,h=>by
  simp only[aa2]at h;split at h
  next A=>have:=av A;subst this;cases h;exact z.1
  .exact acy z.2 f c h
def Wp {inert:FuncId->Bool} (hm:P.follows .mixedOrders=J) (hin:Pk P inert) {l:Y A?} (A:Q3 P l) {D:FT} {m:D.pre.ty.den->M D.post.ty.den} (z:(CL P f).isSome=J) (he:∀x,ahg (aa2 l) W inert (CL P f) D x=m x):rn P f ⟨D.pre,D.post,m⟩:=by
 let⟨L,hf⟩:=qS.1 z;exact YH hm (acy A) hin hf D m λx y hxy=>by rw[<- hf,he];exact hxy
def rn.sub {pre post:Tm} {m m':pre.ty.den->M post.ty.den} (h:rn P f ⟨pre,post,m⟩) (z:∀x y,m' x=Z y->m x=Z y):rn P f ⟨pre,post,m'⟩:=
 ⟨h.zm,λx y hxy=>h.calls x y (z x y hxy)⟩
def aM.sub {P:Program} {f:FuncId} {pre post:Tm} {m m':pre.ty.den->M post.ty.den} (h:aM P f ⟨pre,post,m⟩) (z:eK (l! pre.bs) (l! post.bs)=J) (A:∀x y,m' x=Z y->m x=Z y):aM P f ⟨pre,post,m'⟩:=
 ((h.holds z).sub A).toC z
def tD {b:Nat}:∀(x y:Y R),chk (bh (aj x) b) (λ_=>Z x)=Z y->aJ (aB (aj x) 0) (IR (Z ([]:Y R)) (chk (bh (aj ([]:Y R)+aj x) b) λ_=>(Z (([]:Y R)++x)))) (chk (bh (aj ([]:Y R)+aj x) b) λ_=>(Z (([]:Y R)++x)))=Z y:=by
 intro x y h;rw[kW,pK,b9,h];cases x with
 |nil=>
  let⟨_,h⟩:=cN h;cases h;show IR (Z []) (Z [])=_;unfold IR;rw[aF rfl]
 |cons a r=>rfl
def Zy {pre post:Tm} (z:(CL P f).isSome=J):rn P f ⟨pre,post,λ_=>U⟩:=by
 let⟨D,hf⟩:=qS.1 z;let⟨fn,c,hfn,A,hnm,_⟩:=XT hf;exact⟨⟨fn,hfn,by rw[A];rfl,hnm⟩,λx y h=>by cases h⟩
def rn.orElse {pre post:Tm} {m m':pre.ty.den->M post.ty.den} (h:rn P f ⟨pre,post,m⟩) (h':rn P f ⟨pre,post,m'⟩):rn P f ⟨pre,post,λx=>match m x with|some y=>Z y|none=>m' x⟩:=
 ⟨h.zm,λx y hxy=>by
   cases hm:m x with
   |some z=>rw[show (cA.m ⟨pre,post,λx=>match m x with|some y=>Z y|none=>m' x⟩ x)=Z z by show (match m x with|some y=>Z y|none=>m' x)=Z z;rw[hm]]at hxy;cases hxy;exact h.calls x _ hm
   |none=>rw[show (cA.m ⟨pre,post,λx=>match m x with|some y=>Z y|none=>m' x⟩ x)=m' x by show (match m x with|some y=>Z y|none=>m' x)=m' x;rw[hm]]at hxy;exact h'.calls x y hxy⟩
def aM.orE {pre post:Tm} {m m':pre.ty.den->M post.ty.den} (z:eK (l! pre.bs) (l! post.bs)=J) (h:aM P f ⟨pre,post,m⟩) (h':aM P f ⟨pre,post,m'⟩):aM P f ⟨pre,post,λx=>AI.orE (m x) (m' x)⟩:=by
 have e:(λx=>AI.orE (m x) (m' x))=λx=>match m x with|some y=>Z y|none=>m' x:=by funext x;cases m x<;>rfl
 rw[e];exact ((h.holds z).orElse (h'.holds z)).toC z
def inert (_:FuncId):Bool:=af
def VR:Pk Tryz.prog inert:=λ_ h=>by cases h
def dR :Y (Nat×R)->PT R
 |[]=>.leaf
 |p::r=>(dR r).set p.1 (Z p.2)
noncomputable abbrev Pg:Program:=Tryz.prog
def cn (D:FT) (m:D.pre.ty.den->M D.post.ty.den):cA:=⟨D.pre,D.post,m⟩
def ax1:Pg.follows .mixedOrders=J:=by kernel_rfl
def ac {c:cA} {l:Y A?} (h:aM Pg f c) (t:Q3 Pg l) (hf:eJ f 65536=J:=by rfl):Q3 Pg ((f,c)::l):=⟨by rw[xd (Uw hf)];exact h,t⟩
def ac2 {c:cA} {l:Y A?} (q:FuncId) (z:q%65536=f) (h:aM Pg f c) (t:Q3 Pg l):Q3 Pg ((q,c)::l):=⟨by rw[z];exact h,t⟩
def an:Q3 Pg []:=trivial
inductive OI {R:Type}:Option R->Option R->Prop where
 |rfl {a:Option R}:OI a a
 |chk {b:Bool} {k k':Option R} (h:nj k k'):OI (chk b λ_=>k) (chk b λ_=>k')
 |aJ {b:Bool} {t f t' f':Option R} (h1:nj t t') (h2:nj f f'):OI (aJ b t f) (aJ b t' f')
 |lt {α:Type} {x:α} {k k':α->Option R} (h:∀y,nj (k y) (k' y)):OI (lt x k) (lt x k')
 |jn {α:Type} {o o':Option (R⊕α)} {k k':α->Option R} (h:nj o o') (hk:∀x,nj (k x) (k' x)):OI (jn o k) (jn o' k')
 |aA {α:Type} {o o':Option α} {k k':α->Option R} (h:nj o o') (hk:∀x,nj (k x) (k' x)):OI (aA o k) (aA o' k')
 |iter {σ:Type} {f g:σ->Option (σ⊕R)} {x:σ} (h:∀x,nj (f x) (g x)):OI (iK f x) (iter g x)
def OI.o {a b:M R} (h:OI a b):nj a b:=by
 cases h with
 |rfl=>exact nj.rfl
 |chk h=>exact nj.chk h
 |aJ h g=>exact nj.bcase h g
 |lt h=>exact nj.lt h
 |jn h g=>exact nj.jn h g
 |aA h g=>exact nj.obind h g
 |iter h=>exact nj.iter h
def mk (D:FT) (m:D.pre.ty.den->M D.post.ty.den) {l:Y A?} (N:Q3 Pg l) (z:TypeId->M Ty) (he:∀x,ahg (aa2 l) z inert (CL Pg f) D x=m x:=by intro x;kernel_rfl) (A:(CL Pg f).isSome=J:=by kernel_rfl) (L:eK (l! D.pre.bs) (l! D.post.bs)=J:=by kernel_rfl):aM Pg f (cn D m):=(Wp ax1 VR N A he).toC L
def E7 (D:FT) (m n:D.pre.ty.den->M D.post.ty.den) (L:∀x,nj (m x) (n x)) {l:Y A?} (ha:Q3 Pg l) (z:TypeId->M Ty) (he:∀x,ahg (aa2 l) z inert (CL Pg f) D x=n x:=by intro x;kernel_rfl) (A:(CL Pg f).isSome=J:=by kernel_rfl) (N:eK (l! D.pre.bs) (l! D.post.bs)=J:=by kernel_rfl):aM Pg f (cn D m):=((Wp ax1 VR ha A he).sub L).toC N
def Ji (D:FT) (z:(CL Pg f).isSome=J:=by kernel_rfl) (A:eK (l! D.pre.bs) (l! D.post.bs)=J:=by kernel_rfl):aM Pg f (cn D λ_=>U):=(Zy z).toC A
abbrev aP:Ty:=(.int .i64)
abbrev lL:Ty:=(.st (.pr .str (.pr aP (.pr aP (.pr .bool aP)))))
abbrev tF:Ty:=(.st (.pr .str .bool))
abbrev pW:Ty:=(.st (.pr aP (.pr aP aP)))
abbrev mn:Ty:=(.st (.pr (.sl lL) (.pr (.sl tF) (.pr (.sl itK) (.pr (.sl .str) (.pr (.sl .str) (.sl pW)))))))
abbrev Pj:Ty:=(.sl (.sl aP))
abbrev fA:Ty:=(.st (.pr aP (.pr (.sl aP) (.pr Pj aP))))
abbrev sJ:Ty:=(.st (.pr aP (.pr aP (.pr aP (.pr aP (.pr aP aP))))))
abbrev em:Ty:=(.st (.pr aP (.sl aP)))
abbrev uD:Ty:=(.sl .bool)
abbrev alx:Ty:=(.pr aP (.pr aP .bool))
abbrev iD:Ty:=(.st alx)
abbrev HC:Ty:=(.st (.pr (.sl em) (.pr aP (.pr uD (.sl iD)))))
abbrev fV:Ty:=(.st (.pr aP (.pr aP (.pr aP (.pr aP (.pr aP (.pr (.sl aP) (.sl aP))))))))
abbrev Kn:Ty:=(.st (.pr aP (.pr aP (.pr .str (.pr aP (.pr aP .str))))))
abbrev uY:Ty:=(.st (.pr .str (.pr aP (.pr (.sl .str) (.sl .sm)))))
abbrev Sj:Ty:=(.st (.pr (.sl Kn) (.sl uY)))
abbrev zP:Ty:=(.st (.pr aP (.sl sJ)))
abbrev wK:Ty:=(.st (.pr mn (.sl zP)))
abbrev yg:Ty:=(.st (.pr HC (.pr (.sl aP) (.pr (.sl aP) (.sl fA)))))
abbrev nO:Ty:=(.st (.pr HC (.pr (.sl aP) (.pr (.sl aP) (.sl aP)))))
abbrev Ht:Ty:=(.sl (.int .u8))
abbrev BH:Ty:=(.st (.pr Ht aP))
abbrev fd:Ty:=(.st (.pr aP aP))
abbrev pl:Ty:=(.st (.pr mn (.sl fV)))
abbrev s?:=Int×Int×Bool×Int
abbrev Ya:=(ζ×s?)
abbrev oH:=(Y Ya)
abbrev I!:=ζ×Bool
abbrev nM:=(Y I!)
abbrev kw:=(ζ×Int)
abbrev dB:=(Y ζ)
abbrev c!:=oH×nM×(Y kw)×dB×dB×Y π
abbrev eu:=c!
abbrev i?:=Int×Int
abbrev tW:=(oH×nM×(Y kw)×dB×dB×(Y π)×dB×i?)
abbrev j!:=Int×η
abbrev jV:=(Y j!)
abbrev e!:=Int×Int×Bool
abbrev eH:=e!
abbrev h?:=(θ)×Y eH
abbrev w!:=jV×Int×h?
abbrev rz:=w!
abbrev k!:=Int×(η)×(Y η)×Int
abbrev yc:=k!
abbrev mh:=(ω)
abbrev b!:=Int×Int×Int×Int×Int×(η)×η
abbrev gA:=b!
abbrev C?:=Int×Int×(ζ)×Int×Int×ζ
abbrev atp:=C?
abbrev zJ:=(Y atp)
abbrev zI:=(ζ×Int×dB×Y Sx)
abbrev N?:=Bool×Bool
abbrev X!:=Int×Int×Bool×Bool×N?
abbrev Hp:=X!
abbrev z?:=eu×Y (Int×Y mh)
abbrev Fo:=z?
abbrev Hr:=(υ)
abbrev f?:=(η)×(η)×η
abbrev U?:=rz×f?
abbrev kc:=U?
abbrev n?:=η×Int
abbrev iE:=n?
abbrev h!:=rz×(η)×(η)×Y yc
abbrev AM:=h!
abbrev aai:=(Int×Int×(ζ)×(ζ)×Int×Int×ζ)
abbrev zK:=(zJ×(Y zI)×Int)
abbrev Yb:=(Bool×Y ζ)
abbrev Ya23:=(Int×Int×yc×yc×k!)
abbrev Ya24:=(yc×Int×Int×yc×k!)
abbrev Z!:=Int×Int×k!
abbrev Ya25:=(yc×yc×Z!)
abbrev j?:=Hp×iE×Bool×Y ζ
abbrev al9:=((Y Sx)×j?)
abbrev Ya27:=(Int×Int×yc×k!)
abbrev Ya28:=(yc×Z!)
abbrev Ya29:=Z!
abbrev ag4:=(Int×j?)
abbrev al8:=(Sx×j?)
abbrev e?:=zK×(Bool×Y Sx)×dB×Y ζ
abbrev ap9:=(ν×e?)
abbrev g!:=tW×Y mh
abbrev QU:=(Sx×g!)
abbrev Hq:=(AM×gA×Bool)
abbrev Y!:=(Sx×Int×Int×Int)×g!
abbrev al7:=Y!
abbrev ap8:=(ν×j?)
abbrev ap7:=(kw×j?)
abbrev ag3:=(Hp×iE×Yb×Y Sx)
abbrev ap6:=(Xp×j?)
abbrev Ya42:=(yc×yc×yc×i?)
abbrev al6:=((Y Sx)×g!)
abbrev bc {α:Type} (l:Y α):Int:=aS (aj l)
abbrev cS (n:Int):Int:=bn .i64 (n+1)
abbrev aI {R α:Type} (x:α):M (R⊕α):=Z (bZ x)
abbrev c8 {R α:Type} (x:R):M (R⊕α):=Z (li x)
abbrev bW {R:Type} (T:Ty) (l:Y T.den) (j:Int) (k:T.den->M R):M R:=chk (dN j (aj l)) λ_=>lt (geti T l j) k
abbrev kf {R:Type} (T:Ty) (l:Y T.den) (j:Int) (k:T.den->M R):M R:=chk (dN j (aj l)) λ_=>chk (dN j (aj l)) λ_=>lt (geti T l j) k
abbrev kO {R α:Type} (j:Int) (l:Y α) (k:M R):M R:=chk (dN j (aj l)) λ_=>k
abbrev bT {R:Type} (b:Bool) (k:M R):M R:=chk b λ_=>k
abbrev bm {R:Type} (a b:Int) (t f:M R):M R:=aJ (decide (a=b)) t f
abbrev jY {R:Type} (a b:Int) (t f:M R):M R:=aJ (!decide (a=b)) t f
abbrev bV {R:Type} (a b:Int) (t f:M R):M R:=aJ (gF a b) t f
abbrev jZ {R:Type} (a b:Int) (t f:M R):M R:=aJ (dz a b) t f
def ck (b:Bool) (k:M R):M R:=chk b λ_=>chk b λ_=>k
def eT (s:Sx):Sx:=oY (Sx.op s,Sx.line s,Sx.name s,Sx.arg s,Sx.index s,eO (Xp.op (Sx.expr s),Xp.n (Sx.expr s),Xp.name (Sx.expr s),Xp.l (Sx.expr s)),Sx.body s,Sx.els s)
def lG (x:Unit):M dB:=
 (Z ([[118,97,114],[118,111,108,97,116,105,108,101],[109,117,116,101,120],[114,119,108,111,99,107],[99,111,110,100],[102,117,116,117,114,101],[116,104,114,101,97,100],[105,102],[101,108,115,101],[119,104,105,108,101],[108,111,99,107],[114,101,97,100],[119,114,105,116,101],[116,114,97,110,115,97,99,116,105,111,110],[97,116,111,109,105,99],[119,97,105,116],[110,111,116,105,102,121],[110,111,116,105,102,121,97,108,108],[115,112,97,119,110],[106,111,105,110],[115,101,116],[103,101,116]]))
def l7 (x:ζ):M (Bool):=
 (aA (lG ()) λA=>(iter (σ:=Int) (λz=>(bV z (bc A) (bW (.str) A z λD=>(aJ (decide ((D:ζ)=x)) (aI J) (c8 (cS z)))) (aI af))) 0))
def ms (x:Int):M (Bool):=
 (jn (jZ 97 x (jZ x 122 (aI J) (jZ 65 x (aI (dz x 90)) (aI af))) (jZ 65 x (aI (dz x 90)) (aI af))) λz=>(Z z))
def s_ (x:Int):M (Bool):=
 (jn (jZ 48 x (aI (dz x 57)) (aI af)) λz=>(Z z))
def qN (x:Int):M (Bool):=
 (jn (aA (ms x) λA=>(aJ A (aI J) (aA (s_ x) λz=>(aJ z (aI J) (aI (decide ((x:Int)=95))))))) λD=>(Z D))
def fT (x:ζ):M (Bool):=
 (jn (bV (bc x) 1 (aI J) (bV 12 (bc x) (aI J) (kO 0 x (aA (ms (amo x 0)) λL=>(aJ (!L) (aI J) (aA (l7 x) λD=>(aI D))))))) λN=>(aJ N (Z af) (iter (σ:=Int) (λz=>(bV z (bc x) (kO z x (aA (qN (amo x z)) λA=>(aJ (!A) (aI af) (c8 (cS z))))) (aI J))) 0)))
def gp (x:Bool):M (Int):=
 (aJ x (Z 1) (Z 0))
def wh (x:ν):M q!:=
 (bm x.1 4 (Z ((bn .i64 (0-x.2)),J)) (bm x.1 5 (aA (gp (decide ((x.2:Int)=0))) λz=>(Z (z,J))) (Z (0,af))))
def xl (x:π):M q!:=
 (bm x.1 6 (Z ((bn .i64 (x.2.1+x.2.2)),J)) (bm x.1 7 (Z ((bn .i64 (x.2.1-x.2.2)),J)) (bm x.1 8 (Z ((bn .i64 (x.2.1*x.2.2)),J)) (bm x.1 9 (bm x.2.2 0 (Z (0,J)) (bT (!decide ((x.2.2:Int)=0)) (Z ((bn .i64 (Int.tdiv x.2.1 x.2.2)),J)))) (bm x.1 10 (bm x.2.2 0 (Z (0,J)) (bT (!decide ((x.2.2:Int)=0)) (Z ((C5 x.2.1 x.2.2),J)))) (bm x.1 11 (aA (gp (decide ((x.2.1:Int)=x.2.2))) λy1=>(Z (y1,J))) (bm x.1 12 (aA (gp (!decide ((x.2.1:Int)=x.2.2))) λy2=>(Z (y2,J))) (bm x.1 13 (aA (gp (gF x.2.1 x.2.2)) λy3=>(Z (y3,J))) (bm x.1 14 (aA (gp (dz x.2.1 x.2.2)) λy4=>(Z (y4,J))) (bm x.1 15 (aA (gp (gF x.2.2 x.2.1)) λy5=>(Z (y5,J))) (bm x.1 16 (aA (gp (dz x.2.2 x.2.1)) λy6=>(Z (y6,J))) (bm x.1 17 (jn (jY x.2.1 0 (aA (gp (!decide ((x.2.2:Int)=0))) λN=>(aI (N,J))) (aA (gp af) λL=>(aI (L,J)))) λx7=>(Z x7)) (bm x.1 18 (jn (jY x.2.1 0 (aA (gp J) λA=>(aI (A,J))) (aA (gp (!decide ((x.2.2:Int)=0))) λz=>(aI (z,J)))) λD=>(Z D)) (Z (0,af)))))))))))))))
def wj (x:ν):M (Int):=
 (bV x.2 1 (Z 0) (bT (!decide ((x.2:Int)=0)) (jn (bV (C5 x.1 x.2) 0 (aI (bn .i64 ((C5 x.1 x.2)+x.2))) (aI (C5 x.1 x.2))) λz=>(Z z))))
def nD (x:Int):M (Int):=
 (jn (bm x 1 (aI J) (aI (decide ((x:Int)=2)))) λD=>(aJ D (Z 0) (jn (jZ 3 x (aI (dz x 5)) (aI af)) λA=>(aJ A (Z 1) (jn (jZ 6 x (aI (dz x 18)) (aI af)) λz=>(aJ z (Z 2) (Z (-1))))))))
def qA (rr02_ShapedExpr:Xp->M (Bool)) (x:Xp):M (Bool):=
 (jn (bm (Xp.op x) 2 (aI (J,eO ((Xp.op x),(Xp.n x),(Xp.name x),(Xp.l x)))) (aI ((decide (((Xp.op x):Int)=3)),eO ((Xp.op x),(Xp.n x),(Xp.name x),(Xp.l x))))) λz=>(jn (α:=Bool×Xp) (aA (nD (Xp.op z.2)) λy3=>(jY y3 (aS (aj (Xp.l z.2))) (aI (J,eO ((Xp.op z.2),(Xp.n z.2),(Xp.name z.2),(Xp.l z.2)))) (aJ ((z.1==(!decide (((Xp.name z.2):ζ)=([])))) !=J) (aI (J,eO ((Xp.op z.2),(Xp.n z.2),(Xp.name z.2),(Xp.l z.2)))) (aJ z.1 (aA (fT (Xp.name z.2)) λy4=>(aJ (!y4) (aI (J,eO ((Xp.op z.2),(Xp.n z.2),(Xp.name z.2),(Xp.l z.2)))) (bV (Xp.n z.2) 0 (aI (J,eO ((Xp.op z.2),(Xp.n z.2),(Xp.name z.2),(Xp.l z.2)))) (jY (Xp.op z.2) 1 (aI ((!decide (((Xp.n z.2):Int)=0)),eO ((Xp.op z.2),(Xp.n z.2),(Xp.name z.2),(Xp.l z.2)))) (aI (af,eO ((Xp.op z.2),(Xp.n z.2),(Xp.name z.2),(Xp.l z.2)))))))) (bV (Xp.n z.2) 0 (aI (J,eO ((Xp.op z.2),(Xp.n z.2),(Xp.name z.2),(Xp.l z.2)))) (jY (Xp.op z.2) 1 (aI ((!decide (((Xp.n z.2):Int)=0)),eO ((Xp.op z.2),(Xp.n z.2),(Xp.name z.2),(Xp.l z.2)))) (aI (af,eO ((Xp.op z.2),(Xp.n z.2),(Xp.name z.2),(Xp.l z.2)))))))))) λD=>(aJ D.1 (Z af) (iter (σ:=Int×Xp) (λA=>(bV A.1 (aS (aj (Xp.l A.2))) (bW (.ex) (Xp.l A.2) A.1 λL=>(aA (rr02_ShapedExpr L) λN=>(aJ (!N) (aI af) (c8 ((cS A.1),eO ((Xp.op A.2),(Xp.n A.2),(Xp.name A.2),(Xp.l A.2))))))) (aI J))) (0,eO ((Xp.op D.2),(Xp.n D.2),(Xp.name D.2),(Xp.l D.2)))))))
def iB:Nat->Xp->M (Bool)
 |0,_=>U
 |n+1,x=>qA (iB n) x
def Cg (n:Nat) (x:Xp):iB (n+1) x=qA (iB n) x:=rfl
def jO (x:Xp):M (Bool):=iB fuel x
def qM (x:Xp):M (Bool):=
 (jn (α:=Bool) (bm (Xp.op x) 0 (bm (Xp.n x) 0 (aJ (decide (((Xp.name x):ζ)=([]))) (aI (decide (((aS (aj (Xp.l x))):Int)=0))) (aI af)) (aI af)) (aI af)) λz=>(Z z))
def lh (rr02_ShapedStmt:Sx->M (Bool)) (rr02_ShapedStmts:(Y Sx)->M (Bool)) (x:Sx):M (Bool):=
 (jn (bV (Sx.op x) 1 (aI (J,eT x)) (aI ((gF 15 (Sx.op x)),eT x))) λx1=>(aJ x1.1 (Z af) (jn (bm (Sx.op x1.2) 2 (aI (J,eT x1.2)) (bm (Sx.op x1.2) 3 (aI (J,eT x1.2)) (bm (Sx.op x1.2) 7 (aI (J,eT x1.2)) (aI ((decide (((Sx.op x1.2):Int)=8)),eT x1.2))))) λN=>(jn (α:=Bool×Sx) (aJ N.1 (aJ (!decide (((Sx.name N.2):ζ)=([]))) (aI (J,eT N.2)) (aJ (!N.1) (aA (fT (Sx.name N.2)) λy4=>(aI ((!y4),eT N.2))) (aI (af,eT N.2)))) (aJ (!N.1) (aA (fT (Sx.name N.2)) λy5=>(aI ((!y5),eT N.2))) (aI (af,eT N.2)))) λL=>(aJ L.1 (Z af) (jn (α:=Bool×Sx) (bm (Sx.op L.2) 15 (aA (fT (Sx.arg L.2)) λy7=>(aJ (!y7) (aI (J,eT L.2)) (jY (Sx.op L.2) 15 (aI ((!decide (((Sx.arg L.2):ζ)=([]))),eT L.2)) (aI (af,eT L.2))))) (jY (Sx.op L.2) 15 (aI ((!decide (((Sx.arg L.2):ζ)=([]))),eT L.2)) (aI (af,eT L.2)))) λD=>(aJ D.1 (Z af) (jn (bV 1 (aS (aj (Sx.index D.2))) (aI (J,eT D.2)) (jY (Sx.op D.2) 1 (bV 0 (aS (aj (Sx.index D.2))) (aI (J,eT D.2)) (bm (aS (aj (Sx.index D.2))) 1 (bW (.ex) (Sx.index D.2) 0 λz9=>(aA (jO z9) λy10=>(aI ((!y10),eT D.2)))) (aI (af,eT D.2)))) (bm (aS (aj (Sx.index D.2))) 1 (bW (.ex) (Sx.index D.2) 0 λz11=>(aA (jO z11) λy12=>(aI ((!y12),eT D.2)))) (aI (af,eT D.2))))) λx8=>(aJ x8.1 (Z af) (jn (bm (Sx.op x8.2) 1 (aI (J,eT x8.2)) (bm (Sx.op x8.2) 2 (aI (J,eT x8.2)) (bm (Sx.op x8.2) 3 (aI (J,eT x8.2)) (aI ((decide (((Sx.op x8.2):Int)=14)),eT x8.2))))) λz=>(jn (aJ z.1 (aA (jO (eO ((Xp.op (Sx.expr z.2)),(Xp.n (Sx.expr z.2)),(Xp.name (Sx.expr z.2)),(Xp.l (Sx.expr z.2))))) λy15=>(aJ (!y15) (aI (J,eT z.2)) (aJ (!z.1) (aA (qM (eO ((Xp.op (Sx.expr z.2)),(Xp.n (Sx.expr z.2)),(Xp.name (Sx.expr z.2)),(Xp.l (Sx.expr z.2))))) λy16=>(aI ((!y16),eT z.2))) (aI (af,eT z.2))))) (aJ (!z.1) (aA (qM (eO ((Xp.op (Sx.expr z.2)),(Xp.n (Sx.expr z.2)),(Xp.name (Sx.expr z.2)),(Xp.l (Sx.expr z.2))))) λy17=>(aI ((!y17),eT z.2))) (aI (af,eT z.2)))) λx14=>(aJ x14.1 (Z af) (jn (jZ 2 (Sx.op x14.2) (aI ((dz (Sx.op x14.2) 8),eT x14.2)) (aI (af,eT x14.2))) λA=>(jn (aJ (!A.1) (bV 0 (aS (aj (Sx.body A.2))) (aI (J,eT A.2)) (jY (Sx.op A.2) 2 (aI ((gF 0 (aS (aj (Sx.els A.2)))),eT A.2)) (aI (af,eT A.2)))) (jY (Sx.op A.2) 2 (aI ((gF 0 (aS (aj (Sx.els A.2)))),eT A.2)) (aI (af,eT A.2)))) λx19=>(aJ x19.1 (Z af) (jn (aA (rr02_ShapedStmts (Sx.body x19.2)) λy21=>(aJ y21 (aA (rr02_ShapedStmts (Sx.els x19.2)) λy22=>(aI y22)) (aI af))) λx20=>(Z x20)))))))))))))))))
def mb (rr02_ShapedStmt:Sx->M (Bool)) (rr02_ShapedStmts:(Y Sx)->M (Bool)) (x:Y Sx):M (Bool):=
 (iter (σ:=Int) (λz=>(bV z (bc x) (kO z x (aA (rr02_ShapedStmt (geti (.sm) x z)) λA=>(aJ (!A) (aI af) (c8 (cS z))))) (aI J))) 0)
mutual
def fe:Nat->Sx->M (Bool)
 |0,_=>U
 |n+1,x=>lh (fe n) (dW n) x
def dW:Nat->(Y Sx)->M (Bool)
 |0,_=>U
 |n+1,x=>mb (fe n) (dW n) x
end
def Cf (n:Nat) (x:Sx):fe (n+1) x=lh (fe n) (dW n) x:=rfl
def BD (n:Nat) (x:Y Sx):dW (n+1) x=mb (fe n) (dW n) x:=rfl
def oV (x:Y Sx):M (Bool):=dW fuel x
def mZ (x:C?):M (Bool):=
 (jn (bV x.1 1 (aI (J,x)) (bV 6 x.1 (aI (J,x)) (aA (fT x.a) λL=>(aJ (!L) (aI (J,x)) (bV x.b 0 (aI (J,x)) (jY x.1 1 (aI ((!decide ((x.b:Int)=0)),x)) (aI (af,x)))))))) λz=>(aJ z.1 (Z af) (jn (α:=Bool×C?) (bm z.2.1 5 (aA (fT z.k) λD=>(aJ (!D) (aI (J,z.2)) (jY z.2.1 5 (aI ((!decide ((z.k:ζ)=([]))),z.2)) (aI (af,z.2))))) (jY z.2.1 5 (aI ((!decide ((z.k:ζ)=([]))),z.2)) (aI (af,z.2)))) λA=>(aJ A.1 (Z af) (jn (α:=Bool) (bV (-9223372036854775808) A.e (bm A.e 0 (aI J) (bm A.2.1 1 (aI J) (aI (decide ((A.2.1:Int)=2))))) (aI af)) λN=>(Z N))))))
abbrev A!:=zJ×Y zI
abbrev M?:=Int×(zJ×Y zI)×(ζ)×Int×dB×Y Sx
def rc (x:A!):M (Bool):=
 (iter (σ:=Int×A!) (λD=>(bV D.1 (bc D.2.1) (bW Kn D.2.1 D.1 λz2=>(aA (mZ z2) λy3=>(aJ (!y3) (aI af) (c8 ((cS D.1),D.2))))) (aA (iter (σ:=Int×A!) (λA=>(bV A.1 (bc A.2.2) (bW uY A.2.2 A.1 λz5=>(iter (σ:=M?) (λz=>(bV z.1 (bc z.c) (bW (.str) z.c z.1 λz7=>(aA (fT z7) λy8=>(aJ (!y8) (aI (bZ af)) (c8 ((cS z.1),z.2))))) (aA (jn (aA (fT z.a) λN=>(aJ (!N) (aI (J,z.2.1)) (aA (oV z.h) λL=>(aI ((!L),z.2.1))))) λx9=>(aJ x9.1 (aI af) (c8 ((cS A.1),x9.2)))) λr=>Z (bZ r)))) (0,A.2,z5))) (aI (gF 0 (bc A.2.2))))) (0,D.2)) λr=>Z (bZ r)))) (0,x))
def j8 (x:dB×ζ):M (Int):=
 (iter (σ:=Int) (λz=>(bV z (bc x.1) (bW (.str) x.1 z λA=>(aJ (decide ((A:ζ)=x.2)) (aI z) (c8 (cS z)))) (aI (-1)))) 0)
def je (x:zJ×ζ):M (Int):=
 (iter (σ:=Int) (λz=>(bV z (bc x.1) (bW Kn x.1 z λA=>(aJ (decide ((A.2.2.1:ζ)=x.2)) (aI z) (c8 (cS z)))) (aI (-1)))) 0)
def iW (x:(Y zI)×ζ):M (Int):=
 (iter (σ:=Int) (λz=>(bV z (bc x.1) (bW uY x.1 z λA=>(aJ (decide ((A.1:ζ)=x.2)) (aI z) (c8 (cS z)))) (aI (-1)))) 0)
def uq (x:(zJ×Y zI)×Int×ζ):M (Int):=
 (jn (jZ 0 x.2.1 (bV x.2.1 (bc x.1.2) (bW uY x.1.2 x.2.1 λz2=>(aA (j8 (z2.2.2.1,x.2.2)) λy3=>(aI ((dz 0 y3),x.1)))) (aI (af,x.1))) (aI (af,x.1))) λz=>(aJ z.1 (Z 8) (aA (je (z.2.1,x.2.2)) λD=>(bV D 0 (aA (iW (z.2.2,x.2.2)) λy5=>(jZ 0 y5 (Z 7) (Z 0))) (kO D z.2.1 (lt ((geti Kn z.2.1 D).1) λA=>(bm A 1 (bW Kn z.2.1 D λz7=>(jY z7.2.2.2.1 0 (Z 2) (Z 1))) (bm A 2 (Z 1) (jn (bm A 3 (aI ((decide ((A:Int)=3)),z.2)) (bm A 4 (aI ((decide ((A:Int)=4)),z.2)) (bm A 5 (aI ((decide ((A:Int)=5)),z.2)) (aI ((decide ((A:Int)=6)),z.2))))) λL=>(aJ L.1 (bW Kn L.2.1 D λN=>(Z N.1)) (Z 9)))))))))))
def ii (x:(zJ×Y zI)×Int×(ζ)×i?):M (Int):=
 (aA (uq (x.1,x.2.1,x.a)) λz=>(bm z 0 (Z 5) (jn (jY z x.b (aI (!decide ((z:Int)=x.f))) (aI af)) λA=>(aJ A (Z 6) (Z 0)))))
def Av (rr04_Nodes:Xp->M ν) (x:Xp):M ν:=
 (iter (σ:=(π)×Xp) (λz=>(bV z.1.2.2 (aS (aj (Xp.l z.2))) (bW (.ex) (Xp.l z.2) z.1.2.2 λD=>(aA (rr04_Nodes D) λA=>(c8 (((bn .i64 (z.1.1+A.1)),(m7 z.1.2.1 A.2),(cS z.1.2.2)),eO ((Xp.op z.2),(Xp.n z.2),(Xp.name z.2),(Xp.l z.2)))))) (aI (z.1.1,(cS z.1.2.1))))) ((1,0,0),eO ((Xp.op x),(Xp.n x),(Xp.name x),(Xp.l x))))
def oD:Nat->Xp->M ν
 |0,_=>U
 |n+1,x=>Av (oD n) x
def KL (n:Nat) (x:Xp):oD (n+1) x=Av (oD n) x:=rfl
def E4 (x:Xp):M ν:=oD fuel x
abbrev x!:=(zJ×Y zI)×Int×Xp
def wA (rr04_names:x!->M (Int)) (x:x!):M (Int):=
 (jn (α:=Int×(zJ×Y zI)×Xp) (bm (Xp.op x.2.2) 2 (aA (ii (x.1,x.2.1,(Xp.name x.2.2),8,1)) λy2=>(aI (y2,x.1,eO ((Xp.op x.2.2),(Xp.n x.2.2),(Xp.name x.2.2),(Xp.l x.2.2))))) (bm (Xp.op x.2.2) 3 (aA (ii (x.1,x.2.1,(Xp.name x.2.2),2,2)) λy3=>(aI (y3,x.1,eO ((Xp.op x.2.2),(Xp.n x.2.2),(Xp.name x.2.2),(Xp.l x.2.2))))) (aI (0,x.1,eO ((Xp.op x.2.2),(Xp.n x.2.2),(Xp.name x.2.2),(Xp.l x.2.2)))))) λD=>(iter (σ:=(ν)×(zJ×Y zI)×Xp) (λz=>(jn (bV z.1.2 (aS (aj (Xp.l z.2.2))) (aI ((decide ((z.1.1:Int)=0)),z.2.1,eO ((Xp.op z.2.2),(Xp.n z.2.2),(Xp.name z.2.2),(Xp.l z.2.2)))) (aI (af,z.2.1,eO ((Xp.op z.2.2),(Xp.n z.2.2),(Xp.name z.2.2),(Xp.l z.2.2))))) λA=>(aJ A.1 (bW (.ex) (Xp.l A.2.2) z.1.2 λL=>(aA (rr04_names (A.2.1,x.2.1,L)) λN=>(c8 ((N,(cS z.1.2)),A.2.1,eO ((Xp.op A.2.2),(Xp.n A.2.2),(Xp.name A.2.2),(Xp.l A.2.2)))))) (aI z.1.1)))) ((D.1,0),D.2.1,eO ((Xp.op D.2.2),(Xp.n D.2.2),(Xp.name D.2.2),(Xp.l D.2.2)))))
def oC:Nat->(x!)->M (Int)
 |0,_=>U
 |n+1,x=>wA (oC n) x
def Bf (n:Nat) (x:x!):oC (n+1) x=wA (oC n) x:=rfl
def E3 (x:x!):M (Int):=oC fuel x
def oU (x:x!):M (Int):=
 (aA (jO (eO ((Xp.op x.2.2),(Xp.n x.2.2),(Xp.name x.2.2),(Xp.l x.2.2)))) λL=>(aJ (!L) (Z 3) (aA (E4 (eO ((Xp.op x.2.2),(Xp.n x.2.2),(Xp.name x.2.2),(Xp.l x.2.2)))) λA=>(jn (bV 24 A.1 (aI (J,x.1,eO ((Xp.op x.2.2),(Xp.n x.2.2),(Xp.name x.2.2),(Xp.l x.2.2)))) (aI ((gF 6 A.2),x.1,eO ((Xp.op x.2.2),(Xp.n x.2.2),(Xp.name x.2.2),(Xp.l x.2.2))))) λz=>(aJ z.1 (Z 2) (aA (E3 (z.2.1,x.2.1,eO ((Xp.op z.2.2),(Xp.n z.2.2),(Xp.name z.2.2),(Xp.l z.2.2)))) λD=>(Z D)))))))
def dt (x:Bool):M (Int):=
 (aJ x (Z 7) (Z 0))
def jJ (x:ν):M (Int):=
 (jY x.1 0 (Z x.1) (Z x.2))
abbrev U!:=Int×e?
def eE (x:(Int×Int×ζ)×e?):M (Bool×e?):=
 (iter (σ:=U!) (λz=>(bV z.1 (bc z.a.2) (kf (.sm) z.a.2 z.1 λA=>(jn (α:=Bool×e?) (bm (Sx.op A) x.1.1 (aJ (decide ((x.1.2.2:ζ)=([]))) (aI (J,z.2)) (aI ((decide (((Sx.name A):ζ)=x.1.2.2)),z.2))) (bm (Sx.op A) x.1.2.1 (aJ (decide ((x.1.2.2:ζ)=([]))) (aI (J,z.2)) (aI ((decide (((Sx.name A):ζ)=x.1.2.2)),z.2))) (aI (af,z.2)))) λD=>(aJ D.1 (aI (J,D.2)) (c8 ((cS z.1),D.2))))) (aI (af,z.2)))) (0,x.2))
abbrev F?:=Int×zK×(Bool×Y Sx)×Sx×(zJ×Y zI)×dB×Y ζ
def nC (x:Sx×e?):M U!:=
 (aA (eE ((7,7,[]),x.2)) λy1=>(bT (aB (aj x.f) (aj y1.f)&&(aB (aj x.b) (aj y1.b)&&(((x.a.1==y1.a.1)&&J)&&aB (aj x.a.2) (aj y1.a.2)&&J))) (aA (eE ((8,8,[]),y1.2)) λy2=>(bT (aB (aj y1.f) (aj y2.f)&&(aB (aj y1.b) (aj y2.b)&&(((y1.a.1==y2.a.1)&&J)&&aB (aj y1.a.2) (aj y2.a.2)&&J))) (aA (eE ((3,3,[]),y2.2)) λy3=>(bT (aB (aj y2.f) (aj y3.f)&&(aB (aj y2.b) (aj y3.b)&&(((y2.a.1==y3.a.1)&&J)&&aB (aj y2.a.2) (aj y3.a.2)&&J))) (bm (Sx.op x.1) 1 (bm (aS (aj (Sx.index x.1))) 0 (aA (ii ((x.2.1.1,x.2.1.2.1),x.2.1.2.2,(Sx.name x.1),8,1)) λy4=>(aA (oU ((x.2.1.1,x.2.1.2.1),x.2.1.2.2,eO ((Xp.op (Sx.expr x.1)),(Xp.n (Sx.expr x.1)),(Xp.name (Sx.expr x.1)),(Xp.l (Sx.expr x.1))))) λy5=>(aA (jJ (y4,y5)) λy6=>(Z (y6,y3.2))))) (aA (ii ((x.2.1.1,x.2.1.2.1),x.2.1.2.2,(Sx.name x.1),2,2)) λy7=>(bW (.ex) (Sx.index x.1) 0 λz8=>(aA (oU ((x.2.1.1,x.2.1.2.1),x.2.1.2.2,z8)) λy9=>(aA (oU ((x.2.1.1,x.2.1.2.1),x.2.1.2.2,eO ((Xp.op (Sx.expr x.1)),(Xp.n (Sx.expr x.1)),(Xp.name (Sx.expr x.1)),(Xp.l (Sx.expr x.1))))) λy10=>(aA (jJ (y9,y10)) λy11=>(aA (jJ (y7,y11)) λy12=>(Z (y12,y3.2))))))))) (jn (bm (Sx.op x.1) 2 (aI ((decide (((Sx.op x.1):Int)=2)),y3.2.1,y3.a,eT x.1,(x.2.1.1,x.2.1.2.1),y3.d)) (aI ((decide (((Sx.op x.1):Int)=3)),y3.2.1,y3.a,eT x.1,(x.2.1.1,x.2.1.2.1),y3.d))) λD=>(aJ D.1 (aA (oU (D.c,x.2.1.2.2,eO ((Xp.op (Sx.expr D.b)),(Xp.n (Sx.expr D.b)),(Xp.name (Sx.expr D.b)),(Xp.l (Sx.expr D.b))))) λy14=>(Z (y14,D.2.1,D.a,D.h))) (bm (Sx.op x.1) 4 (jn (α:=U!) (aA (ii (D.c,x.2.1.2.2,(Sx.name D.b),3,3)) λy16=>(aJ y1.1 (aA (dt J) λy17=>(aA (jJ (y16,y17)) λy18=>(aI (y18,D.2.1,D.a,D.h)))) (aA (eE ((4,4,(Sx.name D.b)),D.2.1,D.a,D.h)) λy19=>(bT (aB (aj D.k) (aj y19.f)&&(aB (aj D.e) (aj y19.b)&&(((D.a.1==y19.a.1)&&J)&&aB (aj D.a.2) (aj y19.a.2)&&J))) (aA (dt y19.1) λy20=>(aA (jJ (y16,y20)) λy21=>(aI (y21,y19.2)))))))) λx15=>(Z x15)) (jn (bm (Sx.op x.1) 5 (aI ((decide (((Sx.op x.1):Int)=5)),D.2.1,D.a,eT D.b,D.f)) (aI ((decide (((Sx.op x.1):Int)=6)),D.2.1,D.a,eT D.b,D.f))) λA=>(aJ A.1 (jn (α:=U!) (aA (ii (A.c,x.2.1.2.2,(Sx.name A.b),4,4)) λy24=>(aJ y1.1 (aA (dt J) λy25=>(aA (jJ (y24,y25)) λy26=>(aI (y26,A.2.1,A.a,A.h)))) (aA (eE ((5,6,(Sx.name A.b)),A.2.1,A.a,A.h)) λy27=>(bT (aB (aj A.k) (aj y27.f)&&(aB (aj A.e) (aj y27.b)&&(((A.a.1==y27.a.1)&&J)&&aB (aj A.a.2) (aj y27.a.2)&&J))) (aA (dt y27.1) λy28=>(aA (jJ (y24,y28)) λy29=>(aI (y29,y27.2)))))))) λx23=>(Z x23)) (bm (Sx.op x.1) 7 (aA (dt y1.1) λy30=>(Z (y30,A.2.1,A.a,A.h))) (bm (Sx.op x.1) 8 (jn (aJ y1.1 (aA (dt J) λy32=>(aI (y32,A.2.1,A.a,A.h))) (aA (dt y2.1) λy33=>(aI (y33,A.2.1,A.a,A.h)))) λx31=>(Z x31)) (jn (bm (Sx.op x.1) 9 (aI ((decide (((Sx.op x.1):Int)=9)),A.2.1,A.a,eT A.b,A.f)) (bm (Sx.op x.1) 10 (aI ((decide (((Sx.op x.1):Int)=10)),A.2.1,A.a,eT A.b,A.f)) (aI ((decide (((Sx.op x.1):Int)=11)),A.2.1,A.a,eT A.b,A.f)))) λz=>(aJ z.1 (aA (ii (z.c,x.2.1.2.2,(Sx.name z.b),5,5)) λy35=>(jY y35 0 (Z (y35,z.2.1,z.a,z.h)) (aA (je (z.c.1,(Sx.name z.b))) λy36=>(bW Kn z.c.1 y36 λz37=>(aA (eE ((4,4,z37.2.2.2.2.2),z.2.1,z.a,z.h)) λy38=>(bT (aB (aj z.k) (aj y38.f)&&(aB (aj z.e) (aj y38.b)&&(((z.a.1==y38.a.1)&&J)&&aB (aj z.a.2) (aj y38.a.2)&&J))) (jn (aJ y1.1 (aA (dt J) λy40=>(aI (y40,y38.2))) (aJ (!y38.1) (aA (dt J) λy41=>(aI (y41,y38.2))) (bm (Sx.op z.b) 9 (aA (dt y2.1) λy42=>(aI (y42,y38.2))) (aA (dt af) λy43=>(aI (y43,y38.2)))))) λx39=>(Z x39)))))))) (bm (Sx.op x.1) 12 (aA (ii (z.c,x.2.1.2.2,(Sx.name z.b),7,7)) λy44=>(jY y44 0 (Z (y44,z.2.1,z.a,z.h)) (aA (iW (z.c.2,(Sx.name z.b))) λy45=>(jn (aJ y1.1 (aI (J,z.2.1,z.a,eT z.b,z.h)) (aJ y2.1 (aI (J,z.2.1,z.a,eT z.b,z.h)) (aJ y3.1 (aI (J,z.2.1,z.a,eT z.b,z.h)) (bm y45 x.2.1.2.2 (aI (J,z.2.1,z.a,eT z.b,z.h)) (aI ((decide ((y45:Int)=0)),z.2.1,z.a,eT z.b,z.h)))))) λL=>(aJ L.1 (Z (7,L.2.1,L.a,L.f)) (aA (j8 (L.c,(Sx.name L.b))) λy47=>(jZ 0 y47 (Z (8,L.2.1,L.a,L.f)) (bT (bh (aj L.c+aj ([(Sx.name L.b)])) 16) (Z (0,L.2.1,L.a,(L.c++([(Sx.name L.b)])),L.h)))))))))) (bm (Sx.op x.1) 13 (jn (α:=U!) (aA (ii (z.c,x.2.1.2.2,(Sx.name z.b),7,7)) λy49=>(aJ y1.1 (aA (dt J) λy50=>(aA (jJ (y49,y50)) λy51=>(aI (y51,z.2.1,z.a,z.h)))) (aJ y2.1 (aA (dt J) λy52=>(aA (jJ (y49,y52)) λy53=>(aI (y53,z.2.1,z.a,z.h)))) (aA (iW (z.c.2,(Sx.name z.b))) λy54=>(aA (dt (decide ((y54:Int)=x.2.1.2.2))) λy55=>(aA (jJ (y49,y55)) λy56=>(aI (y56,z.2.1,z.a,z.h)))))))) λx48=>(Z x48)) (bm (Sx.op x.1) 14 (jn (α:=F?) (aA (ii (z.c,x.2.1.2.2,(Sx.name z.b),6,6)) λy58=>(aJ y1.1 (aA (dt J) λy59=>(aA (jJ (y58,y59)) λy60=>(aI (y60,z.2.1,z.a,eT z.b,z.f)))) (aA (dt y3.1) λy61=>(aA (jJ (y58,y61)) λy62=>(aI (y62,z.2.1,z.a,eT z.b,z.f)))))) λx57=>(jn (α:=F?) (jn (bm x57.1 0 (aA (j8 (x57.k,(Sx.name x57.b))) λy65=>(aI ((dz 0 y65),x57.2.1,x57.a,eT x57.b,x57.f))) (aI (af,x57.2.1,x57.a,eT x57.b,x57.f))) λx64=>(aJ x64.1 (aI (8,x64.2.1,x64.a,eT x64.b,x64.f)) (aI (x57.1,x64.2.1,x64.a,eT x64.b,x64.f)))) λN=>(bT (bh (aj N.k+aj ([(Sx.name N.b)])) 16) (aA (oU (N.c,x.2.1.2.2,eO ((Xp.op (Sx.expr N.b)),(Xp.n (Sx.expr N.b)),(Xp.name (Sx.expr N.b)),(Xp.l (Sx.expr N.b))))) λy66=>(aA (jJ (N.1,y66)) λy67=>(Z (y67,N.2.1,N.a,N.e,(N.k++([(Sx.name N.b)]))))))))) (aA (ii (z.c,x.2.1.2.2,(Sx.name z.b),8,8)) λy68=>(aA (ii (z.c,x.2.1.2.2,(Sx.arg z.b),6,6)) λy69=>(aA (dt y1.1) λy70=>(aA (jJ (y69,y70)) λy71=>(aA (jJ (y68,y71)) λy72=>(Z (y72,z.2.1,z.a,z.h))))))))))))))))))))))))))
abbrev O!:=(Y Sx)×e?
def nG (rr04_walk_all:O!->M ap9) (x:O!):M ap9:=
 (iter (σ:=U!) (λL=>(bV L.1 (bc x.1) (bW (.sm) x.1 L.1 λz2=>(aA (nC (eT z2,L.2)) λN=>(bT (aB (aj L.f) (aj L.f)&&(aB (aj L.b) (aj L.b)&&(((L.a.1==N.a.1)&&J)&&aB (aj L.a.2) (aj N.a.2)&&J))) (jn (α:=Int×zK×Sx×(Bool×Y Sx)×dB×Y ζ) (bV 6 (bn .i64 ((bc N.a.2)+1)) (aI (2,N.2.1,eT z2,N.2.2)) (aI (N.1,N.2.1,eT z2,N.2.2))) λz=>(jY z.1 0 (aI ((z.1,(Sx.line z.a)),z.2.1,z.d)) (bT (bh (aj z.b.2+aj ([oY (0,0,[],[],([]:Y Xp),eO (0,0,[],([]:Y Xp)),([]:Y Sx),([]:Y Sx))])) 176) (ck (dN (bc z.b.2) (aj (z.b.2++([oY (0,0,[],[],([]:Y Xp),eO (0,0,[],([]:Y Xp)),([]:Y Sx),([]:Y Sx))])))) (aA (rr04_walk_all ((Sx.body z.a),z.2.1,(z.b.1,(cC (z.b.2++([oY (0,0,[],[],([]:Y Xp),eO (0,0,[],([]:Y Xp)),([]:Y Sx),([]:Y Sx))])) (bc z.b.2) (eT z.a))),z.f)) λD=>(bT (aB (aj z.h) (aj z.h)&&(aB (aj z.c) (aj z.c)&&(((z.b.1==z.b.1)&&J)&&aB (aj (cC (z.b.2++([oY (0,0,[],[],([]:Y Xp),eO (0,0,[],([]:Y Xp)),([]:Y Sx),([]:Y Sx))])) (bc z.b.2) (eT z.a))) (aj (cC (z.b.2++([oY (0,0,[],[],([]:Y Xp),eO (0,0,[],([]:Y Xp)),([]:Y Sx),([]:Y Sx))])) (bc z.b.2) (eT z.a)))&&J))) (jn (bm D.1.1 0 (aA (rr04_walk_all ((Sx.els z.a),D.2)) λy7=>(bT (aB (aj D.f) (aj D.f)&&(aB (aj D.b) (aj D.b)&&(((D.a.1==D.a.1)&&J)&&aB (aj D.a.2) (aj D.a.2)&&J))) (aI y7))) (aI D)) λA=>(bT (dz 0 (bn .i64 ((bc A.a.2)-1))&&gF (bn .i64 ((bc A.a.2)-1)) (aj A.a.2)) (jY A.1.1 0 (aI (A.1,A.2.1,(af,(dE (aN (bn .i64 ((bc A.a.2)-1))) A.a.2)),A.d)) (c8 ((cS L.1),A.2.1,(af,(dE (aN (bn .i64 ((bc A.a.2)-1))) A.a.2)),A.d)))))))))))))) (aI ((0,0),L.2)))) (0,x.2))
def iY:Nat->(O!)->M ap9
 |0,_=>U
 |n+1,x=>nG (iY n) x
def Fe (n:Nat) (x:O!):iY (n+1) x=nG (iY n) x:=rfl
def xV (x:O!):M ap9:=iY fuel x
def Aw (rr04_Count:(Y Sx)->M (Int)) (x:Y Sx):M (Int):=
 (iter (σ:=ν) (λz=>(bV z.2 (bc x) (kO z.2 x (lt (Sx.body (geti (.sm) x z.2)) λD=>(aA (rr04_Count D) λN=>(kO z.2 x (lt (Sx.els (geti (.sm) x z.2)) λA=>(aA (rr04_Count A) λL=>(c8 ((bn .i64 ((bn .i64 (z.1+N))+L)),(cS z.2))))))))) (aI z.1))) ((bc x),0))
def oE:Nat->(Y Sx)->M (Int)
 |0,_=>U
 |n+1,x=>Aw (oE n) x
def KM (n:Nat) (x:Y Sx):oE (n+1) x=Aw (oE n) x:=rfl
def E5 (x:Y Sx):M (Int):=oE fuel x
abbrev t?:=Int×Int×i?
def s9 (x:Y atp):M ν:=
 (iter (σ:=υ) (λz=>(bV z.f (bc x) (jn (α:=t?) (bW Kn x z.f λA=>(bT (dz 0 z.f&&dz z.f (aj x)) (aA (je ((dE (aN z.f) x),A.a)) λy4=>(jZ 0 y4 (c8 (bZ (4,A.2.1))) (bV 4 A.b (c8 (bZ (2,A.2.1))) (jn (jn (bm A.1 1 (aI ((decide ((A.1:Int)=1)),A)) (aI ((decide ((A.1:Int)=2)),A))) λN=>(aJ N.1 (aI (((bn .i64 (z.1+(m7 N.c 1))),z.2.1,z.a,z.b),N.2)) (jn (bm A.1 3 (aI ((decide ((A.1:Int)=3)),N.2)) (aI ((decide ((A.1:Int)=4)),N.2))) λx7=>(aJ x7.1 (aI ((z.1,(cS z.2.1),z.a,z.b),x7.2)) (bm A.1 5 (aI ((z.1,z.2.1,(cS z.a),z.b),x7.2)) (aI ((z.1,z.2.1,z.a,(cS z.b)),x7.2))))))) λD=>(jn (bV 12 D.1.1 (aI (J,D.2)) (bV 4 D.1.2.1 (aI (J,D.2)) (bV 2 D.1.a (aI (J,D.2)) (aI ((gF 2 D.1.d),D.2))))) λL=>(aJ L.1 (c8 (bZ (2,L.a))) (bm L.2.1 5 (bT (dz 0 z.f&&dz z.f (aj x)) (aA (je ((dE (aN z.f) x),L.k)) λy9=>(bV y9 0 (c8 (bZ (5,L.a))) (bW Kn x y9 λz10=>(jY z10.1 3 (c8 (bZ (6,L.a))) (aI D.1)))))) (aI D.1)))))))))) λx2=>(c8 (x2.1,x2.2.1,x2.a,x2.d,(cS z.f)))) (aI (0,0)))) (0,0,0,0,0))
def oT (x:A!):M ν:=
 (iter (σ:=Int×A!) (λA=>(bV A.1 (bc A.2.2) (bW uY A.2.2 A.1 λN=>(jn (aA (je (A.2.1,N.1)) λy4=>(jZ 0 y4 (aI (J,A.2,N)) (bT (dz 0 A.1&&dz A.1 (aj A.2.2)) (aA (iW ((dE (aN A.1) A.2.2),N.1)) λy5=>(aI ((dz 0 y5),A.2,N)))))) λx3=>(aJ x3.1 (aI (4,x3.b)) (c8 ((cS A.1),x3.2.1))))) (aA (iter (σ:=Int×A!) (λL=>(bV L.1 (bc L.2.2) (bW uY L.2.2 L.1 λz7=>(bV 4 (bc z7.a) (aI (2,z7.2.1)) (iter (σ:=M?) (λz=>(bV z.1 (bc z.c) (bW (.str) z.c z.1 λz9=>(jn (aA (je (z.2.1.1,z9)) λy11=>(jZ 0 y11 (aI (J,z.2)) (aA (iW (z.2.1.2,z9)) λy12=>(jZ 0 y12 (aI (J,z.2)) (bT (dz 0 z.1&&dz z.1 (aj z.c)) (aA (j8 ((dE (aN z.1) z.c),z9)) λy13=>(aI ((dz 0 y13),z.2)))))))) λD=>(aJ D.1 (aI (bZ (4,D.b))) (c8 ((cS z.1),D.2))))) (aI (li ((cS L.1),z.2.1))))) (0,L.2,z7)))) (aI (0,0)))) (0,A.2)) λr=>Z (bZ r)))) (0,x))
def gf (x:A!):M ν:=
 (aA (rc x) λy1=>(aJ (!y1) (Z (3,0)) (aA (s9 x.1) λN=>(jY N.1 0 (Z N) (bV 4 (bc x.2) (Z (2,0)) (aA (oT x) λL=>(jY L.1 0 (Z L) (iter (σ:=(ν)×A!) (λA=>(bV A.1.2 (bc A.2.2) (bW uY A.2.2 A.1.2 λz5=>(aA (E5 z5.2.2.2) λy6=>(c8 (((bn .i64 (A.1.1+y6)),(cS A.1.2)),A.2)))) (aA (bV 60 A.1.1 (Z (2,0)) (iter (σ:=Int×(zJ×Y zI)×e?) (λz=>(bV z.1 (bc z.2.1.2) (bW uY z.2.1.2 z.1 λz8=>(aA (xV (z8.2.2.2,(z.a.1,z.a.2.1,z.1),z.d)) λD=>(bT (aB (aj z.h) (aj z.h)&&(aB (aj z.c) (aj z.c)&&(((z.b.1==z.b.1)&&J)&&aB (aj z.b.2) (aj z.b.2)&&J))) (jY D.1.1 0 (aI D.1) (c8 ((cS z.1),z.2.1,D.2)))))) (aI (0,0)))) (0,A.2,(A.2.1,A.2.2,0),(J,([]:Y Sx)),([]:Y ζ),([]:Y ζ)))) λr=>Z (bZ r)))) ((0,0),x)))))))))
abbrev y!:=(Int×Int×Y Sx)×Y π
abbrev Y?:=Int×Y π
def Au (rr06_sites:y!->M Y?) (x:y!):M Y?:=
 (iter (σ:=(ν)×Y π) (λz=>(bV z.1.2 (bc x.1.2.2) (kO z.1.2 x.1.2.2 (lt (Sx.line (geti (.sm) x.1.2.2 z.1.2)) λA=>(bT (bh (aj z.2+aj ([(x.1.1,z.1.1,A)])) 24) (kO z.1.2 x.1.2.2 (lt (Sx.body (geti (.sm) x.1.2.2 z.1.2)) λz3=>(aA (rr06_sites ((x.1.1,(cS z.1.1),z3),(z.2++([(x.1.1,z.1.1,A)])))) λD=>(bT (aB (aj (z.2++([(x.1.1,z.1.1,A)]))) (aj (z.2++([(x.1.1,z.1.1,A)])))&&J) (kO z.1.2 x.1.2.2 (lt (Sx.els (geti (.sm) x.1.2.2 z.1.2)) λN=>(aA (rr06_sites ((x.1.1,D.1,N),D.2)) λL=>(bT (aB (aj D.2) (aj D.2)&&J) (c8 ((L.1,(cS z.1.2)),L.2))))))))))))) (aI (z.1.1,z.2)))) ((x.1.2.1,0),x.2))
def qQ:Nat->(y!)->M Y?
 |0,_=>U
 |n+1,x=>Au (qQ n) x
def KK (n:Nat) (x:y!):qQ (n+1) x=Au (qQ n) x:=rfl
def Mv (x:y!):M Y?:=qQ fuel x
def mr (x:nM×ζ):M (Int):=
 (iter (σ:=Int) (λz=>(bV z (bc x.1) (bW tF x.1 z λA=>(aJ (decide ((A.1:ζ)=x.2)) (aI z) (c8 (cS z)))) (aI (-1)))) 0)
abbrev G!:=Int×c!
def oy (x:eu×ζ):M (Int):=
 (iter (σ:=G!) (λz=>(bV z.1 (bc z.2.1) (bW lL z.2.1 z.1 λA=>(aJ (decide ((A.1:ζ)=x.2)) (aI z.1) (c8 ((cS z.1),z.2)))) (aI (-1)))) (0,x.1))
abbrev L!:=oH×nM×(Y kw)×Y ζ
def wg (x:A!):M eu:=
 (aA (gf x) λy1=>(jY y1.1 0 (Z (([]:Y Ya),([]:Y I!),([]:Y kw),([]:Y ζ),([]:Y ζ),([]:Y π))) (iter (σ:=Int×(zJ×Y zI)×L!) (λL=>(bV L.1 (bc L.2.1.1) (bW Kn L.2.1.1 L.1 λN=>(jn (α:=(zJ×Y zI)×L!) (jn (bm N.1 1 (aI ((decide ((N.1:Int)=1)),L.2.1,N,L.2.2)) (aI ((decide ((N.1:Int)=2)),L.2.1,N,L.2.2))) λx5=>(aJ x5.1 (iter (σ:=Int×(zJ×Y zI)×atp×L!) (λA=>(bV A.1 (m7 A.a.b 1) (bT (bh (aj A.b+aj ([(A.a.a,A.1,A.a.b,(decide ((A.a.1:Int)=2)),A.a.c)])) 48) (c8 ((cS A.1),A.2.1,A.a,(A.b++([(A.a.a,A.1,A.a.b,(decide ((A.a.1:Int)=2)),A.a.c)])),A.f))) (aI (bZ (A.2.1,A.d))))) (0,x5.2)) (jn (bm N.1 3 (aI ((decide ((N.1:Int)=3)),x5.2)) (aI ((decide ((N.1:Int)=4)),x5.2))) λz=>(aJ z.1 (bT (bh (aj z.c+aj ([(z.a.a,(decide ((z.a.1:Int)=4)))])) 24) (aI (z.2.1,z.b,(z.c++([(z.a.a,(decide ((z.a.1:Int)=4)))])),z.h))) (bm N.1 5 (aA (mr (z.c,z.a.h)) λy8=>(bT (bh (aj z.e+aj ([(z.a.a,y8)])) 24) (aI (z.2.1,z.b,z.c,(z.e++([(z.a.a,y8)])),z.k)))) (bT (bh (aj z.k+aj ([z.a.a])) 16) (aI (z.2.1,z.b,z.c,z.e,(z.k++([z.a.a])))))))))) λx4=>(c8 ((cS L.1),x4)))) (aA (iter (σ:=Int×(zJ×Y zI)×c!) (λD=>(bV D.1 (bc D.2.1.2) (bW uY D.2.1.2 D.1 λz10=>(bT (bh (aj D.g+aj ([z10.1])) 16) (bW uY D.2.1.2 D.1 λz11=>(aA (Mv ((D.1,0,z11.2.2.2),D.p)) λy12=>(bT (aB (aj D.p) (aj D.p)&&J) (c8 ((cS D.1),D.2.1,D.a,D.b,D.c,D.e,(D.g++([z10.1])),y12.2))))))) (aI D.2.2))) (0,L.2.1,L.a,L.b,L.c,L.h,([]:Y ζ),([]:Y π))) λr=>Z (bZ r)))) (0,x,([]:Y Ya),([]:Y I!),([]:Y kw),([]:Y ζ)))))
abbrev B?:=Int×eu×Y ζ
abbrev P?:=dB×(ζ)×s?
def qJ (x:c!):M (dB×Bool):=
 (iter (σ:=B?) (λA=>(bV A.1 (bc A.2.1.1) (jn (α:=B?) (bW lL A.2.1.1 A.1 λL=>(bT (bh (aj A.2.2+aj ([L.1])) 16) (bm L.a 0 (jY L.2.1 0 (c8 (bZ (([]:Y ζ),af))) (aI ((cS A.1),A.2.1,(A.2.2++([L.1]))))) (jn (α:=Bool×eu×P?) (bV L.a 1 (aI (J,A.2.1,(A.2.2++([L.1])),L)) (bV 4 L.a (aI (J,A.2.1,(A.2.2++([L.1])),L)) (aI ((gF (bn .i64 ((bc A.2.1.1)-A.1)) L.a),A.2.1,(A.2.2++([L.1])),L)))) λx4=>(aJ x4.1 (c8 (bZ (([]:Y ζ),af))) (iter (σ:=Int×eu×P?) (λD=>(bV D.1 D.e (bW lL D.2.1.1 (bn .i64 (A.1+D.1)) λz6=>(jn (jY z6.2.1 D.1 (aI (J,D.2)) (aJ (!decide ((z6.1:ζ)=D.b)) (aI (J,D.2)) (jY z6.a D.e (aI (J,D.2)) (jY z6.f D.p (aI (J,D.2)) (aI (z6.b,D.2)))))) λx7=>(aJ x7.1 (aI (li (bZ (([]:Y ζ),af)))) (c8 ((cS D.1),x7.2))))) (aI (bZ ((bn .i64 (A.1+D.e)),D.2.1,D.a))))) (0,x4.2))))))) λx2=>(c8 x2)) (aA (iter (σ:=B?) (λN=>(bV N.1 (bc N.2.1.2.1) (bW tF N.2.1.2.1 N.1 λz9=>(bT (bh (aj N.2.2+aj ([z9.1])) 16) (c8 ((cS N.1),N.2.1,(N.2.2++([z9.1])))))) (aA (iter (σ:=B?) (λz=>(bV z.1 (bc z.2.1.a) (bW itK z.2.1.a z.1 λz11=>(bT (bh (aj z.2.2+aj ([z11.1])) 16) (c8 ((cS z.1),z.2.1,(z.2.2++([z11.1])))))) (aA (bT (bh (aj z.2.2+aj z.2.1.b) 16) (bT (bh (aj (z.2.2++z.2.1.b)+aj z.2.1.c) 16) (Z (((z.2.2++z.2.1.b)++z.2.1.c),J)))) λr=>Z (bZ r)))) (0,N.2)) λr=>Z (bZ r)))) (0,A.2)) λr=>Z (bZ r)))) (0,x,([]:Y ζ)))
def iz (x:c!):M (Bool):=
 (jn (bV 12 (bc x.1) (aI (J,x)) (bV 4 (bc x.2.1) (aI (J,x)) (bV 2 (bc x.a) (aI (J,x)) (bV 2 (bc x.b) (aI (J,x)) (bV (bc x.c) 1 (aI (J,x)) (bV 4 (bc x.c) (aI (J,x)) (aI ((gF 60 (bc x.h)),x)))))))) λx1=>(aJ x1.1 (Z af) (aA (qJ x1.2) λy2=>(aJ (!y2.2) (Z af) (iter (σ:=G!) (λN=>(bV N.1 (bc y2.1) (jn (bW (.str) y2.1 N.1 λz5=>(aA (fT z5) λy6=>(aJ (!y6) (aI (J,N.2)) (bT (dz 0 N.1&&dz N.1 (aj y2.1)) (bW (.str) y2.1 N.1 λz7=>(aA (j8 ((dE (aN N.1) y2.1),z7)) λy8=>(aI ((dz 0 y8),N.2)))))))) λx4=>(aJ x4.1 (aI af) (c8 ((cS N.1),x4.2)))) (aA (iter (σ:=G!) (λD=>(bV D.1 (bc D.b) (bW itK D.b D.1 λz10=>(jn (bV z10.2 0 (aI (J,D.2)) (jZ (bc D.a) z10.2 (aI (J,D.2)) (bW tF D.a z10.2 λz12=>(aI (z12.2,D.2))))) λx11=>(aJ x11.1 (aI af) (c8 ((cS D.1),x11.2))))) (aA (iter (σ:=G!) (λz=>(bV z.1 (bc z.k) (jn (bW pW z.k z.1 λz15=>(jn (bV z15.1 0 (aI (J,z.2,z15)) (aI ((dz (bc z.e) z15.1),z.2,z15))) λL=>(aJ L.1 (c8 (bZ af)) (jn (bm z.1 0 (aI (J,L.2)) (bW pW L.2.1.h (bn .i64 (z.1-1)) λz18=>(aI ((!decide ((z18.1:Int)=L.a)),L.2)))) λA=>(aJ A.1 (jn (jY A.b 0 (aI (J,A.2.1)) (bV 0 z.1 (bW pW A.2.1.h (bn .i64 (z.1-1)) λz20=>(aI ((gF A.a z20.1),A.2.1))) (aI (af,A.2.1)))) λx19=>(aJ x19.1 (c8 (bZ af)) (aI x19.2))) (bW pW A.2.1.h (bn .i64 (z.1-1)) λz21=>(jY A.b (cS z21.2.1) (c8 (bZ af)) (aI A.2.1)))))))) λx14=>(c8 ((cS z.1),x14))) (aI J))) (0,D.2)) λr=>Z (bZ r)))) (0,N.2)) λr=>Z (bZ r)))) (0,x1.2))))))
def kC (x:ω):M η:=
 (jn (bm x.1 1 (aI ((decide ((x.1:Int)=1)),x)) (bm x.1 6 (aI ((decide ((x.1:Int)=6)),x)) (bm x.1 10 (aI ((decide ((x.1:Int)=10)),x)) (aI ((decide ((x.1:Int)=27)),x))))) λD=>(aJ D.1 (Z ([D.a])) (jn (bm x.1 2 (aI ((decide ((x.1:Int)=2)),D.2)) (aI ((decide ((x.1:Int)=3)),D.2))) λz=>(aJ z.1 (Z ([z.a,z.b])) (bm x.1 4 (Z ([z.a,z.b,z.c])) (bm x.1 7 (Z ([z.a,z.c])) (jn (bm x.1 8 (aI ((decide ((x.1:Int)=8)),z.2)) (aI ((decide ((x.1:Int)=26)),z.2))) λA=>(aJ A.1 (Z ([A.b])) (bm x.1 9 (Z ([A.b,A.c])) (Z ([]:η)))))))))))
def q_ (x:Int):M (Bool):=
 (jn (jZ 1 x (aI (dz x 5)) (aI af)) λz=>(Z z))
def qK (x:(Y mh)×Int):M (Bool):=
 (iter (σ:=ν) (λz=>(jZ z.2 (bc x.1) (jn (jn (bV z.1 0 (aI J) (aI (dz (bc x.1) z.1))) λx3=>(aJ x3 (c8 (bZ af)) (bW sJ x.1 z.1 λL=>(aA (q_ L.1) λN=>(aJ (!N) (c8 (bZ J)) (bW sJ x.1 z.1 λD=>(bm D.1 5 (bW sJ x.1 z.1 λA=>(aI A.2.1)) (aI (cS z.1))))))))) λx2=>(c8 (x2,(cS z.2)))) (aI af))) (x.2,0))
def j7 (x:ν):M (Bool):=
 (jn (jZ 0 x.1 (aI (gF x.1 x.2)) (aI af)) λz=>(Z z))
def qL (x:eu×i?):M (Bool):=
 (jn (aA (j7 (x.2.1,(bc x.1.1))) λL=>(aJ L (bW lL x.1.1 x.2.1 λD=>(bm D.2.1 0 (bW lL x.1.1 x.2.1 λA=>(jY A.2.2.1 0 (bW lL x.1.1 x.2.1 λz=>(aI (decide ((z.2.2.1:Int)=x.2.2)))) (aI af))) (aI af))) (aI af))) λN=>(Z N))
def mG (x:eu×Int×Int×t?):M (Bool):=
 (bm x.2.1 6 (jn (aA (j7 (x.b,(bc x.1.1))) λy2=>(aJ y2 (bW lL x.1.1 x.b λz3=>(aI (decide ((z3.2.2.1:Int)=0)))) (aI af))) λx1=>(Z x1)) (bm x.2.1 8 (jn (aA (j7 (x.a,(bc x.1.1))) λy5=>(aJ y5 (bW lL x.1.1 x.a λz6=>(aI (decide ((z6.2.2.1:Int)=0)))) (aI af))) λx4=>(Z x4)) (bm x.2.1 7 (aA (qL (x.1,x.b,x.e)) λy7=>(Z y7)) (bm x.2.1 9 (aA (qL (x.1,x.a,x.e)) λy8=>(Z y8)) (jn (bm x.2.1 11 (aI ((decide ((x.2.1:Int)=11)),x)) (aI ((decide ((x.2.1:Int)=12)),x))) λL=>(aJ L.1 (jn (aA (j7 (L.b,(bc L.2.1.2.1))) λy11=>(aJ y11 (bW tF L.2.1.2.1 L.b λz12=>(aI (!z12.2))) (aI af))) λx10=>(Z x10)) (jn (bm x.2.1 13 (aI ((decide ((x.2.1:Int)=13)),L.2)) (bm x.2.1 14 (aI ((decide ((x.2.1:Int)=14)),L.2)) (bm x.2.1 15 (aI ((decide ((x.2.1:Int)=15)),L.2)) (aI ((decide ((x.2.1:Int)=16)),L.2))))) λA=>(aJ A.1 (jn (aA (j7 (A.b,(bc A.2.1.2.1))) λy15=>(aJ y15 (bW tF A.2.1.2.1 A.b λN=>(aI N.2)) (aI af))) λx14=>(Z x14)) (jn (bm x.2.1 21 (aI ((decide ((x.2.1:Int)=21)),A.2)) (bm x.2.1 22 (aI ((decide ((x.2.1:Int)=22)),A.2)) (aI ((decide ((x.2.1:Int)=23)),A.2)))) λD=>(aJ D.1 (aA (j7 (D.b,(bc D.2.1.a))) λy18=>(Z y18)) (jn (bm x.2.1 24 (aI ((decide ((x.2.1:Int)=24)),D.2)) (aI ((decide ((x.2.1:Int)=25)),D.2))) λz=>(aJ z.1 (aA (j7 (z.b,(bc z.2.1.c))) λy20=>(Z y20)) (bm x.2.1 26 (aA (j7 (z.b,(bc z.2.1.b))) λy21=>(Z y21)) (bm x.2.1 27 (aA (j7 (z.c,(bc z.2.1.b))) λy22=>(Z y22)) (bm x.2.1 3 (jn (bm z.g 4 (aI J) (aI (decide ((z.g:Int)=5)))) λx23=>(Z x23)) (bm x.2.1 4 (jn (jZ 6 z.g (aI (dz z.g 18)) (aI af)) λx24=>(Z x24)) (Z J)))))))))))))))))
abbrev R?:=Int×Y mh
def iP (x:eu×Int×R?):M (Bool):=
 (jn (bV x.a 0 (aI (J,x.1,x.2.2)) (bV 32 x.a (aI (J,x.1,x.2.2)) (aI ((decide (((bc x.d):Int)=0)),x.1,x.2.2)))) λx1=>(aJ x1.1 (Z af) (iter (σ:=Int×eu×R?) (λA=>(bV A.1 (bc x.d) (bW sJ A.d A.1 λN=>(jn (bV N.1 1 (aI (J,A.2.1,A.2.2,N)) (bV 28 N.1 (aI (J,A.2.1,A.2.2,N)) (aJ (((decide ((N.1:Int)=28))==(decide ((A.1:Int)=(bn .i64 ((bc x.d)-1))))) !=J) (aI (J,A.2.1,A.2.2,N)) (aA (mG (A.2.1,N)) λy5=>(aJ (!y5) (aI (J,A.2.1,A.2.2,N)) (aA (qK (A.d,A.1)) λy6=>(aI ((!y6),A.2.1,A.2.2,N)))))))) λz=>(aJ z.1 (aI af) (jn (α:=Bool×eu×(Int×Y mh)×Int×Int×t?) (bm z.b 28 (jY z.s (-1) (aI (J,z.2)) (jY z.b 28 (aA (j7 (z.s,(bc z.2.1.h))) λy8=>(aJ (!y8) (aI (J,z.2)) (bW pW z.2.1.h z.s λz9=>(aI ((!decide ((z9.1:Int)=x.2.1)),z.2))))) (aI (af,z.2)))) (jY z.b 28 (aA (j7 (z.s,(bc z.2.1.h))) λy10=>(aJ (!y10) (aI (J,z.2)) (bW pW z.2.1.h z.s λz11=>(aI ((!decide ((z11.1:Int)=x.2.1)),z.2))))) (aI (af,z.2)))) λL=>(aJ L.1 (aI af) (jn (bm L.b 5 (aA (j7 (L.c,(bc x.d))) λy13=>(aJ (!y13) (aI (J,L.2)) (bm L.b 10 (aA (j7 (L.e,(bc x.d))) λy14=>(aI ((!y14),L.2))) (aI (af,L.2))))) (bm L.b 10 (aA (j7 (L.e,(bc x.d))) λy15=>(aI ((!y15),L.2))) (aI (af,L.2)))) λx12=>(aJ x12.1 (aI af) (aA (kC x12.d) λy16=>(iter (σ:=Int×eu×R?) (λD=>(bV D.1 (bc y16) (bW aP y16 D.1 λz18=>(aA (j7 (z18,D.a)) λy19=>(aJ (!y19) (aI (bZ af)) (c8 ((cS D.1),D.2))))) (aI (li ((cS A.1),D.2))))) (0,x12.2.1,x12.a)))))))))) (aI J))) (0,x1.2))))
def kB (x:z?):M (Bool):=
 (jn (aA (iz x.1) λN=>(aJ (!N) (aI (J,x)) (aI ((!decide (((bc x.2):Int)=(bc x.1.c))),x)))) λA=>(aJ A.1 (Z af) (iter (σ:=Int×z?) (λz=>(bV z.1 (bc z.2.2) (bW zP z.2.2 z.1 λD=>(aA (iP (z.2.1,z.1,D)) λL=>(aJ (!L) (aI af) (c8 ((cS z.1),z.2))))) (aI J))) (0,A.2))))
def cQ (x:mh×g!):M g!:=
 (bT (bh (aj x.2.2+aj ([(x.1.1,x.1.2.1,x.1.a,x.1.b,x.1.c,x.2.1.j)])) 48) (Z (x.2.1,(x.2.2++([(x.1.1,x.1.2.1,x.1.a,x.1.b,x.1.c,x.2.1.j)])))))
abbrev H?:=(Xp×Int)×g!
def sk (rr06_gen_value:H?->M g!) (x:H?):M g!:=
 (jn (α:=g!) (bm (Xp.op x.1.1) 1 (aA (cQ ((1,x.1.2,0,0,(Xp.n x.1.1),0),x.2)) λy2=>(bT (aB (aj x.2.2) (aj x.2.2)&&J) (aI y2))) (bm (Xp.op x.1.1) 2 (aA (j8 (x.2.1.g,(Xp.name x.1.1))) λy3=>(jZ 0 y3 (aA (cQ ((2,x.1.2,y3,0,0,0),x.2)) λy4=>(bT (aB (aj x.2.2) (aj x.2.2)&&J) (aI y4))) (aA (oy ((x.2.1.1,x.2.1.2.1,x.2.1.a,x.2.1.b,x.2.1.c,x.2.1.e),(Xp.name x.1.1))) λy5=>(aA (cQ ((6,x.1.2,y5,0,0,0),x.2)) λy6=>(bT (aB (aj x.2.2) (aj x.2.2)&&J) (aI y6)))))) (bm (Xp.op x.1.1) 3 (bW (.ex) (Xp.l x.1.1) 0 λz7=>(aA (rr06_gen_value ((z7,x.1.2),x.2)) λz=>(bT (aB (aj x.2.2) (aj x.2.2)&&J) (aA (oy ((z.1.1,z.1.2.1,z.1.a,z.1.b,z.1.c,z.1.e),(Xp.name x.1.1))) λy9=>(bW lL z.1.1 y9 λz10=>(aA (cQ ((7,x.1.2,y9,x.1.2,z10.2.2.1,0),z)) λy11=>(bT (aB (aj z.2) (aj z.2)&&J) (aI y11)))))))) (bm (aS (aj (Xp.l x.1.1))) 1 (bW (.ex) (Xp.l x.1.1) 0 λz12=>(aA (rr06_gen_value ((z12,x.1.2),x.2)) λL=>(bT (aB (aj x.2.2) (aj x.2.2)&&J) (aA (cQ ((3,x.1.2,x.1.2,0,(Xp.op x.1.1),0),L)) λy14=>(bT (aB (aj L.2) (aj L.2)&&J) (aI y14)))))) (bW (.ex) (Xp.l x.1.1) 0 λz15=>(aA (rr06_gen_value ((z15,x.1.2),x.2)) λD=>(bT (aB (aj x.2.2) (aj x.2.2)&&J) (bW (.ex) (Xp.l x.1.1) 1 λN=>(aA (rr06_gen_value ((N,(cS x.1.2)),D)) λA=>(bT (aB (aj D.2) (aj D.2)&&J) (aA (cQ ((4,x.1.2,x.1.2,(cS x.1.2),(Xp.op x.1.1),0),A)) λy19=>(bT (aB (aj A.2) (aj A.2)&&J) (aI y19))))))))))))) λx1=>(Z x1))
def ju:Nat->(H?)->M g!
 |0,_=>U
 |n+1,x=>sk (ju n) x
def DJ (n:Nat) (x:H?):ju (n+1) x=sk (ju n) x:=rfl
def ja (x:H?):M g!:=ju fuel x
def mY (x:Sx×g!):M g!:=
 (bV 0 (aS (aj (Sx.index x.1))) (bW (.ex) (Sx.index x.1) 0 λz1=>(aA (ja ((z1,(bc x.2.1.g)),x.2)) λD=>(bT (aB (aj x.2.2) (aj x.2.2)&&J) (aA (ja ((eO ((Xp.op (Sx.expr x.1)),(Xp.n (Sx.expr x.1)),(Xp.name (Sx.expr x.1)),(Xp.l (Sx.expr x.1))),(bn .i64 ((bc x.2.1.g)+1))),D)) λA=>(bT (aB (aj D.2) (aj D.2)&&J) (aA (oy ((A.1.1,A.1.2.1,A.1.a,A.1.b,A.1.c,A.1.e),(Sx.name x.1))) λy4=>(bW lL A.1.1 y4 λz5=>(aA (cQ ((9,y4,(bn .i64 ((bc x.2.1.g)+1)),(bc x.2.1.g),z5.2.2.1,0),A)) λy6=>(bT (aB (aj A.2) (aj A.2)&&J) (Z y6)))))))))) (aA (ja ((eO ((Xp.op (Sx.expr x.1)),(Xp.n (Sx.expr x.1)),(Xp.name (Sx.expr x.1)),(Xp.l (Sx.expr x.1))),(bc x.2.1.g)),x.2)) λz=>(bT (aB (aj x.2.2) (aj x.2.2)&&J) (aA (j8 (z.1.g,(Sx.name x.1))) λy8=>(jZ 0 y8 (aA (cQ ((2,y8,(bc x.2.1.g),0,0,0),z)) λy9=>(bT (aB (aj z.2) (aj z.2)&&J) (Z y9))) (aA (oy ((z.1.1,z.1.2.1,z.1.a,z.1.b,z.1.c,z.1.e),(Sx.name x.1))) λN=>(aA (cQ ((8,N,(bc x.2.1.g),0,0,0),z)) λL=>(bT (aB (aj z.2) (aj z.2)&&J) (Z L)))))))))
def kj (x:ζ×g!):M (Int×g!):=
 (iter (σ:=Int×g!) (λz=>(bV z.1 (bc z.2.1.a) (bW itK z.2.1.a z.1 λA=>(aJ (decide ((A.1:ζ)=x.1)) (aI z) (c8 ((cS z.1),z.2)))) (aI ((-1),z.2)))) (0,x.2))
def wz (rr06_gen_stmts:al6->M g!) (rr06_gen_stmt:QU->M g!) (rr06_gen_branches:QU->M g!) (rr06_gen_around:al7->M g!) (x:(Y Sx)×g!):M g!:=
 (iter (σ:=Int×g!) (λz=>(bV z.1 (bc x.1) (bW (.sm) x.1 z.1 λA=>(aA (rr06_gen_stmt (A,z.2)) λD=>(bT (aB (aj z.2.2) (aj z.2.2)&&J) (c8 ((cS z.1),D))))) (aI z.2))) (0,x.2))
def tO (rr06_gen_stmts:al6->M g!) (rr06_gen_stmt:QU->M g!) (rr06_gen_branches:QU->M g!) (rr06_gen_around:al7->M g!) (x:Sx×g!):M g!:=
 (jn (α:=g!) (bm (Sx.op x.1) 1 (aA (mY (eT x.1,(x.2.1.1,x.2.1.2.1,x.2.1.a,x.2.1.b,x.2.1.c,x.2.1.e,x.2.1.g,x.2.1.s,(cS x.2.1.s)),x.2.2)) λy2=>(bT (aB (aj x.2.2) (aj x.2.2)&&J) (aI y2))) (jn (bm (Sx.op x.1) 2 (aI ((decide (((Sx.op x.1):Int)=2)),(x.2.1.1,x.2.1.2.1,x.2.1.a,x.2.1.b,x.2.1.c,x.2.1.e,x.2.1.g,x.2.1.s,(cS x.2.1.s)),eT x.1,x.2.2)) (aI ((decide (((Sx.op x.1):Int)=3)),(x.2.1.1,x.2.1.2.1,x.2.1.a,x.2.1.b,x.2.1.c,x.2.1.e,x.2.1.g,x.2.1.s,(cS x.2.1.s)),eT x.1,x.2.2))) λz=>(aJ z.1 (aA (rr06_gen_branches (eT z.a,z.2.1,z.d)) λy4=>(bT (aB (aj z.d) (aj z.d)&&J) (aI y4))) (bm (Sx.op x.1) 4 (aA (mr (z.2.1.2.1,(Sx.name z.a))) λy5=>(aA (rr06_gen_around ((eT z.a,11,12,y5),z.2.1,z.d)) λy6=>(bT (aB (aj z.d) (aj z.d)&&J) (aI y6)))) (bm (Sx.op x.1) 5 (aA (mr (z.2.1.2.1,(Sx.name z.a))) λy7=>(aA (rr06_gen_around ((eT z.a,13,14,y7),z.2.1,z.d)) λy8=>(bT (aB (aj z.d) (aj z.d)&&J) (aI y8)))) (bm (Sx.op x.1) 6 (aA (mr (z.2.1.2.1,(Sx.name z.a))) λy9=>(aA (rr06_gen_around ((eT z.a,15,16,y9),z.2.1,z.d)) λy10=>(bT (aB (aj z.d) (aj z.d)&&J) (aI y10)))) (bm (Sx.op x.1) 7 (aA (rr06_gen_around ((eT z.a,17,18,0),z.2.1,z.d)) λy11=>(bT (aB (aj z.d) (aj z.d)&&J) (aI y11))) (bm (Sx.op x.1) 8 (aA (rr06_gen_around ((eT z.a,19,20,0),z.2.1,z.d)) λy12=>(bT (aB (aj z.d) (aj z.d)&&J) (aI y12))) (bm (Sx.op x.1) 9 (aA (kj ((Sx.name z.a),z.2.1,z.d)) λL=>(bT (aB (aj z.d) (aj L.2.2)&&J) (aA (cQ ((21,L.1,0,0,0,0),L.2)) λy14=>(bT (aB (aj L.2.2) (aj L.2.2)&&J) (aI y14))))) (bm (Sx.op x.1) 10 (aA (kj ((Sx.name z.a),z.2.1,z.d)) λD=>(bT (aB (aj z.d) (aj D.2.2)&&J) (aA (cQ ((22,D.1,0,0,0,0),D.2)) λy16=>(bT (aB (aj D.2.2) (aj D.2.2)&&J) (aI y16))))) (bm (Sx.op x.1) 11 (aA (kj ((Sx.name z.a),z.2.1,z.d)) λA=>(bT (aB (aj z.d) (aj A.2.2)&&J) (aA (cQ ((23,A.1,0,0,0,0),A.2)) λy18=>(bT (aB (aj A.2.2) (aj A.2.2)&&J) (aI y18))))) (bm (Sx.op x.1) 12 (aA (j8 (z.2.1.c,(Sx.name z.a))) λy19=>(aA (cQ ((24,y19,0,0,0,0),z.2.1,z.d)) λy20=>(bT (aB (aj z.d) (aj z.d)&&J) (aI y20)))) (bm (Sx.op x.1) 13 (aA (j8 (z.2.1.c,(Sx.name z.a))) λy21=>(aA (cQ ((25,y21,0,0,0,0),z.2.1,z.d)) λy22=>(bT (aB (aj z.d) (aj z.d)&&J) (aI y22)))) (bm (Sx.op x.1) 14 (aA (ja ((eO ((Xp.op (Sx.expr z.a)),(Xp.n (Sx.expr z.a)),(Xp.name (Sx.expr z.a)),(Xp.l (Sx.expr z.a))),(bc x.2.1.g)),z.2.1,z.d)) λN=>(bT (aB (aj z.d) (aj z.d)&&J) (aA (j8 (N.1.b,(Sx.name z.a))) λy24=>(aA (cQ ((26,y24,(bc x.2.1.g),0,0,0),N)) λy25=>(bT (aB (aj N.2) (aj N.2)&&J) (aI y25)))))) (bm (Sx.op x.1) 15 (aA (j8 (z.2.1.g,(Sx.name z.a))) λy26=>(aA (j8 (z.2.1.b,(Sx.arg z.a))) λy27=>(aA (cQ ((27,y26,y27,0,0,0),z.2.1,z.d)) λy28=>(bT (aB (aj z.d) (aj z.d)&&J) (aI y28))))) (aI (z.2.1,z.d))))))))))))))))) λx1=>(Z x1))
def nS (rr06_gen_stmts:al6->M g!) (rr06_gen_stmt:QU->M g!) (rr06_gen_branches:QU->M g!) (rr06_gen_around:al7->M g!) (x:Sx×g!):M g!:=
 (aA (ja ((eO ((Xp.op (Sx.expr x.1)),(Xp.n (Sx.expr x.1)),(Xp.name (Sx.expr x.1)),(Xp.l (Sx.expr x.1))),(bc x.2.1.g)),x.2)) λA=>(bT (aB (aj x.2.2) (aj x.2.2)&&J) (aA (cQ ((10,(bc A.1.g),0,0,0,0),A)) λy2=>(bT (aB (aj A.2) (aj A.2)&&J) (aA (rr06_gen_stmts ((Sx.body x.1),y2)) λz=>(bT (aB (aj y2.2) (aj y2.2)&&J) (bm (Sx.op x.1) 3 (aA (cQ ((5,(bc x.2.2),0,0,0,0),(z.1.1,z.1.2.1,z.1.a,z.1.b,z.1.c,z.1.e,z.1.g,x.2.1.j,z.1.s),z.2)) λL=>(bT (aB (aj z.2) (aj z.2)&&J) (ck (dN (bc A.2) (aj L.2)) (Z (L.1,(cC L.2 (bc A.2) ((geti sJ L.2 (bc A.2)).1,((geti sJ L.2 (bc A.2)).2).1,(bc L.2),(((geti sJ L.2 (bc A.2)).2).2).2))))))) (bm (aS (aj (Sx.els x.1))) 0 (ck (dN (bc A.2) (aj z.2)) (Z ((z.1.1,z.1.2.1,z.1.a,z.1.b,z.1.c,z.1.e,z.1.g,x.2.1.j,z.1.s),(cC z.2 (bc A.2) ((geti sJ z.2 (bc A.2)).1,((geti sJ z.2 (bc A.2)).2).1,(bc z.2),(((geti sJ z.2 (bc A.2)).2).2).2))))) (aA (cQ ((5,0,0,0,0,0),(z.1.1,z.1.2.1,z.1.a,z.1.b,z.1.c,z.1.e,z.1.g,x.2.1.j,z.1.s),z.2)) λD=>(bT (aB (aj z.2) (aj z.2)&&J) (ck (dN (bc A.2) (aj D.2)) (aA (rr06_gen_stmts ((Sx.els x.1),D.1,(cC D.2 (bc A.2) ((geti sJ D.2 (bc A.2)).1,((geti sJ D.2 (bc A.2)).2).1,(bc D.2),(((geti sJ D.2 (bc A.2)).2).2).2)))) λN=>(bT (aB (aj (cC D.2 (bc A.2) ((geti sJ D.2 (bc A.2)).1,((geti sJ D.2 (bc A.2)).2).1,(bc D.2),(((geti sJ D.2 (bc A.2)).2).2).2))) (aj (cC D.2 (bc A.2) ((geti sJ D.2 (bc A.2)).1,((geti sJ D.2 (bc A.2)).2).1,(bc D.2),(((geti sJ D.2 (bc A.2)).2).2).2)))&&J) (ck (dN (bc z.2) (aj N.2)) (Z (N.1,(cC N.2 (bc z.2) ((geti sJ N.2 (bc z.2)).1,(bc N.2),((geti sJ N.2 (bc z.2)).2).2))))))))))))))))))
def uS (rr06_gen_stmts:al6->M g!) (rr06_gen_stmt:QU->M g!) (rr06_gen_branches:QU->M g!) (rr06_gen_around:al7->M g!) (x:Y!):M g!:=
 (aA (cQ ((x.1.2.1,x.1.d,0,0,0,0),x.2)) λA=>(bT (aB (aj x.2.2) (aj x.2.2)&&J) (aA (rr06_gen_stmts ((Sx.body x.1.1),A)) λz=>(bT (aB (aj A.2) (aj A.2)&&J) (aA (cQ ((x.1.a,x.1.d,0,0,0,0),(z.1.1,z.1.2.1,z.1.a,z.1.b,z.1.c,z.1.e,z.1.g,x.2.1.j,z.1.s),z.2)) λD=>(bT (aB (aj z.2) (aj z.2)&&J) (Z D)))))))
mutual
def ec:Nat->al6->M g!
 |0,_=>U
 |n+1,x=>wz (ec n) (ft n) (dx n) (dX n) x
def ft:Nat->QU->M g!
 |0,_=>U
 |n+1,x=>tO (ec n) (ft n) (dx n) (dX n) x
def dx:Nat->QU->M g!
 |0,_=>U
 |n+1,x=>nS (ec n) (ft n) (dx n) (dX n) x
def dX:Nat->al7->M g!
 |0,_=>U
 |n+1,x=>uS (ec n) (ft n) (dx n) (dX n) x
end
def wd (x:(Y Sx)×g!):M g!:=ec fuel x
abbrev E!:=Int×(zJ×Y zI)×eu×tW×Int×(Y (Int×Y mh))×Y mh
def rY (x:A!):M (Fo×i?):=
 (aA (gf x) λy1=>(jY y1.1 0 (Z (((([]:Y Ya),([]:Y I!),([]:Y kw),([]:Y ζ),([]:Y ζ),([]:Y π)),([]:Y R?)),y1)) (aA (wg x) λy2=>(iter (σ:=(ν)×(zJ×Y zI)×z?) (λA=>(bV A.1.2 (bc A.2.1.2) (bW uY A.2.1.2 A.1.2 λz4=>(bW uY A.2.1.2 A.1.2 λz5=>(aA (wd (z5.2.2.2,(A.a.1,A.a.2.1,A.a.a,A.a.b,A.a.c,A.a.h,z4.2.2.1,0,A.1.1),([]:Y mh))) λL=>(bT (aB (aj ([]:Y mh)) (aj ([]:Y mh))&&J) (aA (cQ ((28,0,0,0,0,0),(L.1.1,L.1.2.1,L.1.a,L.1.b,L.1.c,L.1.e,L.1.g,(-1),L.1.s),L.2)) λy7=>(bT (aB (aj L.2) (aj L.2)&&J) (iter (σ:=E!) (λD=>(bV D.1 (bc D.k) (kf sJ D.k D.1 λz9=>(aA (kC z9) λN=>(iter (σ:=E!) (λz=>(bV z.1 (bc N) (bW aP N z.1 λz12=>(c8 ((cS z.1),z.2.1,z.a,z.b,(m7 z.c (cS z12)),z.h))) (aI (li ((cS D.1),z.2))))) (0,D.2)))) (aA (bT (bh (aj D.e+aj ([(D.c,D.k)])) 32) (c8 ((L.1.s,(cS A.1.2)),D.2.1,D.a,(D.e++([(D.c,D.k)]))))) λr=>Z (bZ r)))) (0,A.2.1,A.a,y7.1,(bc y7.1.g),A.d,y7.2)))))))) (aI (A.2.2,0,0)))) ((0,0),x,y2,([]:Y R?))))))
def uo (x:n?):M (Bool):=
 (iter (σ:=Int) (λz=>(bV z (bc x.1) (bW aP x.1 z λA=>(bm A x.2 (aI J) (c8 (cS z)))) (aI af))) 0)
def yJ (x:n?):M η:=
 (iter (σ:=Int) (λz=>(jn (bV z (bc x.1) (bW aP x.1 z λD=>(aI (gF D x.2))) (aI af)) λN=>(aJ N (c8 (cS z)) (aA (jn (bV z (bc x.1) (bW aP x.1 z λA=>(aI (decide ((A:Int)=x.2)))) (aI af)) λL=>(aJ L (Z x.1) (bT (dz 0 z&&dz z (aj x.1)) (bT (bh (aj ([]:η)+aj (dE (aN z) x.1)) 8) (bT (bh (aj (([]:η)++(dE (aN z) x.1))+aj ([x.2])) 8) (bT (dz 0 z&&dz z (aj x.1)) (bT (bh (aj ((([]:η)++(dE (aN z) x.1))++([x.2]))+aj (List.drop (aN z) x.1)) 8) (Z (((([]:η)++(dE (aN z) x.1))++([x.2]))++(List.drop (aN z) x.1)))))))))) λr=>Z (bZ r))))) 0)
abbrev u!:=(η)×Int
abbrev J!:=η×η
def wc (x:J!):M η:=
 (iter (σ:=u!) (λA=>(bV A.2 (bc x.1) (bW aP x.1 A.2 λL=>(aA (yJ (A.1,L)) λy3=>(c8 (y3,(cS A.2))))) (aA (iter (σ:=u!) (λz=>(bV z.2 (bc x.2) (bW aP x.2 z.2 λD=>(aA (yJ (z.1,D)) λN=>(c8 (N,(cS z.2))))) (aI z.1))) (A.1,0)) λr=>Z (bZ r)))) (([]:η),0))
def nB (x:Int):M (Int):=
 (jn (bV x 1 (aI J) (aI (gF 100 x))) λz=>(aJ z (Z 0) (Z x)))
abbrev n!:=(η)×Y η
def cF (x:k!):M (ν×n!):=
 (bT (bh (aj ([]:η)+aj x.2.1) 8) (iter (σ:=Int×yc×(ν)×(ν)×n!) (λz=>(bV z.1 (bc z.2.1.a) (bW (.sl aP) z.2.1.a z.1 λA=>(bT (bh (aj ([]:η)+aj A) 8) (bT (bh (aj z.h+aj ([(([]:η)++A)])) 24) (c8 ((cS z.1),z.2.1,z.a,z.b,z.c,(z.h++([(([]:η)++A)]))))))) (aI z.d))) (0,x,(0,0),(x.1,x.d),(([]:η)++x.2.1),([]:Y η))))
abbrev V!:=(η)×(Y η)×mh×(ν)×i?
def yI (x:(mh×Int×Int)×n!):M ((ν×Bool)×n!):=
 (aA (kC x.1.1) λy1=>(iter (σ:=Int×V!) (λz=>(bV z.1 (bc y1) (jn (bW aP y1 z.1 λz4=>(bV z4 0 (aI (J,z.2)) (bW aP y1 z.1 λz5=>(aI ((dz (bc z.2.1) z5),z.2))))) λx3=>(aJ x3.1 U (c8 ((cS z.1),x3.2)))) (aA (jn (α:=(Int×Bool×η)×V!) (bm z.b.1 5 (c8 (((z.b.2.1,z.c.2),J),z.2.1,z.a)) (bm z.b.1 1 (aI ((z.b.c,J,([]:η)),z.2)) (bm z.b.1 2 (kf aP z.2.1 z.b.a λz7=>(kf (.sl aP) z.a z.b.a λz8=>(aI ((z7,J,z8),z.2)))) (bm z.b.1 3 (aA (nB z.b.c) λy9=>(kf aP z.2.1 z.b.a λz10=>(aA (wh (y9,z10)) λL=>(kf (.sl aP) z.a z.b.a λz12=>(aI ((L.1,L.2,z12),z.2)))))) (aA (nB z.b.c) λy13=>(kf aP z.2.1 z.b.a λz14=>(kf aP z.2.1 z.b.b λz15=>(aA (xl (y13,z14,z15)) λD=>(kf (.sl aP) z.a z.b.a λz17=>(kf (.sl aP) z.a z.b.b λN=>(aA (wc (z17,N)) λy19=>(aI ((D.1,D.2,y19),z.2))))))))))))) λA=>(bT (bh (aj ([]:η)+aj A.1.2.2) 8) (ck (dN A.b.2.1 (aj A.2.1)) (ck (dN A.b.2.1 (aj A.a)) (Z ((((cS A.c.1),A.c.2),A.1.2.1),(cC A.2.1 A.b.2.1 A.1.1),(cC A.a A.b.2.1 (([]:η)++A.1.2.2)))))))) λr=>Z (bZ r)))) (0,x.2.1,x.2.2,x.1.1,x.1.2,0,0)))
def ox (x:(Int×Y mh)×k!):M (yc×Bool):=
 (jn (α:=Bool×(Int×Y mh)×yc×i?) (jY (bc x.a) x.1.1 (aI (J,x.1,x.2,0,0)) (aI ((!decide (((bc x.b):Int)=x.1.1)),x.1,x.2,0,0))) λL=>(aJ L.1 (Z ((0,([]:η),([]:Y η),0),af)) (aA (cF L.a) λy2=>(iter (σ:=Int×(Int×Y mh)×(ν)×(ν)×n!) (λA=>(jZ A.1 (bc A.2.1.2) (jn (bV A.a.1 0 (aI (J,A.2)) (aI ((dz (bc A.2.1.2) A.a.1),A.2))) λz=>(aJ z.1 (aI ((0,([]:η),([]:Y η),0),af)) (bW sJ z.2.1.2 z.a.1 λN=>(aA (q_ N.1) λy6=>(aJ (!y6) (aI ((z.a.1,z.c,z.h,z.a.2),J)) (bm A.1 (bc z.2.1.2) (aI ((0,([]:η),([]:Y η),0),af)) (aA (yI ((N,z.a),z.f)) λD=>(bT (aB (aj z.h) (aj D.2.2)&&(aB (aj z.c) (aj D.2.1)&&J)) (aJ (!D.1.2) (aI ((0,([]:η),([]:Y η),0),af)) (c8 ((cS A.1),z.2.1,D.1.1,z.b,D.2))))))))))) (aI ((0,([]:η),([]:Y η),0),af)))) (0,L.2.1,y2.1,L.d,y2.2)))))
abbrev r?:=Int×Int×jV×h?
abbrev E?:=jV×h?
abbrev S!:=Int×Y (Int×η)
def s7 (x:c!):M rz:=
 (iter (σ:=Int×eu×Int×S!) (λD=>(bV D.1 (bc D.2.1.2.1) (bT (bh (aj D.f+aj ([((-1),([]:η))])) 32) (c8 ((cS D.1),D.2.1,D.a,D.b,(D.f++([((-1),([]:η))]))))) (aA (iter (σ:=Int×eu×Int×Int×jV×θ) (λA=>(bV A.1 (bc A.2.1.b) (bT (bh (aj A.h+aj ([af])) 1) (c8 ((cS A.1),A.2.1,A.a,A.b,A.c,(A.h++([af]))))) (aA (iter (σ:=Int×eu×r?) (λz=>(bV z.1 (bc z.2.1.c) (jn (α:=eu×Int×Int×eH×E?) (bm z.1 0 (aI (z.2.1,z.a,z.b,(1,0,af),z.f)) (aI (z.2.1,z.a,z.b,(0,0,af),z.f))) λL=>(bT (bh (aj L.k+aj ([L.b])) 24) (c8 ((cS z.1),L.1,L.2.1,L.a,L.c,L.e,(L.k++([L.b])))))) (aI (z.c,z.b,z.h)))) (0,A.2.1,A.a,A.b,A.c,A.h,([]:Y eH))) λr=>Z (bZ r)))) (0,D.2.1,D.a,D.b,D.f,([]:θ))) λr=>Z (bZ r)))) (0,x,0,(-1),([]:Y j!)))
def s8 (x:eu×w!):M (Bool):=
 (iter (σ:=Int×eu×w!) (λz=>(bV z.1 (bc z.2.1.a) (jn (bW itK z.2.1.a z.1 λL=>(bV L.2 0 (aI (J,z.2)) (bW itK z.2.1.a z.1 λD=>(aI ((dz (bc z.2.1.2.1) D.2),z.2))))) λA=>(aJ A.1 (aI af) (c8 ((cS z.1),A.2)))) (aA (jn (bm (bc z.a) (bc z.2.1.2.1) (bm (bc z.c) (bc z.2.1.b) (aI (decide (((bc z.h):Int)=(bc z.2.1.c)))) (aI af)) (aI af)) λN=>(Z N)) λr=>Z (bZ r)))) (0,x))
def rX (x:ν):M (Bool):=
 (jn (jZ 0 x.1 (aI (gF x.1 x.2)) (aI af)) λz=>(Z z))
def v_ (x:eu×i?):M (Bool):=
 (jn (bm x.2.1 1 (aI ((decide ((x.2.1:Int)=1)),x.1)) (bm x.2.1 2 (aI ((decide ((x.2.1:Int)=2)),x.1)) (bm x.2.1 5 (aI ((decide ((x.2.1:Int)=5)),x.1)) (bm x.2.1 12 (aI ((decide ((x.2.1:Int)=12)),x.1)) (bm x.2.1 13 (aI ((decide ((x.2.1:Int)=13)),x.1)) (bm x.2.1 14 (aI ((decide ((x.2.1:Int)=14)),x.1)) (aI ((decide ((x.2.1:Int)=15)),x.1)))))))) λx1=>(aJ x1.1 (Z (decide ((x.2.2:Int)=(-1)))) (jn (bm x.2.1 3 (aI ((decide ((x.2.1:Int)=3)),x1.2)) (aI ((decide ((x.2.1:Int)=4)),x1.2))) λx2=>(aJ x2.1 (aA (rX (x.2.2,(bc x2.2.1))) λy3=>(Z y3)) (jn (bm x.2.1 6 (aI ((decide ((x.2.1:Int)=6)),x2.2)) (aI ((decide ((x.2.1:Int)=7)),x2.2))) λL=>(aJ L.1 (jn (aA (rX (x.2.2,(bc L.a))) λy6=>(aJ y6 (bW tF L.a x.2.2 λz7=>(aI (!z7.2))) (aI af))) λx5=>(Z x5)) (jn (bm x.2.1 8 (aI ((decide ((x.2.1:Int)=8)),L.2)) (bm x.2.1 9 (aI ((decide ((x.2.1:Int)=9)),L.2)) (bm x.2.1 10 (aI ((decide ((x.2.1:Int)=10)),L.2)) (aI ((decide ((x.2.1:Int)=11)),L.2))))) λD=>(aJ D.1 (jn (aA (rX (x.2.2,(bc D.a))) λy10=>(aJ y10 (bW tF D.a x.2.2 λz11=>(aI z11.2)) (aI af))) λx9=>(Z x9)) (jn (bm x.2.1 16 (aI ((decide ((x.2.1:Int)=16)),D.2)) (bm x.2.1 17 (aI ((decide ((x.2.1:Int)=17)),D.2)) (bm x.2.1 18 (aI ((decide ((x.2.1:Int)=18)),D.2)) (aI ((decide ((x.2.1:Int)=19)),D.2))))) λA=>(aJ A.1 (aA (rX (x.2.2,(bc A.b))) λy13=>(Z y13)) (jn (bm x.2.1 20 (aI ((decide ((x.2.1:Int)=20)),A.2)) (aI ((decide ((x.2.1:Int)=21)),A.2))) λz=>(aJ z.1 (aA (rX (x.2.2,(bc z.e))) λy15=>(Z y15)) (jn (bm x.2.1 22 (aI ((decide ((x.2.1:Int)=22)),z.2)) (aI ((decide ((x.2.1:Int)=23)),z.2))) λN=>(aJ N.1 (aA (rX (x.2.2,(bc N.c))) λy17=>(Z y17)) (Z af)))))))))))))))
abbrev T!:=eu×rz×Int×i?
def lA (x:T!):M (Bool):=
 (jn (aA (s8 (x.1,x.2.1)) λy2=>(aJ (!y2) (aI (J,x.1,x.2.1)) (aA (rX (x.a,(bc x.1.c))) λy3=>(aJ (!y3) (aI (J,x.1,x.2.1)) (aA (v_ (x.1,x.d)) λy4=>(aI ((!y4),x.1,x.2.1))))))) λD=>(aJ D.1 (Z af) (bW iD D.h x.a λL=>(bm x.b 1 (Z (decide ((L.1:Int)=1))) (bm x.b 17 (jn (α:=Bool) (bm L.1 4 (bm L.2.1 x.f (bW itK D.2.1.a x.f λz7=>(bW em D.a z7.2 λz8=>(aI (decide ((z8.1:Int)=(-1)))))) (aI af)) (aI af)) λx6=>(Z x6)) (jY L.1 2 (Z af) (bm x.b 6 (bW em D.a x.f λz9=>(Z (decide ((z9.1:Int)=(-1))))) (bm x.b 10 (jn (α:=Bool) (bW em D.a x.f λz11=>(bm z11.1 (-1) (bW em D.a x.f λz12=>(aI (decide (((bc z12.2):Int)=0)))) (aI af))) λx10=>(Z x10)) (bm x.b 8 (jn (α:=Bool) (bW em D.a x.f λz14=>(bm z14.1 (-1) (bW em D.a x.f λz15=>(aA (uo (z15.2,x.a)) λy16=>(aI (!y16)))) (aI af))) λx13=>(Z x13)) (jn (bm x.b 7 (aI ((decide ((x.b:Int)=7)),D.2.1,D.2.2,L)) (aI ((decide ((x.b:Int)=11)),D.2.1,D.2.2,L))) λz=>(aJ z.1 (bW em z.a.1 x.f λz18=>(Z (decide ((z18.1:Int)=x.a)))) (bm x.b 9 (bW em z.a.1 x.f λz19=>(aA (uo (z19.2,x.a)) λy20=>(Z y20))) (bm x.b 12 (Z (decide ((z.a.2.1:Int)=(-1)))) (bm x.b 13 (Z (decide ((z.a.2.1:Int)=x.a))) (bm x.b 14 (Z (!z.h)) (bm x.b 15 (Z z.h) (jn (bm x.b 16 (aI ((decide ((x.b:Int)=16)),z.2.1,z.a)) (bm x.b 18 (aI ((decide ((x.b:Int)=18)),z.2.1,z.a)) (aI ((decide ((x.b:Int)=19)),z.2.1,z.a)))) λA=>(aJ A.1 (bW itK A.2.1.a x.f λz22=>(bW em A.a z22.2 λz23=>(Z (decide ((z23.1:Int)=x.a))))) (bm x.b 20 (jn (jY x.f x.a (bW iD A.h x.f λz25=>(aI (decide ((z25.1:Int)=0)))) (aI af)) λx24=>(Z x24)) (bm x.b 21 (jn (jY x.f x.a (bW iD A.h x.f λz27=>(aI (decide ((z27.1:Int)=5)))) (aI af)) λx26=>(Z x26)) (bm x.b 22 (bW (.bool) A.c x.f λz28=>(Z (!z28))) (bm x.b 23 (bW (.bool) A.c x.f λN=>(Z N)) (Z J)))))))))))))))))))))))
def oR (x:rz×Int):M η:=
 (iter (σ:=Int×rz×η) (λz=>(bV z.1 (bc z.2.1.d) (jn (α:=rz×η) (jn (bW iD z.2.1.d z.1 λL=>(bm L.1 3 (bW iD z.2.1.d z.1 λD=>(aI ((decide ((D.2.1:Int)=x.2)),z.2))) (aI (af,z.2)))) λA=>(aJ A.1 (bT (bh (aj A.2.2+aj ([z.1])) 8) (aI (A.2.1,(A.2.2++([z.1]))))) (aI A.2))) λN=>(c8 ((cS z.1),N))) (aI z.2.2))) (0,x.1,([]:η)))
def rW (x:n?):M η:=
 (iter (σ:=j!) (λz=>(bV z.1 (bc x.1) (jn (α:=η) (bW aP x.1 z.1 λD=>(jY D x.2 (bW aP x.1 z.1 λA=>(bT (bh (aj z.2+aj ([A])) 8) (aI (z.2++([A]))))) (aI z.2))) λL=>(c8 ((cS z.1),L))) (aI z.2))) (0,([]:η)))
def iO (x:w!):M (Int×E?):=
 (bT (bh (aj ([]:θ)+aj x.a) 1) (bT (bh (aj ([]:Y eH)+aj x.d) 24) (iter (σ:=Int×rz×r?) (λz=>(bV z.1 (bc z.2.1.1) (bW em z.2.1.1 z.1 λD=>(bW em z.2.1.1 z.1 λA=>(bT (bh (aj ([]:η)+aj A.2) 8) (bT (bh (aj z.c+aj ([(D.1,(([]:η)++A.2))])) 32) (c8 ((cS z.1),z.2.1,z.a,z.b,(z.c++([(D.1,(([]:η)++A.2))])),z.h)))))) (aI z.d))) (0,x,0,x.2.1,([]:Y j!),(([]:θ)++x.a),(([]:Y eH)++x.d)))))
def nA (x:ν×E?):M (η×E?):=
 (iter (σ:=Int×jV×(θ)×(Y eH)×j!) (λz=>(bV z.1 (bc z.b) (jn (α:=jV×(θ)×(Y eH)×j!) (jn (kf iD z.b z.1 λL=>(bm L.1 3 (kf iD z.b z.1 λD=>(aI ((decide ((D.2.1:Int)=x.1.2)),z.2))) (aI (af,z.2)))) λA=>(aJ A.1 (bT (bh (aj A.h+aj ([z.1])) 8) (aI (A.2.1,A.a,A.b,A.c,(A.h++([z.1]))))) (aI A.2))) λN=>(c8 ((cS z.1),N))) (aI (z.h,z.2.1,z.a,z.b)))) (0,x.2.1,x.a,x.d,x.1.1,([]:η)))
def lZ (x:ν×E?):M η:=aA (nA x) λy=>same y.2 x.2 (Z y.1)
abbrev V?:=eu×rz×t?
abbrev Z?:=Int×r?
def qI (x:V?):M (rz×q!):=
 (aA (lA (x.1,x.2.1,x.a,x.b,x.c)) λy1=>(aJ (!y1) (Z ((([]:Y j!),0,([]:θ),([]:Y eH)),0,af)) (aA (iO x.2.1) λL=>(jn (α:=Z?) (bm x.b 1 (ck (dN x.a (aj L.d)) (aI (0,L.1,0,L.2.1,L.a,(cC L.d x.a (2,(geti iD L.d x.a).2))))) (bm x.b 2 (ck (dN x.a (aj L.d)) (aI (0,L.1,0,L.2.1,L.a,(cC L.d x.a (5,(geti iD L.d x.a).2))))) (jn (α:=Bool×eu×r?) (bm x.b 6 (aI ((decide ((x.b:Int)=6)),x.1,L.1,0,L.2)) (aI ((decide ((x.b:Int)=10)),x.1,L.1,0,L.2))) λN=>(aJ N.1 (ck (dN x.c (aj N.c)) (aI (0,N.a,N.b,(cC N.c x.c (x.a,(geti em N.c x.c).2)),N.h))) (jn (bm x.b 7 (aI ((decide ((x.b:Int)=7)),N.2)) (aI ((decide ((x.b:Int)=11)),N.2))) λz=>(aJ z.1 (ck (dN x.c (aj z.c)) (aI (0,z.a,z.b,(cC z.c x.c ((-1),(geti em z.c x.c).2)),z.h))) (bm x.b 8 (kf em z.c x.c λz6=>(aA (wc (z6.2,[x.a])) λy7=>(ck (dN x.c (aj z.c)) (aI (0,z.a,z.b,(cC z.c x.c ((geti em z.c x.c).1,y7)),z.h))))) (bm x.b 9 (kf em z.c x.c λz8=>(aA (rW (z8.2,x.a)) λy9=>(ck (dN x.c (aj z.c)) (aI (0,z.a,z.b,(cC z.c x.c ((geti em z.c x.c).1,y9)),z.h))))) (bm x.b 12 (aI (0,x.a,z.d)) (bm x.b 13 (aI (0,(-1),z.d)) (bm x.b 14 (ck (dN x.a (aj z.k)) (aI (0,z.a,z.b,z.c,z.e,(cC z.k x.a ((geti iD z.k x.a).1,((geti iD z.k x.a).2).1,J))))) (bm x.b 15 (ck (dN x.a (aj z.k)) (aI (0,z.a,z.b,z.c,z.e,(cC z.k x.a ((geti iD z.k x.a).1,((geti iD z.k x.a).2).1,af))))) (bm x.b 16 (bW itK z.2.1.a x.c λz10=>(ck (dN z10.2 (aj z.c)) (ck (dN x.a (aj z.k)) (ck (dN x.a (aj (cC z.k x.a (3,(geti iD z.k x.a).2)))) (aI (0,z.a,z.b,(cC z.c z10.2 ((-1),(geti em z.c z10.2).2)),z.e,(cC (cC z.k x.a (3,(geti iD z.k x.a).2)) x.a ((geti iD (cC z.k x.a (3,(geti iD z.k x.a).2)) x.a).1,x.c,((geti iD (cC z.k x.a (3,(geti iD z.k x.a).2)) x.a).2).2)))))))) (bm x.b 17 (bW itK z.2.1.a x.c λz11=>(ck (dN z11.2 (aj z.c)) (ck (dN x.a (aj z.k)) (ck (dN x.a (aj (cC z.k x.a (2,(geti iD z.k x.a).2)))) (aI (0,z.a,z.b,(cC z.c z11.2 (x.a,(geti em z.c z11.2).2)),z.e,(cC (cC z.k x.a (2,(geti iD z.k x.a).2)) x.a ((geti iD (cC z.k x.a (2,(geti iD z.k x.a).2)) x.a).1,0,((geti iD (cC z.k x.a (2,(geti iD z.k x.a).2)) x.a).2).2)))))))) (bm x.b 18 (aA (lZ ((z.a,x.c),z.f)) λy12=>(bV 0 (bc y12) (bW aP y12 0 λz13=>(jn (aA (uo (y12,x.h)) λy15=>(aJ y15 (aI (x.h,z.2.2)) (aI (z13,z.2.2)))) λD=>(ck (dN D.1 (aj D.h)) (aI (D.1,D.2.1,D.a,D.b,D.c,(cC D.h D.1 (4,(geti iD D.h D.1).2))))))) (aI ((-1),z.2.2)))) (bm x.b 19 (aA (lZ ((z.a,x.c),z.f)) λy16=>(iter (σ:=Z?) (λA=>(bV A.1 (bc y16) (bW aP y16 A.1 λz18=>(ck (dN z18 (aj A.h)) (c8 ((cS A.1),A.2.1,A.a,A.b,A.c,(cC A.h z18 (4,(geti iD A.h z18).2)))))) (aI (bZ ((bc y16),A.2))))) (0,z.2.2))) (bm x.b 20 (ck (dN x.c (aj z.k)) (aI (0,z.a,z.b,z.c,z.e,(cC z.k x.c (1,(geti iD z.k x.c).2))))) (bm x.b 22 (ck (dN x.c (aj z.e)) (aI (0,z.a,z.b,z.c,(cC z.e x.c J),z.k))) (aI (0,z.2.2)))))))))))))))))))) λx3=>(Z ((x3.b,x3.2.1,x3.f),x3.1,J))))))
abbrev Q!:=(η)×η
def v9 (x:z?):M AM:=
 (aA (kB x) λy1=>(aJ (!y1) (Z ((([]:Y j!),0,([]:θ),([]:Y eH)),([]:η),([]:η),([]:Y yc))) (aA (s7 x.1) λy2=>(iter (σ:=Int×Fo×Int×rz×η) (λD=>(bV D.1 (bc D.2.1.1.1) (bW lL D.2.1.1.1 D.1 λz4=>(bT (bh (aj D.f+aj ([z4.2.2.2.2])) 8) (c8 ((cS D.1),D.2.1,D.a,D.b,(D.f++([z4.2.2.2.2])))))) (aA (iter (σ:=Int×Fo×Int×rz×Q!) (λA=>(bV A.1 (bc A.2.1.1.b) (bT (bh (aj A.h+aj ([0])) 8) (c8 ((cS A.1),A.2.1,A.a,A.b,A.c,(A.h++([0]))))) (aA (iter (σ:=Int×Fo×Int×h!) (λz=>(bV z.1 (bc z.2.1.2) (kO z.1 z.2.1.2 (lt ((geti zP z.2.1.2 z.1).1) λN=>(bT (dz 0 N&&dz N N&&bh (aN N) 8) (kO z.1 z.2.1.2 (lt ((geti zP z.2.1.2 z.1).1) λL=>(bT (dz 0 L&&dz L L&&bh (aN L) 24) (bT (bh (aj z.k+aj ([(0,(aG (aN N) (0:Int)),(aG (aN L) ([]:η)),0)])) 64) (c8 ((cS z.1),z.2.1,z.a,z.b,z.c,z.e,(z.k++([(0,(aG (aN N) (0:Int)),(aG (aN L) ([]:η)),0)]))))))))))) (aI z.d))) (0,A.2.1,A.a,A.b,A.c,A.h,([]:Y yc))) λr=>Z (bZ r)))) (0,D.2.1,D.a,D.b,D.f,([]:η))) λr=>Z (bZ r)))) (0,x,0,y2,([]:η))))))
def yH (x:Fo×h!):M (Bool):=
 (jn (aA (kB x.1) λy2=>(aJ (!y2) (aI (J,x)) (aA (s8 (x.1.1,x.2.1)) λy3=>(aJ (!y3) (aI (J,x)) (jY (bc x.a) (bc x.1.1.1) (aI (J,x)) (jY (bc x.b) (bc x.1.1.b) (aI (J,x)) (aI ((!decide (((bc x.f):Int)=(bc x.1.2))),x)))))))) λL=>(aJ L.1 (Z af) (iter (σ:=Int×Fo×h!) (λz=>(bV z.1 (bc z.2.1.2) (bW fA z.h z.1 λA=>(jn (bV A.1 0 (aI (J,z.2)) (bW zP z.2.1.2 z.1 λz7=>(jZ (bc z7.2) A.1 (aI (J,z.2)) (bW zP z.2.1.2 z.1 λz8=>(jY (bc A.2.1) z8.1 (aI (J,z.2)) (bW zP z.2.1.2 z.1 λN=>(aI ((!decide (((bc A.a):Int)=N.1)),z.2)))))))) λD=>(aJ D.1 (aI af) (c8 ((cS z.1),D.2))))) (aI J))) (0,L.2))))
def Dd (x:Int):M (Int):=
 (jn (α:=Bool×η) (bV x 6 (aI (J,[3,3,4,4,5,6,7,8,9,10,11,12,13,14,15,16,18,19,20,21,22,23,2])) (aI ((gF 28 x),[3,3,4,4,5,6,7,8,9,10,11,12,13,14,15,16,18,19,20,21,22,23,2]))) λz=>(aJ z.1 (Z 0) (kf aP z.2 (bn .i64 (x-6)) λA=>(Z A))))
def xk (x:mh×k!):M (Int):=
 (jn (bm x.1.1 6 (aI ((decide ((x.1.1:Int)=6)),x)) (aI ((decide ((x.1.1:Int)=27)),x))) λz=>(aJ z.1 (Z z.2.1.a) (bm x.1.1 7 (bW aP z.b z.2.1.b λL=>(aA (wj (L,z.2.1.c)) λy3=>(Z (bn .i64 (z.2.1.a+y3))))) (bm x.1.1 9 (bW aP z.b z.2.1.b λD=>(aA (wj (D,z.2.1.c)) λN=>(Z (bn .i64 (z.2.1.2.1+N))))) (jn (bm x.1.1 10 (aI ((decide ((x.1.1:Int)=10)),z.2.1)) (bm x.1.1 17 (aI ((decide ((x.1.1:Int)=17)),z.2.1)) (bm x.1.1 18 (aI ((decide ((x.1.1:Int)=18)),z.2.1)) (bm x.1.1 19 (aI ((decide ((x.1.1:Int)=19)),z.2.1)) (bm x.1.1 20 (aI ((decide ((x.1.1:Int)=20)),z.2.1)) (aI ((decide ((x.1.1:Int)=28)),z.2.1))))))) λA=>(aJ A.1 (Z (-1)) (Z A.a)))))))
def oP (x:Fo×AM×Int):M (gA×Bool):=
 (jn (α:=Bool×Fo×AM×Int×t?) (aA (yH (x.1,x.2.1)) λy2=>(aJ (!y2) (aI (J,x.1,x.2.1,0,0,0,0,0)) (bV x.2.2 0 (aI (J,x.1,x.2.1,0,0,0,0,0)) (aI ((dz (bc x.1.2) x.2.2),x.1,x.2.1,0,0,0,0,0))))) λx1=>(aJ x1.1 (Z ((0,0,0,0,0,([]:η),([]:η)),af)) (bW fA x1.a.d x.2.2 λz3=>(bW zP x1.2.1.2 x.2.2 λz4=>(bW sJ z4.2 z3.1 λD=>(bW iD x1.a.1.d x.2.2 λz6=>(bm z6.1 1 (Z ((x.2.2,1,(-1),0,(-1),([]:η),([]:η)),J)) (bm z6.1 4 (bW iD x1.a.1.d x.2.2 λz7=>(Z ((x.2.2,17,z7.2.1,0,D.h,([]:η),([]:η)),J))) (bm z6.1 2 (aA (Dd D.1) λy8=>(aA (xk (D,z3)) λy9=>(bm y8 0 (Z ((0,0,0,0,0,([]:η),([]:η)),af)) (jn (α:=Hr×yc×mh×Hr×η) (bm D.1 10 (bW (.sl aP) z3.a D.2.1 λz11=>(bT (bh (aj (z11:η)) 8) (aI (x1.d,z3,D,(x.2.2,y8,y9,0,D.h),z11)))) (jn (α:=Bool×Hr×yc×mh×Int×t?) (bm D.1 7 (aI ((decide ((D.1:Int)=7)),x1.d,z3,D,x.2.2,y8,y9,0,D.h)) (aI ((decide ((D.1:Int)=9)),x1.d,z3,D,x.2.2,y8,y9,0,D.h))) λz=>(aJ z.1 (bW (.sl aP) z.a.a z.b.b λz13=>(bT (bh (aj (z13:η)) 8) (aI (z.2.1,z.a,z.b,z.f,z13)))) (aI (z.2.1,z.a,z.b,z.f,([]:η)))))) λN=>(jn (α:=Hr×Hr×Q!) (jn (bm N.a.1 8 (aI (J,N)) (bm N.a.1 9 (aI (J,N)) (aI ((decide ((N.a.1:Int)=26)),N)))) λA=>(aJ A.1 (bW (.sl aP) A.a.a A.b.a λz16=>(bT (bh (aj (z16:η)) 8) (aI (A.2.1,A.c,A.h,z16)))) (aI (A.2.1,A.c,A.h,([]:η))))) λL=>(Z ((L.2.1.1,L.2.1.2.1,L.2.1.a,L.2.1.b,L.2.1.f,L.2.2),J))))))) (Z ((0,0,0,0,0,([]:η),([]:η)),af)))))))))))
def ou (x:c!):M kc:=
 (aA (s7 x) λD=>(bT (dz 0 (bc x.b)&&dz (bc x.b) (bc x.b)&&bh (aN (bc x.b)) 8) (bT (dz 0 (bc x.c)&&dz (bc x.c) (bc x.c)&&bh (aN (bc x.c)) 8) (iter (σ:=Int×eu×Int×U?) (λz=>(bV z.1 (bc z.2.1.1) (bW lL z.2.1.1 z.1 λA=>(bT (bh (aj z.c+aj ([A.2.2.2.2])) 8) (c8 ((cS z.1),z.2.1,z.a,z.b,(z.c++([A.2.2.2.2])),z.h)))) (aI z.d))) (0,x,0,D,([]:η),(aG (aN (bc x.b)) (0:Int)),(aG (aN (bc x.c)) (0:Int)))))))
def yF (x:eu×U?):M (Bool):=
 (jn (aA (s8 (x.1,x.2.1)) λz=>(aJ z (bm (bc x.a) (bc x.1.1) (bm (bc x.b) (bc x.1.b) (aI (decide (((bc x.f):Int)=(bc x.1.c)))) (aI af)) (aI af)) (aI af))) λA=>(Z A))
def F3 (x:ν):M (Bool):=
 (jn (jZ 0 x.1 (aI (gF x.1 x.2)) (aI af)) λz=>(Z z))
def rV (x:n?):M (Bool):=
 (iter (σ:=Int) (λz=>(bV z (bc x.1) (jn (bW aP x.1 z λN=>(bV N 1 (aI J) (bW aP x.1 z λL=>(jZ x.2 L (aI J) (bV 0 z (bW aP x.1 z λD=>(bW aP x.1 (bn .i64 (z-1)) λA=>(aI (dz D A)))) (aI af)))))) λx2=>(aJ x2 (aI af) (c8 (cS z)))) (aI J))) 0)
abbrev O?:=kc×b!
def Al (x:O?):M (Bool):=
 (bm x.a 3 (bW aP x.1.2.1 x.b λL=>(Z (decide ((x.c:Int)=L)))) (bm x.a 23 (bW aP x.1.a x.b λD=>(Z (decide ((x.c:Int)=D)))) (bm x.a 5 (jn (bm x.c 0 (aI J) (aI (decide ((x.c:Int)=1)))) λx3=>(Z x3)) (jn (bm x.a 4 (aI ((decide ((x.a:Int)=4)),x)) (aI ((decide ((x.a:Int)=22)),x))) λz=>(aJ z.1 (Z J) (bm x.a 18 (aA (oR (z.2.1.1,z.c)) λA=>(bm (bc A) 0 (Z (decide ((z.e:Int)=(-1)))) (jn (jZ 0 z.e (bV z.e (bc z.2.1.1.d) (aA (uo (A,z.e)) λy7=>(aI y7)) (aI af)) (aI af)) λx6=>(Z x6)))) (bm x.a 19 (aA (oR (z.2.1.1,z.c)) λN=>(Z (decide ((z.e:Int)=(bc N))))) (Z (decide ((z.e:Int)=0))))))))))
abbrev J?:=eu×kc×gA×Int
def s5 (x:eu×O?):M (kc×Bool):=
 (jn (α:=Bool×J?) (aA (yF (x.1,x.2.1)) λy2=>(aJ (!y2) (aI (J,x.1,x.2.1,x.2.2,0)) (aA (F3 (x.a,(bc x.1.c))) λy3=>(aJ (!y3) (aI (J,x.1,x.2.1,x.2.2,0)) (bV x.b 1 (aI (J,x.1,x.2.1,x.2.2,0)) (bV 23 x.b (aI (J,x.1,x.2.1,x.2.2,0)) (aA (lA (x.1,x.2.1.1,x.a,x.b,x.c)) λy4=>(aI ((!y4),x.1,x.2.1,x.2.2,0))))))))) λx1=>(aJ x1.1 (Z (((([]:Y j!),0,([]:θ),([]:Y eH)),([]:η),([]:η),([]:η)),af)) (jn (α:=J?) (jn (bm x1.b.2.1 1 (aI (J,x1.2)) (aI ((decide ((x1.b.2.1:Int)=2)),x1.2))) λx6=>(aJ x6.1 (jY x6.b.c (-1) (c8 (((([]:Y j!),0,([]:θ),([]:Y eH)),([]:η),([]:η),([]:η)),af)) (aI x6.2)) (jn (aA (F3 (x6.b.c,(bc x6.2.1.h))) λy8=>(aJ (!y8) (aI (J,x6.2)) (bW pW x6.2.1.h x6.b.c λz9=>(aI ((!decide ((z9.1:Int)=x6.b.1)),x6.2))))) λx7=>(aJ x7.1 (c8 (((([]:Y j!),0,([]:θ),([]:Y eH)),([]:η),([]:η),([]:η)),af)) (aI x7.2))))) λx5=>(jn (bm x5.a.2.1 3 (aI (J,x5)) (aI ((decide ((x5.a.2.1:Int)=4)),x5))) λx10=>(jn (bV 0 (bc x10.b.e) (jY x10.b.2.1 5 (aJ x10.1 (bW lL x10.2.1.1 x10.b.a λz12=>(aI ((!(!decide ((z12.2.2.1:Int)=0))),x10.2))) (aI (J,x10.2))) (aI (af,x10.2))) (aI (af,x10.2))) λx11=>(aJ x11.1 (Z (((([]:Y j!),0,([]:θ),([]:Y eH)),([]:η),([]:η),([]:η)),af)) (jn (bV 0 (bc x11.b.k) (jY x11.b.2.1 4 (aI ((!decide ((x11.b.2.1:Int)=22)),x11.2)) (aI (af,x11.2))) (aI (af,x11.2))) λL=>(aJ L.1 (Z (((([]:Y j!),0,([]:θ),([]:Y eH)),([]:η),([]:η),([]:η)),af)) (jn (bW aP L.a.d L.b.1 λz15=>(aA (rV (L.b.e,z15)) λy16=>(aJ (!y16) (aI (J,L.2)) (bW aP L.a.d L.b.1 λz17=>(aA (rV (L.b.k,z17)) λy18=>(aJ (!y18) (aI (J,L.2)) (aA (Al (L.a,L.b)) λy19=>(aI ((!y19),L.2))))))))) λz=>(aJ z.1 (Z (((([]:Y j!),0,([]:θ),([]:Y eH)),([]:η),([]:η),([]:η)),af)) (bT (bh (aj ([]:η)+aj z.a.2.1) 8) (bT (bh (aj ([]:η)+aj z.a.a) 8) (bT (bh (aj ([]:η)+aj z.a.d) 8) (jn (α:=Int×eu×kc×gA×Int×Int×f?) (bm z.b.2.1 18 (aI (z.b.b,z.2.1,z.a,z.b,z.f,0,(([]:η)++z.a.2.1),(([]:η)++z.a.a),(([]:η)++z.a.d))) (aI ((-1),z.2.1,z.a,z.b,z.f,0,(([]:η)++z.a.2.1),(([]:η)++z.a.a),(([]:η)++z.a.d)))) λA=>(aA (qI (A.2.1,A.a.1,A.b.1,A.b.2.1,A.b.a,A.1)) λy21=>(jn (bm A.b.2.1 4 (ck (dN A.b.a (aj A.g)) (aI (A.b,A.c,y21.1,(cC A.g A.b.a A.b.b),A.p))) (aI (A.b,A.c,y21.1,A.k))) λD=>(jn (bm D.1.2.1 22 (ck (dN D.1.a (aj D.c)) (aI (D.1,D.2.1,D.a,D.b,(cC D.c D.1.a D.1.b),D.h))) (aI D)) λN=>(kf aP N.h N.1.1 λz24=>(ck (dN N.1.1 (aj N.h)) (Z ((N.a,N.b,N.c,(cC N.h N.1.1 (cS z24))),J)))))))))))))))))))))
def sZ (x:(Y gA)×Int×j!):M (Bool):=
 (iter (σ:=Int) (λA=>(bV A (bc x.d) (iter (σ:=Int×Bool×Int) (λz=>(bV z.2.2 x.2.1 (jn (bW fV x.1 z.2.2 λz4=>(jY z4.1 x.a (aI (z.1,z.2.1)) (jn (aJ z.2.1 (aI J) (bW aP x.d A λz6=>(bm z.1 z6 (bW fV x.1 z.2.2 λN=>(bm N.2.1 3 (aI J) (bW fV x.1 z.2.2 λL=>(aI (decide ((L.2.1:Int)=23)))))) (aI af)))) λx5=>(aI ((cS z.1),x5))))) λD=>(c8 (D.1,D.2,(cS z.2.2)))) (aA (aJ (!z.2.1) (aI af) (c8 (cS A))) λr=>Z (bZ r)))) (0,af,0)) (aI J))) 0)
abbrev x?:=eu×Y gA
def v8 (x:x?):M ν:=
 (bV 400 (bc x.2) (Z (0,2)) (aA (iz x.1) λy1=>(aJ (!y1) (Z (0,1)) (aA (ou x.1) λy2=>(iter (σ:=Int×(eu×Y gA)×U?) (λz=>(bV z.1 (bc z.2.1.2) (bW fV z.2.1.2 z.1 λA=>(aA (s5 (z.2.1.1,z.2.2,A)) λD=>(jn (aJ (!D.2) (aI (J,z.2.1,z.2.2,D.1)) (aA (sZ (z.2.1.2,z.1,A.1,A.e)) λy7=>(aJ (!y7) (aI (J,z.2.1,z.2.2,D.1)) (aA (sZ (z.2.1.2,z.1,A.1,A.k)) λN=>(aI ((!N),z.2.1,z.2.2,D.1)))))) λL=>(aJ L.1 (aI (z.1,12)) (c8 ((cS z.1),L.2.1,L.d)))))) (aI (0,0)))) (0,x,y2))))))
def KG {W V:Type} (i:Int) (t1:R->(η)->(Y η)->W) (t2:W->V) (t3:V->yc->Y yc) (x6:Int) (z:Fo×rz×(ν)×Int×Hr×gA×(ν)×(η)×(η)×R×(η)×Y η):M Hq:=
 (jn (jn (jY z.e.2.1 16 (aI ((!decide ((z.e.2.1:Int)=2)),z.1,z.2.1,z.a,z.b,z.c,z.e,(x6,z.l,z.v,(cS z.g.2)),z.j,z.m,(t1 z.o z.l z.v))) (aI (af,z.1,z.2.1,z.a,z.b,z.c,z.e,(x6,z.l,z.v,(cS z.g.2)),z.j,z.m,(t1 z.o z.l z.v)))) λA=>(aJ A.1 (bW zP A.2.1.2 A.b.1 λL=>(aA (ox (L,A.j)) λN=>(aI (A.a,A.b,A.c,A.e,A.g,N.1,A.m,A.o,(t2 A.w))))) (aI (A.a,A.b,A.c,A.e,A.g,A.j,A.m,A.o,(t2 A.w))))) λD=>(bm D.2.1.1 i (Z ((D.1,D.g,D.j,(t3 D.s D.e)),D.c,J)) U))
abbrev w?:=Fo×AM×i?
def SG (i:Int) (cp:h!->M (Int×jV×(θ)×(Y eH)×(η)×(η)×R×(η)×Y η)) (N ev:R->Int) (k:Int->(Fo×rz×(ν)×Int×Hr×gA×(ν)×(η)×(η)×R×(η)×Y η)->M Hq) (x:w?):M Hq:=
 (aA (oP (x.1,x.2.1,x.a)) λD=>(aJ (!D.2) (Z (((([]:Y j!),0,([]:θ),([]:Y eH)),([]:η),([]:η),([]:Y yc)),(0,0,0,0,0,([]:η),([]:η)),af)) (aA (qI (x.1.1,x.2.1.1,x.a,D.1.2.1,D.1.a,x.d)) λy2=>(aJ (!y2.2.2) (Z (((([]:Y j!),0,([]:θ),([]:Y eH)),([]:η),([]:η),([]:Y yc)),(0,0,0,0,0,([]:η),([]:η)),af)) (aA (cp x.2.1) λL=>(bm x.a i (bW zP x.1.2 i λz4=>(bW sJ z4.2 (N L.g) λz5=>(jn (α:=Int×Fo×rz×(ν)×Int×Hr×gA×(ν)×mh×(η)×(η)×R×(η)×Y η) (jn (α:=Bool×Fo×rz×(ν)×Int×Hr×gA×(ν)×mh×(η)×(η)×R×(η)×Y η) (bm D.1.2.1 1 (aI ((decide ((D.1.2.1:Int)=1)),x.1,y2.1,(i,x.d),0,(0,0,0,0,0),(D.1.1,D.1.2.1,D.1.a,y2.2.1,D.1.f),((N L.g),(ev L.g)),z5,L.f)) (bm D.1.2.1 16 (aI ((decide ((D.1.2.1:Int)=16)),x.1,y2.1,(i,x.d),0,(0,0,0,0,0),(D.1.1,D.1.2.1,D.1.a,y2.2.1,D.1.f),((N L.g),(ev L.g)),z5,L.f)) (aI ((decide ((D.1.2.1:Int)=2)),x.1,y2.1,(i,x.d),0,(0,0,0,0,0),(D.1.1,D.1.2.1,D.1.a,y2.2.1,D.1.f),((N L.g),(ev L.g)),z5,L.f)))) λz=>(aJ z.1 (aI (z.j.1,z.2)) (bm D.1.2.1 3 (kf aP z.o z.g.a λz8=>(aI ((bn .i64 ((N L.g)+1)),z.2.1,z.a,z.b,z.c,z.e,(z.g.1,z.g.2.1,z.g.a,z8,z.g.f),z.p))) (bm D.1.2.1 23 (kf aP z.l z.g.a λz9=>(aI ((bn .i64 ((N L.g)+1)),z.2.1,z.a,z.b,z.c,z.e,(z.g.1,z.g.2.1,z.g.a,z9,z.g.f),z.p))) (bm D.1.2.1 4 (kf aP z.i z.m.a λz10=>(ck (dN z.g.a (aj z.o)) (aI ((bn .i64 ((N L.g)+1)),z.2.1,z.a,z.b,z.c,z.e,(z.g.1,z.g.2.1,z.g.a,z10,z.g.f),z.j,z.m,(cC z.o z.g.a z10),z.w)))) (bm D.1.2.1 22 (kf aP z.i z.m.a λz11=>(ck (dN z.g.a (aj z.l)) (aI ((bn .i64 ((N L.g)+1)),z.2.1,z.a,z.b,z.c,z.e,(z.g.1,z.g.2.1,z.g.a,z11,z.g.f),z.j,z.m,z.o,(cC z.l z.g.a z11),z.v)))) (bm D.1.2.1 5 (kf aP z.i z.m.2.1 λz12=>(bm z12 0 (aI (z.m.a,z.2.1,z.a,z.b,z.c,z.e,(z.g.1,z.g.2.1,z.g.a,0,z.g.f),z.p)) (aI ((bn .i64 ((N L.g)+1)),z.2.1,z.a,z.b,z.c,z.e,(z.g.1,z.g.2.1,z.g.a,1,z.g.f),z.p)))) (aI ((bn .i64 ((N L.g)+1)),z.2))))))))) λx6=>(jn (α:=Fo×rz×(ν)×Int×Hr×gA×(ν)×(η)×(η)×R×(η)×Y η) (jn (bm x6.g.2.1 3 (aI (J,x6.2)) (aI ((decide ((x6.g.2.1:Int)=23)),x6.2))) λA=>(aJ A.1 (ck (dN A.m.2.1 (aj A.i)) (ck (dN A.m.2.1 (aj A.y)) (aI (A.2.1,A.a,A.b,A.c,A.e,A.g,A.j,A.o,A.l,A.n,(cC A.i A.m.2.1 A.g.b),(cC A.y A.m.2.1 ([A.j.2])))))) (aI (A.2.1,A.a,A.b,A.c,A.e,A.g,A.j,A.B)))) λx13=>(k x6.1 x13))))) U))))))
def um (x:h!):M (Int×jV×(θ)×(Y eH)×(η)×(η)×(ν)×n!):=
 (aA (iO x.1) λz=>(bT (bh (aj ([]:η)+aj x.2.1) 8) (bT (bh (aj ([]:η)+aj x.a) 8) (bV 0 (bc x.d) (bW fA x.d 0 λD=>(aA (cF D) λL=>(bV 1 (bc x.d) (bW fA x.d 1 λA=>(aA (cF A) λN=>U)) (Z (z.1,z.2.1,z.a,z.d,(([]:η)++x.2.1),(([]:η)++x.a),L))))) U))))
def gU (x:w?):M Hq:=
 SG 0 um (λz=>z.1) (λz=>z.2) (KG 0 (λz R T=>(z.1,R,T,z.2)) (λw=>((w.1,w.2.1,w.2.2.1,w.2.2.2))) (λv t=>[t])) x
def ul (x:h!):M (Int×jV×(θ)×(Y eH)×(η)×(η)×Ya29×n!):=
 (aA (iO x.1) λA=>(bT (bh (aj ([]:η)+aj x.2.1) 8) (bT (bh (aj ([]:η)+aj x.a) 8) (bV 0 (bc x.d) (bW fA x.d 0 λz2=>(aA (cF z2) λD=>(bV 1 (bc x.d) (bW fA x.d 1 λN=>(aA (cF N) λz=>(bV 2 (bc x.d) (bW fA x.d 2 λL=>(aA (cF L) λy7=>U)) (Z (A.1,A.2.1,A.a,A.d,(([]:η)++x.2.1),(([]:η)++x.a),(D.1.1,D.1.2,z.1.1,z.2.1,z.2.2,z.1.2),D.2))))) U))) U))))
def iy (x:w?):M Hq:=
 SG 0 ul (λz=>z.1) (λz=>z.2.1) (KG 0 (λz R T=>(z.1,R,T,z.2.1,z.2.2)) (λw=>((w.1,w.2.1,w.2.2.1,w.2.2.2.1),w.2.2.2.2)) (λv t=>[t,v.2])) x
def uk (x:h!):M (Int×jV×(θ)×(Y eH)×(η)×(η)×(yc×Int×Int)×n!):=
 (aA (iO x.1) λA=>(bT (bh (aj ([]:η)+aj x.2.1) 8) (bT (bh (aj ([]:η)+aj x.a) 8) (bV 0 (bc x.d) (bW fA x.d 0 λz2=>(aA (cF z2) λz=>(bV 1 (bc x.d) (bW fA x.d 1 λN=>(aA (cF N) λD=>(bV 2 (bc x.d) (bW fA x.d 2 λL=>(aA (cF L) λy7=>U)) (Z (A.1,A.2.1,A.a,A.d,(([]:η)++x.2.1),(([]:η)++x.a),((z.1.1,z.2.1,z.2.2,z.1.2),D.1),D.2))))) U))) U))))
def gR (x:w?):M Hq:=
 SG 1 uk (λz=>z.2.1) (λz=>z.2.2) (KG 1 (λz R T=>(z.1,z.2.1,R,T,z.2.2)) (λw=>(w.1,(w.2.1,w.2.2.1,w.2.2.2.1,w.2.2.2.2))) (λv t=>[v.1,t])) x
def uj (x:h!):M (Int×jV×(θ)×(Y eH)×(η)×(η)×Ya27×n!):=
 (aA (iO x.1) λD=>(bT (bh (aj ([]:η)+aj x.2.1) 8) (bT (bh (aj ([]:η)+aj x.a) 8) (bV 0 (bc x.d) (bW fA x.d 0 λz2=>(aA (cF z2) λL=>(bV 1 (bc x.d) (bW fA x.d 1 λz4=>(aA (cF z4) λA=>(bV 2 (bc x.d) (bW fA x.d 2 λz6=>(aA (cF z6) λz=>(bV 3 (bc x.d) (bW fA x.d 3 λN=>(aA (cF N) λy9=>U)) (Z (D.1,D.2.1,D.a,D.d,(([]:η)++x.2.1),(([]:η)++x.a),(L.1.1,L.1.2,(A.1.1,A.2.1,A.2.2,A.1.2),z.1.1,z.2.1,z.2.2,z.1.2),L.2))))) U))) U))) U))))
def lz (x:w?):M Hq:=
 SG 0 uj (λz=>z.1) (λz=>z.2.1) (KG 0 (λz R T=>(z.1,R,T,z.2.1,z.a,z.d)) (λw=>((w.1,w.2.1,w.2.2.1,w.2.2.2.1),w.2.2.2.2.1,w.2.2.2.2.2)) (λv t=>[t,v.2.1,v.2.2])) x
def ui (x:h!):M (Int×jV×(θ)×(Y eH)×(η)×(η)×Ya28×n!):=
 (aA (iO x.1) λD=>(bT (bh (aj ([]:η)+aj x.2.1) 8) (bT (bh (aj ([]:η)+aj x.a) 8) (bV 0 (bc x.d) (bW fA x.d 0 λz2=>(aA (cF z2) λA=>(bV 1 (bc x.d) (bW fA x.d 1 λz4=>(aA (cF z4) λL=>(bV 2 (bc x.d) (bW fA x.d 2 λz6=>(aA (cF z6) λz=>(bV 3 (bc x.d) (bW fA x.d 3 λN=>(aA (cF N) λy9=>U)) (Z (D.1,D.2.1,D.a,D.d,(([]:η)++x.2.1),(([]:η)++x.a),((A.1.1,A.2.1,A.2.2,A.1.2),L.1.1,L.1.2,z.1.1,z.2.1,z.2.2,z.1.2),L.2))))) U))) U))) U))))
def kh (x:w?):M Hq:=
 SG 1 ui (λz=>z.2.1) (λz=>z.a) (KG 1 (λz R T=>(z.1,z.2.1,R,T,z.a,z.d)) (λw=>(w.1,(w.2.1,w.2.2.1,w.2.2.2.1,w.2.2.2.2.1),w.2.2.2.2.2)) (λv t=>[v.1,t,v.2.2])) x
def uh (x:h!):M (Int×jV×(θ)×(Y eH)×(η)×(η)×(yc×yc×Int×Int)×n!):=
 (aA (iO x.1) λD=>(bT (bh (aj ([]:η)+aj x.2.1) 8) (bT (bh (aj ([]:η)+aj x.a) 8) (bV 0 (bc x.d) (bW fA x.d 0 λz2=>(aA (cF z2) λA=>(bV 1 (bc x.d) (bW fA x.d 1 λz4=>(aA (cF z4) λz=>(bV 2 (bc x.d) (bW fA x.d 2 λz6=>(aA (cF z6) λL=>(bV 3 (bc x.d) (bW fA x.d 3 λN=>(aA (cF N) λy9=>U)) (Z (D.1,D.2.1,D.a,D.d,(([]:η)++x.2.1),(([]:η)++x.a),((A.1.1,A.2.1,A.2.2,A.1.2),(z.1.1,z.2.1,z.2.2,z.1.2),L.1),L.2))))) U))) U))) U))))
def i_ (x:w?):M Hq:=
 SG 2 uh (λz=>z.a) (λz=>z.d) (KG 2 (λz R T=>(z.1,z.2.1,z.a,R,T,z.d)) (λw=>(w.1,w.2.1,(w.2.2.1,w.2.2.2.1,w.2.2.2.2.1,w.2.2.2.2.2))) (λv t=>[v.1,v.2.1,t])) x
def ug (x:h!):M (Int×jV×(θ)×(Y eH)×(η)×(η)×Ya23×n!):=
 (aA (iO x.1) λL=>(bT (bh (aj ([]:η)+aj x.2.1) 8) (bT (bh (aj ([]:η)+aj x.a) 8) (bV 0 (bc x.d) (bW fA x.d 0 λz2=>(aA (cF z2) λy3=>(bV 1 (bc x.d) (bW fA x.d 1 λz4=>(aA (cF z4) λD=>(bV 2 (bc x.d) (bW fA x.d 2 λz6=>(aA (cF z6) λA=>(bV 3 (bc x.d) (bW fA x.d 3 λz8=>(aA (cF z8) λz=>(bV 4 (bc x.d) (bW fA x.d 4 λN=>(aA (cF N) λy11=>U)) (Z (L.1,L.2.1,L.a,L.d,(([]:η)++x.2.1),(([]:η)++x.a),(y3.1.1,y3.1.2,(D.1.1,D.2.1,D.2.2,D.1.2),(A.1.1,A.2.1,A.2.2,A.1.2),z.1.1,z.2.1,z.2.2,z.1.2),y3.2))))) U))) U))) U))) U))))
def qZ (x:w?):M Hq:=
 SG 0 ug (λz=>z.1) (λz=>z.2.1) (KG 0 (λz R T=>(z.1,R,T,z.2.1,z.a,z.b,z.f)) (λw=>((w.1,w.2.1,w.2.2.1,w.2.2.2.1),w.2.2.2.2.1,w.2.2.2.2.2.1,w.2.2.2.2.2.2)) (λv t=>[t,v.2.1,v.2.2.1,v.2.2.2])) x
def uf (x:h!):M (Int×jV×(θ)×(Y eH)×(η)×(η)×Ya24×n!):=
 (aA (iO x.1) λL=>(bT (bh (aj ([]:η)+aj x.2.1) 8) (bT (bh (aj ([]:η)+aj x.a) 8) (bV 0 (bc x.d) (bW fA x.d 0 λz2=>(aA (cF z2) λD=>(bV 1 (bc x.d) (bW fA x.d 1 λz4=>(aA (cF z4) λy5=>(bV 2 (bc x.d) (bW fA x.d 2 λz6=>(aA (cF z6) λA=>(bV 3 (bc x.d) (bW fA x.d 3 λz8=>(aA (cF z8) λz=>(bV 4 (bc x.d) (bW fA x.d 4 λN=>(aA (cF N) λy11=>U)) (Z (L.1,L.2.1,L.a,L.d,(([]:η)++x.2.1),(([]:η)++x.a),((D.1.1,D.2.1,D.2.2,D.1.2),y5.1.1,y5.1.2,(A.1.1,A.2.1,A.2.2,A.1.2),z.1.1,z.2.1,z.2.2,z.1.2),y5.2))))) U))) U))) U))) U))))
def qY (x:w?):M Hq:=
 SG 1 uf (λz=>z.2.1) (λz=>z.a) (KG 1 (λz R T=>(z.1,z.2.1,R,T,z.a,z.b,z.f)) (λw=>(w.1,(w.2.1,w.2.2.1,w.2.2.2.1,w.2.2.2.2.1),w.2.2.2.2.2.1,w.2.2.2.2.2.2)) (λv t=>[v.1,t,v.2.2.1,v.2.2.2])) x
def ue (x:h!):M (Int×jV×(θ)×(Y eH)×(η)×(η)×Ya25×n!):=
 (aA (iO x.1) λL=>(bT (bh (aj ([]:η)+aj x.2.1) 8) (bT (bh (aj ([]:η)+aj x.a) 8) (bV 0 (bc x.d) (bW fA x.d 0 λz2=>(aA (cF z2) λD=>(bV 1 (bc x.d) (bW fA x.d 1 λz4=>(aA (cF z4) λA=>(bV 2 (bc x.d) (bW fA x.d 2 λz6=>(aA (cF z6) λy7=>(bV 3 (bc x.d) (bW fA x.d 3 λz8=>(aA (cF z8) λz=>(bV 4 (bc x.d) (bW fA x.d 4 λN=>(aA (cF N) λy11=>U)) (Z (L.1,L.2.1,L.a,L.d,(([]:η)++x.2.1),(([]:η)++x.a),((D.1.1,D.2.1,D.2.2,D.1.2),(A.1.1,A.2.1,A.2.2,A.1.2),y7.1.1,y7.1.2,z.1.1,z.2.1,z.2.2,z.1.2),y7.2))))) U))) U))) U))) U))))
def ov (x:w?):M Hq:=
 SG 2 ue (λz=>z.a) (λz=>z.b) (KG 2 (λz R T=>(z.1,z.2.1,z.a,R,T,z.b,z.f)) (λw=>(w.1,w.2.1,(w.2.2.1,w.2.2.2.1,w.2.2.2.2.1,w.2.2.2.2.2.1),w.2.2.2.2.2.2)) (λv t=>[v.1,v.2.1,t,v.2.2.2])) x
def ud (x:h!):M (Int×jV×(θ)×(Y eH)×(η)×(η)×Ya42×n!):=
 (aA (iO x.1) λL=>(bT (bh (aj ([]:η)+aj x.2.1) 8) (bT (bh (aj ([]:η)+aj x.a) 8) (bV 0 (bc x.d) (bW fA x.d 0 λz2=>(aA (cF z2) λD=>(bV 1 (bc x.d) (bW fA x.d 1 λz4=>(aA (cF z4) λA=>(bV 2 (bc x.d) (bW fA x.d 2 λz6=>(aA (cF z6) λz=>(bV 3 (bc x.d) (bW fA x.d 3 λz8=>(aA (cF z8) λy9=>(bV 4 (bc x.d) (bW fA x.d 4 λN=>(aA (cF N) λy11=>U)) (Z (L.1,L.2.1,L.a,L.d,(([]:η)++x.2.1),(([]:η)++x.a),((D.1.1,D.2.1,D.2.2,D.1.2),(A.1.1,A.2.1,A.2.2,A.1.2),(z.1.1,z.2.1,z.2.2,z.1.2),y9.1),y9.2))))) U))) U))) U))) U))))
def mq (x:w?):M Hq:=
 SG 3 ud (λz=>z.b) (λz=>z.f) (KG 3 (λz R T=>(z.1,z.2.1,z.a,z.b,R,T,z.f)) (λw=>(w.1,w.2.1,w.2.2.1,(w.2.2.2.1,w.2.2.2.2.1,w.2.2.2.2.2.1,w.2.2.2.2.2.2))) (λv t=>[v.1,v.2.1,v.2.2.1,t])) x
def De (x:w?):M Hq:=orE (qZ x) (orE (qY x) (orE (ov x) (orE (mq x) (orE (lz x) (orE (kh x) (orE (i_ x) (orE (iy x) (orE (gR x) (gU x)))))))))
def yG (x:Fo×AM×Y ν):M ((Y gA)×h!):=
 (iter (σ:=Int×(Y gA)×Fo×AM×Int) (λA=>(jn (bV A.1 (bc x.2.2) (aI ((gF (bc A.2.1) 400),A.2)) (aI (af,A.2))) λz=>(aJ z.1 (jn (α:=(Y gA)×Fo×AM×Int) (bW fd x.2.2 A.1 λL=>(aA (De (z.a,z.b,L)) λD=>(aJ D.2.2 (bT (bh (aj z.2.1+aj ([D.2.1])) 88) (aI ((z.2.1++([D.2.1])),z.a,D.1,z.f))) (aI z.2)))) λN=>(c8 ((cS A.1),N))) (aI (z.2.1,z.b))))) (0,([]:Y gA),x.1,x.2.1,0))
def F4 (x:Fo×Y ν):M ((eu×Y gA)×h!):=
 (aA (kB x.1) λD=>(aJ (!D) (Z (((([]:Y Ya),([]:Y I!),([]:Y kw),([]:Y ζ),([]:Y ζ),([]:Y π)),([]:Y gA)),(([]:Y j!),0,([]:θ),([]:Y eH)),([]:η),([]:η),([]:Y yc))) (aA (v9 x.1) λA=>(aA (yG (x.1,A,x.2)) λz=>(Z ((x.1.1,z.1),z.2))))))
abbrev M!:=Int×u!
def bH (x:M!):M M!:=
 (jn (jZ (bc x.2.1) x.2.2 (aI (J,x.2)) (aI ((gF x.1 1),x.2))) λz=>(aJ z.1 (Z (0,z.2)) (lt (cS z.2.2) λD=>(bW (.int .u8) z.2.1 (bn .i64 (D-1)) λA=>(bT (!decide ((x.1:Int)=0)) (Z ((C5 (bn .i64 A) x.1),z.2.1,(cS z.2.2))))))))
def tu (x:Int):M (Xp):=
 (Z (eO (1,x,[],([]:Y Xp))))
def qO (x:ζ):M (Xp):=
 (Z (eO (2,0,x,([]:Y Xp))))
def oW (x:Int×Xp×Xp):M (Xp):=
 (Z (eO (x.1,0,[],[eO ((Xp.op x.2.1),(Xp.n x.2.1),(Xp.name x.2.1),(Xp.l x.2.1)),eO ((Xp.op x.2.2),(Xp.n x.2.2),(Xp.name x.2.2),(Xp.l x.2.2))])))
def j9 (x:ζ×Xp):M (Sx):=
 (Z (oY (1,0,x.1,[],([]:Y Xp),eO ((Xp.op x.2),(Xp.n x.2),(Xp.name x.2),(Xp.l x.2)),([]:Y Sx),([]:Y Sx))))
def ur (x:Unit):M zJ:=
 (Z ([(1,0,[120],0,0,[]),(1,0,[121],0,1,[]),(2,0,[118],0,0,[]),(1,0,[113],2,0,[]),(3,0,[109],0,0,[]),(3,0,[110],0,0,[]),(4,0,[114],0,0,[]),(5,0,[99],0,0,[109]),(6,0,[102],0,0,[])]))
def tL (x:η):M (Y ν):=
 (iter (σ:=Int×Y ν) (λz=>(bV z.1 (bc x) (bW (.int .u8) x z.1 λD=>(bW (.int .u8) x z.1 λA=>(bT (bh (aj z.2+aj ([((C5 (bn .i64 D) 4),(bn .i64 ((C5 (bn .i64 (Int.tdiv (bn .i64 A) 4)) 5)-1)))])) 16) (c8 ((cS z.1),(z.2++([((C5 (bn .i64 D) 4),(bn .i64 ((C5 (bn .i64 (Int.tdiv (bn .i64 A) 4)) 5)-1)))]))))))) (aI z.2))) (0,([]:Y ν)))
def yS (rmade_maker_expr:ag4->M ap6) (x:Int×j?):M ap6:=
 (aA (bH (10,x.a)) λy1=>(jn (α:=Bool×Hp×iE×Yb×(Int×Int×ζ)×Y ζ) (bV y1.1 2 (aI (J,x.2.1,y1.2,x.d,(0,0,[]),[[97],[98],[120],[121],[118],[120],[121]])) (bm x.1 0 (aI ((dz 7 y1.1),x.2.1,y1.2,x.d,(0,0,[]),[[97],[98],[120],[121],[118],[120],[121]])) (aI (af,x.2.1,y1.2,x.d,(0,0,[]),[[97],[98],[120],[121],[118],[120],[121]])))) λz=>(aJ z.1 (aA (bH (4,z.a)) λy3=>(aA (tu y3.1) λy4=>(Z (eO ((Xp.op y4),(Xp.n y4),(Xp.name y4),(Xp.l y4)),z.2.1,y3.2,z.b)))) (bV y1.1 7 (aA (bH ((bc z.h),z.a)) λy5=>(kf (.str) z.h y5.1 λz6=>(aA (qO z6) λy7=>(Z (eO ((Xp.op y7),(Xp.n y7),(Xp.name y7),(Xp.l y7)),z.2.1,y5.2,z.b))))) (bm y1.1 7 (aA (rmade_maker_expr (0,z.2.1,z.a,z.b)) λN=>(bT (((z.b.1==N.b)&&J)&&aB (aj z.b.2) (aj N.f)&&J) (Z (eO (3,0,[113],[eO ((Xp.op N.1),(Xp.n N.1),(Xp.name N.1),(Xp.l N.1))]),N.2)))) (aA (bH ((aS (aj ([6,7,8,11,13,17]))),z.a)) λy9=>(kf aP ([6,7,8,11,13,17]) y9.1 λz10=>(aA (rmade_maker_expr ((bn .i64 (x.1-1)),z.2.1,y9.2,z.b)) λA=>(bT (((z.b.1==A.b)&&J)&&aB (aj z.b.2) (aj A.f)&&J) (aA (rmade_maker_expr ((bn .i64 (x.1-1)),A.2)) λL=>(bT (((A.b==L.b)&&J)&&aB (aj A.f) (aj L.f)&&J) (aA (oW (z10,A.1,L.1)) λD=>(Z (eO ((Xp.op D),(Xp.n D),(Xp.name D),(Xp.l D)),L.2))))))))))))))
def mc:Nat->ag4->M ap6
 |0,_=>U
 |n+1,x=>yS (mc n) x
def fG (x:Int×j?):M ap6:=mc fuel x
def fo (x:ζ×j?):M (Bool×j?):=
 (aA (j8 (x.f,x.1)) λz=>(Z ((dz 0 z),x.2)))
def nV (rmade_maker_stmts:ap8->M ag3) (rmade_maker_stmt:ag4->M al8) (rmade_maker_block:ap7->M al9) (x:ν×j?):M ag3:=
 (iter (σ:=Int×Hp×iE×(Y Sx)×Bool×Y ζ) (λA=>(jn (bV A.1 x.1.2 (bm A.1 0 (aI (J,A.2)) (aI ((gF 0 A.2.1.2.1),A.2))) (aI (af,A.2))) λz=>(aJ z.1 (aA (rmade_maker_stmt (x.1.1,z.2.1,z.a,z.f)) λD=>(bT (((z.c==z.c)&&J)&&aB (aj z.h) (aj z.h)&&J) (bT (bh (aj z.b+aj ([eT D.1])) 176) (c8 ((cS A.1),D.2.1,D.a,(z.b++([eT D.1])),D.d))))) (aI (z.2.1,z.a,z.f,z.b))))) (0,x.2.1,x.a,([]:Y Sx),x.d))
abbrev o!:=Bool×Hp×iE×aai×Bool×Y ζ
def pf (rmade_maker_stmts:ap8->M ag3) (rmade_maker_stmt:ag4->M al8) (rmade_maker_block:ap7->M al9) (x:Int×j?):M al8:=
 (aA (bH (18,x.a)) λy1=>(jn (α:=o!) (bV 0 x.1 (lt (bn .i64 (x.2.1.2.1-1)) λz3=>(bV 0 z3 (aI ((!x.2.1.b),(x.2.1.1,(bn .i64 (x.2.1.2.1-1)),x.2.1.2.2),y1.2,(0,0,[],[],0,0,[]),x.d)) (aI (af,(x.2.1.1,(bn .i64 (x.2.1.2.1-1)),x.2.1.2.2),y1.2,(0,0,[],[],0,0,[]),x.d)))) (aI (af,(x.2.1.1,(bn .i64 (x.2.1.2.1-1)),x.2.1.2.2),y1.2,(0,0,[],[],0,0,[]),x.d))) λx2=>(bV y1.1 4 (kf (.str) ([[120],[121],[120],[118]]) y1.1 λz4=>(aA (fG (1,x2.2.1,x2.a,x2.f)) λy5=>(bT (((x2.c==y5.b)&&J)&&aB (aj x2.h) (aj y5.f)&&J) (aA (j9 (z4,y5.1)) λy6=>(Z (eT y6,y5.2)))))) (bm y1.1 4 (aA (bH (2,x2.a)) λy7=>(kf (.str) ([[97],[98]]) y7.1 λz8=>(aA (fG (1,x2.2.1,y7.2,x2.f)) λy9=>(bT (((x2.c==y9.b)&&J)&&aB (aj x2.h) (aj y9.f)&&J) (aA (j9 (z8,y9.1)) λy10=>(Z (eT y10,y9.2))))))) (bm y1.1 5 (aA (fG (0,x2.2.1,x2.a,x2.f)) λy11=>(bT (((x2.c==y11.b)&&J)&&aB (aj x2.h) (aj y11.f)&&J) (aA (fG (1,y11.2)) λy12=>(bT (((y11.b==y12.b)&&J)&&aB (aj y11.f) (aj y12.f)&&J) (Z (oY (1,0,[113],[],[eO ((Xp.op y11.1),(Xp.n y11.1),(Xp.name y11.1),(Xp.l y11.1))],eO ((Xp.op y12.1),(Xp.n y12.1),(Xp.name y12.1),(Xp.l y12.1)),([]:Y Sx),([]:Y Sx)),y12.2)))))) (jn (bm y1.1 6 (aI ((gF 0 x.1),x2.2)) (aI (af,x2.2))) λx13=>(aJ x13.1 (aA (fG (1,x13.2.1,x13.a,x13.f)) λL=>(bT (((x13.c==L.b)&&J)&&aB (aj x13.h) (aj L.f)&&J) (aA (rmade_maker_stmts (((bn .i64 (x.1-1)),1),L.2)) λy15=>(bT (((L.b==L.b)&&J)&&aB (aj L.f) (aj L.f)&&J) (jn (α:=Hp×iE×aai×(Int×Int×(ζ)×(ζ)×Int×Int×(ζ)×Y Xp)×Yb×(Y Sx)×Y Sx) (aA (bH (2,y15.2.1)) λy17=>(bm y17.1 1 (aA (rmade_maker_stmts (((bn .i64 (x.1-1)),1),y15.1,y17.2,y15.a)) λy18=>(bT (((y15.a.1==y15.a.1)&&J)&&aB (aj y15.a.2) (aj y15.a.2)&&J) (aI (y18.1,y18.2.1,x13.b,(2,0,[],[],(Xp.op L.1),(Xp.n L.1),(Xp.name L.1),(Xp.l L.1)),y18.a,y15.d,y18.d)))) (aI (y15.1,y17.2,x13.b,(2,0,[],[],(Xp.op L.1),(Xp.n L.1),(Xp.name L.1),(Xp.l L.1)),y15.a,y15.d,([]:Y Sx))))) λx16=>(Z (oY (x16.b.1,x16.b.2.1,x16.b.a,x16.b.b,([]:Y Xp),eO x16.b.f,x16.h),x16.1,x16.2.1,x16.c))))))) (jn (bm y1.1 7 (aI ((gF 0 x.1),x13.2)) (aI (af,x13.2))) λz=>(aJ z.1 (aA (qO ([98])) λy20=>(aA (tu 2) λy21=>(aA (oW (13,y20,y21)) λy22=>(aA (rmade_maker_stmts (((bn .i64 (x.1-1)),1),(z.2.1.1,z.2.1.2.1,z.2.1.a,z.2.1.b,z.2.1.c,J),z.a,z.f)) λy23=>(bT (((z.c==z.c)&&J)&&aB (aj z.h) (aj z.h)&&J) (aA (qO ([98])) λy24=>(aA (tu 1) λy25=>(aA (oW (6,y24,y25)) λy26=>(aA (j9 ([98],y26)) λy27=>(bT (bh (aj y23.d+aj ([eT y27])) 176) (Z (oY (3,0,[],[],([]:Y Xp),eO ((Xp.op y22),(Xp.n y22),(Xp.name y22),(Xp.l y22)),(y23.d++([eT y27])),([]:Y Sx)),(y23.1.1,y23.1.2.1,y23.1.a,y23.1.b,y23.1.c,z.2.1.h),y23.2.1,y23.a)))))))))))) (jn (α:=o!) (bm y1.1 8 (aJ x2.1 (kf (.str) ([[109],[110]]) (bn .i64 (y1.1-8)) λz29=>(aA (fo (z29,z.2.1,z.a,z.f)) λy30=>(bT (((z.c==y30.b)&&J)&&aB (aj z.h) (aj y30.f)&&J) (aI ((!y30.1),y30.2.1,y30.a,z.b,y30.d))))) (aI (af,z.2))) (bm y1.1 9 (aJ x2.1 (kf (.str) ([[109],[110]]) (bn .i64 (y1.1-8)) λz31=>(aA (fo (z31,z.2.1,z.a,z.f)) λy32=>(bT (((z.c==y32.b)&&J)&&aB (aj z.h) (aj y32.f)&&J) (aI ((!y32.1),y32.2.1,y32.a,z.b,y32.d))))) (aI (af,z.2))) (aI (af,z.2)))) λA=>(aJ A.1 (kf (.str) ([[109],[110]]) (bn .i64 (y1.1-8)) λz33=>(aA (rmade_maker_block ((z33,(bn .i64 (x.1-1))),A.2.1,A.a,A.f)) λy34=>(bT (((A.c==A.c)&&J)&&aB (aj A.h) (aj A.h)&&J) (Z (oY (4,0,z33,[],([]:Y Xp),eO (0,0,[],([]:Y Xp)),y34.1,([]:Y Sx)),y34.2))))) (jn (α:=o!) (bm y1.1 10 (aJ x2.1 (aA (fo ([114],A.2.1,A.a,A.f)) λy36=>(bT (((A.c==y36.b)&&J)&&aB (aj A.h) (aj y36.f)&&J) (aI ((!y36.1),y36.2.1,y36.a,A.b,y36.d)))) (aI (af,A.2))) (bm y1.1 11 (aJ x2.1 (aA (fo ([114],A.2.1,A.a,A.f)) λy37=>(bT (((A.c==y37.b)&&J)&&aB (aj A.h) (aj y37.f)&&J) (aI ((!y37.1),y37.2.1,y37.a,A.b,y37.d)))) (aI (af,A.2))) (aI (af,A.2)))) λx35=>(aJ x35.1 (aA (rmade_maker_block (([114],(bn .i64 (x.1-1))),x35.2.1,x35.a,x35.f)) λy38=>(bT (((x35.c==x35.c)&&J)&&aB (aj x35.h) (aj x35.h)&&J) (Z (oY ((bn .i64 ((bn .i64 (y1.1-10))+5)),0,[114],[],([]:Y Xp),eO (0,0,[],([]:Y Xp)),y38.1,([]:Y Sx)),y38.2)))) (jn (bm y1.1 12 (aI (x2.1,x35.2)) (aI (af,x35.2))) λN=>(aJ N.1 (aA (bH (2,N.a)) λy40=>(aA (rmade_maker_stmts ((0,(bn .i64 (1+y40.1))),(N.2.1.1,N.2.1.2.1,N.2.1.a,J,N.2.1.f),y40.2,N.f)) λy41=>(bT (((N.c==N.c)&&J)&&aB (aj N.h) (aj N.h)&&J) (Z (oY (7,0,[],[],([]:Y Xp),eO (0,0,[],([]:Y Xp)),y41.d,([]:Y Sx)),(y41.1.1,y41.1.2.1,y41.1.a,af,y41.1.f),y41.2.1,y41.a))))) (jn (bm y1.1 13 (aJ x2.1 (aI ((!N.2.1.c),N.2)) (aI (af,N.2))) (aI (af,N.2))) λD=>(aJ D.1 (aA (rmade_maker_stmts (((bn .i64 (x.1-1)),2),(D.2.1.1,D.2.1.2.1,D.2.1.a,D.2.1.b,J,D.2.1.h),D.a,D.f)) λy43=>(bT (((D.c==D.c)&&J)&&aB (aj D.h) (aj D.h)&&J) (Z (oY (8,0,[],[],([]:Y Xp),eO (0,0,[],([]:Y Xp)),y43.d,([]:Y Sx)),(y43.1.1,y43.1.2.1,y43.1.a,y43.1.b,af,y43.1.h),y43.2.1,y43.a)))) (jn (α:=o!) (bm y1.1 14 (aJ x2.1 (aJ (!D.2.1.c) (aA (fo ([109],D.2.1,D.a,D.f)) λy45=>(bT (((D.c==y45.b)&&J)&&aB (aj D.h) (aj y45.f)&&J) (aI ((!y45.1),y45.2.1,y45.a,D.b,y45.d)))) (aI (af,D.2))) (aI (af,D.2))) (aI (af,D.2))) λx44=>(aJ x44.1 (aA (qO ([120])) λy46=>(aA (j9 ([97],y46)) λy47=>(Z (oY (4,0,[109],[],([]:Y Xp),eO (0,0,[],([]:Y Xp)),[oY (9,0,[99],[],([]:Y Xp),eO (0,0,[],([]:Y Xp)),([]:Y Sx),([]:Y Sx)),eT y47],([]:Y Sx)),x44.2.1,x44.a,x44.f)))) (jn (α:=o!) (bm y1.1 15 (aJ x2.1 (aA (fo ([109],x44.2.1,x44.a,x44.f)) λy49=>(bT (((x44.c==y49.b)&&J)&&aB (aj x44.h) (aj y49.f)&&J) (aI ((!y49.1),y49.2.1,y49.a,x44.b,y49.d)))) (aI (af,x44.2))) (aI (af,x44.2))) λx48=>(aJ x48.1 (aA (bH (2,x48.a)) λy50=>(Z (oY (4,0,[109],[],([]:Y Xp),eO (0,0,[],([]:Y Xp)),[oY ((bn .i64 (10+y50.1)),0,[99],[],([]:Y Xp),eO (0,0,[],([]:Y Xp)),([]:Y Sx),([]:Y Sx))],([]:Y Sx)),x48.2.1,y50.2,x48.f))) (jn (bm y1.1 16 (aJ (!x48.2.1.b) (aJ (!x48.2.1.h) (aI ((!x48.2.1.a),x48.2)) (aI (af,x48.2))) (aI (af,x48.2))) (aI (af,x48.2))) λx51=>(aJ x51.1 (aA (fG (1,(x51.2.1.1,x51.2.1.2.1,J,x51.2.1.d),x51.a,x51.f)) λy52=>(bT (((x51.c==y52.b)&&J)&&aB (aj x51.h) (aj y52.f)&&J) (Z (oY (14,0,[102],[],([]:Y Xp),eO ((Xp.op y52.1),(Xp.n y52.1),(Xp.name y52.1),(Xp.l y52.1)),([]:Y Sx),([]:Y Sx)),y52.2)))) (jn (α:=o!) (bm y1.1 17 (aJ (!x51.2.1.b) (aA (bH (2,x51.a)) λy54=>(aI ((decide ((y54.1:Int)=1)),x51.2.1,y54.2,x51.d))) (aI (af,x51.2))) (aI (af,x51.2))) λx53=>(aJ x53.1 (Z (oY (15,0,[97],[102],([]:Y Xp),eO (0,0,[],([]:Y Xp)),([]:Y Sx),([]:Y Sx)),x53.2.1,x53.a,x53.f)) (aA (fG (1,x53.2.1,x53.a,x53.f)) λy55=>(bT (((x53.c==y55.b)&&J)&&aB (aj x53.h) (aj y55.f)&&J) (aA (j9 ([120],y55.1)) λy56=>(Z (eT y56,y55.2))))))))))))))))))))))))))))))
def nW (rmade_maker_stmts:ap8->M ag3) (rmade_maker_stmt:ag4->M al8) (rmade_maker_block:ap7->M al9) (x:kw×j?):M al9:=
 (bT (bh (aj x.f+aj ([x.1.1])) 16) (aA (bH (2,x.a)) λA=>(aA (rmade_maker_stmts ((x.1.2,(bn .i64 (1+A.1))),x.2.1,A.2,x.b,(x.f++([x.1.1])))) λz=>(bT (((x.b==x.b)&&J)&&aB (aj (x.f++([x.1.1]))) (aj (x.f++([x.1.1])))&&J) (bT (dz 0 (bn .i64 ((bc z.a.2)-1))&&gF (bn .i64 ((bc z.a.2)-1)) (aj z.a.2)) (Z (z.d,z.1,z.2.1,af,(dE (aN (bn .i64 ((bc z.a.2)-1))) z.a.2))))))))
mutual
def dY:Nat->ap8->M ag3
 |0,_=>U
 |n+1,x=>nV (dY n) (fh n) (eM n) x
def fh:Nat->ag4->M al8
 |0,_=>U
 |n+1,x=>pf (dY n) (fh n) (eM n) x
def eM:Nat->ap7->M al9
 |0,_=>U
 |n+1,x=>nW (dY n) (fh n) (eM n) x
end
def r7 (x:ν×j?):M ag3:=dY fuel x
abbrev q?:=Hp×zJ×dB×kw×iE×Yb×(Y zI)×dB×Y Sx
def pU (x:η):M A!:=
 (aA (ur ()) λy1=>(aA (bH (3,x,0)) λy2=>(iter (σ:=Int×Hp×zJ×dB×iE×Yb×Y zI) (λD=>(bV D.1 (bn .i64 (2+y2.1)) (kf (.str) D.b D.1 λz4=>(jn (α:=q?) (bm D.1 0 (iter (σ:=Int×q?) (λN=>(bV N.1 (bn .i64 (2+y2.1)) (kf (.str) N.b N.1 λz7=>(bT (bh (aj N.B+aj ([oY (12,0,z7,[],([]:Y Xp),eO (0,0,[],([]:Y Xp)),([]:Y Sx),([]:Y Sx))])) 176) (c8 ((cS N.1),N.2.1,N.a,N.b,N.c,N.e,N.g,N.j,N.m,(N.B++([oY (12,0,z7,[],([]:Y Xp),eO (0,0,[],([]:Y Xp)),([]:Y Sx),([]:Y Sx))])))))) (aI (bZ N.2)))) (1,(D.1,D.2.1.2),D.a,D.b,(z4,0),D.c,D.e,D.k,[[97],[98]],([]:Y Sx))) (aI ((D.1,D.2.1.2),D.a,D.b,(z4,0),D.c,D.e,D.k,[[97],[98]],([]:Y Sx)))) λL=>(aA (bH (3,L.c)) λy8=>(aA (r7 ((2,(bn .i64 (1+y8.1))),L.1,y8.2,L.e)) λy9=>(bT (((L.e.1==L.e.1)&&J)&&aB (aj L.e.2) (aj L.e.2)&&J) (bT (bh (aj L.s+aj y9.d) 176) (jn (α:=q?) (jn (α:=Bool×q?) (bm D.1 0 (aA (bH (3,y9.2.1)) λy12=>(aI ((decide ((y12.1:Int)=2)),y9.1,L.2.1,L.a,L.b,y12.2,y9.a,L.g,L.j,(L.s++y9.d)))) (aI (af,y9.1,L.2.1,L.a,L.b,y9.2.1,y9.a,L.g,L.j,(L.s++y9.d)))) λz=>(aJ z.1 (kf (.str) z.b 1 λz13=>(bT (bh (aj z.B+aj ([oY (13,0,z13,[],([]:Y Xp),eO (0,0,[],([]:Y Xp)),([]:Y Sx),([]:Y Sx))])) 176) (aI (z.2.1,z.a,z.b,z.c,z.e,z.g,z.j,z.m,(z.B++([oY (13,0,z13,[],([]:Y Xp),eO (0,0,[],([]:Y Xp)),([]:Y Sx),([]:Y Sx))])))))) (aI z.2))) λA=>(bT (bh (aj A.g+aj ([(A.b.1,A.b.2,A.p)])) 72) (c8 ((cS D.1),A.1,A.2.1,A.a,A.c,A.e,(A.g++([(A.b.1,A.b.2,A.p)])))))))))))) (aA (aA (gf (D.a,D.k)) λy14=>(jY y14.1 0 (aA (ur ()) λy15=>(aA (tu 1) λy16=>(aA (j9 ([120],y16)) λy17=>(Z (y15,[([109,97,105,110],0,[[97],[98]],[eT y17])]))))) (Z (D.a,D.k)))) λr=>Z (bZ r)))) (0,(0,20,af,af,af,af),y1,[[109,97,105,110],[116,49],[116,50],[116,51]],y2.2,(J,([]:Y ζ)),([]:Y zI)))))
def Am (x:η):M Fo:=
 (aA (pU x) λA=>(aA (rY A) λz=>(Z z.1)))
def xm (x:J!):M x?:=
 (aA (Am x.1) λD=>(aA (tL x.2) λA=>(aA (F4 (D,A)) λz=>(Z z.1))))
def oM (x:Unit):M eu:=
 (iter (σ:=G!) (λA=>(bV A.1 (aS (aj ([[109,97,105,110],[116,49],[116,50],[116,51]]))) (iter (σ:=G!) (λz=>(bV z.1 6 (bT (bh (aj z.k+aj ([(A.1,z.1,(bn .i64 ((bn .i64 ((bn .i64 (10*A.1))+z.1))+1)))])) 24) (c8 ((cS z.1),z.2.1,z.a,z.b,z.c,z.e,(z.k++([(A.1,z.1,(bn .i64 ((bn .i64 ((bn .i64 (10*A.1))+z.1))+1)))]))))) (aI (li ((cS A.1),z.2))))) (0,A.2)) (aI A.2))) (0,[([120],0,0,af,0),([121],0,0,af,1),([118],0,0,J,0),([113],0,2,af,0),([113],1,2,af,0)],[([109],af),([110],af),([114],J)],[([99],0)],[[102]],[[109,97,105,110],[116,49],[116,50],[116,51]],([]:Y π)))
def oh (x:U?):M η:=
 (iter (σ:=j!) (λz=>(bV z.1 (bc x.1.d) (jn (α:=η) (bW iD x.1.d z.1 λA=>(bm A.1 3 (bT (bh (aj z.2+aj ([z.1])) 8) (aI (z.2++([z.1])))) (aI z.2))) λD=>(c8 ((cS z.1),D))) (aI z.2))) (0,([]:η)))
def vq (x:Unit):M η:=
 (Z ([3,3,3,3,3,4,4,4,4,4,5,5,5,6,6,6,7,7,7,8,9,10,11,12,13,14,14,15,16,16,17,17,18,18,19,20,1,1,2,21,22,23,23]))
def pO (x:ν×u!):M M!:=
 (jn (bm x.1.1 3 (aI ((decide ((x.1.1:Int)=3)),x.2)) (aI ((decide ((x.1.1:Int)=4)),x.2))) λL=>(aJ L.1 (aA (bH (8,L.2)) λy2=>(kf aP ([0,0,0,1,1,2,3,4]) y2.1 λz3=>(Z (z3,y2.2)))) (jn (bm x.1.1 6 (aI ((decide ((x.1.1:Int)=6)),L.2)) (aI ((decide ((x.1.1:Int)=7)),L.2))) λA=>(aJ A.1 (aA (bH (2,A.2)) λy5=>(Z y5)) (jn (bm x.1.1 8 (aI ((decide ((x.1.1:Int)=8)),A.2)) (bm x.1.1 9 (aI ((decide ((x.1.1:Int)=9)),A.2)) (bm x.1.1 10 (aI ((decide ((x.1.1:Int)=10)),A.2)) (aI ((decide ((x.1.1:Int)=11)),A.2))))) λz=>(aJ z.1 (Z (2,z.2)) (jn (bm x.1.1 16 (aI ((decide ((x.1.1:Int)=16)),z.2)) (bm x.1.1 17 (aI ((decide ((x.1.1:Int)=17)),z.2)) (bm x.1.1 18 (aI ((decide ((x.1.1:Int)=18)),z.2)) (bm x.1.1 19 (aI ((decide ((x.1.1:Int)=19)),z.2)) (bm x.1.1 22 (aI ((decide ((x.1.1:Int)=22)),z.2)) (aI ((decide ((x.1.1:Int)=23)),z.2))))))) λD=>(aJ D.1 (Z (0,D.2)) (jn (bm x.1.1 20 (aI ((decide ((x.1.1:Int)=20)),D.2)) (aI ((decide ((x.1.1:Int)=21)),D.2))) λN=>(aJ N.1 (aA (bH (3,N.2)) λy9=>(Z ((C5 (bn .i64 ((cS x.1.2)+y9.1)) 4),y9.2))) (Z ((-1),N.2))))))))))))
def rO (x:(kc×Int×Int)×u!):M M!:=
 (bm x.1.2.1 3 (bW aP x.1.1.2.1 x.1.2.2 λz1=>(Z (z1,x.2))) (bm x.1.2.1 23 (bW aP x.1.1.a 0 λN=>(Z (N,x.2))) (jn (bm x.1.2.1 4 (aI ((decide ((x.1.2.1:Int)=4)),x.2,x.1.1)) (aI ((decide ((x.1.2.1:Int)=22)),x.2,x.1.1))) λz=>(aJ z.1 (aA (bH (3,z.2.1)) λy4=>(Z y4)) (bm x.1.2.1 5 (aA (bH (2,z.2.1)) λy5=>(Z y5)) (bm x.1.2.1 18 (aA (oh z.2.2) λA=>(bV 0 (bc A) (aA (bH ((bc A),z.2.1)) λD=>(bW aP A D.1 λL=>(Z (L,D.2)))) (Z ((-1),z.2.1)))) (bm x.1.2.1 19 (aA (oh z.2.2) λy9=>(Z ((bc y9),z.2.1))) (Z (0,z.2.1)))))))))
def iv (x:iE×η):M (η×iE×η):=
 (iter (σ:=Int×iE×Q!) (λz=>(bV z.1 (bc x.2) (jn (α:=iE×Q!) (kf aP z.a z.1 λD=>(jn (α:=Bool×iE×Q!) (jZ (bc z.a) (bn .i64 (z.1+3)) (aA (bH (2,z.2.1)) λL=>(aI ((decide ((L.1:Int)=1)),L.2,z.2.2))) (aI (af,z.2))) λA=>(aJ A.1 (bT (bh (aj A.d+aj ([D])) 8) (aI (A.2.1,A.a,(A.d++([D]))))) (aI A.2)))) λN=>(c8 ((cS z.1),N))) (aI (z.d,z.2.1,z.a)))) (0,x.1,x.2,([]:η)))
abbrev G?:=iE×(η)×(η)×(η)×(η)×kc×eu×Hr×Int×t?
def rP (x:(kc×oH×nM×(Y kw)×dB×dB×Y π)×iE×(η)×f?):M (gA×iE×(η)×f?):=
 (aA (bH (4,x.2.1)) λL=>(aA (vq ()) λy2=>(aA (bH ((bc y2),L.2)) λy3=>(bW aP y2 y3.1 λz4=>(aA (bH (6,y3.2)) λy5=>(jn (α:=G?) (jn (α:=Bool×G?) (bm z4 1 (aI (J,y5.2,x.a,x.b,x.c,x.h,x.1.1,x.1.2,(0,0,0,0,0),L.1,z4,0,0,(bn .i64 ((bn .i64 (L.1*6))+y5.1)))) (aI ((decide ((z4:Int)=2)),y5.2,x.a,x.b,x.c,x.h,x.1.1,x.1.2,(0,0,0,0,0),L.1,z4,0,0,(bn .i64 ((bn .i64 (L.1*6))+y5.1))))) λN=>(aJ N.1 (aI (N.2.1,N.a,N.b,N.c,N.e,N.g,N.j,N.m,N.o,N.l,N.n,N.i,(-1))) (aI N.2))) λD=>(aA (pO ((D.o,L.1),D.1)) λy8=>(aA (rO ((D.e,D.o,y8.1),y8.2)) λy9=>(jn (α:=iE×(η)×(η)×(η)×(η)×Hr×Int×Int×Int×Int×j!) (jn (bm D.o 5 (aI (J,y9.2,D.2.1,D.a,D.b,D.c,D.j,D.m,D.o,y8.1,y9.1,D.z)) (bm D.o 3 (bW lL D.g.1 y8.1 λz12=>(aI ((gF 0 z12.2.2.1),y9.2,D.2.1,D.a,D.b,D.c,D.j,D.m,D.o,y8.1,y9.1,D.z))) (bm D.o 4 (bW lL D.g.1 y8.1 λz13=>(aI ((gF 0 z13.2.2.1),y9.2,D.2.1,D.a,D.b,D.c,D.j,D.m,D.o,y8.1,y9.1,D.z))) (aI (af,y9.2,D.2.1,D.a,D.b,D.c,D.j,D.m,D.o,y8.1,y9.1,D.z))))) λA=>(aJ A.1 (bm L.1 0 (aA (iv (A.2.1,A.a)) λy14=>(bT (aB (aj A.a) (aj y14.2.2)&&J) (aI (y14.2.1,y14.2.2,A.b,A.c,A.e,A.g,A.j,A.m,A.o,A.l,A.v,y14.1)))) (bm L.1 1 (aA (iv (A.2.1,A.b)) λy15=>(bT (aB (aj A.b) (aj y15.2.2)&&J) (aI (y15.2.1,A.a,y15.2.2,A.c,A.e,A.g,A.j,A.m,A.o,A.l,A.v,y15.1)))) (bm L.1 2 (aA (iv (A.2.1,A.c)) λy16=>(bT (aB (aj A.c) (aj y16.2.2)&&J) (aI (y16.2.1,A.a,A.b,y16.2.2,A.e,A.g,A.j,A.m,A.o,A.l,A.v,y16.1)))) (bm L.1 3 (aA (iv (A.2.1,A.e)) λy17=>(bT (aB (aj A.e) (aj y17.2.2)&&J) (aI (y17.2.1,A.a,A.b,A.c,y17.2.2,A.g,A.j,A.m,A.o,A.l,A.v,y17.1)))) U)))) (aI (A.2.1,A.a,A.b,A.c,A.e,A.g,A.j,A.m,A.o,A.l,A.v,([]:η))))) λx10=>(jn (α:=iE×(η)×(η)×(η)×(η)×Hr×b!) (jn (bm x10.j 4 (aI (J,x10)) (aI ((decide ((x10.j:Int)=22)),x10))) λz=>(aJ z.1 (bm L.1 0 (aA (iv (z.2.1,z.a)) λy20=>(bT (aB (aj z.a) (aj y20.2.2)&&J) (aI (y20.2.1,y20.2.2,z.b,z.c,z.e,z.g,z.j,z.m,z.o,z.l,z.n,z.z,y20.1)))) (bm L.1 1 (aA (iv (z.2.1,z.b)) λy21=>(bT (aB (aj z.b) (aj y21.2.2)&&J) (aI (y21.2.1,z.a,y21.2.2,z.c,z.e,z.g,z.j,z.m,z.o,z.l,z.n,z.z,y21.1)))) (bm L.1 2 (aA (iv (z.2.1,z.c)) λy22=>(bT (aB (aj z.c) (aj y22.2.2)&&J) (aI (y22.2.1,z.a,z.b,y22.2.2,z.e,z.g,z.j,z.m,z.o,z.l,z.n,z.z,y22.1)))) (bm L.1 3 (aA (iv (z.2.1,z.e)) λy23=>(bT (aB (aj z.e) (aj y23.2.2)&&J) (aI (y23.2.1,z.a,z.b,z.c,y23.2.2,z.g,z.j,z.m,z.o,z.l,z.n,z.z,y23.1)))) U)))) (aI (z.2.1,z.a,z.b,z.c,z.e,z.g,z.j,z.m,z.o,z.l,z.n,z.z,([]:η))))) λx18=>(Z (x18.k,x18.1,x18.2.1,x18.a,x18.b,x18.c))))))))))))
abbrev k?:=iE×kc×eu×(η)×f?
abbrev T?:=iE×kc×eu×(Y gA)×(η)×f?
abbrev W!:=Bool×k?
def t_ (x:(kc×eu×Int×Bool)×u!):M ((Y gA)×u!):=
 (bT (dz 0 (bc x.1.2.1.c)&&dz (bc x.1.2.1.c) (bc x.1.2.1.c)&&bh (aN (bc x.1.2.1.c)) 24&&decide (((bc x.1.2.1.c):Int)=4)) (jn (α:=k?) (bV 0 (aS 4) (jn (α:=k?) (jn (α:=W!) (aJ x.1.d (bW aP x.1.1.d 0 λz4=>(bV 1 z4 (aA (bH (3,x.2)) λy5=>(aI ((decide ((y5.1:Int)=2)),y5.2,x.1.1,x.1.2.1,([]:η),([]:η),([]:η),([]:η)))) (aI (af,x.2,x.1.1,x.1.2.1,([]:η),([]:η),([]:η),([]:η))))) (aI (af,x.2,x.1.1,x.1.2.1,([]:η),([]:η),([]:η),([]:η)))) λx3=>(aJ x3.1 (bT (bh (aj x3.c+aj ([1])) 8) (aI (x3.2.1,x3.a,x3.b,(x3.c++([1])),x3.h))) (aI x3.2))) λx2=>(bV 1 (aS 4) (jn (α:=k?) (jn (α:=W!) (aJ x.1.d (bW aP x2.2.1.d 1 λz8=>(bV 1 z8 (aA (bH (3,x2.1)) λy9=>(aI ((decide ((y9.1:Int)=2)),y9.2,x2.2))) (aI (af,x2)))) (aI (af,x2))) λx7=>(aJ x7.1 (bT (bh (aj x7.e+aj ([1])) 8) (aI (x7.2.1,x7.a,x7.b,x7.c,(x7.e++([1])),x7.k))) (aI x7.2))) λx6=>(bV 2 (aS 4) (jn (α:=k?) (jn (α:=W!) (aJ x.1.d (bW aP x6.2.1.d 2 λz12=>(bV 1 z12 (aA (bH (3,x6.1)) λy13=>(aI ((decide ((y13.1:Int)=2)),y13.2,x6.2))) (aI (af,x6)))) (aI (af,x6))) λN=>(aJ N.1 (bT (bh (aj N.g+aj ([1])) 8) (aI (N.2.1,N.a,N.b,N.c,N.e,(N.g++([1])),N.p))) (aI N.2))) λx10=>(bV 3 (aS 4) (jn (α:=k?) (jn (α:=W!) (aJ x.1.d (bW aP x10.2.1.d 3 λz16=>(bV 1 z16 (aA (bH (3,x10.1)) λy17=>(aI ((decide ((y17.1:Int)=2)),y17.2,x10.2))) (aI (af,x10)))) (aI (af,x10))) λL=>(aJ L.1 (bT (bh (aj L.p+aj ([1])) 8) (aI (L.2.1,L.a,L.b,L.c,L.e,L.g,(L.p++([1]))))) (aI L.2))) λx14=>(bV 4 (aS 4) (jn (α:=k?) (jn (α:=W!) (aJ x.1.d (bW aP x14.2.1.d 4 λz20=>(bV 1 z20 (aA (bH (3,x14.1)) λy21=>(aI ((decide ((y21.1:Int)=2)),y21.2,x14.2))) (aI (af,x14)))) (aI (af,x14))) λx19=>(aJ x19.1 U (aI x19.2))) λx18=>U) (aI x14))) (aI x10))) (aI x6))) (aI x2))) (aI (x.2,x.1.1,x.1.2.1,([]:η),([]:η),([]:η),([]:η)))) λx1=>(iter (σ:=T?) (λx22=>(jn (bV (bc x22.b) x.1.a (aI ((gF x22.1.2 (bc x22.1.1)),x22)) (aI (af,x22))) λA=>(aJ A.1 (jn (α:=T?) (aA (rP ((A.a,A.b),A.2.1,A.h)) λD=>(bT (aB (aj A.s) (aj D.h)&&(aB (aj A.j) (aj D.c)&&(aB (aj A.g) (aj D.b)&&(aB (aj A.e) (aj D.a)&&J)))) (aA (s5 (A.b,A.a,D.1)) λy26=>(aJ (!y26.2) (aI (D.2.1,A.a,A.b,A.c,D.2.2)) (jn (α:=iE×kc×eu×(Y gA)×gA×kc×(η)×f?) (jn (bm D.1.2.1 3 (aI (J,D.2.1,A.a,A.b,A.c,D.1,y26.1,D.2.2)) (aI ((decide ((D.1.2.1:Int)=23)),D.2.1,A.a,A.b,A.c,D.1,y26.1,D.2.2))) λz=>(aJ z.1 (bm z.e.1 0 (bW aP z.a.d 0 λz29=>(bT (bh (aj z.j+aj ([z29])) 8) (aI (z.2.1,z.a,z.b,z.c,(0,z.e.2),z.g,(z.j++([z29])),z.s)))) (bm z.e.1 1 (bW aP z.a.d 1 λz30=>(bT (bh (aj z.m+aj ([z30])) 8) (aI (z.2.1,z.a,z.b,z.c,(1,z.e.2),z.g,z.j,(z.m++([z30])),z.B)))) (bm z.e.1 2 (bW aP z.a.d 2 λz31=>(bT (bh (aj z.o+aj ([z31])) 8) (aI (z.2.1,z.a,z.b,z.c,(2,z.e.2),z.g,z.j,z.m,(z.o++([z31])),z.w)))) (bm z.e.1 3 (bW aP z.a.d 3 λz32=>(bT (bh (aj z.w+aj ([z32])) 8) (aI (z.2.1,z.a,z.b,z.c,(3,z.e.2),z.g,z.j,z.m,z.o,(z.w++([z32])))))) U)))) (aI z.2))) λx27=>(bT (bh (aj x27.b+aj ([x27.c])) 88) (aI (x27.1,x27.e,x27.a,(x27.b++([x27.c])),x27.k)))))))) λx24=>(c8 x24)) (aI (A.c,A.2.1))))) (x1.1,x1.2.1,x1.a,([]:Y gA),x1.d))))
abbrev X?:=iE×eu×kc×(Y gA)×Y gA
def rQ (x:n?):M x?:=
 (jn (bV 600 (bc x.1) (bT (dz 0 600&&dz 600 (aj x.1)) (aI (dE (aN 600) x.1))) (aI x.1)) λx1=>(aA (oM ()) λy2=>(aA (ou y2) λy3=>(aA (bH (3,x1,0)) λy4=>(iter (σ:=Int×iE×eu×kc×Y gA) (λA=>(jZ A.1 (bn .i64 (1+y4.1)) (bT (bh (aj A.f+aj ([(0,20,A.1,0,0,([]:η),([]:η)),(A.1,1,(-1),0,(-1),([]:η),([]:η))])) 88) (c8 ((cS A.1),A.2.1,A.a,A.b,(A.f++([(0,20,A.1,0,0,([]:η),([]:η)),(A.1,1,(-1),0,(-1),([]:η),([]:η))]))))) (aA (iter (σ:=Int×X?) (λz=>(bV z.1 (bc A.f) (jn (α:=X?) (kf fV z.c z.1 λL=>(aA (s5 (z.a,z.b,L)) λy9=>(aJ y9.2 (bT (bh (aj z.h+aj ([L])) 88) (aI (z.2.1,z.a,y9.1,z.c,(z.h++([L]))))) (aI z.2)))) λx7=>(c8 ((cS z.1),x7))) (aA (aA (t_ ((z.b,z.a,(Kz (m7 x.2 0) 60),af),z.2.1)) λD=>(bT (bh (aj z.h+aj D.1) 88) (aA (v8 (z.a,(z.h++D.1))) λy11=>(jY y11.2 0 (aA (oM ()) λN=>(Z (N,([]:Y gA)))) (Z (z.a,(z.h++D.1))))))) λr=>Z (bZ r)))) (0,A.2.1,A.a,A.b,A.f,([]:Y gA))) λr=>Z (bZ r)))) (1,y4.2,y2,y3,[(0,1,(-1),0,(-1),([]:η),([]:η))]))))))
def oN (x:(η×(η)×η)×Int):M x?:=
 (bV 0 (bc x.1.2.2) (aA (rQ (x.1.2.2,x.2)) λA=>(Z A)) (bT (dz 0 (Kz (bc x.1.2.1) x.2)&&dz (Kz (bc x.1.2.1) x.2) (aj x.1.2.1)) (aA (xm (x.1.1,(dE (aN (Kz (bc x.1.2.1) x.2)) x.1.2.1))) λz=>(Z z))))
def Ok (o:M R) (Q:R->Prop):Prop:=∃y,o=Z y/\Q y
def Ok.mono {o:M R} {Q Q':R->Prop} (h:Ok o Q) (z:∀y,Q y->Q' y):Ok o Q':=by let⟨y,h1,A⟩:=h;exact⟨y,h1,z y A⟩
def ak {y:R} {Q:R->Prop} (h:Q y):Ok (Z y) Q:=⟨y,rfl,h⟩
def awn {o:M R} {y:R} {Q:R->Prop} (e:o=Z y) (h:Q y):Ok o Q:=⟨y,e,h⟩
def bl {k:M R} {Q:R->Prop} (h:b=J) (z:Ok k Q):Ok (chk b λ_=>k) Q:=by subst h;exact z
def aQ {t f:M R} {Q:R->Prop} (ht:b=J->Ok t Q) (hf:b=af->Ok f Q):Ok (aJ b t f) Q:=by
 cases b with
 |true=>exact ht rfl
 |false=>exact hf rfl
def qU {t f:M R} {Q:R->Prop} (h:b=J) (ht:Ok t Q):Ok (aJ b t f) Q:=by subst h;exact ht
def jI {t f:M R} {Q:R->Prop} (h:b=af) (hf:Ok f Q):Ok (aJ b t f) Q:=by subst h;exact hf
def aw {α:Type} {o:M α} {k:α->M R} {P:α->Prop} {Q:R->Prop} (h:Ok o P) (A:∀x,P x->Ok (k x) Q):Ok (aA o k) Q:=by
 obtain⟨x,rfl,z⟩:=h;exact A x z
def aX {α:Type} {o:M α} {k:α->M R} {x:α} {Q:R->Prop} (h:o=Z x) (z:Ok (k x) Q):Ok (aA o k) Q:=by subst h;exact z
def aT {α:Type} {x:α} {k:α->M R} {Q:R->Prop} (h:Ok (k x) Q):Ok (lt x k) Q:=h
def aV {α:Type} {o:M (R⊕α)} {k:α->M R} {Q:R->Prop} (P:α->Prop) (h:Ok o λr=>match r with|.inl r=>Q r|.inr x=>P x) (A:∀x,P x->Ok (k x) Q):Ok (jn o k) Q:=by
 obtain⟨r,rfl,z⟩:=h;cases r with
 |inl r=>exact⟨r,rfl,z⟩
 |inr x=>exact A x z
def gQ {α:Type} {o:M (R⊕α)} {k:α->M R} {Q:R->Prop} (h:Ok o λr=>match r with|.inl r=>Q r|.inr x=>Ok (k x) Q):Ok (jn o k) Q:=aV (λx=>Ok (k x) Q) h λ_ h=>h
def an5 {α:Type} {a b:α} {r:M R} {Q:R->Prop} (e:a=b) (h:Ok r Q):Ok (same a b r) Q:=by unfold same;rw[aF e];exact h
def qi {σ:Type} {f:σ->M (σ⊕R)} {Q:R->Prop} (μ:σ->Nat) (I:σ->Prop) (h:∀x,I x->Ok (f x) λr=>match r with|.inl y=>I y/\μ y<μ x|.inr r=>Q r) {x:σ} (A:I x):Ok (iter f x) Q:=by
 have key:∀n x,μ x<n->I x->∃m r,iterN f m x=Z r/\Q r:=by
  intro n;induction n with
  |zero=>intro x hm;omega
  |succ n D=>
   intro x hm A;let⟨r,h1,z⟩:=h x A;cases r with
   |inl y=>
    let⟨m,r,N,L⟩:=D y (by omega) z.1;exact⟨m+1,r,by rw[iterN,h1];exact N,L⟩
   |inr r=>exact⟨1,r,by rw[iterN,h1],z⟩
 let⟨m,r,h1,z⟩:=key (μ x+1) x (n_ _) A;exact⟨r,BZ h1,z⟩
def bR {σ:Type} {f:σ->M (σ⊕R)} {Q:R->Prop} (n:Nat) (I:Nat->σ->Prop) (h0:∀i x,i<n->I i x->Ok (f x) λr=>match r with|.inl y=>I (i+1) y|.inr r=>Q r) (h1:∀x,I n x->Ok (f x) λr=>match r with|.inl _=>False|.inr r=>Q r) {x:σ} (D:I 0 x):Ok (iter f x) Q:=by
 have key:∀m i x,i+m=n->I i x->∃k r,iterN f k x=Z r/\Q r:=by
  intro m;induction m with
  |zero=>
   intro i x hi D;have:i=n:=by omega
   subst this;let⟨r,A,z⟩:=h1 x D;cases r with
   |inl y=>exact z.elim
   |inr r=>exact⟨1,r,by rw[iterN,A],z⟩
  |succ m L=>
   intro i x hi D;let⟨r,A,z⟩:=h0 i x (by omega) D;cases r with
   |inl y=>
    let⟨k,r,g3,N⟩:=L (i+1) y (by omega) z;exact⟨k+1,r,by rw[iterN,A];exact g3,N⟩
   |inr r=>exact⟨1,r,by rw[iterN,A],z⟩
 let⟨m,r,A,z⟩:=key n 0 x (by omega) D;exact⟨r,BZ A,z⟩
def itQ {σ:Type} (f:σ->M (σ⊕R)) (Q:R->Prop):σ⊕R->Prop
 |.inl y=>Ok (iter f y) Q
 |.inr r=>Q r
def jnQ {α:Type} (k:α->M R) (Q:R->Prop):R⊕α->Prop
 |.inl r=>Q r
 |.inr x=>Ok (k x) Q
def an4 {σ:Type} {f:σ->M (σ⊕R)} {x:σ} {Q:R->Prop} (h:Ok (f x) (itQ f Q)):Ok (iter f x) Q:=by
 let⟨r,h1,D⟩:=h;cases r with
 |inr r=>exact⟨r,BZ (n:=1) (by rw[iterN,h1]),D⟩
 |inl y=>
  let⟨z,A,L⟩:=D;unfold iter at A;split at A
  .exact⟨z,BZ (n:=_+1) (by rw[iterN,h1];exact A),L⟩
  .cases A
def abr {σ:Type} {f:σ->M (σ⊕R)} {y:σ} {Q:R->Prop} (h:Ok (iter f y) Q):Ok (Z (.inl y)) (itQ f Q):=⟨_,rfl,h⟩
def abq {σ:Type} {f:σ->M (σ⊕R)} {r:R} {Q:R->Prop} (h:Ok (Z r) Q):Ok (Z (.inr r)) (itQ f Q):=by
 let⟨_,h1,z⟩:=h;cases h1;exact⟨_,rfl,z⟩
def abo {α:Type} {o:M (R⊕α)} {k:α->M R} {Q:R->Prop} (h:Ok o (jnQ k Q)):Ok (jn o k) Q:=by
 obtain⟨r,rfl,z⟩:=h;cases r with
 |inl r=>exact⟨r,rfl,z⟩
 |inr x=>exact z
def abp {α:Type} {r:R} {k:α->M R} {Q:R->Prop} (h:Ok (Z r) Q):Ok (Z (.inl r)) (jnQ k Q):=by
 let⟨_,h1,z⟩:=h;cases h1;exact⟨_,rfl,z⟩
def abn {α:Type} {x:α} {k:α->M R} {Q:R->Prop} (h:Ok (k x) Q):Ok (Z (.inr x)) (jnQ k Q):=⟨_,rfl,h⟩
def oQ {α:Type} (k:α->M R) (Q:R->Prop) (x:α):Prop:=Ok (k x) Q
def Rp {α:Type} {o:M α} {k:α->M R} {Q:R->Prop} (h:Ok o (oQ k Q)):Ok (aA o k) Q:=aw h λ_ h=>h
def Vw {α:Type} {x:α} {k:α->M R} {Q:R->Prop} (h:Ok (k x) Q):Ok (Z x) (oQ k Q):=⟨_,rfl,h⟩
variable {a:Int}
def LG :dN a i=J↔0<=a/\a<i:=by simp[dN,dz,gF]
def LH {b:Int}:dz a b=J↔a<=b:=by simp[dz]
def r_ {b:Int}:gF a b=J↔a<b:=by simp[gF]
def ji {b:Int}:gF a b=af↔b<=a:=by simp[gF]
def m8 {b:Int}:dz a b=af↔b<a:=by simp[dz]
def aec :bh i j=J↔i<=1099511627776/\i*j<=1099511627776:=by simp[bh]
def cI {o:M R} {v:R} (h:Ok o (·=v)):o=Z v:=by let⟨y,h1,z⟩:=h;rw[h1,z]
section steps
variable {R:Type} {k t f:M R} {Q:R->Prop}
def aR (h0:0<=a) (h1:a<i) (z:Ok k Q):Ok (chk (dN a i) λ_=>k) Q:=bl (LG.2 ⟨h0,h1⟩) z
def bG (h0:i<=1073741824) (h1:j<=1024) (z:Ok k Q):Ok (chk (bh i j) λ_=>k) Q:=
 bl (aec.2 ⟨by omega,dc (Nat.mul_le_mul h0 h1) (by omega)⟩) z
def a! {i j:Nat} (d:Ok k Q) (h:i<=1073741824:=by first|omega|(simp;omega)|(dsimp only;omega)) (g:j<=1024:=by omega):Ok (chk (bh i j) λ_=>k) Q:=bG h g d
def cE {a:Bool} (h:Ok (chk a λ_=>chk b λ_=>k) Q):Ok (chk (a&&b) λ_=>k) Q:=by
 cases a with
 |true=>exact h
 |false=>let⟨y,h,_⟩:=h;cases h
def dh {b:Int} (h:a<=b) (z:Ok k Q):Ok (chk (dz a b) λ_=>k) Q:=bl (LH.2 h) z
def a? {a b:Int} (d:Ok k Q) (h:a<=b:=by first|omega|(simp;omega)|(dsimp only;omega)):Ok (chk (dz a b) λ_=>k) Q:=dh h d
def Db {b:Int} (h:a<b) (z:Ok k Q):Ok (chk (gF a b) λ_=>k) Q:=bl (r_.2 h) z
def abs {p:Prop} {i:Decidable p} (h:p) (z:Ok k Q):Ok (chk (decide p) λ_=>k) Q:=bl (a8 h) z
def BT {p:Prop} {i:Decidable p} (h:¬p) (z:Ok k Q):Ok (chk (!decide p) λ_=>k) Q:=bl (by simp[h]) z
def jH (h:i=j) (z:Ok k Q):Ok (chk (aB i j) λ_=>k) Q:=bl (by subst h;exact gw i) z
def vV (z:Ok k Q):Ok (chk J λ_=>k) Q:=z
def bQ {b:Int} (ht:a<b->Ok t Q) (hf:b<=a->Ok f Q):Ok (aJ (gF a b) t f) Q:=aQ (λh=>ht (r_.1 h)) (λh=>hf (ji.1 h))
def eh {b:Int} (ht:a<=b->Ok t Q) (hf:b<a->Ok f Q):Ok (aJ (dz a b) t f) Q:=aQ (λh=>ht (LH.1 h)) (λh=>hf (m8.1 h))
def aK {p:Prop} {i:Decidable p} (ht:p->Ok t Q) (hf:¬p->Ok f Q):Ok (aJ (decide p) t f) Q:=aQ (λh=>ht (bJ h)) (λh=>hf (YA h))
def cj {p:Prop} {i:Decidable p} (ht:¬p->Ok t Q) (hf:p->Ok f Q):Ok (aJ (!decide p) t f) Q:=aQ (λh=>ht (by simpa using h)) (λh=>hf (by simpa using h))
def dK (ht:b=af->Ok t Q) (hf:b=J->Ok f Q):Ok (aJ (!b) t f) Q:=aQ (λh=>ht (by simpa using h)) (λh=>hf (by simpa using h))
def FU (ht:Ok t Q):Ok (aJ J t f) Q:=ht
def kg (hf:Ok f Q):Ok (aJ af t f) Q:=hf
def bF (z:Ok k Q) (h0:0<=a:=by first|omega|(dsimp only;omega)) (h1:a<i:=by first|omega|(dsimp only;omega)):Ok (chk (dN a i) λ_=>k) Q:=aR h0 h1 z
def cU {b:Int} (ht:Ok t Q) (h:a<b:=by first|omega|(dsimp only[ay];omega)):Ok (aJ (gF a b) t f) Q:=bQ (λ_=>ht) λg=>bC h (AU.2 g)
def cO {b:Int} (hf:Ok f Q) (h:b<=a:=by first|omega|(dsimp only[ay];omega)):Ok (aJ (gF a b) t f) Q:=bQ (λg=>bC g (AU.2 h)) λ_=>hf
end steps
def tY:(∀(p:Prop) [Decidable p],(decide p=J)=p)/\(∀p:Prop,(True\/p)=True)/\(∀p:Prop,(p\/True)=True)/\(∀p:Prop,(True->p)=p)/\(∀p:Prop,(True/\p)=p)/\∀p:Prop,(p/\True)=p:=⟨λ_=>bS,true_or,or_true,λ_=>true_implies _,true_and,and_true⟩
def Rg:(∀i:Decidable True,@decide True i=J)/\(∀i:Decidable False,@decide False i=af)/\(∀{R:Type} (t f:M R),aJ J t f=t)/\(∀{R:Type} (t f:M R),aJ af t f=f)/\(∀{α R:Type} (x:α) (k:α->M R),jn (Z (.inr x)) k=k x)/\(∀{α R:Type} (r:R) (k:α->M R),jn (Z (.inl r)) k=Z r)/\(∀{α R:Type} (x:α) (k:α->M R),aA (Z x) k=k x)/\(∀{α R:Type} (x:α) (k:α->M R),lt x k=k x)/\(!J)=af/\(!af)=J:=⟨decide_true,decide_false,λ_ _=>rfl,λ_ _=>rfl,λ_ _=>rfl,λ_ _=>rfl,λ_ _=>rfl,λ_ _=>rfl,rfl,rfl⟩
structure IM (p q:Prop):Prop where
 h:p->q
inductive OS {R:Type}:Option R->(R->Prop)->Prop where
 |cand {a b:Bool} {k:Option R} {Q:R->Prop} (h:Ok (chk a λ_=>chk b λ_=>k) Q):OS (chk (a&&b) λ_=>k) Q
 |dN {j:Int} {n:Nat} {k:Option R} {Q:R->Prop} (h0:0<=j) (h1:j<n) (hk:Ok k Q):OS (chk (dN j n) λ_=>k) Q
 |room {n b:Nat} {k:Option R} {Q:R->Prop} (h0:n<=1073741824) (h1:b<=1024) (hk:Ok k Q):OS (chk (bh n b) λ_=>k) Q
 |cile {a b:Int} {k:Option R} {Q:R->Prop} (h:a<=b) (hk:Ok k Q):OS (chk (dz a b) λ_=>k) Q
 |cilt {a b:Int} {k:Option R} {Q:R->Prop} (h:a<b) (hk:Ok k Q):OS (chk (gF a b) λ_=>k) Q
 |cdec {p:Prop} {i:Decidable p} {k:Option R} {Q:R->Prop} (h:p) (hk:Ok k Q):OS (chk (decide p) λ_=>k) Q
 |cndec {p:Prop} {i:Decidable p} {k:Option R} {Q:R->Prop} (h:¬p) (hk:Ok k Q):OS (chk (!decide p) λ_=>k) Q
 |cbeq {a b:Nat} {k:Option R} {Q:R->Prop} (h:a=b) (hk:Ok k Q):OS (chk (aB a b) λ_=>k) Q
 |cT {k:Option R} {Q:R->Prop} (hk:Ok k Q):OS (chk J λ_=>k) Q
 |lt {α:Type} {x:α} {k:α->Option R} {Q:R->Prop} (h:Ok (k x) Q):OS (lt x k) Q
 |b1 {t f:Option R} {Q:R->Prop} (h:Ok t Q):OS (aJ J t f) Q
 |b0 {t f:Option R} {Q:R->Prop} (h:Ok f Q):OS (aJ af t f) Q
 |gF {a b:Int} {t f:Option R} {Q:R->Prop} (ht:IM (a<b) (Ok t Q)) (hf:IM (b<=a) (Ok f Q)):OS (aJ (gF a b) t f) Q
 |dz {a b:Int} {t f:Option R} {Q:R->Prop} (ht:IM (a<=b) (Ok t Q)) (hf:IM (b<a) (Ok f Q)):OS (aJ (dz a b) t f) Q
 |dec {p:Prop} {i:Decidable p} {t f:Option R} {Q:R->Prop} (ht:IM p (Ok t Q)) (hf:IM (¬p) (Ok f Q)):OS (aJ (decide p) t f) Q
 |ndec {p:Prop} {i:Decidable p} {t f:Option R} {Q:R->Prop} (ht:IM (¬p) (Ok t Q)) (hf:IM p (Ok f Q)):OS (aJ (!decide p) t f) Q
 |not {b:Bool} {t f:Option R} {Q:R->Prop} (ht:IM (b=af) (Ok t Q)) (hf:IM (b=J) (Ok f Q)):OS (aJ (!b) t f) Q
 |aJ {b:Bool} {t f:Option R} {Q:R->Prop} (ht:IM (b=J) (Ok t Q)) (hf:IM (b=af) (Ok f Q)):OS (aJ b t f) Q
 |jc {α:Type} {o:Option (R⊕α)} {k:α->Option R} {Q:R->Prop} (h:Ok o λr=>match r with|.inl r=>Q r|.inr x=>Ok (k x) Q):OS (jn o k) Q
 |some {y:R} {Q:R->Prop} (h:Q y):OS (Z y) Q
def OS.ok {o:M R} {Q:R->Prop} (h:OS o Q):Ok o Q:=by
 cases h with
 |cand h=>exact cE h
 |dN a b h=>exact aR a b h
 |room a b h=>exact bG a b h
 |cile a h=>exact dh a h
 |cilt a h=>exact Db a h
 |cdec a h=>exact abs a h
 |cndec a h=>exact BT a h
 |cbeq a h=>exact jH a h
 |cT h|lt h|b1 h|b0 h=>exact h
 |gF a b=>exact bQ a.h b.h
 |dz a b=>exact eh a.h b.h
 |dec a b=>exact aK a.h b.h
 |ndec a b=>exact cj a.h b.h
 |not a b=>exact dK a.h b.h
 |aJ a b=>exact aQ a.h b.h
 |jc h=>
  let⟨r,e,h⟩:=h;exact gQ ⟨r,e,by cases r<;>exact h⟩
 |some h=>exact ak h
def bcT (t f:M R):aJ J t f=t:=rfl
def bcF (t f:M R):aJ af t f=f:=rfl
def jnr {α:Type} (x:α) (k:α->M R):jn (Z (.inr x)) k=k x:=rfl
def obs {α:Type} (x:α) (k:α->M R):aA (Z x) k=k x:=rfl
inductive Lf:Int->Prop where
 |k1:Lf 1
 |k2:Lf 2
 |k3:Lf 3
 |k4:Lf 4
 |k5:Lf 5
 |k6:Lf 6
 |k7:Lf 7
 |k8:Lf 8
 |k9:Lf 9
 |k10:Lf 10
 |k11:Lf 11
 |k12:Lf 12
 |k13:Lf 13
 |k14:Lf 14
 |k15:Lf 15
 |k16:Lf 16
 |k17:Lf 17
 |k18:Lf 18
 |k19:Lf 19
 |k20:Lf 20
 |k21:Lf 21
 |k22:Lf 22
 |k23:Lf 23
 |no {k:Int} (h:¬k=1/\¬k=2/\¬k=3/\¬k=4/\¬k=5/\¬k=6/\¬k=7/\¬k=8/\¬k=9/\¬k=10/\¬k=11/\¬k=12/\¬k=13/\¬k=14/\¬k=15/\¬k=16/\¬k=17/\¬k=18/\¬k=19/\¬k=20/\¬k=21/\¬k=22/\¬k=23) (h2:k<1\/23<k):Lf k
def kdI (k:Int):Lf k:=by
 by_cases h:k<1\/23<k
 .exact .no (by omega) h
 .have:k=1\/k=2\/k=3\/k=4\/k=5\/k=6\/k=7\/k=8\/k=9\/k=10\/k=11\/k=12\/k=13\/k=14\/k=15\/k=16\/k=17\/k=18\/k=19\/k=20\/k=21\/k=22\/k=23:=by omega
  repeat' (rcases this with rfl|this)
  all_goals first|(subst this;constructor)|constructor
def iI {n:Int} (h0: -9223372036854775808<=n:=by omega) (h1:n<=9223372036854775807:=by omega):bn .i64 n=n:=by
 rw[Ln];unfold Q6;simp[dz,h0,h1]
def fL (h:i<9223372036854775807:=by omega):bn .i64 ((i:Int)+1)=((i+1:Nat):Int):=by rw[iI];omega
variable {T:Ty}
def uT (xs:Y T.den) (i:Nat):geti _ xs (i:Int)=xs.getD i T.zero:=by unfold geti;simp
def vC (xs:η) (i:Nat):geti aP xs (i:Int)=xs.getD i 0:=uT (T:=aP) xs i
def bK {xs:Y T.den} {j:Int} (h0:0<=j) (h1:j<l! xs):geti _ xs j∈xs:=by
 unfold geti;rw[aE,aH (by omega)];exact List.getElem_mem _
def bX (xs:Y R) (j:Int) (x:R):l! (cC xs j x)=l! xs:=by unfold cC;simp
def Fy {xs:Y R} {x y:R} (h:y∈cC xs a x):y∈xs\/y=x:=List.mem_or_eq_of_mem_set h
def hY {σ:Type} {f:σ->M (σ⊕R)} {Q:R->Prop} (n:Nat) (hn:n<=1000000) (I:Nat->σ->Prop) (h0:∀i x,i<n->I i x->Ok (f x) λr=>match r with|.inl y=>I (i+1) y|.inr r=>Q r) (h1:∀x,I n x->Ok (f x) λr=>match r with|.inl _=>False|.inr r=>Q r) {x:σ} (D:I 0 x):Ok (iK f x) Q:=by
 have key:∀m i x,i+m=n->I i x->∃r,iterN f (m+1) x=Z r/\Q r:=by
  intro m;induction m with
  |zero=>
   intro i x hi D;have:i=n:=by omega
   subst this;let⟨r,A,z⟩:=h1 x D;cases r with
   |inl y=>exact z.elim
   |inr r=>exact⟨r,by rw[iterN,A],z⟩
  |succ m L=>
   intro i x hi D;let⟨r,A,z⟩:=h0 i x (by omega) D;cases r with
   |inl y=>
    let⟨r,g3,N⟩:=L (i+1) y (by omega) z;exact⟨r,by rw[iterN,A];exact g3,N⟩
   |inr r=>exact⟨r,yP (n:=1) (by rw[iterN,A]) (by omega),z⟩
 let⟨r,A,z⟩:=key n 0 x (by omega) D;exact⟨r,yP A (by omega),z⟩
def ail {σ:Type} {f:σ->M (σ⊕R)} {Q:R->Prop} (n:Nat) (μ:σ->Nat) (I:σ->Prop) (h:∀x,I x->Ok (f x) λr=>match r with|.inl y=>I y/\μ y<μ x|.inr r=>Q r) {x:σ} (L:μ x<=n/\n<=1000000) (A:I x):Ok (iK f x) Q:=by
 have key:∀n x,μ x<n->I x->∃r,iterN f n x=Z r/\Q r:=by
  intro n;induction n with
  |zero=>intro x hm;omega
  |succ n D=>
   intro x hm A;let⟨r,h1,z⟩:=h x A;cases r with
   |inl y=>
    let⟨r,h3,N⟩:=D y (by omega) z.1;exact⟨r,by rw[iterN,h1];exact h3,N⟩
   |inr r=>exact⟨r,by rw[iterN,h1],z⟩
 let⟨r,h1,z⟩:=key (n+1) x (Nat.lt_succ_of_le L.1) A;exact⟨r,yP h1 (by omega),z⟩
abbrev WT:Type:=Y (ζ×Int×Int×Bool×Int)×Y (ζ×Bool)×Y (ζ×Int)×Y ζ×Y ζ×Y π
abbrev K!:=Y (Int×η)×Int×θ×Y (Int×Int×Bool)
abbrev SY:Type:=K!
def aji (a b:Int):rX (a,b)=Z (decide (0<=a/\a<b)):=by
 refine cI ?_;unfold rX jZ aI;with_reducible repeat' first|apply OS.ok;constructor|refine IM.mk λ_=>?_
 .by_cases h:a<b<;>simp[*,gF]
 .simp;omega
def aau (l:η) (n:Int) (L:l! l<=1000000):uo (l,n)=Z (l.contains n):=by
 refine cI ?_;refine bR (l! l) (λi x=>x=(i:Int)/\∀k,k<i->l.getD k 0≠n) ?_ ?_ ⟨rfl,λk z=>by omega⟩
 .rintro i x hi ⟨rfl,D⟩;with_reducible repeat' first|apply OS.ok;constructor|refine IM.mk λ_=>?_
  all_goals try simp only[ay,tY] at*
  .omega
  .omega
  .rename_i h;rw[vC]at h
   grind
  .rename_i h;rw[vC]at h;refine ⟨fL,λk z=>?_⟩
   grind
  .omega
 .rintro x ⟨rfl,D⟩;with_reducible repeat' first|apply OS.ok;constructor|refine IM.mk λ_=>?_
  all_goals try simp only[ay,tY] at*
  .omega
  .omega
  .omega
  .omega
  .symm
   rw[Sn];intro A;rw[EI]at A;let⟨k,z,he⟩:=List.getElem_of_mem A
   grind
def iT {xs:Y T.den} {p:T.den->Prop} (h:∀k:Nat,k<aj xs->p (geti _ xs (k:Int))):∀c∈xs,p c:=λc A=>by
 let⟨k,z,he⟩:=List.getElem_of_mem A;have:=h k z;rw[uT,aE,aH z,Option.getD_some,he]at this;exact this
def UL (w:WT) (s:SY) (hw:l! w.2.2.1<=1000000):Ok (s8 (w,s)) λb=>b=J->(∀c∈w.2.2.1,0<=c.2/\c.2<l! w.2.1)/\l! s.1=l! w.2.1/\l! s.2.2.1=l! w.2.2.2.1/\l! s.2.2.2=l! w.2.2.2.2.1:=by
 unfold s8 bk bB bP ef bm bV bW bc c8 aI cS;refine bR (l! w.2.2.1) (λi x=>x.1=(i:Int)/\x.2=(w,s)/\∀k:Nat,k<i->0<=(geti itK w.2.2.1 (k:Int)).2/\(geti itK w.2.2.1 (k:Int)).2<l! w.2.1) ?_ ?_ ⟨rfl,rfl,λk hk=>by omega⟩
 .rintro i ⟨N,L⟩ hi ⟨A,z,D⟩;subst A z;with_reducible repeat' first|apply OS.ok;constructor|refine IM.mk λ_=>?_
  all_goals try simp only[ay,tY] at*
  all_goals first|omega|skip
  .intro h;cases h
  .intro h;cases h
  .refine ⟨fL,λk hk=>?_⟩
   grind
 .rintro⟨N,L⟩ ⟨A,z,D⟩;subst A z;with_reducible repeat' first|apply OS.ok;constructor|refine IM.mk λ_=>?_
  all_goals try simp only[ay,tY] at*
  all_goals first|omega|skip
  refine aw (P:=λb=>b=J->l! s.1=l! w.2.1/\l! s.2.2.1=l! w.2.2.2.1/\l! s.2.2.2=l! w.2.2.2.2.1) ?_ ?_
  .with_reducible repeat' first|apply OS.ok;constructor|refine IM.mk λ_=>?_
   all_goals try simp only[ay,tY] at*
   .omega
   .intro h;cases h
   .intro h;cases h
  .intro b hb;with_reducible repeat' first|apply OS.ok;constructor|refine IM.mk λ_=>?_
   exact λh=>⟨iT (T:=itK) D,hb h⟩
structure NM (w:WT) (k o:Int):Prop where
 k1:1<=k
 k2:k<=23
 ce:k=3\/k=4->0<=o/\o<l! w.1
 lk:6<=k/\k<=11->0<=o/\o<l! w.2.1
 cd:16<=k/\k<=19->0<=o/\o<l! w.2.2.1
 th:k=20\/k=21->0<=o/\o<l! w.2.2.2.2.1
 fu:k=22\/k=23->0<=o/\o<l! w.2.2.2.1
 no:k=1\/k=2\/k=5\/(12<=k/\k<=15)->o= -1
 mu:k=6\/k=7->(geti tF w.2.1 o).2=af
 rw:8<=k/\k<=11->(geti tF w.2.1 o).2=J
def air (w:WT) (k o:Int):Ok (v_ (w,k,o)) λb=>b=J->NM w k o:=by
 unfold v_ bk bB bP cP bm bW bc aI;cases kdI k
 case no z _=>
  simp[z,c7,eC,Rg];exact ak nofun
 all_goals simp only[c7,eC,Rg,aji]
 all_goals with_reducible repeat' first|apply OS.ok;constructor|refine IM.mk λ_=>?_
 all_goals try simp only[ay,tY] at*
 all_goals first|omega|(intro h;cases h;done)|(intro h;constructor<;>first|omega|(intro A;first|omega|(simpa using h)))
structure SB (n:Nat) (s:SY):Prop where
 n1:n<=100000
 lk:l! s.1<=1000
 rd:∀l∈s.1,l! l.2<=n
 dn:l! s.2.2.1<=1000
 th:l! s.2.2.2<=1000
structure EN (w:WT) (s:SY) (t k o:Int):Prop where
 nm:NM w k o
 t0:0<=t
 t1:t<l! w.2.2.2.2.1
 cd:∀c∈w.2.2.1,0<=c.2/\c.2<l! w.2.1
 e1:l! s.1=l! w.2.1
 e2:l! s.2.2.1=l! w.2.2.2.1
 e3:l! s.2.2.2=l! w.2.2.2.2.1
structure UQ (w:WT) (s:SY) (t k o:Int):Prop where
 b:k=1->(geti iD s.2.2.2 t).1=1
 wk:k=17->(geti iD s.2.2.2 t).1=4/\(geti iD s.2.2.2 t).2.1=o/\(geti em s.1 (geti itK w.2.2.1 o).2).1= -1
 r:k≠1->k≠17->(geti iD s.2.2.2 t).1=2
 aq:k=6\/k=8\/k=10->(geti em s.1 o).1= -1
 wr:k=10->(geti em s.1 o).2.length=0
 ra:k=8->(geti em s.1 o).2.contains t=af
 rl:k=7\/k=11->(geti em s.1 o).1=t
 rr:k=9->(geti em s.1 o).2.contains t=J
 xb:k=12->s.2.1= -1
 xe:k=13->s.2.1=t
 ab:k=14->(geti iD s.2.2.2 t).2.2=af
 ae:k=15->(geti iD s.2.2.2 t).2.2=J
 nt:k=16\/k=18\/k=19->(geti em s.1 (geti itK w.2.2.1 o).2).1=t
 sp:k=20->¬o=t/\(geti iD s.2.2.2 o).1=0
 jo:k=21->¬o=t/\(geti iD s.2.2.2 o).1=5
 se:k=22->geti (.bool) s.2.2.1 o=af
 ge:k=23->geti (.bool) s.2.2.1 o=J
def Pn (w:WT) (s:SY) (D:SB i s) (hw:l! w.2.2.1<=1000) (t k o:Int):Ok (lA (w,s,t,k,o)) λb=>b=J->EN w s t k o/\UQ w s t k o:=by
 unfold lA bk bB bP c_ dQ ef bm jY bW bc aI;refine aV (λx=>x.2=(w,s)/\(x.1=af->EN w s t k o)) ?_ ?_
 .refine aw (UL w s (by omega)) λb N=>?_
  with_reducible repeat' first|apply OS.ok;constructor|refine IM.mk λ_=>?_
  .exact⟨rfl,nofun⟩
  .simp only[aji,obs];with_reducible repeat' first|apply OS.ok;constructor|refine IM.mk λ_=>?_
   .exact⟨rfl,nofun⟩
   .refine aw (air w k o) λc L=>?_
    with_reducible repeat' first|apply OS.ok;constructor|refine IM.mk λ_=>?_
    all_goals try simp only[ay,tY] at*
    rename_i h1 h2;obtain⟨f1,f2,f3,f4⟩:=N h1;exact λh=>⟨L (by simpa using h),by omega,by omega,f1,f2,f3,f4⟩
 .rintro⟨x1,x2⟩ ⟨z,A⟩;dsimp only at z A;subst z;refine aQ (λh=>ak λh=>by cases h) (λh=>?_);have he:=A h;obtain⟨nm,t0,t1,cd,e1,e2,e3⟩:=id he;obtain⟨_,_,ce,lk,cn,th,fu⟩:=nm;have hm:16<=k/\k<=19->0<=(geti itK w.2.2.1 o).2/\(geti itK w.2.2.1 o).2<l! w.2.1:=λh=>cd _ (bK (cn h).1 (cn h).2)
  have hH:6<=k/\k<=11->uo ((geti em s.1 o).2,t)=Z ((geti em s.1 o).2.contains t):=λh=>aau _ _ (by
   have:=D.rd _ (bK (T:=em) (lk h).1 (by have:=(lk h).2;omega));have:=D.n1;omega)
  cases kdI k
  case no hk _=>omega
  all_goals simp only[c7,eC,Rg]
  all_goals with_reducible repeat' first|apply OS.ok;constructor|refine IM.mk λ_=>?_
  all_goals try simp only[hH (by omega),obs]
  all_goals with_reducible repeat' first|apply OS.ok;constructor|refine IM.mk λ_=>?_
  all_goals try simp only[ay,tY] at*
  all_goals first|omega|(intro h;cases h;done)|exact (hm ⟨by decide,by decide⟩).1|(rw [e1];exact (hm ⟨by decide,by decide⟩).2)|(intro h;refine ⟨he,?_⟩;constructor<;>first|omega|(intros;first|omega|assumption|(simpa using h)|exact⟨by assumption,by first|assumption|exact⟨by assumption,by assumption⟩⟩))|(refine ⟨he,?_⟩;constructor<;>first|omega|(intros;first|omega|assumption))
def mW:η->Int->η
 |[],n=>[n]
 |x::r,n=>if x<n then x::mW r n else if x=n then x::r else n::x::r
def HU (n:Int):∀(i:Nat) (l:η),i<=l! l->(∀k,k<i->l.getD k 0<n)->mW l n=l.take i++mW (l.drop i) n
 |0,l,_,_=>by simp
 |i+1,[],h,_=>by simp at h
 |i+1,x::r,h,z=>by
  have h0:=z 0 (by omega);simp at h0;have:=HU n i r (by grind) (λk A=>by have:=z (k+1) (by omega);simpa using this);rw[mW,aF h0,this,yh,Kp,gJ]
def Jd (n:Int):∀l:η,l! (mW l n)<=l! l+1
 |[]=>by simp[mW]
 |x::r=>by
  have:=Jd n r;rw[mW];split
  .simp;omega
  .split<;>simp
def Md {n y:Int}:∀{l:η},y∈mW l n↔y=n\/y∈l
 |[]=>by simp[mW]
 |x::r=>by
  have:=Md (n:=n) (y:=y) (l:=r);rw[mW];split
  .grind
  .grind
def Lg:η->Prop
 |[]=>True
 |x::r=>(∀y∈r,x<y)/\Lg r
def Vs :∀{l:η},Lg l->Lg (mW l a)
 |[],_=>by simp[mW,Lg]
 |x::r,h=>by
  rw[mW];split
  .rename_i A;refine ⟨λy z=>?_,Vs h.2⟩;rcases Md.1 z with rfl|z
   .exact A
   .exact h.1 y z
  .split
   .exact h
   .rename_i h1 D;refine ⟨λy z=>?_,h⟩;rcases a_.1 z with rfl|z
    .omega
    .have:=h.1 y z;omega
def alk (l:η) (n:Int) (hl:l! l<=1000000):yJ (l,n)=Z (mW l n):=by
 refine cI ?_;unfold yJ bV bT bW bc c8 aI cS;have fin:∀i:Nat,i<=l! l->(∀k,k<i->l.getD k 0<n)->(i<l! l->¬l.getD i 0<n/\l.getD i 0≠n)->l.take i++[n]++l.drop i=mW l n:=λi hi L hn=>by
  rw[HU n i l hi L];cases hd:l.drop i with
  |nil=>simp[mW]
  |cons y r=>
   have hlt:i<l! l:=by grind
   have A:l.getD i 0=y:=by
    rw[aE,<-List.head?_drop,hd];rfl
   let⟨h1,N⟩:=hn hlt;rw[A]at h1 N;rw[mW,ax h1,ax N];simp
 refine bR (l! l) (λi x=>x=(i:Int)/\∀k,k<i->l.getD k 0<n) ?_ ?_ ⟨rfl,λk L=>by omega⟩
 .rintro i x hi ⟨rfl,z⟩;by_cases hlt:l.getD i 0<n
  .with_reducible repeat' first|apply OS.ok;constructor|refine IM.mk λ_=>?_
   all_goals try simp only[ay,tY] at*
   all_goals first|omega|skip
   .refine ⟨fL,λk L=>?_⟩
    grind
   next h=>exact bC hlt (AU.2 h)
  .have key:l.getD i 0=n->mW l n=l:=λhe=>by
    rw[HU n i l (by omega) z];cases hd:l.drop i with
    |nil=>have:=e_ aj hd;simp at this;omega
    |cons y r=>
     have A:l.getD i 0=y:=by rw[aE,<-List.head?_drop,hd];rfl
     rw[A]at he;rw[mW,ax (by omega),aF he,<-hd,EG]
   with_reducible repeat' first|apply OS.ok;constructor|refine IM.mk λ_=>?_
   all_goals try simp only[ay,tY] at*
   all_goals first|omega|skip
   next h=>exact bC h hlt
   .refine aw (P:=λr=>r=mW l n) ?_ λr D=>ak D
    with_reducible repeat' first|apply OS.ok;constructor|refine IM.mk λ_=>?_
    all_goals try simp only[ay,tY] at*
    all_goals first|omega|skip
    next h=>exact (key h).symm
    .simp;omega
    .simp;omega
    .simp;omega
    next h=>simpa using fin i (by omega) z (λ_=>⟨hlt,h⟩)
 .rintro x ⟨rfl,z⟩;with_reducible repeat' first|apply OS.ok;constructor|refine IM.mk λ_=>?_
  all_goals try simp only[ay,tY] at*
  all_goals first|omega|skip
  refine aw (P:=λr=>r=mW l n) ?_ λr D=>ak D
  with_reducible repeat' first|apply OS.ok;constructor|refine IM.mk λ_=>?_
  all_goals try simp only[ay,tY] at*
  all_goals first|omega|skip
  .simp;omega
  .simp;omega
  .simp;omega
  .simpa using fin (l! l) (by omega) z (λh=>by omega)
def yn (a b:η):η:=b.foldl mW (a.foldl mW [])
def yU:∀(b acc:η),l! (b.foldl mW acc)<=l! acc+l! b
 |[],acc=>by simp
 |x::r,acc=>by
  have:=yU r (mW acc x);have:=Jd x acc;rw[zX,jX];omega
def Nq:∀{b acc:η},Lg acc->Lg (b.foldl mW acc)
 |[],_,h=>h
 |x::r,acc,h=>by rw[zX];exact Nq (Vs h)
def Np :∀{b acc:η},a∈b.foldl mW acc↔a∈acc\/a∈b
 |[],acc=>by simp
 |x::r,acc=>by
  rw[zX,Np,Md]
  grind
def UU (a b:η):Lg (yn a b):=Nq (Nq trivial)
variable {z:η}
def BL {b:η} {y:Int}:y∈yn z b↔y∈z\/y∈b:=by unfold yn;rw[Np,Np];simp
def ahb (a b:η):l! (yn a b)<=l! a+l! b:=by
 have:=yU b (a.foldl mW []);have:=yU a [];unfold yn;simp at *;omega
def RG {acc:η} (hi:i<l! z):(z.take (i+1)).foldl mW acc=mW ((z.take i).foldl mW acc) (z.getD i 0):=by
 rw[pX hi,eZ,aE,aH hi];rfl
def Yg (a b:η) (ha:l! a<=400000) (hb:l! b<=400000):wc (a,b)=Z (yn a b):=by
 refine cI ?_;refine bR (l! a) (λi x=>x.2=(i:Int)/\x.1=(a.take i).foldl mW []) ?_ ?_ ⟨rfl,rfl⟩
 .rintro i ⟨D,A⟩ hi ⟨h1,z⟩;subst h1 z;have L:l! ((a.take i).foldl mW [])<=1000000:=by have:=yU (a.take i) [];simp at *;omega
  with_reducible repeat' first|apply OS.ok;constructor|refine IM.mk λ_=>?_
  all_goals try simp[ay,tY] at*
  all_goals first|omega|skip
  refine aX (alk _ _ L) (ak ?_);refine ⟨fL,?_⟩;rw[vC,RG hi]
 .rintro⟨D,A⟩ ⟨h1,z⟩;subst h1 z;rw[cY];have hla:=yU a [];with_reducible repeat' first|apply OS.ok;constructor|refine IM.mk λ_=>?_
  all_goals try simp[ay,tY] at*
  all_goals first|omega|skip
  refine aw (P:=λr=>r=yn a b) ?_ λr N=>ak N
  refine bR (l! b) (λi x=>x.2=(i:Int)/\x.1=(b.take i).foldl mW (a.foldl mW [])) ?_ ?_ ⟨rfl,rfl⟩
  .rintro i ⟨D,A⟩ hi ⟨h1,z⟩;subst h1 z;have L:l! ((b.take i).foldl mW (a.foldl mW []))<=1000000:=by have:=yU (b.take i) (a.foldl mW []);simp at *;omega
   with_reducible repeat' first|apply OS.ok;constructor|refine IM.mk λ_=>?_
   all_goals first|omega|skip
   refine aX (alk _ _ L) (ak ?_);refine ⟨fL,?_⟩;rw[vC,RG hi]
  .rintro⟨D,A⟩ ⟨h1,z⟩;subst h1 z;rw[cY];with_reducible repeat' first|apply OS.ok;constructor|refine IM.mk λ_=>?_
   all_goals first|omega|rfl
def Py (c:Int) (x:e!):Bool:=decide (x.1=3)&&decide (x.2.1=c)
def wl (th:Y e!) (c:Int):Nat->η
 |0=>[]
 |i+1=>if Py c (geti iD th (i:Int)) then wl th c i++[(i:Int)] else wl th c i
def xP (th:Y e!) (c:Int):∀i,l! (wl th c i)<=i
 |0=>bI _
 |i+1=>by have:=xP th c i;rw[wl];split<;>simp<;>omega
def sU {th:Y e!} {c u:Int}:∀{i:Nat},u∈wl th c i↔0<=u/\u<i/\Py c (geti iD th u)=J
 |0=>by simp[wl];omega
 |i+1=>by
  have z:= @sU th c u i;rw[wl]
  grind
variable {N:Y (Int×Int×Bool)}
def awb (h1:(geti iD N (i:Int)).1=3) (z:(geti iD N (i:Int)).2.1=a):wl N a (i+1)=wl N a i++[(i:Int)]:=by
 rw[wl,aF];unfold Py;rw[h1,z];simp
def aqf (h1:¬(geti iD N (i:Int)).1=3):wl N a (i+1)=wl N a i:=by
 rw[wl,ax];unfold Py;rw[dm h1];simp
def aqe (h1:¬(geti iD N (i:Int)).2.1=a):wl N a (i+1)=wl N a i:=by
 rw[wl,ax];unfold Py;rw[dm h1];simp
def aak (s:SY) (c:Int) (A:l! s.2.2.2<=1000):oR (s,c)=Z (wl s.2.2.2 c (l! s.2.2.2)):=by
 refine cI ?_;unfold oR c_ bm bV bT bW bc c8 aI cS;refine bR (l! s.2.2.2) (λi x=>x=((i:Int),s,wl s.2.2.2 c i)) ?_ ?_ rfl
 .rintro i x hi rfl;have D:=xP s.2.2.2 c i;with_reducible repeat' first|apply OS.ok;constructor|refine IM.mk λ_=>?_
  all_goals try simp only[ay,tY] at*
  all_goals first|omega|skip
  all_goals first|(simp;omega)|skip
  next h1 z=>rw[awb h1 z,fL]
  next h1 z=>rw[aqe z,fL]
  next h1=>rw[aqf h1,fL]
 .rintro x rfl;with_reducible repeat' first|apply OS.ok;constructor|refine IM.mk λ_=>?_
  all_goals try simp[ay,tY] at*
  all_goals first|omega|rfl
def wo (l:η) (n:Int):η:=l.filter λx=> !decide (x=n)
def YD (l:η) (n:Int) (A:l! l<=1000000):rW (l,n)=Z (wo l n):=by
 refine cI ?_;unfold rW bV jY bT bW bc c8 aI cS;refine bR (l! l) (λi x=>x=((i:Int),wo (l.take i) n)) ?_ ?_ rfl
 .rintro i x hi rfl;have z:l! (wo (l.take i) n)<=i:=dc (EH ..) (yl ..);have ht:wo (l.take (i+1)) n=if geti aP l (i:Int)=n then wo (l.take i) n else wo (l.take i) n++[geti aP l (i:Int)]:=by
   unfold wo;rw[pX hi,List.filter_append,vC,aE,aH hi]
   grind
  with_reducible repeat' first|apply OS.ok;constructor|refine IM.mk λ_=>?_
  all_goals try simp only[ay,tY] at*
  all_goals first|omega|skip
  .simp;omega
  next h=>rw[ht,ax h,fL]
  next h=>rw[ht,aF h,fL]
 .rintro x rfl;with_reducible repeat' first|apply OS.ok;constructor|refine IM.mk λ_=>?_
  all_goals try simp[ay,tY] at*
  all_goals first|omega|(rw [cY])
def pL {xs:Y T.den} (hi:i<aj xs):dE (i+1) xs=dE i xs++[geti _ xs (i:Int)]:=by
 rw[pX hi,uT,aE,aH hi];rfl
def adu (s:SY) (z:SB i s):iO s=Z (s.2.1,s.1,s.2.2.1,s.2.2.2):=by
 refine cI ?_;let⟨A,N,L,D⟩:=s;have hn:=z.n1;have g1:=z.lk;have g2:=z.dn;have g3:=z.th;dsimp only at g1 g2 g3;unfold iO bk bB bP c_ ef bV bT bW bc c8 aI cS;with_reducible repeat' first|apply OS.ok;constructor|refine IM.mk λ_=>?_
 .simp;omega
 .omega
 .simp;omega
 .omega
 refine bR (l! A) (λn x=>x=((n:Int),(A,N,L,D),0,N,A.take n,L,D)) ?_ ?_ ?_
 .rintro n x hi rfl;have hg:=z.rd _ (bK (T:=em) (xs:=A) (j:=(n:Int)) (by omega) (by omega));with_reducible repeat' first|apply OS.ok;constructor|refine IM.mk λ_=>?_
  all_goals try simp only[ay,tY] at*
  all_goals first|omega|skip
  .simp;omega
  .simp;omega
  .rw[fL,pL (T:=em) hi];rfl
 .rintro x rfl;with_reducible repeat' first|apply OS.ok;constructor|refine IM.mk λ_=>?_
  all_goals try simp only[ay,tY] at*
  all_goals first|omega|skip
  simp
 .simp
def Kl (s:SY) (c:Int) (D:l! s.2.2.2<=1000):lZ ((s.2.1,c),s.1,s.2.2.1,s.2.2.2)=Z (wl s.2.2.2 c (l! s.2.2.2)):=by
 refine cI ?_;refine aw (P:=λy=>y=(wl s.2.2.2 c (l! s.2.2.2),s.1,s.2.2.1,s.2.2.2)) ?_ λy A=>by subst A;exact an5 rfl (ak rfl)
 unfold nA bk bB bP c_ ef bm bV bT kf bc c8 aI cS;refine bR (l! s.2.2.2) (λi x=>x=((i:Int),s.1,s.2.2.1,s.2.2.2,s.2.1,wl s.2.2.2 c i)) ?_ ?_ rfl
 .rintro i x hi rfl;have L:=xP s.2.2.2 c i;with_reducible repeat' first|apply OS.ok;constructor|refine IM.mk λ_=>?_
  all_goals try simp only[ay,tY] at*
  all_goals first|omega|skip
  all_goals first|(simp;omega)|skip
  next h1 z=>rw[awb h1 z,fL]
  next h1 z=>rw[aqe z,fL]
  next h1=>rw[aqf h1,fL]
 .rintro x rfl;with_reducible repeat' first|apply OS.ok;constructor|refine IM.mk λ_=>?_
  all_goals try simp[ay,tY] at*
  all_goals first|omega|rfl
structure AP (n:Nat) (s y:SY):Prop where
 a1:l! y.1=l! s.1
 a2:l! y.2.2.1=l! s.2.2.1
 a3:l! y.2.2.2=l! s.2.2.2
 rd:∀l∈y.1,l! l.2<=n+1
def AP.toSB {s y:SY} (h:AP i s y) (z:SB i s) (A:i+1<=100000):SB (i+1) y:=
 ⟨A,by rw[h.a1];exact z.lk,h.rd,by rw[h.a2];exact z.dn,by rw[h.a3];exact z.th⟩
def AP.same {s:SY} (z:SB i s) (x:Int) (d:θ) (t:Y e!) (hd:l! d=l! s.2.2.1) (ht:l! t=l! s.2.2.2):AP i s (s.1,x,d,t):=
 ⟨rfl,hd,ht,λl A=>fZ (z.rd l A)⟩
def AP.set {s:SY} (z:SB i s) (j a:Int) (r:η) (A:l! r<=i+1) (x:Int) (d:θ) (t:Y e!) (hd:l! d=l! s.2.2.1) (ht:l! t=l! s.2.2.2):AP i s (cC s.1 j (a,r),x,d,t):=
 ⟨bX _ _ _,hd,ht,λl D=>by
   rcases Fy D with h|rfl
   .exact fZ (z.rd l h)
   .exact A⟩
def AX (th:Y e!) (t st:Int):Y e!:=cC th t (st,(geti iD th t).2)
def YW (lk:Y j!) (o t:Int):Y j!:=cC lk o (t,(geti em lk o).2)
def rdP (lk:Y j!) (o:Int) (l:η):Y j!:=cC lk o ((geti em lk o).1,l)
def cdP (th:Y e!) (t c:Int):Y e!:=cC th t ((geti iD th t).1,c,(geti iD th t).2.2)
def atP (th:Y e!) (t:Int) (b:Bool):Y e!:=cC th t ((geti iD th t).1,(geti iD th t).2.1,b)
def FZ (th:Y e!) (l:η):Y e!:=l.foldl (λx u=>AX x u 4) th
def Ew (l:η) (u:Int):Int:=if (l! l)=0 then -1 else if l.contains u then u else geti aP l 0
def PN (w:WT) (o:Int):Int:=(geti itK w.2.2.1 o).2
def po (w:WT) (s:SY) (t k o u:Int):SY×Int:=
 if k=1 then ((s.1,s.2.1,s.2.2.1,AX s.2.2.2 t 2),0)
 else if k=2 then ((s.1,s.2.1,s.2.2.1,AX s.2.2.2 t 5),0)
 else if k=6\/k=10 then ((YW s.1 o t,s.2),0)
 else if k=7\/k=11 then ((YW s.1 o (-1),s.2),0)
 else if k=8 then ((rdP s.1 o (yn (geti em s.1 o).2 [t]),s.2),0)
 else if k=9 then ((rdP s.1 o (wo (geti em s.1 o).2 t),s.2),0)
 else if k=12 then ((s.1,t,s.2.2),0)
 else if k=13 then ((s.1,-1,s.2.2),0)
 else if k=14 then ((s.1,s.2.1,s.2.2.1,atP s.2.2.2 t J),0)
 else if k=15 then ((s.1,s.2.1,s.2.2.1,atP s.2.2.2 t af),0)
 else if k=16 then ((YW s.1 (PN w o) (-1),s.2.1,s.2.2.1,cdP (AX s.2.2.2 t 3) t o),0)
 else if k=17 then ((YW s.1 (PN w o) t,s.2.1,s.2.2.1,cdP (AX s.2.2.2 t 2) t 0),0)
 else if k=18 then (if (l! (wl s.2.2.2 o (l! s.2.2.2)))=0 then (s,-1) else ((s.1,s.2.1,s.2.2.1,AX s.2.2.2 (Ew (wl s.2.2.2 o (l! s.2.2.2)) u) 4),Ew (wl s.2.2.2 o (l! s.2.2.2)) u))
 else if k=19 then ((s.1,s.2.1,s.2.2.1,FZ s.2.2.2 (wl s.2.2.2 o (l! s.2.2.2))),(l! (wl s.2.2.2 o (l! s.2.2.2)):Int))
 else if k=20 then ((s.1,s.2.1,s.2.2.1,AX s.2.2.2 o 1),0)
 else if k=22 then ((s.1,s.2.1,cC s.2.2.1 o J,s.2.2.2),0)
 else (s,0)
def LC (l:η):∀th,l! (FZ th l)=l! th:=by
 induction l with
 |nil=>intro th;rfl
 |cons x r z=>intro th;unfold FZ;rw[zX];exact (z _).trans (bX ..)
def ais (hi:i<l! z):FZ N (z.take (i+1))=AX (FZ N (z.take i)) (geti aP z (i:Int)) 4:=by
 unfold FZ;rw[pX hi,eZ,vC,aE,aH hi];rfl
def LN (u:Int) (l:¬l! z=0):Ew z u∈z:=by
 unfold Ew;rw[ax l];split
 next h=>exact EI.1 h
 .exact bK (T:=aP) (by omega) (by omega)
def Yu (w:WT) (s:SY) (z:SB i s) (hw:l! w.2.2.1<=1000) (t k o u:Int):Ok (qI (w,s,t,k,o,u)) λy=>(y.2.2=J->EN w s t k o/\UQ w s t k o/\AP i s y.1/\(y.1,y.2.1)=po w s t k o u)/\(y.2.2=af->y.1=([],0,[],[]))/\(lA (w,s,t,k,o)=Z J->y.2.2=J):=by
 unfold qI bk bB bP cP c_ dQ ef iF ck bm bV bW kf bc c8 aI cS;obtain⟨b,N,hb⟩:=Pn w s z hw t k o;refine aX N ?_;refine dK (λh=>ak ⟨nofun,λ_=>rfl,λh2=>(by rw[N,h]at h2;cases h2)⟩) (λh=>?_);obtain⟨he,hry⟩:=hb h;refine aX (adu s z) ?_;suffices hmain:Ok _ _ from aV (λx=>AP i s (x.2.2.2.1,x.2.1,x.2.2.2.2)/\((x.2.2.2.1,x.2.1,x.2.2.2.2),x.1)=po w s t k o u) hmain λx hx=>ak ⟨λ_=>⟨he,hry,hx⟩,nofun,λ_=>rfl⟩
 obtain⟨nm,t0,t1,cd,e1,e2,e3⟩:=id he;obtain⟨_,_,ce,lk,cn,th,fu⟩:=nm;have hn:=z.n1;have hlk:=z.lk;have hm:16<=k/\k<=19->0<=(geti itK w.2.2.1 o).2/\(geti itK w.2.2.1 o).2<l! w.2.1:=λh=>cd _ (bK (cn h).1 (cn h).2)
 have L:∀j:Int,0<=j->j<l! s.1->(geti em s.1 j).2.length<=i:=λj h0 h1=>z.rd _ (bK (T:=em) h0 h1)
 cases kdI k
 case no hk _=>omega
 all_goals simp only[c7,eC,Rg]
 all_goals with_reducible repeat' first|apply OS.ok;constructor|refine IM.mk λ_=>?_
 all_goals try simp only[ay,tY] at*
 all_goals try rw[bX]
 all_goals first|omega|exact (hm ⟨by decide,by decide⟩).1|exact e1▸(hm ⟨by decide,by decide⟩).2|exact⟨AP.same z _ _ _ rfl rfl,rfl⟩|exact⟨AP.same z _ _ _ rfl (bX _ _ _),rfl⟩|exact⟨AP.same z _ _ _ (bX _ _ _) rfl,rfl⟩|skip
 all_goals try exact⟨AP.set z _ _ _ (fZ (L o (by omega) (by omega))) _ _ _ rfl rfl,rfl⟩
 .have:=L o (by omega) (by omega);refine aX (Yg _ _ (dc this (by have:=z.n1;omega)) (by simp)) ?_;with_reducible repeat' first|apply OS.ok;constructor|refine IM.mk λ_=>?_
  all_goals try simp only[ay,tY] at*
  all_goals first|omega|skip
  exact⟨AP.set z _ _ _ (by have:=ahb (geti em s.1 o).2 [t];simp at this;omega) _ _ _ rfl rfl,rfl⟩
 .have:=L o (by omega) (by omega);have hl:l! (wo (geti em s.1 o).2 t)<=(geti em s.1 o).2.length:=EH ..;refine aX (YD _ _ (by omega)) ?_;with_reducible repeat' first|apply OS.ok;constructor|refine IM.mk λ_=>?_
  all_goals try simp only[ay,tY] at*
  all_goals first|omega|skip
  exact⟨AP.set z _ _ _ (dc hl (by omega)) _ _ _ rfl rfl,rfl⟩
 .exact⟨AP.set z _ _ _ (fZ (L _ (hm ⟨by decide,by decide⟩).1 (by rw[e1];exact (hm ⟨by decide,by decide⟩).2))) _ _ _ rfl (by rw[bX,bX]),rfl⟩
 .exact⟨AP.set z _ _ _ (fZ (L _ (hm ⟨by decide,by decide⟩).1 (by rw[e1];exact (hm ⟨by decide,by decide⟩).2))) _ _ _ rfl (by rw[bX,bX]),rfl⟩
 .refine aX (Kl s o z.th) ?_;have hth:=z.th;have hll:=xP s.2.2.2 o (l! s.2.2.2);have hml:∀u∈wl s.2.2.2 o (l! s.2.2.2),0<=u/\u<l! s.2.2.2:=λu D=>⟨(sU.1 D).1,(sU.1 D).2.1⟩
  have hap:po w s t 18 o u=if (l! (wl s.2.2.2 o (l! s.2.2.2)))=0 then (s,-1) else ((s.1,s.2.1,s.2.2.1,AX s.2.2.2 (Ew (wl s.2.2.2 o (l! s.2.2.2)) u) 4),Ew (wl s.2.2.2 o (l! s.2.2.2)) u):=rfl
  unfold Ew at hap;revert hll hml hap;generalize wl s.2.2.2 o (l! s.2.2.2)=l;intro hll hml hap;with_reducible repeat' first|apply OS.ok;constructor|refine IM.mk λ_=>?_
  all_goals try simp only[ay,tY] at*
  all_goals first|omega|skip
  .have A:=hml _ (bK (T:=aP) (xs:=l) (j:=0) (by omega) (by omega));rw[ax (by omega),ax (by omega)]at hap;simp only[aau l u (by omega),obs];refine aQ (λhc=>?_) λhc=>?_
   .have D:=hml u (EI.1 hc);rw[hc,aF rfl]at hap;refine ak (aR D.1 D.2 (aR D.1 D.2 (ak ⟨AP.same z _ _ _ rfl (bX ..),?_⟩)));rw[hap];rfl
   .rw[hc,ax (by decide)]at hap;refine ak (aR A.1 A.2 (aR A.1 A.2 (ak ⟨AP.same z _ _ _ rfl (bX ..),?_⟩)));rw[hap];rfl
  .rw[aF (by omega)]at hap;exact⟨AP.same z _ _ _ rfl rfl,hap.symm⟩
 .refine aX (Kl s o z.th) ?_;have hth:=z.th;have hll:=xP s.2.2.2 o (l! s.2.2.2);have hml:∀u∈wl s.2.2.2 o (l! s.2.2.2),0<=u/\u<l! s.2.2.2:=λu D=>⟨(sU.1 D).1,(sU.1 D).2.1⟩
  have hap:po w s t 19 o u=((s.1,s.2.1,s.2.2.1,FZ s.2.2.2 (wl s.2.2.2 o (l! s.2.2.2))),(l! (wl s.2.2.2 o (l! s.2.2.2)):Int)):=rfl;rw[hap];clear hap;generalize wl s.2.2.2 o (l! s.2.2.2)=l at hll hml ⊢;refine bR (l! l) (λn x=>x=((n:Int),s.2.1,0,s.1,s.2.2.1,FZ s.2.2.2 (l.take n))) ?_ ?_ rfl
  .rintro n x hi rfl;have A:=hml _ (bK (T:=aP) (xs:=l) (j:=(n:Int)) (by omega) (by omega));have hq:=LC (l.take n) s.2.2.2;with_reducible repeat' first|apply OS.ok;constructor|refine IM.mk λ_=>?_
   all_goals try simp only[ay,tY] at*
   all_goals first|omega|skip
   rw[fL,ais hi];rfl
  .rintro x rfl;rw[cY];with_reducible repeat' first|apply OS.ok;constructor|refine IM.mk λ_=>?_
   all_goals try simp only[ay,tY] at*
   all_goals first|omega|skip
   exact AP.same z _ _ _ rfl (LC ..)
abbrev SN:Type:=SY×η×J!
abbrev ET:Type:=Int×Int×Int×Int×Int×J!
def awz (a b:Int):F3 (a,b)=Z (decide (0<=a/\a<b)):=aji a b
structure NB (n:Nat) (s:SN):Prop where
 sb:SB n s.1
 c:l! s.2.1<=1000
 f:l! s.2.2.1<=1000
 k:l! s.2.2.2<=1000
structure SP (n:Nat) (s y:SN):Prop where
 ap:AP n s.1 y.1
 c:l! y.2.1=l! s.2.1
 f:l! y.2.2.1=l! s.2.2.1
 k:l! y.2.2.2=l! s.2.2.2
def SP.NB {s y:SN} (h:SP i s y) (z:NB i s) (A:i+1<=100000):NB (i+1) y:=
 ⟨h.ap.toSB z.sb A,by rw[h.c];exact z.c,by rw[h.f];exact z.f,by rw[h.k];exact z.k⟩
def sn0:SN:=(([],0,[],[]),[],[],[])
structure F16 (w:WT) (s:SN):Prop where
 c:l! s.2.1=l! w.1
 f:l! s.2.2.1=l! w.2.2.2.1
 k:l! s.2.2.2=l! w.2.2.2.2.1
def agm (w:WT) (s:SN) (z:l! w.2.2.1<=1000):Ok (yF (w,s)) λb=>b=J->F16 w s:=by
 unfold yF bk bB bP dQ bm bc aI;refine gQ (aw (UL w s.1 (by omega)) λb A=>?_);with_reducible repeat' first|apply OS.ok;constructor|refine IM.mk λ_=>?_
 all_goals try simp[ay,tY] at*
 all_goals first|(intro h;constructor<;>omega)|(intro h;cases h;done)
def ad8:∀(l:η),(∀k:Nat,k+1<l! l->l.getD k 0<l.getD (k+1) 0)->Lg l
 |[],_=>trivial
 |[x],_=>⟨λy L=>(by cases L),trivial⟩
 |x::y::r,h=>by
  have D:=ad8 (y::r) λk N=>by have:=h (k+1) (by grind);simpa using this
  have h0:=h 0 (by simp);simp at h0;refine ⟨λz A=>?_,D⟩;rcases a_.1 A with rfl|A
  .exact h0
  .have:=D.1 z A;omega
structure AN (c:Int) (l:η):Prop where
 a:Lg l
 m:∀x:Int,x∈l->1<=x/\x<c
def LQ:∀(l:η) (z hi:Int),Lg l->(∀y∈l,z<=y/\y<hi)->(l! l:Int)<=max 0 (hi-z)
 |[],z,hi,_,_=>by simp;omega
 |x::r,z,hi,h,hm=>by
  have h1:=hm x (dk ..);have D:=LQ r (x+1) hi h.2 λy A=>⟨by have:=h.1 y A;omega,(hm y (cg _ A)).2⟩
  grind
def AN.len (h:AN a z):(l! z:Int)<=max 0 a:=by
 have:=LQ z 1 a h.a h.m;omega
def at1 (A:∀k:Nat,k<i->1<=geti aP z (k:Int)/\geti aP z (k:Int)<a) (ha:∀k:Nat,k+1<i->z.getD k 0<z.getD (k+1) 0):(i:Int)<=max 0 a:=by
 have key:∀k:Nat,k<i->(k:Int)+1<=z.getD k 0:=by
  intro k;induction k with
  |zero=>intro D;have:=(A 0 D).1;exact this
  |succ k N=>grind
 rcases Nat.eq_zero_or_pos i with l|l
 .omega
 .have h1:=key (i-1) (by omega);have L:=(A (i-1) (by omega)).2;rw[vC]at L
  grind
def Mu (l:η) (c:Int) (hl:l! l<=1000000000\/c<=1000000000):Ok (rV (l,c)) λb=>b=J->AN c l:=by
 refine bR (l! l) (λi x=>x=(i:Int)/\(∀k:Nat,k<i->1<=geti aP l (k:Int)/\geti aP l (k:Int)<c)/\∀k:Nat,k+1<i->l.getD k 0<l.getD (k+1) 0) ?_ ?_ ⟨rfl,λk z=>by omega,λk z=>by omega⟩
 .rintro i x hi ⟨rfl,A,D⟩;have hbd:i<=1000000000:=by
   have:=at1 A D;omega
  have L:0<(i:Int)->bn .i64 ((i:Int)-1)=((i-1:Nat):Int):=λh=>by rw[iI];omega
  have hq:(0<i->l.getD (i-1) 0<l.getD i 0)->1<=geti aP l (i:Int)/\geti aP l (i:Int)<c->bn .i64 ((i:Int)+1)=((i+1:Nat):Int)/\(∀k:Nat,k<i+1->1<=geti aP l (k:Int)/\geti aP l (k:Int)<c)/\∀k:Nat,k+1<i+1->l.getD k 0<l.getD (k+1) 0:=λg1 g2=>by
   refine ⟨fL,λk z=>?_,λk z=>?_⟩
   .grind
   .grind
  with_reducible repeat' first|apply OS.ok;constructor|refine IM.mk λ_=>?_
  all_goals try simp only[ay,tY] at*
  all_goals first|omega|(intro h;cases h;done)|(rw [L (by omega)];omega)|skip
  .rename_i h1 h2 h3 N;rw[L h3,vC,vC]at N
   grind
  .grind
 .rintro x ⟨rfl,A,D⟩;with_reducible repeat' first|apply OS.ok;constructor|refine IM.mk λ_=>?_
  all_goals try simp only[ay,tY] at*
  all_goals first|omega|skip
  exact⟨ad8 l λk z=>D k z,iT (T:=aP) A⟩
structure VA (w:WT) (sy:SY) (ce fu:η) (t k o v:Int):Prop where
 ld:k=3->v=geti aP ce o
 gt:k=23->v=geti aP fu o
 br:k=5->v=0\/v=1
 el:¬k=3->¬k=23->¬k=5->¬k=4->¬k=22->v=(po w sy t k o v).2
def ite2 {c:Prop} [Decidable c] {a b:SY×Int} (A:a.2=0) (z:b.2=0):(if c then a else b).2=0:=by by_cases h:c<;>simp[h,A,z]
def arb (w:WT) (z:SY) (t k o u:Int) (h1:¬k=18) (A:¬k=19):(po w z t k o u).2=0:=by
 unfold po;rw[ax h1,ax A];repeat (first|exact rfl|refine ite2 rfl ?_)
def adc (w:WT) (z:SY) (t k o u A:Int) (h1:¬k=18):po w z t k o u=po w z t k o A:=by
 unfold po;rw[ax h1,ax h1]
def Fk (w:WT) (z:SY) (t o u:Int):po w z t 18 o u=if (l! (wl z.2.2.2 o (l! z.2.2.2)))=0 then (z,-1) else ((z.1,z.2.1,z.2.2.1,AX z.2.2.2 (Ew (wl z.2.2.2 o (l! z.2.2.2)) u) 4),Ew (wl z.2.2.2 o (l! z.2.2.2)) u):=rfl
def atl (w:WT) (z:SY) (t o u:Int):(po w z t 19 o u).2=(l! (wl z.2.2.2 o (l! z.2.2.2)):Int):=rfl
def aha (w:WT) (s:SN) (hs:NB i s) (hf:F16 w s) (e:ET) (he:EN w s.1 e.1 e.2.1 e.2.2.1):Ok (Al (s,e)) λb=>b=J->VA w s.1 s.2.1 s.2.2.1 e.1 e.2.1 e.2.2.1 e.2.2.2.1:=by
 let⟨t,k,o,v,si,de,fr⟩:=e;let⟨D,s2,s3,s4⟩:=s;let⟨nm,t0,t1,cd,e1,e2,e3⟩:=he;let⟨_,_,ce,lk,cn,th,fu,_,_,_⟩:=nm;let⟨f1,f2,f3⟩:=hf;have hth:=hs.sb.th;dsimp only at*
 have hW:=aak D o hth;have hWl:=xP D.2.2.2 o (l! D.2.2.2);refine aK (λh=>?_) λn3=>?_
 .have h:k=3:=h;let⟨c0,c1⟩:=ce (.inl h);exact aR c0 (by grind) (aT (ak λA=>⟨λ_=>bJ A,λz=>by omega,λz=>by omega,λz=>(z h).elim⟩))
 refine aK (λh=>?_) λL=>?_
 .have h:k=23:=h;let⟨c0,c1⟩:=fu (.inr h);exact aR c0 (by grind) (aT (ak λA=>⟨λz=>by omega,λ_=>bJ A,λz=>by omega,λ_ z=>(z h).elim⟩))
 refine aK (λh=>?_) λn5=>?_
 .have h:k=5:=h;exact gQ (aK (λA=>ak (ak λ_=>⟨λz=>by omega,λz=>by omega,λ_=>.inl A,λ_ _ z=>(z h).elim⟩)) λ_=>ak (ak λA=>⟨λz=>by omega,λz=>by omega,λ_=>.inr (bJ A),λ_ _ z=>(z h).elim⟩))
 refine aV (λx=>x.2=((D,s2,s3,s4),t,k,o,v,si,de,fr)/\(x.1=J->k=4\/k=22)) (aK (λh=>ak ⟨rfl,λ_=>.inl h⟩) λ_=>ak ⟨rfl,λh=>.inr (bJ h)⟩) ?_;rintro⟨b,x⟩ ⟨e,hb⟩;subst e;refine aQ (λh=>ak λ_=>⟨λz=>(n3 z).elim,λz=>(L z).elim,λz=>(n5 z).elim,λ_ _ _ h4 h5=>(hb h).elim (λh=>(h4 h).elim) λh=>(h5 h).elim⟩) λ_=>?_
 have fin:v=(po w D t k o v).2->VA w D s2 s3 t k o v:=λh=>⟨λz=>(n3 z).elim,λz=>(L z).elim,λz=>(n5 z).elim,λ_ _ _ _ _=>h⟩
 refine aK (λh=>?_) λn18=>?_
 .have h:k=18:=h;subst h;rw[Fk]at fin;refine aX hW ?_;revert fin hWl;generalize wl D.2.2.2 o (l! D.2.2.2)=l;intro hWl fin;refine aK (λh=>ak λA=>fin ?_) λh=>?_
  .grind
  .dsimp [ay]at h;have hne:¬l! l=0:=by omega
   refine gQ (eh (λ_=>bQ (λ_=>?_) λ_=>ak (ak nofun)) λ_=>ak (ak nofun));refine aX (aau _ _ (by omega)) (ak (ak λA=>fin ?_));rw[ax hne];unfold Ew;rw[ax hne,aF A]
 refine aK (λh=>?_) λN=>?_
 .have h:k=19:=h;subst h;exact aX hW (ak λA=>fin (bJ A))
 exact ak λA=>fin (by rw[arb _ _ _ _ _ _ n18 N];exact bJ A)
structure S16 (w:WT) (s:SN) (e:ET):Prop where
 rd:UQ w s.1 e.1 e.2.1 e.2.2.1
 s1:e.2.1=1\/e.2.1=2->e.2.2.2.2.1= -1
 s2:¬(e.2.1=1\/e.2.1=2)->0<=e.2.2.2.2.1/\e.2.2.2.2.1<l! w.2.2.2.2.2/\(geti pW w.2.2.2.2.2 e.2.2.2.2.1).1=e.1
 de:0<l! e.2.2.2.2.2.1->e.2.1=5\/(e.2.1=3\/e.2.1=4)/\¬(geti lL w.1 e.2.2.1).2.2.1=0
 fr:0<l! e.2.2.2.2.2.2->e.2.1=4\/e.2.1=22
 nd:AN (geti aP s.2.2.2 e.1) e.2.2.2.2.2.1
 nf:AN (geti aP s.2.2.2 e.1) e.2.2.2.2.2.2
 va:VA w s.1 s.2.1 s.2.2.1 e.1 e.2.1 e.2.2.1 e.2.2.2.1
def ceP (z:η) (e:ET):η:=if e.2.1=4 then cC z e.2.2.1 e.2.2.2.1 else z
def fuP (z:η) (e:ET):η:=if e.2.1=22 then cC z e.2.2.1 e.2.2.2.1 else z
def nxP (w:WT) (s:SN) (e:ET):SN:=((po w s.1 e.1 e.2.1 e.2.2.1 e.2.2.2.1).1,ceP s.2.1 e,fuP s.2.2.1 e,cC s.2.2.2 e.1 (bn .i64 (geti aP s.2.2.2 e.1+1)))
def IZ (w:WT) (s:SN) (hs:NB i s) (hw:l! w.2.2.1<=1000) (e:ET) (hd:l! e.2.2.2.2.2.1<=1000000000\/(geti aP s.2.2.2 e.1:Int)<=1000000000) (hf:l! e.2.2.2.2.2.2<=1000000000\/(geti aP s.2.2.2 e.1:Int)<=1000000000):Ok (s5 (w,s,e)) λy=>(y.2=J->EN w s.1 e.1 e.2.1 e.2.2.1/\SP i s y.1/\S16 w s e/\y.1=nxP w s e)/\(y.2=af->y.1=sn0):=by
 have hz:∀{Q:SN×Bool->Prop},Q (sn0,af)->Ok (Z (sn0,af)) Q:=λh=>ak h
 have z0:((sn0,af).2=J->EN w s.1 e.1 e.2.1 e.2.2.1/\SP i s (sn0,af).1/\S16 w s e/\(sn0,af).1=nxP w s e)/\((sn0,af).2=af->(sn0,af).1=sn0):=⟨nofun,λ_=>rfl⟩
 unfold s5 bk bB bP cP eU c_ dQ ef iF xa ck bm bV jY bT bW kf bc c8 aI cS;refine aV (λx=>x.2=(w,s,e,0)/\(x.1=af->F16 w s/\(EN w s.1 e.1 e.2.1 e.2.2.1/\UQ w s.1 e.1 e.2.1 e.2.2.1)/\lA (w,s.1,e.1,e.2.1,e.2.2.1)=Z J)) ?_ ?_
 .refine aw (agm w s hw) λb hb=>?_
  with_reducible repeat' first|apply OS.ok;constructor|refine IM.mk λ_=>?_
  .exact⟨rfl,nofun⟩
  simp only[awz,obs];with_reducible repeat' first|apply OS.ok;constructor|refine IM.mk λ_=>?_
  .exact⟨rfl,nofun⟩
  .exact⟨rfl,nofun⟩
  .exact⟨rfl,nofun⟩
  let⟨c,hc0,hc⟩:=Pn w s.1 hs.sb hw e.1 e.2.1 e.2.2.1;refine aX hc0 (ak ⟨rfl,λh=>?_⟩);have h:c=J:=by simpa using h
  exact⟨hb (by assumption),hc h,h▸hc0⟩
 rintro⟨A,L⟩ ⟨z,hx⟩;dsimp only at z hx;subst z;refine aQ (λ_=>hz z0) λh1=>?_
 let⟨hF,⟨hE,hR⟩,hEn⟩:=hx h1;clear hx h1;refine aV (λx=>x=(w,s,e,0)/\(e.2.1=1\/e.2.1=2->e.2.2.2.2.1= -1)/\(¬(e.2.1=1\/e.2.1=2)->0<=e.2.2.2.2.1/\e.2.2.2.2.1<l! w.2.2.2.2.2/\(geti pW w.2.2.2.2.2 e.2.2.2.2.1).1=e.1)) ?_ ?_
 .refine aV (λx=>x.2=(w,s,e,0)/\(x.1=J->e.2.1=1\/e.2.1=2)/\(x.1=af->¬(e.2.1=1\/e.2.1=2))) ?_ ?_
  .refine aK (λh=>ak ⟨rfl,λ_=>.inl h,nofun⟩) λh=>ak ⟨rfl,λD=>.inr (bJ D),λD=>?_⟩
   have:=YA D;exact λh3=>h3.elim h this
  rintro⟨A,L⟩ ⟨z,hy1,hy2⟩;dsimp only at z hy1 hy2;subst z;refine aQ (λhk=>?_) λhk=>?_
  .exact cj (λ_=>ak z0) λh=>ak ⟨rfl,λ_=>h,λh3=>(h3 (hy1 hk)).elim⟩
  .refine aV (λx=>x.2=(w,s,e,0)/\(x.1=af->0<=e.2.2.2.2.1/\e.2.2.2.2.1<l! w.2.2.2.2.2/\(geti pW w.2.2.2.2.2 e.2.2.2.2.1).1=e.1)) ?_ ?_
   .simp only[awz,obs];refine cj (λ_=>ak ⟨rfl,nofun⟩) λh=>aR h.1 h.2 (aT (ak ⟨rfl,λD=>⟨h.1,h.2,?_⟩⟩))
    simpa using D
   rintro⟨A,L⟩ ⟨z,hz⟩;dsimp only at z hz;subst z;exact aQ (λ_=>ak z0) λh=>ak ⟨rfl,λh3=>((hy2 hk) h3).elim,λ_=>hz h⟩
 rintro x ⟨rfl,hS1,hS2⟩;let⟨nm,t0,t1,cd,e1,e2,e3⟩:=id hE;let⟨_,_,ce,lk,cn,th,fu,_,_,_⟩:=nm;let⟨f1,f2,f3⟩:=id hF;refine aV (λx=>x.2=(w,s,e,0)/\(x.1=J->e.2.1=3\/e.2.1=4)) ?_ ?_
 .with_reducible repeat' first|apply OS.ok;constructor|refine IM.mk λ_=>?_
  .exact⟨rfl,λ_=>.inl (by assumption)⟩
  .exact⟨rfl,λh=>.inr (bJ h)⟩
 rintro⟨A,L⟩ ⟨z,N⟩;dsimp only at z N;subst z;refine aV (λx=>x.2=(w,s,e,0)/\(x.1=af->0<l! e.2.2.2.2.2.1->e.2.1=5\/(e.2.1=3\/e.2.1=4)/\¬(geti lL w.1 e.2.2.1).2.2.1=0)) ?_ ?_
 .refine bQ (λ_=>cj (λ_=>aQ (λh=>?_) λ_=>ak ⟨rfl,nofun⟩) λh5=>ak ⟨rfl,λ_ _=>.inl h5⟩) λh=>ak ⟨rfl,λ_ D=>?_⟩
  .refine aR (ce (N h)).1 (ce (N h)).2 (aT (ak ⟨rfl,λD _=>.inr ⟨N h,?_⟩⟩));simpa using D
  .dsimp only[ay]at h;omega
 rintro⟨A,L⟩ ⟨z,hDe⟩;dsimp only at z hDe;subst z;refine aQ (λ_=>hz z0) λhde=>?_
 refine aV (λx=>x.2=(w,s,e,0)/\(x.1=af->0<l! e.2.2.2.2.2.2->e.2.1=4\/e.2.1=22)) ?_ ?_
 .refine bQ (λ_=>cj (λ_=>ak ⟨rfl,λh _=>.inr (by simpa using h)⟩) λh4=>ak ⟨rfl,λ_ _=>.inl h4⟩) λh=>ak ⟨rfl,λ_ D=>?_⟩
  dsimp only[ay]at h;omega
 rintro⟨A,L⟩ ⟨z,hFr⟩;dsimp only at z hFr;subst z;refine aQ (λ_=>hz z0) λhfr=>?_
 have hk:=hs.k;have hc:=hs.c;have hfu:=hs.f;refine aV (λx=>x.2=(w,s,e,0)/\(x.1=af->AN (geti aP s.2.2.2 e.1) e.2.2.2.2.2.1/\AN (geti aP s.2.2.2 e.1) e.2.2.2.2.2.2/\VA w s.1 s.2.1 s.2.2.1 e.1 e.2.1 e.2.2.1 e.2.2.2.1)) ?_ ?_
 .have hv:=aha w s hs hF e hE;refine aR t0 (by rw[f3];exact t1) (aT (aw (Mu _ _ hd) λb hb=>?_));refine dK (λ_=>ak ⟨rfl,nofun⟩) λb1=>?_
  refine aR t0 (by rw[f3];exact t1) (aT (aw (Mu _ _ hf) λb hb2=>?_));refine dK (λ_=>ak ⟨rfl,nofun⟩) λb2=>?_
  exact aw hv λb hb3=>ak ⟨rfl,λh=>⟨hb b1,hb2 b2,hb3 (by simpa using h)⟩⟩
 rintro⟨A,L⟩ ⟨z,hNum⟩;dsimp only at z hNum;subst z;refine aQ (λ_=>hz z0) λhnu=>?_
 let⟨hN1,hN2,hVA⟩:=hNum hnu;have hS:S16 w s e:=⟨hR,hS1,hS2,hDe hde,hFr hfr,hN1,hN2,hVA⟩
 refine a! (a! (a! ?_));refine aV (λx=>x.2=(w,s,e,0,0,s.2.1,s.2.2.1,s.2.2.2)/\po w s.1 e.1 e.2.1 e.2.2.1 x.1=po w s.1 e.1 e.2.1 e.2.2.1 e.2.2.2.1) ?_ ?_
 .exact aK (λ_=>ak ⟨rfl,rfl⟩) λh=>ak ⟨rfl,adc _ _ _ _ _ _ _ h⟩
 rintro⟨A,L⟩ ⟨z,hxu⟩;dsimp only at z hxu;subst z;refine aw (Yu w s.1 hs.sb hw e.1 e.2.1 e.2.2.1 A) λy hy=>?_
 let⟨_,_,hap,hyq⟩:=hy.1 (hy.2.2 hEn);rw[hxu]at hyq;refine aV (λx=>x.1=e/\x.2.2.1=y.1/\x.2.2.2.1=ceP s.2.1 e/\x.2.2.2.2=(s.2.2.1,s.2.2.2)) ?_ ?_
 .unfold ceP;refine aK (λh=>?_) λh=>ak ⟨rfl,rfl,(ax h).symm,rfl⟩
  have hc4:=ce (.inr h);with_reducible repeat' first|apply OS.ok;constructor|refine IM.mk λ_=>?_
  all_goals try simp only[ay,tY] at*
  all_goals first|omega|exact (aF h).symm
 rintro⟨A,L,x3,x4,x5,x6⟩ ⟨h1,D,h3,h4⟩;simp only[aU]at h1 D h3 h4;obtain⟨rfl,rfl⟩:=h4;subst h1 D h3;refine aV (λx=>x.1=A/\x.2.2.1=y.1/\x.2.2.2.1=ceP s.2.1 A/\x.2.2.2.2.1=fuP s.2.2.1 A/\x.2.2.2.2.2=s.2.2.2) ?_ ?_
 .unfold fuP;refine aK (λh=>?_) λh=>ak ⟨rfl,rfl,rfl,(ax h).symm,rfl⟩
  have hc4:=fu (.inl h);with_reducible repeat' first|apply OS.ok;constructor|refine IM.mk λ_=>?_
  all_goals try simp only[ay,tY] at*
  all_goals first|omega|exact (aF h).symm
 rintro⟨A,L,x3,x4,x5,x6⟩ ⟨h1,D,h4,h5,h6⟩;simp only at h1 D h4 h5 h6;subst h1 D h4 h5 h6;have l1:l! (ceP s.2.1 A)=l! s.2.1:=by unfold ceP;split<;>simp[bX]
 have l2:l! (fuP s.2.2.1 A)=l! s.2.2.1:=by unfold fuP;split<;>simp[bX]
 with_reducible repeat' first|apply OS.ok;constructor|refine IM.mk λ_=>?_
 all_goals try simp only[ay,tY] at*
 all_goals first|omega|skip
 exact⟨⟨hE,⟨hap,l1,l2,by rw[bX]⟩,hS,by unfold nxP;rw[<- hyq]⟩,nofun⟩
def Yo:Ok (lG ()) λl=>l! l=22:=by
 unfold lG;with_reducible repeat' first|apply OS.ok;constructor|refine IM.mk λ_=>?_
 all_goals rfl
def UK (s:ζ):Ok (l7 s) λ_=>True:=by
 refine aw Yo λl z=>?_
 refine bR (l! l) (λi x=>x=(i:Int)) ?_ ?_ rfl
 .rintro i x hi rfl;with_reducible repeat' first|apply OS.ok;constructor|refine IM.mk λ_=>?_
  all_goals try simp[ay,tY] at*
  all_goals first|omega|exact fL
 .rintro x rfl;with_reducible repeat' first|apply OS.ok;constructor|refine IM.mk λ_=>?_
  all_goals try simp[ay,tY] at*
  all_goals omega
def Sh (c:Int):Ok (ms c) λ_=>True:=by
 unfold ms jZ aI;with_reducible repeat' first|apply OS.ok;constructor|refine IM.mk λ_=>?_
 all_goals exact trivial
def ajh (c:Int):Ok (qN c) λ_=>True:=by
 unfold qN s_ jZ aI;refine gQ (aw (Sh c) λ_ _=>?_);with_reducible repeat' first|apply OS.ok;constructor|refine IM.mk λ_=>?_
 all_goals try exact trivial
 refine aw (P:=λ_=>True) ?_ λ_ _=>?_
 .with_reducible repeat' first|apply OS.ok;constructor|refine IM.mk λ_=>?_
  all_goals exact trivial
 .with_reducible repeat' first|apply OS.ok;constructor|refine IM.mk λ_=>?_
  all_goals exact trivial
def iU (s:ζ):Ok (fT s) λ_=>True:=by
 refine aV (λb=>b=af->l! s<=12) ?_ ?_
 .with_reducible repeat' first|apply OS.ok;constructor|refine IM.mk λ_=>?_
  .grind
  .grind
  .omega
  .grind
  refine aw (Sh _) λ_ _=>?_
  with_reducible repeat' first|apply OS.ok;constructor|refine IM.mk λ_=>?_
  .grind
  refine aw (UK _) λ_ _=>ak λ_=>?_
  grind
 .rintro b z;refine aQ (λ_=>ak trivial) λh=>?_
  have z:=z h;refine bR (l! s) (λi x=>x=(i:Int)) ?_ ?_ rfl
  .rintro i x hi rfl;with_reducible repeat' first|apply OS.ok;constructor|refine IM.mk λ_=>?_
   all_goals try simp[ay,tY] at*
   all_goals first|omega|skip
   refine aw (ajh _) λ_ _=>?_
   with_reducible repeat' first|apply OS.ok;constructor|refine IM.mk λ_=>?_
   .exact trivial
   .exact fL
  .rintro x rfl;with_reducible repeat' first|apply OS.ok;constructor|refine IM.mk λ_=>?_
   all_goals try simp[ay,tY] at*
   all_goals first|omega|exact trivial
def Bt (l:Y ζ) (s:ζ) (D:l! l<=1000000000):Ok (j8 (l,s)) λr=> -1<=r/\r<l! l/\(0<=r->geti (.str) l r=s)/\(r<0->s∉l):=by
 refine bR (l! l) (λi x=>x=(i:Int)/\∀k:Nat,k<i->geti (.str) l (k:Int)≠s) ?_ ?_ ⟨rfl,λk A=>by omega⟩
 .rintro i x hi ⟨rfl,z⟩;with_reducible repeat' first|apply OS.ok;constructor|refine IM.mk λ_=>?_
  all_goals try simp[ay,tY] at*
  all_goals first|omega|skip
  .grind
  .refine ⟨fL,λk A=>?_⟩
   grind
 .rintro x ⟨rfl,z⟩;with_reducible repeat' first|apply OS.ok;constructor|refine IM.mk λ_=>?_
  all_goals try simp only[ay,tY] at*
  all_goals first|omega|skip
  exact⟨by omega,by omega,λh=>by omega,λ_ h=>iT (T:=.str) (p:=λc=>c≠s) z s h rfl⟩
structure VL (w:WT):Prop where
 c:l! w.1<=12
 l:l! w.2.1<=4
 d:l! w.2.2.1<=2
 f:l! w.2.2.2.1<=2
 t0:1<=l! w.2.2.2.2.1
 t:l! w.2.2.2.2.1<=4
 s:l! w.2.2.2.2.2<=60
def aip (w:WT) (h:VL w):Ok (qJ w) λy=>l! y.1<=100:=by
 let⟨D,w2,N,w4,w5,w6⟩:=w;let⟨h1,h2,h3,h4,_,h5,h6⟩:=h;dsimp only at*
 unfold qJ bk bB bP cP dQ xa bm bV jY bT bW bc c8 aI cS;refine qi (λx=>((l! D:Int)-x.1).toNat) (λx=>x.2.1=(D,w2,N,w4,w5,w6)/\0<=x.1/\x.1<=(l! D:Int)/\(l! x.2.2:Int)<=x.1) ?_ ⟨rfl,by simp,by simp,by simp⟩;rintro⟨x1,x2,x3⟩ ⟨e,g1,g2,g3⟩;dsimp only at e g1 g2 g3;subst e;refine bQ (λg4=>?_) λg4=>?_
 .dsimp only[ay]at g4;refine aV (λx=>x.2.1=(D,w2,N,w4,w5,w6)/\x1<x.1/\x.1<=(l! D:Int)/\(l! x.2.2:Int)<=x.1) ?_ ?_
  .refine bF (aT (a! ?_));refine aK (λ_=>?_) λ_=>?_
   .with_reducible repeat' first|apply OS.ok;constructor|refine IM.mk λ_=>?_
    .exact kV _
    .rw[iI];exact⟨rfl,by dsimp only;omega,by dsimp only;omega,by simp;omega⟩
   .generalize hz:geti _ _ x1=z;obtain⟨z1,(z2:Int),(L:Int),z4,z5⟩:=z;dsimp only;refine aV (λx=>x.2=((D,w2,N,w4,w5,w6),x3++[z1],z1,z2,L,z4,z5)/\(x.1=af->1<=L/\L<=4/\x1+L<=l! D)) ?_ ?_
    .with_reducible repeat' first|apply OS.ok;constructor|refine IM.mk λ_=>?_
     .exact⟨rfl,nofun⟩
     .exact⟨rfl,nofun⟩
     .refine ⟨rfl,λh=>?_⟩;dsimp only[ay] at*
      rw[iI,ji]at h;omega
    .rintro⟨b,y⟩ ⟨e,hb⟩;dsimp only at e hb;subst e;refine aQ (λ_=>ak (kV _)) λh=>?_
     let⟨q1,q2,q3⟩:=hb h;refine qi (λx=>(L-x.1).toNat) (λx=>x.2=((D,w2,N,w4,w5,w6),x3++[z1],z1,z2,L,z4,z5)/\0<=x.1/\x.1<=L) ?_ ⟨rfl,by simp,by dsimp only;omega⟩;rintro⟨k,y⟩ ⟨e,k0,k1⟩;dsimp only at e k0 k1;subst e;refine bQ (λk2=>?_) λk2=>?_
     .dsimp only at k2;have A:bn .i64 (x1+k)=x1+k:=iI;refine aR (by dsimp only;rw[A];omega) (by dsimp only;rw[A];omega) (aT ?_);refine aV (λx=>x.2=((D,w2,N,w4,w5,w6),x3++[z1],z1,z2,L,z4,z5)) ?_ ?_
      .with_reducible repeat' first|apply OS.ok;constructor|refine IM.mk λ_=>?_
       all_goals rfl
      .rintro⟨b,y⟩ e;dsimp only at e;subst e;refine aQ (λ_=>ak (kV _)) λ_=>ak ?_
       dsimp only;rw[iI];exact⟨⟨rfl,by omega,by omega⟩,by omega⟩
     .dsimp only at k2;refine ak ?_;dsimp only;rw[iI];exact⟨rfl,by omega,by omega,by simp;omega⟩
  .rintro⟨y1,y2,y3⟩ ⟨e,g5,g6,g7⟩;dsimp only at e g5 g6 g7;subst e;refine ak ⟨⟨rfl,by dsimp only;omega,g6,g7⟩,?_⟩;dsimp only;omega
 .dsimp only[ay]at g4;refine aw (P:=λy=>l! y.1<=100) ?_ λy hy=>ak hy
  refine bR (l! w2) (λi x=>x.1=(i:Int)/\x.2.1=(D,w2,N,w4,w5,w6)/\l! x.2.2<=12+i) ?_ ?_ ⟨rfl,rfl,by dsimp only;omega⟩
  .rintro i ⟨a,b,c⟩ hi ⟨A,e2,e3⟩;dsimp only at A e2 e3;subst A e2;with_reducible repeat' first|apply OS.ok;constructor|refine IM.mk λ_=>?_
   all_goals try simp only[ay,tY] at*
   all_goals first|omega|(simp;omega)|skip
   exact⟨fL,by simp;omega⟩
  .rintro⟨a,b,c⟩ ⟨A,e2,e3⟩;dsimp only at A e2 e3;subst A e2;refine bQ (λg4=>(by dsimp only[ay]at g4;omega)) λ_=>?_
   refine aw (P:=λy=>l! y.1<=100) ?_ λy hy=>ak hy
   refine bR (l! N) (λi x=>x.1=(i:Int)/\x.2.1=(D,w2,N,w4,w5,w6)/\l! x.2.2<=16+i) ?_ ?_ ⟨rfl,rfl,by dsimp only;omega⟩
   .rintro i ⟨a,b,c⟩ hi ⟨A,e2,e3⟩;dsimp only at A e2 e3;subst A e2;with_reducible repeat' first|apply OS.ok;constructor|refine IM.mk λ_=>?_
    all_goals try simp only[ay,tY] at*
    all_goals first|omega|(simp;omega)|skip
    exact⟨fL,by simp;omega⟩
   .rintro⟨a,b,c⟩ ⟨A,e2,e3⟩;dsimp only at A e2 e3;subst A e2;refine bQ (λg4=>(by dsimp only[ay]at g4;omega)) λ_=>?_
    refine aw (P:=λy=>l! y.1<=100) ?_ λy hy=>ak hy
    with_reducible repeat' first|apply OS.ok;constructor|refine IM.mk λ_=>?_
    all_goals try simp only[ay,tY] at*
    all_goals first|omega|(simp;omega)
def Yv (T:Int) (o:M ν) (s:π):M ν:=
 match o with
 |none=>U
 |some (t,n)=>if s.1=t/\s.2.1=n then Z (t,n+1) else if t<s.1/\s.1<T/\s.2.1=0 then Z (s.1,1) else U
def Ps (T:Int) (l:Y π):M ν:=l.foldl (Yv T) (Z (0,0))
def SV0 (w:WT):Prop:=Ps (l! w.2.2.2.2.1) w.2.2.2.2.2≠U
def L5 {T:Int} {l:Y π} (hi:i<l! l):Ps T (l.take (i+1))=Yv T (Ps T (l.take i)) (geti pW l (i:Int)):=by
 rw[pL (T:=pW) hi];unfold Ps;rw[eZ];rfl
def U4 (T:Int):∀l:Y π,l.foldl (Yv T) U=U
 |[]=>rfl
 |_::r=>U4 T r
def ab8 {l:Y π} (h:Ps a l≠U) (i:Nat):Ps a (l.take i)≠U:=λz=>h (by
 unfold Ps at z ⊢;rw[<- EG i l,eZ,z,U4])
def ahn {t n:Int} {z:π} (h:Yv a (Z (t,n)) z≠U):Yv a (Z (t,n)) z=Z (z.1,z.2.1+1)/\(z.1=t/\z.2.1=n\/t<z.1/\z.1<a/\z.2.1=0):=by
 unfold Yv at h ⊢
 grind
def Ey (w:WT):Ok (iz w) λb=>b=J->VL w/\SV0 w:=by
 unfold iz bk bB bP cP ef iF bm bV jZ jY bT bW bc c8 aI cS;refine aV (λx=>x.2=w/\(x.1=af->VL w)) ?_ ?_
 .with_reducible repeat' first|apply OS.ok;constructor|refine IM.mk λ_=>?_
  all_goals first|exact⟨rfl,λh=>(by cases h)⟩|skip
  dsimp only[ay] at*
  refine ⟨rfl,λh=>?_⟩;rw[ji]at h;constructor<;>omega
 rintro⟨b,x⟩ ⟨e,hb⟩;dsimp only at e hb;subst e;refine aQ (λ_=>ak λh=>(by cases h)) λh=>?_
 have hv:=hb h;refine aw (aip _ hv) λy hy=>?_
 refine dK (λ_=>ak λh=>(by cases h)) λ_=>?_
 let⟨w1,w2,N,w4,D,A⟩:=x;have h6:=hv.s;have h3:=hv.d;dsimp only at h6 h3;refine bR (l! y.1) (λi x=>x.1=(i:Int)/\x.2=(w1,w2,N,w4,D,A)) ?_ ?_ ⟨rfl,rfl⟩
 .rintro i ⟨a,b⟩ hi ⟨L,e2⟩;dsimp only at L e2;subst L e2;refine bQ (λg4=>?_) λg4=>(by dsimp only[ay]at g4;omega)
  refine aV (λx=>x.2=(w1,w2,N,w4,D,A)) ?_ ?_
  .refine bF (aT (aw (iU _) λ_ _=>?_));refine dK (λ_=>ak rfl) λ_=>?_
   with_reducible repeat' first|apply OS.ok;constructor|refine IM.mk λ_=>?_
   all_goals try simp only[ay,tY] at*
   all_goals first|omega|skip
   refine aw (Bt _ _ (by simp;omega)) λ_ _=>ak rfl
  .rintro⟨a,b⟩ e;dsimp only at e;subst e;with_reducible repeat' first|apply OS.ok;constructor|refine IM.mk λ_=>?_
   .exact λh=>(by cases h)
   .dsimp only;exact⟨fL,rfl⟩
 rintro⟨a,b⟩ ⟨L,e2⟩;dsimp only at L e2;subst L e2;refine bQ (λg4=>(by dsimp only[ay]at g4;omega)) λ_=>?_
 refine aw (P:=λb=>b=J->VL (w1,w2,N,w4,D,A)/\SV0 (w1,w2,N,w4,D,A)) ?_ λy hy=>ak hy
 refine bR (l! N) (λi x=>x.1=(i:Int)/\x.2=(w1,w2,N,w4,D,A)) ?_ ?_ ⟨rfl,rfl⟩
 .rintro i ⟨a,b⟩ hi ⟨L,e2⟩;dsimp only at L e2;subst L e2;refine bQ (λg4=>?_) λg4=>(by dsimp only[ay]at g4;omega)
  refine bF (aT ?_);refine aV (λx=>x.2=(w1,w2,N,w4,D,A)) ?_ ?_
  .with_reducible repeat' first|apply OS.ok;constructor|refine IM.mk λ_=>?_
   all_goals try simp only[ay,tY] at*
   all_goals first|omega|rfl
  .rintro⟨a,b⟩ e;dsimp only at e;subst e;with_reducible repeat' first|apply OS.ok;constructor|refine IM.mk λ_=>?_
   .exact λh=>(by cases h)
   .dsimp only;exact⟨fL,rfl⟩
 rintro⟨a,b⟩ ⟨L,e2⟩;dsimp only at L e2;subst L e2;refine bQ (λg4=>(by dsimp only[ay]at g4;omega)) λ_=>?_
 refine aw (P:=λb=>b=J->VL (w1,w2,N,w4,D,A)/\SV0 (w1,w2,N,w4,D,A)) ?_ λy hy=>ak hy
 refine bR (l! A) (λi x=>x.1=(i:Int)/\x.2=(w1,w2,N,w4,D,A)/\Ps (l! D) (A.take i)=Z (if i=0 then (0,0) else ((geti pW A ((i-1:Nat):Int)).1,(geti pW A ((i-1:Nat):Int)).2.1+1))/\(¬i=0->(0:Int)<=(geti pW A ((i-1:Nat):Int)).2.1/\(i:Int)>(geti pW A ((i-1:Nat):Int)).2.1)) ?_ ?_ ⟨rfl,rfl,rfl,λh=>(h rfl).elim⟩
 .rintro i ⟨a,b⟩ hi ⟨L,e2,e3,hpb⟩;dsimp only at L e2;subst L e2;have hw:¬(i:Int)=0->bn .i64 ((i:Int)-1)=((i-1:Nat):Int):=λh=>by rw[iI];omega
  have hnx:=L5 (T:=l! D) hi;rw[e3]at hnx;clear e3;refine bQ (λg4=>?_) λg4=>(by dsimp only[ay]at g4;omega)
  refine aV (λx=>x=(w1,w2,N,w4,D,A)/\Ps (l! D) (A.take (i+1))=Z (((geti pW A (i:Int)).1,(geti pW A (i:Int)).2.1+1))/\(0:Int)<=(geti pW A (i:Int)).2.1/\((i+1:Nat):Int)>(geti pW A (i:Int)).2.1) ?_ ?_
  .refine bF (aT ?_);rw[hnx];generalize hz:geti pW A (i:Int)=z;obtain⟨(z1:Int),(z2:Int),(z3:Int)⟩:=z;dsimp only;refine aV (λx=>x.2=((w1,w2,N,w4,D,A),z1,z2,z3)/\(x.1=af->0<=z1/\z1<l! D)) ?_ ?_
   .refine bQ (λ_=>ak ⟨rfl,λh=>(by cases h)⟩) λg=>ak ⟨rfl,λh=>⟨g,?_⟩⟩
    rw[m8]at h;exact h
   rintro⟨c,y⟩ ⟨e,hzr⟩;dsimp only at e hzr;subst e;refine aQ (λ_=>ak λh=>(by cases h)) λhzb=>?_
   let⟨z0,zT⟩:=hzr hzb;refine aV (λx=>x.2=((w1,w2,N,w4,D,A),z1,z2,z3)/\(x.1=J->i=0\/¬(geti pW A ((i-1:Nat):Int)).1=z1)/\(x.1=af->¬(i:Int)=0/\(geti pW A ((i-1:Nat):Int)).1=z1)) ?_ ?_
   .refine aK (λh=>ak ⟨rfl,λ_=>.inl (by have h:((i:Nat):Int)=0:=h;omega),λh=>(by cases h)⟩) λh=>?_
    rw[hw h];refine bF (aT (ak ⟨rfl,λh2=>.inr (by simpa using h2),λh2=>⟨h,by simpa using h2⟩⟩))
   rintro⟨c,y⟩ ⟨e,hc1,hc⟩;dsimp only at e hc1 hc;subst e;refine aQ (λhct=>?_) λhcf=>?_
   .refine aV (λx=>x.2=(w1,w2,N,w4,D,A)/\(x.1=af->z2=0/\(¬i=0->((geti pW A ((i-1:Nat):Int)).1:Int)<z1))) ?_ ?_
    .refine cj (λ_=>ak ⟨rfl,λh=>(by cases h)⟩) λhz2=>?_
     refine bQ (λh=>?_) λhi0=>ak ⟨rfl,λ_=>⟨hz2,λh=>by have hi0:((i:Nat):Int)<=0:=hi0;omega⟩⟩
     have h:(0:Int)<((i:Nat):Int):=h;rw[hw (by omega)];refine bF (aT (ak ⟨rfl,λh2=>⟨hz2,λh3=>?_⟩⟩));rw[ji]at h2;have h4:=(hc1 hct).resolve_left h3;have h2:(geti pW A ((i-1:Nat):Int)).1<=z1:=h2;exact Int.lt_iff_le_and_ne.2 ⟨h2,h4⟩
    rintro⟨c,y⟩ ⟨e,hy⟩;dsimp only at e hy;subst e;refine aQ (λ_=>ak λh=>(by cases h)) λh=>ak ⟨rfl,?_⟩
    let⟨q1,q2⟩:=hy h;have q1:z2=0:=q1;subst q1;refine ⟨?_,dg 0,by show _>(0:Int);omega⟩;unfold Yv
    grind
   .obtain⟨hi0,hpr⟩:=hc hcf;rw[hw hi0];refine bF (aT ?_);refine cj (λ_=>ak λh=>(by cases h)) λh=>ak ⟨rfl,?_⟩
    let⟨b0,b1⟩:=hpb (by omega);have h:z2=bn .i64 ((geti pW A ((i-1:Nat):Int)).2.1+1):=h;rw[iI]at h;refine ⟨?_,by omega,by omega⟩;rw[ax (by omega)];unfold Yv;dsimp only;rw[aF ⟨hpr.symm,h⟩,hpr,h]
  .rintro x ⟨rfl,hx,hx2⟩;refine ak ?_;dsimp only;refine ⟨fL,rfl,?_,λ_=>hx2⟩;rw[ax (by omega)];exact hx
 .rintro⟨a,b⟩ ⟨L,e2,e3,_⟩;dsimp only at L e2;subst L e2;refine bQ (λg4=>(by dsimp only[ay]at g4;omega)) λ_=>?_
  rw[cY]at e3;exact ak λ_=>⟨hv,by unfold SV0;dsimp only;rw[e3];simp⟩
end
end Go.Proofs.YtcmnmakaoonfgaaGreatDoor.AI
