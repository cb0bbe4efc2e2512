/-
  Texts of the proof, part 3 of 6: what is used to prove the statement. No condition.
-/
import Derived.Test.YtmmgdigihgnnnaaGreatDoorSearchWiderQ1
import Derived.Test.YtmmgdigihgnnnaaGreatDoorProg
import Derived.KernelRfl
namespace Go.Proofs.YtmmgdigihgnnnaaGreatDoor.AI
open Go.RowKit
set_option maxRecDepth 100000
set_option maxHeartbeats 4000000
set_option linter.unusedVariables false
set_option linter.unusedSimpArgs false
set_option linter.defProp false
open _root_.Array renaming replicate→mJ,mapM_eq_mapM_toList→P5
open _root_.Bool renaming true→J,false→aa
open _root_.Int renaming ofNat_eq_natCast→al,toNat→aN,ofNat→aY,tmod→cC,reduceNeg→dA,reduceEq→ec,toNat_natCast→kL,tdiv→wn
open _root_.List renaming length→l!,length→ah,replicate→aD,length_singleton→a_,take→cu,foldl_cons→dz,length_nil→eS,cons_append→ft,length_cons→fX,drop→ig,nil_append→kR,map_nil→wE,set→CL,take_succ_cons→J8,getElem_of_mem→J_
open _root_.Nat renaming beq→aB,testBit→aC,blt→dw,ble→dx,mod_eq_of_lt→lF
open _root_.Option renaming some→Z,none→U,bind_some→aH,map_some→bS,map→ja
open _root_.Prod renaming a→bg,b→bA,c→bQ,d→bY,f→cS,e→dt,g→dv,i→gz,h→ji,j→tb
open Result renaming andThen_ok→cM
open Sem renaming run_bind→eM,run_pure→nB
open _root_.Sum renaming inr→bU,inl→kZ
noncomputable section
section ren
variable {P:Program} {E:Nat->Prop} {nt np:Nat}
variable {w:World} {V:PM} {N:Act} {h:bf}
def Z3 {s:TS} (c:l_ P E nt np V s N w) (src:Nat->Nat) (hsrc:∀n,ow n≠s.nx->src n=n) (hr:cq s.h h) (hinv:km h (s.nx+1))
 (I:∀n b',erHF h n=Z b'->∃b,erHF s.h (src n)=Z b/\∀(φ':PM) (O':Nat->Prop),(∀n,φ' n=V (src n))->(∀x v,cG V (tot E V (erHF s.h)) w x v->cG φ' O' w x v)->∀o,jS V (tot E V (erHF s.h)) w b o->jS φ' O' w b' o)
 (inj:∀n m b b',erHF h n=Z b->erHF h m=Z b'->src n=src m->n=m):∃φ',l_ P E nt np φ' ⟨s.e,h,s.nx+1⟩ N w/\Cx np V φ' (erHF s.h) (erHF h) w w:=by
 have sub:∀n k,V n=Z k->V (src n)=Z k:=λn k A=>by
  have:=c.dom n k A
  grind
 have own_:∀k,own (λn=>V (src n)) (erHF h) k->own V (erHF s.h) k:=by
  rintro k ⟨i,b,h1,h2⟩;let⟨b0,h3,_⟩:=I i b h1;exact⟨src i,b0,h3,h2⟩
 have tot_:∀k,tot E (λn=>V (src n)) (erHF h) k->tot E V (erHF s.h) k:=λk A=>A.imp id (own_ k)
 have keep:∀x v,cG V (tot E V (erHF s.h)) w x v->cG (λn=>V (src n)) (tot E (λn=>V (src n)) (erHF h)) w x v:=λx v h'=>h'.ext sub (ES.refl _ w) λk _ A=>tot_ k A
 refine ⟨λn=>V (src n),⟨⟨λi j b b' k h1 h2 h3 h4=>?_,λn b' hb=>?_,c.zj.el,λg cells hg=>(c.zj.gl g cells hg).ext (ES.refl _ w) λk _ A=>tot_ k A⟩,λt x D=>?_,λn k A=>?_,g9 c.low,hinv,λt x D=>oa hr x (c.qm t x D),c.inert,c.size⟩,⟨ES.refl _ _,λk _ A=>own_ k A,λn hn=>?_⟩⟩
 .obtain⟨b0,q1,_⟩:=I i b h1;let⟨b1,q2,_⟩:=I j b' h2;exact inj i j b b' h1 h2 (c.zj.inj _ _ b0 b1 k q1 q2 h3 h4)
 .obtain⟨b,q1,q2⟩:=I n b' hb;let⟨k,p1,p2,o,p3,p4⟩:=c.zj.at_ _ b q1;exact⟨k,p1,p2,o,p3,q2 _ _ (λ_=>rfl) keep o p4⟩
 .simp[gk]at D;cases he:s.e.get t with
  |none=>rw[he]at D;cases D
  |some q=>
   rw[he]at D;let⟨z,a⟩:=qF s.h q (c.qm t q he);simp[aH,fW hr q z a,af]at D;subst D;exact keep _ _ (c.env t _ (by simp[gk,he,aH,a]))
 .have A:V (src n)=Z k:=A;by_cases e:ow n=s.nx
  .grind
  .rw[hsrc n e]at A;have:=c.dom n k A
   grind
 .have:=c.low
  grind
variable {O:Nat->Prop} {A:TypeId} {K:Y AV}
def US {φ':PM} {O':Nat->Prop} {ty:Y AV} {o:Obj} (hlen:l! ty=l! K) (I:∀(j:Nat) q,ty[j]? =Z q->q.isCell=J/\∃x,K[j]? =Z x/\∀v,cG V O w x v->cG φ' O' w q v) (h:jS V O w ⟨A,.mx K⟩ o):jS φ' O' w ⟨A,.mx ty⟩ o:=by
 let⟨arr,h1,h2,h3⟩:=h;refine ⟨arr,h1,by simp[BC.len]at h2 ⊢;omega,λj q D=>?_⟩;let⟨p1,x,p2,p3⟩:=I j q D;let⟨_,v,p4,p5⟩:=h3 j x p2;exact⟨p1,v,p4,p3 v p5⟩
variable {m i:Nat} {v:Value}
def RZ {φ':PM} {O':Nat->Prop} {q sz:Nat} (h:φ' q=V i) (A:cG V O w (.G i sz m) v):cG φ' O' w (.G q sz m) v:=by
 cases A with
 |G D h1 h2 h3=>exact .G (h.trans D) h1 h2 h3
def XA (φ:PM) (O:Nat->Prop) (w:World) (src:Nat->Nat) (b b':nk):Prop:=∀(φ':PM) (O':Nat->Prop),(∀n,φ' n=φ (src n))->(∀x v,cG φ O w x v->cG φ' O' w x v)->∀o,jS φ O w b o->jS φ' O' w b' o
variable {g:Nat->Nat}
def XA.refl (b:nk):XA V O w g b b:=λ_ _ _ keep _ h=>h.mono keep
variable {T:Ty}
def YM {n:Nat} {ty:TypeId} {xss:Y (Y T.den)} {xs:Y T.den} (h:l! xss<=i):rX i ty T (xss.set n xs)=U:=by
 unfold rX
 grind
def Hp (nx a r j n:Nat):Nat:=if ow n=nx then (match ix n with
 |0=>n
 |k+1=>if k=j then nm r else tP a (k+1)) else n
def xJ (nx a r j k:Nat):Hp nx a r j (tP nx (k+1))=if k=j then nm r else tP a (k+1):=by
 unfold Hp;rw[nu,xv,aK rfl]
variable {c:η}
def aq1 {s:TS} (ls:l_ P E nt np V s N w) {r n:Nat} {kk:ν} {z:Nat} (ho:s.h.get i=Z (.qr (.rr A z) m c kk (Z (r,J,n)))) {s':TS} (h:aq2 s i m r n kk.1 A z c=Z s'):s'.e=s.e/\∃φ',l_ P E nt np φ' s' N w/\Cx np V φ' (erHF s.h) (erHF s'.h) w w:=by
 unfold aq2 at h;split at h
 .rename_i ty2 T a0 xss ty3 p S xs ha hrr;split at h
  .rename_i xs' hxs;split at h
   .rename_i hty;have hty:=eq_of_beq hty;subst hty;cases h;refine ⟨rfl,?_⟩;let⟨ee,exs⟩:=ip hxs;cases ee;have exs:xs'=xs:=exs;subst exs;have hfr:=ls.qw.fresh;have lo:=ls.qw.low i _ ho;have la:=ls.qw.low m _ ha;have lr:=ls.qw.low r _ hrr;have n1:i≠m:=λe=>by rw[e,ha]at ho;cases ho
    have n2:i≠r:=λe=>by rw[e,hrr]at ho;cases ho
    have n3:m≠r:=λe=>by rw[e,hrr]at ha;cases ha
    generalize hjj:kk.1.toNat=j;generalize hh':(((s.h.set i (Z (.qk (.rr A z) s.nx (CL (α:=Int) c j (aY n))))).set m (Z (.qx J 0 0))).set r (Z (.qx p T.size (ah xs')))).set s.nx (Z (.qk (.ir ty3 T) 0 (xM (T:=T) xss kk.1 xs')))=h';have hg:∀o,h'.get o=if o=s.nx then Z (.qk (.ir ty3 T) 0 (xM (T:=T) xss kk.1 xs')) else if o=r then Z (.qx p T.size (ah xs')) else if o=m then Z (.qx J 0 0) else if o=i then Z (.qk (.rr A z) s.nx (CL (α:=Int) c j (aY n))) else s.h.get o:=λo=>by
     rw[<- hh',PT.get_set,PT.get_set,PT.get_set,PT.get_set]
    have hdead:∀n,ow n=r\/ow n=m->erHF h' n=U:=λn hn=>by
     unfold erHF;rcases hn with e|e
     .rw[hg,ay (by omega),aK e];simp only[aH];cases ix n<;>rfl
     .rw[hg,ay (by omega),ay (by omega),aK e];simp only[aH];cases ix n<;>rfl
    have hr:cq s.h h':=λo q hi=>by
     rw[bW]at hi ⊢;rw[hg];by_cases a:o=s.nx
     .rw[a,hfr]at hi;cases hi
     .rw[ay a];by_cases f1:o=r
      .rw[aK f1];rw[f1,hrr]at hi;exact hi
      .rw[ay f1];by_cases f2:o=m
       .rw[f2,ha]at hi;cases hi
       .rw[ay f2];by_cases f3:o=i
        .rw[aK f3];rw[f3,ho]at hi;simp only[aH,kS,Aa,dI]at hi ⊢;exact hi
        .rw[ay f3];exact hi
    have hinv:km h' (s.nx+1):=by
     refine ⟨λo A l hil=>?_,λo c' hic=>?_⟩
     .rw[hg]at hil;split at hil
      .cases hil
      .split at hil
       .cases hil
       .split at hil
        .cases hil
        .split at hil
         .cases hil
         .exact gI hr l (ls.qw.C o _ l hil)
     .rw[hg]at hic;split at hic
      .omega
      .split at hic
       .omega
       .split at hic
        .omega
        .split at hic
         .omega
         .have:=ls.qw.low o c' hic;omega
    have hmN:∀k,erHF h' (tP s.nx (k+1))=rX k ty3 T (CL xss j xs'):=λk=>by
     rw[pO,hg,aK rfl,<-hjj];rfl
    have hmO:∀k,erHF s.h (tP m (k+1))=rX k ty3 T xss:=λk=>by rw[pO,ha];rfl
    have hn0:erHF h' (nm s.nx)=U:=by rw[ct,hg,aK rfl];rfl
    refine Z3 ls (Hp s.nx m r j) (λn hn=>by unfold Hp;rw[ay hn]) hr hinv ?_ ?_
    .intro q b' ty;by_cases a:ow q=s.nx
     .cases hix:ix q with
      |zero=>rw[xq hix,a,hn0]at ty;cases ty
      |succ k=>
       have en:q=tP s.nx (k+1):=by rw[<- a,<-hix,lL]
       subst en;rw[hmN]at ty;rw[xJ];by_cases hk:k=j
       .rw[aK hk];subst hk;refine ⟨b',?_,λφ' O' hφ keep oo hoo=>hoo.mono keep⟩;rw[ct,hrr];have hl:k<ah (α:=Y T.den) xss:=by
         rcases bF k (ah (α:=Y T.den) xss) with h1|h1
         .exact h1
         .have ty:=(YM (ty:=ty3) (T:=T) (xss:=xss) (xs:=xs') (n:=k) h1).symm.trans ty;cases ty
        have ty:=(VZ (ty:=ty3) (T:=T) (xss:=xss) (xs:=xs') hl).symm.trans ty;unfold adk at ty;split at ty
        .cases ty
        next hz=>simp only[aH,lx];rw[ay (by rw[ak];exact λe=>hz e.2)];exact ty
       .rw[ay hk,hmO];exact⟨b',(QJ (ty:=ty3) (T:=T) (xss:=xss) (xs:=xs') hk).symm.trans ty,λφ' O' hφ keep oo hoo=>hoo.mono keep⟩
     .have hs:Hp s.nx m r j q=q:=by unfold Hp;rw[ay a]
      rw[hs];by_cases f1:ow q=r\/ow q=m
      .rw[hdead q f1]at ty;cases ty
      .have f1a:ow q≠r:=λe=>f1 (.inl e)
       have f1b:ow q≠m:=λe=>f1 (.inr e)
       by_cases f2:ow q=i
       .cases hix:ix q with
        |succ k=>
         unfold erHF at ty;rw[hg,ay a,ay f1a,ay f1b,aK f2,hix]at ty;cases ty
        |zero=>
         have en:q=nm i:=by rw[<- f2];exact xq hix
         subst en;rw[d_]at f1a f1b;rw[ct,hg,ay (by omega),ay f1a,ay f1b,aK rfl]at ty;have ty:Z (nk.mk A (.mx (lH s.nx z 0 (CL (α:=Int) c j (aY n)))))=Z b':=ty;cases ty;rw[ct,ho];refine ⟨⟨A,.mx ((lH m z 0 c).set kk.1.toNat (dY J r z n))⟩,rfl,λφ' O' hφ keep oo hoo=>?_⟩;rw[hjj]at hoo;have cl:∀(N k l:Nat),(vB N k z l).isCell=J:=λN k l=>by unfold vB;split<;>rfl
         refine US (by rw[dI,k_,k_,dI]) (λo x' D=>?_) hoo;have D:=D.symm.trans (xL s.nx z (CL (α:=Int) c j (aY n)) 0 o);rw[b9,g_]at D;by_cases hij:j=o
         .subst hij;rw[aK rfl]at D;by_cases hl:j<ah (α:=Int) c
          .rw[aK hl]at D;simp only[bS,af]at D;subst D;refine ⟨cl _ _ _,_,by rw[g_,aK rfl,aK (by rw[k_];exact hl)],λv hv=>?_⟩;have hn2:(aY n).toNat=n:=rfl;rw[hn2];unfold dY at hv;unfold vB;by_cases hz:n=0
           .rw[aK (by simpa using hz)]at hv ⊢;exact keep _ _ hv
           .rw[ay (by simpa using hz)]at hv ⊢;exact RZ (by rw[hφ,xJ,aK rfl]) hv
          .rw[ay hl]at D;cases D
         .rw[ay hij]at D;cases hli:(c:η)[o]? with
          |none=>
           have D:Z x'=ja _ ((c:η)[o]?):=D;rw[hli]at D;cases D
          |some l=>
           have D:Z x'=ja _ ((c:η)[o]?):=D;rw[hli]at D;simp only[bS,af]at D;subst D;refine ⟨cl _ _ _,vB m o z l.toNat,?_,λv hv=>?_⟩
           .rw[g_,ay hij];have:=xL m z c 0 o;rw[b9]at this;refine this.trans ?_;show ja _ ((c:η)[o]?)=_;rw[hli];rfl
           .unfold vB at hv ⊢;by_cases hz:l.toNat=0
            .rw[aK (by simpa using hz)]at hv ⊢;exact keep _ _ hv
            .rw[ay (by simpa using hz)]at hv ⊢;exact RZ (by rw[hφ,xJ,ay (λe=>hij e.symm)]) hv
       .have hb2:(s.h.get (ow q)).bind (QM h' (ow q) (ix q))=Z b':=by
         unfold erHF at ty;rw[hg,ay a,ay f1a,ay f1b,ay f2]at ty;exact ty
        cases hx:s.h.get (ow q) with
        |none=>rw[hx]at hb2;cases hb2
        |some B=>
         rw[hx]at hb2;simp only[aH]at hb2;rw[v6 hr (λA l e=>ls.qw.C _ _ l (by rw[hx,e]))]at hb2;exact⟨b',by unfold erHF;rw[hx];exact hb2,λφ' O' hφ keep oo hoo=>hoo.mono keep⟩
    .intro q I b b' hn hm he;have key:∀n b,erHF h' n=Z b->ow n=s.nx->∃k,n=tP s.nx (k+1):=λn b hn a=>by
      cases hix:ix n with
      |zero=>rw[xq hix,a,hn0]at hn;cases hn
      |succ k=>exact⟨k,by rw[<- a,<-hix,lL]⟩
     have dS:∀k,erHF h' (Hp s.nx m r j (tP s.nx (k+1)))=U:=λk=>by
      refine hdead _ ?_;rw[xJ];split
      .rw[d_];exact .inl rfl
      .rw[nu];exact .inr rfl
     by_cases a:ow q=s.nx
     .obtain⟨k,rfl⟩:=key q b hn a;by_cases f1:ow I=s.nx
      .obtain⟨k2,rfl⟩:=key I b' hm f1;rw[xJ,xJ]at he;have:k=k2:=by
        split at he<;>split at he
        .omega
        .have:=(wL he).2;omega
        .have:=(wL he).2;omega
        .have:=(wL he).2;omega
       rw[this]
      .rw[show Hp s.nx m r j I=I from by unfold Hp;rw[ay f1]]at he;rw[<- he,dS k]at hm;cases hm
     .rw[show Hp s.nx m r j q=q from by unfold Hp;rw[ay a]]at he;by_cases f1:ow I=s.nx
      .obtain⟨k2,rfl⟩:=key I b' hm f1;rw[he,dS k2]at hn;cases hn
      .rw[show Hp s.nx m r j I=I from by unfold Hp;rw[ay f1]]at he;exact he
   .cases h
  .cases h
 .cases h
def Fg (nx a n:Nat):Nat:=if ow n=nx then tP a (ix n) else n
def Up (nx a k:Nat):Fg nx a (tP nx k)=tP a k:=by
 unfold Fg;rw[nu,xv,aK rfl]
def afz (a n:Nat) (B:fm):kS (rnG a n B)=kS B:=by
 cases B with
 |qk F b x=>
  simp[rnG];split<;>rfl
 |_=>rfl
def Mi {F:wd} (h:ah3 F=J):∃ty T,F= .ir ty T:=by
 cases F with
 |ir ty T=>exact⟨ty,T,rfl⟩
 |_=>cases h
variable {z:nk}
def adl {k:Nat} {F:wd} {x:F.ty.den} (q:Ky i k F x=Z z):∃b,Ky m k F x=Z b/\XA V O w (Fg i m) b z:=by
 cases F with
 |ir ty T=>exact⟨z,q,XA.refl _⟩
 |_=>cases q
def akw {b':Nat} {ty:η} (D:MX i (.rr A b') ty=Z z):∃b,MX m (.rr A b') ty=Z b/\XA V O w (Fg i m) b z:=by
 have D:Z (nk.mk A (.mx (lH i b' 0 ty)))=Z z:=D;simp[af]at D;subst D;refine ⟨_,rfl,λφ' O' hφ keep oo hoo=>US (by rw[k_,k_]) (λj x' q=>?_) hoo⟩;rw[xL]at q ⊢;cases hjx:ty[j]? with
 |none=>rw[hjx]at q;cases q
 |some l=>
  rw[hjx]at q;simp only[bS,af]at q;subst q;refine ⟨by unfold vB;split<;>rfl,vB m (0+j) b' l.toNat,rfl,λv I=>?_⟩;unfold vB at I ⊢;by_cases N:(l.toNat==0)=J
  .grind
  .rw[ay N]at I ⊢;exact RZ (by rw[hφ,Up]) I
def adn {F:wd} {x:F.ty.den} (q:MX i F x=Z z):∃b,MX m F x=Z b/\XA V O w (Fg i m) b z:=by
 cases F with
 |rr ty b'=>exact akw q
 |_=>cases q
def aq3 {s:TS} (c:l_ P E nt np V s N w) {s':TS} (h:aq4 s i=Z s'):s'.e=s.e/\∃φ',l_ P E nt np φ' s' N w/\Cx np V φ' (erHF s.h) (erHF s'.h) w w:=by
 unfold aq4 at h;split at h
 .rename_i F a0 x ha;split at h
  .rename_i hF;cases h;refine ⟨rfl,?_⟩;have hfr:=c.qw.fresh;have la:=c.qw.low i _ ha;have hi:=c.qw;generalize hh':((PT.updI (λ_ b=>rnG i s.nx b) 1 0 s.h).set i (Z (.qx J 0 0))).set s.nx (Z (.qk F 0 x))=h';have hg:∀A,h'.get A=if A=s.nx then Z (.qk F 0 x) else if A=i then Z (.qx J 0 0) else (s.h.get A).map (rnG i s.nx):=λA=>by
    rw[<- hh',PT.get_set,PT.get_set,PT.get_updI]
   have hF0:Aa F x=U:=by obtain⟨_,_,rfl⟩:=Mi hF;rfl
   have hFB:∀q,MX q F x=U:=λq=>by obtain⟨_,_,rfl⟩:=Mi hF;rfl
   have hr:cq s.h h':=λA q hq=>by
    rw[bW]at hq ⊢;rw[hg];by_cases f0:A=s.nx
    .grind
    .rw[ay f0];by_cases f1:A=i
     .rw[f1,ha]at hq;simp only[aH,kS,hF0]at hq;cases hq
     .rw[ay f1];cases I:s.h.get A with
      |none=>rw[I]at hq;cases hq
      |some B=>rw[I]at hq;simp only[bS,aH]at hq ⊢;rw[afz];exact hq
   have hinv:km h' (s.nx+1):=by
    refine ⟨λA ty l hil=>?_,λA c' hic=>?_⟩
    .rw[hg]at hil;split at hil
     .cases hil
     .split at hil
      .cases hil
      .cases I:s.h.get A with
       |none=>rw[I]at hil;cases hil
       |some B=>
        rw[I]at hil;simp only[bS,af]at hil;cases B with
        |C ty2 l3=>
         simp only[rnG,fm.C.injEq]at hil;obtain⟨_,rfl⟩:=hil;exact gI hr l3 (hi.C A _ l3 I)
        |qk F b x=>simp only[rnG]at hil;split at hil<;>cases hil
        |_=>cases hil
    .rw[hg]at hic;split at hic
     .omega
     .split at hic
      .omega
      .cases I:s.h.get A with
       |none=>rw[I]at hic;cases hic
       |some B=>have:=hi.low A B I;omega
   have hdead:∀n,ow n=i->erHF h' n=U:=λn hn=>by
    unfold erHF;rw[hg,ay (by omega),aK hn];simp only[aH];cases ix n<;>rfl
   have hn0:erHF h' (nm s.nx)=U:=by
    rw[ct,hg,aK rfl];exact hFB _
   have hmN:∀k,erHF h' (tP s.nx (k+1))=Ky s.nx k F x:=λk=>by rw[pO,hg,aK rfl];rfl
   have hmO:∀k,erHF s.h (tP i (k+1))=Ky i k F x:=λk=>by rw[pO,ha];rfl
   refine Z3 c (Fg s.nx i) (λn hn=>by unfold Fg;rw[ay hn]) hr hinv (λn b' a=>?_) λn m b b' hn hm he=>?_
   .by_cases f0:ow n=s.nx
    .cases hix:ix n with
     |zero=>rw[xq hix,f0,hn0]at a;cases a
     |succ k=>
      have en:n=tP s.nx (k+1):=by rw[<- f0,<-hix,lL]
      subst en;rw[hmN]at a;rw[Up,hmO];exact adl a
    .have hs:Fg s.nx i n=n:=by unfold Fg;rw[ay f0]
     rw[hs];by_cases f1:ow n=i
     .grind
     .cases I:s.h.get (ow n) with
      |none=>
       unfold erHF at a
       grind
      |some B=>
       have D:QM h' (ow n) (ix n) (rnG i s.nx B)=Z b':=by
        unfold erHF at a
        grind
       have same:rnG i s.nx B=B->∃b,erHF s.h n=Z b/\XA V (tot E V (erHF s.h)) w (Fg s.nx i) b b':=λe=>by
        rw[e,v6 hr (λty l e=>hi.C _ _ l (by rw[I,e]))]at D;exact⟨b',by unfold erHF;rw[I];exact D,XA.refl b'⟩
       cases B with
       |qk G b y=>
        by_cases hc:(!(ah3 G)&&aB b i)=J
        .have e0:rnG i s.nx (.qk G b y)= .qk G s.nx y:=by simp only[rnG];rw[aK hc]
         rw[e0]at D;simp only[ak,dE]at hc;have hba:=ar hc.2;subst hba;cases hix:ix n with
         |succ k=>
          rw[hix]at D;cases G with
          |ir ty T=>cases hc.1
          |_=>cases D
         |zero=>
          rw[hix]at D;have hsrc:erHF s.h n=MX b G y:=by unfold erHF;rw[I,hix];rfl
          rw[hsrc];exact adn D
        .exact same (by simp only[rnG];rw[ay hc])
       |_=>exact same rfl
   .have hs:∀n,ow n≠s.nx->Fg s.nx i n=n:=λn hn=>by unfold Fg;rw[ay hn]
    have key:∀n b,erHF h' n=Z b->ow n=s.nx->Fg s.nx i n=tP i (ix n):=λn b hn f0=>by unfold Fg;rw[aK f0]
    by_cases f0:ow n=s.nx
    .rw[key n b hn f0]at he;by_cases f1:ow m=s.nx
     .rw[key m b' hm f1]at he;rw[<- lL n,<-lL m,f0,f1,(wL he).2]
     .rw[hs m f1]at he;rw[<- he,hdead _ (nu ..)]at hm;cases hm
    .rw[hs n f0]at he;by_cases f1:ow m=s.nx
     .rw[key m b' hm f1]at he;rw[he,hdead _ (nu ..)]at hn;cases hn
     .grind
  .cases h
 .cases h
def apz {s:TS} (c:l_ P E nt np V s N w) {s':TS} (h:aq0 s i=Z s'):s'.e=s.e/\∃φ',l_ P E nt np φ' s' N w/\Cx np V φ' (erHF s.h) (erHF s'.h) w w:=by
 unfold aq0 at h;split at h
 next q=>exact aq1 c q h
 .split at h
  .cases h
  .exact aq3 c h
 .cases h
end ren
def Cw:∀(l:Y pQ) (acc:Nat),TW l acc=acc|||TW l 0
 |[],acc=>by simp[TW]
 |o::r,acc=>by
  simp only[TW];cases o.dst with
  |none=>exact Cw r acc
  |some d=>simp only[];rw[Cw r (acc|||kz d),Cw r (0|||kz d),Hd,lJ]
def CV:∀(l:ι) (acc:Nat),OU l acc=acc|||OU l 0
 |[],acc=>by simp[OU]
 |k::r,acc=>by simp only[OU];rw[CV r (acc|||kz k),CV r (0|||kz k),Hd,lJ]
def l8:∀(l:Y Adj) (acc:Nat),pC l acc=acc|||pC l 0
 |[],acc=>by simp[pC]
 |.nil k _ _::r,acc=>by simp only[pC];rw[l8 r (acc|||kz k),l8 r (0|||kz k),Hd,lJ]
 |.ql _ _ _ _::r,acc|.mpt _ _ _::r,acc=>by exact l8 r acc
 |.qz k _::r,acc=>by simp only[pC];rw[l8 r (acc|||kz k),l8 r (0|||kz k),Hd,lJ]
 |.pk _ _ _::r,acc|.tak _ _::r,acc=>by exact l8 r acc
def jE:∀(c:TC) (acc:Nat),c.asg acc=acc|||c.asg 0
 |.jz ops _,acc=>Cw ops acc
 |.seq a b,acc=>by simp[TC.asg];rw[jE b (a.asg acc),jE b (a.asg 0),jE a acc,lJ]
 |.zt A a b,acc=>by simp[TC.asg];rw[jE b (a.asg _),jE b (a.asg (OU A.ks 0)),jE a (OU A.ks acc),jE a (OU A.ks 0),CV A.ks acc,lJ,lJ,lJ]
 |.cond _ a b,acc=>by simp[TC.asg];rw[jE b (a.asg acc),jE b (a.asg 0),jE a acc,lJ]
 |.block _ b,acc=>jE b acc
 |.zq A _ b,acc|.loop A b,acc=>by simp[TC.asg];rw[jE b (OU A.ks acc),jE b (OU A.ks 0),CV A.ks acc,lJ]
 |.adj l c,acc=>by simp[TC.asg];rw[jE c (pC l acc),jE c (pC l 0),l8 l acc,lJ]
 |.split _ _ _ _ c,acc=>jE c acc
 |.unl _ b,acc=>jE b acc
 |.skip,acc|.exit _,acc|.ret,acc|.zd,acc=>by simp[TC.asg]
variable {i m:Nat}
def xg {c:TC} (h:aC (c.asg 0) m=J):aC (c.asg i) m=J:=by rw[jE,bD,h];simp
def lq {c:TC} (h:aC i m=J):aC (c.asg i) m=J:=by rw[jE,bD,h];rfl
def aal:∀{l:ι} {acc k:Nat},k∈l->aC (OU l acc) k=J
 |[],_,_,h=>by cases h
 |x::r,acc,k,h=>by
  simp[OU];rcases bk.1 h with rfl|h
  .rw[CV,bD,bD,b_.2 rfl];simp
  .exact aal h
def Xl:∀{l:Y pQ} {acc:Nat} {o:pQ} {d:Nat},o∈l->o.dst=Z d->aC (TW l acc) d=J
 |[],_,_,_,h,_=>by cases h
 |x::r,acc,o,d,h,hd=>by
  simp[TW];rcases bk.1 h with rfl|h
  .rw[hd];rw[Cw,bD,bD,b_.2 rfl];simp
  .exact Xl h hd
def aaw:∀{e:iu} {q:ι} {vs:Y TV},ny e q=Z vs->l! vs=l! q/\∀(j k:Nat),q[j]? =Z k->∃v,vs[j]? =Z v/\e.get k=Z v
 |e,[],vs,h=>by simp[ny,af]at h;subst h;exact⟨rfl,by simp⟩
 |e,k::r,vs,h=>by
  simp[ny]at h;split at h
  .rename_i v I;split at h
   .rename_i l N;simp[af]at h;subst h;let⟨h1,h2⟩:=aaw N;refine ⟨by simp[h1],λj D A=>?_⟩;cases j with
    |zero=>simp at A;subst A;exact⟨v,rfl,I⟩
    |succ j=>simpa using h2 j D (by grind)
   .cases h
  .cases h
variable {h:bf}
def LU {e:iu} (hi:sG e h):∀{A:ι} {vs:Y TV},ny e A=Z vs->lI h vs=J
 |[],vs,q=>by simp[ny,af]at q;subst q;rfl
 |k::r,vs,q=>by
  simp[ny]at q;split at q
  .rename_i v D;split at q
   next l I=>simp[af]at q;subst q;simp[lI,ak];exact⟨hi k v D,LU hi I⟩
   .cases q
  .cases q
def Fh:∀{e:iu} {q:ι} {vs:Y TV},l! vs=l! q->∀t v,(acb e q vs).get t=Z v->(∃j:Nat,q[j]? =Z t/\vs[j]? =Z v)\/(t∉q/\e.get t=Z v)
 |e,[],[],_,t,v,h=>.inr ⟨by simp,h⟩
 |e,[],_::_,A,t,v,h|e,_::_,[],A,t,v,h=>by simp at A
 |e,k::r,u::l,A,t,v,h=>by
  simp[acb,PT.get_set]at h;split at h
  next D=>subst D;cases h;exact .inl ⟨0,rfl,rfl⟩
  .rename_i D;rcases Fh (by grind) t v h with ⟨j,h1,h2⟩|⟨h1,h2⟩
   .exact .inl ⟨j+1,by simpa using h1,by simpa using h2⟩
   .grind
def vp {e:iu}:∀{q:ι} {k:Nat} {v:TV},(FN i e q).get k=Z v->k∈q/\e.get k=Z v/\vQ v=J/\aC i k=aa
 |[],k,v,h=>by simp[FN,PT.get]at h
 |x::r,k,v,h=>by
  simp[FN]at h;split at h
  .rename_i u A;split at h
   .rename_i D;rw[PT.get_set]at h;split at h
    .grind
    .obtain⟨h1,h2⟩:=vp h;exact⟨by simp[h1],h2⟩
   .obtain⟨h1,h2⟩:=vp h;exact⟨by simp[h1],h2⟩
  .obtain⟨h1,h2⟩:=vp h;exact⟨by simp[h1],h2⟩
def Mc {e0 e:iu}:∀{q:ι},Lh i e0 e q=J->∀k v,k∈q->e0.get k=Z v->vQ v=J->aC i k=aa->∃D,e.get k=Z D
 |[],_,k,v,h,_,_,_=>by cases h
 |x::r,A,k,v,h,I,hf,N=>by
  simp[Lh,ak]at A;rcases bk.1 h with rfl|h
  .grind
  .exact Mc A.2 k v h I hf N
section walk
variable {P:Program} {E:Nat->Prop} {nt np:Nat}
variable {y:AV} {u:TV}
def V2 (A:alr u=J) (q:co h u=Z y):Le y .emp:=by
 cases u with
 |nil=>simp[co,af]at q;subst q;exact Le.nilEmp
 |emp=>simp[co,af]at q;subst q;exact Le.refl _
 |_=>cases A
variable {w:World} {V:PM} {N:Act}
def abx {s:TS} (c:l_ P E nt np V s N w) (ty:TypeId) (T:Ty):l_ P E nt np V ⟨s.e,s.h.set s.nx (Z (.F ty J T [])),s.nx+1⟩ N w/\erHF (s.h.set s.nx (Z (.F ty J T [])))=erHF s.h/\cq s.h (s.h.set s.nx (Z (.F ty J T []))):=by
 have hfr:=c.qw.fresh;have D:cq s.h (s.h.set s.nx (Z (.F ty J T []))):=cq.set λr D=>by rw[bW,hfr]at D;cases D
 have I:erHF (s.h.set s.nx (Z (.F ty J T [])))=erHF s.h:=by
  funext n;by_cases hn:n=nm s.nx
  .subst hn;rw[ct,ct,PT.get_set,aK rfl,hfr];rfl
  .refine mC c.qw D (iU.set (by rw[hfr];rfl) rfl) λi e=>?_
   subst e;rw[PT.get_set,ay (λe=>hn (by rw[e]))]
 refine ⟨⟨by rw[I];exact c.zj,?_,λn k hk=>CK (c.dom n k hk),g9 c.low,c.qw.set D (sr _) (Nat.le_succ _) (λ_ _ he=>by cases he),?_,c.inert,c.size⟩,I,D⟩
 .intro t x A;rw[I];simp[gk]at A;cases he:s.e.get t with
  |none=>rw[he]at A;cases A
  |some q=>
   rw[he]at A;let⟨z,a⟩:=qF s.h q (c.qm t q he);simp[aH,fW D q z a,af]at A;subst A;exact c.env t _ (by simp[gk,he,aH,a])
 .intro t x A;exact oa D x (c.qm t x A)
def Bv :∀{a b:Y TV},lI h a=J->lI h b=J->lI h (a++b)=J
 |[],_,_,q=>q
 |x::r,b,A,q=>by
  simp[lI,ak]at A;simp[ft,lI,ak];exact⟨A.1,Bv A.2 q⟩
def Qp :∀{a:Y TV} (n:Nat),lI h a=J->lI h (a.take n)=J
 |[],n,_=>by simp[lI]
 |x::r,0,_=>rfl
 |x::r,n+1,q=>by
  simp[lI,ak]at q;simp[J8,lI,ak];exact⟨q.1,Qp n q.2⟩
def Qq :∀{a:Y TV} (n:Nat),lI h a=J->lI h (a.drop n)=J
 |[],n,_=>by simp[lI]
 |x::r,0,q=>q
 |x::r,n+1,q=>by
  simp[lI,ak]at q;exact Qq n q.2
variable {R:Type}
def Bp {l:Y R} {x:R} (h:l[i]? =Z x):splice l i [x]=l:=by
 have q:i<l! l:=by grind
 rw[aL q,af]at h;unfold splice;subst h;simp
def aj9 {s:TS} (c:l_ P E nt np V s N w) {id:Nat} {cty:M TypeId} {l:Y TV} {v:TV} (hb:s.h.get id=Z (.C cty l)) (hv:l[i]? =Z v) (hn:alr v=J) (hu:co s.h u=Z .emp) (huo:Qr s.h u=J):
 l_ P E nt np V ⟨s.e,s.h.set id (Z (.C cty (splice l i [u]))),s.nx⟩ N w/\Cx np V V (erHF s.h) (erHF (s.h.set id (Z (.C cty (splice l i [u]))))) w w:=by
 have I:cq s.h (s.h.set id (Z (.C cty (splice l i [u])))):=cq.set λr I=>by rw[bW,hb]at I;cases I
 have hlo:=c.qw.C id _ l hb;let⟨D,a⟩:=fO s.h l hlo;have hsp:cO s.h (splice l i [u])=Z (splice D i [.emp]):=ui i a (by simp[cO,hu]);have hsp':cO (s.h.set id (Z (.C cty (splice l i [u])))) (splice l i [u])=Z (splice D i [.emp]):=iG I _ _ hsp;let⟨y,hy,hey⟩:=mT a i v hv;have hold:erHF s.h (nm id)=Z (aik cty D):=by rw[ct,hb];cases cty<;>(simp [aH,lx,a];rfl)
 have hnew:erHF (s.h.set id (Z (.C cty (splice l i [u])))) (nm id)=Z (aik cty (splice D i [.emp])):=by
  rw[ct,PT.get_set,aK rfl];cases cty<;>(simp [aH,lx,hsp'];rfl)
 have hoth:∀n,n≠nm id->erHF (s.h.set id (Z (.C cty (splice l i [u])))) n=erHF s.h n:=λn hn'=>by
  refine mC c.qw I (iU.set (by rw[hb];rfl) rfl) λj e=>?_
  subst e;rw[PT.get_set,ay (λe=>hn' (by rw[e]))]
 have hdom:uu (erHF s.h) (erHF (s.h.set id (Z (.C cty (splice l i [u]))))):=λn b hb'=>by grind
 have hcell:∀ty,cty=Z ty->∀x∈D,x.isCell=J:=λty hty x A=>by
  subst hty;let⟨k,hk⟩:=eO A;let⟨q,_,_,hat⟩:=c.zj.at_ _ _ hold;let⟨ob,_,hob⟩:=hat;let⟨arr,_,hca⟩:=hob;exact (hca.2 k x hk).1
 have hV:Od (erHF s.h) (erHF (s.h.set id (Z (.C cty (splice l i [u]))))):=⟨hdom,λn b b' h1 h2=>by
  by_cases e:n=nm id
  .subst e;rw[hold]at h1;cases h1;rw[hnew]at h2;cases h2;have hle:iy (erHF s.h) (erHF (s.h.set id (Z (.C cty (splice l i [u]))))) D (splice D i [.emp]):=by
    have:=iy.splice i (iy.refl hdom D) (b:=[y]) (b':=[.emp]) ⟨(V2 hn hey).toH hdom,trivial⟩;rw[Bp hy]at this;exact this
   cases cty with
   |none=>exact ii.none
   |some ty=>
    refine ii.C rfl rfl hle λx A=>?_
    have A:x∈splice D i [.emp]:=A;unfold splice at A;rw[bt,bt,aE]at A;rcases A with (A|A)|A
    .grind
    .subst A;rfl
    .grind
  .rw[hoth n e,h1]at h2;cases h2;exact ii.refl hdom b⟩
 refine ⟨⟨hV.zj c.zj,?_,c.dom,c.low,c.qw.set I (c.qw.low id _ hb) (bi _) (λty l2 he=>?_),?_,c.inert,c.size⟩,⟨ES.refl _ _,λk _ ho=>hdom.own ho,λ_ _=>rfl⟩⟩
 .intro t x A;simp[gk]at A;cases he:s.e.get t with
  |none=>rw[he]at A;cases A
  |some q=>
   rw[he]at A;let⟨z,hz⟩:=qF s.h q (c.qm t q he);simp[aH,fW I q z hz,af]at A;subst A;exact (c.env t _ (by simp[gk,he,aH,hz])).dom hdom
 .simp[fm.C.injEq]at he;obtain⟨_,rfl⟩:=he;refine gI I _ ?_;exact Bv (Bv (Qp _ hlo) (by simp only[lI,huo,uv])) (Qq _ hlo)
 .intro t x A;exact oa I x (c.qm t x A)
def l_.congr {s s':TS} (c:l_ P E nt np V s N w) (he:∀t,s'.e.get t=s.e.get t) (hh:∀i,s'.h.get i=s.h.get i) (I:s'.nx=s.nx):l_ P E nt np V s' N w/\erHF s'.h=erHF s.h:=by
 have D:cq s.h s'.h:=λi r hi=>by rw[bW]at hi ⊢;rw[hh];exact hi
 have a:erHF s'.h=erHF s.h:=by funext n;exact mC c.qw D (λi k=>by rw[hh]) λi _=>hh i
 refine ⟨⟨by rw[a];exact c.zj,?_,by rw[I];exact c.dom,by rw[I];exact c.low,⟨λi ty l q=>?_,λi b q=>?_⟩,λt v hv=>?_,c.inert,c.size⟩,a⟩
 .intro t x A;rw[a];simp[gk,he]at A;cases q:s.e.get t with
  |none=>rw[q]at A;cases A
  |some v=>
   rw[q]at A;let⟨z,hz⟩:=qF s.h v (c.qm t v q);simp[aH,fW D v z hz,af]at A;subst A;exact c.env t _ (by simp[gk,q,aH,hz])
 .rw[hh]at q;exact gI D l (c.qw.C i _ l q)
 .rw[hh]at q;rw[I];exact c.qw.low i b q
 .rw[he]at hv;exact oa D v (c.qm t v hv)
variable {a:Int}
def Us {f:Nat->M R} {r:R}:∀{m i:Nat},spl a f i m=Z r->∃j,a=aY j/\f j=Z r
 |0,i,h=>by cases h
 |m+1,i,h=>by
  rcases oG h with ⟨h1,h2⟩|⟨_,h2⟩
  .grind
  .exact Us h2
def afv {s s':TS} (c:l_ P E nt np V s N w) {kd:IntKind} {v:Int} (h1:ah7 s i m=Z (kd,v)) (h2:X3 s i m kd v=Z s'):l_ P E nt np V s' N w/\erHF s'.h=erHF s.h/\∀t,s'.e.get t=s.e.get t:=by
 unfold ah7 at h1;unfold X3 at h2;cases hk:s.e.get i with
 |none=>rw[hk]at h1;cases h1
 |some x=>
  rw[hk]at h1 h2;cases x with
  |f T q=>
   cases T with
   |int kd'=>
    simp[af,aV]at h1;obtain⟨rfl,rfl⟩:=h1;simp[af]at h2;subst h2;have he:∀t,(s.e.set i (Z (.f (.int kd') q))).get t=s.e.get t:=λt=>by
     rw[PT.get_set];split
     .grind
     .rfl
    let⟨g1,a⟩:=c.congr (s':=⟨s.e.set i (Z (.f (.int kd') q)),s.h,s.nx⟩) he (λ_=>rfl) rfl;exact⟨g1,a,he⟩
   |_=>cases h1
  |H a0 A=>
   simp[]at h1 h2;cases I:s.h.get a0 with
   |none=>rw[I]at h1;cases h1
   |some b=>
    rw[I]at h1 h2;cases b with
    |C ty l=>
     cases ty with
     |none=>cases h1
     |some ty=>
     simp only[]at h1 h2;cases D:l[A+m]? with
     |none=>rw[D]at h1;cases h1
     |some y=>
      rw[D]at h1;cases y with
      |f T q=>
       cases T with
       |int kd'=>
        simp[af,aV]at h1;obtain⟨rfl,rfl⟩:=h1;simp[af]at h2;subst h2;have hh:∀k,(s.h.set a0 (Z (.C (Z ty) (splice l (A+m) [.f (.int kd') q])))).get k=s.h.get k:=λk=>by
         rw[PT.get_set];split
         next e=>subst e;rw[I,Bp D]
         .rfl
        let⟨g1,a⟩:=c.congr (s':=⟨s.e,s.h.set a0 (Z (.C (Z ty) (splice l (A+m) [.f (.int kd') q]))),s.nx⟩) (λ_=>rfl) hh rfl;exact⟨g1,a,λ_=>rfl⟩
       |_=>cases h1
      |_=>cases h1
    |_=>cases h1
  |_=>cases h1
mutual
def Qd (id sz n:Nat):∀v:TV,vQ v=J->OJ id sz n v=v
 |.f _ _,_|.zw _ _ _ _ _,_|.emp,_|.nil,_|.undef,_|.np,_|.qj,_=>rfl
 |.agg l,h|.qp l,h=>by simp[OJ];rw[D_ id sz n l h]
 |.qn _ _ _ _,h|.H _ _,h|.qf _ _ _,h|.G _,h|.zg _ _,h|.mp _,h|.qc _ _,h|.qv _ _,h|.sb _,h=>by cases h
def D_ (id sz n:Nat):∀l:Y TV,rS l=J->IJ id sz n l=l
 |[],_=>rfl
 |x::r,h=>by
  simp[rS,ak]at h;simp only[IJ];rw[Qd id sz n x h.1,D_ id sz n r h.2]
end
section subs
variable {id sz n:Nat} {h h':bf}
mutual
def RJ (hr:cq h h') (hid:eK h' id=Z (aa,sz,n)):∀(v:TV) (y:AV),co h v=Z y->co h' (OJ id sz n v)=Z y
 |.qf i s m,y,he=>by
  simp[co,af]at he;subst he;simp only[OJ];split
  .rename_i hq;simp only[ak]at hq;have e1:=ar hq.1.1;have e2:=ar hq.1.2;have e3:=ar hq.2;subst e1 e2 e3;simp[co,hid,dY,fY,cA,fM]
  .rfl
 |.agg l,y,he|.qp l,y,he|.qv g l,y,he=>by
  simp[co]at he;cases hl:cO h l with
  |none=>rw[hl]at he;cases he
  |some l'=>rw[hl]at he;simp only[OJ,co,xI hr hid l l' hl];exact he
 |.f T v,y,he|.zw T xs j hj off,y,he|.qn _ _ _ _,y,he|.H _ _,y,he|.G _,y,he|.zg _ _,y,he|.emp,y,he|.nil,y,he|.mp _,y,he|.undef,y,he|.np,y,he|.qj,y,he|.qc _ _,y,he|.sb _,y,he=>fW hr _ _ he
def xI (hr:cq h h') (hid:eK h' id=Z (aa,sz,n)):∀(l:Y TV) (l':Y AV),cO h l=Z l'->cO h' (IJ id sz n l)=Z l'
 |[],l',he=>by simp[cO,af]at he;subst he;rfl
 |x::r,l',he=>by
  obtain⟨y,l2,rfl,h1,h2⟩:=db he;exact qA (RJ hr hid x y h1) (xI hr hid r l2 h2)
end
end subs
variable {T:Ty}
def auc {s:TS} (c:l_ P E nt np V s N w) {n:Nat} {s':TS} (hp:pkS s T i m n=Z s'):l_ P E nt np V s' N w/\Cx np V V (erHF s.h) (erHF s'.h) w w/\gR 0 s.e s'.e:=by
 unfold pkS at hp;split at hp
 .rename_i ty l hb;split at hp
  .rename_i hs;have hs:=ar hs;subst hs;split at hp
   .rename_i xs sz hpk;split at hp
    .cases hp
    .rename_i hmid;cases hp;have hm:dP s.h sz:=R6 n l xs sz hpk;let⟨l',hl⟩:=fO s.h l (c.qw.C i _ l hb);have hidlt:=c.qw.low i _ hb;have ny:∀id,((PT.updI (λ_ b=>XZ i T.size n b) 1 0 (dZ sz s.h)).set i (Z (.F ty aa T xs))).get id=if id=i then Z (.F ty aa T xs) else if aC sz id then (s.h.get id).map uO else (s.h.get id).map (XZ i T.size n):=λid=>by
      rw[PT.get_set];by_cases e:id=i
      .rw[aK e,aK e]
      .rw[ay e,ay e,PT.get_updI,iY];split
       .cases A:s.h.get id with
        |none=>rfl
        |some b=>
         let⟨p1,s1,n1,e1⟩:=Mb b;simp only[bS,e1,XZ]
       .rfl
     generalize hH2:((PT.updI (λ_ b=>XZ i T.size n b) 1 0 (dZ sz s.h)).set i (Z (.F ty aa T xs)))=h2 at ny ⊢;have hr:cq s.h h2:=λid r hi=>by
      rw[bW]at hi ⊢;rw[ny];by_cases e:id=i
      .subst e;rw[hb]at hi;cases hi
      .rw[ay e];cases A:s.h.get id with
       |none=>rw[A]at hi;cases hi
       |some b=>
        rw[A]at hi;split
        .exact Ql hi
        .cases b<;>first|exact hi|cases hi
     have hnone:∀id,aC sz id=J->erHF h2 (nm id)=U:=λid hi=>by
      have e:id≠i:=λe=>by subst e;exact hmid hi
      let⟨ty',p',T',xs',D⟩:=hm id hi;rw[ct,ny,ay e,aK hi,D];rfl
     have hme:iU s.h h2:=λid k=>by
      rw[ny];by_cases e:id=i
      .rw[aK e,e,hb];rfl
      .rw[ay e];split
       next hmi=>let⟨ty',p',T',xs',D⟩:=hm id hmi;rw[D];rfl
       .cases A:s.h.get id with
        |none=>rfl
        |some b=>cases b<;>rfl
     have hdom:uu (erHF s.h) (erHF h2):=λq b hq=>by
      rcases M1 hme hq with h0|⟨id,cc,rfl,h3,h4⟩
      .exact⟨b,h0⟩
      rw[ct];rw[ny]at h3;by_cases e:id=i
      .subst e;rw[hb];simp only[aH,lx,hl];exact⟨_,rfl⟩
      .rw[ay e]at h3;cases A:s.h.get id with
       |none=>rw[A]at h3;split at h3<;>cases h3
       |some b0=>
        rw[A]at h3;split at h3
        .grind
        .simp only[bS,af]at h3;subst h3;simp only[aH];cases b0 with
         |C ty0 l0=>
          let⟨l0',hl0⟩:=fO s.h l0 (c.qw.C id _ l0 A);exact⟨aik ty0 l0',by cases ty0<;>(simp only[lx,hl0];rfl)⟩
         |_=>exact⟨_,h4⟩
     have giv:Hk s.h (erHF s.h) (erHF h2) sz:=λid hi=>⟨rfl,hnone id hi⟩
     let⟨hle,hlen⟩:=Ft hdom n l xs sz l' hpk hl giv;have hrow:eK h2 i=Z (aa,T.size,n):=by rw[bW,ny,aK rfl,<-hlen];rfl
     have hV:Od (erHF s.h) (erHF h2):=⟨hdom,λq b b' h3 h4=>by
      rcases M1 hme h4 with h0|⟨id,cc,rfl,h5,h6⟩
      .rw[h3]at h0;cases h0;exact ii.refl hdom _
      rw[ct]at h3;rw[ny]at h5;by_cases e:id=i
      .subst e;rw[aK rfl]at h5;cases h5;rw[hb]at h3;simp only[aH,lx,hl,af]at h3;subst h3;simp only[lx,fY,cA,fM,af]at h6;subst h6;refine ii.C rfl rfl hle λx D=>?_
       simp only[BC.toMx]at D;obtain⟨q,hq,rfl⟩:=cv.1 D;exact vu T _ q hq
      .rw[ay e]at h5;cases A:s.h.get id with
       |none=>rw[A]at h5;split at h5<;>cases h5
       |some b0=>
        rw[A]at h5 h3;split at h5
        .grind
        .simp only[bS,af]at h5;subst h5;have:b=b':=by
          simp only[aH]at h3;cases b0 with
          |C ty0 l0=>
           let⟨l0',hl0⟩:=fO s.h l0 (c.qw.C id _ l0 A);cases ty0<;>
            (simp only[lx,hl0,af]at h3
             simp only[XZ,lx,xI hr hrow l0 l0' hl0,af]at h6;rw[<- h3,<-h6])
          |F ty1 p1 T1 xs1=>
           have I:lx h2 (.F ty1 p1 T1 xs1)=Z b:=h3;exact fP (I.symm.trans h6)
          |qx p1 s1 n1=>
           have I:lx h2 (.qx p1 s1 n1)=Z b:=h3;exact fP (I.symm.trans h6)
          |mp K1 V1 es1=>
           have I:lx h2 (.mp K1 V1 es1)=Z b:=h3;exact fP (I.symm.trans h6)
          |qk F1 a1 x1=>
           have I:lx h2 (.qk F1 a1 x1)=Z b:=h3;exact fP (I.symm.trans h6)
          |qr F1 a1 x1 k1 p1=>
           have I:lx h2 (.qr F1 a1 x1 k1 p1)=Z b:=h3;exact fP (I.symm.trans h6)
         subst this;exact ii.refl hdom b⟩
     refine ⟨⟨hV.zj c.zj,?_,c.dom,c.low,⟨λid ty' l2 A=>?_,λid b A=>?_⟩,?_,c.inert,c.size⟩,⟨ES.refl _ _,λk _ hk=>hdom.own hk,λ_ _=>rfl⟩,?_⟩
     .intro t x D;simp only[gk,PT.get_updI]at D;cases he:s.e.get t with
      |none=>rw[he]at D;cases D
      |some v=>
       rw[he]at D;let⟨z,hz⟩:=qF s.h v (c.qm t v he);simp only[bS,aH,RJ hr hrow v z hz,af]at D;subst D;exact (c.env t _ (by simp only[gk,he,aH,hz])).dom hdom
     .rw[ny]at A;by_cases e:id=i
      .rw[aK e]at A;cases A
      .rw[ay e]at A;cases hg0:s.h.get id with
       |none=>rw[hg0]at A;split at A<;>cases A
       |some b0=>
        rw[hg0]at A;split at A
        .simp only[bS,af]at A;exact (BD A).elim
        .simp only[bS,af]at A;cases b0 with
         |C ty0 l0=>
          simp only[XZ,fm.C.injEq]at A;obtain⟨_,rfl⟩:=A;let⟨l0',hl0⟩:=fO s.h l0 (c.qw.C id _ l0 hg0);exact mB _ _ _ (xI hr hrow l0 l0' hl0)
         |_=>cases A
     .rw[ny]at A;by_cases e:id=i
      .subst e;exact hidlt
      .rw[ay e]at A;cases hg0:s.h.get id with
       |none=>rw[hg0]at A;split at A<;>cases A
       |some b0=>exact c.qw.low id b0 hg0
     .intro t x D;simp only[PT.get_updI]at D;cases he:s.e.get t with
      |none=>rw[he]at D;cases D
      |some v=>
       rw[he]at D;simp only[bS,af]at D;subst D;let⟨z,hz⟩:=qF s.h v (c.qm t v he);exact Ib _ _ _ (RJ hr hrow v z hz)
     .intro k _ v' a;simp only[PT.get_updI]at a;cases he:s.e.get k with
      |none=>rw[he]at a;cases a
      |some v=>
       rw[he]at a;simp only[bS,af]at a;subst a;exact⟨v,rfl,λhf=>Qd _ _ _ v hf⟩
   .cases hp
  .cases hp
 .cases hp
def au8 {s:TS} (c:l_ P E nt np V s N w) {s':TS} (h:PQ s (.qz i m)=Z s'):∃φ',l_ P E nt np φ' s' N w/\Cx np V φ' (erHF s.h) (erHF s'.h) w w/\gR (pC [.qz i m] 0) s.e s'.e:=by
 simp only[PQ]at h;split at h
 .rename_i b o hk;split at h
  .rename_i cty l hb;split at h
   .rename_i id hv;split at h
    .rename_i ty p T xs D;cases h;have hfr:=c.qw.fresh;have hidlt:=c.qw.low id _ D;have hblt:=c.qw.low b _ hb;have hbid:b≠id:=λe=>by rw[e,D]at hb;cases hb
     have hbn:b≠s.nx:=by omega
     have hin:id≠s.nx:=by omega
     generalize hh2:(((s.h.set id (Z (.qx p T.size (l! xs)))).set s.nx (Z (.F ty p T xs))).set b (Z (.C (Z cty) (splice l (o+m) [.G s.nx]))))=h2;have ny:∀k,h2.get k=if k=b then Z (.C (Z cty) (splice l (o+m) [.G s.nx])) else if k=s.nx then Z (.F ty p T xs) else if k=id then Z (.qx p T.size (l! xs)) else s.h.get k:=λk=>by
      rw[<- hh2,PT.get_set,PT.get_set,PT.get_set]
     have hr:cq s.h h2:=λk r hi=>by
      rw[bW]at hi ⊢;rw[ny];by_cases e1:k=b
      .subst e1;rw[hb]at hi;cases hi
      .rw[ay e1];by_cases e2:k=s.nx
       .subst e2;rw[hfr]at hi;cases hi
       .rw[ay e2];by_cases e3:k=id
        .subst e3;rw[aK rfl];rw[D]at hi;exact hi
        .rw[ay e3];exact hi
     have hlo:=c.qw.C b _ l hb;let⟨l',hl'⟩:=fO s.h l hlo;have hrow:co h2 (.G s.nx)=Z (dY p s.nx T.size (l! xs)):=by
      simp only[co,bW,ny];rw[ay hbn.symm];simp only[bJ,aH,kS]
     have hsp:cO h2 (splice l (o+m) [.G s.nx])=Z (splice l' (o+m) [dY p s.nx T.size (l! xs)]):=ui _ (iG hr _ _ hl') (by simp only[cO,hrow]);let⟨y,hy,hey⟩:=mT hl' _ _ hv;have hy0:y=dY p id T.size (l! xs):=by
      simp only[co,bW,D,aH,kS,af]at hey;exact hey.symm
     subst hy0;have hold:erHF s.h (nm b)=Z ⟨cty,.mx l'⟩:=by rw[ct,hb];simp only[aH,lx,hl']
     have hnew:erHF h2 (nm b)=Z ⟨cty,.mx (splice l' (o+m) [dY p s.nx T.size (l! xs)])⟩:=by
      rw[ct,ny,aK rfl];simp only[aH,lx,hsp]
     have hdead:erHF h2 (nm id)=U:=by rw[ct,ny,ay hbid.symm,ay hin,aK rfl];rfl
     have hnx2:erHF h2 (nm s.nx)=if p&&l! xs==0 then U else Z ⟨ty,.fz (xs.flatMap (b8 T))⟩:=by rw[ct,ny,ay hbn.symm,aK rfl];rfl
     have hid0:erHF s.h (nm id)=if p&&l! xs==0 then U else Z ⟨ty,.fz (xs.flatMap (b8 T))⟩:=by rw[ct,D];rfl
     have hoth:∀n,n≠nm b->n≠nm s.nx->n≠nm id->erHF h2 n=erHF s.h n:=λn e1 e2 e3=>mC c.qw hr (iU.of λk=>by
      rw[ny];by_cases f1:k=b
      .rw[aK f1,f1,hb];exact .inr ⟨rfl,rfl⟩
      .rw[ay f1];by_cases f2:k=s.nx
       .rw[aK f2,f2,hfr];exact .inr ⟨rfl,rfl⟩
       .rw[ay f2];by_cases f3:k=id
        .rw[aK f3,f3,D];exact .inr ⟨rfl,rfl⟩
        .rw[ay f3];exact .inl rfl) λk e=>by
      subst e;rw[ny,ay (λe=>e1 (by rw[e])),ay (λe=>e2 (by rw[e])),ay (λe=>e3 (by rw[e]))]
     have hnb:nm b≠nm s.nx:=λe=>hbn (Bw e)
     have hbi:nm b≠nm id:=λe=>hbid (Bw e)
     have hni:nm s.nx≠nm id:=λe=>hin (Bw e).symm
     have hinv:km h2 (s.nx+1):=by
      refine ⟨λk ty2 l2 hil=>?_,λk q hiq=>?_⟩
      .rw[ny]at hil;split at hil
       .simp only[af,fm.C.injEq]at hil;obtain⟨_,rfl⟩:=hil;exact mB _ _ _ hsp
       .split at hil
        .cases hil
        .split at hil
         .cases hil
         .exact gI hr l2 (c.qw.C k _ l2 hil)
      .rw[ny]at hiq;split at hiq
       .omega
       .split at hiq
        .omega
        .split at hiq
         .omega
         .have:=c.qw.low k q hiq;omega
     have hE:∀t x,gk s.e h2 t=Z x->gk s.e s.h t=Z x:=λt x A=>by
      simp only[gk]at A ⊢;cases he:s.e.get t with
      |none=>rw[he]at A;cases A
      |some q=>
       rw[he]at A;let⟨z,hz⟩:=qF s.h q (c.qm t q he);simp only[aH,fW hr q z hz,af]at A;subst A;simp only[aH,hz]
     by_cases hp:(p&&l! xs==0)=J
     ·
      have hH:erHF h2=erHF s.h:=by
       funext n;by_cases e1:n=nm b
       .subst e1;rw[hold,hnew];have:dY p s.nx T.size (l! xs)=dY p id T.size (l! xs):=by unfold dY;rw[aK hp,aK hp]
        rw[this,Bp hy]
       .by_cases e2:n=nm s.nx
        .subst e2;rw[hnx2,aK hp,ct,hfr];rfl
        .by_cases e3:n=nm id
         .subst e3;rw[hdead,hid0,aK hp]
         .exact hoth n e1 e2 e3
      refine ⟨V,⟨by rw[hH];exact c.zj,λt x A=>by rw[hH];exact c.env t x (hE t x A),λn q I=>CK (c.dom n q I),g9 c.low,hinv,λt x A=>oa hr x (c.qm t x A),c.inert,c.size⟩,by rw[hH];exact Cx.refl _ _ _ _,gR.refl _ _⟩
     .have hid1:erHF s.h (nm id)=Z ⟨ty,.fz (xs.flatMap (b8 T))⟩:=by rw[hid0,ay hp]
      let⟨kk,k1,k2,ob,k3,k4⟩:=c.zj.at_ _ _ hid1;have hφn:V (nm s.nx)=U:=by
       cases I:V (nm s.nx) with
       |none=>rfl
       |some q=>have:=c.dom _ q I;rw[d_]at this;omega
      let a:HF:=λn=>if n=nm s.nx then Z ⟨ty,.fz (xs.flatMap (b8 T))⟩ else U
      have hsh:KP w w kk ob:=⟨rfl,rfl,rfl,rfl,k3,λ_ _=>rfl,λ_=>rfl⟩
      let⟨φ',p1,p2,p3,p4⟩:=c.zj.wren hid1 k1 hφn hsh k4 a (by simp[a]) (by simp only[a];rw[ay hni.symm]);have hb1:dX (erHF s.h) [nm s.nx,nm id] a (nm b)=Z ⟨cty,.mx l'⟩:=by
       unfold dX;rw[ay (by simp[hnb,hbi]),hold]
      let⟨kb,b1,b2,ob2,b3,b4⟩:=p4.at_ _ _ hb1;have hlt:o+m<l! l':=by
       rcases bF (o+m) (l! l') with h'|h'
       .exact h'
       .rw[jG h']at hy;cases hy
      have hob:jS φ' (tot E φ' (dX (erHF s.h) [nm s.nx,nm id] a)) w ⟨cty,.mx (splice l' (o+m) [dY p s.nx T.size (l! xs)])⟩ ob2:=by
       rw[tO rfl]at b4 ⊢;let⟨arr,a1,a2⟩:=b4;refine ⟨arr,a1,?_⟩;unfold xi at a2 ⊢;refine ⟨by simp only[BC.len]at a2 ⊢;rw[tp (by simp;omega)];exact a2.1,λj x A=>?_⟩;simp only[BC.get]at A a2;rw[sO (by simp;omega)]at A;split at A
       .exact a2.2 j x A
       .split at A
        .rename_i h3 h4;simp only[a_]at h4;have hj:j=o+m:=by omega
         subst hj;simp only[CE,List.getElem?_cons_zero,af]at A;subst A;let⟨_,v,a3,a4⟩:=a2.2 _ _ hy;unfold dY at a4 ⊢;rw[ay hp]at a4 ⊢;refine ⟨rfl,v,a3,?_⟩;cases a4 with
         |@G _ _ _ cc q hφq hn hc hs2=>
          have:=p2.sub _ _ k1;rw[this,af]at hφq;subst hφq;exact .G p1 hn hc hs2
        .exact a2.2 j x A
      let⟨q1,q2⟩:=p4.wset hb1 b1 (⟨rfl,rfl,rfl,rfl,b3,λ_ _=>rfl,λ_=>rfl⟩:KP w w kb ob2) hob (λn=>if n=nm b then Z ⟨cty,.mx (splice l' (o+m) [dY p s.nx T.size (l! xs)])⟩ else U) (by simp);have hH:dX (dX (erHF s.h) [nm s.nx,nm id] a) [nm b] (λn=>if n=nm b then Z ⟨cty,.mx (splice l' (o+m) [dY p s.nx T.size (l! xs)])⟩ else U)=erHF h2:=by
       funext n;by_cases e1:n=nm b
       .subst e1;rw[hnew];simp[dX]
       .by_cases e2:n=nm s.nx
        .subst e2;rw[hnx2,ay hp];simp[dX,a,hnb.symm]
        .by_cases e3:n=nm id
         .subst e3;rw[hdead];simp[dX,a,hbi.symm,hni.symm]
         .rw[hoth n e1 e2 e3];simp[dX,e1,e2,e3]
      rw[hH]at q1 q2;have off:=p2.trans q1;refine ⟨φ',⟨q2,λt x A=>off.qt (c.env t x (hE t x A)),λn q I=>?_,g9 c.low,hinv,λt x A=>oa hr x (c.qm t x A),c.inert,c.size⟩,⟨ES.refl _ _,off.qh,λk hi=>?_⟩,gR.refl _ _⟩
      .rcases p3 n q I with h4|h4
       .exact CK (c.dom n q h4)
       .simp only[aE]at h4;subst h4;rw[d_];exact sr _
      .cases I:φ' k with
       |none=>
        cases hq2:V k with
        |none=>rfl
        |some z=>rw[p2.sub _ _ hq2]at I;cases I
       |some z=>
        rcases p3 _ _ I with h4|h4
        .exact h4.symm
        .simp only[aE]at h4;subst h4;rw[d_]at hi;have:=c.low;omega
    .cases h
   .cases h
  .cases h
 .rename_i id hk;split at h
  .rename_i ty p T xs D;cases h;have hfr:=c.qw.fresh;have hidlt:=c.qw.low id _ D;have hin:id≠s.nx:=by omega
   generalize hh2:((s.h.set id (Z (.qx p T.size (l! xs)))).set s.nx (Z (.F ty p T xs)))=h2;have ny:∀k,h2.get k=if k=s.nx then Z (.F ty p T xs) else if k=id then Z (.qx p T.size (l! xs)) else s.h.get k:=λk=>by
    rw[<- hh2,PT.get_set,PT.get_set]
   have hr:cq s.h h2:=λk r hi=>by
    rw[bW]at hi ⊢;rw[ny];by_cases e2:k=s.nx
    .subst e2;rw[hfr]at hi;cases hi
    .rw[ay e2];by_cases e3:k=id
     .subst e3;rw[aK rfl];rw[D]at hi;exact hi
     .rw[ay e3];exact hi
   have hrow:co h2 (.G s.nx)=Z (dY p s.nx T.size (l! xs)):=by
    simp only[co,bW,ny,bJ,aH,kS]
   have hrow0:co s.h (.G id)=Z (dY p id T.size (l! xs)):=by
    simp only[co,bW,D,aH,kS]
   have hdead:erHF h2 (nm id)=U:=by rw[ct,ny,ay hin,aK rfl];rfl
   have hnx2:erHF h2 (nm s.nx)=if p&&l! xs==0 then U else Z ⟨ty,.fz (xs.flatMap (b8 T))⟩:=by rw[ct,ny,aK rfl];rfl
   have hid0:erHF s.h (nm id)=if p&&l! xs==0 then U else Z ⟨ty,.fz (xs.flatMap (b8 T))⟩:=by rw[ct,D];rfl
   have hoth:∀n,n≠nm s.nx->n≠nm id->erHF h2 n=erHF s.h n:=λn e2 e3=>mC c.qw hr (iU.of λk=>by
    rw[ny];by_cases f2:k=s.nx
    .rw[aK f2,f2,hfr];exact .inr ⟨rfl,rfl⟩
    .rw[ay f2];by_cases f3:k=id
     .rw[aK f3,f3,D];exact .inr ⟨rfl,rfl⟩
     .rw[ay f3];exact .inl rfl) λk e=>by
    subst e;rw[ny,ay (λe=>e2 (by rw[e])),ay (λe=>e3 (by rw[e]))]
   have hni:nm s.nx≠nm id:=λe=>hin (Bw e).symm
   have hinv:km h2 (s.nx+1):=by
    refine ⟨λk ty2 l2 hil=>?_,λk q hiq=>?_⟩
    .rw[ny]at hil;split at hil
     .cases hil
     .split at hil
      .cases hil
      .exact gI hr l2 (c.qw.C k _ l2 hil)
    .rw[ny]at hiq;split at hiq
     .omega
     .split at hiq
      .omega
      .have:=c.qw.low k q hiq;omega
   have hE:∀t x,t≠i->gk (s.e.set i (Z (.G s.nx))) h2 t=Z x->gk s.e s.h t=Z x:=λt x ht A=>by
    simp only[gk,PT.get_set]at A ⊢;rw[ay ht]at A;cases he:s.e.get t with
    |none=>rw[he]at A;cases A
    |some q=>
     rw[he]at A;let⟨z,hz⟩:=qF s.h q (c.qm t q he);simp only[aH,fW hr q z hz,af]at A;subst A;simp only[aH,hz]
   have hIE:sG (s.e.set i (Z (.G s.nx))) h2:=λt x A=>by
    simp only[PT.get_set]at A;split at A
    .cases A;exact Ib _ _ _ hrow
    .exact oa hr x (c.qm t x A)
   have hKp:gR (pC [.qz i m] 0) s.e (s.e.set i (Z (.G s.nx))):=λt ht v' hv'=>by
    simp only[PT.get_set]at hv';split at hv'
    next et=>subst et;simp only[pC]at ht;rw[bD,b_.2 rfl]at ht;simp at ht
    .exact⟨v',hv',λ_=>rfl⟩
   have hk0:=c.env i (dY p id T.size (l! xs)) (by simp only[gk,hk,aH,hrow0]);by_cases hp:(p&&l! xs==0)=J
   .have hH:erHF h2=erHF s.h:=by
     funext n;by_cases e2:n=nm s.nx
     .subst e2;rw[hnx2,aK hp,ct,hfr];rfl
     .by_cases e3:n=nm id
      .subst e3;rw[hdead,hid0,aK hp]
      .exact hoth n e2 e3
    have hsame:dY p s.nx T.size (l! xs)=dY p id T.size (l! xs):=by unfold dY;rw[aK hp,aK hp]
    refine ⟨V,⟨by rw[hH];exact c.zj,λt x A=>?_,λn q I=>CK (c.dom n q I),g9 c.low,hinv,hIE,c.inert,c.size⟩,by rw[hH];exact Cx.refl _ _ _ _,hKp⟩;rw[hH];by_cases ht:t=i
    .subst ht;simp only[gk,PT.get_set,bJ,aH,hrow,af]at A;subst A;rw[hsame];exact hk0
    .exact c.env t x (hE t x ht A)
   .have hid1:erHF s.h (nm id)=Z ⟨ty,.fz (xs.flatMap (b8 T))⟩:=by rw[hid0,ay hp]
    let⟨kk,k1,k2,ob,k3,k4⟩:=c.zj.at_ _ _ hid1;have hφn:V (nm s.nx)=U:=by
     cases I:V (nm s.nx) with
     |none=>rfl
     |some q=>have:=c.dom _ q I;rw[d_]at this;omega
    let a:HF:=λn=>if n=nm s.nx then Z ⟨ty,.fz (xs.flatMap (b8 T))⟩ else U
    have hsh:KP w w kk ob:=⟨rfl,rfl,rfl,rfl,k3,λ_ _=>rfl,λ_=>rfl⟩
    let⟨φ',p1,p2,p3,p4⟩:=c.zj.wren hid1 k1 hφn hsh k4 a (by simp[a]) (by simp only[a];rw[ay hni.symm]);have hH:dX (erHF s.h) [nm s.nx,nm id] a=erHF h2:=by
     funext n;by_cases e2:n=nm s.nx
     .subst e2;rw[hnx2,ay hp];simp[dX,a]
     .by_cases e3:n=nm id
      .subst e3;rw[hdead];simp[dX,a,hni.symm]
      .rw[hoth n e2 e3];simp[dX,e2,e3]
    rw[hH]at p2 p4;refine ⟨φ',⟨p4,λt x A=>?_,λn q I=>?_,g9 c.low,hinv,hIE,c.inert,c.size⟩,⟨ES.refl _ _,p2.qh,λk hi=>?_⟩,hKp⟩
    .by_cases ht:t=i
     .subst ht;simp only[gk,PT.get_set,bJ,aH,hrow,af]at A;subst A;unfold dY at hk0 ⊢;rw[ay hp]at hk0 ⊢;generalize N.tmps.getD t undef=z at hk0;cases hk0 with
      |@G _ _ _ cc q hφq hn hc hs2=>
       rw[k1,af]at hφq;subst hφq;exact .G p1 hn hc hs2
     .exact p2.qt (c.env t x (hE t x ht A))
    .rcases p3 n q I with h4|h4
     .exact CK (c.dom n q h4)
     .simp only[aE]at h4;subst h4;rw[d_];exact sr _
    .cases I:φ' k with
     |none=>
      cases hq2:V k with
      |none=>rfl
      |some z=>rw[p2.sub _ _ hq2]at I;cases I
     |some z=>
      rcases p3 _ _ I with h4|h4
      .exact h4.symm
      .simp only[aE]at h4;subst h4;rw[d_]at hi;have:=c.low;omega
  .cases h
 .cases h
def arn {s:TS} (c:l_ P E nt np V s N w) {ad:Adj} {s':TS} (h:PQ s ad=Z s') (hnr:∀k off,ad≠ .qz k off) (hnt:∀k off,ad≠ .tak k off):l_ P E nt np V s' N w/\Cx np V V (erHF s.h) (erHF s'.h) w w/\gR (pC [ad] 0) s.e s'.e:=by
 cases ad with
 |qz k off=>exact bc rfl (hnr k off)
 |tak k off=>exact bc rfl (hnt k off)
 |nil k ty T=>
  simp only[PQ]at h;split at h
  .rename_i v hv;split at h
   .rename_i hn;cases h;let⟨D,a,I⟩:=abx c ty T;refine ⟨⟨D.zj,?_,D.dom,D.low,D.qw,?_,D.inert,D.size⟩,by rw[a];exact Cx.refl _ _ _ _,?_⟩
    .intro t x A;simp only[gk,PT.get_set]at A;split at A
     next et=>subst et;simp only[aH,co,bW,PT.get_set,bJ,kS,dY,eS,c9,uv,af]at A;subst A;let⟨z,hz⟩:=qF s.h v (c.qm _ v hv);rw[a];exact V2 hn hz _ _ _ _ (c.env _ _ (by simp only[gk,hv,aH,hz]))
     .exact D.env t x A
    .intro t x A;simp only[PT.get_set]at A;split at A
     .cases A;simp only[Qr,bW,PT.get_set,bJ];rfl
     .exact D.qm t x A
    .intro t ht v' hv';simp only[PT.get_set]at hv';split at hv'
     next et=>subst et;simp only[pC]at ht;rw[bD,b_.2 rfl]at ht;simp at ht
     .exact⟨v',hv',λ_=>rfl⟩
   .cases h;exact⟨c,Cx.refl _ _ _ _,gR.refl _ _⟩
  .cases h
 |ql k off ty T=>
  simp only[PQ]at h;split at h
  .rename_i id o hk;split at h
   .rename_i cty l hb;split at h
    .rename_i v hv;split at h
     .rename_i hn;cases h;let⟨D,a,I⟩:=abx c ty T;have hid:id≠s.nx:=λe=>by have:=c.qw.low id _ hb;omega
      let⟨c2,t2⟩:=aj9 D (id:=id) (cty:=cty) (l:=l) (v:=v) (u:=.G s.nx) (by show (s.h.set s.nx _).get id=_;rw[PT.get_set,ay hid];exact hb) hv hn (by simp only[co,bW,PT.get_set,bJ,aH,kS,dY,eS,c9,uv]) (by simp only[Qr,bW,PT.get_set,bJ];rfl);exact⟨c2,by rw[<- a];exact t2,gR.refl _ _⟩
     .cases h;exact⟨c,Cx.refl _ _ _ _,gR.refl _ _⟩
    .cases h
   .cases h
  .cases h
 |mpt k K φ=>
  simp only[PQ]at h;split at h
  .rename_i id hk;split at h
   .rename_i K' V' es hb;split at h
    .rename_i hE;cases h;have I:cq s.h (s.h.set id (Z (.mp K φ []))):=cq.set λr I=>by rw[bW,hb]at I;cases I
     have a:erHF (s.h.set id (Z (.mp K φ [])))=erHF s.h:=by
      funext n;by_cases hn:n=nm id
      .subst hn;rw[ct,ct,PT.get_set,aK rfl,hb];simp only[aH,lx,HC (aql (ma.1 hE).1),HC (ma.1 hE).2,Yd (ma.1 hE).1,wE]
      .refine mC c.qw I (iU.set (by rw[hb];rfl) rfl) λi e=>?_
       subst e;rw[PT.get_set,ay (λe=>hn (by rw[e]))]
     refine ⟨⟨by rw[a];exact c.zj,?_,c.dom,c.low,c.qw.set I (c.qw.low id _ hb) (bi _) (λ_ _ he=>by cases he),λt x A=>oa I x (c.qm t x A),c.inert,c.size⟩,by rw[a];exact Cx.refl _ _ _ _,gR.refl _ _⟩;intro t x A;rw[a];simp only[gk]at A;cases he:s.e.get t with
     |none=>rw[he]at A;cases A
     |some q=>
      rw[he]at A;let⟨z,hz⟩:=qF s.h q (c.qm t q he);simp only[aH,fW I q z hz,af]at A;subst A;exact c.env t _ (by simp only[gk,he,aH,hz])
    .cases h;exact⟨c,Cx.refl _ _ _ _,gR.refl _ _⟩
   .cases h
  .cases h
 |pk k off T=>
  simp only[PQ]at h;split at h
  .obtain⟨h1,h2,h3⟩:=auc c h;exact⟨h1,h2,h3.mono λk hk=>by simp at hk⟩
  .cases h
def arm {s:TS} (c:l_ P E nt np V s N w) {A:Adj} {s':TS} (h:PQ s A=Z s'):∃φ',l_ P E nt np φ' s' N w/\Cx np V φ' (erHF s.h) (erHF s'.h) w w/\gR (pC [A] 0) s.e s'.e:=by
 by_cases D:∃k off,A= .qz k off
 .obtain⟨k,off,rfl⟩:=D;exact au8 c h
 .by_cases q:∃k off,A= .tak k off
  .obtain⟨k,off,rfl⟩:=q;simp[PQ]at h;split at h
   .obtain⟨he,φ',h1,h2⟩:=apz c h;exact⟨φ',h1,h2,by rw[he];exact gR.refl _ _⟩
   .cases h
  .exact⟨V,arn c h (λk off e=>D ⟨k,off,e⟩) λk off e=>q ⟨k,off,e⟩⟩
def TZ {φ:PM} {a:Act} {w:World}:∀{l:Y Adj} {s s':TS},l_ P E nt np φ s a w->Xt s l=Z s'->∃φ',l_ P E nt np φ' s' a w/\Cx np φ φ' (erHF s.h) (erHF s'.h) w w/\gR (pC l 0) s.e s'.e
 |[],s,s',c,h=>by simp[Xt,af]at h;subst h;exact⟨φ,c,Cx.refl _ _ _ _,gR.refl _ _⟩
 |D::r,s,s',c,h=>by
  simp[Xt]at h;split at h
  .rename_i s1 h1;let⟨φ1,c1,N,k1⟩:=arm c h1;let⟨φ2,c2,I,k2⟩:=TZ c1 h;refine ⟨φ2,c2,N.trans I,(k1.mono ?_).trans (k2.mono ?_)⟩
   .intro k A;cases D with
    |nil q ty T|qz q off=>simp[pC]at A ⊢;rw[l8,bD,A];rfl
    |_=>simp[pC]at A
   .intro k A;cases D with
    |nil q ty T|qz q off=>simp[pC];rw[l8,bD,A];simp
    |_=>simp[pC];exact A
  .cases h
mutual
def VM {h:bf}:∀(v:TV) (y:AV),vQ v=J->co h v=Z y->y.all (λ_=>aa)=J
 |.f _ _,y,_,he|.zw _ _ _ _ _,y,_,he|.emp,y,_,he|.nil,y,_,he|.undef,y,_,he|.np,y,_,he|.qj,y,_,he=>by simp[co,af]at he;subst he;rfl
 |.agg l,y,hl,he|.qp l,y,hl,he=>by
  simp[co]at he;split at he
  .rename_i l' hl';simp[af]at he;subst he;exact H9 l l' hl hl'
  .cases he
 |.qn _ _ _ _,_,h,_|.H _ _,_,h,_|.qf _ _ _,_,h,_|.G _,_,h,_|.zg _ _,_,h,_|.mp _,_,h,_|.qc _ _,_,h,_|.qv _ _,_,h,_=>by cases h
def H9 {h:bf}:∀(l:Y TV) (l':Y AV),rS l=J->cO h l=Z l'->AV.allL (λ_=>aa) l'=J
 |[],l',_,he=>by simp[cO,af]at he;subst he;rfl
 |x::r,l',hl,he=>by
  obtain⟨y,l2,rfl,e1,e2⟩:=db he;simp[rS,ak]at hl;simp[AV.allL,ak];exact⟨VM x y hl.1 e1,H9 r l2 hl.2 e2⟩
end
mutual
def aax (h:bf):∀(v:TV),vQ v=J->Qr h v=J
 |.f _ _,_|.zw _ _ _ _ _,_|.emp,_|.nil,_|.undef,_|.np,_|.qj,_=>rfl
 |.agg l,hl|.qp l,hl=>MP h l hl
 |.qn _ _ _ _,h|.H _ _,h|.qf _ _ _,h|.G _,h|.zg _ _,h|.mp _,h|.qc _ _,h|.qv _ _,h=>by cases h
def MP (h:bf):∀(l:Y TV),rS l=J->lI h l=J
 |[],_=>rfl
 |x::r,hl=>by
  simp[rS,ak]at hl;simp[lI,ak];exact⟨aax h x hl.1,MP h r hl.2⟩
end
structure Seen (np:Nat) (t:Tm) (x:t.ty.den) (us:List TV) (h1:bf) (φ φ':PM) (H:HF) (E:Nat->Prop) (w:World) (la lu:List AV):Prop where
 zj:qE φ' E (erHF h1) w
 val:∀(j:Nat) y v,lu[j]? =Z y->∃z,la[j]? =Z z/\(cG φ (tot E φ H) w z v->cG φ' (tot E φ' (erHF h1)) w y v)
 len:l! lu=l! la
 tot_:∀k,tot E φ' (erHF h1) k->tot E φ H k
 qh:∀k,own φ' (erHF h1) k->own φ H k
 dom:∀n k,φ' n=Z k->ow n<l! t.bs
 par:∀n,ow n<np->ow n<l! t.bs->φ' n=φ n
variable {r:Y TV} {K:Y AV}
def OM {t:Tm} {x:t.ty.den} {h1:bf} {l1:Y (M fm)} (I:oH t x r h1 l1) (hinv:km h i) {vs:Y TV} {σ:PT Nat} {sm:Nat} (A:Lr np t vs h x m σ sm) (hla:cO h vs=Z K) (us:qE V E (erHF h) w):∃φ' lu,cO h1 r=Z lu/\Seen np t x r h1 V φ' (erHF h) E w K lu:=by
 let⟨x1,m1,x2,m2,hx,hmm,gv,gb⟩:=A.ex;have pvg:pH (iF σ) t.vs x1=Z (lb (iF σ) r):=by
  have h3:=vm (iF σ) t.vs x1;have h4:=I.pv;rw[hx,u_]at h4;rw[h3,h4];rfl
 have pbg:qY (iF σ) t.bs x2=Z (l1.map (ja (kQ (iF σ)))):=by
  have h3:=xN (iF σ) t.bs x2;have h4:=I.pb;rw[hx,wI]at h4;rw[h3,h4];rfl
 have hbm:∀nx b,l1[nx]? =Z (Z b)->∃b0,h.get (iF σ nx)=Z b0/\BM (iF σ) h m b0 (kQ (iF σ) b):=λnx b D=>by
  let⟨b0,q1,q2⟩:=MM t.bs 0 x2 m2 _ gb pbg nx (kQ (iF σ) b) (by grind);rw[b9]at q1;exact⟨b0,q1,q2.mono λj hj=>by rw[hmm,bD,hj];simp⟩
 let hv:bf:=Da (iF σ) 0 (l1.map (ja (kQ (iF σ)))) PT.leaf
 have hv_at:∀nx b,l1[nx]? =Z (Z b)->hv.get (iF σ nx)=Z (kQ (iF σ) b):=λnx b D=>by
  have:=wS (iF σ) (l1.map (ja (kQ (iF σ)))) 0 PT.leaf (λa b ha D=>by
   simp only[bj,I.len]at ha D;simp only[b9];exact A.inj a b ha D) nx (Z (kQ (iF σ) b)) (by grind)
  grind
 have hv_ex:∀j c,hv.get j=Z c->∃nx b,l1[nx]? =Z (Z b)/\j=iF σ nx/\c=kQ (iF σ) b:=λj c hj=>by
  by_cases hex:∃nx,nx<l1.length/\j=iF σ nx
  .obtain⟨nx,hi,rfl⟩:=hex;have hcc:=aL hi;cases hcv:l1[nx] with
   |some b=>rw[hcv]at hcc;rw[hv_at nx b hcc]at hj;cases hj;exact⟨nx,b,hcc,rfl,rfl⟩
   |none=>
    rw[hcv]at hcc;have:=wS (iF σ) (l1.map (ja (kQ (iF σ)))) 0 PT.leaf (λa b ha D=>by
     simp only[bj,I.len]at ha D;simp only[b9];exact A.inj a b ha D) nx U (by grind)
    rw[b9]at this;have hj':(Da (iF σ) 0 (l1.map (ja (kQ (iF σ)))) PT.leaf).get (iF σ nx)=Z c:=hj;rw[this]at hj';simp[PT.get]at hj'
  .have:hv.get j=(PT.leaf:bf).get j:=wR (iF σ) _ 0 _ j λk N=>by
    grind
   rw[this]at hj;simp[PT.get]at hj
 have rows_in:An hv h:=λj q hq=>by
  rw[bW]at hq ⊢;cases hc:hv.get j with
  |none=>rw[hc]at hq;cases hq
  |some c=>
   rw[hc]at hq;obtain⟨nx,b,q1,rfl,rfl⟩:=hv_ex j c hc;let⟨b0,q2,q3⟩:=hbm nx b q1;rw[q2];simp only[aH]at hq ⊢;rw[<- q3.G];exact hq
 have rows_h1:∀nx q,eK h1 nx=Z q->eK hv (iF σ nx)=Z q:=λnx q hq=>by
  rw[bW]at hq ⊢;cases D:h1.get nx with
  |none=>rw[D]at hq;cases hq
  |some b=>
   rw[D]at hq;rw[hv_at nx b ((I.at_ nx b).1 D)];simp only[aH,LF]at hq ⊢;exact hq
 have hd:uu (erHF h) (erHF hv):=λn y hy=>by
  let⟨c,h3,h4⟩:=iH hy;obtain⟨nx,b,q1,e,rfl⟩:=hv_ex _ c h3;let⟨b0,q2,q3⟩:=hbm nx b q1;unfold erHF;rw[e,q2];rw[e]at h4;cases N:ix n with
  |zero=>
   rw[N]at h4;exact BM.erB_some hinv q2 q3 h4
  |succ k=>
   rw[N]at h4;exact⟨y,(q3.mem _ _).trans h4⟩
 have gvv:Hk h (erHF h) (erHF hv) m:=λnx hi=>⟨rfl,by
  cases hc:erHF hv (nm nx) with
  |none=>rfl
  |some y=>
   let⟨c,h3,h4⟩:=iH hc;rw[d_]at h3;obtain⟨k,b,q1,rfl,rfl⟩:=hv_ex nx c h3;have N:k<t.bs.length:=by rw[<- I.len];exact (bH.1 q1).1
   have h5:=A.disj _ hi;rw[(A.sig _).2 ⟨k,N,rfl⟩]at h5;cases h5⟩
 have φ:Od (erHF h) (erHF hv):=⟨hd,λn b b' D hb'=>by
  let⟨c,h3,h4⟩:=iH hb';obtain⟨nx,bb,q1,e,rfl⟩:=hv_ex _ c h3;let⟨b0,q2,q3⟩:=hbm nx bb q1;unfold erHF at D;rw[e,q2]at D;rw[e]at h4;have D:QM h (iF σ nx) (ix n) b0=Z b:=D;cases N:ix n with
  |zero=>
   rw[N]at h4 D;exact BM.view hd gvv rows_in q3 D h4
  |succ k=>
   rw[N]at h4 D;have:=(q3.mem _ _).symm.trans D;have h4:zG (iF σ nx) k (kQ (iF σ) bb)=Z b':=h4;rw[h4]at this;cases this;exact ii.refl hd _⟩
 have rv:=φ.zj us;have T:ank t x r h1 (iF σ) V E E (erHF hv) w:=by
  have hat:∀n y,erHF h1 n=Z y->erHF hv (rq (iF σ) n)=Z (y.qz (rq (iF σ))):=λn y hn=>by
   let⟨b,D,hyb⟩:=iH hn;unfold erHF;rw[xm,zO,hv_at _ b ((I.at_ _ b).1 D)];exact CX rows_h1 hyb
  refine qE.toId I A.inj rv hat (λk N=>.inl N) (λn k y hn h4 hE=>?_) rv.el;let⟨k',p1,p2,_⟩:=rv.at_ _ _ (hat n y hn)
  grind
 let⟨lu,hlu⟩:=fO h1 r I.ok;have hlug:cO hv (lb (iF σ) r)=Z (AV.renL (rq (iF σ)) lu):=qu rows_h1 r lu hlu;have hle:=Gb hd rows_in t.vs vs x1 m1 _ K _ gv pvg hla hlug (λnx hi=>gvv nx (by grind));have hall:=u5 r lu I.lt hlu;refine ⟨_,lu,hlu,T.zj,λj y v hy=>?_,?_,λk N=>hd.tot (T.tot_ k N),λk N=>hd.own (T.qh k N),λn k N=>?_,λnx hi D=>?_⟩
 .rw[nZ]at hle;let⟨z,hz,hlz⟩:=hle.get j (y.qz (rq (iF σ))) (by grind);exact⟨z,hz,λhr=>T.val y v (mX hall y (bn hy)) (hlz _ _ _ _ us hr)⟩
 .have:=iy.length hle;rw[nZ,bj]at this;exact this
 .exact (yY N).1
 .rw[af8 D];unfold rq;rw[A.fix _ hi,lL]
def Sl {s':TS} (c:l_ P E nt np V s' N w) {A:Ann} {s0 s1:TS} {x:A.D} (q:Pj np A i s0 s'=Z x) (hs:Kc A i s0 x=Z s1)
 (hk:∀k,k∈A.qt->k∉A.ks->∀v,s0.e.get k=Z v->vQ v=J->aC i k=aa->∀v',s'.e.get k=Z v'->v'=v):∃φ',l_ P E nt np φ' s1 N w/\Cx np V φ' (erHF s'.h) (erHF s1.h) w w:=by
 unfold Pj at q;split at q
 .rename_i hc;simp only[ak]at hc;have hnp:=aX hc.1;split at q
  .rename_i s2 h2;let⟨φ2,c2,t2,_⟩:=TZ c h2;split at q
   .rename_i vs hvs;split at q
    .rename_i z m σ sm hM;simp[af]at q;subst q;have B:=xX hM;unfold Kc at hs;split at hs
     .rename_i us h1 hi;let⟨l1,I⟩:=ya hi;split at hs
      .rename_i hlen;have hlen:=ar hlen;simp[af]at hs;subst hs;let⟨g1,g2⟩:=aaw hvs;have hvok:lI s2.h vs=J:=LU c2.qm hvs;let⟨la,hla⟩:=fO s2.h vs hvok;let⟨φ',lu,hlu,S⟩:=OM (E:=E) I c2.qw B hla c2.zj;refine ⟨φ',⟨S.zj,?_,S.dom,hnp,⟨λam ty l hl=>(I.C am _ l hl).1,λam b hb=>I.lt_len hb⟩,?_,c.inert,c.size⟩,t2.trans ⟨ES.refl _ _,λk _ h=>S.qh k h,λam hi=>S.par am hi (by omega)⟩⟩
       .intro t y a;simp[gk]at a;cases ht:(acb (FN i s0.e A.qt) A.ks us).get t with
        |none=>rw[ht]at a;cases a
        |some v=>
         rw[ht]at a;simp[aH]at a;rcases Fh hlen t v ht with ⟨j,q1,q2⟩|⟨q1,q2⟩
         .obtain⟨y',p1,p2⟩:=mT hlu j v q2;rw[a]at p2;cases p2;let⟨z,p3,p4⟩:=S.val j y (N.tmps.getD t undef) p1;refine p4 ?_;let⟨v0,p5,p6⟩:=g2 j t q1;let⟨z',p7,p8⟩:=mT hla j v0 p5;rw[p3]at p7;cases p7;exact c2.env t _ (by simp[gk,p6,aH,p8])
         .obtain⟨k1,k2,k3,k4⟩:=vp q2;let⟨v',k5⟩:=Mc hc.2 t v k1 k2 k3 k4;have:=hk t k1 q1 v k2 k3 k4 v' k5;subst this;have h3:=c.env t y (by simp[gk,k5,aH];rw[V3 s'.h h1 v' k3];exact a);exact h3.restrict (p:=λ_=>aa) (λam k hi _=>by cases hi) (λk hk=>by
           have h4:=S.tot_ k hk;rcases h4 with h4|h4
           .exact .inl h4
           .exact .inr (by
             have hkl:k<w.heap.size:=by
              let⟨n,b,e1,e2⟩:=h4;let⟨k',p1,_,ob,p3,_⟩:=c2.zj.at_ n b e1
              grind
             exact t2.qh k hkl h4)) (VM v' y k3 a)
       .intro t v hv;rcases Fh hlen t v hv with ⟨j,q1,q2⟩|⟨q1,q2⟩
        .obtain⟨y',_,p2⟩:=mT hlu j v q2;exact Ib _ _ _ p2
        .exact aax _ v (vp q2).2.2.1
      .cases hs
     .cases hs
    .cases q
   .cases q
  .cases q
 .cases q
def Hq {A:Ann} {I N:TS} {x:A.D} (q:Kc A i I x=Z N):gR (OU A.ks 0) I.e N.e/\∀k,k∉A.ks->∀v,N.e.get k=Z v->I.e.get k=Z v:=by
 unfold Kc at q;split at q
 .rename_i us h1 hi;split at q
  .rename_i hlen;have hlen:=ar hlen;simp[af]at q;subst q;have key:∀k,k∉A.ks->∀v,(acb (FN i I.e A.qt) A.ks us).get k=Z v->I.e.get k=Z v:=λk hk v hv=>by
    rcases Fh hlen k v hv with ⟨j,q1,_⟩|⟨_,q2⟩
    .grind
    .exact (vp q2).2.1
   refine ⟨λk hk v' hv=>?_,key⟩;have hnk:k∉A.ks:=λhm=>by rw[aal hm]at hk;cases hk
   grind
  .cases q
 .cases q
end walk
inductive Er:TC->SC->Prop
 |skip:Er .skip .skip
 |jz (ops:List pQ) (prs:List (Nat×Nat)):Er (.jz ops prs) (.jz ops prs)
 |seq {a b:TC} {a' b':SC}:Er a a'->Er b b'->Er (.seq a b) (.seq a' b')
 |zt (A:Ann) {a b:TC} {a' b':SC}:Er a a'->Er b b'->Er (.zt A a b) (.seq a' b')
 |cond (c:Nat) {a b:TC} {a' b':SC}:Er a a'->Er b b'->Er (.cond c a b) (.cond c a' b')
 |block (id:Nat) {b:TC} {b':SC}:Er b b'->Er (.block id b) (.block id b')
 |zq (A:Ann) (id:Nat) {b:TC} {b':SC}:Er b b'->Er (.zq A id b) (.block id b')
 |loop (A:Ann) {b:TC} {b':SC}:Er b b'->Er (.loop A b) (.loop b')
 |exit (id:Nat):Er (.exit id) (.exit id)
 |ret:Er .ret .ret
 |adj (l:List Adj) {c:TC} {c':SC}:Er c c'->Er (.adj l c) c'
 |split (k off lo n:Nat) {c:TC} {c':SC}:Er c c'->Er (.split k off lo n c) c'
 |unl (n:Nat) {b:TC} {b':SC}:Er b b'->Er (.unl n b) (.loop b')
 |zd (c:SC):Er .zd c
def E9 {H:PT ajz} {c:TC} {q:SC} (h:Er c q):Er (Lv H i c) q:=by
 unfold Lv;split
 .exact .adj _ h
 .exact .split _ _ _ _ h
 .exact h
def Ah (H:PT ajz):∀(c:SC) (n:Nat),Er (Ih H c n).1 c
 |.skip,n=>E9 .skip
 |.jz o p,n=>E9 (.jz o p)
 |.seq a b,n=>by
  have h1:=Ah H a (n+1);have h2:=Ah H b (Ih H a (n+1)).2;simp[Ih];split
  .exact .zt _ h1 h2
  .exact .seq h1 h2
 |.cond c a b,n=>by
  have h1:=Ah H a (n+1);have h2:=Ah H b (Ih H a (n+1)).2;exact E9 (.cond c h1 h2)
 |.block id b,n=>by
  have h1:=Ah H b (n+1);simp[Ih];split
  .exact .zq _ id h1
  .exact .block id h1
 |.loop b,n=>by
  have h1:=Ah H b (n+1);simp[Ih];split
  .exact .loop _ h1
  .exact .unl _ h1
  .exact .zd _
 |.exit id,n=>E9 (.exit id)
 |.ret,n=>E9 .ret
 |.zd,n=>.zd _
variable {R:Type}
def acq {σ:Type} {step:σ->M (σ⊕R)} {x:σ} {r:R} (h:iter step x=Z r):∃n,iterN step n x=Z r:=by
 unfold iter at h;split at h
 .exact⟨_,h⟩
 .cases h
def aaq {α:Type} {o:M (R⊕α)} {k:α->M R} {r:R} (h:jn o k=Z r):(∃x,o=Z (.inr x)/\k x=Z r)\/o=Z (.inl r):=by
 unfold jn at h
 grind
section inv
variable {P:Program} {nt:Nat}
def JX (id:Nat) (ops:Array Oper) (q:Bool):bz P nt (.region id ops q)= .zd\/
 ((ops.toList.all λo=>match o.dst with|some d=>decide (d<nt)|none=>J)=J/\
   ∃l prs,nN P ops ops.toList=Z l/\Fr ops l=Z prs/\bz P nt (.region id ops q)= .jz l prs):=by
 simp[bz]
 grind
def Ke:Code->Bool
 |.cond (.const (.bool _)) _ _=>aa
 |_=>J
def lO (P:Program) (nt:Nat) (c:Code):∃q,Ke q=J/\bz P nt q=bz P nt c/\∀Q a w,q.wp P Q a w->c.wp P Q a w:=by
 have self:∀c:Code,Ke c=J->∃q,Ke q=J/\bz P nt q=bz P nt c/\∀Q a w,q.wp P Q a w->c.wp P Q a w:=λc h=>⟨c,h,rfl,λ_ _ _ h=>h⟩
 induction c with
 |cond o x y ihx ihy=>
  cases o with
  |const v=>
   cases v with
   |bool b=>
    cases b with
    |true=>
     let⟨q,h1,h2,h3⟩:=ihx;exact⟨q,h1,h2,λQ a w h=>wp_cond_true rfl (h3 Q a w h)⟩
    |false=>
     let⟨q,h1,h2,h3⟩:=ihy;exact⟨q,h1,h2,λQ a w h=>wp_cond_false rfl (h3 Q a w h)⟩
   |_=>exact self _ rfl
  |_=>exact self _ rfl
 |_=>exact self _ rfl
variable {s:Operand}
def Md {α:Prop} {x y:Code} {sc:SC} (A:Ke (.cond s x y)=J) (h:bz P nt (.cond s x y)=sc) (h1:sc≠ .zd) (h2:∀t a b,sc≠ .cond t a b):α:=by
 cases s with
 |tmp q=>exact (h2 _ _ _ h.symm).elim
 |const v=>cases v<;>first|exact (h1 h.symm).elim|cases A
 |_=>exact (h1 h.symm).elim
def alt {c:Code} {sl:Y pQ} {prs:Y j?} (A:Ke c=J) (h:bz P nt c= .jz sl prs):∃id ops q,c= .region id ops q/\(ops.toList.all λo=>match o.dst with|some d=>decide (d<nt)|none=>J)=J/\nN P ops ops.toList=Z sl/\Fr ops sl=Z prs:=by
 cases c with
 |region id ops q=>
  rcases JX (P:=P) (nt:=nt) id ops q with h1|⟨hd,l,p,h2,h3,h1⟩
  .rw[h1]at h;cases h
  .grind
 |cond o x y=>exact Md A h (by simp) (by simp)
 |_=>simp[bz]at h
def qH {c:Code} {sc:SC} (h:bz P nt c=sc) (h1:sc≠ .zd) (h2:∀a b,sc≠ .jz a b):∀id ops q,c≠ .region id ops q:=by
 rintro id ops q rfl;rcases JX (P:=P) (nt:=nt) id ops q with h4|⟨_,l,p,_,_,h4⟩<;>rw[h4]at h
 .exact h1 h.symm
 .exact h2 _ _ h.symm
def ah4 {c:Code} (q:Ke c=J) (h:bz P nt c= .skip):c= .skip:=by
 have nr:=qH h (by simp) (by simp);cases c with
 |skip=>rfl
 |region id ops A=>exact bc rfl (nr id ops A)
 |cond o x y=>exact Md q h (by simp) (by simp)
 |_=>simp[bz]at h
def als {c:Code} (q:Ke c=J) (h:bz P nt c= .ret):c= .ret:=by
 have nr:=qH h (by simp) (by simp);cases c with
 |ret=>rfl
 |region id ops A=>exact bc rfl (nr id ops A)
 |cond o x y=>exact Md q h (by simp) (by simp)
 |_=>simp[bz]at h
def ah5 {c:Code} (q:Ke c=J) (h:bz P nt c= .exit i):c= .exit i:=by
 have nr:=qH h (by simp) (by simp);cases c with
 |exit id=>simp[bz]at h;rw[h]
 |region id ops A=>exact bc rfl (nr id ops A)
 |cond o x y=>exact Md q h (by simp) (by simp)
 |_=>simp[bz]at h
def aar {c:Code} {a b:SC} (q:Ke c=J) (h:bz P nt c= .seq a b):∃x y,c= .seq x y/\bz P nt x=a/\bz P nt y=b:=by
 have nr:=qH h (by simp) (by simp);cases c with
 |seq x y=>simp[bz]at h;exact⟨x,y,rfl,h.1,h.2⟩
 |region id ops A=>exact bc rfl (nr id ops A)
 |cond o x y=>exact Md q h (by simp) (by simp)
 |_=>simp[bz]at h
def ah6 {c:Code} {a b:SC} (A:Ke c=J) (h:bz P nt c= .cond i a b):∃x y,c= .cond (.tmp i) x y/\bz P nt x=a/\bz P nt y=b:=by
 have nr:=qH h (by simp) (by simp);cases c with
 |cond o x y=>
  cases o with
  |tmp q=>simp[bz]at h;obtain⟨rfl,h1,h2⟩:=h;exact⟨x,y,rfl,h1,h2⟩
  |const v=>cases v<;>first|(simp [bz]at h;done)|cases A
  |_=>simp[bz]at h
 |region id ops D=>exact bc rfl (nr id ops D)
 |_=>simp[bz]at h
def Qx {c:Code} {b:SC} (q:Ke c=J) (h:bz P nt c= .block i b):∃y,c= .block i y/\bz P nt y=b:=by
 have nr:=qH h (by simp) (by simp);cases c with
 |block id y=>simp[bz]at h;obtain⟨rfl,h1⟩:=h;exact⟨y,rfl,h1⟩
 |region i ops A=>exact bc rfl (nr i ops A)
 |cond o x y=>exact Md q h (by simp) (by simp)
 |_=>simp[bz]at h
def U3 {c:Code} {b:SC} (q:Ke c=J) (h:bz P nt c= .loop b):∃y,c= .loop y/\bz P nt y=b:=by
 have nr:=qH h (by simp) (by simp);cases c with
 |loop y=>simp[bz]at h;exact⟨y,rfl,h⟩
 |region id ops A=>exact bc rfl (nr id ops A)
 |cond o x y=>exact Md q h (by simp) (by simp)
 |_=>simp[bz]at h
end inv
def apg (P:Program) (E:Nat->Prop) (nt np:Nat) (φ:PM) (s:TS) (w:World) (am:Nat) (K:Ex->TS->M R) (r:R):Exit->Act->World->Prop:=
 λe q w'=>∃ex s' φ',e=ex.to/\K ex s'=Z r/\l_ P E nt np φ' s' q w'/\Cx np φ φ' (erHF s.h) (erHF s'.h) w w'/\gR am s.e s'.e
variable {P:Program} {w:World} {b:Bool} {O:Nat->Prop} {V:PM} {N:Act}
def l_.bool {s:TS} (c:l_ P O i m V s N w) {t:Nat} (ht:s.e.get t=Z (.f .bool b)):N.eval (.tmp t)= .bool b:=
 dJ (c.env t _ (by simp[gk,ht,aH,co];rfl))
def l_.qj {s:TS} (c:l_ P O i m V s N w) {t:Nat} (ht:s.e.get t=Z .qj):∃b,N.eval (.tmp t)= .bool b:=by
 have:=c.env t .qj (by simp[gk,ht,aH,co]);show ∃b,N.tmps.getD t undef= .bool b;generalize N.tmps.getD t undef=z at this;cases this with
 |qj=>exact⟨_,rfl⟩
def aed {a b:M R} {r:R} (h:yI a b=Z r):a=Z r/\b=Z r:=by
 unfold yI at h
 grind
variable {X:FuncId->M cr} {W:TypeId->M Ty}
def apw {E:Nat->Prop} {inert:FuncId->Bool} (hm:P.follows .mixedOrders=J) (hcon:Hc P X) (hin:EQ P inert):
 ∀{tc:TC} {sc:SC},Er tc sc->∀(c:Code),bz P i c=sc->∀(R:Type) (s:TS) (K:Ex->TS->M R) (r:R),rn m X W inert tc s K=Z r->∀(φ:PM) (a:Act) (w:World),l_ P E i m φ s a w->c.wp P (apg P E i m φ s w (tc.asg 0) K r) a w:=by
 intro tc sc hE;induction hE with
 |skip=>
  intro c hc R s K r h φ a w g;let⟨c',hn,N,hsim⟩:=lO P i c;refine hsim _ _ _ ?_;rw[<- N]at hc;rw[ah4 hn hc];exact wp_skip ⟨.normal,s,φ,rfl,h,g,Cx.refl _ _ _ _,gR.refl _ _⟩
 |jz ops prs=>
  intro c hc R s K r h φ a w g;let⟨c',hn,N,hsim⟩:=lO P i c;refine hsim _ _ _ ?_;rw[<- N]at hc;obtain⟨id,os,dr,rfl,h1,h2,h3⟩:=alt hn hc;simp only[rn]at h;refine ag1 (K:=λs'=>K .normal s') hm hcon g (am:=TW ops 0) (λj o d ho hd=>?_) h1 h2 h3 h λa' w' s' φ' q1 q2 q3 q4=>⟨.normal,s',φ',rfl,q1,q2,q3,q4⟩
  have hmem:o∈os.toList:=by have:=Array.mem_of_getElem? ho;simpa using this
  have key:∀(rest:Y Oper) (sl:Y pQ),nN P os rest=Z sl->∀o∈rest,∃so∈sl,so.dst=o.dst:=by
   intro rest;induction rest with
   |nil=>intro sl _ o ho;cases ho
   |cons x rest ih=>
    intro sl hsl o ho;simp only[nN]at hsl;split at hsl
    .rename_i l hl;have:∃so,sl=so::l/\so.dst=x.dst:=by
      split at hsl
      .simp only[af]at hsl;exact⟨_,hsl.symm,rfl⟩
      .split at hsl
       .simp only[af]at hsl;exact⟨_,hsl.symm,rfl⟩
       .cases hsl
     obtain⟨so,rfl,hso⟩:=this;rcases bk.1 ho with rfl|ho
     .exact⟨so,by simp,hso⟩
     .obtain⟨q,hq,hq2⟩:=ih l hl o ho;exact⟨q,by simp[hq],hq2⟩
    .cases hsl
  let⟨so,hso,hd2⟩:=key os.toList ops h2 o hmem;exact Xl hso (by rw[hd2];exact hd)
 |@seq x y x' y' _ _ ihx ihy=>
  intro c hc R s K r h φ a w g;let⟨c',hn,N,hsim⟩:=lO P i c;refine hsim _ _ _ ?_;rw[<- N]at hc;obtain⟨cx,cy,rfl,h1,h2⟩:=aar hn hc;simp only[rn]at h;refine wp_seq (wp_mono (ihx cx h1 R s _ r h φ a w g) ?_);rintro e a' w' ⟨ex,s',φ',rfl,I,g',st,kp⟩;have kp':gR ((TC.seq x y).asg 0) s.e s'.e:=kp.mono λk I=>by simp only[TC.asg];exact lq I
  cases ex with
  |normal=>
   refine wp_mono (ihy cy h2 R s' K r I φ' a' w' g') ?_;rintro e2 a2 w2 ⟨ex2,s2,φ2,rfl,hk2,g2,st2,kp2⟩;exact⟨ex2,s2,φ2,rfl,hk2,g2,st.trans st2,kp'.trans (kp2.mono λk I=>by simp only[TC.asg];exact xg I)⟩
  |exit id=>exact⟨.exit id,s',φ',rfl,I,g',st,kp'⟩
  |ret=>exact⟨.ret,s',φ',rfl,I,g',st,kp'⟩
 |@zt A x y x' y' _ _ ihx ihy=>
  intro c hc R s K r h φ a w g;let⟨c',hn,N,hsim⟩:=lO P i c;refine hsim _ _ _ ?_;rw[<- N]at hc;obtain⟨cx,cy,rfl,h1,h2⟩:=aar hn hc;simp only[rn]at h;have sub1:∀k,aC (x.asg 0) k=J->aC ((TC.zt A x y).asg 0) k=J:=λk I=>by simp only[TC.asg];exact lq (xg I)
  have sub2:∀k,aC (y.asg 0) k=J->aC ((TC.zt A x y).asg 0) k=J:=λk I=>by simp only[TC.asg];exact xg I
  have sub3:∀k,aC (OU A.ks 0) k=J->aC ((TC.zt A x y).asg 0) k=J:=λk I=>by simp only[TC.asg];exact lq (lq I)
  rcases aaq h with ⟨d,h3,h4⟩|h3
  .refine wp_seq (wp_mono (ihx cx h1 _ s _ _ h3 φ a w g) ?_);rintro e a' w' ⟨ex,s',φ',rfl,I,g',st,kp⟩;cases ex with
   |normal=>
    simp only[]at I;let⟨d',q1,q2⟩:=dR I;simp only[af,Sum.inr.injEq]at q2;subst q2;split at h4
    .rename_i s1 hs1;let⟨φ1,g1,LC⟩:=Sl g' q1 hs1 λk _ _ v hv hf ha v' hv'=>by
      let⟨v0,e1,e2⟩:=kp k ha v' hv';rw[hv]at e1;cases e1;exact e2 hf
     refine wp_mono (ihy cy h2 R s1 K r h4 φ1 a' w' g1) ?_;rintro e2 a2 w2 ⟨ex2,s2,φ2,rfl,hk2,g2,st2,kp2⟩;exact⟨ex2,s2,φ2,rfl,hk2,g2,(st.trans LC).trans st2,((Hq hs1).1.mono sub3).trans (kp2.mono sub2)⟩
    .cases h4
   |_=>simp only[]at I;let⟨_,_,q2⟩:=dR I;simp at q2
  .refine wp_seq (wp_mono (ihx cx h1 _ s _ _ h3 φ a w g) ?_);rintro e a' w' ⟨ex,s',φ',rfl,I,g',st,kp⟩;cases ex with
   |normal=>simp only[]at I;let⟨_,_,q2⟩:=dR I;simp at q2
   |exit id=>
    simp only[]at I;let⟨r',q1,q2⟩:=dR I;simp only[af,Sum.inl.injEq]at q2;subst q2;exact⟨.exit id,s',φ',rfl,q1,g',st,kp.mono sub1⟩
   |ret=>
    simp only[]at I;let⟨r',q1,q2⟩:=dR I;simp only[af,Sum.inl.injEq]at q2;subst q2;exact⟨.ret,s',φ',rfl,q1,g',st,kp.mono sub1⟩
 |@cond t x y x' y' _ _ ihx ihy=>
  intro c hc R s K r h φ a w g;let⟨c',hn,N,hsim⟩:=lO P i c;refine hsim _ _ _ ?_;rw[<- N]at hc;obtain⟨cx,cy,rfl,h1,h2⟩:=ah6 hn hc;simp only[rn]at h;split at h
  .rename_i b hb;rcases oG h with ⟨rfl,h⟩|⟨rfl,h⟩
   .refine wp_cond_true (g.bool hb) (wp_mono (ihx cx h1 R s K r h φ a w g) ?_);rintro e a' w' ⟨ex,s',φ',rfl,I,g',st,kp⟩;exact⟨ex,s',φ',rfl,I,g',st,kp.mono λk I=>by simp only[TC.asg];exact lq I⟩
   .refine wp_cond_false (g.bool hb) (wp_mono (ihy cy h2 R s K r h φ a w g) ?_);rintro e a' w' ⟨ex,s',φ',rfl,I,g',st,kp⟩;exact⟨ex,s',φ',rfl,I,g',st,kp.mono λk I=>by simp only[TC.asg];exact xg I⟩
  .rename_i hb;let⟨ha,hbb⟩:=aed h;let⟨bv,hbv⟩:=g.qj hb;cases bv with
   |true=>
    refine wp_cond_true hbv (wp_mono (ihx cx h1 R s K r ha φ a w g) ?_);rintro e a' w' ⟨ex,s',φ',rfl,I,g',st,kp⟩;exact⟨ex,s',φ',rfl,I,g',st,kp.mono λk I=>by simp only[TC.asg];exact lq I⟩
   |false=>
    refine wp_cond_false hbv (wp_mono (ihy cy h2 R s K r hbb φ a w g) ?_);rintro e a' w' ⟨ex,s',φ',rfl,I,g',st,kp⟩;exact⟨ex,s',φ',rfl,I,g',st,kp.mono λk I=>by simp only[TC.asg];exact xg I⟩
  .cases h
 |@block id b b' _ ih=>
  intro c hc R s K r h φ a w g;let⟨c',hn,N,hsim⟩:=lO P i c;refine hsim _ _ _ ?_;rw[<- N]at hc;obtain⟨cb,rfl,h1⟩:=Qx hn hc;simp only[rn]at h;refine wp_block (wp_mono (ih cb h1 R s _ r h φ a w g) ?_);rintro e a' w' ⟨ex,s',φ',rfl,I,g',st,kp⟩;cases ex with
  |normal=>exact⟨.normal,s',φ',rfl,I,g',st,kp⟩
  |ret=>exact⟨.ret,s',φ',rfl,I,g',st,kp⟩
  |exit nt=>
   simp only[Ex.to,Exit.inBlock];simp only[]at I;split at I
   next hb=>rw[aK (ar hb)];exact⟨.normal,s',φ',rfl,I,g',st,kp⟩
   next hb=>rw[ay (λe=>hb (by rw[e];exact wD id))];exact⟨.exit nt,s',φ',rfl,I,g',st,kp⟩
 |@zq A id b b' _ ih=>
  intro c hc R s K r h φ a w g;let⟨c',hn,N,hsim⟩:=lO P i c;refine hsim _ _ _ ?_;rw[<- N]at hc;obtain⟨cb,rfl,h1⟩:=Qx hn hc;simp only[rn]at h;have sub1:∀k,aC (b.asg 0) k=J->aC ((TC.zq A id b).asg 0) k=J:=λk I=>by simp only[TC.asg];exact xg I
  have sub3:∀k,aC (OU A.ks 0) k=J->aC ((TC.zq A id b).asg 0) k=J:=λk I=>by simp only[TC.asg];exact lq I
  rcases aaq h with ⟨d,h3,h4⟩|h3
  .refine wp_block (wp_mono (ih cb h1 _ s _ _ h3 φ a w g) ?_);rintro e a' w' ⟨ex,s',φ',rfl,I,g',st,kp⟩;have fin:av (Pj m A (b.asg 0) s s') (λx=>Z (bU (α:=R) x))=Z (bU d)->apg P E i m φ s w ((TC.zq A id b).asg 0) K r .normal a' w':=by
    intro I;let⟨d',q1,q2⟩:=dR I;simp only[af,Sum.inr.injEq]at q2;subst q2;split at h4
    .rename_i s1 hs1;let⟨φ1,g1,LC⟩:=Sl g' q1 hs1 λk _ _ v hv hf ha v' hv'=>by
      let⟨v0,e1,e2⟩:=kp k ha v' hv';rw[hv]at e1;cases e1;exact e2 hf
     exact⟨.normal,s1,φ1,rfl,h4,g1,st.trans LC,(Hq hs1).1.mono sub3⟩
    .cases h4
   cases ex with
   |normal=>exact fin I
   |ret=>simp only[]at I;let⟨_,_,q2⟩:=dR I;simp at q2
   |exit nt=>
    simp only[Ex.to,Exit.inBlock];simp only[]at I;split at I
    next hb=>rw[aK (ar hb)];exact fin I
    .obtain⟨_,_,q2⟩:=dR I;simp at q2
  .refine wp_block (wp_mono (ih cb h1 _ s _ _ h3 φ a w g) ?_);rintro e a' w' ⟨ex,s',φ',rfl,I,g',st,kp⟩;cases ex with
   |normal=>simp only[]at I;let⟨_,_,q2⟩:=dR I;simp at q2
   |ret=>
    simp only[]at I;let⟨r',q1,q2⟩:=dR I;simp only[af,Sum.inl.injEq]at q2;subst q2;exact⟨.ret,s',φ',rfl,q1,g',st,kp.mono sub1⟩
   |exit nt=>
    simp only[Ex.to,Exit.inBlock];simp only[]at I;split at I
    .obtain⟨_,_,q2⟩:=dR I;simp at q2
    next hb=>rw[ay (λe=>hb (by rw[e];exact wD id))];let⟨r',q1,q2⟩:=dR I;simp only[af,Sum.inl.injEq]at q2;subst q2;exact⟨.exit nt,s',φ',rfl,q1,g',st,kp.mono sub1⟩
 |@loop A b b' _ ih=>
  intro c hc R s K r h φ a w g;let⟨c',hn,N,hsim⟩:=lO P i c;refine hsim _ _ _ ?_;rw[<- N]at hc;obtain⟨cb,rfl,h1⟩:=U3 hn hc;simp only[rn]at h;let⟨x0,hx0,h⟩:=dR h;let⟨n,hn⟩:=acq h;have sub1:∀k,aC (b.asg 0) k=J->aC ((TC.loop A b).asg 0) k=J:=λk I=>by simp only[TC.asg];exact xg I
  have sub3:∀k,aC (OU A.ks 0) k=J->aC ((TC.loop A b).asg 0) k=J:=λk I=>by simp only[TC.asg];exact lq I
  obtain⟨step,hstep⟩:∃step:A.D->M (A.D⊕R),step=λx=>(match Kc A (b.asg 0) s x with
   |some s'=>rn m X W inert b s' λex s'=>(match ex with
    |.normal=>av (Pj m A (b.asg 0) s s') λy=>Z (kZ y)
    |ex=>av (K ex s') λr=>Z (bU r))
   |none=>U):=⟨_,rfl⟩
  have hn:iterN step n x0=Z r:=by rw[hstep];exact hn
  have stepEq:∀x,step x=(match Kc A (b.asg 0) s x with
   |some s'=>rn m X W inert b s' λex s'=>(match ex with
    |.normal=>av (Pj m A (b.asg 0) s s') λy=>Z (kZ y)
    |ex=>av (K ex s') λr=>Z (bU r))
   |none=>U):=λx=>by rw[hstep]
  let Inv:Nat->Act->World->Prop:=λn a w'=>∃x s1 φ1,iterN step n x=Z r/\Kc A (b.asg 0) s x=Z s1/\l_ P E i m φ1 s1 a w'/\Cx m φ φ1 (erHF s.h) (erHF s1.h) w w'
  have head:∀(n:Nat) (x:A.D),iterN step n x=Z r->∃s1,Kc A (b.asg 0) s x=Z s1:=by
   intro n x hn;cases n with
   |zero=>cases hn
   |succ n=>
    simp only[iterN]at hn;cases hr:Kc A (b.asg 0) s x with
    |some s1=>exact⟨s1,rfl⟩
    |none=>rw[stepEq,hr]at hn;cases hn
  refine yZ Inv ?_ (n:=n) ?_
  .rintro n a1 w1 ⟨x,s1,φ1,hi,hr,g1,LC⟩;cases n with
   |zero=>cases hi
   |succ n=>
    simp only[iterN]at hi;have hse:=stepEq x;rw[hr]at hse;simp only[]at hse;let⟨kp1,kp1'⟩:=Hq hr;split at hi
    .rename_i y hy;rw[hy]at hse;refine wp_mono (ih cb h1 _ s1 _ _ hse.symm φ1 a1 w1 g1) ?_;rintro e a' w' ⟨ex,s',φ',rfl,I,g',st,kp⟩;cases ex with
     |normal=>
      simp only[]at I;let⟨d',q1,q2⟩:=dR I;simp only[af,Sum.inl.injEq]at q2;subst q2;let⟨s2,hs2⟩:=head n d' hi;let⟨φ2,g2,st2⟩:=Sl g' q1 hs2 λk hkk hks v hv hf ha v' hv'=>by
       let⟨v0,e1,e2⟩:=kp k ha v' hv';have:=kp1' k hks v0 e1;rw[hv]at this;cases this;exact e2 hf
      exact⟨n,by omega,d',s2,φ2,hi,hs2,g2,(LC.trans st).trans st2⟩
     |_=>simp only[]at I;let⟨_,_,q2⟩:=dR I;simp at q2
    .rename_i r' hy;cases hi;rw[hy]at hse;refine wp_mono (ih cb h1 _ s1 _ _ hse.symm φ1 a1 w1 g1) ?_;rintro e a' w' ⟨ex,s',φ',rfl,I,g',st,kp⟩;cases ex with
     |normal=>simp only[]at I;let⟨_,_,q2⟩:=dR I;simp at q2
     |exit id=>
      simp only[]at I;let⟨r',q1,q2⟩:=dR I;simp only[af,Sum.inr.injEq]at q2;subst q2;exact⟨.exit id,s',φ',rfl,q1,g',LC.trans st,(kp1.mono sub3).trans (kp.mono sub1)⟩
     |ret=>
      simp only[]at I;let⟨r',q1,q2⟩:=dR I;simp only[af,Sum.inr.injEq]at q2;subst q2;exact⟨.ret,s',φ',rfl,q1,g',LC.trans st,(kp1.mono sub3).trans (kp.mono sub1)⟩
    .cases hi
  .obtain⟨s1,hs1⟩:=head n x0 hn;let⟨φ1,g1,LC⟩:=Sl g hx0 hs1 λk _ _ v hv _ _ v' hv'=>by rw[hv]at hv';cases hv';rfl
   exact⟨x0,s1,φ1,hn,hs1,g1,LC⟩
 |exit id=>
  intro c hc R s K r h φ a w g;let⟨c',hn,N,hsim⟩:=lO P i c;refine hsim _ _ _ ?_;rw[<- N]at hc;rw[ah5 hn hc];exact wp_exit ⟨.exit id,s,φ,rfl,h,g,Cx.refl _ _ _ _,gR.refl _ _⟩
 |ret=>
  intro c hc R s K r h φ a w g;let⟨c',hn,N,hsim⟩:=lO P i c;refine hsim _ _ _ ?_;rw[<- N]at hc;rw[als hn hc];exact wp_ret ⟨.ret,s,φ,rfl,h,g,Cx.refl _ _ _ _,gR.refl _ _⟩
 |@adj l tc' sc' _ ih=>
  intro c hc R s K r h φ a w g;let⟨c',hn,N,hsim⟩:=lO P i c;refine hsim _ _ _ ?_;rw[<- N]at hc;simp only[rn]at h;split at h
  next s1 hs1=>let⟨φ1,g1,LC,kp1⟩:=TZ g hs1;refine wp_mono (ih c' hc R s1 K r h φ1 a w g1) ?_;rintro e a' w' ⟨ex,s',φ',rfl,I,g',st,kp⟩;exact⟨ex,s',φ',rfl,I,g',LC.trans st,(kp1.mono λk I=>by simp only[TC.asg];exact lq I).trans (kp.mono λk I=>by simp only[TC.asg];exact xg I)⟩
  .cases h
 |@split k off lo n tc' sc' _ ih=>
  intro c hc R s K r h φ a w g;let⟨c',hn,N,hsim⟩:=lO P i c;refine hsim _ _ _ ?_;rw[<- N]at hc;simp only[rn]at h;split at h
  .rename_i kd v hv;let⟨j,hj,h2⟩:=Us h;subst hj;split at h2
   .rename_i s1 hs1;let⟨g1,hH,he⟩:=afv g hv hs1;refine wp_mono (ih c' hc R s1 K r h2 φ a w g1) ?_;rintro e a' w' ⟨ex,s',φ',rfl,I,g',st,kp⟩;exact⟨ex,s',φ',rfl,I,g',by rw[<- hH];exact st,λk I v' hv'=>by
     let⟨v,q1,q2⟩:=kp k I v' hv';exact⟨v,by rw[<- he];exact q1,q2⟩⟩
   .cases h2
  .cases h
 |@unl n b b' _ ih=>
  intro c hc R s K r h φ a w g;let⟨c',hn,N,hsim⟩:=lO P i c;refine hsim _ _ _ ?_;rw[<- N]at hc;obtain⟨cb,rfl,h1⟩:=U3 hn hc;simp only[rn]at h
  let Inv:Nat->Act->World->Prop:=λnp a w'=>∃s1 φ1,akn (λs K=>rn m X W inert b s K) np s1 K=Z r/\l_ P E i m φ1 s1 a w'/\Cx m φ φ1 (erHF s.h) (erHF s1.h) w w'/\gR (b.asg 0) s.e s1.e
  refine yZ Inv ?_ (n:=n) ⟨s,φ,h,g,Cx.refl _ _ _ _,gR.refl _ _⟩;rintro np a1 w1 ⟨s1,φ1,hi,g1,LC,kp1⟩;cases np with
  |zero=>cases hi
  |succ np=>
   simp only[akn]at hi;refine wp_mono (ih cb h1 R s1 _ r hi φ1 a1 w1 g1) ?_;rintro e a' w' ⟨ex,s',φ',rfl,I,g',st,kp⟩;cases ex with
   |normal=>exact⟨np,sr np,s',φ',I,g',LC.trans st,kp1.trans kp⟩
   |exit id=>exact⟨.exit id,s',φ',rfl,I,g',LC.trans st,kp1.trans kp⟩
   |ret=>exact⟨.ret,s',φ',rfl,I,g',LC.trans st,kp1.trans kp⟩
 |zd sc'=>
  intro c hc R s K r h;simp[rn]at h
def RU {s:TS} (hinv:km s.h s.nx) (hiE:sG s.e s.h) (r:qE V O (erHF s.h) w) (en:Oq V (tot O V (erHF s.h)) w (gk s.e s.h) N):∀(rs:Y ResultVar) (rvs:Y RV) (l:Y TV),nM P rs=Z rvs->Ux s rvs=Z l->
 ∃la vs,cO s.h l=Z la/\(rs.mapM (R1 N.tmps)).run P w= .ok vs w/\jR V (tot O V (erHF s.h)) w la vs
 |[],rvs,l,D,A=>by
  simp[nM,af]at D;subst D;simp[Ux,af]at A;subst A;exact⟨[],[],rfl,by simp,trivial⟩
 |.tmp t::rs,rvs,l,D,A=>by
  simp[nM]at D;split at D
  .rename_i rvs' hrs;simp[af]at D;subst D;simp[Ux]at A;split at A
   .rename_i v I;split at A
    next l' a=>simp[af]at A;subst A;let⟨la,vs,h0,h1,h2⟩:=RU hinv hiE r en rs rvs' l' hrs a;simp[rvT]at I;let⟨y,hy⟩:=qF s.h v (hiE t v I);refine ⟨y::la,N.tmps.getD t undef::vs,qA hy h0,?_,en t y (by simp[gk,I,aH,hy]),h2⟩;simp[List.mapM_cons,eM,R1,nB,cM];simp_all
    .cases A
   .cases A
  .cases D
 |.cell ad t::rs,rvs,l,D,A=>by
  simp[nM]at D;split at D
  .rename_i rvs' sz ag hrs hsz hag;simp[af]at D;subst D;simp[Ux]at A;split at A
   .rename_i v I;split at A
    .rename_i l' a;simp[af]at A;subst A;let⟨la,vs,h0,h1,h2⟩:=RU hinv hiE r en rs rvs' l' hrs a;simp[rvT]at I;split at I
     .rename_i id off hp;split at I
      .rename_i ty q hb;let⟨q',hq'⟩:=fO s.h q (hinv.C id _ q hb);let⟨y,e1,e2⟩:=ZX hq' I;let⟨H,hH⟩:=jP s.h;have hR:yK H sz ag (.H (nm id) off)=Z ⟨y,[nm id],[],[],[]⟩:=by
        have hg:H.get (nm id)=Z ⟨ty,.mx q'⟩:=by rw[hH,ct,hb];simp[aH,lx,hq']
        simp[yK,hg,e2]
       let⟨_,_,_,h3⟩:=N_ (P:=P) hsz hag hR;let⟨qq,v',h4,h5,h6⟩:=h3 V O (erHF s.h) w _ (λi _=>by rw[hH]) r (en ad _ (by simp[gk,hp,aH,co]));refine ⟨y::la,v'::vs,qA e1 h0,?_,h6,h2⟩;have hone:(R1 N.tmps (.cell ad t)).run P w= .ok v' w:=by
        simp[R1,eM,h4,asAddr,nB,cM,h5]
       simp_all
      .cases I
     .cases I
    .cases A
   .cases A
  .cases D
def Iy:∀(args:Y TV) (k t:Nat) (x:TV),(N8 k args).get t=Z x->k<=t/\args[t-k]? =Z x
 |[],k,t,x,h=>by simp[N8,PT.get]at h
 |y::args,k,t,x,h=>by
  rw[N8,PT.get_set]at h;split at h
  .grind
  .obtain⟨h1,h2⟩:=Iy args (k+1) t x h
   grind
variable {r:Y TV} {u:TV}
def age (A:lI h r=J) (I:r[i]? =Z u):Qr h u=J:=by
 let⟨N,D⟩:=fO h r A;let⟨y,_,q⟩:=mT D i u I;exact Ib _ _ _ q
variable {f:FuncId}
def XX {inert:FuncId->Bool} (hm:P.follows .mixedOrders=J) (hcon:Hc P X) (hin:EQ P inert) {sf:SF} (hf:AQ P f=Z sf) (D:FT) (m:D.pre.ty.den->M D.post.ty.den) (hmod:∀x y,m x=Z y->afn X W inert (Z sf) D x=Z y):pT P f ⟨D.pre,D.post,m⟩:=by
 let⟨fn,c,hfn,hb,hnm,hcode,hres,hnt⟩:=NI hf;refine ⟨⟨fn,hfn,by rw[hb];rfl,hnm⟩,λx y hxy vs hp l1 rs hq l2 la lr I B hla hlr φ E w us hrep hrel hdom=>?_⟩;have ht:=hmod x y hxy;unfold afn at ht;simp only[]at ht;split at ht
 .rename_i args h hins;let⟨l1',I'⟩:=ya hins;have e1:args=vs:=by have h1:=I.pv;have h2:=I'.pv;rw[h1]at h2;cases h2;rfl
  have e2:l1'=l1:=by have h1:=I.pb;have h2:=I'.pb;rw[h1]at h2;cases h2;rfl
  subst e1 e2;have hget:∀i,h.get i=hp.get i:=λi=>by
   cases h3:hp.get i with
   |some b=>exact (I'.at_ i b).2 ((I.at_ i b).1 h3)
   |none=>
    cases h4:h.get i with
    |none=>rfl
    |some b=>have:=(I.at_ i b).2 ((I'.at_ i b).1 h4);rw[h3]at this;cases this
  have hrow:∀i,eK h i=eK hp i:=λi=>by rw[bW,bW,hget]
  have herH:erHF h=erHF hp:=by
   funext n;unfold erHF;rw[hget];cases h3:hp.get (ow n) with
   |none=>rfl
   |some b=>
    simp only[aH];refine v6 (λi r hr=>by rw[hrow];exact hr) (λty l e=>?_) _ _;exact (I.C _ _ l (by rw[h3,e])).1
  have hla':cO h args=Z la:=iG (λi r hr=>by rw[hrow];exact hr) args la hla;split at ht
  .rename_i hle;simp only[ak]at hle;have hle2:=aX hle.2;have hle:=aX hle.1;have hlen:=jR.length hrel;have hargl:args.length=la.length:=(iP hla).symm;refine calls_of_wp_defers hfn hb ?_;have hcfg:l_ P E fn.ntmps D.pre.bs.length φ ⟨N8 0 args,h,D.pre.bs.length⟩ {tmps:=us.toArray++mJ (fn.ntmps-us.toArray.size) undef,defers:=[]} w:=by
    refine ⟨by rw[herH];exact hrep,?_,hdom,bi _,⟨λi ty l hl=>(I'.C i _ l hl).1,λi b hbb=>I'.lt_len hbb⟩,?_,by simp,by simp;omega⟩
    .intro t z N;simp only[gk]at N;cases hx:(N8 0 args).get t with
     |none=>rw[hx]at N;cases N
     |some v0=>
      rw[hx]at N;let⟨_,h2⟩:=Iy args 0 t v0 hx;rw[Nat.sub_zero]at h2;let⟨y0,q1,q2⟩:=mT hla' t v0 h2;simp only[aH]at N;rw[N]at q2;cases q2;let⟨v,h3,h4⟩:=hrel.get t z q1;have hlt:t<us.length:=(bH.1 h3).1;have:(us.toArray++mJ (fn.ntmps-us.toArray.size) undef).getD t undef=v:=by
       rw[hY,Array.getElem?_append]
       grind
      grind
    .intro t v0 hv0;let⟨_,h2⟩:=Iy args 0 t v0 hv0;exact age I'.ok h2
   refine wp_mono (apw (E:=E) hm hcon hin (Ah D.hints sf.code 0) c hcode.symm _ _ _ _ ht φ _ w hcfg) ?_;rintro e a' w' ⟨ex,s',φ',rfl,q,g',st,_⟩;have fin:∀(s':TS) (φ':PM),l_ P E fn.ntmps D.pre.bs.length φ' s' a' w'->Cx D.pre.bs.length φ φ' (erHF h) (erHF s'.h) w w'->(match Ux s' sf.res with
    |some l=>(match Ej D.pre.bs.length D.post l s'.h with
     |some ⟨y,_,_,_⟩=>(match DB D.post y with|some _=>Z y|none=>U)
     |none=>U)
    |none=>U)=Z y->Leaves P fn a'.tmps (λen w'=>∃v φ',en= .returned v/\ES (own φ (erHF hp)) w w'/\(∀k,k<w.heap.size->own φ' (erHF hq) k->own φ (erHF hp) k)/\(∀n,ow n<D.pre.bs.length->φ' n=φ n)/\qE φ' E (erHF hq) w'/\cG φ' (tot E φ' (erHF hq)) w' (AX lr) v) a'.defers .returning w':=by
    intro s' φ' g' st q;split at q
    .rename_i l hl;split at q
     .rename_i y' m' σ sm hM;split at q
      .cases q;let⟨lo,rvs,q0,q1,q2⟩:=RU g'.qw g'.qm g'.zj g'.env fn.results.toList sf.res l hres hl;have A:=xX hM;let⟨φ2,lu,hlu,S⟩:=OM (np:=D.pre.bs.length) (E:=E) B g'.qw A q0 g'.zj;rw[hlr]at hlu;cases hlu;have hresults:(results fn a'.tmps).run P w'= .ok (if h:rvs.toArray.size=1 then rvs.toArray[0] else .tuple rvs.toArray) w':=by
        rw[LG,P5];simp only[eM,Sem.run_map,q1,cM,nB]
       have hrl:jR φ2 (tot E φ2 (erHF hq)) w' lr rvs:=by
        refine jR.of (by rw[q2.length,S.len]) λj z v N hv=>?_
        let⟨z0,p1,p2⟩:=S.val j z v N;let⟨v',p3,p4⟩:=q2.get j z0 p1;rw[hv]at p3;cases p3;exact p2 p4
       have hval:cG φ2 (tot E φ2 (erHF hq)) w' (AX lr) (if h:rvs.toArray.size=1 then rvs.toArray[0] else .tuple rvs.toArray):=by
        have hll:=jR.length hrl;clear hlr S;cases lr with
        |nil=>
         cases rvs with
         |nil=>exact cG.qp (vs:=[]) rfl (by intro j x v hx;simp at hx)
         |cons _ _=>exact hrl.elim
        |cons z lr=>
         cases rvs with
         |nil=>exact hrl.elim
         |cons v rvs=>
          cases lr with
          |nil=>
           cases rvs with
           |nil=>exact hrl.1
           |cons _ _=>exact hrl.2.elim
          |cons y l=>
           cases rvs with
           |nil=>exact hrl.2.elim
           |cons u rvs=>
            rw[dif_neg (by simp)];refine cG.qp (vs:=v::u::rvs) (by simpa using hll) λj x' v' hx hv=>?_
            let⟨v'',q1,q2⟩:=hrl.get j x' hx;rw[hv]at q1;cases q1;exact q2
       have st':Cx D.pre.bs.length φ φ' (erHF hp) (erHF s'.h) w w':=by rw[<- herH];exact st
       refine zK hresults ⟨_,φ2,rfl,st'.ext,λk q ho=>st'.qh k q (S.qh k ho),λi hi=>?_,S.zj,hval⟩ a'.defers g'.inert;rw[S.par i hi (dg hi hle2),st'.par i hi]
      .cases q
     .cases q
    .cases q
   have fin2:(match Xt s' (aut D) with
    |some s=>(match Ux s sf.res with
     |some l=>(match Ej D.pre.bs.length D.post l s.h with
      |some ⟨y,_,_,_⟩=>(match DB D.post y with|some _=>Z y|none=>U)
      |none=>U)
     |none=>U)
    |none=>U)=Z y->Leaves P fn a'.tmps (λen w'=>∃v φ',en= .returned v/\ES (own φ (erHF hp)) w w'/\(∀k,k<w.heap.size->own φ' (erHF hq) k->own φ (erHF hp) k)/\(∀n,ow n<D.pre.bs.length->φ' n=φ n)/\qE φ' E (erHF hq) w'/\cG φ' (tot E φ' (erHF hq)) w' (AX lr) v) a'.defers .returning w':=by
    intro q;split at q
    next s2 ha=>let⟨φ3,c3,t3,_⟩:=TZ g' ha;exact fin s2 φ3 c3 (st.trans t3) q
    .cases q
   cases ex with
   |exit id=>cases q
   |_=>exact fin2 q
  .cases ht
 .cases ht
abbrev x?:=FuncId×cr
def Zl:Y x?->FuncId->M cr
 |[],_=>U
 |(g,c)::r,f=>if aB g f then Z c else Zl r f
def P3 (P:Program):Y x?->Prop
 |[]=>True
 |p::r=>aM P (p.1%65536) p.2/\P3 P r
def abi :∀{l:Y x?},P3 P l->Hc P (Zl l)
 |[],_,f,c,h=>by simp[Zl]at h
 |(g,d)::r,q,f,c,h=>by
  simp only[Zl]at h;split at h
  next A=>have:=ar A;subst this;cases h;exact q.1
  .exact abi q.2 f c h
def Vt {inert:FuncId->Bool} (hm:P.follows .mixedOrders=J) (hin:EQ P inert) {l:Y x?} (A:P3 P l) {D:FT} {m:D.pre.ty.den->M D.post.ty.den} (q:(AQ P f).isSome=J) (he:∀x,afn (Zl l) W inert (AQ P f) D x=m x):pT P f ⟨D.pre,D.post,m⟩:=by
 let⟨I,hf⟩:=jT.1 q;exact XX hm (abi A) hin hf D m λx y hxy=>by rw[<- hf,he];exact hxy
def pT.sub {pre post:Tm} {m m':pre.ty.den->M post.ty.den} (h:pT P f ⟨pre,post,m⟩) (q:∀x y,m' x=Z y->m x=Z y):pT P f ⟨pre,post,m'⟩:=
 ⟨h.qd,λx y hxy=>h.calls x y (q x y hxy)⟩
def aM.sub {P:Program} {f:FuncId} {pre post:Tm} {m m':pre.ty.den->M post.ty.den} (h:aM P f ⟨pre,post,m⟩) (q:dx (l! pre.bs) (l! post.bs)=J) (A:∀x y,m' x=Z y->m x=Z y):aM P f ⟨pre,post,m'⟩:=
 ((h.holds q).sub A).toC q
def jY {b:Nat}:∀(x y:Y R),chk (bh (ah x) b) (λ_=>Z x)=Z y->aJ (aB (ah x) 0) (yI (Z ([]:Y R)) (chk (bh (ah ([]:Y R)+ah x) b) λ_=>(Z (([]:Y R)++x)))) (chk (bh (ah ([]:Y R)+ah x) b) λ_=>(Z (([]:Y R)++x)))=Z y:=by
 intro x y h;rw[kR,eS,b9,h];cases x with
 |nil=>
  let⟨_,h⟩:=cV h;cases h;show yI (Z []) (Z [])=_;unfold yI;rw[aK rfl]
 |cons a r=>rfl
variable {T:Ty}
def SD {v:T.den} (sp:ano P f [] PT.leaf 0 ⟨.f (gr T v),PT.leaf,0,0⟩) (m:(Tm.ty ⟨[],[]⟩).den->M (Tm.ty ⟨[.d T],[]⟩).den) (hm:∀x y,m x=Z y->pH Lj [.d T] (S7 (PV.tyL [.d T]) (PB.tyL []) y)=Z [.f T v]):pT P f ⟨⟨[],[]⟩,⟨[.d T],[]⟩,m⟩:=by
 refine ⟨sp.qd,λx y hxy vs hp l1 D hq l2 la lr I A hla hlr φ E w q hrep hrel hdom=>?_⟩;have N:vs=[]:=by have:=I.pv;simp only[pH,af]at this;exact this.symm
 subst N;simp[cO,af]at hla;subst hla;have hrs:D=[.f T v]:=by
  have h1:=A.pv
  grind
 subst hrs;simp[cO,co,af]at hlr;subst hlr;have noH:∀{h1:bf} {t:Tm} {z:t.ty.den} {q:Y TV} {l:Y (M fm)},oH t z q h1 l->l! t.bs=0->erHF h1=(PT.leaf:ie).get:=by
  intro h1 t z q l I h0;funext n;cases hb:erHF h1 n with
  |none=>rfl
  |some b=>
   let⟨c,h3,_⟩:=iH hb;have:=I.lt_len h3;omega
 have e1:=noH I rfl;have e2:=noH A rfl;rw[e1]at hrep hrel ⊢;rw[e2];cases q with
 |cons _ _=>exact hrel.elim
 |nil=>
  have hφ:∀i k,φ i=Z k->i<0:=λi k hk=>by grind
  refine Calls.mono (sp.calls φ E w [] hrep trivial hφ) ?_;rintro en w' ⟨u,φ',rfl,mv,rp,rv',nm'⟩;refine ⟨u,φ',rfl,mv.ext,mv.qh,λi hi=>by simp at hi,rp,rv'⟩
def YJ {pre post:Tm} (q:(AQ P f).isSome=J):pT P f ⟨pre,post,λ_=>U⟩:=by
 let⟨D,hf⟩:=jT.1 q;let⟨fn,c,hfn,A,hnm,_⟩:=NI hf;exact⟨⟨fn,hfn,by rw[A];rfl,hnm⟩,λx y h=>by cases h⟩
def pT.orElse {pre post:Tm} {m m':pre.ty.den->M post.ty.den} (h:pT P f ⟨pre,post,m⟩) (h':pT P f ⟨pre,post,m'⟩):pT P f ⟨pre,post,λx=>match m x with|some y=>Z y|none=>m' x⟩:=
 ⟨h.qd,λx y hxy=>by
   cases hm:m x with
   |some z=>rw[show (cr.m ⟨pre,post,λx=>match m x with|some y=>Z y|none=>m' x⟩ x)=Z z by show (match m x with|some y=>Z y|none=>m' x)=Z z;rw[hm]]at hxy;cases hxy;exact h.calls x _ hm
   |none=>rw[show (cr.m ⟨pre,post,λx=>match m x with|some y=>Z y|none=>m' x⟩ x)=m' x by show (match m x with|some y=>Z y|none=>m' x)=m' x;rw[hm]]at hxy;exact h'.calls x y hxy⟩
def aM.orE {pre post:Tm} {m m':pre.ty.den->M post.ty.den} (q:dx (l! pre.bs) (l! post.bs)=J) (h:aM P f ⟨pre,post,m⟩) (h':aM P f ⟨pre,post,m'⟩):aM P f ⟨pre,post,λx=>AI.orE (m x) (m' x)⟩:=by
 have e:(λx=>AI.orE (m x) (m' x))=λx=>match m x with|some y=>Z y|none=>m' x:=by funext x;cases m x<;>rfl
 rw[e];exact ((h.holds q).orElse (h'.holds q)).toC q
def inert (_:FuncId):Bool:=aa
def Mj:EQ Tryz.prog inert:=λ_ h=>by cases h
def dF :Y (Nat×R)->PT R
 |[]=>.leaf
 |p::r=>(dF r).set p.1 (Z p.2)
noncomputable abbrev Pg:Program:=Tryz.prog
def cn (D:FT) (m:D.pre.ty.den->M D.post.ty.den):cr:=⟨D.pre,D.post,m⟩
def aqx:Pg.follows .mixedOrders=J:=by kernel_rfl
def ac {c:cr} {l:Y x?} (h:aM Pg f c) (t:P3 Pg l) (hf:dw f 65536=J:=by rfl):P3 Pg ((f,c)::l):=⟨by rw[lF (aiz hf)];exact h,t⟩
def ac2 {c:cr} {l:Y x?} (q:FuncId) (A:q%65536=f) (h:aM Pg f c) (t:P3 Pg l):P3 Pg ((q,c)::l):=⟨by rw[A];exact h,t⟩
def an:P3 Pg []:=trivial
inductive OI {R:Type}:Option R->Option R->Prop where
 |rfl {a:Option R}:OI a a
 |chk {b:Bool} {k k':Option R} (h:pi k k'):OI (chk b λ_=>k) (chk b λ_=>k')
 |aJ {b:Bool} {t f t' f':Option R} (h1:pi t t') (h2:pi f f'):OI (aJ b t f) (aJ b t' f')
 |lt {α:Type} {x:α} {k k':α->Option R} (h:∀y,pi (k y) (k' y)):OI (lt x k) (lt x k')
 |jn {α:Type} {o o':Option (R⊕α)} {k k':α->Option R} (h:pi o o') (hk:∀x,pi (k x) (k' x)):OI (jn o k) (jn o' k')
 |av {α:Type} {o o':Option α} {k k':α->Option R} (h:pi o o') (hk:∀x,pi (k x) (k' x)):OI (av o k) (av o' k')
 |iter {σ:Type} {f g:σ->Option (σ⊕R)} {x:σ} (h:∀x,pi (f x) (g x)):OI (mQ f x) (iter g x)
def OI.o {a b:M R} (h:OI a b):pi a b:=by
 cases h with
 |rfl=>exact pi.rfl
 |chk h=>exact pi.chk h
 |aJ h g=>exact pi.bcase h g
 |lt h=>exact pi.lt h
 |jn h g=>exact pi.jn h g
 |av h g=>exact pi.obind h g
 |iter h=>exact pi.iter h
def mk (D:FT) (m:D.pre.ty.den->M D.post.ty.den) {l:Y x?} (N:P3 Pg l) (q:TypeId->M Ty) (he:∀x,afn (Zl l) q inert (AQ Pg f) D x=m x:=by intro x;kernel_rfl) (A:(AQ Pg f).isSome=J:=by kernel_rfl) (I:dx (l! D.pre.bs) (l! D.post.bs)=J:=by kernel_rfl):aM Pg f (cn D m):=(Vt aqx Mj N A he).toC I
def OD (D:FT) (m n:D.pre.ty.den->M D.post.ty.den) (I:∀x,pi (m x) (n x)) {l:Y x?} (ha:P3 Pg l) (q:TypeId->M Ty) (he:∀x,afn (Zl l) q inert (AQ Pg f) D x=n x:=by intro x;kernel_rfl) (A:(AQ Pg f).isSome=J:=by kernel_rfl) (N:dx (l! D.pre.bs) (l! D.post.bs)=J:=by kernel_rfl):aM Pg f (cn D m):=((Vt aqx Mj ha A he).sub I).toC N
def OR (D:FT) (q:(AQ Pg f).isSome=J:=by kernel_rfl) (A:dx (l! D.pre.bs) (l! D.post.bs)=J:=by kernel_rfl):aM Pg f (cn D λ_=>U):=(YJ q).toC A
abbrev aP:Ty:=(.int .i64)
abbrev mb:Ty:=(.st (.pr .str (.pr aP (.pr aP (.pr .bool aP)))))
abbrev sk:Ty:=(.st (.pr .str .bool))
abbrev pS:Ty:=(.st (.pr aP (.pr aP aP)))
abbrev qV:Ty:=(.st (.pr (.sl mb) (.pr (.sl sk) (.pr (.sl itK) (.pr (.sl .str) (.pr (.sl .str) (.sl pS)))))))
abbrev On:Ty:=(.sl (.sl aP))
abbrev fg:Ty:=(.st (.pr aP (.pr (.sl aP) (.pr On aP))))
abbrev sx:Ty:=(.st (.pr aP (.pr aP (.pr aP (.pr aP (.pr aP aP))))))
abbrev dy:Ty:=(.st (.pr aP (.sl aP)))
abbrev nX:Ty:=(.sl .bool)
abbrev gU:Ty:=(.st (.pr aP (.pr aP .bool)))
abbrev pE:Ty:=(.st (.pr (.sl dy) (.pr aP (.pr nX (.sl gU)))))
abbrev gm:Ty:=(.st (.pr aP (.pr aP (.pr aP (.pr aP (.pr aP (.pr (.sl aP) (.sl aP))))))))
abbrev J3:Ty:=(.st (.pr aP (.pr aP (.pr .str (.pr aP (.pr aP .str))))))
abbrev uL:Ty:=(.st (.pr .str (.pr aP (.pr (.sl .str) (.sl .sm)))))
abbrev Ru:Ty:=(.st (.pr (.sl J3) (.sl uL)))
abbrev yP:Ty:=(.st (.pr aP (.sl sx)))
abbrev wc:Ty:=(.st (.pr qV (.sl yP)))
abbrev xF:Ty:=(.st (.pr pE (.pr (.sl aP) (.pr (.sl aP) (.sl fg)))))
abbrev iK:Ty:=(.st (.pr aP aP))
abbrev qU:Ty:=(.st (.pr pE (.pr (.sl aP) (.pr (.sl aP) (.sl aP)))))
abbrev Om:Ty:=(.sl (.int .u8))
abbrev ZP:Ty:=(.st (.pr Om aP))
abbrev o!:=Int×Int×Bool×Int
abbrev EM:=(ζ×o!)
abbrev pD:=(Y EM)
abbrev v?:=ζ×Bool
abbrev mG:=(Y v?)
abbrev jQ:=(ζ×Int)
abbrev dC:=(Y ζ)
abbrev b?:=pD×mG×(Y jQ)×dC×dC×Y π
abbrev lN:=b?
abbrev f?:=Int×Int
abbrev tK:=(pD×mG×(Y jQ)×dC×dC×(Y π)×dC×f?)
abbrev g?:=Int×η
abbrev jF:=(Y g?)
abbrev c?:=Int×Bool
abbrev i?:=Int×c?
abbrev dQ:=i?
abbrev e?:=(θ)×Y dQ
abbrev o?:=jF×Int×e?
abbrev lE:=o?
abbrev h?:=Int×(η)×(Y η)×Int
abbrev xE:=h?
abbrev l9:=(ω)
abbrev y?:=Int×Int×(ζ)×Int×Int×ζ
abbrev aro:=y?
abbrev yM:=(Y aro)
abbrev b!:=Int×Int×Int×Int×Int×(η)×η
abbrev tJ:=b!
abbrev yL:=(ζ×Int×dC×Y Sx)
abbrev I!:=Bool×Bool
abbrev R!:=Int×Int×Bool×Bool×I!
abbrev E5:=R!
abbrev w!:=lN×Y (Int×Y l9)
abbrev E4:=w!
abbrev Ob:=(υ)
abbrev e!:=lE×(η)×(η)×Y xE
abbrev Am:=e!
abbrev q!:=η×Int
abbrev ru:=q!
abbrev ZF:=(Int×Int×(ζ)×(ζ)×Int×Int×ζ)
abbrev yN:=(yM×(Y yL)×Int)
abbrev l?:=(η)×(η)×η
abbrev N?:=lE×l?
abbrev mF:=N?
abbrev Xu:=(Bool×Y ζ)
abbrev Ya23:=(Int×Int×xE×xE×h?)
abbrev Ya24:=(xE×Int×Int×xE×h?)
abbrev S?:=Int×Int×h?
abbrev Ya25:=(xE×xE×S?)
abbrev h!:=E5×ru×Bool×Y ζ
abbrev ajg:=((Y Sx)×h!)
abbrev Ya27:=(Int×Int×xE×h?)
abbrev Ya28:=(xE×S?)
abbrev Ya29:=S?
abbrev T!:=Int×h!
abbrev aei:=T!
abbrev ajf:=(Sx×h!)
abbrev d!:=yN×(Bool×Y Sx)×dC×Y ζ
abbrev anj:=(ν×d!)
abbrev d?:=tK×Y l9
abbrev PR:=(Sx×d?)
abbrev G':=(Am×tJ×Bool)
abbrev R?:=(Sx×Int×Int×Int)×d?
abbrev aje:=R?
abbrev ani:=(ν×h!)
abbrev anh:=(jQ×h!)
abbrev aeh:=(E5×ru×Xu×Y Sx)
abbrev ang:=(Xp×h!)
abbrev Ya42:=(xE×xE×xE×f?)
abbrev ajd:=((Y Sx)×d?)
abbrev be {α:Type} (l:Y α):Int:=aY (ah l)
abbrev cL (n:Int):Int:=aT .i64 (n+1)
abbrev aI {R α:Type} (x:α):M (R⊕α):=Z (bU x)
abbrev c7 {R α:Type} (x:R):M (R⊕α):=Z (kZ x)
abbrev bI {R:Type} (T:Ty) (l:Y T.den) (j:Int) (k:T.den->M R):M R:=chk (ij j (ah l)) λ_=>lt (aw T l j) k
abbrev mn {R:Type} (T:Ty) (l:Y T.den) (j:Int) (k:T.den->M R):M R:=chk (ij j (ah l)) λ_=>chk (ij j (ah l)) λ_=>lt (aw T l j) k
abbrev AY {R α:Type} (j:Int) (l:Y α) (k:M R):M R:=chk (ij j (ah l)) λ_=>k
abbrev bX {R:Type} (b:Bool) (k:M R):M R:=chk b λ_=>k
abbrev bq {R:Type} (a b:Int) (t f:M R):M R:=aJ (decide (a=b)) t f
abbrev gV {R:Type} (a b:Int) (t f:M R):M R:=aJ (!decide (a=b)) t f
abbrev bV {R:Type} (a b:Int) (t f:M R):M R:=aJ (gM a b) t f
abbrev jr {R:Type} (a b:Int) (t f:M R):M R:=aJ (c8 a b) t f
def ck (b:Bool) (k:M R):M R:=chk b λ_=>chk b λ_=>k
def eL (s:Sx):Sx:=oZ (Sx.op s,Sx.line s,Sx.name s,Sx.arg s,Sx.index s,eJ (Xp.op (Sx.expr s),Xp.n (Sx.expr s),Xp.name (Sx.expr s),Xp.l (Sx.expr s)),Sx.body s,Sx.els s)
def ly (x:Unit):M dC:=
 (Z ([[118,97,114],[118,111,108,97,116,105,108,101],[109,117,116,101,120],[114,119,108,111,99,107],[99,111,110,100],[102,117,116,117,114,101],[116,104,114,101,97,100],[105,102],[101,108,115,101],[119,104,105,108,101],[108,111,99,107],[114,101,97,100],[119,114,105,116,101],[116,114,97,110,115,97,99,116,105,111,110],[97,116,111,109,105,99],[119,97,105,116],[110,111,116,105,102,121],[110,111,116,105,102,121,97,108,108],[115,112,97,119,110],[106,111,105,110],[115,101,116],[103,101,116]]))
def lT (x:ζ):M (Bool):=
 (av (ly ()) λq=>(iter (σ:=Int) (λx2=>(bV x2 (be q) (bI (.str) q x2 λA=>(aJ (decide ((A:ζ)=x)) (aI J) (c7 (cL x2)))) (aI aa))) 0))
def mg (x:Int):M (Bool):=
 (jn (jr 97 x (jr x 122 (aI J) (jr 65 x (aI (c8 x 90)) (aI aa))) (jr 65 x (aI (c8 x 90)) (aI aa))) λx1=>(Z x1))
def sU (x:Int):M (Bool):=
 (jn (jr 48 x (aI (c8 x 57)) (aI aa)) λx1=>(Z x1))
def qQ (x:Int):M (Bool):=
 (jn (av (mg x) λA=>(aJ A (aI J) (av (sU x) λq=>(aJ q (aI J) (aI (decide ((x:Int)=95))))))) λx1=>(Z x1))
def fS (x:ζ):M (Bool):=
 (jn (bV (be x) 1 (aI J) (bV 12 (be x) (aI J) (AY 0 x (av (mg (sC x 0)) λD=>(aJ (!D) (aI J) (av (lT x) λA=>(aI A))))))) λx1=>(aJ x1 (Z aa) (iter (σ:=Int) (λx4=>(bV x4 (be x) (AY x4 x (av (qQ (sC x x4)) λq=>(aJ (!q) (aI aa) (c7 (cL x4))))) (aI J))) 0)))
def gw (x:Bool):M (Int):=
 (aJ x (Z 1) (Z 0))
def vM (x:ν):M c?:=
 (bq x.1 4 (Z ((aT .i64 (0-x.2)),J)) (bq x.1 5 (av (gw (decide ((x.2:Int)=0))) λq=>(Z (q,J))) (Z (0,aa))))
def ua (x:π):M c?:=
 (bq x.1 6 (Z ((aT .i64 (x.2.1+x.2.2)),J)) (bq x.1 7 (Z ((aT .i64 (x.2.1-x.2.2)),J)) (bq x.1 8 (Z ((aT .i64 (x.2.1*x.2.2)),J)) (bq x.1 9 (bq x.2.2 0 (Z (0,J)) (bX (!decide ((x.2.2:Int)=0)) (Z ((aT .i64 (wn x.2.1 x.2.2)),J)))) (bq x.1 10 (bq x.2.2 0 (Z (0,J)) (bX (!decide ((x.2.2:Int)=0)) (Z ((cC x.2.1 x.2.2),J)))) (bq x.1 11 (av (gw (decide ((x.2.1:Int)=x.2.2))) λy1=>(Z (y1,J))) (bq x.1 12 (av (gw (!decide ((x.2.1:Int)=x.2.2))) λy2=>(Z (y2,J))) (bq x.1 13 (av (gw (gM x.2.1 x.2.2)) λy3=>(Z (y3,J))) (bq x.1 14 (av (gw (c8 x.2.1 x.2.2)) λy4=>(Z (y4,J))) (bq x.1 15 (av (gw (gM x.2.2 x.2.1)) λy5=>(Z (y5,J))) (bq x.1 16 (av (gw (c8 x.2.2 x.2.1)) λy6=>(Z (y6,J))) (bq x.1 17 (jn (gV x.2.1 0 (av (gw (!decide ((x.2.2:Int)=0))) λN=>(aI (N,J))) (av (gw aa) λI=>(aI (I,J)))) λx7=>(Z x7)) (bq x.1 18 (jn (gV x.2.1 0 (av (gw J) λA=>(aI (A,J))) (av (gw (!decide ((x.2.2:Int)=0))) λq=>(aI (q,J)))) λD=>(Z D)) (Z (0,aa)))))))))))))))
def vN (x:ν):M (Int):=
 (bV x.2 1 (Z 0) (bX (!decide ((x.2:Int)=0)) (jn (bV (cC x.1 x.2) 0 (aI (aT .i64 ((cC x.1 x.2)+x.2))) (aI (cC x.1 x.2))) λx1=>(Z x1))))
def m_ (x:Int):M (Int):=
 (jn (bq x 1 (aI J) (aI (decide ((x:Int)=2)))) λx1=>(aJ x1 (Z 0) (jn (jr 3 x (aI (c8 x 5)) (aI aa)) λx2=>(aJ x2 (Z 1) (jn (jr 6 x (aI (c8 x 18)) (aI aa)) λx3=>(aJ x3 (Z 2) (Z (-1))))))))
def qo (rr02_ShapedExpr:Xp->M (Bool)) (x:Xp):M (Bool):=
 (jn (bq (Xp.op x) 2 (aI (J,eJ ((Xp.op x),(Xp.n x),(Xp.name x),(Xp.l x)))) (aI ((decide (((Xp.op x):Int)=3)),eJ ((Xp.op x),(Xp.n x),(Xp.name x),(Xp.l x))))) λx1=>(jn (α:=Bool×Xp) (av (m_ (Xp.op x1.2)) λN=>(gV N (aY (ah (Xp.l x1.2))) (aI (J,eJ ((Xp.op x1.2),(Xp.n x1.2),(Xp.name x1.2),(Xp.l x1.2)))) (aJ ((x1.1==(!decide (((Xp.name x1.2):ζ)=([])))) !=J) (aI (J,eJ ((Xp.op x1.2),(Xp.n x1.2),(Xp.name x1.2),(Xp.l x1.2)))) (aJ x1.1 (av (fS (Xp.name x1.2)) λI=>(aJ (!I) (aI (J,eJ ((Xp.op x1.2),(Xp.n x1.2),(Xp.name x1.2),(Xp.l x1.2)))) (bV (Xp.n x1.2) 0 (aI (J,eJ ((Xp.op x1.2),(Xp.n x1.2),(Xp.name x1.2),(Xp.l x1.2)))) (gV (Xp.op x1.2) 1 (aI ((!decide (((Xp.n x1.2):Int)=0)),eJ ((Xp.op x1.2),(Xp.n x1.2),(Xp.name x1.2),(Xp.l x1.2)))) (aI (aa,eJ ((Xp.op x1.2),(Xp.n x1.2),(Xp.name x1.2),(Xp.l x1.2)))))))) (bV (Xp.n x1.2) 0 (aI (J,eJ ((Xp.op x1.2),(Xp.n x1.2),(Xp.name x1.2),(Xp.l x1.2)))) (gV (Xp.op x1.2) 1 (aI ((!decide (((Xp.n x1.2):Int)=0)),eJ ((Xp.op x1.2),(Xp.n x1.2),(Xp.name x1.2),(Xp.l x1.2)))) (aI (aa,eJ ((Xp.op x1.2),(Xp.n x1.2),(Xp.name x1.2),(Xp.l x1.2)))))))))) λx2=>(aJ x2.1 (Z aa) (iter (σ:=Int×Xp) (λq=>(bV q.1 (aY (ah (Xp.l q.2))) (bI (.ex) (Xp.l q.2) q.1 λA=>(av (rr02_ShapedExpr A) λD=>(aJ (!D) (aI aa) (c7 ((cL q.1),eJ ((Xp.op q.2),(Xp.n q.2),(Xp.name q.2),(Xp.l q.2))))))) (aI J))) (0,eJ ((Xp.op x2.2),(Xp.n x2.2),(Xp.name x2.2),(Xp.l x2.2)))))))
def iO:Nat->Xp->M (Bool)
 |0,_=>U
 |n+1,x=>qo (iO n) x
def BV (n:Nat) (x:Xp):iO (n+1) x=qo (iO n) x:=rfl
def j5 (x:Xp):M (Bool):=iO fZ x
def qP (x:Xp):M (Bool):=
 (jn (α:=Bool) (bq (Xp.op x) 0 (bq (Xp.n x) 0 (aJ (decide (((Xp.name x):ζ)=([]))) (aI (decide (((aY (ah (Xp.l x))):Int)=0))) (aI aa)) (aI aa)) (aI aa)) λx1=>(Z x1))
def kX (rr02_ShapedStmt:Sx->M (Bool)) (rr02_ShapedStmts:(Y Sx)->M (Bool)) (x:Sx):M (Bool):=
 (jn (bV (Sx.op x) 1 (aI (J,eL x)) (aI ((gM 15 (Sx.op x)),eL x))) λx1=>(aJ x1.1 (Z aa) (jn (bq (Sx.op x1.2) 2 (aI (J,eL x1.2)) (bq (Sx.op x1.2) 3 (aI (J,eL x1.2)) (bq (Sx.op x1.2) 7 (aI (J,eL x1.2)) (aI ((decide (((Sx.op x1.2):Int)=8)),eL x1.2))))) λx2=>(jn (α:=Bool×Sx) (aJ x2.1 (aJ (!decide (((Sx.name x2.2):ζ)=([]))) (aI (J,eL x2.2)) (aJ (!x2.1) (av (fS (Sx.name x2.2)) λy4=>(aI ((!y4),eL x2.2))) (aI (aa,eL x2.2)))) (aJ (!x2.1) (av (fS (Sx.name x2.2)) λy5=>(aI ((!y5),eL x2.2))) (aI (aa,eL x2.2)))) λx3=>(aJ x3.1 (Z aa) (jn (α:=Bool×Sx) (bq (Sx.op x3.2) 15 (av (fS (Sx.arg x3.2)) λy7=>(aJ (!y7) (aI (J,eL x3.2)) (gV (Sx.op x3.2) 15 (aI ((!decide (((Sx.arg x3.2):ζ)=([]))),eL x3.2)) (aI (aa,eL x3.2))))) (gV (Sx.op x3.2) 15 (aI ((!decide (((Sx.arg x3.2):ζ)=([]))),eL x3.2)) (aI (aa,eL x3.2)))) λD=>(aJ D.1 (Z aa) (jn (bV 1 (aY (ah (Sx.index D.2))) (aI (J,eL D.2)) (gV (Sx.op D.2) 1 (bV 0 (aY (ah (Sx.index D.2))) (aI (J,eL D.2)) (bq (aY (ah (Sx.index D.2))) 1 (bI (.ex) (Sx.index D.2) 0 λz9=>(av (j5 z9) λy10=>(aI ((!y10),eL D.2)))) (aI (aa,eL D.2)))) (bq (aY (ah (Sx.index D.2))) 1 (bI (.ex) (Sx.index D.2) 0 λz11=>(av (j5 z11) λy12=>(aI ((!y12),eL D.2)))) (aI (aa,eL D.2))))) λN=>(aJ N.1 (Z aa) (jn (bq (Sx.op N.2) 1 (aI (J,eL N.2)) (bq (Sx.op N.2) 2 (aI (J,eL N.2)) (bq (Sx.op N.2) 3 (aI (J,eL N.2)) (aI ((decide (((Sx.op N.2):Int)=14)),eL N.2))))) λq=>(jn (aJ q.1 (av (j5 (eJ ((Xp.op (Sx.expr q.2)),(Xp.n (Sx.expr q.2)),(Xp.name (Sx.expr q.2)),(Xp.l (Sx.expr q.2))))) λy15=>(aJ (!y15) (aI (J,eL q.2)) (aJ (!q.1) (av (qP (eJ ((Xp.op (Sx.expr q.2)),(Xp.n (Sx.expr q.2)),(Xp.name (Sx.expr q.2)),(Xp.l (Sx.expr q.2))))) λy16=>(aI ((!y16),eL q.2))) (aI (aa,eL q.2))))) (aJ (!q.1) (av (qP (eJ ((Xp.op (Sx.expr q.2)),(Xp.n (Sx.expr q.2)),(Xp.name (Sx.expr q.2)),(Xp.l (Sx.expr q.2))))) λy17=>(aI ((!y17),eL q.2))) (aI (aa,eL q.2)))) λI=>(aJ I.1 (Z aa) (jn (jr 2 (Sx.op I.2) (aI ((c8 (Sx.op I.2) 8),eL I.2)) (aI (aa,eL I.2))) λA=>(jn (aJ (!A.1) (bV 0 (aY (ah (Sx.body A.2))) (aI (J,eL A.2)) (gV (Sx.op A.2) 2 (aI ((gM 0 (aY (ah (Sx.els A.2)))),eL A.2)) (aI (aa,eL A.2)))) (gV (Sx.op A.2) 2 (aI ((gM 0 (aY (ah (Sx.els A.2)))),eL A.2)) (aI (aa,eL A.2)))) λx19=>(aJ x19.1 (Z aa) (jn (av (rr02_ShapedStmts (Sx.body x19.2)) λy21=>(aJ y21 (av (rr02_ShapedStmts (Sx.els x19.2)) λy22=>(aI y22)) (aI aa))) λx20=>(Z x20)))))))))))))))))
def lY (rr02_ShapedStmt:Sx->M (Bool)) (rr02_ShapedStmts:(Y Sx)->M (Bool)) (x:Y Sx):M (Bool):=
 (iter (σ:=Int) (λx1=>(bV x1 (be x) (AY x1 x (av (rr02_ShapedStmt (aw (.sm) x x1)) λq=>(aJ (!q) (aI aa) (c7 (cL x1))))) (aI J))) 0)
mutual
def eU:Nat->Sx->M (Bool)
 |0,_=>U
 |n+1,x=>kX (eU n) (dK n) x
def dK:Nat->(Y Sx)->M (Bool)
 |0,_=>U
 |n+1,x=>lY (eU n) (dK n) x
end
def BU (n:Nat) (x:Sx):eU (n+1) x=kX (eU n) (dK n) x:=rfl
def Bd (n:Nat) (x:Y Sx):dK (n+1) x=lY (eU n) (dK n) x:=rfl
def oV (x:Y Sx):M (Bool):=dK fZ x
def mO (x:y?):M (Bool):=
 (jn (bV x.1 1 (aI (J,x)) (bV 6 x.1 (aI (J,x)) (av (fS x.a) λA=>(aJ (!A) (aI (J,x)) (bV x.b 0 (aI (J,x)) (gV x.1 1 (aI ((!decide ((x.b:Int)=0)),x)) (aI (aa,x)))))))) λx1=>(aJ x1.1 (Z aa) (jn (α:=Bool×y?) (bq x1.2.1 5 (av (fS x1.i) λq=>(aJ (!q) (aI (J,x1.2)) (gV x1.2.1 5 (aI ((!decide ((x1.i:ζ)=([]))),x1.2)) (aI (aa,x1.2))))) (gV x1.2.1 5 (aI ((!decide ((x1.i:ζ)=([]))),x1.2)) (aI (aa,x1.2)))) λx3=>(aJ x3.1 (Z aa) (jn (α:=Bool) (bV (-9223372036854775808) x3.f (bq x3.f 0 (aI J) (bq x3.2.1 1 (aI J) (aI (decide ((x3.2.1:Int)=2))))) (aI aa)) λD=>(Z D))))))
abbrev w?:=yM×Y yL
abbrev H?:=Int×(yM×Y yL)×(ζ)×Int×dC×Y Sx
def rh (x:w?):M (Bool):=
 (iter (σ:=Int×w?) (λx1=>(bV x1.1 (be x1.2.1) (bI J3 x1.2.1 x1.1 λz2=>(av (mO z2) λy3=>(aJ (!y3) (aI aa) (c7 ((cL x1.1),x1.2))))) (av (iter (σ:=Int×w?) (λx4=>(bV x4.1 (be x4.2.2) (bI uL x4.2.2 x4.1 λz5=>(iter (σ:=H?) (λq=>(bV q.1 (be q.c) (bI (.str) q.c q.1 λN=>(av (fS N) λy8=>(aJ (!y8) (aI (bU aa)) (c7 ((cL q.1),q.2))))) (av (jn (av (fS q.a) λD=>(aJ (!D) (aI (J,q.2.1)) (av (oV q.g) λA=>(aI ((!A),q.2.1))))) λI=>(aJ I.1 (aI aa) (c7 ((cL x4.1),I.2)))) λr=>Z (bU r)))) (0,x4.2,z5))) (aI (gM 0 (be x4.2.2))))) (0,x1.2)) λr=>Z (bU r)))) (0,x))
def ki (x:dC×ζ):M (Int):=
 (iter (σ:=Int) (λx1=>(bV x1 (be x.1) (bI (.str) x.1 x1 λq=>(aJ (decide ((q:ζ)=x.2)) (aI x1) (c7 (cL x1)))) (aI (-1)))) 0)
def jK (x:yM×ζ):M (Int):=
 (iter (σ:=Int) (λx1=>(bV x1 (be x.1) (bI J3 x.1 x1 λq=>(aJ (decide ((q.2.2.1:ζ)=x.2)) (aI x1) (c7 (cL x1)))) (aI (-1)))) 0)
def jA (x:(Y yL)×ζ):M (Int):=
 (iter (σ:=Int) (λx1=>(bV x1 (be x.1) (bI uL x.1 x1 λq=>(aJ (decide ((q.1:ζ)=x.2)) (aI x1) (c7 (cL x1)))) (aI (-1)))) 0)
def ub (x:(yM×Y yL)×Int×ζ):M (Int):=
 (jn (jr 0 x.2.1 (bV x.2.1 (be x.1.2) (bI uL x.1.2 x.2.1 λz2=>(av (ki (z2.2.2.1,x.2.2)) λy3=>(aI ((c8 0 y3),x.1)))) (aI (aa,x.1))) (aI (aa,x.1))) λx1=>(aJ x1.1 (Z 8) (av (jK (x1.2.1,x.2.2)) λA=>(bV A 0 (av (jA (x1.2.2,x.2.2)) λy5=>(jr 0 y5 (Z 7) (Z 0))) (AY A x1.2.1 (lt ((aw J3 x1.2.1 A).1) λq=>(bq q 1 (bI J3 x1.2.1 A λN=>(gV N.2.2.2.1 0 (Z 2) (Z 1))) (bq q 2 (Z 1) (jn (bq q 3 (aI ((decide ((q:Int)=3)),x1.2)) (bq q 4 (aI ((decide ((q:Int)=4)),x1.2)) (bq q 5 (aI ((decide ((q:Int)=5)),x1.2)) (aI ((decide ((q:Int)=6)),x1.2))))) λD=>(aJ D.1 (bI J3 D.2.1 A λI=>(Z I.1)) (Z 9)))))))))))
def iC (x:(yM×Y yL)×Int×(ζ)×f?):M (Int):=
 (av (ub (x.1,x.2.1,x.a)) λq=>(bq q 0 (Z 5) (jn (gV q x.b (aI (!decide ((q:Int)=x.e))) (aI aa)) λx2=>(aJ x2 (Z 6) (Z 0)))))
def zU (rr04_Nodes:Xp->M ν) (x:Xp):M ν:=
 (iter (σ:=(π)×Xp) (λx1=>(bV x1.1.2.2 (aY (ah (Xp.l x1.2))) (bI (.ex) (Xp.l x1.2) x1.1.2.2 λA=>(av (rr04_Nodes A) λq=>(c7 (((aT .i64 (x1.1.1+q.1)),(FW x1.1.2.1 q.2),(cL x1.1.2.2)),eJ ((Xp.op x1.2),(Xp.n x1.2),(Xp.name x1.2),(Xp.l x1.2)))))) (aI (x1.1.1,(cL x1.1.2.1))))) ((1,0,0),eJ ((Xp.op x),(Xp.n x),(Xp.name x),(Xp.l x))))
def oB:Nat->Xp->M ν
 |0,_=>U
 |n+1,x=>zU (oB n) x
def Kw (n:Nat) (x:Xp):oB (n+1) x=zU (oB n) x:=rfl
def Eh (x:Xp):M ν:=oB fZ x
abbrev s?:=(yM×Y yL)×Int×Xp
def vW (rr04_names:s?->M (Int)) (x:s?):M (Int):=
 (jn (α:=Int×(yM×Y yL)×Xp) (bq (Xp.op x.2.2) 2 (av (iC (x.1,x.2.1,(Xp.name x.2.2),8,1)) λN=>(aI (N,x.1,eJ ((Xp.op x.2.2),(Xp.n x.2.2),(Xp.name x.2.2),(Xp.l x.2.2))))) (bq (Xp.op x.2.2) 3 (av (iC (x.1,x.2.1,(Xp.name x.2.2),2,2)) λI=>(aI (I,x.1,eJ ((Xp.op x.2.2),(Xp.n x.2.2),(Xp.name x.2.2),(Xp.l x.2.2))))) (aI (0,x.1,eJ ((Xp.op x.2.2),(Xp.n x.2.2),(Xp.name x.2.2),(Xp.l x.2.2)))))) λx1=>(iter (σ:=(ν)×(yM×Y yL)×Xp) (λx4=>(jn (bV x4.1.2 (aY (ah (Xp.l x4.2.2))) (aI ((decide ((x4.1.1:Int)=0)),x4.2.1,eJ ((Xp.op x4.2.2),(Xp.n x4.2.2),(Xp.name x4.2.2),(Xp.l x4.2.2)))) (aI (aa,x4.2.1,eJ ((Xp.op x4.2.2),(Xp.n x4.2.2),(Xp.name x4.2.2),(Xp.l x4.2.2))))) λq=>(aJ q.1 (bI (.ex) (Xp.l q.2.2) x4.1.2 λA=>(av (rr04_names (q.2.1,x.2.1,A)) λD=>(c7 ((D,(cL x4.1.2)),q.2.1,eJ ((Xp.op q.2.2),(Xp.n q.2.2),(Xp.name q.2.2),(Xp.l q.2.2)))))) (aI x4.1.1)))) ((x1.1,0),x1.2.1,eJ ((Xp.op x1.2.2),(Xp.n x1.2.2),(Xp.name x1.2.2),(Xp.l x1.2.2)))))
def oA:Nat->(s?)->M (Int)
 |0,_=>U
 |n+1,x=>vW (oA n) x
def Az (n:Nat) (x:s?):oA (n+1) x=vW (oA n) x:=rfl
def Eg (x:s?):M (Int):=oA fZ x
def oU (x:s?):M (Int):=
 (av (j5 (eJ ((Xp.op x.2.2),(Xp.n x.2.2),(Xp.name x.2.2),(Xp.l x.2.2)))) λD=>(aJ (!D) (Z 3) (av (Eh (eJ ((Xp.op x.2.2),(Xp.n x.2.2),(Xp.name x.2.2),(Xp.l x.2.2)))) λq=>(jn (bV 24 q.1 (aI (J,x.1,eJ ((Xp.op x.2.2),(Xp.n x.2.2),(Xp.name x.2.2),(Xp.l x.2.2)))) (aI ((gM 6 q.2),x.1,eJ ((Xp.op x.2.2),(Xp.n x.2.2),(Xp.name x.2.2),(Xp.l x.2.2))))) λx3=>(aJ x3.1 (Z 2) (av (Eg (x3.2.1,x.2.1,eJ ((Xp.op x3.2.2),(Xp.n x3.2.2),(Xp.name x3.2.2),(Xp.l x3.2.2)))) λA=>(Z A)))))))
def di (x:Bool):M (Int):=
 (aJ x (Z 7) (Z 0))
def jX (x:ν):M (Int):=
 (gV x.1 0 (Z x.1) (Z x.2))
abbrev M?:=Int×d!
def eC (x:(Int×Int×ζ)×d!):M (Bool×d!):=
 (iter (σ:=M?) (λx1=>(bV x1.1 (be x1.a.2) (mn (.sm) x1.a.2 x1.1 λq=>(jn (α:=Bool×d!) (bq (Sx.op q) x.1.1 (aJ (decide ((x.1.2.2:ζ)=([]))) (aI (J,x1.2)) (aI ((decide (((Sx.name q):ζ)=x.1.2.2)),x1.2))) (bq (Sx.op q) x.1.2.1 (aJ (decide ((x.1.2.2:ζ)=([]))) (aI (J,x1.2)) (aI ((decide (((Sx.name q):ζ)=x.1.2.2)),x1.2))) (aI (aa,x1.2)))) λx3=>(aJ x3.1 (aI (J,x3.2)) (c7 ((cL x1.1),x3.2))))) (aI (aa,x1.2)))) (0,x.2))
abbrev C?:=Int×yN×(Bool×Y Sx)×Sx×(yM×Y yL)×dC×Y ζ
def m8 (x:Sx×d!):M M?:=
 (av (eC ((7,7,[]),x.2)) λy1=>(bX (aB (ah x.e) (ah y1.e)&&(aB (ah x.b) (ah y1.b)&&(((x.a.1==y1.a.1)&&J)&&aB (ah x.a.2) (ah y1.a.2)&&J))) (av (eC ((8,8,[]),y1.2)) λy2=>(bX (aB (ah y1.e) (ah y2.e)&&(aB (ah y1.b) (ah y2.b)&&(((y1.a.1==y2.a.1)&&J)&&aB (ah y1.a.2) (ah y2.a.2)&&J))) (av (eC ((3,3,[]),y2.2)) λy3=>(bX (aB (ah y2.e) (ah y3.e)&&(aB (ah y2.b) (ah y3.b)&&(((y2.a.1==y3.a.1)&&J)&&aB (ah y2.a.2) (ah y3.a.2)&&J))) (bq (Sx.op x.1) 1 (bq (aY (ah (Sx.index x.1))) 0 (av (iC ((x.2.1.1,x.2.1.2.1),x.2.1.2.2,(Sx.name x.1),8,1)) λy4=>(av (oU ((x.2.1.1,x.2.1.2.1),x.2.1.2.2,eJ ((Xp.op (Sx.expr x.1)),(Xp.n (Sx.expr x.1)),(Xp.name (Sx.expr x.1)),(Xp.l (Sx.expr x.1))))) λy5=>(av (jX (y4,y5)) λy6=>(Z (y6,y3.2))))) (av (iC ((x.2.1.1,x.2.1.2.1),x.2.1.2.2,(Sx.name x.1),2,2)) λy7=>(bI (.ex) (Sx.index x.1) 0 λz8=>(av (oU ((x.2.1.1,x.2.1.2.1),x.2.1.2.2,z8)) λy9=>(av (oU ((x.2.1.1,x.2.1.2.1),x.2.1.2.2,eJ ((Xp.op (Sx.expr x.1)),(Xp.n (Sx.expr x.1)),(Xp.name (Sx.expr x.1)),(Xp.l (Sx.expr x.1))))) λy10=>(av (jX (y9,y10)) λy11=>(av (jX (y7,y11)) λy12=>(Z (y12,y3.2))))))))) (jn (bq (Sx.op x.1) 2 (aI ((decide (((Sx.op x.1):Int)=2)),y3.2.1,y3.a,eL x.1,(x.2.1.1,x.2.1.2.1),y3.d)) (aI ((decide (((Sx.op x.1):Int)=3)),y3.2.1,y3.a,eL x.1,(x.2.1.1,x.2.1.2.1),y3.d))) λD=>(aJ D.1 (av (oU (D.c,x.2.1.2.2,eJ ((Xp.op (Sx.expr D.b)),(Xp.n (Sx.expr D.b)),(Xp.name (Sx.expr D.b)),(Xp.l (Sx.expr D.b))))) λy14=>(Z (y14,D.2.1,D.a,D.g))) (bq (Sx.op x.1) 4 (jn (α:=M?) (av (iC (D.c,x.2.1.2.2,(Sx.name D.b),3,3)) λy16=>(aJ y1.1 (av (di J) λy17=>(av (jX (y16,y17)) λy18=>(aI (y18,D.2.1,D.a,D.g)))) (av (eC ((4,4,(Sx.name D.b)),D.2.1,D.a,D.g)) λy19=>(bX (aB (ah D.i) (ah y19.e)&&(aB (ah D.f) (ah y19.b)&&(((D.a.1==y19.a.1)&&J)&&aB (ah D.a.2) (ah y19.a.2)&&J))) (av (di y19.1) λy20=>(av (jX (y16,y20)) λy21=>(aI (y21,y19.2)))))))) λx15=>(Z x15)) (jn (bq (Sx.op x.1) 5 (aI ((decide (((Sx.op x.1):Int)=5)),D.2.1,D.a,eL D.b,D.e)) (aI ((decide (((Sx.op x.1):Int)=6)),D.2.1,D.a,eL D.b,D.e))) λA=>(aJ A.1 (jn (α:=M?) (av (iC (A.c,x.2.1.2.2,(Sx.name A.b),4,4)) λy24=>(aJ y1.1 (av (di J) λy25=>(av (jX (y24,y25)) λy26=>(aI (y26,A.2.1,A.a,A.g)))) (av (eC ((5,6,(Sx.name A.b)),A.2.1,A.a,A.g)) λy27=>(bX (aB (ah A.i) (ah y27.e)&&(aB (ah A.f) (ah y27.b)&&(((A.a.1==y27.a.1)&&J)&&aB (ah A.a.2) (ah y27.a.2)&&J))) (av (di y27.1) λy28=>(av (jX (y24,y28)) λy29=>(aI (y29,y27.2)))))))) λx23=>(Z x23)) (bq (Sx.op x.1) 7 (av (di y1.1) λy30=>(Z (y30,A.2.1,A.a,A.g))) (bq (Sx.op x.1) 8 (jn (aJ y1.1 (av (di J) λy32=>(aI (y32,A.2.1,A.a,A.g))) (av (di y2.1) λy33=>(aI (y33,A.2.1,A.a,A.g)))) λx31=>(Z x31)) (jn (bq (Sx.op x.1) 9 (aI ((decide (((Sx.op x.1):Int)=9)),A.2.1,A.a,eL A.b,A.e)) (bq (Sx.op x.1) 10 (aI ((decide (((Sx.op x.1):Int)=10)),A.2.1,A.a,eL A.b,A.e)) (aI ((decide (((Sx.op x.1):Int)=11)),A.2.1,A.a,eL A.b,A.e)))) λq=>(aJ q.1 (av (iC (q.c,x.2.1.2.2,(Sx.name q.b),5,5)) λy35=>(gV y35 0 (Z (y35,q.2.1,q.a,q.g)) (av (jK (q.c.1,(Sx.name q.b))) λy36=>(bI J3 q.c.1 y36 λz37=>(av (eC ((4,4,z37.2.2.2.2.2),q.2.1,q.a,q.g)) λy38=>(bX (aB (ah q.i) (ah y38.e)&&(aB (ah q.f) (ah y38.b)&&(((q.a.1==y38.a.1)&&J)&&aB (ah q.a.2) (ah y38.a.2)&&J))) (jn (aJ y1.1 (av (di J) λy40=>(aI (y40,y38.2))) (aJ (!y38.1) (av (di J) λy41=>(aI (y41,y38.2))) (bq (Sx.op q.b) 9 (av (di y2.1) λy42=>(aI (y42,y38.2))) (av (di aa) λy43=>(aI (y43,y38.2)))))) λx39=>(Z x39)))))))) (bq (Sx.op x.1) 12 (av (iC (q.c,x.2.1.2.2,(Sx.name q.b),7,7)) λy44=>(gV y44 0 (Z (y44,q.2.1,q.a,q.g)) (av (jA (q.c.2,(Sx.name q.b))) λy45=>(jn (aJ y1.1 (aI (J,q.2.1,q.a,eL q.b,q.g)) (aJ y2.1 (aI (J,q.2.1,q.a,eL q.b,q.g)) (aJ y3.1 (aI (J,q.2.1,q.a,eL q.b,q.g)) (bq y45 x.2.1.2.2 (aI (J,q.2.1,q.a,eL q.b,q.g)) (aI ((decide ((y45:Int)=0)),q.2.1,q.a,eL q.b,q.g)))))) λI=>(aJ I.1 (Z (7,I.2.1,I.a,I.e)) (av (ki (I.c,(Sx.name I.b))) λy47=>(jr 0 y47 (Z (8,I.2.1,I.a,I.e)) (bX (bh (ah I.c+ah ([(Sx.name I.b)])) 16) (Z (0,I.2.1,I.a,(I.c++([(Sx.name I.b)])),I.g)))))))))) (bq (Sx.op x.1) 13 (jn (α:=M?) (av (iC (q.c,x.2.1.2.2,(Sx.name q.b),7,7)) λy49=>(aJ y1.1 (av (di J) λy50=>(av (jX (y49,y50)) λy51=>(aI (y51,q.2.1,q.a,q.g)))) (aJ y2.1 (av (di J) λy52=>(av (jX (y49,y52)) λy53=>(aI (y53,q.2.1,q.a,q.g)))) (av (jA (q.c.2,(Sx.name q.b))) λy54=>(av (di (decide ((y54:Int)=x.2.1.2.2))) λy55=>(av (jX (y49,y55)) λy56=>(aI (y56,q.2.1,q.a,q.g)))))))) λx48=>(Z x48)) (bq (Sx.op x.1) 14 (jn (α:=C?) (av (iC (q.c,x.2.1.2.2,(Sx.name q.b),6,6)) λy58=>(aJ y1.1 (av (di J) λy59=>(av (jX (y58,y59)) λy60=>(aI (y60,q.2.1,q.a,eL q.b,q.e)))) (av (di y3.1) λy61=>(av (jX (y58,y61)) λy62=>(aI (y62,q.2.1,q.a,eL q.b,q.e)))))) λx57=>(jn (α:=C?) (jn (bq x57.1 0 (av (ki (x57.i,(Sx.name x57.b))) λy65=>(aI ((c8 0 y65),x57.2.1,x57.a,eL x57.b,x57.e))) (aI (aa,x57.2.1,x57.a,eL x57.b,x57.e))) λx64=>(aJ x64.1 (aI (8,x64.2.1,x64.a,eL x64.b,x64.e)) (aI (x57.1,x64.2.1,x64.a,eL x64.b,x64.e)))) λN=>(bX (bh (ah N.i+ah ([(Sx.name N.b)])) 16) (av (oU (N.c,x.2.1.2.2,eJ ((Xp.op (Sx.expr N.b)),(Xp.n (Sx.expr N.b)),(Xp.name (Sx.expr N.b)),(Xp.l (Sx.expr N.b))))) λy66=>(av (jX (N.1,y66)) λy67=>(Z (y67,N.2.1,N.a,N.f,(N.i++([(Sx.name N.b)]))))))))) (av (iC (q.c,x.2.1.2.2,(Sx.name q.b),8,8)) λy68=>(av (iC (q.c,x.2.1.2.2,(Sx.arg q.b),6,6)) λy69=>(av (di y1.1) λy70=>(av (jX (y69,y70)) λy71=>(av (jX (y68,y71)) λy72=>(Z (y72,q.2.1,q.a,q.g))))))))))))))))))))))))))
abbrev I?:=(Y Sx)×d!
def nh (rr04_walk_all:I?->M anj) (x:I?):M anj:=
 (iter (σ:=M?) (λx1=>(bV x1.1 (be x.1) (bI (.sm) x.1 x1.1 λI=>(av (m8 (eL I,x1.2)) λD=>(bX (aB (ah x1.e) (ah x1.e)&&(aB (ah x1.b) (ah x1.b)&&(((x1.a.1==D.a.1)&&J)&&aB (ah x1.a.2) (ah D.a.2)&&J))) (jn (α:=Int×yN×Sx×(Bool×Y Sx)×dC×Y ζ) (bV 6 (aT .i64 ((be D.a.2)+1)) (aI (2,D.2.1,eL I,D.2.2)) (aI (D.1,D.2.1,eL I,D.2.2))) λx4=>(gV x4.1 0 (aI ((x4.1,(Sx.line x4.a)),x4.2.1,x4.d)) (bX (bh (ah x4.b.2+ah ([oZ (0,0,[],[],([]:Y Xp),eJ (0,0,[],([]:Y Xp)),([]:Y Sx),([]:Y Sx))])) 176) (ck (ij (be x4.b.2) (ah (x4.b.2++([oZ (0,0,[],[],([]:Y Xp),eJ (0,0,[],([]:Y Xp)),([]:Y Sx),([]:Y Sx))])))) (av (rr04_walk_all ((Sx.body x4.a),x4.2.1,(x4.b.1,(ca (x4.b.2++([oZ (0,0,[],[],([]:Y Xp),eJ (0,0,[],([]:Y Xp)),([]:Y Sx),([]:Y Sx))])) (be x4.b.2) (eL x4.a))),x4.e)) λA=>(bX (aB (ah x4.g) (ah x4.g)&&(aB (ah x4.c) (ah x4.c)&&(((x4.b.1==x4.b.1)&&J)&&aB (ah (ca (x4.b.2++([oZ (0,0,[],[],([]:Y Xp),eJ (0,0,[],([]:Y Xp)),([]:Y Sx),([]:Y Sx))])) (be x4.b.2) (eL x4.a))) (ah (ca (x4.b.2++([oZ (0,0,[],[],([]:Y Xp),eJ (0,0,[],([]:Y Xp)),([]:Y Sx),([]:Y Sx))])) (be x4.b.2) (eL x4.a)))&&J))) (jn (bq A.1.1 0 (av (rr04_walk_all ((Sx.els x4.a),A.2)) λN=>(bX (aB (ah A.e) (ah A.e)&&(aB (ah A.b) (ah A.b)&&(((A.a.1==A.a.1)&&J)&&aB (ah A.a.2) (ah A.a.2)&&J))) (aI N))) (aI A)) λq=>(bX (c8 0 (aT .i64 ((be q.a.2)-1))&&gM (aT .i64 ((be q.a.2)-1)) (ah q.a.2)) (gV q.1.1 0 (aI (q.1,q.2.1,(aa,(cu (aN (aT .i64 ((be q.a.2)-1))) q.a.2)),q.d)) (c7 ((cL x1.1),q.2.1,(aa,(cu (aN (aT .i64 ((be q.a.2)-1))) q.a.2)),q.d)))))))))))))) (aI ((0,0),x1.2)))) (0,x.2))
def jD:Nat->(I?)->M anj
 |0,_=>U
 |n+1,x=>nh (jD n) x
def Ev (n:Nat) (x:I?):jD (n+1) x=nh (jD n) x:=rfl
def xr (x:I?):M anj:=jD fZ x
def zV (rr04_Count:(Y Sx)->M (Int)) (x:Y Sx):M (Int):=
 (iter (σ:=ν) (λx1=>(bV x1.2 (be x) (AY x1.2 x (lt (Sx.body (aw (.sm) x x1.2)) λA=>(av (rr04_Count A) λI=>(AY x1.2 x (lt (Sx.els (aw (.sm) x x1.2)) λq=>(av (rr04_Count q) λD=>(c7 ((aT .i64 ((aT .i64 (x1.1+I))+D)),(cL x1.2))))))))) (aI x1.1))) ((be x),0))
def oC:Nat->(Y Sx)->M (Int)
 |0,_=>U
 |n+1,x=>zV (oC n) x
def Kx (n:Nat) (x:Y Sx):oC (n+1) x=zV (oC n) x:=rfl
def Ei (x:Y Sx):M (Int):=oC fZ x
abbrev t?:=Int×Int×f?
def sT (x:Y aro):M ν:=
 (iter (σ:=υ) (λx1=>(bV x1.e (be x) (jn (α:=t?) (bI J3 x x1.e λq=>(bX (c8 0 x1.e&&c8 x1.e (ah x)) (av (jK ((cu (aN x1.e) x),q.a)) λy4=>(jr 0 y4 (c7 (bU (4,q.2.1))) (bV 4 q.b (c7 (bU (2,q.2.1))) (jn (jn (bq q.1 1 (aI ((decide ((q.1:Int)=1)),q)) (aI ((decide ((q.1:Int)=2)),q))) λI=>(aJ I.1 (aI (((aT .i64 (x1.1+(FW I.c 1))),x1.2.1,x1.a,x1.b),I.2)) (jn (bq q.1 3 (aI ((decide ((q.1:Int)=3)),I.2)) (aI ((decide ((q.1:Int)=4)),I.2))) λN=>(aJ N.1 (aI ((x1.1,(cL x1.2.1),x1.a,x1.b),N.2)) (bq q.1 5 (aI ((x1.1,x1.2.1,(cL x1.a),x1.b),N.2)) (aI ((x1.1,x1.2.1,x1.a,(cL x1.b)),N.2))))))) λA=>(jn (bV 12 A.1.1 (aI (J,A.2)) (bV 4 A.1.2.1 (aI (J,A.2)) (bV 2 A.1.a (aI (J,A.2)) (aI ((gM 2 A.1.d),A.2))))) λD=>(aJ D.1 (c7 (bU (2,D.a))) (bq D.2.1 5 (bX (c8 0 x1.e&&c8 x1.e (ah x)) (av (jK ((cu (aN x1.e) x),D.i)) λy9=>(bV y9 0 (c7 (bU (5,D.a))) (bI J3 x y9 λz10=>(gV z10.1 3 (c7 (bU (6,D.a))) (aI A.1)))))) (aI A.1)))))))))) λx2=>(c7 (x2.1,x2.2.1,x2.a,x2.d,(cL x1.e)))) (aI (0,0)))) (0,0,0,0,0))
def oT (x:w?):M ν:=
 (iter (σ:=Int×w?) (λx1=>(bV x1.1 (be x1.2.2) (bI uL x1.2.2 x1.1 λI=>(jn (av (jK (x1.2.1,I.1)) λy4=>(jr 0 y4 (aI (J,x1.2,I)) (bX (c8 0 x1.1&&c8 x1.1 (ah x1.2.2)) (av (jA ((cu (aN x1.1) x1.2.2),I.1)) λy5=>(aI ((c8 0 y5),x1.2,I)))))) λx3=>(aJ x3.1 (aI (4,x3.b)) (c7 ((cL x1.1),x3.2.1))))) (av (iter (σ:=Int×w?) (λD=>(bV D.1 (be D.2.2) (bI uL D.2.2 D.1 λz7=>(bV 4 (be z7.a) (aI (2,z7.2.1)) (iter (σ:=H?) (λq=>(bV q.1 (be q.c) (bI (.str) q.c q.1 λN=>(jn (av (jK (q.2.1.1,N)) λy11=>(jr 0 y11 (aI (J,q.2)) (av (jA (q.2.1.2,N)) λy12=>(jr 0 y12 (aI (J,q.2)) (bX (c8 0 q.1&&c8 q.1 (ah q.c)) (av (ki ((cu (aN q.1) q.c),N)) λy13=>(aI ((c8 0 y13),q.2)))))))) λA=>(aJ A.1 (aI (bU (4,A.b))) (c7 ((cL q.1),A.2))))) (aI (kZ ((cL D.1),q.2.1))))) (0,D.2,z7)))) (aI (0,0)))) (0,x1.2)) λr=>Z (bU r)))) (0,x))
def gg (x:w?):M ν:=
 (av (rh x) λy1=>(aJ (!y1) (Z (3,0)) (av (sT x.1) λI=>(gV I.1 0 (Z I) (bV 4 (be x.2) (Z (2,0)) (av (oT x) λD=>(gV D.1 0 (Z D) (iter (σ:=(ν)×w?) (λx4=>(bV x4.1.2 (be x4.2.2) (bI uL x4.2.2 x4.1.2 λz5=>(av (Ei z5.2.2.2) λy6=>(c7 (((aT .i64 (x4.1.1+y6)),(cL x4.1.2)),x4.2)))) (av (bV 60 x4.1.1 (Z (2,0)) (iter (σ:=Int×(yM×Y yL)×d!) (λq=>(bV q.1 (be q.2.1.2) (bI uL q.2.1.2 q.1 λN=>(av (xr (N.2.2.2,(q.a.1,q.a.2.1,q.1),q.d)) λA=>(bX (aB (ah q.g) (ah q.g)&&(aB (ah q.c) (ah q.c)&&(((q.b.1==q.b.1)&&J)&&aB (ah q.b.2) (ah q.b.2)&&J))) (gV A.1.1 0 (aI A.1) (c7 ((cL q.1),q.2.1,A.2)))))) (aI (0,0)))) (0,x4.2,(x4.2.1,x4.2.2,0),(J,([]:Y Sx)),([]:Y ζ),([]:Y ζ)))) λr=>Z (bU r)))) ((0,0),x)))))))))
abbrev u!:=(Int×Int×Y Sx)×Y π
abbrev S!:=Int×Y π
def zS (rr06_sites:u!->M S!) (x:u!):M S!:=
 (iter (σ:=(ν)×Y π) (λx1=>(bV x1.1.2 (be x.1.2.2) (AY x1.1.2 x.1.2.2 (lt (Sx.line (aw (.sm) x.1.2.2 x1.1.2)) λq=>(bX (bh (ah x1.2+ah ([(x.1.1,x1.1.1,q)])) 24) (AY x1.1.2 x.1.2.2 (lt (Sx.body (aw (.sm) x.1.2.2 x1.1.2)) λN=>(av (rr06_sites ((x.1.1,(cL x1.1.1),N),(x1.2++([(x.1.1,x1.1.1,q)])))) λA=>(bX (aB (ah (x1.2++([(x.1.1,x1.1.1,q)]))) (ah (x1.2++([(x.1.1,x1.1.1,q)])))&&J) (AY x1.1.2 x.1.2.2 (lt (Sx.els (aw (.sm) x.1.2.2 x1.1.2)) λI=>(av (rr06_sites ((x.1.1,A.1,I),A.2)) λD=>(bX (aB (ah A.2) (ah A.2)&&J) (c7 ((D.1,(cL x1.1.2)),D.2))))))))))))) (aI (x1.1.1,x1.2)))) ((x.1.2.1,0),x.2))
def qS:Nat->(u!)->M S!
 |0,_=>U
 |n+1,x=>zS (qS n) x
def Kv (n:Nat) (x:u!):qS (n+1) x=zS (qS n) x:=rfl
def LZ (x:u!):M S!:=qS fZ x
def mf (x:mG×ζ):M (Int):=
 (iter (σ:=Int) (λx1=>(bV x1 (be x.1) (bI sk x.1 x1 λq=>(aJ (decide ((q.1:ζ)=x.2)) (aI x1) (c7 (cL x1)))) (aI (-1)))) 0)
abbrev N!:=Int×b?
def om (x:lN×ζ):M (Int):=
 (iter (σ:=N!) (λx1=>(bV x1.1 (be x1.2.1) (bI mb x1.2.1 x1.1 λq=>(aJ (decide ((q.1:ζ)=x.2)) (aI x1.1) (c7 ((cL x1.1),x1.2)))) (aI (-1)))) (0,x.1))
abbrev F?:=pD×mG×(Y jQ)×Y ζ
def vL (x:w?):M lN:=
 (av (gg x) λy1=>(gV y1.1 0 (Z (([]:Y EM),([]:Y v?),([]:Y jQ),([]:Y ζ),([]:Y ζ),([]:Y π))) (iter (σ:=Int×(yM×Y yL)×F?) (λx2=>(bV x2.1 (be x2.2.1.1) (bI J3 x2.2.1.1 x2.1 λI=>(jn (α:=(yM×Y yL)×F?) (jn (bq I.1 1 (aI ((decide ((I.1:Int)=1)),x2.2.1,I,x2.2.2)) (aI ((decide ((I.1:Int)=2)),x2.2.1,I,x2.2.2))) λx5=>(aJ x5.1 (iter (σ:=Int×(yM×Y yL)×aro×F?) (λA=>(bV A.1 (FW A.a.b 1) (bX (bh (ah A.b+ah ([(A.a.a,A.1,A.a.b,(decide ((A.a.1:Int)=2)),A.a.c)])) 48) (c7 ((cL A.1),A.2.1,A.a,(A.b++([(A.a.a,A.1,A.a.b,(decide ((A.a.1:Int)=2)),A.a.c)])),A.e))) (aI (bU (A.2.1,A.d))))) (0,x5.2)) (jn (bq I.1 3 (aI ((decide ((I.1:Int)=3)),x5.2)) (aI ((decide ((I.1:Int)=4)),x5.2))) λq=>(aJ q.1 (bX (bh (ah q.c+ah ([(q.a.a,(decide ((q.a.1:Int)=4)))])) 24) (aI (q.2.1,q.b,(q.c++([(q.a.a,(decide ((q.a.1:Int)=4)))])),q.g))) (bq I.1 5 (av (mf (q.c,q.a.g)) λy8=>(bX (bh (ah q.f+ah ([(q.a.a,y8)])) 24) (aI (q.2.1,q.b,q.c,(q.f++([(q.a.a,y8)])),q.i)))) (bX (bh (ah q.i+ah ([q.a.a])) 16) (aI (q.2.1,q.b,q.c,q.f,(q.i++([q.a.a])))))))))) λx4=>(c7 ((cL x2.1),x4)))) (av (iter (σ:=Int×(yM×Y yL)×b?) (λD=>(bV D.1 (be D.2.1.2) (bI uL D.2.1.2 D.1 λN=>(bX (bh (ah D.h+ah ([N.1])) 16) (bI uL D.2.1.2 D.1 λz11=>(av (LZ ((D.1,0,z11.2.2.2),D.j)) λy12=>(bX (aB (ah D.j) (ah D.j)&&J) (c7 ((cL D.1),D.2.1,D.a,D.b,D.c,D.f,(D.h++([N.1])),y12.2))))))) (aI D.2.2))) (0,x2.2.1,x2.a,x2.b,x2.c,x2.g,([]:Y ζ),([]:Y π))) λr=>Z (bU r)))) (0,x,([]:Y EM),([]:Y v?),([]:Y jQ),([]:Y ζ)))))
abbrev y!:=Int×lN×Y ζ
abbrev J?:=dC×(ζ)×o!
def qM (x:b?):M (dC×Bool):=
 (iter (σ:=y!) (λx1=>(bV x1.1 (be x1.2.1.1) (jn (α:=y!) (bI mb x1.2.1.1 x1.1 λD=>(bX (bh (ah x1.2.2+ah ([D.1])) 16) (bq D.a 0 (gV D.2.1 0 (c7 (bU (([]:Y ζ),aa))) (aI ((cL x1.1),x1.2.1,(x1.2.2++([D.1]))))) (jn (α:=Bool×lN×J?) (bV D.a 1 (aI (J,x1.2.1,(x1.2.2++([D.1])),D)) (bV 4 D.a (aI (J,x1.2.1,(x1.2.2++([D.1])),D)) (aI ((gM (aT .i64 ((be x1.2.1.1)-x1.1)) D.a),x1.2.1,(x1.2.2++([D.1])),D)))) λx4=>(aJ x4.1 (c7 (bU (([]:Y ζ),aa))) (iter (σ:=Int×lN×J?) (λA=>(bV A.1 A.f (bI mb A.2.1.1 (aT .i64 (x1.1+A.1)) λN=>(jn (gV N.2.1 A.1 (aI (J,A.2)) (aJ (!decide ((N.1:ζ)=A.b)) (aI (J,A.2)) (gV N.a A.f (aI (J,A.2)) (gV N.e A.j (aI (J,A.2)) (aI (N.b,A.2)))))) λx7=>(aJ x7.1 (aI (kZ (bU (([]:Y ζ),aa)))) (c7 ((cL A.1),x7.2))))) (aI (bU ((aT .i64 (x1.1+A.f)),A.2.1,A.a))))) (0,x4.2))))))) λx2=>(c7 x2)) (av (iter (σ:=y!) (λI=>(bV I.1 (be I.2.1.2.1) (bI sk I.2.1.2.1 I.1 λz9=>(bX (bh (ah I.2.2+ah ([z9.1])) 16) (c7 ((cL I.1),I.2.1,(I.2.2++([z9.1])))))) (av (iter (σ:=y!) (λq=>(bV q.1 (be q.2.1.a) (bI itK q.2.1.a q.1 λz11=>(bX (bh (ah q.2.2+ah ([z11.1])) 16) (c7 ((cL q.1),q.2.1,(q.2.2++([z11.1])))))) (av (bX (bh (ah q.2.2+ah q.2.1.b) 16) (bX (bh (ah (q.2.2++q.2.1.b)+ah q.2.1.c) 16) (Z (((q.2.2++q.2.1.b)++q.2.1.c),J)))) λr=>Z (bU r)))) (0,I.2)) λr=>Z (bU r)))) (0,x1.2)) λr=>Z (bU r)))) (0,x,([]:Y ζ)))
def jZ (x:b?):M (Bool):=
 (jn (bV 12 (be x.1) (aI (J,x)) (bV 4 (be x.2.1) (aI (J,x)) (bV 2 (be x.a) (aI (J,x)) (bV 2 (be x.b) (aI (J,x)) (bV (be x.c) 1 (aI (J,x)) (bV 4 (be x.c) (aI (J,x)) (aI ((gM 60 (be x.g)),x)))))))) λx1=>(aJ x1.1 (Z aa) (av (qM x1.2) λy2=>(aJ (!y2.2) (Z aa) (iter (σ:=N!) (λx3=>(bV x3.1 (be y2.1) (jn (bI (.str) y2.1 x3.1 λz5=>(av (fS z5) λy6=>(aJ (!y6) (aI (J,x3.2)) (bX (c8 0 x3.1&&c8 x3.1 (ah y2.1)) (bI (.str) y2.1 x3.1 λz7=>(av (ki ((cu (aN x3.1) y2.1),z7)) λy8=>(aI ((c8 0 y8),x3.2)))))))) λx4=>(aJ x4.1 (aI aa) (c7 ((cL x3.1),x4.2)))) (av (iter (σ:=N!) (λD=>(bV D.1 (be D.b) (bI itK D.b D.1 λz10=>(jn (bV z10.2 0 (aI (J,D.2)) (jr (be D.a) z10.2 (aI (J,D.2)) (bI sk D.a z10.2 λz12=>(aI (z12.2,D.2))))) λx11=>(aJ x11.1 (aI aa) (c7 ((cL D.1),x11.2))))) (av (iter (σ:=N!) (λq=>(bV q.1 (be q.i) (jn (bI pS q.i q.1 λN=>(jn (bV N.1 0 (aI (J,q.2,N)) (aI ((c8 (be q.f) N.1),q.2,N))) λI=>(aJ I.1 (c7 (bU aa)) (jn (bq q.1 0 (aI (J,I.2)) (bI pS I.2.1.g (aT .i64 (q.1-1)) λz18=>(aI ((!decide ((z18.1:Int)=I.a)),I.2)))) λA=>(aJ A.1 (jn (gV A.b 0 (aI (J,A.2.1)) (bV 0 q.1 (bI pS A.2.1.g (aT .i64 (q.1-1)) λz20=>(aI ((gM A.a z20.1),A.2.1))) (aI (aa,A.2.1)))) λx19=>(aJ x19.1 (c7 (bU aa)) (aI x19.2))) (bI pS A.2.1.g (aT .i64 (q.1-1)) λz21=>(gV A.b (cL z21.2.1) (c7 (bU aa)) (aI A.2.1)))))))) λx14=>(c7 ((cL q.1),x14))) (aI J))) (0,D.2)) λr=>Z (bU r)))) (0,x3.2)) λr=>Z (bU r)))) (0,x1.2))))))
def kG (x:ω):M η:=
 (jn (bq x.1 1 (aI ((decide ((x.1:Int)=1)),x)) (bq x.1 6 (aI ((decide ((x.1:Int)=6)),x)) (bq x.1 10 (aI ((decide ((x.1:Int)=10)),x)) (aI ((decide ((x.1:Int)=27)),x))))) λx1=>(aJ x1.1 (Z ([x1.a])) (jn (bq x.1 2 (aI ((decide ((x.1:Int)=2)),x1.2)) (aI ((decide ((x.1:Int)=3)),x1.2))) λx2=>(aJ x2.1 (Z ([x2.a,x2.b])) (bq x.1 4 (Z ([x2.a,x2.b,x2.c])) (bq x.1 7 (Z ([x2.a,x2.c])) (jn (bq x.1 8 (aI ((decide ((x.1:Int)=8)),x2.2)) (aI ((decide ((x.1:Int)=26)),x2.2))) λx3=>(aJ x3.1 (Z ([x3.b])) (bq x.1 9 (Z ([x3.b,x3.c])) (Z ([]:η)))))))))))
def rf (x:Int):M (Bool):=
 (jn (jr 1 x (aI (c8 x 5)) (aI aa)) λx1=>(Z x1))
def qN (x:(Y l9)×Int):M (Bool):=
 (iter (σ:=ν) (λx1=>(jr x1.2 (be x.1) (jn (jn (bV x1.1 0 (aI J) (aI (c8 (be x.1) x1.1))) λx3=>(aJ x3 (c7 (bU aa)) (bI sx x.1 x1.1 λD=>(av (rf D.1) λI=>(aJ (!I) (c7 (bU J)) (bI sx x.1 x1.1 λA=>(bq A.1 5 (bI sx x.1 x1.1 λq=>(aI q.2.1)) (aI (cL x1.1))))))))) λx2=>(c7 (x2,(cL x1.2)))) (aI aa))) (x.2,0))
def kh (x:ν):M (Bool):=
 (jn (jr 0 x.1 (aI (gM x.1 x.2)) (aI aa)) λx1=>(Z x1))
def qO (x:lN×f?):M (Bool):=
 (jn (av (kh (x.2.1,(be x.1.1))) λI=>(aJ I (bI mb x.1.1 x.2.1 λD=>(bq D.2.1 0 (bI mb x.1.1 x.2.1 λA=>(gV A.2.2.1 0 (bI mb x.1.1 x.2.1 λq=>(aI (decide ((q.2.2.1:Int)=x.2.2)))) (aI aa))) (aI aa))) (aI aa))) λx1=>(Z x1))
def mw (x:lN×Int×Int×t?):M (Bool):=
 (bq x.2.1 6 (jn (av (kh (x.b,(be x.1.1))) λy2=>(aJ y2 (bI mb x.1.1 x.b λz3=>(aI (decide ((z3.2.2.1:Int)=0)))) (aI aa))) λx1=>(Z x1)) (bq x.2.1 8 (jn (av (kh (x.a,(be x.1.1))) λy5=>(aJ y5 (bI mb x.1.1 x.a λz6=>(aI (decide ((z6.2.2.1:Int)=0)))) (aI aa))) λx4=>(Z x4)) (bq x.2.1 7 (av (qO (x.1,x.b,x.f)) λy7=>(Z y7)) (bq x.2.1 9 (av (qO (x.1,x.a,x.f)) λy8=>(Z y8)) (jn (bq x.2.1 11 (aI ((decide ((x.2.1:Int)=11)),x)) (aI ((decide ((x.2.1:Int)=12)),x))) λI=>(aJ I.1 (jn (av (kh (I.b,(be I.2.1.2.1))) λy11=>(aJ y11 (bI sk I.2.1.2.1 I.b λz12=>(aI (!z12.2))) (aI aa))) λx10=>(Z x10)) (jn (bq x.2.1 13 (aI ((decide ((x.2.1:Int)=13)),I.2)) (bq x.2.1 14 (aI ((decide ((x.2.1:Int)=14)),I.2)) (bq x.2.1 15 (aI ((decide ((x.2.1:Int)=15)),I.2)) (aI ((decide ((x.2.1:Int)=16)),I.2))))) λA=>(aJ A.1 (jn (av (kh (A.b,(be A.2.1.2.1))) λy15=>(aJ y15 (bI sk A.2.1.2.1 A.b λN=>(aI N.2)) (aI aa))) λx14=>(Z x14)) (jn (bq x.2.1 21 (aI ((decide ((x.2.1:Int)=21)),A.2)) (bq x.2.1 22 (aI ((decide ((x.2.1:Int)=22)),A.2)) (aI ((decide ((x.2.1:Int)=23)),A.2)))) λD=>(aJ D.1 (av (kh (D.b,(be D.2.1.a))) λy18=>(Z y18)) (jn (bq x.2.1 24 (aI ((decide ((x.2.1:Int)=24)),D.2)) (aI ((decide ((x.2.1:Int)=25)),D.2))) λq=>(aJ q.1 (av (kh (q.b,(be q.2.1.c))) λy20=>(Z y20)) (bq x.2.1 26 (av (kh (q.b,(be q.2.1.b))) λy21=>(Z y21)) (bq x.2.1 27 (av (kh (q.c,(be q.2.1.b))) λy22=>(Z y22)) (bq x.2.1 3 (jn (bq q.h 4 (aI J) (aI (decide ((q.h:Int)=5)))) λx23=>(Z x23)) (bq x.2.1 4 (jn (jr 6 q.h (aI (c8 q.h 18)) (aI aa)) λx24=>(Z x24)) (Z J)))))))))))))))))
abbrev K!:=Int×Y l9
def iW (x:lN×Int×K!):M (Bool):=
 (jn (bV x.a 0 (aI (J,x.1,x.2.2)) (bV 32 x.a (aI (J,x.1,x.2.2)) (aI ((decide (((be x.d):Int)=0)),x.1,x.2.2)))) λx1=>(aJ x1.1 (Z aa) (iter (σ:=Int×lN×K!) (λx2=>(bV x2.1 (be x.d) (bI sx x2.d x2.1 λD=>(jn (bV D.1 1 (aI (J,x2.2.1,x2.2.2,D)) (bV 28 D.1 (aI (J,x2.2.1,x2.2.2,D)) (aJ (((decide ((D.1:Int)=28))==(decide ((x2.1:Int)=(aT .i64 ((be x.d)-1))))) !=J) (aI (J,x2.2.1,x2.2.2,D)) (av (mw (x2.2.1,D)) λy5=>(aJ (!y5) (aI (J,x2.2.1,x2.2.2,D)) (av (qN (x2.d,x2.1)) λy6=>(aI ((!y6),x2.2.1,x2.2.2,D)))))))) λx4=>(aJ x4.1 (aI aa) (jn (α:=Bool×lN×(Int×Y l9)×Int×Int×t?) (bq x4.b 28 (gV x4.l (-1) (aI (J,x4.2)) (gV x4.b 28 (av (kh (x4.l,(be x4.2.1.g))) λy8=>(aJ (!y8) (aI (J,x4.2)) (bI pS x4.2.1.g x4.l λz9=>(aI ((!decide ((z9.1:Int)=x.2.1)),x4.2))))) (aI (aa,x4.2)))) (gV x4.b 28 (av (kh (x4.l,(be x4.2.1.g))) λy10=>(aJ (!y10) (aI (J,x4.2)) (bI pS x4.2.1.g x4.l λz11=>(aI ((!decide ((z11.1:Int)=x.2.1)),x4.2))))) (aI (aa,x4.2)))) λA=>(aJ A.1 (aI aa) (jn (bq A.b 5 (av (kh (A.c,(be x.d))) λy13=>(aJ (!y13) (aI (J,A.2)) (bq A.b 10 (av (kh (A.f,(be x.d))) λy14=>(aI ((!y14),A.2))) (aI (aa,A.2))))) (bq A.b 10 (av (kh (A.f,(be x.d))) λy15=>(aI ((!y15),A.2))) (aI (aa,A.2)))) λI=>(aJ I.1 (aI aa) (av (kG I.d) λN=>(iter (σ:=Int×lN×K!) (λq=>(bV q.1 (be N) (bI aP N q.1 λz18=>(av (kh (z18,q.a)) λy19=>(aJ (!y19) (aI (bU aa)) (c7 ((cL q.1),q.2))))) (aI (kZ ((cL x2.1),q.2))))) (0,I.2.1,I.a)))))))))) (aI J))) (0,x1.2))))
def kF (x:w!):M (Bool):=
 (jn (av (jZ x.1) λD=>(aJ (!D) (aI (J,x)) (aI ((!decide (((be x.2):Int)=(be x.1.c))),x)))) λx1=>(aJ x1.1 (Z aa) (iter (σ:=Int×w!) (λx3=>(bV x3.1 (be x3.2.2) (bI yP x3.2.2 x3.1 λq=>(av (iW (x3.2.1,x3.1,q)) λA=>(aJ (!A) (aI aa) (c7 ((cL x3.1),x3.2))))) (aI J))) (0,x1.2))))
def cN (x:l9×d?):M d?:=
 (bX (bh (ah x.2.2+ah ([(x.1.1,x.1.2.1,x.1.a,x.1.b,x.1.c,x.2.1.k)])) 48) (Z (x.2.1,(x.2.2++([(x.1.1,x.1.2.1,x.1.a,x.1.b,x.1.c,x.2.1.k)])))))
abbrev D?:=(Xp×Int)×d?
def rU (rr06_gen_value:D?->M d?) (x:D?):M d?:=
 (jn (α:=d?) (bq (Xp.op x.1.1) 1 (av (cN ((1,x.1.2,0,0,(Xp.n x.1.1),0),x.2)) λy2=>(bX (aB (ah x.2.2) (ah x.2.2)&&J) (aI y2))) (bq (Xp.op x.1.1) 2 (av (ki (x.2.1.h,(Xp.name x.1.1))) λy3=>(jr 0 y3 (av (cN ((2,x.1.2,y3,0,0,0),x.2)) λy4=>(bX (aB (ah x.2.2) (ah x.2.2)&&J) (aI y4))) (av (om ((x.2.1.1,x.2.1.2.1,x.2.1.a,x.2.1.b,x.2.1.c,x.2.1.f),(Xp.name x.1.1))) λy5=>(av (cN ((6,x.1.2,y5,0,0,0),x.2)) λy6=>(bX (aB (ah x.2.2) (ah x.2.2)&&J) (aI y6)))))) (bq (Xp.op x.1.1) 3 (bI (.ex) (Xp.l x.1.1) 0 λz7=>(av (rr06_gen_value ((z7,x.1.2),x.2)) λq=>(bX (aB (ah x.2.2) (ah x.2.2)&&J) (av (om ((q.1.1,q.1.2.1,q.1.a,q.1.b,q.1.c,q.1.f),(Xp.name x.1.1))) λy9=>(bI mb q.1.1 y9 λz10=>(av (cN ((7,x.1.2,y9,x.1.2,z10.2.2.1,0),q)) λy11=>(bX (aB (ah q.2) (ah q.2)&&J) (aI y11)))))))) (bq (aY (ah (Xp.l x.1.1))) 1 (bI (.ex) (Xp.l x.1.1) 0 λz12=>(av (rr06_gen_value ((z12,x.1.2),x.2)) λI=>(bX (aB (ah x.2.2) (ah x.2.2)&&J) (av (cN ((3,x.1.2,x.1.2,0,(Xp.op x.1.1),0),I)) λy14=>(bX (aB (ah I.2) (ah I.2)&&J) (aI y14)))))) (bI (.ex) (Xp.l x.1.1) 0 λz15=>(av (rr06_gen_value ((z15,x.1.2),x.2)) λD=>(bX (aB (ah x.2.2) (ah x.2.2)&&J) (bI (.ex) (Xp.l x.1.1) 1 λN=>(av (rr06_gen_value ((N,(cL x.1.2)),D)) λA=>(bX (aB (ah D.2) (ah D.2)&&J) (av (cN ((4,x.1.2,x.1.2,(cL x.1.2),(Xp.op x.1.1),0),A)) λy19=>(bX (aB (ah A.2) (ah A.2)&&J) (aI y19))))))))))))) λx1=>(Z x1))
def jO:Nat->(D?)->M d?
 |0,_=>U
 |n+1,x=>rU (jO n) x
def Dk (n:Nat) (x:D?):jO (n+1) x=rU (jO n) x:=rfl
def jJ (x:D?):M d?:=jO fZ x
def mN (x:Sx×d?):M d?:=
 (bV 0 (aY (ah (Sx.index x.1))) (bI (.ex) (Sx.index x.1) 0 λz1=>(av (jJ ((z1,(be x.2.1.h)),x.2)) λD=>(bX (aB (ah x.2.2) (ah x.2.2)&&J) (av (jJ ((eJ ((Xp.op (Sx.expr x.1)),(Xp.n (Sx.expr x.1)),(Xp.name (Sx.expr x.1)),(Xp.l (Sx.expr x.1))),(aT .i64 ((be x.2.1.h)+1))),D)) λA=>(bX (aB (ah D.2) (ah D.2)&&J) (av (om ((A.1.1,A.1.2.1,A.1.a,A.1.b,A.1.c,A.1.f),(Sx.name x.1))) λy4=>(bI mb A.1.1 y4 λz5=>(av (cN ((9,y4,(aT .i64 ((be x.2.1.h)+1)),(be x.2.1.h),z5.2.2.1,0),A)) λy6=>(bX (aB (ah A.2) (ah A.2)&&J) (Z y6)))))))))) (av (jJ ((eJ ((Xp.op (Sx.expr x.1)),(Xp.n (Sx.expr x.1)),(Xp.name (Sx.expr x.1)),(Xp.l (Sx.expr x.1))),(be x.2.1.h)),x.2)) λq=>(bX (aB (ah x.2.2) (ah x.2.2)&&J) (av (ki (q.1.h,(Sx.name x.1))) λy8=>(jr 0 y8 (av (cN ((2,y8,(be x.2.1.h),0,0,0),q)) λy9=>(bX (aB (ah q.2) (ah q.2)&&J) (Z y9))) (av (om ((q.1.1,q.1.2.1,q.1.a,q.1.b,q.1.c,q.1.f),(Sx.name x.1))) λN=>(av (cN ((8,N,(be x.2.1.h),0,0,0),q)) λI=>(bX (aB (ah q.2) (ah q.2)&&J) (Z I)))))))))
def kq (x:ζ×d?):M (Int×d?):=
 (iter (σ:=Int×d?) (λx1=>(bV x1.1 (be x1.2.1.a) (bI itK x1.2.1.a x1.1 λq=>(aJ (decide ((q.1:ζ)=x.1)) (aI x1) (c7 ((cL x1.1),x1.2)))) (aI ((-1),x1.2)))) (0,x.2))
def vV (rr06_gen_stmts:ajd->M d?) (rr06_gen_stmt:PR->M d?) (rr06_gen_branches:PR->M d?) (rr06_gen_around:aje->M d?) (x:(Y Sx)×d?):M d?:=
 (iter (σ:=Int×d?) (λx1=>(bV x1.1 (be x.1) (bI (.sm) x.1 x1.1 λq=>(av (rr06_gen_stmt (q,x1.2)) λA=>(bX (aB (ah x1.2.2) (ah x1.2.2)&&J) (c7 ((cL x1.1),A))))) (aI x1.2))) (0,x.2))
def tC (rr06_gen_stmts:ajd->M d?) (rr06_gen_stmt:PR->M d?) (rr06_gen_branches:PR->M d?) (rr06_gen_around:aje->M d?) (x:Sx×d?):M d?:=
 (jn (α:=d?) (bq (Sx.op x.1) 1 (av (mN (eL x.1,(x.2.1.1,x.2.1.2.1,x.2.1.a,x.2.1.b,x.2.1.c,x.2.1.f,x.2.1.h,x.2.1.l,(cL x.2.1.l)),x.2.2)) λy2=>(bX (aB (ah x.2.2) (ah x.2.2)&&J) (aI y2))) (jn (bq (Sx.op x.1) 2 (aI ((decide (((Sx.op x.1):Int)=2)),(x.2.1.1,x.2.1.2.1,x.2.1.a,x.2.1.b,x.2.1.c,x.2.1.f,x.2.1.h,x.2.1.l,(cL x.2.1.l)),eL x.1,x.2.2)) (aI ((decide (((Sx.op x.1):Int)=3)),(x.2.1.1,x.2.1.2.1,x.2.1.a,x.2.1.b,x.2.1.c,x.2.1.f,x.2.1.h,x.2.1.l,(cL x.2.1.l)),eL x.1,x.2.2))) λx3=>(aJ x3.1 (av (rr06_gen_branches (eL x3.a,x3.2.1,x3.d)) λy4=>(bX (aB (ah x3.d) (ah x3.d)&&J) (aI y4))) (bq (Sx.op x.1) 4 (av (mf (x3.2.1.2.1,(Sx.name x3.a))) λy5=>(av (rr06_gen_around ((eL x3.a,11,12,y5),x3.2.1,x3.d)) λy6=>(bX (aB (ah x3.d) (ah x3.d)&&J) (aI y6)))) (bq (Sx.op x.1) 5 (av (mf (x3.2.1.2.1,(Sx.name x3.a))) λy7=>(av (rr06_gen_around ((eL x3.a,13,14,y7),x3.2.1,x3.d)) λy8=>(bX (aB (ah x3.d) (ah x3.d)&&J) (aI y8)))) (bq (Sx.op x.1) 6 (av (mf (x3.2.1.2.1,(Sx.name x3.a))) λy9=>(av (rr06_gen_around ((eL x3.a,15,16,y9),x3.2.1,x3.d)) λy10=>(bX (aB (ah x3.d) (ah x3.d)&&J) (aI y10)))) (bq (Sx.op x.1) 7 (av (rr06_gen_around ((eL x3.a,17,18,0),x3.2.1,x3.d)) λy11=>(bX (aB (ah x3.d) (ah x3.d)&&J) (aI y11))) (bq (Sx.op x.1) 8 (av (rr06_gen_around ((eL x3.a,19,20,0),x3.2.1,x3.d)) λy12=>(bX (aB (ah x3.d) (ah x3.d)&&J) (aI y12))) (bq (Sx.op x.1) 9 (av (kq ((Sx.name x3.a),x3.2.1,x3.d)) λD=>(bX (aB (ah x3.d) (ah D.2.2)&&J) (av (cN ((21,D.1,0,0,0,0),D.2)) λy14=>(bX (aB (ah D.2.2) (ah D.2.2)&&J) (aI y14))))) (bq (Sx.op x.1) 10 (av (kq ((Sx.name x3.a),x3.2.1,x3.d)) λA=>(bX (aB (ah x3.d) (ah A.2.2)&&J) (av (cN ((22,A.1,0,0,0,0),A.2)) λy16=>(bX (aB (ah A.2.2) (ah A.2.2)&&J) (aI y16))))) (bq (Sx.op x.1) 11 (av (kq ((Sx.name x3.a),x3.2.1,x3.d)) λq=>(bX (aB (ah x3.d) (ah q.2.2)&&J) (av (cN ((23,q.1,0,0,0,0),q.2)) λy18=>(bX (aB (ah q.2.2) (ah q.2.2)&&J) (aI y18))))) (bq (Sx.op x.1) 12 (av (ki (x3.2.1.c,(Sx.name x3.a))) λy19=>(av (cN ((24,y19,0,0,0,0),x3.2.1,x3.d)) λy20=>(bX (aB (ah x3.d) (ah x3.d)&&J) (aI y20)))) (bq (Sx.op x.1) 13 (av (ki (x3.2.1.c,(Sx.name x3.a))) λy21=>(av (cN ((25,y21,0,0,0,0),x3.2.1,x3.d)) λy22=>(bX (aB (ah x3.d) (ah x3.d)&&J) (aI y22)))) (bq (Sx.op x.1) 14 (av (jJ ((eJ ((Xp.op (Sx.expr x3.a)),(Xp.n (Sx.expr x3.a)),(Xp.name (Sx.expr x3.a)),(Xp.l (Sx.expr x3.a))),(be x.2.1.h)),x3.2.1,x3.d)) λI=>(bX (aB (ah x3.d) (ah x3.d)&&J) (av (ki (I.1.b,(Sx.name x3.a))) λy24=>(av (cN ((26,y24,(be x.2.1.h),0,0,0),I)) λy25=>(bX (aB (ah I.2) (ah I.2)&&J) (aI y25)))))) (bq (Sx.op x.1) 15 (av (ki (x3.2.1.h,(Sx.name x3.a))) λy26=>(av (ki (x3.2.1.b,(Sx.arg x3.a))) λy27=>(av (cN ((27,y26,y27,0,0,0),x3.2.1,x3.d)) λN=>(bX (aB (ah x3.d) (ah x3.d)&&J) (aI N))))) (aI (x3.2.1,x3.d))))))))))))))))) λx1=>(Z x1))
def nF (rr06_gen_stmts:ajd->M d?) (rr06_gen_stmt:PR->M d?) (rr06_gen_branches:PR->M d?) (rr06_gen_around:aje->M d?) (x:Sx×d?):M d?:=
 (av (jJ ((eJ ((Xp.op (Sx.expr x.1)),(Xp.n (Sx.expr x.1)),(Xp.name (Sx.expr x.1)),(Xp.l (Sx.expr x.1))),(be x.2.1.h)),x.2)) λA=>(bX (aB (ah x.2.2) (ah x.2.2)&&J) (av (cN ((10,(be A.1.h),0,0,0,0),A)) λy2=>(bX (aB (ah A.2) (ah A.2)&&J) (av (rr06_gen_stmts ((Sx.body x.1),y2)) λq=>(bX (aB (ah y2.2) (ah y2.2)&&J) (bq (Sx.op x.1) 3 (av (cN ((5,(be x.2.2),0,0,0,0),(q.1.1,q.1.2.1,q.1.a,q.1.b,q.1.c,q.1.f,q.1.h,x.2.1.k,q.1.l),q.2)) λI=>(bX (aB (ah q.2) (ah q.2)&&J) (ck (ij (be A.2) (ah I.2)) (Z (I.1,(ca I.2 (be A.2) ((aw sx I.2 (be A.2)).1,((aw sx I.2 (be A.2)).2).1,(be I.2),(((aw sx I.2 (be A.2)).2).2).2))))))) (bq (aY (ah (Sx.els x.1))) 0 (ck (ij (be A.2) (ah q.2)) (Z ((q.1.1,q.1.2.1,q.1.a,q.1.b,q.1.c,q.1.f,q.1.h,x.2.1.k,q.1.l),(ca q.2 (be A.2) ((aw sx q.2 (be A.2)).1,((aw sx q.2 (be A.2)).2).1,(be q.2),(((aw sx q.2 (be A.2)).2).2).2))))) (av (cN ((5,0,0,0,0,0),(q.1.1,q.1.2.1,q.1.a,q.1.b,q.1.c,q.1.f,q.1.h,x.2.1.k,q.1.l),q.2)) λD=>(bX (aB (ah q.2) (ah q.2)&&J) (ck (ij (be A.2) (ah D.2)) (av (rr06_gen_stmts ((Sx.els x.1),D.1,(ca D.2 (be A.2) ((aw sx D.2 (be A.2)).1,((aw sx D.2 (be A.2)).2).1,(be D.2),(((aw sx D.2 (be A.2)).2).2).2)))) λN=>(bX (aB (ah (ca D.2 (be A.2) ((aw sx D.2 (be A.2)).1,((aw sx D.2 (be A.2)).2).1,(be D.2),(((aw sx D.2 (be A.2)).2).2).2))) (ah (ca D.2 (be A.2) ((aw sx D.2 (be A.2)).1,((aw sx D.2 (be A.2)).2).1,(be D.2),(((aw sx D.2 (be A.2)).2).2).2)))&&J) (ck (ij (be q.2) (ah N.2)) (Z (N.1,(ca N.2 (be q.2) ((aw sx N.2 (be q.2)).1,(be N.2),((aw sx N.2 (be q.2)).2).2))))))))))))))))))
def uE (rr06_gen_stmts:ajd->M d?) (rr06_gen_stmt:PR->M d?) (rr06_gen_branches:PR->M d?) (rr06_gen_around:aje->M d?) (x:R?):M d?:=
 (av (cN ((x.1.2.1,x.1.d,0,0,0,0),x.2)) λA=>(bX (aB (ah x.2.2) (ah x.2.2)&&J) (av (rr06_gen_stmts ((Sx.body x.1.1),A)) λq=>(bX (aB (ah A.2) (ah A.2)&&J) (av (cN ((x.1.a,x.1.d,0,0,0,0),(q.1.1,q.1.2.1,q.1.a,q.1.b,q.1.c,q.1.f,q.1.h,x.2.1.k,q.1.l),q.2)) λD=>(bX (aB (ah q.2) (ah q.2)&&J) (Z D)))))))
mutual
def dT:Nat->ajd->M d?
 |0,_=>U
 |n+1,x=>vV (dT n) (fc n) (dl n) (dM n) x
def fc:Nat->PR->M d?
 |0,_=>U
 |n+1,x=>tC (dT n) (fc n) (dl n) (dM n) x
def dl:Nat->PR->M d?
 |0,_=>U
 |n+1,x=>nF (dT n) (fc n) (dl n) (dM n) x
def dM:Nat->aje->M d?
 |0,_=>U
 |n+1,x=>uE (dT n) (fc n) (dl n) (dM n) x
end
def vK (x:(Y Sx)×d?):M d?:=dT fZ x
abbrev A?:=Int×(yM×Y yL)×lN×tK×Int×(Y (Int×Y l9))×Y l9
def rI (x:w?):M (E4×f?):=
 (av (gg x) λy1=>(gV y1.1 0 (Z (((([]:Y EM),([]:Y v?),([]:Y jQ),([]:Y ζ),([]:Y ζ),([]:Y π)),([]:Y K!)),y1)) (av (vL x) λy2=>(iter (σ:=(ν)×(yM×Y yL)×w!) (λx3=>(bV x3.1.2 (be x3.2.1.2) (bI uL x3.2.1.2 x3.1.2 λz4=>(bI uL x3.2.1.2 x3.1.2 λz5=>(av (vK (z5.2.2.2,(x3.a.1,x3.a.2.1,x3.a.a,x3.a.b,x3.a.c,x3.a.g,z4.2.2.1,0,x3.1.1),([]:Y l9))) λD=>(bX (aB (ah ([]:Y l9)) (ah ([]:Y l9))&&J) (av (cN ((28,0,0,0,0,0),(D.1.1,D.1.2.1,D.1.a,D.1.b,D.1.c,D.1.f,D.1.h,(-1),D.1.l),D.2)) λy7=>(bX (aB (ah D.2) (ah D.2)&&J) (iter (σ:=A?) (λA=>(bV A.1 (be A.i) (mn sx A.i A.1 λz9=>(av (kG z9) λI=>(iter (σ:=A?) (λq=>(bV q.1 (be I) (bI aP I q.1 λN=>(c7 ((cL q.1),q.2.1,q.a,q.b,(FW q.c (cL N)),q.g))) (aI (kZ ((cL A.1),q.2))))) (0,A.2)))) (av (bX (bh (ah A.f+ah ([(A.c,A.i)])) 32) (c7 ((D.1.l,(cL x3.1.2)),A.2.1,A.a,(A.f++([(A.c,A.i)]))))) λr=>Z (bU r)))) (0,x3.2.1,x3.a,y7.1,(be y7.1.h),x3.d,y7.2)))))))) (aI (x3.2.2,0,0)))) ((0,0),x,y2,([]:Y K!))))))
def lS (x:q!):M (Bool):=
 (iter (σ:=Int) (λx1=>(bV x1 (be x.1) (bI aP x.1 x1 λq=>(bq q x.2 (aI J) (c7 (cL x1)))) (aI aa))) 0)
def xW (x:q!):M η:=
 (iter (σ:=Int) (λx1=>(jn (bV x1 (be x.1) (bI aP x.1 x1 λA=>(aI (gM A x.2))) (aI aa)) λx2=>(aJ x2 (c7 (cL x1)) (av (jn (bV x1 (be x.1) (bI aP x.1 x1 λq=>(aI (decide ((q:Int)=x.2)))) (aI aa)) λx4=>(aJ x4 (Z x.1) (bX (c8 0 x1&&c8 x1 (ah x.1)) (bX (bh (ah ([]:η)+ah (cu (aN x1) x.1)) 8) (bX (bh (ah (([]:η)++(cu (aN x1) x.1))+ah ([x.2])) 8) (bX (c8 0 x1&&c8 x1 (ah x.1)) (bX (bh (ah ((([]:η)++(cu (aN x1) x.1))++([x.2]))+ah (ig (aN x1) x.1)) 8) (Z (((([]:η)++(cu (aN x1) x.1))++([x.2]))++(ig (aN x1) x.1)))))))))) λr=>Z (bU r))))) 0)
abbrev O!:=η×η
def vJ (x:O!):M η:=
 (iter (σ:=(η)×Int) (λx1=>(bV x1.2 (be x.1) (bI aP x.1 x1.2 λA=>(av (xW (x1.1,A)) λI=>(c7 (I,(cL x1.2))))) (av (iter (σ:=(η)×Int) (λx4=>(bV x4.2 (be x.2) (bI aP x.2 x4.2 λq=>(av (xW (x4.1,q)) λD=>(c7 (D,(cL x4.2))))) (aI x4.1))) (x1.1,0)) λr=>Z (bU r)))) (([]:η),0))
def m7 (x:Int):M (Int):=
 (jn (bV x 1 (aI J) (aI (gM 100 x))) λx1=>(aJ x1 (Z 0) (Z x)))
abbrev k?:=(η)×Y η
def cF (x:h?):M (ν×k?):=
 (bX (bh (ah ([]:η)+ah x.2.1) 8) (iter (σ:=Int×xE×(ν)×(ν)×k?) (λx1=>(bV x1.1 (be x1.2.1.a) (bI (.sl aP) x1.2.1.a x1.1 λq=>(bX (bh (ah ([]:η)+ah q) 8) (bX (bh (ah x1.g+ah ([(([]:η)++q)])) 24) (c7 ((cL x1.1),x1.2.1,x1.a,x1.b,x1.c,(x1.g++([(([]:η)++q)]))))))) (aI x1.d))) (0,x,(0,0),(x.1,x.d),(([]:η)++x.2.1),([]:Y η))))
abbrev O?:=(η)×(Y η)×l9×(ν)×f?
def xV (x:(l9×Int×Int)×k?):M ((ν×Bool)×k?):=
 (av (kG x.1.1) λy1=>(iter (σ:=Int×O?) (λx2=>(bV x2.1 (be y1) (jn (bI aP y1 x2.1 λz4=>(bV z4 0 (aI (J,x2.2)) (bI aP y1 x2.1 λz5=>(aI ((c8 (be x2.2.1) z5),x2.2))))) λx3=>(aJ x3.1 U (c7 ((cL x2.1),x3.2)))) (av (jn (α:=(Int×Bool×η)×O?) (bq x2.b.1 5 (c7 (((x2.b.2.1,x2.c.2),J),x2.2.1,x2.a)) (bq x2.b.1 1 (aI ((x2.b.c,J,([]:η)),x2.2)) (bq x2.b.1 2 (mn aP x2.2.1 x2.b.a λz7=>(mn (.sl aP) x2.a x2.b.a λz8=>(aI ((z7,J,z8),x2.2)))) (bq x2.b.1 3 (av (m7 x2.b.c) λy9=>(mn aP x2.2.1 x2.b.a λz10=>(av (vM (y9,z10)) λD=>(mn (.sl aP) x2.a x2.b.a λz12=>(aI ((D.1,D.2,z12),x2.2)))))) (av (m7 x2.b.c) λy13=>(mn aP x2.2.1 x2.b.a λz14=>(mn aP x2.2.1 x2.b.b λz15=>(av (ua (y13,z14,z15)) λA=>(mn (.sl aP) x2.a x2.b.a λN=>(mn (.sl aP) x2.a x2.b.b λI=>(av (vJ (N,I)) λy19=>(aI ((A.1,A.2,y19),x2.2))))))))))))) λq=>(bX (bh (ah ([]:η)+ah q.1.2.2) 8) (ck (ij q.b.2.1 (ah q.2.1)) (ck (ij q.b.2.1 (ah q.a)) (Z ((((cL q.c.1),q.c.2),q.1.2.1),(ca q.2.1 q.b.2.1 q.1.1),(ca q.a q.b.2.1 (([]:η)++q.1.2.2)))))))) λr=>Z (bU r)))) (0,x.2.1,x.2.2,x.1.1,x.1.2,0,0)))
def ol (x:(Int×Y l9)×h?):M (xE×Bool):=
 (jn (α:=Bool×(Int×Y l9)×xE×f?) (gV (be x.a) x.1.1 (aI (J,x.1,x.2,0,0)) (aI ((!decide (((be x.b):Int)=x.1.1)),x.1,x.2,0,0))) λx1=>(aJ x1.1 (Z ((0,([]:η),([]:Y η),0),aa)) (av (cF x1.a) λD=>(iter (σ:=Int×(Int×Y l9)×(ν)×(ν)×k?) (λx3=>(jr x3.1 (be x3.2.1.2) (jn (bV x3.a.1 0 (aI (J,x3.2)) (aI ((c8 (be x3.2.1.2) x3.a.1),x3.2))) λx4=>(aJ x4.1 (aI ((0,([]:η),([]:Y η),0),aa)) (bI sx x4.2.1.2 x4.a.1 λA=>(av (rf A.1) λI=>(aJ (!I) (aI ((x4.a.1,x4.c,x4.g,x4.a.2),J)) (bq x3.1 (be x4.2.1.2) (aI ((0,([]:η),([]:Y η),0),aa)) (av (xV ((A,x4.a),x4.e)) λq=>(bX (aB (ah x4.g) (ah q.2.2)&&(aB (ah x4.c) (ah q.2.1)&&J)) (aJ (!q.1.2) (aI ((0,([]:η),([]:Y η),0),aa)) (c7 ((cL x3.1),x4.2.1,q.1.1,x4.b,q.2))))))))))) (aI ((0,([]:η),([]:Y η),0),aa)))) (0,x1.2.1,D.1,x1.d,D.2)))))
abbrev n!:=Int×Int×jF×e?
abbrev B!:=jF×e?
def vI (x:b?):M lE:=
 (iter (σ:=Int×lN×Int×Int×Y (Int×η)) (λx1=>(bV x1.1 (be x1.2.1.2.1) (bX (bh (ah x1.e+ah ([((-1),([]:η))])) 32) (c7 ((cL x1.1),x1.2.1,x1.a,x1.b,(x1.e++([((-1),([]:η))]))))) (av (iter (σ:=Int×lN×Int×Int×jF×θ) (λx2=>(bV x2.1 (be x2.2.1.b) (bX (bh (ah x2.g+ah ([aa])) 1) (c7 ((cL x2.1),x2.2.1,x2.a,x2.b,x2.c,(x2.g++([aa]))))) (av (iter (σ:=Int×lN×n!) (λx3=>(bV x3.1 (be x3.2.1.c) (jn (α:=lN×Int×Int×dQ×B!) (bq x3.1 0 (aI (x3.2.1,x3.a,x3.b,(1,0,aa),x3.e)) (aI (x3.2.1,x3.a,x3.b,(0,0,aa),x3.e))) λx4=>(bX (bh (ah x4.i+ah ([x4.b])) 24) (c7 ((cL x3.1),x4.1,x4.2.1,x4.a,x4.c,x4.f,(x4.i++([x4.b])))))) (aI (x3.c,x3.b,x3.g)))) (0,x2.2.1,x2.a,x2.b,x2.c,x2.g,([]:Y dQ))) λr=>Z (bU r)))) (0,x1.2.1,x1.a,x1.b,x1.e,([]:θ))) λr=>Z (bU r)))) (0,x,0,(-1),([]:Y g?)))
def oS (x:lN×o?):M (Bool):=
 (iter (σ:=Int×lN×o?) (λx1=>(bV x1.1 (be x1.2.1.a) (jn (bI itK x1.2.1.a x1.1 λA=>(bV A.2 0 (aI (J,x1.2)) (bI itK x1.2.1.a x1.1 λq=>(aI ((c8 (be x1.2.1.2.1) q.2),x1.2))))) λx2=>(aJ x2.1 (aI aa) (c7 ((cL x1.1),x2.2)))) (av (jn (bq (be x1.a) (be x1.2.1.2.1) (bq (be x1.c) (be x1.2.1.b) (aI (decide (((be x1.g):Int)=(be x1.2.1.c)))) (aI aa)) (aI aa)) λD=>(Z D)) λr=>Z (bU r)))) (0,x))
def rH (x:ν):M (Bool):=
 (jn (jr 0 x.1 (aI (gM x.1 x.2)) (aI aa)) λx1=>(Z x1))
def qK (x:lN×f?):M (Bool):=
 (jn (bq x.2.1 1 (aI ((decide ((x.2.1:Int)=1)),x.1)) (bq x.2.1 2 (aI ((decide ((x.2.1:Int)=2)),x.1)) (bq x.2.1 5 (aI ((decide ((x.2.1:Int)=5)),x.1)) (bq x.2.1 12 (aI ((decide ((x.2.1:Int)=12)),x.1)) (bq x.2.1 13 (aI ((decide ((x.2.1:Int)=13)),x.1)) (bq x.2.1 14 (aI ((decide ((x.2.1:Int)=14)),x.1)) (aI ((decide ((x.2.1:Int)=15)),x.1)))))))) λx1=>(aJ x1.1 (Z (decide ((x.2.2:Int)=(-1)))) (jn (bq x.2.1 3 (aI ((decide ((x.2.1:Int)=3)),x1.2)) (aI ((decide ((x.2.1:Int)=4)),x1.2))) λx2=>(aJ x2.1 (av (rH (x.2.2,(be x2.2.1))) λy3=>(Z y3)) (jn (bq x.2.1 6 (aI ((decide ((x.2.1:Int)=6)),x2.2)) (aI ((decide ((x.2.1:Int)=7)),x2.2))) λx4=>(aJ x4.1 (jn (av (rH (x.2.2,(be x4.a))) λy6=>(aJ y6 (bI sk x4.a x.2.2 λz7=>(aI (!z7.2))) (aI aa))) λx5=>(Z x5)) (jn (bq x.2.1 8 (aI ((decide ((x.2.1:Int)=8)),x4.2)) (bq x.2.1 9 (aI ((decide ((x.2.1:Int)=9)),x4.2)) (bq x.2.1 10 (aI ((decide ((x.2.1:Int)=10)),x4.2)) (aI ((decide ((x.2.1:Int)=11)),x4.2))))) λD=>(aJ D.1 (jn (av (rH (x.2.2,(be D.a))) λy10=>(aJ y10 (bI sk D.a x.2.2 λN=>(aI N.2)) (aI aa))) λx9=>(Z x9)) (jn (bq x.2.1 16 (aI ((decide ((x.2.1:Int)=16)),D.2)) (bq x.2.1 17 (aI ((decide ((x.2.1:Int)=17)),D.2)) (bq x.2.1 18 (aI ((decide ((x.2.1:Int)=18)),D.2)) (aI ((decide ((x.2.1:Int)=19)),D.2))))) λA=>(aJ A.1 (av (rH (x.2.2,(be A.b))) λy13=>(Z y13)) (jn (bq x.2.1 20 (aI ((decide ((x.2.1:Int)=20)),A.2)) (aI ((decide ((x.2.1:Int)=21)),A.2))) λq=>(aJ q.1 (av (rH (x.2.2,(be q.f))) λy15=>(Z y15)) (jn (bq x.2.1 22 (aI ((decide ((x.2.1:Int)=22)),q.2)) (aI ((decide ((x.2.1:Int)=23)),q.2))) λI=>(aJ I.1 (av (rH (x.2.2,(be I.c))) λy17=>(Z y17)) (Z aa)))))))))))))))
abbrev M!:=lN×lE×Int×f?
def ju (x:M!):M (Bool):=
 (jn (av (oS (x.1,x.2.1)) λy2=>(aJ (!y2) (aI (J,x.1,x.2.1)) (av (rH (x.a,(be x.1.c))) λy3=>(aJ (!y3) (aI (J,x.1,x.2.1)) (av (qK (x.1,x.d)) λy4=>(aI ((!y4),x.1,x.2.1))))))) λx1=>(aJ x1.1 (Z aa) (bI gU x1.g x.a λD=>(bq x.b 1 (Z (decide ((D.1:Int)=1))) (bq x.b 17 (jn (α:=Bool) (bq D.1 4 (bq D.2.1 x.e (bI itK x1.2.1.a x.e λz7=>(bI dy x1.a z7.2 λz8=>(aI (decide ((z8.1:Int)=(-1)))))) (aI aa)) (aI aa)) λx6=>(Z x6)) (gV D.1 2 (Z aa) (bq x.b 6 (bI dy x1.a x.e λz9=>(Z (decide ((z9.1:Int)=(-1))))) (bq x.b 10 (jn (α:=Bool) (bI dy x1.a x.e λz11=>(bq z11.1 (-1) (bI dy x1.a x.e λz12=>(aI (decide (((be z12.2):Int)=0)))) (aI aa))) λx10=>(Z x10)) (bq x.b 8 (jn (α:=Bool) (bI dy x1.a x.e λz14=>(bq z14.1 (-1) (bI dy x1.a x.e λz15=>(av (lS (z15.2,x.a)) λy16=>(aI (!y16)))) (aI aa))) λx13=>(Z x13)) (jn (bq x.b 7 (aI ((decide ((x.b:Int)=7)),x1.2.1,x1.2.2,D)) (aI ((decide ((x.b:Int)=11)),x1.2.1,x1.2.2,D))) λq=>(aJ q.1 (bI dy q.a.1 x.e λz18=>(Z (decide ((z18.1:Int)=x.a)))) (bq x.b 9 (bI dy q.a.1 x.e λz19=>(av (lS (z19.2,x.a)) λy20=>(Z y20))) (bq x.b 12 (Z (decide ((q.a.2.1:Int)=(-1)))) (bq x.b 13 (Z (decide ((q.a.2.1:Int)=x.a))) (bq x.b 14 (Z (!q.g)) (bq x.b 15 (Z q.g) (jn (bq x.b 16 (aI ((decide ((x.b:Int)=16)),q.2.1,q.a)) (bq x.b 18 (aI ((decide ((x.b:Int)=18)),q.2.1,q.a)) (aI ((decide ((x.b:Int)=19)),q.2.1,q.a)))) λA=>(aJ A.1 (bI itK A.2.1.a x.e λz22=>(bI dy A.a z22.2 λz23=>(Z (decide ((z23.1:Int)=x.a))))) (bq x.b 20 (jn (gV x.e x.a (bI gU A.g x.e λz25=>(aI (decide ((z25.1:Int)=0)))) (aI aa)) λx24=>(Z x24)) (bq x.b 21 (jn (gV x.e x.a (bI gU A.g x.e λz27=>(aI (decide ((z27.1:Int)=5)))) (aI aa)) λx26=>(Z x26)) (bq x.b 22 (bI (.bool) A.c x.e λN=>(Z (!N))) (bq x.b 23 (bI (.bool) A.c x.e λI=>(Z I)) (Z J)))))))))))))))))))))))
def oR (x:lE×Int):M η:=
 (iter (σ:=Int×lE×η) (λx1=>(bV x1.1 (be x1.2.1.d) (jn (α:=lE×η) (jn (bI gU x1.2.1.d x1.1 λA=>(bq A.1 3 (bI gU x1.2.1.d x1.1 λq=>(aI ((decide ((q.2.1:Int)=x.2)),x1.2))) (aI (aa,x1.2)))) λx3=>(aJ x3.1 (bX (bh (ah x3.2.2+ah ([x1.1])) 8) (aI (x3.2.1,(x3.2.2++([x1.1]))))) (aI x3.2))) λx2=>(c7 ((cL x1.1),x2))) (aI x1.2.2))) (0,x.1,([]:η)))
def rG (x:q!):M η:=
 (iter (σ:=g?) (λx1=>(bV x1.1 (be x.1) (jn (α:=η) (bI aP x.1 x1.1 λA=>(gV A x.2 (bI aP x.1 x1.1 λq=>(bX (bh (ah x1.2+ah ([q])) 8) (aI (x1.2++([q]))))) (aI x1.2))) λx2=>(c7 ((cL x1.1),x2))) (aI x1.2))) (0,([]:η)))
def iV (x:o?):M (Int×B!):=
 (bX (bh (ah ([]:θ)+ah x.a) 1) (bX (bh (ah ([]:Y dQ)+ah x.d) 24) (iter (σ:=Int×lE×n!) (λx1=>(bV x1.1 (be x1.2.1.1) (bI dy x1.2.1.1 x1.1 λA=>(bI dy x1.2.1.1 x1.1 λq=>(bX (bh (ah ([]:η)+ah q.2) 8) (bX (bh (ah x1.c+ah ([(A.1,(([]:η)++q.2))])) 32) (c7 ((cL x1.1),x1.2.1,x1.a,x1.b,(x1.c++([(A.1,(([]:η)++q.2))])),x1.g)))))) (aI x1.d))) (0,x,0,x.2.1,([]:Y g?),(([]:θ)++x.a),(([]:Y dQ)++x.d)))))
def m6 (x:ν×B!):M (η×B!):=
 (iter (σ:=Int×jF×(θ)×(Y dQ)×g?) (λx1=>(bV x1.1 (be x1.b) (jn (α:=jF×(θ)×(Y dQ)×g?) (jn (mn gU x1.b x1.1 λA=>(bq A.1 3 (mn gU x1.b x1.1 λq=>(aI ((decide ((q.2.1:Int)=x.1.2)),x1.2))) (aI (aa,x1.2)))) λx3=>(aJ x3.1 (bX (bh (ah x3.g+ah ([x1.1])) 8) (aI (x3.2.1,x3.a,x3.b,x3.c,(x3.g++([x1.1]))))) (aI x3.2))) λx2=>(c7 ((cL x1.1),x2))) (aI (x1.g,x1.2.1,x1.a,x1.b)))) (0,x.2.1,x.a,x.d,x.1.1,([]:η)))
def lR (x:ν×B!):M η:=av (m6 x) λy=>same y.2 x.2 (Z y.1)
abbrev P!:=lN×lE×t?
abbrev T?:=Int×n!
def qL (x:P!):M (lE×c?):=
 (av (ju (x.1,x.2.1,x.a,x.b,x.c)) λy1=>(aJ (!y1) (Z ((([]:Y g?),0,([]:θ),([]:Y dQ)),0,aa)) (av (iV x.2.1) λI=>(jn (α:=T?) (bq x.b 1 (ck (ij x.a (ah I.d)) (aI (0,I.1,0,I.2.1,I.a,(ca I.d x.a (2,(aw gU I.d x.a).2))))) (bq x.b 2 (ck (ij x.a (ah I.d)) (aI (0,I.1,0,I.2.1,I.a,(ca I.d x.a (5,(aw gU I.d x.a).2))))) (jn (α:=Bool×lN×n!) (bq x.b 6 (aI ((decide ((x.b:Int)=6)),x.1,I.1,0,I.2)) (aI ((decide ((x.b:Int)=10)),x.1,I.1,0,I.2))) λx4=>(aJ x4.1 (ck (ij x.c (ah x4.c)) (aI (0,x4.a,x4.b,(ca x4.c x.c (x.a,(aw dy x4.c x.c).2)),x4.g))) (jn (bq x.b 7 (aI ((decide ((x.b:Int)=7)),x4.2)) (aI ((decide ((x.b:Int)=11)),x4.2))) λq=>(aJ q.1 (ck (ij x.c (ah q.c)) (aI (0,q.a,q.b,(ca q.c x.c ((-1),(aw dy q.c x.c).2)),q.g))) (bq x.b 8 (mn dy q.c x.c λz6=>(av (vJ (z6.2,[x.a])) λy7=>(ck (ij x.c (ah q.c)) (aI (0,q.a,q.b,(ca q.c x.c ((aw dy q.c x.c).1,y7)),q.g))))) (bq x.b 9 (mn dy q.c x.c λz8=>(av (rG (z8.2,x.a)) λy9=>(ck (ij x.c (ah q.c)) (aI (0,q.a,q.b,(ca q.c x.c ((aw dy q.c x.c).1,y9)),q.g))))) (bq x.b 12 (aI (0,x.a,q.d)) (bq x.b 13 (aI (0,(-1),q.d)) (bq x.b 14 (ck (ij x.a (ah q.i)) (aI (0,q.a,q.b,q.c,q.f,(ca q.i x.a ((aw gU q.i x.a).1,((aw gU q.i x.a).2).1,J))))) (bq x.b 15 (ck (ij x.a (ah q.i)) (aI (0,q.a,q.b,q.c,q.f,(ca q.i x.a ((aw gU q.i x.a).1,((aw gU q.i x.a).2).1,aa))))) (bq x.b 16 (bI itK q.2.1.a x.c λz10=>(ck (ij z10.2 (ah q.c)) (ck (ij x.a (ah q.i)) (ck (ij x.a (ah (ca q.i x.a (3,(aw gU q.i x.a).2)))) (aI (0,q.a,q.b,(ca q.c z10.2 ((-1),(aw dy q.c z10.2).2)),q.f,(ca (ca q.i x.a (3,(aw gU q.i x.a).2)) x.a ((aw gU (ca q.i x.a (3,(aw gU q.i x.a).2)) x.a).1,x.c,((aw gU (ca q.i x.a (3,(aw gU q.i x.a).2)) x.a).2).2)))))))) (bq x.b 17 (bI itK q.2.1.a x.c λz11=>(ck (ij z11.2 (ah q.c)) (ck (ij x.a (ah q.i)) (ck (ij x.a (ah (ca q.i x.a (2,(aw gU q.i x.a).2)))) (aI (0,q.a,q.b,(ca q.c z11.2 (x.a,(aw dy q.c z11.2).2)),q.f,(ca (ca q.i x.a (2,(aw gU q.i x.a).2)) x.a ((aw gU (ca q.i x.a (2,(aw gU q.i x.a).2)) x.a).1,0,((aw gU (ca q.i x.a (2,(aw gU q.i x.a).2)) x.a).2).2)))))))) (bq x.b 18 (av (lR ((q.a,x.c),q.e)) λy12=>(bV 0 (be y12) (bI aP y12 0 λz13=>(jn (av (lS (y12,x.g)) λy15=>(aJ y15 (aI (x.g,q.2.2)) (aI (z13,q.2.2)))) λD=>(ck (ij D.1 (ah D.g)) (aI (D.1,D.2.1,D.a,D.b,D.c,(ca D.g D.1 (4,(aw gU D.g D.1).2))))))) (aI ((-1),q.2.2)))) (bq x.b 19 (av (lR ((q.a,x.c),q.e)) λy16=>(iter (σ:=T?) (λA=>(bV A.1 (be y16) (bI aP y16 A.1 λN=>(ck (ij N (ah A.g)) (c7 ((cL A.1),A.2.1,A.a,A.b,A.c,(ca A.g N (4,(aw gU A.g N).2)))))) (aI (bU ((be y16),A.2))))) (0,q.2.2))) (bq x.b 20 (ck (ij x.c (ah q.i)) (aI (0,q.a,q.b,q.c,q.f,(ca q.i x.c (1,(aw gU q.i x.c).2))))) (bq x.b 22 (ck (ij x.c (ah q.f)) (aI (0,q.a,q.b,q.c,(ca q.f x.c J),q.i))) (aI (0,q.2.2)))))))))))))))))))) λx3=>(Z ((x3.b,x3.2.1,x3.e),x3.1,J))))))
def vH (x:w!):M Am:=
 (av (kF x) λy1=>(aJ (!y1) (Z ((([]:Y g?),0,([]:θ),([]:Y dQ)),([]:η),([]:η),([]:Y xE))) (av (vI x.1) λy2=>(iter (σ:=Int×E4×Int×lE×η) (λx3=>(bV x3.1 (be x3.2.1.1.1) (bI mb x3.2.1.1.1 x3.1 λN=>(bX (bh (ah x3.e+ah ([N.2.2.2.2])) 8) (c7 ((cL x3.1),x3.2.1,x3.a,x3.b,(x3.e++([N.2.2.2.2])))))) (av (iter (σ:=Int×E4×Int×lE×(η)×η) (λA=>(bV A.1 (be A.2.1.1.b) (bX (bh (ah A.g+ah ([0])) 8) (c7 ((cL A.1),A.2.1,A.a,A.b,A.c,(A.g++([0]))))) (av (iter (σ:=Int×E4×Int×e!) (λq=>(bV q.1 (be q.2.1.2) (AY q.1 q.2.1.2 (lt ((aw yP q.2.1.2 q.1).1) λI=>(bX (c8 0 I&&c8 I I&&bh (aN I) 8) (AY q.1 q.2.1.2 (lt ((aw yP q.2.1.2 q.1).1) λD=>(bX (c8 0 D&&c8 D D&&bh (aN D) 24) (bX (bh (ah q.i+ah ([(0,(aD (aN I) (0:Int)),(aD (aN D) ([]:η)),0)])) 64) (c7 ((cL q.1),q.2.1,q.a,q.b,q.c,q.f,(q.i++([(0,(aD (aN I) (0:Int)),(aD (aN D) ([]:η)),0)]))))))))))) (aI q.d))) (0,A.2.1,A.a,A.b,A.c,A.g,([]:Y xE))) λr=>Z (bU r)))) (0,x3.2.1,x3.a,x3.b,x3.e,([]:η))) λr=>Z (bU r)))) (0,x,0,y2,([]:η))))))
def xU (x:E4×e!):M (Bool):=
 (jn (av (kF x.1) λy2=>(aJ (!y2) (aI (J,x)) (av (oS (x.1.1,x.2.1)) λy3=>(aJ (!y3) (aI (J,x)) (gV (be x.a) (be x.1.1.1) (aI (J,x)) (gV (be x.b) (be x.1.1.b) (aI (J,x)) (aI ((!decide (((be x.e):Int)=(be x.1.2))),x)))))))) λx1=>(aJ x1.1 (Z aa) (iter (σ:=Int×E4×e!) (λx4=>(bV x4.1 (be x4.2.1.2) (bI fg x4.g x4.1 λq=>(jn (bV q.1 0 (aI (J,x4.2)) (bI yP x4.2.1.2 x4.1 λN=>(jr (be N.2) q.1 (aI (J,x4.2)) (bI yP x4.2.1.2 x4.1 λI=>(gV (be q.2.1) I.1 (aI (J,x4.2)) (bI yP x4.2.1.2 x4.1 λD=>(aI ((!decide (((be q.a):Int)=D.1)),x4.2)))))))) λA=>(aJ A.1 (aI aa) (c7 ((cL x4.1),A.2))))) (aI J))) (0,x1.2))))
def CQ (x:Int):M (Int):=
 (jn (α:=Bool×η) (bV x 6 (aI (J,[3,3,4,4,5,6,7,8,9,10,11,12,13,14,15,16,18,19,20,21,22,23,2])) (aI ((gM 28 x),[3,3,4,4,5,6,7,8,9,10,11,12,13,14,15,16,18,19,20,21,22,23,2]))) λx1=>(aJ x1.1 (Z 0) (mn aP x1.2 (aT .i64 (x-6)) λq=>(Z q))))
def wN (x:l9×h?):M (Int):=
 (jn (bq x.1.1 6 (aI ((decide ((x.1.1:Int)=6)),x)) (aI ((decide ((x.1.1:Int)=27)),x))) λx1=>(aJ x1.1 (Z x1.2.1.a) (bq x.1.1 7 (bI aP x1.b x1.2.1.b λD=>(av (vN (D,x1.2.1.c)) λN=>(Z (aT .i64 (x1.2.1.a+N))))) (bq x.1.1 9 (bI aP x1.b x1.2.1.b λA=>(av (vN (A,x1.2.1.c)) λI=>(Z (aT .i64 (x1.2.1.2.1+I))))) (jn (bq x.1.1 10 (aI ((decide ((x.1.1:Int)=10)),x1.2.1)) (bq x.1.1 17 (aI ((decide ((x.1.1:Int)=17)),x1.2.1)) (bq x.1.1 18 (aI ((decide ((x.1.1:Int)=18)),x1.2.1)) (bq x.1.1 19 (aI ((decide ((x.1.1:Int)=19)),x1.2.1)) (bq x.1.1 20 (aI ((decide ((x.1.1:Int)=20)),x1.2.1)) (aI ((decide ((x.1.1:Int)=28)),x1.2.1))))))) λq=>(aJ q.1 (Z (-1)) (Z q.a)))))))
def oP (x:E4×Am×Int):M (tJ×Bool):=
 (jn (α:=Bool×E4×Am×Int×t?) (av (xU (x.1,x.2.1)) λy2=>(aJ (!y2) (aI (J,x.1,x.2.1,0,0,0,0,0)) (bV x.2.2 0 (aI (J,x.1,x.2.1,0,0,0,0,0)) (aI ((c8 (be x.1.2) x.2.2),x.1,x.2.1,0,0,0,0,0))))) λx1=>(aJ x1.1 (Z ((0,0,0,0,0,([]:η),([]:η)),aa)) (bI fg x1.a.d x.2.2 λz3=>(bI yP x1.2.1.2 x.2.2 λz4=>(bI sx z4.2 z3.1 λD=>(bI gU x1.a.1.d x.2.2 λz6=>(bq z6.1 1 (Z ((x.2.2,1,(-1),0,(-1),([]:η),([]:η)),J)) (bq z6.1 4 (bI gU x1.a.1.d x.2.2 λz7=>(Z ((x.2.2,17,z7.2.1,0,D.g,([]:η),([]:η)),J))) (bq z6.1 2 (av (CQ D.1) λy8=>(av (wN (D,z3)) λy9=>(bq y8 0 (Z ((0,0,0,0,0,([]:η),([]:η)),aa)) (jn (α:=Ob×xE×l9×Ob×η) (bq D.1 10 (bI (.sl aP) z3.a D.2.1 λz11=>(bX (bh (ah (z11:η)) 8) (aI (x1.d,z3,D,(x.2.2,y8,y9,0,D.g),z11)))) (jn (α:=Bool×Ob×xE×l9×Int×t?) (bq D.1 7 (aI ((decide ((D.1:Int)=7)),x1.d,z3,D,x.2.2,y8,y9,0,D.g)) (aI ((decide ((D.1:Int)=9)),x1.d,z3,D,x.2.2,y8,y9,0,D.g))) λq=>(aJ q.1 (bI (.sl aP) q.a.a q.b.b λz13=>(bX (bh (ah (z13:η)) 8) (aI (q.2.1,q.a,q.b,q.e,z13)))) (aI (q.2.1,q.a,q.b,q.e,([]:η)))))) λN=>(jn (α:=Ob×Ob×(η)×η) (jn (bq N.a.1 8 (aI (J,N)) (bq N.a.1 9 (aI (J,N)) (aI ((decide ((N.a.1:Int)=26)),N)))) λA=>(aJ A.1 (bI (.sl aP) A.a.a A.b.a λz16=>(bX (bh (ah (z16:η)) 8) (aI (A.2.1,A.c,A.g,z16)))) (aI (A.2.1,A.c,A.g,([]:η))))) λI=>(Z ((I.2.1.1,I.2.1.2.1,I.2.1.a,I.2.1.b,I.2.1.e,I.2.2),J))))))) (Z ((0,0,0,0,0,([]:η),([]:η)),aa)))))))))))
def vo (x:lN×N?):M (Bool):=
 (jn (av (oS (x.1,x.2.1)) λq=>(aJ q (bq (be x.a) (be x.1.1) (bq (be x.b) (be x.1.b) (aI (decide (((be x.e):Int)=(be x.1.c)))) (aI aa)) (aI aa)) (aI aa))) λx1=>(Z x1))
def FC (x:ν):M (Bool):=
 (jn (jr 0 x.1 (aI (gM x.1 x.2)) (aI aa)) λx1=>(Z x1))
def oO (x:q!):M (Bool):=
 (iter (σ:=Int) (λx1=>(bV x1 (be x.1) (jn (bI aP x.1 x1 λI=>(bV I 1 (aI J) (bI aP x.1 x1 λD=>(jr x.2 D (aI J) (bV 0 x1 (bI aP x.1 x1 λA=>(bI aP x.1 (aT .i64 (x1-1)) λq=>(aI (c8 A q)))) (aI aa)))))) λx2=>(aJ x2 (aI aa) (c7 (cL x1)))) (aI J))) 0)
abbrev G!:=mF×b!
def vG (x:G!):M (Bool):=
 (bq x.a 3 (bI aP x.1.2.1 x.b λD=>(Z (decide ((x.c:Int)=D)))) (bq x.a 23 (bI aP x.1.a x.b λA=>(Z (decide ((x.c:Int)=A)))) (bq x.a 5 (jn (bq x.c 0 (aI J) (aI (decide ((x.c:Int)=1)))) λx3=>(Z x3)) (jn (bq x.a 4 (aI ((decide ((x.a:Int)=4)),x)) (aI ((decide ((x.a:Int)=22)),x))) λx4=>(aJ x4.1 (Z J) (bq x.a 18 (av (oR (x4.2.1.1,x4.c)) λq=>(bq (be q) 0 (Z (decide ((x4.f:Int)=(-1)))) (jn (jr 0 x4.f (bV x4.f (be x4.2.1.1.d) (av (lS (q,x4.f)) λN=>(aI N)) (aI aa)) (aI aa)) λx6=>(Z x6)))) (bq x.a 19 (av (oR (x4.2.1.1,x4.c)) λI=>(Z (decide ((x4.f:Int)=(be I))))) (Z (decide ((x4.f:Int)=0))))))))))
abbrev E?:=lN×mF×tJ×Int
def qZ (x:lN×G!):M (mF×Bool):=
 (jn (α:=Bool×E?) (av (vo (x.1,x.2.1)) λy2=>(aJ (!y2) (aI (J,x.1,x.2.1,x.2.2,0)) (av (FC (x.a,(be x.1.c))) λy3=>(aJ (!y3) (aI (J,x.1,x.2.1,x.2.2,0)) (bV x.b 1 (aI (J,x.1,x.2.1,x.2.2,0)) (bV 23 x.b (aI (J,x.1,x.2.1,x.2.2,0)) (av (ju (x.1,x.2.1.1,x.a,x.b,x.c)) λy4=>(aI ((!y4),x.1,x.2.1,x.2.2,0))))))))) λx1=>(aJ x1.1 (Z (((([]:Y g?),0,([]:θ),([]:Y dQ)),([]:η),([]:η),([]:η)),aa)) (jn (α:=E?) (jn (bq x1.b.2.1 1 (aI (J,x1.2)) (aI ((decide ((x1.b.2.1:Int)=2)),x1.2))) λx6=>(aJ x6.1 (gV x6.b.c (-1) (c7 (((([]:Y g?),0,([]:θ),([]:Y dQ)),([]:η),([]:η),([]:η)),aa)) (aI x6.2)) (jn (av (FC (x6.b.c,(be x6.2.1.g))) λy8=>(aJ (!y8) (aI (J,x6.2)) (bI pS x6.2.1.g x6.b.c λz9=>(aI ((!decide ((z9.1:Int)=x6.b.1)),x6.2))))) λx7=>(aJ x7.1 (c7 (((([]:Y g?),0,([]:θ),([]:Y dQ)),([]:η),([]:η),([]:η)),aa)) (aI x7.2))))) λx5=>(jn (bq x5.a.2.1 3 (aI (J,x5)) (aI ((decide ((x5.a.2.1:Int)=4)),x5))) λx10=>(jn (bV 0 (be x10.b.f) (gV x10.b.2.1 5 (aJ x10.1 (bI mb x10.2.1.1 x10.b.a λz12=>(aI ((!(!decide ((z12.2.2.1:Int)=0))),x10.2))) (aI (J,x10.2))) (aI (aa,x10.2))) (aI (aa,x10.2))) λx11=>(aJ x11.1 (Z (((([]:Y g?),0,([]:θ),([]:Y dQ)),([]:η),([]:η),([]:η)),aa)) (jn (bV 0 (be x11.b.i) (gV x11.b.2.1 4 (aI ((!decide ((x11.b.2.1:Int)=22)),x11.2)) (aI (aa,x11.2))) (aI (aa,x11.2))) λI=>(aJ I.1 (Z (((([]:Y g?),0,([]:θ),([]:Y dQ)),([]:η),([]:η),([]:η)),aa)) (jn (bI aP I.a.d I.b.1 λz15=>(av (oO (I.b.f,z15)) λy16=>(aJ (!y16) (aI (J,I.2)) (bI aP I.a.d I.b.1 λz17=>(av (oO (I.b.i,z17)) λy18=>(aJ (!y18) (aI (J,I.2)) (av (vG (I.a,I.b)) λy19=>(aI ((!y19),I.2))))))))) λq=>(aJ q.1 (Z (((([]:Y g?),0,([]:θ),([]:Y dQ)),([]:η),([]:η),([]:η)),aa)) (bX (bh (ah ([]:η)+ah q.a.2.1) 8) (bX (bh (ah ([]:η)+ah q.a.a) 8) (bX (bh (ah ([]:η)+ah q.a.d) 8) (jn (α:=Int×lN×mF×tJ×Int×Int×l?) (bq q.b.2.1 18 (aI (q.b.b,q.2.1,q.a,q.b,q.e,0,(([]:η)++q.a.2.1),(([]:η)++q.a.a),(([]:η)++q.a.d))) (aI ((-1),q.2.1,q.a,q.b,q.e,0,(([]:η)++q.a.2.1),(([]:η)++q.a.a),(([]:η)++q.a.d)))) λA=>(av (qL (A.2.1,A.a.1,A.b.1,A.b.2.1,A.b.a,A.1)) λy21=>(jn (bq A.b.2.1 4 (ck (ij A.b.a (ah A.h)) (aI (A.b,A.c,y21.1,(ca A.h A.b.a A.b.b),A.j))) (aI (A.b,A.c,y21.1,A.i))) λD=>(jn (bq D.1.2.1 22 (ck (ij D.1.a (ah D.c)) (aI (D.1,D.2.1,D.a,D.b,(ca D.c D.1.a D.1.b),D.g))) (aI D)) λN=>(mn aP N.g N.1.1 λz24=>(ck (ij N.1.1 (ah N.g)) (Z ((N.a,N.b,N.c,(ca N.g N.1.1 (cL z24))),J)))))))))))))))))))))
def KG {W V:Type} (i:Int) (t1:R->(η)->(Y η)->W) (t2:W->V) (t3:V->xE->Y xE) (x6:Int) (q:E4×lE×(ν)×Int×Ob×tJ×(ν)×(η)×(η)×R×(η)×Y η):M G':=
 (jn (jn (gV q.f.2.1 16 (aI ((!decide ((q.f.2.1:Int)=2)),q.1,q.2.1,q.a,q.b,q.c,q.f,(x6,q.n,q.r,(cL q.h.2)),q.k,q.p8,(t1 q.m q.n q.r))) (aI (aa,q.1,q.2.1,q.a,q.b,q.c,q.f,(x6,q.n,q.r,(cL q.h.2)),q.k,q.p8,(t1 q.m q.n q.r)))) λA=>(aJ A.1 (bI yP A.2.1.2 A.b.1 λI=>(av (ol (I,A.k)) λN=>(aI (A.a,A.b,A.c,A.f,A.h,N.1,A.p8,A.m,(t2 A.s))))) (aI (A.a,A.b,A.c,A.f,A.h,A.k,A.p8,A.m,(t2 A.s))))) λD=>(bq D.2.1.1 i (Z ((D.1,D.h,D.k,(t3 D.l D.f)),D.c,J)) U))
abbrev q?:=E4×Am×f?
def SG (i:Int) (cp:e!->M (Int×jF×(θ)×(Y dQ)×(η)×(η)×R×(η)×Y η)) (N ev:R->Int) (k:Int->(E4×lE×(ν)×Int×Ob×tJ×(ν)×(η)×(η)×R×(η)×Y η)->M G') (x:q?):M G':=
 (av (oP (x.1,x.2.1,x.a)) λD=>(aJ (!D.2) (Z (((([]:Y g?),0,([]:θ),([]:Y dQ)),([]:η),([]:η),([]:Y xE)),(0,0,0,0,0,([]:η),([]:η)),aa)) (av (qL (x.1.1,x.2.1.1,x.a,D.1.2.1,D.1.a,x.d)) λy2=>(aJ (!y2.2.2) (Z (((([]:Y g?),0,([]:θ),([]:Y dQ)),([]:η),([]:η),([]:Y xE)),(0,0,0,0,0,([]:η),([]:η)),aa)) (av (cp x.2.1) λI=>(bq x.a i (bI yP x.1.2 i λz4=>(bI sx z4.2 (N I.h) λz5=>(jn (α:=Int×E4×lE×(ν)×Int×Ob×tJ×(ν)×l9×(η)×(η)×R×(η)×Y η) (jn (α:=Bool×E4×lE×(ν)×Int×Ob×tJ×(ν)×l9×(η)×(η)×R×(η)×Y η) (bq D.1.2.1 1 (aI ((decide ((D.1.2.1:Int)=1)),x.1,y2.1,(i,x.d),0,(0,0,0,0,0),(D.1.1,D.1.2.1,D.1.a,y2.2.1,D.1.e),((N I.h),(ev I.h)),z5,I.e)) (bq D.1.2.1 16 (aI ((decide ((D.1.2.1:Int)=16)),x.1,y2.1,(i,x.d),0,(0,0,0,0,0),(D.1.1,D.1.2.1,D.1.a,y2.2.1,D.1.e),((N I.h),(ev I.h)),z5,I.e)) (aI ((decide ((D.1.2.1:Int)=2)),x.1,y2.1,(i,x.d),0,(0,0,0,0,0),(D.1.1,D.1.2.1,D.1.a,y2.2.1,D.1.e),((N I.h),(ev I.h)),z5,I.e)))) λq=>(aJ q.1 (aI (q.k.1,q.2)) (bq D.1.2.1 3 (mn aP q.m q.h.a λz8=>(aI ((aT .i64 ((N I.h)+1)),q.2.1,q.a,q.b,q.c,q.f,(q.h.1,q.h.2.1,q.h.a,z8,q.h.e),q.j))) (bq D.1.2.1 23 (mn aP q.n q.h.a λz9=>(aI ((aT .i64 ((N I.h)+1)),q.2.1,q.a,q.b,q.c,q.f,(q.h.1,q.h.2.1,q.h.a,z9,q.h.e),q.j))) (bq D.1.2.1 4 (mn aP q.p q.p8.a λz10=>(ck (ij q.h.a (ah q.m)) (aI ((aT .i64 ((N I.h)+1)),q.2.1,q.a,q.b,q.c,q.f,(q.h.1,q.h.2.1,q.h.a,z10,q.h.e),q.k,q.p8,(ca q.m q.h.a z10),q.s)))) (bq D.1.2.1 22 (mn aP q.p q.p8.a λz11=>(ck (ij q.h.a (ah q.n)) (aI ((aT .i64 ((N I.h)+1)),q.2.1,q.a,q.b,q.c,q.f,(q.h.1,q.h.2.1,q.h.a,z11,q.h.e),q.k,q.p8,q.m,(ca q.n q.h.a z11),q.r)))) (bq D.1.2.1 5 (mn aP q.p q.p8.2.1 λz12=>(bq z12 0 (aI (q.p8.a,q.2.1,q.a,q.b,q.c,q.f,(q.h.1,q.h.2.1,q.h.a,0,q.h.e),q.j)) (aI ((aT .i64 ((N I.h)+1)),q.2.1,q.a,q.b,q.c,q.f,(q.h.1,q.h.2.1,q.h.a,1,q.h.e),q.j)))) (aI ((aT .i64 ((N I.h)+1)),q.2))))))))) λx6=>(jn (α:=E4×lE×(ν)×Int×Ob×tJ×(ν)×(η)×(η)×R×(η)×Y η) (jn (bq x6.h.2.1 3 (aI (J,x6.2)) (aI ((decide ((x6.h.2.1:Int)=23)),x6.2))) λA=>(aJ A.1 (ck (ij A.p8.2.1 (ah A.p)) (ck (ij A.p8.2.1 (ah A.u)) (aI (A.2.1,A.a,A.b,A.c,A.f,A.h,A.k,A.m,A.n,A.q,(ca A.p A.p8.2.1 A.h.b),(ca A.u A.p8.2.1 ([A.k.2])))))) (aI (A.2.1,A.a,A.b,A.c,A.f,A.h,A.k,A.o)))) λx13=>(k x6.1 x13))))) U))))))
def t_ (x:e!):M (Int×jF×(θ)×(Y dQ)×(η)×(η)×(ν)×k?):=
 (av (iV x.1) λq=>(bX (bh (ah ([]:η)+ah x.2.1) 8) (bX (bh (ah ([]:η)+ah x.a) 8) (bV 0 (be x.d) (bI fg x.d 0 λD=>(av (cF D) λI=>(bV 1 (be x.d) (bI fg x.d 1 λA=>(av (cF A) λN=>U)) (Z (q.1,q.2.1,q.a,q.d,(([]:η)++x.2.1),(([]:η)++x.a),I))))) U))))
def gZ (x:q?):M G':=
 SG 0 t_ (λz=>z.1) (λz=>z.2) (KG 0 (λz R T=>(z.1,R,T,z.2)) (λw=>((w.1,w.2.1,w.2.2.1,w.2.2.2))) (λv t=>[t])) x
def t8 (x:e!):M (Int×jF×(θ)×(Y dQ)×(η)×(η)×Ya29×k?):=
 (av (iV x.1) λA=>(bX (bh (ah ([]:η)+ah x.2.1) 8) (bX (bh (ah ([]:η)+ah x.a) 8) (bV 0 (be x.d) (bI fg x.d 0 λz2=>(av (cF z2) λD=>(bV 1 (be x.d) (bI fg x.d 1 λN=>(av (cF N) λq=>(bV 2 (be x.d) (bI fg x.d 2 λI=>(av (cF I) λy7=>U)) (Z (A.1,A.2.1,A.a,A.d,(([]:η)++x.2.1),(([]:η)++x.a),(D.1.1,D.1.2,q.1.1,q.2.1,q.2.2,q.1.2),D.2))))) U))) U))))
def iN (x:q?):M G':=
 SG 0 t8 (λz=>z.1) (λz=>z.2.1) (KG 0 (λz R T=>(z.1,R,T,z.2.1,z.2.2)) (λw=>((w.1,w.2.1,w.2.2.1,w.2.2.2.1),w.2.2.2.2)) (λv t=>[t,v.2])) x
def t7 (x:e!):M (Int×jF×(θ)×(Y dQ)×(η)×(η)×(xE×Int×Int)×k?):=
 (av (iV x.1) λA=>(bX (bh (ah ([]:η)+ah x.2.1) 8) (bX (bh (ah ([]:η)+ah x.a) 8) (bV 0 (be x.d) (bI fg x.d 0 λz2=>(av (cF z2) λq=>(bV 1 (be x.d) (bI fg x.d 1 λN=>(av (cF N) λD=>(bV 2 (be x.d) (bI fg x.d 2 λI=>(av (cF I) λy7=>U)) (Z (A.1,A.2.1,A.a,A.d,(([]:η)++x.2.1),(([]:η)++x.a),((q.1.1,q.2.1,q.2.2,q.1.2),D.1),D.2))))) U))) U))))
def gY (x:q?):M G':=
 SG 1 t7 (λz=>z.2.1) (λz=>z.2.2) (KG 1 (λz R T=>(z.1,z.2.1,R,T,z.2.2)) (λw=>(w.1,(w.2.1,w.2.2.1,w.2.2.2.1,w.2.2.2.2))) (λv t=>[v.1,t])) x
def tZ (x:e!):M (Int×jF×(θ)×(Y dQ)×(η)×(η)×Ya27×k?):=
 (av (iV x.1) λD=>(bX (bh (ah ([]:η)+ah x.2.1) 8) (bX (bh (ah ([]:η)+ah x.a) 8) (bV 0 (be x.d) (bI fg x.d 0 λz2=>(av (cF z2) λI=>(bV 1 (be x.d) (bI fg x.d 1 λz4=>(av (cF z4) λA=>(bV 2 (be x.d) (bI fg x.d 2 λz6=>(av (cF z6) λq=>(bV 3 (be x.d) (bI fg x.d 3 λN=>(av (cF N) λy9=>U)) (Z (D.1,D.2.1,D.a,D.d,(([]:η)++x.2.1),(([]:η)++x.a),(I.1.1,I.1.2,(A.1.1,A.2.1,A.2.2,A.1.2),q.1.1,q.2.1,q.2.2,q.1.2),I.2))))) U))) U))) U))))
def lm (x:q?):M G':=
 SG 0 tZ (λz=>z.1) (λz=>z.2.1) (KG 0 (λz R T=>(z.1,R,T,z.2.1,z.a,z.d)) (λw=>((w.1,w.2.1,w.2.2.1,w.2.2.2.1),w.2.2.2.2.1,w.2.2.2.2.2)) (λv t=>[t,v.2.1,v.2.2])) x
def tY (x:e!):M (Int×jF×(θ)×(Y dQ)×(η)×(η)×Ya28×k?):=
 (av (iV x.1) λD=>(bX (bh (ah ([]:η)+ah x.2.1) 8) (bX (bh (ah ([]:η)+ah x.a) 8) (bV 0 (be x.d) (bI fg x.d 0 λz2=>(av (cF z2) λA=>(bV 1 (be x.d) (bI fg x.d 1 λz4=>(av (cF z4) λI=>(bV 2 (be x.d) (bI fg x.d 2 λz6=>(av (cF z6) λq=>(bV 3 (be x.d) (bI fg x.d 3 λN=>(av (cF N) λy9=>U)) (Z (D.1,D.2.1,D.a,D.d,(([]:η)++x.2.1),(([]:η)++x.a),((A.1.1,A.2.1,A.2.2,A.1.2),I.1.1,I.1.2,q.1.1,q.2.1,q.2.2,q.1.2),I.2))))) U))) U))) U))))
def ko (x:q?):M G':=
 SG 1 tY (λz=>z.2.1) (λz=>z.a) (KG 1 (λz R T=>(z.1,z.2.1,R,T,z.a,z.d)) (λw=>(w.1,(w.2.1,w.2.2.1,w.2.2.2.1,w.2.2.2.2.1),w.2.2.2.2.2)) (λv t=>[v.1,t,v.2.2])) x
def tX (x:e!):M (Int×jF×(θ)×(Y dQ)×(η)×(η)×(xE×xE×Int×Int)×k?):=
 (av (iV x.1) λD=>(bX (bh (ah ([]:η)+ah x.2.1) 8) (bX (bh (ah ([]:η)+ah x.a) 8) (bV 0 (be x.d) (bI fg x.d 0 λz2=>(av (cF z2) λA=>(bV 1 (be x.d) (bI fg x.d 1 λz4=>(av (cF z4) λq=>(bV 2 (be x.d) (bI fg x.d 2 λz6=>(av (cF z6) λI=>(bV 3 (be x.d) (bI fg x.d 3 λN=>(av (cF N) λy9=>U)) (Z (D.1,D.2.1,D.a,D.d,(([]:η)++x.2.1),(([]:η)++x.a),((A.1.1,A.2.1,A.2.2,A.1.2),(q.1.1,q.2.1,q.2.2,q.1.2),I.1),I.2))))) U))) U))) U))))
def jI (x:q?):M G':=
 SG 2 tX (λz=>z.a) (λz=>z.d) (KG 2 (λz R T=>(z.1,z.2.1,z.a,R,T,z.d)) (λw=>(w.1,w.2.1,(w.2.2.1,w.2.2.2.1,w.2.2.2.2.1,w.2.2.2.2.2))) (λv t=>[v.1,v.2.1,t])) x
def tW (x:e!):M (Int×jF×(θ)×(Y dQ)×(η)×(η)×Ya23×k?):=
 (av (iV x.1) λI=>(bX (bh (ah ([]:η)+ah x.2.1) 8) (bX (bh (ah ([]:η)+ah x.a) 8) (bV 0 (be x.d) (bI fg x.d 0 λz2=>(av (cF z2) λy3=>(bV 1 (be x.d) (bI fg x.d 1 λz4=>(av (cF z4) λD=>(bV 2 (be x.d) (bI fg x.d 2 λz6=>(av (cF z6) λA=>(bV 3 (be x.d) (bI fg x.d 3 λz8=>(av (cF z8) λq=>(bV 4 (be x.d) (bI fg x.d 4 λN=>(av (cF N) λy11=>U)) (Z (I.1,I.2.1,I.a,I.d,(([]:η)++x.2.1),(([]:η)++x.a),(y3.1.1,y3.1.2,(D.1.1,D.2.1,D.2.2,D.1.2),(A.1.1,A.2.1,A.2.2,A.1.2),q.1.1,q.2.1,q.2.2,q.1.2),y3.2))))) U))) U))) U))) U))))
def re (x:q?):M G':=
 SG 0 tW (λz=>z.1) (λz=>z.2.1) (KG 0 (λz R T=>(z.1,R,T,z.2.1,z.a,z.b,z.e)) (λw=>((w.1,w.2.1,w.2.2.1,w.2.2.2.1),w.2.2.2.2.1,w.2.2.2.2.2.1,w.2.2.2.2.2.2)) (λv t=>[t,v.2.1,v.2.2.1,v.2.2.2])) x
def tV (x:e!):M (Int×jF×(θ)×(Y dQ)×(η)×(η)×Ya24×k?):=
 (av (iV x.1) λI=>(bX (bh (ah ([]:η)+ah x.2.1) 8) (bX (bh (ah ([]:η)+ah x.a) 8) (bV 0 (be x.d) (bI fg x.d 0 λz2=>(av (cF z2) λD=>(bV 1 (be x.d) (bI fg x.d 1 λz4=>(av (cF z4) λy5=>(bV 2 (be x.d) (bI fg x.d 2 λz6=>(av (cF z6) λA=>(bV 3 (be x.d) (bI fg x.d 3 λz8=>(av (cF z8) λq=>(bV 4 (be x.d) (bI fg x.d 4 λN=>(av (cF N) λy11=>U)) (Z (I.1,I.2.1,I.a,I.d,(([]:η)++x.2.1),(([]:η)++x.a),((D.1.1,D.2.1,D.2.2,D.1.2),y5.1.1,y5.1.2,(A.1.1,A.2.1,A.2.2,A.1.2),q.1.1,q.2.1,q.2.2,q.1.2),y5.2))))) U))) U))) U))) U))))
def q_ (x:q?):M G':=
 SG 1 tV (λz=>z.2.1) (λz=>z.a) (KG 1 (λz R T=>(z.1,z.2.1,R,T,z.a,z.b,z.e)) (λw=>(w.1,(w.2.1,w.2.2.1,w.2.2.2.1,w.2.2.2.2.1),w.2.2.2.2.2.1,w.2.2.2.2.2.2)) (λv t=>[v.1,t,v.2.2.1,v.2.2.2])) x
def tU (x:e!):M (Int×jF×(θ)×(Y dQ)×(η)×(η)×Ya25×k?):=
 (av (iV x.1) λI=>(bX (bh (ah ([]:η)+ah x.2.1) 8) (bX (bh (ah ([]:η)+ah x.a) 8) (bV 0 (be x.d) (bI fg x.d 0 λz2=>(av (cF z2) λD=>(bV 1 (be x.d) (bI fg x.d 1 λz4=>(av (cF z4) λA=>(bV 2 (be x.d) (bI fg x.d 2 λz6=>(av (cF z6) λy7=>(bV 3 (be x.d) (bI fg x.d 3 λz8=>(av (cF z8) λq=>(bV 4 (be x.d) (bI fg x.d 4 λN=>(av (cF N) λy11=>U)) (Z (I.1,I.2.1,I.a,I.d,(([]:η)++x.2.1),(([]:η)++x.a),((D.1.1,D.2.1,D.2.2,D.1.2),(A.1.1,A.2.1,A.2.2,A.1.2),y7.1.1,y7.1.2,q.1.1,q.2.1,q.2.2,q.1.2),y7.2))))) U))) U))) U))) U))))
def oh (x:q?):M G':=
 SG 2 tU (λz=>z.a) (λz=>z.b) (KG 2 (λz R T=>(z.1,z.2.1,z.a,R,T,z.b,z.e)) (λw=>(w.1,w.2.1,(w.2.2.1,w.2.2.2.1,w.2.2.2.2.1,w.2.2.2.2.2.1),w.2.2.2.2.2.2)) (λv t=>[v.1,v.2.1,t,v.2.2.2])) x
def tS (x:e!):M (Int×jF×(θ)×(Y dQ)×(η)×(η)×Ya42×k?):=
 (av (iV x.1) λI=>(bX (bh (ah ([]:η)+ah x.2.1) 8) (bX (bh (ah ([]:η)+ah x.a) 8) (bV 0 (be x.d) (bI fg x.d 0 λz2=>(av (cF z2) λD=>(bV 1 (be x.d) (bI fg x.d 1 λz4=>(av (cF z4) λA=>(bV 2 (be x.d) (bI fg x.d 2 λz6=>(av (cF z6) λq=>(bV 3 (be x.d) (bI fg x.d 3 λz8=>(av (cF z8) λy9=>(bV 4 (be x.d) (bI fg x.d 4 λN=>(av (cF N) λy11=>U)) (Z (I.1,I.2.1,I.a,I.d,(([]:η)++x.2.1),(([]:η)++x.a),((D.1.1,D.2.1,D.2.2,D.1.2),(A.1.1,A.2.1,A.2.2,A.1.2),(q.1.1,q.2.1,q.2.2,q.1.2),y9.1),y9.2))))) U))) U))) U))) U))))
def me (x:q?):M G':=
 SG 3 tS (λz=>z.b) (λz=>z.e) (KG 3 (λz R T=>(z.1,z.2.1,z.a,z.b,R,T,z.e)) (λw=>(w.1,w.2.1,w.2.2.1,(w.2.2.2.1,w.2.2.2.2.1,w.2.2.2.2.2.1,w.2.2.2.2.2.2))) (λv t=>[v.1,v.2.1,v.2.2.1,t])) x
def CR (x:q?):M G':=orE (re x) (orE (q_ x) (orE (oh x) (orE (me x) (orE (lm x) (orE (ko x) (orE (jI x) (orE (iN x) (orE (gY x) (gZ x)))))))))
def xT (x:E4×Am×Y ν):M ((Y tJ)×e!):=
 (iter (σ:=Int×(Y tJ)×E4×Am×Int) (λx1=>(jn (bV x1.1 (be x.2.2) (aI ((gM (be x1.2.1) 400),x1.2)) (aI (aa,x1.2))) λx2=>(aJ x2.1 (jn (α:=(Y tJ)×E4×Am×Int) (bI iK x.2.2 x1.1 λA=>(av (CR (x2.a,x2.b,A)) λq=>(aJ q.2.2 (bX (bh (ah x2.2.1+ah ([q.2.1])) 88) (aI ((x2.2.1++([q.2.1])),x2.a,q.1,x2.e))) (aI x2.2)))) λx3=>(c7 ((cL x1.1),x3))) (aI (x2.2.1,x2.b))))) (0,([]:Y tJ),x.1,x.2.1,0))
def By (x:E4×Y ν):M ((lN×Y tJ)×e!):=
 (av (kF x.1) λD=>(aJ (!D) (Z (((([]:Y EM),([]:Y v?),([]:Y jQ),([]:Y ζ),([]:Y ζ),([]:Y π)),([]:Y tJ)),(([]:Y g?),0,([]:θ),([]:Y dQ)),([]:η),([]:η),([]:Y xE))) (av (vH x.1) λA=>(av (xT (x.1,A,x.2)) λq=>(Z ((x.1.1,q.1),q.2))))))
abbrev x!:=Int×(η)×Int
def c_ (x:x!):M x!:=
 (jn (jr (be x.2.1) x.2.2 (aI (J,x.2)) (aI ((gM x.1 1),x.2))) λx1=>(aJ x1.1 (Z (0,x1.2)) (lt (cL x1.2.2) λA=>(bI (.int .u8) x1.2.1 (aT .i64 (A-1)) λq=>(bX (!decide ((x.1:Int)=0)) (Z ((cC (aT .i64 q) x.1),x1.2.1,(cL x1.2.2))))))))
def sX (x:Int):M (Xp):=
 (Z (eJ (1,x,[],([]:Y Xp))))
def qR (x:ζ):M (Xp):=
 (Z (eJ (2,0,x,([]:Y Xp))))
def oY (x:Int×Xp×Xp):M (Xp):=
 (Z (eJ (x.1,0,[],[eJ ((Xp.op x.2.1),(Xp.n x.2.1),(Xp.name x.2.1),(Xp.l x.2.1)),eJ ((Xp.op x.2.2),(Xp.n x.2.2),(Xp.name x.2.2),(Xp.l x.2.2))])))
def kj (x:ζ×Xp):M (Sx):=
 (Z (oZ (1,0,x.1,[],([]:Y Xp),eJ ((Xp.op x.2),(Xp.n x.2),(Xp.name x.2),(Xp.l x.2)),([]:Y Sx),([]:Y Sx))))
def ue (x:Unit):M yM:=
 (Z ([(1,0,[120],0,0,[]),(1,0,[121],0,1,[]),(2,0,[118],0,0,[]),(1,0,[113],2,0,[]),(3,0,[109],0,0,[]),(3,0,[110],0,0,[]),(4,0,[114],0,0,[]),(5,0,[99],0,0,[109]),(6,0,[102],0,0,[])]))
def tu (x:η):M (Y ν):=
 (iter (σ:=Int×Y ν) (λx1=>(bV x1.1 (be x) (bI (.int .u8) x x1.1 λA=>(bI (.int .u8) x x1.1 λq=>(bX (bh (ah x1.2+ah ([((cC (aT .i64 A) 4),(aT .i64 ((cC (aT .i64 (wn (aT .i64 q) 4)) 5)-1)))])) 16) (c7 ((cL x1.1),(x1.2++([((cC (aT .i64 A) 4),(aT .i64 ((cC (aT .i64 (wn (aT .i64 q) 4)) 5)-1)))]))))))) (aI x1.2))) (0,([]:Y ν)))
def pa (rmade_maker_expr:aei->M ang) (x:T!):M ang:=
 (av (c_ (10,x.a)) λN=>(jn (α:=Bool×E5×ru×Xu×(Int×Int×ζ)×Y ζ) (bV N.1 2 (aI (J,x.2.1,N.2,x.d,(0,0,[]),[[97],[98],[120],[121],[118],[120],[121]])) (bq x.1 0 (aI ((c8 7 N.1),x.2.1,N.2,x.d,(0,0,[]),[[97],[98],[120],[121],[118],[120],[121]])) (aI (aa,x.2.1,N.2,x.d,(0,0,[]),[[97],[98],[120],[121],[118],[120],[121]])))) λx2=>(aJ x2.1 (av (c_ (4,x2.a)) λy3=>(av (sX y3.1) λy4=>(Z (eJ ((Xp.op y4),(Xp.n y4),(Xp.name y4),(Xp.l y4)),x2.2.1,y3.2,x2.b)))) (bV N.1 7 (av (c_ ((be x2.g),x2.a)) λy5=>(mn (.str) x2.g y5.1 λz6=>(av (qR z6) λy7=>(Z (eJ ((Xp.op y7),(Xp.n y7),(Xp.name y7),(Xp.l y7)),x2.2.1,y5.2,x2.b))))) (bq N.1 7 (av (rmade_maker_expr (0,x2.2.1,x2.a,x2.b)) λI=>(bX (((x2.b.1==I.b)&&J)&&aB (ah x2.b.2) (ah I.e)&&J) (Z (eJ (3,0,[113],[eJ ((Xp.op I.1),(Xp.n I.1),(Xp.name I.1),(Xp.l I.1))]),I.2)))) (av (c_ ((aY (ah ([6,7,8,11,13,17]))),x2.a)) λy9=>(mn aP ([6,7,8,11,13,17]) y9.1 λz10=>(av (rmade_maker_expr ((aT .i64 (x.1-1)),x2.2.1,y9.2,x2.b)) λq=>(bX (((x2.b.1==q.b)&&J)&&aB (ah x2.b.2) (ah q.e)&&J) (av (rmade_maker_expr ((aT .i64 (x.1-1)),q.2)) λD=>(bX (((q.b==D.b)&&J)&&aB (ah q.e) (ah D.e)&&J) (av (oY (z10,q.1,D.1)) λA=>(Z (eJ ((Xp.op A),(Xp.n A),(Xp.name A),(Xp.l A)),D.2))))))))))))))
def iZ:Nat->aei->M ang
 |0,_=>U
 |n+1,x=>pa (iZ n) x
def Be (n:Nat) (x:T!):iZ (n+1) x=pa (iZ n) x:=rfl
def fG (x:T!):M ang:=iZ fZ x
def e9 (x:ζ×h!):M (Bool×h!):=
 (av (ki (x.e,x.1)) λq=>(Z ((c8 0 q),x.2)))
def nH (rmade_maker_stmts:ani->M aeh) (rmade_maker_stmt:aei->M ajf) (rmade_maker_block:anh->M ajg) (x:ν×h!):M aeh:=
 (iter (σ:=Int×E5×ru×(Y Sx)×Bool×Y ζ) (λx1=>(jn (bV x1.1 x.1.2 (bq x1.1 0 (aI (J,x1.2)) (aI ((gM 0 x1.2.1.2.1),x1.2))) (aI (aa,x1.2))) λx2=>(aJ x2.1 (av (rmade_maker_stmt (x.1.1,x2.2.1,x2.a,x2.e)) λq=>(bX (((x2.c==x2.c)&&J)&&aB (ah x2.g) (ah x2.g)&&J) (bX (bh (ah x2.b+ah ([eL q.1])) 176) (c7 ((cL x1.1),q.2.1,q.a,(x2.b++([eL q.1])),q.d))))) (aI (x2.2.1,x2.a,x2.e,x2.b))))) (0,x.2.1,x.a,([]:Y Sx),x.d))
abbrev k!:=Bool×E5×ru×ZF×Bool×Y ζ
def o_ (rmade_maker_stmts:ani->M aeh) (rmade_maker_stmt:aei->M ajf) (rmade_maker_block:anh->M ajg) (x:T!):M ajf:=
 (av (c_ (18,x.a)) λy1=>(jn (α:=k!) (bV 0 x.1 (lt (aT .i64 (x.2.1.2.1-1)) λz3=>(bV 0 z3 (aI ((!x.2.1.b),(x.2.1.1,(aT .i64 (x.2.1.2.1-1)),x.2.1.2.2),y1.2,(0,0,[],[],0,0,[]),x.d)) (aI (aa,(x.2.1.1,(aT .i64 (x.2.1.2.1-1)),x.2.1.2.2),y1.2,(0,0,[],[],0,0,[]),x.d)))) (aI (aa,(x.2.1.1,(aT .i64 (x.2.1.2.1-1)),x.2.1.2.2),y1.2,(0,0,[],[],0,0,[]),x.d))) λx2=>(bV y1.1 4 (mn (.str) ([[120],[121],[120],[118]]) y1.1 λz4=>(av (fG (1,x2.2.1,x2.a,x2.e)) λy5=>(bX (((x2.c==y5.b)&&J)&&aB (ah x2.g) (ah y5.e)&&J) (av (kj (z4,y5.1)) λy6=>(Z (eL y6,y5.2)))))) (bq y1.1 4 (av (c_ (2,x2.a)) λy7=>(mn (.str) ([[97],[98]]) y7.1 λz8=>(av (fG (1,x2.2.1,y7.2,x2.e)) λy9=>(bX (((x2.c==y9.b)&&J)&&aB (ah x2.g) (ah y9.e)&&J) (av (kj (z8,y9.1)) λy10=>(Z (eL y10,y9.2))))))) (bq y1.1 5 (av (fG (0,x2.2.1,x2.a,x2.e)) λy11=>(bX (((x2.c==y11.b)&&J)&&aB (ah x2.g) (ah y11.e)&&J) (av (fG (1,y11.2)) λy12=>(bX (((y11.b==y12.b)&&J)&&aB (ah y11.e) (ah y12.e)&&J) (Z (oZ (1,0,[113],[],[eJ ((Xp.op y11.1),(Xp.n y11.1),(Xp.name y11.1),(Xp.l y11.1))],eJ ((Xp.op y12.1),(Xp.n y12.1),(Xp.name y12.1),(Xp.l y12.1)),([]:Y Sx),([]:Y Sx)),y12.2)))))) (jn (bq y1.1 6 (aI ((gM 0 x.1),x2.2)) (aI (aa,x2.2))) λx13=>(aJ x13.1 (av (fG (1,x13.2.1,x13.a,x13.e)) λI=>(bX (((x13.c==I.b)&&J)&&aB (ah x13.g) (ah I.e)&&J) (av (rmade_maker_stmts (((aT .i64 (x.1-1)),1),I.2)) λy15=>(bX (((I.b==I.b)&&J)&&aB (ah I.e) (ah I.e)&&J) (jn (α:=E5×ru×ZF×(Int×Int×(ζ)×(ζ)×Int×Int×(ζ)×Y Xp)×Xu×(Y Sx)×Y Sx) (av (c_ (2,y15.2.1)) λy17=>(bq y17.1 1 (av (rmade_maker_stmts (((aT .i64 (x.1-1)),1),y15.1,y17.2,y15.a)) λy18=>(bX (((y15.a.1==y15.a.1)&&J)&&aB (ah y15.a.2) (ah y15.a.2)&&J) (aI (y18.1,y18.2.1,x13.b,(2,0,[],[],(Xp.op I.1),(Xp.n I.1),(Xp.name I.1),(Xp.l I.1)),y18.a,y15.d,y18.d)))) (aI (y15.1,y17.2,x13.b,(2,0,[],[],(Xp.op I.1),(Xp.n I.1),(Xp.name I.1),(Xp.l I.1)),y15.a,y15.d,([]:Y Sx))))) λx16=>(Z (oZ (x16.b.1,x16.b.2.1,x16.b.a,x16.b.b,([]:Y Xp),eJ x16.b.e,x16.g),x16.1,x16.2.1,x16.c))))))) (jn (bq y1.1 7 (aI ((gM 0 x.1),x13.2)) (aI (aa,x13.2))) λq=>(aJ q.1 (av (qR ([98])) λy20=>(av (sX 2) λy21=>(av (oY (13,y20,y21)) λy22=>(av (rmade_maker_stmts (((aT .i64 (x.1-1)),1),(q.2.1.1,q.2.1.2.1,q.2.1.a,q.2.1.b,q.2.1.c,J),q.a,q.e)) λy23=>(bX (((q.c==q.c)&&J)&&aB (ah q.g) (ah q.g)&&J) (av (qR ([98])) λy24=>(av (sX 1) λy25=>(av (oY (6,y24,y25)) λy26=>(av (kj ([98],y26)) λy27=>(bX (bh (ah y23.d+ah ([eL y27])) 176) (Z (oZ (3,0,[],[],([]:Y Xp),eJ ((Xp.op y22),(Xp.n y22),(Xp.name y22),(Xp.l y22)),(y23.d++([eL y27])),([]:Y Sx)),(y23.1.1,y23.1.2.1,y23.1.a,y23.1.b,y23.1.c,q.2.1.g),y23.2.1,y23.a)))))))))))) (jn (α:=k!) (bq y1.1 8 (aJ x2.1 (mn (.str) ([[109],[110]]) (aT .i64 (y1.1-8)) λz29=>(av (e9 (z29,q.2.1,q.a,q.e)) λy30=>(bX (((q.c==y30.b)&&J)&&aB (ah q.g) (ah y30.e)&&J) (aI ((!y30.1),y30.2.1,y30.a,q.b,y30.d))))) (aI (aa,q.2))) (bq y1.1 9 (aJ x2.1 (mn (.str) ([[109],[110]]) (aT .i64 (y1.1-8)) λz31=>(av (e9 (z31,q.2.1,q.a,q.e)) λy32=>(bX (((q.c==y32.b)&&J)&&aB (ah q.g) (ah y32.e)&&J) (aI ((!y32.1),y32.2.1,y32.a,q.b,y32.d))))) (aI (aa,q.2))) (aI (aa,q.2)))) λA=>(aJ A.1 (mn (.str) ([[109],[110]]) (aT .i64 (y1.1-8)) λz33=>(av (rmade_maker_block ((z33,(aT .i64 (x.1-1))),A.2.1,A.a,A.e)) λy34=>(bX (((A.c==A.c)&&J)&&aB (ah A.g) (ah A.g)&&J) (Z (oZ (4,0,z33,[],([]:Y Xp),eJ (0,0,[],([]:Y Xp)),y34.1,([]:Y Sx)),y34.2))))) (jn (α:=k!) (bq y1.1 10 (aJ x2.1 (av (e9 ([114],A.2.1,A.a,A.e)) λy36=>(bX (((A.c==y36.b)&&J)&&aB (ah A.g) (ah y36.e)&&J) (aI ((!y36.1),y36.2.1,y36.a,A.b,y36.d)))) (aI (aa,A.2))) (bq y1.1 11 (aJ x2.1 (av (e9 ([114],A.2.1,A.a,A.e)) λy37=>(bX (((A.c==y37.b)&&J)&&aB (ah A.g) (ah y37.e)&&J) (aI ((!y37.1),y37.2.1,y37.a,A.b,y37.d)))) (aI (aa,A.2))) (aI (aa,A.2)))) λx35=>(aJ x35.1 (av (rmade_maker_block (([114],(aT .i64 (x.1-1))),x35.2.1,x35.a,x35.e)) λy38=>(bX (((x35.c==x35.c)&&J)&&aB (ah x35.g) (ah x35.g)&&J) (Z (oZ ((aT .i64 ((aT .i64 (y1.1-10))+5)),0,[114],[],([]:Y Xp),eJ (0,0,[],([]:Y Xp)),y38.1,([]:Y Sx)),y38.2)))) (jn (bq y1.1 12 (aI (x2.1,x35.2)) (aI (aa,x35.2))) λN=>(aJ N.1 (av (c_ (2,N.a)) λy40=>(av (rmade_maker_stmts ((0,(aT .i64 (1+y40.1))),(N.2.1.1,N.2.1.2.1,N.2.1.a,J,N.2.1.e),y40.2,N.e)) λy41=>(bX (((N.c==N.c)&&J)&&aB (ah N.g) (ah N.g)&&J) (Z (oZ (7,0,[],[],([]:Y Xp),eJ (0,0,[],([]:Y Xp)),y41.d,([]:Y Sx)),(y41.1.1,y41.1.2.1,y41.1.a,aa,y41.1.e),y41.2.1,y41.a))))) (jn (bq y1.1 13 (aJ x2.1 (aI ((!N.2.1.c),N.2)) (aI (aa,N.2))) (aI (aa,N.2))) λD=>(aJ D.1 (av (rmade_maker_stmts (((aT .i64 (x.1-1)),2),(D.2.1.1,D.2.1.2.1,D.2.1.a,D.2.1.b,J,D.2.1.g),D.a,D.e)) λy43=>(bX (((D.c==D.c)&&J)&&aB (ah D.g) (ah D.g)&&J) (Z (oZ (8,0,[],[],([]:Y Xp),eJ (0,0,[],([]:Y Xp)),y43.d,([]:Y Sx)),(y43.1.1,y43.1.2.1,y43.1.a,y43.1.b,aa,y43.1.g),y43.2.1,y43.a)))) (jn (α:=k!) (bq y1.1 14 (aJ x2.1 (aJ (!D.2.1.c) (av (e9 ([109],D.2.1,D.a,D.e)) λy45=>(bX (((D.c==y45.b)&&J)&&aB (ah D.g) (ah y45.e)&&J) (aI ((!y45.1),y45.2.1,y45.a,D.b,y45.d)))) (aI (aa,D.2))) (aI (aa,D.2))) (aI (aa,D.2))) λx44=>(aJ x44.1 (av (qR ([120])) λy46=>(av (kj ([97],y46)) λy47=>(Z (oZ (4,0,[109],[],([]:Y Xp),eJ (0,0,[],([]:Y Xp)),[oZ (9,0,[99],[],([]:Y Xp),eJ (0,0,[],([]:Y Xp)),([]:Y Sx),([]:Y Sx)),eL y47],([]:Y Sx)),x44.2.1,x44.a,x44.e)))) (jn (α:=k!) (bq y1.1 15 (aJ x2.1 (av (e9 ([109],x44.2.1,x44.a,x44.e)) λy49=>(bX (((x44.c==y49.b)&&J)&&aB (ah x44.g) (ah y49.e)&&J) (aI ((!y49.1),y49.2.1,y49.a,x44.b,y49.d)))) (aI (aa,x44.2))) (aI (aa,x44.2))) λx48=>(aJ x48.1 (av (c_ (2,x48.a)) λy50=>(Z (oZ (4,0,[109],[],([]:Y Xp),eJ (0,0,[],([]:Y Xp)),[oZ ((aT .i64 (10+y50.1)),0,[99],[],([]:Y Xp),eJ (0,0,[],([]:Y Xp)),([]:Y Sx),([]:Y Sx))],([]:Y Sx)),x48.2.1,y50.2,x48.e))) (jn (bq y1.1 16 (aJ (!x48.2.1.b) (aJ (!x48.2.1.g) (aI ((!x48.2.1.a),x48.2)) (aI (aa,x48.2))) (aI (aa,x48.2))) (aI (aa,x48.2))) λx51=>(aJ x51.1 (av (fG (1,(x51.2.1.1,x51.2.1.2.1,J,x51.2.1.d),x51.a,x51.e)) λy52=>(bX (((x51.c==y52.b)&&J)&&aB (ah x51.g) (ah y52.e)&&J) (Z (oZ (14,0,[102],[],([]:Y Xp),eJ ((Xp.op y52.1),(Xp.n y52.1),(Xp.name y52.1),(Xp.l y52.1)),([]:Y Sx),([]:Y Sx)),y52.2)))) (jn (α:=k!) (bq y1.1 17 (aJ (!x51.2.1.b) (av (c_ (2,x51.a)) λy54=>(aI ((decide ((y54.1:Int)=1)),x51.2.1,y54.2,x51.d))) (aI (aa,x51.2))) (aI (aa,x51.2))) λx53=>(aJ x53.1 (Z (oZ (15,0,[97],[102],([]:Y Xp),eJ (0,0,[],([]:Y Xp)),([]:Y Sx),([]:Y Sx)),x53.2.1,x53.a,x53.e)) (av (fG (1,x53.2.1,x53.a,x53.e)) λy55=>(bX (((x53.c==y55.b)&&J)&&aB (ah x53.g) (ah y55.e)&&J) (av (kj ([120],y55.1)) λy56=>(Z (eL y56,y55.2))))))))))))))))))))))))))))))
def nI (rmade_maker_stmts:ani->M aeh) (rmade_maker_stmt:aei->M ajf) (rmade_maker_block:anh->M ajg) (x:jQ×h!):M ajg:=
 (bX (bh (ah x.e+ah ([x.1.1])) 16) (av (c_ (2,x.a)) λA=>(av (rmade_maker_stmts ((x.1.2,(aT .i64 (1+A.1))),x.2.1,A.2,x.b,(x.e++([x.1.1])))) λq=>(bX (((x.b==x.b)&&J)&&aB (ah (x.e++([x.1.1]))) (ah (x.e++([x.1.1])))&&J) (bX (c8 0 (aT .i64 ((be q.a.2)-1))&&gM (aT .i64 ((be q.a.2)-1)) (ah q.a.2)) (Z (q.d,q.1,q.2.1,aa,(cu (aN (aT .i64 ((be q.a.2)-1))) q.a.2))))))))
mutual
def dN:Nat->ani->M aeh
 |0,_=>U
 |n+1,x=>nH (dN n) (eW n) (eE n) x
def eW:Nat->aei->M ajf
 |0,_=>U
 |n+1,x=>o_ (dN n) (eW n) (eE n) x
def eE:Nat->anh->M ajg
 |0,_=>U
 |n+1,x=>nI (dN n) (eW n) (eE n) x
end
def rL (x:ν×h!):M aeh:=dN fZ x
abbrev m?:=E5×yM×dC×jQ×ru×Xu×(Y yL)×dC×Y Sx
def pL (x:η):M w?:=
 (av (ue ()) λy1=>(av (c_ (3,x,0)) λy2=>(iter (σ:=Int×E5×yM×dC×ru×Xu×Y yL) (λx3=>(bV x3.1 (aT .i64 (2+y2.1)) (mn (.str) x3.b x3.1 λz4=>(jn (α:=m?) (bq x3.1 0 (iter (σ:=Int×m?) (λI=>(bV I.1 (aT .i64 (2+y2.1)) (mn (.str) I.b I.1 λz7=>(bX (bh (ah I.o+ah ([oZ (12,0,z7,[],([]:Y Xp),eJ (0,0,[],([]:Y Xp)),([]:Y Sx),([]:Y Sx))])) 176) (c7 ((cL I.1),I.2.1,I.a,I.b,I.c,I.f,I.h,I.k,I.p8,(I.o++([oZ (12,0,z7,[],([]:Y Xp),eJ (0,0,[],([]:Y Xp)),([]:Y Sx),([]:Y Sx))])))))) (aI (bU I.2)))) (1,(x3.1,x3.2.1.2),x3.a,x3.b,(z4,0),x3.c,x3.f,x3.i,[[97],[98]],([]:Y Sx))) (aI ((x3.1,x3.2.1.2),x3.a,x3.b,(z4,0),x3.c,x3.f,x3.i,[[97],[98]],([]:Y Sx)))) λD=>(av (c_ (3,D.c)) λy8=>(av (rL ((2,(aT .i64 (1+y8.1))),D.1,y8.2,D.f)) λN=>(bX (((D.f.1==D.f.1)&&J)&&aB (ah D.f.2) (ah D.f.2)&&J) (bX (bh (ah D.l+ah N.d) 176) (jn (α:=m?) (jn (α:=Bool×m?) (bq x3.1 0 (av (c_ (3,N.2.1)) λy12=>(aI ((decide ((y12.1:Int)=2)),N.1,D.2.1,D.a,D.b,y12.2,N.a,D.h,D.k,(D.l++N.d)))) (aI (aa,N.1,D.2.1,D.a,D.b,N.2.1,N.a,D.h,D.k,(D.l++N.d)))) λq=>(aJ q.1 (mn (.str) q.b 1 λz13=>(bX (bh (ah q.o+ah ([oZ (13,0,z13,[],([]:Y Xp),eJ (0,0,[],([]:Y Xp)),([]:Y Sx),([]:Y Sx))])) 176) (aI (q.2.1,q.a,q.b,q.c,q.f,q.h,q.k,q.p8,(q.o++([oZ (13,0,z13,[],([]:Y Xp),eJ (0,0,[],([]:Y Xp)),([]:Y Sx),([]:Y Sx))])))))) (aI q.2))) λA=>(bX (bh (ah A.h+ah ([(A.b.1,A.b.2,A.j)])) 72) (c7 ((cL x3.1),A.1,A.2.1,A.a,A.c,A.f,(A.h++([(A.b.1,A.b.2,A.j)])))))))))))) (av (av (gg (x3.a,x3.i)) λy14=>(gV y14.1 0 (av (ue ()) λy15=>(av (sX 1) λy16=>(av (kj ([120],y16)) λy17=>(Z (y15,[([109,97,105,110],0,[[97],[98]],[eL y17])]))))) (Z (x3.a,x3.i)))) λr=>Z (bU r)))) (0,(0,20,aa,aa,aa,aa),y1,[[109,97,105,110],[116,49],[116,50],[116,51]],y2.2,(J,([]:Y ζ)),([]:Y yL)))))
def zF (x:η):M E4:=
 (av (pL x) λA=>(av (rI A) λq=>(Z q.1)))
def wO (x:O!):M (lN×Y tJ):=
 (av (zF x.1) λD=>(av (tu x.2) λA=>(av (By (D,A)) λq=>(Z q.1))))
def Ok (o:M R) (Q:R->Prop):Prop:=∃y,o=Z y/\Q y
def Ok.mono {o:M R} {Q Q':R->Prop} (h:Ok o Q) (q:∀y,Q y->Q' y):Ok o Q':=by let⟨y,h1,h2⟩:=h;exact⟨y,h1,q y h2⟩
def Ok.and {o:M R} {Q Q':R->Prop} (h:Ok o Q) (h':Ok o Q'):Ok o λy=>Q y/\Q' y:=by
 let⟨y,h1,h2⟩:=h;let⟨z,h3,h4⟩:=h';rw[h1]at h3;cases h3;exact⟨y,h1,h2,h4⟩
def aj {y:R} {Q:R->Prop} (h:Q y):Ok (Z y) Q:=⟨y,rfl,h⟩
def bO {k:M R} {Q:R->Prop} (h:b=J) (q:Ok k Q):Ok (chk b λ_=>k) Q:=by subst h;exact q
def aR {t f:M R} {Q:R->Prop} (ht:b=J->Ok t Q) (hf:b=aa->Ok f Q):Ok (aJ b t f) Q:=by
 cases b with
 |true=>exact ht rfl
 |false=>exact hf rfl
def mL {t f:M R} {Q:R->Prop} (h:b=J) (ht:Ok t Q):Ok (aJ b t f) Q:=by subst h;exact ht
def fJ {t f:M R} {Q:R->Prop} (h:b=aa) (hf:Ok f Q):Ok (aJ b t f) Q:=by subst h;exact hf
def au {α:Type} {o:M α} {k:α->M R} {P:α->Prop} {Q:R->Prop} (h:Ok o P) (A:∀x,P x->Ok (k x) Q):Ok (av o k) Q:=by
 obtain⟨x,rfl,q⟩:=h;exact A x q
def aU {α:Type} {o:M α} {k:α->M R} {x:α} {Q:R->Prop} (h:o=Z x) (q:Ok (k x) Q):Ok (av o k) Q:=by subst h;exact q
def aS {α:Type} {x:α} {k:α->M R} {Q:R->Prop} (h:Ok (k x) Q):Ok (lt x k) Q:=h
def aW {α:Type} {o:M (R⊕α)} {k:α->M R} {Q:R->Prop} (P:α->Prop) (h:Ok o λr=>match r with|.inl r=>Q r|.inr x=>P x) (A:∀x,P x->Ok (k x) Q):Ok (jn o k) Q:=by
 obtain⟨r,rfl,q⟩:=h;cases r with
 |inl r=>exact⟨r,rfl,q⟩
 |inr x=>exact A x q
def gK {α:Type} {o:M (R⊕α)} {k:α->M R} {Q:R->Prop} (h:Ok o λr=>match r with|.inl r=>Q r|.inr x=>Ok (k x) Q):Ok (jn o k) Q:=aW (λx=>Ok (k x) Q) h λ_ h=>h
def ala {α:Type} {a b:α} {r:M R} {Q:R->Prop} (e:a=b) (h:Ok r Q):Ok (same a b r) Q:=by unfold same;rw[aK e];exact h
def wK {σ:Type} {f:σ->M (σ⊕R)} {Q:R->Prop} (μ:σ->Nat) (I:σ->Prop) (h:∀x,I x->Ok (f x) λr=>match r with|.inl y=>I y/\μ y<μ x|.inr r=>Q r) {x:σ} (q:I x):Ok (iter f x) Q:=by
 have key:∀n x,μ x<n->I x->∃m r,iterN f m x=Z r/\Q r:=by
  intro n;induction n with
  |zero=>intro x hm;omega
  |succ n A=>
   intro x hm q;let⟨r,h1,h2⟩:=h x q;cases r with
   |inl y=>
    let⟨m,r,h3,h4⟩:=A y (by have:=h2.2;omega) h2.1;exact⟨m+1,r,by rw[iterN,h1];exact h3,h4⟩
   |inr r=>exact⟨1,r,by rw[iterN,h1],h2⟩
 let⟨m,r,h1,h2⟩:=key (μ x+1) x (sr _) q;exact⟨r,BF h1,h2⟩
def bC {σ:Type} {f:σ->M (σ⊕R)} {Q:R->Prop} (n:Nat) (I:Nat->σ->Prop) (h0:∀i x,i<n->I i x->Ok (f x) λr=>match r with|.inl y=>I (i+1) y|.inr r=>Q r) (h1:∀x,I n x->Ok (f x) λr=>match r with|.inl _=>False|.inr r=>Q r) {x:σ} (D:I 0 x):Ok (iter f x) Q:=by
 have key:∀m i x,i+m=n->I i x->∃k r,iterN f k x=Z r/\Q r:=by
  intro m;induction m with
  |zero=>
   intro i x hi D;have:i=n:=by omega
   subst this;let⟨r,A,q⟩:=h1 x D;cases r with
   |inl y=>exact q.elim
   |inr r=>exact⟨1,r,by rw[iterN,A],q⟩
  |succ m N=>
   intro i x hi D;let⟨r,A,q⟩:=h0 i x (by omega) D;cases r with
   |inl y=>
    let⟨k,r,g3,g4⟩:=N (i+1) y (by omega) q;exact⟨k+1,r,by rw[iterN,A];exact g3,g4⟩
   |inr r=>exact⟨1,r,by rw[iterN,A],q⟩
 let⟨m,r,A,q⟩:=key n 0 x (by omega) D;exact⟨r,BF A,q⟩
def itQ {σ:Type} (f:σ->M (σ⊕R)) (Q:R->Prop):σ⊕R->Prop
 |.inl y=>Ok (iter f y) Q
 |.inr r=>Q r
def jnQ {α:Type} (k:α->M R) (Q:R->Prop):R⊕α->Prop
 |.inl r=>Q r
 |.inr x=>Ok (k x) Q
def al9 {σ:Type} {f:σ->M (σ⊕R)} {x:σ} {Q:R->Prop} (h:Ok (f x) (itQ f Q)):Ok (iter f x) Q:=by
 let⟨r,h1,h2⟩:=h;cases r with
 |inr r=>exact⟨r,BF (n:=1) (by rw[iterN,h1]),h2⟩
 |inl y=>
  let⟨z,h3,h4⟩:=h2;unfold iter at h3;split at h3
  .exact⟨z,BF (n:=_+1) (by rw[iterN,h1];exact h3),h4⟩
  .cases h3
def aa8 {σ:Type} {f:σ->M (σ⊕R)} {y:σ} {Q:R->Prop} (h:Ok (iter f y) Q):Ok (Z (.inl y)) (itQ f Q):=⟨_,rfl,h⟩
def aa7 {σ:Type} {f:σ->M (σ⊕R)} {r:R} {Q:R->Prop} (h:Ok (Z r) Q):Ok (Z (.inr r)) (itQ f Q):=by
 let⟨_,h1,h2⟩:=h;cases h1;exact⟨_,rfl,h2⟩
def aa5 {α:Type} {o:M (R⊕α)} {k:α->M R} {Q:R->Prop} (h:Ok o (jnQ k Q)):Ok (jn o k) Q:=by
 obtain⟨r,rfl,q⟩:=h;cases r with
 |inl r=>exact⟨r,rfl,q⟩
 |inr x=>exact q
def aa6 {α:Type} {r:R} {k:α->M R} {Q:R->Prop} (h:Ok (Z r) Q):Ok (Z (.inl r)) (jnQ k Q):=by
 let⟨_,h1,h2⟩:=h;cases h1;exact⟨_,rfl,h2⟩
def aa4 {α:Type} {x:α} {k:α->M R} {Q:R->Prop} (h:Ok (k x) Q):Ok (Z (.inr x)) (jnQ k Q):=⟨_,rfl,h⟩
def oQ {α:Type} (k:α->M R) (Q:R->Prop) (x:α):Prop:=Ok (k x) Q
def UP {α:Type} {o:M α} {k:α->M R} {Q:R->Prop} (h:Ok o (oQ k Q)):Ok (av o k) Q:=au h λ_ h=>h
def UO {α:Type} {x:α} {k:α->M R} {Q:R->Prop} (h:Ok (k x) Q):Ok (Z x) (oQ k Q):=⟨_,rfl,h⟩
variable {a:Int}
def alu :ij a i=J↔0<=a/\a<i:=by simp[ij,c8,gM]
def rR {b:Int}:c8 a b=J↔a<=b:=by simp[c8]
def tB {b:Int}:gM a b=J↔a<b:=by simp[gM]
def g8 {b:Int}:gM a b=aa↔b<=a:=by simp[gM]
def gq {b:Int}:c8 a b=aa↔b<a:=by simp[c8]
def ach :bh i m=J↔i<=1099511627776/\i*m<=1099511627776:=by simp[bh]
def bT {o:M R} {v:R} (h:Ok o (·=v)):o=Z v:=by let⟨y,h1,h2⟩:=h;rw[h1,h2]
section steps
variable {R:Type} {k t f:M R} {Q:R->Prop}
def aQ (h0:0<=a) (h1:a<i) (q:Ok k Q):Ok (chk (ij a i) λ_=>k) Q:=bO (alu.2 ⟨h0,h1⟩) q
def bu (h0:i<=1073741824) (h1:m<=1024) (q:Ok k Q):Ok (chk (bh i m) λ_=>k) Q:=
 bO (ach.2 ⟨by omega,cP (Nat.mul_le_mul h0 h1) (by omega)⟩) q
def a! {i m:Nat} (d:Ok k Q) (h:i<=1073741824:=by first|omega|(simp;omega)|(dsimp only;omega)) (g:m<=1024:=by omega):Ok (chk (bh i m) λ_=>k) Q:=bu h g d
def bZ {a:Bool} (h:Ok (chk a λ_=>chk b λ_=>k) Q):Ok (chk (a&&b) λ_=>k) Q:=by
 cases a with
 |true=>exact h
 |false=>let⟨y,h,_⟩:=h;cases h
def cK {b:Int} (h:a<=b) (q:Ok k Q):Ok (chk (c8 a b) λ_=>k) Q:=bO (rR.2 h) q
def a? {a b:Int} (d:Ok k Q) (h:a<=b:=by first|omega|(simp;omega)|(dsimp only;omega)):Ok (chk (c8 a b) λ_=>k) Q:=cK h d
def pY {b:Int} (h:a<b) (q:Ok k Q):Ok (chk (gM a b) λ_=>k) Q:=bO (tB.2 h) q
def R9 {p:Prop} {i:Decidable p} (h:p) (q:Ok k Q):Ok (chk (decide p) λ_=>k) Q:=bO (aO h) q
def n_ {p:Prop} {i:Decidable p} (h:¬p) (q:Ok k Q):Ok (chk (!decide p) λ_=>k) Q:=bO (by simp[h]) q
def fE (h:i=m) (q:Ok k Q):Ok (chk (aB i m) λ_=>k) Q:=bO (by subst h;exact wD i) q
def mc (q:Ok k Q):Ok (chk J λ_=>k) Q:=q
def bG {b:Int} (ht:a<b->Ok t Q) (hf:b<=a->Ok f Q):Ok (aJ (gM a b) t f) Q:=aR (λh=>ht (tB.1 h)) (λh=>hf (g8.1 h))
def dB {b:Int} (ht:a<=b->Ok t Q) (hf:b<a->Ok f Q):Ok (aJ (c8 a b) t f) Q:=aR (λh=>ht (rR.1 h)) (λh=>hf (gq.1 h))
def aG {p:Prop} {i:Decidable p} (ht:p->Ok t Q) (hf:¬p->Ok f Q):Ok (aJ (decide p) t f) Q:=aR (λh=>ht (aZ h)) (λh=>hf (vy h))
def bw {p:Prop} {i:Decidable p} (ht:¬p->Ok t Q) (hf:p->Ok f Q):Ok (aJ (!decide p) t f) Q:=aR (λh=>ht (by simpa using h)) (λh=>hf (by simpa using h))
def dc (ht:b=aa->Ok t Q) (hf:b=J->Ok f Q):Ok (aJ (!b) t f) Q:=aR (λh=>ht (by simpa using h)) (λh=>hf (by simpa using h))
def aa9 (ht:Ok t Q):Ok (aJ J t f) Q:=ht
def iM (hf:Ok f Q):Ok (aJ aa t f) Q:=hf
def bK (q:Ok k Q) (h0:0<=a:=by first|omega|(dsimp only;omega)) (h1:a<i:=by first|omega|(dsimp only;omega)):Ok (chk (ij a i) λ_=>k) Q:=aQ h0 h1 q
def cE {b:Int} (ht:Ok t Q) (h:a<b:=by first|omega|(dsimp only[al];omega)):Ok (aJ (gM a b) t f) Q:=bG (λ_=>ht) λg=>bc h (gG.2 g)
def cz {b:Int} (hf:Ok f Q) (h:b<=a:=by first|omega|(dsimp only[al];omega)):Ok (aJ (gM a b) t f) Q:=bG (λg=>bc g (gG.2 h)) λ_=>hf
end steps
def sB:(∀(p:Prop) [Decidable p],(decide p=J)=p)/\(∀p:Prop,(True\/p)=True)/\(∀p:Prop,(p\/True)=True)/\(∀p:Prop,(True->p)=p)/\(∀p:Prop,(True/\p)=p)/\∀p:Prop,(p/\True)=p:=⟨λ_=>bB,true_or,or_true,λ_=>true_implies _,true_and,and_true⟩
def OC:(∀i:Decidable True,@decide True i=J)/\(∀i:Decidable False,@decide False i=aa)/\(∀{R:Type} (t f:M R),aJ J t f=t)/\(∀{R:Type} (t f:M R),aJ aa t f=f)/\(∀{α R:Type} (x:α) (k:α->M R),jn (Z (.inr x)) k=k x)/\(∀{α R:Type} (r:R) (k:α->M R),jn (Z (.inl r)) k=Z r)/\(∀{α R:Type} (x:α) (k:α->M R),av (Z x) k=k x)/\(∀{α R:Type} (x:α) (k:α->M R),lt x k=k x)/\(!J)=aa/\(!aa)=J:=⟨decide_true,decide_false,λ_ _=>rfl,λ_ _=>rfl,λ_ _=>rfl,λ_ _=>rfl,λ_ _=>rfl,λ_ _=>rfl,rfl,rfl⟩
structure IM (p q:Prop):Prop where
 h:p->q
inductive OS {R:Type}:Option R->(R->Prop)->Prop where
 |cand {a b:Bool} {k:Option R} {Q:R->Prop} (h:Ok (chk a λ_=>chk b λ_=>k) Q):OS (chk (a&&b) λ_=>k) Q
 |ij {j:Int} {n:Nat} {k:Option R} {Q:R->Prop} (h0:0<=j) (h1:j<n) (hk:Ok k Q):OS (chk (ij j n) λ_=>k) Q
 |room {n b:Nat} {k:Option R} {Q:R->Prop} (h0:n<=1073741824) (h1:b<=1024) (hk:Ok k Q):OS (chk (bh n b) λ_=>k) Q
 |cile {a b:Int} {k:Option R} {Q:R->Prop} (h:a<=b) (hk:Ok k Q):OS (chk (c8 a b) λ_=>k) Q
 |cilt {a b:Int} {k:Option R} {Q:R->Prop} (h:a<b) (hk:Ok k Q):OS (chk (gM a b) λ_=>k) Q
 |cdec {p:Prop} {i:Decidable p} {k:Option R} {Q:R->Prop} (h:p) (hk:Ok k Q):OS (chk (decide p) λ_=>k) Q
 |cndec {p:Prop} {i:Decidable p} {k:Option R} {Q:R->Prop} (h:¬p) (hk:Ok k Q):OS (chk (!decide p) λ_=>k) Q
 |cbeq {a b:Nat} {k:Option R} {Q:R->Prop} (h:a=b) (hk:Ok k Q):OS (chk (aB a b) λ_=>k) Q
 |cT {k:Option R} {Q:R->Prop} (hk:Ok k Q):OS (chk J λ_=>k) Q
 |lt {α:Type} {x:α} {k:α->Option R} {Q:R->Prop} (h:Ok (k x) Q):OS (lt x k) Q
 |b1 {t f:Option R} {Q:R->Prop} (h:Ok t Q):OS (aJ J t f) Q
 |b0 {t f:Option R} {Q:R->Prop} (h:Ok f Q):OS (aJ aa t f) Q
 |gM {a b:Int} {t f:Option R} {Q:R->Prop} (ht:IM (a<b) (Ok t Q)) (hf:IM (b<=a) (Ok f Q)):OS (aJ (gM a b) t f) Q
 |c8 {a b:Int} {t f:Option R} {Q:R->Prop} (ht:IM (a<=b) (Ok t Q)) (hf:IM (b<a) (Ok f Q)):OS (aJ (c8 a b) t f) Q
 |dec {p:Prop} {i:Decidable p} {t f:Option R} {Q:R->Prop} (ht:IM p (Ok t Q)) (hf:IM (¬p) (Ok f Q)):OS (aJ (decide p) t f) Q
 |ndec {p:Prop} {i:Decidable p} {t f:Option R} {Q:R->Prop} (ht:IM (¬p) (Ok t Q)) (hf:IM p (Ok f Q)):OS (aJ (!decide p) t f) Q
 |not {b:Bool} {t f:Option R} {Q:R->Prop} (ht:IM (b=aa) (Ok t Q)) (hf:IM (b=J) (Ok f Q)):OS (aJ (!b) t f) Q
 |aJ {b:Bool} {t f:Option R} {Q:R->Prop} (ht:IM (b=J) (Ok t Q)) (hf:IM (b=aa) (Ok f Q)):OS (aJ b t f) Q
 |jc {α:Type} {o:Option (R⊕α)} {k:α->Option R} {Q:R->Prop} (h:Ok o λr=>match r with|.inl r=>Q r|.inr x=>Ok (k x) Q):OS (jn o k) Q
 |some {y:R} {Q:R->Prop} (h:Q y):OS (Z y) Q
def OS.ok {o:M R} {Q:R->Prop} (h:OS o Q):Ok o Q:=by
 cases h with
 |cand h=>exact bZ h
 |ij a b h=>exact aQ a b h
 |room a b h=>exact bu a b h
 |cile a h=>exact cK a h
 |cilt a h=>exact pY a h
 |cdec a h=>exact R9 a h
 |cndec a h=>exact n_ a h
 |cbeq a h=>exact fE a h
 |cT h|lt h|b1 h|b0 h=>exact h
 |gM a b=>exact bG a.h b.h
 |c8 a b=>exact dB a.h b.h
 |dec a b=>exact aG a.h b.h
 |ndec a b=>exact bw a.h b.h
 |not a b=>exact dc a.h b.h
 |aJ a b=>exact aR a.h b.h
 |jc h=>
  let⟨r,e,h⟩:=h;exact gK ⟨r,e,by cases r<;>exact h⟩
 |some h=>exact aj h
def bcT (t f:M R):aJ J t f=t:=rfl
def bcF (t f:M R):aJ aa t f=f:=rfl
def jnr {α:Type} (x:α) (k:α->M R):jn (Z (.inr x)) k=k x:=rfl
def R_ {α:Type} (x:α) (k:α->M R):av (Z x) k=k x:=rfl
inductive KY:Int->Prop where
 |k1:KY 1
 |k2:KY 2
 |k3:KY 3
 |k4:KY 4
 |k5:KY 5
 |k6:KY 6
 |k7:KY 7
 |k8:KY 8
 |k9:KY 9
 |k10:KY 10
 |k11:KY 11
 |k12:KY 12
 |k13:KY 13
 |k14:KY 14
 |k15:KY 15
 |k16:KY 16
 |k17:KY 17
 |k18:KY 18
 |k19:KY 19
 |k20:KY 20
 |k21:KY 21
 |k22:KY 22
 |k23:KY 23
 |no {k:Int} (h:¬k=1/\¬k=2/\¬k=3/\¬k=4/\¬k=5/\¬k=6/\¬k=7/\¬k=8/\¬k=9/\¬k=10/\¬k=11/\¬k=12/\¬k=13/\¬k=14/\¬k=15/\¬k=16/\¬k=17/\¬k=18/\¬k=19/\¬k=20/\¬k=21/\¬k=22/\¬k=23) (h2:k<1\/23<k):KY k
def kdI (k:Int):KY k:=by
 by_cases h:k<1\/23<k
 .exact .no (by omega) h
 .have:k=1\/k=2\/k=3\/k=4\/k=5\/k=6\/k=7\/k=8\/k=9\/k=10\/k=11\/k=12\/k=13\/k=14\/k=15\/k=16\/k=17\/k=18\/k=19\/k=20\/k=21\/k=22\/k=23:=by omega
  repeat' (rcases this with rfl|this)
  all_goals first|(subst this;constructor)|constructor
def fh {n:Int} (h0: -9223372036854775808<=n:=by omega) (h1:n<=9223372036854775807:=by omega):aT .i64 n=n:=by
 rw[E_];unfold P';simp[c8,h0,h1]
def fH (h:i<9223372036854775807:=by omega):aT .i64 ((i:Int)+1)=((i+1:Nat):Int):=by rw[fh];omega
def xC (xs:Y T.den) (i:Nat):aw _ xs (i:Int)=xs.getD i T.zero:=by unfold aw;simp
def S1 (xs:η) (i:Nat):aw aP xs (i:Int)=xs.getD i 0:=xC (T:=aP) xs i
def ba {xs:Y T.den} {j:Int} (h0:0<=j) (h1:j<l! xs):aw _ xs j∈xs:=by
 unfold aw;rw[aA,aL (by omega)];exact List.getElem_mem _
def bM (xs:Y R) (j:Int) (x:R):l! (ca xs j x)=l! xs:=by unfold ca;simp
def kB {xs:Y R} {x y:R} (h:y∈ca xs a x):y∈xs\/y=x:=List.mem_or_eq_of_mem_set h
def lK {σ:Type} {f:σ->M (σ⊕R)} {Q:R->Prop} (n:Nat) (hn:n<=1000000) (I:Nat->σ->Prop) (h0:∀i x,i<n->I i x->Ok (f x) λr=>match r with|.inl y=>I (i+1) y|.inr r=>Q r) (h1:∀x,I n x->Ok (f x) λr=>match r with|.inl _=>False|.inr r=>Q r) {x:σ} (D:I 0 x):Ok (mQ f x) Q:=by
 have key:∀m i x,i+m=n->I i x->∃r,iterN f (m+1) x=Z r/\Q r:=by
  intro m;induction m with
  |zero=>
   intro i x hi D;have:i=n:=by omega
   subst this;let⟨r,A,q⟩:=h1 x D;cases r with
   |inl y=>exact q.elim
   |inr r=>exact⟨r,by rw[iterN,A],q⟩
  |succ m N=>
   intro i x hi D;let⟨r,A,q⟩:=h0 i x (by omega) D;cases r with
   |inl y=>
    let⟨r,g3,g4⟩:=N (i+1) y (by omega) q;exact⟨r,by rw[iterN,A];exact g3,g4⟩
   |inr r=>exact⟨r,FP (n:=1) (by rw[iterN,A]) (by omega),q⟩
 let⟨r,A,q⟩:=key n 0 x (by omega) D;exact⟨r,FP A (by omega),q⟩
abbrev WT:Type:=Y (ζ×Int×Int×Bool×Int)×Y (ζ×Bool)×Y (ζ×Int)×Y ζ×Y ζ×Y π
abbrev SY:Type:=Y (Int×η)×Int×θ×Y (Int×Int×Bool)
def Qy (a b:Int):rH (a,b)=Z (decide (0<=a/\a<b)):=by
 refine bT ?_;unfold rH jr aI;with_reducible repeat' first|apply OS.ok;constructor|refine IM.mk λ_=>?_
 .by_cases h:a<b<;>simp[*,gM]
 .simp;omega
def ER (l:η) (n:Int) (I:l! l<=1000000):lS (l,n)=Z (l.contains n):=by
 refine bT ?_;refine bC (l! l) (λi x=>x=(i:Int)/\∀k,k<i->l.getD k 0≠n) ?_ ?_ ⟨rfl,λk q=>by omega⟩
 .rintro i x hi ⟨rfl,D⟩;with_reducible repeat' first|apply OS.ok;constructor|refine IM.mk λ_=>?_
  all_goals try simp only[al,sB] at*
  .omega
  .omega
  .rename_i h;rw[S1]at h
   grind
  .rename_i h;rw[S1]at h;refine ⟨fH,λk q=>?_⟩
   grind
  .omega
 .rintro x ⟨rfl,D⟩;with_reducible repeat' first|apply OS.ok;constructor|refine IM.mk λ_=>?_
  all_goals try simp only[al,sB] at*
  .omega
  .omega
  .omega
  .omega
  .symm
   rw[Bool.eq_false_iff];intro A;rw[bR]at A;let⟨k,q,he⟩:=J_ A
   grind
def fI {xs:Y T.den} {p:T.den->Prop} (h:∀k:Nat,k<ah xs->p (aw _ xs (k:Int))):∀c∈xs,p c:=λc A=>by
 let⟨k,q,he⟩:=J_ A;have:=h k q;rw[xC,aA,aL q,Option.getD_some,he]at this;exact this
def T9 (w:WT) (s:SY) (hw:l! w.2.2.1<=1000000):Ok (oS (w,s)) λb=>b=J->(∀c∈w.2.2.1,0<=c.2/\c.2<l! w.2.1)/\l! s.1=l! w.2.1/\l! s.2.2.1=l! w.2.2.2.1/\l! s.2.2.2=l! w.2.2.2.2.1:=by
 unfold oS bg bA bQ dv bq bV bI be c7 aI cL;refine bC (l! w.2.2.1) (λi x=>x.1=(i:Int)/\x.2=(w,s)/\∀k:Nat,k<i->0<=(aw itK w.2.2.1 (k:Int)).2/\(aw itK w.2.2.1 (k:Int)).2<l! w.2.1) ?_ ?_ ⟨rfl,rfl,λk I=>by omega⟩
 .rintro i ⟨x1,x2⟩ hi ⟨A,q,D⟩;subst A q;with_reducible repeat' first|apply OS.ok;constructor|refine IM.mk λ_=>?_
  all_goals try simp only[al,sB] at*
  all_goals first|omega|skip
  .intro h;cases h
  .intro h;cases h
  .refine ⟨fH,λk I=>?_⟩
   grind
 .rintro⟨x1,x2⟩ ⟨A,q,D⟩;subst A q;with_reducible repeat' first|apply OS.ok;constructor|refine IM.mk λ_=>?_
  all_goals try simp only[al,sB] at*
  all_goals first|omega|skip
  refine au (P:=λb=>b=J->l! s.1=l! w.2.1/\l! s.2.2.1=l! w.2.2.2.1/\l! s.2.2.2=l! w.2.2.2.2.1) ?_ ?_
  .with_reducible repeat' first|apply OS.ok;constructor|refine IM.mk λ_=>?_
   all_goals try simp only[al,sB] at*
   .omega
   .intro h;cases h
   .intro h;cases h
  .intro b N;with_reducible repeat' first|apply OS.ok;constructor|refine IM.mk λ_=>?_
   exact λh=>⟨fI (T:=itK) D,N h⟩
structure NM (w:WT) (k o:Int):Prop where
 k1:1<=k
 k2:k<=23
 ce:k=3\/k=4->0<=o/\o<l! w.1
 lk:6<=k/\k<=11->0<=o/\o<l! w.2.1
 cd:16<=k/\k<=19->0<=o/\o<l! w.2.2.1
 th:k=20\/k=21->0<=o/\o<l! w.2.2.2.2.1
 fu:k=22\/k=23->0<=o/\o<l! w.2.2.2.1
 no:k=1\/k=2\/k=5\/(12<=k/\k<=15)->o= -1
 mu:k=6\/k=7->(aw sk w.2.1 o).2=aa
 rw:8<=k/\k<=11->(aw sk w.2.1 o).2=J
def agj (w:WT) (k o:Int):Ok (qK (w,k,o)) λb=>b=J->NM w k o:=by
 unfold qK bg bA bQ cS bq bI be aI;cases kdI k
 case no q _=>
  simp[q,ec,dA,OC];exact aj nofun
 all_goals simp only[ec,dA,OC,Qy]
 all_goals with_reducible repeat' first|apply OS.ok;constructor|refine IM.mk λ_=>?_
 all_goals try simp only[al,sB] at*
 all_goals first|omega|(intro h;cases h;done)|(intro h;constructor<;>first|omega|(intro h2;first|omega|(simpa using h)))
structure SB (n:Nat) (s:SY):Prop where
 n1:n<=100000
 lk:l! s.1<=1000
 rd:∀l∈s.1,l! l.2<=n
 dn:l! s.2.2.1<=1000
 th:l! s.2.2.2<=1000
structure EN (w:WT) (s:SY) (t k o:Int):Prop where
 nm:NM w k o
 t0:0<=t
 t1:t<l! w.2.2.2.2.1
 cd:∀c∈w.2.2.1,0<=c.2/\c.2<l! w.2.1
 e1:l! s.1=l! w.2.1
 e2:l! s.2.2.1=l! w.2.2.2.1
 e3:l! s.2.2.2=l! w.2.2.2.2.1
structure IE (w:WT) (s:SY) (t k o:Int):Prop where
 b:k=1->(aw gU s.2.2.2 t).1=1
 wk:k=17->(aw gU s.2.2.2 t).1=4/\(aw gU s.2.2.2 t).2.1=o/\(aw dy s.1 (aw itK w.2.2.1 o).2).1= -1
 r:k≠1->k≠17->(aw gU s.2.2.2 t).1=2
 aq:k=6\/k=8\/k=10->(aw dy s.1 o).1= -1
 wr:k=10->(aw dy s.1 o).2.length=0
 ra:k=8->(aw dy s.1 o).2.contains t=aa
 rl:k=7\/k=11->(aw dy s.1 o).1=t
 rr:k=9->(aw dy s.1 o).2.contains t=J
 xb:k=12->s.2.1= -1
 xe:k=13->s.2.1=t
 ab:k=14->(aw gU s.2.2.2 t).2.2=aa
 ae:k=15->(aw gU s.2.2.2 t).2.2=J
 nt:k=16\/k=18\/k=19->(aw dy s.1 (aw itK w.2.2.1 o).2).1=t
 sp:k=20->¬o=t/\(aw gU s.2.2.2 o).1=0
 jo:k=21->¬o=t/\(aw gU s.2.2.2 o).1=5
 se:k=22->aw (.bool) s.2.2.1 o=aa
 ge:k=23->aw (.bool) s.2.2.1 o=J
def Ot (w:WT) (s:SY) (I:SB i s) (hw:l! w.2.2.1<=1000) (t k o:Int):Ok (ju (w,s,t,k,o)) λb=>b=J->EN w s t k o/\IE w s t k o:=by
 unfold ju bg bA bQ bY dt dv bq gV bI be aI;refine aW (λx=>x.2=(w,s)/\(x.1=aa->EN w s t k o)) ?_ ?_
 .refine au (T9 w s (by omega)) λb hb=>?_
  with_reducible repeat' first|apply OS.ok;constructor|refine IM.mk λ_=>?_
  .exact⟨rfl,nofun⟩
  .simp only[Qy,R_];with_reducible repeat' first|apply OS.ok;constructor|refine IM.mk λ_=>?_
   .exact⟨rfl,nofun⟩
   .refine au (agj w k o) λc N=>?_
    with_reducible repeat' first|apply OS.ok;constructor|refine IM.mk λ_=>?_
    all_goals try simp only[al,sB] at*
    rename_i h1 h2;obtain⟨f1,f2,f3,f4⟩:=hb h1;exact λh=>⟨N (by simpa using h),by omega,by omega,f1,f2,f3,f4⟩
 .rintro⟨x1,x2⟩ ⟨q,D⟩;dsimp only at q D;subst q;refine aR (λh=>aj λh=>by cases h) (λh=>?_);have he:=D h;obtain⟨nm,t0,t1,cd,e1,e2,e3⟩:=id he;obtain⟨_,_,ce,A,cn,th,fu⟩:=nm;have hm:16<=k/\k<=19->0<=(aw itK w.2.2.1 o).2/\(aw itK w.2.2.1 o).2<l! w.2.1:=λh=>cd _ (ba (cn h).1 (cn h).2)
  have hH:6<=k/\k<=11->lS ((aw dy s.1 o).2,t)=Z ((aw dy s.1 o).2.contains t):=λh=>ER _ _ (by
   have:=I.rd _ (ba (T:=dy) (A h).1 (by have:=(A h).2;omega));have:=I.n1;omega)
  cases kdI k
  case no hk _=>omega
  all_goals simp only[ec,dA,OC]
  all_goals with_reducible repeat' first|apply OS.ok;constructor|refine IM.mk λ_=>?_
  all_goals try simp only[hH (by omega),R_]
  all_goals with_reducible repeat' first|apply OS.ok;constructor|refine IM.mk λ_=>?_
  all_goals try simp only[al,sB] at*
  all_goals first|omega|(intro h;cases h;done)|exact (hm ⟨by decide,by decide⟩).1|(rw [e1];exact (hm ⟨by decide,by decide⟩).2)|(intro h;refine ⟨he,?_⟩;constructor<;>first|omega|(intros;first|omega|assumption|(simpa using h)|exact⟨by assumption,by first|assumption|exact⟨by assumption,by assumption⟩⟩))|(refine ⟨he,?_⟩;constructor<;>first|omega|(intros;first|omega|assumption))
def mK:η->Int->η
 |[],n=>[n]
 |x::r,n=>if x<n then x::mK r n else if x=n then x::r else n::x::r
def Hu (n:Int):∀(i:Nat) (l:η),i<=l! l->(∀k,k<i->l.getD k 0<n)->mK l n=l.take i++mK (l.drop i) n
 |0,l,_,_=>by simp
 |i+1,[],h,_=>by simp at h
 |i+1,x::r,h,q=>by
  have h0:=q 0 (by omega);simp at h0;have:=Hu n i r (by grind) (λk A=>by have:=q (k+1) (by omega);simpa using this);rw[mK,aK h0,this,J8,List.drop_succ_cons,ft]
def IP (n:Int):∀l:η,l! (mK l n)<=l! l+1
 |[]=>by simp[mK]
 |x::r=>by
  have:=IP n r;rw[mK];split
  .simp;omega
  .split<;>simp
def LJ {n y:Int}:∀{l:η},y∈mK l n↔y=n\/y∈l
 |[]=>by simp[mK]
 |x::r=>by
  have:=LJ (n:=n) (y:=y) (l:=r);rw[mK];split
  .grind
  .grind
def J6:η->Prop
 |[]=>True
 |x::r=>(∀y∈r,x<y)/\J6 r
def UK :∀{l:η},J6 l->J6 (mK l a)
 |[],_=>by simp[mK,J6]
 |x::r,h=>by
  rw[mK];split
  .rename_i A;refine ⟨λy q=>?_,UK h.2⟩;rcases LJ.1 q with rfl|q
   .exact A
   .exact h.1 y q
  .split
   .exact h
   .rename_i h1 h2;refine ⟨λy q=>?_,h⟩;rcases bk.1 q with rfl|q
    .omega
    .have:=h.1 y q;omega
def ajo (l:η) (n:Int) (hl:l! l<=1000000):xW (l,n)=Z (mK l n):=by
 refine bT ?_;unfold xW bV bX bI be c7 aI cL;have fin:∀i:Nat,i<=l! l->(∀k,k<i->l.getD k 0<n)->(i<l! l->¬l.getD i 0<n/\l.getD i 0≠n)->l.take i++[n]++l.drop i=mK l n:=λi hi I N=>by
  rw[Hu n i l hi I];cases hd:l.drop i with
  |nil=>simp[mK]
  |cons y r=>
   have hlt:i<l! l:=by grind
   have A:l.getD i 0=y:=by
    rw[aA,<-List.head?_drop,hd];rfl
   let⟨h1,h2⟩:=N hlt;rw[A]at h1 h2;rw[mK,ay h1,ay h2];simp
 refine bC (l! l) (λi x=>x=(i:Int)/\∀k,k<i->l.getD k 0<n) ?_ ?_ ⟨rfl,λk I=>by omega⟩
 .rintro i x hi ⟨rfl,q⟩;by_cases hlt:l.getD i 0<n
  .with_reducible repeat' first|apply OS.ok;constructor|refine IM.mk λ_=>?_
   all_goals try simp only[al,sB] at*
   all_goals first|omega|skip
   .refine ⟨fH,λk I=>?_⟩
    grind
   next h=>exact bc hlt (gG.2 h)
  .have key:l.getD i 0=n->mK l n=l:=λhe=>by
    rw[Hu n i l (by omega) q];cases hd:l.drop i with
    |nil=>have:=gW ah hd;simp at this;omega
    |cons y r=>
     have A:l.getD i 0=y:=by rw[aA,<-List.head?_drop,hd];rfl
     rw[A]at he;rw[mK,ay (by omega),aK he,<-hd,oK]
   with_reducible repeat' first|apply OS.ok;constructor|refine IM.mk λ_=>?_
   all_goals try simp only[al,sB] at*
   all_goals first|omega|skip
   next h=>exact bc h hlt
   .refine au (P:=λr=>r=mK l n) ?_ λr D=>aj D
    with_reducible repeat' first|apply OS.ok;constructor|refine IM.mk λ_=>?_
    all_goals try simp only[al,sB] at*
    all_goals first|omega|skip
    next h=>exact (key h).symm
    .simp;omega
    .simp;omega
    .simp;omega
    next h=>simpa using fin i (by omega) q (λ_=>⟨hlt,h⟩)
 .rintro x ⟨rfl,q⟩;with_reducible repeat' first|apply OS.ok;constructor|refine IM.mk λ_=>?_
  all_goals try simp only[al,sB] at*
  all_goals first|omega|skip
  refine au (P:=λr=>r=mK l n) ?_ λr D=>aj D
  with_reducible repeat' first|apply OS.ok;constructor|refine IM.mk λ_=>?_
  all_goals try simp only[al,sB] at*
  all_goals first|omega|skip
  .simp;omega
  .simp;omega
  .simp;omega
  .simpa using fin (l! l) (by omega) q (λh=>by omega)
def za (a b:η):η:=b.foldl mK (a.foldl mK [])
def yf:∀(b acc:η),l! (b.foldl mK acc)<=l! acc+l! b
 |[],acc=>by simp
 |x::r,acc=>by
  have:=yf r (mK acc x);have:=IP x acc;rw[dz,fX];omega
def MU:∀{b acc:η},J6 acc->J6 (b.foldl mK acc)
 |[],_,h=>h
 |x::r,acc,h=>by rw[dz];exact MU (UK h)
def MT :∀{b acc:η},a∈b.foldl mK acc↔a∈acc\/a∈b
 |[],acc=>by simp
 |x::r,acc=>by
  rw[dz,MT,LJ]
  grind
def Uj (a b:η):J6 (za a b):=MU (MU trivial)
variable {c:η}
def Ly {b:η} {y:Int}:y∈za c b↔y∈c\/y∈b:=by unfold za;rw[MT,MT];simp
def afi (a b:η):l! (za a b)<=l! a+l! b:=by
 have:=yf b (a.foldl mK []);have:=yf a [];unfold za;simp at *;omega
def QF {acc:η} (hi:i<l! c):(c.take (i+1)).foldl mK acc=mK ((c.take i).foldl mK acc) (c.getD i 0):=by
 rw[pV hi,dD,aA,aL hi];rfl
def Xx (a b:η) (I:l! a<=400000) (D:l! b<=400000):vJ (a,b)=Z (za a b):=by
 refine bT ?_;refine bC (l! a) (λi x=>x.2=(i:Int)/\x.1=(a.take i).foldl mK []) ?_ ?_ ⟨rfl,rfl⟩
 .rintro i ⟨x1,x2⟩ hi ⟨h1,h2⟩;subst h1 h2;have q:l! ((a.take i).foldl mK [])<=1000000:=by have:=yf (a.take i) [];simp at *;omega
  with_reducible repeat' first|apply OS.ok;constructor|refine IM.mk λ_=>?_
  all_goals try simp[al,sB] at*
  all_goals first|omega|skip
  refine aU (ajo _ _ q) (aj ?_);refine ⟨fH,?_⟩;rw[S1,QF hi]
 .rintro⟨x1,x2⟩ ⟨h1,h2⟩;subst h1 h2;rw[cH];have hla:=yf a [];with_reducible repeat' first|apply OS.ok;constructor|refine IM.mk λ_=>?_
  all_goals try simp[al,sB] at*
  all_goals first|omega|skip
  refine au (P:=λr=>r=za a b) ?_ λr A=>aj A
  refine bC (l! b) (λi x=>x.2=(i:Int)/\x.1=(b.take i).foldl mK (a.foldl mK [])) ?_ ?_ ⟨rfl,rfl⟩
  .rintro i ⟨x1,x2⟩ hi ⟨h1,h2⟩;subst h1 h2;have q:l! ((b.take i).foldl mK (a.foldl mK []))<=1000000:=by have:=yf (b.take i) (a.foldl mK []);simp at *;omega
   with_reducible repeat' first|apply OS.ok;constructor|refine IM.mk λ_=>?_
   all_goals first|omega|skip
   refine aU (ajo _ _ q) (aj ?_);refine ⟨fH,?_⟩;rw[S1,QF hi]
  .rintro⟨x1,x2⟩ ⟨h1,h2⟩;subst h1 h2;rw[cH];with_reducible repeat' first|apply OS.ok;constructor|refine IM.mk λ_=>?_
   all_goals first|omega|rfl
def P9 (c:Int) (x:i?):Bool:=decide (x.1=3)&&decide (x.2.1=c)
def wl (th:Y i?) (c:Int):Nat->η
 |0=>[]
 |i+1=>if P9 c (aw gU th (i:Int)) then wl th c i++[(i:Int)] else wl th c i
def ux (th:Y i?) (c:Int):∀i,l! (wl th c i)<=i
 |0=>bi _
 |i+1=>by have:=ux th c i;rw[wl];split<;>simp<;>omega
def vz {th:Y i?} {c u:Int}:∀{i:Nat},u∈wl th c i↔0<=u/\u<i/\P9 c (aw gU th u)=J
 |0=>by simp[wl];omega
 |i+1=>by
  have q:= @vz th c u i;rw[wl]
  grind
variable {Q:Y (Int×Int×Bool)}
def au2 (h1:(aw gU Q (i:Int)).1=3) (h2:(aw gU Q (i:Int)).2.1=a):wl Q a (i+1)=wl Q a i++[(i:Int)]:=by
 rw[wl,aK];unfold P9;rw[h1,h2];simp
def aok (h1:¬(aw gU Q (i:Int)).1=3):wl Q a (i+1)=wl Q a i:=by
 rw[wl,ay];unfold P9;rw[bp h1];simp
def aoj (h1:¬(aw gU Q (i:Int)).2.1=a):wl Q a (i+1)=wl Q a i:=by
 rw[wl,ay];unfold P9;rw[bp h1];simp
def Oc (s:SY) (c:Int) (q:l! s.2.2.2<=1000):oR (s,c)=Z (wl s.2.2.2 c (l! s.2.2.2)):=by
 refine bT ?_;unfold oR bY bq bV bX bI be c7 aI cL;refine bC (l! s.2.2.2) (λi x=>x=((i:Int),s,wl s.2.2.2 c i)) ?_ ?_ rfl
 .rintro i x hi rfl;have A:=ux s.2.2.2 c i;with_reducible repeat' first|apply OS.ok;constructor|refine IM.mk λ_=>?_
  all_goals try simp only[al,sB] at*
  all_goals first|omega|skip
  all_goals first|(simp;omega)|skip
  next h1 h2=>rw[au2 h1 h2,fH]
  next h1 h2=>rw[aoj h2,fH]
  next h1=>rw[aok h1,fH]
 .rintro x rfl;with_reducible repeat' first|apply OS.ok;constructor|refine IM.mk λ_=>?_
  all_goals try simp[al,sB] at*
  all_goals first|omega|rfl
def wo (l:η) (n:Int):η:=l.filter λx=> !decide (x=n)
def XT (l:η) (n:Int) (A:l! l<=1000000):rG (l,n)=Z (wo l n):=by
 refine bT ?_;unfold rG bV gV bX bI be c7 aI cL;refine bC (l! l) (λi x=>x=((i:Int),wo (l.take i) n)) ?_ ?_ rfl
 .rintro i x hi rfl;have q:l! (wo (l.take i) n)<=i:=cP (List.length_filter_le ..) (J9 ..);have ht:wo (l.take (i+1)) n=if aw aP l (i:Int)=n then wo (l.take i) n else wo (l.take i) n++[aw aP l (i:Int)]:=by
   unfold wo;rw[pV hi,List.filter_append,S1,aA,aL hi]
   grind
  with_reducible repeat' first|apply OS.ok;constructor|refine IM.mk λ_=>?_
  all_goals try simp only[al,sB] at*
  all_goals first|omega|skip
  .simp;omega
  next h=>rw[ht,ay h,fH]
  next h=>rw[ht,aK h,fH]
 .rintro x rfl;with_reducible repeat' first|apply OS.ok;constructor|refine IM.mk λ_=>?_
  all_goals try simp[al,sB] at*
  all_goals first|omega|(rw [cH])
def kA {xs:Y T.den} (hi:i<ah xs):cu (i+1) xs=cu i xs++[aw _ xs (i:Int)]:=by
 rw[pV hi,xC,aA,aL hi];rfl
def ac7 (s:SY) (q:SB i s):iV s=Z (s.2.1,s.1,s.2.2.1,s.2.2.2):=by
 refine bT ?_;let⟨A,N,I,D⟩:=s;have hn:=q.n1;have g1:=q.lk;have g2:=q.dn;have g3:=q.th;dsimp only at g1 g2 g3;unfold iV bg bA bQ bY dv bV bX bI be c7 aI cL;with_reducible repeat' first|apply OS.ok;constructor|refine IM.mk λ_=>?_
 .simp;omega
 .omega
 .simp;omega
 .omega
 refine bC (l! A) (λn x=>x=((n:Int),(A,N,I,D),0,N,A.take n,I,D)) ?_ ?_ ?_
 .rintro n x hi rfl;have hg:=q.rd _ (ba (T:=dy) (xs:=A) (j:=(n:Int)) (by omega) (by omega));with_reducible repeat' first|apply OS.ok;constructor|refine IM.mk λ_=>?_
  all_goals try simp only[al,sB] at*
  all_goals first|omega|skip
  .simp;omega
  .simp;omega
  .rw[fH,kA (T:=dy) hi];rfl
 .rintro x rfl;with_reducible repeat' first|apply OS.ok;constructor|refine IM.mk λ_=>?_
  all_goals try simp only[al,sB] at*
  all_goals first|omega|skip
  simp
 .simp
def J2 (s:SY) (c:Int) (A:l! s.2.2.2<=1000):lR ((s.2.1,c),s.1,s.2.2.1,s.2.2.2)=Z (wl s.2.2.2 c (l! s.2.2.2)):=by
 refine bT ?_;refine au (P:=λy=>y=(wl s.2.2.2 c (l! s.2.2.2),s.1,s.2.2.1,s.2.2.2)) ?_ λy q=>by subst q;exact ala rfl (aj rfl)
 unfold m6 bg bA bQ bY dv bq bV bX mn be c7 aI cL;refine bC (l! s.2.2.2) (λi x=>x=((i:Int),s.1,s.2.2.1,s.2.2.2,s.2.1,wl s.2.2.2 c i)) ?_ ?_ rfl
 .rintro i x hi rfl;have D:=ux s.2.2.2 c i;with_reducible repeat' first|apply OS.ok;constructor|refine IM.mk λ_=>?_
  all_goals try simp only[al,sB] at*
  all_goals first|omega|skip
  all_goals first|(simp;omega)|skip
  next h1 h2=>rw[au2 h1 h2,fH]
  next h1 h2=>rw[aoj h2,fH]
  next h1=>rw[aok h1,fH]
 .rintro x rfl;with_reducible repeat' first|apply OS.ok;constructor|refine IM.mk λ_=>?_
  all_goals try simp[al,sB] at*
  all_goals first|omega|rfl
structure AP (n:Nat) (s y:SY):Prop where
 a1:l! y.1=l! s.1
 a2:l! y.2.2.1=l! s.2.2.1
 a3:l! y.2.2.2=l! s.2.2.2
 rd:∀l∈y.1,l! l.2<=n+1
def AP.toSB {s y:SY} (h:AP i s y) (q:SB i s) (A:i+1<=100000):SB (i+1) y:=
 ⟨A,by rw[h.a1];exact q.lk,h.rd,by rw[h.a2];exact q.dn,by rw[h.a3];exact q.th⟩
def AP.same {s:SY} (q:SB i s) (x:Int) (d:θ) (t:Y i?) (hd:l! d=l! s.2.2.1) (ht:l! t=l! s.2.2.2):AP i s (s.1,x,d,t):=
 ⟨rfl,hd,ht,λl A=>g9 (q.rd l A)⟩
def AP.set {s:SY} (q:SB i s) (j a:Int) (r:η) (A:l! r<=i+1) (x:Int) (d:θ) (t:Y i?) (hd:l! d=l! s.2.2.1) (ht:l! t=l! s.2.2.2):AP i s (ca s.1 j (a,r),x,d,t):=
 ⟨bM _ _ _,hd,ht,λl D=>by
   rcases kB D with h|rfl
   .exact g9 (q.rd l h)
   .exact A⟩
def Dx (th:Y i?) (t st:Int):Y i?:=ca th t (st,(aw gU th t).2)
def owP (q:Y g?) (o t:Int):Y g?:=ca q o (t,(aw dy q o).2)
def rdP (q:Y g?) (o:Int) (l:η):Y g?:=ca q o ((aw dy q o).1,l)
def cdP (th:Y i?) (t c:Int):Y i?:=ca th t ((aw gU th t).1,c,(aw gU th t).2.2)
def atP (th:Y i?) (t:Int) (b:Bool):Y i?:=ca th t ((aw gU th t).1,(aw gU th t).2.1,b)
def IY (th:Y i?) (l:η):Y i?:=l.foldl (λx u=>Dx x u 4) th
def Do (l:η) (u:Int):Int:=if (l! l)=0 then -1 else if l.contains u then u else aw aP l 0
def muP (w:WT) (o:Int):Int:=(aw itK w.2.2.1 o).2
abbrev U!:=SY×Int
def qD (w:WT) (s:SY) (t k o u:Int):U!:=
 if k=1 then ((s.1,s.2.1,s.2.2.1,Dx s.2.2.2 t 2),0)
 else if k=2 then ((s.1,s.2.1,s.2.2.1,Dx s.2.2.2 t 5),0)
 else if k=6\/k=10 then ((owP s.1 o t,s.2),0)
 else if k=7\/k=11 then ((owP s.1 o (-1),s.2),0)
 else if k=8 then ((rdP s.1 o (za (aw dy s.1 o).2 [t]),s.2),0)
 else if k=9 then ((rdP s.1 o (wo (aw dy s.1 o).2 t),s.2),0)
 else if k=12 then ((s.1,t,s.2.2),0)
 else if k=13 then ((s.1,-1,s.2.2),0)
 else if k=14 then ((s.1,s.2.1,s.2.2.1,atP s.2.2.2 t J),0)
 else if k=15 then ((s.1,s.2.1,s.2.2.1,atP s.2.2.2 t aa),0)
 else if k=16 then ((owP s.1 (muP w o) (-1),s.2.1,s.2.2.1,cdP (Dx s.2.2.2 t 3) t o),0)
 else if k=17 then ((owP s.1 (muP w o) t,s.2.1,s.2.2.1,cdP (Dx s.2.2.2 t 2) t 0),0)
 else if k=18 then (if (l! (wl s.2.2.2 o (l! s.2.2.2)))=0 then (s,-1) else ((s.1,s.2.1,s.2.2.1,Dx s.2.2.2 (Do (wl s.2.2.2 o (l! s.2.2.2)) u) 4),Do (wl s.2.2.2 o (l! s.2.2.2)) u))
 else if k=19 then ((s.1,s.2.1,s.2.2.1,IY s.2.2.2 (wl s.2.2.2 o (l! s.2.2.2))),(l! (wl s.2.2.2 o (l! s.2.2.2)):Int))
 else if k=20 then ((s.1,s.2.1,s.2.2.1,Dx s.2.2.2 o 1),0)
 else if k=22 then ((s.1,s.2.1,ca s.2.2.1 o J,s.2.2.2),0)
 else (s,0)
def FB (l:η):∀th,l! (IY th l)=l! th:=by
 induction l with
 |nil=>intro th;rfl
 |cons x r q=>intro th;unfold IY;rw[dz];exact (q _).trans (bM ..)
def agk (hi:i<l! c):IY Q (c.take (i+1))=Dx (IY Q (c.take i)) (aw aP c (i:Int)) 4:=by
 unfold IY;rw[pV hi,dD,S1,aA,aL hi];rfl
def G3 (u:Int) (q:¬l! c=0):Do c u∈c:=by
 unfold Do;rw[ay q];split
 next h=>exact bR.1 h
 .exact ba (T:=aP) (by omega) (by omega)
def Ov (w:WT) (s:SY) (q:SB i s) (hw:l! w.2.2.1<=1000) (t k o u:Int):Ok (qL (w,s,t,k,o,u)) λy=>(y.2.2=J->EN w s t k o/\IE w s t k o/\AP i s y.1/\(y.1,y.2.1)=qD w s t k o u)/\(y.2.2=aa->y.1=([],0,[],[]))/\(ju (w,s,t,k,o)=Z J->y.2.2=J):=by
 unfold qL bg bA bQ cS bY dt dv gz ck bq bV bI mn be c7 aI cL;obtain⟨b,N,hb⟩:=Ot w s q hw t k o;refine aU N ?_;refine dc (λh=>aj ⟨nofun,λ_=>rfl,λh2=>(by rw[N,h]at h2;cases h2)⟩) (λh=>?_);obtain⟨he,hry⟩:=hb h;refine aU (ac7 s q) ?_;suffices hmain:Ok _ _ from aW (λx=>AP i s (x.2.2.2.1,x.2.1,x.2.2.2.2)/\((x.2.2.2.1,x.2.1,x.2.2.2.2),x.1)=qD w s t k o u) hmain λx hx=>aj ⟨λ_=>⟨he,hry,hx⟩,nofun,λ_=>rfl⟩
 obtain⟨nm,t0,t1,cd,e1,e2,e3⟩:=id he;obtain⟨_,_,ce,lk,cn,th,fu⟩:=nm;have hn:=q.n1;have hlk:=q.lk;have hm:16<=k/\k<=19->0<=(aw itK w.2.2.1 o).2/\(aw itK w.2.2.1 o).2<l! w.2.1:=λh=>cd _ (ba (cn h).1 (cn h).2)
 have I:∀j:Int,0<=j->j<l! s.1->(aw dy s.1 j).2.length<=i:=λj h0 h1=>q.rd _ (ba (T:=dy) h0 h1)
 cases kdI k
 case no hk _=>omega
 all_goals simp only[ec,dA,OC]
 all_goals with_reducible repeat' first|apply OS.ok;constructor|refine IM.mk λ_=>?_
 all_goals try simp only[al,sB] at*
 all_goals try rw[bM]
 all_goals first|omega|exact (hm ⟨by decide,by decide⟩).1|exact e1▸(hm ⟨by decide,by decide⟩).2|exact⟨AP.same q _ _ _ rfl rfl,rfl⟩|exact⟨AP.same q _ _ _ rfl (bM _ _ _),rfl⟩|exact⟨AP.same q _ _ _ (bM _ _ _) rfl,rfl⟩|skip
 all_goals try exact⟨AP.set q _ _ _ (g9 (I o (by omega) (by omega))) _ _ _ rfl rfl,rfl⟩
 .have:=I o (by omega) (by omega);refine aU (Xx _ _ (cP this (by have:=q.n1;omega)) (by simp)) ?_;with_reducible repeat' first|apply OS.ok;constructor|refine IM.mk λ_=>?_
  all_goals try simp only[al,sB] at*
  all_goals first|omega|skip
  exact⟨AP.set q _ _ _ (by have:=afi (aw dy s.1 o).2 [t];simp at this;omega) _ _ _ rfl rfl,rfl⟩
 .have:=I o (by omega) (by omega);have hl:l! (wo (aw dy s.1 o).2 t)<=(aw dy s.1 o).2.length:=List.length_filter_le ..;refine aU (XT _ _ (by omega)) ?_;with_reducible repeat' first|apply OS.ok;constructor|refine IM.mk λ_=>?_
  all_goals try simp only[al,sB] at*
  all_goals first|omega|skip
  exact⟨AP.set q _ _ _ (cP hl (by omega)) _ _ _ rfl rfl,rfl⟩
 .exact⟨AP.set q _ _ _ (g9 (I _ (hm ⟨by decide,by decide⟩).1 (by rw[e1];exact (hm ⟨by decide,by decide⟩).2))) _ _ _ rfl (by rw[bM,bM]),rfl⟩
 .exact⟨AP.set q _ _ _ (g9 (I _ (hm ⟨by decide,by decide⟩).1 (by rw[e1];exact (hm ⟨by decide,by decide⟩).2))) _ _ _ rfl (by rw[bM,bM]),rfl⟩
 .refine aU (J2 s o q.th) ?_;have hth:=q.th;have hll:=ux s.2.2.2 o (l! s.2.2.2);have hml:∀u∈wl s.2.2.2 o (l! s.2.2.2),0<=u/\u<l! s.2.2.2:=λu D=>⟨(vz.1 D).1,(vz.1 D).2.1⟩
  have hap:qD w s t 18 o u=if (l! (wl s.2.2.2 o (l! s.2.2.2)))=0 then (s,-1) else ((s.1,s.2.1,s.2.2.1,Dx s.2.2.2 (Do (wl s.2.2.2 o (l! s.2.2.2)) u) 4),Do (wl s.2.2.2 o (l! s.2.2.2)) u):=rfl
  unfold Do at hap;revert hll hml hap;generalize wl s.2.2.2 o (l! s.2.2.2)=l;intro hll hml hap;with_reducible repeat' first|apply OS.ok;constructor|refine IM.mk λ_=>?_
  all_goals try simp only[al,sB] at*
  all_goals first|omega|skip
  .have A:=hml _ (ba (T:=aP) (xs:=l) (j:=0) (by omega) (by omega));rw[ay (by omega),ay (by omega)]at hap;simp only[ER l u (by omega),R_];refine aR (λhc=>?_) λhc=>?_
   .have D:=hml u (bR.1 hc);rw[hc,aK rfl]at hap;refine aj (aQ D.1 D.2 (aQ D.1 D.2 (aj ⟨AP.same q _ _ _ rfl (bM ..),?_⟩)));rw[hap];rfl
   .rw[hc,ay (by decide)]at hap;refine aj (aQ A.1 A.2 (aQ A.1 A.2 (aj ⟨AP.same q _ _ _ rfl (bM ..),?_⟩)));rw[hap];rfl
  .rw[aK (by omega)]at hap;exact⟨AP.same q _ _ _ rfl rfl,hap.symm⟩
 .refine aU (J2 s o q.th) ?_;have hth:=q.th;have hll:=ux s.2.2.2 o (l! s.2.2.2);have hml:∀u∈wl s.2.2.2 o (l! s.2.2.2),0<=u/\u<l! s.2.2.2:=λu D=>⟨(vz.1 D).1,(vz.1 D).2.1⟩
  have hap:qD w s t 19 o u=((s.1,s.2.1,s.2.2.1,IY s.2.2.2 (wl s.2.2.2 o (l! s.2.2.2))),(l! (wl s.2.2.2 o (l! s.2.2.2)):Int)):=rfl;rw[hap];clear hap;generalize wl s.2.2.2 o (l! s.2.2.2)=l at hll hml ⊢;refine bC (l! l) (λn x=>x=((n:Int),s.2.1,0,s.1,s.2.2.1,IY s.2.2.2 (l.take n))) ?_ ?_ rfl
  .rintro n x hi rfl;have A:=hml _ (ba (T:=aP) (xs:=l) (j:=(n:Int)) (by omega) (by omega));have hq:=FB (l.take n) s.2.2.2;with_reducible repeat' first|apply OS.ok;constructor|refine IM.mk λ_=>?_
   all_goals try simp only[al,sB] at*
   all_goals first|omega|skip
   rw[fH,agk hi];rfl
  .rintro x rfl;rw[cH];with_reducible repeat' first|apply OS.ok;constructor|refine IM.mk λ_=>?_
   all_goals try simp only[al,sB] at*
   all_goals first|omega|skip
   exact AP.same q _ _ _ rfl (FB ..)
abbrev SN:Type:=SY×η×O!
abbrev ET:Type:=Int×Int×Int×Int×Int×O!
def alv (a b:Int):FC (a,b)=Z (decide (0<=a/\a<b)):=Qy a b
structure NB (n:Nat) (s:SN):Prop where
 sb:SB n s.1
 c:l! s.2.1<=1000
 f:l! s.2.2.1<=1000
 k:l! s.2.2.2<=1000
structure SP (n:Nat) (s y:SN):Prop where
 ap:AP n s.1 y.1
 c:l! y.2.1=l! s.2.1
 f:l! y.2.2.1=l! s.2.2.1
 k:l! y.2.2.2=l! s.2.2.2
def SP.NB {s y:SN} (h:SP i s y) (q:NB i s) (A:i+1<=100000):NB (i+1) y:=
 ⟨h.ap.toSB q.sb A,by rw[h.c];exact q.c,by rw[h.f];exact q.f,by rw[h.k];exact q.k⟩
def sn0:SN:=(([],0,[],[]),[],[],[])
structure F16 (w:WT) (s:SN):Prop where
 c:l! s.2.1=l! w.1
 f:l! s.2.2.1=l! w.2.2.2.1
 k:l! s.2.2.2=l! w.2.2.2.2.1
def aew (w:WT) (s:SN) (q:l! w.2.2.1<=1000):Ok (vo (w,s)) λb=>b=J->F16 w s:=by
 unfold vo bg bA bQ dt bq be aI;refine gK (au (T9 w s.1 (by omega)) λb A=>?_);with_reducible repeat' first|apply OS.ok;constructor|refine IM.mk λ_=>?_
 all_goals try simp[al,sB] at*
 all_goals first|(intro h;constructor<;>omega)|(intro h;cases h;done)
def abq:∀(l:η),(∀k:Nat,k+1<l! l->l.getD k 0<l.getD (k+1) 0)->J6 l
 |[],_=>trivial
 |[x],_=>⟨λy D=>(by cases D),trivial⟩
 |x::y::r,h=>by
  have A:=abq (y::r) λk I=>by have:=h (k+1) (by grind);simpa using this
  have h0:=h 0 (by simp);simp at h0;refine ⟨λz q=>?_,A⟩;rcases bk.1 q with rfl|q
  .exact h0
  .have:=A.1 z q;omega
structure AN (c:Int) (l:η):Prop where
 a:J6 l
 m:∀x:Int,x∈l->1<=x/\x<c
def C3:∀(l:η) (q hi:Int),J6 l->(∀y∈l,q<=y/\y<hi)->(l! l:Int)<=max 0 (hi-q)
 |[],q,hi,_,_=>by simp;omega
 |x::r,q,hi,h,hm=>by
  have h1:=hm x (cj ..);have h2:=C3 r (x+1) hi h.2 λy A=>⟨by have:=h.1 y A;omega,(hm y (bP _ A)).2⟩
  grind
def AN.len {l:η} (h:AN a l):(l! l:Int)<=max 0 a:=by
 have:=C3 l 1 a h.a h.m;omega
def aqw {l:Int} (q:∀k:Nat,k<i->1<=aw aP c (k:Int)/\aw aP c (k:Int)<l) (I:∀k:Nat,k+1<i->c.getD k 0<c.getD (k+1) 0):(i:Int)<=max 0 l:=by
 have key:∀k:Nat,k<i->(k:Int)+1<=c.getD k 0:=by
  intro k;induction k with
  |zero=>intro A;have:=(q 0 A).1;exact this
  |succ k D=>grind
 rcases Nat.eq_zero_or_pos i with z|z
 .omega
 .have h1:=key (i-1) (by omega);have h2:=(q (i-1) (by omega)).2;rw[S1]at h2
  grind
def LY (l:η) (c:Int) (hl:l! l<=1000000000\/c<=1000000000):Ok (oO (l,c)) λb=>b=J->AN c l:=by
 refine bC (l! l) (λi x=>x=(i:Int)/\(∀k:Nat,k<i->1<=aw aP l (k:Int)/\aw aP l (k:Int)<c)/\∀k:Nat,k+1<i->l.getD k 0<l.getD (k+1) 0) ?_ ?_ ⟨rfl,λk q=>by omega,λk q=>by omega⟩
 .rintro i x hi ⟨rfl,A,D⟩;have hbd:i<=1000000000:=by
   have:=aqw A D;omega
  have I:0<(i:Int)->aT .i64 ((i:Int)-1)=((i-1:Nat):Int):=λh=>by rw[fh];omega
  have N:(0<i->l.getD (i-1) 0<l.getD i 0)->1<=aw aP l (i:Int)/\aw aP l (i:Int)<c->aT .i64 ((i:Int)+1)=((i+1:Nat):Int)/\(∀k:Nat,k<i+1->1<=aw aP l (k:Int)/\aw aP l (k:Int)<c)/\∀k:Nat,k+1<i+1->l.getD k 0<l.getD (k+1) 0:=λg1 g2=>by
   refine ⟨fH,λk q=>?_,λk q=>?_⟩
   .grind
   .grind
  with_reducible repeat' first|apply OS.ok;constructor|refine IM.mk λ_=>?_
  all_goals try simp only[al,sB] at*
  all_goals first|omega|(intro h;cases h;done)|(rw [I (by omega)];omega)|skip
  .rename_i h1 h2 h3 h4;rw[I h3,S1,S1]at h4
   grind
  .grind
 .rintro x ⟨rfl,A,D⟩;with_reducible repeat' first|apply OS.ok;constructor|refine IM.mk λ_=>?_
  all_goals try simp only[al,sB] at*
  all_goals first|omega|skip
  exact⟨abq l λk q=>D k q,fI (T:=aP) A⟩
structure VA (w:WT) (sy:SY) (ce fu:η) (t k o v:Int):Prop where
 ld:k=3->v=aw aP ce o
 gt:k=23->v=aw aP fu o
 br:k=5->v=0\/v=1
 el:¬k=3->¬k=23->¬k=5->¬k=4->¬k=22->v=(qD w sy t k o v).2
def ite2 {c:Prop} [Decidable c] {a b:U!} (A:a.2=0) (q:b.2=0):(if c then a else b).2=0:=by by_cases h:c<;>simp[h,A,q]
def aj5 (w:WT) (sy:SY) (t k o u:Int) (h1:¬k=18) (h2:¬k=19):(qD w sy t k o u).2=0:=by
 unfold qD;rw[ay h1,ay h2];repeat (first|exact rfl|refine ite2 rfl ?_)
def Rm (w:WT) (sy:SY) (t k o u q:Int) (h1:¬k=18):qD w sy t k o u=qD w sy t k o q:=by
 unfold qD;rw[ay h1,ay h1]
def Iz (w:WT) (sy:SY) (t o u:Int):qD w sy t 18 o u=if (l! (wl sy.2.2.2 o (l! sy.2.2.2)))=0 then (sy,-1) else ((sy.1,sy.2.1,sy.2.2.1,Dx sy.2.2.2 (Do (wl sy.2.2.2 o (l! sy.2.2.2)) u) 4),Do (wl sy.2.2.2 o (l! sy.2.2.2)) u):=rfl
def aj6 (w:WT) (sy:SY) (t o u:Int):(qD w sy t 19 o u).2=(l! (wl sy.2.2.2 o (l! sy.2.2.2)):Int):=rfl
def aff (w:WT) (s:SN) (hs:NB i s) (hf:F16 w s) (e:ET) (he:EN w s.1 e.1 e.2.1 e.2.2.1):Ok (vG (s,e)) λb=>b=J->VA w s.1 s.2.1 s.2.2.1 e.1 e.2.1 e.2.2.1 e.2.2.2.1:=by
 let⟨t,k,o,v,si,de,fr⟩:=e;let⟨q,s2,s3,s4⟩:=s;let⟨nm,t0,t1,cd,e1,e2,e3⟩:=he;let⟨_,_,ce,lk,cn,th,fu,_,_,_⟩:=nm;let⟨f1,f2,f3⟩:=hf;have hth:=hs.sb.th;dsimp only at*
 have hW:=Oc q o hth;have hWl:=ux q.2.2.2 o (l! q.2.2.2);refine aG (λh=>?_) λn3=>?_
 .have h:k=3:=h;let⟨N,c1⟩:=ce (.inl h);exact aQ N (by grind) (aS (aj λh2=>⟨λ_=>aZ h2,λh3=>by omega,λh3=>by omega,λh3=>(h3 h).elim⟩))
 refine aG (λh=>?_) λA=>?_
 .have h:k=23:=h;let⟨N,c1⟩:=fu (.inr h);exact aQ N (by grind) (aS (aj λh2=>⟨λh3=>by omega,λ_=>aZ h2,λh3=>by omega,λ_ h3=>(h3 h).elim⟩))
 refine aG (λh=>?_) λn5=>?_
 .have h:k=5:=h;exact gK (aG (λh2=>aj (aj λ_=>⟨λh3=>by omega,λh3=>by omega,λ_=>.inl h2,λ_ _ h3=>(h3 h).elim⟩)) λ_=>aj (aj λh2=>⟨λh3=>by omega,λh3=>by omega,λ_=>.inr (aZ h2),λ_ _ h3=>(h3 h).elim⟩))
 refine aW (λx=>x.2=((q,s2,s3,s4),t,k,o,v,si,de,fr)/\(x.1=J->k=4\/k=22)) (aG (λh=>aj ⟨rfl,λ_=>.inl h⟩) λ_=>aj ⟨rfl,λh=>.inr (aZ h)⟩) ?_;rintro⟨b,x⟩ ⟨e,hb⟩;subst e;refine aR (λh=>aj λ_=>⟨λh3=>(n3 h3).elim,λh3=>(A h3).elim,λh3=>(n5 h3).elim,λ_ _ _ h4 h5=>(hb h).elim (λh=>(h4 h).elim) λh=>(h5 h).elim⟩) λ_=>?_
 have fin:v=(qD w q t k o v).2->VA w q s2 s3 t k o v:=λh=>⟨λh3=>(n3 h3).elim,λh3=>(A h3).elim,λh3=>(n5 h3).elim,λ_ _ _ _ _=>h⟩
 refine aG (λh=>?_) λI=>?_
 .have h:k=18:=h;subst h;rw[Iz]at fin;refine aU hW ?_;revert fin hWl;generalize wl q.2.2.2 o (l! q.2.2.2)=l;intro hWl fin;refine aG (λh=>aj λh2=>fin ?_) λh=>?_
  .grind
  .dsimp [al]at h;have hne:¬l! l=0:=by omega
   refine gK (dB (λ_=>bG (λ_=>?_) λ_=>aj (aj nofun)) λ_=>aj (aj nofun));refine aU (ER _ _ (by omega)) (aj (aj λh2=>fin ?_));rw[ay hne];unfold Do;rw[ay hne,aK h2]
 refine aG (λh=>?_) λD=>?_
 .have h:k=19:=h;subst h;exact aU hW (aj λh2=>fin (aZ h2))
 exact aj λh2=>fin (by rw[aj5 _ _ _ _ _ _ I D];exact aZ h2)
structure S16 (w:WT) (s:SN) (e:ET):Prop where
 rd:IE w s.1 e.1 e.2.1 e.2.2.1
 s1:e.2.1=1\/e.2.1=2->e.2.2.2.2.1= -1
 s2:¬(e.2.1=1\/e.2.1=2)->0<=e.2.2.2.2.1/\e.2.2.2.2.1<l! w.2.2.2.2.2/\(aw pS w.2.2.2.2.2 e.2.2.2.2.1).1=e.1
 de:0<l! e.2.2.2.2.2.1->e.2.1=5\/(e.2.1=3\/e.2.1=4)/\¬(aw mb w.1 e.2.2.1).2.2.1=0
 fr:0<l! e.2.2.2.2.2.2->e.2.1=4\/e.2.1=22
 nd:AN (aw aP s.2.2.2 e.1) e.2.2.2.2.2.1
 nf:AN (aw aP s.2.2.2 e.1) e.2.2.2.2.2.2
 va:VA w s.1 s.2.1 s.2.2.1 e.1 e.2.1 e.2.2.1 e.2.2.2.1
def Rf (q:η) (e:ET):η:=if e.2.1=4 then ca q e.2.2.1 e.2.2.2.1 else q
def S6 (q:η) (e:ET):η:=if e.2.1=22 then ca q e.2.2.1 e.2.2.2.1 else q
def Uc (w:WT) (s:SN) (e:ET):SN:=((qD w s.1 e.1 e.2.1 e.2.2.1 e.2.2.2.1).1,Rf s.2.1 e,S6 s.2.2.1 e,ca s.2.2.2 e.1 (aT .i64 (aw aP s.2.2.2 e.1+1)))
def Rq (w:WT) (s:SN) (N:NB i s) (hw:l! w.2.2.1<=1000) (e:ET) (hd:l! e.2.2.2.2.2.1<=1000000000\/(aw aP s.2.2.2 e.1:Int)<=1000000000) (hf:l! e.2.2.2.2.2.2<=1000000000\/(aw aP s.2.2.2 e.1:Int)<=1000000000):Ok (qZ (w,s,e)) λy=>(y.2=J->EN w s.1 e.1 e.2.1 e.2.2.1/\SP i s y.1/\S16 w s e/\y.1=Uc w s e)/\(y.2=aa->y.1=sn0):=by
 have D:∀{Q:SN×Bool->Prop},Q (sn0,aa)->Ok (Z (sn0,aa)) Q:=λh=>aj h
 have I:((sn0,aa).2=J->EN w s.1 e.1 e.2.1 e.2.2.1/\SP i s (sn0,aa).1/\S16 w s e/\(sn0,aa).1=Uc w s e)/\((sn0,aa).2=aa->(sn0,aa).1=sn0):=⟨nofun,λ_=>rfl⟩
 unfold qZ bg bA bQ cS ji bY dt dv gz tb ck bq bV gV bX bI mn be c7 aI cL;refine aW (λx=>x.2=(w,s,e,0)/\(x.1=aa->F16 w s/\(EN w s.1 e.1 e.2.1 e.2.2.1/\IE w s.1 e.1 e.2.1 e.2.2.1)/\ju (w,s.1,e.1,e.2.1,e.2.2.1)=Z J)) ?_ ?_
 .refine au (aew w s hw) λb hb=>?_
  with_reducible repeat' first|apply OS.ok;constructor|refine IM.mk λ_=>?_
  .exact⟨rfl,nofun⟩
  simp only[alv,R_];with_reducible repeat' first|apply OS.ok;constructor|refine IM.mk λ_=>?_
  .exact⟨rfl,nofun⟩
  .exact⟨rfl,nofun⟩
  .exact⟨rfl,nofun⟩
  let⟨c,hc0,hc⟩:=Ot w s.1 N.sb hw e.1 e.2.1 e.2.2.1;refine aU hc0 (aj ⟨rfl,λh=>?_⟩);have h:c=J:=by simpa using h
  exact⟨hb (by assumption),hc h,h▸hc0⟩
 rintro⟨x1,x2⟩ ⟨q,hx⟩;dsimp only at q hx;subst q;refine aR (λ_=>D I) λh1=>?_
 let⟨hF,⟨hE,hR⟩,hEn⟩:=hx h1;clear hx h1;refine aW (λx=>x=(w,s,e,0)/\(e.2.1=1\/e.2.1=2->e.2.2.2.2.1= -1)/\(¬(e.2.1=1\/e.2.1=2)->0<=e.2.2.2.2.1/\e.2.2.2.2.1<l! w.2.2.2.2.2/\(aw pS w.2.2.2.2.2 e.2.2.2.2.1).1=e.1)) ?_ ?_
 .refine aW (λx=>x.2=(w,s,e,0)/\(x.1=J->e.2.1=1\/e.2.1=2)/\(x.1=aa->¬(e.2.1=1\/e.2.1=2))) ?_ ?_
  .refine aG (λh=>aj ⟨rfl,λ_=>.inl h,nofun⟩) λh=>aj ⟨rfl,λh2=>.inr (aZ h2),λh2=>?_⟩
   have:=vy h2;exact λh3=>h3.elim h this
  rintro⟨x1,x2⟩ ⟨q,hy1,hy2⟩;dsimp only at q hy1 hy2;subst q;refine aR (λhk=>?_) λhk=>?_
  .exact bw (λ_=>aj I) λh=>aj ⟨rfl,λ_=>h,λh3=>(h3 (hy1 hk)).elim⟩
  .refine aW (λx=>x.2=(w,s,e,0)/\(x.1=aa->0<=e.2.2.2.2.1/\e.2.2.2.2.1<l! w.2.2.2.2.2/\(aw pS w.2.2.2.2.2 e.2.2.2.2.1).1=e.1)) ?_ ?_
   .simp only[alv,R_];refine bw (λ_=>aj ⟨rfl,nofun⟩) λh=>aQ h.1 h.2 (aS (aj ⟨rfl,λh2=>⟨h.1,h.2,?_⟩⟩))
    simpa using h2
   rintro⟨x1,x2⟩ ⟨q,D⟩;dsimp only at q D;subst q;exact aR (λ_=>aj I) λh=>aj ⟨rfl,λh3=>((hy2 hk) h3).elim,λ_=>D h⟩
 rintro x ⟨rfl,hS1,hS2⟩;let⟨nm,t0,t1,cd,e1,e2,e3⟩:=id hE;let⟨_,_,ce,lk,cn,th,fu,_,_,_⟩:=nm;let⟨f1,f2,f3⟩:=id hF;refine aW (λx=>x.2=(w,s,e,0)/\(x.1=J->e.2.1=3\/e.2.1=4)) ?_ ?_
 .with_reducible repeat' first|apply OS.ok;constructor|refine IM.mk λ_=>?_
  .exact⟨rfl,λ_=>.inl (by assumption)⟩
  .exact⟨rfl,λh=>.inr (aZ h)⟩
 rintro⟨x1,x2⟩ ⟨q,A⟩;dsimp only at q A;subst q;refine aW (λx=>x.2=(w,s,e,0)/\(x.1=aa->0<l! e.2.2.2.2.2.1->e.2.1=5\/(e.2.1=3\/e.2.1=4)/\¬(aw mb w.1 e.2.2.1).2.2.1=0)) ?_ ?_
 .refine bG (λ_=>bw (λ_=>aR (λh=>?_) λ_=>aj ⟨rfl,nofun⟩) λh5=>aj ⟨rfl,λ_ _=>.inl h5⟩) λh=>aj ⟨rfl,λ_ h2=>?_⟩
  .refine aQ (ce (A h)).1 (ce (A h)).2 (aS (aj ⟨rfl,λh2 _=>.inr ⟨A h,?_⟩⟩));simpa using h2
  .dsimp only[al]at h;omega
 rintro⟨x1,x2⟩ ⟨q,hDe⟩;dsimp only at q hDe;subst q;refine aR (λ_=>D I) λhde=>?_
 refine aW (λx=>x.2=(w,s,e,0)/\(x.1=aa->0<l! e.2.2.2.2.2.2->e.2.1=4\/e.2.1=22)) ?_ ?_
 .refine bG (λ_=>bw (λ_=>aj ⟨rfl,λh _=>.inr (by simpa using h)⟩) λh4=>aj ⟨rfl,λ_ _=>.inl h4⟩) λh=>aj ⟨rfl,λ_ h2=>?_⟩
  dsimp only[al]at h;omega
 rintro⟨x1,x2⟩ ⟨q,hFr⟩;dsimp only at q hFr;subst q;refine aR (λ_=>D I) λhfr=>?_
 have hk:=N.k;have hc:=N.c;have hfu:=N.f;refine aW (λx=>x.2=(w,s,e,0)/\(x.1=aa->AN (aw aP s.2.2.2 e.1) e.2.2.2.2.2.1/\AN (aw aP s.2.2.2 e.1) e.2.2.2.2.2.2/\VA w s.1 s.2.1 s.2.2.1 e.1 e.2.1 e.2.2.1 e.2.2.2.1)) ?_ ?_
 .have hv:=aff w s N hF e hE;refine aQ t0 (by rw[f3];exact t1) (aS (au (LY _ _ hd) λb hb=>?_));refine dc (λ_=>aj ⟨rfl,nofun⟩) λb1=>?_
  refine aQ t0 (by rw[f3];exact t1) (aS (au (LY _ _ hf) λb hb2=>?_));refine dc (λ_=>aj ⟨rfl,nofun⟩) λb2=>?_
  exact au hv λb hb3=>aj ⟨rfl,λh=>⟨hb b1,hb2 b2,hb3 (by simpa using h)⟩⟩
 rintro⟨x1,x2⟩ ⟨q,hNum⟩;dsimp only at q hNum;subst q;refine aR (λ_=>D I) λhnu=>?_
 let⟨hN1,hN2,hVA⟩:=hNum hnu;have hS:S16 w s e:=⟨hR,hS1,hS2,hDe hde,hFr hfr,hN1,hN2,hVA⟩
 refine a! (a! (a! ?_));refine aW (λx=>x.2=(w,s,e,0,0,s.2.1,s.2.2.1,s.2.2.2)/\qD w s.1 e.1 e.2.1 e.2.2.1 x.1=qD w s.1 e.1 e.2.1 e.2.2.1 e.2.2.2.1) ?_ ?_
 .exact aG (λ_=>aj ⟨rfl,rfl⟩) λh=>aj ⟨rfl,Rm _ _ _ _ _ _ _ h⟩
 rintro⟨x1,x2⟩ ⟨q,hxu⟩;dsimp only at q hxu;subst q;refine au (Ov w s.1 N.sb hw e.1 e.2.1 e.2.2.1 x1) λy hy=>?_
 let⟨_,_,hap,hyq⟩:=hy.1 (hy.2.2 hEn);rw[hxu]at hyq;refine aW (λx=>x.1=e/\x.2.2.1=y.1/\x.2.2.2.1=Rf s.2.1 e/\x.2.2.2.2=(s.2.2.1,s.2.2.2)) ?_ ?_
 .unfold Rf;refine aG (λh=>?_) λh=>aj ⟨rfl,rfl,(ay h).symm,rfl⟩
  have hc4:=ce (.inr h);with_reducible repeat' first|apply OS.ok;constructor|refine IM.mk λ_=>?_
  all_goals try simp only[al,sB] at*
  all_goals first|omega|exact (aK h).symm
 rintro⟨x1,x2,x3,x4,x5,x6⟩ ⟨h1,h2,h3,h4⟩;simp only[aV]at h1 h2 h3 h4;obtain⟨rfl,rfl⟩:=h4;subst h1 h2 h3;refine aW (λx=>x.1=x1/\x.2.2.1=y.1/\x.2.2.2.1=Rf s.2.1 x1/\x.2.2.2.2.1=S6 s.2.2.1 x1/\x.2.2.2.2.2=s.2.2.2) ?_ ?_
 .unfold S6;refine aG (λh=>?_) λh=>aj ⟨rfl,rfl,rfl,(ay h).symm,rfl⟩
  have hc4:=fu (.inl h);with_reducible repeat' first|apply OS.ok;constructor|refine IM.mk λ_=>?_
  all_goals try simp only[al,sB] at*
  all_goals first|omega|exact (aK h).symm
 rintro⟨x1,x2,x3,x4,x5,x6⟩ ⟨h1,h2,h4,h5,h6⟩;simp only at h1 h2 h4 h5 h6;subst h1 h2 h4 h5 h6;have l1:l! (Rf s.2.1 x1)=l! s.2.1:=by unfold Rf;split<;>simp[bM]
 have l2:l! (S6 s.2.2.1 x1)=l! s.2.2.1:=by unfold S6;split<;>simp[bM]
 with_reducible repeat' first|apply OS.ok;constructor|refine IM.mk λ_=>?_
 all_goals try simp only[al,sB] at*
 all_goals first|omega|skip
 exact⟨⟨hE,⟨hap,l1,l2,by rw[bM]⟩,hS,by unfold Uc;rw[<- hyq]⟩,nofun⟩
def XG:Ok (ly ()) λl=>l! l=22:=by
 unfold ly;with_reducible repeat' first|apply OS.ok;constructor|refine IM.mk λ_=>?_
 all_goals rfl
def T7 (s:ζ):Ok (lT s) λ_=>True:=by
 refine au XG λl q=>?_
 refine bC (l! l) (λi x=>x=(i:Int)) ?_ ?_ rfl
 .rintro i x hi rfl;with_reducible repeat' first|apply OS.ok;constructor|refine IM.mk λ_=>?_
  all_goals try simp[al,sB] at*
  all_goals first|omega|exact fH
 .rintro x rfl;with_reducible repeat' first|apply OS.ok;constructor|refine IM.mk λ_=>?_
  all_goals try simp[al,sB] at*
  all_goals omega
def Rs (c:Int):Ok (mg c) λ_=>True:=by
 unfold mg jr aI;with_reducible repeat' first|apply OS.ok;constructor|refine IM.mk λ_=>?_
 all_goals exact trivial
def ah8 (c:Int):Ok (qQ c) λ_=>True:=by
 unfold qQ sU jr aI;refine gK (au (Rs c) λ_ _=>?_);with_reducible repeat' first|apply OS.ok;constructor|refine IM.mk λ_=>?_
 all_goals try exact trivial
 refine au (P:=λ_=>True) ?_ λ_ _=>?_
 .with_reducible repeat' first|apply OS.ok;constructor|refine IM.mk λ_=>?_
  all_goals exact trivial
 .with_reducible repeat' first|apply OS.ok;constructor|refine IM.mk λ_=>?_
  all_goals exact trivial
def i_ (s:ζ):Ok (fS s) λ_=>True:=by
 refine aW (λb=>b=aa->l! s<=12) ?_ ?_
 .with_reducible repeat' first|apply OS.ok;constructor|refine IM.mk λ_=>?_
  .grind
  .grind
  .omega
  .grind
  refine au (Rs _) λ_ _=>?_
  with_reducible repeat' first|apply OS.ok;constructor|refine IM.mk λ_=>?_
  .grind
  refine au (T7 _) λ_ _=>aj λ_=>?_
  grind
 .rintro b q;refine aR (λ_=>aj trivial) λh=>?_
  have q:=q h;refine bC (l! s) (λi x=>x=(i:Int)) ?_ ?_ rfl
  .rintro i x hi rfl;with_reducible repeat' first|apply OS.ok;constructor|refine IM.mk λ_=>?_
   all_goals try simp[al,sB] at*
   all_goals first|omega|skip
   refine au (ah8 _) λ_ _=>?_
   with_reducible repeat' first|apply OS.ok;constructor|refine IM.mk λ_=>?_
   .exact trivial
   .exact fH
  .rintro x rfl;with_reducible repeat' first|apply OS.ok;constructor|refine IM.mk λ_=>?_
   all_goals try simp[al,sB] at*
   all_goals first|omega|exact trivial
def AU (l:Y ζ) (s:ζ) (D:l! l<=1000000000):Ok (ki (l,s)) λr=> -1<=r/\r<l! l/\(0<=r->aw (.str) l r=s)/\(r<0->s∉l):=by
 refine bC (l! l) (λi x=>x=(i:Int)/\∀k:Nat,k<i->aw (.str) l (k:Int)≠s) ?_ ?_ ⟨rfl,λk A=>by omega⟩
 .rintro i x hi ⟨rfl,q⟩;with_reducible repeat' first|apply OS.ok;constructor|refine IM.mk λ_=>?_
  all_goals try simp[al,sB] at*
  all_goals first|omega|skip
  .grind
  .refine ⟨fH,λk A=>?_⟩
   grind
 .rintro x ⟨rfl,q⟩;with_reducible repeat' first|apply OS.ok;constructor|refine IM.mk λ_=>?_
  all_goals try simp only[al,sB] at*
  all_goals first|omega|skip
  exact⟨by omega,by omega,λh=>by omega,λ_ h=>fI (T:=.str) (p:=λc=>c≠s) q s h rfl⟩
structure VL (w:WT):Prop where
 c:l! w.1<=12
 l:l! w.2.1<=4
 d:l! w.2.2.1<=2
 f:l! w.2.2.2.1<=2
 t0:1<=l! w.2.2.2.2.1
 t:l! w.2.2.2.2.1<=4
 s:l! w.2.2.2.2.2<=60
def agh (w:WT) (h:VL w):Ok (qM w) λy=>l! y.1<=100:=by
 let⟨w1,w2,w3,w4,D,A⟩:=w;let⟨h1,h2,h3,h4,_,h5,h6⟩:=h;dsimp only at*
 unfold qM bg bA bQ cS dt tb bq bV gV bX bI be c7 aI cL;refine wK (λx=>((l! w1:Int)-x.1).toNat) (λx=>x.2.1=(w1,w2,w3,w4,D,A)/\0<=x.1/\x.1<=(l! w1:Int)/\(l! x.2.2:Int)<=x.1) ?_ ⟨rfl,by simp,by simp,by simp⟩;rintro⟨x1,x2,x3⟩ ⟨e,g1,g2,g3⟩;dsimp only at e g1 g2 g3;subst e;refine bG (λI=>?_) λI=>?_
 .dsimp only[al]at I;refine aW (λx=>x.2.1=(w1,w2,w3,w4,D,A)/\x1<x.1/\x.1<=(l! w1:Int)/\(l! x.2.2:Int)<=x.1) ?_ ?_
  .refine bK (aS (a! ?_));refine aG (λ_=>?_) λ_=>?_
   .with_reducible repeat' first|apply OS.ok;constructor|refine IM.mk λ_=>?_
    .exact dU _
    .rw[fh];exact⟨rfl,by dsimp only;omega,by dsimp only;omega,by simp;omega⟩
   .generalize hz:aw _ _ x1=z;obtain⟨N,(z2:Int),(q:Int),z4,z5⟩:=z;dsimp only;refine aW (λx=>x.2=((w1,w2,w3,w4,D,A),x3++[N],N,z2,q,z4,z5)/\(x.1=aa->1<=q/\q<=4/\x1+q<=l! w1)) ?_ ?_
    .with_reducible repeat' first|apply OS.ok;constructor|refine IM.mk λ_=>?_
     .exact⟨rfl,nofun⟩
     .exact⟨rfl,nofun⟩
     .refine ⟨rfl,λh=>?_⟩;dsimp only[al] at*
      rw[fh,g8]at h;omega
    .rintro⟨b,y⟩ ⟨e,hb⟩;dsimp only at e hb;subst e;refine aR (λ_=>aj (dU _)) λh=>?_
     let⟨q1,q2,q3⟩:=hb h;refine wK (λx=>(q-x.1).toNat) (λx=>x.2=((w1,w2,w3,w4,D,A),x3++[N],N,z2,q,z4,z5)/\0<=x.1/\x.1<=q) ?_ ⟨rfl,by simp,by dsimp only;omega⟩;rintro⟨k,y⟩ ⟨e,k0,k1⟩;dsimp only at e k0 k1;subst e;refine bG (λk2=>?_) λk2=>?_
     .dsimp only at k2;have e1:aT .i64 (x1+k)=x1+k:=fh;refine aQ (by dsimp only;rw[e1];omega) (by dsimp only;rw[e1];omega) (aS ?_);refine aW (λx=>x.2=((w1,w2,w3,w4,D,A),x3++[N],N,z2,q,z4,z5)) ?_ ?_
      .with_reducible repeat' first|apply OS.ok;constructor|refine IM.mk λ_=>?_
       all_goals rfl
      .rintro⟨b,y⟩ e;dsimp only at e;subst e;refine aR (λ_=>aj (dU _)) λ_=>aj ?_
       dsimp only;rw[fh];exact⟨⟨rfl,by omega,by omega⟩,by omega⟩
     .dsimp only at k2;refine aj ?_;dsimp only;rw[fh];exact⟨rfl,by omega,by omega,by simp;omega⟩
  .rintro⟨y1,y2,y3⟩ ⟨e,g5,g6,g7⟩;dsimp only at e g5 g6 g7;subst e;refine aj ⟨⟨rfl,by dsimp only;omega,g6,g7⟩,?_⟩;dsimp only;omega
 .dsimp only[al]at I;refine au (P:=λy=>l! y.1<=100) ?_ λy hy=>aj hy
  refine bC (l! w2) (λi x=>x.1=(i:Int)/\x.2.1=(w1,w2,w3,w4,D,A)/\l! x.2.2<=12+i) ?_ ?_ ⟨rfl,rfl,by dsimp only;omega⟩
  .rintro i ⟨a,b,c⟩ hi ⟨e1,e2,e3⟩;dsimp only at e1 e2 e3;subst e1 e2;with_reducible repeat' first|apply OS.ok;constructor|refine IM.mk λ_=>?_
   all_goals try simp only[al,sB] at*
   all_goals first|omega|(simp;omega)|skip
   exact⟨fH,by simp;omega⟩
  .rintro⟨a,b,c⟩ ⟨e1,e2,e3⟩;dsimp only at e1 e2 e3;subst e1 e2;refine bG (λI=>(by dsimp only[al]at I;omega)) λ_=>?_
   refine au (P:=λy=>l! y.1<=100) ?_ λy hy=>aj hy
   refine bC (l! w3) (λi x=>x.1=(i:Int)/\x.2.1=(w1,w2,w3,w4,D,A)/\l! x.2.2<=16+i) ?_ ?_ ⟨rfl,rfl,by dsimp only;omega⟩
   .rintro i ⟨a,b,c⟩ hi ⟨e1,e2,e3⟩;dsimp only at e1 e2 e3;subst e1 e2;with_reducible repeat' first|apply OS.ok;constructor|refine IM.mk λ_=>?_
    all_goals try simp only[al,sB] at*
    all_goals first|omega|(simp;omega)|skip
    exact⟨fH,by simp;omega⟩
   .rintro⟨a,b,c⟩ ⟨e1,e2,e3⟩;dsimp only at e1 e2 e3;subst e1 e2;refine bG (λI=>(by dsimp only[al]at I;omega)) λ_=>?_
    refine au (P:=λy=>l! y.1<=100) ?_ λy hy=>aj hy
    with_reducible repeat' first|apply OS.ok;constructor|refine IM.mk λ_=>?_
    all_goals try simp only[al,sB] at*
    all_goals first|omega|(simp;omega)
def ZZ (T:Int) (o:M ν) (s:π):M ν:=
 match o with
 |none=>U
 |some (t,n)=>if s.1=t/\s.2.1=n then Z (t,n+1) else if t<s.1/\s.1<T/\s.2.1=0 then Z (s.1,1) else U
def RN (T:Int) (l:Y π):M ν:=l.foldl (ZZ T) (Z (0,0))
def SV0 (w:WT):Prop:=RN (l! w.2.2.2.2.1) w.2.2.2.2.2≠U
def LD {T:Int} {l:Y π} (hi:i<l! l):RN T (l.take (i+1))=ZZ T (RN T (l.take i)) (aw pS l (i:Int)):=by
 rw[kA (T:=pS) hi];unfold RN;rw[dD];rfl
def Uu (T:Int):∀l:Y π,l.foldl (ZZ T) U=U
 |[]=>rfl
 |_::r=>Uu T r
def Z1 {l:Y π} (h:RN a l≠U) (i:Nat):RN a (l.take i)≠U:=λq=>h (by
 unfold RN at q ⊢;rw[<- oK i l,dD,q,Uu])
def aft {t n:Int} {z:π} (h:ZZ a (Z (t,n)) z≠U):ZZ a (Z (t,n)) z=Z (z.1,z.2.1+1)/\(z.1=t/\z.2.1=n\/t<z.1/\z.1<a/\z.2.1=0):=by
 unfold ZZ at h ⊢
 grind
def PU (w:WT):Ok (jZ w) λb=>b=J->VL w/\SV0 w:=by
 unfold jZ bg bA bQ cS dv gz bq bV jr gV bX bI be c7 aI cL;refine aW (λx=>x.2=w/\(x.1=aa->VL w)) ?_ ?_
 .with_reducible repeat' first|apply OS.ok;constructor|refine IM.mk λ_=>?_
  all_goals first|exact⟨rfl,λh=>(by cases h)⟩|skip
  dsimp only[al] at*
  refine ⟨rfl,λh=>?_⟩;rw[g8]at h;constructor<;>omega
 rintro⟨b,x⟩ ⟨e,hb⟩;dsimp only at e hb;subst e;refine aR (λ_=>aj λh=>(by cases h)) λh=>?_
 have hv:=hb h;refine au (agh _ hv) λy hy=>?_
 refine dc (λ_=>aj λh=>(by cases h)) λ_=>?_
 let⟨w1,w2,w3,w4,A,q⟩:=x;have h6:=hv.s;have h3:=hv.d;dsimp only at h6 h3;refine bC (l! y.1) (λi x=>x.1=(i:Int)/\x.2=(w1,w2,w3,w4,A,q)) ?_ ?_ ⟨rfl,rfl⟩
 .rintro i ⟨a,b⟩ hi ⟨e1,e2⟩;dsimp only at e1 e2;subst e1 e2;refine bG (λD=>?_) λD=>(by dsimp only[al]at D;omega)
  refine aW (λx=>x.2=(w1,w2,w3,w4,A,q)) ?_ ?_
  .refine bK (aS (au (i_ _) λ_ _=>?_));refine dc (λ_=>aj rfl) λ_=>?_
   with_reducible repeat' first|apply OS.ok;constructor|refine IM.mk λ_=>?_
   all_goals try simp only[al,sB] at*
   all_goals first|omega|skip
   refine au (AU _ _ (by simp;omega)) λ_ _=>aj rfl
  .rintro⟨a,b⟩ e;dsimp only at e;subst e;with_reducible repeat' first|apply OS.ok;constructor|refine IM.mk λ_=>?_
   .exact λh=>(by cases h)
   .dsimp only;exact⟨fH,rfl⟩
 rintro⟨a,b⟩ ⟨e1,e2⟩;dsimp only at e1 e2;subst e1 e2;refine bG (λD=>(by dsimp only[al]at D;omega)) λ_=>?_
 refine au (P:=λb=>b=J->VL (w1,w2,w3,w4,A,q)/\SV0 (w1,w2,w3,w4,A,q)) ?_ λy hy=>aj hy
 refine bC (l! w3) (λi x=>x.1=(i:Int)/\x.2=(w1,w2,w3,w4,A,q)) ?_ ?_ ⟨rfl,rfl⟩
 .rintro i ⟨a,b⟩ hi ⟨e1,e2⟩;dsimp only at e1 e2;subst e1 e2;refine bG (λD=>?_) λD=>(by dsimp only[al]at D;omega)
  refine bK (aS ?_);refine aW (λx=>x.2=(w1,w2,w3,w4,A,q)) ?_ ?_
  .with_reducible repeat' first|apply OS.ok;constructor|refine IM.mk λ_=>?_
   all_goals try simp only[al,sB] at*
   all_goals first|omega|rfl
  .rintro⟨a,b⟩ e;dsimp only at e;subst e;with_reducible repeat' first|apply OS.ok;constructor|refine IM.mk λ_=>?_
   .exact λh=>(by cases h)
   .dsimp only;exact⟨fH,rfl⟩
 rintro⟨a,b⟩ ⟨e1,e2⟩;dsimp only at e1 e2;subst e1 e2;refine bG (λD=>(by dsimp only[al]at D;omega)) λ_=>?_
 refine au (P:=λb=>b=J->VL (w1,w2,w3,w4,A,q)/\SV0 (w1,w2,w3,w4,A,q)) ?_ λy hy=>aj hy
 refine bC (l! q) (λi x=>x.1=(i:Int)/\x.2=(w1,w2,w3,w4,A,q)/\RN (l! A) (q.take i)=Z (if i=0 then (0,0) else ((aw pS q ((i-1:Nat):Int)).1,(aw pS q ((i-1:Nat):Int)).2.1+1))/\(¬i=0->(0:Int)<=(aw pS q ((i-1:Nat):Int)).2.1/\(i:Int)>(aw pS q ((i-1:Nat):Int)).2.1)) ?_ ?_ ⟨rfl,rfl,rfl,λh=>(h rfl).elim⟩
 .rintro i ⟨a,b⟩ hi ⟨e1,e2,e3,hpb⟩;dsimp only at e1 e2;subst e1 e2;have hw:¬(i:Int)=0->aT .i64 ((i:Int)-1)=((i-1:Nat):Int):=λh=>by rw[fh];omega
  have hnx:=LD (T:=l! A) hi;rw[e3]at hnx;clear e3;refine bG (λD=>?_) λD=>(by dsimp only[al]at D;omega)
  refine aW (λx=>x=(w1,w2,w3,w4,A,q)/\RN (l! A) (q.take (i+1))=Z (((aw pS q (i:Int)).1,(aw pS q (i:Int)).2.1+1))/\(0:Int)<=(aw pS q (i:Int)).2.1/\((i+1:Nat):Int)>(aw pS q (i:Int)).2.1) ?_ ?_
  .refine bK (aS ?_);rw[hnx];generalize hz:aw pS q (i:Int)=z;obtain⟨(N:Int),(z2:Int),(z3:Int)⟩:=z;dsimp only;refine aW (λx=>x.2=((w1,w2,w3,w4,A,q),N,z2,z3)/\(x.1=aa->0<=N/\N<l! A)) ?_ ?_
   .refine bG (λ_=>aj ⟨rfl,λh=>(by cases h)⟩) λg=>aj ⟨rfl,λh=>⟨g,?_⟩⟩
    rw[gq]at h;exact h
   rintro⟨c,y⟩ ⟨e,hzr⟩;dsimp only at e hzr;subst e;refine aR (λ_=>aj λh=>(by cases h)) λhzb=>?_
   let⟨z0,zT⟩:=hzr hzb;refine aW (λx=>x.2=((w1,w2,w3,w4,A,q),N,z2,z3)/\(x.1=J->i=0\/¬(aw pS q ((i-1:Nat):Int)).1=N)/\(x.1=aa->¬(i:Int)=0/\(aw pS q ((i-1:Nat):Int)).1=N)) ?_ ?_
   .refine aG (λh=>aj ⟨rfl,λ_=>.inl (by have h:((i:Nat):Int)=0:=h;omega),λh=>(by cases h)⟩) λh=>?_
    rw[hw h];refine bK (aS (aj ⟨rfl,λh2=>.inr (by simpa using h2),λh2=>⟨h,by simpa using h2⟩⟩))
   rintro⟨c,y⟩ ⟨e,hc1,hc⟩;dsimp only at e hc1 hc;subst e;refine aR (λhct=>?_) λhcf=>?_
   .refine aW (λx=>x.2=(w1,w2,w3,w4,A,q)/\(x.1=aa->z2=0/\(¬i=0->((aw pS q ((i-1:Nat):Int)).1:Int)<N))) ?_ ?_
    .refine bw (λ_=>aj ⟨rfl,λh=>(by cases h)⟩) λhz2=>?_
     refine bG (λh=>?_) λI=>aj ⟨rfl,λ_=>⟨hz2,λh=>by have I:((i:Nat):Int)<=0:=I;omega⟩⟩
     have h:(0:Int)<((i:Nat):Int):=h;rw[hw (by omega)];refine bK (aS (aj ⟨rfl,λh2=>⟨hz2,λh3=>?_⟩⟩));rw[g8]at h2;have h4:=(hc1 hct).resolve_left h3;have h2:(aw pS q ((i-1:Nat):Int)).1<=N:=h2;exact Int.lt_iff_le_and_ne.2 ⟨h2,h4⟩
    rintro⟨c,y⟩ ⟨e,hy⟩;dsimp only at e hy;subst e;refine aR (λ_=>aj λh=>(by cases h)) λh=>aj ⟨rfl,?_⟩
    let⟨q1,q2⟩:=hy h;have q1:z2=0:=q1;subst q1;refine ⟨?_,c6 0,by show _>(0:Int);omega⟩;unfold ZZ
    grind
   .obtain⟨I,hpr⟩:=hc hcf;rw[hw I];refine bK (aS ?_);refine bw (λ_=>aj λh=>(by cases h)) λh=>aj ⟨rfl,?_⟩
    let⟨b0,b1⟩:=hpb (by omega);have h:z2=aT .i64 ((aw pS q ((i-1:Nat):Int)).2.1+1):=h;rw[fh]at h;refine ⟨?_,by omega,by omega⟩;rw[ay (by omega)];unfold ZZ;dsimp only;rw[aK ⟨hpr.symm,h⟩,hpr,h]
  .rintro x ⟨rfl,hx,hx2⟩;refine aj ?_;dsimp only;refine ⟨fH,rfl,?_,λ_=>hx2⟩;rw[ay (by omega)];exact hx
 .rintro⟨a,b⟩ ⟨e1,e2,e3,_⟩;dsimp only at e1 e2;subst e1 e2;refine bG (λD=>(by dsimp only[al]at D;omega)) λ_=>?_
  rw[cH]at e3;exact aj λ_=>⟨hv,by unfold SV0;dsimp only;rw[e3];simp⟩
def nW (e:ET):Bool:=decide (e.2.1=3)||decide (e.2.1=23)
def fl (l:Y ET) (t:Int):θ:=(l.filter λe=>decide (e.1=t)).map nW
def FLG (l:Y ET) (t y:Int):Prop:=0<=y/\(fl l t).getD y.toNat aa=J
def uG (l m:Y ET) (t:Int):fl (l++m) t=fl l t++fl m t:=by unfold fl;rw[List.filter_append,b7]
def BW {e:ET} (h:e.1=a):fl [e] a=[nW e]:=by unfold fl;simp[h]
def yg {e:ET} (h:¬e.1=a):fl [e] a=[]:=by unfold fl;simp[h]
variable {L:Y ET}
def FLG.app {y:Int} (h:FLG L a y) (m:Y ET):FLG (L++m) a y:=by
 let⟨h0,h1⟩:=h;refine ⟨h0,?_⟩;rw[uG]
 grind
def FLG.lt {y:Int} (h:FLG L a y):y<l! (fl L a):=by
 let⟨h0,h1⟩:=h;rcases bF y.toNat (l! (fl L a)) with g|g
 .omega
 .rw[aA,jG g]at h1;cases h1
def FLG.last {e:ET} (h:nW e=J) (q:a=l! (fl L e.1)):FLG (L++[e]) e.1 a:=by
 subst q;refine ⟨by omega,?_⟩;rw[uG,BW rfl,aA,cB (by simp),h];simp
def VW (l:Y ET) (t:Int):l! (fl l t)<=l! l:=by unfold fl;rw[bj];exact List.length_filter_le ..
structure SCx (w:WT) (l:List ET) (sy:SY) (ce fu:η) (e:ET):Prop where
 en:EN w sy e.1 e.2.1 e.2.2.1
 rd:IE w sy e.1 e.2.1 e.2.2.1
 s1:e.2.1=1\/e.2.1=2->e.2.2.2.2.1= -1
 s2:¬(e.2.1=1\/e.2.1=2)->0<=e.2.2.2.2.1/\e.2.2.2.2.1<l! w.2.2.2.2.2/\(aw pS w.2.2.2.2.2 e.2.2.2.2.1).1=e.1
 de:0<l! e.2.2.2.2.2.1->e.2.1=5\/(e.2.1=3\/e.2.1=4)/\¬(aw mb w.1 e.2.2.1).2.2.1=0
 fr:0<l! e.2.2.2.2.2.2->e.2.1=4\/e.2.1=22
 nd:AN (l! (fl l e.1)) e.2.2.2.2.2.1
 nf:AN (l! (fl l e.1)) e.2.2.2.2.2.2
 rd1:∀y∈e.2.2.2.2.2.1,FLG l e.1 y
 rd2:∀y∈e.2.2.2.2.2.2,FLG l e.1 y
 va:VA w sy ce fu e.1 e.2.1 e.2.2.1 e.2.2.2.1
def thP:Nat->Y i?
 |0=>[]
 |n+1=>(1,0,aa)::aD n (0,0,aa)
def s0P (w:WT):SY:=(aD (l! w.2.1) (-1,[]),-1,aD (l! w.2.2.2.1) aa,thP (l! w.2.2.2.2.1))
def ce0 (w:WT):η:=w.1.map λc=>c.2.2.2.2
def fu0 (w:WT):η:=aD (l! w.2.2.2.1) 0
inductive Acw (w:WT):List ET->SY->η->η->Prop
 |nil:Acw w [] (s0P w) (ce0 w) (fu0 w)
 |snoc {l:List ET} {sy:SY} {ce fu:η} {e:ET} (h:Acw w l sy ce fu) (hs:SCx w l sy ce fu e):Acw w (l++[e]) (qD w sy e.1 e.2.1 e.2.2.1 e.2.2.2.1).1 (Rf ce e) (S6 fu e)
def afl (i:Nat):thP (i+2)=thP (i+1)++[(0,0,aa)]:=by
 show (1,0,aa)::aD (i+1) (0,0,aa)=(1,0,aa)::aD i (0,0,aa)++[(0,0,aa)]
 rw[wj,ft]
def RH:∀n,l! (thP n)=n
 |0=>rfl
 |n+1=>by simp[thP]
def ZJ (w:WT) (h:VL w):vI w=Z (s0P w):=by
 let⟨w1,w2,w3,w4,q,A⟩:=w;let⟨h1,h2,h3,h4,_,h5,h6⟩:=h;dsimp only at*
 refine bT ?_;unfold vI bg bA bQ cS dt dv gz bq bV bX be c7 aI cL;refine bC (l! w2) (λi x=>x.1=(i:Int)/\x.2.1=(w1,w2,w3,w4,q,A)/\x.2.2.2=(-1,aD i (-1,[]))) ?_ ?_ ⟨rfl,rfl,rfl⟩
 .rintro i ⟨a,b,c,d,e⟩ hi ⟨e1,e2,e3⟩;obtain⟨rfl,rfl⟩:=e3;subst e1 e2;with_reducible repeat' first|apply OS.ok;constructor|refine IM.mk λ_=>?_
  all_goals try simp[al,sB] at*
  all_goals first|omega|(simp;omega)|skip
  exact⟨fH,by rw[wj]⟩
 rintro⟨a,b,c,d,e⟩ ⟨e1,e2,e3⟩;obtain⟨rfl,rfl⟩:=e3;subst e2;refine bG (λI=>(by grind)) λ_=>?_
 refine au (P:=λs=>s=s0P (w1,w2,w3,w4,q,A)) ?_ λy D=>aj D
 refine bC (l! w4) (λi x=>x.1=(i:Int)/\x.2.1=(w1,w2,w3,w4,q,A)/\x.2.2.2=(-1,aD (l! w2) (-1,[]),aD i aa)) ?_ ?_ ⟨rfl,rfl,rfl⟩
 .rintro i ⟨a,b,c,d,e',f⟩ hi ⟨e1,e2,e3⟩;obtain⟨rfl,rfl,rfl⟩:=e3;subst e1 e2;with_reducible repeat' first|apply OS.ok;constructor|refine IM.mk λ_=>?_
  all_goals try simp[al,sB] at*
  all_goals first|omega|(simp;omega)|skip
  exact⟨fH,by rw[wj]⟩
 rintro⟨a,b,c,d,e',f⟩ ⟨e1,e2,e3⟩;obtain⟨rfl,rfl,rfl⟩:=e3;subst e2;refine bG (λI=>(by grind)) λ_=>?_
 refine au (P:=λs=>s=s0P (w1,w2,w3,w4,q,A)) ?_ λy D=>aj D
 refine bC (l! q) (λi x=>x.1=(i:Int)/\x.2.1=(w1,w2,w3,w4,q,A)/\x.2.2.2=(-1,aD (l! w2) (-1,[]),aD (l! w4) aa,thP i)) ?_ ?_ ⟨rfl,rfl,rfl⟩
 .rintro i ⟨a,b,c,d,e'',N,g⟩ hi ⟨e1,e2,e3⟩;obtain⟨rfl,rfl,rfl,rfl⟩:=e3;subst e1 e2;have hl:=RH i;refine bG (λ_=>?_) λI=>(by grind)
  refine gK (aG (λh0=>aj ?_) λh0=>aj ?_)
  .have h0:((i:Nat):Int)=0:=h0;have h0:i=0:=by omega
   subst h0;exact bu (by grind) (by omega) (aj ⟨rfl,rfl,rfl⟩)
  .have h0:¬((i:Nat):Int)=0:=h0;obtain⟨j,rfl⟩:∃j,i=j+1:=⟨i-1,by omega⟩
   refine bu (by grind) (by omega) (aj ⟨fH,rfl,?_⟩);rw[afl]
 rintro⟨a,b,c,d,e'',N,g⟩ ⟨e1,e2,e3⟩;obtain⟨rfl,rfl,rfl,rfl⟩:=e3;refine bG (λI=>(by grind)) λ_=>aj rfl
def aq9 {w:WT} (h:VL w):SB 0 (s0P w):=by
 let⟨h1,h2,h3,h4,_,D,A⟩:=h;refine ⟨by omega,by simp[s0P];omega,λl q=>?_,by simp[s0P];omega,by simp[s0P,RH];omega⟩;rw[qX q];simp
def CN (l:Y ET) (c:η):Prop:=∀t:Int,0<=t->t<l! c->aw aP c t=(l! (fl l t):Int)
def kx (xs:Y T.den) (j k:Int) (x:T.den) (D:0<=j) (q:j<l! xs) (A:0<=k):aw _ (ca xs j x) k=if k=j then x else aw _ xs k:=by
 unfold aw ca
 grind
def CN.next (h:CN L c) (e:ET) (h0:0<=e.1) (h1:e.1<l! c) (D:l! L<1000000):CN (L++[e]) (ca c e.1 (aT .i64 (aw aP c e.1+1))):=λt A q=>by
 rw[bM]at q;have:=VW L e.1;rw[kx (T:=aP) _ _ _ _ h0 h1 A,uG];split
 next h2=>subst h2;rw[BW rfl,h _ h0 h1,fH];simp
 next h2=>rw[yg λh3=>h2 h3.symm,h _ A q];simp
def CN.bd (h:CN L c) (t:Int):(aw aP c t:Int)<=l! L:=by
 have key:∀z:Int,aw aP c t=z->z<=l! L:=by
  intro z e;rcases bF t.toNat (l! c) with g|g
  .have h1:=h (t.toNat:Int) (by omega) (by omega);have h2:=VW L ((t.toNat:Nat):Int);have h3:aw aP c t=aw aP c ((t.toNat:Nat):Int):=by unfold aw;rw[kL]
   grind
  .have:z=0:=by
    rw[<- e];unfold aw;rw[aA,jG g];rfl
   omega
 exact key _ rfl
structure EvF (w:WT) (e:ET):Prop where
 nm:NM w e.2.1 e.2.2.1
 t0:0<=e.1
 t1:e.1<l! w.2.2.2.2.1
 cd:∀c∈w.2.2.1,0<=c.2/\c.2<l! w.2.1
end
end Go.Proofs.YtmmgdigihgnnnaaGreatDoor.AI
