/-
  Texts of the proof, part 5 of 6: what is used to prove the statement. No condition.
-/
import Derived.Test.YtocjfbiifiaagaaGreatDoorShbSchedulesQ3
import Derived.KernelRfl
import Derived.Deep.Slices
import Derived.OpenShut
import Derived.Below
namespace Go.Proofs.YtocjfbiifiaagaaGreatDoor.AI
open Go.RowKit
set_option maxRecDepth 100000
set_option maxHeartbeats 4000000
set_option linter.unusedVariables false
set_option linter.unusedSimpArgs false
set_option linter.defProp false
open _root_.Bool renaming true→J,false→af
open _root_.Classical renaming propDecidable→di
open _root_.Int renaming ofNat_eq_natCast→aw,toNat→aO,ofNat→aS,reduceEq→bO,toNat_natCast→cR,reduceNeg→dD,tmod→lw,le_trans→qM,tdiv→Pn
open _root_.List renaming length→l!,length→aj,replicate→aE,take→dy,range→dA,length_singleton→dI,nil_append→jH,length_cons→jW,length_nil→qi,set→zX,getElem?_take_of_lt→zZ,foldl_cons→Ad
open _root_.Nat renaming beq→aA,add_zero→dQ,blt→eK
open _root_.Option renaming some→Z,none→U
open _root_.Prod renaming a→be,b→bA,c→bM,d→ct,e→cE,h→c_,g→dF,f→fe,j→gy,i→kZ,o→rY,n→vq,k→vu,m→zW,l→Ac,s→HN,v→Lu,q→Pk
open _root_.Sum renaming inr→bL,inl→lP
open Value renaming okWide→Ls
open World renaming cell?→Sj
noncomputable section
def GT.up:∀{d:Nat} {s:Sx},GT d s->GT (d+1) s
 |0,_,h=>h.elim
 |_+1,_,⟨a,b,c,e,f,g,i⟩=>⟨a,b,c,e,f,λx z=>GT.up (g x z),λx z=>GT.up (i x z)⟩
def aut {l:Y Sx} (h:∀s∈l,GT 3 s):oZ 5 l=oZ 3 l:=by
 unfold oZ;rw[nu λx z=>(Uo (GT.up (h x z))).trans (Uo (h x z))]
def avt:∀i:Nat,i<13->∀r:Nat,r<i->aI (.str) (NM9++zP) (r:Int)≠aI (.str) (NM9++zP) (i:Int):=by decide
variable {R:Type} {a:Int}
def E4 {b:Int} {t f:M R} {Q:R->Prop} (h:b<=a) (hf:Ok f Q):Ok (aJ (gI a b) t f) Q:=jJ (jS.2 h) hf
def BB {w:WT} (hx:WX w):iz w=Z J:=by
 let⟨w1,w2,w3,w4,A,I⟩:=w;let⟨hc,hl,hd,hf,⟨n,n1,n4,ht⟩,hs,hv⟩:=hx;dsimp only at hc hl hd hf ht hs;subst hc hl hd hf;have hT:l! A=n:=by rw[ht,bR];have q4:zP.length=4:=rfl;omega
 have hv:Ps (l! A) I≠U:=hv;refine cz ?_;unfold iz be bA bM cE c_ gy bj bQ kw gO bV bJ aZ cP aH cL;refine aV (λx=>x=(af,C0,Kx,QU,YI,A,I)) ?_ ?_
 .refine E4 (show (5:Int)<=12 by decide) (E4 (show (3:Int)<=4 by decide) (E4 (show (1:Int)<=2 by decide) (E4 (show (1:Int)<=2 by decide) (E4 (show (1:Int)<=(l! A:Int) by omega) (E4 (show (l! A:Int)<=4 by omega) (ak ?_))))));dsimp only[aw];rw[jS.2 (show (l! I:Int)<=60 by omega)]
 rintro x rfl;refine dR (aX (ak2 A (by omega) I) (jJ rfl ?_));have hN:NM9++A=(NM9++zP).take (9+n):=by rw[ht];rcases (by omega:n=1\/n=2\/n=3\/n=4) with rfl|rfl|rfl|rfl<;>rfl
 have hNl:l! (NM9++A)=9+n:=by rw[bH,hT];rfl
 have hNg:∀i:Nat,i<9+n->aI (.str) (NM9++A) (i:Int)=aI (.str) (NM9++zP) (i:Int):=λi hi=>by
  rw[hN,sL,sL,aD,aD,zZ hi]
 refine b9 (9+n) (λi x=>x=((i:Int),C0,Kx,QU,YI,A,I)) ?_ ?_ rfl
 .rintro i x hi rfl;refine bD (λ_=>?_) λg=>(by dsimp only[aw]at g;rw[hNl]at g;omega)
  refine aV (λx=>x=(af,C0,Kx,QU,YI,A,I)) ?_ ?_
  .refine aP (by dsimp only;omega) (by dsimp only;rw[hNl];omega) (aT ?_);have hmem:aI (.str) (NM9++A) (i:Int)∈NM9++zP:=by rw[hNg i hi];exact bC (T:=.str) (by omega) (by have:l! (NM9++zP)=13:=rfl;omega)
   refine ay (YE _ hmem) λb hb=>?_
   refine jJ (by rw[hb];rfl) (cW (a? (dG (by dsimp only;rw[hNl];omega) ?_)));refine aP (by dsimp only;omega) (by dsimp only;rw[hNl];omega) (aT ?_);refine ay (BD _ _ (by dsimp only;rw[bR,hNl];omega)) λr hr=>ak ?_
   let⟨_,h2,h3,_⟩:=hr;dsimp only at h2 h3;rw[bR,hNl]at h2;have hr0:¬0<=r:=λh0=>by
    have h3:=h3 h0;obtain⟨r,rfl⟩:∃m:Nat,r=(m:Int):=⟨r.toNat,by omega⟩
    rw[sL,aD,zZ (by omega),<-aD,<-sL (T:=.str),hNg r (by omega),hNg i hi]at h3;exact avt i (by omega) r (by omega) h3
   rw[mf.2 (by omega)]
  .rintro x rfl;exact dR (ak (by dsimp only;rw[gZ]))
 rintro x rfl;refine bD (λg=>(by dsimp only[aw]at g;rw[hNl]at g;omega)) λ_=>?_
 refine ay (P:=λb=>b=J) ?_ λy hy=>ak hy
 refine b9 1 (λi x=>x=((i:Int),C0,Kx,QU,YI,A,I)) ?_ ?_ rfl
 .rintro i x hi rfl;have hi0:i=0:=by omega
  subst hi0;refine qu rfl (bl rfl (aT (aV (λx=>x=(af,C0,Kx,QU,YI,A,I)) ?_ ?_)))
  .exact jJ rfl (jJ rfl (bl rfl (aT (ak rfl))))
  .rintro x rfl;exact dR (ak (by dsimp only;rw[gZ]))
 rintro x rfl;refine bD (λg=>(by have g:(1:Int)<1:=g;omega)) λ_=>?_
 refine ay (P:=λb=>b=J) ?_ λy hy=>ak hy
 refine b9 (l! I) (λi x=>x=((i:Int),C0,Kx,QU,YI,A,I)/\∃t k:Int,Ps (l! A) (I.take i)=Z (t,k)/\0<=t/\t<(l! A:Int)/\(i=0->t=0/\k=0)/\(¬i=0->(aI qG I ((i-1:Nat):Int)).1=t/\(aI qG I ((i-1:Nat):Int)).2.1+1=k/\0<k/\k<=i)) ?_ ?_ ⟨rfl,0,0,rfl,by omega,by omega,λ_=>⟨rfl,rfl⟩,λh=>(h rfl).elim⟩
 .rintro i x hi ⟨rfl,t,k,hF,t0,tT,hz,hp⟩;have hw:¬(i:Int)=0->a_ .i64 ((i:Int)-1)=((i-1:Nat):Int):=λh=>by rw[gr];omega
  have hnx:=Md (T:=l! A) hi;have hne:=acm hv (i+1);rw[hnx,hF]at hne;let⟨hs1,L⟩:=aj4 hne;rw[hF,hs1]at hnx;refine c8 ?_;refine aV (λx=>x=(C0,Kx,QU,YI,A,I)) ?_ ?_
  .refine b_ (aT ?_);revert L;generalize (aI qG I (i:Int))=z;obtain⟨(z1:Int),(z2:Int),z3⟩:=z;intro L;dsimp only at L;refine aV (λx=>x=(af,(C0,Kx,QU,YI,A,I),z1,z2,z3)) ?_ ?_
   .refine E4 (show (0:Int)<=z1 by omega) (ak ?_);dsimp only[aw];rw[mf.2 (show z1<(l! A:Int) by omega)]
   rintro x rfl;refine dR (aV (λx=>x.2=((C0,Kx,QU,YI,A,I),z1,z2,z3)/\(x.1=J->i=0\/¬t=z1)/\(x.1=af->¬i=0/\t=z1)) ?_ ?_)
   .refine aK (λh=>ak ⟨rfl,λ_=>.inl (by have h:((i:Nat):Int)=0:=h;omega),nofun⟩) λh=>?_
    have h:¬((i:Nat):Int)=0:=h;dsimp only;rw[hw h];have hq:=(hp (by omega)).1;exact aP (by omega) (by first|omega|(dsimp only;omega)) (aT (ak ⟨rfl,λh2=>.inr (by rw[<- hq];simpa using h2),λh2=>⟨by omega,by rw[<- hq];simpa using h2⟩⟩))
   rintro⟨c,x⟩ ⟨e,hc1,hc⟩;dsimp only at e hc1 hc;subst e;refine aR (λhct=>?_) λhcf=>?_
   .have hz2:z2=0:=by
     rcases hc1 hct with h|h
     .have:=hz h;omega
     .omega
    refine aV (λx=>x=(af,C0,Kx,QU,YI,A,I)) ?_ ?_
    .refine bU (λh=>(h hz2).elim) λ_=>bD (λh=>?_) λ_=>ak rfl
     have h:(0:Int)<((i:Nat):Int):=h;dsimp only;rw[hw (by omega)];have hq:=(hp (by omega)).1;refine aP (by omega) (by first|omega|(dsimp only;omega)) (aT (ak ?_));dsimp only;rw[hq,jS.2 (show t<=z1 by omega)]
    rintro x rfl;exact dR (ak rfl)
   .obtain⟨h1,h2⟩:=hc hcf;let⟨_,p2,p3,p4⟩:=hp h1;dsimp only;rw[hw (by omega)];refine aP (by omega) (by first|omega|(dsimp only;omega)) (aT ?_);refine bU (λh=>(h ?_).elim) λ_=>ak rfl
    try dsimp only
    rw[p2,gr];omega
  .rintro x rfl;refine ak ⟨by dsimp only;rw[gZ],_,_,hnx,?_⟩;revert L;rw[show i+1-1=i by omega];generalize (aI qG I (i:Int))=z;obtain⟨(z1:Int),(z2:Int),z3⟩:=z;intro L;dsimp only at L ⊢;refine ⟨by omega,by omega,λh=>by omega,λ_=>⟨rfl,rfl,?_,?_⟩⟩
   .by_cases h0:i=0
    .have:=hz h0;omega
    .have:=hp h0;omega
   .by_cases h0:i=0
    .have:=hz h0;omega
    .have:=hp h0;omega
 .rintro x ⟨rfl,_⟩;exact c9 (ak rfl)
def abw {c:CT} (z:WX c.1) (A:l! c.2=l! c.1.2.2.2.2.1) (h:∀k:Nat,k<l! c.2->GC (l! c.2) c.1.2.2.2.2.2 (k:Int) (aI zR c.2 (k:Int))):kx c=Z J:=by
 let⟨w,l⟩:=c;have L:l! l<=4:=by
  let⟨n,_,I,ht⟩:=z.t
  grind
 refine cz ?_;unfold kx bM bQ bJ aZ cP aH cL;refine aV (λx=>x=(af,w,l)) ?_ ?_
 .refine aX (BB z) (jJ rfl (ak ?_));rw[A];simp
 rintro x rfl;refine dR (b9 (l! l) (λi x=>x=((i:Int),w,l)) ?_ ?_ rfl)
 .rintro i x hi rfl;refine c8 ?_;refine b_ (aT (aX (HU z A.symm (h i hi)) (jJ rfl (ak ?_))));rw[gZ]
 .rintro x rfl;exact c9 (ak rfl)
def UL (p:PG) (hp:PJ p) (hr4:∃r,gi p=Z r/\r.1=0):Ok (sA p) λy=>CB y.1:=by
 have hpt:=hp.t;let⟨r,hr,h0⟩:=hr4;let⟨r',hr',h60⟩:=HC p hp.x;rw[hr]at hr';cases hr';have h60:=h60 h0;unfold sA be bA bM cE fe ct c_ gy rY bQ gO bV bJ lx aZ cP aH cL;refine aX hr (bU (λh=>(h h0).elim) λ_=>?_);refine ay (abv p hp r hr h0 h60) λw hw=>?_
 have hwT:l! w.2.2.2.2.1=l! p.2:=by rw[hw.t,bR];have q4:zP.length=4:=rfl;omega
 refine b9 (l! p.2) (λi x=>x.1.1=((bsN p i:Nat):Int)/\x.1.2=(i:Int)/\x.2.1=p/\x.2.2.1=w/\l! x.2.2.2=i/\∀j:Nat,j<i->GC (l! p.2) w.2.2.2.2.2 (j:Int) (aI zR x.2.2.2 (j:Int))) ?_ ?_ ⟨rfl,rfl,rfl,rfl,rfl,λj L=>by omega⟩
 .rintro i ⟨⟨a,b⟩,p2,w2,cs⟩ hi ⟨e0,e1,e2,e3,e4,e5⟩;dsimp only at e0 e1 e2 e3 e4 e5;subst e0 e1;have e2:=e2.symm;subst e2;have e3:=e3.symm;subst e3;have hin:((i:Nat):Int)<(l! p.2:Int):=by omega
  refine c8 ?_;have hm:=hp.m _ (bC (T:=u_) (xs:=p.2) (j:=(i:Int)) (by omega) hin);have hsr:=hw.s i hi;have hbs:=at1 hi;have hb1:=abm (i+1) h60;have hbo:boN p i=oZ 3 (aI u_ p.2 (i:Int)).2.2.2:=aut λs hs=>(hm.s s hs).t
  rw[hbo]at hsr hbs;dsimp only;refine aP (by omega) hin (aT (aP (by omega) hin (aT ?_)));revert hm hsr hbs;generalize (aI u_ p.2 (i:Int))=t;intro hm hsr hbs;have hk:ME 3=50+16*(50+16*50):=rfl;have hle:=cw (ME 3) hm.b;rw[hk]at hle;have hll:l! t.2.2.1=2:=by rw[hm.l];rfl
  refine ay (TU (nT:=l! p.2) (ss:=w.2.2.2.2.2) (t:=(i:Int)) 3 (by omega) _ _ [] (by have:=hm.b;omega) hm.s ⟨hw.x.c,hw.x.l,hw.x.d,hw.x.f,hw.t,hm.l⟩ hsr (by rw[hk,qi];omega)) λy hy=>bl (by simp) ?_
  let⟨g2,o2⟩:=y;let⟨q1,q2,q3⟩:=hy;dsimp only at q1 q2 q3;have q4:=q2.u;rw[hk,qi]at q4;refine ay (Mj _ _ o2 (by omega)) λy hy=>bl (by simp) ?_
  let⟨g3,A⟩:=y;let⟨hg3,ho3⟩:=hy;dsimp only at hg3 ho3;have hL:aS (aj g3.2.2.2.2.2.2.1)=2:=by
   rw[hg3];show aS (aj g2.2.2.2.2.2.2.1)=2;rw[q1.h];show aS (aj t.2.2.1)=2;rw[hll];rfl
  have l3:l! A=l! o2+1:=by rw[ho3,bH];rfl
  have l31:l! A-1=l! o2:=by omega
  have iq:∀q:Nat,q<l! o2->iA A q=iA o2 q:=λq I=>by rw[ho3,MY I]
  have iend:iA A (l! o2)=(28,0,0,0,0,-1):=by rw[ho3,Av]
  have hreg:∀q:Nat,q<l! A->∀j:Int,j∈jC (iA A q)->0<=j/\j<32:=λq I j L=>by
   by_cases h:q<l! o2
   .rw[iq q h]at L;exact (q2.i q (iQ _) h).o.r j L
   .rw[show q=l! o2 by omega,iend]at L;simp[jC]at L
  dsimp only;rw[hL];refine b9 (l! A) (λk x=>∃rg:Int,x=((k:Int),p,w,g3,rg,cs,A)/\2<=rg/\rg<=32/\∀q:Nat,q<k->∀j:Int,j∈jC (iA A q)->j<rg) ?_ ?_ ⟨2,rfl,by omega,by omega,λq I=>by omega⟩
  .rintro k x hk2 ⟨rg,rfl,r0,r1,r2⟩;refine c8 ?_;dsimp only;refine b_ (b_ (aT (aX (vG _) ?_)));have hrk:=hreg k hk2;have hrl:=FW (iA A k);revert hrk hrl;generalize hins:(aI sZ A (k:Int))=ins;rw[show iA A k=ins from hins];intro hrk hrl;refine b9 (l! (jC ins)) (λj x=>∃rg':Int,x=((j:Int),p,w,g3,rg',cs,A)/\rg<=rg'/\rg'<=32/\∀q:Nat,q<j->rg'>aI aN (jC ins) (q:Int)) ?_ ?_ ⟨rg,rfl,eS _,r1,λq I=>by omega⟩
   .rintro j x L ⟨rg',rfl,s0,s1,s2⟩;refine c8 ?_;refine b_ (aT (ak ?_));have hz:=hrk _ (bC (T:=aN) (xs:=jC ins) (j:=(j:Int)) (by omega) (by omega));dsimp only;obtain⟨z,hzj⟩:∃z:Int,aI aN (jC ins) (j:Int)=z:=⟨_,rfl⟩
    rw[hzj]at hz ⊢;have hz0:(0:Int)<=z:=hz.1;have hz1:(32:Int)>z:=hz.2;rw[gZ,gr (n:=z+1) (by omega) (by omega)];have him:rg'<=kA rg' (z+1)/\z+1<=kA rg' (z+1)/\kA rg' (z+1)<=32:=by
     unfold kA;split
     next h=>have h:=t_.1 h;omega
     next h=>have h:=jS.1 (Sn.2 h);omega
    refine ⟨_,rfl,by omega,him.2.2,λq I=>?_⟩;rcases cN q j with h1|h1
    .have:=s2 q h1;omega
    .rw[show q=j by omega,hzj];exact Int.lt_of_lt_of_le (show z<z+1 by omega) him.2.1
   .rintro x ⟨rg',rfl,s0,s1,s2⟩;refine c9 (ak ?_);refine ⟨rg',by dsimp only;rw[gZ],by omega,s1,λq I j L=>?_⟩;rcases cN q k with h1|h1
    .have:=r2 q h1 j L;omega
    .rw[show q=k by omega,show iA A k=ins from hins]at L;exact iO (T:=aN) (p:=λc=>rg'>c) s2 j L
  .rintro x ⟨rg,rfl,r0,r1,r2⟩;refine c9 (VM (a! (VK (ak ?_))));dsimp only;have q3':(g2.2.2.2.2.2.2.2.2:Int)=(bsN p i:Nat)+(oZ 3 t.2.2.2:Nat):=q3;refine ⟨by rw[q3',hbs];omega,gZ,rfl,rfl,by simp;omega,λj L=>?_⟩;rcases cN j i with h1|h1
   .rw[Nk (T:=zR) (by rw[e4];exact h1)];exact e5 j h1
   .rw[show j=i by omega,Nj (T:=zR) (by rw[e4];omega),e4,Lw];refine ⟨show (1:Int)<=rg by omega,r1,show 1<=l! A by omega,show (l! A)<=1000000 by omega,?_,?_,?_,?_,?_⟩
    .show (iA A (l! A-1)).1=28/\(iA A (l! A-1)).2.2.2.2.2= -1;rw[l31,iend];exact⟨rfl,rfl⟩
    .show sX A 0 (l! A-1);rw[l31];exact q2.b.congr λq _ I=>iq q I
    .show ∀q:Nat,q<l! A-1->GI (l! p.2) w.2.2.2.2.2 (i:Int) (iA A q);rw[l31];exact λq I=>by rw[iq q I];exact q2.i q (iQ _) I
    .show ∀q:Nat,q<l! A-1->(iA A q).1=10->0<=(iA A q).2.2.1/\(iA A q).2.2.1<(l! A:Int)
     rw[l31];intro q I h10;rw[iq q I]at h10 ⊢;have:=q2.r q (iQ _) I h10;omega
    .exact λq I j L=>r2 q (show q<l! A by have I:q<l! A-1:=I;omega) j L
 .rintro⟨⟨a,b⟩,p2,w2,cs⟩ ⟨e0,e1,e2,e3,e4,e5⟩;dsimp only at e0 e1 e2 e3 e4 e5;subst e1 e2 e3;refine c9 (ak ?_);have hgc:∀t∈cs,∃k:Nat,GC p2.2.length w2.2.2.2.2.2 (k:Int) t:=iO (T:=zR) λk hk=>⟨k,e5 k (by omega)⟩
  refine ⟨by dsimp only;omega,λt ht=>?_,λt ht=>?_,hw.x,abw hw.x ?_ ?_⟩
  .obtain⟨k,hk⟩:=hgc t ht;exact hk.u
  .obtain⟨k,hk⟩:=hgc t ht;exact hk.r0
  .dsimp only;rw[e4,hwT]
  .dsimp only;rw[e4];exact e5
def PK (a b:η) (ha:l! a<=9223372036854775807) (I:∀z∈a,0<=z/\z<=255) (hb:l! b<=1000000):Ok (xr (a,b)) TR:=by
 refine ay (P:=CB) ?_ λc L=>ay (ac9 b hb) λl hl=>?_
 .unfold Ar;exact ay (KV a ha I) λp hp=>ay (UL p hp.1 hp.2) λy A=>ak A
 .exact ay (avs c l L (by omega)) λy A=>ak A
def UJ (a b c:η) (n:Int) (n0:0<=n) (n1:n<=1000000) (ha:l! a<=9223372036854775807) (I:∀z∈a,0<=z/\z<=255) (L:l! c<=9223372036854775807) (A:∀z∈c,0<=z/\z<=255):Ok (o_ ((a,b,c),n)) TR:=by
 refine bD (λ_=>ay (Me c n L A) λy h=>ak h) λ_=>?_
 have h0:0<=BI (aS (l! b)) n/\BI (aS (l! b)) n<=(l! b:Int)/\BI (aS (l! b)) n<=n:=by
  unfold BI;split
  next h=>rw[t_]at h;dsimp [aw]at h;exact⟨n0,by omega,eS _⟩
  next h=>have h:=jS.1 (Sn.2 h);dsimp [aw]at h ⊢;exact⟨by omega,eS _,h⟩
 refine cW (dG h0.1 (dG h0.2.1 ?_));have h1:l! (dy (aO (BI (aS (l! b)) n)) b)<=1000000:=by grind
 exact ay (PK a _ ha I h1) λy h=>ak h
def HS.zero (w:xR):HS:=⟨aE (l! w.2.2.2.2.1) [],aE (l! w.2.2.2.2.1) [],aE (l! w.2.1) [],aE (l! w.2.1) [],aE (l! w.1) [],aE (l! w.2.2.2.1) [],[],aE (l! w.2.2.2.2.1) [],aE (l! w.2.2.2.2.1) (-1)⟩
def HS.zero_ok {w:xR} (h1:l! w.1<=1000) (L:l! w.2.1<=1000) (I:l! w.2.2.2.1<=1000) (A:l! w.2.2.2.2.1<=1000):UQ 0 (HS.zero w):=by
 have z:(0:Int)<=0:=by omega
 exact⟨z,by omega,EK.repl z _,EK.repl z _,EK.repl z _,EK.repl z _,EK.repl z _,EK.repl z _,En.nil z,EK.repl z _,by simpa[HS.zero] using A,by simp[HS.zero],by simp[HS.zero],by simp[HS.zero],by simpa[HS.zero] using L,by simp[HS.zero],by simpa[HS.zero] using h1,by simpa[HS.zero] using I⟩
structure Fit (w:xR) (h:HS):Prop where
 T:l! h.T=l! w.2.2.2.2.1
 L:l! h.L=l! w.2.1
 C:l! h.C=l! w.1
 F:l! h.F=l! w.2.2.2.1
def Fit.zero (w:xR):Fit w (HS.zero w):=⟨by simp[HS.zero],by simp[HS.zero],by simp[HS.zero],by simp[HS.zero]⟩
def Fit.ent {w:xR} {h:HS} (f:Fit w h) (e:EV) (x:η):Fit w (iD w h e x):=by
 let⟨a,b,c,d,g,i,j,k⟩:=xF w h e x;exact⟨a.trans f.T,c.trans f.L,g.trans f.C,i.trans f.F⟩
def Fit.step {w:xR} {h:HS} (f:Fit w h) (e:EV):Fit w (Jj w h e).1:=f.ent e _
def evP (e:ET):EV:=⟨e.1.toNat,e.2.1.toNat,e.2.2.1.toNat,e.2.2.2.1⟩
def ayu {w:WT} {e:ET} (f:EvF w e):EvT (evP e) e:=by
 obtain⟨⟨k1,k2,ce,A,cd,th,fu⟩,z,_,_⟩:=f;refine ⟨(KH z).symm,(KH (by omega)).symm,λh=>(KH ?_).symm,rfl⟩;unfold evP at h;simp[bh,b7,eE]at h;by_cases h1:e.2.1=3\/e.2.1=4
 .exact (ce h1).1
 by_cases h2:6<=e.2.1/\e.2.1<=11
 .exact (A h2).1
 by_cases h3:16<=e.2.1/\e.2.1<=19
 .exact (cd h3).1
 by_cases L:e.2.1=20\/e.2.1=21
 .exact (th L).1
 by_cases I:e.2.1=22\/e.2.1=23
 .exact (fu I).1
 omega
def T2 {w:WT} {e:ET} (f:EvF w e) (wb:WB w) {h:HS} (z:Fit w h):EOK w h (evP e):=by
 obtain⟨⟨k1,k2,ce,lk,I,th,fu⟩,t0,t1,A⟩:=f;have b5:=wb.t;have f1:=z.T;have f2:=z.L;have f3:=z.C;have f4:=z.F;unfold evP;refine ⟨by dsimp only;omega,by dsimp only;omega,by dsimp only;omega,by dsimp only;omega,λq=>?_,λq=>?_,λq=>?_,λq=>?_,λq=>?_⟩<;>dsimp only at q ⊢
 .omega
 .omega
 .have g:=I (by omega);have hl:e.2.2.1.toNat<l! w.2.2.1:=by omega
  have hm:=A (w.2.2.1.getD e.2.2.1.toNat ([],0)) (by grind);unfold Ta;omega
 .grind
 .omega
def Sp (a b:Int):fA (a,b)=Z (decide (0<=a/\a<b)):=by
 refine cz ?_;unfold fA kw aH;with_reducible repeat' first|apply OS.ok;constructor|refine IM.mk λ_=>?_
 .by_cases h:a<b<;>simp[*,gI]
 .simp;omega
def YJ (l:η) (t:Int) (L:l! l<=1000):lD (l,t)=Z (l.contains t):=by
 refine cz ?_;unfold lD tJ AG bj bQ bJ aZ cP aH cL;refine ay (P:=λy:Int=>0<=y↔t∈l) ?_ λy z=>ak ?_
 .refine kJ (l! l) (by omega) (λi x=>x=(i:Int)/\∀j,j<i->¬l.getD j 0=t) ?_ ?_ ⟨rfl,λj A=>by omega⟩
  .rintro i x hi ⟨rfl,I⟩;refine c8 ?_;refine b_ (aT (aK (λh=>ak ?_) λh=>ak ?_))
   .refine ⟨λ_=>?_,λ_=>by omega⟩;have h:t=aI aN l (i:Int):=h;rw[h];exact bC (T:=aN) (xs:=l) (by omega) (by omega)
   .refine ⟨gZ,λj A=>?_⟩;have h:¬t=l.getD i 0:=h
    grind
  .rintro x ⟨rfl,I⟩;refine c9 (ak ?_);refine ⟨λg=>(by omega),λg=>?_⟩;let⟨j,A,e⟩:=List.getElem_of_mem g
   grind
 .by_cases h:t∈l
  .have:=z.2 h;simp[cX,h,this]
  .have:¬0<=y:=λg=>h (z.1 g)
   simp[cX,h,this]
def atn (w:WT) (s:SY) (A:l! w.2.2.1<=1000) (z:∀c∈w.2.2.1,0<=c.2/\c.2<l! w.2.1) (e1:l! s.1=l! w.2.1) (e2:l! s.2.2.1=l! w.2.2.2.1) (I:l! s.2.2.2=l! w.2.2.2.2.1):lq (w,s)=Z J:=by
 refine cz ?_;unfold lq vD be bA bM dF bQ gO bJ aZ cP aH cL;refine aV (λx=>x=(af,w)) ?_ ?_
 .refine bU (λh=>(h (by grind)).elim) λ_=>bU (λh=>(h (by grind)).elim) λ_=>ak ?_
  grind
 rintro x rfl;refine dR (kJ (l! w.2.2.1) (by omega) (λi x=>x=((i:Int),w)) ?_ ?_ rfl)
 .rintro i x hi rfl;refine c8 ?_;refine b_ (aT (aX (Sp _ _) (bU (λh=>(h ?_).elim) λ_=>ak ?_)))
  .exact z _ (bC (T:=itK) (xs:=w.2.2.1) (j:=(i:Int)) (by omega) (by omega))
  .rw[gZ]
 .rintro x rfl;exact c9 (ak rfl)
def amg (w:WT) (k o:Int) (h:NM w k o):ng (w,k,o)=Z J:=by
 refine cz ?_;let⟨k1,k2,ce,A,cn,th,L,no,z,rw_⟩:=h;unfold ng be bA bM cE bj bJ aZ aH;cases kdI k
 case no I _=>omega
 all_goals simp only[bO,dD,Pr,Sp]
 all_goals with_reducible repeat' first|apply OS.ok;constructor|refine IM.mk λ_=>?_
 all_goals try simp[aw,s6] at*
 all_goals first|omega|exact rw_ ⟨by decide,by decide⟩|(simp [*,Bool.not_false,eH];done)
variable {i:Nat}
def au6 (w:WT) (s:SY) (hs:SB i s) (hn:i<=1000) (t k o:Int) (he:EN w s t k o) (hr:QK w s t k o):qD (w,s,t,k,o)=Z J:=by
 refine cz ?_;let⟨nm,L,t1,cd,e1,e2,e3⟩:=id he;let⟨_,_,ce,lk,cn,th,fu,no,mu,rw_⟩:=nm;let⟨_,_,_,A,wr,ra,rl,rr,xb,xe,ab,ae,nt,sp,jo,se,ge⟩:=hr;have hm:16<=k/\k<=19->0<=(aI itK w.2.2.1 o).2/\(aI itK w.2.2.1 o).2<l! w.2.1:=λh=>cd _ (bC (cn h).1 (cn h).2)
 have hH:6<=k/\k<=11->lD ((aI dO s.1 o).2,t)=Z ((aI dO s.1 o).2.contains t):=λh=>YJ _ _ (by
  have:=hs.rd _ (bC (T:=dO) (lk h).1 (by grind));omega)
 have lk1:6<=k/\k<=11->0<=o/\o<(l! s.1:Int):=λh=>by grind
 have I:t<(l! s.2.2.2:Int):=by omega
 have fu1:k=22\/k=23->0<=o/\o<(l! s.2.2.1:Int):=λh=>by have:=fu h;omega
 have th1:k=20\/k=21->0<=o/\o<(l! s.2.2.2:Int):=λh=>by have:=th h;omega
 have tr:∀{p:Prop} [Decidable p],p->decide p=J:=λh=>aU h
 unfold qD be bA bM dF c_ bj gO bJ aZ aH;refine aK (λh=>?_) λn6=>?_
 .have h:k=6:=h;exact aP (lk1 (by omega)).1 (lk1 (by omega)).2 (aT (ak (tr (A (.inl h)))))
 refine aK (λh=>?_) λn10=>?_
 .have h:k=10:=h;refine gP (aP (lk1 (by omega)).1 (lk1 (by omega)).2 (aT (aK (λ_=>?_) λg=>(g (A (.inr (.inr h)))).elim)));refine aP (lk1 (by omega)).1 (lk1 (by omega)).2 (aT (ak (ak (tr ?_))))
  grind
 refine aK (λh=>?_) λn8=>?_
 .have h:k=8:=h;refine gP (aP (lk1 (by omega)).1 (lk1 (by omega)).2 (aT (aK (λ_=>?_) λg=>(g (A (.inr (.inl h)))).elim)));refine aP (lk1 (by omega)).1 (lk1 (by omega)).2 (aT (aX (hH (by omega)) (ak (ak ?_))));rw[ra h];rfl
 refine aV (λx=>x.2=(w,s)/\(x.1=J↔k=7\/k=11)) (aK (λh=>ak ⟨rfl,λ_=>.inl h,λ_=>tr h⟩) λh=>ak ⟨rfl,λz=>.inr (bi z),λz=>tr (z.resolve_left h)⟩) ?_;rintro⟨b,x⟩ ⟨e,hb⟩;dsimp only at e hb;subst e;refine aR (λh=>?_) λ_=>?_
 .have h:=hb.1 h;exact aP (lk1 (by omega)).1 (lk1 (by omega)).2 (aT (ak (tr (rl h))))
 refine aK (λh=>?_) λn9=>?_
 .have h:k=9:=h;refine aP (lk1 (by omega)).1 (lk1 (by omega)).2 (aT (aX (hH (by omega)) (ak (rr h))))
 refine aK (λh=>ak (tr (xb h))) λ_=>aK (λh=>ak (tr (xe h))) λ_=>?_
 refine aK (λh=>aP L I (aT (ak (by grind)))) λ_=>aK (λh=>aP L I (aT (ak (ae h)))) λ_=>?_
 refine aV (λx=>x.2=(w,s)/\(x.1=J->k=16\/k=18\/k=19)) (aK (λh=>ak ⟨rfl,λ_=>.inl h⟩) λ_=>aK (λh=>ak ⟨rfl,λ_=>.inr (.inl h)⟩) λ_=>ak ⟨rfl,λh=>.inr (.inr (bi h))⟩) ?_;rintro⟨c,x⟩ ⟨e,hc⟩;dsimp only at e hc;subst e;refine aR (λh=>?_) λ_=>?_
 .have h:=hc h;have hq:=hm (by omega);exact aP (cn (by omega)).1 (cn (by omega)).2 (aT (aP hq.1 (by grind) (aT (ak (tr (nt h))))))
 refine aK (λh=>?_) λ_=>?_
 .have h:k=20:=h;exact gP (bU (λ_=>aP (th1 (.inl h)).1 (th1 (.inl h)).2 (aT (ak (ak (tr (sp h).2))))) λg=>((sp h).1 g).elim)
 refine aK (λh=>?_) λ_=>?_
 .have h:k=21:=h;exact gP (bU (λ_=>aP (th1 (.inr h)).1 (th1 (.inr h)).2 (aT (ak (ak (tr (jo h).2))))) λg=>((jo h).1 g).elim)
 refine aK (λh=>aP (fu1 (.inl h)).1 (fu1 (.inl h)).2 (aT (ak (by grind)))) λ_=>aK (λh=>aP (fu1 (.inr h)).1 (fu1 (.inr h)).2 (aT (ak (ge h)))) λ_=>ak rfl
def HI (w:WT) (s:SY) (hs:SB i s) (hn:i<=1000) (hw:l! w.2.2.1<=1000) (t k o:Int) (he:EN w s t k o) (z:QK w s t k o):kV (w,s,t,k,o)=Z J:=by
 refine cz ?_;let⟨nm,I,t1,cd,e1,e2,e3⟩:=id he;have hrd:=au6 w s hs hn t k o he z;have t2:t<(l! s.2.2.2:Int):=by omega
 refine aV (λx=>x=(af,w,s)) ?_ ?_
 .refine aX (atn w s hw cd e1 e2 e3) (jJ rfl (aX (Sp _ _) ?_));refine bU (λh=>(h ⟨I,t1⟩).elim) λ_=>aX (amg w k o nm) (ak rfl)
 rintro x rfl;refine dR (aP I t2 (aT ?_));refine aK (λh=>ak (aU (z.b h))) λn1=>?_
 refine aK (λh=>?_) λA=>?_
 .have h:k=17:=h;let⟨a1,a2,a3⟩:=z.wk h;let⟨c0,L⟩:=nm.cd (by omega);have hq:=cd _ (bC (T:=itK) (xs:=w.2.2.1) (j:=o) c0 L);refine gP (aK (λ_=>aK (λ_=>?_) λg=>(g a2).elim) λg=>(g a1).elim);exact aP c0 L (aT (aP hq.1 (by grind) (aT (ak (ak (aU a3))))))
 refine gP (aK (λ_=>aX hrd (ak (ak rfl))) λg=>(g (z.r n1 A)).elim)
def aon (w:WT) (e:ET) (h1:e.2.1=1\/e.2.1=2->e.2.2.2.2.1= -1) (z:¬(e.2.1=1\/e.2.1=2)->0<=e.2.2.2.2.1/\e.2.2.2.2.1<l! w.2.2.2.2.2/\(aI qG w.2.2.2.2.2 e.2.2.2.2.1).1=e.1):mH (w,e)=Z J:=by
 refine cz ?_;refine aV (λx=>x.2=(w,e)/\(x.1=J↔e.2.1=1\/e.2.1=2)) (aK (λh=>ak ⟨rfl,λ_=>.inl h,λ_=>rfl⟩) λh=>ak ⟨rfl,λz=>.inr (bi z),λz=>aU (z.resolve_left h)⟩) ?_;rintro⟨b,x⟩ ⟨e1,A⟩;subst e1;refine aR (λh=>ak (aU (h1 (A.1 h)))) λh=>?_
 let⟨a1,L,I⟩:=z λg=>by grind
 exact gP (fK (λ_=>c8 (aP a1 L (aT (ak (ak (aU I)))))) λg=>(by grind))
variable {z:η}
def amb (h:KB z) (i:Nat) (hi:i<l! z):∀l∈z.drop (i+1),z.getD i 0<l:=by
 induction z generalizing i with
 |nil=>cases hi
 |cons a z A=>
  cases i with
  |zero=>exact λl I=>h.1 l (by grind)
  |succ i=>exact A h.2 i (by grind)
def Xj (w:WT) (s:SN) (e:ET) (ce:e.2.1=3\/e.2.1=4->0<=e.2.2.1/\e.2.2.1<l! w.1) (de:0<l! e.2.2.2.2.2.1->e.2.1=5\/(e.2.1=3\/e.2.1=4)/\¬(aI kF w.1 e.2.2.1).2.2.1=0) (fr:0<l! e.2.2.2.2.2.2->e.2.1=4\/e.2.1=22) (t0:0<=e.1) (t1:e.1<l! s.2.2.2) (nd:AN (aI aN s.2.2.2 e.1) e.2.2.2.2.2.1) (nf:AN (aI aN s.2.2.2 e.1) e.2.2.2.2.2.2) (ld:l! e.2.2.2.2.2.1<=1000000) (lf:l! e.2.2.2.2.2.2<=1000000):gh (w,s,e)=Z J:=by
 refine cz ?_;refine aV (λx=>x.2=(s,e)/\((e.2.1=3\/e.2.1=4)/\¬(aI kF w.1 e.2.2.1).2.2.1=0->x.1=J)) ?_ ?_
 .refine aK (λh=>?_) λn3=>aK (λh=>?_) λn4=>?_
  .exact aP (ce (.inl h)).1 (ce (.inl h)).2 (aT (ak ⟨rfl,λg=>by simpa using g.2⟩))
  .exact aP (ce (.inr h)).1 (ce (.inr h)).2 (aT (ak ⟨rfl,λg=>by simpa using g.2⟩))
  .exact ak ⟨rfl,λg=>(g.1.elim n3 n4).elim⟩
 rintro⟨b,x⟩ ⟨e1,hb⟩;dsimp only at e1 hb;subst e1;refine aV (λx=>x.1=s/\x.2.1=e/\(0<l! e.2.2.2.2.2.1->x.2.2.1=J)/\(0<l! e.2.2.2.2.2.2->x.2.2.2=J)) ?_ ?_
 .refine aK (λh5=>aK (λh4=>ak ⟨rfl,rfl,λ_=>rfl,λ_=>rfl⟩) λh4=>ak ⟨rfl,rfl,λ_=>rfl,λg=>?_⟩) λh5=>aK (λh4=>ak ⟨rfl,rfl,λg=>?_,λ_=>rfl⟩) λh4=>ak ⟨rfl,rfl,λg=>?_,λg=>?_⟩
  .grind
  .grind
  .grind
  .grind
 rintro⟨s',e',a,b'⟩ ⟨e1,e2,h1,h2⟩;dsimp only at e1 e2 h1 h2;subst e1 e2;have key:∀(r:η),l! r<=1000000->AN (aI aN s'.2.2.2 e'.1) r->∀j:Nat,j<l! r->∀z∈r.drop (j+1),aI aN r (j:Int)<z:=λr _ h j L z hz=>amb h.a j L z hz
 refine kJ 2 (by omega) (λi x=>x=((i:Int),s',e',a,b')) ?_ ?_ rfl
 .rintro i x hi rfl;refine c8 ?_;refine cW (dG (by simp) (De (by omega) (aT ?_)));have hr:∃r:η,aI (.sl (.int .i64)) [e'.2.2.2.2.2.1,e'.2.2.2.2.2.2] (i:Int)=r/\AN (aI aN s'.2.2.2 e'.1) r/\l! r<=1000000/\(0<l! r->aI (.bool) [a,b'] (i:Int)=J):=by
   match i,hi with
   |0,_=>exact⟨_,rfl,nd,ld,h1⟩
   |1,_=>exact⟨_,rfl,nf,lf,h2⟩
  let⟨r,er,hA,hl,hb'⟩:=hr;have er':aI (.sl aN) [e'.2.2.2.2.2.1,e'.2.2.2.2.2.2] (i:Int)=r:=er;dsimp only at er' ⊢;rw[er'];refine aV (λx=>x=(af,s',e',a,b')) ?_ ?_
  .refine bD (λg=>?_) λ_=>ak rfl
   have g':0<l! r:=by grind
   refine cW (a? (De (by omega) (b_ (aT (ak ?_)))));rw[hb' g'];rfl
  rintro x rfl;refine dR ?_;refine kJ (l! r) (by omega) (λj x=>x.1.2=(j:Int)/\x.2=(s',e',a,b')/\∀z∈r.drop j,x.1.1<z) ?_ ?_ ⟨rfl,rfl,λz hz=>?_⟩
  .rintro j ⟨⟨la,ix⟩,x⟩ L ⟨I,A,g3⟩;dsimp only at I A g3;subst I A;have m:aI aN r (j:Int)∈r:=bC (T:=aN) (xs:=r) (by omega) (by omega);have m2:aI aN r (j:Int)∈r.drop j:=by
    have:aI aN r (j:Int)=r[j]:=by
     show r.getD j 0=_
     grind
    rw[this,List.drop_eq_getElem_cons L];exact dK
   refine c8 ?_;refine b_ (aT (aV (λx=>x=(af,s',e',a,b')) ?_ ?_))
   .refine fK (λg=>?_) λ_=>aP t0 t1 (aT (ak ?_))
    .grind
    .have:=(hA.m _ m).2;rw[mf.2 (show aI aN r (j:Int)<aI aN s'.2.2.2 e'.1 from this)]
   rintro x rfl;exact dR (ak ⟨gZ,rfl,key r hl hA j L⟩)
  .rintro⟨⟨la,ix⟩,x⟩ ⟨I,A,_⟩;dsimp only at I A;subst I A;exact c9 (ak (d_ (·,s',e',a,b') gZ))
  .have:=(hA.m z (by grind)).1;dsimp only;omega
 .rintro x rfl;exact c9 (ak rfl)
def ayq (w:WT) (s:SN) (z:l! w.2.2.1<=1000) (t k o:Int) (he:EN w s.1 t k o) (hf:F16 w s):l8 (w,s)=Z J:=by
 let⟨_,_,_,I,e1,e2,A⟩:=he;let⟨f1,L,f3⟩:=hf;refine cz ?_;unfold l8 be bA bM dF bj aZ aH;refine gP (aX (atn w s.1 z I e1 e2 A) (vh (aK (λ_=>aK (λ_=>ak (ak (aU ?_))) λg=>(g ?_).elim) λg=>(g ?_).elim)));all_goals dsimp [aw];omega
def Lz (th:Y c!) (c:Int) (i:Nat):wl th c (i+1)=if FA c (aI hP th (i:Int)) then wl th c i++[(i:Int)] else wl th c i:=rfl
def ao1 (w:WT) (s:SN) (hs:SB i s.1) (e:ET) (hf:F16 w s) (he:EN w s.1 e.1 e.2.1 e.2.2.1) (va:VA w s.1 s.2.1 s.2.2.1 e.1 e.2.1 e.2.2.1 e.2.2.2.1):gJ (s,e)=Z J:=by
 refine cz ?_;let⟨t,k,o,v,si,de,fr⟩:=e;let⟨z,s2,s3,s4⟩:=s;let⟨nm,t0,t1,cd,e1,e2,e3⟩:=he;let⟨_,_,ce,lk,cn,th,fu,_,_,_⟩:=nm;let⟨f1,f2,f3⟩:=hf;have hth:=hs.th;let⟨v3,v23,v5,vel⟩:=va;dsimp only at*
 unfold gJ mN be bA bM cE ct bj bQ bJ aZ cP aH cL;refine aK (λh=>?_) λn3=>?_
 .have h:k=3:=h;let⟨c0,c1⟩:=ce (.inl h);exact aP c0 (by rw[f1];exact c1) (aT (ak (aU (v3 h))))
 refine aK (λh=>?_) λn23=>?_
 .have h:k=23:=h;let⟨c0,c1⟩:=fu (.inr h);exact aP c0 (by rw[f2];exact c1) (aT (ak (aU (v23 h))))
 refine aK (λh=>?_) λn5=>?_
 .have h:k=5:=h;exact gP (aK (λ_=>ak (ak rfl)) λg=>ak (ak (aU ((v5 h).resolve_left g))))
 refine aV (λx=>x.2=((z,s2,s3,s4),t,k,o,v,si,de,fr)/\(x.1=af->¬k=4/\¬k=22)) (aK (λh=>ak ⟨rfl,λh2=>(by rw[aU h]at h2;cases h2)⟩) λh=>ak ⟨rfl,λh2=>⟨h,qV h2⟩⟩) ?_;rintro⟨b,x⟩ ⟨e,hb⟩;dsimp only at e hb;subst e;refine aR (λh=>ak rfl) λh=>?_
 let⟨n4,n22⟩:=hb h;have vel:=vel n3 n23 n5 n4 n22;have hWl:=vT z.2.2.2 o (l! z.2.2.2);refine aK (λh=>?_) λn18=>?_
 .have h:k=18:=h;subst h;rw[CX]at vel;refine kJ (l! z.2.2.2) (by omega) (λn x=>x.1.2.2=(n:Int)/\x.2=(t,18,o,v,si,de,fr)/\x.1.1=(l! (wl z.2.2.2 o n):Int)/\(x.1.2.1=J↔v∈wl z.2.2.2 o n)) ?_ ?_ ⟨rfl,rfl,rfl,by simp[wl]⟩
  .rintro n ⟨⟨c,hit,ix⟩,x⟩ hi ⟨I,A,L,g4⟩;dsimp only at I A L g4;subst I A L;have hl:=vT z.2.2.2 o n;refine c8 ?_;refine aV (λx=>x.2=(t,18,o,v,si,de,fr)/\x.1.1=(l! (wl z.2.2.2 o (n+1)):Int)/\(x.1.2=J↔v∈wl z.2.2.2 o (n+1))) ?_ ?_
   .refine b_ (aT (aV (λx=>x=(FA o (aI hP z.2.2.2 (n:Int)),t,18,o,v,si,de,fr)) ?_ ?_))
    .unfold FA;refine aK (λh=>ak ?_) λh=>ak ?_
     .dsimp only at h ⊢;rw[h];rfl
     .dsimp only at h ⊢;rw[dt h];rfl
    rintro x rfl;rw[Lz];dsimp only;cases hw:FA o (aI hP z.2.2.2 (n:Int)) with
    |true=>
     refine vh (aR (λh=>ak ⟨rfl,?_,?_⟩) λh=>ak ⟨rfl,?_,?_⟩)
     .dsimp only;rw[gZ];simp
     .simp[g4.1 h]
     .dsimp only;rw[gZ];simp
     .have:¬v∈wl z.2.2.2 o n:=λg=>by rw[g4.2 g]at h;cases h
      simp[this]
    |false=>exact dR (ak ⟨rfl,rfl,g4⟩)
   rintro⟨⟨c,hit'⟩,x⟩ ⟨I,A,L⟩;dsimp only at I A L;subst I A;exact ak ⟨gZ,rfl,rfl,L⟩
  .rintro⟨⟨c,hit,ix⟩,x⟩ ⟨I,A,L,g4⟩;dsimp only at I A L g4;subst I A L;refine c9 (ay (P:=λy=>y=J) (gP (aR (λ_=>ak (ak rfl)) λh=>?_)) λy hy=>ak hy);have hn:¬v∈wl z.2.2.2 o (l! z.2.2.2):=λg=>by rw[g4.2 g]at h;cases h
   by_cases h0:l! (wl z.2.2.2 o (l! z.2.2.2))=0
   .rw[aC h0]at vel;refine aK (λ_=>ak (ak (aU vel))) λg=>(g (by dsimp only;omega)).elim
   .rw[av h0]at vel;have vel:v=BQ (wl z.2.2.2 o (l! z.2.2.2)) v:=vel;exact (hn (vel▸Dw v h0)).elim
 refine aK (λh=>?_) λn19=>?_
 .have h:k=19:=h;subst h;rw[amf]at vel;refine kJ (l! z.2.2.2) (by omega) (λn x=>x.1.2=(n:Int)/\x.2=(t,19,o,v,si,de,fr)/\x.1.1=(l! (wl z.2.2.2 o n):Int)) ?_ ?_ ⟨rfl,rfl,rfl⟩
  .rintro n ⟨⟨c,ix⟩,x⟩ hi ⟨I,A,L⟩;dsimp only at I A L;subst I A L;have hl:=vT z.2.2.2 o n;refine c8 ?_;refine aV (λx=>x.2=(t,19,o,v,si,de,fr)/\x.1=(l! (wl z.2.2.2 o (n+1)):Int)) ?_ ?_
   .refine b_ (aT (aV (λx=>x=(FA o (aI hP z.2.2.2 (n:Int)),t,19,o,v,si,de,fr)) ?_ ?_))
    .unfold FA;refine aK (λh=>ak ?_) λh=>ak ?_
     .dsimp only at h ⊢;rw[h];rfl
     .dsimp only at h ⊢;rw[dt h];rfl
    rintro x rfl;rw[Lz];dsimp only;cases hw:FA o (aI hP z.2.2.2 (n:Int)) with
    |true=>
     refine vh (ak ⟨rfl,?_⟩);dsimp only;rw[gZ];simp
    |false=>exact dR (ak ⟨rfl,rfl⟩)
   rintro⟨c,x⟩ ⟨I,A⟩;dsimp only at I A;subst I A;exact ak ⟨gZ,rfl,rfl⟩
  .rintro⟨⟨c,ix⟩,x⟩ ⟨I,A,L⟩;dsimp only at I A L;subst I A L;exact c9 (ak (aU vel))
 exact ak (aU (by rw[ame _ _ _ _ _ _ n18 n19]at vel;exact vel))
def ain (x:c!) (c:Int):nJ (x,c)=Z (FA c x):=by
 refine cz ?_;unfold nJ FA bj aH;refine gP (aK (λh=>ak (ak ?_)) λh=>ak (ak ?_))
 .grind
 .grind
def alt (s:SY) (A:SB i s):lB s=Z (s.2.1,s.1,s.2.2.1,s.2.2.2):=by
 refine cz ?_;let⟨z,s2,L,I⟩:=s;have hn:=A.n1;have hlk:=A.lk;have hdn:=A.dn;have hth:=A.th;have hrd:=A.rd;dsimp only at hlk hdn hth hrd;unfold lB ub be ct ck bQ bV bJ aZ cP cL;dsimp [aw];refine cW (cW (a? (a? (a! ?_))));refine kJ (l! z) (by omega) (λn x=>∃c d,x=((n:Int),(z,s2,L,I),c,d)/\l! d=l! z/\∀j,j<n->d.getD j (0,[])=z.getD j (0,[])) ?_ ?_ ⟨_,_,rfl,by simp,λj hj=>by omega⟩
 .rintro n x hi ⟨c,d,rfl,hd,he⟩;have hr:=hrd _ (bC (T:=dO) (xs:=z) (j:=(n:Int)) (by omega) (by omega));refine c8 ?_;refine b_ (aT (aX (x:=(aI dO z (n:Int)).2) (cz ?_) ?_))
  .exact bP (by grind) (by omega) (ak rfl)
  refine b_ (b_ (ak ⟨c,d.set n (aI dO z (n:Int)),?_,by simp[hd],λj hj=>?_⟩))
  .rw[gZ];rfl
  .by_cases e:n=j
   .subst e;rw[aD,List.getElem?_set_self (by omega)];rfl
   .grind
 .rintro x ⟨c,d,rfl,hd,he⟩;have:d=z:=by
   refine em hd λj g1 g2=>?_
   grind
  subst this;refine c9 (ay (P:=λy=>y=(s2,d,L,I)) ?_ λy hy=>ak hy);refine aX (x:=L) (cz (bP (by grind) (by omega) (ak rfl))) (aX (x:=I) (cz (bP (by grind) (by omega) (ak rfl))) (ak rfl))
def aek (l:η) (i u:Int):BQ (l++[i]) u=if (l! l)=0 then i else if i=u then i else BQ l u:=by
 unfold BQ;cases l with
 |nil=>
  by_cases h:u=i
  .subst h;simp
  .simp[h];rfl
 |cons a r=>
  have e1:¬l! (a::r++[i])=0:=by simp
  have e2:¬l! (a::r)=0:=by simp
  by_cases h:i=u
  .subst h;simp
  .have h':¬u=i:=λg=>h g.symm
   rw[av h];have:(a::r++[i]).contains u=(a::r).contains u:=by simp[h']
   rw[this];rfl
variable {Q:Y (Int×Int×Bool)}
def Uv {u:Int} (h:¬l! (wl Q a i)=0):0<=BQ (wl Q a i) u/\BQ (wl Q a i) u<i:=by
 have:=oz.1 (Dw u h);exact⟨this.1,this.2.1⟩
def OO {u:Int} (h:l! z=0):BQ z u= -1:=by unfold BQ;rw[aC h]
def aox (s:SY) (o u:Int) (hs:l! s.2.2.2<=1000):kz ((s.2.1,o,u),s.1,s.2.2.1,s.2.2.2)=Z (BQ (wl s.2.2.2 o (l! s.2.2.2)) u,s.1,s.2.2.1,if (l! (wl s.2.2.2 o (l! s.2.2.2)))=0 then s.2.2.2 else xl s.2.2.2 (BQ (wl s.2.2.2 o (l! s.2.2.2)) u) 4):=by
 refine cz ?_;let⟨I,L,A,z⟩:=s;dsimp only at hs ⊢;unfold kz sJ be bA ct ck bQ kw lx aZ cP aH cL;refine kJ (l! z) (by omega) (λi x=>x=((BQ (wl z o i) u,(i:Int)),I,A,z,L)) ?_ ?_ rfl
 .rintro i x hi rfl;refine c8 ?_;refine aV (λx=>x=(BQ (wl z o (i+1)) u,I,A,z,L)) ?_ ?_
  .refine b_ (b_ (aT ?_));refine aV (λx=>x=(decide (FA o (aI hP z (i:Int))=J/\(l! (wl z o i)=0\/(i:Int)=u)),I,A,z,L)) ?_ ?_
   .refine aX (ain _ _) (aR (λh=>?_) λh=>ak ?_)
    .have h:FA o (aI hP z (i:Int))=J:=h;refine bD (λg=>ak ?_) λg=>ak ?_
     .have:l! (wl z o i)=0:=xT λq=>by have:=(Uv (u:=u) q).1;dsimp only at g;omega
      simp[h,this]
     .have:¬l! (wl z o i)=0:=λq=>by have:=OO (u:=u) q;dsimp only at g;omega
      simp[h,this]
    .grind
   rintro x rfl;rw[Lz];refine aK (λh=>ak ?_) λh=>ak ?_
   .rw[aC h.1,aek]
    grind
   .by_cases g:FA o (aI hP z (i:Int))=J
    .rw[aC g,aek,av λq=>h ⟨g,.inl q⟩,av λq=>h ⟨g,.inr q⟩]
    .rw[av g]
  rintro x rfl;exact ak (by dsimp only;rw[gZ])
 .rintro x rfl;refine c9 (ay (P:=λy=>y=(BQ (wl z o (l! z)) u,I,A,if (l! (wl z o (l! z)))=0 then z else xl z (BQ (wl z o (l! z)) u) 4)) ?_ λy hy=>ak hy);refine aV (λx=>x=(I,A,if (l! (wl z o (l! z)))=0 then z else xl z (BQ (wl z o (l! z)) u) 4)) ?_ ?_
  .refine fK (λg=>?_) λg=>ak ?_
   .have h0:¬l! (wl z o (l! z))=0:=λq=>by have:=OO (u:=u) q;dsimp only at g;omega
    have hp:=Uv (u:=u) h0;refine aP hp.1 hp.2 (aP hp.1 hp.2 (ak ?_));rw[av h0];rfl
   .have:l! (wl z o (l! z))=0:=xT λq=>by have:=(Uv (u:=u) q).1;dsimp only at g;omega
    rw[aC this]
  rintro x rfl;exact ak rfl
def ap2 (th:Y c!) (l:η) (i:Int):F_ th (l++[i])=xl (F_ th l) i 4:=by unfold F_;rw[gd];rfl
def ap1 (l:η):∀(th:Y c!) (j:Int),0<=j->(∀z∈l,0<=z/\z<l! th/\¬z=j)->aI hP (F_ th l) j=aI hP th j:=by
 induction l with
 |nil=>intro th j _ _;rfl
 |cons x r L=>
  intro th j I h;have A:=h x (by simp);refine (L (xl th x 4) j I λz hz=>?_).trans ?_
  .have:=h z (by grind);unfold xl;rw[bN];exact this
  .unfold xl;rw[mi (T:=hP) th x j _ A.1 A.2.1 I,av λq=>A.2.2 q.symm]
def Zn (s:SY) (o:Int) (hs:l! s.2.2.2<=1000):ie ((s.2.1,o),s.1,s.2.2.1,s.2.2.2)=Z ((l! (wl s.2.2.2 o (l! s.2.2.2)):Int),s.1,s.2.2.1,F_ s.2.2.2 (wl s.2.2.2 o (l! s.2.2.2))):=by
 refine cz ?_;let⟨s1,L,I,A⟩:=s;dsimp only at hs ⊢;unfold ie nZ be bA ct dF ck bQ lx aZ cP aH cL;refine kJ (l! A) (by omega) (λi x=>x=(((l! (wl A o i):Int),(i:Int)),s1,I,F_ A (wl A o i),L)) ?_ ?_ rfl
 .rintro i x hi rfl;have hl:=vT A o i;have hg:aI hP (F_ A (wl A o i)) (i:Int)=aI hP A (i:Int):=ap1 _ _ _ (by omega) λz hz=>by have:=oz.1 hz;exact⟨this.1,by omega,by omega⟩
  have hq:=F9 (wl A o i) A;refine c8 ?_;refine aV (λx=>x=((l! (wl A o (i+1)):Int),s1,I,F_ A (wl A o (i+1)),L)) ?_ ?_
  .refine b_ (b_ (aT (aX (ain _ _) ?_)));rw[Lz];refine aR (λh=>?_) λh=>ak ?_
   .have h:FA o (aI hP A (i:Int))=J:=hg▸h;refine b_ (b_ (ak ?_));rw[aC h,ap2];rw[gZ];simp[bH,jW,qi];rfl
   .grind
  rintro x rfl;exact ak (by dsimp only;rw[gZ])
 .rintro x rfl;exact c9 (ak rfl)
def as2 (w:WT) (s:SY) (z:SB i s) (hn:i<=1000) (hw:l! w.2.2.1<=1000) (t k o u:Int) (he:EN w s t k o) (hr:QK w s t k o) (I:¬k=8) (A:¬k=9):ig (w,s,t,k,o,u)=Z ((kT w s t k o u).1,(kT w s t k o u).2,J):=by
 refine cz ?_;unfold ig be bA bM cE fe ct dF c_ gy vq ck bj bV bJ lx aH;refine aX (HI w s z hn hw t k o he hr) (jJ rfl (aX (alt s z) ?_));suffices hmain:Ok _ _ from aV (λx=>((x.2.2.2.1,x.2.1,x.2.2.2.2),x.1)=kT w s t k o u) hmain λx L=>ak (by rw[<- L])
 obtain⟨nm,t0,t1,cd,e1,e2,e3⟩:=id he;obtain⟨_,_,ce,lk,cn,th,fu⟩:=nm;have hm:16<=k/\k<=19->0<=(aI itK w.2.2.1 o).2/\(aI itK w.2.2.1 o).2<l! w.2.1:=λh=>cd _ (bC (cn h).1 (cn h).2)
 cases kdI k
 case no hk _=>omega
 all_goals first|exact (I rfl).elim|exact (A rfl).elim|skip
 all_goals simp only[bO,dD,Pr]
 all_goals with_reducible repeat' first|apply OS.ok;constructor|refine IM.mk λ_=>?_
 all_goals try simp only[aw,s6] at*
 all_goals try rw[bN]
 all_goals first|omega|exact (hm ⟨by decide,by decide⟩).1|exact e1▸(hm ⟨by decide,by decide⟩).2|exact rfl|skip
 .refine aX (aox s o u z.th) (bl ?_ (ak ?_))
  .have:aj (if (l! (wl s.2.2.2 o (l! s.2.2.2)))=0 then s.2.2.2 else xl s.2.2.2 (BQ (wl s.2.2.2 o (l! s.2.2.2)) u) 4)=l! s.2.2.2:=by
    split
    .rfl
    .exact bN ..
   dsimp only;rw[this];simp
  .rw[CX];by_cases h:l! (wl s.2.2.2 o (l! s.2.2.2))=0
   .rw[aC h,aC h,OO h]
   .rw[av h,av h]
 .refine aX (Zn s o z.th) (bl ?_ (ak rfl));dsimp only;rw[F9];simp
def D7:Nat->Y η
 |0=>[[]]
 |m+1=>D7 m++(D7 m).map ((3-(m:Int))::·)
def Q0:∀m,[]∈D7 m
 |0=>by simp[D7]
 |m+1=>by simp[D7,Q0 m]
def HV:∀(m:Nat) (l:η),KB l->(∀z∈l,4-(m:Int)<=z/\z<4)->l∈D7 m
 |m,[],_,_=>Q0 m
 |0,a::r,_,h=>by have:=h a (by simp);omega
 |m+1,a::r,hA,h=>by
  have I:=h a (by simp);rw[D7,cq];by_cases e:a=3-(m:Int)
  .refine .inr (cC.2 ⟨r,HV m r hA.2 λz A=>?_,by rw[e]⟩);have:=h z (by grind);have:=hA.1 z A;omega
  .refine .inl (HV m (a::r) hA λz A=>?_);have:=h z A;rcases bh.1 A with rfl|A
   .omega
   .have:=hA.1 z A;omega
def asa (h:KB z) (I:∀l∈z,0<=l/\l<4):z∈D7 4:=HV 4 z h λl A=>by have:=I l A;omega
def in4:η:=[0,1,2,3]
def adp {t:Int} (h0:0<=t) (h1:t<4):t∈in4:=by
 have:t=0\/t=1\/t=2\/t=3:=by omega
 rcases this with rfl|rfl|rfl|rfl<;>simp[in4]
def ay0 (l:η) (t:Int):Bool:=l.contains t||((yN (l++[t])==Z (wV l [t]))&&(mL (wV l [t])==Z (wV l [t]))&&aA (l! (wV l [t])) (l! (l++[t])))
def az5 (l:η) (t:Int):Bool:= !l.contains t||(jN (l,t)==Z (t,wo l t))
def ao7:((D7 4).all λl=>in4.all λt=>ay0 l t)=J:=by kernel_rfl
def aq3:((D7 4).all λl=>in4.all λt=>az5 l t)=J:=by kernel_rfl
def srt8 {t:Int} (h:KB z) (A:∀l∈z,0<=l/\l<4) (h0:0<=t) (h1:t<4) (I:¬t∈z):yN (z++[t])=Z (wV z [t])/\mL (wV z [t])=Z (wV z [t])/\l! (wV z [t])=l! (z++[t]):=by
 have:=iF.1 (iF.1 ao7 z (asa h A)) t (adp h0 h1);unfold ay0 at this;simp_all
def del8 {t:Int} (h:KB z) (A:∀l∈z,0<=l/\l<4) (h0:0<=t) (h1:t<4) (I:z.contains t=J):jN (z,t)=Z (t,wo z t):=by
 have:=iF.1 (iF.1 aq3 z (asa h A)) t (adp h0 h1);unfold az5 at this
 grind
def aqg (L I A:Int) (r0 r1 z:η) (h:Int) (d:θ) (th:Y c!) (h0:l! r0<=1000) (h1:l! r1<=1000) (h2:l! z<=1000) (hd:l! d<=1000) (ht:l! th<=1000):sB ([(L,r0),(I,r1),(A,z)],h,d,th)=Z ((h,d,th),(L,I,A),r0,r1,z):=by
 refine cz ?_;have cl:∀l:η,l! l<=1000->qQ l=Z l:=λl hl=>cz (a! (ak rfl))
 refine bl rfl (aV (λx=>x=(([(L,r0),(I,r1),(A,z)],h,d,th),0,(L,I,A),r0,r1,z)) ?_ ?_)
 .exact qu rfl (bl rfl (aT (aX (cl _ h0) (qu rfl (bl rfl (aT (aX (cl _ h1) (qu rfl (bl rfl (aT (aX (cl _ h2) (jJ rfl (ak rfl)))))))))))))
 rintro x rfl;refine aX (x:=d) (cz (bP (by grind) (by omega) (ak rfl))) (aX (x:=th) (cz (bP (by grind) (by omega) (ak rfl))) (ak rfl))
def as3 (w:WT) (s:SY) (z:SB i s) (hn:i<=1000) (I:l! w.2.2.1<=1000) (t k o u:Int) (he:EN w s t k o) (L:QK w s t k o) (hk:k=8\/k=9):ig (w,s,t,k,o,u)=U:=by
 have h1:=HI w s z hn I t k o he L;have A:=alt s z;rcases hk with rfl|rfl
 .unfold ig be bA bM cE fe ct dF c_ gy vq ck bj bV bJ lx aH;simp[h1,A,bO,dD,Pr];cases ef o (aj s.1)<;>rfl
 .unfold ig be bA bM cE fe ct dF c_ gy vq ck bj bV bJ lx aH;simp[h1,A,bO,dD,Pr];cases ef o (aj s.1)<;>rfl
def as1 (w:WT) (s:SY) (I:SB i s) (hn:i<=900) (hw:l! w.2.2.1<=1000) (t k u:Int) (he:EN w s t k 2) (hr:QK w s t k 2) (hk:k=8\/k=9) (h3:l! s.1=3) (hA:KB (aI dO s.1 2).2) (h4:∀z∈(aI dO s.1 2).2,0<=z/\z<4) (t4:t<4):md (w,s,t,k,2,u)=Z ((kT w s t k 2 u).1,(kT w s t k 2 u).2,J):=by
 have h1:=HI w s I (by omega) hw t k 2 he hr;have t0:=he.t0;have ra:=hr.ra;have rr:=hr.rr;have hrd:=I.rd;have hdn:=I.dn;have hth:=I.th;let⟨s1,h,d,th⟩:=s
 match s1,h3 with
 |[(a0,r0),(a1,r1),(L,A)],_=>
  have g0:l! r0<=i:=hrd (a0,r0) (by simp);have g1:l! r1<=i:=hrd (a1,r1) (by simp);have g2:l! A<=i:=hrd (L,A) (by simp);have hA:KB A:=hA;have hc:=aqg a0 a1 L r0 r1 A h d th (by omega) (by omega) (by omega) hdn hth;refine cz ?_;unfold md be bA bM cE fe kZ dF c_ gy rY bj wT bV aH;rcases hk with rfl|rfl
  .have ra:A.contains t=af:=ra rfl;let⟨q1,q2,q3⟩:=srt8 hA h4 t0 t4 (by grind);simp[h1,hc,bO,dD,Pr];refine aV (λx=>x=(0,(h,d,th),0,(((a0,r0),(a1,r1),L)),J,wV A [t])) ?_ ?_
   .refine bP (by grind) (by omega) (aX q1 (bl ?_ (aX q2 (bl ?_ (ak ?_)))))
    .rw[q3];simp
    .simp
    .rfl
   rintro x rfl;exact ak rfl
  .have rr:A.contains t=J:=rr rfl;have q1:=del8 hA h4 t0 t4 rr;simp[h1,hc,bO,dD,Pr];refine aV (λx=>x=(0,(h,d,th),0,(((a0,r0),(a1,r1),L)),af,wo A t)) ?_ ?_
   .exact aX q1 (bl (by simp) (ak rfl))
   rintro x rfl;exact ak rfl
def axa (w:WT) (s:SY) (L:SB i s) (hn:i<=900) (I:l! w.2.2.1<=1000) (t k o u:Int) (he:EN w s t k o) (hr:QK w s t k o) (h2:k=8\/k=9->o=2) (h3:l! s.1=3) (hA:∀l∈s.1,KB l.2/\∀z∈l.2,0<=z/\z<4) (t4:t<4):tY (w,s,t,k,o,u)=Z ((kT w s t k o u).1,(kT w s t k o u).2,J):=by
 unfold tY;by_cases A:k=8\/k=9
 .have:=h2 A;subst this;have hg:=hA _ (bC (T:=dO) (xs:=s.1) (j:=2) (by omega) (by omega));rw[as3 w s L (by omega) I t k 2 u he hr A,as1 w s L hn I t k u he hr A h3 hg.1 hg.2 t4];rfl
 .rw[as2 w s L (by omega) I t k o u he hr (λh=>A (.inl h)) λh=>A (.inr h)];rfl
def aei (l:η) (h:l! l<=100000):Cd l=Z l:=cz (a! (ak rfl))
def aqh (l:η) (h:l! l<=100000):qQ l=Z l:=cz (a! (ak rfl))
def azy {n:Nat} (w:WT) (s:SN) (e:ET) (I:NB n s) (hn:n<=900) (hw:l! w.2.2.1<=1000) (hF:F16 w s) (hE:EN w s.1 e.1 e.2.1 e.2.2.1) (hS:S16 w s e) (ld:l! e.2.2.2.2.2.1<=1000000) (lf:l! e.2.2.2.2.2.2<=1000000) (h2:e.2.1=8\/e.2.1=9->e.2.2.1=2) (h3:l! s.1.1=3) (hA:∀l∈s.1.1,KB l.2/\∀z∈l.2,0<=z/\z<4) (t4:e.1<4):l9 (w,s,e)=Z (nxP w s e,J):=by
 refine cz ?_;let⟨rd,q1,q2,de,fr,nd,nf,va⟩:=id hS;let⟨nm,L,t1,cd,e1,e2,e3⟩:=id hE;let⟨k1,k2,ce,lk,cn,th,fu,_,_,_⟩:=nm;let⟨f1,f2,f3⟩:=id hF;have hsc:=I.c;have hsf:=I.f;have hsk:=I.k;refine aV (λx=>x=(af,w,s,e,0)) ?_ ?_
 .refine aX (ayq w s hw _ _ _ hE hF) (jJ rfl (c9 (fK (λg=>(by grind)) λ_=>c9 (ak ?_))));rw[jS.2 (show e.2.1<=23 by omega)]
 rintro x rfl;refine dR (aV (λx=>x=(af,w,s,e,0)) ?_ ?_)
 .exact aX (HI w s.1 I.sb (by omega) hw _ _ _ hE rd) (jJ rfl (aX (aon w e q1 q2) (jJ rfl (aX (Xj w s e (λh=>ce h) de fr L (by omega) nd nf ld lf) (jJ rfl (aX (ao1 w s I.sb e hF hE va) (ak rfl)))))))
 rintro x rfl;refine dR (aV (λx=>x.2=(w,s,e,0)/\kT w s.1 e.1 e.2.1 e.2.2.1 x.1=kT w s.1 e.1 e.2.1 e.2.2.1 e.2.2.2.1) ?_ ?_)
 .exact aK (λ_=>ak ⟨rfl,rfl⟩) λh=>ak ⟨rfl,Ye _ _ _ _ _ _ _ h⟩
 rintro⟨u,x⟩ ⟨hx,hu⟩;dsimp only at hx hu;subst hx;refine aX (axa w s.1 I.sb hn hw _ _ _ u hE rd h2 h3 hA t4) (jJ rfl (aX (aei _ (by grind)) (aX (aei _ (by grind)) (aX (aqh _ (by grind)) ?_))));rw[hu];refine aV (λx=>x.1=e/\x.2.2.1=(kT w s.1 e.1 e.2.1 e.2.2.1 e.2.2.2.1).1/\x.2.2.2.1=ceP s.2.1 e/\x.2.2.2.2.1=fuP s.2.2.1 e/\x.2.2.2.2.2=s.2.2.2) ?_ ?_
 .unfold ceP fuP;refine aK (λh=>?_) λh=>aK (λh'=>?_) λh'=>ak ⟨rfl,rfl,(av h).symm,(av h').symm,rfl⟩
  .have h:e.2.1=4:=h;have A:=ce (.inr h);exact aP A.1 (by grind) (aP A.1 (by grind) (ak ⟨rfl,rfl,(aC h).symm,(av (by omega)).symm,rfl⟩))
  .have h:e.2.1=22:=h';have A:=fu (.inl h);exact aP A.1 (by grind) (aP A.1 (by grind) (ak ⟨rfl,rfl,(av (by omega)).symm,(aC h).symm,rfl⟩))
 rintro⟨x1,x2,x3,x4,x5,x6⟩ ⟨h1,h2,h4,h5,h6⟩;simp only at h1 h2 h4 h5 h6;subst h1 h2 h4 h5 h6;have t2:x1.1<(l! s.2.2.2:Int):=by omega
 exact aP L t2 (aP L t2 (aT (aP L t2 (aP L t2 (ak rfl)))))
def aog {rows:Y θ} {t:Int} {e:ET} (L:0<=t) (I:t<l! rows) (h1:∀y∈e.2.2.2.2.2.1,0<=y/\(BG (T:=.bool) rows t).getD y.toNat af=J) (h2:∀y∈e.2.2.2.2.2.2,0<=y/\(BG (T:=.bool) rows t).getD y.toNat af=J) (ld:l! e.2.2.2.2.2.1<=1000000) (lf:l! e.2.2.2.2.2.2<=1000000):eU (((t,aS (l! (BG (T:=.bool) rows t))),e),rows)=Z (J,rows):=by
 refine cz ?_;unfold eU kL fe vq bQ kw wT bV bJ aZ cP aH cL;refine kJ 2 (by omega) (λi x=>x=(((t,aS (l! (BG (T:=.bool) rows t))),(i:Int)),rows)) ?_ ?_ rfl
 .rintro i x hi rfl;refine bD (λ_=>?_) λg=>(by dsimp only at g;omega)
  refine cW (a? (De (by dsimp only;omega) (aT ?_)));have hr:∃l:η,aI (.sl aN) [e.2.2.2.2.2.1,e.2.2.2.2.2.2] (i:Int)=l/\(∀y∈l,0<=y/\(BG (T:=.bool) rows t).getD y.toNat af=J)/\l! l<=1000000:=by
   match i,hi with
   |0,_=>exact⟨_,rfl,h1,ld⟩
   |1,_=>exact⟨_,rfl,h2,lf⟩
  let⟨l,er,hA,hl⟩:=hr;dsimp only;rw[er];generalize hR:BG (T:=.bool) rows t=r at*
  refine kJ (l! l) (by omega) (λj x=>x=(((t,aS (l! r)),(j:Int)),rows)) ?_ ?_ rfl
  .rintro j x hj rfl;refine c8 ?_;have m:=hA _ (bC (T:=aN) (xs:=l) (j:=(j:Int)) (by omega) (by omega));refine b_ (aT (aV (λx=>x=(((t,aS (l! r)),af),rows)) ?_ ?_))
   .obtain⟨z,hze⟩:∃z:Int,aI aN l (j:Int)=z:=⟨_,rfl⟩
    have m:0<=z/\r.getD z.toNat af=J:=by rw[<- hze];exact m
    dsimp only;rw[hze];have hz:z.toNat<l! r:=by
     rcases cN z.toNat (l! r) with g|g
     .exact g
     .have:=m.2;rw[aD,eA g]at this;cases this
    have A:(0:Int)<=z:=m.1;have hzi:(z:Int)<(l! r:Int):=by omega
    refine bD (λg=>bT A (Int.not_le.2 g)) λ_=>fK (λg=>bT hzi (tW.2 g)) λ_=>aP A hzi (aP L I ?_)
    rw[hR];refine aP A hzi (aT (ak ?_));have:aI (.bool) r z=J:=m.2;dsimp only;rw[this];rfl
   rintro x rfl;refine dR (ak ?_);dsimp only;rw[gZ];rfl
  .rintro x rfl;refine c9 (ak ?_);dsimp only;rw[gZ];rfl
 .rintro x rfl;exact bD (λg=>(by dsimp only at g;omega)) λ_=>ak rfl
abbrev W8 (n:Nat) (s:Y π):WT:=(C0,Kx,QU,YI,zP.take n,s)
def WX.w8 {w:WT} (z:WX w):∃n,(n=1\/n=2\/n=3\/n=4)/\w=W8 n w.2.2.2.2.2:=by
 let⟨h1,h2,h3,h4,⟨n,I,A,L⟩,_,_⟩:=z
 grind
abbrev sn8 (w:WT):SN:=(KL w,ce0 w,fu0 w,aE (l! w.2.2.2.2.1) 0)
def Pq (s:Y π):fg (W8 1 s)=Z (sn8 (W8 1 s)):=by kernel_rfl
def st2 (s:Y π):fg (W8 2 s)=Z (sn8 (W8 2 s)):=by kernel_rfl
def st3 (s:Y π):fg (W8 3 s)=Z (sn8 (W8 3 s)):=by kernel_rfl
def st4 (s:Y π):fg (W8 4 s)=Z (sn8 (W8 4 s)):=by kernel_rfl
def avl {w:WT} (z:WX w):fg w=Z (sn8 w):=by
 let⟨n,A,e⟩:=z.w8;rw[e];rcases A with rfl|rfl|rfl|rfl
 .exact Pq _
 .exact st2 _
 .exact st3 _
 .exact st4 _
abbrev VN4:Y ζ:=[[120],[121],[118],[113]]
def vc8:ip C0=Z (VN4,J):=by kernel_rfl
def vn1 (s:Y π):ec (W8 1 s,VN4)=Z J:=by kernel_rfl
def vn2 (s:Y π):ec (W8 2 s,VN4)=Z J:=by kernel_rfl
def vn3 (s:Y π):ec (W8 3 s,VN4)=Z J:=by kernel_rfl
def vn4 (s:Y π):ec (W8 4 s,VN4)=Z J:=by kernel_rfl
def vs8 {w:WT} (L:WX w) (hb:VL w):gw w=Z J:=by
 have hv:=L.v;have hs:=L.s;have ht:=hb.t0;refine cz ?_;unfold gw lX be bA cE c_ bQ gO bJ aZ cP aH cL;refine kJ (l! w.2.2.2.2.2) (by omega) (λi x=>∃t n:Int,x=((t,n,(i:Int)),w)/\Ps (l! w.2.2.2.2.1) (w.2.2.2.2.2.take i)=Z (t,n)/\0<=t/\t<l! w.2.2.2.2.1/\0<=n/\n<=i) ?_ ?_ ⟨0,0,rfl,rfl,by omega,by omega,by omega,by omega⟩
 .rintro i x hi ⟨t,n,rfl,h1,t0,t1,n0,n1⟩;refine c8 ?_;refine b_ (aT ?_);have I:=acm hv (i+1);have A:Ps (l! w.2.2.2.2.1) (w.2.2.2.2.2.take (i+1))=YK (l! w.2.2.2.2.1) (Z (t,n)) (aI qG w.2.2.2.2.2 (i:Int)):=by rw[Md hi,h1]
  rw[A]at I;revert I A;generalize aI qG w.2.2.2.2.2 (i:Int)=z;intro I A;obtain⟨(a:Int),(b:Int),(c:Int)⟩:=z;have h5:(a=t/\b=n)\/(t<a/\a<l! w.2.2.2.2.1/\b=0):=by
   simp[YK]at I
   grind
  refine aV (λx=>x=(af,w,a,b,c)) ?_ ?_
  .refine c9 (ak ?_);rw[mf.2 (by grind)]
  rintro x rfl;rcases h5 with ⟨rfl,rfl⟩|⟨q1,q2,rfl⟩
  .refine aV (λx=>x=((a,b),w,a,b,c)) (c9 (ak rfl)) ?_;rintro x rfl;refine bU (λg=>(g rfl).elim) λ_=>ak ⟨a,b+1,?_,?_,t0,t1,by omega,by omega⟩
   .rw[gr (n:=b+1) (by omega) (by omega),gZ]
   .rw[A];simp[YK]
  .refine aV (λx=>x=((a,0),w,a,0,c)) (c8 (ak rfl)) ?_;rintro x rfl;refine bU (λg=>(g rfl).elim) λ_=>ak ⟨a,1,?_,?_,by omega,q2,by omega,by omega⟩
   .rw[gr (n:=0+1) (by omega) (by omega),gZ];rfl
   .rw[A];show (if a=t/\(0:Int)=n then Z (t,n+1) else if t<a/\a<_/\(0:Int)=0 then Z (a,1) else U)=Z (a,1)
    grind
 .rintro x ⟨t,n,rfl,_⟩;exact c9 (ak rfl)
def VW8 {w:WT} (z:WX w) (hb:VL w):iu w=Z J:=by
 have hs:=vs8 z hb;have hvn:ec (w,VN4)=Z J:=by
  let⟨n,hn,e⟩:=z.w8;rw[e];rcases hn with rfl|rfl|rfl|rfl
  .exact vn1 _
  .exact vn2 _
  .exact vn3 _
  .exact vn4 _
 have hc:=z.c;have hd:=z.d;have hl:=z.l;let⟨w1,w2,w3,L,I,A⟩:=w;let⟨b1,b2,b3,b4,b0,b5,b6⟩:=hb;subst hc hd hl;refine cz ?_;have f:∀n m:Nat,n<=m->gI (m:Int) (aS n)=af:=λn m h=>jS.2 (by grind)
 refine aV (λx=>x=(af,C0,Kx,QU,L,I,A)) ?_ ?_
 .refine jJ rfl (jJ rfl (jJ rfl (jJ (f _ 2 b4) (ak ?_))))
  grind
 rintro x rfl;refine dR (aV (λx=>x=(af,C0,Kx,QU,L,I,A)) ?_ ?_)
 .refine jJ (jS.2 (by grind)) (ak ?_)
  grind
 rintro x rfl;refine dR (aX vc8 (aV (λx=>x=(af,C0,Kx,QU,L,I,A)) ?_ ?_))
 .exact dR (aX hvn (ak rfl))
 rintro x rfl;refine dR (kJ 1 (by omega) (λi x=>x=((i:Int),C0,Kx,QU,L,I,A)) ?_ ?_ rfl)
 .rintro i x hi rfl;have:i=0:=by omega
  subst this;refine qu rfl (bl rfl (aT (aX (x:=J) ?_ (dR (ak rfl)))));rfl
 .rintro x rfl;exact jJ rfl (aX (x:=J) (by rw[hs];rfl) (ak rfl))
abbrev eN (l:Y ET) (i:Nat):ET:=aI gm l (i:Int)
def Fp {l:Y ET} (h:i<l! l):eN l i∈l:=bC (T:=gm) (by omega) (by omega)
variable {L:Y ET}
def aup {e:ET} (h:i<l! L):eN (L++[e]) i=eN L i:=by
 unfold eN;rw[sL,sL,aD,aD,b8 h]
def aq2 (l:Y ET) (e:ET):eN (l++[e]) (l! l)=e:=by
 unfold eN;rw[sL,aD,bS (bK _),Lw];rfl
def wU (w:WT) (l:Y ET):SY×x!:=l.foldl (λs e=>((kT w s.1 e.1 e.2.1 e.2.2.1 e.2.2.2.1).1,ceP s.2.1 e,fuP s.2.2 e)) (KL w,ce0 w,fu0 w)
def CY (w:WT) (h:i<l! L):wU w (L.take (i+1))=((kT w (wU w (L.take i)).1 (eN L i).1 (eN L i).2.1 (eN L i).2.2.1 (eN L i).2.2.2.1).1,ceP (wU w (L.take i)).2.1 (eN L i),fuP (wU w (L.take i)).2.2 (eN L i)):=by
 rw[nV (T:=gm) h];unfold wU;rw[gd];rfl
def Acw.all {w:WT} {I:SY} {A:η} (h:Acw w L I z A):wU w L=(I,z,A)/\∀i,i<l! L->SCx w (L.take i) (wU w (L.take i)).1 (wU w (L.take i)).2.1 (wU w (L.take i)).2.2 (eN L i):=by
 induction h with
 |nil=>exact⟨rfl,λi hi=>bT hi (qe _)⟩
 |snoc h hs l=>
  rename_i L I z A e;let⟨h1,h2⟩:=l;refine ⟨by unfold wU at h1 ⊢;rw[gd,h1];rfl,λi hi=>?_⟩;rw[bH,dI]at hi;rcases cN i (l! L) with g|g
  .rw[tm (by omega),aup g];exact h2 i g
  .have:i=l! L:=by omega
   subst this;rw[tm (bK _),dh,aq2,h1];exact hs
def TR.sc {w:WT} (tr:TR (w,L)) (h:i<l! L):SCx w (L.take i) (wU w (L.take i)).1 (wU w (L.take i)).2.1 (wU w (L.take i)).2.2 (eN L i):=by
 let⟨z,I,A,ac⟩:=tr.ac;exact ac.all.2 i h
def Rl (w:WT) (l:Y ET):HS:=l.foldl (λh e=>(Jj w h (evP e)).1) (HS.zero w)
def cf (l:Y ET) (i:Nat):EV:=evP (eN l i)
def LV (w:WT) (l:Y ET) (i:Nat):η:=wO w (Rl w (l.take i)) (cf l i)
def Gq (w:WT) (h:i<l! L):Rl w (L.take (i+1))=iD w (Rl w (L.take i)) (cf L i) (LV w L i):=by
 rw[nV (T:=gm) h];unfold Rl;rw[gd];rfl
def Ts {w:WT} (tr:TR (w,L)):∀i:Nat,i<=l! L->UQ (i:Int) (Rl w (L.take i))/\Fit w (Rl w (L.take i))
 |0,_=>by
  have wb:=tr.wb;dsimp only at wb;exact⟨HS.zero_ok (by have:=wb.c;omega) (by have:=wb.l;omega) (by have:=wb.f;omega) (by have:=wb.t;omega),Fit.zero w⟩
 |i+1,h=>by
  let⟨o,z⟩:=Ts tr i (by omega);have A:=tr.len;dsimp only at A;have ok:=T2 (tr.ev _ (Fp (l:=L) (i:=i) (by omega))) tr.wb z;rw[Gq w (by omega)];exact⟨aiz (w:=w) (e:=cf L i) o (by omega) ok.th4,z.step (cf L i)⟩
def Nz {w:WT} (tr:TR (w,L)) (h:i<l! L):EOK w (Rl w (L.take i)) (cf L i):=T2 (tr.ev _ (Fp h)) tr.wb (Ts tr i (by omega)).2
def kP {w:WT} (tr:TR (w,L)) (h:i<l! L):EvT (cf L i) (eN L i):=ayu (tr.ev _ (Fp h))
def LE (a b:η):Prop:=l! a<=l! b/\∀k,a.getD k 0<=b.getD k 0
def LE.refl (a:η):LE a a:=⟨bK _,λ_=>eS _⟩
def LE.trans {b c:η} (h:LE z b) (g:LE b c):LE z c:=⟨c7 h.1 g.1,λk=>qM (h.2 k) (g.2 k)⟩
def LE.jl {b:η} (h:LE z b):jl z b=b:=yQ (by rw[rK];have:=h.1;omega) λi=>by rw[tK,nh];have:=h.2 i;omega
def Fv (a b:η):LE a (jl a b):=⟨by rw[rK];omega,λk=>by rw[tK,nh];omega⟩
def ac5 (a b:η):LE b (jl a b):=⟨by rw[rK];omega,λk=>by rw[tK,nh];omega⟩
def Ky (a:η) (t:Nat):LE a (tk a t):=⟨by rw[QZ];omega,λk=>by rw[BV];split<;>(try subst k)<;>omega⟩
def L4:∀(l:Y η) (c:η),LE c (l.foldl jl c)
 |[],c=>LE.refl c
 |x::r,c=>(Fv c x).trans (L4 r _)
def asw (w:xR) (h:HS) (e:EV):LE (h.T.getD e.th []) (wO w h e):=(L4 _ _).trans (Ky _ _)
def wI (l:Y R) (i j:Nat) (x d:R):(l.set i x).getD j d=if i=j/\i<l! l then x else l.getD j d:=by grind
structure nk (P:η->Prop) (h:HS):Prop where
 T:∀u,P (h.T.getD u [])
 S:∀u,P (h.S.getD u [])
 L:∀u,P (h.L.getD u [])
 R:∀u,P (h.R.getD u [])
 C:∀u,P (h.C.getD u [])
 F:∀u,P (h.F.getD u [])
 X:P h.X
 N:∀u,P (h.N.getD u [])
def nk.mono {P Q:η->Prop} {h:HS} (a:nk P h) (g:∀x,P x->Q x):nk Q h:=⟨λu=>g _ (a.T u),λu=>g _ (a.S u),λu=>g _ (a.L u),λu=>g _ (a.R u),λu=>g _ (a.C u),λu=>g _ (a.F u),g _ a.X,λu=>g _ (a.N u)⟩
def nk.set {P:η->Prop} {l:Y η} (h:∀u,P (l.getD u [])) (c:P z) (i:Nat):∀u,P ((l.set i z).getD u []):=λu=>by
 rw[wI];split
 .exact c
 .exact h u
def nk.repl {P:η->Prop} (h:P []) (n:Nat):∀u,P ((aE n []).getD u []):=λu=>by grind
def nk.zero {P:η->Prop} (h:P []) (w:xR):nk P (HS.zero w):=⟨nk.repl h _,nk.repl h _,nk.repl h _,nk.repl h _,nk.repl h _,nk.repl h _,h,nk.repl h _⟩
def nk.step {P:η->Prop} (A:∀a b,P a->P b->P (jl a b)) {w:xR} {h:HS} (a:nk P h) (e:EV) (c:P z):nk P (iD w h e z):=by
 have b:nk P {h with T:=h.T.set e.th z}:={a with T:=nk.set a.T c _}
 unfold iD;simp only[];repeat' split
 .exact {b with S:=nk.set a.S c _}
 .exact {b with L:=nk.set a.L (A _ _ (a.L _) c) _}
 .exact {b with R:=nk.set a.R (A _ _ (a.R _) c) _}
 .exact {b with L:=nk.set a.L (A _ _ (a.L _) c) _}
 .exact {b with C:=nk.set a.C (A _ _ (a.C _) c) _}
 .exact b
 .exact {b with F:=nk.set a.F (A _ _ (a.F _) c) _}
 .exact {b with X:=A _ _ a.X c}
 .exact {b with N:=nk.set a.N c _}
 .exact b
 .refine {b with N:=λu=>?_};have:=a.N u;simp only[FF];rw[aD]at this ⊢;rw[List.getElem?_mapIdx];cases I:h.N[u]? with
  |none=>rw[I]at this;exact this
  |some x=>grind
 .exact b
def nk.src {P:η->Prop} {w:xR} {h:HS} (a:nk P h) (e:EV):∀x∈s5 w h e,P x:=by
 intro c z;unfold s5 at z;repeat' (split at z)
 all_goals simp[bh,b7,eE]at z
 .subst z;exact a.S _
 .subst z;exact a.T _
 .rcases z with rfl|rfl
  .exact a.L _
  .exact a.R _
 .subst z;exact a.L _
 .rcases z with rfl|rfl|rfl
  .exact a.L _
  .exact a.R _
  .exact a.N _
 .subst z;exact a.C _
 .subst z;exact a.F _
 .subst z;exact a.X
def Z9 {P:η->Prop} (A:∀a b,P a->P b->P (jl a b)):∀(l:Y η) (c:η),P c->(∀x∈l,P x)->P (l.foldl jl c)
 |[],_,z,_=>z
 |x::r,_,z,h=>Z9 A r _ (A _ _ z (h x (dK ..))) λy I=>h y (cY _ I)
def ae4 (w:xR) (h:HS) (e:EV) (c:η):(iD w h e c).T=h.T.set e.th c:=by
 unfold iD;simp[];repeat' split
 all_goals rfl
def rP (l:Y ET) (u:Nat):Nat->Nat
 |0=>0
 |i+1=>if (cf l i).th=u then rP l u i+1 else rP l u i
def X5 (l:Y ET) (u i:Nat):∀j,rP l u i<=rP l u (i+j)
 |0=>bK _
 |j+1=>by
  have:=X5 l u i j;show rP l u i<=rP l u (i+j+1);rw[rP];split<;>omega
variable {m:Nat}
def CQ (l:Y ET) (u:Nat) (h:i<=m):rP l u i<=rP l u m:=by
 obtain⟨k,rfl⟩:∃k,m=i+k:=⟨m-i,by omega⟩
 exact X5 l u i k
def xN (l:Y ET) (i:Nat):rP l (cf l i).th (i+1)=rP l (cf l i).th i+1:=by rw[rP,aC rfl]
structure Gd (w:WT) (l:List ET) (i:Nat) (x:η):Prop where
 le:∀u,x.getD u 0<=(rP l u i:Int)
 dn:∀k,k<i->(rP l (cf l k).th k:Int)+1<=x.getD (cf l k).th 0->LE (LV w l k) x
def Gd.nil (w:WT) (l:Y ET) (i:Nat):Gd w l i []:=⟨λu=>by simp,λk _ h=>by simp at h;omega⟩
def Gd.jl {w:WT} (a b:η) (I:Gd w L i a) (A:Gd w L i b):Gd w L i (jl a b):=by
 refine ⟨λu=>?_,λk z h=>?_⟩
 .rw[tK,nh];have:=I.le u;have:=A.le u;omega
 .rw[tK,nh]at h;by_cases g:(rP L (cf L k).th k:Int)+1<=a.getD (cf L k).th 0
  .exact (I.dn k z g).trans (Fv _ _)
  .exact (A.dn k z (by omega)).trans (ac5 _ _)
def Gd.succ {w:WT} (h:Gd w L i z):Gd w L (i+1) z:=by
 refine ⟨λu=>?_,λk x g=>?_⟩
 .have:=h.le u;have:=CQ L u (show i<=i+1 by omega);omega
 .by_cases e:k=i
  .subst e;have:=h.le (cf L k).th;omega
  .exact h.dn k (by omega) g
structure GS1 (w:WT) (l:List ET) (i:Nat) (h:HS):Prop where
 a:nk (Gd w l i) h
 t:∀u,(h.T.getD u []).getD u 0=(rP l u i:Int)
def Uu {w:WT} (g:GS1 w L i (Rl w (L.take i))):Gd w L (i+1) (LV w L i)/\(LV w L i).getD (cf L i).th 0=(rP L (cf L i).th i:Int)+1:=by
 have l:Gd w L i ((s5 w (Rl w (L.take i)) (cf L i)).foldl AI.jl ((Rl w (L.take i)).T.getD (cf L i).th [])):=Z9 Gd.jl _ _ (g.a.T _) (g.a.src (w:=w) _);have hT:=g.t (cf L i).th;have hL:=L4 (s5 w (Rl w (L.take i)) (cf L i)) ((Rl w (L.take i)).T.getD (cf L i).th []);have hD:=(g.a.T (cf L i).th).dn;have I:=asw w (Rl w (L.take i)) (cf L i);have e:(LV w L i).getD (cf L i).th 0=(rP L (cf L i).th i:Int)+1:=by
  unfold LV wO;rw[BV,aC rfl];have:=hL.2 (cf L i).th;have:=l.le (cf L i).th;omega
 refine ⟨⟨λu=>?_,λk A h=>?_⟩,e⟩
 .by_cases z:(cf L i).th=u
  .subst z;rw[e,xN];omega
  .have:=l.le u;unfold LV wO;rw[BV,av λq=>z q.symm,rP,av z];exact this
 .by_cases hki:k=i
  .subst hki;exact LE.refl _
  have A:k<i:=by omega
  by_cases z:(cf L k).th=(cf L i).th
  .refine (hD k A ?_).trans I;rw[z,hT];have:=CQ L (cf L k).th (show k+1<=i from A);rw[xN,z]at this;omega
  .refine (l.dn k A ?_).trans (Ky _ _);unfold LV wO at h;rw[BV,av z]at h;exact h
def M1 {w:WT} (tr:TR (w,L)):∀i:Nat,i<=l! L->GS1 w L i (Rl w (L.take i))
 |0,_=>⟨nk.zero (Gd.nil w L 0) w,λu=>by have:=nk.repl (P:=λx=>x.getD u 0=0) (by simp) (l! w.2.2.2.2.1) u;exact this⟩
 |i+1,h=>by
  have g:=M1 tr i (by omega);let⟨I,A⟩:=Uu g;have ht:=(Nz tr (show i<l! L by omega)).th;rw[Gq w (by omega)];refine ⟨nk.step Gd.jl (g.a.mono λx h=>h.succ) _ I,λu=>?_⟩;rw[ae4,wI];by_cases z:(cf L i).th=u
  .subst z;rw[aC ⟨rfl,ht⟩,A,xN];omega
  .rw[av λq=>z q.1,g.t u,rP,av z]
def aej {w:WT} (tr:TR (w,L)) (h:i<l! L):(LV w L i).getD (cf L i).th 0=(rP L (cf L i).th i:Int)+1:=(Uu (M1 tr i (by omega))).2
def alv {w:WT} (tr:TR (w,L)) (h:i<l! L):Gd w L (i+1) (LV w L i):=(Uu (M1 tr i (by omega))).1
def Cov (w:WT) (l:Y ET) (k j:Nat):Prop:=(rP l (cf l k).th k:Int)+1<=(LV w l j).getD (cf l k).th 0
def Cov.le {w:WT} (tr:TR (w,L)) (A:i<=m) (z:m<l! L) (h:Cov w L i m):LE (LV w L i) (LV w L m):=(alv tr z).dn i (by omega) h
def Cov.of {w:WT} (tr:TR (w,L)) (z:i<l! L) (h:LE (LV w L i) (LV w L m)):Cov w L i m:=by
 have:=h.2 (cf L i).th;rw[aej tr z]at this;exact this
def Cov.own {w:WT} (tr:TR (w,L)) (z:i<m) (A:m<l! L) (h:(cf L i).th=(cf L m).th):Cov w L i m:=by
 unfold Cov;rw[h,aej tr A];have:=CQ L (cf L i).th (show i+1<=m from z);rw[xN,h]at this;omega
def Cov.trans {w:WT} (tr:TR (w,L)) {k:Nat} (hi:i<=m) (A:m<=k) (z:k<l! L) (h:Cov w L i m) (g:Cov w L m k):Cov w L i k:=Cov.of tr (by omega) ((h.le tr hi (by omega)).trans (g.le tr A z))
def yp (w:WT) (l:Y ET) (cl:Nat->η):Nat->HS
 |0=>HS.zero w
 |i+1=>iD w (yp w l cl i) (cf l i) (cl i)
abbrev Pv (w:WT) (l:Y ET) (cl:Nat->η) (i:Nat):η:=wO w (yp w l cl i) (cf l i)
def CL (w:WT) (l:Y ET) (cl:Nat->η):Prop:=∀i,i<l! l->cl i=Pv w l cl i\/∃s,s<i/\cl i=jl (Pv w l cl i) (cl s)
variable {d:Nat->η}
def CL.le {w:WT} (C:CL w L d) (h:i<l! L):LE (Pv w L d i) (d i):=by
 rcases C i h with e|⟨s,_,e⟩
 .rw[e];exact LE.refl _
 .rw[e];exact Fv _ _
def LO {w:WT} (tr:TR (w,L)) (C:CL w L d):∀i:Nat,i<=l! L->UQ (i:Int) (yp w L d i)/\Fit w (yp w L d i)/\∀k,k<i->En (i:Int) (d k)
 |0,_=>by
  have wb:=tr.wb;dsimp only at wb;exact⟨HS.zero_ok (by have:=wb.c;omega) (by have:=wb.l;omega) (by have:=wb.f;omega) (by have:=wb.t;omega),Fit.zero w,λk hk=>by omega⟩
 |i+1,h=>by
  let⟨o,A,I⟩:=LO tr C i (by omega);have hl:=tr.len;dsimp only at hl;have ok:=T2 (tr.ev _ (Fp (l:=L) (i:=i) (by omega))) tr.wb A;have h1:En ((i:Int)+1) (Pv w L d i):=OL o ok.th4;have z:En ((i:Int)+1) (d i):=by
   rcases C i (by omega) with e|⟨s,l,e⟩
   .rw[e];exact h1
   .rw[e];exact h1.jl ((I s l).mono (by omega))
  refine ⟨ae5 o (by omega) z,A.ent _ _,λk hk=>?_⟩;by_cases e:k=i
  .subst e;exact z
  .exact (I k (by omega)).mono (by omega)
section
variable {w:WT} {l:Y ET} {cl:Nat->η} (tr:TR (w,l)) (C:CL w l cl) {i:Nat} (h:i<l! l)
include tr C h
def Tu:UQ (i:Int) (yp w l cl i):=(LO tr C i (by omega)).1
def ZB:Fit w (yp w l cl i):=(LO tr C i (by omega)).2.1
def Fn:EOK w (yp w l cl i) (cf l i):=T2 (tr.ev _ (Fp h)) tr.wb (ZB tr C h)
def ab9:En ((i:Int)+1) (cl i):=(LO tr C (i+1) h).2.2 i (by omega)
def auv:En ((i:Int)+1) (Pv w l cl i):=OL (Tu tr C h) (Fn tr C h).th4
end
def Cn (l:Y ET) (i:Nat) (x:η):Prop:=∀u,x.getD u 0<=(rP l u i:Int)
def Cn.jl (a b:η) (A:Cn L i a) (z:Cn L i b):Cn L i (jl a b):=λu=>by rw[tK,nh];have:=A u;have:=z u;omega
def Cn.mono (h:Cn L i z) (g:i<=m):Cn L m z:=λu=>by have:=h u;have:=CQ L u g;omega
def Uq {w:WT} (tr:TR (w,L)) (C:CL w L d):∀i:Nat,i<=l! L->nk (Cn L i) (yp w L d i)/\(∀u,((yp w L d i).T.getD u []).getD u 0=(rP L u i:Int))/\∀k,k<i->Cn L (k+1) (d k)
 |0,_=>⟨nk.zero (λu=>by simp[rP]) w,λu=>by have:=nk.repl (P:=λx=>x.getD u 0=0) (by simp) (l! w.2.2.2.2.1) u;exact this,λk hk=>by omega⟩
 |i+1,h=>by
  let⟨a,t,c⟩:=Uq tr C i (by omega);have ok:=Fn tr C (show i<l! L by omega);have I:Cn L i ((s5 w (yp w L d i) (cf L i)).foldl AI.jl ((yp w L d i).T.getD (cf L i).th [])):=Z9 Cn.jl _ _ (a.T _) (a.src (w:=w) _);have hL:=(L4 (s5 w (yp w L d i) (cf L i)) ((yp w L d i).T.getD (cf L i).th [])).2 (cf L i).th;have h1:Cn L (i+1) (Pv w L d i)/\(Pv w L d i).getD (cf L i).th 0=(rP L (cf L i).th i:Int)+1:=by
   have ht:=t (cf L i).th;have hj:=I (cf L i).th;refine ⟨λu=>?_,?_⟩
   .unfold Pv wO;rw[BV];by_cases e:u=(cf L i).th
    .subst e;rw[aC rfl,xN];omega
    .rw[av e,rP,av λq=>e q.symm];exact I u
   .unfold Pv wO;rw[BV,aC rfl];omega
  have l:Cn L (i+1) (d i)/\(d i).getD (cf L i).th 0=(rP L (cf L i).th i:Int)+1:=by
   rcases C i (by omega) with e|⟨s,hs,e⟩
   .rw[e];exact h1
   .have A:=(c s hs).mono (show s+1<=i by omega);rw[e];refine ⟨h1.1.jl _ _ (A.mono (by omega)),?_⟩;have:=A (cf L i).th;rw[tK,nh,h1.2];omega
  refine ⟨nk.step Cn.jl (a.mono λx q=>Cn.mono q (by omega)) _ l.1,λu=>?_,λk hk=>?_⟩
  .show ((iD w (yp w L d i) (cf L i) (d i)).T.getD u []).getD u 0=_;rw[ae4,wI];by_cases z:(cf L i).th=u
   .subst z;rw[aC ⟨rfl,ok.th⟩,l.2,xN];omega
   .rw[av λq=>z q.1,t u,rP,av z]
  .grind
def BO (w:xR) (e:EV):j!:=if e.k=6\/e.k=10 then ((e.ob:Int),af) else if e.k=8 then ((e.ob:Int),J) else if e.k=17 then ((Ta w.2.2.1 e.ob:Nat),af) else (-1,af)
def DB (w:xR) (e:EV):j!:=if e.k=7\/e.k=11 then ((e.ob:Int),af) else if e.k=9 then ((e.ob:Int),J) else if e.k=16 then ((Ta w.2.2.1 e.ob:Nat),af) else (-1,af)
def adm (a b:η):jl a b=jl b a:=yQ (by simp[rK];omega) λi=>by simp only[tK,nh];omega
def JC (c:Nat->η) (p:Nat->Bool):Nat->η
 |0=>[]
 |i+1=>if p i=J then jl (JC c p i) (c i) else JC c p i
def ac6 (c:Nat->η) (p:Nat->Bool):∀i,(∀k,k<i->p k=af)->JC c p i=[]
 |0,_=>rfl
 |i+1,h=>by rw[JC,h i (by omega),av (by simp)];exact ac6 c p i λk z=>h k (by omega)
variable {p:Nat->Bool}
def QR (h:p i=J):JC d p (i+1)=jl (JC d p i) (d i):=by rw[JC,aC h]
def HG (h:p i=af):JC d p (i+1)=JC d p i:=by rw[JC,av (by grind)]
def ayx (w:xR) (h:HS) (e:EV) (c:η):(iD w h e c).S=if e.k=20 then h.S.set e.ob c else h.S:=by
 unfold iD;simp[];repeat' split
 all_goals first|rfl|omega
def az0 (w:xR) (h:HS) (e:EV) (c:η):(iD w h e c).L=if (e.k=7\/e.k=11) then jat h.L e.ob c else if e.k=16 then jat h.L (Ta w.2.2.1 e.ob) c else h.L:=by
 unfold iD;simp[];repeat' split
 all_goals first|rfl|omega
def ayy (w:xR) (h:HS) (e:EV) (c:η):(iD w h e c).R=if e.k=9 then jat h.R e.ob c else h.R:=by
 unfold iD;simp[];repeat' split
 all_goals first|rfl|omega
def az2 (w:xR) (h:HS) (e:EV) (c:η):(iD w h e c).C=if e.k=4/\BU w.1 e.ob=J then jat h.C e.ob c else h.C:=by
 unfold iD;simp[];repeat' split
 all_goals first|rfl|omega|(rename_i h1 z;exact bT ⟨by assumption,by assumption⟩ z)|(rename_i h1 z;exact bT z.2 h1)|(rename_i h1;exact bT h1.1 (by rfl))
def az1 (w:xR) (h:HS) (e:EV) (c:η):(iD w h e c).F=if e.k=22 then jat h.F e.ob c else h.F:=by
 unfold iD;simp[];repeat' split
 all_goals first|rfl|omega
def ayv (w:xR) (h:HS) (e:EV) (c:η):(iD w h e c).X=if e.k=13 then jl h.X c else h.X:=by
 unfold iD;simp[];repeat' split
 all_goals first|rfl|omega
def Gl (l:Y η) (i:Nat) (c:η) (o:Nat) (h:i<l! l):(jat l i c).getD o []=if i=o then jl (l.getD o []) c else l.getD o []:=by
 unfold jat
 grind
abbrev pT (l:Y ET) (u k:Nat):Bool:=decide ((cf l k).th=u)
abbrev pS (l:Y ET) (u k:Nat):Bool:=decide ((cf l k).k=20/\(cf l k).ob=u)
abbrev pL (w:WT) (l:Y ET) (x:j!) (k:Nat):Bool:=decide (DB w (cf l k)=x)
abbrev pC (w:WT) (l:Y ET) (o k:Nat):Bool:=decide ((cf l k).k=4/\(cf l k).ob=o/\BU w.1 o=J)
abbrev pF (l:Y ET) (o k:Nat):Bool:=decide ((cf l k).k=22/\(cf l k).ob=o)
abbrev pX (l:Y ET) (k:Nat):Bool:=decide ((cf l k).k=13)
structure IN (w:WT) (l:List ET) (cl:Nat->η) (i:Nat) (h:HS):Prop where
 T:∀u,h.T.getD u []=JC cl (pT l u) i
 S:∀u,h.S.getD u []=JC cl (pS l u) i
 L:∀o:Nat,h.L.getD o []=JC cl (pL w l ((o:Int),af)) i
 R:∀o:Nat,h.R.getD o []=JC cl (pL w l ((o:Int),J)) i
 C:∀o,h.C.getD o []=JC cl (pC w l o) i
 F:∀o,h.F.getD o []=JC cl (pF l o) i
 X:h.X=JC cl (pX l) i
def Za {w:xR} {e:EV} (h:e.k=7\/e.k=11):DB w e=((e.ob:Int),af):=by unfold DB;rw[aC h]
def SS {w:xR} {e:EV} (h:e.k=9):DB w e=((e.ob:Int),J):=by unfold DB;rw[av (by omega),aC h]
def SU {w:xR} {e:EV} (h:e.k=16):DB w e=((Ta w.2.2.1 e.ob:Int),af):=by unfold DB;rw[av (by omega),av (by omega),aC h]
def au5 {w:xR} {e:EV} (h:¬(e.k=7\/e.k=11)) (h1:¬e.k=9) (z:¬e.k=16):DB w e=(-1,af):=by unfold DB;rw[av h,av h1,av z]
def IN.zero (w:WT) (l:Y ET) (cl:Nat->η):IN w l cl 0 (HS.zero w):=
 have r:∀n:Nat,∀u,(aE n ([]:η)).getD u []=[]:=λn=>nk.repl (P:=λx=>x=[]) rfl n
 ⟨r _,r _,λ_=>r _ _,λ_=>r _ _,r _,r _,rfl⟩
def IN.step {w:WT} {h:HS} (a:IN w L d i h) (n:Int) (o:UQ n h) (hcT:LE (h.T.getD (cf L i).th []) (d i)) (z:En (n+1) (d i)) (ok:EOK w h (cf L i)) (A:(cf L i).k=20->∀k,k<i->pS L (cf L i).ob k=af):IN w L d (i+1) (iD w h (cf L i) (d i)):=by
 refine ⟨λu=>?_,λu=>?_,λx=>?_,λx=>?_,λx=>?_,λx=>?_,?_⟩
 .rw[ae4,wI];by_cases e:(cf L i).th=u
  .rw[aC ⟨e,ok.th⟩,QR (by grind),<-a.T u,LE.jl (by grind)]
  .rw[av λq=>e q.1,HG (by grind)];exact a.T u
 .rw[ayx];by_cases k:(cf L i).k=20
  .rw[aC k,wI];by_cases e:(cf L i).ob=u
   .rw[aC ⟨e,by rw[o.lS];exact ok.sp (.inl k)⟩,QR (by grind),ac6 _ _ i (by grind),aub z]
   .rw[av λq=>e q.1,HG (by simp[e])];exact a.S u
  .rw[av k,HG (by simp[k])];exact a.S u
 .rw[az0];by_cases k:(cf L i).k=7\/(cf L i).k=11
  .rw[aC k,Gl _ _ _ _ (ok.lk (by omega))];by_cases e:(cf L i).ob=x
   .rw[aC e,QR (by simp[Za k,e]),<-a.L x]
   .rw[av e,HG (by simp[Za k];omega)];exact a.L x
  rw[av k];by_cases k2:(cf L i).k=16
  .rw[aC k2,Gl _ _ _ _ (ok.cd (.inl k2)).2.2];by_cases e:Ta w.2.2.1 (cf L i).ob=x
   .rw[aC e,QR (by simp[SU k2,e]),<-a.L x]
   .rw[av e,HG (by simp[SU k2];omega)];exact a.L x
  rw[av k2,HG]
  .exact a.L x
  .by_cases k3:(cf L i).k=9
   .simp[SS k3]
   .simp[au5 k k3 k2]
 .rw[ayy];by_cases k:(cf L i).k=9
  .rw[aC k,Gl _ _ _ _ (by rw[o.lR];exact ok.lk (by omega))];by_cases e:(cf L i).ob=x
   .rw[aC e,QR (by simp[SS k,e]),<-a.R x]
   .rw[av e,HG (by simp[SS k];omega)];exact a.R x
  rw[av k,HG]
  .exact a.R x
  .unfold pL DB
   grind
 .rw[az2];by_cases k:(cf L i).k=4/\BU w.1 (cf L i).ob=J
  .rw[aC k,Gl _ _ _ _ (ok.ce (.inr k.1)).1];by_cases e:(cf L i).ob=x
   .rw[aC e,QR (by grind),<-a.C x]
   .rw[av e,HG (by simp[e])];exact a.C x
  .rw[av k,HG]
   .exact a.C x
   .grind
 .rw[az1];by_cases k:(cf L i).k=22
  .rw[aC k,Gl _ _ _ _ (ok.fu (.inl k))];by_cases e:(cf L i).ob=x
   .rw[aC e,QR (by grind),<-a.F x]
   .rw[av e,HG (by simp[e])];exact a.F x
  .rw[av k,HG (by simp[k])];exact a.F x
 .rw[ayv];by_cases k:(cf L i).k=13
  .rw[aC k,QR (by simp[k]),<-a.X]
  .rw[av k,HG (by simp[k])];exact a.X
abbrev gT (th:Y c!) (u:Int):c!:=aI hP th u
variable {S:Ty}
def IE (xs:Y S.den) (j k:Int) (x:S.den) (A:0<=j) (z:0<=k) (I:k<l! xs):aI _ (ca xs j x) k=if k=j then x else aI _ xs k:=by
 by_cases h:j<l! xs
 .exact mi xs j k x A h z
 .rw[av (by omega)];unfold aI ca
  grind
def o7 {t:Int} (s:Int) (I:0<=t) (A:0<=a) (z:a<l! Q):gT (xl Q t s) a=if a=t then (s,(gT Q a).2) else gT Q a:=by
 unfold xl gT;rw[IE _ _ _ _ I A z];split
 .grind
 .rfl
def LW {t:Int} (s:Int) (I:0<=t) (A:0<=a) (z:a<l! Q):gT (cdP Q t s) a=if a=t then ((gT Q a).1,s,(gT Q a).2.2) else gT Q a:=by
 unfold cdP gT;rw[IE _ _ _ _ I A z];split
 .grind
 .rfl
def LY {t:Int} (s:Bool) (I:0<=t) (A:0<=a) (z:a<l! Q):gT (atP Q t s) a=if a=t then ((gT Q a).1,(gT Q a).2.1,s) else gT Q a:=by
 unfold atP gT;rw[IE _ _ _ _ I A z];split
 .grind
 .rfl
def auc (z:0<=a):∀(l:η) (th:Y c!),(∀x∈l,0<=x)->a<l! th->gT (F_ th l) a=if a∈l then (4,(gT th a).2) else gT th a
 |[],th,_,_=>by simp[F_]
 |x::r,th,h,A=>by
  have e:F_ th (x::r)=F_ (xl th x 4) r:=rfl;rw[e,auc z r _ (λy I=>h y (cY _ I)) (by unfold xl;rw[bN];exact A),o7 4 (h x (dK ..)) z A]
  grind
structure TH1 (k o v t u:Int) (g g':Int×Int×Bool):Prop where
 a:u=t->g.1≠0/\g.1≠3/\(k=16->g'.1=3/\g'.2.1=o)/\(k≠16->g'.1≠0/\g'.1≠3/\g'.1≠4)/\(k≠1->k≠17->g.1=2)
 b:u≠t->k=18->v=u->g.1=3/\g.2.1=o/\g'.1=4/\g'.2.1=o
 c:u≠t->k=19->g.1=3->g.2.1=o->g'.1=4/\g'.2.1=o
 d:u≠t->¬(k=18/\v=u)->¬(k=19/\g.1=3/\g.2.1=o)->g'.2.1=g.2.1/\(g'.1=g.1\/k=20/\o=u/\g.1=0/\g'.1=1)
 e:k=20->o=u->g'.1≠0
def TH1.same {o v t u:Int} {g g':c!} (h2:a≠1->a≠17->u=t->g.1=2) (e1:g'.1=g.1) (e2:g'.2.1=g.2.1) (n1:a≠1) (n2:a≠17) (n3:a≠16) (A:a≠20) (L:a=18->v=u->u=t) (I:a=19->g.1=3->g.2.1=o->u=t):TH1 a o v t u g g':=
 ⟨λh=>(by grind),λh h1 z=>(h (L h1 z)).elim,λh h1 z h4=>(h (I h1 z h4)).elim,λ_ _ _=>⟨e2,.inl e1⟩,λh=>(A h).elim⟩
def av2 (w:WT) (s:SY) (t k o v:Int) (en:EN w s t k o) (rd:QK w s t k o) (z:k=18->v=(kT w s t k o v).2) (u:Int) (I:0<=u) (A:u<l! s.2.2.2):TH1 k o v t u (gT s.2.2.2 u) (gT (kT w s t k o v).1.2.2.2 u):=by
 have t0:=en.t0;have r2:k≠1->k≠17->u=t->(gT s.2.2.2 u).1=2:=λh1 h2 h3=>by subst h3;exact rd.r h1 h2
 have nm:=en.nm;have k1:=nm.k1;have k2:=nm.k2;let⟨s1,s2,L,th⟩:=s;dsimp only at A r2;change TH1 k o v t u (gT th u) (gT (kT w (s1,s2,L,th) t k o v).1.2.2.2 u);by_cases a1:k=1
 .subst a1;have e:gT (kT w (s1,s2,L,th) t 1 o v).1.2.2.2 u=if u=t then (2,(gT th u).2) else gT th u:=o7 2 t0 I A
  rw[e];refine ⟨λh=>?_,λ_ h=>by omega,λ_ h=>by omega,λh _ _=>by rw[av h];exact⟨rfl,.inl rfl⟩,λh=>by omega⟩;have b:=rd.b rfl;rw[aC h];subst h;have b:(gT th u).1=1:=b;dsimp only;omega
 by_cases a2:k=2
 .subst a2;have e:gT (kT w (s1,s2,L,th) t 2 o v).1.2.2.2 u=if u=t then (5,(gT th u).2) else gT th u:=o7 5 t0 I A
  rw[e];refine ⟨λh=>?_,λ_ h=>by omega,λ_ h=>by omega,λh _ _=>by rw[av h];exact⟨rfl,.inl rfl⟩,λh=>by omega⟩;have:=r2 (by omega) (by omega) h;rw[aC h];dsimp only;omega
 by_cases a14:k=14\/k=15
 .have e:∃b,gT (kT w (s1,s2,L,th) t k o v).1.2.2.2 u=if u=t then ((gT th u).1,(gT th u).2.1,b) else gT th u:=by
   rcases a14 with rfl|rfl
   .exact⟨J,LY J t0 I A⟩
   .exact⟨af,LY af t0 I A⟩
  let⟨b,e⟩:=e;rw[e];refine TH1.same r2 (by split<;>rfl) (by split<;>rfl) a1 (by omega) (by omega) (by omega) (λh=>by omega) λh=>by omega
 by_cases a16:k=16
 .subst a16;have e:gT (kT w (s1,s2,L,th) t 16 o v).1.2.2.2 u=if u=t then (3,o,(gT th u).2.2) else gT th u:=by
   have:gT (cdP (xl th t 3) t o) u=_:=LW o t0 I (by unfold xl;rw[bN];exact A);refine Eq.trans this ?_;rw[o7 3 t0 I A];split<;>rfl
  rw[e];refine ⟨λh=>?_,λ_ h=>by omega,λ_ h=>by omega,λh _ _=>by rw[av h];exact⟨rfl,.inl rfl⟩,λh=>by omega⟩;have:=r2 (by omega) (by omega) h;rw[aC h];exact⟨by omega,by omega,λ_=>⟨rfl,rfl⟩,λh=>(h rfl).elim,λ_ _=>this⟩
 by_cases a17:k=17
 .subst a17;have e:gT (kT w (s1,s2,L,th) t 17 o v).1.2.2.2 u=if u=t then (2,0,(gT th u).2.2) else gT th u:=by
   have:gT (cdP (xl th t 2) t 0) u=_:=LW 0 t0 I (by unfold xl;rw[bN];exact A);refine Eq.trans this ?_;rw[o7 2 t0 I A];split<;>rfl
  rw[e];refine ⟨λh=>?_,λ_ h=>by omega,λ_ h=>by omega,λh _ _=>by rw[av h];exact⟨rfl,.inl rfl⟩,λh=>by omega⟩;have b:=(rd.wk rfl).1;rw[aC h];subst h;have b:(gT th u).1=4:=b;dsimp only;omega
 by_cases a18:k=18
 .subst a18;have z:=z rfl;rw[CX]at z ⊢;dsimp only at z ⊢;by_cases hl:l! (wl th o (l! th))=0
  .rw[aC hl]at z ⊢;dsimp only at z ⊢;exact TH1.same r2 rfl rfl a1 (by omega) (by omega) (by omega) (λ_ h=>by omega) λh=>by omega
  .rw[av hl]at z ⊢;dsimp only at z ⊢;have hv:v∈wl th o (l! th):=by
    unfold BQ at z;rw[av hl]at z;split at z
    next h=>simpa using h
    .rw[z];exact bC (T:=aN) (by omega) (by omega)
   rw[<- z];let⟨v0,v1,v2⟩:=oz.1 hv;unfold FA at v2;simp only[al,bu]at v2;rw[o7 4 v0 I A];refine ⟨λh=>?_,λh _ h2=>?_,λ_ h=>by omega,λh h2 _=>?_,λh=>by omega⟩
   .have:=r2 (by omega) (by omega) h;rw[av (λq=>by rw[q]at this;exact bT (this.symm.trans v2.1) (by decide))];omega
   .subst h2;rw[aC rfl];exact⟨v2.1,v2.2,rfl,v2.2⟩
   .rw[av λq=>h2 ⟨rfl,q.symm⟩];exact⟨rfl,.inl rfl⟩
 by_cases a19:k=19
 .subst a19;have e:gT (kT w (s1,s2,L,th) t 19 o v).1.2.2.2 u=if u∈wl th o (l! th) then (4,(gT th u).2) else gT th u:=auc I _ th (λx hx=>(oz.1 hx).1) A
  rw[e];have hm:u∈wl th o (l! th)↔(gT th u).1=3/\(gT th u).2.1=o:=by
   rw[oz];unfold FA;simp only[al,bu];exact⟨λh=>h.2.2,λh=>⟨I,A,h⟩⟩
  refine ⟨λh=>?_,λ_ h=>by omega,λh _ h3 h4=>?_,λh _ h3=>?_,λh=>by omega⟩
  .have:=r2 (by omega) (by omega) h;rw[av (λq=>by have:=(hm.1 q).1;omega)];omega
  .rw[aC (hm.2 ⟨h3,h4⟩)];exact⟨rfl,h4⟩
  .rw[av λq=>h3 ⟨rfl,hm.1 q⟩];exact⟨rfl,.inl rfl⟩
 by_cases a20:k=20
 .subst a20;have sp:=rd.sp rfl;have o0:=(nm.th (.inl rfl)).1;have e:gT (kT w (s1,s2,L,th) t 20 o v).1.2.2.2 u=if u=o then (1,(gT th u).2) else gT th u:=o7 1 o0 I A
  rw[e];refine ⟨λh=>?_,λ_ h=>by omega,λ_ h=>by omega,λh _ _=>?_,λ_ h=>?_⟩
  .have:=r2 (by omega) (by omega) h;rw[av (λq=>sp.1 (by omega))];omega
  .by_cases q:u=o
   .subst q;rw[aC rfl];exact⟨rfl,.inr ⟨rfl,rfl,sp.2,rfl⟩⟩
   .rw[av q];exact⟨rfl,.inl rfl⟩
  .rw[aC h.symm];show (1:Int)≠0;omega
 have e:(kT w (s1,s2,L,th) t k o v).1.2.2.2=th:=by
  unfold kT;rw[av a1,av a2];repeat' split
  all_goals first|rfl|omega
 rw[e];exact TH1.same r2 rfl rfl a1 a17 a16 a20 (λh=>(a18 h).elim) λh=>(a19 h).elim
def Ab (l:Y ET) (u:Nat):Nat->Int
 |0=> -1
 |i+1=>if (cf l i).th=u then (i:Int) else Ab l u i
def mtN (l:Y ET) (u i:Nat) (p:Int):Prop:=0<=p/\(cf l p.toNat).k=16/\((cf l i).k=18/\(cf l i).va=u\/(cf l i).k=19/\(cf l i).ob=(cf l p.toNat).ob)
def BS (l:Y ET) (u:Nat):Nat->Int
 |0=> -1
 |i+1=>if (cf l i).th=u then -1 else if 0<=BS l u i then BS l u i else @ite _ (mtN l u i (Ab l u i)) (di _) (i:Int) (-1)
def anx (h:(cf L i).th=m):BS L m (i+1)= -1:=by rw[BS,aC h]
def acb (h:¬(cf L i).th=m) (g:0<=BS L m i):BS L m (i+1)=BS L m i:=by rw[BS,av h,aC g]
def ao0 (h:¬(cf L i).th=m) (g:BS L m i= -1) (u:mtN L m i (Ab L m i)):BS L m (i+1)=i:=by rw[BS,av h,av (by omega),aC u]
def anz (h:¬(cf L i).th=m) (g:BS L m i= -1) (u:¬mtN L m i (Ab L m i)):BS L m (i+1)= -1:=by rw[BS,av h,av (by omega),av u]
def ayw (w:xR) (h:HS) (e:EV) (c:η) (u:Nat) (z:u<l! h.W) (A:l! h.N=l! h.W):(iD w h e c).W.getD u 0=if e.k=16/\e.th=u then (e.ob:Int) else if e.k=18/\e.va=u\/e.k=19/\h.W.getD u 0=e.ob then -1 else h.W.getD u 0:=by
 let⟨th,k,ob,va⟩:=e;dsimp only;by_cases k16:k=16
 .subst k16;have e:(iD w h ⟨th,16,ob,va⟩ c).W=h.W.set th ob:=rfl
  grind
 rw[av λx=>k16 x.1];by_cases k18:k=18
 .subst k18;have e:iD w h ⟨th,18,ob,va⟩ c=if 0<=va/\va<l! h.N then {h with T:=h.T.set th c,N:=h.N.set va.toNat c,W:=h.W.set va.toNat (-1)} else {h with T:=h.T.set th c}:=rfl
  grind
 by_cases k19:k=19
 .subst k19;have e:(iD w h ⟨th,19,ob,va⟩ c).W=h.W.mapIdx λu x=>if decide (h.W.getD u 0=(ob:Int))=J then -1 else x:=rfl
  grind
 rw[av (by omega)];have e:(iD w h ⟨th,k,ob,va⟩ c).W=h.W:=by
  unfold iD
  grind
 rw[e]
def ayz (w:xR) (h:HS) (e:EV) (c:η) (u:Nat) (z:u<l! h.N):(iD w h e c).N.getD u []=if e.k=18/\e.va=u\/e.k=19/\h.W.getD u 0=e.ob then c else h.N.getD u []:=by
 let⟨th,k,ob,va⟩:=e;dsimp only;by_cases k18:k=18
 .subst k18;have e:iD w h ⟨th,18,ob,va⟩ c=if 0<=va/\va<l! h.N then {h with T:=h.T.set th c,N:=h.N.set va.toNat c,W:=h.W.set va.toNat (-1)} else {h with T:=h.T.set th c}:=rfl
  grind
 by_cases k19:k=19
 .subst k19;have e:(iD w h ⟨th,19,ob,va⟩ c).N=h.N.mapIdx λu x=>if decide (h.W.getD u 0=(ob:Int))=J then c else x:=rfl
  grind
 rw[av (by omega)];have e:(iD w h ⟨th,k,ob,va⟩ c).N=h.N:=by
  unfold iD
  grind
 rw[e]
abbrev TX (w:WT) (l:Y ET) (i u:Nat):c!:=gT (wU w (l.take i)).1.2.2.2 (u:Int)
structure WI (w:WT) (l:List ET) (cl:Nat->η) (i:Nat) (h:HS) (u:Nat) (g:Int×Int×Bool):Prop where
 W:h.W.getD u 0=if g.1=3 then g.2.1 else -1
 p:g.1=3\/g.1=4->0<=Ab l u i/\(cf l (Ab l u i).toNat).k=16/\((cf l (Ab l u i).toNat).ob:Int)=g.2.1
 a:g.1=3->BS l u i= -1
 n:g.1=4->0<=BS l u i/\h.N.getD u []=cl (BS l u i).toNat
 s:g.1=0->∀k,k<i->pS l u k=af
def atu:∀n,∀x∈thP n,x.1=0\/x.1=1
 |0,x,h=>by cases h
 |n+1,x,h=>by
  rcases bh.1 h with rfl|h
  .exact .inr rfl
  .grind
def WI.zero (w:WT) (l:Y ET) (cl:Nat->η) (u:Nat) (z:u<l! w.2.2.2.2.1):WI w l cl 0 (HS.zero w) u (TX w l 0 u):=by
 have h1:(TX w l 0 u).1=0\/(TX w l 0 u).1=1:=atu _ _ (bC (T:=hP) (xs:=thP (l! w.2.2.2.2.1)) (j:=(u:Int)) (by omega) (by rw[C8];omega));have hW:(HS.zero w).W.getD u 0= -1:=by
  have:(aE (l! w.2.2.2.2.1) (-1:Int)).getD u 0= -1:=by grind
  exact this
 exact⟨by rw[hW,av (by omega)],λh=>by omega,λh=>by omega,λh=>by omega,λ_ k A=>by omega⟩
def WI.step {w:WT} {h:HS} (a:WI w L d i h m (TX w L i m)) (hi:i<l! L) (sc:SCx w (L.take i) (wU w (L.take i)).1 (wU w (L.take i)).2.1 (wU w (L.take i)).2.2 (eN L i)) (I:EvT (cf L i) (eN L i)) (hu:m<l! w.2.2.2.2.1) (h1:l! h.W=l! w.2.2.2.2.1) (h2:l! h.N=l! w.2.2.2.2.1):WI w L d (i+1) (iD w h (cf L i) (d i)) m (TX w L (i+1) m):=by
 have en:=sc.en;have eg:TX w L (i+1) m=gT (kT w (wU w (L.take i)).1 (eN L i).1 (eN L i).2.1 (eN L i).2.2.1 (eN L i).2.2.2.1).1.2.2.2 (m:Int):=by unfold TX;rw[CY w hi]
 have T1:TH1 (eN L i).2.1 (eN L i).2.2.1 (eN L i).2.2.2.1 (eN L i).1 (m:Int) (TX w L i m) (TX w L (i+1) m):=by
  rw[eg];exact av2 w (wU w (L.take i)).1 (eN L i).1 (eN L i).2.1 (eN L i).2.2.1 (eN L i).2.2.2.1 en sc.rd (λh=>sc.va.el (by omega) (by omega) (by omega) (by omega) (by omega)) (m:Int) (by omega) (by rw[en.e3];omega)
 clear eg;have eW:=ayw w h (cf L i) (d i) m (by omega) (by omega);have eN9:=ayz w h (cf L i) (d i) m (by omega);have l:=I.th;have qk:=I.k;have qv:=I.va;have qo:(cf L i).k=16\/(cf L i).k=19\/(cf L i).k=20->(eN L i).2.2.1=((cf L i).ob:Int):=λh=>I.ob (by rcases h with h|h|h<;>rw[h]<;>decide)
 have pv':Ab L m (i+1)=if (cf L i).th=m then (i:Int) else Ab L m i:=rfl
 have ps:pS L m i=decide ((cf L i).k=20/\(cf L i).ob=m):=rfl;clear en sc;let⟨aW,ap,aa,an,as'⟩:=a;let⟨ta,tb,tc,td,te⟩:=T1;generalize TX w L (i+1) m=g' at*
 generalize TX w L i m=g at*
 by_cases z:(cf L i).th=m
 .obtain⟨b1,b2,b3,b4,_⟩:=ta (by rw[l,z]);have w0:BS L m (i+1)= -1:=anx z;have hW':h.W.getD m 0= -1:=by rw[aW,av b2]
  by_cases k16:(cf L i).k=16
  .obtain⟨c1,c2⟩:=b3 (by rw[qk,k16];rfl);refine ⟨by rw[eW,aC ⟨k16,z⟩,aC c1,c2,qo (.inl k16)],λ_=>?_,λ_=>w0,λh=>by omega,λh=>by omega⟩;simp_all
  .obtain⟨c1,c2,c3⟩:=b4 (by rw[qk];omega);refine ⟨?_,λh=>by omega,λh=>by omega,λh=>by omega,λh=>by omega⟩
   grind
 have hut:(m:Int)≠(eN L i).1:=by rw[l];omega
 rw[av z]at pv';rw[av (λx=>z x.2)]at eW;by_cases A:(cf L i).k=18/\(cf L i).va=m\/(cf L i).k=19/\h.W.getD m 0=(cf L i).ob
 .have B:g.1=3/\g'.1=4/\g'.2.1=g.2.1/\((cf L i).k=19->g.2.1=(cf L i).ob):=by
   grind
  let⟨d1,d2,d3,d4⟩:=B;let⟨p1,p2,p3⟩:=ap (.inl d1);have hw:=ao0 z (aa d1) ⟨p1,p2,by
   rcases A with A|⟨k,_⟩
   .exact .inl A
   .exact .inr ⟨k,by have:=d4 k;omega⟩⟩
  rw[aC A]at eW eN9;refine ⟨by rw[eW,av (by omega)],λ_=>by rw[pv',d3];exact⟨p1,p2,p3⟩,λh=>by omega,λ_=>by rw[hw,cR];exact⟨by omega,eN9⟩,λh=>by omega⟩
 rw[av A]at eW eN9;have nv:¬((eN L i).2.1=18/\(eN L i).2.2.2.1=(m:Int)):=λq=>A (.inl ⟨by omega,by rw[<- qv];exact q.2⟩)
 have nw:¬((eN L i).2.1=19/\g.1=3/\g.2.1=(eN L i).2.2.1):=λq=>A (.inr ⟨by omega,by rw[aW,aC q.2.1,q.2.2,qo (.inr (.inl (by omega)))]⟩)
 let⟨d1,d2⟩:=td hut nv nw;have nm:g.1=3->¬mtN L m i (Ab L m i):=λq ⟨_,_,u⟩=>by grind
 refine ⟨?_,λq=>?_,λq=>?_,λq=>?_,λq k hk=>?_⟩
 .grind
 .grind
 .have q:g.1=3:=by omega
  exact anz z (aa q) (nm q)
 .have q:g.1=4:=by omega
  let⟨n1,n2⟩:=an q;rw[acb z n1,eN9];exact⟨n1,n2⟩
 .grind
def ZA {w:WT} (tr:TR (w,L)) (C:CL w L d):∀i:Nat,i<=l! L->IN w L d i (yp w L d i)/\∀u,u<l! w.2.2.2.2.1->WI w L d i (yp w L d i) u (TX w L i u)
 |0,_=>⟨IN.zero w L d,λu z=>WI.zero w L d u z⟩
 |i+1,h=>by
  let⟨a,b⟩:=ZA tr C i (by omega);have hi:i<l! L:=by omega
  have o:=Tu tr C hi;have A:=ZB tr C hi;have sc:=tr.sc hi;have I:=kP tr hi;have ok:=Fn tr C hi;refine ⟨a.step _ o ((asw w _ _).trans (C.le hi)) (ab9 tr C hi) ok λk=>?_,λu z=>(b u z).step hi sc I z (o.lW.trans A.T) (o.lN.trans A.T)⟩;have sp:=(sc.rd.sp (by rw[I.k,k];rfl)).2;rw[I.ob (by simp_all)]at sp;exact (b _ (by rw[<- A.T];exact ok.sp (.inl k))).s sp
def ava {w:WT} (tr:TR (w,L)) (C:CL w L d) (u:Nat):∀i:Nat,i<=l! L->(yp w L d i).T.getD u []=if 0<=Ab L u i then d (Ab L u i).toNat else []
 |0,_=>nk.repl (P:=λx=>x=[]) rfl _ _
 |i+1,h=>by
  have z:=ava tr C u i (by omega);rw[yp,ae4,wI,Ab];by_cases e:(cf L i).th=u
  .rw[aC ⟨e,(Fn tr C (by omega)).th⟩,aC e,aC (by omega),cR]
  .grind
def wQ {q:Nat->Bool}:∀i,(∀k,k<i->p k=q k)->JC d p i=JC d q i
 |0,_=>rfl
 |i+1,h=>by rw[JC,JC,h i (by omega),wQ i λk z=>h k (by omega)]
def atm {c:Nat->η} {q r:Nat->Bool}:∀i,(∀k,k<i->(r k=J↔p k=J\/q k=J)/\¬(p k=J/\q k=J))->JC c r i=jl (JC c p i) (JC c q i)
 |0,_=>rfl
 |i+1,h=>by
  have z:=atm (c:=c) i λk I=>h k (by omega)
  let⟨h1,A⟩:=h i (by omega);rw[JC,JC,JC];by_cases a:p i=J
  .have b:¬q i=J:=λb=>A ⟨a,b⟩
   rw[aC (h1.2 (.inl a)),aC a,av b,z,uB,uB,adm (JC c q i)]
  .by_cases b:q i=J
   .rw[aC (h1.2 (.inr b)),av a,aC b,z,uB]
   .grind
def hrP (w:WT) (l:Y ET) (j i:Nat):Prop:=((cf l j).k=1/\(cf l i).k=20/\(cf l i).ob=(cf l j).th)\/((cf l j).k=21/\(cf l i).th=(cf l j).ob)\/((cf l j).k=3/\BU w.1 (cf l j).ob=J/\(cf l i).k=4/\(cf l i).ob=(cf l j).ob)\/((cf l j).k=23/\(cf l i).k=22/\(cf l i).ob=(cf l j).ob)
def sfP (w:WT) (l:Y ET) (j i:Nat):Prop:=(0<=(BO w (cf l j)).1/\(DB w (cf l i)).1=(BO w (cf l j)).1/\¬((BO w (cf l j)).2=J/\(DB w (cf l i)).2=J))\/((cf l j).k=12/\(cf l i).k=13)
def dB (p:Nat->Prop) (k:Nat):Bool:= @decide (p k) (di _)
variable {O:Nat->Prop}
def aq5 :dB O i=J↔O i:=by unfold dB;exact @decide_eq_true_iff (O i) (di _)
def az6 :dB O i=af↔¬O i:=by exact @decide_eq_false_iff_not (O i) (di _)
variable {b:Bool}
def R4 (h:O i↔b=J):b=dB O i:=by
 cases b with
 |true=>exact (aq5.2 (h.2 rfl)).symm
 |false=>exact (az6.2 λx=>by have:=h.1 x;cases this).symm
def wkC (l:Y ET) (cl:Nat->η) (j:Nat):η:=if (cf l j).k=17 then cl (BS l (cf l j).th j).toNat else []
def OM {w:WT} (tr:TR (w,L)) (C:CL w L d) (A:i<l! L):Pv w L d i=tk (jl (jl (jl (if 0<=Ab L (cf L i).th i then d (Ab L (cf L i).th i).toNat else []) (JC d (dB (hrP w L i)) i)) (wkC L d i)) (JC d (dB (sfP w L i)) i)) (cf L i).th:=by
 let⟨a,b⟩:=ZA tr C i (by omega);have o:=Tu tr C A;have ft:=ZB tr C A;have ok:=Fn tr C A;have sc:=tr.sc A;have et:=kP tr A;rw[<- ava tr C _ i (by omega)];have nH:∀{p:Nat->Prop},(∀k,¬p k)->JC d (dB p) i=[]:=λh=>ac6 _ _ _ λk _=>az6.2 (h k)
 have oT:=o.T (cf L i).th;have z:=En.nil o.n0;have e0:jl (jl ((yp w L d i).T.getD (cf L i).th []) []) []=(yp w L d i).T.getD (cf L i).th []:=by rw[pO oT,pO oT]
 have sN:¬(cf L i).k=6->¬(cf L i).k=10->¬(cf L i).k=8->¬(cf L i).k=17->¬(cf L i).k=12->∀k,¬sfP w L i k:=λh1 h2 h3 h4 h5 k q=>by
  unfold sfP BO at q;rw[av (by omega),av h3,av h4]at q;rcases q with ⟨q,_⟩|⟨q,_⟩
  .dsimp only at q;omega
  .exact h5 q
 unfold wkC;show wO w (yp w L d i) (cf L i)=_;unfold wO;congr 1;by_cases k1:(cf L i).k=1
 .rw[av (by omega),nH (sN (by omega) (by omega) (by omega) (by omega) (by omega))];unfold s5;rw[aC k1,wQ (q:=pS L (cf L i).th) i λk _=>(R4 (by unfold hrP pS;rw[bu];omega)).symm,<-a.S];rw[pO (oT.jl (o.S _)),pO (oT.jl (o.S _))];rfl
 by_cases k21:(cf L i).k=21
 .rw[av (by omega),nH (sN (by omega) (by omega) (by omega) (by omega) (by omega))];unfold s5;rw[av k1,aC k21,wQ (q:=pT L (cf L i).ob) i λk _=>(R4 (by unfold hrP pT;rw[bu];omega)).symm,<-a.T];rw[pO (oT.jl (o.T _)),pO (oT.jl (o.T _))];rfl
 by_cases k3:(cf L i).k=3
 .rw[av (by omega),nH (sN (by omega) (by omega) (by omega) (by omega) (by omega))];unfold s5;rw[av k1,av k21,av (by omega),av (by omega),av (by omega),aC k3,wQ (q:=pC w L (cf L i).ob) i λk _=>(R4 ?_).symm,<-a.C]
  .rw[pO (oT.jl (o.C _)),pO (oT.jl (o.C _))];rfl
  .unfold hrP pC;rw[bu];constructor
   .rintro (h|h|h|h)
    .omega
    .omega
    .exact⟨h.2.2.1,h.2.2.2,h.2.1⟩
    .omega
   .intro h;exact .inr (.inr (.inl ⟨k3,h.2.2,h.1,h.2.1⟩))
 by_cases k23:(cf L i).k=23
 .rw[av (by omega),nH (sN (by omega) (by omega) (by omega) (by omega) (by omega))];unfold s5;rw[av k1,av k21,av (by omega),av (by omega),av (by omega),av k3,aC k23,wQ (q:=pF L (cf L i).ob) i λk _=>(R4 (by unfold hrP pF;rw[bu];omega)).symm,<-a.F];rw[pO (oT.jl (o.F _)),pO (oT.jl (o.F _))];rfl
 have hN:∀k,¬hrP w L i k:=λk q=>by unfold hrP at q;omega
 rw[nH hN,pO oT];by_cases k12:(cf L i).k=12
 .rw[av (by omega),pO oT];unfold s5;rw[av k1,av k21,av (by omega),av (by omega),av (by omega),av k3,av k23,aC k12,wQ (q:=pX L) i λk _=>(R4 ?_).symm,<-a.X]
  .rfl
  .unfold sfP pX BO;rw[bu,av (by omega),av (by omega),av (by omega)];dsimp only;constructor
   .rintro (h|h)
    .omega
    .exact h.2
   .intro h;exact .inr ⟨k12,h⟩
 have hor:∀m:Nat,(BO w (cf L i)).1=(m:Int)->(BO w (cf L i)).2=af->JC d (dB (sfP w L i)) i=jl ((yp w L d i).L.getD m []) ((yp w L d i).R.getD m []):=λm h1 h2=>by
  rw[a.L,a.R];refine atm i λk _=>?_
  rw[aq5,bu,bu];unfold sfP;rw[h1,h2];generalize DB w (cf L k)=x;let⟨x1,I⟩:=x;simp only[aQ];constructor
  .constructor
   .rintro (h|h)
    .cases I with
     |true=>exact .inr ⟨h.2.1,rfl⟩
     |false=>exact .inl ⟨h.2.1,rfl⟩
    .omega
   .rintro (h|h)<;>exact .inl ⟨by omega,h.1,λq=>by cases q.1⟩
  .rintro⟨⟨_,h⟩,⟨_,h'⟩⟩;rw[h]at h';cases h'
 by_cases k6:(cf L i).k=6\/(cf L i).k=10
 .rw[av (by omega),pO oT,hor (cf L i).ob (by unfold BO;rw[aC k6]) (by unfold BO;rw[aC k6])];unfold s5;rw[av k1,av k21,aC k6,<-uB];rfl
 by_cases k8:(cf L i).k=8
 .have ha:BO w (cf L i)=(((cf L i).ob:Int),J):=by unfold BO;rw[av k6,aC k8]
  rw[av (by omega),pO oT];unfold s5;rw[av k1,av k21,av k6,aC k8,wQ (q:=pL w L (((cf L i).ob:Int),af)) i λk _=>(R4 ?_).symm,<-a.L]
  .rfl
  .unfold sfP pL;rw[ha,bu];generalize DB w (cf L k)=x;let⟨x1,I⟩:=x;simp only[aQ];constructor
   .rintro (h|h)
    .exact⟨h.2.1,by simpa using h.2.2⟩
    .omega
   .intro h;exact .inl ⟨by omega,h.1,by simp[h.2]⟩
 by_cases k17:(cf L i).k=17
 .have wk:=sc.rd.wk (by rw[et.k,k17];rfl);have hth:(cf L i).th<l! w.2.2.2.2.1:=by rw[<- ft.T];exact ok.th
  have hn:=(b _ hth).n (by have:=wk.1;rw[et.th]at this;exact this);rw[aC k17,hor (Ta w.2.2.1 (cf L i).ob) (by unfold BO;rw[av k6,av k8,aC k17]) (by unfold BO;rw[av k6,av k8,aC k17]),<-hn.2];unfold s5;rw[av k1,av k21,av k6,av k8,aC k17];simp only[Ad,List.foldl_nil];rw[uB,uB,uB,<-uB _ _ ((yp w L d i).N.getD _ []),adm ((yp w L d i).N.getD _ [])]
 .rw[av k17,nH (sN (by omega) (by omega) k8 k17 k12),pO oT,pO oT];unfold s5;rw[av k1,av k21,av k6,av k8,av k17,av k3,av k23,av k12];rfl
def akt (w:WT) (l:Y ET):∀i:Nat,i<=l! l->yp w l (LV w l) i=Rl w (l.take i)
 |0,_=>rfl
 |i+1,h=>by rw[yp,akt w l i (by omega),Gq w (by omega)]
def az9 (w:WT) (h:i<l! L):Pv w L (LV w L) i=LV w L i:=by unfold Pv;rw[akt w L i (by omega)];rfl
def CL_N (w:WT) (l:Y ET):CL w l (LV w l):=λi h=>.inl (az9 w h).symm
def Tt {w:WT} (tr:TR (w,L)) (i:Nat) (h:i<=l! L):IN w L (LV w L) i (Rl w (L.take i))/\∀u,u<l! w.2.2.2.2.1->WI w L (LV w L) i (Rl w (L.take i)) u (TX w L i u):=by
 have:=ZA tr (CL_N w L) i h;rw[akt w L i h]at this;exact this
def YP (l:Y ET) (u:Nat):∀i:Nat,BS l u i<i
 |0=>by show (-1:Int)<0;omega
 |i+1=>by
  have:=YP l u i;rw[BS];split
  .omega
  .omega
def as7 {w:WT} (tr:TR (w,L)) (z:i<l! L) (h:(cf L i).k=17):0<=Ab L (cf L i).th i/\(cf L (Ab L (cf L i).th i).toNat).k=16/\0<=BS L (cf L i).th i:=by
 have b:=(Tt tr i (by omega)).2 (cf L i).th (by rw[<- (Ts tr i (by omega)).2.T];exact (Nz tr z).th);have wk:=((tr.sc z).rd.wk (by rw[(kP tr z).k,h];rfl)).1;have g:=b.p (.inr wk);exact⟨g.1,g.2.1,(b.n wk).1⟩
def Mi (l:Y ET) (u:Nat):∀i:Nat,-1<=Ab l u i/\Ab l u i<i
 |0=>⟨eS _,by show (-1:Int)<0;omega⟩
 |i+1=>by have:=Mi l u i;rw[Ab];split<;>omega
def ac7 {c:Nat->η} (hp:p i=J):∀k,i<k->LE (c i) (JC c p k)
 |k+1,h=>by
  by_cases e:i=k
  .subst e;rw[QR hp];exact ac5 _ _
  .have z:=ac7 (c:=c) hp k (by omega);rw[JC];split
   .exact z.trans (Fv _ _)
   .exact z
def LL (l:Y ET) (o:Nat):Nat->Int
 |0=> -1
 |i+1=>if (cf l i).k=4/\(cf l i).ob=o then (i:Int) else LL l o i
def akc (l:Y ET) (o:Nat):∀i:Nat,-1<=LL l o i/\LL l o i<i
 |0=>⟨eS _,by show (-1:Int)<0;omega⟩
 |i+1=>by have:=akc l o i;rw[LL];split<;>omega
def YM (l:Y ET) (i:Nat):Prop:=(cf l i).k=3/\0<=LL l (cf l i).ob i
instance (l:Y ET) (i:Nat):Decidable (YM l i):=by unfold YM;exact inferInstance
def YL (l:Y ET) (i:Nat):Nat:=(LL l (cf l i).ob i).toNat
def H3 (h:YM L i):YL L i<i:=by have:=akc L (cf L i).ob i;have:=h.2;unfold YL;omega
def Y2 (w:WT) (l:Y ET):Nat->HS×Y η
 |0=>(HS.zero w,[])
 |i+1=>
  let c:=if YM l i then jl (wO w (Y2 w l i).1 (cf l i)) ((Y2 w l i).2.getD (YL l i) []) else wO w (Y2 w l i).1 (cf l i)
  (iD w (Y2 w l i).1 (cf l i) c,(Y2 w l i).2++[c])
def nC (w:WT) (l:Y ET) (i:Nat):η:=(Y2 w l (i+1)).2.getD i []
def LB (w:WT) (l:Y ET):∀i,(Y2 w l i).2.length=i
 |0=>rfl
 |i+1=>by rw[Y2];simp[LB w l i]
def SD (w:WT) (l:Y ET) :∀k,i<k->(Y2 w l k).2.getD i []=nC w l i
 |k+1,h=>by
  by_cases e:i=k
  .subst e;rfl
  .rw[<- SD w l k (by omega),Y2];rw[aD,b8 (by rw[LB];omega),aD]
def acp (w:WT) (l:Y ET) (i:Nat):nC w l i=if YM l i then jl (wO w (Y2 w l i).1 (cf l i)) (nC w l (YL l i)) else wO w (Y2 w l i).1 (cf l i):=by
 unfold nC;rw[Y2];rw[aD,bS (by rw[LB];omega),LB,Lw];show (if YM l i then _ else _)=_;by_cases h:YM l i
 .rw[aC h,aC h,SD w l i (H3 h)];rfl
 .rw[av h,av h]
def aj6 (w:WT) (l:Y ET):∀i,(Y2 w l i).1=yp w l (nC w l) i
 |0=>rfl
 |i+1=>by
  rw[yp,acp,<-aj6 w l i,Y2];by_cases h:YM l i
  .rw[aC h,aC h,SD w l i (H3 h)]
  .rw[av h,av h]
abbrev oB (w:WT) (l:Y ET) (i:Nat):η:=Pv w l (nC w l) i
def EU (w:WT) (l:Y ET) (i:Nat):nC w l i=if YM l i then jl (oB w l i) (nC w l (YL l i)) else oB w l i:=by
 rw[acp,aj6]
def US (w:WT) (l:Y ET):CL w l (nC w l):=λi _=>by
 rw[EU];by_cases h:YM l i
 .rw[aC h];exact .inr ⟨_,H3 h,rfl⟩
 .grind
def asd {w:WT} (h:¬(cf L i).k=3):nC w L i=oB w L i:=by rw[EU,av λq=>h q.1]
def UY (l:Y ET) (c:η) (i:Nat):Prop:=(rP l (cf l i).th i:Int)+1<=c.getD (cf l i).th 0
def Pf (w:WT) (l:Y ET) (j:Nat) (c:η):Prop:=∀i,i<j->UY l c i->LE (nC w l i) c
def Pf.nil (w:WT) (l:Y ET) (j:Nat):Pf w l j []:=λi _ h=>by
 unfold UY at h
 grind
def Pf.jl {w:WT} {b:η} (A:Pf w L i z) (a:Pf w L i b):Pf w L i (jl z b):=λj hi h=>by
 unfold UY at h;rw[tK,nh]at h;rcases Int.le_total (z.getD (cf L j).th 0) (b.getD (cf L j).th 0) with g|g
 .rw[Int.max_eq_right g]at h;exact (a j hi h).trans (ac5 _ _)
 .rw[Int.max_eq_left g]at h;exact (A j hi h).trans (Fv _ _)
def Pf.joins {w:WT} (h:∀k,k<i->Pf w L i (nC w L k)):∀j,j<=i->Pf w L i (JC (nC w L) p j)
 |0,_=>Pf.nil w L i
 |j+1,hi=>by
  have z:Pf w L i (JC (nC w L) p j):=Pf.joins h j (by omega);cases hp:p j with
  |true=>rw[QR hp];exact z.jl (h j (by omega))
  |false=>rw[HG hp];exact z
def SE {w:WT} (tr:TR (w,L)) (h:i<l! L):(nC w L i).getD (cf L i).th 0=(rP L (cf L i).th i:Int)+1:=by
 have h1:=(Uq tr (US w L) (i+1) h).2.1 (cf L i).th;rw[ava tr (US w L) (cf L i).th (i+1) h]at h1;have hp:Ab L (cf L i).th (i+1)=(i:Int):=by rw[Ab,aC rfl]
 rw[hp,aC (by omega),cR,xN]at h1;omega
def aco {w:WT} (tr:TR (w,L)) (h:i<l! L) (u:Nat):(nC w L i).getD u 0<=(rP L u (i+1):Int):=(Uq tr (US w L) (i+1) h).2.2 i (by omega) u
def FY {l:Y ET} {u:Nat}:∀j:Nat,0<=Ab l u j->(cf l (Ab l u j).toNat).th=u
 |0,h=>by simp[Ab]at h
 |j+1,h=>by
  rw[Ab]at h ⊢;by_cases e:(cf l j).th=u
  .grind
  .rw[av e]at h ⊢;exact FY j h
def SX {l:Y ET} {u:Nat} (h:(cf l i).th=u):∀j:Nat,i<j->(i:Int)<=Ab l u j
 |0,hi=>bT hi (qe _)
 |j+1,hi=>by
  rw[Ab];by_cases e:(cf l j).th=u
  .omega
  .rw[av e];by_cases z:i=j
   .grind
   .exact SX h j (by omega)
def aa6 {w:WT} (tr:TR (w,L)):∀j,j<l! L->Pf w L j (oB w L j)/\Pf w L j (nC w L j):=by
 intro j;induction j using Nat.strongRecOn with
 |ind j l=>
  intro hj;have C:=US w L;have old:∀m,m<j->Pf w L j (nC w L m):=λm hm i hi h=>by
   rcases C4 i m with z|z|z
   .exact (l m hm (by omega)).2 i z h
   .subst z;exact LE.refl _
   .have h1:=aco tr (show m<l! L by omega) (cf L i).th;have A:=CQ L (cf L i).th (show m+1<=i by omega);unfold UY at h;omega
  have hX:Pf w L j (jl (jl (jl (if 0<=Ab L (cf L j).th j then nC w L (Ab L (cf L j).th j).toNat else []) (JC (nC w L) (dB (hrP w L j)) j)) (wkC L (nC w L) j)) (JC (nC w L) (dB (sfP w L j)) j)):=by
   refine ((Pf.jl ?_ (Pf.joins old j (bK _))).jl ?_).jl (Pf.joins old j (bK _))
   .have:=Mi L (cf L j).th j;split
    .exact old _ (by omega)
    .exact Pf.nil w L j
   .unfold wkC;split
    next k=>have h1:=YP L (cf L j).th j;have A:=(as7 tr hj k).2.2;exact old _ (by omega)
    .exact Pf.nil w L j
  have I:Pf w L j (oB w L j):=by
   show Pf w L j (Pv w L (nC w L) j);rw[OM tr C hj];intro i hi h;by_cases e:(cf L i).th=(cf L j).th
   .have hp:=Mi L (cf L j).th j;have hg:=SX e j hi;have ho:=FY (l:=L) (u:=(cf L j).th) j (by omega);have h1:LE (nC w L i) (nC w L (Ab L (cf L j).th j).toNat):=by
     by_cases z:i=(Ab L (cf L j).th j).toNat
     .rw[<- z];exact LE.refl _
     .refine (l _ (by omega) (by omega)).2 i (by omega) ?_;have A:=SE tr (show (Ab L (cf L j).th j).toNat<l! L by omega);rw[ho]at A;unfold UY;rw[e,A];have:=CQ L (cf L j).th (show i<=(Ab L (cf L j).th j).toNat by omega);omega
    rw[aC (by omega)];exact h1.trans ((((Fv _ _).trans (Fv _ _)).trans (Fv _ _)).trans (Ky _ _))
   .refine (hX i hi ?_).trans (Ky _ _);unfold UY at h ⊢;rw[BV,av e]at h;exact h
  refine ⟨I,?_⟩;rw[EU];split
  next q=>exact I.jl (old _ (H3 q))
  .exact I
def aun {w:WT} (tr:TR (w,L)) (hj:m<l! L) (l:i<m) (ht:(cf L i).th=(cf L m).th):LE (nC w L i) (oB w L m):=by
 have hp:=Mi L (cf L m).th m;have hg:=SX ht m l;have I:=FY (l:=L) (u:=(cf L m).th) m (by omega);have h1:LE (nC w L i) (nC w L (Ab L (cf L m).th m).toNat):=by
  by_cases z:i=(Ab L (cf L m).th m).toNat
  .rw[<- z];exact LE.refl _
  .refine (aa6 tr _ (by omega)).2 i (by omega) ?_;have A:=SE tr (show (Ab L (cf L m).th m).toNat<l! L by omega);rw[I]at A;unfold UY;rw[ht,A];have:=CQ L (cf L m).th (show i<=(Ab L (cf L m).th m).toNat by omega);omega
 refine h1.trans ?_;show LE _ (Pv w L (nC w L) m);rw[OM tr (US w L) hj,aC (by omega)];exact (((Fv _ _).trans (Fv _ _)).trans (Fv _ _)).trans (Ky _ _)
def auo {w:WT} (tr:TR (w,L)) (A:m<l! L) (z:i<m) (h:hrP w L m i):LE (nC w L i) (oB w L m):=by
 show LE _ (Pv w L (nC w L) m);rw[OM tr (US w L) A];exact (ac7 (c:=nC w L) (aq5.2 h) m z).trans ((((ac5 _ _).trans (Fv _ _)).trans (Fv _ _)).trans (Ky _ _))
def e_wk {w:WT} (tr:TR (w,L)) (z:i<l! L) (h:(cf L i).k=17):LE (nC w L (BS L (cf L i).th i).toNat) (oB w L i):=by
 show LE _ (Pv w L (nC w L) i);rw[OM tr (US w L) z];have e:wkC L (nC w L) i=nC w L (BS L (cf L i).th i).toNat:=by unfold wkC;rw[aC h]
 rw[e];exact ((ac5 _ _).trans (Fv _ _)).trans (Ky _ _)
def az3 {w:WT} (tr:TR (w,L)) (A:m<l! L) (z:i<m) (h:sfP w L m i):LE (nC w L i) (oB w L m):=by
 show LE _ (Pv w L (nC w L) m);rw[OM tr (US w L) A];exact (ac7 (c:=nC w L) (aq5.2 h) m z).trans ((ac5 _ _).trans (Ky _ _))
def az4 (w:WT) (l:Y ET) (j:Nat):LE (oB w l j) (nC w l j):=by
 rw[EU];split
 .exact Fv _ _
 .exact LE.refl _
def e_rd {w:WT} (h:YM L i):LE (nC w L (YL L i)) (nC w L i):=by
 rw[EU w L i,aC h];exact ac5 _ _
def DS (w:WT) (l:Y ET) (A B st i:Nat):Prop:=i<st\/(i≠A/\i≠B/\(UY l (oB w l A) i\/UY l (oB w l B) i))
structure UK (w:WT) (l:List ET) (A B:Nat):Prop where
 ab:A<B
 bn:B<l! l
 nc:¬UY l (oB w l B) A
def aob {w:WT} (tr:TR (w,L)) (h:i<l! L) (u:Nat):(oB w L i).getD u 0<=(rP L u (i+1):Int):=qM ((az4 w L i).2 u) (aco tr h u)
def Um {w:WT} (tr:TR (w,L)) (z:m<l! L) (A:i≠m) (h:UY L (oB w L m) i):i<m:=by
 rcases cN i m with g|g
 .exact g
 .have h1:=aob tr z (cf L i).th;have I:=CQ L (cf L i).th (show m+1<=i by omega);unfold UY at h;omega
def Ul {w:WT} (tr:TR (w,L)) (c:i<l! L) (h:LE (nC w L i) z):UY L z i:=by
 have:=h.2 (cf L i).th;rw[SE tr c]at this;exact this
def DS.lt {w:WT} (tr:TR (w,L)) {B st:Nat} (R:UK w L m B) (l:st<=m) (h:DS w L m B st i):i<B:=by
 have:=R.ab;have:=R.bn;rcases h with h|⟨h1,I,z|z⟩
 .omega
 .have:=Um tr (by omega) h1 z;omega
 .exact Um tr R.bn I z
def DS.dn {w:WT} (tr:TR (w,L)) {B st k:Nat} (R:UK w L m B) (h:DS w L m B st i) (hk:k<i) (hle:LE (nC w L k) (nC w L i)):DS w L m B st k:=by
 have ab:=R.ab;have bn:=R.bn;rcases h with h|⟨h1,h2,I|I⟩
 .exact .inl (by omega)
 .have hi:=Um tr (show m<l! L by omega) h1 I;have l:=Ul tr (show k<l! L by omega) (hle.trans ((aa6 tr m (by omega)).1 i hi I));exact .inr ⟨by omega,by omega,.inl l⟩
 .have hi:=Um tr bn h2 I;have l:=Ul tr (show k<l! L by omega) (hle.trans ((aa6 tr B bn).1 i hi I));refine .inr ⟨λz=>?_,by omega,.inr l⟩;subst z;exact R.nc l
def DS.dnA {w:WT} (tr:TR (w,L)) {st k:Nat} (R:UK w L i m) (z:k<i) (hle:LE (nC w L k) (oB w L i)):DS w L i m st k:=by
 have:=R.ab;have:=R.bn;exact .inr ⟨by omega,by omega,.inl (Ul tr (by omega) hle)⟩
def DS.dnB {w:WT} (tr:TR (w,L)) {st k:Nat} (R:UK w L i m) (l:k<m) (hle:LE (nC w L k) (oB w L m)):DS w L i m st k:=by
 have:=R.bn;have I:=Ul tr (show k<l! L by omega) hle;refine .inr ⟨λz=>?_,by omega,.inr I⟩;subst z;exact R.nc I
def lkF (w:WT) (e:ET) (k:Int) (p:f?):f?:=
 if ((e.2.1=6\/e.2.1=10)/\e.2.2.1=k)\/(e.2.1=17/\KQ w e.2.2.1=k) then (e.1,p.2)
 else if ((e.2.1=7\/e.2.1=11)/\e.2.2.1=k)\/(e.2.1=16/\KQ w e.2.2.1=k) then (-1,p.2)
 else if e.2.1=8/\e.2.2.1=k then (p.1,wV p.2 [e.1])
 else if e.2.1=9/\e.2.2.1=k then (p.1,wo p.2 e.1) else p
def aqx (w:WT) (s:SY) (t k o u:Int):(kT w s t k o u).1.1=if k=6\/k=10 then owP s.1 o t else if k=7\/k=11 then owP s.1 o (-1) else if k=8 then rdP s.1 o (wV (aI dO s.1 o).2 [t]) else if k=9 then rdP s.1 o (wo (aI dO s.1 o).2 t) else if k=16 then owP s.1 (KQ w o) (-1) else if k=17 then owP s.1 (KQ w o) t else s.1:=by
 cases kdI k
 case no h _=>simp[kT,h,dZ,KI]
 all_goals (simp [kT,bO,bt,dZ,eE,KI];try (split<;>rfl))
def UF (w:WT) (s:SY) (t k o u:Int):(kT w s t k o u).1.2.1=if k=12 then t else if k=13 then -1 else s.2.1:=by
 cases kdI k
 case no h _=>simp[kT,h,dZ,KI]
 all_goals (simp [kT,bO,bt,dZ,eE,KI];try (split<;>rfl))
def abs (w:WT) (s:SY) (t k o u:Int):(kT w s t k o u).1.2.2.1=if k=22 then ca s.2.2.1 o J else s.2.2.1:=by
 cases kdI k
 case no h _=>simp[kT,h,dZ,KI]
 all_goals (simp [kT,bO,bt,dZ,eE,KI];try (split<;>rfl))
def L1 {w:WT} {s:SY} {e:ET} (z:EN w s e.1 e.2.1 e.2.2.1) (A:0<=a):aI dO (kT w s e.1 e.2.1 e.2.2.1 e.2.2.2.1).1.1 a=lkF w e a (aI dO s.1 a):=by
 let⟨t,kd,o,v,r⟩:=e;have L:6<=kd/\kd<=11->0<=o/\o<(l! s.1:Int):=λg=>by rw[z.e1];exact z.nm.lk g
 have I:16<=kd/\kd<=19->0<=KQ w o/\KQ w o<l! s.1:=λg=>by
  let⟨k,b⟩:=z.nm.cd g;rw[z.e1];exact z.cd _ (bC (T:=itK) k b)
 have ow:∀(i x:Int),0<=i->i<l! s.1->aI dO (owP s.1 i x) a=if a=i then (x,(aI dO s.1 a).2) else aI dO s.1 a:=λi x h0 h1=>by
  unfold owP;rw[mi _ _ _ _ h0 h1 A]
  grind
 have rr:∀(i:Int) (x:η),0<=i->i<l! s.1->aI dO (rdP s.1 i x) a=if a=i then ((aI dO s.1 a).1,x) else aI dO s.1 a:=λi x h0 h1=>by
  unfold rdP;rw[mi _ _ _ _ h0 h1 A]
  grind
 unfold lkF;rw[aqx];by_cases h1:kd=6\/kd=10
 .grind
 by_cases h2:kd=7\/kd=11
 .grind
 by_cases h3:kd=8
 .grind
 by_cases h4:kd=9
 .grind
 grind
def U3 {th':Y c!} :∀n:Nat,(∀u:Nat,u<n->FA a (gT Q (u:Int))=FA a (gT th' (u:Int)))->wl Q a n=wl th' a n
 |0,_=>rfl
 |n+1,h=>by
  have z:=U3 n λu A=>h u (by omega)
  simp[wl]
  grind
def noP (th:Y c!) (k o v u:Int):Prop:=(k=18/\l! (wl th o (l! th))≠0/\u=BQ (wl th o (l! th)) v)\/(k=19/\u∈wl th o (l! th))
def noP.w {o v u:Int} (h:noP Q a o v u):0<=u/\u<l! Q/\(gT Q u).1=3/\(gT Q u).2.1=o:=by
 have hm:u∈wl Q o (l! Q):=by
  rcases h with ⟨_,h1,rfl⟩|⟨_,h⟩
  .exact Dw v h1
  .exact h
 let⟨k,b,c⟩:=oz.1 hm;unfold FA at c
 grind
def thF (k t o u:Int) (no:Prop) (g:c!):c!:=
 if k=1/\u=t then (2,g.2) else if k=2/\u=t then (5,g.2) else if k=14/\u=t then (g.1,g.2.1,J) else if k=15/\u=t then (g.1,g.2.1,af)
 else if k=16/\u=t then (3,o,g.2.2) else if k=17/\u=t then (2,0,g.2.2) else if k=20/\u=o then (1,g.2) else @ite _ no (di _) (4,g.2) g
def Hu (w:WT) (s:SY) (t k o v:Int) (en:EN w s t k o) (u:Int) (I:0<=u) (A:u<l! s.2.2.2):gT (kT w s t k o v).1.2.2.2 u=thF k t o u (noP s.2.2.2 k o v u) (gT s.2.2.2 u):=by
 have t0:=en.t0;have nm:=en.nm;have L:∀{k:Int},k≠18->k≠19->¬noP s.2.2.2 k o v u:=λa b h=>by rcases h with h|h<;>omega
 unfold thF;by_cases a1:k=1
 .subst a1;have e:gT (kT w s t 1 o v).1.2.2.2 u=if u=t then (2,(gT s.2.2.2 u).2) else gT s.2.2.2 u:=o7 2 t0 I A
  grind
 rw[av λz=>a1 z.1];by_cases a2:k=2
 .subst a2;have e:gT (kT w s t 2 o v).1.2.2.2 u=if u=t then (5,(gT s.2.2.2 u).2) else gT s.2.2.2 u:=o7 5 t0 I A
  grind
 rw[av λz=>a2 z.1];by_cases a14:k=14
 .subst a14;have e:gT (kT w s t 14 o v).1.2.2.2 u=if u=t then ((gT s.2.2.2 u).1,(gT s.2.2.2 u).2.1,J) else gT s.2.2.2 u:=LY J t0 I A
  grind
 rw[av λz=>a14 z.1];by_cases a15:k=15
 .subst a15;have e:gT (kT w s t 15 o v).1.2.2.2 u=if u=t then ((gT s.2.2.2 u).1,(gT s.2.2.2 u).2.1,af) else gT s.2.2.2 u:=LY af t0 I A
  grind
 rw[av λz=>a15 z.1];by_cases a16:k=16
 .subst a16;have e:gT (kT w s t 16 o v).1.2.2.2 u=if u=t then (3,o,(gT s.2.2.2 u).2.2) else gT s.2.2.2 u:=by
   have:gT (cdP (xl s.2.2.2 t 3) t o) u=_:=LW o t0 I (by unfold xl;rw[bN];exact A);refine Eq.trans this ?_;rw[o7 3 t0 I A];split<;>rfl
  rw[e];by_cases q:u=t
  .rw[aC q,aC ⟨rfl,q⟩]
  .rw[av q,av λz=>q z.2,av (by omega),av (by omega),av (L (by omega) (by omega))]
 rw[av λz=>a16 z.1];by_cases a17:k=17
 .subst a17;have e:gT (kT w s t 17 o v).1.2.2.2 u=if u=t then (2,0,(gT s.2.2.2 u).2.2) else gT s.2.2.2 u:=by
   have:gT (cdP (xl s.2.2.2 t 2) t 0) u=_:=LW 0 t0 I (by unfold xl;rw[bN];exact A);refine Eq.trans this ?_;rw[o7 2 t0 I A];split<;>rfl
  rw[e];by_cases q:u=t
  .rw[aC q,aC ⟨rfl,q⟩]
  .rw[av q,av λz=>q z.2,av (by omega),av (L (by omega) (by omega))]
 rw[av λz=>a17 z.1];by_cases a20:k=20
 .subst a20;have o0:=(nm.th (.inl rfl)).1;have e:gT (kT w s t 20 o v).1.2.2.2 u=if u=o then (1,(gT s.2.2.2 u).2) else gT s.2.2.2 u:=o7 1 o0 I A
  rw[e];by_cases q:u=o
  .rw[aC q,aC ⟨rfl,q⟩]
  .rw[av q,av λz=>q z.2,av (L (by omega) (by omega))]
 rw[av λz=>a20 z.1];by_cases a18:k=18
 .subst a18;rw[CX];by_cases hl:l! (wl s.2.2.2 o (l! s.2.2.2))=0
  .rw[aC hl,av (λh=>by rcases h with ⟨_,h,_⟩|⟨h,_⟩;exact h hl;omega)]
  .rw[av hl];have hc:=Dw v hl;have h0:=(oz.1 hc).1;show gT (xl s.2.2.2 (BQ (wl s.2.2.2 o (l! s.2.2.2)) v) 4) u=_;rw[o7 4 h0 I A];by_cases q:u=BQ (wl s.2.2.2 o (l! s.2.2.2)) v
   .rw[aC q,aC (.inl ⟨rfl,hl,q⟩)]
   .rw[av q,av (λh=>by rcases h with ⟨_,_,h⟩|⟨h,_⟩;exact q h;omega)]
 by_cases a19:k=19
 .subst a19;have e:gT (kT w s t 19 o v).1.2.2.2 u=if u∈wl s.2.2.2 o (l! s.2.2.2) then (4,(gT s.2.2.2 u).2) else gT s.2.2.2 u:=auc I _ s.2.2.2 (λx hx=>(oz.1 hx).1) A
  rw[e];by_cases q:u∈wl s.2.2.2 o (l! s.2.2.2)
  .rw[aC q,aC (.inr ⟨rfl,q⟩)]
  .rw[av q,av (λh=>by rcases h with ⟨h,_⟩|⟨_,h⟩;omega;exact q h)]
 rw[av (L a18 a19)];have e:(kT w s t k o v).1.2.2.2=s.2.2.2:=by
  unfold kT;rw[av a1,av a2];repeat' split
  all_goals first|rfl|omega
 rw[e]
def UT (w:WT) (e:ET) (k:Int):Prop:=((e.2.1=7\/e.2.1=11)/\e.2.2.1=k)\/(e.2.1=16/\KQ w e.2.2.1=k)
def rrl (e:ET) (k:Int):Prop:=e.2.1=9/\e.2.2.1=k
def aqw (w:WT) (e:ET) (k:Int):Prop:=((e.2.1=6\/e.2.1=10)/\e.2.2.1=k)\/(e.2.1=17/\KQ w e.2.2.1=k)
def aqr (e:ET) (k:Int):Prop:=e.2.1=8/\e.2.2.1=k
def VV (w:WT) (e:ET) (k:Int):(aqw w e k/\∀p,lkF w e k p=(e.1,p.2))\/(UT w e k/\∀p,lkF w e k p=(-1,p.2))\/(aqr e k/\∀p,lkF w e k p=(p.1,wV p.2 [e.1]))\/(rrl e k/\∀p,lkF w e k p=(p.1,wo p.2 e.1))\/∀p,lkF w e k p=p:=by
 by_cases h1:aqw w e k
 .exact .inl ⟨h1,λp=>aC h1⟩
 by_cases z:UT w e k
 .exact .inr (.inl ⟨z,λp=>(av h1).trans (aC z)⟩)
 by_cases A:aqr e k
 .exact .inr (.inr (.inl ⟨A,λp=>((av h1).trans (av z)).trans (aC A)⟩))
 by_cases I:rrl e k
 .exact .inr (.inr (.inr (.inl ⟨I,λp=>(((av h1).trans (av z)).trans (av A)).trans (aC I)⟩)))
 .exact .inr (.inr (.inr (.inr λp=>(((av h1).trans (av z)).trans (av A)).trans (av I))))
def EC (l:Y ET) (D:Nat->Prop) (u:Int) (i:Nat):Prop:=∀k,k<i->(eN l k).1=u->D k
def EC.dn (h:EC L O a (i+1)):EC L O a i:=λk z=>h k (by omega)
def EC.up (h:EC L O a i) (A:(eN L i).1≠a):EC L O a (i+1):=λk I z=>by
 by_cases e:k=i
 .grind
 .exact h k (by omega) z
def nD (D:Nat->Prop) (i:Nat) (P:Nat->Prop):Prop:=∃r,r<i/\¬D r/\P r
def nD.up {P:Nat->Prop} (h:nD O i P):nD O (i+1) P:=by
 let⟨r,a,b⟩:=h;exact⟨r,by omega,b⟩
structure SmL (w:WT) (l:List ET) (D:Nat->Prop) (i:Nat) (k:Int) (p p':Int×η):Prop where
 a:p'.1= -1\/p'.1=p.1\/nD D i λr=>UT w (eN l r) k
 b:∀u:Int,0<=u->p.1=u->EC l D u i->p'.1=u
 ra:∀u∈p'.2,u∈p.2\/nD D i λr=>rrl (eN l r) k
 rb:∀u∈p.2,EC l D u i->u∈p'.2
 rc:∀u∈p'.2,EC l D u i->u∈p.2
def SmL.run {w:WT} {p p':f?} (h:SmL w L O i a p p') (hD:O i):SmL w L O (i+1) a (lkF w (eN L i) a p) (lkF w (eN L i) a p'):=by
 let⟨k,b,l,I,A⟩:=h;rcases VV w (eN L i) a with ⟨_,e⟩|⟨_,e⟩|⟨_,e⟩|⟨_,e⟩|e<;>rw[e,e]
 .exact⟨.inr (.inl rfl),λu _ z _=>z,λu z=>(l u z).imp id nD.up,λu z c=>I u z c.dn,λu z c=>A u z c.dn⟩
 .exact⟨.inl rfl,λu _ z _=>z,λu z=>(l u z).imp id nD.up,λu z c=>I u z c.dn,λu z c=>A u z c.dn⟩
 .refine ⟨k.imp id λh=>h.imp id nD.up,λu h0 z c=>b u h0 z c.dn,λu z=>?_,λu z c=>?_,λu z c=>?_⟩
  .rcases l7.1 z with z|z
   .exact (l u z).imp (λh=>l7.2 (.inl h)) nD.up
   .exact .inl (l7.2 (.inr z))
  .exact l7.2 ((l7.1 z).imp (λh=>I u h c.dn) id)
  .exact l7.2 ((l7.1 z).imp (λh=>A u h c.dn) id)
 .refine ⟨k.imp id λh=>h.imp id nD.up,λu h0 z c=>b u h0 z c.dn,λu z=>?_,λu z c=>?_,λu z c=>?_⟩
  .obtain⟨h1,h2⟩:=jI.1 z;exact (l u h1).imp (λh=>jI.2 ⟨h,h2⟩) nD.up
  .obtain⟨h1,h2⟩:=jI.1 z;exact jI.2 ⟨I u h1 c.dn,h2⟩
  .obtain⟨h1,h2⟩:=jI.1 z;exact jI.2 ⟨A u h1 c.dn,h2⟩
 .exact⟨k.imp id λh=>h.imp id nD.up,λu h0 z c=>b u h0 z c.dn,λu z=>(l u z).imp id nD.up,λu z c=>I u z c.dn,λu z c=>A u z c.dn⟩
def SmL.skip {w:WT} {p p':f?} (h:SmL w L O i a p p') (hD:¬O i) (h1:aqw w (eN L i) a->p.1= -1):SmL w L O (i+1) a (lkF w (eN L i) a p) p':=by
 let⟨k,b,ra,l,I⟩:=h;have own:∀{u:Int},EC L O u (i+1)->u≠(eN L i).1:=λc z=>hD (c i (by omega) z.symm)
 rcases VV w (eN L i) a with ⟨q,e⟩|⟨q,e⟩|⟨q,e⟩|⟨q,e⟩|e<;>rw[e]
 .refine ⟨?_,λu _ A c=>bT A.symm (own c),λu A=>(ra u A).imp id nD.up,λu A c=>l u A c.dn,λu A c=>I u A c.dn⟩;rcases k with k|k|k
  .exact .inl k
  .grind
  .exact .inr (.inr k.up)
 .refine ⟨?_,λu h0 A _=>(by omega),λu A=>(ra u A).imp id nD.up,λu A c=>l u A c.dn,λu A c=>I u A c.dn⟩;exact .inr (.inr ⟨i,by omega,hD,q⟩)
 .refine ⟨k.imp id λh=>h.imp id nD.up,λu h0 A c=>b u h0 A c.dn,λu A=>(ra u A).imp (λh=>l7.2 (.inl h)) nD.up,λu A c=>?_,λu A c=>l7.2 (.inl (I u A c.dn))⟩;rcases l7.1 A with A|A
  .exact l u A c.dn
  .grind
 .have wm:∀{u:Int},u∈p.2->u≠(eN L i).1->u∈wo p.2 (eN L i).1:=λA hn=>jI.2 ⟨A,by rw[dt hn];rfl⟩
  refine ⟨k.imp id λh=>h.imp id nD.up,λu h0 A c=>b u h0 A c.dn,λu A=>?_,λu A c=>l u (jI.1 A).1 c.dn,λu A c=>wm (I u A c.dn) (own c)⟩;rcases ra u A with h|h
  .by_cases z:u=(eN L i).1
   .exact .inr ⟨i,by omega,hD,q⟩
   .exact .inl (wm h z)
  .exact .inr h.up
 .exact⟨k.imp id λh=>h.imp id nD.up,λu h0 A c=>b u h0 A c.dn,λu A=>(ra u A).imp id nD.up,λu A c=>l u A c.dn,λu A c=>I u A c.dn⟩
structure SmX (l:List ET) (D:Nat->Prop) (i:Nat) (x x':Int):Prop where
 a:x'= -1\/x'=x\/nD D i λr=>(eN l r).2.1=13
 b:∀u:Int,0<=u->x=u->EC l D u i->x'=u
def txF (e:ET) (x:Int):Int:=if e.2.1=12 then e.1 else if e.2.1=13 then -1 else x
def SmX.run {A:Int} (h:SmX L O i a A) (I:O i):SmX L O (i+1) (txF (eN L i) a) (txF (eN L i) A):=by
 unfold txF;by_cases k1:(eN L i).2.1=12
 .rw[aC k1,aC k1];exact⟨.inr (.inl rfl),λu _ z _=>z⟩
 rw[av k1,av k1];by_cases k2:(eN L i).2.1=13
 .rw[aC k2,aC k2];exact⟨.inl rfl,λu _ z _=>z⟩
 rw[av k2,av k2];exact⟨h.a.imp id λh=>h.imp id nD.up,λu h0 z c=>h.b u h0 z c.dn⟩
def SmX.skip {A:Int} (h:SmX L O i a A) (I:¬O i) (h1:(eN L i).2.1=12->a= -1):SmX L O (i+1) (txF (eN L i) a) A:=by
 unfold txF;by_cases k1:(eN L i).2.1=12
 .rw[aC k1];refine ⟨?_,λu _ z c=>bT (c i (by omega) z) I⟩;rcases h.a with x|x|x
  .exact .inl x
  .omega
  .exact .inr (.inr x.up)
 rw[av k1];by_cases k2:(eN L i).2.1=13
 .exact⟨.inr (.inr ⟨i,by omega,I,k2⟩),λu h0 z _=>by omega⟩
 rw[av k2];exact⟨h.a.imp id λh=>h.imp id nD.up,λu h0 z c=>h.b u h0 z c.dn⟩
structure SmF (l:List ET) (D:Nat->Prop) (i:Nat) (o:Int) (d d':Bool):Prop where
 a:d'=J->d=J
 b:d=J->d'=J\/nD D i λr=>(eN l r).2.1=22/\(eN l r).2.2.1=o
def dnF (e:ET) (o:Int) (d:Bool):Bool:=if e.2.1=22/\e.2.2.1=o then J else d
def SmF.run {z:Bool} (h:SmF L O i a b z):SmF L O (i+1) a (dnF (eN L i) a b) (dnF (eN L i) a z):=by
 unfold dnF;by_cases k:(eN L i).2.1=22/\(eN L i).2.2.1=a
 .rw[aC k,aC k];exact⟨λ_=>rfl,λ_=>.inl rfl⟩
 .rw[av k,av k];exact⟨h.a,λq=>(h.b q).imp id nD.up⟩
def SmF.skip {z:Bool} (h:SmF L O i a b z) (A:¬O i):SmF L O (i+1) a (dnF (eN L i) a b) z:=by
 unfold dnF;by_cases k:(eN L i).2.1=22/\(eN L i).2.2.1=a
 .rw[aC k];exact⟨λ_=>rfl,λ_=>.inr ⟨i,by omega,A,k⟩⟩
 .rw[av k];exact⟨h.a,λq=>(h.b q).imp id nD.up⟩
structure SmT (l:List ET) (D:Nat->Prop) (i:Nat) (u:Int) (g g':Int×Int×Bool):Prop where
 z0:g.1=0->g'.1=0
 z1:g.1=1->g'.1=1\/nD D i λr=>(eN l r).2.1=20/\(eN l r).2.2.1=u
 z2:EC l D u i->g.1=2->g'.1=2
 z5:EC l D u i->g.1=5->g'.1=5
 z3:EC l D u i->g.1=3->g'.1=3/\g'.2.1=g.2.1
 z4:EC l D u i->g.1=4->g'.2.1=g.2.1/\(g'.1=4\/(g'.1=3/\¬D (BS l u.toNat i).toNat))
 za:EC l D u i->g'.2.2=g.2.2
 zw:g'.1=3->(g.1=3/\g.2.1=g'.2.1)\/nD D i λr=>((eN l r).2.1=18\/(eN l r).2.1=19)/\(eN l r).2.2.1=g'.2.1
structure RdT (l:List ET) (i:Nat) (u:Int) (no:Prop) (g:Int×Int×Bool):Prop where
 b:u=(eN l i).1->(eN l i).2.1=1->g.1=1
 w:u=(eN l i).1->(eN l i).2.1=17->g.1=4
 r:u=(eN l i).1->(eN l i).2.1≠1->(eN l i).2.1≠17->g.1=2
 sp:(eN l i).2.1=20->u=(eN l i).2.2.1->g.1=0/\u≠(eN l i).1
 no:no->g.1=3/\g.2.1=(eN l i).2.2.1/\((eN l i).2.1=18\/(eN l i).2.1=19)
def owF (k o:Int) (g:c!):c!:=if k=1 then (2,g.2) else if k=2 then (5,g.2) else if k=14 then (g.1,g.2.1,J) else if k=15 then (g.1,g.2.1,af) else if k=16 then (3,o,g.2.2) else if k=17 then (2,0,g.2.2) else g
def St {no:Prop} {g:c!} (h:RdT L i a no g) (z:a=(eN L i).1):thF (eN L i).2.1 (eN L i).1 (eN L i).2.2.1 a no g=owF (eN L i).2.1 (eN L i).2.2.1 g:=by
 have I:¬no:=λq=>by
  have h1:=h.no q;have l:=h.r z (by omega) (by omega);omega
 have A:¬((eN L i).2.1=20/\a=(eN L i).2.2.1):=λq=>(h.sp q.1 q.2).2 z
 unfold thF owF
 grind
def FI {no:Prop} {g:c!} (z:a≠(eN L i).1):thF (eN L i).2.1 (eN L i).1 (eN L i).2.2.1 a no g=if (eN L i).2.1=20/\a=(eN L i).2.2.1 then (1,g.2) else @ite _ no (di _) (4,g.2) g:=by
 unfold thF
 grind
def ajq {no:Prop} {g:c!} (h:RdT L i a no g) (z:a=(eN L i).1):(owF (eN L i).2.1 (eN L i).2.2.1 g).1=if (eN L i).2.1=2 then 5 else if (eN L i).2.1=16 then 3 else 2:=by
 have r:=h.r z;unfold owF
 grind
def ay7 (k o:Int) {g g':c!} (h:g'.2.2=g.2.2):(owF k o g').2.2=(owF k o g).2.2:=by
 unfold owF
 grind
def asl {o:Int} (z:a=16) (g:c!):(owF a o g).2.1=o:=by subst z;rfl
def SmT.run {no no':Prop} {g g':c!} (h:SmT L O i a g g') (hD:O i) (po:a=(eN L i).1->EC L O a i) (R:RdT L i a no g) (R':RdT L i a no' g') (hno:no↔no') (hw:a≠(eN L i).1->g.1=4->BS L a.toNat (i+1)=BS L a.toNat i):
 SmT L O (i+1) a (thF (eN L i).2.1 (eN L i).1 (eN L i).2.2.1 a no g) (thF (eN L i).2.1 (eN L i).1 (eN L i).2.2.1 a no' g'):=by
 by_cases A:a=(eN L i).1
 .rw[St R A,St R' A];have e1:=ajq R A;have e2:=ajq R' A;have e3:=ay7 (eN L i).2.1 (eN L i).2.2.1 (h.za (po A));have e4:(owF (eN L i).2.1 (eN L i).2.2.1 g).1=3->(owF (eN L i).2.1 (eN L i).2.2.1 g).2.1=(eN L i).2.2.1/\(owF (eN L i).2.1 (eN L i).2.2.1 g').2.1=(eN L i).2.2.1:=λq=>by
   have k16:(eN L i).2.1=16:=by omega
   exact⟨asl k16 g,asl k16 g'⟩
  generalize owF (eN L i).2.1 (eN L i).2.2.1 g=q at*
  generalize owF (eN L i).2.1 (eN L i).2.2.1 g'=q' at*
  have e6:q.1=5\/q.1=3\/q.1=2:=by omega
  exact⟨λz=>by omega,λz=>by omega,λ_ z=>by omega,λ_ z=>by omega,λ_ z=>⟨by omega,by rw[(e4 z).1,(e4 z).2]⟩,λ_ z=>by omega,λ_=>e3,λz=>.inl ⟨by omega,by have:=e4 (by omega);rw[this.1,this.2]⟩⟩
 .rw[FI A,FI A];have I:EC L O a (i+1)->EC L O a i:=EC.dn;by_cases sp:(eN L i).2.1=20/\a=(eN L i).2.2.1
  .rw[aC sp,aC sp];exact⟨nofun,λ_=>.inl rfl,λ_ z=>(by cases z),λ_ z=>(by cases z),λ_ z=>(by cases z),λ_ z=>(by cases z),λc=>h.za (I c),nofun⟩
  rw[av sp,av sp];by_cases l:no
  .rw[aC l,aC (hno.1 l)];let⟨a1,a2,_⟩:=R.no l;let⟨b1,b2,_⟩:=R'.no (hno.1 l);exact⟨nofun,nofun,λ_ z=>(by cases z),λ_ z=>(by cases z),λ_ z=>(by cases z),λ_ _=>⟨by dsimp only;rw[a2,b2],.inl rfl⟩,λc=>h.za (I c),nofun⟩
  .rw[av l,av λq=>l (hno.2 q)];exact⟨h.z0,λz=>(h.z1 z).imp id nD.up,λc=>h.z2 (I c),λc=>h.z5 (I c),λc=>h.z3 (I c),λc z=>by rw[hw A z];exact h.z4 (I c) z,λc=>h.za (I c),λz=>(h.zw z).imp id nD.up⟩
def SmT.skip {no:Prop} {g g':c!} (h:SmT L O i a g g') (hD:¬O i) (R:RdT L i a no g) (hw:a≠(eN L i).1->g.1=4->BS L a.toNat (i+1)=BS L a.toNat i) (hn':a≠(eN L i).1->no->BS L a.toNat (i+1)=(i:Int)):
 SmT L O (i+1) a (thF (eN L i).2.1 (eN L i).1 (eN L i).2.2.1 a no g) g':=by
 by_cases A:a=(eN L i).1
 .rw[St R A];have e1:=ajq R A;have l:¬EC L O a (i+1):=λc=>hD (c i (by omega) A.symm)
  have g3:g.1≠3:=λz=>by
   by_cases k1:(eN L i).2.1=1
   .have:=R.b A k1;omega
   by_cases k17:(eN L i).2.1=17
   .have:=R.w A k17;omega
   have:=R.r A k1 k17;omega
  generalize owF (eN L i).2.1 (eN L i).2.2.1 g=q at*
  have e6:q.1=5\/q.1=3\/q.1=2:=by omega
  exact⟨λz=>by omega,λz=>by omega,λc=>(l c).elim,λc=>(l c).elim,λc=>(l c).elim,λc=>(l c).elim,λc=>(l c).elim,λz=>by
   rcases h.zw z with z|z
   .exact (g3 z.1).elim
   .exact .inr z.up⟩
 .rw[FI A];have I:EC L O a (i+1)->EC L O a i:=EC.dn;by_cases sp:(eN L i).2.1=20/\a=(eN L i).2.2.1
  .rw[aC sp];have g0:=h.z0 (R.sp sp.1 sp.2).1;exact⟨nofun,λ_=>.inr ⟨i,by omega,hD,sp.1,sp.2.symm⟩,λ_ z=>(by cases z),λ_ z=>(by cases z),λ_ z=>(by cases z),λ_ z=>(by cases z),λc=>h.za (I c),λz=>by omega⟩
  rw[av sp];by_cases hn:no
  .rw[aC hn];let⟨a1,a2,a3⟩:=R.no hn;refine ⟨nofun,nofun,λ_ z=>(by cases z),λ_ z=>(by cases z),λ_ z=>(by cases z),λc _=>?_,λc=>h.za (I c),λz=>?_⟩
   .obtain⟨b1,b2⟩:=h.z3 (I c) a1
    grind
   .rcases h.zw z with z|z
    .exact .inr ⟨i,by omega,hD,a3,by rw[<- a2,z.2]⟩
    .exact .inr z.up
  .rw[av hn];exact⟨h.z0,λz=>(h.z1 z).imp id nD.up,λc=>h.z2 (I c),λc=>h.z5 (I c),λc=>h.z3 (I c),λc z=>by rw[hw A z];exact h.z4 (I c) z,λc=>h.za (I c),λz=>(h.zw z).imp id nD.up⟩
structure ClD (w:WT) (l:List ET) (D:Nat->Prop):Prop where
 po:∀i,i<l! l->D i->∀k,k<i->(eN l k).1=(eN l i).1->D k
 sp:∀i,i<l! l->D i->(eN l i).2.1=1->∀k,k<i->(eN l k).2.1=20->(eN l k).2.2.1=(eN l i).1->D k
 jo:∀i,i<l! l->D i->(eN l i).2.1=21->∀k,k<i->(eN l k).1=(eN l i).2.2.1->D k
 ge:∀i,i<l! l->D i->(eN l i).2.1=23->∀k,k<i->(eN l k).2.1=22->(eN l k).2.2.1=(eN l i).2.2.1->D k
 wk:∀i,i<l! l->D i->(eN l i).2.1=17->D (BS l (eN l i).1.toNat i).toNat
 lk:∀i,i<l! l->D i->∀k,k<i->∀o:Int,(aqw w (eN l i) o/\(UT w (eN l k) o\/rrl (eN l k) o))\/(aqr (eN l i) o/\UT w (eN l k) o)->D k
 tx:∀i,i<l! l->D i->(eN l i).2.1=12->∀k,k<i->(eN l k).2.1=13->D k
def rS (w:WT) (l:Y ET) (D:Nat->Prop):Nat->SY
 |0=>KL w
 |i+1=> @ite _ (D i) (di _) (kT w (rS w l D i) (eN l i).1 (eN l i).2.1 (eN l i).2.2.1 (eN l i).2.2.2.1).1 (rS w l D i)
abbrev fS (w:WT) (l:Y ET) (i:Nat):SY:=(wU w (l.take i)).1
def LU (w:WT) (h:i<l! L):fS w L (i+1)=(kT w (fS w L i) (eN L i).1 (eN L i).2.1 (eN L i).2.2.1 (eN L i).2.2.2.1).1:=by unfold fS;rw[CY w h]
structure QJ (w:WT) (l:List ET) (D:Nat->Prop) (i:Nat) (s s':SY):Prop where
 e1:l! s'.1=l! w.2.1
 e2:l! s'.2.2.1=l! w.2.2.2.1
 e3:l! s'.2.2.2=l! w.2.2.2.2.1
 L:∀k:Int,0<=k->k<l! w.2.1->SmL w l D i k (aI dO s.1 k) (aI dO s'.1 k)
 X:SmX l D i s.2.1 s'.2.1
 F:∀o:Int,0<=o->o<l! w.2.2.2.1->SmF l D i o (aI (.bool) s.2.2.1 o) (aI (.bool) s'.2.2.1 o)
 T:∀u:Int,0<=u->u<l! w.2.2.2.2.1->SmT l D i u (gT s.2.2.2 u) (gT s'.2.2.2 u)
def QJ.zero (w:WT) (l:Y ET) (D:Nat->Prop):QJ w l D 0 (KL w) (KL w):=
 ⟨by simp[KL],by simp[KL],by simp[KL,C8],λk _ _=>⟨.inr (.inl rfl),λu _ h _=>h,λu h=>.inl h,λu h _=>h,λu h _=>h⟩,⟨.inr (.inl rfl),λu _ h _=>h⟩,λo _ _=>⟨id,.inl⟩,
   λu _ _=>⟨id,.inl,λ_ h=>h,λ_ h=>h,λ_ h=>⟨h,rfl⟩,λ_ h=>⟨rfl,.inl h⟩,λ_=>rfl,λh=>.inl ⟨h,rfl⟩⟩⟩
def Zb {w:WT} {s:SY} {e:ET} (rd:QK w s e.1 e.2.1 e.2.2.1) (h:aqw w e a):(aI dO s.1 a).1= -1:=by
 rcases h with ⟨h,rfl⟩|⟨h,rfl⟩
 .exact rd.aq (by omega)
 .exact (rd.wk h).2.2
def au7 {w:WT} {s:SY} {e:ET} (rd:QK w s e.1 e.2.1 e.2.2.1) (h:UT w e a):(aI dO s.1 a).1=e.1:=by
 rcases h with ⟨h,rfl⟩|⟨h,rfl⟩
 .exact rd.rl h
 .exact rd.nt (.inl h)
def KN (w:WT) (l:Y ET) (L:Int) (j:Nat):Int:=(aI dO (fS w l j).1 L).1
def Mr {w:WT} (tr:TR (w,L)) {l:Int} (L0:0<=l) (z:i<l! L):KN w L l (i+1)=(lkF w (eN L i) l (aI dO (fS w L i).1 l)).1:=by
 unfold KN;rw[LU w z,L1 (tr.sc z).en L0]
def S1 {w:WT} (tr:TR (w,L)) {l t:Int} (L0:0<=l) (ht:0<=t) {a:Nat} (h0:KN w L l a≠t):∀n:Nat,a+n<=l! L->KN w L l (a+n)=t->∃q,a<=q/\q<a+n/\(eN L q).1=t/\aqw w (eN L q) l
 |0,_,h=>bT h h0
 |n+1,I,h=>by
  by_cases e:KN w L l (a+n)=t
  .obtain⟨q,A,a2,z⟩:=S1 tr L0 ht h0 n (by omega) e;exact⟨q,A,by omega,z⟩
  .rw[<- jA,Mr tr L0 (show a+n<l! L by omega)]at h;rcases VV w (eN L (a+n)) l with ⟨q,f⟩|⟨q,f⟩|⟨q,f⟩|⟨q,f⟩|f<;>rw[f]at h
   .grind
   .omega
   .exact bT h e
   .exact bT h e
   .exact bT h e
def acy {w:WT} (tr:TR (w,L)) {l:Int} (L0:0<=l) (z:0<=a) {v:Nat} (h0:KN w L l v=a):∀n:Nat,v+n<=l! L->KN w L l (v+n)≠a->∃r,v<=r/\r<v+n/\(eN L r).1=a/\UT w (eN L r) l
 |0,_,h=>bT h0 h
 |n+1,hn,h=>by
  by_cases e:KN w L l (v+n)=a
  .have sc:=tr.sc (show v+n<l! L by omega);rw[<- jA,Mr tr L0 (show v+n<l! L by omega)]at h;have e':(aI dO (fS w L (v+n)).1 l).1=a:=e;rcases VV w (eN L (v+n)) l with ⟨q,f⟩|⟨q,f⟩|⟨q,f⟩|⟨q,f⟩|f<;>rw[f]at h
   .have h9:a= -1:=e'.symm.trans (Zb sc.rd q);omega
   .exact⟨v+n,by omega,by omega,(au7 sc.rd q).symm.trans e',q⟩
   .exact bT e' h
   .exact bT e' h
   .exact bT e' h
  .obtain⟨q,I,a2,A⟩:=acy tr L0 z h0 n (by omega) e;exact⟨q,I,by omega,A⟩
def Lx {g:c!}:FA a g=J↔g.1=3/\g.2.1=a:=by unfold FA;simp
def anw {w:WT} (tr:TR (w,L)) (cl:ClD w L O) (hi:i<l! L) (hD:O i) {s':SY} (S:QJ w L O i (fS w L i) s') (A:(eN L i).2.1=18\/(eN L i).2.1=19) (u0:0<=a) (u1:a<l! w.2.2.2.2.1):FA (eN L i).2.2.1 (gT (fS w L i).2.2.2 a)=FA (eN L i).2.2.1 (gT s'.2.2.2 a):=by
 have sc:=tr.sc hi;have t0:=sc.en.t0;have hL:=sc.en.nm.cd ⟨by omega,by omega⟩;have L0:0<=KQ w (eN L i).2.2.1:=(sc.en.cd _ (bC (T:=itK) hL.1 hL.2)).1;have oi:KN w L (KQ w (eN L i).2.2.1) i=(eN L i).1:=sc.rd.nt (by omega);have T:=S.T a u0 u1;have main:(gT (fS w L i).2.2.2 a).1=3/\(gT (fS w L i).2.2.2 a).2.1=(eN L i).2.2.1↔(gT s'.2.2.2 a).1=3/\(gT s'.2.2.2 a).2.1=(eN L i).2.2.1:=by
  constructor
  .rintro⟨I,go⟩;have hu:a=((a.toNat:Nat):Int):=by omega
   have W:=(Tt tr i (by omega)).2 a.toNat (by omega);have eg:TX w L i a.toNat=gT (fS w L i).2.2.2 a:=by unfold TX;rw[<- hu]
   rw[eg]at W;let⟨p0,p1,p2⟩:=W.p (.inl I);have pl:=Mi L a.toNat i;have po:=FY (l:=L) (u:=a.toNat) i p0;have pg:∀k,k<i->(eN L k).1=a->k<=(Ab L a.toNat i).toNat:=λk A e=>by
    have l:=(kP tr (show k<l! L by omega)).th;have:=SX (l:=L) (u:=a.toNat) (i:=k) (by omega) i A;omega
   generalize hA:(Ab L a.toNat i).toNat=u at*
   have hai:u<i:=by omega
   have l:=kP tr (show u<l! L by omega);have ka:(eN L u).2.1=16:=by rw[l.k,p1];rfl
   have oa:(eN L u).2.2.1=(eN L i).2.2.1:=by rw[l.ob (by rw[p1];decide),p2,go]
   have wa:UT w (eN L u) (KQ w (eN L i).2.2.1):=.inr ⟨ka,by rw[oa]⟩;have ta:(eN L u).1=a:=by rw[l.th,po];omega
   have oa1:KN w L (KQ w (eN L i).2.2.1) (u+1)≠(eN L i).1:=by
    rw[Mr tr L0 (by omega)];rcases VV w (eN L u) (KQ w (eN L i).2.2.1) with ⟨q,f⟩|⟨q,f⟩|⟨q,f⟩|⟨q,f⟩|f
    .rcases q with q|q<;>omega
    .rw[f];dsimp only;omega
    .have:=q.1;omega
    .have:=q.1;omega
    .have f:=f (aI dO (fS w L u).1 (KQ w (eN L i).2.2.1));have f2:lkF w (eN L u) (KQ w (eN L i).2.2.1) (aI dO (fS w L u).1 (KQ w (eN L i).2.2.1))=(-1,(aI dO (fS w L u).1 (KQ w (eN L i).2.2.1)).2):=by
      unfold lkF
      grind
     rw[f2];dsimp only;omega
   let⟨q,q1,q2,q3,q4⟩:=S1 tr L0 t0 oa1 (i-(u+1)) (by omega) (by grind);have Dq:=cl.po i hi hD q (by omega) q3;have Da:=cl.lk q (by omega) Dq u (by omega) _ (.inl ⟨q4,.inl wa⟩);have hc:EC L O a i:=λk A e=>by
    by_cases z:k=u
    .rw[z];exact Da
    .exact cl.po u (by omega) Da k (by have:=pg k A e;omega) (by rw[e,ta])
   let⟨a1,a2⟩:=T.z3 hc I;exact⟨a1,a2.trans go⟩
  .rintro⟨I,go⟩;rcases T.zw I with ⟨a1,a2⟩|⟨k,k1,k2,k3,k4⟩
   .exact⟨a1,a2.trans go⟩
   .exfalso;have sk:=tr.sc (show k<l! L by omega);have ok:KN w L (KQ w (eN L i).2.2.1) k=(eN L k).1:=by
     have:=sk.rd.nt (by omega);rw[k4,go]at this;exact this
    by_cases e:(eN L k).1=(eN L i).1
    .exact k2 (cl.po i hi hD k k1 e)
    .obtain⟨q,q1,q2,q3,q4⟩:=S1 tr L0 t0 (a:=k) (by rw[ok];exact e) (i-k) (by omega) (by rw[show k+(i-k)=i by omega];exact oi);have oq:KN w L (KQ w (eN L i).2.2.1) q= -1:=Zb (tr.sc (show q<l! L by omega)).rd q4;let⟨r,r1,r2,r3,r4⟩:=acy tr L0 sk.en.t0 ok (q-k) (by omega) (by rw[show k+(q-k)=q by omega,oq];have:=sk.en.t0;omega);have Dq:=cl.po i hi hD q (by omega) q3;have Dr:=cl.lk q (by omega) Dq r (by omega) _ (.inl ⟨q4,.inl r4⟩);have rk:r≠k:=λz=>by grind
     exact k2 (cl.po r (by omega) Dr k (by omega) r3.symm)
 cases h1:FA (eN L i).2.2.1 (gT (fS w L i).2.2.2 a) with
 |true=>exact (Lx.2 (main.1 (Lx.1 h1))).symm
 |false=>
  cases h2:FA (eN L i).2.2.1 (gT s'.2.2.2 a) with
  |false=>rfl
  |true=>rw[Lx.2 (main.2 (Lx.1 h2))]at h1;cases h1
def QJ.rdy {w:WT} (tr:TR (w,L)) (cl:ClD w L O) (hi:i<l! L) (hD:O i) {s':SY} (S:QJ w L O i (fS w L i) s'):EN w s' (eN L i).1 (eN L i).2.1 (eN L i).2.2.1/\QK w s' (eN L i).1 (eN L i).2.1 (eN L i).2.2.1:=by
 have sc:=tr.sc hi;have en:=sc.en;have rd:=sc.rd;have nm:=en.nm;have t0:=en.t0;have t1:=en.t1;have A:EC L O (eN L i).1 i:=λk hk e=>cl.po i hi hD k hk e
 have T:=S.T _ t0 t1;have mu:16<=(eN L i).2.1/\(eN L i).2.1<=19->0<=KQ w (eN L i).2.2.1/\KQ w (eN L i).2.2.1<l! w.2.1:=λg=>by
  let⟨a,b⟩:=nm.cd g;exact en.cd _ (bC (T:=itK) a b)
 have free:∀k:Int,0<=k->k<l! w.2.1->aqw w (eN L i) k\/aqr (eN L i) k->(aI dO (fS w L i).1 k).1= -1->(aI dO s'.1 k).1= -1:=λk k0 k1 q h=>by
  rcases (S.L k k0 k1).a with a|a|⟨r,r1,z,I⟩
  .exact a
  .exact a.trans h
  .refine bT (cl.lk i hi hD r r1 k ?_) z
   grind
 refine ⟨⟨nm,t0,t1,en.cd,S.e1,S.e2,S.e3⟩,⟨λk=>?_,λk=>?_,λk k'=>T.z2 A (rd.r k k'),λk=>?_,λk=>?_,λk=>?_,λk=>?_,λk=>?_,λk=>?_,λk=>?_,λk=>(T.za A).trans (rd.ab k),λk=>(T.za A).trans (rd.ae k),λk=>?_,λk=>⟨(rd.sp k).1,?_⟩,λk=>⟨(rd.jo k).1,?_⟩,λk=>?_,λk=>?_⟩⟩
 .rcases T.z1 (rd.b k) with h|⟨r,r1,z,I,r4⟩
  .exact h
  .exact bT (cl.sp i hi hD k r r1 I r4) z
 .obtain⟨a,b,c⟩:=rd.wk k;let⟨m0,m1⟩:=mu (by omega);let⟨z1,z2⟩:=T.z4 A a;refine ⟨?_,z1.trans b,free _ m0 m1 (.inl (.inr ⟨k,rfl⟩)) c⟩;rcases z2 with z2|⟨_,z2⟩
  .exact z2
  .exact bT (cl.wk i hi hD k) z2
 .obtain⟨a,b⟩:=nm.lk (by omega);refine free _ a b ?_ (rd.aq k);by_cases k8:(eN L i).2.1=8
  .exact .inr ⟨k8,rfl⟩
  .exact .inl (.inl ⟨by omega,rfl⟩)
 .obtain⟨a,b⟩:=nm.lk (by omega);have h:=rd.wr k;cases hr:(aI dO s'.1 (eN L i).2.2.1).2 with
  |nil=>rfl
  |cons u r=>
   rcases (S.L _ a b).ra u (by grind) with q|⟨r,r1,z,I⟩
   .grind
   .exact bT (cl.lk i hi hD r r1 _ (.inl ⟨.inl ⟨.inr k,rfl⟩,.inr I⟩)) z
 .obtain⟨a,b⟩:=nm.lk (by omega);have h:=rd.ra k;cases hq:(aI dO s'.1 (eN L i).2.2.1).2.contains (eN L i).1 with
  |false=>rfl
  |true=>
   rw[iX.2 ((S.L _ a b).rc _ (iX.1 hq) A)]at h;cases h
 .obtain⟨a,b⟩:=nm.lk (by omega);exact (S.L _ a b).b _ t0 (rd.rl k) A
 .obtain⟨a,b⟩:=nm.lk (by omega);exact iX.2 ((S.L _ a b).rb _ (iX.1 (rd.rr k)) A)
 .rcases S.X.a with a|a|⟨r,r1,z,I⟩
  .exact a
  .exact a.trans (rd.xb k)
  .exact bT (cl.tx i hi hD k r r1 I) z
 .exact S.X.b _ t0 (rd.xe k) A
 .obtain⟨m0,m1⟩:=mu (by omega);exact (S.L _ m0 m1).b _ t0 (rd.nt k) A
 .obtain⟨a,b⟩:=nm.th (.inl k);exact (S.T _ a b).z0 (rd.sp k).2
 .obtain⟨a,b⟩:=nm.th (.inr k);exact (S.T _ a b).z5 (λm hm e=>cl.jo i hi hD k m hm e) (rd.jo k).2
 .obtain⟨a,b⟩:=nm.fu (.inl k);have h:=rd.se k;cases hq:aI (.bool) s'.2.2.1 (eN L i).2.2.1 with
  |false=>rfl
  |true=>rw[(S.F _ a b).a hq]at h;cases h
 .obtain⟨a,b⟩:=nm.fu (.inr k);rcases (S.F _ a b).b (rd.ge k) with h|⟨r,r1,z,I,r4⟩
  .exact h
  .exact bT (cl.ge i hi hD k r r1 I r4) z
def Yf (w:WT) (s:SY) (t k o v:Int):(kT w s t k o v).1.1.length=l! s.1/\(kT w s t k o v).1.2.2.1.length=l! s.2.2.1/\(kT w s t k o v).1.2.2.2.length=l! s.2.2.2:=by
 cases kdI k
 case no h _=>simp only[kT,h,dZ,KI];exact⟨trivial,trivial,trivial⟩
 all_goals simp[kT,bO,bt,dZ,eE,KI,owP,rdP,xl,cdP,atP,bN,F9]
 all_goals first|exact⟨trivial,trivial,trivial⟩|skip
 all_goals (split<;>simp[bN])
def rdT {w:WT} {s:SY} (rd:QK w s (eN L i).1 (eN L i).2.1 (eN L i).2.2.1) (v u:Int):RdT L i u (noP s.2.2.2 (eN L i).2.1 (eN L i).2.2.1 v u) (gT s.2.2.2 u):=
 ⟨λA k=>by rw[A];exact rd.b k,λA k=>by rw[A];exact (rd.wk k).1,λA k I=>by rw[A];exact rd.r k I,λk A=>⟨by rw[A];exact (rd.sp k).2,λz=>(rd.sp k).1 (A.symm.trans z)⟩,λq=>⟨q.w.2.2.1,q.w.2.2.2,q.imp And.left And.left⟩⟩
def QJ.next {w:WT} (tr:TR (w,L)) (cl:ClD w L O) (hi:i<l! L) {s':SY} (S:QJ w L O i (fS w L i) s'):QJ w L O (i+1) (fS w L (i+1)) (@ite _ (O i) (di _) (kT w s' (eN L i).1 (eN L i).2.1 (eN L i).2.2.1 (eN L i).2.2.2.1).1 s'):=by
 have sc:=tr.sc hi;have en:=sc.en;have e3:=en.e3;have e2:=en.e2;have rd:=sc.rd;have wka:∀u:Int,0<=u->u<l! w.2.2.2.2.1->u≠(eN L i).1->((gT (fS w L i).2.2.2 u).1=4->BS L u.toNat (i+1)=BS L u.toNat i)/\(noP (fS w L i).2.2.2 (eN L i).2.1 (eN L i).2.2.1 (eN L i).2.2.2.1 u->BS L u.toNat (i+1)=(i:Int)):=λu u0 I hu=>by
  have ht:¬(cf L i).th=u.toNat:=λz=>hu (by have:=(kP tr hi).th;omega)
  have W:=(Tt tr i (by omega)).2 u.toNat (by omega);have W':=(Tt tr (i+1) (by omega)).2 u.toNat (by omega);have eu:((u.toNat:Nat):Int)=u:=by omega
  have eg:TX w L i u.toNat=gT (fS w L i).2.2.2 u:=by unfold TX;rw[eu]
  have eg':TX w L (i+1) u.toNat=gT (fS w L (i+1)).2.2.2 u:=by unfold TX;rw[eu]
  rw[eg]at W;rw[eg',LU w hi,Hu w _ _ _ _ _ en u u0 (by rw[e3];exact I),FI hu]at W';refine ⟨λg4=>acb ht (W.n g4).1,λno=>?_⟩;have hw:=no.w;have n20:¬((eN L i).2.1=20/\u=(eN L i).2.2.1):=λq=>by rcases no with n|n<;>omega
  rw[av n20,aC no]at W';have h1:=(W'.n rfl).1;have h2:=W.a hw.2.2.1;rw[BS,av ht,av (by omega)]at h1 ⊢;omega
 rw[LU w hi];by_cases A:O i
 .rw[aC A];let⟨en',rd'⟩:=S.rdy tr cl hi A;let⟨l1,l2,l3⟩:=Yf w s' (eN L i).1 (eN L i).2.1 (eN L i).2.2.1 (eN L i).2.2.2.1;refine ⟨l1.trans S.e1,l2.trans S.e2,l3.trans S.e3,λk k0 k1=>?_,?_,λo o0 o1=>?_,λu u0 I=>?_⟩
  .rw[L1 en k0,L1 en' k0];exact (S.L k k0 k1).run A
  .rw[UF,UF];exact S.X.run A
  .have h:=(S.F o o0 o1).run;rw[abs,abs];have q:∀(x:θ),l! x=l! w.2.2.2.1->aI (.bool) (if (eN L i).2.1=22 then ca x (eN L i).2.2.1 J else x) o=dnF (eN L i) o (aI (.bool) x o):=λx hx=>by
    unfold dnF;by_cases k:(eN L i).2.1=22
    .obtain⟨a,b⟩:=en.nm.fu (.inl k);rw[aC k,mi (T:=.bool) x _ _ _ a (by rw[hx];exact b) o0]
     grind
    .grind
   rw[q _ e2,q _ S.e2];exact h
  .rw[Hu w _ _ _ _ _ en u u0 (by rw[e3];exact I),Hu w _ _ _ _ _ en' u u0 (by rw[S.e3];exact I)];refine (S.T u u0 I).run A (λhu k hk e=>cl.po i hi A k hk (by rw[e,hu])) (rdT rd _ u) (rdT rd' _ u) ?_ λhu=>(wka u u0 I hu).1
   by_cases hk:(eN L i).2.1=18\/(eN L i).2.1=19
   .have:wl (fS w L i).2.2.2 (eN L i).2.2.1 (fS w L i).2.2.2.length=wl s'.2.2.2 (eN L i).2.2.1 (l! s'.2.2.2):=by
     rw[show (fS w L i).2.2.2.length=l! s'.2.2.2 from e3.trans S.e3.symm];exact U3 _ λv hv=>anw tr cl hi A S hk (by omega) (by rw[S.e3]at hv;omega)
    unfold noP;rw[this]
   .exact⟨λq=>(hk (q.imp And.left And.left)).elim,λq=>(hk (q.imp And.left And.left)).elim⟩
 .rw[av A];refine ⟨S.e1,S.e2,S.e3,λk k0 k1=>?_,?_,λo o0 o1=>?_,λu u0 I=>?_⟩
  .rw[L1 en k0];exact (S.L k k0 k1).skip A λq=>Zb rd q
  .rw[UF];exact S.X.skip A rd.xb
  .have h:=(S.F o o0 o1).skip A;rw[abs];unfold dnF at h;by_cases k:(eN L i).2.1=22
   .obtain⟨a,b⟩:=en.nm.fu (.inl k);rw[aC k,mi (T:=.bool) _ _ _ _ a (by rw[e2];exact b) o0]
    grind
   .grind
  .rw[Hu w _ _ _ _ _ en u u0 (by rw[e3];exact I)];exact (S.T u u0 I).skip A (rdT rd _ u) (λhu=>(wka u u0 I hu).1) λhu=>(wka u u0 I hu).2
def sim {w:WT} (tr:TR (w,L)) (cl:ClD w L O):∀i,i<=l! L->QJ w L O i (fS w L i) (rS w L O i)
 |0,_=>QJ.zero w L O
 |i+1,h=>(sim tr cl i (by omega)).next tr cl (by omega)
def axy {w:WT} (tr:TR (w,L)) (cl:ClD w L O) (I:i<l! L) (k1:(eN L i).2.1≠1) (k17:(eN L i).2.1≠17) (nX:¬O i) (hc:EC L O (eN L i).1 i):∀n,i+n<=l! L->(gT (rS w L O (i+n)).2.2.2 (eN L i).1).1=2
 |0,h=>by
  have sc:=tr.sc I;exact ((sim tr cl i h).T _ sc.en.t0 sc.en.t1).z2 hc (sc.rd.r k1 k17)
 |n+1,h=>by
  have ih:=axy tr cl I k1 k17 nX hc n (by omega);have l:=tr.sc I;show (gT (@ite _ (O (i+n)) (di _) (kT w (rS w L O (i+n)) (eN L (i+n)).1 (eN L (i+n)).2.1 (eN L (i+n)).2.2.1 (eN L (i+n)).2.2.2.1).1 (rS w L O (i+n))).2.2.2 (eN L i).1).1=2;by_cases A:O (i+n)
  .have S:=sim tr cl (i+n) (by omega);let⟨en',rd'⟩:=S.rdy tr cl (by omega) A;have ht:(eN L i).1≠(eN L (i+n)).1:=λz=>by
    by_cases e:n=0
    .subst e;exact nX A
    .exact nX (cl.po _ (by omega) A i (by omega) z)
   rw[aC A,Hu w _ _ _ _ _ en' _ l.en.t0 (by rw[S.e3];exact l.en.t1),FI ht];have n1:¬((eN L (i+n)).2.1=20/\(eN L i).1=(eN L (i+n)).2.2.1):=λq=>by
    have h9:=(rd'.sp q.1).2
    grind
   rw[av n1,av λq=>bT (ih.symm.trans q.w.2.2.1) (by decide)];exact ih
  .grind
def ak5 {w:WT} (tr:TR (w,L)) (hi:i<l! L) (h:(cf L i).k=16\/(cf L i).k=17):KQ w (eN L i).2.2.1=(Ta w.2.2.1 (cf L i).ob:Int):=by
 have z:=kP tr hi;have en:=(tr.sc hi).en;have hob:=z.ob (by rcases h with h|h<;>rw[h]<;>decide);have kk:(eN L i).2.1=16\/(eN L i).2.1=17:=by have:=z.k;omega
 let⟨a,b⟩:=en.nm.cd (by omega);have h0:=(en.cd _ (bC (T:=itK) a b)).1;unfold KQ;rw[hob]at h0 ⊢;rw[sL (T:=itK)]at h0 ⊢;have:(List.getD w.2.2.1 (cf L i).ob (Ty.zero itK)).2=((Ta w.2.2.1 (cf L i).ob:Nat):Int):=by
  unfold Ta
  grind
 exact this
def ami {w:WT} (tr:TR (w,L)) (hi:i<l! L) :(aqw w (eN L i) a->BO w (cf L i)=(a,af)/\0<=a)/\(aqr (eN L i) a->BO w (cf L i)=(a,J)/\0<=a):=by
 have z:=kP tr hi;have I:=z.k;refine ⟨λh=>?_,λh=>?_⟩
 .rcases h with ⟨h,rfl⟩|⟨h,rfl⟩
  .have k6:(cf L i).k=6\/(cf L i).k=10:=by omega
   have A:=z.ob (by grind);unfold BO
   grind
  .have k17:(cf L i).k=17:=by omega
   unfold BO;rw[av (by omega),av (by omega),aC k17,ak5 tr hi (.inr k17)];exact⟨rfl,by omega⟩
 .obtain⟨h,rfl⟩:=h;have A:=z.ob (by grind);unfold BO
  grind
def Y' {w:WT} (tr:TR (w,L)) (hi:i<l! L) :(UT w (eN L i) a->DB w (cf L i)=(a,af))/\(rrl (eN L i) a->DB w (cf L i)=(a,J)):=by
 have z:=kP tr hi;have I:=z.k;refine ⟨λh=>?_,λh=>?_⟩
 .rcases h with ⟨h,rfl⟩|⟨h,rfl⟩
  .have k7:(cf L i).k=7\/(cf L i).k=11:=by omega
   have A:=z.ob (by grind);rw[Za k7,A]
  .have k16:(cf L i).k=16:=by omega
   rw[SU k16,ak5 tr hi (.inl k16)]
 .obtain⟨h,rfl⟩:=h;have k9:(cf L i).k=9:=by omega
  have A:=z.ob (by grind);rw[SS k9,A]
def ay1 {w:WT} (tr:TR (w,L)) (hi:i<l! L) (A:m<l! L) (h:(aqw w (eN L i) a/\(UT w (eN L m) a\/rrl (eN L m) a))\/(aqr (eN L i) a/\UT w (eN L m) a)):sfP w L i m:=by
 refine .inl ?_;rcases h with ⟨o,b⟩|⟨o,b⟩
 .obtain⟨e1,z⟩:=(ami tr hi).1 o;rw[e1];rcases b with b|b
  .rw[(Y' tr A).1 b];exact⟨z,rfl,λq=>by cases q.1⟩
  .rw[(Y' tr A).2 b];exact⟨z,rfl,λq=>by cases q.1⟩
 .obtain⟨e1,z⟩:=(ami tr hi).2 o;rw[e1,(Y' tr A).1 b]
  grind
def ait {w:WT} (tr:TR (w,L)) (hi:i<l! L) (z:m<l! L) (h:(eN L m).1=(eN L i).1):(cf L m).th=(cf L i).th:=by
 have h1:=(kP tr hi).th;have A:=(kP tr z).th;omega
def aku {w:WT} (tr:TR (w,L)) (hi:i<l! L) (hk:m<l! L) (h:((eN L i).2.1=1/\(eN L m).2.1=20/\(eN L m).2.2.1=(eN L i).1)\/((eN L i).2.1=21/\(eN L m).1=(eN L i).2.2.1)\/((eN L i).2.1=23/\(eN L m).2.1=22/\(eN L m).2.2.1=(eN L i).2.2.1)):hrP w L i m:=by
 have A:=kP tr hi;have z:=kP tr hk;have i1:=A.th;have i2:=A.k;have k1:=z.th;have k2:=z.k;rcases h with ⟨a,b,c⟩|⟨a,b⟩|⟨a,b,c⟩
 .have q:(cf L m).k=20:=by omega
  have I:=z.ob (by simp_all);exact .inl ⟨by omega,q,by omega⟩
 .have q:(cf L i).k=21:=by omega
  have I:=A.ob (by simp_all);exact .inr (.inl ⟨q,by omega⟩)
 .have q:(cf L i).k=23:=by omega
  have I:=A.ob (by simp_all);have l:(cf L m).k=22:=by omega
  have eo':=z.ob (by simp_all);exact .inr (.inr (.inr ⟨q,l,by omega⟩))
def DS.cl {w:WT} (tr:TR (w,L)) {st:Nat} (R:UK w L i m) (l:st<=i):ClD w L (DS w L i m st):=by
 have up:∀{A k:Nat},DS w L i m st A->k<A->LE (nC w L k) (oB w L A)->DS w L i m st k:=λh z hle=>h.dn tr R z (hle.trans (az4 w L _))
 refine ⟨λA hi h k z e=>up h z (aun tr hi z (ait tr hi (by omega) e)),λA hi h a k z b c=>up h z (auo tr hi z (aku tr hi (by omega) (.inl ⟨a,b,c⟩))),λA hi h a k z b=>up h z (auo tr hi z (aku tr hi (by omega) (.inr (.inl ⟨a,b⟩)))),λA hi h a k z b c=>up h z (auo tr hi z (aku tr hi (by omega) (.inr (.inr ⟨a,b,c⟩)))),λA hi h a=>?_,λA hi h k z o q=>up h z (az3 tr hi z (ay1 tr hi (by omega) q)),λA hi h a k z b=>up h z (az3 tr hi z (.inr ⟨?_,?_⟩))⟩
 .have I:=kP tr hi;have k17:(cf L A).k=17:=by have:=I.k;omega
  have e:(eN L A).1.toNat=(cf L A).th:=by have:=I.th;omega
  rw[e];have h1:=YP L (cf L A).th A;have h2:=(as7 tr hi k17).2.2;exact up h (by omega) (e_wk tr hi k17)
 .have:=(kP tr hi).k;omega
 .have:=(kP tr (show k<l! L by omega)).k;omega
def DS.rd {w:WT} (tr:TR (w,L)) {B st:Nat} (R:UK w L m B) (h:DS w L m B st i) (q:YM L i):DS w L m B st (YL L i):=h.dn tr R (H3 q) (e_rd q)
def DS.cgA {w:WT} (tr:TR (w,L)) {st:Nat} (R:UK w L i m):EC L (DS w L i m st) (eN L i).1 i:=λk z e=>DS.dnA tr R z (aun tr (by have:=R.ab;have:=R.bn;omega) z (ait tr (by have:=R.ab;have:=R.bn;omega) (by have:=R.ab;have:=R.bn;omega) e))
def DS.cgB {w:WT} (tr:TR (w,L)) {st:Nat} (R:UK w L i m):EC L (DS w L i m st) (eN L m).1 m:=λk z e=>DS.dnB tr R z (aun tr R.bn z (ait tr R.bn (by have:=R.bn;omega) e))
def Q8 (r:η):Prop:=KB r/\∀z∈r,0<=z/\z<4
def P8 (s:Y f?):Prop:=∀x∈s,Q8 x.2
def P8.get {s:Y f?} (h:P8 s) (o:Int):Q8 (aI dO s o).2:=by
 unfold aI;rw[aD];cases e:s[o.toNat]? with
 |none=>exact⟨trivial,λz A=>by cases A⟩
 |some x=>exact h x (ba e)
def P8.set {s:Y f?} (h:P8 s) (o a:Int) (A:Q8 z):P8 (ca s o (a,z)):=λx r=>by
 rcases FM r with r|rfl
 .exact h x r
 .exact A
def Fs (p:Int->Bool):∀{l:η},KB l->KB (l.filter p)
 |[],_=>trivial
 |x::r,h=>by
  rw[List.filter_cons];split
  .exact⟨λy z=>h.1 y ((jI.1 z).1),Fs p h.2⟩
  .exact Fs p h.2
def P8.ite {c:Prop} [Decidable c] {a b:SY×Int} (A:P8 a.1.1) (z:P8 b.1.1):P8 (if c then a else b).1.1:=by grind
def P8.ap {w:WT} {s:SY} (h:P8 s.1) {t:Int} (k o v:Int) (t0:0<=t) (L:t<4):P8 (kT w s t k o v).1.1:=by
 have ow:∀a b,P8 (owP s.1 a b):=λa b=>h.set a b (h.get a)
 have un:P8 (rdP s.1 o (wV (aI dO s.1 o).2 [t])):=h.set _ _ ⟨U6 _ _,λz A=>by
  rcases l7.1 A with A|A
  .exact (h.get o).2 z A
  .rw[aG]at A;subst A;exact⟨t0,L⟩⟩
 have I:P8 (rdP s.1 o (wo (aI dO s.1 o).2 t)):=h.set _ _ ⟨Fs _ (h.get o).1,λz A=>(h.get o).2 z (jI.1 A).1⟩;exact P8.ite h (P8.ite h (P8.ite (ow _ _) (P8.ite (ow _ _) (P8.ite un (P8.ite I (P8.ite h (P8.ite h (P8.ite h (P8.ite h (P8.ite (ow _ _) (P8.ite (ow _ _) (P8.ite (P8.ite h h) (P8.ite h (P8.ite h (P8.ite h h)))))))))))))))
def ku (w:WT) (l:Y ET):SN:=l.foldl (nxP w) (sn8 w)
def HZ (w:WT) (h:i<l! L):ku w (L.take (i+1))=nxP w (ku w (L.take i)) (eN L i):=by
 rw[nV (T:=gm) h];unfold ku;rw[gd];rfl
structure K8 (w:WT) (l:List ET) (i:Nat) (s:SN):Prop where
 a:(s.1,s.2.1,s.2.2.1)=wU w (l.take i)
 r:P8 s.1.1
 c:l! s.2.1=l! w.1
 f:l! s.2.2.1=l! w.2.2.2.1
 k:l! s.2.2.2=l! w.2.2.2.2.1
 n:CN (l.take i) s.2.2.2
def C9 {w:WT} (tr:TR (w,L)):∀i:Nat,i<=l! L->K8 w L i (ku w (L.take i))
 |0,_=>⟨rfl,λx I=>by rw[z_ I];exact⟨trivial,λz A=>by cases A⟩,by simp[ku,ce0],by simp[ku,fu0],by simp[ku],λt t0 t1=>by
   have:(aE (l! w.2.2.2.2.1) (0:Int)).getD t.toNat 0=0:=by grind
   exact this⟩
 |i+1,h=>by
  let⟨a,r,c,f,k,n⟩:=C9 tr i (by omega);have sc:=tr.sc (i:=i) (by omega);have l:=tr.len;have ht:=tr.wb.t;dsimp only at l ht;have en:=sc.en;have e1:=en.t1;have htk:=fR i L;rw[HZ w (by omega)];refine ⟨?_,r.ap _ _ _ en.t0 (by omega),?_,?_,?_,?_⟩
  .rw[CY w (by omega),<-a];rfl
  .unfold nxP ceP;split
   .rw[bN];exact c
   .exact c
  .unfold nxP fuP;split
   .rw[bN];exact f
   .exact f
  .unfold nxP;rw[bN];exact k
  .have:=n.next (eN L i) en.t0 (by omega) (by omega);rw[nV (T:=gm) (show i<l! L by omega)];exact this
def au3 {w:WT} (tr:TR (w,L)) (hi:i<l! L):l9 (w,ku w (L.take i),eN L i)=Z (ku w (L.take (i+1)),J):=by
 let⟨a,r,c,f,k,n⟩:=C9 tr i (by omega);have sc:=tr.sc hi;have A:=tr.wx;have ht:=tr.wb.t;have hls:=tr.ls _ (Fp hi);dsimp only at A ht hls;rw[HZ w hi];rw[<- a]at sc;generalize ku w (L.take i)=s at*
 generalize eN L i=e at*
 have en:=sc.en;have e1:=en.t1;have l3:l! w.2.1=3:=by rw[A.l];rfl
 have l:=n e.1 en.t0 (by omega);have b1:=tr.wb.c;have b4:=tr.wb.f;have b3:=tr.wb.d;dsimp only at b1 b4 b3;have q1:=en.e1;have q2:=en.e2;have q3:=en.e3;dsimp only at q1 q2 q3;refine azy (n:=4) w s e ⟨⟨by omega,by omega,λx hx=>?_,by omega,by omega⟩,by omega,by omega,by omega⟩ (by omega) (by omega) ⟨c,f,k⟩ en ⟨sc.rd,sc.s1,sc.s2,sc.de,sc.fr,by rw[l];exact sc.nd,by rw[l];exact sc.nf,sc.va⟩ hls.1 hls.2 (λh=>?_) (by omega) r (by omega)
 .have:=AW x.2 0 4 (r x hx).1 (r x hx).2;omega
 .have I:=en.nm.lk (by omega);have z:=en.nm.rw (by omega);generalize e.2.2.1=o at I z;rw[A.l]at I z;have:o=0\/o=1\/o=2:=by have:Kx.length=3:=rfl;omega
  rcases this with rfl|rfl|rfl
  .cases z
  .cases z
  .rfl
abbrev fN (l:Y ET) (i:Nat) (t:Int):θ:=fl (l.take i) t
def alg (h:i<l! L) {t:Int} (e:(eN L i).1=t):fN L (i+1) t=fN L i t++[LG (eN L i)]:=by
 unfold fN;rw[nV (T:=gm) h,tO,yf e]
def aa0 (h:i<l! L) {t:Int} (e:¬(eN L i).1=t):fN L (i+1) t=fN L i t:=by
 unfold fN;rw[nV (T:=gm) h,tO,uE e,kQ]
def aul (l:Y ET) (i:Nat) (t:Int):l! (fN l i t)<=l! l:=c7 (Bp _ _) (List.length_take_le' ..)
structure RwB (w:WT) (l:List ET) (i:Nat) (lens:η) (rows:List θ):Prop where
 ll:l! lens=l! w.2.2.2.2.1
 lr:l! rows=l! w.2.2.2.2.1
 r:∀u:Nat,u<l! w.2.2.2.2.1->rows.getD u []=fN l i (u:Int)
 n:∀u:Nat,u<l! w.2.2.2.2.1->lens.getD u 0=aS (l! (fN l i (u:Int)))
def RwB.zero (w:WT) (l:Y ET):RwB w l 0 (aE (l! w.2.2.2.2.1) 0) (aE (l! w.2.2.2.2.1) []):=by
 refine ⟨ey ..,ey ..,λu z=>?_,λu z=>?_⟩
 .rw[aD,sY,aC z];rfl
 .rw[aD,sY,aC z];rfl
def RwB.next {w:WT} (hi:i<l! L) {rows:Y θ} (h:RwB w L i z rows) {t:Int} (I:0<=t) (t1:t<l! w.2.2.2.2.1) (et:(eN L i).1=t) (hb:LG (eN L i)=b):RwB w L (i+1) (zX z (aO t) (aS (aj (BG (T:=.bool) rows t++[b])))) (EX (T:=.bool) (EX (T:=.bool) rows t []) t (BG (T:=.bool) rows t++[b])):=by
 let⟨h1,h2,A,l⟩:=h;have er:BG (T:=.bool) rows t=fN L i t:=by
  have:=A t.toNat (by omega);rw[KH I]at this;exact this
 have own:=alg hi et;refine ⟨by rw[fV,h1],by unfold EX;rw[fV,fV,h2],λu lens=>?_,λu lens=>?_⟩
 .unfold EX;rw[aD,iR];by_cases e:t.toNat=u
  .grind
  .rw[av e,iR,av e,<-aD,A u lens,aa0 hi (by omega)]
 .rw[aD,iR];by_cases e:t.toNat=u
  .grind
  .rw[av e,<-aD,l u lens,aa0 hi (by omega)]
def ax9 {w:WT} (tr:TR (w,L)):ib (w,L)=Z (0,0):=by
 have hl:l! L<=400:=tr.len;have hT:l! w.2.2.2.2.1<=4:=tr.wb.t;refine cz ?_;unfold ib nW be bA bM cE dF gy ck bj bQ wT bV bJ aZ cP aH cL;refine jJ (jS.2 (by grind)) (aX (VW8 tr.wx tr.vl) (dR (aX (avl tr.wx) ?_)));refine cW (cW (dG (by simp) (a? (bP (by grind) (by omega) ?_))));refine kJ (l! L) (by omega) (λi x=>∃lens rows,x=((i:Int),(w,L),ku w (L.take i),lens,rows)/\RwB w L i lens rows) ?_ ?_ ⟨_,_,by simp[aw,cR];rfl,RwB.zero w L⟩
 .rintro i x hi ⟨lens,rows,rfl,z⟩;have sc:=tr.sc hi;have e1:=sc.en.t1;have e0:=sc.en.t0;have st:=au3 tr hi;have hls:=tr.ls _ (Fp hi);have fa:=aul L i (eN L i).1;have l:(eN L i).1=(((eN L i).1.toNat:Nat):Int):=by omega
  have I:BG (T:=.bool) rows (eN L i).1=fN L i (eN L i).1:=by
   have:=z.r (eN L i).1.toNat (by omega);rw[<- l]at this;exact this
  have en:aO (Zz lens (eN L i).1)=l! (BG (T:=.bool) rows (eN L i).1):=by
   have:=z.n (eN L i).1.toNat (by omega);rw[<- l,<-I]at this;unfold Zz;rw[this];rfl
  have rd:eU (((((eN L i).1,aS (l! (BG (T:=.bool) rows (eN L i).1))),eN L i),rows))=Z (J,rows):=by
   refine aog e0 (by rw[z.lr];exact e1) ?_ ?_ hls.1 hls.2
   .rw[I];exact sc.rd1
   .rw[I];exact sc.rd2
  have nx:=λb=>z.next hi e0 e1 rfl (b:=b)
  have l1:=z.ll;have l2:=z.lr;refine c8 (b_ (aT ?_));have hg:aI gm L (i:Int)=eN L i:=rfl;rw[hg];generalize eN L i=e at*
  refine aX st ?_;refine aV (λx=>x=(af,(w,L),ku w (L.take i),lens,e,ku w (L.take (i+1)),rows)) ?_ ?_
  .refine dR (b_ (b_ ?_));rw[en];exact aX rd (ak rfl)
  rintro x rfl;refine dR (aV (λx=>∃lens' rows',x=((w,L),ku w (L.take i),lens',ku w (L.take (i+1)),rows')/\RwB w L (i+1) lens' rows') ?_ ?_)
  .refine b_ (b_ ?_);rw[en];refine aK (λh=>b_ (cW (bl (qI _) (bP (by grind) (by omega) (b_ (b_ (ak ⟨_,_,rfl,nx _ ?_⟩))))))) λh=>b_ (cW (bl (qI _) (bP (by grind) (by omega) (b_ (b_ (ak ⟨_,_,rfl,nx _ ?_⟩))))))
   .unfold LG;rw[aU h];rfl
   .unfold LG;rw[dt h];rfl
  rintro x ⟨lens',rows',rfl,A⟩;refine ak ⟨lens',rows',?_,A⟩;rw[gZ]
 .rintro x ⟨lens,rows,rfl,_⟩;exact c9 (ak rfl)
def KA (w:WT) (s:SY) (L:l! w.2.2.1<=1000) (I:∀c∈w.2.2.1,0<=c.2/\c.2<l! w.2.1) (e1:l! s.1=l! w.2.1) (e2:l! s.2.2.1=l! w.2.2.2.1) (e3:l! s.2.2.2=l! w.2.2.2.2.1):pf (w,s)=Z J:=by
 refine cz ?_;unfold pf be bA bM c_ bj bQ bJ aZ cP aH cL;refine b9 (l! w.2.2.1) (λi x=>x=((i:Int),w,s)) ?_ ?_ rfl
 .rintro i x hi rfl;have hc:=I _ (bC (T:=itK) (xs:=w.2.2.1) (j:=(i:Int)) (by omega) (by omega));with_reducible repeat' first|apply OS.ok;constructor|refine IM.mk λ_=>?_
  all_goals try simp only[aw,s6] at*
  all_goals first|omega|skip
  rw[gZ]
 .rintro x rfl;refine c9 (ay (P:=λb=>b=J) (aV (λx=>x=J) ?_ λx z=>ak z) λb A=>ak A);refine aK (λ_=>aK (λ_=>ak ?_) λg=>(g ?_).elim) λg=>(g ?_).elim
  .grind
  .grind
  .grind
def Zo (w:WT) (k o:Int) (h:NM w k o):qZ (w,k,o)=Z J:=by
 refine cz ?_;let⟨k1,k2,ce,A,cn,th,L,no,z,rw_⟩:=h;unfold qZ be bA bM cE bj bJ aZ aH;cases kdI k
 case no I _=>omega
 all_goals simp only[bO,dD,Pr,Rk]
 all_goals with_reducible repeat' first|apply OS.ok;constructor|refine IM.mk λ_=>?_
 all_goals try simp[aw,s6] at*
 all_goals first|omega|exact rw_ ⟨by decide,by decide⟩|(simp [*,Bool.not_false,eH];done)
set_option maxHeartbeats 4000000 in
def Bc {n:Nat} (w:WT) (s:SY) (hs:SB n s) (hw:l! w.2.2.1<=1000) (t k o:Int) (he:EN w s t k o) (hr:QK w s t k o):ic (w,s,t,k,o)=Z J:=by
 refine cz ?_;obtain⟨nm,t0,t1,cd,e1,e2,e3⟩:=id he;unfold ic be bA bM ct dF c_ bj gO bJ aZ aH;refine aV (λx=>x=(af,w,s)) ?_ ?_
 .refine aX (KA w s hw cd e1 e2 e3) ?_;refine dR ?_;simp only[Rk,UV];refine bU (λg=>(g ⟨t0,t1⟩).elim) λ_=>?_
  refine aX (Zo w k o nm) (ak rfl)
 rintro x rfl;refine dR ?_;obtain⟨_,_,ce,lk,cn,th,fu,_,_,_⟩:=nm;have hm:16<=k/\k<=19->0<=(aI itK w.2.2.1 o).2/\(aI itK w.2.2.1 o).2<l! w.2.1:=λh=>cd _ (bC (cn h).1 (cn h).2)
 have hH:6<=k/\k<=11->oM ((aI dO s.1 o).2,t)=Z ((aI dO s.1 o).2.contains t):=λh=>Fw _ _ (by
  have:=hs.rd _ (bC (T:=dO) (lk h).1 (by have:=(lk h).2;omega));have:=hs.n1;omega)
 cases kdI k
 case no hk _=>omega
 all_goals simp only[bO,dD,Pr]
 all_goals with_reducible repeat' first|apply OS.ok;constructor|refine IM.mk λ_=>?_
 all_goals try simp only[hH (by omega),UV]
 all_goals with_reducible repeat' first|apply OS.ok;constructor|refine IM.mk λ_=>?_
 all_goals try simp only[aw,s6] at*
 all_goals first|omega|exact (hm ⟨by decide,by decide⟩).1|(rw [e1];exact (hm ⟨by decide,by decide⟩).2)|skip
 all_goals first|exact hr.b (by decide)|exact hr.aq (by decide)|exact hr.rl (by decide)|exact hr.rr (by decide)|(rw [hr.ra (by decide)];rfl)|(have:=hr.wr (by decide);omega)|exact hr.xb (by decide)|exact hr.xe (by decide)|(rw [hr.ab (by decide)];rfl)|exact hr.ae (by decide)|exact hr.nt (by decide)|exact (hr.sp (by decide)).2|exact (hr.jo (by decide)).2|(rw [hr.se (by decide)];rfl)|exact hr.ge (by decide)|exact (hr.wk (by decide)).2.2|(exfalso;first|(have:=hr.r (by decide) (by decide);contradiction)|(have:=hr.aq (by decide);contradiction)|(have:=(hr.wk (by decide)).1;contradiction)|(have:=(hr.wk (by decide)).2.1;contradiction)|(have:=(hr.sp (by decide)).1;contradiction)|(have:=(hr.jo (by decide)).1;contradiction))|skip
def YH (w:WT) (s:SN) (A:l! w.2.2.1<=1000) (t k o:Int) (he:EN w s.1 t k o) (hf:F16 w s):vM (w,s)=Z J:=by
 refine cz ?_;refine aV (λx=>x=J) ?_ λx z=>ak z
 refine aX (KA w s.1 A he.cd he.e1 he.e2 he.e3) (vh ?_);have:=hf.c;have:=hf.f;have:=hf.k;refine aK (λ_=>aK (λ_=>ak ?_) λg=>(g ?_).elim) λg=>(g ?_).elim
 .grind
 .grind
 .grind
def amc:∀{l:η},KB l->∀k:Nat,k+1<l! l->l.getD k 0<l.getD (k+1) 0
 |[],_,k,h|[x],_,k,h=>by simp at h
 |x::y::r,h,0,_=>h.1 y (dK ..)
 |x::y::r,h,k+1,z=>by have:=amc h.2 k (by grind);simpa using this
def F8 (l:η) (c:Int) (I:l! l<=1000000000) (h:AN c l):pa (l,c)=Z J:=by
 refine cz ?_;refine b9 (l! l) (λi x=>x=(i:Int)) ?_ ?_ rfl
 .rintro i x hi rfl;have hm:=h.m _ (bC (T:=aN) (xs:=l) (j:=(i:Int)) (by omega) (by omega));have A:0<(i:Int)->a_ .i64 ((i:Int)-1)=((i-1:Nat):Int):=λh=>by rw[gr];omega
  refine c8 (aV (λx=>x=af) ?_ ?_)
  .refine b_ (aT (bD (λg=>bT g (by grind)) λ_=>b_ (aT (fK (λg=>bT g (by grind)) λ_=>bD (λg=>?_) λ_=>ak rfl))));refine b_ (aT ?_);dsimp only;rw[A g];refine b_ (aT (ak ?_));have z:=amc h.a (i-1) (by omega);rw[show i-1+1=i by omega]at z;exact mf.2 z
  rintro x rfl;exact dR (ak gZ)
 .rintro x rfl;exact c9 (ak rfl)
def YT (w:WT) (s:SN) (hs:NB i s) (hf:F16 w s) (e:ET) (he:EN w s.1 e.1 e.2.1 e.2.2.1) (hv:VA w s.1 s.2.1 s.2.2.1 e.1 e.2.1 e.2.2.1 e.2.2.2.1):v_ (s,e)=Z J:=by
 refine cz ?_;let⟨t,k,o,v,si,de,fr⟩:=e;let⟨z,s2,s3,s4⟩:=s;let⟨nm,t0,t1,cd,e1,e2,e3⟩:=he;let⟨_,_,ce,lk,cn,th,fu,_,_,_⟩:=nm;let⟨f1,f2,f3⟩:=hf;let⟨v3,A,v5,vel⟩:=hv;have hth:=hs.sb.th;dsimp only at*
 have hW:=O3 z o hth;have hWl:=vT z.2.2.2 o (l! z.2.2.2);refine aK (λh=>?_) λn3=>?_
 .have h:k=3:=h;let⟨c0,c1⟩:=ce (.inl h);exact aP c0 (by grind) (aT (ak (aU (v3 h))))
 refine aK (λh=>?_) λI=>?_
 .have h:k=23:=h;let⟨c0,c1⟩:=fu (.inr h);exact aP c0 (by grind) (aT (ak (aU (A h))))
 refine aK (λh=>?_) λn5=>?_
 .have h:k=5:=h;exact gP (aK (λh2=>ak (ak rfl)) λh2=>ak (ak (aU ((v5 h).resolve_left h2))))
 refine aV (λx=>x.2=((z,s2,s3,s4),t,k,o,v,si,de,fr)/\(x.1=af->¬k=4/\¬k=22)) (aK (λh=>ak ⟨rfl,λg=>bT g (by grind)⟩) λh=>ak ⟨rfl,λg=>⟨h,qV g⟩⟩) ?_;rintro⟨b,x⟩ ⟨e,hb⟩;dsimp only at e hb;subst e;refine aR (λh=>ak rfl) λh=>?_
 let⟨n4,L⟩:=hb h;have val:=vel n3 I n5 n4 L;refine aK (λh=>?_) λn18=>?_
 .have h:k=18:=h;subst h;rw[CX]at val;have hmem:¬l! (wl z.2.2.2 o (l! z.2.2.2))=0->0<=v/\v<l! z.2.2.2/\(wl z.2.2.2 o (l! z.2.2.2)).contains v=J:=λg=>by
   rw[av g]at val;dsimp only at val;unfold BQ at val;rw[av g]at val;by_cases c:(wl z.2.2.2 o (l! z.2.2.2)).contains v=J
   .have:=(oz (th:=z.2.2.2) (c:=o)).1 (by simpa using c:v∈wl z.2.2.2 o (l! z.2.2.2));exact⟨this.1,this.2.1,c⟩
   .exfalso;rw[av c]at val;refine c ?_;rw[val];have hz:wl z.2.2.2 o (l! z.2.2.2)≠[]:=λq=>g (by grind)
    generalize wl z.2.2.2 o (l! z.2.2.2)=y at hz ⊢;cases y with
    |nil=>exact (hz rfl).elim
    |cons a r=>rw[show aI aN (a::r) 0=a from rfl];simp
  refine aX hW ?_;refine aK (λg=>ak ?_) λg=>?_
  .grind
  .dsimp only[aw]at g;let⟨q0,q1,q2⟩:=hmem (by omega);refine gP (fK (λ_=>bD (λ_=>?_) λq=>bT q (by grind)) λq=>bT q (by grind));exact aX (Fw _ _ (by omega)) (ak (ak q2))
 refine aK (λh=>?_) λn19=>?_
 .have h:k=19:=h;subst h;exact aX hW (ak (aU (by rw[amf]at val;exact val)))
 .rw[ame _ _ _ _ _ _ n18 n19]at val;exact ak (aU val)
def HH {e:ET} {t:Int}:EI (L++[e]) t a->EI L t a\/(e.1=t/\LG e=J/\a=(l! (fl L t):Int)):=by
 rintro⟨h0,h1⟩;rw[tO,aD]at h1;rcases cN a.toNat (l! (fl L t)) with g|g
 .refine .inl ⟨h0,?_⟩
  grind
 .rw[bS g]at h1;by_cases he:e.1=t
  .rw[yf he]at h1
   grind
  .rw[uE he]at h1;simp at h1
def Mh (l:Y ET) (i t:Int) (ns:η) (hl:l! l<=1000000000) (hi:0<=i/\i<=l! l) (hn:l! ns<=1000000000) (h:∀y∈ns,EI (l.take i.toNat) t y):oH (l,i,t,ns)=Z J:=by
 refine cz ?_;unfold oH be ct bj bQ gO bJ aZ cP aH cL;refine b9 (l! ns) (λk x=>x=(k:Int)) ?_ ?_ rfl
 .rintro k x hk rfl;have hy:=h _ (bC (T:=aN) (xs:=ns) (j:=(k:Int)) (by omega) (by omega));refine bD (λg4=>?_) λg4=>(by grind)
  refine qO (λx=>(i-x.2.2).toNat) (λx=>0<=x.2.2/\x.2.2<=i/\x.1=(l! (fl (l.take x.2.2.toNat) t):Int)/\(EI (l.take x.2.2.toNat) t (aI aN ns (k:Int))->x.2.1=J)) ?_ ⟨by simp,hi.1,by simp[fl],λq=>by have:=q.2;simp[fl]at this⟩;rintro⟨a,b,(c:Int)⟩ ⟨I,c1,ha,hb⟩;dsimp only at I c1 ha hb;subst ha;obtain⟨c,rfl⟩:∃n:Nat,c=(n:Int):=⟨c.toNat,by omega⟩
  dsimp only;rw[cR];have hfl:=Bp (l.take c) t;have htl:=fR c l;refine bD (λA=>?_) λA=>?_
  .have A:(c:Int)<i:=A;have htk:l.take (c+1)=l.take c++[aI gm l (c:Int)]:=nV (T:=gm) (by omega);refine aV (λy=>y.1=(l! (fl (l.take (c+1)) t):Int)/\(EI (l.take (c+1)) t (aI aN ns (k:Int))->y.2=J)) ?_ ?_
   .rw[htk,tO];refine aP I (by omega) (aT ?_);refine bU (λhne=>ak ⟨by rw[uE hne];simp,λq=>(HH q).elim hb λz=>(hne z.1).elim⟩) λhe=>?_
    refine aV (λy=>EI (l.take c++[aI gm l (c:Int)]) t (aI aN ns (k:Int))->y=J) ?_ λy hy=>ak ⟨?_,hy⟩
    .refine aR (λq=>ak λ_=>rfl) λhbf=>?_
     have L:¬EI (l.take c) t (aI aN ns (k:Int)):=λq=>by grind
     refine b_ (aT ?_);refine aK (λ_=>?_) λhnn=>ak λq=>((HH q).elim (λz=>(L z).elim) λz=>(hnn z.2.2.symm).elim)
     refine aP I (by omega) (aT ?_);refine aK (λ_=>ak λ_=>rfl) λn3=>?_
     refine aP I (by omega) (aT (ak λq=>?_));rcases HH q with z|⟨_,z,_⟩
     .exact (L z).elim
     .unfold LG at z;rw[dt n3,Bool.false_or]at z;exact z
    .rw[yf he,gZ];simp
   .rintro⟨p,q⟩ ⟨hp,hq⟩;refine ak ?_;dsimp only at hp hq ⊢;rw[gZ,cR]
    grind
  .have A:i<=(c:Int):=A;have hci:c=i.toNat:=by omega
   refine ay (P:=λr=>r=lP (((k+1:Nat):Int))) ?_ λr hr=>by subst hr;exact ak rfl
   refine eC (λq=>?_) λ_=>ak (by rw[gZ])
   grind
 .rintro x rfl;refine bD (λg4=>(by grind)) λ_=>ak rfl
def Yt (w:WT) (s:SN) (hs:NB i s) (hw:l! w.2.2.1<=1000) (e:ET) (hcb:(aI aN s.2.2.2 e.1:Int)<=1000000) (hF:F16 w s) (hE:EN w s.1 e.1 e.2.1 e.2.2.1) (I:S16 w s e):Ok (kU (w,s,e)) λy=>y.2=J:=by
 have hd:l! e.2.2.2.2.2.1<=1000000000:=by
  have h3:(l! e.2.2.2.2.2.1:Int)<=max (0:Int) (aI aN s.2.2.2 e.1):=I.nd.len
  grind
 have hf:l! e.2.2.2.2.2.2<=1000000000:=by
  have h3:(l! e.2.2.2.2.2.2:Int)<=max (0:Int) (aI aN s.2.2.2 e.1):=I.nf.len
  grind
 have hEn:=Bc w s.1 hs.sb hw e.1 e.2.1 e.2.2.1 hE I.rd;let⟨nm,t0,t1,cd,e1,e2,e3⟩:=id hE;let⟨k1,k2,ce,lk,cn,th,fu,_,_,_⟩:=nm;let⟨f1,f2,f3⟩:=id hF;unfold kU be bA bM cE fe ct dF c_ gy vq ck bj bQ gO bV bJ lx aZ cP aH cL;refine aV (λx=>x=(af,w,s,e,0)) ?_ ?_
 .refine aX (YH w s hw _ _ _ hE hF) (dR ?_);simp only[apd,UV];refine bU (λg=>(g ⟨t0,t1⟩).elim) λ_=>bD (λg=>bT g (tW.2 k1)) λ_=>bD (λg=>bT g (tW.2 k2)) λ_=>aX hEn (ak rfl)
 rintro x rfl;refine dR (aV (λx=>x=(w,s,e,0)) ?_ ?_)
 .refine aV (λx=>x.2=(w,s,e,0)/\(x.1=J->e.2.1=1\/e.2.1=2)/\(x.1=af->¬(e.2.1=1\/e.2.1=2))) ?_ ?_
  .refine aK (λh=>ak ⟨rfl,λ_=>.inl h,nofun⟩) λh=>ak ⟨rfl,λh2=>.inr (bi h2),λh2=>?_⟩
   grind
  rintro⟨x1,x2⟩ ⟨z,hy1,hy2⟩;dsimp only at z hy1 hy2;subst z;refine aR (λhk=>?_) λhk=>?_
  .exact bU (λg=>(g (I.s1 (hy1 hk))).elim) λ_=>ak rfl
  .obtain⟨q1,q2,q3⟩:=I.s2 (hy2 hk);refine aV (λx=>x=(af,w,s,e,0)) ?_ ?_
   .simp only[apd,UV];refine bU (λg=>(g ⟨q1,q2⟩).elim) λ_=>aP q1 q2 (aT (ak ?_))
    dsimp only;rw[q3];simp
   rintro x rfl;exact dR (ak rfl)
 rintro x rfl;refine aV (λx=>x.2=(w,s,e,0)/\(x.1=J->e.2.1=3\/e.2.1=4)/\(x.1=af->¬(e.2.1=3\/e.2.1=4))) ?_ ?_
 .refine aK (λh=>ak ⟨rfl,λ_=>.inl h,nofun⟩) λh=>ak ⟨rfl,λh2=>.inr (bi h2),λh2=>?_⟩
  grind
 rintro⟨x1,x2⟩ ⟨z,L,hx0⟩;dsimp only at z L hx0;subst z;refine aV (λx=>x=(af,w,s,e,0)) ?_ ?_
 .refine bD (λg=>bU (λn5=>?_) λ_=>ak rfl) λ_=>ak rfl
  have de:=(I.de (by grind)).resolve_left n5;refine aR (λh=>?_) λh=>(hx0 h de.1).elim
  refine aP (ce (L h)).1 (ce (L h)).2 (aT (ak ?_))
  grind
 rintro x rfl;refine dR (aV (λx=>x=(af,w,s,e,0)) ?_ ?_)
 .refine bD (λg=>bU (λn4=>ak ?_) λ_=>ak rfl) λ_=>ak rfl
  have fr:=(I.fr (by grind)).resolve_left n4;dsimp only;simp[fr]
 rintro x rfl;have hk:=hs.k;have hc:=hs.c;have hfu:=hs.f;refine dR (aV (λx=>x=(af,w,s,e,0)) ?_ ?_)
 .refine aP t0 (by rw[f3];exact t1) (aT (aX (F8 _ _ hd I.nd) (dR ?_)));refine aP t0 (by rw[f3];exact t1) (aT (aX (F8 _ _ hf I.nf) (dR ?_)));exact aX (YT w s hs hF e hE I.va) (ak rfl)
 rintro x rfl;refine dR (a! (a! (a! ?_)));refine aV (λx=>x.2=(w,s,e,0,0,s.2.1,s.2.2.1,s.2.2.2)) ?_ ?_
 .exact aK (λ_=>ak rfl) λh=>ak rfl
 rintro⟨x1,x2⟩ z;dsimp only at z;subst z;refine ay (HM w s.1 hs.sb hw e.1 e.2.1 e.2.2.1 x1) λy hy=>?_
 refine aV (λx=>x.1=e/\l! x.2.2.2.1=l! s.2.1/\x.2.2.2.2=(s.2.2.1,s.2.2.2)) ?_ ?_
 .refine aK (λh=>?_) λh=>ak ⟨rfl,rfl,rfl⟩
  have A:=ce (.inr h);refine aP A.1 (by dsimp only;omega) (aP A.1 (by dsimp only;omega) (ak ⟨rfl,?_,rfl⟩));dsimp only;rw[bN]
 rintro⟨x1,x2,x3,x4,x5,x6⟩ ⟨h1,h2,h4⟩;simp only[aQ]at h1 h4;obtain⟨rfl,rfl⟩:=h4;subst h1;refine aV (λx=>x.1=x1/\x.2.2.2.2.2=s.2.2.2) ?_ ?_
 .refine aK (λh=>?_) λh=>ak ⟨rfl,rfl⟩
  have A:=fu (.inl h);exact aP A.1 (by dsimp only;omega) (aP A.1 (by dsimp only;omega) (ak ⟨rfl,rfl⟩))
 rintro⟨x1,x2,x3,x4,x5,x6⟩ ⟨h1,h6⟩;simp only at h1 h6;subst h1 h6;with_reducible repeat' first|apply OS.ok;constructor|refine IM.mk λ_=>?_
 all_goals try simp only[aw,s6] at*
 all_goals first|omega|skip
def s16N {w:WT} (tr:TR (w,L)) (hi:i<l! L):NB 4 (ku w (L.take i))/\F16 w (ku w (L.take i))/\EN w (ku w (L.take i)).1 (eN L i).1 (eN L i).2.1 (eN L i).2.2.1/\S16 w (ku w (L.take i)) (eN L i)/\(aI aN (ku w (L.take i)).2.2.2 (eN L i).1:Int)=l! (fl (L.take i) (eN L i).1):=by
 let⟨a,r,c,f,k,n⟩:=C9 tr i (by omega);have sc:=tr.sc hi;have ht:=tr.wb.t;have l:=tr.wb.l;have b1:=tr.wb.c;have b4:=tr.wb.f;dsimp only at ht l b1 b4;rw[<- a]at sc;have en:=sc.en;have z:=n (eN L i).1 en.t0 (by rw[k];exact en.t1);have q1:=en.e1;have I:=en.e2;have q3:=en.e3;dsimp only at q1 I q3;refine ⟨⟨⟨by omega,by omega,λx A=>?_,by omega,by omega⟩,by omega,by omega,by omega⟩,⟨c,f,k⟩,en,⟨sc.rd,sc.s1,sc.s2,sc.de,sc.fr,by rw[z];exact sc.nd,by rw[z];exact sc.nf,sc.va⟩,z⟩;have:=AW x.2 0 4 (r x A).1 (r x A).2;omega
def aci {w:WT} (tr:TR (w,L)) (hi:i<l! L):kU (w,ku w (L.take i),eN L i)=Z (ku w (L.take (i+1)),J):=by
 let⟨nb,f,en,I,nc⟩:=s16N tr hi;have hd:=tr.wb.d;have hl:l! L<=400:=tr.len;have hfl:=Bp (L.take i) (eN L i).1;dsimp only at hd;have l:(aI aN (ku w (L.take i)).2.2.2 (eN L i).1:Int)<=1000:=by grind
 have h1:=Dz w (ku w (L.take i)) nb (by omega) (eN L i) (.inr (qM l (by decide))) (.inr (qM l (by decide)));have h2:=Yt w (ku w (L.take i)) nb (by omega) (eN L i) (qM l (by decide)) f en I;let⟨y,e,A,z⟩:=h1.and h2;let⟨y1,y2⟩:=y;dsimp only at A z;rw[e,z,HZ w hi];rw[(A.1 z).2.2.2]
def ane {w:WT} (tr:TR (w,L)):Ok (oI (w,L)) λy=>y.2=0:=by
 have l:l! L<=400:=tr.len;have vl:VL w:=tr.vl;unfold oI cE ct gy bQ bJ aZ cP aH cL;refine bD (λg=>(by grind)) λ_=>?_
 refine aX (BB tr.wx) (dR (aX (A_ w vl) ?_));refine b9 (l! L) (λi x=>x=((i:Int),(w,L),ku w (L.take i))) ?_ ?_ rfl
 .rintro i x hi rfl;have sc:=tr.sc hi;have h5:=sc.nd.len;have h6:=sc.nf.len;have h7:=Bp (L.take i) (eN L i).1;have htk:=fR i L;have r1:=Mh L (i:Int) (eN L i).1 (eN L i).2.2.2.2.2.1 (by omega) ⟨by omega,by omega⟩ (by omega) sc.rd1;have z:=Mh L (i:Int) (eN L i).1 (eN L i).2.2.2.2.2.2 (by omega) ⟨by omega,by omega⟩ (by omega) sc.rd2;have hg:aI gm L (i:Int)=eN L i:=rfl;refine c8 (b_ (aT ?_));refine aX (aci tr hi) ?_;refine aV (λx=>x.1=af/\x.2.1=(w,L)/\x.2.2.2=ku w (L.take (i+1))) ?_ ?_
  .exact dR (aX r1 (dR (aX z (ak ⟨rfl,rfl,rfl⟩))))
  .rintro⟨c,p,q,r⟩ ⟨I,A,f3⟩;subst I A f3;exact dR (ak (by dsimp only;rw[gZ]))
 .rintro x rfl;exact c9 (ak rfl)
abbrev Pw:Ty:=(.st (.pr aN .bool))
abbrev Ke0:Ty:=(.st (.pr Jc (.pr (.sl Pw) (.pr (.sl Pw) (.pr (.sl aN) (.pr rV (.sl aN)))))))
abbrev D5:Ty:=(.st (.pr oy (.pr aN (.pr lH (.sl gm)))))
abbrev Ke2:Ty:=(.st (.pr aN (.pr aN (.pr aN (.pr aN (.pr aN (.sl aN)))))))
abbrev Ke4:Ty:=(.st (.pr aN (.pr aN (.pr aN aN))))
abbrev O!:=gk×Int×iV×Y lZ
abbrev D3:=O!
abbrev QH:=(Y j!)
abbrev l?:=rq×QH×QH×(η)×(θ)×η
abbrev Ye1:=l?
abbrev Ye3:=t?
abbrev Ye4:=(Y ν)
abbrev Ye5:=h?
abbrev Ye6:=q!
abbrev Ye7:=((Y η)×P?)
def Dm (it:D6) (x:F?):M (Ye3×o!):=
 (ax (tH (x.2.1.1,x.2.1.2.1,x.2.1.a,x.2.1.b,x.2.1.c,x.2.1.e,x.2.1.f,x.2.1.i,x.2.1.o)) λL=>(ck (ef x.a (aj L.2.1)) (ax (tI ((x.a,x.b,x.c,x.e,x.f,x.i,x.o),L.1,(x.1.1,x.1.2.1,x.1.a,x.1.b,x.1.c,x.1.h),L.2.1,L.a,L.b,L.c,L.e,L.f,L.i,L.o)) λA=>(bV (aA (aj L.o) (aj A.q)&&(aA (aj L.i) (aj A.m)&&(aA (aj L.f) (aj A.l)&&(aA (aj L.e) (aj A.k)&&(aA (aj L.c) (aj A.i)&&(aA (aj L.b) (aj A.f)&&(aA (aj L.a) (aj A.e)&&(aA (aj L.2.1) (aj A.c)&&J)))))))) (it R? _ (λz=>(bQ z.1 (aZ A.1) (wT z.1 A.1 (ax (j_ (z.c,(aI ((.sl aN)) A.1 z.1))) λy4=>(cP ((cL z.1),(z.2.1.1,z.2.1.2.1,z.2.1.a,z.2.1.b,z.2.1.c,z.2.1.h),(z.a.1,z.a.2.1,z.a.a,z.a.b,z.a.c,z.a.e,z.a.j),z.b,y4,z.e,z.f,z.i,z.k,z.l,z.m,z.s,z.t)))) (ax (ax (rJ (z.c,z.a.1)) λy5=>(ax (rG (((z.2.1.1,z.2.1.2.1,z.2.1.a,z.2.1.b,z.2.1.c,z.2.1.h),z.a.1,z.a.2.1,z.a.a,z.a.b,z.a.c,z.a.e,z.a.j),z.b,z.e,z.f,z.i,z.k,z.l,z.m,z.s,z.t,y5)) λI=>(bV (aA (aj y5) (aj I.v)&&(aA (aj z.t) (aj I.k)&&(aA (aj z.s) (aj I.i)&&(aA (aj z.m) (aj I.f)&&(aA (aj z.l) (aj I.e)&&(aA (aj z.k) (aj I.c)&&(aA (aj z.i) (aj I.b)&&(aA (aj z.f) (aj I.a)&&(aA (aj z.e) (aj I.2.1)&&J))))))))) (Z ((I.a,I.b,I.c,I.e,I.f,I.1,I.i,I.k),I.v,I.2.1))))) λr=>Z (bL r)))) (0,(A.b.1,A.b.2.1,A.b.a,A.b.b,A.b.c,A.b.h),(A.2.1.1,A.2.1.2.1,A.2.1.a,A.2.1.b,A.2.1.c,A.2.1.e,A.2.1.j),A.a,(aI ((.sl aN)) L.2.1 x.a),A.c,A.e,A.f,A.i,A.k,A.l,A.m,A.q))))))
def If (x:F?):M (Ye3×o!):=Dm @iter x
def rH (x:F?):M (Ye3×o!):=Dm @hZ x
def ma (x:gk×b!):M (Bool):=
 (jn (bj x.a 3 (bJ kF x.1.1 x.b λA=>(aH (!A.2.2.2.1))) (bj x.a 4 (bJ kF x.1.1 x.b λz=>(aH (!z.2.2.2.1))) (aH af))) λx1=>(Z x1))
def xC (it:D6) (x:u!):M Ye7:=
 (ax (rm x) λy1=>(gO y1.2 0 (Z (([]:Y η),([]:Y η),y1.2)) (ax (pq x.1) λy2=>(ck (cX 0 (aZ x.2)&&cX (aZ x.2) (aZ x.2)&&bg (aO (aZ x.2)) 24) (it (Int×(gk×Y lZ)×(Y η)×(Y η)×Yd0×Y ν) _ (λz=>(bQ z.1 (aZ x.2) (bJ gm x.2 z.1 λI=>(ax (rH (z.2.1.1,z.c,I)) λA=>(ck (ef z.1 (aj z.a)) (lx (.sl aN) (ca z.a z.1 A.2.1) z.1 λz6=>(ax (At z6) λL=>(ck (ef z.1 (aj z.b)) (jn (bj I.2.1 3 (aJ (KU (K:=aN) (V:=aN) I.a z.h) (lx (.sl aN) (ca z.a z.1 A.2.1) z.1 λz9=>(lx (.sl aN) (ca z.b z.1 L) (Bh (K:=aN) (V:=aN) I.a z.h 0) λz10=>(ax (j_ (z9,z10)) λy11=>(ck (ef z.1 (aj (ca z.b z.1 L))) (lx (.sl aN) (ca (ca z.b z.1 L) z.1 y11) z.1 λz12=>(ax (At z12) λy13=>(ck (ef I.1 (aj A.2.2)) (aH (z.2.1,(ca z.a z.1 A.2.1),(ca (ca z.b z.1 L) z.1 y11),A.1,z.h,(ca A.2.2 I.1 y13)))))))))) (aH (z.2.1,(ca z.a z.1 A.2.1),(ca z.b z.1 L),A.1,z.h,A.2.2))) (bj I.2.1 4 (aH (z.2.1,(ca z.a z.1 A.2.1),(ca z.b z.1 L),A.1,(Cc (K:=aN) (V:=aN) I.a z.1 z.h),A.2.2)) (aH (z.2.1,(ca z.a z.1 A.2.1),(ca z.b z.1 L),A.1,z.h,A.2.2)))) λx8=>(cP ((cL z.1),x8.1,x8.2.1,x8.a,(x8.h,x8.b),x8.c))))))))) (aH (z.a,z.b,0)))) (0,x,(aE (aO (aZ x.2)) ([]:η)),(aE (aO (aZ x.2)) ([]:η)),y2,([]:Y ν)))))))
def B8 (x:u!):M Ye7:=xC @iter x
def my (x:u!):M Ye7:=xC @hZ x
abbrev x?:=(gk×Y lZ)×Ye6×Ye4×Ye4×b!
abbrev V!:=(gk×Y lZ)×Ye6×Ye4×Y ν
def Az (it:D6) (x:u!):M (Ye4×Int):=
 (ax (my x) λy1=>(gO y1.2.2 0 (Z (([]:Y ν),y1.2.2)) (bV (cX 0 (aZ x.2)&&cX (aZ x.2) (aZ x.2)&&bg (aO (aZ x.2)) 16) (it (Int×V!) _ (λz=>(bQ z.1 (aZ x.2) (jn (α:=V!) (bJ gm x.2 z.1 λz4=>(jn (α:=x?) (bj z4.1 0 (aH (z.2.1,((cL z.a.1),z.a.2),z.b,z.g,0,z4.2)) (bj z4.1 1 (aH (z.2.1,(z.a.1,(cL z.a.2.1),z.a.2.2),z.b,z.g,1,z4.2)) (bj z4.1 2 (aH (z.2.1,(z.a.1,z.a.2.1,(cL z.a.a),z.a.d),z.b,z.g,2,z4.2)) (bj z4.1 3 (aH (z.2.1,(z.a.1,z.a.2.1,z.a.a,(cL z.a.d)),z.b,z.g,3,z4.2)) U)))) λA=>(jn (α:=x?) (bj A.c 0 (ck (ef z.1 (aj A.a)) (aH (A.1,A.2.1,(ca A.a z.1 (A.2.1.1,0)),A.b,0,A.h))) (bj A.c 1 (ck (ef z.1 (aj A.a)) (aH (A.1,A.2.1,(ca A.a z.1 (A.2.1.2.1,1)),A.b,1,A.h))) (bj A.c 2 (ck (ef z.1 (aj A.a)) (aH (A.1,A.2.1,(ca A.a z.1 (A.2.1.a,2)),A.b,2,A.h))) (bj A.c 3 (ck (ef z.1 (aj A.a)) (aH (A.1,A.2.1,(ca A.a z.1 (A.2.1.d,3)),A.b,3,A.h))) U)))) λx6=>(ax (ma (x6.1.1,x6.g)) λy7=>(aJ (!y7) (aH (x6.1,x6.2.1,x6.a,x6.b)) (bV (cX 0 z.1&&cX z.1 (aj x6.1.2)) (it (Int×x?) _ (λI=>(bQ I.1 (aS (aj (dy (aO z.1) x6.1.2))) (jn (α:=x?) (bJ gm (dy (aO z.1) x6.1.2) I.1 λz10=>(jn (ax (ma (I.2.1.1,z10)) λy12=>(aJ y12 (bj z10.a I.i (gO z10.1 I.e (bj z10.2.1 4 (aH (J,I.2)) (aH ((decide ((I.f:Int)=4)),I.2))) (aH (af,I.2))) (aH (af,I.2))) (aH (af,I.2)))) λx11=>(jn (aJ x11.1 (bJ (.sl aN) y1.1 z.1 λz14=>(lx hY x11.b I.1 λz15=>(ax (nL (z14,z15)) λy16=>(aH ((!y16),x11.2))))) (aH (af,x11.2))) λL=>(aJ L.1 (bV (bg (aj L.c+aj ([(I.1,z.1)])) 16) (aH (L.2.1,L.a,L.b,(L.c++([(I.1,z.1)])),L.h))) (aH L.2))))) λx9=>(cP ((cL I.1),x9))) (aH (bL (I.2.1,I.a,I.b,I.c))))) (0,x6)))))))) λx3=>(cP ((cL z.1),x3))) (aH (z.g,0)))) (0,x,(0,0,0,0),(aE (aO (aZ x.2)) ((0,0):ν)),([]:Y ν))))))
def E5 (x:u!):M (Ye4×Int):=Az @iter x
def oF (x:u!):M (Ye4×Int):=Az @hZ x
def TW (it:D6) (x:Unit):M gk:=
 (it E? _ (λx1=>(bQ x1.1 (aS (aj ([[109,97,105,110],[116,49],[116,50],[116,51]]))) (it E? _ (λz=>(bQ z.1 6 (bV (bg (aj z.j+aj ([(x1.1,z.1,(a_ .i64 ((a_ .i64 ((a_ .i64 (10*x1.1))+z.1))+1)))])) 24) (cP ((cL z.1),z.2.1,z.a,z.b,z.c,z.e,(z.j++([(x1.1,z.1,(a_ .i64 ((a_ .i64 ((a_ .i64 (10*x1.1))+z.1))+1)))]))))) (aH (lP ((cL x1.1),z.2))))) (0,x1.2)) (aH x1.2))) (0,[([120],0,0,af,0),([121],0,0,af,1),([118],0,0,J,0),([113],0,2,af,0),([113],1,2,af,0)],[([109],af),([110],af),([114],J)],[([99],0)],[[102]],[[109,97,105,110],[116,49],[116,50],[116,51]],([]:Y π)))
def S9 (x:Unit):M gk:=TW @iter x
def Ge (x:Unit):M gk:=TW @hZ x
def vA (x:Unit):M (Bool):=
 (ax (Ge ()) λI=>(ax (oF (I,[(0,1,(-1),0,(-1),([]:η),([]:η)),(0,20,1,0,0,([]:η),([]:η)),(1,1,(-1),0,(-1),([]:η),([]:η)),(0,4,0,5,0,([]:η),([]:η)),(0,4,1,6,0,([]:η),([]:η)),(1,3,1,6,6,([]:η),([]:η)),(1,3,0,5,6,([]:η),([]:η))])) λz=>(jn (α:=Bool) (bj z.2 0 (bj (aZ z.1) 1 (bJ hY z.1 0 λA=>(aH (UX (.pr aN (.pr aN .un)) (A.1,A.2,()) (4,5,()) !=af))) (aH af)) (aH af)) λL=>(Z L))))
def rA (x:η×g?):M (Bool):=
 (ax (Tb (x.1,x.2.2)) λz=>(Z (cX x.2.1 z)))
def uj (x:(Y lZ)×Int):M (Int):=
 (iter (σ:=ν) (λx1=>(bQ x1.2 x.2 (jn (bJ gm x.1 x1.2 λA=>(bJ gm x.1 x.2 λz=>(bj A.1 z.1 (aH (cL x1.1)) (aH x1.1)))) λI=>(cP (I,(cL x1.2)))) (aH x1.1))) (0,0))
def vy (x:(Y lZ)×Int):M ν:=
 (ax (uj x) λA=>(bJ gm x.1 x.2 λz=>(Z ((a_ .i64 (1+A)),z.1))))
def v8 (x:(gk×Y lZ)×Int):M iV:=
 (ax (mI x.1.1) λL=>(iter (σ:=Int×(gk×Y lZ)×Int×L?) (λz=>(bQ z.1 x.2 (bJ gm z.2.1.2 z.1 λA=>(ax (kU (z.2.1.1,z.d,A)) λI=>(cP ((cL z.1),z.2.1,z.a,I.1)))) (aH z.d))) (0,x.1,0,L)))
def v9 (x:(gk×Y lZ)×Int):M ((Y D3)×Int):=
 (ax (oI x.1) λL=>(gO L.2 0 (Z (([]:Y D3),12)) (jn (bQ x.2 1 (aH (J,x.1)) (aH ((gI 16 x.2),x.1))) λI=>(aJ I.1 (Z (([]:Y D3),1)) (iter (σ:=Int×(gk×Y lZ)×Y D3) (λz=>(bQ z.1 (aZ z.2.1.2) (ax (v8 (z.2.1,z.1)) λA=>(bV (cX 0 z.1&&(cX z.1 (BI (a_ .i64 (z.1+x.2)) (aZ z.2.1.2))&&cX (BI (a_ .i64 (z.1+x.2)) (aZ z.2.1.2)) (aj z.2.1.2))) (bV (bg (aj z.2.2+aj ([(z.2.1.1,z.1,A,(dy (aO (BI (a_ .i64 (z.1+x.2)) (aZ z.2.1.2))-aO z.1) (List.drop (aO z.1) z.2.1.2)))])) 328) (cP ((a_ .i64 (z.1+x.2)),z.2.1,(z.2.2++([(z.2.1.1,z.1,A,(dy (aO (BI (a_ .i64 (z.1+x.2)) (aZ z.2.1.2))-aO z.1) (List.drop (aO z.1) z.2.1.2)))]))))))) (aH (z.2.2,0)))) (0,I.2,([]:Y D3)))))))
def Cb (x:D3×g?):M (Int):=
 (iter (σ:=(ν)×O!) (λx1=>(bQ x1.1.2 (aZ x1.g) (jn (bJ gm x1.g x1.1.2 λA=>(bj A.1 x.2.1 (bj x1.1.1 0 (cP (bL x1.1.2)) (aH ((a_ .i64 (x1.1.1-1)),x1.2))) (aH (x1.1.1,x1.2)))) λz=>(cP ((z.1,(cL x1.1.2)),z.2))) (aH (-1)))) ((x.2.2,0),x.1))
def uk (x:D3×Int):M iV:=
 (iter (σ:=Int×D3×Int×L?) (λx1=>(jn (bQ x1.1 x.2 (aH ((gI x1.1 (aZ x1.2.1.d)),x1.2)) (aH (af,x1.2))) λz=>(aJ z.1 (bJ gm z.2.1.d x1.1 λA=>(ax (kU (z.2.1.1,z.d,A)) λI=>(cP ((cL x1.1),z.2.1,z.a,I.1)))) (aH z.d)))) (0,x.1,0,x.1.a))
def v7 (x:O!):M Ye1:=
 (ax (gU x.a.1) λI=>(bV (cX 0 (aZ x.d)&&cX (aZ x.d) (aZ x.d)&&bg (aO (aZ x.d)) 1) (bV (cX 0 (aZ x.d)&&cX (aZ x.d) (aZ x.d)&&bg (aO (aZ x.d)) 8) (iter (σ:=Int×D3×Int×Int×jE×(θ)×(Y eh)×QH×(θ)×η) (λA=>(bQ A.1 (aZ A.2.1.a.2.1) (bJ aN A.2.1.a.2.1 A.1 λz3=>(bV (bg (aj A.i+aj ([(z3,J)])) 16) (cP ((cL A.1),A.2.1,A.a,A.b,A.c,A.e,A.f,(A.i++([(z3,J)])),A.o)))) (ax (iter (σ:=Int×D3×Int×Int×jE×(θ)×(Y eh)×QH×QH×(θ)×η) (λz=>(bQ z.1 (aZ z.2.1.a.a) (bJ aN z.2.1.a.a z.1 λL=>(bV (bg (aj z.k+aj ([(L,J)])) 16) (cP ((cL z.1),z.2.1,z.a,z.b,z.c,z.e,z.f,z.i,(z.k++([(L,J)])),z.v)))) (aH ((z.c,z.b,z.e,z.f),z.i,z.k,([]:η),z.v)))) (0,A.2.1,A.a,A.b,A.c,A.e,A.f,A.i,([]:Y j!),A.o)) λr=>Z (bL r)))) (0,x,0,I.1,I.2.1,I.a,I.d,([]:Y j!),(aE (aO (aZ x.d)) (af:Bool)),(aE (aO (aZ x.d)) (0:Int)))))))
abbrev Z!:=D3×Ye1×Int
def ki (x:Z!):M (Int):=
 (iter (σ:=Int×D3×l?) (λx1=>(bQ x1.1 (aZ x1.2.1.d) (jn (bJ gm x1.2.1.d x1.1 λA=>(bj A.1 x.2.2 (ax (oM (x1.e,x1.1)) λI=>(aH ((!I),x1.2))) (aH (af,x1.2)))) λz=>(aJ z.1 (aH x1.1) (cP ((cL x1.1),z.2)))) (aH (-1)))) (0,x.1,x.2.1))
def lz (x:D3×Ye1×f?):M (Bool):=
 (jn (bQ x.a 0 (aH (J,x.1,x.2.1)) (aH ((cX (aZ x.1.a.d) x.a),x.1,x.2.1))) λx1=>(aJ x1.1 (Z (decide (((aZ x.d):Int)=0))) (iter (σ:=Int×D3×l?) (λz=>(bQ z.1 (aZ x.d) (jn (bJ aN x.d z.1 λz4=>(bJ aN z.2.1.a.d x.a λz5=>(bQ z4 z5 (aH z.2) (bJ aN x.d z.1 λz6=>(bJ aN z.2.1.a.d x.a λz7=>(ax (Cb (z.2.1,x.a,(a_ .i64 (z6-z7)))) λI=>(jn (bQ I 0 (aH (J,z.2)) (kw (aZ z.f) I (aH (J,z.2)) (bJ (.bool) z.f I λA=>(aH ((!A),z.2))))) λL=>(aJ L.1 (cP (bL af)) (aH L.2))))))))) λx3=>(cP ((cL z.1),x3))) (aH J))) (0,x1.2))))
def lj (x:Z!):M (Bool):=
 (ax (ki x) λA=>(bQ A 0 (Z af) (bJ gm x.1.d A λz=>(jn (ax (ic (x.1.1,x.2.1.1,x.2.2,z.2.1,z.a)) λL=>(aJ L (ax (lz (x.1,x.2.1,x.2.2,z.e)) λI=>(aH I)) (aH af))) λx3=>(Z x3)))))
def Dg (x:l?):M Ye1:=
 (ax (gU x.1) λz=>(bV (bg (aj ([]:Y j!)+aj x.2.1) 16) (bV (bg (aj ([]:Y j!)+aj x.a) 16) (bV (bg (aj ([]:η)+aj x.b) 8) (bV (bg (aj ([]:θ)+aj x.c) 1) (bV (bg (aj ([]:η)+aj x.h) 8) (Z ((z.2.1,z.1,z.2.2),(([]:Y j!)++x.2.1),(([]:Y j!)++x.a),(([]:η)++x.b),(([]:θ)++x.c),(([]:η)++x.h)))))))))
def yF (x:D3×Ye1×g?):M (Ye1×Bool):=
 (ax (lj (x.1,x.2.1,x.a)) λy1=>(aJ (!y1) (Z (((([]:Y f?),0,([]:θ),([]:Y eh)),([]:Y j!),([]:Y j!),([]:η),([]:θ),([]:η)),af)) (ax (ki (x.1,x.2.1,x.a)) λA=>(bJ gm x.1.d A λL=>(ax (lz (x.1,x.2.1,x.a,L.j)) λy4=>(ax (Dg x.2.1) λI=>(ax (oK (x.1.1,I.1,x.a,L.2.1,L.a,x.d)) λy6=>(bV (bg (aj I.b+aj ([A])) 8) (jn (α:=rq×Int×lZ×(Int×Bool)×QH×QH×(η)×(θ)×η) (aJ y4 (aH (y6.1,0,L,(L.b,J),I.2.1,I.a,(I.b++([A])),I.g)) (aH (y6.1,0,L,(0,af),I.2.1,I.a,(I.b++([A])),I.g))) λz=>(jn (bj z.a.2.1 3 (lx Pw z.c z.a.a λz9=>(aJ z9.2 (lx Pw z.c z.a.a λz10=>(ck (ef A (aj z.i)) (aH (z.1,z.2.1,z.c,z.e,z.f,(ca z.i A (decide ((z10.1:Int)=z.a.b))),z.o)))) (ck (ef A (aj z.i)) (aH (z.1,z.2.1,z.c,z.e,z.f,(ca z.i A af),z.o))))) (bj z.a.2.1 23 (lx Pw z.e z.a.a λz11=>(aJ z11.2 (lx Pw z.e z.a.a λz12=>(ck (ef A (aj z.i)) (aH (z.1,z.2.1,z.c,z.e,z.f,(ca z.i A (decide ((z12.1:Int)=z.a.b))),z.o)))) (ck (ef A (aj z.i)) (aH (z.1,z.2.1,z.c,z.e,z.f,(ca z.i A af),z.o))))) (bj z.a.2.1 4 (ck (ef z.a.a (aj z.c)) (aH (z.1,z.2.1,(ca z.c z.a.a z.b),z.h))) (bj z.a.2.1 22 (ck (ef z.a.a (aj z.e)) (aH (z.1,z.2.1,z.c,(ca z.e z.a.a z.b),z.j))) (bj z.a.2.1 18 (kw 0 y6.2.1 (ck (ef A (aj z.o)) (aH (z.1,z.2.1,z.c,z.e,z.f,z.i,(ca z.o A 1)))) (aH (z.1,z.2.1,z.g))) (bj z.a.2.1 19 (ck (ef A (aj z.o)) (aH (z.1,z.2.1,z.c,z.e,z.f,z.i,(ca z.o A y6.2.1)))) (aH (z.1,z.2.1,z.g)))))))) λx8=>(Z ((x8.1,x8.2.2),J))))))))))))
def rB (x:b!):M (Bool):=
 (jn (bj x.2.1 3 (aH J) (aH (decide ((x.2.1:Int)=4)))) λx1=>(Z x1))
def ly (x:lZ×b!):M (Bool):=
 (jn (ax (rB x.1) λA=>(aJ A (ax (rB x.2) λz=>(aJ z (bj x.1.a x.b (bj x.1.2.1 4 (aH J) (aH (decide ((x.a:Int)=4)))) (aH af)) (aH af))) (aH af))) λx1=>(Z x1))
def Ca (x:D3×g?):M (Bool):=
 (bJ gm x.1.d x.2.2 λA=>(bJ gm x.1.d x.2.1 λI=>(bj A.1 I.1 (Z af) (ax (uk (x.1,x.2.1)) λy3=>(jn (bj A.2.1 6 (aH ((decide ((A.2.1:Int)=6)),x.1,A,I,y3.1)) (aH ((decide ((A.2.1:Int)=10)),x.1,A,I,y3.1))) λz=>(aJ z.1 (jn (bJ dO z.c z.a.a λz6=>(bj z6.1 z.b.1 (aH J) (bJ dO z.c z.a.a λz7=>(ax (oM (z7.2,z.b.1)) λy8=>(aH y8))))) λx5=>(Z x5)) (bj A.2.1 8 (bJ dO z.c z.a.a λz9=>(Z (decide ((z9.1:Int)=z.b.1)))) (bj A.2.1 17 (bJ itK z.2.1.1.a z.a.a λz10=>(bJ dO z.c z10.2 λL=>(Z (decide ((L.1:Int)=z.b.1))))) (bj A.2.1 21 (Z (decide ((z.a.a:Int)=z.b.1))) (Z af))))))))))
def vz (x:ν):M (Bool):=
 (jn (kw 0 x.1 (aH (gI x.1 x.2)) (aH af)) λx1=>(Z x1))
abbrev P!:=D3×h?
def yE (x:P!):M (Bool):=
 (bJ gm x.1.d x.a λz=>(bJ gm x.1.d x.b λA=>(jn (bQ x.a x.b (bj x.c 0 (bj x.e 0 (bj (aZ x.j) 0 (gO z.1 A.1 (ax (ly (z,A)) λL=>(aJ L (bJ kF x.1.1.1 z.a λI=>(aH (!I.2.2.2.1))) (aH af))) (aH af)) (aH af)) (aH af)) (aH af)) (aH af)) λx3=>(Z x3))))
def xY (x:P!):M (Bool):=
 (jn (gO x.a 0 (aH (J,x)) (gO x.b 0 (aH (J,x)) (gO x.c 0 (aH (J,x)) (gO x.e 0 (aH (J,x)) (bQ (aZ x.j) 2 (aH (J,x)) (aH ((gI 4 (aZ x.j)),x))))))) λx1=>(aJ x1.1 (Z af) (iter (σ:=Int×P!) (λI=>(bQ I.1 (aZ x.j) (bJ aN I.n I.1 λz3=>(ax (vz (z3,(aZ I.2.1.d))) λy4=>(aJ (!y4) (aH af) (cP ((cL I.1),I.2))))) (ax (iter (σ:=Int×P!) (λA=>(bQ A.1 (aZ x.j) (jn (bJ aN A.n A.1 λz7=>(bJ aN A.n 0 λz8=>(bQ z7 z8 (aH (J,A.2)) (bV (!decide (((aZ x.j):Int)=0)) (bJ aN A.n (lw (cL A.1) (aZ x.j)) λz9=>(bJ aN A.n A.1 λz10=>(ax (Ca (A.2.1,z9,z10)) λy11=>(aH ((!y11),A.2))))))))) λx6=>(aJ x6.1 (aH af) (iter (σ:=Int×P!) (λz=>(bQ z.1 A.1 (bJ aN z.n A.1 λz13=>(bJ gm z.2.1.d z13 λz14=>(bJ aN z.n z.1 λz15=>(bJ gm z.2.1.d z15 λL=>(bj z14.1 L.1 (aH (bL af)) (cP ((cL z.1),z.2))))))) (aH (lP ((cL A.1),z.2))))) (0,x6.2)))) (aH J))) (0,I.2)) λr=>Z (bL r)))) (0,x1.2))))
def Ih (x:P!):M (Bool):=
 (bJ gm x.1.d x.a λA=>(bJ gm x.1.d x.b λz=>(jn (gO x.c 0 (aH (J,x.1,x.2,A,z)) (gO x.e 0 (aH (J,x.1,x.2,A,z)) (bQ 0 (aZ x.j) (aH (J,x.1,x.2,A,z)) (gO A.2.1 18 (gO A.2.1 19 (aH (J,x.1,x.2,A,z)) (gO z.2.1 16 (aH (J,x.1,x.2,A,z)) (gO A.a z.a (aH (J,x.1,x.2,A,z)) (bj A.1 z.1 (aH (J,x.1,x.2,A,z)) (aH ((cX x.a x.b),x.1,x.2,A,z)))))) (gO z.2.1 16 (aH (J,x.1,x.2,A,z)) (gO A.a z.a (aH (J,x.1,x.2,A,z)) (bj A.1 z.1 (aH (J,x.1,x.2,A,z)) (aH ((cX x.a x.b),x.1,x.2,A,z))))))))) λL=>(aJ L.1 (Z af) (iter (σ:=Int×D3×Ye5×lZ×b!) (λI=>(bQ I.1 I.a.2.1 (bJ gm I.2.1.d I.1 λz5=>(bj z5.1 I.c (aH af) (cP ((cL I.1),I.2)))) (ax (ax (uk (I.2.1,I.a.2.1)) λy6=>(bJ hP y6.1.d I.c λz7=>(jn (bj z7.1 3 (bj I.b.2.1 19 (aH J) (aH (decide ((I.b.b:Int)=I.c)))) (aH af)) λx8=>(Z x8)))) λr=>Z (bL r)))) ((cL L.a.a),L.2))))))
def B_ (x:P!):M (Bool):=
 (jn (bQ 0 (aZ x.j) (aH (J,x)) (kw x.b x.a (aH (J,x)) (aH ((gI x.e x.c),x)))) λx1=>(aJ x1.1 (Z af) (bJ gm x1.2.1.d x1.b λA=>(bJ gm x1.2.1.d x1.c λz3=>(bJ gm x1.2.1.d x1.e λL=>(bJ gm x1.2.1.d x1.f λz5=>(jn (gO A.1 z3.1 (aH (J,x1.2.1,x1.2.2,A)) (gO L.1 z5.1 (aH (J,x1.2.1,x1.2.2,A)) (bj A.1 L.1 (aH (J,x1.2.1,x1.2.2,A)) (ax (ly (A,L)) λy7=>(aJ (!y7) (aH (J,x1.2.1,x1.2.2,A)) (ax (ly (z5,z3)) λy8=>(aH ((!y8),x1.2.1,x1.2.2,A)))))))) λx6=>(aJ x6.1 (Z af) (iter (σ:=Int×D3×Ye5×b!) (λz=>(bQ z.1 z.a.a (jn (bJ gm z.2.1.d z.1 λz11=>(bj z11.1 z.b (bJ gm z.2.1.d z.1 λz12=>(aH ((decide ((z12.2.1:Int)=15)),z.2))) (aH (af,z.2)))) λI=>(aJ I.1 (aH af) (cP ((cL z.1),I.2)))) (ax (ax (uk (z.2.1,z.a.2.1)) λy13=>(bJ hP y13.1.d z.b λz14=>(Z z14.2.2))) λr=>Z (bL r)))) (x6.a.2.1,x6.2))))))))))
def vZ (x:P!):M (Bool):=
 (bj x.2.1 2 (ax (xY x) λy1=>(Z y1)) (jn (ax (vz (x.a,(aZ x.1.d))) λy3=>(aJ (!y3) (aH (J,x)) (ax (vz (x.b,(aZ x.1.d))) λy4=>(aJ (!y4) (aH (J,x)) (ax (vz (x.c,(aZ x.1.d))) λy5=>(aJ (!y5) (aH (J,x)) (ax (vz (x.e,(aZ x.1.d))) λy6=>(aH ((!y6),x))))))))) λz=>(aJ z.1 (Z af) (bj z.a 1 (ax (yE z.2) λL=>(Z L)) (bj z.a 3 (ax (Ih z.2) λI=>(Z I)) (bj z.a 4 (ax (B_ z.2) λA=>(Z A)) (Z af)))))))
def qY (x:Z!):M (Bool):=
 (bJ gm x.1.d x.2.2 λz=>(jn (ax (ki (x.1,x.2.1,z.1)) λI=>(bj I x.2.2 (ax (lj (x.1,x.2.1,z.1)) λA=>(aH A)) (aH af))) λL=>(Z L)))
def Ap (x:Ye1×Int):M (Int):=
 (iter (σ:=Int×l?) (λx1=>(bQ x1.1 (aZ x1.c) (bJ aN x1.c x1.1 λz=>(bj z x.2 (aH x1.1) (cP ((cL x1.1),x1.2)))) (aH (-1)))) (0,x.1))
def Aq (x:D3×Ye1×h?):M (Bool):=
 (ax (vZ (x.1,x.2.2)) λy1=>(aJ (!y1) (Z af) (bj x.a 1 (jn (ax (qY (x.1,x.2.1,x.b)) λy3=>(aJ y3 (ax (qY (x.1,x.2.1,x.c)) λy4=>(aH y4)) (aH af))) λx2=>(Z x2)) (bj x.a 2 (iter (σ:=Int×D3×Ye1×h?) (λz=>(bQ z.1 (aZ z.o) (bJ aN z.o z.1 λz6=>(bJ gm z.2.1.d z6 λA=>(jn (ax (ki (z.2.1,z.a,A.1)) λy9=>(bJ aN z.o z.1 λz10=>(gO y9 z10 (aH (J,z.2)) (bj A.2.1 17 (bJ hP z.a.1.d A.1 λz11=>(aH ((!decide ((z11.1:Int)=4)),z.2))) (aH (af,z.2)))))) λx8=>(aJ x8.1 (aH af) (cP ((cL z.1),x8.2)))))) (aH J))) (0,x)) (bj x.a 3 (jn (bQ 0 (aZ x.2.1.b) (bJ aN x.2.1.b (a_ .i64 ((aZ x.2.1.b)-1)) λL=>(bj L x.c (ax (Ap (x.2.1,x.b)) λy14=>(kw 0 y14 (bJ aN x.2.1.h x.b λI=>(aH (decide ((I:Int)=0)))) (aH af))) (aH af))) (aH af)) λx12=>(Z x12)) (jn (ax (Ap (x.2.1,x.b)) λy17=>(kw 0 y17 (ax (Ap (x.2.1,x.e)) λy18=>(ax (Ap (x.2.1,x.b)) λy19=>(bQ y19 y18 (ax (Ap (x.2.1,x.f)) λy20=>(kw 0 y20 (ax (qY (x.1,x.2.1,x.c)) λy21=>(aH y21)) (aH af))) (aH af)))) (aH af))) λx16=>(Z x16)))))))
abbrev G?:=(gk×Y lZ)×(ν)×D3×l?
def jR (x:(η×(η)×η)×Int):M (Bool):=
 (ax (o_ (x.1,40)) λy1=>(ax (oF y1) λy2=>(ax (my y1) λy3=>(ax (v9 (y1,(a_ .i64 (1+(lw (a_ .i64 x.2) 16))))) λy4=>(jn (gO y2.2 0 (aH (J,y1)) (gO y3.2.2 0 (aH (J,y1)) (gO y4.2 0 (aH (J,y1)) (aH ((!decide (((aZ y3.1):Int)=(aZ y1.2))),y1))))) λx5=>(aJ x5.1 (Z af) (iter (σ:=Int×u!) (λx6=>(bQ x6.1 (aZ y2.1) (jn (α:=u!) (bJ hY y2.1 x6.1 λz8=>(jn (bQ z8.1 0 (aH (J,x6.2,z8)) (kw z8.2 z8.1 (aH (J,x6.2,z8)) (aH ((cX (aZ x6.2.2) z8.2),x6.2,z8)))) λx9=>(aJ x9.1 (cP (bL af)) (ck (!decide (((a_ .i64 (1+(lw (a_ .i64 x.2) 16))):Int)=0)) (gO (a_ .i64 (Pn x9.a (a_ .i64 (1+(lw (a_ .i64 x.2) 16))))) (a_ .i64 (Pn x9.d (a_ .i64 (1+(lw (a_ .i64 x.2) 16))))) (aH x9.2.1) (bV (!decide (((a_ .i64 (1+(lw (a_ .i64 x.2) 16))):Int)=0)) (bJ D5 y4.1 (a_ .i64 (Pn x9.a (a_ .i64 (1+(lw (a_ .i64 x.2) 16))))) λz10=>(ax (v7 z10) λy11=>(iter (σ:=Int×G?) (λz=>(bQ z.1 (a_ .i64 (z.b.2.1+(aZ z.b.d))) (jn (α:=G?) (ax (vy (z.2.1.2,z.1)) λy14=>(jn (bj z.1 z.a.1 (aH (J,z.2)) (bj z.1 z.a.2 (aH (J,z.2)) (bJ (.sl aN) y3.1 z.a.1 λz16=>(ax (rA (z16,y14)) λy17=>(aJ (!y17) (bJ (.sl aN) y3.1 z.a.2 λz18=>(ax (rA (z18,y14)) λy19=>(aH ((!y19),z.2)))) (aH (af,z.2))))))) λI=>(aJ I.1 (aH I.2) (bJ gm I.2.1.2 z.1 λz20=>(ax (ki (I.b,I.g,z20.1)) λy21=>(gO y21 (a_ .i64 (z.1-I.b.2.1)) (cP (bL (lP (bL af)))) (jn (α:=Int×G?) (bJ gm I.2.1.2 z.1 λz23=>(bj z23.2.1 18 (bJ gm I.2.1.2 z.1 λz24=>(aH (z24.2.2.2.1,I.2))) (aH ((-1),I.2)))) λA=>(bJ gm A.2.1.2 z.1 λz25=>(ax (yF (A.b,A.g,z25.1,A.1)) λL=>(aJ (!L.2) (cP (bL (lP (bL af)))) (jn (bJ gm A.2.1.2 z.1 λz28=>(bj z28.2.1 3 (bJ (.bool) L.1.c (a_ .i64 (z.1-A.b.2.1)) λz29=>(aH ((!z29),A.2.1,A.a,A.b,L.1))) (bJ gm A.2.1.2 z.1 λz30=>(bj z30.2.1 23 (bJ (.bool) L.1.c (a_ .i64 (z.1-A.b.2.1)) λz31=>(aH ((!z31),A.2.1,A.a,A.b,L.1))) (aH (af,A.2.1,A.a,A.b,L.1)))))) λx27=>(aJ x27.1 (cP (bL (lP (bL af)))) (aH x27.2))))))))))))) λx13=>(cP ((cL z.1),x13))) (ax (ax (Aq (z.b,z.g,1,(a_ .i64 (z.a.1-z.b.2.1)),(a_ .i64 (z.a.2-z.b.2.1)),0,0,([]:η))) λy32=>(aJ (!y32) (cP (bL af)) (aH z.2.1))) λr=>Z (bL r)))) (z10.2.1,x9.2.1,x9.2.2,z10,y11)))))))))) λx7=>(cP ((cL x6.1),x7))) (ax (ax (vA ()) λy33=>(Z y33)) λr=>Z (bL r)))) (0,x5.2))))))))
def aqy {w:WT} (tr:TR (w,L)) {n:Nat} (z:n<=l! L):v8 ((w,L),(n:Int))=Z (ku w (L.take n)):=by
 have A:l! L<=400:=tr.len;have vl:VL w:=tr.vl;refine cz ?_;unfold v8 be ct bQ bJ cP aH cL;refine aX (A_ w vl) ?_;refine b9 n (λi x=>x=((i:Int),(w,L),0,ku w (L.take i))) ?_ ?_ rfl
 .rintro i x hi rfl;have I:aI gm L (i:Int)=eN L i:=rfl;refine c8 (b_ (aT ?_));refine aX (aci tr (by omega)) (ak ?_);rw[gZ]
 .rintro x rfl;exact c9 (ak rfl)
def wE (l:Y ET) (n st:Nat):Y ET:=(l.drop st).take (min (st+n) (l! l)-st)
def wn (w:WT) (l:Y ET) (n st:Nat):WT×Int×SN×Y ET:=(w,(st:Int),ku w (l.take st),wE l n st)
def Af (l:Y ET) (n st:Nat):l! (wE l n st)=min (st+n) (l! l)-st:=by unfold wE;rw[bR,lI];omega
def BT {l:Y ET} {n st j:Nat} (h:j<l! (wE l n st)):aI gm (wE l n st) (j:Int)=eN l (st+j):=by
 rw[Af]at h;unfold eN wE;rw[sL,sL,aD,aD,zZ h,lJ]
def auf (a b:Nat):BI (a:Int) (b:Int)=((min a b:Nat):Int):=by
 unfold BI;by_cases h:gI (b:Int) (a:Int)=J
 .have:=t_.1 h;rw[aC h];omega
 .have:=jS.1 (Sn.2 h);rw[av h];omega
def ayt (n:Nat) (A:1<=n):∀N:Nat,∃K:Nat,(∀k,k<K->k*n<N)/\N<=K*n
 |0=>⟨0,λk z=>bT z (qe _),iQ _⟩
 |N+1=>by
  let⟨K,h1,I⟩:=ayt n A N;by_cases h:N+1<=K*n
  .exact⟨K,λk z=>qH (h1 k z),h⟩
  .refine ⟨K+1,λk z=>?_,?_⟩
   .by_cases e:k=K
    .subst e;omega
    .have:=h1 k (by omega);omega
   .rw[Nat.add_mul];omega
def ara {w:WT} (tr:TR (w,L)) (A:1<=i) (h16:i<=16):∃K:Nat,v9 ((w,L),(i:Int))=Z ((dA K).map λk=>wn w L i (k*i),0)/\l! L<=K*i:=by
 have hl:l! L<=400:=tr.len;let⟨K,h1,l⟩:=ayt i A (l! L);refine ⟨K,cz ?_,l⟩;have hK:K<=400:=by grind
 unfold v9 bQ gO bV aZ cP aH;refine ay (ane tr) λy z=>?_
 refine bU (λg=>bT z g) λ_=>?_
 refine aV (λx=>x=(af,w,L)) ?_ ?_
 .refine c9 (ak ?_);rw[Bi (show (i:Int)<=16 by omega)]
 rintro x rfl;refine dR (b9 K (λk x=>x=(((k*i:Nat):Int),(w,L),(dA k).map λk=>wn w L i (k*i))) ?_ ?_ ?_)
 .rintro k x I rfl;have hkn:=h1 k I;refine c8 (aX (aqy tr (n:=k*i) (by omega)) ?_);have ew:a_ .i64 (((k*i:Nat):Int)+(i:Int))=((k*i+i:Nat):Int):=by rw[gr];omega
  have eo:aS (l! L)=((l! L:Nat):Int):=rfl;dsimp only;rw[ew,eo,auf];refine bl ?_ (bP ?_ (by omega) (ak ?_))
  .rw[al,al];exact⟨xx.2 (by omega),xx.2 (by omega),xx.2 (by omega)⟩
  .grind
  .have e:(k+1)*i=k*i+i:=by rw[Nat.add_mul,Nat.one_mul]
   rw[List.range_succ,cg,e];rfl
 .rintro x rfl;exact c9 (ak rfl)
 .grind
def cF (l:Y ET) (t:Int) (i:Nat):Nat:=l! (fl (l.take i) t)
def abl (h:i<l! L) {t:Int} (e:(eN L i).1=t):cF L t (i+1)=cF L t i+1:=by
 have:=alg h e;unfold fN at this;unfold cF;rw[this,bH,dI]
def am4 (h:i<l! L) {t:Int} (e:¬(eN L i).1=t):cF L t (i+1)=cF L t i:=by
 have:=aa0 h e;unfold fN at this;unfold cF;rw[this]
def at0 {l:Y ET} {t:Int} :∀n:Nat,i+n<=l! l->cF l t i<=cF l t (i+n)
 |0,_=>bK _
 |n+1,h=>by
  have z:cF l t i<=cF l t (i+n):=at0 n (by omega);rw[<- jA];by_cases e:(eN l (i+n)).1=t
  .rw[abl (by omega) e];omega
  .rw[am4 (by omega) e];exact z
def Ux {l:Y ET} {t:Int} (h:i<=m) (z:m<=l! l):cF l t i<=cF l t m:=by
 have:=at0 (l:=l) (t:=t) (i:=i) (m-i) (by omega)
 grind
def ana {t:Int}:∀i:Nat,i<=l! L->EI (L.take i) t a->∃p,p<i/\(eN L p).1=t/\(cF L t p:Int)=a/\LG (eN L p)=J
 |0,_,h=>by
  have:=h.2;simp[fl]at this
 |i+1,hi,h=>by
  rw[nV (T:=gm) (show i<l! L by omega)]at h;rcases HH h with h|⟨y,b,c⟩
  .obtain⟨p,p1,p2⟩:=ana i (by omega) h;exact⟨p,by omega,p2⟩
  .exact⟨i,by omega,y,c.symm,b⟩
def azz {w:WT} (tr:TR (w,L)) {n p:Nat} {t:Int} (hp:p<l! (wE L n i)) (ht:(eN L (i+p)).1=t):Cb (wn w L n i,t,((cF L t (i+p)-cF L t i:Nat):Int))=Z (p:Int):=by
 have hl:l! L<=400:=tr.len;have hlen:=Af L n i;have l:∀j:Nat,i+j<=l! L->cF L t (i+j)<=400:=λj I=>by
  have:=Bp (L.take (i+j)) t;have:=fR (i+j) L;unfold cF;omega
 refine cz ?_;unfold Cb wn dF bj bQ bJ aZ cP aH cL;refine b9 p (λj x=>x=((((cF L t (i+p)-cF L t (i+j):Nat):Int),(j:Int)),w,(i:Int),ku w (L.take i),wE L n i)) ?_ ?_ rfl
 .rintro j x I rfl;have hjl:j<l! (wE L n i):=by omega
  refine c8 ?_;have h1:=Ux (l:=L) (t:=t) (show i+(j+1)<=i+p by omega) (by omega);refine aV (λx=>x=(((cF L t (i+p)-cF L t (i+(j+1)):Nat):Int),w,(i:Int),ku w (L.take i),wE L n i)) ?_ ?_
  .refine b_ (aT ?_);have hge:aI gm (wE L n i) (j:Int)=eN L (i+j):=BT hjl;dsimp only;rw[hge];refine aK (λh=>?_) λh=>ak ?_
   .have h:(eN L (i+j)).1=t:=h;have A:=abl (show i+j<l! L by omega) h;rw[jA]at A;have h3:=l p (by omega);refine aK (λz=>?_) λz=>ak ?_
    .omega
    .rw[gr]
     grind
   .have h:¬(eN L (i+j)).1=t:=h;have A:=am4 (show i+j<l! L by omega) h
    grind
  rintro x rfl;refine ak ?_;rw[gZ]
 .rintro x rfl;refine c8 (aV (λ_=>False) ?_ λ_ h=>h.elim);refine b_ (aT ?_);have hge:aI gm (wE L n i) (p:Int)=eN L (i+p):=BT hp;dsimp only;rw[hge];refine aK (λ_=>aK (λ_=>ak rfl) λz=>?_) λh=>bT ht h
  omega
abbrev CFt:Type:=SY×Y (Int×Bool)×Y (Int×Bool)×η×θ×η
structure U1 (w:WT) (l:List ET) (D:Nat->Prop) (st m i:Nat) (c:CFt):Prop where
 s:c.1=rS w l D i
 c1:l! c.2.1=l! w.1
 f1:l! c.2.2.1=l! w.2.2.2.1
 x1:l! c.2.2.2.2.1=m
 k1:l! c.2.2.2.2.2=m
 o1:l! c.2.2.2.1<=i
 o:∀j:Nat,(j:Int)∈c.2.2.2.1↔D (st+j)/\st+j<i
 ce:∀q:Nat,q<l! w.1->(∀s:Nat,LL l q i=(s:Int)->D s)->c.2.1.getD q (0,af)=((wU w (l.take i)).2.1.getD q 0,J)
 fu:∀q:Nat,q<l! w.2.2.2.1->(∀k,k<i->(eN l k).2.1=22->(eN l k).2.2.1=(q:Int)->D k)->c.2.2.1.getD q (0,af)=((wU w (l.take i)).2.2.getD q 0,J)
 fx:∀p,st<=p->p<i->D p->LG (eN l p)=J->c.2.2.2.2.1.getD (p-st) af=J
def asj {w:WT} (tr:TR (w,L)) (D:Nat->Prop):∀i,i<=l! L->P8 (rS w L D i).1
 |0,_=>λx l=>by rw[z_ l];exact⟨trivial,λz I=>by cases I⟩
 |i+1,h=>by
  have A:=asj tr D i (by omega);have ht:=tr.wb.t;dsimp only at ht;have en:=(tr.sc (show i<l! L by omega)).en;have t1:=en.t1;show P8 (@ite _ (D i) (di _) (kT w (rS w L D i) (eN L i).1 (eN L i).2.1 (eN L i).2.2.1 (eN L i).2.2.2.1).1 (rS w L D i)).1;by_cases hD:D i
  .rw[aC hD];exact A.ap _ _ _ en.t0 (by omega)
  .grind
def asi {w:WT} (tr:TR (w,L)) (cl:ClD w L O) (hi:i<=l! L):SB 4 (rS w L O i):=by
 have S:=sim tr cl i hi;have P:=asj tr O i hi;have h1:=S.e1;have h2:=S.e2;have l:=S.e3;have ht:=tr.wb.t;have A:=tr.wb.l;have I:=tr.wb.f;dsimp only at ht A I;refine ⟨by omega,by omega,λx z=>?_,by omega,by omega⟩;have:=AW x.2 0 4 (P x z).1 (P x z).2;omega
section
variable {w:WT} {l:Y ET} (tr:TR (w,l)) {n st:Nat}
include tr
def amx {c:CFt} (I:l! c.2.2.2.1<=1000) {t:Int} (A:i<l! (wE l n st)) (ht:(eN l (st+i)).1=t) (h0:¬(i:Int)∈c.2.2.2.1) (hb:∀z:Nat,z<i->(eN l (st+z)).1=t->(z:Int)∈c.2.2.2.1):ki (wn w l n st,c,t)=Z (i:Int):=by
 have L:l! l<=400:=tr.len;have hlen:=Af l n st;refine cz ?_;unfold ki wn cE ct bj bQ bJ aZ cP aH cL;refine b9 i (λk x=>x=((k:Int),(w,(st:Int),ku w (l.take st),wE l n st),c)) ?_ ?_ rfl
 .rintro k x hk rfl;refine c8 (aV (λx=>x=(af,(w,(st:Int),ku w (l.take st),wE l n st),c)) ?_ ?_)
  .refine b_ (aT ?_);have hge:aI gm (wE l n st) (k:Int)=eN l (st+k):=BT (by omega);dsimp only;refine aK (λh=>?_) λh=>ak rfl
   refine aX (Fw _ _ (by omega)) (ak ?_)
   grind
  rintro x rfl;refine dR (ak ?_);rw[gZ]
 .rintro x rfl;refine c8 (aV (λx=>x=(J,(w,(st:Int),ku w (l.take st),wE l n st),c)) ?_ ?_)
  .refine b_ (aT ?_);have hge:aI gm (wE l n st) (i:Int)=eN l (st+i):=BT A;dsimp only;rw[hge];refine aK (λh=>?_) λh=>bT ht h
   refine aX (Fw _ _ (by omega)) (ak ?_)
   grind
  rintro x rfl;exact vh (ak rfl)
def az8 {t:Int} (z:0<=t) (I:t<l! w.2.2.2.2.1) (A:st<=l! l):(ku w (l.take st)).2.2.2.length=l! w.2.2.2.2.1/\aI aN (ku w (l.take st)).2.2.2 t=(cF l t st:Int):=by
 let⟨_,_,_,_,k,n⟩:=C9 tr st A;exact⟨k,n t z (by omega)⟩
def Fy {c:CFt} (I:l! c.2.2.2.2.1=l! (wE l n st)) {t:Int} (A:0<=t) (z:t<l! w.2.2.2.2.1) (hi:i<=st+l! (wE l n st)) (hil:i<=l! l) (L:st<=l! l) {ns:η} (hn:l! ns<=1000) (hf:∀y∈ns,EI (l.take i) t y) (h:∀p,st<=p->p<i->(eN l p).1=t->LG (eN l p)=J->c.2.2.2.2.1.getD (p-st) af=J):lz (wn w l n st,c,t,ns)=Z J:=by
 have hl:l! l<=400:=tr.len;have hlen:=Af l n st;let⟨k1,k2⟩:=az8 tr A z L;refine cz ?_;unfold lz wn be fe ct bQ kw bJ aZ cP aH cL;refine aV (λx=>x=(af,(w,(st:Int),ku w (l.take st),wE l n st),c)) ?_ ?_
 .refine c9 (ak ?_);dsimp only;rw[VZ (by dsimp only[aw];omega)]
 rintro x rfl;refine dR (b9 (l! ns) (λk x=>x=((k:Int),(w,(st:Int),ku w (l.take st),wE l n st),c)) ?_ ?_ rfl)
 .rintro k x hk rfl;refine c8 (aV (λx=>x=((w,(st:Int),ku w (l.take st),wE l n st),c)) ?_ ?_)
  .refine b_ (aT (aP A (by rw[k1];exact z) (aT ?_)));dsimp only;rw[k2];have hm:=bC (T:=aN) (xs:=ns) (j:=(k:Int)) (by omega) (by omega);obtain⟨y,hy⟩:∃y:Int,aI aN ns (k:Int)=y:=⟨_,rfl⟩
   rw[hy]at hm ⊢;refine bD (λ_=>ak rfl) λhge=>?_
   have hge:(cF l t st:Int)<=y:=hge;refine b_ (aT (aP A (by rw[k1];exact z) (aT ?_)));let⟨p,p1,p2,p3,p4⟩:=ana i hil (hf y hm);have hsp:st<=p:=by
    rcases cN p st with g|g
    .have h1:=abl (show p<l! l by omega) p2;have h2:=Ux (l:=l) (t:=t) (show p+1<=st from g) L;omega
    .exact g
   have hc:=Bp (l.take p) t;have hc2:=fR p l;have e1:a_ .i64 (y-(cF l t st:Int))=((cF l t (st+(p-st))-cF l t st:Nat):Int):=by
    rw[show st+(p-st)=p by omega,gr (by omega) (by unfold cF at p3;omega)];have:=Ux (l:=l) (t:=t) hsp (by omega);omega
   rw[e1];refine aX (azz tr (n:=n) (p:=p-st) (by omega) (by rw[show st+(p-st)=p by omega];exact p2)) ?_;refine aV (λx=>x=(af,(w,(st:Int),ku w (l.take st),wE l n st),c)) ?_ ?_
   .refine bD (λg=>(by omega)) λ_=>fK (λg=>(by rw[I]at g;simp only[aw]at g;omega)) λ_=>aP (by omega) (by rw[I];omega) (aT (ak ?_))
    have hb:aI (.bool) c.2.2.2.2.1 ((p-st:Nat):Int)=J:=by
     rw[sL (T:=.bool)];exact h p hsp p1 p2 p4
    dsimp only at hb ⊢;rw[hb];rfl
   rintro x rfl;exact dR (ak rfl)
  rintro x rfl;refine ak ?_;dsimp only;rw[gZ]
 .rintro x rfl;exact c9 (ak rfl)
end
def C_ (xs:Y R) (v d:R) (z:0<=a) (A:i<l! xs):(ca xs a v).getD i d=if a=(i:Int) then v else xs.getD i d:=by
 have e:a=((a.toNat:Nat):Int):=by omega
 rw[e,eR,aD,iR]
 grind
section
variable {w:WT} {l:Y ET} (tr:TR (w,l)) {D:Nat->Prop}
include tr
omit tr in
def aoi (hi:i<=l! l) (h:∀k,k<i->D k):rS w l D i=fS w l i:=by
 induction i with
 |zero=>rfl
 |succ i z=>
  have z:=z (by omega) λk A=>h k (by omega)
  rw[LU w (by omega),<-z];show @ite _ (D i) (di _) _ _=_;rw[aC (h i (by omega))]
def aj1 (hi:i<l! l) (q:Nat):((cf l i).k=4/\(cf l i).ob=q)↔((eN l i).2.1=4/\(eN l i).2.2.1=(q:Int)):=by
 have z:=kP tr hi;have A:=z.k;constructor
 .rintro⟨a,b⟩;have:=z.ob (by grind);omega
 .rintro⟨a,b⟩;have:=z.ob (by grind);omega
def abj (hi:i<=l! l):(wU w (l.take i)).2.1.length=l! w.1/\(wU w (l.take i)).2.2.length=l! w.2.2.2.1:=by
 let⟨a,_,c,f,_,_⟩:=C9 tr i hi;rw[<- a];exact⟨c,f⟩
def ael (hi:i<l! l) (z:m<l! w.1):(wU w (l.take (i+1))).2.1.getD m 0=if (eN l i).2.1=4/\(eN l i).2.2.1=(m:Int) then (eN l i).2.2.2.1 else (wU w (l.take i)).2.1.getD m 0:=by
 have en:=(tr.sc hi).en;have A:=(abj tr (Nat.le_of_lt hi)).1;rw[CY w hi];unfold ceP;by_cases k:(eN l i).2.1=4
 .rw[aC k,C_ _ _ _ (en.nm.ce (.inr k)).1 (by omega)]
  grind
 .grind
def adv (hi:i<l! l) (z:m<l! w.2.2.2.1):(wU w (l.take (i+1))).2.2.getD m 0=if (eN l i).2.1=22/\(eN l i).2.2.1=(m:Int) then (eN l i).2.2.2.1 else (wU w (l.take i)).2.2.getD m 0:=by
 have en:=(tr.sc hi).en;have A:=(abj tr (Nat.le_of_lt hi)).2;rw[CY w hi];unfold fuP;by_cases k:(eN l i).2.1=22
 .rw[aC k,C_ _ _ _ (en.nm.fu (.inl k)).1 (by omega)]
  grind
 .grind
def adg (hi:i<l! l) (q:Nat):LL l q (i+1)=if (eN l i).2.1=4/\(eN l i).2.2.1=(q:Int) then (i:Int) else LL l q i:=by
 rw[LL];by_cases h:(eN l i).2.1=4/\(eN l i).2.2.1=(q:Int)
 .rw[aC h,aC ((aj1 tr hi q).2 h)]
 .rw[av h,av λz=>h ((aj1 tr hi q).1 z)]
def U1.skip {st:Nat} {c:CFt} (h:U1 w l D st m i c) (hi:i<l! l) (hD:¬D i):U1 w l D st m (i+1) c:=by
 refine ⟨?_,h.c1,h.f1,h.x1,h.k1,fD h.o1,λj=>?_,λq I A=>?_,λq I A=>?_,λp h0 h1 hp L=>?_⟩
 .rw[h.s];show _= @ite _ (D i) (di _) _ _;rw[av hD]
 .rw[h.o j]
  grind
 .rw[adg tr hi]at A;rw[ael tr hi I];by_cases z:(eN l i).2.1=4/\(eN l i).2.2.1=(q:Int)
  .grind
  .rw[av z]at A ⊢;exact h.ce q I A
 .rw[adv tr hi I];by_cases z:(eN l i).2.1=22/\(eN l i).2.2.1=(q:Int)
  .grind
  .rw[av z];exact h.fu q I λk hk=>A k (by omega)
 .by_cases e:p=i
  .grind
  .exact h.fx p h0 (by omega) hp L
def U1.run {st:Nat} {c c':CFt} (h:U1 w l D st m i c) (hi:i<l! l) (hst:st<=i) (him:i<st+m) (hD:D i) (h1:c'.1=(kT w (rS w l D i) (eN l i).1 (eN l i).2.1 (eN l i).2.2.1 (eN l i).2.2.2.1).1)
 (h2:c'.2.1=if (eN l i).2.1=4 then ca c.2.1 (eN l i).2.2.1 ((eN l i).2.2.2.1,J) else c.2.1) (h3:c'.2.2.1=if (eN l i).2.1=22 then ca c.2.2.1 (eN l i).2.2.1 ((eN l i).2.2.2.1,J) else c.2.2.1)
 (h4:c'.2.2.2.1=c.2.2.2.1++[((i-st:Nat):Int)]) (h5:c'.2.2.2.2.1=if LG (eN l i)=J then ca c.2.2.2.2.1 ((i-st:Nat):Int) J else c.2.2.2.2.1) (h6:l! c'.2.2.2.2.2=m):U1 w l D st m (i+1) c':=by
 have en:=(tr.sc hi).en;refine ⟨?_,?_,?_,?_,h6,?_,λj=>?_,λq I L=>?_,λq I L=>?_,λp g0 g1 hp hr=>?_⟩
 .rw[h1];show _= @ite _ (D i) (di _) _ _;rw[aC hD]
 .rw[h2];split
  .rw[bN];exact h.c1
  .exact h.c1
 .rw[h3];split
  .rw[bN];exact h.f1
  .exact h.f1
 .rw[h5];split
  .rw[bN];exact h.x1
  .exact h.x1
 .rw[h4,bH,dI];have:=h.o1;omega
 .rw[h4,cq,h.o j,aG]
  grind
 .rw[adg tr hi]at L;rw[ael tr hi I,h2];by_cases k:(eN l i).2.1=4
  .rw[aC k,C_ _ _ _ (en.nm.ce (.inr k)).1 (by rw[h.c1];exact I)];by_cases z:(eN l i).2.2.1=(q:Int)
   .grind
   .have A:¬((eN l i).2.1=4/\(eN l i).2.2.1=(q:Int)):=λy=>z y.2
    rw[av A]at L;rw[av z,av A];exact h.ce q I L
  .have A:¬((eN l i).2.1=4/\(eN l i).2.2.1=(q:Int)):=λy=>k y.1
   rw[av A]at L;rw[av k,av A];exact h.ce q I L
 .have old:∀k,k<i->(eN l k).2.1=22->(eN l k).2.2.1=(q:Int)->D k:=λk hk=>L k (by omega)
  rw[adv tr hi I,h3];by_cases k:(eN l i).2.1=22
  .rw[aC k,C_ _ _ _ (en.nm.fu (.inl k)).1 (by rw[h.f1];exact I)];by_cases z:(eN l i).2.2.1=(q:Int)
   .grind
   .have A:¬((eN l i).2.1=22/\(eN l i).2.2.1=(q:Int)):=λy=>z y.2
    rw[av z,av A];exact h.fu q I old
  .have A:¬((eN l i).2.1=22/\(eN l i).2.2.1=(q:Int)):=λy=>k y.1
   rw[av k,av A];exact h.fu q I old
 .rw[h5];by_cases e:p=i
  .subst e;rw[aC hr,C_ _ _ _ (by omega) (by rw[h.x1];omega),aC rfl]
  .have:=h.fx p g0 (by omega) hp hr;split
   .rw[C_ _ _ _ (by omega) (by grind),av (by omega)];exact this
   .exact this
def ar9 {n:Nat} (hs:i<=l! l) (hd:∀k,k<i->D k):Ok (v7 (wn w l n i)) (U1 w l D i (l! (wE l n i)) i):=by
 have hl:l! l<=400:=tr.len;have b1:=tr.wb.c;have b4:=tr.wb.f;have ht:=tr.wb.t;have hlk:=tr.wb.l;dsimp only at b1 b4 ht hlk;have hlen:=Af l n i;let⟨a,r,c,f,k,_⟩:=C9 tr i hs;have hac:=abj tr hs;have hrs:=aoi (w:=w) hs hd;have q1:(fS w l i).1.length=l! w.2.1/\(fS w l i).2.2.1.length=l! w.2.2.2.1/\(fS w l i).2.2.2.length=l! w.2.2.2.2.1:=by
  rw[<- hrs];have hz:∀st,st<=i->(rS w l D st).1.length=l! w.2.1/\(rS w l D st).2.2.1.length=l! w.2.2.2.1/\(rS w l D st).2.2.2.length=l! w.2.2.2.2.1:=by
   intro st;induction st with
   |zero=>intro _;exact⟨by simp[rS,KL],by simp[rS,KL],by simp[rS,KL,C8]⟩
   |succ st ih=>
    intro hi;let⟨a1,a2,a3⟩:=ih (by omega);let⟨l1,l2,l3⟩:=Yf w (rS w l D st) (eN l st).1 (eN l st).2.1 (eN l st).2.2.1 (eN l st).2.2.2.1;have e:rS w l D (st+1)=(kT w (rS w l D st) (eN l st).1 (eN l st).2.1 (eN l st).2.2.1 (eN l st).2.2.2.1).1:=aC (hd st (by omega));rw[e];exact⟨l1.trans a1,l2.trans a2,l3.trans a3⟩
  exact hz i (bK _)
 have e1:(ku w (l.take i)).1=fS w l i:=d_ Prod.fst a;have e2:(ku w (l.take i)).2.1=(wU w (l.take i)).2.1:=d_ (λz=>z.2.1) a;have e3:(ku w (l.take i)).2.2.1=(wU w (l.take i)).2.2:=d_ (λz=>z.2.2) a;have sb:SB 4 (ku w (l.take i)).1:=by
  rw[e1];refine ⟨by omega,by omega,λx hx=>?_,by omega,by omega⟩;rw[<- e1]at hx;have:=AW x.2 0 4 (r x hx).1 (r x hx).2;omega
 unfold v7 be bA bM cE fe kZ vu ct rY Lu bQ bV bJ aZ cP aH cL;refine aX (L5 (ku w (l.take i)).1 sb) ?_;have hL:aS (l! (wE l n i))=((l! (wE l n i):Nat):Int):=rfl;have ck:∀b:Nat,b<=8->(cX 0 (aS (l! (wE l n i)))&&cX (aS (l! (wE l n i))) (aS (l! (wE l n i)))&&bg (aO (aS (l! (wE l n i)))) b)=J:=λb hb=>by
  rw[hL,al,al];refine ⟨⟨xx.2 (by omega),xx.2 (by omega)⟩,?_⟩;have:Ok (chk (bg (aO ((l! (wE l n i):Nat):Int)) b) λ_=>Z ()) λ_=>True:=bP (by rw[cR];omega) (by omega) (ak trivial)
  let⟨y,h,_⟩:=this;cases A:bg (aO ((l! (wE l n i):Nat):Int)) b with
  |true=>rfl
  |false=>rw[A]at h;cases h
 refine bl (ck 1 (by omega)) (bl (ck 8 (by omega)) ?_);unfold wn;dsimp only;generalize hW:((w,(i:Int),ku w (l.take i),wE l n i):WT×Int×SN×Y ET)=W;have L:W.2.2.1.2.1=(wU w (l.take i)).2.1:=by rw[<- hW];exact e2
 have I:W.2.2.1.2.2.1=(wU w (l.take i)).2.2:=by rw[<- hW];exact e3
 rw[e1];generalize hFX:(aE (aO (aS (l! (wE l n i)))) af:θ)=FX;generalize hWK:(aE (aO (aS (l! (wE l n i)))) 0:η)=WK;refine b9 (l! w.1) (λst x=>x=((st:Int),W,0,(fS w l i).2.1,(fS w l i).1,(fS w l i).2.2.1,(fS w l i).2.2.2,((wU w (l.take i)).2.1.take st).map λz=>(z,J),FX,WK)) ?_ ?_ rfl
 .rintro st x hi rfl;have hg:aI aN (wU w (l.take i)).2.1 (st:Int)=(wU w (l.take i)).2.1.getD st 0:=GD _ st;refine c8 ?_ (by dsimp only;rw[L];dsimp only[aw];omega);refine aP (by omega) (by dsimp only;rw[L];omega) (aT ?_);dsimp only;rw[L,hg];refine bP ?_ (by omega) (ak ?_)
  .rw[bx,bR,dI];omega
  .have:(wU w (l.take i)).2.1.take (st+1)=(wU w (l.take i)).2.1.take st++[(wU w (l.take i)).2.1.getD st 0]:=by
    rw[List.take_add_one,aF (by omega),aD,aF (by omega)];rfl
   rw[this,cg];dsimp only;rw[gZ];rfl
 .rintro x rfl;refine c9 ?_ (by dsimp only;rw[L];dsimp only[aw];omega);refine ay (P:=U1 w l D i (l! (wE l n i)) i) ?_ λy hy=>ak hy
  refine b9 (l! w.2.2.2.1) (λst x=>x=((st:Int),W,0,(fS w l i).2.1,(fS w l i).1,(fS w l i).2.2.1,(fS w l i).2.2.2,((wU w (l.take i)).2.1.take (l! w.1)).map (λz=>(z,J)),((wU w (l.take i)).2.2.take st).map (λz=>(z,J)),FX,WK)) ?_ ?_ rfl
  .rintro st x hi rfl;have hg:aI aN (wU w (l.take i)).2.2 (st:Int)=(wU w (l.take i)).2.2.getD st 0:=GD _ st;refine c8 ?_ (by dsimp only;rw[I];dsimp only[aw];omega);refine aP (by omega) (by dsimp only;rw[I];omega) (aT ?_);dsimp only;rw[I,hg];refine bP ?_ (by omega) (ak ?_)
   .rw[bx,bR,dI];omega
   .have:(wU w (l.take i)).2.2.take (st+1)=(wU w (l.take i)).2.2.take st++[(wU w (l.take i)).2.2.getD st 0]:=by
     rw[List.take_add_one,aF (by omega),aD,aF (by omega)];rfl
    rw[this,cg];dsimp only;rw[gZ];rfl
  .rintro x rfl;refine c9 (ak ?_) (by dsimp only;rw[I];dsimp only[aw];omega);dsimp only;have mp:∀(xs:η) (m:Nat),l! xs=m->∀q,q<m->((xs.take m).map λz=>(z,J)).getD q (0,af)=(xs.getD q 0,J):=λxs m hm q A=>by
    rw[aD,bE,zZ (by omega),aF (by omega),aD,aF (by omega)];rfl
   refine ⟨hrs.symm,by rw[bx,bR];omega,by rw[bx,bR];omega,by rw[<- hFX,ey];rfl,by rw[<- hWK,ey];rfl,iQ _,λj=>⟨nofun,λh=>(by omega)⟩,λq A _=>mp _ _ hac.1 q A,λq A _=>mp _ _ hac.2 q A,λp h0 h1=>by omega⟩
end
section
variable {w:WT} {l:Y ET} (tr:TR (w,l)) {n st:Nat}
include tr
def Sg {c:CFt} {j:Nat} (I:j<l! (wE l n st)) {t:Int} (L:ki (wn w l n st,c,t)=Z (j:Int)) (sb:SB 4 c.1) (en:EN w c.1 t (eN l (st+j)).2.1 (eN l (st+j)).2.2.1) (rd:QK w c.1 t (eN l (st+j)).2.1 (eN l (st+j)).2.2.1) (hF:lz (wn w l n st,c,t,(eN l (st+j)).2.2.2.2.2.1)=Z J):lj (wn w l n st,c,t)=Z J:=by
 have hd:=tr.wb.d;dsimp only at hd;refine cz ?_;unfold lj be cE ct bQ bJ aH;refine aX L (bD (λg=>(by omega)) λ_=>?_);have hge:aI gm (wE l n st) (j:Int)=eN l (st+j):=BT I;have A:(wn w l n st).2.2.2=wE l n st:=rfl;refine aP (by omega) (by grind) (aT ?_);rw[A,hge];refine aV (λx=>x=J) ?_ λx z=>ak z
 refine aX (Bc w c.1 sb (by omega) t _ _ en rd) (vh (aX hF (ak rfl)))
omit tr in
def ax8 {c:CFt} (sb:SB 4 c.1) (h1:l! c.2.1<=1000) (L:l! c.2.2.1<=1000) (I:l! c.2.2.2.1<=1000) (A:l! c.2.2.2.2.1<=1000) (z:l! c.2.2.2.2.2<=1000):Dg c=Z c:=by
 refine cz ?_;refine aX (L5 c.1 sb) ?_;refine bP (by grind) (by omega) (bP (by grind) (by omega) (bP (by grind) (by omega) (bP (by grind) (by omega) (bP (by grind) (by omega) (ak ?_)))));simp[jH]
def avk (cl:ClD w l O) (hrd:∀i,i<l! l->O i->YM l i->O (YL l i)) {c:CFt} (h:U1 w l O st (l! (wE l n st)) i c) (hst:st<=i) (him:i<st+l! (wE l n st)) (L:O i):ki (wn w l n st,c,(eN l i).1)=Z ((i-st:Nat):Int)/\
 Ok (yF (wn w l n st,c,(eN l i).1,if (eN l i).2.1=18 then (eN l i).2.2.2.1 else -1)) λy=>y.2=J/\U1 w l O st (l! (wE l n st)) (i+1) y.1:=by
 have hl:l! l<=400:=tr.len;have hlen:=Af l n st;have hi:i<l! l:=by omega
 have sc:=tr.sc hi;have en:=sc.en;have t0:=en.t0;have t1:=en.t1;have b1:=tr.wb.c;have b4:=tr.wb.f;have b3:=tr.wb.d;dsimp only at b1 b4 b3;have S:=sim tr cl i (by omega);let⟨en',rd'⟩:=S.rdy tr cl hi L;have sb:SB 4 c.1:=by rw[h.s];exact asi tr cl (by omega)
 have ho1:=h.o1;have hc1:=h.c1;have hf1:=h.f1;have hx1:=h.x1;have z:=h.k1;have ej:st+(i-st)=i:=by omega
 have hN:ki (wn w l n st,c,(eN l i).1)=Z ((i-st:Nat):Int):=by
  refine amx tr (by omega) (by omega) (by rw[ej]) (λq=>?_) λj' hj' e=>?_
  .have:=((h.o (i-st)).1 q).2;omega
  .exact (h.o j').2 ⟨cl.po i hi L (st+j') (by omega) e,by omega⟩
 have fx:∀p,st<=p->p<i->(eN l p).1=(eN l i).1->LG (eN l p)=J->c.2.2.2.2.1.getD (p-st) af=J:=λp h0 h1 e hr=>h.fx p h0 h1 (cl.po i hi L p h1 e) hr
 have h5:=sc.nd.len;have h6:=sc.nf.len;have h7:=Bp (l.take i) (eN l i).1;have htk:=fR i l;have hF1:=Fy tr (n:=n) (st:=st) hx1 t0 t1 (i:=i) (by omega) (by omega) (by omega) (ns:=(eN l i).2.2.2.2.2.1) (by omega) sc.rd1 fx;have hF2:=Fy tr (n:=n) (st:=st) hx1 t0 t1 (i:=i) (by omega) (by omega) (by omega) (ns:=(eN l i).2.2.2.2.2.2) (by omega) sc.rd2 fx;have hE:lj (wn w l n st,c,(eN l i).1)=Z J:=Sg tr (j:=i-st) (by omega) hN sb (by rw[ej,h.s];exact en') (by rw[ej,h.s];exact rd') (by rw[ej];exact hF1);refine ⟨hN,?_⟩;have hge:aI gm (wE l n st) ((i-st:Nat):Int)=eN l i:=by
  have:=BT (l:=l) (n:=n) (st:=st) (j:=i-st) (by omega);rw[ej]at this;exact this
 have hw:(wn w l n st).2.2.2=wE l n st:=rfl;unfold yF be bA bM cE fe kZ ct dF c_ gy rY ck bj kw bV bJ lx aH;refine aX hE (dR (aX hN ?_));refine aP (by omega) (by dsimp only;rw[hw];omega) (aT ?_);dsimp only;rw[hw,hge];refine aX hF2 (aX (ax8 sb (by omega) (by omega) (by omega) (by omega) (by omega)) ?_);refine ay (HM w c.1 sb (by omega) (eN l i).1 (eN l i).2.1 (eN l i).2.2.1 (if (eN l i).2.1=18 then (eN l i).2.2.2.1 else -1)) ?_;rintro⟨y1,y2,y3⟩ ⟨hy1,_,hy3⟩;dsimp only at hy1 hy3;have y3t:=hy3 (Bc w c.1 sb (by omega) _ _ _ (by rw[h.s];exact en') (by rw[h.s];exact rd'));have hap:=(hy1 y3t).2.2.2;have hy:y1=(kT w (rS w l O i) (eN l i).1 (eN l i).2.1 (eN l i).2.2.1 (eN l i).2.2.2.1).1:=by
  have e:kT w c.1 (eN l i).1 (eN l i).2.1 (eN l i).2.2.1 (if (eN l i).2.1=18 then (eN l i).2.2.2.1 else -1)=kT w (rS w l O i) (eN l i).1 (eN l i).2.1 (eN l i).2.2.1 (eN l i).2.2.2.1:=by
   rw[h.s];by_cases k:(eN l i).2.1=18
   .rw[aC k]
   .rw[av k];exact Ye w _ _ _ _ _ _ k
  rw[<- e,<-hap]
 refine bP (by rw[dI];omega) (by omega) ?_;refine aV (λx=>x=(y1,0,eN l i,((eN l i).2.2.2.1,J),c.2.1,c.2.2.1,c.2.2.2.1++[((i-st:Nat):Int)],c.2.2.2.2.1,c.2.2.2.2.2)) (vh (ak rfl)) ?_;rintro x rfl;refine aV (λx=>U1 w l O st (l! (wE l n st)) (i+1) (x.1,x.2.2)) ?_ λx hx=>ak ⟨rfl,hx⟩
 dsimp only;have rdk:LG (eN l i)=(decide ((eN l i).2.1=3)||decide ((eN l i).2.1=23)):=rfl;have mk:∀{ce:Y j!} {fu:Y j!} {fx:θ} {wk:η},(ce=if (eN l i).2.1=4 then ca c.2.1 (eN l i).2.2.1 ((eN l i).2.2.2.1,J) else c.2.1)->(fu=if (eN l i).2.1=22 then ca c.2.2.1 (eN l i).2.2.1 ((eN l i).2.2.2.1,J) else c.2.2.1)->(fx=if LG (eN l i)=J then ca c.2.2.2.2.1 ((i-st:Nat):Int) J else c.2.2.2.2.1)->l! wk=l! (wE l n st)->U1 w l O st (l! (wE l n st)) (i+1) (y1,ce,fu,c.2.2.2.1++[((i-st:Nat):Int)],fx,wk):=λa1 a2 a3 a4=>U1.run tr h hi hst him L hy a1 a2 rfl a3 a4
 refine aK (λk3=>?_) λk3=>?_
 .have k3:(eN l i).2.1=3:=k3;let⟨A,o1⟩:=en.nm.ce (.inl k3);have I:((eN l i).2.2.1.toNat:Int)=(eN l i).2.2.1:=by omega
  have et:=kP tr hi;have ek:(cf l i).k=3:=by have:=et.k;omega
  have eo:=et.ob (by rw[ek];decide);have hcell:aI Pw c.2.1 (eN l i).2.2.1=((eN l i).2.2.2.1,J):=by
   have h1:=h.ce (eN l i).2.2.1.toNat (by omega) λs hs=>by
    have e2:(cf l i).ob=(eN l i).2.2.1.toNat:=by omega
    have q:YM l i:=⟨ek,by rw[e2,hs];omega⟩
    have:=hrd i hi L q;unfold YL at this;rw[e2,hs,cR]at this;exact this
   have h2:=sc.va.ld k3;rw[<- I,GD]at h2;rw[<- I,sL (T:=Pw),h2];exact h1
  rw[hcell];refine aP A (by omega) (aP A (by omega) (aT (vh (aP A (by omega) (aP A (by omega) (aT ?_))))));refine bl (pu.2 ⟨by omega,by omega⟩) (bl (pu.2 ⟨by omega,by omega⟩) (ak ?_));refine mk (by rw[av (by omega)]) (by rw[av (by omega)]) ?_ z;rw[rdk,aU k3,Bool.true_or,aC rfl,aU rfl]
 have k3:¬(eN l i).2.1=3:=k3;refine aK (λk23=>?_) λk23=>?_
 .have k23:(eN l i).2.1=23:=k23;let⟨A,o1⟩:=en.nm.fu (.inr k23);have I:((eN l i).2.2.1.toNat:Int)=(eN l i).2.2.1:=by omega
  have hcell:aI Pw c.2.2.1 (eN l i).2.2.1=((eN l i).2.2.2.1,J):=by
   have h1:=h.fu (eN l i).2.2.1.toNat (by omega) λk hk a b=>cl.ge i hi L k23 k hk a (b.trans I)
   have h2:=sc.va.gt k23;rw[<- I,GD]at h2;rw[<- I,sL (T:=Pw),h2];exact h1
  rw[hcell];refine aP A (by omega) (aP A (by omega) (aT (vh (aP A (by omega) (aP A (by omega) (aT ?_))))));refine bl (pu.2 ⟨by omega,by omega⟩) (bl (pu.2 ⟨by omega,by omega⟩) (ak ?_));refine mk (by rw[av (by omega)]) (by rw[av (by omega)]) ?_ z;rw[rdk,aU k23,Bool.or_true,aC rfl,aU rfl]
 have k23:¬(eN l i).2.1=23:=k23;have nr:¬LG (eN l i)=J:=by rw[rdk,dt k3,dt k23];decide
 refine aK (λk4=>?_) λk4=>?_
 .have k4:(eN l i).2.1=4:=k4;let⟨A,o1⟩:=en.nm.ce (.inr k4);exact bl (pu.2 ⟨A,by omega⟩) (bl (pu.2 ⟨A,by omega⟩) (ak (mk (by rw[aC k4]) (by rw[av (by omega)]) (by rw[av nr]) z)))
 have k4:¬(eN l i).2.1=4:=k4;refine aK (λk22=>?_) λk22=>?_
 .have k22:(eN l i).2.1=22:=k22;let⟨A,o1⟩:=en.nm.fu (.inl k22);exact bl (pu.2 ⟨A,by omega⟩) (bl (pu.2 ⟨A,by omega⟩) (ak (mk (by rw[av k4]) (by rw[aC k22]) (by rw[av nr]) z)))
 have k22:¬(eN l i).2.1=22:=k22;have oth:∀{wk:η},l! wk=l! (wE l n st)->U1 w l O st (l! (wE l n st)) (i+1) (y1,c.2.1,c.2.2.1,c.2.2.2.1++[((i-st:Nat):Int)],c.2.2.2.2.1,wk):=λhw=>mk (by rw[av k4]) (by rw[av k22]) (by rw[av nr]) hw
 refine aK (λ_=>?_) λ_=>?_
 .refine fK (λ_=>?_) λ_=>ak (oth z)
  exact bl (pu.2 ⟨by omega,by omega⟩) (bl (pu.2 ⟨by omega,by omega⟩) (ak (oth (by rw[bN];exact z))))
 refine aK (λ_=>?_) λ_=>ak (oth z)
 exact bl (pu.2 ⟨by omega,by omega⟩) (bl (pu.2 ⟨by omega,by omega⟩) (ak (oth (by rw[bN];exact z))))
end
def U9 {w:WT} (tr:TR (w,L)):pq w=Z (HS.zero w).t:=by
 have wb:=tr.wb;dsimp only at wb;exact amu w (by have:=wb.c;unfold BN;omega) (by have:=wb.l;unfold BN;omega) (by have:=wb.f;unfold BN;omega) (by have:=wb.t;unfold BN;omega)
def ao6 {w:WT} (tr:TR (w,L)) (hi:i<l! L):uA (w,(Rl w (L.take i)).t,eN L i)=Z ((Rl w (L.take (i+1))).t,LV w L i):=by
 have z:=tr.len;dsimp only at z;have:=ar8 (Ts tr i (by omega)).1 (by omega) (Nz tr hi) (kP tr hi);rw[Gq w hi];exact this
def tA (n:Nat) (f:Nat->R) (z:R) (i:Nat):Y R:=(dA n).map λk=>if k<i then f k else z
def ER (n:Nat) (f:Nat->R) (z:R) (i:Nat):l! (tA n f z i)=n:=by simp[tA]
def L_ {f:Nat->R} {z:R} (h:i<m):(tA m f z i).set i (f i)=tA m f z (i+1):=by
 unfold tA;apply em
 .simp
 intro k h1 A;simp only[fV,bx,qK]at h1;rw[List.getElem_set];simp only[List.getElem_map,List.getElem_range];by_cases e:i=k
 .subst e;rw[aC rfl,aC (by omega)]
 .rw[av e];by_cases g:k<i
  .rw[aC g,aC (by omega)]
  .rw[av g,av (by omega)]
def LA (n:Nat) (f:Nat->R) (z:R):tA n f z 0=aE n z:=by unfold tA;simp[List.map_const']
def YX (n:Nat) (f:Nat->R) (z:R):tA n f z n=(dA n).map f:=nu λk A=>by rw[aC (oX.1 A)]
abbrev csN (w:WT) (l:Y ET):Y η:=(dA (l! l)).map (LV w l)
def ai8 {w:WT} (tr:TR (w,L)):rm (w,L)=Z (csN w L,0):=by
 have z:=tr.len;dsimp only at z;refine cz ?_;unfold rm AE be ct ck bQ gO bV bJ aZ cP aH cL;refine aX (ax9 tr) (dR (aX (U9 tr) (cW (cW (dG (by dsimp only[aw];omega) (a? (a! ?_)))))));refine kJ (l! L) (by omega) (λi x=>x=((i:Int),(w,L),(Rl w (L.take i)).t,tA (l! L) (LV w L) [] i)) ?_ ?_ ?_
 .rintro i x hi rfl;refine c8 ?_;refine b_ (aT ?_);refine aX (ao6 tr hi) ?_;refine aP (by dsimp only;omega) (by dsimp only;rw[ER];omega) (aP (by dsimp only;omega) (by dsimp only;rw[ER];omega) (ak ?_));dsimp only;rw[gZ,eR,L_ hi]
 .rintro x rfl;refine c9 (ak ?_);dsimp only;rw[YX]
 .show _=_;rw[LA];rfl
def Rf (k j v:Int):∀m:Y ν,s9 (K:=.int .i64) (V:=.int .i64) j (Cc (K:=.int .i64) (V:=.int .i64) k v m)=if j=k then Z v else s9 (K:=.int .i64) (V:=.int .i64) j m
 |[]=>by
  show (if decide (j=k)=J then Z v else U)=_;by_cases h:j=k<;>simp[h,s9]
 |(a,b)::r=>by
  have z:=Rf k j v r;show s9 (K:=.int .i64) (V:=.int .i64) j (if decide (k=a)=J then (k,v)::r else (a,b)::Cc (K:=.int .i64) (V:=.int .i64) k v r)=if j=k then Z v else if decide (j=a)=J then Z b else s9 (K:=.int .i64) (V:=.int .i64) j r
  by_cases h:k=a
  .subst h;rw[aC (aU rfl)];show (if decide (j=k)=J then Z v else s9 (K:=.int .i64) (V:=.int .i64) j r)=_;by_cases g:j=k<;>simp[g]
  .rw[av (by simpa using h)];show (if decide (j=a)=J then Z b else s9 (K:=.int .i64) (V:=.int .i64) j (Cc (K:=.int .i64) (V:=.int .i64) k v r))=_;rw[z];by_cases g:j=a
   .subst g;rw[aC (aU rfl),av λq=>h q.symm,aC (aU rfl)]
   .simp only[g,dH,cO,dZ]
def W3 (l:Y ET) (i:Nat):ν:=((rP l (cf l i).th i:Int)+1,((cf l i).th:Int))
def Hn (l:Y ET) (u:Nat):∀i,rP l u i<=i
 |0=>bK _
 |i+1=>by have:=Hn l u i;rw[rP];split<;>omega
def Ph (c:η) (a:Int) (u:Nat):nL (c,a,(u:Int))=Z (decide (a<=c.getD u 0)):=by
 unfold nL;dsimp only;rw[Pj];rfl
def HS.tS (h:HS):I!:=(h.S,h.L,h.R,h.C,h.F,h.X,h.N,h.W)
def amt {w:xR} {h:HS} (o:UQ a h) (hn:a+1<=1000000) {e:EV} (ok:EOK w h e) {x:ETp} (hx:EvT e x):rH (w,h.t,x)=Z ((Jj w h e).1.tS,(Jj w h e).2,(Jj w h e).1.T):=by
 have s2:=Ys o ok hx;have hce:En (a+1) (wO w h e):=OL o ok.th4;have en:=W6 o hn ok hx hce;have cp:=R5 h.t o.GH;have sE:=Sy (w:=w) o e;have sl:=Jk w h e;have hlen:=xF w h e (wO w h e);let⟨x1,x2,x3,x4,x5,x6,x7⟩:=x;let⟨w1,w2,w3,I,A,z⟩:=w;have t1:=hx.th;subst t1;unfold HS.t at cp;have fT:ef (e.th:Int) (l! h.T)=J:=dc ok.th;unfold rH Dm HS.t zW HN be bA bM cE fe kZ vu Ac Pk Prod.t c_ gy rY Lu ck bQ wT bV aZ cP cL;rw[cp,dm];rw[cH fT,cH fT,s2,dm];rw[cH (by simp)];refine Iq (l! (s5 (w1,w2,w3,I,A,z) h e)) (by omega) (λi=>((i:Int),(w1,w2,w3,I,A,z),((e.th:Int),x2,x3,x4,x5,x6,x7),h.X,((s5 (w1,w2,w3,I,A,z) h e).take i).foldl jl (h.T.getD e.th []),h.T,h.S,h.L,h.R,h.C,h.F,h.N,h.W)) ?_ ?_ ?_
 .rfl
 .intro i hi;rw[xw (by grind),ep,cH (dc hi),pQ,(AJ _ _ (o.T e.th) (λy hy=>sE y (il hy))).join (sE _ (GF hi)),dm,rx hi (by omega),Np _ _ _ hi]
 .simp only[];rw[Bi (by simp),eY,fE (bK _)];have hl:=alu (w:=(w1,w2,w3,I,A,z)) o e e.th;rw[aex _ e.th (AJ _ _ (o.T e.th) sE).lb ok.th4 hl.1 hl.2,dm];unfold HS.e at en;unfold wO at en hlen;rw[en,dm];rw[cH (by simp_all)];rfl
def aj0 {w:WT} (tr:TR (w,L)) (C:CL w L d) (hi:i<l! L):rH (w,(yp w L d i).t,eN L i)=Z ((iD w (yp w L d i) (cf L i) (Pv w L d i)).tS,Pv w L d i,(iD w (yp w L d i) (cf L i) (Pv w L d i)).T):=by
 have z:=tr.len;dsimp only at z;exact amt (Tu tr C hi) (by omega) (Fn tr C hi) (kP tr hi)
def W7 (w:xR) (h:HS) {e:EV} (k:e.k=3) (c:η):iD w h e c={h with T:=h.T.set e.th c}:=by
 unfold iD
 grind
def Su {f:Nat->η} {k:Nat} (h:k<i) (g:k<m):aI (.sl (.int .i64)) (tA m f [] i) (k:Int)=f k:=by
 rw[pQ];unfold tA
 grind
abbrev mgI (u:Int) (m:Y ν):M Int:=s9 (K:=.int .i64) (V:=.int .i64) u m
def adb {v:Int} {m:Y ν} (h:mgI a m=Z v):KU (K:=.int .i64) (V:=.int .i64) a m=J/\Bh (K:=.int .i64) (V:=.int .i64) a m 0=v:=by
 have h:s9 (K:=.int .i64) (V:=.int .i64) a m=Z v:=h;unfold KU Bh;rw[h];exact⟨rfl,rfl⟩
def ap6 {m:Y ν} (h:mgI a m=U):KU (K:=.int .i64) (V:=.int .i64) a m=af:=by
 have h:s9 (K:=.int .i64) (V:=.int .i64) a m=U:=h;unfold KU;rw[h]
def Jl {w:WT} (tr:TR (w,L)):my (w,L)=Z ((dA (l! L)).map (oB w L),(dA (l! L)).map (nC w L),0):=by
 have hl:=tr.len;dsimp only at hl;have C:=US w L;refine cz ?_;unfold my xC be bA bM c_ ck bj bQ gO bJ lx aZ cP aH cL;refine aX (ai8 tr) (dR (aX (U9 tr) ?_));refine cW (cW (dG (by dsimp only[aw];omega) (a? (a! ?_))));refine cW (cW (dG (by dsimp only[aw];omega) (a? (a! ?_))));refine kJ (l! L) (by omega) (λi x=>x.1=(i:Int)/\x.2.1=(w,L)/\x.2.2.1=tA (l! L) (oB w L) [] i/\x.2.2.2.1=tA (l! L) (nC w L) [] i/\x.2.2.2.2.1=(yp w L (nC w L) i).t/\∀u:Nat,mgI (u:Int) x.2.2.2.2.2=if 0<=LL L u i then Z (LL L u i) else U) ?_ ?_ ?_
 .rintro i ⟨x,y,a,b,h,m⟩ hi ⟨e1,e2,e3,e4,e5,hm⟩;dsimp only at e1 e2 e3 e4 e5 hm;subst e1 e2 e3 e4 e5;have k1:∀{R α:Type} {f:Nat->α} {z:α} {j:Nat} {k:M R} {Q:R->Prop},Ok k Q->Ok (chk (ef (i:Int) (l! (tA (l! L) f z j))) λ_=>k) Q:=λh=>aP (by omega) (by rw[ER];omega) h
  have s1:ca (tA (l! L) (oB w L) [] i) (i:Int) (oB w L i)=tA (l! L) (oB w L) [] (i+1):=by rw[eR,L_ hi]
  have kb:=(auv tr C hi).lb;have kc:=(ab9 tr C hi).lb;have et:=kP tr hi;have hz:(eN L i).2.1=((cf L i).k:Int):=et.k;refine c8 (b_ (aT (aX (aj0 tr C hi) ?_)));dsimp only;rw[s1];refine k1 (k1 (k1 (k1 (aT ?_))));rw[Su (ox i) hi];refine aX (HK _ kb) (k1 (k1 ?_));refine aV (λx=>x.1=(w,L)/\x.2.1=tA (l! L) (oB w L) [] (i+1)/\x.2.2.1=tA (l! L) (nC w L) [] (i+1)/\(x.2.2.2.2.2,x.2.2.2.1)=((yp w L (nC w L) (i+1)).T,(yp w L (nC w L) (i+1)).tS)/\∀u:Nat,mgI (u:Int) x.2.2.2.2.1=if 0<=LL L u (i+1) then Z (LL L u (i+1)) else U) ?_ ?_
  .have sK:nC w L i=oB w L i->ca (tA (l! L) (nC w L) [] i) (i:Int) (oB w L i)=tA (l! L) (nC w L) [] (i+1):=λe=>by rw[<- e,eR,L_ hi]
   have hK:nC w L i=oB w L i->((iD w (yp w L (nC w L) i) (cf L i) (oB w L i)).T,(iD w (yp w L (nC w L) i) (cf L i) (oB w L i)).tS)=((yp w L (nC w L) (i+1)).T,(yp w L (nC w L) (i+1)).tS):=λe=>by rw[yp,e]
   have hls:¬(cf L i).k=4->∀u,LL L u (i+1)=LL L u i:=λk u=>by rw[LL,av λq=>k q.1]
   refine aK (λA=>?_) λA=>aK (λI=>ak ?_) λI=>ak ?_
   .have A:(eN L i).2.1=3:=A;have A:(cf L i).k=3:=by omega
    have ob:(eN L i).2.2.1=((cf L i).ob:Int):=et.ob (by rw[A];decide);change Ok (aJ (KU (K:=.int .i64) (V:=.int .i64) (eN L i).2.2.1 m) _ _) _;have hmo:=hm (cf L i).ob;by_cases q:0<=LL L (cf L i).ob i
    .have rd:YM L i:=⟨A,q⟩
     have hs:=H3 rd;have hsl:YL L i<l! L:=by omega
     have er:LL L (cf L i).ob i=(YL L i:Int):=by unfold YL;omega
     rw[aC q,er]at hmo;rw[<- ob]at hmo;refine qu (adb hmo).1 ?_;have e5:aI (.sl (.int .i64)) (ca (tA (l! L) (nC w L) [] i) (i:Int) (oB w L i)) (YL L i:Int)=nC w L (YL L i):=by
      rw[eR,pQ,wI,av λq=>by omega];have:=Su (f:=nC w L) hs hsl;rw[pQ]at this;exact this
     have l:nC w L i=jl (oB w L i) (nC w L (YL L i)):=by rw[EU,aC rd]
     have e7:ca (ca (tA (l! L) (nC w L) [] i) (i:Int) (oB w L i)) (i:Int) (jl (oB w L i) (nC w L (YL L i)))=tA (l! L) (nC w L) [] (i+1):=by rw[<- l,eR,eR,List.set_set,L_ hi]
     have ln:l! (ca (tA (l! L) (nC w L) [] i) (i:Int) (oB w L i))=l! L:=by rw[bN,ER]
     have kd:=(ab9 tr C hsl).lb;refine k1 (k1 (aT ?_));rw[(adb hmo).2];refine aP (by omega) (by rw[ln];omega) (aP (by omega) (by rw[ln];omega) (aT ?_));rw[e5];refine aX (af4 _ _ kb kd) (aP (by omega) (by rw[ln];omega) (aP (by omega) (by rw[ln];omega) ?_));rw[e7];refine k1 (k1 (aT ?_));rw[Su (ox i) hi];have et1:(eN L i).1=((cf L i).th:Int):=et.th;have hth:(cf L i).th<(iD w (yp w L (nC w L) i) (cf L i) (Pv w L (nC w L) i)).T.length:=by rw[(xF ..).1];exact (Fn tr C hi).th
     refine aX (HK _ kc) (aP (j:=(eN L i).1) (by omega) (by omega) (aP (j:=(eN L i).1) (by omega) (by omega) (ak ⟨rfl,rfl,rfl,?_,λu=>?_⟩)))
     .dsimp only;rw[show (aI gm L (i:Int)).1=((cf L i).th:Int) from et1,eR,yp,W7 _ _ A,W7 _ _ A];simp only[List.set_set];rfl
     .rw[hls (by omega)];exact hm u
    .rw[av q,<-ob]at hmo;have nr:¬YM L i:=λr=>q r.2
     have l:nC w L i=oB w L i:=by rw[EU,av nr]
     refine jJ (ap6 hmo) (ak ⟨rfl,rfl,sK l,hK l,λu=>?_⟩);rw[hls (by omega)];exact hm u
   .have I:(eN L i).2.1=4:=I;have I:(cf L i).k=4:=by omega
    have l:nC w L i=oB w L i:=asd (by omega);have ob:(aI gm L (i:Int)).2.2.1=((cf L i).ob:Int):=et.ob (by rw[I];decide);refine ⟨rfl,rfl,sK l,hK l,λu=>?_⟩;dsimp only;rw[ob];unfold mgI;rw[Rf];by_cases q:(cf L i).ob=u
    .have e:LL L u (i+1)=i:=by rw[LL,aC ⟨I,q⟩]
     rw[e,aC (by omega),aC (by omega)]
    .have e:LL L u (i+1)=LL L u i:=by rw[LL,av λr=>q r.2]
     rw[e,av (by omega)];exact hm u
   .have I:¬(eN L i).2.1=4:=I;have A:¬(eN L i).2.1=3:=A;have l:nC w L i=oB w L i:=asd (by omega)
    grind
  rintro⟨x1,x2,x3,x4,x5,x6⟩ ⟨f1,f2,f3,f4,f5⟩;dsimp only at f1 f2 f3 f4 f5;subst f1 f2 f3;obtain⟨rfl,rfl⟩:=aQ .. ▸f4;exact ak ⟨gZ,rfl,rfl,rfl,rfl,f5⟩
 .rintro⟨x,y,a,b,h,m⟩ ⟨e1,e2,e3,e4,e5,hm⟩;dsimp only at e1 e2 e3 e4 e5 hm;subst e1 e2 e3 e4;refine c9 (ak ?_);dsimp only;rw[YX,YX]
 .refine ⟨rfl,rfl,?_,?_,rfl,λu=>rfl⟩
  .dsimp only;rw[LA];rfl
  .dsimp only;rw[LA];rfl
def ais {w:WT} (tr:TR (w,L)) (A:i<l! L) (z:m<l! L):(eN L i).1=(eN L m).1↔(cf L i).th=(cf L m).th:=by
 have:=(kP tr A).th;have:=(kP tr z).th;omega
def acB (e:EV):Bool:=decide (e.k=3\/e.k=4)
def fL (p:Nat->Bool) (i:Nat):η:=((dA i).filter p).map aS
def ai7:rA=nL:=rfl
def cnB (l:Y ET) (a b:Nat):Bool:=decide (¬(cf l a).th=(cf l b).th/\acB (cf l a)=J/\acB (cf l b)=J/\(cf l a).ob=(cf l b).ob/\((cf l a).k=4\/(cf l b).k=4))
def O2 {w:WT} (tr:TR (w,L)) (z:i<l! L) (h:acB (cf L i)=J):(eN L i).2.2.1=((cf L i).ob:Int):=(kP tr z).ob (by rcases bi h with h|h<;>rw[h]<;>decide)
def ahu {w:WT} (tr:TR (w,L)) (z:i<l! L):uj (L,(i:Int))=Z (rP L (cf L i).th i:Int):=by
 have A:=tr.len;dsimp only at A;refine cz ?_;unfold uj bj bQ bJ cP aH cL;refine b9 i (λj x=>x=((rP L (cf L i).th j:Int),(j:Int))) ?_ ?_ rfl
 .rintro j x hi rfl;have I:=Hn L (cf L i).th j;refine c8 ?_;refine aV (λx=>x=(rP L (cf L i).th (j+1):Int)) ?_ ?_
  .rw[rP];refine b_ (aT (b_ (aT (aK (λh=>ak ?_) λh=>ak ?_))))
   .rw[aC ((ais tr (show j<l! L by omega) z).1 h)];exact gZ
   .rw[av λq=>h ((ais tr (show j<l! L by omega) z).2 q)]
  rintro x rfl;refine ak ?_;rw[gZ]
 .rintro x rfl;exact c9 (ak rfl)
def ac8 {w:WT} (tr:TR (w,L)) (z:i<l! L):vy (L,(i:Int))=Z (W3 L i):=by
 have A:=tr.len;dsimp only at A;have I:=Hn L (cf L i).th i;refine cz ?_;refine aX (ahu tr z) (b_ (aT (ak ?_)));rw[(kP tr z).th,gr,Int.add_comm];rfl
def rcB (w:WT) (l:Y ET) (cl:Nat->η) (a b:Nat):Bool:=cnB l a b&&(!BU w.1 (cf l b).ob&& !decide ((rP l (cf l a).th a:Int)+1<=(cl b).getD (cf l a).th 0))
def rI (w:WT) (l:Y ET) (cl:Nat->η) (b:Nat):Nat->Y ν
 |0=>[]
 |i+1=>if rcB w l cl i b=J then rI w l cl b i++[((i:Int),(b:Int))] else rI w l cl b i
def rO (w:WT) (l:Y ET) (cl:Nat->η):Nat->Y ν
 |0=>[]
 |b+1=>rO w l cl b++rI w l cl b b
def Ze (w:WT) (l:Y ET) (cl:Nat->η) (b:Nat):∀i,l! (rI w l cl b i)<=i
 |0=>bK _
 |i+1=>by
  have:=Ze w l cl b i;rw[rI];split
  .grind
  .omega
def Zc (w:WT) (l:Y ET) (cl:Nat->η):∀b,b<=1000->l! (rO w l cl b)<=b*1000
 |0,_=>iQ _
 |b+1,h=>by
  have:=Zc w l cl b (by omega);have:=Ze w l cl b b;rw[rO,bH];omega
def Zd {w:WT} {p:ν}:∀b,p∈rI w L d i b->∃a:Nat,a<b/\rcB w L d a i=J/\p=((a:Int),(i:Int))
 |b+1,h=>by
  rw[rI]at h;split at h
  .rename_i q;rcases cq.1 h with h|h
   .obtain⟨a,h1,z⟩:=Zd b h;exact⟨a,by omega,z⟩
   .grind
  .obtain⟨a,h1,z⟩:=Zd b h;exact⟨a,by omega,z⟩
def aji {w:WT} {p:ν}:∀n,p∈rO w L d n->∃a b:Nat,a<b/\b<n/\rcB w L d a b=J/\p=((a:Int),(b:Int))
 |n+1,h=>by
  rcases cq.1 h with h|h
  .obtain⟨a,b,h1,z,A⟩:=aji n h;exact⟨a,b,h1,by omega,A⟩
  .obtain⟨a,h1,z⟩:=Zd n h;exact⟨a,n,h1,by omega,z⟩
def aq6 (h:i<l! L):aI (.sl (.int .i64)) ((dA (l! L)).map d) (i:Int)=d i:=by
 rw[pQ,aD,bE,List.getElem?_range h];rfl
abbrev c4 (l:Y ET) (i:Nat):q!:=((rP l 0 i:Int),(rP l 1 i:Int),(rP l 2 i:Int),(rP l 3 i:Int))
def th4 {t:Nat} (h:t<4):t=0\/t=1\/t=2\/t=3:=by omega
def VF {w:WT} (tr:TR (w,L)) (I:i<l! L):ma (w,eN L i)=Z (acB (cf L i)&& !BU w.1 (cf L i).ob):=by
 refine cz ?_;have l:=kP tr I;have kj:(eN L i).2.1=((cf L i).k:Int):=l.k;have vol:acB (cf L i)=J->∀{Q:Bool->Prop},(Q (!BU w.1 (cf L i).ob))->Ok (chk (ef (eN L i).2.2.1 (aj w.1)) λ_=>lt (aI kF w.1 (eN L i).2.2.1) λz=>Z (bL (!z.2.2.2.1))) (jnQ (R:=Bool) (λx=>Z x) Q):=λA {Q} q=>by
  have ce:=((Nz tr I).ce (bi A)).2;rw[O2 tr I A];refine b_ (aT (ak ?_));exact ak q
 refine VN (aK (λh=>?_) λh=>aK (λg=>?_) λg=>ak (ak ?_))
 .have h:(eN L i).2.1=3:=h;have A:acB (cf L i)=J:=aU (by omega)
  grind
 .have g:(eN L i).2.1=4:=g;have A:acB (cf L i)=J:=aU (by omega)
  grind
 .have h:¬(eN L i).2.1=3:=h;have g:¬(eN L i).2.1=4:=g;have A:acB (cf L i)=af:=dt (by omega);rw[A];rfl
def aep {t:Nat} (h:(cf L i).th=t) (ht:t<4):c4 L (i+1)=(if t=0 then (rP L 0 i:Int)+1 else rP L 0 i,if t=1 then (rP L 1 i:Int)+1 else rP L 1 i,if t=2 then (rP L 2 i:Int)+1 else rP L 2 i,if t=3 then (rP L 3 i:Int)+1 else rP L 3 i):=by
 have key:∀u,(rP L u (i+1):Int)=if t=u then (rP L u i:Int)+1 else rP L u i:=λu=>by
  rw[rP,h];split<;>simp
 grind
def af9 (h:i<m):aI gm (L.take m) (i:Int)=eN L i:=by
 show _=aI gm L (i:Int);rw[sL,sL,aD,fd,aC h,aD]
def ajj {w:WT} (h:∀a,rcB w L d a i=af):∀b,rI w L d i b=[]
 |0=>rfl
 |b+1=>by rw[rI,av (by grind)];exact ajj h b
def ao5 {f:Nat->ν} {k:Nat} (h:k<i) (g:k<m):aI (.st (.pr (.int .i64) (.int .i64))) (tA m f (0,0) i) (k:Int)=f k:=by
 rw[sL];unfold tA
 grind
def Y3 {w:WT} (tr:TR (w,L)):oF (w,L)=Z (rO w L (oB w L) (l! L),0):=by
 have hl:=tr.len;dsimp only at hl;refine cz ?_;unfold oF Az be bA bM cE fe kZ ct dF c_ ck bj bQ gO bV bJ lx aZ cP aH cL;refine aX (Jl tr) (dR (cW (cW (dG (by dsimp only[aw];omega) (a? (a! ?_))))));refine kJ (l! L) (by omega) (λb x=>x=((b:Int),(w,L),c4 L b,tA (l! L) (W3 L) (0,0) b,rO w L (oB w L) b)) ?_ ?_ ?_
 .rintro b x I rfl;have hO:=Zc w L (oB w L) b (by omega);have et:=kP tr I;have th:(eN L b).1=((cf L b).th:Int):=et.th;have kb:(eN L b).2.1=((cf L b).k:Int):=et.k;have t4:=(Nz tr I).th4;have cle:=λu=>Hn L u b
  refine c8 ?_;refine aV (λx=>x=((w,L),c4 L (b+1),tA (l! L) (W3 L) (0,0) (b+1),rO w L (oB w L) (b+1))) ?_ ?_
  .refine b_ (aT ?_);refine aV (λx=>x=((w,L),c4 L (b+1),tA (l! L) (W3 L) (0,0) b,rO w L (oB w L) b,eN L b)) ?_ ?_
   .have fin:∀t:Nat,t<4->(aI gm L (b:Int)).1=(t:Int)->(cf L b).th=t:=λt _ h=>by
     have h:(eN L b).1=(t:Int):=h;omega
    have ee:∀t:Nat,(cf L b).th=t->((t:Int),(aI gm L (b:Int)).2)=eN L b:=λt h=>by
     show _=aI gm L (b:Int);rw[<- h,<-th]
    have w1:∀u,a_ .i64 ((rP L u b:Int)+1)=(rP L u b:Int)+1:=λu=>gr (by omega) (by have:=cle u;omega)
    refine aK (λq=>ak ?_) λq0=>aK (λq=>ak ?_) λq1=>aK (λq=>ak ?_) λq2=>aK (λq=>ak ?_) λq3=>?_
    .have h:=fin 0 (by omega) q;rw[aep h (by omega),<-ee 0 h];dsimp only;rw[w1];rfl
    .have h:=fin 1 (by omega) q;rw[aep h (by omega),<-ee 1 h];dsimp only;rw[w1];rfl
    .have h:=fin 2 (by omega) q;rw[aep h (by omega),<-ee 2 h];dsimp only;rw[w1];rfl
    .have h:=fin 3 (by omega) q;rw[aep h (by omega),<-ee 3 h];dsimp only;rw[w1];rfl
    .grind
   rintro x rfl;refine aV (λx=>x=((w,L),c4 L (b+1),tA (l! L) (W3 L) (0,0) (b+1),rO w L (oB w L) b,eN L b)) ?_ ?_
   .have co:=xN L b;have fin:∀t:Nat,(eN L b).1=(t:Int)->((w,L),c4 L (b+1),ca (tA (l! L) (W3 L) (0,0) b) (b:Int) ((rP L t (b+1):Int),(t:Int)),rO w L (oB w L) b,(t:Int),(eN L b).2)=((w,L),c4 L (b+1),tA (l! L) (W3 L) (0,0) (b+1),rO w L (oB w L) b,eN L b):=λt h=>by
     have e:t=(cf L b).th:=by omega
     have e2:((rP L t (b+1):Int),(t:Int))=W3 L b:=by
      unfold W3;rw[e,co];rfl
     rw[e2,eR,L_ I,<-h]
    have k1:∀{R:Type} {k:M R} {Q:R->Prop},Ok k Q->Ok (chk (ef (b:Int) (l! (tA (l! L) (W3 L) (0,0) b))) λ_=>k) Q:=λh=>aP (by omega) (by rw[ER];omega) h
    refine aK (λq=>k1 (k1 (ak (fin 0 q)))) λq0=>aK (λq=>k1 (k1 (ak (fin 1 q)))) λq1=>aK (λq=>k1 (k1 (ak (fin 2 q)))) λq2=>aK (λq=>k1 (k1 (ak (fin 3 q)))) λq3=>?_
    grind
   rintro x rfl;refine aX (VF tr I) (eC (λhp=>ak ?_) λhp=>?_)
   .have:∀a,rcB w L (oB w L) a b=af:=λa=>by
     cases l:rcB w L (oB w L) a b with
     |false=>rfl
     |true=>
      unfold rcB at l;let⟨h1,A⟩:=dX.1 l;let⟨A,_⟩:=dX.1 A;have h1:=(bi h1).2.2.1;rw[h1,A]at hp;cases hp
    rw[rO,ajj this,kQ]
   let⟨hpa,hpv⟩:=dX.1 hp;refine cW (a? (a? ?_));refine kJ b (by omega) (λa x=>x=((a:Int),(w,L),c4 L (b+1),tA (l! L) (W3 L) (0,0) (b+1),rO w L (oB w L) b++rI w L (oB w L) b a,eN L b)) ?_ ?_ ?_
   .rintro a x ha rfl;have z:a<l! L:=by omega
    have hI:=Ze w L (oB w L) b a;have eta:=kP tr z;have tha:(eN L a).1=((cf L a).th:Int):=eta.th;have ka:(eN L a).2.1=((cf L a).k:Int):=eta.k;have htk:l! (L.take b)=b:=by rw[bR];omega
    refine c8 ?_ (by grind);refine aV (λx=>x=((w,L),c4 L (b+1),tA (l! L) (W3 L) (0,0) (b+1),rO w L (oB w L) b++rI w L (oB w L) b (a+1),eN L b)) ?_ ?_
    .refine aP (by dsimp only;omega) (by dsimp only;rw[show aO (b:Int)=b from cR b,htk];omega) (aT ?_);dsimp only;rw[show aO (b:Int)=b from cR b,af9 ha];refine aV (λx=>x=((cnB L a b&& !BU w.1 (cf L b).ob),(w,L),c4 L (b+1),tA (l! L) (W3 L) (0,0) (b+1),rO w L (oB w L) b++rI w L (oB w L) b a,eN L b)) ?_ ?_
     .refine aX (VF tr z) (aR (λh=>?_) λh=>ak ?_)
      .obtain⟨h1,A⟩:=dX.1 h;have fin:∀{v:Bool},v=cnB L a b->(v,(w,L),c4 L (b+1),tA (l! L) (W3 L) (0,0) (b+1),rO w L (oB w L) b++rI w L (oB w L) b a,eN L b)=((cnB L a b&& !BU w.1 (cf L b).ob),(w,L),c4 L (b+1),tA (l! L) (W3 L) (0,0) (b+1),rO w L (oB w L) b++rI w L (oB w L) b a,eN L b):=λ{v} e=>by rw[e,hpv,Bool.and_true]
       have oa:=O2 tr z h1;have ob:=O2 tr I hpa;unfold cnB at fin ⊢;refine aK (λg=>bU (λf=>aK (λe=>ak (fin ?_)) λe=>ak (fin ?_)) λf=>ak (fin ?_)) λg=>ak (fin ?_)
       .grind
       .grind
       .grind
       .grind
      .have e:(cnB L a b&& !BU w.1 (cf L b).ob)=af:=by
        cases l:(cnB L a b&& !BU w.1 (cf L b).ob) with
        |false=>rfl
        |true=>
         let⟨h1,A⟩:=dX.1 l;have h1:=bi h1;rw[h1.2.1,h1.2.2.2.1,A]at h;cases h
       rw[e]
     rintro x rfl;refine aV (λx=>x=(rcB w L (oB w L) a b,(w,L),c4 L (b+1),tA (l! L) (W3 L) (0,0) (b+1),rO w L (oB w L) b++rI w L (oB w L) b a,eN L b)) ?_ ?_
     .unfold rcB;refine aR (λh=>?_) λh=>ak ?_
      .obtain⟨h1,A⟩:=dX.1 h;refine aP (by omega) (by rw[bx,qK];omega) (aT (aP (by omega) (by rw[ER];omega) (aP (by omega) (by rw[ER];omega) (aT ?_))));dsimp only;rw[aq6 I,ao5 (show a<b+1 by omega) z];refine aX (Ph _ _ _) (ak ?_);rw[h1,A];rfl
      .dsimp only at h ⊢;rw[<- Bool.and_assoc,h];rfl
     rintro x rfl;rw[rI];refine aR (λh=>bP ?_ (by omega) (ak ?_)) λh=>ak ?_
     .dsimp only;rw[bH,dI];omega
     .dsimp only;rw[aC h,mC]
     .dsimp only at h ⊢;rw[av (by rw[h];decide)]
    rintro x rfl;refine ak ?_;dsimp only;rw[gZ]
   .rintro x rfl;refine c9 (ak ?_) (by grind);dsimp only;rw[rO]
   .rw[rI,kQ];rfl
  rintro x rfl;refine ak ?_;dsimp only;rw[gZ]
 .rintro x rfl;exact c9 (ak rfl)
 .show _=_;rw[LA];rfl
section
variable {w:WT} {l:Y ET} (tr:TR (w,l)) {n st:Nat}
include tr
def act (cl:ClD w l O) {c:CFt} (h:U1 w l O st (l! (wE l n st)) (st+l! (wE l n st)) c) (hsl:st<=l! l) (hst:st<=i) (hX:i<st+l! (wE l n st)) (nX:¬O i) (I:EC l O (eN l i).1 i) (k:(eN l i).2.1=3\/(eN l i).2.1=4):qY (wn w l n st,c,((i-st:Nat):Int))=Z J:=by
 have hl:l! l<=400:=tr.len;have hlen:=Af l n st;have hXl:i<l! l:=by omega
 have sc:=tr.sc hXl;have en:=sc.en;have S:=sim tr cl (st+l! (wE l n st)) (by omega);have A:st+(i-st)=i:=by omega
 have ho1:=h.o1;have hN:ki (wn w l n st,c,(eN l i).1)=Z ((i-st:Nat):Int):=by
  refine amx tr (by omega) (by omega) (by rw[A]) (λq=>?_) λL hj' e=>?_
  .have:=((h.o (i-st)).1 q).1;rw[A]at this;exact nX this
  .exact (h.o L).2 ⟨I (st+L) (by omega) e,by omega⟩
 have h5:=sc.nd.len;have h7:=Bp (l.take i) (eN l i).1;have htk:=fR i l;have hF:=Fy tr (n:=n) (st:=st) h.x1 en.t0 en.t1 (i:=i) (by omega) (by omega) hsl (ns:=(eN l i).2.2.2.2.2.1) (by omega) sc.rd1 λp h0 h1 e hr=>h.fx p h0 (by omega) (I p h1 e) hr
 have s2:(gT (rS w l O (st+l! (wE l n st))).2.2.2 (eN l i).1).1=2:=by
  have:=axy tr cl hXl (by omega) (by omega) nX I (st+l! (wE l n st)-i) (by omega);rw[show i+(st+l! (wE l n st)-i)=st+l! (wE l n st) by omega]at this;exact this
 have hE:lj (wn w l n st,c,(eN l i).1)=Z J:=by
  refine Sg tr (j:=i-st) (by omega) hN (by rw[h.s];exact asi tr cl (by omega)) ?_ ?_ (by rw[A];exact hF)
  .rw[A,h.s];exact⟨en.nm,en.t0,en.t1,en.cd,S.e1,S.e2,S.e3⟩
  .rw[A,h.s];exact⟨λz=>by omega,λz=>by omega,λ_ _=>s2,λz=>by omega,λz=>by omega,λz=>by omega,λz=>by omega,λz=>by omega,λz=>by omega,λz=>by omega,λz=>by omega,λz=>by omega,λz=>by omega,λz=>by omega,λz=>by omega,λz=>by omega,λz=>by omega⟩
 have hge:aI gm (wE l n st) ((i-st:Nat):Int)=eN l i:=by
  have:=BT (l:=l) (n:=n) (st:=st) (j:=i-st) (by omega);rw[A]at this;exact this
 have hw:(wn w l n st).2.2.2=wE l n st:=rfl;refine cz ?_;unfold qY ct bj bJ aH;refine aP (by dsimp only;omega) (by dsimp only;rw[hw];omega) (aT ?_);dsimp only;rw[hw,hge];refine aV (λx=>x=J) ?_ λx hx=>ak hx
 refine aX hN (aK (λ_=>aX hE (ak rfl)) λz=>bT rfl z)
omit tr in
def in20 (a b:Int):vz (a,b)=Z (decide (0<=a/\a<b)):=Rk a b
def ar4 (hA:st<=i) (hAB:i<m) (hB:m<st+l! (wE l n st)) (ka:(eN l i).2.1=3\/(eN l i).2.1=4) (kb:(eN l m).2.1=3\/(eN l m).2.1=4) (ht:¬(eN l i).1=(eN l m).1) (ho:(eN l i).2.2.1=(eN l m).2.2.1) (hs:(eN l i).2.1=4\/(eN l m).2.1=4) (hv:(aI kF w.1 (eN l i).2.2.1).2.2.2.1=af):vZ (wn w l n st,1,((i-st:Nat):Int),((m-st:Nat):Int),0,0,[])=Z J:=by
 have hl:l! l<=400:=tr.len;have hlen:=Af l n st;have hge:∀X:Nat,st<=X->X<st+l! (wE l n st)->aI gm (wE l n st) ((X-st:Nat):Int)=eN l X:=λX h0 h1=>by
  have:=BT (l:=l) (n:=n) (st:=st) (j:=X-st) (by omega);rw[show st+(X-st)=X by omega]at this;exact this
 have hw:(wn w l n st).2.2.2=wE l n st:=rfl;have acc:∀e:ET,rB e=Z (decide (e.2.1=3\/e.2.1=4)):=λe=>by
  refine cz ?_;unfold rB bj aH;refine aV (λx=>x=decide (e.2.1=3\/e.2.1=4)) ?_ λx I=>ak I
  refine aK (λg=>ak ?_) λg=>ak ?_
  .exact (aU (Or.inl g)).symm
  .have g:¬e.2.1=3:=g;show decide (e.2.1=4)=_;simp[g]
 have cnf:ly (eN l i,eN l m)=Z J:=by
  refine cz ?_;unfold ly be bA bj aH;refine aV (λx=>x=J) ?_ λx I=>ak I
  refine aX (acc _) (aK (λ_=>?_) λz=>bT ka z);refine aX (acc _) (aK (λ_=>?_) λz=>bT kb z);refine aK (λ_=>?_) λz=>bT ho z
  refine aK (λ_=>ak rfl) λz=>ak ?_
  have z:¬(eN l i).2.1=4:=z;exact aU (hs.resolve_left z)
 have race:yE (wn w l n st,1,((i-st:Nat):Int),((m-st:Nat):Int),0,0,[])=Z J:=by
  refine cz ?_;unfold yE be bA bM cE ct gy bj bQ gO bJ aZ aH;refine aP (by dsimp only;omega) (by dsimp only;rw[hw];omega) (aT (aP (by dsimp only;omega) (by dsimp only;rw[hw];omega) (aT ?_)));dsimp only;rw[hw,hge i hA (by omega),hge m (by omega) hB];refine aV (λx=>x=J) ?_ λx I=>ak I
  refine c8 (vh (vh (vh (bU (λ_=>?_) λz=>bT z ht))));refine aX cnf (vh ?_);let⟨o0,o1⟩:=(tr.sc (show i<l! l by omega)).en.nm.ce ka;refine aP o0 o1 (aT (ak ?_));have L:(aI kF (wn w l n st).1.1 (eN l i).2.2.1).2.2.2.1=af:=hv;dsimp only at L ⊢;rw[L];rfl
 refine cz ?_;unfold vZ be bA bM cE ct bj aZ aH;refine dR (aV (λx=>x=(af,wn w l n st,1,((i-st:Nat):Int),((m-st:Nat):Int),0,0,[])) ?_ ?_)
 .have d:∀X:Int,0<=X->X<(l! (wE l n st):Int)->vz (X,aS (wn w l n st).2.2.2.length)=Z J:=λX h0 h1=>by
   rw[in20];rw[aU ⟨h0,h1⟩]
  exact aX (d ((i-st:Nat):Int) (by omega) (by omega)) (dR (aX (d ((m-st:Nat):Int) (by omega) (by omega)) (dR (aX (d 0 (by omega) (by omega)) (dR (aX (d 0 (by omega) (by omega)) (ak rfl)))))))
 rintro x rfl;exact dR (vh (aX race (ak rfl)))
def arw (cl:ClD w l O) {c:CFt} (h:U1 w l O st (l! (wE l n st)) (st+l! (wE l n st)) c) (hsl:st<=l! l) (hA:st<=i) (hAB:i<m) (L:m<st+l! (wE l n st)) (nA:¬O i) (nB:¬O m) (cA:EC l O (eN l i).1 i) (cB:EC l O (eN l m).1 m) (I:(eN l i).2.1=3\/(eN l i).2.1=4) (z:(eN l m).2.1=3\/(eN l m).2.1=4) (ht:¬(eN l i).1=(eN l m).1) (ho:(eN l i).2.2.1=(eN l m).2.2.1) (hs:(eN l i).2.1=4\/(eN l m).2.1=4) (hv:(aI kF w.1 (eN l i).2.2.1).2.2.2.1=af):Aq (wn w l n st,c,1,((i-st:Nat):Int),((m-st:Nat):Int),0,0,[])=Z J:=by
 refine cz ?_;refine aX (ar4 tr hA hAB L I z ht ho hs hv) (dR (vh ?_));refine aV (λx=>x=J) ?_ λx hx=>ak hx
 exact aX (act tr cl h hsl hA (by omega) nA cA I) (vh (aX (act tr cl h hsl (by omega) L nB cB z) (ak rfl)))
end
def aqt:vA ()=Z J:=by kernel_rfl
def aiq (P:Program) (f:Ty->TypeId->Bool):Y Field->Nat->Ty->Bool
 |[],_,.un=>J
 |[x],off,T=>aA x.offset off&&f T x.type&&aA (P.cellsOf x.type) T.size
 |x::y::r,off,.pr a b=>aA x.offset off&&f a x.type&&aA (P.cellsOf x.type) a.size&&aiq P f (y::r) (off+a.size) b
 |_,_,_=>af
def af8 (P:Program) (f:Ty->TypeId->Bool) (e:TypeId):Nat->Ty->Bool
 |1,T=>f T e&&aA (P.cellsOf e) T.size
 |m+2,.pr a b=>f a e&&aA (P.cellsOf e) a.size&&af8 P f e (m+1) b
 |_,_=>af
def EP (P:Program):Nat->Ty->TypeId->Bool
 |0,_,_=>af
 |n+1,T,t=>match T,P.underlying t with
  |.int k,Z (.int z)=>k==z
  |.bool,Z .bool=>J
  |.str,Z .string=>J
  |.sl y,Z (.slice e)=>EP P n y e&&aA (P.cellsOf e) y.size&&eK 0 y.size
  |.st y,Z (.struct A)=>aiq P (EP P n) A.toList 0 y&&aA (P.cellsOf t) y.size
  |.st y,Z (.array m e)=>af8 P (EP P n) e m y&&aA (P.cellsOf t) y.size
  |_,_=>af
def wfT:(T:Ty)->T.den->Prop
 |.int k,n=>(Lit.int k n).wf=J
 |.str,s=>aj s<=maxLen
 |.sl y,xs=>aj xs<=maxLen/\∀x∈(xs:Y y.den),wfT y x
 |.st t,v=>wfT t v
 |.pr a b,v=>wfT a v.1/\wfT b v.2
 |_,_=>True
def O8 (W:World) (T:Ty) (x:T.den) (cs:ξ):Prop:=l! cs=T.size/\∀(j:Nat) y v,(bI T x)[j]? =Z y->cs[j]? =Z v->nS (λ_=>False) W y v
def ON (z:R) (P:Nat->R->Prop):∀n:Nat,(∀i,i<n->∃a,P i a)->∃l:Y R,l! l=n/\∀i x,l[i]? =Z x->P i x
 |0,_=>⟨[],rfl,λi x h=>by simp at h⟩
 |n+1,h=>by
  let⟨l,A,hp⟩:=ON z P n (λi hi=>h i (by omega));let⟨a,L⟩:=h n (by omega);refine ⟨l++[a],by simp[A],λi x I=>?_⟩
  grind
def Addr.add_plain {a:Addr} (h:a.spot=U) (n:Nat):a.add n=⟨a.block,a.off+n,U⟩:=by
 unfold Addr.add;split
 next h0=>subst h0;cases a;subst h;rfl
 .rfl
variable {v:Value} {W:World}
def ahj {a:Addr} (h:W.cell? a=Z v):a.spot=U:=by
 unfold Sj at h;split at h
 .simp_all
 .cases h
variable {E:ξ}
def O8.sub {x:S.den} {n:Nat} (h:O8 W S x ((E.drop i).take n)) (I:n=S.size) (L:i+n<=l! E):∀(j:Nat) y v,(bI S x)[j]? =Z y->E[i+j]? =Z v->nS (λ_=>False) W y v:=λj y v z A=>by
 refine h.2 j y v z ?_;have hj:j<S.size:=by have:=(bz.1 z).1;rwa [bk]at this
 grind
section
variable {H:Type} {enc:TypeId×Value->H} {P:Program} {W:World} {base:Nat} {sp:Nat->Bool} {hd:Bool}
def ad2 {f:Ty->TypeId->Bool} (ih:∀(T:Ty) (t:TypeId) (cs:ξ) x,f T t=J->DataW.trod enc P W base sp hd m t cs=Z x->∃v,O8 W T v cs/\wfT T v) (cs:ξ) (ts:Y (DataW H×Y MemPlace)):
 ∀(fs:Y Field) (off k:Nat) (T:Ty),aiq P f fs off T=J->off+T.size<=l! cs->(∀(i:Nat) (fl:Field),fs[i]? =Z fl->∃z,DataW.trod enc P W base sp hd m fl.type ((cs.drop fl.offset).take (P.cellsOf fl.type))=Z z)->
 ∃v,(∀(j:Nat) y u,(bI T v)[j]? =Z y->cs[off+j]? =Z u->nS (λ_=>False) W y u)/\wfT T v
 |[],off,k,.un,_,_,_=>⟨(),λj y u L=>by simp[bI]at L,trivial⟩
 |[x],off,k,T,h,hl,hg=>by
  simp only[aiq,al]at h;let⟨⟨h1,h2⟩,I⟩:=h;have h1:=au h1;have I:=au I;let⟨z,hz⟩:=hg 0 x rfl;let⟨v,A,hw⟩:=ih T _ _ _ h2 hz;rw[h1]at A;exact⟨v,A.sub I (by omega),hw⟩
 |x::x'::r,off,k,.pr a b,h,hl,hg=>by
  simp only[aiq,al]at h;let⟨⟨⟨h1,h2⟩,I⟩,h4⟩:=h;have h1:=au h1;have I:=au I;simp[Ty.size]at hl;let⟨z,hz⟩:=hg 0 x rfl;let⟨v,A,hw⟩:=ih a _ _ _ h2 hz;rw[h1]at A;have A:=A.sub I (by omega);let⟨v',hv',hw'⟩:=ad2 ih cs ts (x'::r) (off+a.size) (k+1) b h4 (by omega) (λi fl hi=>hg (i+1) fl (by grind));refine ⟨(v,v'),λj y u L hu=>?_,hw,hw'⟩;simp[bI]at L;by_cases hj:j<a.size
  .rw[b8 (by rw[bk];exact hj)]at L;exact A j y u L hu
  .rw[bS (by rw[bk];omega),bk]at L
   grind
variable {s:TypeId}
def ad3 {f:Ty->TypeId->Bool} (ih:∀(T:Ty) (t:TypeId) (cs:ξ) x,f T t=J->DataW.trod enc P W base sp hd m t cs=Z x->∃v,O8 W T v cs/\wfT T v) (cs:ξ):
 ∀(n i:Nat) (T:Ty),af8 P f s n T=J->i*P.cellsOf s+T.size<=l! cs->(∀j,j<n->∃z,DataW.trod enc P W base sp hd m s ((cs.drop ((i+j)*P.cellsOf s)).take (P.cellsOf s))=Z z)->
 ∃v,(∀(j:Nat) y u,(bI T v)[j]? =Z y->cs[i*P.cellsOf s+j]? =Z u->nS (λ_=>False) W y u)/\wfT T v
 |0,i,T,h,_,_=>by cases h
 |1,i,T,h,hl,L=>by
  simp only[af8,al]at h;have h3:=au h.2;let⟨z,hz⟩:=L 0 (by omega);let⟨v,A,hw⟩:=ih T _ _ _ h.1 hz;rw[dQ]at A;exact⟨v,A.sub h3 (by omega),hw⟩
 |n+2,i,T,h,hl,L=>by
  cases T with
  |pr a b=>
   simp only[af8,al]at h;let⟨⟨h1,h2⟩,h4⟩:=h;have h3:=au h2;simp[Ty.size]at hl;let⟨z,hz⟩:=L 0 (by omega);let⟨v,A,hw⟩:=ih a _ _ _ h1 hz;rw[dQ]at A;have A:=A.sub h3 (by omega);let⟨v',hv',hw'⟩:=ad3 ih cs (n+1) (i+1) b h4 (by grind) (λj hj=>by have:=L (j+1) (by omega);rwa [show i+(j+1)=i+1+j from by omega]at this);refine ⟨(v,v'),λj y u I hu=>?_,hw,hw'⟩;simp[bI]at I;by_cases hj:j<a.size
   .rw[b8 (by rw[bk];exact hj)]at I;exact A j y u I hu
   .rw[bS (by rw[bk];omega),bk]at I
    grind
  |_=>unfold af8 at h;cases h
def LI:∀(n:Nat) (T:Ty) (t:TypeId) (fuel:Nat) (cs:ξ) x,EP P n T t=J->(∀b,sp b=J)->DataW.trod enc P W base sp hd fuel t cs=Z x->∃v,O8 W T v cs/\wfT T v
 |0,_,_,_,_,_,h,_,_=>by unfold EP at h;cases h
 |n+1,T,t,fuel,cs,x,h,hsp,ht=>by
  unfold EP at h;split at h
  .rename_i k k' L;have hk:=eq_of_beq h;subst hk;obtain⟨m,rfl,_,hw⟩:=DataW.trod_int L ht;refine ⟨m,⟨rfl,λj y v A I=>?_⟩,hw⟩;cases j with
   |zero=>simp[bI]at A I;subst A I;exact .raw _
   |succ j=>simp[bI]at A
  .rename_i L;obtain⟨b,rfl,_⟩:=DataW.trod_bool L ht;refine ⟨b,⟨rfl,λj y v A I=>?_⟩,trivial⟩;cases j with
   |zero=>simp[bI]at A I;subst A I;exact .raw _
   |succ j=>simp[bI]at A
  .rename_i L;obtain⟨s,rfl,_,hs⟩:=DataW.trod_string L ht;refine ⟨s.data.toList,⟨rfl,λj y v A I=>?_⟩,by simpa[wfT] using hs⟩;cases j with
   |zero=>simp[bI]at A I;subst A I;exact .raw _
   |succ j=>simp[bI]at A
  .rename_i z e L;simp only[al]at h;let⟨⟨h1,h2⟩,h3⟩:=h;have h2:=au h2;have h3:0<z.size:=aY h3;rcases Go.Deep.open_slice L ht with ⟨rfl,_⟩|⟨a,len,cap,m,k,D,Pl,rfl,hb,hl,hm,hmm,_,hi⟩
   .refine ⟨[],⟨rfl,λj y v A I=>?_⟩,by simp[wfT]⟩;cases j with
    |zero=>simp[bI]at A I;subst A I;exact .nil _ _ (by unfold maxLen;omega)
    |succ j=>simp[bI]at A
   .rw[hsp,aC rfl]at hmm;rw[h2]at hi;let⟨xs,hx1,hx2⟩:=ON z.zero (λi (v:z.den)=>∃cs',W.cells? base (a.add (i*z.size)) z.size=Z cs'/\O8 W z v cs'/\wfT z v) len (λi hil=>by
     let⟨cs',hc,htt⟩:=hi i (by omega);let⟨v,I,hw⟩:=LI n z e k cs' _ h1 hsp htt;exact⟨v,cs',hc,I,hw⟩)
    refine ⟨xs,⟨rfl,λj y v A I=>?_⟩,by show aj xs<=maxLen;omega,λy A=>?_⟩
    .cases j with
     |succ j=>simp[bI]at A
     |zero=>
      simp[bI]at A I;subst A I;by_cases h0:len=0
      .have:xs=[]:=dC.1 (by omega);subst this h0;exact .nil _ _ hm
      .obtain⟨x0,hx0⟩:∃x0,xs[0]? =Z x0:=⟨xs[0]'(by omega),aF (by omega)⟩
       let⟨cs0,hc0,_⟩:=hx2 0 x0 hx0;let⟨_,hcl0,hat0⟩:=World.cells?_some hc0;have hca:=hat0 0 h3;rw[aF (by omega)]at hca;have hspot:a.spot=U:=by
        have:=ahj hca;simpa[Addr.add] using this
       have hblk:=World.block_lt_of_cell? W _ hca;rw[Nat.zero_mul,Addr.add_plain hspot,Addr.add_plain rfl]at hca hblk;have hcell:∀(i j:Nat) x,xs[i]? =Z x->j<z.size->∃cs',W.cell? ⟨a.block,a.off+(i*z.size+j),U⟩=cs'[j]? /\j<l! cs'/\O8 W z x cs':=λi j x hx hj=>by
        let⟨cs',hc,hr,_⟩:=hx2 i x hx;let⟨_,hcl,hat⟩:=World.cells?_some hc;have:=hat j hj;rw[Addr.add_plain hspot,Addr.add_plain rfl,jA]at this;exact⟨cs',this,by omega,hr⟩
       have hflat:∀j,j<l! xs*z.size->∃x,xs[j/z.size]? =Z x/\j%z.size<z.size/\j=j/z.size*z.size+j%z.size:=λj hj=>by
        have h5:j/z.size<l! xs:=Nat.div_lt_of_lt_mul (by rw[Nat.mul_comm];exact hj);exact⟨xs[j/z.size],aF h5,Nat.mod_lt _ h3,by rw[Nat.mul_comm];exact (Nat.div_add_mod j z.size).symm⟩
       have hlen:l! (List.flatMap (bI z) xs)=l! xs*z.size:=eV (bk z) xs;let⟨ab,ao,az⟩:=a;cases hspot;rw[<- hx1];refine .sl (List.flatMap (bI z) xs) (l! xs) cap ab ao (λj=>(W.cell? ⟨ab,ao+j,U⟩).getD undef) (by omega) hm (λh=>h) hblk (ml z xs) (λj hj=>?_) (λj y A=>?_)
       .obtain⟨x,hx,hjs,hje⟩:=hflat j (by omega);let⟨cs',g1,g2,_⟩:=hcell _ _ x hx hjs;rw[<- hje]at g1;simp only[g1,aF g2,Option.getD_some]
       .have hj:j<l! xs*z.size:=by rw[<- hlen];exact (bz.1 A).1
        let⟨x,hx,hjs,hje⟩:=hflat j hj;let⟨cs',g1,g2,g3⟩:=hcell _ _ x hx hjs;rw[<- hje]at g1;simp only[g1];rw[aF g2];refine g3.2 (j%z.size) y _ ?_ (aF g2);let⟨r,hr⟩:=IH (bk z) xs (j/z.size) x hx;have:((List.flatMap (bI z) xs).drop (j/z.size*z.size))[j%z.size]? =Z y:=by rw[lJ,<-hje];exact A
        rw[hr,b8 (by rw[bk];exact hjs)]at this;exact this
    .obtain⟨i,hi'⟩:=fG A;let⟨_,_,_,hw⟩:=hx2 i y hi';exact hw
  .rename_i z fs L;simp only[al]at h;have h2:=au h.2;obtain⟨xs,m,rfl,_,hl,hxl,hg⟩:=DataW.trod_struct L ht;let⟨v,I,hw⟩:=ad2 (f:=EP P n) (m:=m) (λT t cs x h1 h2=>LI n T t m cs x h1 hsp h2) cs xs fs.toList 0 0 z h.1 (by omega) (λi fl hi=>by
    have hi':fs[i]? =Z fl:=by simpa using hi
    have:=hg i fl hi';have hlt:i<l! xs:=by rw[hxl];exact (dw.1 hi').1
    rw[aF hlt]at this;exact⟨_,this⟩)
   exact⟨v,⟨by rw[hl,h2];rfl,λj y u A L=>I j y u A (by rw[bZ];exact L)⟩,hw⟩
  .rename_i z m e L;simp only[al]at h;have h2:=au h.2;obtain⟨xs,q,rfl,_,hl,hxl,hg⟩:=DataW.trod_array L ht;let⟨v,I,hw⟩:=ad3 (f:=EP P n) (m:=q) (λT t cs x h1 h2=>LI n T t q cs x h1 hsp h2) cs m 0 z h.1 (by omega) (λj hj=>by
    have:=hg j hj;rw[aF (by omega)]at this;rw[bZ];exact⟨_,this⟩)
   exact⟨v,⟨by rw[hl,h2];rfl,λj y u A L=>I j y u A (by rw[Nat.zero_mul,bZ];exact L)⟩,hw⟩
  .cases h
def VO {t:TypeId} {r:Reach} (z:EP P i S t=J) (h1:S.one=J) (h:Ls P W r m t v):v.cells.toList=[v]:=by
 cases i with
 |zero=>unfold EP at z;cases z
 |succ i=>
  unfold EP at z;unfold Ls at h;cases v with
  |agg cs=>
   split at z<;>rename_i A<;>first|(rw [A]at h;simp[]at h;unfold Cell.okWide at h;rw[A]at h;unfold Cell.ok at h;rw[A]at h;simp at h)|cases h1|cases z
  |_=>rfl
def Zh {t:TypeId} {r:Reach} (z:EP P i S t=J) (h1:S.one=af) (h:Ls P W r m t v):∃cs,v= .agg cs:=by
 cases i with
 |zero=>unfold EP at z;cases z
 |succ i=>
  unfold EP at z;unfold Ls at h;split at z<;>rename_i A<;>first|(rw [A]at h;let⟨cs,h,_⟩:=h;exact⟨cs,h⟩)|cases h1|cases z
def open_arg {n:Nat} {T:Ty} {t:TypeId} {d:DataW H} {I:Y MemPlace} {r:Reach} (A:EP P n T t=J) (hsp:∀b,sp b=J) (hok:Ls P W r i t v) (h:DataW.Trod enc P W base sp hd t v d I):∃x,nS (λ_=>False) W (gq T x) v/\wfT T x:=by
 let⟨fuel,hf⟩:=h;let⟨x,z,hw⟩:=LI n T t fuel _ _ A hsp hf;refine ⟨x,?_,hw⟩;by_cases h1:T.one=J
 .obtain⟨e1,e2⟩:=NL T x h1;exact z.2 0 _ v (by grind) (by rw[VO A h1 hok];rfl)
 .obtain⟨cs,rfl⟩:=Zh A (by grind) hok;rw[sO T x (by grind)];have hl:l! cs.toList=l! (bI T x):=by rw[bk];exact z.1
  have:=nS.agg (O:=λ_=>False) (w:=W) (bI T x) cs.toList hl (py T x) (λj y u L hu=>z.2 j y u L hu);simpa using this
end
def UA (h:(Lit.int .u8 a).wf=J):0<=a/\a<=255:=⟨bi (dX.1 h).1,bi (dX.1 h).2⟩
structure RcF (w:WT) (l:List ET) (A B:Nat):Prop where
 r:UK w l A B
 ka:(eN l A).2.1=3\/(eN l A).2.1=4
 kb:(eN l B).2.1=3\/(eN l B).2.1=4
 ht:¬(eN l A).1=(eN l B).1
 ho:(eN l A).2.2.1=(eN l B).2.2.1
 hs:(eN l A).2.1=4\/(eN l B).2.1=4
 hv:(aI kF w.1 (eN l A).2.2.1).2.2.2.1=af
def RcF.of {w:WT} (tr:TR (w,L)) (hAB:i<m) (I:m<l! L) (h:rcB w L (oB w L) i m=J):RcF w L i m:=by
 let⟨h1,z⟩:=dX.1 h;let⟨z,l⟩:=dX.1 z;let⟨c1,c2,c3,c4,c5⟩:=bi h1;have ea:=kP tr (show i<l! L by omega);have eb:=kP tr I;have a1:=ea.th;have b1:=eb.th;have a2:=ea.k;have b2:=eb.k;have oa:=O2 tr (show i<l! L by omega) c2;have ob:=O2 tr I c3;have qa:(cf L i).k=3\/(cf L i).k=4:=bi c2;have qb:(cf L m).k=3\/(cf L m).k=4:=bi c3;refine ⟨⟨hAB,I,λq=>?_⟩,by omega,by omega,by omega,by omega,by omega,?_⟩
 .have l:decide ((rP L (cf L i).th i:Int)+1<=(oB w L m).getD (cf L i).th 0)=af:=by simpa using l
  exact qV l q
 .have z:BU w.1 (cf L m).ob=af:=by simpa using z
  rw[oa,c4];exact z
instance (l:Y ET) (c:η) (i:Nat):Decidable (UY l c i):=by unfold UY;exact inferInstance
def axx {n:Nat} (h:i<=400):a_ .i64 (Pn (i:Int) (n:Int))=((i/n:Nat):Int):=by
 have e:Pn (i:Int) (n:Int)=((i/n:Nat):Int):=rfl;have h1:=Nat.div_le_self i n;rw[e];generalize i/n=q at*
 rw[gr]
def Ft (a b c:η) (z:Int) (ha:l! a<=9223372036854775807) (hx:∀z∈a,0<=z/\z<=255) (hc:l! c<=9223372036854775807) (hy:∀z∈c,0<=z/\z<=255) (hz:0<=z/\z<=255):Ok (jR ((a,b,c),z)) λy=>y=J:=by
 obtain⟨n,hn1,hn16,en⟩:∃n:Nat,1<=n/\n<=16/\a_ .i64 (1+lw (a_ .i64 z) 16)=(n:Int):=by
  have e1:a_ .i64 z=z:=gr;have e2:lw z 16=z%16:=Int.tmod_eq_emod_of_nonneg hz.1;refine ⟨1+(z%16).toNat,by omega,by omega,?_⟩;rw[e1,e2,gr];omega
 unfold jR be bA bM ct dF ck bj bQ kw gO bV bJ aZ cP aH cL;dsimp only;rw[en];refine ay (P:=TR) (UJ a b c 40 (by omega) (by omega) ha hx hc hy) ?_;rintro⟨w,l⟩ tr;have hl:l! l<=400:=tr.len;have hro:=Zc w l (oB w l) (l! l) (by omega);let⟨K,hSp,hK⟩:=ara tr hn1 hn16;refine aX (Y3 tr) (aX (Jl tr) (aX hSp ?_));refine aV (λx=>x=(af,w,l)) ?_ ?_
 .refine dR (dR (dR (ak ?_)));dsimp only;rw[bx,qK,aU rfl];rfl
 rintro x rfl;refine dR (b9 (l! (rO w l (oB w l) (l! l))) (λi x=>x=((i:Int),w,l)) ?_ ?_ rfl)
 .rintro i x hi rfl;refine c8 (aV (λx=>x=(w,l)) ?_ ?_)
  .refine b_ (aT ?_);have hm:=bC (T:=hY) (xs:=rO w l (oB w l) (l! l)) (j:=(i:Int)) (by omega) (by omega);obtain⟨p,hp⟩:∃p:ν,aI hY (rO w l (oB w l) (l! l)) (i:Int)=p:=⟨_,rfl⟩
   dsimp only;rw[hp]at hm ⊢;obtain⟨A,B,hAB,hB,hrc,rfl⟩:=aji _ hm;have F:=RcF.of tr hAB hB hrc;clear hm hp hrc;refine aV (λx=>x=(af,(w,l),(A:Int),(B:Int))) ?_ ?_
   .refine bD (λg=>(by dsimp only at g;omega)) λ_=>fK (λg=>(by dsimp only at g;omega)) λ_=>ak ?_
    dsimp only;rw[VZ (by dsimp only[aw];omega)]
   rintro x rfl;have n0:(!decide ((n:Int)=0))=J:=by rw[dt (by omega)];rfl
   dsimp only;rw[axx (n:=n) (show A<=400 by omega),axx (n:=n) (show B<=400 by omega)];refine dR (bl n0 (bl n0 (bU (λ_=>ak rfl) λhq=>bl n0 ?_)));have hq:((A/n:Nat):Int)=((B/n:Nat):Int):=hq;have hq:A/n=B/n:=by omega
   generalize hst:A/n*n=st;have hA1:st<=A:=by rw[<- hst];exact Nat.div_mul_le_self A n
   have hB1:B<st+n:=by
    rw[<- hst,hq];have:=Nat.lt_div_mul_add (a:=B) (b:=n) (by omega);omega
   have hlen:=Af l n st;have hBm:B<st+l! (wE l n st):=by omega
   have hkK:A/n<K:=by
    rcases cN (A/n) K with g|g
    .exact g
    .have:=cw n g;omega
   refine aP (eD _) (by rw[bx,qK];exact Int.ofNat_lt.2 hkK) (aT ?_);have hwn:aI D5 ((dA K).map λk=>wn w l n (k*n)) ((A/n:Nat):Int)=wn w l n st:=by
    rw[sL (T:=D5),aD,bE,List.getElem?_range hkK,<-hst];rfl
   rw[hwn];have R:=F.r;have cl:=DS.cl tr R hA1;have hsl:st<=l! l:=by omega
   refine ay (ar9 tr (n:=n) (D:=DS w l A B st) hsl λk hk=>.inl hk) λc0 hc0=>?_
   have nA:¬DS w l A B st A:=λq=>by
    rcases q with q|q
    .omega
    .exact q.1 rfl
   have nB:¬DS w l A B st B:=λq=>by
    rcases q with q|q
    .omega
    .exact q.2.1 rfl
   have ckl:∀X:Nat,X<l! l->aI (.sl aN) ((dA (l! l)).map (oB w l)) (X:Int)=oB w l X:=λX h=>by
    rw[sL (T:=.sl aN),aD,bE,List.getElem?_range h];rfl
   refine b9 (l! (wE l n st)) (λk x=>∃c,x=(((st+k:Nat):Int),(w,l),((A:Int),(B:Int)),wn w l n st,c)/\U1 w l (DS w l A B st) st (l! (wE l n st)) (st+k) c) ?_ ?_ ⟨c0,rfl,hc0⟩
   .rintro k x hk ⟨c,rfl,hC⟩;have hi':st+k<l! l:=by omega
    have hend:a_ .i64 ((st:Int)+aS (l! (wE l n st)))=((st+l! (wE l n st):Nat):Int):=by
     rw[gr (by dsimp only[aw];omega) (by dsimp only[aw];omega)];dsimp only[aw];omega
    have hwr:(wn w l n st).2.1=(st:Int)/\(wn w l n st).2.2.2=wE l n st:=⟨rfl,rfl⟩
    dsimp only;rw[hwr.1,hwr.2,hend];have hge:aI gm l ((st+k:Nat):Int)=eN l (st+k):=rfl;refine c8 (aV (λx=>∃L,x=((w,l),((A:Int),(B:Int)),wn w l n st,L)/\U1 w l (DS w l A B st) st (l! (wE l n st)) (st+k+1) L) ?_ ?_)
    .refine aX (ac8 tr hi') ?_;refine aV (λx=>∃y,x=(y,(w,l),((A:Int),(B:Int)),wn w l n st,c)/\(y=J↔¬DS w l A B st (st+k))) ?_ ?_
     .refine aK (λe=>ak ⟨J,rfl,λ_ q=>?_,λ_=>rfl⟩) λe1=>?_
      .have e:((st+k:Nat):Int)=(A:Int):=e;have e:st+k=A:=by omega
       rw[e]at q;exact nA q
      have e1:¬((st+k:Nat):Int)=(A:Int):=e1;refine aK (λe=>ak ⟨J,rfl,λ_ q=>?_,λ_=>rfl⟩) λe2=>?_
      .have e:((st+k:Nat):Int)=(B:Int):=e;have e:st+k=B:=by omega
       rw[e]at q;exact nB q
      have e2:¬((st+k:Nat):Int)=(B:Int):=e2;have ds:DS w l A B st (st+k)↔UY l (oB w l A) (st+k)\/UY l (oB w l B) (st+k):=by
       constructor
       .rintro (q|q)
        .omega
        .exact q.2.2
       .exact λq=>.inr ⟨by omega,by omega,q⟩
      refine aP (by omega) (by rw[bx,qK];omega) (aT ?_);rw[ckl A (by omega)];have cvr_:∀x:η,rA (x,W3 l (st+k))=Z (decide (UY l x (st+k))):=λx=>by
       rw[ai7];exact Ph _ _ _
      refine aX (cvr_ _) (eC (λg1=>?_) λg1=>ak ⟨af,rfl,nofun,λq=>(q (ds.2 (.inl (bi g1)))).elim⟩);refine aP (by omega) (by rw[bx,qK];omega) (aT ?_);rw[ckl B (by omega)];refine aX (cvr_ _) (ak ⟨_,rfl,?_⟩);have g1:=qV g1;rw[ds];constructor
      .intro q z;rcases z with z|z
       .exact g1 z
       .rw[aU z]at q;cases q
      .intro q;rw[dt λz=>q (.inr z)];rfl
     rintro x ⟨y,rfl,hy⟩;refine aR (λq=>ak ⟨c,rfl,hC.skip tr hi' (hy.1 q)⟩) λq=>?_
     have q:y=af:=q;have hD:DS w l A B st (st+k):=by
      by_cases z:DS w l A B st (st+k)
      .exact z
      .rw[hy.2 z]at q;cases q
     let⟨hNx,hStep⟩:=avk tr cl (λi hi h q=>DS.rd tr R h q) hC (by omega) (by omega) hD;have ek:(st+k-st:Nat)=k:=by omega
     rw[ek]at hNx;have esub:a_ .i64 (((st+k:Nat):Int)-(st:Int))=(k:Int):=by rw[gr];omega
     refine b_ (aT ?_);dsimp only;rw[hge,hwr.1,esub];refine aX hNx (bU (λg=>bT rfl g) λ_=>?_);refine aV (λx=>x=((if (eN l (st+k)).2.1=18 then (eN l (st+k)).2.2.2.1 else -1),(w,l),((A:Int),(B:Int)),wn w l n st,c)) ?_ ?_
     .refine b_ (aT ?_);try rw[hge]
      refine aK (λg=>?_) λg=>ak ?_
      .refine b_ (aT (ak ?_));try rw[hge]
       rw[aC (show (eN l (st+k)).2.1=18 from g)]
      .rw[av (show ¬(eN l (st+k)).2.1=18 from g)]
     rintro x rfl;refine b_ (aT ?_);try dsimp only
     try rw[hge]
     refine ay hStep ?_;rintro⟨L,y'⟩ ⟨hy',I⟩;dsimp only at hy' I;subst hy';refine dR ?_;have hrd:LG (eN l (st+k))=J->aI (.bool) L.2.2.2.2.1 (k:Int)=J:=λhr=>by
      have:=I.fx (st+k) (by omega) (by omega) hD hr;rw[ek]at this;rw[sL (T:=.bool)];exact this
     have hx1:=I.x1;have rdk:LG (eN l (st+k))=(decide ((eN l (st+k)).2.1=3)||decide ((eN l (st+k)).2.1=23)):=rfl;refine aV (λx=>x=(af,(w,l),((A:Int),(B:Int)),wn w l n st,L)) ?_ ?_
     .refine b_ (aT ?_);try dsimp only
      try rw[hge]
      try rw[hwr.1]
      try rw[esub]
      refine aK (λg=>?_) λg=>?_
      .have g:(eN l (st+k)).2.1=3:=g;refine aP (by omega) (by rw[hx1];omega) (aT (ak ?_));rw[hrd (by rw[rdk,aU g];rfl)];rfl
      .refine b_ (aT ?_);try rw[hge]
       refine aK (λg=>?_) λg=>ak rfl
       have g:(eN l (st+k)).2.1=23:=g;refine aP (by omega) (by rw[hx1];omega) (aT (ak ?_));rw[hrd (by rw[rdk,aU g,Bool.or_true])];rfl
     rintro x rfl;exact dR (ak ⟨L,rfl,I⟩)
    .rintro x ⟨L,rfl,I⟩;refine ak ⟨L,?_,I⟩;try dsimp only
     rw[gZ];rfl
   .rintro x ⟨c,rfl,hC⟩;have hend:a_ .i64 ((st:Int)+aS (l! (wE l n st)))=((st+l! (wE l n st):Nat):Int):=by
     rw[gr (by dsimp only[aw];omega) (by dsimp only[aw];omega)];dsimp only[aw];omega
    have hwr:(wn w l n st).2.1=(st:Int)/\(wn w l n st).2.2.2=wE l n st:=⟨rfl,rfl⟩
    try dsimp only
    rw[hwr.1,hwr.2,hend];have ea:a_ .i64 ((A:Int)-(st:Int))=((A-st:Nat):Int):=by rw[gr];omega
    have eb:a_ .i64 ((B:Int)-(st:Int))=((B-st:Nat):Int):=by rw[gr];omega
    rw[ea,eb];refine c9 (ay (P:=λx=>x=bL (w,l)) ?_ ?_)
    .exact aX (arw tr cl hC hsl hA1 hAB hBm nA nB (DS.cgA tr R) (DS.cgB tr R) F.ka F.kb F.ht F.ho F.hs F.hv) (dR (ak rfl))
    rintro x rfl;exact ak rfl
  rintro x rfl;refine ak ?_;dsimp only;rw[gZ]
 .rintro x rfl;refine c9 (ay (P:=λy=>y=J) (aX (x:=J) aqt (ak rfl)) ?_);rintro x rfl;exact ak rfl
def ShbSchedules_law (x:(η×η×η)×Int) (w:wfT (.pr (.st (.pr (.sl (.int .u8)) (.pr (.sl (.int .u8)) (.sl (.int .u8))))) (.int .u8)) x):jR x=Z J:=by
 let⟨⟨a,b,c⟩,z⟩:=x;let⟨⟨⟨l0,w0⟩,_,⟨l2,L⟩⟩,I⟩:=w;obtain⟨y,h,rfl⟩:=Ft a b c z l0 (λz A=>UA (w0 z A)) l2 (λz A=>UA (L z A)) (UA I);exact h
def ż (n:Nat)(k l:Y Nat)(a:Y PV)(b:Y PB):Nat×an8:=(n,.j ⟨k,l,⟨a,b⟩,[]⟩)
def Ž (n:Nat)(k l:Y Nat)(a:Y PV)(b:Y PB)(z:Y Adj):Nat×an8:=(n,.j ⟨k,l,⟨a,b⟩,z⟩)
abbrev ž (a:Y PV)(b:Y PB)(c:Y PV)(d:Y PB)(h:PT an8):FT:=⟨⟨a,b⟩,⟨c,d⟩,h⟩
def ſ (a:Y PV)(b:Y PB)(c:Y PV)(d:Y PB)(h:PT an8)(m:(ž a b c d h).pre.ty.den->M (ž a b c d h).post.ty.den):ci:=cn (ž a b c d h) m
def Z?:PV:=.d aN
def À:PV:=.d .bool
def Á:PB:=.H 2 J aN
def Â:PB:=.H 54 af (.sl aN)
def Ã:PV:=.K 0 0
def Ä:PB:=.G 69 [.d gm]
def Å:PB:=.H 3 J aN
def Æ:PB:=.H 54 J (.sl aN)
def Ç:PB:=.G 129 [.d wP]
def È:PV:=.d fw
def É:PB:=.G 73 [.d hY]
def Ê:PV:=.d (.sl aN)
def Ë:PV:=.K 1 0
def Ì:PB:=.G 31 [.d oy]
def Ï:PV:=.d gm
def Ð:PV:=.d oy
def Ñ:PB:=.H 4 J .bool
def Ò:PV:=.d (.sl .str)
def Ó:PB:=.G 56 [.d lH]
def Ô:PV:=.nil
def Õ:PB:=.H 9 J .str
def Ö:PV:=.d (.sl hP)
def Ø:PB:=.G 208 [.d sZ]
def Ù:PV:=.K 2 0
def Ú:PB:=.H 111 J hP
def Û:PB:=.G 116 [.d BP]
def Ü:PV:=.d wP
def Ý:PB:=.H 146 J dO
def Þ:PV:=.I 3
def ß:PV:=.K 3 0
def à:PV:=.d (.sl dO)
def á:PV:=.d hY
def â:PV:=.d lH
def ã:PB:=.G 34 [.d uL]
def ä:PV:=.I 4
def å:PV:=.I 0
def æ:PV:=.d .str
def ç:PV:=.I 6
def è:PV:=.d lO
def é:PV:=.I 7
def ê:PB:=.G 58 [.d D5]
def ë:PB:=.qx (.ir 4 .bool) 0
def ì:PB:=.H 3 af aN
def í:PV:=.I 2
def î:PV:=.K 4 0
def ï:PB:=.G 168 [.d Se]
def ð:PB:=.G 195 [.d fw]
def ñ:PV:=.I 1
def ò:PV:=.d D5
def ó:PV:=.d (.sl Kz)
def ô:PV:=.I 5
def õ:PV:=.d rV
def ö:PV:=.d uL
def ø:PV:=.d sZ
def ù:PB:=.G 87 [.I 4,.I 5,.I 6,.I 7,.I 8,.I 9,.d (.sl aN),.I 10,.I 11]
def û:PV:=.d Jc
def ü:PV:=.I 11
def þ:PV:=.d .ex
def ÿ:PV:=.d ym
def Ā:PB:=.qm 9 .str
def ā:PV:=.d Se
def Ă:PV:=.d (.sl kF)
def ă:PV:=.d (.sl tU)
def Ć:PB:=.H 100 J Pw
def ć:PV:=.d (.sl itK)
def Ĉ:PB:=.G 52 [.d Jc]
def ĉ:PV:=.d BP
def Ċ:PV:=.d (.sl qG)
def ċ:PV:=.I 8
def Č:PV:=.d (.sl u_)
def č:PB:=.G 52 [.I 2,.d aN,.I 3,.I 4]
def Ď:PB:=.G 3 [.d aN]
def ď:PV:=.d Ke0
def Đ:PB:=.G 52 [.qg 4 2 3,.d aN,.d rV,.d (.sl hP)]
def đ:PV:=.d .sm
def Ē:PB:=.qm 218 .sm
def ē:PB:=.G 218 [.d .sm]
def Ĕ:PB:=.G 216 [.d .ex]
def ĕ:PV:=.qf 150 [(1,0)]
def Ė:PV:=.K 6 0
def ė:PB:=.H 9 af .str
def ę:PV:=.d (.sl .sm)
def ě:PB:=.H 146 af dO
def Ĝ:PV:=.I 10
def Ğ:PB:=.qd
def ğ:PV:=.I 9
def ġ:PV:=.K 5 0
def Ģ:PB:=.H 218 J .sm
def ģ:PB:=.G 195 [.d aN,.I 3,.I 4,.d aN]
def ĥ:PV:=.d Ke2
def Ħ:PV:=.d (.st (.pr HE (.pr HE HE)))
def Ĩ:PB:=.G 191 [.d zR]
def ĩ:PB:=.G 154 [.d qG]
def Ī:PB:=.G 52 [.I 4,.d aN,.I 5,.I 6]
def ī:PB:=.G 61 [.d Ke0]
def Ĭ:PB:=.G 76 [.d Ke2]
def ĭ:PB:=.H 154 J qG
def Į:PV:=.d (.sl gm)
def į:PV:=.qg 1 1 4
def İ:PV:=.d (.int .u8)
def ı:PV:=.I 12
def Ĳ:PV:=.K 7 0
def Ĵ:PV:=.qg 4 1 4
def Ķ:PB:=.H 208 J sZ
def ķ:PV:=.d (.sl hY)
def ĸ:PB:=.mp itK .un
def Ĺ:PB:=.G 124 [.d ym]
def ĺ:PB:=.G 134 [.d kF]
def ļ:PB:=.H 69 J gm
def Ŀ:PB:=.H 4 af .bool
def Ł:PB:=.H 137 J itK
def Ń:PV:=.d Kd0
def Ņ:PV:=.d HE
def ņ:PB:=.H 134 J kF
def Ň:PB:=.H 152 J tU
def ũ:PB:=.G 129 [Ü]
def ű:PB:=.G 73 [á]
def ŧ:PB:=.G 69 [Ï]
def Ŭ:PB:=.G 208 [ø]
def ō:Y PV:=[à,Z?,õ,Ö]
def Ŏ:Y PV:=[Ã,Ë,Ù]
def ŏ:Y PB:=[Ý,Ñ,Ú,Á,Á]
def ř:Y PB:=[Â,Â,Â,Â,Â,Â,Â,Å]
def ő:Y PV:=[Ă,ă,ć,Ò,Ò,Ċ]
def Œ:Y PV:=[Z?,Z?]
def œ:Y PB:=[Á,Æ]
def ū:PB:=.G 116 [ĉ]
def Ť:Y PB:=[Å,Å,Å]
def Ū:PB:=.G 56 [â]
def Ũ:PB:=.G 31 [Ð]
def ŗ:Y PB:=[ū,Ū,Ũ]
def Ű:PB:=.G 34 [ö]
def ś:Y PB:=[Ű,Ū]
def Ŝ:Y PV:=[Ô,Ô,Ô,Ô,Ô]
def ŝ:Y PV:=[Z?,Z?,Z?,Z?,Z?]
def Ş:Y PV:=[Ë,Z?,Z?,À,À,À,À]
def ų:PB:=.G 3 [Z?]
def š:Y PV:=[è,è,è,è,è,Ê,è,Ê]
def Ţ:Y PB:=[Ū,ŧ]
def ţ:Y PV:=[Z?,È,È]
def ť:Y PB:=[Ũ,ĩ]
def Ŧ:Y PB:=[Ű,.G 81 [.d Ke4],.H 64 af hY]
def ŭ:PB:=.G 58 [ò]
def Ů:PB:=.G 168 [ā]
def ů:PB:=.G 195 [È]
def Ų:PB:=.G 52 [û]
def Ŵ:PB:=.G 218 [đ]
def ŵ:PB:=.G 216 [þ]
def Ŷ:PB:=.G 52 [í,Z?,Þ,ä]
def Ÿ:PB:=.G 195 [Z?,Þ,ä,Z?]
def Ź:PB:=.G 61 [ď]
def ź:PB:=.G 76 [ĥ]
def Ż:PB:=.G 124 [ÿ]
abbrev xf:Y PV:=(ŝ++[Ô,Ô])
def Í:PB:=.G 69 xf
abbrev xd:Y PV:=(Ô::Z?::Ŝ)
def Î:PB:=.G 124 xd
def ħ:PB:=.G 56 xd
def Ś:Y PB:=[ű,Î,Í,ŧ]
abbrev ath:Y PV:=(Ş++[ä])
abbrev atl:Y PV:=[Z?,Z?,æ,æ,Ô,Z?,Z?,æ,Ô,Ô,Ô]
abbrev La2:Y PB:=[.G 212 ath,ū,Ğ,.G 218 atl,Ā]
abbrev Sd:Y PV:=(Ŏ++[ß,î,ġ,Ė,Ĳ,À])
abbrev La4:Y PB:=[.G 204 (ő++Ò::í::Œ),Ğ,Ķ]
abbrev La5:Y PB:=[.G 204 (ő++Ò::ñ::Œ),Ķ]
abbrev La6:Y PV:=[Z?,ü,ı,Z?]
def ý:PB:=.G 195 La6
def ŕ:Y PB:=[ű,Î,Í,ŧ,ý,Ŭ,Á,Á]
abbrev La7:Y PB:=[.G 168 [Ô,Ô],.G 212 [ġ,Z?,Z?,À,À,À,À,ç],.G 168 [ó,é],ė,.G 202 [æ,Z?,ċ,ğ],ū,Ā,.H 202 J u_,ė,Ģ]
abbrev La8:Y PB:=[.G 243 [ó,Č,Z?,ñ,ç,é],Ē,Ğ,Ğ,Ŵ,Ů,Õ,Õ]
abbrev La9:Y PV:=(ō++[ċ,ğ,.qg 10 4 4])
def Ļ:PB:=.G 124 La9
def Ŋ:Y PB:=(ũ::Ļ::ŕ)
abbrev arp:Y PB:=[.G 124 (ō++[ç,é,.qg 8 4 4]),ű,Î,Í,ŧ,ů,Á,Á,.G 195 [È,È,È,È]]
abbrev ati:Y PV:=(Ş++[í])
abbrev UO:Y PV:=[Ņ,Z?]
def Ę:PB:=.G 116 UO
abbrev ac4:Y PB:=[.G 212 ati,Ę,Ā]
abbrev QQ:Y PV:=(Ŏ++[ß,î,ġ,Ė,Ĳ,Z?])
abbrev aw7:Y PV:=(ō++[ċ,ğ,.qg 10 4 3])
def ŋ:Y PB:=(ũ::.G 124 aw7::ŕ)
abbrev awr:Y PB:=(ŋ++.G 195 (Z?::ü::ı::ţ)::œ)
abbrev awq:Y PB:=(ŋ++.G 195 [È,Z?,ü,ı,Z?,È]::œ)
abbrev awp:Y PB:=(ŋ++.G 195 [È,È,Z?,ü,ı,Z?]::œ)
abbrev atk:Y PV:=(ō++[ċ,ğ,.qg 10 4 2])
def Ŕ:Y PB:=(ũ::.G 124 atk::ŕ)
abbrev awo:Y PB:=(Ŕ++.G 195 [Z?,ü,ı,Z?,È]::œ)
abbrev awn:Y PB:=(Ŕ++.G 195 [È,Z?,ü,ı,Z?]::œ)
abbrev ai2:Y PB:=[.G 243 [ó,Č,Z?,ñ,ä,ô],Ē,Ğ,Ğ,Õ,Õ]
abbrev QP:Y PV:=(Ŏ++[ß,î,ġ,Ė,À])
abbrev ij:Y PV:=[Ã,À]
abbrev ai1:Y PB:=[.G 243 [ó,Č,Z?,ñ,í,Þ],Ē,Õ,Õ]
abbrev awm:Y PB:=(ũ::.G 124 (ō++[ċ,ğ,.qg 10 4 1])::ű::Î::Í::ŧ::ý::Ŭ::Á::Á::ý::œ)
abbrev QO:Y PV:=(Ŏ++[ß,î,ġ,Ė])
abbrev awl:Y PB:=(Ŋ++.G 195 [Z?,ü,ı,Z?,È,È,È]::œ)
abbrev awk:Y PB:=(Ŋ++.G 195 (È::Z?::ü::ı::ţ)::œ)
abbrev awj:Y PB:=(Ŋ++.G 195 [È,È,Z?,ü,ı,Z?,È]::œ)
abbrev awi:Y PB:=(Ŋ++.G 195 [È,È,È,Z?,ü,ı,Z?]::œ)
abbrev Pc:Y PB:=[Ũ,Ū,ŧ,ħ]
abbrev QN:Y PV:=(Ŏ++[ß,î,ġ])
abbrev awh:Y PB:=[.G 124 (ō++[ç,é,.qg 8 4 3]),ű,Î,Í,ŧ,ů,Á,Á,.G 195 [È,È,È]]
abbrev Yz:Y PV:=(ō++[é,ċ,.qg 9 4 4])
def Ě:PB:=.G 124 Yz
def ň:Y PB:=(ũ::Ě::Ś)
abbrev pD:Y PV:=[Ã,Ë,À]
abbrev yl:Y PV:=(Ŏ++[ß,À])
abbrev arh:Y PV:=(Ô::Ŝ)
def ŀ:PB:=.G 31 arh
abbrev awg:Y PB:=[Ů,ŀ,.G 31 [ä,ô,ç,é,Ô,Ô],.G 246 [.d Kz],ņ,Ň,Ł,Õ]
abbrev an0:Y PV:=(Ô::Ô::Ŝ)
abbrev aAc:Y PV:=(ő++[ô])
abbrev aAo:Y PB:=[Ů,.G 129 an0,.G 129 aAc,.G 204 (ő++Ò::ç::Œ),.G 191 [Z?,ç],.H 191 J zR,Ķ]
abbrev Lq:Y PV:=[å,Z?,ñ,í]
def ĝ:PV:=.agg Lq
def Ġ:PV:=.agg [.agg Lq,.I 3,.I 4,.qg 5 4 2]
def ŷ:PV:=.agg [ĝ,Þ,ä,.qg 5 4 2]
abbrev awf:Y PB:=(ŗ++ļ::.G 54 [ô,ç,é,ċ]::Å::Ť)
abbrev Bb:Y PV:=(Ŏ++[Z?])
abbrev Pb:Y PV:=[Z?,Ê,è,Z?]
def ą:PB:=.G 195 Pb
abbrev ai0:Y PV:=(ō++[é,ċ,.qg 9 4 3])
def Ĥ:PB:=.G 124 ai0
def ŉ:Y PB:=(ũ::Ĥ::Ś)
abbrev awe:Y PB:=(ŗ++.G 54 [ä,ô,ç,é]::Å::Ť)
abbrev C1:Y PV:=(Ŏ++[À])
abbrev uK:Y PV:=[Ã,Ë,Z?]
abbrev Pa:Y PV:=[Z?,Ĝ,ü,Z?]
def Ą:PB:=.G 195 Pa
abbrev arf:Y PV:=[Z?,å,ñ,Z?]
abbrev af2:Y PV:=[Z?,Ô,Ô,Z?]
def Ľ:PB:=.G 195 af2
abbrev awd:Y PB:=[Á,Æ,Ŭ,.G 195 arf,Ľ]
abbrev awc:Y PB:=[.G 243 [ó,Č,Z?,ä,ô,ç],Ğ,Ğ,Ğ,Ē,Õ,Õ]
abbrev Fu:Y PV:=[Ô,Z?,Ô,Ô]
def ú:PB:=.G 52 Fu
def Š:Y PB:=[Ũ,.G 52 [.qg 4 2 3,Z?,õ,Ö],ų,ú]
abbrev awb:Y PB:=[Ŷ,ú,Ý,Ñ,Ú]
abbrev O_:Y PV:=[Ã,ß,À]
abbrev aAn:Y PB:=[.G 34 an0,ū,.G 34 aAc,Ū,.H 69 af gm,ļ]
abbrev aAm:Y PB:=[.G 124 (ō++[ç,é,.qg 8 4 2]),ű,Î,Í,ŧ,ů,Á,Á,.G 195 [È,È]]
abbrev rU:Y PB:=[Ũ]
abbrev aAl:Y PB:=(ŗ++ļ::.G 54 [é,ċ,ğ,Ĝ]::ŧ::Ū::Å::Ť)
abbrev aro:Y PB:=[ŀ,.G 31 [í,Þ,ä,ô,ç,é],.H 134 af kF,.H 152 af tU,.H 137 af itK,ė,ė,ĭ]
abbrev xc:Y PV:=[Ã,Z?]
abbrev amz:Y PV:=[í,Þ,ä,ô]
def ĳ:PB:=.G 54 amz
def Ŗ:Y PB:=(ū::ĳ::Å::Ť)
abbrev aAk:Y PB:=(Ŗ++[Í,.G 69 (ŝ++[Ê,Ô])])
abbrev arn:Y PV:=(ō++[é,ċ,.qg 9 4 2])
def ľ:PB:=.G 124 arn
def Ō:Y PB:=(ũ::ľ::Ś)
abbrev QM:Y PV:=[ÿ,Ï,À]
abbrev aAj:Y PB:=(Ŗ++[Ū,Ũ,Í,Í])
abbrev aAi:Y PB:=[Ů,ŀ,.G 31 [Þ,ä,ô,ç,Ô,Ô],ņ,Ň,Ł,Õ]
abbrev awa:Y PV:=(ō++[Þ,ä,ô])
abbrev QL:Y PV:=[Ü,ÿ,á]
abbrev aw9:Y PB:=[Ý,Ñ,Ú,.G 52 Lq,Å]
abbrev an3:Y PV:=[Þ,Z?,ä,ô]
abbrev aAh:Y PB:=[Ũ,.G 52 an3,ú,Ý,Ñ,Ú]
abbrev zQ:Y PV:=Œ
abbrev aw8:Y PB:=[ļ,ũ,Ż,Î]
abbrev aAg:Y PB:=(Ĩ::Ÿ::Ľ::œ)
abbrev aAf:Y PB:=[.G 212 ath,ū,Ğ,Ģ,Ā]
abbrev aw6:Y PV:=(Ş++[Þ])
abbrev aAe:Y PB:=[Í,ů,Ŭ,.G 69 (ŝ++[ä,Ô]),Å]
abbrev UN:Y PB:=[Ŵ]
abbrev arm:Y PV:=[.agg [ĝ,Þ,ä,.qg 5 4 4]]
abbrev Yy:Y PB:=[Ů]
abbrev aw5:Y PB:=[Ũ,Ĩ,Ŭ]
abbrev arl:Y PB:=[Ů,.G 202 [.d u_]]
abbrev ark:Y PB:=[Ů,ŵ]
abbrev aw4:Y PB:=[Ũ,Õ,ĺ]
abbrev aw3:Y PB:=[Ý,Ñ,Ú]
abbrev arj:Y PB:=[Ũ,Ŭ]
abbrev ari:Y PV:=[Ã,î,ġ,À]
abbrev aw2:Y PV:=(Ŏ++[ß,î,Z?])
abbrev ac3:Y PB:=[Ũ,Ų]
abbrev aw1:Y PB:=[ū,Å,Å]
abbrev ahz:Y PB:=[Ũ,Õ]
abbrev aw0:Y PB:=[ŧ,ħ,.G 56 awa,Á,Á,Å]
abbrev aAd:Y PB:=(Ę::ĳ::Å::Ť)
abbrev Yx:Y PB:=[Ę]
abbrev O9:Y PV:=[Ê,Z?]
abbrev ahy:Y PB:=[ū]
abbrev Yw:Y PV:=[Ã,ñ,Z?]
abbrev ahx:Y PB:=[.G 246 [.d Kz]]
abbrev avz:Y PV:=[.agg [ĝ,Þ,ä,.qg 5 4 3]]
abbrev an7:Y PB:=œ
abbrev an6:Y PB:=[ũ,Ż]
abbrev an5:Y PB:=[Ũ,Ĩ]
abbrev sW:Y PV:=[Ê]
abbrev YB:Y PV:=(Ŏ++[ß])
abbrev atj:Y PV:=(ō++[é,ċ,.qg 9 4 1])
def ş:Y PB:=[ũ,.G 124 atj,ű,Î,Í,ŧ]
abbrev an4:Y PB:=[Ų,Å]
abbrev YA:Y PV:=(Ã::Œ)
def tyT:PT Ty:=dL [(2,aN),(3,aN),(4,.bool),(9,.str),(47,hY),(49,rV),(54,(.sl aN)),(58,(.st (.pr oy (.pr aN (.pr lH (.sl gm)))))),(64,hY),(69,gm),(73,hY),(100,(.st (.pr aN .bool))),(111,hP),(134,kF),(137,itK),(146,dO),(152,tU),(154,qG),(191,zR),(195,fw),(202,u_),(208,sZ),(216,.ex),(218,.sm),(246,Kz)]
def bY (t:TypeId):M Ty:=tyT.get t
def Qs:=ſ [] [] [Ò] [] .leaf lA
def OD:=ſ [æ] [] [À] [] (dL [ż 8 [0,3] [4] [Z?] []]) mc
def X1:=ſ [İ] [] [À] [] (dL [ż 2 [] [2] [À] []]) mB
def ab3:=ſ [İ] [] [À] [] (dL [ż 2 [] [2] [À] []]) tD
def ab2:=ſ [İ] [] [À] [] (dL [ż 2 [] [2] [À] []]) ri
def X2:=ſ [æ] [] [À] [] (dL [ż 3 [0] [21] [À] [],ż 14 [0] [3] [Z?] []]) fY
def aau:=ſ [À] [] [Z?] [] .leaf gu
def aav:=ſ zQ [] [Z?,À] [] .leaf wu
def XX:=ſ (Z?::Œ) [] [Z?,À] [] (dL [ż 91 [] [6,7] [Z?,À] [],ż 97 [] [6,7] [Z?,À] []]) xp
def aaw:=ſ zQ [] [Z?] [] (dL [ż 12 [] [5] [Z?] []]) wv
def Qr:=ſ [Z?] [] [Z?] [] (dL [ż 4 [0] [3] [À] [],ż 10 [0] [10] [À] [],ż 16 [] [17] [À] []]) nI
def qU:=ž [þ] [] [À] [] (dL [ż 2 [] [1,3] ij [ŵ],ż 5 [] [1,50] ij [ŵ],ż 16 [] [1,4] xc [ŵ]])
def Lh:ci:=cn qU jM
def KY (n:Nat):ci:=cn qU (iB n)
def ab1:=ſ [þ] [] [À] [] (dL [ż 2 [] [2] [À] []]) rh
def uZ:=ž [đ] [] [À] [] (dL [ż 3 [] [1,13] ij UN,ż 10 [] [1,3] ij UN,ż 13 [] [1,47] ij UN,ż 21 [] [1,66] ij UN,ż 29 [] [1,95] ij UN,ż 36 [] [1,4] ij UN,ż 39 [] [1,130] ij UN,ż 46 [] [1,5] ij UN,ż 49 [] [1,157] ij UN,ż 56 [] [2] [À] []])
def KX (n:Nat):ci:=cn uZ (eZ n)
def pA:=ž [ę] [] [À] [] (dL [ż 6 [0] [3] [Z?] []])
def I2:ci:=cn pA pj
def In (n:Nat):ci:=cn pA (dP n)
def Lg:=ſ [.d Kz] [] [À] [] (dL [ż 3 [] [1,31] ij ahx,ż 11 [] [1,50] ij ahx,ż 18 [] [2] [À] []]) m_
def X0:=ſ [ā] [] [À] [] (dL [ż 6 [] [1,3] xc Yy,ż 27 [] [1,4] xc Yy,ż 42 [4] [1,5,6] uK arl,ż 59 [4] [1,56] ij Yy]) rF
def aqe:=ſ [Ò,æ] [] [Z?] [] (dL [ż 6 [0,1] [5] [Z?] []]) jZ
def XZ:=ſ [ó,æ] [] [Z?] [] (dL [ż 6 [0,1] [5] [Z?] []]) i_
def Qq:=ſ [Č,æ] [] [Z?] [] (dL [ż 6 [0,1] [5] [Z?] []]) iS
def XY:=ſ [ā,Z?,æ] [] [Z?] [] (dL [ż 3 [2] [3,27] ij Yy,ż 52 [7] [3,56] ij Yy]) uy
def ahb:=ſ (ā::Z?::æ::Œ) [] [Z?] [] (dL [ż 13 [] [25] [À] []]) io
def AO:=ž [þ] [] zQ [] (dL [ż 8 [] [1,4,5,6] (Ã::Z?::Œ) [ŵ]])
def aaz:ci:=cn AO Fa
def Zs (n:Nat):ci:=cn AO (oS n)
def AM:=ž [ā,Z?,þ] [] [Z?] [] (dL [ż 7 [1] [3,5,7] uK ark,ż 21 [1] [3,5,7,8] (Ã::Ë::Œ) ark,ż 23 [1,7,8] [3,5,33] pD ark])
def aax:ci:=cn AM E_
def Zr (n:Nat):ci:=cn AM (oR n)
def ahc:=ſ [ā,Z?,þ] [] [Z?] [] (dL [ż 13 [1] [3,5,22] pD ark]) pi
def Uj:=ſ [À] [] [Z?] [] .leaf db
def aqd:=ſ zQ [] [Z?] [] .leaf jK
def I1:=ſ [Ã,Z?,Z?,æ] ai1 [À] ai1 (dL [ż 6 [1,2,3] [0,9] xc ai1,ż 17 [1,2,3,9] [0,46] ij ai1]) eJ
def Qo:=ſ [Ã,đ] ai1 [Z?] ai2 (dL [(1,(.a [.qw 0 4,.qw 0 5])),ż 28 [6,7,8,9,30] [0,3,5,67] ari La8,ż 41 [] [4] [Z?] ai2,ż 44 [6,7,8,9,30] [0,3,5,91] ari La8,ż 51 [] [4] [Z?] ai2,ż 63 [] [4] [Z?] ai2,ż 66 [6,7,8,9,30] [0,3,5,119] ari La8,ż 89 [] [4] [Z?] ai2,ż 108 [] [0,3,187] [Ã,î,À] [.G 243 [ó,Č,Z?,ñ,ô,ç],Ē,Ğ,Ğ,Ŵ,Õ,Õ],ż 131 [] [4] [Z?] ai2,ż 137 [6] [0,3,5,14] [Ã,î,ġ,Z?] La8,ż 139 [6] [0,3,5,14] [Ã,î,ġ,Z?] La8,ż 140 [6,14] [0,3,5,253] ari La8]) nG
def uc:=ž [Ã,ę] ai1 zQ awc (dL [(1,(.a [.qw 0 3,.qw 0 4,.qw 0 5])),ż 6 [1] [0,6] xc awc,ż 19 [1,6] [0,7,8] [Ã,î,Z?] [.G 243 [ó,Č,Z?,ô,ç,é],Ğ,Ğ,Ğ,Ŵ,Ē,Õ,Õ],ż 37 [1,6] [0,8,9] YA awc])
def Qp:ci:=cn uc xZ
def PO (n:Nat):ci:=cn uc (iU n)
def AQ:=ž [ę] [] [Z?] [] (dL [ż 8 [0] [3,4] zQ []])
def ab0:ci:=cn AQ Fb
def Zt (n:Nat):ci:=cn AQ (oU n)
def aay:=ſ [ó] [] zQ [] (dL [ż 8 [0] [4,5,6,7,8] (Z?::Z?::Z?::Œ) [],ż 16 [0,8] [4,5,6,7] (Z?::Z?::Œ) [],ż 38 [0,8] [4,5,6,7,9] [Z?,Z?,Z?,Z?,Ã] ahx,ż 39 [0,4,5,6,7,8,36] [9,39] ij ahx,ż 47 [0,4,5,6,7,8,36] [9,47] ij ahx,ż 61 [0,4,5,6,7,8] [9,69] ij ahx]) tC
def Ui:=ſ [ā] [] zQ [] (dL [ż 6 [] [1,4] xc Yy,ż 17 [4] [1,5,37] pD arl,ż 29 [] [1,6] xc Yy,ż 51 [6] [1,7,8] uK arl,ż 62 [6,8] [1,7,90] pD arl]) ph
def Uk:=ſ [ā] [] zQ [] (dL [ż 44 [] [1,8,9] YA Yy,(67,(.a [.qn 10 3 218 .sm,.qn 10 4 9 .str,.qn 10 5 9 .str])),ż 69 [] [1,10,11] uK [Ů,.G 243 [ó,Č,Z?,í,Þ,ä],Ē,Õ,Õ]]) gi
def AL:=ž [å,Z?,Z?,ę] [ĭ] [ñ,Z?] [Ğ,ĭ] (dL [(1,(.a [.qw 0 0])),ż 6 [1,3] [0,2,10] (ñ::Œ) [Ğ,ĭ],(25,(.a [.nil 8 154 qG]))])
def aao:ci:=cn AL MD
def Zq (n:Nat):ci:=cn AL (rn n)
def XU:=ſ [ă,æ] [] [Z?] [] (dL [ż 6 [0,1] [5] [Z?] []]) mA
def XW:=ſ [Ð,æ] [] [Z?] [] (dL [ż 6 [1] [2,5] xc rU]) oN
def aas:=ſ [ā] [] [Ð] [] (dL [Ž 18 [] [1,2,3,6] Bb aAi [.qn 3 0 134 kF,.qn 3 1 152 tU,.qn 3 2 137 itK,.qn 3 3 9 .str],ż 31 [6] [1,2,3] Ŏ aAi,ż 32 [6,31] [1,2,3,7,39] yl awg,ż 42 [6] [1,2,3,7,8] (Ŏ++[ß,Z?]) awg,ż 53 [6,31] [1,2,3,7,65] yl awg,(69,(.a [.qn 3 5 154 qG])),Ž 71 [] [1,2,3,9] Bb [Ů,ŀ,.G 31 [Þ,ä,ô,ç,é,ċ],ņ,Ň,Ł,Õ,Õ,ĭ] [.qn 3 4 9 .str]]) wq
def aap:=ſ [Ð] [] [Ò,À] [] (dL [Ž 8 [] [1,4,5] Yw ahz [.nil 4 9 .str],ż 15 [] [1,4,5] Yw ahz,ż 37 [5] [1,4,6,51] [Ã,ñ,Ù,À] aw4,ż 48 [5] [1,4,6,7] [Ã,ñ,Ù,Z?] aw4,ż 59 [5,7] [1,4,6,93] [Ã,ñ,Ù,À] aw4,ż 72 [] [1,4,9] Yw ahz,ż 87 [] [1,4,10] Yw ahz]) q_
def Lf:=ſ [Ð] [] [À] [] (dL [ż 3 [] [1,49] ij rU,ż 24 [3] [1,5] xc rU,ż 33 [3,5] [1,79] ij rU,ż 45 [] [1,6] xc rU,ż 56 [6] [1,109] ij rU,ż 68 [] [1,8] xc rU,ż 76 [8] [1] [Ã] rU,ż 80 [8] [1,9,132] pD ť,ż 87 [8] [1,9,146] pD ť,ż 90 [8] [1,165] ij rU]) iz
def OC:=ſ [ø] [] sW [] (dL [ż 6 [4] [1,5] ij [Ŭ],ż 24 [4] [1,13] ij [Ŭ],ż 46 [4] [1,37] ij [Ŭ]]) ky
def XV:=ſ [Z?] [] [À] [] (dL [ż 2 [] [2] [À] []]) rE
def aaq:=ſ [.d (.sl sZ),Z?] [] [À] [] (dL [ż 6 [0] [1,5] zQ [],ż 14 [0,5] [1] [Z?] [],ż 16 [0,1,5] [19] [À] []]) re
def aqc:=ſ zQ [] [À] [] (dL [ż 2 [] [4] [À] []]) jY
def aar:=ſ (Ð::Œ) [] [À] [] (dL [ż 2 [] [6] [À] []]) rf
def Uf:=ſ [Ð,ø] [] [À] [] (dL [ż 9 [] [4] [À] [],ż 15 [] [4] [À] [],ż 30 [6] [2,3,59] pD arj,ż 37 [] [4] [À] [],ż 40 [6] [2,3,78] pD arj,ż 55 [] [4] [À] [],ż 58 [6] [2,3,98] pD arj,ż 72 [6] [2,3,108] pD arj,ż 97 [] [4] [À] [],ż 103 [] [4] [À] []]) mJ
def I0:=ſ [Ð,Z?,.d zR] [] [À] [] (dL [ż 5 [1,7] [3,5,26] pD an5,ż 16 [1,7] [3,5,8] uK an5,ż 28 [1,7,8] [3,5,9,67] C1 aw5,ż 36 [1,7,8] [3,5,9,100] C1 aw5,ż 44 [1,7,8] [3,5,9,122] C1 aw5,ż 56 [1,7,8,10] [3,5,11] uK an5]) iJ
def aat:=ſ [Ü] [] [À] [] (dL [ż 3 [] [1,17] ij [ũ],ż 14 [] [1,3] xc [ũ]]) kx
def Ug:=ſ [Ã,ø] La5 [] La4 .leaf cJ
def sQ:=ž [Ã,þ,Z?] La5 [] La4 (dL [ż 2 [] [] [] La4])
def Oz:ci:=cn sQ iZ
def MP (n:Nat):ci:=cn sQ (ja n)
def Ld:=ſ [Ã,đ] La5 [] La4 .leaf m8
def Qn:=ſ [Ã,æ] La5 [Z?] La5 (dL [ż 6 [1] [0,5] xc La5]) j9
def sR:=ž [Ã,ę] La5 [] La4 (dL [(1,(.a [.qw 0 7])),ż 3 [1] [0,4] xc La4])
def OA:ci:=cn sR wj
def MQ (n:Nat):ci:=cn sR (dW n)
def yg:=ž [Ã,đ] La5 [] La4 (dL [(1,(.a [.qw 0 7])),ż 10 [] [] [] La4,ż 15 [4,25] [0,3,31] [Ã,Ù,À] [.G 204 (ő++Ò::Þ::Œ),Ğ,Ŵ,Ķ]])
def PN (n:Nat):ci:=cn yg (fk n)
def sS:=ž [Ã,đ] La5 [] La4 .leaf
def Gh (n:Nat):ci:=cn sS (dk n)
def uY:=ž (Ã::đ::Z?::Œ) La5 [] La4 .leaf
def KW (n:Nat):ci:=cn uY (dT n)
def Uh:=ſ [ā] [] (Ü::Œ) [] (dL [Ž 20 [] [1,2,7,8,9] (Ŏ++Œ) [Ů,.G 129 an0,.G 129 (ő++[Þ]),.H 191 J zR] [.qn 7 6 191 zR],(32,(.a [.qn 10 7 208 sZ])),ż 45 [8,9] [1,2,7,10,11,12] aw2 aAo,ż 59 [8,9,12,13] [1,2,7,10,11,14] aw2 aAo]) sA
def alo:=ſ O9 [] [À] [] (dL [ż 6 [0,1] [5] [Z?] []]) oM
def aln:=ſ O9 [] sW [] (dL [ż 6 [0,1] [5] [Z?] [],ż 8 [0,1,5] [18] [À] [],ż 16 [0,1,5] [32] [À] []]) yJ
def aan:=ſ [Ê,Ê] [] sW [] (dL [ż 8 [0,1] [5,6] O9 [],ż 23 [1] [5,7] O9 []]) wh
def Qm:=ſ [Z?] [] [Z?] [] (dL [ż 3 [0] [8] [À] []]) nF
def aha:=ſ [È] [] [.agg arf] an7 (dL [Ž 8 [] [1,2,3,4] Bb (ů::Ľ::Ÿ::œ) [.qn 3 2 54 (.sl aN)]]) cr
def ah9:=ſ [ø,.agg arf] an7 [.agg arf,À] an7 (dL [ż 8 [6] [2,3,4,7] [Ù,ß,î,Z?] awd,ż 17 [6,7] [2,3,4,33] [Ù,ß,î,À] awd,ż 32 [] [2,3,4,8,9,10] [Ù,ß,î,Z?,À,Ê] awd]) yI
def XT:=ſ [.d zR,È] [] [È,À] [] (dL [ż 3 [] [2,3,4,23] C1 [Ĩ,ů,Ľ],ż 16 [] [2,3,4,6] Bb aAg,ż 26 [6] [2,3,4,44] C1 aAg]) oL
def aal:=ſ [Ð] [] [û] [] (dL [Ž 8 [] [1,2,3,4] Bb [Ũ,ú,.G 52 [Þ,Z?,Ô,Ô],Ý] [.qn 3 0 146 dO],Ž 23 [] [1,2,3,5] Bb [Ũ,ú,.G 52 [Þ,Z?,ä,Ô],Ý,Ñ] [.qn 3 2 4 .bool],Ž 38 [] [1,2,3,6] Bb [Ũ,ú,.G 52 an3,Ý,Ñ,Ú] [.qn 3 3 111 hP],ż 49 [6] [1,2,3,7] YB [Ũ,ú,.G 52 [ä,Z?,ô,ç],.G 111 [.d hP],Ý,Ñ,Ú]]) tB
def ah7:=ſ [Ð,û] [] [À] [] (dL [ż 6 [] [2,3,5] uK ac3,ż 15 [5] [2,3,31] pD ac3,ż 23 [] [4] [À] []]) pf
def aqb:=ſ zQ [] [À] [] (dL [ż 2 [] [4] [À] []]) sw
def aak:=ſ (Ð::Œ) [] [À] [] (dL [ż 6 [2,7] [3,8] ij rU,ż 36 [2,7] [3,18] ij rU,ż 46 [2,7] [3,26] ij rU,ż 53 [] [6] [À] [],ż 56 [2,7] [3,43] ij rU,ż 71 [] [6] [À] [],ż 74 [2,7] [3,61] ij rU,ż 92 [2,7] [3,71] ij rU,ż 102 [2] [3,79] ij rU]) qZ
def Ue:=ſ (Ð::û::Z?::Œ) [] [À] [] (dL [ż 3 [2,3,4] [5,6,30] pD ac3,ż 25 [] [10] [À] [],ż 50 [] [10] [À] [],ż 56 [] [10] [À] [],ż 59 [2,4,70] [5,6,11,119] C1 [Ũ,Ų,.G 111 [.d hP]],ż 99 [2,4,70] [5,6,160] pD ac3,ż 116 [] [10] [À] [],ż 122 [] [10] [À] []]) ic
def Ud:=ſ [û,Z?] [] sW [] (dL [Ž 8 [1] [2,5,6] Yw an4 [.nil 5 3 aN],ż 16 [1,6] [2,5] [Ã,ñ] an4,ż 17 [1,6] [2,5,30] [Ã,ñ,À] an4]) pe
def Uc:=ſ O9 [] sW [] (dL [Ž 8 [0,1] [5,6] [å,Z?] [Å] [.nil 5 3 aN],ż 16 [0,1,6] [5] [å] [Å]]) su
def ah8:=ſ [û] [] [ĝ] aw3 (dL [Ž 8 [] [1,2,3,4] Bb [Ų,ú,.G 52 an3,Ý,Ñ,Ú] [.qn 3 0 146 dO]]) gU
def nN:=ž [ĝ,Z?] aw3 sW aw3 (dL [Ž 8 [1] [2,5,6] [ß,ä,Z?] aw9 [.nil 5 3 aN],ż 16 [1,6] [2,5] [ß,ä] aw9,ż 17 [1,6] [2,5,30] [ß,ä,À] aw9])
def Ql:ci:=cn nN nE
def Oy:ci:=⟨nN.pre,⟨nN.post.vs,[]⟩,mb⟩
def aam:=ſ (Ð::û::Z?::Z?::Œ) [] [û,Z?,À] [] (dL [ż 17 [] [7,12,15] uK awb,ż 26 [2,4,5,15,30] [6,7,12,45] C1 aAh,ż 34 [2,4,5,15,30] [6,7,12,54] C1 aAh,ż 90 [] [7,12,17] uK awb,ż 109 [18] [7,12,19] uK awb]) oK
def aaj:=ſ [Ü] [] [ÿ] [] (dL [Ž 16 [] [1,2,3,4] Bb [ũ,Î,.G 124 (ō++[Þ,Ô,Ô]),Á] [.qn 3 4 2 aN],Ž 31 [] [1,2,3,5] Bb [ũ,Î,.G 124 (ō++[Þ,ä,Ô]),Á,Á] [.qn 3 5 2 aN],Ž 46 [] [1,2,3,6] Bb [ũ,Î,.G 124 awa,Á,Á,.H 195 J fw] [.qn 3 6 195 fw]]) wg
def ah5:=ſ [Ü,ÿ] [] [À] [] (dL [ż 3 [] [2,3,46] pD an6,ż 14 [] [2,3,5] uK an6,ż 25 [5] [2,3,97] pD an6]) yH
def ah3:=ſ [Z?] [] [Z?] [] (dL [ż 5 [0] [3,10] [å,À] [ì]]) Dh
def Xy:=ſ [ø,È] [] [Z?] [] (dL [ż 6 [6] [2,3,7] pD [Ŭ,ů],ż 28 [] [2,40] ij [Ŭ]]) xo
def Ub:=ſ [Ü,ÿ,Z?] [] [Ï,À] [] (dL [ż 3 [2] [3,4,6,25] C1 [ũ,Ż,Í],Ž 54 [] [6,8,9,10] YB aAe [.qn 10 5 3 aN],ż 59 [] [6,8,9,10,98] yl [Í,ů,Ŭ,Í],Ž 68 [] [6,10] [Ã,Ë] [Í,.G 69 (ŝ++[í,Þ]),Å,Å] [.qn 10 6 3 aN],ż 69 [] [6,8,9,10,123] yl aAe]) pd
def aah:=ſ [Ð] [] [â] [] (dL [Ž 8 [] [1,2,3,4] Bb [Ũ,ħ,.G 56 awa,Á,.H 2 af aN,ì] [.qn 3 4 2 aN]]) mI
def ah2:=ſ [Ð,â] [] [À] [] (dL [ż 2 [] [4] [À] []]) vM
def aqa:=ſ zQ [] [À] [] (dL [ż 2 [] [4] [À] []]) Ga
def Ua:=ſ O9 [] [À] [] (dL [ż 6 [0,1] [5] [Z?] [],ż 15 [0,1,5] [40] [À] []]) pa
def aaf:=ſ [â,Ï] [] [À] [] (dL [ż 21 [] [4] [À] [],ż 24 [7] [2,3,40] pD Ţ,ż 47 [] [4] [À] []]) v_
def ah1:=ſ [Ð,â,Ï] [] [â,À] [] (dL [ż 3 [] [3,4,5,6,46] yl Pc,ż 10 [] [3,4,5,6] YB Pc,ż 11 [] [3,4,5,6,55] yl Pc,ż 21 [] [3,4,5,6,78] yl Pc,ż 28 [] [3,4,5,6,8] yl Pc,ż 31 [] [3,4,5,6,110] yl Pc,ż 39 [] [3,4,5,6,125] yl Pc,ż 47 [] [3,4,5,6,154] yl Pc,ż 58 [] [3,4,5,6,9,10] aw2 [Ũ,Ū,ŧ,ħ,.G 56 [Ô,Z?,Ô,Ô,ô,ç,é],Á,Á,Å],ż 66 [] [5,6,9] Ŏ aw0,ż 72 [] [5,6,9] Ŏ aw0]) kU
def aag:=ſ [Į,Z?,Z?,Ê] [] [À] [] (dL [ż 6 [0,1,2,3] [9] [Z?] [],ż 23 [0,1,2,3,9] [10,11,12] [Z?,À,Z?] [],ż 31 [0,1,2,3,9,12] [10,11] [Z?,À] [],ż 38 [0,1,2,3,9,10,12] [11] [À] []]) oH
def aai:=ſ [ö] [] zQ [] (dL [ż 24 [] [1,4,5] uK ś,ż 38 [5] [1,4,7,63] C1 (ś++[Ū])]) oI
def XS:=ſ [ÿ] [] [.agg [ĝ,Þ,ä,.qg 5 4 1]] (ŏ++.G 195 [Z?,ç,é,Z?]::œ) (dL [(8,(.u 2))]) ux
def XI:=ſ QL [] QM [] (dL [(27,(.s 5 0 0 1)),ż 37 [] [3,4,5,6,7,9,14,15,16] QQ awm,ż 38 [16,77] [3,4,5,6,7,9,14,15,78] Sd awm,ż 83 [16] [3,4,5,6,7,9,14] QO (ş++Ą::Á::Á::Ą::œ),ż 84 [16] [3,4,5,6,7,9,14,15,154] Sd awm,ż 95 [] [4,5,6,7,9,14] QN [.G 124 (ō++[ç,é,.qg 8 4 1]),ű,Î,Í,ŧ,ů,Á,Á,ů],ż 96 [] [3,4,5,6,7,9,14,183] QP (ş++[ą,Á,Á,ą]),(102,(.s 5 0 0 1)),(104,(.a [.pk 4 6 fw]))]) gR
def XR:=ſ [ÿ] [] [ŷ] (ŏ++.G 195 [Z?,ç,é,Z?,È]::œ) (dL [(8,(.u 3))]) uw
def XH:=ſ QL [] QM [] (dL [(27,(.s 5 0 0 1)),ż 37 [] [3,4,5,6,7,9,14,15,16] QQ awo,ż 38 [16,77] [3,4,5,6,7,9,14,15,78] Sd awo,ż 83 [16] [3,4,5,6,7,9,14] QO (Ō++Ą::Á::Á::.G 195 [Z?,Ĝ,ü,Z?,È]::œ),ż 84 [16] [3,4,5,6,7,9,14,15,154] Sd awo,ż 95 [] [4,5,6,7,9,14] QN aAm,ż 96 [] [3,4,5,6,7,9,14,183] QP (Ō++[ą,Á,Á,.G 195 [Z?,Ê,è,Z?,È]]),(102,(.s 5 0 0 1)),(104,(.a [.pk 4 6 fw]))]) iy
def XQ:=ſ [ÿ] [] [ŷ] (ŏ++.G 195 [È,Z?,ç,é,Z?]::œ) (dL [(8,(.u 3))]) uv
def XG:=ſ QL [] QM [] (dL [(27,(.s 5 0 1 1)),ż 37 [] [3,4,5,6,7,9,14,15,16] QQ awn,ż 38 [16,77] [3,4,5,6,7,9,14,15,78] Sd awn,ż 83 [16] [3,4,5,6,7,9,14] QO (Ō++Ą::Á::Á::.G 195 [È,Z?,Ĝ,ü,Z?]::œ),ż 84 [16] [3,4,5,6,7,9,14,15,154] Sd awn,ż 95 [] [4,5,6,7,9,14] QN aAm,ż 96 [] [3,4,5,6,7,9,14,183] QP (Ō++[ą,Á,Á,.G 195 [È,Z?,Ê,è,Z?]]),(102,(.s 5 0 1 1)),(104,(.a [.pk 4 6 fw]))]) gQ
def XP:=ſ [ÿ] [] avz (ŏ++.G 195 (Z?::ç::é::ţ)::œ) (dL [(8,(.u 4))]) uu
def XF:=ſ QL [] QM [] (dL [(27,(.s 5 0 0 1)),ż 37 [] [3,4,5,6,7,9,14,15,16] QQ awr,ż 38 [16,77] [3,4,5,6,7,9,14,15,78] Sd awr,ż 83 [16] [3,4,5,6,7,9,14] QO (ŉ++Ą::Á::Á::.G 195 (Z?::Ĝ::ü::ţ)::œ),ż 84 [16] [3,4,5,6,7,9,14,15,154] Sd awr,ż 95 [] [4,5,6,7,9,14] QN awh,ż 96 [] [3,4,5,6,7,9,14,183] QP (ŉ++[ą,Á,Á,.G 195 (Z?::Ê::è::ţ)]),(102,(.s 5 0 0 1)),(104,(.a [.pk 4 6 fw]))]) lm
def XO:=ſ [ÿ] [] avz (ŏ++.G 195 [È,Z?,ç,é,Z?,È]::œ) (dL [(8,(.u 4))]) ut
def XE:=ſ QL [] QM [] (dL [(27,(.s 5 0 1 1)),ż 37 [] [3,4,5,6,7,9,14,15,16] QQ awq,ż 38 [16,77] [3,4,5,6,7,9,14,15,78] Sd awq,ż 83 [16] [3,4,5,6,7,9,14] QO (ŉ++Ą::Á::Á::.G 195 [È,Z?,Ĝ,ü,Z?,È]::œ),ż 84 [16] [3,4,5,6,7,9,14,15,154] Sd awq,ż 95 [] [4,5,6,7,9,14] QN awh,ż 96 [] [3,4,5,6,7,9,14,183] QP (ŉ++[ą,Á,Á,.G 195 [È,Z?,Ê,è,Z?,È]]),(102,(.s 5 0 1 1)),(104,(.a [.pk 4 6 fw]))]) j8
def XN:=ſ [ÿ] [] avz (ŏ++.G 195 [È,È,Z?,ç,é,Z?]::œ) (dL [(8,(.u 4))]) ur
def XD:=ſ QL [] QM [] (dL [(27,(.s 5 0 2 1)),ż 37 [] [3,4,5,6,7,9,14,15,16] QQ awp,ż 38 [16,77] [3,4,5,6,7,9,14,15,78] Sd awp,ż 83 [16] [3,4,5,6,7,9,14] QO (ŉ++Ą::Á::Á::.G 195 [È,È,Z?,Ĝ,ü,Z?]::œ),ż 84 [16] [3,4,5,6,7,9,14,15,154] Sd awp,ż 95 [] [4,5,6,7,9,14] QN awh,ż 96 [] [3,4,5,6,7,9,14,183] QP (ŉ++[ą,Á,Á,.G 195 [È,È,Z?,Ê,è,Z?]]),(102,(.s 5 0 2 1)),(104,(.a [.pk 4 6 fw]))]) iY
def XM:=ſ [ÿ] [] arm (ŏ++.G 195 [Z?,ç,é,Z?,È,È,È]::œ) (dL [(8,(.u 5))]) uq
def dN:=ž QL [] QM [] (dL [(27,(.s 5 0 0 1)),ż 37 [] [3,4,5,6,7,9,14,15,16] QQ awl,ż 38 [16,77] [3,4,5,6,7,9,14,15,78] Sd awl,ż 83 [16] [3,4,5,6,7,9,14] QO (ň++Ą::Á::Á::.G 195 [Z?,Ĝ,ü,Z?,È,È,È]::œ),ż 84 [16] [3,4,5,6,7,9,14,15,154] Sd awl,ż 95 [] [4,5,6,7,9,14] QN arp,ż 96 [] [3,4,5,6,7,9,14,183] QP (ň++[ą,Á,Á,.G 195 [Z?,Ê,è,Z?,È,È,È]]),(102,(.s 5 0 0 1)),(104,(.a [.pk 4 6 fw]))])
def XC:ci:=cn dN rD
def XL:=ſ [ÿ] [] arm (ŏ++.G 195 (È::Z?::ç::é::ţ)::œ) (dL [(8,(.u 5))]) uo
def XB:=ſ QL [] QM [] (dL [(27,(.s 5 0 1 1)),ż 37 [] [3,4,5,6,7,9,14,15,16] QQ awk,ż 38 [16,77] [3,4,5,6,7,9,14,15,78] Sd awk,ż 83 [16] [3,4,5,6,7,9,14] QO (ň++Ą::Á::Á::.G 195 (È::Z?::Ĝ::ü::ţ)::œ),ż 84 [16] [3,4,5,6,7,9,14,15,154] Sd awk,ż 95 [] [4,5,6,7,9,14] QN arp,ż 96 [] [3,4,5,6,7,9,14,183] QP (ň++[ą,Á,Á,.G 195 (È::Z?::Ê::è::ţ)]),(102,(.s 5 0 1 1)),(104,(.a [.pk 4 6 fw]))]) rC
def XK:=ſ [ÿ] [] arm (ŏ++.G 195 [È,È,Z?,ç,é,Z?,È]::œ) (dL [(8,(.u 5))]) um
def XA:=ſ QL [] QM [] (dL [(27,(.s 5 0 2 1)),ż 37 [] [3,4,5,6,7,9,14,15,16] QQ awj,ż 38 [16,77] [3,4,5,6,7,9,14,15,78] Sd awj,ż 83 [16] [3,4,5,6,7,9,14] QO (ň++Ą::Á::Á::.G 195 [È,È,Z?,Ĝ,ü,Z?,È]::œ),ż 84 [16] [3,4,5,6,7,9,14,15,154] Sd awj,ż 95 [] [4,5,6,7,9,14] QN arp,ż 96 [] [3,4,5,6,7,9,14,183] QP (ň++[ą,Á,Á,.G 195 [È,È,Z?,Ê,è,Z?,È]]),(102,(.s 5 0 2 1)),(104,(.a [.pk 4 6 fw]))]) oJ
def XJ:=ſ [ÿ] [] arm (ŏ++.G 195 [È,È,È,Z?,ç,é,Z?]::œ) (dL [(8,(.u 5))]) ul
def Xz:=ſ QL [] QM [] (dL [(27,(.s 5 0 3 1)),ż 37 [] [3,4,5,6,7,9,14,15,16] QQ awi,ż 38 [16,77] [3,4,5,6,7,9,14,15,78] Sd awi,ż 83 [16] [3,4,5,6,7,9,14] QO (ň++Ą::Á::Á::.G 195 [È,È,È,Z?,Ĝ,ü,Z?]::œ),ż 84 [16] [3,4,5,6,7,9,14,15,154] Sd awi,ż 95 [] [4,5,6,7,9,14] QN arp,ż 96 [] [3,4,5,6,7,9,14,183] QP (ň++[ą,Á,Á,.G 195 [È,È,È,Z?,Ê,è,Z?]]),(102,(.s 5 0 3 1)),(104,(.a [.pk 4 6 fw]))]) mz
def ah6:ci:=cn dN Di
def ah4:=ſ [Ü,ÿ,Ô,ķ] [] [Į,ÿ] [] (dL [(1,(.a [.nil 2 69 gm])),ż 6 [3] [2,4,5,9,10] [å,Ë,Ù,ß,Z?] aw8,ż 8 [3,10] [2,4,5,9,22] [å,Ë,Ù,ß,À] aw8,ż 14 [3,10] [2,4,5,9] [å,Ë,Ù,ß] aw8]) yG
def alm:=ſ [Ü,ķ] [] [ö,ÿ] [] .leaf Gb
def Ll:=ſ xc Yx [Z?] Yx (dL [ż 3 [1] [0,18] ij ahy]) bF
def ahe:=ſ [Z?] [] [þ] [] .leaf tG
def ab7:=ſ [æ] [] [þ] [] .leaf rj
def Ur:=ſ [Z?,þ,þ] [] [þ] [] .leaf pm
def Us:=ſ [æ,þ] [] [đ] [] .leaf j6
def X6:=ſ [] [] [ó] [] .leaf uz
def Qz:=ſ [Ņ] [] [ķ] [] (dL [Ž 8 [0] [3,4] [å,Z?] [.H 73 J hY] [.nil 3 73 hY]]) tZ
def pB:=ž xc ac4 [þ] ac4 (dL [ż 8 [1,6] [0,4,5,14] [Ã,ß,ä,À] [.G 212 ati,ū,Ā,.G 216 [Z?,Z?,æ,Ô],ė]])
def I5:ci:=cn pB fI
def Ip (n:Nat):ci:=cn pB (mj n)
def Hp:=ſ [Ã,æ] ac4 [À] ac4 .leaf fh
def oe:=ž YA ac4 [ä] [.G 212 aw6,Ę,Ğ,Ā,Ģ] (dL [(1,(.a [.qw 0 7])),Ž 8 [1,2] [0,7,8] [Ã,Þ,Z?] aAf [.nil 7 218 .sm],ż 10 [1,2,8] [0,7,22] [Ã,Þ,À] aAf,(21,(.a [.nil 6 218 .sm]))])
def Ho:ci:=cn oe sC
def Gi (n:Nat):ci:=cn oe (dU n)
def tP:=ž xc ac4 [đ] [.G 212 aw6,Ę,Ğ,Ā] (dL [(1,(.a [.qw 0 7])),ż 6 [1,5] [0,4,6] O_ La2,ż 28 [1,5,6] [0,4,74] O_ La2,Ž 33 [] [4,7] [ß,î] [.G 212 (Ş++[ô]),ū,Ğ,.G 218 atl,.G 218 [Z?,Z?,æ,æ,Ô,Z?,Z?,æ,.d (.sl .ex),ç,é],Ā,Ģ,Ģ] [.qn 7 10 218 .sm],ż 42 [1,5,6] [0,4,100] O_ La2,ż 56 [1,5,6] [0,4,133] O_ La2,ż 64 [1,5,6] [0,4,165] O_ La2,ż 70 [1,5,6] [0,4,188] O_ La2,ż 82 [1,5,6] [0,4,210] O_ La2,ż 94 [5,6] [0,4,235] O_ La2,ż 100 [5] [0,4,258] O_ La2,ż 106 [5] [0,4,278] O_ La2,ż 114 [] [0,4,308] O_ La2])
def Io (n:Nat):ci:=cn tP (e_ n)
def sT:=ž [Ã,æ,Z?] ac4 [ę] [.G 212 aw6,Ę,Ğ,Ā] .leaf
def Gj (n:Nat):ci:=cn sT (eL n)
def Qy:=ſ [Ņ] [] [ā] [] (dL [(5,(.a [.qn 3 7 9 .str])),Ž 14 [5] [2,3,4,6,7] (Ŏ++[Þ,Z?]) [.G 168 [Ô,Ô],.G 212 [î,Z?,Z?,À,À,À,À,ô],.G 168 [ó,ç],ė,ū,Ā,.H 202 J u_] [.qn 4 1 202 u_],Ž 27 [5,7] [2,3,4,6,8] (Ŏ++[Þ,î]) La7 [.qn 8 3 218 .sm],Ž 34 [5,7] [2,3,4,6,8,9] (Ŏ++[Þ,î,Z?]) La7 [.qn 8 3 218 .sm],ż 48 [5,7] [2,3,4,6,8] (Ŏ++[Þ,î]) La7,ż 49 [5,7] [2,3,4,6,8,79] (Ŏ++[Þ,î,À]) La7]) qF
def ab8:=ſ [Ņ] [] [Ü] [] .leaf Ar
def X7:=ſ [Ņ,Ņ] [] [ö] [] .leaf xr
def T7:=ſ [] [] [Ð] [] (dL [Ž 8 [21] [0,1,22] uK aro [.qn 1 5 154 qG],ż 22 [2,21,22] [0,1,3] uK aro]) o9
def Ox:=ſ [â] [] sW [] (dL [Ž 8 [8,9] [3,10] [å,Z?] [Å] [.nil 3 3 aN],ż 16 [8,9,10] [3] [å] [Å]]) oG
def T5:=ſ [] [] sW [] .leaf vx
def Qh:=ſ YA Yx [Z?] Yx (dL [ż 6 [2,7] [0,8] ij ahy,ż 16 [2,7] [0,16] ij ahy,ż 26 [2,7] [0,21] ij ahy,ż 44 [2,7] [0,26] ij ahy,ż 70 [2] [0,33] ij ahy]) qC
def T4:=ſ (Ã::â::Œ) Yx [Z?] Yx (dL [ż 18 [10] [0,5,24] pD [ū,Ū]]) sj
def Xq:=ſ [Ã,ñ] [Ę,Å] sW [Ę,Å] (dL [Ž 8 [9] [0,1,5,8,10] [Ã,ñ,í,ñ,Z?] aw1 [.nil 5 3 aN],ż 16 [9,10] [0,1,5,8] [Ã,ñ,í,ñ] aw1,ż 19 [7,9,10] [0,1,5,8,24] [Ã,ñ,í,ñ,À] aw1]) iw
def T6:=ſ [Ã,â,Ð,į] aAd [Ï] aAd (dL [ż 8 [9] [0,3,5,6,8,11] [Ã,į,Ė,Ĳ,.K 8 0,.K 9 0] aAj,ż 9 [9] [0,3,5,6,8,11,36] [Ã,į,Ė,Ĳ,.K 8 0,.K 9 0,À] aAj,ż 18 [9] [0,3,8,11] [Ã,į,Ė,Ĳ] aAk,ż 19 [9] [0,3,8,11,74] [Ã,į,Ė,Ĳ,À] (Ŗ++[Í,Í]),(22,(.s 9 0 0 4)),ż 24 [] [8,11] [Ė,Ĳ] (Ŗ++[Í,.G 69 (ŝ++[Ê,Ê])]),ż 25 [9] [0,3,8,11,89] [Ã,į,Ė,Ĳ,À] aAk,(28,(.s 9 0 0 4))]) sq
def Xr:=ſ [Ã,â,Ð,Z?,À] Yx [Į] Yx (dL [(8,(.a [.qn 12 0 3 aN,.qn 12 1 3 aN,.qn 12 2 3 aN,.qn 12 3 3 aN])),ż 9 [3,11] [0,6,7,12] (Ŏ++[.qg 3 1 4]) awe,(10,(.u 5)),ż 18 [3,4,11,22,23] [0,6,7,12] (Ŏ++[.qg 3 1 4]) awe,ż 21 [3,4,11,13,22,23] [0,6,7,12,39] (Ŏ++[.qg 3 1 4,À]) awe,Ž 29 [3] [0,6,7,11,12] (Ŏ++[Þ,Ĵ]) awf [.nil 11 69 gm],ż 31 [3] [0,6,7,11,12,65] (Ŏ++[Þ,Ĵ,À]) awf,ż 36 [3] [0,6,7,11,12] (Ŏ++[Þ,Ĵ]) awf,ż 47 [3] [0,6,7,11,12,14,15] (Ŏ++[Þ,Ĵ,ġ,Ė]) aAl,ż 48 [3] [0,6,7,11,12,14,15,87] (Ŏ++[Þ,Ĵ,ġ,Ė,À]) aAl,(51,(.s 14 0 0 4))]) ui
def T8:=ſ UO [] [ö] [] (dL [ż 2 [1] [0,4] [Ņ,Ã] [.G 34 an0],ż 22 [1,9] [4,5,6,7,8,10] (Ŏ++[ß,ä,Z?]) [.G 34 an0,ū,.G 34 (ő++[Ô]),Ū,.H 69 af gm],Ž 37 [1,48] [4,5,6,7,47,49] (Ŏ++[ß,ä,Z?]) aAn [.qn 6 6 69 gm],ż 45 [1,48,49] [4,5,6,7,47] (Ŏ++[ß,ä]) aAn]) sr
def IZ:=ſ [Ħ,Z?] [] [ö] [] .leaf o_
def P3:aL Pg 153 Qs:=mk _ _ an bY
def M8:aL Pg 121 OD:=mk _ _ (ac P3 an) bY
def JD:aL Pg 120 X1:=mk _ _ an bY
def Z0:aL Pg 154 ab3:=mk _ _ an bY
def ZZ:aL Pg 122 ab2:=mk _ _ (ac JD (ac Z0 an)) bY
def uC:aL Pg 84 X2:=mk _ _ (ac JD (ac M8 (ac ZZ an))) bY
def M7:aL Pg 208 aau:=mk _ _ an bY
def ZS:aL Pg 186 aav:=mk _ _ (ac M7 an) bY
def Wu:aL Pg 188 XX:=mk _ _ (ac M7 an) bY
def ZT:aL Pg 185 aaw:=mk _ _ an bY
def P1:aL Pg 220 Qr:=mk _ _ an bY
def yV:∀n:Nat,aL Pg 209 (KY n)
 |0=>Jv qU
 |n+1=>mk qU (qR (iB n)) (ac uC (ac (yV n) (ac P1 an))) bY
def Bk:aL Pg 209 Lh:=(yV fuel)
def ZY:aL Pg 210 ab1:=mk _ _ an bY
def tM:∀n:Nat,aL Pg 189 (KX n)/\aL Pg 163 (In n)
 |0=>⟨Jv uZ,Jv pA⟩
 |n+1=>⟨mk uZ (kX (eZ n) (dP n)) (ac uC (ac (tM n).2 (ac Bk (ac ZY an)))) bY,mk pA (mh (eZ n) (dP n)) (ac (tM n).1 an) bY⟩
def Iz:aL Pg 163 I2:=(tM fuel).2
def K0:aL Pg 162 Lg:=mk _ _ (ac uC an) bY
def Ww:aL Pg 131 X0:=mk _ _ (ac uC (ac K0 (ac Iz an))) bY
def xA:aL Pg 85 aqe:=mk _ _ an bY
def xy:aL Pg 164 XZ:=mk _ _ an bY
def ya:aL Pg 165 Qq:=mk _ _ an bY
def Wv:aL Pg 211 XY:=mk _ _ (ac xA (ac xy (ac ya an))) bY
def Rm:aL Pg 192 ahb:=mk _ _ (ac Wv an) bY
def JG:∀n:Nat,aL Pg 212 (Zs n)
 |0=>Jv AO
 |n+1=>mk AO (AB (oS n)) (ac (JG n) an) bY
def ZW:aL Pg 212 aaz:=(JG fuel)
def JF:∀n:Nat,aL Pg 213 (Zr n)
 |0=>Jv AM
 |n+1=>mk AM (wG (oR n)) (ac Rm (ac (JF n) an)) bY
def ZU:aL Pg 213 aax:=(JF fuel)
def ag9:aL Pg 193 ahc:=mk _ _ (ac Bk (ac ZW (ac ZU an))) bY
def TI:aL Pg 194 Uj:=mk _ _ an bY
def aph:aL Pg 191 aqd:=mk _ _ an bY
def Iy:aL Pg 190 I1:=mk _ _ an bY
def PZ:aL Pg 166 Qo:=mk _ _ (ac xA (ac xy (ac ya (ac Iy (ac aph (ac Rm (ac ag9 (ac TI an)))))))) bY
def Co:∀n:Nat,aL Pg 135 (PO n)
 |0=>Jv uc
 |n+1=>mk uc (nM (iU n)) (ac (Co n) (ac PZ an)) bY
def P0:aL Pg 135 Qp:=(Co fuel)
def JH:∀n:Nat,aL Pg 134 (Zt n)
 |0=>Jv AQ
 |n+1=>mk AQ (AC (oU n)) (ac (JH n) an) bY
def ZX:aL Pg 134 ab0:=(JH fuel)
def ZV:aL Pg 132 aay:=mk _ _ (ac xy an) bY
def TE:aL Pg 133 Ui:=mk _ _ (ac xA (ac xy (ac ya an))) bY
def Ay:aL Pg 99 Uk:=mk _ _ (ac Ww (ac ZV (ac TE (ac ZX (ac P0 an))))) bY
def JE:∀n:Nat,aL Pg 137 (Zq n)
 |0=>Jv AL
 |n+1=>mk AL (AA (rn n)) (ac (JE n) an) bY
def ZN:aL Pg 137 aao:=(JE fuel)
def Jz:aL Pg 136 XU:=mk _ _ an bY
def JB:aL Pg 195 XW:=mk _ _ an bY
def ZR:aL Pg 100 aas:=mk _ _ (ac Ay (ac Jz (ac ZN an))) bY
def ZO:aL Pg 83 aap:=mk _ _ an bY
def Bj:aL Pg 53 Lf:=mk _ _ (ac ZO (ac uC (ac xA an))) bY
def wC:aL Pg 103 OC:=mk _ _ an bY
def JA:aL Pg 156 XV:=mk _ _ an bY
def ZP:aL Pg 126 aaq:=mk _ _ (ac JA an) bY
def TB:aL Pg 127 aqc:=mk _ _ an bY
def ZQ:aL Pg 155 aar:=mk _ _ (ac TB an) bY
def TA:aL Pg 125 Uf:=mk _ _ (ac TB (ac ZQ an)) bY
def Ix:aL Pg 97 I0:=mk _ _ (ac wC (ac TA (ac ZP (ac TB an)))) bY
def Fj:aL Pg 71 aat:=mk _ _ (ac Bj (ac Ix an)) bY
def pw:aL Pg 102 Ug:=mk _ _ an bY
def Bm:∀n:Nat,aL Pg 171 (MP n)
 |0=>Jv sQ
 |n+1=>mk sQ (sI (ja n)) (ac xA (ac pw (ac (Bm n) (ac JB an)))) bY
def wB:aL Pg 171 Oz:=(Bm fuel)
def KZ:aL Pg 167 Ld:=mk _ _ (ac xA (ac pw (ac wB (ac JB an)))) bY
def PY:aL Pg 170 Qn:=mk _ _ an bY
def kW:∀n:Nat,aL Pg 101 (MQ n)/\aL Pg 138 (PN n)/\aL Pg 168 (Gh n)/\aL Pg 169 (KW n)
 |0=>⟨Jv sR,Jv yg,Jv sS,Jv uY⟩
 |n+1=>⟨mk sR (wF (dW n) (fk n) (dk n) (dT n)) (ac (kW n).2.1 an) bY,mk yg (ua (dW n) (fk n) (dk n) (dT n)) (ac xA (ac pw (ac Jz (ac KZ (ac (kW n).2.2.1 (ac (kW n).2.2.2 (ac PY (ac wB an)))))))) bY,mk sS (nY (dW n) (fk n) (dk n) (dT n)) (ac (kW n).1 (ac pw (ac wB an))) bY,mk uY (uV (dW n) (fk n) (dk n) (dT n)) (ac (kW n).1 (ac pw an)) bY⟩
def M6:aL Pg 101 OA:=(kW fuel).1
def TD:aL Pg 74 Uh:=mk _ _ (ac Ay (ac ZR (ac M6 (ac pw (ac wC an))))) bY
def Cm:aL Pg 29 alo:=mk _ _ an bY
def akx:aL Pg 89 aln:=mk _ _ an bY
def M5:aL Pg 57 aan:=mk _ _ (ac akx an) bY
def PW:aL Pg 187 Qm:=mk _ _ an bY
def mg:aL Pg 160 aha:=mk _ _ an bY
def ag8:aL Pg 161 ah9:=mk _ _ (ac M5 (ac wC (ac ZS (ac PW (ac Wu an))))) bY
def kf:aL Pg 130 XT:=mk _ _ (ac JA (ac mg (ac ag8 an))) bY
def M4:aL Pg 65 aal:=mk _ _ an bY
def Iw:aL Pg 86 ah7:=mk _ _ an bY
def adr:aL Pg 87 aqb:=mk _ _ an bY
def ZM:aL Pg 88 aak:=mk _ _ (ac adr an) bY
def Ax:aL Pg 55 Ue:=mk _ _ (ac Cm (ac Iw (ac adr (ac ZM an)))) bY
def Tz:aL Pg 59 Ud:=mk _ _ an bY
def Tx:aL Pg 58 Uc:=mk _ _ an bY
def kn:aL Pg 26 ah8:=mk _ _ an bY
def PU:aL Pg 59 Ql:=mk nN nE an bY
def M3:aL Pg 59 Oy:= @aL.ro Pg 59 nN.pre nN.post.vs nE mb (PU.holds rfl) rfl (λx _ h=>by rw[show mb x=ax (nE x) λy=>same y.2 x.2 (Z y.1) from rfl]at h;exact h)
def jO:aL Pg 33 aam:=mk _ _ (ac kn (ac Cm (ac Ax (ac M5 (ac Tx (ac M3 an)))))) bY
def ZL:aL Pg 73 aaj:=mk _ _ (ac M4 (ac Fj an)) bY
def ag6:aL Pg 157 ah5:=mk _ _ (ac Fj (ac Iw an)) bY
def ag4:aL Pg 158 ah3:=mk _ _ an bY
def V_:aL Pg 159 Xy:=mk _ _ (ac ZT an) bY
def iT:aL Pg 128 Ub:=mk _ _ (ac ag6 (ac ag4 (ac V_ an))) bY
def Fi:aL Pg 38 aah:=mk _ _ (ac M4 an) bY
def ag3:aL Pg 66 ah2:=mk _ _ (ac Iw an) bY
def apg:aL Pg 67 aqa:=mk _ _ an bY
def Tw:aL Pg 68 Ua:=mk _ _ an bY
def ZJ:aL Pg 69 aaf:=mk _ _ (ac Cm (ac Tz an)) bY
def yU:aL Pg 40 ah1:=mk _ _ (ac jO (ac Ax (ac ag3 (ac apg (ac Tw (ac ZJ an)))))) bY
def ZK:aL Pg 54 aag:=mk _ _ an bY
def M2:aL Pg 24 aai:=mk _ _ (ac Fi (ac yU (ac Bj (ac ZK an)))) bY
def QY (t:TypeId):M Ty:=if aA t 195 then Z (.pr .un fw) else bY t
def Wt:aL Pg 129 XS:=mk _ _ (ac kn (ac mg an)) QY
def Wj:aL Pg 98 XI:=mk _ _ (ac jO (ac iT (ac Wt (ac kf an)))) QY
def Ws:aL Pg 129 XR:=mk _ _ (ac kn (ac mg an)) QY
def Wi:aL Pg 98 XH:=mk _ _ (ac jO (ac iT (ac Ws (ac kf an)))) QY
def Wr:aL Pg 129 XQ:=mk _ _ (ac kn (ac mg an)) QY
def Wh:aL Pg 98 XG:=mk _ _ (ac jO (ac iT (ac Wr (ac kf an)))) QY
def Wq:aL Pg 129 XP:=mk _ _ (ac kn (ac mg an)) QY
def Wg:aL Pg 98 XF:=mk _ _ (ac jO (ac iT (ac Wq (ac kf an)))) QY
def Wp:aL Pg 129 XO:=mk _ _ (ac kn (ac mg an)) QY
def Wf:aL Pg 98 XE:=mk _ _ (ac jO (ac iT (ac Wp (ac kf an)))) QY
def Wo:aL Pg 129 XN:=mk _ _ (ac kn (ac mg an)) QY
def We:aL Pg 98 XD:=mk _ _ (ac jO (ac iT (ac Wo (ac kf an)))) QY
def Wn:aL Pg 129 XM:=mk _ _ (ac kn (ac mg an)) QY
def Wd:aL Pg 98 XC:=mk dN rD (ac jO (ac iT (ac Wn (ac kf an)))) QY
def Wm:aL Pg 129 XL:=mk _ _ (ac kn (ac mg an)) QY
def Wc:aL Pg 98 XB:=mk _ _ (ac jO (ac iT (ac Wm (ac kf an)))) QY
def Wl:aL Pg 129 XK:=mk _ _ (ac kn (ac mg an)) QY
def Wb:aL Pg 98 XA:=mk _ _ (ac jO (ac iT (ac Wl (ac kf an)))) QY
def Wk:aL Pg 129 XJ:=mk _ _ (ac kn (ac mg an)) QY
def Wa:aL Pg 98 Xz:=mk _ _ (ac jO (ac iT (ac Wk (ac kf an)))) QY
def ag7:aL Pg 98 ah6:=(aL.orE (pre:=dN.pre) (post:=dN.post) (m:=rD) (m':=(λx=>orE (rC x) ((λx=>orE (oJ x) ((λx=>orE (mz x) ((λx=>orE (lm x) ((λx=>orE (j8 x) ((λx=>orE (iY x) ((λx=>orE (iy x) ((λx=>orE (gQ x) (gR x)) x)) x)) x)) x)) x)) x)) x))) rfl Wd (aL.orE (pre:=dN.pre) (post:=dN.post) (m:=rC) (m':=(λx=>orE (oJ x) ((λx=>orE (mz x) ((λx=>orE (lm x) ((λx=>orE (j8 x) ((λx=>orE (iY x) ((λx=>orE (iy x) ((λx=>orE (gQ x) (gR x)) x)) x)) x)) x)) x)) x))) rfl Wc (aL.orE (pre:=dN.pre) (post:=dN.post) (m:=oJ) (m':=(λx=>orE (mz x) ((λx=>orE (lm x) ((λx=>orE (j8 x) ((λx=>orE (iY x) ((λx=>orE (iy x) ((λx=>orE (gQ x) (gR x)) x)) x)) x)) x)) x))) rfl Wb (aL.orE (pre:=dN.pre) (post:=dN.post) (m:=mz) (m':=(λx=>orE (lm x) ((λx=>orE (j8 x) ((λx=>orE (iY x) ((λx=>orE (iy x) ((λx=>orE (gQ x) (gR x)) x)) x)) x)) x))) rfl Wa (aL.orE (pre:=dN.pre) (post:=dN.post) (m:=lm) (m':=(λx=>orE (j8 x) ((λx=>orE (iY x) ((λx=>orE (iy x) ((λx=>orE (gQ x) (gR x)) x)) x)) x))) rfl Wg (aL.orE (pre:=dN.pre) (post:=dN.post) (m:=j8) (m':=(λx=>orE (iY x) ((λx=>orE (iy x) ((λx=>orE (gQ x) (gR x)) x)) x))) rfl Wf (aL.orE (pre:=dN.pre) (post:=dN.post) (m:=iY) (m':=(λx=>orE (iy x) ((λx=>orE (gQ x) (gR x)) x))) rfl We (aL.orE (pre:=dN.pre) (post:=dN.post) (m:=iy) (m':=(λx=>orE (gQ x) (gR x))) rfl Wi (aL.orE (pre:=dN.pre) (post:=dN.post) (m:=gQ) (m':=gR) rfl Wh Wj)))))))))
def ag5:aL Pg 72 ah4:=mk _ _ (ac ag7 an) bY
def akw:aL Pg 42 alm:=mk _ _ (ac Fj (ac ag5 (ac ZL an))) bY
def f_:aL Pg 39 Ll:=mk _ _ an bY
def IB:aL Pg 107 ahe:=mk _ _ an bY
def Nc:aL Pg 174 ab7:=mk _ _ an bY
def Gx:aL Pg 173 Ur:=mk _ _ an bY
def Gy:aL Pg 106 Us:=mk _ _ an bY
def Wy:aL Pg 104 X6:=mk _ _ an bY
def Qa:aL Pg 44 Qz:=mk _ _ an bY
def xB:∀n:Nat,aL Pg 172 (Ip n)
 |0=>Jv pB
 |n+1=>mk pB (yW (mj n)) (ac f_ (ac IB (ac (xB n) (ac Gx (ac Nc an))))) bY
def IC:aL Pg 172 I5:=(xB fuel)
def Gw:aL Pg 175 Hp:=mk _ _ (ac xA an) bY
def kB:∀n:Nat,aL Pg 105 (Gi n)/\aL Pg 139 (Io n)/\aL Pg 176 (Gj n)
 |0=>⟨Jv oe,Jv tP,Jv sT⟩
 |n+1=>⟨mk oe (n_ (dU n) (e_ n) (eL n)) (ac (kB n).2.1 an) bY,mk tP (px (dU n) (e_ n) (eL n)) (ac f_ (ac (kB n).1 (ac Gy (ac IB (ac IC (ac Gx (ac Nc (ac Gw (ac (kB n).2.2 an))))))))) bY,mk sT (oc (dU n) (e_ n) (eL n)) (ac f_ (ac (kB n).1 an)) bY⟩
def Gv:aL Pg 105 Ho:=(kB fuel).1
def P':aL Pg 75 Qy:=mk _ _ (ac f_ (ac Ay (ac Wy (ac Gv (ac Gy (ac IB an)))))) bY
def Z2:aL Pg 43 ab8:=mk _ _ (ac TD (ac P' an)) bY
def Wz:aL Pg 16 X7:=mk _ _ (ac akw (ac Z2 (ac Qa an))) bY
def Tq:aL Pg 37 T7:=mk _ _ an bY
def M0:aL Pg 124 Ox:=mk _ _ an bY
def To:aL Pg 93 T5:=mk _ _ an bY
def PQ:aL Pg 94 Qh:=mk _ _ (ac f_ an) bY
def Tn:aL Pg 95 T4:=mk _ _ (ac f_ (ac M0 an)) bY
def V3:aL Pg 96 Xq:=mk _ _ (ac f_ an) bY
def Tp:aL Pg 70 T6:=mk _ _ (ac f_ (ac To (ac PQ (ac Tn (ac V3 an))))) bY
def tv1 (t:TypeId):M Ty:=if aA t 54 then Z (.pr .un (.pr .un (.pr .un (.pr .un (.pr .un (.sl aN)))))) else bY t
def V4:aL Pg 41 Xr:=mk _ _ (ac f_ (ac yU (ac Tp an))) tv1
def Tr:aL Pg 15 T8:=mk _ _ (ac M2 (ac Tq (ac Fi (ac f_ (ac yU (ac V4 an)))))) bY
def Iv:aL Pg 4 IZ:=mk _ _ (ac Tr (ac Wz an)) bY
end
end Go.Proofs.YtocjfbiifiaagaaGreatDoor.AI
