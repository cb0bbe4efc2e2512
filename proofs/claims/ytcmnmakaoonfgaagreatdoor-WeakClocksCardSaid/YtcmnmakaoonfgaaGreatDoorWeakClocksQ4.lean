/-
  Texts of the proof, part 5 of 6: what is used to prove the statement. No condition.
-/
import Derived.Test.YtcmnmakaoonfgaaGreatDoorWeakClocksQ3
import Derived.Deep.Slices
import Derived.OpenShut
import Derived.Below
namespace Go.Proofs.YtcmnmakaoonfgaaGreatDoor.AI
open Go.RowKit
set_option maxRecDepth 100000
set_option maxHeartbeats 4000000
set_option linter.unusedVariables false
set_option linter.unusedSimpArgs false
set_option linter.defProp false
open _root_.Bool renaming true→J,false→af
open _root_.Int renaming ofNat_eq_natCast→ay,toNat→aM,ofNat→aS,toNat_natCast→a8,reduceEq→c8,le_trans→C5
open _root_.List renaming length→l!,length→aj,replicate→aG,length_singleton→cH,range→dE,take→dW,map→gD,cons_append→gI,length_cons→jX,nil_append→kR,length_nil→pG,ext_getElem?→pU,drop_eq_getElem_cons→Q1
open _root_.Nat renaming beq→aB,add_zero→dG,blt→eH,le_of_lt→Lk,le_succ→Sk
open _root_.Option renaming some→Z,none→U,map_some→bx
open _root_.Prod renaming a→bk,b→bD,c→bQ,e→cS,d→db,f→dZ,h→eh,g→eV,k→iS,j→kZ,l→ly,i→md,n→me,m→mw,o→nM,ext→sC,p→w9,q→CY,s→Li
open Value renaming okWide→Lg
open World renaming cell?→Sj
noncomputable section
def GX:Nat->Xp->Prop
 |0,_=>False
 |d+1,e=>l! e.l<=2/\∀x∈e.l,GX d x
def GE.x:∀{d:Nat} {e:Xp},GE d e->GX d e
 |0,_,h=>h.elim
 |_+1,_,h=>⟨h.2.2.1,λx z=>(h.2.2.2.1 x z).x⟩
def ZE.x {e:Xp} (h:ZE e):GX 4 e:=by
 rcases h with h|rfl
 .exact h.x
 .exact⟨by simp[Xp.l],λx z=>(by cases z)⟩
def GT:Nat->Sx->Prop
 |0,_=>False
 |d+1,s=>l! s.index<=1/\(∀e∈s.index,GX 4 e)/\GX 4 s.expr/\l! s.body<=8/\l! s.els<=8/\(∀x∈s.body,GT d x)/\(∀x∈s.els,GT d x)
def GS.t {nT:Nat}:∀{d:Nat} {s:Sx},GS nT d s->GT d s
 |0,_,h=>h.elim
 |_+1,_,⟨_,b,c,_,f,g,i,j,k,_⟩=>⟨b,λe he=>(c e he).x,f.x,g,i,λx z=>(j x z).t,λx z=>(k x z).t⟩
def AY (s:Sx):oV (Sx.op s,Sx.line s,Sx.name s,Sx.arg s,Sx.index s,eL (Xp.op (Sx.expr s),Xp.n (Sx.expr s),Xp.name (Sx.expr s),Xp.l (Sx.expr s)),Sx.body s,Sx.els s)=s:=by
 rw[gd,BQ]
def Yb (k:Int):Ok (nA k) λ_=>True:=by
 unfold nA bm jY aI;with_reducible repeat' first|apply OS.ok;constructor|refine IM.mk λ_=>?_
 all_goals trivial
def sx (e:Xp):Ok (qH e) λ_=>True:=by
 unfold qH bm aI;with_reducible repeat' first|apply OS.ok;constructor|refine IM.mk λ_=>?_
 all_goals trivial
def Cn:∀(n d:Nat) (e:Xp),d<n->GX d e->Ok (iz n e) λ_=>True
 |0,_,_,h,_=>by omega
 |n+1,0,_,_,h=>h.elim
 |n+1,d+1,e,hn,h=>by
  let⟨h1,N⟩:=h;refine aV (λx=>x.2=e) (aK (λ_=>ak (gd e)) λ_=>ak (gd e)) ?_;rintro⟨b,x⟩ L;dsimp only at L;subst L;refine aV (λy=>y.2=x) ?_ ?_
  .refine aw (Yb _) λ_ _=>?_
   with_reducible repeat' first|refine cq (λ_=>?_) λ_=>?_|refine bP (λ_=>?_) λ_=>?_|refine eu (λ_=>?_) λ_=>?_|refine aQ (λ_=>?_) λ_=>?_|exact ak (gd x)|refine aw (iR _) λ_ _=>?_
  rintro⟨b2,y⟩ D;dsimp only at D;subst D;refine aQ (λ_=>ak trivial) λ_=>?_
  refine bV (l! y.l) (λi x=>x.1=(i:Int)/\x.2=y) ?_ ?_ ⟨rfl,gd y⟩
  .rintro i ⟨a,z⟩ hi ⟨A,e2⟩;dsimp only at A e2;subst A e2;refine cW ?_;refine bH (aU ?_);refine aw (Cn n d _ (by omega) (N _ (bI (T:=.ex) (xs:=z.l) (j:=(i:Int)) (by omega) (by omega)))) λ_ _=>?_
   refine eu (λ_=>ak trivial) λ_=>ak ?_
   exact⟨fV,gd z⟩
  .rintro⟨a,z⟩ ⟨A,e2⟩;dsimp only at A e2;subst e2;exact cP (ak trivial)
def gC (e:Xp) (h:GX 4 e):Ok (jM e) λ_=>True:=Cn fuel 4 e (by rw[kN];omega) h
abbrev X?:=Int×Int×ζ×Int×Int×ζ
def Pt (d:X?):Ok (mZ d) λ_=>True:=by
 refine aV (λ_=>True) ?_ λx _=>aQ (λ_=>ak trivial) λ_=>?_
 .with_reducible repeat' first|refine cq (λ_=>?_) λ_=>?_|refine bP (λ_=>?_) λ_=>?_|refine eu (λ_=>?_) λ_=>?_|exact ak trivial|refine aw (iR _) λ_ _=>?_
 refine aV (λ_=>True) ?_ λx _=>aQ (λ_=>ak trivial) λ_=>?_
 .with_reducible repeat' first|refine cq (λ_=>?_) λ_=>?_|refine aK (λ_=>?_) λ_=>?_|refine eu (λ_=>?_) λ_=>?_|exact ak trivial|refine aw (iR _) λ_ _=>?_
 with_reducible repeat' first|apply OS.ok;constructor|refine IM.mk λ_=>?_
 all_goals trivial
def KJ (z:Sx->M Bool) (A:Y Sx->M Bool) (l:Y Sx) (D:l! l<=1000) (h:∀s∈l,Ok (z s) λ_=>True):Ok (l7 z A l) λ_=>True:=by
 refine bV (l! l) (λi x=>x=(i:Int)) ?_ ?_ rfl
 .rintro i x hi rfl;refine cW ?_;refine bH ?_;refine aw (h _ (bI (T:=.sm) (xs:=l) (j:=(i:Int)) (by omega) (by omega))) λ_ _=>?_
  exact eu (λ_=>ak trivial) λ_=>ak fV
 .rintro x rfl;exact cP (ak trivial)
def Ng (D:Sx->M Bool) (A:Y Sx->M Bool) (s:Sx) (h1:∀e∈s.index,GX 4 e) (N:GX 4 s.expr) (L:Ok (A s.body) λ_=>True) (he:Ok (A s.els) λ_=>True):Ok (kX D A s) λ_=>True:=by
 unfold kX bm bS jY jK bX aI eO;refine aV (λx=>x.2=s) ?_ ?_
 .with_reducible repeat' first|refine cq (λ_=>?_) λ_=>?_|refine aK (λ_=>?_) λ_=>?_|refine bP (λ_=>?_) λ_=>?_|refine d_ (λ_=>?_) λ_=>?_|refine eu (λ_=>?_) λ_=>?_|refine aQ (λ_=>?_) λ_=>?_|exact ak (AY _)|refine aw (iR _) λ_ _=>?_|refine aw (sx _) λ_ _=>?_|refine aw (gC _ h2x) λ_ _=>?_
 rintro⟨b,x⟩ z;have z:=z.symm;subst z;refine aQ (λ_=>ak trivial) λ_=>?_
 refine aV (λx=>x.2=s) ?_ ?_
 .with_reducible repeat' first|refine cq (λ_=>?_) λ_=>?_|refine aK (λ_=>?_) λ_=>?_|refine bP (λ_=>?_) λ_=>?_|refine d_ (λ_=>?_) λ_=>?_|refine eu (λ_=>?_) λ_=>?_|refine aQ (λ_=>?_) λ_=>?_|exact ak (AY _)|refine aw (iR _) λ_ _=>?_|refine aw (sx _) λ_ _=>?_|refine aw (gC _ h2x) λ_ _=>?_
 rintro⟨b,x⟩ z;have z:=z.symm;subst z;refine aV (λx=>x.2=s) ?_ ?_
 .with_reducible repeat' first|refine cq (λ_=>?_) λ_=>?_|refine aK (λ_=>?_) λ_=>?_|refine bP (λ_=>?_) λ_=>?_|refine d_ (λ_=>?_) λ_=>?_|refine eu (λ_=>?_) λ_=>?_|refine aQ (λ_=>?_) λ_=>?_|exact ak (AY _)|refine aw (iR _) λ_ _=>?_|refine aw (sx _) λ_ _=>?_|refine aw (gC _ h2x) λ_ _=>?_
 rintro⟨b,x⟩ z;have z:=z.symm;subst z;refine aQ (λ_=>ak trivial) λ_=>?_
 refine aV (λx=>x.2=s) ?_ ?_
 .with_reducible repeat' first|refine cq (λ_=>?_) λ_=>?_|refine aK (λ_=>?_) λ_=>?_|refine bP (λ_=>?_) λ_=>?_|refine d_ (λ_=>?_) λ_=>?_|refine eu (λ_=>?_) λ_=>?_|refine aQ (λ_=>?_) λ_=>?_|exact ak (AY _)|refine aw (iR _) λ_ _=>?_|refine aw (sx _) λ_ _=>?_|refine aw (gC _ h2x) λ_ _=>?_
 rintro⟨b,x⟩ z;have z:=z.symm;subst z;refine aQ (λ_=>ak trivial) λ_=>?_
 refine aV (λx=>x.2=s) ?_ ?_
 .with_reducible repeat' first|refine cq (λ_=>?_) λ_=>?_|refine aK (λ_=>?_) λ_=>?_|refine bP (λ_=>?_) λ_=>?_|refine d_ (λ_=>?_) λ_=>?_|refine eu (λ_=>?_) λ_=>?_|refine aQ (λ_=>?_) λ_=>?_|exact ak (AY _)|refine aw (iR _) λ_ _=>?_|refine aw (sx _) λ_ _=>?_|refine aw (gC _ h2x) λ_ _=>?_
  all_goals
   rename_i g;dsimp [ay]at g;refine bH (aU ?_);refine aw (gC _ (h1 _ (bI (T:=.ex) (xs:=Sx.index _) (j:=0) (by omega) (by omega)))) λ_ _=>ak (AY _)
 rintro⟨b,x⟩ z;have z:=z.symm;subst z;refine aQ (λ_=>ak trivial) λ_=>?_
 refine aV (λx=>x.2=s) ?_ ?_
 .with_reducible repeat' first|refine cq (λ_=>?_) λ_=>?_|refine aK (λ_=>?_) λ_=>?_|refine bP (λ_=>?_) λ_=>?_|refine d_ (λ_=>?_) λ_=>?_|refine eu (λ_=>?_) λ_=>?_|refine aQ (λ_=>?_) λ_=>?_|exact ak (AY _)|refine aw (iR _) λ_ _=>?_|refine aw (sx _) λ_ _=>?_|refine aw (gC _ h2x) λ_ _=>?_
 rintro⟨b,x⟩ z;have z:=z.symm;subst z;refine aV (λx=>x.2=s) ?_ ?_
 .have h2x:GX 4 (eL (Xp.op (Sx.expr s),Xp.n (Sx.expr s),Xp.name (Sx.expr s),Xp.l (Sx.expr s))):=by exact N
  with_reducible repeat' first|refine cq (λ_=>?_) λ_=>?_|refine aK (λ_=>?_) λ_=>?_|refine bP (λ_=>?_) λ_=>?_|refine d_ (λ_=>?_) λ_=>?_|refine eu (λ_=>?_) λ_=>?_|refine aQ (λ_=>?_) λ_=>?_|exact ak (AY _)|refine aw (iR _) λ_ _=>?_|refine aw (sx _) λ_ _=>?_|refine aw (gC _ h2x) λ_ _=>?_
 rintro⟨b,x⟩ z;have z:=z.symm;subst z;refine aQ (λ_=>ak trivial) λ_=>?_
 refine aV (λx=>x.2=s) ?_ ?_
 .with_reducible repeat' first|refine cq (λ_=>?_) λ_=>?_|refine aK (λ_=>?_) λ_=>?_|refine bP (λ_=>?_) λ_=>?_|refine d_ (λ_=>?_) λ_=>?_|refine eu (λ_=>?_) λ_=>?_|refine aQ (λ_=>?_) λ_=>?_|exact ak (AY _)|refine aw (iR _) λ_ _=>?_|refine aw (sx _) λ_ _=>?_|refine aw (gC _ h2x) λ_ _=>?_
 rintro⟨b,x⟩ z;have z:=z.symm;subst z;refine aV (λx=>x.2=s) ?_ ?_
 .with_reducible repeat' first|refine cq (λ_=>?_) λ_=>?_|refine aK (λ_=>?_) λ_=>?_|refine bP (λ_=>?_) λ_=>?_|refine d_ (λ_=>?_) λ_=>?_|refine eu (λ_=>?_) λ_=>?_|refine aQ (λ_=>?_) λ_=>?_|exact ak (AY _)|refine aw (iR _) λ_ _=>?_|refine aw (sx _) λ_ _=>?_|refine aw (gC _ h2x) λ_ _=>?_
 rintro⟨b,x⟩ z;dsimp only at z;subst z;refine aQ (λ_=>ak trivial) λ_=>?_
 refine aV (λ_=>True) ?_ λ_ _=>ak trivial
 refine aw L λ_ _=>aQ (λ_=>aw he λ_ _=>ak trivial) λ_=>ak trivial
def Nq:∀(n:Nat),(∀(d:Nat) (s:Sx),2*d<n->GT d s->Ok (e_ n s) λ_=>True)/\(∀(d:Nat) (l:Y Sx),2*d+1<n->l! l<=1000->(∀s∈l,GT d s)->Ok (dR n l) λ_=>True)
 |0=>⟨λd _ h=>by omega,λd _ h=>by omega⟩
 |n+1=>by
  let⟨L,z⟩:=Nq n;refine ⟨λd s hd h=>?_,λd l hd D h=>?_⟩
  .cases d with
   |zero=>exact h.elim
   |succ d=>
    let⟨_,g2,g3,g4,g5,g6,N⟩:=h;exact Ng (e_ n) (dR n) s g2 g3 (z d _ (by omega) (by omega) g6) (z d _ (by omega) (by omega) N)
  .exact KJ (e_ n) (dR n) l D λs A=>L d s (by omega) (h s A)
def O1 (d:Nat) (hd:d<=100) (l:Y Sx) (z:l! l<=1000) (h:∀s∈l,GT d s):Ok (oT l) λ_=>True:=(Nq fuel).2 d l (by rw[kN];omega) z h
abbrev DT:Type:=X?
abbrev HT:Type:=ζ×Int×Y ζ×Y Sx
abbrev PG:Type:=Y DT×Y HT
structure PX (p:PG):Prop where
 d:l! p.1<=100
 t:l! p.2<=8
 l:∀t∈p.2,l! t.2.2.1<=100
 b:∀t∈p.2,l! t.2.2.2<=100
 s:∀t∈p.2,∀s∈t.2.2.2,GT 5 s
def ag9 (p:PG) (h:PX p):Ok (qX p) λ_=>True:=by
 let⟨hd,ht,hl,hb,hs⟩:=h;unfold qX bk bQ eh bS bX be c7 aI cQ;refine bV (l! p.1) (λi x=>x.1=(i:Int)/\x.2=p) ?_ ?_ ⟨rfl,rfl⟩
 .rintro i ⟨a,x⟩ hi ⟨A,e2⟩;dsimp only at A e2;subst A e2;refine cW ?_;refine bH (aU ?_);refine aw (Pt _) λ_ _=>?_
  exact eu (λ_=>ak trivial) λ_=>ak ⟨fV,rfl⟩
 rintro⟨a,x⟩ ⟨A,e2⟩;dsimp only at A e2;subst e2;refine cP ?_;refine aw (P:=λ_=>True) ?_ λ_ _=>ak trivial
 refine bV (l! x.2) (λi y=>y.1=(i:Int)/\y.2=x) ?_ ?_ ⟨rfl,rfl⟩
 .rintro i ⟨a,x⟩ hi ⟨A,e2⟩;subst A;have e2:=e2.symm;subst e2;refine cW ?_;refine bH (aU ?_);have hm:=bI (T:=uX) (xs:=x.2) (j:=(i:Int)) (by omega) (by omega);have h1:=hl _ hm;have h2:=hb _ hm;have D:=hs _ hm;revert h1 h2 D;generalize (geti uX x.2 (i:Int))=t;intro h1 h2 D;refine bV (l! t.2.2.1) (λk y=>y.1=(k:Int)/\y.2=(x,t)) ?_ ?_ ⟨rfl,rfl⟩
  .rintro k ⟨a,z⟩ hk ⟨N,L⟩;subst N L;refine cW ?_;refine bH (aU ?_);refine aw (iR _) λ_ _=>?_
   exact eu (λ_=>ak trivial) λ_=>ak ⟨fV,rfl⟩
  .rintro⟨a,z⟩ ⟨N,L⟩;subst N L;refine cP ?_;refine aw (P:=λr=>match r with|.inl y=>y.1=((i+1:Nat):Int)/\y.2=x|.inr _=>True) ?_ ?_
   .refine aV (λy=>y.2=x) ?_ ?_
    .refine aw (iR _) λ_ _=>eu (λ_=>ak rfl) λ_=>?_
     exact aw (O1 5 (by omega) _ (by grind) D) λ_ _=>ak rfl
    rintro⟨b,y⟩ e;subst e;exact aQ (λ_=>ak trivial) λ_=>ak ⟨fV,rfl⟩
   .rintro (y|y) hy
    .exact ak hy
    .exact ak trivial
 .rintro⟨a,y⟩ ⟨A,e2⟩;dsimp only at A e2;subst e2;exact cP (ak trivial)
def zR (l:Y DT) (s:ζ) (z:l! l<=1000):Ok (i_ (l,s)) λr=> -1<=r/\r<(l! l:Int):=by
 refine bV (l! l) (λi x=>x=(i:Int)) ?_ ?_ rfl
 .rintro i x hi rfl;refine cW ?_;refine bH (aU ?_);exact aK (λ_=>ak ⟨by omega,by omega⟩) λ_=>ak fV
 .rintro x rfl;exact cP (ak ⟨by omega,by omega⟩)
def uA (l:Y HT) (s:ζ) (z:l! l<=1000):Ok (iU (l,s)) λr=> -1<=r/\r<(l! l:Int):=by
 refine bV (l! l) (λi x=>x=(i:Int)) ?_ ?_ rfl
 .rintro i x hi rfl;refine cW ?_;refine bH (aU ?_);exact aK (λ_=>ak ⟨by omega,by omega⟩) λ_=>ak fV
 .rintro x rfl;exact cP (ak ⟨by omega,by omega⟩)
def DD (p:PG) (s:ζ):Prop:=∃v,i_ (p.1,s)=Z v/\0<=v/\v<(l! p.1:Int)
def agn (p:PG) (h:PX p) (t:Int) (s:ζ):Ok (uq (p,t,s)) λk=>k≠0->k≠7->k≠8->DD p s:=by
 have hd:=h.d;have ht:=h.t;refine aV (λx=>x.2=p) ?_ ?_
 .refine d_ (λN=>bP (λL=>?_) λ_=>ak rfl) λ_=>ak rfl
  refine aR N L (aU ?_);have hm:=h.l _ (bI (T:=uX) (xs:=p.2) (j:=t) N L);exact aw (Bt _ s (dc hm (by omega))) λ_ _=>ak rfl
 rintro⟨b,x⟩ e;have e:=e.symm;subst e;refine aQ (λ_=>ak λ_ _ h=>(h rfl).elim) λ_=>?_
 let⟨v,D,v0,A⟩:=zR p.1 s (by omega);refine aZ D ?_;refine bP (λ_=>?_) λg=>?_
 .exact aw (uA p.2 s (by omega)) λ_ _=>d_ (λ_=>ak λ_ h=>(h rfl).elim) λ_=>ak λh=>(h rfl).elim
 have z:DD p s:=⟨v,D,g,A⟩
 refine aR g A (aU ?_);refine aK (λ_=>?_) λ_=>?_
 .exact aR g A (aU (cq (λ_=>ak λ_ _ _=>z) λ_=>ak λ_ _ _=>z))
 refine aK (λ_=>ak λ_ _ _=>z) λ_=>?_
 refine aV (λx=>x.2=p) (aK (λ_=>ak rfl) λ_=>aK (λ_=>ak rfl) λ_=>aK (λ_=>ak rfl) λ_=>ak rfl) ?_;rintro⟨b,x⟩ e;dsimp only at e;subst e;exact aQ (λ_=>aR g A (aU (ak λ_ _ _=>z))) λ_=>ak λ_ _ _=>z
def pW (p:PG) (h:PX p) (t:Int) (s:ζ) (a b:Int):Ok (ii (p,t,s,a,b)) λr=>r=0->(a≠7/\a≠8)->(b≠7/\b≠8)->DD p s:=by
 refine aw (agn p h t s) λk z=>?_
 refine aK (λ_=>ak nofun) λg=>?_
 refine aV (λx=>x=af->k=a\/k=b) ?_ ?_
 .refine cq (λ_=>ak λh=>?_) λh=>ak λ_=>.inl h
  simp at h;exact .inr h
 rintro x A;refine aQ (λ_=>ak nofun) λh=>ak λ_ h1 D=>z g ?_ ?_
 .grind
 .grind
def RF:∀(n d:Nat) (e:Xp),d<n->GX d e->Ok (oB n e) λ_=>True
 |0,_,_,h,_=>by omega
 |n+1,0,_,_,h=>h.elim
 |n+1,d+1,e,L,h=>by
  let⟨h1,D⟩:=h;refine bV (l! e.l) (λi x=>x.1.2.2=(i:Int)/\x.2=e) ?_ ?_ ⟨rfl,gd e⟩
  .rintro i ⟨⟨a,b,c⟩,z⟩ hi ⟨A,e2⟩;dsimp only at A e2;subst A e2;refine cW ?_;refine bH (aU ?_);refine aw (RF n d _ (by omega) (D _ (bI (T:=.ex) (xs:=z.l) (j:=(i:Int)) (by omega) (by omega)))) λ_ _=>ak ?_
   exact⟨fV,gd z⟩
  .rintro⟨⟨a,b,c⟩,z⟩ ⟨A,e2⟩;dsimp only at A e2;subst e2;exact cP (ak trivial)
def Jw (p:PG) (hp:PX p) (t:Int):∀(n d:Nat) (e:Xp),d<n->GX d e->Ok (oA n (p,t,e)) λ_=>True
 |0,_,_,h,_=>by omega
 |n+1,0,_,_,h=>h.elim
 |n+1,d+1,e,hn,h=>by
  let⟨h1,N⟩:=h;rw[Bf];unfold wz bm bS bX c7 aI cQ;refine aV (λx=>x.2.1=p/\x.2.2=e) ?_ ?_
  .refine aK (λ_=>aw (pW p hp t _ _ _) λ_ _=>ak ⟨rfl,gd e⟩) λ_=>aK (λ_=>aw (pW p hp t _ _ _) λ_ _=>ak ⟨rfl,gd e⟩) λ_=>ak ⟨rfl,gd e⟩
  rintro⟨r,D,e'⟩ ⟨A,z⟩;have A:=A.symm;subst A;have z:=z.symm;subst z;refine pX (λx=>((l! e.l:Int)-x.1.2).toNat) (λx=>0<=x.1.2/\x.2.1=p/\x.2.2=e) ?_ ⟨dg _,rfl,gd e⟩;rintro⟨⟨a,(b:Int)⟩,D,e'⟩ ⟨b0,A,z⟩;dsimp only at b0 A z;have A:=A.symm;subst A;have z:=z.symm;subst z;refine aV (λx=>x.2.1=p/\x.2.2=e/\(x.1=J->b<(l! e.l:Int))) ?_ ?_
  .exact bP (λg=>ak ⟨rfl,gd e,λ_=>g⟩) λ_=>ak ⟨rfl,gd e,nofun⟩
  rintro⟨c,D,e'⟩ ⟨A,z,f3⟩;have A:=A.symm;subst A;have z:=z.symm;subst z;refine aQ (λL=>?_) λ_=>ak trivial
  have g:=f3 L;refine aR b0 g (aU ?_);refine aw (Jw p hp t n d _ (by omega) (N _ (bI (T:=.ex) (xs:=e.l) (j:=b) b0 g))) λ_ _=>ak ?_
  dsimp only;rw[iI (n:=b+1) (by omega) (by omega)];exact⟨⟨by omega,rfl,gd e⟩,by omega⟩
def zQ (p:PG) (hp:PX p) (t:Int) (e:Xp) (h:GX 4 e):Ok (oR (p,t,e)) λ_=>True:=by
 have z:GX 4 (eL (Xp.op e,Xp.n e,Xp.name e,Xp.l e)):=by exact h
 refine aw (gC _ z) λ_ _=>eu (λ_=>ak trivial) λ_=>?_
 refine aw (RF fuel 4 _ (by rw[kN];omega) z) λ_ _=>?_
 refine aV (λx=>x.2.1=p/\x.2.2=e) (bP (λ_=>ak ⟨rfl,gd e⟩) λ_=>ak ⟨rfl,gd e⟩) ?_;rintro⟨r,L,e'⟩ ⟨A,D⟩;have A:=A.symm;subst A D;exact aQ (λ_=>ak trivial) λ_=>aw (Jw p hp t fuel 4 _ (by rw[kN];omega) z) λ_ _=>ak trivial
def fO (b:Bool):Ok (dt b) λ_=>True:=by
 unfold dt;exact aQ (λ_=>ak trivial) λ_=>ak trivial
def vT (x:ν):Ok (jG x) λr=>r=0->x.1=0/\x.2=0:=by
 unfold jG jK;exact cq (λh=>ak λz=>(h z).elim) λh=>ak λz=>⟨h,z⟩
abbrev WK:Type:=(Y DT×Y HT×Int)×(Bool×Y Sx)×Y ζ×Y ζ
def aem (a b:Int) (s:ζ) (w:WK) (h:l! w.2.1.2<=100):Ok (eD ((a,b,s),w)) λy=>y.2=w:=by
 unfold eD bk bm bS kq be c7 aI cQ;refine bV (l! w.2.1.2) (λi x=>x.1=(i:Int)/\x.2=w) ?_ ?_ ⟨rfl,rfl⟩
 .rintro i ⟨c,x⟩ hi ⟨z,e2⟩;subst z;have e2:=e2.symm;subst e2;refine cW ?_;refine bH (bH (aU ?_));refine aV (λx=>x.2=w) ?_ ?_
  .refine aK (λ_=>aK (λ_=>ak rfl) λ_=>ak rfl) λ_=>aK (λ_=>aK (λ_=>ak rfl) λ_=>ak rfl) λ_=>ak rfl
  rintro⟨c,x⟩ e;dsimp only at e;subst e;exact aQ (λ_=>ak rfl) λ_=>ak ⟨fV,rfl⟩
 .rintro⟨c,x⟩ ⟨z,e2⟩;subst z;have e2:=e2.symm;subst e2;exact cP (ak rfl)
def UI:Nat->Sx->Nat
 |0,_=>0
 |d+1,s=>1+(s.body.map (UI d)).sum+(s.els.map (UI d)).sum
def oH (d:Nat) (l:Y Sx):Nat:=(l.map (UI d)).sum
def KS:Nat->Nat
 |0=>0
 |d+1=>1+16*KS d
variable {R:Type} {i:Nat}
def St {f:R->Nat} :∀{l:Y R},(∀x∈l,f x<=i)->(l.map f).sum<=l! l*i
 |[],_=>by simp
 |x::r,h=>by
  have:=St (l:=r) λy z=>h y (cg _ z)
  have:=h x (dk ..);rw[ch,List.sum_cons,jX,jD];omega
def Z9:∀{d:Nat} {s:Sx},GT d s->UI d s<=KS d
 |0,_,h=>h.elim
 |d+1,s,⟨_,_,_,N,L,D,A⟩=>by
  have a:=St (f:=UI d) (l:=s.body) λx z=>Z9 (D x z)
  have b:=St (f:=UI d) (l:=s.els) λx z=>Z9 (A x z)
  have c:=cK (KS d) N;have e:=cK (KS d) L;show 1+_+_<=1+16*KS d;omega
def Ui:∀{d:Nat} {s:Sx},GT d s->UI (d+1) s=UI d s
 |0,_,h=>h.elim
 |d+1,s,⟨_,_,_,_,_,D,A⟩=>by
  show 1+(s.body.map (UI (d+1))).sum+(s.els.map (UI (d+1))).sum=1+(s.body.map (UI d)).sum+(s.els.map (UI d)).sum;rw[kO λx z=>Ui (D x z),kO λx z=>Ui (A x z)]
def akh {l:Y Sx} (h:∀s∈l,GT i s):oH i l<=l! l*KS i:=St λx z=>Z9 (h x z)
variable {j:Nat}
def zB {l:Y Sx} (hi:i<l! l):oH j (l.take (i+1))=oH j (l.take i)+UI j (geti (.sm) l (i:Int)):=by
 unfold oH;rw[pH (T:=.sm) hi,cr,I8];simp
def Uj {d:Nat} (l:Y Sx) (i:Nat):oH d (l.take i)<=oH d l:=by
 conv=>rhs;rw[<- EG i l]
 unfold oH;rw[cr,I8];omega
def Iw:∀(n d:Nat) (l:Y Sx),d<n->l! l<=1000->(∀s∈l,GT d s)->KS d<=100000->oC n l=Z ((oH d l:Nat):Int)
 |0,_,_,h,_,_,_=>by omega
 |n+1,d,l,hn,A,h,L=>by
  refine cI ?_;have hb:=akh h;have D:=Nat.mul_le_mul A L;refine bV (l! l) (λi x=>x.2=(i:Int)/\x.1=(l! l:Int)-i+(oH d (l.take i):Nat)) ?_ ?_ ⟨rfl,by simp[oH]⟩
  .rintro i ⟨a,b⟩ hi ⟨z,e2⟩;subst z e2;have hp:=Uj (d:=d) l (i+1);rw[zB hi]at hp;refine cW ?_;refine bH (aU ?_);rw[zB hi];have hm:=h _ (bI (T:=.sm) (xs:=l) (j:=(i:Int)) (by omega) (by omega));revert hm hp;generalize (geti (.sm) l (i:Int))=s;intro hp hm;cases d with
   |zero=>exact hm.elim
   |succ d=>
    let⟨_,_,_,g4,g5,g6,N⟩:=hm;have hk:KS (d+1)=1+16*KS d:=rfl;have hc:UI (d+1) s=1+oH d s.body+oH d s.els:=rfl;refine aZ (Iw n d _ (by omega) (by omega) g6 (by omega)) ?_;refine bH (aU ?_);refine aZ (Iw n d _ (by omega) (by omega) N (by omega)) (ak ⟨fV,?_⟩);rw[iI (n:=(l! l:Int)-i+(oH (d+1) (l.take i):Nat)+(oH d s.body:Nat)) (by omega) (by omega),iI];omega
  .rintro⟨a,b⟩ ⟨z,e2⟩;subst z e2;exact cP (ak (by simp))
def ZB (l:Y DT) (L:l! l<=100):Ok (s7 l) λ_=>True:=by
 unfold s7 bk bD bQ db dZ iS bm bS jY jK bU bX be c7 aI cQ;refine bV (l! l) (λi x=>x.2.2.2.2=(i:Int)) ?_ ?_ rfl
 .rintro i ⟨a,b,c,d,e⟩ hi z;subst z;refine cW ?_;refine aV (λ_=>True) ?_ λx _=>ak fV
  refine bH (aU ?_);have htk:l! (dW (aM (i:Int)) l)<=100:=by grind
  refine cF (dj (by simp) (dj (by grind) ?_));refine aw (zR _ _ (dc htk (by omega))) λv A=>?_
  refine d_ (λ_=>ak trivial) λ_=>bP (λ_=>ak trivial) λ_=>?_
  refine aV (λ_=>True) ?_ λx _=>?_
  .refine aV (λ_=>True) (aK (λ_=>ak trivial) λ_=>ak trivial) λx _=>aQ (λ_=>ak trivial) λ_=>?_
   refine aV (λ_=>True) (aK (λ_=>ak trivial) λ_=>ak trivial) λx _=>aQ (λ_=>ak trivial) λ_=>?_
   exact aK (λ_=>ak trivial) λ_=>ak trivial
  refine aV (λ_=>True) (bP (λ_=>ak trivial) λ_=>bP (λ_=>ak trivial) λ_=>bP (λ_=>ak trivial) λ_=>ak trivial) λx _=>aQ (λ_=>ak trivial) λ_=>?_
  refine aK (λ_=>?_) λ_=>ak trivial
  refine cF (dj (by simp) (dj (by grind) ?_));refine aw (zR _ _ (dc htk (by omega))) λv A=>?_
  refine bP (λ_=>ak trivial) λg=>?_
  have D:=A.2;rw[cL]at D;exact aR g (by omega) (aU (cq (λ_=>ak trivial) λ_=>ak trivial))
 .rintro⟨a,b,c,d,e⟩ z;subst z;exact cP (ak trivial)
def Sq (p:PG) (h:PX p):Ok (oP p) λ_=>True:=by
 have hd:=h.d;have ht:=h.t;unfold oP bk bD bQ bS jY bU bX be c7 aI cQ;refine bV (l! p.2) (λi x=>x.1=(i:Int)/\x.2=p) ?_ ?_ ⟨rfl,rfl⟩
 .rintro i ⟨a,x⟩ hi ⟨A,e2⟩;subst A;have e2:=e2.symm;subst e2;refine cW ?_;refine bH (aU ?_);refine aV (λx=>x.2.1=p) ?_ ?_
  .refine aw (zR _ _ (by grind)) λv N=>d_ (λ_=>ak rfl) λ_=>?_
   refine cF (dj (by simp) (dj (by grind) ?_));exact aw (uA _ _ (by grind)) λ_ _=>ak rfl
  rintro⟨b,x,z⟩ e;dsimp only at e;subst e;exact aQ (λ_=>ak trivial) λ_=>ak ⟨fV,rfl⟩
 rintro⟨a,x⟩ ⟨A,e2⟩;subst A;have e2:=e2.symm;subst e2;refine cP ?_;refine aw (P:=λ_=>True) ?_ λ_ _=>ak trivial
 refine bV (l! p.2) (λi x=>x.1=(i:Int)/\x.2=p) ?_ ?_ ⟨rfl,rfl⟩
 .rintro i ⟨a,x⟩ hi ⟨A,e2⟩;subst A;have e2:=e2.symm;subst e2;refine cW ?_;refine bH (aU ?_);have hm:=h.l _ (bI (T:=uX) (xs:=p.2) (j:=(i:Int)) (by omega) (by omega));revert hm;generalize (geti uX p.2 (i:Int))=t;intro hm;refine bP (λ_=>ak trivial) λ_=>?_
  refine bV (l! t.2.2.1) (λk y=>y.1=(k:Int)/\y.2=(p,t)) ?_ ?_ ⟨rfl,rfl⟩
  .rintro k ⟨a,z⟩ hk ⟨L,D⟩;subst L D;refine cW ?_;refine bH (aU ?_);refine aV (λx=>x.2=(p,t)) ?_ ?_
   .refine aw (zR _ _ (by grind)) λv N=>d_ (λ_=>ak rfl) λ_=>?_
    refine aw (uA _ _ (by grind)) λv N=>d_ (λ_=>ak rfl) λ_=>?_
    refine cF (dj (by simp) (dj (by grind) ?_));exact aw (Bt _ _ (by grind)) λ_ _=>ak rfl
   rintro⟨b,x⟩ e;subst e;exact aQ (λ_=>ak trivial) λ_=>ak ⟨fV,rfl⟩
  .rintro⟨a,z⟩ ⟨L,D⟩;subst L D;exact cP (ak ⟨fV,rfl⟩)
 .rintro⟨a,x⟩ ⟨A,e2⟩;subst A;have e2:=e2.symm;subst e2;exact cP (ak trivial)
structure WQ (w:WK) (y:Int×WK):Prop where
 p:y.2.1=w.1
 a:y.2.2.1=w.2.1
 s:l! y.2.2.2.1<=l! w.2.2.1+1
 t:l! y.2.2.2.2<=l! w.2.2.2+1
def WQ.same (w:WK) (e:Int):WQ w (e,w):=⟨rfl,rfl,Sk _,Sk _⟩
def ass (s:Sx) (D:Y DT) (T:Y HT) (t:Int) (A:Bool×Y Sx) (sp se:Y ζ) (hp:PX (D,T)) (hA:l! A.2<=100) (h1:l! sp<=100000000) (h2:l! se<=100000000) (L:∀e∈s.index,GX 4 e) (he:GX 4 s.expr):Ok (nz (s,((D,T,t),A,sp,se))) (WQ ((D,T,t),A,sp,se)):=by
 have hex:GX 4 (eL (Xp.op s.expr,Xp.n s.expr,Xp.name s.expr,Xp.l s.expr)):=by rw[gd];exact he
 have hin:∀(a b:Int) (n:ζ),Ok (eD ((a,b,n),((D,T,t),A,sp,se))) λy=>y.2=((D,T,t),A,sp,se):=λa b n=>aem a b n _ hA
 have hth:l! T<=1000:=by have:=hp.t;dsimp only at this;omega
 have hdl:l! D<=1000:=by have:=hp.d;dsimp only at this;omega
 have sm:∀e,WQ ((D,T,t),A,sp,se) (e,((D,T,t),A,sp,se)):=WQ.same _;unfold nz bk bD bQ cS db dZ eh iS bm jY jK bU bX aI eO;refine aw (hin _ _ _) λy z=>?_
 let⟨b1,N⟩:=y;dsimp only at z;subst z;refine bl (by simp) ?_;refine aw (hin _ _ _) λy z=>?_
 let⟨b2,N⟩:=y;dsimp only at z;subst z;refine bl (by simp) ?_;refine aw (hin _ _ _) λy z=>?_
 let⟨b3,N⟩:=y;dsimp only at z;subst z;refine bl (by simp) ?_;refine aK (λ_=>?_) λ_=>?_
 .refine aK (λ_=>?_) λg=>?_
  .exact aw (pW _ hp _ _ _ _) λ_ _=>aw (zQ _ hp _ _ hex) λ_ _=>aw (vT _) λ_ _=>ak (sm _)
  .refine aw (pW _ hp _ _ _ _) λ_ _=>?_
   dsimp only[ay]at g;refine bH (aU ?_);refine aw (zQ _ hp _ _ (L _ (bI (T:=.ex) (xs:=s.index) (j:=0) (by omega) (by omega)))) λ_ _=>?_
   exact aw (zQ _ hp _ _ hex) λ_ _=>aw (vT _) λ_ _=>aw (vT _) λ_ _=>ak (sm _)
 refine aV (λx=>x.2=((D,T,t),A,s,(D,T),sp,se)) (aK (λ_=>ak (by dsimp only;rw[AY])) λ_=>ak (by dsimp only;rw[AY])) ?_;rintro⟨b,x⟩ e;dsimp only at e;subst e;refine aQ (λ_=>aw (zQ _ hp _ _ hex) λ_ _=>ak (sm _)) λ_=>?_
 refine aK (λ_=>?_) λ_=>?_
 .refine aV (λx=>WQ ((D,T,t),A,sp,se) x) ?_ λx L=>ak L
  refine aw (pW _ hp _ _ _ _) λ_ _=>aQ (λ_=>?_) λ_=>?_
  .exact aw (fO _) λ_ _=>aw (vT _) λ_ _=>ak (sm _)
  .refine aw (hin _ _ _) λy z=>?_
   let⟨b4,N⟩:=y;dsimp only at z;subst z;exact bl (by simp) (aw (fO _) λ_ _=>aw (vT _) λ_ _=>ak (sm _))
 refine aV (λx=>x.2=((D,T,t),A,s,(D,T),sp,se)) (aK (λ_=>ak (by dsimp only;rw[AY])) λ_=>ak (by dsimp only;rw[AY])) ?_;rintro⟨b,x⟩ e;dsimp only at e;subst e;refine aQ (λ_=>?_) λ_=>?_
 .refine aV (λx=>WQ ((D,T,t),A,sp,se) x) ?_ λx L=>ak L
  refine aw (pW _ hp _ _ _ _) λ_ _=>aQ (λ_=>?_) λ_=>?_
  .exact aw (fO _) λ_ _=>aw (vT _) λ_ _=>ak (sm _)
  .refine aw (hin _ _ _) λy z=>?_
   let⟨b4,N⟩:=y;dsimp only at z;subst z;exact bl (by simp) (aw (fO _) λ_ _=>aw (vT _) λ_ _=>ak (sm _))
 refine aK (λ_=>aw (fO _) λ_ _=>ak (sm _)) λ_=>?_
 refine aK (λ_=>?_) λ_=>?_
 .refine aV (λx=>WQ ((D,T,t),A,sp,se) x) ?_ λx L=>ak L
  exact aQ (λ_=>aw (fO _) λ_ _=>ak (sm _)) λ_=>aw (fO _) λ_ _=>ak (sm _)
 refine aV (λx=>x.2=((D,T,t),A,s,(D,T),sp,se)) (aK (λ_=>ak (by dsimp only;rw[AY])) λ_=>aK (λ_=>ak (by dsimp only;rw[AY])) λ_=>ak (by dsimp only;rw[AY])) ?_;rintro⟨b,x⟩ e;dsimp only at e;subst e;refine aQ (λ_=>?_) λ_=>?_
 .refine aw (pW _ hp _ _ _ _) λr hr=>cq (λ_=>ak (sm _)) λg=>?_
  let⟨v,hv,v0,v1⟩:=hr g (by omega) (by omega);refine aZ hv (aR v0 v1 (aU ?_));refine aw (hin _ _ _) λy z=>?_
  let⟨b4,N⟩:=y;dsimp only at z;subst z;refine bl (by simp) ?_;refine aV (λx=>WQ ((D,T,t),A,sp,se) x) ?_ λx L=>ak L
  refine aQ (λ_=>aw (fO _) λ_ _=>ak (sm _)) λ_=>eu (λ_=>aw (fO _) λ_ _=>ak (sm _)) λ_=>?_
  exact aK (λ_=>aw (fO _) λ_ _=>ak (sm _)) λ_=>aw (fO _) λ_ _=>ak (sm _)
 refine aK (λ_=>?_) λ_=>?_
 .refine aw (pW _ hp _ _ _ _) λr hr=>cq (λ_=>ak (sm _)) λg=>?_
  refine aw (uA T _ hth) λv hv=>?_
  refine aV (λx=>x.2=((D,T,t),A,s,sp,se)) ?_ ?_
  .refine aQ (λ_=>ak (by dsimp only;rw[AY])) λ_=>aQ (λ_=>ak (by dsimp only;rw[AY])) λ_=>aQ (λ_=>ak (by dsimp only;rw[AY])) λ_=>aK (λ_=>ak (by dsimp only;rw[AY])) λ_=>ak (by dsimp only;rw[AY])
  rintro⟨b,x⟩ e;dsimp only at e;subst e;refine aQ (λ_=>ak (sm _)) λ_=>?_
  refine aw (Bt sp _ (by omega)) λ_ _=>d_ (λ_=>ak (sm _)) λ_=>?_
  exact a! (ak ⟨rfl,rfl,by simp,Sk _⟩)
 refine aK (λ_=>?_) λ_=>?_
 .refine aV (λx=>WQ ((D,T,t),A,sp,se) x) ?_ λx L=>ak L
  refine aw (pW _ hp _ _ _ _) λr hr=>?_
  refine aQ (λ_=>aw (fO _) λ_ _=>aw (vT _) λ_ _=>ak (sm _)) λ_=>?_
  refine aQ (λ_=>aw (fO _) λ_ _=>aw (vT _) λ_ _=>ak (sm _)) λ_=>?_
  exact aw (uA T _ hth) λv hv=>aw (fO _) λ_ _=>aw (vT _) λ_ _=>ak (sm _)
 refine aK (λ_=>?_) λ_=>?_
 .refine aV (λx=>x.2=((D,T,t),A,s,(D,T),sp,se)) ?_ ?_
  .refine aw (pW _ hp _ _ _ _) λr hr=>?_
   exact aQ (λ_=>aw (fO _) λ_ _=>aw (vT _) λ_ _=>ak (by dsimp only;rw[AY])) λ_=>aw (fO _) λ_ _=>aw (vT _) λ_ _=>ak (by dsimp only;rw[AY])
  rintro⟨b,x⟩ e;dsimp only at e;subst e;refine aV (λx=>x.2=((D,T,t),A,s,(D,T),sp,se)) ?_ ?_
  .refine aV (λx=>x.2=((D,T,t),A,s,(D,T),sp,se)) ?_ ?_
   .exact aK (λ_=>aw (Bt se _ (by omega)) λ_ _=>ak (by dsimp only;rw[AY])) λ_=>ak (by dsimp only;rw[AY])
   rintro⟨b,x⟩ e;dsimp only at e;subst e;exact aQ (λ_=>ak (by dsimp only;rw[AY])) λ_=>ak (by dsimp only;rw[AY])
  rintro⟨b,x⟩ e;dsimp only at e;subst e;refine a! ?_;exact aw (zQ _ hp _ _ hex) λ_ _=>aw (vT _) λ_ _=>ak ⟨rfl,rfl,Sk _,by simp⟩
 exact aw (pW _ hp _ _ _ _) λ_ _=>aw (pW _ hp _ _ _ _) λ_ _=>aw (fO _) λ_ _=>aw (vT _) λ_ _=>aw (vT _) λ_ _=>ak (sm _)
abbrev RA4:Type:=(Y Sx×WK)->M (ν×WK)
structure QA (l:List Sx) (d:Nat) (w:WK) (y:ν×WK):Prop where
 p:y.2.1=w.1
 a:l! y.2.2.1.2=l! w.2.1.2
 s:l! y.2.2.2.1<=l! w.2.2.1+l! l*KS d
 t:l! y.2.2.2.2<=l! w.2.2.2+l! l*KS d
def SpA (rr:RA4) (d:Nat):Prop:=∀(l:Y Sx) (w:WK),l! l<=100->(∀s∈l,GT d s)->PX (w.1.1,w.1.2.1)->l! w.2.1.2+d<=50->l! w.2.2.1+l! l*KS d<=100000000->l! w.2.2.2+l! l*KS d<=100000000->Ok (rr (l,w)) (QA l d w)
def ao4 (rr:RA4) (d:Nat) (hr:∀d',d=d'+1->SpA rr d'):SpA (nE rr) d:=by
 rintro l ⟨⟨D,T,t⟩,A,sp,se⟩ hl hg hp hA h1 h2;dsimp only at hp hA h1 h2;have hK:∀i:Nat,i<=l! l->i*KS d<=l! l*KS d:=λi hi=>cK _ hi
 unfold nE bk bD bQ db dZ eh ck bm bS jK bU bX be c7 aI cQ eO;refine bV (l! l) (λi x=>x.1=(i:Int)/\x.2.1=(D,T,t)/\l! x.2.2.1.2=l! A.2/\l! x.2.2.2.1<=l! sp+i*KS d/\l! x.2.2.2.2<=l! se+i*KS d) ?_ ?_ ⟨rfl,rfl,rfl,by simp,by simp⟩
 .rintro i ⟨a,P,A',sp',se'⟩ hi ⟨e1,e2,e3,e4,e5⟩;dsimp only at e1 e2 e3 e4 e5;subst e1 e2;have hKi:=hK (i+1) (by omega);have hKs:=jD i (KS d);rw[Nat.succ_eq_add_one]at hKs;refine cW ?_;refine bH (aU ?_);have hm:=hg _ (bI (T:=.sm) (xs:=l) (j:=(i:Int)) (by omega) (by omega));revert hm;generalize (geti (.sm) l (i:Int))=s;intro hm;cases d with
  |zero=>exact hm.elim
  |succ d=>
   have hR:=hr d rfl;let⟨_,g2,g3,g4,g5,g6,g7⟩:=hm;have hk:KS (d+1)=1+16*KS d:=rfl;have kb:l! s.body*KS d<=8*KS d:=cK _ g4;have ke:l! s.els*KS d<=8*KS d:=cK _ g5;dsimp only;rw[AY];refine aw (ass s D T t A' sp' se' hp (by omega) (by omega) (by omega) g2 g3) λy hy=>?_
   let⟨e,P2,A2,sp2,se2⟩:=y;let⟨q1,z,q3,q4⟩:=hy;dsimp only at q1 z q3 q4;subst q1 z;refine bl (by simp) ?_;refine aV (λx=>x.2=((D,T,t),s,A2,sp2,se2)) (bP (λ_=>ak rfl) λ_=>ak rfl) ?_;rintro⟨e,x⟩ ex;dsimp only at ex;subst ex;refine cq (λ_=>ak ⟨rfl,e3,by dsimp only;omega,by dsimp only;omega⟩) λ_=>?_
   refine a! (aR (by simp) (by simp;omega) (aR (by simp) (by simp;omega) ?_));dsimp only;rw[AY];refine aw (hR s.body ((D,T,t),(A2.1,cC (A2.2++[_]) _ s),sp2,se2) (by omega) g6 hp ?_ ?_ ?_) λy hy=>?_
   .dsimp only;rw[bW];simp;omega
   .dsimp only;omega
   .dsimp only;omega
   let⟨e6,P6,A6,sp6,se6⟩:=y;let⟨q1,z,q5,q6⟩:=hy;dsimp only at q1 z q5 q6;subst q1;rw[bW,bC,cH]at z;refine bl (by simp) ?_;refine aV (λx=>x.2.1=(D,T,t)/\l! x.2.2.1.2=l! A2.2+1/\l! x.2.2.2.1<=l! sp2+16*KS d/\l! x.2.2.2.2<=l! se2+16*KS d) ?_ ?_
   .refine aK (λ_=>?_) λ_=>ak ⟨rfl,z,by dsimp only;omega,by dsimp only;omega⟩
    refine aw (hR s.els ((D,T,t),A6,sp6,se6) (by omega) g7 hp (by dsimp only;omega) (by dsimp only;omega) (by dsimp only;omega)) λy hy=>?_
    let⟨e7,P7,A7,sp7,se7⟩:=y;let⟨N,L,r5,r6⟩:=hy;dsimp only at N L r5 r6;subst N;exact bl (by simp) (ak ⟨rfl,L.trans z,by dsimp only;omega,by dsimp only;omega⟩)
   rintro⟨e8,P8,A8,sp8,se8⟩ ⟨N,L,r5,r6⟩;dsimp only at N L r5 r6;subst N;have el:bn .i64 ((aS (l! A8.2))-1)=(l! A2.2:Int):=by
    rw[L,iI (by simp<;>omega) (by simp<;>omega)];simp<;>omega
   dsimp only;rw[el];have tk:l! (dW (aM (l! A2.2:Int)) A8.2)=l! A2.2:=by rw[cL];omega
   refine cF (a? (C' (by rw[L];omega) ?_));refine cq (λ_=>ak ⟨rfl,by dsimp only;omega,by dsimp only;omega,by dsimp only;omega⟩) λ_=>ak ?_
   exact⟨fV,rfl,by dsimp only;omega,by dsimp only;omega,by dsimp only;omega⟩
 .rintro⟨a,P,A',sp',se'⟩ ⟨e1,e2,e3,e4,e5⟩;dsimp only at e1 e2 e3 e4 e5;subst e1 e2;exact cP (ak ⟨rfl,e3,e4,e5⟩)
def ack:∀(n d:Nat),d<n->SpA (iW n) d
 |0,_,h=>by omega
 |n+1,d,h=>ao4 (iW n) d λz hd=>ack n z (by omega)
def Hr (p:PG) (h:PX p):Ok (f_ p) λr=>r.1=0->(p.2.map λt=>oH 5 t.2.2.2).sum<=60:=by
 have hd:=h.d;have ht:=h.t;refine aw (ag9 p h) λ_ _=>eu (λ_=>ak nofun) λ_=>?_
 refine aw (ZB p.1 hd) λ_ _=>cq (λhn=>ak λh=>(hn h).elim) λ_=>bP (λ_=>ak nofun) λ_=>?_
 refine aw (Sq p h) λ_ _=>cq (λhn=>ak λh=>(hn h).elim) λ_=>?_
 have hk5:KS 5=69905:=rfl;refine bV (l! p.2) (λi x=>x.1.2=(i:Int)/\x.2=p/\x.1.1=((((p.2.take i).map λt=>oH 5 t.2.2.2).sum:Nat):Int)/\(x.1.1:Int)<=((i*6990500:Nat):Int)) ?_ ?_ ⟨rfl,rfl,by simp,by simp⟩
 .rintro i ⟨⟨(c:Int),a⟩,x⟩ hi ⟨z,e2,L,e4⟩;dsimp only at z e2 L e4;subst z;have e2:=e2.symm;subst e2;refine cW ?_;refine bH (aU ?_);have hm:=bI (T:=uX) (xs:=p.2) (j:=(i:Int)) (by omega) (by omega);have N:=h.b _ hm;have hcb:=akh (h.s _ hm);have hcb2:=cK (KS 5) N;rw[hk5]at hcb hcb2;refine aZ (Iw fuel 5 _ (by rw[kN];omega) (dc N (by omega)) (h.s _ hm) (by omega)) (ak ⟨fV,rfl,?_,?_⟩)
  .dsimp only;rw[pH (T:=uX) hi,cr,I8,iI,L];simp
  .dsimp only;rw[iI];omega
 rintro⟨⟨(c:Int),a⟩,x⟩ ⟨z,e2,L,e4⟩;dsimp only at z e2 L e4;subst z;have e2:=e2.symm;subst e2;rw[cY]at L;refine cP ?_;refine aw (P:=λr=>r.1=0->(p.2.map λt=>oH 5 t.2.2.2).sum<=60) ?_ λ_ h=>ak h
 refine bP (λ_=>ak nofun) λg60=>?_
 have g60:c<=60:=g60;refine bV (l! p.2) (λi x=>x.1=(i:Int)/\x.2.1=p/\x.2.2.1.1=p.1/\x.2.2.1.2.1=p.2/\l! x.2.2.2.1.2=0/\l! x.2.2.2.2.1<=i*6990500/\l! x.2.2.2.2.2<=i*6990500) ?_ ?_ ⟨rfl,rfl,rfl,rfl,rfl,by simp,by simp⟩
 .rintro i ⟨a,x,⟨D,T,t⟩,A,sp,se⟩ hi ⟨z,e2,L,e4,e5,e6,e7⟩;dsimp only at z e2 L e4 e5 e6 e7;subst z;have e2:=e2.symm;subst e2 L e4;refine cW ?_;refine bH (aU ?_);have hm:=bI (T:=uX) (xs:=p.2) (j:=(i:Int)) (by omega) (by omega);have N:=h.b _ hm;have hs:=h.s _ hm;revert N hs;dsimp only;generalize (geti uX p.2 (i:Int))=th;intro N hs;have hk:KS 5=69905:=rfl;have hle:l! th.2.2.2*KS 5<=100*KS 5:=cK _ N;rw[hk]at hle;refine aw (ack fuel 5 (by rw[kN];omega) th.2.2.2 ((p.1,p.2,(i:Int)),A,sp,se) N hs h (by grind) (by grind) (by grind)) λy hy=>?_
  let⟨e,P2,A2,sp2,se2⟩:=y;let⟨q1,q2,q3,q4⟩:=hy;dsimp only at q1 q2 q3 q4;subst q1;rw[hk]at q3 q4;refine bl (by simp) (cq (λhn=>ak λh=>(hn h).elim) λ_=>ak ?_);exact⟨fV,rfl,rfl,rfl,by dsimp only;omega,by dsimp only;omega,by dsimp only;omega⟩
 .rintro⟨a,x,P,w⟩ ⟨z,e2,_⟩;dsimp only at z e2;subst z;have e2:=e2.symm;subst e2;exact cP (ak λ_=>by omega)
def du {o z:M R} {Q:R->Prop} (h:o=z) (A:Ok z Q):Ok o Q:=h▸A
def D0:Y DT:=[(1,0,[120],0,0,[]),(1,0,[121],0,1,[]),(2,0,[118],0,0,[]),(1,0,[113],2,0,[]),(3,0,[109],0,0,[]),(3,0,[110],0,0,[]),(4,0,[114],0,0,[]),(5,0,[99],0,0,[109]),(6,0,[102],0,0,[])]
def L0:Y ζ:=[[97],[98]]
set_option maxHeartbeats 20000000 in
def axd:∃r,f_ (D0,[([109,97,105,110],0,L0,[oV (1,0,[120],[],[],eL (1,1,[],[]),[],[])])])=Z r/\r.1=0:=by
 suffices h:Ok (f_ (D0,[([109,97,105,110],0,L0,[oV (1,0,[120],[],[],eL (1,1,[],[]),[],[])])])) λr=>r.1=0 by
  obtain⟨y,h1,h2⟩:=h;exact⟨y,h1,h2⟩
 unfold f_ bk bD bQ db eh bS jK bU bX be c7 aI cQ;with_reducible repeat' first|exact ak rfl|refine abl ?_|refine abk ?_|refine abj ?_|refine abh ?_|refine Vq ?_|refine an4 ?_|refine aU ?_|refine qP rfl ?_|refine jO rfl ?_|refine bl rfl ?_|refine abi ?_|refine Rl ?_|refine du (qX.eq_1 ..) ?_|refine du (mZ.eq_1 ..) ?_|refine du (fR.eq_1 ..) ?_|refine du (lU.eq_1 ..) ?_|refine du (lA.eq_1 ..) ?_|refine du (mr.eq_1 ..) ?_|refine du (qI.eq_1 ..) ?_|refine du (s8.eq_1 ..) ?_|refine du (oT.eq_1 ..) ?_|refine du (l7.eq_1 ..) ?_|refine du (kX.eq_1 ..) ?_|refine du (p_.eq_1 ..) ?_|refine du (jM.eq_1 ..) ?_|refine du (nA.eq_1 ..) ?_|refine du (qH.eq_1 ..) ?_|refine du (s7.eq_1 ..) ?_|refine du (i_.eq_1 ..) ?_|refine du (oP.eq_1 ..) ?_|refine du (iU.eq_1 ..) ?_|refine du (j7.eq_1 ..) ?_|refine du (E5.eq_1 ..) ?_|refine du (Ax.eq_1 ..) ?_|refine du (xV.eq_1 ..) ?_|refine du (nE.eq_1 ..) ?_|refine du (nz.eq_1 ..) ?_|refine du (eD.eq_1 ..) ?_|refine du (ii.eq_1 ..) ?_|refine du (uq.eq_1 ..) ?_|refine du (oR.eq_1 ..) ?_|refine du (E4.eq_1 ..) ?_|refine du (Aw.eq_1 ..) ?_|refine du (E3.eq_1 ..) ?_|refine du (wz.eq_1 ..) ?_|refine du (jG.eq_1 ..) ?_|refine du (dt.eq_1 ..) ?_|refine du (ck.eq_1 ..) ?_|refine du (congrFun (eZ dR kN) _) ?_|refine du (BD _ _) ?_|refine du (congrFun (eZ e_ kN) _) ?_|refine du (Ci _ _) ?_|refine du (congrFun (eZ iz kN) _) ?_|refine du (Cj _ _) ?_|refine du (congrFun (eZ oC kN) _) ?_|refine du (KM _ _) ?_|refine du (congrFun (eZ iW kN) _) ?_|refine du (Fd _ _) ?_|refine du (congrFun (eZ oB kN) _) ?_|refine du (KL _ _) ?_|refine du (congrFun (eZ oA kN) _) ?_|refine du (Bf _ _) ?_
 all_goals trace_state
structure TM (nT:Nat) (t:HT):Prop where
 l:t.2.2.1=L0
 b:l! t.2.2.2<=8
 s:∀s∈t.2.2.2,GS nT 3 s
structure PJ (p:PG):Prop where
 d:p.1=D0
 t0:1<=l! p.2
 t:l! p.2<=4
 m:∀t∈p.2,TM (l! p.2) t
 n:p.2.map Prod.fst=zM.take (l! p.2)
def PJ.x {p:PG} (h:PJ p):PX p:=⟨by rw[h.d];decide,by have:=h.t;omega,λt ht=>by rw[(h.m t ht).l];decide,λt ht=>by have:=(h.m t ht).b;omega,λt ht s z=>((h.m t ht).s s z).le (by omega:3<=5) |>.t⟩
def W7:ur ()=Z D0:=rfl
def alc:∀m:Nat,m<5->∀j:Nat,j<m->geti (.str) zM (j:Int)∈zM.take m:=by decide
def UX {nT:Nat} (op:Int) {n:ζ} (A:op=12\/op=13) (D:n∈zM.take nT):GS nT 3 (oV (op,0,n,[],[],eL (0,0,[],[]),[],[])):=GS.wo (by omega) (by simp) (λx z=>(by cases z)) (by rcases A with rfl|rfl<;>(constructor<;>simp[Sx.op,Sx.name,Sx.index,Sx.arg,Sx.els,Sx.body]<;>exact D))
def Kv (x:η) (hl:l! x<=9223372036854775807) (hx:∀z∈x,0<=z/\z<=255):Ok (pP x) λp=>PJ p/\∃r,f_ p=Z r/\r.1=0:=by
 unfold pP bk bD bQ cS eV kZ mw db iS w9 Li Prod.B bm bS jK bU kq c7 aI cQ eO;refine aZ W7 ?_;refine aw (gG 3 (x,0) ⟨hl,hx,by dsimp only;omega,by dsimp only;omega⟩) λy hy=>?_
 let⟨n,t0⟩:=y;let⟨s0,n0,n1,_⟩:=hy;have n1:=n1 (by decide);dsimp only at s0 n0 n1;have ew:bn .i64 (2+n)=2+n:=iI;obtain⟨nT,hnT⟩:∃m:Nat,2+n=(m:Int):=⟨(2+n).toNat,by omega⟩
 refine bV nT (λi x=>x.1=(i:Int)/\x.2.2.1=D0/\x.2.2.2.1=zM/\TP x.2.2.2.2.1/\x.2.2.2.2.2.1.2=[]/\x.2.2.2.2.2.2.map Prod.fst=zM.take i/\∀t∈x.2.2.2.2.2.2,TM nT t) ?_ ?_ ⟨rfl,rfl,rfl,s0.p,rfl,rfl,λt ht=>(by cases ht)⟩
 .rintro i ⟨a,m,D,N,t,h,th⟩ hi ⟨e1,e2,e3,e4,e5,e6,e7⟩;dsimp only at e1 e2 e3 e4 e5 e6 e7;subst e1 e2;refine bP (λg=>?_) λg=>(by dsimp only at g;rw[ew]at g;omega)
  have l4:l! N=4:=by rw[e3];rfl
  refine bH (bH (aU ?_));have hthl:l! th=i:=by have:=eZ aj e6;rw[cm,cL]at this;have q4:zM.length=4:=rfl;omega
  refine aV (λx=>x.2.2.2.1.1=geti (.str) N (i:Int)/\x.2.1=D0/\x.2.2.1=zM/\TP x.2.2.2.2.1/\x.2.2.2.2.2.1.2=[]/\x.2.2.2.2.2.2.1=th/\x.2.2.2.2.2.2.2.1=L0/\l! x.2.2.2.2.2.2.2.2<=3/\∀s∈x.2.2.2.2.2.2.2.2,GS nT 3 s) ?_ ?_
  .refine aK (λ_=>?_) λ_=>ak ⟨rfl,rfl,e3,e4,e5,rfl,rfl,by simp,λs A=>(by cases A)⟩
   refine bV (1+n).toNat (λk x=>x.2.2.2.2.1.1=geti (.str) N (i:Int)/\x.1=1+(k:Int)/\x.2.2.1=D0/\x.2.2.2.1=zM/\TP x.2.2.2.2.2.1/\x.2.2.2.2.2.2.1.2=[]/\x.2.2.2.2.2.2.2.1=th/\x.2.2.2.2.2.2.2.2.1=L0/\l! x.2.2.2.2.2.2.2.2.2<=k/\∀s∈x.2.2.2.2.2.2.2.2.2,GS nT 3 s) ?_ ?_ ⟨rfl,rfl,rfl,e3,e4,e5,rfl,rfl,by simp,λs A=>(by cases A)⟩
   .rintro k ⟨c,m1,D1,N1,z1,t1,h1,th1,l1,b1⟩ hk ⟨fz,f1,f2,L,f4,f5,f6,f7,f8,f9⟩;dsimp only at fz f1 f2 L f4 f5 f6 f7 f8 f9;subst f1;refine bP (λ_=>?_) λg=>(by dsimp only at g;rw[ew]at g;omega)
    have l41:l! N1=4:=by rw[L];rfl
    refine bH (bH (aU ?_));refine a! (ak ?_);dsimp only;rw[iI (n:=1+(k:Int)+1) (by omega) (by omega)];refine ⟨fz,by omega,f2,L,f4,f5,f6,f7,by simp;omega,λs A=>?_⟩;rcases bO.1 A with A|A
    .exact f9 s A
    .rw[aC]at A;rw[A];refine UX 12 (.inl rfl) ?_;rw[L,show 1+(k:Int)=((1+k:Nat):Int) by omega];exact alc nT (by omega) (1+k) (by omega)
   .rintro⟨c,m1,D1,N1,z1,t1,h1,th1,l1,b1⟩ ⟨fz,f1,f2,L,f4,f5,f6,f7,f8,f9⟩;dsimp only at fz f1 f2 L f4 f5 f6 f7 f8 f9;subst f1;refine bP (λg=>(by dsimp only at g;rw[ew]at g;omega)) λ_=>ak ?_
    exact⟨fz,f2,L,f4,f5,f6,f7,by dsimp only;omega,f9⟩
  rintro⟨m1,D1,N1,z1,t1,h1,th1,l1,b1⟩ ⟨fz,f2,L,f4,f5,f6,f7,f8,f9⟩;dsimp only at fz f2 L f4 f5 f6 f7 f8 f9;subst f2 f6 f7;refine aw (gG 3 t1 f4) λy hy=>?_
  let⟨k2,t2⟩:=y;let⟨u1,u2,u3,_⟩:=hy;have u3:=u3 (by decide);dsimp only at u1 u2 u3;dsimp only;rw[iI (n:=1+k2) (by omega) (by omega)];refine aw (aed (nT:=nT) 2 (by omega) (1+k2) m1 t2 h1 (by omega) u1.p (by rw[f5];simp)) λy hy=>?_
  let⟨m3,t3,h3,l3⟩:=y;let⟨w1,w2,w3,w4⟩:=hy;dsimp only at w1 w2 w3 w4;refine bl (by simp) (a! ?_);have hbody:∀s∈b1++l3,GS nT 3 s:=λs A=>by
   rcases bO.1 A with A|A
   .exact f9 s A
   .exact w2 s A
  have hlen:l! (b1++l3)<=6:=by rw[bC];omega
  refine aV (λx=>x.2.2.2.1.1=geti (.str) N (i:Int)/\x.2.1=D0/\x.2.2.1=zM/\TP x.2.2.2.2.1/\x.2.2.2.2.2.1.2=[]/\x.2.2.2.2.2.2.1=th1/\x.2.2.2.2.2.2.2.1=L0/\l! x.2.2.2.2.2.2.2.2<=8/\∀s∈x.2.2.2.2.2.2.2.2,GS nT 3 s) ?_ ?_
  .refine aV (λx=>x.2.2.2.2.1.1=geti (.str) N (i:Int)/\x.2.2.1=D0/\x.2.2.2.1=zM/\TP x.2.2.2.2.2.1/\x.2.2.2.2.2.2.1.2=[]/\x.2.2.2.2.2.2.2.1=th1/\x.2.2.2.2.2.2.2.2.1=L0/\x.2.2.2.2.2.2.2.2.2=b1++l3) ?_ ?_
   .refine aK (λ_=>?_) λ_=>ak ⟨fz,rfl,L,w3.p,w4.trans f5,rfl,rfl,rfl⟩
    exact aw (gG 3 t3 w3.p) λy hy=>ak ⟨fz,rfl,L,hy.1.p,w4.trans f5,rfl,rfl,rfl⟩
   rintro⟨b,m4,D4,N4,z4,t4,h4,th4,l4,b4⟩ ⟨pz,p2,p3,p4,p5,p6,p7,p8⟩;dsimp only at pz p2 p3 p4 p5 p6 p7 p8;subst p2 p6 p7 p8;have l44:l! N4=4:=by rw[p3];rfl
   refine aQ (λ_=>?_) λ_=>ak ⟨pz,rfl,p3,p4,p5,rfl,rfl,by dsimp only;omega,hbody⟩
   refine bH (bH (aU ?_));refine bG (by simp at hlen ⊢;omega) (by omega) (ak ⟨pz,rfl,p3,p4,p5,rfl,rfl,by dsimp only;rw[bC,cH];omega,λs A=>?_⟩);rcases bO.1 A with A|A
   .exact hbody s A
   .rw[aC]at A;rw[A];refine UX 13 (.inr rfl) ?_;rw[p3];exact alc nT (by omega) 1 (by omega)
  rintro⟨m4,D4,N4,z4,t4,h4,th4,l4,b4⟩ ⟨pz,p2,p3,p4,p5,p6,p7,p8,p9⟩;dsimp only at pz p2 p3 p4 p5 p6 p7 p8 p9;subst p2 p6 p7;refine a! (ak ?_);dsimp only;refine ⟨fV,rfl,p3,p4,p5,by rw[pH (T:=.str) (xs:=zM) (i:=i) (by have q4:zM.length=4:=rfl;omega),cr,e6,<-e3];show _++[z4.1]=_;rw[pz],λt ht=>?_⟩;rcases bO.1 ht with ht|ht
  .exact e7 t ht
  .rw[aC]at ht;rw[ht];exact⟨rfl,p8,p9⟩
 .rintro⟨a,m,D,N,t,h,th⟩ ⟨e1,e2,e3,e4,e5,e6,e7⟩;dsimp only at e1 e2 e3 e4 e5 e6 e7;subst e1 e2;refine bP (λg=>(by dsimp only at g;rw[ew]at g;omega)) λ_=>?_
  have hthl:l! th=nT:=by have:=eZ aj e6;rw[cm,cL]at this;have q4:zM.length=4:=rfl;omega
  have hpm:PJ (D0,th):=⟨rfl,by dsimp only;omega,by dsimp only;omega,by dsimp only;rw[hthl];exact e7,by dsimp only;rw[hthl];exact e6⟩
  refine aw (P:=λp=>PJ p/\∃r,f_ p=Z r/\r.1=0) ?_ λr hr=>ak hr
  let⟨y,hy,_⟩:=Hr (D0,th) hpm.x;refine aZ hy (cq (λ_=>?_) λh=>ak ⟨hpm,y,hy,h⟩);refine aZ W7 (aZ (S5 _) (aZ (vN _ _) (ak ?_)));refine ⟨⟨rfl,by simp,by simp,λt ht=>?_,rfl⟩,axd⟩;simp only[aC]at ht;rw[ht];refine ⟨rfl,by simp,λs A=>?_⟩;simp only[aC]at A;rw[A,gd,BQ];exact GS.asg (by decide) (GE.num _ 3)
abbrev iA (l:Y IT) (k:Nat):IT:=geti sF l (k:Int)
def JT (l:Y IT) (ρ:Nat->Nat) (a e k:Nat):Prop:=(iA l k).1=5->∃z:Nat,(iA l k).2.1=(z:Int)/\(z=e\/a<=z/\z<e/\ρ z<ρ k)
def sB (l:Y IT) (a e:Nat):Prop:=a<=e/\∃ρ:Nat->Nat,∀k,a<=k->k<e->1<=ρ k/\ρ k<=e-a/\JT l ρ a e k/\((iA l k).1<5->k+1=e\/ρ (k+1)<ρ k)
def sB.nil (l:Y IT) (a:Nat):sB l a a:=⟨bJ _,λ_=>0,λk h1 z=>by omega⟩
def sB.one {l:Y IT} (h:¬(iA l i).1=5):sB l i (i+1):=⟨by omega,λ_=>1,λk h1 A=>⟨bJ 1,by show 1<=i+1-i;omega,λz=>by rw[show k=i by omega]at z;exact (h z).elim,λ_=>.inl (by omega)⟩⟩
def sB.congr {l l':Y IT} (h:sB l i j) (D:∀k,i<=k->k<j->iA l' k=iA l k):sB l' i j:=by
 let⟨h1,ρ,L⟩:=h;exact⟨h1,ρ,λk A z=>by unfold JT;rw[D k A z];exact L k A z⟩
def sB.app {l:Y IT} {c:Nat} (h:sB l i j) (k:sB l j c):sB l i c:=by
 let⟨h1,ρ,h2⟩:=h;let⟨k1,σ,k2⟩:=k;refine ⟨by omega,λk=>if k<j then ρ k+(c-j) else σ k,λk g1 g2=>?_⟩;by_cases D:k<j
 .obtain⟨q1,q2,q3,q4⟩:=h2 k g1 D;simp only[aE D];refine ⟨by omega,by omega,?_,λz=>?_⟩
  .intro z;simp only[aE D];let⟨A,e,r⟩:=q3 z;refine ⟨A,e,?_⟩;rcases r with r|⟨r1,N,r3⟩
   .subst r;by_cases L:A=c
    .exact .inl L
    .have:=(k2 A (bJ _) (by omega)).2.1;rw[ax (Fo _)];exact .inr ⟨by omega,by omega,by omega⟩
   .rw[aE N];exact .inr ⟨r1,by omega,by omega⟩
  .rcases q4 z with r|r
   .by_cases L:k+1=c
    .exact .inl L
    .have:=(k2 (k+1) (by omega) (by omega)).2.1;rw[ax (by omega)];exact .inr (by omega)
   .by_cases hb:k+1<j
    .rw[aE hb];exact .inr (by omega)
    .rw[ax hb];by_cases L:k+1=c
     .exact .inl L
     .have:=(k2 (k+1) (by omega) (by omega)).2.1;exact .inr (by omega)
 .obtain⟨q1,q2,q3,q4⟩:=k2 k (by omega) g2;simp only[ax D];refine ⟨q1,by omega,?_,λz=>?_⟩
  .intro z;simp only[ax D];let⟨A,e,r⟩:=q3 z;refine ⟨A,e,r.imp id λ⟨r1,N,r3⟩=>⟨by omega,N,?_⟩⟩;rw[ax (by omega)];exact r3
  .rw[ax (by omega)];exact q4 z
def sB.ite {l:Y IT} {e:Nat} (h:sB l i j) (hj:(iA l j).1=5) (hx:(iA l j).2.1=(e:Int)) (k:sB l (j+1) e):sB l i e:=by
 let⟨h1,ρ,h2⟩:=h;let⟨k1,σ,k2⟩:=k;refine ⟨by omega,λk=>if k<j then ρ k+(e-j) else if k=j then e-j else σ k,λk g1 g2=>?_⟩;by_cases A:k<j
 .obtain⟨q1,q2,q3,q4⟩:=h2 k g1 A;simp only[aE A];refine ⟨by omega,by omega,?_,λz=>?_⟩
  .intro z;simp only[aE A];let⟨L,e',r⟩:=q3 z;refine ⟨L,e',.inr ?_⟩;rcases r with r|⟨r1,D,N⟩
   .rw[r,ax (Fo _),aE rfl];exact⟨by omega,by omega,by omega⟩
   .rw[aE D];exact⟨r1,by omega,by omega⟩
  .refine .inr ?_;by_cases hb:k+1<j
   .rw[aE hb];rcases q4 z with r|r<;>omega
   .rw[ax hb,aE (by omega)];omega
 .by_cases hkj:k=j
  .subst hkj;simp only[ax A,aE];exact⟨by omega,by omega,λ_=>⟨e,hx,.inl rfl⟩,λz=>by rw[hj]at z;omega⟩
  .obtain⟨q1,q2,q3,q4⟩:=k2 k (by omega) g2;simp only[ax A,ax hkj];refine ⟨q1,by omega,?_,λz=>?_⟩
   .intro z;simp only[ax A,ax hkj];let⟨L,e',r⟩:=q3 z;refine ⟨L,e',r.imp id λ⟨r1,D,N⟩=>⟨by omega,D,?_⟩⟩;rw[ax (by omega),ax (by omega)];exact N
   .rw[ax (by omega),ax (by omega)];exact q4 z
def sB.whl {l:Y IT} {c:Nat} (h:sB l i c) (hc:(iA l c).1=10) (k:sB l (c+1) j) (hj:(iA l j).1=5) (hx:(iA l j).2.1=(i:Int)):sB l i (j+1):=by
 let⟨h1,ρ,h2⟩:=h;let⟨k1,σ,k2⟩:=k;refine ⟨by omega,λk=>if k<c then ρ k+1 else if k=c then 1 else if k<j then σ k+(c-i)+2 else c-i+2,λk g1 g2=>?_⟩;by_cases A:k<c
 .obtain⟨q1,q2,q3,q4⟩:=h2 k g1 A;simp only[aE A];refine ⟨by omega,by omega,?_,λz=>?_⟩
  .intro z;simp only[aE A];let⟨N,e',r⟩:=q3 z;refine ⟨N,e',.inr ?_⟩;rcases r with r|⟨r1,L,r3⟩
   .rw[r,ax (Fo _),aE rfl];exact⟨by omega,by omega,by omega⟩
   .rw[aE L];exact⟨r1,by omega,by omega⟩
  .refine .inr ?_;by_cases D:k+1<c
   .rw[aE D];rcases q4 z with r|r<;>omega
   .rw[ax D,aE (by omega)];omega
 .by_cases hkc:k=c
  .subst hkc;simp only[ax A,aE];exact⟨by omega,by omega,λz=>by rw[hc]at z;omega,λz=>by rw[hc]at z;omega⟩
  .simp only[ax A,ax hkc];by_cases hkj:k<j
   .obtain⟨q1,q2,q3,q4⟩:=k2 k (by omega) hkj;simp only[aE hkj];refine ⟨by omega,by omega,?_,λz=>?_⟩
    .intro z;simp only[ax A,ax hkc,aE hkj];let⟨N,e',r⟩:=q3 z;refine ⟨N,e',.inr ?_⟩;rcases r with r|⟨r1,L,r3⟩
     .rw[r,ax (by omega),ax (by omega),ax (Fo _)];exact⟨by omega,by omega,by omega⟩
     .rw[ax (by omega),ax (by omega),aE L];exact⟨by omega,by omega,by omega⟩
    .refine .inr ?_;rw[ax (by omega),ax (by omega)];by_cases D:k+1<j
     .rw[aE D];rcases q4 z with r|r<;>omega
     .rw[ax D];omega
   .have hkj:k=j:=by omega
    subst hkj;simp only[ax (Fo _)];refine ⟨by omega,by omega,λ_=>⟨i,hx,.inr ⟨bJ _,by omega,?_⟩⟩,λz=>by rw[hj]at z;omega⟩;simp only[ax A,ax hkc,ax (Fo _)];by_cases ha:i<c
    .rw[aE ha];have:=(h2 i (bJ _) ha).2.1;omega
    .rw[ax ha,aE (by omega)];omega
def OB (nT:Nat) (i:IT):Prop:=
 if i.1=6 then 0<=i.2.2.1/\i.2.2.1<=2 else if i.1=8 then 0<=i.2.1/\i.2.1<=2 else if i.1=7 then i.2.2.1=3/\i.2.2.2.2.1=2 else if i.1=9 then i.2.1=3/\i.2.2.2.2.1=2 else if i.1=11\/i.1=12 then i.2.1=0\/i.2.1=1 else if 13<=i.1/\i.1<=16 then i.2.1=2 else if 21<=i.1/\i.1<=23 then i.2.1=0 else if i.1=24\/i.1=25 then 0<=i.2.1/\i.2.1<(nT:Int) else if i.1=26 then i.2.1=0 else if i.1=27 then i.2.2.1=0 else if i.1=4 then 6<=i.2.2.2.2.1/\i.2.2.2.2.1<=18 else ¬i.1=3
structure GO (nT:Nat) (i:IT):Prop where
 o1:1<=i.1
 o2:i.1<=27
 r:∀j:Int,j∈jB i->0<=j/\j<32
 b:OB nT i
def SO (ss:Y π) (t s:Int):Prop:=0<=s/\s<l! ss/\(geti pR ss s).1=t
structure GI (nT:Nat) (ss:List π) (t:Int) (i:IT):Prop where
 o:GO nT i
 s:SO ss t i.2.2.2.2.2
def YX (l:Y IT) (hl:l! l<=1000000) (h1:1<=l! l) (hb:sB l 0 (l! l-1)) (he:(iA l (l! l-1)).1=28) (k:Nat) (hk:k<l! l):qF (l,(k:Int))=Z J:=by
 let⟨_,ρ,hρ⟩:=hb;refine cI ?_;unfold qF bm bS jY bX be c7 aI cQ;refine pX (λx=>((l! l:Int)+1-x.2).toNat) (λx=>0<=x.2/\∃q:Nat,x.1=(q:Int)/\q<l! l/\((if q<l! l-1 then ρ q else 0:Nat):Int)+x.2<=(l! l:Int)) ?_ ⟨by dsimp only;omega,k,rfl,hk,?_⟩
 .rintro⟨a,(n:Int)⟩ ⟨n0,q,e,hq,hr⟩;dsimp only at n0 e hr;subst e;refine d_ (λ_=>?_) λg=>(by dsimp only[ay]at g;omega)
  refine gQ ?_;refine gQ (bP (λg=>by dsimp only at g;omega) λ_=>ak ?_);refine jO (by rw[m7];dsimp only[ay];omega) ?_;refine bH (aU ?_);refine aZ (I2 _) ?_;refine eu (λ_=>ak rfl) λL=>?_
  have L:1<=(iA l q).1/\(iA l q).1<=5:=bL L;have A:q<l! l-1:=xN λh=>by rw[show q=l! l-1 by omega]at L;rw[he]at L;omega
  let⟨r1,r2,r3,r4⟩:=hρ q (mf _) A;rw[aE A]at hr;refine bH (aU ?_);have fin:∀z:Nat,z=l! l-1\/z<l! l-1/\ρ z<ρ q->0<=n+1/\∃D:Nat,(z:Int)=(D:Int)/\D<l! l/\((if D<l! l-1 then ρ D else 0:Nat):Int)+(n+1)<=(l! l:Int):=λz h=>⟨by omega,z,rfl,by omega,by
   rcases h with h|⟨h,h'⟩
   .rw[ax (by omega)];omega
   .rw[aE h];omega⟩
  refine aK (λN=>?_) λN=>ak (ak ?_)
  .obtain⟨z,e,hq'⟩:=r3 N;refine aR (ey _) (by dsimp only;omega) (aU (ak (ak ?_)));dsimp only;rw[iI (n:=n+1) (by omega) (by omega)];have:=fin z (hq'.imp id λh=>⟨h.2.1,h.2.2⟩);rw[<- e]at this;exact⟨this,by omega⟩
  .dsimp only;have N:¬(iA l q).1=5:=N;rw[iI (n:=n+1) (by omega) (by omega),fV];refine ⟨fin (q+1) ?_,by omega⟩;rcases r4 (by omega) with h|h
   .exact .inl h
   .by_cases hb:q+1=l! l-1
    .exact .inl hb
    .exact .inr ⟨by omega,h⟩
 .dsimp only;split
  next h=>have:=(hρ k (mf _) h).2.1;omega
  .omega
def OR (w:WT) (z:w.1=C0):qG (w,3,2)=Z J:=by
 refine cI ?_;have h0:(0:Int)<=3:=by decide
 have h1:(3:Int)<(l! w.1:Int):=by rw[z];decide
 have A:geti lF w.1 3=([113],0,2,af,0):=by rw[z];rfl
 unfold qG bm jK bX be aI;refine gQ (aZ (tN _ _) (aK (λ_=>?_) λh=>(h ⟨h0,h1⟩).elim));rw[A];refine aR h0 h1 (aU (aK (λ_=>?_) λh=>(h rfl).elim));refine aR h0 h1 (aU (cq (λ_=>?_) λh=>bA h (by decide)));exact aR h0 h1 (aU (ak (ak rfl)))
def SX {nT:Nat} (w:WT) (i:IT) (hw:WX w) (hT:l! w.2.2.2.2.1=nT) (z:OB nT i):mF (w,i)=Z J:=by
 let⟨D,hl,hd,hf,_,_,_⟩:=hw;refine cI ?_;unfold mF bk bD bQ cS eV bm jY bX be aI;unfold OB at z;simp only[tN,obs];refine aK (λh=>?_) λn6=>?_
 .rw[aE h]at z;have N:(geti lF w.1 i.2.2.1).2.2.1=(0:Int):=by
   rw[D];rcases (by omega:i.2.2.1=0\/i.2.2.1=1\/i.2.2.1=2) with h|h|h<;>rw[h]<;>rfl
  have hi:0<=i.2.2.1/\i.2.2.1<(l! w.1:Int):=⟨z.1,by rw[D];have:=z.2;show i.2.2.1<5;omega⟩
  exact gQ (aK (λ_=>aR hi.1 hi.2 (aU (ak (ak (bc N))))) λh=>(h hi).elim)
 rw[ax n6]at z;refine aK (λh=>?_) λn8=>?_
 .rw[aE h]at z;have N:(geti lF w.1 i.2.1).2.2.1=(0:Int):=by
   rw[D];rcases (by omega:i.2.1=0\/i.2.1=1\/i.2.1=2) with h|h|h<;>rw[h]<;>rfl
  have hi:0<=i.2.1/\i.2.1<(l! w.1:Int):=⟨z.1,by rw[D];have:=z.2;show i.2.1<5;omega⟩
  exact gQ (aK (λ_=>aR hi.1 hi.2 (aU (ak (ak (bc N))))) λh=>(h hi).elim)
 rw[ax n8]at z;refine aK (λh=>?_) λn7=>?_
 .rw[aE h]at z;rw[z.1,z.2];exact aZ (OR w D) (ak rfl)
 rw[ax n7]at z;refine aK (λh=>?_) λn9=>?_
 .rw[aE h]at z;rw[z.1,z.2];exact aZ (OR w D) (ak rfl)
 rw[ax n9]at z;refine aV (λx=>x.2=(w,i)/\(x.1=J↔i.1=11\/i.1=12)) (aK (λh=>ak ⟨rfl,λ_=>.inl h,λ_=>bc h⟩) λh=>ak ⟨rfl,λA=>.inr (bL A),λA=>bc (A.resolve_left h)⟩) ?_;rintro⟨b,x⟩ ⟨e,hx⟩;dsimp only at e hx;subst e;refine aQ (λh=>?_) λh=>?_
 .rw[aE (hx.1 h)]at z;have N:(geti tC w.2.1 i.2.1).2=af:=by
   rw[hl];rcases z with h|h<;>rw[h]<;>rfl
  have hi:0<=i.2.1/\i.2.1<(l! w.2.1:Int):=⟨by omega,by rw[hl];show i.2.1<3;omega⟩
  exact gQ (aK (λ_=>aR hi.1 hi.2 (aU (ak (ak (by dsimp only;rw[N];rfl))))) λh=>(h hi).elim)
 rw[ax λA=>by rw[hx.2 A]at h;cases h]at z;have hj:∀{p:Prop} {b:Bool},(b=J->p)->(p->b=J)->b=af->¬p:=λ_ A h3 L=>by rw[A L]at h3;cases h3
 refine aV (λx=>x.2=(w,i)/\(x.1=J->13<=i.1/\i.1<=16)/\(13<=i.1/\i.1<=16->x.1=J)) (aK (λh=>ak ⟨rfl,λ_=>by first|omega|(dsimp only at h;omega),λ_=>bc h⟩) λ_=>aK (λh=>ak ⟨rfl,λ_=>by first|omega|(dsimp only at h;omega),λ_=>bc h⟩) λ_=>aK (λh=>ak ⟨rfl,λ_=>by first|omega|(dsimp only at h;omega),λ_=>bc h⟩) λ_=>ak ⟨rfl,λh=>by have:=bL h;first|omega|(dsimp only at this;omega),λh=>bc (by first|omega|(dsimp only at *;omega))⟩) ?_;rintro⟨b,x⟩ ⟨e,h1,A⟩;dsimp only at e h1 A;subst e;refine aQ (λh=>?_) λh=>?_
 .rw[aE (h1 h)]at z;have hi:0<=i.2.1/\i.2.1<(l! w.2.1:Int):=⟨by omega,by rw[hl];show i.2.1<3;omega⟩
  exact gQ (aK (λ_=>aR hi.1 hi.2 (aU (ak (ak (by dsimp only;rw[z,hl];rfl))))) λh=>(h hi).elim)
 rw[ax (hj h1 A h)]at z;refine aV (λx=>x.2=(w,i)/\(x.1=J->21<=i.1/\i.1<=23)/\(21<=i.1/\i.1<=23->x.1=J)) (aK (λh=>ak ⟨rfl,λ_=>by first|omega|(dsimp only at h;omega),λ_=>bc h⟩) λ_=>aK (λh=>ak ⟨rfl,λ_=>by first|omega|(dsimp only at h;omega),λ_=>bc h⟩) λ_=>ak ⟨rfl,λh=>by have:=bL h;first|omega|(dsimp only at this;omega),λh=>bc (by first|omega|(dsimp only at *;omega))⟩) ?_;rintro⟨b,x⟩ ⟨e,h1,A⟩;dsimp only at e h1 A;subst e;refine aQ (λh=>?_) λh=>?_
 .rw[aE (h1 h)]at z;exact ak (bc ⟨by dsimp only;omega,by dsimp only;rw[hd];show i.2.1<1;omega⟩)
 rw[ax (hj h1 A h)]at z;refine aV (λx=>x.2=(w,i)/\(x.1=J->i.1=24\/i.1=25)/\(i.1=24\/i.1=25->x.1=J)) (aK (λh=>ak ⟨rfl,λ_=>.inl h,λ_=>bc h⟩) λh=>ak ⟨rfl,λA=>.inr (bL A),λA=>bc (A.resolve_left h)⟩) ?_;rintro⟨b,x⟩ ⟨e,h1,A⟩;dsimp only at e h1 A;subst e;refine aQ (λh=>?_) λh=>?_
 .rw[aE (h1 h)]at z;exact ak (bc ⟨z.1,by dsimp only;rw[hT];exact z.2⟩)
 rw[ax (hj h1 A h)]at z;refine aK (λh=>?_) λn=>?_
 .rw[aE h]at z;exact ak (bc ⟨by dsimp only;omega,by dsimp only;rw[hf];show i.2.1<1;omega⟩)
 rw[ax n]at z;refine aK (λh=>?_) λn=>?_
 .rw[aE h]at z;exact ak (bc ⟨by dsimp only;omega,by dsimp only;rw[hf];show i.2.2.1<1;omega⟩)
 rw[ax n]at z;by_cases L:i.1=4
 .rw[aE L]at z;refine aK (λh=>by have h:i.1=3:=h;omega) λ_=>aK (λ_=>?_) λh=>(h L).elim
  refine gQ (d_ (λ_=>ak (ak (LD.2 z.2))) λh=>by dsimp only at h;omega)
 .rw[ax L]at z;exact aK (λh=>(z h).elim) λ_=>aK (λh=>(L h).elim) λ_=>ak rfl
structure GC (nT:Nat) (ss:List π) (k:Int) (c:Int×List IT):Prop where
 r0:1<=c.1
 r1:c.1<=32
 n:1<=l! c.2
 u:l! c.2<=1000000
 e:(iA c.2 (l! c.2-1)).1=28/\(iA c.2 (l! c.2-1)).2.2.2.2.2= -1
 b:sB c.2 0 (l! c.2-1)
 i:∀q:Nat,q<l! c.2-1->GI nT ss k (iA c.2 q)
 r:∀q:Nat,q<l! c.2-1->(iA c.2 q).1=10->0<=(iA c.2 q).2.2.1/\(iA c.2 q).2.2.1<(l! c.2:Int)
 g:∀q:Nat,q<l! c.2-1->∀j:Int,j∈jB (iA c.2 q)->j<c.1
variable {a:Int}
def HG {nT:Nat} {w:WT} {c:Int×Y IT} (hw:WX w) (hT:l! w.2.2.2.2.1=nT) (hc:GC nT w.2.2.2.2.2 a c):iM (w,a,c)=Z J:=by
 let⟨r0,r1,n1,hu,he,hb,hi,hr,hg⟩:=hc;refine cI ?_;unfold iM bk bD bQ cS db eh Li bm bS jK bX be c7 aI cQ;refine aV (λx=>x.2=(w,c)/\x.1=af) ?_ ?_
 .refine bP (λh=>by have h:c.1<0:=h;omega) λ_=>bP (λh=>by have h:32<c.1:=h;omega) λ_=>ak ⟨rfl,dm λh=>by have h:aS (l! c.2)=0:=h;dsimp only[ay]at h;omega⟩
 rintro⟨b,x⟩ ⟨e,hb'⟩;dsimp only at e hb';subst e hb';refine jP ?_;refine bV (l! c.2) (λi x=>x.1=(i:Int)/\x.2=(w,c)) ?_ ?_ ⟨rfl,rfl⟩
 .rintro i ⟨k,x⟩ hi2 ⟨e1,e2⟩;dsimp only at e1 e2;subst e1 e2;have hla:=YX c.2 hu n1 hb he.1 i hi2;have hz:∀z:IT,z=iA c.2 i->(i<l! c.2-1->GI nT w.2.2.2.2.2 a z/\(z.1=10->0<=z.2.2.1/\z.2.2.1<(l! c.2:Int))/\(z.1=5->0<=z.2.1/\z.2.1<(l! c.2:Int))/\∀j:Int,j∈jB z->j<c.1)/\(i=l! c.2-1->z.1=28/\z.2.2.2.2.2= -1):=λz hz=>by
   subst hz;refine ⟨λh=>⟨hi i h,hr i h,λh5=>?_,hg i h⟩,λh=>by rw[h];exact he⟩;let⟨_,ρ,hρ⟩:=hb;let⟨q',e,hq'⟩:=(hρ i (mf _) h).2.2.1 h5;rw[e];omega
  refine cW ?_;refine bH (aU ?_);generalize hzz:(geti sF c.2 (i:Int))=z;let⟨A,D⟩:=hz z hzz.symm;have hcs:i<l! c.2-1\/i=l! c.2-1:=by omega
  have o1:1<=z.1:=by
   rcases hcs with h|h
   .exact (A h).1.o.o1
   .rw[(D h).1];decide
  have o2:z.1<=28:=by
   rcases hcs with h|h
   .exact C5 (A h).1.o.o2 (by decide)
   .rw[(D h).1];decide
  have o28:z.1=28->i=l! c.2-1:=λh=>hcs.resolve_left λg=>by have:=(A g).1.o.o2;rw[h]at this;exact bA this (by decide)
  have hob:OB nT z:=by
   rcases hcs with h|h
   .exact (A h).1.o.b
   .unfold OB;rw[(D h).1];simp
  have hrg:∀j:Int,j∈jB z->0<=j/\j<c.1:=λj L=>by
   rcases hcs with h|h
   .exact⟨((A h).1.o.r j L).1,(A h).2.2.2 j L⟩
   .unfold jB at L;rw[(D h).1]at L;simp at L
  have hwr:bn .i64 (aS (l! c.2)-1)=((l! c.2-1:Nat):Int):=by rw[iI (by dsimp only[ay];omega) (by dsimp only[ay];omega)];dsimp only[ay];omega
  have hcd:((decide (z.1=28)==decide ((i:Int)=bn .i64 (aS (l! c.2)-1))) !=J)=af:=by grind
  refine aV (λx=>x=(af,w,c,z)) ?_ ?_
  .refine bP (λh=>bA h (AU.2 o1)) λ_=>bP (λh=>bA h (AU.2 o2)) λ_=>jO hcd ?_
   refine aZ (SX w z hw hT hob) (jO rfl (aZ hla (ak rfl)))
  rintro x rfl;refine jP (aV (λx=>x=(af,w,c,z)) ?_ ?_)
  .simp only[tN,obs];refine aK (λh=>?_) λh=>?_
   .have h5:=(D (o28 h)).2;exact cq (λg=>(g h5).elim) λ_=>cq (λg=>(g h).elim) λ_=>ak rfl
   .have hsi:=(A (hcs.resolve_right λg=>h (D g).1)).1.s;refine cq (λ_=>cq (λg=>(g ⟨hsi.1,hsi.2.1⟩).elim) λg=>aR g.1 g.2 (aU (ak ?_))) λg=>(h g).elim
    rw[bc hsi.2.2];rfl
  rintro x rfl;refine jP (aV (λx=>x=(af,w,c,z)) ?_ ?_)
  .simp only[tN,obs];have N:z.1=5\/z.1=10->i<l! c.2-1:=λh=>hcs.resolve_right λg=>by rw[(D g).1]at h;exact bA h (by decide)
   refine aK (λh=>?_) λh=>?_
   .have h2:=(A (N (.inl h))).2.2.1 h;refine cq (λg=>(g h2).elim) λ_=>aK (λg=>?_) λ_=>ak rfl
    rw[h]at g;exact bA g (by decide)
   .refine aK (λg=>ak ?_) λ_=>ak rfl
    have h2:=(A (N (.inr g))).2.1 g;rw[bc (show 0<=z.2.2.1/\z.2.2.1<aS (l! c.2) from h2)];rfl
  rintro x rfl;refine jP (aZ (vF z) ?_);have hrl:=FF z;refine bV (l! (jB z)) (λj x=>x=((j:Int),w,c)) ?_ ?_ rfl
  .rintro j x L rfl;refine cW ?_;refine bH (aU ?_);refine aZ (tN _ _) (cq (λg=>(g (hrg _ (bI (T:=aP) (xs:=jB z) (j:=(j:Int)) (by omega) (by omega)))).elim) λ_=>ak ?_);dsimp only;rw[fV]
  .rintro x rfl;exact cP (ak ⟨fV,rfl⟩)
 .rintro⟨k,x⟩ ⟨e1,e2⟩;dsimp only at e1 e2;subst e1 e2;exact cP (ak rfl)
section
abbrev GN:Type:=Y (ζ×Int×Int×Bool×Int)×Y (ζ×Bool)×Y (ζ×Int)×Y ζ×Y ζ×Y π×Y ζ×i?
def Ru (l:Y H?) (s:ζ) (D:l! l<=1000):Ok (mq (l,s)) λr=> -1<=r/\r<l! l/\(0<=r->(geti tC l r).1=s)/\(r<0->∀c∈l,c.1≠s):=by
 refine bV (l! l) (λi x=>x=(i:Int)/\∀k:Nat,k<i->(geti tC l (k:Int)).1≠s) ?_ ?_ ⟨rfl,λk A=>by omega⟩
 .rintro i x hi ⟨rfl,z⟩;refine cW ?_;refine bH (aU ?_);refine aK (λh=>ak ⟨by omega,by omega,λ_=>h,λh=>by omega⟩) λh=>ak ⟨fV,λk A=>?_⟩
  grind
 .rintro x ⟨rfl,z⟩;exact cP (ak ⟨by omega,by omega,λh=>by omega,λ_=>iQ (T:=tC) (p:=λc=>c.1≠s) z⟩)
def aqv {s:ζ} (h: -1<=a/\a<Km.length/\(0<=a->(geti tC Km a).1=s)/\(a<0->∀c∈Km,c.1≠s)):(s=[109]->a=0)/\(s=[110]->a=1)/\(s=[114]->a=2):=by
 let⟨h0,h1,z,A⟩:=h;have h1:a<3:=h1;rcases (by omega:a= -1\/a=0\/a=1\/a=2) with rfl|rfl|rfl|rfl
 .have A:=A (by decide);exact⟨λh=>(A ([109],af) (by decide) h.symm).elim,λh=>(A ([110],af) (by decide) h.symm).elim,λh=>(A ([114],J) (by decide) h.symm).elim⟩
 .have z:[109]=s:=z (by decide)
  grind
 .have z:[110]=s:=z (by decide)
  grind
 .have z:[114]=s:=z (by decide)
  grind
def Ds (w:WT) (s:ζ) (D:w.1=C0):Ok (ov (w,s)) λr=>(s∈NV->s∉L0->0<=r/\r<=2)/\(s=[113]->r=3):=by
 have hl:l! w.1=5:=by rw[D];rfl
 refine bV (l! w.1) (λi x=>x.1=(i:Int)/\x.2=w/\∀k:Nat,k<i->(geti lF w.1 (k:Int)).1≠s) ?_ ?_ ⟨rfl,rfl,λk hk=>by omega⟩
 .rintro i ⟨a,x⟩ hi ⟨L,e2,A⟩;subst L;have e2:=e2.symm;subst e2;refine cW ?_;refine bH (aU ?_);refine aK (λh=>ak ?_) λg=>ak ?_
  .rw[D]at h A;rcases (by omega:i=0\/i=1\/i=2\/i=3\/i=4) with rfl|rfl|rfl|rfl|rfl
   .have h:[120]=s:=h
    grind
   .have h:[121]=s:=h
    grind
   .have h:[118]=s:=h
    grind
   .have h:[113]=s:=h
    grind
   .have h:[113]=s:=h;exact (A 3 (by omega) h).elim
  .refine ⟨fV,rfl,λk hk=>?_⟩
   grind
 .rintro⟨a,x⟩ ⟨L,e2,A⟩;subst L;have e2:=e2.symm;subst e2;refine cP (ak ?_);have z:=iQ (T:=lF) (p:=λc=>c.1≠s) A;rw[D]at z;have a1:=z ([120],0,0,af,0) (by decide);have a2:=z ([121],0,0,af,1) (by decide);have a3:=z ([118],0,0,J,0) (by decide);have a4:=z ([113],0,2,af,0) (by decide);refine ⟨λh N=>?_,λh=>(a4 h.symm).elim⟩;simp[a_,cD,fG,L0]at h N
  grind
def L8 (i:IT) (g:GN) (out:Y IT) (h:l! out<=100000000):Ok (cO (i,g,out)) λy=>y.1=g/\y.2=out++[(i.1,i.2.1,i.2.2.1,i.2.2.2.1,i.2.2.2.2.1,g.2.2.2.2.2.2.2.1)]:=by
 exact bG (by grind) (by omega) (ak ⟨rfl,rfl⟩)
def VE:Nat->Nat
 |0=>0
 |d+1=>1+2*VE d
def MO {l m:Y IT} (h:i<l! l):iA (l++m) i=iA l i:=by
 unfold iA;rw[wT,wT,aF,aF,bT h]
def Ar (l:Y IT) (x:IT):iA (l++[x]) (l! l)=x:=by
 unfold iA;rw[wT,aF,cj (bJ _)];simp
structure QC (nT:Nat) (ss:List π) (t:Int) (n:Nat) (out o:List IT):Prop where
 l:l! out<=l! o
 u:l! o<=l! out+n
 p:∀k:Nat,k<l! out->iA o k=iA out k
 b:sB o (l! out) (l! o)
 i:∀k:Nat,l! out<=k->k<l! o->GI nT ss t (iA o k)
 r:∀k:Nat,l! out<=k->k<l! o->(iA o k).1=10->0<=(iA o k).2.2.1/\(iA o k).2.2.1<=(l! o:Int)
variable {nT:Nat} {ss:Y π} {t:Int}
def QC.nil (n:Nat) (out:Y IT):QC nT ss t n out out:=⟨bJ _,by omega,λ_ _=>rfl,sB.nil _ _,λk h1 z=>by omega,λk h1 z=>by omega⟩
def QC.trans {c:Nat} {x y z:Y IT} (h:QC nT ss t i x y) (k:QC nT ss t j y z) (hc:i+j<=c):QC nT ss t c x z:=by
 let⟨h1,h2,L,D,h5,h6⟩:=h;let⟨k1,k2,k3,k4,k5,k6⟩:=k;refine ⟨by omega,by omega,λq A=>(k3 q (by omega)).trans (L q A),(D.congr λq _ A=>k3 q A).app k4,λq g1 N=>?_,λq g1 N g3=>?_⟩
 .grind
 .grind
def QC.one {out:Y IT} {i:IT} (h:GI nT ss t i) (z:¬i.1=5/\¬i.1=10):QC nT ss t 1 out (out++[i]):=by
 have D:l! (out++[i])=l! out+1:=by simp
 refine ⟨by omega,by omega,λk L=>MO L,?_,λk h1 N=>?_,λk h1 N A=>?_⟩
 .rw[D];exact sB.one (by rw[Ar];exact z.1)
 .rw[show k=l! out by omega,Ar];exact h
 .rw[show k=l! out by omega,Ar]at A;exact (z.2 A).elim
structure GK (ss:List π) (t:Int) (g:GN):Prop where
 c:g.1=C0
 l:g.2.2.2.2.2.2.1=L0
 s:SO ss t g.2.2.2.2.2.2.2.1
def goI {nT:Nat} {op B C N y:Int} (h1:1<=op) (L:op<=27) (z:∀j:Int,j∈jB (op,a,B,C,N,y)->0<=j/\j<32) (D:OB nT (op,a,B,C,N,y)):GO nT (op,a,B,C,N,y):=⟨h1,L,z,D⟩
def HR {op:Int} {r:υ} {g:GN} {out:Y IT} (h:l! out<=100000000) (A:GK ss t g) (hi:GO nT (op,r)) (D:¬op=5/\¬op=10):Ok (cO ((op,r),g,out)) λy=>y.1=g/\QC nT ss t 1 out y.2:=(L8 (op,r) g out h).mono λy z=>⟨z.1,by rw[z.2];exact QC.one ⟨⟨hi.o1,hi.o2,hi.r,hi.b⟩,A.s⟩ D⟩
abbrev z!:=GN×Y IT
def RA:∀(n d:Nat),d<n->∀(e:Xp) (k:Int) (g:GN) (out:Y IT),GE d e->GK ss t g->0<=k->k+d<=31->l! out+VE d<=100000000->Ok (je n ((e,k),g,out)) λy=>y.1=g/\QC nT ss t (VE d) out y.2
 |0,_,h,_,_,_,_,_,_,_,_,_=>by omega
 |n+1,0,_,e,_,_,_,h,_,_,_,_=>h.elim
 |n+1,d+1,hn,e,k,g,out,h,hg,k0,k1,hb=>by
  obtain⟨h1,h2,h3,h4,h5,h6⟩:=h;obtain⟨gc,gl,gs⟩:=id hg;have hv:VE (d+1)=1+2*VE d:=rfl;rw[DL];unfold sd bk bD bQ cS eV bm jY bU bX aI cQ;refine aV (λy=>y.1=g/\QC nT ss t (VE (d+1)) out y.2) ?_ λx hx=>ak hx
  have fin:∀{y:z!},(y.1=g/\QC nT ss t 1 out y.2)->y.1=g/\QC nT ss t (VE (d+1)) out y.2:=λh=>⟨h.1,(QC.nil 0 out).trans h.2 (by omega)⟩
  refine aK (λ_=>?_) λn1=>?_
  .refine aw (HR (nT:=nT) (by omega) hg (goI (by decide) (by decide) (by simp[jB];omega) ((by decide:¬(1:Int)=3))) (by decide)) λy z=>bl (by simp) (ak (fin z))
  refine aK (λn2=>?_) λn2=>?_
  .refine aw (Bt _ _ (by dsimp only;rw[gl];decide)) λv hv=>d_ (λg0=>?_) λg0=>?_
   .have A:=hv.2.1;dsimp only at A g0;rw[gl]at A;have A:v<2:=A;refine aw (HR (nT:=nT) (by omega) hg (goI (by decide) (by decide) (by simp[jB];omega) ((by decide:¬(2:Int)=3))) (by decide)) λy z=>bl (by simp) (ak (fin z))
   .have A:=hv.2.2.2 g0;dsimp only at A;rw[gl]at A;refine aw (Ds _ _ gc) λv N=>?_
    have v2:=N.1 (h5 n2) A;refine aw (HR (nT:=nT) (by omega) hg (goI (by decide) (by decide) (by simp[jB];omega) (v2)) (by decide)) λy z=>bl (by simp) (ak (fin z))
  have hl:=h2 n1 n2;have hrec:∀(j:Nat),j<l! e.l->∀(k':Int) (o:Y IT),0<=k'->k'+d<=31->l! o+VE d<=100000000->Ok (je n ((geti (.ex) e.l (j:Int),k'),g,o)) λy=>y.1=g/\QC nT ss t (VE d) o y.2:=λj hj k' o q0 L ho=>RA n d (by omega) _ k' g o (h4 _ (bI (T:=.ex) (xs:=e.l) (j:=(j:Int)) (by omega) (by omega))) hg q0 L ho
  refine aK (λn3=>?_) λn3=>?_
  .refine bH (aU ?_);refine aw (hrec 0 hl k out k0 (by omega) (by omega)) λy z=>?_
   obtain⟨g2,o2⟩:=y;obtain⟨L,D⟩:=z;dsimp only at L D;subst L;have q3:=D.u;refine bl (by simp) ?_;refine aw (Ds _ _ gc) λv N=>?_
   have v3:=N.2 (h1 n3);have v3:v=3:=v3;subst v3;refine aR (by decide) (by dsimp only;rw[gc];decide) (aU ?_);refine aw (HR (nT:=nT) (by omega) hg (goI (by decide) (by decide) (by simp[jB];omega) (⟨rfl,by dsimp only;rw[gc];rfl⟩)) (by decide)) λy z=>bl (by simp) (ak ⟨z.1,D.trans z.2 (by omega)⟩)
  obtain⟨h7,h8,h9⟩:=h6 n1 n2 n3;refine aK (λn4=>?_) λn4=>?_
  .dsimp only[ay]at n4;omega
  .have hl2:1<l! e.l:=by omega
   refine bH (aU ?_);refine aw (hrec 0 hl k out k0 (by omega) (by omega)) λy z=>?_
   obtain⟨g2,o2⟩:=y;obtain⟨L,D⟩:=z;dsimp only at L D;subst L;have q3:=D.u;refine bl (by simp) ?_;refine bH (aU ?_);dsimp only;rw[iI (n:=k+1) (by omega) (by omega)];refine aw (hrec 1 hl2 _ o2 (by omega) (by omega) (by omega)) λy z=>?_
   obtain⟨g3,o3⟩:=y;obtain⟨r1,r2⟩:=z;dsimp only at r1 r2;subst r1;have r3:=r2.u;refine bl (by simp) ?_;refine aw (HR (nT:=nT) (by omega) hg (goI (by decide) (by decide) (by simp[jB];omega) (⟨h8,h9⟩)) (by decide)) λy z=>bl (by simp) (ak ⟨z.1,(D.trans r2 (bJ _)).trans z.2 (by omega)⟩)
def Yy (e:Xp) (k:Int) (g:GN) (out:Y IT) (he:GE 4 e) (A:GK ss t g) (z:0<=k) (k1:k<=27) (h:l! out<=99999900):Ok (iZ ((e,k),g,out)) λy=>y.1=g/\QC nT ss t 15 out y.2:=RA fuel 4 (by rw[kN];omega) e k g out he A z (by omega) (by have:VE 4=15:=rfl;omega)
end
section
structure GB (nT:Nat) (g:GN):Prop where
 c:g.1=C0
 l:g.2.1=Km
 d:g.2.2.1=Pq
 f:g.2.2.2.1=Yl
 t:g.2.2.2.2.1=zM.take nT
 h:g.2.2.2.2.2.2.1=L0
structure GQ (g y:GN):Prop where
 a:y.1=g.1
 b:y.2.1=g.2.1
 c:y.2.2.1=g.2.2.1
 d:y.2.2.2.1=g.2.2.2.1
 e:y.2.2.2.2.1=g.2.2.2.2.1
 h:y.2.2.2.2.2.2.1=g.2.2.2.2.2.2.1
def GQ.refl (g:GN):GQ g g:=⟨rfl,rfl,rfl,rfl,rfl,rfl⟩
def GQ.trans {a b c:GN} (h:GQ a b) (k:GQ b c):GQ a c:=⟨k.a.trans h.a,k.b.trans h.b,k.c.trans h.c,k.d.trans h.d,k.e.trans h.e,k.h.trans h.h⟩
variable {nT:Nat} {ss:Y π} {t:Int}
def GB.of {g y:GN} (h:GB nT g) (q:GQ g y):GB nT y:=⟨q.a.trans h.c,q.b.trans h.l,q.c.trans h.d,q.d.trans h.f,q.e.trans h.t,q.h.trans h.h⟩
def GQ.site (g:GN) (x:Y π) (a b:Int):GQ g (g.1,g.2.1,g.2.2.1,g.2.2.2.1,g.2.2.2.2.1,x,g.2.2.2.2.2.2.1,a,b):=⟨rfl,rfl,rfl,rfl,rfl,rfl⟩
abbrev gS (g:GN):Int:=g.2.2.2.2.2.2.2.1
abbrev gN (g:GN):Int:=g.2.2.2.2.2.2.2.2
structure QG (nT:Nat) (ss:List π) (t:Int) (n m:Nat) (g:GN) (out:List IT) (y:GN×List IT):Prop where
 q:GQ g y.1
 c:QC nT ss t n out y.2
 x:gN y.1=gN g+(m:Int)
def Ae {op:Int} {r:υ} {g:GN} {out:Y IT} (h:l! out<=100000000) (z:GB nT g) (A:SO ss t (gS g)) (hi:GO nT (op,r)) (D:¬op=5/\¬op=10):Ok (cO ((op,r),g,out)) λy=>y.1=g/\QC nT ss t 1 out y.2:=HR h ⟨z.c,z.h,A⟩ hi D
def Fr (e:Xp) (k:Int) (g:GN) (out:Y IT) (he:GE 4 e) (z:GB nT g) (D:SO ss t (gS g)) (A:0<=k) (k1:k<=27) (h:l! out<=99999000):Ok (iZ ((e,k),g,out)) λy=>y.1=g/\QC nT ss t 15 out y.2:=Yy e k g out he ⟨z.c,z.h,D⟩ A k1 (by omega)
def GB.len {g:GN} (h:GB nT g):aS (aj g.2.2.2.2.2.2.1)=2:=by rw[h.h];rfl
def aa9 (s:Sx) (g:GN) (out:Y IT) (h1:s.index≠[]->s.name=[113]) (h2:∀e∈s.index,GE 4 e) (h3:GE 4 s.expr) (h4:s.index=[]->s.name∈NV) (z:GB nT g) (hs:SO ss t (gS g)) (h:l! out<=99990000):Ok (mY (s,g,out)) λy=>y.1=g/\QC nT ss t 40 out y.2:=by
 have hex:GE 4 (eL (Xp.op s.expr,Xp.n s.expr,Xp.name s.expr,Xp.l s.expr)):=by exact h3
 have e3:bn .i64 ((2:Int)+1)=3:=iI (by decide) (by decide);unfold mY bk bD bQ cS eV bS jY bU bX be;refine bP (λL=>?_) λL=>?_
 .dsimp [ay]at L;refine bH (aU ?_);refine aw (Fr _ _ g out (h2 _ (bI (T:=.ex) (xs:=s.index) (j:=0) (by omega) (by omega))) z hs (by simp) (by rw[z.len];decide) (by omega)) λy A=>?_
  let⟨g2,o2⟩:=y;let⟨q1,D⟩:=A;dsimp only at q1 D;subst q1;have q3:=D.u;refine bl (by simp) ?_;rw[z.len,e3];refine aw (Fr _ _ g2 o2 hex z hs (by decide) (by decide) (by omega)) λy A=>?_
  let⟨g3,o3⟩:=y;let⟨r1,r2⟩:=A;dsimp only at r1 r2;subst r1;have r3:=r2.u;refine bl (by simp) ?_;refine aw (Ds _ _ z.c) λv hv=>?_
  have v3:=hv.2 (h1 (λh=>by rw[h]at L;simp at L));subst v3;refine aR (by decide) (by dsimp only;rw[z.c];decide) (aU ?_);refine aw (Ae (by omega) z hs (goI (by decide) (by decide) (by simp[jB,z.h,L0]) (⟨rfl,by dsimp only;rw[z.c];rfl⟩)) (by decide)) λy A=>bl (by simp) (ak ⟨A.1,(D.trans r2 (bJ _)).trans A.2 (by omega)⟩)
 .have hi0:s.index=[]:=dF.1 (by grind);refine aw (Fr _ _ g out hex z hs (by simp) (by rw[z.len];decide) (by omega)) λy A=>?_
  let⟨g2,o2⟩:=y;let⟨q1,D⟩:=A;dsimp only at q1 D;subst q1;have q3:=D.u;refine bl (by simp) ?_;refine aw (Bt _ _ (by dsimp only;rw[z.h];decide)) λv hv=>d_ (λL=>?_) λL=>?_
  .have N:=hv.2.1;rw[z.h]at N;have N:v<2:=N;refine aw (Ae (by omega) z hs (goI (by decide) (by decide) (by simp[jB,z.h,L0];omega) ((by decide:¬(2:Int)=3))) (by decide)) λy A=>bl (by simp) (ak ⟨A.1,D.trans A.2 (by omega)⟩)
  .have N:=hv.2.2.2 L;rw[z.h]at N;refine aw (Ds _ _ z.c) λv hv2=>?_
   have v2:=hv2.1 (h4 hi0) N;refine aw (Ae (by omega) z hs (goI (by decide) (by decide) (by simp[jB,z.h,L0]) (v2)) (by decide)) λy A=>bl (by simp) (ak ⟨A.1,D.trans A.2 (by omega)⟩)
def akg (s:ζ) (g:GN) (out:Y IT) (A:GB nT g):Ok (kg (s,g,out)) λy=>y.2=(g,out)/\(s=[99]->y.1=0):=by
 have hd:l! g.2.2.1=1:=by rw[A.d];rfl
 unfold kg bk bS bX be c7 aI cQ;refine bV 1 (λi x=>x.1=(i:Int)/\x.2=(g,out)/\(s=[99]->i=0)) ?_ ?_ ⟨rfl,rfl,λ_=>rfl⟩
 .rintro i ⟨a,x⟩ hi ⟨z,e2,D⟩;subst z e2;refine cW ?_;refine bH (aU ?_);refine aK (λ_=>ak ⟨rfl,λ_=>by dsimp only;omega⟩) λh=>ak ⟨fV,rfl,λL=>?_⟩
  refine (h ?_).elim;rw[A.d,show i=0 by omega,L];rfl
 .rintro⟨a,x⟩ ⟨z,e2,D⟩;subst z e2;exact cP (ak ⟨rfl,λh=>by have:=D h;omega⟩)
def ME:Nat->Nat
 |0=>0
 |d+1=>50+16*ME d
def SR (ss:Y π) (t a:Int) (m:Nat):Prop:=0<=a/\a+m<=1000/\∀i:Int,a<=i->i<a+m->SO ss t i
def SpG (nT:Nat) (ss:Y π) (t:Int) (z:Sx×z!->M z!) (d:Nat):Prop:=∀(s:Sx) (g:GN) (out:Y IT),GS nT d s->GB nT g->SR ss t (gN g) (UI d s)->l! out+ME d<=90000000->Ok (z (s,g,out)) (QG nT ss t (ME d) (UI d s) g out)
def alf (nT:Nat) (ss:Y π) (t:Int) (z:Y Sx×z!->M z!) (d:Nat):Prop:=∀(l:Y Sx) (g:GN) (out:Y IT),l! l<=100->(∀s∈l,GS nT d s)->GB nT g->SR ss t (gN g) (oH d l)->l! out+l! l*ME d<=90000000->Ok (z (l,g,out)) (QG nT ss t (l! l*ME d) (oH d l) g out)
end
section
abbrev FS6:Type:=Y Sx×z!->M z!
abbrev FT6:Type:=Sx×z!->M z!
abbrev FA6:Type:=(Sx×Int×Int×Int)×z!->M z!
variable {nT:Nat} {ss:Y π} {t:Int}
def au8 (nT:Nat) (ss:Y π) (t:Int) (z:FT6) (d:Nat):Prop:=∀(s:Sx) (g:GN) (out:Y IT),s.op=2\/s.op=3->GE 4 s.expr->l! s.body<=8->l! s.els<=8->(∀x∈s.body,GS nT d x)->(∀x∈s.els,GS nT d x)->(¬s.op=2->s.els=[])->GB nT g->SO ss t (gS g)->SR ss t (gN g) (oH d s.body+oH d s.els)->l! out+ME (d+1)<=90000000->Ok (z (s,g,out)) (QG nT ss t (17+16*ME d) (oH d s.body+oH d s.els) g out)
def au9 (nT:Nat) (ss:Y π) (t:Int) (z:FA6) (d:Nat):Prop:=∀(s:Sx) (a b c:Int) (g:GN) (out:Y IT),l! s.body<=8->(∀x∈s.body,GS nT d x)->GO nT (a,c,0,0,0,0)->GO nT (b,c,0,0,0,0)->¬a=5/\¬a=10->¬b=5/\¬b=10->GB nT g->SO ss t (gS g)->SR ss t (gN g) (oH d s.body)->l! out+ME (d+1)<=90000000->Ok (z ((s,a,b,c),g,out)) (QG nT ss t (17+16*ME d) (oH d s.body) g out)
def SR.sub {b:Int} {n:Nat} (h:SR ss t a i) (h1:a<=b) (z:b+n<=a+i):SR ss t b n:=⟨by have:=h.1;omega,by have:=h.2.1;omega,λm D A=>h.2.2 m (by omega) (by omega)⟩
def Zu (rs:FS6) (N:FT6) (rb:FT6) (ra:FA6) (d:Nat) (ht:SpG nT ss t N d):alf nT ss t (wy rs N rb ra) d:=by
 intro l g out hl hs hg hso hb;refine bV (l! l) (λi x=>x.1=(i:Int)/\QG nT ss t (i*ME d) (oH d (l.take i)) g out x.2) ?_ ?_ ⟨rfl,GQ.refl g,QC.nil _ _,by simp[oH]⟩
 .rintro i ⟨a,g2,o2⟩ hi ⟨L,A,z,q3⟩;dsimp only at L A z q3;subst L;have hK:(i+1)*ME d<=l! l*ME d:=cK _ (by omega);have hKs:=jD i (ME d);rw[Nat.succ_eq_add_one]at hKs;have hp:=Uj (d:=d) l (i+1);rw[zB hi]at hp;have q4:=z.u;refine cW ?_;refine bH (aU ?_);refine aw (ht _ g2 o2 (hs _ (bI (T:=.sm) (xs:=l) (j:=(i:Int)) (by omega) (by omega))) (hg.of A) (hso.sub (by omega) (by grind)) (by omega)) λy D=>bl (by simp) (ak ?_)
  rw[zB hi];exact⟨fV,A.trans D.q,z.trans D.c (by omega),by rw[D.x,q3];dsimp only;omega⟩
 .rintro⟨a,g2,o2⟩ ⟨L,q⟩;rw[cY]at q;exact cP (ak q)
def Wo (N:FS6) (rt:FT6) (rb:FT6) (ra:FA6) (d:Nat) (hS:alf nT ss t N d):au9 nT ss t (uS N rt rb ra) d:=by
 intro s a b c g out h1 h2 ga gb na nb D hs hso hb;have hm:ME (d+1)=50+16*ME d:=rfl;have kb:l! s.body*ME d<=8*ME d:=cK _ h1;refine aw (Ae (by omega) D hs ga na) λy z=>?_
 let⟨g2,o2⟩:=y;let⟨q1,A⟩:=z;dsimp only at q1 A;subst q1;have q3:=A.u;refine bl (by simp) ?_;refine aw (hS s.body g2 o2 (by omega) h2 D hso (by omega)) λy z=>?_
 let⟨L,o3⟩:=y;let⟨r1,r2,r3⟩:=z;have r4:=r2.u;refine bl (by simp) ?_;have qs:=r1.trans (GQ.site L L.2.2.2.2.2.1 g2.2.2.2.2.2.2.2.1 L.2.2.2.2.2.2.2.2);refine aw (Ae (by grind) (D.of qs) hs gb nb) λy z=>bl (by simp) (ak ⟨?_,?_,?_⟩)
 .rw[z.1];exact qs
 .exact (A.trans r2 (bJ _)).trans z.2 (by omega)
 .rw[z.1];exact r3
def B9 {l:Y IT} {x:IT} (h:j<l! l):iA (cC l (j:Int) x) i=if i=j then x else iA l i:=Na (T:=sF) l j i x h
abbrev ptB (l:Y IT) (j:Nat) (b:Int):Y IT:=cC l (j:Int) ((iA l j).1,(iA l j).2.1,b,(iA l j).2.2.2.1,(iA l j).2.2.2.2.1,(iA l j).2.2.2.2.2)
abbrev ptA (l:Y IT) (j:Nat) (a:Int):Y IT:=cC l (j:Int) ((iA l j).1,a,(iA l j).2.2.1,(iA l j).2.2.2.1,(iA l j).2.2.2.2.1,(iA l j).2.2.2.2.2)
def GI.pb {i:IT} (h:GI nT ss t i) (h1:i.1=10):GI nT ss t (i.1,i.2.1,a,i.2.2.2.1,i.2.2.2.2.1,i.2.2.2.2.2):=by
 let⟨N,i2,L,D,A,z⟩:=i;subst h1;exact⟨⟨h.o.o1,h.o.o2,h.o.r,(by decide:¬(10:Int)=3)⟩,h.s⟩
def QC.cbr {out A o2 L:Y IT} {D:IT} (h1:QC nT ss t i out A) (h2:o2=A++[D]) (hb:GI nT ss t D) (h10:D.1=10) (h3:QC nT ss t j o2 L) (F:Y IT) (hl:l! L<=l! F) (hF:∀k:Nat,k<l! L->¬k=l! A->iA F k=iA L k) (hFb:∃b:Int,(0<=b/\b<=(l! F:Int))/\iA F (l! A)=(D.1,D.2.1,b,D.2.2.2.1,D.2.2.2.2.1,D.2.2.2.2.2)):(∀k:Nat,k<l! out->iA F k=iA out k)/\sB F (l! out) (l! A)/\(iA F (l! A)).1=10/\sB F (l! A+1) (l! L)/\(∀k:Nat,l! out<=k->k<l! L->GI nT ss t (iA F k))/\∀k:Nat,l! out<=k->k<l! L->(iA F k).1=10->0<=(iA F k).2.2.1/\(iA F k).2.2.1<=(l! F:Int):=by
 have l2:l! o2=l! A+1:=by grind
 have l1:=h1.l;have l3:=h3.l;have e1:∀k:Nat,k<l! A->iA F k=iA A k:=λk z=>by rw[hF k (by omega) (by omega),h3.p k (by omega),h2,MO z]
 let⟨b,hb0,eb⟩:=hFb;refine ⟨λk z=>(e1 k (by omega)).trans (h1.p k z),h1.b.congr λk _ z=>e1 k z,by rw[eb];exact h10,?_,λk g1 N=>?_,λk g1 N g3=>?_⟩
 .have:=h3.b;rw[l2]at this;exact this.congr λk g1 N=>hF k N (by omega)
 .rcases CZ k (l! A) with z|z|z
  .rw[e1 k z];exact h1.i k g1 z
  .rw[z,eb];exact hb.pb h10
  .rw[hF k N (by omega)];exact h3.i k (by omega) N
 .rcases CZ k (l! A) with z|z|z
  .rw[e1 k z]at g3 ⊢;have:=h1.r k g1 z g3;omega
  .rw[z,eb];exact hb0
  .rw[hF k N (by omega)]at g3 ⊢;have:=h3.r k (by omega) N g3;omega
def Qh (rs:FS6) (rt:FT6) (rb:FT6) (ra:FA6) (d:Nat) (hS:alf nT ss t rs d):au8 nT ss t (nR rs rt rb ra) d:=by
 intro s g out hop he h1 h2 h3 h4 hel hg hs hso hb;have hm:ME (d+1)=50+16*ME d:=rfl;have kb:l! s.body*ME d<=8*ME d:=cK _ h1;have ke:l! s.els*ME d<=8*ME d:=cK _ h2;have hex:GE 4 (eL (Xp.op s.expr,Xp.n s.expr,Xp.name s.expr,Xp.l s.expr)):=by rw[gd];exact he
 unfold nR bk bD bQ cS eV kZ Li ck bm bU be;refine aw (Fr _ _ g out hex hg hs (by rw[hg.len];decide) (by rw[hg.len];decide) (by omega)) λy hy=>?_
 let⟨g1,o1⟩:=y;let⟨p1,p2⟩:=hy;dsimp only at p1 p2;subst p1;have p3:=p2.u;have p4:=p2.l;refine bl (by simp) ?_;refine aw (L8 _ g1 o1 (by omega)) λy hy=>?_
 let⟨D,o2⟩:=y;let⟨q1,q2⟩:=hy;dsimp only at q1 q2;subst q1;rw[hg.len]at q2;have hbr:GI nT ss t ((10,2,0,0,0,D.2.2.2.2.2.2.2.1):IT):=⟨goI (by decide) (by decide) (by simp[jB]) (by decide:¬(10:Int)=3),hs⟩
 have l2:l! o2=l! o1+1:=by rw[q2,bC];rfl
 refine bl (by simp) ?_;refine aw (hS s.body D o2 (by omega) h3 hg (hso.sub (dg _) (by omega)) (by omega)) λy hy=>?_
 let⟨g3,A⟩:=y;let⟨r1,r2,r3⟩:=hy;dsimp only at r1 r2 r3;have r4:=r2.u;have r5:=r2.l;have ebr:iA A (l! o1)=(10,2,0,0,0,D.2.2.2.2.2.2.2.1):=by rw[r2.p _ (by omega),q2,Ar]
 refine bl (by simp) ?_;have qs:=r1.trans (GQ.site g3 g3.2.2.2.2.2.1 D.2.2.2.2.2.2.2.1 g3.2.2.2.2.2.2.2.2);refine aK (λh3w=>?_) λh3w=>?_
 .have hels:oH d s.els=0:=by rw[hel (by have h3w:s.op=3:=h3w;omega)];rfl
  rw[hels,dG];refine aw (L8 _ _ A (by omega)) λy hy=>?_
  let⟨g4,L⟩:=y;let⟨w1,w2⟩:=hy;dsimp only at w1 w2;have l4:l! L=l! A+1:=by rw[w2,bC];rfl
  refine bl (by simp) (aR (ey _) (by dsimp only[ay];omega) (aR (ey _) (by dsimp only[ay];omega) (ak ?_)));have hat:l! o1<l! L:=by omega
  have ej:iA L (l! A)=(5,(l! out:Int),0,0,0,D.2.2.2.2.2.2.2.1):=by rw[w2,Ar];rfl
  have e43:∀k:Nat,k<l! A->iA L k=iA A k:=λk N=>by rw[w2,MO N]
  refine ⟨by dsimp only;rw[w1];exact qs,?_,by dsimp only;rw[w1];exact r3⟩;dsimp only;have eF:∀{z:IT} {k:Nat},¬k=l! o1->iA (cC L ((l! o1:Nat):Int) z) k=iA L k:=λh=>by rw[B9 hat,ax h]
  let⟨f1,f2,f3,f4,f5,f6⟩:=p2.cbr q2 hbr rfl r2 (ptB L (l! o1) (aS (l! L))) (by rw[bW];omega) (λk N hn=>(eF hn).trans (e43 k N)) ⟨_,⟨ey _,by rw[bW];exact dg _⟩,by rw[B9 hat,aE rfl,e43 _ (by omega),ebr];rfl⟩;show QC nT ss t _ out (ptB L (l! o1) (aS (l! L)));have ejF:iA (ptB L (l! o1) (aS (l! L))) (l! A)=(5,(l! out:Int),0,0,0,D.2.2.2.2.2.2.2.1):=(eF (by omega:¬l! A=l! o1)).trans ej;refine ⟨by rw[bW];omega,by rw[bW];omega,f1,?_,λk g1 D=>?_,λk g1 D g3=>?_⟩
  .rw[(bW _ _ _).trans l4];exact f2.whl f3 f4 (by rw[ejF]) (by rw[ejF])
  .rw[bW,l4]at D;by_cases N:k<l! A
   .exact f5 k g1 N
   .rw[show k=l! A by omega,ejF];exact⟨goI (by decide) (by decide) (by simp[jB]) (by decide:¬(5:Int)=3),hs⟩
  .have g2':=D;rw[bW,l4]at g2';by_cases N:k<l! A
   .exact f6 k g1 N g3
   .rw[show k=l! A by omega,ejF]at g3;cases g3
 refine aK (λhz=>?_) λ_=>?_
 .have hels:oH d s.els=0:=by rw[dF.1 (by dsimp only[ay]at hz;omega:l! s.els=0)];rfl
  rw[hels,dG];refine aR (ey _) (by dsimp only[ay];omega) (aR (ey _) (by dsimp only[ay];omega) (ak ⟨qs,?_,r3⟩));dsimp only;have hat:l! o1<l! A:=by omega
  let⟨f1,f2,f3,f4,f5,f6⟩:=p2.cbr q2 hbr rfl r2 (ptB A (l! o1) (aS (l! A))) (by rw[bW];omega) (λk N hn=>by rw[B9 hat,ax hn]) ⟨_,⟨ey _,by rw[bW];exact dg _⟩,by rw[B9 hat,aE rfl,ebr];rfl⟩;show QC nT ss t _ out (ptB A (l! o1) (aS (l! A)));refine ⟨by rw[bW];omega,by rw[bW];omega,f1,?_,λk g1 D=>?_,λk g1 D g3=>?_⟩
  .rw[bW];exact (f2.app (sB.one (by rw[f3];decide))).app f4
  .rw[bW]at D;exact f5 k g1 D
  .exact f6 k g1 (by rw[bW]at D;exact D) g3
 .refine aw (L8 _ _ A (by omega)) λy hy=>?_
  let⟨g4,L⟩:=y;let⟨w1,w2⟩:=hy;dsimp only at w1 w2;have l4:l! L=l! A+1:=by rw[w2,bC];rfl
  have qs4:GQ D g4:=by rw[w1];exact qs
  have x4:gN g4=gN D+(oH d s.body:Nat):=by rw[w1];exact r3
  have hat:l! o1<l! L:=by omega
  have ej:iA L (l! A)=(5,0,0,0,0,D.2.2.2.2.2.2.2.1):=by rw[w2,Ar]
  have e43:∀k:Nat,k<l! A->iA L k=iA A k:=λk N=>by rw[w2,MO N]
  refine bl (by simp) (aR (ey _) (by dsimp only[ay];omega) (aR (ey _) (by dsimp only[ay];omega) ?_));have eF:∀{z:IT} {k:Nat},¬k=l! o1->iA (cC L ((l! o1:Nat):Int) z) k=iA L k:=λh=>by rw[B9 hat,ax h]
  refine aw (hS s.els g4 (ptB L (l! o1) (aS (l! L))) (by omega) h4 (hg.of qs4) (hso.sub (by rw[x4];omega) (by rw[x4];omega)) (by rw[bW];omega)) λy hy=>?_
  let⟨g5,o5⟩:=y;let⟨z1,z2,z3⟩:=hy;dsimp only at z1 z2 z3;have z4:=z2.l;have z5:=z2.u;have zp:=z2.p;have zb:=z2.b;have zi:=z2.i;have zr:=z2.r;rw[bW]at z4 z5 zp zb zi zr;have hj5:l! A<l! o5:=by omega
  refine bl (by simp) (aR (ey _) (by dsimp only[ay];omega) (aR (ey _) (by dsimp only[ay];omega) (ak ⟨qs4.trans z1,?_,by dsimp only;rw[z3,x4];omega⟩)));dsimp only;show QC nT ss t _ out (ptA o5 (l! A) (aS (l! o5)));have eG:∀{z:IT} {k:Nat},¬k=l! A->iA (cC o5 ((l! A:Nat):Int) z) k=iA o5 k:=λh=>by rw[B9 hj5,ax h]
  have ej5:iA o5 (l! A)=(5,0,0,0,0,D.2.2.2.2.2.2.2.1):=by rw[zp _ (by omega),eF (by omega),ej]
  let⟨f1,f2,f3,f4,f5,f6⟩:=p2.cbr q2 hbr rfl r2 (ptA o5 (l! A) (aS (l! o5))) (by rw[bW];omega) (λk N hn=>by rw[eG (by omega),zp k (by omega),eF hn,e43 k N]) ⟨aS (l! L),⟨ey _,by rw[bW];dsimp only[ay];omega⟩,by rw[eG (by omega),zp _ (by omega),B9 hat,aE rfl,e43 _ (by omega),ebr]⟩;have ejF:iA (ptA o5 (l! A) (aS (l! o5))) (l! A)=(5,aS (l! o5),0,0,0,D.2.2.2.2.2.2.2.1):=by rw[B9 hj5,aE rfl,ej5]
  refine ⟨by rw[bW];omega,by rw[bW];omega,f1,?_,λk g1 D=>?_,λk g1 D g3=>?_⟩
  .rw[bW];refine ((f2.app (sB.one (by rw[f3];decide))).app f4).ite (by rw[ejF]) (by rw[ejF];rfl) ?_;rw[l4]at zb;exact zb.congr λk g1 D=>eG (by omega)
  .rw[bW]at D;rcases CZ k (l! A) with N|N|N
   .exact f5 k g1 N
   .rw[N,ejF];exact⟨goI (by decide) (by decide) (by simp[jB]) (by decide:¬(5:Int)=3),hs⟩
   .rw[eG (by omega)];exact zi k (by omega) D
  .have g2':=D;rw[bW]at g2';rcases CZ k (l! A) with N|N|N
   .exact f6 k g1 N g3
   .rw[N,ejF]at g3;cases g3
   .rw[eG (by omega)]at g3 ⊢;rw[bW];exact zr k (by omega) g2' g3
def af3 (rs:FS6) (rt:FT6) (rb:FT6) (ra:FA6) (d:Nat) (hB:au8 nT ss t rb d) (hA:au9 nT ss t ra d):SpG nT ss t (tP rs rt rb ra) (d+1):=by
 intro s g out hs hg hso hb;have hm:ME (d+1)=50+16*ME d:=rfl;let⟨i1,i2,i3,i4,i5,i6,i7,i8,i9,N⟩:=hs;have hcn:UI (d+1) s=1+oH d s.body+oH d s.els:=rfl;rw[hcn]at hso ⊢;let⟨so0,so1,so2⟩:=id hso;have so0:0<=g.2.2.2.2.2.2.2.2:=so0;have so1:g.2.2.2.2.2.2.2.2+((1+oH d s.body+oH d s.els:Nat):Int)<=1000:=so1;have ew:bn .i64 (g.2.2.2.2.2.2.2.2+1)=g.2.2.2.2.2.2.2.2+1:=iI;have gs:=GQ.site g g.2.2.2.2.2.1 g.2.2.2.2.2.2.2.2 (bn .i64 (g.2.2.2.2.2.2.2.2+1));unfold tP bk bD bQ cS eV db Li bm bU be aI cQ eO;refine aV (λx=>QG nT ss t (ME (d+1)) (1+oH d s.body+oH d s.els) g out x) ?_ λx hx=>ak hx
 dsimp only;have hs1:SO ss t (gS ((g.1,g.2.1,g.2.2.1,g.2.2.2.1,g.2.2.2.2.1,g.2.2.2.2.2.1,g.2.2.2.2.2.2.1,g.2.2.2.2.2.2.2.2,bn .i64 (g.2.2.2.2.2.2.2.2+1)):GN)):=so2 _ (dg _) (by show g.2.2.2.2.2.2.2.2<g.2.2.2.2.2.2.2.2+((1+oH d s.body+oH d s.els:Nat):Int);omega);have hn1:gN ((g.1,g.2.1,g.2.2.1,g.2.2.2.1,g.2.2.2.2.1,g.2.2.2.2.2.1,g.2.2.2.2.2.2.1,g.2.2.2.2.2.2.2.2,bn .i64 (g.2.2.2.2.2.2.2.2+1)):GN)=gN g+1:=ew;revert gs hs1 hn1;generalize ((g.1,g.2.1,g.2.2.1,g.2.2.2.1,g.2.2.2.2.1,g.2.2.2.2.2.1,g.2.2.2.2.2.2.1,g.2.2.2.2.2.2.2.2,bn .i64 (g.2.2.2.2.2.2.2.2+1)):GN)=L;intro gs hs1 hn1;have D:=hg.of gs;have hso1:=hso.sub (b:=gN L) (n:=oH d s.body+oH d s.els) (by rw[hn1];omega) (by rw[hn1];omega);have fin:∀(n m:Nat) (y:z!),QG nT ss t n m L out y->n<=ME (d+1)->m=oH d s.body+oH d s.els->QG nT ss t (ME (d+1)) (1+oH d s.body+oH d s.els) g out y:=λn m y A hn hm=>⟨gs.trans A.q,(QC.nil 0 out).trans A.c (by omega),by rw[A.x,hn1];omega⟩
 have fin0:s.op=1\/9<=s.op->∀(n:Nat) (y:z!),y.1=L/\QC nT ss t n out y.2->n<=ME (d+1)->QG nT ss t (ME (d+1)) (1+oH d s.body+oH d s.els) g out y:=λz n y A hn=>fin n 0 y ⟨by rw[A.1];exact GQ.refl L,A.2,by rw[A.1];simp⟩ hn (by rw[N.bo z,N.el (by omega)];rfl)
 refine aK (λz=>?_) λ_=>?_
 .refine aw (aa9 (oV _) L out ?_ ?_ ?_ ?_ D hs1 (by omega)) λy A=>bl (by simp) (ak (fin0 (.inl z) _ _ A (by omega)))
  .rw[AY];exact i1
  .rw[AY];exact i3
  .rw[AY];exact i4 (.inl z)
  .rw[AY];exact N.vr z
 refine aV (λx=>x.2=(L,s,out)/\(x.1=J↔s.op=2\/s.op=3)) ?_ ?_
 .exact aK (λh=>ak ⟨by dsimp only;rw[AY],λ_=>.inl h,λ_=>bc h⟩) λh=>ak ⟨by dsimp only;rw[AY],λh2=>.inr (bL h2),λh2=>bc (h2.resolve_left h)⟩
 rintro⟨b,x⟩ ⟨e,hb2⟩;dsimp only at e hb2;subst e;refine aQ (λhb3=>?_) λhbf=>?_
 .dsimp only;rw[AY];refine aw (hB s L out (hb2.1 hb3) (i4 (by rcases hb2.1 hb3 with h|h;exact .inr (.inl h);exact .inr (.inr (.inl h)))) i6 i7 i8 i9 N.el D hs1 hso1 hb) λy A=>bl (by simp) (ak (fin _ _ _ A (by omega) rfl))
 have har:∀(a b c:Int),4<=s.op->GO nT (a,c,0,0,0,0)->GO nT (b,c,0,0,0,0)->¬a=5/\¬a=10->¬b=5/\¬b=10->Ok (ra ((s,a,b,c),L,out)) λy=>QG nT ss t (ME (d+1)) (1+oH d s.body+oH d s.els) g out y:=λa b c h4 ga gb na nb=>(hA s a b c L out i6 i8 ga gb na nb D hs1 (hso1.sub (dg _) (by omega)) hb).mono λy A=>fin _ _ _ A (by omega) (by rw[N.el (by omega)];rfl)
 have hput:∀{op:Int} {r:υ},9<=s.op->GO nT (op,r)->¬op=5/\¬op=10->Ok (cO ((op,r),L,out)) (QG nT ss t (ME (d+1)) (1+oH d s.body+oH d s.els) g out):=λh9 hi h5=>(Ae (by omega) D hs1 hi h5).mono λy A=>fin0 (.inr h9) _ _ A (by omega)
 have hlk:∀n:ζ,Ok (mq (L.2.1,n)) λr=>(n=[109]->r=0)/\(n=[110]->r=1)/\(n=[114]->r=2):=λn=>(Ru L.2.1 n (by rw[D.l];decide)).mono λr h=>aqv (by rw[D.l]at h;exact h)
 have hcond:∀(n:ζ),Ok (kg (n,L,out)) λy=>y.2=(L,out)/\(n=[99]->y.1=0):=λn=>akg n L out D
 have hth:Ok (j7 (L.2.2.2.2.1,s.name)) λr=>s.op=12\/s.op=13->0<=r/\r<(nT:Int):=(Bt L.2.2.2.2.1 s.name (by rw[D.t,cL];have q4:zM.length=4:=rfl;omega)).mono λr hr z=>by
  have hn:=N.sp z;have hl:l! (zM.take nT)<=nT:=ym ..;let⟨_,h2,_,h4⟩:=hr;rw[D.t]at h2 h4;exact⟨AU.1 λh=>h4 h hn,by omega⟩
 have hft:∀n:ζ,Ok (j7 (L.2.2.2.1,n)) λr=>n=[102]->r=0:=λn=>(Bt L.2.2.2.1 n (by rw[D.f];decide)).mono λr hr hn=>by
  let⟨h1,h2,_,h4⟩:=hr;rw[D.f]at h2 h4;have h2:r<1:=h2;have:¬r<0:=λh=>h4 h (by rw[hn];decide)
  omega
 dsimp only;rw[AY];have gor:∀{a c:Int},1<=a->a<=27->jB (a,c,0,0,0,0)=[]->OB nT (a,c,0,0,0,0)->GO nT (a,c,0,0,0,0):=λh1 h2 h3 h4=>⟨h1,h2,by rw[h3];exact λj hj=>(by cases hj),h4⟩
 refine aK (λz=>aw (hlk _) λv hv=>aw (har _ _ _ (by have z:s.op=4:=z;omega) (gor (by decide) (by decide) rfl ?_) (gor (by decide) (by decide) rfl ?_) (by decide) (by decide)) λy A=>bl (by simp) (ak A)) λ_=>?_
 .exact (N.lk z).imp hv.1 hv.2.1
 .exact (N.lk z).imp hv.1 hv.2.1
 refine aK (λz=>aw (hlk _) λv hv=>aw (har _ _ _ (by have z:s.op=5:=z;omega) (gor (by decide) (by decide) rfl ?_) (gor (by decide) (by decide) rfl ?_) (by decide) (by decide)) λy A=>bl (by simp) (ak A)) λ_=>?_
 .exact hv.2.2 (N.rw (.inl z))
 .exact hv.2.2 (N.rw (.inl z))
 refine aK (λz=>aw (hlk _) λv hv=>aw (har _ _ _ (by have z:s.op=6:=z;omega) (gor (by decide) (by decide) rfl ?_) (gor (by decide) (by decide) rfl ?_) (by decide) (by decide)) λy A=>bl (by simp) (ak A)) λ_=>?_
 .exact hv.2.2 (N.rw (.inr z))
 .exact hv.2.2 (N.rw (.inr z))
 refine aK (λz=>aw (har _ _ _ (by have z:s.op=7:=z;omega) (gor (by decide) (by decide) rfl (by decide:¬(17:Int)=3)) (gor (by decide) (by decide) rfl (by decide:¬(18:Int)=3)) (by decide) (by decide)) λy A=>bl (by simp) (ak A)) λ_=>?_
 refine aK (λz=>aw (har _ _ _ (by have z:s.op=8:=z;omega) (gor (by decide) (by decide) rfl (by decide:¬(19:Int)=3)) (gor (by decide) (by decide) rfl (by decide:¬(20:Int)=3)) (by decide) (by decide)) λy A=>bl (by simp) (ak A)) λ_=>?_
 refine aK (λz=>aw (hcond _) λy A=>?_) λ_=>?_
 .obtain⟨v,y2⟩:=y;let⟨y3,y4⟩:=A;dsimp only at y3;subst y3;exact bl (by simp) (aw (hput (by have z:s.op=9:=z;omega) (gor (by decide) (by decide) rfl (y4 (N.cn (.inl z)))) (by decide)) λy A=>bl (by simp) (ak A))
 refine aK (λz=>aw (hcond _) λy A=>?_) λ_=>?_
 .obtain⟨v,y2⟩:=y;let⟨y3,y4⟩:=A;dsimp only at y3;subst y3;exact bl (by simp) (aw (hput (by have z:s.op=10:=z;omega) (gor (by decide) (by decide) rfl (y4 (N.cn (.inr (.inl z))))) (by decide)) λy A=>bl (by simp) (ak A))
 refine aK (λz=>aw (hcond _) λy A=>?_) λ_=>?_
 .obtain⟨v,y2⟩:=y;let⟨y3,y4⟩:=A;dsimp only at y3;subst y3;exact bl (by simp) (aw (hput (by have z:s.op=11:=z;omega) (gor (by decide) (by decide) rfl (y4 (N.cn (.inr (.inr z))))) (by decide)) λy A=>bl (by simp) (ak A))
 refine aK (λz=>aw hth λv hv=>aw (hput (by have z:s.op=12:=z;omega) (gor (by decide) (by decide) rfl (hv (.inl z))) (by decide)) λy A=>bl (by simp) (ak A)) λ_=>?_
 refine aK (λz=>aw hth λv hv=>aw (hput (by have z:s.op=13:=z;omega) (gor (by decide) (by decide) rfl (hv (.inr z))) (by decide)) λy A=>bl (by simp) (ak A)) λ_=>?_
 refine aK (λz=>?_) λn14=>?_
 .have hex:GE 4 (eL (Xp.op s.expr,Xp.n s.expr,Xp.name s.expr,Xp.l s.expr)):=by rw[gd];exact i4 (.inr (.inr (.inr z)))
  refine aw (Fr _ _ L out hex D hs1 (by rw[hg.len];decide) (by rw[hg.len];decide) (by omega)) λy A=>?_
  let⟨g2,o2⟩:=y;let⟨q1,q2⟩:=A;dsimp only at q1 q2;subst q1;have q3:=q2.u;refine bl (by simp) (aw (hft _) λv hv=>?_);refine aw (Ae (by omega) D hs1 (goI (by decide) (by decide) (by simp[jB,hg.h,L0]) (hv (N.se z))) (by decide)) λy A=>bl (by simp) (ak (fin0 (.inr (by have z:s.op=14:=z;omega)) 16 _ ⟨A.1,q2.trans A.2 (bJ _)⟩ (by omega)))
 refine aK (λz=>?_) λn15=>?_
 .refine aw (Bt _ _ (by rw[D.h];decide)) λv hv=>aw (hft _) λv2 hv2=>?_
  have hge:=N.ge z;have hl:(0:Int)<=v/\v<2:=by
   let⟨_,h2,_,h4⟩:=hv;rw[D.h]at h2 h4;exact⟨AU.1 λh=>h4 h (by rw[hge.1];decide),h2⟩
  exact aw (hput (by have z:s.op=15:=z;omega) (goI (by decide) (by decide) (by simp[jB];omega) (hv2 hge.2)) (by decide)) λy A=>bl (by simp) (ak A)
 .exfalso;have h1:=N.o0;have h2:=N.o1;have h3:¬(s.op=2\/s.op=3):=λh=>by have hbf:b=af:=hbf;rw[hb2.2 h]at hbf;cases hbf
  omega
end
section
variable {nT:Nat} {ss:Y π} {t:Int}
def ach:∀(n:Nat),(∀d:Nat,3*d<n->SpG nT ss t (fm n) d)/\(∀d:Nat,3*d+1<n->alf nT ss t (dY n) d)/\(∀d:Nat,3*d+2<n->au8 nT ss t (dw n) d)/\(∀d:Nat,3*d+2<n->au9 nT ss t (dT n) d)
 |0=>⟨λd h=>by omega,λd h=>by omega,λd h=>by omega,λd h=>by omega⟩
 |n+1=>by
  let⟨D,z,L,hA⟩:=ach n;refine ⟨λd h=>?_,λd h=>?_,λd h=>?_,λd h=>?_⟩
  .cases d with
   |zero=>exact λs g out A=>A.elim
   |succ d=>exact af3 (dY n) (fm n) (dw n) (dT n) d (L d (by omega)) (hA d (by omega))
  .exact Zu (dY n) (fm n) (dw n) (dT n) d (D d (by omega))
  .exact Qh (dY n) (fm n) (dw n) (dT n) d (z d (by omega))
  .exact Wo (dY n) (fm n) (dw n) (dT n) d (z d (by omega))
def TK (d:Nat) (hd:d<=100):alf nT ss t wc d:=(ach fuel).2.1 d (by rw[kN];omega)
structure SL (t k:Int) (m:Nat) (S:List π):Prop where
 l:l! S=m
 v:∀i:Nat,i<m->(geti pR S (i:Int)).1=t/\(geti pR S (i:Int)).2.1=k+i
variable {T:Ty}
def Nc {l m:Y T.den} (h:i<l! l):geti _ (l++m) (i:Int)=geti _ l (i:Int):=by
 rw[wT,wT,aF,aF,bT h]
def Nb {l m:Y T.den} (h:l! l<=i):geti _ (l++m) (i:Int)=geti _ m ((i-l! l:Nat):Int):=by
 rw[wT,wT,aF,aF,cj h]
def SL.nil (t k:Int):SL t k 0 []:=⟨rfl,λi h=>by omega⟩
def SL.one (t k z:Int):SL t k 1 [(t,k,z)]:=⟨rfl,λi h=>by rw[show i=0 by omega];exact⟨rfl,by show k=k+((0:Nat):Int);omega⟩⟩
def SL.app {z:Int} {k:Nat} {S S':Y π} (h:SL t a k S) (h':SL t z i S') (L:z=a+k):SL t a (k+i) (S++S'):=by
 let⟨h1,D⟩:=h;let⟨h3,N⟩:=h';refine ⟨by rw[bC];omega,λb hi=>?_⟩;by_cases A:b<l! S
 .rw[Nc (T:=pR) A];exact D b (by omega)
 .rw[Nb (T:=pR) (by omega)]
  grind
def Is:∀(n d:Nat),d<n->∀(t k:Int) (l:Y Sx) (out:Y π),l! l<=100->(∀s∈l,GT d s)->0<=k->k+oH d l<=100000000->l! out+oH d l<=100000000->Ok (qL n ((t,k,l),out)) λy=>y.1=k+oH d l/\∃S,y.2=out++S/\SL t k (oH d l) S
 |0,_,h,_,_,_,_,_,_,_,_,_=>by omega
 |n+1,d,hn,t,k,l,out,hl,hs,k0,hkb,hb=>by
  rw[KK];unfold Av bS ky bU be c7 aI cQ;refine bV (l! l) (λi x=>x.1.2=(i:Int)/\x.1.1=k+oH d (l.take i)/\∃S,x.2=out++S/\SL t k (oH d (l.take i)) S) ?_ ?_ ⟨rfl,by simp[oH],[],by simp,by simp[oH];exact SL.nil t k⟩
  .rintro i ⟨⟨a,b⟩,o⟩ hi ⟨D,e2,S,z,N⟩;subst D e2 z;have hp:=Uj (d:=d) l (i+1);rw[zB hi]at hp;rw[zB hi];refine cW ?_;have hin:((i:Nat):Int)<(l! l:Int):=by omega
   have hm:=hs _ (bI (T:=.sm) (xs:=l) (j:=(i:Int)) (by omega) (by omega));have hSl:=N.l;cases d with
   |zero=>exact hm.elim
   |succ d=>
    let⟨_,_,_,g4,g5,g6,g7⟩:=hm;have hc:UI (d+1) (geti (.sm) l (i:Int))=1+oH d (Sx.body (geti (.sm) l (i:Int)))+oH d (Sx.els (geti (.sm) l (i:Int))):=rfl;rw[hc]at hp ⊢;dsimp only;refine aR (by omega) hin (aU (bG (by grind) (by omega) (aR (by omega) hin (aU ?_))));rw[iI (n:=k+(oH (d+1) (l.take i):Nat)+1) (by omega) (by omega)];refine aw (Is n d (by omega) _ _ _ _ (by omega) g6 (by omega) (by omega) (by grind)) λy A=>bl (by simp) ?_
    let⟨a2,o2⟩:=y;let⟨y1,S2,y2,L⟩:=A;subst y1 y2;have hSl2:=L.l;refine aR (by omega) hin (aU ?_);refine aw (Is n d (by omega) _ _ _ _ (by omega) g7 (by omega) (by omega) (by grind)) λy A=>bl (by simp) (ak ?_)
    let⟨a3,o3⟩:=y;let⟨z1,S3,z2,z3⟩:=A;subst z1 z2;refine ⟨fV,by dsimp only;omega,S++([_]++(S2++S3)),by simp[iT];rfl,?_⟩;refine N.app ?_ rfl;rw[uH];exact (SL.one t _ _).app (L.app z3 rfl) (by simp)
  .rintro⟨⟨a,b⟩,o⟩ ⟨D,e2,z⟩;subst D e2;rw[cY]at z ⊢;exact cP (ak ⟨rfl,z⟩)
def ab1 {A D k:Int} {l S:Y π} (h:Pk a l=Z (A,D)) (L:SL t k i S) (hk:(A=t/\D=k)\/(A<t/\t<a/\k=0)):∀m:Nat,m<=i->Pk a (l++S.take m)=Z (if m=0 then (A,D) else (t,k+m))
 |0,_=>by grind
 |m+1,hi=>by
  have N:=ab1 h L hk m (by omega);rw[pH (T:=pR) (xs:=S) (i:=m) (by rw[L.l];omega),<-iT,ab3,N];let⟨v1,v2⟩:=L.v m (by omega);by_cases z:m=0
  .subst z;unfold Yo
   grind
  .rw[ax z];unfold Yo
   grind
end
abbrev CE6:Type:=ζ×s?
abbrev W4T:Type:=Y CE6×Y (ζ×Bool)×Y (ζ×Int)×Y ζ
def ceD (z:DT):Y CE6:=(dE (aM (lX z.2.2.2.1 1))).map λ(k:Nat)=>(z.2.2.1,(k:Int),z.2.2.2.1,decide (z.1=2),z.2.2.2.2.1)
def adD (y:W4T) (z:DT):W4T:=
 if z.1=1\/z.1=2 then (y.1++ceD z,y.2) else if z.1=3\/z.1=4 then (y.1,y.2.1++[(z.2.2.1,decide (z.1=4))],y.2.2) else if z.1=5 then (y.1,y.2.1,y.2.2.1++[(z.2.2.1,0)],y.2.2.2) else (y.1,y.2.1,y.2.2.1,y.2.2.2++[z.2.2.1])
def W4 (i:Nat):W4T:=(D0.take i).foldl adD ([],[],[],[])
def W4_9:W4 9=(C0,Km,Pq,Yl):=rfl
def W4_s (hi:i<9):W4 (i+1)=adD (W4 i) (geti Kn D0 (i:Int)):=by
 unfold W4;rw[pH (T:=Kn) (xs:=D0) hi,eX];rfl
def D0_c:∀i:Nat,i<9->(geti Kn D0 (i:Int)).1=5->i=7:=by decide
def axk:∀i:Nat,i<9->(W4 i).1.length<=5/\(W4 i).2.1.length<=3/\(W4 i).2.2.1.length<=1/\(W4 i).2.2.2.length<=1/\lX (geti Kn D0 (i:Int)).2.2.2.1 1<=2/\1<=lX (geti Kn D0 (i:Int)).2.2.2.1 1:=by decide
def bsN (p:PG) (i:Nat):Nat:=((p.2.take i).map λt=>oH 5 t.2.2.2).sum
def boN (p:PG) (i:Nat):Nat:=oH 5 (geti uX p.2 (i:Int)).2.2.2
def ar8 {p:PG} (hi:i<l! p.2):bsN p (i+1)=bsN p i+boN p i:=by
 unfold bsN boN;rw[pH (T:=uX) hi,cr,I8];simp
def aa5 {p:PG} (i:Nat) (h:(p.2.map λt=>oH 5 t.2.2.2).sum<=60):bsN p i<=60:=by
 refine dc ?_ h
 conv=>rhs;rw[<- EG i p.2]
 unfold bsN;rw[cr,I8];omega
structure SW (p:PG) (i:Nat) (S:List π):Prop where
 l:l! S=bsN p i
 f:∃a b,Pk (l! p.2) S=Z (a,b)/\(a<i\/a=0/\b=0)
 s:∀j:Nat,j<i->SR S (j:Int) (bsN p j:Nat) (boN p j)
structure WW (p:PG) (w:WT):Prop where
 x:WX w
 t:w.2.2.2.2.1=zM.take (l! p.2)
 s:∀j:Nat,j<l! p.2->SR w.2.2.2.2.2 (j:Int) (bsN p j:Nat) (boN p j)
def SO.app {S S':Y π} {t:Int} (h:SO S t a):SO (S++S') t a:=by
 let⟨h0,h1,z⟩:=h;obtain⟨a,rfl⟩:∃n:Nat,a=(n:Int):=⟨a.toNat,by omega⟩
 exact⟨h0,by rw[bC];omega,by rw[Nc (T:=pR) (by omega)];exact z⟩
def aae (p:PG) (hp:PJ p) (r:ν) (hr:f_ p=Z r) (h0:r.1=0) (hc:(p.2.map λt=>oH 5 t.2.2.2).sum<=60):Ok (wd p) (WW p):=by
 have hpt:=hp.t;unfold wd bk bD bQ cS eV db dZ eh iS w9 bm bS jK bU bX be c7 aI cQ;refine aZ hr (cq (λh=>(h h0).elim) λ_=>?_);have hD:p.1=D0:=hp.d;have hlen:l! p.1=9:=by rw[hD];rfl
 refine bV 9 (λi x=>x.1=(i:Int)/\x.2.1=p/\x.2.2=W4 i) ?_ ?_ ⟨rfl,rfl,rfl⟩
 .rintro i ⟨a,p',y⟩ hi ⟨N,e2,e3⟩;dsimp only at N e2 e3;subst N;have e2:=e2.symm;subst e2;let⟨b1,b2,b3,b4,b5,b6⟩:=axk i hi;rw[<- e3]at b1 b2 b3 b4;have hW:=W4_s hi;rw[<- e3]at hW;have hcd:=D0_c i hi;have hlk:i=7->y.2.1=Km/\(geti Kn D0 (i:Int)).2.2.2.2.2=[109]:=λh=>by subst h;rw[e3];exact⟨rfl,rfl⟩
  refine cW ?_;refine bH (aU ?_);dsimp only;rw[hD];revert hW hcd hlk b5 b6;generalize (geti Kn D0 (i:Int))=z;intro b5 b6 hW hcd hlk;refine aV (λx=>x=(p,W4 (i+1))) ?_ ?_
  .rw[hW];unfold adD;refine aV (λx=>x.2=(p,z,y)/\(x.1=J↔(z.1=1\/z.1=2))) ?_ ?_
   .exact aK (λh=>ak ⟨rfl,λ_=>.inl h,λ_=>bc h⟩) λh=>ak ⟨rfl,λA=>.inr (bL A),λA=>bc (A.resolve_left h)⟩
   rintro⟨b,x⟩ ⟨e,hb⟩;dsimp only at e hb;subst e;refine aQ (λD=>?_) λD=>?_
   .rw[aE (hb.1 D)];unfold ceD;obtain⟨m,hm⟩:∃m:Nat,lX z.2.2.2.1 1=(m:Int):=⟨(lX z.2.2.2.1 1).toNat,by omega⟩
    rw[hm,a8];refine bV m (λk x=>x=((k:Int),p,z,y.1++(dE k).map (λ(k:Nat)=>(z.2.2.1,(k:Int),z.2.2.2.1,decide (z.1=2),z.2.2.2.2.1)),y.2)) ?_ ?_ (by simp)
    .rintro k x hk rfl;refine bP (λ_=>?_) λg=>(by dsimp only at g;rw[hm]at g;omega)
     refine a! (ak ?_);dsimp only;rw[fV,List.range_succ,cr,<-iT];rfl
    .rintro x rfl;exact bP (λg=>(by dsimp only at g;rw[hm]at g;omega)) λ_=>ak rfl
   rw[ax λh=>by have D:b=af:=D;rw[hb.2 h]at D;cases D];refine aV (λx=>x.2=(p,z,y)/\(x.1=J↔(z.1=3\/z.1=4))) ?_ ?_
   .exact aK (λh=>ak ⟨rfl,λ_=>.inl h,λ_=>bc h⟩) λh=>ak ⟨rfl,λA=>.inr (bL A),λA=>bc (A.resolve_left h)⟩
   rintro⟨c,x⟩ ⟨e,hc2⟩;dsimp only at e hc2;subst e;refine aQ (λh=>?_) λh=>?_
   .rw[aE (hc2.1 h)];exact a! (ak rfl)
   rw[ax λA=>by have h:c=af:=h;rw[hc2.2 A]at h;cases h];refine aK (λh5=>?_) λh5=>?_
   .obtain⟨l1,l2⟩:=hlk (hcd h5);rw[aE h5];refine aw (Ru _ _ (by dsimp only;rw[l1];decide)) λv hv=>?_
    have hv:=(aqv (by dsimp only at hv;rw[l1]at hv;exact hv)).1 l2;subst hv;exact a! (ak rfl)
   .rw[ax h5];exact a! (ak rfl)
  rintro x rfl;exact ak ⟨fV,rfl,rfl⟩
 .rintro⟨a,p',y⟩ ⟨N,e2,j⟩;dsimp only at N e2 j;subst N;have e2:=e2.symm;subst e2;rw[W4_9]at j;subst j;refine cP ?_;refine aw (P:=WW p) ?_ λr hr=>ak hr
  refine bV (l! p.2) (λi x=>x.1=(i:Int)/\x.2.1=p/\x.2.2.1=C0/\x.2.2.2.1=Km/\x.2.2.2.2.1=Pq/\x.2.2.2.2.2.1=Yl/\x.2.2.2.2.2.2.1=zM.take i/\SW p i x.2.2.2.2.2.2.2) ?_ ?_ ⟨rfl,rfl,rfl,rfl,rfl,rfl,rfl,rfl,⟨0,0,rfl,.inr ⟨rfl,rfl⟩⟩,λj hj=>by omega⟩
  .rintro i ⟨a,p2,c2,l2,d2,f2,t2,s2⟩ hi ⟨N,e2,e3,e4,e5,e6,e7,hl8,⟨fa,fb,f8,f9⟩,L⟩;dsimp only at N e2 e3 e4 e5 e6 e7 hl8 f8 L;subst N;have e2:=e2.symm;subst e2;have hb8:=aa5 (i+1) hc;have hbs:=ar8 hi;refine cW ?_;have hin:((i:Nat):Int)<(l! p.2:Int):=by omega
   have hm:=hp.m _ (bI (T:=uX) (xs:=p.2) (j:=(i:Int)) (by omega) hin);have hnm:(geti uX p.2 (i:Int)).1=geti (.str) zM (i:Int):=by
    have h1:=pH (T:=uX) hi;have A:=eZ (gD Prod.fst) h1;rw[cr,gH,gH,hp.n,List.take_take,List.take_take,I7 (by omega),I7 (by omega),pH (T:=.str) (xs:=zM) (i:=i) (by have q4:zM.length=4:=rfl;omega)]at A;exact ((List.cons.inj (List.append_cancel_left A)).1).symm
   have htl:l! t2=i:=by rw[e7,cL];have q4:zM.length=4:=rfl;omega
   dsimp only;refine aR (by omega) hin (aU (a! (aR (by omega) hin (aU ?_))));refine aw (Is fuel 5 (by rw[kN];omega) _ _ _ s2 (by have:=hm.b;omega) (λs hs=>((hm.s s hs).le (by omega:3<=5)).t) (dg _) ?_ ?_) λy hy=>bl (by simp) (ak ?_)
   .show (0:Int)+(boN p i:Nat)<=_;omega
   .show (l! s2)+boN p i<=_;omega
   let⟨_,S,A,h3⟩:=hy;have h3:SL (i:Int) 0 (boN p i) S:=h3;refine ⟨fV,rfl,e3,e4,e5,e6,?_,?_⟩
   .dsimp only;rw[e7,hnm,<-pH (T:=.str) (xs:=zM) (i:=i) (by have q4:zM.length=4:=rfl;omega)]
   .dsimp only;rw[A];refine ⟨by rw[bC,h3.l,hl8,hbs],?_,λj hj=>?_⟩
    .have hr:=ab1 f8 h3 (by rcases f9 with h|⟨h,h'⟩;exact .inr ⟨h,by omega,rfl⟩;rcases Nat.eq_zero_or_pos i with hi0|hi0;exact .inl ⟨by omega,h'⟩;exact .inr ⟨by omega,by omega,rfl⟩) (boN p i) (bJ _);rw[<- h3.l,cY]at hr;rw[hr];split
     .exact⟨_,_,rfl,f9.imp (λh=>by omega) id⟩
     .exact⟨_,_,rfl,.inl (by omega)⟩
    .rcases cJ j i with h1|h1
     .obtain⟨g1,g2,g3⟩:=L j h1;exact⟨g1,g2,λq q1 q2=>(g3 q q1 q2).app⟩
     .have hj:j=i:=by omega
      subst hj;refine ⟨by omega,by omega,λq q1 q2=>?_⟩;obtain⟨q,rfl⟩:∃n:Nat,q=(n:Int):=⟨q.toNat,by omega⟩
      refine ⟨by omega,by rw[bC,h3.l];omega,?_⟩;rw[Nb (T:=pR) (by omega)];exact (h3.v _ (by omega)).1
  .rintro⟨a,p2,c2,l2,d2,f2,t2,s2⟩ ⟨N,e2,e3,e4,e5,e6,e7,hl8,⟨fa,fb,f8,f9⟩,L⟩;dsimp only at N e2 e3 e4 e5 e6 e7 hl8 f8 L;subst N;have e2:=e2.symm;subst e2 e3 e4 e5 e6 e7;refine cP (ak ?_);have hb8:=aa5 (l! p.2) hc;refine ⟨⟨rfl,rfl,rfl,rfl,⟨l! p.2,hp.t0,hp.t,rfl⟩,by dsimp only;omega,?_⟩,rfl,L⟩;unfold SV0;have hTl:l! (zM.take (l! p.2))=l! p.2:=by rw[cL];have q4:zM.length=4:=rfl;omega
   dsimp only;rw[hTl,f8];simp
def NM9:Y ζ:=[[120],[121],[118],[113],[109],[110],[114],[99],[102]]
set_option maxHeartbeats 20000000 in
def air (t:Y ζ) (ht:l! t<=4) (s:Y π):qE (C0,Km,Pq,Yl,t,s)=Z (NM9++t,J):=by
 refine cI ?_;unfold qE bk bD bQ cS dZ w9 bm bS jK bU bX be c7 aI cQ;with_reducible repeat' first|exact ak rfl|refine abl ?_|refine abk ?_|refine abj ?_|refine abh ?_|refine an4 ?_|refine aU ?_|refine qP rfl ?_|refine jO rfl ?_|refine bl rfl ?_|refine abi ?_|refine Rl ?_|refine Vq ?_
 refine bG (by show 9+l! t<=1073741824;omega) (by decide) ?_;with_reducible repeat' first|exact ak rfl|refine abl ?_|refine abk ?_|refine abj ?_|refine abh ?_|refine an4 ?_|refine aU ?_|refine qP rfl ?_|refine jO rfl ?_|refine bl rfl ?_|refine abi ?_|refine Rl ?_|refine Vq ?_
def Yi:∀x∈NM9++zM,Ok (fR x) λb=>b=J:=by
 intro x z;simp only[NM9,zM,gI,kR,a_,cD,fG]at z;rcases z with rfl|rfl|rfl|rfl|rfl|rfl|rfl|rfl|rfl|rfl|rfl|rfl|rfl;all_goals with_reducible repeat' first|exact ak rfl|refine abl ?_|refine abk ?_|refine abj ?_|refine abh ?_|refine Vq ?_|refine an4 ?_|refine aU ?_|refine qP rfl ?_|refine jO rfl ?_|refine bl rfl ?_|refine abi ?_|refine Rl ?_|refine du (fR.eq_1 ..) ?_|refine du (lU.eq_1 ..) ?_|refine du (lA.eq_1 ..) ?_|refine du (mr.eq_1 ..) ?_|refine du (qI.eq_1 ..) ?_|refine du (s8.eq_1 ..) ?_
def GT.up:∀{d:Nat} {s:Sx},GT d s->GT (d+1) s
 |0,_,h=>h.elim
 |_+1,_,⟨a,b,c,e,f,g,i⟩=>⟨a,b,c,e,f,λx z=>GT.up (g x z),λx z=>GT.up (i x z)⟩
def ati {l:Y Sx} (h:∀s∈l,GT 3 s):oH 5 l=oH 3 l:=by
 unfold oH;rw[kO λx z=>(Ui (GT.up (h x z))).trans (Ui (h x z))]
def auc:∀i:Nat,i<13->∀r:Nat,r<i->geti (.str) (NM9++zM) (r:Int)≠geti (.str) (NM9++zM) (i:Int):=by decide
def EX {b:Int} {t f:M R} {Q:R->Prop} (h:b<=a) (hf:Ok f Q):Ok (aJ (gE a b) t f) Q:=jO (ja.2 h) hf
def La {w:WT} (hx:WX w):iy w=Z J:=by
 let⟨w1,w2,w3,w4,A,D⟩:=w;let⟨hc,hl,hd,hf,⟨n,n1,n4,ht⟩,hs,hv⟩:=hx;dsimp only at hc hl hd hf ht hs;subst hc hl hd hf;have hT:l! A=n:=by rw[ht,cL];have q4:zM.length=4:=rfl;omega
 have hv:Pk (l! A) D≠U:=hv;refine cI ?_;unfold iy bk bD bQ cS eh iS bm bS jY jK bU bX be c7 aI cQ;refine aV (λx=>x=(af,C0,Km,Pq,Yl,A,D)) ?_ ?_
 .refine EX (show (5:Int)<=12 by decide) (EX (show (3:Int)<=4 by decide) (EX (show (1:Int)<=2 by decide) (EX (show (1:Int)<=2 by decide) (EX (show (1:Int)<=(l! A:Int) by omega) (EX (show (l! A:Int)<=4 by omega) (ak ?_))))));dsimp only[ay];rw[ja.2 (show (l! D:Int)<=60 by omega)]
 rintro x rfl;refine jP (aZ (air A (by omega) D) (jO rfl ?_));have hN:NM9++A=(NM9++zM).take (9+n):=by rw[ht];rcases (by omega:n=1\/n=2\/n=3\/n=4) with rfl|rfl|rfl|rfl<;>rfl
 have hNl:l! (NM9++A)=9+n:=by rw[bC,hT];rfl
 have hNg:∀i:Nat,i<9+n->geti (.str) (NM9++A) (i:Int)=geti (.str) (NM9++zM) (i:Int):=λi hi=>by
  rw[hN,wT,wT,aF,aF,List.getElem?_take_of_lt hi]
 refine bV (9+n) (λi x=>x=((i:Int),C0,Km,Pq,Yl,A,D)) ?_ ?_ rfl
 .rintro i x hi rfl;refine bP (λ_=>?_) λg=>(by dsimp only[ay]at g;rw[hNl]at g;omega)
  refine aV (λx=>x=(af,C0,Km,Pq,Yl,A,D)) ?_ ?_
  .refine aR (by dsimp only;omega) (by dsimp only;rw[hNl];omega) (aU ?_);have hmem:geti (.str) (NM9++A) (i:Int)∈NM9++zM:=by rw[hNg i hi];exact bI (T:=.str) (by omega) (by have:l! (NM9++zM)=13:=rfl;omega)
   refine aw (Yi _ hmem) λb hb=>?_
   refine jO (by rw[hb];rfl) (cF (a? (dj (by dsimp only;rw[hNl];omega) ?_)));refine aR (by dsimp only;omega) (by dsimp only;rw[hNl];omega) (aU ?_);refine aw (Bt _ _ (by dsimp only;rw[cL,hNl];omega)) λr hr=>ak ?_
   let⟨_,h2,h3,_⟩:=hr;dsimp only at h2 h3;rw[cL,hNl]at h2;have hr0:¬0<=r:=λh0=>by
    have h3:=h3 h0;obtain⟨r,rfl⟩:∃m:Nat,r=(m:Int):=⟨r.toNat,by omega⟩
    rw[wT,aF,List.getElem?_take_of_lt (by omega),<-aF,<-wT (T:=.str),hNg r (by omega),hNg i hi]at h3;exact auc i (by omega) r (by omega) h3
   rw[m7.2 (by omega)]
  .rintro x rfl;exact jP (ak (by dsimp only;rw[fV]))
 rintro x rfl;refine bP (λg=>(by dsimp only[ay]at g;rw[hNl]at g;omega)) λ_=>?_
 refine aw (P:=λb=>b=J) ?_ λy hy=>ak hy
 refine bV 1 (λi x=>x=((i:Int),C0,Km,Pq,Yl,A,D)) ?_ ?_ rfl
 .rintro i x hi rfl;have hi0:i=0:=by omega
  subst hi0;refine qP rfl (bl rfl (aU (aV (λx=>x=(af,C0,Km,Pq,Yl,A,D)) ?_ ?_)))
  .exact jO rfl (jO rfl (bl rfl (aU (ak rfl))))
  .rintro x rfl;exact jP (ak (by dsimp only;rw[fV]))
 rintro x rfl;refine bP (λg=>(by have g:(1:Int)<1:=g;omega)) λ_=>?_
 refine aw (P:=λb=>b=J) ?_ λy hy=>ak hy
 refine bV (l! D) (λi x=>x=((i:Int),C0,Km,Pq,Yl,A,D)/\∃t k:Int,Pk (l! A) (D.take i)=Z (t,k)/\0<=t/\t<(l! A:Int)/\(i=0->t=0/\k=0)/\(¬i=0->(geti pR D ((i-1:Nat):Int)).1=t/\(geti pR D ((i-1:Nat):Int)).2.1+1=k/\0<k/\k<=i)) ?_ ?_ ⟨rfl,0,0,rfl,by omega,by omega,λ_=>⟨rfl,rfl⟩,λh=>(h rfl).elim⟩
 .rintro i x hi ⟨rfl,t,k,hF,t0,tT,hz,hp⟩;have hw:¬(i:Int)=0->bn .i64 ((i:Int)-1)=((i-1:Nat):Int):=λh=>by rw[iI];omega
  have hnx:=L1 (T:=l! A) hi;have hne:=ab2 hv (i+1);rw[hnx,hF]at hne;let⟨hs1,L⟩:=aho hne;rw[hF,hs1]at hnx;refine cW ?_;refine aV (λx=>x=(C0,Km,Pq,Yl,A,D)) ?_ ?_
  .refine bH (aU ?_);revert L;generalize (geti pR D (i:Int))=z;obtain⟨(N:Int),(z2:Int),z3⟩:=z;intro L;dsimp only at L;refine aV (λx=>x=(af,(C0,Km,Pq,Yl,A,D),N,z2,z3)) ?_ ?_
   .refine EX (show (0:Int)<=N by omega) (ak ?_);dsimp only[ay];rw[m7.2 (show N<(l! A:Int) by omega)]
   rintro x rfl;refine jP (aV (λx=>x.2=((C0,Km,Pq,Yl,A,D),N,z2,z3)/\(x.1=J->i=0\/¬t=N)/\(x.1=af->¬i=0/\t=N)) ?_ ?_)
   .refine aK (λh=>ak ⟨rfl,λ_=>.inl (by have h:((i:Nat):Int)=0:=h;omega),nofun⟩) λh=>?_
    have h:¬((i:Nat):Int)=0:=h;dsimp only;rw[hw h];have hq:=(hp (by omega)).1;exact aR (by omega) (by first|omega|(dsimp only;omega)) (aU (ak ⟨rfl,λh2=>.inr (by rw[<- hq];simpa using h2),λh2=>⟨by omega,by rw[<- hq];simpa using h2⟩⟩))
   rintro⟨c,x⟩ ⟨e,hc1,hc⟩;dsimp only at e hc1 hc;subst e;refine aQ (λhct=>?_) λhcf=>?_
   .have hz2:z2=0:=by
     rcases hc1 hct with h|h
     .have:=hz h;omega
     .omega
    refine aV (λx=>x=(af,C0,Km,Pq,Yl,A,D)) ?_ ?_
    .refine cq (λh=>(h hz2).elim) λ_=>bP (λh=>?_) λ_=>ak rfl
     have h:(0:Int)<((i:Nat):Int):=h;dsimp only;rw[hw (by omega)];have hq:=(hp (by omega)).1;refine aR (by omega) (by first|omega|(dsimp only;omega)) (aU (ak ?_));dsimp only;rw[hq,ja.2 (show t<=N by omega)]
    rintro x rfl;exact jP (ak rfl)
   .obtain⟨h1,h2⟩:=hc hcf;let⟨_,p2,p3,p4⟩:=hp h1;dsimp only;rw[hw (by omega)];refine aR (by omega) (by first|omega|(dsimp only;omega)) (aU ?_);refine cq (λh=>(h ?_).elim) λ_=>ak rfl
    try dsimp only
    rw[p2,iI];omega
  .rintro x rfl;refine ak ⟨by dsimp only;rw[fV],_,_,hnx,?_⟩;revert L;rw[show i+1-1=i by omega];generalize (geti pR D (i:Int))=z;obtain⟨(N:Int),(z2:Int),z3⟩:=z;intro L;dsimp only at L ⊢;refine ⟨by omega,by omega,λh=>by omega,λ_=>⟨rfl,rfl,?_,?_⟩⟩
   .by_cases h0:i=0
    .have:=hz h0;omega
    .have:=hp h0;omega
   .by_cases h0:i=0
    .have:=hz h0;omega
    .have:=hp h0;omega
 .rintro x ⟨rfl,_⟩;exact cP (ak rfl)
def aah {c:CT} (z:WX c.1) (A:l! c.2=l! c.1.2.2.2.2.1) (h:∀k:Nat,k<l! c.2->GC (l! c.2) c.1.2.2.2.2.2 (k:Int) (geti zP c.2 (k:Int))):kB c=Z J:=by
 let⟨w,l⟩:=c;have L:l! l<=4:=by
  let⟨n,_,D,ht⟩:=z.t
  grind
 refine cI ?_;unfold kB bQ bS bX be c7 aI cQ;refine aV (λx=>x=(af,w,l)) ?_ ?_
 .refine aZ (La z) (jO rfl (ak ?_));rw[A];simp
 rintro x rfl;refine jP (bV (l! l) (λi x=>x=((i:Int),w,l)) ?_ ?_ rfl)
 .rintro i x hi rfl;refine cW ?_;refine bH (aU (aZ (HG z A.symm (h i hi)) (jO rfl (ak ?_))));rw[fV]
 .rintro x rfl;exact cP (ak rfl)
def UB (p:PG) (hp:PJ p) (hr4:∃r,f_ p=Z r/\r.1=0):Ok (rU p) λy=>CB y.1:=by
 have hpt:=hp.t;let⟨r,hr,h0⟩:=hr4;let⟨r',hr',h60⟩:=Hr p hp.x;rw[hr]at hr';cases hr';have h60:=h60 h0;unfold rU bk bD bQ cS eV db eh iS Li bS jK bU bX kq be c7 aI cQ;refine aZ hr (cq (λh=>(h h0).elim) λ_=>?_);refine aw (aae p hp r hr h0 h60) λw hw=>?_
 have hwT:l! w.2.2.2.2.1=l! p.2:=by rw[hw.t,cL];have q4:zM.length=4:=rfl;omega
 refine bV (l! p.2) (λi x=>x.1.1=((bsN p i:Nat):Int)/\x.1.2=(i:Int)/\x.2.1=p/\x.2.2.1=w/\l! x.2.2.2=i/\∀j:Nat,j<i->GC (l! p.2) w.2.2.2.2.2 (j:Int) (geti zP x.2.2.2 (j:Int))) ?_ ?_ ⟨rfl,rfl,rfl,rfl,rfl,λj L=>by omega⟩
 .rintro i ⟨⟨a,b⟩,p2,w2,cs⟩ hi ⟨e0,e1,e2,e3,e4,e5⟩;dsimp only at e0 e1 e2 e3 e4 e5;subst e0 e1;have e2:=e2.symm;subst e2;have e3:=e3.symm;subst e3;have hin:((i:Nat):Int)<(l! p.2:Int):=by omega
  refine cW ?_;have hm:=hp.m _ (bI (T:=uX) (xs:=p.2) (j:=(i:Int)) (by omega) hin);have hsr:=hw.s i hi;have hbs:=ar8 hi;have hb1:=aa5 (i+1) h60;have hbo:boN p i=oH 3 (geti uX p.2 (i:Int)).2.2.2:=ati λs hs=>(hm.s s hs).t
  rw[hbo]at hsr hbs;dsimp only;refine aR (by omega) hin (aU (aR (by omega) hin (aU ?_)));revert hm hsr hbs;generalize (geti uX p.2 (i:Int))=t;intro hm hsr hbs;have hk:ME 3=50+16*(50+16*50):=rfl;have hle:=cK (ME 3) hm.b;rw[hk]at hle;have hll:l! t.2.2.1=2:=by rw[hm.l];rfl
  refine aw (TK (nT:=l! p.2) (ss:=w.2.2.2.2.2) (t:=(i:Int)) 3 (by omega) _ _ [] (by have:=hm.b;omega) hm.s ⟨hw.x.c,hw.x.l,hw.x.d,hw.x.f,hw.t,hm.l⟩ hsr (by rw[hk,pG];omega)) λy hy=>bl (by simp) ?_
  let⟨g2,o2⟩:=y;let⟨q1,q2,q3⟩:=hy;dsimp only at q1 q2 q3;have q4:=q2.u;rw[hk,pG]at q4;refine aw (L8 _ _ o2 (by omega)) λy hy=>bl (by simp) ?_
  let⟨g3,A⟩:=y;let⟨hg3,ho3⟩:=hy;dsimp only at hg3 ho3;have hL:aS (aj g3.2.2.2.2.2.2.1)=2:=by
   rw[hg3];show aS (aj g2.2.2.2.2.2.2.1)=2;rw[q1.h];show aS (aj t.2.2.1)=2;rw[hll];rfl
  have l3:l! A=l! o2+1:=by rw[ho3,bC];rfl
  have l31:l! A-1=l! o2:=by omega
  have iq:∀q:Nat,q<l! o2->iA A q=iA o2 q:=λq D=>by rw[ho3,MO D]
  have iend:iA A (l! o2)=(28,0,0,0,0,-1):=by rw[ho3,Ar]
  have hreg:∀q:Nat,q<l! A->∀j:Int,j∈jB (iA A q)->0<=j/\j<32:=λq D j L=>by
   by_cases h:q<l! o2
   .rw[iq q h]at L;exact (q2.i q (mf _) h).o.r j L
   .rw[show q=l! o2 by omega,iend]at L;simp[jB]at L
  dsimp only;rw[hL];refine bV (l! A) (λk x=>∃N:Int,x=((k:Int),p,w,g3,N,cs,A)/\2<=N/\N<=32/\∀q:Nat,q<k->∀j:Int,j∈jB (iA A q)->j<N) ?_ ?_ ⟨2,rfl,by omega,by omega,λq D=>by omega⟩
  .rintro k x hk2 ⟨N,rfl,r0,r1,r2⟩;refine cW ?_;dsimp only;refine bH (bH (aU (aZ (vF _) ?_)));have hrk:=hreg k hk2;have hrl:=FF (iA A k);revert hrk hrl;generalize hins:(geti sF A (k:Int))=ins;rw[show iA A k=ins from hins];intro hrk hrl;refine bV (l! (jB ins)) (λj x=>∃rg':Int,x=((j:Int),p,w,g3,rg',cs,A)/\N<=rg'/\rg'<=32/\∀q:Nat,q<j->rg'>geti aP (jB ins) (q:Int)) ?_ ?_ ⟨N,rfl,dg _,r1,λq D=>by omega⟩
   .rintro j x L ⟨rg',rfl,s0,s1,s2⟩;refine cW ?_;refine bH (aU (ak ?_));have hz:=hrk _ (bI (T:=aP) (xs:=jB ins) (j:=(j:Int)) (by omega) (by omega));dsimp only;obtain⟨z,hzj⟩:∃z:Int,geti aP (jB ins) (j:Int)=z:=⟨_,rfl⟩
    rw[hzj]at hz ⊢;have hz0:(0:Int)<=z:=hz.1;have hz1:(32:Int)>z:=hz.2;rw[fV,iI (n:=z+1) (by omega) (by omega)];have him:rg'<=lX rg' (z+1)/\z+1<=lX rg' (z+1)/\lX rg' (z+1)<=32:=by
     unfold lX;split
     next h=>have h:=rZ.1 h;omega
     next h=>have h:=ja.1 (Sl.2 h);omega
    refine ⟨_,rfl,by omega,him.2.2,λq D=>?_⟩;rcases cJ q j with h1|h1
    .have:=s2 q h1;omega
    .rw[show q=j by omega,hzj];exact Int.lt_of_lt_of_le (show z<z+1 by omega) him.2.1
   .rintro x ⟨rg',rfl,s0,s1,s2⟩;refine cP (ak ?_);refine ⟨rg',by dsimp only;rw[fV],by omega,s1,λq D j L=>?_⟩;rcases cJ q k with h1|h1
    .have:=r2 q h1 j L;omega
    .rw[show q=k by omega,show iA A k=ins from hins]at L;exact iQ (T:=aP) (p:=λc=>rg'>c) s2 j L
  .rintro x ⟨N,rfl,r0,r1,r2⟩;refine cP (Rl (a! (Vq (ak ?_))));dsimp only;have q3':(g2.2.2.2.2.2.2.2.2:Int)=(bsN p i:Nat)+(oH 3 t.2.2.2:Nat):=q3;refine ⟨by rw[q3',hbs];omega,fV,rfl,rfl,by simp;omega,λj L=>?_⟩;rcases cJ j i with h1|h1
   .rw[Nc (T:=zP) (by rw[e4];exact h1)];exact e5 j h1
   .rw[show j=i by omega,Nb (T:=zP) (by rw[e4];omega),e4,w_];refine ⟨show (1:Int)<=N by omega,r1,show 1<=l! A by omega,show (l! A)<=1000000 by omega,?_,?_,?_,?_,?_⟩
    .show (iA A (l! A-1)).1=28/\(iA A (l! A-1)).2.2.2.2.2= -1;rw[l31,iend];exact⟨rfl,rfl⟩
    .show sB A 0 (l! A-1);rw[l31];exact q2.b.congr λq _ D=>iq q D
    .show ∀q:Nat,q<l! A-1->GI (l! p.2) w.2.2.2.2.2 (i:Int) (iA A q);rw[l31];exact λq D=>by rw[iq q D];exact q2.i q (mf _) D
    .show ∀q:Nat,q<l! A-1->(iA A q).1=10->0<=(iA A q).2.2.1/\(iA A q).2.2.1<(l! A:Int)
     rw[l31];intro q D h10;rw[iq q D]at h10 ⊢;have:=q2.r q (mf _) D h10;omega
    .exact λq D j L=>r2 q (show q<l! A by have D:q<l! A-1:=D;omega) j L
 .rintro⟨⟨a,b⟩,p2,w2,cs⟩ ⟨e0,e1,e2,e3,e4,e5⟩;dsimp only at e0 e1 e2 e3 e4 e5;subst e1 e2 e3;refine cP (ak ?_);have hgc:∀t∈cs,∃k:Nat,GC p2.2.length w2.2.2.2.2.2 (k:Int) t:=iQ (T:=zP) λk hk=>⟨k,e5 k (by omega)⟩
  refine ⟨by dsimp only;omega,λt ht=>?_,λt ht=>?_,hw.x,aah hw.x ?_ ?_⟩
  .obtain⟨k,hk⟩:=hgc t ht;exact hk.u
  .obtain⟨k,hk⟩:=hgc t ht;exact hk.r0
  .dsimp only;rw[e4,hwT]
  .dsimp only;rw[e4];exact e5
def PH (a b:η) (ha:l! a<=9223372036854775807) (D:∀z∈a,0<=z/\z<=255) (N:l! b<=1000000):Ok (xk (a,b)) TR:=by
 refine aw (P:=CB) ?_ λc L=>aw (aat b N) λl hl=>?_
 .unfold An;exact aw (Kv a ha D) λp hp=>aw (UB p hp.1 hp.2) λy A=>ak A
 .exact aw (aua c l L (by omega)) λy A=>ak A
def UA (a b c:η) (n:Int) (n0:0<=n) (n1:n<=1000000) (N:l! a<=9223372036854775807) (D:∀z∈a,0<=z/\z<=255) (L:l! c<=9223372036854775807) (A:∀z∈c,0<=z/\z<=255):Ok (oL ((a,b,c),n)) TR:=by
 refine bP (λ_=>aw (L4 c n L A) λy h=>ak h) λ_=>?_
 have h0:0<=Kz (aS (l! b)) n/\Kz (aS (l! b)) n<=(l! b:Int)/\Kz (aS (l! b)) n<=n:=by
  unfold Kz;split
  next h=>rw[rZ]at h;dsimp [ay]at h;exact⟨n0,by omega,dg _⟩
  next h=>have h:=ja.1 (Sl.2 h);dsimp [ay]at h ⊢;exact⟨by omega,dg _,h⟩
 refine cF (dj h0.1 (dj h0.2.1 ?_));have h1:l! (dW (aM (Kz (aS (l! b)) n)) b)<=1000000:=by grind
 exact aw (PH a _ N D h1) λy h=>ak h
def ahe (P:Program) (f:Ty->TypeId->Bool):Y Field->Nat->Ty->Bool
 |[],_,.un=>J
 |[x],off,T=>aB x.offset off&&f T x.type&&aB (P.cellsOf x.type) T.size
 |x::y::r,off,.pr a b=>aB x.offset off&&f a x.type&&aB (P.cellsOf x.type) a.size&&ahe P f (y::r) (off+a.size) b
 |_,_,_=>af
def ady (P:Program) (f:Ty->TypeId->Bool) (e:TypeId):Nat->Ty->Bool
 |1,T=>f T e&&aB (P.cellsOf e) T.size
 |m+2,.pr a b=>f a e&&aB (P.cellsOf e) a.size&&ady P f e (m+1) b
 |_,_=>af
def EK (P:Program):Nat->Ty->TypeId->Bool
 |0,_,_=>af
 |n+1,T,t=>match T,P.underlying t with
  |.int k,Z (.int z)=>k==z
  |.bool,Z .bool=>J
  |.str,Z .string=>J
  |.sl y,Z (.slice e)=>EK P n y e&&aB (P.cellsOf e) y.size&&eH 0 y.size
  |.st y,Z (.struct A)=>ahe P (EK P n) A.toList 0 y&&aB (P.cellsOf t) y.size
  |.st y,Z (.array m e)=>ady P (EK P n) e m y&&aB (P.cellsOf t) y.size
  |_,_=>af
def wfT:(T:Ty)->T.den->Prop
 |.int k,n=>(Lit.int k n).wf=J
 |.str,s=>aj s<=maxLen
 |.sl y,xs=>aj xs<=maxLen/\∀x∈(xs:Y y.den),wfT y x
 |.st t,v=>wfT t v
 |.pr a b,v=>wfT a v.1/\wfT b v.2
 |_,_=>True
def O2 (W:World) (T:Ty) (x:T.den) (cs:ξ):Prop:=l! cs=T.size/\∀(j:Nat) y v,(bM T x)[j]? =Z y->cs[j]? =Z v->nK (λ_=>False) W y v
def OG (z:R) (P:Nat->R->Prop):∀n:Nat,(∀i,i<n->∃a,P i a)->∃l:Y R,l! l=n/\∀i x,l[i]? =Z x->P i x
 |0,_=>⟨[],rfl,λi x h=>by simp at h⟩
 |n+1,h=>by
  let⟨l,A,hp⟩:=OG z P n (λi hi=>h i (by omega));let⟨a,L⟩:=h n (by omega);refine ⟨l++[a],by simp[A],λi x D=>?_⟩
  grind
def Addr.add_plain {a:Addr} (h:a.spot=U) (n:Nat):a.add n=⟨a.block,a.off+n,U⟩:=by
 unfold Addr.add;split
 next h0=>subst h0;cases a;subst h;rfl
 .rfl
variable {v:Value}
def afz {w:World} {a:Addr} (h:w.cell? a=Z v):a.spot=U:=by
 unfold Sj at h;split at h
 .simp_all
 .cases h
variable {T:Ty} {L:ξ}
def O2.sub {W:World} {x:T.den} {n:Nat} (h:O2 W T x ((L.drop i).take n)) (D:n=T.size) (cs:i+n<=l! L):∀(j:Nat) y v,(bM T x)[j]? =Z y->L[i+j]? =Z v->nK (λ_=>False) W y v:=λj y v z A=>by
 refine h.2 j y v z ?_;have N:j<T.size:=by have:=(bz.1 z).1;rwa [bu]at this
 grind
section
variable {H:Type} {enc:TypeId×Value->H} {P:Program} {W:World} {base:Nat} {sp:Nat->Bool} {hd:Bool}
def abf {f:Ty->TypeId->Bool} {m:Nat} (ih:∀(T:Ty) (t:TypeId) (cs:ξ) x,f T t=J->DataW.trod enc P W base sp hd m t cs=Z x->∃v,O2 W T v cs/\wfT T v) (cs:ξ) (ts:Y (DataW H×Y MemPlace)):
 ∀(fs:Y Field) (off k:Nat) (T:Ty),ahe P f fs off T=J->off+T.size<=l! cs->(∀(i:Nat) (fl:Field),fs[i]? =Z fl->∃z,DataW.trod enc P W base sp hd m fl.type ((cs.drop fl.offset).take (P.cellsOf fl.type))=Z z)->
 ∃v,(∀(j:Nat) y u,(bM T v)[j]? =Z y->cs[off+j]? =Z u->nK (λ_=>False) W y u)/\wfT T v
 |[],off,k,.un,_,_,_=>⟨(),λj y u L=>by simp[bM]at L,trivial⟩
 |[x],off,k,T,h,hl,N=>by
  simp only[ahe,au]at h;let⟨⟨h1,h2⟩,D⟩:=h;have h1:=av h1;have D:=av D;let⟨z,hz⟩:=N 0 x rfl;let⟨v,A,hw⟩:=ih T _ _ _ h2 hz;rw[h1]at A;exact⟨v,A.sub D (by omega),hw⟩
 |x::x'::r,off,k,.pr a b,h,hl,N=>by
  simp only[ahe,au]at h;let⟨⟨⟨h1,h2⟩,D⟩,h4⟩:=h;have h1:=av h1;have D:=av D;simp[Ty.size]at hl;let⟨z,hz⟩:=N 0 x rfl;let⟨v,A,hw⟩:=ih a _ _ _ h2 hz;rw[h1]at A;have A:=A.sub D (by omega);let⟨v',hv',hw'⟩:=abf ih cs ts (x'::r) (off+a.size) (k+1) b h4 (by omega) (λi fl hi=>N (i+1) fl (by grind));refine ⟨(v,v'),λj y u L hu=>?_,hw,hw'⟩;simp[bM]at L;by_cases hj:j<a.size
  .rw[bT (by rw[bu];exact hj)]at L;exact A j y u L hu
  .rw[cj (by rw[bu];omega),bu]at L
   grind
variable {s:TypeId}
def abg {f:Ty->TypeId->Bool} {m:Nat} (N:∀(T:Ty) (t:TypeId) (cs:ξ) x,f T t=J->DataW.trod enc P W base sp hd m t cs=Z x->∃v,O2 W T v cs/\wfT T v) (cs:ξ):
 ∀(n i:Nat) (T:Ty),ady P f s n T=J->i*P.cellsOf s+T.size<=l! cs->(∀j,j<n->∃z,DataW.trod enc P W base sp hd m s ((cs.drop ((i+j)*P.cellsOf s)).take (P.cellsOf s))=Z z)->
 ∃v,(∀(j:Nat) y u,(bM T v)[j]? =Z y->cs[i*P.cellsOf s+j]? =Z u->nK (λ_=>False) W y u)/\wfT T v
 |0,i,T,h,_,_=>by cases h
 |1,i,T,h,hl,L=>by
  simp only[ady,au]at h;have h3:=av h.2;let⟨z,hz⟩:=L 0 (by omega);let⟨v,A,hw⟩:=N T _ _ _ h.1 hz;rw[dG]at A;exact⟨v,A.sub h3 (by omega),hw⟩
 |n+2,i,T,h,hl,L=>by
  cases T with
  |pr a b=>
   simp only[ady,au]at h;let⟨⟨h1,h2⟩,h4⟩:=h;have h3:=av h2;simp[Ty.size]at hl;let⟨z,hz⟩:=L 0 (by omega);let⟨v,A,hw⟩:=N a _ _ _ h1 hz;rw[dG]at A;have A:=A.sub h3 (by omega);let⟨v',hv',hw'⟩:=abg N cs (n+1) (i+1) b h4 (by grind) (λj hj=>by have:=L (j+1) (by omega);rwa [show i+(j+1)=i+1+j from by omega]at this);refine ⟨(v,v'),λj y u D hu=>?_,hw,hw'⟩;simp[bM]at D;by_cases hj:j<a.size
   .rw[bT (by rw[bu];exact hj)]at D;exact A j y u D hu
   .rw[cj (by rw[bu];omega),bu]at D
    grind
  |_=>unfold ady at h;cases h
def Lv:∀(n:Nat) (T:Ty) (t:TypeId) (fuel:Nat) (cs:ξ) x,EK P n T t=J->(∀b,sp b=J)->DataW.trod enc P W base sp hd fuel t cs=Z x->∃v,O2 W T v cs/\wfT T v
 |0,_,_,_,_,_,h,_,_=>by unfold EK at h;cases h
 |n+1,T,t,fuel,cs,x,h,hsp,ht=>by
  unfold EK at h;split at h
  .rename_i k k' N;have hk:=eq_of_beq h;subst hk;obtain⟨m,rfl,_,hw⟩:=DataW.trod_int N ht;refine ⟨m,⟨rfl,λj y v z L=>?_⟩,hw⟩;cases j with
   |zero=>simp[bM]at z L;subst z L;exact .raw _
   |succ j=>simp[bM]at z
  .rename_i N;obtain⟨b,rfl,_⟩:=DataW.trod_bool N ht;refine ⟨b,⟨rfl,λj y v z L=>?_⟩,trivial⟩;cases j with
   |zero=>simp[bM]at z L;subst z L;exact .raw _
   |succ j=>simp[bM]at z
  .rename_i N;obtain⟨s,rfl,_,hs⟩:=DataW.trod_string N ht;refine ⟨s.data.toList,⟨rfl,λj y v z L=>?_⟩,by simpa[wfT] using hs⟩;cases j with
   |zero=>simp[bM]at z L;subst z L;exact .raw _
   |succ j=>simp[bM]at z
  .rename_i A e N;simp only[au]at h;let⟨⟨h1,h2⟩,h3⟩:=h;have h2:=av h2;have h3:0<A.size:=aX h3;rcases Go.Deep.open_slice N ht with ⟨rfl,_⟩|⟨a,len,cap,m,k,D,Pl,rfl,hb,hl,hm,hmm,_,hi⟩
   .refine ⟨[],⟨rfl,λj y v z L=>?_⟩,by simp[wfT]⟩;cases j with
    |zero=>simp[bM]at z L;subst z L;exact .nil _ _ (by unfold maxLen;omega)
    |succ j=>simp[bM]at z
   .rw[hsp,aE rfl]at hmm;rw[h2]at hi;let⟨xs,hx1,hx2⟩:=OG A.zero (λi (v:A.den)=>∃cs',W.cells? base (a.add (i*A.size)) A.size=Z cs'/\O2 W A v cs'/\wfT A v) len (λi hil=>by
     let⟨cs',hc,htt⟩:=hi i (by omega);let⟨v,L,hw⟩:=Lv n A e k cs' _ h1 hsp htt;exact⟨v,cs',hc,L,hw⟩)
    refine ⟨xs,⟨rfl,λj y v z L=>?_⟩,by show aj xs<=maxLen;omega,λy z=>?_⟩
    .cases j with
     |succ j=>simp[bM]at z
     |zero=>
      simp[bM]at z L;subst z L;by_cases h0:len=0
      .have:xs=[]:=dF.1 (by omega);subst this h0;exact .nil _ _ hm
      .obtain⟨x0,hx0⟩:∃x0,xs[0]? =Z x0:=⟨xs[0]'(by omega),aH (by omega)⟩
       let⟨cs0,hc0,_⟩:=hx2 0 x0 hx0;let⟨_,hcl0,hat0⟩:=World.cells?_some hc0;have hca:=hat0 0 h3;rw[aH (by omega)]at hca;have hspot:a.spot=U:=by
        have:=afz hca;simpa[Addr.add] using this
       have hblk:=World.block_lt_of_cell? W _ hca;rw[Nat.zero_mul,Addr.add_plain hspot,Addr.add_plain rfl]at hca hblk;have hcell:∀(i j:Nat) x,xs[i]? =Z x->j<A.size->∃cs',W.cell? ⟨a.block,a.off+(i*A.size+j),U⟩=cs'[j]? /\j<l! cs'/\O2 W A x cs':=λi j x hx hj=>by
        let⟨cs',hc,hr,_⟩:=hx2 i x hx;let⟨_,hcl,hat⟩:=World.cells?_some hc;have:=hat j hj;rw[Addr.add_plain hspot,Addr.add_plain rfl,uH]at this;exact⟨cs',this,by omega,hr⟩
       have hflat:∀j,j<l! xs*A.size->∃x,xs[j/A.size]? =Z x/\j%A.size<A.size/\j=j/A.size*A.size+j%A.size:=λj hj=>by
        have h5:j/A.size<l! xs:=Nat.div_lt_of_lt_mul (by rw[Nat.mul_comm];exact hj);exact⟨xs[j/A.size],aH h5,Nat.mod_lt _ h3,by rw[Nat.mul_comm];exact (Nat.div_add_mod j A.size).symm⟩
       have hlen:l! (List.flatMap (bM A) xs)=l! xs*A.size:=fw (bu A) xs;let⟨ab,ao,az⟩:=a;cases hspot;rw[<- hx1];refine .sl (List.flatMap (bM A) xs) (l! xs) cap ab ao (λj=>(W.cell? ⟨ab,ao+j,U⟩).getD undef) (by omega) hm (λh=>h) hblk (l9 A xs) (λj hj=>?_) (λj y z=>?_)
       .obtain⟨x,hx,hjs,hje⟩:=hflat j (by omega);let⟨cs',g1,g2,_⟩:=hcell _ _ x hx hjs;rw[<- hje]at g1;simp only[g1,aH g2,Option.getD_some]
       .have hj:j<l! xs*A.size:=by rw[<- hlen];exact (bz.1 z).1
        let⟨x,hx,hjs,hje⟩:=hflat j hj;let⟨cs',g1,g2,g3⟩:=hcell _ _ x hx hjs;rw[<- hje]at g1;simp only[g1];rw[aH g2];refine g3.2 (j%A.size) y _ ?_ (aH g2);let⟨r,hr⟩:=Iu (bu A) xs (j/A.size) x hx;have:((List.flatMap (bM A) xs).drop (j/A.size*A.size))[j%A.size]? =Z y:=by rw[tF,<-hje];exact z
        rw[hr,bT (by rw[bu];exact hjs)]at this;exact this
    .obtain⟨i,hi'⟩:=gi z;let⟨_,_,_,hw⟩:=hx2 i y hi';exact hw
  .rename_i A fs N;simp only[au]at h;have h2:=av h.2;obtain⟨xs,m,rfl,_,hl,hxl,hg⟩:=DataW.trod_struct N ht;let⟨v,L,hw⟩:=abf (f:=EK P n) (m:=m) (λT t cs x h1 h2=>Lv n T t m cs x h1 hsp h2) cs xs fs.toList 0 0 A h.1 (by omega) (λi fl hi=>by
    have hi':fs[i]? =Z fl:=by simpa using hi
    have:=hg i fl hi';have hlt:i<l! xs:=by rw[hxl];exact (dC.1 hi').1
    rw[aH hlt]at this;exact⟨_,this⟩)
   exact⟨v,⟨by rw[hl,h2];rfl,λj y u z N=>L j y u z (by rw[b9];exact N)⟩,hw⟩
  .rename_i A m e N;simp only[au]at h;have h2:=av h.2;obtain⟨xs,q,rfl,_,hl,hxl,hg⟩:=DataW.trod_array N ht;let⟨v,L,hw⟩:=abg (f:=EK P n) (m:=q) (λT t cs x h1 h2=>Lv n T t q cs x h1 hsp h2) cs m 0 A h.1 (by omega) (λj hj=>by
    have:=hg j hj;rw[aH (by omega)]at this;rw[b9];exact⟨_,this⟩)
   exact⟨v,⟨by rw[hl,h2];rfl,λj y u z N=>L j y u z (by rw[Nat.zero_mul,b9];exact N)⟩,hw⟩
  .cases h
def Vs {t:TypeId} {r:Reach} (z:EK P i T t=J) (h1:T.one=J) (h:Lg P W r j t v):v.cells.toList=[v]:=by
 cases i with
 |zero=>unfold EK at z;cases z
 |succ i=>
  unfold EK at z;unfold Lg at h;cases v with
  |agg cs=>
   split at z<;>rename_i A<;>first|(rw [A]at h;simp[]at h;unfold Cell.okWide at h;rw[A]at h;unfold Cell.ok at h;rw[A]at h;simp at h)|cases h1|cases z
  |_=>rfl
def YQ {t:TypeId} {r:Reach} (z:EK P i T t=J) (h1:T.one=af) (h:Lg P W r j t v):∃cs,v= .agg cs:=by
 cases i with
 |zero=>unfold EK at z;cases z
 |succ i=>
  unfold EK at z;unfold Lg at h;split at z<;>rename_i A<;>first|(rw [A]at h;let⟨cs,h,_⟩:=h;exact⟨cs,h⟩)|cases h1|cases z
def open_arg {n:Nat} {t:TypeId} {d:DataW H} {D:Y MemPlace} {r:Reach} (A:EK P n T t=J) (hsp:∀b,sp b=J) (hok:Lg P W r i t v) (h:DataW.Trod enc P W base sp hd t v d D):∃x,nK (λ_=>False) W (gy T x) v/\wfT T x:=by
 let⟨fuel,hf⟩:=h;let⟨x,z,N⟩:=Lv n T t fuel _ _ A hsp hf;refine ⟨x,?_,N⟩;by_cases h1:T.one=J
 .obtain⟨e1,e2⟩:=NC T x h1;exact z.2 0 _ v (by grind) (by rw[Vs A h1 hok];rfl)
 .obtain⟨cs,rfl⟩:=YQ A (by grind) hok;rw[ux T x (by grind)];have hl:l! cs.toList=l! (bM T x):=by rw[bu];exact z.1
  have:=nK.agg (O:=λ_=>False) (w:=W) (bM T x) cs.toList hl (oZ T x) (λj y u L hu=>z.2 j y u L hu);simpa using this
end
def UO {w:WT} {l:Y ET} (tr:TR (w,l)) {H:WkH} (z:HK w l H):Ok (rL (w,l)) λy=>y.2=0/\∃tm la sp wa wt st se op re ar si ei,WkG w l (l! l) y.1 tm la sp wa wt st se op re ar si ei/\H (l! l) y.1 tm la sp wa wt st se op re ar si ei:=by
 unfold rL jK;refine aZ (avx tr) (jP (aw (af7 tr z) ?_));rintro y ⟨c,tm,la,sp,wa,wt,st,se,op,re,ar,si,ei,rfl,g,h⟩;exact ak ⟨rfl,tm,la,sp,wa,wt,st,se,op,re,ar,si,ei,g,h⟩
abbrev tQ:Ty:=.pr aP (.pr aP (.pr aP .bool))
def ad2 (h:(Lit.int .u8 a).wf=J):0<=a/\a<=255:=⟨bL (wN.1 h).1,bL (wN.1 h).2⟩
def ND {w:WT} {l:Y ET} (tr:TR (w,l)) (h:i<l! l):(eN l i).1=(fc l i:Int):=by
 have:0<=(eN l i).1:=(tr.ev _ (pC h)).t0;unfold fc;omega
abbrev zN:Type:=Q?
def clS (e:ET) (i:Int) (s:zN):zN:=if s.1=e.1/\s.2.2.1<0 then (s.1,s.2.1,i,s.2.2.2) else s
def lb (w:WT) (l:Y ET) (lk:Int):Nat->Y zN
 |0=>[]
 |i+1=>(if fA w (eN l i)=lk then (lb w l lk i).map (clS (eN l i) (i:Int)) else lb w l lk i)++(if mS w (eN l i)=lk then [((eN l i).1,(i:Int),-1,decide ((eN l i).2.1=8))] else [])
def Fy {w:WT} {l:Y ET} {s:zN} (h:s∈lb w l a (i+1)):(mS w (eN l i)=a/\s=((eN l i).1,(i:Int),-1,decide ((eN l i).2.1=8)))\/
 (s∈lb w l a i/\¬(fA w (eN l i)=a/\s.1=(eN l i).1/\s.2.2.1<0))\/∃r,(s.1,s.2.1,r,s.2.2.2)∈lb w l a i/\r<0/\fA w (eN l i)=a/\s.1=(eN l i).1/\s.2.2.1=(i:Int):=by
 rcases bO.1 h with h|h
 .refine .inr ?_;by_cases z:fA w (eN l i)=a
  .rw[aE z]at h;obtain⟨A,h0,rfl⟩:=cu.1 h;unfold clS
   grind
  .grind
 .grind
structure SeF (w:WT) (l:List ET) (lk:Int) (n:Nat) (s:zN):Prop where
 a0:0<=s.2.1
 a1:s.2.1<(n:Int)
 th:(eN l s.2.1.toNat).1=s.1
 aq:mS w (eN l s.2.1.toNat)=lk
 r:s.2.2.1= -1\/(s.2.1<s.2.2.1/\s.2.2.1<(n:Int)/\(eN l s.2.2.1.toNat).1=s.1/\fA w (eN l s.2.2.1.toNat)=lk)
def rz (w:WT) (l:Y ET) (lk:Int):∀(n:Nat) (s:zN),s∈lb w l lk n->SeF w l lk n s
 |0,s,h=>by cases h
 |n+1,s,h=>by
  rcases Fy h with ⟨h1,rfl⟩|⟨h1,_⟩|⟨r,h1,r0,D,A,z⟩
  .exact⟨by dsimp only;omega,by dsimp only;omega,by dsimp only;rw[a8],by dsimp only;rw[a8];exact h1,.inl rfl⟩
  .obtain⟨a,b,c,d,e⟩:=rz w l lk n s h1;refine ⟨a,by omega,c,d,?_⟩
   grind
  .obtain⟨a,b,c,d,e⟩:=rz w l lk n _ h1;dsimp only at a b c d;refine ⟨a,by omega,c,d,.inr ⟨by omega,by omega,?_,?_⟩⟩
   .grind
   .grind
def atS (m:Nat) (s:zN):zN:=(s.1,s.2.1,if 0<=s.2.2.1/\s.2.2.1<(m:Int) then s.2.2.1 else -1,s.2.2.2)
def C7 {w:WT} {l:Y ET} :∀{n:Nat} {s:zN},s∈lb w l a n->∀{m:Nat},m<=n->s.2.1<(m:Int)->atS m s∈lb w l a m
 |0,s,h,_,_,_=>by cases h
 |n+1,s,h,m,hm,z=>by
  by_cases e:m=n+1
  .subst e;have f:=rz w l a _ s h;have:atS (n+1) s=s:=by
    unfold atS;rcases f.r with g|⟨g1,A,_⟩
    .grind
    .have:=f.a0;rw[aE ⟨by omega,A⟩]
   rw[this];exact h
  .rcases Fy h with ⟨h1,rfl⟩|⟨h1,_⟩|⟨r,h1,r0,N,L,D⟩
   .dsimp only at z;omega
   .exact C7 h1 (by omega) z
   .have:=C7 h1 (show m<=n by omega) z;unfold atS at this ⊢
    grind
def Uv (w:WT) (s:SY) (t k o u:Int):(ph w s t k o u).1.1=if k=6\/k=10 then YO s.1 o t else if k=7\/k=11 then YO s.1 o (-1) else if k=8 then rdP s.1 o (yo (geti ec s.1 o).2 [t]) else if k=9 then rdP s.1 o (wo (geti ec s.1 o).2 t) else if k=16 then YO s.1 (PF w o) (-1) else if k=17 then YO s.1 (PF w o) t else s.1:=by
 cases kdI k
 case no h _=>simp[ph,h,dV,false_or]
 all_goals (simp [ph,c8,bq,dV,fG,false_or];try (split<;>rfl))
def Rq {w:WT} {z:SY} {t o:Int} (en:EN w z t a o) (h:16<=a/\a<=19):0<=PF w o/\PF w o<l! z.1:=by
 let⟨k,b⟩:=en.nm.cd h;rw[en.e1];exact en.cd _ (bI (T:=itK) k b)
def aii {w:WT} {z:SY} {e:ET} (en:EN w z e.1 e.2.1 e.2.2.1) (rd:UK w z e.1 e.2.1 e.2.2.1) {u:Int} (L:0<=a) (N:0<=u) (h:(geti ec z.1 a).1=u) (A:¬(fA w e=a/\u=e.1)):(geti ec (ph w z e.1 e.2.1 e.2.2.1 e.2.2.2.1).1.1 a).1=u:=by
 let⟨t,k,o,v,s,r1,r2⟩:=e;dsimp only at en rd A ⊢;have D:6<=k/\k<=11->0<=o/\o<(l! z.1:Int):=λg=>by rw[en.e1];exact en.nm.lk g
 have ow:∀(i x:Int),0<=i->i<l! z.1->(a=i->x=u)->(geti ec (YO z.1 i x) a).1=u:=λi x h0 h1 hx=>by
  unfold YO;rw[jH _ _ _ _ h0 h1 L]
  grind
 have rr:∀(i:Int) (x:η),0<=i->i<l! z.1->(geti ec (rdP z.1 i x) a).1=u:=λi x h0 h1=>by
  unfold rdP;rw[jH _ _ _ _ h0 h1 L]
  grind
 unfold fA at A;dsimp only at A;rw[Uv];split
 .rename_i g;let⟨lk,b⟩:=D (by omega);have e1:(geti ec z.1 o).1= -1:=rd.aq (by omega)
  grind
 split
 .rename_i g;let⟨lk,b⟩:=D (by omega);refine ow _ _ lk b λq=>?_
  have:=rd.rl g;rw[<- q,h]at this
  grind
 split
 .grind
 split
 .grind
 split
 .rename_i g;let⟨lk,b⟩:=Rq en (by omega);refine ow _ _ lk b λq=>?_
  have:=rd.nt (by omega);have e1:(geti ec z.1 (PF w o)).1=t:=this;rw[<- q,h]at e1;exact bA ⟨by rw[ax (by omega),aE g];exact q.symm,e1⟩ A
 split
 .rename_i g;let⟨lk,b⟩:=Rq en (by omega);refine ow _ _ lk b λq=>?_
  have e1:(geti ec z.1 (PF w o)).1= -1:=(rd.wk g).2.2
  grind
 .exact h
def ai8 {w:WT} {A:SY} {e:ET} (en:EN w A e.1 e.2.1 e.2.2.1) {u:Int} (N:0<=a) (h:u∈(geti ec A.1 a).2) (L:¬(fA w e=a/\u=e.1)):u∈(geti ec (ph w A e.1 e.2.1 e.2.2.1 e.2.2.2.1).1.1 a).2:=by
 let⟨t,k,o,v,s,r1,r2⟩:=e;dsimp only at en L ⊢;have D:6<=k/\k<=11->0<=o/\o<(l! A.1:Int):=λg=>by rw[en.e1];exact en.nm.lk g
 have ow:∀(i x:Int),0<=i->i<l! A.1->u∈(geti ec (YO A.1 i x) a).2:=λi x h0 h1=>by
  unfold YO;rw[jH _ _ _ _ h0 h1 N];split
  next g=>rw[<- g];exact h
  .exact h
 have rr:∀(i:Int) (x:η),0<=i->i<l! A.1->(a=i->u∈x)->u∈(geti ec (rdP A.1 i x) a).2:=λi x h0 h1 hx=>by
  unfold rdP;rw[jH _ _ _ _ h0 h1 N];split
  next g=>exact hx g
  .exact h
 unfold fA at L;dsimp only at L;rw[Uv];split
 .obtain⟨lk,b⟩:=D (by omega);exact ow _ _ lk b
 split
 .obtain⟨lk,b⟩:=D (by omega);exact ow _ _ lk b
 split
 .obtain⟨lk,b⟩:=D (by omega);exact rr _ _ lk b λq=>BN.2 (.inl (q▸h))
 split
 .rename_i g;let⟨lk,b⟩:=D (by omega);refine rr _ _ lk b λq=>List.mem_filter.2 ⟨q▸h,?_⟩
  rw[dm λz=>L ⟨by rw[aE (by omega)];exact q.symm,z⟩];rfl
 split
 .obtain⟨lk,b⟩:=Rq en (by omega);exact ow _ _ lk b
 split
 .obtain⟨lk,b⟩:=Rq en (by omega);exact ow _ _ lk b
 .exact h
def aky {w:WT} {z:SY} {e:ET} (en:EN w z e.1 e.2.1 e.2.2.1) (A:0<=a) (l1:a<l! w.2.1) (h:mS w e=a):if e.2.1=8 then e.1∈(geti ec (ph w z e.1 e.2.1 e.2.2.1 e.2.2.2.1).1.1 a).2 else (geti ec (ph w z e.1 e.2.1 e.2.2.1 e.2.2.2.1).1.1 a).1=e.1:=by
 let⟨t,k,o,v,s,r1,r2⟩:=e;dsimp only at en h ⊢;have N:6<=k/\k<=11->0<=o/\o<(l! z.1:Int):=λg=>by rw[en.e1];exact en.nm.lk g
 unfold mS at h;dsimp only at h;rw[Uv];by_cases g:k=6\/k=8\/k=10
 .rw[aE g]at h;subst h;let⟨lk,b⟩:=N (by omega);by_cases D:k=8
  .rw[aE D,ax (by omega),ax (by omega),aE D];unfold rdP;rw[jH _ _ _ _ lk b A,aE rfl];exact BN.2 (.inr (aC.2 rfl))
  .rw[ax D,aE (by omega)];unfold YO;rw[jH _ _ _ _ lk b A,aE rfl]
 .rw[ax g]at h;by_cases L:k=17
  .rw[aE L]at h;let⟨lk,b⟩:=Rq en (by omega);have e1:PF w o=a:=h;rw[ax (by omega),ax (by omega),ax (by omega),ax (by omega),ax (by omega),ax (by omega),aE L,e1];unfold YO;rw[e1]at lk b;rw[jH _ _ _ _ lk b A,aE rfl]
  .omega
def anh {w:WT} (z:WX w) (h0:0<=a) (h1:a<l! w.2.2.1):(geti tC w.2.1 (PF w a)).2=af:=by
 unfold PF;rw[z.d]at h1 ⊢;rw[z.l];have:a=0:=by have e:Pq.length=1:=rfl;omega
 subst this;rfl
def HN {w:WT} {e:ET} {op:Y d?} {ar:Y WO} {q:Int} (h0:0<=q) (h:q<l! ar):bf (BJ w a e op ar) q=bf (yC w a e op ar) q:=by
 unfold BJ;split
 .exact FU _ (by rw[BR];omega)
 .rfl
def Y3 {k z:ν} (h:k≠z):Ib k z=af:=by
 cases e:Ib k z with
 |true=>exact bA (uQ.1 e) h
 |false=>rfl
def VG (k:ν):Ib k k=J:=uQ.2 rfl
def abq (k:ν) (v:Int):∀op:Y d?,jL k (sG k v op)=J/\c_ k (sG k v op)=v
 |[]=>by simp[sG,jL,c_,VG]
 |e::r=>by
  simp[sG];cases z:Ib k e.1 with
  |true=>simp[jL,c_,VG]
  |false=>
   let⟨a,b⟩:=abq k v r;simp[jL,c_,z,a,b]
def abp {k z:ν} (h:k≠z) (v:Int):∀op:Y d?,jL k (sG z v op)=jL k op/\c_ k (sG z v op)=c_ k op
 |[]=>by simp[sG,jL,c_,Y3 h]
 |e::r=>by
  simp[sG];cases A:Ib z e.1 with
  |true=>
   have:=uQ.1 A;simp[jL,c_,Y3 h,<-this]
  |false=>
   let⟨a,b⟩:=abp h v r;simp[jL,c_,a,b]
def Vv {k z:ν} (h:k≠z):∀op:Y d?,jL k (Ah z op)=jL k op/\c_ k (Ah z op)=c_ k op
 |[]=>⟨rfl,rfl⟩
 |e::r=>by
  simp[Ah];cases A:Ib z e.1 with
  |true=>
   have:=uQ.1 A;simp[jL,c_,<-this,Y3 h]
  |false=>
   let⟨a,b⟩:=Vv h r;simp[jL,c_,a,b]
def De (o k:Int):∀m:Y q!,VD o (uN (K:=.int .i64) (V:=.bool) k J m)=if o=k then J else VD o m
 |[]=>by
  by_cases h:o=k<;>simp[uN,xl,AZ,Po,h]
 |(a,b)::r=>by
  have z:=De o k r;unfold VD xl at z ⊢;by_cases h:k=a
  .subst h;by_cases h':o=k<;>simp[uN,AZ,Po,h']
  .by_cases h':o=a
   .subst h';simp[uN,AZ,Po,h];omega
   .simp only[uN,AZ,Po,dm h,dm h',dV,cZ];exact z
def VB {k:Int} {m:Y q!} (h:VD a m=J):VD a (uN (K:=.int .i64) (V:=.bool) k J m)=J:=by
 rw[De];split
 .rfl
 .exact h
def Ys (P Q:WO):Prop:=∀o:Int,(VD o P.2.2=J->VD o Q.2.2=J)/\(VD o P.2.1=J->VD o Q.2.1=J)
def Ys.rfl {P:WO}:Ys P P:=λ_=>⟨id,id⟩
def Ys.trans {P Q R:WO} (h:Ys P Q) (g:Ys Q R):Ys P R:=λo=>⟨λz=>(g o).1 ((h o).1 z),λz=>(g o).2 ((h o).2 z)⟩
def aoc {ar:Y WO} (e:ET) (z:a.toNat<l! ar) (i:Int):Ys (bf ar i) (bf (Qj ar a e) i):=λo=>by
 rw[Co e i z];by_cases h:i.toNat=a.toNat
 .have:bf ar i=bf ar a:=by unfold bf dO;rw[h]
  rw[aE h,this];split
  .exact⟨VB,id⟩
  .exact⟨id,VB⟩
 .grind
def OV {e:ET} {op:Y d?} {ar:Y WO} (h1:OpI (l! ar) op) (A:∀x∈op,(bf ar x.2).en= -1) (i:Int):∀n m:Nat,Ys (bf (zH e op ar n) i) (bf (zH e op ar (n+m)) i)
 |n,0=>Ys.rfl
 |n,m+1=>by
  refine (OV h1 A i n m).trans ?_;show Ys _ (bf (zH e op ar (n+m+1)) i);by_cases z:jL (e.1,((n+m:Nat):Int)) op=J
  .rw[Hn z];refine aoc e ?_ i;have:=h1 _ (gg _ z);rw[(zG h1 A _).ln];omega
  .rw[Uy z];exact Ys.rfl
def al4 {w:WT} {e:ET} {op:Y d?} {ar:Y WO} (h1:OpI (l! ar) op) (z:∀x∈op,(bf ar x.2).en= -1) (i:Int):Ys (bf ar i) (bf (ng w e op ar) i):=by
 unfold ng;split
 .have:=OV (e:=e) h1 z i 0 (l! w.2.1+1);rw[b9]at this;exact this
 .exact Ys.rfl
def Hld (e:ET) (P:WO):Prop:=(e.2.1=4->VD e.2.2.1 P.2.2=J)/\(e.2.1=3->VD e.2.2.1 P.2.1=J)
def Hld.grw {e:ET} {P Q:WO} (h:Hld e P) (g:Ys P Q):Hld e Q:=⟨λz=>(g _).1 (h.1 z),λz=>(g _).2 (h.2 z)⟩
def al3 {w:WT} {e:ET} {op:Y d?} {ar:Y WO} (h1:OpI (l! ar) op) (D:∀x∈op,(bf ar x.2).en= -1) (hl:i<=l! w.2.1) (A:jL (e.1,(i:Int)) op=J):Hld e (bf (ng w e op ar) (c_ (e.1,(i:Int)) op)):=by
 by_cases z:e.2.1=3\/e.2.1=4
 .have N:=h1 _ (gg _ A);have L:Hld e (bf (zH e op ar (i+1)) (c_ (e.1,(i:Int)) op)):=by
   rw[Hn A];rw[Co e _ (by rw[(zG h1 D _).ln];omega),aE rfl];refine ⟨λg=>?_,λg=>?_⟩
   .rw[aE g];rw[De,aE rfl]
   .rw[ax (by omega)];rw[De,aE rfl]
  unfold ng;rw[aE z];have:=OV (e:=e) h1 D (c_ (e.1,(i:Int)) op) (i+1) (l! w.2.1-i);rw[show i+1+(l! w.2.1-i)=l! w.2.1+1 by omega]at this;exact L.grw this
 .exact⟨λg=>bA (.inr g) z,λg=>bA (.inl g) z⟩
def Acs (l:Y ET) (n:Int) (s:zN) (P:WO):Prop:=∀a:Nat,s.2.1<=(a:Int)->(a:Int)<n->(eN l a).1=s.1->Hld (eN l a) P
def HLk (w:WT) (z:SY) (lk:Nat) (s:zN):Prop:=if lk=l! w.2.1 then z.2.1=s.1 else if s.2.2.2=J then s.1∈(geti ec z.1 (lk:Int)).2/\(geti tC w.2.1 (lk:Int)).2=J else (geti ec z.1 (lk:Int)).1=s.1
def akv (w:WT) (s:SY) (t k o u:Int):(ph w s t k o u).1.2.1=if k=12 then t else if k=13 then -1 else s.2.1:=by
 cases kdI k
 case no h _=>simp[ph,h,dV,false_or]
 all_goals (simp [ph,c8,bq,dV,fG,false_or];try (split<;>rfl))
def ade {w:WT} {z:SY} {e:ET} (en:EN w z e.1 e.2.1 e.2.2.1) (h:mS w e=(l! w.2.1:Int)):e.2.1=12:=by
 unfold mS at h;split at h
 next g=>have:=en.nm.lk (by omega);omega
 split at h
 next g=>let⟨a,b⟩:=Rq en (by omega);have h:PF w e.2.2.1=(l! w.2.1:Int):=h;have:=en.e1;omega
 omega
def amu {w:WT} {e:ET} (h:e.2.1=13):fA w e=(l! w.2.1:Int):=by
 unfold fA;omega
def HLk.new {w:WT} {A:SY} {e:ET} (en:EN w A e.1 e.2.1 e.2.2.1) (L:i<=l! w.2.1) (z:mS w e=(i:Int)) (j:Int):HLk w (ph w A e.1 e.2.1 e.2.2.1 e.2.2.2.1).1 i (e.1,j,-1,decide (e.2.1=8)):=by
 unfold HLk;by_cases D:i=l! w.2.1
 .subst D;rw[aE rfl,akv,aE (ade en z)]
 .rw[ax D];have q:=aky en (show (0:Int)<=(i:Int) by omega) (by omega) z;by_cases k8:e.2.1=8
  .rw[aE k8]at q;rw[aE (bc k8)];have:=en.nm.rw (by omega);unfold mS at z
   grind
  .grind
def HLk.zj {w:WT} {z:SY} {e:ET} (en:EN w z e.1 e.2.1 e.2.2.1) (rd:UK w z e.1 e.2.1 e.2.2.1) {s:zN} (N:0<=s.1) (k:HLk w z i s) (A:¬(fA w e=(i:Int)/\s.1=e.1)):HLk w (ph w z e.1 e.2.1 e.2.2.1 e.2.2.2.1).1 i s:=by
 have D:(0:Int)<=(i:Int):=by omega
 unfold HLk at k ⊢;by_cases L:i=l! w.2.1
 .subst L;rw[aE rfl]at k ⊢;rw[akv];split
  next g=>have:=rd.xb g;omega
  split
  next g=>have:=rd.xe g;exact bA ⟨amu g,by omega⟩ A
  .exact k
 .rw[ax L]at k ⊢;by_cases d:s.2.2.2=J
  .rw[aE d]at k ⊢;exact⟨ai8 en D k.1 A,k.2⟩
  .rw[ax d]at k ⊢;exact aii en rd D N k A
structure ayd (w:WT) (l:List ET) (j:Nat) (lk:Nat) (sy:SY) (op:List (ν×Int)) (ar:List WO) (s:zN):Prop where
 o:jL (s.1,(lk:Int)) op=J
 b:(bf ar (c_ (s.1,(lk:Int)) op)).bg=s.2.1
 d:(bf ar (c_ (s.1,(lk:Int)) op)).rd=s.2.2.2
 a:Acs l (j:Int) s (bf ar (c_ (s.1,(lk:Int)) op))
 k:HLk w sy lk s
structure EndS (l:List ET) (lk:Nat) (re:η) (ar:List WO) (s:zN) (p:Int):Prop where
 m:p∈re
 t:(bf ar p).th=s.1
 q:(bf ar p).lk=(lk:Int)
 b:(bf ar p).bg=s.2.1
 e:(bf ar p).en=s.2.2.1
 d:(bf ar p).rd=s.2.2.2
 a:Acs l (s.2.2.1+1) s (bf ar p)
structure apj (w:WT) (l:List ET) (j:Nat) (lk:Nat) (sy:SY) (op:List (ν×Int)) (re:η) (ar:List WO):Prop where
 o:∀s∈lb w l lk j,s.2.2.1<0->ayd w l j lk sy op ar s
 e:∀s∈lb w l lk j,0<=s.2.2.1->∃p,EndS l lk re ar s p
def akz {w:WT} {l:Y ET} (hw:WX w) {A:SY} {op:Y d?} {ar:Y WO} {e:ET} (en:EN w A e.1 e.2.1 e.2.2.1) (rd:UK w A e.1 e.2.1 e.2.2.1) {s:zN} (h:ayd w l j i A op ar s) (ht:s.1=e.1) (z:mS w e=(i:Int)):False:=by
 have k:=h.k;have t0:=en.t0;unfold HLk at k;by_cases L:i=l! w.2.1
 .subst L;rw[aE rfl]at k;have:=rd.xb (ade en z);omega
 rw[ax L]at k;let⟨t,kd,o,v,si,r1,r2⟩:=e;dsimp only at en rd ht t0;unfold mS at z;dsimp only at z;have neg:∀{x:Int},(geti ec A.1 (i:Int)).1=x->x= -1->s.2.2.2=af->False:=λhx h1 hf=>by grind
 by_cases g:kd=6\/kd=8\/kd=10
 .rw[aE g]at z;subst z;have aq:=rd.aq g;cases D:s.2.2.2 with
  |false=>exact neg aq rfl D
  |true=>
   rw[aE D]at k;rcases g with g|g|g
   .rw[en.nm.mu (.inl g)]at k;cases k.2
   .have:=rd.ra g
    grind
   .have:=rd.wr g
    grind
 .rw[ax g]at z;by_cases N:kd=17
  .rw[aE N]at z;have e1:PF w o=(i:Int):=z;let⟨a,b⟩:=en.nm.cd ⟨by omega,by omega⟩;have mk:=anh hw a b;have wk:(geti ec A.1 (PF w o)).1= -1:=(rd.wk N).2.2;rw[e1]at mk wk;cases D:s.2.2.2 with
   |false=>exact neg wk rfl D
   |true=>rw[aE D,mk]at k;cases k.2
  .omega
def Acs.grw {l:Y ET} {s:zN} {P Q:WO} (h:Acs l a s P) (g:Ys P Q):Acs l a s Q:=λn h0 h1 ht=>(h n h0 h1 ht).grw g
def Acs.succ {l:Y ET} {s:zN} {P Q:WO} (h:Acs l (i:Int) s P) (g:Ys P Q) (z:(eN l i).1=s.1->Hld (eN l i) Q):Acs l ((i:Int)+1) s Q:=λa h0 h1 ht=>by
 by_cases e:a=i
 .subst e;exact z ht
 .exact (h a h0 (by omega) ht).grw g
def X5 {w:WT} {e:ET} (h:mS w e=(i:Int)):e.2.1≠3/\e.2.1≠4:=by
 unfold mS at h
 grind
def asn {w:WT} {e:ET} {op:Y d?} {ar:Y WO} {k:ν} (h1:k≠(e.1,fA w e)) (A:0<=mS w e->k≠(e.1,mS w e)):(jL k (Re w e op ar)=jL k op/\c_ k (Re w e op ar)=c_ k op)/\jL k (xP w e op)=jL k op/\c_ k (xP w e op)=c_ k op:=by
 have z:jL k (xP w e op)=jL k op/\c_ k (xP w e op)=c_ k op:=by
  unfold xP;split
  .exact Vv h1 op
  .exact⟨rfl,rfl⟩
 refine ⟨?_,z⟩;unfold Re;by_cases g:0<=mS w e
 .rw[aE g];let⟨a,b⟩:=abp (A g) (l! ar:Int) (xP w e op)
  grind
 .rw[ax g];exact z
def apj.next {w:WT} {l:Y ET} (tr:TR (w,l)) (hj:j<l! l) (hl:i<=l! w.2.1) {op:Y d?} {re:η} {ar:Y WO} (N:WS j op re ar) (h:apj w l j i (Kk w (l.take j)).1 op re ar):
 apj w l (j+1) i (Kk w (l.take (j+1))).1 (Re w (eN l j) op (ng w (eN l j) op ar)) (yB w (eN l j) op re) (BJ w (j:Int) (eN l j) op (ng w (eN l j) op ar)):=by
 have sc:=tr.sc hj;have en:=sc.en;have rd:=sc.rd;have hsy:(Kk w (l.take (j+1))).1=(ph w (Kk w (l.take j)).1 (eN l j).1 (eN l j).2.1 (eN l j).2.2.1 (eN l j).2.2.2.1).1:=by rw[OW w hj]
 have wx:WX w:=tr.wx;have e0:∀s∈lb w l i j,0<=s.1:=λs hs=>by
  have f:=rz w l i j s hs;have a0:=f.a0;have a1:=f.a1;rw[<- f.th];exact (tr.ev _ (pC (show s.2.1.toNat<l! l by omega))).t0
 rw[hsy];generalize (Kk w (l.take j)).1=sy at*
 generalize he:eN l j=e at*
 have sam:=CS (w:=w) (e:=e) N.op N.oo;have hg:=al4 (w:=w) (e:=e) N.op N.oo;have hh:∀i:Nat,i<=l! w.2.1->jL (e.1,(i:Int)) op=J->Hld e (bf (ng w e op ar) (c_ (e.1,(i:Int)) op)):=λi h1 h2=>al3 N.op N.oo h1 h2
 have ws1:=N.sam sam;have hln:=sam.ln;generalize ng w e op ar=ar1 at*
 have l0:(0:Int)<=(i:Int):=by omega
 refine ⟨λs hs hneg=>?_,λs hs hge=>?_⟩
 .rcases Fy hs with ⟨L,rfl⟩|⟨D,hn⟩|⟨r,D,r0,h2,h3,h4⟩
  .rw[he]at L ⊢;have g0:0<=mS w e:=by omega
   have hO:Re w e op ar1=sG (e.1,(i:Int)) (l! ar1:Int) (xP w e op):=by unfold Re;rw[aE g0,L]
   let⟨p1,p2⟩:=abq (e.1,(i:Int)) (l! ar1:Int) (xP w e op);have A:bf (BJ w (j:Int) e op ar1) (l! ar1:Int)=((e.1,mS w e,(j:Int),-1,decide (e.2.1=8)),[],[]):=by
    unfold BJ;rw[aE g0,<-BR w (j:Int) e op ar1];exact Lw _ _
   refine ⟨by rw[hO];exact p1,by dsimp only;rw[hO,p2,A],by dsimp only;rw[hO,p2,A],?_,?_⟩
   .intro a ha0 ha1 _;dsimp only at ha0;have:a=j:=by omega
    subst this;let⟨k3,k4⟩:=X5 L;rw[he];exact⟨λz=>bA z k4,λz=>bA z k3⟩
   .exact HLk.new en hl L _
  .have O:=h.o s D hneg;rw[he]at hn;have n1:(s.1,(i:Int))≠(e.1,fA w e):=λz=>hn ⟨(Prod.mk.inj z).2.symm,(Prod.mk.inj z).1,hneg⟩
   have n2:0<=mS w e->(s.1,(i:Int))≠(e.1,mS w e):=λ_ z=>akz wx en rd O (Prod.mk.inj z).1 (Prod.mk.inj z).2.symm
   let⟨⟨o1,o2⟩,o3,o4⟩:=asn (op:=op) (ar:=ar1) n1 n2;have hm:=gg _ (o3.trans O.o);rw[o4]at hm;have hr:=ws1.op _ (Fz ws1.ks hm).1;dsimp only at hr;have A:bf (BJ w (j:Int) e op ar1) (c_ (s.1,(i:Int)) op)=bf ar1 (c_ (s.1,(i:Int)) op):=by
    rw[HN hr.1 hr.2];exact SA ws1 hm (j:Int)
   have hd:=sam.hd (c_ (s.1,(i:Int)) op);refine ⟨o1.trans O.o,?_,?_,?_,?_⟩
   .rw[o2,A];show (bf ar1 _).1.2.2.1=_;rw[hd];exact O.b
   .rw[o2,A];show (bf ar1 _).1.2.2.2.2=_;rw[hd];exact O.d
   .rw[o2,A];refine O.a.succ (hg _) λht=>?_
    rw[he]at ht ⊢;have:=hh i (by omega) (by rw[ht];exact O.o);rw[ht]at this;exact this
   .have hr':¬(fA w e=(i:Int)/\s.1=e.1):=λz=>hn ⟨z.1,z.2,hneg⟩
    exact O.k.zj en rd (e0 s D) hr'
  .omega
 .have old:∀{p:Int},p∈re->p∈yB w e op re:=λhp=>by
   unfold yB;split
   .exact eR _ hp
   .exact hp
  rcases Fy hs with ⟨L,rfl⟩|⟨D,hn⟩|⟨r,D,r0,h2,h3,h4⟩
  .dsimp only at hge;omega
  .obtain⟨p,E⟩:=h.e s D hge;let⟨⟨p0,p1⟩,p2⟩:=N.r p E.m;have A:bf (BJ w (j:Int) e op ar1) p=bf ar p:=by
    rw[HN p0 (by omega),rA ws1.op,ax,sam.eq p p2];rintro⟨L,hz⟩;have h1:=ws1.oo _ (gg _ L);have e1:bf ar1 p=bf ar1 (c_ (e.1,fA w e) op):=by unfold bf dO;rw[hz]
    dsimp only at h1;rw[<- e1,sam.eq p p2]at h1;exact p2 h1
   exact⟨p,old E.m,by rw[A];exact E.t,by rw[A];exact E.q,by rw[A];exact E.b,by rw[A];exact E.e,by rw[A];exact E.d,by rw[A];exact E.a⟩
  .have O:=h.o _ D r0;rw[he]at h2 h3;have Oo:=O.o;have Ob:=O.b;have Od:=O.d;have Oa:=O.a;dsimp only at Oo Ob Od Oa;rw[h3]at Oo Ob Od Oa;have L:scQ w e op=J:=by unfold scQ;rw[h2];exact Oo
   have hm:=N.o _ (gg _ Oo);dsimp only at hm;have hd:=sam.hd (c_ (e.1,(i:Int)) op);have A:bf (BJ w (j:Int) e op ar1) (c_ (e.1,(i:Int)) op)=IC (j:Int) (bf ar1 (c_ (e.1,(i:Int)) op)):=by
    rw[HN hm.1.1 (by omega),rA ws1.op,aE ⟨L,by rw[h2]⟩,h2]
   refine ⟨c_ (e.1,(i:Int)) op,by unfold yB;rw[aE L,h2];simp,?_,?_,?_,?_,?_,?_⟩
   .rw[A,h3];show (bf ar1 _).1.1=_;rw[hd];exact hm.2.1
   .rw[A];show (bf ar1 _).1.2.1=_;rw[hd];exact hm.2.2.1
   .rw[A];show (bf ar1 _).1.2.2.1=_;rw[hd];exact Ob
   .rw[A];exact h4.symm
   .rw[A];show (bf ar1 _).1.2.2.2.2=_;rw[hd];exact Od
   .rw[A,h4];have hk:=hh i (by omega) Oo;intro a ha0 ha1 ht;by_cases ej:a=j
    .subst ej;rw[he];exact⟨hk.1,hk.2⟩
    .have:=(Oa a ha0 (by omega) (by dsimp only;rw[ht,h3])).grw (hg _);exact⟨this.1,this.2⟩
def Cnf (x y:ET):Prop:=(x.2.1=3\/x.2.1=4)/\(y.2.1=3\/y.2.1=4)/\x.2.2.1=y.2.2.1/\(x.2.1=4\/y.2.1=4)
def ayb (w:WT) (l:Y ET) (c:Y η) (i:Nat):Prop:=∀lk:Nat,lk<=l! w.2.1->∀P∈lb w l lk i,∀Q∈lb w l lk i,Q.2.2.1<0->Q.1=(eN l i).1->0<=P.2.2.1->P.1≠Q.1->(P.2.2.2&&Q.2.2.2)=af->P.2.2.1<Q.2.1->
 ((∃a:Nat,P.2.1<=(a:Int)/\(a:Int)<=P.2.2.1/\(eN l a).1=P.1/\Cnf (eN l a) (eN l i))->u_ (jc c P.2.2.1) (c.getD i []))/\
 (fA w (eN l i)=(lk:Int)->(jc c P.2.1).getD (fc l P.2.1.toNat) 0<=(c.getD i []).getD (fc l P.2.1.toNat) 0->u_ (jc c P.2.2.1) (c.getD i []))
def HSx (w:WT) (l:Y ET):WkH:=λj c _ _ _ _ _ _ _ op re ar _ _=>(∀lk:Nat,lk<=l! w.2.1->apj w l j lk (Kk w (l.take j)).1 op re ar)/\∀i:Nat,i<j->ayb w l c i
def avr {w:WT} {l:Y ET} (tr:TR (w,l)):HK w l (HSx w l):=by
 refine ⟨⟨λlk _=>⟨λs hs=>(by cases hs),λs hs=>(by cases hs)⟩,λi hi=>bA hi (bN _)⟩,λj c tm la sp wa wt st se op re ar si ei clk hj g h hk=>⟨λlk A=>(h.1 lk A).next tr hj A g.ws,λi hi=>?_⟩⟩;have hcl:=g.ci.k.cl;have gl:∀(x:η) (i:Nat),i<j->(c++[x]).getD i []=c.getD i []:=λx i hi=>by grind
 have gj:∀x:η,(c++[x]).getD j []=x:=λx=>by grind
 have jl_:∀(x:η) (i:Int),0<=i->i<(j:Int)->jc (c++[x]) i=jc c i:=λx i h0 h1=>gl x _ (by omega)
 by_cases e:i=j
 .subst e;intro lk A P N Q L q1 q2 D ne rdn lt;have fP:=rz w l lk i P N;have fQ:=rz w l lk i Q L;have a0:=fP.a0;have a1:=fP.a1;have b1:=fQ.a1;let⟨p,E⟩:=(h.1 lk A).e P N D;have O:=(h.1 lk A).o Q L q1;have Oo:=O.o;have Ob:=O.b;have Od:=O.d;rw[q2]at Oo Ob Od;have hm:=g.ws.o _ (gg _ Oo);dsimp only at hm;have mat:qK (bf ar p) (bf ar (c_ ((eN l i).1,(lk:Int)) op))=J:=by
   unfold qK;rw[E.q,hm.2.2.1,E.t,hm.2.1,E.d,Od,E.e,Ob,rdn,bc rfl,dm (by omega),rZ.2 lt];rfl
  have en':jc c (bf ar p).en=jc c P.2.2.1:=by rw[E.e]
  rw[gj,jl_ _ _ D (by omega),jl_ _ _ a0 a1];refine ⟨?_,λhr hle=>?_⟩
  .rintro⟨a,c0,c1,c2,ka,ki,ko,kk⟩;have:=hk.jr.b ki (lk:Int) (by omega) (by omega) Oo p E.m mat ?_
   .rw[en']at this;exact this.trans (LW _ _)
   .have hh:=E.a a c0 (by omega) c2;unfold Un;rcases ka with k3|k4
    .have k4:(eN l i).2.1=4:=by omega
     have:=hh.2 k3
     grind
    .have:=hh.1 k4
     grind
  .have tne:fc l P.2.1.toNat≠fc l i:=λz=>ne (by
    have x1:=(tr.ev _ (pC (show P.2.1.toNat<l! l by omega))).t0;have x2:=(tr.ev _ (pC hj)).t0;unfold fc at z;rw[<- fP.th,q2];dsimp only at x1 x2;omega)
   rw[EL,ax tne]at hle;have:=hk.jr.c (by grind) p E.m (by grind) (by rw[E.b];exact (g.ci.cvr a0 a1 clk).2 hle);rw[E.e]at this;have:=(g.ci.cvr D (by omega) clk).1 this;exact (hk.jc.cl P.2.2.1.toNat (by omega) this).trans (LW _ _)
 .have h2:=h.2 i (by omega);intro lk A P N Q L q1 q2 D ne rdn lt;have fP:=rz w l lk i P N;have fQ:=rz w l lk i Q L;have:=h2 lk A P N Q L q1 q2 D ne rdn lt;have b1:=fQ.a1;rw[gl _ _ (by omega),jl_ _ _ D (by omega),jl_ _ _ fP.a0 (by have:=fP.a1;omega)];exact this
def al2 (w:WT) (e:ET):Int:=if e.2.1=6\/e.2.1=8\/e.2.1=10 then e.2.2.1 else if e.2.1=17 then PF w e.2.2.1 else -1
def ai5 (w:WT) (e:ET):Int:=if e.2.1=7\/e.2.1=9\/e.2.1=11 then e.2.2.1 else if e.2.1=16 then PF w e.2.2.1 else -1
def al1 (w:WT) (e:ET) (A:0<=a) (z:a<l! w.2.1):al2 w e=a↔mS w e=a:=by
 unfold al2 mS PF;repeat' split
 all_goals first|exact Iff.rfl|omega
def ai4 (w:WT) (e:ET) (A:0<=a) (z:a<l! w.2.1):ai5 w e=a↔fA w e=a:=by
 unfold ai5 fA PF;repeat' split
 all_goals first|exact Iff.rfl|omega
def adm {w:WT} (h0:0<=a) (h1:a<l! w.2.2.1):qC (w,a)=Z (PF w a):=by
 let⟨w1,N,L,D,A,z⟩:=w;refine cI ?_;refine aV (λx=>x=(af,w1,N,L,D,A,z)) ?_ ?_
 .refine bP (λg=>(by omega)) λ_=>ak ?_
  rw[aqw (by omega)]
 .rintro x rfl;exact jP (bH (ak rfl))
def azz {w:WT} {e:ET} (hev:Ht w e):pM (w,e)=Z (al2 w e,decide (e.2.1=8)):=by
 refine cI ?_;let⟨nm,t0,t1,cd⟩:=hev;let⟨t,k,o,v,s,r1,r2⟩:=e;dsimp only at nm t0 t1;have mu:k=17->qC (w,o)=Z (PF w o):=λg=>adm (nm.cd ⟨by omega,by omega⟩).1 (nm.cd ⟨by omega,by omega⟩).2
 let⟨w1,N,L,D,A,z⟩:=w;unfold pM al2 bk bD bQ cS eV eh w9 bm aI;refine aV (λx=>x=(decide (k=6\/k=10),(w1,N,L,D,A,z),t,k,o,v,s,r1,r2)) ?_ ?_
 .refine aK (λg=>ak ?_) λg=>ak ?_
  .grind
  .grind
 .rintro x rfl;dsimp only;refine aK (λg=>ak ?_) λg1=>?_
  .have g:k=6\/k=10:=g;rw[aE (by omega),dm (by omega)]
  refine aK (λg=>ak ?_) λg2=>?_
  .grind
  rw[ax (by omega),dm g2];refine aK (λg=>?_) λg3=>ak ?_
  .have g:k=17:=g;rw[aE g];exact aZ (mu g) (ak rfl)
  .grind
def ayc {w:WT} {e:ET} (hev:Ht w e):pL (w,e)=Z (ai5 w e,decide (e.2.1=9)):=by
 refine cI ?_;let⟨nm,t0,t1,cd⟩:=hev;let⟨t,k,o,v,s,r1,r2⟩:=e;dsimp only at nm t0 t1;have mu:k=16->qC (w,o)=Z (PF w o):=λg=>adm (nm.cd ⟨by omega,by omega⟩).1 (nm.cd ⟨by omega,by omega⟩).2
 let⟨w1,N,L,D,A,z⟩:=w;unfold pL ai5 bk bD bQ cS eV eh w9 bm aI;refine aV (λx=>x=(decide (k=7\/k=11),(w1,N,L,D,A,z),t,k,o,v,s,r1,r2)) ?_ ?_
 .refine aK (λg=>ak ?_) λg=>ak ?_
  .grind
  .grind
 .rintro x rfl;dsimp only;refine aK (λg=>ak ?_) λg1=>?_
  .have g:k=7\/k=11:=g;rw[aE (by omega),dm (by omega)]
  refine aK (λg=>ak ?_) λg2=>?_
  .grind
  rw[ax (by omega),dm g2];refine aK (λg=>?_) λg3=>ak ?_
  .have g:k=16:=g;rw[aE g];exact aZ (mu g) (ak rfl)
  .grind
section ml
variable {α:Type} {f:α->α} {S:Y α} {k:Nat}
def awv (z:k<=l! S):l! ((S.take k).map f)=k:=by simp;omega
def asy (z:k<=l! S):l! ((S.take k).map f++S.drop k)=l! S:=by rw[bC,awv z,sD];omega
def asz (d:α) (z:k<l! S):((S.take k).map f++S.drop k).getD k d=S.getD k d:=by grind
def asx (d:α) (z:k<l! S):((S.take k).map f++S.drop k).set k (f (S.getD k d))=(S.take (k+1)).map f++S.drop (k+1):=by
 have h1:=awv (f:=f) (Lk z);rw[List.set_append_right _ _ (by omega),h1,w_,sR d z,cr,iT,Q1 z];rfl
def aww (d:α) (z:k<l! S) (h:f (S.getD k d)=S.getD k d):(S.take (k+1)).map f++S.drop (k+1)=(S.take k).map f++S.drop k:=by
 rw[sR d z,cr,iT,Q1 z]
 grind
end ml
def Pe (x:ET):qT x=Z (decide (x.2.1=3\/x.2.1=4)):=by
 refine cI ?_;refine aV (λz=>z=decide (x.2.1=3\/x.2.1=4)) ?_ (by rintro z rfl;exact ak rfl);refine aK (λg=>ak ?_) λg=>ak ?_
 .grind
 .grind
def enB (l:Y ET) (q:zN):Nat:=if q.2.2.1<0 then l! l else q.2.2.1.toNat+1
def Lkd (l:Y ET) (cs:Y η) (p q:zN):Prop:=∃a b:Nat,(p.2.1<=(a:Int)/\(a:Int)<=p.2.2.1/\(eN l a).1=p.1)/\(q.2.1<=(b:Int)/\b<enB l q/\(eN l b).1=q.1)/\(ct l (fc l a) (a+1):Int)<=(cs.getD b []).getD (fc l a) 0
structure api (w:WT) (l:List ET) (cs:List η) (p q:zN):Prop where
 cf:∀a b:Nat,(p.2.1<=(a:Int)/\(a:Int)<=p.2.2.1/\(eN l a).1=p.1)->(q.2.1<=(b:Int)/\b<enB l q/\(eN l b).1=q.1)->Cnf (eN l a) (eN l b)->u_ (jc cs p.2.2.1) (cs.getD b [])
 lk:0<=q.2.2.1->Lkd l cs p q->u_ (jc cs p.2.2.1) (jc cs q.2.2.1)
def atc {w:WT} {l:Y ET} {q:zN} (h:SeF w l a (l! l) q):enB l q<=l! l:=by
 unfold enB;rcases h.r with h|⟨h1,z,_⟩
 .grind
 .grind
def amq {w:WT} {l:Y ET} {cs:Y η} {tm:Y ν} {la:η} (ci:CI w l (l! l) cs tm la) (h:∀lk:Nat,lk<l! l->ayb w l cs lk) (hl:i<=l! w.2.1) {p q:zN} (hp:p∈lb w l (i:Int) (l! l)) (hq:q∈lb w l (i:Int) (l! l)) (ne:p.1≠q.1) (rd:(p.2.2.2&&q.2.2.2)=af) (p0:0<=p.2.2.1) (le:p.2.2.1<=q.2.1):api w l cs p q:=by
 have fp:=rz w l i _ p hp;have D:=rz w l i _ q hq;have hB:=atc D;rcases fp.r with hr|⟨r1,r2,r3,r4⟩
 .omega
 have lt:p.2.2.1<q.2.1:=by
  rcases Int.lt_or_eq_of_le le with h|h
  .exact h
  .rw[h,D.th]at r3;exact bA r3.symm ne
 have N:∀b:Nat,q.2.1<(b:Int)->b<enB l q->(eN l b).1=q.1->((∃a:Nat,p.2.1<=(a:Int)/\(a:Int)<=p.2.2.1/\(eN l a).1=p.1/\Cnf (eN l a) (eN l b))->u_ (jc cs p.2.2.1) (cs.getD b []))/\(fA w (eN l b)=(i:Int)->(jc cs p.2.1).getD (fc l p.2.1.toNat) 0<=(cs.getD b []).getD (fc l p.2.1.toNat) 0->u_ (jc cs p.2.2.1) (cs.getD b [])):=λb z hbB hbt=>by
  have hbl:b<l! l:=by omega
  have P':=C7 hp (Lk hbl) (by omega);have Q':=C7 hq (Lk hbl) z;have eP:atS b p=p:=by unfold atS;rw[aE ⟨p0,by omega⟩]
  have eQ:atS b q=(q.1,q.2.1,-1,q.2.2.2):=by
   unfold atS;unfold enB at hbB
   grind
  rw[eP]at P';rw[eQ]at Q';exact h b hbl i hl p P' _ Q' (by simp) hbt.symm p0 ne rd lt
 refine ⟨λa b A z hc=>?_,λq0 hL=>?_⟩
 .by_cases e:q.2.1=(b:Int)
  .have aq:=D.aq;rw[e,a8]at aq;let⟨k3,k4⟩:=X5 aq;rcases hc.2.1 with g|g
   .exact bA g k3
   .exact bA g k4
  .exact (N b (by omega) z.2.1 z.2.2).1 ⟨a,A.1,A.2.1,A.2.2,hc⟩
 .obtain⟨a,b,A,z,hle⟩:=hL;rcases D.r with hr|⟨s1,s2,L,s4⟩
  .omega
  have hbl:b<l! l:=by omega
  have eB:enB l q=q.2.2.1.toNat+1:=by unfold enB;rw[ax (by omega)]
  have thb:fc l b=fc l q.2.2.1.toNat:=by unfold fc;rw[z.2.2,L]
  have own:∀lk:Nat,lk<l! l->(cs.getD lk []).getD (fc l lk) 0=(ct l (fc l lk) (lk+1):Int):=ci.own;have hbr:u_ (cs.getD b []) (cs.getD q.2.2.1.toNat []):=by
   refine ci.cls b q.2.2.1.toNat hbl (by omega) ?_;rw[own b hbl,thb,own _ (show q.2.2.1.toNat<l! l by omega)];have:=Hb l (fc l q.2.2.1.toNat) (show b+1<=q.2.2.1.toNat+1 by omega);omega
  have tha:fc l a=fc l p.2.1.toNat:=by unfold fc;rw[A.2.2,fp.th]
  have hpa:(jc cs p.2.1).getD (fc l p.2.1.toNat) 0<=(cs.getD q.2.2.1.toNat []).getD (fc l p.2.1.toNat) 0:=by
   have e1:(jc cs p.2.1).getD (fc l p.2.1.toNat) 0=(ct l (fc l p.2.1.toNat) (p.2.1.toNat+1):Int):=own _ (show p.2.1.toNat<l! l by omega);have e2:=Hb l (fc l p.2.1.toNat) (show p.2.1.toNat+1<=a+1 by omega);have e3:=hbr (fc l p.2.1.toNat);rw[tha]at hle;omega
  have r':=(N q.2.2.1.toNat (by omega) (by omega) L).2 s4 hpa;exact r'
def U2 (w:WT) (l:Y ET) (lk:Int):∀n:Nat,l! (lb w l lk n)<=n
 |0=>bJ _
 |n+1=>by
  have:=U2 w l lk n;rw[lb,bC]
  grind
def mj (o:Y θ) (i j:Nat):Bool:=(o.getD i []).getD j af
structure I1 (N:Nat) (ln:η) (o:List θ):Prop where
 a:l! ln=N
 b:l! o=N
 c:∀i:Nat,i<N->ln.getD i 0=(N:Int)/\l! (o.getD i [])=N
def oS (o:Y θ) (i j:Nat):Y θ:=o.set i ((o.getD i []).set j J)
def L7 (xss:Y θ) (o:Nat):kS (T:=.bool) xss (o:Int)=xss.getD o []:=by unfold kS;rw[a8]
def aio (o:Y θ) (i j:Nat):mB (T:=.bool) o (i:Int) (cC (kS (T:=.bool) o (i:Int)) (j:Int) J)=oS o i j:=by
 rw[L7];unfold mB oS cC;rw[a8,a8]
def gB (o:Y θ) (i j:Nat):geti (.bool) (o.getD i []) (j:Int)=mj o i j:=wT (T:=.bool) _ j
variable {z:η} {m:Y θ}
def S1 {N:Nat} (h:I1 N z m) (hi:i<N) (A:j<N) (a b:Nat):mj (oS m i j) a b=J↔mj m a b=J\/(a=i/\b=j):=by
 have D:=(h.c i hi).2;unfold mj oS
 grind
def I1.set {N:Nat} (h:I1 N z m) (hi:i<N):I1 N z (oS m i j):=by
 refine ⟨h.a,by unfold oS;rw[dD];exact h.b,λk A=>⟨(h.c k A).1,?_⟩⟩;have h1:=h.b;unfold oS;rw[aF,em];by_cases e:i=k
 .subst e;rw[aE rfl,aE (by omega)];dsimp [Option.getD];rw[dD];exact (h.c i A).2
 .rw[ax e,<-aF];exact (h.c k A).2
def aqx (h:I1 j z m) (hi:i<j):aM (m8 z (i:Int))=j:=by
 rw[Aq,(h.c i hi).1,a8]
def Vr {N:Nat} (h:I1 N z m) (hi:i<N) (D:j<N) {k:Bool->M R} {Q:R->Prop} (A:Ok (k (mj m i j)) Q):Ok (chk (dK (i:Int) (aj z)) λ_=>chk (dK (i:Int) (aj z)) λ_=>chk (dK (j:Int) (aM (m8 z (i:Int)))) λ_=>chk (dK (i:Int) (aj m)) λ_=>chk (dK (j:Int) (aj (kS (T:=.bool) m (i:Int)))) λ_=>lt (geti (.bool) (kS (T:=.bool) m (i:Int)) (j:Int)) k) Q:=by
 have h1:=h.a;have h2:=h.b;have L:=(h.c i hi).2;rw[aqx h hi,L7,gB];exact bH (bH (bH (bH (bH (aU A)))))
def YP {N:Nat} (h:I1 N z m) (hi:i<N) (D:j<N) {k:M R} {Q:R->Prop} (A:Ok k Q):Ok (chk (dK (i:Int) (aj z)) λ_=>chk (dK (i:Int) (aj z)) λ_=>chk (dK (j:Int) (aM (m8 z (i:Int)))) λ_=>chk (dK (i:Int) (aj m)) λ_=>chk (dK (j:Int) (aj (kS (T:=.bool) m (i:Int)))) λ_=>k) Q:=by
 have h1:=h.a;have h2:=h.b;have L:=(h.c i hi).2;rw[aqx h hi,L7];exact bH (bH (bH (bH (bH A))))
def Vp {N:Nat} (h:I1 N z m) (hi:i<N) (A:j<N):rP (((i:Int),(j:Int)),z,m)=Z (!mj m i j,z,if mj m i j=J then m else oS m i j):=by
 refine cI ?_;refine Vr h hi A ?_;refine aQ (λe=>ak ?_) λe=>YP h hi A (ak ?_)
 .rw[e];rfl
 .rw[e,<-aio];rfl
structure OrC (N k:Nat) (o o':List θ):Prop where
 up:∀a b:Nat,a<N->b<N->mj o a b=J->mj o' a b=J
 tr:∀a m b:Nat,a<N->m<k->b<N->mj o' a m=J->mj o' m b=J->mj o' a b=J
 lo:∀R:Nat->Nat->Prop,(∀a m b,a<N->m<N->b<N->R a m->R m b->R a b)->(∀a b,a<N->b<N->mj o a b=J->R a b)->∀a b,a<N->b<N->mj o' a b=J->R a b
def OrC.next (hk:j<i) {o1 o2:Y θ} (h:OrC i j m o1) (g:∀a b:Nat,a<i->b<i->(mj o2 a b=J↔mj o1 a b=J\/(mj o1 a j=J/\mj o1 j b=J))):OrC i (j+1) m o2:=by
 refine ⟨λa b z A e=>(g a b z A).2 (.inl (h.up a b z A e)),λa o b z hm A D e2=>?_,λR ht A a b z L e=>?_⟩
 .have hmN:o<i:=by omega
  rw[g a o z hmN]at D;rw[g o b hmN A]at e2;rw[g a b z A];by_cases e:o=j
  .grind
  .have hm:o<j:=by omega
   rcases D with D|⟨D,e3⟩
   .rcases e2 with e2|⟨e2,e4⟩
    .exact .inl (h.tr a o b z hm A D e2)
    .exact .inr ⟨h.tr a o j z hm hk D e2,e4⟩
   .rcases e2 with e2|⟨e2,e4⟩
    .exact .inr ⟨D,h.tr j o b hk hm A e3 e2⟩
    .exact .inr ⟨D,e4⟩
 .rcases (g a b z L).1 e with e|⟨D,e2⟩
  .exact h.lo R ht A a b z L e
  .exact ht a j b z hk L (h.lo R ht A a j z hk D) (h.lo R ht A j b hk L e2)
def acv (hN:i<=1000) (h:I1 i z m):Ok (kr (z,m)) λy=>I1 i y.1 y.2/\OrC i i m y.2:=by
 unfold kr ck bS ky bU bX be c7 aI cQ;have hl:=h.a;refine bV i (λk x=>∃ln' A,x=((k:Int),ln',A)/\I1 i ln' A/\OrC i k m A) ?_ ?_ ⟨z,m,rfl,h,λa b _ _ e=>e,λa o b _ hm=>bA hm (bN _),λR _ L a b ha hb' e=>L a b ha hb' e⟩
 .rintro k x hk ⟨ln1,ln,rfl,h1,c1⟩;refine cW ?_;have hl1:=h1.a;refine bV i (λN x=>∃ln' A,x=((N:Int),ln',A)/\I1 i ln' A/\∀a b:Nat,a<i->b<i->(mj A a b=J↔mj ln a b=J\/(a<N/\mj ln a k=J/\mj ln k b=J))) ?_ ?_ ⟨ln1,ln,rfl,h1,λa b _ _=>⟨.inl,λe=>e.elim id λe=>bA e.1 (bN _)⟩⟩
  .rintro N x hi ⟨ln2,o2,rfl,h2,g2⟩;refine cW ?_;have hl2:=h2.a;refine aV (λx=>I1 i x.1 x.2/\∀a b:Nat,a<i->b<i->(mj x.2 a b=J↔mj ln a b=J\/(a<N+1/\mj ln a k=J/\mj ln k b=J))) ?_ ?_
   .refine Vr h2 hi hk ?_;have hik:mj o2 N k=J↔mj ln N k=J:=by grind
    refine eu (λe=>ak ⟨h2,λa b ha L=>?_⟩) λe=>?_
    .grind
    .have e1:=hik.1 e;refine bV i (λj x=>∃ln' A,x=((j:Int),ln',A)/\I1 i ln' A/\∀a b:Nat,a<i->b<i->(mj A a b=J↔mj ln a b=J\/((a<N\/a=N/\b<j)/\mj ln a k=J/\mj ln k b=J))) ?_ ?_ ⟨ln2,o2,rfl,h2,λa b ha L=>?_⟩
     .rintro j x hj ⟨ln3,o3,rfl,D,g3⟩;refine cW ?_;refine aV (λx=>I1 i x.1 x.2/\∀a b:Nat,a<i->b<i->(mj x.2 a b=J↔mj ln a b=J\/((a<N\/a=N/\b<j+1)/\mj ln a k=J/\mj ln k b=J))) ?_ ?_
      .refine Vr D hk hj ?_;have hkj:mj o3 k j=J↔mj ln k j=J:=by grind
       refine aQ (λf=>?_) λf=>ak ⟨D,λa b ha L=>?_⟩
       .refine YP D hi hj (ak ?_);rw[aio];refine ⟨D.set hi,λa b ha L=>?_⟩;rw[S1 D hi hj,g3 a b ha L]
        grind
       .grind
      .rintro⟨ln4,o4⟩ ⟨h4,g4⟩;refine ak ⟨ln4,o4,?_,h4,g4⟩;rw[fV]
     .rintro x ⟨ln3,o3,rfl,D,g3⟩;refine cP (ak ⟨D,λa b ha L=>?_⟩)
      grind
     .grind
   .rintro⟨ln3,o3⟩ ⟨D,g3⟩;refine ak ⟨ln3,o3,?_,D,g3⟩;rw[fV]
  .rintro x ⟨ln2,o2,rfl,h2,g2⟩;refine cP (ak ⟨ln2,o2,?_,h2,c1.next hk λa b ha L=>?_⟩)
   .rw[fV]
   .grind
 .rintro x ⟨ln1,ln,rfl,h1,c1⟩;exact cP (ak ⟨h1,c1⟩)
def Dt (l:Y ET) (p:zN) (a:Nat):Prop:=(eN l a).1=p.1/\p.2.1<=(a:Int)/\(p.2.2.1<0\/(a:Int)<=p.2.2.1)
def vE {l:Y ET} {p:zN} (A:i<l! l):Ok (iv (p,l,(i:Int))) λb=>b=J↔Dt l p i:=by
 unfold iv Dt bk bm bS jY bX aI;refine gQ (bH (aU ?_));refine aK (λh=>?_) λh=>ak (ak ?_)
 refine d_ (λh1=>?_) λh1=>ak (ak ?_)
 refine bP (λz=>ak (ak ?_)) λz=>ak (ak ?_)
 .grind
 .rw[LD]
  grind
 .grind
 .grind
def aj4 {l:Y ET} (hl:l! l<=1000) {p q:zN} (h:I1 (l! l) z m):Ok (ub ((l,p,q),z,m)) λy=>y.2=(z,m)/\(y.1=J↔∃a b:Nat,a<l! l/\b<l! l/\Dt l p a/\Dt l q b/\mj m a b=J):=by
 unfold ub bk bD dZ ck bS ky bU bX be c7 aI cQ;refine bV (l! l) (λa x=>x=((a:Int),z,m,p,q)/\∀L b:Nat,L<a->b<l! l->¬(Dt l p L/\Dt l q b/\mj m L b=J)) ?_ ?_ ⟨rfl,λL _ h=>bA h (bN _)⟩
 .rintro a x D ⟨rfl,hno⟩;refine cW ?_;refine bV (l! l) (λb x=>x=((b:Int),z,m,p,q)/\∀b':Nat,b'<b->¬(Dt l p a/\Dt l q b'/\mj m a b'=J)) ?_ ?_ ⟨rfl,λb' h=>bA h (bN _)⟩
  .rintro b x A ⟨rfl,hnb⟩;refine cW ?_;refine aV (λx=>∃t,x=(t,z,m,p,q)/\(t=J↔Dt l p a/\Dt l q b/\mj m a b=J)) ?_ ?_
   .refine aw (vE D) λt ht=>?_
    refine aQ (λe=>?_) λe=>ak ⟨_,rfl,?_⟩
    .refine aw (vE A) λt2 N=>?_
     refine aQ (λe2=>?_) λe2=>ak ⟨_,rfl,?_⟩
     .refine Vr h D A (ak ⟨_,rfl,?_⟩)
      grind
     .grind
    .grind
   rintro x ⟨t,rfl,ht⟩;refine aQ (λe=>ak ⟨rfl,λ_=>⟨a,b,D,A,ht.1 e⟩,λ_=>rfl⟩) λe=>ak ⟨?_,λb' hb'=>?_⟩
   .rw[fV]
   .grind
  .rintro x ⟨rfl,hnb⟩;refine cP (ak ⟨?_,λL b ha' A=>?_⟩)
   .rw[fV]
   .grind
 .rintro x ⟨rfl,hno⟩;exact cP (ak ⟨rfl,nofun,λ⟨a,b,D,A,g⟩=>bA g (hno a b D A)⟩)
def RB (p q:zN):Ok (rQ (p,q)) λb=>b=J↔p.1≠q.1/\(p.2.2.2&&q.2.2.2)=af/\0<=p.2.2.1/\p.2.2.1<q.2.1:=by
 let⟨pt,pa,pr,A⟩:=p;let⟨D,N,L,z⟩:=q;refine gQ (cq (λe=>?_) λe=>ak (ak ?_))
 case refine_2=>exact⟨nofun,λg=>(g.1 e).elim⟩
 cases A
 .refine jP (d_ (λh=>ak (ak ?_)) λh=>ak (ak ?_))
  .simp_all
  .grind
 .cases z
  .refine FP (FP (d_ (λh=>ak (ak ?_)) λh=>ak (ak ?_)))
   .simp_all
   .grind
  .refine FP (jP (ak (ak ?_)))
   grind
def cnW (l:Y ET) (o:Y θ) (j u:Nat):Nat->Nat
 |0=>0
 |n+1=>cnW l o j u n+if fc l n=u/\(n=j\/mj o n j=J) then 1 else 0
def ar3 (l:Y ET) (o:Y θ) (j u:Nat):∀n,cnW l o j u n<=n
 |0=>bJ _
 |n+1=>by have:=ar3 l o j u n;simp[cnW];split<;>omega
def By (l:Y ET) (o:Y θ) (T j n:Nat):η:=(dE T).map λu=>(cnW l o j u n:Int)
def Vb (l:Y ET) (o:Y θ) (T j n:Nat):l! (By l o T j n)=T:=by simp[By]
def ahw (l:Y ET) (o:Y θ) (u n:Nat) (z:j<i):(By l o i u n).getD j 0=(cnW l o u j n:Int):=by
 unfold By
 grind
def ae5 (l:Y ET) (o:Y θ) (T j:Nat):By l o T j 0=aG T 0:=by
 unfold By;apply pU;simp[bE,fT,cnW]
 grind
def amt {l:Y ET} {n:Nat} (h:¬(n=j\/mj m n j=J)):By l m i j (n+1)=By l m i j n:=by
 refine kO λu _=>?_
 rw[cnW,ax λg=>h g.2];rfl
def ahv {l:Y ET} {n:Nat} (h:n=j\/mj m n j=J):By l m i j (n+1)=(By l m i j n).set (fc l n) ((cnW l m j (fc l n) n+1:Nat):Int):=by
 unfold By;apply pU;intro T;rw[em,cm,List.length_range];by_cases hi:T<i
 .rw[bE,bE,List.getElem?_range hi];simp[bx,cnW]
  grind
 .grind
structure TbC (l:List ET) (o:List θ) (T k:Nat) (cl:η) (cs:List η):Prop where
 a:l! cl=l! l
 b:l! cs=l! l
 c:∀i:Nat,i<k->cl.getD i 0=(T:Int)/\cs.getD i []=By l o T i (l! l)
def yA (d:R) {xs:Y R} (x:R) (h:i<l! xs) (k:Nat):(xs.set i x).getD k d=if k=i then x else xs.getD k d:=by grind
def HH {w:WT} {l:Y ET} (tr:TR (w,l)) (z:j<l! l):fc l j<l! w.2.2.2.2.1:=by
 have h0:=(tr.ev _ (pC z)).t0;have h1:=(tr.ev _ (pC z)).t1;dsimp only at h0 h1;unfold fc;omega
def am0 {w:WT} {l:Y ET} (tr:TR (w,l)) (h:I1 (l! l) z m):Ok (uc ((l,(l! w.2.2.2.2.1:Int)),z,m)) λy=>y.1=z/\y.2.1=m/\TbC l m (l! w.2.2.2.2.1) (l! l) y.2.2.1 y.2.2.2:=by
 have hl:l! l<=400:=tr.len;have hT:l! w.2.2.2.2.1<=4:=tr.wb.t;unfold uc bk bD dZ ck bm bS ky bU bX be c7 aI cQ;generalize hTe:l! w.2.2.2.2.1=T at*
 refine cF (cF (dj (by simp) (dj (dg _) (bG (by grind) (by omega) ?_))));refine bV (l! l) (λj x=>∃A cs,x=((j:Int),z,m,A,cs)/\TbC l m T j A cs) ?_ ?_ ⟨_,_,rfl,by simp,by simp,λi hi=>bA hi (bN _)⟩
 .rintro j x hj ⟨A,cs,rfl,L⟩;have ta:=L.a;have tb2:=L.b;refine cW (cF (cF (dj (ey _) (dj (dg _) (bG (by grind) (by omega) ?_)))));have hjT:fc l j<T:=by rw[<- hTe];exact HH tr hj
  refine bH (bH (bl (by cases T with|zero=>omega|succ n=>simp;rfl) ?_));refine bV (l! l) (λi x=>∃cs',x=((i:Int),z,m,A.set j (T:Int),cs')/\l! cs'=l! l/\cs'.getD j []=By l m T j i/\∀k,k≠j->cs'.getD k []=cs.getD k []) ?_ ?_ ⟨cs.set j (aG T 0),?_,by simp;omega,?_,λk hk=>?_⟩
  .rintro i x hi ⟨N,rfl,l2,g2,n2⟩;refine cW ?_;have hiT:fc l i<T:=by rw[<- hTe];exact HH tr hi
   have ln2:((A.set j (T:Int)).getD j 0)=(T:Int):=by grind
   refine aV (λx=>∃D,x=(z,m,A.set j (T:Int),D)/\l! D=l! l/\D.getD j []=By l m T j (i+1)/\∀k,k≠j->D.getD k []=cs.getD k []) ?_ ?_
   .refine aV (λx=>∃t,x=(t,z,m,A.set j (T:Int),N)/\(t=J↔i=j\/mj m i j=J)) ?_ ?_
    .refine aK (λe=>ak ⟨J,rfl,λ_=>.inl ?_,λ_=>rfl⟩) λe=>?_
     .omega
     .refine Vr h hi hj (ak ⟨_,rfl,.inr,λg=>g.elim (λg=>(e ?_).elim) id⟩);rw[g]
    rintro x ⟨t,rfl,ht⟩;refine aQ (λe=>?_) λe=>ak ⟨N,rfl,l2,?_,n2⟩
    .have g:=ht.1 e;have rl:=Vb l m T j i;have cc:=ar3 l m j (fc l i) i;have ge:(geti gz l (i:Int)).1=(fc l i:Int):=ND tr hi;have il:aM (m8 (A.set j (T:Int)) (j:Int))=T:=by rw[Aq,ln2,a8]
     have rj:kS (T:=aP) N (j:Int)=By l m T j i:=by rw[tH,g2]
     have cl2:l! (A.set j (T:Int))=l! l:=by simp;omega
     refine bH (bH (bH (aU ?_)));dsimp only;rw[ge,il,rj];have rg:geti aP (By l m T j i) (fc l i:Int)=(cnW l m j (fc l i) i:Int):=by rw[vB,ahw l m j i hiT]
     refine bH (bH (bH (aU (bH (bH (bH (ak ⟨_,rfl,?_,?_,λk hk=>?_⟩)))))))
     .unfold mB;simp;omega
     .unfold mB;rw[a8,yA [] _ (by omega),aE rfl,ahv g];refine eZ _ ?_;rw[rg];exact fV
     .unfold mB
      grind
    .rw[g2,amt λg=>?_]
     grind
   rintro x ⟨D,rfl,l3,g3,n3⟩;refine ak ⟨D,?_,l3,g3,n3⟩;rw[fV]
  .rintro x ⟨N,rfl,l2,g2,n2⟩;refine cP (ak ⟨A.set j (T:Int),N,?_,by simp;omega,l2,λi hi=>?_⟩)
   .rw[fV]
   .rw[yA 0 _ (by omega)];by_cases e:i=j
    .grind
    .rw[ax e,n2 i e];exact L.c i (by omega)
  .unfold mB;simp
  .rw[yA [] _ (by omega),aE rfl,ae5]
  .grind
 .rintro x ⟨A,cs,rfl,L⟩;exact cP (ak ⟨rfl,rfl,L⟩)
def sm (f:Nat->Nat):Nat->Nat
 |0=>0
 |n+1=>sm f n+f n
variable {g:Nat->Nat}
def UY {f:Nat->Nat}:∀{n:Nat},(∀i,i<n->f i<=g i)->sm f n<=sm g n
 |0,_=>bJ _
 |n+1,h=>Nat.add_le_add (UY λi hi=>h i (my hi)) (h n (nZ n))
def ahm {f:Nat->Nat}:∀{n:Nat},(∀i,i<n->f i<=g i)->(∃i,i<n/\f i<g i)->sm f n<sm g n
 |0,_,⟨_,h,_⟩=>bA h (bN _)
 |n+1,h,⟨i,hi,e⟩=>by
  have h1:=h n (nZ n);have A:∀i,i<n->f i<=g i:=λi hi=>h i (my hi)
  simp[sm];by_cases z:i=n
  .subst z;have:=UY A;omega
  .have:=ahm A ⟨i,by omega,e⟩;omega
def zs (N:Nat) (o:Y θ):Nat:=sm (λi=>sm (λj=>if mj o i j=J then 0 else 1) N) N
def zO (N:Nat) (o z:Y θ):Prop:=∀a b:Nat,a<N->b<N->mj o a b=J->mj z a b=J
def zO.rfl :zO i m m:=λ_ _ _ _ h=>h
def zO.trans {b c:Y θ} (h:zO i m b) (g:zO i b c):zO i m c:=λN j hi z e=>g N j hi z (h N j hi z e)
def Yu {N:Nat} {z:Y θ} (h:zO N m z) (hi:i<N) (A:j<N):(if mj z i j=J then 0 else 1)<=if mj m i j=J then 0 else 1:=by
 by_cases e:mj m i j=J
 .rw[aE e,aE (h i j hi A e)];exact bJ _
 .grind
def awe {N:Nat} {z:Y θ} (h:zO N m z) (hi:i<N) (D:j<N) (e1:mj z i j=J) (e0:¬mj m i j=J):zs N z<zs N m:=
 ahm (λa L=>UY λb A=>Yu h L A) ⟨i,hi,ahm (λb A=>Yu h hi A) ⟨j,D,by rw[aE e1,ax e0];exact Nat.zero_lt_one⟩⟩
def fol (p q:zN):Prop:=p.1≠q.1/\(p.2.2.2&&q.2.2.2)=af/\0<=p.2.2.1/\p.2.2.1<q.2.1
structure WkD where
 N:Nat
 l:List ET
 nl:Nat
 Pv:Nat->Int
 Hd:Nat->η
 S:Nat->List zN
structure ClW (D:WkD) (R:Nat->Nat->Prop):Prop where
 tr:∀a m b,a<D.N->m<D.N->b<D.N->R a m->R m b->R a b
 pv:∀i j:Nat,i<D.N->j<D.N->D.Pv j=(i:Int)->R i j
 hd:∀i j:Nat,i<D.N->j<D.N->(i:Int)∈D.Hd j->R i j
 r3:∀k,k<=D.nl->∀p∈D.S k,∀q∈D.S k,fol p q->∀a b,a<D.N->b<D.N->Dt D.l p a->Dt D.l q b->Cnf (eN D.l a) (eN D.l b)->R p.2.2.1.toNat b
 r4:∀k,k<=D.nl->∀p∈D.S k,∀q∈D.S k,fol p q->0<=q.2.2.1->(∃a b,a<D.N/\b<D.N/\Dt D.l p a/\Dt D.l q b/\R a b)->R p.2.2.1.toNat q.2.2.1.toNat
def LoW (D:WkD) (o:Y θ):Prop:=∀R,ClW D R->∀a b:Nat,a<D.N->b<D.N->mj o a b=J->R a b
structure Tb (D:WkD) (ln:η) (o:List θ):Prop where
 s:I1 D.N ln o
 l:LoW D o
def Tb.set {D:WkD} (h:Tb D z m) (hi:i<D.N) (A:j<D.N) (hr:∀R,ClW D R->R i j):Tb D z (oS m i j)/\zO D.N m (oS m i j)/\mj (oS m i j) i j=J:=by
 refine ⟨⟨h.s.set hi,λR c a b ha L e=>?_⟩,λa b ha L e=>(S1 h.s hi A a b).2 (.inl e),(S1 h.s hi A i j).2 (.inr ⟨rfl,rfl⟩)⟩;rcases (S1 h.s hi A a b).1 e with e|⟨rfl,rfl⟩
 .exact h.l R c a b ha L e
 .exact hr R c
def Tb.close {D:WkD} {ln':η} {A:Y θ} (h:Tb D z m) (s:I1 D.N ln' A) (c:OrC D.N D.N m A):Tb D ln' A:=⟨s,λR cR=>c.lo R cR.tr λa b ha L e=>h.l R cR a b ha L e⟩
def aas (x y:ET):Ok (tJ (x,y)) λb=>b=J↔x.1≠y.1/\Cnf x y:=by
 refine aV (λb=>b=J↔x.1≠y.1/\Cnf x y) ?_ λb L=>ak L
 refine aZ (Pe x) ?_;refine aK (λh1=>?_) λh1=>ak ⟨nofun,λh=>bA h.2.1 h1⟩
 refine aZ (Pe y) ?_;refine aK (λA=>?_) λA=>ak ⟨nofun,λh=>bA h.2.2.1 A⟩
 refine cq (λh0=>?_) λh0=>ak ⟨nofun,λh=>bA h0 h.1⟩
 refine aK (λz=>?_) λz=>ak ⟨nofun,λh=>bA h.2.2.2.1 z⟩
 refine aK (λD=>ak ⟨λ_=>⟨h0,h1,A,z,.inl D⟩,λ_=>rfl⟩) λD=>ak ⟨λh=>⟨h0,h1,A,z,.inr (bL h)⟩,λh=>?_⟩
 exact bc (h.2.2.2.2.elim (λg=>bA g D) id)
structure WkF (w:WT) (l:List ET) (D:WkD):Prop where
 n:D.N=l! l
 dl:D.l=l
 nl:D.nl=l! w.2.1
 p:∀j:Nat,j<l! l->nu (l,(j:Int))=Z (D.Pv j)/\D.Pv j<(j:Int)
 h:∀j:Nat,j<l! l->oM (w,l,(j:Int))=Z (D.Hd j)/\l! (D.Hd j)<=1000/\∀v∈D.Hd j,0<=v/\v<(l! l:Int)
 s:∃s0,oh w=Z s0/\∀k:Nat,k<=l! w.2.1->nk (w,s0,l,(k:Int))=Z (D.S k)
 sl:∀k:Nat,k<=l! w.2.1->l! (D.S k)<=400/\∀p∈D.S k,p.2.2.1<(l! l:Int)
structure WkO (D:WkD) (o:List θ):Prop where
 lo:LoW D o
 cl:ClW D λa b=>mj o a b=J
def SU {D:WkD} (h:Tb D z m) (v0:0<=a) (v1:a<(D.N:Int)) (L:j<D.N) (hr:∀R,ClW D R->R a.toNat j) {k:M R} {Q:R->Prop}
 (hk:∀A,mB (T:=.bool) m a (cC (kS (T:=.bool) m a) (j:Int) J)=A->Tb D z A->zO D.N m A->mj A a.toNat j=J->Ok k Q):Ok (chk (dK a (aj z)) λ_=>chk (dK a (aj z)) λ_=>chk (dK (j:Int) (aM (m8 z a))) λ_=>chk (dK a (aj m)) λ_=>chk (dK (j:Int) (aj (kS (T:=.bool) m a))) λ_=>k) Q:=by
 obtain⟨i,rfl⟩:∃i:Nat,a=(i:Int):=⟨a.toNat,by omega⟩
 have hi:i<D.N:=by omega
 let⟨v,b,c⟩:=h.set hi L hr;exact YP h.s hi L (hk _ (aio m i j) v b c)
def Sy {S:Y zN} {q:zN} (h:q∈S):∃i:Nat,i<l! S/\geti uC S (i:Int)=q:=by
 let⟨i,hi,e⟩:=List.mem_iff_getElem.1 h;exact⟨i,hi,by rw[wT,aF,aH hi,e];rfl⟩
def PQd (D:WkD) (o:Y θ) (p q:zN):Prop:=fol p q->∀a b,a<D.N->b<D.N->Dt D.l p a->Dt D.l q b->Cnf (eN D.l a) (eN D.l b)->mj o p.2.2.1.toNat b=J
def PQd.mono {D:WkD} {z:Y θ} {p q:zN} (h:PQd D m p q) (x:zO D.N m z) (hp:p.2.2.1<(D.N:Int)):PQd D z p q:=λf a b L A h1 h2 h3=>x _ _ (by omega) A (h f a b L A h1 h2 h3)
def aso {l:Y ET} {p q:zN} (f:fol p q) (h1:Dt l p i) (z:Dt l q j):(eN l i).1≠(eN l j).1:=by rw[h1.1,z.1];exact f.1
def Yc (N:Nat) (o z:Y θ):Prop:=∃i j,i<N/\j<N/\mj z i j=J/\¬mj o i j=J
def Yc.up {b c:Y θ} (h:Yc i m b) (x:zO i b c):Yc i m c:=by
 let⟨N,j,hi,z,A,e2⟩:=h;exact⟨N,j,hi,z,x N j hi z A,e2⟩
def Yc.dn {b c:Y θ} (h:Yc i b c) (x:zO i m b):Yc i m c:=by
 let⟨N,j,hi,z,A,e2⟩:=h;exact⟨N,j,hi,z,A,λe=>e2 (x N j hi z e)⟩
def Gd (D:WkD) (o:Y θ) (p q:zN):Prop:=fol p q->0<=q.2.2.1->(∃a b,a<D.N/\b<D.N/\Dt D.l p a/\Dt D.l q b/\mj o a b=J)->mj o p.2.2.1.toNat q.2.2.1.toNat=J
structure Pas (D:WkD) (ln:η) (o:List θ) (ag:Bool) (o':List θ) (P:Prop):Prop where
 t:Tb D ln o'
 x:zO D.N o o'
 n:ag=J->Yc D.N o o'
 s:ag=af->o'=o/\P
def atu {w:WT} {l:Y ET} (tr:TR (w,l)) {D:WkD} (hD:WkF w l D):Ok (sT (w,l)) λy=>∃o L,I1 (l! l) L o/\WkO D o/\TbC l o (l! w.2.2.2.2.1) (l! l) y.1 y.2:=by
 have hl:l! l<=400:=tr.len;have hT:l! w.2.2.2.2.1<=4:=tr.wb.t;have hL:l! w.2.1<=4:=tr.wb.l;have hN:=hD.n;have hDl:=hD.dl;have hDn:=hD.nl;unfold sT bk bD bQ cS db dZ eh iS ck bS jY ky bU bX kq be c7 aI cQ;refine cF (cF (dj (by simp) (dj (dg _) (a! ?_))));refine bV (l! l) (λk x=>∃L o,x=((k:Int),(w,l),L,o)/\l! L=l! l/\l! o=l! l/\(∀i:Nat,i<k->L.getD i 0=(l! l:Int)/\l! (o.getD i [])=l! l)/\∀i j:Nat,mj o i j=af) ?_ ?_ ⟨_,_,rfl,by simp,by simp,λi hi=>bA hi (bN _),λi j=>?_⟩
 .rintro k x hk ⟨L,o,rfl,h1,h2,h3,h4⟩;refine cW ?_ (by simp;omega);refine cF (cF (dj (by simp) (dj (dg _) (a! ?_))));refine bH (bH (bl ?_ (ak ⟨L.set k (l! l:Int),o.set k (aG (l! l) af),?_,by simp;omega,by simp;omega,λi hi=>?_,λi j=>?_⟩)))
  .obtain⟨m,hm⟩:∃m,l! l=m+1:=⟨l! l-1,by omega⟩
   simp[hm];rfl
  .dsimp only;rw[fV];unfold mB;simp
  .rw[yA 0 _ (by omega),yA [] _ (by omega)];by_cases e:i=k
   .rw[aE e,aE e];simp
   .rw[ax e,ax e];exact h3 i (by omega)
  .unfold mj;rw[yA [] _ (by omega)];by_cases e:i=k
   .rw[aE e];rw[aF,fT];split<;>rfl
   .rw[ax e];exact h4 i j
 case refine_3=>
  unfold mj;rw[aF (l:=aG _ _),fT];split<;>rfl
 rintro x ⟨L,o,rfl,h1,h2,h3,h4⟩;refine cP ?_ (by simp);have t0:Tb D L o:=⟨⟨by omega,by omega,λi hi=>by rw[hN]at hi ⊢;exact h3 i hi⟩,λR _ a b _ _ e=>by rw[h4]at e;cases e⟩
 refine aw (P:=λy=>∃o L,I1 (l! l) L o/\WkO D o/\TbC l o (l! w.2.2.2.2.1) (l! l) y.1 y.2) ?_ λy hy=>ak hy
 refine bV (l! l) (λj x=>∃A,x=((j:Int),(w,l),L,A)/\Tb D L A/\∀j',j'<j->∀i,i<D.N->(D.Pv j'=(i:Int)\/(i:Int)∈D.Hd j')->mj A i j'=J) ?_ ?_ ⟨o,rfl,t0,λj' h=>bA h (bN _)⟩
 .rintro j x hj ⟨o1,rfl,t1,g1⟩;let⟨p1,p2⟩:=hD.p j hj;let⟨q1,q2,q3⟩:=hD.h j hj;refine cW ?_;refine aV (λx=>∃o2,x=((w,l),L,o2)/\Tb D L o2/\zO D.N o1 o2/\∀i,i<D.N->D.Pv j=(i:Int)->mj o2 i j=J) ?_ ?_
  .refine aZ p1 ?_;refine d_ (λh0=>?_) λh0=>ak ⟨o1,rfl,t1,zO.rfl,λi hi e=>by omega⟩
   refine SU t1 h0 (by omega) (by omega) (λR c=>c.pv _ _ (by omega) (by omega) (by omega)) λo2 e t2 x2 b2=>ak ⟨o2,?_,t2,x2,λi hi z=>?_⟩
   .dsimp only;rw[e]
   .rw[z,a8]at b2;exact b2
  rintro x ⟨o2,rfl,t2,x2,b2⟩;refine aZ q1 ?_;refine bV (l! (D.Hd j)) (λk x=>∃o3,x=((k:Int),(w,l),L,o3)/\Tb D L o3/\zO D.N o2 o3/\∀k',k'<k->mj o3 ((D.Hd j).getD k' 0).toNat j=J) ?_ ?_ ⟨o2,rfl,t2,zO.rfl,λk' h=>bA h (bN _)⟩
  .rintro k x hk ⟨o3,rfl,t3,x3,b3⟩;refine cW (bH (aU ?_));rw[show geti aP (D.Hd j) (k:Int)=(D.Hd j).getD k 0 from vB _ k];have hm:=yU 0 hk;let⟨m0,m1⟩:=q3 _ hm;refine SU t3 m0 (by omega) (by omega) (λR c=>c.hd _ _ (by omega) (by omega) (by rw[Kq m0];exact hm)) λo4 e t4 x4 b4=>ak ⟨o4,?_,t4,x3.trans x4,λk' hk'=>?_⟩
   .dsimp only;rw[e,fV]
   .by_cases z:k'=k
    .subst z;exact b4
    .have m2:=q3 _ (yU 0 (show k'<l! (D.Hd j) by omega));exact x4 _ _ (by omega) (by omega) (b3 k' (by omega))
  .rintro x ⟨o3,rfl,t3,x3,b3⟩;refine cP (ak ⟨o3,?_,t3,λj' hj' i hi z=>?_⟩)
   .dsimp only;rw[fV]
   .by_cases e:j'=j
    .subst e;rcases z with z|z
     .exact x3 _ _ hi (by omega) (b2 i hi z)
     .obtain⟨k',hk',e⟩:=List.mem_iff_getElem.1 z;have:=b3 k' hk';rw[aF,aH hk',e]at this;exact this
    .exact x3 _ _ hi (by omega) (x2 _ _ hi (by omega) (g1 j' (by omega) i hi z))
 rintro x ⟨o1,rfl,t1,g1⟩;refine cP ?_;refine aw (P:=λy=>∃o L,I1 (l! l) L o/\WkO D o/\TbC l o (l! w.2.2.2.2.1) (l! l) y.1 y.2) ?_ λy hy=>ak hy
 let⟨s0,hs0,hS⟩:=hD.s;refine bV (l! w.2.1+1) (λk x=>∃A,x=((k:Int),(w,l),L,(dE k).map D.S,A)/\Tb D L A/\zO D.N o1 A/\∀k',k'<k->∀p∈D.S k',∀q∈D.S k',PQd D A p q) ?_ ?_ ⟨o1,rfl,t1,zO.rfl,λk' h=>bA h (bN _)⟩
 .rintro k x hk ⟨o2,rfl,t2,x2,d2⟩;let⟨sl1,sl2⟩:=hD.sl k (by omega);have hm:∀i:Nat,i<l! (D.S k)->geti uC (D.S k) (i:Int)∈D.S k:=λi hi=>bI (T:=uC) (by omega) (by omega)
  refine d_ (λ_=>?_) λh=>bA h (by dsimp only[ay];omega)
  refine aZ hs0 ?_;refine aZ (hS k (by omega)) (a! ?_);refine bV (l! (D.S k)) (λi x=>∃A,x=((i:Int),(w,l),L,(dE (k+1)).map D.S,A)/\Tb D L A/\zO D.N o2 A/\∀i',i'<i->∀q∈D.S k,PQd D A (geti uC (D.S k) (i':Int)) q) ?_ ?_ ⟨o2,?_,t2,zO.rfl,λi' h=>bA h (bN _)⟩
  .rintro i x hi ⟨o3,rfl,t3,x3,d3⟩;refine cW (bH (aU ?_));have hp:=hm i hi;dsimp only;generalize hpe:geti uC (D.S k) (i:Int)=p at hp ⊢;have hpr:=sl2 p hp;refine bV (l! (D.S k)) (λj x=>∃A,x=((j:Int),(w,l),L,(dE (k+1)).map D.S,p,A)/\Tb D L A/\zO D.N o3 A/\∀j',j'<j->PQd D A p (geti uC (D.S k) (j':Int))) ?_ ?_ ⟨o3,rfl,t3,zO.rfl,λi' h=>bA h (bN _)⟩
   .rintro j x hj ⟨o4,rfl,t4,x4,d4⟩;refine cW ?_;refine aV (λx=>∃A,x=((w,l),L,(dE (k+1)).map D.S,p,A)/\Tb D L A/\zO D.N o4 A/\PQd D A p (geti uC (D.S k) (j:Int))) ?_ ?_
    .refine bH (aU ?_);have hq:=hm j hj;dsimp only;generalize hqe:geti uC (D.S k) (j:Int)=q at hq ⊢;refine aw (RB p q) λf hf=>?_
     refine eu (λe=>ak ⟨o4,rfl,t4,zO.rfl,λg=>?_⟩) λe=>?_
     .have:=hf.2 g;rw[e]at this;cases this
     have fl:fol p q:=hf.1 e;have pr0:=fl.2.2.1;refine bV (l! l) (λa x=>∃A,x=((a:Int),(w,l),L,(dE (k+1)).map D.S,p,q,A)/\Tb D L A/\zO D.N o4 A/\∀a' b,a'<a->b<D.N->Dt D.l p a'->Dt D.l q b->Cnf (eN D.l a') (eN D.l b)->mj A p.2.2.1.toNat b=J) ?_ ?_ ⟨o4,rfl,t4,zO.rfl,λi' _ h=>bA h (bN _)⟩
     .rintro a x ha ⟨o5,rfl,t5,x5,d5⟩;refine cW ?_;refine bV (l! l) (λb x=>∃A,x=((b:Int),(w,l),L,(dE (k+1)).map D.S,p,q,A)/\Tb D L A/\zO D.N o5 A/\∀b',b'<b->Dt D.l p a->Dt D.l q b'->Cnf (eN D.l a) (eN D.l b')->mj A p.2.2.1.toNat b'=J) ?_ ?_ ⟨o5,rfl,t5,zO.rfl,λi' h=>bA h (bN _)⟩
      .rintro b x hb ⟨o6,rfl,t6,x6,d6⟩;refine cW ?_;refine aV (λx=>∃A,x=((w,l),L,(dE (k+1)).map D.S,p,q,A)/\Tb D L A/\zO D.N o6 A/\(Dt D.l p a->Dt D.l q b->Cnf (eN D.l a) (eN D.l b)->mj A p.2.2.1.toNat b=J)) ?_ ?_
       .refine aV (λx=>∃t,x=(t,(w,l),L,(dE (k+1)).map D.S,p,q,o6)/\(t=J↔Dt D.l p a/\Dt D.l q b/\Cnf (eN D.l a) (eN D.l b))) ?_ ?_
        .rw[hDl];refine aw (vE ha) λy hy=>?_
         refine aQ (λe1=>?_) λe1=>ak ⟨_,rfl,nofun,λg=>?_⟩
         .refine aw (vE hb) λy2 hy2=>?_
          refine aQ (λe2=>?_) λe2=>ak ⟨_,rfl,nofun,λg=>?_⟩
          .refine bH (aU (bH (aU ?_)));refine aw (aas (eN l a) (eN l b)) λy3 hy3=>ak ⟨_,rfl,λg=>⟨hy.1 e1,hy2.1 e2,(hy3.1 g).2⟩,λg=>hy3.2 ⟨aso fl g.1 g.2.1,g.2.2⟩⟩
          .have:=hy2.2 g.2.1;rw[e2]at this;cases this
         .have:=hy.2 g.1;rw[e1]at this;cases this
        rintro x ⟨t,rfl,ht⟩;refine aQ (λe1=>?_) λe1=>ak ⟨o6,rfl,t6,zO.rfl,λg1 g2 g3=>?_⟩
        .have g:=ht.1 e1;refine SU t6 pr0 (by omega) (by omega) (λR c=>c.r3 k (by omega) p hp q hq fl a b (by omega) (by omega) g.1 g.2.1 g.2.2) λo7 e t7 x7 b7=>ak ⟨o7,?_,t7,x7,λ_ _ _=>b7⟩
         dsimp only;rw[e]
        .have:=ht.2 ⟨g1,g2,g3⟩;have e1:t=af:=e1;rw[e1]at this;cases this
       rintro x ⟨o7,rfl,t7,x7,b7⟩;refine ak ⟨o7,?_,t7,x6.trans x7,λb' hb' g1 g2 g3=>?_⟩
       .dsimp only;rw[fV]
       .by_cases z:b'=b
        .subst z;exact b7 g1 g2 g3
        .exact x7 _ _ (by omega) (by omega) (d6 b' (by omega) g1 g2 g3)
      .rintro x ⟨o6,rfl,t6,x6,d6⟩;refine cP (ak ⟨o6,?_,t6,x5.trans x6,λa' b ha' hb g1 g2 g3=>?_⟩)
       .dsimp only;rw[fV]
       .by_cases z:a'=a
        .subst z;exact d6 b (by omega) g1 g2 g3
        .exact x6 _ _ (by omega) hb (d5 a' b (by omega) hb g1 g2 g3)
     .rintro x ⟨o5,rfl,t5,x5,d5⟩;exact cP (ak ⟨o5,rfl,t5,x5,λ_ a b ha hb g1 g2 g3=>d5 a b (by omega) hb g1 g2 g3⟩)
    rintro x ⟨o5,rfl,t5,x5,d5⟩;refine ak ⟨o5,?_,t5,x4.trans x5,λj' hj'=>?_⟩
    .dsimp only;rw[fV]
    .by_cases z:j'=j
     .subst z;exact d5
     .exact (d4 j' (by omega)).mono x5 (by omega)
   .rintro x ⟨o4,rfl,t4,x4,d4⟩;refine cP (ak ⟨o4,?_,t4,x3.trans x4,λi' hi' q hq=>?_⟩)
    .dsimp only;rw[fV]
    .by_cases z:i'=i
     .subst z;rw[hpe];let⟨j',hj',e⟩:=Sy hq;rw[<- e];exact d4 j' hj'
     .exact (d3 i' (by omega) q hq).mono x4 (by have:=sl2 _ (hm i' (by omega));omega)
  .rintro x ⟨o3,rfl,t3,x3,d3⟩;refine cP (ak ⟨o3,?_,t3,x2.trans x3,λk' hk' p hp q hq=>?_⟩)
   .dsimp only;rw[fV]
   .by_cases z:k'=k
    .subst z;let⟨i',hi',e⟩:=Sy hp;rw[<- e];exact d3 i' hi' q hq
    .exact (d2 k' (by omega) p hp q hq).mono x3 (by have:=(hD.sl k' (by omega)).2 p hp;omega)
  .rw[List.range_succ,cr];rfl
 rintro x ⟨o2,rfl,t2,x2,d2⟩;refine d_ (λh=>bA h (by dsimp only[ay];omega)) λ_=>?_
 refine aw (P:=λy=>∃o L,I1 (l! l) L o/\WkO D o/\TbC l o (l! w.2.2.2.2.1) (l! l) y.1 y.2) ?_ λy hy=>ak hy
 have hal:∀k:Nat,k<l! w.2.1+1->geti (.sl uC) ((dE (l! w.2.1+1)).map D.S) (k:Int)=D.S k:=λk hk=>by
  rw[wT,aF,bE,List.getElem?_range hk];rfl
 have hall:l! ((dE (l! w.2.1+1)).map D.S)=l! w.2.1+1:=by simp
 generalize (dE (l! w.2.1+1)).map D.S=all at*
 refine aw (acv (by omega) t2.s) ?_;rintro⟨ln3,o3⟩ ⟨s3,c3⟩;refine cF (jF (t2.s.a.trans s3.a.symm) (vU ?_));refine pX (λx=>2*zs D.N x.2.2.2.2+if x.1=J then 1 else 0) (λx=>∃ag ln' A,x=(ag,(w,l),ln',all,A)/\Tb D ln' A/\zO D.N o3 A/\(∀a m b,a<D.N->m<D.N->b<D.N->mj A a m=J->mj A m b=J->mj A a b=J)/\(ag=af->∀k,k<=l! w.2.1->∀p∈D.S k,∀q∈D.S k,Gd D A p q)) ?_ ⟨J,ln3,o3,rfl,t2.close s3 c3,zO.rfl,c3.tr,nofun⟩;rintro x ⟨ag,ln4,o4,rfl,t4,x4,tr4,d4⟩;cases ag
 .refine jP ?_;refine aw (P:=λy=>∃o L,I1 (l! l) L o/\WkO D o/\TbC l o (l! w.2.2.2.2.1) (l! l) y.1 y.2) ?_ λy hy=>ak hy
  have ss:I1 (l! l) ln4 o4:=by rw[<- hN];exact t4.s
  refine aw (am0 tr ss) ?_;rintro⟨a,b,cl,cs⟩ ⟨e1,e2,tb⟩;refine cF (jF (eZ aj e1).symm (vU (ak ⟨o4,ln4,ss,⟨t4.l,⟨tr4,λi j hi hj e=>?_,λi j hi hj e=>?_,λk hk p hp q hq f a b ha hb h1 h2 h3=>?_,λk hk p hp q hq f q0 h=>d4 rfl k (by omega) p hp q hq f q0 h⟩⟩,tb⟩)))
  .exact x4 _ _ hi hj (c3.up _ _ hi hj (x2 _ _ hi hj (g1 j (by omega) i hi (.inl e))))
  .exact x4 _ _ hi hj (c3.up _ _ hi hj (x2 _ _ hi hj (g1 j (by omega) i hi (.inr e))))
  .have hr:=(hD.sl k (by omega)).2 p hp;have:=f.2.2.1;exact x4 _ _ (by omega) hb (c3.up _ _ (by omega) hb (d2 k (by omega) p hp q hq f a b ha hb h1 h2 h3))
 refine FP ?_;refine bV (l! w.2.1+1) (λk x=>∃ag A,x=((ag,(k:Int)),(w,l),ln4,all,A)/\Pas D ln4 o4 ag A (∀k',k'<k->∀p∈D.S k',∀q∈D.S k',Gd D o4 p q)) ?_ ?_ ⟨af,o4,rfl,t4,zO.rfl,nofun,λ_=>⟨rfl,λk' h=>bA h (bN _)⟩⟩
 .rintro k x hk ⟨ag,o5,rfl,p5⟩;let⟨sl1,sl2⟩:=hD.sl k (by omega);have hm:∀i:Nat,i<l! (D.S k)->geti uC (D.S k) (i:Int)∈D.S k:=λi hi=>bI (T:=uC) (by omega) (by omega)
  refine cW (bH (bH (aU ?_)));rw[hal k hk];refine bV (l! (D.S k)) (λi x=>∃ag A,x=((ag,(i:Int)),(w,l),ln4,all,A)/\Pas D ln4 o4 ag A ((∀k',k'<k->∀p∈D.S k',∀q∈D.S k',Gd D o4 p q)/\∀i',i'<i->∀q∈D.S k,Gd D o4 (geti uC (D.S k) (i':Int)) q)) ?_ ?_ ⟨ag,o5,rfl,p5.t,p5.x,p5.n,λh=>⟨(p5.s h).1,(p5.s h).2,λi' h=>bA h (bN _)⟩⟩
  .rintro i x hi ⟨ag,o6,rfl,p6⟩;refine cW (bH (aU ?_));have hp:=hm i hi;dsimp only;generalize hpe:geti uC (D.S k) (i:Int)=p at hp ⊢;have hpr:=sl2 p hp;refine bV (l! (D.S k)) (λj x=>∃ag A,x=((ag,(j:Int)),(w,l),ln4,all,p,A)/\Pas D ln4 o4 ag A (((∀k',k'<k->∀p∈D.S k',∀q∈D.S k',Gd D o4 p q)/\∀i',i'<i->∀q∈D.S k,Gd D o4 (geti uC (D.S k) (i':Int)) q)/\∀j',j'<j->Gd D o4 p (geti uC (D.S k) (j':Int)))) ?_ ?_ ⟨ag,o6,rfl,p6.t,p6.x,p6.n,λh=>⟨(p6.s h).1,(p6.s h).2,λi' h=>bA h (bN _)⟩⟩
   .rintro j x hj ⟨ag,o7,rfl,p7⟩;refine cW ?_;refine aV (λx=>∃ag A,x=(ag,(w,l),ln4,all,p,A)/\Pas D ln4 o4 ag A ((((∀k',k'<k->∀p∈D.S k',∀q∈D.S k',Gd D o4 p q)/\∀i',i'<i->∀q∈D.S k,Gd D o4 (geti uC (D.S k) (i':Int)) q)/\∀j',j'<j->Gd D o4 p (geti uC (D.S k) (j':Int)))/\Gd D o4 p (geti uC (D.S k) (j:Int)))) ?_ ?_
    .refine bH (aU ?_);have hq:=hm j hj;dsimp only;generalize hqe:geti uC (D.S k) (j:Int)=q at hq ⊢;have hqr:=sl2 q hq;refine aV (λx=>∃t A,x=(t,(w,l),ln4,all,p,A)/\Tb D ln4 A/\zO D.N o7 A/\(t=J->Yc D.N o7 A)/\(t=af->A=o7/\Gd D o7 p q)) ?_ ?_
     .refine aw (RB p q) λf hf=>?_
      refine aQ (λe=>?_) λe=>ak ⟨af,o7,rfl,p7.t,zO.rfl,nofun,λ_=>⟨rfl,λg=>?_⟩⟩
      .have fl:fol p q:=hf.1 e;have pr0:=fl.2.2.1;refine d_ (λq0=>?_) λq0=>ak ⟨af,o7,rfl,p7.t,zO.rfl,nofun,λ_=>⟨rfl,λ_ g=>by omega⟩⟩
       have ss:I1 (l! l) ln4 o7:=by rw[<- hN];exact p7.t.s
       refine aw (aj4 (by omega) (p:=p) (q:=q) ss) ?_;rintro⟨t,y⟩ ⟨e1,ht⟩;dsimp only at e1 ht;subst e1;refine cF (jF rfl (vU ?_));refine aQ (λe2=>?_) λe2=>ak ⟨af,o7,rfl,p7.t,zO.rfl,nofun,λ_=>⟨rfl,λ_ _ g=>?_⟩⟩
       .obtain⟨a,b,ha,hb,h1,h2,h3⟩:=ht.1 e2;have q0:0<=q.2.2.1:=q0;obtain⟨pn,hpn⟩:∃n:Nat,p.2.2.1=(n:Int):=⟨p.2.2.1.toNat,(Kq pr0).symm⟩
        obtain⟨qn,hqn⟩:∃n:Nat,q.2.2.1=(n:Int):=⟨q.2.2.1.toNat,(Kq q0).symm⟩
        have pnl:pn<D.N:=by rw[hpn]at hpr;omega
        have qnl:qn<D.N:=by rw[hqn]at hqr;omega
        dsimp only;rw[hpn,hqn];refine aZ (Vp p7.t.s pnl qnl) ?_;refine cF (jF rfl (vU ?_));by_cases z:mj o7 pn qn=J
        .rw[z];refine ak ⟨af,o7,rfl,p7.t,zO.rfl,nofun,λ_=>⟨rfl,λ_ _ _=>?_⟩⟩;rw[hpn,hqn];exact z
        .obtain⟨t8,x8,b8⟩:=p7.t.set (i:=pn) (j:=qn) pnl qnl λR c=>by
          have:=c.r4 k (by omega) p hp q hq fl q0 ⟨a,b,by omega,by omega,by rw[hDl];exact h1,by rw[hDl];exact h2,p7.t.l R c a b (by omega) (by omega) h3⟩;rw[hpn,hqn]at this;exact this
         rw[ax z];have z':mj o7 pn qn=af:=by simpa using z
         rw[z'];exact ak ⟨J,_,rfl,t8,x8,λ_=>⟨pn,qn,pnl,qnl,b8,z⟩,nofun⟩
       .rw[hDl,hN]at g;have:=ht.2 g;have e2:t=af:=e2;rw[e2]at this;cases this
      .have:=hf.2 g;rw[e]at this;cases this
     rintro x ⟨t,o8,rfl,t8,x8,n8,d8⟩;refine aQ (λe=>ak ⟨J,o8,rfl,t8,p7.x.trans x8,λ_=>(n8 e).dn p7.x,nofun⟩) λe=>ak ⟨ag,o8,rfl,?_⟩
     obtain⟨rfl,g8⟩:=d8 e;refine ⟨t8,p7.x,p7.n,λh=>?_⟩;obtain⟨rfl,g7⟩:=p7.s h;exact⟨rfl,g7,g8⟩
    rintro x ⟨ag,o8,rfl,p8⟩;refine ak ⟨ag,o8,?_,p8.t,p8.x,p8.n,λh=>⟨(p8.s h).1,(p8.s h).2.1.1,λj' hj'=>?_⟩⟩
    .dsimp only;rw[fV]
    .by_cases z:j'=j
     .subst z;exact (p8.s h).2.2
     .exact (p8.s h).2.1.2 j' (by omega)
   .rintro x ⟨ag,o7,rfl,p7⟩;refine cP (ak ⟨ag,o7,?_,p7.t,p7.x,p7.n,λh=>⟨(p7.s h).1,(p7.s h).2.1.1,λi' hi' q hq=>?_⟩⟩)
    .dsimp only;rw[fV]
    .by_cases z:i'=i
     .subst z;rw[hpe];let⟨j',hj',e⟩:=Sy hq;rw[<- e];exact (p7.s h).2.2 j' hj'
     .exact (p7.s h).2.1.2 i' (by omega) q hq
  .rintro x ⟨ag,o6,rfl,p6⟩;refine cP (ak ⟨ag,o6,?_,p6.t,p6.x,p6.n,λh=>⟨(p6.s h).1,λk' hk' p hp q hq=>?_⟩⟩)
   .dsimp only;rw[fV]
   .by_cases z:k'=k
    .subst z;let⟨i',hi',e⟩:=Sy hp;rw[<- e];exact (p6.s h).2.2 i' hi' q hq
    .exact (p6.s h).2.1 k' (by omega) p hp q hq
 .rintro x ⟨ag,o5,rfl,p5⟩;refine cP ?_;refine Rl ?_;refine aw (acv (by omega) p5.t.s) ?_;rintro⟨ln6,o6⟩ ⟨s6,c6⟩;have x6:zO D.N o4 o6:=p5.x.trans c6.up;refine cF (jF (p5.t.s.a.trans s6.a.symm) (vU (ak (show oQ _ _ _ from ak ⟨⟨ag,ln6,o6,rfl,p5.t.close s6 c6,x4.trans x6,λa m b=>c6.tr a m b,λe=>?_⟩,?_⟩))))
  .obtain⟨rfl,g⟩:=p5.s e;have h6:=c6.lo (λa b=>mj o5 a b=J) tr4 λa b _ _ h=>h
   intro k hk p hp q hq f q0;rintro⟨a,b,ha,hb,h1,h2,h3⟩;have hpr:=(hD.sl k hk).2 p hp;have hqr:=(hD.sl k hk).2 q hq;have:=f.2.2.1;exact c6.up _ _ (by omega) (by omega) (g k (by omega) p hp q hq f q0 ⟨a,b,ha,hb,h1,h2,h6 a b ha hb h3⟩)
  .dsimp only;cases ag
   .have:zs D.N o6<=zs D.N o4:=UY λa ha=>UY λb hb=>Yu x6 ha hb
    simp;omega
   .obtain⟨i,j,hi,hj,e1,e2⟩:=(p5.n rfl).up c6.up;have:=awe x6 hi hj e1 e2;simp;omega
def Rw (l:Y ET) (c:Y η) (i j:Nat):Prop:=i<j/\(ct l (fc l i) (i+1):Int)<=(c.getD j []).getD (fc l i) 0
def Rw.tr {w:WT} {l:Y ET} {c:Y η} {tm:Y ν} {la:η} (A:CI w l (l! l) c tm la) {b:Nat} (z:b<l! l) (h:Rw l c i j) (g:Rw l c j b):Rw l c i b:=by
 refine ⟨Nat.lt_trans h.1 g.1,C5 h.2 ?_⟩;have hm:j<l! l:=Nat.lt_trans g.1 z;exact A.cls j b hm z (by rw[A.own j hm];exact g.2) _
def ath {w:WT} {l:Y ET} {c:Y η} {tm:Y ν} {la:η} (D:CI w l (l! l) c tm la) (A:j<l! l) (N:∀i,i<l! l->(mj m i j=J↔Rw l c i j)) (u:Nat):
 ∀n,n<=l! l->(cnW l m j u n:Int)=if n<=j then min ((c.getD j []).getD u 0) (ct l u n:Int) else (c.getD j []).getD u 0:=by
 have nn:=D.nn j A u;have own:=D.own j A;have co:=Fi l j;intro n;induction n with
 |zero=>intro _;simp only[cnW,ct];omega
 |succ n L=>
  intro hn;have h1:=N n (by omega);simp only[cnW];by_cases z:fc l n=u
  .by_cases e:n<j
   .have hr:mj m n j=J↔(ct l u n:Int)+1<=(c.getD j []).getD u 0:=by
     rw[h1];have:=Fi l n;subst z;exact⟨λh=>by have:=h.2;omega,λh=>⟨e,by omega⟩⟩
    have cs:ct l u (n+1)=ct l u n+1:=by simp only[ct];rw[aE z]
    grind
   .by_cases e2:n=j
    .grind
    .rw[ax (show ¬n<=j by omega)]at L;rw[ax (show ¬n+1<=j by omega),ax λg=>g.2.elim e2 λg=>by have:=(h1.1 g).1;omega];omega
  .rw[ax λg=>z g.1];have cs:ct l u (n+1)=ct l u n:=by simp only[ct];rw[ax z];rfl
   grind
def ahx {w:WT} {l:Y ET} {c:Y η} {tm:Y ν} {la:η} (A:CI w l (l! l) c tm la) (z:j<l! l) (D:∀i,i<l! l->(mj m i j=J↔Rw l c i j)):By l m (l! w.2.2.2.2.1) j (l! l)=c.getD j []:=by
 have L:=A.k.ln j z;apply pU;intro u;by_cases h:u<l! w.2.2.2.2.1
 .have:=ath A z D u (l! l) (bJ _);unfold By
  grind
 .rw[dI (by rw[Vb];omega),dI (by omega)]
def al0 {w:WT} {e:ET} (hev:Ht w e) {lk:Int} (z:0<=lk) (A:lk<=l! w.2.1):(lk<l! w.2.1->(al2 w e=lk↔mS w e=lk))/\(lk=l! w.2.1->(mS w e=lk↔e.2.1=12)):=by
 refine ⟨λh=>al1 w e z h,λh=>?_⟩;let⟨nm,_,_,cd⟩:=hev;have h1:e.2.1=6\/e.2.1=8\/e.2.1=10->e.2.2.1<l! w.2.1:=λg=>(nm.lk (by omega)).2
 have D:e.2.1=17->(geti itK w.2.2.1 e.2.2.1).2<l! w.2.1:=λg=>(cd _ (bI (T:=itK) (nm.cd (by omega)).1 (nm.cd (by omega)).2)).2
 unfold mS
 grind
def ai3 {w:WT} {e:ET} (hev:Ht w e) {lk:Int} (z:0<=lk) (A:lk<=l! w.2.1):(lk<l! w.2.1->(ai5 w e=lk↔fA w e=lk))/\(lk=l! w.2.1->(fA w e=lk↔e.2.1=13)):=by
 refine ⟨λh=>ai4 w e z h,λh=>?_⟩;let⟨nm,_,_,cd⟩:=hev;have h1:e.2.1=7\/e.2.1=9\/e.2.1=11->e.2.2.1<l! w.2.1:=λg=>(nm.lk (by omega)).2
 have D:e.2.1=16->(geti itK w.2.2.1 e.2.2.1).2<l! w.2.1:=λg=>(cd _ (bI (T:=itK) (nm.cd (by omega)).1 (nm.cd (by omega)).2)).2
 unfold fA
 grind
def Ya {w:WT} {l:Y ET} (tr:TR (w,l)) {s:J?} (hs:s.2.2.2=[]) (hl:i<=l! w.2.1):nk (w,s,l,(i:Int))=Z (lb w l (i:Int) (l! l)):=by
 have hll:l! l<=400:=tr.len;refine cI ?_;unfold nk bk bD bQ db ck bm bS bU bX kq be c7 aI cQ;refine bV 0 (λ_ x=>x=(0,w,s,[])) (λlk x hi=>bA hi (bN _)) ?_ rfl;rintro x rfl;refine cP ?_ (by grind);refine aw (P:=λy=>y=lb w l (i:Int) (l! l)) ?_ λy hy=>ak hy
 dsimp only;refine bV (l! l) (λlk x=>x=((lk:Int),w,lb w l (i:Int) lk)/\l! (lb w l (i:Int) lk)<=lk) ?_ ?_ ⟨rfl,bJ _⟩
 .rintro lk x hi ⟨rfl,hi2⟩;have hev:Ht w (eN l lk):=tr.ev _ (pC hi);refine cW ?_;refine aV (λx=>x=(w,lb w l (i:Int) (lk+1))/\l! (lb w l (i:Int) (lk+1))<=lk+1) ?_ ?_
  .refine bH (aU (aZ (azz hev) (aZ (ayc hev) ?_)));rw[lb];have hge:geti gz l (lk:Int)=eN l lk:=rfl;dsimp only;rw[hge];have ea:=al0 hev (lk:=(i:Int)) (by omega) (by omega);have N:=ai3 hev (lk:=(i:Int)) (by omega) (by omega);generalize eN l lk=e at*
   generalize lb w l (i:Int) lk=S at*
   refine aV (λx=>∃a r,x=((a,r),w,S,e)/\(a=(i:Int)↔mS w e=(i:Int))/\(r=(i:Int)↔fA w e=(i:Int))) ?_ ?_
   .refine aK (λg=>?_) λg=>ak ⟨_,_,rfl,?_,?_⟩
    .have g:(i:Int)=(l! w.2.1:Int):=g;refine aV (λx=>∃a,x=(a,w,S,e)/\(a=(i:Int)↔mS w e=(i:Int))) ?_ ?_
     .refine aK (λh=>ak ⟨_,rfl,?_⟩) λh=>ak ⟨_,rfl,?_⟩
      .omega
      .omega
     rintro x ⟨a,rfl,ha⟩;refine aK (λh=>ak ⟨a,_,rfl,ha,?_⟩) λh=>ak ⟨a,_,rfl,ha,?_⟩
     .grind
     .grind
    .grind
    .grind
   rintro x ⟨ac,re,rfl,ea,N⟩;refine aV (λx=>x=(w,(if fA w e=(i:Int) then S.map (clS e (lk:Int)) else S),e)) ?_ ?_
   .refine aK (λg=>?_) λg=>?_
    .rw[aE (N.1 g)];refine bV (l! S) (λk x=>x=((k:Int),w,(S.take k).map (clS e (lk:Int))++S.drop k,e)) ?_ ?_ ?_
     .rintro k x D rfl;refine cW ?_;have A:dK (k:Int) (l! ((S.take k).map (clS e (lk:Int))++S.drop k))=J:=LC.2 ⟨by omega,by rw[asy (by omega)];omega⟩;have hget:geti (.st tQ) ((S.take k).map (clS e (lk:Int))++S.drop k) (k:Int)=S.getD k (0,0,0,af):=(wT (T:=.st tQ) _ k).trans (asz _ D);have hset:=asx (f:=clS e (lk:Int)) (0,0,0,af) D;have hid:=aww (f:=clS e (lk:Int)) (0,0,0,af) D;generalize S.getD k (0,0,0,af)=z at*
      generalize (S.take k).map (clS e (lk:Int))++S.drop k=L at*
      generalize (S.take (k+1)).map (clS e (lk:Int))++S.drop (k+1)=L' at*
      refine aV (λx=>x=(w,L',e)) ?_ ?_
      .refine aV (λx=>x=(decide (z.1=e.1/\z.2.2.1<0),w,L,e)) ?_ ?_
       .refine bl A (bl A (aU ?_));dsimp only;rw[hget];refine aK (λg=>bl A (bl A (aU ?_))) λg=>ak ?_
        .refine ak ?_;dsimp only;by_cases q:z.2.2.1<0
         .simp_all
         .rw[ja.2 (by omega),dm λz=>q z.2]
        .grind
       rintro x rfl;refine aK (λg=>bl A (bl A (ak ?_))) λg=>ak ?_
       .have:clS e (lk:Int) z=(z.1,z.2.1,(lk:Int),z.2.2.2):=aE g;rw[this]at hset;dsimp only;rw[hget,ry,hset]
       .rw[hid (ax g)]
      rintro x rfl;refine ak ?_;dsimp only;rw[fV]
     .rintro x rfl;refine cP (ak ?_) (by simp)
      grind
     .simp
    .rw[ax λz=>g (N.2 z)];exact ak rfl
   rintro x rfl;have hSl:l! (if fA w e=(i:Int) then S.map (clS e (lk:Int)) else S)=l! S:=by grind
   refine aK (λg=>?_) λg=>?_
   .rw[aE (ea.1 g)];refine bG ?_ (by omega) (ak ⟨rfl,?_⟩)
    .grind
    .grind
   .rw[ax λz=>g (ea.2 z),mU];exact ak ⟨rfl,by rw[hSl];omega⟩
  rintro x ⟨rfl,h2⟩;refine ak ⟨?_,h2⟩;dsimp only;rw[fV]
 .rintro x ⟨rfl,_⟩;exact cP (ak rfl)
def WU (w:WT) (h:l! w.2.1<=1000):Ok (oh w) λy=>y.2.2.2=[]:=by
 refine bV (l! w.2.1) (λi x=>x.1=(i:Int)/\l! x.2.2.2=i) ?_ ?_ ⟨rfl,rfl⟩
 .rintro i ⟨N,L,D,A⟩ hi ⟨z,e2⟩;subst z;refine cW (bG (by grind) (by omega) (ak ⟨fV,?_⟩))
  grind
 .rintro⟨N,L,D,A⟩ ⟨z,e2⟩;exact cP (ak rfl)
def zW (l:Y ET) (u:Nat):Nat->Int
 |0=> -1
 |n+1=>if fc l n=u then (n:Int) else zW l u n
def BT (l:Y ET) (u:Nat):∀n:Nat,-1<=zW l u n/\zW l u n<(n:Int)
 |0=>by simp[zW]
 |n+1=>by
  have:=BT l u n;rw[zW];split<;>omega
def FG {l:Y ET} {u:Nat}:∀n:Nat,0<=zW l u n->fc l (zW l u n).toNat=u/\ct l u n=ct l u ((zW l u n).toNat+1)
 |0,h=>by simp[zW]at h
 |n+1,h=>by
  rw[zW]at h ⊢;by_cases e:fc l n=u
  .grind
  .rw[ax e]at h ⊢;let⟨a,b⟩:=FG n h;exact⟨a,by rw[<- b];simp only[ct];rw[ax e];rfl⟩
def O3 {w:WT} {l:Y ET} (tr:TR (w,l)) (z:j<l! l):nu (l,(j:Int))=Z (zW l (fc l j) j):=by
 have D:l! l<=400:=tr.len;have A:=ND tr z;refine cI ?_;refine bV j (λi x=>x=((j:Int)-1-i)/\zW l (fc l j) (j-i)=zW l (fc l j) j) ?_ ?_ ⟨?_,by rw[Nat.sub_zero]⟩
 .rintro i x hi ⟨rfl,e⟩;have ti:=ND tr (show j-i-1<l! l by omega);rw[show (j:Int)-1-i=((j-i-1:Nat):Int) by omega];refine bH (aU (bH (aU (aK (λg=>ak ?_) λg=>ak ?_))))
  .have g:(eN l (j-i-1)).1=(eN l j).1:=g;rw[<- e,show j-i=j-i-1+1 by omega,zW,Nat.add_sub_cancel,aE (by omega)]
  .have g:¬(eN l (j-i-1)).1=(eN l j).1:=g;refine ⟨by rw[iI];omega,?_⟩;rw[<- e,show j-i=j-(i+1)+1 by omega,zW,show j-(i+1)=j-i-1 by omega,ax (by omega)]
 .rintro x ⟨rfl,e⟩;refine d_ (λg=>by omega) λ_=>ak ?_
  rw[w_]at e;exact e
 .rw[iI];omega
def amf (w:WT) (o:Int):Bool:=(geti lF w.1 o).2.2.2.1
def aag {w:WT} {e:ET} (hev:Ht w e):tI (w,e)=Z (decide (e.2.1=3\/e.2.1=4)&&amf w e.2.2.1):=by
 refine cI ?_;refine aV (λb=>b=(decide (e.2.1=3\/e.2.1=4)&&amf w e.2.2.1)) ?_ λb z=>ak z
 refine aZ (Pe e) ?_;refine aK (λh=>?_) λh=>ak ?_
 .obtain⟨h0,h1⟩:=hev.nm.ce h;refine d_ (λ_=>cW (bH (aU (ak ?_)))) λg=>bA g (AU.2 h0)
  rw[bc h,fo];rfl
 .grind
def hrT (w:WT) (l:Y ET) (j i:Nat):Prop:=((eN l j).2.1=1/\(eN l i).2.1=20/\(eN l i).2.2.1=(eN l j).1)\/((eN l j).2.1=21/\(eN l i).1=(eN l j).2.2.1)\/((eN l j).2.1=3/\amf w (eN l j).2.2.1=J/\(eN l i).2.1=4/\(eN l i).2.2.1=(eN l j).2.2.1)\/((eN l j).2.1=23/\(eN l i).2.1=22/\(eN l i).2.2.1=(eN l j).2.2.1)
def HdT (w:WT) (l:Y ET) (j i:Nat) (L:η):Prop:=l! L<=i/\∀v,v∈L↔∃k:Nat,k<i/\v=(k:Int)/\hrT w l j k
def HdT.yes {w:WT} {l:Y ET} (h:HdT w l j i z) (g:hrT w l j i):HdT w l j (i+1) (z++[(i:Int)]):=by
 refine ⟨by rw[bC,cH];have:=h.1;omega,λv=>?_⟩;rw[bO,h.2 v,aC]
 grind
def HdT.no {w:WT} {l:Y ET} (h:HdT w l j i z) (g:¬hrT w l j i):HdT w l j (i+1) z:=by
 refine ⟨by have:=h.1;omega,λv=>?_⟩;rw[h.2 v]
 grind
def avq {w:WT} {l:Y ET} (tr:TR (w,l)) (hj:j<l! l) (hw:sU (l,(j:Int))=Z a):Ok (oM (w,l,(j:Int))) λL=>l! L<=j+1/\∀v,v∈L↔(∃k:Nat,k<j/\v=(k:Int)/\hrT w l j k)\/((eN l j).2.1=17/\0<=a/\v=a):=by
 have hl:l! l<=400:=tr.len;have hev:Ht w (eN l j):=tr.ev _ (pC hj);unfold oM bk bD bQ cS eV db bm bS jY bU bX c7 aI cQ;refine bH (aU ?_);refine bV j (λi x=>∃L,x=((i:Int),w,L,eN l j)/\HdT w l j i L) ?_ ?_ ⟨[],rfl,bJ _,λv=>⟨nofun,λ⟨k,h,_⟩=>bA h (bN _)⟩⟩
 .rintro i x hi ⟨L,rfl,hd⟩;have hn:=hd.1;refine cW (bH (aU ?_));have hge:geti gz l (i:Int)=eN l i:=rfl;have ad:∀{R:Type} {Q:(R⊕(WT×η×ET))->Prop},hrT w l j i->(∀L',HdT w l j (i+1) L'->Q (.inr (w,L',eN l j)))->Ok (chk (bh (l! L+l! [(i:Int)]) 8) λ_=>(Z (.inr (w,L++[(i:Int)],eN l j)):M (R⊕(WT×η×ET)))) Q:=λh q=>bG (by grind) (by omega) (ak (q _ (hd.yes h)))
  refine aV (λx=>∃L',x=(w,L',eN l j)/\HdT w l j (i+1) L') ?_ ?_
  .refine aV (λx=>x.2=(w,L,eN l j,eN l i)/\(x.1=J↔(eN l j).2.1=1/\(eN l i).2.1=20/\(eN l i).2.2.1=(eN l j).1)) ?_ ?_
   .refine aK (λh=>aK (λg=>ak ⟨rfl,?_⟩) λg=>ak ⟨rfl,?_⟩) λh=>ak ⟨rfl,?_⟩
    .grind
    .grind
    .grind
   rintro⟨x,y⟩ ⟨e,h1⟩;subst e;refine aQ (λD=>ad (.inl (h1.1 D)) λL' h=>⟨L',rfl,h⟩) λA=>?_
   have h1:¬_:=λq=>bA (h1.2 q) (by grind)
   refine aV (λx=>x.2=(w,L,eN l j,eN l i)/\(x.1=J↔(eN l j).2.1=21/\(eN l i).1=(eN l j).2.2.1)) ?_ ?_
   .refine aK (λh=>ak ⟨rfl,?_⟩) λh=>ak ⟨rfl,?_⟩
    .grind
    .grind
   rintro⟨x,y⟩ ⟨e,h2⟩;subst e;refine aQ (λD=>ad (.inr (.inl (h2.1 D))) λL' h=>⟨L',rfl,h⟩) λA=>?_
   have h2:¬_:=λq=>bA (h2.2 q) (by grind)
   refine aV (λx=>x.2=(w,L,eN l j,eN l i)/\(x.1=J↔(eN l j).2.1=3/\amf w (eN l j).2.2.1=J/\(eN l i).2.1=4/\(eN l i).2.2.1=(eN l j).2.2.1)) ?_ ?_
   .refine aK (λh=>?_) λh=>ak ⟨rfl,?_⟩
    .have h:(eN l j).2.1=3:=h;refine aZ (aag hev) (aQ (λhv=>aK (λg=>ak ⟨rfl,?_⟩) λg=>ak ⟨rfl,?_⟩) λhv=>ak ⟨rfl,?_⟩)
     .grind
     .grind
     .grind
    .grind
   rintro⟨x,y⟩ ⟨e,h3⟩;subst e;refine aQ (λD=>ad (.inr (.inr (.inl (h3.1 D)))) λL' h=>⟨L',rfl,h⟩) λA=>?_
   have h3:¬_:=λq=>bA (h3.2 q) (by grind)
   refine aV (λx=>x.2=(w,L,eN l j)/\(x.1=J↔(eN l j).2.1=23/\(eN l i).2.1=22/\(eN l i).2.2.1=(eN l j).2.2.1)) ?_ ?_
   .refine aK (λh=>aK (λg=>ak ⟨rfl,?_⟩) λg=>ak ⟨rfl,?_⟩) λh=>ak ⟨rfl,?_⟩
    .grind
    .grind
    .grind
   rintro⟨x,y⟩ ⟨e,N⟩;subst e;refine aQ (λD=>ad (.inr (.inr (.inr (N.1 D)))) λL' h=>⟨L',rfl,h⟩) λA=>?_
   have N:¬_:=λq=>bA (N.2 q) (by grind)
   exact ak ⟨L,rfl,hd.no λq=>q.elim h1 λq=>q.elim h2 λq=>q.elim h3 N⟩
  rintro x ⟨L',rfl,h⟩;refine ak ⟨L',?_,h⟩;rw[fV]
 .rintro x ⟨L,rfl,hd⟩;have hn:=hd.1;refine cP ?_;refine aw (P:=λL=>l! L<=j+1/\∀v,v∈L↔(∃k:Nat,k<j/\v=(k:Int)/\hrT w l j k)\/((eN l j).2.1=17/\0<=a/\v=a)) ?_ λx hx=>ak hx
  refine aV (λL=>l! L<=j+1/\∀v,v∈L↔(∃k:Nat,k<j/\v=(k:Int)/\hrT w l j k)\/((eN l j).2.1=17/\0<=a/\v=a)) ?_ λx hx=>ak hx
  refine aK (λh=>?_) λh=>ak ⟨by dsimp only;omega,λv=>?_⟩
  .have h:(eN l j).2.1=17:=h;refine aZ hw (d_ (λh0=>bG (by grind) (by omega) (ak ⟨?_,λv=>?_⟩)) λg=>ak ⟨by dsimp only;omega,λv=>?_⟩)
   .grind
   .dsimp only;rw[bO,aC,hd.2 v]
    grind
   .dsimp only;rw[hd.2 v]
    grind
  .have h:¬(eN l j).2.1=17:=h;rw[hd.2 v]
   grind
def ntT (l:Y ET) (j p i:Nat):Prop:=((eN l i).2.1=18/\(eN l i).2.2.2.1=(eN l j).1)\/((eN l i).2.1=19/\(eN l i).2.2.1=(eN l p).2.2.1)
def apb (l:Y ET) (j:Nat) (y:Int):Prop:=(y= -1/\∀p:Nat,zW l (fc l j) j=(p:Int)->(eN l p).2.1=16->∀i,p<i->i<j->¬ntT l j p i)\/∃p k:Nat,zW l (fc l j) j=(p:Int)/\(eN l p).2.1=16/\y=(k:Int)/\p<k/\k<j/\ntT l j p k/\∀i,p<i->i<k->¬ntT l j p i
def apd {w:WT} {l:Y ET} (tr:TR (w,l)) (hj:j<l! l):Ok (sU (l,(j:Int))) (apb l j):=by
 have hl:l! l<=400:=tr.len;have hp:=BT l (fc l j) j;unfold sU bm bS bX c7 aI cQ;refine aZ (O3 tr hj) ?_;unfold apb;generalize zW l (fc l j) j=P at*
 refine aV (λb=>b=J↔P<0\/(eN l P.toNat).2.1≠16) ?_ ?_
 .refine bP (λh=>ak ⟨λ_=>.inl h,λ_=>rfl⟩) λh=>?_
  refine bH (aU (ak ?_))
  grind
 intro b L;refine aQ (λe=>ak (.inl ⟨rfl,λp hp A=>?_⟩)) λe=>?_
 .grind
 have nb:¬_:=λq=>by have:=L.2 q;rw[e]at this;cases this
 obtain⟨p,rfl⟩:∃p:Nat,P=(p:Int):=⟨P.toNat,by omega⟩
 rw[a8]at nb;have A:(eN l p).2.1=16:=by omega
 refine bV (j-(p+1)) (λn x=>x=((p+1+n:Nat):Int)/\∀i,p<i->i<p+1+n->¬ntT l j p i) ?_ ?_ ⟨?_,λi h1 N=>by omega⟩
 .rintro n x hn ⟨rfl,hno⟩;generalize hk:p+1+n=k at*
  refine cW ?_;refine aV (λb=>b=J↔ntT l j p k) ?_ ?_
  .refine bH (aU ?_);refine aK (λz=>?_) λz=>?_
   .have z:(eN l k).2.1=18:=z;refine bH (aU (bH (aU ?_)));refine aK (λD=>ak ⟨λ_=>.inl ⟨z,D⟩,λ_=>rfl⟩) λD=>?_
    refine bH (aU ?_);refine aK (λh=>?_) λh=>ak ⟨nofun,λq=>q.elim (λq=>(D q.2).elim) λq=>(h q.1).elim⟩
    omega
   .have z:¬(eN l k).2.1=18:=z;refine bH (aU ?_);refine aK (λh=>?_) λh=>ak ⟨nofun,λq=>q.elim (λq=>(z q.1).elim) λq=>(h q.1).elim⟩
    refine bH (aU (bH (aU (ak ?_))));exact⟨λq=>.inr ⟨h,bL q⟩,λq=>bc (q.elim (λq=>(z q.1).elim) And.right)⟩
  intro b L;refine aQ (λe=>ak (.inr ⟨p,k,rfl,A,rfl,by omega,by omega,L.1 e,hno⟩)) λe=>ak ⟨?_,λi h1 N=>?_⟩
  .rw[fV,<-hk];rfl
  .grind
 .rintro x ⟨rfl,hno⟩;exact cP (ak (.inl ⟨rfl,λp' hp' _ i h1 N=>by
   have:p'=p:=by omega
   subst this;exact hno i h1 (by omega)⟩))
 .rw[fV]
def Lo (w:WT) (l:Y ET):WkD:=⟨l! l,l,l! w.2.1,λj=>zW l (fc l j) j,λj=>(oM (w,l,(j:Int))).getD [],λk=>lb w l (k:Int) (l! l)⟩
def Sm {w:WT} {l:Y ET} (tr:TR (w,l)) (A:j<l! l):oM (w,l,(j:Int))=Z ((Lo w l).Hd j)/\l! ((Lo w l).Hd j)<=j+1/\∃z:Int,apb l j z/\∀v,v∈(Lo w l).Hd j↔(∃k:Nat,k<j/\v=(k:Int)/\hrT w l j k)\/((eN l j).2.1=17/\0<=z/\v=z):=by
 let⟨z,D,hwk⟩:=apd tr A;let⟨L,hL,h1,N⟩:=avq tr A D;have e:(Lo w l).Hd j=L:=by show (oM (w,l,(j:Int))).getD []=L;rw[hL];rfl
 grind
def ah6 {w:WT} {l:Y ET} (tr:TR (w,l)) (z:j<l! l) (h:a∈(Lo w l).Hd j):0<=a/\a<(j:Int):=by
 let⟨_,_,D,h1,A⟩:=Sm tr z;rcases (A a).1 h with ⟨k,v,rfl,_⟩|⟨_,h0,rfl⟩
 .omega
 .rcases h1 with ⟨g,_⟩|⟨p,k,_,_,g,_,L,_⟩
  .omega
  .omega
def as6 {w:WT} {l:Y ET} (tr:TR (w,l)):WkF w l (Lo w l):=by
 have N:l! l<=400:=tr.len;have hL:l! w.2.1<=4:=tr.wb.l;refine ⟨rfl,rfl,rfl,λj z=>⟨O3 tr z,(BT l (fc l j) j).2⟩,λj z=>?_,?_,λk A=>?_⟩
 .obtain⟨h1,h2,_⟩:=Sm tr z;exact⟨h1,by omega,λv L=>by have:=ah6 tr z L;omega⟩
 .obtain⟨D,h0,h1⟩:=WU w (by omega);exact⟨D,h0,λk A=>Ya tr h1 A⟩
 .refine ⟨dc (U2 w l (k:Int) (l! l)) N,λp hp=>?_⟩;rcases (rz w l (k:Int) (l! l) p hp).r with h|⟨_,h,_⟩<;>omega
def att {w:WT} {l:Y ET} (tr:TR (w,l)):Ok (sT (w,l)) λy=>∃o z,I1 (l! l) z o/\WkO (Lo w l) o/\TbC l o (l! w.2.2.2.2.1) (l! l) y.1 y.2:=atu tr (as6 tr)
def as4 {cs:Y η} (D:j<l! cs):BY ((((j:Int),(l! (cs.getD j []):Int)),(i:Int)),cs)=Z ((cs.getD j []).getD i 0,cs):=by
 refine cI ?_;have z:kS (T:=aP) cs (j:Int)=cs.getD j []:=tH cs j;refine aV (λx=>x=((((j:Int),(l! (cs.getD j []):Int)),decide (l! (cs.getD j [])<=i)),cs)) ?_ ?_
 .refine cP (ak ?_);rw[a8];have:dy (aS (l! (cs.getD j []))) (i:Int)=decide (l! (cs.getD j [])<=i):=by unfold dy;simp
  rw[this];rfl
 rintro x rfl;refine aK (λh=>ak ?_) λh=>?_
 .grind
 .have h:i<l! (cs.getD j []):=Nat.lt_of_not_le h;rw[z];refine bH (bH (bH (aU (ak ?_))));have A:geti aP (cs.getD j []) (i:Int)=(cs.getD j []).getD i 0:=vB _ i;rw[A]
def ac6 (a b:Nat):lX (aS a) (aS b)=((max a b:Nat):Int):=Ga a b
def aue {cs:Y η} (a:i<l! cs) (D:l! z<=1000) (A:l! (cs.getD i [])<=1000) (h:u_ z (cs.getD i [])):sW ((z,(i:Int),(l! (cs.getD i []):Int)),cs)=Z (J,cs):=by
 refine cI ?_;unfold sW Di bS be c7 aI cQ;refine g9 (max (l! z) (l! (cs.getD i []))) (by omega) (λk x=>x=((((i:Int),(l! (cs.getD i []):Int)),(k:Int)),cs)) ?_ ?_ ?_
 .rintro k x hi rfl;refine cW ?_ (by dsimp only;rw[a8,ac6];omega);refine aZ ((congrFun aqo _).trans (Pd _ _)) ?_;refine aZ (as4 a) (cP (ak ?_) (h k));rw[fV];rfl
 .rintro x rfl;exact cP (ak rfl) (by dsimp only;rw[a8,ac6];omega)
 .grind
def aud {cs:Y η} (a:i<l! cs) (D:l! z<=1000) (A:l! (cs.getD i [])<=1000) (h:u_ (cs.getD i []) z):sV ((((i:Int),(l! (cs.getD i []):Int)),z),cs)=Z (J,cs):=by
 refine cI ?_;unfold sV Dh bS be c7 aI cQ;refine g9 (max (l! (cs.getD i [])) (l! z)) (by omega) (λk x=>x=((((i:Int),(l! (cs.getD i []):Int)),(k:Int)),cs)) ?_ ?_ ?_
 .rintro k x hi rfl;refine cW ?_ (by dsimp only;rw[a8,ac6];omega);refine aZ (as4 a) ?_;refine aZ ((congrFun aqo _).trans (Pd _ _)) ?_;refine cP (ak ?_) (h k);rw[fV];rfl
 .rintro x rfl;exact cP (ak rfl) (by dsimp only;rw[a8,ac6];omega)
 .grind
def apk {cs:Y η} (A:i<l! cs) (a:l! z<=1000) (h:cs.getD i []=z):Al ((z,(i:Int),(l! z:Int)),cs)=Z (J,cs):=by
 subst h;refine cI ?_;refine aV (λx=>x=(J,cs)) ?_ λx D=>ak D
 refine aZ (aue A a a u_.rfl) ?_;exact aZ (aud A a a u_.rfl) (ak rfl)
def aal {c:Y η} {T:Nat} (hT:T<=1000) (hc:l! c<=1000) {cs:Y η} (h1:l! z=l! c) (h2:l! cs=l! c) (h:∀j:Nat,j<l! c->z.getD j 0=(T:Int)/\l! (c.getD j [])=T/\cs.getD j []=c.getD j []):kc (c,z,cs)=Z (J,z,cs):=by
 refine cI ?_;unfold kc tO ck bS jK bX be c7 aI cQ;refine cq (λg=>(g ?_).elim) λ_=>?_
 .rw[h1]
 refine g9 (l! c) (by omega) (λj x=>x=((j:Int),z,cs)) ?_ ?_ rfl
 .rintro j x A rfl;let⟨g1,g2,N⟩:=h j A;refine cW (bH (aU (bH (bH ?_))));have D:geti (.sl aP) c (j:Int)=c.getD j []:=wT (T:=.sl aP) c j;have L:aS (m8 z (j:Int)).toNat=(l! (c.getD j []):Int):=by rw[Aq,g1,g2];rfl
  dsimp only;rw[D,L];refine aZ (apk (by omega) (by omega) N) (jP (ak ?_));rw[fV]
 .rintro x rfl;exact cP (ak rfl)
def ag7 {w:WT} {l:Y ET} (tr:TR (w,l)) {c:Y η} {tm:Y ν} {la:η} (D:CI w l (l! l) c tm la) (L:ClW (Lo w l) (Rw l c)) (hc:∀R,ClW (Lo w l) R->∀i j,i<l! l->j<l! l->Rw l c i j->R i j):
 ∃y,sT (w,l)=Z y/\kc (c,y)=Z (J,y):=by
 have hl:l! l<=400:=tr.len;have hT:l! w.2.2.2.2.1<=4:=tr.wb.t;let⟨⟨cl,cs⟩,h1,o,ln,sq,wo,A⟩:=att tr;refine ⟨(cl,cs),h1,?_⟩;have N:∀i j,i<l! l->j<l! l->(mj o i j=J↔Rw l c i j):=λi j hi z=>⟨wo.lo (Rw l c) L i j hi z,hc _ wo.cl i j hi z⟩
 have hcl:=D.k.cl;exact aal (T:=l! w.2.2.2.2.1) (by omega) (by omega) (A.a.trans hcl.symm) (A.b.trans hcl.symm) λj z=>by
  rw[hcl]at z;let⟨g1,g2⟩:=A.c j z;exact⟨g1,D.k.ln j z,g2.trans (ahx D z λi hi=>N i j hi z)⟩
def ay7 {w:WT} {l:Y ET} {c:Y η} {tm:Y ν} {la:η} (A:CI w l (l! l) c tm la) (h:i<j) (z:j<l! l) (ht:fc l i=fc l j):Rw l c i j:=by
 refine ⟨h,?_⟩;rw[ht,A.own j z];have:=Hb l (fc l j) (show i+1<=j+1 by omega);omega
def aya {w:WT} {l:Y ET} {c:Y η} {tm:Y ν} {la:η} (D:CI w l (l! l) c tm la) (A:j<l! l) (h:(Lo w l).Pv j=(i:Int)):Rw l c i j:=by
 have h:zW l (fc l j) j=(i:Int):=h;have h1:=(BT l (fc l j) j).2;have z:=(FG j (l:=l) (u:=fc l j) (by omega)).1;rw[h,a8]at z;exact ay7 D (by omega) A z
def ali {w:WT} {l:Y ET} {c:Y η} {tm:Y ν} {la:η} (A:CI w l (l! l) c tm la) (h:i<j) (D:j<l! l) (z:u_ (c.getD i []) (c.getD j [])):Rw l c i j:=by
 have:=z (fc l i);rw[A.own i (by omega)]at this;exact⟨h,this⟩
def ab5 {l:Y ET} {q:zN} (h:Dt l q i) (z:i<l! l):q.2.1<=(i:Int)/\i<enB l q/\(eN l i).1=q.1:=by
 refine ⟨h.2.1,?_,h.1⟩;have:=h.2.2;unfold enB;split<;>omega
def ay9 {w:WT} {l:Y ET} {c:Y η} {tm:Y ν} {la:η} (N:CI w l (l! l) c tm la) {p q:zN} (sl:api w l c p q) (fl:fol p q) (hq:0<=q.2.1) (ha:i<l! l) (z:j<l! l) (h1:Dt l p i) (A:Dt l q j) (L:Cnf (eN l i) (eN l j)):Rw l c p.2.2.1.toNat j:=by
 have p0:=fl.2.2.1;have p1:=fl.2.2.2;have D:=A.2.1;refine ali N (by omega) z (sl.cf i j ⟨h1.2.1,?_,h1.1⟩ (ab5 A z) L);have:=h1.2.2;omega
def ay8 {w:WT} {l:Y ET} {c:Y η} {tm:Y ν} {la:η} (L:CI w l (l! l) c tm la) {p q:zN} (sl:api w l c p q) (fl:fol p q) (q0:0<=q.2.2.1) (q1:q.2.2.1<(l! l:Int)) (N:q.2.1<q.2.2.1) (h:∃a b,a<l! l/\b<l! l/\Dt l p a/\Dt l q b/\Rw l c a b):Rw l c p.2.2.1.toNat q.2.2.1.toNat:=by
 let⟨a,b,ha,z,h1,D,A⟩:=h;have p0:=fl.2.2.1;have p1:=fl.2.2.2;refine ali L (by omega) (by omega) (sl.lk q0 ⟨a,b,⟨h1.2.1,?_,h1.1⟩,ab5 D z,A.2⟩);have:=h1.2.2;omega
def avw {w:WT} {l:Y ET} {c:Y η} {tm:Y ν} {la:η} (A:CI w l (l! l) c tm la) (hd:∀i j:Nat,j<l! l->(i:Int)∈(Lo w l).Hd j->Rw l c i j)
 (sl:∀k:Nat,k<=l! w.2.1->∀p∈lb w l (k:Int) (l! l),∀q∈lb w l (k:Int) (l! l),fol p q->api w l c p q):ClW (Lo w l) (Rw l c):=by
 refine ⟨λa m b _ _ N h g=>Rw.tr A N h g,λi j _ L h=>aya A L h,λi j _ L h=>hd i j L h,λk D p hp q z f a b ha N h1 h2 h3=>?_,λk D p hp q z f q0 h=>?_⟩
 .exact ay9 A (sl k D p hp q z f) f (rz w l (k:Int) (l! l) q z).a0 ha N h1 h2 h3
 .have hr:=(rz w l (k:Int) (l! l) q z).r;exact ay8 A (sl k D p hp q z f) f q0 (by omega) (by omega) h
abbrev gT (th:Y e!) (u:Int):e!:=geti iC th u
def Ir (xs:Y T.den) (j k:Int) (x:T.den) (A:0<=j) (z:0<=k) (D:k<l! xs):geti _ (cC xs j x) k=if k=j then x else geti _ xs k:=by
 by_cases h:j<l! xs
 .exact jH xs j k x A h z
 .rw[ax (by omega)];unfold geti cC
  grind
variable {N:Y (Int×Int×Bool)}
def Aa {t:Int} (s:Int) (D:0<=t) (A:0<=a) (z:a<l! N):gT (AX N t s) a=if a=t then (s,(gT N a).2) else gT N a:=by
 unfold AX gT;rw[Ir _ _ _ _ D A z];split
 .grind
 .rfl
def acz {t:Int} (s:Int) (D:0<=t) (A:0<=a) (z:a<l! N):gT (cdP N t s) a=if a=t then ((gT N a).1,s,(gT N a).2.2) else gT N a:=by
 unfold cdP gT;rw[Ir _ _ _ _ D A z];split
 .grind
 .rfl
def ad3 {t:Int} (s:Bool) (D:0<=t) (A:0<=a) (z:a<l! N):gT (atP N t s) a=if a=t then ((gT N a).1,(gT N a).2.1,s) else gT N a:=by
 unfold atP gT;rw[Ir _ _ _ _ D A z];split
 .grind
 .rfl
def awu (z:0<=a):∀(l:η) (th:Y e!),(∀x∈l,0<=x)->a<l! th->gT (FX th l) a=if a∈l then (4,(gT th a).2) else gT th a
 |[],th,_,_=>by simp[FX]
 |x::r,th,h,A=>by
  have e:FX th (x::r)=FX (AX th x 4) r:=rfl;rw[e,awu z r _ (λy D=>h y (cg _ D)) (by unfold AX;rw[bW];exact A),Aa 4 (h x (dk ..)) z A]
  grind
structure TH1 (k o v t u:Int) (g g':Int×Int×Bool):Prop where
 a:u=t->g.1≠0/\g.1≠3/\(k=16->g'.1=3/\g'.2.1=o)/\(k≠16->g'.1≠0/\g'.1≠3/\g'.1≠4)/\(k≠1->k≠17->g.1=2)
 b:u≠t->k=18->v=u->g.1=3/\g.2.1=o/\g'.1=4/\g'.2.1=o
 c:u≠t->k=19->g.1=3->g.2.1=o->g'.1=4/\g'.2.1=o
 d:u≠t->¬(k=18/\v=u)->¬(k=19/\g.1=3/\g.2.1=o)->g'.2.1=g.2.1/\(g'.1=g.1\/k=20/\o=u/\g.1=0/\g'.1=1)
 e:k=20->o=u->g'.1≠0
def TH1.same {o v t u:Int} {g g':e!} (h2:a≠1->a≠17->u=t->g.1=2) (e1:g'.1=g.1) (e2:g'.2.1=g.2.1) (n1:a≠1) (n2:a≠17) (n3:a≠16) (A:a≠20) (L:a=18->v=u->u=t) (D:a=19->g.1=3->g.2.1=o->u=t):TH1 a o v t u g g':=
 ⟨λh=>(by grind),λh h1 z=>(h (L h1 z)).elim,λh h1 z N=>(h (D h1 z N)).elim,λ_ _ _=>⟨e2,.inl e1⟩,λh=>(A h).elim⟩
def atm (w:WT) (s:SY) (t k o v:Int) (en:EN w s t k o) (rd:UK w s t k o) (z:k=18->v=(ph w s t k o v).2) (u:Int) (D:0<=u) (A:u<l! s.2.2.2):TH1 k o v t u (gT s.2.2.2 u) (gT (ph w s t k o v).1.2.2.2 u):=by
 have t0:=en.t0;have r2:k≠1->k≠17->u=t->(gT s.2.2.2 u).1=2:=λh1 h2 h3=>by subst h3;exact rd.r h1 h2
 have nm:=en.nm;have k1:=nm.k1;have k2:=nm.k2;let⟨s1,N,L,th⟩:=s;dsimp only at A r2;change TH1 k o v t u (gT th u) (gT (ph w (s1,N,L,th) t k o v).1.2.2.2 u);by_cases a1:k=1
 .subst a1;have e:gT (ph w (s1,N,L,th) t 1 o v).1.2.2.2 u=if u=t then (2,(gT th u).2) else gT th u:=Aa 2 t0 D A
  rw[e];refine ⟨λh=>?_,λ_ h=>by omega,λ_ h=>by omega,λh _ _=>by rw[ax h];exact⟨rfl,.inl rfl⟩,λh=>by omega⟩;have b:=rd.b rfl;rw[aE h];subst h;have b:(gT th u).1=1:=b;dsimp only;omega
 by_cases a2:k=2
 .subst a2;have e:gT (ph w (s1,N,L,th) t 2 o v).1.2.2.2 u=if u=t then (5,(gT th u).2) else gT th u:=Aa 5 t0 D A
  rw[e];refine ⟨λh=>?_,λ_ h=>by omega,λ_ h=>by omega,λh _ _=>by rw[ax h];exact⟨rfl,.inl rfl⟩,λh=>by omega⟩;have:=r2 (by omega) (by omega) h;rw[aE h];dsimp only;omega
 by_cases a14:k=14\/k=15
 .have e:∃b,gT (ph w (s1,N,L,th) t k o v).1.2.2.2 u=if u=t then ((gT th u).1,(gT th u).2.1,b) else gT th u:=by
   rcases a14 with rfl|rfl
   .exact⟨J,ad3 J t0 D A⟩
   .exact⟨af,ad3 af t0 D A⟩
  let⟨b,e⟩:=e;rw[e];refine TH1.same r2 (by split<;>rfl) (by split<;>rfl) a1 (by omega) (by omega) (by omega) (λh=>by omega) λh=>by omega
 by_cases a16:k=16
 .subst a16;have e:gT (ph w (s1,N,L,th) t 16 o v).1.2.2.2 u=if u=t then (3,o,(gT th u).2.2) else gT th u:=by
   have:gT (cdP (AX th t 3) t o) u=_:=acz o t0 D (by unfold AX;rw[bW];exact A);refine Eq.trans this ?_;rw[Aa 3 t0 D A];split<;>rfl
  rw[e];refine ⟨λh=>?_,λ_ h=>by omega,λ_ h=>by omega,λh _ _=>by rw[ax h];exact⟨rfl,.inl rfl⟩,λh=>by omega⟩;have:=r2 (by omega) (by omega) h;rw[aE h];exact⟨by omega,by omega,λ_=>⟨rfl,rfl⟩,λh=>(h rfl).elim,λ_ _=>this⟩
 by_cases a17:k=17
 .subst a17;have e:gT (ph w (s1,N,L,th) t 17 o v).1.2.2.2 u=if u=t then (2,0,(gT th u).2.2) else gT th u:=by
   have:gT (cdP (AX th t 2) t 0) u=_:=acz 0 t0 D (by unfold AX;rw[bW];exact A);refine Eq.trans this ?_;rw[Aa 2 t0 D A];split<;>rfl
  rw[e];refine ⟨λh=>?_,λ_ h=>by omega,λ_ h=>by omega,λh _ _=>by rw[ax h];exact⟨rfl,.inl rfl⟩,λh=>by omega⟩;have b:=(rd.wk rfl).1;rw[aE h];subst h;have b:(gT th u).1=4:=b;dsimp only;omega
 by_cases a18:k=18
 .subst a18;have z:=z rfl;rw[Fk]at z ⊢;dsimp only at z ⊢;by_cases hl:l! (wl th o (l! th))=0
  .rw[aE hl]at z ⊢;dsimp only at z ⊢;exact TH1.same r2 rfl rfl a1 (by omega) (by omega) (by omega) (λ_ h=>by omega) λh=>by omega
  .rw[ax hl]at z ⊢;dsimp only at z ⊢;have hv:v∈wl th o (l! th):=by
    unfold Ew at z;rw[ax hl]at z;split at z
    next h=>simpa using h
    .rw[z];exact bI (T:=aP) (by omega) (by omega)
   rw[<- z];let⟨v0,v1,v2⟩:=sQ.1 hv;unfold Pr at v2;simp only[au,bR]at v2;rw[Aa 4 v0 D A];refine ⟨λh=>?_,λh _ h2=>?_,λ_ h=>by omega,λh h2 _=>?_,λh=>by omega⟩
   .have:=r2 (by omega) (by omega) h;rw[ax (λq=>by rw[q]at this;exact bA (this.symm.trans v2.1) (by decide))];omega
   .subst h2;rw[aE rfl];exact⟨v2.1,v2.2,rfl,v2.2⟩
   .rw[ax λq=>h2 ⟨rfl,q.symm⟩];exact⟨rfl,.inl rfl⟩
 by_cases a19:k=19
 .subst a19;have e:gT (ph w (s1,N,L,th) t 19 o v).1.2.2.2 u=if u∈wl th o (l! th) then (4,(gT th u).2) else gT th u:=awu D _ th (λx hx=>(sQ.1 hx).1) A
  rw[e];have hm:u∈wl th o (l! th)↔(gT th u).1=3/\(gT th u).2.1=o:=by
   rw[sQ];unfold Pr;simp only[au,bR];exact⟨λh=>h.2.2,λh=>⟨D,A,h⟩⟩
  refine ⟨λh=>?_,λ_ h=>by omega,λh _ h3 h4=>?_,λh _ h3=>?_,λh=>by omega⟩
  .have:=r2 (by omega) (by omega) h;rw[ax (λq=>by have:=(hm.1 q).1;omega)];omega
  .rw[aE (hm.2 ⟨h3,h4⟩)];exact⟨rfl,h4⟩
  .rw[ax λq=>h3 ⟨rfl,hm.1 q⟩];exact⟨rfl,.inl rfl⟩
 by_cases a20:k=20
 .subst a20;have sp:=rd.sp rfl;have o0:=(nm.th (.inl rfl)).1;have e:gT (ph w (s1,N,L,th) t 20 o v).1.2.2.2 u=if u=o then (1,(gT th u).2) else gT th u:=Aa 1 o0 D A
  rw[e];refine ⟨λh=>?_,λ_ h=>by omega,λ_ h=>by omega,λh _ _=>?_,λ_ h=>?_⟩
  .have:=r2 (by omega) (by omega) h;rw[ax (λq=>sp.1 (by omega))];omega
  .by_cases q:u=o
   .subst q;rw[aE rfl];exact⟨rfl,.inr ⟨rfl,rfl,sp.2,rfl⟩⟩
   .rw[ax q];exact⟨rfl,.inl rfl⟩
  .rw[aE h.symm];show (1:Int)≠0;omega
 have e:(ph w (s1,N,L,th) t k o v).1.2.2.2=th:=by
  unfold ph;rw[ax a1,ax a2];repeat' split
  all_goals first|rfl|omega
 rw[e];exact TH1.same r2 rfl rfl a1 a17 a16 a20 (λh=>(a18 h).elim) λh=>(a19 h).elim
def YL {l:Y ET} (h:fc l i=j):∀n:Nat,i<n->(i:Int)<=zW l j n
 |0,hi=>bA hi (bN _)
 |n+1,hi=>by
  rw[zW];by_cases e:fc l n=j
  .omega
  .rw[ax e];by_cases z:i=n
   .grind
   .exact YL h n (by omega)
def ntU (l:Y ET) (u:Int) (p i:Nat):Prop:=((eN l i).2.1=18/\(eN l i).2.2.2.1=u)\/((eN l i).2.1=19/\(eN l i).2.2.1=(eN l p).2.2.1)
abbrev gN9 (w:WT) (l:Y ET) (i u:Nat):e!:=gT (Kk w (l.take i)).1.2.2.2 (u:Int)
def Fx (x:η) {t:Int} (v:Int) (z:0<=t) (A:i<l! x):(cC x t v).getD i 0=if t=(i:Int) then v else x.getD i 0:=by
 have e:t=((t.toNat:Nat):Int):=by omega
 rw[e,ry,aF,em]
 grind
def ah4 {e:ET} {wt:η} {u:Nat} (A:u<l! wt) (D:0<=e.1):(HE e wt).getD u 0=if e.2.1=16/\e.1=(u:Int) then e.2.2.1 else if e.2.1=18/\e.2.2.2.1=(u:Int)\/e.2.1=19/\wt.getD u 0=e.2.2.1 then -1 else wt.getD u 0:=by
 unfold HE;by_cases k16:e.2.1=16
 .rw[aE k16,Fx _ _ D A]
  grind
 rw[ax k16,ax (show ¬(e.2.1=16/\e.1=(u:Int)) from λz=>k16 z.1)];by_cases k18:e.2.1=18
 .rw[aE k18];by_cases v0:0<=e.2.2.2.1
  .rw[aE v0,Fx _ _ v0 A]
   grind
  .grind
 rw[ax k18];by_cases k19:e.2.1=19
 .rw[aE k19,abt _ _ _ A]
  grind
 grind
def ah5 {j:Int} {e:ET} {wt wa:η} {u:Nat} (z:u<l! wa) (A:u<l! wt):(EJ j e wt wa).getD u 0=if e.2.1=18/\e.2.2.2.1=(u:Int)\/e.2.1=19/\wt.getD u 0=e.2.2.1 then j else wa.getD u 0:=by
 unfold EJ;by_cases k18:e.2.1=18
 .rw[aE k18];by_cases v0:0<=e.2.2.2.1
  .rw[aE v0,Fx _ _ v0 z]
   grind
  .grind
 rw[ax k18];by_cases k19:e.2.1=19
 .rw[aE k19,abu _ _ _ _ _ z]
  grind
 grind
structure WV (w:WT) (l:List ET) (j:Nat) (la sp wa wt:η) (u:Nat) (g:Int×Int×Bool):Prop where
 L:la.getD u 0=zW l u j
 W:wt.getD u 0=if g.1=3 then g.2.1 else -1
 p:g.1=3\/g.1=4->0<=zW l u j/\(eN l (zW l u j).toNat).2.1=16/\(eN l (zW l u j).toNat).2.2.1=g.2.1
 a:g.1=3->∀i,(zW l u j).toNat<i->i<j->¬ntU l u (zW l u j).toNat i
 n:g.1=4->∃k:Nat,wa.getD u 0=(k:Int)/\(zW l u j).toNat<k/\k<j/\ntU l u (zW l u j).toNat k/\∀i,(zW l u j).toNat<i->i<k->¬ntU l u (zW l u j).toNat i
 s:g.1=0->∀k,k<j->¬((eN l k).2.1=20/\(eN l k).2.2.1=(u:Int))
 q:∀i:Nat,i<j->(eN l i).2.1=20->(eN l i).2.2.1=(u:Int)->sp.getD u 0=(i:Int)
 r:0<=sp.getD u 0->(eN l (sp.getD u 0).toNat).2.1=20/\(eN l (sp.getD u 0).toNat).2.2.1=(u:Int)
def WV.step {w:WT} {l:Y ET} {la sp wa wt:η} (h:WV w l j la sp wa wt i (gN9 w l j i)) (hj:j<l! l) (sc:SCx w (l.take j) (Kk w (l.take j)).1 (Kk w (l.take j)).2.1 (Kk w (l.take j)).2.2 (eN l j)) (hu:i<l! w.2.2.2.2.1) (h1:l! la=l! w.2.2.2.2.1) (h2:l! sp=l! w.2.2.2.2.1) (h3:l! wa=l! w.2.2.2.2.1) (h4:l! wt=l! w.2.2.2.2.1):
 WV w l (j+1) (cC la (eN l j).1 (j:Int)) (z_ (j:Int) (eN l j) sp) (EJ (j:Int) (eN l j) wt wa) (HE (eN l j) wt) i (gN9 w l (j+1) i):=by
 have en:=sc.en;have t0:=en.t0;have hsp:=sc.rd.sp;have ho:=en.nm.th;have hcd:=en.nm.cd;have eg:gN9 w l (j+1) i=gT (ph w (Kk w (l.take j)).1 (eN l j).1 (eN l j).2.1 (eN l j).2.2.1 (eN l j).2.2.2.1).1.2.2.2 (i:Int):=by unfold gN9;rw[OW w hj]
 have T1:TH1 (eN l j).2.1 (eN l j).2.2.1 (eN l j).2.2.2.1 (eN l j).1 (i:Int) (gN9 w l j i) (gN9 w l (j+1) i):=by
  rw[eg];exact atm w (Kk w (l.take j)).1 (eN l j).1 (eN l j).2.1 (eN l j).2.2.1 (eN l j).2.2.2.1 en sc.rd (λh=>sc.va.el (by omega) (by omega) (by omega) (by omega) (by omega)) (i:Int) (by omega) (by rw[en.e3];omega)
 have hsp':(eN l j).2.1=20->(eN l j).2.2.1=(i:Int)->(gN9 w l j i).1=0:=λa b=>by
  have:=(hsp a).2;rw[b]at this;exact this
 clear eg en sc hsp;have eW:=ah4 (e:=eN l j) (wt:=wt) (u:=i) (by omega) t0;have eA:=ah5 (j:=(j:Int)) (e:=eN l j) (wt:=wt) (wa:=wa) (u:=i) (by omega) (by omega);have pv':zW l i (j+1)=if fc l j=i then (j:Int) else zW l i j:=rfl
 have hth:fc l j=i↔(i:Int)=(eN l j).1:=by unfold fc;omega
 have hpl:=BT l i j;have eS:(z_ (j:Int) (eN l j) sp).getD i 0=if (eN l j).2.1=20/\(eN l j).2.2.1=(i:Int) then (j:Int) else sp.getD i 0:=by
  unfold z_;by_cases k:(eN l j).2.1=20
  .rw[aE k,Fx _ _ (ho (.inl k)).1 (by omega)];by_cases q:(eN l j).2.2.1=(i:Int)
   .rw[aE q,aE ⟨k,q⟩]
   .rw[ax q,ax λz=>q z.2]
  .rw[ax k,ax λz=>k z.1]
 let⟨aL,aW,ap,aa,an,as',aq,ar⟩:=h;have hL:(cC la (eN l j).1 (j:Int)).getD i 0=zW l i (j+1):=by
  rw[Fx _ _ t0 (by omega),pv',aL];by_cases q:fc l j=i
  .rw[aE q,aE (hth.1 q).symm]
  .rw[ax q,ax λz=>q (hth.2 z.symm)]
 have hq:∀u:Nat,u<j+1->(eN l u).2.1=20->(eN l u).2.2.1=(i:Int)->(z_ (j:Int) (eN l j) sp).getD i 0=(u:Int):=λu hi a b=>by grind
 have hr:0<=(z_ (j:Int) (eN l j) sp).getD i 0->(eN l ((z_ (j:Int) (eN l j) sp).getD i 0).toNat).2.1=20/\(eN l ((z_ (j:Int) (eN l j) sp).getD i 0).toNat).2.2.1=(i:Int):=by
  rw[eS];by_cases q:(eN l j).2.1=20/\(eN l j).2.2.1=(i:Int)
  .rw[aE q,a8];exact λ_=>q
  .rw[ax q];exact ar
 clear eS aL aq ar;let⟨ta,tb,tc,td,te⟩:=T1;generalize gN9 w l (j+1) i=g' at*
 generalize gN9 w l j i=g at*
 generalize hP:zW l i j=P at*
 by_cases D:(i:Int)=(eN l j).1
 .obtain⟨b1,b2,b3,b4,_⟩:=ta D;rw[aE (hth.2 D)]at pv';rw[ax b2]at aW;by_cases k16:(eN l j).2.1=16
  .obtain⟨c1,c2⟩:=b3 k16;refine ⟨hL,by rw[eW,aE ⟨k16,D.symm⟩,aE c1,c2],λ_=>?_,λ_ u x y=>?_,λh=>by omega,λh=>by omega,hq,hr⟩
   .rw[pv',a8];exact⟨by omega,k16,c2.symm⟩
   .rw[pv',a8]at x;omega
  .obtain⟨c1,c2,c3⟩:=b4 k16;refine ⟨hL,?_,λh=>by omega,λh=>by omega,λh=>by omega,λh=>by omega,hq,hr⟩;rw[eW,ax (λx=>k16 x.1),ax c2,aW];split<;>rfl
 rw[ax λz=>D (hth.1 z)]at pv';rw[ax (λx=>D x.2.symm)]at eW;by_cases A:(eN l j).2.1=18/\(eN l j).2.2.2.1=(i:Int)\/(eN l j).2.1=19/\wt.getD i 0=(eN l j).2.2.1
 .have B:g.1=3/\g'.1=4/\g'.2.1=g.2.1/\((eN l j).2.1=19->g.2.1=(eN l j).2.2.1):=by
   grind
  let⟨N,L,d3,d4⟩:=B;let⟨p1,p2,p3⟩:=ap (.inl N);rw[aE A]at eW eA;have hnt:ntU l i P.toNat j:=by
   rcases A with A|⟨k,_⟩
   .exact .inl A
   .exact .inr ⟨k,by rw[p3,d4 k]⟩
  refine ⟨hL,by rw[eW,ax (by omega)],λ_=>by rw[pv',d3];exact⟨p1,p2,p3⟩,λh=>by omega,λ_=>⟨j,eA,?_⟩,λh=>by omega,hq,hr⟩;rw[pv'];exact⟨by omega,by omega,hnt,aa N⟩
 rw[ax A]at eW eA;let⟨N,L⟩:=td D (λq=>A (.inl q)) λq=>A (.inr ⟨q.1,by rw[aW,aE q.2.1,q.2.2]⟩)
 have nm:g.1=3->¬ntU l i P.toNat j:=λq m=>by
  let⟨_,_,p3⟩:=ap (.inl q);rcases m with m|⟨k,m⟩
  .exact A (.inl m)
  .exact A (.inr ⟨k,by rw[aW,aE q,m,p3]⟩)
 refine ⟨hL,?_,λq=>?_,λq u x y=>?_,λq=>?_,λq k hk=>?_,hq,hr⟩
 .rw[eW,aW,N];rcases L with L|L
  .rw[L]
  .rw[ax (by omega),ax (by omega)]
 .rw[pv',N];exact ap (by omega)
 .have q:g.1=3:=by omega
  rw[pv']at x ⊢;by_cases z:u=j
  .subst z;exact nm q
  .exact aa q u x (by omega)
 .obtain⟨k,k1,k2,k3,k4⟩:=an (by omega);rw[pv'];exact⟨k,eA.trans k1,k2,by omega,k4⟩
 .have q0:g.1=0:=by omega
  by_cases e:k=j
  .subst e;exact λr=>te r.1 r.2 q
  .exact as' q0 k (by omega)
def asc:∀n,∀x∈thP n,x.1=0\/x.1=1
 |0,x,h=>by cases h
 |n+1,x,h=>by
  rcases a_.1 h with rfl|h
  .exact .inr rfl
  .grind
def WV.zero (w:WT) (l:Y ET) (u:Nat) (A:u<l! w.2.2.2.2.1):WV w l 0 (aG (l! w.2.2.2.2.1) (-1)) (aG (l! w.2.2.2.2.1) (-1)) (aG (l! w.2.2.2.2.1) (-1)) (aG (l! w.2.2.2.2.1) (-1)) u (gN9 w l 0 u):=by
 have h1:(gN9 w l 0 u).1=0\/(gN9 w l 0 u).1=1:=asc _ _ (bI (T:=iC) (xs:=thP (l! w.2.2.2.2.1)) (j:=(u:Int)) (by omega) (by rw[Lp];omega));have hW:(aG (l! w.2.2.2.2.1) (-1:Int)).getD u 0= -1:=by grind
 exact⟨hW,by rw[hW,ax (by omega)],λh=>by omega,λh=>by omega,λh=>by omega,λ_ k z=>bA z (bN _),λi hi=>bA hi (bN _),λh=>by omega⟩
def LV (l:Y ET) (n:Nat) (kk:Int) (j:Nat) (si:Y η):Prop:=∀o:Nat,o<n->∀v:Int,v∈si.getD o []↔∃i:Nat,i<j/\v=(i:Int)/\(eN l i).2.1=kk/\(eN l i).2.2.1=(o:Int)
def LV.step {l:Y ET} {si:Y η} (h:LV l i a j si) (D:l! si=i) (h0:(eN l j).2.1=a->0<=(eN l j).2.2.1):LV l i a (j+1) (QP a (j:Int) (eN l j) si):=λo z v=>by
 rw[adb a (j:Int) (eN l j) si (by omega) h0];have A:=h o z v
 grind
def LV.zero (l:Y ET) (n:Nat) (kk:Int):LV l n kk 0 (aG n []):=λo z v=>by grind
structure WVs (w:WT) (l:List ET) (j:Nat) (la sp wa wt:η) (si ei:List η):Prop where
 v:∀u:Nat,u<l! w.2.2.2.2.1->WV w l j la sp wa wt u (gN9 w l j u)
 s:LV l (l! w.1) 4 j si
 e:LV l (l! w.2.2.2.1) 22 j ei
def WVs.wake {w:WT} {l:Y ET} {la sp wa wt:η} {si ei:Y η} (h:WVs w l j la sp wa wt si ei) (tr:TR (w,l)) (z:j<l! l) (k:(eN l j).2.1=17) (D:apb l j a):a=wa.getD (fc l j) 0/\0<=a:=by
 have N:=ND tr z;have A:(gN9 w l j (fc l j)).1=4:=by
  have:=((tr.sc z).rd.wk k).1;exact this
 let⟨p0,p16,_⟩:=(h.v _ (HH tr z)).p (.inr A);let⟨k1,e1,l1,l2,n1,f1⟩:=(h.v _ (HH tr z)).n A;have nt:∀p i,ntT l j p i↔ntU l (fc l j:Int) p i:=λp i=>by unfold ntT ntU;rw[N]
 rcases D with ⟨_,hno⟩|⟨p,k2,L,_,rfl,l3,l4,n2,f2⟩
 .grind
 .grind
def WVs.src {w:WT} {l:Y ET} {la sp wa wt:η} {si ei:Y η} (h:WVs w l j la sp wa wt si ei) (tr:TR (w,l)) (A:j<l! l) (hs:EA (l! w.2.2.2.2.1) j sp) (m:a∈tY w la sp wa si ei (eN l j)) (s0:0<=a):(Lo w l).Pv j=a\/a∈(Lo w l).Hd j:=by
 have D:=ND tr A;have N:=HH tr A;have V:=h.v _ N;have hev:Ht w (eN l j):=tr.ev _ (pC A);have nm:=hev.nm;let⟨_,_,wk,hwk,hd⟩:=Sm tr A;rcases bO.1 m with m|m
 .rw[aC,D,vB,V.L]at m;exact .inl m.symm
 refine .inr ((hd a).2 ?_);split at m
 next k=>rw[aC,D,vB]at m;have:=(hs.2 _ N).2;let⟨r1,r2⟩:=V.r (by omega);exact .inl ⟨a.toNat,by omega,by omega,.inl ⟨k,by rw[m];exact r1,by rw[m,D];exact r2⟩⟩
 split at m
 .rename_i k;let⟨o0,o1⟩:=nm.th (.inr k);have z:(eN l j).2.2.1=(((eN l j).2.2.1.toNat:Nat):Int):=by omega
  rw[aC,z,vB,(h.v _ (by omega)).L]at m;have h1:=BT l (eN l j).2.2.1.toNat j;have h2:=(FG (l:=l) (u:=(eN l j).2.2.1.toNat) j (by omega)).1;rw[<- m]at h1 h2;exact .inl ⟨a.toNat,by omega,by omega,.inr (.inl ⟨k,by rw[ND tr (by omega),h2];exact z.symm⟩)⟩
 split at m
 .rename_i k;let⟨o0,o1⟩:=nm.fu (.inr k);have z:(eN l j).2.2.1=(((eN l j).2.2.1.toNat:Nat):Int):=by omega
  let⟨i,s,b,c,d⟩:=(h.e _ (by omega) a).1 m;exact .inl ⟨i,s,b,.inr (.inr (.inr ⟨k,c,by rw[d];exact z.symm⟩))⟩
 split at m
 .rename_i k;split at m
  .rename_i kv;let⟨o0,o1⟩:=nm.ce (.inl k);have z:(eN l j).2.2.1=(((eN l j).2.2.1.toNat:Nat):Int):=by omega
   have m':a∈kS (T:=aP) si (((eN l j).2.2.1.toNat:Nat):Int):=by grind
   let⟨i,s,b,c,d⟩:=(h.s _ (by omega) a).1 m';exact .inl ⟨i,s,b,.inr (.inr (.inl ⟨k,kv,c,by rw[d];exact z.symm⟩))⟩
  .cases m
 split at m
 next k=>rw[aC,D,vB]at m;let⟨w1,w2⟩:=h.wake tr A k hwk;omega
 .cases m
def WVs.hd {w:WT} {l:Y ET} {la sp wa wt:η} {si ei:Y η} (h:WVs w l j la sp wa wt si ei) (tr:TR (w,l)) (A:j<l! l) (m:(i:Int)∈(Lo w l).Hd j):∃s:Nat,(s:Int)∈tY w la sp wa si ei (eN l j)/\i<=s/\s<j/\fc l i=fc l s:=by
 have et:=ND tr A;have tl:=HH tr A;have V:=h.v _ tl;have hev:Ht w (eN l j):=tr.ev _ (pC A);have nm:=hev.nm;have lt:=ah6 tr A m;let⟨_,_,wk,hwk,hd⟩:=Sm tr A;have one:(i:Int)∈tY w la sp wa si ei (eN l j)->∃s:Nat,(s:Int)∈tY w la sp wa si ei (eN l j)/\i<=s/\s<j/\fc l i=fc l s:=λq=>⟨i,q,bJ _,by omega,rfl⟩
 rcases (hd (i:Int)).1 m with ⟨D,a,b,c⟩|⟨k,w0,e⟩
 .have:D=i:=by omega
  subst this;rcases c with ⟨k,c,d⟩|⟨k,c⟩|⟨k,kv,c,d⟩|⟨k,c,d⟩
  .refine one (fJ _ ?_);rw[aE k,aC,et,vB];exact (V.q D a c (by omega)).symm
  .obtain⟨o0,N⟩:=nm.th (.inr k);have z:(eN l j).2.2.1=(((eN l j).2.2.1.toNat:Nat):Int):=by omega
   have ti:fc l D=(eN l j).2.2.1.toNat:=by unfold fc;rw[c]
   have hge:=YL ti j a;have h1:=BT l (eN l j).2.2.1.toNat j;have h2:=(FG (l:=l) (u:=(eN l j).2.2.1.toNat) j (by omega)).1;refine ⟨(zW l (eN l j).2.2.1.toNat j).toNat,fJ _ ?_,by omega,by omega,by rw[h2,ti]⟩;rw[ax (by omega),aE k,aC,z,vB,(h.v _ (by omega)).L,a8];omega
  .obtain⟨o0,N⟩:=nm.ce (.inl k);have z:(eN l j).2.2.1=(((eN l j).2.2.1.toNat:Nat):Int):=by omega
   refine one (fJ _ ?_);rw[ax (by omega),ax (by omega),ax (by omega),aE k,aE (show (geti lF w.1 (eN l j).2.2.1).2.2.2.1=J from kv),z,tH];exact (h.s _ (by omega) _).2 ⟨D,a,rfl,c,by rw[d];exact z⟩
  .obtain⟨o0,N⟩:=nm.fu (.inr k);have z:(eN l j).2.2.1=(((eN l j).2.2.1.toNat:Nat):Int):=by omega
   refine one (fJ _ ?_);rw[ax (by omega),ax (by omega),aE k,z,tH];exact (h.e _ (by omega) _).2 ⟨D,a,rfl,c,by rw[d];exact z⟩
 .refine one (fJ _ ?_);rw[ax (by omega),ax (by omega),ax (by omega),ax (by omega),aE k,aC,et,vB,e];exact (h.wake tr A k hwk).1
def an7 {op:Y d?} {x:d?} (h:x∈op):jL x.1 op=J:=by
 induction op with
 |nil=>cases h
 |cons e r z=>
  simp only[jL];rcases a_.1 h with rfl|h
  .rw[uQ.2 rfl];rfl
  .rw[z h,Bool.or_true]
def vR {w:WT} {l:Y ET} {s:zN} (h:s∈lb w l a i):(¬(fA w (eN l i)=a/\s.1=(eN l i).1/\s.2.2.1<0)->s∈lb w l a (i+1))/\(fA w (eN l i)=a->s.1=(eN l i).1->s.2.2.1<0->(s.1,s.2.1,(i:Int),s.2.2.2)∈lb w l a (i+1)):=by
 refine ⟨λg=>eR _ ?_,λL D A=>eR _ ?_⟩
 .by_cases z:fA w (eN l i)=a
  .rw[aE z];unfold clS
   grind
  .rw[ax z];exact h
 .rw[aE L];refine cu.2 ⟨s,h,?_⟩;unfold clS;rw[aE ⟨D,A⟩]
def L3 {w:WT} {l:Y ET} {s:zN} (h:s∈lb w l a i) (h0:0<=s.2.2.1) (hm:i<=j):s∈lb w l a j:=by
 induction hm with
 |refl=>exact h
 |step _ z=>exact (vR z).1 λg=>by omega
variable {b:Bool}
def ahr {w:WT} {l:Y ET} {t d:Int} (h:(t,d,(-1:Int),b)∈lb w l a i) (hm:i<=j):∃r:Int,(t,d,r,b)∈lb w l a j/\(r<0\/(i:Int)<=r):=by
 induction hm with
 |refl=>exact⟨-1,h,.inl (by omega)⟩
 |@step j hm z=>
  have hm:i<=j:=hm;let⟨r,h1,A⟩:=z;by_cases g:fA w (eN l j)=a/\t=(eN l j).1/\r<0
  .exact⟨(j:Int),(vR h1).2 g.1 g.2.1 g.2.2,.inr (by omega)⟩
  .exact⟨r,(vR h1).1 g,A⟩
def ap5 {w:WT} {e:ET} (hev:Ht w e):mS w e<=(l! w.2.1:Int):=by
 unfold mS;split
 next g=>have:=hev.nm.lk (by omega);omega
 split
 next g=>let⟨a,b⟩:=hev.nm.cd ⟨by omega,by omega⟩;have:=hev.cd _ (bI (T:=itK) a b);omega
 split<;>omega
structure CSc (w:WT) (l:List ET) (j:Nat) (op:List (ν×Int)) (re:η) (ar:List WO):Prop where
 o:∀x∈op,(x.1.1,(bf ar x.2).bg,(-1:Int),(bf ar x.2).rd)∈lb w l x.1.2 j/\x.1.2<=(l! w.2.1:Int)
 e:∀p∈re,((bf ar p).th,(bf ar p).bg,(bf ar p).en,(bf ar p).rd)∈lb w l (bf ar p).lk j/\(bf ar p).lk<=(l! w.2.1:Int)
def CSc.next {w:WT} {l:Y ET} {op:Y d?} {re:η} {ar:Y WO} (hev:Ht w (eN l j)) (A:WS j op re ar) (h:CSc w l j op re ar):CSc w l (j+1) (Re w (eN l j) op (ng w (eN l j) op ar)) (yB w (eN l j) op re) (BJ w (j:Int) (eN l j) op (ng w (eN l j) op ar)):=by
 have sam:=CS (w:=w) (e:=eN l j) A.op A.oo;have ws1:=A.sam sam;have al:=ap5 hev;have hln:=sam.ln;generalize ng w (eN l j) op ar=ar1 at*
 have hdb:∀i,(bf ar1 i).bg=(bf ar i).bg:=λi=>by unfold WO.bg;rw[sam.hd]
 have hdr:∀i,(bf ar1 i).rd=(bf ar i).rd:=λi=>by unfold WO.rd;rw[sam.hd]
 refine ⟨λx z=>?_,λp hp=>?_⟩
 .have old:x∈xP w (eN l j) op->(x.1.1,(bf (BJ w (j:Int) (eN l j) op ar1) x.2).bg,(-1:Int),(bf (BJ w (j:Int) (eN l j) op ar1) x.2).rd)∈lb w l x.1.2 (j+1)/\x.1.2<=(l! w.2.1:Int):=λz=>by
   let⟨hm,hne⟩:=Fz A.ks z;have hr:=ws1.op _ hm;have D:bf (BJ w (j:Int) (eN l j) op ar1) x.2=bf ar1 x.2:=by
    rw[HN hr.1 hr.2];exact SA ws1 z (j:Int)
   rw[D,hdb,hdr];let⟨a,b⟩:=h.o x hm;refine ⟨(vR a).1 λg=>?_,b⟩;have he:x.1=((eN l j).1,fA w (eN l j)):=sC g.2.1 g.1.symm;refine hne ?_ he;unfold scQ;rw[<- he];exact an7 hm
  unfold Re at z;split at z
  .rename_i g0;rcases Mo (Rd A.ks) z with rfl|⟨z,_⟩
   .have D:bf (BJ w (j:Int) (eN l j) op ar1) (l! ar1:Int)=(((eN l j).1,mS w (eN l j),(j:Int),-1,decide ((eN l j).2.1=8)),[],[]):=by
     unfold BJ;rw[aE g0,<-BR w (j:Int) (eN l j) op ar1];exact Lw _ _
    rw[D,lb]
    grind
   .exact old z
  .exact old z
 .have olde:p∈re->((bf (BJ w (j:Int) (eN l j) op ar1) p).th,(bf (BJ w (j:Int) (eN l j) op ar1) p).bg,(bf (BJ w (j:Int) (eN l j) op ar1) p).en,(bf (BJ w (j:Int) (eN l j) op ar1) p).rd)∈lb w l (bf (BJ w (j:Int) (eN l j) op ar1) p).lk (j+1)/\(bf (BJ w (j:Int) (eN l j) op ar1) p).lk<=(l! w.2.1:Int):=λhp=>by
   let⟨⟨p0,p1⟩,p2⟩:=A.r p hp;have hn:=(A.en p hp).2.2;have D:bf (BJ w (j:Int) (eN l j) op ar1) p=bf ar p:=by
    rw[HN p0 (by omega),rA ws1.op,ax,sam.eq p p2];rintro⟨L,hz⟩;have h1:=ws1.oo _ (gg _ L);have N:bf ar1 p=bf ar1 (c_ ((eN l j).1,fA w (eN l j)) op):=by unfold bf dO;rw[hz]
    rw[<- N,sam.eq p p2]at h1;exact p2 h1
   rw[D];let⟨a,b⟩:=h.e p hp;exact⟨(vR a).1 λg=>by have:=g.2.2;dsimp only at this;omega,b⟩
  unfold yB at hp;split at hp
  .rename_i L;rcases bO.1 hp with hp|hp
   .exact olde hp
   .rw[aC]at hp;subst hp;have hm:=gg _ L;let⟨⟨a0,a1⟩,a2,a3,_⟩:=A.o _ hm;have D:bf (BJ w (j:Int) (eN l j) op ar1) (c_ ((eN l j).1,fA w (eN l j)) op)=IC (j:Int) (bf ar1 (c_ ((eN l j).1,fA w (eN l j)) op)):=by
     rw[HN a0 (by omega),rA ws1.op,aE ⟨L,rfl⟩]
    rw[D];let⟨b1,b2⟩:=h.o _ hm;have N:(IC (j:Int) (bf ar1 (c_ ((eN l j).1,fA w (eN l j)) op))).th=(eN l j).1:=by show (bf ar1 _).1.1=_;rw[sam.hd];exact a2
    have e2:(IC (j:Int) (bf ar1 (c_ ((eN l j).1,fA w (eN l j)) op))).lk=fA w (eN l j):=by show (bf ar1 _).1.2.1=_;rw[sam.hd];exact a3
    rw[N,e2];refine ⟨?_,b2⟩;rw[<- hdb,<-hdr]at b1;exact (vR b1).2 rfl rfl (by simp)
  .exact olde hp
def AcE (l:Y ET) (n:Nat) (h:Int×Q?) (kk o:Int):Prop:=∃a:Nat,h.2.2.1<=(a:Int)/\a<n/\(h.2.2.2.1= -1\/(a:Int)<=h.2.2.2.1)/\(eN l a).1=h.1/\(eN l a).2.1=kk/\(eN l a).2.2.1=o
def AcE.up {l:Y ET} {h:Int×Q?} {o:Int} (kk:AcE l i h a o):AcE l (i+1) h a o:=by
 let⟨kk,h1,A,z⟩:=kk;exact⟨kk,h1,by omega,z⟩
def MAo (l:Y ET) (n:Nat) (P:WO):Prop:=∀o:Int,(VD o P.2.2=J->AcE l n P.1 4 o)/\(VD o P.2.1=J->AcE l n P.1 3 o)
def MAc (l:Y ET) (n:Nat) (ar:Y WO):Prop:=∀i:Int,i.toNat<l! ar->MAo l n (bf ar i)
def ado {l:Y ET} {op:Y d?} {re:η} {ar:Y WO} (z:WS j op re ar) (h:MAc l j ar) (hk:(eN l j).2.1=3\/(eN l j).2.1=4):∀n,MAc l (j+1) (zH (eN l j) op ar n)
 |0=>λi hi o=>⟨λg=>((h i hi o).1 g).up,λg=>((h i hi o).2 g).up⟩
 |n+1=>by
  have D:=ado z h hk n;have sam:=zG (e:=eN l j) z.op z.oo n;by_cases L:jL ((eN l j).1,(n:Int)) op=J
  .rw[Hn L];intro i hi;rw[WM]at hi;let⟨⟨q0,q1⟩,q2,q3,q4,_⟩:=z.o _ (gg _ L);have N:=(z.a (c_ ((eN l j).1,(n:Int)) op).toNat (by omega)).1;rw[<- FR]at N;have hn:∀kk o:Int,(eN l j).2.1=kk->(eN l j).2.2.1=o->AcE l (j+1) (bf (zH (eN l j) op ar n) (c_ ((eN l j).1,(n:Int)) op)).1 kk o:=λkk o a b=>by
    rw[sam.hd];exact⟨j,by have:=N.2;unfold WO.bg at this;omega,by omega,.inl q4,q2.symm,a,b⟩
   have A:=D (c_ ((eN l j).1,(n:Int)) op) (by rw[sam.ln];omega);rw[Co _ _ (by rw[sam.ln];omega)];by_cases hz:i.toNat=(c_ ((eN l j).1,(n:Int)) op).toNat
   .rw[aE hz];by_cases k4:(eN l j).2.1=4
    .rw[aE k4];refine λo=>⟨λg=>?_,(A o).2⟩
     rw[De]at g;split at g
     .grind
     .exact (A o).1 g
    .rw[ax k4];refine λo=>⟨(A o).1,λg=>?_⟩
     rw[De]at g;split at g
     .grind
     .exact (A o).2 g
   .rw[ax hz];exact D i hi
  .rw[Uy L];exact D
def MAc.next {w:WT} {l:Y ET} {op:Y d?} {re:η} {ar:Y WO} (z:WS j op re ar) (h:MAc l j ar):MAc l (j+1) (BJ w (j:Int) (eN l j) op (ng w (eN l j) op ar)):=by
 have sam:=CS (w:=w) (e:=eN l j) z.op z.oo;have ws1:=z.sam sam;have h1:MAc l (j+1) (ng w (eN l j) op ar):=by
  unfold ng;split
  next N=>exact ado z h N _
  .exact λi hi o=>⟨λg=>((h i hi o).1 g).up,λg=>((h i hi o).2 g).up⟩
 generalize ng w (eN l j) op ar=ar1 at*
 have L:MAc l (j+1) (yC w (j:Int) (eN l j) op ar1):=λi hi=>by
  rw[BR]at hi;rw[rA ws1.op];split
  .rename_i A;have D:=h1 (c_ ((eN l j).1,fA w (eN l j)) op) (by omega);have up:∀kk o:Int,AcE l (j+1) (bf ar1 (c_ ((eN l j).1,fA w (eN l j)) op)).1 kk o->AcE l (j+1) (IC (j:Int) (bf ar1 (c_ ((eN l j).1,fA w (eN l j)) op))).1 kk o:=λkk o ⟨a,b1,b2,b3,b4⟩=>⟨a,b1,b2,.inr (by show (a:Int)<=(j:Int);omega),b4⟩
   exact λo=>⟨λg=>up _ _ ((D o).1 g),λg=>up _ _ ((D o).2 g)⟩
  .exact h1 i hi
 unfold BJ;split
 .intro i hi;rw[bC,cH]at hi;by_cases A:i.toNat<l! (yC w (j:Int) (eN l j) op ar1)
  .rw[FU _ A];exact L i A
  .have e:i.toNat=l! (yC w (j:Int) (eN l j) op ar1):=by omega
   rw[FR,e,Lw];exact λo=>⟨nofun,nofun⟩
 .exact L
def agq (l:Y ET) (j:Nat) (R:Nat->Nat->Prop) (clk:η):Prop:=∀i:Nat,i<j->(ct l (fc l i) (i+1):Int)<=clk.getD (fc l i) 0->R i j
def ClW.own {w:WT} {l:Y ET} {R:Nat->Nat->Prop} (h:ClW (Lo w l) R):∀j:Nat,j<l! l->∀i:Nat,i<j->fc l i=fc l j->R i j:=by
 intro j;induction j using Nat.strongRecOn with
 |ind j A=>
  intro z i hi ht;have h1:=BT l (fc l j) j;have L:=YL ht j hi;have D:=(FG (l:=l) (u:=fc l j) j (by omega)).1;have hp:R (zW l (fc l j) j).toNat j:=h.pv _ j (show _<l! l by omega) z (show zW l (fc l j) j=_ by omega);by_cases e:i=(zW l (fc l j) j).toNat
  .rw[e];exact hp
  .exact h.tr _ _ _ (show i<l! l by omega) (show _<l! l by omega) z (A _ (by omega) (by omega) i (by omega) (by omega)) hp
def agq.join {w:WT} {l:Y ET} {c:Y η} {tm:Y ν} {la:η} (N:CI w l j c tm la) (L:j<l! l) {R:Nat->Nat->Prop} (cR:ClW (Lo w l) R) (D:∀i k:Nat,k<j->Rw l c i k->R i k) (s0:0<=a) (s1:a<(j:Int)) (A:R a.toNat j) (h:agq l j R z):agq l j R (jl z (jc c a)):=λi hi hle=>by
 rw[MI]at hle;rcases Tk (z.getD (fc l i) 0) ((jc c a).getD (fc l i) 0) with e|e
 .rw[e]at hle;exact h i hi hle
 .rw[e]at hle;rcases CZ i a.toNat with clk|clk|clk
  .exact cR.tr i a.toNat j (show i<l! l by omega) (show _<l! l by omega) L (D i a.toNat (by omega) ⟨clk,hle⟩) A
  .rw[clk];exact A
  .have h1:=(N.nn a.toNat (by omega) (fc l i)).2;have h2:=Hb l (fc l i) (show a.toNat+1<=i by omega);have h3:=Fi l i;have hle:(ct l (fc l i) (i+1):Int)<=(c.getD a.toNat []).getD (fc l i) 0:=hle;omega
structure WKs (w:WT) (l:List ET) (j:Nat) (c:List η) (la sp wa wt:η) (op:List (ν×Int)) (re:η) (ar:List WO) (si ei:List η):Prop where
 v:WVs w l j la sp wa wt si ei
 s:CSc w l j op re ar
 m:MAc l j ar
 d:∀i k:Nat,k<j->(i:Int)∈(Lo w l).Hd k->Rw l c i k
 r:∀R,ClW (Lo w l) R->∀i k:Nat,k<j->Rw l c i k->R i k
def alg {l:Y ET} {c:Y η} (h:j<l! c):Rw l (c++[z]) i j↔Rw l c i j:=by
 unfold Rw
 grind
def alh {l:Y ET} {c:Y η} (h:j=l! c):Rw l (c++[z]) i j↔i<j/\(ct l (fc l i) (i+1):Int)<=z.getD (fc l i) 0:=by
 unfold Rw
 grind
def VF {P Q:WO} (h:qK P Q=J):P.lk=Q.lk/\P.th≠Q.th/\(P.rd&&Q.rd)=af/\P.en<Q.bg:=by
 unfold qK at h;simp only[au,bR,cV,decide_eq_false_iff_not]at h;simp_all
def agq.clk {w:WT} {l:Y ET} (tr:TR (w,l)) (clk:j<l! l) {c:Y η} {tm:Y ν} {la sp wa wt st se:η} {op:Y d?} {re:η} {ar:Y WO} {si ei:Y η} (g:WkG w l j c tm la sp wa wt st se op re ar si ei) (h:WKs w l j c la sp wa wt op re ar si ei) (hk:CKj w l j c tm la sp wa op re ar si ei z) {R:Nat->Nat->Prop} (cR:ClW (Lo w l) R):agq l j R z:=by
 have ih:=h.r R cR;have hev:Ht w (eN l j):=tr.ev _ (pC clk);have slt:=aax hev g.la g.sp g.wa g.st g.se;have ren:=g.ws.en;refine hk.js _ ⟨λi hi hle=>?_,λz s A s0 D=>?_,λz lk p hk l0 l1 N hp m1 m2 D=>?_,λz p N hp m1 m2 D=>?_⟩
 .have h1:=Fi l i
  grind
 .have s1:=slt s A;refine D.join g.ci clk cR ih s0 s1 ?_;rcases h.v.src tr clk g.sp A s0 with q|q
  .exact cR.pv _ j (show _<l! l by omega) clk (q.trans (by omega))
  .exact cR.hd _ j (show _<l! l by omega) clk (by grind)
 .obtain⟨⟨p0,p1⟩,⟨b0,b1⟩,n0,n1⟩:=ren p hp;refine D.join g.ci clk cR ih n0 n1 ?_;let⟨e1,e2,e3,e4⟩:=VF m1;let⟨⟨q0,q1⟩,qt,ql,_,_⟩:=g.ws.o _ (gg _ N);let⟨sp1,sp2⟩:=h.s.e p hp;let⟨sq1,sq2⟩:=h.s.o _ (gg _ N);have qb:=(g.ws.a (c_ ((eN l j).1,lk) op).toNat (by omega)).1;rw[<- FR]at qb;rw[e1,ql]at sp1;have P:=L3 sp1 n0 (Lk clk);let⟨r,Q,hr⟩:=ahr sq1 (Lk clk);have el:((lk.toNat:Nat):Int)=lk:=by omega
  have toS:∀s:zN,s∈lb w l lk (l! l)->s∈(Lo w l).S lk.toNat:=λs A=>by show s∈lb w l ((lk.toNat:Nat):Int) (l! l);rw[el];exact A
  rw[qt]at e2;have mm:=h.m p (by omega) (eN l j).2.2.1;have acc:∃a:Nat,(bf ar p).bg<=(a:Int)/\(a:Int)<=(bf ar p).en/\(eN l a).1=(bf ar p).th/\Cnf (eN l a) (eN l j):=by
   have fin:∀kk:Int,AcE l j (bf ar p).1 kk (eN l j).2.2.1->(kk=3\/kk=4)->(kk=4\/(eN l j).2.1=4)->∃a:Nat,(bf ar p).bg<=(a:Int)/\(a:Int)<=(bf ar p).en/\(eN l a).1=(bf ar p).th/\Cnf (eN l a) (eN l j):=λkk ⟨a,a1,a2,L,a4,a5,a6⟩ k1 k2=>⟨a,a1,by
    rcases L with L|L
    .grind
    .exact L,a4,by rw[a5];exact k1,hk,a6,by rw[a5];exact k2⟩
   unfold Un at m2
   grind
  let⟨a,a1,a2,L,a4⟩:=acc;exact cR.r3 lk.toNat (show lk.toNat<=l! w.2.1 by omega) _ (toS _ P) _ (toS _ Q) ⟨e2,e3,n0,e4⟩ a j (show a<l! l by omega) clk ⟨L,a1,.inr a2⟩ ⟨rfl,by dsimp only;omega,by dsimp only;omega⟩ a4
 .obtain⟨⟨p0,p1⟩,⟨b0,b1⟩,n0,n1⟩:=ren p hp;refine D.join g.ci clk cR ih n0 n1 ?_;let⟨e1,e2,e3,e4⟩:=VF m1;let⟨⟨q0,q1⟩,qt,ql,_,l0⟩:=g.ws.o _ (gg _ N);let⟨sp1,sp2⟩:=h.s.e p hp;let⟨sq1,sq2⟩:=h.s.o _ (gg _ N);dsimp only at q0 q1 qt ql sq1 sq2 l0;have qb:=(g.ws.a (c_ ((eN l j).1,fA w (eN l j)) op).toNat (by omega)).1;rw[<- FR]at qb;have pa:=(g.ws.a p.toNat (by omega)).2;rw[e1,ql]at sp1;have P:=L3 sp1 n0 (Lk clk);have Q:=L3 ((vR sq1).2 rfl rfl (by simp)) (by simp) (show j+1<=l! l by omega);have el:(((fA w (eN l j)).toNat:Nat):Int)=fA w (eN l j):=by omega
  have toS:∀s:zN,s∈lb w l (fA w (eN l j)) (l! l)->s∈(Lo w l).S (fA w (eN l j)).toNat:=λs A=>by show s∈lb w l (((fA w (eN l j)).toNat:Nat):Int) (l! l);rw[el];exact A
  rw[qt]at e2;have th:=(rz w l _ _ _ P).th;have hb:R (bf ar p).bg.toNat j:=D _ (by omega) (by
   have:=(g.ci.cvr b0 b1 z).1 m2;have ow:=g.ci.own (bf ar p).bg.toNat (by omega);have e:(jc c (bf ar p).bg).getD (fc l (bf ar p).bg.toNat) 0=(c.getD (bf ar p).bg.toNat []).getD (fc l (bf ar p).bg.toNat) 0:=rfl;omega)
  have:=cR.r4 (fA w (eN l j)).toNat (show _<=l! w.2.1 by omega) _ (toS _ P) _ (toS _ Q) ⟨e2,e3,n0,e4⟩ (by simp) ⟨(bf ar p).bg.toNat,j,(show _<l! l by omega),clk,⟨th,by dsimp only;omega,.inr (by grind)⟩,⟨rfl,by dsimp only;omega,.inr (by simp)⟩,hb⟩
  grind
def WHx (w:WT) (l:Y ET):WkH:=λj c tm la sp wa wt st se op re ar si ei=>HSx w l j c tm la sp wa wt st se op re ar si ei/\WKs w l j c la sp wa wt op re ar si ei
def atw {w:WT} {l:Y ET} (tr:TR (w,l)):HK w l (WHx w l):=by
 have L:=avr tr;refine ⟨⟨L.z,⟨λu N=>WV.zero w l u N,LV.zero l _ 4,LV.zero l _ 22⟩,⟨λx L=>(by cases L),λx L=>(by cases L)⟩,λi hi=>bA hi (bN _),λi k A=>bA A (bN _),λR _ i k A=>bA A (bN _)⟩,λj c tm la sp wa wt st se op re ar si ei clk D g h A=>⟨L.s j c tm la sp wa wt st se op re ar si ei clk D g h.1 A,?_⟩⟩;let⟨_,h⟩:=h;have hev:Ht w (eN l j):=tr.ev _ (pC D);have hcl:=g.ci.k.cl;refine ⟨⟨λu N=>(h.v.v u N).step D (tr.sc D) N g.la.1 g.sp.1 g.wa.1 g.wt,h.v.s.step g.st.2.1 λk=>(hev.nm.ce (.inr k)).1,h.v.e.step g.se.2.1 λk=>(hev.nm.fu (.inl k)).1⟩,h.s.next hev g.ws,h.m.next g.ws,λi k hk' m=>?_,λR cR i k hk' m=>?_⟩
 .by_cases e:k=j
  .subst e;rw[alh hcl.symm];let⟨s,s1,s2,s3,s4⟩:=h.v.hd tr D m;have h1:=(A.jr.a s s1 (by omega)).trans (LW clk (fc l k)) (fc l i);have h2:=g.ci.own s s3;have h3:=Hb l (fc l s) (show i+1<=s+1 by omega);have e:(jc c (s:Int)).getD (fc l i) 0=(c.getD s []).getD (fc l s) 0:=by unfold jc;rw[a8,s4]
   grind
  .exact (alg (by omega)).2 (h.d i k (by omega) m)
 .by_cases e:k=j
  .subst e;let⟨m1,m2⟩:=(alh hcl.symm).1 m;by_cases ht:fc l i=fc l k
   .exact cR.own k D i m1 ht
   .rw[EL,ax ht]at m2;exact agq.clk tr D g h A cR i m1 m2
  .exact h.r R cR i k (by omega) ((alg (by omega)).1 m)
def apc {w:WT} {l:Y ET} (tr:TR (w,l)) {c:Y η} {tm:Y ν} {la sp wa wt st se:η} {op:Y d?} {re:η} {ar:Y WO} {si ei:Y η} (g:WkG w l (l! l) c tm la sp wa wt st se op re ar si ei) (h:WHx w l (l! l) c tm la sp wa wt st se op re ar si ei):ClW (Lo w l) (Rw l c)/\∀R,ClW (Lo w l) R->∀i j,i<l! l->j<l! l->Rw l c i j->R i j:=by
 refine ⟨avw g.ci (λi j z m=>h.2.d i j z m) λk D p hp q A f=>amq g.ci h.1.2 D hp A f.1 f.2.1 f.2.2.1 (Int.le_of_lt f.2.2.2),λR cR i j _ z m=>h.2.r R cR i j z m⟩
def IY (a b c:η) (ha:l! a<=9223372036854775807) (A:∀z∈a,0<=z/\z<=255) (hc:l! c<=9223372036854775807) (N:∀z∈c,0<=z/\z<=255):Ok (nO (a,b,c)) λy=>y=J:=by
 refine aw (P:=TR) (UA a b c 24 (by omega) (by omega) ha A hc N) ?_;rintro⟨w,l⟩ tr;refine aw (UO tr (atw tr)) ?_;rintro⟨cs,e⟩ ⟨he,tm,la,sp,wa,wt,st,se,op,re,ar,si,ei,g,hs⟩;subst he;let⟨h1,h2⟩:=apc tr g hs;let⟨y,L,D⟩:=ag7 tr g.ci h1 h2;refine aV (λx=>x=J) (FP (aZ L (aZ D (bl ?_ (FP (aZ (x:=J) ap1 (ak rfl))))))) λx A=>ak A
 simp_all
def WeakClocks_law (x:η×I?) (w:wfT (.st (.pr (.sl (.int .u8)) (.pr (.sl (.int .u8)) (.sl (.int .u8))))) x):nO x=Z J:=by
 let⟨a,b,c⟩:=x;let⟨⟨N,w0⟩,_,⟨L,D⟩⟩:=w;obtain⟨y,h,rfl⟩:=IY a b c N (λz A=>ad2 (w0 z A)) L (λz A=>ad2 (D z A));exact h
def ads (n:Nat)(k l:Y Nat)(a:Y PV)(b:Y PB):Nat×alx:=(n,.j ⟨k,l,⟨a,b⟩,[]⟩)
def adx (n:Nat)(k l:Y Nat)(a:Y PV)(b:Y PB)(z:Y Adj):Nat×alx:=(n,.j ⟨k,l,⟨a,b⟩,z⟩)
abbrev af4 (a:Y PV)(b:Y PB)(c:Y PV)(d:Y PB)(h:PT alx):FT:=⟨⟨a,b⟩,⟨c,d⟩,h⟩
def afd (a:Y PV)(b:Y PB)(c:Y PV)(d:Y PB)(h:PT alx)(m:(af4 a b c d h).pre.ty.den->M (af4 a b c d h).post.ty.den):cA:=cn (af4 a b c d h) m
def Å:PV:=.d aP
def Æ:PV:=.d .bool
def Ç:PB:=.F 2 J aP
def È:PV:=.H 0 0
def É:PB:=.F 50 J (.sl aP)
def Ê:PB:=.C 66 [.d gz]
def Ë:PB:=.I (.ir 3 aP) 0
def Ì:PB:=.F 3 af aP
def Í:PB:=.I (.ir 4 .bool) 0
def Î:PB:=.F 3 J aP
def Ï:PB:=.C 120 [.d wJ]
def Ð:PV:=.d fy
def Ñ:PB:=.C 155 [.d gf]
def Ò:PB:=.C 31 [.d mn]
def Ó:PV:=.d gz
def Ô:PV:=.d mn
def Õ:PV:=.H 1 0
def Ù:PV:=.H 2 0
def Ú:PV:=.d (.sl .str)
def Û:PB:=.C 107 [.d nL]
def Ü:PB:=.I (.rr 58 1) 1
def Ý:PV:=.H 3 0
def Þ:PB:=.F 9 J .str
def ß:PV:=.d (.sl aP)
def à:PB:=.C 210 [.d sF]
def á:PB:=.F 4 J .bool
def â:PB:=.I (.ar 170 lI) 0
def ã:PV:=.d (.sl iC)
def ä:PB:=.C 103 [.d BI]
def å:PB:=.F 178 J iC
def æ:PV:=.G 2
def ç:PV:=.d wJ
def è:PV:=.nil
def é:PV:=.G 1
def ê:PV:=.G 0
def ë:PB:=.F 98 J ec
def ì:PV:=.G 3
def í:PV:=.d nL
def î:PV:=.d gf
def ï:PV:=.d (.sl ec)
def ð:PV:=.d .str
def ñ:PV:=.G 4
def ò:PV:=.G 6
def ó:PV:=.H 4 0
def ô:PB:=.C 34 [.d rn]
def õ:PV:=.d rn
def ö:PV:=.G 7
def ø:PV:=.G 11
def ù:PB:=.I (.rr 50 1) 13
def ú:PB:=.C 152 [.d Sh]
def û:PB:=.C 197 [.d fy]
def ü:PB:=.F 52 J gf
def ý:PV:=.d (.sl Kn)
def þ:PV:=.d HC
def Ā:PV:=.d sF
def ā:PB:=.C 66 [.d aP,.d aP,.d aP,.d aP,.d aP,.d (.sl aP),.d (.sl aP)]
def Ă:PB:=.C 64 [.d uC]
def ă:PV:=.G 5
def Ą:PV:=.d uD
def ą:PB:=.I (.rr 50 1) 12
def Ć:PV:=.ob 12 0
def ć:PV:=.qv 93 [(15,0),(16,0),(0,0)]
def Ĉ:PV:=.qv 96 [(15,0),(0,0),(16,0)]
def Ċ:PV:=.d .ex
def ċ:PV:=.d yh
def Č:PB:=.qf 9 .str
def č:PV:=.d Sh
def Ď:PB:=.qk
def ď:PV:=.d (.sl lF)
def Đ:PV:=.d (.sl tC)
def đ:PV:=.d (.sl gz)
def Ĕ:PV:=.d (.sl itK)
def ĕ:PB:=.C 61 [.d HC]
def Ė:PV:=.d BI
def ė:PB:=.I (.qh 166) 11
def Ę:PV:=.d (.sl pR)
def ę:PV:=.d (.sl uX)
def Ě:PB:=.C 61 [.G 2,.d aP,.G 3,.G 4]
def ě:PB:=.C 3 [.d aP]
def Ĝ:PB:=.C 61 [.qy 4 2 3,.d aP,.d uD,.d (.sl iC)]
def ĝ:PB:=.I (.rr 50 1) 14
def Ğ:PV:=.d .sm
def ğ:PB:=.qf 220 .sm
def Ġ:PV:=.H 16 0
def ġ:PV:=.G 8
def Ģ:PB:=.C 220 [.d .sm]
def ģ:PV:=.G 10
def Ĥ:PB:=.C 218 [.d .ex]
def ĥ:PV:=.qv 136 [(1,0)]
def Ħ:PB:=.I (.rr 50 1) 3
def ħ:PV:=.H 6 0
def Ĩ:PB:=.F 9 af .str
def Ī:PV:=.d (.sl .sm)
def ĭ:PV:=.d uC
def Į:PV:=.H 15 0
def İ:PV:=.H 5 0
def ı:PB:=.F 98 af ec
def ĳ:PV:=.H 14 0
def Ĵ:PV:=.G 12
def ĵ:PB:=.F 220 J .sm
def Ķ:PV:=.d I4
def ķ:PB:=.C 197 [.d aP,.G 3,.G 4,.d aP]
def Ĺ:PV:=.qv 92 [(14,0)]
def ĺ:PB:=.I (.rr 50 1) 1
def Ļ:PB:=.C 193 [.d zP]
def ļ:PB:=.C 134 [.d pR]
def Ľ:PB:=.C 61 [.G 4,.d aP,.G 5,.G 6]
def ľ:PB:=.F 134 J pR
def Ŀ:PV:=.qy 1 1 4
def ŀ:PB:=.I .zq 11
def Ł:PV:=.H 7 0
def ł:PB:=.I (.rr 50 1) 15
def Ń:PB:=.F 55 J (.sl uC)
def ņ:PV:=.qy 4 1 4
def Ň:PB:=.F 210 J sF
def ň:PV:=.d (.sl gf)
def ŉ:PB:=.mp itK .un
def Ŋ:PB:=.C 115 [.d yh]
def ŋ:PV:=.G 9
def ō:PB:=.F 66 J gz
def Ő:PB:=.F 64 J uC
def ő:PB:=.C 76 [.d lF]
def Œ:PV:=.d (.int .u8)
def Ŕ:PB:=.F 132 J itK
def Ŗ:PV:=.d Hs
def ŗ:PB:=.F 130 J tC
def ż:PB:=.C 120 [ç]
def aao:PB:=.C 155 [î]
def ź:PB:=.C 66 [Ó]
def ſ:PB:=.C 210 [Ā]
def ş:Y PV:=[ï,Å,Ą,ã]
def Š:Y PV:=[È,Õ,Ù]
def š:Y PB:=[ë,á,å,Ç,Ç]
def ţ:Y PV:=[ď,Đ,Ĕ,Ú,Ú,Ę]
def Ť:Y PV:=[Å,Å]
def ŧ:Y PB:=[Ç,É]
def Ž:PB:=.C 103 [Ė]
def ŵ:Y PB:=[Î,Î,Î]
def ž:PB:=.C 107 [í]
def Ż:PB:=.C 31 [Ô]
def ũ:Y PB:=[Ž,ž,Ż]
def aau:PB:=.C 34 [õ]
def ū:Y PB:=[aau,ž]
def adg:PB:=.C 64 [ĭ]
def Ŭ:Y PB:=[Ü,Í,adg,adg]
def ŭ:Y PV:=[È,é,æ]
def ů:Y PV:=[Å,Å,Å,Å,Å]
def Ű:Y PV:=[Õ,Å,Å,Æ,Æ,Æ,Æ]
def acx:PB:=.C 3 [Å]
def Ų:Y PB:=[ž,ź]
def ų:Y PB:=[Ż,ź]
def Ŵ:Y PV:=[Å,Ð,Ð]
def Ŷ:Y PB:=[Ü,Í,Ħ,Ë]
def ŷ:Y PB:=[Ż,ļ]
def Ź:Y PB:=[Ż,ž,ź]
def FS:PB:=.C 152 [č]
def aam:PB:=.C 197 [Ð]
def abn:PB:=.C 61 [þ]
def abv:PB:=.C 220 [Ğ]
def acb:PB:=.C 218 [Ċ]
def adf:PB:=.C 61 [æ,Å,ì,ñ]
def adl:PB:=.C 197 [Å,ì,ñ,Å]
def adr:PB:=.C 115 [ċ]
abbrev wZ:Y PV:=(ů++[è,è])
def Ö:PB:=.C 66 wZ
abbrev yg:Y PV:=[è,Å,è,è,è,è,è]
def Ø:PB:=.C 115 yg
def ń:PB:=.C 107 yg
def Ū:Y PB:=[aao,Ø,Ö,ź]
abbrev arx:Y PV:=(Ű++[ñ])
abbrev as1:Y PV:=[Å,Å,ð,ð,è,Å,Å,ð,è,è,è]
abbrev La2:Y PB:=[.C 214 arx,Ž,Ď,.C 220 as1,Č]
abbrev Sg:Y PV:=(Š++[Ý,ó,İ,ħ,Ł,Æ])
abbrev La4:Y PB:=[.C 206 (ţ++Ú::æ::Ť),Ď,Ň]
abbrev La5:Y PB:=[.C 206 (ţ++Ú::é::Ť),Ň]
abbrev La6:Y PV:=[Å,ø,Ĵ,Å]
def ĉ:PB:=.C 197 La6
def Ŧ:Y PB:=[aao,Ø,Ö,ź,ĉ,ſ,Ç,Ç]
abbrev La7:Y PB:=[.C 152 [è,è],.C 214 [İ,Å,Å,Æ,Æ,Æ,Æ,ò],.C 152 [ý,ö],Ĩ,.C 204 [ð,Å,ġ,ŋ],Ž,Č,.F 204 J uX,Ĩ,ĵ]
abbrev La8:Y PB:=[.C 245 [ý,ę,Å,é,ò,ö],ğ,Ď,Ď,abv,FS,Þ,Þ]
abbrev La9:Y PV:=(ş++[ġ,ŋ,.qy 10 4 4])
def Ō:PB:=.C 115 La9
def ś:Y PB:=(ż::Ō::Ŧ)
abbrev apz:Y PB:=[.C 115 (ş++[ò,ö,.qy 8 4 4]),aao,Ø,Ö,ź,aam,Ç,Ç,.C 197 [Ð,Ð,Ð,Ð]]
abbrev ary:Y PV:=(Ű++[æ])
abbrev UD:Y PV:=[Ŗ,Å]
def ĩ:PB:=.C 103 UD
abbrev aaq:Y PB:=[.C 214 ary,ĩ,Č]
abbrev QZ:Y PV:=(Š++[Ý,ó,İ,ħ,Ł,Å])
abbrev auu:Y PV:=(ş++[ġ,ŋ,.qy 10 4 3])
def Ŝ:Y PB:=(ż::.C 115 auu::Ŧ)
abbrev ave:Y PB:=(Ŝ++.C 197 (Å::ø::Ĵ::Ŵ)::ŧ)
abbrev avd:Y PB:=(Ŝ++.C 197 [Ð,Å,ø,Ĵ,Å,Ð]::ŧ)
abbrev avc:Y PB:=(Ŝ++.C 197 [Ð,Ð,Å,ø,Ĵ,Å]::ŧ)
abbrev as0:Y PV:=(ş++[ġ,ŋ,.qy 10 4 2])
def ť:Y PB:=(ż::.C 115 as0::Ŧ)
abbrev avb:Y PB:=(ť++.C 197 [Å,ø,Ĵ,Å,Ð]::ŧ)
abbrev ava:Y PB:=(ť++.C 197 [Ð,Å,ø,Ĵ,Å]::ŧ)
abbrev agm:Y PB:=[.C 245 [ý,ę,Å,é,ñ,ă],ğ,Ď,Ď,Þ,Þ]
abbrev QY:Y PV:=(Š++[Ý,ó,İ,ħ,Æ])
abbrev ip:Y PV:=[È,Æ]
abbrev agl:Y PB:=[.C 245 [ý,ę,Å,é,æ,ì],ğ,Þ,Þ]
abbrev av9:Y PB:=(ż::.C 115 (ş++[ġ,ŋ,.qy 10 4 1])::aao::Ø::Ö::ź::ĉ::ſ::Ç::Ç::ĉ::ŧ)
abbrev QX:Y PV:=(Š++[Ý,ó,İ,ħ])
abbrev av8:Y PB:=(ś++.C 197 [Å,ø,Ĵ,Å,Ð,Ð,Ð]::ŧ)
abbrev av7:Y PB:=(ś++.C 197 (Ð::Å::ø::Ĵ::Ŵ)::ŧ)
abbrev av6:Y PB:=(ś++.C 197 [Ð,Ð,Å,ø,Ĵ,Å,Ð]::ŧ)
abbrev av5:Y PB:=(ś++.C 197 [Ð,Ð,Ð,Å,ø,Ĵ,Å]::ŧ)
abbrev O_:Y PB:=(Ź++[ń])
abbrev QW:Y PV:=(Š++[Ý,ó,İ])
abbrev av4:Y PB:=[.C 115 (ş++[ò,ö,.qy 8 4 3]),aao,Ø,Ö,ź,aam,Ç,Ç,.C 197 [Ð,Ð,Ð]]
abbrev Yf:Y PV:=(ş++[ö,ġ,.qy 9 4 4])
def ī:PB:=.C 115 Yf
def ř:Y PB:=(ż::ī::Ū)
abbrev rm:Y PV:=[È,Õ,Æ]
abbrev CV:Y PV:=(Š++[Ý,Æ])
abbrev apr:Y PV:=[è,è,è,è,è,è]
def œ:PB:=.C 31 apr
abbrev av3:Y PB:=[FS,œ,.C 31 [ñ,ă,ò,ö,è,è],.C 248 [.d Kn],.F 76 J lF,ŗ,Ŕ,Þ]
abbrev agj:Y PV:=[è,è,è,è,è,è,è]
def ŕ:PB:=.C 34 agj
abbrev ayo:Y PV:=(ţ++[ă])
abbrev az0:Y PB:=[FS,.C 120 agj,.C 120 ayo,.C 206 (ţ++Ú::ò::Ť),.C 193 [Å,ò],.F 193 J zP,Ň]
abbrev Lc:Y PV:=[ê,Å,é,æ]
def Ĭ:PV:=.agg Lc
def į:PV:=.agg [.agg Lc,.G 3,.G 4,.qy 5 4 2]
def adk:PV:=.agg [Ĭ,ì,ñ,.qy 5 4 2]
abbrev av2:Y PB:=(ũ++ō::.C 50 [ă,ò,ö,ġ]::Î::ŵ)
abbrev I3:Y PV:=(Š++[Å])
abbrev av1:Y PB:=(ũ++.C 50 [ñ,ă,ò,ö]::Î::ŵ)
abbrev O9:Y PV:=[Å,ß,Ķ,Å]
def ē:PB:=.C 197 O9
abbrev agk:Y PV:=(ş++[ö,ġ,.qy 9 4 3])
def ĸ:PB:=.C 115 agk
def Ś:Y PB:=(ż::ĸ::Ū)
abbrev Lb:Y PV:=(Š++[Æ])
abbrev yf:Y PV:=[È,Õ,Å]
abbrev O8:Y PV:=[Å,ģ,ø,Å]
def Ē:PB:=.C 197 O8
abbrev apq:Y PV:=[Å,ê,é,Å]
abbrev adp:Y PV:=[Å,è,è,Å]
def Ŏ:PB:=.C 197 adp
abbrev av0:Y PB:=[Ç,É,ſ,.C 197 apq,Ŏ]
abbrev auz:Y PB:=[.C 245 [ý,ę,Å,ñ,ă,ò],Ď,Ď,Ď,ğ,Þ,Þ]
abbrev DW:Y PV:=[è,Å,è,è]
def ÿ:PB:=.C 61 DW
def ű:Y PB:=[Ż,.C 61 [.qy 4 2 3,Å,Ą,ã],acx,ÿ]
abbrev auy:Y PB:=[adf,ÿ,ë,á,å]
abbrev O7:Y PV:=[È,Ý,Æ]
abbrev ayz:Y PB:=[ŕ,Ž,.C 34 ayo,ž,.F 66 af gz,ō]
abbrev ayy:Y PB:=[.C 115 (ş++[ò,ö,.qy 8 4 2]),aao,Ø,Ö,ź,aam,Ç,Ç,.C 197 [Ð,Ð]]
abbrev rk:Y PB:=[Ż]
abbrev ayx:Y PB:=(ũ++ō::.C 50 [ö,ġ,ŋ,ģ]::ź::ž::Î::ŵ)
abbrev apy:Y PB:=[œ,.C 31 [æ,ì,ñ,ă,ò,ö],.F 76 af lF,.F 130 af tC,.F 132 af itK,Ĩ,Ĩ,ľ]
abbrev wY:Y PV:=[È,Å]
abbrev aln:Y PV:=[æ,ì,ñ,ă]
def Ņ:PB:=.C 50 aln
def Ũ:Y PB:=(Ž::Ņ::Î::ŵ)
abbrev ayw:Y PB:=(Ũ++[Ö,.C 66 (ů++[ß,è])])
abbrev apx:Y PV:=(ş++[ö,ġ,.qy 9 4 2])
def ŏ:PB:=.C 115 apx
def Ş:Y PB:=(ż::ŏ::Ū)
abbrev QV:Y PV:=[ċ,Ó,Æ]
abbrev ayv:Y PB:=(Ũ++[ž,Ż,Ö,Ö])
abbrev ayu:Y PB:=[FS,œ,.C 31 [ì,ñ,ă,ò,è,è],.F 76 J lF,ŗ,Ŕ,Þ]
abbrev aux:Y PV:=(ş++[ì,ñ,ă])
abbrev QU:Y PV:=[ç,ċ,î]
abbrev auw:Y PB:=[ë,á,å,.C 61 Lc,Î]
abbrev alq:Y PV:=[ì,Å,ñ,ă]
abbrev ayt:Y PB:=[Ż,.C 61 alq,ÿ,ë,á,å]
abbrev BH:Y PV:=Ť
abbrev auv:Y PB:=[ō,ż,adr,Ø]
abbrev ays:Y PB:=(Ļ::adl::Ŏ::ŧ)
abbrev ayr:Y PB:=[.C 214 arx,Ž,Ď,ĵ,Č]
abbrev aut:Y PV:=(Ű++[ì])
abbrev ayq:Y PB:=[Ö,aam,ſ,.C 66 (ů++[ñ,è]),Î]
abbrev UC:Y PB:=[abv]
abbrev apw:Y PV:=[.agg [Ĭ,ì,ñ,.qy 5 4 4]]
abbrev Ye:Y PB:=[FS]
abbrev aus:Y PB:=[Ż,Ļ,ſ]
abbrev apv:Y PB:=[FS,.C 204 [.d uX]]
abbrev apu:Y PB:=[FS,acb]
abbrev aur:Y PB:=[Ż,Þ,ő]
abbrev auq:Y PB:=[ë,á,å]
abbrev apt:Y PB:=[Ż,ſ]
abbrev aps:Y PV:=[È,ó,İ,Æ]
abbrev aup:Y PV:=(Š++[Ý,ó,Å])
abbrev aap:Y PB:=[Ż,abn]
abbrev auo:Y PB:=[Ž,Î,Î]
abbrev agi:Y PB:=[Ż,Þ]
abbrev aun:Y PB:=[ź,ń,.C 107 aux,Ç,Ç,Î]
abbrev ayp:Y PB:=(ĩ::Ņ::Î::ŵ)
abbrev Yd:Y PB:=[ĩ]
abbrev O6:Y PV:=[ß,Å]
abbrev agh:Y PB:=[Ž]
abbrev O5:Y PV:=[È,é,Å]
abbrev agf:Y PB:=[.C 248 [.d Kn]]
abbrev aum:Y PV:=[.agg [Ĭ,ì,ñ,.qy 5 4 3]]
abbrev alv:Y PB:=ŧ
abbrev alu:Y PB:=[ż,adr]
abbrev alt:Y PB:=[Ż,Ļ]
abbrev pQ:Y PV:=[ß]
def Ř:PB:=.C 50 pQ
abbrev als:Y PV:=(Š++[Ý])
abbrev arz:Y PV:=(ş++[ö,ġ,.qy 9 4 1])
def Ů:Y PB:=[ż,.C 115 arz,aao,Ø,Ö,ź]
abbrev alr:Y PB:=[abn,Î]
abbrev Yg:Y PV:=(È::Ť)
def tyT:PT Ty:=dN [(2,aP),(3,aP),(4,.bool),(9,.str),(50,(.sl aP)),(52,gf),(55,(.sl (.st (.pr aP alw)))),(58,uD),(64,(.st (.pr aP alw))),(66,gz),(76,lF),(83,gf),(98,ec),(130,tC),(132,itK),(134,pR),(155,gf),(178,iC),(193,zP),(197,fy),(204,uX),(210,sF),(218,.ex),(220,.sm),(248,Kn)]
def ca (t:TypeId):M Ty:=tyT.get t
def QD:=afd [] [] [Ú] [] .leaf lA
def Oy:=afd [ð] [] [Æ] [] (dN [ads 8 [0,3] [4] [Å] []]) lU
def XL:=afd [Œ] [] [Æ] [] (dN [ads 2 [] [2] [Æ] []]) mr
def Z6:=afd [Œ] [] [Æ] [] (dN [ads 2 [] [2] [Æ] []]) s8
def Z5:=afd [Œ] [] [Æ] [] (dN [ads 2 [] [2] [Æ] []]) qI
def XM:=afd [ð] [] [Æ] [] (dN [ads 3 [0] [21] [Æ] [],ads 14 [0] [3] [Å] []]) fR
def ZX:=afd [Æ] [] [Å] [] .leaf gk
def ZY:=afd BH [] [Å,Æ] [] .leaf wg
def XH:=afd (Å::Ť) [] [Å,Æ] [] (dN [ads 91 [] [6,7] [Å,Æ] [],ads 97 [] [6,7] [Å,Æ] []]) xi
def ZZ:=afd BH [] [Å] [] (dN [ads 12 [] [5] [Å] []]) wh
def Qz:=afd [Å] [] [Å] [] (dN [ads 4 [0] [3] [Æ] [],ads 10 [0] [10] [Æ] [],ads 16 [] [17] [Æ] []]) nA
def qo:=af4 [Ċ] [] [Æ] [] (dN [ads 2 [] [1,3] ip [acb],ads 5 [] [1,50] ip [acb],ads 16 [] [1,4] wY [acb]])
def KX:cA:=cn qo jM
def Ky (n:Nat):cA:=cn qo (iz n)
def Z4:=afd [Ċ] [] [Æ] [] (dN [ads 2 [] [2] [Æ] []]) qH
def uW:=af4 [Ğ] [] [Æ] [] (dN [ads 3 [] [1,13] ip UC,ads 10 [] [1,3] ip UC,ads 13 [] [1,47] ip UC,ads 21 [] [1,66] ip UC,ads 29 [] [1,95] ip UC,ads 36 [] [1,4] ip UC,ads 39 [] [1,130] ip UC,ads 46 [] [1,5] ip UC,ads 49 [] [1,157] ip UC,ads 56 [] [2] [Æ] []])
def Kx (n:Nat):cA:=cn uW (e_ n)
def o9:=af4 [Ī] [] [Æ] [] (dN [ads 6 [0] [3] [Å] []])
def IL:cA:=cn o9 oT
def H9 (n:Nat):cA:=cn o9 (dR n)
def KW:=afd [.d Kn] [] [Æ] [] (dN [ads 3 [] [1,31] ip agf,ads 11 [] [1,50] ip agf,ads 18 [] [2] [Æ] []]) mZ
def XK:=afd [č] [] [Æ] [] (dN [ads 6 [] [1,3] wY Ye,ads 27 [] [1,4] wY Ye,ads 42 [4] [1,5,6] yf apv,ads 59 [4] [1,56] ip Ye]) qX
def aom:=afd [Ú,ð] [] [Å] [] (dN [ads 6 [0,1] [5] [Å] []]) j7
def XJ:=afd [ý,ð] [] [Å] [] (dN [ads 6 [0,1] [5] [Å] []]) i_
def Qy:=afd [ę,ð] [] [Å] [] (dN [ads 6 [0,1] [5] [Å] []]) iU
def XI:=afd [č,Å,ð] [] [Å] [] (dN [ads 3 [2] [3,27] ip Ye,ads 52 [7] [3,56] ip Ye]) uq
def afv:=afd (č::Å::ð::Ť) [] [Å] [] (dN [ads 13 [] [25] [Æ] []]) ii
def AE:=af4 [Ċ] [] BH [] (dN [ads 8 [] [1,4,5,6] (È::Å::Ť) [acb]])
def Z2:cA:=cn AE E4
def Y0 (n:Nat):cA:=cn AE (oB n)
def AD:=af4 [č,Å,Ċ] [] [Å] [] (dN [ads 7 [1] [3,5,7] yf apu,ads 21 [1] [3,5,7,8] (È::Õ::Ť) apu,ads 23 [1,7,8] [3,5,33] rm apu])
def Z0:cA:=cn AD E3
def YZ (n:Nat):cA:=cn AD (oA n)
def afw:=afd [č,Å,Ċ] [] [Å] [] (dN [ads 13 [1] [3,5,22] rm apu]) oR
def Uf:=afd [Æ] [] [Å] [] .leaf dt
def aol:=afd BH [] [Å] [] .leaf jG
def IK:=afd [È,Å,Å,ð] agl [Æ] agl (dN [ads 6 [1,2,3] [0,9] wY agl,ads 17 [1,2,3,9] [0,46] ip agl]) eD
def Qw:=afd [È,Ğ] agl [Å] agm (dN [(1,(.a [.qx 0 4,.qx 0 5])),ads 28 [6,7,8,9,30] [0,3,5,67] aps La8,ads 41 [] [4] [Å] agm,ads 44 [6,7,8,9,30] [0,3,5,91] aps La8,ads 51 [] [4] [Å] agm,ads 63 [] [4] [Å] agm,ads 66 [6,7,8,9,30] [0,3,5,119] aps La8,ads 89 [] [4] [Å] agm,ads 108 [] [0,3,187] [È,ó,Æ] [.C 245 [ý,ę,Å,é,ă,ò],ğ,Ď,Ď,abv,Þ,Þ],ads 131 [] [4] [Å] agm,ads 137 [6] [0,3,5,14] [È,ó,İ,Å] La8,ads 139 [6] [0,3,5,14] [È,ó,İ,Å] La8,ads 140 [6,14] [0,3,5,253] aps La8]) nz
def tS:=af4 [È,Ī] agl BH auz (dN [(1,(.a [.qx 0 3,.qx 0 4,.qx 0 5])),ads 6 [1] [0,6] wY auz,ads 19 [1,6] [0,7,8] [È,ó,Å] [.C 245 [ý,ę,Å,ă,ò,ö],Ď,Ď,Ď,abv,ğ,Þ,Þ],ads 37 [1,6] [0,8,9] Yg auz])
def Qx:cA:=cn tS xV
def PL (n:Nat):cA:=cn tS (iW n)
def AF:=af4 [Ī] [] [Å] [] (dN [ads 8 [0] [3,4] BH []])
def Z3:cA:=cn AF E5
def Y1 (n:Nat):cA:=cn AF (oC n)
def Z1:=afd [ý] [] BH [] (dN [ads 8 [0] [4,5,6,7,8] (Å::Å::Å::Ť) [],ads 16 [0,8] [4,5,6,7] (Å::Å::Ť) [],ads 38 [0,8] [4,5,6,7,9] [Å,Å,Å,Å,È] agf,ads 39 [0,4,5,6,7,8,36] [9,39] ip agf,ads 47 [0,4,5,6,7,8,36] [9,47] ip agf,ads 61 [0,4,5,6,7,8] [9,69] ip agf]) s7
def Ue:=afd [č] [] BH [] (dN [ads 6 [] [1,4] wY Ye,ads 17 [4] [1,5,37] rm apv,ads 29 [] [1,6] wY Ye,ads 51 [6] [1,7,8] yf apv,ads 62 [6,8] [1,7,90] rm apv]) oP
def Ug:=afd [č] [] BH [] (dN [ads 44 [] [1,8,9] Yg Ye,(67,(.a [.qc 10 3 220 .sm,.qc 10 4 9 .str,.qc 10 5 9 .str])),ads 69 [] [1,10,11] yf [FS,.C 245 [ý,ę,Å,æ,ì,ñ],ğ,Þ,Þ]]) f_
def AC:=af4 [ê,Å,Å,Ī] [ľ] [é,Å] [Ď,ľ] (dN [(1,(.a [.qx 0 0])),ads 6 [1,3] [0,2,10] (é::Ť) [Ď,ľ],(25,(.a [.nil 8 134 pR]))])
def ZR:cA:=cn AC Mr
def YY (n:Nat):cA:=cn AC (qL n)
def XE:=afd [Đ,ð] [] [Å] [] (dN [ads 6 [0,1] [5] [Å] []]) mq
def XG:=afd [Ô,ð] [] [Å] [] (dN [ads 6 [1] [2,5] wY rk]) ov
def ZV:=afd [č] [] [Ô] [] (dN [adx 18 [] [1,2,3,6] I3 ayu [.qc 3 0 76 lF,.qc 3 1 130 tC,.qc 3 2 132 itK,.qc 3 3 9 .str],ads 31 [6] [1,2,3] Š ayu,ads 32 [6,31] [1,2,3,7,39] CV av3,ads 42 [6] [1,2,3,7,8] (Š++[Ý,Å]) av3,ads 53 [6,31] [1,2,3,7,65] CV av3,(69,(.a [.qc 3 5 134 pR])),adx 71 [] [1,2,3,9] I3 [FS,œ,.C 31 [ì,ñ,ă,ò,ö,ġ],.F 76 J lF,ŗ,Ŕ,Þ,Þ,ľ] [.qc 3 4 9 .str]]) wd
def ZS:=afd [Ô] [] [Ú,Æ] [] (dN [adx 8 [] [1,4,5] O5 agi [.nil 4 9 .str],ads 15 [] [1,4,5] O5 agi,ads 37 [5] [1,4,6,51] [È,é,Ù,Æ] aur,ads 48 [5] [1,4,6,7] [È,é,Ù,Å] aur,ads 59 [5,7] [1,4,6,93] [È,é,Ù,Æ] aur,ads 72 [] [1,4,9] O5 agi,ads 87 [] [1,4,10] O5 agi]) qE
def KV:=afd [Ô] [] [Æ] [] (dN [ads 3 [] [1,49] ip rk,ads 24 [3] [1,5] wY rk,ads 33 [3,5] [1,79] ip rk,ads 45 [] [1,6] wY rk,ads 56 [6] [1,109] ip rk,ads 68 [] [1,8] wY rk,ads 76 [8] [1] [È] rk,ads 80 [8] [1,9,132] rm ŷ,ads 87 [8] [1,9,146] rm ŷ,ads 90 [8] [1,165] ip rk]) iy
def Ox:=afd [Ā] [] pQ [] (dN [ads 6 [4] [1,5] ip [ſ],ads 24 [4] [1,13] ip [ſ],ads 46 [4] [1,37] ip [ſ]]) kC
def XF:=afd [Å] [] [Æ] [] (dN [ads 2 [] [2] [Æ] []]) qW
def ZT:=afd [.d (.sl sF),Å] [] [Æ] [] (dN [ads 6 [0] [1,5] BH [],ads 14 [0,5] [1] [Å] [],ads 16 [0,1,5] [19] [Æ] []]) qF
def aok:=afd BH [] [Æ] [] (dN [ads 2 [] [4] [Æ] []]) j6
def ZU:=afd (Ô::Ť) [] [Æ] [] (dN [ads 2 [] [6] [Æ] []]) qG
def Ub:=afd [Ô,Ā] [] [Æ] [] (dN [ads 9 [] [4] [Æ] [],ads 15 [] [4] [Æ] [],ads 30 [6] [2,3,59] rm apt,ads 37 [] [4] [Æ] [],ads 40 [6] [2,3,78] rm apt,ads 55 [] [4] [Æ] [],ads 58 [6] [2,3,98] rm apt,ads 72 [6] [2,3,108] rm apt,ads 97 [] [4] [Æ] [],ads 103 [] [4] [Æ] []]) mF
def IJ:=afd [Ô,Å,.d zP] [] [Æ] [] (dN [ads 5 [1,7] [3,5,26] rm alt,ads 16 [1,7] [3,5,8] yf alt,ads 28 [1,7,8] [3,5,9,67] Lb aus,ads 36 [1,7,8] [3,5,9,100] Lb aus,ads 44 [1,7,8] [3,5,9,122] Lb aus,ads 56 [1,7,8,10] [3,5,11] yf alt]) iM
def ZW:=afd [ç] [] [Æ] [] (dN [ads 3 [] [1,17] ip [ż],ads 14 [] [1,3] wY [ż]]) kB
def Uc:=afd [È,Ā] La5 [] La4 .leaf cO
def sk:=af4 [È,Ċ,Å] La5 [] La4 (dN [ads 2 [] [] [] La4])
def Ov:cA:=cn sk iZ
def MC (n:Nat):cA:=cn sk (je n)
def KU:=afd [È,Ğ] La5 [] La4 .leaf mY
def Qv:=afd [È,ð] La5 [Å] La5 (dN [ads 6 [1] [0,5] wY La5]) kg
def sr:=af4 [È,Ī] La5 [] La4 (dN [(1,(.a [.qx 0 7])),ads 3 [1] [0,4] wY La4])
def Ow:cA:=cn sr wc
def MD (n:Nat):cA:=cn sr (dY n)
def ya:=af4 [È,Ğ] La5 [] La4 (dN [(1,(.a [.qx 0 7])),ads 10 [] [] [] La4,ads 15 [4,25] [0,3,31] [È,Ù,Æ] [.C 206 (ţ++Ú::ì::Ť),Ď,abv,Ň]])
def PK (n:Nat):cA:=cn ya (fm n)
def su:=af4 [È,Ğ] La5 [] La4 .leaf
def F6 (n:Nat):cA:=cn su (dw n)
def uV:=af4 (È::Ğ::Å::Ť) La5 [] La4 .leaf
def Kw (n:Nat):cA:=cn uV (dT n)
def Ud:=afd [č] [] (ç::Ť) [] (dN [adx 20 [] [1,2,7,8,9] (Š++Ť) [FS,.C 120 agj,.C 120 (ţ++[ì]),.F 193 J zP] [.qc 7 6 193 zP],(32,(.a [.qc 10 7 210 sF])),ads 45 [8,9] [1,2,7,10,11,12] aup az0,ads 59 [8,9,12,13] [1,2,7,10,11,14] aup az0]) rU
def akc:=afd O6 [] [Æ] [] (dN [ads 6 [0,1] [5] [Å] []]) uo
def akb:=afd O6 [] pQ [] (dN [ads 6 [0,1] [5] [Å] [],ads 8 [0,1,5] [18] [Æ] [],ads 16 [0,1,5] [32] [Æ] []]) yK
def ZQ:=afd [ß,ß] [] pQ [] (dN [ads 8 [0,1] [5,6] O6 [],ads 23 [1] [5,7] O6 []]) v_
def Qu:=afd [Å] [] [Å] [] (dN [ads 3 [0] [8] [Æ] []]) ny
def afu:=afd [Ð] [] [.agg apq] alv (dN [adx 8 [] [1,2,3,4] I3 (aam::Ŏ::adl::ŧ) [.qc 3 2 50 (.sl aP)]]) cE
def aft:=afd [Ā,.agg apq] alv [.agg apq,Æ] alv (dN [ads 8 [6] [2,3,4,7] [Ù,Ý,ó,Å] av0,ads 17 [6,7] [2,3,4,33] [Ù,Ý,ó,Æ] av0,ads 32 [] [2,3,4,8,9,10] [Ù,Ý,ó,Å,Æ,ß] av0]) yJ
def XD:=afd [.d zP,Ð] [] [Ð,Æ] [] (dN [ads 3 [] [2,3,4,23] Lb [Ļ,aam,Ŏ],ads 16 [] [2,3,4,6] I3 ays,ads 26 [6] [2,3,4,44] Lb ays]) ou
def ZO:=afd [Ô] [] [þ] [] (dN [adx 8 [] [1,2,3,4] I3 [Ż,ÿ,.C 61 [ì,Å,è,è],ë] [.qc 3 0 98 ec],adx 23 [] [1,2,3,5] I3 [Ż,ÿ,.C 61 [ì,Å,ñ,è],ë,á] [.qc 3 2 4 .bool],adx 38 [] [1,2,3,6] I3 [Ż,ÿ,.C 61 alq,ë,á,å] [.qc 3 3 178 iC],ads 49 [6] [1,2,3,7] als [Ż,ÿ,.C 61 [ñ,Å,ă,ò],.C 178 [.d iC],ë,á,å]]) sZ
def afr:=afd [Ô,þ] [] [Æ] [] (dN [ads 6 [] [2,3,5] yf aap,ads 15 [5] [2,3,31] rm aap,ads 23 [] [4] [Æ] []]) s5
def aoj:=afd BH [] [Æ] [] (dN [ads 2 [] [4] [Æ] []]) rT
def ZN:=afd (Ô::Ť) [] [Æ] [] (dN [ads 6 [2,7] [3,8] ip rk,ads 36 [2,7] [3,18] ip rk,ads 46 [2,7] [3,26] ip rk,ads 53 [] [6] [Æ] [],ads 56 [2,7] [3,43] ip rk,ads 71 [] [6] [Æ] [],ads 74 [2,7] [3,61] ip rk,ads 92 [2,7] [3,71] ip rk,ads 102 [2] [3,79] ip rk]) v9
def Ua:=afd (Ô::þ::Å::Ť) [] [Æ] [] (dN [ads 3 [2,3,4] [5,6,30] rm aap,ads 25 [] [10] [Æ] [],ads 50 [] [10] [Æ] [],ads 56 [] [10] [Æ] [],ads 59 [2,4,70] [5,6,11,119] Lb [Ż,abn,.C 178 [.d iC]],ads 99 [2,4,70] [5,6,160] rm aap,ads 116 [] [10] [Æ] [],ads 122 [] [10] [Æ] []]) lq
def T_:=afd [þ,Å] [] pQ [] (dN [adx 8 [1] [2,5,6] O5 alr [.nil 5 3 aP],ads 16 [1,6] [2,5] [È,é] alr,ads 17 [1,6] [2,5,30] [È,é,Æ] alr]) oO
def T9:=afd O6 [] pQ [] (dN [adx 8 [0,1] [5,6] [ê,Å] [Î] [.nil 5 3 aP],ads 16 [0,1,6] [5] [ê] [Î]]) rS
def afs:=afd [þ] [] [Ĭ] auq (dN [adx 8 [] [1,2,3,4] I3 [abn,ÿ,.C 61 alq,ë,á,å] [.qc 3 0 98 ec]]) iL
def nF:=af4 [Ĭ,Å] auq pQ auq (dN [adx 8 [1] [2,5,6] [Ý,ñ,Å] auw [.nil 5 3 aP],ads 16 [1,6] [2,5] [Ý,ñ] auw,ads 17 [1,6] [2,5,30] [Ý,ñ,Æ] auw])
def Qt:cA:=cn nF nv
def Ou:cA:=⟨nF.pre,⟨nF.post.vs,[]⟩,lT⟩
def ZP:=afd (Ô::þ::Å::Å::Ť) [] [þ,Å,Æ] [] (dN [ads 17 [] [7,12,15] yf auy,ads 26 [2,4,5,15,30] [6,7,12,45] Lb ayt,ads 34 [2,4,5,15,30] [6,7,12,54] Lb ayt,ads 90 [] [7,12,17] yf auy,ads 109 [18] [7,12,19] yf auy]) qD
def ZM:=afd [ç] [] [ċ] [] (dN [adx 16 [] [1,2,3,4] I3 [ż,Ø,.C 115 (ş++[ì,è,è]),Ç] [.qc 3 4 2 aP],adx 31 [] [1,2,3,5] I3 [ż,Ø,.C 115 (ş++[ì,ñ,è]),Ç,Ç] [.qc 3 5 2 aP],adx 46 [] [1,2,3,6] I3 [ż,Ø,.C 115 aux,Ç,Ç,.F 197 J fy] [.qc 3 6 197 fy]]) v8
def afp:=afd [ç,ċ] [] [Æ] [] (dN [ads 3 [] [2,3,46] rm alu,ads 14 [] [2,3,5] yf alu,ads 25 [5] [2,3,97] rm alu]) yI
def afn:=afd [Å] [] [Å] [] (dN [ads 5 [0] [3,10] [ê,Æ] [Ì]]) Db
def Xh:=afd [Ā,Ð] [] [Å] [] (dN [ads 6 [6] [2,3,7] rm [ſ,aam],ads 28 [] [2,40] ip [ſ]]) xh
def T8:=afd [ç,ċ,Å] [] [Ó,Æ] [] (dN [ads 3 [2] [3,4,6,25] Lb [ż,adr,Ö],adx 54 [] [6,8,9,10] als ayq [.qc 10 5 3 aP],ads 59 [] [6,8,9,10,98] CV [Ö,aam,ſ,Ö],adx 68 [] [6,10] [È,Õ] [Ö,.C 66 (ů++[æ,ì]),Î,Î] [.qc 10 6 3 aP],ads 69 [] [6,8,9,10,123] CV ayq]) oN
def ZK:=afd [Ô] [] [í] [] (dN [adx 8 [] [1,2,3,4] I3 [Ż,ń,.C 107 aux,Ç,.F 2 af aP,Ì] [.qc 3 4 2 aP]]) ol
def afm:=afd [Ô,í] [] [Æ] [] (dN [ads 2 [] [4] [Æ] []]) yG
def aoi:=afd BH [] [Æ] [] (dN [ads 2 [] [4] [Æ] []]) FZ
def T7:=afd O6 [] [Æ] [] (dN [ads 6 [0,1] [5] [Å] [],ads 15 [0,1,5] [40] [Æ] []]) rR
def ZI:=afd [í,Ó] [] [Æ] [] (dN [ads 21 [] [4] [Æ] [],ads 24 [7] [2,3,40] rm Ų,ads 47 [] [4] [Æ] []]) Am
def afl:=afd [Ô,í,Ó] [] [í,Æ] [] (dN [ads 3 [] [3,4,5,6,46] CV O_,ads 10 [] [3,4,5,6] als O_,ads 11 [] [3,4,5,6,55] CV O_,ads 21 [] [3,4,5,6,78] CV O_,ads 28 [] [3,4,5,6,8] CV O_,ads 31 [] [3,4,5,6,110] CV O_,ads 39 [] [3,4,5,6,125] CV O_,ads 47 [] [3,4,5,6,154] CV O_,ads 58 [] [3,4,5,6,9,10] aup (Ź++[ń,.C 107 [è,Å,è,è,ă,ò,ö],Ç,Ç,Î]),ads 66 [] [5,6,9] Š aun,ads 72 [] [5,6,9] Š aun]) sY
def ZJ:=afd [đ,Å,Å,ß] [] [Æ] [] (dN [ads 6 [0,1,2,3] [9] [Å] [],ads 23 [0,1,2,3,9] [10,11,12] [Å,Æ,Å] [],ads 31 [0,1,2,3,9,12] [10,11] [Å,Æ] [],ads 38 [0,1,2,3,9,10,12] [11] [Æ] []]) sX
def ZL:=afd [õ] [] BH [] (dN [ads 24 [] [1,4,5] yf ū,ads 38 [5] [1,4,7,63] Lb (ū++[ž])]) v7
def XC:=afd [ċ] [] [.agg [Ĭ,ì,ñ,.qy 5 4 1]] (š++.C 197 [Å,ò,ö,Å]::ŧ) (dN [(8,(.u 2))]) um
def Xs:=afd QU [] QV [] (dN [(27,(.s 5 0 0 1)),ads 37 [] [3,4,5,6,7,9,14,15,16] QZ av9,ads 38 [16,77] [3,4,5,6,7,9,14,15,78] Sg av9,ads 83 [16] [3,4,5,6,7,9,14] QX (Ů++Ē::Ç::Ç::Ē::ŧ),ads 84 [16] [3,4,5,6,7,9,14,15,154] Sg av9,ads 95 [] [4,5,6,7,9,14] QW [.C 115 (ş++[ò,ö,.qy 8 4 1]),aao,Ø,Ö,ź,aam,Ç,Ç,aam],ads 96 [] [3,4,5,6,7,9,14,183] QY (Ů++[ē,Ç,Ç,ē]),(102,(.s 5 0 0 1)),(104,(.a [.pk 4 6 fy]))]) gU
def XB:=afd [ċ] [] [adk] (š++.C 197 [Å,ò,ö,Å,Ð]::ŧ) (dN [(8,(.u 3))]) ul
def Xr:=afd QU [] QV [] (dN [(27,(.s 5 0 0 1)),ads 37 [] [3,4,5,6,7,9,14,15,16] QZ avb,ads 38 [16,77] [3,4,5,6,7,9,14,15,78] Sg avb,ads 83 [16] [3,4,5,6,7,9,14] QX (Ş++Ē::Ç::Ç::.C 197 [Å,ģ,ø,Å,Ð]::ŧ),ads 84 [16] [3,4,5,6,7,9,14,15,154] Sg avb,ads 95 [] [4,5,6,7,9,14] QW ayy,ads 96 [] [3,4,5,6,7,9,14,183] QY (Ş++[ē,Ç,Ç,.C 197 [Å,ß,Ķ,Å,Ð]]),(102,(.s 5 0 0 1)),(104,(.a [.pk 4 6 fy]))]) iw
def XA:=afd [ċ] [] [adk] (š++.C 197 [Ð,Å,ò,ö,Å]::ŧ) (dN [(8,(.u 3))]) uk
def Xq:=afd QU [] QV [] (dN [(27,(.s 5 0 1 1)),ads 37 [] [3,4,5,6,7,9,14,15,16] QZ ava,ads 38 [16,77] [3,4,5,6,7,9,14,15,78] Sg ava,ads 83 [16] [3,4,5,6,7,9,14] QX (Ş++Ē::Ç::Ç::.C 197 [Ð,Å,ģ,ø,Å]::ŧ),ads 84 [16] [3,4,5,6,7,9,14,15,154] Sg ava,ads 95 [] [4,5,6,7,9,14] QW ayy,ads 96 [] [3,4,5,6,7,9,14,183] QY (Ş++[ē,Ç,Ç,.C 197 [Ð,Å,ß,Ķ,Å]]),(102,(.s 5 0 1 1)),(104,(.a [.pk 4 6 fy]))]) gR
def Xz:=afd [ċ] [] aum (š++.C 197 (Å::ò::ö::Ŵ)::ŧ) (dN [(8,(.u 4))]) uj
def Xo:=afd QU [] QV [] (dN [(27,(.s 5 0 0 1)),ads 37 [] [3,4,5,6,7,9,14,15,16] QZ ave,ads 38 [16,77] [3,4,5,6,7,9,14,15,78] Sg ave,ads 83 [16] [3,4,5,6,7,9,14] QX (Ś++Ē::Ç::Ç::.C 197 (Å::ģ::ø::Ŵ)::ŧ),ads 84 [16] [3,4,5,6,7,9,14,15,154] Sg ave,ads 95 [] [4,5,6,7,9,14] QW av4,ads 96 [] [3,4,5,6,7,9,14,183] QY (Ś++[ē,Ç,Ç,.C 197 (Å::ß::Ķ::Ŵ)]),(102,(.s 5 0 0 1)),(104,(.a [.pk 4 6 fy]))]) lm
def Xy:=afd [ċ] [] aum (š++.C 197 [Ð,Å,ò,ö,Å,Ð]::ŧ) (dN [(8,(.u 4))]) ui
def Xn:=afd QU [] QV [] (dN [(27,(.s 5 0 1 1)),ads 37 [] [3,4,5,6,7,9,14,15,16] QZ avd,ads 38 [16,77] [3,4,5,6,7,9,14,15,78] Sg avd,ads 83 [16] [3,4,5,6,7,9,14] QX (Ś++Ē::Ç::Ç::.C 197 [Ð,Å,ģ,ø,Å,Ð]::ŧ),ads 84 [16] [3,4,5,6,7,9,14,15,154] Sg avd,ads 95 [] [4,5,6,7,9,14] QW av4,ads 96 [] [3,4,5,6,7,9,14,183] QY (Ś++[ē,Ç,Ç,.C 197 [Ð,Å,ß,Ķ,Å,Ð]]),(102,(.s 5 0 1 1)),(104,(.a [.pk 4 6 fy]))]) kf
def Xx:=afd [ċ] [] aum (š++.C 197 [Ð,Ð,Å,ò,ö,Å]::ŧ) (dN [(8,(.u 4))]) uh
def Xm:=afd QU [] QV [] (dN [(27,(.s 5 0 2 1)),ads 37 [] [3,4,5,6,7,9,14,15,16] QZ avc,ads 38 [16,77] [3,4,5,6,7,9,14,15,78] Sg avc,ads 83 [16] [3,4,5,6,7,9,14] QX (Ś++Ē::Ç::Ç::.C 197 [Ð,Ð,Å,ģ,ø,Å]::ŧ),ads 84 [16] [3,4,5,6,7,9,14,15,154] Sg avc,ads 95 [] [4,5,6,7,9,14] QW av4,ads 96 [] [3,4,5,6,7,9,14,183] QY (Ś++[ē,Ç,Ç,.C 197 [Ð,Ð,Å,ß,Ķ,Å]]),(102,(.s 5 0 2 1)),(104,(.a [.pk 4 6 fy]))]) iY
def Xw:=afd [ċ] [] apw (š++.C 197 [Å,ò,ö,Å,Ð,Ð,Ð]::ŧ) (dN [(8,(.u 5))]) ug
def dQ:=af4 QU [] QV [] (dN [(27,(.s 5 0 0 1)),ads 37 [] [3,4,5,6,7,9,14,15,16] QZ av8,ads 38 [16,77] [3,4,5,6,7,9,14,15,78] Sg av8,ads 83 [16] [3,4,5,6,7,9,14] QX (ř++Ē::Ç::Ç::.C 197 [Å,ģ,ø,Å,Ð,Ð,Ð]::ŧ),ads 84 [16] [3,4,5,6,7,9,14,15,154] Sg av8,ads 95 [] [4,5,6,7,9,14] QW apz,ads 96 [] [3,4,5,6,7,9,14,183] QY (ř++[ē,Ç,Ç,.C 197 [Å,ß,Ķ,Å,Ð,Ð,Ð]]),(102,(.s 5 0 0 1)),(104,(.a [.pk 4 6 fy]))])
def Xl:cA:=cn dQ qV
def Xv:=afd [ċ] [] apw (š++.C 197 (Ð::Å::ò::ö::Ŵ)::ŧ) (dN [(8,(.u 5))]) uf
def Xk:=afd QU [] QV [] (dN [(27,(.s 5 0 1 1)),ads 37 [] [3,4,5,6,7,9,14,15,16] QZ av7,ads 38 [16,77] [3,4,5,6,7,9,14,15,78] Sg av7,ads 83 [16] [3,4,5,6,7,9,14] QX (ř++Ē::Ç::Ç::.C 197 (Ð::Å::ģ::ø::Ŵ)::ŧ),ads 84 [16] [3,4,5,6,7,9,14,15,154] Sg av7,ads 95 [] [4,5,6,7,9,14] QW apz,ads 96 [] [3,4,5,6,7,9,14,183] QY (ř++[ē,Ç,Ç,.C 197 (Ð::Å::ß::Ķ::Ŵ)]),(102,(.s 5 0 1 1)),(104,(.a [.pk 4 6 fy]))]) qU
def Xu:=afd [ċ] [] apw (š++.C 197 [Ð,Ð,Å,ò,ö,Å,Ð]::ŧ) (dN [(8,(.u 5))]) ue
def Xj:=afd QU [] QV [] (dN [(27,(.s 5 0 2 1)),ads 37 [] [3,4,5,6,7,9,14,15,16] QZ av6,ads 38 [16,77] [3,4,5,6,7,9,14,15,78] Sg av6,ads 83 [16] [3,4,5,6,7,9,14] QX (ř++Ē::Ç::Ç::.C 197 [Ð,Ð,Å,ģ,ø,Å,Ð]::ŧ),ads 84 [16] [3,4,5,6,7,9,14,15,154] Sg av6,ads 95 [] [4,5,6,7,9,14] QW apz,ads 96 [] [3,4,5,6,7,9,14,183] QY (ř++[ē,Ç,Ç,.C 197 [Ð,Ð,Å,ß,Ķ,Å,Ð]]),(102,(.s 5 0 2 1)),(104,(.a [.pk 4 6 fy]))]) oq
def Xt:=afd [ċ] [] apw (š++.C 197 [Ð,Ð,Ð,Å,ò,ö,Å]::ŧ) (dN [(8,(.u 5))]) ud
def Xi:=afd QU [] QV [] (dN [(27,(.s 5 0 3 1)),ads 37 [] [3,4,5,6,7,9,14,15,16] QZ av5,ads 38 [16,77] [3,4,5,6,7,9,14,15,78] Sg av5,ads 83 [16] [3,4,5,6,7,9,14] QX (ř++Ē::Ç::Ç::.C 197 [Ð,Ð,Ð,Å,ģ,ø,Å]::ŧ),ads 84 [16] [3,4,5,6,7,9,14,15,154] Sg av5,ads 95 [] [4,5,6,7,9,14] QW apz,ads 96 [] [3,4,5,6,7,9,14,183] QY (ř++[ē,Ç,Ç,.C 197 [Ð,Ð,Ð,Å,ß,Ķ,Å]]),(102,(.s 5 0 3 1)),(104,(.a [.pk 4 6 fy]))]) mo
def afq:cA:=cn dQ Dc
def afo:=afd [ç,ċ,è,ň] [] [đ,ċ] [] (dN [(1,(.a [.nil 2 66 gz])),ads 6 [3] [2,4,5,9,10] [ê,Õ,Ù,Ý,Å] auv,ads 8 [3,10] [2,4,5,9,22] [ê,Õ,Ù,Ý,Æ] auv,ads 14 [3,10] [2,4,5,9] [ê,Õ,Ù,Ý] auv]) yH
def aka:=afd [ç,ň] [] [õ,ċ] [] .leaf F0
def K3:=afd wY Yd [Å] Yd (dN [ads 3 [1] [0,18] ip agh]) bF
def afy:=afd [Å] [] [Ċ] [] .leaf s_
def Z_:=afd [ð] [] [Ċ] [] .leaf qJ
def Uk:=afd [Å,Ċ,Ċ] [] [Ċ] [] .leaf oU
def Ul:=afd [ð,Ċ] [] [Ğ] [] .leaf j8
def XP:=afd [] [] [ý] [] .leaf ur
def QL:=afd [Ŗ] [] [ň] [] (dN [adx 8 [0] [3,4] [ê,Å] [.F 155 J gf] [.nil 3 155 gf]]) tL
def o_:=af4 wY aaq [Ċ] aaq (dN [ads 8 [1,6] [0,4,5,14] [È,Ý,ñ,Æ] [.C 214 ary,Ž,Č,.C 218 [Å,Å,ð,è],Ĩ]])
def IQ:cA:=cn o_ fF
def Ia (n:Nat):cA:=cn o_ (l8 n)
def Hg:=afd [È,ð] aaq [Æ] aaq .leaf fk
def nW:=af4 Yg aaq [ñ] [.C 214 aut,ĩ,Ď,Č,ĵ] (dN [(1,(.a [.qx 0 7])),adx 8 [1,2] [0,7,8] [È,ì,Å] ayr [.nil 7 220 .sm],ads 10 [1,2,8] [0,7,22] [È,ì,Æ] ayr,(21,(.a [.nil 6 220 .sm]))])
def Hf:cA:=cn nW rW
def F7 (n:Nat):cA:=cn nW (dU n)
def tA:=af4 wY aaq [Ğ] [.C 214 aut,ĩ,Ď,Č] (dN [(1,(.a [.qx 0 7])),ads 6 [1,5] [0,4,6] O7 La2,ads 28 [1,5,6] [0,4,74] O7 La2,adx 33 [] [4,7] [Ý,ó] [.C 214 (Ű++[ă]),Ž,Ď,.C 220 as1,.C 220 [Å,Å,ð,ð,è,Å,Å,ð,.d (.sl .ex),ò,ö],Č,ĵ,ĵ] [.qc 7 10 220 .sm],ads 42 [1,5,6] [0,4,100] O7 La2,ads 56 [1,5,6] [0,4,133] O7 La2,ads 64 [1,5,6] [0,4,165] O7 La2,ads 70 [1,5,6] [0,4,188] O7 La2,ads 82 [1,5,6] [0,4,210] O7 La2,ads 94 [5,6] [0,4,235] O7 La2,ads 100 [5] [0,4,258] O7 La2,ads 106 [5] [0,4,278] O7 La2,ads 114 [] [0,4,308] O7 La2])
def H_ (n:Nat):cA:=cn tA (fe n)
def sw:=af4 [È,ð,Å] aaq [Ī] [.C 214 aut,ĩ,Ď,Č] .leaf
def F8 (n:Nat):cA:=cn sw (eK n)
def QK:=afd [Ŗ] [] [č] [] (dN [(5,(.a [.qc 3 7 9 .str])),adx 14 [5] [2,3,4,6,7] (Š++[ì,Å]) [.C 152 [è,è],.C 214 [ó,Å,Å,Æ,Æ,Æ,Æ,ă],.C 152 [ý,ò],Ĩ,Ž,Č,.F 204 J uX] [.qc 4 1 204 uX],adx 27 [5,7] [2,3,4,6,8] (Š++[ì,ó]) La7 [.qc 8 3 220 .sm],adx 34 [5,7] [2,3,4,6,8,9] (Š++[ì,ó,Å]) La7 [.qc 8 3 220 .sm],ads 48 [5,7] [2,3,4,6,8] (Š++[ì,ó]) La7,ads 49 [5,7] [2,3,4,6,8,79] (Š++[ì,ó,Æ]) La7]) pP
def Z':=afd [Ŗ] [] [ç] [] .leaf An
def XQ:=afd [Ŗ,Ŗ] [] [õ] [] .leaf xk
def T4:=afd [] [] [Ô] [] (dN [adx 8 [21] [0,1,22] yf apy [.qc 1 5 134 pR],ads 22 [2,21,22] [0,1,3] yf apy]) oK
def On:=afd [í] [] pQ [] (dN [adx 8 [8,9] [3,10] [ê,Å] [Î] [.nil 3 3 aP],ads 16 [8,9,10] [3] [ê] [Î]]) og
def T2:=afd [] [] pQ [] .leaf vq
def Ql:=afd Yg Yd [Å] Yd (dN [ads 6 [2,7] [0,8] ip agh,ads 16 [2,7] [0,16] ip agh,ads 26 [2,7] [0,21] ip agh,ads 44 [2,7] [0,26] ip agh,ads 70 [2] [0,33] ip agh]) pK
def TZ:=afd (È::í::Ť) Yd [Å] Yd (dN [ads 18 [10] [0,5,24] rm [Ž,ž]]) rM
def Xc:=afd [È,é] [ĩ,Î] pQ [ĩ,Î] (dN [adx 8 [9] [0,1,5,8,10] (ŭ++[é,Å]) auo [.nil 5 3 aP],ads 16 [9,10] [0,1,5,8] (ŭ++[é]) auo,ads 19 [7,9,10] [0,1,5,8,24] (ŭ++[é,Æ]) auo]) iu
def T3:=afd [È,í,Ô,Ŀ] ayp [Ó] ayp (dN [ads 8 [9] [0,3,5,6,8,11] [È,Ŀ,ħ,Ł,.H 8 0,.H 9 0] ayv,ads 9 [9] [0,3,5,6,8,11,36] [È,Ŀ,ħ,Ł,.H 8 0,.H 9 0,Æ] ayv,ads 18 [9] [0,3,8,11] [È,Ŀ,ħ,Ł] ayw,ads 19 [9] [0,3,8,11,74] [È,Ŀ,ħ,Ł,Æ] (Ũ++[Ö,Ö]),(22,(.s 9 0 0 4)),ads 24 [] [8,11] [ħ,Ł] (Ũ++[Ö,.C 66 (ů++[ß,ß])]),ads 25 [9] [0,3,8,11,89] [È,Ŀ,ħ,Ł,Æ] ayw,(28,(.s 9 0 0 4))]) rN
def Xd:=afd [È,í,Ô,Å,Æ] Yd [đ] Yd (dN [(8,(.a [.qc 12 0 3 aP,.qc 12 1 3 aP,.qc 12 2 3 aP,.qc 12 3 3 aP])),ads 9 [3,11] [0,6,7,12] (Š++[.qy 3 1 4]) av1,(10,(.u 5)),ads 18 [3,4,11,22,23] [0,6,7,12] (Š++[.qy 3 1 4]) av1,ads 21 [3,4,11,13,22,23] [0,6,7,12,39] (Š++[.qy 3 1 4,Æ]) av1,adx 29 [3] [0,6,7,11,12] (Š++[ì,ņ]) av2 [.nil 11 66 gz],ads 31 [3] [0,6,7,11,12,65] (Š++[ì,ņ,Æ]) av2,ads 36 [3] [0,6,7,11,12] (Š++[ì,ņ]) av2,ads 47 [3] [0,6,7,11,12,14,15] (Š++[ì,ņ,İ,ħ]) ayx,ads 48 [3] [0,6,7,11,12,14,15,87] (Š++[ì,ņ,İ,ħ,Æ]) ayx,(51,(.s 14 0 0 4))]) ua
def T5:=afd UD [] [õ] [] (dN [ads 2 [1] [0,4] [Ŗ,È] [ŕ],ads 22 [1,9] [4,5,6,7,8,10] (Š++[Ý,ñ,Å]) [ŕ,Ž,.C 34 (ţ++[è]),ž,.F 66 af gz],adx 37 [1,48] [4,5,6,7,47,49] (Š++[Ý,ñ,Å]) ayz [.qc 6 6 66 gz],ads 45 [1,48,49] [4,5,6,7,47] (Š++[Ý,ñ]) ayz]) rO
def IH:=afd [.d (.st (.pr Hs (.pr Hs Hs))),Å] [] [õ] [] .leaf oL
def P9:aN Pg 168 QD:=mk _ _ an ca
def M3:aN Pg 143 Oy:=mk _ _ (ac P9 an) ca
def Jr:aN Pg 142 XL:=mk _ _ an ca
def Zq:aN Pg 169 Z6:=mk _ _ an ca
def Zp:aN Pg 144 Z5:=mk _ _ (ac Jr (ac Zq an)) ca
def ut:aN Pg 113 XM:=mk _ _ (ac Jr (ac M3 (ac Zp an))) ca
def M2:aN Pg 221 ZX:=mk _ _ an ca
def Zi:aN Pg 205 ZY:=mk _ _ (ac M2 an) ca
def Wh:aN Pg 207 XH:=mk _ _ (ac M2 an) ca
def Zj:aN Pg 204 ZZ:=mk _ _ an ca
def P5:aN Pg 228 Qz:=mk _ _ an ca
def yS:∀n:Nat,aN Pg 222 (Ky n)
 |0=>Jk qo
 |n+1=>mk qo (p_ (iz n)) (ac ut (ac (yS n) (ac P5 an))) ca
def Bb:aN Pg 222 KX:=(yS fuel)
def Zo:aN Pg 223 Z4:=mk _ _ an ca
def tu:∀n:Nat,aN Pg 208 (Kx n)/\aN Pg 178 (H9 n)
 |0=>⟨Jk uW,Jk o9⟩
 |n+1=>⟨mk uW (kX (e_ n) (dR n)) (ac ut (ac (tu n).2 (ac Bb (ac Zo an)))) ca,mk o9 (l7 (e_ n) (dR n)) (ac (tu n).1 an) ca⟩
def In:aN Pg 178 IL:=(tu fuel).2
def KB:aN Pg 177 KW:=mk _ _ (ac ut an) ca
def Wj:aN Pg 151 XK:=mk _ _ (ac ut (ac KB (ac In an))) ca
def xr:aN Pg 114 aom:=mk _ _ an ca
def xp:aN Pg 179 XJ:=mk _ _ an ca
def xX:aN Pg 180 Qy:=mk _ _ an ca
def Wi:aN Pg 224 XI:=mk _ _ (ac xr (ac xp (ac xX an))) ca
def Rx:aN Pg 211 afv:=mk _ _ (ac Wi an) ca
def Ju:∀n:Nat,aN Pg 225 (Y0 n)
 |0=>Jk AE
 |n+1=>mk AE (Aw (oB n)) (ac (Ju n) an) ca
def Zm:aN Pg 225 Z2:=(Ju fuel)
def Jt:∀n:Nat,aN Pg 226 (YZ n)
 |0=>Jk AD
 |n+1=>mk AD (wz (oA n)) (ac Rx (ac (Jt n) an)) ca
def Zk:aN Pg 226 Z0:=(Jt fuel)
def aex:aN Pg 212 afw:=mk _ _ (ac Bb (ac Zm (ac Zk an))) ca
def TB:aN Pg 213 Uf:=mk _ _ an ca
def anu:aN Pg 210 aol:=mk _ _ an ca
def Im:aN Pg 209 IK:=mk _ _ an ca
def P3:aN Pg 181 Qw:=mk _ _ (ac xr (ac xp (ac xX (ac Im (ac anu (ac Rx (ac aex (ac TB an)))))))) ca
def Cb:∀n:Nat,aN Pg 155 (PL n)
 |0=>Jk tS
 |n+1=>mk tS (nE (iW n)) (ac (Cb n) (ac P3 an)) ca
def P4:aN Pg 155 Qx:=(Cb fuel)
def Jv:∀n:Nat,aN Pg 154 (Y1 n)
 |0=>Jk AF
 |n+1=>mk AF (Ax (oC n)) (ac (Jv n) an) ca
def Zn:aN Pg 154 Z3:=(Jv fuel)
def Zl:aN Pg 152 Z1:=mk _ _ (ac xp an) ca
def TA:aN Pg 153 Ue:=mk _ _ (ac xr (ac xp (ac xX an))) ca
def At:aN Pg 117 Ug:=mk _ _ (ac Wj (ac Zl (ac TA (ac Zn (ac P4 an))))) ca
def Js:∀n:Nat,aN Pg 157 (YY n)
 |0=>Jk AC
 |n+1=>mk AC (Av (qL n)) (ac (Js n) an) ca
def Zd:aN Pg 157 ZR:=(Js fuel)
def Jo:aN Pg 156 XE:=mk _ _ an ca
def Jq:aN Pg 214 XG:=mk _ _ an ca
def Zh:aN Pg 118 ZV:=mk _ _ (ac At (ac Jo (ac Zd an))) ca
def Ze:aN Pg 112 ZS:=mk _ _ an ca
def Ba:aN Pg 70 KV:=mk _ _ (ac Ze (ac ut (ac xr an))) ca
def wv:aN Pg 121 Ox:=mk _ _ an ca
def Jp:aN Pg 171 XF:=mk _ _ an ca
def Zf:aN Pg 146 ZT:=mk _ _ (ac Jp an) ca
def Tx:aN Pg 147 aok:=mk _ _ an ca
def Zg:aN Pg 170 ZU:=mk _ _ (ac Tx an) ca
def Tw:aN Pg 145 Ub:=mk _ _ (ac Tx (ac Zg an)) ca
def Il:aN Pg 115 IJ:=mk _ _ (ac wv (ac Tw (ac Zf (ac Tx an)))) ca
def Fb:aN Pg 72 ZW:=mk _ _ (ac Ba (ac Il an)) ca
def oX:aN Pg 120 Uc:=mk _ _ an ca
def Bd:∀n:Nat,aN Pg 186 (MC n)
 |0=>Jk sk
 |n+1=>mk sk (sd (je n)) (ac xr (ac oX (ac (Bd n) (ac Jq an)))) ca
def wu:aN Pg 186 Ov:=(Bd fuel)
def KA:aN Pg 182 KU:=mk _ _ (ac xr (ac oX (ac wu (ac Jq an)))) ca
def P1:aN Pg 185 Qv:=mk _ _ an ca
def kW:∀n:Nat,aN Pg 119 (MD n)/\aN Pg 158 (PK n)/\aN Pg 183 (F6 n)/\aN Pg 184 (Kw n)
 |0=>⟨Jk sr,Jk ya,Jk su,Jk uV⟩
 |n+1=>⟨mk sr (wy (dY n) (fm n) (dw n) (dT n)) (ac (kW n).2.1 an) ca,mk ya (tP (dY n) (fm n) (dw n) (dT n)) (ac xr (ac oX (ac Jo (ac KA (ac (kW n).2.2.1 (ac (kW n).2.2.2 (ac P1 (ac wu an)))))))) ca,mk su (nR (dY n) (fm n) (dw n) (dT n)) (ac (kW n).1 (ac oX (ac wu an))) ca,mk uV (uS (dY n) (fm n) (dw n) (dT n)) (ac (kW n).1 (ac oX an)) ca⟩
def M1:aN Pg 119 Ow:=(kW fuel).1
def Tz:aN Pg 75 Ud:=mk _ _ (ac At (ac Zh (ac M1 (ac oX (ac wv an))))) ca
def M0:aN Pg 103 akc:=mk _ _ an ca
def ajo:aN Pg 140 akb:=mk _ _ an ca
def MZ:aN Pg 106 ZQ:=mk _ _ (ac ajo an) ca
def P0:aN Pg 206 Qu:=mk _ _ an ca
def lZ:aN Pg 175 afu:=mk _ _ an ca
def aew:aN Pg 176 aft:=mk _ _ (ac MZ (ac wv (ac Zi (ac P0 (ac Wh an))))) ca
def kj:aN Pg 150 XD:=mk _ _ (ac Jp (ac lZ (ac aew an))) ca
def MY:aN Pg 62 ZO:=mk _ _ an ca
def Ik:aN Pg 100 afr:=mk _ _ an ca
def ac8:aN Pg 101 aoj:=mk _ _ an ca
def Zc:aN Pg 102 ZN:=mk _ _ (ac ac8 an) ca
def Gi:aN Pg 65 Ua:=mk _ _ (ac Ik (ac ac8 (ac Zc (ac M0 an)))) ca
def Tv:aN Pg 104 T_:=mk _ _ an ca
def Tu:aN Pg 107 T9:=mk _ _ an ca
def lY:aN Pg 105 afs:=mk _ _ an ca
def PZ:aN Pg 104 Qt:=mk nF nv an ca
def MX:aN Pg 104 Ou:= @aN.ro Pg 104 nF.pre nF.post.vs nv lT (PZ.holds rfl) rfl (λx _ h=>by rw[show lT x=aA (nv x) λy=>same y.2 x.2 (Z y.1) from rfl]at h;exact h)
def kE:aN Pg 68 ZP:=mk _ _ (ac Gi (ac M0 (ac MX (ac lY (ac MZ (ac Tu an)))))) ca
def Zb:aN Pg 74 ZM:=mk _ _ (ac MY (ac Fb an)) ca
def aeu:aN Pg 172 afp:=mk _ _ (ac Fb (ac Ik an)) ca
def aes:aN Pg 173 afn:=mk _ _ an ca
def VV:aN Pg 174 Xh:=mk _ _ (ac Zj an) ca
def iV:aN Pg 148 T8:=mk _ _ (ac aeu (ac aes (ac VV an))) ca
def MW:aN Pg 45 ZK:=mk _ _ (ac MY an) ca
def aer:aN Pg 63 afm:=mk _ _ (ac Ik an) ca
def ant:aN Pg 64 aoi:=mk _ _ an ca
def Tt:aN Pg 66 T7:=mk _ _ an ca
def Y_:aN Pg 67 ZI:=mk _ _ (ac M0 (ac Tv an)) ca
def Ij:aN Pg 47 afl:=mk _ _ (ac aer (ac ant (ac Gi (ac Tt (ac Y_ (ac kE an)))))) ca
def Y':aN Pg 71 ZJ:=mk _ _ an ca
def Za:aN Pg 49 ZL:=mk _ _ (ac MW (ac Ij (ac Ba (ac Y' an)))) ca
def Q5 (t:TypeId):M Ty:=if aB t 197 then Z (.pr .un fy) else ca t
def Wg:aN Pg 149 XC:=mk _ _ (ac lY (ac lZ an)) Q5
def V7:aN Pg 116 Xs:=mk _ _ (ac kE (ac iV (ac Wg (ac kj an)))) Q5
def Wf:aN Pg 149 XB:=mk _ _ (ac lY (ac lZ an)) Q5
def V6:aN Pg 116 Xr:=mk _ _ (ac kE (ac iV (ac Wf (ac kj an)))) Q5
def We:aN Pg 149 XA:=mk _ _ (ac lY (ac lZ an)) Q5
def V5:aN Pg 116 Xq:=mk _ _ (ac kE (ac iV (ac We (ac kj an)))) Q5
def Wd:aN Pg 149 Xz:=mk _ _ (ac lY (ac lZ an)) Q5
def V4:aN Pg 116 Xo:=mk _ _ (ac kE (ac iV (ac Wd (ac kj an)))) Q5
def Wc:aN Pg 149 Xy:=mk _ _ (ac lY (ac lZ an)) Q5
def V3:aN Pg 116 Xn:=mk _ _ (ac kE (ac iV (ac Wc (ac kj an)))) Q5
def Wb:aN Pg 149 Xx:=mk _ _ (ac lY (ac lZ an)) Q5
def V0:aN Pg 116 Xm:=mk _ _ (ac kE (ac iV (ac Wb (ac kj an)))) Q5
def Wa:aN Pg 149 Xw:=mk _ _ (ac lY (ac lZ an)) Q5
def VZ:aN Pg 116 Xl:=mk dQ qV (ac kE (ac iV (ac Wa (ac kj an)))) Q5
def V_:aN Pg 149 Xv:=mk _ _ (ac lY (ac lZ an)) Q5
def VY:aN Pg 116 Xk:=mk _ _ (ac kE (ac iV (ac V_ (ac kj an)))) Q5
def V9:aN Pg 149 Xu:=mk _ _ (ac lY (ac lZ an)) Q5
def VX:aN Pg 116 Xj:=mk _ _ (ac kE (ac iV (ac V9 (ac kj an)))) Q5
def V8:aN Pg 149 Xt:=mk _ _ (ac lY (ac lZ an)) Q5
def VW:aN Pg 116 Xi:=mk _ _ (ac kE (ac iV (ac V8 (ac kj an)))) Q5
def aev:aN Pg 116 afq:=(aN.orE (pre:=dQ.pre) (post:=dQ.post) (m:=qV) (m':=(λx=>orE (qU x) ((λx=>orE (oq x) ((λx=>orE (mo x) ((λx=>orE (lm x) ((λx=>orE (kf x) ((λx=>orE (iY x) ((λx=>orE (iw x) ((λx=>orE (gR x) (gU x)) x)) x)) x)) x)) x)) x)) x))) rfl VZ (aN.orE (pre:=dQ.pre) (post:=dQ.post) (m:=qU) (m':=(λx=>orE (oq x) ((λx=>orE (mo x) ((λx=>orE (lm x) ((λx=>orE (kf x) ((λx=>orE (iY x) ((λx=>orE (iw x) ((λx=>orE (gR x) (gU x)) x)) x)) x)) x)) x)) x))) rfl VY (aN.orE (pre:=dQ.pre) (post:=dQ.post) (m:=oq) (m':=(λx=>orE (mo x) ((λx=>orE (lm x) ((λx=>orE (kf x) ((λx=>orE (iY x) ((λx=>orE (iw x) ((λx=>orE (gR x) (gU x)) x)) x)) x)) x)) x))) rfl VX (aN.orE (pre:=dQ.pre) (post:=dQ.post) (m:=mo) (m':=(λx=>orE (lm x) ((λx=>orE (kf x) ((λx=>orE (iY x) ((λx=>orE (iw x) ((λx=>orE (gR x) (gU x)) x)) x)) x)) x))) rfl VW (aN.orE (pre:=dQ.pre) (post:=dQ.post) (m:=lm) (m':=(λx=>orE (kf x) ((λx=>orE (iY x) ((λx=>orE (iw x) ((λx=>orE (gR x) (gU x)) x)) x)) x))) rfl V4 (aN.orE (pre:=dQ.pre) (post:=dQ.post) (m:=kf) (m':=(λx=>orE (iY x) ((λx=>orE (iw x) ((λx=>orE (gR x) (gU x)) x)) x))) rfl V3 (aN.orE (pre:=dQ.pre) (post:=dQ.post) (m:=iY) (m':=(λx=>orE (iw x) ((λx=>orE (gR x) (gU x)) x))) rfl V0 (aN.orE (pre:=dQ.pre) (post:=dQ.post) (m:=iw) (m':=(λx=>orE (gR x) (gU x))) rfl V6 (aN.orE (pre:=dQ.pre) (post:=dQ.post) (m:=gR) (m':=gU) rfl V5 V7)))))))))
def aet:aN Pg 73 afo:=mk _ _ (ac aev an) ca
def ajn:aN Pg 50 aka:=mk _ _ (ac Fb (ac aet (ac Zb an))) ca
def fU:aN Pg 46 K3:=mk _ _ an ca
def Ip:aN Pg 125 afy:=mk _ _ an ca
def M9:aN Pg 189 Z_:=mk _ _ an ca
def Gp:aN Pg 188 Uk:=mk _ _ an ca
def Gq:aN Pg 124 Ul:=mk _ _ an ca
def Wl:aN Pg 122 XP:=mk _ _ an ca
def Qe:aN Pg 52 QL:=mk _ _ an ca
def xt:∀n:Nat,aN Pg 187 (Ia n)
 |0=>Jk o_
 |n+1=>mk o_ (yT (l8 n)) (ac fU (ac Ip (ac (xt n) (ac Gp (ac M9 an))))) ca
def Iq:aN Pg 187 IQ:=(xt fuel)
def Gn:aN Pg 190 Hg:=mk _ _ (ac xr an) ca
def kF:∀n:Nat,aN Pg 123 (F7 n)/\aN Pg 159 (H_ n)/\aN Pg 191 (F8 n)
 |0=>⟨Jk nW,Jk tA,Jk sw⟩
 |n+1=>⟨mk nW (nU (dU n) (fe n) (eK n)) (ac (kF n).2.1 an) ca,mk tA (oY (dU n) (fe n) (eK n)) (ac fU (ac (kF n).1 (ac Gq (ac Ip (ac Iq (ac Gp (ac M9 (ac Gn (ac (kF n).2.2 an))))))))) ca,mk sw (nV (dU n) (fe n) (eK n)) (ac fU (ac (kF n).1 an)) ca⟩
def Gm:aN Pg 123 Hf:=(kF fuel).1
def Qd:aN Pg 76 QK:=mk _ _ (ac fU (ac At (ac Wl (ac Gm (ac Gq (ac Ip an)))))) ca
def Zs:aN Pg 51 Z':=mk _ _ (ac Tz (ac Qd an)) ca
def Wm:aN Pg 22 XQ:=mk _ _ (ac ajn (ac Zs (ac Qe an))) ca
def Tq:aN Pg 44 T4:=mk _ _ an ca
def MS:aN Pg 141 On:=mk _ _ an ca
def To:aN Pg 108 T2:=mk _ _ an ca
def PO:aN Pg 109 Ql:=mk _ _ (ac fU an) ca
def Tn:aN Pg 110 TZ:=mk _ _ (ac fU (ac MS an)) ca
def VP:aN Pg 111 Xc:=mk _ _ (ac fU an) ca
def Tp:aN Pg 69 T3:=mk _ _ (ac fU (ac To (ac PO (ac Tn (ac VP an))))) ca
def tv1 (t:TypeId):M Ty:=if aB t 50 then Z (.pr .un (.pr .un (.pr .un (.pr .un (.pr .un (.sl aP)))))) else ca t
def VQ:aN Pg 48 Xd:=mk _ _ (ac fU (ac Ij (ac Tp an))) tv1
def Tr:aN Pg 21 T5:=mk _ _ (ac Tq (ac MW (ac fU (ac Ij (ac VQ (ac Za an)))))) ca
def Ih:aN Pg 7 IH:=mk _ _ (ac Tr (ac Wm an)) ca
abbrev Ld0:Y PB:=[ı,á,å,.C 61 Lc]
abbrev Ld1:Y PB:=[ı,á,å]
abbrev Ld2:Y PB:=[ž,ź,.C 225 [.d Kd0]]
abbrev Ld3:Y PB:=[Î]
abbrev Ld8:Y PV:=ţ
abbrev Ld4:Y PB:=[.C 31 Ld8,.C 66 (ů++[ß,ß])]
abbrev Ld5:Y PB:=[Î,acx]
abbrev Ld6:Y PB:=[Ż,.C 61 [ñ,Å,ă,ò],acx,ÿ,ı,á,å]
abbrev Ld7:Y PB:=[ÿ,adf,ı,.F 4 af .bool,.F 178 af iC]
abbrev Ld9:Y PB:=[ź]
abbrev O4:Y PV:=[ê,Å]
def ag1:=afd O6 [] [Å] [] (dN [ads 3 [0,1] [12] [Æ] []]) nD
def Ke:=af4 [ß,ß] [] pQ [] (dN [ads 8 [0,1,14] [5,15] O4 [Ì]])
def XU:cA:=cn Ke lx
def aoh:=afd O6 [] [Å] [] (dN [ads 3 [0,1] [12] [Æ] []]) FY
def Hj:=afd pQ [] pQ [] .leaf Te
def atj:cA:=⟨Hj.pre,Hj.post,YW⟩
def CO:=afd pQ [] [ê] Ld3 (dN [(8,(.a [.nil 2 3 aP])),(12,(.a [.nil 2 3 aP]))]) Mw
def aov:cA:=⟨CO.pre,CO.post,vw⟩
def XT:=afd O6 [] pQ [] (dN [ads 4 [0,1,5] [6] [Æ] [],ads 6 [0,1,6] [5] [Å] [],ads 16 [] [7] [ê] [Ì],ads 17 [1] [7,33] [ê,Æ] [Ì]]) qY
def ZH:=afd [Ô,Å] [] [Å] [] (dN [ads 3 [1] [2,13] ip [.C 31 Ld8]]) qC
def Qs:=afd [Ô,Ó] [] [Å,Æ] [] (dN [ads 6 [7] [2,3,8] rm Ld4]) pM
def Qp:=afd [Ô,Ó] [] [Å,Æ] [] (dN [ads 6 [7] [2,3,8] rm Ld4]) pL
def y_:=af4 [ð] [] [Æ] [] (dN [ads 6 [0,5] [6] [Å] []])
def IG:cA:=cn y_ lS
def D8:=af4 [ð] [] [Æ] [] (dN [ads 3 [0] [16] [Æ] [],ads 14 [] [18] [È] [ŉ],ads 24 [] [18] [È] [ŉ],ads 25 [3,4] [18,23] ip [ŉ],ads 29 [] [18,38] ip [ŉ]])
def Qk:cA:=cn D8 pJ
def Oe:=af4 O6 [] [Å] [] (dN [ads 6 [0,1,7] [8] [Å] []])
def aa4:cA:=cn Oe tf
def QO:=afd O6 [] [Æ] [] .leaf lC
def QN:=afd [ß,î] [] [Æ] [] .leaf kh
def K5:=afd BH [] [Æ] [] (dN [ads 2 [] [4] [Æ] []]) uO
def K6:=afd [Ô,Å,Æ] [] [Æ] [] (dN [ads 2 [] [6] [Æ] []]) uP
def vm:=af4 [ď] [] [Ú,Æ] [] (dN [adx 8 [0] [4,5] O4 [Þ] [.nil 4 9 .str],ads 15 [0] [4,5] O4 [Þ],ads 37 [0,5] [4,6,49] [ê,Õ,Æ] [Þ,ő],ads 48 [0,5,51] [4,6,52] [ê,Õ,Å] [Þ,ő]])
def DU:cA:=cn vm ij
def vk:=af4 [Ô,Ú] [] [Æ] [] (dN [ads 10 [17,18] [2,5,19] O5 agi,ads 27 [30,31] [2,5,32] O5 agi,adx 50 [52] [10,51,53] [.mp 0,é,Å] [.mp .str .bool,Þ] [.mpt 10 .str .bool],adx 62 [12,52,53] [10,51,64] [.mp 0,é,Æ] [.mp .str .bool,Þ] [.mpt 10 .str .bool]])
def DS:cA:=cn vk ef
def vj:=af4 [Ô] [] [Æ] [] (dN [ads 8 [8,9] [1,3,4,10] (È::Å::Ť) rk,ads 20 [3,4,8,9,10] [1,6,25] rm ŷ,ads 27 [8,9,10] [1,3,4,6] [È,Å,Å,Õ] ŷ])
def DR:cA:=cn vj gm
def vn:=af4 [Ô] [] [Æ] [] (dN [ads 3 [] [1,34] ip rk,ads 11 [] [1,44] ip rk,ads 21 [] [1,58] ip rk,ads 32 [60,61] [1,62] wY rk])
def DV:cA:=cn vn ik
def Eo:=af4 [Ô] [] [þ] [] (dN [ads 8 [20] [2,3,21] yf Ld7,ads 21 [] [2,3] [È,Õ] Ld7])
def QI:cA:=cn Eo pO
def xA:=af4 [Ô] [] [í] [] (dN [ads 8 [22,23] [2,3,24] yf [ń,.C 107 (ş++[æ,ì,ñ]),.F 2 af aP,.F 2 af aP,Ì]])
def G_:cA:=cn xA fh
def Oz:=afd BH [] [Æ] [] (dN [ads 2 [] [4] [Æ] []]) fC
def KY:=afd (Ô::Ť) [] [Æ] [] (dN [ads 6 [2,7] [3,8] ip rk,ads 36 [2,7] [3,18] ip rk,ads 46 [2,7] [3,26] ip rk,ads 53 [] [6] [Æ] [],ads 56 [2,7] [3,43] ip rk,ads 71 [] [6] [Æ] [],ads 74 [2,7] [3,61] ip rk,ads 92 [2,7] [3,71] ip rk,ads 102 [2] [3,79] ip rk]) m6
def G4:=af4 [Ô,þ] [] [Æ] [] (dN [ads 3 [] [2,31] ip rk,ads 14 [33,34] [2,35] wY rk])
def Uh:cA:=cn G4 lw
def QF:=afd (Ô::þ::Å::Ť) [] [Æ] [] (dN [ads 15 [] [10] [Æ] [],ads 21 [] [10] [Æ] [],ads 24 [2,4,11] [5,6,60] rm aap,ads 64 [2,4,11] [5,6,109] rm aap,ads 81 [] [10] [Æ] [],ads 87 [] [10] [Æ] []]) pN
def KZ:=afd (Ô::þ::Å::Ť) [] [Æ] [] (dN [ads 3 [2,3,4] [5,6,30] rm aap,ads 25 [] [10] [Æ] [],ads 29 [] [10] [Æ] []]) kV
def IE:=afd [Ô,í] [] [Æ] [] (dN [ads 2 [] [4] [Æ] []]) lO
def Fg:=afd [Ô,Ó] [] [Æ] [] (dN [ads 3 [] [2,3,12] rm ų,ads 10 [] [4] [Æ] []]) mE
def sj:=af4 [Ô,í,Ó] [] [Æ] [] (dN [ads 2 [] [4,5,7] rm Ų,ads 4 [] [4,5,8] Š Ld2,ads 10 [51] [4,5,8,52] I3 Ld2,ads 22 [10,51,52] [4,5,8,64] Lb Ld2,ads 34 [51,52,65,66] [4,5,8,11,67] (Š++Ť) Ld2,ads 46 [13,51,52,65,66,67] [4,5,8,83] Lb Ld2])
def AJ:cA:=cn sj fZ
def wF:=af4 [í,Ó] [] [Æ] [] (dN [ads 21 [] [4] [Æ] [],ads 24 [13] [2,3,46] rm Ų,ads 43 [53,54] [3,5,6,55] [È,Å,Æ,Å] Ld9,ads 51 [53,54,55] [3,5,6] [È,Å,Æ] Ld9,ads 54 [5,6,7,53,54,55] [3,69] ip Ld9,ads 62 [] [4] [Æ] [],ads 74 [94,95] [3,9,96] Yg Ld9,ads 82 [94,95,96] [3,9] wY Ld9,ads 85 [9,94,95,96] [3,109] ip Ld9])
def Ff:cA:=cn wF gK
def QE:=afd [.d iC,Å] [] [Æ] [] (dN [ads 2 [] [4] [Æ] []]) nB
def CP:=afd [Ą] [] [Ą] [] .leaf My
def aow:cA:=⟨CP.pre,CP.post,Td⟩
def zE:=afd [Ą] [] [ê] [á] (dN [(8,(.a [.nil 2 4 .bool])),(12,(.a [.nil 2 4 .bool]))]) H8
def akq:cA:=⟨zE.pre,zE.post,Mx⟩
def CM:=afd [ã] [] [ã] [] .leaf Mv
def aou:cA:=⟨CM.pre,CM.post,Tc⟩
def zC:=afd [ã] [] [ê] [å] (dN [(8,(.a [.nil 2 178 iC])),(12,(.a [.nil 2 178 iC]))]) H6
def ako:cA:=⟨zC.pre,zC.post,Mu⟩
def zD:=afd pQ [] [ê] [Ç] (dN [(8,(.a [.nil 2 2 aP])),(12,(.a [.nil 2 2 aP]))]) H7
def akp:cA:=⟨zD.pre,zD.post,BZ⟩
def En:=af4 [þ] [] [Ĭ] Ld1 (dN [ads 8 [11,12] [1,2,3,13] [È,Õ,æ,Å] [abn,ÿ,ı]])
def QH:cA:=cn En lB
def CC:=af4 (Ĭ::Ť) Ld1 [Å] Ld1 (dN [ads 8 [1,2,12] [3,7,11,13] [Ý,Å,æ,Å] Ld0,ads 16 [1,2,12,13] [3,7,11] [Ý,Å,æ] Ld0,ads 19 [1,2,7,8,12,13] [3,11,29] [Ý,æ,Æ] Ld0,ads 25 [7] [] [] Ld1])
def OA:cA:=cn CC kD
def xD:=af4 [Ĭ,Å] Ld1 [Å] Ld1 (dN [ads 8 [1,10] [2,5,9,11] [Ý,Å,æ,Å] Ld0,ads 16 [1,10,11] [2,5,9] [Ý,Å,æ] Ld0])
def He:cA:=cn xD h_
def OK:=afd [Å] [] [Æ] [] .leaf rX
def QM:=afd BH [] [Æ] [] (dN [ads 2 [] [4] [Æ] []]) xW
def IP:=afd [.d (.int .u64)] [] [Å] [] .leaf s9
def OF:=afd [.d (.int .u64)] [] [Å] [] .leaf wj
def pf:=af4 (ê::Ť) Ld3 [] Ld3 (dN [ads 3 [1,2] [0,6] O4 Ld3,ads 15 [1,2,6] [0,7] O4 Ld3,ads 17 [1,2,6,7] [0,30] [ê,Æ] Ld3])
def wV:cA:=cn pf gh
def vi:=af4 (ê::Å::Ť) Ld3 [] Ld3 (dN [ads 5 [] [0,1,2,3,8,9] [ê,Å,Å,Å,Æ,Æ] Ld3])
def DQ:cA:=cn vi jU
def ag2:=afd [ê] Ld3 [] Ld3 .leaf yN
def G9:=af4 [ê] Ld3 [ê] Ld3 (dN [ads 14 [] [0,3] O4 Ld3])
def Up:cA:=cn G9 mG
def K0:=afd [Å,È] [acx] [Æ] [acx] .leaf pY
def CH:=af4 [ê,ĥ] Ld5 [Å] Ld5 (dN [ads 6 [7] [0,1,8] [ê,ĥ,Å] Ld5])
def OM:cA:=cn CH oy
def Bs:=af4 [ê,ĥ] Ld5 [æ] [Ď,acx,Ì] (dN [ads 16 [] [0,1,5,6] (ê::ĥ::Ť) Ld5,ads 24 [6] [0,1,5] [ê,ĥ,Å] Ld5])
def K7:cA:=cn Bs jN
def oE:=af4 (Ô::þ::Å::Å::Ť) [] [þ,Å,Æ] [] (dN [ads 17 [] [7,12,15] yf [adf,ÿ,ı,á,å],ads 26 [4,5,15,27] [6,7,8,12,42] CV Ld6,ads 34 [4,5,15,27] [6,7,8,12,51] CV Ld6])
def OE:cA:=cn oE ia
def OC:=afd [þ] [] [.agg [.qy 0 2 3,Å,Ą,ã]] (.C 98 [Å,é,Å,æ,Å,ì]::ŵ) (dN [adx 7 [] [1,2,3] [È,Õ,.qy 2 2 3] (abn::ÿ::.C 98 [Å,ì,Å,ñ,Å,ă]::ŵ) [.qc 3 1 3 aP,.qc 3 3 3 aP,.qc 3 5 3 aP],(8,(.u 4))]) rV
def OD:=afd (Ô::þ::Å::Å::Ť) [] [þ,Å,Æ] [] (dN [ads 17 [] [7,12,15] yf [.C 61 [.qy 2 2 3,Å,Ą,ã],ÿ,.C 98 [.d ec,.d ec,Å,ì],.qf 3 aP],ads 26 [4,5,15,27] [6,7,8,12,42] CV (ű++.C 98 [Å,ă,Å,ò,Å,ö]::ŵ),(33,(.s 4 0 0 0)),ads 34 [4,5,15,27] [6,7,8,12,51] CV (ű++[.C 98 [Å,ß,Å,ß,Å,ă],Î]),(41,(.s 4 0 0 0)),(46,(.s 4 0 0 3)),(53,(.s 4 0 0 3)),(74,(.s 4 0 0 0)),(80,(.s 4 0 0 0)),(100,(.a [.pk 7 0 ec]))]) lV
def QJ:cA:=cn oE tK
def IF:=afd [Ô,í,Ó] [] [í,Æ] [] (dN [ads 3 [] [3,4,5,6,39] CV O_,ads 11 [] [3,4,5,6,70] CV O_,ads 20 [] [3,4,5,6,8] (Š++[Ý,Å]) O_,ads 41 [] [5,6,12] Š aun]) lP
def sK:=af4 [.nr 0 1,.d gz] [Í] [Æ] [Í] (dN [ads 6 [13] [0,14] [.nr 0 1,.d aP] [Í],ads 20 [13,14,17,18] [0,19] [.nr 0 1,.d aP] [Í],ads 31 [13,14,17,18,19] [0,37] [.nr 0 1,.d .bool] [Í]])
def BE:cA:=cn sK eU
def xB:=af4 [õ] [] BH [] (dN [ads 26 [27,28] [1,4,5,29] [È,Õ,æ,Å] (ū++[.I (.rr 58 1) 3,Í]),ads 40 [6,27,28,29] [1,4,5,7,8,53] [È,Õ,æ,Ý,ó,Æ] (ū++[.I (.rr 58 1) 5,ź,ž,Í]),adx 47 [27,28,29] [1,4,5,8] [È,Õ,æ,Ý] (ū++[.I (.rr 58 1) 4,ž,Í]) [.jg 5 0]])
def G':cA:=cn xB gw
def Ry:aN Pg 59 ag1:=mk _ _ an ca
def Vt x:ms (lx x) (BX x):=by
 unfold lx BX xu ck bS bU be c7 aI cQ;with_reducible repeat' first|apply OI.o;constructor|intro _
def Cc:aN Pg 91 XU:=Dd Ke lx BX Vt (ac Ry an) ca
def ac7:aN Pg 39 aoh:=mk _ _ an ca
def anz:aN Pg 89 Hj:=mk _ _ an ca
def at5:aN Pg 89 atj:= @aN.sub Pg 89 Hj.pre Hj.post Te YW anz rfl (λx y h=>tB (b:=8) x y h)
def ajr:aN Pg 89 CO:=mk _ _ an ca
def ac9:aN Pg 89 aov:= @aN.sub Pg 89 CO.pre CO.post Mw vw ajr rfl (λx y h=>tB (b:=8) x y h)
def Wn:aN Pg 97 XT:=mk _ _ an ca
def MV:aN Pg 61 ZH:=mk _ _ an ca
def PY:aN Pg 41 Qs:=mk _ _ (ac MV an) ca
def PU:aN Pg 42 Qp:=mk _ _ (ac MV an) ca
def HY x:ms (lS x) (sS x):=by
 unfold lS sS tw ly me md CY Prod.t Prod.u Prod.C Prod.D Prod.H Prod.I bk Prod.K bD bQ cS eV kZ mw nM Prod.L bS bU c7 aI cQ;with_reducible repeat' first|apply OI.o;constructor|intro _
def Ig:aN Pg 160 IG:=Dd y_ lS sS HY an ca
def Px x:ms (pJ x) (xR x):=by
 unfold pJ xR xY bm bS jY be c7 aI;with_reducible repeat' first|apply OI.o;constructor|intro _
def PN:aN Pg 126 Qk:=Dd D8 pJ xR Px (ac Ig an) ca
def YT x:ms (tf x) (E0 x):=by
 unfold tf E0 Az bm bS bX be c7 aI cQ;with_reducible repeat' first|apply OI.o;constructor|intro _
def Zt:aN Pg 192 aa4:=Dd Oe tf E0 YT an ca
def Qg:aN Pg 161 QO:=mk _ _ (ac Zt an) ca
def D6:aN Pg 26 QN:=mk _ _ (ac Ry an) ca
def KF:aN Pg 127 K5:=mk _ _ an ca
def KH:aN Pg 79 K6:=mk _ _ (ac KF an) ca
def Dy x:ms (ij x) (pq x):=by
 unfold ij pq py bk bD bQ cS dZ iS bm bS jK bU bX be c7 aI cQ;with_reducible repeat' first|apply OI.o;constructor|intro _
def DJ:aN Pg 77 DU:=Dd vm ij pq Dy an ca
def Dx x:ms (ef x) (po x):=by
 unfold ef po px bk bD bQ bS bU bX kq be c7 aI cQ;with_reducible repeat' first|apply OI.o;constructor|intro _
def DI:aN Pg 78 DS:=Dd vk ef po Dx (ac PN an) ca
def Dw x:ms (gm x) (pm x):=by
 unfold gm pm lM bk bD cS eh bS jK bX be c7 aI cQ;with_reducible repeat' first|apply OI.o;constructor|intro _
def DH:aN Pg 80 DR:=Dd vj gm pm Dw an ca
def Dz x:ms (ik x) (pu x):=by
 unfold ik pu pA bk bD cS eh bS bX be c7 aI cQ;with_reducible repeat' first|apply OI.o;constructor|intro _
def DK:aN Pg 53 DV:=Dd vn ik pu Dz (ac DJ (ac DI (ac KH (ac DH an)))) ca
def PC x:ms (pO x) (xU x):=by
 unfold pO xU xZ bk bD bQ db dZ eh ck bS bU be c7 aI cQ;with_reducible repeat' first|apply OI.o;constructor|intro _
def Qb:aN Pg 81 QI:=Dd Eo pO xU PC an ca
def FK x:ms (fh x) (rH x):=by
 unfold fh rH r8 bk bD bQ dZ bS bU bX be c7 aI cQ;with_reducible repeat' first|apply OI.o;constructor|intro _
def Ge:aN Pg 54 G_:=Dd xA fh rH FK (ac Qb an) ca
def ww:aN Pg 129 Oz:=mk _ _ an ca
def KC:aN Pg 130 KY:=mk _ _ (ac ww an) ca
def SM x:ms (lw x) (Aj x):=by
 unfold lw Aj vA bk bD bQ dZ bS jK bX be c7 aI cQ;with_reducible repeat' first|apply OI.o;constructor|intro _
def Gl:aN Pg 128 Uh:=Dd G4 lw Aj SM (ac ww an) ca
def P_:aN Pg 131 QF:=mk _ _ (ac Qg an) ca
def uR:aN Pg 83 KZ:=mk _ _ (ac Gl (ac ww (ac KC (ac P_ an)))) ca
def Ie:aN Pg 82 IE:=mk _ _ (ac Gl an) ca
def E_:aN Pg 84 Fg:=mk _ _ an ca
def Ag x:ms (fZ x) (mC x):=by
 unfold fZ mC mJ bk bD bQ cS db dZ iS bm bS jY bU bX be c7 aI cQ;with_reducible repeat' first|apply OI.o;constructor|intro _
def As:aN Pg 85 AJ:=Dd sj fZ mC Ag an ca
def EV x:ms (gK x) (qu x):=by
 unfold gK qu mI bk bD bQ cS db bm bS bX be c7 aI cQ;with_reducible repeat' first|apply OI.o;constructor|intro _
def E9:aN Pg 86 Ff:=Dd wF gK qu EV an ca
def D5:aN Pg 167 QE:=mk _ _ an ca
def aju:aN Pg 162 CP:=mk _ _ an ca
def anx:aN Pg 162 aow:= @aN.sub Pg 162 CP.pre CP.post My Td aju rfl (λx y h=>tB (b:=1) x y h)
def af1:aN Pg 162 zE:=mk _ _ an ca
def ajt:aN Pg 162 akq:= @aN.sub Pg 162 zE.pre zE.post H8 Mx af1 rfl (λx y h=>tB (b:=1) x y h)
def ajq:aN Pg 163 CM:=mk _ _ an ca
def anw:aN Pg 163 aou:= @aN.sub Pg 163 CM.pre CM.post Mv Tc ajq rfl (λx y h=>tB (b:=24) x y h)
def aez:aN Pg 163 zC:=mk _ _ an ca
def ajp:aN Pg 163 ako:= @aN.sub Pg 163 zC.pre zC.post H6 Mu aez rfl (λx y h=>tB (b:=24) x y h)
def af0:aN Pg 88 zD:=mk _ _ an ca
def ajs:aN Pg 88 akp:= @aN.sub Pg 88 zD.pre zD.post H7 BZ af0 rfl (λx y h=>tB (b:=8) x y h)
def PA x:ms (lB x) (xT x):=by
 unfold lB xT tR bk db ck bS bU bX be c7 cQ;with_reducible repeat' first|apply OI.o;constructor|intro _
def Qa:aN Pg 132 QH:=Dd En lB xT PA (ac at5 (ac ajt (ac ajp an))) ca
def Mk x:ms (kD x) (vY x):=by
 unfold kD vY sg bk bD db ck bS jY kq be c7 aI cQ;with_reducible repeat' first|apply OI.o;constructor|intro _
def M4:aN Pg 137 OA:=Dd CC kD vY Mk (ac D5 an) ca
def FO x:ms (h_ x) (rK x):=by
 unfold h_ rK nS bk bD db dZ ck bS kq be c7 aI cQ;with_reducible repeat' first|apply OI.o;constructor|intro _
def Gk:aN Pg 138 He:=Dd xD h_ rK FO (ac D5 an) ca
def M_:aN Pg 220 OK:=mk _ _ an ca
def Qf:aN Pg 199 QM:=mk _ _ (ac M_ an) ca
def Io:aN Pg 203 IP:=mk _ _ an ca
def M8:aN Pg 165 OF:=mk _ _ (ac Io an) ca
def wP x:ms (gh x) (kT x):=by
 unfold gh kT kU ck bS kq c7 aI cQ;with_reducible repeat' first|apply OI.o;constructor|intro _
def wR:aN Pg 193 wV:=Dd pf gh kT wP (ac Qf an) ca
def Dv x:ms (jU x) (pj x):=by
 unfold jU pj pw bk bD bm jY bU aI;with_reducible repeat' first|apply OI.o;constructor|intro _
def DG:aN Pg 164 DQ:=Dd vi jU pj Dv (ac wR an) ca
def aey:aN Pg 133 ag2:=mk _ _ (ac DG (ac M8 an)) ca
def S4 x:ms (mG x) (Ak x):=by
 unfold mG Ak AA bm bS bU kq be c7 aI cQ;with_reducible repeat' first|apply OI.o;constructor|intro _
def TE:aN Pg 134 Up:=Dd G9 mG Ak S4 an ca
def Bc:aN Pg 136 K0:=mk _ _ an ca
def Mp x:ms (oy x) (vZ x):=by
 unfold oy vZ wB bS kq be c7 aI cQ;with_reducible repeat' first|apply OI.o;constructor|intro _
def M':aN Pg 166 OM:=Dd CH oy vZ Mp (ac Bc an) ca
def Ku x:ms (jN x) (uM x):=by
 unfold jN uM uT ck bm bS bU kq be c7 aI cQ;with_reducible repeat' first|apply OI.o;constructor|intro _
def KI:aN Pg 135 K7:=Dd Bs jN uM Ku (ac Bc (ac M' an)) ca
def M7:aN Pg 87 OE:=mk oE ia (ac uR (ac Qa (ac M4 (ac Gk an)))) ca
def tv2 (t:TypeId):M Ty:=if aB t 98 then Z (.pr .un (.pr .un (.pr .un (.pr .un ec)))) else ca t
def M5:aN Pg 132 OC:=mk _ _ (ac ac9 (ac anx (ac anw an))) tv2
def M6:aN Pg 87 OD:=mk _ _ (ac uR (ac M5 (ac aey (ac TE (ac KI an))))) tv2
def Qc:aN Pg 87 QJ:=(aN.orE (pre:=oE.pre) (post:=oE.post) (m:=ia) (m':=lV) rfl M7 M6)
def If:aN Pg 55 IF:=mk _ _ (ac Ie (ac uR (ac E_ (ac As (ac E9 (ac Qc (ac ajs (ac ac9 an)))))))) ca
def Bz x:ms (eU x) (nI x):=by
 unfold eU nI kM eV w9 bS jY ky bU bX be c7 aI cQ;with_reducible repeat' first|apply OI.o;constructor|intro _
def BA:aN Pg 56 BE:=Dd sK eU nI Bz an ca
def tv3 (t:TypeId):M Ty:=if aB t 58 then Z (.pr .bool (.pr (.st (.st (.st (.st .un)))) uD)) else ca t
def FL x:ms (gw x) (rI x):=by
 unfold gw rI nP bk bD bQ cS dZ iS ck bm bS ky bU bX be c7 aI cQ;with_reducible repeat' first|apply OI.o;constructor|intro _
def xo:aN Pg 23 G':=Dd xB gw rI FL (ac DK (ac Ge (ac If (ac2 3932225592 rfl BA an)))) tv3
end
end Go.Proofs.YtcmnmakaoonfgaaGreatDoor.AI
