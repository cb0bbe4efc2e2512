/-
  Texts of the proof, part 5 of 6: what is used to prove the statement. No condition.
-/
import Derived.Test.YtcmnmakaoonfgaaGreatDoorWeakRacesQ3
import Derived.Deep.Slices
import Derived.OpenShut
import Derived.Below
namespace Go.Proofs.YtcmnmakaoonfgaaGreatDoor.AI
open Go.RowKit
set_option maxRecDepth 100000
set_option maxHeartbeats 4000000
set_option linter.unusedVariables false
set_option linter.unusedSimpArgs false
set_option linter.defProp false
open _root_.Bool renaming true→J,false→af,not_false→Pq
open _root_.Int renaming ofNat_eq_natCast→ay,toNat→aN,ofNat→aS,toNat_natCast→be,reduceEq→c7,le_trans→C6
open _root_.List renaming length→l!,length→aj,replicate→aG,length_singleton→cH,take→dE,range→dG,map→gE,cons_append→gJ,length_cons→jX,nil_append→kW,length_nil→pK,ext_getElem?→pZ,drop_eq_getElem_cons→Q4
open _root_.Nat renaming beq→aB,add_zero→dI,blt→eJ,le_of_lt→Ll,le_succ→Sm
open _root_.Option renaming some→Z,none→U,map_some→bx
open _root_.Prod renaming a→bk,b→bB,c→bP,e→cP,d→c_,f→dQ,h→ef,g→eU,k→iF,j→kJ,l→kK,i→lD,n→lE,m→lP,o→mw,ext→sG,p→xa,q→CZ,s→Lj
open Value renaming okWide→Lh
open World renaming cell?→Sl
noncomputable section
def GX:Nat->Xp->Prop
 |0,_=>False
 |d+1,e=>l! e.l<=2/\∀x∈e.l,GX d x
def GE.x:∀{d:Nat} {e:Xp},GE d e->GX d e
 |0,_,h=>h.elim
 |_+1,_,h=>⟨h.2.2.1,λx z=>(h.2.2.2.1 x z).x⟩
def ZE.x {e:Xp} (h:ZE e):GX 4 e:=by
 rcases h with h|rfl
 .exact h.x
 .exact⟨by simp[Xp.l],λx z=>(by cases z)⟩
def GT:Nat->Sx->Prop
 |0,_=>False
 |d+1,s=>l! s.index<=1/\(∀e∈s.index,GX 4 e)/\GX 4 s.expr/\l! s.body<=8/\l! s.els<=8/\(∀x∈s.body,GT d x)/\(∀x∈s.els,GT d x)
def GS.t {nT:Nat}:∀{d:Nat} {s:Sx},GS nT d s->GT d s
 |0,_,h=>h.elim
 |_+1,_,⟨_,b,c,_,f,g,i,j,k,_⟩=>⟨b,λe he=>(c e he).x,f.x,g,i,λx z=>(j x z).t,λx z=>(k x z).t⟩
def AY (s:Sx):oY (Sx.op s,Sx.line s,Sx.name s,Sx.arg s,Sx.index s,eO (Xp.op (Sx.expr s),Xp.n (Sx.expr s),Xp.name (Sx.expr s),Xp.l (Sx.expr s)),Sx.body s,Sx.els s)=s:=by
 rw[gg,BP]
def Yi (k:Int):Ok (nD k) λ_=>True:=by
 unfold nD bm jZ aI;with_reducible repeat' first|apply OS.ok;constructor|refine IM.mk λ_=>?_
 all_goals trivial
def sD (e:Xp):Ok (qM e) λ_=>True:=by
 unfold qM bm aI;with_reducible repeat' first|apply OS.ok;constructor|refine IM.mk λ_=>?_
 all_goals trivial
def Ck:∀(n d:Nat) (e:Xp),d<n->GX d e->Ok (iB n e) λ_=>True
 |0,_,_,h,_=>by omega
 |n+1,0,_,_,h=>h.elim
 |n+1,d+1,e,hn,h=>by
  let⟨h1,N⟩:=h;refine aV (λx=>x.2=e) (aK (λ_=>ak (gg e)) λ_=>ak (gg e)) ?_;rintro⟨b,x⟩ L;dsimp only at L;subst L;refine aV (λy=>y.2=x) ?_ ?_
  .refine aw (Yi _) λ_ _=>?_
   with_reducible repeat' first|refine cj (λ_=>?_) λ_=>?_|refine bQ (λ_=>?_) λ_=>?_|refine dK (λ_=>?_) λ_=>?_|refine aQ (λ_=>?_) λ_=>?_|exact ak (gg x)|refine aw (iU _) λ_ _=>?_
  rintro⟨b2,y⟩ D;dsimp only at D;subst D;refine aQ (λ_=>ak trivial) λ_=>?_
  refine bR (l! y.l) (λi x=>x.1=(i:Int)/\x.2=y) ?_ ?_ ⟨rfl,gg y⟩
  .rintro i ⟨a,z⟩ hi ⟨A,e2⟩;dsimp only at A e2;subst A e2;refine cU ?_;refine bF (aT ?_);refine aw (Ck n d _ (by omega) (N _ (bK (T:=.ex) (xs:=z.l) (j:=(i:Int)) (by omega) (by omega)))) λ_ _=>?_
   refine dK (λ_=>ak trivial) λ_=>ak ?_
   exact⟨fL,gg z⟩
  .rintro⟨a,z⟩ ⟨A,e2⟩;dsimp only at A e2;subst e2;exact cO (ak trivial)
def gD (e:Xp) (h:GX 4 e):Ok (jO e) λ_=>True:=Ck fuel 4 e (by rw[kR];omega) h
abbrev W?:=Int×Int×ζ×Int×Int×ζ
def PA (d:W?):Ok (mZ d) λ_=>True:=by
 refine aV (λ_=>True) ?_ λx _=>aQ (λ_=>ak trivial) λ_=>?_
 .with_reducible repeat' first|refine cj (λ_=>?_) λ_=>?_|refine bQ (λ_=>?_) λ_=>?_|refine dK (λ_=>?_) λ_=>?_|exact ak trivial|refine aw (iU _) λ_ _=>?_
 refine aV (λ_=>True) ?_ λx _=>aQ (λ_=>ak trivial) λ_=>?_
 .with_reducible repeat' first|refine cj (λ_=>?_) λ_=>?_|refine aK (λ_=>?_) λ_=>?_|refine dK (λ_=>?_) λ_=>?_|exact ak trivial|refine aw (iU _) λ_ _=>?_
 with_reducible repeat' first|apply OS.ok;constructor|refine IM.mk λ_=>?_
 all_goals trivial
def KJ (z:Sx->M Bool) (A:Y Sx->M Bool) (l:Y Sx) (D:l! l<=1000) (h:∀s∈l,Ok (z s) λ_=>True):Ok (mb z A l) λ_=>True:=by
 refine bR (l! l) (λi x=>x=(i:Int)) ?_ ?_ rfl
 .rintro i x hi rfl;refine cU ?_;refine bF ?_;refine aw (h _ (bK (T:=.sm) (xs:=l) (j:=(i:Int)) (by omega) (by omega))) λ_ _=>?_
  exact dK (λ_=>ak trivial) λ_=>ak fL
 .rintro x rfl;exact cO (ak trivial)
def Nn (D:Sx->M Bool) (A:Y Sx->M Bool) (s:Sx) (h1:∀e∈s.index,GX 4 e) (N:GX 4 s.expr) (L:Ok (A s.body) λ_=>True) (he:Ok (A s.els) λ_=>True):Ok (lh D A s) λ_=>True:=by
 unfold lh bm bV jZ jY bW aI eT;refine aV (λx=>x.2=s) ?_ ?_
 .with_reducible repeat' first|refine cj (λ_=>?_) λ_=>?_|refine aK (λ_=>?_) λ_=>?_|refine bQ (λ_=>?_) λ_=>?_|refine eh (λ_=>?_) λ_=>?_|refine dK (λ_=>?_) λ_=>?_|refine aQ (λ_=>?_) λ_=>?_|exact ak (AY _)|refine aw (iU _) λ_ _=>?_|refine aw (sD _) λ_ _=>?_|refine aw (gD _ h2x) λ_ _=>?_
 rintro⟨b,x⟩ z;have z:=z.symm;subst z;refine aQ (λ_=>ak trivial) λ_=>?_
 refine aV (λx=>x.2=s) ?_ ?_
 .with_reducible repeat' first|refine cj (λ_=>?_) λ_=>?_|refine aK (λ_=>?_) λ_=>?_|refine bQ (λ_=>?_) λ_=>?_|refine eh (λ_=>?_) λ_=>?_|refine dK (λ_=>?_) λ_=>?_|refine aQ (λ_=>?_) λ_=>?_|exact ak (AY _)|refine aw (iU _) λ_ _=>?_|refine aw (sD _) λ_ _=>?_|refine aw (gD _ h2x) λ_ _=>?_
 rintro⟨b,x⟩ z;have z:=z.symm;subst z;refine aV (λx=>x.2=s) ?_ ?_
 .with_reducible repeat' first|refine cj (λ_=>?_) λ_=>?_|refine aK (λ_=>?_) λ_=>?_|refine bQ (λ_=>?_) λ_=>?_|refine eh (λ_=>?_) λ_=>?_|refine dK (λ_=>?_) λ_=>?_|refine aQ (λ_=>?_) λ_=>?_|exact ak (AY _)|refine aw (iU _) λ_ _=>?_|refine aw (sD _) λ_ _=>?_|refine aw (gD _ h2x) λ_ _=>?_
 rintro⟨b,x⟩ z;have z:=z.symm;subst z;refine aQ (λ_=>ak trivial) λ_=>?_
 refine aV (λx=>x.2=s) ?_ ?_
 .with_reducible repeat' first|refine cj (λ_=>?_) λ_=>?_|refine aK (λ_=>?_) λ_=>?_|refine bQ (λ_=>?_) λ_=>?_|refine eh (λ_=>?_) λ_=>?_|refine dK (λ_=>?_) λ_=>?_|refine aQ (λ_=>?_) λ_=>?_|exact ak (AY _)|refine aw (iU _) λ_ _=>?_|refine aw (sD _) λ_ _=>?_|refine aw (gD _ h2x) λ_ _=>?_
 rintro⟨b,x⟩ z;have z:=z.symm;subst z;refine aQ (λ_=>ak trivial) λ_=>?_
 refine aV (λx=>x.2=s) ?_ ?_
 .with_reducible repeat' first|refine cj (λ_=>?_) λ_=>?_|refine aK (λ_=>?_) λ_=>?_|refine bQ (λ_=>?_) λ_=>?_|refine eh (λ_=>?_) λ_=>?_|refine dK (λ_=>?_) λ_=>?_|refine aQ (λ_=>?_) λ_=>?_|exact ak (AY _)|refine aw (iU _) λ_ _=>?_|refine aw (sD _) λ_ _=>?_|refine aw (gD _ h2x) λ_ _=>?_
  all_goals
   rename_i g;dsimp [ay]at g;refine bF (aT ?_);refine aw (gD _ (h1 _ (bK (T:=.ex) (xs:=Sx.index _) (j:=0) (by omega) (by omega)))) λ_ _=>ak (AY _)
 rintro⟨b,x⟩ z;have z:=z.symm;subst z;refine aQ (λ_=>ak trivial) λ_=>?_
 refine aV (λx=>x.2=s) ?_ ?_
 .with_reducible repeat' first|refine cj (λ_=>?_) λ_=>?_|refine aK (λ_=>?_) λ_=>?_|refine bQ (λ_=>?_) λ_=>?_|refine eh (λ_=>?_) λ_=>?_|refine dK (λ_=>?_) λ_=>?_|refine aQ (λ_=>?_) λ_=>?_|exact ak (AY _)|refine aw (iU _) λ_ _=>?_|refine aw (sD _) λ_ _=>?_|refine aw (gD _ h2x) λ_ _=>?_
 rintro⟨b,x⟩ z;have z:=z.symm;subst z;refine aV (λx=>x.2=s) ?_ ?_
 .have h2x:GX 4 (eO (Xp.op (Sx.expr s),Xp.n (Sx.expr s),Xp.name (Sx.expr s),Xp.l (Sx.expr s))):=by exact N
  with_reducible repeat' first|refine cj (λ_=>?_) λ_=>?_|refine aK (λ_=>?_) λ_=>?_|refine bQ (λ_=>?_) λ_=>?_|refine eh (λ_=>?_) λ_=>?_|refine dK (λ_=>?_) λ_=>?_|refine aQ (λ_=>?_) λ_=>?_|exact ak (AY _)|refine aw (iU _) λ_ _=>?_|refine aw (sD _) λ_ _=>?_|refine aw (gD _ h2x) λ_ _=>?_
 rintro⟨b,x⟩ z;have z:=z.symm;subst z;refine aQ (λ_=>ak trivial) λ_=>?_
 refine aV (λx=>x.2=s) ?_ ?_
 .with_reducible repeat' first|refine cj (λ_=>?_) λ_=>?_|refine aK (λ_=>?_) λ_=>?_|refine bQ (λ_=>?_) λ_=>?_|refine eh (λ_=>?_) λ_=>?_|refine dK (λ_=>?_) λ_=>?_|refine aQ (λ_=>?_) λ_=>?_|exact ak (AY _)|refine aw (iU _) λ_ _=>?_|refine aw (sD _) λ_ _=>?_|refine aw (gD _ h2x) λ_ _=>?_
 rintro⟨b,x⟩ z;have z:=z.symm;subst z;refine aV (λx=>x.2=s) ?_ ?_
 .with_reducible repeat' first|refine cj (λ_=>?_) λ_=>?_|refine aK (λ_=>?_) λ_=>?_|refine bQ (λ_=>?_) λ_=>?_|refine eh (λ_=>?_) λ_=>?_|refine dK (λ_=>?_) λ_=>?_|refine aQ (λ_=>?_) λ_=>?_|exact ak (AY _)|refine aw (iU _) λ_ _=>?_|refine aw (sD _) λ_ _=>?_|refine aw (gD _ h2x) λ_ _=>?_
 rintro⟨b,x⟩ z;dsimp only at z;subst z;refine aQ (λ_=>ak trivial) λ_=>?_
 refine aV (λ_=>True) ?_ λ_ _=>ak trivial
 refine aw L λ_ _=>aQ (λ_=>aw he λ_ _=>ak trivial) λ_=>ak trivial
def Nx:∀(n:Nat),(∀(d:Nat) (s:Sx),2*d<n->GT d s->Ok (fe n s) λ_=>True)/\(∀(d:Nat) (l:Y Sx),2*d+1<n->l! l<=1000->(∀s∈l,GT d s)->Ok (dW n l) λ_=>True)
 |0=>⟨λd _ h=>by omega,λd _ h=>by omega⟩
 |n+1=>by
  let⟨L,z⟩:=Nx n;refine ⟨λd s hd h=>?_,λd l hd D h=>?_⟩
  .cases d with
   |zero=>exact h.elim
   |succ d=>
    let⟨_,g2,g3,g4,g5,g6,N⟩:=h;exact Nn (fe n) (dW n) s g2 g3 (z d _ (by omega) (by omega) g6) (z d _ (by omega) (by omega) N)
  .exact KJ (fe n) (dW n) l D λs A=>L d s (by omega) (h s A)
def O9 (d:Nat) (hd:d<=100) (l:Y Sx) (z:l! l<=1000) (h:∀s∈l,GT d s):Ok (oV l) λ_=>True:=(Nx fuel).2 d l (by rw[kR];omega) z h
abbrev DT:Type:=W?
abbrev HT:Type:=ζ×Int×Y ζ×Y Sx
abbrev PG:Type:=Y DT×Y HT
structure PX (p:PG):Prop where
 d:l! p.1<=100
 t:l! p.2<=8
 l:∀t∈p.2,l! t.2.2.1<=100
 b:∀t∈p.2,l! t.2.2.2<=100
 s:∀t∈p.2,∀s∈t.2.2.2,GT 5 s
def ag6 (p:PG) (h:PX p):Ok (rc p) λ_=>True:=by
 let⟨hd,ht,hl,hb,hs⟩:=h;unfold rc bk bP ef bV bW bc c8 aI cS;refine bR (l! p.1) (λi x=>x.1=(i:Int)/\x.2=p) ?_ ?_ ⟨rfl,rfl⟩
 .rintro i ⟨a,x⟩ hi ⟨A,e2⟩;dsimp only at A e2;subst A e2;refine cU ?_;refine bF (aT ?_);refine aw (PA _) λ_ _=>?_
  exact dK (λ_=>ak trivial) λ_=>ak ⟨fL,rfl⟩
 rintro⟨a,x⟩ ⟨A,e2⟩;dsimp only at A e2;subst e2;refine cO ?_;refine aw (P:=λ_=>True) ?_ λ_ _=>ak trivial
 refine bR (l! x.2) (λi y=>y.1=(i:Int)/\y.2=x) ?_ ?_ ⟨rfl,rfl⟩
 .rintro i ⟨a,x⟩ hi ⟨A,e2⟩;subst A;have e2:=e2.symm;subst e2;refine cU ?_;refine bF (aT ?_);have hm:=bK (T:=uY) (xs:=x.2) (j:=(i:Int)) (by omega) (by omega);have h1:=hl _ hm;have h2:=hb _ hm;have D:=hs _ hm;revert h1 h2 D;generalize (geti uY x.2 (i:Int))=t;intro h1 h2 D;refine bR (l! t.2.2.1) (λk y=>y.1=(k:Int)/\y.2=(x,t)) ?_ ?_ ⟨rfl,rfl⟩
  .rintro k ⟨a,z⟩ hk ⟨N,L⟩;subst N L;refine cU ?_;refine bF (aT ?_);refine aw (iU _) λ_ _=>?_
   exact dK (λ_=>ak trivial) λ_=>ak ⟨fL,rfl⟩
  .rintro⟨a,z⟩ ⟨N,L⟩;subst N L;refine cO ?_;refine aw (P:=λr=>match r with|.inl y=>y.1=((i+1:Nat):Int)/\y.2=x|.inr _=>True) ?_ ?_
   .refine aV (λy=>y.2=x) ?_ ?_
    .refine aw (iU _) λ_ _=>dK (λ_=>ak rfl) λ_=>?_
     exact aw (O9 5 (by omega) _ (by grind) D) λ_ _=>ak rfl
    rintro⟨b,y⟩ e;subst e;exact aQ (λ_=>ak trivial) λ_=>ak ⟨fL,rfl⟩
   .rintro (y|y) hy
    .exact ak hy
    .exact ak trivial
 .rintro⟨a,y⟩ ⟨A,e2⟩;dsimp only at A e2;subst e2;exact cO (ak trivial)
def zR (l:Y DT) (s:ζ) (z:l! l<=1000):Ok (je (l,s)) λr=> -1<=r/\r<(l! l:Int):=by
 refine bR (l! l) (λi x=>x=(i:Int)) ?_ ?_ rfl
 .rintro i x hi rfl;refine cU ?_;refine bF (aT ?_);exact aK (λ_=>ak ⟨by omega,by omega⟩) λ_=>ak fL
 .rintro x rfl;exact cO (ak ⟨by omega,by omega⟩)
def uA (l:Y HT) (s:ζ) (z:l! l<=1000):Ok (iW (l,s)) λr=> -1<=r/\r<(l! l:Int):=by
 refine bR (l! l) (λi x=>x=(i:Int)) ?_ ?_ rfl
 .rintro i x hi rfl;refine cU ?_;refine bF (aT ?_);exact aK (λ_=>ak ⟨by omega,by omega⟩) λ_=>ak fL
 .rintro x rfl;exact cO (ak ⟨by omega,by omega⟩)
def DD (p:PG) (s:ζ):Prop:=∃v,je (p.1,s)=Z v/\0<=v/\v<(l! p.1:Int)
def agl (p:PG) (h:PX p) (t:Int) (s:ζ):Ok (uq (p,t,s)) λk=>k≠0->k≠7->k≠8->DD p s:=by
 have hd:=h.d;have ht:=h.t;refine aV (λx=>x.2=p) ?_ ?_
 .refine eh (λN=>bQ (λL=>?_) λ_=>ak rfl) λ_=>ak rfl
  refine aR N L (aT ?_);have hm:=h.l _ (bK (T:=uY) (xs:=p.2) (j:=t) N L);exact aw (Bt _ s (dc hm (by omega))) λ_ _=>ak rfl
 rintro⟨b,x⟩ e;have e:=e.symm;subst e;refine aQ (λ_=>ak λ_ _ h=>(h rfl).elim) λ_=>?_
 let⟨v,D,v0,A⟩:=zR p.1 s (by omega);refine aX D ?_;refine bQ (λ_=>?_) λg=>?_
 .exact aw (uA p.2 s (by omega)) λ_ _=>eh (λ_=>ak λ_ h=>(h rfl).elim) λ_=>ak λh=>(h rfl).elim
 have z:DD p s:=⟨v,D,g,A⟩
 refine aR g A (aT ?_);refine aK (λ_=>?_) λ_=>?_
 .exact aR g A (aT (cj (λ_=>ak λ_ _ _=>z) λ_=>ak λ_ _ _=>z))
 refine aK (λ_=>ak λ_ _ _=>z) λ_=>?_
 refine aV (λx=>x.2=p) (aK (λ_=>ak rfl) λ_=>aK (λ_=>ak rfl) λ_=>aK (λ_=>ak rfl) λ_=>ak rfl) ?_;rintro⟨b,x⟩ e;dsimp only at e;subst e;exact aQ (λ_=>aR g A (aT (ak λ_ _ _=>z))) λ_=>ak λ_ _ _=>z
def qe (p:PG) (h:PX p) (t:Int) (s:ζ) (a b:Int):Ok (ii (p,t,s,a,b)) λr=>r=0->(a≠7/\a≠8)->(b≠7/\b≠8)->DD p s:=by
 refine aw (agl p h t s) λk z=>?_
 refine aK (λ_=>ak nofun) λg=>?_
 refine aV (λx=>x=af->k=a\/k=b) ?_ ?_
 .refine cj (λ_=>ak λh=>?_) λh=>ak λ_=>.inl h
  simp at h;exact .inr h
 rintro x A;refine aQ (λ_=>ak nofun) λh=>ak λ_ h1 D=>z g ?_ ?_
 .grind
 .grind
def RJ:∀(n d:Nat) (e:Xp),d<n->GX d e->Ok (oD n e) λ_=>True
 |0,_,_,h,_=>by omega
 |n+1,0,_,_,h=>h.elim
 |n+1,d+1,e,L,h=>by
  let⟨h1,D⟩:=h;refine bR (l! e.l) (λi x=>x.1.2.2=(i:Int)/\x.2=e) ?_ ?_ ⟨rfl,gg e⟩
  .rintro i ⟨⟨a,b,c⟩,z⟩ hi ⟨A,e2⟩;dsimp only at A e2;subst A e2;refine cU ?_;refine bF (aT ?_);refine aw (RJ n d _ (by omega) (D _ (bK (T:=.ex) (xs:=z.l) (j:=(i:Int)) (by omega) (by omega)))) λ_ _=>ak ?_
   exact⟨fL,gg z⟩
  .rintro⟨⟨a,b,c⟩,z⟩ ⟨A,e2⟩;dsimp only at A e2;subst e2;exact cO (ak trivial)
def Jv (p:PG) (hp:PX p) (t:Int):∀(n d:Nat) (e:Xp),d<n->GX d e->Ok (oC n (p,t,e)) λ_=>True
 |0,_,_,h,_=>by omega
 |n+1,0,_,_,h=>h.elim
 |n+1,d+1,e,hn,h=>by
  let⟨h1,N⟩:=h;rw[Bf];unfold wA bm bV bW c8 aI cS;refine aV (λx=>x.2.1=p/\x.2.2=e) ?_ ?_
  .refine aK (λ_=>aw (qe p hp t _ _ _) λ_ _=>ak ⟨rfl,gg e⟩) λ_=>aK (λ_=>aw (qe p hp t _ _ _) λ_ _=>ak ⟨rfl,gg e⟩) λ_=>ak ⟨rfl,gg e⟩
  rintro⟨r,D,e'⟩ ⟨A,z⟩;have A:=A.symm;subst A;have z:=z.symm;subst z;refine qi (λx=>((l! e.l:Int)-x.1.2).toNat) (λx=>0<=x.1.2/\x.2.1=p/\x.2.2=e) ?_ ⟨dg _,rfl,gg e⟩;rintro⟨⟨a,(b:Int)⟩,D,e'⟩ ⟨b0,A,z⟩;dsimp only at b0 A z;have A:=A.symm;subst A;have z:=z.symm;subst z;refine aV (λx=>x.2.1=p/\x.2.2=e/\(x.1=J->b<(l! e.l:Int))) ?_ ?_
  .exact bQ (λg=>ak ⟨rfl,gg e,λ_=>g⟩) λ_=>ak ⟨rfl,gg e,nofun⟩
  rintro⟨c,D,e'⟩ ⟨A,z,f3⟩;have A:=A.symm;subst A;have z:=z.symm;subst z;refine aQ (λL=>?_) λ_=>ak trivial
  have g:=f3 L;refine aR b0 g (aT ?_);refine aw (Jv p hp t n d _ (by omega) (N _ (bK (T:=.ex) (xs:=e.l) (j:=b) b0 g))) λ_ _=>ak ?_
  dsimp only;rw[iI (n:=b+1) (by omega) (by omega)];exact⟨⟨by omega,rfl,gg e⟩,by omega⟩
def zQ (p:PG) (hp:PX p) (t:Int) (e:Xp) (h:GX 4 e):Ok (oU (p,t,e)) λ_=>True:=by
 have z:GX 4 (eO (Xp.op e,Xp.n e,Xp.name e,Xp.l e)):=by exact h
 refine aw (gD _ z) λ_ _=>dK (λ_=>ak trivial) λ_=>?_
 refine aw (RJ fuel 4 _ (by rw[kR];omega) z) λ_ _=>?_
 refine aV (λx=>x.2.1=p/\x.2.2=e) (bQ (λ_=>ak ⟨rfl,gg e⟩) λ_=>ak ⟨rfl,gg e⟩) ?_;rintro⟨r,L,e'⟩ ⟨A,D⟩;have A:=A.symm;subst A D;exact aQ (λ_=>ak trivial) λ_=>aw (Jv p hp t fuel 4 _ (by rw[kR];omega) z) λ_ _=>ak trivial
def fS (b:Bool):Ok (dt b) λ_=>True:=by
 unfold dt;exact aQ (λ_=>ak trivial) λ_=>ak trivial
def vU (x:ν):Ok (jJ x) λr=>r=0->x.1=0/\x.2=0:=by
 unfold jJ jY;exact cj (λh=>ak λz=>(h z).elim) λh=>ak λz=>⟨h,z⟩
abbrev WK:Type:=(Y DT×Y HT×Int)×(Bool×Y Sx)×Y ζ×Y ζ
def aep (a b:Int) (s:ζ) (w:WK) (h:l! w.2.1.2<=100):Ok (eE ((a,b,s),w)) λy=>y.2=w:=by
 unfold eE bk bm bV kf bc c8 aI cS;refine bR (l! w.2.1.2) (λi x=>x.1=(i:Int)/\x.2=w) ?_ ?_ ⟨rfl,rfl⟩
 .rintro i ⟨c,x⟩ hi ⟨z,e2⟩;subst z;have e2:=e2.symm;subst e2;refine cU ?_;refine bF (bF (aT ?_));refine aV (λx=>x.2=w) ?_ ?_
  .refine aK (λ_=>aK (λ_=>ak rfl) λ_=>ak rfl) λ_=>aK (λ_=>aK (λ_=>ak rfl) λ_=>ak rfl) λ_=>ak rfl
  rintro⟨c,x⟩ e;dsimp only at e;subst e;exact aQ (λ_=>ak rfl) λ_=>ak ⟨fL,rfl⟩
 .rintro⟨c,x⟩ ⟨z,e2⟩;subst z;have e2:=e2.symm;subst e2;exact cO (ak rfl)
def UO:Nat->Sx->Nat
 |0,_=>0
 |d+1,s=>1+(s.body.map (UO d)).sum+(s.els.map (UO d)).sum
def oJ (d:Nat) (l:Y Sx):Nat:=(l.map (UO d)).sum
def KS:Nat->Nat
 |0=>0
 |d+1=>1+16*KS d
variable {R:Type} {i:Nat}
def Su {f:R->Nat} :∀{l:Y R},(∀x∈l,f x<=i)->(l.map f).sum<=l! l*i
 |[],_=>by simp
 |x::r,h=>by
  have:=Su (l:=r) λy z=>h y (cg _ z)
  have:=h x (dk ..);rw[ch,List.sum_cons,jX,jF];omega
def aa3:∀{d:Nat} {s:Sx},GT d s->UO d s<=KS d
 |0,_,h=>h.elim
 |d+1,s,⟨_,_,_,N,L,D,A⟩=>by
  have a:=Su (f:=UO d) (l:=s.body) λx z=>aa3 (D x z)
  have b:=Su (f:=UO d) (l:=s.els) λx z=>aa3 (A x z)
  have c:=cK (KS d) N;have e:=cK (KS d) L;show 1+_+_<=1+16*KS d;omega
def Un:∀{d:Nat} {s:Sx},GT d s->UO (d+1) s=UO d s
 |0,_,h=>h.elim
 |d+1,s,⟨_,_,_,_,_,D,A⟩=>by
  show 1+(s.body.map (UO (d+1))).sum+(s.els.map (UO (d+1))).sum=1+(s.body.map (UO d)).sum+(s.els.map (UO d)).sum;rw[kS λx z=>Un (D x z),kS λx z=>Un (A x z)]
def akh {l:Y Sx} (h:∀s∈l,GT i s):oJ i l<=l! l*KS i:=Su λx z=>aa3 (h x z)
variable {j:Nat}
def zB {l:Y Sx} (hi:i<l! l):oJ j (l.take (i+1))=oJ j (l.take i)+UO j (geti (.sm) l (i:Int)):=by
 unfold oJ;rw[pL (T:=.sm) hi,cr,I6];simp
def Uo {d:Nat} (l:Y Sx) (i:Nat):oJ d (l.take i)<=oJ d l:=by
 conv=>rhs;rw[<- EG i l]
 unfold oJ;rw[cr,I6];omega
def Iu:∀(n d:Nat) (l:Y Sx),d<n->l! l<=1000->(∀s∈l,GT d s)->KS d<=100000->oE n l=Z ((oJ d l:Nat):Int)
 |0,_,_,h,_,_,_=>by omega
 |n+1,d,l,hn,A,h,L=>by
  refine cI ?_;have hb:=akh h;have D:=Nat.mul_le_mul A L;refine bR (l! l) (λi x=>x.2=(i:Int)/\x.1=(l! l:Int)-i+(oJ d (l.take i):Nat)) ?_ ?_ ⟨rfl,by simp[oJ]⟩
  .rintro i ⟨a,b⟩ hi ⟨z,e2⟩;subst z e2;have hp:=Uo (d:=d) l (i+1);rw[zB hi]at hp;refine cU ?_;refine bF (aT ?_);rw[zB hi];have hm:=h _ (bK (T:=.sm) (xs:=l) (j:=(i:Int)) (by omega) (by omega));revert hm hp;generalize (geti (.sm) l (i:Int))=s;intro hp hm;cases d with
   |zero=>exact hm.elim
   |succ d=>
    let⟨_,_,_,g4,g5,g6,N⟩:=hm;have hk:KS (d+1)=1+16*KS d:=rfl;have hc:UO (d+1) s=1+oJ d s.body+oJ d s.els:=rfl;refine aX (Iu n d _ (by omega) (by omega) g6 (by omega)) ?_;refine bF (aT ?_);refine aX (Iu n d _ (by omega) (by omega) N (by omega)) (ak ⟨fL,?_⟩);rw[iI (n:=(l! l:Int)-i+(oJ (d+1) (l.take i):Nat)+(oJ d s.body:Nat)) (by omega) (by omega),iI];omega
  .rintro⟨a,b⟩ ⟨z,e2⟩;subst z e2;exact cO (ak (by simp))
def ZJ (l:Y DT) (L:l! l<=100):Ok (s9 l) λ_=>True:=by
 unfold s9 bk bB bP c_ dQ iF bm bV jZ jY bT bW bc c8 aI cS;refine bR (l! l) (λi x=>x.2.2.2.2=(i:Int)) ?_ ?_ rfl
 .rintro i ⟨a,b,c,d,e⟩ hi z;subst z;refine cU ?_;refine aV (λ_=>True) ?_ λx _=>ak fL
  refine bF (aT ?_);have htk:l! (dE (aN (i:Int)) l)<=100:=by grind
  refine cE (dh (by simp) (dh (by grind) ?_));refine aw (zR _ _ (dc htk (by omega))) λv A=>?_
  refine eh (λ_=>ak trivial) λ_=>bQ (λ_=>ak trivial) λ_=>?_
  refine aV (λ_=>True) ?_ λx _=>?_
  .refine aV (λ_=>True) (aK (λ_=>ak trivial) λ_=>ak trivial) λx _=>aQ (λ_=>ak trivial) λ_=>?_
   refine aV (λ_=>True) (aK (λ_=>ak trivial) λ_=>ak trivial) λx _=>aQ (λ_=>ak trivial) λ_=>?_
   exact aK (λ_=>ak trivial) λ_=>ak trivial
  refine aV (λ_=>True) (bQ (λ_=>ak trivial) λ_=>bQ (λ_=>ak trivial) λ_=>bQ (λ_=>ak trivial) λ_=>ak trivial) λx _=>aQ (λ_=>ak trivial) λ_=>?_
  refine aK (λ_=>?_) λ_=>ak trivial
  refine cE (dh (by simp) (dh (by grind) ?_));refine aw (zR _ _ (dc htk (by omega))) λv A=>?_
  refine bQ (λ_=>ak trivial) λg=>?_
  have D:=A.2;rw[cL]at D;exact aR g (by omega) (aT (cj (λ_=>ak trivial) λ_=>ak trivial))
 .rintro⟨a,b,c,d,e⟩ z;subst z;exact cO (ak trivial)
def Ss (p:PG) (h:PX p):Ok (oT p) λ_=>True:=by
 have hd:=h.d;have ht:=h.t;unfold oT bk bB bP bV jZ bT bW bc c8 aI cS;refine bR (l! p.2) (λi x=>x.1=(i:Int)/\x.2=p) ?_ ?_ ⟨rfl,rfl⟩
 .rintro i ⟨a,x⟩ hi ⟨A,e2⟩;subst A;have e2:=e2.symm;subst e2;refine cU ?_;refine bF (aT ?_);refine aV (λx=>x.2.1=p) ?_ ?_
  .refine aw (zR _ _ (by grind)) λv N=>eh (λ_=>ak rfl) λ_=>?_
   refine cE (dh (by simp) (dh (by grind) ?_));exact aw (uA _ _ (by grind)) λ_ _=>ak rfl
  rintro⟨b,x,z⟩ e;dsimp only at e;subst e;exact aQ (λ_=>ak trivial) λ_=>ak ⟨fL,rfl⟩
 rintro⟨a,x⟩ ⟨A,e2⟩;subst A;have e2:=e2.symm;subst e2;refine cO ?_;refine aw (P:=λ_=>True) ?_ λ_ _=>ak trivial
 refine bR (l! p.2) (λi x=>x.1=(i:Int)/\x.2=p) ?_ ?_ ⟨rfl,rfl⟩
 .rintro i ⟨a,x⟩ hi ⟨A,e2⟩;subst A;have e2:=e2.symm;subst e2;refine cU ?_;refine bF (aT ?_);have hm:=h.l _ (bK (T:=uY) (xs:=p.2) (j:=(i:Int)) (by omega) (by omega));revert hm;generalize (geti uY p.2 (i:Int))=t;intro hm;refine bQ (λ_=>ak trivial) λ_=>?_
  refine bR (l! t.2.2.1) (λk y=>y.1=(k:Int)/\y.2=(p,t)) ?_ ?_ ⟨rfl,rfl⟩
  .rintro k ⟨a,z⟩ hk ⟨L,D⟩;subst L D;refine cU ?_;refine bF (aT ?_);refine aV (λx=>x.2=(p,t)) ?_ ?_
   .refine aw (zR _ _ (by grind)) λv N=>eh (λ_=>ak rfl) λ_=>?_
    refine aw (uA _ _ (by grind)) λv N=>eh (λ_=>ak rfl) λ_=>?_
    refine cE (dh (by simp) (dh (by grind) ?_));exact aw (Bt _ _ (by grind)) λ_ _=>ak rfl
   rintro⟨b,x⟩ e;subst e;exact aQ (λ_=>ak trivial) λ_=>ak ⟨fL,rfl⟩
  .rintro⟨a,z⟩ ⟨L,D⟩;subst L D;exact cO (ak ⟨fL,rfl⟩)
 .rintro⟨a,x⟩ ⟨A,e2⟩;subst A;have e2:=e2.symm;subst e2;exact cO (ak trivial)
structure WQ (w:WK) (y:Int×WK):Prop where
 p:y.2.1=w.1
 a:y.2.2.1=w.2.1
 s:l! y.2.2.2.1<=l! w.2.2.1+1
 t:l! y.2.2.2.2<=l! w.2.2.2+1
def WQ.same (w:WK) (e:Int):WQ w (e,w):=⟨rfl,rfl,Sm _,Sm _⟩
def asp (s:Sx) (D:Y DT) (T:Y HT) (t:Int) (A:Bool×Y Sx) (sp se:Y ζ) (hp:PX (D,T)) (hA:l! A.2<=100) (h1:l! sp<=100000000) (h2:l! se<=100000000) (L:∀e∈s.index,GX 4 e) (he:GX 4 s.expr):Ok (nC (s,((D,T,t),A,sp,se))) (WQ ((D,T,t),A,sp,se)):=by
 have hex:GX 4 (eO (Xp.op s.expr,Xp.n s.expr,Xp.name s.expr,Xp.l s.expr)):=by rw[gg];exact he
 have hin:∀(a b:Int) (n:ζ),Ok (eE ((a,b,n),((D,T,t),A,sp,se))) λy=>y.2=((D,T,t),A,sp,se):=λa b n=>aep a b n _ hA
 have hth:l! T<=1000:=by have:=hp.t;dsimp only at this;omega
 have hdl:l! D<=1000:=by have:=hp.d;dsimp only at this;omega
 have sm:∀e,WQ ((D,T,t),A,sp,se) (e,((D,T,t),A,sp,se)):=WQ.same _;unfold nC bk bB bP cP c_ dQ ef iF bm jZ jY bT bW aI eT;refine aw (hin _ _ _) λy z=>?_
 let⟨b1,N⟩:=y;dsimp only at z;subst z;refine bl (by simp) ?_;refine aw (hin _ _ _) λy z=>?_
 let⟨b2,N⟩:=y;dsimp only at z;subst z;refine bl (by simp) ?_;refine aw (hin _ _ _) λy z=>?_
 let⟨b3,N⟩:=y;dsimp only at z;subst z;refine bl (by simp) ?_;refine aK (λ_=>?_) λ_=>?_
 .refine aK (λ_=>?_) λg=>?_
  .exact aw (qe _ hp _ _ _ _) λ_ _=>aw (zQ _ hp _ _ hex) λ_ _=>aw (vU _) λ_ _=>ak (sm _)
  .refine aw (qe _ hp _ _ _ _) λ_ _=>?_
   dsimp only[ay]at g;refine bF (aT ?_);refine aw (zQ _ hp _ _ (L _ (bK (T:=.ex) (xs:=s.index) (j:=0) (by omega) (by omega)))) λ_ _=>?_
   exact aw (zQ _ hp _ _ hex) λ_ _=>aw (vU _) λ_ _=>aw (vU _) λ_ _=>ak (sm _)
 refine aV (λx=>x.2=((D,T,t),A,s,(D,T),sp,se)) (aK (λ_=>ak (by dsimp only;rw[AY])) λ_=>ak (by dsimp only;rw[AY])) ?_;rintro⟨b,x⟩ e;dsimp only at e;subst e;refine aQ (λ_=>aw (zQ _ hp _ _ hex) λ_ _=>ak (sm _)) λ_=>?_
 refine aK (λ_=>?_) λ_=>?_
 .refine aV (λx=>WQ ((D,T,t),A,sp,se) x) ?_ λx L=>ak L
  refine aw (qe _ hp _ _ _ _) λ_ _=>aQ (λ_=>?_) λ_=>?_
  .exact aw (fS _) λ_ _=>aw (vU _) λ_ _=>ak (sm _)
  .refine aw (hin _ _ _) λy z=>?_
   let⟨b4,N⟩:=y;dsimp only at z;subst z;exact bl (by simp) (aw (fS _) λ_ _=>aw (vU _) λ_ _=>ak (sm _))
 refine aV (λx=>x.2=((D,T,t),A,s,(D,T),sp,se)) (aK (λ_=>ak (by dsimp only;rw[AY])) λ_=>ak (by dsimp only;rw[AY])) ?_;rintro⟨b,x⟩ e;dsimp only at e;subst e;refine aQ (λ_=>?_) λ_=>?_
 .refine aV (λx=>WQ ((D,T,t),A,sp,se) x) ?_ λx L=>ak L
  refine aw (qe _ hp _ _ _ _) λ_ _=>aQ (λ_=>?_) λ_=>?_
  .exact aw (fS _) λ_ _=>aw (vU _) λ_ _=>ak (sm _)
  .refine aw (hin _ _ _) λy z=>?_
   let⟨b4,N⟩:=y;dsimp only at z;subst z;exact bl (by simp) (aw (fS _) λ_ _=>aw (vU _) λ_ _=>ak (sm _))
 refine aK (λ_=>aw (fS _) λ_ _=>ak (sm _)) λ_=>?_
 refine aK (λ_=>?_) λ_=>?_
 .refine aV (λx=>WQ ((D,T,t),A,sp,se) x) ?_ λx L=>ak L
  exact aQ (λ_=>aw (fS _) λ_ _=>ak (sm _)) λ_=>aw (fS _) λ_ _=>ak (sm _)
 refine aV (λx=>x.2=((D,T,t),A,s,(D,T),sp,se)) (aK (λ_=>ak (by dsimp only;rw[AY])) λ_=>aK (λ_=>ak (by dsimp only;rw[AY])) λ_=>ak (by dsimp only;rw[AY])) ?_;rintro⟨b,x⟩ e;dsimp only at e;subst e;refine aQ (λ_=>?_) λ_=>?_
 .refine aw (qe _ hp _ _ _ _) λr hr=>cj (λ_=>ak (sm _)) λg=>?_
  let⟨v,hv,v0,v1⟩:=hr g (by omega) (by omega);refine aX hv (aR v0 v1 (aT ?_));refine aw (hin _ _ _) λy z=>?_
  let⟨b4,N⟩:=y;dsimp only at z;subst z;refine bl (by simp) ?_;refine aV (λx=>WQ ((D,T,t),A,sp,se) x) ?_ λx L=>ak L
  refine aQ (λ_=>aw (fS _) λ_ _=>ak (sm _)) λ_=>dK (λ_=>aw (fS _) λ_ _=>ak (sm _)) λ_=>?_
  exact aK (λ_=>aw (fS _) λ_ _=>ak (sm _)) λ_=>aw (fS _) λ_ _=>ak (sm _)
 refine aK (λ_=>?_) λ_=>?_
 .refine aw (qe _ hp _ _ _ _) λr hr=>cj (λ_=>ak (sm _)) λg=>?_
  refine aw (uA T _ hth) λv hv=>?_
  refine aV (λx=>x.2=((D,T,t),A,s,sp,se)) ?_ ?_
  .refine aQ (λ_=>ak (by dsimp only;rw[AY])) λ_=>aQ (λ_=>ak (by dsimp only;rw[AY])) λ_=>aQ (λ_=>ak (by dsimp only;rw[AY])) λ_=>aK (λ_=>ak (by dsimp only;rw[AY])) λ_=>ak (by dsimp only;rw[AY])
  rintro⟨b,x⟩ e;dsimp only at e;subst e;refine aQ (λ_=>ak (sm _)) λ_=>?_
  refine aw (Bt sp _ (by omega)) λ_ _=>eh (λ_=>ak (sm _)) λ_=>?_
  exact a! (ak ⟨rfl,rfl,by simp,Sm _⟩)
 refine aK (λ_=>?_) λ_=>?_
 .refine aV (λx=>WQ ((D,T,t),A,sp,se) x) ?_ λx L=>ak L
  refine aw (qe _ hp _ _ _ _) λr hr=>?_
  refine aQ (λ_=>aw (fS _) λ_ _=>aw (vU _) λ_ _=>ak (sm _)) λ_=>?_
  refine aQ (λ_=>aw (fS _) λ_ _=>aw (vU _) λ_ _=>ak (sm _)) λ_=>?_
  exact aw (uA T _ hth) λv hv=>aw (fS _) λ_ _=>aw (vU _) λ_ _=>ak (sm _)
 refine aK (λ_=>?_) λ_=>?_
 .refine aV (λx=>x.2=((D,T,t),A,s,(D,T),sp,se)) ?_ ?_
  .refine aw (qe _ hp _ _ _ _) λr hr=>?_
   exact aQ (λ_=>aw (fS _) λ_ _=>aw (vU _) λ_ _=>ak (by dsimp only;rw[AY])) λ_=>aw (fS _) λ_ _=>aw (vU _) λ_ _=>ak (by dsimp only;rw[AY])
  rintro⟨b,x⟩ e;dsimp only at e;subst e;refine aV (λx=>x.2=((D,T,t),A,s,(D,T),sp,se)) ?_ ?_
  .refine aV (λx=>x.2=((D,T,t),A,s,(D,T),sp,se)) ?_ ?_
   .exact aK (λ_=>aw (Bt se _ (by omega)) λ_ _=>ak (by dsimp only;rw[AY])) λ_=>ak (by dsimp only;rw[AY])
   rintro⟨b,x⟩ e;dsimp only at e;subst e;exact aQ (λ_=>ak (by dsimp only;rw[AY])) λ_=>ak (by dsimp only;rw[AY])
  rintro⟨b,x⟩ e;dsimp only at e;subst e;refine a! ?_;exact aw (zQ _ hp _ _ hex) λ_ _=>aw (vU _) λ_ _=>ak ⟨rfl,rfl,Sm _,by simp⟩
 exact aw (qe _ hp _ _ _ _) λ_ _=>aw (qe _ hp _ _ _ _) λ_ _=>aw (fS _) λ_ _=>aw (vU _) λ_ _=>aw (vU _) λ_ _=>ak (sm _)
abbrev RA4:Type:=(Y Sx×WK)->M (ν×WK)
structure QA (l:List Sx) (d:Nat) (w:WK) (y:ν×WK):Prop where
 p:y.2.1=w.1
 a:l! y.2.2.1.2=l! w.2.1.2
 s:l! y.2.2.2.1<=l! w.2.2.1+l! l*KS d
 t:l! y.2.2.2.2<=l! w.2.2.2+l! l*KS d
def SpA (rr:RA4) (d:Nat):Prop:=∀(l:Y Sx) (w:WK),l! l<=100->(∀s∈l,GT d s)->PX (w.1.1,w.1.2.1)->l! w.2.1.2+d<=50->l! w.2.2.1+l! l*KS d<=100000000->l! w.2.2.2+l! l*KS d<=100000000->Ok (rr (l,w)) (QA l d w)
def ao4 (rr:RA4) (d:Nat) (hr:∀d',d=d'+1->SpA rr d'):SpA (nG rr) d:=by
 rintro l ⟨⟨D,T,t⟩,A,sp,se⟩ hl hg hp hA h1 h2;dsimp only at hp hA h1 h2;have hK:∀i:Nat,i<=l! l->i*KS d<=l! l*KS d:=λi hi=>cK _ hi
 unfold nG bk bB bP c_ dQ ef ck bm bV jY bT bW bc c8 aI cS eT;refine bR (l! l) (λi x=>x.1=(i:Int)/\x.2.1=(D,T,t)/\l! x.2.2.1.2=l! A.2/\l! x.2.2.2.1<=l! sp+i*KS d/\l! x.2.2.2.2<=l! se+i*KS d) ?_ ?_ ⟨rfl,rfl,rfl,by simp,by simp⟩
 .rintro i ⟨a,P,A',sp',se'⟩ hi ⟨e1,e2,e3,e4,e5⟩;dsimp only at e1 e2 e3 e4 e5;subst e1 e2;have hKi:=hK (i+1) (by omega);have hKs:=jF i (KS d);rw[Nat.succ_eq_add_one]at hKs;refine cU ?_;refine bF (aT ?_);have hm:=hg _ (bK (T:=.sm) (xs:=l) (j:=(i:Int)) (by omega) (by omega));revert hm;generalize (geti (.sm) l (i:Int))=s;intro hm;cases d with
  |zero=>exact hm.elim
  |succ d=>
   have hR:=hr d rfl;let⟨_,g2,g3,g4,g5,g6,g7⟩:=hm;have hk:KS (d+1)=1+16*KS d:=rfl;have kb:l! s.body*KS d<=8*KS d:=cK _ g4;have ke:l! s.els*KS d<=8*KS d:=cK _ g5;dsimp only;rw[AY];refine aw (asp s D T t A' sp' se' hp (by omega) (by omega) (by omega) g2 g3) λy hy=>?_
   let⟨e,P2,A2,sp2,se2⟩:=y;let⟨q1,z,q3,q4⟩:=hy;dsimp only at q1 z q3 q4;subst q1 z;refine bl (by simp) ?_;refine aV (λx=>x.2=((D,T,t),s,A2,sp2,se2)) (bQ (λ_=>ak rfl) λ_=>ak rfl) ?_;rintro⟨e,x⟩ ex;dsimp only at ex;subst ex;refine cj (λ_=>ak ⟨rfl,e3,by dsimp only;omega,by dsimp only;omega⟩) λ_=>?_
   refine a! (aR (by simp) (by simp;omega) (aR (by simp) (by simp;omega) ?_));dsimp only;rw[AY];refine aw (hR s.body ((D,T,t),(A2.1,cC (A2.2++[_]) _ s),sp2,se2) (by omega) g6 hp ?_ ?_ ?_) λy hy=>?_
   .dsimp only;rw[bX];simp;omega
   .dsimp only;omega
   .dsimp only;omega
   let⟨e6,P6,A6,sp6,se6⟩:=y;let⟨q1,z,q5,q6⟩:=hy;dsimp only at q1 z q5 q6;subst q1;rw[bX,bz,cH]at z;refine bl (by simp) ?_;refine aV (λx=>x.2.1=(D,T,t)/\l! x.2.2.1.2=l! A2.2+1/\l! x.2.2.2.1<=l! sp2+16*KS d/\l! x.2.2.2.2<=l! se2+16*KS d) ?_ ?_
   .refine aK (λ_=>?_) λ_=>ak ⟨rfl,z,by dsimp only;omega,by dsimp only;omega⟩
    refine aw (hR s.els ((D,T,t),A6,sp6,se6) (by omega) g7 hp (by dsimp only;omega) (by dsimp only;omega) (by dsimp only;omega)) λy hy=>?_
    let⟨e7,P7,A7,sp7,se7⟩:=y;let⟨N,L,r5,r6⟩:=hy;dsimp only at N L r5 r6;subst N;exact bl (by simp) (ak ⟨rfl,L.trans z,by dsimp only;omega,by dsimp only;omega⟩)
   rintro⟨e8,P8,A8,sp8,se8⟩ ⟨N,L,r5,r6⟩;dsimp only at N L r5 r6;subst N;have el:bn .i64 ((aS (l! A8.2))-1)=(l! A2.2:Int):=by
    rw[L,iI (by simp<;>omega) (by simp<;>omega)];simp<;>omega
   dsimp only;rw[el];have tk:l! (dE (aN (l! A2.2:Int)) A8.2)=l! A2.2:=by rw[cL];omega
   refine cE (a? (Db (by rw[L];omega) ?_));refine cj (λ_=>ak ⟨rfl,by dsimp only;omega,by dsimp only;omega,by dsimp only;omega⟩) λ_=>ak ?_
   exact⟨fL,rfl,by dsimp only;omega,by dsimp only;omega,by dsimp only;omega⟩
 .rintro⟨a,P,A',sp',se'⟩ ⟨e1,e2,e3,e4,e5⟩;dsimp only at e1 e2 e3 e4 e5;subst e1 e2;exact cO (ak ⟨rfl,e3,e4,e5⟩)
def aco:∀(n d:Nat),d<n->SpA (iY n) d
 |0,_,h=>by omega
 |n+1,d,h=>ao4 (iY n) d λz hd=>aco n z (by omega)
def Hs (p:PG) (h:PX p):Ok (gf p) λr=>r.1=0->(p.2.map λt=>oJ 5 t.2.2.2).sum<=60:=by
 have hd:=h.d;have ht:=h.t;refine aw (ag6 p h) λ_ _=>dK (λ_=>ak nofun) λ_=>?_
 refine aw (ZJ p.1 hd) λ_ _=>cj (λhn=>ak λh=>(hn h).elim) λ_=>bQ (λ_=>ak nofun) λ_=>?_
 refine aw (Ss p h) λ_ _=>cj (λhn=>ak λh=>(hn h).elim) λ_=>?_
 have hk5:KS 5=69905:=rfl;refine bR (l! p.2) (λi x=>x.1.2=(i:Int)/\x.2=p/\x.1.1=((((p.2.take i).map λt=>oJ 5 t.2.2.2).sum:Nat):Int)/\(x.1.1:Int)<=((i*6990500:Nat):Int)) ?_ ?_ ⟨rfl,rfl,by simp,by simp⟩
 .rintro i ⟨⟨(c:Int),a⟩,x⟩ hi ⟨z,e2,L,e4⟩;dsimp only at z e2 L e4;subst z;have e2:=e2.symm;subst e2;refine cU ?_;refine bF (aT ?_);have hm:=bK (T:=uY) (xs:=p.2) (j:=(i:Int)) (by omega) (by omega);have N:=h.b _ hm;have hcb:=akh (h.s _ hm);have hcb2:=cK (KS 5) N;rw[hk5]at hcb hcb2;refine aX (Iu fuel 5 _ (by rw[kR];omega) (dc N (by omega)) (h.s _ hm) (by omega)) (ak ⟨fL,rfl,?_,?_⟩)
  .dsimp only;rw[pL (T:=uY) hi,cr,I6,iI,L];simp
  .dsimp only;rw[iI];omega
 rintro⟨⟨(c:Int),a⟩,x⟩ ⟨z,e2,L,e4⟩;dsimp only at z e2 L e4;subst z;have e2:=e2.symm;subst e2;rw[cY]at L;refine cO ?_;refine aw (P:=λr=>r.1=0->(p.2.map λt=>oJ 5 t.2.2.2).sum<=60) ?_ λ_ h=>ak h
 refine bQ (λ_=>ak nofun) λg60=>?_
 have g60:c<=60:=g60;refine bR (l! p.2) (λi x=>x.1=(i:Int)/\x.2.1=p/\x.2.2.1.1=p.1/\x.2.2.1.2.1=p.2/\l! x.2.2.2.1.2=0/\l! x.2.2.2.2.1<=i*6990500/\l! x.2.2.2.2.2<=i*6990500) ?_ ?_ ⟨rfl,rfl,rfl,rfl,rfl,by simp,by simp⟩
 .rintro i ⟨a,x,⟨D,T,t⟩,A,sp,se⟩ hi ⟨z,e2,L,e4,e5,e6,e7⟩;dsimp only at z e2 L e4 e5 e6 e7;subst z;have e2:=e2.symm;subst e2 L e4;refine cU ?_;refine bF (aT ?_);have hm:=bK (T:=uY) (xs:=p.2) (j:=(i:Int)) (by omega) (by omega);have N:=h.b _ hm;have hs:=h.s _ hm;revert N hs;dsimp only;generalize (geti uY p.2 (i:Int))=th;intro N hs;have hk:KS 5=69905:=rfl;have hle:l! th.2.2.2*KS 5<=100*KS 5:=cK _ N;rw[hk]at hle;refine aw (aco fuel 5 (by rw[kR];omega) th.2.2.2 ((p.1,p.2,(i:Int)),A,sp,se) N hs h (by grind) (by grind) (by grind)) λy hy=>?_
  let⟨e,P2,A2,sp2,se2⟩:=y;let⟨q1,q2,q3,q4⟩:=hy;dsimp only at q1 q2 q3 q4;subst q1;rw[hk]at q3 q4;refine bl (by simp) (cj (λhn=>ak λh=>(hn h).elim) λ_=>ak ?_);exact⟨fL,rfl,rfl,rfl,by dsimp only;omega,by dsimp only;omega,by dsimp only;omega⟩
 .rintro⟨a,x,P,w⟩ ⟨z,e2,_⟩;dsimp only at z e2;subst z;have e2:=e2.symm;subst e2;exact cO (ak λ_=>by omega)
def dv {o z:M R} {Q:R->Prop} (h:o=z) (A:Ok z Q):Ok o Q:=h▸A
def D0:Y DT:=[(1,0,[120],0,0,[]),(1,0,[121],0,1,[]),(2,0,[118],0,0,[]),(1,0,[113],2,0,[]),(3,0,[109],0,0,[]),(3,0,[110],0,0,[]),(4,0,[114],0,0,[]),(5,0,[99],0,0,[109]),(6,0,[102],0,0,[])]
def L0:Y ζ:=[[97],[98]]
set_option maxHeartbeats 20000000 in
def ax9:∃r,gf (D0,[([109,97,105,110],0,L0,[oY (1,0,[120],[],[],eO (1,1,[],[]),[],[])])])=Z r/\r.1=0:=by
 suffices h:Ok (gf (D0,[([109,97,105,110],0,L0,[oY (1,0,[120],[],[],eO (1,1,[],[]),[],[])])])) λr=>r.1=0 by
  obtain⟨y,h1,h2⟩:=h;exact⟨y,h1,h2⟩
 unfold gf bk bB bP c_ ef bV jY bT bW bc c8 aI cS;with_reducible repeat' first|exact ak rfl|refine abr ?_|refine abq ?_|refine abp ?_|refine abn ?_|refine Vw ?_|refine an4 ?_|refine aT ?_|refine qU rfl ?_|refine jI rfl ?_|refine bl rfl ?_|refine abo ?_|refine Rp ?_|refine dv (rc.eq_1 ..) ?_|refine dv (mZ.eq_1 ..) ?_|refine dv (fT.eq_1 ..) ?_|refine dv (l7.eq_1 ..) ?_|refine dv (lG.eq_1 ..) ?_|refine dv (ms.eq_1 ..) ?_|refine dv (qN.eq_1 ..) ?_|refine dv (s_.eq_1 ..) ?_|refine dv (oV.eq_1 ..) ?_|refine dv (mb.eq_1 ..) ?_|refine dv (lh.eq_1 ..) ?_|refine dv (qA.eq_1 ..) ?_|refine dv (jO.eq_1 ..) ?_|refine dv (nD.eq_1 ..) ?_|refine dv (qM.eq_1 ..) ?_|refine dv (s9.eq_1 ..) ?_|refine dv (je.eq_1 ..) ?_|refine dv (oT.eq_1 ..) ?_|refine dv (iW.eq_1 ..) ?_|refine dv (j8.eq_1 ..) ?_|refine dv (E5.eq_1 ..) ?_|refine dv (Aw.eq_1 ..) ?_|refine dv (xV.eq_1 ..) ?_|refine dv (nG.eq_1 ..) ?_|refine dv (nC.eq_1 ..) ?_|refine dv (eE.eq_1 ..) ?_|refine dv (ii.eq_1 ..) ?_|refine dv (uq.eq_1 ..) ?_|refine dv (oU.eq_1 ..) ?_|refine dv (E4.eq_1 ..) ?_|refine dv (Av.eq_1 ..) ?_|refine dv (E3.eq_1 ..) ?_|refine dv (wA.eq_1 ..) ?_|refine dv (jJ.eq_1 ..) ?_|refine dv (dt.eq_1 ..) ?_|refine dv (ck.eq_1 ..) ?_|refine dv (congrFun (e_ dW kR) _) ?_|refine dv (BD _ _) ?_|refine dv (congrFun (e_ fe kR) _) ?_|refine dv (Cf _ _) ?_|refine dv (congrFun (e_ iB kR) _) ?_|refine dv (Cg _ _) ?_|refine dv (congrFun (e_ oE kR) _) ?_|refine dv (KM _ _) ?_|refine dv (congrFun (e_ iY kR) _) ?_|refine dv (Fe _ _) ?_|refine dv (congrFun (e_ oD kR) _) ?_|refine dv (KL _ _) ?_|refine dv (congrFun (e_ oC kR) _) ?_|refine dv (Bf _ _) ?_
 all_goals trace_state
structure TM (nT:Nat) (t:HT):Prop where
 l:t.2.2.1=L0
 b:l! t.2.2.2<=8
 s:∀s∈t.2.2.2,GS nT 3 s
structure PJ (p:PG):Prop where
 d:p.1=D0
 t0:1<=l! p.2
 t:l! p.2<=4
 m:∀t∈p.2,TM (l! p.2) t
 n:p.2.map Prod.fst=zM.take (l! p.2)
def PJ.x {p:PG} (h:PJ p):PX p:=⟨by rw[h.d];decide,by have:=h.t;omega,λt ht=>by rw[(h.m t ht).l];decide,λt ht=>by have:=(h.m t ht).b;omega,λt ht s z=>((h.m t ht).s s z).le (by omega:3<=5) |>.t⟩
def Xc:ur ()=Z D0:=rfl
def ald:∀m:Nat,m<5->∀j:Nat,j<m->geti (.str) zM (j:Int)∈zM.take m:=by decide
def U2 {nT:Nat} (op:Int) {n:ζ} (A:op=12\/op=13) (D:n∈zM.take nT):GS nT 3 (oY (op,0,n,[],[],eO (0,0,[],[]),[],[])):=GS.wo (by omega) (by simp) (λx z=>(by cases z)) (by rcases A with rfl|rfl<;>(constructor<;>simp[Sx.op,Sx.name,Sx.index,Sx.arg,Sx.els,Sx.body]<;>exact D))
def Kv (x:η) (hl:l! x<=9223372036854775807) (hx:∀z∈x,0<=z/\z<=255):Ok (pU x) λp=>PJ p/\∃r,gf p=Z r/\r.1=0:=by
 unfold pU bk bB bP cP eU kJ lP c_ iF xa Lj Prod.B bm bV jY bT kf c8 aI cS eT;refine aX Xc ?_;refine aw (gH 3 (x,0) ⟨hl,hx,by dsimp only;omega,by dsimp only;omega⟩) λy L=>?_
 let⟨n,t0⟩:=y;let⟨s0,n0,n1,_⟩:=L;have n1:=n1 (by decide);dsimp only at s0 n0 n1;have ew:bn .i64 (2+n)=2+n:=iI;obtain⟨nT,hnT⟩:∃m:Nat,2+n=(m:Int):=⟨(2+n).toNat,by omega⟩
 refine bR nT (λi x=>x.1=(i:Int)/\x.2.2.1=D0/\x.2.2.2.1=zM/\TP x.2.2.2.2.1/\x.2.2.2.2.2.1.2=[]/\x.2.2.2.2.2.2.map Prod.fst=zM.take i/\∀t∈x.2.2.2.2.2.2,TM nT t) ?_ ?_ ⟨rfl,rfl,rfl,s0.p,rfl,rfl,λt ht=>(by cases ht)⟩
 .rintro i ⟨a,m,D,N,t,h,th⟩ hi ⟨e1,e2,e3,e4,e5,e6,e7⟩;dsimp only at e1 e2 e3 e4 e5 e6 e7;subst e1 e2;refine bQ (λg=>?_) λg=>(by dsimp only at g;rw[ew]at g;omega)
  have l4:l! N=4:=by rw[e3];rfl
  refine bF (bF (aT ?_));have hthl:l! th=i:=by have:=e_ aj e6;rw[cq,cL]at this;have q4:zM.length=4:=rfl;omega
  refine aV (λx=>x.2.2.2.1.1=geti (.str) N (i:Int)/\x.2.1=D0/\x.2.2.1=zM/\TP x.2.2.2.2.1/\x.2.2.2.2.2.1.2=[]/\x.2.2.2.2.2.2.1=th/\x.2.2.2.2.2.2.2.1=L0/\l! x.2.2.2.2.2.2.2.2<=3/\∀s∈x.2.2.2.2.2.2.2.2,GS nT 3 s) ?_ ?_
  .refine aK (λ_=>?_) λ_=>ak ⟨rfl,rfl,e3,e4,e5,rfl,rfl,by simp,λs A=>(by cases A)⟩
   refine bR (1+n).toNat (λk x=>x.2.2.2.2.1.1=geti (.str) N (i:Int)/\x.1=1+(k:Int)/\x.2.2.1=D0/\x.2.2.2.1=zM/\TP x.2.2.2.2.2.1/\x.2.2.2.2.2.2.1.2=[]/\x.2.2.2.2.2.2.2.1=th/\x.2.2.2.2.2.2.2.2.1=L0/\l! x.2.2.2.2.2.2.2.2.2<=k/\∀s∈x.2.2.2.2.2.2.2.2.2,GS nT 3 s) ?_ ?_ ⟨rfl,rfl,rfl,e3,e4,e5,rfl,rfl,by simp,λs A=>(by cases A)⟩
   .rintro k ⟨c,m1,D1,N1,z1,t1,h1,th1,l1,b1⟩ hk ⟨fz,f1,f2,f3,f4,f5,f6,f7,f8,f9⟩;dsimp only at fz f1 f2 f3 f4 f5 f6 f7 f8 f9;subst f1;refine bQ (λ_=>?_) λg=>(by dsimp only at g;rw[ew]at g;omega)
    have l41:l! N1=4:=by rw[f3];rfl
    refine bF (bF (aT ?_));refine a! (ak ?_);dsimp only;rw[iI (n:=1+(k:Int)+1) (by omega) (by omega)];refine ⟨fz,by omega,f2,f3,f4,f5,f6,f7,by simp;omega,λs A=>?_⟩;rcases bO.1 A with A|A
    .exact f9 s A
    .rw[aC]at A;rw[A];refine U2 12 (.inl rfl) ?_;rw[f3,show 1+(k:Int)=((1+k:Nat):Int) by omega];exact ald nT (by omega) (1+k) (by omega)
   .rintro⟨c,m1,D1,N1,z1,t1,h1,th1,l1,b1⟩ ⟨fz,f1,f2,f3,f4,f5,f6,f7,f8,f9⟩;dsimp only at fz f1 f2 f3 f4 f5 f6 f7 f8 f9;subst f1;refine bQ (λg=>(by dsimp only at g;rw[ew]at g;omega)) λ_=>ak ?_
    exact⟨fz,f2,f3,f4,f5,f6,f7,by dsimp only;omega,f9⟩
  rintro⟨m1,D1,N1,z1,t1,h1,th1,l1,b1⟩ ⟨fz,f2,f3,f4,f5,f6,f7,f8,f9⟩;dsimp only at fz f2 f3 f4 f5 f6 f7 f8 f9;subst f2 f6 f7;refine aw (gH 3 t1 f4) λy L=>?_
  let⟨k2,t2⟩:=y;let⟨u1,u2,u3,_⟩:=L;have u3:=u3 (by decide);dsimp only at u1 u2 u3;dsimp only;rw[iI (n:=1+k2) (by omega) (by omega)];refine aw (aeg (nT:=nT) 2 (by omega) (1+k2) m1 t2 h1 (by omega) u1.p (by rw[f5];simp)) λy L=>?_
  let⟨m3,t3,h3,l3⟩:=y;let⟨w1,w2,w3,w4⟩:=L;dsimp only at w1 w2 w3 w4;refine bl (by simp) (a! ?_);have hbody:∀s∈b1++l3,GS nT 3 s:=λs A=>by
   rcases bO.1 A with A|A
   .exact f9 s A
   .exact w2 s A
  have hlen:l! (b1++l3)<=6:=by rw[bz];omega
  refine aV (λx=>x.2.2.2.1.1=geti (.str) N (i:Int)/\x.2.1=D0/\x.2.2.1=zM/\TP x.2.2.2.2.1/\x.2.2.2.2.2.1.2=[]/\x.2.2.2.2.2.2.1=th1/\x.2.2.2.2.2.2.2.1=L0/\l! x.2.2.2.2.2.2.2.2<=8/\∀s∈x.2.2.2.2.2.2.2.2,GS nT 3 s) ?_ ?_
  .refine aV (λx=>x.2.2.2.2.1.1=geti (.str) N (i:Int)/\x.2.2.1=D0/\x.2.2.2.1=zM/\TP x.2.2.2.2.2.1/\x.2.2.2.2.2.2.1.2=[]/\x.2.2.2.2.2.2.2.1=th1/\x.2.2.2.2.2.2.2.2.1=L0/\x.2.2.2.2.2.2.2.2.2=b1++l3) ?_ ?_
   .refine aK (λ_=>?_) λ_=>ak ⟨fz,rfl,f3,w3.p,w4.trans f5,rfl,rfl,rfl⟩
    exact aw (gH 3 t3 w3.p) λy L=>ak ⟨fz,rfl,f3,L.1.p,w4.trans f5,rfl,rfl,rfl⟩
   rintro⟨b,m4,D4,N4,z4,t4,h4,th4,l4,b4⟩ ⟨pz,p2,p3,p4,p5,p6,p7,p8⟩;dsimp only at pz p2 p3 p4 p5 p6 p7 p8;subst p2 p6 p7 p8;have l44:l! N4=4:=by rw[p3];rfl
   refine aQ (λ_=>?_) λ_=>ak ⟨pz,rfl,p3,p4,p5,rfl,rfl,by dsimp only;omega,hbody⟩
   refine bF (bF (aT ?_));refine bG (by simp at hlen ⊢;omega) (by omega) (ak ⟨pz,rfl,p3,p4,p5,rfl,rfl,by dsimp only;rw[bz,cH];omega,λs A=>?_⟩);rcases bO.1 A with A|A
   .exact hbody s A
   .rw[aC]at A;rw[A];refine U2 13 (.inr rfl) ?_;rw[p3];exact ald nT (by omega) 1 (by omega)
  rintro⟨m4,D4,N4,z4,t4,h4,th4,l4,b4⟩ ⟨pz,p2,p3,p4,p5,p6,p7,p8,p9⟩;dsimp only at pz p2 p3 p4 p5 p6 p7 p8 p9;subst p2 p6 p7;refine a! (ak ?_);dsimp only;refine ⟨fL,rfl,p3,p4,p5,by rw[pL (T:=.str) (xs:=zM) (i:=i) (by have q4:zM.length=4:=rfl;omega),cr,e6,<-e3];show _++[z4.1]=_;rw[pz],λt ht=>?_⟩;rcases bO.1 ht with ht|ht
  .exact e7 t ht
  .rw[aC]at ht;rw[ht];exact⟨rfl,p8,p9⟩
 .rintro⟨a,m,D,N,t,h,th⟩ ⟨e1,e2,e3,e4,e5,e6,e7⟩;dsimp only at e1 e2 e3 e4 e5 e6 e7;subst e1 e2;refine bQ (λg=>(by dsimp only at g;rw[ew]at g;omega)) λ_=>?_
  have hthl:l! th=nT:=by have:=e_ aj e6;rw[cq,cL]at this;have q4:zM.length=4:=rfl;omega
  have hpm:PJ (D0,th):=⟨rfl,by dsimp only;omega,by dsimp only;omega,by dsimp only;rw[hthl];exact e7,by dsimp only;rw[hthl];exact e6⟩
  refine aw (P:=λp=>PJ p/\∃r,gf p=Z r/\r.1=0) ?_ λr hr=>ak hr
  let⟨y,L,_⟩:=Hs (D0,th) hpm.x;refine aX L (cj (λ_=>?_) λh=>ak ⟨hpm,y,L,h⟩);refine aX Xc (aX (S7 _) (aX (vO _ _) (ak ?_)));refine ⟨⟨rfl,by simp,by simp,λt ht=>?_,rfl⟩,ax9⟩;simp only[aC]at ht;rw[ht];refine ⟨rfl,by simp,λs A=>?_⟩;simp only[aC]at A;rw[A,gg,BP];exact GS.asg (by decide) (GE.num _ 3)
abbrev iA (l:Y IT) (k:Nat):IT:=geti sJ l (k:Int)
def JT (l:Y IT) (ρ:Nat->Nat) (a e k:Nat):Prop:=(iA l k).1=5->∃z:Nat,(iA l k).2.1=(z:Int)/\(z=e\/a<=z/\z<e/\ρ z<ρ k)
def sF (l:Y IT) (a e:Nat):Prop:=a<=e/\∃ρ:Nat->Nat,∀k,a<=k->k<e->1<=ρ k/\ρ k<=e-a/\JT l ρ a e k/\((iA l k).1<5->k+1=e\/ρ (k+1)<ρ k)
def sF.nil (l:Y IT) (a:Nat):sF l a a:=⟨bI _,λ_=>0,λk h1 z=>by omega⟩
def sF.one {l:Y IT} (h:¬(iA l i).1=5):sF l i (i+1):=⟨by omega,λ_=>1,λk h1 A=>⟨bI 1,by show 1<=i+1-i;omega,λz=>by rw[show k=i by omega]at z;exact (h z).elim,λ_=>.inl (by omega)⟩⟩
def sF.congr {l l':Y IT} (h:sF l i j) (D:∀k,i<=k->k<j->iA l' k=iA l k):sF l' i j:=by
 let⟨h1,ρ,L⟩:=h;exact⟨h1,ρ,λk A z=>by unfold JT;rw[D k A z];exact L k A z⟩
def sF.app {l:Y IT} {c:Nat} (h:sF l i j) (k:sF l j c):sF l i c:=by
 let⟨h1,ρ,h2⟩:=h;let⟨k1,σ,k2⟩:=k;refine ⟨by omega,λk=>if k<j then ρ k+(c-j) else σ k,λk g1 g2=>?_⟩;by_cases D:k<j
 .obtain⟨q1,q2,q3,q4⟩:=h2 k g1 D;simp only[aF D];refine ⟨by omega,by omega,?_,λz=>?_⟩
  .intro z;simp only[aF D];let⟨A,e,r⟩:=q3 z;refine ⟨A,e,?_⟩;rcases r with r|⟨r1,N,r3⟩
   .subst r;by_cases L:A=c
    .exact .inl L
    .have:=(k2 A (bI _) (by omega)).2.1;rw[ax (Fq _)];exact .inr ⟨by omega,by omega,by omega⟩
   .rw[aF N];exact .inr ⟨r1,by omega,by omega⟩
  .rcases q4 z with r|r
   .by_cases L:k+1=c
    .exact .inl L
    .have:=(k2 (k+1) (by omega) (by omega)).2.1;rw[ax (by omega)];exact .inr (by omega)
   .by_cases hb:k+1<j
    .rw[aF hb];exact .inr (by omega)
    .rw[ax hb];by_cases L:k+1=c
     .exact .inl L
     .have:=(k2 (k+1) (by omega) (by omega)).2.1;exact .inr (by omega)
 .obtain⟨q1,q2,q3,q4⟩:=k2 k (by omega) g2;simp only[ax D];refine ⟨q1,by omega,?_,λz=>?_⟩
  .intro z;simp only[ax D];let⟨A,e,r⟩:=q3 z;refine ⟨A,e,r.imp id λ⟨r1,N,r3⟩=>⟨by omega,N,?_⟩⟩;rw[ax (by omega)];exact r3
  .rw[ax (by omega)];exact q4 z
def sF.ite {l:Y IT} {e:Nat} (h:sF l i j) (hj:(iA l j).1=5) (hx:(iA l j).2.1=(e:Int)) (k:sF l (j+1) e):sF l i e:=by
 let⟨h1,ρ,h2⟩:=h;let⟨k1,σ,k2⟩:=k;refine ⟨by omega,λk=>if k<j then ρ k+(e-j) else if k=j then e-j else σ k,λk g1 g2=>?_⟩;by_cases A:k<j
 .obtain⟨q1,q2,q3,q4⟩:=h2 k g1 A;simp only[aF A];refine ⟨by omega,by omega,?_,λz=>?_⟩
  .intro z;simp only[aF A];let⟨L,e',r⟩:=q3 z;refine ⟨L,e',.inr ?_⟩;rcases r with r|⟨r1,D,N⟩
   .rw[r,ax (Fq _),aF rfl];exact⟨by omega,by omega,by omega⟩
   .rw[aF D];exact⟨r1,by omega,by omega⟩
  .refine .inr ?_;by_cases hb:k+1<j
   .rw[aF hb];rcases q4 z with r|r<;>omega
   .rw[ax hb,aF (by omega)];omega
 .by_cases hkj:k=j
  .subst hkj;simp only[ax A,aF];exact⟨by omega,by omega,λ_=>⟨e,hx,.inl rfl⟩,λz=>by rw[hj]at z;omega⟩
  .obtain⟨q1,q2,q3,q4⟩:=k2 k (by omega) g2;simp only[ax A,ax hkj];refine ⟨q1,by omega,?_,λz=>?_⟩
   .intro z;simp only[ax A,ax hkj];let⟨L,e',r⟩:=q3 z;refine ⟨L,e',r.imp id λ⟨r1,D,N⟩=>⟨by omega,D,?_⟩⟩;rw[ax (by omega),ax (by omega)];exact N
   .rw[ax (by omega),ax (by omega)];exact q4 z
def sF.whl {l:Y IT} {c:Nat} (h:sF l i c) (hc:(iA l c).1=10) (k:sF l (c+1) j) (hj:(iA l j).1=5) (hx:(iA l j).2.1=(i:Int)):sF l i (j+1):=by
 let⟨h1,ρ,h2⟩:=h;let⟨k1,σ,k2⟩:=k;refine ⟨by omega,λk=>if k<c then ρ k+1 else if k=c then 1 else if k<j then σ k+(c-i)+2 else c-i+2,λk g1 g2=>?_⟩;by_cases A:k<c
 .obtain⟨q1,q2,q3,q4⟩:=h2 k g1 A;simp only[aF A];refine ⟨by omega,by omega,?_,λz=>?_⟩
  .intro z;simp only[aF A];let⟨N,e',r⟩:=q3 z;refine ⟨N,e',.inr ?_⟩;rcases r with r|⟨r1,L,r3⟩
   .rw[r,ax (Fq _),aF rfl];exact⟨by omega,by omega,by omega⟩
   .rw[aF L];exact⟨r1,by omega,by omega⟩
  .refine .inr ?_;by_cases D:k+1<c
   .rw[aF D];rcases q4 z with r|r<;>omega
   .rw[ax D,aF (by omega)];omega
 .by_cases hkc:k=c
  .subst hkc;simp only[ax A,aF];exact⟨by omega,by omega,λz=>by rw[hc]at z;omega,λz=>by rw[hc]at z;omega⟩
  .simp only[ax A,ax hkc];by_cases hkj:k<j
   .obtain⟨q1,q2,q3,q4⟩:=k2 k (by omega) hkj;simp only[aF hkj];refine ⟨by omega,by omega,?_,λz=>?_⟩
    .intro z;simp only[ax A,ax hkc,aF hkj];let⟨N,e',r⟩:=q3 z;refine ⟨N,e',.inr ?_⟩;rcases r with r|⟨r1,L,r3⟩
     .rw[r,ax (by omega),ax (by omega),ax (Fq _)];exact⟨by omega,by omega,by omega⟩
     .rw[ax (by omega),ax (by omega),aF L];exact⟨by omega,by omega,by omega⟩
    .refine .inr ?_;rw[ax (by omega),ax (by omega)];by_cases D:k+1<j
     .rw[aF D];rcases q4 z with r|r<;>omega
     .rw[ax D];omega
   .have hkj:k=j:=by omega
    subst hkj;simp only[ax (Fq _)];refine ⟨by omega,by omega,λ_=>⟨i,hx,.inr ⟨bI _,by omega,?_⟩⟩,λz=>by rw[hj]at z;omega⟩;simp only[ax A,ax hkc,ax (Fq _)];by_cases ha:i<c
    .rw[aF ha];have:=(h2 i (bI _) ha).2.1;omega
    .rw[ax ha,aF (by omega)];omega
def OB (nT:Nat) (i:IT):Prop:=
 if i.1=6 then 0<=i.2.2.1/\i.2.2.1<=2 else if i.1=8 then 0<=i.2.1/\i.2.1<=2 else if i.1=7 then i.2.2.1=3/\i.2.2.2.2.1=2 else if i.1=9 then i.2.1=3/\i.2.2.2.2.1=2 else if i.1=11\/i.1=12 then i.2.1=0\/i.2.1=1 else if 13<=i.1/\i.1<=16 then i.2.1=2 else if 21<=i.1/\i.1<=23 then i.2.1=0 else if i.1=24\/i.1=25 then 0<=i.2.1/\i.2.1<(nT:Int) else if i.1=26 then i.2.1=0 else if i.1=27 then i.2.2.1=0 else if i.1=4 then 6<=i.2.2.2.2.1/\i.2.2.2.2.1<=18 else ¬i.1=3
structure GO (nT:Nat) (i:IT):Prop where
 o1:1<=i.1
 o2:i.1<=27
 r:∀j:Int,j∈jD i->0<=j/\j<32
 b:OB nT i
def SO (ss:Y π) (t s:Int):Prop:=0<=s/\s<l! ss/\(geti pW ss s).1=t
structure GI (nT:Nat) (ss:List π) (t:Int) (i:IT):Prop where
 o:GO nT i
 s:SO ss t i.2.2.2.2.2
def Y5 (l:Y IT) (hl:l! l<=1000000) (h1:1<=l! l) (hb:sF l 0 (l! l-1)) (he:(iA l (l! l-1)).1=28) (k:Nat) (hk:k<l! l):qK (l,(k:Int))=Z J:=by
 let⟨_,ρ,hρ⟩:=hb;refine cI ?_;unfold qK bm bV jZ bW bc c8 aI cS;refine qi (λx=>((l! l:Int)+1-x.2).toNat) (λx=>0<=x.2/\∃q:Nat,x.1=(q:Int)/\q<l! l/\((if q<l! l-1 then ρ q else 0:Nat):Int)+x.2<=(l! l:Int)) ?_ ⟨by dsimp only;omega,k,rfl,hk,?_⟩
 .rintro⟨a,(n:Int)⟩ ⟨n0,q,e,hq,hr⟩;dsimp only at n0 e hr;subst e;refine eh (λ_=>?_) λg=>(by dsimp only[ay]at g;omega)
  refine gQ ?_;refine gQ (bQ (λg=>by dsimp only at g;omega) λ_=>ak ?_);refine jI (by rw[m8];dsimp only[ay];omega) ?_;refine bF (aT ?_);refine aX (I1 _) ?_;refine dK (λ_=>ak rfl) λL=>?_
  have L:1<=(iA l q).1/\(iA l q).1<=5:=bJ L;have A:q<l! l-1:=xO λh=>by rw[show q=l! l-1 by omega]at L;rw[he]at L;omega
  let⟨r1,r2,r3,r4⟩:=hρ q (kV _) A;rw[aF A]at hr;refine bF (aT ?_);have fin:∀z:Nat,z=l! l-1\/z<l! l-1/\ρ z<ρ q->0<=n+1/\∃D:Nat,(z:Int)=(D:Int)/\D<l! l/\((if D<l! l-1 then ρ D else 0:Nat):Int)+(n+1)<=(l! l:Int):=λz h=>⟨by omega,z,rfl,by omega,by
   rcases h with h|⟨h,h'⟩
   .rw[ax (by omega)];omega
   .rw[aF h];omega⟩
  refine aK (λN=>?_) λN=>ak (ak ?_)
  .obtain⟨z,e,hq'⟩:=r3 N;refine aR (eD _) (by dsimp only;omega) (aT (ak (ak ?_)));dsimp only;rw[iI (n:=n+1) (by omega) (by omega)];have:=fin z (hq'.imp id λh=>⟨h.2.1,h.2.2⟩);rw[<- e]at this;exact⟨this,by omega⟩
  .dsimp only;have N:¬(iA l q).1=5:=N;rw[iI (n:=n+1) (by omega) (by omega),fL];refine ⟨fin (q+1) ?_,by omega⟩;rcases r4 (by omega) with h|h
   .exact .inl h
   .by_cases hb:q+1=l! l-1
    .exact .inl hb
    .exact .inr ⟨by omega,h⟩
 .dsimp only;split
  next h=>have:=(hρ k (kV _) h).2.1;omega
  .omega
def OZ (w:WT) (z:w.1=C0):qL (w,3,2)=Z J:=by
 refine cI ?_;have h0:(0:Int)<=3:=by decide
 have h1:(3:Int)<(l! w.1:Int):=by rw[z];decide
 have A:geti lL w.1 3=([113],0,2,af,0):=by rw[z];rfl
 unfold qL bm jY bW bc aI;refine gQ (aX (tN _ _) (aK (λ_=>?_) λh=>(h ⟨h0,h1⟩).elim));rw[A];refine aR h0 h1 (aT (aK (λ_=>?_) λh=>(h rfl).elim));refine aR h0 h1 (aT (cj (λ_=>?_) λh=>bC h (by decide)));exact aR h0 h1 (aT (ak (ak rfl)))
def S1 {nT:Nat} (w:WT) (i:IT) (hw:WX w) (hT:l! w.2.2.2.2.1=nT) (z:OB nT i):mG (w,i)=Z J:=by
 let⟨D,hl,hd,hf,_,_,_⟩:=hw;refine cI ?_;unfold mG bk bB bP cP eU bm jZ bW bc aI;unfold OB at z;simp only[tN,obs];refine aK (λh=>?_) λn6=>?_
 .rw[aF h]at z;have N:(geti lL w.1 i.2.2.1).2.2.1=(0:Int):=by
   rw[D];rcases (by omega:i.2.2.1=0\/i.2.2.1=1\/i.2.2.1=2) with h|h|h<;>rw[h]<;>rfl
  have hi:0<=i.2.2.1/\i.2.2.1<(l! w.1:Int):=⟨z.1,by rw[D];have:=z.2;show i.2.2.1<5;omega⟩
  exact gQ (aK (λ_=>aR hi.1 hi.2 (aT (ak (ak (a8 N))))) λh=>(h hi).elim)
 rw[ax n6]at z;refine aK (λh=>?_) λn8=>?_
 .rw[aF h]at z;have N:(geti lL w.1 i.2.1).2.2.1=(0:Int):=by
   rw[D];rcases (by omega:i.2.1=0\/i.2.1=1\/i.2.1=2) with h|h|h<;>rw[h]<;>rfl
  have hi:0<=i.2.1/\i.2.1<(l! w.1:Int):=⟨z.1,by rw[D];have:=z.2;show i.2.1<5;omega⟩
  exact gQ (aK (λ_=>aR hi.1 hi.2 (aT (ak (ak (a8 N))))) λh=>(h hi).elim)
 rw[ax n8]at z;refine aK (λh=>?_) λn7=>?_
 .rw[aF h]at z;rw[z.1,z.2];exact aX (OZ w D) (ak rfl)
 rw[ax n7]at z;refine aK (λh=>?_) λn9=>?_
 .rw[aF h]at z;rw[z.1,z.2];exact aX (OZ w D) (ak rfl)
 rw[ax n9]at z;refine aV (λx=>x.2=(w,i)/\(x.1=J↔i.1=11\/i.1=12)) (aK (λh=>ak ⟨rfl,λ_=>.inl h,λ_=>a8 h⟩) λh=>ak ⟨rfl,λA=>.inr (bJ A),λA=>a8 (A.resolve_left h)⟩) ?_;rintro⟨b,x⟩ ⟨e,hx⟩;dsimp only at e hx;subst e;refine aQ (λh=>?_) λh=>?_
 .rw[aF (hx.1 h)]at z;have N:(geti tF w.2.1 i.2.1).2=af:=by
   rw[hl];rcases z with h|h<;>rw[h]<;>rfl
  have hi:0<=i.2.1/\i.2.1<(l! w.2.1:Int):=⟨by omega,by rw[hl];show i.2.1<3;omega⟩
  exact gQ (aK (λ_=>aR hi.1 hi.2 (aT (ak (ak (by dsimp only;rw[N];rfl))))) λh=>(h hi).elim)
 rw[ax λA=>by rw[hx.2 A]at h;cases h]at z;have hj:∀{p:Prop} {b:Bool},(b=J->p)->(p->b=J)->b=af->¬p:=λ_ A h3 L=>by rw[A L]at h3;cases h3
 refine aV (λx=>x.2=(w,i)/\(x.1=J->13<=i.1/\i.1<=16)/\(13<=i.1/\i.1<=16->x.1=J)) (aK (λh=>ak ⟨rfl,λ_=>by first|omega|(dsimp only at h;omega),λ_=>a8 h⟩) λ_=>aK (λh=>ak ⟨rfl,λ_=>by first|omega|(dsimp only at h;omega),λ_=>a8 h⟩) λ_=>aK (λh=>ak ⟨rfl,λ_=>by first|omega|(dsimp only at h;omega),λ_=>a8 h⟩) λ_=>ak ⟨rfl,λh=>by have:=bJ h;first|omega|(dsimp only at this;omega),λh=>a8 (by first|omega|(dsimp only at *;omega))⟩) ?_;rintro⟨b,x⟩ ⟨e,h1,A⟩;dsimp only at e h1 A;subst e;refine aQ (λh=>?_) λh=>?_
 .rw[aF (h1 h)]at z;have hi:0<=i.2.1/\i.2.1<(l! w.2.1:Int):=⟨by omega,by rw[hl];show i.2.1<3;omega⟩
  exact gQ (aK (λ_=>aR hi.1 hi.2 (aT (ak (ak (by dsimp only;rw[z,hl];rfl))))) λh=>(h hi).elim)
 rw[ax (hj h1 A h)]at z;refine aV (λx=>x.2=(w,i)/\(x.1=J->21<=i.1/\i.1<=23)/\(21<=i.1/\i.1<=23->x.1=J)) (aK (λh=>ak ⟨rfl,λ_=>by first|omega|(dsimp only at h;omega),λ_=>a8 h⟩) λ_=>aK (λh=>ak ⟨rfl,λ_=>by first|omega|(dsimp only at h;omega),λ_=>a8 h⟩) λ_=>ak ⟨rfl,λh=>by have:=bJ h;first|omega|(dsimp only at this;omega),λh=>a8 (by first|omega|(dsimp only at *;omega))⟩) ?_;rintro⟨b,x⟩ ⟨e,h1,A⟩;dsimp only at e h1 A;subst e;refine aQ (λh=>?_) λh=>?_
 .rw[aF (h1 h)]at z;exact ak (a8 ⟨by dsimp only;omega,by dsimp only;rw[hd];show i.2.1<1;omega⟩)
 rw[ax (hj h1 A h)]at z;refine aV (λx=>x.2=(w,i)/\(x.1=J->i.1=24\/i.1=25)/\(i.1=24\/i.1=25->x.1=J)) (aK (λh=>ak ⟨rfl,λ_=>.inl h,λ_=>a8 h⟩) λh=>ak ⟨rfl,λA=>.inr (bJ A),λA=>a8 (A.resolve_left h)⟩) ?_;rintro⟨b,x⟩ ⟨e,h1,A⟩;dsimp only at e h1 A;subst e;refine aQ (λh=>?_) λh=>?_
 .rw[aF (h1 h)]at z;exact ak (a8 ⟨z.1,by dsimp only;rw[hT];exact z.2⟩)
 rw[ax (hj h1 A h)]at z;refine aK (λh=>?_) λn=>?_
 .rw[aF h]at z;exact ak (a8 ⟨by dsimp only;omega,by dsimp only;rw[hf];show i.2.1<1;omega⟩)
 rw[ax n]at z;refine aK (λh=>?_) λn=>?_
 .rw[aF h]at z;exact ak (a8 ⟨by dsimp only;omega,by dsimp only;rw[hf];show i.2.2.1<1;omega⟩)
 rw[ax n]at z;by_cases L:i.1=4
 .rw[aF L]at z;refine aK (λh=>by have h:i.1=3:=h;omega) λ_=>aK (λ_=>?_) λh=>(h L).elim
  refine gQ (eh (λ_=>ak (ak (LH.2 z.2))) λh=>by dsimp only at h;omega)
 .rw[ax L]at z;exact aK (λh=>(z h).elim) λ_=>aK (λh=>(L h).elim) λ_=>ak rfl
structure GC (nT:Nat) (ss:List π) (k:Int) (c:Int×List IT):Prop where
 r0:1<=c.1
 r1:c.1<=32
 n:1<=l! c.2
 u:l! c.2<=1000000
 e:(iA c.2 (l! c.2-1)).1=28/\(iA c.2 (l! c.2-1)).2.2.2.2.2= -1
 b:sF c.2 0 (l! c.2-1)
 i:∀q:Nat,q<l! c.2-1->GI nT ss k (iA c.2 q)
 r:∀q:Nat,q<l! c.2-1->(iA c.2 q).1=10->0<=(iA c.2 q).2.2.1/\(iA c.2 q).2.2.1<(l! c.2:Int)
 g:∀q:Nat,q<l! c.2-1->∀j:Int,j∈jD (iA c.2 q)->j<c.1
variable {a:Int}
def HG {nT:Nat} {w:WT} {c:Int×Y IT} (hw:WX w) (hT:l! w.2.2.2.2.1=nT) (hc:GC nT w.2.2.2.2.2 a c):iP (w,a,c)=Z J:=by
 let⟨r0,r1,n1,hu,he,hb,hi,hr,hg⟩:=hc;refine cI ?_;unfold iP bk bB bP cP c_ ef Lj bm bV jY bW bc c8 aI cS;refine aV (λx=>x.2=(w,c)/\x.1=af) ?_ ?_
 .refine bQ (λh=>by have h:c.1<0:=h;omega) λ_=>bQ (λh=>by have h:32<c.1:=h;omega) λ_=>ak ⟨rfl,dm λh=>by have h:aS (l! c.2)=0:=h;dsimp only[ay]at h;omega⟩
 rintro⟨b,x⟩ ⟨e,hb'⟩;dsimp only at e hb';subst e hb';refine kg ?_;refine bR (l! c.2) (λi x=>x.1=(i:Int)/\x.2=(w,c)) ?_ ?_ ⟨rfl,rfl⟩
 .rintro i ⟨k,x⟩ hi2 ⟨e1,e2⟩;dsimp only at e1 e2;subst e1 e2;have hla:=Y5 c.2 hu n1 hb he.1 i hi2;have hz:∀z:IT,z=iA c.2 i->(i<l! c.2-1->GI nT w.2.2.2.2.2 a z/\(z.1=10->0<=z.2.2.1/\z.2.2.1<(l! c.2:Int))/\(z.1=5->0<=z.2.1/\z.2.1<(l! c.2:Int))/\∀j:Int,j∈jD z->j<c.1)/\(i=l! c.2-1->z.1=28/\z.2.2.2.2.2= -1):=λz hz=>by
   subst hz;refine ⟨λh=>⟨hi i h,hr i h,λh5=>?_,hg i h⟩,λh=>by rw[h];exact he⟩;let⟨_,ρ,hρ⟩:=hb;let⟨q',e,hq'⟩:=(hρ i (kV _) h).2.2.1 h5;rw[e];omega
  refine cU ?_;refine bF (aT ?_);generalize hzz:(geti sJ c.2 (i:Int))=z;let⟨A,D⟩:=hz z hzz.symm;have hcs:i<l! c.2-1\/i=l! c.2-1:=by omega
  have o1:1<=z.1:=by
   rcases hcs with h|h
   .exact (A h).1.o.o1
   .rw[(D h).1];decide
  have o2:z.1<=28:=by
   rcases hcs with h|h
   .exact C6 (A h).1.o.o2 (by decide)
   .rw[(D h).1];decide
  have o28:z.1=28->i=l! c.2-1:=λh=>hcs.resolve_left λg=>by have:=(A g).1.o.o2;rw[h]at this;exact bC this (by decide)
  have hob:OB nT z:=by
   rcases hcs with h|h
   .exact (A h).1.o.b
   .unfold OB;rw[(D h).1];simp
  have hrg:∀j:Int,j∈jD z->0<=j/\j<c.1:=λj L=>by
   rcases hcs with h|h
   .exact⟨((A h).1.o.r j L).1,(A h).2.2.2 j L⟩
   .unfold jD at L;rw[(D h).1]at L;simp at L
  have hwr:bn .i64 (aS (l! c.2)-1)=((l! c.2-1:Nat):Int):=by rw[iI (by dsimp only[ay];omega) (by dsimp only[ay];omega)];dsimp only[ay];omega
  have hcd:((decide (z.1=28)==decide ((i:Int)=bn .i64 (aS (l! c.2)-1))) !=J)=af:=by grind
  refine aV (λx=>x=(af,w,c,z)) ?_ ?_
  .refine bQ (λh=>bC h (AU.2 o1)) λ_=>bQ (λh=>bC h (AU.2 o2)) λ_=>jI hcd ?_
   refine aX (S1 w z hw hT hob) (jI rfl (aX hla (ak rfl)))
  rintro x rfl;refine kg (aV (λx=>x=(af,w,c,z)) ?_ ?_)
  .simp only[tN,obs];refine aK (λh=>?_) λh=>?_
   .have h5:=(D (o28 h)).2;exact cj (λg=>(g h5).elim) λ_=>cj (λg=>(g h).elim) λ_=>ak rfl
   .have hsi:=(A (hcs.resolve_right λg=>h (D g).1)).1.s;refine cj (λ_=>cj (λg=>(g ⟨hsi.1,hsi.2.1⟩).elim) λg=>aR g.1 g.2 (aT (ak ?_))) λg=>(h g).elim
    rw[a8 hsi.2.2];rfl
  rintro x rfl;refine kg (aV (λx=>x=(af,w,c,z)) ?_ ?_)
  .simp only[tN,obs];have N:z.1=5\/z.1=10->i<l! c.2-1:=λh=>hcs.resolve_right λg=>by rw[(D g).1]at h;exact bC h (by decide)
   refine aK (λh=>?_) λh=>?_
   .have h2:=(A (N (.inl h))).2.2.1 h;refine cj (λg=>(g h2).elim) λ_=>aK (λg=>?_) λ_=>ak rfl
    rw[h]at g;exact bC g (by decide)
   .refine aK (λg=>ak ?_) λ_=>ak rfl
    have h2:=(A (N (.inr g))).2.1 g;rw[a8 (show 0<=z.2.2.1/\z.2.2.1<aS (l! c.2) from h2)];rfl
  rintro x rfl;refine kg (aX (vG z) ?_);have hrl:=FH z;refine bR (l! (jD z)) (λj x=>x=((j:Int),w,c)) ?_ ?_ rfl
  .rintro j x L rfl;refine cU ?_;refine bF (aT ?_);refine aX (tN _ _) (cj (λg=>(g (hrg _ (bK (T:=aP) (xs:=jD z) (j:=(j:Int)) (by omega) (by omega)))).elim) λ_=>ak ?_);dsimp only;rw[fL]
  .rintro x rfl;exact cO (ak ⟨fL,rfl⟩)
 .rintro⟨k,x⟩ ⟨e1,e2⟩;dsimp only at e1 e2;subst e1 e2;exact cO (ak rfl)
section
abbrev GN:Type:=Y (ζ×Int×Int×Bool×Int)×Y (ζ×Bool)×Y (ζ×Int)×Y ζ×Y ζ×Y π×Y ζ×i?
def Rz (l:Y I!) (s:ζ) (D:l! l<=1000):Ok (mr (l,s)) λr=> -1<=r/\r<l! l/\(0<=r->(geti tF l r).1=s)/\(r<0->∀c∈l,c.1≠s):=by
 refine bR (l! l) (λi x=>x=(i:Int)/\∀k:Nat,k<i->(geti tF l (k:Int)).1≠s) ?_ ?_ ⟨rfl,λk A=>by omega⟩
 .rintro i x hi ⟨rfl,z⟩;refine cU ?_;refine bF (aT ?_);refine aK (λh=>ak ⟨by omega,by omega,λ_=>h,λh=>by omega⟩) λh=>ak ⟨fL,λk A=>?_⟩
  grind
 .rintro x ⟨rfl,z⟩;exact cO (ak ⟨by omega,by omega,λh=>by omega,λ_=>iT (T:=tF) (p:=λc=>c.1≠s) z⟩)
def aqt {s:ζ} (h: -1<=a/\a<Km.length/\(0<=a->(geti tF Km a).1=s)/\(a<0->∀c∈Km,c.1≠s)):(s=[109]->a=0)/\(s=[110]->a=1)/\(s=[114]->a=2):=by
 let⟨h0,h1,z,A⟩:=h;have h1:a<3:=h1;rcases (by omega:a= -1\/a=0\/a=1\/a=2) with rfl|rfl|rfl|rfl
 .have A:=A (by decide);exact⟨λh=>(A ([109],af) (by decide) h.symm).elim,λh=>(A ([110],af) (by decide) h.symm).elim,λh=>(A ([114],J) (by decide) h.symm).elim⟩
 .have z:[109]=s:=z (by decide)
  grind
 .have z:[110]=s:=z (by decide)
  grind
 .have z:[114]=s:=z (by decide)
  grind
def Dq (w:WT) (s:ζ) (D:w.1=C0):Ok (oy (w,s)) λr=>(s∈NV->s∉L0->0<=r/\r<=2)/\(s=[113]->r=3):=by
 have hl:l! w.1=5:=by rw[D];rfl
 refine bR (l! w.1) (λi x=>x.1=(i:Int)/\x.2=w/\∀k:Nat,k<i->(geti lL w.1 (k:Int)).1≠s) ?_ ?_ ⟨rfl,rfl,λk hk=>by omega⟩
 .rintro i ⟨a,x⟩ hi ⟨L,e2,A⟩;subst L;have e2:=e2.symm;subst e2;refine cU ?_;refine bF (aT ?_);refine aK (λh=>ak ?_) λg=>ak ?_
  .rw[D]at h A;rcases (by omega:i=0\/i=1\/i=2\/i=3\/i=4) with rfl|rfl|rfl|rfl|rfl
   .have h:[120]=s:=h
    grind
   .have h:[121]=s:=h
    grind
   .have h:[118]=s:=h
    grind
   .have h:[113]=s:=h
    grind
   .have h:[113]=s:=h;exact (A 3 (by omega) h).elim
  .refine ⟨fL,rfl,λk hk=>?_⟩
   grind
 .rintro⟨a,x⟩ ⟨L,e2,A⟩;subst L;have e2:=e2.symm;subst e2;refine cO (ak ?_);have z:=iT (T:=lL) (p:=λc=>c.1≠s) A;rw[D]at z;have a1:=z ([120],0,0,af,0) (by decide);have a2:=z ([121],0,0,af,1) (by decide);have a3:=z ([118],0,0,J,0) (by decide);have a4:=z ([113],0,2,af,0) (by decide);refine ⟨λh N=>?_,λh=>(a4 h.symm).elim⟩;simp[a_,cD,fH,L0]at h N
  grind
def Mb (i:IT) (g:GN) (out:Y IT) (h:l! out<=100000000):Ok (cQ (i,g,out)) λy=>y.1=g/\y.2=out++[(i.1,i.2.1,i.2.2.1,i.2.2.2.1,i.2.2.2.2.1,g.2.2.2.2.2.2.2.1)]:=by
 exact bG (by grind) (by omega) (ak ⟨rfl,rfl⟩)
def VE:Nat->Nat
 |0=>0
 |d+1=>1+2*VE d
def MT {l m:Y IT} (h:i<l! l):iA (l++m) i=iA l i:=by
 unfold iA;rw[uT,uT,aE,aE,bU h]
def Aq (l:Y IT) (x:IT):iA (l++[x]) (l! l)=x:=by
 unfold iA;rw[uT,aE,cm (bI _)];simp
structure QC (nT:Nat) (ss:List π) (t:Int) (n:Nat) (out o:List IT):Prop where
 l:l! out<=l! o
 u:l! o<=l! out+n
 p:∀k:Nat,k<l! out->iA o k=iA out k
 b:sF o (l! out) (l! o)
 i:∀k:Nat,l! out<=k->k<l! o->GI nT ss t (iA o k)
 r:∀k:Nat,l! out<=k->k<l! o->(iA o k).1=10->0<=(iA o k).2.2.1/\(iA o k).2.2.1<=(l! o:Int)
variable {nT:Nat} {ss:Y π} {t:Int}
def QC.nil (n:Nat) (out:Y IT):QC nT ss t n out out:=⟨bI _,by omega,λ_ _=>rfl,sF.nil _ _,λk h1 z=>by omega,λk h1 z=>by omega⟩
def QC.trans {c:Nat} {x y z:Y IT} (h:QC nT ss t i x y) (k:QC nT ss t j y z) (hc:i+j<=c):QC nT ss t c x z:=by
 let⟨h1,h2,L,D,h5,h6⟩:=h;let⟨k1,k2,k3,k4,k5,k6⟩:=k;refine ⟨by omega,by omega,λq A=>(k3 q (by omega)).trans (L q A),(D.congr λq _ A=>k3 q A).app k4,λq g1 N=>?_,λq g1 N g3=>?_⟩
 .grind
 .grind
def QC.one {out:Y IT} {i:IT} (h:GI nT ss t i) (z:¬i.1=5/\¬i.1=10):QC nT ss t 1 out (out++[i]):=by
 have D:l! (out++[i])=l! out+1:=by simp
 refine ⟨by omega,by omega,λk L=>MT L,?_,λk h1 N=>?_,λk h1 N A=>?_⟩
 .rw[D];exact sF.one (by rw[Aq];exact z.1)
 .rw[show k=l! out by omega,Aq];exact h
 .rw[show k=l! out by omega,Aq]at A;exact (z.2 A).elim
structure GK (ss:List π) (t:Int) (g:GN):Prop where
 c:g.1=C0
 l:g.2.2.2.2.2.2.1=L0
 s:SO ss t g.2.2.2.2.2.2.2.1
def goI {nT:Nat} {op B C N y:Int} (h1:1<=op) (L:op<=27) (z:∀j:Int,j∈jD (op,a,B,C,N,y)->0<=j/\j<32) (D:OB nT (op,a,B,C,N,y)):GO nT (op,a,B,C,N,y):=⟨h1,L,z,D⟩
def HR {op:Int} {r:υ} {g:GN} {out:Y IT} (h:l! out<=100000000) (A:GK ss t g) (hi:GO nT (op,r)) (D:¬op=5/\¬op=10):Ok (cQ ((op,r),g,out)) λy=>y.1=g/\QC nT ss t 1 out y.2:=(Mb (op,r) g out h).mono λy z=>⟨z.1,by rw[z.2];exact QC.one ⟨⟨hi.o1,hi.o2,hi.r,hi.b⟩,A.s⟩ D⟩
abbrev z!:=GN×Y IT
def RE:∀(n d:Nat),d<n->∀(e:Xp) (k:Int) (g:GN) (out:Y IT),GE d e->GK ss t g->0<=k->k+d<=31->l! out+VE d<=100000000->Ok (ju n ((e,k),g,out)) λy=>y.1=g/\QC nT ss t (VE d) out y.2
 |0,_,h,_,_,_,_,_,_,_,_,_=>by omega
 |n+1,0,_,e,_,_,_,h,_,_,_,_=>h.elim
 |n+1,d+1,hn,e,k,g,out,h,hg,k0,k1,hb=>by
  obtain⟨h1,h2,h3,h4,h5,h6⟩:=h;obtain⟨gc,gl,gs⟩:=id hg;have hv:VE (d+1)=1+2*VE d:=rfl;rw[DJ];unfold sk bk bB bP cP eU bm jZ bT bW aI cS;refine aV (λy=>y.1=g/\QC nT ss t (VE (d+1)) out y.2) ?_ λx hx=>ak hx
  have fin:∀{y:z!},(y.1=g/\QC nT ss t 1 out y.2)->y.1=g/\QC nT ss t (VE (d+1)) out y.2:=λh=>⟨h.1,(QC.nil 0 out).trans h.2 (by omega)⟩
  refine aK (λ_=>?_) λn1=>?_
  .refine aw (HR (nT:=nT) (by omega) hg (goI (by decide) (by decide) (by simp[jD];omega) ((by decide:¬(1:Int)=3))) (by decide)) λy z=>bl (by simp) (ak (fin z))
  refine aK (λn2=>?_) λn2=>?_
  .refine aw (Bt _ _ (by dsimp only;rw[gl];decide)) λv hv=>eh (λg0=>?_) λg0=>?_
   .have A:=hv.2.1;dsimp only at A g0;rw[gl]at A;have A:v<2:=A;refine aw (HR (nT:=nT) (by omega) hg (goI (by decide) (by decide) (by simp[jD];omega) ((by decide:¬(2:Int)=3))) (by decide)) λy z=>bl (by simp) (ak (fin z))
   .have A:=hv.2.2.2 g0;dsimp only at A;rw[gl]at A;refine aw (Dq _ _ gc) λv N=>?_
    have v2:=N.1 (h5 n2) A;refine aw (HR (nT:=nT) (by omega) hg (goI (by decide) (by decide) (by simp[jD];omega) (v2)) (by decide)) λy z=>bl (by simp) (ak (fin z))
  have hl:=h2 n1 n2;have hrec:∀(j:Nat),j<l! e.l->∀(k':Int) (o:Y IT),0<=k'->k'+d<=31->l! o+VE d<=100000000->Ok (ju n ((geti (.ex) e.l (j:Int),k'),g,o)) λy=>y.1=g/\QC nT ss t (VE d) o y.2:=λj hj k' o q0 L ho=>RE n d (by omega) _ k' g o (h4 _ (bK (T:=.ex) (xs:=e.l) (j:=(j:Int)) (by omega) (by omega))) hg q0 L ho
  refine aK (λn3=>?_) λn3=>?_
  .refine bF (aT ?_);refine aw (hrec 0 hl k out k0 (by omega) (by omega)) λy z=>?_
   obtain⟨g2,o2⟩:=y;obtain⟨L,D⟩:=z;dsimp only at L D;subst L;have q3:=D.u;refine bl (by simp) ?_;refine aw (Dq _ _ gc) λv N=>?_
   have v3:=N.2 (h1 n3);have v3:v=3:=v3;subst v3;refine aR (by decide) (by dsimp only;rw[gc];decide) (aT ?_);refine aw (HR (nT:=nT) (by omega) hg (goI (by decide) (by decide) (by simp[jD];omega) (⟨rfl,by dsimp only;rw[gc];rfl⟩)) (by decide)) λy z=>bl (by simp) (ak ⟨z.1,D.trans z.2 (by omega)⟩)
  obtain⟨h7,h8,h9⟩:=h6 n1 n2 n3;refine aK (λn4=>?_) λn4=>?_
  .dsimp only[ay]at n4;omega
  .have hl2:1<l! e.l:=by omega
   refine bF (aT ?_);refine aw (hrec 0 hl k out k0 (by omega) (by omega)) λy z=>?_
   obtain⟨g2,o2⟩:=y;obtain⟨L,D⟩:=z;dsimp only at L D;subst L;have q3:=D.u;refine bl (by simp) ?_;refine bF (aT ?_);dsimp only;rw[iI (n:=k+1) (by omega) (by omega)];refine aw (hrec 1 hl2 _ o2 (by omega) (by omega) (by omega)) λy z=>?_
   obtain⟨g3,o3⟩:=y;obtain⟨r1,r2⟩:=z;dsimp only at r1 r2;subst r1;have r3:=r2.u;refine bl (by simp) ?_;refine aw (HR (nT:=nT) (by omega) hg (goI (by decide) (by decide) (by simp[jD];omega) (⟨h8,h9⟩)) (by decide)) λy z=>bl (by simp) (ak ⟨z.1,(D.trans r2 (bI _)).trans z.2 (by omega)⟩)
def YG (e:Xp) (k:Int) (g:GN) (out:Y IT) (he:GE 4 e) (A:GK ss t g) (z:0<=k) (k1:k<=27) (h:l! out<=99999900):Ok (ja ((e,k),g,out)) λy=>y.1=g/\QC nT ss t 15 out y.2:=RE fuel 4 (by rw[kR];omega) e k g out he A z (by omega) (by have:VE 4=15:=rfl;omega)
end
section
structure GB (nT:Nat) (g:GN):Prop where
 c:g.1=C0
 l:g.2.1=Km
 d:g.2.2.1=Px
 f:g.2.2.2.1=Ys
 t:g.2.2.2.2.1=zM.take nT
 h:g.2.2.2.2.2.2.1=L0
structure GQ (g y:GN):Prop where
 a:y.1=g.1
 b:y.2.1=g.2.1
 c:y.2.2.1=g.2.2.1
 d:y.2.2.2.1=g.2.2.2.1
 e:y.2.2.2.2.1=g.2.2.2.2.1
 h:y.2.2.2.2.2.2.1=g.2.2.2.2.2.2.1
def GQ.refl (g:GN):GQ g g:=⟨rfl,rfl,rfl,rfl,rfl,rfl⟩
def GQ.trans {a b c:GN} (h:GQ a b) (k:GQ b c):GQ a c:=⟨k.a.trans h.a,k.b.trans h.b,k.c.trans h.c,k.d.trans h.d,k.e.trans h.e,k.h.trans h.h⟩
variable {nT:Nat} {ss:Y π} {t:Int}
def GB.of {g y:GN} (h:GB nT g) (q:GQ g y):GB nT y:=⟨q.a.trans h.c,q.b.trans h.l,q.c.trans h.d,q.d.trans h.f,q.e.trans h.t,q.h.trans h.h⟩
def GQ.site (g:GN) (x:Y π) (a b:Int):GQ g (g.1,g.2.1,g.2.2.1,g.2.2.2.1,g.2.2.2.2.1,x,g.2.2.2.2.2.2.1,a,b):=⟨rfl,rfl,rfl,rfl,rfl,rfl⟩
abbrev gS (g:GN):Int:=g.2.2.2.2.2.2.2.1
abbrev gN (g:GN):Int:=g.2.2.2.2.2.2.2.2
structure QG (nT:Nat) (ss:List π) (t:Int) (n m:Nat) (g:GN) (out:List IT) (y:GN×List IT):Prop where
 q:GQ g y.1
 c:QC nT ss t n out y.2
 x:gN y.1=gN g+(m:Int)
def Ae {op:Int} {r:υ} {g:GN} {out:Y IT} (h:l! out<=100000000) (z:GB nT g) (A:SO ss t (gS g)) (hi:GO nT (op,r)) (D:¬op=5/\¬op=10):Ok (cQ ((op,r),g,out)) λy=>y.1=g/\QC nT ss t 1 out y.2:=HR h ⟨z.c,z.h,A⟩ hi D
def Ft (e:Xp) (k:Int) (g:GN) (out:Y IT) (he:GE 4 e) (z:GB nT g) (D:SO ss t (gS g)) (A:0<=k) (k1:k<=27) (h:l! out<=99999000):Ok (ja ((e,k),g,out)) λy=>y.1=g/\QC nT ss t 15 out y.2:=YG e k g out he ⟨z.c,z.h,D⟩ A k1 (by omega)
def GB.len {g:GN} (h:GB nT g):aS (aj g.2.2.2.2.2.2.1)=2:=by rw[h.h];rfl
def aaf (s:Sx) (g:GN) (out:Y IT) (h1:s.index≠[]->s.name=[113]) (h2:∀e∈s.index,GE 4 e) (h3:GE 4 s.expr) (h4:s.index=[]->s.name∈NV) (z:GB nT g) (hs:SO ss t (gS g)) (h:l! out<=99990000):Ok (mY (s,g,out)) λy=>y.1=g/\QC nT ss t 40 out y.2:=by
 have hex:GE 4 (eO (Xp.op s.expr,Xp.n s.expr,Xp.name s.expr,Xp.l s.expr)):=by exact h3
 have e3:bn .i64 ((2:Int)+1)=3:=iI (by decide) (by decide);unfold mY bk bB bP cP eU bV jZ bT bW bc;refine bQ (λL=>?_) λL=>?_
 .dsimp [ay]at L;refine bF (aT ?_);refine aw (Ft _ _ g out (h2 _ (bK (T:=.ex) (xs:=s.index) (j:=0) (by omega) (by omega))) z hs (by simp) (by rw[z.len];decide) (by omega)) λy A=>?_
  let⟨g2,o2⟩:=y;let⟨q1,D⟩:=A;dsimp only at q1 D;subst q1;have q3:=D.u;refine bl (by simp) ?_;rw[z.len,e3];refine aw (Ft _ _ g2 o2 hex z hs (by decide) (by decide) (by omega)) λy A=>?_
  let⟨g3,o3⟩:=y;let⟨r1,r2⟩:=A;dsimp only at r1 r2;subst r1;have r3:=r2.u;refine bl (by simp) ?_;refine aw (Dq _ _ z.c) λv hv=>?_
  have v3:=hv.2 (h1 (λh=>by rw[h]at L;simp at L));subst v3;refine aR (by decide) (by dsimp only;rw[z.c];decide) (aT ?_);refine aw (Ae (by omega) z hs (goI (by decide) (by decide) (by simp[jD,z.h,L0]) (⟨rfl,by dsimp only;rw[z.c];rfl⟩)) (by decide)) λy A=>bl (by simp) (ak ⟨A.1,(D.trans r2 (bI _)).trans A.2 (by omega)⟩)
 .have hi0:s.index=[]:=dH.1 (by grind);refine aw (Ft _ _ g out hex z hs (by simp) (by rw[z.len];decide) (by omega)) λy A=>?_
  let⟨g2,o2⟩:=y;let⟨q1,D⟩:=A;dsimp only at q1 D;subst q1;have q3:=D.u;refine bl (by simp) ?_;refine aw (Bt _ _ (by dsimp only;rw[z.h];decide)) λv hv=>eh (λL=>?_) λL=>?_
  .have N:=hv.2.1;rw[z.h]at N;have N:v<2:=N;refine aw (Ae (by omega) z hs (goI (by decide) (by decide) (by simp[jD,z.h,L0];omega) ((by decide:¬(2:Int)=3))) (by decide)) λy A=>bl (by simp) (ak ⟨A.1,D.trans A.2 (by omega)⟩)
  .have N:=hv.2.2.2 L;rw[z.h]at N;refine aw (Dq _ _ z.c) λv hv2=>?_
   have v2:=hv2.1 (h4 hi0) N;refine aw (Ae (by omega) z hs (goI (by decide) (by decide) (by simp[jD,z.h,L0]) (v2)) (by decide)) λy A=>bl (by simp) (ak ⟨A.1,D.trans A.2 (by omega)⟩)
def akg (s:ζ) (g:GN) (out:Y IT) (A:GB nT g):Ok (kj (s,g,out)) λy=>y.2=(g,out)/\(s=[99]->y.1=0):=by
 have hd:l! g.2.2.1=1:=by rw[A.d];rfl
 unfold kj bk bV bW bc c8 aI cS;refine bR 1 (λi x=>x.1=(i:Int)/\x.2=(g,out)/\(s=[99]->i=0)) ?_ ?_ ⟨rfl,rfl,λ_=>rfl⟩
 .rintro i ⟨a,x⟩ hi ⟨z,e2,D⟩;subst z e2;refine cU ?_;refine bF (aT ?_);refine aK (λ_=>ak ⟨rfl,λ_=>by dsimp only;omega⟩) λh=>ak ⟨fL,rfl,λL=>?_⟩
  refine (h ?_).elim;rw[A.d,show i=0 by omega,L];rfl
 .rintro⟨a,x⟩ ⟨z,e2,D⟩;subst z e2;exact cO (ak ⟨rfl,λh=>by have:=D h;omega⟩)
def ME:Nat->Nat
 |0=>0
 |d+1=>50+16*ME d
def SR (ss:Y π) (t a:Int) (m:Nat):Prop:=0<=a/\a+m<=1000/\∀i:Int,a<=i->i<a+m->SO ss t i
def SpG (nT:Nat) (ss:Y π) (t:Int) (z:Sx×z!->M z!) (d:Nat):Prop:=∀(s:Sx) (g:GN) (out:Y IT),GS nT d s->GB nT g->SR ss t (gN g) (UO d s)->l! out+ME d<=90000000->Ok (z (s,g,out)) (QG nT ss t (ME d) (UO d s) g out)
def alg (nT:Nat) (ss:Y π) (t:Int) (z:Y Sx×z!->M z!) (d:Nat):Prop:=∀(l:Y Sx) (g:GN) (out:Y IT),l! l<=100->(∀s∈l,GS nT d s)->GB nT g->SR ss t (gN g) (oJ d l)->l! out+l! l*ME d<=90000000->Ok (z (l,g,out)) (QG nT ss t (l! l*ME d) (oJ d l) g out)
end
section
abbrev FS6:Type:=Y Sx×z!->M z!
abbrev FT6:Type:=Sx×z!->M z!
abbrev FA6:Type:=(Sx×Int×Int×Int)×z!->M z!
variable {nT:Nat} {ss:Y π} {t:Int}
def au5 (nT:Nat) (ss:Y π) (t:Int) (z:FT6) (d:Nat):Prop:=∀(s:Sx) (g:GN) (out:Y IT),s.op=2\/s.op=3->GE 4 s.expr->l! s.body<=8->l! s.els<=8->(∀x∈s.body,GS nT d x)->(∀x∈s.els,GS nT d x)->(¬s.op=2->s.els=[])->GB nT g->SO ss t (gS g)->SR ss t (gN g) (oJ d s.body+oJ d s.els)->l! out+ME (d+1)<=90000000->Ok (z (s,g,out)) (QG nT ss t (17+16*ME d) (oJ d s.body+oJ d s.els) g out)
def au6 (nT:Nat) (ss:Y π) (t:Int) (z:FA6) (d:Nat):Prop:=∀(s:Sx) (a b c:Int) (g:GN) (out:Y IT),l! s.body<=8->(∀x∈s.body,GS nT d x)->GO nT (a,c,0,0,0,0)->GO nT (b,c,0,0,0,0)->¬a=5/\¬a=10->¬b=5/\¬b=10->GB nT g->SO ss t (gS g)->SR ss t (gN g) (oJ d s.body)->l! out+ME (d+1)<=90000000->Ok (z ((s,a,b,c),g,out)) (QG nT ss t (17+16*ME d) (oJ d s.body) g out)
def SR.sub {b:Int} {n:Nat} (h:SR ss t a i) (h1:a<=b) (z:b+n<=a+i):SR ss t b n:=⟨by have:=h.1;omega,by have:=h.2.1;omega,λm D A=>h.2.2 m (by omega) (by omega)⟩
def ZB (rs:FS6) (N:FT6) (rb:FT6) (ra:FA6) (d:Nat) (ht:SpG nT ss t N d):alg nT ss t (wz rs N rb ra) d:=by
 intro l g out hl hs hg hso hb;refine bR (l! l) (λi x=>x.1=(i:Int)/\QG nT ss t (i*ME d) (oJ d (l.take i)) g out x.2) ?_ ?_ ⟨rfl,GQ.refl g,QC.nil _ _,by simp[oJ]⟩
 .rintro i ⟨a,g2,o2⟩ hi ⟨L,A,z,q3⟩;dsimp only at L A z q3;subst L;have hK:(i+1)*ME d<=l! l*ME d:=cK _ (by omega);have hKs:=jF i (ME d);rw[Nat.succ_eq_add_one]at hKs;have hp:=Uo (d:=d) l (i+1);rw[zB hi]at hp;have q4:=z.u;refine cU ?_;refine bF (aT ?_);refine aw (ht _ g2 o2 (hs _ (bK (T:=.sm) (xs:=l) (j:=(i:Int)) (by omega) (by omega))) (hg.of A) (hso.sub (by omega) (by grind)) (by omega)) λy D=>bl (by simp) (ak ?_)
  rw[zB hi];exact⟨fL,A.trans D.q,z.trans D.c (by omega),by rw[D.x,q3];dsimp only;omega⟩
 .rintro⟨a,g2,o2⟩ ⟨L,q⟩;rw[cY]at q;exact cO (ak q)
def Wt (N:FS6) (rt:FT6) (rb:FT6) (ra:FA6) (d:Nat) (hS:alg nT ss t N d):au6 nT ss t (uS N rt rb ra) d:=by
 intro s a b c g out h1 h2 ga gb na nb D hs hso hb;have hm:ME (d+1)=50+16*ME d:=rfl;have kb:l! s.body*ME d<=8*ME d:=cK _ h1;refine aw (Ae (by omega) D hs ga na) λy z=>?_
 let⟨g2,o2⟩:=y;let⟨q1,A⟩:=z;dsimp only at q1 A;subst q1;have q3:=A.u;refine bl (by simp) ?_;refine aw (hS s.body g2 o2 (by omega) h2 D hso (by omega)) λy z=>?_
 let⟨L,o3⟩:=y;let⟨r1,r2,r3⟩:=z;have r4:=r2.u;refine bl (by simp) ?_;have qs:=r1.trans (GQ.site L L.2.2.2.2.2.1 g2.2.2.2.2.2.2.2.1 L.2.2.2.2.2.2.2.2);refine aw (Ae (by grind) (D.of qs) hs gb nb) λy z=>bl (by simp) (ak ⟨?_,?_,?_⟩)
 .rw[z.1];exact qs
 .exact (A.trans r2 (bI _)).trans z.2 (by omega)
 .rw[z.1];exact r3
def B7 {l:Y IT} {x:IT} (h:j<l! l):iA (cC l (j:Int) x) i=if i=j then x else iA l i:=Ni (T:=sJ) l j i x h
abbrev ptB (l:Y IT) (j:Nat) (b:Int):Y IT:=cC l (j:Int) ((iA l j).1,(iA l j).2.1,b,(iA l j).2.2.2.1,(iA l j).2.2.2.2.1,(iA l j).2.2.2.2.2)
abbrev ptA (l:Y IT) (j:Nat) (a:Int):Y IT:=cC l (j:Int) ((iA l j).1,a,(iA l j).2.2.1,(iA l j).2.2.2.1,(iA l j).2.2.2.2.1,(iA l j).2.2.2.2.2)
def GI.pb {i:IT} (h:GI nT ss t i) (h1:i.1=10):GI nT ss t (i.1,i.2.1,a,i.2.2.2.1,i.2.2.2.2.1,i.2.2.2.2.2):=by
 let⟨N,i2,L,D,A,z⟩:=i;subst h1;exact⟨⟨h.o.o1,h.o.o2,h.o.r,(by decide:¬(10:Int)=3)⟩,h.s⟩
def QC.cbr {out A o2 L:Y IT} {D:IT} (h1:QC nT ss t i out A) (h2:o2=A++[D]) (hb:GI nT ss t D) (h10:D.1=10) (h3:QC nT ss t j o2 L) (F:Y IT) (hl:l! L<=l! F) (hF:∀k:Nat,k<l! L->¬k=l! A->iA F k=iA L k) (hFb:∃b:Int,(0<=b/\b<=(l! F:Int))/\iA F (l! A)=(D.1,D.2.1,b,D.2.2.2.1,D.2.2.2.2.1,D.2.2.2.2.2)):(∀k:Nat,k<l! out->iA F k=iA out k)/\sF F (l! out) (l! A)/\(iA F (l! A)).1=10/\sF F (l! A+1) (l! L)/\(∀k:Nat,l! out<=k->k<l! L->GI nT ss t (iA F k))/\∀k:Nat,l! out<=k->k<l! L->(iA F k).1=10->0<=(iA F k).2.2.1/\(iA F k).2.2.1<=(l! F:Int):=by
 have l2:l! o2=l! A+1:=by grind
 have l1:=h1.l;have l3:=h3.l;have e1:∀k:Nat,k<l! A->iA F k=iA A k:=λk z=>by rw[hF k (by omega) (by omega),h3.p k (by omega),h2,MT z]
 let⟨b,hb0,eb⟩:=hFb;refine ⟨λk z=>(e1 k (by omega)).trans (h1.p k z),h1.b.congr λk _ z=>e1 k z,by rw[eb];exact h10,?_,λk g1 N=>?_,λk g1 N g3=>?_⟩
 .have:=h3.b;rw[l2]at this;exact this.congr λk g1 N=>hF k N (by omega)
 .rcases C1 k (l! A) with z|z|z
  .rw[e1 k z];exact h1.i k g1 z
  .rw[z,eb];exact hb.pb h10
  .rw[hF k N (by omega)];exact h3.i k (by omega) N
 .rcases C1 k (l! A) with z|z|z
  .rw[e1 k z]at g3 ⊢;have:=h1.r k g1 z g3;omega
  .rw[z,eb];exact hb0
  .rw[hF k N (by omega)]at g3 ⊢;have:=h3.r k (by omega) N g3;omega
def Qj (rs:FS6) (rt:FT6) (rb:FT6) (ra:FA6) (d:Nat) (hS:alg nT ss t rs d):au5 nT ss t (nS rs rt rb ra) d:=by
 intro s g out hop he h1 h2 h3 h4 hel hg hs hso hb;have hm:ME (d+1)=50+16*ME d:=rfl;have kb:l! s.body*ME d<=8*ME d:=cK _ h1;have ke:l! s.els*ME d<=8*ME d:=cK _ h2;have hex:GE 4 (eO (Xp.op s.expr,Xp.n s.expr,Xp.name s.expr,Xp.l s.expr)):=by rw[gg];exact he
 unfold nS bk bB bP cP eU kJ Lj ck bm bT bc;refine aw (Ft _ _ g out hex hg hs (by rw[hg.len];decide) (by rw[hg.len];decide) (by omega)) λy hy=>?_
 let⟨g1,o1⟩:=y;let⟨p1,p2⟩:=hy;dsimp only at p1 p2;subst p1;have p3:=p2.u;have p4:=p2.l;refine bl (by simp) ?_;refine aw (Mb _ g1 o1 (by omega)) λy hy=>?_
 let⟨D,o2⟩:=y;let⟨q1,q2⟩:=hy;dsimp only at q1 q2;subst q1;rw[hg.len]at q2;have hbr:GI nT ss t ((10,2,0,0,0,D.2.2.2.2.2.2.2.1):IT):=⟨goI (by decide) (by decide) (by simp[jD]) (by decide:¬(10:Int)=3),hs⟩
 have l2:l! o2=l! o1+1:=by rw[q2,bz];rfl
 refine bl (by simp) ?_;refine aw (hS s.body D o2 (by omega) h3 hg (hso.sub (dg _) (by omega)) (by omega)) λy hy=>?_
 let⟨g3,A⟩:=y;let⟨r1,r2,r3⟩:=hy;dsimp only at r1 r2 r3;have r4:=r2.u;have r5:=r2.l;have ebr:iA A (l! o1)=(10,2,0,0,0,D.2.2.2.2.2.2.2.1):=by rw[r2.p _ (by omega),q2,Aq]
 refine bl (by simp) ?_;have qs:=r1.trans (GQ.site g3 g3.2.2.2.2.2.1 D.2.2.2.2.2.2.2.1 g3.2.2.2.2.2.2.2.2);refine aK (λh3w=>?_) λh3w=>?_
 .have hels:oJ d s.els=0:=by rw[hel (by have h3w:s.op=3:=h3w;omega)];rfl
  rw[hels,dI];refine aw (Mb _ _ A (by omega)) λy hy=>?_
  let⟨g4,L⟩:=y;let⟨w1,w2⟩:=hy;dsimp only at w1 w2;have l4:l! L=l! A+1:=by rw[w2,bz];rfl
  refine bl (by simp) (aR (eD _) (by dsimp only[ay];omega) (aR (eD _) (by dsimp only[ay];omega) (ak ?_)));have hat:l! o1<l! L:=by omega
  have ej:iA L (l! A)=(5,(l! out:Int),0,0,0,D.2.2.2.2.2.2.2.1):=by rw[w2,Aq];rfl
  have e43:∀k:Nat,k<l! A->iA L k=iA A k:=λk N=>by rw[w2,MT N]
  refine ⟨by dsimp only;rw[w1];exact qs,?_,by dsimp only;rw[w1];exact r3⟩;dsimp only;have eF:∀{z:IT} {k:Nat},¬k=l! o1->iA (cC L ((l! o1:Nat):Int) z) k=iA L k:=λh=>by rw[B7 hat,ax h]
  let⟨f1,f2,f3,f4,f5,f6⟩:=p2.cbr q2 hbr rfl r2 (ptB L (l! o1) (aS (l! L))) (by rw[bX];omega) (λk N hn=>(eF hn).trans (e43 k N)) ⟨_,⟨eD _,by rw[bX];exact dg _⟩,by rw[B7 hat,aF rfl,e43 _ (by omega),ebr];rfl⟩;show QC nT ss t _ out (ptB L (l! o1) (aS (l! L)));have ejF:iA (ptB L (l! o1) (aS (l! L))) (l! A)=(5,(l! out:Int),0,0,0,D.2.2.2.2.2.2.2.1):=(eF (by omega:¬l! A=l! o1)).trans ej;refine ⟨by rw[bX];omega,by rw[bX];omega,f1,?_,λk g1 D=>?_,λk g1 D g3=>?_⟩
  .rw[(bX _ _ _).trans l4];exact f2.whl f3 f4 (by rw[ejF]) (by rw[ejF])
  .rw[bX,l4]at D;by_cases N:k<l! A
   .exact f5 k g1 N
   .rw[show k=l! A by omega,ejF];exact⟨goI (by decide) (by decide) (by simp[jD]) (by decide:¬(5:Int)=3),hs⟩
  .have g2':=D;rw[bX,l4]at g2';by_cases N:k<l! A
   .exact f6 k g1 N g3
   .rw[show k=l! A by omega,ejF]at g3;cases g3
 refine aK (λhz=>?_) λ_=>?_
 .have hels:oJ d s.els=0:=by rw[dH.1 (by dsimp only[ay]at hz;omega:l! s.els=0)];rfl
  rw[hels,dI];refine aR (eD _) (by dsimp only[ay];omega) (aR (eD _) (by dsimp only[ay];omega) (ak ⟨qs,?_,r3⟩));dsimp only;have hat:l! o1<l! A:=by omega
  let⟨f1,f2,f3,f4,f5,f6⟩:=p2.cbr q2 hbr rfl r2 (ptB A (l! o1) (aS (l! A))) (by rw[bX];omega) (λk N hn=>by rw[B7 hat,ax hn]) ⟨_,⟨eD _,by rw[bX];exact dg _⟩,by rw[B7 hat,aF rfl,ebr];rfl⟩;show QC nT ss t _ out (ptB A (l! o1) (aS (l! A)));refine ⟨by rw[bX];omega,by rw[bX];omega,f1,?_,λk g1 D=>?_,λk g1 D g3=>?_⟩
  .rw[bX];exact (f2.app (sF.one (by rw[f3];decide))).app f4
  .rw[bX]at D;exact f5 k g1 D
  .exact f6 k g1 (by rw[bX]at D;exact D) g3
 .refine aw (Mb _ _ A (by omega)) λy hy=>?_
  let⟨g4,L⟩:=y;let⟨w1,w2⟩:=hy;dsimp only at w1 w2;have l4:l! L=l! A+1:=by rw[w2,bz];rfl
  have qs4:GQ D g4:=by rw[w1];exact qs
  have x4:gN g4=gN D+(oJ d s.body:Nat):=by rw[w1];exact r3
  have hat:l! o1<l! L:=by omega
  have ej:iA L (l! A)=(5,0,0,0,0,D.2.2.2.2.2.2.2.1):=by rw[w2,Aq]
  have e43:∀k:Nat,k<l! A->iA L k=iA A k:=λk N=>by rw[w2,MT N]
  refine bl (by simp) (aR (eD _) (by dsimp only[ay];omega) (aR (eD _) (by dsimp only[ay];omega) ?_));have eF:∀{z:IT} {k:Nat},¬k=l! o1->iA (cC L ((l! o1:Nat):Int) z) k=iA L k:=λh=>by rw[B7 hat,ax h]
  refine aw (hS s.els g4 (ptB L (l! o1) (aS (l! L))) (by omega) h4 (hg.of qs4) (hso.sub (by rw[x4];omega) (by rw[x4];omega)) (by rw[bX];omega)) λy hy=>?_
  let⟨g5,o5⟩:=y;let⟨z1,z2,z3⟩:=hy;dsimp only at z1 z2 z3;have z4:=z2.l;have z5:=z2.u;have zp:=z2.p;have zb:=z2.b;have zi:=z2.i;have zr:=z2.r;rw[bX]at z4 z5 zp zb zi zr;have hj5:l! A<l! o5:=by omega
  refine bl (by simp) (aR (eD _) (by dsimp only[ay];omega) (aR (eD _) (by dsimp only[ay];omega) (ak ⟨qs4.trans z1,?_,by dsimp only;rw[z3,x4];omega⟩)));dsimp only;show QC nT ss t _ out (ptA o5 (l! A) (aS (l! o5)));have eG:∀{z:IT} {k:Nat},¬k=l! A->iA (cC o5 ((l! A:Nat):Int) z) k=iA o5 k:=λh=>by rw[B7 hj5,ax h]
  have ej5:iA o5 (l! A)=(5,0,0,0,0,D.2.2.2.2.2.2.2.1):=by rw[zp _ (by omega),eF (by omega),ej]
  let⟨f1,f2,f3,f4,f5,f6⟩:=p2.cbr q2 hbr rfl r2 (ptA o5 (l! A) (aS (l! o5))) (by rw[bX];omega) (λk N hn=>by rw[eG (by omega),zp k (by omega),eF hn,e43 k N]) ⟨aS (l! L),⟨eD _,by rw[bX];dsimp only[ay];omega⟩,by rw[eG (by omega),zp _ (by omega),B7 hat,aF rfl,e43 _ (by omega),ebr]⟩;have ejF:iA (ptA o5 (l! A) (aS (l! o5))) (l! A)=(5,aS (l! o5),0,0,0,D.2.2.2.2.2.2.2.1):=by rw[B7 hj5,aF rfl,ej5]
  refine ⟨by rw[bX];omega,by rw[bX];omega,f1,?_,λk g1 D=>?_,λk g1 D g3=>?_⟩
  .rw[bX];refine ((f2.app (sF.one (by rw[f3];decide))).app f4).ite (by rw[ejF]) (by rw[ejF];rfl) ?_;rw[l4]at zb;exact zb.congr λk g1 D=>eG (by omega)
  .rw[bX]at D;rcases C1 k (l! A) with N|N|N
   .exact f5 k g1 N
   .rw[N,ejF];exact⟨goI (by decide) (by decide) (by simp[jD]) (by decide:¬(5:Int)=3),hs⟩
   .rw[eG (by omega)];exact zi k (by omega) D
  .have g2':=D;rw[bX]at g2';rcases C1 k (l! A) with N|N|N
   .exact f6 k g1 N g3
   .rw[N,ejF]at g3;cases g3
   .rw[eG (by omega)]at g3 ⊢;rw[bX];exact zr k (by omega) g2' g3
def af4 (rs:FS6) (rt:FT6) (rb:FT6) (ra:FA6) (d:Nat) (hB:au5 nT ss t rb d) (hA:au6 nT ss t ra d):SpG nT ss t (tO rs rt rb ra) (d+1):=by
 intro s g out hs hg hso hb;have hm:ME (d+1)=50+16*ME d:=rfl;let⟨i1,i2,i3,i4,i5,i6,i7,i8,i9,N⟩:=hs;have hcn:UO (d+1) s=1+oJ d s.body+oJ d s.els:=rfl;rw[hcn]at hso ⊢;let⟨so0,so1,so2⟩:=id hso;have so0:0<=g.2.2.2.2.2.2.2.2:=so0;have so1:g.2.2.2.2.2.2.2.2+((1+oJ d s.body+oJ d s.els:Nat):Int)<=1000:=so1;have ew:bn .i64 (g.2.2.2.2.2.2.2.2+1)=g.2.2.2.2.2.2.2.2+1:=iI;have gs:=GQ.site g g.2.2.2.2.2.1 g.2.2.2.2.2.2.2.2 (bn .i64 (g.2.2.2.2.2.2.2.2+1));unfold tO bk bB bP cP eU c_ Lj bm bT bc aI cS eT;refine aV (λx=>QG nT ss t (ME (d+1)) (1+oJ d s.body+oJ d s.els) g out x) ?_ λx hx=>ak hx
 dsimp only;have hs1:SO ss t (gS ((g.1,g.2.1,g.2.2.1,g.2.2.2.1,g.2.2.2.2.1,g.2.2.2.2.2.1,g.2.2.2.2.2.2.1,g.2.2.2.2.2.2.2.2,bn .i64 (g.2.2.2.2.2.2.2.2+1)):GN)):=so2 _ (dg _) (by show g.2.2.2.2.2.2.2.2<g.2.2.2.2.2.2.2.2+((1+oJ d s.body+oJ d s.els:Nat):Int);omega);have hn1:gN ((g.1,g.2.1,g.2.2.1,g.2.2.2.1,g.2.2.2.2.1,g.2.2.2.2.2.1,g.2.2.2.2.2.2.1,g.2.2.2.2.2.2.2.2,bn .i64 (g.2.2.2.2.2.2.2.2+1)):GN)=gN g+1:=ew;revert gs hs1 hn1;generalize ((g.1,g.2.1,g.2.2.1,g.2.2.2.1,g.2.2.2.2.1,g.2.2.2.2.2.1,g.2.2.2.2.2.2.1,g.2.2.2.2.2.2.2.2,bn .i64 (g.2.2.2.2.2.2.2.2+1)):GN)=L;intro gs hs1 hn1;have D:=hg.of gs;have hso1:=hso.sub (b:=gN L) (n:=oJ d s.body+oJ d s.els) (by rw[hn1];omega) (by rw[hn1];omega);have fin:∀(n m:Nat) (y:z!),QG nT ss t n m L out y->n<=ME (d+1)->m=oJ d s.body+oJ d s.els->QG nT ss t (ME (d+1)) (1+oJ d s.body+oJ d s.els) g out y:=λn m y A hn hm=>⟨gs.trans A.q,(QC.nil 0 out).trans A.c (by omega),by rw[A.x,hn1];omega⟩
 have fin0:s.op=1\/9<=s.op->∀(n:Nat) (y:z!),y.1=L/\QC nT ss t n out y.2->n<=ME (d+1)->QG nT ss t (ME (d+1)) (1+oJ d s.body+oJ d s.els) g out y:=λz n y A hn=>fin n 0 y ⟨by rw[A.1];exact GQ.refl L,A.2,by rw[A.1];simp⟩ hn (by rw[N.bo z,N.el (by omega)];rfl)
 refine aK (λz=>?_) λ_=>?_
 .refine aw (aaf (oY _) L out ?_ ?_ ?_ ?_ D hs1 (by omega)) λy A=>bl (by simp) (ak (fin0 (.inl z) _ _ A (by omega)))
  .rw[AY];exact i1
  .rw[AY];exact i3
  .rw[AY];exact i4 (.inl z)
  .rw[AY];exact N.vr z
 refine aV (λx=>x.2=(L,s,out)/\(x.1=J↔s.op=2\/s.op=3)) ?_ ?_
 .exact aK (λh=>ak ⟨by dsimp only;rw[AY],λ_=>.inl h,λ_=>a8 h⟩) λh=>ak ⟨by dsimp only;rw[AY],λh2=>.inr (bJ h2),λh2=>a8 (h2.resolve_left h)⟩
 rintro⟨b,x⟩ ⟨e,hb2⟩;dsimp only at e hb2;subst e;refine aQ (λhb3=>?_) λhbf=>?_
 .dsimp only;rw[AY];refine aw (hB s L out (hb2.1 hb3) (i4 (by rcases hb2.1 hb3 with h|h;exact .inr (.inl h);exact .inr (.inr (.inl h)))) i6 i7 i8 i9 N.el D hs1 hso1 hb) λy A=>bl (by simp) (ak (fin _ _ _ A (by omega) rfl))
 have har:∀(a b c:Int),4<=s.op->GO nT (a,c,0,0,0,0)->GO nT (b,c,0,0,0,0)->¬a=5/\¬a=10->¬b=5/\¬b=10->Ok (ra ((s,a,b,c),L,out)) λy=>QG nT ss t (ME (d+1)) (1+oJ d s.body+oJ d s.els) g out y:=λa b c h4 ga gb na nb=>(hA s a b c L out i6 i8 ga gb na nb D hs1 (hso1.sub (dg _) (by omega)) hb).mono λy A=>fin _ _ _ A (by omega) (by rw[N.el (by omega)];rfl)
 have hput:∀{op:Int} {r:υ},9<=s.op->GO nT (op,r)->¬op=5/\¬op=10->Ok (cQ ((op,r),L,out)) (QG nT ss t (ME (d+1)) (1+oJ d s.body+oJ d s.els) g out):=λh9 hi h5=>(Ae (by omega) D hs1 hi h5).mono λy A=>fin0 (.inr h9) _ _ A (by omega)
 have hlk:∀n:ζ,Ok (mr (L.2.1,n)) λr=>(n=[109]->r=0)/\(n=[110]->r=1)/\(n=[114]->r=2):=λn=>(Rz L.2.1 n (by rw[D.l];decide)).mono λr h=>aqt (by rw[D.l]at h;exact h)
 have hcond:∀(n:ζ),Ok (kj (n,L,out)) λy=>y.2=(L,out)/\(n=[99]->y.1=0):=λn=>akg n L out D
 have hth:Ok (j8 (L.2.2.2.2.1,s.name)) λr=>s.op=12\/s.op=13->0<=r/\r<(nT:Int):=(Bt L.2.2.2.2.1 s.name (by rw[D.t,cL];have q4:zM.length=4:=rfl;omega)).mono λr hr z=>by
  have hn:=N.sp z;have hl:l! (zM.take nT)<=nT:=yl ..;let⟨_,h2,_,h4⟩:=hr;rw[D.t]at h2 h4;exact⟨AU.1 λh=>h4 h hn,by omega⟩
 have hft:∀n:ζ,Ok (j8 (L.2.2.2.1,n)) λr=>n=[102]->r=0:=λn=>(Bt L.2.2.2.1 n (by rw[D.f];decide)).mono λr hr hn=>by
  let⟨h1,h2,_,h4⟩:=hr;rw[D.f]at h2 h4;have h2:r<1:=h2;have:¬r<0:=λh=>h4 h (by rw[hn];decide)
  omega
 dsimp only;rw[AY];have gor:∀{a c:Int},1<=a->a<=27->jD (a,c,0,0,0,0)=[]->OB nT (a,c,0,0,0,0)->GO nT (a,c,0,0,0,0):=λh1 h2 h3 h4=>⟨h1,h2,by rw[h3];exact λj hj=>(by cases hj),h4⟩
 refine aK (λz=>aw (hlk _) λv hv=>aw (har _ _ _ (by have z:s.op=4:=z;omega) (gor (by decide) (by decide) rfl ?_) (gor (by decide) (by decide) rfl ?_) (by decide) (by decide)) λy A=>bl (by simp) (ak A)) λ_=>?_
 .exact (N.lk z).imp hv.1 hv.2.1
 .exact (N.lk z).imp hv.1 hv.2.1
 refine aK (λz=>aw (hlk _) λv hv=>aw (har _ _ _ (by have z:s.op=5:=z;omega) (gor (by decide) (by decide) rfl ?_) (gor (by decide) (by decide) rfl ?_) (by decide) (by decide)) λy A=>bl (by simp) (ak A)) λ_=>?_
 .exact hv.2.2 (N.rw (.inl z))
 .exact hv.2.2 (N.rw (.inl z))
 refine aK (λz=>aw (hlk _) λv hv=>aw (har _ _ _ (by have z:s.op=6:=z;omega) (gor (by decide) (by decide) rfl ?_) (gor (by decide) (by decide) rfl ?_) (by decide) (by decide)) λy A=>bl (by simp) (ak A)) λ_=>?_
 .exact hv.2.2 (N.rw (.inr z))
 .exact hv.2.2 (N.rw (.inr z))
 refine aK (λz=>aw (har _ _ _ (by have z:s.op=7:=z;omega) (gor (by decide) (by decide) rfl (by decide:¬(17:Int)=3)) (gor (by decide) (by decide) rfl (by decide:¬(18:Int)=3)) (by decide) (by decide)) λy A=>bl (by simp) (ak A)) λ_=>?_
 refine aK (λz=>aw (har _ _ _ (by have z:s.op=8:=z;omega) (gor (by decide) (by decide) rfl (by decide:¬(19:Int)=3)) (gor (by decide) (by decide) rfl (by decide:¬(20:Int)=3)) (by decide) (by decide)) λy A=>bl (by simp) (ak A)) λ_=>?_
 refine aK (λz=>aw (hcond _) λy A=>?_) λ_=>?_
 .obtain⟨v,y2⟩:=y;let⟨y3,y4⟩:=A;dsimp only at y3;subst y3;exact bl (by simp) (aw (hput (by have z:s.op=9:=z;omega) (gor (by decide) (by decide) rfl (y4 (N.cn (.inl z)))) (by decide)) λy A=>bl (by simp) (ak A))
 refine aK (λz=>aw (hcond _) λy A=>?_) λ_=>?_
 .obtain⟨v,y2⟩:=y;let⟨y3,y4⟩:=A;dsimp only at y3;subst y3;exact bl (by simp) (aw (hput (by have z:s.op=10:=z;omega) (gor (by decide) (by decide) rfl (y4 (N.cn (.inr (.inl z))))) (by decide)) λy A=>bl (by simp) (ak A))
 refine aK (λz=>aw (hcond _) λy A=>?_) λ_=>?_
 .obtain⟨v,y2⟩:=y;let⟨y3,y4⟩:=A;dsimp only at y3;subst y3;exact bl (by simp) (aw (hput (by have z:s.op=11:=z;omega) (gor (by decide) (by decide) rfl (y4 (N.cn (.inr (.inr z))))) (by decide)) λy A=>bl (by simp) (ak A))
 refine aK (λz=>aw hth λv hv=>aw (hput (by have z:s.op=12:=z;omega) (gor (by decide) (by decide) rfl (hv (.inl z))) (by decide)) λy A=>bl (by simp) (ak A)) λ_=>?_
 refine aK (λz=>aw hth λv hv=>aw (hput (by have z:s.op=13:=z;omega) (gor (by decide) (by decide) rfl (hv (.inr z))) (by decide)) λy A=>bl (by simp) (ak A)) λ_=>?_
 refine aK (λz=>?_) λn14=>?_
 .have hex:GE 4 (eO (Xp.op s.expr,Xp.n s.expr,Xp.name s.expr,Xp.l s.expr)):=by rw[gg];exact i4 (.inr (.inr (.inr z)))
  refine aw (Ft _ _ L out hex D hs1 (by rw[hg.len];decide) (by rw[hg.len];decide) (by omega)) λy A=>?_
  let⟨g2,o2⟩:=y;let⟨q1,q2⟩:=A;dsimp only at q1 q2;subst q1;have q3:=q2.u;refine bl (by simp) (aw (hft _) λv hv=>?_);refine aw (Ae (by omega) D hs1 (goI (by decide) (by decide) (by simp[jD,hg.h,L0]) (hv (N.se z))) (by decide)) λy A=>bl (by simp) (ak (fin0 (.inr (by have z:s.op=14:=z;omega)) 16 _ ⟨A.1,q2.trans A.2 (bI _)⟩ (by omega)))
 refine aK (λz=>?_) λn15=>?_
 .refine aw (Bt _ _ (by rw[D.h];decide)) λv hv=>aw (hft _) λv2 hv2=>?_
  have hge:=N.ge z;have hl:(0:Int)<=v/\v<2:=by
   let⟨_,h2,_,h4⟩:=hv;rw[D.h]at h2 h4;exact⟨AU.1 λh=>h4 h (by rw[hge.1];decide),h2⟩
  exact aw (hput (by have z:s.op=15:=z;omega) (goI (by decide) (by decide) (by simp[jD];omega) (hv2 hge.2)) (by decide)) λy A=>bl (by simp) (ak A)
 .exfalso;have h1:=N.o0;have h2:=N.o1;have h3:¬(s.op=2\/s.op=3):=λh=>by have hbf:b=af:=hbf;rw[hb2.2 h]at hbf;cases hbf
  omega
end
section
variable {nT:Nat} {ss:Y π} {t:Int}
def acl:∀(n:Nat),(∀d:Nat,3*d<n->SpG nT ss t (ft n) d)/\(∀d:Nat,3*d+1<n->alg nT ss t (ec n) d)/\(∀d:Nat,3*d+2<n->au5 nT ss t (dx n) d)/\(∀d:Nat,3*d+2<n->au6 nT ss t (dX n) d)
 |0=>⟨λd h=>by omega,λd h=>by omega,λd h=>by omega,λd h=>by omega⟩
 |n+1=>by
  let⟨D,z,L,hA⟩:=acl n;refine ⟨λd h=>?_,λd h=>?_,λd h=>?_,λd h=>?_⟩
  .cases d with
   |zero=>exact λs g out A=>A.elim
   |succ d=>exact af4 (ec n) (ft n) (dx n) (dX n) d (L d (by omega)) (hA d (by omega))
  .exact ZB (ec n) (ft n) (dx n) (dX n) d (D d (by omega))
  .exact Qj (ec n) (ft n) (dx n) (dX n) d (z d (by omega))
  .exact Wt (ec n) (ft n) (dx n) (dX n) d (z d (by omega))
def TU (d:Nat) (hd:d<=100):alg nT ss t wd d:=(acl fuel).2.1 d (by rw[kR];omega)
structure SL (t k:Int) (m:Nat) (S:List π):Prop where
 l:l! S=m
 v:∀i:Nat,i<m->(geti pW S (i:Int)).1=t/\(geti pW S (i:Int)).2.1=k+i
variable {T:Ty}
def Nk {l m:Y T.den} (h:i<l! l):geti _ (l++m) (i:Int)=geti _ l (i:Int):=by
 rw[uT,uT,aE,aE,bU h]
def Nj {l m:Y T.den} (h:l! l<=i):geti _ (l++m) (i:Int)=geti _ m ((i-l! l:Nat):Int):=by
 rw[uT,uT,aE,aE,cm h]
def SL.nil (t k:Int):SL t k 0 []:=⟨rfl,λi h=>by omega⟩
def SL.one (t k z:Int):SL t k 1 [(t,k,z)]:=⟨rfl,λi h=>by rw[show i=0 by omega];exact⟨rfl,by show k=k+((0:Nat):Int);omega⟩⟩
def SL.app {z:Int} {k:Nat} {S S':Y π} (h:SL t a k S) (h':SL t z i S') (L:z=a+k):SL t a (k+i) (S++S'):=by
 let⟨h1,D⟩:=h;let⟨h3,N⟩:=h';refine ⟨by rw[bz];omega,λb hi=>?_⟩;by_cases A:b<l! S
 .rw[Nk (T:=pW) A];exact D b (by omega)
 .rw[Nj (T:=pW) (by omega)]
  grind
def Iq:∀(n d:Nat),d<n->∀(t k:Int) (l:Y Sx) (out:Y π),l! l<=100->(∀s∈l,GT d s)->0<=k->k+oJ d l<=100000000->l! out+oJ d l<=100000000->Ok (qQ n ((t,k,l),out)) λy=>y.1=k+oJ d l/\∃S,y.2=out++S/\SL t k (oJ d l) S
 |0,_,h,_,_,_,_,_,_,_,_,_=>by omega
 |n+1,d,hn,t,k,l,out,hl,hs,k0,hkb,hb=>by
  rw[KK];unfold Au bV kO bT bc c8 aI cS;refine bR (l! l) (λi x=>x.1.2=(i:Int)/\x.1.1=k+oJ d (l.take i)/\∃S,x.2=out++S/\SL t k (oJ d (l.take i)) S) ?_ ?_ ⟨rfl,by simp[oJ],[],by simp,by simp[oJ];exact SL.nil t k⟩
  .rintro i ⟨⟨a,b⟩,o⟩ hi ⟨D,e2,S,z,N⟩;subst D e2 z;have hp:=Uo (d:=d) l (i+1);rw[zB hi]at hp;rw[zB hi];refine cU ?_;have hin:((i:Nat):Int)<(l! l:Int):=by omega
   have hm:=hs _ (bK (T:=.sm) (xs:=l) (j:=(i:Int)) (by omega) (by omega));have hSl:=N.l;cases d with
   |zero=>exact hm.elim
   |succ d=>
    let⟨_,_,_,g4,g5,g6,g7⟩:=hm;have hc:UO (d+1) (geti (.sm) l (i:Int))=1+oJ d (Sx.body (geti (.sm) l (i:Int)))+oJ d (Sx.els (geti (.sm) l (i:Int))):=rfl;rw[hc]at hp ⊢;dsimp only;refine aR (by omega) hin (aT (bG (by grind) (by omega) (aR (by omega) hin (aT ?_))));rw[iI (n:=k+(oJ (d+1) (l.take i):Nat)+1) (by omega) (by omega)];refine aw (Iq n d (by omega) _ _ _ _ (by omega) g6 (by omega) (by omega) (by grind)) λy A=>bl (by simp) ?_
    let⟨a2,o2⟩:=y;let⟨y1,S2,y2,L⟩:=A;subst y1 y2;have hSl2:=L.l;refine aR (by omega) hin (aT ?_);refine aw (Iq n d (by omega) _ _ _ _ (by omega) g7 (by omega) (by omega) (by grind)) λy A=>bl (by simp) (ak ?_)
    let⟨a3,o3⟩:=y;let⟨z1,S3,z2,z3⟩:=A;subst z1 z2;refine ⟨fL,by dsimp only;omega,S++([_]++(S2++S3)),by simp[iV];rfl,?_⟩;refine N.app ?_ rfl;rw[uH];exact (SL.one t _ _).app (L.app z3 rfl) (by simp)
  .rintro⟨⟨a,b⟩,o⟩ ⟨D,e2,z⟩;subst D e2;rw[cY]at z ⊢;exact cO (ak ⟨rfl,z⟩)
def ab7 {A D k:Int} {l S:Y π} (h:Ps a l=Z (A,D)) (L:SL t k i S) (hk:(A=t/\D=k)\/(A<t/\t<a/\k=0)):∀m:Nat,m<=i->Ps a (l++S.take m)=Z (if m=0 then (A,D) else (t,k+m))
 |0,_=>by grind
 |m+1,hi=>by
  have N:=ab7 h L hk m (by omega);rw[pL (T:=pW) (xs:=S) (i:=m) (by rw[L.l];omega),<-iV,ab9,N];let⟨v1,v2⟩:=L.v m (by omega);by_cases z:m=0
  .subst z;unfold Yv
   grind
  .rw[ax z];unfold Yv
   grind
end
abbrev CE6:Type:=ζ×s?
abbrev W4T:Type:=Y CE6×Y (ζ×Bool)×Y (ζ×Int)×Y ζ
def ceD (z:DT):Y CE6:=(dG (aN (m7 z.2.2.2.1 1))).map λ(k:Nat)=>(z.2.2.1,(k:Int),z.2.2.2.1,decide (z.1=2),z.2.2.2.2.1)
def adD (y:W4T) (z:DT):W4T:=
 if z.1=1\/z.1=2 then (y.1++ceD z,y.2) else if z.1=3\/z.1=4 then (y.1,y.2.1++[(z.2.2.1,decide (z.1=4))],y.2.2) else if z.1=5 then (y.1,y.2.1,y.2.2.1++[(z.2.2.1,0)],y.2.2.2) else (y.1,y.2.1,y.2.2.1,y.2.2.2++[z.2.2.1])
def W4 (i:Nat):W4T:=(D0.take i).foldl adD ([],[],[],[])
def W4_9:W4 9=(C0,Km,Px,Ys):=rfl
def W4_s (hi:i<9):W4 (i+1)=adD (W4 i) (geti Kn D0 (i:Int)):=by
 unfold W4;rw[pL (T:=Kn) (xs:=D0) hi,eZ];rfl
def D0_c:∀i:Nat,i<9->(geti Kn D0 (i:Int)).1=5->i=7:=by decide
def axh:∀i:Nat,i<9->(W4 i).1.length<=5/\(W4 i).2.1.length<=3/\(W4 i).2.2.1.length<=1/\(W4 i).2.2.2.length<=1/\m7 (geti Kn D0 (i:Int)).2.2.2.1 1<=2/\1<=m7 (geti Kn D0 (i:Int)).2.2.2.1 1:=by decide
def bsN (p:PG) (i:Nat):Nat:=((p.2.take i).map λt=>oJ 5 t.2.2.2).sum
def boN (p:PG) (i:Nat):Nat:=oJ 5 (geti uY p.2 (i:Int)).2.2.2
def ar6 {p:PG} (hi:i<l! p.2):bsN p (i+1)=bsN p i+boN p i:=by
 unfold bsN boN;rw[pL (T:=uY) hi,cr,I6];simp
def aab {p:PG} (i:Nat) (h:(p.2.map λt=>oJ 5 t.2.2.2).sum<=60):bsN p i<=60:=by
 refine dc ?_ h
 conv=>rhs;rw[<- EG i p.2]
 unfold bsN;rw[cr,I6];omega
structure SW (p:PG) (i:Nat) (S:List π):Prop where
 l:l! S=bsN p i
 f:∃a b,Ps (l! p.2) S=Z (a,b)/\(a<i\/a=0/\b=0)
 s:∀j:Nat,j<i->SR S (j:Int) (bsN p j:Nat) (boN p j)
structure WW (p:PG) (w:WT):Prop where
 x:WX w
 t:w.2.2.2.2.1=zM.take (l! p.2)
 s:∀j:Nat,j<l! p.2->SR w.2.2.2.2.2 (j:Int) (bsN p j:Nat) (boN p j)
def SO.app {S S':Y π} {t:Int} (h:SO S t a):SO (S++S') t a:=by
 let⟨h0,h1,z⟩:=h;obtain⟨a,rfl⟩:∃n:Nat,a=(n:Int):=⟨a.toNat,by omega⟩
 exact⟨h0,by rw[bz];omega,by rw[Nk (T:=pW) (by omega)];exact z⟩
def aaj (p:PG) (hp:PJ p) (r:ν) (hr:gf p=Z r) (h0:r.1=0) (hc:(p.2.map λt=>oJ 5 t.2.2.2).sum<=60):Ok (wg p) (WW p):=by
 have hpt:=hp.t;unfold wg bk bB bP cP eU c_ dQ ef iF xa bm bV jY bT bW bc c8 aI cS;refine aX hr (cj (λh=>(h h0).elim) λ_=>?_);have hD:p.1=D0:=hp.d;have hlen:l! p.1=9:=by rw[hD];rfl
 refine bR 9 (λi x=>x.1=(i:Int)/\x.2.1=p/\x.2.2=W4 i) ?_ ?_ ⟨rfl,rfl,rfl⟩
 .rintro i ⟨a,p',y⟩ hi ⟨N,e2,e3⟩;dsimp only at N e2 e3;subst N;have e2:=e2.symm;subst e2;let⟨b1,b2,b3,b4,b5,b6⟩:=axh i hi;rw[<- e3]at b1 b2 b3 b4;have hW:=W4_s hi;rw[<- e3]at hW;have hcd:=D0_c i hi;have hlk:i=7->y.2.1=Km/\(geti Kn D0 (i:Int)).2.2.2.2.2=[109]:=λh=>by subst h;rw[e3];exact⟨rfl,rfl⟩
  refine cU ?_;refine bF (aT ?_);dsimp only;rw[hD];revert hW hcd hlk b5 b6;generalize (geti Kn D0 (i:Int))=z;intro b5 b6 hW hcd hlk;refine aV (λx=>x=(p,W4 (i+1))) ?_ ?_
  .rw[hW];unfold adD;refine aV (λx=>x.2=(p,z,y)/\(x.1=J↔(z.1=1\/z.1=2))) ?_ ?_
   .exact aK (λh=>ak ⟨rfl,λ_=>.inl h,λ_=>a8 h⟩) λh=>ak ⟨rfl,λA=>.inr (bJ A),λA=>a8 (A.resolve_left h)⟩
   rintro⟨b,x⟩ ⟨e,hb⟩;dsimp only at e hb;subst e;refine aQ (λD=>?_) λD=>?_
   .rw[aF (hb.1 D)];unfold ceD;obtain⟨m,hm⟩:∃m:Nat,m7 z.2.2.2.1 1=(m:Int):=⟨(m7 z.2.2.2.1 1).toNat,by omega⟩
    rw[hm,be];refine bR m (λk x=>x=((k:Int),p,z,y.1++(dG k).map (λ(k:Nat)=>(z.2.2.1,(k:Int),z.2.2.2.1,decide (z.1=2),z.2.2.2.2.1)),y.2)) ?_ ?_ (by simp)
    .rintro k x hk rfl;refine bQ (λ_=>?_) λg=>(by dsimp only at g;rw[hm]at g;omega)
     refine a! (ak ?_);dsimp only;rw[fL,List.range_succ,cr,<-iV];rfl
    .rintro x rfl;exact bQ (λg=>(by dsimp only at g;rw[hm]at g;omega)) λ_=>ak rfl
   rw[ax λh=>by have D:b=af:=D;rw[hb.2 h]at D;cases D];refine aV (λx=>x.2=(p,z,y)/\(x.1=J↔(z.1=3\/z.1=4))) ?_ ?_
   .exact aK (λh=>ak ⟨rfl,λ_=>.inl h,λ_=>a8 h⟩) λh=>ak ⟨rfl,λA=>.inr (bJ A),λA=>a8 (A.resolve_left h)⟩
   rintro⟨c,x⟩ ⟨e,hc2⟩;dsimp only at e hc2;subst e;refine aQ (λh=>?_) λh=>?_
   .rw[aF (hc2.1 h)];exact a! (ak rfl)
   rw[ax λA=>by have h:c=af:=h;rw[hc2.2 A]at h;cases h];refine aK (λh5=>?_) λh5=>?_
   .obtain⟨l1,l2⟩:=hlk (hcd h5);rw[aF h5];refine aw (Rz _ _ (by dsimp only;rw[l1];decide)) λv hv=>?_
    have hv:=(aqt (by dsimp only at hv;rw[l1]at hv;exact hv)).1 l2;subst hv;exact a! (ak rfl)
   .rw[ax h5];exact a! (ak rfl)
  rintro x rfl;exact ak ⟨fL,rfl,rfl⟩
 .rintro⟨a,p',y⟩ ⟨N,e2,j⟩;dsimp only at N e2 j;subst N;have e2:=e2.symm;subst e2;rw[W4_9]at j;subst j;refine cO ?_;refine aw (P:=WW p) ?_ λr hr=>ak hr
  refine bR (l! p.2) (λi x=>x.1=(i:Int)/\x.2.1=p/\x.2.2.1=C0/\x.2.2.2.1=Km/\x.2.2.2.2.1=Px/\x.2.2.2.2.2.1=Ys/\x.2.2.2.2.2.2.1=zM.take i/\SW p i x.2.2.2.2.2.2.2) ?_ ?_ ⟨rfl,rfl,rfl,rfl,rfl,rfl,rfl,rfl,⟨0,0,rfl,.inr ⟨rfl,rfl⟩⟩,λj hj=>by omega⟩
  .rintro i ⟨a,p2,c2,l2,d2,f2,t2,s2⟩ hi ⟨N,e2,e3,e4,e5,e6,e7,hl8,⟨fa,fb,f8,f9⟩,L⟩;dsimp only at N e2 e3 e4 e5 e6 e7 hl8 f8 L;subst N;have e2:=e2.symm;subst e2;have hb8:=aab (i+1) hc;have hbs:=ar6 hi;refine cU ?_;have hin:((i:Nat):Int)<(l! p.2:Int):=by omega
   have hm:=hp.m _ (bK (T:=uY) (xs:=p.2) (j:=(i:Int)) (by omega) hin);have hnm:(geti uY p.2 (i:Int)).1=geti (.str) zM (i:Int):=by
    have h1:=pL (T:=uY) hi;have A:=e_ (gE Prod.fst) h1;rw[cr,gI,gI,hp.n,List.take_take,List.take_take,I5 (by omega),I5 (by omega),pL (T:=.str) (xs:=zM) (i:=i) (by have q4:zM.length=4:=rfl;omega)]at A;exact ((List.cons.inj (List.append_cancel_left A)).1).symm
   have htl:l! t2=i:=by rw[e7,cL];have q4:zM.length=4:=rfl;omega
   dsimp only;refine aR (by omega) hin (aT (a! (aR (by omega) hin (aT ?_))));refine aw (Iq fuel 5 (by rw[kR];omega) _ _ _ s2 (by have:=hm.b;omega) (λs hs=>((hm.s s hs).le (by omega:3<=5)).t) (dg _) ?_ ?_) λy hy=>bl (by simp) (ak ?_)
   .show (0:Int)+(boN p i:Nat)<=_;omega
   .show (l! s2)+boN p i<=_;omega
   let⟨_,S,A,h3⟩:=hy;have h3:SL (i:Int) 0 (boN p i) S:=h3;refine ⟨fL,rfl,e3,e4,e5,e6,?_,?_⟩
   .dsimp only;rw[e7,hnm,<-pL (T:=.str) (xs:=zM) (i:=i) (by have q4:zM.length=4:=rfl;omega)]
   .dsimp only;rw[A];refine ⟨by rw[bz,h3.l,hl8,hbs],?_,λj hj=>?_⟩
    .have hr:=ab7 f8 h3 (by rcases f9 with h|⟨h,h'⟩;exact .inr ⟨h,by omega,rfl⟩;rcases Nat.eq_zero_or_pos i with hi0|hi0;exact .inl ⟨by omega,h'⟩;exact .inr ⟨by omega,by omega,rfl⟩) (boN p i) (bI _);rw[<- h3.l,cY]at hr;rw[hr];split
     .exact⟨_,_,rfl,f9.imp (λh=>by omega) id⟩
     .exact⟨_,_,rfl,.inl (by omega)⟩
    .rcases cJ j i with h1|h1
     .obtain⟨g1,g2,g3⟩:=L j h1;exact⟨g1,g2,λq q1 q2=>(g3 q q1 q2).app⟩
     .have hj:j=i:=by omega
      subst hj;refine ⟨by omega,by omega,λq q1 q2=>?_⟩;obtain⟨q,rfl⟩:∃n:Nat,q=(n:Int):=⟨q.toNat,by omega⟩
      refine ⟨by omega,by rw[bz,h3.l];omega,?_⟩;rw[Nj (T:=pW) (by omega)];exact (h3.v _ (by omega)).1
  .rintro⟨a,p2,c2,l2,d2,f2,t2,s2⟩ ⟨N,e2,e3,e4,e5,e6,e7,hl8,⟨fa,fb,f8,f9⟩,L⟩;dsimp only at N e2 e3 e4 e5 e6 e7 hl8 f8 L;subst N;have e2:=e2.symm;subst e2 e3 e4 e5 e6 e7;refine cO (ak ?_);have hb8:=aab (l! p.2) hc;refine ⟨⟨rfl,rfl,rfl,rfl,⟨l! p.2,hp.t0,hp.t,rfl⟩,by dsimp only;omega,?_⟩,rfl,L⟩;unfold SV0;have hTl:l! (zM.take (l! p.2))=l! p.2:=by rw[cL];have q4:zM.length=4:=rfl;omega
   dsimp only;rw[hTl,f8];simp
def NM9:Y ζ:=[[120],[121],[118],[113],[109],[110],[114],[99],[102]]
set_option maxHeartbeats 20000000 in
def aiq (t:Y ζ) (ht:l! t<=4) (s:Y π):qJ (C0,Km,Px,Ys,t,s)=Z (NM9++t,J):=by
 refine cI ?_;unfold qJ bk bB bP cP dQ xa bm bV jY bT bW bc c8 aI cS;with_reducible repeat' first|exact ak rfl|refine abr ?_|refine abq ?_|refine abp ?_|refine abn ?_|refine an4 ?_|refine aT ?_|refine qU rfl ?_|refine jI rfl ?_|refine bl rfl ?_|refine abo ?_|refine Rp ?_|refine Vw ?_
 refine bG (by show 9+l! t<=1073741824;omega) (by decide) ?_;with_reducible repeat' first|exact ak rfl|refine abr ?_|refine abq ?_|refine abp ?_|refine abn ?_|refine an4 ?_|refine aT ?_|refine qU rfl ?_|refine jI rfl ?_|refine bl rfl ?_|refine abo ?_|refine Rp ?_|refine Vw ?_
def Yp:∀x∈NM9++zM,Ok (fT x) λb=>b=J:=by
 intro x z;simp only[NM9,zM,gJ,kW,a_,cD,fH]at z;rcases z with rfl|rfl|rfl|rfl|rfl|rfl|rfl|rfl|rfl|rfl|rfl|rfl|rfl;all_goals with_reducible repeat' first|exact ak rfl|refine abr ?_|refine abq ?_|refine abp ?_|refine abn ?_|refine Vw ?_|refine an4 ?_|refine aT ?_|refine qU rfl ?_|refine jI rfl ?_|refine bl rfl ?_|refine abo ?_|refine Rp ?_|refine dv (fT.eq_1 ..) ?_|refine dv (l7.eq_1 ..) ?_|refine dv (lG.eq_1 ..) ?_|refine dv (ms.eq_1 ..) ?_|refine dv (qN.eq_1 ..) ?_|refine dv (s_.eq_1 ..) ?_
def GT.up:∀{d:Nat} {s:Sx},GT d s->GT (d+1) s
 |0,_,h=>h.elim
 |_+1,_,⟨a,b,c,e,f,g,i⟩=>⟨a,b,c,e,f,λx z=>GT.up (g x z),λx z=>GT.up (i x z)⟩
def atf {l:Y Sx} (h:∀s∈l,GT 3 s):oJ 5 l=oJ 3 l:=by
 unfold oJ;rw[kS λx z=>(Un (GT.up (h x z))).trans (Un (h x z))]
def au9:∀i:Nat,i<13->∀r:Nat,r<i->geti (.str) (NM9++zM) (r:Int)≠geti (.str) (NM9++zM) (i:Int):=by decide
def EX {b:Int} {t f:M R} {Q:R->Prop} (h:b<=a) (hf:Ok f Q):Ok (aJ (gF a b) t f) Q:=jI (ji.2 h) hf
def Lb {w:WT} (hx:WX w):iz w=Z J:=by
 let⟨w1,w2,w3,w4,A,D⟩:=w;let⟨hc,hl,hd,hf,⟨n,n1,n4,ht⟩,hs,hv⟩:=hx;dsimp only at hc hl hd hf ht hs;subst hc hl hd hf;have hT:l! A=n:=by rw[ht,cL];have q4:zM.length=4:=rfl;omega
 have hv:Ps (l! A) D≠U:=hv;refine cI ?_;unfold iz bk bB bP cP ef iF bm bV jZ jY bT bW bc c8 aI cS;refine aV (λx=>x=(af,C0,Km,Px,Ys,A,D)) ?_ ?_
 .refine EX (show (5:Int)<=12 by decide) (EX (show (3:Int)<=4 by decide) (EX (show (1:Int)<=2 by decide) (EX (show (1:Int)<=2 by decide) (EX (show (1:Int)<=(l! A:Int) by omega) (EX (show (l! A:Int)<=4 by omega) (ak ?_))))));dsimp only[ay];rw[ji.2 (show (l! D:Int)<=60 by omega)]
 rintro x rfl;refine kg (aX (aiq A (by omega) D) (jI rfl ?_));have hN:NM9++A=(NM9++zM).take (9+n):=by rw[ht];rcases (by omega:n=1\/n=2\/n=3\/n=4) with rfl|rfl|rfl|rfl<;>rfl
 have hNl:l! (NM9++A)=9+n:=by rw[bz,hT];rfl
 have hNg:∀i:Nat,i<9+n->geti (.str) (NM9++A) (i:Int)=geti (.str) (NM9++zM) (i:Int):=λi hi=>by
  rw[hN,uT,uT,aE,aE,List.getElem?_take_of_lt hi]
 refine bR (9+n) (λi x=>x=((i:Int),C0,Km,Px,Ys,A,D)) ?_ ?_ rfl
 .rintro i x hi rfl;refine bQ (λ_=>?_) λg=>(by dsimp only[ay]at g;rw[hNl]at g;omega)
  refine aV (λx=>x=(af,C0,Km,Px,Ys,A,D)) ?_ ?_
  .refine aR (by dsimp only;omega) (by dsimp only;rw[hNl];omega) (aT ?_);have hmem:geti (.str) (NM9++A) (i:Int)∈NM9++zM:=by rw[hNg i hi];exact bK (T:=.str) (by omega) (by have:l! (NM9++zM)=13:=rfl;omega)
   refine aw (Yp _ hmem) λb hb=>?_
   refine jI (by rw[hb];rfl) (cE (a? (dh (by dsimp only;rw[hNl];omega) ?_)));refine aR (by dsimp only;omega) (by dsimp only;rw[hNl];omega) (aT ?_);refine aw (Bt _ _ (by dsimp only;rw[cL,hNl];omega)) λr hr=>ak ?_
   let⟨_,h2,h3,_⟩:=hr;dsimp only at h2 h3;rw[cL,hNl]at h2;have hr0:¬0<=r:=λh0=>by
    have h3:=h3 h0;obtain⟨r,rfl⟩:∃m:Nat,r=(m:Int):=⟨r.toNat,by omega⟩
    rw[uT,aE,List.getElem?_take_of_lt (by omega),<-aE,<-uT (T:=.str),hNg r (by omega),hNg i hi]at h3;exact au9 i (by omega) r (by omega) h3
   rw[m8.2 (by omega)]
  .rintro x rfl;exact kg (ak (by dsimp only;rw[fL]))
 rintro x rfl;refine bQ (λg=>(by dsimp only[ay]at g;rw[hNl]at g;omega)) λ_=>?_
 refine aw (P:=λb=>b=J) ?_ λy hy=>ak hy
 refine bR 1 (λi x=>x=((i:Int),C0,Km,Px,Ys,A,D)) ?_ ?_ rfl
 .rintro i x hi rfl;have hi0:i=0:=by omega
  subst hi0;refine qU rfl (bl rfl (aT (aV (λx=>x=(af,C0,Km,Px,Ys,A,D)) ?_ ?_)))
  .exact jI rfl (jI rfl (bl rfl (aT (ak rfl))))
  .rintro x rfl;exact kg (ak (by dsimp only;rw[fL]))
 rintro x rfl;refine bQ (λg=>(by have g:(1:Int)<1:=g;omega)) λ_=>?_
 refine aw (P:=λb=>b=J) ?_ λy hy=>ak hy
 refine bR (l! D) (λi x=>x=((i:Int),C0,Km,Px,Ys,A,D)/\∃t k:Int,Ps (l! A) (D.take i)=Z (t,k)/\0<=t/\t<(l! A:Int)/\(i=0->t=0/\k=0)/\(¬i=0->(geti pW D ((i-1:Nat):Int)).1=t/\(geti pW D ((i-1:Nat):Int)).2.1+1=k/\0<k/\k<=i)) ?_ ?_ ⟨rfl,0,0,rfl,by omega,by omega,λ_=>⟨rfl,rfl⟩,λh=>(h rfl).elim⟩
 .rintro i x hi ⟨rfl,t,k,hF,t0,tT,hz,hp⟩;have hw:¬(i:Int)=0->bn .i64 ((i:Int)-1)=((i-1:Nat):Int):=λh=>by rw[iI];omega
  have hnx:=L5 (T:=l! A) hi;have hne:=ab8 hv (i+1);rw[hnx,hF]at hne;let⟨hs1,L⟩:=ahn hne;rw[hF,hs1]at hnx;refine cU ?_;refine aV (λx=>x=(C0,Km,Px,Ys,A,D)) ?_ ?_
  .refine bF (aT ?_);revert L;generalize (geti pW D (i:Int))=z;obtain⟨(N:Int),(z2:Int),z3⟩:=z;intro L;dsimp only at L;refine aV (λx=>x=(af,(C0,Km,Px,Ys,A,D),N,z2,z3)) ?_ ?_
   .refine EX (show (0:Int)<=N by omega) (ak ?_);dsimp only[ay];rw[m8.2 (show N<(l! A:Int) by omega)]
   rintro x rfl;refine kg (aV (λx=>x.2=((C0,Km,Px,Ys,A,D),N,z2,z3)/\(x.1=J->i=0\/¬t=N)/\(x.1=af->¬i=0/\t=N)) ?_ ?_)
   .refine aK (λh=>ak ⟨rfl,λ_=>.inl (by have h:((i:Nat):Int)=0:=h;omega),nofun⟩) λh=>?_
    have h:¬((i:Nat):Int)=0:=h;dsimp only;rw[hw h];have hq:=(hp (by omega)).1;exact aR (by omega) (by first|omega|(dsimp only;omega)) (aT (ak ⟨rfl,λh2=>.inr (by rw[<- hq];simpa using h2),λh2=>⟨by omega,by rw[<- hq];simpa using h2⟩⟩))
   rintro⟨c,x⟩ ⟨e,hc1,hc⟩;dsimp only at e hc1 hc;subst e;refine aQ (λhct=>?_) λhcf=>?_
   .have hz2:z2=0:=by
     rcases hc1 hct with h|h
     .have:=hz h;omega
     .omega
    refine aV (λx=>x=(af,C0,Km,Px,Ys,A,D)) ?_ ?_
    .refine cj (λh=>(h hz2).elim) λ_=>bQ (λh=>?_) λ_=>ak rfl
     have h:(0:Int)<((i:Nat):Int):=h;dsimp only;rw[hw (by omega)];have hq:=(hp (by omega)).1;refine aR (by omega) (by first|omega|(dsimp only;omega)) (aT (ak ?_));dsimp only;rw[hq,ji.2 (show t<=N by omega)]
    rintro x rfl;exact kg (ak rfl)
   .obtain⟨h1,h2⟩:=hc hcf;let⟨_,p2,p3,p4⟩:=hp h1;dsimp only;rw[hw (by omega)];refine aR (by omega) (by first|omega|(dsimp only;omega)) (aT ?_);refine cj (λh=>(h ?_).elim) λ_=>ak rfl
    try dsimp only
    rw[p2,iI];omega
  .rintro x rfl;refine ak ⟨by dsimp only;rw[fL],_,_,hnx,?_⟩;revert L;rw[show i+1-1=i by omega];generalize (geti pW D (i:Int))=z;obtain⟨(N:Int),(z2:Int),z3⟩:=z;intro L;dsimp only at L ⊢;refine ⟨by omega,by omega,λh=>by omega,λ_=>⟨rfl,rfl,?_,?_⟩⟩
   .by_cases h0:i=0
    .have:=hz h0;omega
    .have:=hp h0;omega
   .by_cases h0:i=0
    .have:=hz h0;omega
    .have:=hp h0;omega
 .rintro x ⟨rfl,_⟩;exact cO (ak rfl)
def aal {c:CT} (z:WX c.1) (A:l! c.2=l! c.1.2.2.2.2.1) (h:∀k:Nat,k<l! c.2->GC (l! c.2) c.1.2.2.2.2.2 (k:Int) (geti zP c.2 (k:Int))):kB c=Z J:=by
 let⟨w,l⟩:=c;have L:l! l<=4:=by
  let⟨n,_,D,ht⟩:=z.t
  grind
 refine cI ?_;unfold kB bP bV bW bc c8 aI cS;refine aV (λx=>x=(af,w,l)) ?_ ?_
 .refine aX (Lb z) (jI rfl (ak ?_));rw[A];simp
 rintro x rfl;refine kg (bR (l! l) (λi x=>x=((i:Int),w,l)) ?_ ?_ rfl)
 .rintro i x hi rfl;refine cU ?_;refine bF (aT (aX (HG z A.symm (h i hi)) (jI rfl (ak ?_))));rw[fL]
 .rintro x rfl;exact cO (ak rfl)
def UG (p:PG) (hp:PJ p) (hr4:∃r,gf p=Z r/\r.1=0):Ok (rY p) λy=>CB y.1:=by
 have hpt:=hp.t;let⟨r,hr,h0⟩:=hr4;let⟨r',hr',h60⟩:=Hs p hp.x;rw[hr]at hr';cases hr';have h60:=h60 h0;unfold rY bk bB bP cP eU c_ ef iF Lj bV jY bT bW kf bc c8 aI cS;refine aX hr (cj (λh=>(h h0).elim) λ_=>?_);refine aw (aaj p hp r hr h0 h60) λw hw=>?_
 have hwT:l! w.2.2.2.2.1=l! p.2:=by rw[hw.t,cL];have q4:zM.length=4:=rfl;omega
 refine bR (l! p.2) (λi x=>x.1.1=((bsN p i:Nat):Int)/\x.1.2=(i:Int)/\x.2.1=p/\x.2.2.1=w/\l! x.2.2.2=i/\∀j:Nat,j<i->GC (l! p.2) w.2.2.2.2.2 (j:Int) (geti zP x.2.2.2 (j:Int))) ?_ ?_ ⟨rfl,rfl,rfl,rfl,rfl,λj L=>by omega⟩
 .rintro i ⟨⟨a,b⟩,p2,w2,cs⟩ hi ⟨e0,e1,e2,e3,e4,e5⟩;dsimp only at e0 e1 e2 e3 e4 e5;subst e0 e1;have e2:=e2.symm;subst e2;have e3:=e3.symm;subst e3;have hin:((i:Nat):Int)<(l! p.2:Int):=by omega
  refine cU ?_;have hm:=hp.m _ (bK (T:=uY) (xs:=p.2) (j:=(i:Int)) (by omega) hin);have hsr:=hw.s i hi;have hbs:=ar6 hi;have hb1:=aab (i+1) h60;have hbo:boN p i=oJ 3 (geti uY p.2 (i:Int)).2.2.2:=atf λs hs=>(hm.s s hs).t
  rw[hbo]at hsr hbs;dsimp only;refine aR (by omega) hin (aT (aR (by omega) hin (aT ?_)));revert hm hsr hbs;generalize (geti uY p.2 (i:Int))=t;intro hm hsr hbs;have hk:ME 3=50+16*(50+16*50):=rfl;have hle:=cK (ME 3) hm.b;rw[hk]at hle;have hll:l! t.2.2.1=2:=by rw[hm.l];rfl
  refine aw (TU (nT:=l! p.2) (ss:=w.2.2.2.2.2) (t:=(i:Int)) 3 (by omega) _ _ [] (by have:=hm.b;omega) hm.s ⟨hw.x.c,hw.x.l,hw.x.d,hw.x.f,hw.t,hm.l⟩ hsr (by rw[hk,pK];omega)) λy hy=>bl (by simp) ?_
  let⟨g2,o2⟩:=y;let⟨q1,q2,q3⟩:=hy;dsimp only at q1 q2 q3;have q4:=q2.u;rw[hk,pK]at q4;refine aw (Mb _ _ o2 (by omega)) λy hy=>bl (by simp) ?_
  let⟨g3,A⟩:=y;let⟨hg3,ho3⟩:=hy;dsimp only at hg3 ho3;have hL:aS (aj g3.2.2.2.2.2.2.1)=2:=by
   rw[hg3];show aS (aj g2.2.2.2.2.2.2.1)=2;rw[q1.h];show aS (aj t.2.2.1)=2;rw[hll];rfl
  have l3:l! A=l! o2+1:=by rw[ho3,bz];rfl
  have l31:l! A-1=l! o2:=by omega
  have iq:∀q:Nat,q<l! o2->iA A q=iA o2 q:=λq D=>by rw[ho3,MT D]
  have iend:iA A (l! o2)=(28,0,0,0,0,-1):=by rw[ho3,Aq]
  have hreg:∀q:Nat,q<l! A->∀j:Int,j∈jD (iA A q)->0<=j/\j<32:=λq D j L=>by
   by_cases h:q<l! o2
   .rw[iq q h]at L;exact (q2.i q (kV _) h).o.r j L
   .rw[show q=l! o2 by omega,iend]at L;simp[jD]at L
  dsimp only;rw[hL];refine bR (l! A) (λk x=>∃N:Int,x=((k:Int),p,w,g3,N,cs,A)/\2<=N/\N<=32/\∀q:Nat,q<k->∀j:Int,j∈jD (iA A q)->j<N) ?_ ?_ ⟨2,rfl,by omega,by omega,λq D=>by omega⟩
  .rintro k x hk2 ⟨N,rfl,r0,r1,r2⟩;refine cU ?_;dsimp only;refine bF (bF (aT (aX (vG _) ?_)));have hrk:=hreg k hk2;have hrl:=FH (iA A k);revert hrk hrl;generalize hins:(geti sJ A (k:Int))=ins;rw[show iA A k=ins from hins];intro hrk hrl;refine bR (l! (jD ins)) (λj x=>∃rg':Int,x=((j:Int),p,w,g3,rg',cs,A)/\N<=rg'/\rg'<=32/\∀q:Nat,q<j->rg'>geti aP (jD ins) (q:Int)) ?_ ?_ ⟨N,rfl,dg _,r1,λq D=>by omega⟩
   .rintro j x L ⟨rg',rfl,s0,s1,s2⟩;refine cU ?_;refine bF (aT (ak ?_));have hz:=hrk _ (bK (T:=aP) (xs:=jD ins) (j:=(j:Int)) (by omega) (by omega));dsimp only;obtain⟨z,hzj⟩:∃z:Int,geti aP (jD ins) (j:Int)=z:=⟨_,rfl⟩
    rw[hzj]at hz ⊢;have hz0:(0:Int)<=z:=hz.1;have hz1:(32:Int)>z:=hz.2;rw[fL,iI (n:=z+1) (by omega) (by omega)];have him:rg'<=m7 rg' (z+1)/\z+1<=m7 rg' (z+1)/\m7 rg' (z+1)<=32:=by
     unfold m7;split
     next h=>have h:=r_.1 h;omega
     next h=>have h:=ji.1 (Sn.2 h);omega
    refine ⟨_,rfl,by omega,him.2.2,λq D=>?_⟩;rcases cJ q j with h1|h1
    .have:=s2 q h1;omega
    .rw[show q=j by omega,hzj];exact Int.lt_of_lt_of_le (show z<z+1 by omega) him.2.1
   .rintro x ⟨rg',rfl,s0,s1,s2⟩;refine cO (ak ?_);refine ⟨rg',by dsimp only;rw[fL],by omega,s1,λq D j L=>?_⟩;rcases cJ q k with h1|h1
    .have:=r2 q h1 j L;omega
    .rw[show q=k by omega,show iA A k=ins from hins]at L;exact iT (T:=aP) (p:=λc=>rg'>c) s2 j L
  .rintro x ⟨N,rfl,r0,r1,r2⟩;refine cO (Rp (a! (Vw (ak ?_))));dsimp only;have q3':(g2.2.2.2.2.2.2.2.2:Int)=(bsN p i:Nat)+(oJ 3 t.2.2.2:Nat):=q3;refine ⟨by rw[q3',hbs];omega,fL,rfl,rfl,by simp;omega,λj L=>?_⟩;rcases cJ j i with h1|h1
   .rw[Nk (T:=zP) (by rw[e4];exact h1)];exact e5 j h1
   .rw[show j=i by omega,Nj (T:=zP) (by rw[e4];omega),e4,xc];refine ⟨show (1:Int)<=N by omega,r1,show 1<=l! A by omega,show (l! A)<=1000000 by omega,?_,?_,?_,?_,?_⟩
    .show (iA A (l! A-1)).1=28/\(iA A (l! A-1)).2.2.2.2.2= -1;rw[l31,iend];exact⟨rfl,rfl⟩
    .show sF A 0 (l! A-1);rw[l31];exact q2.b.congr λq _ D=>iq q D
    .show ∀q:Nat,q<l! A-1->GI (l! p.2) w.2.2.2.2.2 (i:Int) (iA A q);rw[l31];exact λq D=>by rw[iq q D];exact q2.i q (kV _) D
    .show ∀q:Nat,q<l! A-1->(iA A q).1=10->0<=(iA A q).2.2.1/\(iA A q).2.2.1<(l! A:Int)
     rw[l31];intro q D h10;rw[iq q D]at h10 ⊢;have:=q2.r q (kV _) D h10;omega
    .exact λq D j L=>r2 q (show q<l! A by have D:q<l! A-1:=D;omega) j L
 .rintro⟨⟨a,b⟩,p2,w2,cs⟩ ⟨e0,e1,e2,e3,e4,e5⟩;dsimp only at e0 e1 e2 e3 e4 e5;subst e1 e2 e3;refine cO (ak ?_);have hgc:∀t∈cs,∃k:Nat,GC p2.2.length w2.2.2.2.2.2 (k:Int) t:=iT (T:=zP) λk hk=>⟨k,e5 k (by omega)⟩
  refine ⟨by dsimp only;omega,λt ht=>?_,λt ht=>?_,hw.x,aal hw.x ?_ ?_⟩
  .obtain⟨k,hk⟩:=hgc t ht;exact hk.u
  .obtain⟨k,hk⟩:=hgc t ht;exact hk.r0
  .dsimp only;rw[e4,hwT]
  .dsimp only;rw[e4];exact e5
def PO (a b:η) (ha:l! a<=9223372036854775807) (D:∀z∈a,0<=z/\z<=255) (N:l! b<=1000000):Ok (xm (a,b)) TR:=by
 refine aw (P:=CB) ?_ λc L=>aw (aay b N) λl hl=>?_
 .unfold Am;exact aw (Kv a ha D) λp hp=>aw (UG p hp.1 hp.2) λy A=>ak A
 .exact aw (au7 c l L (by omega)) λy A=>ak A
def UF (a b c:η) (n:Int) (n0:0<=n) (n1:n<=1000000) (N:l! a<=9223372036854775807) (D:∀z∈a,0<=z/\z<=255) (L:l! c<=9223372036854775807) (A:∀z∈c,0<=z/\z<=255):Ok (oN ((a,b,c),n)) TR:=by
 refine bQ (λ_=>aw (L8 c n L A) λy h=>ak h) λ_=>?_
 have h0:0<=Kz (aS (l! b)) n/\Kz (aS (l! b)) n<=(l! b:Int)/\Kz (aS (l! b)) n<=n:=by
  unfold Kz;split
  next h=>rw[r_]at h;dsimp [ay]at h;exact⟨n0,by omega,dg _⟩
  next h=>have h:=ji.1 (Sn.2 h);dsimp [ay]at h ⊢;exact⟨by omega,dg _,h⟩
 refine cE (dh h0.1 (dh h0.2.1 ?_));have h1:l! (dE (aN (Kz (aS (l! b)) n)) b)<=1000000:=by grind
 exact aw (PO a _ N D h1) λy h=>ak h
def ahd (P:Program) (f:Ty->TypeId->Bool):Y Field->Nat->Ty->Bool
 |[],_,.un=>J
 |[x],off,T=>aB x.offset off&&f T x.type&&aB (P.cellsOf x.type) T.size
 |x::y::r,off,.pr a b=>aB x.offset off&&f a x.type&&aB (P.cellsOf x.type) a.size&&ahd P f (y::r) (off+a.size) b
 |_,_,_=>af
def ae3 (P:Program) (f:Ty->TypeId->Bool) (e:TypeId):Nat->Ty->Bool
 |1,T=>f T e&&aB (P.cellsOf e) T.size
 |m+2,.pr a b=>f a e&&aB (P.cellsOf e) a.size&&ae3 P f e (m+1) b
 |_,_=>af
def EK (P:Program):Nat->Ty->TypeId->Bool
 |0,_,_=>af
 |n+1,T,t=>match T,P.underlying t with
  |.int k,Z (.int z)=>k==z
  |.bool,Z .bool=>J
  |.str,Z .string=>J
  |.sl y,Z (.slice e)=>EK P n y e&&aB (P.cellsOf e) y.size&&eJ 0 y.size
  |.st y,Z (.struct A)=>ahd P (EK P n) A.toList 0 y&&aB (P.cellsOf t) y.size
  |.st y,Z (.array m e)=>ae3 P (EK P n) e m y&&aB (P.cellsOf t) y.size
  |_,_=>af
def wfT:(T:Ty)->T.den->Prop
 |.int k,n=>(Lit.int k n).wf=J
 |.str,s=>aj s<=maxLen
 |.sl y,xs=>aj xs<=maxLen/\∀x∈(xs:Y y.den),wfT y x
 |.st t,v=>wfT t v
 |.pr a b,v=>wfT a v.1/\wfT b v.2
 |_,_=>True
def Pa (W:World) (T:Ty) (x:T.den) (cs:ξ):Prop:=l! cs=T.size/\∀(j:Nat) y v,(bM T x)[j]? =Z y->cs[j]? =Z v->nN (λ_=>False) W y v
def OO (z:R) (P:Nat->R->Prop):∀n:Nat,(∀i,i<n->∃a,P i a)->∃l:Y R,l! l=n/\∀i x,l[i]? =Z x->P i x
 |0,_=>⟨[],rfl,λi x h=>by simp at h⟩
 |n+1,h=>by
  let⟨l,A,hp⟩:=OO z P n (λi hi=>h i (by omega));let⟨a,L⟩:=h n (by omega);refine ⟨l++[a],by simp[A],λi x D=>?_⟩
  grind
def Addr.add_plain {a:Addr} (h:a.spot=U) (n:Nat):a.add n=⟨a.block,a.off+n,U⟩:=by
 unfold Addr.add;split
 next h0=>subst h0;cases a;subst h;rfl
 .rfl
variable {v:Value}
def afy {w:World} {a:Addr} (h:w.cell? a=Z v):a.spot=U:=by
 unfold Sl at h;split at h
 .simp_all
 .cases h
variable {T:Ty} {L:ξ}
def Pa.sub {W:World} {x:T.den} {n:Nat} (h:Pa W T x ((L.drop i).take n)) (D:n=T.size) (cs:i+n<=l! L):∀(j:Nat) y v,(bM T x)[j]? =Z y->L[i+j]? =Z v->nN (λ_=>False) W y v:=λj y v z A=>by
 refine h.2 j y v z ?_;have N:j<T.size:=by have:=(bA.1 z).1;rwa [bu]at this
 grind
section
variable {H:Type} {enc:TypeId×Value->H} {P:Program} {W:World} {base:Nat} {sp:Nat->Bool} {hd:Bool}
def abl {f:Ty->TypeId->Bool} {m:Nat} (ih:∀(T:Ty) (t:TypeId) (cs:ξ) x,f T t=J->DataW.trod enc P W base sp hd m t cs=Z x->∃v,Pa W T v cs/\wfT T v) (cs:ξ) (ts:Y (DataW H×Y MemPlace)):
 ∀(fs:Y Field) (off k:Nat) (T:Ty),ahd P f fs off T=J->off+T.size<=l! cs->(∀(i:Nat) (fl:Field),fs[i]? =Z fl->∃z,DataW.trod enc P W base sp hd m fl.type ((cs.drop fl.offset).take (P.cellsOf fl.type))=Z z)->
 ∃v,(∀(j:Nat) y u,(bM T v)[j]? =Z y->cs[off+j]? =Z u->nN (λ_=>False) W y u)/\wfT T v
 |[],off,k,.un,_,_,_=>⟨(),λj y u L=>by simp[bM]at L,trivial⟩
 |[x],off,k,T,h,hl,N=>by
  simp only[ahd,au]at h;let⟨⟨h1,h2⟩,D⟩:=h;have h1:=av h1;have D:=av D;let⟨z,hz⟩:=N 0 x rfl;let⟨v,A,hw⟩:=ih T _ _ _ h2 hz;rw[h1]at A;exact⟨v,A.sub D (by omega),hw⟩
 |x::x'::r,off,k,.pr a b,h,hl,N=>by
  simp only[ahd,au]at h;let⟨⟨⟨h1,h2⟩,D⟩,h4⟩:=h;have h1:=av h1;have D:=av D;simp[Ty.size]at hl;let⟨z,hz⟩:=N 0 x rfl;let⟨v,A,hw⟩:=ih a _ _ _ h2 hz;rw[h1]at A;have A:=A.sub D (by omega);let⟨v',hv',hw'⟩:=abl ih cs ts (x'::r) (off+a.size) (k+1) b h4 (by omega) (λi fl hi=>N (i+1) fl (by grind));refine ⟨(v,v'),λj y u L hu=>?_,hw,hw'⟩;simp[bM]at L;by_cases hj:j<a.size
  .rw[bU (by rw[bu];exact hj)]at L;exact A j y u L hu
  .rw[cm (by rw[bu];omega),bu]at L
   grind
variable {s:TypeId}
def abm {f:Ty->TypeId->Bool} {m:Nat} (N:∀(T:Ty) (t:TypeId) (cs:ξ) x,f T t=J->DataW.trod enc P W base sp hd m t cs=Z x->∃v,Pa W T v cs/\wfT T v) (cs:ξ):
 ∀(n i:Nat) (T:Ty),ae3 P f s n T=J->i*P.cellsOf s+T.size<=l! cs->(∀j,j<n->∃z,DataW.trod enc P W base sp hd m s ((cs.drop ((i+j)*P.cellsOf s)).take (P.cellsOf s))=Z z)->
 ∃v,(∀(j:Nat) y u,(bM T v)[j]? =Z y->cs[i*P.cellsOf s+j]? =Z u->nN (λ_=>False) W y u)/\wfT T v
 |0,i,T,h,_,_=>by cases h
 |1,i,T,h,hl,L=>by
  simp only[ae3,au]at h;have h3:=av h.2;let⟨z,hz⟩:=L 0 (by omega);let⟨v,A,hw⟩:=N T _ _ _ h.1 hz;rw[dI]at A;exact⟨v,A.sub h3 (by omega),hw⟩
 |n+2,i,T,h,hl,L=>by
  cases T with
  |pr a b=>
   simp only[ae3,au]at h;let⟨⟨h1,h2⟩,h4⟩:=h;have h3:=av h2;simp[Ty.size]at hl;let⟨z,hz⟩:=L 0 (by omega);let⟨v,A,hw⟩:=N a _ _ _ h1 hz;rw[dI]at A;have A:=A.sub h3 (by omega);let⟨v',hv',hw'⟩:=abm N cs (n+1) (i+1) b h4 (by grind) (λj hj=>by have:=L (j+1) (by omega);rwa [show i+(j+1)=i+1+j from by omega]at this);refine ⟨(v,v'),λj y u D hu=>?_,hw,hw'⟩;simp[bM]at D;by_cases hj:j<a.size
   .rw[bU (by rw[bu];exact hj)]at D;exact A j y u D hu
   .rw[cm (by rw[bu];omega),bu]at D
    grind
  |_=>unfold ae3 at h;cases h
def Ly:∀(n:Nat) (T:Ty) (t:TypeId) (fuel:Nat) (cs:ξ) x,EK P n T t=J->(∀b,sp b=J)->DataW.trod enc P W base sp hd fuel t cs=Z x->∃v,Pa W T v cs/\wfT T v
 |0,_,_,_,_,_,h,_,_=>by unfold EK at h;cases h
 |n+1,T,t,fuel,cs,x,h,hsp,ht=>by
  unfold EK at h;split at h
  .rename_i k k' N;have hk:=eq_of_beq h;subst hk;obtain⟨m,rfl,_,hw⟩:=DataW.trod_int N ht;refine ⟨m,⟨rfl,λj y v z L=>?_⟩,hw⟩;cases j with
   |zero=>simp[bM]at z L;subst z L;exact .raw _
   |succ j=>simp[bM]at z
  .rename_i N;obtain⟨b,rfl,_⟩:=DataW.trod_bool N ht;refine ⟨b,⟨rfl,λj y v z L=>?_⟩,trivial⟩;cases j with
   |zero=>simp[bM]at z L;subst z L;exact .raw _
   |succ j=>simp[bM]at z
  .rename_i N;obtain⟨s,rfl,_,hs⟩:=DataW.trod_string N ht;refine ⟨s.data.toList,⟨rfl,λj y v z L=>?_⟩,by simpa[wfT] using hs⟩;cases j with
   |zero=>simp[bM]at z L;subst z L;exact .raw _
   |succ j=>simp[bM]at z
  .rename_i A e N;simp only[au]at h;let⟨⟨h1,h2⟩,h3⟩:=h;have h2:=av h2;have h3:0<A.size:=aY h3;rcases Go.Deep.open_slice N ht with ⟨rfl,_⟩|⟨a,len,cap,m,k,D,Pl,rfl,hb,hl,hm,hmm,_,hi⟩
   .refine ⟨[],⟨rfl,λj y v z L=>?_⟩,by simp[wfT]⟩;cases j with
    |zero=>simp[bM]at z L;subst z L;exact .nil _ _ (by unfold maxLen;omega)
    |succ j=>simp[bM]at z
   .rw[hsp,aF rfl]at hmm;rw[h2]at hi;let⟨xs,hx1,hx2⟩:=OO A.zero (λi (v:A.den)=>∃cs',W.cells? base (a.add (i*A.size)) A.size=Z cs'/\Pa W A v cs'/\wfT A v) len (λi hil=>by
     let⟨cs',hc,htt⟩:=hi i (by omega);let⟨v,L,hw⟩:=Ly n A e k cs' _ h1 hsp htt;exact⟨v,cs',hc,L,hw⟩)
    refine ⟨xs,⟨rfl,λj y v z L=>?_⟩,by show aj xs<=maxLen;omega,λy z=>?_⟩
    .cases j with
     |succ j=>simp[bM]at z
     |zero=>
      simp[bM]at z L;subst z L;by_cases h0:len=0
      .have:xs=[]:=dH.1 (by omega);subst this h0;exact .nil _ _ hm
      .obtain⟨x0,hx0⟩:∃x0,xs[0]? =Z x0:=⟨xs[0]'(by omega),aH (by omega)⟩
       let⟨cs0,hc0,_⟩:=hx2 0 x0 hx0;let⟨_,hcl0,hat0⟩:=World.cells?_some hc0;have hca:=hat0 0 h3;rw[aH (by omega)]at hca;have hspot:a.spot=U:=by
        have:=afy hca;simpa[Addr.add] using this
       have hblk:=World.block_lt_of_cell? W _ hca;rw[Nat.zero_mul,Addr.add_plain hspot,Addr.add_plain rfl]at hca hblk;have hcell:∀(i j:Nat) x,xs[i]? =Z x->j<A.size->∃cs',W.cell? ⟨a.block,a.off+(i*A.size+j),U⟩=cs'[j]? /\j<l! cs'/\Pa W A x cs':=λi j x hx hj=>by
        let⟨cs',hc,hr,_⟩:=hx2 i x hx;let⟨_,hcl,hat⟩:=World.cells?_some hc;have:=hat j hj;rw[Addr.add_plain hspot,Addr.add_plain rfl,uH]at this;exact⟨cs',this,by omega,hr⟩
       have hflat:∀j,j<l! xs*A.size->∃x,xs[j/A.size]? =Z x/\j%A.size<A.size/\j=j/A.size*A.size+j%A.size:=λj hj=>by
        have h5:j/A.size<l! xs:=Nat.div_lt_of_lt_mul (by rw[Nat.mul_comm];exact hj);exact⟨xs[j/A.size],aH h5,Nat.mod_lt _ h3,by rw[Nat.mul_comm];exact (Nat.div_add_mod j A.size).symm⟩
       have hlen:l! (List.flatMap (bM A) xs)=l! xs*A.size:=fx (bu A) xs;let⟨ab,ao,az⟩:=a;cases hspot;rw[<- hx1];refine .sl (List.flatMap (bM A) xs) (l! xs) cap ab ao (λj=>(W.cell? ⟨ab,ao+j,U⟩).getD undef) (by omega) hm (λh=>h) hblk (md A xs) (λj hj=>?_) (λj y z=>?_)
       .obtain⟨x,hx,hjs,hje⟩:=hflat j (by omega);let⟨cs',g1,g2,_⟩:=hcell _ _ x hx hjs;rw[<- hje]at g1;simp only[g1,aH g2,Option.getD_some]
       .have hj:j<l! xs*A.size:=by rw[<- hlen];exact (bA.1 z).1
        let⟨x,hx,hjs,hje⟩:=hflat j hj;let⟨cs',g1,g2,g3⟩:=hcell _ _ x hx hjs;rw[<- hje]at g1;simp only[g1];rw[aH g2];refine g3.2 (j%A.size) y _ ?_ (aH g2);let⟨r,hr⟩:=Is (bu A) xs (j/A.size) x hx;have:((List.flatMap (bM A) xs).drop (j/A.size*A.size))[j%A.size]? =Z y:=by rw[tH,<-hje];exact z
        rw[hr,bU (by rw[bu];exact hjs)]at this;exact this
    .obtain⟨i,hi'⟩:=gm z;let⟨_,_,_,hw⟩:=hx2 i y hi';exact hw
  .rename_i A fs N;simp only[au]at h;have h2:=av h.2;obtain⟨xs,m,rfl,_,hl,hxl,hg⟩:=DataW.trod_struct N ht;let⟨v,L,hw⟩:=abl (f:=EK P n) (m:=m) (λT t cs x h1 h2=>Ly n T t m cs x h1 hsp h2) cs xs fs.toList 0 0 A h.1 (by omega) (λi fl hi=>by
    have hi':fs[i]? =Z fl:=by simpa using hi
    have:=hg i fl hi';have hlt:i<l! xs:=by rw[hxl];exact (dD.1 hi').1
    rw[aH hlt]at this;exact⟨_,this⟩)
   exact⟨v,⟨by rw[hl,h2];rfl,λj y u z N=>L j y u z (by rw[b9];exact N)⟩,hw⟩
  .rename_i A m e N;simp only[au]at h;have h2:=av h.2;obtain⟨xs,q,rfl,_,hl,hxl,hg⟩:=DataW.trod_array N ht;let⟨v,L,hw⟩:=abm (f:=EK P n) (m:=q) (λT t cs x h1 h2=>Ly n T t q cs x h1 hsp h2) cs m 0 A h.1 (by omega) (λj hj=>by
    have:=hg j hj;rw[aH (by omega)]at this;rw[b9];exact⟨_,this⟩)
   exact⟨v,⟨by rw[hl,h2];rfl,λj y u z N=>L j y u z (by rw[Nat.zero_mul,b9];exact N)⟩,hw⟩
  .cases h
def Vy {t:TypeId} {r:Reach} (z:EK P i T t=J) (h1:T.one=J) (h:Lh P W r j t v):v.cells.toList=[v]:=by
 cases i with
 |zero=>unfold EK at z;cases z
 |succ i=>
  unfold EK at z;unfold Lh at h;cases v with
  |agg cs=>
   split at z<;>rename_i A<;>first|(rw [A]at h;simp[]at h;unfold Cell.okWide at h;rw[A]at h;unfold Cell.ok at h;rw[A]at h;simp at h)|cases h1|cases z
  |_=>rfl
def YY {t:TypeId} {r:Reach} (z:EK P i T t=J) (h1:T.one=af) (h:Lh P W r j t v):∃cs,v= .agg cs:=by
 cases i with
 |zero=>unfold EK at z;cases z
 |succ i=>
  unfold EK at z;unfold Lh at h;split at z<;>rename_i A<;>first|(rw [A]at h;let⟨cs,h,_⟩:=h;exact⟨cs,h⟩)|cases h1|cases z
def open_arg {n:Nat} {t:TypeId} {d:DataW H} {D:Y MemPlace} {r:Reach} (A:EK P n T t=J) (hsp:∀b,sp b=J) (hok:Lh P W r i t v) (h:DataW.Trod enc P W base sp hd t v d D):∃x,nN (λ_=>False) W (gz T x) v/\wfT T x:=by
 let⟨fuel,hf⟩:=h;let⟨x,z,N⟩:=Ly n T t fuel _ _ A hsp hf;refine ⟨x,?_,N⟩;by_cases h1:T.one=J
 .obtain⟨e1,e2⟩:=NK T x h1;exact z.2 0 _ v (by grind) (by rw[Vy A h1 hok];rfl)
 .obtain⟨cs,rfl⟩:=YY A (by grind) hok;rw[ux T x (by grind)];have hl:l! cs.toList=l! (bM T x):=by rw[bu];exact z.1
  have:=nN.agg (O:=λ_=>False) (w:=W) (bM T x) cs.toList hl (ph T x) (λj y u L hu=>z.2 j y u L hu);simpa using this
end
abbrev tQ:Ty:=.pr aP (.pr aP (.pr aP .bool))
def ad6 (h:(Lit.int .u8 a).wf=J):0<=a/\a<=255:=⟨bJ (wO.1 h).1,bJ (wO.1 h).2⟩
def D8 {w:WT} {l:Y ET} (tr:TR (w,l)) (h:i<l! l):(eN l i).1=(eL l i:Int):=by
 have:0<=(eN l i).1:=(tr.ev _ (nL h)).t0;unfold eL;omega
def ag9 {w:WT} {l:Y ET} (tr:TR (w,l)) (z:j<l! l):ub (l,(j:Int))=Z (ct l (eL l j) j:Int):=by
 have A:l! l<=400:=tr.len;refine cI ?_;unfold ub bm bV bW c8 aI cS;refine bR j (λi x=>x=((ct l (eL l j) i:Int),(i:Int))) ?_ ?_ rfl
 .rintro i x hi rfl;have D:=aoh l (eL l j) i;have L:=D8 tr (show i<l! l by omega);have e2:=D8 tr z;refine cU ?_;refine aV (λx=>x=(ct l (eL l j) (i+1):Int)) ?_ ?_
  .rw[ct];refine bF (aT (bF (aT (aK (λh=>ak ?_) λh=>ak ?_))))
   .have h:(eN l i).1=(eN l j).1:=h;rw[aF (by omega)];exact fL
   .have h:¬(eN l i).1=(eN l j).1:=h;rw[ax (by omega)];rfl
  rintro x rfl;refine ak ?_;dsimp only;rw[fL]
 .rintro x rfl;exact cO (ak rfl)
def aav {w:WT} {l:Y ET} (tr:TR (w,l)) (z:j<l! l):rU (l,(j:Int))=Z ((ct l (eL l j) (j+1):Int),(eL l j:Int)):=by
 have A:l! l<=400:=tr.len;have D:=aoh l (eL l j) j;refine cI ?_;unfold rU bW;refine aX (ag9 tr z) (bF (aT (ak ?_)));show (bn .i64 (1+(ct l (eL l j) j:Int)),(eN l j).1)=_;rw[D8 tr z,CJ,iI,Int.add_comm];rfl
abbrev zN:Type:=Q?
def clS (e:ET) (i:Int) (s:zN):zN:=if s.1=e.1/\s.2.2.1<0 then (s.1,s.2.1,i,s.2.2.2) else s
def lq (w:WT) (l:Y ET) (lk:Int):Nat->Y zN
 |0=>[]
 |i+1=>(if fB w (eN l i)=lk then (lq w l lk i).map (clS (eN l i) (i:Int)) else lq w l lk i)++(if mT w (eN l i)=lk then [((eN l i).1,(i:Int),-1,decide ((eN l i).2.1=8))] else [])
def FA {w:WT} {l:Y ET} {s:zN} (h:s∈lq w l a (i+1)):(mT w (eN l i)=a/\s=((eN l i).1,(i:Int),-1,decide ((eN l i).2.1=8)))\/
 (s∈lq w l a i/\¬(fB w (eN l i)=a/\s.1=(eN l i).1/\s.2.2.1<0))\/∃r,(s.1,s.2.1,r,s.2.2.2)∈lq w l a i/\r<0/\fB w (eN l i)=a/\s.1=(eN l i).1/\s.2.2.1=(i:Int):=by
 rcases bO.1 h with h|h
 .refine .inr ?_;by_cases z:fB w (eN l i)=a
  .rw[aF z]at h;obtain⟨A,h0,rfl⟩:=cu.1 h;unfold clS
   grind
  .grind
 .grind
structure SeF (w:WT) (l:List ET) (lk:Int) (n:Nat) (s:zN):Prop where
 a0:0<=s.2.1
 a1:s.2.1<(n:Int)
 th:(eN l s.2.1.toNat).1=s.1
 aq:mT w (eN l s.2.1.toNat)=lk
 r:s.2.2.1= -1\/(s.2.1<s.2.2.1/\s.2.2.1<(n:Int)/\(eN l s.2.2.1.toNat).1=s.1/\fB w (eN l s.2.2.1.toNat)=lk)
def rC (w:WT) (l:Y ET) (lk:Int):∀(n:Nat) (s:zN),s∈lq w l lk n->SeF w l lk n s
 |0,s,h=>by cases h
 |n+1,s,h=>by
  rcases FA h with ⟨h1,rfl⟩|⟨h1,_⟩|⟨r,h1,r0,D,A,z⟩
  .exact⟨by dsimp only;omega,by dsimp only;omega,by dsimp only;rw[be],by dsimp only;rw[be];exact h1,.inl rfl⟩
  .obtain⟨a,b,c,d,e⟩:=rC w l lk n s h1;refine ⟨a,by omega,c,d,?_⟩
   grind
  .obtain⟨a,b,c,d,e⟩:=rC w l lk n _ h1;dsimp only at a b c d;refine ⟨a,by omega,c,d,.inr ⟨by omega,by omega,?_,?_⟩⟩
   .grind
   .grind
def atS (m:Nat) (s:zN):zN:=(s.1,s.2.1,if 0<=s.2.2.1/\s.2.2.1<(m:Int) then s.2.2.1 else -1,s.2.2.2)
def C9 {w:WT} {l:Y ET} :∀{n:Nat} {s:zN},s∈lq w l a n->∀{m:Nat},m<=n->s.2.1<(m:Int)->atS m s∈lq w l a m
 |0,s,h,_,_,_=>by cases h
 |n+1,s,h,m,hm,z=>by
  by_cases e:m=n+1
  .subst e;have f:=rC w l a _ s h;have:atS (n+1) s=s:=by
    unfold atS;rcases f.r with g|⟨g1,A,_⟩
    .grind
    .have:=f.a0;rw[aF ⟨by omega,A⟩]
   rw[this];exact h
  .rcases FA h with ⟨h1,rfl⟩|⟨h1,_⟩|⟨r,h1,r0,N,L,D⟩
   .dsimp only at z;omega
   .exact C9 h1 (by omega) z
   .have:=C9 h1 (show m<=n by omega) z;unfold atS at this ⊢
    grind
def UA (w:WT) (s:SY) (t k o u:Int):(po w s t k o u).1.1=if k=6\/k=10 then YW s.1 o t else if k=7\/k=11 then YW s.1 o (-1) else if k=8 then rdP s.1 o (yn (geti em s.1 o).2 [t]) else if k=9 then rdP s.1 o (wo (geti em s.1 o).2 t) else if k=16 then YW s.1 (PN w o) (-1) else if k=17 then YW s.1 (PN w o) t else s.1:=by
 cases kdI k
 case no h _=>simp[po,h,dZ,false_or]
 all_goals (simp [po,c7,bq,dZ,fH,false_or];try (split<;>rfl))
def Ru {w:WT} {z:SY} {t o:Int} (en:EN w z t a o) (h:16<=a/\a<=19):0<=PN w o/\PN w o<l! z.1:=by
 let⟨k,b⟩:=en.nm.cd h;rw[en.e1];exact en.cd _ (bK (T:=itK) k b)
def aih {w:WT} {z:SY} {e:ET} (en:EN w z e.1 e.2.1 e.2.2.1) (rd:UQ w z e.1 e.2.1 e.2.2.1) {u:Int} (L:0<=a) (N:0<=u) (h:(geti em z.1 a).1=u) (A:¬(fB w e=a/\u=e.1)):(geti em (po w z e.1 e.2.1 e.2.2.1 e.2.2.2.1).1.1 a).1=u:=by
 let⟨t,k,o,v,s,r1,r2⟩:=e;dsimp only at en rd A ⊢;have D:6<=k/\k<=11->0<=o/\o<(l! z.1:Int):=λg=>by rw[en.e1];exact en.nm.lk g
 have ow:∀(i x:Int),0<=i->i<l! z.1->(a=i->x=u)->(geti em (YW z.1 i x) a).1=u:=λi x h0 h1 hx=>by
  unfold YW;rw[jK _ _ _ _ h0 h1 L]
  grind
 have rr:∀(i:Int) (x:η),0<=i->i<l! z.1->(geti em (rdP z.1 i x) a).1=u:=λi x h0 h1=>by
  unfold rdP;rw[jK _ _ _ _ h0 h1 L]
  grind
 unfold fB at A;dsimp only at A;rw[UA];split
 .rename_i g;let⟨lk,b⟩:=D (by omega);have e1:(geti em z.1 o).1= -1:=rd.aq (by omega)
  grind
 split
 .rename_i g;let⟨lk,b⟩:=D (by omega);refine ow _ _ lk b λq=>?_
  have:=rd.rl g;rw[<- q,h]at this
  grind
 split
 .grind
 split
 .grind
 split
 .rename_i g;let⟨lk,b⟩:=Ru en (by omega);refine ow _ _ lk b λq=>?_
  have:=rd.nt (by omega);have e1:(geti em z.1 (PN w o)).1=t:=this;rw[<- q,h]at e1;exact bC ⟨by rw[ax (by omega),aF g];exact q.symm,e1⟩ A
 split
 .rename_i g;let⟨lk,b⟩:=Ru en (by omega);refine ow _ _ lk b λq=>?_
  have e1:(geti em z.1 (PN w o)).1= -1:=(rd.wk g).2.2
  grind
 .exact h
def ai7 {w:WT} {A:SY} {e:ET} (en:EN w A e.1 e.2.1 e.2.2.1) {u:Int} (N:0<=a) (h:u∈(geti em A.1 a).2) (L:¬(fB w e=a/\u=e.1)):u∈(geti em (po w A e.1 e.2.1 e.2.2.1 e.2.2.2.1).1.1 a).2:=by
 let⟨t,k,o,v,s,r1,r2⟩:=e;dsimp only at en L ⊢;have D:6<=k/\k<=11->0<=o/\o<(l! A.1:Int):=λg=>by rw[en.e1];exact en.nm.lk g
 have ow:∀(i x:Int),0<=i->i<l! A.1->u∈(geti em (YW A.1 i x) a).2:=λi x h0 h1=>by
  unfold YW;rw[jK _ _ _ _ h0 h1 N];split
  next g=>rw[<- g];exact h
  .exact h
 have rr:∀(i:Int) (x:η),0<=i->i<l! A.1->(a=i->u∈x)->u∈(geti em (rdP A.1 i x) a).2:=λi x h0 h1 hx=>by
  unfold rdP;rw[jK _ _ _ _ h0 h1 N];split
  next g=>exact hx g
  .exact h
 unfold fB at L;dsimp only at L;rw[UA];split
 .obtain⟨lk,b⟩:=D (by omega);exact ow _ _ lk b
 split
 .obtain⟨lk,b⟩:=D (by omega);exact ow _ _ lk b
 split
 .obtain⟨lk,b⟩:=D (by omega);exact rr _ _ lk b λq=>BL.2 (.inl (q▸h))
 split
 .rename_i g;let⟨lk,b⟩:=D (by omega);refine rr _ _ lk b λq=>List.mem_filter.2 ⟨q▸h,?_⟩
  rw[dm λz=>L ⟨by rw[aF (by omega)];exact q.symm,z⟩];rfl
 split
 .obtain⟨lk,b⟩:=Ru en (by omega);exact ow _ _ lk b
 split
 .obtain⟨lk,b⟩:=Ru en (by omega);exact ow _ _ lk b
 .exact h
def aky {w:WT} {z:SY} {e:ET} (en:EN w z e.1 e.2.1 e.2.2.1) (A:0<=a) (l1:a<l! w.2.1) (h:mT w e=a):if e.2.1=8 then e.1∈(geti em (po w z e.1 e.2.1 e.2.2.1 e.2.2.2.1).1.1 a).2 else (geti em (po w z e.1 e.2.1 e.2.2.1 e.2.2.2.1).1.1 a).1=e.1:=by
 let⟨t,k,o,v,s,r1,r2⟩:=e;dsimp only at en h ⊢;have N:6<=k/\k<=11->0<=o/\o<(l! z.1:Int):=λg=>by rw[en.e1];exact en.nm.lk g
 unfold mT at h;dsimp only at h;rw[UA];by_cases g:k=6\/k=8\/k=10
 .rw[aF g]at h;subst h;let⟨lk,b⟩:=N (by omega);by_cases D:k=8
  .rw[aF D,ax (by omega),ax (by omega),aF D];unfold rdP;rw[jK _ _ _ _ lk b A,aF rfl];exact BL.2 (.inr (aC.2 rfl))
  .rw[ax D,aF (by omega)];unfold YW;rw[jK _ _ _ _ lk b A,aF rfl]
 .rw[ax g]at h;by_cases L:k=17
  .rw[aF L]at h;let⟨lk,b⟩:=Ru en (by omega);have e1:PN w o=a:=h;rw[ax (by omega),ax (by omega),ax (by omega),ax (by omega),ax (by omega),ax (by omega),aF L,e1];unfold YW;rw[e1]at lk b;rw[jK _ _ _ _ lk b A,aF rfl]
  .omega
def anh {w:WT} (z:WX w) (h0:0<=a) (h1:a<l! w.2.2.1):(geti tF w.2.1 (PN w a)).2=af:=by
 unfold PN;rw[z.d]at h1 ⊢;rw[z.l];have:a=0:=by have e:Px.length=1:=rfl;omega
 subst this;rfl
def HN {w:WT} {e:ET} {op:Y d?} {ar:Y WO} {q:Int} (h0:0<=q) (h:q<l! ar):bf (BI w a e op ar) q=bf (yB w a e op ar) q:=by
 unfold BI;split
 .exact FX _ (by rw[BQ];omega)
 .rfl
def Y' {k z:ν} (h:k≠z):H_ k z=af:=by
 cases e:H_ k z with
 |true=>exact bC (uQ.1 e) h
 |false=>rfl
def VP (k:ν):H_ k k=J:=uQ.2 rfl
def abw (k:ν) (v:Int):∀op:Y d?,jN k (sK k v op)=J/\db k (sK k v op)=v
 |[]=>by simp[sK,jN,db,VP]
 |e::r=>by
  simp[sK];cases z:H_ k e.1 with
  |true=>simp[jN,db,VP]
  |false=>
   let⟨a,b⟩:=abw k v r;simp[jN,db,z,a,b]
def abv {k z:ν} (h:k≠z) (v:Int):∀op:Y d?,jN k (sK z v op)=jN k op/\db k (sK z v op)=db k op
 |[]=>by simp[sK,jN,db,Y' h]
 |e::r=>by
  simp[sK];cases A:H_ z e.1 with
  |true=>
   have:=uQ.1 A;simp[jN,db,Y' h,<-this]
  |false=>
   let⟨a,b⟩:=abv h v r;simp[jN,db,a,b]
def VD {k z:ν} (h:k≠z):∀op:Y d?,jN k (Ah z op)=jN k op/\db k (Ah z op)=db k op
 |[]=>⟨rfl,rfl⟩
 |e::r=>by
  simp[Ah];cases A:H_ z e.1 with
  |true=>
   have:=uQ.1 A;simp[jN,db,<-this,Y' h]
  |false=>
   let⟨a,b⟩:=VD h r;simp[jN,db,a,b]
def Df (o k:Int):∀m:Y q!,VN o (uN (K:=.int .i64) (V:=.bool) k J m)=if o=k then J else VN o m
 |[]=>by
  by_cases h:o=k<;>simp[uN,xn,AZ,LL,h]
 |(a,b)::r=>by
  have z:=Df o k r;unfold VN xn at z ⊢;by_cases h:k=a
  .subst h;by_cases h':o=k<;>simp[uN,AZ,LL,h']
  .by_cases h':o=a
   .subst h';simp[uN,AZ,LL,h];omega
   .simp only[uN,AZ,LL,dm h,dm h',dZ,cZ];exact z
def VM {k:Int} {m:Y q!} (h:VN a m=J):VN a (uN (K:=.int .i64) (V:=.bool) k J m)=J:=by
 rw[Df];split
 .rfl
 .exact h
def Yz (P Q:WO):Prop:=∀o:Int,(VN o P.2.2=J->VN o Q.2.2=J)/\(VN o P.2.1=J->VN o Q.2.1=J)
def Yz.rfl {P:WO}:Yz P P:=λ_=>⟨id,id⟩
def Yz.trans {P Q R:WO} (h:Yz P Q) (g:Yz Q R):Yz P R:=λo=>⟨λz=>(g o).1 ((h o).1 z),λz=>(g o).2 ((h o).2 z)⟩
def aoc {ar:Y WO} (e:ET) (z:a.toNat<l! ar) (i:Int):Yz (bf ar i) (bf (Ql ar a e) i):=λo=>by
 rw[Cl e i z];by_cases h:i.toNat=a.toNat
 .have:bf ar i=bf ar a:=by unfold bf dT;rw[h]
  rw[aF h,this];split
  .exact⟨VM,id⟩
  .exact⟨id,VM⟩
 .grind
def O2 {e:ET} {op:Y d?} {ar:Y WO} (h1:OpI (l! ar) op) (A:∀x∈op,(bf ar x.2).en= -1) (i:Int):∀n m:Nat,Yz (bf (zH e op ar n) i) (bf (zH e op ar (n+m)) i)
 |n,0=>Yz.rfl
 |n,m+1=>by
  refine (O2 h1 A i n m).trans ?_;show Yz _ (bf (zH e op ar (n+m+1)) i);by_cases z:jN (e.1,((n+m:Nat):Int)) op=J
  .rw[Ho z];refine aoc e ?_ i;have:=h1 _ (gh _ z);rw[(zG h1 A _).ln];omega
  .rw[UD z];exact Yz.rfl
def al4 {w:WT} {e:ET} {op:Y d?} {ar:Y WO} (h1:OpI (l! ar) op) (z:∀x∈op,(bf ar x.2).en= -1) (i:Int):Yz (bf ar i) (bf (nh w e op ar) i):=by
 unfold nh;split
 .have:=O2 (e:=e) h1 z i 0 (l! w.2.1+1);rw[b9]at this;exact this
 .exact Yz.rfl
def Hld (e:ET) (P:WO):Prop:=(e.2.1=4->VN e.2.2.1 P.2.2=J)/\(e.2.1=3->VN e.2.2.1 P.2.1=J)
def Hld.grw {e:ET} {P Q:WO} (h:Hld e P) (g:Yz P Q):Hld e Q:=⟨λz=>(g _).1 (h.1 z),λz=>(g _).2 (h.2 z)⟩
def al3 {w:WT} {e:ET} {op:Y d?} {ar:Y WO} (h1:OpI (l! ar) op) (D:∀x∈op,(bf ar x.2).en= -1) (hl:i<=l! w.2.1) (A:jN (e.1,(i:Int)) op=J):Hld e (bf (nh w e op ar) (db (e.1,(i:Int)) op)):=by
 by_cases z:e.2.1=3\/e.2.1=4
 .have N:=h1 _ (gh _ A);have L:Hld e (bf (zH e op ar (i+1)) (db (e.1,(i:Int)) op)):=by
   rw[Ho A];rw[Cl e _ (by rw[(zG h1 D _).ln];omega),aF rfl];refine ⟨λg=>?_,λg=>?_⟩
   .rw[aF g];rw[Df,aF rfl]
   .rw[ax (by omega)];rw[Df,aF rfl]
  unfold nh;rw[aF z];have:=O2 (e:=e) h1 D (db (e.1,(i:Int)) op) (i+1) (l! w.2.1-i);rw[show i+1+(l! w.2.1-i)=l! w.2.1+1 by omega]at this;exact L.grw this
 .exact⟨λg=>bC (.inr g) z,λg=>bC (.inl g) z⟩
def Acs (l:Y ET) (n:Int) (s:zN) (P:WO):Prop:=∀a:Nat,s.2.1<=(a:Int)->(a:Int)<n->(eN l a).1=s.1->Hld (eN l a) P
def HLk (w:WT) (z:SY) (lk:Nat) (s:zN):Prop:=if lk=l! w.2.1 then z.2.1=s.1 else if s.2.2.2=J then s.1∈(geti em z.1 (lk:Int)).2/\(geti tF w.2.1 (lk:Int)).2=J else (geti em z.1 (lk:Int)).1=s.1
def akv (w:WT) (s:SY) (t k o u:Int):(po w s t k o u).1.2.1=if k=12 then t else if k=13 then -1 else s.2.1:=by
 cases kdI k
 case no h _=>simp[po,h,dZ,false_or]
 all_goals (simp [po,c7,bq,dZ,fH,false_or];try (split<;>rfl))
def adi {w:WT} {z:SY} {e:ET} (en:EN w z e.1 e.2.1 e.2.2.1) (h:mT w e=(l! w.2.1:Int)):e.2.1=12:=by
 unfold mT at h;split at h
 next g=>have:=en.nm.lk (by omega);omega
 split at h
 next g=>let⟨a,b⟩:=Ru en (by omega);have h:PN w e.2.2.1=(l! w.2.1:Int):=h;have:=en.e1;omega
 omega
def amu {w:WT} {e:ET} (h:e.2.1=13):fB w e=(l! w.2.1:Int):=by
 unfold fB;omega
def HLk.new {w:WT} {A:SY} {e:ET} (en:EN w A e.1 e.2.1 e.2.2.1) (L:i<=l! w.2.1) (z:mT w e=(i:Int)) (j:Int):HLk w (po w A e.1 e.2.1 e.2.2.1 e.2.2.2.1).1 i (e.1,j,-1,decide (e.2.1=8)):=by
 unfold HLk;by_cases D:i=l! w.2.1
 .subst D;rw[aF rfl,akv,aF (adi en z)]
 .rw[ax D];have q:=aky en (show (0:Int)<=(i:Int) by omega) (by omega) z;by_cases k8:e.2.1=8
  .rw[aF k8]at q;rw[aF (a8 k8)];have:=en.nm.rw (by omega);unfold mT at z
   grind
  .grind
def HLk.zj {w:WT} {z:SY} {e:ET} (en:EN w z e.1 e.2.1 e.2.2.1) (rd:UQ w z e.1 e.2.1 e.2.2.1) {s:zN} (N:0<=s.1) (k:HLk w z i s) (A:¬(fB w e=(i:Int)/\s.1=e.1)):HLk w (po w z e.1 e.2.1 e.2.2.1 e.2.2.2.1).1 i s:=by
 have D:(0:Int)<=(i:Int):=by omega
 unfold HLk at k ⊢;by_cases L:i=l! w.2.1
 .subst L;rw[aF rfl]at k ⊢;rw[akv];split
  next g=>have:=rd.xb g;omega
  split
  next g=>have:=rd.xe g;exact bC ⟨amu g,by omega⟩ A
  .exact k
 .rw[ax L]at k ⊢;by_cases d:s.2.2.2=J
  .rw[aF d]at k ⊢;exact⟨ai7 en D k.1 A,k.2⟩
  .rw[ax d]at k ⊢;exact aih en rd D N k A
structure aya (w:WT) (l:List ET) (j:Nat) (lk:Nat) (sy:SY) (op:List (ν×Int)) (ar:List WO) (s:zN):Prop where
 o:jN (s.1,(lk:Int)) op=J
 b:(bf ar (db (s.1,(lk:Int)) op)).bg=s.2.1
 d:(bf ar (db (s.1,(lk:Int)) op)).rd=s.2.2.2
 a:Acs l (j:Int) s (bf ar (db (s.1,(lk:Int)) op))
 k:HLk w sy lk s
structure EndS (l:List ET) (lk:Nat) (re:η) (ar:List WO) (s:zN) (p:Int):Prop where
 m:p∈re
 t:(bf ar p).th=s.1
 q:(bf ar p).lk=(lk:Int)
 b:(bf ar p).bg=s.2.1
 e:(bf ar p).en=s.2.2.1
 d:(bf ar p).rd=s.2.2.2
 a:Acs l (s.2.2.1+1) s (bf ar p)
structure api (w:WT) (l:List ET) (j:Nat) (lk:Nat) (sy:SY) (op:List (ν×Int)) (re:η) (ar:List WO):Prop where
 o:∀s∈lq w l lk j,s.2.2.1<0->aya w l j lk sy op ar s
 e:∀s∈lq w l lk j,0<=s.2.2.1->∃p,EndS l lk re ar s p
def akz {w:WT} {l:Y ET} (hw:WX w) {A:SY} {op:Y d?} {ar:Y WO} {e:ET} (en:EN w A e.1 e.2.1 e.2.2.1) (rd:UQ w A e.1 e.2.1 e.2.2.1) {s:zN} (h:aya w l j i A op ar s) (ht:s.1=e.1) (z:mT w e=(i:Int)):False:=by
 have k:=h.k;have t0:=en.t0;unfold HLk at k;by_cases L:i=l! w.2.1
 .subst L;rw[aF rfl]at k;have:=rd.xb (adi en z);omega
 rw[ax L]at k;let⟨t,kd,o,v,si,r1,r2⟩:=e;dsimp only at en rd ht t0;unfold mT at z;dsimp only at z;have neg:∀{x:Int},(geti em A.1 (i:Int)).1=x->x= -1->s.2.2.2=af->False:=λhx h1 hf=>by grind
 by_cases g:kd=6\/kd=8\/kd=10
 .rw[aF g]at z;subst z;have aq:=rd.aq g;cases D:s.2.2.2 with
  |false=>exact neg aq rfl D
  |true=>
   rw[aF D]at k;rcases g with g|g|g
   .rw[en.nm.mu (.inl g)]at k;cases k.2
   .have:=rd.ra g
    grind
   .have:=rd.wr g
    grind
 .rw[ax g]at z;by_cases N:kd=17
  .rw[aF N]at z;have e1:PN w o=(i:Int):=z;let⟨a,b⟩:=en.nm.cd ⟨by omega,by omega⟩;have mk:=anh hw a b;have wk:(geti em A.1 (PN w o)).1= -1:=(rd.wk N).2.2;rw[e1]at mk wk;cases D:s.2.2.2 with
   |false=>exact neg wk rfl D
   |true=>rw[aF D,mk]at k;cases k.2
  .omega
def Acs.grw {l:Y ET} {s:zN} {P Q:WO} (h:Acs l a s P) (g:Yz P Q):Acs l a s Q:=λn h0 h1 ht=>(h n h0 h1 ht).grw g
def Acs.succ {l:Y ET} {s:zN} {P Q:WO} (h:Acs l (i:Int) s P) (g:Yz P Q) (z:(eN l i).1=s.1->Hld (eN l i) Q):Acs l ((i:Int)+1) s Q:=λa h0 h1 ht=>by
 by_cases e:a=i
 .subst e;exact z ht
 .exact (h a h0 (by omega) ht).grw g
def X' {w:WT} {e:ET} (h:mT w e=(i:Int)):e.2.1≠3/\e.2.1≠4:=by
 unfold mT at h
 grind
def ask {w:WT} {e:ET} {op:Y d?} {ar:Y WO} {k:ν} (h1:k≠(e.1,fB w e)) (A:0<=mT w e->k≠(e.1,mT w e)):(jN k (Ri w e op ar)=jN k op/\db k (Ri w e op ar)=db k op)/\jN k (xQ w e op)=jN k op/\db k (xQ w e op)=db k op:=by
 have z:jN k (xQ w e op)=jN k op/\db k (xQ w e op)=db k op:=by
  unfold xQ;split
  .exact VD h1 op
  .exact⟨rfl,rfl⟩
 refine ⟨?_,z⟩;unfold Ri;by_cases g:0<=mT w e
 .rw[aF g];let⟨a,b⟩:=abv (A g) (l! ar:Int) (xQ w e op)
  grind
 .rw[ax g];exact z
def api.next {w:WT} {l:Y ET} (tr:TR (w,l)) (hj:j<l! l) (hl:i<=l! w.2.1) {op:Y d?} {re:η} {ar:Y WO} (N:WS j op re ar) (h:api w l j i (Kk w (l.take j)).1 op re ar):
 api w l (j+1) i (Kk w (l.take (j+1))).1 (Ri w (eN l j) op (nh w (eN l j) op ar)) (yA w (eN l j) op re) (BI w (j:Int) (eN l j) op (nh w (eN l j) op ar)):=by
 have sc:=tr.sc hj;have en:=sc.en;have rd:=sc.rd;have hsy:(Kk w (l.take (j+1))).1=(po w (Kk w (l.take j)).1 (eN l j).1 (eN l j).2.1 (eN l j).2.2.1 (eN l j).2.2.2.1).1:=by rw[O3 w hj]
 have wx:WX w:=tr.wx;have e0:∀s∈lq w l i j,0<=s.1:=λs hs=>by
  have f:=rC w l i j s hs;have a0:=f.a0;have a1:=f.a1;rw[<- f.th];exact (tr.ev _ (nL (show s.2.1.toNat<l! l by omega))).t0
 rw[hsy];generalize (Kk w (l.take j)).1=sy at*
 generalize he:eN l j=e at*
 have sam:=CS (w:=w) (e:=e) N.op N.oo;have hg:=al4 (w:=w) (e:=e) N.op N.oo;have hh:∀i:Nat,i<=l! w.2.1->jN (e.1,(i:Int)) op=J->Hld e (bf (nh w e op ar) (db (e.1,(i:Int)) op)):=λi h1 h2=>al3 N.op N.oo h1 h2
 have ws1:=N.sam sam;have hln:=sam.ln;generalize nh w e op ar=ar1 at*
 have l0:(0:Int)<=(i:Int):=by omega
 refine ⟨λs hs hneg=>?_,λs hs hge=>?_⟩
 .rcases FA hs with ⟨L,rfl⟩|⟨D,hn⟩|⟨r,D,r0,h2,h3,h4⟩
  .rw[he]at L ⊢;have g0:0<=mT w e:=by omega
   have hO:Ri w e op ar1=sK (e.1,(i:Int)) (l! ar1:Int) (xQ w e op):=by unfold Ri;rw[aF g0,L]
   let⟨p1,p2⟩:=abw (e.1,(i:Int)) (l! ar1:Int) (xQ w e op);have A:bf (BI w (j:Int) e op ar1) (l! ar1:Int)=((e.1,mT w e,(j:Int),-1,decide (e.2.1=8)),[],[]):=by
    unfold BI;rw[aF g0,<-BQ w (j:Int) e op ar1];exact Lz _ _
   refine ⟨by rw[hO];exact p1,by dsimp only;rw[hO,p2,A],by dsimp only;rw[hO,p2,A],?_,?_⟩
   .intro a ha0 ha1 _;dsimp only at ha0;have:a=j:=by omega
    subst this;let⟨k3,k4⟩:=X' L;rw[he];exact⟨λz=>bC z k4,λz=>bC z k3⟩
   .exact HLk.new en hl L _
  .have O:=h.o s D hneg;rw[he]at hn;have n1:(s.1,(i:Int))≠(e.1,fB w e):=λz=>hn ⟨(Prod.mk.inj z).2.symm,(Prod.mk.inj z).1,hneg⟩
   have n2:0<=mT w e->(s.1,(i:Int))≠(e.1,mT w e):=λ_ z=>akz wx en rd O (Prod.mk.inj z).1 (Prod.mk.inj z).2.symm
   let⟨⟨o1,o2⟩,o3,o4⟩:=ask (op:=op) (ar:=ar1) n1 n2;have hm:=gh _ (o3.trans O.o);rw[o4]at hm;have hr:=ws1.op _ (FB ws1.ks hm).1;dsimp only at hr;have A:bf (BI w (j:Int) e op ar1) (db (s.1,(i:Int)) op)=bf ar1 (db (s.1,(i:Int)) op):=by
    rw[HN hr.1 hr.2];exact SD ws1 hm (j:Int)
   have hd:=sam.hd (db (s.1,(i:Int)) op);refine ⟨o1.trans O.o,?_,?_,?_,?_⟩
   .rw[o2,A];show (bf ar1 _).1.2.2.1=_;rw[hd];exact O.b
   .rw[o2,A];show (bf ar1 _).1.2.2.2.2=_;rw[hd];exact O.d
   .rw[o2,A];refine O.a.succ (hg _) λht=>?_
    rw[he]at ht ⊢;have:=hh i (by omega) (by rw[ht];exact O.o);rw[ht]at this;exact this
   .have hr':¬(fB w e=(i:Int)/\s.1=e.1):=λz=>hn ⟨z.1,z.2,hneg⟩
    exact O.k.zj en rd (e0 s D) hr'
  .omega
 .have old:∀{p:Int},p∈re->p∈yA w e op re:=λhp=>by
   unfold yA;split
   .exact eV _ hp
   .exact hp
  rcases FA hs with ⟨L,rfl⟩|⟨D,hn⟩|⟨r,D,r0,h2,h3,h4⟩
  .dsimp only at hge;omega
  .obtain⟨p,E⟩:=h.e s D hge;let⟨⟨p0,p1⟩,p2⟩:=N.r p E.m;have A:bf (BI w (j:Int) e op ar1) p=bf ar p:=by
    rw[HN p0 (by omega),rD ws1.op,ax,sam.eq p p2];rintro⟨L,hz⟩;have h1:=ws1.oo _ (gh _ L);have e1:bf ar1 p=bf ar1 (db (e.1,fB w e) op):=by unfold bf dT;rw[hz]
    dsimp only at h1;rw[<- e1,sam.eq p p2]at h1;exact p2 h1
   exact⟨p,old E.m,by rw[A];exact E.t,by rw[A];exact E.q,by rw[A];exact E.b,by rw[A];exact E.e,by rw[A];exact E.d,by rw[A];exact E.a⟩
  .have O:=h.o _ D r0;rw[he]at h2 h3;have Oo:=O.o;have Ob:=O.b;have Od:=O.d;have Oa:=O.a;dsimp only at Oo Ob Od Oa;rw[h3]at Oo Ob Od Oa;have L:scQ w e op=J:=by unfold scQ;rw[h2];exact Oo
   have hm:=N.o _ (gh _ Oo);dsimp only at hm;have hd:=sam.hd (db (e.1,(i:Int)) op);have A:bf (BI w (j:Int) e op ar1) (db (e.1,(i:Int)) op)=IA (j:Int) (bf ar1 (db (e.1,(i:Int)) op)):=by
    rw[HN hm.1.1 (by omega),rD ws1.op,aF ⟨L,by rw[h2]⟩,h2]
   refine ⟨db (e.1,(i:Int)) op,by unfold yA;rw[aF L,h2];simp,?_,?_,?_,?_,?_,?_⟩
   .rw[A,h3];show (bf ar1 _).1.1=_;rw[hd];exact hm.2.1
   .rw[A];show (bf ar1 _).1.2.1=_;rw[hd];exact hm.2.2.1
   .rw[A];show (bf ar1 _).1.2.2.1=_;rw[hd];exact Ob
   .rw[A];exact h4.symm
   .rw[A];show (bf ar1 _).1.2.2.2.2=_;rw[hd];exact Od
   .rw[A,h4];have hk:=hh i (by omega) Oo;intro a ha0 ha1 ht;by_cases ej:a=j
    .subst ej;rw[he];exact⟨hk.1,hk.2⟩
    .have:=(Oa a ha0 (by omega) (by dsimp only;rw[ht,h3])).grw (hg _);exact⟨this.1,this.2⟩
def Cnf (x y:ET):Prop:=(x.2.1=3\/x.2.1=4)/\(y.2.1=3\/y.2.1=4)/\x.2.2.1=y.2.2.1/\(x.2.1=4\/y.2.1=4)
def ay8 (w:WT) (l:Y ET) (c:Y η) (i:Nat):Prop:=∀lk:Nat,lk<=l! w.2.1->∀P∈lq w l lk i,∀Q∈lq w l lk i,Q.2.2.1<0->Q.1=(eN l i).1->0<=P.2.2.1->P.1≠Q.1->(P.2.2.2&&Q.2.2.2)=af->P.2.2.1<Q.2.1->
 ((∃a:Nat,P.2.1<=(a:Int)/\(a:Int)<=P.2.2.1/\(eN l a).1=P.1/\Cnf (eN l a) (eN l i))->wQ (jc c P.2.2.1) (c.getD i []))/\
 (fB w (eN l i)=(lk:Int)->(jc c P.2.1).getD (eL l P.2.1.toNat) 0<=(c.getD i []).getD (eL l P.2.1.toNat) 0->wQ (jc c P.2.2.1) (c.getD i []))
def HSx (w:WT) (l:Y ET):WkH:=λj c _ _ _ _ _ _ _ op re ar _ _=>(∀lk:Nat,lk<=l! w.2.1->api w l j lk (Kk w (l.take j)).1 op re ar)/\∀i:Nat,i<j->ay8 w l c i
def avm {w:WT} {l:Y ET} (tr:TR (w,l)):HK w l (HSx w l):=by
 refine ⟨⟨λlk _=>⟨λs hs=>(by cases hs),λs hs=>(by cases hs)⟩,λi hi=>bC hi (bN _)⟩,λj c tm la sp wa wt st se op re ar si ei clk hj g h hk=>⟨λlk A=>(h.1 lk A).next tr hj A g.ws,λi hi=>?_⟩⟩;have hcl:=g.ci.k.cl;have gl:∀(x:η) (i:Nat),i<j->(c++[x]).getD i []=c.getD i []:=λx i hi=>by grind
 have gj:∀x:η,(c++[x]).getD j []=x:=λx=>by grind
 have jl_:∀(x:η) (i:Int),0<=i->i<(j:Int)->jc (c++[x]) i=jc c i:=λx i h0 h1=>gl x _ (by omega)
 by_cases e:i=j
 .subst e;intro lk A P N Q L q1 q2 D ne rdn lt;have fP:=rC w l lk i P N;have fQ:=rC w l lk i Q L;have a0:=fP.a0;have a1:=fP.a1;have b1:=fQ.a1;let⟨p,E⟩:=(h.1 lk A).e P N D;have O:=(h.1 lk A).o Q L q1;have Oo:=O.o;have Ob:=O.b;have Od:=O.d;rw[q2]at Oo Ob Od;have hm:=g.ws.o _ (gh _ Oo);dsimp only at hm;have mat:qP (bf ar p) (bf ar (db ((eN l i).1,(lk:Int)) op))=J:=by
   unfold qP;rw[E.q,hm.2.2.1,E.t,hm.2.1,E.d,Od,E.e,Ob,rdn,a8 rfl,dm (by omega),r_.2 lt];rfl
  have en':jc c (bf ar p).en=jc c P.2.2.1:=by rw[E.e]
  rw[gj,jl_ _ _ D (by omega),jl_ _ _ a0 a1];refine ⟨?_,λhr hle=>?_⟩
  .rintro⟨a,c0,c1,c2,ka,ki,ko,kk⟩;have:=hk.jr.b ki (lk:Int) (by omega) (by omega) Oo p E.m mat ?_
   .rw[en']at this;exact this.trans (L1 _ _)
   .have hh:=E.a a c0 (by omega) c2;unfold Us;rcases ka with k3|k4
    .have k4:(eN l i).2.1=4:=by omega
     have:=hh.2 k3
     grind
    .have:=hh.1 k4
     grind
  .have tne:eL l P.2.1.toNat≠eL l i:=λz=>ne (by
    have x1:=(tr.ev _ (nL (show P.2.1.toNat<l! l by omega))).t0;have x2:=(tr.ev _ (nL hj)).t0;unfold eL at z;rw[<- fP.th,q2];dsimp only at x1 x2;omega)
   rw[EL,ax tne]at hle;have:=hk.jr.c (by grind) p E.m (by grind) (by rw[E.b];exact (g.ci.cvr a0 a1 clk).2 hle);rw[E.e]at this;have:=(g.ci.cvr D (by omega) clk).1 this;exact (hk.jc.cl P.2.2.1.toNat (by omega) this).trans (L1 _ _)
 .have h2:=h.2 i (by omega);intro lk A P N Q L q1 q2 D ne rdn lt;have fP:=rC w l lk i P N;have fQ:=rC w l lk i Q L;have:=h2 lk A P N Q L q1 q2 D ne rdn lt;have b1:=fQ.a1;rw[gl _ _ (by omega),jl_ _ _ D (by omega),jl_ _ _ fP.a0 (by have:=fP.a1;omega)];exact this
def al2 (w:WT) (e:ET):Int:=if e.2.1=6\/e.2.1=8\/e.2.1=10 then e.2.2.1 else if e.2.1=17 then PN w e.2.2.1 else -1
def ai4 (w:WT) (e:ET):Int:=if e.2.1=7\/e.2.1=9\/e.2.1=11 then e.2.2.1 else if e.2.1=16 then PN w e.2.2.1 else -1
def al1 (w:WT) (e:ET) (A:0<=a) (z:a<l! w.2.1):al2 w e=a↔mT w e=a:=by
 unfold al2 mT PN;repeat' split
 all_goals first|exact Iff.rfl|omega
def ai3 (w:WT) (e:ET) (A:0<=a) (z:a<l! w.2.1):ai4 w e=a↔fB w e=a:=by
 unfold ai4 fB PN;repeat' split
 all_goals first|exact Iff.rfl|omega
def adq {w:WT} (h0:0<=a) (h1:a<l! w.2.2.1):qH (w,a)=Z (PN w a):=by
 let⟨w1,N,L,D,A,z⟩:=w;refine cI ?_;refine aV (λx=>x=(af,w1,N,L,D,A,z)) ?_ ?_
 .refine bQ (λg=>(by omega)) λ_=>ak ?_
  rw[aqu (by omega)]
 .rintro x rfl;exact kg (bF (ak rfl))
def azw {w:WT} {e:ET} (hev:Fp w e):pR (w,e)=Z (al2 w e,decide (e.2.1=8)):=by
 refine cI ?_;let⟨nm,t0,t1,cd⟩:=hev;let⟨t,k,o,v,s,r1,r2⟩:=e;dsimp only at nm t0 t1;have mu:k=17->qH (w,o)=Z (PN w o):=λg=>adq (nm.cd ⟨by omega,by omega⟩).1 (nm.cd ⟨by omega,by omega⟩).2
 let⟨w1,N,L,D,A,z⟩:=w;unfold pR al2 bk bB bP cP eU ef xa bm aI;refine aV (λx=>x=(decide (k=6\/k=10),(w1,N,L,D,A,z),t,k,o,v,s,r1,r2)) ?_ ?_
 .refine aK (λg=>ak ?_) λg=>ak ?_
  .grind
  .grind
 .rintro x rfl;dsimp only;refine aK (λg=>ak ?_) λg1=>?_
  .have g:k=6\/k=10:=g;rw[aF (by omega),dm (by omega)]
  refine aK (λg=>ak ?_) λg2=>?_
  .grind
  rw[ax (by omega),dm g2];refine aK (λg=>?_) λg3=>ak ?_
  .have g:k=17:=g;rw[aF g];exact aX (mu g) (ak rfl)
  .grind
def ay9 {w:WT} {e:ET} (hev:Fp w e):pQ (w,e)=Z (ai4 w e,decide (e.2.1=9)):=by
 refine cI ?_;let⟨nm,t0,t1,cd⟩:=hev;let⟨t,k,o,v,s,r1,r2⟩:=e;dsimp only at nm t0 t1;have mu:k=16->qH (w,o)=Z (PN w o):=λg=>adq (nm.cd ⟨by omega,by omega⟩).1 (nm.cd ⟨by omega,by omega⟩).2
 let⟨w1,N,L,D,A,z⟩:=w;unfold pQ ai4 bk bB bP cP eU ef xa bm aI;refine aV (λx=>x=(decide (k=7\/k=11),(w1,N,L,D,A,z),t,k,o,v,s,r1,r2)) ?_ ?_
 .refine aK (λg=>ak ?_) λg=>ak ?_
  .grind
  .grind
 .rintro x rfl;dsimp only;refine aK (λg=>ak ?_) λg1=>?_
  .have g:k=7\/k=11:=g;rw[aF (by omega),dm (by omega)]
  refine aK (λg=>ak ?_) λg2=>?_
  .grind
  rw[ax (by omega),dm g2];refine aK (λg=>?_) λg3=>ak ?_
  .have g:k=16:=g;rw[aF g];exact aX (mu g) (ak rfl)
  .grind
section ml
variable {α:Type} {f:α->α} {S:Y α} {k:Nat}
def awr (z:k<=l! S):l! ((S.take k).map f)=k:=by simp;omega
def asv (z:k<=l! S):l! ((S.take k).map f++S.drop k)=l! S:=by rw[bz,awr z,sH];omega
def asw (d:α) (z:k<l! S):((S.take k).map f++S.drop k).getD k d=S.getD k d:=by grind
def asu (d:α) (z:k<l! S):((S.take k).map f++S.drop k).set k (f (S.getD k d))=(S.take (k+1)).map f++S.drop (k+1):=by
 have h1:=awr (f:=f) (Ll z);rw[List.set_append_right _ _ (by omega),h1,xc,sV d z,cr,iV,Q4 z];rfl
def aws (d:α) (z:k<l! S) (h:f (S.getD k d)=S.getD k d):(S.take (k+1)).map f++S.drop (k+1)=(S.take k).map f++S.drop k:=by
 rw[sV d z,cr,iV,Q4 z]
 grind
end ml
def CX (x:ET):qX x=Z (decide (x.2.1=3\/x.2.1=4)):=by
 refine cI ?_;refine aV (λz=>z=decide (x.2.1=3\/x.2.1=4)) ?_ (by rintro z rfl;exact ak rfl);refine aK (λg=>ak ?_) λg=>ak ?_
 .grind
 .grind
def enB (l:Y ET) (q:zN):Nat:=if q.2.2.1<0 then l! l else q.2.2.1.toNat+1
def Lkd (l:Y ET) (cs:Y η) (p q:zN):Prop:=∃a b:Nat,(p.2.1<=(a:Int)/\(a:Int)<=p.2.2.1/\(eN l a).1=p.1)/\(q.2.1<=(b:Int)/\b<enB l q/\(eN l b).1=q.1)/\(ct l (eL l a) (a+1):Int)<=(cs.getD b []).getD (eL l a) 0
structure aph (w:WT) (l:List ET) (cs:List η) (p q:zN):Prop where
 cf:∀a b:Nat,(p.2.1<=(a:Int)/\(a:Int)<=p.2.2.1/\(eN l a).1=p.1)->(q.2.1<=(b:Int)/\b<enB l q/\(eN l b).1=q.1)->Cnf (eN l a) (eN l b)->wQ (jc cs p.2.2.1) (cs.getD b [])
 lk:0<=q.2.2.1->Lkd l cs p q->wQ (jc cs p.2.2.1) (jc cs q.2.2.1)
def at9 {w:WT} {l:Y ET} {q:zN} (h:SeF w l a (l! l) q):enB l q<=l! l:=by
 unfold enB;rcases h.r with h|⟨h1,z,_⟩
 .grind
 .grind
def amq {w:WT} {l:Y ET} {cs:Y η} {tm:Y ν} {la:η} (ci:CI w l (l! l) cs tm la) (h:∀lk:Nat,lk<l! l->ay8 w l cs lk) (hl:i<=l! w.2.1) {p q:zN} (hp:p∈lq w l (i:Int) (l! l)) (hq:q∈lq w l (i:Int) (l! l)) (ne:p.1≠q.1) (rd:(p.2.2.2&&q.2.2.2)=af) (p0:0<=p.2.2.1) (le:p.2.2.1<=q.2.1):aph w l cs p q:=by
 have fp:=rC w l i _ p hp;have D:=rC w l i _ q hq;have hB:=at9 D;rcases fp.r with hr|⟨r1,r2,r3,r4⟩
 .omega
 have lt:p.2.2.1<q.2.1:=by
  rcases Int.lt_or_eq_of_le le with h|h
  .exact h
  .rw[h,D.th]at r3;exact bC r3.symm ne
 have N:∀b:Nat,q.2.1<(b:Int)->b<enB l q->(eN l b).1=q.1->((∃a:Nat,p.2.1<=(a:Int)/\(a:Int)<=p.2.2.1/\(eN l a).1=p.1/\Cnf (eN l a) (eN l b))->wQ (jc cs p.2.2.1) (cs.getD b []))/\(fB w (eN l b)=(i:Int)->(jc cs p.2.1).getD (eL l p.2.1.toNat) 0<=(cs.getD b []).getD (eL l p.2.1.toNat) 0->wQ (jc cs p.2.2.1) (cs.getD b [])):=λb z hbB hbt=>by
  have hbl:b<l! l:=by omega
  have P':=C9 hp (Ll hbl) (by omega);have Q':=C9 hq (Ll hbl) z;have eP:atS b p=p:=by unfold atS;rw[aF ⟨p0,by omega⟩]
  have eQ:atS b q=(q.1,q.2.1,-1,q.2.2.2):=by
   unfold atS;unfold enB at hbB
   grind
  rw[eP]at P';rw[eQ]at Q';exact h b hbl i hl p P' _ Q' (by simp) hbt.symm p0 ne rd lt
 refine ⟨λa b A z hc=>?_,λq0 hL=>?_⟩
 .by_cases e:q.2.1=(b:Int)
  .have aq:=D.aq;rw[e,be]at aq;let⟨k3,k4⟩:=X' aq;rcases hc.2.1 with g|g
   .exact bC g k3
   .exact bC g k4
  .exact (N b (by omega) z.2.1 z.2.2).1 ⟨a,A.1,A.2.1,A.2.2,hc⟩
 .obtain⟨a,b,A,z,hle⟩:=hL;rcases D.r with hr|⟨s1,s2,L,s4⟩
  .omega
  have hbl:b<l! l:=by omega
  have eB:enB l q=q.2.2.1.toNat+1:=by unfold enB;rw[ax (by omega)]
  have thb:eL l b=eL l q.2.2.1.toNat:=by unfold eL;rw[z.2.2,L]
  have own:∀lk:Nat,lk<l! l->(cs.getD lk []).getD (eL l lk) 0=(ct l (eL l lk) (lk+1):Int):=ci.own;have hbr:wQ (cs.getD b []) (cs.getD q.2.2.1.toNat []):=by
   refine ci.cls b q.2.2.1.toNat hbl (by omega) ?_;rw[own b hbl,thb,own _ (show q.2.2.1.toNat<l! l by omega)];have:=He l (eL l q.2.2.1.toNat) (show b+1<=q.2.2.1.toNat+1 by omega);omega
  have tha:eL l a=eL l p.2.1.toNat:=by unfold eL;rw[A.2.2,fp.th]
  have hpa:(jc cs p.2.1).getD (eL l p.2.1.toNat) 0<=(cs.getD q.2.2.1.toNat []).getD (eL l p.2.1.toNat) 0:=by
   have e1:(jc cs p.2.1).getD (eL l p.2.1.toNat) 0=(ct l (eL l p.2.1.toNat) (p.2.1.toNat+1):Int):=own _ (show p.2.1.toNat<l! l by omega);have e2:=He l (eL l p.2.1.toNat) (show p.2.1.toNat+1<=a+1 by omega);have e3:=hbr (eL l p.2.1.toNat);rw[tha]at hle;omega
  have r':=(N q.2.2.1.toNat (by omega) (by omega) L).2 s4 hpa;exact r'
def U7 (w:WT) (l:Y ET) (lk:Int):∀n:Nat,l! (lq w l lk n)<=n
 |0=>bI _
 |n+1=>by
  have:=U7 w l lk n;rw[lq,bz]
  grind
def mo (o:Y θ) (i j:Nat):Bool:=(o.getD i []).getD j af
structure I0 (N:Nat) (ln:η) (o:List θ):Prop where
 a:l! ln=N
 b:l! o=N
 c:∀i:Nat,i<N->ln.getD i 0=(N:Int)/\l! (o.getD i [])=N
def oS (o:Y θ) (i j:Nat):Y θ:=o.set i ((o.getD i []).set j J)
def Ma (xss:Y θ) (o:Nat):kX (T:=.bool) xss (o:Int)=xss.getD o []:=by unfold kX;rw[be]
def ain (o:Y θ) (i j:Nat):mB (T:=.bool) o (i:Int) (cC (kX (T:=.bool) o (i:Int)) (j:Int) J)=oS o i j:=by
 rw[Ma];unfold mB oS cC;rw[be,be]
def gB (o:Y θ) (i j:Nat):geti (.bool) (o.getD i []) (j:Int)=mo o i j:=uT (T:=.bool) _ j
variable {z:η} {m:Y θ}
def S5 {N:Nat} (h:I0 N z m) (hi:i<N) (A:j<N) (a b:Nat):mo (oS m i j) a b=J↔mo m a b=J\/(a=i/\b=j):=by
 have D:=(h.c i hi).2;unfold mo oS
 grind
def I0.set {N:Nat} (h:I0 N z m) (hi:i<N):I0 N z (oS m i j):=by
 refine ⟨h.a,by unfold oS;rw[dF];exact h.b,λk A=>⟨(h.c k A).1,?_⟩⟩;have h1:=h.b;unfold oS;rw[aE,ey];by_cases e:i=k
 .subst e;rw[aF rfl,aF (by omega)];dsimp [Option.getD];rw[dF];exact (h.c i A).2
 .rw[ax e,<-aE];exact (h.c k A).2
def aqv (h:I0 j z m) (hi:i<j):aN (m_ z (i:Int))=j:=by
 rw[Ap,(h.c i hi).1,be]
def Vx {N:Nat} (h:I0 N z m) (hi:i<N) (D:j<N) {k:Bool->M R} {Q:R->Prop} (A:Ok (k (mo m i j)) Q):Ok (chk (dN (i:Int) (aj z)) λ_=>chk (dN (i:Int) (aj z)) λ_=>chk (dN (j:Int) (aN (m_ z (i:Int)))) λ_=>chk (dN (i:Int) (aj m)) λ_=>chk (dN (j:Int) (aj (kX (T:=.bool) m (i:Int)))) λ_=>lt (geti (.bool) (kX (T:=.bool) m (i:Int)) (j:Int)) k) Q:=by
 have h1:=h.a;have h2:=h.b;have L:=(h.c i hi).2;rw[aqv h hi,Ma,gB];exact bF (bF (bF (bF (bF (aT A)))))
def YX {N:Nat} (h:I0 N z m) (hi:i<N) (D:j<N) {k:M R} {Q:R->Prop} (A:Ok k Q):Ok (chk (dN (i:Int) (aj z)) λ_=>chk (dN (i:Int) (aj z)) λ_=>chk (dN (j:Int) (aN (m_ z (i:Int)))) λ_=>chk (dN (i:Int) (aj m)) λ_=>chk (dN (j:Int) (aj (kX (T:=.bool) m (i:Int)))) λ_=>k) Q:=by
 have h1:=h.a;have h2:=h.b;have L:=(h.c i hi).2;rw[aqv h hi,Ma];exact bF (bF (bF (bF (bF A))))
def Vv {N:Nat} (h:I0 N z m) (hi:i<N) (A:j<N):rR (((i:Int),(j:Int)),z,m)=Z (!mo m i j,z,if mo m i j=J then m else oS m i j):=by
 refine cI ?_;refine Vx h hi A ?_;refine aQ (λe=>ak ?_) λe=>YX h hi A (ak ?_)
 .rw[e];rfl
 .rw[e,<-ain];rfl
structure OrC (N k:Nat) (o o':List θ):Prop where
 up:∀a b:Nat,a<N->b<N->mo o a b=J->mo o' a b=J
 tr:∀a m b:Nat,a<N->m<k->b<N->mo o' a m=J->mo o' m b=J->mo o' a b=J
 lo:∀R:Nat->Nat->Prop,(∀a m b,a<N->m<N->b<N->R a m->R m b->R a b)->(∀a b,a<N->b<N->mo o a b=J->R a b)->∀a b,a<N->b<N->mo o' a b=J->R a b
def OrC.next (hk:j<i) {o1 o2:Y θ} (h:OrC i j m o1) (g:∀a b:Nat,a<i->b<i->(mo o2 a b=J↔mo o1 a b=J\/(mo o1 a j=J/\mo o1 j b=J))):OrC i (j+1) m o2:=by
 refine ⟨λa b z A e=>(g a b z A).2 (.inl (h.up a b z A e)),λa o b z hm A D e2=>?_,λR ht A a b z L e=>?_⟩
 .have hmN:o<i:=by omega
  rw[g a o z hmN]at D;rw[g o b hmN A]at e2;rw[g a b z A];by_cases e:o=j
  .grind
  .have hm:o<j:=by omega
   rcases D with D|⟨D,e3⟩
   .rcases e2 with e2|⟨e2,e4⟩
    .exact .inl (h.tr a o b z hm A D e2)
    .exact .inr ⟨h.tr a o j z hm hk D e2,e4⟩
   .rcases e2 with e2|⟨e2,e4⟩
    .exact .inr ⟨D,h.tr j o b hk hm A e3 e2⟩
    .exact .inr ⟨D,e4⟩
 .rcases (g a b z L).1 e with e|⟨D,e2⟩
  .exact h.lo R ht A a b z L e
  .exact ht a j b z hk L (h.lo R ht A a j z hk D) (h.lo R ht A j b hk L e2)
def acz (hN:i<=1000) (h:I0 i z m):Ok (ku (z,m)) λy=>I0 i y.1 y.2/\OrC i i m y.2:=by
 unfold ku ck bV kO bT bW bc c8 aI cS;have hl:=h.a;refine bR i (λk x=>∃ln' A,x=((k:Int),ln',A)/\I0 i ln' A/\OrC i k m A) ?_ ?_ ⟨z,m,rfl,h,λa b _ _ e=>e,λa o b _ hm=>bC hm (bN _),λR _ L a b ha hb' e=>L a b ha hb' e⟩
 .rintro k x hk ⟨ln1,ln,rfl,h1,c1⟩;refine cU ?_;have hl1:=h1.a;refine bR i (λN x=>∃ln' A,x=((N:Int),ln',A)/\I0 i ln' A/\∀a b:Nat,a<i->b<i->(mo A a b=J↔mo ln a b=J\/(a<N/\mo ln a k=J/\mo ln k b=J))) ?_ ?_ ⟨ln1,ln,rfl,h1,λa b _ _=>⟨.inl,λe=>e.elim id λe=>bC e.1 (bN _)⟩⟩
  .rintro N x hi ⟨ln2,o2,rfl,h2,g2⟩;refine cU ?_;have hl2:=h2.a;refine aV (λx=>I0 i x.1 x.2/\∀a b:Nat,a<i->b<i->(mo x.2 a b=J↔mo ln a b=J\/(a<N+1/\mo ln a k=J/\mo ln k b=J))) ?_ ?_
   .refine Vx h2 hi hk ?_;have hik:mo o2 N k=J↔mo ln N k=J:=by grind
    refine dK (λe=>ak ⟨h2,λa b ha L=>?_⟩) λe=>?_
    .grind
    .have e1:=hik.1 e;refine bR i (λj x=>∃ln' A,x=((j:Int),ln',A)/\I0 i ln' A/\∀a b:Nat,a<i->b<i->(mo A a b=J↔mo ln a b=J\/((a<N\/a=N/\b<j)/\mo ln a k=J/\mo ln k b=J))) ?_ ?_ ⟨ln2,o2,rfl,h2,λa b ha L=>?_⟩
     .rintro j x hj ⟨ln3,o3,rfl,D,g3⟩;refine cU ?_;refine aV (λx=>I0 i x.1 x.2/\∀a b:Nat,a<i->b<i->(mo x.2 a b=J↔mo ln a b=J\/((a<N\/a=N/\b<j+1)/\mo ln a k=J/\mo ln k b=J))) ?_ ?_
      .refine Vx D hk hj ?_;have hkj:mo o3 k j=J↔mo ln k j=J:=by grind
       refine aQ (λf=>?_) λf=>ak ⟨D,λa b ha L=>?_⟩
       .refine YX D hi hj (ak ?_);rw[ain];refine ⟨D.set hi,λa b ha L=>?_⟩;rw[S5 D hi hj,g3 a b ha L]
        grind
       .grind
      .rintro⟨ln4,o4⟩ ⟨h4,g4⟩;refine ak ⟨ln4,o4,?_,h4,g4⟩;rw[fL]
     .rintro x ⟨ln3,o3,rfl,D,g3⟩;refine cO (ak ⟨D,λa b ha L=>?_⟩)
      grind
     .grind
   .rintro⟨ln3,o3⟩ ⟨D,g3⟩;refine ak ⟨ln3,o3,?_,D,g3⟩;rw[fL]
  .rintro x ⟨ln2,o2,rfl,h2,g2⟩;refine cO (ak ⟨ln2,o2,?_,h2,c1.next hk λa b ha L=>?_⟩)
   .rw[fL]
   .grind
 .rintro x ⟨ln1,ln,rfl,h1,c1⟩;exact cO (ak ⟨h1,c1⟩)
def Dr (l:Y ET) (p:zN) (a:Nat):Prop:=(eN l a).1=p.1/\p.2.1<=(a:Int)/\(p.2.2.1<0\/(a:Int)<=p.2.2.1)
def vF {l:Y ET} {p:zN} (A:i<l! l):Ok (iw (p,l,(i:Int))) λb=>b=J↔Dr l p i:=by
 unfold iw Dr bk bm bV jZ bW aI;refine gQ (bF (aT ?_));refine aK (λh=>?_) λh=>ak (ak ?_)
 refine eh (λh1=>?_) λh1=>ak (ak ?_)
 refine bQ (λz=>ak (ak ?_)) λz=>ak (ak ?_)
 .grind
 .rw[LH]
  grind
 .grind
 .grind
def aj3 {l:Y ET} (hl:l! l<=1000) {p q:zN} (h:I0 (l! l) z m):Ok (ua ((l,p,q),z,m)) λy=>y.2=(z,m)/\(y.1=J↔∃a b:Nat,a<l! l/\b<l! l/\Dr l p a/\Dr l q b/\mo m a b=J):=by
 unfold ua bk bB dQ ck bV kO bT bW bc c8 aI cS;refine bR (l! l) (λa x=>x=((a:Int),z,m,p,q)/\∀L b:Nat,L<a->b<l! l->¬(Dr l p L/\Dr l q b/\mo m L b=J)) ?_ ?_ ⟨rfl,λL _ h=>bC h (bN _)⟩
 .rintro a x D ⟨rfl,hno⟩;refine cU ?_;refine bR (l! l) (λb x=>x=((b:Int),z,m,p,q)/\∀b':Nat,b'<b->¬(Dr l p a/\Dr l q b'/\mo m a b'=J)) ?_ ?_ ⟨rfl,λb' h=>bC h (bN _)⟩
  .rintro b x A ⟨rfl,hnb⟩;refine cU ?_;refine aV (λx=>∃t,x=(t,z,m,p,q)/\(t=J↔Dr l p a/\Dr l q b/\mo m a b=J)) ?_ ?_
   .refine aw (vF D) λt ht=>?_
    refine aQ (λe=>?_) λe=>ak ⟨_,rfl,?_⟩
    .refine aw (vF A) λt2 N=>?_
     refine aQ (λe2=>?_) λe2=>ak ⟨_,rfl,?_⟩
     .refine Vx h D A (ak ⟨_,rfl,?_⟩)
      grind
     .grind
    .grind
   rintro x ⟨t,rfl,ht⟩;refine aQ (λe=>ak ⟨rfl,λ_=>⟨a,b,D,A,ht.1 e⟩,λ_=>rfl⟩) λe=>ak ⟨?_,λb' hb'=>?_⟩
   .rw[fL]
   .grind
  .rintro x ⟨rfl,hnb⟩;refine cO (ak ⟨?_,λL b ha' A=>?_⟩)
   .rw[fL]
   .grind
 .rintro x ⟨rfl,hno⟩;exact cO (ak ⟨rfl,nofun,λ⟨a,b,D,A,g⟩=>bC g (hno a b D A)⟩)
def RF (p q:zN):Ok (rS (p,q)) λb=>b=J↔p.1≠q.1/\(p.2.2.2&&q.2.2.2)=af/\0<=p.2.2.1/\p.2.2.1<q.2.1:=by
 let⟨pt,pa,pr,A⟩:=p;let⟨D,N,L,z⟩:=q;refine gQ (cj (λe=>?_) λe=>ak (ak ?_))
 case refine_2=>exact⟨nofun,λg=>(g.1 e).elim⟩
 cases A
 .refine kg (eh (λh=>ak (ak ?_)) λh=>ak (ak ?_))
  .simp_all
  .grind
 .cases z
  .refine FU (FU (eh (λh=>ak (ak ?_)) λh=>ak (ak ?_)))
   .simp_all
   .grind
  .refine FU (kg (ak (ak ?_)))
   grind
def cnW (l:Y ET) (o:Y θ) (j u:Nat):Nat->Nat
 |0=>0
 |n+1=>cnW l o j u n+if eL l n=u/\(n=j\/mo o n j=J) then 1 else 0
def ar0 (l:Y ET) (o:Y θ) (j u:Nat):∀n,cnW l o j u n<=n
 |0=>bI _
 |n+1=>by have:=ar0 l o j u n;simp[cnW];split<;>omega
def By (l:Y ET) (o:Y θ) (T j n:Nat):η:=(dG T).map λu=>(cnW l o j u n:Int)
def Vg (l:Y ET) (o:Y θ) (T j n:Nat):l! (By l o T j n)=T:=by simp[By]
def ahv (l:Y ET) (o:Y θ) (u n:Nat) (z:j<i):(By l o i u n).getD j 0=(cnW l o u j n:Int):=by
 unfold By
 grind
def aea (l:Y ET) (o:Y θ) (T j:Nat):By l o T j 0=aG T 0:=by
 unfold By;apply pZ;simp[bE,fW,cnW]
 grind
def amt {l:Y ET} {n:Nat} (h:¬(n=j\/mo m n j=J)):By l m i j (n+1)=By l m i j n:=by
 refine kS λu _=>?_
 rw[cnW,ax λg=>h g.2];rfl
def ahu {l:Y ET} {n:Nat} (h:n=j\/mo m n j=J):By l m i j (n+1)=(By l m i j n).set (eL l n) ((cnW l m j (eL l n) n+1:Nat):Int):=by
 unfold By;apply pZ;intro T;rw[ey,cq,List.length_range];by_cases hi:T<i
 .rw[bE,bE,List.getElem?_range hi];simp[bx,cnW]
  grind
 .grind
structure TbC (l:List ET) (o:List θ) (T k:Nat) (cl:η) (cs:List η):Prop where
 a:l! cl=l! l
 b:l! cs=l! l
 c:∀i:Nat,i<k->cl.getD i 0=(T:Int)/\cs.getD i []=By l o T i (l! l)
def yz (d:R) {xs:Y R} (x:R) (h:i<l! xs) (k:Nat):(xs.set i x).getD k d=if k=i then x else xs.getD k d:=by grind
def HH {w:WT} {l:Y ET} (tr:TR (w,l)) (z:j<l! l):eL l j<l! w.2.2.2.2.1:=by
 have h0:=(tr.ev _ (nL z)).t0;have h1:=(tr.ev _ (nL z)).t1;dsimp only at h0 h1;unfold eL;omega
def am1 {w:WT} {l:Y ET} (tr:TR (w,l)) (h:I0 (l! l) z m):Ok (uc ((l,(l! w.2.2.2.2.1:Int)),z,m)) λy=>y.1=z/\y.2.1=m/\TbC l m (l! w.2.2.2.2.1) (l! l) y.2.2.1 y.2.2.2:=by
 have hl:l! l<=400:=tr.len;have hT:l! w.2.2.2.2.1<=4:=tr.wb.t;unfold uc bk bB dQ ck bm bV kO bT bW bc c8 aI cS;generalize hTe:l! w.2.2.2.2.1=T at*
 refine cE (cE (dh (by simp) (dh (dg _) (bG (by grind) (by omega) ?_))));refine bR (l! l) (λj x=>∃A cs,x=((j:Int),z,m,A,cs)/\TbC l m T j A cs) ?_ ?_ ⟨_,_,rfl,by simp,by simp,λi hi=>bC hi (bN _)⟩
 .rintro j x hj ⟨A,cs,rfl,L⟩;have ta:=L.a;have tb2:=L.b;refine cU (cE (cE (dh (eD _) (dh (dg _) (bG (by grind) (by omega) ?_)))));have hjT:eL l j<T:=by rw[<- hTe];exact HH tr hj
  refine bF (bF (bl (by cases T with|zero=>omega|succ n=>simp;rfl) ?_));refine bR (l! l) (λi x=>∃cs',x=((i:Int),z,m,A.set j (T:Int),cs')/\l! cs'=l! l/\cs'.getD j []=By l m T j i/\∀k,k≠j->cs'.getD k []=cs.getD k []) ?_ ?_ ⟨cs.set j (aG T 0),?_,by simp;omega,?_,λk hk=>?_⟩
  .rintro i x hi ⟨N,rfl,l2,g2,n2⟩;refine cU ?_;have hiT:eL l i<T:=by rw[<- hTe];exact HH tr hi
   have ln2:((A.set j (T:Int)).getD j 0)=(T:Int):=by grind
   refine aV (λx=>∃D,x=(z,m,A.set j (T:Int),D)/\l! D=l! l/\D.getD j []=By l m T j (i+1)/\∀k,k≠j->D.getD k []=cs.getD k []) ?_ ?_
   .refine aV (λx=>∃t,x=(t,z,m,A.set j (T:Int),N)/\(t=J↔i=j\/mo m i j=J)) ?_ ?_
    .refine aK (λe=>ak ⟨J,rfl,λ_=>.inl ?_,λ_=>rfl⟩) λe=>?_
     .omega
     .refine Vx h hi hj (ak ⟨_,rfl,.inr,λg=>g.elim (λg=>(e ?_).elim) id⟩);rw[g]
    rintro x ⟨t,rfl,ht⟩;refine aQ (λe=>?_) λe=>ak ⟨N,rfl,l2,?_,n2⟩
    .have g:=ht.1 e;have rl:=Vg l m T j i;have cc:=ar0 l m j (eL l i) i;have ge:(geti fV l (i:Int)).1=(eL l i:Int):=D8 tr hi;have il:aN (m_ (A.set j (T:Int)) (j:Int))=T:=by rw[Ap,ln2,be]
     have rj:kX (T:=aP) N (j:Int)=By l m T j i:=by rw[tJ,g2]
     have cl2:l! (A.set j (T:Int))=l! l:=by simp;omega
     refine bF (bF (bF (aT ?_)));dsimp only;rw[ge,il,rj];have rg:geti aP (By l m T j i) (eL l i:Int)=(cnW l m j (eL l i) i:Int):=by rw[vC,ahv l m j i hiT]
     refine bF (bF (bF (aT (bF (bF (bF (ak ⟨_,rfl,?_,?_,λk hk=>?_⟩)))))))
     .unfold mB;simp;omega
     .unfold mB;rw[be,yz [] _ (by omega),aF rfl,ahu g];refine e_ _ ?_;rw[rg];exact fL
     .unfold mB
      grind
    .rw[g2,amt λg=>?_]
     grind
   rintro x ⟨D,rfl,l3,g3,n3⟩;refine ak ⟨D,?_,l3,g3,n3⟩;rw[fL]
  .rintro x ⟨N,rfl,l2,g2,n2⟩;refine cO (ak ⟨A.set j (T:Int),N,?_,by simp;omega,l2,λi hi=>?_⟩)
   .rw[fL]
   .rw[yz 0 _ (by omega)];by_cases e:i=j
    .grind
    .rw[ax e,n2 i e];exact L.c i (by omega)
  .unfold mB;simp
  .rw[yz [] _ (by omega),aF rfl,aea]
  .grind
 .rintro x ⟨A,cs,rfl,L⟩;exact cO (ak ⟨rfl,rfl,L⟩)
def sm (f:Nat->Nat):Nat->Nat
 |0=>0
 |n+1=>sm f n+f n
variable {g:Nat->Nat}
def U3 {f:Nat->Nat}:∀{n:Nat},(∀i,i<n->f i<=g i)->sm f n<=sm g n
 |0,_=>bI _
 |n+1,h=>Nat.add_le_add (U3 λi hi=>h i (my hi)) (h n (n_ n))
def ahl {f:Nat->Nat}:∀{n:Nat},(∀i,i<n->f i<=g i)->(∃i,i<n/\f i<g i)->sm f n<sm g n
 |0,_,⟨_,h,_⟩=>bC h (bN _)
 |n+1,h,⟨i,hi,e⟩=>by
  have h1:=h n (n_ n);have A:∀i,i<n->f i<=g i:=λi hi=>h i (my hi)
  simp[sm];by_cases z:i=n
  .subst z;have:=U3 A;omega
  .have:=ahl A ⟨i,by omega,e⟩;omega
def zs (N:Nat) (o:Y θ):Nat:=sm (λi=>sm (λj=>if mo o i j=J then 0 else 1) N) N
def zO (N:Nat) (o z:Y θ):Prop:=∀a b:Nat,a<N->b<N->mo o a b=J->mo z a b=J
def zO.rfl :zO i m m:=λ_ _ _ _ h=>h
def zO.trans {b c:Y θ} (h:zO i m b) (g:zO i b c):zO i m c:=λN j hi z e=>g N j hi z (h N j hi z e)
def YB {N:Nat} {z:Y θ} (h:zO N m z) (hi:i<N) (A:j<N):(if mo z i j=J then 0 else 1)<=if mo m i j=J then 0 else 1:=by
 by_cases e:mo m i j=J
 .rw[aF e,aF (h i j hi A e)];exact bI _
 .grind
def awa {N:Nat} {z:Y θ} (h:zO N m z) (hi:i<N) (D:j<N) (e1:mo z i j=J) (e0:¬mo m i j=J):zs N z<zs N m:=
 ahl (λa L=>U3 λb A=>YB h L A) ⟨i,hi,ahl (λb A=>YB h hi A) ⟨j,D,by rw[aF e1,ax e0];exact Nat.zero_lt_one⟩⟩
def fol (p q:zN):Prop:=p.1≠q.1/\(p.2.2.2&&q.2.2.2)=af/\0<=p.2.2.1/\p.2.2.1<q.2.1
structure WkD where
 N:Nat
 l:List ET
 nl:Nat
 Pv:Nat->Int
 Hd:Nat->η
 S:Nat->List zN
structure ClW (D:WkD) (R:Nat->Nat->Prop):Prop where
 tr:∀a m b,a<D.N->m<D.N->b<D.N->R a m->R m b->R a b
 pv:∀i j:Nat,i<D.N->j<D.N->D.Pv j=(i:Int)->R i j
 hd:∀i j:Nat,i<D.N->j<D.N->(i:Int)∈D.Hd j->R i j
 r3:∀k,k<=D.nl->∀p∈D.S k,∀q∈D.S k,fol p q->∀a b,a<D.N->b<D.N->Dr D.l p a->Dr D.l q b->Cnf (eN D.l a) (eN D.l b)->R p.2.2.1.toNat b
 r4:∀k,k<=D.nl->∀p∈D.S k,∀q∈D.S k,fol p q->0<=q.2.2.1->(∃a b,a<D.N/\b<D.N/\Dr D.l p a/\Dr D.l q b/\R a b)->R p.2.2.1.toNat q.2.2.1.toNat
def LoW (D:WkD) (o:Y θ):Prop:=∀R,ClW D R->∀a b:Nat,a<D.N->b<D.N->mo o a b=J->R a b
structure Tb (D:WkD) (ln:η) (o:List θ):Prop where
 s:I0 D.N ln o
 l:LoW D o
def Tb.set {D:WkD} (h:Tb D z m) (hi:i<D.N) (A:j<D.N) (hr:∀R,ClW D R->R i j):Tb D z (oS m i j)/\zO D.N m (oS m i j)/\mo (oS m i j) i j=J:=by
 refine ⟨⟨h.s.set hi,λR c a b ha L e=>?_⟩,λa b ha L e=>(S5 h.s hi A a b).2 (.inl e),(S5 h.s hi A i j).2 (.inr ⟨rfl,rfl⟩)⟩;rcases (S5 h.s hi A a b).1 e with e|⟨rfl,rfl⟩
 .exact h.l R c a b ha L e
 .exact hr R c
def Tb.close {D:WkD} {ln':η} {A:Y θ} (h:Tb D z m) (s:I0 D.N ln' A) (c:OrC D.N D.N m A):Tb D ln' A:=⟨s,λR cR=>c.lo R cR.tr λa b ha L e=>h.l R cR a b ha L e⟩
def aax (x y:ET):Ok (nz (x,y)) λb=>b=J↔x.1≠y.1/\Cnf x y:=by
 refine aV (λb=>b=J↔x.1≠y.1/\Cnf x y) ?_ λb L=>ak L
 refine aX (CX x) ?_;refine aK (λh1=>?_) λh1=>ak ⟨nofun,λh=>bC h.2.1 h1⟩
 refine aX (CX y) ?_;refine aK (λA=>?_) λA=>ak ⟨nofun,λh=>bC h.2.2.1 A⟩
 refine cj (λh0=>?_) λh0=>ak ⟨nofun,λh=>bC h0 h.1⟩
 refine aK (λz=>?_) λz=>ak ⟨nofun,λh=>bC h.2.2.2.1 z⟩
 refine aK (λD=>ak ⟨λ_=>⟨h0,h1,A,z,.inl D⟩,λ_=>rfl⟩) λD=>ak ⟨λh=>⟨h0,h1,A,z,.inr (bJ h)⟩,λh=>?_⟩
 exact a8 (h.2.2.2.2.elim (λg=>bC g D) id)
structure WkF (w:WT) (l:List ET) (D:WkD):Prop where
 n:D.N=l! l
 dl:D.l=l
 nl:D.nl=l! w.2.1
 p:∀j:Nat,j<l! l->ny (l,(j:Int))=Z (D.Pv j)/\D.Pv j<(j:Int)
 h:∀j:Nat,j<l! l->oO (w,l,(j:Int))=Z (D.Hd j)/\l! (D.Hd j)<=1000/\∀v∈D.Hd j,0<=v/\v<(l! l:Int)
 s:∃s0,ol w=Z s0/\∀k:Nat,k<=l! w.2.1->nv (w,s0,l,(k:Int))=Z (D.S k)
 sl:∀k:Nat,k<=l! w.2.1->l! (D.S k)<=400/\∀p∈D.S k,p.2.2.1<(l! l:Int)
structure WkO (D:WkD) (o:List θ):Prop where
 lo:LoW D o
 cl:ClW D λa b=>mo o a b=J
def S0 {D:WkD} (h:Tb D z m) (v0:0<=a) (v1:a<(D.N:Int)) (L:j<D.N) (hr:∀R,ClW D R->R a.toNat j) {k:M R} {Q:R->Prop}
 (hk:∀A,mB (T:=.bool) m a (cC (kX (T:=.bool) m a) (j:Int) J)=A->Tb D z A->zO D.N m A->mo A a.toNat j=J->Ok k Q):Ok (chk (dN a (aj z)) λ_=>chk (dN a (aj z)) λ_=>chk (dN (j:Int) (aN (m_ z a))) λ_=>chk (dN a (aj m)) λ_=>chk (dN (j:Int) (aj (kX (T:=.bool) m a))) λ_=>k) Q:=by
 obtain⟨i,rfl⟩:∃i:Nat,a=(i:Int):=⟨a.toNat,by omega⟩
 have hi:i<D.N:=by omega
 let⟨v,b,c⟩:=h.set hi L hr;exact YX h.s hi L (hk _ (ain m i j) v b c)
def Sz {S:Y zN} {q:zN} (h:q∈S):∃i:Nat,i<l! S/\geti uC S (i:Int)=q:=by
 let⟨i,hi,e⟩:=List.mem_iff_getElem.1 h;exact⟨i,hi,by rw[uT,aE,aH hi,e];rfl⟩
def PQd (D:WkD) (o:Y θ) (p q:zN):Prop:=fol p q->∀a b,a<D.N->b<D.N->Dr D.l p a->Dr D.l q b->Cnf (eN D.l a) (eN D.l b)->mo o p.2.2.1.toNat b=J
def PQd.mono {D:WkD} {z:Y θ} {p q:zN} (h:PQd D m p q) (x:zO D.N m z) (hp:p.2.2.1<(D.N:Int)):PQd D z p q:=λf a b L A h1 h2 h3=>x _ _ (by omega) A (h f a b L A h1 h2 h3)
def asl {l:Y ET} {p q:zN} (f:fol p q) (h1:Dr l p i) (z:Dr l q j):(eN l i).1≠(eN l j).1:=by rw[h1.1,z.1];exact f.1
def Yj (N:Nat) (o z:Y θ):Prop:=∃i j,i<N/\j<N/\mo z i j=J/\¬mo o i j=J
def Yj.up {b c:Y θ} (h:Yj i m b) (x:zO i b c):Yj i m c:=by
 let⟨N,j,hi,z,A,e2⟩:=h;exact⟨N,j,hi,z,x N j hi z A,e2⟩
def Yj.dn {b c:Y θ} (h:Yj i b c) (x:zO i m b):Yj i m c:=by
 let⟨N,j,hi,z,A,e2⟩:=h;exact⟨N,j,hi,z,A,λe=>e2 (x N j hi z e)⟩
def Gd (D:WkD) (o:Y θ) (p q:zN):Prop:=fol p q->0<=q.2.2.1->(∃a b,a<D.N/\b<D.N/\Dr D.l p a/\Dr D.l q b/\mo o a b=J)->mo o p.2.2.1.toNat q.2.2.1.toNat=J
structure Pas (D:WkD) (ln:η) (o:List θ) (ag:Bool) (o':List θ) (P:Prop):Prop where
 t:Tb D ln o'
 x:zO D.N o o'
 n:ag=J->Yj D.N o o'
 s:ag=af->o'=o/\P
def atr {w:WT} {l:Y ET} (tr:TR (w,l)) {D:WkD} (hD:WkF w l D):Ok (sX (w,l)) λy=>∃o L,I0 (l! l) L o/\WkO D o/\TbC l o (l! w.2.2.2.2.1) (l! l) y.1 y.2:=by
 have hl:l! l<=400:=tr.len;have hT:l! w.2.2.2.2.1<=4:=tr.wb.t;have hL:l! w.2.1<=4:=tr.wb.l;have hN:=hD.n;have hDl:=hD.dl;have hDn:=hD.nl;unfold sX bk bB bP cP c_ dQ ef iF ck bV jZ kO bT bW kf bc c8 aI cS;refine cE (cE (dh (by simp) (dh (dg _) (a! ?_))));refine bR (l! l) (λk x=>∃L o,x=((k:Int),(w,l),L,o)/\l! L=l! l/\l! o=l! l/\(∀i:Nat,i<k->L.getD i 0=(l! l:Int)/\l! (o.getD i [])=l! l)/\∀i j:Nat,mo o i j=af) ?_ ?_ ⟨_,_,rfl,by simp,by simp,λi hi=>bC hi (bN _),λi j=>?_⟩
 .rintro k x hk ⟨L,o,rfl,h1,h2,h3,h4⟩;refine cU ?_ (by simp;omega);refine cE (cE (dh (by simp) (dh (dg _) (a! ?_))));refine bF (bF (bl ?_ (ak ⟨L.set k (l! l:Int),o.set k (aG (l! l) af),?_,by simp;omega,by simp;omega,λi hi=>?_,λi j=>?_⟩)))
  .obtain⟨m,hm⟩:∃m,l! l=m+1:=⟨l! l-1,by omega⟩
   simp[hm];rfl
  .dsimp only;rw[fL];unfold mB;simp
  .rw[yz 0 _ (by omega),yz [] _ (by omega)];by_cases e:i=k
   .rw[aF e,aF e];simp
   .rw[ax e,ax e];exact h3 i (by omega)
  .unfold mo;rw[yz [] _ (by omega)];by_cases e:i=k
   .rw[aF e];rw[aE,fW];split<;>rfl
   .rw[ax e];exact h4 i j
 case refine_3=>
  unfold mo;rw[aE (l:=aG _ _),fW];split<;>rfl
 rintro x ⟨L,o,rfl,h1,h2,h3,h4⟩;refine cO ?_ (by simp);have t0:Tb D L o:=⟨⟨by omega,by omega,λi hi=>by rw[hN]at hi ⊢;exact h3 i hi⟩,λR _ a b _ _ e=>by rw[h4]at e;cases e⟩
 refine aw (P:=λy=>∃o L,I0 (l! l) L o/\WkO D o/\TbC l o (l! w.2.2.2.2.1) (l! l) y.1 y.2) ?_ λy hy=>ak hy
 refine bR (l! l) (λj x=>∃A,x=((j:Int),(w,l),L,A)/\Tb D L A/\∀j',j'<j->∀i,i<D.N->(D.Pv j'=(i:Int)\/(i:Int)∈D.Hd j')->mo A i j'=J) ?_ ?_ ⟨o,rfl,t0,λj' h=>bC h (bN _)⟩
 .rintro j x hj ⟨o1,rfl,t1,g1⟩;let⟨p1,p2⟩:=hD.p j hj;let⟨q1,q2,q3⟩:=hD.h j hj;refine cU ?_;refine aV (λx=>∃o2,x=((w,l),L,o2)/\Tb D L o2/\zO D.N o1 o2/\∀i,i<D.N->D.Pv j=(i:Int)->mo o2 i j=J) ?_ ?_
  .refine aX p1 ?_;refine eh (λh0=>?_) λh0=>ak ⟨o1,rfl,t1,zO.rfl,λi hi e=>by omega⟩
   refine S0 t1 h0 (by omega) (by omega) (λR c=>c.pv _ _ (by omega) (by omega) (by omega)) λo2 e t2 x2 b2=>ak ⟨o2,?_,t2,x2,λi hi z=>?_⟩
   .dsimp only;rw[e]
   .rw[z,be]at b2;exact b2
  rintro x ⟨o2,rfl,t2,x2,b2⟩;refine aX q1 ?_;refine bR (l! (D.Hd j)) (λk x=>∃o3,x=((k:Int),(w,l),L,o3)/\Tb D L o3/\zO D.N o2 o3/\∀k',k'<k->mo o3 ((D.Hd j).getD k' 0).toNat j=J) ?_ ?_ ⟨o2,rfl,t2,zO.rfl,λk' h=>bC h (bN _)⟩
  .rintro k x hk ⟨o3,rfl,t3,x3,b3⟩;refine cU (bF (aT ?_));rw[show geti aP (D.Hd j) (k:Int)=(D.Hd j).getD k 0 from vC _ k];have hm:=yT 0 hk;let⟨m0,m1⟩:=q3 _ hm;refine S0 t3 m0 (by omega) (by omega) (λR c=>c.hd _ _ (by omega) (by omega) (by rw[Kq m0];exact hm)) λo4 e t4 x4 b4=>ak ⟨o4,?_,t4,x3.trans x4,λk' hk'=>?_⟩
   .dsimp only;rw[e,fL]
   .by_cases z:k'=k
    .subst z;exact b4
    .have m2:=q3 _ (yT 0 (show k'<l! (D.Hd j) by omega));exact x4 _ _ (by omega) (by omega) (b3 k' (by omega))
  .rintro x ⟨o3,rfl,t3,x3,b3⟩;refine cO (ak ⟨o3,?_,t3,λj' hj' i hi z=>?_⟩)
   .dsimp only;rw[fL]
   .by_cases e:j'=j
    .subst e;rcases z with z|z
     .exact x3 _ _ hi (by omega) (b2 i hi z)
     .obtain⟨k',hk',e⟩:=List.mem_iff_getElem.1 z;have:=b3 k' hk';rw[aE,aH hk',e]at this;exact this
    .exact x3 _ _ hi (by omega) (x2 _ _ hi (by omega) (g1 j' (by omega) i hi z))
 rintro x ⟨o1,rfl,t1,g1⟩;refine cO ?_;refine aw (P:=λy=>∃o L,I0 (l! l) L o/\WkO D o/\TbC l o (l! w.2.2.2.2.1) (l! l) y.1 y.2) ?_ λy hy=>ak hy
 let⟨s0,hs0,hS⟩:=hD.s;refine bR (l! w.2.1+1) (λk x=>∃A,x=((k:Int),(w,l),L,(dG k).map D.S,A)/\Tb D L A/\zO D.N o1 A/\∀k',k'<k->∀p∈D.S k',∀q∈D.S k',PQd D A p q) ?_ ?_ ⟨o1,rfl,t1,zO.rfl,λk' h=>bC h (bN _)⟩
 .rintro k x hk ⟨o2,rfl,t2,x2,d2⟩;let⟨sl1,sl2⟩:=hD.sl k (by omega);have hm:∀i:Nat,i<l! (D.S k)->geti uC (D.S k) (i:Int)∈D.S k:=λi hi=>bK (T:=uC) (by omega) (by omega)
  refine eh (λ_=>?_) λh=>bC h (by dsimp only[ay];omega)
  refine aX hs0 ?_;refine aX (hS k (by omega)) (a! ?_);refine bR (l! (D.S k)) (λi x=>∃A,x=((i:Int),(w,l),L,(dG (k+1)).map D.S,A)/\Tb D L A/\zO D.N o2 A/\∀i',i'<i->∀q∈D.S k,PQd D A (geti uC (D.S k) (i':Int)) q) ?_ ?_ ⟨o2,?_,t2,zO.rfl,λi' h=>bC h (bN _)⟩
  .rintro i x hi ⟨o3,rfl,t3,x3,d3⟩;refine cU (bF (aT ?_));have hp:=hm i hi;dsimp only;generalize hpe:geti uC (D.S k) (i:Int)=p at hp ⊢;have hpr:=sl2 p hp;refine bR (l! (D.S k)) (λj x=>∃A,x=((j:Int),(w,l),L,(dG (k+1)).map D.S,p,A)/\Tb D L A/\zO D.N o3 A/\∀j',j'<j->PQd D A p (geti uC (D.S k) (j':Int))) ?_ ?_ ⟨o3,rfl,t3,zO.rfl,λi' h=>bC h (bN _)⟩
   .rintro j x hj ⟨o4,rfl,t4,x4,d4⟩;refine cU ?_;refine aV (λx=>∃A,x=((w,l),L,(dG (k+1)).map D.S,p,A)/\Tb D L A/\zO D.N o4 A/\PQd D A p (geti uC (D.S k) (j:Int))) ?_ ?_
    .refine bF (aT ?_);have hq:=hm j hj;dsimp only;generalize hqe:geti uC (D.S k) (j:Int)=q at hq ⊢;refine aw (RF p q) λf hf=>?_
     refine dK (λe=>ak ⟨o4,rfl,t4,zO.rfl,λg=>?_⟩) λe=>?_
     .have:=hf.2 g;rw[e]at this;cases this
     have fl:fol p q:=hf.1 e;have pr0:=fl.2.2.1;refine bR (l! l) (λa x=>∃A,x=((a:Int),(w,l),L,(dG (k+1)).map D.S,p,q,A)/\Tb D L A/\zO D.N o4 A/\∀a' b,a'<a->b<D.N->Dr D.l p a'->Dr D.l q b->Cnf (eN D.l a') (eN D.l b)->mo A p.2.2.1.toNat b=J) ?_ ?_ ⟨o4,rfl,t4,zO.rfl,λi' _ h=>bC h (bN _)⟩
     .rintro a x ha ⟨o5,rfl,t5,x5,d5⟩;refine cU ?_;refine bR (l! l) (λb x=>∃A,x=((b:Int),(w,l),L,(dG (k+1)).map D.S,p,q,A)/\Tb D L A/\zO D.N o5 A/\∀b',b'<b->Dr D.l p a->Dr D.l q b'->Cnf (eN D.l a) (eN D.l b')->mo A p.2.2.1.toNat b'=J) ?_ ?_ ⟨o5,rfl,t5,zO.rfl,λi' h=>bC h (bN _)⟩
      .rintro b x hb ⟨o6,rfl,t6,x6,d6⟩;refine cU ?_;refine aV (λx=>∃A,x=((w,l),L,(dG (k+1)).map D.S,p,q,A)/\Tb D L A/\zO D.N o6 A/\(Dr D.l p a->Dr D.l q b->Cnf (eN D.l a) (eN D.l b)->mo A p.2.2.1.toNat b=J)) ?_ ?_
       .refine aV (λx=>∃t,x=(t,(w,l),L,(dG (k+1)).map D.S,p,q,o6)/\(t=J↔Dr D.l p a/\Dr D.l q b/\Cnf (eN D.l a) (eN D.l b))) ?_ ?_
        .rw[hDl];refine aw (vF ha) λy hy=>?_
         refine aQ (λe1=>?_) λe1=>ak ⟨_,rfl,nofun,λg=>?_⟩
         .refine aw (vF hb) λy2 hy2=>?_
          refine aQ (λe2=>?_) λe2=>ak ⟨_,rfl,nofun,λg=>?_⟩
          .refine bF (aT (bF (aT ?_)));refine aw (aax (eN l a) (eN l b)) λy3 hy3=>ak ⟨_,rfl,λg=>⟨hy.1 e1,hy2.1 e2,(hy3.1 g).2⟩,λg=>hy3.2 ⟨asl fl g.1 g.2.1,g.2.2⟩⟩
          .have:=hy2.2 g.2.1;rw[e2]at this;cases this
         .have:=hy.2 g.1;rw[e1]at this;cases this
        rintro x ⟨t,rfl,ht⟩;refine aQ (λe1=>?_) λe1=>ak ⟨o6,rfl,t6,zO.rfl,λg1 g2 g3=>?_⟩
        .have g:=ht.1 e1;refine S0 t6 pr0 (by omega) (by omega) (λR c=>c.r3 k (by omega) p hp q hq fl a b (by omega) (by omega) g.1 g.2.1 g.2.2) λo7 e t7 x7 b7=>ak ⟨o7,?_,t7,x7,λ_ _ _=>b7⟩
         dsimp only;rw[e]
        .have:=ht.2 ⟨g1,g2,g3⟩;have e1:t=af:=e1;rw[e1]at this;cases this
       rintro x ⟨o7,rfl,t7,x7,b7⟩;refine ak ⟨o7,?_,t7,x6.trans x7,λb' hb' g1 g2 g3=>?_⟩
       .dsimp only;rw[fL]
       .by_cases z:b'=b
        .subst z;exact b7 g1 g2 g3
        .exact x7 _ _ (by omega) (by omega) (d6 b' (by omega) g1 g2 g3)
      .rintro x ⟨o6,rfl,t6,x6,d6⟩;refine cO (ak ⟨o6,?_,t6,x5.trans x6,λa' b ha' hb g1 g2 g3=>?_⟩)
       .dsimp only;rw[fL]
       .by_cases z:a'=a
        .subst z;exact d6 b (by omega) g1 g2 g3
        .exact x6 _ _ (by omega) hb (d5 a' b (by omega) hb g1 g2 g3)
     .rintro x ⟨o5,rfl,t5,x5,d5⟩;exact cO (ak ⟨o5,rfl,t5,x5,λ_ a b ha hb g1 g2 g3=>d5 a b (by omega) hb g1 g2 g3⟩)
    rintro x ⟨o5,rfl,t5,x5,d5⟩;refine ak ⟨o5,?_,t5,x4.trans x5,λj' hj'=>?_⟩
    .dsimp only;rw[fL]
    .by_cases z:j'=j
     .subst z;exact d5
     .exact (d4 j' (by omega)).mono x5 (by omega)
   .rintro x ⟨o4,rfl,t4,x4,d4⟩;refine cO (ak ⟨o4,?_,t4,x3.trans x4,λi' hi' q hq=>?_⟩)
    .dsimp only;rw[fL]
    .by_cases z:i'=i
     .subst z;rw[hpe];let⟨j',hj',e⟩:=Sz hq;rw[<- e];exact d4 j' hj'
     .exact (d3 i' (by omega) q hq).mono x4 (by have:=sl2 _ (hm i' (by omega));omega)
  .rintro x ⟨o3,rfl,t3,x3,d3⟩;refine cO (ak ⟨o3,?_,t3,x2.trans x3,λk' hk' p hp q hq=>?_⟩)
   .dsimp only;rw[fL]
   .by_cases z:k'=k
    .subst z;let⟨i',hi',e⟩:=Sz hp;rw[<- e];exact d3 i' hi' q hq
    .exact (d2 k' (by omega) p hp q hq).mono x3 (by have:=(hD.sl k' (by omega)).2 p hp;omega)
  .rw[List.range_succ,cr];rfl
 rintro x ⟨o2,rfl,t2,x2,d2⟩;refine eh (λh=>bC h (by dsimp only[ay];omega)) λ_=>?_
 refine aw (P:=λy=>∃o L,I0 (l! l) L o/\WkO D o/\TbC l o (l! w.2.2.2.2.1) (l! l) y.1 y.2) ?_ λy hy=>ak hy
 have hal:∀k:Nat,k<l! w.2.1+1->geti (.sl uC) ((dG (l! w.2.1+1)).map D.S) (k:Int)=D.S k:=λk hk=>by
  rw[uT,aE,bE,List.getElem?_range hk];rfl
 have hall:l! ((dG (l! w.2.1+1)).map D.S)=l! w.2.1+1:=by simp
 generalize (dG (l! w.2.1+1)).map D.S=all at*
 refine aw (acz (by omega) t2.s) ?_;rintro⟨ln3,o3⟩ ⟨s3,c3⟩;refine cE (jH (t2.s.a.trans s3.a.symm) (vV ?_));refine qi (λx=>2*zs D.N x.2.2.2.2+if x.1=J then 1 else 0) (λx=>∃ag ln' A,x=(ag,(w,l),ln',all,A)/\Tb D ln' A/\zO D.N o3 A/\(∀a m b,a<D.N->m<D.N->b<D.N->mo A a m=J->mo A m b=J->mo A a b=J)/\(ag=af->∀k,k<=l! w.2.1->∀p∈D.S k,∀q∈D.S k,Gd D A p q)) ?_ ⟨J,ln3,o3,rfl,t2.close s3 c3,zO.rfl,c3.tr,nofun⟩;rintro x ⟨ag,ln4,o4,rfl,t4,x4,tr4,d4⟩;cases ag
 .refine kg ?_;refine aw (P:=λy=>∃o L,I0 (l! l) L o/\WkO D o/\TbC l o (l! w.2.2.2.2.1) (l! l) y.1 y.2) ?_ λy hy=>ak hy
  have ss:I0 (l! l) ln4 o4:=by rw[<- hN];exact t4.s
  refine aw (am1 tr ss) ?_;rintro⟨a,b,cl,cs⟩ ⟨e1,e2,tb⟩;refine cE (jH (e_ aj e1).symm (vV (ak ⟨o4,ln4,ss,⟨t4.l,⟨tr4,λi j hi hj e=>?_,λi j hi hj e=>?_,λk hk p hp q hq f a b ha hb h1 h2 h3=>?_,λk hk p hp q hq f q0 h=>d4 rfl k (by omega) p hp q hq f q0 h⟩⟩,tb⟩)))
  .exact x4 _ _ hi hj (c3.up _ _ hi hj (x2 _ _ hi hj (g1 j (by omega) i hi (.inl e))))
  .exact x4 _ _ hi hj (c3.up _ _ hi hj (x2 _ _ hi hj (g1 j (by omega) i hi (.inr e))))
  .have hr:=(hD.sl k (by omega)).2 p hp;have:=f.2.2.1;exact x4 _ _ (by omega) hb (c3.up _ _ (by omega) hb (d2 k (by omega) p hp q hq f a b ha hb h1 h2 h3))
 refine FU ?_;refine bR (l! w.2.1+1) (λk x=>∃ag A,x=((ag,(k:Int)),(w,l),ln4,all,A)/\Pas D ln4 o4 ag A (∀k',k'<k->∀p∈D.S k',∀q∈D.S k',Gd D o4 p q)) ?_ ?_ ⟨af,o4,rfl,t4,zO.rfl,nofun,λ_=>⟨rfl,λk' h=>bC h (bN _)⟩⟩
 .rintro k x hk ⟨ag,o5,rfl,p5⟩;let⟨sl1,sl2⟩:=hD.sl k (by omega);have hm:∀i:Nat,i<l! (D.S k)->geti uC (D.S k) (i:Int)∈D.S k:=λi hi=>bK (T:=uC) (by omega) (by omega)
  refine cU (bF (bF (aT ?_)));rw[hal k hk];refine bR (l! (D.S k)) (λi x=>∃ag A,x=((ag,(i:Int)),(w,l),ln4,all,A)/\Pas D ln4 o4 ag A ((∀k',k'<k->∀p∈D.S k',∀q∈D.S k',Gd D o4 p q)/\∀i',i'<i->∀q∈D.S k,Gd D o4 (geti uC (D.S k) (i':Int)) q)) ?_ ?_ ⟨ag,o5,rfl,p5.t,p5.x,p5.n,λh=>⟨(p5.s h).1,(p5.s h).2,λi' h=>bC h (bN _)⟩⟩
  .rintro i x hi ⟨ag,o6,rfl,p6⟩;refine cU (bF (aT ?_));have hp:=hm i hi;dsimp only;generalize hpe:geti uC (D.S k) (i:Int)=p at hp ⊢;have hpr:=sl2 p hp;refine bR (l! (D.S k)) (λj x=>∃ag A,x=((ag,(j:Int)),(w,l),ln4,all,p,A)/\Pas D ln4 o4 ag A (((∀k',k'<k->∀p∈D.S k',∀q∈D.S k',Gd D o4 p q)/\∀i',i'<i->∀q∈D.S k,Gd D o4 (geti uC (D.S k) (i':Int)) q)/\∀j',j'<j->Gd D o4 p (geti uC (D.S k) (j':Int)))) ?_ ?_ ⟨ag,o6,rfl,p6.t,p6.x,p6.n,λh=>⟨(p6.s h).1,(p6.s h).2,λi' h=>bC h (bN _)⟩⟩
   .rintro j x hj ⟨ag,o7,rfl,p7⟩;refine cU ?_;refine aV (λx=>∃ag A,x=(ag,(w,l),ln4,all,p,A)/\Pas D ln4 o4 ag A ((((∀k',k'<k->∀p∈D.S k',∀q∈D.S k',Gd D o4 p q)/\∀i',i'<i->∀q∈D.S k,Gd D o4 (geti uC (D.S k) (i':Int)) q)/\∀j',j'<j->Gd D o4 p (geti uC (D.S k) (j':Int)))/\Gd D o4 p (geti uC (D.S k) (j:Int)))) ?_ ?_
    .refine bF (aT ?_);have hq:=hm j hj;dsimp only;generalize hqe:geti uC (D.S k) (j:Int)=q at hq ⊢;have hqr:=sl2 q hq;refine aV (λx=>∃t A,x=(t,(w,l),ln4,all,p,A)/\Tb D ln4 A/\zO D.N o7 A/\(t=J->Yj D.N o7 A)/\(t=af->A=o7/\Gd D o7 p q)) ?_ ?_
     .refine aw (RF p q) λf hf=>?_
      refine aQ (λe=>?_) λe=>ak ⟨af,o7,rfl,p7.t,zO.rfl,nofun,λ_=>⟨rfl,λg=>?_⟩⟩
      .have fl:fol p q:=hf.1 e;have pr0:=fl.2.2.1;refine eh (λq0=>?_) λq0=>ak ⟨af,o7,rfl,p7.t,zO.rfl,nofun,λ_=>⟨rfl,λ_ g=>by omega⟩⟩
       have ss:I0 (l! l) ln4 o7:=by rw[<- hN];exact p7.t.s
       refine aw (aj3 (by omega) (p:=p) (q:=q) ss) ?_;rintro⟨t,y⟩ ⟨e1,ht⟩;dsimp only at e1 ht;subst e1;refine cE (jH rfl (vV ?_));refine aQ (λe2=>?_) λe2=>ak ⟨af,o7,rfl,p7.t,zO.rfl,nofun,λ_=>⟨rfl,λ_ _ g=>?_⟩⟩
       .obtain⟨a,b,ha,hb,h1,h2,h3⟩:=ht.1 e2;have q0:0<=q.2.2.1:=q0;obtain⟨pn,hpn⟩:∃n:Nat,p.2.2.1=(n:Int):=⟨p.2.2.1.toNat,(Kq pr0).symm⟩
        obtain⟨qn,hqn⟩:∃n:Nat,q.2.2.1=(n:Int):=⟨q.2.2.1.toNat,(Kq q0).symm⟩
        have pnl:pn<D.N:=by rw[hpn]at hpr;omega
        have qnl:qn<D.N:=by rw[hqn]at hqr;omega
        dsimp only;rw[hpn,hqn];refine aX (Vv p7.t.s pnl qnl) ?_;refine cE (jH rfl (vV ?_));by_cases z:mo o7 pn qn=J
        .rw[z];refine ak ⟨af,o7,rfl,p7.t,zO.rfl,nofun,λ_=>⟨rfl,λ_ _ _=>?_⟩⟩;rw[hpn,hqn];exact z
        .obtain⟨t8,x8,b8⟩:=p7.t.set (i:=pn) (j:=qn) pnl qnl λR c=>by
          have:=c.r4 k (by omega) p hp q hq fl q0 ⟨a,b,by omega,by omega,by rw[hDl];exact h1,by rw[hDl];exact h2,p7.t.l R c a b (by omega) (by omega) h3⟩;rw[hpn,hqn]at this;exact this
         rw[ax z];have z':mo o7 pn qn=af:=by simpa using z
         rw[z'];exact ak ⟨J,_,rfl,t8,x8,λ_=>⟨pn,qn,pnl,qnl,b8,z⟩,nofun⟩
       .rw[hDl,hN]at g;have:=ht.2 g;have e2:t=af:=e2;rw[e2]at this;cases this
      .have:=hf.2 g;rw[e]at this;cases this
     rintro x ⟨t,o8,rfl,t8,x8,n8,d8⟩;refine aQ (λe=>ak ⟨J,o8,rfl,t8,p7.x.trans x8,λ_=>(n8 e).dn p7.x,nofun⟩) λe=>ak ⟨ag,o8,rfl,?_⟩
     obtain⟨rfl,g8⟩:=d8 e;refine ⟨t8,p7.x,p7.n,λh=>?_⟩;obtain⟨rfl,g7⟩:=p7.s h;exact⟨rfl,g7,g8⟩
    rintro x ⟨ag,o8,rfl,p8⟩;refine ak ⟨ag,o8,?_,p8.t,p8.x,p8.n,λh=>⟨(p8.s h).1,(p8.s h).2.1.1,λj' hj'=>?_⟩⟩
    .dsimp only;rw[fL]
    .by_cases z:j'=j
     .subst z;exact (p8.s h).2.2
     .exact (p8.s h).2.1.2 j' (by omega)
   .rintro x ⟨ag,o7,rfl,p7⟩;refine cO (ak ⟨ag,o7,?_,p7.t,p7.x,p7.n,λh=>⟨(p7.s h).1,(p7.s h).2.1.1,λi' hi' q hq=>?_⟩⟩)
    .dsimp only;rw[fL]
    .by_cases z:i'=i
     .subst z;rw[hpe];let⟨j',hj',e⟩:=Sz hq;rw[<- e];exact (p7.s h).2.2 j' hj'
     .exact (p7.s h).2.1.2 i' (by omega) q hq
  .rintro x ⟨ag,o6,rfl,p6⟩;refine cO (ak ⟨ag,o6,?_,p6.t,p6.x,p6.n,λh=>⟨(p6.s h).1,λk' hk' p hp q hq=>?_⟩⟩)
   .dsimp only;rw[fL]
   .by_cases z:k'=k
    .subst z;let⟨i',hi',e⟩:=Sz hp;rw[<- e];exact (p6.s h).2.2 i' hi' q hq
    .exact (p6.s h).2.1 k' (by omega) p hp q hq
 .rintro x ⟨ag,o5,rfl,p5⟩;refine cO ?_;refine Rp ?_;refine aw (acz (by omega) p5.t.s) ?_;rintro⟨ln6,o6⟩ ⟨s6,c6⟩;have x6:zO D.N o4 o6:=p5.x.trans c6.up;refine cE (jH (p5.t.s.a.trans s6.a.symm) (vV (ak (show oQ _ _ _ from ak ⟨⟨ag,ln6,o6,rfl,p5.t.close s6 c6,x4.trans x6,λa m b=>c6.tr a m b,λe=>?_⟩,?_⟩))))
  .obtain⟨rfl,g⟩:=p5.s e;have h6:=c6.lo (λa b=>mo o5 a b=J) tr4 λa b _ _ h=>h
   intro k hk p hp q hq f q0;rintro⟨a,b,ha,hb,h1,h2,h3⟩;have hpr:=(hD.sl k hk).2 p hp;have hqr:=(hD.sl k hk).2 q hq;have:=f.2.2.1;exact c6.up _ _ (by omega) (by omega) (g k (by omega) p hp q hq f q0 ⟨a,b,ha,hb,h1,h2,h6 a b ha hb h3⟩)
  .dsimp only;cases ag
   .have:zs D.N o6<=zs D.N o4:=U3 λa ha=>U3 λb hb=>YB x6 ha hb
    simp;omega
   .obtain⟨i,j,hi,hj,e1,e2⟩:=(p5.n rfl).up c6.up;have:=awa x6 hi hj e1 e2;simp;omega
def Rw (l:Y ET) (c:Y η) (i j:Nat):Prop:=i<j/\(ct l (eL l i) (i+1):Int)<=(c.getD j []).getD (eL l i) 0
def Rw.tr {w:WT} {l:Y ET} {c:Y η} {tm:Y ν} {la:η} (A:CI w l (l! l) c tm la) {b:Nat} (z:b<l! l) (h:Rw l c i j) (g:Rw l c j b):Rw l c i b:=by
 refine ⟨Nat.lt_trans h.1 g.1,C6 h.2 ?_⟩;have hm:j<l! l:=Nat.lt_trans g.1 z;exact A.cls j b hm z (by rw[A.own j hm];exact g.2) _
def ate {w:WT} {l:Y ET} {c:Y η} {tm:Y ν} {la:η} (D:CI w l (l! l) c tm la) (A:j<l! l) (N:∀i,i<l! l->(mo m i j=J↔Rw l c i j)) (u:Nat):
 ∀n,n<=l! l->(cnW l m j u n:Int)=if n<=j then min ((c.getD j []).getD u 0) (ct l u n:Int) else (c.getD j []).getD u 0:=by
 have nn:=D.nn j A u;have own:=D.own j A;have co:=CJ l j;intro n;induction n with
 |zero=>intro _;simp only[cnW,ct];omega
 |succ n L=>
  intro hn;have h1:=N n (by omega);simp only[cnW];by_cases z:eL l n=u
  .by_cases e:n<j
   .have hr:mo m n j=J↔(ct l u n:Int)+1<=(c.getD j []).getD u 0:=by
     rw[h1];have:=CJ l n;subst z;exact⟨λh=>by have:=h.2;omega,λh=>⟨e,by omega⟩⟩
    have cs:ct l u (n+1)=ct l u n+1:=by simp only[ct];rw[aF z]
    grind
   .by_cases e2:n=j
    .grind
    .rw[ax (show ¬n<=j by omega)]at L;rw[ax (show ¬n+1<=j by omega),ax λg=>g.2.elim e2 λg=>by have:=(h1.1 g).1;omega];omega
  .rw[ax λg=>z g.1];have cs:ct l u (n+1)=ct l u n:=by simp only[ct];rw[ax z];rfl
   grind
def ahw {w:WT} {l:Y ET} {c:Y η} {tm:Y ν} {la:η} (A:CI w l (l! l) c tm la) (z:j<l! l) (D:∀i,i<l! l->(mo m i j=J↔Rw l c i j)):By l m (l! w.2.2.2.2.1) j (l! l)=c.getD j []:=by
 have L:=A.k.ln j z;apply pZ;intro u;by_cases h:u<l! w.2.2.2.2.1
 .have:=ate A z D u (l! l) (bI _);unfold By
  grind
 .rw[dL (by rw[Vg];omega),dL (by omega)]
def al0 {w:WT} {e:ET} (hev:Fp w e) {lk:Int} (z:0<=lk) (A:lk<=l! w.2.1):(lk<l! w.2.1->(al2 w e=lk↔mT w e=lk))/\(lk=l! w.2.1->(mT w e=lk↔e.2.1=12)):=by
 refine ⟨λh=>al1 w e z h,λh=>?_⟩;let⟨nm,_,_,cd⟩:=hev;have h1:e.2.1=6\/e.2.1=8\/e.2.1=10->e.2.2.1<l! w.2.1:=λg=>(nm.lk (by omega)).2
 have D:e.2.1=17->(geti itK w.2.2.1 e.2.2.1).2<l! w.2.1:=λg=>(cd _ (bK (T:=itK) (nm.cd (by omega)).1 (nm.cd (by omega)).2)).2
 unfold mT
 grind
def ai2 {w:WT} {e:ET} (hev:Fp w e) {lk:Int} (z:0<=lk) (A:lk<=l! w.2.1):(lk<l! w.2.1->(ai4 w e=lk↔fB w e=lk))/\(lk=l! w.2.1->(fB w e=lk↔e.2.1=13)):=by
 refine ⟨λh=>ai3 w e z h,λh=>?_⟩;let⟨nm,_,_,cd⟩:=hev;have h1:e.2.1=7\/e.2.1=9\/e.2.1=11->e.2.2.1<l! w.2.1:=λg=>(nm.lk (by omega)).2
 have D:e.2.1=16->(geti itK w.2.2.1 e.2.2.1).2<l! w.2.1:=λg=>(cd _ (bK (T:=itK) (nm.cd (by omega)).1 (nm.cd (by omega)).2)).2
 unfold fB
 grind
def Yh {w:WT} {l:Y ET} (tr:TR (w,l)) {s:K!} (hs:s.2.2.2=[]) (hl:i<=l! w.2.1):nv (w,s,l,(i:Int))=Z (lq w l (i:Int) (l! l)):=by
 have hll:l! l<=400:=tr.len;refine cI ?_;unfold nv bk bB bP c_ ck bm bV bT bW kf bc c8 aI cS;refine bR 0 (λ_ x=>x=(0,w,s,[])) (λlk x hi=>bC hi (bN _)) ?_ rfl;rintro x rfl;refine cO ?_ (by grind);refine aw (P:=λy=>y=lq w l (i:Int) (l! l)) ?_ λy hy=>ak hy
 dsimp only;refine bR (l! l) (λlk x=>x=((lk:Int),w,lq w l (i:Int) lk)/\l! (lq w l (i:Int) lk)<=lk) ?_ ?_ ⟨rfl,bI _⟩
 .rintro lk x hi ⟨rfl,hi2⟩;have hev:Fp w (eN l lk):=tr.ev _ (nL hi);refine cU ?_;refine aV (λx=>x=(w,lq w l (i:Int) (lk+1))/\l! (lq w l (i:Int) (lk+1))<=lk+1) ?_ ?_
  .refine bF (aT (aX (azw hev) (aX (ay9 hev) ?_)));rw[lq];have hge:geti fV l (lk:Int)=eN l lk:=rfl;dsimp only;rw[hge];have ea:=al0 hev (lk:=(i:Int)) (by omega) (by omega);have N:=ai2 hev (lk:=(i:Int)) (by omega) (by omega);generalize eN l lk=e at*
   generalize lq w l (i:Int) lk=S at*
   refine aV (λx=>∃a r,x=((a,r),w,S,e)/\(a=(i:Int)↔mT w e=(i:Int))/\(r=(i:Int)↔fB w e=(i:Int))) ?_ ?_
   .refine aK (λg=>?_) λg=>ak ⟨_,_,rfl,?_,?_⟩
    .have g:(i:Int)=(l! w.2.1:Int):=g;refine aV (λx=>∃a,x=(a,w,S,e)/\(a=(i:Int)↔mT w e=(i:Int))) ?_ ?_
     .refine aK (λh=>ak ⟨_,rfl,?_⟩) λh=>ak ⟨_,rfl,?_⟩
      .omega
      .omega
     rintro x ⟨a,rfl,ha⟩;refine aK (λh=>ak ⟨a,_,rfl,ha,?_⟩) λh=>ak ⟨a,_,rfl,ha,?_⟩
     .grind
     .grind
    .grind
    .grind
   rintro x ⟨ac,re,rfl,ea,N⟩;refine aV (λx=>x=(w,(if fB w e=(i:Int) then S.map (clS e (lk:Int)) else S),e)) ?_ ?_
   .refine aK (λg=>?_) λg=>?_
    .rw[aF (N.1 g)];refine bR (l! S) (λk x=>x=((k:Int),w,(S.take k).map (clS e (lk:Int))++S.drop k,e)) ?_ ?_ ?_
     .rintro k x D rfl;refine cU ?_;have A:dN (k:Int) (l! ((S.take k).map (clS e (lk:Int))++S.drop k))=J:=LG.2 ⟨by omega,by rw[asv (by omega)];omega⟩;have hget:geti (.st tQ) ((S.take k).map (clS e (lk:Int))++S.drop k) (k:Int)=S.getD k (0,0,0,af):=(uT (T:=.st tQ) _ k).trans (asw _ D);have hset:=asu (f:=clS e (lk:Int)) (0,0,0,af) D;have hid:=aws (f:=clS e (lk:Int)) (0,0,0,af) D;generalize S.getD k (0,0,0,af)=z at*
      generalize (S.take k).map (clS e (lk:Int))++S.drop k=L at*
      generalize (S.take (k+1)).map (clS e (lk:Int))++S.drop (k+1)=L' at*
      refine aV (λx=>x=(w,L',e)) ?_ ?_
      .refine aV (λx=>x=(decide (z.1=e.1/\z.2.2.1<0),w,L,e)) ?_ ?_
       .refine bl A (bl A (aT ?_));dsimp only;rw[hget];refine aK (λg=>bl A (bl A (aT ?_))) λg=>ak ?_
        .refine ak ?_;dsimp only;by_cases q:z.2.2.1<0
         .simp_all
         .rw[ji.2 (by omega),dm λz=>q z.2]
        .grind
       rintro x rfl;refine aK (λg=>bl A (bl A (ak ?_))) λg=>ak ?_
       .have:clS e (lk:Int) z=(z.1,z.2.1,(lk:Int),z.2.2.2):=aF g;rw[this]at hset;dsimp only;rw[hget,rB,hset]
       .rw[hid (ax g)]
      rintro x rfl;refine ak ?_;dsimp only;rw[fL]
     .rintro x rfl;refine cO (ak ?_) (by simp)
      grind
     .simp
    .rw[ax λz=>g (N.2 z)];exact ak rfl
   rintro x rfl;have hSl:l! (if fB w e=(i:Int) then S.map (clS e (lk:Int)) else S)=l! S:=by grind
   refine aK (λg=>?_) λg=>?_
   .rw[aF (ea.1 g)];refine bG ?_ (by omega) (ak ⟨rfl,?_⟩)
    .grind
    .grind
   .rw[ax λz=>g (ea.2 z),io];exact ak ⟨rfl,by rw[hSl];omega⟩
  rintro x ⟨rfl,h2⟩;refine ak ⟨?_,h2⟩;dsimp only;rw[fL]
 .rintro x ⟨rfl,_⟩;exact cO (ak rfl)
def W3 (w:WT) (h:l! w.2.1<=1000):Ok (ol w) λy=>y.2.2.2=[]:=by
 refine bR (l! w.2.1) (λi x=>x.1=(i:Int)/\l! x.2.2.2=i) ?_ ?_ ⟨rfl,rfl⟩
 .rintro i ⟨N,L,D,A⟩ hi ⟨z,e2⟩;subst z;refine cU (bG (by grind) (by omega) (ak ⟨fL,?_⟩))
  grind
 .rintro⟨N,L,D,A⟩ ⟨z,e2⟩;exact cO (ak rfl)
def zW (l:Y ET) (u:Nat):Nat->Int
 |0=> -1
 |n+1=>if eL l n=u then (n:Int) else zW l u n
def BS (l:Y ET) (u:Nat):∀n:Nat,-1<=zW l u n/\zW l u n<(n:Int)
 |0=>by simp[zW]
 |n+1=>by
  have:=BS l u n;rw[zW];split<;>omega
def FI {l:Y ET} {u:Nat}:∀n:Nat,0<=zW l u n->eL l (zW l u n).toNat=u/\ct l u n=ct l u ((zW l u n).toNat+1)
 |0,h=>by simp[zW]at h
 |n+1,h=>by
  rw[zW]at h ⊢;by_cases e:eL l n=u
  .grind
  .rw[ax e]at h ⊢;let⟨a,b⟩:=FI n h;exact⟨a,by rw[<- b];simp only[ct];rw[ax e];rfl⟩
def Pb {w:WT} {l:Y ET} (tr:TR (w,l)) (z:j<l! l):ny (l,(j:Int))=Z (zW l (eL l j) j):=by
 have D:l! l<=400:=tr.len;have A:=D8 tr z;refine cI ?_;refine bR j (λi x=>x=((j:Int)-1-i)/\zW l (eL l j) (j-i)=zW l (eL l j) j) ?_ ?_ ⟨?_,by rw[Nat.sub_zero]⟩
 .rintro i x hi ⟨rfl,e⟩;have ti:=D8 tr (show j-i-1<l! l by omega);rw[show (j:Int)-1-i=((j-i-1:Nat):Int) by omega];refine bF (aT (bF (aT (aK (λg=>ak ?_) λg=>ak ?_))))
  .have g:(eN l (j-i-1)).1=(eN l j).1:=g;rw[<- e,show j-i=j-i-1+1 by omega,zW,Nat.add_sub_cancel,aF (by omega)]
  .have g:¬(eN l (j-i-1)).1=(eN l j).1:=g;refine ⟨by rw[iI];omega,?_⟩;rw[<- e,show j-i=j-(i+1)+1 by omega,zW,show j-(i+1)=j-i-1 by omega,ax (by omega)]
 .rintro x ⟨rfl,e⟩;refine eh (λg=>by omega) λ_=>ak ?_
  rw[xc]at e;exact e
 .rw[iI];omega
def adz (w:WT) (o:Int):Bool:=(geti lL w.1 o).2.2.2.1
def O4 {w:WT} {e:ET} (hev:Fp w e):pP (w,e)=Z (decide (e.2.1=3\/e.2.1=4)&&adz w e.2.2.1):=by
 refine cI ?_;refine aV (λb=>b=(decide (e.2.1=3\/e.2.1=4)&&adz w e.2.2.1)) ?_ λb z=>ak z
 refine aX (CX e) ?_;refine aK (λh=>?_) λh=>ak ?_
 .obtain⟨h0,h1⟩:=hev.nm.ce h;refine eh (λ_=>cU (bF (aT (ak ?_)))) λg=>bC g (AU.2 h0)
  rw[a8 h,du];rfl
 .grind
def hrT (w:WT) (l:Y ET) (j i:Nat):Prop:=((eN l j).2.1=1/\(eN l i).2.1=20/\(eN l i).2.2.1=(eN l j).1)\/((eN l j).2.1=21/\(eN l i).1=(eN l j).2.2.1)\/((eN l j).2.1=3/\adz w (eN l j).2.2.1=J/\(eN l i).2.1=4/\(eN l i).2.2.1=(eN l j).2.2.1)\/((eN l j).2.1=23/\(eN l i).2.1=22/\(eN l i).2.2.1=(eN l j).2.2.1)
def HdT (w:WT) (l:Y ET) (j i:Nat) (L:η):Prop:=l! L<=i/\∀v,v∈L↔∃k:Nat,k<i/\v=(k:Int)/\hrT w l j k
def HdT.yes {w:WT} {l:Y ET} (h:HdT w l j i z) (g:hrT w l j i):HdT w l j (i+1) (z++[(i:Int)]):=by
 refine ⟨by rw[bz,cH];have:=h.1;omega,λv=>?_⟩;rw[bO,h.2 v,aC]
 grind
def HdT.no {w:WT} {l:Y ET} (h:HdT w l j i z) (g:¬hrT w l j i):HdT w l j (i+1) z:=by
 refine ⟨by have:=h.1;omega,λv=>?_⟩;rw[h.2 v]
 grind
def avl {w:WT} {l:Y ET} (tr:TR (w,l)) (hj:j<l! l) (hw:sY (l,(j:Int))=Z a):Ok (oO (w,l,(j:Int))) λL=>l! L<=j+1/\∀v,v∈L↔(∃k:Nat,k<j/\v=(k:Int)/\hrT w l j k)\/((eN l j).2.1=17/\0<=a/\v=a):=by
 have hl:l! l<=400:=tr.len;have hev:Fp w (eN l j):=tr.ev _ (nL hj);unfold oO bk bB bP cP eU c_ bm bV jZ bT bW c8 aI cS;refine bF (aT ?_);refine bR j (λi x=>∃L,x=((i:Int),w,L,eN l j)/\HdT w l j i L) ?_ ?_ ⟨[],rfl,bI _,λv=>⟨nofun,λ⟨k,h,_⟩=>bC h (bN _)⟩⟩
 .rintro i x hi ⟨L,rfl,hd⟩;have hn:=hd.1;refine cU (bF (aT ?_));have hge:geti fV l (i:Int)=eN l i:=rfl;have ad:∀{R:Type} {Q:(R⊕(WT×η×ET))->Prop},hrT w l j i->(∀L',HdT w l j (i+1) L'->Q (.inr (w,L',eN l j)))->Ok (chk (bh (l! L+l! [(i:Int)]) 8) λ_=>(Z (.inr (w,L++[(i:Int)],eN l j)):M (R⊕(WT×η×ET)))) Q:=λh q=>bG (by grind) (by omega) (ak (q _ (hd.yes h)))
  refine aV (λx=>∃L',x=(w,L',eN l j)/\HdT w l j (i+1) L') ?_ ?_
  .refine aV (λx=>x.2=(w,L,eN l j,eN l i)/\(x.1=J↔(eN l j).2.1=1/\(eN l i).2.1=20/\(eN l i).2.2.1=(eN l j).1)) ?_ ?_
   .refine aK (λh=>aK (λg=>ak ⟨rfl,?_⟩) λg=>ak ⟨rfl,?_⟩) λh=>ak ⟨rfl,?_⟩
    .grind
    .grind
    .grind
   rintro⟨x,y⟩ ⟨e,h1⟩;subst e;refine aQ (λD=>ad (.inl (h1.1 D)) λL' h=>⟨L',rfl,h⟩) λA=>?_
   have h1:¬_:=λq=>bC (h1.2 q) (by grind)
   refine aV (λx=>x.2=(w,L,eN l j,eN l i)/\(x.1=J↔(eN l j).2.1=21/\(eN l i).1=(eN l j).2.2.1)) ?_ ?_
   .refine aK (λh=>ak ⟨rfl,?_⟩) λh=>ak ⟨rfl,?_⟩
    .grind
    .grind
   rintro⟨x,y⟩ ⟨e,h2⟩;subst e;refine aQ (λD=>ad (.inr (.inl (h2.1 D))) λL' h=>⟨L',rfl,h⟩) λA=>?_
   have h2:¬_:=λq=>bC (h2.2 q) (by grind)
   refine aV (λx=>x.2=(w,L,eN l j,eN l i)/\(x.1=J↔(eN l j).2.1=3/\adz w (eN l j).2.2.1=J/\(eN l i).2.1=4/\(eN l i).2.2.1=(eN l j).2.2.1)) ?_ ?_
   .refine aK (λh=>?_) λh=>ak ⟨rfl,?_⟩
    .have h:(eN l j).2.1=3:=h;refine aX (O4 hev) (aQ (λhv=>aK (λg=>ak ⟨rfl,?_⟩) λg=>ak ⟨rfl,?_⟩) λhv=>ak ⟨rfl,?_⟩)
     .grind
     .grind
     .grind
    .grind
   rintro⟨x,y⟩ ⟨e,h3⟩;subst e;refine aQ (λD=>ad (.inr (.inr (.inl (h3.1 D)))) λL' h=>⟨L',rfl,h⟩) λA=>?_
   have h3:¬_:=λq=>bC (h3.2 q) (by grind)
   refine aV (λx=>x.2=(w,L,eN l j)/\(x.1=J↔(eN l j).2.1=23/\(eN l i).2.1=22/\(eN l i).2.2.1=(eN l j).2.2.1)) ?_ ?_
   .refine aK (λh=>aK (λg=>ak ⟨rfl,?_⟩) λg=>ak ⟨rfl,?_⟩) λh=>ak ⟨rfl,?_⟩
    .grind
    .grind
    .grind
   rintro⟨x,y⟩ ⟨e,N⟩;subst e;refine aQ (λD=>ad (.inr (.inr (.inr (N.1 D)))) λL' h=>⟨L',rfl,h⟩) λA=>?_
   have N:¬_:=λq=>bC (N.2 q) (by grind)
   exact ak ⟨L,rfl,hd.no λq=>q.elim h1 λq=>q.elim h2 λq=>q.elim h3 N⟩
  rintro x ⟨L',rfl,h⟩;refine ak ⟨L',?_,h⟩;rw[fL]
 .rintro x ⟨L,rfl,hd⟩;have hn:=hd.1;refine cO ?_;refine aw (P:=λL=>l! L<=j+1/\∀v,v∈L↔(∃k:Nat,k<j/\v=(k:Int)/\hrT w l j k)\/((eN l j).2.1=17/\0<=a/\v=a)) ?_ λx hx=>ak hx
  refine aV (λL=>l! L<=j+1/\∀v,v∈L↔(∃k:Nat,k<j/\v=(k:Int)/\hrT w l j k)\/((eN l j).2.1=17/\0<=a/\v=a)) ?_ λx hx=>ak hx
  refine aK (λh=>?_) λh=>ak ⟨by dsimp only;omega,λv=>?_⟩
  .have h:(eN l j).2.1=17:=h;refine aX hw (eh (λh0=>bG (by grind) (by omega) (ak ⟨?_,λv=>?_⟩)) λg=>ak ⟨by dsimp only;omega,λv=>?_⟩)
   .grind
   .dsimp only;rw[bO,aC,hd.2 v]
    grind
   .dsimp only;rw[hd.2 v]
    grind
  .have h:¬(eN l j).2.1=17:=h;rw[hd.2 v]
   grind
def ntT (l:Y ET) (j p i:Nat):Prop:=((eN l i).2.1=18/\(eN l i).2.2.2.1=(eN l j).1)\/((eN l i).2.1=19/\(eN l i).2.2.1=(eN l p).2.2.1)
def apa (l:Y ET) (j:Nat) (y:Int):Prop:=(y= -1/\∀p:Nat,zW l (eL l j) j=(p:Int)->(eN l p).2.1=16->∀i,p<i->i<j->¬ntT l j p i)\/∃p k:Nat,zW l (eL l j) j=(p:Int)/\(eN l p).2.1=16/\y=(k:Int)/\p<k/\k<j/\ntT l j p k/\∀i,p<i->i<k->¬ntT l j p i
def apc {w:WT} {l:Y ET} (tr:TR (w,l)) (hj:j<l! l):Ok (sY (l,(j:Int))) (apa l j):=by
 have hl:l! l<=400:=tr.len;have hp:=BS l (eL l j) j;unfold sY bm bV bW c8 aI cS;refine aX (Pb tr hj) ?_;unfold apa;generalize zW l (eL l j) j=P at*
 refine aV (λb=>b=J↔P<0\/(eN l P.toNat).2.1≠16) ?_ ?_
 .refine bQ (λh=>ak ⟨λ_=>.inl h,λ_=>rfl⟩) λh=>?_
  refine bF (aT (ak ?_))
  grind
 intro b L;refine aQ (λe=>ak (.inl ⟨rfl,λp hp A=>?_⟩)) λe=>?_
 .grind
 have nb:¬_:=λq=>by have:=L.2 q;rw[e]at this;cases this
 obtain⟨p,rfl⟩:∃p:Nat,P=(p:Int):=⟨P.toNat,by omega⟩
 rw[be]at nb;have A:(eN l p).2.1=16:=by omega
 refine bR (j-(p+1)) (λn x=>x=((p+1+n:Nat):Int)/\∀i,p<i->i<p+1+n->¬ntT l j p i) ?_ ?_ ⟨?_,λi h1 N=>by omega⟩
 .rintro n x hn ⟨rfl,hno⟩;generalize hk:p+1+n=k at*
  refine cU ?_;refine aV (λb=>b=J↔ntT l j p k) ?_ ?_
  .refine bF (aT ?_);refine aK (λz=>?_) λz=>?_
   .have z:(eN l k).2.1=18:=z;refine bF (aT (bF (aT ?_)));refine aK (λD=>ak ⟨λ_=>.inl ⟨z,D⟩,λ_=>rfl⟩) λD=>?_
    refine bF (aT ?_);refine aK (λh=>?_) λh=>ak ⟨nofun,λq=>q.elim (λq=>(D q.2).elim) λq=>(h q.1).elim⟩
    omega
   .have z:¬(eN l k).2.1=18:=z;refine bF (aT ?_);refine aK (λh=>?_) λh=>ak ⟨nofun,λq=>q.elim (λq=>(z q.1).elim) λq=>(h q.1).elim⟩
    refine bF (aT (bF (aT (ak ?_))));exact⟨λq=>.inr ⟨h,bJ q⟩,λq=>a8 (q.elim (λq=>(z q.1).elim) And.right)⟩
  intro b L;refine aQ (λe=>ak (.inr ⟨p,k,rfl,A,rfl,by omega,by omega,L.1 e,hno⟩)) λe=>ak ⟨?_,λi h1 N=>?_⟩
  .rw[fL,<-hk];rfl
  .grind
 .rintro x ⟨rfl,hno⟩;exact cO (ak (.inl ⟨rfl,λp' hp' _ i h1 N=>by
   have:p'=p:=by omega
   subst this;exact hno i h1 (by omega)⟩))
 .rw[fL]
def Lp (w:WT) (l:Y ET):WkD:=⟨l! l,l,l! w.2.1,λj=>zW l (eL l j) j,λj=>(oO (w,l,(j:Int))).getD [],λk=>lq w l (k:Int) (l! l)⟩
def So {w:WT} {l:Y ET} (tr:TR (w,l)) (A:j<l! l):oO (w,l,(j:Int))=Z ((Lp w l).Hd j)/\l! ((Lp w l).Hd j)<=j+1/\∃z:Int,apa l j z/\∀v,v∈(Lp w l).Hd j↔(∃k:Nat,k<j/\v=(k:Int)/\hrT w l j k)\/((eN l j).2.1=17/\0<=z/\v=z):=by
 let⟨z,D,hwk⟩:=apc tr A;let⟨L,hL,h1,N⟩:=avl tr A D;have e:(Lp w l).Hd j=L:=by show (oO (w,l,(j:Int))).getD []=L;rw[hL];rfl
 grind
def ah5 {w:WT} {l:Y ET} (tr:TR (w,l)) (z:j<l! l) (h:a∈(Lp w l).Hd j):0<=a/\a<(j:Int):=by
 let⟨_,_,D,h1,A⟩:=So tr z;rcases (A a).1 h with ⟨k,v,rfl,_⟩|⟨_,h0,rfl⟩
 .omega
 .rcases h1 with ⟨g,_⟩|⟨p,k,_,_,g,_,L,_⟩
  .omega
  .omega
def as3 {w:WT} {l:Y ET} (tr:TR (w,l)):WkF w l (Lp w l):=by
 have N:l! l<=400:=tr.len;have hL:l! w.2.1<=4:=tr.wb.l;refine ⟨rfl,rfl,rfl,λj z=>⟨Pb tr z,(BS l (eL l j) j).2⟩,λj z=>?_,?_,λk A=>?_⟩
 .obtain⟨h1,h2,_⟩:=So tr z;exact⟨h1,by omega,λv L=>by have:=ah5 tr z L;omega⟩
 .obtain⟨D,h0,h1⟩:=W3 w (by omega);exact⟨D,h0,λk A=>Yh tr h1 A⟩
 .refine ⟨dc (U7 w l (k:Int) (l! l)) N,λp hp=>?_⟩;rcases (rC w l (k:Int) (l! l) p hp).r with h|⟨_,h,_⟩<;>omega
def atq {w:WT} {l:Y ET} (tr:TR (w,l)):Ok (sX (w,l)) λy=>∃o z,I0 (l! l) z o/\WkO (Lp w l) o/\TbC l o (l! w.2.2.2.2.1) (l! l) y.1 y.2:=atr tr (as3 tr)
def azu {cs:Y η} (D:j<l! cs):F0 ((((j:Int),(l! (cs.getD j []):Int)),(i:Int)),cs)=Z ((cs.getD j []).getD i 0,cs):=by
 refine cI ?_;have z:kX (T:=aP) cs (j:Int)=cs.getD j []:=tJ cs j;refine aV (λx=>x=((((j:Int),(l! (cs.getD j []):Int)),decide (l! (cs.getD j [])<=i)),cs)) ?_ ?_
 .refine cO (ak ?_);rw[be];have:dz (aS (l! (cs.getD j []))) (i:Int)=decide (l! (cs.getD j [])<=i):=by unfold dz;simp
  rw[this];rfl
 rintro x rfl;refine aK (λh=>ak ?_) λh=>?_
 .grind
 .have h:i<l! (cs.getD j []):=Nat.lt_of_not_le h;rw[z];refine bF (bF (bF (aT (ak ?_))));have A:geti aP (cs.getD j []) (i:Int)=(cs.getD j []).getD i 0:=vC _ i;rw[A]
def ay4 {w:WT} {l:Y ET} {c:Y η} {tm:Y ν} {la:η} (A:CI w l (l! l) c tm la) (h:i<j) (z:j<l! l) (ht:eL l i=eL l j):Rw l c i j:=by
 refine ⟨h,?_⟩;rw[ht,A.own j z];have:=He l (eL l j) (show i+1<=j+1 by omega);omega
def ay7 {w:WT} {l:Y ET} {c:Y η} {tm:Y ν} {la:η} (D:CI w l (l! l) c tm la) (A:j<l! l) (h:(Lp w l).Pv j=(i:Int)):Rw l c i j:=by
 have h:zW l (eL l j) j=(i:Int):=h;have h1:=(BS l (eL l j) j).2;have z:=(FI j (l:=l) (u:=eL l j) (by omega)).1;rw[h,be]at z;exact ay4 D (by omega) A z
def alj {w:WT} {l:Y ET} {c:Y η} {tm:Y ν} {la:η} (A:CI w l (l! l) c tm la) (h:i<j) (D:j<l! l) (z:wQ (c.getD i []) (c.getD j [])):Rw l c i j:=by
 have:=z (eL l i);rw[A.own i (by omega)]at this;exact⟨h,this⟩
def abb {l:Y ET} {q:zN} (h:Dr l q i) (z:i<l! l):q.2.1<=(i:Int)/\i<enB l q/\(eN l i).1=q.1:=by
 refine ⟨h.2.1,?_,h.1⟩;have:=h.2.2;unfold enB;split<;>omega
def ay6 {w:WT} {l:Y ET} {c:Y η} {tm:Y ν} {la:η} (N:CI w l (l! l) c tm la) {p q:zN} (sl:aph w l c p q) (fl:fol p q) (hq:0<=q.2.1) (ha:i<l! l) (z:j<l! l) (h1:Dr l p i) (A:Dr l q j) (L:Cnf (eN l i) (eN l j)):Rw l c p.2.2.1.toNat j:=by
 have p0:=fl.2.2.1;have p1:=fl.2.2.2;have D:=A.2.1;refine alj N (by omega) z (sl.cf i j ⟨h1.2.1,?_,h1.1⟩ (abb A z) L);have:=h1.2.2;omega
def ay5 {w:WT} {l:Y ET} {c:Y η} {tm:Y ν} {la:η} (L:CI w l (l! l) c tm la) {p q:zN} (sl:aph w l c p q) (fl:fol p q) (q0:0<=q.2.2.1) (q1:q.2.2.1<(l! l:Int)) (N:q.2.1<q.2.2.1) (h:∃a b,a<l! l/\b<l! l/\Dr l p a/\Dr l q b/\Rw l c a b):Rw l c p.2.2.1.toNat q.2.2.1.toNat:=by
 let⟨a,b,ha,z,h1,D,A⟩:=h;have p0:=fl.2.2.1;have p1:=fl.2.2.2;refine alj L (by omega) (by omega) (sl.lk q0 ⟨a,b,⟨h1.2.1,?_,h1.1⟩,abb D z,A.2⟩);have:=h1.2.2;omega
def avr {w:WT} {l:Y ET} {c:Y η} {tm:Y ν} {la:η} (A:CI w l (l! l) c tm la) (hd:∀i j:Nat,j<l! l->(i:Int)∈(Lp w l).Hd j->Rw l c i j)
 (sl:∀k:Nat,k<=l! w.2.1->∀p∈lq w l (k:Int) (l! l),∀q∈lq w l (k:Int) (l! l),fol p q->aph w l c p q):ClW (Lp w l) (Rw l c):=by
 refine ⟨λa m b _ _ N h g=>Rw.tr A N h g,λi j _ L h=>ay7 A L h,λi j _ L h=>hd i j L h,λk D p hp q z f a b ha N h1 h2 h3=>?_,λk D p hp q z f q0 h=>?_⟩
 .exact ay6 A (sl k D p hp q z f) f (rC w l (k:Int) (l! l) q z).a0 ha N h1 h2 h3
 .have hr:=(rC w l (k:Int) (l! l) q z).r;exact ay5 A (sl k D p hp q z f) f q0 (by omega) (by omega) h
abbrev gT (th:Y e!) (u:Int):e!:=geti iD th u
def Ip (xs:Y T.den) (j k:Int) (x:T.den) (A:0<=j) (z:0<=k) (D:k<l! xs):geti _ (cC xs j x) k=if k=j then x else geti _ xs k:=by
 by_cases h:j<l! xs
 .exact jK xs j k x A h z
 .rw[ax (by omega)];unfold geti cC
  grind
variable {N:Y (Int×Int×Bool)}
def Aa {t:Int} (s:Int) (D:0<=t) (A:0<=a) (z:a<l! N):gT (AX N t s) a=if a=t then (s,(gT N a).2) else gT N a:=by
 unfold AX gT;rw[Ip _ _ _ _ D A z];split
 .grind
 .rfl
def ad3 {t:Int} (s:Int) (D:0<=t) (A:0<=a) (z:a<l! N):gT (cdP N t s) a=if a=t then ((gT N a).1,s,(gT N a).2.2) else gT N a:=by
 unfold cdP gT;rw[Ip _ _ _ _ D A z];split
 .grind
 .rfl
def ad7 {t:Int} (s:Bool) (D:0<=t) (A:0<=a) (z:a<l! N):gT (atP N t s) a=if a=t then ((gT N a).1,(gT N a).2.1,s) else gT N a:=by
 unfold atP gT;rw[Ip _ _ _ _ D A z];split
 .grind
 .rfl
def awq (z:0<=a):∀(l:η) (th:Y e!),(∀x∈l,0<=x)->a<l! th->gT (FZ th l) a=if a∈l then (4,(gT th a).2) else gT th a
 |[],th,_,_=>by simp[FZ]
 |x::r,th,h,A=>by
  have e:FZ th (x::r)=FZ (AX th x 4) r:=rfl;rw[e,awq z r _ (λy D=>h y (cg _ D)) (by unfold AX;rw[bX];exact A),Aa 4 (h x (dk ..)) z A]
  grind
structure TH1 (k o v t u:Int) (g g':Int×Int×Bool):Prop where
 a:u=t->g.1≠0/\g.1≠3/\(k=16->g'.1=3/\g'.2.1=o)/\(k≠16->g'.1≠0/\g'.1≠3/\g'.1≠4)/\(k≠1->k≠17->g.1=2)
 b:u≠t->k=18->v=u->g.1=3/\g.2.1=o/\g'.1=4/\g'.2.1=o
 c:u≠t->k=19->g.1=3->g.2.1=o->g'.1=4/\g'.2.1=o
 d:u≠t->¬(k=18/\v=u)->¬(k=19/\g.1=3/\g.2.1=o)->g'.2.1=g.2.1/\(g'.1=g.1\/k=20/\o=u/\g.1=0/\g'.1=1)
 e:k=20->o=u->g'.1≠0
def TH1.same {o v t u:Int} {g g':e!} (h2:a≠1->a≠17->u=t->g.1=2) (e1:g'.1=g.1) (e2:g'.2.1=g.2.1) (n1:a≠1) (n2:a≠17) (n3:a≠16) (A:a≠20) (L:a=18->v=u->u=t) (D:a=19->g.1=3->g.2.1=o->u=t):TH1 a o v t u g g':=
 ⟨λh=>(by grind),λh h1 z=>(h (L h1 z)).elim,λh h1 z N=>(h (D h1 z N)).elim,λ_ _ _=>⟨e2,.inl e1⟩,λh=>(A h).elim⟩
def atj (w:WT) (s:SY) (t k o v:Int) (en:EN w s t k o) (rd:UQ w s t k o) (z:k=18->v=(po w s t k o v).2) (u:Int) (D:0<=u) (A:u<l! s.2.2.2):TH1 k o v t u (gT s.2.2.2 u) (gT (po w s t k o v).1.2.2.2 u):=by
 have t0:=en.t0;have r2:k≠1->k≠17->u=t->(gT s.2.2.2 u).1=2:=λh1 h2 h3=>by subst h3;exact rd.r h1 h2
 have nm:=en.nm;have k1:=nm.k1;have k2:=nm.k2;let⟨s1,N,L,th⟩:=s;dsimp only at A r2;change TH1 k o v t u (gT th u) (gT (po w (s1,N,L,th) t k o v).1.2.2.2 u);by_cases a1:k=1
 .subst a1;have e:gT (po w (s1,N,L,th) t 1 o v).1.2.2.2 u=if u=t then (2,(gT th u).2) else gT th u:=Aa 2 t0 D A
  rw[e];refine ⟨λh=>?_,λ_ h=>by omega,λ_ h=>by omega,λh _ _=>by rw[ax h];exact⟨rfl,.inl rfl⟩,λh=>by omega⟩;have b:=rd.b rfl;rw[aF h];subst h;have b:(gT th u).1=1:=b;dsimp only;omega
 by_cases a2:k=2
 .subst a2;have e:gT (po w (s1,N,L,th) t 2 o v).1.2.2.2 u=if u=t then (5,(gT th u).2) else gT th u:=Aa 5 t0 D A
  rw[e];refine ⟨λh=>?_,λ_ h=>by omega,λ_ h=>by omega,λh _ _=>by rw[ax h];exact⟨rfl,.inl rfl⟩,λh=>by omega⟩;have:=r2 (by omega) (by omega) h;rw[aF h];dsimp only;omega
 by_cases a14:k=14\/k=15
 .have e:∃b,gT (po w (s1,N,L,th) t k o v).1.2.2.2 u=if u=t then ((gT th u).1,(gT th u).2.1,b) else gT th u:=by
   rcases a14 with rfl|rfl
   .exact⟨J,ad7 J t0 D A⟩
   .exact⟨af,ad7 af t0 D A⟩
  let⟨b,e⟩:=e;rw[e];refine TH1.same r2 (by split<;>rfl) (by split<;>rfl) a1 (by omega) (by omega) (by omega) (λh=>by omega) λh=>by omega
 by_cases a16:k=16
 .subst a16;have e:gT (po w (s1,N,L,th) t 16 o v).1.2.2.2 u=if u=t then (3,o,(gT th u).2.2) else gT th u:=by
   have:gT (cdP (AX th t 3) t o) u=_:=ad3 o t0 D (by unfold AX;rw[bX];exact A);refine Eq.trans this ?_;rw[Aa 3 t0 D A];split<;>rfl
  rw[e];refine ⟨λh=>?_,λ_ h=>by omega,λ_ h=>by omega,λh _ _=>by rw[ax h];exact⟨rfl,.inl rfl⟩,λh=>by omega⟩;have:=r2 (by omega) (by omega) h;rw[aF h];exact⟨by omega,by omega,λ_=>⟨rfl,rfl⟩,λh=>(h rfl).elim,λ_ _=>this⟩
 by_cases a17:k=17
 .subst a17;have e:gT (po w (s1,N,L,th) t 17 o v).1.2.2.2 u=if u=t then (2,0,(gT th u).2.2) else gT th u:=by
   have:gT (cdP (AX th t 2) t 0) u=_:=ad3 0 t0 D (by unfold AX;rw[bX];exact A);refine Eq.trans this ?_;rw[Aa 2 t0 D A];split<;>rfl
  rw[e];refine ⟨λh=>?_,λ_ h=>by omega,λ_ h=>by omega,λh _ _=>by rw[ax h];exact⟨rfl,.inl rfl⟩,λh=>by omega⟩;have b:=(rd.wk rfl).1;rw[aF h];subst h;have b:(gT th u).1=4:=b;dsimp only;omega
 by_cases a18:k=18
 .subst a18;have z:=z rfl;rw[Fk]at z ⊢;dsimp only at z ⊢;by_cases hl:l! (wl th o (l! th))=0
  .rw[aF hl]at z ⊢;dsimp only at z ⊢;exact TH1.same r2 rfl rfl a1 (by omega) (by omega) (by omega) (λ_ h=>by omega) λh=>by omega
  .rw[ax hl]at z ⊢;dsimp only at z ⊢;have hv:v∈wl th o (l! th):=by
    unfold Ew at z;rw[ax hl]at z;split at z
    next h=>simpa using h
    .rw[z];exact bK (T:=aP) (by omega) (by omega)
   rw[<- z];let⟨v0,v1,v2⟩:=sU.1 hv;unfold Py at v2;simp only[au,bS]at v2;rw[Aa 4 v0 D A];refine ⟨λh=>?_,λh _ h2=>?_,λ_ h=>by omega,λh h2 _=>?_,λh=>by omega⟩
   .have:=r2 (by omega) (by omega) h;rw[ax (λq=>by rw[q]at this;exact bC (this.symm.trans v2.1) (by decide))];omega
   .subst h2;rw[aF rfl];exact⟨v2.1,v2.2,rfl,v2.2⟩
   .rw[ax λq=>h2 ⟨rfl,q.symm⟩];exact⟨rfl,.inl rfl⟩
 by_cases a19:k=19
 .subst a19;have e:gT (po w (s1,N,L,th) t 19 o v).1.2.2.2 u=if u∈wl th o (l! th) then (4,(gT th u).2) else gT th u:=awq D _ th (λx hx=>(sU.1 hx).1) A
  rw[e];have hm:u∈wl th o (l! th)↔(gT th u).1=3/\(gT th u).2.1=o:=by
   rw[sU];unfold Py;simp only[au,bS];exact⟨λh=>h.2.2,λh=>⟨D,A,h⟩⟩
  refine ⟨λh=>?_,λ_ h=>by omega,λh _ h3 h4=>?_,λh _ h3=>?_,λh=>by omega⟩
  .have:=r2 (by omega) (by omega) h;rw[ax (λq=>by have:=(hm.1 q).1;omega)];omega
  .rw[aF (hm.2 ⟨h3,h4⟩)];exact⟨rfl,h4⟩
  .rw[ax λq=>h3 ⟨rfl,hm.1 q⟩];exact⟨rfl,.inl rfl⟩
 by_cases a20:k=20
 .subst a20;have sp:=rd.sp rfl;have o0:=(nm.th (.inl rfl)).1;have e:gT (po w (s1,N,L,th) t 20 o v).1.2.2.2 u=if u=o then (1,(gT th u).2) else gT th u:=Aa 1 o0 D A
  rw[e];refine ⟨λh=>?_,λ_ h=>by omega,λ_ h=>by omega,λh _ _=>?_,λ_ h=>?_⟩
  .have:=r2 (by omega) (by omega) h;rw[ax (λq=>sp.1 (by omega))];omega
  .by_cases q:u=o
   .subst q;rw[aF rfl];exact⟨rfl,.inr ⟨rfl,rfl,sp.2,rfl⟩⟩
   .rw[ax q];exact⟨rfl,.inl rfl⟩
  .rw[aF h.symm];show (1:Int)≠0;omega
 have e:(po w (s1,N,L,th) t k o v).1.2.2.2=th:=by
  unfold po;rw[ax a1,ax a2];repeat' split
  all_goals first|rfl|omega
 rw[e];exact TH1.same r2 rfl rfl a1 a17 a16 a20 (λh=>(a18 h).elim) λh=>(a19 h).elim
def YT {l:Y ET} (h:eL l i=j):∀n:Nat,i<n->(i:Int)<=zW l j n
 |0,hi=>bC hi (bN _)
 |n+1,hi=>by
  rw[zW];by_cases e:eL l n=j
  .omega
  .rw[ax e];by_cases z:i=n
   .grind
   .exact YT h n (by omega)
def ntU (l:Y ET) (u:Int) (p i:Nat):Prop:=((eN l i).2.1=18/\(eN l i).2.2.2.1=u)\/((eN l i).2.1=19/\(eN l i).2.2.1=(eN l p).2.2.1)
abbrev gN9 (w:WT) (l:Y ET) (i u:Nat):e!:=gT (Kk w (l.take i)).1.2.2.2 (u:Int)
def Fz (x:η) {t:Int} (v:Int) (z:0<=t) (A:i<l! x):(cC x t v).getD i 0=if t=(i:Int) then v else x.getD i 0:=by
 have e:t=((t.toNat:Nat):Int):=by omega
 rw[e,rB,aE,ey]
 grind
def ah3 {e:ET} {wt:η} {u:Nat} (A:u<l! wt) (D:0<=e.1):(HE e wt).getD u 0=if e.2.1=16/\e.1=(u:Int) then e.2.2.1 else if e.2.1=18/\e.2.2.2.1=(u:Int)\/e.2.1=19/\wt.getD u 0=e.2.2.1 then -1 else wt.getD u 0:=by
 unfold HE;by_cases k16:e.2.1=16
 .rw[aF k16,Fz _ _ D A]
  grind
 rw[ax k16,ax (show ¬(e.2.1=16/\e.1=(u:Int)) from λz=>k16 z.1)];by_cases k18:e.2.1=18
 .rw[aF k18];by_cases v0:0<=e.2.2.2.1
  .rw[aF v0,Fz _ _ v0 A]
   grind
  .grind
 rw[ax k18];by_cases k19:e.2.1=19
 .rw[aF k19,abz _ _ _ A]
  grind
 grind
def ah4 {j:Int} {e:ET} {wt wa:η} {u:Nat} (z:u<l! wa) (A:u<l! wt):(EJ j e wt wa).getD u 0=if e.2.1=18/\e.2.2.2.1=(u:Int)\/e.2.1=19/\wt.getD u 0=e.2.2.1 then j else wa.getD u 0:=by
 unfold EJ;by_cases k18:e.2.1=18
 .rw[aF k18];by_cases v0:0<=e.2.2.2.1
  .rw[aF v0,Fz _ _ v0 z]
   grind
  .grind
 rw[ax k18];by_cases k19:e.2.1=19
 .rw[aF k19,ac0 _ _ _ _ _ z]
  grind
 grind
structure WV (w:WT) (l:List ET) (j:Nat) (la sp wa wt:η) (u:Nat) (g:Int×Int×Bool):Prop where
 L:la.getD u 0=zW l u j
 W:wt.getD u 0=if g.1=3 then g.2.1 else -1
 p:g.1=3\/g.1=4->0<=zW l u j/\(eN l (zW l u j).toNat).2.1=16/\(eN l (zW l u j).toNat).2.2.1=g.2.1
 a:g.1=3->∀i,(zW l u j).toNat<i->i<j->¬ntU l u (zW l u j).toNat i
 n:g.1=4->∃k:Nat,wa.getD u 0=(k:Int)/\(zW l u j).toNat<k/\k<j/\ntU l u (zW l u j).toNat k/\∀i,(zW l u j).toNat<i->i<k->¬ntU l u (zW l u j).toNat i
 s:g.1=0->∀k,k<j->¬((eN l k).2.1=20/\(eN l k).2.2.1=(u:Int))
 q:∀i:Nat,i<j->(eN l i).2.1=20->(eN l i).2.2.1=(u:Int)->sp.getD u 0=(i:Int)
 r:0<=sp.getD u 0->(eN l (sp.getD u 0).toNat).2.1=20/\(eN l (sp.getD u 0).toNat).2.2.1=(u:Int)
def WV.step {w:WT} {l:Y ET} {la sp wa wt:η} (h:WV w l j la sp wa wt i (gN9 w l j i)) (hj:j<l! l) (sc:SCx w (l.take j) (Kk w (l.take j)).1 (Kk w (l.take j)).2.1 (Kk w (l.take j)).2.2 (eN l j)) (hu:i<l! w.2.2.2.2.1) (h1:l! la=l! w.2.2.2.2.1) (h2:l! sp=l! w.2.2.2.2.1) (h3:l! wa=l! w.2.2.2.2.1) (h4:l! wt=l! w.2.2.2.2.1):
 WV w l (j+1) (cC la (eN l j).1 (j:Int)) (z_ (j:Int) (eN l j) sp) (EJ (j:Int) (eN l j) wt wa) (HE (eN l j) wt) i (gN9 w l (j+1) i):=by
 have en:=sc.en;have t0:=en.t0;have hsp:=sc.rd.sp;have ho:=en.nm.th;have hcd:=en.nm.cd;have eg:gN9 w l (j+1) i=gT (po w (Kk w (l.take j)).1 (eN l j).1 (eN l j).2.1 (eN l j).2.2.1 (eN l j).2.2.2.1).1.2.2.2 (i:Int):=by unfold gN9;rw[O3 w hj]
 have T1:TH1 (eN l j).2.1 (eN l j).2.2.1 (eN l j).2.2.2.1 (eN l j).1 (i:Int) (gN9 w l j i) (gN9 w l (j+1) i):=by
  rw[eg];exact atj w (Kk w (l.take j)).1 (eN l j).1 (eN l j).2.1 (eN l j).2.2.1 (eN l j).2.2.2.1 en sc.rd (λh=>sc.va.el (by omega) (by omega) (by omega) (by omega) (by omega)) (i:Int) (by omega) (by rw[en.e3];omega)
 have hsp':(eN l j).2.1=20->(eN l j).2.2.1=(i:Int)->(gN9 w l j i).1=0:=λa b=>by
  have:=(hsp a).2;rw[b]at this;exact this
 clear eg en sc hsp;have eW:=ah3 (e:=eN l j) (wt:=wt) (u:=i) (by omega) t0;have eA:=ah4 (j:=(j:Int)) (e:=eN l j) (wt:=wt) (wa:=wa) (u:=i) (by omega) (by omega);have pv':zW l i (j+1)=if eL l j=i then (j:Int) else zW l i j:=rfl
 have hth:eL l j=i↔(i:Int)=(eN l j).1:=by unfold eL;omega
 have hpl:=BS l i j;have eS:(z_ (j:Int) (eN l j) sp).getD i 0=if (eN l j).2.1=20/\(eN l j).2.2.1=(i:Int) then (j:Int) else sp.getD i 0:=by
  unfold z_;by_cases k:(eN l j).2.1=20
  .rw[aF k,Fz _ _ (ho (.inl k)).1 (by omega)];by_cases q:(eN l j).2.2.1=(i:Int)
   .rw[aF q,aF ⟨k,q⟩]
   .rw[ax q,ax λz=>q z.2]
  .rw[ax k,ax λz=>k z.1]
 let⟨aL,aW,ap,aa,an,as',aq,ar⟩:=h;have hL:(cC la (eN l j).1 (j:Int)).getD i 0=zW l i (j+1):=by
  rw[Fz _ _ t0 (by omega),pv',aL];by_cases q:eL l j=i
  .rw[aF q,aF (hth.1 q).symm]
  .rw[ax q,ax λz=>q (hth.2 z.symm)]
 have hq:∀u:Nat,u<j+1->(eN l u).2.1=20->(eN l u).2.2.1=(i:Int)->(z_ (j:Int) (eN l j) sp).getD i 0=(u:Int):=λu hi a b=>by grind
 have hr:0<=(z_ (j:Int) (eN l j) sp).getD i 0->(eN l ((z_ (j:Int) (eN l j) sp).getD i 0).toNat).2.1=20/\(eN l ((z_ (j:Int) (eN l j) sp).getD i 0).toNat).2.2.1=(i:Int):=by
  rw[eS];by_cases q:(eN l j).2.1=20/\(eN l j).2.2.1=(i:Int)
  .rw[aF q,be];exact λ_=>q
  .rw[ax q];exact ar
 clear eS aL aq ar;let⟨ta,tb,tc,td,te⟩:=T1;generalize gN9 w l (j+1) i=g' at*
 generalize gN9 w l j i=g at*
 generalize hP:zW l i j=P at*
 by_cases D:(i:Int)=(eN l j).1
 .obtain⟨b1,b2,b3,b4,_⟩:=ta D;rw[aF (hth.2 D)]at pv';rw[ax b2]at aW;by_cases k16:(eN l j).2.1=16
  .obtain⟨c1,c2⟩:=b3 k16;refine ⟨hL,by rw[eW,aF ⟨k16,D.symm⟩,aF c1,c2],λ_=>?_,λ_ u x y=>?_,λh=>by omega,λh=>by omega,hq,hr⟩
   .rw[pv',be];exact⟨by omega,k16,c2.symm⟩
   .rw[pv',be]at x;omega
  .obtain⟨c1,c2,c3⟩:=b4 k16;refine ⟨hL,?_,λh=>by omega,λh=>by omega,λh=>by omega,λh=>by omega,hq,hr⟩;rw[eW,ax (λx=>k16 x.1),ax c2,aW];split<;>rfl
 rw[ax λz=>D (hth.1 z)]at pv';rw[ax (λx=>D x.2.symm)]at eW;by_cases A:(eN l j).2.1=18/\(eN l j).2.2.2.1=(i:Int)\/(eN l j).2.1=19/\wt.getD i 0=(eN l j).2.2.1
 .have B:g.1=3/\g'.1=4/\g'.2.1=g.2.1/\((eN l j).2.1=19->g.2.1=(eN l j).2.2.1):=by
   grind
  let⟨N,L,d3,d4⟩:=B;let⟨p1,p2,p3⟩:=ap (.inl N);rw[aF A]at eW eA;have hnt:ntU l i P.toNat j:=by
   rcases A with A|⟨k,_⟩
   .exact .inl A
   .exact .inr ⟨k,by rw[p3,d4 k]⟩
  refine ⟨hL,by rw[eW,ax (by omega)],λ_=>by rw[pv',d3];exact⟨p1,p2,p3⟩,λh=>by omega,λ_=>⟨j,eA,?_⟩,λh=>by omega,hq,hr⟩;rw[pv'];exact⟨by omega,by omega,hnt,aa N⟩
 rw[ax A]at eW eA;let⟨N,L⟩:=td D (λq=>A (.inl q)) λq=>A (.inr ⟨q.1,by rw[aW,aF q.2.1,q.2.2]⟩)
 have nm:g.1=3->¬ntU l i P.toNat j:=λq m=>by
  let⟨_,_,p3⟩:=ap (.inl q);rcases m with m|⟨k,m⟩
  .exact A (.inl m)
  .exact A (.inr ⟨k,by rw[aW,aF q,m,p3]⟩)
 refine ⟨hL,?_,λq=>?_,λq u x y=>?_,λq=>?_,λq k hk=>?_,hq,hr⟩
 .rw[eW,aW,N];rcases L with L|L
  .rw[L]
  .rw[ax (by omega),ax (by omega)]
 .rw[pv',N];exact ap (by omega)
 .have q:g.1=3:=by omega
  rw[pv']at x ⊢;by_cases z:u=j
  .subst z;exact nm q
  .exact aa q u x (by omega)
 .obtain⟨k,k1,k2,k3,k4⟩:=an (by omega);rw[pv'];exact⟨k,eA.trans k1,k2,by omega,k4⟩
 .have q0:g.1=0:=by omega
  by_cases e:k=j
  .subst e;exact λr=>te r.1 r.2 q
  .exact as' q0 k (by omega)
def as9:∀n,∀x∈thP n,x.1=0\/x.1=1
 |0,x,h=>by cases h
 |n+1,x,h=>by
  rcases a_.1 h with rfl|h
  .exact .inr rfl
  .grind
def WV.zero (w:WT) (l:Y ET) (u:Nat) (A:u<l! w.2.2.2.2.1):WV w l 0 (aG (l! w.2.2.2.2.1) (-1)) (aG (l! w.2.2.2.2.1) (-1)) (aG (l! w.2.2.2.2.1) (-1)) (aG (l! w.2.2.2.2.1) (-1)) u (gN9 w l 0 u):=by
 have h1:(gN9 w l 0 u).1=0\/(gN9 w l 0 u).1=1:=as9 _ _ (bK (T:=iD) (xs:=thP (l! w.2.2.2.2.1)) (j:=(u:Int)) (by omega) (by rw[Lq];omega));have hW:(aG (l! w.2.2.2.2.1) (-1:Int)).getD u 0= -1:=by grind
 exact⟨hW,by rw[hW,ax (by omega)],λh=>by omega,λh=>by omega,λh=>by omega,λ_ k z=>bC z (bN _),λi hi=>bC hi (bN _),λh=>by omega⟩
def LV (l:Y ET) (n:Nat) (kk:Int) (j:Nat) (si:Y η):Prop:=∀o:Nat,o<n->∀v:Int,v∈si.getD o []↔∃i:Nat,i<j/\v=(i:Int)/\(eN l i).2.1=kk/\(eN l i).2.2.1=(o:Int)
def LV.step {l:Y ET} {si:Y η} (h:LV l i a j si) (D:l! si=i) (h0:(eN l j).2.1=a->0<=(eN l j).2.2.1):LV l i a (j+1) (QQ a (j:Int) (eN l j) si):=λo z v=>by
 rw[adg a (j:Int) (eN l j) si (by omega) h0];have A:=h o z v
 grind
def LV.zero (l:Y ET) (n:Nat) (kk:Int):LV l n kk 0 (aG n []):=λo z v=>by grind
structure WVs (w:WT) (l:List ET) (j:Nat) (la sp wa wt:η) (si ei:List η):Prop where
 v:∀u:Nat,u<l! w.2.2.2.2.1->WV w l j la sp wa wt u (gN9 w l j u)
 s:LV l (l! w.1) 4 j si
 e:LV l (l! w.2.2.2.1) 22 j ei
def WVs.wake {w:WT} {l:Y ET} {la sp wa wt:η} {si ei:Y η} (h:WVs w l j la sp wa wt si ei) (tr:TR (w,l)) (z:j<l! l) (k:(eN l j).2.1=17) (D:apa l j a):a=wa.getD (eL l j) 0/\0<=a:=by
 have N:=D8 tr z;have A:(gN9 w l j (eL l j)).1=4:=by
  have:=((tr.sc z).rd.wk k).1;exact this
 let⟨p0,p16,_⟩:=(h.v _ (HH tr z)).p (.inr A);let⟨k1,e1,l1,l2,n1,f1⟩:=(h.v _ (HH tr z)).n A;have nt:∀p i,ntT l j p i↔ntU l (eL l j:Int) p i:=λp i=>by unfold ntT ntU;rw[N]
 rcases D with ⟨_,hno⟩|⟨p,k2,L,_,rfl,l3,l4,n2,f2⟩
 .grind
 .grind
def WVs.src {w:WT} {l:Y ET} {la sp wa wt:η} {si ei:Y η} (h:WVs w l j la sp wa wt si ei) (tr:TR (w,l)) (A:j<l! l) (hs:EA (l! w.2.2.2.2.1) j sp) (m:a∈tX w la sp wa si ei (eN l j)) (s0:0<=a):(Lp w l).Pv j=a\/a∈(Lp w l).Hd j:=by
 have D:=D8 tr A;have N:=HH tr A;have V:=h.v _ N;have hev:Fp w (eN l j):=tr.ev _ (nL A);have nm:=hev.nm;let⟨_,_,wk,hwk,hd⟩:=So tr A;rcases bO.1 m with m|m
 .rw[aC,D,vC,V.L]at m;exact .inl m.symm
 refine .inr ((hd a).2 ?_);split at m
 next k=>rw[aC,D,vC]at m;have:=(hs.2 _ N).2;let⟨r1,r2⟩:=V.r (by omega);exact .inl ⟨a.toNat,by omega,by omega,.inl ⟨k,by rw[m];exact r1,by rw[m,D];exact r2⟩⟩
 split at m
 .rename_i k;let⟨o0,o1⟩:=nm.th (.inr k);have z:(eN l j).2.2.1=(((eN l j).2.2.1.toNat:Nat):Int):=by omega
  rw[aC,z,vC,(h.v _ (by omega)).L]at m;have h1:=BS l (eN l j).2.2.1.toNat j;have h2:=(FI (l:=l) (u:=(eN l j).2.2.1.toNat) j (by omega)).1;rw[<- m]at h1 h2;exact .inl ⟨a.toNat,by omega,by omega,.inr (.inl ⟨k,by rw[D8 tr (by omega),h2];exact z.symm⟩)⟩
 split at m
 .rename_i k;let⟨o0,o1⟩:=nm.fu (.inr k);have z:(eN l j).2.2.1=(((eN l j).2.2.1.toNat:Nat):Int):=by omega
  let⟨i,s,b,c,d⟩:=(h.e _ (by omega) a).1 m;exact .inl ⟨i,s,b,.inr (.inr (.inr ⟨k,c,by rw[d];exact z.symm⟩))⟩
 split at m
 .rename_i k;split at m
  .rename_i kv;let⟨o0,o1⟩:=nm.ce (.inl k);have z:(eN l j).2.2.1=(((eN l j).2.2.1.toNat:Nat):Int):=by omega
   have m':a∈kX (T:=aP) si (((eN l j).2.2.1.toNat:Nat):Int):=by grind
   let⟨i,s,b,c,d⟩:=(h.s _ (by omega) a).1 m';exact .inl ⟨i,s,b,.inr (.inr (.inl ⟨k,kv,c,by rw[d];exact z.symm⟩))⟩
  .cases m
 split at m
 next k=>rw[aC,D,vC]at m;let⟨w1,w2⟩:=h.wake tr A k hwk;omega
 .cases m
def WVs.hd {w:WT} {l:Y ET} {la sp wa wt:η} {si ei:Y η} (h:WVs w l j la sp wa wt si ei) (tr:TR (w,l)) (A:j<l! l) (m:(i:Int)∈(Lp w l).Hd j):∃s:Nat,(s:Int)∈tX w la sp wa si ei (eN l j)/\i<=s/\s<j/\eL l i=eL l s:=by
 have et:=D8 tr A;have tl:=HH tr A;have V:=h.v _ tl;have hev:Fp w (eN l j):=tr.ev _ (nL A);have nm:=hev.nm;have lt:=ah5 tr A m;let⟨_,_,wk,hwk,hd⟩:=So tr A;have one:(i:Int)∈tX w la sp wa si ei (eN l j)->∃s:Nat,(s:Int)∈tX w la sp wa si ei (eN l j)/\i<=s/\s<j/\eL l i=eL l s:=λq=>⟨i,q,bI _,by omega,rfl⟩
 rcases (hd (i:Int)).1 m with ⟨D,a,b,c⟩|⟨k,w0,e⟩
 .have:D=i:=by omega
  subst this;rcases c with ⟨k,c,d⟩|⟨k,c⟩|⟨k,kv,c,d⟩|⟨k,c,d⟩
  .refine one (fK _ ?_);rw[aF k,aC,et,vC];exact (V.q D a c (by omega)).symm
  .obtain⟨o0,N⟩:=nm.th (.inr k);have z:(eN l j).2.2.1=(((eN l j).2.2.1.toNat:Nat):Int):=by omega
   have ti:eL l D=(eN l j).2.2.1.toNat:=by unfold eL;rw[c]
   have hge:=YT ti j a;have h1:=BS l (eN l j).2.2.1.toNat j;have h2:=(FI (l:=l) (u:=(eN l j).2.2.1.toNat) j (by omega)).1;refine ⟨(zW l (eN l j).2.2.1.toNat j).toNat,fK _ ?_,by omega,by omega,by rw[h2,ti]⟩;rw[ax (by omega),aF k,aC,z,vC,(h.v _ (by omega)).L,be];omega
  .obtain⟨o0,N⟩:=nm.ce (.inl k);have z:(eN l j).2.2.1=(((eN l j).2.2.1.toNat:Nat):Int):=by omega
   refine one (fK _ ?_);rw[ax (by omega),ax (by omega),ax (by omega),aF k,aF (show (geti lL w.1 (eN l j).2.2.1).2.2.2.1=J from kv),z,tJ];exact (h.s _ (by omega) _).2 ⟨D,a,rfl,c,by rw[d];exact z⟩
  .obtain⟨o0,N⟩:=nm.fu (.inr k);have z:(eN l j).2.2.1=(((eN l j).2.2.1.toNat:Nat):Int):=by omega
   refine one (fK _ ?_);rw[ax (by omega),ax (by omega),aF k,z,tJ];exact (h.e _ (by omega) _).2 ⟨D,a,rfl,c,by rw[d];exact z⟩
 .refine one (fK _ ?_);rw[ax (by omega),ax (by omega),ax (by omega),ax (by omega),aF k,aC,et,vC,e];exact (h.wake tr A k hwk).1
def an7 {op:Y d?} {x:d?} (h:x∈op):jN x.1 op=J:=by
 induction op with
 |nil=>cases h
 |cons e r z=>
  simp only[jN];rcases a_.1 h with rfl|h
  .rw[uQ.2 rfl];rfl
  .rw[z h,Bool.or_true]
def vS {w:WT} {l:Y ET} {s:zN} (h:s∈lq w l a i):(¬(fB w (eN l i)=a/\s.1=(eN l i).1/\s.2.2.1<0)->s∈lq w l a (i+1))/\(fB w (eN l i)=a->s.1=(eN l i).1->s.2.2.1<0->(s.1,s.2.1,(i:Int),s.2.2.2)∈lq w l a (i+1)):=by
 refine ⟨λg=>eV _ ?_,λL D A=>eV _ ?_⟩
 .by_cases z:fB w (eN l i)=a
  .rw[aF z];unfold clS
   grind
  .rw[ax z];exact h
 .rw[aF L];refine cu.2 ⟨s,h,?_⟩;unfold clS;rw[aF ⟨D,A⟩]
def L7 {w:WT} {l:Y ET} {s:zN} (h:s∈lq w l a i) (h0:0<=s.2.2.1) (hm:i<=j):s∈lq w l a j:=by
 induction hm with
 |refl=>exact h
 |step _ z=>exact (vS z).1 λg=>by omega
variable {b:Bool}
def ahq {w:WT} {l:Y ET} {t d:Int} (h:(t,d,(-1:Int),b)∈lq w l a i) (hm:i<=j):∃r:Int,(t,d,r,b)∈lq w l a j/\(r<0\/(i:Int)<=r):=by
 induction hm with
 |refl=>exact⟨-1,h,.inl (by omega)⟩
 |@step j hm z=>
  have hm:i<=j:=hm;let⟨r,h1,A⟩:=z;by_cases g:fB w (eN l j)=a/\t=(eN l j).1/\r<0
  .exact⟨(j:Int),(vS h1).2 g.1 g.2.1 g.2.2,.inr (by omega)⟩
  .exact⟨r,(vS h1).1 g,A⟩
def ap4 {w:WT} {e:ET} (hev:Fp w e):mT w e<=(l! w.2.1:Int):=by
 unfold mT;split
 next g=>have:=hev.nm.lk (by omega);omega
 split
 next g=>let⟨a,b⟩:=hev.nm.cd ⟨by omega,by omega⟩;have:=hev.cd _ (bK (T:=itK) a b);omega
 split<;>omega
structure CSc (w:WT) (l:List ET) (j:Nat) (op:List (ν×Int)) (re:η) (ar:List WO):Prop where
 o:∀x∈op,(x.1.1,(bf ar x.2).bg,(-1:Int),(bf ar x.2).rd)∈lq w l x.1.2 j/\x.1.2<=(l! w.2.1:Int)
 e:∀p∈re,((bf ar p).th,(bf ar p).bg,(bf ar p).en,(bf ar p).rd)∈lq w l (bf ar p).lk j/\(bf ar p).lk<=(l! w.2.1:Int)
def CSc.next {w:WT} {l:Y ET} {op:Y d?} {re:η} {ar:Y WO} (hev:Fp w (eN l j)) (A:WS j op re ar) (h:CSc w l j op re ar):CSc w l (j+1) (Ri w (eN l j) op (nh w (eN l j) op ar)) (yA w (eN l j) op re) (BI w (j:Int) (eN l j) op (nh w (eN l j) op ar)):=by
 have sam:=CS (w:=w) (e:=eN l j) A.op A.oo;have ws1:=A.sam sam;have al:=ap4 hev;have hln:=sam.ln;generalize nh w (eN l j) op ar=ar1 at*
 have hdb:∀i,(bf ar1 i).bg=(bf ar i).bg:=λi=>by unfold WO.bg;rw[sam.hd]
 have hdr:∀i,(bf ar1 i).rd=(bf ar i).rd:=λi=>by unfold WO.rd;rw[sam.hd]
 refine ⟨λx z=>?_,λp hp=>?_⟩
 .have old:x∈xQ w (eN l j) op->(x.1.1,(bf (BI w (j:Int) (eN l j) op ar1) x.2).bg,(-1:Int),(bf (BI w (j:Int) (eN l j) op ar1) x.2).rd)∈lq w l x.1.2 (j+1)/\x.1.2<=(l! w.2.1:Int):=λz=>by
   let⟨hm,hne⟩:=FB A.ks z;have hr:=ws1.op _ hm;have D:bf (BI w (j:Int) (eN l j) op ar1) x.2=bf ar1 x.2:=by
    rw[HN hr.1 hr.2];exact SD ws1 z (j:Int)
   rw[D,hdb,hdr];let⟨a,b⟩:=h.o x hm;refine ⟨(vS a).1 λg=>?_,b⟩;have he:x.1=((eN l j).1,fB w (eN l j)):=sG g.2.1 g.1.symm;refine hne ?_ he;unfold scQ;rw[<- he];exact an7 hm
  unfold Ri at z;split at z
  .rename_i g0;rcases Ms (Rh A.ks) z with rfl|⟨z,_⟩
   .have D:bf (BI w (j:Int) (eN l j) op ar1) (l! ar1:Int)=(((eN l j).1,mT w (eN l j),(j:Int),-1,decide ((eN l j).2.1=8)),[],[]):=by
     unfold BI;rw[aF g0,<-BQ w (j:Int) (eN l j) op ar1];exact Lz _ _
    rw[D,lq]
    grind
   .exact old z
  .exact old z
 .have olde:p∈re->((bf (BI w (j:Int) (eN l j) op ar1) p).th,(bf (BI w (j:Int) (eN l j) op ar1) p).bg,(bf (BI w (j:Int) (eN l j) op ar1) p).en,(bf (BI w (j:Int) (eN l j) op ar1) p).rd)∈lq w l (bf (BI w (j:Int) (eN l j) op ar1) p).lk (j+1)/\(bf (BI w (j:Int) (eN l j) op ar1) p).lk<=(l! w.2.1:Int):=λhp=>by
   let⟨⟨p0,p1⟩,p2⟩:=A.r p hp;have hn:=(A.en p hp).2.2;have D:bf (BI w (j:Int) (eN l j) op ar1) p=bf ar p:=by
    rw[HN p0 (by omega),rD ws1.op,ax,sam.eq p p2];rintro⟨L,hz⟩;have h1:=ws1.oo _ (gh _ L);have N:bf ar1 p=bf ar1 (db ((eN l j).1,fB w (eN l j)) op):=by unfold bf dT;rw[hz]
    rw[<- N,sam.eq p p2]at h1;exact p2 h1
   rw[D];let⟨a,b⟩:=h.e p hp;exact⟨(vS a).1 λg=>by have:=g.2.2;dsimp only at this;omega,b⟩
  unfold yA at hp;split at hp
  .rename_i L;rcases bO.1 hp with hp|hp
   .exact olde hp
   .rw[aC]at hp;subst hp;have hm:=gh _ L;let⟨⟨a0,a1⟩,a2,a3,_⟩:=A.o _ hm;have D:bf (BI w (j:Int) (eN l j) op ar1) (db ((eN l j).1,fB w (eN l j)) op)=IA (j:Int) (bf ar1 (db ((eN l j).1,fB w (eN l j)) op)):=by
     rw[HN a0 (by omega),rD ws1.op,aF ⟨L,rfl⟩]
    rw[D];let⟨b1,b2⟩:=h.o _ hm;have N:(IA (j:Int) (bf ar1 (db ((eN l j).1,fB w (eN l j)) op))).th=(eN l j).1:=by show (bf ar1 _).1.1=_;rw[sam.hd];exact a2
    have e2:(IA (j:Int) (bf ar1 (db ((eN l j).1,fB w (eN l j)) op))).lk=fB w (eN l j):=by show (bf ar1 _).1.2.1=_;rw[sam.hd];exact a3
    rw[N,e2];refine ⟨?_,b2⟩;rw[<- hdb,<-hdr]at b1;exact (vS b1).2 rfl rfl (by simp)
  .exact olde hp
def AcE (l:Y ET) (n:Nat) (h:Int×Q?) (kk o:Int):Prop:=∃a:Nat,h.2.2.1<=(a:Int)/\a<n/\(h.2.2.2.1= -1\/(a:Int)<=h.2.2.2.1)/\(eN l a).1=h.1/\(eN l a).2.1=kk/\(eN l a).2.2.1=o
def AcE.up {l:Y ET} {h:Int×Q?} {o:Int} (kk:AcE l i h a o):AcE l (i+1) h a o:=by
 let⟨kk,h1,A,z⟩:=kk;exact⟨kk,h1,by omega,z⟩
def MAo (l:Y ET) (n:Nat) (P:WO):Prop:=∀o:Int,(VN o P.2.2=J->AcE l n P.1 4 o)/\(VN o P.2.1=J->AcE l n P.1 3 o)
def MAc (l:Y ET) (n:Nat) (ar:Y WO):Prop:=∀i:Int,i.toNat<l! ar->MAo l n (bf ar i)
def ads {l:Y ET} {op:Y d?} {re:η} {ar:Y WO} (z:WS j op re ar) (h:MAc l j ar) (hk:(eN l j).2.1=3\/(eN l j).2.1=4):∀n,MAc l (j+1) (zH (eN l j) op ar n)
 |0=>λi hi o=>⟨λg=>((h i hi o).1 g).up,λg=>((h i hi o).2 g).up⟩
 |n+1=>by
  have D:=ads z h hk n;have sam:=zG (e:=eN l j) z.op z.oo n;by_cases L:jN ((eN l j).1,(n:Int)) op=J
  .rw[Ho L];intro i hi;rw[WY]at hi;let⟨⟨q0,q1⟩,q2,q3,q4,_⟩:=z.o _ (gh _ L);have N:=(z.a (db ((eN l j).1,(n:Int)) op).toNat (by omega)).1;rw[<- FW]at N;have hn:∀kk o:Int,(eN l j).2.1=kk->(eN l j).2.2.1=o->AcE l (j+1) (bf (zH (eN l j) op ar n) (db ((eN l j).1,(n:Int)) op)).1 kk o:=λkk o a b=>by
    rw[sam.hd];exact⟨j,by have:=N.2;unfold WO.bg at this;omega,by omega,.inl q4,q2.symm,a,b⟩
   have A:=D (db ((eN l j).1,(n:Int)) op) (by rw[sam.ln];omega);rw[Cl _ _ (by rw[sam.ln];omega)];by_cases hz:i.toNat=(db ((eN l j).1,(n:Int)) op).toNat
   .rw[aF hz];by_cases k4:(eN l j).2.1=4
    .rw[aF k4];refine λo=>⟨λg=>?_,(A o).2⟩
     rw[Df]at g;split at g
     .grind
     .exact (A o).1 g
    .rw[ax k4];refine λo=>⟨(A o).1,λg=>?_⟩
     rw[Df]at g;split at g
     .grind
     .exact (A o).2 g
   .rw[ax hz];exact D i hi
  .rw[UD L];exact D
def MAc.next {w:WT} {l:Y ET} {op:Y d?} {re:η} {ar:Y WO} (z:WS j op re ar) (h:MAc l j ar):MAc l (j+1) (BI w (j:Int) (eN l j) op (nh w (eN l j) op ar)):=by
 have sam:=CS (w:=w) (e:=eN l j) z.op z.oo;have ws1:=z.sam sam;have h1:MAc l (j+1) (nh w (eN l j) op ar):=by
  unfold nh;split
  next N=>exact ads z h N _
  .exact λi hi o=>⟨λg=>((h i hi o).1 g).up,λg=>((h i hi o).2 g).up⟩
 generalize nh w (eN l j) op ar=ar1 at*
 have L:MAc l (j+1) (yB w (j:Int) (eN l j) op ar1):=λi hi=>by
  rw[BQ]at hi;rw[rD ws1.op];split
  .rename_i A;have D:=h1 (db ((eN l j).1,fB w (eN l j)) op) (by omega);have up:∀kk o:Int,AcE l (j+1) (bf ar1 (db ((eN l j).1,fB w (eN l j)) op)).1 kk o->AcE l (j+1) (IA (j:Int) (bf ar1 (db ((eN l j).1,fB w (eN l j)) op))).1 kk o:=λkk o ⟨a,b1,b2,b3,b4⟩=>⟨a,b1,b2,.inr (by show (a:Int)<=(j:Int);omega),b4⟩
   exact λo=>⟨λg=>up _ _ ((D o).1 g),λg=>up _ _ ((D o).2 g)⟩
  .exact h1 i hi
 unfold BI;split
 .intro i hi;rw[bz,cH]at hi;by_cases A:i.toNat<l! (yB w (j:Int) (eN l j) op ar1)
  .rw[FX _ A];exact L i A
  .have e:i.toNat=l! (yB w (j:Int) (eN l j) op ar1):=by omega
   rw[FW,e,Lz];exact λo=>⟨nofun,nofun⟩
 .exact L
def agp (l:Y ET) (j:Nat) (R:Nat->Nat->Prop) (clk:η):Prop:=∀i:Nat,i<j->(ct l (eL l i) (i+1):Int)<=clk.getD (eL l i) 0->R i j
def ClW.own {w:WT} {l:Y ET} {R:Nat->Nat->Prop} (h:ClW (Lp w l) R):∀j:Nat,j<l! l->∀i:Nat,i<j->eL l i=eL l j->R i j:=by
 intro j;induction j using Nat.strongRecOn with
 |ind j A=>
  intro z i hi ht;have h1:=BS l (eL l j) j;have L:=YT ht j hi;have D:=(FI (l:=l) (u:=eL l j) j (by omega)).1;have hp:R (zW l (eL l j) j).toNat j:=h.pv _ j (show _<l! l by omega) z (show zW l (eL l j) j=_ by omega);by_cases e:i=(zW l (eL l j) j).toNat
  .rw[e];exact hp
  .exact h.tr _ _ _ (show i<l! l by omega) (show _<l! l by omega) z (A _ (by omega) (by omega) i (by omega) (by omega)) hp
def agp.join {w:WT} {l:Y ET} {c:Y η} {tm:Y ν} {la:η} (N:CI w l j c tm la) (L:j<l! l) {R:Nat->Nat->Prop} (cR:ClW (Lp w l) R) (D:∀i k:Nat,k<j->Rw l c i k->R i k) (s0:0<=a) (s1:a<(j:Int)) (A:R a.toNat j) (h:agp l j R z):agp l j R (jl z (jc c a)):=λi hi hle=>by
 rw[MN]at hle;rcases Tn (z.getD (eL l i) 0) ((jc c a).getD (eL l i) 0) with e|e
 .rw[e]at hle;exact h i hi hle
 .rw[e]at hle;rcases C1 i a.toNat with clk|clk|clk
  .exact cR.tr i a.toNat j (show i<l! l by omega) (show _<l! l by omega) L (D i a.toNat (by omega) ⟨clk,hle⟩) A
  .rw[clk];exact A
  .have h1:=(N.nn a.toNat (by omega) (eL l i)).2;have h2:=He l (eL l i) (show a.toNat+1<=i by omega);have h3:=CJ l i;have hle:(ct l (eL l i) (i+1):Int)<=(c.getD a.toNat []).getD (eL l i) 0:=hle;omega
structure WKs (w:WT) (l:List ET) (j:Nat) (c:List η) (la sp wa wt:η) (op:List (ν×Int)) (re:η) (ar:List WO) (si ei:List η):Prop where
 v:WVs w l j la sp wa wt si ei
 s:CSc w l j op re ar
 m:MAc l j ar
 d:∀i k:Nat,k<j->(i:Int)∈(Lp w l).Hd k->Rw l c i k
 r:∀R,ClW (Lp w l) R->∀i k:Nat,k<j->Rw l c i k->R i k
def alh {l:Y ET} {c:Y η} (h:j<l! c):Rw l (c++[z]) i j↔Rw l c i j:=by
 unfold Rw
 grind
def ali {l:Y ET} {c:Y η} (h:j=l! c):Rw l (c++[z]) i j↔i<j/\(ct l (eL l i) (i+1):Int)<=z.getD (eL l i) 0:=by
 unfold Rw
 grind
def VO {P Q:WO} (h:qP P Q=J):P.lk=Q.lk/\P.th≠Q.th/\(P.rd&&Q.rd)=af/\P.en<Q.bg:=by
 unfold qP at h;simp only[au,bS,cW,decide_eq_false_iff_not]at h;simp_all
def agp.clk {w:WT} {l:Y ET} (tr:TR (w,l)) (clk:j<l! l) {c:Y η} {tm:Y ν} {la sp wa wt st se:η} {op:Y d?} {re:η} {ar:Y WO} {si ei:Y η} (g:WkG w l j c tm la sp wa wt st se op re ar si ei) (h:WKs w l j c la sp wa wt op re ar si ei) (hk:CKj w l j c tm la sp wa op re ar si ei z) {R:Nat->Nat->Prop} (cR:ClW (Lp w l) R):agp l j R z:=by
 have ih:=h.r R cR;have hev:Fp w (eN l j):=tr.ev _ (nL clk);have slt:=ab3 hev g.la g.sp g.wa g.st g.se;have ren:=g.ws.en;refine hk.js _ ⟨λi hi hle=>?_,λz s A s0 D=>?_,λz lk p hk l0 l1 N hp m1 m2 D=>?_,λz p N hp m1 m2 D=>?_⟩
 .have h1:=CJ l i
  grind
 .have s1:=slt s A;refine D.join g.ci clk cR ih s0 s1 ?_;rcases h.v.src tr clk g.sp A s0 with q|q
  .exact cR.pv _ j (show _<l! l by omega) clk (q.trans (by omega))
  .exact cR.hd _ j (show _<l! l by omega) clk (by grind)
 .obtain⟨⟨p0,p1⟩,⟨b0,b1⟩,n0,n1⟩:=ren p hp;refine D.join g.ci clk cR ih n0 n1 ?_;let⟨e1,e2,e3,e4⟩:=VO m1;let⟨⟨q0,q1⟩,qt,ql,_,_⟩:=g.ws.o _ (gh _ N);let⟨sp1,sp2⟩:=h.s.e p hp;let⟨sq1,sq2⟩:=h.s.o _ (gh _ N);have qb:=(g.ws.a (db ((eN l j).1,lk) op).toNat (by omega)).1;rw[<- FW]at qb;rw[e1,ql]at sp1;have P:=L7 sp1 n0 (Ll clk);let⟨r,Q,hr⟩:=ahq sq1 (Ll clk);have el:((lk.toNat:Nat):Int)=lk:=by omega
  have toS:∀s:zN,s∈lq w l lk (l! l)->s∈(Lp w l).S lk.toNat:=λs A=>by show s∈lq w l ((lk.toNat:Nat):Int) (l! l);rw[el];exact A
  rw[qt]at e2;have mm:=h.m p (by omega) (eN l j).2.2.1;have acc:∃a:Nat,(bf ar p).bg<=(a:Int)/\(a:Int)<=(bf ar p).en/\(eN l a).1=(bf ar p).th/\Cnf (eN l a) (eN l j):=by
   have fin:∀kk:Int,AcE l j (bf ar p).1 kk (eN l j).2.2.1->(kk=3\/kk=4)->(kk=4\/(eN l j).2.1=4)->∃a:Nat,(bf ar p).bg<=(a:Int)/\(a:Int)<=(bf ar p).en/\(eN l a).1=(bf ar p).th/\Cnf (eN l a) (eN l j):=λkk ⟨a,a1,a2,L,a4,a5,a6⟩ k1 k2=>⟨a,a1,by
    rcases L with L|L
    .grind
    .exact L,a4,by rw[a5];exact k1,hk,a6,by rw[a5];exact k2⟩
   unfold Us at m2
   grind
  let⟨a,a1,a2,L,a4⟩:=acc;exact cR.r3 lk.toNat (show lk.toNat<=l! w.2.1 by omega) _ (toS _ P) _ (toS _ Q) ⟨e2,e3,n0,e4⟩ a j (show a<l! l by omega) clk ⟨L,a1,.inr a2⟩ ⟨rfl,by dsimp only;omega,by dsimp only;omega⟩ a4
 .obtain⟨⟨p0,p1⟩,⟨b0,b1⟩,n0,n1⟩:=ren p hp;refine D.join g.ci clk cR ih n0 n1 ?_;let⟨e1,e2,e3,e4⟩:=VO m1;let⟨⟨q0,q1⟩,qt,ql,_,l0⟩:=g.ws.o _ (gh _ N);let⟨sp1,sp2⟩:=h.s.e p hp;let⟨sq1,sq2⟩:=h.s.o _ (gh _ N);dsimp only at q0 q1 qt ql sq1 sq2 l0;have qb:=(g.ws.a (db ((eN l j).1,fB w (eN l j)) op).toNat (by omega)).1;rw[<- FW]at qb;have pa:=(g.ws.a p.toNat (by omega)).2;rw[e1,ql]at sp1;have P:=L7 sp1 n0 (Ll clk);have Q:=L7 ((vS sq1).2 rfl rfl (by simp)) (by simp) (show j+1<=l! l by omega);have el:(((fB w (eN l j)).toNat:Nat):Int)=fB w (eN l j):=by omega
  have toS:∀s:zN,s∈lq w l (fB w (eN l j)) (l! l)->s∈(Lp w l).S (fB w (eN l j)).toNat:=λs A=>by show s∈lq w l (((fB w (eN l j)).toNat:Nat):Int) (l! l);rw[el];exact A
  rw[qt]at e2;have th:=(rC w l _ _ _ P).th;have hb:R (bf ar p).bg.toNat j:=D _ (by omega) (by
   have:=(g.ci.cvr b0 b1 z).1 m2;have ow:=g.ci.own (bf ar p).bg.toNat (by omega);have e:(jc c (bf ar p).bg).getD (eL l (bf ar p).bg.toNat) 0=(c.getD (bf ar p).bg.toNat []).getD (eL l (bf ar p).bg.toNat) 0:=rfl;omega)
  have:=cR.r4 (fB w (eN l j)).toNat (show _<=l! w.2.1 by omega) _ (toS _ P) _ (toS _ Q) ⟨e2,e3,n0,e4⟩ (by simp) ⟨(bf ar p).bg.toNat,j,(show _<l! l by omega),clk,⟨th,by dsimp only;omega,.inr (by grind)⟩,⟨rfl,by dsimp only;omega,.inr (by simp)⟩,hb⟩
  grind
def WHx (w:WT) (l:Y ET):WkH:=λj c tm la sp wa wt st se op re ar si ei=>HSx w l j c tm la sp wa wt st se op re ar si ei/\WKs w l j c la sp wa wt op re ar si ei
def att {w:WT} {l:Y ET} (tr:TR (w,l)):HK w l (WHx w l):=by
 have L:=avm tr;refine ⟨⟨L.z,⟨λu N=>WV.zero w l u N,LV.zero l _ 4,LV.zero l _ 22⟩,⟨λx L=>(by cases L),λx L=>(by cases L)⟩,λi hi=>bC hi (bN _),λi k A=>bC A (bN _),λR _ i k A=>bC A (bN _)⟩,λj c tm la sp wa wt st se op re ar si ei clk D g h A=>⟨L.s j c tm la sp wa wt st se op re ar si ei clk D g h.1 A,?_⟩⟩;let⟨_,h⟩:=h;have hev:Fp w (eN l j):=tr.ev _ (nL D);have hcl:=g.ci.k.cl;refine ⟨⟨λu N=>(h.v.v u N).step D (tr.sc D) N g.la.1 g.sp.1 g.wa.1 g.wt,h.v.s.step g.st.2.1 λk=>(hev.nm.ce (.inr k)).1,h.v.e.step g.se.2.1 λk=>(hev.nm.fu (.inl k)).1⟩,h.s.next hev g.ws,h.m.next g.ws,λi k hk' m=>?_,λR cR i k hk' m=>?_⟩
 .by_cases e:k=j
  .subst e;rw[ali hcl.symm];let⟨s,s1,s2,s3,s4⟩:=h.v.hd tr D m;have h1:=(A.jr.a s s1 (by omega)).trans (L1 clk (eL l k)) (eL l i);have h2:=g.ci.own s s3;have h3:=He l (eL l s) (show i+1<=s+1 by omega);have e:(jc c (s:Int)).getD (eL l i) 0=(c.getD s []).getD (eL l s) 0:=by unfold jc;rw[be,s4]
   grind
  .exact (alh (by omega)).2 (h.d i k (by omega) m)
 .by_cases e:k=j
  .subst e;let⟨m1,m2⟩:=(ali hcl.symm).1 m;by_cases ht:eL l i=eL l k
   .exact cR.own k D i m1 ht
   .rw[EL,ax ht]at m2;exact agp.clk tr D g h A cR i m1 m2
  .exact h.r R cR i k (by omega) ((alh (by omega)).1 m)
def apb {w:WT} {l:Y ET} (tr:TR (w,l)) {c:Y η} {tm:Y ν} {la sp wa wt st se:η} {op:Y d?} {re:η} {ar:Y WO} {si ei:Y η} (g:WkG w l (l! l) c tm la sp wa wt st se op re ar si ei) (h:WHx w l (l! l) c tm la sp wa wt st se op re ar si ei):ClW (Lp w l) (Rw l c)/\∀R,ClW (Lp w l) R->∀i j,i<l! l->j<l! l->Rw l c i j->R i j:=by
 refine ⟨avr g.ci (λi j z m=>h.2.d i j z m) λk D p hp q A f=>amq g.ci h.1.2 D hp A f.1 f.2.1 f.2.2.1 (Int.le_of_lt f.2.2.2),λR cR i j _ z m=>h.2.r R cR i j z m⟩
def SK (P:Nat->Nat->Bool) (b:Nat):Nat->Y ν
 |0=>[]
 |i+1=>if P i b=J then SK P b i++[((i:Int),(b:Int))] else SK P b i
def UM (P:Nat->Nat->Bool):Nat->Y ν
 |0=>[]
 |b+1=>UM P b++SK P b b
def Lw (P:Nat->Nat->Bool) (b:Nat):∀i,l! (SK P b i)<=i
 |0=>bI _
 |i+1=>by
  have:=Lw P b i;rw[SK];split
  .grind
  .omega
def Lv (P:Nat->Nat->Bool):∀b,b<=400->l! (UM P b)<=b*400
 |0,_=>kV _
 |b+1,h=>by
  have:=Lv P b (by omega);have:=Lw P b b;rw[UM,bz];omega
def Vn {P:Nat->Nat->Bool} (h:∀b,P b i=af):∀b,SK P i b=[]
 |0=>rfl
 |b+1=>by rw[SK,ax (by grind)];exact Vn h b
def ywB (w:WT) (l:Y ET) (b:Nat):Bool:=decide ((eN l b).2.1=3\/(eN l b).2.1=4)&& !(geti lL w.1 (eN l b).2.2.1).2.2.2.1
def cwB (l:Y ET) (a b:Nat):Bool:=decide ((eN l a).2.1=3\/(eN l a).2.1=4)&&(decide ((eN l a).2.2.1=(eN l b).2.2.1)&& !decide ((eN l a).1=(eN l b).1))
def swB (l:Y ET) (a b:Nat):Bool:=decide ((eN l a).2.1=4)||decide ((eN l b).2.1=4)
def vwB (l:Y ET) (cs:Y η) (a b:Nat):Bool:=decide ((ct l (eL l a) (a+1):Int)<=(cs.getD b []).getD (eL l a) 0)
def C7 (w:WT) (l:Y ET) (cs:Y η) (a b:Nat):Bool:=ywB w l b&&(cwB l a b&&(swB l a b&& !vwB l cs a b))
set_option maxRecDepth 10000 in
def YC {w:WT} {l:Y ET} (tr:TR (w,l)) {H:WkH} (hH:HK w l H):Ok (ly (w,l)) λy=>y.2=0/\∃cs tm la sp wa wt st se op re ar si ei,WkG w l (l! l) cs tm la sp wa wt st se op re ar si ei/\H (l! l) cs tm la sp wa wt st se op re ar si ei/\y.1=UM (C7 w l cs) (l! l):=by
 have hl:l! l<=400:=tr.len;unfold ly xy kK lE lD bk bB bP cP eU kJ lP mw Prod.y dQ ef iF bm bV jY bT bW kf bc c8 aI cS;refine aX (avs tr) (kg (aw (af8 tr hH) ?_));rintro y ⟨c,tm,la,sp,wa,wt,st,se,op,re,ar,si,ei,rfl,g,h⟩;dsimp only;have hcl:=g.ci.k.cl;have htl:=g.ci.k.tl;refine hY (l! l) (by omega) (λb x=>x=((b:Int),(w,l),(w,l),UM (C7 w l c) b,c,tm,la,sp,wa,wt,st,se,op,re,si,ei,ar)) ?_ ?_ rfl
 .rintro b x hb rfl;have hev:Fp w (eN l b):=tr.ev _ (nL hb);have hlo:=Lv (C7 w l c) b (by omega);refine cU ?_;refine aV (λx=>x=((w,l),(w,l),UM (C7 w l c) (b+1),c,tm,la,sp,wa,wt,st,se,op,re,si,ei,ar)) ?_ ?_
  .refine aR (by simp) (by omega) (aT ?_);dsimp only;have hge:geti fV l (b:Int)=eN l b:=rfl;rw[hge];refine aV (λx=>x=(!ywB w l b,(w,l),(w,l),UM (C7 w l c) b,eN l b,c,tm,la,sp,wa,wt,st,se,op,re,si,ei,ar)) ?_ ?_
   .unfold ywB;refine aX (IX _) (dK (λh=>ak ?_) λh=>?_)
    .rw[h];rfl
    .have hc:=hev.nm.ce (bJ h);refine aR hc.1 hc.2 (aT (ak ?_));simp_all
   rintro x rfl;dsimp only;rw[UM];refine dK (λhy=>ak ?_) λhy=>?_
   .rw[Vn (λi=>by unfold C7;rw[hy];rfl),io]
   refine cE (a? (a? ?_));have htk:l! (dE (aN (b:Int)) l)=b:=by grind
   refine hY b (by omega) (λj x=>x=((j:Int),(w,l),(w,l),UM (C7 w l c) b++SK (C7 w l c) b j,eN l b,c,tm,la,sp,wa,wt,st,se,op,re,si,ei,ar)) ?_ ?_ (by rw[SK,io];rfl)
   .rintro j x hj rfl;have hli:=Lw (C7 w l c) b j;refine cU ?_ (by grind);have hgj:geti fV (dE (aN (b:Int)) l) (j:Int)=eN l j:=by
     rw[be];show geti fV (dE b l) (j:Int)=geti fV l (j:Int);rw[uT,uT,aE,aE,List.getElem?_take_of_lt hj]
    refine aV (λx=>x=((w,l),(w,l),UM (C7 w l c) b++SK (C7 w l c) b (j+1),eN l b,c,tm,la,sp,wa,wt,st,se,op,re,si,ei,ar)) ?_ ?_
    .refine aR (by simp) (by omega) (aT ?_);dsimp only;rw[hgj,SK];refine aV (λx=>x=(!cwB l j b,(w,l),(w,l),UM (C7 w l c) b++SK (C7 w l c) b j,eN l b,eN l j,c,tm,la,sp,wa,wt,st,se,op,re,si,ei,ar)) ?_ ?_
     .unfold cwB;refine aX (IX _) (dK (λh=>ak ?_) λh=>cj (λh2=>ak ?_) λh2=>ak ?_)
      .rw[h];rfl
      .grind
      .simp_all
     rintro x rfl;dsimp only;refine dK (λhc=>ak ?_) λhc=>?_
     .rw[ax (by unfold C7;rw[hc,kN,Bool.and_false];decide)]
     refine aV (λx=>x=(swB l j b,(w,l),(w,l),UM (C7 w l c) b++SK (C7 w l c) b j,eN l b,c,tm,la,sp,wa,wt,st,se,op,re,si,ei,ar)) ?_ ?_
     .unfold swB;refine aK (λh=>ak ?_) λh=>ak ?_
      .grind
      .grind
     rintro x rfl;dsimp only;refine aV (λx=>x=(swB l j b&& !vwB l c j b,(w,l),(w,l),UM (C7 w l c) b++SK (C7 w l c) b j,eN l b,c,tm,la,sp,wa,wt,st,se,op,re,si,ei,ar)) ?_ ?_
     .refine aQ (λh=>?_) λh=>ak (by grind)
      refine bF (bF (aT (bF (bF (aT ?_)))));have e1:geti fd tm (j:Int)=((ct l (eL l j) (j+1):Int),(eL l j:Int)):=by
       have:=g.ci.tv j (by omega);rw[g.ci.own j (by omega)]at this;exact (uT (T:=fd) tm j).trans this
      have e2:geti (.sl aP) c (b:Int)=c.getD b []:=uT (T:=.sl aP) c b;rw[e1,e2];refine aX (acx _ _ _) (ak ?_);rw[h];rfl
     rintro x rfl;dsimp only;have hw:C7 w l c j b=(swB l j b&& !vwB l c j b):=by unfold C7;rw[hy,hc,du,du]
     rw[hw];refine aQ (λh=>bG ?_ (by omega) (ak ?_)) λh=>ak ?_
     .grind
     .grind
     .grind
    rintro x rfl;refine ak ?_;show (bn .i64 ((j:Int)+1),_)=_;rw[fL]
   .rintro x rfl;exact cO (ak rfl) (by grind)
  rintro x rfl;refine ak ?_;show (bn .i64 ((b:Int)+1),_)=_;rw[fL]
 .rintro x rfl;exact cO (ak ⟨rfl,c,tm,la,sp,wa,wt,st,se,op,re,ar,si,ei,g,h,rfl⟩)
structure TbE (T:Nat) (l:List ET) (c:List η) (cl:η) (cs:List η):Prop where
 a:l! cl=l! l
 b:l! cs=l! l
 c:∀j:Nat,j<l! l->cl.getD j 0=(T:Int)/\l! (c.getD j [])=T/\cs.getD j []=c.getD j []
def ala {w:WT} {l:Y ET} (tr:TR (w,l)) {c:Y η} {tm:Y ν} {la:η} (D:CI w l (l! l) c tm la) (L:ClW (Lp w l) (Rw l c)) (N:∀R,ClW (Lp w l) R->∀i j,i<l! l->j<l! l->Rw l c i j->R i j):
 ∃cl cs,sX (w,l)=Z (cl,cs)/\TbE (l! w.2.2.2.2.1) l c cl cs:=by
 let⟨⟨cl,cs⟩,h1,o,ln,sq,wo,A⟩:=atq tr;refine ⟨cl,cs,h1,A.a,A.b,λj z=>?_⟩;let⟨g1,g2⟩:=A.c j z;exact⟨g1,D.k.ln j z,g2.trans (ahw D z λi hi=>⟨wo.lo (Rw l c) L i j hi z,N _ wo.cl i j hi z⟩)⟩
def cfB (x y:ET):Bool:=decide (x.2.1=3\/x.2.1=4)&&(decide (y.2.1=3\/y.2.1=4)&&(!decide (x.1=y.1)&&(decide (x.2.2.1=y.2.2.1)&&(decide (x.2.1=4)||decide (y.2.1=4)))))
def aaw (x y:ET):nz (x,y)=Z (cfB x y):=by
 refine cI ?_;refine aV (λb=>b=cfB x y) ?_ λb L=>ak L
 unfold cfB;refine aX (CX x) (aK (λh1=>?_) λh1=>ak ?_)
 .rw[a8 h1,du];refine aX (CX y) (aK (λD=>?_) λD=>ak ?_)
  .rw[a8 D,du];refine cj (λA=>?_) λA=>ak ?_
   .have A:¬x.1=y.1:=A;refine aK (λz=>?_) λz=>ak ?_
    .have z:x.2.2.1=y.2.2.1:=z;refine aK (λN=>ak ?_) λN=>ak ?_
     .grind
     .grind
    .grind
   .grind
  .grind
 .grind
def as2 (w:WT) (l:Y ET) (c:Y η) (a b:Nat):C7 w l c a b=(cfB (eN l a) (eN l b)&&(!(decide ((eN l b).2.1=3\/(eN l b).2.1=4)&&adz w (eN l b).2.2.1)&& !vwB l c a b)):=by
 unfold C7 ywB cwB swB cfB adz
 grind
def ago {cs:Y η} (z:i<l! cs) (a:Int) (u:Nat):vu ((((i:Int),(l! (cs.getD i []):Int)),a,(u:Int)),cs)=Z (dz a ((cs.getD i []).getD u 0),cs):=by
 refine cI ?_;exact aX (azu z) (ak rfl)
def Yf {w:WT} {l:Y ET} (tr:TR (w,l)) {c:Y η} {cs:Y η} (h:TbE i l c z cs):oq ((w,l),z,cs)=Z (UM (C7 w l c) (l! l),z,cs):=by
 have hl:l! l<=400:=tr.len;have ha:=h.a;have hb':=h.b;refine cI ?_;unfold oq bk bB c_ dQ ck bV bT bW bc c8 aI cS;refine bR (l! l) (λb x=>x=((b:Int),z,cs,(w,l),UM (C7 w l c) b)) ?_ ?_ rfl
 .rintro b x N rfl;have hlo:=Lv (C7 w l c) b (by omega);let⟨g1,g2,g3⟩:=h.c b N;have gb:geti fV l (b:Int)=eN l b:=rfl;refine cU ?_;refine bR b (λT x=>x=((T:Int),z,cs,(w,l),UM (C7 w l c) b++SK (C7 w l c) b T)) ?_ ?_ ?_
  .rintro T x hi rfl;have hli:=Lw (C7 w l c) b T;have hil:T<l! l:=by omega
   have gi:geti fV l (T:Int)=eN l T:=rfl;have A:=as2 w l c T b;refine cU ?_;refine aV (λx=>x=(z,cs,(w,l),UM (C7 w l c) b++SK (C7 w l c) b (T+1))) ?_ ?_
   .refine aV (λx=>x=(C7 w l c T b,z,cs,(w,l),UM (C7 w l c) b++SK (C7 w l c) b T)) ?_ ?_
    .refine bF (aT (bF (aT ?_)));dsimp only;refine aX (aaw _ _) (aQ (λL=>?_) λL=>ak ?_)
     .rw[L,du]at A;refine bF (aT ?_);refine aX (O4 (tr.ev _ (nL N))) (dK (λD=>?_) λD=>ak ?_)
      .rw[D,Pq,du]at A;refine bF (bF (aX (aav tr hil) ?_));have ga:aS (m_ z (b:Int)).toNat=(l! (cs.getD b []):Int):=by rw[Ap,g1,g3,g2];rfl
       rw[ga];refine aX (ago (by omega) _ _) (ak ?_);rw[A,g3];rfl
      .grind
     .grind
    rintro x rfl;rw[SK];refine aQ (λh=>bG ?_ (by omega) (ak ?_)) λh=>ak ?_
    .grind
    .grind
    .grind
   rintro x rfl;refine ak ?_;rw[fL]
  .rintro x rfl;refine cO (ak ?_);rw[fL];rfl
  .rw[SK,io];rfl
 .rintro x rfl;exact cO (ak rfl)
def O_ (r:Y ν) (h:l! r<=1000000):rT (r,r)=Z J:=by
 refine cI ?_;refine cj (λq=>(q rfl).elim) λ_=>?_
 refine bR (l! r) (λi x=>x=(i:Int)) ?_ ?_ rfl
 .rintro i x hi rfl;refine cU ?_;refine bF (aT (bF (aT ?_)));generalize (geti fd r (i:Int))=z;refine jI ?_ (ak fL);simp[LL]
 .rintro x rfl;exact cO (ak rfl)
def La (a b c:η) (ha:l! a<=9223372036854775807) (A:∀z∈a,0<=z/\z<=255) (hc:l! c<=9223372036854775807) (N:∀z∈c,0<=z/\z<=255):Ok (oX (a,b,c)) λy=>y=J:=by
 refine aw (P:=TR) (UF a b c 24 (by omega) (by omega) ha A hc N) ?_;rintro⟨w,l⟩ tr;have hl:l! l<=400:=tr.len;refine aw (YC tr (att tr)) ?_;rintro⟨r,e⟩ ⟨he,cs,tm,la,sp,wa,wt,st,se,op,re,ar,si,ei,g,hs,hr⟩;subst he hr;let⟨h1,h2⟩:=apb tr g hs;let⟨cl,cs',L,D⟩:=ala tr g.ci h1 h2;have hlo:=Lv (C7 w l cs) (l! l) hl;refine aV (λx=>x=J) (FU (aX L (aX (Yf tr D) (bl ?_ (aX (O_ _ (by grind)) (FU (aX (x:=J) ap0 (ak rfl)))))))) λx A=>ak A
 simp_all
def WeakRaces_law (x:η×J!) (w:wfT (.st (.pr (.sl (.int .u8)) (.pr (.sl (.int .u8)) (.sl (.int .u8))))) x):oX x=Z J:=by
 let⟨a,b,c⟩:=x;let⟨⟨N,w0⟩,_,⟨L,D⟩⟩:=w;obtain⟨y,h,rfl⟩:=La a b c N (λz A=>ad6 (w0 z A)) L (λz A=>ad6 (D z A));exact h
def adw (n:Nat)(k l:Y Nat)(a:Y PV)(b:Y PB):Nat×aly:=(n,.j ⟨k,l,⟨a,b⟩,[]⟩)
def ae2 (n:Nat)(k l:Y Nat)(a:Y PV)(b:Y PB)(z:Y Adj):Nat×aly:=(n,.j ⟨k,l,⟨a,b⟩,z⟩)
abbrev af5 (a:Y PV)(b:Y PB)(c:Y PV)(d:Y PB)(h:PT aly):FT:=⟨⟨a,b⟩,⟨c,d⟩,h⟩
def afe (a:Y PV)(b:Y PB)(c:Y PV)(d:Y PB)(h:PT aly)(m:(af5 a b c d h).pre.ty.den->M (af5 a b c d h).post.ty.den):cA:=cn (af5 a b c d h) m
def Ã:PV:=.d aP
def Ä:PV:=.d .bool
def Å:PB:=.F 2 J aP
def Æ:PV:=.H 0 0
def Ç:PB:=.F 50 J (.sl aP)
def È:PB:=.C 66 [.d fV]
def É:PB:=.I (.ir 3 aP) 0
def Ê:PB:=.F 3 af aP
def Ë:PB:=.I (.ir 4 .bool) 0
def Ì:PB:=.F 3 J aP
def Í:PB:=.C 120 [.d wK]
def Î:PV:=.d fA
def Ï:PB:=.C 155 [.d fd]
def Ð:PB:=.C 31 [.d mn]
def Ñ:PV:=.d fV
def Ò:PV:=.d mn
def Ó:PV:=.H 1 0
def Ô:PV:=.H 2 0
def Ø:PV:=.d (.sl .str)
def Ù:PB:=.C 107 [.d nO]
def Ú:PB:=.I (.rr 58 1) 1
def Û:PV:=.H 3 0
def Ü:PB:=.F 9 J .str
def Ý:PV:=.d (.sl aP)
def Þ:PB:=.C 210 [.d sJ]
def ß:PB:=.F 4 J .bool
def à:PB:=.I (.ar 170 lO) 0
def á:PV:=.d (.sl iD)
def â:PB:=.C 103 [.d BH]
def ã:PB:=.F 178 J iD
def ä:PV:=.G 2
def å:PV:=.d wK
def æ:PV:=.nil
def ç:PV:=.G 0
def è:PB:=.C 34 [.d pl]
def é:PV:=.G 1
def ê:PV:=.G 3
def ë:PB:=.F 98 J em
def ì:PV:=.d fd
def í:PV:=.d nO
def î:PV:=.d (.sl em)
def ï:PV:=.d .str
def ð:PV:=.G 4
def ñ:PV:=.d pl
def ò:PV:=.G 6
def ó:PV:=.H 4 0
def ô:PV:=.G 7
def õ:PV:=.G 11
def ö:PB:=.I (.rr 50 1) 13
def ø:PB:=.C 152 [.d Sj]
def ù:PB:=.C 197 [.d fA]
def ú:PB:=.F 52 J fd
def û:PV:=.d (.sl Kn)
def ü:PV:=.d HC
def þ:PV:=.d sJ
def ÿ:PB:=.C 66 [.d aP,.d aP,.d aP,.d aP,.d aP,.d (.sl aP),.d (.sl aP)]
def Ā:PB:=.C 64 [.d uC]
def ā:PV:=.G 5
def Ă:PV:=.d uD
def ă:PB:=.I (.rr 50 1) 12
def Ą:PV:=.ob 12 0
def ą:PV:=.qv 93 [(15,0),(16,0),(0,0)]
def Ć:PV:=.qv 96 [(15,0),(0,0),(16,0)]
def Ĉ:PV:=.d .ex
def ĉ:PV:=.d yg
def Ċ:PB:=.I (.rr 50 1) 1
def ċ:PB:=.qf 9 .str
def Č:PV:=.d Sj
def č:PB:=.qk
def Ď:PV:=.d (.sl lL)
def ď:PV:=.d (.sl tF)
def Đ:PV:=.d (.sl fV)
def ē:PV:=.d (.sl itK)
def Ĕ:PB:=.C 61 [.d HC]
def ĕ:PV:=.d BH
def Ė:PB:=.I (.qh 166) 11
def ė:PV:=.d (.sl pW)
def Ę:PV:=.d (.sl uY)
def ę:PB:=.C 61 [.G 2,.d aP,.G 3,.G 4]
def Ě:PB:=.C 3 [.d aP]
def ě:PB:=.C 61 [.qy 4 2 3,.d aP,.d uD,.d (.sl iD)]
def Ĝ:PB:=.I (.rr 50 1) 14
def ĝ:PV:=.d .sm
def Ğ:PB:=.qf 220 .sm
def ğ:PV:=.d (.sl fd)
def Ġ:PV:=.H 16 0
def ġ:PV:=.G 8
def Ģ:PB:=.C 220 [.d .sm]
def ģ:PV:=.G 10
def Ĥ:PB:=.C 218 [.d .ex]
def ĥ:PV:=.qv 136 [(1,0)]
def Ħ:PB:=.I (.rr 50 1) 3
def ħ:PV:=.H 6 0
def Ĩ:PB:=.F 9 af .str
def Ī:PV:=.d (.sl .sm)
def ĭ:PB:=.F 83 J fd
def Į:PV:=.d uC
def į:PV:=.H 15 0
def ı:PV:=.H 5 0
def Ĳ:PB:=.F 98 af em
def Ĵ:PV:=.H 14 0
def ĵ:PV:=.G 12
def Ķ:PB:=.F 220 J .sm
def ķ:PB:=.C 197 [.d aP,.G 3,.G 4,.d aP]
def Ĺ:PV:=.qv 92 [(14,0)]
def ĺ:PB:=.C 193 [.d zP]
def Ļ:PB:=.C 134 [.d pW]
def ļ:PB:=.C 61 [.G 4,.d aP,.G 5,.G 6]
def Ľ:PB:=.F 134 J pW
def ľ:PV:=.qy 1 1 4
def Ŀ:PB:=.I .zq 11
def ŀ:PV:=.d Pj
def Ł:PV:=.H 7 0
def ł:PB:=.I (.rr 50 1) 15
def Ń:PB:=.F 55 J (.sl uC)
def ņ:PV:=.qy 4 1 4
def Ň:PB:=.F 210 J sJ
def ň:PB:=.mp itK .un
def ŉ:PB:=.C 115 [.d yg]
def Ŋ:PV:=.G 9
def Ō:PB:=.F 66 J fV
def ŏ:PB:=.F 64 J uC
def Ő:PB:=.C 76 [.d lL]
def ő:PV:=.d (.int .u8)
def œ:PB:=.F 132 J itK
def ŕ:PV:=.d Ht
def Ŗ:PB:=.F 130 J tF
def ż:PB:=.C 120 [å]
def ab0:PB:=.C 155 [ì]
def ź:PB:=.C 66 [Ñ]
def ſ:PB:=.C 210 [þ]
def Ş:Y PV:=[î,Ã,Ă,á]
def ş:Y PV:=[Æ,Ó,Ô]
def Š:Y PB:=[ë,ß,ã,Å,Å]
def Ţ:Y PV:=[Ď,ď,ē,Ø,Ø,ė]
def ţ:Y PV:=[Ã,Ã]
def Ŧ:Y PB:=[Å,Ç]
def Ž:PB:=.C 103 [ĕ]
def ŵ:Y PB:=[Ì,Ì,Ì]
def ž:PB:=.C 107 [í]
def Ż:PB:=.C 31 [Ò]
def Ũ:Y PB:=[Ž,ž,Ż]
def aar:PB:=.C 34 [ñ]
def Ū:Y PB:=[aar,ž]
def adl:PB:=.C 64 [Į]
def ū:Y PB:=[Ú,Ë,adl,adl]
def Ŭ:Y PB:=[Ċ,É,aar,ĭ]
def ŭ:Y PV:=[Æ,é,ä]
def ů:Y PV:=[Ã,Ã,Ã,Ã,Ã]
def Ű:Y PV:=[Ó,Ã,Ã,Ä,Ä,Ä,Ä]
def ad1:PB:=.C 3 [Ã]
def Ų:Y PB:=[ž,ź]
def ų:Y PB:=[Ż,ź]
def Ŵ:Y PV:=[Ã,Î,Î]
def Ŷ:Y PB:=[Ú,Ë,Ħ,É]
def ŷ:Y PB:=[Ż,Ļ]
def Ź:Y PB:=[Ż,ž,ź]
def FS:PB:=.C 152 [Č]
def aap:PB:=.C 197 [Î]
def abt:PB:=.C 61 [ü]
def ac1:PB:=.C 220 [ĝ]
def acg:PB:=.C 218 [Ĉ]
def adk:PB:=.C 61 [ä,Ã,ê,ð]
def adp:PB:=.C 197 [Ã,ê,ð,Ã]
def adv:PB:=.C 115 [ĉ]
abbrev w9:Y PV:=(ů++[æ,æ])
def Õ:PB:=.C 66 w9
abbrev yf:Y PV:=[æ,Ã,æ,æ,æ,æ,æ]
def Ö:PB:=.C 115 yf
def ń:PB:=.C 107 yf
def ũ:Y PB:=[ab0,Ö,Õ,ź]
abbrev aru:Y PV:=(Ű++[ð])
abbrev ary:Y PV:=[Ã,Ã,ï,ï,æ,Ã,Ã,ï,æ,æ,æ]
abbrev La2:Y PB:=[.C 214 aru,Ž,č,.C 220 ary,ċ]
abbrev Si:Y PV:=(ş++[Û,ó,ı,ħ,Ł,Ä])
abbrev La4:Y PB:=[.C 206 (Ţ++Ø::ä::ţ),č,Ň]
abbrev La5:Y PB:=[.C 206 (Ţ++Ø::é::ţ),Ň]
abbrev La6:Y PV:=[Ã,õ,ĵ,Ã]
def ć:PB:=.C 197 La6
def ť:Y PB:=[ab0,Ö,Õ,ź,ć,ſ,Å,Å]
abbrev La7:Y PB:=[.C 152 [æ,æ],.C 214 [ı,Ã,Ã,Ä,Ä,Ä,Ä,ò],.C 152 [û,ô],Ĩ,.C 204 [ï,Ã,ġ,Ŋ],Ž,ċ,.F 204 J uY,Ĩ,Ķ]
abbrev La8:Y PB:=[.C 245 [û,Ę,Ã,é,ò,ô],Ğ,č,č,ac1,FS,Ü,Ü]
abbrev La9:Y PV:=(Ş++[ġ,Ŋ,.qy 10 4 4])
def ŋ:PB:=.C 115 La9
def Ś:Y PB:=(ż::ŋ::ť)
abbrev apy:Y PB:=[.C 115 (Ş++[ò,ô,.qy 8 4 4]),ab0,Ö,Õ,ź,aap,Å,Å,.C 197 [Î,Î,Î,Î]]
abbrev arv:Y PV:=(Ű++[ä])
abbrev UI:Y PV:=[ŕ,Ã]
def ĩ:PB:=.C 103 UI
abbrev aat:Y PB:=[.C 214 arv,ĩ,ċ]
abbrev Q2:Y PV:=(ş++[Û,ó,ı,ħ,Ł,Ã])
abbrev aup:Y PV:=(Ş++[ġ,Ŋ,.qy 10 4 3])
def ś:Y PB:=(ż::.C 115 aup::ť)
abbrev av9:Y PB:=(ś++.C 197 (Ã::õ::ĵ::Ŵ)::Ŧ)
abbrev av8:Y PB:=(ś++.C 197 [Î,Ã,õ,ĵ,Ã,Î]::Ŧ)
abbrev av7:Y PB:=(ś++.C 197 [Î,Î,Ã,õ,ĵ,Ã]::Ŧ)
abbrev arx:Y PV:=(Ş++[ġ,Ŋ,.qy 10 4 2])
def Ť:Y PB:=(ż::.C 115 arx::ť)
abbrev av6:Y PB:=(Ť++.C 197 [Ã,õ,ĵ,Ã,Î]::Ŧ)
abbrev av5:Y PB:=(Ť++.C 197 [Î,Ã,õ,ĵ,Ã]::Ŧ)
abbrev agk:Y PB:=[.C 245 [û,Ę,Ã,é,ð,ā],Ğ,č,č,Ü,Ü]
abbrev Q1:Y PV:=(ş++[Û,ó,ı,ħ,Ä])
abbrev iu:Y PV:=[Æ,Ä]
abbrev agj:Y PB:=[.C 245 [û,Ę,Ã,é,ä,ê],Ğ,Ü,Ü]
abbrev av4:Y PB:=(ż::.C 115 (Ş++[ġ,Ŋ,.qy 10 4 1])::ab0::Ö::Õ::ź::ć::ſ::Å::Å::ć::Ŧ)
abbrev Q0:Y PV:=(ş++[Û,ó,ı,ħ])
abbrev av3:Y PB:=(Ś++.C 197 [Ã,õ,ĵ,Ã,Î,Î,Î]::Ŧ)
abbrev av2:Y PB:=(Ś++.C 197 (Î::Ã::õ::ĵ::Ŵ)::Ŧ)
abbrev av1:Y PB:=(Ś++.C 197 [Î,Î,Ã,õ,ĵ,Ã,Î]::Ŧ)
abbrev av0:Y PB:=(Ś++.C 197 [Î,Î,Î,Ã,õ,ĵ,Ã]::Ŧ)
abbrev Ph:Y PB:=(Ź++[ń])
abbrev QZ:Y PV:=(ş++[Û,ó,ı])
abbrev auz:Y PB:=[.C 115 (Ş++[ò,ô,.qy 8 4 3]),ab0,Ö,Õ,ź,aap,Å,Å,.C 197 [Î,Î,Î]]
abbrev Ym:Y PV:=(Ş++[ô,ġ,.qy 9 4 4])
def ī:PB:=.C 115 Ym
def Ř:Y PB:=(ż::ī::ũ)
abbrev ry:Y PV:=[Æ,Ó,Ä]
abbrev CV:Y PV:=(ş++[Û,Ä])
abbrev apq:Y PV:=[æ,æ,æ,æ,æ,æ]
def Œ:PB:=.C 31 apq
abbrev auy:Y PB:=[FS,Œ,.C 31 [ð,ā,ò,ô,æ,æ],.C 248 [.d Kn],.F 76 J lL,Ŗ,œ,Ü]
abbrev agh:Y PV:=[æ,æ,æ,æ,æ,æ,æ]
def Ŕ:PB:=.C 34 agh
abbrev ayk:Y PV:=(Ţ++[ā])
abbrev ayw:Y PB:=[FS,.C 120 agh,.C 120 ayk,.C 206 (Ţ++Ø::ò::ţ),.C 193 [Ã,ò],.F 193 J zP,Ň]
abbrev Ld:Y PV:=[ç,Ã,é,ä]
def Ĭ:PV:=.agg Ld
def İ:PV:=.agg [.agg Ld,.G 3,.G 4,.qy 5 4 2]
def ado:PV:=.agg [Ĭ,ê,ð,.qy 5 4 2]
abbrev aux:Y PB:=(Ũ++Ō::.C 50 [ā,ò,ô,ġ]::Ì::ŵ)
abbrev I2:Y PV:=(ş++[Ã])
abbrev auw:Y PB:=(Ũ++.C 50 [ð,ā,ò,ô]::Ì::ŵ)
abbrev Pf:Y PV:=[Ã,Ý,ŀ,Ã]
def Ē:PB:=.C 197 Pf
abbrev agi:Y PV:=(Ş++[ô,ġ,.qy 9 4 3])
def ĸ:PB:=.C 115 agi
def ř:Y PB:=(ż::ĸ::ũ)
abbrev Lc:Y PV:=(ş++[Ä])
abbrev ye:Y PV:=[Æ,Ó,Ã]
abbrev Pe:Y PV:=[Ã,ģ,õ,Ã]
def đ:PB:=.C 197 Pe
abbrev apo:Y PV:=[Ã,ç,é,Ã]
abbrev adt:Y PV:=[Ã,æ,æ,Ã]
def ō:PB:=.C 197 adt
abbrev auv:Y PB:=[Å,Ç,ſ,.C 197 apo,ō]
abbrev auu:Y PB:=[.C 245 [û,Ę,Ã,ð,ā,ò],č,č,č,Ğ,Ü,Ü]
abbrev DU:Y PV:=[æ,Ã,æ,æ]
def ý:PB:=.C 61 DU
def ű:Y PB:=[Ż,.C 61 [.qy 4 2 3,Ã,Ă,á],ad1,ý]
abbrev aut:Y PB:=[adk,ý,ë,ß,ã]
abbrev Pd:Y PV:=[Æ,Û,Ä]
abbrev ayv:Y PB:=[Ŕ,Ž,.C 34 ayk,ž,.F 66 af fV,Ō]
abbrev ayu:Y PB:=[.C 115 (Ş++[ò,ô,.qy 8 4 2]),ab0,Ö,Õ,ź,aap,Å,Å,.C 197 [Î,Î]]
abbrev rx:Y PB:=[Ż]
abbrev ayt:Y PB:=(Ũ++Ō::.C 50 [ô,ġ,Ŋ,ģ]::ź::ž::Ì::ŵ)
abbrev apx:Y PB:=[Œ,.C 31 [ä,ê,ð,ā,ò,ô],.F 76 af lL,.F 130 af tF,.F 132 af itK,Ĩ,Ĩ,Ľ]
abbrev w7:Y PV:=[Æ,Ã]
abbrev alo:Y PV:=[ä,ê,ð,ā]
def Ņ:PB:=.C 50 alo
def ŧ:Y PB:=(Ž::Ņ::Ì::ŵ)
abbrev ays:Y PB:=(ŧ++[Õ,.C 66 (ů++[Ý,æ])])
abbrev apw:Y PV:=(Ş++[ô,ġ,.qy 9 4 2])
def Ŏ:PB:=.C 115 apw
def ŝ:Y PB:=(ż::Ŏ::ũ)
abbrev QY:Y PV:=[ĉ,Ñ,Ä]
abbrev ayr:Y PB:=(ŧ++[ž,Ż,Õ,Õ])
abbrev ayq:Y PB:=[FS,Œ,.C 31 [ê,ð,ā,ò,æ,æ],.F 76 J lL,Ŗ,œ,Ü]
abbrev aus:Y PV:=(Ş++[ê,ð,ā])
abbrev QX:Y PV:=[å,ĉ,ì]
abbrev aur:Y PB:=[ë,ß,ã,.C 61 Ld,Ì]
abbrev alr:Y PV:=[ê,Ã,ð,ā]
abbrev ayp:Y PB:=[Ż,.C 61 alr,ý,ë,ß,ã]
abbrev AQ:Y PV:=ţ
abbrev auq:Y PB:=[Ō,ż,adv,Ö]
abbrev ayo:Y PB:=(ĺ::adp::ō::Ŧ)
abbrev ayn:Y PB:=[.C 214 aru,Ž,č,Ķ,ċ]
abbrev auo:Y PV:=(Ű++[ê])
abbrev aym:Y PB:=[Õ,aap,ſ,.C 66 (ů++[ð,æ]),Ì]
abbrev UH:Y PB:=[ac1]
abbrev apv:Y PV:=[.agg [Ĭ,ê,ð,.qy 5 4 4]]
abbrev Yl:Y PB:=[FS]
abbrev aun:Y PB:=[Ż,ĺ,ſ]
abbrev apu:Y PB:=[FS,.C 204 [.d uY]]
abbrev apt:Y PB:=[FS,acg]
abbrev aum:Y PB:=[Ż,Ü,Ő]
abbrev aul:Y PB:=[ë,ß,ã]
abbrev aps:Y PB:=[Ż,ſ]
abbrev apr:Y PV:=[Æ,ó,ı,Ä]
abbrev auk:Y PV:=(ş++[Û,ó,Ã])
abbrev aas:Y PB:=[Ż,abt]
abbrev auj:Y PB:=[Ž,Ì,Ì]
abbrev agf:Y PB:=[Ż,Ü]
abbrev aui:Y PB:=[ź,ń,.C 107 aus,Å,Å,Ì]
abbrev ayl:Y PB:=(ĩ::Ņ::Ì::ŵ)
abbrev Yk:Y PB:=[ĩ]
abbrev QW:Y PV:=[Ý,Ã]
abbrev age:Y PB:=[Ž]
abbrev Pc:Y PV:=[Æ,é,Ã]
abbrev agd:Y PB:=[.C 248 [.d Kn]]
abbrev auh:Y PV:=[.agg [Ĭ,ê,ð,.qy 5 4 3]]
abbrev alw:Y PB:=Ŧ
abbrev alv:Y PB:=[ż,adv]
abbrev alu:Y PB:=[Ż,ĺ]
abbrev pV:Y PV:=[Ý]
def ŗ:PB:=.C 50 pV
abbrev alt:Y PV:=(ş++[Û])
abbrev arw:Y PV:=(Ş++[ô,ġ,.qy 9 4 1])
def Ů:Y PB:=[ż,.C 115 arw,ab0,Ö,Õ,ź]
abbrev als:Y PB:=[abt,Ì]
abbrev Yn:Y PV:=(Æ::ţ)
def tyT:PT Ty:=dR [(2,aP),(3,aP),(4,.bool),(9,.str),(50,(.sl aP)),(52,fd),(55,(.sl (.st (.pr aP alx)))),(58,uD),(64,(.st (.pr aP alx))),(66,fV),(76,lL),(83,fd),(98,em),(130,tF),(132,itK),(134,pW),(155,fd),(178,iD),(193,zP),(197,fA),(204,uY),(210,sJ),(218,.ex),(220,.sm),(248,Kn)]
def ca (t:TypeId):M Ty:=tyT.get t
def QE:=afe [] [] [Ø] [] .leaf lG
def OG:=afe [ï] [] [Ä] [] (dR [adw 8 [0,3] [4] [Ã] []]) l7
def XR:=afe [ő] [] [Ä] [] (dR [adw 2 [] [2] [Ä] []]) ms
def aa0:=afe [ő] [] [Ä] [] (dR [adw 2 [] [2] [Ä] []]) s_
def Z':=afe [ő] [] [Ä] [] (dR [adw 2 [] [2] [Ä] []]) qN
def XS:=afe [ï] [] [Ä] [] (dR [adw 3 [0] [21] [Ä] [],adw 14 [0] [3] [Ã] []]) fT
def Z3:=afe [Ä] [] [Ã] [] .leaf gp
def Z4:=afe AQ [] [Ã,Ä] [] .leaf wh
def XN:=afe (Ã::ţ) [] [Ã,Ä] [] (dR [adw 91 [] [6,7] [Ã,Ä] [],adw 97 [] [6,7] [Ã,Ä] []]) xl
def Z5:=afe AQ [] [Ã] [] (dR [adw 12 [] [5] [Ã] []]) wj
def QD:=afe [Ã] [] [Ã] [] (dR [adw 4 [0] [3] [Ä] [],adw 10 [0] [10] [Ä] [],adw 16 [] [17] [Ä] []]) nD
def qD:=af5 [Ĉ] [] [Ä] [] (dR [adw 2 [] [1,3] iu [acg],adw 5 [] [1,50] iu [acg],adw 16 [] [1,4] w7 [acg]])
def KX:cA:=cn qD jO
def Ky (n:Nat):cA:=cn qD (iB n)
def Z_:=afe [Ĉ] [] [Ä] [] (dR [adw 2 [] [2] [Ä] []]) qM
def uX:=af5 [ĝ] [] [Ä] [] (dR [adw 3 [] [1,13] iu UH,adw 10 [] [1,3] iu UH,adw 13 [] [1,47] iu UH,adw 21 [] [1,66] iu UH,adw 29 [] [1,95] iu UH,adw 36 [] [1,4] iu UH,adw 39 [] [1,130] iu UH,adw 46 [] [1,5] iu UH,adw 49 [] [1,157] iu UH,adw 56 [] [2] [Ä] []])
def Kx (n:Nat):cA:=cn uX (fe n)
def pi:=af5 [Ī] [] [Ä] [] (dR [adw 6 [0] [3] [Ã] []])
def IJ:cA:=cn pi oV
def H7 (n:Nat):cA:=cn pi (dW n)
def KW:=afe [.d Kn] [] [Ä] [] (dR [adw 3 [] [1,31] iu agd,adw 11 [] [1,50] iu agd,adw 18 [] [2] [Ä] []]) mZ
def XQ:=afe [Č] [] [Ä] [] (dR [adw 6 [] [1,3] w7 Yl,adw 27 [] [1,4] w7 Yl,adw 42 [4] [1,5,6] ye apu,adw 59 [4] [1,56] iu Yl]) rc
def aom:=afe [Ø,ï] [] [Ã] [] (dR [adw 6 [0,1] [5] [Ã] []]) j8
def XP:=afe [û,ï] [] [Ã] [] (dR [adw 6 [0,1] [5] [Ã] []]) je
def Qz:=afe [Ę,ï] [] [Ã] [] (dR [adw 6 [0,1] [5] [Ã] []]) iW
def XO:=afe [Č,Ã,ï] [] [Ã] [] (dR [adw 3 [2] [3,27] iu Yl,adw 52 [7] [3,56] iu Yl]) uq
def afu:=afe (Č::Ã::ï::ţ) [] [Ã] [] (dR [adw 13 [] [25] [Ä] []]) ii
def AD:=af5 [Ĉ] [] AQ [] (dR [adw 8 [] [1,4,5,6] (Æ::Ã::ţ) [acg]])
def Z8:cA:=cn AD E4
def Y8 (n:Nat):cA:=cn AD (oD n)
def AC:=af5 [Č,Ã,Ĉ] [] [Ã] [] (dR [adw 7 [1] [3,5,7] ye apt,adw 21 [1] [3,5,7,8] (Æ::Ó::ţ) apt,adw 23 [1,7,8] [3,5,33] ry apt])
def Z6:cA:=cn AC E3
def Y7 (n:Nat):cA:=cn AC (oC n)
def afv:=afe [Č,Ã,Ĉ] [] [Ã] [] (dR [adw 13 [1] [3,5,22] ry apt]) oU
def Uk:=afe [Ä] [] [Ã] [] .leaf dt
def aol:=afe AQ [] [Ã] [] .leaf jJ
def II:=afe [Æ,Ã,Ã,ï] agj [Ä] agj (dR [adw 6 [1,2,3] [0,9] w7 agj,adw 17 [1,2,3,9] [0,46] iu agj]) eE
def Qx:=afe [Æ,ĝ] agj [Ã] agk (dR [(1,(.a [.qx 0 4,.qx 0 5])),adw 28 [6,7,8,9,30] [0,3,5,67] apr La8,adw 41 [] [4] [Ã] agk,adw 44 [6,7,8,9,30] [0,3,5,91] apr La8,adw 51 [] [4] [Ã] agk,adw 63 [] [4] [Ã] agk,adw 66 [6,7,8,9,30] [0,3,5,119] apr La8,adw 89 [] [4] [Ã] agk,adw 108 [] [0,3,187] [Æ,ó,Ä] [.C 245 [û,Ę,Ã,é,ā,ò],Ğ,č,č,ac1,Ü,Ü],adw 131 [] [4] [Ã] agk,adw 137 [6] [0,3,5,14] [Æ,ó,ı,Ã] La8,adw 139 [6] [0,3,5,14] [Æ,ó,ı,Ã] La8,adw 140 [6,14] [0,3,5,253] apr La8]) nC
def tR:=af5 [Æ,Ī] agj AQ auu (dR [(1,(.a [.qx 0 3,.qx 0 4,.qx 0 5])),adw 6 [1] [0,6] w7 auu,adw 19 [1,6] [0,7,8] [Æ,ó,Ã] [.C 245 [û,Ę,Ã,ā,ò,ô],č,č,č,ac1,Ğ,Ü,Ü],adw 37 [1,6] [0,8,9] Yn auu])
def Qy:cA:=cn tR xV
def PR (n:Nat):cA:=cn tR (iY n)
def AE:=af5 [Ī] [] [Ã] [] (dR [adw 8 [0] [3,4] AQ []])
def Z9:cA:=cn AE E5
def Y9 (n:Nat):cA:=cn AE (oE n)
def Z7:=afe [û] [] AQ [] (dR [adw 8 [0] [4,5,6,7,8] (Ã::Ã::Ã::ţ) [],adw 16 [0,8] [4,5,6,7] (Ã::Ã::ţ) [],adw 38 [0,8] [4,5,6,7,9] [Ã,Ã,Ã,Ã,Æ] agd,adw 39 [0,4,5,6,7,8,36] [9,39] iu agd,adw 47 [0,4,5,6,7,8,36] [9,47] iu agd,adw 61 [0,4,5,6,7,8] [9,69] iu agd]) s9
def Uj:=afe [Č] [] AQ [] (dR [adw 6 [] [1,4] w7 Yl,adw 17 [4] [1,5,37] ry apu,adw 29 [] [1,6] w7 Yl,adw 51 [6] [1,7,8] ye apu,adw 62 [6,8] [1,7,90] ry apu]) oT
def Ul:=afe [Č] [] AQ [] (dR [adw 44 [] [1,8,9] Yn Yl,(67,(.a [.qc 10 3 220 .sm,.qc 10 4 9 .str,.qc 10 5 9 .str])),adw 69 [] [1,10,11] ye [FS,.C 245 [û,Ę,Ã,ä,ê,ð],Ğ,Ü,Ü]]) gf
def AB:=af5 [ç,Ã,Ã,Ī] [Ľ] [é,Ã] [č,Ľ] (dR [(1,(.a [.qx 0 0])),adw 6 [1,3] [0,2,10] (é::ţ) [č,Ľ],(25,(.a [.nil 8 134 pW]))])
def ZX:cA:=cn AB Mv
def Y6 (n:Nat):cA:=cn AB (qQ n)
def XK:=afe [ď,ï] [] [Ã] [] (dR [adw 6 [0,1] [5] [Ã] []]) mr
def XM:=afe [Ò,ï] [] [Ã] [] (dR [adw 6 [1] [2,5] w7 rx]) oy
def Z1:=afe [Č] [] [Ò] [] (dR [ae2 18 [] [1,2,3,6] I2 ayq [.qc 3 0 76 lL,.qc 3 1 130 tF,.qc 3 2 132 itK,.qc 3 3 9 .str],adw 31 [6] [1,2,3] ş ayq,adw 32 [6,31] [1,2,3,7,39] CV auy,adw 42 [6] [1,2,3,7,8] (ş++[Û,Ã]) auy,adw 53 [6,31] [1,2,3,7,65] CV auy,(69,(.a [.qc 3 5 134 pW])),ae2 71 [] [1,2,3,9] I2 [FS,Œ,.C 31 [ê,ð,ā,ò,ô,ġ],.F 76 J lL,Ŗ,œ,Ü,Ü,Ľ] [.qc 3 4 9 .str]]) wg
def ZY:=afe [Ò] [] [Ø,Ä] [] (dR [ae2 8 [] [1,4,5] Pc agf [.nil 4 9 .str],adw 15 [] [1,4,5] Pc agf,adw 37 [5] [1,4,6,51] [Æ,é,Ô,Ä] aum,adw 48 [5] [1,4,6,7] [Æ,é,Ô,Ã] aum,adw 59 [5,7] [1,4,6,93] [Æ,é,Ô,Ä] aum,adw 72 [] [1,4,9] Pc agf,adw 87 [] [1,4,10] Pc agf]) qJ
def KV:=afe [Ò] [] [Ä] [] (dR [adw 3 [] [1,49] iu rx,adw 24 [3] [1,5] w7 rx,adw 33 [3,5] [1,79] iu rx,adw 45 [] [1,6] w7 rx,adw 56 [6] [1,109] iu rx,adw 68 [] [1,8] w7 rx,adw 76 [8] [1] [Æ] rx,adw 80 [8] [1,9,132] ry ŷ,adw 87 [8] [1,9,146] ry ŷ,adw 90 [8] [1,165] iu rx]) iz
def OF:=afe [þ] [] pV [] (dR [adw 6 [4] [1,5] iu [ſ],adw 24 [4] [1,13] iu [ſ],adw 46 [4] [1,37] iu [ſ]]) kC
def XL:=afe [Ã] [] [Ä] [] (dR [adw 2 [] [2] [Ä] []]) q_
def ZZ:=afe [.d (.sl sJ),Ã] [] [Ä] [] (dR [adw 6 [0] [1,5] AQ [],adw 14 [0,5] [1] [Ã] [],adw 16 [0,1,5] [19] [Ä] []]) qK
def aok:=afe AQ [] [Ä] [] (dR [adw 2 [] [4] [Ä] []]) j7
def Z0:=afe (Ò::ţ) [] [Ä] [] (dR [adw 2 [] [6] [Ä] []]) qL
def Ug:=afe [Ò,þ] [] [Ä] [] (dR [adw 9 [] [4] [Ä] [],adw 15 [] [4] [Ä] [],adw 30 [6] [2,3,59] ry aps,adw 37 [] [4] [Ä] [],adw 40 [6] [2,3,78] ry aps,adw 55 [] [4] [Ä] [],adw 58 [6] [2,3,98] ry aps,adw 72 [6] [2,3,108] ry aps,adw 97 [] [4] [Ä] [],adw 103 [] [4] [Ä] []]) mG
def IH:=afe [Ò,Ã,.d zP] [] [Ä] [] (dR [adw 5 [1,7] [3,5,26] ry alu,adw 16 [1,7] [3,5,8] ye alu,adw 28 [1,7,8] [3,5,9,67] Lc aun,adw 36 [1,7,8] [3,5,9,100] Lc aun,adw 44 [1,7,8] [3,5,9,122] Lc aun,adw 56 [1,7,8,10] [3,5,11] ye alu]) iP
def Z2:=afe [å] [] [Ä] [] (dR [adw 3 [] [1,17] iu [ż],adw 14 [] [1,3] w7 [ż]]) kB
def Uh:=afe [Æ,þ] La5 [] La4 .leaf cQ
def sx:=af5 [Æ,Ĉ,Ã] La5 [] La4 (dR [adw 2 [] [] [] La4])
def OD:cA:=cn sx ja
def MH (n:Nat):cA:=cn sx (ju n)
def KU:=afe [Æ,ĝ] La5 [] La4 .leaf mY
def Qw:=afe [Æ,ï] La5 [Ã] La5 (dR [adw 6 [1] [0,5] w7 La5]) kj
def sA:=af5 [Æ,Ī] La5 [] La4 (dR [(1,(.a [.qx 0 7])),adw 3 [1] [0,4] w7 La4])
def OE:cA:=cn sA wd
def MI (n:Nat):cA:=cn sA (ec n)
def ya:=af5 [Æ,ĝ] La5 [] La4 (dR [(1,(.a [.qx 0 7])),adw 10 [] [] [] La4,adw 15 [4,25] [0,3,31] [Æ,Ô,Ä] [.C 206 (Ţ++Ø::ê::ţ),č,ac1,Ň]])
def PQ (n:Nat):cA:=cn ya (ft n)
def sB:=af5 [Æ,ĝ] La5 [] La4 .leaf
def F8 (n:Nat):cA:=cn sB (dx n)
def uW:=af5 (Æ::ĝ::Ã::ţ) La5 [] La4 .leaf
def Kw (n:Nat):cA:=cn uW (dX n)
def Ui:=afe [Č] [] (å::ţ) [] (dR [ae2 20 [] [1,2,7,8,9] (ş++ţ) [FS,.C 120 agh,.C 120 (Ţ++[ê]),.F 193 J zP] [.qc 7 6 193 zP],(32,(.a [.qc 10 7 210 sJ])),adw 45 [8,9] [1,2,7,10,11,12] auk ayw,adw 59 [8,9,12,13] [1,2,7,10,11,14] auk ayw]) rY
def akc:=afe QW [] [Ä] [] (dR [adw 6 [0,1] [5] [Ã] []]) uo
def akb:=afe QW [] pV [] (dR [adw 6 [0,1] [5] [Ã] [],adw 8 [0,1,5] [18] [Ä] [],adw 16 [0,1,5] [32] [Ä] []]) yJ
def ZW:=afe [Ý,Ý] [] pV [] (dR [adw 8 [0,1] [5,6] QW [],adw 23 [1] [5,7] QW []]) wc
def Qv:=afe [Ã] [] [Ã] [] (dR [adw 3 [0] [8] [Ä] []]) nB
def aft:=afe [Î] [] [.agg apo] alw (dR [ae2 8 [] [1,2,3,4] I2 (aap::ō::adp::Ŧ) [.qc 3 2 50 (.sl aP)]]) cF
def afs:=afe [þ,.agg apo] alw [.agg apo,Ä] alw (dR [adw 8 [6] [2,3,4,7] [Ô,Û,ó,Ã] auv,adw 17 [6,7] [2,3,4,33] [Ô,Û,ó,Ä] auv,adw 32 [] [2,3,4,8,9,10] [Ô,Û,ó,Ã,Ä,Ý] auv]) yI
def XJ:=afe [.d zP,Î] [] [Î,Ä] [] (dR [adw 3 [] [2,3,4,23] Lc [ĺ,aap,ō],adw 16 [] [2,3,4,6] I2 ayo,adw 26 [6] [2,3,4,44] Lc ayo]) ox
def ZU:=afe [Ò] [] [ü] [] (dR [ae2 8 [] [1,2,3,4] I2 [Ż,ý,.C 61 [ê,Ã,æ,æ],ë] [.qc 3 0 98 em],ae2 23 [] [1,2,3,5] I2 [Ż,ý,.C 61 [ê,Ã,ð,æ],ë,ß] [.qc 3 2 4 .bool],ae2 38 [] [1,2,3,6] I2 [Ż,ý,.C 61 alr,ë,ß,ã] [.qc 3 3 178 iD],adw 49 [6] [1,2,3,7] alt [Ż,ý,.C 61 [ð,Ã,ā,ò],.C 178 [.d iD],ë,ß,ã]]) s7
def afq:=afe [Ò,ü] [] [Ä] [] (dR [adw 6 [] [2,3,5] ye aas,adw 15 [5] [2,3,31] ry aas,adw 23 [] [4] [Ä] []]) s8
def aoj:=afe AQ [] [Ä] [] (dR [adw 2 [] [4] [Ä] []]) rX
def ZT:=afe (Ò::ţ) [] [Ä] [] (dR [adw 6 [2,7] [3,8] iu rx,adw 36 [2,7] [3,18] iu rx,adw 46 [2,7] [3,26] iu rx,adw 53 [] [6] [Ä] [],adw 56 [2,7] [3,43] iu rx,adw 71 [] [6] [Ä] [],adw 74 [2,7] [3,61] iu rx,adw 92 [2,7] [3,71] iu rx,adw 102 [2] [3,79] iu rx]) v_
def Uf:=afe (Ò::ü::Ã::ţ) [] [Ä] [] (dR [adw 3 [2,3,4] [5,6,30] ry aas,adw 25 [] [10] [Ä] [],adw 50 [] [10] [Ä] [],adw 56 [] [10] [Ä] [],adw 59 [2,4,70] [5,6,11,119] Lc [Ż,abt,.C 178 [.d iD]],adw 99 [2,4,70] [5,6,160] ry aas,adw 116 [] [10] [Ä] [],adw 122 [] [10] [Ä] []]) lA
def Ue:=afe [ü,Ã] [] pV [] (dR [ae2 8 [1] [2,5,6] Pc als [.nil 5 3 aP],adw 16 [1,6] [2,5] [Æ,é] als,adw 17 [1,6] [2,5,30] [Æ,é,Ä] als]) oR
def Ud:=afe QW [] pV [] (dR [ae2 8 [0,1] [5,6] [ç,Ã] [Ì] [.nil 5 3 aP],adw 16 [0,1,6] [5] [ç] [Ì]]) rW
def afr:=afe [ü] [] [Ĭ] aul (dR [ae2 8 [] [1,2,3,4] I2 [abt,ý,.C 61 alr,ë,ß,ã] [.qc 3 0 98 em]]) iO
def nH:=af5 [Ĭ,Ã] aul pV aul (dR [ae2 8 [1] [2,5,6] [Û,ð,Ã] aur [.nil 5 3 aP],adw 16 [1,6] [2,5] [Û,ð] aur,adw 17 [1,6] [2,5,30] [Û,ð,Ä] aur])
def Qu:cA:=cn nH nA
def OC:cA:=⟨nH.pre,⟨nH.post.vs,[]⟩,lZ⟩
def ZV:=afe (Ò::ü::Ã::Ã::ţ) [] [ü,Ã,Ä] [] (dR [adw 17 [] [7,12,15] ye aut,adw 26 [2,4,5,15,30] [6,7,12,45] Lc ayp,adw 34 [2,4,5,15,30] [6,7,12,54] Lc ayp,adw 90 [] [7,12,17] ye aut,adw 109 [18] [7,12,19] ye aut]) qI
def ZS:=afe [å] [] [ĉ] [] (dR [ae2 16 [] [1,2,3,4] I2 [ż,Ö,.C 115 (Ş++[ê,æ,æ]),Å] [.qc 3 4 2 aP],ae2 31 [] [1,2,3,5] I2 [ż,Ö,.C 115 (Ş++[ê,ð,æ]),Å,Å] [.qc 3 5 2 aP],ae2 46 [] [1,2,3,6] I2 [ż,Ö,.C 115 aus,Å,Å,.F 197 J fA] [.qc 3 6 197 fA]]) v9
def afo:=afe [å,ĉ] [] [Ä] [] (dR [adw 3 [] [2,3,46] ry alv,adw 14 [] [2,3,5] ye alv,adw 25 [5] [2,3,97] ry alv]) yH
def afm:=afe [Ã] [] [Ã] [] (dR [adw 5 [0] [3,10] [ç,Ä] [Ê]]) Dd
def Xn:=afe [þ,Î] [] [Ã] [] (dR [adw 6 [6] [2,3,7] ry [ſ,aap],adw 28 [] [2,40] iu [ſ]]) xk
def Uc:=afe [å,ĉ,Ã] [] [Ñ,Ä] [] (dR [adw 3 [2] [3,4,6,25] Lc [ż,adv,Õ],ae2 54 [] [6,8,9,10] alt aym [.qc 10 5 3 aP],adw 59 [] [6,8,9,10,98] CV [Õ,aap,ſ,Õ],ae2 68 [] [6,10] [Æ,Ó] [Õ,.C 66 (ů++[ä,ê]),Ì,Ì] [.qc 10 6 3 aP],adw 69 [] [6,8,9,10,123] CV aym]) oP
def ZQ:=afe [Ò] [] [í] [] (dR [ae2 8 [] [1,2,3,4] I2 [Ż,ń,.C 107 aus,Å,.F 2 af aP,Ê] [.qc 3 4 2 aP]]) ou
def afl:=afe [Ò,í] [] [Ä] [] (dR [adw 2 [] [4] [Ä] []]) yF
def aoi:=afe AQ [] [Ä] [] (dR [adw 2 [] [4] [Ä] []]) F3
def Ub:=afe QW [] [Ä] [] (dR [adw 6 [0,1] [5] [Ã] [],adw 15 [0,1,5] [40] [Ä] []]) rV
def ZO:=afe [í,Ñ] [] [Ä] [] (dR [adw 21 [] [4] [Ä] [],adw 24 [7] [2,3,40] ry Ų,adw 47 [] [4] [Ä] []]) Al
def afk:=afe [Ò,í,Ñ] [] [í,Ä] [] (dR [adw 3 [] [3,4,5,6,46] CV Ph,adw 10 [] [3,4,5,6] alt Ph,adw 11 [] [3,4,5,6,55] CV Ph,adw 21 [] [3,4,5,6,78] CV Ph,adw 28 [] [3,4,5,6,8] CV Ph,adw 31 [] [3,4,5,6,110] CV Ph,adw 39 [] [3,4,5,6,125] CV Ph,adw 47 [] [3,4,5,6,154] CV Ph,adw 58 [] [3,4,5,6,9,10] auk (Ź++[ń,.C 107 [æ,Ã,æ,æ,ā,ò,ô],Å,Å,Ì]),adw 66 [] [5,6,9] ş aui,adw 72 [] [5,6,9] ş aui]) s5
def ZP:=afe [Đ,Ã,Ã,Ý] [] [Ä] [] (dR [adw 6 [0,1,2,3] [9] [Ã] [],adw 23 [0,1,2,3,9] [10,11,12] [Ã,Ä,Ã] [],adw 31 [0,1,2,3,9,12] [10,11] [Ã,Ä] [],adw 38 [0,1,2,3,9,10,12] [11] [Ä] []]) sZ
def ZR:=afe [ñ] [] AQ [] (dR [adw 24 [] [1,4,5] ye Ū,adw 38 [5] [1,4,7,63] Lc (Ū++[ž])]) v8
def XI:=afe [ĉ] [] [.agg [Ĭ,ê,ð,.qy 5 4 1]] (Š++.C 197 [Ã,ò,ô,Ã]::Ŧ) (dR [(8,(.u 2))]) um
def Xy:=afe QX [] QY [] (dR [(27,(.s 5 0 0 1)),adw 37 [] [3,4,5,6,7,9,14,15,16] Q2 av4,adw 38 [16,77] [3,4,5,6,7,9,14,15,78] Si av4,adw 83 [16] [3,4,5,6,7,9,14] Q0 (Ů++đ::Å::Å::đ::Ŧ),adw 84 [16] [3,4,5,6,7,9,14,15,154] Si av4,adw 95 [] [4,5,6,7,9,14] QZ [.C 115 (Ş++[ò,ô,.qy 8 4 1]),ab0,Ö,Õ,ź,aap,Å,Å,aap],adw 96 [] [3,4,5,6,7,9,14,183] Q1 (Ů++[Ē,Å,Å,Ē]),(102,(.s 5 0 0 1)),(104,(.a [.pk 4 6 fA]))]) gU
def XH:=afe [ĉ] [] [ado] (Š++.C 197 [Ã,ò,ô,Ã,Î]::Ŧ) (dR [(8,(.u 3))]) ul
def Xx:=afe QX [] QY [] (dR [(27,(.s 5 0 0 1)),adw 37 [] [3,4,5,6,7,9,14,15,16] Q2 av6,adw 38 [16,77] [3,4,5,6,7,9,14,15,78] Si av6,adw 83 [16] [3,4,5,6,7,9,14] Q0 (ŝ++đ::Å::Å::.C 197 [Ã,ģ,õ,Ã,Î]::Ŧ),adw 84 [16] [3,4,5,6,7,9,14,15,154] Si av6,adw 95 [] [4,5,6,7,9,14] QZ ayu,adw 96 [] [3,4,5,6,7,9,14,183] Q1 (ŝ++[Ē,Å,Å,.C 197 [Ã,Ý,ŀ,Ã,Î]]),(102,(.s 5 0 0 1)),(104,(.a [.pk 4 6 fA]))]) iy
def XG:=afe [ĉ] [] [ado] (Š++.C 197 [Î,Ã,ò,ô,Ã]::Ŧ) (dR [(8,(.u 3))]) uk
def Xw:=afe QX [] QY [] (dR [(27,(.s 5 0 1 1)),adw 37 [] [3,4,5,6,7,9,14,15,16] Q2 av5,adw 38 [16,77] [3,4,5,6,7,9,14,15,78] Si av5,adw 83 [16] [3,4,5,6,7,9,14] Q0 (ŝ++đ::Å::Å::.C 197 [Î,Ã,ģ,õ,Ã]::Ŧ),adw 84 [16] [3,4,5,6,7,9,14,15,154] Si av5,adw 95 [] [4,5,6,7,9,14] QZ ayu,adw 96 [] [3,4,5,6,7,9,14,183] Q1 (ŝ++[Ē,Å,Å,.C 197 [Î,Ã,Ý,ŀ,Ã]]),(102,(.s 5 0 1 1)),(104,(.a [.pk 4 6 fA]))]) gR
def XF:=afe [ĉ] [] auh (Š++.C 197 (Ã::ò::ô::Ŵ)::Ŧ) (dR [(8,(.u 4))]) uj
def Xv:=afe QX [] QY [] (dR [(27,(.s 5 0 0 1)),adw 37 [] [3,4,5,6,7,9,14,15,16] Q2 av9,adw 38 [16,77] [3,4,5,6,7,9,14,15,78] Si av9,adw 83 [16] [3,4,5,6,7,9,14] Q0 (ř++đ::Å::Å::.C 197 (Ã::ģ::õ::Ŵ)::Ŧ),adw 84 [16] [3,4,5,6,7,9,14,15,154] Si av9,adw 95 [] [4,5,6,7,9,14] QZ auz,adw 96 [] [3,4,5,6,7,9,14,183] Q1 (ř++[Ē,Å,Å,.C 197 (Ã::Ý::ŀ::Ŵ)]),(102,(.s 5 0 0 1)),(104,(.a [.pk 4 6 fA]))]) lz
def XE:=afe [ĉ] [] auh (Š++.C 197 [Î,Ã,ò,ô,Ã,Î]::Ŧ) (dR [(8,(.u 4))]) ui
def Xu:=afe QX [] QY [] (dR [(27,(.s 5 0 1 1)),adw 37 [] [3,4,5,6,7,9,14,15,16] Q2 av8,adw 38 [16,77] [3,4,5,6,7,9,14,15,78] Si av8,adw 83 [16] [3,4,5,6,7,9,14] Q0 (ř++đ::Å::Å::.C 197 [Î,Ã,ģ,õ,Ã,Î]::Ŧ),adw 84 [16] [3,4,5,6,7,9,14,15,154] Si av8,adw 95 [] [4,5,6,7,9,14] QZ auz,adw 96 [] [3,4,5,6,7,9,14,183] Q1 (ř++[Ē,Å,Å,.C 197 [Î,Ã,Ý,ŀ,Ã,Î]]),(102,(.s 5 0 1 1)),(104,(.a [.pk 4 6 fA]))]) kh
def XD:=afe [ĉ] [] auh (Š++.C 197 [Î,Î,Ã,ò,ô,Ã]::Ŧ) (dR [(8,(.u 4))]) uh
def Xt:=afe QX [] QY [] (dR [(27,(.s 5 0 2 1)),adw 37 [] [3,4,5,6,7,9,14,15,16] Q2 av7,adw 38 [16,77] [3,4,5,6,7,9,14,15,78] Si av7,adw 83 [16] [3,4,5,6,7,9,14] Q0 (ř++đ::Å::Å::.C 197 [Î,Î,Ã,ģ,õ,Ã]::Ŧ),adw 84 [16] [3,4,5,6,7,9,14,15,154] Si av7,adw 95 [] [4,5,6,7,9,14] QZ auz,adw 96 [] [3,4,5,6,7,9,14,183] Q1 (ř++[Ē,Å,Å,.C 197 [Î,Î,Ã,Ý,ŀ,Ã]]),(102,(.s 5 0 2 1)),(104,(.a [.pk 4 6 fA]))]) i_
def XC:=afe [ĉ] [] apv (Š++.C 197 [Ã,ò,ô,Ã,Î,Î,Î]::Ŧ) (dR [(8,(.u 5))]) ug
def dV:=af5 QX [] QY [] (dR [(27,(.s 5 0 0 1)),adw 37 [] [3,4,5,6,7,9,14,15,16] Q2 av3,adw 38 [16,77] [3,4,5,6,7,9,14,15,78] Si av3,adw 83 [16] [3,4,5,6,7,9,14] Q0 (Ř++đ::Å::Å::.C 197 [Ã,ģ,õ,Ã,Î,Î,Î]::Ŧ),adw 84 [16] [3,4,5,6,7,9,14,15,154] Si av3,adw 95 [] [4,5,6,7,9,14] QZ apy,adw 96 [] [3,4,5,6,7,9,14,183] Q1 (Ř++[Ē,Å,Å,.C 197 [Ã,Ý,ŀ,Ã,Î,Î,Î]]),(102,(.s 5 0 0 1)),(104,(.a [.pk 4 6 fA]))])
def Xs:cA:=cn dV qZ
def XB:=afe [ĉ] [] apv (Š++.C 197 (Î::Ã::ò::ô::Ŵ)::Ŧ) (dR [(8,(.u 5))]) uf
def Xr:=afe QX [] QY [] (dR [(27,(.s 5 0 1 1)),adw 37 [] [3,4,5,6,7,9,14,15,16] Q2 av2,adw 38 [16,77] [3,4,5,6,7,9,14,15,78] Si av2,adw 83 [16] [3,4,5,6,7,9,14] Q0 (Ř++đ::Å::Å::.C 197 (Î::Ã::ģ::õ::Ŵ)::Ŧ),adw 84 [16] [3,4,5,6,7,9,14,15,154] Si av2,adw 95 [] [4,5,6,7,9,14] QZ apy,adw 96 [] [3,4,5,6,7,9,14,183] Q1 (Ř++[Ē,Å,Å,.C 197 (Î::Ã::Ý::ŀ::Ŵ)]),(102,(.s 5 0 1 1)),(104,(.a [.pk 4 6 fA]))]) qY
def XA:=afe [ĉ] [] apv (Š++.C 197 [Î,Î,Ã,ò,ô,Ã,Î]::Ŧ) (dR [(8,(.u 5))]) ue
def Xq:=afe QX [] QY [] (dR [(27,(.s 5 0 2 1)),adw 37 [] [3,4,5,6,7,9,14,15,16] Q2 av1,adw 38 [16,77] [3,4,5,6,7,9,14,15,78] Si av1,adw 83 [16] [3,4,5,6,7,9,14] Q0 (Ř++đ::Å::Å::.C 197 [Î,Î,Ã,ģ,õ,Ã,Î]::Ŧ),adw 84 [16] [3,4,5,6,7,9,14,15,154] Si av1,adw 95 [] [4,5,6,7,9,14] QZ apy,adw 96 [] [3,4,5,6,7,9,14,183] Q1 (Ř++[Ē,Å,Å,.C 197 [Î,Î,Ã,Ý,ŀ,Ã,Î]]),(102,(.s 5 0 2 1)),(104,(.a [.pk 4 6 fA]))]) ov
def Xz:=afe [ĉ] [] apv (Š++.C 197 [Î,Î,Î,Ã,ò,ô,Ã]::Ŧ) (dR [(8,(.u 5))]) ud
def Xo:=afe QX [] QY [] (dR [(27,(.s 5 0 3 1)),adw 37 [] [3,4,5,6,7,9,14,15,16] Q2 av0,adw 38 [16,77] [3,4,5,6,7,9,14,15,78] Si av0,adw 83 [16] [3,4,5,6,7,9,14] Q0 (Ř++đ::Å::Å::.C 197 [Î,Î,Î,Ã,ģ,õ,Ã]::Ŧ),adw 84 [16] [3,4,5,6,7,9,14,15,154] Si av0,adw 95 [] [4,5,6,7,9,14] QZ apy,adw 96 [] [3,4,5,6,7,9,14,183] Q1 (Ř++[Ē,Å,Å,.C 197 [Î,Î,Î,Ã,Ý,ŀ,Ã]]),(102,(.s 5 0 3 1)),(104,(.a [.pk 4 6 fA]))]) mq
def afp:cA:=cn dV De
def afn:=afe [å,ĉ,æ,ğ] [] [Đ,ĉ] [] (dR [(1,(.a [.nil 2 66 fV])),adw 6 [3] [2,4,5,9,10] [ç,Ó,Ô,Û,Ã] auq,adw 8 [3,10] [2,4,5,9,22] [ç,Ó,Ô,Û,Ä] auq,adw 14 [3,10] [2,4,5,9] [ç,Ó,Ô,Û] auq]) yG
def aka:=afe [å,ğ] [] [ñ,ĉ] [] .leaf F4
def K3:=afe w7 Yk [Ã] Yk (dR [adw 3 [1] [0,18] iu age]) bH
def afx:=afe [Ã] [] [Ĉ] [] .leaf tu
def aa4:=afe [ï] [] [Ĉ] [] .leaf qO
def Up:=afe [Ã,Ĉ,Ĉ] [] [Ĉ] [] .leaf oW
def Uq:=afe [ï,Ĉ] [] [ĝ] [] .leaf j9
def XV:=afe [] [] [û] [] .leaf ur
def QM:=afe [ŕ] [] [ğ] [] (dR [ae2 8 [0] [3,4] [ç,Ã] [.F 155 J fd] [.nil 3 155 fd]]) tL
def pj:=af5 w7 aat [Ĉ] aat (dR [adw 8 [1,6] [0,4,5,14] [Æ,Û,ð,Ä] [.C 214 arv,Ž,ċ,.C 218 [Ã,Ã,ï,æ],Ĩ]])
def IN:cA:=cn pj fG
def H9 (n:Nat):cA:=cn pj (mc n)
def Hi:=afe [Æ,ï] aat [Ä] aat .leaf fo
def nX:=af5 Yn aat [ð] [.C 214 auo,ĩ,č,ċ,Ķ] (dR [(1,(.a [.qx 0 7])),ae2 8 [1,2] [0,7,8] [Æ,ê,Ã] ayn [.nil 7 220 .sm],adw 10 [1,2,8] [0,7,22] [Æ,ê,Ä] ayn,(21,(.a [.nil 6 220 .sm]))])
def Hh:cA:=cn nX r7
def F9 (n:Nat):cA:=cn nX (dY n)
def tC:=af5 w7 aat [ĝ] [.C 214 auo,ĩ,č,ċ] (dR [(1,(.a [.qx 0 7])),adw 6 [1,5] [0,4,6] Pd La2,adw 28 [1,5,6] [0,4,74] Pd La2,ae2 33 [] [4,7] [Û,ó] [.C 214 (Ű++[ā]),Ž,č,.C 220 ary,.C 220 [Ã,Ã,ï,ï,æ,Ã,Ã,ï,.d (.sl .ex),ò,ô],ċ,Ķ,Ķ] [.qc 7 10 220 .sm],adw 42 [1,5,6] [0,4,100] Pd La2,adw 56 [1,5,6] [0,4,133] Pd La2,adw 64 [1,5,6] [0,4,165] Pd La2,adw 70 [1,5,6] [0,4,188] Pd La2,adw 82 [1,5,6] [0,4,210] Pd La2,adw 94 [5,6] [0,4,235] Pd La2,adw 100 [5] [0,4,258] Pd La2,adw 106 [5] [0,4,278] Pd La2,adw 114 [] [0,4,308] Pd La2])
def H8 (n:Nat):cA:=cn tC (fh n)
def sC:=af5 [Æ,ï,Ã] aat [Ī] [.C 214 auo,ĩ,č,ċ] .leaf
def F_ (n:Nat):cA:=cn sC (eM n)
def QL:=afe [ŕ] [] [Č] [] (dR [(5,(.a [.qc 3 7 9 .str])),ae2 14 [5] [2,3,4,6,7] (ş++[ê,Ã]) [.C 152 [æ,æ],.C 214 [ó,Ã,Ã,Ä,Ä,Ä,Ä,ā],.C 152 [û,ò],Ĩ,Ž,ċ,.F 204 J uY] [.qc 4 1 204 uY],ae2 27 [5,7] [2,3,4,6,8] (ş++[ê,ó]) La7 [.qc 8 3 220 .sm],ae2 34 [5,7] [2,3,4,6,8,9] (ş++[ê,ó,Ã]) La7 [.qc 8 3 220 .sm],adw 48 [5,7] [2,3,4,6,8] (ş++[ê,ó]) La7,adw 49 [5,7] [2,3,4,6,8,79] (ş++[ê,ó,Ä]) La7]) pU
def aa5:=afe [ŕ] [] [å] [] .leaf Am
def XW:=afe [ŕ,ŕ] [] [ñ] [] .leaf xm
def T7:=afe [] [] [Ò] [] (dR [ae2 8 [21] [0,1,22] ye apx [.qc 1 5 134 pW],adw 22 [2,21,22] [0,1,3] ye apx]) oM
def Ow:=afe [í] [] pV [] (dR [ae2 8 [8,9] [3,10] [ç,Ã] [Ì] [.nil 3 3 aP],adw 16 [8,9,10] [3] [ç] [Ì]]) oh
def T5:=afe [] [] pV [] .leaf vq
def Qn:=afe Yn Yk [Ã] Yk (dR [adw 6 [2,7] [0,8] iu age,adw 16 [2,7] [0,16] iu age,adw 26 [2,7] [0,21] iu age,adw 44 [2,7] [0,26] iu age,adw 70 [2] [0,33] iu age]) pO
def T4:=afe (Æ::í::ţ) Yk [Ã] Yk (dR [adw 18 [10] [0,5,24] ry [Ž,ž]]) rO
def Xh:=afe [Æ,é] [ĩ,Ì] pV [ĩ,Ì] (dR [ae2 8 [9] [0,1,5,8,10] (ŭ++[é,Ã]) auj [.nil 5 3 aP],adw 16 [9,10] [0,1,5,8] (ŭ++[é]) auj,adw 19 [7,9,10] [0,1,5,8,24] (ŭ++[é,Ä]) auj]) iv
def T6:=afe [Æ,í,Ò,ľ] ayl [Ñ] ayl (dR [adw 8 [9] [0,3,5,6,8,11] [Æ,ľ,ħ,Ł,.H 8 0,.H 9 0] ayr,adw 9 [9] [0,3,5,6,8,11,36] [Æ,ľ,ħ,Ł,.H 8 0,.H 9 0,Ä] ayr,adw 18 [9] [0,3,8,11] [Æ,ľ,ħ,Ł] ays,adw 19 [9] [0,3,8,11,74] [Æ,ľ,ħ,Ł,Ä] (ŧ++[Õ,Õ]),(22,(.s 9 0 0 4)),adw 24 [] [8,11] [ħ,Ł] (ŧ++[Õ,.C 66 (ů++[Ý,Ý])]),adw 25 [9] [0,3,8,11,89] [Æ,ľ,ħ,Ł,Ä] ays,(28,(.s 9 0 0 4))]) rP
def Xi:=afe [Æ,í,Ò,Ã,Ä] Yk [Đ] Yk (dR [(8,(.a [.qc 12 0 3 aP,.qc 12 1 3 aP,.qc 12 2 3 aP,.qc 12 3 3 aP])),adw 9 [3,11] [0,6,7,12] (ş++[.qy 3 1 4]) auw,(10,(.u 5)),adw 18 [3,4,11,22,23] [0,6,7,12] (ş++[.qy 3 1 4]) auw,adw 21 [3,4,11,13,22,23] [0,6,7,12,39] (ş++[.qy 3 1 4,Ä]) auw,ae2 29 [3] [0,6,7,11,12] (ş++[ê,ņ]) aux [.nil 11 66 fV],adw 31 [3] [0,6,7,11,12,65] (ş++[ê,ņ,Ä]) aux,adw 36 [3] [0,6,7,11,12] (ş++[ê,ņ]) aux,adw 47 [3] [0,6,7,11,12,14,15] (ş++[ê,ņ,ı,ħ]) ayt,adw 48 [3] [0,6,7,11,12,14,15,87] (ş++[ê,ņ,ı,ħ,Ä]) ayt,(51,(.s 14 0 0 4))]) t_
def T8:=afe UI [] [ñ] [] (dR [adw 2 [1] [0,4] [ŕ,Æ] [Ŕ],adw 22 [1,9] [4,5,6,7,8,10] (ş++[Û,ð,Ã]) [Ŕ,Ž,.C 34 (Ţ++[æ]),ž,.F 66 af fV],ae2 37 [1,48] [4,5,6,7,47,49] (ş++[Û,ð,Ã]) ayv [.qc 6 6 66 fV],adw 45 [1,48,49] [4,5,6,7,47] (ş++[Û,ð]) ayv]) rQ
def IF:=afe [.d (.st (.pr Ht (.pr Ht Ht))),Ã] [] [ñ] [] .leaf oN
def Qa:aM Pg 168 QE:=mk _ _ an ca
def M_:aM Pg 143 OG:=mk _ _ (ac Qa an) ca
def Jq:aM Pg 142 XR:=mk _ _ an ca
def Zx:aM Pg 169 aa0:=mk _ _ an ca
def Zw:aM Pg 144 Z':=mk _ _ (ac Jq (ac Zx an)) ca
def ut:aM Pg 113 XS:=mk _ _ (ac Jq (ac M_ (ac Zw an))) ca
def M9:aM Pg 221 Z3:=mk _ _ an ca
def Zp:aM Pg 205 Z4:=mk _ _ (ac M9 an) ca
def Wm:aM Pg 207 XN:=mk _ _ (ac M9 an) ca
def Zq:aM Pg 204 Z5:=mk _ _ an ca
def P_:aM Pg 228 QD:=mk _ _ an ca
def yR:∀n:Nat,aM Pg 222 (Ky n)
 |0=>Ji qD
 |n+1=>mk qD (qA (iB n)) (ac ut (ac (yR n) (ac P_ an))) ca
def Bb:aM Pg 222 KX:=(yR fuel)
def Zv:aM Pg 223 Z_:=mk _ _ an ca
def tA:∀n:Nat,aM Pg 208 (Kx n)/\aM Pg 178 (H7 n)
 |0=>⟨Ji uX,Ji pi⟩
 |n+1=>⟨mk uX (lh (fe n) (dW n)) (ac ut (ac (tA n).2 (ac Bb (ac Zv an)))) ca,mk pi (mb (fe n) (dW n)) (ac (tA n).1 an) ca⟩
def Il:aM Pg 178 IJ:=(tA fuel).2
def KB:aM Pg 177 KW:=mk _ _ (ac ut an) ca
def Wo:aM Pg 151 XQ:=mk _ _ (ac ut (ac KB (ac Il an))) ca
def xt:aM Pg 114 aom:=mk _ _ an ca
def xr:aM Pg 179 XP:=mk _ _ an ca
def xX:aM Pg 180 Qz:=mk _ _ an ca
def Wn:aM Pg 224 XO:=mk _ _ (ac xt (ac xr (ac xX an))) ca
def RB:aM Pg 211 afu:=mk _ _ (ac Wn an) ca
def Jt:∀n:Nat,aM Pg 225 (Y8 n)
 |0=>Ji AD
 |n+1=>mk AD (Av (oD n)) (ac (Jt n) an) ca
def Zt:aM Pg 225 Z8:=(Jt fuel)
def Js:∀n:Nat,aM Pg 226 (Y7 n)
 |0=>Ji AC
 |n+1=>mk AC (wA (oC n)) (ac RB (ac (Js n) an)) ca
def Zr:aM Pg 226 Z6:=(Js fuel)
def aey:aM Pg 212 afv:=mk _ _ (ac Bb (ac Zt (ac Zr an))) ca
def TJ:aM Pg 213 Uk:=mk _ _ an ca
def anu:aM Pg 210 aol:=mk _ _ an ca
def Ik:aM Pg 209 II:=mk _ _ an ca
def P5:aM Pg 181 Qx:=mk _ _ (ac xt (ac xr (ac xX (ac Ik (ac anu (ac RB (ac aey (ac TJ an)))))))) ca
def B_:∀n:Nat,aM Pg 155 (PR n)
 |0=>Ji tR
 |n+1=>mk tR (nG (iY n)) (ac (B_ n) (ac P5 an)) ca
def P9:aM Pg 155 Qy:=(B_ fuel)
def Ju:∀n:Nat,aM Pg 154 (Y9 n)
 |0=>Ji AE
 |n+1=>mk AE (Aw (oE n)) (ac (Ju n) an) ca
def Zu:aM Pg 154 Z9:=(Ju fuel)
def Zs:aM Pg 152 Z7:=mk _ _ (ac xr an) ca
def TI:aM Pg 153 Uj:=mk _ _ (ac xt (ac xr (ac xX an))) ca
def As:aM Pg 117 Ul:=mk _ _ (ac Wo (ac Zs (ac TI (ac Zu (ac P9 an))))) ca
def Jr:∀n:Nat,aM Pg 157 (Y6 n)
 |0=>Ji AB
 |n+1=>mk AB (Au (qQ n)) (ac (Jr n) an) ca
def Zk:aM Pg 157 ZX:=(Jr fuel)
def Jn:aM Pg 156 XK:=mk _ _ an ca
def Jp:aM Pg 214 XM:=mk _ _ an ca
def Zo:aM Pg 118 Z1:=mk _ _ (ac As (ac Jn (ac Zk an))) ca
def Zl:aM Pg 112 ZY:=mk _ _ an ca
def Ba:aM Pg 70 KV:=mk _ _ (ac Zl (ac ut (ac xt an))) ca
def ww:aM Pg 121 OF:=mk _ _ an ca
def Jo:aM Pg 171 XL:=mk _ _ an ca
def Zm:aM Pg 146 ZZ:=mk _ _ (ac Jo an) ca
def TD:aM Pg 147 aok:=mk _ _ an ca
def Zn:aM Pg 170 Z0:=mk _ _ (ac TD an) ca
def TB:aM Pg 145 Ug:=mk _ _ (ac TD (ac Zn an)) ca
def Ij:aM Pg 115 IH:=mk _ _ (ac ww (ac TB (ac Zm (ac TD an)))) ca
def Fc:aM Pg 72 Z2:=mk _ _ (ac Ba (ac Ij an)) ca
def o_:aM Pg 120 Uh:=mk _ _ an ca
def Bd:∀n:Nat,aM Pg 186 (MH n)
 |0=>Ji sx
 |n+1=>mk sx (sk (ju n)) (ac xt (ac o_ (ac (Bd n) (ac Jp an)))) ca
def wv:aM Pg 186 OD:=(Bd fuel)
def KA:aM Pg 182 KU:=mk _ _ (ac xt (ac o_ (ac wv (ac Jp an)))) ca
def P4:aM Pg 185 Qw:=mk _ _ an ca
def lb:∀n:Nat,aM Pg 119 (MI n)/\aM Pg 158 (PQ n)/\aM Pg 183 (F8 n)/\aM Pg 184 (Kw n)
 |0=>⟨Ji sA,Ji ya,Ji sB,Ji uW⟩
 |n+1=>⟨mk sA (wz (ec n) (ft n) (dx n) (dX n)) (ac (lb n).2.1 an) ca,mk ya (tO (ec n) (ft n) (dx n) (dX n)) (ac xt (ac o_ (ac Jn (ac KA (ac (lb n).2.2.1 (ac (lb n).2.2.2 (ac P4 (ac wv an)))))))) ca,mk sB (nS (ec n) (ft n) (dx n) (dX n)) (ac (lb n).1 (ac o_ (ac wv an))) ca,mk uW (uS (ec n) (ft n) (dx n) (dX n)) (ac (lb n).1 (ac o_ an)) ca⟩
def M8:aM Pg 119 OE:=(lb fuel).1
def TE:aM Pg 75 Ui:=mk _ _ (ac As (ac Zo (ac M8 (ac o_ (ac ww an))))) ca
def M7:aM Pg 103 akc:=mk _ _ an ca
def ajo:aM Pg 140 akb:=mk _ _ an ca
def M6:aM Pg 106 ZW:=mk _ _ (ac ajo an) ca
def P3:aM Pg 206 Qv:=mk _ _ an ca
def ma:aM Pg 175 aft:=mk _ _ an ca
def aex:aM Pg 176 afs:=mk _ _ (ac M6 (ac ww (ac Zp (ac P3 (ac Wm an))))) ca
def kn:aM Pg 150 XJ:=mk _ _ (ac Jo (ac ma (ac aex an))) ca
def M5:aM Pg 62 ZU:=mk _ _ an ca
def Ii:aM Pg 100 afq:=mk _ _ an ca
def acd:aM Pg 101 aoj:=mk _ _ an ca
def Zj:aM Pg 102 ZT:=mk _ _ (ac acd an) ca
def Gj:aM Pg 65 Uf:=mk _ _ (ac Ii (ac acd (ac Zj (ac M7 an)))) ca
def TA:aM Pg 104 Ue:=mk _ _ an ca
def Tz:aM Pg 107 Ud:=mk _ _ an ca
def l_:aM Pg 105 afr:=mk _ _ an ca
def P1:aM Pg 104 Qu:=mk nH nA an ca
def M4:aM Pg 104 OC:= @aM.ro Pg 104 nH.pre nH.post.vs nA lZ (P1.holds rfl) rfl (λx _ h=>by rw[show lZ x=aA (nA x) λy=>same y.2 x.2 (Z y.1) from rfl]at h;exact h)
def kE:aM Pg 68 ZV:=mk _ _ (ac Gj (ac M7 (ac M4 (ac l_ (ac M6 (ac Tz an)))))) ca
def Zi:aM Pg 74 ZS:=mk _ _ (ac M5 (ac Fc an)) ca
def aev:aM Pg 172 afo:=mk _ _ (ac Fc (ac Ii an)) ca
def aet:aM Pg 173 afm:=mk _ _ an ca
def V0:aM Pg 174 Xn:=mk _ _ (ac Zq an) ca
def iX:aM Pg 148 Uc:=mk _ _ (ac aev (ac aet (ac V0 an))) ca
def M3:aM Pg 45 ZQ:=mk _ _ (ac M5 an) ca
def aes:aM Pg 63 afl:=mk _ _ (ac Ii an) ca
def ant:aM Pg 64 aoi:=mk _ _ an ca
def Tx:aM Pg 66 Ub:=mk _ _ an ca
def Zf:aM Pg 67 ZO:=mk _ _ (ac M7 (ac TA an)) ca
def Ih:aM Pg 47 afk:=mk _ _ (ac aes (ac ant (ac Gj (ac Tx (ac Zf (ac kE an)))))) ca
def Zg:aM Pg 71 ZP:=mk _ _ an ca
def Zh:aM Pg 49 ZR:=mk _ _ (ac M3 (ac Ih (ac Ba (ac Zg an)))) ca
def Q9 (t:TypeId):M Ty:=if aB t 197 then Z (.pr .un fA) else ca t
def Wl:aM Pg 149 XI:=mk _ _ (ac l_ (ac ma an)) Q9
def Wb:aM Pg 116 Xy:=mk _ _ (ac kE (ac iX (ac Wl (ac kn an)))) Q9
def Wk:aM Pg 149 XH:=mk _ _ (ac l_ (ac ma an)) Q9
def Wa:aM Pg 116 Xx:=mk _ _ (ac kE (ac iX (ac Wk (ac kn an)))) Q9
def Wj:aM Pg 149 XG:=mk _ _ (ac l_ (ac ma an)) Q9
def V_:aM Pg 116 Xw:=mk _ _ (ac kE (ac iX (ac Wj (ac kn an)))) Q9
def Wi:aM Pg 149 XF:=mk _ _ (ac l_ (ac ma an)) Q9
def V9:aM Pg 116 Xv:=mk _ _ (ac kE (ac iX (ac Wi (ac kn an)))) Q9
def Wh:aM Pg 149 XE:=mk _ _ (ac l_ (ac ma an)) Q9
def V8:aM Pg 116 Xu:=mk _ _ (ac kE (ac iX (ac Wh (ac kn an)))) Q9
def Wg:aM Pg 149 XD:=mk _ _ (ac l_ (ac ma an)) Q9
def V7:aM Pg 116 Xt:=mk _ _ (ac kE (ac iX (ac Wg (ac kn an)))) Q9
def Wf:aM Pg 149 XC:=mk _ _ (ac l_ (ac ma an)) Q9
def V6:aM Pg 116 Xs:=mk dV qZ (ac kE (ac iX (ac Wf (ac kn an)))) Q9
def We:aM Pg 149 XB:=mk _ _ (ac l_ (ac ma an)) Q9
def V5:aM Pg 116 Xr:=mk _ _ (ac kE (ac iX (ac We (ac kn an)))) Q9
def Wd:aM Pg 149 XA:=mk _ _ (ac l_ (ac ma an)) Q9
def V4:aM Pg 116 Xq:=mk _ _ (ac kE (ac iX (ac Wd (ac kn an)))) Q9
def Wc:aM Pg 149 Xz:=mk _ _ (ac l_ (ac ma an)) Q9
def V3:aM Pg 116 Xo:=mk _ _ (ac kE (ac iX (ac Wc (ac kn an)))) Q9
def aew:aM Pg 116 afp:=(aM.orE (pre:=dV.pre) (post:=dV.post) (m:=qZ) (m':=(λx=>orE (qY x) ((λx=>orE (ov x) ((λx=>orE (mq x) ((λx=>orE (lz x) ((λx=>orE (kh x) ((λx=>orE (i_ x) ((λx=>orE (iy x) ((λx=>orE (gR x) (gU x)) x)) x)) x)) x)) x)) x)) x))) rfl V6 (aM.orE (pre:=dV.pre) (post:=dV.post) (m:=qY) (m':=(λx=>orE (ov x) ((λx=>orE (mq x) ((λx=>orE (lz x) ((λx=>orE (kh x) ((λx=>orE (i_ x) ((λx=>orE (iy x) ((λx=>orE (gR x) (gU x)) x)) x)) x)) x)) x)) x))) rfl V5 (aM.orE (pre:=dV.pre) (post:=dV.post) (m:=ov) (m':=(λx=>orE (mq x) ((λx=>orE (lz x) ((λx=>orE (kh x) ((λx=>orE (i_ x) ((λx=>orE (iy x) ((λx=>orE (gR x) (gU x)) x)) x)) x)) x)) x))) rfl V4 (aM.orE (pre:=dV.pre) (post:=dV.post) (m:=mq) (m':=(λx=>orE (lz x) ((λx=>orE (kh x) ((λx=>orE (i_ x) ((λx=>orE (iy x) ((λx=>orE (gR x) (gU x)) x)) x)) x)) x))) rfl V3 (aM.orE (pre:=dV.pre) (post:=dV.post) (m:=lz) (m':=(λx=>orE (kh x) ((λx=>orE (i_ x) ((λx=>orE (iy x) ((λx=>orE (gR x) (gU x)) x)) x)) x))) rfl V9 (aM.orE (pre:=dV.pre) (post:=dV.post) (m:=kh) (m':=(λx=>orE (i_ x) ((λx=>orE (iy x) ((λx=>orE (gR x) (gU x)) x)) x))) rfl V8 (aM.orE (pre:=dV.pre) (post:=dV.post) (m:=i_) (m':=(λx=>orE (iy x) ((λx=>orE (gR x) (gU x)) x))) rfl V7 (aM.orE (pre:=dV.pre) (post:=dV.post) (m:=iy) (m':=(λx=>orE (gR x) (gU x))) rfl Wa (aM.orE (pre:=dV.pre) (post:=dV.post) (m:=gR) (m':=gU) rfl V_ Wb)))))))))
def aeu:aM Pg 73 afn:=mk _ _ (ac aew an) ca
def ajn:aM Pg 50 aka:=mk _ _ (ac Fc (ac aeu (ac Zi an))) ca
def fX:aM Pg 46 K3:=mk _ _ an ca
def In:aM Pg 125 afx:=mk _ _ an ca
def Nf:aM Pg 189 aa4:=mk _ _ an ca
def Gq:aM Pg 188 Up:=mk _ _ an ca
def Gr:aM Pg 124 Uq:=mk _ _ an ca
def Wq:aM Pg 122 XV:=mk _ _ an ca
def Qg:aM Pg 52 QM:=mk _ _ an ca
def xu:∀n:Nat,aM Pg 187 (H9 n)
 |0=>Ji pj
 |n+1=>mk pj (yS (mc n)) (ac fX (ac In (ac (xu n) (ac Gq (ac Nf an))))) ca
def Io:aM Pg 187 IN:=(xu fuel)
def Gp:aM Pg 190 Hi:=mk _ _ (ac xt an) ca
def kF:∀n:Nat,aM Pg 123 (F9 n)/\aM Pg 159 (H8 n)/\aM Pg 191 (F_ n)
 |0=>⟨Ji nX,Ji tC,Ji sC⟩
 |n+1=>⟨mk nX (nV (dY n) (fh n) (eM n)) (ac (kF n).2.1 an) ca,mk tC (pf (dY n) (fh n) (eM n)) (ac fX (ac (kF n).1 (ac Gr (ac In (ac Io (ac Gq (ac Nf (ac Gp (ac (kF n).2.2 an))))))))) ca,mk sC (nW (dY n) (fh n) (eM n)) (ac fX (ac (kF n).1 an)) ca⟩
def Gn:aM Pg 123 Hh:=(kF fuel).1
def Qf:aM Pg 76 QL:=mk _ _ (ac fX (ac As (ac Wq (ac Gn (ac Gr (ac In an)))))) ca
def Zz:aM Pg 51 aa5:=mk _ _ (ac TE (ac Qf an)) ca
def Wr:aM Pg 22 XW:=mk _ _ (ac ajn (ac Zz (ac Qg an))) ca
def Ts:aM Pg 44 T7:=mk _ _ an ca
def MX:aM Pg 141 Ow:=mk _ _ an ca
def Tq:aM Pg 108 T5:=mk _ _ an ca
def PW:aM Pg 109 Qn:=mk _ _ (ac fX an) ca
def Tp:aM Pg 110 T4:=mk _ _ (ac fX (ac MX an)) ca
def VV:aM Pg 111 Xh:=mk _ _ (ac fX an) ca
def Tr:aM Pg 69 T6:=mk _ _ (ac fX (ac Tq (ac PW (ac Tp (ac VV an))))) ca
def tv1 (t:TypeId):M Ty:=if aB t 50 then Z (.pr .un (.pr .un (.pr .un (.pr .un (.pr .un (.sl aP)))))) else ca t
def VW:aM Pg 48 Xi:=mk _ _ (ac fX (ac Ih (ac Tr an))) tv1
def Tt:aM Pg 21 T8:=mk _ _ (ac Ts (ac M3 (ac fX (ac Ih (ac VW (ac Zh an)))))) ca
def If:aM Pg 7 IF:=mk _ _ (ac Tt (ac Wr an)) ca
abbrev Ld0:Y PB:=[Ĳ,ß,ã,.C 61 Ld]
abbrev Ld1:Y PB:=[Ĳ,ß,ã]
abbrev Ld2:Y PB:=[ž,ź,.C 225 [.d Kd0]]
abbrev Ld3:Y PB:=[Ì]
abbrev Ld8:Y PV:=Ţ
abbrev Ld4:Y PB:=[.C 31 Ld8,.C 66 (ů++[Ý,Ý])]
abbrev Ld5:Y PB:=[Ì,ad1]
abbrev Ld6:Y PB:=[Ż,.C 61 [ð,Ã,ā,ò],ad1,ý,Ĳ,ß,ã]
abbrev Ld7:Y PB:=[ý,adk,Ĳ,.F 4 af .bool,.F 178 af iD]
abbrev Ld9:Y PB:=[ź]
abbrev QV:Y PV:=[ç,Ã]
def ag0:=afe QW [] [Ã] [] (dR [adw 3 [0,1] [12] [Ä] []]) o9
def Ke:=af5 [Ý,Ý] [] pV [] (dR [adw 8 [0,1,14] [5,15] QV [Ê]])
def X0:cA:=cn Ke lC
def Hk:=afe pV [] pV [] .leaf Tg
def atg:cA:=⟨Hk.pre,Hk.post,Y4⟩
def CO:=afe pV [] [ç] Ld3 (dR [(8,(.a [.nil 2 3 aP])),(12,(.a [.nil 2 3 aP]))]) MA
def aou:cA:=⟨CO.pre,CO.post,vx⟩
def XZ:=afe QW [] pV [] (dR [adw 4 [0,1,5] [6] [Ä] [],adw 6 [0,1,6] [5] [Ã] [],adw 16 [] [7] [ç] [Ê],adw 17 [1] [7,33] [ç,Ä] [Ê]]) rf
def ZN:=afe [Ò,Ã] [] [Ã] [] (dR [adw 3 [1] [2,13] iu [.C 31 Ld8]]) qH
def Qt:=afe [Ò,Ñ] [] [Ã,Ä] [] (dR [adw 6 [7] [2,3,8] ry Ld4]) pR
def Qq:=afe [Ò,Ñ] [] [Ã,Ä] [] (dR [adw 6 [7] [2,3,8] ry Ld4]) pQ
def yZ:=af5 [ï] [] [Ä] [] (dR [adw 6 [0,5] [6] [Ã] []])
def IE:cA:=cn yZ lY
def D9:=af5 [ï] [] [Ä] [] (dR [adw 3 [0] [16] [Ä] [],adw 14 [] [18] [Æ] [ň],adw 24 [] [18] [Æ] [ň],adw 25 [3,4] [18,23] iu [ň],adw 29 [] [18,38] iu [ň]])
def Qm:cA:=cn D9 pN
def Oj:=af5 QW [] [Ã] [] (dR [adw 6 [0,1,7] [8] [Ã] []])
def aaa:cA:=cn Oj tw
def QP:=afe QW [] [Ä] [] .leaf lI
def QO:=afe [Ý,ì] [] [Ä] [] .leaf kl
def K5:=afe AQ [] [Ä] [] (dR [adw 2 [] [4] [Ä] []]) uO
def K6:=afe [Ò,Ã,Ä] [] [Ä] [] (dR [adw 2 [] [6] [Ä] []]) uP
def vm:=af5 [Ď] [] [Ø,Ä] [] (dR [ae2 8 [0] [4,5] QV [Ü] [.nil 4 9 .str],adw 15 [0] [4,5] QV [Ü],adw 37 [0,5] [4,6,49] [ç,Ó,Ä] [Ü,Ő],adw 48 [0,5,51] [4,6,52] [ç,Ó,Ã] [Ü,Ő]])
def DR:cA:=cn vm ij
def vk:=af5 [Ò,Ø] [] [Ä] [] (dR [adw 10 [17,18] [2,5,19] Pc agf,adw 27 [30,31] [2,5,32] Pc agf,ae2 50 [52] [10,51,53] [.mp 0,é,Ã] [.mp .str .bool,Ü] [.mpt 10 .str .bool],ae2 62 [12,52,53] [10,51,64] [.mp 0,é,Ä] [.mp .str .bool,Ü] [.mpt 10 .str .bool]])
def DQ:cA:=cn vk ep
def vj:=af5 [Ò] [] [Ä] [] (dR [adw 8 [8,9] [1,3,4,10] (Æ::Ã::ţ) rx,adw 20 [3,4,8,9,10] [1,6,25] ry ŷ,adw 27 [8,9,10] [1,3,4,6] [Æ,Ã,Ã,Ó] ŷ])
def DP:cA:=cn vj gq
def vn:=af5 [Ò] [] [Ä] [] (dR [adw 3 [] [1,34] iu rx,adw 11 [] [1,44] iu rx,adw 21 [] [1,58] iu rx,adw 32 [60,61] [1,62] w7 rx])
def DS:cA:=cn vn ik
def Eo:=af5 [Ò] [] [ü] [] (dR [adw 8 [20] [2,3,21] ye Ld7,adw 21 [] [2,3] [Æ,Ó] Ld7])
def QJ:cA:=cn Eo pT
def xC:=af5 [Ò] [] [í] [] (dR [adw 8 [22,23] [2,3,24] ye [ń,.C 107 (Ş++[ä,ê,ð]),.F 2 af aP,.F 2 af aP,Ê]])
def Ha:cA:=cn xC fm
def OH:=afe AQ [] [Ä] [] (dR [adw 2 [] [4] [Ä] []]) fD
def KY:=afe (Ò::ţ) [] [Ä] [] (dR [adw 6 [2,7] [3,8] iu rx,adw 36 [2,7] [3,18] iu rx,adw 46 [2,7] [3,26] iu rx,adw 53 [] [6] [Ä] [],adw 56 [2,7] [3,43] iu rx,adw 71 [] [6] [Ä] [],adw 74 [2,7] [3,61] iu rx,adw 92 [2,7] [3,71] iu rx,adw 102 [2] [3,79] iu rx]) m6
def G6:=af5 [Ò,ü] [] [Ä] [] (dR [adw 3 [] [2,31] iu rx,adw 14 [33,34] [2,35] w7 rx])
def Um:cA:=cn G6 lB
def QH:=afe (Ò::ü::Ã::ţ) [] [Ä] [] (dR [adw 15 [] [10] [Ä] [],adw 21 [] [10] [Ä] [],adw 24 [2,4,11] [5,6,60] ry aas,adw 64 [2,4,11] [5,6,109] ry aas,adw 81 [] [10] [Ä] [],adw 87 [] [10] [Ä] []]) pS
def KZ:=afe (Ò::ü::Ã::ţ) [] [Ä] [] (dR [adw 3 [2,3,4] [5,6,30] ry aas,adw 25 [] [10] [Ä] [],adw 29 [] [10] [Ä] []]) k_
def IC:=afe [Ò,í] [] [Ä] [] (dR [adw 2 [] [4] [Ä] []]) lU
def Fh:=afe [Ò,Ñ] [] [Ä] [] (dR [adw 3 [] [2,3,12] ry ų,adw 10 [] [4] [Ä] []]) mE
def sw:=af5 [Ò,í,Ñ] [] [Ä] [] (dR [adw 2 [] [4,5,7] ry Ų,adw 4 [] [4,5,8] ş Ld2,adw 10 [51] [4,5,8,52] I2 Ld2,adw 22 [10,51,52] [4,5,8,64] Lc Ld2,adw 34 [51,52,65,66] [4,5,8,11,67] (ş++ţ) Ld2,adw 46 [13,51,52,65,66,67] [4,5,8,83] Lc Ld2])
def AH:cA:=cn sw gd
def wG:=af5 [í,Ñ] [] [Ä] [] (dR [adw 21 [] [4] [Ä] [],adw 24 [13] [2,3,46] ry Ų,adw 43 [53,54] [3,5,6,55] [Æ,Ã,Ä,Ã] Ld9,adw 51 [53,54,55] [3,5,6] [Æ,Ã,Ä] Ld9,adw 54 [5,6,7,53,54,55] [3,69] iu Ld9,adw 62 [] [4] [Ä] [],adw 74 [94,95] [3,9,96] Yn Ld9,adw 82 [94,95,96] [3,9] w7 Ld9,adw 85 [9,94,95,96] [3,109] iu Ld9])
def Fg:cA:=cn wG gK
def QF:=afe [.d iD,Ã] [] [Ä] [] (dR [adw 2 [] [4] [Ä] []]) nE
def CP:=afe [Ă] [] [Ă] [] .leaf MC
def aov:cA:=⟨CP.pre,CP.post,Tf⟩
def zE:=afe [Ă] [] [ç] [ß] (dR [(8,(.a [.nil 2 4 .bool])),(12,(.a [.nil 2 4 .bool]))]) H6
def akq:cA:=⟨zE.pre,zE.post,MB⟩
def CM:=afe [á] [] [á] [] .leaf Mz
def aot:cA:=⟨CM.pre,CM.post,Te⟩
def zC:=afe [á] [] [ç] [ã] (dR [(8,(.a [.nil 2 178 iD])),(12,(.a [.nil 2 178 iD]))]) H4
def ako:cA:=⟨zC.pre,zC.post,My⟩
def zD:=afe pV [] [ç] [Å] (dR [(8,(.a [.nil 2 2 aP])),(12,(.a [.nil 2 2 aP]))]) H5
def akp:cA:=⟨zD.pre,zD.post,BX⟩
def En:=af5 [ü] [] [Ĭ] Ld1 (dR [adw 8 [11,12] [1,2,3,13] [Æ,Ó,ä,Ã] [abt,ý,Ĳ]])
def QI:cA:=cn En lH
def CA:=af5 (Ĭ::ţ) Ld1 [Ã] Ld1 (dR [adw 8 [1,2,12] [3,7,11,13] [Û,Ã,ä,Ã] Ld0,adw 16 [1,2,12,13] [3,7,11] [Û,Ã,ä] Ld0,adw 19 [1,2,7,8,12,13] [3,11,29] [Û,ä,Ä] Ld0,adw 25 [7] [] [] Ld1])
def OJ:cA:=cn CA kD
def xF:=af5 [Ĭ,Ã] Ld1 [Ã] Ld1 (dR [adw 8 [1,10] [2,5,9,11] [Û,Ã,ä,Ã] Ld0,adw 16 [1,10,11] [2,5,9] [Û,Ã,ä] Ld0])
def Hg:cA:=cn xF h_
def OR:=afe [Ã] [] [Ä] [] .leaf r8
def QN:=afe AQ [] [Ä] [] (dR [adw 2 [] [4] [Ä] []]) xW
def IL:=afe [.d (.int .u64)] [] [Ã] [] .leaf tf
def ON:=afe [.d (.int .u64)] [] [Ã] [] .leaf wn
def pm:=af5 (ç::ţ) Ld3 [] Ld3 (dR [adw 3 [1,2] [0,6] QV Ld3,adw 15 [1,2,6] [0,7] QV Ld3,adw 17 [1,2,6,7] [0,30] [ç,Ä] Ld3])
def wW:cA:=cn pm gk
def vi:=af5 (ç::Ã::ţ) Ld3 [] Ld3 (dR [adw 5 [] [0,1,2,3,8,9] [ç,Ã,Ã,Ã,Ä,Ä] Ld3])
def DO:cA:=cn vi jU
def ag1:=afe [ç] Ld3 [] Ld3 .leaf yM
def G':=af5 [ç] Ld3 [ç] Ld3 (dR [adw 14 [] [0,3] QV Ld3])
def Uu:cA:=cn G' mH
def K0:=afe [Ã,Æ] [ad1] [Ä] [ad1] .leaf qo
def CG:=af5 [ç,ĥ] Ld5 [Ã] Ld5 (dR [adw 6 [7] [0,1,8] [ç,ĥ,Ã] Ld5])
def OU:cA:=cn CG oA
def Bs:=af5 [ç,ĥ] Ld5 [ä] [č,ad1,Ê] (dR [adw 16 [] [0,1,5,6] (ç::ĥ::ţ) Ld5,adw 24 [6] [0,1,5] [ç,ĥ,Ã] Ld5])
def K7:cA:=cn Bs jP
def oG:=af5 (Ò::ü::Ã::Ã::ţ) [] [ü,Ã,Ä] [] (dR [adw 17 [] [7,12,15] ye [adk,ý,Ĳ,ß,ã],adw 26 [4,5,15,27] [6,7,8,12,42] CV Ld6,adw 34 [4,5,15,27] [6,7,8,12,51] CV Ld6])
def OM:cA:=cn oG ia
def OK:=afe [ü] [] [.agg [.qy 0 2 3,Ã,Ă,á]] (.C 98 [Ã,é,Ã,ä,Ã,ê]::ŵ) (dR [ae2 7 [] [1,2,3] [Æ,Ó,.qy 2 2 3] (abt::ý::.C 98 [Ã,ê,Ã,ð,Ã,ā]::ŵ) [.qc 3 1 3 aP,.qc 3 3 3 aP,.qc 3 5 3 aP],(8,(.u 4))]) rZ
def OL:=afe (Ò::ü::Ã::Ã::ţ) [] [ü,Ã,Ä] [] (dR [adw 17 [] [7,12,15] ye [.C 61 [.qy 2 2 3,Ã,Ă,á],ý,.C 98 [.d em,.d em,Ã,ê],.qf 3 aP],adw 26 [4,5,15,27] [6,7,8,12,42] CV (ű++.C 98 [Ã,ā,Ã,ò,Ã,ô]::ŵ),(33,(.s 4 0 0 0)),adw 34 [4,5,15,27] [6,7,8,12,51] CV (ű++[.C 98 [Ã,Ý,Ã,Ý,Ã,ā],Ì]),(41,(.s 4 0 0 0)),(46,(.s 4 0 0 3)),(53,(.s 4 0 0 3)),(74,(.s 4 0 0 0)),(80,(.s 4 0 0 0)),(100,(.a [.pk 7 0 em]))]) l8
def QK:cA:=cn oG tK
def ID:=afe [Ò,í,Ñ] [] [í,Ä] [] (dR [adw 3 [] [3,4,5,6,39] CV Ph,adw 11 [] [3,4,5,6,70] CV Ph,adw 20 [] [3,4,5,6,8] (ş++[Û,Ã]) Ph,adw 41 [] [5,6,12] ş aui]) lV
def sO:=af5 [.nr 0 1,.d fV] [Ë] [Ä] [Ë] (dR [adw 6 [13] [0,14] [.nr 0 1,.d aP] [Ë],adw 20 [13,14,17,18] [0,19] [.nr 0 1,.d aP] [Ë],adw 31 [13,14,17,18,19] [0,37] [.nr 0 1,.d .bool] [Ë]])
def BE:cA:=cn sO eY
def xD:=af5 [ñ] [] AQ [] (dR [adw 26 [27,28] [1,4,5,29] [Æ,Ó,ä,Ã] (Ū++[.I (.rr 58 1) 3,Ë]),adw 40 [6,27,28,29] [1,4,5,7,8,53] [Æ,Ó,ä,Û,ó,Ä] (Ū++[.I (.rr 58 1) 5,ź,ž,Ë]),ae2 47 [27,28,29] [1,4,5,8] [Æ,Ó,ä,Û] (Ū++[.I (.rr 58 1) 4,ž,Ë]) [.jg 5 0]])
def Hb:cA:=cn xD hZ
def RC:aM Pg 59 ag0:=mk _ _ an ca
def Vz x:nj (lC x) (BW x):=by
 unfold lC BW xA ck bV bT bc c8 aI cS;with_reducible repeat' first|apply OI.o;constructor|intro _
def Ca:aM Pg 91 X0:=E7 Ke lC BW Vz (ac RC an) ca
def anz:aM Pg 89 Hk:=mk _ _ an ca
def at2:aM Pg 89 atg:= @aM.sub Pg 89 Hk.pre Hk.post Tg Y4 anz rfl (λx y h=>tD (b:=8) x y h)
def ajr:aM Pg 89 CO:=mk _ _ an ca
def ace:aM Pg 89 aou:= @aM.sub Pg 89 CO.pre CO.post MA vx ajr rfl (λx y h=>tD (b:=8) x y h)
def Ws:aM Pg 97 XZ:=mk _ _ an ca
def M2:aM Pg 61 ZN:=mk _ _ an ca
def P0:aM Pg 41 Qt:=mk _ _ (ac M2 an) ca
def PZ:aM Pg 42 Qq:=mk _ _ (ac M2 an) ca
def HY x:nj (lY x) (sW x):=by
 unfold lY sW tB kK lE lD CZ Prod.t Prod.u Prod.C Prod.D Prod.H Prod.I bk Prod.K bB bP cP eU kJ lP mw Prod.L bV bT c8 aI cS;with_reducible repeat' first|apply OI.o;constructor|intro _
def Ie:aM Pg 160 IE:=E7 yZ lY sW HY an ca
def PF x:nj (pN x) (xS x):=by
 unfold pN xS xY bm bV jZ bc c8 aI;with_reducible repeat' first|apply OI.o;constructor|intro _
def PU:aM Pg 126 Qm:=E7 D9 pN xS PF (ac Ie an) ca
def Y1 x:nj (tw x) (E0 x):=by
 unfold tw E0 Ay bm bV bW bc c8 aI cS;with_reducible repeat' first|apply OI.o;constructor|intro _
def ZA:aM Pg 192 aaa:=E7 Oj tw E0 Y1 an ca
def Qi:aM Pg 161 QP:=mk _ _ (ac ZA an) ca
def D6:aM Pg 26 QO:=mk _ _ (ac RC an) ca
def KF:aM Pg 127 K5:=mk _ _ an ca
def KH:aM Pg 79 K6:=mk _ _ (ac KF an) ca
end
end Go.Proofs.YtcmnmakaoonfgaaGreatDoor.AI
