/-
  Texts of the proof, part 4 of 6: what is used to prove the statement. No condition.
-/
import Derived.Test.YtpjhicegjenpeaaGreatDoorWeakBelowQ2
import Derived.KernelRfl
namespace Go.Proofs.YtpjhicegjenpeaaGreatDoor.AI
open Go.RowKit
set_option maxRecDepth 100000
set_option maxHeartbeats 4000000
set_option linter.unusedVariables false
set_option linter.unusedSimpArgs false
set_option linter.defProp false
open _root_.Bool renaming true→J,false→af
open _root_.Int renaming ofNat_eq_natCast→aB,toNat→aN,ofNat→aQ,toNat_natCast→bi,reduceEq→bF,reduceNeg→em,le_trans→xo,natCast_zero→Fy
open _root_.List renaming length→l!,length→aj,replicate→aC,length_singleton→cO,take→dP,range→e_,map→gL,cons_append→gP,length_cons→kn,getElem?_concat_length→nY,length_nil→pI,set→sH,append→sW,nodup_cons→uF,replicate_succ→yz,foldl_cons→Am
open _root_.Nat renaming beq→ax,add_zero→dF,blt→ey
open _root_.Option renaming some→Z,none→U,getD_some→sG
open _root_.Prod renaming a→bf,b→bA,c→bH,d→cF,e→c_,f→dM,h→dT,g→eR,i→gz,n→ic,k→ik,j→ja,o→jK,m→jS,l→kV,ext→sF,r→vn,q→wR,p→xg,y→HR,s→Ph
open _root_.Sum renaming inr→b8,inl→rB
noncomputable section
def Yc:Ok (lM ()) λl=>l! l=22:=by
 unfold lM;with_reducible repeat' first|apply OS.ok;constructor|refine IM.mk λ_=>?_
 all_goals rfl
def UB (s:ζ):Ok (mo s) λ_=>True:=by
 refine ay Yc λl z=>?_
 refine cA (l! l) (λi x=>x=(i:Int)) ?_ ?_ rfl
 .rintro i x hi rfl;with_reducible repeat' first|apply OS.ok;constructor|refine IM.mk λ_=>?_
  all_goals try simp[aB,t8] at*
  all_goals first|omega|exact iG
 .rintro x rfl;with_reducible repeat' first|apply OS.ok;constructor|refine IM.mk λ_=>?_
  all_goals try simp[aB,t8] at*
  all_goals omega
def RY (c:Int):Ok (mO c) λ_=>True:=by
 unfold mO kB aH;with_reducible repeat' first|apply OS.ok;constructor|refine IM.mk λ_=>?_
 all_goals exact trivial
def aj8 (c:Int):Ok (qO c) λ_=>True:=by
 unfold qO s_ kB aH;refine ie (ay (RY c) λ_ _=>?_);with_reducible repeat' first|apply OS.ok;constructor|refine IM.mk λ_=>?_
 all_goals try exact trivial
 refine ay (P:=λ_=>True) ?_ λ_ _=>?_
 .with_reducible repeat' first|apply OS.ok;constructor|refine IM.mk λ_=>?_
  all_goals exact trivial
 .with_reducible repeat' first|apply OS.ok;constructor|refine IM.mk λ_=>?_
  all_goals exact trivial
def iY (s:ζ):Ok (f_ s) λ_=>True:=by
 refine aY (λb=>b=af->l! s<=12) ?_ ?_
 .with_reducible repeat' first|apply OS.ok;constructor|refine IM.mk λ_=>?_
  .grind
  .grind
  .omega
  .grind
  refine ay (RY _) λ_ _=>?_
  with_reducible repeat' first|apply OS.ok;constructor|refine IM.mk λ_=>?_
  .grind
  refine ay (UB _) λ_ _=>ak λ_=>?_
  grind
 .rintro b z;refine aP (λ_=>ak trivial) λh=>?_
  have z:=z h;refine cA (l! s) (λi x=>x=(i:Int)) ?_ ?_ rfl
  .rintro i x hi rfl;with_reducible repeat' first|apply OS.ok;constructor|refine IM.mk λ_=>?_
   all_goals try simp[aB,t8] at*
   all_goals first|omega|skip
   refine ay (aj8 _) λ_ _=>?_
   with_reducible repeat' first|apply OS.ok;constructor|refine IM.mk λ_=>?_
   .exact trivial
   .exact iG
  .rintro x rfl;with_reducible repeat' first|apply OS.ok;constructor|refine IM.mk λ_=>?_
   all_goals try simp[aB,t8] at*
   all_goals first|omega|exact trivial
def BP (l:Y ζ) (s:ζ) (D:l! l<=1000000000):Ok (ku (l,s)) λr=> -1<=r/\r<l! l/\(0<=r->geti (.str) l r=s)/\(r<0->s∉l):=by
 refine cA (l! l) (λi x=>x=(i:Int)/\∀k:Nat,k<i->geti (.str) l (k:Int)≠s) ?_ ?_ ⟨rfl,λk A=>by omega⟩
 .rintro i x hi ⟨rfl,z⟩;with_reducible repeat' first|apply OS.ok;constructor|refine IM.mk λ_=>?_
  all_goals try simp[aB,t8] at*
  all_goals first|omega|skip
  .grind
  .refine ⟨iG,λk A=>?_⟩
   grind
 .rintro x ⟨rfl,z⟩;with_reducible repeat' first|apply OS.ok;constructor|refine IM.mk λ_=>?_
  all_goals try simp only[aB,t8] at*
  all_goals first|omega|skip
  exact⟨by omega,by omega,λh=>by omega,λ_ h=>iX (T:=.str) (p:=λc=>c≠s) z s h rfl⟩
structure VL (w:WT):Prop where
 c:l! w.1<=12
 l:l! w.2.1<=4
 d:l! w.2.2.1<=2
 f:l! w.2.2.2.1<=2
 t0:1<=l! w.2.2.2.2.1
 t:l! w.2.2.2.2.1<=4
 s:l! w.2.2.2.2.2<=60
def aii (w:WT) (h:VL w):Ok (qK w) λy=>l! y.1<=100:=by
 let⟨D,w2,w3,w4,w5,w6⟩:=w;let⟨h1,h2,h3,h4,_,h5,h6⟩:=h;dsimp only at*
 unfold qK bf bA bH cF eR xg bq bU jP bT bZ aZ c5 aH cS;refine rH (λx=>((l! D:Int)-x.1).toNat) (λx=>x.2.1=(D,w2,w3,w4,w5,w6)/\0<=x.1/\x.1<=(l! D:Int)/\(l! x.2.2:Int)<=x.1) ?_ ⟨rfl,by simp,by simp,by simp⟩;rintro⟨x1,x2,x3⟩ ⟨e,g1,g2,g3⟩;dsimp only at e g1 g2 g3;subst e;refine bN (λg4=>?_) λg4=>?_
 .dsimp only[aB]at g4;refine aY (λx=>x.2.1=(D,w2,w3,w4,w5,w6)/\x1<x.1/\x.1<=(l! D:Int)/\(l! x.2.2:Int)<=x.1) ?_ ?_
  .refine cE (aS (a! ?_));refine aL (λ_=>?_) λ_=>?_
   .with_reducible repeat' first|apply OS.ok;constructor|refine IM.mk λ_=>?_
    .exact mH _
    .rw[iQ];exact⟨rfl,by dsimp only;omega,by dsimp only;omega,by simp;omega⟩
   .generalize hz:geti _ _ x1=z;obtain⟨z1,(z2:Int),(L:Int),z4,z5⟩:=z;dsimp only;refine aY (λx=>x.2=((D,w2,w3,w4,w5,w6),x3++[z1],z1,z2,L,z4,z5)/\(x.1=af->1<=L/\L<=4/\x1+L<=l! D)) ?_ ?_
    .with_reducible repeat' first|apply OS.ok;constructor|refine IM.mk λ_=>?_
     .exact⟨rfl,nofun⟩
     .exact⟨rfl,nofun⟩
     .refine ⟨rfl,λh=>?_⟩;dsimp only[aB] at*
      rw[iQ,kh]at h;omega
    .rintro⟨b,y⟩ ⟨e,hb⟩;dsimp only at e hb;subst e;refine aP (λ_=>ak (mH _)) λh=>?_
     let⟨q1,q2,q3⟩:=hb h;refine rH (λx=>(L-x.1).toNat) (λx=>x.2=((D,w2,w3,w4,w5,w6),x3++[z1],z1,z2,L,z4,z5)/\0<=x.1/\x.1<=L) ?_ ⟨rfl,by simp,by dsimp only;omega⟩;rintro⟨k,y⟩ ⟨e,k0,k1⟩;dsimp only at e k0 k1;subst e;refine bN (λk2=>?_) λk2=>?_
     .dsimp only at k2;have A:bm .i64 (x1+k)=x1+k:=iQ;refine aO (by dsimp only;rw[A];omega) (by dsimp only;rw[A];omega) (aS ?_);refine aY (λx=>x.2=((D,w2,w3,w4,w5,w6),x3++[z1],z1,z2,L,z4,z5)) ?_ ?_
      .with_reducible repeat' first|apply OS.ok;constructor|refine IM.mk λ_=>?_
       all_goals rfl
      .rintro⟨b,y⟩ e;dsimp only at e;subst e;refine aP (λ_=>ak (mH _)) λ_=>ak ?_
       dsimp only;rw[iQ];exact⟨⟨rfl,by omega,by omega⟩,by omega⟩
     .dsimp only at k2;refine ak ?_;dsimp only;rw[iQ];exact⟨rfl,by omega,by omega,by simp;omega⟩
  .rintro⟨y1,y2,y3⟩ ⟨e,g5,g6,g7⟩;dsimp only at e g5 g6 g7;subst e;refine ak ⟨⟨rfl,by dsimp only;omega,g6,g7⟩,?_⟩;dsimp only;omega
 .dsimp only[aB]at g4;refine ay (P:=λy=>l! y.1<=100) ?_ λy hy=>ak hy
  refine cA (l! w2) (λi x=>x.1=(i:Int)/\x.2.1=(D,w2,w3,w4,w5,w6)/\l! x.2.2<=12+i) ?_ ?_ ⟨rfl,rfl,by dsimp only;omega⟩
  .rintro i ⟨a,b,c⟩ hi ⟨A,e2,e3⟩;dsimp only at A e2 e3;subst A e2;with_reducible repeat' first|apply OS.ok;constructor|refine IM.mk λ_=>?_
   all_goals try simp only[aB,t8] at*
   all_goals first|omega|(simp;omega)|skip
   exact⟨iG,by simp;omega⟩
  .rintro⟨a,b,c⟩ ⟨A,e2,e3⟩;dsimp only at A e2 e3;subst A e2;refine bN (λg4=>(by dsimp only[aB]at g4;omega)) λ_=>?_
   refine ay (P:=λy=>l! y.1<=100) ?_ λy hy=>ak hy
   refine cA (l! w3) (λi x=>x.1=(i:Int)/\x.2.1=(D,w2,w3,w4,w5,w6)/\l! x.2.2<=16+i) ?_ ?_ ⟨rfl,rfl,by dsimp only;omega⟩
   .rintro i ⟨a,b,c⟩ hi ⟨A,e2,e3⟩;dsimp only at A e2 e3;subst A e2;with_reducible repeat' first|apply OS.ok;constructor|refine IM.mk λ_=>?_
    all_goals try simp only[aB,t8] at*
    all_goals first|omega|(simp;omega)|skip
    exact⟨iG,by simp;omega⟩
   .rintro⟨a,b,c⟩ ⟨A,e2,e3⟩;dsimp only at A e2 e3;subst A e2;refine bN (λg4=>(by dsimp only[aB]at g4;omega)) λ_=>?_
    refine ay (P:=λy=>l! y.1<=100) ?_ λy hy=>ak hy
    with_reducible repeat' first|apply OS.ok;constructor|refine IM.mk λ_=>?_
    all_goals try simp only[aB,t8] at*
    all_goals first|omega|(simp;omega)
def Ym (T:Int) (o:M ν) (s:π):M ν:=
 match o with
 |none=>U
 |some (t,n)=>if s.1=t/\s.2.1=n then Z (t,n+1) else if t<s.1/\s.1<T/\s.2.1=0 then Z (s.1,1) else U
def Pn (T:Int) (l:Y π):M ν:=l.foldl (Ym T) (Z (0,0))
def SV0 (w:WT):Prop:=Pn (l! w.2.2.2.2.1) w.2.2.2.2.2≠U
variable {i:Nat}
def Mc {T:Int} {l:Y π} (hi:i<l! l):Pn T (l.take (i+1))=Ym T (Pn T (l.take i)) (geti pW l (i:Int)):=by
 rw[pi (T:=pW) hi];unfold Pn;rw[dO];rfl
def U0 (T:Int):∀l:Y π,l.foldl (Ym T) U=U
 |[]=>rfl
 |_::r=>U0 T r
variable {a:Int}
def ab6 {l:Y π} (h:Pn a l≠U) (i:Nat):Pn a (l.take i)≠U:=λz=>h (by
 unfold Pn at z ⊢;rw[<- EH i l,dO,z,U0])
def ahk {t n:Int} {z:π} (h:Ym a (Z (t,n)) z≠U):Ym a (Z (t,n)) z=Z (z.1,z.2.1+1)/\(z.1=t/\z.2.1=n\/t<z.1/\z.1<a/\z.2.1=0):=by
 unfold Ym at h ⊢
 grind
def EA (w:WT):Ok (iC w) λb=>b=J->VL w/\SV0 w:=by
 unfold iC bf bA bH cF dT ic bq bU kB jP bT bZ aZ c5 aH cS;refine aY (λx=>x.2=w/\(x.1=af->VL w)) ?_ ?_
 .with_reducible repeat' first|apply OS.ok;constructor|refine IM.mk λ_=>?_
  all_goals first|exact⟨rfl,λh=>(by cases h)⟩|skip
  dsimp only[aB] at*
  refine ⟨rfl,λh=>?_⟩;rw[kh]at h;constructor<;>omega
 rintro⟨b,x⟩ ⟨e,hb⟩;dsimp only at e hb;subst e;refine aP (λ_=>ak λh=>(by cases h)) λh=>?_
 have hv:=hb h;refine ay (aii _ hv) λy hy=>?_
 refine eQ (λ_=>ak λh=>(by cases h)) λ_=>?_
 let⟨w1,w2,w3,w4,D,A⟩:=x;have h6:=hv.s;have h3:=hv.d;dsimp only at h6 h3;refine cA (l! y.1) (λi x=>x.1=(i:Int)/\x.2=(w1,w2,w3,w4,D,A)) ?_ ?_ ⟨rfl,rfl⟩
 .rintro i ⟨a,b⟩ hi ⟨L,e2⟩;dsimp only at L e2;subst L e2;refine bN (λg4=>?_) λg4=>(by dsimp only[aB]at g4;omega)
  refine aY (λx=>x.2=(w1,w2,w3,w4,D,A)) ?_ ?_
  .refine cE (aS (ay (iY _) λ_ _=>?_));refine eQ (λ_=>ak rfl) λ_=>?_
   with_reducible repeat' first|apply OS.ok;constructor|refine IM.mk λ_=>?_
   all_goals try simp only[aB,t8] at*
   all_goals first|omega|skip
   refine ay (BP _ _ (by simp;omega)) λ_ _=>ak rfl
  .rintro⟨a,b⟩ e;dsimp only at e;subst e;with_reducible repeat' first|apply OS.ok;constructor|refine IM.mk λ_=>?_
   .exact λh=>(by cases h)
   .dsimp only;exact⟨iG,rfl⟩
 rintro⟨a,b⟩ ⟨L,e2⟩;dsimp only at L e2;subst L e2;refine bN (λg4=>(by dsimp only[aB]at g4;omega)) λ_=>?_
 refine ay (P:=λb=>b=J->VL (w1,w2,w3,w4,D,A)/\SV0 (w1,w2,w3,w4,D,A)) ?_ λy hy=>ak hy
 refine cA (l! w3) (λi x=>x.1=(i:Int)/\x.2=(w1,w2,w3,w4,D,A)) ?_ ?_ ⟨rfl,rfl⟩
 .rintro i ⟨a,b⟩ hi ⟨L,e2⟩;dsimp only at L e2;subst L e2;refine bN (λg4=>?_) λg4=>(by dsimp only[aB]at g4;omega)
  refine cE (aS ?_);refine aY (λx=>x.2=(w1,w2,w3,w4,D,A)) ?_ ?_
  .with_reducible repeat' first|apply OS.ok;constructor|refine IM.mk λ_=>?_
   all_goals try simp only[aB,t8] at*
   all_goals first|omega|rfl
  .rintro⟨a,b⟩ e;dsimp only at e;subst e;with_reducible repeat' first|apply OS.ok;constructor|refine IM.mk λ_=>?_
   .exact λh=>(by cases h)
   .dsimp only;exact⟨iG,rfl⟩
 rintro⟨a,b⟩ ⟨L,e2⟩;dsimp only at L e2;subst L e2;refine bN (λg4=>(by dsimp only[aB]at g4;omega)) λ_=>?_
 refine ay (P:=λb=>b=J->VL (w1,w2,w3,w4,D,A)/\SV0 (w1,w2,w3,w4,D,A)) ?_ λy hy=>ak hy
 refine cA (l! A) (λi x=>x.1=(i:Int)/\x.2=(w1,w2,w3,w4,D,A)/\Pn (l! D) (A.take i)=Z (if i=0 then (0,0) else ((geti pW A ((i-1:Nat):Int)).1,(geti pW A ((i-1:Nat):Int)).2.1+1))/\(¬i=0->(0:Int)<=(geti pW A ((i-1:Nat):Int)).2.1/\(i:Int)>(geti pW A ((i-1:Nat):Int)).2.1)) ?_ ?_ ⟨rfl,rfl,rfl,λh=>(h rfl).elim⟩
 .rintro i ⟨a,b⟩ hi ⟨L,e2,e3,hpb⟩;dsimp only at L e2;subst L e2;have hw:¬(i:Int)=0->bm .i64 ((i:Int)-1)=((i-1:Nat):Int):=λh=>by rw[iQ];omega
  have hnx:=Mc (T:=l! D) hi;rw[e3]at hnx;clear e3;refine bN (λg4=>?_) λg4=>(by dsimp only[aB]at g4;omega)
  refine aY (λx=>x=(w1,w2,w3,w4,D,A)/\Pn (l! D) (A.take (i+1))=Z (((geti pW A (i:Int)).1,(geti pW A (i:Int)).2.1+1))/\(0:Int)<=(geti pW A (i:Int)).2.1/\((i+1:Nat):Int)>(geti pW A (i:Int)).2.1) ?_ ?_
  .refine cE (aS ?_);rw[hnx];generalize hz:geti pW A (i:Int)=z;obtain⟨(z1:Int),(z2:Int),(z3:Int)⟩:=z;dsimp only;refine aY (λx=>x.2=((w1,w2,w3,w4,D,A),z1,z2,z3)/\(x.1=af->0<=z1/\z1<l! D)) ?_ ?_
   .refine bN (λ_=>ak ⟨rfl,λh=>(by cases h)⟩) λg=>ak ⟨rfl,λh=>⟨g,?_⟩⟩
    rw[nF]at h;exact h
   rintro⟨c,y⟩ ⟨e,hzr⟩;dsimp only at e hzr;subst e;refine aP (λ_=>ak λh=>(by cases h)) λhzb=>?_
   let⟨z0,zT⟩:=hzr hzb;refine aY (λx=>x.2=((w1,w2,w3,w4,D,A),z1,z2,z3)/\(x.1=J->i=0\/¬(geti pW A ((i-1:Nat):Int)).1=z1)/\(x.1=af->¬(i:Int)=0/\(geti pW A ((i-1:Nat):Int)).1=z1)) ?_ ?_
   .refine aL (λh=>ak ⟨rfl,λ_=>.inl (by have h:((i:Nat):Int)=0:=h;omega),λh=>(by cases h)⟩) λh=>?_
    rw[hw h];refine cE (aS (ak ⟨rfl,λh2=>.inr (by simpa using h2),λh2=>⟨h,by simpa using h2⟩⟩))
   rintro⟨c,y⟩ ⟨e,hc1,hc⟩;dsimp only at e hc1 hc;subst e;refine aP (λhct=>?_) λhcf=>?_
   .refine aY (λx=>x.2=(w1,w2,w3,w4,D,A)/\(x.1=af->z2=0/\(¬i=0->((geti pW A ((i-1:Nat):Int)).1:Int)<z1))) ?_ ?_
    .refine ca (λ_=>ak ⟨rfl,λh=>(by cases h)⟩) λhz2=>?_
     refine bN (λh=>?_) λhi0=>ak ⟨rfl,λ_=>⟨hz2,λh=>by have hi0:((i:Nat):Int)<=0:=hi0;omega⟩⟩
     have h:(0:Int)<((i:Nat):Int):=h;rw[hw (by omega)];refine cE (aS (ak ⟨rfl,λh2=>⟨hz2,λh3=>?_⟩⟩));rw[kh]at h2;have h4:=(hc1 hct).resolve_left h3;have h2:(geti pW A ((i-1:Nat):Int)).1<=z1:=h2;exact Int.lt_iff_le_and_ne.2 ⟨h2,h4⟩
    rintro⟨c,y⟩ ⟨e,hy⟩;dsimp only at e hy;subst e;refine aP (λ_=>ak λh=>(by cases h)) λh=>ak ⟨rfl,?_⟩
    let⟨q1,q2⟩:=hy h;have q1:z2=0:=q1;subst q1;refine ⟨?_,dx 0,by show _>(0:Int);omega⟩;unfold Ym
    grind
   .obtain⟨hi0,hpr⟩:=hc hcf;rw[hw hi0];refine cE (aS ?_);refine ca (λ_=>ak λh=>(by cases h)) λh=>ak ⟨rfl,?_⟩
    let⟨b0,b1⟩:=hpb (by omega);have h:z2=bm .i64 ((geti pW A ((i-1:Nat):Int)).2.1+1):=h;rw[iQ]at h;refine ⟨?_,by omega,by omega⟩;rw[av (by omega)];unfold Ym;dsimp only;rw[aD ⟨hpr.symm,h⟩,hpr,h]
  .rintro x ⟨rfl,hx,hx2⟩;refine ak ?_;dsimp only;refine ⟨iG,rfl,?_,λ_=>hx2⟩;rw[av (by omega)];exact hx
 .rintro⟨a,b⟩ ⟨L,e2,e3,_⟩;dsimp only at L e2;subst L e2;refine bN (λg4=>(by dsimp only[aB]at g4;omega)) λ_=>?_
  rw[cM]at e3;exact ak λ_=>⟨hv,by unfold SV0;dsimp only;rw[e3];simp⟩
def rdE (e:ET):Bool:=decide (e.2.1=3)||decide (e.2.1=23)
def fl (l:Y ET) (t:Int):θ:=(l.filter λe=>decide (e.1=t)).map rdE
def Pe (l:Y ET) (t y:Int):Prop:=0<=y/\(fl l t).getD y.toNat af=J
def wI (l m:Y ET) (t:Int):fl (l++m) t=fl l t++fl m t:=by unfold fl;rw[List.filter_append,cD]
def CA {e:ET} (h:e.1=a):fl [e] a=[rdE e]:=by unfold fl;simp[h]
def zG {e:ET} (h:¬e.1=a):fl [e] a=[]:=by unfold fl;simp[h]
variable {k:Y ET}
def Pe.app {y:Int} (h:Pe k a y) (m:Y ET):Pe (k++m) a y:=by
 let⟨h0,h1⟩:=h;refine ⟨h0,?_⟩;rw[wI]
 grind
def Pe.lt {y:Int} (h:Pe k a y):y<l! (fl k a):=by
 let⟨h0,h1⟩:=h;rcases cC y.toNat (l! (fl k a)) with g|g
 .omega
 .rw[aw,c7 g]at h1;cases h1
def Pe.last {e:ET} (h:rdE e=J) (z:a=l! (fl k e.1)):Pe (k++[e]) e.1 a:=by
 subst z;refine ⟨by omega,?_⟩;rw[wI,CA rfl,aw,b_ (by simp),h];simp
def Wr (l:Y ET) (t:Int):l! (fl l t)<=l! l:=by unfold fl;rw[bQ];exact EI ..
structure SCx (w:WT) (l:List ET) (sy:SY) (ce fu:η) (e:ET):Prop where
 en:EN w sy e.1 e.2.1 e.2.2.1
 rd:X8 w sy e.1 e.2.1 e.2.2.1
 s1:e.2.1=1\/e.2.1=2->e.2.2.2.2.1= -1
 s2:¬(e.2.1=1\/e.2.1=2)->0<=e.2.2.2.2.1/\e.2.2.2.2.1<l! w.2.2.2.2.2/\(geti pW w.2.2.2.2.2 e.2.2.2.2.1).1=e.1
 de:0<l! e.2.2.2.2.2.1->e.2.1=5\/(e.2.1=3\/e.2.1=4)/\¬(geti l7 w.1 e.2.2.1).2.2.1=0
 fr:0<l! e.2.2.2.2.2.2->e.2.1=4\/e.2.1=22
 nd:AN (l! (fl l e.1)) e.2.2.2.2.2.1
 nf:AN (l! (fl l e.1)) e.2.2.2.2.2.2
 rd1:∀y∈e.2.2.2.2.2.1,Pe l e.1 y
 rd2:∀y∈e.2.2.2.2.2.2,Pe l e.1 y
 va:VA w sy ce fu e.1 e.2.1 e.2.2.1 e.2.2.2.1
def thP:Nat->Y d?
 |0=>[]
 |n+1=>(1,0,af)::aC n (0,0,af)
def So (w:WT):SY:=(aC (l! w.2.1) (-1,[]),-1,aC (l! w.2.2.2.1) af,thP (l! w.2.2.2.2.1))
def ce0 (w:WT):η:=w.1.map λc=>c.2.2.2.2
def fu0 (w:WT):η:=aC (l! w.2.2.2.1) 0
inductive Acw (w:WT):List ET->SY->η->η->Prop
 |nil:Acw w [] (So w) (ce0 w) (fu0 w)
 |snoc {l:List ET} {sy:SY} {ce fu:η} {e:ET} (h:Acw w l sy ce fu) (hs:SCx w l sy ce fu e):Acw w (l++[e]) (pV w sy e.1 e.2.1 e.2.2.1 e.2.2.2.1).1 (ceP ce e) (fuP fu e)
def ahb (i:Nat):thP (i+2)=thP (i+1)++[(0,0,af)]:=by
 show (1,0,af)::aC (i+1) (0,0,af)=(1,0,af)::aC i (0,0,af)++[(0,0,af)]
 rw[wT,gP]
def LB:∀n,l! (thP n)=n
 |0=>rfl
 |n+1=>by simp[thP]
def O7 (w:WT) (h:VL w):s7 w=Z (So w):=by
 let⟨w1,A,w3,L,w5,w6⟩:=w;let⟨h1,h2,h3,h4,_,h5,h6⟩:=h;dsimp only at*
 refine cX ?_;unfold s7 bf bA bH cF eR dT ic bq bU bT aZ c5 aH cS;refine cA (l! A) (λi x=>x.1=(i:Int)/\x.2.1=(w1,A,w3,L,w5,w6)/\x.2.2.2=(-1,aC i (-1,[]))) ?_ ?_ ⟨rfl,rfl,rfl⟩
 .rintro i ⟨a,b,c,d,e⟩ hi ⟨D,e2,z⟩;obtain⟨rfl,rfl⟩:=z;subst D e2;with_reducible repeat' first|apply OS.ok;constructor|refine IM.mk λ_=>?_
  all_goals try simp[aB,t8] at*
  all_goals first|omega|(simp;omega)|skip
  exact⟨iG,by rw[wT]⟩
 rintro⟨a,b,c,d,e⟩ ⟨D,e2,z⟩;obtain⟨rfl,rfl⟩:=z;subst e2;refine bN (λg4=>(by grind)) λ_=>?_
 refine ay (P:=λs=>s=So (w1,A,w3,L,w5,w6)) ?_ λy hy=>ak hy
 refine cA (l! L) (λi x=>x.1=(i:Int)/\x.2.1=(w1,A,w3,L,w5,w6)/\x.2.2.2=(-1,aC (l! A) (-1,[]),aC i af)) ?_ ?_ ⟨rfl,rfl,rfl⟩
 .rintro i ⟨a,b,c,d,e',f⟩ hi ⟨D,e2,z⟩;obtain⟨rfl,rfl,rfl⟩:=z;subst D e2;with_reducible repeat' first|apply OS.ok;constructor|refine IM.mk λ_=>?_
  all_goals try simp[aB,t8] at*
  all_goals first|omega|(simp;omega)|skip
  exact⟨iG,by rw[wT]⟩
 rintro⟨a,b,c,d,e',f⟩ ⟨D,e2,z⟩;obtain⟨rfl,rfl,rfl⟩:=z;subst e2;refine bN (λg4=>(by grind)) λ_=>?_
 refine ay (P:=λs=>s=So (w1,A,w3,L,w5,w6)) ?_ λy hy=>ak hy
 refine cA (l! w5) (λi x=>x.1=(i:Int)/\x.2.1=(w1,A,w3,L,w5,w6)/\x.2.2.2=(-1,aC (l! A) (-1,[]),aC (l! L) af,thP i)) ?_ ?_ ⟨rfl,rfl,rfl⟩
 .rintro i ⟨a,b,c,d,e'',f',g⟩ hi ⟨D,e2,z⟩;obtain⟨rfl,rfl,rfl,rfl⟩:=z;subst D e2;have hl:=LB i;refine bN (λ_=>?_) λg4=>(by grind)
  refine ie (aL (λh0=>ak ?_) λh0=>ak ?_)
  .have h0:((i:Nat):Int)=0:=h0;have h0:i=0:=by omega
   subst h0;exact bO (by grind) (by omega) (ak ⟨rfl,rfl,rfl⟩)
  .have h0:¬((i:Nat):Int)=0:=h0;obtain⟨j,rfl⟩:∃j,i=j+1:=⟨i-1,by omega⟩
   refine bO (by grind) (by omega) (ak ⟨iG,rfl,?_⟩);rw[ahb]
 rintro⟨a,b,c,d,e'',f',g⟩ ⟨D,e2,z⟩;obtain⟨rfl,rfl,rfl,rfl⟩:=z;refine bN (λg4=>(by grind)) λ_=>ak rfl
def YH {w:WT} (h:VL w):SB 0 (So w):=by
 let⟨h1,h2,h3,L,_,D,A⟩:=h;refine ⟨by omega,by simp[So];omega,λl z=>?_,by simp[So];omega,by simp[So,LB];omega⟩;rw[Ak z];simp
def O6 (w:WT) (h:VL w):oE w=Z (So w,ce0 w,fu0 w,aC (l! w.2.2.2.2.1) 0):=by
 have hs:=O7 w h;let⟨z,w2,w3,D,A,w6⟩:=w;let⟨h1,h2,h3,h4,_,h5,h6⟩:=h;refine cX ?_;unfold oE bf bA bH c_ dT bU bT bZ aZ c5 aH cS;refine be hs ?_;with_reducible repeat' first|apply OS.ok;constructor|refine IM.mk λ_=>?_
 all_goals try simp[aB,t8] at*
 all_goals first|omega|skip
 refine cA (l! z) (λi x=>x.1=(i:Int)/\x.2.1=(z,w2,w3,D,A,w6)/\x.2.2.2=(So (z,w2,w3,D,A,w6),(z.take i).map (λc=>c.2.2.2.2),aC (l! D) 0,aC (l! A) 0)) ?_ ?_ ⟨rfl,rfl,rfl⟩
 .rintro i ⟨a,b,c,d,e,f,g⟩ hi ⟨e1,e2,L⟩;obtain⟨rfl,rfl,rfl,rfl⟩:=L;subst e1 e2;with_reducible repeat' first|apply OS.ok;constructor|refine IM.mk λ_=>?_
  all_goals try simp only[aB,t8] at*
  all_goals first|omega|(simp;omega)|skip
  exact⟨iG,by rw[pi (T:=l7) hi,cD];rfl⟩
 rintro⟨a,b,c,d,e,f,g⟩ ⟨e1,e2,L⟩;obtain⟨rfl,rfl,rfl,rfl⟩:=L;refine bN (λg4=>(by grind)) λ_=>ak ?_
 rw[cM];rfl
def aam (w:WT) (h:VL w):Ok (oE w) λs=>NB 0 s/\l! s.2.1=l! w.1/\l! s.2.2.1=l! w.2.2.2.1/\l! s.2.2.2=l! w.2.2.2.2.1:=
 awm (O6 w h) ⟨⟨YH h,by have:=h.c;simp[ce0];omega,by have:=h.f;simp[fu0];omega,by have:=h.t;simp;omega⟩,by simp[ce0],by simp[fu0],by simp⟩
def Vi (l:Y ET) (i t:Int) (z:η) (hl:l! l<=1000000000) (hi:0<=i/\i<=l! l) (hn:l! z<=1000000000):Ok (s5 (l,i,t,z)) λb=>b=J->∀y∈z,Pe (l.take i.toNat) t y:=by
 unfold s5 bf c_ bq bU jP bZ aZ c5 aH cS;refine cA (l! z) (λk x=>x=(k:Int)/\∀j:Nat,j<k->Pe (l.take i.toNat) t (geti aM z (j:Int))) ?_ ?_ ⟨rfl,λj hj=>(by omega)⟩
 .rintro k x hk ⟨rfl,hx⟩;refine bN (λg4=>?_) λg4=>(by grind)
  refine rH (λx=>(i-x.2.2).toNat) (λx=>0<=x.2.2/\x.2.2<=i/\x.1=(l! (fl (l.take x.2.2.toNat) t):Int)/\(x.2.1=J->Pe (l.take x.2.2.toNat) t (geti aM z (k:Int)))) ?_ ⟨by simp,hi.1,by simp[fl],nofun⟩;rintro⟨a,b,(c:Int)⟩ ⟨L,c1,ha,D⟩;dsimp only at L c1 ha D;subst ha;obtain⟨c,rfl⟩:∃n:Nat,c=(n:Int):=⟨c.toNat,by omega⟩
  rw[bi]at D;dsimp only;rw[bi];have hfl:=Wr (l.take c) t;have htl:=yA c l;refine bN (λg5=>?_) λg5=>?_
  .have g5:(c:Int)<i:=g5;have htk:l.take (c+1)=l.take c++[geti j7 l (c:Int)]:=pi (T:=j7) (by omega);refine aY (λy=>y.1=(l! (fl (l.take (c+1)) t):Int)/\(y.2=J->Pe (l.take (c+1)) t (geti aM z (k:Int)))) ?_ ?_
   .rw[htk,wI];refine aO L (by omega) (aS ?_);refine ca (λhne=>ak ⟨by rw[zG hne];simp,λh=>(D h).app _⟩) λhe=>?_
    have he:(geti j7 l (c:Int)).1=t:=he;refine aY (λy=>y=J->Pe (l.take c++[geti j7 l (c:Int)]) t (geti aM z (k:Int))) ?_ λy hy=>ak ⟨?_,hy⟩
    .refine aP (λh=>ak λ_=>(D h).app _) λ_=>?_
     refine cE (aS ?_);refine aL (λhn=>?_) λ_=>ak nofun
     have A:rdE (geti j7 l (c:Int))=J->Pe (l.take c++[geti j7 l (c:Int)]) t (geti aM z (k:Int)):=λh=>by
      rw[<- he]at hn ⊢;exact Pe.last h hn.symm
     refine aO L (by omega) (aS ?_);refine aL (λh=>ak λ_=>A (by unfold rdE;rw[aU h];rfl)) λ_=>?_
     exact aO L (by first|omega|(dsimp only;omega)) (aS (ak λh=>A (by unfold rdE;rw[h];simp)))
    .dsimp only;rw[CA he,iG];simp
   .rintro⟨p,q⟩ ⟨hp,A⟩;refine ak ?_;dsimp only at hp A ⊢;rw[iG,bi]
    grind
  .refine ay (P:=λr=>match r with|.inl y=>y=((k+1:Nat):Int)/\∀j:Nat,j<k+1->Pe (l.take i.toNat) t (geti aM z (j:Int))|.inr r=>r=J->∀y∈z,Pe (l.take i.toNat) t y) ?_ λr hr=>ak ?_
   .refine eQ (λ_=>ak nofun) λh=>ak ⟨iG,λj hj=>?_⟩
    grind
   .grind
 .rintro x ⟨rfl,hx⟩;refine bN (λg4=>(by grind)) λ_=>ak λ_=>iX (T:=aM) hx
def CN (l:Y ET) (c:η):Prop:=∀t:Int,0<=t->t<l! c->geti aM c t=(l! (fl l t):Int)
def jX {T:Ty} (xs:Y T.den) (j k:Int) (x:T.den) (D:0<=j) (z:j<l! xs) (A:0<=k):geti _ (cg xs j x) k=if k=j then x else geti _ xs k:=by
 unfold geti cg
 grind
variable {A:η}
def CN.next (h:CN k A) (e:ET) (h0:0<=e.1) (h1:e.1<l! A) (hl:l! k<1000000):CN (k++[e]) (cg A e.1 (bm .i64 (geti aM A e.1+1))):=λt D c=>by
 rw[bS]at c;have:=Wr k e.1;rw[jX (T:=aM) _ _ _ _ h0 h1 D,wI];split
 next z=>subst z;rw[CA rfl,h _ h0 h1,iG];simp
 next z=>rw[zG λL=>z L.symm,h _ D c];simp
def CN.bd (h:CN k A) (t:Int):(geti aM A t:Int)<=l! k:=by
 have key:∀z:Int,geti aM A t=z->z<=l! k:=by
  intro z e;rcases cC t.toNat (l! A) with g|g
  .have h1:=h (t.toNat:Int) (by omega) (by omega);have D:=Wr k ((t.toNat:Nat):Int);have c:geti aM A t=geti aM A ((t.toNat:Nat):Int):=by unfold geti;rw[bi]
   grind
  .have:z=0:=by
    rw[<- e];unfold geti;rw[aw,c7 g];rfl
   omega
 exact key _ rfl
structure R2 (w:WT) (e:ET):Prop where
 nm:NM w e.2.1 e.2.2.1
 t0:0<=e.1
 t1:e.1<l! w.2.2.2.2.1
 cd:∀c∈w.2.2.1,0<=c.2/\c.2<l! w.2.1
def am6 (w:WT) (l:Y ET):Ok (v7 (w,l)) λy=>y.2=0->(VL w/\SV0 w)/\(∀e∈l,R2 w e)/\∃sy ce fu,Acw w l sy ce fu:=by
 unfold v7 cF c_ ic bU bZ aZ c5 aH cS;refine bN (λ_=>ak nofun) λhl=>?_
 dsimp only[aB]at hl;refine ay (EA w) λb hb=>?_
 refine eQ (λ_=>ak nofun) λh=>?_
 let⟨L,hsv⟩:=hb h;refine be (O6 w L) ?_;have hs:NB 0 (So w,ce0 w,fu0 w,aC (l! w.2.2.2.2.1) 0):=⟨YH L,by have:=L.c;simp[ce0];omega,by have:=L.f;simp[fu0];omega,by have:=L.t;simp;omega⟩
 have hw:l! w.2.2.1<=1000:=by have:=L.d;omega
 refine cA (l! l) (λi x=>x.1=(i:Int)/\x.2.1=(w,l)/\NB i x.2.2/\(∀k:Nat,k<i->R2 w (geti j7 l (k:Int)))/\Acw w (l.take i) x.2.2.1 x.2.2.2.1 x.2.2.2.2.1/\CN (l.take i) x.2.2.2.2.2/\l! x.2.2.2.2.2=l! w.2.2.2.2.1) ?_ ?_ ⟨rfl,rfl,hs,λk hk=>(by omega),.nil,λt t0 t1=>?_,by simp⟩
 .rintro i ⟨a,b,s⟩ hi ⟨e1,e2,e3,e4,e5,e6,e7⟩;dsimp only at e1 e2 e3 e4 e5 e6 e7;subst e1 e2;refine bN (λg4=>?_) λg4=>(by grind)
  refine cE (aS ?_);have hmem:=bM (T:=j7) (xs:=l) (j:=(i:Int)) (by omega) (by omega);have hbd:=e6.bd (geti j7 l (i:Int)).1;have htl:=yA i l;have hbd:(geti aM s.2.2.2 (geti j7 l (i:Int)).1:Int)<=1000000:=by grind
  refine ay (Jd w s e3 hw _ (.inr (xo hbd (by decide))) (.inr (xo hbd (by decide)))) λy hy=>?_
  have d1:y.2=J->(geti j7 l (i:Int)).2.2.2.2.2.1.length<=1000000000:=λh=>by
   have h3:((geti j7 l (i:Int)).2.2.2.2.2.1.length:Int)<=max (0:Int) (geti aM s.2.2.2 (geti j7 l (i:Int)).1):=(hy.1 h).2.2.1.nd.len
   grind
  have d2:y.2=J->(geti j7 l (i:Int)).2.2.2.2.2.2.length<=1000000000:=λh=>by
   have h3:((geti j7 l (i:Int)).2.2.2.2.2.2.length:Int)<=max (0:Int) (geti aM s.2.2.2 (geti j7 l (i:Int)).1):=(hy.1 h).2.2.1.nf.len
   grind
  refine aY (λx=>x.2.1=(w,l)/\x.2.2.2=y.1/\(x.1=af->y.2=J/\(∀z∈(geti j7 l (i:Int)).2.2.2.2.2.1,Pe (l.take i) (geti j7 l (i:Int)).1 z)/\∀z∈(geti j7 l (i:Int)).2.2.2.2.2.2,Pe (l.take i) (geti j7 l (i:Int)).1 z)) ?_ ?_
  .refine eQ (λ_=>ak ⟨rfl,rfl,nofun⟩) λh=>?_
   refine ay (Vi l _ _ _ (by omega) ⟨by dsimp only;omega,by dsimp only;omega⟩ (d1 h)) λb1 hr1=>?_
   refine eQ (λ_=>ak ⟨rfl,rfl,nofun⟩) λhb1=>?_
   refine ay (Vi l _ _ _ (by omega) ⟨by dsimp only;omega,by dsimp only;omega⟩ (d2 h)) λb2 hr2=>ak ⟨rfl,rfl,λhb2=>⟨h,hr1 hb1,hr2 (by simpa using hb2)⟩⟩
  .rintro⟨c,p,q,r⟩ ⟨f1,f2,f3⟩;dsimp only at f1 f2 f3;subst f1 f2;refine aP (λ_=>ak nofun) λh=>?_
   let⟨f4,r1,r2⟩:=f3 h;let⟨A,g2,D,g4⟩:=hy.1 f4;refine ak ?_;dsimp only;have htk:l.take (i+1)=l.take i++[geti j7 l (i:Int)]:=pi (T:=j7) hi;have hc:=e6 _ A.t0 (by rw[e7];exact A.t1);have hnx:=eO Prod.fst g4;have hac:=e5.snoc (e:=geti j7 l (i:Int)) ⟨A,D.rd,D.s1,D.s2,D.de,D.fr,by rw[<- hc];exact D.nd,by rw[<- hc];exact D.nf,r1,r2,D.va⟩;refine ⟨iG,rfl,g2.NB e3 (by omega),λk hk=>?_,by rw[htk,g4];exact hac,by rw[htk,g4];exact e6.next _ A.t0 (by rw[e7];exact A.t1) (by omega),by rw[g4];unfold nxP;rw[bS];exact e7⟩;rcases cC k i with h1|h1
   .exact e4 k h1
   .rw[show k=i by omega];exact⟨A.nm,A.t0,A.t1,A.cd⟩
 .rintro⟨a,b,s⟩ ⟨e1,e2,e3,e4,e5,_⟩;dsimp only at e1 e2 e3 e4 e5;subst e1 e2;rw[cM]at e5;refine bN (λg4=>(by grind)) λ_=>ak λ_=>⟨⟨L,hsv⟩,iX (T:=j7) e4,_,_,_,e5⟩
 .rw[cP]at t1;obtain⟨t,rfl⟩:∃n:Nat,t=(n:Int):=⟨t.toNat,by omega⟩
  rw[Fj,aw,dk];split<;>simp[fl]
abbrev Kd0:Ty:=(.st (.pr xd (.pr xd (.pr xd (.pr xd (.pr xd (.pr xd (.pr (.sl aM) (.pr xd (.sl aM))))))))))
abbrev Kd1:Ty:=(.st (.pr .bool .bool))
abbrev A!:=(Y η)×(Y η)×(Y η)×(Y η)×(Y η)×(Y η)×(η)×(Y η)×η
abbrev Yd0:=A!
abbrev g!:=(Y η)×(Y η)×(Y η)×(Y η)×(Y η)×(Y η)×(Y η)×(η)×η
abbrev Yd1:=(η×g!)
abbrev Yd2:=(Int×E!)
abbrev Yd3:=(ν×c!)
abbrev Yd4:=(fA×c!)
abbrev ym:=(Y ν)
abbrev Yd6:=(Int×j!)
variable {R:Type}
def Q1 {α:Type} [DecidableEq α] (a b:α) (r:M R):M R:=if a=b then r else U
def U5 {α:Type} [DecidableEq α] (a b:α) (r:M R):Q1 a b r=same a b r:=by unfold Q1 same;by_cases h:a=b<;>simp[h]
def U4 {α:Type} [DecidableEq α] {a b:α} (h:a=b) (r:M R):Q1 a b r=r:=by unfold Q1;rw[aD h]
def jW (x:o!):M (Int):=
 (jn (bU x.2 0 (aH J) (aH (db (aZ x.1) x.2))) λz=>(aI z (Z 0) (mK x.2 x.1 (Z (geti aM x.1 x.2)))))
def xI (it:BO) (x:v!):M η:=
 (bT (db 0 (jR (aZ x.1) (aZ x.2))&&db (jR (aZ x.1) (aZ x.2)) (jR (aZ x.1) (aZ x.2))&&bc (aN (jR (aZ x.1) (aZ x.2))) 8) (it k! _ (λz=>(bU z.1 (aQ (aj (aC (aN (jR (aZ x.1) (aZ x.2))) (0:Int)))) (aA (jW (x.1,z.1)) λD=>(aA (jW (x.2,z.1)) λA=>(ck (dL z.1 (aj z.2)) (c5 ((cS z.1),(cg z.2 z.1 (jR D A))))))) (aH z.2))) (0,(aC (aN (jR (aZ x.1) (aZ x.2))) (0:Int)))))
def Ch (x:v!):M η:=xI @iter x
def jG (x:v!):M η:=xI @gf x
def Az (x:o!):M (Int):=
 (jn (bU x.2 0 (aH J) (aH (db (aZ x.1) x.2))) λz=>(aI z (Z 0) (mK x.2 x.1 (Z (geti aM x.1 x.2)))))
def S0 (x:η):M η:=
 (aI (ax (aj x) 0) (zW (Z ([]:η)) (bT (bc (aj ([]:η)+aj x) 8) (Z (([]:η)++x)))) (bT (bc (aj ([]:η)+aj x) 8) (Z (([]:η)++x))))
def Fb (x:η):M η:=chk (bc (aj x) 8) λ_=>Z x
abbrev W?:=Int×Y η
def AT (it:BO) (x:Y η):M (Y η):=
 (bT (db 0 (aZ x)&&db (aZ x) (aZ x)&&bc (aN (aZ x)) 24) (it W? _ (λz=>(bU z.1 (aZ x) (mK z.1 x (aA (Fb (geti ((.sl aM)) x z.1)) λA=>(ck (dL z.1 (aj z.2)) (c5 ((cS z.1),(cg z.2 z.1 A)))))) (aH z.2))) (0,(aC (aN (aZ x)) ([]:η)))))
def E4 (x:Y η):M (Y η):=AT @iter x
def iU (x:Y η):M (Y η):=AT @gf x
def MJ (x:η):M η:=
 (aI (ax (aj x) 0) (zW (Z ([]:η)) (bT (bc (aj ([]:η)+aj x) 8) (Z (([]:η)++x)))) (bT (bc (aj ([]:η)+aj x) 8) (Z (([]:η)++x))))
def qu (x:η):M η:=chk (bc (aj x) 8) λ_=>Z x
abbrev i?:=(Y η)×(Y η)×(Y η)×(Y η)×(Y η)×(Y η)×(Y η)×η
def wv (x:A!):M (η×i?):=
 (aA (iU x.1) λy1=>(aA (iU x.2.1) λy2=>(aA (iU x.a) λy3=>(aA (iU x.b) λy4=>(aA (iU x.c) λy5=>(aA (iU x.d) λL=>(aA (qu x.f) λD=>(aA (iU x.i) λA=>(aA (qu x.r) λz=>(Z (D,y1,y2,y3,y4,y5,L,A,z)))))))))))
def vJ (x:W?):M (η×Y η):=
 (jn (bU x.1 0 (aH (J,x.2)) (aH ((db (aZ x.2) x.1),x.2))) λz=>(aI z.1 (Z (([]:η),z.2)) (ck (dL x.1 (aj z.2)) (Z ((geti ((.sl aM)) z.2 x.1),z.2)))))
def ww (x:iH×(η)×fA×i?):M ((Y η)×iH×(η)×fA×i?):=
 (bq x.1.2.1 1 (ck (dL x.1.1 (aj x.c)) (Z ([(geti ((.sl aM)) x.c x.1.1)],(x.1.1,x.1.2.1,x.1.a,x.1.b,x.1.c,x.1.d,x.1.n),x.2.1,(x.a.1,x.a.2.1,x.a.a,x.a.b,x.a.c,x.a.h),x.b,x.c,x.d,x.f,x.i,x.j,x.m,x.y))) (bq x.1.2.1 21 (ck (dL x.1.a (aj x.b)) (Z ([(geti ((.sl aM)) x.b x.1.a)],(x.1.1,x.1.2.1,x.1.a,x.1.b,x.1.c,x.1.d,x.1.n),x.2.1,(x.a.1,x.a.2.1,x.a.a,x.a.b,x.a.c,x.a.h),x.b,x.c,x.d,x.f,x.i,x.j,x.m,x.y))) (jn (bq x.1.2.1 6 (aH ((decide ((x.1.2.1:Int)=6)),(x.1.1,x.1.2.1,x.1.a,x.1.b,x.1.c,x.1.d,x.1.n),x.2.1,(x.a.1,x.a.2.1,x.a.a,x.a.b,x.a.c,x.a.h),x.b,x.c,x.d,x.f,x.i,x.j,x.m,x.y)) (aH ((decide ((x.1.2.1:Int)=10)),(x.1.1,x.1.2.1,x.1.a,x.1.b,x.1.c,x.1.d,x.1.n),x.2.1,(x.a.1,x.a.2.1,x.a.a,x.a.b,x.a.c,x.a.h),x.b,x.c,x.d,x.f,x.i,x.j,x.m,x.y))) λz=>(aI z.1 (ck (dL z.2.1.a (aj z.f)) (ck (dL z.2.1.a (aj z.i)) (Z ([(geti ((.sl aM)) z.f z.2.1.a),(geti ((.sl aM)) z.i z.2.1.a)],(z.2.1.1,z.2.1.2.1,z.2.1.a,z.2.1.b,z.2.1.c,z.2.1.d,z.2.1.n),z.a,(z.b.1,z.b.2.1,z.b.a,z.b.b,z.b.c,z.b.h),z.c,z.d,z.f,z.i,z.j,z.m,z.k,z.v)))) (bq x.1.2.1 8 (ck (dL z.2.1.a (aj z.f)) (Z ([(geti ((.sl aM)) z.f z.2.1.a)],(z.2.1.1,z.2.1.2.1,z.2.1.a,z.2.1.b,z.2.1.c,z.2.1.d,z.2.1.n),z.a,(z.b.1,z.b.2.1,z.b.a,z.b.b,z.b.c,z.b.h),z.c,z.d,z.f,z.i,z.j,z.m,z.k,z.v))) (bq x.1.2.1 17 (mK z.2.1.a z.b.a (aA (vJ ((geti itK z.b.a z.2.1.a).2,z.f)) λD=>(bT (ax (aj z.f) (aj D.2)&&J) (aA (vJ ((geti itK z.b.a z.2.1.a).2,z.i)) λA=>(bT (ax (aj z.i) (aj A.2)&&J) (ck (dL z.2.1.1 (aj z.k)) (Z ([D.1,A.1,(geti ((.sl aM)) z.k z.2.1.1)],(z.2.1.1,z.2.1.2.1,z.2.1.a,z.2.1.b,z.2.1.c,z.2.1.d,z.2.1.n),z.a,(z.b.1,z.b.2.1,z.b.a,z.b.b,z.b.c,z.b.h),z.c,z.d,D.2,A.2,z.j,z.m,z.k,z.v)))))))) (bq x.1.2.1 3 (ck (dL z.2.1.a (aj z.j)) (Z ([(geti ((.sl aM)) z.j z.2.1.a)],(z.2.1.1,z.2.1.2.1,z.2.1.a,z.2.1.b,z.2.1.c,z.2.1.d,z.2.1.n),z.a,(z.b.1,z.b.2.1,z.b.a,z.b.b,z.b.c,z.b.h),z.c,z.d,z.f,z.i,z.j,z.m,z.k,z.v))) (bq x.1.2.1 23 (ck (dL z.2.1.a (aj z.m)) (Z ([(geti ((.sl aM)) z.m z.2.1.a)],(z.2.1.1,z.2.1.2.1,z.2.1.a,z.2.1.b,z.2.1.c,z.2.1.d,z.2.1.n),z.a,(z.b.1,z.b.2.1,z.b.a,z.b.b,z.b.c,z.b.h),z.c,z.d,z.f,z.i,z.j,z.m,z.k,z.v))) (bq x.1.2.1 12 (Z ([z.a],(z.2.1.1,z.2.1.2.1,z.2.1.a,z.2.1.b,z.2.1.c,z.2.1.d,z.2.1.n),z.a,(z.b.1,z.b.2.1,z.b.a,z.b.b,z.b.c,z.b.h),z.c,z.d,z.f,z.i,z.j,z.m,z.k,z.v)) (Z (([]:Y η),(z.2.1.1,z.2.1.2.1,z.2.1.a,z.2.1.b,z.2.1.c,z.2.1.d,z.2.1.n),z.a,(z.b.1,z.b.2.1,z.b.a,z.b.b,z.b.c,z.b.h),z.c,z.d,z.f,z.i,z.j,z.m,z.k,z.v)))))))))))
def Do (it:BO) (x:b?):M Yd0:=
 (ck (db 0 (aZ x.c)&&db (aZ x.c) (aZ x.c)&&bc (aN (aZ x.c)) 24) (ck (db 0 (aZ x.2.1)&&db (aZ x.2.1) (aZ x.2.1)&&bc (aN (aZ x.2.1)) 24) (bT (db 0 (aZ x.1)&&db (aZ x.1) (aZ x.1)&&bc (aN (aZ x.1)) 24) (bT (db 0 (aZ x.b)&&db (aZ x.b) (aZ x.b)&&bc (aN (aZ x.b)) 24) (bT (db 0 (aZ x.c)&&db (aZ x.c) (aZ x.c)&&bc (aN (aZ x.c)) 24) (bT (db 0 (aZ x.c)&&db (aZ x.c) (aZ x.c)&&bc (aN (aZ x.c)) 8) (it (Int×i?) _ (λz=>(bU z.1 (aQ (aj (aC (aN (aZ x.c)) (0:Int)))) (ck (dL z.1 (aj z.r)) (c5 ((cS z.1),z.2.1,z.a,z.b,z.c,z.d,z.f,z.i,(cg z.r z.1 (-1))))) (aH (z.2.1,z.a,z.b,z.c,z.d,z.f,([]:η),z.i,z.r)))) (0,(aC (aN (aZ x.c)) ([]:η)),(aC (aN (aZ x.c)) ([]:η)),(aC (aN (aZ x.2.1)) ([]:η)),(aC (aN (aZ x.2.1)) ([]:η)),(aC (aN (aZ x.1)) ([]:η)),(aC (aN (aZ x.b)) ([]:η)),(aC (aN (aZ x.c)) ([]:η)),(aC (aN (aZ x.c)) (0:Int))))))))))
def Ii (x:b?):M Yd0:=Do @iter x
def rf (x:b?):M Yd0:=Do @gf x
def rh (x:o!):M η:=
 (jn (kB 0 x.2 (aH (gD x.2 4)) (aH af)) λD=>(jn (aI D (aH (jR (aZ x.1) (cS x.2))) (aH (aZ x.1))) λz=>(bT (db 0 z&&db z z&&bc (aN z) 8) (jn (jn (aI D (ck (dL x.2 (aj (T8 (aC (aN z) (0:Int)) x.1))) (aH ((gD (geti aM (T8 (aC (aN z) (0:Int)) x.1) x.2) 9223372036854775807),(T8 (aC (aN z) (0:Int)) x.1)))) (aH (af,(T8 (aC (aN z) (0:Int)) x.1)))) λA=>(aI A.1 (ck (dL x.2 (aj A.2)) (ck (dL x.2 (aj A.2)) (aH (cg A.2 x.2 (bm .i64 ((geti aM A.2 x.2)+1)))))) (aH A.2))) λL=>(Z L)))))
def yZ (x:η):M v!:=
 (bT (bc (aj ([]:η)+aj x) 8) (Z ((([]:η)++x),x)))
def xA (x:η):M η:=aA (yZ x) λy=>Q1 y.2 x (Z y.1)
def LS (it:BO) (x:v!):M v!:=
 (bT (db 0 (jR (aZ x.1) (aZ x.2))&&db (jR (aZ x.1) (aZ x.2)) (jR (aZ x.1) (aZ x.2))&&bc (aN (jR (aZ x.1) (aZ x.2))) 8) (it (Int×J?) _ (λz=>(bU z.1 (aQ (aj (aC (aN (jR (aZ x.1) (aZ x.2))) (0:Int)))) (aA (jW (x.1,z.1)) λD=>(aA (jW (z.2.1,z.1)) λA=>(ck (dL z.1 (aj z.2.2)) (c5 ((cS z.1),z.2.1,(cg z.2.2 z.1 (jR D A))))))) (aH (z.2.2,z.2.1)))) (0,x.2,(aC (aN (jR (aZ x.1) (aZ x.2))) (0:Int)))))
def SJ (x:v!):M v!:=LS @iter x
def vw (x:v!):M v!:=LS @gf x
def Fa (x:v!):M η:=aA (vw x) λy=>Q1 y.2 x.2 (Z y.1)
def mW (x:Int×(Y η)×η):M ((Y η)×η):=
 (jn (kB 0 x.1 (aH ((gD x.1 (aZ x.2.1)),x.2.1,x.2.2)) (aH (af,x.2.1,x.2.2))) λz=>(aI z.1 (ck (dL x.1 (aj z.2.1)) (aA (Fa ((geti ((.sl aM)) z.2.1 x.1),z.2.2)) λA=>(ck (dL x.1 (aj z.2.1)) (Z ((cg z.2.1 x.1 A),z.2.2))))) (Z (z.2.1,z.2.2))))
abbrev T?:=(η)×g!
def yW (x:Int×T?):M Yd1:=
 (aA (xA x.y) λz=>(ck (dL x.1 (aj x.j)) (ck (dL x.1 (aj x.m)) (Z (x.2.1,x.a,x.b,x.c,x.d,x.f,x.i,(cg x.j x.1 z),(cg x.m x.1 (-1)),x.y)))))
def Dn (it:BO) (x:Yd4×T?):M Yd1:=
 (aA (xA x.y) λy1=>(ck (dL x.1.2.1 (aj x.a)) (jn (α:=T?) (bq x.1.a 20 (aA (xA x.y) λy3=>(ck (dL x.1.b (aj x.b)) (aH (x.2.1,(cg x.a x.1.2.1 y1),(cg x.b x.1.b y3),x.c,x.d,x.f,x.i,x.j,x.m,x.y)))) (jn (bq x.1.a 7 (aH ((decide ((x.1.a:Int)=7)),x.2.1,(cg x.a x.1.2.1 y1),x.b,x.c,x.d,x.f,x.i,x.j,x.m,x.y,(x.1.1.1,x.1.1.2.1,x.1.1.a,x.1.1.b,x.1.1.c,x.1.1.h),x.1.2.1,x.1.a,x.1.b,x.1.c,x.1.d,x.1.f,x.1.p)) (aH ((decide ((x.1.a:Int)=11)),x.2.1,(cg x.a x.1.2.1 y1),x.b,x.c,x.d,x.f,x.i,x.j,x.m,x.y,(x.1.1.1,x.1.1.2.1,x.1.1.a,x.1.1.b,x.1.1.c,x.1.1.h),x.1.2.1,x.1.a,x.1.b,x.1.c,x.1.d,x.1.f,x.1.p))) λz=>(aI z.1 (aA (mW (z.s,z.c,z.k)) λy5=>(bT (ax (aj z.k) (aj y5.2)&&(ax (aj z.c) (aj y5.1)&&J)) (aH (z.2.1,z.a,z.b,y5.1,z.d,z.f,z.i,z.j,z.m,y5.2)))) (bq x.1.a 9 (aA (mW (z.s,z.d,z.k)) λy6=>(bT (ax (aj z.k) (aj y6.2)&&(ax (aj z.d) (aj y6.1)&&J)) (aH (z.2.1,z.a,z.b,z.c,y6.1,z.f,z.i,z.j,z.m,y6.2)))) (bq x.1.a 16 (ck (dL z.l (aj z.m)) (mK z.s z.o.a (aA (mW ((geti itK z.o.a z.s).2,z.c,z.k)) λy7=>(bT (ax (aj z.k) (aj y7.2)&&(ax (aj z.c) (aj y7.1)&&J)) (aH (z.2.1,z.a,z.b,y7.1,z.d,z.f,z.i,z.j,(cg z.m z.l z.s),y7.2)))))) (bq x.1.a 4 (mK z.s z.o.1 (aI (((((geti l7 z.o.1 z.s).2).2).2).1) (aA (mW (z.s,z.f,z.k)) λy8=>(bT (ax (aj z.k) (aj y8.2)&&(ax (aj z.f) (aj y8.1)&&J)) (aH (z.2.1,z.a,z.b,z.c,z.d,y8.1,z.i,z.j,z.m,y8.2)))) (aH (z.2.1,z.a,z.b,z.c,z.d,z.f,z.i,z.j,z.m,z.k)))) (bq x.1.a 22 (aA (mW (z.s,z.i,z.k)) λy9=>(bT (ax (aj z.k) (aj y9.2)&&(ax (aj z.i) (aj y9.1)&&J)) (aH (z.2.1,z.a,z.b,z.c,z.d,z.f,y9.1,z.j,z.m,y9.2)))) (bq x.1.a 13 (aA (Fa (z.2.1,z.k)) λy10=>(aH (y10,z.a,z.b,z.c,z.d,z.f,z.i,z.j,z.m,z.k))) (bq x.1.a 18 (jn (kB 0 z.u (aH ((gD z.u (aZ z.j)),z.2.1,z.a,z.b,z.c,z.d,z.f,z.i,z.j,z.m,z.k,z.l,z.q,z.s,z.u,z.B,z.D,z.G)) (aH (af,z.2.1,z.a,z.b,z.c,z.d,z.f,z.i,z.j,z.m,z.k,z.l,z.q,z.s,z.u,z.B,z.D,z.G))) λD=>(aI D.1 (aA (yW (D.s,D.2.1,D.a,D.b,D.c,D.d,D.f,D.i,D.j,D.m,D.k)) λy12=>(bT (ax (aj D.k) (aj y12.w)&&(ax (aj D.m) (aj y12.j)&&(ax (aj D.j) (aj y12.i)&&(ax (aj D.i) (aj y12.f)&&(ax (aj D.f) (aj y12.d)&&(ax (aj D.d) (aj y12.c)&&(ax (aj D.c) (aj y12.b)&&(ax (aj D.b) (aj y12.a)&&(ax (aj D.a) (aj y12.2.1)&&J))))))))) (aH (y12.1,y12.2.1,y12.a,y12.b,y12.c,y12.d,y12.f,y12.i,y12.j,y12.w)))) (aH (D.2.1,D.a,D.b,D.c,D.d,D.f,D.i,D.j,D.m,D.k)))) (bq x.1.a 19 (it (Int×(η)×(Y η)×(Y η)×(Y η)×(Y η)×(Y η)×(Y η)×(Y η)×(η)×(η)×c!) _ (λA=>(bU A.1 (aZ z.m) (jn (ck (dL A.1 (aj A.m)) (bq (geti aM A.m A.1) A.q (aA (yW (A.1,A.2.1,A.a,A.b,A.c,A.d,A.f,A.i,A.j,A.m,A.k)) λL=>(bT (ax (aj A.k) (aj L.w)&&(ax (aj A.m) (aj L.j)&&(ax (aj A.j) (aj L.i)&&(ax (aj A.i) (aj L.f)&&(ax (aj A.f) (aj L.d)&&(ax (aj A.d) (aj L.c)&&(ax (aj A.c) (aj L.b)&&(ax (aj A.b) (aj L.a)&&(ax (aj A.a) (aj L.2.1)&&J))))))))) (aH (L.1,L.2.1,L.a,L.b,L.c,L.d,L.f,L.i,L.j,L.w,A.o,A.l,A.q,A.s,A.u,A.B,A.F)))) (aH (A.2.1,A.a,A.b,A.c,A.d,A.f,A.i,A.j,A.m,A.k,A.o,A.l,A.q,A.s,A.u,A.B,A.F)))) λx14=>(c5 ((cS A.1),x14.1,x14.2.1,x14.a,x14.b,x14.c,x14.d,x14.f,x14.i,x14.j,x14.m,x14.k,x14.o,x14.l,x14.q,x14.s,x14.u,x14.E))) (aH (b8 (A.2.1,A.a,A.b,A.c,A.d,A.f,A.i,A.j,A.m,A.k))))) (0,z.2.1,z.a,z.b,z.c,z.d,z.f,z.i,z.j,z.m,z.k,z.l,z.q,z.s,z.u,z.B,z.D,z.G)) (aH (z.2.1,z.a,z.b,z.c,z.d,z.f,z.i,z.j,z.m,z.k)))))))))))) λx2=>(Z (x2.1,x2.2.1,x2.a,x2.b,x2.c,x2.d,x2.f,x2.i,x2.j,x2.w)))))
def Ih (x:Yd4×T?):M Yd1:=Dn @iter x
def tw (x:Yd4×T?):M Yd1:=Dn @gf x
def GP (it:BO) (x:fA×Yd0×c!):M (Yd0×η):=
 (aA (wv (x.2.1.1,x.2.1.2.1,x.2.1.a,x.2.1.b,x.2.1.c,x.2.1.d,x.2.1.f,x.2.1.i,x.2.1.r)) λL=>(ck (dL x.a (aj L.2.1)) (aA (ww ((x.a,x.b,x.c,x.d,x.f,x.i,x.r),L.1,(x.1.1,x.1.2.1,x.1.a,x.1.b,x.1.c,x.1.h),L.2.1,L.a,L.b,L.c,L.d,L.f,L.i,L.r)) λA=>(bT (ax (aj L.r) (aj A.v)&&(ax (aj L.i) (aj A.k)&&(ax (aj L.f) (aj A.m)&&(ax (aj L.d) (aj A.j)&&(ax (aj L.c) (aj A.i)&&(ax (aj L.b) (aj A.f)&&(ax (aj L.a) (aj A.d)&&(ax (aj L.2.1) (aj A.c)&&J)))))))) (it (Int×fA×iH×(η)×(η)×i?) _ (λz=>(bU z.1 (aZ A.1) (mK z.1 A.1 (aA (jG (z.c,(geti ((.sl aM)) A.1 z.1))) λy4=>(c5 ((cS z.1),(z.2.1.1,z.2.1.2.1,z.2.1.a,z.2.1.b,z.2.1.c,z.2.1.h),(z.a.1,z.a.2.1,z.a.a,z.a.b,z.a.c,z.a.d,z.a.n),z.b,y4,z.d,z.f,z.i,z.j,z.m,z.k,z.o,z.z)))) (aA (aA (rh (z.c,z.a.1)) λy5=>(aA (tw (((z.2.1.1,z.2.1.2.1,z.2.1.a,z.2.1.b,z.2.1.c,z.2.1.h),z.a.1,z.a.2.1,z.a.a,z.a.b,z.a.c,z.a.d,z.a.n),z.b,z.d,z.f,z.i,z.j,z.m,z.k,z.o,z.z,y5)) λD=>(bT (ax (aj y5) (aj D.w)&&(ax (aj z.z) (aj D.j)&&(ax (aj z.o) (aj D.i)&&(ax (aj z.k) (aj D.f)&&(ax (aj z.m) (aj D.d)&&(ax (aj z.j) (aj D.c)&&(ax (aj z.i) (aj D.b)&&(ax (aj z.f) (aj D.a)&&(ax (aj z.d) (aj D.2.1)&&J))))))))) (Z ((D.2.1,D.a,D.b,D.c,D.d,D.f,D.1,D.i,D.j),D.w))))) λr=>Z (b8 r)))) (0,(A.b.1,A.b.2.1,A.b.a,A.b.b,A.b.c,A.b.h),(A.2.1.1,A.2.1.2.1,A.2.1.a,A.2.1.b,A.2.1.c,A.2.1.d,A.2.1.n),A.a,(geti ((.sl aM)) L.2.1 x.a),A.c,A.d,A.f,A.i,A.j,A.m,A.k,A.v))))))
def MC (x:fA×Yd0×c!):M (Yd0×η):=GP @iter x
def ur (x:fA×Yd0×c!):M (Yd0×η):=GP @gf x
def GM (it:BO) (x:v!):M (Bool):=
 (it (Int) _ (λz=>(bU z (jR (aZ x.1) (aZ x.2)) (aA (Az (x.1,z)) λD=>(aA (Az (x.2,z)) λA=>(bU A D (aH af) (c5 (cS z))))) (aH J))) 0)
def MB (x:v!):M (Bool):=GM @iter x
def ub (x:v!):M (Bool):=GM @gf x
def tF (it:BO) (x:ζ):M (Bool):=
 (lt (geti ((.st (.pr .str (.pr .str (.pr .str (.pr .str (.pr .str (.pr .str (.pr .str (.pr .str (.pr .str (.pr .str (.pr .str (.pr .str (.pr .str (.pr .str (.pr .str (.pr .str (.pr .str (.pr .str (.pr .str (.pr .str (.pr .str .str))))))))))))))))))))))) ([kwV]) 0) λz=>(it (Int) _ (λA=>(bU A 22 (bT (db 0 A&&gD A 22) (lt (geti (.str) [z.1,z.2.1,z.a,z.b,z.c,z.d,z.f,z.i,z.j,z.m,z.k,z.o,z.l,z.q,z.s,z.u,z.B,z.D,z.I,z.K,z.L,z.N] A) λD=>(aI (decide ((x:ζ)=D)) (aH J) (c5 (cS A))))) (aH af))) 0))
def sZ (x:ζ):M (Bool):=tF @iter x
def ml (x:ζ):M (Bool):=tF @gf x
def ye (it:BO) (x:ζ):M (Bool):=
 (jn (bU (aZ x) 1 (aH J) (bU 12 (aZ x) (aH J) (aA (ml x) λL=>(aH L)))) λx1=>(aI x1 (Z af) (it (Y (kj×Unit)) _ (λz=>(aI (ey (MV z) (aj (Pp z))) (jn (α:=Y (kj×Unit)) (jn (α:=Bool×Y (kj×Unit)) (kB 97 (rnP (Pp z) (MV z)) (kB (rnP (Pp z) (MV z)) 122 (aH (J,[(((Pp z),(aQ ((MV z)+wdP (Pp z) (MV z)))),())])) (kB 65 (rnP (Pp z) (MV z)) (aH ((db (rnP (Pp z) (MV z)) 90),[(((Pp z),(aQ ((MV z)+wdP (Pp z) (MV z)))),())])) (aH (af,[(((Pp z),(aQ ((MV z)+wdP (Pp z) (MV z)))),())])))) (kB 65 (rnP (Pp z) (MV z)) (aH ((db (rnP (Pp z) (MV z)) 90),[(((Pp z),(aQ ((MV z)+wdP (Pp z) (MV z)))),())])) (aH (af,[(((Pp z),(aQ ((MV z)+wdP (Pp z) (MV z)))),())])))) λA=>(aI A.1 (aH A.2) (jn (bU 0 (aQ (MV z)) (bq (rnP (Pp z) (MV z)) 95 (aH (J,A.2)) (kB 48 (rnP (Pp z) (MV z)) (aH ((db (rnP (Pp z) (MV z)) 57),A.2)) (aH (af,A.2)))) (aH (af,A.2))) λD=>(aI D.1 (aH D.2) (c5 (b8 af)))))) λx4=>(c5 x4)) (aH J))) ([((x,0),())]))))
def xY (x:ζ):M (Bool):=ye @iter x
def pM (x:ζ):M (Bool):=ye @gf x
def AX (it:BO) (x:o!):M (Int):=
 (it (Int) _ (λz=>(bU z (aZ x.1) (bZ aM x.1 z λA=>(bq x.2 A (aH z) (c5 (cS z)))) (aH (-1)))) 0)
def E6 (x:o!):M (Int):=AX @iter x
def tB (x:o!):M (Int):=AX @gf x
def lP (x:o!):M (Bool):=
 (aA (tB x) λz=>(Z (db 0 z)))
def kE (x:η×j?):M (Bool):=
 (aA (jW (x.1,x.2.2)) λz=>(Z (db x.2.1 z)))
def uO (x:ν):M (Bool):=
 (jn (kB 0 x.1 (aH (gD x.1 x.2)) (aH af)) λz=>(Z z))
def uP (x:fA×u!):M (Bool):=
 (jn (aA (uO (x.2.1,(aZ x.1.2.1))) λA=>(aI A (bZ tK x.1.2.1 x.2.1 λz=>(aH ((z.2==x.2.2) !=af))) (aH af))) λD=>(Z D))
def py (it:BO) (x:Y X2):M (dm×Bool):=
 (it (Int×Y ζ) _ (λD=>(bU D.1 (aZ x) (jn (α:=Int×Y ζ) (bZ l7 x D.1 λz=>(bT (bc (aj D.2+aj ([z.1])) 16) (bq z.a 0 (jP z.2.1 0 (c5 (b8 (([]:Y ζ),af))) (aH ((cS D.1),(D.2++([z.1]))))) (jn (α:=Bool×N!) (bU z.a 1 (aH (J,(D.2++([z.1])),z)) (bU 4 z.a (aH (J,(D.2++([z.1])),z)) (aI z.b (aH (J,(D.2++([z.1])),z)) (aH ((gD (bm .i64 ((aZ x)-D.1)) z.a),(D.2++([z.1])),z))))) λx4=>(aI x4.1 (c5 (b8 (([]:Y ζ),af))) (it (Int×N!) _ (λA=>(bU A.1 x4.c (bZ l7 x (bm .i64 (D.1+A.1)) λL=>(aI (UG (.pr .str (.pr aM (.pr aM (.pr .bool (.pr aM .un))))) (L.1,L.2.1,L.a,L.b,L.g,()) (A.a,A.1,A.c,A.d,A.n,()) !=J) (aH (rB (b8 (([]:Y ζ),af)))) (c5 ((cS A.1),A.2.1,A.a,A.1,A.g)))) (aH (b8 ((bm .i64 (D.1+A.c)),A.2.1))))) (0,x4.2))))))) λx2=>(c5 x2)) (aH (D.2,J)))) (0,([]:Y ζ)))
def pt (x:Y X2):M (dm×Bool):=py @iter x
def iu (x:Y X2):M (dm×Bool):=py @gf x
def px (it:BO) (x:fA×Y ζ):M (Bool):=
 (bT (bc (aj (x.2:Y ζ)) 16) (it C! _ (λA=>(bU A.1 (aZ x.1.2.1) (bZ tK x.1.2.1 A.1 λz2=>(bT (bc (aj A.2.2+aj ([z2.1])) 16) (c5 ((cS A.1),A.2.1,(A.2.2++([z2.1])))))) (aA (it C! _ (λz=>(bU z.1 (aZ A.2.1.a) (bZ itK A.2.1.a z.1 λz4=>(bT (bc (aj z.2.2+aj ([z4.1])) 16) (c5 ((cS z.1),z.2.1,(z.2.2++([z4.1])))))) (aA (bT (bc (aj z.2.2+aj z.2.1.b) 16) (bT (bc (aj (z.2.2++z.2.1.b)+aj z.2.1.c) 16) (it (Int×nk×Y ζ) _ (λD=>(bU D.1 (aQ (aj ((z.2.2++z.2.1.b)++z.2.1.c))) (kY (.str) D.2.2 D.1 λL=>(jn (aA (pM L) λy8=>(aI (!y8) (aH (J,D.2)) (aH ((Bt (K:=.str) (V:=.bool) L D.2.1 af),D.2)))) λx7=>(aI x7.1 (aH af) (c5 ((cS D.1),(AB (K:=.str) (V:=.bool) L J x7.2.1),x7.2.2))))) (aH J))) (0,([]:Y H!),((z.2.2++z.2.1.b)++z.2.1.c))))) λr=>Z (b8 r)))) (0,A.2)) λr=>Z (b8 r)))) (0,x)))
def pq (x:fA×Y ζ):M (Bool):=px @iter x
def ef (x:fA×Y ζ):M (Bool):=px @gf x
def ma (it:BO) (x:b?):M (Bool):=
 (it (π×b?) _ (λz=>(bU z.1.2.2 (aZ x.h) (bZ pW x.h z.1.2.2 λL=>(jn (bU L.1 z.1.1 (aH (J,z.2,L)) (aH ((db (aZ z.d) L.1),z.2,L))) λD=>(aI D.1 (aH af) (jn (α:=(ν)×fA×Int×j?) (bU z.1.1 D.a (aH ((D.a,0),D.2)) (aH ((z.1.1,z.1.2.1),D.2))) λA=>(jP A.b A.1.2 (aH af) (c5 ((A.1.1,(cS A.1.2),(cS z.1.2.2)),A.2.1))))))) (aH J))) ((0,0,0),x))
def po (x:b?):M (Bool):=ma @iter x
def gy (x:b?):M (Bool):=ma @gf x
def pA (it:BO) (x:b?):M (Bool):=
 (jn (bU 12 (aZ x.1) (aH (J,x)) (bU 4 (aZ x.2.1) (aH (J,x)) (bU 2 (aZ x.a) (aH (J,x)) (bU 2 (aZ x.b) (aH (J,x)) (aH ((gD 60 (aZ x.h)),x)))))) λD=>(aI D.1 (Z af) (jn (bU (aZ D.d) 1 (aH (J,D.2)) (aH ((gD 4 (aZ D.d)),D.2))) λA=>(aI A.1 (Z af) (aA (iu A.2.1) λy3=>(jn (aI (!y3.2) (aH (J,A.2)) (aA (ef (A.2,y3.1)) λy5=>(aH ((!y5),A.2)))) λL=>(aI L.1 (Z af) (it F? _ (λz=>(bU z.1 (aZ L.b) (bZ itK L.b z.1 λz7=>(aA (uP (z.2,z7.2,af)) λy8=>(aI (!y8) (aH af) (c5 ((cS z.1),z.2))))) (aA (aA (gy z.2) λy9=>(Z y9)) λr=>Z (b8 r)))) (0,L.2)))))))))
def pu (x:b?):M (Bool):=pA @iter x
def iv (x:b?):M (Bool):=pA @gf x
def yf (it:BO) (x:b?):M uH:=
 (bT (db 0 (aZ x.2.1)&&db (aZ x.2.1) (aZ x.2.1)&&bc (aN (aZ x.2.1)) 32) (bT (db 0 (aZ x.b)&&db (aZ x.b) (aZ x.b)&&bc (aN (aZ x.b)) 1) (bT (db 0 (aZ x.c)&&db (aZ x.c) (aZ x.c)&&bc (aN (aZ x.c)) 24) (it X? _ (λz=>(bU z.1 (aQ (aj (aC (aN (aZ x.2.1)) ((0,[]):k!)))) (ck (dL z.1 (aj z.b)) (c5 ((cS z.1),z.2.1,z.a,(cg z.b z.1 ((-1),(geti eJ z.b z.1).2)),z.g))) (aA (jn (α:=s?) (bU 0 (aZ z.h) (ck (dL 0 (aj z.h)) (aH (z.2.1,z.a,z.b,z.c,(cg z.h 0 (1,(geti iF z.h 0).2))))) (aH z.2)) λA=>(Z (A.a,A.2.1,A.e))) λr=>Z (b8 r)))) (0,0,(-1),(aC (aN (aZ x.2.1)) ((0,[]):k!)),(aC (aN (aZ x.b)) (af:Bool)),(aC (aN (aZ x.c)) ((0,(0,af)):d?)))))))
def x_ (x:b?):M uH:=yf @iter x
def pQ (x:b?):M uH:=yf @gf x
def r_ (it:BO) (x:b?):M ky:=
 (aA (pQ x) λD=>(bT (db 0 0&&db 0 (aZ x.1)&&bc (aN (aZ x.1)) 8) (bT (db 0 (aZ x.b)&&db (aZ x.b) (aZ x.b)&&bc (aN (aZ x.b)) 8) (bT (db 0 (aZ x.c)&&db (aZ x.c) (aZ x.c)&&bc (aN (aZ x.c)) 8) (it (Int×Int×R?) _ (λz=>(bU z.1 (aZ x.1) (bZ l7 x.1 z.1 λA=>(bT (bc (aj z.b+aj ([A.g])) 8) (c5 ((cS z.1),z.2.1,z.a,(z.b++([A.g])),z.g)))) (aH z.2.2))) (0,0,D,(aC (aN 0) (0:Int)),(aC (aN (aZ x.b)) (0:Int)),(aC (aN (aZ x.c)) (0:Int))))))))
def rJ (x:b?):M ky:=r_ @iter x
def fe (x:b?):M ky:=r_ @gf x
def fG (x:ν):M (Bool):=
 (jn (kB 0 x.1 (aH (gD x.1 x.2)) (aH af)) λz=>(Z z))
def nE (x:fA×j?):M (Bool):=
 (jn (bq x.2.1 1 (aH ((decide ((x.2.1:Int)=1)),x.1)) (bq x.2.1 2 (aH ((decide ((x.2.1:Int)=2)),x.1)) (bq x.2.1 5 (aH ((decide ((x.2.1:Int)=5)),x.1)) (bq x.2.1 12 (aH ((decide ((x.2.1:Int)=12)),x.1)) (bq x.2.1 13 (aH ((decide ((x.2.1:Int)=13)),x.1)) (bq x.2.1 14 (aH ((decide ((x.2.1:Int)=14)),x.1)) (aH ((decide ((x.2.1:Int)=15)),x.1)))))))) λx1=>(aI x1.1 (Z (decide ((x.2.2:Int)=(-1)))) (jn (bq x.2.1 3 (aH ((decide ((x.2.1:Int)=3)),x1.2)) (aH ((decide ((x.2.1:Int)=4)),x1.2))) λx2=>(aI x2.1 (aA (fG (x.2.2,(aZ x2.2.1))) λy3=>(Z y3)) (jn (bq x.2.1 6 (aH ((decide ((x.2.1:Int)=6)),x2.2)) (aH ((decide ((x.2.1:Int)=7)),x2.2))) λL=>(aI L.1 (jn (aA (fG (x.2.2,(aZ L.a))) λy6=>(aI y6 (bZ tK L.a x.2.2 λz7=>(aH (!z7.2))) (aH af))) λx5=>(Z x5)) (jn (bq x.2.1 8 (aH ((decide ((x.2.1:Int)=8)),L.2)) (bq x.2.1 9 (aH ((decide ((x.2.1:Int)=9)),L.2)) (bq x.2.1 10 (aH ((decide ((x.2.1:Int)=10)),L.2)) (aH ((decide ((x.2.1:Int)=11)),L.2))))) λD=>(aI D.1 (jn (aA (fG (x.2.2,(aZ D.a))) λy10=>(aI y10 (bZ tK D.a x.2.2 λz11=>(aH z11.2)) (aH af))) λx9=>(Z x9)) (jn (bq x.2.1 16 (aH ((decide ((x.2.1:Int)=16)),D.2)) (bq x.2.1 17 (aH ((decide ((x.2.1:Int)=17)),D.2)) (bq x.2.1 18 (aH ((decide ((x.2.1:Int)=18)),D.2)) (aH ((decide ((x.2.1:Int)=19)),D.2))))) λA=>(aI A.1 (aA (fG (x.2.2,(aZ A.b))) λy13=>(Z y13)) (jn (bq x.2.1 20 (aH ((decide ((x.2.1:Int)=20)),A.2)) (aH ((decide ((x.2.1:Int)=21)),A.2))) λz=>(aI z.1 (aA (fG (x.2.2,(aZ z.d))) λy15=>(Z y15)) (jn (bq x.2.1 22 (aH ((decide ((x.2.1:Int)=22)),z.2)) (aH ((decide ((x.2.1:Int)=23)),z.2))) λx16=>(aI x16.1 (aA (fG (x.2.2,(aZ x16.c))) λy17=>(Z y17)) (Z af)))))))))))))))
def vz (it:BO) (x:fA×x!):M (Bool):=
 (jn (jP (aZ x.2.1) (aZ x.1.2.1) (aH (J,x.1)) (jP (aZ x.b) (aZ x.1.b) (aH (J,x.1)) (aH ((!decide (((aZ x.g):Int)=(aZ x.1.c))),x.1)))) λA=>(aI A.1 (Z af) (it F? _ (λz=>(bU z.1 (aZ A.b) (bZ itK A.b z.1 λD=>(aA (fG (D.2,(aZ z.a))) λL=>(aI (!L) (aH af) (c5 ((cS z.1),z.2))))) (aH J))) (0,A.2))))
def Ax (x:fA×x!):M (Bool):=vz @iter x
def lJ (x:fA×x!):M (Bool):=vz @gf x
def pP (x:P?):M (Bool):=
 (bq x.b 6 (bZ eJ x.2.1.1 x.g λz1=>(Z (decide ((z1.1:Int)=(-1))))) (bq x.b 10 (jn (α:=Bool) (bZ eJ x.2.1.1 x.g λz3=>(bq z3.1 (-1) (bZ eJ x.2.1.1 x.g λz4=>(aH (decide (((aZ z4.2):Int)=0)))) (aH af))) λx2=>(Z x2)) (bq x.b 8 (jn (α:=Bool) (bZ eJ x.2.1.1 x.g λz6=>(bq z6.1 (-1) (bZ eJ x.2.1.1 x.g λz7=>(aA (lP (z7.2,x.a)) λy8=>(aH (!y8)))) (aH af))) λx5=>(Z x5)) (jn (bq x.b 7 (aH ((decide ((x.b:Int)=7)),x.1,x.2.1)) (aH ((decide ((x.b:Int)=11)),x.1,x.2.1))) λA=>(aI A.1 (bZ eJ A.a x.g λz10=>(Z (decide ((z10.1:Int)=x.a)))) (bq x.b 9 (bZ eJ A.a x.g λz11=>(aA (lP (z11.2,x.a)) λy12=>(Z y12))) (bq x.b 12 (Z (decide ((A.b:Int)=(-1)))) (bq x.b 13 (Z (decide ((A.b:Int)=x.a))) (bq x.b 14 (bZ iF A.h x.a λz13=>(Z (!z13.2.2))) (bq x.b 15 (bZ iF A.h x.a λz14=>(Z z14.2.2)) (jn (bq x.b 16 (aH ((decide ((x.b:Int)=16)),A.2)) (bq x.b 18 (aH ((decide ((x.b:Int)=18)),A.2)) (aH ((decide ((x.b:Int)=19)),A.2)))) λz=>(aI z.1 (bZ itK z.2.1.a x.g λz16=>(bZ eJ z.a z16.2 λz17=>(Z (decide ((z17.1:Int)=x.a))))) (bq x.b 20 (jn (jP x.g x.a (bZ iF z.h x.g λz19=>(aH (decide ((z19.1:Int)=0)))) (aH af)) λx18=>(Z x18)) (bq x.b 21 (jn (jP x.g x.a (bZ iF z.h x.g λz21=>(aH (decide ((z21.1:Int)=5)))) (aH af)) λx20=>(Z x20)) (bq x.b 22 (bZ (.bool) z.c x.g λL=>(Z (!L))) (bq x.b 23 (bZ (.bool) z.c x.g λD=>(Z D)) (Z J)))))))))))))))))
def ly (x:P?):M (Bool):=
 (jn (aA (lJ (x.1,x.2.1)) λy2=>(aI (!y2) (aH (J,x.1,x.2.1)) (aA (fG (x.a,(aZ x.1.c))) λy3=>(aI (!y3) (aH (J,x.1,x.2.1)) (aA (nE (x.1,x.e)) λy4=>(aH ((!y4),x.1,x.2.1))))))) λz=>(aI z.1 (Z af) (bZ iF z.h x.a λA=>(bq x.b 1 (Z (decide ((A.1:Int)=1))) (bq x.b 17 (jn (α:=Bool) (bq A.1 4 (bq A.2.1 x.g (bZ itK z.2.1.a x.g λz7=>(bZ eJ z.a z7.2 λL=>(aH (decide ((L.1:Int)=(-1)))))) (aH af)) (aH af)) λx6=>(Z x6)) (jn (bq A.1 2 (aA (pP (z.2.1,z.2.2,x.2.2)) λD=>(aH D)) (aH af)) λx9=>(Z x9)))))))
def mg (x:fA×R?):M (Bool):=
 (jn (aA (lJ (x.1,x.2.1)) λz=>(aI z (bq (aZ x.a) (aZ x.1.1) (bq (aZ x.b) (aZ x.1.b) (aH (decide (((aZ x.g):Int)=(aZ x.1.c)))) (aH af)) (aH af)) (aH af))) λA=>(Z A))
def mU (x:fA×c!):M (Bool):=
 (jn (bq x.a 1 (aH (J,x)) (aH ((decide ((x.a:Int)=2)),x))) λz=>(aI z.1 (Z (decide ((z.f:Int)=(-1)))) (jn (kB 0 z.f (bU z.f (aZ z.2.1.h) (bZ pW z.2.1.h z.f λA=>(aH (decide ((A.1:Int)=z.a)))) (aH af)) (aH af)) λD=>(Z D))))
def m6 (it:BO) (x:fA×M!):M (Bool):=
 (jn (bq x.b 3 (bZ l7 x.1.1 x.c λz2=>(aH ((!decide ((z2.2.2.1:Int)=0)),x.2))) (bq x.b 4 (bZ l7 x.1.1 x.c λz3=>(aH ((!decide ((z3.2.2.1:Int)=0)),x.2))) (aH (af,x.2)))) λz=>(jn (bq z.b 5 (bq z.b 4 (aH (z.2.1,z.2.2,J,J)) (aH (z.2.1,z.2.2,J,(decide ((z.b:Int)=22))))) (bq z.b 4 (aH (z.2.1,z.2.2,z.1,J)) (aH (z.2.1,z.2.2,z.1,(decide ((z.b:Int)=22)))))) λx4=>(it (Int×ky×iH×L!) _ (λA=>(bU A.1 2 (bT (db 0 A.1&&gD A.1 2) (lt (geti ((.sl aM)) [x4.2.1.d,x4.2.1.n] A.1) λz6=>(jn (α:=Bool×ky×iH×L!) (bU 0 (aZ z6) (bT (db 0 A.1&&gD A.1 2) (bT (dL A.1 2) (lt (geti (.bool) [A.b,A.g] A.1) λz8=>(aH ((!z8),A.2))))) (aH (af,A.2))) λx7=>(aI x7.1 (aH af) (it (ν×ky×iH×L!) _ (λD=>(bU D.1.2 (aZ z6) (bZ aM z6 D.1.2 λL=>(jn (kB L D.1.1 (aH (J,D.2)) (bZ aM D.2.1.e D.a.1 λz12=>(aH ((db z12 L),D.2)))) λx11=>(aI x11.1 (aH (b8 af)) (c5 ((L,(cS D.1.2)),x11.2))))) (aH (rB ((cS A.1),D.2))))) ((0,0),x7.2)))))) (aH J))) (0,x4))))
def mS (x:fA×M!):M (Bool):=m6 @iter x
def gk (x:fA×M!):M (Bool):=m6 @gf x
def mZ (it:BO) (x:M!):M (Bool):=
 (bq x.a 3 (bZ aM x.1.2.1 x.b λz1=>(Z (decide ((x.c:Int)=z1)))) (bq x.a 23 (bZ aM x.1.a x.b λz2=>(Z (decide ((x.c:Int)=z2)))) (bq x.a 5 (jn (bq x.c 0 (aH J) (aH (decide ((x.c:Int)=1)))) λx3=>(Z x3)) (jn (bq x.a 4 (aH ((decide ((x.a:Int)=4)),x)) (aH ((decide ((x.a:Int)=22)),x))) λD=>(aI D.1 (Z J) (bq x.a 18 (it ((Int×Bool×Int)×c!) _ (λA=>(bU A.1.2.2 (aZ D.2.1.1.e) (jn (bZ iF D.2.1.1.e A.1.2.2 λz7=>(jn (bq z7.1 3 (aH ((decide ((z7.2.1:Int)=A.b)),A.2)) (aH (af,A.2))) λx8=>(aI x8.1 (aI A.1.2.1 (aH (((cS A.1.1),J),x8.2)) (aH (((cS A.1.1),(decide ((x8.c:Int)=A.1.2.2))),x8.2))) (aH ((A.1.1,A.1.2.1),x8.2))))) λx6=>(c5 ((x6.1.1,x6.1.2,(cS A.1.2.2)),x6.2))) (aA (jn (α:=Bool) (aI A.1.2.1 (aH J) (bq A.1.1 0 (aH (decide ((A.c:Int)=(-1)))) (aH af))) λx9=>(Z x9)) λr=>Z (b8 r)))) ((0,af,0),D.2.2)) (bq x.a 19 (it Yd3 _ (λz=>(bU z.1.2 (aZ D.2.1.1.e) (jn (bZ iF D.2.1.1.e z.1.2 λz12=>(jn (bq z12.1 3 (aH ((decide ((z12.2.1:Int)=z.b)),z.2)) (aH (af,z.2))) λL=>(aI L.1 (aH ((cS z.1.1),L.2)) (aH (z.1.1,L.2))))) λx11=>(c5 ((x11.1,(cS z.1.2)),x11.2))) (aH (decide ((z.c:Int)=z.1.1))))) ((0,0),D.2.2)) (Z (decide ((D.d:Int)=0))))))))))
def qG (x:M!):M (Bool):=mZ @iter x
def gQ (x:M!):M (Bool):=mZ @gf x
def nN (x:eH×Int):M (Bool):=
 (jn (bq x.1.1 3 (aH (decide ((x.1.2.1:Int)=x.2))) (aH af)) λz=>(Z z))
def MM (x:θ):M θ:=
 (aI (ax (aj x) 0) (zW (Z ([]:θ)) (bT (bc (aj ([]:θ)+aj x) 1) (Z (([]:θ)++x)))) (bT (bc (aj ([]:θ)+aj x) 1) (Z (([]:θ)++x))))
def SX (x:θ):M θ:=chk (bc (aj x) 1) λ_=>Z x
def In (x:θ):M θ:=
 (aI (ax (aj x) 0) (zW (Z ([]:θ)) (bT (bc (aj ([]:θ)+aj x) 1) (Z (([]:θ)++x)))) (bT (bc (aj ([]:θ)+aj x) 1) (Z (([]:θ)++x))))
def ML (x:θ):M θ:=chk (bc (aj x) 1) λ_=>Z x
def MI (x:Y eH):M (Y eH):=
 (aI (ax (aj x) 0) (zW (Z ([]:Y eH)) (bT (bc (aj ([]:Y eH)+aj x) 24) (Z (([]:Y eH)++x)))) (bT (bc (aj ([]:Y eH)+aj x) 24) (Z (([]:Y eH)++x))))
def SU (x:Y eH):M (Y eH):=chk (bc (aj x) 24) λ_=>Z x
def Il (x:Y eH):M (Y eH):=
 (aI (ax (aj x) 0) (zW (Z ([]:Y eH)) (bT (bc (aj ([]:Y eH)+aj x) 24) (Z (([]:Y eH)++x)))) (bT (bc (aj ([]:Y eH)+aj x) 24) (Z (([]:Y eH)++x))))
def MH (x:Y eH):M (Y eH):=chk (bc (aj x) 24) λ_=>Z x
def Im (x:η):M η:=
 (aI (ax (aj x) 0) (zW (Z ([]:η)) (bT (bc (aj ([]:η)+aj x) 8) (Z (([]:η)++x)))) (bT (bc (aj ([]:η)+aj x) 8) (Z (([]:η)++x))))
def Cj (x:η):M η:=chk (bc (aj x) 8) λ_=>Z x
def tV (it:BO) (x:x!):M Yd2:=
 (bT (db 0 (aZ x.1)&&db (aZ x.1) (aZ x.1)&&bc (aN (aZ x.1)) 32) (it (Int×uH×Int×Y (Int×η)) _ (λz=>(bU z.1 (aZ x.1) (bZ eJ x.1 z.1 λA=>(aA (Fb A.2) λy3=>(ck (dL z.1 (aj z.e)) (c5 ((cS z.1),z.2.1,z.a,(cg z.e z.1 (A.1,y3))))))) (aA (aA (ML z.2.1.a) λL=>(aA (MH z.2.1.e) λD=>(Z (z.2.1.2.1,z.e,L,D)))) λr=>Z (b8 r)))) (0,x,0,(aC (aN (aZ x.1)) ((0,[]):k!)))))
def xZ (x:x!):M Yd2:=tV @iter x
def lO (x:x!):M Yd2:=tV @gf x
abbrev I?:=ki×(θ)×(Y eH)×Int
def sj (it:BO) (x:π×E!):M Yd2:=
 (it (ν×I?) _ (λz=>(bU z.1.2 (aZ x.e) (jn (kY iF z.b z.1.2 λL=>(jn (aA (nN (L,x.1.2.1)) λy5=>(aI y5 (bU z.1.1 0 (aH (J,z.2)) (aH ((decide ((z.1.2:Int)=x.1.2.2)),z.2))) (aH (af,z.2)))) λA=>(aI A.1 (aH (z.1.2,A.2)) (aH (z.1.1,A.2))))) λD=>(c5 ((D.1,(cS z.1.2)),D.2))) (aA (jn (α:=E!) (kB 0 z.1.1 (ck (dL z.1.1 (aj z.b)) (aH (z.2.1,z.a,(cg z.b z.1.1 (4,(geti iF z.b z.1.1).2))))) (aH (z.2.1,z.a,z.b))) λx6=>(Z (z.1.1,x6))) λr=>Z (b8 r)))) (((-1),0),x.2.1,x.a,x.e,x.1.1))
def vY (x:π×E!):M Yd2:=sj @iter x
def kO (x:π×E!):M Yd2:=sj @gf x
def oc (it:BO) (x:ν×E!):M Yd2:=
 (it (ν×I?) _ (λz=>(bU z.1.2 (aZ x.e) (jn (α:=Int×I?) (kY iF z.b z.1.2 λD=>(aA (nN (D,x.1.2)) λL=>(aI L (ck (dL z.1.2 (aj z.b)) (aH ((cS z.1.1),z.2.1,z.a,(cg z.b z.1.2 (4,(geti iF z.b z.1.2).2)),z.g))) (aH (z.1.1,z.2))))) λA=>(c5 ((A.1,(cS z.1.2)),A.2))) (aH (z.1.1,z.2.1,z.a,z.b)))) ((0,0),x.2.1,x.a,x.e,x.1.1))
def rN (x:ν×E!):M Yd2:=oc @iter x
def ig (x:ν×E!):M Yd2:=oc @gf x
def rY (x:Int):M (Bool):=
 (Z (!decide ((x:Int)=x)))
def yc (x:ν):M (Bool):=
 (jn (aA (rY x.1) λA=>(aI A (aA (rY x.2) λz=>(aI (!z) (aH J) (aH (gD x.1 x.2)))) (aH (gD x.1 x.2)))) λD=>(Z D))
def tf (x:Int):M (Int):=
 (kB 4294967296 x U (kB 65536 x U (kB 256 x U (mK (bm .u8 x) ([0,1,2,2,3,3,3,3,4,4,4,4,4,4,4,4,5,5,5,5,5,5,5,5,5,5,5,5,5,5,5,5,6,6,6,6,6,6,6,6,6,6,6,6,6,6,6,6,6,6,6,6,6,6,6,6,6,6,6,6,6,6,6,6,7,7,7,7,7,7,7,7,7,7,7,7,7,7,7,7,7,7,7,7,7,7,7,7,7,7,7,7,7,7,7,7,7,7,7,7,7,7,7,7,7,7,7,7,7,7,7,7,7,7,7,7,7,7,7,7,7,7,7,7,7,7,7,7,8,8,8,8,8,8,8,8,8,8,8,8,8,8,8,8,8,8,8,8,8,8,8,8,8,8,8,8,8,8,8,8,8,8,8,8,8,8,8,8,8,8,8,8,8,8,8,8,8,8,8,8,8,8,8,8,8,8,8,8,8,8,8,8,8,8,8,8,8,8,8,8,8,8,8,8,8,8,8,8,8,8,8,8,8,8,8,8,8,8,8,8,8,8,8,8,8,8,8,8,8,8,8,8,8,8,8,8,8,8,8,8,8,8,8,8,8,8,8,8,8,8,8,8,8,8,8,8]) (Z (bm .i64 (0+(bm .i64 (an0 ([0,1,2,2,3,3,3,3,4,4,4,4,4,4,4,4,5,5,5,5,5,5,5,5,5,5,5,5,5,5,5,5,6,6,6,6,6,6,6,6,6,6,6,6,6,6,6,6,6,6,6,6,6,6,6,6,6,6,6,6,6,6,6,6,7,7,7,7,7,7,7,7,7,7,7,7,7,7,7,7,7,7,7,7,7,7,7,7,7,7,7,7,7,7,7,7,7,7,7,7,7,7,7,7,7,7,7,7,7,7,7,7,7,7,7,7,7,7,7,7,7,7,7,7,7,7,7,7,8,8,8,8,8,8,8,8,8,8,8,8,8,8,8,8,8,8,8,8,8,8,8,8,8,8,8,8,8,8,8,8,8,8,8,8,8,8,8,8,8,8,8,8,8,8,8,8,8,8,8,8,8,8,8,8,8,8,8,8,8,8,8,8,8,8,8,8,8,8,8,8,8,8,8,8,8,8,8,8,8,8,8,8,8,8,8,8,8,8,8,8,8,8,8,8,8,8,8,8,8,8,8,8,8,8,8,8,8,8,8,8,8,8,8,8,8,8,8,8,8,8,8,8,8,8,8,8]) (bm .u8 x))))))))))
def wq (x:Int):M (Int):=
 (aA (tf x) λz=>(Z z))
def lx (it:BO) (x:ν×η):M η:=
 (it k! _ (λD=>(bU D.1 x.1.2 (it k! _ (λz=>(jn (bU x.1.1 z.1 (kY aM z.2 z.1 λz4=>(kY aM z.2 (bm .i64 (z.1-1)) λz5=>(aA (yc (z4,z5)) λy6=>(aH (y6,z.2))))) (aH (af,z.2))) λA=>(aI A.1 (kY aM A.2 (bm .i64 (z.1-1)) λL=>(kY aM A.2 z.1 λz8=>(ck (dL z.1 (aj A.2)) (ck (dL (bm .i64 (z.1-1)) (aj (cg A.2 z.1 L))) (c5 ((bm .i64 (z.1-1)),(cg (cg A.2 z.1 L) (bm .i64 (z.1-1)) z8))))))) (aH (rB ((cS D.1),A.2)))))) D) (aH D.2))) ((cS x.1.1),x.2))
def lw (x:ν×η):M η:=lx @iter x
def gr (x:ν×η):M η:=lx @gf x
def pw (it:BO) (x:π×η):M η:=
 (it ((Int×Int×Int×Bool×Bool)×η) _ (λz=>(kB (bm .i64 (z.1.2.1-z.1.1)) 12 (aA (gr ((z.1.1,z.1.2.1),z.2)) λA=>(bT (ax (aj z.2) (aj A)&&J) (aH A))) (bq z.1.a 0 U (aI (!z.1.b) U U)))) ((x.1.1,x.1.2.1,x.1.2.2,J,J),x.2))
def pm (x:π×η):M η:=pw @iter x
def kg (x:π×η):M η:=pw @gf x
def yY (x:η):M η:=
 (aA (wq (bm .u64 (aZ x))) λA=>(aA (kg ((0,(aZ x),A),x)) λz=>(bT (ax (aj x) (aj z)&&J) (Z z))))
def AY (it:BO) (x:η):M η:=
 (bU (aZ x) 2 (Z x) (it k! _ (λz=>(bU z.1 (aZ z.2) (kY aM z.2 z.1 λD=>(kY aM z.2 (bm .i64 (z.1-1)) λA=>(bq D A (bT (db 0 z.1&&gD z.1 (aj z.2)) U) (c5 ((cS z.1),z.2))))) (aH z.2))) (1,x)))
def Ay (x:η):M η:=AY @iter x
def mX (x:η):M η:=AY @gf x
def qe (x:ν):M (Bool×Int):=
 (Z ((decide ((x.1:Int)=x.2)),x.2))
def wH (it:BO) (x:o!):M K!:=
 (it K! _ (λz=>(bU z.1 (aZ x.1) (kY aM z.2.1 z.1 λD=>(aA (qe (D,z.2.2)) λA=>(aI A.1 (aH (z.1,z.2.1,A.2)) (c5 ((cS z.1),z.2.1,A.2))))) (aH ((-1),z.2)))) (0,x))
def vZ (x:o!):M K!:=wH @iter x
def oI (x:o!):M K!:=wH @gf x
def uS (it:BO) (x:o!):M k!:=
 (aA (oI x) λA=>(bT (ax (aj x.1) (aj A.2.1)&&J) (bq A.1 (-1) U (it (ν×v?) _ (λz=>(bU z.1.2 (aZ z.2.1) (jn (kY aM z.2.1 z.1.2 λL=>(aA (qe (L,z.2.2)) λD=>(aI (!D.1) (ck (dL z.1.1 (aj z.2.1)) (aH ((cS z.1.1),(cg z.2.1 z.1.1 L),D.2))) (aH (z.1.1,z.2.1,D.2))))) λx3=>(c5 ((x3.1,(cS z.1.2)),x3.2))) (aA (ck (db 0 z.1.1&&gD z.1.1 (aj z.2.1)) (bT (db 0 z.1.1&&gD z.1.1 (aj (dP (aN z.1.1) z.2.1++aC (aj z.2.1-aN z.1.1) (0:Int)))) (Z (z.2.2,(dP (aN z.1.1) (dP (aN z.1.1) z.2.1++aC (aj z.2.1-aN z.1.1) (0:Int))))))) λr=>Z (b8 r)))) ((A.1,(cS A.1)),A.2)))))
def uN (x:o!):M k!:=uS @iter x
def j6 (x:o!):M k!:=uS @gf x
def ii (x:S?):M (uH×u!):=
 (aA (ly (x.1,x.2.1,x.a,x.b,x.c)) λy1=>(aI (!y1) (Z ((([]:Y k!),0,([]:θ),([]:Y eH)),0,af)) (aA (lO x.2.1) λA=>(jn (α:=X?) (bq x.b 1 (ck (dL x.a (aj A.e)) (aH (0,A.1,0,A.2.1,A.a,(cg A.e x.a (2,(geti iF A.e x.a).2))))) (bq x.b 2 (ck (dL x.a (aj A.e)) (aH (0,A.1,0,A.2.1,A.a,(cg A.e x.a (5,(geti iF A.e x.a).2))))) (jn (α:=Bool×fA×X?) (bq x.b 6 (aH ((decide ((x.b:Int)=6)),x.1,A.1,x.a,0,A.2)) (aH ((decide ((x.b:Int)=10)),x.1,A.1,x.a,0,A.2))) λx4=>(aI x4.1 (ck (dL x.c (aj x4.d)) (aH (0,x4.a,x4.c,(cg x4.d x.c (x4.b,(geti eJ x4.d x.c).2)),x4.n))) (jn (bq x.b 7 (aH ((decide ((x.b:Int)=7)),x4.2)) (aH ((decide ((x.b:Int)=11)),x4.2))) λz=>(aI z.1 (ck (dL x.c (aj z.d)) (aH (0,z.a,z.c,(cg z.d x.c ((-1),(geti eJ z.d x.c).2)),z.n))) (bq x.b 8 (kY eJ z.d x.c λz6=>U) (bq x.b 9 (kY eJ z.d x.c λz7=>U) (bq x.b 12 (aH (0,z.e)) (bq x.b 13 (aH (0,(-1),z.g)) (bq x.b 14 (ck (dL z.b (aj z.p)) (aH (0,z.a,z.c,z.d,z.f,(cg z.p z.b ((geti iF z.p z.b).1,((geti iF z.p z.b).2).1,J))))) (bq x.b 15 (ck (dL z.b (aj z.p)) (aH (0,z.a,z.c,z.d,z.f,(cg z.p z.b ((geti iF z.p z.b).1,((geti iF z.p z.b).2).1,af))))) (bq x.b 16 (bZ itK z.2.1.a x.c λz8=>(ck (dL z8.2 (aj z.d)) (ck (dL z.b (aj z.p)) (ck (dL z.b (aj (cg z.p z.b (3,(geti iF z.p z.b).2)))) (aH (0,z.a,z.c,(cg z.d z8.2 ((-1),(geti eJ z.d z8.2).2)),z.f,(cg (cg z.p z.b (3,(geti iF z.p z.b).2)) z.b ((geti iF (cg z.p z.b (3,(geti iF z.p z.b).2)) z.b).1,x.c,((geti iF (cg z.p z.b (3,(geti iF z.p z.b).2)) z.b).2).2)))))))) (bq x.b 17 (bZ itK z.2.1.a x.c λz9=>(ck (dL z9.2 (aj z.d)) (ck (dL z.b (aj z.p)) (ck (dL z.b (aj (cg z.p z.b (2,(geti iF z.p z.b).2)))) (aH (0,z.a,z.c,(cg z.d z9.2 (z.b,(geti eJ z.d z9.2).2)),z.f,(cg (cg z.p z.b (2,(geti iF z.p z.b).2)) z.b ((geti iF (cg z.p z.b (2,(geti iF z.p z.b).2)) z.b).1,0,((geti iF (cg z.p z.b (2,(geti iF z.p z.b).2)) z.b).2).2)))))))) (bq x.b 18 (aA (kO ((z.a,x.g),z.h)) λL=>(bT (ax (aj z.p) (aj L.e)&&(ax (aj z.f) (aj L.a)&&(ax (aj z.d) (aj L.2.1)&&J))) (aH (L.1,z.a,z.c,L.2)))) (bq x.b 19 (aA (ig ((z.a,x.c),z.h)) λD=>(bT (ax (aj z.p) (aj D.e)&&(ax (aj z.f) (aj D.a)&&(ax (aj z.d) (aj D.2.1)&&J))) (aH (D.1,z.a,z.c,D.2)))) (bq x.b 20 (ck (dL x.c (aj z.p)) (aH (0,z.a,z.c,z.d,z.f,(cg z.p x.c (1,(geti iF z.p x.c).2))))) (bq x.b 22 (ck (dL x.c (aj z.f)) (aH (0,z.a,z.c,z.d,(cg z.f x.c J),z.p))) (aH (0,z.a,z.g)))))))))))))))))))) λx3=>(Z ((x3.b,x3.2.1,x3.g),x3.1,J))))))
def rW (x:x!):M (Yd6×(π)×f?):=
 (bT (db 0 (aZ x.1)&&db (aZ x.1) (aZ x.1)&&bc (aN (aZ x.1)) 32&&decide (((aZ x.1):Int)=3)) (jn (α:=uH×Int×(π)×f?) (bU 0 (aZ x.1) (bZ eJ x.1 0 λz=>(aA (qu z.2) λL=>(bU 1 (aZ x.1) (bZ eJ x.1 1 λD=>(aA (qu D.2) λy5=>(bU 2 (aZ x.1) (bZ eJ x.1 2 λz6=>(aA (qu z6.2) λy7=>(bU 3 (aZ x.1) (bZ eJ x.1 3 λz8=>(aA (qu z8.2) λy9=>U)) (aH (x,0,(z.1,D.1,z6.1),L,y5,y7))))) (aH (x,0,(z.1,D.1,0),L,y5,([]:η)))))) (aH (x,0,(z.1,0,0),L,([]:η),([]:η)))))) (aH (x,0,(0,0,0),([]:η),([]:η),([]:η)))) λA=>(aA (SX A.1.a) λy10=>(aA (SU A.1.e) λy11=>(Z ((A.1.2.1,y10,y11),A.2.2))))))
def mq (x:S?):M (uH×u!):=
 (aA (ly (x.1,x.2.1,x.a,x.b,x.c)) λy1=>(aI (!y1) (Z ((([]:Y k!),0,([]:θ),([]:Y eH)),0,af)) (aA (rW x.2.1) λD=>(jn (α:=Int×Yd6×Int×((Int×η)×(Int×η)×Int)×Bool×η) (bq x.b 1 (mK x.a D.1.2.2 U) (bq x.b 2 (mK x.a D.1.2.2 U) (jn (α:=Bool×fA×Yd6×Int×Int×(π)×f?) (bq x.b 6 (aH ((decide ((x.b:Int)=6)),x.1,D.1,x.a,0,D.2)) (aH ((decide ((x.b:Int)=10)),x.1,D.1,x.a,0,D.2))) λA=>(aI A.1 U (jn (bq x.b 7 (aH ((decide ((x.b:Int)=7)),A.2.1,A.a,A.b,A.c,(A.d.1,A.f,A.d.2.1,A.i,A.d.2.2),A.r)) (aH ((decide ((x.b:Int)=11)),A.2.1,A.a,A.b,A.c,(A.d.1,A.f,A.d.2.1,A.i,A.d.2.2),A.r))) λz=>(aI z.1 U (bq x.b 8 (bq x.c 0 U (bq x.c 1 U (bq x.c 2 (bT (bc (aj z.n+aj ([z.b])) 8) (aA (yY (z.n++([z.b]))) λy6=>(bT (ax (aj (z.n++([z.b]))) (aj y6)&&J) (aA (mX y6) λy7=>(bT (ax (aj y6) (aj y7)&&J) (aH (0,z.a,z.c,((z.d.1,z.d.2.1),(z.d.a,z.d.b),z.d.g),J,y7))))))) U))) (bq x.b 9 (bq x.c 0 U (bq x.c 1 U (bq x.c 2 (aA (j6 (z.n,z.b)) λy8=>(bT (ax (aj z.n) (aj z.n)&&J) (aH (0,z.a,z.c,((z.d.1,z.d.2.1),(z.d.a,z.d.b),z.d.g),af,y8.2)))) U))) (bq x.b 12 (aH (0,(z.b,z.a.2),z.c,((z.d.1,z.d.2.1),(z.d.a,z.d.b),z.d.g),J,z.n)) (bq x.b 13 (aH (0,((-1),z.a.2),z.c,((z.d.1,z.d.2.1),(z.d.a,z.d.b),z.d.g),J,z.n)) (bq x.b 14 (mK z.b z.a.2.2 U) (bq x.b 15 (mK z.b z.a.2.2 U) (bq x.b 16 U (bq x.b 17 U (bq x.b 18 U (bq x.b 19 U (bq x.b 20 (mK x.c z.a.2.2 U) (bq x.b 22 (mK x.c z.a.2.1 U) (aH (0,z.a,z.c,((z.d.1,z.d.2.1),(z.d.a,z.d.b),z.d.g),J,z.n)))))))))))))))))))) λL=>(Z (([L.b.1,L.b.2.1,(L.b.2.2,L.h)],L.2.1),L.1,J))))))
def tP (x:S?):M (uH×u!):=orE (ii x) (mq x)
def mh (x:fA×M!):M (ky×Bool):=
 (jn (α:=Bool×I!) (aA (mg (x.1,x.2.1)) λy2=>(aI (!y2) (aH (J,x.1,x.2.1,x.2.2,0)) (bU x.a 0 (aH (J,x.1,x.2.1,x.2.2,0)) (kB (aZ x.1.c) x.a (aH (J,x.1,x.2.1,x.2.2,0)) (bU x.b 1 (aH (J,x.1,x.2.1,x.2.2,0)) (aH ((gD 23 x.b),x.1,x.2.1,x.2.2,0))))))) λD=>(aI D.1 (Z (((([]:Y k!),0,([]:θ),([]:Y eH)),([]:η),([]:η),([]:η)),af)) (jn (aA (ly (D.2.1,D.a.1,D.b.1,D.b.2.1,D.b.a)) λy4=>(aI (!y4) (aH (J,D.2)) (aA (mU (D.2.1,D.b)) λy5=>(aI (!y5) (aH (J,D.2)) (aA (gk (D.2.1,D.a,D.b)) λy6=>(aI (!y6) (aH (J,D.2)) (aA (gQ (D.a,D.b)) λy7=>(aH ((!y7),D.2))))))))) λx3=>(aI x3.1 (Z (((([]:Y k!),0,([]:θ),([]:Y eH)),([]:η),([]:η),([]:η)),af)) (jn (α:=Int×I!) (bq x3.b.2.1 18 (aH (x3.b.b,x3.2)) (aH ((-1),x3.2))) λz=>(aA (tP (z.2.1,z.a.1,z.b.1,z.b.2.1,z.b.a,z.1)) λy9=>(aI (!y9.2.2) (Z (((([]:Y k!),0,([]:θ),([]:Y eH)),([]:η),([]:η),([]:η)),af)) (aA (Cj z.a.2.1) λy10=>(aA (Cj z.a.a) λL=>(aA (qu z.a.e) λy12=>(jn (bq z.b.2.1 4 (ck (dL z.b.a (aj y10)) (aH (z.b,z.g,y9.1,(cg y10 z.b.a z.b.b),L,y12))) (bq z.b.2.1 22 (ck (dL z.b.a (aj L)) (aH (z.b,z.g,y9.1,y10,(cg L z.b.a z.b.b),y12))) (aH (z.b,z.g,y9.1,y10,L,y12)))) λA=>(kY aM A.h A.1.1 λz14=>(ck (dL A.1.1 (aj A.h)) (Z ((A.a,A.b,A.c,(cg A.h A.1.1 (cS z14))),J)))))))))))))))
def k_ (it:BO) (x:Yd3×Y θ):M (Bool×Y θ):=
 (it ((ν×Int)×Y θ) _ (λA=>(bU A.1.2 2 (bT (db 0 A.1.2&&gD A.1.2 2) (lt (geti ((.sl aM)) [x.1.f,x.1.p] A.1.2) λz2=>(it ((ν×Int)×Y θ) _ (λz=>(bU z.1.2 (aZ z2) (bZ aM z2 z.1.2 λL=>(jn (bU L 0 (aH (((z.1.1.1,aQ (aN z.1.1.2)),J),z.2)) (kB (aQ (aN z.1.1.2)) L (aH (((z.1.1.1,aQ (aN z.1.1.2)),J),z.2)) (bT (dL L (aN z.1.1.2)) (mK z.1.1.1 z.2 (bZ (.bool) (rx (T:=.bool) z.2 z.1.1.1) L λz6=>(aH (((z.1.1.1,aQ (aN z.1.1.2)),(!z6)),z.2))))))) λD=>(aI D.1.2 (aH (b8 (af,D.2))) (c5 (((D.1.1.1,aQ (aN D.1.1.2)),(cS z.1.2)),D.2))))) (aH (rB (((z.1.1.1,aQ (aN z.1.1.2)),(cS A.1.2)),z.2))))) (((A.1.1.1,aQ (aN A.1.1.2)),0),A.2)))) (aH (J,A.2)))) (((x.1.1.1,aQ (aN x.1.1.2)),0),x.2))
def nU (x:Yd3×Y θ):M (Bool×Y θ):=k_ @iter x
def eU (x:Yd3×Y θ):M (Bool×Y θ):=k_ @gf x
def nZ (it:BO) (x:t?):M ν:=
 (bU 400 (aZ x.2) (Z (0,2)) (aA (iv x.1) λy1=>(aI (!y1) (Z (0,1)) (aA (fe x.1) λy2=>(bT (db 0 (aZ x.1.c)&&db (aZ x.1.c) (aZ x.1.c)&&bc (aN (aZ x.1.c)) 24) (it (Int×(fA×Y iH)×ky×(η)×Y θ) _ (λA=>(bU A.1 (aZ x.2) (bZ j7 x.2 A.1 λD=>(aA (mh (A.2.1.1,A.a,D)) λy5=>(jn (aI (!y5.2) (aH (J,A.2.1,A.a,A.b,D,y5.1,A.g)) (ck (dL D.1 (aj A.b)) (aA (eU (((D.1,aQ (aN (sI A.b D.1))),D),A.g)) λy7=>(aH ((!y7.1),A.2.1,A.a,A.b,D,y5.1,y7.2))))) λz=>(aI z.1 (aH (A.1,12)) (jn (α:=(fA×Y iH)×ky×(η)×ky×Y θ) (ck (dL z.c.1 (aj z.b)) (bq z.c.2.1 3 (mK z.c.1 z.n (bT (ax (aN (sI z.b z.c.1)) (aj (rx (T:=.bool) z.n z.c.1))&&bc ((aN (sI z.b z.c.1))+aj ([J]:θ)) 1) (ck (dL z.c.1 (aj z.b)) (aH (z.2.1,z.a,(sH z.b (aN z.c.1) (aQ (aj ((rx (T:=.bool) z.n z.c.1)++([J]))))),z.d,(vT (T:=.bool) (vT (T:=.bool) z.n z.c.1 []) z.c.1 ((rx (T:=.bool) z.n z.c.1)++([J])))))))) (mK z.c.1 z.n (bT (ax (aN (sI z.b z.c.1)) (aj (rx (T:=.bool) z.n z.c.1))&&bc ((aN (sI z.b z.c.1))+aj ([(decide ((z.c.2.1:Int)=23))]:θ)) 1) (ck (dL z.c.1 (aj z.b)) (aH (z.2.1,z.a,(sH z.b (aN z.c.1) (aQ (aj ((rx (T:=.bool) z.n z.c.1)++([(decide ((z.c.2.1:Int)=23))]))))),z.d,(vT (T:=.bool) (vT (T:=.bool) z.n z.c.1 []) z.c.1 ((rx (T:=.bool) z.n z.c.1)++([(decide ((z.c.2.1:Int)=23))])))))))))) λL=>(c5 ((cS A.1),L.1,L.b,L.a,L.g))))))) (aH (0,0)))) (0,x,y2,(aC (aN (aZ x.1.c)) (0:Int)),(aC (aN (aZ x.1.c)) ([]:θ)))))))))
def rK (x:t?):M ν:=nZ @iter x
def fO (x:t?):M ν:=nZ @gf x
abbrev P!:=(Y η)×Int
def AU (it:BO) (x:t?):M P!:=
 (aA (fO x) λy1=>(jP y1.2 0 (Z (([]:Y η),12)) (aA (rf x.1) λL=>(bT (db 0 (aZ x.2)&&db (aZ x.2) (aZ x.2)&&bc (aN (aZ x.2)) 24) (it (Int×(fA×Y iH)×Yd0×Y η) _ (λz=>(bU z.1 (aZ x.2) (bZ j7 x.2 z.1 λD=>(aA (ur (z.2.1.1,z.a,D)) λA=>(ck (dL z.1 (aj z.e)) (c5 ((cS z.1),z.2.1,A.1,(cg z.e z.1 A.2)))))) (aH (z.e,0)))) (0,x,L,(aC (aN (aZ x.2)) ([]:η))))))))
def E5 (x:t?):M P!:=AU @iter x
def qQ (x:t?):M P!:=AU @gf x
def Sd (a b:Int):fG (a,b)=Z (decide (0<=a/\a<b)):=by
 refine cX ?_;unfold fG kB aH;with_reducible repeat' first|apply OS.ok;constructor|refine IM.mk λ_=>?_
 .by_cases h:a<b<;>simp[*,gD]
 .simp;omega
def Yj (l:η) (t:Int) (L:l! l<=1000):lP (l,t)=Z (l.contains t):=by
 refine cX ?_;unfold lP tB AX bq bU bZ aZ c5 aH cS;refine ay (P:=λy:Int=>0<=y↔t∈l) ?_ λy z=>ak ?_
 .refine iL (l! l) (by omega) (λi x=>x=(i:Int)/\∀j,j<i->¬l.getD j 0=t) ?_ ?_ ⟨rfl,λj A=>by omega⟩
  .rintro i x hi ⟨rfl,D⟩;refine dJ ?_;refine cE (aS (aL (λh=>ak ?_) λh=>ak ?_))
   .refine ⟨λ_=>?_,λ_=>by omega⟩;have h:t=geti aM l (i:Int):=h;rw[h];exact bM (T:=aM) (xs:=l) (by omega) (by omega)
   .refine ⟨iG,λj A=>?_⟩;have h:¬t=l.getD i 0:=h
    grind
  .rintro x ⟨rfl,D⟩;refine dC (ak ?_);refine ⟨λg=>(by omega),λg=>?_⟩;let⟨j,A,e⟩:=List.getElem_of_mem g
   grind
 .by_cases h:t∈l
  .have:=z.2 h;simp[db,h,this]
  .have:¬0<=y:=λg=>h (z.1 g)
   simp[db,h,this]
def asb (w:WT) (s:SY) (A:l! w.2.2.1<=1000) (z:∀c∈w.2.2.1,0<=c.2/\c.2<l! w.2.1) (L:l! s.1=l! w.2.1) (e2:l! s.2.2.1=l! w.2.2.2.1) (D:l! s.2.2.2=l! w.2.2.2.2.1):lJ (w,s)=Z J:=by
 refine cX ?_;unfold lJ vz bf bA bH eR bU jP bZ aZ c5 aH cS;refine aY (λx=>x=(af,w)) ?_ ?_
 .refine ca (λh=>(h (by grind)).elim) λ_=>ca (λh=>(h (by grind)).elim) λ_=>ak ?_
  grind
 rintro x rfl;refine jB (iL (l! w.2.2.1) (by omega) (λi x=>x=((i:Int),w)) ?_ ?_ rfl)
 .rintro i x hi rfl;refine dJ ?_;refine cE (aS (be (Sd _ _) (ca (λh=>(h ?_).elim) λ_=>ak ?_)))
  .exact z _ (bM (T:=itK) (xs:=w.2.2.1) (j:=(i:Int)) (by omega) (by omega))
  .rw[iG]
 .rintro x rfl;exact dC (ak rfl)
def al6 (w:WT) (k o:Int) (h:NM w k o):nE (w,k,o)=Z J:=by
 refine cX ?_;let⟨k1,k2,L,lk,cn,th,D,no,z,rw_⟩:=h;unfold nE bf bA bH cF bq bZ aZ aH;cases kdI k
 case no A _=>omega
 all_goals simp only[bF,em,QZ,Sd]
 all_goals with_reducible repeat' first|apply OS.ok;constructor|refine IM.mk λ_=>?_
 all_goals try simp[aB,t8] at*
 all_goals first|omega|exact rw_ ⟨by decide,by decide⟩|(simp [*,Bool.not_false,eT];done)
def asx (w:WT) (s:SY) (hs:SB i s) (hn:i<=1000) (t k o:Int) (he:EN w s t k o) (hr:X8 w s t k o):pP (w,s,t,k,o)=Z J:=by
 refine cX ?_;let⟨nm,t0,t1,cd,e1,e2,e3⟩:=id he;let⟨_,_,ce,lk,cn,th,fu,no,mu,rw_⟩:=nm;let⟨_,_,_,D,wr,ra,rl,rr,xb,xe,ab,ae,nt,sp,jo,se,ge⟩:=hr;have hm:16<=k/\k<=19->0<=(geti itK w.2.2.1 o).2/\(geti itK w.2.2.1 o).2<l! w.2.1:=λh=>cd _ (bM (cn h).1 (cn h).2)
 have hH:6<=k/\k<=11->lP ((geti eJ s.1 o).2,t)=Z ((geti eJ s.1 o).2.contains t):=λh=>Yj _ _ (by
  have:=hs.rd _ (bM (T:=eJ) (lk h).1 (by grind));omega)
 have lk1:6<=k/\k<=11->0<=o/\o<(l! s.1:Int):=λh=>by grind
 have L:t<(l! s.2.2.2:Int):=by omega
 have fu1:k=22\/k=23->0<=o/\o<(l! s.2.2.1:Int):=λh=>by have:=fu h;omega
 have th1:k=20\/k=21->0<=o/\o<(l! s.2.2.2:Int):=λh=>by have:=th h;omega
 have z:∀{p:Prop} [Decidable p],p->decide p=J:=λh=>aU h
 unfold pP bf bA bH eR dT bq jP bZ aZ aH;refine aL (λh=>?_) λn6=>?_
 .have h:k=6:=h;exact aO (lk1 (by omega)).1 (lk1 (by omega)).2 (aS (ak (z (D (.inl h)))))
 refine aL (λh=>?_) λn10=>?_
 .have h:k=10:=h;refine ie (aO (lk1 (by omega)).1 (lk1 (by omega)).2 (aS (aL (λ_=>?_) λg=>(g (D (.inr (.inr h)))).elim)));refine aO (lk1 (by omega)).1 (lk1 (by omega)).2 (aS (ak (ak (z ?_))))
  grind
 refine aL (λh=>?_) λn8=>?_
 .have h:k=8:=h;refine ie (aO (lk1 (by omega)).1 (lk1 (by omega)).2 (aS (aL (λ_=>?_) λg=>(g (D (.inr (.inl h)))).elim)));refine aO (lk1 (by omega)).1 (lk1 (by omega)).2 (aS (be (hH (by omega)) (ak (ak ?_))));rw[ra h];rfl
 refine aY (λx=>x.2=(w,s)/\(x.1=J↔k=7\/k=11)) (aL (λh=>ak ⟨rfl,λ_=>.inl h,λ_=>z h⟩) λh=>ak ⟨rfl,λA=>.inr (bR A),λA=>z (A.resolve_left h)⟩) ?_;rintro⟨b,x⟩ ⟨e,hb⟩;dsimp only at e hb;subst e;refine aP (λh=>?_) λ_=>?_
 .have h:=hb.1 h;exact aO (lk1 (by omega)).1 (lk1 (by omega)).2 (aS (ak (z (rl h))))
 refine aL (λh=>?_) λn9=>?_
 .have h:k=9:=h;refine aO (lk1 (by omega)).1 (lk1 (by omega)).2 (aS (be (hH (by omega)) (ak (rr h))))
 refine aL (λh=>ak (z (xb h))) λ_=>aL (λh=>ak (z (xe h))) λ_=>?_
 refine aL (λh=>aO t0 L (aS (ak (by grind)))) λ_=>aL (λh=>aO t0 L (aS (ak (ae h)))) λ_=>?_
 refine aY (λx=>x.2=(w,s)/\(x.1=J->k=16\/k=18\/k=19)) (aL (λh=>ak ⟨rfl,λ_=>.inl h⟩) λ_=>aL (λh=>ak ⟨rfl,λ_=>.inr (.inl h)⟩) λ_=>ak ⟨rfl,λh=>.inr (.inr (bR h))⟩) ?_;rintro⟨c,x⟩ ⟨e,hc⟩;dsimp only at e hc;subst e;refine aP (λh=>?_) λ_=>?_
 .have h:=hc h;have hq:=hm (by omega);exact aO (cn (by omega)).1 (cn (by omega)).2 (aS (aO hq.1 (by grind) (aS (ak (z (nt h))))))
 refine aL (λh=>?_) λ_=>?_
 .have h:k=20:=h;exact ie (ca (λ_=>aO (th1 (.inl h)).1 (th1 (.inl h)).2 (aS (ak (ak (z (sp h).2))))) λg=>((sp h).1 g).elim)
 refine aL (λh=>?_) λ_=>?_
 .have h:k=21:=h;exact ie (ca (λ_=>aO (th1 (.inr h)).1 (th1 (.inr h)).2 (aS (ak (ak (z (jo h).2))))) λg=>((jo h).1 g).elim)
 refine aL (λh=>aO (fu1 (.inl h)).1 (fu1 (.inl h)).2 (aS (ak (by grind)))) λ_=>aL (λh=>aO (fu1 (.inr h)).1 (fu1 (.inr h)).2 (aS (ak (ge h)))) λ_=>ak rfl
def HO (w:WT) (s:SY) (hs:SB i s) (hn:i<=1000) (hw:l! w.2.2.1<=1000) (t k o:Int) (he:EN w s t k o) (z:X8 w s t k o):ly (w,s,t,k,o)=Z J:=by
 refine cX ?_;let⟨nm,D,t1,cd,e1,e2,e3⟩:=id he;have hrd:=asx w s hs hn t k o he z;have t2:t<(l! s.2.2.2:Int):=by omega
 refine aY (λx=>x=(af,w,s)) ?_ ?_
 .refine be (asb w s hw cd e1 e2 e3) (j8 rfl (be (Sd _ _) ?_));refine ca (λh=>(h ⟨D,t1⟩).elim) λ_=>be (al6 w k o nm) (ak rfl)
 rintro x rfl;refine jB (aO D t2 (aS ?_));refine aL (λh=>ak (aU (z.b h))) λn1=>?_
 refine aL (λh=>?_) λA=>?_
 .have h:k=17:=h;let⟨a1,a2,a3⟩:=z.wk h;let⟨c0,L⟩:=nm.cd (by omega);have hq:=cd _ (bM (T:=itK) (xs:=w.2.2.1) (j:=o) c0 L);refine ie (aL (λ_=>aL (λ_=>?_) λg=>(g a2).elim) λg=>(g a1).elim);exact aO c0 L (aS (aO hq.1 (by grind) (aS (ak (ak (aU a3))))))
 refine ie (aL (λ_=>be hrd (ak (ak rfl))) λg=>(g (z.r n1 A)).elim)
def ana (w:WT) (e:ET) (h1:e.2.1=1\/e.2.1=2->e.2.2.2.2.1= -1) (z:¬(e.2.1=1\/e.2.1=2)->0<=e.2.2.2.2.1/\e.2.2.2.2.1<l! w.2.2.2.2.2/\(geti pW w.2.2.2.2.2 e.2.2.2.2.1).1=e.1):mU (w,e)=Z J:=by
 refine cX ?_;refine aY (λx=>x.2=(w,e)/\(x.1=J↔e.2.1=1\/e.2.1=2)) (aL (λh=>ak ⟨rfl,λ_=>.inl h,λ_=>rfl⟩) λh=>ak ⟨rfl,λz=>.inr (bR z),λz=>aU (z.resolve_left h)⟩) ?_;rintro⟨b,x⟩ ⟨D,A⟩;subst D;refine aP (λh=>ak (aU (h1 (A.1 h)))) λh=>?_
 let⟨a1,a2,L⟩:=z λg=>by grind
 exact ie (fD (λ_=>dJ (aO a1 a2 (aS (ak (ak (aU L)))))) λg=>(by grind))
def al4 (h:Lu A) (i:Nat) (hi:i<l! A):∀z∈A.drop (i+1),A.getD i 0<z:=by
 induction A generalizing i with
 |nil=>cases hi
 |cons a A l=>
  cases i with
  |zero=>exact λz D=>h.1 z (by grind)
  |succ i=>exact l h.2 i (by grind)
def W3 (w:WT) (s:SN) (e:ET) (ce:e.2.1=3\/e.2.1=4->0<=e.2.2.1/\e.2.2.1<l! w.1) (de:0<l! e.2.2.2.2.2.1->e.2.1=5\/(e.2.1=3\/e.2.1=4)/\¬(geti l7 w.1 e.2.2.1).2.2.1=0) (fr:0<l! e.2.2.2.2.2.2->e.2.1=4\/e.2.1=22) (t0:0<=e.1) (t1:e.1<l! s.2.2.2) (nd:AN (geti aM s.2.2.2 e.1) e.2.2.2.2.2.1) (nf:AN (geti aM s.2.2.2 e.1) e.2.2.2.2.2.2) (ld:l! e.2.2.2.2.2.1<=1000000) (lf:l! e.2.2.2.2.2.2<=1000000):gk (w,s,e)=Z J:=by
 refine cX ?_;refine aY (λx=>x.2=(s,e)/\((e.2.1=3\/e.2.1=4)/\¬(geti l7 w.1 e.2.2.1).2.2.1=0->x.1=J)) ?_ ?_
 .refine aL (λh=>?_) λn3=>aL (λh=>?_) λn4=>?_
  .exact aO (ce (.inl h)).1 (ce (.inl h)).2 (aS (ak ⟨rfl,λg=>by simpa using g.2⟩))
  .exact aO (ce (.inr h)).1 (ce (.inr h)).2 (aS (ak ⟨rfl,λg=>by simpa using g.2⟩))
  .exact ak ⟨rfl,λg=>(g.1.elim n3 n4).elim⟩
 rintro⟨b,x⟩ ⟨L,hb⟩;dsimp only at L hb;subst L;refine aY (λx=>x.1=s/\x.2.1=e/\(0<l! e.2.2.2.2.2.1->x.2.2.1=J)/\(0<l! e.2.2.2.2.2.2->x.2.2.2=J)) ?_ ?_
 .refine aL (λh5=>aL (λh4=>ak ⟨rfl,rfl,λ_=>rfl,λ_=>rfl⟩) λh4=>ak ⟨rfl,rfl,λ_=>rfl,λg=>?_⟩) λh5=>aL (λh4=>ak ⟨rfl,rfl,λg=>?_,λ_=>rfl⟩) λh4=>ak ⟨rfl,rfl,λg=>?_,λg=>?_⟩
  .grind
  .grind
  .grind
  .grind
 rintro⟨s',e',a,b'⟩ ⟨L,e2,h1,h2⟩;dsimp only at L e2 h1 h2;subst L e2;have key:∀(r:η),l! r<=1000000->AN (geti aM s'.2.2.2 e'.1) r->∀j:Nat,j<l! r->∀z∈r.drop (j+1),geti aM r (j:Int)<z:=λr _ h j hj z hz=>al4 h.a j hj z hz
 refine iL 2 (by omega) (λi x=>x=((i:Int),s',e',a,b')) ?_ ?_ rfl
 .rintro i x hi rfl;refine dJ ?_;refine cU (dG (by simp) (Dh (by omega) (aS ?_)));have hr:∃r:η,geti (.sl (.int .i64)) [e'.2.2.2.2.2.1,e'.2.2.2.2.2.2] (i:Int)=r/\AN (geti aM s'.2.2.2 e'.1) r/\l! r<=1000000/\(0<l! r->geti (.bool) [a,b'] (i:Int)=J):=by
   match i,hi with
   |0,_=>exact⟨_,rfl,nd,ld,h1⟩
   |1,_=>exact⟨_,rfl,nf,lf,h2⟩
  let⟨r,er,hA,hl,hb'⟩:=hr;have er':geti (.sl aM) [e'.2.2.2.2.2.1,e'.2.2.2.2.2.2] (i:Int)=r:=er;dsimp only at er' ⊢;rw[er'];refine aY (λx=>x=(af,s',e',a,b')) ?_ ?_
  .refine bN (λg=>?_) λ_=>ak rfl
   have g':0<l! r:=by grind
   refine cU (a? (Dh (by omega) (cE (aS (ak ?_)))));rw[hb' g'];rfl
  rintro x rfl;refine jB ?_;refine iL (l! r) (by omega) (λj x=>x.1.2=(j:Int)/\x.2=(s',e',a,b')/\∀z∈r.drop j,x.1.1<z) ?_ ?_ ⟨rfl,rfl,λz hz=>?_⟩
  .rintro j ⟨⟨la,ix⟩,x⟩ hj ⟨D,A,g3⟩;dsimp only at D A g3;subst D A;have m:geti aM r (j:Int)∈r:=bM (T:=aM) (xs:=r) (by omega) (by omega);have m2:geti aM r (j:Int)∈r.drop j:=by
    have:geti aM r (j:Int)=r[j]:=by
     show r.getD j 0=_
     grind
    rw[this,List.drop_eq_getElem_cons hj];exact cV
   refine dJ ?_;refine cE (aS (aY (λx=>x=(af,s',e',a,b')) ?_ ?_))
   .refine fD (λg=>?_) λ_=>aO t0 t1 (aS (ak ?_))
    .grind
    .have:=(hA.m _ m).2;rw[nF.2 (show geti aM r (j:Int)<geti aM s'.2.2.2 e'.1 from this)]
   rintro x rfl;exact jB (ak ⟨iG,rfl,key r hl hA j hj⟩)
  .rintro⟨⟨la,ix⟩,x⟩ ⟨D,A,_⟩;dsimp only at D A;subst D A;exact dC (ak (eO (·,s',e',a,b') iG))
  .have:=(hA.m z (by grind)).1;dsimp only;omega
 .rintro x rfl;exact dC (ak rfl)
def ax4 (w:WT) (s:SN) (z:l! w.2.2.1<=1000) (t k o:Int) (he:EN w s.1 t k o) (hf:F16 w s):mg (w,s)=Z J:=by
 let⟨_,_,_,L,D,e2,A⟩:=he;let⟨f1,f2,f3⟩:=hf;refine cX ?_;unfold mg bf bA bH eR bq aZ aH;refine ie (be (asb w s.1 z L D e2 A) (aie (aL (λ_=>aL (λ_=>ak (ak (aU ?_))) λg=>(g ?_).elim) λg=>(g ?_).elim)));all_goals dsimp [aB];omega
def LA (th:Y d?) (c:Int) (i:Nat):wl th c (i+1)=if Pu c (geti iF th (i:Int)) then wl th c i++[(i:Int)] else wl th c i:=rfl
def amp (w:WT) (s:SN) (hs:SB i s.1) (e:ET) (hf:F16 w s) (he:EN w s.1 e.1 e.2.1 e.2.2.1) (va:VA w s.1 s.2.1 s.2.2.1 e.1 e.2.1 e.2.2.1 e.2.2.2.1):gQ (s,e)=Z J:=by
 refine cX ?_;let⟨t,k,o,v,si,de,fr⟩:=e;let⟨z,s2,s3,s4⟩:=s;let⟨nm,t0,t1,cd,e1,e2,e3⟩:=he;let⟨_,_,ce,lk,cn,th,fu,_,_,_⟩:=nm;let⟨f1,f2,f3⟩:=hf;have hth:=hs.th;let⟨v3,v23,v5,vel⟩:=va;dsimp only at*
 unfold gQ mZ bf bA bH cF c_ bq bU bZ aZ c5 aH cS;refine aL (λh=>?_) λn3=>?_
 .have h:k=3:=h;let⟨c0,c1⟩:=ce (.inl h);exact aO c0 (by rw[f1];exact c1) (aS (ak (aU (v3 h))))
 refine aL (λh=>?_) λn23=>?_
 .have h:k=23:=h;let⟨c0,c1⟩:=fu (.inr h);exact aO c0 (by rw[f2];exact c1) (aS (ak (aU (v23 h))))
 refine aL (λh=>?_) λn5=>?_
 .have h:k=5:=h;exact ie (aL (λ_=>ak (ak rfl)) λg=>ak (ak (aU ((v5 h).resolve_left g))))
 refine aY (λx=>x.2=((z,s2,s3,s4),t,k,o,v,si,de,fr)/\(x.1=af->¬k=4/\¬k=22)) (aL (λh=>ak ⟨rfl,λh2=>(by rw[aU h]at h2;cases h2)⟩) λh=>ak ⟨rfl,λh2=>⟨h,EL h2⟩⟩) ?_;rintro⟨b,x⟩ ⟨e,hb⟩;dsimp only at e hb;subst e;refine aP (λh=>ak rfl) λh=>?_
 let⟨n4,n22⟩:=hb h;have vel:=vel n3 n23 n5 n4 n22;have hWl:=xW z.2.2.2 o (l! z.2.2.2);refine aL (λh=>?_) λn18=>?_
 .have h:k=18:=h;subst h;rw[Fr]at vel;refine iL (l! z.2.2.2) (by omega) (λn x=>x.1.2.2=(n:Int)/\x.2=(t,18,o,v,si,de,fr)/\x.1.1=(l! (wl z.2.2.2 o n):Int)/\(x.1.2.1=J↔v∈wl z.2.2.2 o n)) ?_ ?_ ⟨rfl,rfl,rfl,by simp[wl]⟩
  .rintro n ⟨⟨c,hit,ix⟩,x⟩ hi ⟨D,A,L,g4⟩;dsimp only at D A L g4;subst D A L;have hl:=xW z.2.2.2 o n;refine dJ ?_;refine aY (λx=>x.2=(t,18,o,v,si,de,fr)/\x.1.1=(l! (wl z.2.2.2 o (n+1)):Int)/\(x.1.2=J↔v∈wl z.2.2.2 o (n+1))) ?_ ?_
   .refine cE (aS (aY (λx=>x=(Pu o (geti iF z.2.2.2 (n:Int)),t,18,o,v,si,de,fr)) ?_ ?_))
    .unfold Pu;refine aL (λh=>ak ?_) λh=>ak ?_
     .dsimp only at h ⊢;rw[h];rfl
     .dsimp only at h ⊢;rw[dc h];rfl
    rintro x rfl;rw[LA];dsimp only;cases hw:Pu o (geti iF z.2.2.2 (n:Int)) with
    |true=>
     refine aie (aP (λh=>ak ⟨rfl,?_,?_⟩) λh=>ak ⟨rfl,?_,?_⟩)
     .dsimp only;rw[iG];simp
     .simp[g4.1 h]
     .dsimp only;rw[iG];simp
     .have:¬v∈wl z.2.2.2 o n:=λg=>by rw[g4.2 g]at h;cases h
      simp[this]
    |false=>exact jB (ak ⟨rfl,rfl,g4⟩)
   rintro⟨⟨c,hit'⟩,x⟩ ⟨D,A,L⟩;dsimp only at D A L;subst D A;exact ak ⟨iG,rfl,rfl,L⟩
  .rintro⟨⟨c,hit,ix⟩,x⟩ ⟨D,A,L,g4⟩;dsimp only at D A L g4;subst D A L;refine dC (ay (P:=λy=>y=J) (ie (aP (λ_=>ak (ak rfl)) λh=>?_)) λy hy=>ak hy);have hn:¬v∈wl z.2.2.2 o (l! z.2.2.2):=λg=>by rw[g4.2 g]at h;cases h
   by_cases h0:l! (wl z.2.2.2 o (l! z.2.2.2))=0
   .rw[aD h0]at vel;refine aL (λ_=>ak (ak (aU vel))) λg=>(g (by dsimp only;omega)).elim
   .rw[av h0]at vel;have vel:v=Ez (wl z.2.2.2 o (l! z.2.2.2)) v:=vel;exact (hn (vel▸LW v h0)).elim
 refine aL (λh=>?_) λn19=>?_
 .have h:k=19:=h;subst h;rw[atv]at vel;refine iL (l! z.2.2.2) (by omega) (λn x=>x.1.2=(n:Int)/\x.2=(t,19,o,v,si,de,fr)/\x.1.1=(l! (wl z.2.2.2 o n):Int)) ?_ ?_ ⟨rfl,rfl,rfl⟩
  .rintro n ⟨⟨c,ix⟩,x⟩ hi ⟨D,A,L⟩;dsimp only at D A L;subst D A L;have hl:=xW z.2.2.2 o n;refine dJ ?_;refine aY (λx=>x.2=(t,19,o,v,si,de,fr)/\x.1=(l! (wl z.2.2.2 o (n+1)):Int)) ?_ ?_
   .refine cE (aS (aY (λx=>x=(Pu o (geti iF z.2.2.2 (n:Int)),t,19,o,v,si,de,fr)) ?_ ?_))
    .unfold Pu;refine aL (λh=>ak ?_) λh=>ak ?_
     .dsimp only at h ⊢;rw[h];rfl
     .dsimp only at h ⊢;rw[dc h];rfl
    rintro x rfl;rw[LA];dsimp only;cases hw:Pu o (geti iF z.2.2.2 (n:Int)) with
    |true=>
     refine aie (ak ⟨rfl,?_⟩);dsimp only;rw[iG];simp
    |false=>exact jB (ak ⟨rfl,rfl⟩)
   rintro⟨c,x⟩ ⟨D,A⟩;dsimp only at D A;subst D A;exact ak ⟨iG,rfl,rfl⟩
  .rintro⟨⟨c,ix⟩,x⟩ ⟨D,A,L⟩;dsimp only at D A L;subst D A L;exact dC (ak (aU vel))
 exact ak (aU (by rw[arp _ _ _ _ _ _ n18 n19]at vel;exact vel))
def ah3 (x:d?) (c:Int):nN (x,c)=Z (Pu c x):=by
 refine cX ?_;unfold nN Pu bq aH;refine ie (aL (λh=>ak (ak ?_)) λh=>ak (ak ?_))
 .grind
 .grind
def ako (s:SY) (A:SB i s):lO s=Z (s.2.1,s.1,s.2.2.1,s.2.2.2):=by
 refine cX ?_;let⟨z,s2,L,D⟩:=s;have hn:=A.n1;have hlk:=A.lk;have hdn:=A.dn;have hth:=A.th;have hrd:=A.rd;dsimp only at hlk hdn hth hrd;unfold lO tV bf c_ ck bU bT bZ aZ c5 cS;dsimp [aB];refine cU (cU (a? (a? (a! ?_))));refine iL (l! z) (by omega) (λn x=>∃c d,x=((n:Int),(z,s2,L,D),c,d)/\l! d=l! z/\∀j,j<n->d.getD j (0,[])=z.getD j (0,[])) ?_ ?_ ⟨_,_,rfl,by simp,λj hj=>by omega⟩
 .rintro n x hi ⟨c,d,rfl,hd,he⟩;have hr:=hrd _ (bM (T:=eJ) (xs:=z) (j:=(n:Int)) (by omega) (by omega));refine dJ ?_;refine cE (aS (be (x:=(geti eJ z (n:Int)).2) (cX ?_) ?_))
  .exact bO (by grind) (by omega) (ak rfl)
  refine cE (cE (ak ⟨c,d.set n (geti eJ z (n:Int)),?_,by simp[hd],λj hj=>?_⟩))
  .rw[iG];rfl
  .by_cases e:n=j
   .subst e;rw[aw,List.getElem?_set_self (by omega)];rfl
   .grind
 .rintro x ⟨c,d,rfl,hd,he⟩;have:d=z:=by
   refine cZ hd λj g1 g2=>?_
   grind
  subst this;refine dC (ay (P:=λy=>y=(s2,d,L,D)) ?_ λy hy=>ak hy);refine be (x:=L) (cX (bO (by grind) (by omega) (ak rfl))) (be (x:=D) (cX (bO (by grind) (by omega) (ak rfl))) (ak rfl))
def ad1 (l:η) (i u:Int):Ez (l++[i]) u=if (l! l)=0 then i else if i=u then i else Ez l u:=by
 unfold Ez;cases l with
 |nil=>
  by_cases h:u=i
  .subst h;simp
  .simp[h];rfl
 |cons a r=>
  have z:¬l! (a::r++[i])=0:=by simp
  have e2:¬l! (a::r)=0:=by simp
  by_cases h:i=u
  .subst h;simp
  .have h':¬u=i:=λg=>h g.symm
   rw[av h];have:(a::r++[i]).contains u=(a::r).contains u:=by simp[h']
   rw[this];rfl
variable {F:Y (Int×Int×Bool)}
def LV {u:Int} (h:¬l! (wl F a i)=0):0<=Ez (wl F a i) u/\Ez (wl F a i) u<i:=by
 have:=sY.1 (LW u h);exact⟨this.1,this.2.1⟩
def OM {u:Int} (h:l! A=0):Ez A u= -1:=by unfold Ez;rw[aD h]
def anj (s:SY) (o u:Int) (hs:l! s.2.2.2<=1000):kO ((s.2.1,o,u),s.1,s.2.2.1,s.2.2.2)=Z (Ez (wl s.2.2.2 o (l! s.2.2.2)) u,s.1,s.2.2.1,if (l! (wl s.2.2.2 o (l! s.2.2.2)))=0 then s.2.2.2 else Bq s.2.2.2 (Ez (wl s.2.2.2 o (l! s.2.2.2)) u) 4):=by
 refine cX ?_;let⟨D,L,A,z⟩:=s;dsimp only at hs ⊢;unfold kO sj bf bA c_ ck bU kB kY aZ c5 aH cS;refine iL (l! z) (by omega) (λi x=>x=((Ez (wl z o i) u,(i:Int)),D,A,z,L)) ?_ ?_ rfl
 .rintro i x hi rfl;refine dJ ?_;refine aY (λx=>x=(Ez (wl z o (i+1)) u,D,A,z,L)) ?_ ?_
  .refine cE (cE (aS ?_));refine aY (λx=>x=(decide (Pu o (geti iF z (i:Int))=J/\(l! (wl z o i)=0\/(i:Int)=u)),D,A,z,L)) ?_ ?_
   .refine be (ah3 _ _) (aP (λh=>?_) λh=>ak ?_)
    .have h:Pu o (geti iF z (i:Int))=J:=h;refine bN (λg=>ak ?_) λg=>ak ?_
     .have:l! (wl z o i)=0:=xV λq=>by have:=(LV (u:=u) q).1;dsimp only at g;omega
      simp[h,this]
     .have:¬l! (wl z o i)=0:=λq=>by have:=OM (u:=u) q;dsimp only at g;omega
      simp[h,this]
    .grind
   rintro x rfl;rw[LA];refine aL (λh=>ak ?_) λh=>ak ?_
   .rw[aD h.1,ad1]
    grind
   .by_cases g:Pu o (geti iF z (i:Int))=J
    .rw[aD g,ad1,av λq=>h ⟨g,.inl q⟩,av λq=>h ⟨g,.inr q⟩]
    .rw[av g]
  rintro x rfl;exact ak (by dsimp only;rw[iG])
 .rintro x rfl;refine dC (ay (P:=λy=>y=(Ez (wl z o (l! z)) u,D,A,if (l! (wl z o (l! z)))=0 then z else Bq z (Ez (wl z o (l! z)) u) 4)) ?_ λy hy=>ak hy);refine aY (λx=>x=(D,A,if (l! (wl z o (l! z)))=0 then z else Bq z (Ez (wl z o (l! z)) u) 4)) ?_ ?_
  .refine fD (λg=>?_) λg=>ak ?_
   .have h0:¬l! (wl z o (l! z))=0:=λq=>by have:=OM (u:=u) q;dsimp only at g;omega
    have hp:=LV (u:=u) h0;refine aO hp.1 hp.2 (aO hp.1 hp.2 (ak ?_));rw[av h0];rfl
   .have:l! (wl z o (l! z))=0:=xV λq=>by have:=(LV (u:=u) q).1;dsimp only at g;omega
    rw[aD this]
  rintro x rfl;exact ak rfl
def anp (th:Y d?) (l:η) (i:Int):Ge th (l++[i])=Bq (Ge th l) i 4:=by unfold Ge;rw[dO];rfl
def ano (l:η):∀(th:Y d?) (j:Int),0<=j->(∀z∈l,0<=z/\z<l! th/\¬z=j)->geti iF (Ge th l) j=geti iF th j:=by
 induction l with
 |nil=>intro th j _ _;rfl
 |cons x r L=>
  intro th j D h;have A:=h x (by simp);refine (L (Bq th x 4) j D λz hz=>?_).trans ?_
  .have:=h z (by grind);unfold Bq;rw[bS];exact this
  .unfold Bq;rw[jX (T:=iF) th x j _ A.1 A.2.1 D,av λq=>A.2.2 q.symm]
def YT (s:SY) (o:Int) (hs:l! s.2.2.2<=1000):ig ((s.2.1,o),s.1,s.2.2.1,s.2.2.2)=Z ((l! (wl s.2.2.2 o (l! s.2.2.2)):Int),s.1,s.2.2.1,Ge s.2.2.2 (wl s.2.2.2 o (l! s.2.2.2))):=by
 refine cX ?_;let⟨s1,L,D,A⟩:=s;dsimp only at hs ⊢;unfold ig oc bf bA c_ eR ck bU kY aZ c5 aH cS;refine iL (l! A) (by omega) (λi x=>x=(((l! (wl A o i):Int),(i:Int)),s1,D,Ge A (wl A o i),L)) ?_ ?_ rfl
 .rintro i x hi rfl;have hl:=xW A o i;have hg:geti iF (Ge A (wl A o i)) (i:Int)=geti iF A (i:Int):=ano _ _ _ (by omega) λz hz=>by have:=sY.1 hz;exact⟨this.1,by omega,by omega⟩
  have hq:=LL (wl A o i) A;refine dJ ?_;refine aY (λx=>x=((l! (wl A o (i+1)):Int),s1,D,Ge A (wl A o (i+1)),L)) ?_ ?_
  .refine cE (cE (aS (be (ah3 _ _) ?_)));rw[LA];refine aP (λh=>?_) λh=>ak ?_
   .have h:Pu o (geti iF A (i:Int))=J:=hg▸h;refine cE (cE (ak ?_));rw[aD h,anp];rw[iG];simp[bK,kn,pI];rfl
   .grind
  rintro x rfl;exact ak (by dsimp only;rw[iG])
 .rintro x rfl;exact dC (ak rfl)
def aqi (w:WT) (s:SY) (z:SB i s) (hn:i<=1000) (hw:l! w.2.2.1<=1000) (t k o u:Int) (he:EN w s t k o) (hr:X8 w s t k o) (D:¬k=8) (A:¬k=9):ii (w,s,t,k,o,u)=Z ((pV w s t k o u).1,(pV w s t k o u).2,J):=by
 refine cX ?_;unfold ii bf bA bH cF dM c_ eR dT ic xg ck bq bT bZ kY aH;refine be (HO w s z hn hw t k o he hr) (j8 rfl (be (ako s z) ?_));suffices hmain:Ok _ _ from aY (λx=>((x.2.2.2.1,x.2.1,x.2.2.2.2),x.1)=pV w s t k o u) hmain λx L=>ak (by rw[<- L])
 obtain⟨nm,t0,t1,cd,e1,e2,e3⟩:=id he;obtain⟨_,_,ce,lk,cn,th,fu⟩:=nm;have hm:16<=k/\k<=19->0<=(geti itK w.2.2.1 o).2/\(geti itK w.2.2.1 o).2<l! w.2.1:=λh=>cd _ (bM (cn h).1 (cn h).2)
 cases kdI k
 case no hk _=>omega
 all_goals first|exact (D rfl).elim|exact (A rfl).elim|skip
 all_goals simp only[bF,em,QZ]
 all_goals with_reducible repeat' first|apply OS.ok;constructor|refine IM.mk λ_=>?_
 all_goals try simp only[aB,t8] at*
 all_goals try rw[bS]
 all_goals first|omega|exact (hm ⟨by decide,by decide⟩).1|exact e1▸(hm ⟨by decide,by decide⟩).2|exact rfl|skip
 .refine be (anj s o u z.th) (bt ?_ (ak ?_))
  .have:aj (if (l! (wl s.2.2.2 o (l! s.2.2.2)))=0 then s.2.2.2 else Bq s.2.2.2 (Ez (wl s.2.2.2 o (l! s.2.2.2)) u) 4)=l! s.2.2.2:=by
    split
    .rfl
    .exact bS ..
   dsimp only;rw[this];simp
  .rw[Fr];by_cases h:l! (wl s.2.2.2 o (l! s.2.2.2))=0
   .rw[aD h,aD h,OM h]
   .rw[av h,av h]
 .refine be (YT s o z.th) (bt ?_ (ak rfl));dsimp only;rw[LL];simp
def D7:Nat->Y η
 |0=>[[]]
 |m+1=>D7 m++(D7 m).map ((3-(m:Int))::·)
def QU:∀m,[]∈D7 m
 |0=>by simp[D7]
 |m+1=>by simp[D7,QU m]
def H0:∀(m:Nat) (l:η),Lu l->(∀z∈l,4-(m:Int)<=z/\z<4)->l∈D7 m
 |m,[],_,_=>QU m
 |0,a::r,_,h=>by have:=h a (by simp);omega
 |m+1,a::r,hA,h=>by
  have D:=h a (by simp);rw[D7,bL];by_cases e:a=3-(m:Int)
  .refine .inr (cr.2 ⟨r,H0 m r hA.2 λz A=>?_,by rw[e]⟩);have:=h z (by grind);have:=hA.1 z A;omega
  .refine .inl (H0 m (a::r) hA λz A=>?_);have:=h z A;rcases aV.1 A with rfl|A
   .omega
   .have:=hA.1 z A;omega
def aqp (h:Lu A) (D:∀z∈A,0<=z/\z<4):A∈D7 4:=H0 4 A h λz l=>by have:=D z l;omega
def in4:η:=[0,1,2,3]
def ac9 (h0:0<=a) (h1:a<4):a∈in4:=by
 have:a=0\/a=1\/a=2\/a=3:=by omega
 rcases this with rfl|rfl|rfl|rfl<;>simp[in4]
def awf (l:η) (t:Int):Bool:=l.contains t||((yY (l++[t])==Z (yE l [t]))&&(mX (yE l [t])==Z (yE l [t]))&&ax (l! (yE l [t])) (l! (l++[t])))
def ax8 (l:η) (t:Int):Bool:= !l.contains t||(j6 (l,t)==Z (t,wo l t))
def amw:((D7 4).all λl=>in4.all λt=>awf l t)=J:=by kernel_rfl
def aor:((D7 4).all λl=>in4.all λt=>ax8 l t)=J:=by kernel_rfl
def srt8 (h:Lu A) (l:∀z∈A,0<=z/\z<4) (h0:0<=a) (h1:a<4) (D:¬a∈A):yY (A++[a])=Z (yE A [a])/\mX (yE A [a])=Z (yE A [a])/\l! (yE A [a])=l! (A++[a]):=by
 have:=iJ.1 (iJ.1 amw A (aqp h l)) a (ac9 h0 h1);unfold awf at this;simp_all
def del8 (h:Lu A) (l:∀z∈A,0<=z/\z<4) (h0:0<=a) (h1:a<4) (D:A.contains a=J):j6 (A,a)=Z (a,wo A a):=by
 have:=iJ.1 (iJ.1 aor A (aqp h l)) a (ac9 h0 h1);unfold ax8 at this
 grind
def ap2 (a0 L D:Int) (r0 A z:η) (h:Int) (d:θ) (th:Y d?) (h0:l! r0<=1000) (h1:l! A<=1000) (h2:l! z<=1000) (hd:l! d<=1000) (ht:l! th<=1000):rW ([(a0,r0),(L,A),(D,z)],h,d,th)=Z ((h,d,th),(a0,L,D),r0,A,z):=by
 refine cX ?_;have cl:∀l:η,l! l<=1000->qu l=Z l:=λl hl=>cX (a! (ak rfl))
 refine bt rfl (aY (λx=>x=(([(a0,r0),(L,A),(D,z)],h,d,th),0,(a0,L,D),r0,A,z)) ?_ ?_)
 .exact qU rfl (bt rfl (aS (be (cl _ h0) (qU rfl (bt rfl (aS (be (cl _ h1) (qU rfl (bt rfl (aS (be (cl _ h2) (j8 rfl (ak rfl)))))))))))))
 rintro x rfl;refine be (x:=d) (cX (bO (by grind) (by omega) (ak rfl))) (be (x:=th) (cX (bO (by grind) (by omega) (ak rfl))) (ak rfl))
def aqj (w:WT) (s:SY) (z:SB i s) (hn:i<=1000) (D:l! w.2.2.1<=1000) (t k o u:Int) (he:EN w s t k o) (L:X8 w s t k o) (hk:k=8\/k=9):ii (w,s,t,k,o,u)=U:=by
 have h1:=HO w s z hn D t k o he L;have A:=ako s z;rcases hk with rfl|rfl
 .unfold ii bf bA bH cF dM c_ eR dT ic xg ck bq bT bZ kY aH;simp[h1,A,bF,em,QZ];cases dL o (aj s.1)<;>rfl
 .unfold ii bf bA bH cF dM c_ eR dT ic xg ck bq bT bZ kY aH;simp[h1,A,bF,em,QZ];cases dL o (aj s.1)<;>rfl
def aqh (w:WT) (s:SY) (L:SB i s) (hn:i<=900) (hw:l! w.2.2.1<=1000) (t k u:Int) (he:EN w s t k 2) (hr:X8 w s t k 2) (hk:k=8\/k=9) (h3:l! s.1=3) (hA:Lu (geti eJ s.1 2).2) (h4:∀z∈(geti eJ s.1 2).2,0<=z/\z<4) (t4:t<4):mq (w,s,t,k,2,u)=Z ((pV w s t k 2 u).1,(pV w s t k 2 u).2,J):=by
 have h1:=HO w s L (by omega) hw t k 2 he hr;have t0:=he.t0;have ra:=hr.ra;have rr:=hr.rr;have hrd:=L.rd;have hdn:=L.dn;have hth:=L.th;let⟨s1,h,d,th⟩:=s
 match s1,h3 with
 |[(a0,r0),(a1,D),(a2,A)],_=>
  have g0:l! r0<=i:=hrd (a0,r0) (by simp);have g1:l! D<=i:=hrd (a1,D) (by simp);have g2:l! A<=i:=hrd (a2,A) (by simp);have hA:Lu A:=hA;have hc:=ap2 a0 a1 a2 r0 D A h d th (by omega) (by omega) (by omega) hdn hth;refine cX ?_;unfold mq bf bA bH cF dM gz eR dT ic vn bq mK bT aH;rcases hk with rfl|rfl
  .have ra:A.contains t=af:=ra rfl;let⟨q1,q2,q3⟩:=srt8 hA h4 t0 t4 (by grind);simp[h1,hc,bF,em,QZ];refine aY (λx=>x=(0,(h,d,th),0,(((a0,r0),(a1,D),a2)),J,yE A [t])) ?_ ?_
   .refine bO (by grind) (by omega) (be q1 (bt ?_ (be q2 (bt ?_ (ak ?_)))))
    .rw[q3];simp
    .simp
    .rfl
   rintro x rfl;exact ak rfl
  .have rr:A.contains t=J:=rr rfl;have q1:=del8 hA h4 t0 t4 rr;simp[h1,hc,bF,em,QZ];refine aY (λx=>x=(0,(h,d,th),0,(((a0,r0),(a1,D),a2)),af,wo A t)) ?_ ?_
   .exact be q1 (bt (by simp) (ak rfl))
   rintro x rfl;exact ak rfl
def avv (w:WT) (s:SY) (L:SB i s) (hn:i<=900) (D:l! w.2.2.1<=1000) (t k o u:Int) (he:EN w s t k o) (hr:X8 w s t k o) (h2:k=8\/k=9->o=2) (h3:l! s.1=3) (hA:∀l∈s.1,Lu l.2/\∀z∈l.2,0<=z/\z<4) (t4:t<4):tP (w,s,t,k,o,u)=Z ((pV w s t k o u).1,(pV w s t k o u).2,J):=by
 unfold tP;by_cases A:k=8\/k=9
 .have:=h2 A;subst this;have hg:=hA _ (bM (T:=eJ) (xs:=s.1) (j:=2) (by omega) (by omega));rw[aqj w s L (by omega) D t k 2 u he hr A,aqh w s L hn D t k u he hr A h3 hg.1 hg.2 t4];rfl
 .rw[aqi w s L (by omega) D t k o u he hr (λh=>A (.inl h)) λh=>A (.inr h)];rfl
def ad0 (l:η) (h:l! l<=100000):Cj l=Z l:=cX (a! (ak rfl))
def ap3 (l:η) (h:l! l<=100000):qu l=Z l:=cX (a! (ak rfl))
def ay1 {n:Nat} (w:WT) (s:SN) (e:ET) (D:NB n s) (hn:n<=900) (hw:l! w.2.2.1<=1000) (hF:F16 w s) (hE:EN w s.1 e.1 e.2.1 e.2.2.1) (hS:S16 w s e) (ld:l! e.2.2.2.2.2.1<=1000000) (lf:l! e.2.2.2.2.2.2<=1000000) (h2:e.2.1=8\/e.2.1=9->e.2.2.1=2) (h3:l! s.1.1=3) (hA:∀l∈s.1.1,Lu l.2/\∀z∈l.2,0<=z/\z<4) (t4:e.1<4):mh (w,s,e)=Z (nxP w s e,J):=by
 refine cX ?_;let⟨rd,q1,q2,de,fr,nd,nf,va⟩:=id hS;let⟨nm,L,t1,cd,e1,e2,e3⟩:=id hE;let⟨k1,k2,ce,lk,cn,th,fu,_,_,_⟩:=nm;let⟨f1,f2,f3⟩:=id hF;have hsc:=D.c;have hsf:=D.f;have hsk:=D.k;refine aY (λx=>x=(af,w,s,e,0)) ?_ ?_
 .refine be (ax4 w s hw _ _ _ hE hF) (j8 rfl (dC (fD (λg=>(by grind)) λ_=>dC (ak ?_))));rw[kh.2 (show e.2.1<=23 by omega)]
 rintro x rfl;refine jB (aY (λx=>x=(af,w,s,e,0)) ?_ ?_)
 .exact be (HO w s.1 D.sb (by omega) hw _ _ _ hE rd) (j8 rfl (be (ana w e q1 q2) (j8 rfl (be (W3 w s e (λh=>ce h) de fr L (by omega) nd nf ld lf) (j8 rfl (be (amp w s D.sb e hF hE va) (ak rfl)))))))
 rintro x rfl;refine jB (aY (λx=>x.2=(w,s,e,0)/\pV w s.1 e.1 e.2.1 e.2.2.1 x.1=pV w s.1 e.1 e.2.1 e.2.2.1 e.2.2.2.1) ?_ ?_)
 .exact aL (λ_=>ak ⟨rfl,rfl⟩) λh=>ak ⟨rfl,adb _ _ _ _ _ _ _ h⟩
 rintro⟨u,x⟩ ⟨hx,hu⟩;dsimp only at hx hu;subst hx;refine be (avv w s.1 D.sb hn hw _ _ _ u hE rd h2 h3 hA t4) (j8 rfl (be (ad0 _ (by grind)) (be (ad0 _ (by grind)) (be (ap3 _ (by grind)) ?_))));rw[hu];refine aY (λx=>x.1=e/\x.2.2.1=(pV w s.1 e.1 e.2.1 e.2.2.1 e.2.2.2.1).1/\x.2.2.2.1=ceP s.2.1 e/\x.2.2.2.2.1=fuP s.2.2.1 e/\x.2.2.2.2.2=s.2.2.2) ?_ ?_
 .unfold ceP fuP;refine aL (λh=>?_) λh=>aL (λh'=>?_) λh'=>ak ⟨rfl,rfl,(av h).symm,(av h').symm,rfl⟩
  .have h:e.2.1=4:=h;have A:=ce (.inr h);exact aO A.1 (by grind) (aO A.1 (by grind) (ak ⟨rfl,rfl,(aD h).symm,(av (by omega)).symm,rfl⟩))
  .have h:e.2.1=22:=h';have A:=fu (.inl h);exact aO A.1 (by grind) (aO A.1 (by grind) (ak ⟨rfl,rfl,(av (by omega)).symm,(aD h).symm,rfl⟩))
 rintro⟨x1,x2,x3,x4,x5,x6⟩ ⟨h1,h2,h4,h5,h6⟩;simp only at h1 h2 h4 h5 h6;subst h1 h2 h4 h5 h6;have t2:x1.1<(l! s.2.2.2:Int):=by omega
 exact aO L t2 (aO L t2 (aS (aO L t2 (aO L t2 (ak rfl)))))
structure TP (t:η×Int):Prop where
 l0:l! t.1<=9223372036854775807
 by_:∀x∈t.1,0<=x/\x<=255
 a0:0<=t.2
 a1:t.2<=l! t.1
structure xa (t t':η×Int):Prop where
 e:t'.1=t.1
 m:t.2<=t'.2
 p:TP t'
def xa.refl {t:o!} (h:TP t):xa t t:=⟨rfl,dx _,h⟩
def xa.trans {a b c:o!} (h:xa a b) (g:xa b c):xa a c:=⟨g.e.trans h.e,xo h.m g.m,g.p⟩
def gM (n:Int) (t:o!) (h:TP t):Ok (bC (n,t)) λy=>xa t y.2/\0<=y.1/\(1<=n->y.1<n)/\(t.2<l! t.1->1<=n->t.2<y.2.2):=by
 let⟨L,a⟩:=t;have hT:=h;let⟨l0,D,a0,a1⟩:=h;dsimp only at l0 D a0 a1;unfold bC kB bT bZ aZ aH cS;refine aY (λx=>x.2=(L,a)/\(x.1=J->a=l! L\/n<1)/\(x.1=af->a<l! L/\1<=n)) ?_ ?_
 .refine fD (λh=>ak ⟨rfl,λ_=>?_,nofun⟩) λh=>ak ⟨rfl,λA=>?_,λA=>?_⟩
  .grind
  .rw[r7]at A;exact .inr A
  .rw[kh]at A;dsimp [aB]at h A;omega
 rintro⟨b,x⟩ ⟨e,h1,A⟩;subst e;refine aP (λh=>ak ⟨xa.refl hT,dx _,λh3=>(by omega),λh3 h4=>?_⟩) λh=>?_
 .grind
 let⟨q1,q2⟩:=A h;refine aS ?_;have e1:bm .i64 (a+1)=a+1:=iQ;rw[e1,iQ (n:=a+1-1) (by omega) (by omega),show a+1-1=a by omega];have hz:=D _ (bM (T:=.int .u8) (xs:=L) (j:=a) a0 q1);refine aO a0 q1 (aS ?_);generalize (geti _ _ a)=z at hz;rw[iQ (n:=z) (by omega) (by omega)];refine Ce (by omega) (ak ?_);dsimp only;refine ⟨⟨rfl,by dsimp only;omega,⟨l0,D,by dsimp only;omega,by dsimp only;omega⟩⟩,Int.tmod_nonneg _ hz.1,λ_=>?_,λ_ _=>by omega⟩;exact Int.tmod_lt_of_pos _ (by omega)
def Ys (s:SY) (A:l! s.2.2.2<=1000) (y:η×v!):Ok (oD (s,y)) λl=>l! l<=l! s.2.2.2:=by
 refine cA (l! s.2.2.2) (λi x=>x.1=(i:Int)/\l! x.2<=i) ?_ ?_ ⟨rfl,by simp⟩
 .rintro i ⟨a,b⟩ hi ⟨z,e2⟩;subst z;with_reducible repeat' first|apply OS.ok;constructor|refine IM.mk λ_=>?_
  all_goals try simp only[aB,t8] at*
  all_goals first|omega|(simp;omega)|skip
  .exact⟨iG,by simp;omega⟩
  .exact⟨iG,by omega⟩
 .rintro⟨a,b⟩ ⟨z,e2⟩;refine bN (λD=>(by grind)) λ_=>ak e2
def ae9 (k u:Int) (t:o!) (h:TP t):Ok (pN ((k,u),t)) λy=>xa t y.2/\(k=3\/k=4->0<=y.1/\y.1<5):=by
 unfold pN bq kY aH cS;cases kdI k
 case no D _=>
  simp only[D,bF,em,QZ];exact ak ⟨xa.refl h,λh=>(by grind)⟩
 all_goals first
  |exact ak ⟨xa.refl h,λh=>(by grind)⟩
  |exact ay (gM 2 t h) λy A=>ak ⟨A.1,λh=>(by omega)⟩
  |exact ay (gM 3 t h) λy A=>ak ⟨A.1,λh=>(by grind)⟩
  |skip
 all_goals
  refine ay (gM 8 t h) λy A=>?_
  have h1:=A.2.1;have L:=A.2.2.1 (by omega);refine aO h1 (by omega) (aO h1 (by omega) (aS (ak ⟨A.1,λ_=>?_⟩)));have:∀z:Int,z∈([0,0,0,1,1,2,3,4]:η)->0<=z/\z<5:=by decide
  exact this _ (bM (T:=aM) h1 (by omega))
structure SZ (n:Nat) (s:SN):Prop where
 nb:NB n s
 c:l! s.2.1=5
 f:l! s.2.2.1=1
 k:l! s.2.2.2=4
def SZ.step {s y:SN} (h:SZ i s) (hp:SP i s y) (z:i+1<=100000):SZ (i+1) y:=
 ⟨hp.NB h.nb z,by rw[hp.c];exact h.c,by rw[hp.f];exact h.f,by rw[hp.k];exact h.k⟩
def adx (s:SN) (A:SZ i s) (k o:Int) (ho:k=3->0<=o/\o<5) (t:o!) (h:TP t):Ok (rP ((s,k,o),t)) λy=>xa t y.2:=by
 let⟨s1,s2,s3,L⟩:=s;have hc:=A.c;have hf:=A.f;have hth:=A.nb.sb.th;dsimp only at hc hf hth;have D:=Ys s1 hth (s2,s3,L);unfold rP bf bq bU bZ aZ aH;cases kdI k
 case no hk _=>
  simp[hk,bF,em,QZ];exact ak (xa.refl h)
 all_goals simp[bF,em,QZ]
 all_goals first
  |exact ak (xa.refl h)
  |exact ay (gM 2 t h) λy z=>ak z.1
  |exact ay (gM 3 t h) λy z=>ak z.1
  |exact ay D λy z=>ak (xa.refl h)
  |exact aO (by decide) (by omega) (aS (ak (xa.refl h)))
  |exact aO (ho rfl).1 (by omega) (aS (ak (xa.refl h)))
  |skip
 refine ay D λl hl=>?_
 refine bN (λh1=>?_) λ_=>ak (xa.refl h)
 refine ay (gM _ t h) λy z=>?_
 have h2:=z.2.2.1 (by grind);exact aO z.2.1 h2 (aS (ak z.1))
def amy (t:o!) (h:TP t) (r:η) (hr:l! r<=1000000):Ok (iz (t,r)) λy=>l! y.1<=l! r/\xa t y.2.1/\y.2.2=r:=by
 refine cA (l! r) (λi x=>x.1=(i:Int)/\xa t x.2.1/\x.2.2.1=r/\l! x.2.2.2<=i) ?_ ?_ ⟨rfl,xa.refl h,rfl,by simp⟩
 .rintro i ⟨a,b,c,d⟩ hi ⟨L,e2,z,D⟩;dsimp only at L e2 z D;subst L z;refine bN (λg4=>?_) λg4=>(by grind)
  refine aY (λx=>xa t x.1/\x.2.1=c/\l! x.2.2<=i+1) ?_ ?_
  .refine cE (cE (aS ?_));refine aY (λx=>xa t x.2.1/\x.2.2=(c,d)) ?_ ?_
   .refine aP (λ_=>?_) λ_=>ak ⟨e2,rfl⟩
    exact ay (gM 2 b e2.p) λy hy=>ak ⟨e2.trans hy.1,rfl⟩
   .rintro⟨p,q,u⟩ ⟨A,f2⟩;subst f2;refine aP (λ_=>?_) λ_=>ak ⟨A,rfl,by dsimp only;omega⟩
    exact bO (by grind) (by omega) (ak ⟨A,rfl,by simp;omega⟩)
  .rintro⟨p,q,u⟩ ⟨A,f2,f3⟩;subst f2;refine ak ?_;exact⟨iG,A,rfl,f3⟩
 .rintro⟨a,b,c,d⟩ ⟨L,e2,z,D⟩;dsimp only at L e2 z D;subst z;refine bN (λg4=>(by grind)) λ_=>ak ⟨D,e2,rfl⟩
def aiz:vq ()=Z [3,3,3,3,3,4,4,4,4,4,5,5,5,6,6,6,7,7,7,8,9,10,11,12,13,14,14,15,16,16,17,17,18,18,19,20,1,1,2,21,22,23,23]:=rfl
abbrev RR:Type:=η×η×v!
structure RB4 (m:Nat) (r:RR):Prop where
 r0:l! r.1<=m
 r1:l! r.2.1<=m
 r2:l! r.2.2.1<=m
 r3:l! r.2.2.2<=m
def ak3 (s:SN) (hs:SZ i s) (w:WT) (hw:l! w.1=5) (t:o!) (h:TP t) (r:RR) (hr:RB4 1000000 r):Ok (rQ ((s,w),t,r)) λy=>xa t y.2.1/\y.2.2=r/\(t.2<l! t.1->t.2<y.2.1.2)/\l! y.1.2.2.2.2.2.1<=1000000/\l! y.1.2.2.2.2.2.2<=1000000:=by
 let⟨r0,r1,r2,r3⟩:=r;let⟨h0,h1,h2,h3⟩:=hr;dsimp only at h0 h1 h2 h3;unfold rQ ik jK kV bf bA bH cF dM gz ja jS Prod.v Prod.z dT ic bq bT bZ aZ aH;refine ay (gM 4 t h) λy hy=>?_
 refine be aiz ?_;refine ay (gM _ y.2 hy.1.p) λz hz=>?_
 let⟨y1,yt⟩:=y;let⟨z1,zt⟩:=z;let⟨ty,yy0,yy1,yy2⟩:=hy;let⟨tz,zz0,zz1,_⟩:=hz;dsimp only at ty yy0 yy1 yy2 tz zz0 zz1;have yy1:=yy1 (by decide);have hzl:=zz1 (by decide);refine aO zz0 hzl (aS ?_);generalize (geti _ _ z1)=k;refine ay (gM 6 zt tz.p) λv D=>?_
 let⟨v1,vt⟩:=v;have tv:=D.1;dsimp only at tv;have tt:=(ty.trans tz).trans tv;have hadv:t.2<l! t.1->t.2<vt.2:=λh=>by
  have:=yy2 h (by decide);have:=tz.m;have:=tv.m;omega
 refine aY (λx=>x.1=vt/\x.2.1=r0/\x.2.2.1=r1/\x.2.2.2.1=r2/\x.2.2.2.2.1=r3/\x.2.2.2.2.2.1=s/\x.2.2.2.2.2.2.1=w) ?_ ?_
 .refine aY (λx=>x.2.1=vt/\x.2.2.1=r0/\x.2.2.2.1=r1/\x.2.2.2.2.1=r2/\x.2.2.2.2.2.1=r3/\x.2.2.2.2.2.2.1=s/\x.2.2.2.2.2.2.2.1=w) ?_ ?_
  .with_reducible repeat' first|apply OS.ok;constructor|refine IM.mk λ_=>?_
   all_goals exact⟨rfl,rfl,rfl,rfl,rfl,rfl,rfl⟩
  .rintro⟨p,q⟩ hq;dsimp only at hq;with_reducible repeat' first|apply OS.ok;constructor|refine IM.mk λ_=>?_
   all_goals exact hq
 rintro⟨x1,x2,x3,x4,x5,x6,x7,x8,x9,x10⟩ ⟨L,f2,f3,f4,f5,f6,f7⟩;dsimp only at L f2 f3 f4 f5 f6 f7;subst L f2 f3 f4 f5 f6 f7;refine ay (ae9 _ _ _ tv.p) λo ho=>?_
 let⟨o1,ot⟩:=o;let⟨to,ho⟩:=ho;dsimp only at to ho;refine ay (adx _ hs _ _ (λhk=>ho (.inl hk)) _ to.p) λq hq=>?_
 let⟨q1,qt⟩:=q;dsimp only at hq;have tq:=(tt.trans to).trans hq;have hadv2:t.2<l! t.1->t.2<qt.2:=λh=>by have:=hadv h;have:=to.m;have:=hq.m;omega
 have row:∀(T:o!) (c:η) {R:Type} (k:η×((η×Int)×η)->M R) (Q:R->Prop),xa t T->l! c<=1000000->(∀v T',xa T T'->l! v<=1000000->Ok (k (v,T',c)) Q)->Ok (aA (iz (T,c)) k) Q:=λT c R k Q A hc hk=>by
  refine ay (amy T A.p c hc) λy hy=>?_
  grind
 refine aY (λx=>xa t x.1/\(t.2<l! t.1->t.2<x.1.2)/\x.2.1=x2/\x.2.2.1=x3/\x.2.2.2.1=x4/\x.2.2.2.2.1=x5/\l! x.2.2.2.2.2.2.2.2.2.2.2<=1000000) ?_ ?_
 .refine aY (λx=>x.2.1=qt/\x.2.2.1=x2/\x.2.2.2.1=x3/\x.2.2.2.2.1=x4/\x.2.2.2.2.2.1=x5) ?_ ?_
  .refine aL (λ_=>ak ⟨rfl,rfl,rfl,rfl,rfl⟩) λ_=>?_
   refine aL (λhk=>?_) λ_=>aL (λhk=>?_) λ_=>ak ⟨rfl,rfl,rfl,rfl,rfl⟩
   .exact aO (ho (.inl hk)).1 (by dsimp only;rw[hw];exact (ho (.inl hk)).2) (aS (ak ⟨rfl,rfl,rfl,rfl,rfl⟩))
   .exact aO (ho (.inr hk)).1 (by dsimp only;rw[hw];exact (ho (.inr hk)).2) (aS (ak ⟨rfl,rfl,rfl,rfl,rfl⟩))
  .rintro⟨b,p1,p2,p3,p4,p5,p6⟩ ⟨L,f2,f3,f4,f5⟩;dsimp only at L f2 f3 f4 f5;subst L f2 f3 f4 f5;refine aP (λ_=>?_) λ_=>ak ⟨tq,hadv2,rfl,rfl,rfl,rfl,by simp⟩
   have adv3:∀T',xa p1 T'->t.2<l! t.1->t.2<T'.2:=λT' A h=>by have:=hadv2 h;have:=A.m;omega
   refine aL (λ_=>?_) λ_=>aL (λ_=>?_) λ_=>aL (λ_=>?_) λ_=>aL (λ_=>?_) λ_=>?_
   .refine row p1 p2 _ _ tq h0 λv T' A D=>?_
    refine cU (mR rfl (D_ ?_));exact ak ⟨tq.trans A,adv3 T' A,rfl,rfl,rfl,rfl,D⟩
   .refine row p1 p3 _ _ tq h1 λv T' A D=>?_
    refine cU (mR rfl (D_ ?_));exact ak ⟨tq.trans A,adv3 T' A,rfl,rfl,rfl,rfl,D⟩
   .refine row p1 p4 _ _ tq h2 λv T' A D=>?_
    refine cU (mR rfl (D_ ?_));exact ak ⟨tq.trans A,adv3 T' A,rfl,rfl,rfl,rfl,D⟩
   .refine row p1 p5 _ _ tq h3 λv T' A D=>?_
    refine cU (mR rfl (D_ ?_));exact ak ⟨tq.trans A,adv3 T' A,rfl,rfl,rfl,rfl,D⟩
   .omega
 rintro⟨u1,u2,u3,u4,u5,u6,u7,u8,u9,u10,u11,u12⟩ ⟨L,f2,f3,f4,f5,f6,f7⟩;dsimp only at L f2 f3 f4 f5 f6 f7;subst f3 f4 f5 f6;refine aY (λx=>xa t x.1/\(t.2<l! t.1->t.2<x.1.2)/\x.2.1=u2/\x.2.2.1=u3/\x.2.2.2.1=u4/\x.2.2.2.2.1=u5/\l! x.2.2.2.2.2.2.2.2.2.2.2.1<=1000000/\l! x.2.2.2.2.2.2.2.2.2.2.2.2<=1000000) ?_ ?_
 .refine aY (λx=>x.2=(u1,u2,u3,u4,u5,u6,u7,u8,u9,u10,u11,u12)) ?_ ?_
  .with_reducible repeat' first|apply OS.ok;constructor|refine IM.mk λ_=>?_
   all_goals rfl
  .rintro⟨b,x⟩ e;dsimp only at e;subst e;refine aP (λ_=>?_) λ_=>ak ⟨L,f2,rfl,rfl,rfl,rfl,f7,by simp⟩
   have adv3:∀T',xa u1 T'->t.2<l! t.1->t.2<T'.2:=λT' A h=>by have:=f2 h;have:=A.m;omega
   refine aL (λ_=>?_) λ_=>aL (λ_=>?_) λ_=>aL (λ_=>?_) λ_=>aL (λ_=>?_) λ_=>?_
   .refine row u1 u2 _ _ L h0 λv T' A D=>?_
    refine cU (mR rfl (D_ ?_));exact ak ⟨L.trans A,adv3 T' A,rfl,rfl,rfl,rfl,f7,D⟩
   .refine row u1 u3 _ _ L h1 λv T' A D=>?_
    refine cU (mR rfl (D_ ?_));exact ak ⟨L.trans A,adv3 T' A,rfl,rfl,rfl,rfl,f7,D⟩
   .refine row u1 u4 _ _ L h2 λv T' A D=>?_
    refine cU (mR rfl (D_ ?_));exact ak ⟨L.trans A,adv3 T' A,rfl,rfl,rfl,rfl,f7,D⟩
   .refine row u1 u5 _ _ L h3 λv T' A D=>?_
    refine cU (mR rfl (D_ ?_));exact ak ⟨L.trans A,adv3 T' A,rfl,rfl,rfl,rfl,f7,D⟩
   .omega
 rintro⟨a1,a2,a3,a4,a5,a6,a7⟩ ⟨g1,g2,g3,g4,g5,g6,g7,g8⟩;dsimp only at g1 g2 g3 g4 g5 g6 g7 g8;subst g3 g4 g5 g6;exact ak ⟨g1,rfl,g2,g7,g8⟩
def EvS (e:ET):Prop:=l! e.2.2.2.2.2.1<=1000000/\l! e.2.2.2.2.2.2<=1000000
def an9 (hm:i<=1000) (s:SN) (hs:SZ i s) (w:WT) (hw:l! w.1=5) (hwt:l! w.2.2.2.2.1=4) (hwc:l! w.2.2.1<=1000) (n:Int) (hn:n<=60) (t:o!) (h:TP t):Ok (ua ((s,w,n,af),t)) λy=>(∀e∈y.1,EvS e)/\l! y.1<=60:=by
 unfold ua bf bA bH cF dM gz ja jS HR c_ dT ic xg vn Prod.w bq bU bT bZ aZ c5 aH;refine cU (cU (cU (dG (by simp) (dG (dx _) (bO (by grind) (by omega) (abq (by grind) ?_))))));refine aY (λx=>x=(t,s,w,[],[],[],[])) ⟨_,rfl,rfl⟩ ?_;rintro x rfl;refine rH (λx=>((l! t.1:Int)-x.1.2).toNat) (λx=>xa t x.1/\x.2.2.1=w/\SZ (i+l! x.2.2.2.1) x.2.1/\l! x.2.2.2.1<=60/\(∀e∈x.2.2.2.1,EvS e)/\RB4 (l! x.2.2.2.1) x.2.2.2.2) ?_ ⟨xa.refl h,rfl,(by simpa using hs),by simp,λe he=>(by cases he),⟨by simp,by simp,by simp,by simp⟩⟩;rintro⟨A,s,w',out,r⟩ ⟨i1,i2,i3,i4,i5,i6⟩;dsimp only at i1 i2 i3 i4 i5 i6;subst i2;refine aY (λx=>x.2=(A,s,w',out,r)/\(x.1=J->l! out<60/\A.2<l! A.1)) ?_ ?_
 .refine bN (λh1=>ak ⟨rfl,λh2=>?_⟩) λ_=>ak ⟨rfl,nofun⟩
  rw[r7]at h2
  grind
 rintro⟨b,x⟩ ⟨e,hb⟩;dsimp only at e hb;subst e;refine aP (λh1=>?_) λ_=>ak ⟨i5,i4⟩
 let⟨ho,ht⟩:=hb h1;let⟨q0,q1,q2,q3⟩:=id i6;refine aY (λx=>xa A x.1/\A.2<x.1.2/\x.2.2.1=w'/\SZ (i+l! x.2.2.2.1) x.2.1/\l! x.2.2.2.1<=60/\(∀e∈x.2.2.2.1,EvS e)/\RB4 (l! x.2.2.2.1) x.2.2.2.2) ?_ ?_
 .refine ay (ak3 s i3 w' hw A i1.p r ⟨by omega,by omega,by omega,by omega⟩) λy hy=>?_
  let⟨ev,tp',r'⟩:=y;let⟨j1,j2,j3,L,D⟩:=hy;dsimp only at j1 j2 j3 L D;subst j2;have j3:=j3 ht;refine cU (mR rfl (cU (mR rfl (cU (mR rfl (cU (mR rfl (D_ ?_))))))));refine ay (Jd w' s i3.nb hwc ev (.inl (by omega)) (.inl (by omega))) λz hz=>?_
  refine eQ (λ_=>ak ⟨j1,j3,rfl,i3,i4,i5,i6⟩) λh2=>?_
  let⟨z1,z2⟩:=z;let⟨hE,hS,_⟩:=hz.1 h2;have hS2:=i3.step hS (by omega);refine aY (λx=>x.1=tp'/\x.2.2.1=w'/\x.2.2.2.1=out/\EvS x.2.2.2.2.1/\x.2.2.2.2.2.1=z1/\RB4 (l! out+1) x.2.2.2.2.2.2) ?_ ?_
  .refine aY (λx=>x.2=(tp',s,w',out,ev,z1,r')) ?_ ?_
   .refine aL (λ_=>ak rfl) λ_=>ak rfl
   .rintro⟨b,x⟩ e;dsimp only at e;subst e;have hk:=i3.k;let⟨ev1,ev2⟩:=ev;have t0:=hE.t0;have t1:=hE.t1;rw[hwt]at t1;dsimp only at t0 t1;refine aP (λ_=>?_) λ_=>ak ⟨rfl,rfl,rfl,⟨L,D⟩,rfl,⟨by dsimp only;omega,by dsimp only;omega,by dsimp only;omega,by dsimp only;omega⟩⟩
    refine aL (λ_=>?_) λ_=>aL (λ_=>?_) λ_=>aL (λ_=>?_) λ_=>aL (λ_=>?_) λ_=>?_
    .exact aO (by decide) (by dsimp only;omega) (aS (a! (ak ⟨rfl,rfl,rfl,⟨L,D⟩,rfl,⟨by simp;omega,by dsimp only;omega,by dsimp only;omega,by dsimp only;omega⟩⟩)))
    .exact aO (by decide) (by dsimp only;omega) (aS (a! (ak ⟨rfl,rfl,rfl,⟨L,D⟩,rfl,⟨by dsimp only;omega,by simp;omega,by dsimp only;omega,by dsimp only;omega⟩⟩)))
    .exact aO (by decide) (by dsimp only;omega) (aS (a! (ak ⟨rfl,rfl,rfl,⟨L,D⟩,rfl,⟨by dsimp only;omega,by dsimp only;omega,by simp;omega,by dsimp only;omega⟩⟩)))
    .exact aO (by decide) (by dsimp only;omega) (aS (a! (ak ⟨rfl,rfl,rfl,⟨L,D⟩,rfl,⟨by dsimp only;omega,by dsimp only;omega,by dsimp only;omega,by simp;omega⟩⟩)))
    .dsimp only at *;omega
  .rintro⟨x1,x2,x3,x4,x5,x6,x7⟩ ⟨k1,k2,k3,k4,k5,k6⟩;dsimp only at k1 k2 k3 k4 k5 k6;subst k1 k2 k3 k5;refine a! (ak ⟨j1,j3,rfl,?_,by simp;omega,λe he=>?_,?_⟩)
   .grind
   .grind
   .grind
 rintro⟨tp',s',w'',out',r'⟩ ⟨k1,k2,k3,k4,k5,k6,k7⟩;dsimp only at k1 k2 k3 k4 k5 k6 k7;have e1:=i1.e;have a1:=k1.p.a1;have e2:=k1.e;refine ak ⟨⟨i1.trans k1,k3,k4,k5,k6,k7⟩,?_⟩;dsimp only;rw[e2,e1]at a1;omega
def C0:Y (ζ×o?):=[([120],0,0,af,0),([121],0,0,af,1),([118],0,0,J,0),([113],0,2,af,0),([113],1,2,af,0)]
def KB:Y H!:=[([109],af),([110],af),([114],J)]
def Pt:Y (ζ×Int):=[([99],0)]
def Yi:Y ζ:=[[102]]
def Ad:Y ζ:=[[109,97,105,110],[116,49],[116,50],[116,51]]
structure WX (w:WT):Prop where
 c:w.1=C0
 l:w.2.1=KB
 d:w.2.2.1=Pt
 f:w.2.2.2.1=Yi
 t:∃n,1<=n/\n<=4/\w.2.2.2.2.1=Ad.take n
 s:l! w.2.2.2.2.2<=60
 v:SV0 w
structure W0 (w:WT):Prop where
 c:l! w.1=5
 l:l! w.2.1=3
 d:l! w.2.2.1=1
 f:l! w.2.2.2.1=1
 t:l! w.2.2.2.2.1=4
 s:l! w.2.2.2.2.2<=24
 x:WX w
def W0.vl {w:WT} (h:W0 w):VL w:=⟨by rw[h.c];decide,by rw[h.l];decide,by rw[h.d];decide,by rw[h.f];decide,by rw[h.t];decide,by rw[h.t];decide,by have:=h.s;omega⟩
def nxS (i j:Nat):ν:=if j=0 then (if i=0 then (0,0) else ((i:Int)-1,6)) else (i,j)
def ab7 {l:Y π} {s:π}:Pn a (l++[s])=Ym a (Pn a l) s:=by unfold Pn;rw[dO];rfl
def X4:Ok (oU ()) W0:=by
 unfold oU bf bA bH cF ic bU bT c5 aH cS;refine cA 4 (λi x=>x.1=(i:Int)/\x.2.1=C0/\x.2.2.1=KB/\x.2.2.2.1=Pt/\x.2.2.2.2.1=Yi/\x.2.2.2.2.2.1=Ad/\l! x.2.2.2.2.2.2<=6*i/\Pn 4 x.2.2.2.2.2.2=Z (nxS i 0)) ?_ ?_ ⟨rfl,rfl,rfl,rfl,rfl,rfl,by simp,rfl⟩
 .rintro i ⟨a,w1,w2,w3,w4,w5,w6⟩ hi ⟨e1,e2,e3,e4,e5,L,e7,D⟩;subst e1;refine bN (λ_=>?_) λg=>(by grind)
  refine cA 6 (λj x=>x.1=(j:Int)/\x.2.1=w1/\x.2.2.1=w2/\x.2.2.2.1=w3/\x.2.2.2.2.1=w4/\x.2.2.2.2.2.1=w5/\l! x.2.2.2.2.2.2<=6*i+j/\Pn 4 x.2.2.2.2.2.2=Z (nxS i j)) ?_ ?_ ⟨rfl,rfl,rfl,rfl,rfl,rfl,by dsimp only;omega,D⟩
  .rintro j ⟨b,v1,v2,v3,v4,v5,v6⟩ hj ⟨d1,d2,d3,d4,d5,d6,d7,d8⟩;dsimp only at d1 d2 d3 d4 d5 d6 d7 d8;subst d1;refine dJ ?_;refine bO (by grind) (by omega) (ak ?_);refine ⟨iG,d2,d3,d4,d5,d6,by simp;omega,?_⟩;rw[ab7,d8];by_cases z:j=0
   .subst z;by_cases A:i=0
    .subst A;rfl
    .rw[show nxS i 0=((i:Int)-1,6) by unfold nxS;simp[A],show nxS i (0+1)=((i:Int),1) by unfold nxS;simp];unfold Ym
     grind
   .rw[show nxS i j=((i:Int),(j:Int)) by unfold nxS;simp[z],show nxS i (j+1)=((i:Int),(j:Int)+1) by unfold nxS;simp];unfold Ym
    grind
  .rintro⟨b,v1,v2,v3,v4,v5,v6⟩ ⟨d1,d2,d3,d4,d5,d6,d7,d8⟩;subst d1 d2 d3 d4 d5 d6;refine dC (ak ?_);refine ⟨iG,e2,e3,e4,e5,L,by omega,?_⟩;rw[d8];unfold nxS;simp
 .rintro⟨a,w1,w2,w3,w4,w5,w6⟩ ⟨e1,e2,e3,e4,e5,L,e7,D⟩;dsimp only at e1 e2 e3 e4 e5 L e7 D;subst e2 e3 e4 e5 L;refine bN (λg=>(by grind)) λ_=>ak ?_
  refine ⟨rfl,rfl,rfl,rfl,rfl,by dsimp only;omega,rfl,rfl,rfl,rfl,⟨4,by decide,by decide,rfl⟩,by dsimp only;omega,?_⟩;show Pn 4 w6≠U;rw[D];simp
variable {j:Nat}
def SZ.mono {s:SN} (h:SZ i s) (hnm:i<=j) (hm:j<=100000):SZ j s:=
 ⟨⟨⟨hm,h.nb.sb.lk,λl z=>c6 (h.nb.sb.rd l z) hnm,h.nb.sb.dn,h.nb.sb.th⟩,h.nb.c,h.nb.f,h.nb.k⟩,h.c,h.f,h.k⟩
def aal (w:WT) (z:W0 w):Ok (oE w) λs=>SZ 0 s:=by
 refine (aam w z.vl).mono λs A=>⟨A.1,?_,?_,?_⟩
 .rw[A.2.1,z.c]
 .rw[A.2.2.1,z.f]
 .rw[A.2.2.2,z.t]
structure WB (w:WT):Prop where
 c:l! w.1<=12
 l:l! w.2.1<=4
 d:l! w.2.2.1<=2
 f:l! w.2.2.2.1<=2
 t:l! w.2.2.2.2.1<=4
 s:l! w.2.2.2.2.2<=60
def VL.wb {w:WT} (h:VL w):WB w:=⟨h.c,h.l,h.d,h.f,h.t,h.s⟩
structure TR (y:WT×List ET):Prop where
 wb:WB y.1
 vl:VL y.1
 ev:∀e∈y.2,R2 y.1 e
 len:l! y.2<=400
 ls:∀e∈y.2,EvS e
 wx:WX y.1
 ac:∃sy ce fu,Acw y.1 y.2 sy ce fu
def Me (L:η) (n:Int) (hl:l! L<=9223372036854775807) (hb:∀x∈L,0<=x/\x<=255):Ok (rR (L,n)) TR:=by
 unfold rR bf bA bH eR dT bU kB jP bT kY aZ c5 aH cS;refine aY (λx=>l! x<=600/\∀z∈x,0<=z/\z<=255) ?_ ?_
 .refine bN (λg=>?_) λg=>?_
  .dsimp only[aB]at g;refine cU (a? (a? (ak ⟨by dsimp only;rw[cu];simp;omega,λz hz=>hb z (im hz)⟩)))
  .dsimp only[aB]at g;exact ak ⟨by dsimp only;omega,hb⟩
 rintro L' ⟨hL,hB⟩;refine ay X4 λw A=>?_
 have hvl:=A.vl;refine ay (aal w A) λs hs=>?_
 refine ay (gM 3 (L',0) ⟨by dsimp only;omega,hB,by dsimp only;omega,by dsimp only;omega⟩) λy hy=>?_
 let⟨y1,yt⟩:=y;let⟨ty,yy0,yy1,_⟩:=hy;have yy1:=yy1 (by decide);dsimp only at ty yy0 yy1;have ew:bm .i64 (1+y1)=1+y1:=iQ;refine rH (λx=>(1+y1+1-x.1).toNat) (λx=>1<=x.1/\x.1<=2+y1/\x.2.1=yt/\x.2.2.1=w/\x.2.2.2.1=s/\((l! x.2.2.2.2:Nat):Int)<=2*x.1/\∀e∈x.2.2.2.2,EvS e) ?_ ⟨by dsimp only;omega,by dsimp only;omega,rfl,rfl,rfl,by simp,λe he=>?_⟩
 .rintro⟨a,t,w',s',es⟩ ⟨e1,e2,e3,e4,e5,e6,e7⟩;dsimp only at e1 e2 e3 e4 e5 e6 e7;subst e3 e4 e5;refine fD (λg=>?_) λg=>?_
  .dsimp only at g;rw[ew]at g;refine a! (ak ?_);dsimp only;rw[iQ (n:=a+1) (by omega) (by omega)];refine ⟨⟨by omega,by omega,rfl,rfl,rfl,by simp;omega,λe he=>?_⟩,by omega⟩;rcases bL.1 he with he|he
   .exact e7 e he
   .simp only[aV,b7,fk]at he;rcases he with he|he<;>subst he<;>exact⟨by simp,by simp⟩
  .refine ay (P:=TR) ?_ λr hr=>ak hr
   refine cA (l! es) (λi x=>x.1=(i:Int)/\TP x.2.1/\x.2.2.1=w'/\SZ i x.2.2.2.1/\x.2.2.2.2.1=es/\l! x.2.2.2.2.2<=i/\∀e∈x.2.2.2.2.2,EvS e) ?_ ?_ ⟨rfl,ty.p,rfl,hs,rfl,by simp,λe he=>(by cases he)⟩
   .rintro i ⟨b,t,w',s',es',out⟩ hi ⟨d1,d2,d3,D,d5,d6,d7⟩;dsimp only at d1 d2 d3 D d5 d6 d7;subst d1 d3 d5;refine dJ ?_;refine aY (λx=>TP x.1/\x.2.1=w'/\SZ (i+1) x.2.2.1/\x.2.2.2.1=es'/\l! x.2.2.2.2<=i+1/\∀e∈x.2.2.2.2,EvS e) ?_ ?_
    .refine cE (cE (aS ?_));have hz:=e7 _ (bM (T:=.st (.pr (.int .i64) (.pr (.int .i64) (.pr (.int .i64) (.pr (.int .i64) (.pr (.int .i64) (.pr (.sl (.int .i64)) (.sl (.int .i64))))))))) (xs:=es') (j:=(i:Int)) (by omega) (by omega));revert hz;generalize (geti _ _ _)=z;intro hz;refine ay (Jd w' s' D.nb (by rw[A.d];decide) z (.inl (by have:=hz.1;omega)) (.inl (by have:=hz.2;omega))) λv hv=>?_
     refine aP (λh=>?_) λh=>ak ⟨d2,rfl,D.mono (by omega) (by omega),rfl,by dsimp only;omega,d7⟩
     refine a! (ak ⟨d2,rfl,D.step (hv.1 h).2.1 (by omega),rfl,by simp;omega,λe he=>?_⟩)
     grind
    .rintro⟨t,w'',s'',es'',out'⟩ ⟨f1,f2,f3,f4,f5,f6⟩;dsimp only at f1 f2 f3 f4 f5 f6;refine ak ?_;dsimp only;exact⟨iG,f1,f2,f3,f4,f5,f6⟩
   .rintro⟨b,t,w',s',es',out⟩ ⟨d1,d2,d3,D,d5,d6,d7⟩;dsimp only at d1 d2 d3 D d5 d6 d7;subst d1 d3 d5;refine dC ?_;refine ay (P:=TR) ?_ λr hr=>ak hr
    have hmin:KQ (jR n 0) 60<=60:=by
     unfold KQ;split
     .omega
     next h=>simp[gD]at h;exact h
    refine ay (an9 (by omega) s' D w' A.c A.t (by rw[A.d];decide) _ hmin t d2) λv hv=>?_
    refine bO (by have:=hv.2;dsimp only;omega) (by omega) ?_;have hall:∀e∈out++v.1,EvS e:=λe he=>by grind
    refine ay (am6 w' (out++v.1)) λc hc=>?_
    refine ca (λ_=>?_) λh=>?_
    .exact ay X4 λu hu=>ak ⟨hu.vl.wb,hu.vl,λe he=>(by cases he),by simp,λe he=>(by cases he),hu.x,_,_,_,.nil⟩
    .exact ak ⟨(hc h).1.1.wb,(hc h).1.1,(hc h).2.1,by have:=hv.2;simp;omega,hall,A.x,(hc h).2.2⟩
 .rw[aE]at he;subst he;exact⟨by simp,by simp⟩
def an4 {rows:Y θ} {e:ET} (L:0<=a) (D:a<l! rows) (h1:∀y∈e.2.2.2.2.2.1,0<=y/\(rx (T:=.bool) rows a).getD y.toNat af=J) (h2:∀y∈e.2.2.2.2.2.2,0<=y/\(rx (T:=.bool) rows a).getD y.toNat af=J) (ld:l! e.2.2.2.2.2.1<=1000000) (lf:l! e.2.2.2.2.2.2<=1000000):eU (((a,aQ (l! (rx (T:=.bool) rows a))),e),rows)=Z (J,rows):=by
 refine cX ?_;unfold eU k_ dM xg bU kB mK bT bZ aZ c5 aH cS;refine iL 2 (by omega) (λi x=>x=(((a,aQ (l! (rx (T:=.bool) rows a))),(i:Int)),rows)) ?_ ?_ rfl
 .rintro i x hi rfl;refine bN (λ_=>?_) λg=>(by dsimp only at g;omega)
  refine cU (a? (Dh (by dsimp only;omega) (aS ?_)));have hr:∃l:η,geti (.sl aM) [e.2.2.2.2.2.1,e.2.2.2.2.2.2] (i:Int)=l/\(∀y∈l,0<=y/\(rx (T:=.bool) rows a).getD y.toNat af=J)/\l! l<=1000000:=by
   match i,hi with
   |0,_=>exact⟨_,rfl,h1,ld⟩
   |1,_=>exact⟨_,rfl,h2,lf⟩
  let⟨l,er,hA,hl⟩:=hr;dsimp only;rw[er];generalize hR:rx (T:=.bool) rows a=r at*
  refine iL (l! l) (by omega) (λj x=>x=(((a,aQ (l! r)),(j:Int)),rows)) ?_ ?_ rfl
  .rintro j x hj rfl;refine dJ ?_;have m:=hA _ (bM (T:=aM) (xs:=l) (j:=(j:Int)) (by omega) (by omega));refine cE (aS (aY (λx=>x=(((a,aQ (l! r)),af),rows)) ?_ ?_))
   .obtain⟨z,hze⟩:∃z:Int,geti aM l (j:Int)=z:=⟨_,rfl⟩
    have m:0<=z/\r.getD z.toNat af=J:=by rw[<- hze];exact m
    dsimp only;rw[hze];have hz:z.toNat<l! r:=by
     rcases cC z.toNat (l! r) with g|g
     .exact g
     .have:=m.2;rw[aw,c7 g]at this;cases this
    have A:(0:Int)<=z:=m.1;have hzi:(z:Int)<(l! r:Int):=by omega
    refine bN (λg=>cq A (Int.not_le.2 g)) λ_=>fD (λg=>cq hzi (Bn.2 g)) λ_=>aO A hzi (aO L D ?_)
    rw[hR];refine aO A hzi (aS (ak ?_));have:geti (.bool) r z=J:=m.2;dsimp only;rw[this];rfl
   rintro x rfl;refine jB (ak ?_);dsimp only;rw[iG];rfl
  .rintro x rfl;refine dC (ak ?_);dsimp only;rw[iG];rfl
 .rintro x rfl;exact bN (λg=>(by dsimp only at g;omega)) λ_=>ak rfl
abbrev W8 (n:Nat) (s:Y π):WT:=(C0,KB,Pt,Yi,Ad.take n,s)
def WX.w8 {w:WT} (z:WX w):∃n,(n=1\/n=2\/n=3\/n=4)/\w=W8 n w.2.2.2.2.2:=by
 let⟨h1,h2,h3,h4,⟨n,D,A,L⟩,_,_⟩:=z
 grind
abbrev sn8 (w:WT):SN:=(So w,ce0 w,fu0 w,aC (l! w.2.2.2.2.1) 0)
def Pm (s:Y π):fe (W8 1 s)=Z (sn8 (W8 1 s)):=by kernel_rfl
def st2 (s:Y π):fe (W8 2 s)=Z (sn8 (W8 2 s)):=by kernel_rfl
def st3 (s:Y π):fe (W8 3 s)=Z (sn8 (W8 3 s)):=by kernel_rfl
def st4 (s:Y π):fe (W8 4 s)=Z (sn8 (W8 4 s)):=by kernel_rfl
def auc {w:WT} (z:WX w):fe w=Z (sn8 w):=by
 let⟨n,A,e⟩:=z.w8;rw[e];rcases A with rfl|rfl|rfl|rfl
 .exact Pm _
 .exact st2 _
 .exact st3 _
 .exact st4 _
abbrev VN4:Y ζ:=[[120],[121],[118],[113]]
def vc8:iu C0=Z (VN4,J):=by kernel_rfl
def vn1 (s:Y π):ef (W8 1 s,VN4)=Z J:=by kernel_rfl
def vn2 (s:Y π):ef (W8 2 s,VN4)=Z J:=by kernel_rfl
def vn3 (s:Y π):ef (W8 3 s,VN4)=Z J:=by kernel_rfl
def vn4 (s:Y π):ef (W8 4 s,VN4)=Z J:=by kernel_rfl
def vs8 {w:WT} (L:WX w) (hb:VL w):gy w=Z J:=by
 have hv:=L.v;have hs:=L.s;have ht:=hb.t0;refine cX ?_;unfold gy ma bf bA cF dT bU jP bZ aZ c5 aH cS;refine iL (l! w.2.2.2.2.2) (by omega) (λi x=>∃t n:Int,x=((t,n,(i:Int)),w)/\Pn (l! w.2.2.2.2.1) (w.2.2.2.2.2.take i)=Z (t,n)/\0<=t/\t<l! w.2.2.2.2.1/\0<=n/\n<=i) ?_ ?_ ⟨0,0,rfl,rfl,by omega,by omega,by omega,by omega⟩
 .rintro i x hi ⟨t,n,rfl,h1,t0,t1,n0,n1⟩;refine dJ ?_;refine cE (aS ?_);have D:=ab6 hv (i+1);have A:Pn (l! w.2.2.2.2.1) (w.2.2.2.2.2.take (i+1))=Ym (l! w.2.2.2.2.1) (Z (t,n)) (geti pW w.2.2.2.2.2 (i:Int)):=by rw[Mc hi,h1]
  rw[A]at D;revert D A;generalize geti pW w.2.2.2.2.2 (i:Int)=z;intro D A;obtain⟨(a:Int),(b:Int),(c:Int)⟩:=z;have h5:(a=t/\b=n)\/(t<a/\a<l! w.2.2.2.2.1/\b=0):=by
   simp[Ym]at D
   grind
  refine aY (λx=>x=(af,w,a,b,c)) ?_ ?_
  .refine dC (ak ?_);rw[nF.2 (by grind)]
  rintro x rfl;rcases h5 with ⟨rfl,rfl⟩|⟨q1,q2,rfl⟩
  .refine aY (λx=>x=((a,b),w,a,b,c)) (dC (ak rfl)) ?_;rintro x rfl;refine ca (λg=>(g rfl).elim) λ_=>ak ⟨a,b+1,?_,?_,t0,t1,by omega,by omega⟩
   .rw[iQ (n:=b+1) (by omega) (by omega),iG]
   .rw[A];simp[Ym]
  .refine aY (λx=>x=((a,0),w,a,0,c)) (dJ (ak rfl)) ?_;rintro x rfl;refine ca (λg=>(g rfl).elim) λ_=>ak ⟨a,1,?_,?_,by omega,q2,by omega,by omega⟩
   .rw[iQ (n:=0+1) (by omega) (by omega),iG];rfl
   .rw[A];show (if a=t/\(0:Int)=n then Z (t,n+1) else if t<a/\a<_/\(0:Int)=0 then Z (a,1) else U)=Z (a,1)
    grind
 .rintro x ⟨t,n,rfl,_⟩;exact dC (ak rfl)
def VW8 {w:WT} (z:WX w) (hb:VL w):iv w=Z J:=by
 have hs:=vs8 z hb;have hvn:ef (w,VN4)=Z J:=by
  let⟨n,hn,e⟩:=z.w8;rw[e];rcases hn with rfl|rfl|rfl|rfl
  .exact vn1 _
  .exact vn2 _
  .exact vn3 _
  .exact vn4 _
 have hc:=z.c;have hd:=z.d;have hl:=z.l;let⟨w1,w2,w3,L,D,A⟩:=w;let⟨b1,b2,b3,b4,b0,b5,b6⟩:=hb;subst hc hd hl;refine cX ?_;have f:∀n m:Nat,n<=m->gD (m:Int) (aQ n)=af:=λn m h=>kh.2 (by grind)
 refine aY (λx=>x=(af,C0,KB,Pt,L,D,A)) ?_ ?_
 .refine j8 rfl (j8 rfl (j8 rfl (j8 (f _ 2 b4) (ak ?_))))
  grind
 rintro x rfl;refine jB (aY (λx=>x=(af,C0,KB,Pt,L,D,A)) ?_ ?_)
 .refine j8 (kh.2 (by grind)) (ak ?_)
  grind
 rintro x rfl;refine jB (be vc8 (aY (λx=>x=(af,C0,KB,Pt,L,D,A)) ?_ ?_))
 .exact jB (be hvn (ak rfl))
 rintro x rfl;refine jB (iL 1 (by omega) (λi x=>x=((i:Int),C0,KB,Pt,L,D,A)) ?_ ?_ rfl)
 .rintro i x hi rfl;have:i=0:=by omega
  subst this;refine qU rfl (bt rfl (aS (be (x:=J) ?_ (jB (ak rfl)))));rfl
 .rintro x rfl;exact j8 rfl (be (x:=J) (by rw[hs];rfl) (ak rfl))
abbrev eN (l:Y ET) (i:Nat):ET:=geti j7 l (i:Int)
def yi {l:Y ET} (h:i<l! l):eN l i∈l:=bM (T:=j7) (by omega) (by omega)
def ath {e:ET} (h:i<l! k):eN (k++[e]) i=eN k i:=by
 unfold eN;rw[yg,yg,aw,aw,bI h]
def aoq (l:Y ET) (e:ET):eN (l++[e]) (l! l)=e:=by
 unfold eN;rw[yg,aw,b_ (bJ _),Ly];rfl
def Jb (w:WT) (l:Y ET):SY×v!:=l.foldl (λs e=>((pV w s.1 e.1 e.2.1 e.2.2.1 e.2.2.2.1).1,ceP s.2.1 e,fuP s.2.2 e)) (So w,ce0 w,fu0 w)
def O3 (w:WT) (h:i<l! k):Jb w (k.take (i+1))=((pV w (Jb w (k.take i)).1 (eN k i).1 (eN k i).2.1 (eN k i).2.2.1 (eN k i).2.2.2.1).1,ceP (Jb w (k.take i)).2.1 (eN k i),fuP (Jb w (k.take i)).2.2 (eN k i)):=by
 rw[pi (T:=j7) h];unfold Jb;rw[dO];rfl
def Acw.all {w:WT} {z:SY} {D:η} (h:Acw w k z D A):Jb w k=(z,D,A)/\∀i,i<l! k->SCx w (k.take i) (Jb w (k.take i)).1 (Jb w (k.take i)).2.1 (Jb w (k.take i)).2.2 (eN k i):=by
 induction h with
 |nil=>exact⟨rfl,λi hi=>cq hi (fY _)⟩
 |snoc h hs L=>
  rename_i k z D A e;let⟨h1,h2⟩:=L;refine ⟨by unfold Jb at h1 ⊢;rw[dO,h1];rfl,λi hi=>?_⟩;rw[bK,cO]at hi;rcases cC i (l! k) with g|g
  .rw[sV (by omega),ath g];exact h2 i g
  .have:i=l! k:=by omega
   subst this;rw[sV (bJ _),cM,aoq,h1];exact hs
def TR.sc {w:WT} (z:TR (w,k)) (h:i<l! k):SCx w (k.take i) (Jb w (k.take i)).1 (Jb w (k.take i)).2.1 (Jb w (k.take i)).2.2 (eN k i):=by
 let⟨A,L,D,ac⟩:=z.ac;exact ac.all.2 i h
def Q8 (r:η):Prop:=Lu r/\∀z∈r,0<=z/\z<4
def P8 (s:Y k!):Prop:=∀x∈s,Q8 x.2
def P8.get {s:Y k!} (h:P8 s) (o:Int):Q8 (geti eJ s o).2:=by
 unfold geti;rw[aw];cases e:s[o.toNat]? with
 |none=>exact⟨trivial,λz A=>by cases A⟩
 |some x=>exact h x (a8 e)
def P8.set {s:Y k!} (h:P8 s) (o a:Int) (r:Q8 A):P8 (cg s o (a,A)):=λx z=>by
 rcases FP z with z|rfl
 .exact h x z
 .exact r
def Fq (p:Int->Bool):∀{l:η},Lu l->Lu (l.filter p)
 |[],_=>trivial
 |x::r,h=>by
  rw[List.filter_cons];split
  .exact⟨λy z=>h.1 y ((List.mem_filter.1 z).1),Fq p h.2⟩
  .exact Fq p h.2
def P8.ite {c:Prop} [Decidable c] {a b:SY×Int} (A:P8 a.1.1) (z:P8 b.1.1):P8 (if c then a else b).1.1:=by by_cases h:c<;>simp[h,A,z]
def P8.ap {w:WT} {s:SY} (h:P8 s.1) (k o v:Int) (L:0<=a) (D:a<4):P8 (pV w s a k o v).1.1:=by
 have ow:∀t b,P8 (Vq s.1 t b):=λt b=>h.set t b (h.get t)
 have un:P8 (rdP s.1 o (yE (geti eJ s.1 o).2 [a])):=h.set _ _ ⟨UP _ _,λz A=>by
  rcases FJ.1 A with A|A
  .exact (h.get o).2 z A
  .rw[aE]at A;subst A;exact⟨L,D⟩⟩
 have wt:P8 (rdP s.1 o (wo (geti eJ s.1 o).2 a)):=h.set _ _ ⟨Fq _ (h.get o).1,λz A=>(h.get o).2 z (List.mem_filter.1 A).1⟩;exact P8.ite h (P8.ite h (P8.ite (ow _ _) (P8.ite (ow _ _) (P8.ite un (P8.ite wt (P8.ite h (P8.ite h (P8.ite h (P8.ite h (P8.ite (ow _ _) (P8.ite (ow _ _) (P8.ite (P8.ite h h) (P8.ite h (P8.ite h (P8.ite h h)))))))))))))))
def EQ (w:WT) (l:Y ET):SN:=l.foldl (nxP w) (sn8 w)
def QX (w:WT) (h:i<l! k):EQ w (k.take (i+1))=nxP w (EQ w (k.take i)) (eN k i):=by
 rw[pi (T:=j7) h];unfold EQ;rw[dO];rfl
structure K8 (w:WT) (l:List ET) (i:Nat) (s:SN):Prop where
 a:(s.1,s.2.1,s.2.2.1)=Jb w (l.take i)
 r:P8 s.1.1
 c:l! s.2.1=l! w.1
 f:l! s.2.2.1=l! w.2.2.2.1
 k:l! s.2.2.2=l! w.2.2.2.2.1
 n:CN (l.take i) s.2.2.2
def ab3 {w:WT} (A:TR (w,k)):∀i:Nat,i<=l! k->K8 w k i (EQ w (k.take i))
 |0,_=>⟨rfl,λx L=>by rw[Ak L];exact⟨trivial,λz D=>by cases D⟩,by simp[EQ,ce0],by simp[EQ,fu0],by simp[EQ],λt t0 t1=>by
   have:(aC (l! w.2.2.2.2.1) (0:Int)).getD t.toNat 0=0:=by grind
   exact this⟩
 |i+1,h=>by
  let⟨a,r,c,f,l,n⟩:=ab3 A i (by omega);have sc:=A.sc (i:=i) (by omega);have hl:=A.len;have ht:=A.wb.t;dsimp only at hl ht;have en:=sc.en;have e1:=en.t1;have htk:=yA i k;rw[QX w (by omega)];refine ⟨?_,r.ap _ _ _ en.t0 (by omega),?_,?_,?_,?_⟩
  .rw[O3 w (by omega),<-a];rfl
  .unfold nxP ceP;split
   .rw[bS];exact c
   .exact c
  .unfold nxP fuP;split
   .rw[bS];exact f
   .exact f
  .unfold nxP;rw[bS];exact l
  .have:=n.next (eN k i) en.t0 (by omega) (by omega);rw[pi (T:=j7) (show i<l! k by omega)];exact this
def asu {w:WT} (z:TR (w,k)) (hi:i<l! k):mh (w,EQ w (k.take i),eN k i)=Z (EQ w (k.take (i+1)),J):=by
 let⟨a,r,c,f,l,n⟩:=ab3 z i (by omega);have sc:=z.sc hi;have D:=z.wx;have ht:=z.wb.t;have hls:=z.ls _ (yi hi);dsimp only at D ht hls;rw[QX w hi];rw[<- a]at sc;generalize EQ w (k.take i)=s at*
 generalize eN k i=e at*
 have en:=sc.en;have e1:=en.t1;have l3:l! w.2.1=3:=by rw[D.l];rfl
 have nc:=n e.1 en.t0 (by omega);have b1:=z.wb.c;have b4:=z.wb.f;have b3:=z.wb.d;dsimp only at b1 b4 b3;have q1:=en.e1;have q2:=en.e2;have q3:=en.e3;dsimp only at q1 q2 q3;refine ay1 (n:=4) w s e ⟨⟨by omega,by omega,λx hx=>?_,by omega,by omega⟩,by omega,by omega,by omega⟩ (by omega) (by omega) ⟨c,f,l⟩ en ⟨sc.rd,sc.s1,sc.s2,sc.de,sc.fr,by rw[nc];exact sc.nd,by rw[nc];exact sc.nf,sc.va⟩ hls.1 hls.2 (λh=>?_) (by omega) r (by omega)
 .have:=LY x.2 0 4 (r x hx).1 (r x hx).2;omega
 .have L:=en.nm.lk (by omega);have A:=en.nm.rw (by omega);generalize e.2.2.1=o at L A;rw[D.l]at L A;have:o=0\/o=1\/o=2:=by have:KB.length=3:=rfl;omega
  rcases this with rfl|rfl|rfl
  .cases A
  .cases A
  .rfl
abbrev fN (l:Y ET) (i:Nat) (t:Int):θ:=fl (l.take i) t
def ate (h:i<l! k) (e:(eN k i).1=a):fN k (i+1) a=fN k i a++[rdE (eN k i)]:=by
 unfold fN;rw[pi (T:=j7) h,wI,CA e]
def ak2 (h:i<l! k) (e:¬(eN k i).1=a):fN k (i+1) a=fN k i a:=by
 unfold fN;rw[pi (T:=j7) h,wI,zG e,pJ]
def atf (l:Y ET) (i:Nat) (t:Int):l! (fN l i t)<=l! l:=c6 (Wr _ _) (List.length_take_le' ..)
structure RwB (w:WT) (l:List ET) (i:Nat) (lens:η) (rows:List θ):Prop where
 ll:l! lens=l! w.2.2.2.2.1
 lr:l! rows=l! w.2.2.2.2.1
 r:∀u:Nat,u<l! w.2.2.2.2.1->rows.getD u []=fN l i (u:Int)
 n:∀u:Nat,u<l! w.2.2.2.2.1->lens.getD u 0=aQ (l! (fN l i (u:Int)))
def RwB.zero (w:WT) (l:Y ET):RwB w l 0 (aC (l! w.2.2.2.2.1) 0) (aC (l! w.2.2.2.2.1) []):=by
 refine ⟨cP ..,cP ..,λu z=>?_,λu z=>?_⟩
 .rw[aw,dk,aD z];rfl
 .rw[aw,dk,aD z];rfl
variable {b:Bool}
def RwB.next {w:WT} (hi:i<l! k) {rows:Y θ} (h:RwB w k i A rows) (D:0<=a) (t1:a<l! w.2.2.2.2.1) (et:(eN k i).1=a) (L:rdE (eN k i)=b):RwB w k (i+1) (sH A (aN a) (aQ (aj (rx (T:=.bool) rows a++[b])))) (vT (T:=.bool) (vT (T:=.bool) rows a []) a (rx (T:=.bool) rows a++[b])):=by
 let⟨h1,h2,lens,h4⟩:=h;have er:rx (T:=.bool) rows a=fN k i a:=by
  have:=lens a.toNat (by omega);rw[yC D]at this;exact this
 have own:=ate hi et;rw[L,<-er]at own;refine ⟨by rw[dt,h1],by unfold vT;rw[dt,dt,h2],λu z=>?_,λu z=>?_⟩
 .unfold vT;rw[aw,eh];by_cases e:a.toNat=u
  .rw[aD e,dt,aD (by omega)];have e':(u:Int)=a:=by omega
   rw[e',own];rfl
  .rw[av e,eh,av e,<-aw,lens u z,ak2 hi (by omega)]
 .rw[aw,eh];by_cases e:a.toNat=u
  .rw[aD e,aD (by omega)];have e':(u:Int)=a:=by omega
   rw[e',own];rfl
  .rw[av e,<-aw,h4 u z,ak2 hi (by omega)]
def am7 {w:WT} (z:TR (w,k)):fO (w,k)=Z (0,0):=by
 have hl:l! k<=400:=z.len;have hT:l! w.2.2.2.2.1<=4:=z.wb.t;refine cX ?_;unfold fO nZ bf bA bH cF eR ic ck bq bU mK bT bZ aZ c5 aH cS;refine j8 (kh.2 (by dsimp only[aB];omega)) (be (VW8 z.wx z.vl) (jB (be (auc z.wx) ?_)));refine cU (cU (dG (by dsimp only[aB];omega) (a? (bO (by simp only[aB,bi];omega) (by omega) ?_))));refine iL (l! k) (by omega) (λi x=>∃lens rows,x=((i:Int),(w,k),EQ w (k.take i),lens,rows)/\RwB w k i lens rows) ?_ ?_ ⟨_,_,by simp only[aB,bi];rfl,RwB.zero w k⟩
 .rintro i x hi ⟨lens,rows,rfl,A⟩;have sc:=z.sc hi;have e1:=sc.en.t1;have e0:=sc.en.t0;have st:=asu z hi;have hls:=z.ls _ (yi hi);have fa:=atf k i (eN k i).1;have et:(eN k i).1=(((eN k i).1.toNat:Nat):Int):=by omega
  have D:rx (T:=.bool) rows (eN k i).1=fN k i (eN k i).1:=by
   have:=A.r (eN k i).1.toNat (by omega);rw[<- et]at this;exact this
  have en:aN (sI lens (eN k i).1)=l! (rx (T:=.bool) rows (eN k i).1):=by
   have:=A.n (eN k i).1.toNat (by omega);rw[<- et,<-D]at this;unfold sI;rw[this];rfl
  have rd:eU (((((eN k i).1,aQ (l! (rx (T:=.bool) rows (eN k i).1))),eN k i),rows))=Z (J,rows):=by
   refine an4 e0 (by rw[A.lr];exact e1) ?_ ?_ hls.1 hls.2
   .rw[D];exact sc.rd1
   .rw[D];exact sc.rd2
  have nx:=λb=>A.next hi e0 e1 rfl (b:=b)
  have l1:=A.ll;have l2:=A.lr;refine dJ (cE (aS ?_));have hg:geti j7 k (i:Int)=eN k i:=rfl;dsimp only;rw[hg];rw[<- D]at fa;clear sc hls D et;generalize eN k i=e at*
  refine be st ?_;refine aY (λx=>x=(af,(w,k),EQ w (k.take i),lens,e,EQ w (k.take (i+1)),rows)) ?_ ?_
  .refine jB (cE (cE ?_));dsimp only;rw[en];exact be rd (ak rfl)
  rintro x rfl;refine jB (aY (λx=>∃lens' rows',x=((w,k),EQ w (k.take i),lens',EQ w (k.take (i+1)),rows')/\RwB w k (i+1) lens' rows') ?_ ?_)
  .refine cE (cE ?_);dsimp only;rw[en];refine aL (λh=>cE (cU (bt (fV _) (bO (by rw[cO];omega) (by omega) (cE (cE (ak ⟨_,_,rfl,nx _ ?_⟩))))))) λh=>cE (cU (bt (fV _) (bO (by rw[cO];omega) (by omega) (cE (cE (ak ⟨_,_,rfl,nx _ ?_⟩))))))
   .unfold rdE;rw[aU h];rfl
   .unfold rdE;rw[dc h];rfl
  rintro x ⟨lens',rows',rfl,L⟩;refine ak ⟨lens',rows',?_,L⟩;dsimp only;rw[iG]
 .rintro x ⟨lens,rows,rfl,_⟩;exact dC (ak rfl)
abbrev lZ:Ty:=(.pr aM (.pr aM (.pr aM (.pr aM .bool))))
abbrev Bi:=((Int×Int×Int×Int×Bool)×(Y (Int×Bool))×Y (Int×Bool))
abbrev B7:=(Y e!)
abbrev b!:=(fA×Y iH)×(Y η)×ym×(η)×(η)×(η)×(η)×(η)×(η)×B7×(η)×(Y Bi)×(Y η)×Y η
abbrev Ye2:=b!
abbrev d!:=(fA×Y iH)×(Y η)×ym×(η)×(η)×(η)×(η)×(η)×(η)×B7×(η)×(Y Bi)×(Y η)×(Y η)×(η)×Bool
abbrev Ye3:=d!
abbrev c?:=(fA×Y iH)×(Y η)×ym×(η)×(η)×(η)×(η)×(η)×(η)×B7×(η)×(Y Bi)×(Y η)×(Y η)×iH×η
abbrev Ye4:=c?
abbrev Ye5:=(Int×c!)
abbrev Ye6:=((fA×Y iH)×(η)×(η)×(η)×(η)×(η)×(η)×B7×(Y η)×ym×(η)×(Y Bi)×(Y η)×Y η)
abbrev Y!:=Int×c?
abbrev Ye7:=Y!
def AD (x:o!):M η:=
 (jn (kB 0 x.2 (aH (gD x.2 4)) (aH af)) λD=>(jn (aI D (aH (jR (aZ x.1) (cS x.2))) (aH (aZ x.1))) λz=>(bT (db 0 z&&db z z&&bc (aN z) 8) (jn (jn (aI D (kY aM (T8 (aC (aN z) (0:Int)) x.1) x.2 λz5=>(aH ((gD z5 9223372036854775807),(T8 (aC (aN z) (0:Int)) x.1)))) (aH (af,(T8 (aC (aN z) (0:Int)) x.1)))) λA=>(aI A.1 (kY aM A.2 x.2 λL=>(ck (dL x.2 (aj A.2)) (aH (cg A.2 x.2 (cS L))))) (aH A.2))) λx3=>(Z x3)))))
def AM (it:BO) (x:Int):M η:=
 (bT (db 0 x&&db x x&&bc (aN x) 8) (it k! _ (λz=>(bU z.1 (aQ (aj (aC (aN x) (0:Int)))) (ck (dL z.1 (aj z.2)) (c5 ((cS z.1),(cg z.2 z.1 (-1))))) (aH z.2))) (0,(aC (aN x) (0:Int)))))
def E0 (x:Int):M η:=AM @iter x
def lK (x:Int):M η:=AM @gf x
def oS (x:c!):M (Bool):=
 (jn (bq x.2.1 3 (aH J) (aH (decide ((x.2.1:Int)=4)))) λz=>(Z z))
def mj (x:fA×c!):M (Int):=
 (jn (bq x.a 6 (aH ((decide ((x.a:Int)=6)),x)) (bq x.a 8 (aH ((decide ((x.a:Int)=8)),x)) (aH ((decide ((x.a:Int)=10)),x)))) λz=>(aI z.1 (Z z.c) (bq x.a 17 (bZ itK z.2.1.a z.c λA=>(Z A.2)) (bq x.a 12 (Z (aZ z.2.1.2.1)) (Z (-1))))))
def mi (x:fA×c!):M (Int):=
 (jn (bq x.a 7 (aH ((decide ((x.a:Int)=7)),x)) (bq x.a 9 (aH ((decide ((x.a:Int)=9)),x)) (aH ((decide ((x.a:Int)=11)),x)))) λz=>(aI z.1 (Z z.c) (bq x.a 16 (bZ itK z.2.1.a z.c λA=>(Z A.2)) (bq x.a 13 (Z (aZ z.2.1.2.1)) (Z (-1))))))
def jC (x:iH×b!):M (η×b!):=
 (kY aM x.c x.1.1 λA=>(jn (α:=(fA×Y iH)×(Y η)×ym×(η)×(η)×(η)×(η)×(η)×(η)×B7×(η)×(Y Bi)×(Y η)×(Y η)×η) (bq x.1.2.1 1 (kY aM x.d x.1.1 λz3=>(bT (bc (aj ([A])+aj ([z3])) 8) (aH (x.2.1,x.a,x.b,x.c,x.d,x.f,x.i,x.j,x.m,x.k,x.o,x.l,x.q,x.t,(([A])++([z3])))))) (bq x.1.2.1 21 (kY aM x.c x.1.a λL=>(bT (bc (aj ([A])+aj ([L])) 8) (aH (x.2.1,x.a,x.b,x.c,x.d,x.f,x.i,x.j,x.m,x.k,x.o,x.l,x.q,x.t,(([A])++([L])))))) (bq x.1.2.1 23 (ck (dL x.1.a (aj x.m)) (mK x.1.a x.t (bT (ax (aN (sI x.m x.1.a)) (aj (rx (T:=aM) x.t x.1.a))) (bT (bc (aj ([A])+aj (rx (T:=aM) x.t x.1.a)) 8) (aH (x.2.1,x.a,x.b,x.c,x.d,x.f,x.i,x.j,x.m,x.k,x.o,x.l,x.q,x.t,(([A])++(rx (T:=aM) x.t x.1.a)))))))) (bq x.1.2.1 3 (bZ l7 x.2.1.1.1 x.1.a λz5=>(aI z5.2.2.2.1 (ck (dL x.1.a (aj x.j)) (mK x.1.a x.q (bT (ax (aN (sI x.j x.1.a)) (aj (rx (T:=aM) x.q x.1.a))) (bT (bc (aj ([A])+aj (rx (T:=aM) x.q x.1.a)) 8) (aH (x.2.1,x.a,x.b,x.c,x.d,x.f,x.i,x.j,x.m,x.k,x.o,x.l,x.q,x.t,(([A])++(rx (T:=aM) x.q x.1.a)))))))) (aH (x.2.1,x.a,x.b,x.c,x.d,x.f,x.i,x.j,x.m,x.k,x.o,x.l,x.q,x.t,[A])))) (bq x.1.2.1 17 (kY aM x.f x.1.1 λD=>(bT (bc (aj ([A])+aj ([D])) 8) (aH (x.2.1,x.a,x.b,x.c,x.d,x.f,x.i,x.j,x.m,x.k,x.o,x.l,x.q,x.t,(([A])++([D])))))) (aH (x.2.1,x.a,x.b,x.c,x.d,x.f,x.i,x.j,x.m,x.k,x.o,x.l,x.q,x.t,[A]))))))) λz=>(Z (z.t,z.1,z.2.1,z.a,z.b,z.c,z.d,z.f,z.i,z.j,z.m,z.k,z.o,z.l,z.q))))
def j_ (x:Ye5×Y Bi):M (Y Bi):=
 (bq x.1.a 4 (ck (dL x.1.1 (aj x.2)) (Z (qW (S:=lZ) x.2 x.1.1 (vV (S:=lZ) 1 (dX lZ x.2 x.1.1) (AB (K:=aM) (V:=.bool) x.1.b J (sP (S:=lZ) 1 (dX lZ x.2 x.1.1))))))) (ck (dL x.1.1 (aj x.2)) (Z (qW (S:=lZ) x.2 x.1.1 (vV (S:=lZ) 0 (dX lZ x.2 x.1.1) (AB (K:=aM) (V:=.bool) x.1.b J (sP (S:=lZ) 0 (dX lZ x.2 x.1.1))))))))
abbrev w!:=(fA×Y iH)×(Y η)×ym×(η)×(η)×(η)×(η)×(η)×(η)×B7×(η)×(Y Bi)×(Y η)×(Y η)×c!
abbrev N?:=Ye5×b!
def m7 (it:BO) (x:N?):M Ye2:=
 (ck (dL x.1.2.1 (aj x.c)) (jn (α:=b!) (bq x.1.a 20 (ck (dL x.1.b (aj x.d)) (aH (x.2.1,x.a,x.b,(cg x.c x.1.2.1 x.1.1),(cg x.d x.1.b x.1.1),x.n))) (bq x.1.a 22 (ck (dL x.1.b (aj x.m)) (mK x.1.b x.t (bT (ax (aN (sI x.m x.1.b)) (aj (rx (T:=aM) x.t x.1.b))&&bc ((aN (sI x.m x.1.b))+aj ([x.1.1]:η)) 8) (ck (dL x.1.b (aj x.m)) (aH (x.2.1,x.a,x.b,(cg x.c x.1.2.1 x.1.1),x.d,x.f,x.i,x.j,(sH x.m (aN x.1.b) (aQ (aj ((rx (T:=aM) x.t x.1.b)++([x.1.1]))))),x.k,x.o,x.l,x.q,(vT (T:=aM) (vT (T:=aM) x.t x.1.b []) x.1.b ((rx (T:=aM) x.t x.1.b)++([x.1.1]))))))))) (bq x.1.a 4 (ck (dL x.1.b (aj x.j)) (mK x.1.b x.q (bT (ax (aN (sI x.j x.1.b)) (aj (rx (T:=aM) x.q x.1.b))&&bc ((aN (sI x.j x.1.b))+aj ([x.1.1]:η)) 8) (ck (dL x.1.b (aj x.j)) (aH (x.2.1,x.a,x.b,(cg x.c x.1.2.1 x.1.1),x.d,x.f,x.i,(sH x.j (aN x.1.b) (aQ (aj ((rx (T:=aM) x.q x.1.b)++([x.1.1]))))),x.m,x.k,x.o,x.l,(vT (T:=aM) (vT (T:=aM) x.q x.1.b []) x.1.b ((rx (T:=aM) x.q x.1.b)++([x.1.1]))),x.t)))))) (bq x.1.a 16 (ck (dL x.1.2.1 (aj x.i)) (aH (x.2.1,x.a,x.b,(cg x.c x.1.2.1 x.1.1),x.d,x.f,(cg x.i x.1.2.1 x.1.b),x.r))) (bq x.1.a 18 (kB 0 x.1.c (ck (dL x.1.c (aj x.f)) (ck (dL x.1.c (aj x.i)) (aH (x.2.1,x.a,x.b,(cg x.c x.1.2.1 x.1.1),x.d,(cg x.f x.1.c x.1.1),(cg x.i x.1.c (-1)),x.r)))) (aH (x.2.1,x.a,x.b,(cg x.c x.1.2.1 x.1.1),x.h))) (bq x.1.a 19 (it (Int×w!) _ (λz=>(bU z.1 (aZ x.i) (jn (α:=w!) (kY aM z.i z.1 λA=>(bq A z.D (ck (dL z.1 (aj z.f)) (ck (dL z.1 (aj z.i)) (aH (z.2.1,z.a,z.b,z.c,z.d,(cg z.f z.1 x.1.1),(cg z.i z.1 (-1)),z.r)))) (aH z.2))) λD=>(c5 ((cS z.1),D))) (aH (b8 (z.2.1,z.a,z.b,z.c,z.d,z.f,z.i,z.j,z.m,z.k,z.o,z.l,z.q,z.s))))) (0,x.2.1,x.a,x.b,(cg x.c x.1.2.1 x.1.1),x.d,x.f,x.i,x.j,x.m,x.k,x.o,x.l,x.q,x.t,x.1.2)) (aH (x.2.1,x.a,x.b,(cg x.c x.1.2.1 x.1.1),x.h)))))))) λL=>(Z L)))
def qH (x:N?):M Ye2:=m7 @iter x
def gR (x:N?):M Ye2:=m7 @gf x
def iN (x:N?):M ((fA×Y iH)×(Y η)×ym×(η)×(η)×(η)×(η)×(η)×(η)×B7×(Y η)×(Y η)×(η)×Y Bi):=
 (aA (mi (x.2.1.1,x.1.2)) λz=>(aI (sK (x.1.2.1,z) x.k) (mK (eC (x.1.2.1,z) x.k) x.l (bT (bc (aj x.o+1) 8) (aA (mj (x.2.1.1,x.1.2)) λD=>(kB 0 D (Z (x.2.1,x.a,x.b,x.c,x.d,x.f,x.i,x.j,x.m,(yQ (x.1.2.1,D) (aQ (aj (qW (S:=lZ) x.l (eC (x.1.2.1,z) x.k) ((((dX lZ x.l (eC (x.1.2.1,z) x.k)).1).1,(((dX lZ x.l (eC (x.1.2.1,z) x.k)).1).2).1,((((dX lZ x.l (eC (x.1.2.1,z) x.k)).1).2).2).1,x.1.1,(((((dX lZ x.l (eC (x.1.2.1,z) x.k)).1).2).2).2).2),(dX lZ x.l (eC (x.1.2.1,z) x.k)).2)))) (Md (aj (qW (S:=lZ) x.l (eC (x.1.2.1,z) x.k) ((((dX lZ x.l (eC (x.1.2.1,z) x.k)).1).1,(((dX lZ x.l (eC (x.1.2.1,z) x.k)).1).2).1,((((dX lZ x.l (eC (x.1.2.1,z) x.k)).1).2).2).1,x.1.1,(((((dX lZ x.l (eC (x.1.2.1,z) x.k)).1).2).2).2).2),(dX lZ x.l (eC (x.1.2.1,z) x.k)).2))) (DJ (x.1.2.1,z) x.k))),x.q,x.t,(gL (shf (aj (qW (S:=lZ) x.l (eC (x.1.2.1,z) x.k) ((((dX lZ x.l (eC (x.1.2.1,z) x.k)).1).1,(((dX lZ x.l (eC (x.1.2.1,z) x.k)).1).2).1,((((dX lZ x.l (eC (x.1.2.1,z) x.k)).1).2).2).1,x.1.1,(((((dX lZ x.l (eC (x.1.2.1,z) x.k)).1).2).2).2).2),(dX lZ x.l (eC (x.1.2.1,z) x.k)).2)))) (sW x.o [(eC (x.1.2.1,z) x.k)])),(sW (qW (S:=lZ) x.l (eC (x.1.2.1,z) x.k) ((((dX lZ x.l (eC (x.1.2.1,z) x.k)).1).1,(((dX lZ x.l (eC (x.1.2.1,z) x.k)).1).2).1,((((dX lZ x.l (eC (x.1.2.1,z) x.k)).1).2).2).1,x.1.1,(((((dX lZ x.l (eC (x.1.2.1,z) x.k)).1).2).2).2).2),(dX lZ x.l (eC (x.1.2.1,z) x.k)).2)) [((x.1.2.1,D,x.1.1,(-1),(decide ((x.1.a:Int)=8))),[],[])]))) (Z (x.2.1,x.a,x.b,x.c,x.d,x.f,x.i,x.j,x.m,(DJ (x.1.2.1,z) x.k),x.q,x.t,(sW x.o [(eC (x.1.2.1,z) x.k)]),(qW (S:=lZ) x.l (eC (x.1.2.1,z) x.k) ((((dX lZ x.l (eC (x.1.2.1,z) x.k)).1).1,(((dX lZ x.l (eC (x.1.2.1,z) x.k)).1).2).1,((((dX lZ x.l (eC (x.1.2.1,z) x.k)).1).2).2).1,x.1.1,(((((dX lZ x.l (eC (x.1.2.1,z) x.k)).1).2).2).2).2),(dX lZ x.l (eC (x.1.2.1,z) x.k)).2)))))))) (aA (mj (x.2.1.1,x.1.2)) λA=>(kB 0 A (Z (x.2.1,x.a,x.b,x.c,x.d,x.f,x.i,x.j,x.m,(yQ (x.1.2.1,A) (aZ x.l) (Md (aj x.l) x.k)),x.q,x.t,(gL (shf (aj x.l)) x.o),(sW x.l [((x.1.2.1,A,x.1.1,(-1),(decide ((x.1.a:Int)=8))),[],[])]))) (Z (x.2.1,x.a,x.b,x.c,x.d,x.f,x.i,x.j,x.m,x.k,x.q,x.t,x.o,x.l))))))
def kf (x:Y!):M Ye4:=
 (jn (ck (dL x.1 (aj x.l)) (aI (Bt (K:=aM) (V:=.bool) x.u.a (sP (S:=lZ) 1 (dX lZ x.l x.1)) af) (aH ((x.1,J),x.2)) (bq x.u.2.1 4 (ck (dL x.1 (aj x.l)) (aH ((x.1,(Bt (K:=aM) (V:=.bool) x.u.a (sP (S:=lZ) 0 (dX lZ x.l x.1)) af)),x.2))) (aH ((x.1,af),x.2))))) λz=>(aI z.1.2 (mK z.1.1 z.l (lt ((((((dX lZ z.l z.1.1).1).2).2).2).1) λD=>(kY (.sl aM) z.a D λA=>(aA (jG (z.E,A)) λL=>(Z (z.2.1,z.a,z.b,z.c,z.d,z.f,z.i,z.j,z.m,z.k,z.o,z.l,z.q,z.s,z.u,L)))))) (Z z.2)))
def kc (x:Int×d!):M Ye3:=
 (jn (mK x.1 x.l (lt (((((dX lZ x.l x.1).1).2).2).1) λz2=>(kY gq x.b z2 λz3=>(aA (kE (x.u,z3)) λy4=>(aI y4 (mK x.1 x.l (lt ((((((dX lZ x.l x.1).1).2).2).2).1) λz5=>(kY gq x.b z5 λz6=>(aA (kE (x.u,z6)) λy7=>(aH ((x.1,(!y7)),x.2)))))) (aH ((x.1,af),x.2))))))) λz=>(aI z.1.2 (mK z.1.1 z.l (lt ((((((dX lZ z.l z.1.1).1).2).2).2).1) λL=>(kY (.sl aM) z.a L λD=>(aA (jG (z.u,D)) λA=>(Z (z.2.1,z.a,z.b,z.c,z.d,z.f,z.i,z.j,z.m,z.k,z.o,z.l,z.q,z.s,A,J)))))) (Z z.2)))
def sg (it:BO) (x:Y!):M Ye4:=
 (it (ν×c?) _ (λz=>(bU z.1.2 (aZ x.o) (jn (ck (dL z.1.2 (aj z.o)) (jn (mK (sI z.o z.1.2) z.l (lt ((((dX lZ z.l (sI z.o z.1.2)).1).2).1) λz4=>(mK z.1.1 z.l (lt ((((dX lZ z.l z.1.1).1).2).1) λz5=>(bq z4 z5 (mK (sI z.o z.1.2) z.l (lt (((dX lZ z.l (sI z.o z.1.2)).1).1) λz6=>(mK z.1.1 z.l (lt (((dX lZ z.l z.1.1).1).1) λz7=>(jP z6 z7 (mK (sI z.o z.1.2) z.l (lt ((((((dX lZ z.l (sI z.o z.1.2)).1).2).2).2).2) λz8=>(aI z8 (mK z.1.1 z.l (lt ((((((dX lZ z.l z.1.1).1).2).2).2).2) λz9=>(aI (!z9) (mK (sI z.o z.1.2) z.l (lt ((((((dX lZ z.l (sI z.o z.1.2)).1).2).2).2).1) λz10=>(mK z.1.1 z.l (lt (((((dX lZ z.l z.1.1).1).2).2).1) λz11=>(aH ((z.1.1,(sI z.o z.1.2),(gD z10 z11)),z.2)))))) (aH ((z.1.1,(sI z.o z.1.2),af),z.2))))) (mK (sI z.o z.1.2) z.l (lt ((((((dX lZ z.l (sI z.o z.1.2)).1).2).2).2).1) λz12=>(mK z.1.1 z.l (lt (((((dX lZ z.l z.1.1).1).2).2).1) λL=>(aH ((z.1.1,(sI z.o z.1.2),(gD z12 L)),z.2))))))))) (aH ((z.1.1,(sI z.o z.1.2),af),z.2))))))) (aH ((z.1.1,(sI z.o z.1.2),af),z.2))))))) λD=>(aI D.1.2.2 (aA (kf (D.1.2.1,D.2)) λA=>(bT (ax (aj D.o) (aj A.k)&&(ax (aj D.m) (aj A.j)&&(ax (aj D.j) (aj A.i)&&(ax (aj D.i) (aj A.f)&&(ax (aj D.f) (aj A.d)&&(ax (aj D.d) (aj A.c)&&(ax (aj D.c) (aj A.b)&&(ax (aj D.b) (aj A.a)&&(ax (aj D.a) (aj A.2.1)&&J))))))))) (aH (D.1.1,A)))) (aH (D.1.1,D.2))))) λx2=>(c5 ((x2.1,(cS z.1.2)),x2.2))) (aH z.2))) ((x.1,0),x.2))
def vX (x:Y!):M Ye4:=sg @iter x
def kL (x:Y!):M Ye4:=sg @gf x
def sd (it:BO) (x:Int×d!):M Ye3:=
 (it (ν×d!) _ (λz=>(bU z.1.2 (aZ x.o) (jn (ck (dL z.1.2 (aj z.o)) (jn (mK (sI z.o z.1.2) z.l (lt ((((dX lZ z.l (sI z.o z.1.2)).1).2).1) λz4=>(mK z.1.1 z.l (lt ((((dX lZ z.l z.1.1).1).2).1) λz5=>(bq z4 z5 (mK (sI z.o z.1.2) z.l (lt (((dX lZ z.l (sI z.o z.1.2)).1).1) λz6=>(mK z.1.1 z.l (lt (((dX lZ z.l z.1.1).1).1) λz7=>(jP z6 z7 (mK (sI z.o z.1.2) z.l (lt ((((((dX lZ z.l (sI z.o z.1.2)).1).2).2).2).2) λz8=>(aI z8 (mK z.1.1 z.l (lt ((((((dX lZ z.l z.1.1).1).2).2).2).2) λz9=>(aI (!z9) (mK (sI z.o z.1.2) z.l (lt ((((((dX lZ z.l (sI z.o z.1.2)).1).2).2).2).1) λz10=>(mK z.1.1 z.l (lt (((((dX lZ z.l z.1.1).1).2).2).1) λz11=>(aH ((z.1.1,(sI z.o z.1.2),(gD z10 z11)),z.2)))))) (aH ((z.1.1,(sI z.o z.1.2),af),z.2))))) (mK (sI z.o z.1.2) z.l (lt ((((((dX lZ z.l (sI z.o z.1.2)).1).2).2).2).1) λz12=>(mK z.1.1 z.l (lt (((((dX lZ z.l z.1.1).1).2).2).1) λL=>(aH ((z.1.1,(sI z.o z.1.2),(gD z12 L)),z.2))))))))) (aH ((z.1.1,(sI z.o z.1.2),af),z.2))))))) (aH ((z.1.1,(sI z.o z.1.2),af),z.2))))))) λD=>(aI D.1.2.2 (aA (kc (D.1.2.1,D.2)) λA=>(bT (ax (aj D.o) (aj A.k)&&(ax (aj D.m) (aj A.j)&&(ax (aj D.j) (aj A.i)&&(ax (aj D.i) (aj A.f)&&(ax (aj D.f) (aj A.d)&&(ax (aj D.d) (aj A.c)&&(ax (aj D.c) (aj A.b)&&(ax (aj D.b) (aj A.a)&&(ax (aj D.a) (aj A.2.1)&&J))))))))) (aH (D.1.1,A)))) (aH (D.1.1,D.2))))) λx2=>(c5 ((x2.1,(cS z.1.2)),x2.2))) (aH z.2))) ((x.1,0),x.2))
def vW (x:Int×d!):M Ye3:=sd @iter x
def kK (x:Int×d!):M Ye3:=sd @gf x
def n_ (it:BO) (x:N?):M Ye6:=
 (bT (db 0 (aZ x.2.1.1.c)&&db (aZ x.2.1.1.c) (aZ x.2.1.1.c)&&bc (aN (aZ x.2.1.1.c)) 8) (aA (jC (x.1.2,x.2)) λy1=>(bT (ax (aj x.o) (aj y1.o)&&(ax (aj x.m) (aj y1.m)&&(ax (aj x.j) (aj y1.j)&&(ax (aj x.i) (aj y1.i)&&(ax (aj x.f) (aj y1.f)&&(ax (aj x.d) (aj y1.d)&&(ax (aj x.c) (aj y1.c)&&(ax (aj x.b) (aj y1.b)&&(ax (aj x.a) (aj y1.a)&&J))))))))) (it Ye7 _ (λx2=>(bU x2.1 (aZ y1.1) (jn (bZ aM y1.1 x2.1 λz4=>(kB 0 z4 (kY (.sl aM) x2.a z4 λz5=>(aA (jG (x2.E,z5)) λy6=>(aH (x2.2.1,x2.a,x2.b,x2.c,x2.d,x2.f,x2.i,x2.j,x2.m,x2.k,x2.o,x2.l,x2.q,x2.s,x2.u,y6)))) (aH x2.2))) λx3=>(c5 ((cS x2.1),x3))) (aA (jn (α:=c?) (aA (oS x2.u) λy8=>(aI y8 (it Ye7 _ (λx9=>(bU x9.1 (bm .i64 ((aZ x2.2.1.1.2.1)+1)) (jn (aI (sK (x9.u.1,x9.1) x9.k) (aA (kL ((eC (x9.u.1,x9.1) x9.k),x9.2)) λy11=>(bT (ax (aj x9.o) (aj y11.k)&&(ax (aj x9.m) (aj y11.j)&&(ax (aj x9.j) (aj y11.i)&&(ax (aj x9.i) (aj y11.f)&&(ax (aj x9.f) (aj y11.d)&&(ax (aj x9.d) (aj y11.c)&&(ax (aj x9.c) (aj y11.b)&&(ax (aj x9.b) (aj y11.a)&&(ax (aj x9.a) (aj y11.2.1)&&J))))))))) (aA (j_ (((eC (x9.u.1,x9.1) x9.k),y11.s),y11.o)) λy12=>(aH (y11.1,y11.2.1,y11.a,y11.b,y11.c,y11.d,y11.f,y11.i,y11.j,y11.m,y11.k,y12,y11.z))))) (aH x9.2)) λx10=>(c5 ((cS x9.1),x10))) (aH (b8 x9.2)))) (0,x2.2)) (aH x2.2))) λx7=>(jn (aA (mi (x7.1.1,x7.s)) λy14=>(aI (sK (x7.s.1,y14) x7.m) (it (Int×(fA×Y iH)×(Y η)×ym×(η)×(η)×(η)×(η)×(η)×(η)×B7×(η)×(Y Bi)×(Y η)×(Y η)×iH×(η)×Bool) _ (λz=>(aI z.F (aA (kK (z.1,z.2.1,z.a,z.b,z.c,z.d,z.f,z.i,z.j,z.m,z.k,z.o,z.l,z.q,z.s,z.B,af)) λL=>(bT (ax (aj z.o) (aj L.k)&&(ax (aj z.m) (aj L.j)&&(ax (aj z.j) (aj L.i)&&(ax (aj z.i) (aj L.f)&&(ax (aj z.f) (aj L.d)&&(ax (aj z.d) (aj L.c)&&(ax (aj z.c) (aj L.b)&&(ax (aj z.b) (aj L.a)&&(ax (aj z.a) (aj L.2.1)&&J))))))))) (c5 (z.1,L.1,L.2.1,L.a,L.b,L.c,L.d,L.f,L.i,L.j,L.m,L.k,L.o,L.l,L.q,z.u,L.t)))) (aH (b8 (z.2.1,z.a,z.b,z.c,z.d,z.f,z.i,z.j,z.m,z.k,z.o,z.l,z.q,z.s,z.u,z.B))))) ((eC (x7.s.1,y14) x7.m),x7.1,x7.2.1,x7.a,x7.b,x7.c,x7.d,x7.f,x7.i,x7.j,x7.m,x7.k,x7.o,x7.l,x7.q,x7.s,x7.H,J)) (aH x7))) λA=>(aA (AD (A.H,A.s.1)) λy17=>(bT (bc (aj A.2.1+aj ([y17])) 24) (bZ aM y17 A.s.1 λz18=>(bT (bc (aj A.a+aj ([(z18,A.s.1)])) 16) (aA (iN ((x.1.1,A.s),A.1,(A.2.1++([y17])),(A.a++([(z18,A.s.1)])),A.b,A.c,A.d,A.f,A.i,A.j,A.m,A.k,A.o,A.l,A.q)) λD=>(bT (ax (aj A.k) (aj A.k)&&(ax (aj A.j) (aj D.j)&&(ax (aj A.i) (aj D.i)&&(ax (aj A.f) (aj D.f)&&(ax (aj A.d) (aj D.d)&&(ax (aj A.c) (aj D.c)&&(ax (aj A.b) (aj D.b)&&(ax (aj (A.a++([(z18,A.s.1)]))) (aj D.a)&&(ax (aj (A.2.1++([y17]))) (aj D.2.1)&&J))))))))) (aA (gR ((x.1.1,A.s),D.1,D.2.1,D.a,D.b,D.c,D.d,D.f,D.i,D.j,D.m,D.l,D.C,D.k,D.o)) λy20=>(bT (ax (aj D.l) (aj y20.k)&&(ax (aj D.j) (aj y20.j)&&(ax (aj D.i) (aj y20.i)&&(ax (aj D.f) (aj y20.f)&&(ax (aj D.d) (aj y20.d)&&(ax (aj D.c) (aj y20.c)&&(ax (aj D.b) (aj y20.b)&&(ax (aj D.a) (aj y20.a)&&(ax (aj D.2.1) (aj y20.2.1)&&J))))))))) (Z (y20.1,y20.b,y20.c,y20.d,y20.f,y20.i,y20.j,y20.m,y20.2.1,y20.a,y20.y)))))))))))) λr=>Z (b8 r)))) (0,y1.2.1,y1.a,y1.b,y1.c,y1.d,y1.f,y1.i,y1.j,y1.m,y1.k,y1.o,y1.l,y1.q,y1.t,x.1.2,(aC (aN (aZ x.2.1.1.c)) (0:Int)))))))
def rM (x:N?):M Ye6:=n_ @iter x
def gC (x:N?):M Ye6:=n_ @gf x
abbrev h!:=(Y η)×ym×(η)×(η)×(η)×(η)×(η)×(η)×B7×(η)×(Y η)×(Y η)×Y Bi
def vy (it:BO) (x:t?):M Ye2:=
 (aA (lK (aZ x.1.c)) λy1=>(aA (lK (aZ x.1.c)) λy2=>(aA (lK (aZ x.1.c)) λy3=>(aA (lK (aZ x.1.c)) λL=>(bT (db 0 (aZ x.1.1)&&db (aZ x.1.1) (aZ x.1.1)&&bc (aN (aZ x.1.1)) 24) (bT (db 0 (aZ x.1.b)&&db (aZ x.1.b) (aZ x.1.b)&&bc (aN (aZ x.1.b)) 24) (it (Int×(fA×Y iH)×h!) _ (λz=>(bU z.1 (aZ x.2) (bZ j7 x.2 z.1 λD=>(aA (gC ((z.1,D),z.2.1,z.a,z.b,z.c,z.d,z.f,z.i,z.j,z.m,z.k,z.o,z.t,z.l,z.q)) λA=>(bT (ax (aj z.o) (aj z.o)&&(ax (aj z.m) (aj A.f)&&(ax (aj z.j) (aj A.d)&&(ax (aj z.i) (aj A.c)&&(ax (aj z.f) (aj A.b)&&(ax (aj z.d) (aj A.a)&&(ax (aj z.c) (aj A.2.1)&&(ax (aj z.b) (aj z.b)&&(ax (aj z.a) (aj z.a)&&J))))))))) (c5 ((cS z.1),A.1,A.j,A.m,A.2.1,A.a,A.b,A.c,A.d,A.f,A.i,A.k,A.l,A.C,A.o))))) (aH (z.2.1,z.a,z.b,z.c,z.d,z.f,z.i,z.j,z.m,z.k,z.o,z.t,z.l,z.q)))) (0,x,([]:Y η),([]:Y ν),y1,y2,y3,L,(aC (aN (aZ x.1.1)) (0:Int)),(aC (aN (aZ x.1.b)) (0:Int)),([]:Y e!),([]:η),(aC (aN (aZ x.1.1)) ([]:η)),(aC (aN (aZ x.1.b)) ([]:η)),([]:Y Bi)))))))))
def Aw (x:t?):M Ye2:=vy @iter x
def lG (x:t?):M Ye2:=vy @gf x
def rO (x:t?):M P!:=
 (aA (fO x) λA=>(jP A.2 0 (Z (([]:Y η),12)) (aA (lG x) λz=>(Z (z.2.1,0)))))
abbrev M?:=(fA×Y iH)×(fA×Y iH)×ym×iH×h!
abbrev O?:=(fA×Y iH)×(fA×Y iH)×ym×h!
def Ct (it:BO) (x:t?):M (ym×Int):=
 (aA (fO x) λy1=>(jP y1.2 0 (Z (([]:Y ν),12)) (aA (lG x) λy2=>(it (Int×O?) _ (λD=>(bU D.1 (aZ x.2) (jn (α:=O?) (bZ j7 x.2 D.1 λz5=>(jn (aA (oS z5) λy7=>(aI (!y7) (aH (J,D.2.1,D.a,D.b,z5,D.g)) (bZ l7 D.2.1.1.1 z5.a λz8=>(aH (z8.2.2.2.1,D.2.1,D.a,D.b,z5,D.g))))) λx6=>(aI x6.1 (aH (x6.2.1,x6.a,x6.b,x6.h)) (bT (db 0 D.1&&db D.1 (aj x6.2.1.2)) (it (Int×M?) _ (λA=>(bU A.1 (aQ (aj (dP (aN D.1) x6.2.1.2))) (jn (α:=M?) (bZ j7 (dP (aN D.1) x6.2.1.2) A.1 λz11=>(jn (aA (oS z11) λy13=>(aI (!y13) (aH (J,A.2.1,A.a,A.b,A.c,z11,A.h)) (jP z11.a A.c.a (aH (J,A.2.1,A.a,A.b,A.c,z11,A.h)) (aH ((decide ((z11.1:Int)=A.c.1)),A.2.1,A.a,A.b,A.c,z11,A.h))))) λz=>(aI z.1 (aH (z.2.1,z.a,z.b,z.c,z.n)) (jn (bq z.d.2.1 4 (aH (J,z.2.1,z.a,z.b,z.c,z.n)) (aH ((decide ((z.c.2.1:Int)=4)),z.2.1,z.a,z.b,z.c,z.n))) λx14=>(jn (aI x14.1 (kY (.sl aM) x14.d D.1 λz16=>(kY gq x14.f A.1 λz17=>(aA (kE (z16,z17)) λy18=>(aH ((!y18),x14.2))))) (aH (af,x14.2))) λL=>(aI L.1 (bT (bc (aj L.b+aj ([(A.1,D.1)])) 16) (aH (L.2.1,L.a,(L.b++([(A.1,D.1)])),L.g))) (aH L.2))))))) λx10=>(c5 ((cS A.1),x10))) (aH (b8 (A.2.1,A.a,A.b,A.h))))) (0,x6.2)))))) λx4=>(c5 ((cS D.1),x4))) (aH (D.b,0)))) (0,x,y2.1,([]:Y ν),y2.2.1,y2.a,y2.b,y2.c,y2.d,y2.f,y2.i,y2.j,y2.m,y2.k,y2.l,y2.C,y2.o)))))
def Cg (x:t?):M (ym×Int):=Ct @iter x
def qX (x:t?):M (ym×Int):=Ct @gf x
def Tv (it:BO) (x:Unit):M fA:=
 (it F? _ (λA=>(bU A.1 (aQ (aj ([[109,97,105,110],[116,49],[116,50],[116,51]]))) (it F? _ (λz=>(bU z.1 6 (bT (bc (aj z.n+aj ([(A.1,z.1,(bm .i64 ((bm .i64 ((bm .i64 (10*A.1))+z.1))+1)))])) 24) (c5 ((cS z.1),z.2.1,z.a,z.b,z.c,z.d,(z.n++([(A.1,z.1,(bm .i64 ((bm .i64 ((bm .i64 (10*A.1))+z.1))+1)))]))))) (aH (rB ((cS A.1),z.2))))) (0,A.2)) (aH A.2))) (0,[([120],0,0,af,0),([121],0,0,af,1),([118],0,0,J,0),([113],0,2,af,0),([113],1,2,af,0)],[([109],af),([110],af),([114],J)],[([99],0)],[[102]],[[109,97,105,110],[116,49],[116,50],[116,51]],([]:Y π)))
def SH (x:Unit):M fA:=Tv @iter x
def Gh (x:Unit):M fA:=Tv @gf x
def qi (x:Bool):M t?:=
 (jn (aI x (aH 1) (aH 3)) λA=>(aA (Gh ()) λz=>(Z (z,[(0,1,(-1),0,(-1),([]:η),([]:η)),(0,20,1,0,0,([]:η),([]:η)),(1,1,(-1),0,(-1),([]:η),([]:η)),(0,4,0,5,0,([]:η),([]:η)),(0,6,0,0,0,([]:η),([]:η)),(0,4,1,6,0,([]:η),([]:η)),(0,7,0,0,0,([]:η),([]:η)),(1,6,0,0,6,([]:η),([]:η)),(1,4,A,7,6,([]:η),([]:η)),(1,7,0,0,6,([]:η),([]:η)),(1,4,0,8,6,([]:η),([]:η))]))))
def vu (x:Unit):M (Bool):=
 (aA (qi af) λy1=>(aA (qX y1) λz=>(aA (qi J) λL=>(aA (qX L) λD=>(jn (α:=Bool) (bq z.2 0 (bq D.2 0 (bq (aZ z.1) 1 (bZ gq z.1 0 λA=>(aI (UG (.pr aM (.pr aM .un)) (A.1,A.2,()) (3,10,()) !=af) (aH (decide (((aZ D.1):Int)=0))) (aH af))) (aH af)) (aH af)) (aH af)) λx5=>(Z x5))))))
def pO (x:(Y iH)×Int):M (Int):=
 (iter (σ:=Int) (λz=>(kB 0 z (bZ j7 x.1 z λD=>(bZ j7 x.1 x.2 λA=>(bq D.1 A.1 (aH z) (c5 (bm .i64 (z-1)))))) (aH (-1)))) (bm .i64 (x.2-1)))
def mr (x:η×J?):M (Bool):=
 (aA (oV (x,50)) λD=>(aA (rO D) λA=>(aA (qQ D) λy3=>(jn (jP A.2 0 (aH (J,D)) (jP y3.2 0 (aH (J,D)) (jP (aZ A.1) (aZ D.2) (aH (J,D)) (aH ((!decide (((aZ y3.1):Int)=(aZ A.1))),D))))) λx4=>(aI x4.1 (Z af) (iter (σ:=Int×t?) (λz=>(bU z.1 (aZ x4.2.2) (bZ j7 x4.2.2 z.1 λz6=>(jn (bZ (.sl aM) A.1 z.1 λz8=>(bZ (.sl aM) y3.1 z.1 λz9=>(aA (ub (z8,z9)) λy10=>(aI (!y10) (aH (J,z.2)) (bZ (.sl aM) A.1 z.1 λz11=>(aA (Az (z11,z6.1)) λy12=>(bZ (.sl aM) y3.1 z.1 λz13=>(aA (Az (z13,z6.1)) λy14=>(aH ((!decide ((y12:Int)=y14)),z.2)))))))))) λx7=>(aI x7.1 (aH af) (aA (pO (x7.2.2,z.1)) λL=>(jn (kB 0 L (bZ (.sl aM) A.1 L λz17=>(bZ (.sl aM) A.1 z.1 λz18=>(aA (ub (z17,z18)) λy19=>(aH ((!y19),x7.2))))) (aH (af,x7.2))) λx16=>(aI x16.1 (aH af) (c5 ((cS z.1),x16.2)))))))) (aA (aA (vu ()) λy20=>(Z y20)) λr=>Z (b8 r)))) (0,x4.2)))))))
@[simp] theorem ec (t f:M R):aI J t f=t:=Eq.trans rfl rfl
@[simp] theorem eS (t f:M R):aI af t f=f:=Eq.trans rfl rfl
@[simp] theorem chk_t (k:J=J->M R):chk J k=k rfl:=Eq.trans rfl rfl
def cN (h:b=J) (k:M R):chk b (λ_=>k)=k:=by cases b with|true=>rfl|false=>cases h
@[simp] theorem dH {α:Type} (x:α) (k:α->M R):aA (Z x) k=k x:=Eq.trans rfl rfl
@[simp] theorem ox {α:Type} (x:α) (k:α->M R):jn (Z (.inr x)) k=k x:=Eq.trans rfl rfl
@[simp] theorem jn_l {α:Type} (r:R) (k:α->M R):jn (Z (.inl r)) k=Z r:=Eq.trans rfl rfl
def ao0 {σ:Type} {f:σ->M (σ⊕R)} {x:σ} {r:R} (h:iterN f i x=Z r) (z:i<=18446744073709551616):gf f x=Z r:=zo h z
def ze {σ:Type} {f:σ->M (σ⊕R)} (n:Nat) (A:n<18446744073709551616) (st:Nat->σ) {r:R} (h0:∀i,i<n->f (st i)=Z (.inl (st (i+1)))) (h1:f (st n)=Z (.inr r)):gf f (st 0)=Z r:=by
 have key:∀k i,i+k=n->iterN f (k+1) (st i)=Z r:=by
  intro k;induction k with
  |zero=>intro i hi;have:i=n:=by omega
         subst this;simp[iterN,h1]
  |succ k z=>intro i hi;rw[iterN,h0 i (by omega)];exact z (i+1) (by omega)
 exact ao0 (key n 0 (by omega)) (by omega)
@[simp] theorem ajc {b:Int}:db a b=J↔a<=b:=by unfold db;simp
@[simp] theorem ajb {b:Int}:gD a b=J↔a<b:=by unfold gD;simp
def sQ {b:Int} (h:a<=b):db a b=J:=ajc.2 h
def xD {b:Int} (h:a<b):gD a b=J:=ajb.2 h
def ajd {b:Int} (h:b<a):db a b=af:=by unfold db;simp;omega
def zA {b:Int} (h:b<=a):gD a b=af:=by unfold gD;simp;omega
def awv (h0:0<=a) (h1:a<i):dL a i=J:=by unfold dL;rw[sQ h0,xD h1];rfl
def dv (h1:j<i):dL (j:Int) i=J:=awv (by omega) (by omega)
def Ar (h0:i<=1099511627776) (h1:i*j<=1099511627776):bc i j=J:=by
 unfold bc;rw[a_ h0,a_ h1];rfl
def aqk (h0: -9223372036854775808<=a) (h1:a<=9223372036854775807):bm .i64 a=a:=by
 rw[Lz];unfold QO;simp only[];rw[sQ h0,sQ h1];rfl
def qS (h:i<j) (z:j<=1099511627776):bm .i64 ((i:Int)+1)=((i+1:Nat):Int):=by
 rw[aqk (by omega) (by omega)];omega
def wz (a b:Nat):jR (aQ a) (aQ b)=((max a b:Nat):Int):=by
 unfold jR;by_cases h:a<b
 .rw[xD (by simp;omega),aD rfl];simp;omega
 .rw[zA (by simp;omega)];simp;omega
def zD {T:Ty} (xs:Y T.den) (i:Nat):geti _ xs (i:Int)=xs.getD i T.zero:=by unfold geti;simp
def tG (xs:Y η) (i:Nat):geti (.sl (.int .i64)) xs (i:Int)=xs.getD i []:=zD (T:=.sl (.int .i64)) xs i
def ata (xs:η) (i:Nat):geti aM xs (i:Int)=xs.getD i 0:=zD (T:=aM) xs i
def eA (xs:Y R) (i:Nat) (x:R):cg xs (i:Int) x=xs.set i x:=by unfold cg;simp
def xS:Nat:=1000000000
def jl (a b:η):η:=(e_ (max (l! a) (l! b))).map λi=>jR (a.getD i 0) (b.getD i 0)
def rj (a b:η):l! (jl a b)=max (l! a) (l! b):=by simp[jl]
def rZ (a b:η) (i:Nat):(jl a b).getD i 0=jR (a.getD i 0) (b.getD i 0):=by
 unfold jl;simp[aw,bB];by_cases h:i<max (l! a) (l! b)
 .grind
 .rw[c7 (by grind),c7 (l:=a) (by omega),c7 (l:=b) (by omega)];rfl
def Bm (c:η) (i:Nat):jW (c,(i:Int))=Z (c.getD i 0):=by
 unfold jW bU mK aZ aH;rw[zA (by omega)];by_cases h:i<l! c
 .rw[ajd (by grind)];rw[cN (dv h),zD];rfl
 .rw[sQ (by grind)];simp_all
def aqv:Az=jW:=rfl
def L3 (a b:η) (ha:l! a<=xS) (L:l! b<=xS):jG (a,b)=Z (jl a b):=by
 unfold xS at ha L;unfold jG xI ck bU bT aZ c5 aH cS;rw[cN (by simp only[wz];rw[sQ (by omega),sQ (by omega),Ar (by omega) (by omega)];rfl)];simp only[wz,bi,cP];have:=ze (σ:=k!) (R:=η) (max (l! a) (l! b)) (by omega) (λi=>((i:Int),(e_ (max (l! a) (l! b))).map λk=>if k<i then jR (a.getD k 0) (b.getD k 0) else 0)) (f:=(λz=>(aI (gD z.1 (aQ (max (l! a) (l! b)))) (aA (jW (a,z.1)) λD=>(aA (jW (b,z.1)) λA=>(chk (dL z.1 (aj z.2)) λ_=>(chk (dL z.1 (aj z.2)) λ_=>(Z (rB ((bm .i64 (z.1+1)),(cg z.2 z.1 (jR D A))))))))) (Z (b8 z.2))))) (r:=jl a b) ?_ ?_
 .refine Eq.trans ?_ this;congr 1;simp[Fy,fY,dE,aR,EK];apply cZ<;>simp
 .intro i hi;rw[xD (by grind),ec,Bm,Bm,dH,dH,cN (dv (by grind)),cN (dv (by grind)),qS hi (by omega),eA];congr 3;apply cZ
  .simp
  .grind
 .simp[];rw[zA (by simp),eS];unfold jl;simp_all
def agj (a b:η) (ha:l! a<=xS) (hb:l! b<=xS):vw (a,b)=Z (jl a b,b):=by
 unfold xS at ha hb;unfold vw LS ck bU bT aZ c5 aH cS;have hm:max (l! a) (l! b)<=1000000000:=by omega
 rw[cN (by simp only[wz];rw[sQ (by omega),sQ (by omega),Ar (by simp;omega) (by simp;omega)];rfl)];simp only[wz,bi,cP];have:=ze (σ:=Int×v!) (R:=v!) (max (l! a) (l! b)) (by omega) (λi=>((i:Int),b,(e_ (max (l! a) (l! b))).map λk=>if k<i then jR (a.getD k 0) (b.getD k 0) else 0)) (f:=(λz=>(aI (gD z.1 (aQ (max (l! a) (l! b)))) (aA (jW (a,z.1)) λD=>(aA (jW (z.2.1,z.1)) λA=>(chk (dL z.1 (aj z.2.2)) λ_=>(chk (dL z.1 (aj z.2.2)) λ_=>(Z (rB ((bm .i64 (z.1+1)),z.2.1,(cg z.2.2 z.1 (jR D A))))))))) (Z (b8 (z.2.2,z.2.1)))))) (r:=(jl a b,b)) ?_ ?_
 .refine Eq.trans ?_ this;congr 1;simp only[Fy,fY,dE,aR,EK];apply cZ<;>simp
 .intro i hi;simp only[];rw[xD (by simp;omega),ec,Bm,Bm,dH,dH,cN (dv (by simpa using hi)),cN (dv (by simpa using hi)),qS hi (by omega),eA];congr 4;apply cZ
  .simp
  .intro k h1 h2;simp only[bQ,R_]at h2;simp only[Fw,xm,tM];by_cases e:i=k
   .subst e;simp
   .by_cases h:k<i
    .rw[av e,aD h,aD (by omega)]
    .rw[av e,av h,av (by omega)]
 .simp only[];rw[zA (by simp),eS];congr 3;unfold jl;apply iZ;intro k L;rw[aD (oO.1 L)]
def Yd (a b:η) (A:l! a<=xS) (z:l! b<=xS):Fa (a,b)=Z (jl a b):=by
 unfold Fa;rw[agj a b A z,dH];exact U4 rfl _
def tk (c:η) (t:Nat):η:=(c++aC (t+1-l! c) 0).set t (c.getD t 0+1)
def Dc (c:η) (t:Nat):l! (tk c t)=max (l! c) (t+1):=by simp[tk];omega
def padD (c:η) (n i:Nat):(c++aC n 0).getD i 0=c.getD i 0:=by grind
def uJ (c:η) (t i:Nat):(tk c t).getD i 0=if i=t then c.getD t 0+1 else c.getD i 0:=by
 unfold tk
 grind
def akj (c:η) (n:Nat) (h:l! c<=n):T8 (aC n 0) c=c++aC (n-l! c) 0:=by
 unfold T8;rw[cP,gB h,List.drop_replicate]
def adh (c:η) (t:Nat) (A:l! c<=xS) (ht:t<4) (h0:0<=c.getD t 0) (h1:c.getD t 0<9223372036854775807):rh (c,(t:Int))=Z (tk c t):=by
 unfold xS at A;unfold rh ck kB bT aZ aH cS;rw[sQ (by omega),ec,ox,xD (by omega)];simp only[ec,ox];have L:jR (aQ (l! c)) (bm .i64 ((t:Int)+1))=((max (l! c) (t+1):Nat):Int):=by
  rw[qS ht (by omega)];exact wz _ _
 rw[L];rw[cN (by rw[sQ (by omega),sQ (by omega),Ar (by omega) (by omega)];rfl)];rw[bi];have e2:T8 (aC (max (l! c) (t+1)) (0:Int)) c=c++aC (t+1-l! c) 0:=by
  rw[akj c _ (by omega)]
  grind
 rw[e2];have z:t<l! (c++aC (t+1-l! c) (0:Int)):=by simp;omega
 rw[cN (dv z),cN (dv z),ox];have D:geti aM (c++aC (t+1-l! c) (0:Int)) (t:Int)=c.getD t 0:=by
  exact padD c _ t
 rw[D,xD h1,ec,cN (dv z),cN (dv z),cN (dv z),cN (dv z),ox,aqk (by omega) (by omega),eA];rfl
def Yk (c:η) (z:l! c<=xS):Fb c=Z c:=by
 unfold xS at z;unfold Fb;rw[cN (Ar (by omega) (by omega))]
def R4 (c:η) (z:l! c<=xS):xA c=Z c:=by
 unfold xS at z;unfold xA yZ bT;rw[cN (Ar (by simp;omega) (by simp;omega)),dH];exact U4 rfl _
def R5 (c:η) (z:l! c<=xS):qu c=Z c:=Yk c z
abbrev WO:Type:=(Int×Int×Int×Int×Bool)×Y (Int×Bool)×Y (Int×Bool)
def me (l:Y ET) (i:Nat):Nat:=(eN l i).1.toNat
def ct (l:Y ET) (u:Nat):Nat->Nat
 |0=>0
 |n+1=>ct l u n+if me l n=u then 1 else 0
def Xa (l:Y ET) (u:Nat):∀{n m:Nat},n<=m->ct l u n<=ct l u m:=by
 intro n m h;induction h with
 |refl=>exact bJ _
 |step _ z=>exact c6 z (by simp only[ct];omega)
def ax9 (l:Y ET) (u:Nat):∀n,ct l u n<=n
 |0=>bJ _
 |n+1=>by have:=ax9 l u n;simp only[ct];split<;>omega
def ZG (l:Y ET) (i:Nat):ct l (me l i) (i+1)=ct l (me l i) i+1:=by simp only[ct,bk]
def Fs (T j:Nat) (x:η):Prop:=l! x=T/\∀u:Nat,u<T-> -1<=x.getD u 0/\x.getD u 0<(j:Int)
def Fs.up (h:Fs i j A):Fs i (j+1) A:=⟨h.1,λu z=>by have:=h.2 u z;omega⟩
def Fs.set (h:Fs i j A) (u:Nat) (h0: -1<=a) (h1:a<=(j:Int)):Fs i (j+1) (cg A (u:Int) a):=by
 refine ⟨by rw[bS];exact h.1,λk z=>?_⟩;rw[eA,aw,eh];by_cases e:u=k
 .grind
 .rw[av e,<-aw];have:=h.2 k z;omega
def Fs.geti {T:Nat} (h:Fs T j A) (h0:0<=a) (h1:a<T): -1<=AI.geti (T:=aM) A a/\AI.geti (T:=aM) A a<(j:Int):=by
 have e:a=((a.toNat:Nat):Int):=by omega
 exact h.2 _ (by omega)
def Ps (n j:Nat) (st:η) (si:Y η):Prop:=l! st=n/\l! si=n/\∀o:Nat,o<n->st.getD o 0=(l! (si.getD o []):Int)/\l! (si.getD o [])<=j/\∀v∈si.getD o [],0<=v/\v<(j:Int)
def Ps.up {si:Y η} (h:Ps i j A si):Ps i (j+1) A si:=⟨h.1,h.2.1,λo st=>by let⟨a,b,c⟩:=h.2.2 o st;exact⟨a,by omega,λv z=>by have:=c v z;omega⟩⟩
def LO (z:η) (o:Nat):sI z (o:Int)=z.getD o 0:=by unfold sI;rw[bi]
def xr (xss:Y η) (o:Nat):rx (T:=aM) xss (o:Int)=xss.getD o []:=by unfold rx;rw[bi]
def vR (w:WT) (la sp wa:η) (si ei:Y η) (e:ET):η:=[geti aM la e.1]++
 (if e.2.1=1 then [geti aM sp e.1] else if e.2.1=21 then [geti aM la e.2.2.1] else if e.2.1=23 then rx (T:=aM) ei e.2.2.1
  else if e.2.1=3 then (if (geti l7 w.1 e.2.2.1).2.2.2.1=J then rx (T:=aM) si e.2.2.1 else []) else if e.2.1=17 then [geti aM wa e.1] else [])
def YA {w:WT} {e:ET} (hev:R2 w e) (hj:j<=1000) {c:Y η} {tm:Y ν} {sp wa wt st se:η} {op:Y e!} {re:η} {ar:Y WO} {si ei:Y η}
 (h1:Fs (l! w.2.2.2.2.1) j A) (h2:Fs (l! w.2.2.2.2.1) j sp) (h3:Fs (l! w.2.2.2.2.1) j wa) (h4:Ps (l! w.1) j st si) (h5:Ps (l! w.2.2.2.1) j se ei):
 jC (e,(w,k),c,tm,A,sp,wa,wt,st,se,op,re,ar,si,ei)=Z (vR w A sp wa si ei e,(w,k),c,tm,A,sp,wa,wt,st,se,op,re,ar,si,ei):=by
 refine cX ?_;let⟨nm,L,D,cd⟩:=hev;let⟨t,l,o,v,s,r1,r2⟩:=e;dsimp only at nm L D;unfold jC ik jK kV wR bf bA bH cF dM gz ja jS Prod.t ck bq mK bT bZ kY aH;dsimp only;have l1:=h1.1;have l2:=h2.1;have l3:=h3.1;have gY:∀{R:Type} {Q:R->Prop} {x:η} {u:Int} {l:Int->M R},l! x=l! w.2.2.2.2.1->0<=u->u<l! w.2.2.2.2.1->Ok (l (geti aM x u)) Q->Ok (chk (dL u (l! x)) λ_=>chk (dL u (l! x)) λ_=>lt (geti aM x u) l) Q:=λhl h0 h1 hk=>aO h0 (by omega) (aO h0 (by omega) (aS hk))
 refine gY l1 L D ?_;refine aY (λx=>x=((w,k),c,tm,A,sp,wa,wt,st,se,op,re,ar,si,ei,vR w A sp wa si ei (t,l,o,v,s,r1,r2))) ?_ ?_
 .refine aL (λg=>?_) λg1=>?_
  .refine gY l2 L D (bO (by simp) (by omega) (ak ?_));dsimp only;unfold vR;dsimp only;rw[aD g]
  refine aL (λg=>?_) λg2=>?_
  .obtain⟨z,la⟩:=nm.th (.inr g);refine gY l1 z la (bO (by simp) (by omega) (ak ?_));dsimp only;unfold vR
   grind
  have lst:∀{n:Nat} {xs:η} {xss:Y η},Ps n j xs xss->0<=o->o<n->ax (aN (sI xs o)) (aj (rx (T:=aM) xss o))=J/\(aj (rx (T:=aM) xss o))<=j/\l! xs=n/\l! xss=n:=λ{n xs xss} h z la=>by
   have e:o=((o.toNat:Nat):Int):=by omega
   let⟨a,b,cc⟩:=h.2.2 o.toNat (by omega);rw[e,LO,xr,a,bi];exact⟨fV _,b,h.1,h.2.1⟩
  refine aL (λg=>?_) λg3=>?_
  .obtain⟨z,la⟩:=nm.fu (.inr g);let⟨q1,q2,q3,q4⟩:=lst h5 z la;refine aO z (by omega) (aO z (by omega) (aO z (by omega) (bt q1 (bO (by rw[cO];omega) (by omega) (ak ?_)))));dsimp only;unfold vR
   grind
  refine aL (λg=>?_) λg4=>?_
  .obtain⟨z,la⟩:=nm.ce (.inl g);let⟨q1,q2,q3,q4⟩:=lst h4 z la;refine aO z la (aS ?_);refine aP (λgv=>?_) λgv=>?_
   .refine aO z (by omega) (aO z (by omega) (aO z (by omega) (bt q1 (bO (by rw[cO];omega) (by omega) (ak ?_)))));dsimp only;unfold vR
    grind
   .refine ak ?_;dsimp only;unfold vR
    grind
  refine aL (λg=>?_) λg5=>?_
  .refine gY l3 L D (bO (by simp) (by omega) (ak ?_));dsimp only;unfold vR
   grind
  .refine ak ?_;dsimp only;unfold vR
   grind
 .rintro x rfl;exact ak rfl
def YU (o j:Int) (n:Nat) (wt wa:η):η:=(e_ (l! wa)).map λu=>if u<n/\wt.getD u 0=o then j else wa.getD u 0
def Vx (o:Int) (n:Nat) (wt:η):η:=(e_ (l! wt)).map λu=>if u<n/\wt.getD u 0=o then -1 else wt.getD u 0
def SE (o j:Int) (n:Nat) (wt wa:η):l! (YU o j n wt wa)=l! wa:=by simp[YU]
def SD (o:Int) (n:Nat) (wt:η):l! (Vx o n wt)=l! wt:=by simp[Vx]
def abw (o j:Int) (n:Nat) (wt wa:η) (z:i<l! wa):(YU o j n wt wa).getD i 0=if i<n/\wt.getD i 0=o then j else wa.getD i 0:=by
 unfold YU
 grind
def abv (o:Int) (n:Nat) (wt:η) (z:i<l! wt):(Vx o n wt).getD i 0=if i<n/\wt.getD i 0=o then -1 else wt.getD i 0:=by
 unfold Vx
 grind
def ain (o j:Int) (wt wa:η):YU o j 0 wt wa=wa:=by
 unfold YU;apply cZ
 .simp
 .intro k h1 z;simp[aw,aG z]
def aim (o:Int) (wt:η):Vx o 0 wt=wt:=by
 unfold Vx;apply cZ
 .simp
 .intro k h1 z;simp[aw,aG z]
def at2 {j:Int} {wa:η} (h:A.getD i 0≠a):YU a j (i+1) A wa=YU a j i A wa:=by
 unfold YU
 grind
def at1 (h:A.getD i 0≠a):Vx a (i+1) A=Vx a i A:=by
 unfold Vx
 grind
def anr {j:Int} {wa:η} (h:A.getD i 0=a):YU a j (i+1) A wa=cg (YU a j i A wa) (i:Int) j:=by
 rw[eA];unfold YU;apply cZ
 .simp
 .grind
def anq (h:A.getD i 0=a):Vx a (i+1) A=cg (Vx a i A) (i:Int) (-1):=by
 rw[eA];unfold Vx;apply cZ
 .simp
 .grind
def FG (j:Int) (e:ET) (sp:η):η:=if e.2.1=20 then cg sp e.2.2.1 j else sp
def FF (j:Int) (e:ET) (wt wa:η):η:=if e.2.1=18 then (if 0<=e.2.2.2.1 then cg wa e.2.2.2.1 j else wa) else if e.2.1=19 then YU e.2.2.1 j (l! wt) wt wa else wa
def KF (e:ET) (wt:η):η:=if e.2.1=16 then cg wt e.1 e.2.2.1 else if e.2.1=18 then (if 0<=e.2.2.2.1 then cg wt e.2.2.2.1 (-1) else wt) else if e.2.1=19 then Vx e.2.2.1 (l! wt) wt else wt
def QE (k:Int) (j:Int) (e:ET) (st:η) (si:Y η):η:=if e.2.1=k then sH st (aN e.2.2.1) (aQ (aj (rx (T:=aM) si e.2.2.1++[j]))) else st
def Pr (k:Int) (j:Int) (e:ET) (si:Y η):Y η:=if e.2.1=k then vT (T:=aM) (vT (T:=aM) si e.2.2.1 []) e.2.2.1 (rx (T:=aM) si e.2.2.1++[j]) else si
def Ut (k j:Int) (e:ET) (si:Y η) (A:i<l! si) (h0:e.2.1=k->0<=e.2.2.1):(Pr k j e si).getD i []=if e.2.1=k/\e.2.2.1=(i:Int) then si.getD i []++[j] else si.getD i []:=by
 unfold Pr;by_cases h:e.2.1=k
 .rw[aD h];have z:e.2.2.1=((e.2.2.1.toNat:Nat):Int):=by omega
  unfold vT;rw[aw,eh];by_cases q:e.2.2.1.toNat=i
  .rw[aD q,dt,aD (by omega),aD ⟨h,by omega⟩];simp only[sG];rw[z,xr,q]
  .grind
 .grind
def apg (k j:Int) (e:ET) (si:Y η):l! (Pr k j e si)=l! si:=by
 unfold Pr vT;split
 .simp
 .rfl
def aph (k j:Int) (e:ET) (st:η) (si:Y η) (A:i<l! st) (h0:e.2.1=k->0<=e.2.2.1):(QE k j e st si).getD i 0=if e.2.1=k/\e.2.2.1=(i:Int) then (l! (si.getD i []++[j]):Int) else st.getD i 0:=by
 unfold QE;by_cases h:e.2.1=k
 .rw[aD h];have z:e.2.2.1=((e.2.2.1.toNat:Nat):Int):=by omega
  rw[aw,eh];by_cases q:e.2.2.1.toNat=i
  .rw[aD q,aD (by omega),aD ⟨h,by omega⟩];rw[z,xr,q];rfl
  .grind
 .grind
def Ps.ad {si:Y η} (h:Ps i j A si) (k:Int) (e:ET) (h0:e.2.1=k->0<=e.2.2.1):Ps i (j+1) (QE k (j:Int) e A si) (Pr k (j:Int) e si):=by
 let⟨a,b,c⟩:=h;refine ⟨by unfold QE;split<;>simp[a],by rw[apg,b],λo z=>?_⟩;rw[aph _ _ _ _ _ (by omega) h0,Ut _ _ _ _ (by omega) h0]
 grind
def Fs.wa {wt:η} (h:Fs i j A) (e:ET) (wa:e.2.1=18->e.2.2.2.1<i):Fs i (j+1) (FF (j:Int) e wt A):=by
 unfold FF;split
 .rename_i g;split
  .rename_i D;have e0:e.2.2.2.1=((e.2.2.2.1.toNat:Nat):Int):=by omega
   exact h.set _ (by omega) (dx _)
  .exact h.up
 .split
  .refine ⟨by rw[SE];exact h.1,λu z=>?_⟩;rw[abw _ _ _ _ _ (by rw[h.1];exact z)];split
   .omega
   .have:=h.2 u z;omega
  .exact h.up
def L6 (e:ET) (wt:η):l! (KF e wt)=l! wt:=by
 unfold KF;split
 .exact bS _ _ _
 .split
  .split
   .exact bS _ _ _
   .rfl
  .split
   .exact SD _ _ _
   .rfl
def Fs.sp (h:Fs i j A) (e:ET) (h0:e.2.1=20->0<=e.2.2.1):Fs i (j+1) (FG (j:Int) e A):=by
 unfold FG;split
 .rename_i g;have e0:e.2.2.1=((e.2.2.1.toNat:Nat):Int):=by omega
  exact h.set _ (by omega) (dx _)
 .exact h.up
def ak7 {w:WT} {e:ET} (hev:R2 w e) (hj:j<=1000) (hT:l! w.2.2.2.2.1<=4) (hv:e.2.1=18->e.2.2.2.1<l! w.2.2.2.2.1) {c:Y η} {tm:Y ν} {sp wa wt st se:η} {op:Y e!} {re:η} {ar:Y WO} {si ei:Y η}
 (h1:Fs (l! w.2.2.2.2.1) j A) (h2:Fs (l! w.2.2.2.2.1) j sp) (h3:Fs (l! w.2.2.2.2.1) j wa) (hwt:l! wt=l! w.2.2.2.2.1) (h4:Ps (l! w.1) j st si) (h5:Ps (l! w.2.2.2.1) j se ei):
 gR (((j:Int),e),(w,k),c,tm,A,sp,wa,wt,st,se,op,re,ar,si,ei)=Z ((w,k),c,tm,cg A e.1 (j:Int),FG (j:Int) e sp,FF (j:Int) e wt wa,KF e wt,QE 4 (j:Int) e st si,QE 22 (j:Int) e se ei,op,re,ar,Pr 4 (j:Int) e si,Pr 22 (j:Int) e ei):=by
 refine cX ?_;let⟨nm,t0,t1,cd⟩:=hev;let⟨t,l,o,v,s,D,la⟩:=e;dsimp only at nm t0 t1 hv;unfold gR m7 ik jK kV wR Ph Prod.D bf bA bH cF dM gz ja jS Prod.t dT ic vn ck bq bU kB mK bT kY aZ c5 aH cS;dsimp only;have l1:=h1.1;have l2:=h2.1;have l3:=h3.1;have cB:∀{R:Type} {Q:R->Prop} {n:Nat} {u:Int} {l:M R},0<=u->u<n->Ok l Q->Ok (ck (dL u n) l) Q:=λh0 h1 hk=>aO h0 h1 (aO h0 h1 hk)
 refine cB t0 (by omega) ?_;refine aY (λx=>x=((w,k),c,tm,cg A t (j:Int),FG (j:Int) (t,l,o,v,s,D,la) sp,FF (j:Int) (t,l,o,v,s,D,la) wt wa,KF (t,l,o,v,s,D,la) wt,QE 4 (j:Int) (t,l,o,v,s,D,la) st si,QE 22 (j:Int) (t,l,o,v,s,D,la) se ei,op,re,ar,Pr 4 (j:Int) (t,l,o,v,s,D,la) si,Pr 22 (j:Int) (t,l,o,v,s,D,la) ei)) ?_ ?_
 .unfold FG FF KF QE Pr;dsimp only;have lst:∀{n:Nat} {xs:η} {xss:Y η},Ps n j xs xss->0<=o->o<n->ax (aN (sI xs o)) (aj (rx (T:=aM) xss o))=J/\(aN (sI xs o))<=j/\l! xs=n/\l! xss=n:=λ{n xs xss} h z L=>by
   have e:o=((o.toNat:Nat):Int):=by omega
   let⟨a,b,cc⟩:=h.2.2 o.toNat (by omega);rw[e,LO,xr,a,bi];exact⟨fV _,b,h.1,h.2.1⟩
  refine aL (λg=>?_) λg1=>?_
  .obtain⟨z,L⟩:=nm.th (.inl g);refine cB z (by omega) (ak ?_);subst g;simp only[bF,bk,dE]
  refine aL (λg=>?_) λg2=>?_
  .obtain⟨z,L⟩:=nm.fu (.inl g);let⟨q1,q2,q3,q4⟩:=lst h5 z L;refine cB z (by omega) (aO z (by omega) (cU (bt q1 (bO (by rw[cO];omega) (by omega) (cB z (by omega) (ak ?_))))));subst g;simp only[bF,bk,dE]
  refine aL (λg=>?_) λg3=>?_
  .obtain⟨z,L⟩:=nm.ce (.inr g);let⟨q1,q2,q3,q4⟩:=lst h4 z L;refine cB z (by omega) (aO z (by omega) (cU (bt q1 (bO (by rw[cO];omega) (by omega) (cB z (by omega) (ak ?_))))));subst g;simp only[bF,bk,dE]
  refine aL (λg=>?_) λg4=>?_
  .refine cB t0 (by omega) (ak ?_);subst g;simp only[bF,bk,dE]
  refine aL (λg=>?_) λg5=>?_
  .subst g;refine fD (λv0=>?_) λv0=>?_
   .have v1:=hv rfl;refine cB v0 (by omega) (cB v0 (by omega) (ak ?_));simp only[bF,bk,dE,v0]
   .refine ak ?_;simp only[bF,bk,dE,Int.not_le.2 v0]
  refine aL (λg=>?_) λg6=>?_
  .subst g;refine iL (l! wt) (by omega) (λi x=>x=((i:Int),(w,k),c,tm,cg A t (j:Int),sp,YU o (j:Int) i wt wa,Vx o i wt,st,se,op,re,ar,si,ei,(t,19,o,v,s,D,la))) ?_ ?_ (by rw[ain,aim];simp only[Fy])
   .rintro i x hi rfl;refine dJ ?_;refine aY (λx=>x=((w,k),c,tm,cg A t (j:Int),sp,YU o (j:Int) (i+1) wt wa,Vx o (i+1) wt,st,se,op,re,ar,si,ei,(t,19,o,v,s,D,la))) ?_ ?_
    .dsimp only;have ib:dL (i:Int) (l! (Vx o i wt))=J:=S7.2 ⟨by omega,by rw[SD];omega⟩;refine bt ib (bt ib (aS ?_));have gv:geti aM (Vx o i wt) (i:Int)=wt.getD i 0:=by
      rw[Fj,abv _ _ _ hi,av (by omega)]
     rw[gv];refine aL (λh=>?_) λh=>?_
     .have h:wt.getD i 0=o:=h;refine cB (by omega) (by rw[SE];omega) (cB (by omega) (by rw[SD];omega) (ak ?_));rw[anr h,anq h]
     .have h:¬wt.getD i 0=o:=h;refine ak ?_;rw[at2 h,at1 h]
    .rintro x rfl;refine ak ?_;show _=_;rw[iG]
   .rintro x rfl;refine dC (ak ?_);simp only[bF,bk,dE]
  .refine ak ?_;simp only[g1,g2,g3,g4,g5,g6,dE]
 .rintro x rfl;exact ak rfl
def kq (w:WT) (e:ET):Int:=if e.2.1=7\/e.2.1=9\/e.2.1=11 then e.2.2.1 else if e.2.1=16 then (geti itK w.2.2.1 e.2.2.1).2 else if e.2.1=13 then (l! w.2.1:Int) else -1
def Bh (w:WT) (e:ET):Int:=if e.2.1=6\/e.2.1=8\/e.2.1=10 then e.2.2.1 else if e.2.1=17 then (geti itK w.2.2.1 e.2.2.1).2 else if e.2.1=12 then (l! w.2.1:Int) else -1
def Jt {w:WT} {e:ET} (hev:R2 w e):mi (w,e)=Z (kq w e):=by
 refine cX ?_;let⟨nm,L,D,cd⟩:=hev;let⟨t,k,o,v,s,r1,r2⟩:=e;dsimp only at nm L D;unfold mi bf bH bq bZ aZ aH;refine aY (λx=>x=(decide (k=7\/k=9\/k=11),w,t,k,o,v,s,r1,r2)) ?_ ?_
 .refine aL (λg=>ak ?_) λA=>aL (λg=>ak ?_) λz=>ak ?_
  .grind
  .grind
  .grind
 .rintro x rfl;unfold kq;refine aL (λg=>ak ?_) λA=>?_
  .rw[aD g]
  rw[av A];refine aL (λg=>?_) λz=>?_
  .have g:k=16:=g;let⟨o0,o1⟩:=nm.cd ⟨by omega,by omega⟩;rw[aD g];exact aO o0 o1 (aS (ak rfl))
  rw[av z];refine aL (λg=>ak ?_) λg3=>ak ?_
  .rw[aD g];rfl
  .rw[av g3]
def Kz {w:WT} {e:ET} (hev:R2 w e):mj (w,e)=Z (Bh w e):=by
 refine cX ?_;let⟨nm,L,D,cd⟩:=hev;let⟨t,k,o,v,s,r1,r2⟩:=e;dsimp only at nm L D;unfold mj bf bH bq bZ aZ aH;refine aY (λx=>x=(decide (k=6\/k=8\/k=10),w,t,k,o,v,s,r1,r2)) ?_ ?_
 .refine aL (λg=>ak ?_) λA=>aL (λg=>ak ?_) λz=>ak ?_
  .grind
  .grind
  .grind
 .rintro x rfl;unfold Bh;refine aL (λg=>ak ?_) λA=>?_
  .rw[aD g]
  rw[av A];refine aL (λg=>?_) λz=>?_
  .have g:k=17:=g;let⟨o0,o1⟩:=nm.cd ⟨by omega,by omega⟩;rw[aD g];exact aO o0 o1 (aS (ak rfl))
  rw[av z];refine aL (λg=>ak ?_) λg3=>ak ?_
  .rw[aD g];rfl
  .rw[av g3]
def OpI (n:Nat) (op:Y e!):Prop:=∀x∈op,0<=x.2/\x.2<(n:Int)
def ReI (n:Nat) (re:η):Prop:=∀v∈re,0<=v/\v<(n:Int)
def ahl (h0:0<=a) (h1:a<(i:Int)):shf i a=a:=by
 unfold shf;rw[aD (by exact a_ (by omega))]
def ReI.shf (h:ReI i A):A.map (AI.shf i)=A:=by
 have:A.map (AI.shf i)=A.map id:=iZ λv z=>ahl (h v z).1 (h v z).2
 rw[this,List.map_id]
def OpI.shf {op:Y e!} (h:OpI i op):Md i op=op:=by
 unfold Md;have:op.map (λe=>(e.1,AI.shf i e.2))=op.map id:=iZ λx z=>by rw[ahl (h x z).1 (h x z).2];rfl
 rw[this,List.map_id]
def Ck {k z:ν}:PP k z=J↔k=z:=by
 unfold PP;rw[al,bE,bE];exact⟨λh=>sF h.1 h.2,λh=>by rw[h];exact⟨rfl,rfl⟩⟩
def mf (k:ν):∀{op:Y e!},sK k op=J->(k,eC k op)∈op
 |[],h=>by cases h
 |e::r,h=>by
  simp only[sK,eC]at h ⊢;cases z:PP k e.1 with
  |true=>
   rw[Ck.1 z];exact cV ..
  |false=>
   rw[z,Bool.false_or]at h;exact bP _ (mf k h)
def Gb (k:ν) {x:e!}:∀{op:Y e!},x∈DJ k op->x∈op
 |[],h=>by cases h
 |e::r,h=>by
  simp[DJ]at h;cases z:PP k e.1 with
  |true=>rw[z]at h;exact bP _ h
  |false=>
   rw[z]at h;rcases aV.1 h with h|h
   .grind
   .exact bP _ (Gb k h)
def OpI.del {op:Y e!} (h:OpI i op) (k:ν):OpI i (DJ k op):=λx z=>h x (Gb k z)
def K_ (j:Int) (o:WO):WO:=((o.1.1,o.1.2.1,o.1.2.2.1,j,o.1.2.2.2.2),o.2)
abbrev bw (ar:Y WO) (i:Int):WO:=dX lZ ar i
def scQ (w:WT) (e:ET) (op:Y e!):Bool:=sK (e.1,kq w e) op
def FR (w:WT) (e:ET) (op:Y e!):Y e!:=if scQ w e op=J then DJ (e.1,kq w e) op else op
def Cb (w:WT) (e:ET) (op:Y e!) (re:η):η:=if scQ w e op=J then re++[eC (e.1,kq w e) op] else re
def Cc (w:WT) (j:Int) (e:ET) (op:Y e!) (ar:Y WO):Y WO:=if scQ w e op=J then qW (S:=lZ) ar (eC (e.1,kq w e) op) (K_ j (bw ar (eC (e.1,kq w e) op))) else ar
def YD (w:WT) (e:ET) (op:Y e!) (ar:Y WO):Y e!:=if 0<=Bh w e then yQ (e.1,Bh w e) (l! ar:Int) (FR w e op) else FR w e op
def Jp (w:WT) (j:Int) (e:ET) (op:Y e!) (ar:Y WO):Y WO:=if 0<=Bh w e then Cc w j e op ar++[((e.1,Bh w e,j,-1,decide (e.2.1=8)),[],[])] else Cc w j e op ar
def Mf (w:WT) (j:Int) (e:ET) (op:Y e!) (ar:Y WO):l! (Cc w j e op ar)=l! ar:=by
 unfold Cc qW;split
 .exact dt ..
 .rfl
def U2 {w:WT} {e:ET} (hev:R2 w e) {c:Y η} {tm:Y ν} {sp wa wt st se:η} {op:Y e!} {re:η} {ar:Y WO} {si ei:Y η}
 (h1:OpI (l! ar) op) (h2:ReI (l! ar) re) (h3:l! re<=1000):
 iN (((j:Int),e),(w,k),c,tm,A,sp,wa,wt,st,se,op,re,ar,si,ei)=Z ((w,k),c,tm,A,sp,wa,wt,st,se,YD w e op ar,si,ei,Cb w e op re,Jp w (j:Int) e op ar):=by
 refine cX ?_;unfold iN ik jK kV wR bf bA bH cF dM gz ja jS Prod.t kB mK bT aZ;dsimp only;refine be (Jt hev) ?_;refine aP (λL=>?_) λL=>?_
 .have hm:=mf _ L;have D:=h1 _ hm;dsimp only at D;have z:scQ w e op=J:=L;refine aO D.1 D.2 (a! (be (Kz hev) ?_));have hl:aj (qW (S:=lZ) ar (eC (e.1,kq w e) op) (K_ (j:Int) (bw ar (eC (e.1,kq w e) op))))=l! ar:=by unfold qW;exact dt ..
  have hR:ReI (l! ar) (re++[eC (e.1,kq w e) op]):=λv la=>by
   rcases bL.1 la with la|la
   .exact h2 v la
   .simp only[aE]at la;subst la;exact D
  refine fD (λg=>ak ?_) λg=>ak ?_
  .unfold YD Jp Cb FR Cc;rw[aD g,aD g,aD z,aD z,aD z];have e1:=(h1.del (e.1,kq w e)).shf;have e2:=hR.shf;rw[<- hl]at e1 e2;refine sF rfl (sF rfl (sF rfl (sF rfl (sF rfl (sF rfl (sF rfl (sF rfl (sF rfl (sF ?_ (sF rfl (sF rfl (sF ?_ rfl))))))))))))
   .show yQ (e.1,Bh w e) (aQ (aj (qW (S:=lZ) ar (eC (e.1,kq w e) op) (K_ (j:Int) (bw ar (eC (e.1,kq w e) op)))))) (Md (aj (qW (S:=lZ) ar (eC (e.1,kq w e) op) (K_ (j:Int) (bw ar (eC (e.1,kq w e) op))))) (DJ (e.1,kq w e) op))=_;rw[e1,hl];rfl
   .exact e2
  .unfold YD Jp Cb FR Cc;rw[av (Int.not_le.2 g),av (Int.not_le.2 g),aD z,aD z,aD z];rfl
 .have z:¬scQ w e op=J:=by unfold scQ;rw[L];simp
  refine be (Kz hev) (fD (λg=>ak ?_) λg=>ak ?_)
  .unfold YD Jp Cb FR Cc;rw[aD g,aD g,av z,av z,av z,h1.shf,h2.shf];rfl
  .unfold YD Jp Cb FR Cc;rw[av (Int.not_le.2 g),av (Int.not_le.2 g),av z,av z,av z]
section
def ap0 (c:η) (a:Int) (u:Nat):kE (c,a,(u:Int))=Z (decide (a<=c.getD u 0)):=by
 unfold kE;dsimp only;rw[Bm];rfl
def cvr (clk:η) (x:ν):Bool:=decide (x.1<=clk.getD x.2.toNat 0)
def akl (clk:η) {x:ν} (h:0<=x.2):kE (clk,x)=Z (cvr clk x):=by
 let⟨a,b⟩:=x;have e:b=((b.toNat:Nat):Int):=by omega
 unfold cvr;rw[e,ap0,bi]
def jc (c:Y η) (i:Int):η:=c.getD i.toNat []
def jt (tm:Y ν) (i:Int):ν:=tm.getD i.toNat (0,0)
abbrev WO.th (o:WO):Int:=o.1.1
abbrev WO.lk (o:WO):Int:=o.1.2.1
abbrev WO.bg (o:WO):Int:=o.1.2.2.1
abbrev WO.en (o:WO):Int:=o.1.2.2.2.1
abbrev WO.rd (o:WO):Bool:=o.1.2.2.2.2
def pU (P Q:WO):Bool:=decide (P.lk=Q.lk)&&(!decide (P.th=Q.th)&&(!(P.rd&&Q.rd)&&gD P.en Q.bg))
abbrev mbg (o:Int) (m:Y u!):Bool:=Bt (K:=.int .i64) (V:=.bool) o m af
def XO (P:WO) (e:ET):Bool:=mbg e.2.2.1 P.2.2||(decide (e.2.1=4)&&mbg e.2.2.1 P.2.1)
def BR (c:Y η) (ar:Y WO) (q:Int) (e:ET) (clk:η) (p:Int):η:=if pU (bw ar p) (bw ar q)=J/\XO (bw ar p) e=J then jl clk (jc c (bw ar p).en) else clk
def vP (c:Y η) (tm:Y ν) (ar:Y WO) (q:Int) (s:η×Bool) (p:Int):η×Bool:=if pU (bw ar p) (bw ar q)=J/\cvr s.1 (jt tm (bw ar p).bg)=J/\cvr s.1 (jt tm (bw ar p).en)=af then (jl s.1 (jc c (bw ar p).en),J) else s
structure CkL (T j:Nat) (c:List η) (tm:List ν):Prop where
 cl:l! c=j
 tl:l! tm=j
 ln:∀i:Nat,i<j->l! (c.getD i [])=T
 th:∀i:Nat,i<j->0<=(tm.getD i (0,0)).2
def EnI (j:Nat) (ar:Y WO) (re:η):Prop:=∀p∈re,(0<=p/\p<(l! ar:Int))/\(0<=(bw ar p).bg/\(bw ar p).bg<(j:Int))/\(0<=(bw ar p).en/\(bw ar p).en<(j:Int))
def CkL.jc {c:Y η} {tm:Y ν} (h:CkL i j c tm) {T:Int} (h0:0<=T) (h1:T<(j:Int)):l! (AI.jc c T)=i:=h.ln _ (by omega)
def CkL.jt {c:Y η} {tm:Y ν} (h:CkL i j c tm) {T:Int} (h0:0<=T) (h1:T<(j:Int)):0<=(AI.jt tm T).2:=h.th _ (by omega)
def ah5 {c:Y η} {tm:Y ν} (h:CkL i j c tm) {ar:Y WO} {e:ET} (z:l! A=i) {p:Int} (h0:0<=(bw ar p).en) (h1:(bw ar p).en<(j:Int)):l! (BR c ar a e A p)=i:=by
 unfold BR;split
 .rw[rj,z,h.jc h0 h1];exact Nat.max_self _
 .exact z
def ah4 {c:Y η} {tm:Y ν} (h:CkL i j c tm) {ar:Y WO} {s:η×Bool} (z:l! s.1=i) {p:Int} (h0:0<=(bw ar p).en) (h1:(bw ar p).en<(j:Int)):(vP c tm ar a s p).1.length=i:=by
 unfold vP;split
 .show (l! (jl s.1 _))=i;rw[rj,z,h.jc h0 h1];exact Nat.max_self _
 .exact z
variable {w:WT} {l:Y ET} {c:Y η} {tm:Y ν} {la sp wa wt st se:η} {op:Y e!} {re:η} {ar:Y WO} {si ei:Y η}
def adu (hT:i<=4) (h:CkL i j c tm) (hp:(0<=a/\a<(l! ar:Int))/\(0<=(bw ar a).bg/\(bw ar a).bg<(j:Int))/\(0<=(bw ar a).en/\(bw ar a).en<(j:Int))) {e:ET} (hc:l! A=i):
 kf (a,(w,l),c,tm,la,sp,wa,wt,st,se,op,re,ar,si,ei,e,A)=Z ((w,l),c,tm,la,sp,wa,wt,st,se,op,re,ar,si,ei,e,if XO (bw ar a) e=J then jl A (jc c (bw ar a).en) else A):=by
 refine cX ?_;let⟨⟨p0,z⟩,_,n0,D⟩:=hp;unfold kf ik jK kV wR Ph Prod.u bf bA bH cF dM gz ja jS Prod.E ck bq mK kY aH;refine aY (λx=>x=((a,XO (bw ar a) e),(w,l),c,tm,la,sp,wa,wt,st,se,op,re,ar,si,ei,e,A)) ?_ ?_
 .refine aO p0 z (aO p0 z ?_);refine aP (λg=>ak ?_) λg=>?_
  .have g:mbg e.2.2.1 (bw ar a).2.2=J:=g;unfold XO;rw[g];rfl
  have g:mbg e.2.2.1 (bw ar a).2.2=af:=g;refine aL (λclk=>aO p0 z (aO p0 z (ak ?_))) λclk=>ak ?_
  .unfold XO;rw[g,aU (show e.2.1=4 from clk)];rfl
  .unfold XO;rw[g,dc (show ¬e.2.1=4 from clk)];rfl
 .rintro x rfl;refine aP (λg=>?_) λg=>ak ?_
  .have L:=h.cl;refine aO p0 z (aS ?_);refine aO n0 (by grind) (aO n0 (by grind) (aS ?_));refine be (L3 A (jc c (bw ar a).en) (by unfold xS;omega) (by rw[h.jc n0 D];unfold xS;omega)) (ak ?_);rw[aD g]
  .grind
def adt (hT:i<=4) (h:CkL i j c tm) (hp:(0<=a/\a<(l! ar:Int))/\(0<=(bw ar a).bg/\(bw ar a).bg<(j:Int))/\(0<=(bw ar a).en/\(bw ar a).en<(j:Int))) {clk:Bool} (hc:l! A=i):
 kc (a,(w,l),c,tm,la,sp,wa,wt,st,se,op,re,ar,si,ei,A,clk)=Z ((w,l),c,tm,la,sp,wa,wt,st,se,op,re,ar,si,ei,if cvr A (jt tm (bw ar a).bg)=J/\cvr A (jt tm (bw ar a).en)=af then (jl A (jc c (bw ar a).en),J) else (A,clk)):=by
 refine cX ?_;let⟨⟨p0,z⟩,⟨b0,b1⟩,n0,D⟩:=hp;have L:=h.cl;have ht:=h.tl;unfold kc ik jK kV wR Ph Prod.u bf bA bH cF dM gz ja jS mK kY aH;refine aY (λx=>x=((a,cvr A (jt tm (bw ar a).bg)&& !cvr A (jt tm (bw ar a).en)),(w,l),c,tm,la,sp,wa,wt,st,se,op,re,ar,si,ei,A,clk)) ?_ ?_
 .refine aO p0 z (aS (aO b0 (by grind) (aO b0 (by grind) (aS ?_))));refine be (akl A (h.jt b0 b1)) ?_;refine aP (λg=>?_) λg=>ak ?_
  .refine aO p0 z (aS (aO n0 (by grind) (aO n0 (by grind) (aS ?_))));refine be (akl A (h.jt n0 D)) (ak ?_);have g:cvr A (jt tm (bw ar a).bg)=J:=g;rw[g,fo];rfl
  .have g:cvr A (jt tm (bw ar a).bg)=af:=g
   grind
 .rintro x rfl;refine aP (λg=>?_) λg=>ak ?_
  .refine aO p0 z (aS ?_);refine aO n0 (by grind) (aO n0 (by grind) (aS ?_));refine be (L3 A (jc c (bw ar a).en) (by unfold xS;omega) (by rw[h.jc n0 D];unfold xS;omega)) (ak ?_)
   grind
  .grind
def ait {Q:R->Prop} {P S:WO} {q:Int} (p0:0<=a) (D:a<(i:Int)) (q0:0<=q) (A:q<(i:Int)) {k:Bool->M R} (z:Ok (k (pU P S)) Q):
 Ok (chk (dL a i) λ_=>lt P.lk λz4=>chk (dL q i) λ_=>lt S.lk λz5=>aI (decide (z4=z5)) (chk (dL a i) λ_=>lt P.th λz6=>chk (dL q i) λ_=>lt S.th λz7=>aI (!decide (z6=z7)) (chk (dL a i) λ_=>lt P.rd λz8=>aI z8 (chk (dL q i) λ_=>lt S.rd λz9=>aI (!z9) (chk (dL a i) λ_=>lt P.en λz10=>chk (dL q i) λ_=>lt S.bg λz11=>k (gD z10 z11)) (k af)) (chk (dL a i) λ_=>lt P.en λz12=>chk (dL q i) λ_=>lt S.bg λL=>k (gD z12 L))) (k af)) (k af)) Q:=by
 unfold pU at z;refine aO p0 D (aS (aO q0 A (aS ?_)));refine aL (λg1=>?_) λg1=>?_
 .rw[aU g1,fo]at z;refine aO p0 D (aS (aO q0 A (aS ?_)));refine ca (λg2=>?_) λg2=>?_
  .rw[dc g2,Bool.not_false,fo]at z;refine aO p0 D (aS ?_);refine aP (λg3=>?_) λg3=>?_
   .rw[g3,fo]at z;refine aO q0 A (aS ?_);refine eQ (λg4=>?_) λg4=>?_
    .rw[g4,Bool.not_false,fo]at z;exact aO p0 D (aS (aO q0 A (aS z)))
    .grind
   .rw[g3,jN,Bool.not_false,fo]at z;exact aO p0 D (aS (aO q0 A (aS z)))
  .grind
 .grind
def yG (d:R) {xs:Y R} (h:i<l! xs):xs.take (i+1)=xs.take i++[xs.getD i d]:=by
 rw[List.take_add_one,aG h,aw,aG h];rfl
def IG (d:R) {xs:Y R} (h:i<l! xs):xs.getD i d∈xs:=by
 rw[aw,aG h];exact Fx h
def WR (hT:i<=4) (h:CkL i j c tm) (q0:0<=a) (D:a<(l! ar:Int)) (L:EnI j ar re) (hrl:l! re<=1000) {e:ET} (hc:l! A=i):
 kL (a,(w,l),c,tm,la,sp,wa,wt,st,se,op,re,ar,si,ei,e,A)=Z ((w,l),c,tm,la,sp,wa,wt,st,se,op,re,ar,si,ei,e,re.foldl (BR c ar a e) A):=by
 refine cX ?_;unfold kL sg ik jK kV bf bA bH cF dM gz ja jS ck bq bU jP mK bT aZ c5 aH cS;refine iL (l! re) (by omega) (λT x=>x=((a,(T:Int)),(w,l),c,tm,la,sp,wa,wt,st,se,op,re,ar,si,ei,e,(re.take T).foldl (BR c ar a e) A)/\l! ((re.take T).foldl (BR c ar a e) A)=i) ?_ ?_ ⟨by simp,by simpa using hc⟩
 .rintro T x hi ⟨rfl,hcl⟩;refine dJ ?_;have hpe:=L _ (IG 0 hi);have hiA:sI re (T:Int)=re.getD T 0:=LO re T;generalize hp:re.getD T 0=p at*
  let⟨⟨p0,clk⟩,hb,z⟩:=hpe;refine aY (λx=>x=(a,(w,l),c,tm,la,sp,wa,wt,st,se,op,re,ar,si,ei,e,BR c ar a e ((re.take T).foldl (BR c ar a e) A) p)) ?_ ?_
  .refine aO (by simp) (by grind) (aO (by simp) (by grind) ?_);rw[hiA];refine aY (λx=>x=((a,p,pU (bw ar p) (bw ar a)),(w,l),c,tm,la,sp,wa,wt,st,se,op,re,ar,si,ei,e,(re.take T).foldl (BR c ar a e) A)) ?_ ?_
   .with_reducible exact ait (P:=bw ar p) (S:=bw ar a) (k:=λb=>Z (b8 ((a,p,b),(w,l),c,tm,la,sp,wa,wt,st,se,op,re,ar,si,ei,e,(re.take T).foldl (BR c ar a e) A))) p0 clk q0 D (ak rfl)
   .rintro x rfl;refine aP (λg=>?_) λg=>ak ?_
    .refine be (adu hT h ⟨⟨p0,clk⟩,hb,z⟩ hcl) (bt (by simp) (ak ?_));unfold BR
     grind
    .unfold BR
     grind
  .rintro x rfl;refine ak ⟨?_,?_⟩
   .rw[yG 0 hi,dO,hp];rw[iG];rfl
   .rw[yG 0 hi,dO,hp];exact ah5 h hcl z.1 z.2
 .rintro x ⟨rfl,_⟩;refine dC (ak ?_);rw[cM]
def WP (hT:i<=4) (h:CkL i j c tm) (q0:0<=a) (L:a<(l! ar:Int)) (hr:EnI j ar re) (hrl:l! re<=1000) (hc:l! A=i):
 kK (a,(w,l),c,tm,la,sp,wa,wt,st,se,op,re,ar,si,ei,A,b)=Z ((w,l),c,tm,la,sp,wa,wt,st,se,op,re,ar,si,ei,re.foldl (vP c tm ar a) (A,b)):=by
 refine cX ?_;unfold kK sd ik jK kV bf bA bH cF dM gz ja jS ck bq bU jP mK bT aZ c5 aH cS;refine iL (l! re) (by omega) (λT x=>x=((a,(T:Int)),(w,l),c,tm,la,sp,wa,wt,st,se,op,re,ar,si,ei,(re.take T).foldl (vP c tm ar a) (A,b))/\((re.take T).foldl (vP c tm ar a) (A,b)).1.length=i) ?_ ?_ ⟨by simp,by simpa using hc⟩
 .rintro T x hi ⟨rfl,hcl⟩;refine dJ ?_;have hpe:=hr _ (IG 0 hi);have hiA:sI re (T:Int)=re.getD T 0:=LO re T;generalize hp:re.getD T 0=p at*
  let⟨⟨p0,D⟩,hb,clk⟩:=hpe;refine aY (λx=>x=(a,(w,l),c,tm,la,sp,wa,wt,st,se,op,re,ar,si,ei,vP c tm ar a ((re.take T).foldl (vP c tm ar a) (A,b)) p)) ?_ ?_
  .refine aO (by simp) (by grind) (aO (by simp) (by grind) ?_);rw[hiA];refine aY (λx=>x=((a,p,pU (bw ar p) (bw ar a)),(w,l),c,tm,la,sp,wa,wt,st,se,op,re,ar,si,ei,(re.take T).foldl (vP c tm ar a) (A,b))) ?_ ?_
   .with_reducible exact ait (P:=bw ar p) (S:=bw ar a) (k:=λz=>Z (b8 ((a,p,z),(w,l),c,tm,la,sp,wa,wt,st,se,op,re,ar,si,ei,(re.take T).foldl (vP c tm ar a) (A,b)))) p0 D q0 L (ak rfl)
   .rintro x rfl;generalize (re.take T).foldl (vP c tm ar a) (A,b)=s at*
    refine aP (λg=>?_) λg=>ak ?_
    .refine be (adt hT h ⟨⟨p0,D⟩,hb,clk⟩ hcl) (bt (by simp) (ak ?_));unfold vP
     grind
    .unfold vP
     grind
  .rintro x rfl;refine ak ⟨?_,?_⟩
   .rw[yG 0 hi,dO,hp];rw[iG];rfl
   .rw[yG 0 hi,dO,hp];exact ah4 h hcl clk.1 clk.2
 .rintro x ⟨rfl,_⟩;refine dC (ak ?_);rw[cM]
end
def lec (a b:η):Prop:=∀u:Nat,a.getD u 0<=b.getD u 0
def lec.rfl :lec A A:=λ_=>dx _
def lec.trans {b c:η} (h:lec A b) (h':lec b c):lec A c:=λu=>xo (h u) (h' u)
def at8 (a b:Int):a<=jR a b:=by unfold jR;by_cases h:gD a b=J<;>simp only[h,bk]<;>first|(have:=r7.1 h;omega)|simp
def at7 (a b:Int):b<=jR a b:=by
 unfold jR;by_cases h:gD a b=J
 .rw[aD h];exact dx _
 .have:=kh.1 (Sa.2 h);rw[av h];omega
def S8 (a b:Int):jR a b=a\/jR a b=b:=by
 unfold jR;by_cases h:gD a b=J
 .right;simp[h]
 .left;simp[h]
def AF (a b:η):lec a (jl a b):=λu=>by rw[rZ];exact at8 _ _
def Fc (a b:η):lec b (jl a b):=λu=>by rw[rZ];exact at7 _ _
def Ot {b:η} (h:lec A b) {x:ν} (z:cvr A x=J):cvr b x=J:=by
 unfold cvr at z ⊢;rw[bE]at z ⊢;exact xo z (h _)
def TB (ar:Y WO) (q:Int) (e:ET):Y WO:=if e.2.1=4 then qW (S:=lZ) ar q (vV (S:=lZ) 1 (bw ar q) (AB (K:=.int .i64) (V:=.bool) e.2.2.1 J (sP (S:=lZ) 1 (bw ar q)))) else qW (S:=lZ) ar q (vV (S:=lZ) 0 (bw ar q) (AB (K:=.int .i64) (V:=.bool) e.2.2.1 J (sP (S:=lZ) 0 (bw ar q))))
def U3 {ar:Y WO} {e:ET} (q0:0<=a) (z:a<(l! ar:Int)):j_ ((a,e),ar)=Z (TB ar a e):=by
 refine cX ?_;unfold j_ TB bf bA ck bq;refine aL (λg=>?_) λg=>?_
 .exact aO q0 z (aO q0 z (ak (by grind)))
 .exact aO q0 z (aO q0 z (ak (by grind)))
def ag1 (e:ET):oS e=Z (decide (e.2.1=3\/e.2.1=4)):=by
 refine cX ?_;refine aY (λx=>x=decide (e.2.1=3\/e.2.1=4)) ?_ ?_
 .refine aL (λg=>ak ?_) λg=>ak ?_
  .grind
  .grind
 .rintro x rfl;exact ak rfl
def Sy {ar:Y WO} (o:WO) (i:Int) (h:a.toNat<l! ar):bw (qW (S:=lZ) ar a o) i=if i.toNat=a.toNat then o else bw ar i:=by
 unfold bw qW dX
 grind
structure Sam (ar ar':List WO):Prop where
 ln:l! ar'=l! ar
 hd:∀i:Int,(bw ar' i).1=(bw ar i).1
 eq:∀i:Int,(bw ar i).en≠ -1->bw ar' i=bw ar i
def Sam.rfl (ar:Y WO):Sam ar ar:=⟨Eq.refl _,λ_=>Eq.refl _,λ_ _=>Eq.refl _⟩
def akb (ar:Y WO) (q:Int) (e:ET):l! (TB ar q e)=l! ar:=by
 unfold TB qW;split<;>exact dt ..
def WJ {ar:Y WO} (e:ET) (i:Int) (h:a.toNat<l! ar):bw (TB ar a e) i=if i.toNat=a.toNat then (if e.2.1=4 then ((bw ar a).1,(bw ar a).2.1,AB (K:=.int .i64) (V:=.bool) e.2.2.1 J (bw ar a).2.2) else ((bw ar a).1,AB (K:=.int .i64) (V:=.bool) e.2.2.1 J (bw ar a).2.1,(bw ar a).2.2)) else bw ar i:=by
 unfold TB;by_cases g:e.2.1=4
 .rw[aD g,aD g,Sy _ _ h];rfl
 .rw[av g,av g,Sy _ _ h];rfl
def Sam.ent {ar ar':Y WO} (h:Sam ar ar') (e:ET) (D:a.toNat<l! ar) (L:(bw ar a).en= -1):Sam ar (TB ar' a e):=by
 let⟨h1,h2,A⟩:=h;have hi:∀i:Int,i.toNat=a.toNat->bw ar i=bw ar a:=λi hi=>by unfold bw dX;rw[hi]
 refine ⟨by rw[akb,h1],λi=>?_,λi z=>?_⟩
 .rw[WJ e i (by omega)]
  grind
 .rw[WJ e i (by omega),av]
  .exact A i z
  .grind
def Sam.mat {ar ar':Y WO} (h:Sam ar ar') (p q:Int):pU (bw ar' p) (bw ar' q)=pU (bw ar p) (bw ar q):=by
 unfold pU WO.lk WO.th WO.rd WO.en WO.bg;rw[h.hd p,h.hd q]
def Sam.EnI {ar ar':Y WO} (h:Sam ar ar') {re:η} (z:EnI j ar re):AI.EnI j ar' re:=λp hp=>by
 let⟨⟨a,b⟩,A,d,f⟩:=z p hp;have e:=h.eq p (by omega);rw[h.ln,e];exact⟨⟨a,b⟩,A,d,f⟩
def aqx {I:η->Prop} {c:Y η} {ar:Y WO} {q:Int} {e:ET}:∀(L:η) (clk:η),I clk->(∀clk p,p∈L->pU (bw ar p) (bw ar q)=J->XO (bw ar p) e=J->I clk->I (jl clk (jc c (bw ar p).en)))->
 I (L.foldl (BR c ar q e) clk)/\lec clk (L.foldl (BR c ar q e) clk)/\∀p∈L,pU (bw ar p) (bw ar q)=J->XO (bw ar p) e=J->lec (jc c (bw ar p).en) (L.foldl (BR c ar q e) clk)
 |[],clk,h,_=>⟨h,lec.rfl,λp hp=>by cases hp⟩
 |p::L,clk,h,A=>by
  have h1:I (BR c ar q e clk p)/\lec clk (BR c ar q e clk p)/\(pU (bw ar p) (bw ar q)=J->XO (bw ar p) e=J->lec (jc c (bw ar p).en) (BR c ar q e clk p)):=by
   unfold BR;by_cases g:pU (bw ar p) (bw ar q)=J/\XO (bw ar p) e=J
   .rw[aD g];exact⟨A clk p (cV ..) g.1 g.2 h,AF _ _,λ_ _=>Fc _ _⟩
   .rw[av g];exact⟨h,lec.rfl,λa b=>cq ⟨a,b⟩ g⟩
  let⟨a,b,d⟩:=aqx L _ h1.1 λclk p hp=>A clk p (bP _ hp)
  refine ⟨a,h1.2.1.trans b,λD z m1 m2=>?_⟩;rcases aV.1 z with rfl|z
  .exact (h1.2.2 m1 m2).trans b
  .exact d D z m1 m2
def unc (tm:Y ν) (ar:Y WO) (re:η) (clk:η):Nat:=l! (re.filter λp=> !cvr clk (jt tm (bw ar p).en))
def ah8 {tm:Y ν} {ar:Y WO} {re:η} {b:η} (h:lec A b):unc tm ar re b<=unc tm ar re A:=by
 unfold unc;induction re with
 |nil=>exact bJ _
 |cons p r z=>
  simp[List.filter_cons];cases a:cvr A (jt tm (bw ar p).en) with
  |true=>rw[Ot h a];exact z
  |false=>grind
def ase {tm:Y ν} {ar:Y WO} {re:η} {b:η} (h:lec A b) {p:Int} (hp:p∈re) (h0:cvr A (jt tm (bw ar p).en)=af) (h1:cvr b (jt tm (bw ar p).en)=J):unc tm ar re b<unc tm ar re A:=by
 induction re with
 |nil=>cases hp
 |cons x r z=>
  have hle:=ah8 (tm:=tm) (ar:=ar) (re:=r) h;unfold unc at z hle ⊢;simp[List.filter_cons];rcases aV.1 hp with rfl|hp
  .grind
  .have z:=z hp;cases a:cvr A (jt tm (bw ar x).en) with
   |true=>rw[Ot h a];exact z
   |false=>grind
def ai4 {I:η->Prop} {c:Y η} {tm:Y ν} {ar:Y WO} {q:Int} {re:η} (htm:∀p∈re,cvr (jc c (bw ar p).en) (jt tm (bw ar p).en)=J):∀(L:η) (s:η×Bool),(∀p∈L,p∈re)->I s.1->(∀clk p,p∈L->pU (bw ar p) (bw ar q)=J->cvr clk (jt tm (bw ar p).bg)=J->I clk->I (jl clk (jc c (bw ar p).en)))->
 I (L.foldl (vP c tm ar q) s).1/\lec s.1 (L.foldl (vP c tm ar q) s).1/\((L.foldl (vP c tm ar q) s).2=J->s.2=J\/unc tm ar re (L.foldl (vP c tm ar q) s).1<unc tm ar re s.1)/\
 ((L.foldl (vP c tm ar q) s).2=af->s.2=af/\(L.foldl (vP c tm ar q) s).1=s.1/\∀p∈L,pU (bw ar p) (bw ar q)=J->cvr s.1 (jt tm (bw ar p).bg)=J->cvr s.1 (jt tm (bw ar p).en)=J)
 |[],s,_,h,_=>⟨h,lec.rfl,λh=>.inl h,λh=>⟨h,rfl,λp hp=>by cases hp⟩⟩
 |p::L,s,hL,h,z=>by
  have hpr:=hL p (cV ..);by_cases g:pU (bw ar p) (bw ar q)=J/\cvr s.1 (jt tm (bw ar p).bg)=J/\cvr s.1 (jt tm (bw ar p).en)=af
  .have A:vP c tm ar q s p=(jl s.1 (jc c (bw ar p).en),J):=by unfold vP;rw[aD g]
   let⟨a,b,d,f⟩:=ai4 htm L (jl s.1 (jc c (bw ar p).en),J) (λp hp=>hL p (bP _ hp)) (z s.1 p (cV ..) g.1 g.2.1 h) λclk p hp=>z clk p (bP _ hp)
   simp[Am,A];have hlt:unc tm ar re (jl s.1 (jc c (bw ar p).en))<unc tm ar re s.1:=ase (AF _ _) hpr g.2.2 (Ot (Fc _ _) (htm p hpr));refine ⟨a,(AF _ _).trans b,λ_=>.inr (Nat.lt_of_le_of_lt (ah8 b) hlt),λhf=>?_⟩
   grind
  .have A:vP c tm ar q s p=s:=by unfold vP;rw[av g]
   let⟨a,b,d,f⟩:=ai4 htm L s (λp hp=>hL p (bP _ hp)) h λclk p hp=>z clk p (bP _ hp)
   grind
def UL (j:Int) (e:ET) (sp:η):l! (FG j e sp)=l! sp:=by unfold FG;split<;>simp only[bS]
def UK (j:Int) (e:ET) (wt wa:η):l! (FF j e wt wa)=l! wa:=by
 unfold FF;split
 .split<;>simp only[bS]
 .split<;>simp only[SE]
def adf (k j:Int) (e:ET) (st:η) (si:Y η):l! (QE k j e st si)=l! st:=by unfold QE;split<;>simp only[dt]
def HG (e:ET) (op:Y e!) (ar:Y WO):Nat->Y WO
 |0=>ar
 |n+1=>if sK (e.1,(n:Int)) op=J then TB (HG e op ar n) (eC (e.1,(n:Int)) op) e else HG e op ar n
def al9 {e:ET} {op:Y e!} {ar:Y WO} (h:sK (e.1,(i:Int)) op=J):HG e op ar (i+1)=TB (HG e op ar i) (eC (e.1,(i:Int)) op) e:=aD h
def api {e:ET} {op:Y e!} {ar:Y WO} (h:¬sK (e.1,(i:Int)) op=J):HG e op ar (i+1)=HG e op ar i:=av h
def uA (w:WT) (e:ET) (op:Y e!) (ar:Y WO):Y WO:=if e.2.1=3\/e.2.1=4 then HG e op ar (l! w.2.1+1) else ar
def O1 {e:ET} {op:Y e!} {ar:Y WO} (h1:OpI (l! ar) op) (A:∀x∈op,(bw ar x.2).en= -1):∀n,Sam ar (HG e op ar n)
 |0=>Sam.rfl ar
 |n+1=>by
  have z:=O1 (e:=e) h1 A n;unfold HG;split
  next D=>have hm:=mf _ D;have:=h1 _ hm;exact z.ent e (by omega) (A _ hm)
  .exact z
def O2 {w:WT} {e:ET} {op:Y e!} {ar:Y WO} (h1:OpI (l! ar) op) (z:∀x∈op,(bw ar x.2).en= -1):Sam ar (uA w e op ar):=by
 unfold uA;split
 .exact O1 h1 z _
 .exact Sam.rfl ar
structure JI (w:WT) (c:List η) (tm:List ν) (src:η) (op:List (ν×Int)) (re:η) (ar:List WO) (e:ET) (I:η->Prop):Prop where
 i0:I (aC (l! w.2.2.2.2.1) 0)
 i1:∀clk i,i∈src->0<=i->I clk->I (jl clk (jc c i))
 i2:∀clk (lk:Int) p,(e.2.1=3\/e.2.1=4)->0<=lk->lk<=(l! w.2.1:Int)->sK (e.1,lk) op=J->p∈re->pU (bw ar p) (bw ar (eC (e.1,lk) op))=J->XO (bw ar p) e=J->I clk->I (jl clk (jc c (bw ar p).en))
 i3:∀clk p,sK (e.1,kq w e) op=J->p∈re->pU (bw ar p) (bw ar (eC (e.1,kq w e) op))=J->cvr clk (jt tm (bw ar p).bg)=J->I clk->I (jl clk (jc c (bw ar p).en))
 it:∀clk,I clk->l! clk=l! w.2.2.2.2.1/\0<=clk.getD e.1.toNat 0/\clk.getD e.1.toNat 0<1000000000
structure JR (w:WT) (c:List η) (tm:List ν) (src:η) (op:List (ν×Int)) (re:η) (ar:List WO) (e:ET) (clk:η):Prop where
 a:∀i∈src,0<=i->lec (jc c i) clk
 b:(e.2.1=3\/e.2.1=4)->∀lk:Int,0<=lk->lk<=(l! w.2.1:Int)->sK (e.1,lk) op=J->∀p∈re,pU (bw ar p) (bw ar (eC (e.1,lk) op))=J->XO (bw ar p) e=J->lec (jc c (bw ar p).en) clk
 c:sK (e.1,kq w e) op=J->∀p∈re,pU (bw ar p) (bw ar (eC (e.1,kq w e) op))=J->cvr clk (jt tm (bw ar p).bg)=J->cvr clk (jt tm (bw ar p).en)=J
set_option maxRecDepth 10000 in
def amu {w:WT} {l:Y ET} {e:ET} (hev:R2 w e) {j:Nat} (hj:j<=400) (hT:l! w.2.2.2.2.1<=4) (hL:l! w.2.1<=4) (hv:e.2.1=18->e.2.2.2.1<l! w.2.2.2.2.1) {c:Y η} {tm:Y ν} {la sp wa wt st se:η} {op:Y e!} {re:η} {ar:Y WO} {si ei:Y η}
 (h1:Fs (l! w.2.2.2.2.1) j la) (h2:Fs (l! w.2.2.2.2.1) j sp) (h3:Fs (l! w.2.2.2.2.1) j wa) (hwt:l! wt=l! w.2.2.2.2.1) (h4:Ps (l! w.1) j st si) (h5:Ps (l! w.2.2.2.1) j se ei)
 (hc:CkL (l! w.2.2.2.2.1) j c tm) (ho:OpI (l! ar) op) (hoo:∀x∈op,(bw ar x.2).en= -1) (hr:EnI j ar re) (hrl:l! re<=400) (htm:∀p∈re,cvr (jc c (bw ar p).en) (jt tm (bw ar p).en)=J)
 {I:η->Prop} (hI:JI w c tm (vR w la sp wa si ei e) op re ar e I):
 Ok (gC (((j:Int),e),(w,l),c,tm,la,sp,wa,wt,st,se,op,re,ar,si,ei)) λy=>∃clk,(I clk/\JR w c tm (vR w la sp wa si ei e) op re ar e clk)/\y=((w,l),cg la e.1 (j:Int),FG (j:Int) e sp,FF (j:Int) e wt wa,KF e wt,QE 4 (j:Int) e st si,QE 22 (j:Int) e se ei,YD w e op (uA w e op ar),c++[tk clk e.1.toNat],tm++[((tk clk e.1.toNat).getD e.1.toNat 0,e.1)],Cb w e op re,Jp w (j:Int) e op (uA w e op ar),Pr 4 (j:Int) e si,Pr 22 (j:Int) e ei):=by
 have t0:=hev.t0;have t1:=hev.t1;have hsl:l! (vR w la sp wa si ei e)<=401:=by
  have q:∀{n:Nat} {xs:η} {xss:Y η} {o:Int},Ps n j xs xss->0<=o->o<n->l! (rx (T:=aM) xss o)<=400:=λ{n xs xss o} h o0 o1=>by
   have e:o=((o.toNat:Nat):Int):=by omega
   obtain⟨a,b,cc⟩:=h.2.2 o.toNat (by omega);rw[e,xr];omega
  unfold vR;rw[bK,cO];split
  .simp
  .split
   .simp
   .split
    .rename_i g;have:=q h5 (hev.nm.fu (.inr g)).1 (hev.nm.fu (.inr g)).2;omega
    .split
     .rename_i g;split
      .have:=q h4 (hev.nm.ce (.inl g)).1 (hev.nm.ce (.inl g)).2;omega
      .simp
     .split<;>simp
 have hsv:∀v∈vR w la sp wa si ei e,v<(j:Int):=by
  have q:∀{n:Nat} {xs:η} {xss:Y η} {o:Int},Ps n j xs xss->0<=o->o<n->∀v∈rx (T:=aM) xss o,v<(j:Int):=λ{n xs xss o} h o0 o1 v hv=>by
   have e:o=((o.toNat:Nat):Int):=by omega
   rw[e,xr]at hv;exact ((h.2.2 o.toNat (by omega)).2.2 v hv).2
  intro v hv;unfold vR at hv;rcases bL.1 hv with hv|hv
  .rw[aE]at hv;rw[hv];exact (h1.geti t0 t1).2
  .split at hv
   .rw[aE]at hv;rw[hv];exact (h2.geti t0 t1).2
   .split at hv
    .rename_i g;rw[aE]at hv;rw[hv];exact (h1.geti (hev.nm.th (.inr g)).1 (hev.nm.th (.inr g)).2).2
    .split at hv
     .rename_i g;exact q h5 (hev.nm.fu (.inr g)).1 (hev.nm.fu (.inr g)).2 v hv
     .split at hv
      .rename_i g;split at hv
       .exact q h4 (hev.nm.ce (.inl g)).1 (hev.nm.ce (.inl g)).2 v hv
       .cases hv
      .split at hv
       .rw[aE]at hv;rw[hv];exact (h3.geti t0 t1).2
       .cases hv
 generalize hsrc:vR w la sp wa si ei e=src at*
 have hcl:=hc.cl;unfold gC n_ ik jK kV wR Ph Prod.u Prod.B bf bA bH cF dM gz ja jS HR Prod.z Prod.C Prod.t Prod.H Prod.E Prod.F bU kB bT bZ kY aZ c5 aH cS;dsimp only;refine cU (cU (dG (by dsimp only[aB];omega) (a? (bO (by simp only[aB,bi];omega) (by omega) ?_))));refine be (YA hev (by omega) h1 h2 h3 h4 h5) ?_;rw[hsrc];dsimp only;refine bt (by simp only[fV,fw]) ?_;refine iL (l! src) (by omega) (λi x=>∃clk,x=((i:Int),(w,l),c,tm,la,sp,wa,wt,st,se,op,re,ar,si,ei,e,clk)/\I clk/\∀v∈src.take i,0<=v->lec (jc c v) clk) ?_ ?_ ⟨aC (l! w.2.2.2.2.1) 0,by simp only[aB,bi];rfl,hI.i0,λv hv=>by simp at hv⟩
 .rintro i x hi ⟨clk,rfl,hk,hs⟩;refine dJ ?_;have hvm:=IG 0 hi;have hgv:geti aM src (i:Int)=src.getD i 0:=Fj src i;have hlt:=hsv _ hvm;have htk:=yG 0 hi;generalize src.getD i 0=v at*
  refine aY (λx=>∃clk',x=((w,l),c,tm,la,sp,wa,wt,st,se,op,re,ar,si,ei,e,clk')/\I clk'/\∀v∈src.take (i+1),0<=v->lec (jc c v) clk') ?_ ?_
  .refine cE (aS ?_);dsimp only;have hgv':geti aM src (i:Int)=v:=hgv;rw[hgv'];refine fD (λv0=>?_) λv0=>?_
   .refine aO v0 (by omega) (aO v0 (by omega) (aS ?_));refine be (L3 clk (jc c v) (by have:=(hI.it clk hk).1;unfold xS;omega) (by rw[hc.jc v0 hlt];unfold xS;omega)) (ak ⟨_,rfl,hI.i1 clk v hvm v0 hk,λu hu u0=>?_⟩);rw[htk]at hu;rcases bL.1 hu with hu|hu
    .exact (hs u hu u0).trans (AF _ _)
    .rw[aE]at hu;rw[hu];exact Fc _ _
   .refine ak ⟨clk,rfl,hk,λu hu u0=>?_⟩;rw[htk]at hu;rcases bL.1 hu with hu|hu
    .exact hs u hu u0
    .rw[aE]at hu;omega
  .rintro x ⟨clk',rfl,hk',hs'⟩;refine ak ⟨clk',?_,hk',hs'⟩;show (bm .i64 ((i:Int)+1),_)=_;rw[iG]
 rintro x ⟨clk,rfl,hk,hs⟩;rw[cM]at hs;refine dC ?_;refine ay (P:=λy=>∃clk,(I clk/\JR w c tm src op re ar e clk)/\y=((w,l),cg la e.1 (j:Int),FG (j:Int) e sp,FF (j:Int) e wt wa,KF e wt,QE 4 (j:Int) e st si,QE 22 (j:Int) e se ei,YD w e op (uA w e op ar),c++[tk clk e.1.toNat],tm++[((tk clk e.1.toNat).getD e.1.toNat 0,e.1)],Cb w e op re,Jp w (j:Int) e op (uA w e op ar),Pr 4 (j:Int) e si,Pr 22 (j:Int) e ei)) ?_ λy hy=>ak hy
 have sam:=O2 (w:=w) (e:=e) ho hoo;have hrl':l! re<=1000:=by omega
 refine aY (λx=>∃clk,x=((w,l),c,tm,la,sp,wa,wt,st,se,op,re,uA w e op ar,si,ei,e,clk)/\I clk/\(∀v∈src,0<=v->lec (jc c v) clk)/\((e.2.1=3\/e.2.1=4)->∀lk:Int,0<=lk->lk<=(l! w.2.1:Int)->sK (e.1,lk) op=J->∀p∈re,pU (bw ar p) (bw ar (eC (e.1,lk) op))=J->XO (bw ar p) e=J->lec (jc c (bw ar p).en) clk)) ?_ ?_
 .dsimp only;refine be (ag1 e) ?_;refine aL (λhacc=>?_) λhacc=>?_
  .refine iL (l! w.2.1+1) (by omega) (λi x=>∃clk,x=((i:Int),(w,l),c,tm,la,sp,wa,wt,st,se,op,re,HG e op ar i,si,ei,e,clk)/\I clk/\(∀v∈src,0<=v->lec (jc c v) clk)/\∀lk:Int,0<=lk->lk<(i:Int)->sK (e.1,lk) op=J->∀p∈re,pU (bw ar p) (bw ar (eC (e.1,lk) op))=J->XO (bw ar p) e=J->lec (jc c (bw ar p).en) clk) ?_ ?_ ⟨clk,rfl,hk,hs,λlk h0 h1=>by omega⟩
   .rintro i x hi ⟨clk,rfl,hk,hs,hb⟩;have hwr:bm .i64 (aQ (l! w.2.1)+1)=((l! w.2.1+1:Nat):Int):=iG;refine dJ ?_ (by dsimp only;rw[hwr];omega);have si_:=O1 (e:=e) ho hoo i;refine aY (λx=>∃clk',x=((w,l),c,tm,la,sp,wa,wt,st,se,op,re,HG e op ar (i+1),si,ei,e,clk')/\I clk'/\(∀v∈src,0<=v->lec (jc c v) clk')/\∀lk:Int,0<=lk->lk<((i+1:Nat):Int)->sK (e.1,lk) op=J->∀p∈re,pU (bw ar p) (bw ar (eC (e.1,lk) op))=J->XO (bw ar p) e=J->lec (jc c (bw ar p).en) clk') ?_ ?_
    .dsimp only;refine aP (λhq=>?_) λhq=>?_
     .have hm:=mf _ hq;have hqr:=ho _ hm;dsimp only at hqr;have q0:=hqr.1;have q1:eC (e.1,(i:Int)) op<(l! (HG e op ar i):Int):=by rw[si_.ln];exact hqr.2
      refine be (WR hT hc q0 q1 (si_.EnI hr) hrl' (hI.it clk hk).1) (bt (by simp only[fV,fw]) ?_);refine be (U3 q0 q1) (ak ?_);have pe:∀p∈re,bw (HG e op ar i) p=bw ar p:=λp hp=>si_.eq p (by have:=(hr p hp).2.2;omega)
      obtain⟨r1,r2,r3⟩:=aqx (I:=I) (c:=c) (ar:=HG e op ar i) (q:=eC (e.1,(i:Int)) op) (e:=e) re clk hk (λclk p hp m1 m2 hk=>by
       rw[si_.mat]at m1;rw[pe p hp]at m2 ⊢;exact hI.i2 clk (i:Int) p hacc (by omega) (by omega) hq hp m1 m2 hk)
      refine ⟨_,by rw[al9 hq],r1,λv hv v0=>(hs v hv v0).trans r2,λlk l0 l1 ho' p hp m1 m2=>?_⟩;by_cases hlk:lk=(i:Int)
      .subst hlk;have:=r3 p hp (by rw[si_.mat];exact m1) (by rw[pe p hp];exact m2);rw[pe p hp]at this;exact this
      .exact (hb lk l0 (by omega) ho' p hp m1 m2).trans r2
     .refine ak ⟨clk,by rw[api (by rw[hq];simp)],hk,hs,λlk l0 l1 ho' p hp m1 m2=>?_⟩;by_cases hlk:lk=(i:Int)
      .subst hlk;have hq:sK (e.1,(i:Int)) op=af:=hq;rw[hq]at ho';cases ho'
      .exact hb lk l0 (by omega) ho' p hp m1 m2
    .rintro x ⟨clk',rfl,a,b,d⟩;refine ak ⟨clk',?_,a,b,d⟩;show (bm .i64 ((i:Int)+1),_)=_;rw[iG]
   .rintro x ⟨clk,rfl,a,b,d⟩;have hwr:bm .i64 (aQ (l! w.2.1)+1)=((l! w.2.1+1:Nat):Int):=iG;refine dC (ak ⟨clk,by unfold uA;rw[aD hacc],a,b,λ_ lk l0 l1=>d lk l0 (by omega)⟩) (by dsimp only;rw[hwr];omega)
  .exact ak ⟨clk,by unfold uA;rw[av hacc],hk,hs,λh=>cq h hacc⟩
 rintro x ⟨clk,rfl,hk,hs,hb⟩;dsimp only;refine aY (λx=>∃clk,x=((w,l),c,tm,la,sp,wa,wt,st,se,op,re,uA w e op ar,si,ei,e,clk)/\I clk/\JR w c tm src op re ar e clk) ?_ ?_
 .refine be (Jt hev) ?_;refine aP (λhq=>?_) λhq=>?_
  .have hm:=mf _ hq;have hqr:=ho _ hm;dsimp only at hqr;have q0:=hqr.1;have q1:eC (e.1,kq w e) op<(l! (uA w e op ar):Int):=by rw[sam.ln];exact hqr.2
   have pe:∀p∈re,bw (uA w e op ar) p=bw ar p:=λp hp=>sam.eq p (by have:=(hr p hp).2.2;omega)
   have uncL:∀clk,unc tm (uA w e op ar) re clk<=l! re:=λclk=>by unfold unc;exact EI ..
   refine aic 1000 (λx=>2*unc tm (uA w e op ar) re x.2.2.2.2.2.2.2.2.2.2.2.2.2.2.2.2.1+if x.2.2.2.2.2.2.2.2.2.2.2.2.2.2.2.2.2=J then 1 else 0) (λx=>∃clk ag,x=(eC (e.1,kq w e) op,(w,l),c,tm,la,sp,wa,wt,st,se,op,re,uA w e op ar,si,ei,e,clk,ag)/\I clk/\(∀v∈src,0<=v->lec (jc c v) clk)/\((e.2.1=3\/e.2.1=4)->∀lk:Int,0<=lk->lk<=(l! w.2.1:Int)->sK (e.1,lk) op=J->∀p∈re,pU (bw ar p) (bw ar (eC (e.1,lk) op))=J->XO (bw ar p) e=J->lec (jc c (bw ar p).en) clk)/\(ag=af->∀p∈re,pU (bw ar p) (bw ar (eC (e.1,kq w e) op))=J->cvr clk (jt tm (bw ar p).bg)=J->cvr clk (jt tm (bw ar p).en)=J)) ?_ ?_ ⟨clk,J,rfl,hk,hs,hb,nofun⟩
   .rintro x ⟨clk,ag,rfl,hk,hs,hb,hd⟩;dsimp only;refine aP (λhag=>?_) λhag=>?_
    .refine be (WP hT hc q0 q1 (sam.EnI hr) hrl' (hI.it clk hk).1) (bt (by simp only[fV,fw]) (ak ?_));obtain⟨r1,r2,r3,r4⟩:=ai4 (I:=I) (c:=c) (tm:=tm) (ar:=uA w e op ar) (q:=eC (e.1,kq w e) op) (re:=re) (λp hp=>by rw[pe p hp];exact htm p hp) re (clk,af) (λp hp=>hp) hk (λclk p hp m1 m2 hk=>by
      rw[sam.mat]at m1;rw[pe p hp]at m2 ⊢;exact hI.i3 clk p hq hp m1 m2 hk)
     generalize List.foldl (vP c tm (uA w e op ar) (eC (e.1,kq w e) op)) (clk,af) re=s at*
     obtain⟨sc,sa⟩:=s;dsimp only at r1 r2 r3 r4;refine ⟨⟨sc,sa,rfl,r1,λv hv v0=>(hs v hv v0).trans r2,λh lk l0 l1 ho' p hp m1 m2=>(hb h lk l0 l1 ho' p hp m1 m2).trans r2,λh p hp m1 m2=>?_⟩,?_⟩
     .obtain⟨_,f2,f3⟩:=r4 h;rw[f2]at m2 ⊢;have:=f3 p hp (by rw[sam.mat];exact m1) (by rw[pe p hp];exact m2);rw[pe p hp]at this;exact this
     .grind
    .have hag:ag=af:=hag;exact ak ⟨clk,rfl,hk,hs,hb,λ_=>hd hag⟩
   .dsimp only;have:=uncL clk;rw[aD rfl];omega
  .refine ak ⟨clk,rfl,hk,hs,hb,λh=>?_⟩;have hq:sK (e.1,kq w e) op=af:=hq;rw[hq]at h;cases h
 rintro x ⟨clk,rfl,hk,hj'⟩;dsimp only;obtain⟨k1,k2,k3⟩:=hI.it clk hk;have et:e.1=((e.1.toNat:Nat):Int):=by omega
 have htick:rh (clk,e.1)=Z (tk clk e.1.toNat):=by
  rw[et,bi];exact adh clk e.1.toNat (by unfold xS;omega) (by omega) k2 (by omega)
 refine be htick ?_;have htl:=hc.tl;have hlt:l! (tk clk e.1.toNat)=l! w.2.2.2.2.1:=by rw[Dc,k1];omega
 refine bO (by rw[cO];omega) (by omega) (aO t0 (by rw[hlt];exact t1) (aS (bO (by rw[cO];omega) (by omega) ?_)));have hgt:geti aM (tk clk e.1.toNat) e.1=(tk clk e.1.toNat).getD e.1.toNat 0:=by
  rw[et,Fj,bi]
 have hgt':geti aM (tk clk e.1.toNat) e.1=(tk clk e.1.toNat).getD e.1.toNat 0:=hgt;rw[hgt'];refine be (U2 hev (by rw[sam.ln];exact ho) (λv hv=>by rw[sam.ln];exact (hr v hv).1) hrl') ?_;dsimp only;refine bt (by simp only[fV,fw]) ?_;refine be (ak7 hev (by omega) hT hv h1 h2 h3 hwt h4 h5) ?_;dsimp only;refine bt (by simp only[bS,UL,UK,L6,adf,fV,fw]) (ak ⟨clk,⟨hk,hj'⟩,rfl⟩)
def Vw {ar:Y WO} :bw ar a=bw ar (a.toNat:Int):=by unfold bw dX;rw[bi]
def LI {ar:Y WO} (o:WO) (h:a.toNat<l! ar):bw (ar++[o]) a=bw ar a:=by
 unfold bw dX;rw[aw,aw,bI h]
def abs (ar:Y WO) (o:WO):bw (ar++[o]) (l! ar:Int)=o:=by
 unfold bw dX;rw[bi,aw,nY];rfl
def Ae (op:Y e!):Prop:=(op.map (·.1)).Nodup
def abt (k:ν) {x:e!}:∀{op:Y e!},Ae op->x∈DJ k op->x.1≠k
 |[],_,h=>by cases h
 |e::r,A,h=>by
  unfold Ae at A;rw[b9,uF]at A;simp[DJ]at h;cases z:PP k e.1 with
  |true=>
   rw[z]at h;intro he;exact A.1 (by rw[<- Ck.1 z,<-he];exact List.mem_map_of_mem h)
  |false=>
   rw[z]at h;rcases aV.1 h with h|h
   .rw[h];intro he;rw[Ck.2 he.symm]at z;cases z
   .exact abt k A.2 h
def Ae.del (k:ν):∀{op:Y e!},Ae op->Ae (DJ k op)
 |[],h=>h
 |e::r,z=>by
  unfold Ae at z ⊢;rw[b9,uF]at z;simp[DJ];cases D:PP k e.1 with
  |true=>exact z.2
  |false=>
   rw[b9,uF];refine ⟨λh=>z.1 ?_,Ae.del k z.2⟩;let⟨x,A,hxe⟩:=cr.1 h;rw[<- hxe];exact List.mem_map_of_mem (Gb k A)
def My {k:ν} {x:e!}:∀{op:Y e!},Ae op->x∈yQ k a op->x=(k,a)\/(x∈op/\x.1≠k)
 |[],_,h=>.inl (aE.1 h)
 |e::r,A,h=>by
  unfold Ae at A;rw[b9,uF]at A;simp[yQ]at h;cases z:PP k e.1 with
  |true=>
   rw[z]at h;rcases aV.1 h with h|h
   .exact .inl h
   .refine .inr ⟨bP _ h,λhe=>A.1 ?_⟩;rw[<- Ck.1 z,<-he];exact List.mem_map_of_mem h
  |false=>
   rw[z]at h;rcases aV.1 h with h|h
   .rw[h];exact .inr ⟨cV ..,λhe=>by rw[Ck.2 he.symm]at z;cases z⟩
   .rcases My A.2 h with h|h
    .exact .inl h
    .grind
def Ra {k:ν} {y:ν}:∀{op:Y e!},y∈(yQ k a op).map (·.1)->y=k\/y∈op.map (·.1)
 |[],h=>.inl (by simpa[yQ] using h)
 |e::r,h=>by
  simp only[yQ]at h;cases z:PP k e.1 with
  |true=>grind
  |false=>
   rw[z]at h;rcases aV.1 h with h|h
   .grind
   .rcases Ra h with h|h
    .exact .inl h
    .grind
def Ae.put (k:ν) (v:Int):∀{op:Y e!},Ae op->Ae (yQ k v op)
 |[],_=>by simp[Ae,yQ]
 |e::r,z=>by
  unfold Ae at z ⊢;rw[b9,uF]at z;simp[yQ];cases A:PP k e.1 with
  |true=>
   show (k::r.map (·.1)).Nodup;rw[Ck.1 A,uF];exact z
  |false=>
   show (e.1::(yQ k v r).map (·.1)).Nodup;rw[uF];refine ⟨λh=>?_,Ae.put k v z.2⟩;rcases Ra h with h|h
   .rw[Ck.2 h.symm]at A;cases A
   .exact z.1 h
structure WS (j:Nat) (op:List (ν×Int)) (re:η) (ar:List WO):Prop where
 ks:Ae op
 o:∀x∈op,(0<=x.2/\x.2<(l! ar:Int))/\(bw ar x.2).th=x.1.1/\(bw ar x.2).lk=x.1.2/\(bw ar x.2).en= -1/\0<=x.1.2
 a:∀k:Nat,k<l! ar->(0<=(bw ar k).bg/\(bw ar k).bg<(j:Int))/\((bw ar k).en= -1\/((bw ar k).bg<(bw ar k).en/\(bw ar k).en<(j:Int)))
 r:∀p∈re,(0<=p/\p<(l! ar:Int))/\(bw ar p).en≠ -1
 rl:l! re<=j
def WS.op {op:Y e!} {re:η} {ar:Y WO} (h:WS j op re ar):OpI (l! ar) op:=λx z=>(h.o x z).1
def WS.oo {op:Y e!} {re:η} {ar:Y WO} (h:WS j op re ar):∀x∈op,(bw ar x.2).en= -1:=λx z=>(h.o x z).2.2.2.1
def WS.en {op:Y e!} {re:η} {ar:Y WO} (h:WS j op re ar):EnI j ar re:=λp hp=>by
 let⟨⟨p0,z⟩,p2⟩:=h.r p hp;let⟨D,A⟩:=h.a p.toNat (by omega)
 grind
def WS.sam {op:Y e!} {re:η} {ar ar':Y WO} (h:WS j op re ar) (s:Sam ar ar'):WS j op re ar':=by
 let⟨h1,h2,h3,L,D⟩:=h;have e:∀i:Int,(bw ar' i).1=(bw ar i).1:=s.hd;refine ⟨h1,λx z=>?_,λk A=>?_,λp hp=>?_,D⟩
 .have:=h2 x z;unfold WO.th WO.lk WO.en at this ⊢;rw[e,s.ln];exact this
 .have:=h3 k (by rw[<- s.ln];exact A)
  grind
 .have:=L p hp;unfold WO.en at this ⊢;rw[e,s.ln];exact this
def yM {w:WT} {e:ET} {op:Y e!} {ar:Y WO} (hi:OpI (l! ar) op) (i:Int):bw (Cc w a e op ar) i=if scQ w e op=J/\i.toNat=(eC (e.1,kq w e) op).toNat then K_ a (bw ar (eC (e.1,kq w e) op)) else bw ar i:=by
 unfold Cc;by_cases z:scQ w e op=J
 .rw[aD z];have:=hi _ (mf _ z);rw[Sy _ _ (by omega)]
  grind
 .grind
def yL {w:WT} {e:ET} {op:Y e!} (z:Ae op) {x:e!} (h:x∈FR w e op):x∈op/\(scQ w e op=J->x.1≠(e.1,kq w e)):=by
 unfold FR at h;split at h
 .exact⟨Gb _ h,λ_=>abt _ z h⟩
 .grind
def Q0 {w:WT} {e:ET} {op:Y e!} (z:Ae op):Ae (FR w e op):=by
 unfold FR;split
 .exact z.del _
 .exact z
def ab8 {w:WT} {e:ET} {op:Y e!} {re:η} {ar:Y WO} (h:WS j op re ar) {x:e!} (A:x∈FR w e op) (z:Int):bw (Cc w z e op ar) x.2=bw ar x.2:=by
 let⟨h1,h2⟩:=yL h.ks A;rw[yM h.op,av];rintro⟨D,L⟩;have hm:=mf _ D;have a1:=h.o _ h1;have a2:=h.o _ hm
 grind
def WS.next {w:WT} {e:ET} {op:Y e!} {re:η} {ar:Y WO} (h:WS j op re ar):WS (j+1) (YD w e op ar) (Cb w e op re) (Jp w (j:Int) e op ar):=by
 have z:=Mf w (j:Int) e op ar;have m1:WS (j+1) (FR w e op) (Cb w e op re) (Cc w (j:Int) e op ar):=by
  refine ⟨Q0 h.ks,λx A=>?_,λk hk=>?_,λp hp=>?_,?_⟩
  .rw[ab8 h A,z];exact h.o x (yL h.ks A).1
  .rw[z]at hk;rw[yM h.op];split
   .rename_i hz;have hm:=h.o _ (mf _ hz.1);dsimp only at hm;have ha:=h.a (eC (e.1,kq w e) op).toNat (by omega);unfold K_
    grind
   .have ha:=h.a k hk;omega
  .unfold Cb at hp;have old:p∈re->(0<=p/\p<(l! (Cc w (j:Int) e op ar):Int))/\(bw (Cc w (j:Int) e op ar) p).en≠ -1:=λhp=>by
    let⟨L,D⟩:=h.r p hp;rw[z];refine ⟨L,?_⟩;rw[yM h.op];split
    .unfold K_;dsimp only[WO.en];omega
    .exact D
   split at hp
   .rename_i hq;rcases bL.1 hp with hp|hp
    .exact old hp
    .rw[aE]at hp;subst hp;have hm:=h.o _ (mf _ hq);rw[z];refine ⟨hm.1,?_⟩;rw[yM h.op,aD ⟨hq,rfl⟩];unfold K_;dsimp only[WO.en];omega
   .exact old hp
  .unfold Cb;have:=h.rl
   grind
 unfold YD Jp;by_cases g:0<=Bh w e
 .rw[aD g,aD g];generalize hn:((e.1,Bh w e,(j:Int),-1,decide (e.2.1=8)),([],[]))=new;have hlen:(l! (Cc w (j:Int) e op ar++[new]:Y WO):Int)=(l! ar:Int)+1:=by grind
  have hat:bw (Cc w (j:Int) e op ar++[new]) (l! ar:Int)=new:=by rw[<- z];exact abs _ _
  refine ⟨m1.ks.put _ _,λx A=>?_,λk hk=>?_,λp hp=>?_,m1.rl⟩
  .rcases My m1.ks A with rfl|⟨A,_⟩
   .grind
   .obtain⟨⟨q0,L⟩,D⟩:=m1.o x A;rw[z]at L;rw[LI _ (by omega),hlen];exact⟨⟨q0,by omega⟩,D⟩
  .rw[bK,cO,z]at hk;by_cases hz:k=l! ar
   .grind
   .rw[LI _ (by omega)];exact m1.a k (by omega)
  .obtain⟨⟨q0,L⟩,D⟩:=m1.r p hp;rw[z]at L;rw[LI _ (by omega),hlen];exact⟨⟨q0,by omega⟩,D⟩
 .grind
structure JCw (w:WT) (l:List ET) (j:Nat) (c:List η) (clk:η):Prop where
 ln:l! clk=l! w.2.2.2.2.1
 b:∀u:Nat,0<=clk.getD u 0/\clk.getD u 0<=(ct l u j:Int)
 cl:∀i:Nat,i<j->(c.getD i []).getD (me l i) 0<=clk.getD (me l i) 0->lec (c.getD i []) clk
structure CI (w:WT) (l:List ET) (j:Nat) (c:List η) (tm:List ν) (la:η):Prop where
 k:CkL (l! w.2.2.2.2.1) j c tm
 tv:∀i:Nat,i<j->tm.getD i (0,0)=((c.getD i []).getD (me l i) 0,(me l i:Int))
 nn:∀i:Nat,i<j->∀u:Nat,0<=(c.getD i []).getD u 0/\(c.getD i []).getD u 0<=(ct l u (i+1):Int)
 own:∀i:Nat,i<j->(c.getD i []).getD (me l i) 0=(ct l (me l i) (i+1):Int)
 cls:∀i k:Nat,i<j->k<j->(c.getD i []).getD (me l i) 0<=(c.getD k []).getD (me l i) 0->lec (c.getD i []) (c.getD k [])
 lav:∀u:Nat,u<l! w.2.2.2.2.1->(0<=la.getD u 0->la.getD u 0<(j:Int)/\me l (la.getD u 0).toNat=u/\ct l u j=ct l u ((la.getD u 0).toNat+1))/\(la.getD u 0<0->ct l u j=0)
def CI.cvr {w:WT} {l:Y ET} {c:Y η} {tm:Y ν} {la:η} (h:CI w l j c tm la) (h0:0<=a) (h1:a<(j:Int)) (clk:η):AI.cvr clk (jt tm a)=J↔(jc c a).getD (me l a.toNat) 0<=clk.getD (me l a.toNat) 0:=by
 unfold AI.cvr jt jc;rw[h.tv a.toNat (by omega),bE,bi]
def JCw.join {w:WT} {l:Y ET} {c:Y η} {tm:Y ν} {la:η} (h:CI w l j c tm la) (z:JCw w l j c A) (h0:0<=a) (h1:a<(j:Int)):JCw w l j c (jl A (jc c a)):=by
 have hi:a.toNat<j:=by omega
 refine ⟨by rw[rj,z.ln,h.k.jc h0 h1];exact Nat.max_self _,λu=>?_,λk hkj hle=>?_⟩
 .rw[rZ];have i:=z.b u;have b:=h.nn a.toNat hi u;have d:=Xa l u (show a.toNat+1<=j from hi);have e:jc c a=c.getD a.toNat []:=rfl;rw[e];rcases S8 (A.getD u 0) ((c.getD a.toNat []).getD u 0) with h|h<;>rw[h]<;>omega
 .rw[rZ]at hle;rcases S8 (A.getD (me l k) 0) ((jc c a).getD (me l k) 0) with e|e
  .rw[e]at hle;exact (z.cl k hkj hle).trans (AF _ _)
  .rw[e]at hle;exact (h.cls k a.toNat hkj hi hle).trans (Fc _ _)
def JCw.zero {w:WT} {l:Y ET} {c:Y η} {tm:Y ν} {la:η} (h:CI w l j c tm la):JCw w l j c (aC (l! w.2.2.2.2.1) 0):=by
 have z:∀u:Nat,(aC (l! w.2.2.2.2.1) (0:Int)).getD u 0=0:=λu=>by grind
 refine ⟨cP ..,λu=>by rw[z];omega,λi hi hle=>?_⟩;rw[z,h.own i hi]at hle;have:=ZG l i;omega
def Yu (clk:η) (t:Nat):lec clk (tk clk t):=λu=>by
 rw[uJ];split
 next h=>rw[h];omega
 .exact dx _
def CI.next {w:WT} {l:Y ET} {c:Y η} {tm:Y ν} {la:η} (h:CI w l j c tm la) (hla:Fs (l! w.2.2.2.2.1) j la) (t0:0<=(eN l j).1) (t1:(eN l j).1<l! w.2.2.2.2.1) (hk:JCw w l j c A) (hp:0<=la.getD (me l j) 0->lec (jc c (la.getD (me l j) 0)) A):
 CI w l (j+1) (c++[tk A (me l j)]) (tm++[((tk A (me l j)).getD (me l j) 0,(eN l j).1)]) (cg la (eN l j).1 (j:Int))/\lec A ((c++[tk A (me l j)]).getD j [])/\∀u,u≠me l j->((c++[tk A (me l j)]).getD j []).getD u 0=A.getD u 0:=by
 have hcl:=h.k.cl;have htl:=h.k.tl;have et:(eN l j).1=(me l j:Int):=by unfold me;omega
 have tlt:me l j<l! w.2.2.2.2.1:=by omega
 have gl:∀i:Nat,i<j->(c++[tk A (me l j)]).getD i []=c.getD i []:=λi hi=>by
  rw[aw,aw,bI (by omega)]
 have gj:(c++[tk A (me l j)]).getD j []=tk A (me l j):=by
  rw[aw,<-hcl,nY];rfl
 have tl:∀i:Nat,i<j->(tm++[((tk A (me l j)).getD (me l j) 0,(eN l j).1)]).getD i (0,0)=tm.getD i (0,0):=λi hi=>by
  simp only[aw,bI (show i<l! tm by omega)]
 have tj:(tm++[((tk A (me l j)).getD (me l j) 0,(eN l j).1)]).getD j (0,0)=((tk A (me l j)).getD (me l j) 0,(eN l j).1):=by
  rw[aw,<-htl,nY];rfl
 have hown:A.getD (me l j) 0=(ct l (me l j) j:Int):=by
  have hb:=hk.b (me l j);let⟨a1,a2⟩:=h.lav (me l j) tlt;by_cases h0:0<=la.getD (me l j) 0
  .obtain⟨q1,q2,q3⟩:=a1 h0;have:=hp h0 (me l j);have ho:=h.own (la.getD (me l j) 0).toNat (by omega);rw[q2]at ho;have e:jc c (la.getD (me l j) 0)=c.getD (la.getD (me l j) 0).toNat []:=rfl;rw[e,ho,<-q3]at this;omega
  .have:=a2 (by omega);omega
 have htk:(tk A (me l j)).getD (me l j) 0=(ct l (me l j) (j+1):Int):=by
  rw[uJ,aD rfl,hown,ZG];omega
 refine ⟨⟨⟨by simp[hcl],by simp[htl],λi hi=>?_,λi hi=>?_⟩,λi hi=>?_,λi hi u=>?_,λi hi=>?_,λi k hi hkk hle=>?_,λu D=>?_⟩,by rw[gj];exact Yu _ _,λu D=>by rw[gj,uJ,av D]⟩
 .rcases cC i j with z|z
  .rw[gl i z];exact h.k.ln i z
  .have:i=j:=by omega
   subst this;rw[gj,Dc,hk.ln];omega
 .rcases cC i j with z|z
  .rw[tl i z];exact h.k.th i z
  .have:i=j:=by omega
   subst this;rw[tj];exact t0
 .rcases cC i j with z|z
  .rw[tl i z,gl i z];exact h.tv i z
  .have:i=j:=by omega
   subst this;rw[tj,gj,et]
 .rcases cC i j with z|z
  .rw[gl i z];exact h.nn i z u
  .have:i=j:=by omega
   subst this;rw[gj];by_cases D:u=me l i
   .rw[D,htk];omega
   .rw[uJ,av D];have:=hk.b u;have:=Xa l u (show i<=i+1 by omega);omega
 .rcases cC i j with z|z
  .rw[gl i z];exact h.own i z
  .have:i=j:=by omega
   subst this;rw[gj];exact htk
 .rcases cC i j with z|z
  .rcases cC k j with clk|clk
   .rw[gl i z,gl k clk] at*
    exact h.cls i k z clk hle
   .have:k=j:=by omega
    subst this;rw[gl i z,gj] at*
    refine lec.trans (hk.cl i z ?_) (Yu _ _);by_cases D:me l i=me l k
    .rw[D,hown];have ho:=h.own i z;rw[D]at ho;rw[ho];have:=Xa l (me l k) (show i+1<=k from z);omega
    .rw[uJ,av D]at hle;exact hle
  .have:i=j:=by omega
   subst this;rcases cC k i with clk|clk
   .rw[gl k clk,gj,htk]at hle;have:=(h.nn k clk (me l i)).2;have:=Xa l (me l i) (show k+1<=i from clk);have:=ZG l i;omega
   .have:k=i:=by omega
    subst this;exact lec.rfl
 .rw[et,eA];have hll:=hla.1;rw[aw,eh];by_cases L:me l j=u
  .rw[aD L,aD (by omega)];simp only[sG];refine ⟨λ_=>⟨by omega,by rw[bi];exact L,by rw[bi]⟩,λhz=>by omega⟩
  .rw[av L,<-aw];have hc:ct l u (j+1)=ct l u j:=by simp only[ct,av L,dF]
   rw[hc];let⟨a1,a2⟩:=h.lav u D;refine ⟨λhz=>?_,a2⟩;let⟨q1,q2,q3⟩:=a1 hz;exact⟨by omega,q2,q3⟩
structure WkG (w:WT) (l:List ET) (j:Nat) (c:List η) (tm:List ν) (la sp wa wt st se:η) (op:List (ν×Int)) (re:η) (ar:List WO) (si ei:List η):Prop where
 ci:CI w l j c tm la
 ws:WS j op re ar
 la:Fs (l! w.2.2.2.2.1) j la
 sp:Fs (l! w.2.2.2.2.1) j sp
 wa:Fs (l! w.2.2.2.2.1) j wa
 wt:l! wt=l! w.2.2.2.2.1
 st:Ps (l! w.1) j st si
 se:Ps (l! w.2.2.2.1) j se ei
structure JK (w:WT) (c:List η) (tm:List ν) (src:η) (op:List (ν×Int)) (re:η) (ar:List WO) (e:ET) (I:η->Prop):Prop where
 i0:I (aC (l! w.2.2.2.2.1) 0)
 i1:∀clk i,i∈src->0<=i->I clk->I (jl clk (jc c i))
 i2:∀clk (lk:Int) p,(e.2.1=3\/e.2.1=4)->0<=lk->lk<=(l! w.2.1:Int)->sK (e.1,lk) op=J->p∈re->pU (bw ar p) (bw ar (eC (e.1,lk) op))=J->XO (bw ar p) e=J->I clk->I (jl clk (jc c (bw ar p).en))
 i3:∀clk p,sK (e.1,kq w e) op=J->p∈re->pU (bw ar p) (bw ar (eC (e.1,kq w e) op))=J->cvr clk (jt tm (bw ar p).bg)=J->I clk->I (jl clk (jc c (bw ar p).en))
structure CKj (w:WT) (l:List ET) (j:Nat) (c:List η) (tm:List ν) (la sp wa:η) (op:List (ν×Int)) (re:η) (ar:List WO) (si ei:List η) (clk:η):Prop where
 jc:JCw w l j c clk
 jr:JR w c tm (vR w la sp wa si ei (eN l j)) op re ar (eN l j) clk
 js:∀I,JK w c tm (vR w la sp wa si ei (eN l j)) op re ar (eN l j) I->I clk
def TR.note {w:WT} {l:Y ET} (A:TR (w,l)) (L:j<l! l):(eN l j).2.1=18->(eN l j).2.2.2.1<l! w.2.2.2.2.1:=λh=>by
 have sc:=A.sc L;have en:=sc.en;have z:=sc.va.el (by omega) (by omega) (by omega) (by omega) (by omega);rw[h,Fr]at z;split at z
 .omega
 .rename_i D;have:=(LV (u:=(eN l j).2.2.2.1) D).2;have e3:=en.e3
  grind
def adz (w:WT) (la sp wa:η) (si ei:Y η) (e:ET):geti aM la e.1∈vR w la sp wa si ei e:=by
 unfold vR;exact io _ (aE.2 rfl)
def ab1 {w:WT} {e:ET} (hev:R2 w e) {la sp wa st se:η} {si ei:Y η} (h1:Fs (l! w.2.2.2.2.1) j la) (h2:Fs (l! w.2.2.2.2.1) j sp) (L:Fs (l! w.2.2.2.2.1) j wa) (D:Ps (l! w.1) j st si) (A:Ps (l! w.2.2.2.1) j se ei):∀v∈vR w la sp wa si ei e,v<(j:Int):=by
 have t0:=hev.t0;have t1:=hev.t1;have q:∀{n:Nat} {xs:η} {xss:Y η} {o:Int},Ps n j xs xss->0<=o->o<n->∀v∈rx (T:=aM) xss o,v<(j:Int):=λ{n xs xss o} h o0 o1 v z=>by
  have e:o=((o.toNat:Nat):Int):=by omega
  exact ((h.2.2 o.toNat (by omega)).2.2 v z).2
 intro v z;rcases bL.1 z with z|z
 .rw[aE]at z;rw[z];exact (h1.geti t0 t1).2
 .split at z
  .rw[aE]at z;rw[z];exact (h2.geti t0 t1).2
  .split at z
   next g=>rw[aE]at z;rw[z];exact (h1.geti (hev.nm.th (.inr g)).1 (hev.nm.th (.inr g)).2).2
   .split at z
    next g=>exact q A (hev.nm.fu (.inr g)).1 (hev.nm.fu (.inr g)).2 v z
    .split at z
     .rename_i g;split at z
      .exact q D (hev.nm.ce (.inl g)).1 (hev.nm.ce (.inl g)).2 v z
      .cases z
     .split at z
      .rw[aE]at z;rw[z];exact (L.geti t0 t1).2
      .cases z
def WkG.step {w:WT} {l:Y ET} (D:TR (w,l)) (L:j<l! l) {c:Y η} {tm:Y ν} {la sp wa wt st se:η} {op:Y e!} {re:η} {ar:Y WO} {si ei:Y η} (g:WkG w l j c tm la sp wa wt st se op re ar si ei):
 Ok (gC (((j:Int),eN l j),(w,l),c,tm,la,sp,wa,wt,st,se,op,re,ar,si,ei)) λy=>∃clk,CKj w l j c tm la sp wa op re ar si ei clk/\y=((w,l),cg la (eN l j).1 (j:Int),FG (j:Int) (eN l j) sp,FF (j:Int) (eN l j) wt wa,KF (eN l j) wt,QE 4 (j:Int) (eN l j) st si,QE 22 (j:Int) (eN l j) se ei,YD w (eN l j) op (uA w (eN l j) op ar),c++[tk clk (me l j)],tm++[((tk clk (me l j)).getD (me l j) 0,(eN l j).1)],Cb w (eN l j) op re,Jp w (j:Int) (eN l j) op (uA w (eN l j) op ar),Pr 4 (j:Int) (eN l j) si,Pr 22 (j:Int) (eN l j) ei):=by
 have hl:l! l<=400:=D.len;have wb:=D.wb;have hev:R2 w (eN l j):=D.ev _ (yi L);have hen:=g.ws.en;have hlt:=ab1 hev g.la g.sp g.wa g.st g.se;have htm:∀p∈re,cvr (jc c (bw ar p).en) (jt tm (bw ar p).en)=J:=λp hp=>by
  let⟨_,_,q0,A⟩:=hen p hp;exact (g.ci.cvr q0 A _).2 (dx _)
 have hrl:=g.ws.rl;refine Ok.mono (amu (I:=λclk=>JCw w l j c clk/\∀I,JK w c tm (vR w la sp wa si ei (eN l j)) op re ar (eN l j) I->I clk) hev (by omega) wb.t wb.l (D.note L) g.la g.sp g.wa g.wt g.st g.se g.ci.k g.ws.op g.ws.oo hen (by omega) htm ?_) ?_
 .refine ⟨⟨JCw.zero g.ci,λI h=>h.i0⟩,λclk i hi h0 z=>⟨z.1.join g.ci h0 (hlt i hi),λI h=>h.i1 clk i hi h0 (z.2 I h)⟩,λclk lk p a b d f hp m1 m2 z=>?_,λclk p a hp m1 m2 z=>?_,λclk z=>?_⟩
  .obtain⟨_,_,q0,A⟩:=hen p hp;exact⟨z.1.join g.ci q0 A,λI h=>h.i2 clk lk p a b d f hp m1 m2 (z.2 I h)⟩
  .obtain⟨_,_,q0,A⟩:=hen p hp;exact⟨z.1.join g.ci q0 A,λI h=>h.i3 clk p a hp m1 m2 (z.2 I h)⟩
  .have:=z.1.b (eN l j).1.toNat;have:=ax9 l (eN l j).1.toNat j;exact⟨z.1.ln,by omega,by omega⟩
 .rintro y ⟨clk,⟨⟨k1,k2⟩,k3⟩,hy⟩;exact⟨clk,⟨k1,k3,k2⟩,hy⟩
def WkG.next {w:WT} {l:Y ET} (z:TR (w,l)) (D:j<l! l) {c:Y η} {tm:Y ν} {la sp wa wt st se:η} {op:Y e!} {re:η} {ar:Y WO} {si ei:Y η} (g:WkG w l j c tm la sp wa wt st se op re ar si ei) (clk:CKj w l j c tm la sp wa op re ar si ei A):
 WkG w l (j+1) (c++[tk A (me l j)]) (tm++[((tk A (me l j)).getD (me l j) 0,(eN l j).1)]) (cg la (eN l j).1 (j:Int)) (FG (j:Int) (eN l j) sp) (FF (j:Int) (eN l j) wt wa) (KF (eN l j) wt) (QE 4 (j:Int) (eN l j) st si) (QE 22 (j:Int) (eN l j) se ei) (YD w (eN l j) op (uA w (eN l j) op ar)) (Cb w (eN l j) op re) (Jp w (j:Int) (eN l j) op (uA w (eN l j) op ar)) (Pr 4 (j:Int) (eN l j) si) (Pr 22 (j:Int) (eN l j) ei):=by
 have hev:R2 w (eN l j):=z.ev _ (yi D);have t0:=hev.t0;have t1:=hev.t1;have L:(eN l j).1=(me l j:Int):=by unfold me;omega
 have sam:=O2 (w:=w) (e:=eN l j) g.ws.op g.ws.oo;have hlast:geti aM la (eN l j).1=la.getD (me l j) 0:=by rw[L,Fj]
 refine ⟨(g.ci.next g.la t0 t1 clk.jc λh0=>?_).1,(g.ws.sam sam).next,?_,g.sp.sp _ λh=>(hev.nm.th (.inl h)).1,g.wa.wa _ (z.note D),by rw[L6];exact g.wt,g.st.ad 4 _ λh=>(hev.nm.ce (.inr h)).1,g.se.ad 22 _ λh=>(hev.nm.fu (.inl h)).1⟩
 .rw[<- hlast];exact clk.jr.a _ (adz ..) (by grind)
 .exact g.la.set _ (by omega) (dx _)
def ank {n:Nat} (A:n<=1000):lK (n:Int)=Z (aC n (-1)):=by
 refine cX ?_;unfold lK AM ck bU bT c5 aH cS;refine cU (cU (a? (a? (a! ?_))));refine iL n (by omega) (λi x=>x=((i:Int),aC i (-1)++aC (n-i) 0)) ?_ ?_ (by simp)
 .rintro i x hi rfl;refine dJ ?_ (by grind);have z:dL (i:Int) (aj (aC i (-1:Int)++aC (n-i) 0))=J:=S7.2 ⟨by omega,by simp;omega⟩;refine bt z (bt z (ak ?_));rw[iG,eA];have h1:n-i=(n-(i+1))+1:=by omega
  rw[List.set_append_right _ _ (by simp),cP,Ly,h1,yz,List.set_cons_zero,wT (n:=i),mP];rfl
 .rintro x rfl;refine dC (ak ?_) (by simp);simp
def WkG.zero (w:WT) (l:Y ET):WkG w l 0 [] [] (aC (l! w.2.2.2.2.1) (-1)) (aC (l! w.2.2.2.2.1) (-1)) (aC (l! w.2.2.2.2.1) (-1)) (aC (l! w.2.2.2.2.1) (-1)) (aC (l! w.1) 0) (aC (l! w.2.2.2.1) 0) [] [] [] (aC (l! w.1) []) (aC (l! w.2.2.2.1) []):=by
 have m1:∀(n u:Nat),u<n->(aC n (-1:Int)).getD u 0= -1:=λn u h=>by grind
 have rw_:∀n:Nat,Fs n 0 (aC n (-1)):=λn=>⟨cP ..,λu z=>by rw[m1 n u z];omega⟩
 have A:∀n:Nat,Ps n 0 (aC n 0) (aC n []):=λn=>⟨cP ..,cP ..,λo D=>by
  rw[aw,aw,dk,dk,aD D,aD D];exact⟨rfl,bJ _,λv hv=>by cases hv⟩⟩
 refine ⟨⟨⟨rfl,rfl,λi hi=>cq hi (fY _),λi hi=>cq hi (fY _)⟩,λi hi=>cq hi (fY _),λi hi=>cq hi (fY _),λi hi=>cq hi (fY _),λi k hi=>cq hi (fY _),λu z=>⟨λh=>by rw[m1 _ u z]at h;omega,λ_=>rfl⟩⟩,⟨List.nodup_nil,λx L=>(by cases L),λk hk=>cq hk (fY _),λp hp=>(by cases hp),bJ _⟩,rw_ _,rw_ _,rw_ _,cP ..,A _,A _⟩
def WkH:Type:=Nat->Y η->Y ν->η->η->η->η->η->η->Y e!->η->Y WO->Y η->Y η->Prop
structure HK (w:WT) (l:List ET) (H:WkH):Prop where
 z:H 0 [] [] (aC (l! w.2.2.2.2.1) (-1)) (aC (l! w.2.2.2.2.1) (-1)) (aC (l! w.2.2.2.2.1) (-1)) (aC (l! w.2.2.2.2.1) (-1)) (aC (l! w.1) 0) (aC (l! w.2.2.2.1) 0) [] [] [] (aC (l! w.1) []) (aC (l! w.2.2.2.1) [])
 s:∀j c tm la sp wa wt st se op re ar si ei clk,j<l! l->WkG w l j c tm la sp wa wt st se op re ar si ei->H j c tm la sp wa wt st se op re ar si ei->CKj w l j c tm la sp wa op re ar si ei clk->
  H (j+1) (c++[tk clk (me l j)]) (tm++[((tk clk (me l j)).getD (me l j) 0,(eN l j).1)]) (cg la (eN l j).1 (j:Int)) (FG (j:Int) (eN l j) sp) (FF (j:Int) (eN l j) wt wa) (KF (eN l j) wt) (QE 4 (j:Int) (eN l j) st si) (QE 22 (j:Int) (eN l j) se ei) (YD w (eN l j) op (uA w (eN l j) op ar)) (Cb w (eN l j) op re) (Jp w (j:Int) (eN l j) op (uA w (eN l j) op ar)) (Pr 4 (j:Int) (eN l j) si) (Pr 22 (j:Int) (eN l j) ei)
def af4 {w:WT} {l:Y ET} (A:TR (w,l)) {H:WkH} (hH:HK w l H):Ok (lG (w,l)) λy=>∃c tm la sp wa wt st se op re ar si ei,y=((w,l),c,tm,la,sp,wa,wt,st,se,op,re,ar,si,ei)/\WkG w l (l! l) c tm la sp wa wt st se op re ar si ei/\H (l! l) c tm la sp wa wt st se op re ar si ei:=by
 have hl:l! l<=400:=A.len;have wb:=A.wb;have hT:=wb.t;have hC:=wb.c;have hF:=wb.f;dsimp only at hT hC hF;unfold lG vy ik jK kV wR bf bA bH cF dM gz ja jS Prod.C Prod.t bU bT bZ aZ c5 aH cS;dsimp only;have D:=ank (n:=l! w.2.2.2.2.1) (by omega);refine be D (be D (be D (be D ?_)));refine cU (cU (dG (by simp) (a? (bO (by grind) (by omega) ?_))));refine cU (cU (dG (by simp) (a? (bO (by grind) (by omega) ?_))));refine iL (l! l) (by omega) (λi x=>∃c tm la sp wa wt st se op re ar si ei,x=((i:Int),(w,l),c,tm,la,sp,wa,wt,st,se,op,re,si,ei,ar)/\WkG w l i c tm la sp wa wt st se op re ar si ei/\H i c tm la sp wa wt st se op re ar si ei) ?_ ?_ ⟨_,_,_,_,_,_,_,_,_,_,_,_,_,by simp only[aB,bi];rfl,WkG.zero w l,hH.z⟩
 .rintro i x hi ⟨c,tm,la,sp,wa,wt,st,se,op,re,ar,si,ei,rfl,g,h⟩;refine dJ ?_;refine aO (by simp) (by omega) (aS ?_);refine ay (g.step A hi) ?_;rintro y ⟨clk,L,rfl⟩;refine bt (by simp[bS,UL,UK,L6,adf,fV,fw]) (ak ⟨_,_,_,_,_,_,_,_,_,_,_,_,_,?_,g.next A hi L,hH.s i c tm la sp wa wt st se op re ar si ei clk hi g h L⟩);rw[iG]
 .rintro x ⟨c,tm,la,sp,wa,wt,st,se,op,re,ar,si,ei,rfl,g,h⟩;exact dC (ak ⟨c,tm,la,sp,wa,wt,st,se,op,re,ar,si,ei,rfl,g,h⟩)
def ape:vu ()=Z J:=by kernel_rfl
abbrev IT:Type:=ω
abbrev CT:Type:=WT×Y (Int×Y IT)
def tS (a b:Int):kr (a,b)=Z (decide (0<=a/\a<b)):=by
 refine cX ?_;unfold kr kB aH;with_reducible repeat' first|apply OS.ok;constructor|refine IM.mk λ_=>?_
 .by_cases h:a<b<;>simp[*,gD]
 .simp;omega
def Je (k:Int):q_ k=Z (decide (1<=k/\k<=5)):=by
 refine cX ?_;unfold q_ kB aH;with_reducible repeat' first|apply OS.ok;constructor|refine IM.mk λ_=>?_
 .by_cases h:k<=5<;>simp[*,db]
 .simp;omega
def jO (i:IT):η:=
 if i.1=1\/i.1=6\/i.1=10\/i.1=27 then [i.2.1]
 else if i.1=2\/i.1=3 then [i.2.1,i.2.2.1]
 else if i.1=4 then [i.2.1,i.2.2.1,i.2.2.2.1]
 else if i.1=7 then [i.2.1,i.2.2.2.1]
 else if i.1=8\/i.1=26 then [i.2.2.1]
 else if i.1=9 then [i.2.2.1,i.2.2.2.1]
 else []
def vD (i:IT):kN i=Z (jO i):=by
 let⟨z,i2⟩:=i;unfold kN jO bf bA bH bq aH;by_cases h1:z=1
 .subst h1;rfl
 by_cases h2:z=6
 .subst h2;rfl
 by_cases h3:z=10
 .subst h3;rfl
 by_cases h4:z=27
 .subst h4;rfl
 by_cases h5:z=2
 .subst h5;rfl
 by_cases h6:z=3
 .subst h6;rfl
 by_cases h7:z=4
 .subst h7;rfl
 by_cases h8:z=7
 .subst h8;rfl
 by_cases L:z=8
 .subst L;rfl
 by_cases D:z=26
 .subst D;rfl
 by_cases A:z=9
 .subst A;rfl
 simp[h1,h2,h3,h4,h5,h6,h7,h8,L,D,A,dW,bcF,jnr,fk,dE]
def F3 (z:IT):l! (jO z)<=3:=by
 unfold jO
 (repeat' split)<;>simp
def aiy (l:Y IT) (a:Int) (D:l! l<=1000000):Ok (qL (l,a)) λ_=>True:=by
 unfold qL bq bU kB bZ aZ c5 aH cS;refine rH (λx=>((l! l:Int)+1-x.2).toNat) (λx=>0<=x.2/\x.2<=(l! l:Int)+1) ?_ ⟨by dsimp only;omega,by dsimp only;omega⟩;rintro⟨(a:Int),(n:Int)⟩ ⟨h0,h1⟩;refine fD (λg=>?_) λ_=>ak trivial
 dsimp [aB]at g;refine aY (λ_=>True) ?_ λb _=>ak ?_
 .refine aY (λb=>b=af->0<=a/\a<(l! l:Int)) ?_ ?_
  .refine bN (λ_=>ak nofun) λL=>ak λh=>?_
   rw[nF]at h
   grind
  .intro b z;refine aP (λ_=>ak trivial) λh=>?_
   let⟨q0,A⟩:=z h;refine aO q0 (by omega) (aS ?_);refine be (Je _) ?_;refine eQ (λ_=>ak trivial) λ_=>?_
   refine aO q0 (by omega) (aS ?_);refine aL (λ_=>?_) λ_=>ak trivial
   exact aO q0 (by omega) (aS (ak trivial))
 .dsimp only;rw[iQ];omega
structure AR (w:WT) (b n:Int):Prop where
 b0:0<=b
 b1:b<l! w.1
 ix:(geti l7 w.1 b).2.1=0
 sz:¬(geti l7 w.1 b).2.2.1=0
 sn:(geti l7 w.1 b).2.2.1=n
def XV (w:WT) (b n:Int):Ok (qM (w,b,n)) λr=>r=J->AR w b n:=by
 refine ie ?_;refine be (tS _ _) ?_;refine aL (λh=>?_) λ_=>ak (ak nofun)
 refine aO h.1 h.2 (aS (aL (λh1=>?_) λ_=>ak (ak nofun)));refine aO h.1 h.2 (aS (ca (λA=>?_) λ_=>ak (ak nofun)));exact aO h.1 h.2 (aS (ak (ak λz=>⟨h.1,h.2,h1,A,bR z⟩)))
def YQ (w:WT) (i:IT):Ok (mV (w,i)) λb=>b=J->(i.1=7->AR w i.2.2.1 i.2.2.2.2.1)/\(i.1=9->AR w i.2.1 i.2.2.2.2.1):=by
 have z:∀{b:Bool},¬i.1=7->¬i.1=9->b=J->(i.1=7->AR w i.2.2.1 i.2.2.2.2.1)/\(i.1=9->AR w i.2.1 i.2.2.2.2.1):=λh1 A _=>⟨λh=>(h1 h).elim,λh=>(A h).elim⟩
 unfold mV bf bA bH cF dM bq kB bZ aZ aH;simp only[tS,obs];refine aL (λh6=>?_) λ_=>?_
 .refine aY (λ_=>True) ?_ λ_ _=>ak (z (by omega) (by omega))
  refine aL (λh=>?_) λ_=>ak trivial
  exact aO h.1 h.2 (aS (ak trivial))
 refine aL (λh8=>?_) λ_=>?_
 .refine aY (λ_=>True) ?_ λ_ _=>ak (z (by omega) (by omega))
  refine aL (λh=>?_) λ_=>ak trivial
  exact aO h.1 h.2 (aS (ak trivial))
 refine aL (λD=>?_) λL=>?_
 .exact ay (XV _ _ _) λ_ h=>ak λA=>⟨λ_=>h A,λh9=>by have D:i.1=7:=D;omega⟩
 refine aL (λh9=>?_) λn9=>?_
 .exact ay (XV _ _ _) λ_ h=>ak λA=>⟨λD=>(L D).elim,λ_=>h A⟩
 have z:∀{b:Bool},b=J->(i.1=7->AR w i.2.2.1 i.2.2.2.2.1)/\(i.1=9->AR w i.2.1 i.2.2.2.2.1):=z L n9;refine aY (λx=>x.2=(w,i)) (aL (λ_=>ak rfl) λ_=>ak rfl) ?_;rintro⟨b,x⟩ e;subst e;refine aP (λ_=>?_) λ_=>?_
 .refine aY (λ_=>True) ?_ λ_ _=>ak z
  refine aL (λh=>?_) λ_=>ak trivial
  exact aO h.1 h.2 (aS (ak trivial))
 refine aY (λx=>x.2=(w,i)) (aL (λ_=>ak rfl) λ_=>aL (λ_=>ak rfl) λ_=>aL (λ_=>ak rfl) λ_=>ak rfl) ?_;rintro⟨b,x⟩ e;subst e;refine aP (λ_=>?_) λ_=>?_
 .refine aY (λ_=>True) ?_ λ_ _=>ak z
  refine aL (λh=>?_) λ_=>ak trivial
  exact aO h.1 h.2 (aS (ak trivial))
 refine aY (λx=>x.2=(w,i)) (aL (λ_=>ak rfl) λ_=>aL (λ_=>ak rfl) λ_=>ak rfl) ?_;rintro⟨b,x⟩ e;subst e;refine aP (λ_=>ak z) λ_=>?_
 refine aY (λx=>x.2=(w,i)) (aL (λ_=>ak rfl) λ_=>ak rfl) ?_;rintro⟨b,x⟩ e;with_reducible repeat' first|apply OS.ok;constructor|refine IM.mk λ_=>?_
 all_goals exact z
structure VI (n:Int) (i:IT):Prop where
 o1:1<=i.1
 o2:i.1<=28
 r:∀j∈jO i,0<=j/\j<n
structure VT (t:Int×List IT):Prop where
 r0:0<=t.1
 r1:t.1<=32
 i:∀i∈t.2,VI t.1 i
structure VJ (w:WT) (k:Int) (i:IT):Prop where
 a7:i.1=7->AR w i.2.2.1 i.2.2.2.2.1
 a9:i.1=9->AR w i.2.1 i.2.2.2.2.1
 se:i.1=28->i.2.2.2.2.2= -1
 si:¬i.1=28->0<=i.2.2.2.2.2/\i.2.2.2.2.2<l! w.2.2.2.2.2/\(geti pW w.2.2.2.2.2 i.2.2.2.2.2).1=k
def L9 (w:WT) (k:Int) (c:Int×Y IT) (hc:l! c.2<=1000000):Ok (iT (w,k,c)) λb=>b=J->VT c/\∀i∈c.2,VJ w k i:=by
 unfold iT bf bA bH cF c_ dT vn bq bU jP bZ aZ c5 aH cS;refine aY (λx=>x.2=(w,c)/\(x.1=af->0<=c.1/\c.1<=32)) ?_ ?_
 .refine bN (λ_=>ak ⟨rfl,nofun⟩) λh0=>bN (λ_=>ak ⟨rfl,nofun⟩) λh1=>ak ⟨rfl,λ_=>⟨h0,h1⟩⟩
 rintro⟨b,x⟩ ⟨e,D⟩;dsimp only at e D;subst e;refine aP (λ_=>ak nofun) λh=>?_
 let⟨r0,r1⟩:=D h;refine cA (l! c.2) (λi x=>x.1=(i:Int)/\x.2=(w,c)/\∀q:Nat,q<i->VI c.1 (geti sJ c.2 (q:Int))/\VJ w k (geti sJ c.2 (q:Int))) ?_ ?_ ⟨rfl,rfl,λk hk=>by omega⟩
 .rintro i ⟨a,x⟩ hi ⟨e1,e2,L⟩;dsimp only at e1 e2 L;subst e1 e2;refine dJ ?_;refine cE (aS ?_);generalize hz:(geti _ _ _)=z;refine aY (λx=>x.2=(w,c,z)/\(x.1=af->(1<=z.1/\z.1<=28)/\(z.1=7->AR w z.2.2.1 z.2.2.2.2.1)/\(z.1=9->AR w z.2.1 z.2.2.2.2.1))) ?_ ?_
  .refine bN (λ_=>ak ⟨rfl,nofun⟩) λh0=>bN (λ_=>ak ⟨rfl,nofun⟩) λh1=>?_
   refine aP (λ_=>ak ⟨rfl,nofun⟩) λ_=>?_
   refine ay (YQ w z) λy hy=>?_
   refine eQ (λ_=>ak ⟨rfl,nofun⟩) λhyt=>?_
   exact ay (aiy c.2 _ hc) λy _=>ak ⟨rfl,λ_=>⟨⟨h0,h1⟩,hy hyt⟩⟩
  rintro⟨b,x⟩ ⟨e,D⟩;dsimp only at e D;subst e;refine aP (λ_=>ak nofun) λh=>?_
  let⟨⟨o1,o2⟩,a7,a9⟩:=D h;refine aY (λx=>x.2=(w,c,z)/\(x.1=af->(z.1=28->z.2.2.2.2.2= -1)/\(¬z.1=28->0<=z.2.2.2.2.2/\z.2.2.2.2.2<l! w.2.2.2.2.2/\(geti pW w.2.2.2.2.2 z.2.2.2.2.2).1=k))) ?_ ?_
  .simp only[tS,obs];refine aL (λA=>?_) λA=>?_
   .refine ca (λ_=>ak ⟨rfl,nofun⟩) λhm=>?_
    exact ca (λh=>(h A).elim) λ_=>ak ⟨rfl,λ_=>⟨λ_=>hm,λh=>(h A).elim⟩⟩
   .refine ca (λ_=>?_) λh=>(A h).elim
    refine ca (λ_=>ak ⟨rfl,nofun⟩) λh=>?_
    exact aO h.1 h.2 (aS (ak ⟨rfl,λh2=>⟨λh3=>(A h3).elim,λ_=>⟨h.1,h.2,by simpa using h2⟩⟩⟩))
  rintro⟨b,x⟩ ⟨e,hsi⟩;dsimp only at e hsi;subst e;refine aP (λ_=>ak nofun) λhbs=>?_
  let⟨se,si⟩:=hsi hbs;refine aY (λx=>x.2=(w,c,z)) ?_ ?_
  .simp only[tS,obs];with_reducible repeat' first|apply OS.ok;constructor|refine IM.mk λ_=>?_
   all_goals rfl
  rintro⟨b,x⟩ e;dsimp only at e;subst e;refine aP (λ_=>ak nofun) λ_=>?_
  refine be (vD z) ?_;refine cA (l! (jO z)) (λj x=>x.1=(j:Int)/\x.2=(w,c)/\∀k:Nat,k<j->0<=geti aM (jO z) (k:Int)/\geti aM (jO z) (k:Int)<c.1) ?_ ?_ ⟨rfl,rfl,λk hk=>by omega⟩
  .rintro j ⟨a,x⟩ hj ⟨d1,d2,d3⟩;dsimp only at d1 d2 d3;subst d1 d2;refine dJ ?_;refine cE (aS ?_);refine be (tS _ _) ?_;refine ca (λ_=>ak nofun) λh=>ak ?_
   dsimp only at h ⊢;have hj32:l! (jO z)<=3:=F3 z;refine ⟨iG,rfl,λk hk=>?_⟩
   grind
  .rintro⟨a,x⟩ ⟨d1,d2,d3⟩;dsimp only at d1 d2 d3;subst d1 d2;refine dC (ak ?_);dsimp only;refine ⟨iG,rfl,λk hk=>?_⟩;rcases cC k i with h1|h1
   .exact L k h1
   .rw[show k=i by omega,hz];exact⟨⟨o1,o2,iX (T:=aM) d3⟩,⟨a7,a9,se,si⟩⟩
 .rintro⟨a,x⟩ ⟨e1,e2,L⟩;refine dC (ak λ_=>⟨⟨r0,r1,iX (T:=sJ) (p:=VI c.1) λq hq=>(L q hq).1⟩,iX (T:=sJ) (p:=VJ w k) λq hq=>(L q hq).2⟩)
structure VC (c:CT):Prop where
 vl:VL c.1
 tl:l! c.2=l! c.1.2.2.2.2.1
 t:∀t∈c.2,VT t
 sv:SV0 c.1
 j:∀k:Nat,k<l! c.2->∀i∈(geti Af c.2 (k:Int)).2,VJ c.1 (k:Int) i
structure CB (c:CT):Prop where
 th:l! c.2<=1000000
 ins:∀t∈c.2,l! t.2<=1000000
 rg:∀t∈c.2,1<=t.1
 wx:WX c.1
 ok:kM c=Z J
def X6 (c:CT) (h1:l! c.2<=1000000) (h2:∀t∈c.2,l! t.2<=1000000):Ok (kM c) λb=>b=J->VC c:=by
 let⟨w,l⟩:=c;dsimp only at h1 h2;unfold kM bH bU bZ aZ c5 aH cS;refine aY (λx=>x.2=(w,l)/\(x.1=af->(VL w/\SV0 w)/\l! l=l! w.2.2.2.2.1)) ?_ ?_
 .refine ay (EA w) λb hb=>?_
  refine eQ (λ_=>ak ⟨rfl,nofun⟩) λh=>ak ⟨rfl,λh3=>⟨hb h,?_⟩⟩
  simp at h3;omega
 rintro⟨b,x⟩ ⟨e,hx⟩;subst e;refine aP (λ_=>ak nofun) λh=>?_
 let⟨⟨hv,hsv⟩,hl⟩:=hx h;refine cA (l! l) (λi x=>x.1=(i:Int)/\x.2=(w,l)/\∀k:Nat,k<i->VT (geti Af l (k:Int))/\∀q∈(geti Af l (k:Int)).2,VJ w (k:Int) q) ?_ ?_ ⟨rfl,rfl,λk A=>by omega⟩
 .rintro i ⟨a,x⟩ hi ⟨L,e2,D⟩;subst L e2;refine dJ ?_;refine cE (aS ?_);have hm:=bM (T:=Af) (xs:=l) (j:=(i:Int)) (by omega) (by omega);revert hm;generalize hz:(geti Af l (i:Int))=z;intro hm;refine ay (L9 w _ z (h2 z hm)) λb hb=>?_
  refine eQ (λ_=>ak nofun) λh=>ak ?_
  refine ⟨iG,rfl,λk A=>?_⟩
  grind
 .rintro⟨a,x⟩ ⟨L,e2,D⟩;subst L e2;refine dC (ak λ_=>⟨hv,hl,iX (T:=Af) (p:=VT) λk A=>(D k A).1,hsv,λk A=>(D k A).2⟩)
section
abbrev TT:Type:=Int×η×Y η×Int
structure TL (F:Int->Prop) (E:Nat) (l:η):Prop where
 a:Lu l
 m:∀y∈l,0<=y/\y<(E:Int)
 f:∀y∈l,F y
variable {F:Int->Prop}
def TL.len {l:η} (h:TL F i l):l! l<=i:=by
 have:=LY l 0 i h.a h.m;omega
def TL.nil (E:Nat):TL F E []:=⟨trivial,λy z=>(by cases z),λy z=>(by cases z)⟩
def TL.uni {b:η} (D:TL F i A) (a:TL F i b):TL F i (yE A b):=
 ⟨UP A b,λy z=>by
   rcases FJ.1 z with h|h
   .exact D.m y h
   .exact a.m y h,λy z=>(FJ.1 z).elim (D.f y) (a.f y)⟩
def TL.mono {A:Int->Prop} {l:η} (h:TL F i l) (hf:i<=j) (L:∀y,F y->A y):TL A j l:=⟨h.a,λy z=>⟨(h.m y z).1,by have:=(h.m y z).2;omega⟩,λy z=>L y (h.f y z)⟩
structure TH (F:Int->Prop) (E:Nat) (s:TT):Prop where
 r:l! s.2.1<=32
 t:l! s.2.2.1<=32
 l:∀l∈s.2.2.1,TL F E l
 e0:0<=s.2.2.2
 e1:s.2.2.2<=(E:Int)
def TH.zero (E:Nat):TH F E (0,[],[],0):=⟨by simp,by simp,λl z=>(by cases z),by simp,by simp⟩
def TH.mono {z:Int->Prop} {s:TT} (h:TH F i s) (hf:i<=j) (L:∀y,F y->z y):TH z j s:=⟨h.r,h.t,λl D=>(h.l l D).mono hf L,h.e0,by have:=h.e1;omega⟩
def Ai (s:TT) (E:Nat) (hE:E<=100000) (h:TH F E s):cw s=Z ((s.1,s.2.2.2),s.2.1,s.2.2.1):=by
 let⟨h1,h2,h3,h4,h5⟩:=h;refine cX ?_;unfold cw bf bA bH c_ dT bU bT bZ aZ c5 aH cS;refine bO (by grind) (by omega) ?_;refine cA (l! s.2.2.1) (λi x=>x.1=(i:Int)/\x.2.1=s/\x.2.2.2.1=(s.1,s.2.2.2)/\x.2.2.2.2.1=s.2.1/\x.2.2.2.2.2=s.2.2.1.take i) ?_ ?_ ⟨rfl,rfl,rfl,rfl,rfl⟩
 .rintro i ⟨a,b,c,d,e,f⟩ hi ⟨L,e2,D,A,z⟩;dsimp only at L e2 D A z;subst L e2 z;refine dJ ?_;refine cE (aS ?_);have hz:=(h3 _ (bM (T:=.sl (.int .i64)) (xs:=b.2.2.1) (j:=(i:Int)) (by omega) (by omega))).len;refine bO (by grind) (by omega) ?_;refine bO (by grind) (by omega) (ak ?_);refine ⟨iG,rfl,D,A,?_⟩;rw[pi (T:=.sl (.int .i64)) hi];rfl
 .rintro⟨a,b,c,d,e,f⟩ ⟨L,e2,D,A,z⟩;dsimp only at L e2 D A z;subst e2;refine dC (ak ?_)
  grind
def yF (b:Bool):Ok (gx b) λ_=>True:=by
 unfold gx;with_reducible repeat' first|apply OS.ok;constructor|refine IM.mk λ_=>?_
 all_goals trivial
def Jx (n:Int):Ok (nK n) λ_=>True:=by
 unfold nK bU aH;with_reducible repeat' first|apply OS.ok;constructor|refine IM.mk λ_=>?_
 all_goals trivial
def ale (x:ν):Ok (wj x) λ_=>True:=by
 unfold wj bq;refine aL (λ_=>ak trivial) λ_=>aL (λ_=>?_) λ_=>ak trivial
 exact ay (yF _) λ_ _=>ak trivial
def ago (x:π):Ok (xv x) λ_=>True:=by
 have z:∀b,Ok (aA (gx b) λy=>Z (y,J)) λ_=>True:=λb=>ay (yF _) λ_ _=>ak trivial
 refine aL (λ_=>ak trivial) λ_=>aL (λ_=>ak trivial) λ_=>aL (λ_=>ak trivial) λ_=>?_
 refine aL (λ_=>aL (λ_=>ak trivial) λh=>Ce h (ak trivial)) λ_=>?_
 refine aL (λ_=>aL (λ_=>ak trivial) λh=>Ce h (ak trivial)) λ_=>?_
 refine aL (λ_=>z _) λ_=>aL (λ_=>z _) λ_=>aL (λ_=>z _) λ_=>aL (λ_=>z _) λ_=>aL (λ_=>z _) λ_=>aL (λ_=>z _) λ_=>?_
 refine aL (λ_=>aY (λ_=>True) (ca (λ_=>ay (yF _) λ_ _=>ak trivial) λ_=>ay (yF _) λ_ _=>ak trivial) λ_ _=>ak trivial) λ_=>?_
 exact aL (λ_=>aY (λ_=>True) (ca (λ_=>ay (yF _) λ_ _=>ak trivial) λ_=>ay (yF _) λ_ _=>ak trivial) λ_ _=>ak trivial) λ_=>ak trivial
def ady (E:Nat) (hE:E<=100000) (i:IT) (p:ν) (R:η) (T:Y η) (D:∀j∈jO i,0<=j/\j<(l! R:Int)) (o1:1<=i.1) (o2:i.1<=5) (hR:l! R<=32) (z:l! T=l! R) (hl:∀l∈T,TL F E l):Ok (yU ((i,p),R,T)) λy=>y.1.1.2=p.2/\l! y.2.1=l! R/\l! y.2.2=l! T/\∀l∈y.2.2,TL F E l:=by
 unfold yU bf bA bH ck bq bU bT bZ kY aZ c5 aH cS;refine be (vD i) ?_;have h3:=F3 i;refine cA (l! (jO i)) (λj x=>x.1=(j:Int)/\x.2.1=R/\x.2.2.1=T/\x.2.2.2.1=i/\x.2.2.2.2.1=p) ?_ ?_ ⟨rfl,rfl,rfl,rfl,rfl⟩
 .rintro j ⟨a,b,c,d,e⟩ hj ⟨e1,e2,e3,e4,L⟩;dsimp only at e1 e2 e3 e4 L;subst e1 e2 e3 e4;refine dJ ?_;have hz:=D _ (bM (T:=aM) (xs:=jO d) (j:=(j:Int)) (by omega) (by omega));refine aY (λx=>x.2=(b,c,d,e)/\x.1=af) ?_ ?_
  .refine cE (aS ?_);refine bN (λg=>?_) λ_=>?_
   .dsimp only at g;omega
   refine cE (aS (ak ⟨rfl,?_⟩));dsimp only;rw[nF];exact hz.2
  rintro⟨b',x⟩ ⟨f1,f2⟩;dsimp only at f1 f2;subst f1 f2;refine aP nofun λ_=>ak ?_
  dsimp only;exact⟨iG,rfl,rfl,rfl,L⟩
 .rintro⟨a,b,c,d,e⟩ ⟨e1,e2,e3,e4,L⟩;dsimp only at e1 e2 e3 e4 L;subst e1 e2 e3 e4;refine dC ?_;let⟨e,e'⟩:=e;dsimp only at L;subst L;refine ay (P:=λy=>y.1.1.2=e.2/\l! y.2.1=l! b/\l! y.2.2=l! c/\∀l∈y.2.2,TL F E l) ?_ λr D=>ak D
  have hA:d.1≠5->0<=d.2.1/\d.2.1<(l! b:Int):=λh5=>D _ (by
   unfold jO;(repeat' split)<;>simp<;>omega)
  have hB:2<=d.1->d.1≠5->0<=d.2.2.1/\d.2.2.1<(l! b:Int):=λh2 h5=>D _ (by
   unfold jO;(repeat' split)<;>simp<;>omega)
  have hC:d.1=4->0<=d.2.2.2.1/\d.2.2.2.1<(l! b:Int):=λh5=>D _ (by
   unfold jO;(repeat' split)<;>simp<;>omega)
  have hg:∀{j:Int},0<=j->j<(l! b:Int)->TL F E (geti (.sl (.int .i64)) c j):=λh0 h1=>hl _ (bM (T:=.sl (.int .i64)) (xs:=c) h0 (by rw[z];exact h1))
  refine aY (λx=>x.2.1=b/\x.2.2.1=c/\x.2.2.2.1=d/\x.2.2.2.2.1=e/\TL F E x.1.2.2/\d.1≠5) ?_ ?_
  .refine aL (λ_=>ak ⟨rfl,rfl,rfl,hl⟩) λA=>?_
   refine aL (λ_=>ak ⟨rfl,rfl,rfl,rfl,TL.nil E,A⟩) λn1=>?_
   dsimp only at n1 A;let⟨b0,b1⟩:=hB (by omega) A;refine aL (λ_=>?_) λn2=>?_
   .refine aO b0 b1 (aO b0 b1 (aS ?_));refine aO b0 (by dsimp only;rw[z];exact b1) (aO b0 (by dsimp only;rw[z];exact b1) (aS ?_));exact ak ⟨rfl,rfl,rfl,rfl,hg b0 b1,A⟩
   refine aL (λ_=>?_) λn3=>?_
   .refine ay (Jx _) λy _=>?_
    refine aO b0 b1 (aO b0 b1 (aS ?_));refine ay (ale _) λy _=>?_
    refine aO b0 (by dsimp only;rw[z];exact b1) (aO b0 (by dsimp only;rw[z];exact b1) (aS ?_));exact ak ⟨rfl,rfl,rfl,rfl,hg b0 b1,A⟩
   dsimp only at n2 n3;let⟨c0,c1⟩:=hC (by omega);refine ay (Jx _) λy _=>?_
   refine aO b0 b1 (aO b0 b1 (aS ?_));refine aO c0 c1 (aO c0 c1 (aS ?_));refine ay (ago _) λy _=>?_
   refine aO b0 (by dsimp only;rw[z];exact b1) (aO b0 (by dsimp only;rw[z];exact b1) (aS ?_));refine aO c0 (by dsimp only;rw[z];exact c1) (aO c0 (by dsimp only;rw[z];exact c1) (aS ?_));have g1:=hg b0 b1;have g2:=hg c0 c1;refine be (X7 _ _ (c6 g1.len (by omega)) (c6 g2.len (by omega))) ?_;exact ak ⟨rfl,rfl,rfl,rfl,g1.uni g2,A⟩
  rintro⟨⟨v,ok,tn⟩,b',c',d',e',e''⟩ ⟨f1,f2,f3,f4,f5,f6⟩;dsimp only at f1 f2 f3 f4 f5 f6;subst f1 f2 f3 f4;let⟨a0,a1⟩:=hA f6;have ht:=f5.len;refine a! ?_;refine aO a0 a1 (aO a0 a1 (aO a0 (by dsimp only;rw[z];exact a1) (aO a0 (by dsimp only;rw[z];exact a1) (ak ?_))));refine ⟨rfl,bS ..,bS ..,λl hm=>?_⟩;rcases FP hm with h|h
  .exact hl l h
  .rw[h];exact f5
def ag6 (E:Nat) (hE:E<=100000) (c:Int×Y IT) (hc:l! c.2<=1000000) (hv:VT c) (s:TT) (h:TH F E s):Ok (oG (c,s)) λy=>TH F E y.1/\(l! y.1.2.1=0\/y.1.2.2.2=s.2.2.2):=by
 unfold oG bf bA bH c_ eR dT bq bU kB jP bT bZ aZ c5 aH cS;have hs0:=h;let⟨h1,h2,h3,h4,h5⟩:=h;refine aY (λx=>x.2.1=c/\x.2.2.1=s/\(x.1=af->(l! s.2.1:Int)=c.1/\(l! s.2.2.1:Int)=c.1)) ?_ ?_
 .refine ca (λ_=>ak ⟨rfl,rfl,nofun⟩) λg=>ak ⟨rfl,rfl,λh=>?_⟩
  simp at h;exact⟨g,h⟩
 rintro⟨b,c',s',z⟩ ⟨D,e2,L⟩;dsimp only at D e2 L;subst D e2;refine aP (λ_=>ak ⟨TH.zero E,.inl rfl⟩) λhb=>?_
 let⟨q1,q2⟩:=L hb;refine be (Ai s' E hE hs0) ?_;refine rH (λx=>((l! c'.2:Int)+1-x.1).toNat) (λx=>0<=x.1/\x.1<=(l! c'.2:Int)+1/\x.2.1=c'/\x.2.2.1.2=s'.2.2.2/\l! x.2.2.2.2.1=l! s'.2.1/\l! x.2.2.2.2.2=l! s'.2.2.1/\∀l∈x.2.2.2.2.2,TL F E l) ?_ ⟨by dsimp only;omega,by dsimp only;omega,rfl,rfl,rfl,rfl,h3⟩;rintro⟨(n:Int),c,⟨(A:Int),ev⟩,z',R,T⟩ ⟨n0,n1,D,e2,L,e4,e5⟩;dsimp only at n0 n1 D e2 L e4 e5;subst D e2;refine fD (λg=>?_) λ_=>ak ⟨TH.zero E,.inl rfl⟩
 refine aY (λx=>x.2=(c,(A,s'.2.2.2),z',R,T)/\(x.1=af->0<=A/\A<(l! c.2:Int))) ?_ ?_
 .refine bN (λ_=>ak ⟨rfl,nofun⟩) λg1=>ak ⟨rfl,λh=>?_⟩
  rw[nF]at h;exact⟨g1,h⟩
 rintro⟨b',x⟩ ⟨f1,f2⟩;subst f1;refine aP (λ_=>ak ⟨TH.zero E,.inl rfl⟩) λhb=>?_
 let⟨p0,p1⟩:=f2 hb;refine aO p0 p1 (aS ?_);have hi:=hv.i _ (bM (T:=sJ) (xs:=c.2) (j:=A) p0 p1);revert hi;generalize (geti sJ _ _)=i;intro hi;refine be (Je _) ?_;refine ca (λ_=>ak ⟨⟨by dsimp only;omega,by dsimp only;omega,e5,h4,h5⟩,.inr rfl⟩) λhsil=>?_
 refine aL (λ_=>ak ⟨TH.zero E,.inl rfl⟩) λhn=>?_
 refine ay (ady E hE i (A,s'.2.2.2) R T (λj hj=>by have:=hi.r j hj;omega) hsil.1 hsil.2 (by omega) (by omega) e5) λy hy=>?_
 let⟨k1,k2,k3,k4⟩:=hy;refine cU (mR k3.symm (cU (mR k2.symm (D_ ?_))));refine eQ (λ_=>ak ⟨TH.zero E,.inl rfl⟩) λ_=>ak ?_
 rw[iQ]
 grind
end
abbrev ST:Type:=SY×η×η×Y TT
structure TF (c:Int×List IT) (t:TT):Prop where
 p0:0<=t.1
 p1:t.1<(l! c.2:Int)
 r:(l! t.2.1:Int)=c.1
 t:(l! t.2.2.1:Int)=c.1
structure FSx (c:CT) (s:ST):Prop where
 vc:VC c
 cd:∀d∈c.1.2.2.1,0<=d.2/\d.2<(l! c.1.2.1:Int)
 e3:l! s.1.2.2.2=l! c.1.2.2.2.2.1
 ce:l! s.2.1=l! c.1.1
 fu:l! s.2.2.1=l! c.1.2.2.2.1
 th:l! s.2.2.2=l! c.2
 t:∀k:Nat,k<l! c.2->TF (geti Af c.2 (k:Int)) (geti fB s.2.2.2 (k:Int))
def FQ (L:Y ET) (k:Int) (y:Int):Prop:=1<=y/\Pe L k y
structure SV (n:Nat) (L:List ET) (s:ST):Prop where
 sb:SB n s.1
 ln:l! L=n
 t:∀k:Nat,k<l! s.2.2.2->TH (FQ L k) n (geti fB s.2.2.2 (k:Int))
def SV.ti {s:ST} (h:SV i k s) {L:Int} (h0:0<=L) (h1:L<(l! s.2.2.2:Int)):TH (FQ k L) i (geti fB s.2.2.2 L):=by
 have:=h.t L.toNat (by omega)
 grind
structure TG (c:CT) (L:List ET) (sy:SY) (k:Int) (t:TT):Prop where
 ev:t.2.2.2=(l! (fl L k):Int)
 wi:(geti iF sy.2.2.2 k).1=3\/(geti iF sy.2.2.2 k).1=4->(geti sJ (geti Af c.2 k).2 t.1).1=21
 nw:l! (fl L k)=0->(geti iF sy.2.2.2 k).1=0\/(geti iF sy.2.2.2 k).1=1
structure SIv (c:CT) (L:List ET) (s:ST):Prop where
 ac:Acw c.1 L s.1 s.2.1 s.2.2.1
 t:∀k:Nat,k<l! s.2.2.2->(geti fB s.2.2.2 (k:Int)).2.1.length=0\/TG c L s.1 (k:Int) (geti fB s.2.2.2 (k:Int))
def aoi (c:CT) (s:ST) (D:CB c):Ok (yT (c,s)) λb=>b=J->FSx c s:=by
 unfold yT bf bA eR dT bU kB jP bZ aZ c5 aH cS;refine aY (λx=>x.2=(c,s)/\(x.1=af->VC c/\(∀d∈c.1.2.2.1,0<=d.2/\d.2<(l! c.1.2.1:Int))/\l! s.1.2.2.2=l! c.1.2.2.2.2.1/\l! s.2.1=l! c.1.1/\l! s.2.2.1=l! c.1.2.2.2.1/\l! s.2.2.2=l! c.2)) ?_ ?_
 .refine ay (X6 c D.th D.ins) λb A=>?_
  refine eQ (λ_=>ak ⟨rfl,nofun⟩) λh=>?_
  have z:=A h;refine ay (UC c.1 s.1 (by have:=z.vl.d;omega)) λb2 L=>?_
  refine eQ (λ_=>ak ⟨rfl,nofun⟩) λh2=>?_
  let⟨g1,_,_,g4⟩:=L h2;refine ca (λ_=>ak ⟨rfl,nofun⟩) λk1=>?_
  refine ca (λ_=>ak ⟨rfl,nofun⟩) λk2=>ak ⟨rfl,λk3=>⟨z,g1,g4,?_,?_,?_⟩⟩
  .grind
  .grind
  .simp at k3;omega
 rintro⟨b,x⟩ ⟨e,A⟩;subst e;refine aP (λ_=>ak nofun) λh=>?_
 let⟨z,hcd,h3,hce,hfu,hth⟩:=A h;have hcl:=D.th;refine cA (l! c.2) (λi x=>x.1=(i:Int)/\x.2=(c,s)/\∀k:Nat,k<i->TF (geti Af c.2 (k:Int)) (geti fB s.2.2.2 (k:Int))) ?_ ?_ ⟨rfl,rfl,λk hk=>by omega⟩
 .rintro i ⟨a,x⟩ hi ⟨e1,e2,e3⟩;subst e1 e2;refine dJ ?_;have hin:((i:Nat):Int)<(l! c.2:Int):=by omega
  refine cE (aS ?_);refine aY (λx=>x.2=(c,s)/\(x.1=af->TF (geti Af c.2 (i:Int)) (geti fB s.2.2.2 (i:Int)))) ?_ ?_
  .refine bN (λ_=>ak ⟨rfl,nofun⟩) λg0=>?_
   refine aO (by simp) hin (aS ?_);refine fD (λ_=>ak ⟨rfl,nofun⟩) λg1=>?_
   refine aO (by simp) hin (aS ?_);refine ca (λ_=>ak ⟨rfl,nofun⟩) λg2=>?_
   refine aO (by simp) hin (aS (ak ⟨rfl,λg3=>⟨g0,g1,g2,?_⟩⟩));simp at g3;exact g3
  rintro⟨b,x⟩ ⟨e,A⟩;subst e;refine aP (λ_=>ak nofun) λh=>ak ?_
  refine ⟨iG,rfl,λk hk=>?_⟩
  grind
 .rintro⟨a,x⟩ ⟨e1,e2,e3⟩;subst e1 e2;refine dC (ak λ_=>⟨z,hcd,h3,hce,hfu,hth,e3⟩)
def aqu {i:IT} (h:i.1=6\/i.1=7\/i.1=27\/i.1=10):i.2.1∈jO i:=by
 unfold jO;(repeat' split)<;>simp<;>omega
def aqt {i:IT} (h:i.1=8\/i.1=9\/i.1=26):i.2.2.1∈jO i:=by
 unfold jO;(repeat' split)<;>simp<;>omega
def awh {i:IT} (h:i.1=7\/i.1=9):i.2.2.2.1∈jO i:=by
 unfold jO;(repeat' split)<;>simp<;>omega
structure KD (op k:Int):Prop where
 ld:k=3->op=6\/op=7
 st:k=4->op=8\/op=9
 br:k=5->op=10
 se:k=22->op=26
 ge:k=23->op=27
 e1:k=2->op=28
 n1:¬k=1
 n17:¬k=17
 wt:k=16->op=21
 e2:¬k=0->op=28->k=2
 d7:¬k=0->op=7->k=3
 d8:¬k=0->op=8->k=4
 d9:¬k=0->op=9->k=4
 d10:¬k=0->op=10->k=5
 d26:¬k=0->op=26->k=22
def anx (op:Int):Ok (Dj op) λk=>KD op k:=by
 refine aY (λx=>x.2=[3,3,4,4,5,6,7,8,9,10,11,12,13,14,15,16,18,19,20,21,22,23,2]/\(x.1=af->6<=op/\op<=28)) ?_ ?_
 .refine bN (λ_=>ak ⟨rfl,nofun⟩) λg=>ak ⟨rfl,λh=>?_⟩
  rw[kh]at h;exact⟨g,h⟩
 rintro⟨b,x⟩ ⟨e,z⟩;subst e;refine aP (λ_=>ak (by constructor<;>first|decide|(intro h;first|(exact (h rfl).elim)|(cases h;done)))) λh=>?_
 let⟨h1,A⟩:=z h;dsimp only;rw[iQ (n:=op-6) (by omega) (by omega)];refine aO (by omega) (by simp;omega) (aO (by omega) (by simp;omega) (aS (ak ?_)));have:op=6\/op=7\/op=8\/op=9\/op=10\/op=11\/op=12\/op=13\/op=14\/op=15\/op=16\/op=17\/op=18\/op=19\/op=20\/op=21\/op=22\/op=23\/op=24\/op=25\/op=26\/op=27\/op=28:=by omega
 rcases this with rfl|rfl|rfl|rfl|rfl|rfl|rfl|rfl|rfl|rfl|rfl|rfl|rfl|rfl|rfl|rfl|rfl|rfl|rfl|rfl|rfl|rfl|rfl;all_goals (constructor<;>decide)
def Yh (a n:Int):Ok (wn (a,n)) λr=>n=2->r=0\/r=1:=by
 refine bN (λ_=>ak λh=>(by simp)) λh=>?_
 refine Ce (by omega) ?_;have A:=Int.lt_tmod_of_pos a (b:=n) (by omega);refine aY (λr=>n=2->r=0\/r=1) (bN (λg=>ak λz=>?_) λg=>ak λz=>?_) λ_ h=>ak h
 .dsimp only at g ⊢;rw[iQ];omega
 .grind
def Vv (i:IT) (t:TT) (hr:∀j∈jO i,0<=j/\j<(l! t.2.1:Int)):Ok (xu (i,t)) λo=>(i.1=7->i.2.2.1=3->i.2.2.2.2.1=2->o=3\/o=4)/\(i.1=9->i.2.1=3->i.2.2.2.2.1=2->o=3\/o=4):=by
 have z:i.1=7\/i.1=9->0<=i.2.2.2.1/\i.2.2.2.1<(l! t.2.1:Int):=λh=>hr _ (by
  unfold jO;(repeat' split)<;>simp<;>omega)
 have D:∀{o:Int},¬i.1=7->¬i.1=9->(i.1=7->i.2.2.1=3->i.2.2.2.2.1=2->o=3\/o=4)/\(i.1=9->i.2.1=3->i.2.2.2.2.1=2->o=3\/o=4):=λh1 h2=>⟨λh=>(h1 h).elim,λh=>(h2 h).elim⟩
 have wk:∀{b r n:Int},b=3->n=2->(n=2->r=0\/r=1)->bm .i64 (b+r)=3\/bm .i64 (b+r)=4:=λh1 h2 A=>by
  rw[iQ];omega
 refine aY (λx=>x.2=(i,t)/\(x.1=J->i.1=6\/i.1=27)) (aL (λh=>ak ⟨rfl,λ_=>.inl h⟩) λ_=>ak ⟨rfl,λh=>.inr (bR h)⟩) ?_;rintro⟨b,x⟩ ⟨e,hb⟩;subst e;refine aP (λh=>ak (D (by grind) (by grind))) λ_=>?_
 refine aL (λh=>?_) λL=>?_
 .exact aO (z (.inl h)).1 (z (.inl h)).2 (aS (ay (Yh _ _) λy hy=>ak ⟨λ_ A h4=>wk A h4 hy,λh9=>by dsimp only at h;omega⟩))
 refine aL (λh=>?_) λn9=>?_
 .exact aO (z (.inr h)).1 (z (.inr h)).2 (aS (ay (Yh _ _) λy hy=>ak ⟨λh7=>(L h7).elim,λ_ A h4=>wk A h4 hy⟩))
 refine aY (λ_=>True) ?_ λx _=>aP (λ_=>ak (D L n9)) λ_=>ak (D L n9)
 with_reducible repeat' first|apply OS.ok;constructor|refine IM.mk λ_=>?_
 all_goals trivial
def aro {w:WT} (A:w.1=C0) {n:Int} (h:AR w a n):a=3/\n=2:=by
 let⟨b0,b1,ix,sz,z⟩:=h;rw[A]at b1 ix sz z;have b1:a<5:=b1;rcases (by omega:a=0\/a=1\/a=2\/a=3\/a=4) with rfl|rfl|rfl|rfl|rfl
 .exact (sz rfl).elim
 .exact (sz rfl).elim
 .exact (sz rfl).elim
 .exact⟨rfl,z.symm⟩
 .exact cq ix (by decide)
def aqo {w:WT} (z:w.1=C0) (h:a=3\/a=4):¬(geti l7 w.1 a).2.2.1=0:=by
 rw[z];rcases h with rfl|rfl<;>decide
structure PE (n:Nat) (c:CT) (s:ST) (t:Int) (e:ET):Prop where
 fs:FSx c s
 t0:0<=t
 t1:t<(l! c.2:Int)
 et:e.1=t
 d:l! e.2.2.2.2.2.1<=n
 f:l! e.2.2.2.2.2.2<=n
 a:e.2.1=3\/e.2.1=23\/e.2.1=5->0<=(geti sJ (geti Af c.2 t).2 (geti fB s.2.2.2 t).1).2.1/\(geti sJ (geti Af c.2 t).2 (geti fB s.2.2.2 t).1).2.1<((geti fB s.2.2.2 t).2.1.length:Int)
 b:e.2.1=4\/e.2.1=22->0<=(geti sJ (geti Af c.2 t).2 (geti fB s.2.2.2 t).1).2.2.1/\(geti sJ (geti Af c.2 t).2 (geti fB s.2.2.2 t).1).2.2.1<((geti fB s.2.2.2 t).2.1.length:Int)
structure PS (c:CT) (L:List ET) (s:ST) (t:Int) (e:ET):Prop where
 tg:TG c L s.1 t (geti fB s.2.2.2 t)
 s1:e.2.1=1\/e.2.1=2->e.2.2.2.2.1= -1
 s2:¬(e.2.1=1\/e.2.1=2)->0<=e.2.2.2.2.1/\e.2.2.2.2.1<l! c.1.2.2.2.2.2/\(geti pW c.1.2.2.2.2.2 e.2.2.2.2.1).1=t
 de:0<l! e.2.2.2.2.2.1->e.2.1=5\/(e.2.1=3\/e.2.1=4)/\¬(geti l7 c.1.1 e.2.2.1).2.2.1=0
 fr:0<l! e.2.2.2.2.2.2->e.2.1=4\/e.2.1=22
 da:Lu e.2.2.2.2.2.1
 dq:∀y∈e.2.2.2.2.2.1,FQ L t y
 fa:Lu e.2.2.2.2.2.2
 fq:∀y∈e.2.2.2.2.2.2,FQ L t y
 wt:e.2.1=16->(geti sJ (geti Af c.2 t).2 (geti fB s.2.2.2 t).1).1=21
def aap (n:Nat) (hn:n<=100000) (c:CT) (L:Y ET) (s:ST) (hc:CB c) (hs:SV n L s) (hI:SIv c L s) (t:Int):Ok (oW (c,s,t)) λy=>y.2=J->PE n c s t y.1/\PS c L s t y.1:=by
 unfold oW bf bA bH c_ eR dT bq bU bT bZ aZ aH;refine aY (λx=>x.2.1=c/\x.2.2.1=s/\(x.1=af->FSx c s/\0<=t/\t<(l! c.2:Int))) ?_ ?_
 .refine ay (aoi c s hc) λb hb=>?_
  refine eQ (λ_=>ak ⟨rfl,rfl,nofun⟩) λh=>?_
  refine bN (λ_=>ak ⟨rfl,rfl,nofun⟩) λg0=>ak ⟨rfl,rfl,λg1=>?_⟩
  dsimp only at g0 g1;rw[nF]at g1;exact⟨hb h,g0,g1⟩
 rintro⟨b,D,s',z⟩ ⟨e1,e2,hb⟩;dsimp only at e1 e2 hb;subst e1 e2;refine aP (λ_=>ak nofun) λh=>?_
 let⟨hf,t0,t1⟩:=hb h;have hk:((t.toNat:Nat):Int)=t:=by omega
 have htf:=hf.t t.toNat (by omega);rw[hk]at htf;have hvt:=hf.vc.t _ (bM (T:=Af) (xs:=D.2) (j:=t) t0 t1);have hth:=hs.ti t0 (by rw[hf.th];exact t1);have key:∀e:ET,e.1=t->l! e.2.2.2.2.2.1<=n->l! e.2.2.2.2.2.2<=n->(e.2.1=1\/e.2.1=17\/KD (geti sJ (geti Af D.2 t).2 (geti fB s'.2.2.2 t).1).1 e.2.1)->PE n D s' t e:=by
  intro e h1 h2 h3 h4;have hi:=hvt.i _ (bM (T:=sJ) (xs:=(geti Af D.2 t).2) (j:=(geti fB s'.2.2.2 t).1) htf.p0 htf.p1);refine ⟨hf,t0,t1,h1,h2,h3,λh5=>?_,λh5=>?_⟩
  .rw[htf.r];rcases h4 with h4|h4|h4
   .omega
   .omega
   .refine hi.r _ ?_;have a1:=h4.ld;have a2:=h4.ge;have a3:=h4.br;revert a1 a2 a3 h5;generalize (geti sJ (geti Af D.2 t).2 (geti fB s'.2.2.2 t).1)=i;intro h5 a1 a2 a3;exact aqu (by omega)
  .rw[htf.r];rcases h4 with h4|h4|h4
   .omega
   .omega
   .refine hi.r _ ?_;have a1:=h4.st;have a2:=h4.se;revert a1 a2 h5;generalize (geti sJ (geti Af D.2 t).2 (geti fB s'.2.2.2 t).1)=i;intro h5 a1 a2;exact aqt (by omega)
 have hir:=(hvt.i _ (bM (T:=sJ) (xs:=(geti Af D.2 t).2) (j:=(geti fB s'.2.2.2 t).1) htf.p0 htf.p1)).r;rw[<- htf.r]at hir;have hrg:=hc.rg _ (bM (T:=Af) (xs:=D.2) (j:=t) t0 t1);have htg:TG D L s'.1 t (geti fB s'.2.2.2 t):=by
  have:=hI.t t.toNat (by rw[hf.th];omega);rw[hk]at this;refine this.resolve_left λh=>?_
  have:=htf.r;omega
 have hvj:=hf.vc.j t.toNat (by omega);rw[hk]at hvj;have hvj:=hvj _ (bM (T:=sJ) (xs:=(geti Af D.2 t).2) (j:=(geti fB s'.2.2.2 t).1) htf.p0 htf.p1);have hC0:=hc.wx.c;refine aO t0 (by dsimp only;rw[hf.th];exact t1) (aS ?_);refine aO t0 t1 (aS ?_);refine aO htf.p0 htf.p1 (aS ?_);have t4:t<(l! s'.1.2.2.2:Int):=by rw[hf.e3,<-hf.vc.tl];exact t1
 have tz:(geti fB s'.2.2.2 t).2.2.1.length=(geti fB s'.2.2.2 t).2.1.length:=by have:=htf.r;have:=htf.t;omega
 refine aO t0 t4 (aS ?_);refine aL (λ_=>ak λ_=>⟨key _ rfl (mH _) (mH _) (.inl rfl),⟨htg,λ_=>rfl,λh=>(h (.inl rfl)).elim,nofun,nofun,trivial,λy hy=>(by cases hy),trivial,λy hy=>(by cases hy),nofun⟩⟩) λ_=>?_
 refine aL (λh4=>aO t0 t4 (aS (ak λ_=>⟨key _ rfl (mH _) (mH _) (.inr (.inl rfl)),⟨htg,λh=>(by rcases h with h|h<;>cases h),λ_=>hvj.si (by rw[htg.wi (.inr h4)];decide),nofun,nofun,trivial,λy hy=>(by cases hy),trivial,λy hy=>(by cases hy),nofun⟩⟩))) λ_=>?_
 refine aL (λ_=>?_) λ_=>ak nofun
 refine ay (anx _) λk A=>?_
 refine ay (Vv _ _ hir) λo ho=>?_
 refine aL (λ_=>ak nofun) λhk0=>?_
 have fin:∀e:ET,e.1=t->e.2.1=k->e.2.2.1=o->e.2.2.2.2.1=(geti sJ (geti Af D.2 t).2 (geti fB s'.2.2.2 t).1).2.2.2.2.2->(0<l! e.2.2.2.2.2.1->(geti sJ (geti Af D.2 t).2 (geti fB s'.2.2.2 t).1).1=10\/(geti sJ (geti Af D.2 t).2 (geti fB s'.2.2.2 t).1).1=7\/(geti sJ (geti Af D.2 t).2 (geti fB s'.2.2.2 t).1).1=9)->(0<l! e.2.2.2.2.2.2->(geti sJ (geti Af D.2 t).2 (geti fB s'.2.2.2 t).1).1=8\/(geti sJ (geti Af D.2 t).2 (geti fB s'.2.2.2 t).1).1=9\/(geti sJ (geti Af D.2 t).2 (geti fB s'.2.2.2 t).1).1=26)->TL (FQ L t) n e.2.2.2.2.2.1->TL (FQ L t) n e.2.2.2.2.2.2->PE n D s' t e/\PS D L s' t e:=by
  intro e h1 h2 h3 h4 h5 h6 h7 h8;refine ⟨key e h1 h7.len h8.len (.inr (.inr (h2▸A))),htg,λh=>?_,λh=>?_,λh=>?_,λh=>?_,h7.a,h7.f,h8.a,h8.f,λh=>A.wt (h2▸h)⟩
  .rw[h4];rw[h2]at h;exact hvj.se (A.e1 (h.resolve_left A.n1))
  .rw[h4];rw[h2]at h;exact hvj.si λh9=>h (.inr (A.e2 hk0 h9))
  .rw[h2,h3];rcases h5 h with g|g|g
   .exact .inl (A.d10 hk0 g)
   .obtain⟨q1,q2⟩:=aro hC0 (hvj.a7 g);exact .inr ⟨.inl (A.d7 hk0 g),aqo hC0 (ho.1 g q1 q2)⟩
   .obtain⟨q1,q2⟩:=aro hC0 (hvj.a9 g);exact .inr ⟨.inr (A.d9 hk0 g),aqo hC0 (ho.2 g q1 q2)⟩
  .rw[h2];rcases h6 h with g|g|g
   .exact .inl (A.d8 hk0 g)
   .exact .inl (A.d9 hk0 g)
   .exact .inr (A.d26 hk0 g)
 clear key htg hvj ho hC0 hrg;revert fin htf hvt hth hir tz A;dsimp only;generalize (geti fB s'.2.2.2 t)=th;generalize (geti sJ _ th.1)=i;intro htf hvt hth hir tz A fin;have hlen:∀{j:Int},0<=j->j<(l! th.2.2.1:Int)->TL (FQ L t) n (geti (.sl (.int .i64)) th.2.2.1 j):=λh0 h1=>hth.l _ (bM (T:=.sl (.int .i64)) (xs:=th.2.2.1) h0 h1)
 have hA:i.1=10->0<=i.2.1/\i.2.1<(l! th.2.2.1:Int):=λh=>by
  rw[tz];exact hir _ (aqu (.inr (.inr (.inr h))))
 have hB:i.1=8\/i.1=9\/i.1=26->0<=i.2.2.1/\i.2.2.1<(l! th.2.2.1:Int):=λh=>by
  rw[tz];exact hir _ (aqt (h))
 have hC:i.1=7\/i.1=9->0<=i.2.2.2.1/\i.2.2.2.1<(l! th.2.2.1:Int):=λh=>by
  rw[tz];exact hir _ (awh (h))
 refine aY (λx=>x.2.1=th/\x.2.2.1=i/\(x.2.2.2.1.1=t/\x.2.2.2.1.2.1=k/\x.2.2.2.1.2.2.1=o/\x.2.2.2.1.2.2.2.2=i.2.2.2.2.2)/\TL (FQ L t) n x.2.2.2.2/\(0<l! x.2.2.2.2->i.1=10\/i.1=7\/i.1=9)) ?_ ?_
 .refine aL (λh=>?_) λ_=>?_
  .obtain⟨a0,a1⟩:=hA h;refine aO a0 a1 (aS ?_);have:=hlen a0 a1;exact bO (c6 this.len (by omega)) (by omega) (ak ⟨rfl,rfl,⟨rfl,rfl,rfl,rfl⟩,this,λ_=>.inl h⟩)
  refine aY (λx=>x.2.2.1=th/\x.2.2.2.1=i/\(x.2.2.2.2.1=t/\x.2.2.2.2.2.1=k/\x.2.2.2.2.2.2.1=o/\x.2.2.2.2.2.2.2.2=i.2.2.2.2.2)/\(x.1=J->i.1=7\/i.1=9)) ?_ ?_
  .refine aL (λh=>ak ⟨rfl,rfl,⟨rfl,rfl,rfl,rfl⟩,λ_=>.inl h⟩) λ_=>ak ⟨rfl,rfl,⟨rfl,rfl,rfl,rfl⟩,λh=>.inr (bR h)⟩
  rintro⟨b,z0,th',i',t',k',z1⟩ ⟨e1,e2,e3,hb9⟩;dsimp only at e1 e2 e3 hb9;subst e1 e2;refine aP (λh=>?_) λ_=>ak ⟨rfl,rfl,e3,TL.nil n,nofun⟩
  let⟨a0,a1⟩:=hC (hb9 h);refine aO a0 a1 (aS ?_);have:=hlen a0 a1;exact bO (c6 this.len (by omega)) (by omega) (ak ⟨rfl,rfl,e3,this,λ_=>.inr (hb9 h)⟩)
 rintro⟨z0,th',i',⟨t',k',z1⟩,ds⟩ ⟨e1,e2,e3,hd,hd2⟩;dsimp only at e1 e2 e3 hd hd2;subst e1 e2;refine aY (λx=>(x.2.1.1=t/\x.2.1.2.1=k/\x.2.1.2.2.1=o/\x.2.1.2.2.2.2=i'.2.2.2.2.2)/\x.2.2.1=ds/\TL (FQ L t) n x.2.2.2/\(0<l! x.2.2.2->i'.1=8\/i'.1=9\/i'.1=26)) ?_ ?_
 .refine aY (λx=>x.2=(z0,th',i',(t',k',z1),ds)/\(x.1=J->i'.1=8\/i'.1=9\/i'.1=26)) ?_ ?_
  .exact aL (λh=>ak ⟨rfl,λ_=>.inl h⟩) λ_=>aL (λh=>ak ⟨rfl,λ_=>.inr (.inl h)⟩) λ_=>ak ⟨rfl,λh=>.inr (.inr (bR h))⟩
  rintro⟨b,x⟩ ⟨e,hb9⟩;dsimp only at e hb9;subst e;refine aP (λh=>?_) λ_=>ak ⟨e3,rfl,TL.nil n,nofun⟩
  let⟨a0,a1⟩:=hB (hb9 h);refine aO a0 a1 (aS ?_);have:=hlen a0 a1;exact bO (c6 this.len (by omega)) (by omega) (ak ⟨e3,rfl,this,λ_=>hb9 h⟩)
 rintro⟨z2,⟨t2,k2,o2,z3,si⟩,d2,f2⟩ ⟨e1,e2,h1,h2⟩;dsimp only at e1 e2 h1 h2;subst e2;let⟨g1,g2,g3,g4⟩:=e1;exact ak λ_=>fin _ g1 g2 g3 g4 hd2 h2 hd h1
def asi {n:Nat} {k:Int} (h0:0<=k) (h1:k<n):(geti iF (thP n) k).1=0\/(geti iF (thP n) k).1=1:=by
 have hm:=bM (T:=iF) (xs:=thP n) h0 (by rw[LB];exact h1);revert hm;generalize geti iF (thP n) k=z;intro hm;cases n with
 |zero=>cases hm
 |succ n=>
  rcases aV.1 hm with rfl|hm
  .exact .inr rfl
  .grind
def aan (c:CT) (hvt:kM c=Z J) (hv:VC c):Ok (v8 c) λs=>SV 0 [] s/\SIv c [] s:=by
 unfold v8 bf bA bH cF c_ eR dT ic bU mK bT bZ aZ c5 aH cS;refine be hvt (eQ nofun λ_=>?_);let⟨vc,vl,vd,vf,_,vt,_⟩:=id hv.vl;have htl:=hv.tl;refine be (O7 c.1 hv.vl) ?_;refine cA (l! c.1.1) (λi x=>x.1=(i:Int)/\x.2.1=c/\x.2.2.2.1=So c.1/\x.2.2.2.2=(c.1.1.take i).map λc=>c.2.2.2.2) ?_ ?_ ⟨rfl,rfl,rfl,rfl⟩
 .rintro i ⟨a,c',z,y',l⟩ hi ⟨L,e2,D,A⟩;dsimp only at L e2 D A;subst L e2 D A;refine dJ ?_;refine cE (aS (a! (ak ?_)));dsimp only;exact⟨iG,rfl,rfl,by rw[pi (T:=l7) hi,cD];rfl⟩
 rintro⟨a,c',z,y',l⟩ ⟨L,e2,D,A⟩;dsimp only at L e2 D A;subst L e2 D;rw[cM]at A;subst A;refine dC ?_;refine ay (P:=λs=>SV 0 [] s/\SIv c' [] s) ?_ λr hr=>ak hr
 refine cA (l! c'.1.2.2.2.1) (λi x=>x.1=(i:Int)/\x.2.1=c'/\x.2.2.2.1=So c'.1/\x.2.2.2.2.1=ce0 c'.1/\x.2.2.2.2.2=aC i 0) ?_ ?_ ⟨rfl,rfl,rfl,rfl,rfl⟩
 .rintro i ⟨a,c,z,y,l,f⟩ hi ⟨L,e2,D,A,e5⟩;dsimp only at L e2 D A e5;subst L e2 D e5;refine dJ ?_;refine a! (ak ?_);dsimp only;exact⟨iG,rfl,rfl,A,by rw[wT]⟩
 rintro⟨a,c,z,y,l,f⟩ ⟨L,e2,D,A,e5⟩;dsimp only at L e2 D A e5;subst L e2 D A e5;refine dC ?_;refine ay (P:=λs=>SV 0 [] s/\SIv c [] s) ?_ λr hr=>ak hr
 refine cA (l! c.2) (λi x=>x.1=(i:Int)/\x.2.1=c/\x.2.2.2.1=So c.1/\x.2.2.2.2.1=ce0 c.1/\x.2.2.2.2.2.1=fu0 c.1/\l! x.2.2.2.2.2.2=i/\∀t∈x.2.2.2.2.2.2,(∀F,TH F 0 t)/\t.2.2.2=0) ?_ ?_ ⟨rfl,rfl,rfl,rfl,rfl,rfl,λt ht=>(by cases ht)⟩
 .rintro i ⟨a,c,z,y,l,f,th⟩ hi ⟨L,e2,D,A,e4b,e5,e6⟩;dsimp only at L e2 D A e4b e5 e6;subst L e2 D;refine dJ ?_;have hin:((i:Nat):Int)<(l! c.2:Int):=by omega
  have hvt:=hv.t _ (bM (T:=Af) (xs:=c.2) (j:=(i:Int)) (by omega) hin);have q0:=hvt.r0;have q1:=hvt.r1;refine aO (by simp) hin (aS ?_);refine cU (cU (dG q0 (dG (dx _) (bO (by grind) (by omega) ?_))));refine aO (by simp) hin (aS ?_);refine cU (cU (dG q0 (dG (dx _) (bO (by grind) (by omega) ?_))));refine a! (ak ?_);dsimp only;refine ⟨iG,rfl,rfl,A,e4b,by simp;omega,λt ht=>?_⟩;rcases bL.1 ht with h|h
  .exact e6 t h
  .rw[aE]at h;subst h;refine ⟨λF=>⟨?_,?_,λl hl=>?_,dx _,dx _⟩,rfl⟩
   .grind
   .grind
   .rw[Ak hl];exact TL.nil 0
 .rintro⟨a,c,z,y,l,f,th⟩ ⟨L,e2,D,A,e4b,e5,e6⟩;dsimp only at L e2 D A e4b e5 e6;subst L e2 D A e4b;refine dC (ak ?_);have hm:∀k:Nat,k<l! th->_:=λk hk=>e6 _ (bM (T:=fB) (xs:=th) (j:=(k:Int)) (by omega) (by omega))
  refine ⟨⟨YH hv.vl,rfl,λk hk=>(hm k hk).1 _⟩,⟨.nil,λk hk=>.inr ?_⟩⟩;dsimp only at hk;have hst:=asi (n:=l! c.1.2.2.2.2.1) (k:=(k:Int)) (by omega) (by omega);exact⟨(hm k hk).2,λh=>(by rcases hst with q|q<;>rcases h with h|h<;>exact cq (q.symm.trans h) (by decide)),λ_=>hst⟩
def Ma {th:Y d?} {x j:Int} (h0:0<=a) (h1:a<l! th) (z:0<=j):(geti iF (Bq th a x) j).1=if j=a then x else (geti iF th j).1:=by
 unfold Bq;rw[jX (T:=iF) _ _ _ _ h0 h1 z];split<;>rfl
def arf {th:Y d?} {x j:Int} (h0:0<=a) (h1:a<l! th) (z:0<=j):(geti iF (cdP th a x) j).1=(geti iF th j).1:=by
 unfold cdP;rw[jX (T:=iF) _ _ _ _ h0 h1 z];split
 next h=>rw[h]
 .rfl
def arn {th:Y d?} {j:Int} (h0:0<=a) (h1:a<l! th) (z:0<=j):(geti iF (atP th a b) j).1=(geti iF th j).1:=by
 unfold atP;rw[jX (T:=iF) _ _ _ _ h0 h1 z];split
 next h=>rw[h]
 .rfl
def ar0 (A:0<=a):∀(l:η) (th:Y d?),(∀u:Int,u∈l->0<=u/\u<l! th)->(geti iF (Ge th l) a).1=if a∈l then 4 else (geti iF th a).1
 |[],th,_=>by simp[Ge]
 |x::r,th,h=>by
  have z:=h x (cV ..);have D:=ar0 A r (Bq th x 4) λu L=>by unfold Bq;rw[bS];exact h u (bP _ L)
  have e:Ge th (x::r)=Ge (Bq th x 4) r:=rfl;rw[e,D,Ma z.1 z.2 A]
  grind
def XW {w:WT} {s:SY} {k o u v:Int} {A:SY} (h:(A,v)=pV w s a k o u):pV w s a k o v=(A,v):=by
 by_cases D:k=18
 .subst D;rw[Fr]at h ⊢;by_cases z:l! (wl s.2.2.2 o (l! s.2.2.2))=0
  .grind
  .rw[av z]at h ⊢;have hm:=LW u z;generalize wl s.2.2.2 o (l! s.2.2.2)=l at h z hm ⊢;obtain⟨rfl,rfl⟩:=Prod.mk.inj h;have:Ez l (Ez l u)=Ez l u:=by
    rw[Ez,av z,aD (EJ.2 hm)]
   rw[this]
 .rw[adb _ _ _ _ _ _ u D,<-h]
def atu {w:WT} {s:SY} {k o:Int} (u:Int) (he:EN w s a k o) (hr:X8 w s a k o) {j:Int} (h0:0<=j):(¬j=a->(geti iF (pV w s a k o u).1.2.2.2 j).1=(geti iF s.2.2.2 j).1\/((geti iF s.2.2.2 j).1=3/\(geti iF (pV w s a k o u).1.2.2.2 j).1=4)\/((geti iF s.2.2.2 j).1=0/\(geti iF (pV w s a k o u).1.2.2.2 j).1=1))/\(j=a->¬k=16->¬(geti iF (pV w s a k o u).1.2.2.2 j).1=3/\¬(geti iF (pV w s a k o u).1.2.2.2 j).1=4):=by
 have t0:=he.t0;have t1:a<l! s.2.2.2:=by have:=he.t1;have:=he.e3;omega
 have A:=hr.r;have hml:∀u:Int,u∈wl s.2.2.2 o (l! s.2.2.2)->0<=u/\u<l! s.2.2.2:=λu hu=>⟨(sY.1 hu).1,(sY.1 hu).2.1⟩
 have h3:∀u:Int,u∈wl s.2.2.2 o (l! s.2.2.2)->(geti iF s.2.2.2 u).1=3:=λu hu=>by
  have:=(sY.1 hu).2.2;unfold Pu at this;rw[al]at this;exact bR this.1
 have same:¬k=1->¬k=17->∀th:Y d?,(geti iF th j).1=(geti iF s.2.2.2 j).1->(¬j=a->(geti iF th j).1=(geti iF s.2.2.2 j).1\/((geti iF s.2.2.2 j).1=3/\(geti iF th j).1=4)\/((geti iF s.2.2.2 j).1=0/\(geti iF th j).1=1))/\(j=a->¬k=16->¬(geti iF th j).1=3/\¬(geti iF th j).1=4):=λt b th h=>⟨λ_=>.inl h,λh2 _=>by rw[h,h2,A t b];decide⟩
 have st:∀x:Int,¬x=3\/k=16->¬x=4->∀th:Y d?,(geti iF th j).1=(if j=a then x else (geti iF s.2.2.2 j).1)->(¬j=a->(geti iF th j).1=(geti iF s.2.2.2 j).1\/((geti iF s.2.2.2 j).1=3/\(geti iF th j).1=4)\/((geti iF s.2.2.2 j).1=0/\(geti iF th j).1=1))/\(j=a->¬k=16->¬(geti iF th j).1=3/\¬(geti iF th j).1=4):=λx hx hx4 th h=>⟨λhn=>.inl (by rw[h,av hn]),λh2 h16=>by rw[h,aD h2];exact⟨hx.resolve_right h16,hx4⟩⟩
 have L:∀x:Int,a<l! (Bq s.2.2.2 a x):=λx=>by unfold Bq;rw[bS];exact t1
 by_cases k1:k=1
 .subst k1;exact st 2 (.inl (by decide)) (by decide) _ (Ma t0 t1 h0)
 by_cases k2:k=2
 .subst k2;exact st 5 (.inl (by decide)) (by decide) _ (Ma t0 t1 h0)
 by_cases k16:k=16
 .subst k16;exact st 3 (.inr rfl) (by decide) _ ((arf t0 (L _) h0).trans (Ma t0 t1 h0))
 by_cases k17:k=17
 .subst k17;exact st 2 (.inl (by decide)) (by decide) _ ((arf t0 (L _) h0).trans (Ma t0 t1 h0))
 by_cases k14:k=14
 .subst k14;exact same k1 k17 _ (arn t0 t1 h0)
 by_cases k15:k=15
 .subst k15;exact same k1 k17 _ (arn t0 t1 h0)
 by_cases k18:k=18
 .subst k18;rw[Fr];by_cases hl:l! (wl s.2.2.2 o (l! s.2.2.2))=0
  .rw[aD hl];exact same k1 k17 _ rfl
  .rw[av hl];have hc:=LW u hl;have hc1:=hml _ hc;have z:=h3 _ hc;dsimp only;rw[Ma hc1.1 hc1.2 h0];generalize Ez (wl s.2.2.2 o (l! s.2.2.2)) u=c at z;by_cases D:j=c
   .rw[aD D,D];exact⟨λ_=>.inr (.inl ⟨z,rfl⟩),λh _=>by rw[h,A k1 k17]at z;exact cq z (by decide)⟩
   .rw[av D];exact⟨λ_=>.inl rfl,λh _=>by rw[h,A k1 k17];decide⟩
 by_cases k19:k=19
 .subst k19;show (_->(geti iF (Ge _ _) j).1=_\/_/\(geti iF (Ge _ _) j).1=_\/_/\(geti iF (Ge _ _) j).1=_)/\(_->_->¬(geti iF (Ge _ _) j).1=_/\¬(geti iF (Ge _ _) j).1=_)
  rw[ar0 h0 _ _ hml];by_cases D:j∈wl s.2.2.2 o (l! s.2.2.2)
  .rw[aD D];have z:=h3 _ D;exact⟨λ_=>.inr (.inl ⟨z,rfl⟩),λh _=>by rw[h,A k1 k17]at z;exact cq z (by decide)⟩
  .rw[av D];exact⟨λ_=>.inl rfl,λh _=>by rw[h,A k1 k17];decide⟩
 by_cases k20:k=20
 .subst k20;let⟨o0,o1⟩:=he.nm.th (.inl rfl);let⟨hot,ho0⟩:=hr.sp rfl;have o1':o<l! s.2.2.2:=by rw[he.e3];exact o1
  show (_->(geti iF (Bq _ _ _) j).1=_\/_/\(geti iF (Bq _ _ _) j).1=_\/_/\(geti iF (Bq _ _ _) j).1=_)/\(_->_->¬(geti iF (Bq _ _ _) j).1=_/\¬(geti iF (Bq _ _ _) j).1=_)
  rw[Ma o0 o1' h0];by_cases D:j=o
  .rw[aD D,D];exact⟨λ_=>.inr (.inr ⟨ho0,rfl⟩),λh _=>(hot h).elim⟩
  .rw[av D];exact⟨λ_=>.inl rfl,λh _=>by rw[h,A k1 k17];decide⟩
 refine same k1 k17 _ ?_;unfold pV;rw[av k1,av k2];repeat' split
 all_goals first|rfl|omega
def aoh {e e':ET} (h1:e'.1=e.1) (z:e'.2.1=e.2.1) (t:Int):fl [e'] t=fl [e] t:=by
 by_cases h:e.1=t
 .rw[CA h,CA (h1.trans h)];unfold rdE;rw[z]
 .rw[zG h,zG (λg=>h (h1.symm.trans g))]
def aqg {e e':ET} (h1:e'.1=e.1) (z:e'.2.1=e.2.1) {L:Int} (h:FQ (k++[e]) L a):FQ (k++[e']) L a:=by
 unfold FQ Pe at h ⊢;rw[wI,aoh h1 z,<-wI];exact h
def Ni {T:Ty} (xs:Y T.den) (i k:Nat) (x:T.den) (hi:i<l! xs):geti _ (xs.set i x) (k:Int)=if k=i then x else geti _ xs (k:Int):=by
 refine (jX xs (i:Int) (k:Int) x (by omega) (by omega) (by omega)).trans ?_
 grind
abbrev D!:=ST×ET×Bool
def SQ (n:Nat) (c:CT) (L:Y ET) (y:D!):Prop:=y.2.2=J->SV (n+1) (L++[y.2.1]) y.1/\SIv c (L++[y.2.1]) y.1/\R2 c.1 y.2.1/\EvS y.2.1
def apu (hn:j+1<=100000) {c:CT} {s:ST} {o v0 si:Int} {fs:η} {sy:SY} (hs:SV j k s) (hI:SIv c k s) (hp:PE j c s (i:Int) ((i:Int),a,o,v0,si,A,fs)) (hm:PS c k s (i:Int) ((i:Int),a,o,v0,si,A,fs)) (he:EN c.1 s.1 (i:Int) a o) (hr:X8 c.1 s.1 (i:Int) a o) (ha:AP j s.1 sy) (z:Int) (ce fu:η) (t':TT) (hap:(pV c.1 s.1 (i:Int) a o z).1=sy) (hva:VA c.1 s.1 s.2.1 s.2.2.1 (i:Int) a o z) (hce:ce=ceP s.2.1 ((i:Int),a,o,z,si,A,fs)) (hfu:fu=fuP s.2.2.1 ((i:Int),a,o,z,si,A,fs)) (ht:TH (FQ (k++[((i:Int),a,o,v0,si,A,fs)]) (i:Int)) (j+1) t') (hg:l! t'.2.1=0\/t'.2.2.2=bm .i64 ((geti fB s.2.2.2 (i:Int)).2.2.2+1)/\(a=16->t'.1=(geti fB s.2.2.2 (i:Int)).1)):SQ j c k ((sy,ce,fu,s.2.2.2.set i t'),((i:Int),a,o,z,si,A,fs),J):=by
 intro _;have q1:=hp.t1;have q2:=hp.fs.th;have hil:i<l! s.2.2.2:=by omega
 have hln:=hs.ln;refine ⟨⟨ha.toSB hs.sb hn,by simp[hln],λL D=>?_⟩,⟨?_,λL D=>?_⟩,⟨he.nm,he.t0,he.t1,he.cd⟩,⟨c6 hp.d (by omega),c6 hp.f (by omega)⟩⟩
 .dsimp only at D ⊢;rw[dt]at D;rw[Ni (T:=fB) _ _ _ _ hil];split
  next h=>subst h;exact ht.mono (bJ _) λy ds=>aqg (e:=((L:Int),a,o,v0,si,A,fs)) (e':=((L:Int),a,o,z,si,A,fs)) rfl rfl ds
  .exact (hs.t L D).mono (by omega) λy ds=>⟨ds.1,ds.2.app _⟩
 .rw[<- hap,hce,hfu];exact hI.ac.snoc (e:=((i:Int),a,o,z,si,A,fs)) ⟨he,hr,hm.s1,hm.s2,hm.de,hm.fr,⟨hm.da,λx hx=>⟨(hm.dq x hx).1,(hm.dq x hx).2.lt⟩⟩,⟨hm.fa,λx hx=>⟨(hm.fq x hx).1,(hm.fq x hx).2.lt⟩⟩,λy ds=>(hm.dq y ds).2,λy ds=>(hm.fq y ds).2,hva⟩
 .dsimp only at D ⊢;rw[dt]at D;rw[Ni (T:=fB) _ _ _ _ hil];let⟨Pm,st2⟩:=atu z he hr (j:=(L:Int)) (by omega);rw[hap]at Pm st2;have hfl:=Wr k (i:Int);split
  .rename_i h;subst h;rcases hg with hg|⟨g1,g2⟩
   .exact .inl hg
   .refine .inr ⟨?_,λhw=>?_,λhz=>?_⟩
    .rw[g1,hm.tg.ev,wI,CA rfl,iG];simp
    .have h16:a=16:=xV λh=>hw.elim (st2 rfl h).1 (st2 rfl h).2
     rw[g2 h16];exact hm.wt h16
    .rw[wI,CA rfl]at hz;simp at hz
  .rename_i h;have hki:¬(L:Int)=(i:Int):=by omega
   have hfo:∀e:ET,e.1=(i:Int)->fl (k++[e]) (L:Int)=fl k (L:Int):=λe h=>by
    rw[wI,zG (by omega),pJ]
   have Pm:=Pm hki;refine (hI.t L D).imp id λg=>⟨by rw[hfo _ rfl];exact g.ev,λhw=>g.wi (by
    rcases Pm with h1|⟨h1,_⟩|⟨_,h1⟩
    .rw[<- h1];exact hw
    .exact .inl h1
    .exact hw.elim (λh=>cq (h1.symm.trans h) (by decide)) λh=>cq (h1.symm.trans h) (by decide)),λhz=>?_⟩
   rw[hfo _ rfl]at hz;have g2:=g.nw hz
   grind
def YR {α:Type} (o:M α):aA o (λ_=>(U:M R))=U:=by cases o<;>rfl
def akr (b:Bool):chk b (λ_=>(U:M R))=U:=by cases b<;>rfl
def anw {α:Type} (x:α):lt x (λ_=>(U:M R))=U:=rfl
def OkN (o:M R) (Q:R->Prop):Prop:=o=U\/Ok o Q
def OkN.or {a b:M R} {Q:R->Prop} (A:OkN a Q) (z:OkN b Q):OkN (orE a b) Q:=by
 rcases A with rfl|⟨y,rfl,h⟩
 .exact z
 .exact .inr ⟨y,rfl,h⟩
def Ok.orL {a b:M R} {Q:R->Prop} (z:Ok a Q):Ok (orE a b) Q:=by
 obtain⟨y,rfl,h⟩:=z;exact⟨y,rfl,h⟩
def OkN.orR {a b:M R} {Q:R->Prop} (A:OkN a Q) (z:Ok b Q):Ok (orE a b) Q:=by
 rcases A with rfl|⟨y,rfl,h⟩
 .exact z
 .exact⟨y,rfl,h⟩
def L_ (hn:i+1<=100000) {c:CT} {s:ST} {u:Int} (hc:CB c) (hs:SV i k s) (hI:SIv c k s) (G:M D!->Prop) (hG:∀y,SQ i c k y->G (Z y)) (L:ET×Bool->SY×u!->M D!)
 (hk:∀e v A,PE i c s a e->PS c k s a e->EN c.1 s.1 a e.2.1 e.2.2.1->X8 c.1 s.1 a e.2.1 e.2.2.1->AP i s.1 A->(A,v)=pV c.1 s.1 a e.2.1 e.2.2.1 u->G (L (e,J) (A,v,J))):
 G (aA (oW (c,s,a)) λz=>aI (!z.2) (Z ((([],0,[],[]),[],[],[]),(0,0,0,0,0,[],[]),af)) (aA (qJ (c.1,s.1,a,z.1.2.1,z.1.2.2.1,u)) λD=>aI (!D.2.2) (Z ((([],0,[],[]),[],[],[]),(0,0,0,0,0,[],[]),af)) (L z D))):=by
 have hz:=hG ((([],0,[],[]),[],[],[]),(0,0,0,0,0,[],[]),af) nofun
 let⟨⟨e,b⟩,h1,h2⟩:=aap i (by omega) c k s hc hs hI a;rw[h1,obs];cases b with
 |false=>exact hz
 |true=>
  let⟨hp,hm⟩:=h2 rfl;have hcd:l! c.1.2.2.1<=1000:=by have:=hp.fs.vc.vl.d;omega
  let⟨⟨A,v,b⟩,h3,h4,_,_⟩:=Yl c.1 s.1 hs.sb hcd a e.2.1 e.2.2.1 u;have e0:∀{R:Type} (t b:M R),aI (!J) t b=b:=λ_ _=>rfl
  rw[e0,h3,obs];cases b with
  |false=>exact hz
  |true=>grind
def kdx (k:Int):k=1\/k=16\/k=2\/k=3\/k=23\/k=4\/k=22\/k=5\/((k=1)=False/\(k=16)=False/\(k=2)=False/\(k=3)=False/\(k=23)=False/\(k=4)=False/\(k=22)=False/\(k=5)=False):=by grind
def KR (n:Nat) (c0:CT) (L:Y ET) (i:Nat) (u:Int) (l:Y TT) (z:R) (k:Int->(CT×SY×(ν)×Int×(υ)×ET×(ν)×(η)×(η)×R×(η)×Y η)->M D!):Prop:=
 ∀(F:Int->Prop) (p:Int) (sy:SY) (kd o v si:Int) (ds fs ce fu A:η) (T:Y η) (ev:Int),
  (kd≠16->kd≠2->Ok (oG (geti Af c0.2 (i:Int),(p,A,T,bm .i64 (ev+1)))) λy=>TH F (n+1) y.1/\(l! y.1.2.1=0\/y.1.2.2.2=bm .i64 (ev+1)))->
  (kd=16\/kd=2->TH F (n+1) (p,A,T,bm .i64 (ev+1)))->
  (∀D,TH F (n+1) D->(l! D.2.1=0\/D.2.2.2=bm .i64 (ev+1)/\(kd=16->D.1=p))->SQ n c0 L ((sy,ce,fu,l.set i D),((i:Int),kd,o,v,si,ds,fs),J))->(i:Int)<(l! c0.2:Int)->
  ∀pc,Ok (k p (c0,sy,((i:Int),u),0,(0,0,0,0,0),((i:Int),kd,o,v,si,ds,fs),(pc,ev),ce,fu,z,A,T)) (SQ n c0 L)
def EB (N n:Nat) {cp:SY×(η)×(η)×Y TT->M (Int×(Y (Int×η))×(θ)×(Y (Int×Int×Bool))×(η)×(η)×R×(η)×Y η)} {pc ev:R->Int} {k:Int->(CT×SY×(ν)×Int×(υ)×ET×(ν)×(η)×(η)×R×(η)×Y η)->M D!} (hn:i+1<=100000) (c0:CT) (L:Y ET) (s:ST) (t u:Int) (hc:CB c0) (hs:SV i L s) (hI:SIv c0 L s)
 (h0:∀sy ce fu (l:Y TT),l! l<=4->l! l≠N->cp (sy,ce,fu,l)=U)
 (h1:∀sy ce fu (l:Y TT),SV i L (sy,ce,fu,l)->l! ce<=1000->l! fu<=1000->l! l=N->n<N/\∃y,cp (sy,ce,fu,l)=Z y/\y.2.2.2.2.1=ce/\y.2.2.2.2.2.1=fu/\y.2.2.2.2.2.2.2.1=(geti fB l (n:Int)).2.1/\y.2.2.2.2.2.2.2.2=(geti fB l (n:Int)).2.2.1/\pc y.2.2.2.2.2.2.1=(geti fB l (n:Int)).1/\ev y.2.2.2.2.2.2.1=(geti fB l (n:Int)).2.2.2/\KR i c0 L n u l y.2.2.2.2.2.2.1 k):
 OkN (SG (n:Int) cp pc ev k (c0,s,t,u)) (SQ i c0 L)/\(l! s.2.2.2=N->t=(n:Int)->Ok (SG (n:Int) cp pc ev k (c0,s,t,u)) (SQ i c0 L)):=by
 by_cases hz:l! s.2.2.2=N/\t=(n:Int)
 .obtain⟨hz1,rfl⟩:=hz;suffices h:Ok (SG (n:Int) cp pc ev k (c0,s,(n:Int),u)) (SQ i c0 L) from ⟨.inr h,λ_ _=>h⟩
  unfold SG ik jK kV bf bA bH cF dM gz ja jS HR Prod.v Prod.C c_ eR xg Prod.w ck bq bZ kY aH;refine L_ hn hc hs hI (λo=>Ok o (SQ i c0 L)) (λy h=>ak h) _ λe v sy hp hm he hr ha hq=>?_
  let⟨sy0,ce,fu,l⟩:=s;let⟨e1,kd,o,e4,site,ds,fs⟩:=e;have het:=hp.et;dsimp only at hz1 he hr ha hq het;subst het;have vl:=hp.fs.vc.vl;have hce:=hp.fs.ce;have hfu:=hp.fs.fu;dsimp only at hce hfu;let⟨hiN,⟨q1,q2,q3,q4,ce',fu',z,R0,T0⟩,hcp,g1,g2,g3,g4,hpc,hve,hk⟩:=h1 sy0 ce fu l hs (by have:=vl.c;omega) (by have:=vl.f;omega) hz1;dsimp only at g1 g2 g3 g4 hpc hve hk;rw[g1,g2,g3,g4]at hcp;let⟨_,_,nmce,_,_,_,nmfu,_,_,_⟩:=id he.nm;have t1:(n:Int)<(l! c0.2:Int):=hp.t1;have htf:TF (geti Af c0.2 (n:Int)) (geti fB l (n:Int)):=hp.fs.t n (by omega);have hA:=hp.a;have hB:=hp.b;dsimp only at hA hB;have hvt:=hp.fs.vc.t _ (bM (T:=Af) (xs:=c0.2) (j:=(n:Int)) (by omega) t1);have hci:=hc.ins _ (bM (T:=Af) (xs:=c0.2) (j:=(n:Int)) (by omega) t1);have hth:TH (FQ L (n:Int)) i (geti fB l (n:Int)):=hs.t n (by dsimp only;omega);have done:=apu hn hs hI hp hm he hr ha;have htg:=hm.tg;have hrun:=hr.r;dsimp only at done htg;have hgv:kd=3\/kd=23->FQ (L++[((n:Int),kd,o,e4,site,ds,fs)]) (n:Int) (geti fB l (n:Int)).2.2.2:=λh3=>by
   have D:=hrun (by omega) (by omega);have hn0:¬l! (fl L (n:Int))=0:=λh=>(htg.nw h).elim (λg=>cq (D.symm.trans g) (by decide)) λg=>cq (D.symm.trans g) (by decide)
   refine ⟨by rw[htg.ev];omega,Pe.last (e:=((n:Int),kd,o,e4,site,ds,fs)) ?_ htg.ev⟩;unfold rdE;rcases h3 with h|h
   .rw[aU h];rfl
   .simp[h]
  have vaA:¬kd=3->¬kd=23->¬kd=5->VA c0.1 sy0 ce fu (n:Int) kd o v:=λa b c=>⟨λh=>(a h).elim,λh=>(b h).elim,λh=>(c h).elim,λ_ _ _ _ _=>by rw[XW hq]⟩
  have apA:(pV c0.1 sy0 (n:Int) kd o v).1=sy:=by rw[XW hq]
  have apB:¬kd=18->∀v',(pV c0.1 sy0 (n:Int) kd o v').1=sy:=λh v'=>by rw[adb _ _ _ _ _ _ u h,<-hq]
  have keep:∀x∈(geti fB l (n:Int)).2.2.1,TL (FQ (L++[((n:Int),kd,o,e4,site,ds,fs)]) (n:Int)) (i+1) x:=λx hx=>(hth.l x hx).mono (by omega) λy hy=>⟨hy.1,hy.2.app _⟩
  clear g3 g4 hm hI hrun htg;revert done hgv keep;generalize FQ (L++[((n:Int),kd,o,e4,site,ds,fs)]) (n:Int)=F;generalize geti fB l (n:Int)=th at hcp hpc hve htf hA hB hth ⊢;intro done hgv keep;refine be hcp ?_;dsimp only;rw[hpc,hve];refine qU (aU rfl) ?_;refine aO (by omega) t1 (aS (aO htf.p0 htf.p1 (aS ?_)));have htz:l! th.2.2.1=l! th.2.1:=by have:=htf.r;have:=htf.t;omega
  have fin:∀(p:Int) (A:η) (T:Y η),l! A=l! th.2.1->l! T=l! th.2.2.1->(∀x∈T,TL F (i+1) x)->Ok (oG (geti Af c0.2 (n:Int),(p,A,T,bm .i64 (th.2.2.2+1)))) λy=>TH F (i+1) y.1/\(l! y.1.2.1=0\/y.1.2.2.2=bm .i64 (th.2.2.2+1)):=λp A T h1 D h3=>by
   have a1:=hth.e0;have a2:=hth.e1;have a3:=hth.r;have a4:=hth.t;rw[iQ (n:=th.2.2.2+1) (by omega) (by omega)];exact ag6 (i+1) hn _ hci hvt _ ⟨by dsimp only;omega,by dsimp only;omega,h3,by dsimp only;omega,by dsimp only;omega⟩
  have mark:kd=3\/kd=23->∀j:Int,∀x∈cg th.2.2.1 j [th.2.2.2],TL F (i+1) x:=λh3 j x hx=>by
   rcases FP hx with h|h
   .exact keep x h
   .rw[h];exact⟨⟨λy hy=>(by cases hy),trivial⟩,λy hy=>by rw[aE]at hy;have:=hth.e0;have:=hth.e1;rw[hy];exact⟨by omega,by omega⟩,λy hy=>by rw[aE]at hy;rw[hy];exact hgv h3⟩
  have nopark:TH F (i+1) (th.1,th.2.1,th.2.2.1,bm .i64 (th.2.2.2+1)):=by
   have a1:=hth.e0;have a2:=hth.e1;rw[iQ (n:=th.2.2.2+1) (by omega) (by omega)];exact⟨hth.r,hth.t,keep,by dsimp only;omega,by dsimp only;omega⟩
  clear hp hs hc h0 h1 hcp g1 g2 hr ha hq he;generalize (geti sJ (geti Af c0.2 (n:Int)).2 th.1)=ins at hA hB ⊢;rcases kdx kd with rfl|rfl|rfl|rfl|rfl|rfl|rfl|rfl|⟨k1,k2,k3,k4,k5,k6,k7,k8⟩
  case inr.inr.inr.inr.inr.inr.inr.inr=>
   simp only[k1,k2,k3,k4,k5,k6,k7,k8,bF,em,QZ];refine hk F _ _ _ _ _ _ _ _ _ _ _ _ _ (λ_ _=>fin _ _ _ rfl rfl keep) (λh=>by rw[k2,k3]at h;exact (h.elim id id).elim) (λt' h g=>?_) t1 _;exact done v ce fu t' apA (vaA (of_eq_false k4) (of_eq_false k5) (of_eq_false k8)) (av (of_eq_false k6)).symm (av (of_eq_false k7)).symm h (g.imp id λh=>⟨h.1,λD=>(of_eq_false k2 D).elim⟩)
  all_goals simp only[bF,em,QZ]
  .refine hk F _ _ _ _ _ _ _ _ _ _ _ _ _ (λ_ _=>fin _ _ _ rfl rfl keep) (λh=>by omega) (λt' h g=>?_) t1 _;exact done v ce fu t' apA (vaA (by decide) (by decide) (by decide)) rfl rfl h (g.imp id λh=>⟨h.1,nofun⟩)
  .refine hk F _ _ _ _ _ _ _ _ _ _ _ _ _ (λh _=>(h rfl).elim) (λ_=>nopark) (λt' h g=>?_) t1 _;exact done v ce fu t' apA (vaA (by decide) (by decide) (by decide)) rfl rfl h g
  .refine hk F _ _ _ _ _ _ _ _ _ _ _ _ _ (λ_ h=>(h rfl).elim) (λ_=>nopark) (λt' h g=>?_) t1 _;exact done v ce fu t' apA (vaA (by decide) (by decide) (by decide)) rfl rfl h (g.imp id λh=>⟨h.1,nofun⟩)
  .obtain⟨o0,o1⟩:=nmce (.inl rfl);rw[<- hce]at o1;let⟨a0,a1⟩:=hA (.inl rfl);have a2:ins.2.1<(l! th.2.2.1:Int):=by rw[htz];exact a1
   refine ie (aO o0 o1 (aO o0 o1 (ak ?_)));simp only[bF,em,QZ];refine ie (aO a0 a1 (aO a0 a1 (aO a0 a2 (aO a0 a2 (ak ?_)))));refine hk F _ _ _ _ _ _ _ _ _ _ _ _ _ (λ_ _=>fin _ _ _ (bS ..) (bS ..) (mark (.inl rfl) _)) (λh=>by omega) (λt' h g=>?_) t1 _;exact done _ ce fu t' (apB (by decide) _) ⟨λ_=>rfl,nofun,nofun,λh=>(h rfl).elim⟩ rfl rfl h (g.imp id λh=>⟨h.1,nofun⟩)
  .obtain⟨o0,o1⟩:=nmfu (.inr rfl);rw[<- hfu]at o1;let⟨a0,a1⟩:=hA (.inr (.inl rfl));have a2:ins.2.1<(l! th.2.2.1:Int):=by rw[htz];exact a1
   refine ie (aO o0 o1 (aO o0 o1 (ak ?_)));simp only[bF,em,QZ];refine ie (aO a0 a1 (aO a0 a1 (aO a0 a2 (aO a0 a2 (ak ?_)))));refine hk F _ _ _ _ _ _ _ _ _ _ _ _ _ (λ_ _=>fin _ _ _ (bS ..) (bS ..) (mark (.inr rfl) _)) (λh=>by omega) (λt' h g=>?_) t1 _;exact done _ ce fu t' (apB (by decide) _) ⟨nofun,λ_=>rfl,nofun,λ_ h=>(h rfl).elim⟩ rfl rfl h (g.imp id λh=>⟨h.1,nofun⟩)
  .obtain⟨o0,o1⟩:=nmce (.inr rfl);rw[<- hce]at o1;let⟨a0,a1⟩:=hB (.inl rfl);refine ie (aO a0 a1 (aO a0 a1 (aO o0 o1 (aO o0 o1 (ak ?_)))));simp only[bF,em,QZ];refine hk F _ _ _ _ _ _ _ _ _ _ _ _ _ (λ_ _=>fin _ _ _ rfl rfl keep) (λh=>by omega) (λt' h g=>?_) t1 _;exact done _ _ fu t' (apB (by decide) _) ⟨nofun,nofun,nofun,λ_ _ _ h=>(h rfl).elim⟩ rfl rfl h (g.imp id λh=>⟨h.1,nofun⟩)
  .obtain⟨o0,o1⟩:=nmfu (.inl rfl);rw[<- hfu]at o1;let⟨a0,a1⟩:=hB (.inr rfl);refine ie (aO a0 a1 (aO a0 a1 (aO o0 o1 (aO o0 o1 (ak ?_)))));simp only[bF,em,QZ];refine hk F _ _ _ _ _ _ _ _ _ _ _ _ _ (λ_ _=>fin _ _ _ rfl rfl keep) (λh=>by omega) (λt' h g=>?_) t1 _;exact done _ ce _ t' (apB (by decide) _) ⟨nofun,nofun,nofun,λ_ _ _ _ h=>(h rfl).elim⟩ rfl rfl h (g.imp id λh=>⟨h.1,nofun⟩)
  .obtain⟨a0,a1⟩:=hA (.inr (.inr rfl));refine ie (aO a0 a1 (aO a0 a1 (aL (λ_=>ak ?_) λ_=>ak ?_)));all_goals
    simp only[bF,em,QZ];refine hk F _ _ _ _ _ _ _ _ _ _ _ _ _ (λ_ _=>fin _ _ _ rfl rfl keep) (λh=>by omega) (λt' h g=>?_) t1 _;exact done _ ce fu t' (apB (by decide) _) ⟨nofun,nofun,λ_=>(by decide),λ_ _ h=>(h rfl).elim⟩ rfl rfl h (g.imp id λh=>⟨h.1,nofun⟩)
 .refine ⟨?_,λh1 D=>(hz ⟨h1,D⟩).elim⟩;unfold SG ik jK kV bf bA bH cF dM gz ja jS HR Prod.v Prod.C c_ eR xg Prod.w ck bq bZ kY aH;refine L_ hn hc hs hI (λo=>OkN o (SQ i c0 L)) (λy h=>.inr (ak h)) _ λe v sy hp _ _ _ _ _=>.inl ?_
  let⟨sy0,ce,fu,l⟩:=s;have vl:=hp.fs.vc.vl;by_cases hl:l! l=N
  .have ht:¬t=(n:Int):=λh=>hz ⟨hl,h⟩
   dsimp only;cases cp (sy0,ce,fu,l) with
   |none=>rfl
   |some y=>rw[obs,dc ht];rfl
  .show aA (cp (sy0,ce,fu,l)) _=U;rw[h0 sy0 ce fu l (by have h1:l! l=l! c0.2:=hp.fs.th;have:=hp.fs.vc.tl;have:=vl.t;omega) hl];rfl
def aze {W V:Type} {c0:CT} {l:Y TT} {z:R} {t1:R->η->Y η->W} {t2:W->V} {t3:V->TT->Y TT} (h3:∀A T D,t3 (t2 (t1 z A T)) D=l.set i D):KR j c0 k i a l z (KG (i:Int) t1 t2 t3):=by
 intro F p sy kd o v si ds fs ce fu A T ev fin park done ht pc;unfold KG ik bf bA bH cF dM gz ja jS HR Prod.v vn bq jP bZ aH cS;have done:∀D,TH F (j+1) D->(l! D.2.1=0\/D.2.2.2=bm .i64 (ev+1)/\(kd=16->D.1=p))->SQ j c0 k ((sy,ce,fu,t3 (t2 (t1 z A T)) D),((i:Int),kd,o,v,si,ds,fs),J):=λD h g=>by grind
 by_cases h1:kd=16
 .subst h1;exact ie (ie (j8 rfl (ak (j8 rfl (ak (qU (aU rfl) (ak (done _ (park (.inl rfl)) (.inr ⟨rfl,λ_=>rfl⟩)))))))))
 by_cases h2:kd=2
 .subst h2;exact ie (ie (qU rfl (ak (j8 rfl (ak (qU (aU rfl) (ak (done _ (park (.inr rfl)) (.inr ⟨rfl,nofun⟩)))))))))
 rw[dc h1,dc h2];exact ie (ie (qU rfl (ak (qU rfl (aO (fd i) ht (aS (ay (fin h1 h2) λy hy=>ak (qU (aU rfl) (ak (done _ hy.1 (hy.2.imp id λh=>⟨h,λh2=>(h1 h2).elim⟩)))))))))))
def SOx (n:Nat) (z:CT) (L:Y ET) (s:ST) (t u:Int) (N i:Nat) (f:CT×ST×j?->M D!):Prop:=OkN (f (z,s,t,u)) (SQ n z L)/\(l! s.2.2.2=N->t=(i:Int)->Ok (f (z,s,t,u)) (SQ n z L))
def ali (D:i+1<=100000) (z:CT) (L:Y ET) (s:ST) (t u:Int) (hc:CB z) (A:SV i L s) (hI:SIv z L s):SOx i z L s t u 4 0 qZ/\SOx i z L s t u 4 1 qY/\SOx i z L s t u 4 2 oF/\SOx i z L s t u 4 3 mM/\SOx i z L s t u 3 0 lH/\SOx i z L s t u 3 1 kC/\SOx i z L s t u 3 2 jD/\SOx i z L s t u 2 0 iB/\SOx i z L s t u 2 1 gV/\SOx i z L s t u 1 0 gW:=by
 refine ⟨EB 4 0 (cp:=uf) D z L s t u hc A hI ?_ ?_,EB 4 1 (cp:=ue) D z L s t u hc A hI ?_ ?_,EB 4 2 (cp:=ud) D z L s t u hc A hI ?_ ?_,EB 4 3 (cp:=uc) D z L s t u hc A hI ?_ ?_,EB 3 0 (cp:=ui) D z L s t u hc A hI ?_ ?_,EB 3 1 (cp:=uh) D z L s t u hc A hI ?_ ?_,EB 3 2 (cp:=ug) D z L s t u hc A hI ?_ ?_,EB 2 0 (cp:=uk) D z L s t u hc A hI ?_ ?_,EB 2 1 (cp:=uj) D z L s t u hc A hI ?_ ?_,EB 1 0 (cp:=ul) D z L s t u hc A hI ?_ ?_⟩;all_goals
  intro sy ce fu l;first|unfold uf bf c_ bU bT bZ aZ|unfold ue bf c_ bU bT bZ aZ|unfold ud bf c_ bU bT bZ aZ|unfold uc bf c_ bU bT bZ aZ|unfold ui bf c_ bU bT bZ aZ|unfold uh bf c_ bU bT bZ aZ|unfold ug bf c_ bU bT bZ aZ|unfold uk bf c_ bU bT bZ aZ|unfold uj bf c_ bU bT bZ aZ|unfold ul bf c_ bU bT bZ aZ
  rcases l with _|⟨a,_|⟨b,_|⟨c,_|⟨d,_|⟨e,l⟩⟩⟩⟩⟩;all_goals first
  |intro h h0
   first|(simp at h0;done)|(exfalso;simp only[kn]at h;omega)|simp[gD,YR,akr,anw,bcT,bcF]
   done
  |intro h hce hfu hl
   first|(simp at hl;done)|(exfalso;simp only[kn]at hl;omega)|skip
   have hE:=h.sb.n1;refine ⟨by decide,be (adq sy h.sb) (a! (a! (qU rfl (bt rfl (aS (be (Ai a i hE (h.t 0 (by simp))) ?_))))))⟩;try refine qU rfl (bt rfl (aS (be (Ai b i hE (h.t 1 (by simp))) ?_)))
   try refine qU rfl (bt rfl (aS (be (Ai c i hE (h.t 2 (by simp))) ?_)))
   try refine qU rfl (bt rfl (aS (be (Ai d i hE (h.t 3 (by simp))) ?_)))
   exact j8 rfl (ak ⟨rfl,rfl,rfl,rfl,rfl,rfl,aze λR T t'=>rfl⟩)
def ag4 {n:Nat} (hn:n+1<=100000) (c:CT) (L:Y ET) (s:ST) (t u:Int) (hc:CB c) (hs:SV n L s) (hI:SIv c L s):Ok (Dk (c,s,t,u)) (SQ n c L):=by
 unfold Dk;let⟨a40,D,A,z,a30,a31,a32,a20,a21,a10⟩:=ali hn c L s t u hc hs hI;by_cases hz:l! s.2.2.2<=4/\0<=t/\t<(l! s.2.2.2:Int)
 .obtain⟨h1,h2,h3⟩:=hz;have:(l! s.2.2.2=4/\t=0)\/(l! s.2.2.2=4/\t=1)\/(l! s.2.2.2=4/\t=2)\/(l! s.2.2.2=4/\t=3)\/(l! s.2.2.2=3/\t=0)\/(l! s.2.2.2=3/\t=1)\/(l! s.2.2.2=3/\t=2)\/(l! s.2.2.2=2/\t=0)\/(l! s.2.2.2=2/\t=1)\/(l! s.2.2.2=1/\t=0):=by omega
  rcases this with h|h|h|h|h|h|h|h|h|h;all_goals first|exact (a40.2 h.1 h.2).orL|refine a40.1.orR ?_
  all_goals first|exact (D.2 h.1 h.2).orL|refine D.1.orR ?_
  all_goals first|exact (A.2 h.1 h.2).orL|refine A.1.orR ?_
  all_goals first|exact (z.2 h.1 h.2).orL|refine z.1.orR ?_
  all_goals first|exact (a30.2 h.1 h.2).orL|refine a30.1.orR ?_
  all_goals first|exact (a31.2 h.1 h.2).orL|refine a31.1.orR ?_
  all_goals first|exact (a32.2 h.1 h.2).orL|refine a32.1.orR ?_
  all_goals first|exact (a20.2 h.1 h.2).orL|refine a20.1.orR ?_
  all_goals first|exact (a21.2 h.1 h.2).orL|refine a21.1.orR ?_
  exact a10.2 h.1 h.2
 .refine Ok.orL ?_;unfold qZ bf bA eR;refine L_ hn hc hs hI (λo=>Ok o (SQ n c L)) (λy h=>ak h) _ λe v sy hp _ _ _ _ _=>(hz ?_).elim
  have h1:l! s.2.2.2=l! c.2:=hp.fs.th;have h2:l! c.2=l! c.1.2.2.2.2.1:=hp.fs.vc.tl;have h3:l! c.1.2.2.2.2.1<=4:=hp.fs.vc.vl.t;have h4:0<=t:=hp.t0;have h5:t<(l! c.2:Int):=hp.t1;exact⟨by omega,h4,by omega⟩
def aog (c:CT) (s:ST) (l:Y ν) (hc:CB c) (hs:SV 0 [] s) (hI:SIv c [] s) (hl:l.length<=9223372036854775806):Ok (yS (c,s,l)) λy=>y.1.length<=400/\(∀e∈y.1,R2 c.1 e/\EvS e)/\∃sy ce fu,Acw c.1 y.1 sy ce fu:=by
 unfold yS bf bA eR bU bT bZ aZ c5 aH cS;refine rH (λx=>((l.length:Int)-x.1).toNat) (λx=>0<=x.1/\x.2.2.1=c/\SV x.2.1.length x.2.1 x.2.2.2.1/\SIv c x.2.1 x.2.2.2.1/\x.2.1.length<=400/\∀e∈x.2.1,R2 c.1 e/\EvS e) ?_ ⟨dx _,rfl,hs,hI,by simp,λe he=>(by cases he)⟩;rintro⟨(i:Int),es,A,s',z⟩ ⟨i0,e1,e2,eI,L,D⟩;subst e1;refine aY (λx=>x.2=(es,A,s',z)/\(x.1=J->i<(l.length:Int)/\es.length<400)) ?_ ?_
 .refine bN (λg=>ak ⟨rfl,λh=>⟨g,?_⟩⟩) λ_=>ak ⟨rfl,nofun⟩
  rw[r7]at h
  grind
 rintro⟨b,x⟩ ⟨f1,f2⟩;subst f1;refine aP (λh=>?_) λ_=>ak ⟨L,D,_,_,_,eI.ac⟩
 let⟨g1,g2⟩:=f2 h;refine aY (λx=>x.2.1=A/\SV x.1.length x.1 x.2.2.1/\SIv A x.1 x.2.2.1/\x.1.length<=400/\∀e∈x.1,R2 A.1 e/\EvS e) ?_ ?_
 .refine aO i0 g1 (aS ?_);refine ay (ag4 (n:=es.length) (by omega) A es s' _ _ hc e2 eI) λy hy=>?_
  refine aP (λh=>?_) λ_=>ak ⟨rfl,e2,eI,L,D⟩
  let⟨h1,hJ,h2,h3⟩:=hy h;refine bO (by grind) (by omega) (ak ⟨rfl,?_,hJ,by simp;omega,λe he=>?_⟩)
  .grind
  .grind
 rintro⟨es',c2,s2,z2⟩ ⟨k1,k2,kI,k3,k4⟩;refine ak ?_;rw[iQ (n:=i+1) (by omega) (by omega)]
 grind
def CB.vc {c:CT} (z:CB c):VC c:=by
 let⟨b,h1,A⟩:=X6 c z.th z.ins;rw[z.ok]at h1;cases h1;exact A rfl
def auf (c:CT) (l:Y ν) (z:CB c) (hl:l! l<=9223372036854775806):Ok (Gg (c,l)) λy=>TR y.1:=by
 refine be z.ok (eQ nofun λ_=>?_);have D:=z.vc;refine ay (aan c z.ok D) λs L=>?_
 refine ay (aog c s l z L.1 L.2 hl) λy A=>ak ?_
 exact⟨D.vl.wb,D.vl,λe he=>(A.2.1 e he).1,by have:=A.1;dsimp only;omega,λe he=>(A.2.1 e he).2,z.wx,A.2.2⟩
def aau (l:η) (A:l! l<=1000000):Ok (tQ l) λy=>l! y=l! l:=by
 refine cA (l! l) (λi x=>x.1=(i:Int)/\l! x.2=i) ?_ ?_ ⟨rfl,rfl⟩
 .rintro i ⟨a,b⟩ hi ⟨z,e2⟩;subst z;refine dJ ?_;refine cE (aS (cE (aS (bO (by grind) (by omega) (ak ?_)))));exact⟨iG,by simp;omega⟩
 .rintro⟨a,b⟩ ⟨z,e2⟩;exact dC (ak e2)
def gp (e:Xp):eL (Xp.op e,Xp.n e,Xp.name e,Xp.l e)=e:=by cases e;rfl
def Ca (s:Sx):o8 (Sx.op s,Sx.line s,Sx.name s,Sx.arg s,Sx.index s,Sx.expr s,Sx.body s,Sx.els s)=s:=by cases s;rfl
abbrev NV:Y ζ:=[[97],[98],[120],[121],[118]]
def GE:Nat->Xp->Prop
 |0,_=>False
 |d+1,e=>(e.op=3->e.name=[113])/\(e.op≠1->e.op≠2->1<=l! e.l)/\l! e.l<=2/\(∀x∈e.l,GE d x)/\(e.op=2->e.name∈NV)/\(e.op≠1->e.op≠2->e.op≠3->2<=l! e.l/\6<=e.op/\e.op<=18)
def GE.mono:∀{d:Nat} {e:Xp},GE d e->GE (d+1) e
 |0,_,h=>h.elim
 |_+1,_,h=>⟨h.1,h.2.1,h.2.2.1,λx z=>(h.2.2.2.1 x z).mono,h.2.2.2.2⟩
def GE.le {e:Xp} (h:GE i e) (A:i<=j):GE j e:=by
 induction A with
 |refl=>exact h
 |step _ z=>exact z.mono
def SA (n:Int):tu n=Z (.mk 1 n [] []):=rfl
def LK (s:ζ):qP s=Z (.mk 2 0 s []):=rfl
def I9 (o:Int) (a b:Xp):o7 (o,a,b)=Z (.mk o 0 [] [a,b]):=by
 cases a;cases b;rfl
def vN (s:ζ) (e:Xp):kw (s,e)=Z (.mk 1 0 s [] [] e [] []):=by
 cases e;rfl
abbrev MK:Type:=U?
abbrev Uu:Type:=o!
abbrev HD:Type:=Bool×Y ζ
def GE.num (n:Int) (d:Nat):GE (d+1) (.mk 1 n [] []):=⟨nofun,λh=>(h rfl).elim,by simp[Xp.l],λx z=>(by cases z),nofun,λh=>(h rfl).elim⟩
def GE.nm {s:ζ} (A:s∈NV) (d:Nat):GE (d+1) (.mk 2 0 s []):=⟨nofun,λ_ h=>(h rfl).elim,by simp[Xp.l],λx z=>(by cases z),λ_=>A,λ_ h=>(h rfl).elim⟩
def GE.bin {o b:Xp} (A:6<=a/\a<=18) (L:GE i o) (D:GE i b):GE (i+1) (.mk a 0 [] [o,b]):=
 ⟨λh=>(by have h:a=3:=h;omega),λ_ _=>by simp[Xp.l],by simp[Xp.l],λx z=>by
   simp[Xp.l,aV,b7,fk]at z;rcases z with rfl|rfl
   .exact L
   .exact D,λh=>(by have h:a=2:=h;omega),λ_ _ _=>⟨by simp[Xp.l],A⟩⟩
def GE.ix {a:Xp} (A:GE i a):GE (i+1) (.mk 3 0 [113] [a]):=
 ⟨λ_=>rfl,λ_ _=>by simp[Xp.l],by simp[Xp.l],λx z=>by
   simp[Xp.l,aV,b7,fk]at z;rw[z];exact A,nofun,λ_ _ h=>(h rfl).elim⟩
def GZ:∀(n d:Nat),d<n->d<=10->∀(m:MK) (t:Uu) (h:HD),TP t->Ok (mC n ((d:Int),m,t,h)) λy=>GE (d+1) y.1/\y.2.1=m/\xa t y.2.2.1/\y.2.2.2=h
 |0,d,hd,_,_,_,_,_=>by omega
 |n+1,d,hd,h10,m,t,h,ht=>by
  refine ay (gM 10 t ht) λy A=>?_
  let⟨k,t1⟩:=y;let⟨L,k0,k1,_⟩:=A;refine aY (λx=>x.2=(m,t1,h,(0,0,[]),[[97],[98],[120],[121],[118],[120],[121]])/\(x.1=af->2<=k/\(d=0->k<7))) ?_ ?_
  .refine bN (λ_=>ak ⟨rfl,nofun⟩) λg=>aL (λg2=>ak ⟨rfl,λg3=>⟨g,λ_=>?_⟩⟩) λg2=>ak ⟨rfl,λ_=>⟨g,λh=>(g2 (by omega)).elim⟩⟩
   rw[nF]at g3;exact g3
  rintro⟨b,x⟩ ⟨e,hb⟩;dsimp only at e hb;subst e;refine aP (λ_=>?_) λg=>?_
  .refine ay (gM 4 t1 L.p) λy A=>?_
   refine be (SA _) (ak ?_);exact⟨GE.num _ _,rfl,L.trans A.1,rfl⟩
  let⟨q0,q1⟩:=hb g;refine bN (λg=>?_) λg=>?_
  .refine ay (gM _ t1 L.p) λy A=>?_
   let⟨u1,u2,D,_⟩:=A;have D:=D (show (1:Int)<=7 by decide);refine aO u2 D (aO u2 D (aS ?_));refine be (LK _) (ak ?_);have hnv:∀z∈([[97],[98],[120],[121],[118],[120],[121]]:Y ζ),z∈NV:=by decide
   exact⟨GE.nm (hnv _ (bM (T:=.str) u2 D)) _,rfl,L.trans u1,rfl⟩
  dsimp only at g;have hd0:d≠0:=λh=>by omega
  obtain⟨d,rfl⟩:∃k,d=k+1:=⟨d-1,by omega⟩
  refine aL (λg=>?_) λg=>?_
  .refine ay (GZ n 0 (by omega) (by omega) m t1 h L.p) λy A=>?_
   let⟨e,m',t',h'⟩:=y;let⟨v1,v2,v3,v4⟩:=A;subst v2 v4;refine bt (by simp) (ak ?_);dsimp only;rw[gp];exact⟨(GE.ix (v1.le (by omega):GE (d+1) e)),rfl,L.trans v3,rfl⟩
  .refine ay (gM _ t1 L.p) λy A=>?_
   let⟨k2,t2⟩:=y;let⟨u1,u2,D,_⟩:=A;have D:=D (by decide);refine aO u2 D (aO u2 D (aS ?_));have ho:(6:Int)<=geti aM [6,7,8,11,13,17] k2/\geti aM [6,7,8,11,13,17] k2<=(18:Int):=by
    have h1:=bM (T:=aM) (xs:=([6,7,8,11,13,17]:η)) u2 D
    grind
   have ew:bm .i64 (((d+1:Nat):Int)-1)=(d:Int):=by rw[iQ];omega
   dsimp only;rw[ew];refine ay (GZ n d (by omega) (by omega) m t2 h u1.p) λy A=>?_
   let⟨e,m',t',h'⟩:=y;let⟨v1,v2,v3,v4⟩:=A;subst v2 v4;refine bt (by simp) ?_;refine ay (GZ n d (by omega) (by omega) m' t' h' v3.p) λy A=>?_
   let⟨e2,m2,t2',h2⟩:=y;let⟨w1,w2,w3,w4⟩:=A;subst w2 w4;refine bt (by simp) ?_;refine be (I9 _ _ _) (ak ?_);dsimp only;rw[gp];exact⟨GE.bin ho v1 w1,rfl,L.trans (u1.trans (v3.trans w3)),rfl⟩
def air (d:Nat) (hd:d<=10) (m:MK) (t:Uu) (h:HD) (ht:TP t):Ok (fK ((d:Int),m,t,h)) λy=>GE (d+1) y.1/\y.2.1=m/\xa t y.2.2.1/\y.2.2.2=h:=GZ fuel d (by rw[lh];omega) hd m t h ht
end
end Go.Proofs.YtpjhicegjenpeaaGreatDoor.AI
