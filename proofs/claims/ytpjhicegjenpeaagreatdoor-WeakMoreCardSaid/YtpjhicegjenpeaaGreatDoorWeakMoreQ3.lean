/-
  Texts of the proof, part 4 of 6: what is used to prove the statement. No condition.
-/
import Derived.Test.YtpjhicegjenpeaaGreatDoorWeakMoreQ2
import Derived.KernelRfl
namespace Go.Proofs.YtpjhicegjenpeaaGreatDoor.AI
open Go.RowKit
set_option maxRecDepth 100000
set_option maxHeartbeats 4000000
set_option linter.unusedVariables false
set_option linter.unusedSimpArgs false
set_option linter.defProp false
open _root_.Bool renaming true→J,false→af,false_or→FH
open _root_.Int renaming ofNat_eq_natCast→ay,toNat→aN,ofNat→aQ,toNat_natCast→bh,reduceEq→bI,reduceNeg→ey,le_trans→xv,natCast_zero→FC
open _root_.List renaming length→l!,length→aj,replicate→aC,length_singleton→cq,take→dx,range→eA,map→gM,cons_append→gR,length_cons→kn,getElem?_concat_length→n_,length_nil→pK,set→sI,append→sV,nodup_cons→uG,replicate_succ→yE,foldl_cons→Aq,drop_eq_getElem_cons→Q1
open _root_.Nat renaming beq→ax,add_zero→dK,blt→eE
open _root_.Option renaming some→Z,none→U,getD_some→sH
open _root_.Prod renaming a→bf,b→bw,c→bH,d→cE,e→c8,f→dJ,h→dQ,g→eD,i→gf,n→hY,k→hZ,j→iK,o→iR,m→ji,l→kl,ext→sG,r→vu,q→wW,p→xm,y→HX,s→Pu
open _root_.Sum renaming inr→b7,inl→oU
noncomputable section
def Yn:Ok (lP ()) λl=>l! l=22:=by
 unfold lP;with_reducible repeat' first|apply OS.ok;constructor|refine IM.mk λ_=>?_
 all_goals rfl
def UP (s:ζ):Ok (mq s) λ_=>True:=by
 refine aA Yn λl z=>?_
 refine cD (l! l) (λi x=>x=(i:Int)) ?_ ?_ rfl
 .rintro i x hi rfl;with_reducible repeat' first|apply OS.ok;constructor|refine IM.mk λ_=>?_
  all_goals try simp[ay,ua] at*
  all_goals first|omega|exact ig
 .rintro x rfl;with_reducible repeat' first|apply OS.ok;constructor|refine IM.mk λ_=>?_
  all_goals try simp[ay,ua] at*
  all_goals omega
def Se (c:Int):Ok (mO c) λ_=>True:=by
 unfold mO kY aH;with_reducible repeat' first|apply OS.ok;constructor|refine IM.mk λ_=>?_
 all_goals exact trivial
def ajy (c:Int):Ok (qP c) λ_=>True:=by
 unfold qP s_ kY aH;refine ij (aA (Se c) λ_ _=>?_);with_reducible repeat' first|apply OS.ok;constructor|refine IM.mk λ_=>?_
 all_goals try exact trivial
 refine aA (P:=λ_=>True) ?_ λ_ _=>?_
 .with_reducible repeat' first|apply OS.ok;constructor|refine IM.mk λ_=>?_
  all_goals exact trivial
 .with_reducible repeat' first|apply OS.ok;constructor|refine IM.mk λ_=>?_
  all_goals exact trivial
def i_ (s:ζ):Ok (fZ s) λ_=>True:=by
 refine aX (λb=>b=af->l! s<=12) ?_ ?_
 .with_reducible repeat' first|apply OS.ok;constructor|refine IM.mk λ_=>?_
  .grind
  .grind
  .omega
  .grind
  refine aA (Se _) λ_ _=>?_
  with_reducible repeat' first|apply OS.ok;constructor|refine IM.mk λ_=>?_
  .grind
  refine aA (UP _) λ_ _=>ak λ_=>?_
  grind
 .rintro b z;refine aP (λ_=>ak trivial) λh=>?_
  have z:=z h;refine cD (l! s) (λi x=>x=(i:Int)) ?_ ?_ rfl
  .rintro i x hi rfl;with_reducible repeat' first|apply OS.ok;constructor|refine IM.mk λ_=>?_
   all_goals try simp[ay,ua] at*
   all_goals first|omega|skip
   refine aA (ajy _) λ_ _=>?_
   with_reducible repeat' first|apply OS.ok;constructor|refine IM.mk λ_=>?_
   .exact trivial
   .exact ig
  .rintro x rfl;with_reducible repeat' first|apply OS.ok;constructor|refine IM.mk λ_=>?_
   all_goals try simp[ay,ua] at*
   all_goals first|omega|exact trivial
def BS (l:Y ζ) (s:ζ) (D:l! l<=1000000000):Ok (ku (l,s)) λr=> -1<=r/\r<l! l/\(0<=r->geti (.str) l r=s)/\(r<0->s∉l):=by
 refine cD (l! l) (λi x=>x=(i:Int)/\∀k:Nat,k<i->geti (.str) l (k:Int)≠s) ?_ ?_ ⟨rfl,λk A=>by omega⟩
 .rintro i x hi ⟨rfl,z⟩;with_reducible repeat' first|apply OS.ok;constructor|refine IM.mk λ_=>?_
  all_goals try simp[ay,ua] at*
  all_goals first|omega|skip
  .grind
  .refine ⟨ig,λk A=>?_⟩
   grind
 .rintro x ⟨rfl,z⟩;with_reducible repeat' first|apply OS.ok;constructor|refine IM.mk λ_=>?_
  all_goals try simp only[ay,ua] at*
  all_goals first|omega|skip
  exact⟨by omega,by omega,λh=>by omega,λ_ h=>iY (T:=.str) (p:=λc=>c≠s) z s h rfl⟩
structure VL (w:WT):Prop where
 c:l! w.1<=12
 l:l! w.2.1<=4
 d:l! w.2.2.1<=2
 f:l! w.2.2.2.1<=2
 t0:1<=l! w.2.2.2.2.1
 t:l! w.2.2.2.2.1<=4
 s:l! w.2.2.2.2.2<=60
def aj8 (w:WT) (h:VL w):Ok (qL w) λy=>l! y.1<=100:=by
 let⟨D,w2,w3,w4,w5,w6⟩:=w;let⟨h1,h2,h3,h4,_,h5,h6⟩:=h;dsimp only at*
 unfold qL bf bw bH cE eD xm bn bU jQ bR bY aZ c7 aH cV;refine rI (λx=>((l! D:Int)-x.1).toNat) (λx=>x.2.1=(D,w2,w3,w4,w5,w6)/\0<=x.1/\x.1<=(l! D:Int)/\(l! x.2.2:Int)<=x.1) ?_ ⟨rfl,by simp,by simp,by simp⟩;rintro⟨x1,x2,x3⟩ ⟨e,g1,g2,g3⟩;dsimp only at e g1 g2 g3;subst e;refine bQ (λg4=>?_) λg4=>?_
 .dsimp only[ay]at g4;refine aX (λx=>x.2.1=(D,w2,w3,w4,w5,w6)/\x1<x.1/\x.1<=(l! D:Int)/\(l! x.2.2:Int)<=x.1) ?_ ?_
  .refine cH (aT (a! ?_));refine aK (λ_=>?_) λ_=>?_
   .with_reducible repeat' first|apply OS.ok;constructor|refine IM.mk λ_=>?_
    .exact lm _
    .rw[jA];exact⟨rfl,by dsimp only;omega,by dsimp only;omega,by simp;omega⟩
   .generalize hz:geti _ _ x1=z;obtain⟨z1,(z2:Int),(L:Int),z4,z5⟩:=z;dsimp only;refine aX (λx=>x.2=((D,w2,w3,w4,w5,w6),x3++[z1],z1,z2,L,z4,z5)/\(x.1=af->1<=L/\L<=4/\x1+L<=l! D)) ?_ ?_
    .with_reducible repeat' first|apply OS.ok;constructor|refine IM.mk λ_=>?_
     .exact⟨rfl,nofun⟩
     .exact⟨rfl,nofun⟩
     .refine ⟨rfl,λh=>?_⟩;dsimp only[ay] at*
      rw[jA,kg]at h;omega
    .rintro⟨b,y⟩ ⟨e,hb⟩;dsimp only at e hb;subst e;refine aP (λ_=>ak (lm _)) λh=>?_
     let⟨q1,q2,q3⟩:=hb h;refine rI (λx=>(L-x.1).toNat) (λx=>x.2=((D,w2,w3,w4,w5,w6),x3++[z1],z1,z2,L,z4,z5)/\0<=x.1/\x.1<=L) ?_ ⟨rfl,by simp,by dsimp only;omega⟩;rintro⟨k,y⟩ ⟨e,k0,k1⟩;dsimp only at e k0 k1;subst e;refine bQ (λk2=>?_) λk2=>?_
     .dsimp only at k2;have A:bl .i64 (x1+k)=x1+k:=jA;refine aO (by dsimp only;rw[A];omega) (by dsimp only;rw[A];omega) (aT ?_);refine aX (λx=>x.2=((D,w2,w3,w4,w5,w6),x3++[z1],z1,z2,L,z4,z5)) ?_ ?_
      .with_reducible repeat' first|apply OS.ok;constructor|refine IM.mk λ_=>?_
       all_goals rfl
      .rintro⟨b,y⟩ e;dsimp only at e;subst e;refine aP (λ_=>ak (lm _)) λ_=>ak ?_
       dsimp only;rw[jA];exact⟨⟨rfl,by omega,by omega⟩,by omega⟩
     .dsimp only at k2;refine ak ?_;dsimp only;rw[jA];exact⟨rfl,by omega,by omega,by simp;omega⟩
  .rintro⟨y1,y2,y3⟩ ⟨e,g5,g6,g7⟩;dsimp only at e g5 g6 g7;subst e;refine ak ⟨⟨rfl,by dsimp only;omega,g6,g7⟩,?_⟩;dsimp only;omega
 .dsimp only[ay]at g4;refine aA (P:=λy=>l! y.1<=100) ?_ λy hy=>ak hy
  refine cD (l! w2) (λi x=>x.1=(i:Int)/\x.2.1=(D,w2,w3,w4,w5,w6)/\l! x.2.2<=12+i) ?_ ?_ ⟨rfl,rfl,by dsimp only;omega⟩
  .rintro i ⟨a,b,c⟩ hi ⟨A,e2,e3⟩;dsimp only at A e2 e3;subst A e2;with_reducible repeat' first|apply OS.ok;constructor|refine IM.mk λ_=>?_
   all_goals try simp only[ay,ua] at*
   all_goals first|omega|(simp;omega)|skip
   exact⟨ig,by simp;omega⟩
  .rintro⟨a,b,c⟩ ⟨A,e2,e3⟩;dsimp only at A e2 e3;subst A e2;refine bQ (λg4=>(by dsimp only[ay]at g4;omega)) λ_=>?_
   refine aA (P:=λy=>l! y.1<=100) ?_ λy hy=>ak hy
   refine cD (l! w3) (λi x=>x.1=(i:Int)/\x.2.1=(D,w2,w3,w4,w5,w6)/\l! x.2.2<=16+i) ?_ ?_ ⟨rfl,rfl,by dsimp only;omega⟩
   .rintro i ⟨a,b,c⟩ hi ⟨A,e2,e3⟩;dsimp only at A e2 e3;subst A e2;with_reducible repeat' first|apply OS.ok;constructor|refine IM.mk λ_=>?_
    all_goals try simp only[ay,ua] at*
    all_goals first|omega|(simp;omega)|skip
    exact⟨ig,by simp;omega⟩
   .rintro⟨a,b,c⟩ ⟨A,e2,e3⟩;dsimp only at A e2 e3;subst A e2;refine bQ (λg4=>(by dsimp only[ay]at g4;omega)) λ_=>?_
    refine aA (P:=λy=>l! y.1<=100) ?_ λy hy=>ak hy
    with_reducible repeat' first|apply OS.ok;constructor|refine IM.mk λ_=>?_
    all_goals try simp only[ay,ua] at*
    all_goals first|omega|(simp;omega)
def Yx (T:Int) (o:M ν) (s:π):M ν:=
 match o with
 |none=>U
 |some (t,n)=>if s.1=t/\s.2.1=n then Z (t,n+1) else if t<s.1/\s.1<T/\s.2.1=0 then Z (s.1,1) else U
def Py (T:Int) (l:Y π):M ν:=l.foldl (Yx T) (Z (0,0))
def SV0 (w:WT):Prop:=Py (l! w.2.2.2.2.1) w.2.2.2.2.2≠U
variable {i:Nat}
def Mi {T:Int} {l:Y π} (hi:i<l! l):Py T (l.take (i+1))=Yx T (Py T (l.take i)) (geti pW l (i:Int)):=by
 rw[pl (T:=pW) hi];unfold Py;rw[dT];rfl
def U' (T:Int):∀l:Y π,l.foldl (Yx T) U=U
 |[]=>rfl
 |_::r=>U' T r
variable {a:Int}
def abr {l:Y π} (h:Py a l≠U) (i:Nat):Py a (l.take i)≠U:=λz=>h (by
 unfold Py at z ⊢;rw[<- EK i l,dT,z,U'])
def aia {t n:Int} {z:π} (h:Yx a (Z (t,n)) z≠U):Yx a (Z (t,n)) z=Z (z.1,z.2.1+1)/\(z.1=t/\z.2.1=n\/t<z.1/\z.1<a/\z.2.1=0):=by
 unfold Yx at h ⊢
 grind
def ED (w:WT):Ok (iF w) λb=>b=J->VL w/\SV0 w:=by
 unfold iF bf bw bH cE dQ hY bn bU kY jQ bR bY aZ c7 aH cV;refine aX (λx=>x.2=w/\(x.1=af->VL w)) ?_ ?_
 .with_reducible repeat' first|apply OS.ok;constructor|refine IM.mk λ_=>?_
  all_goals first|exact⟨rfl,λh=>(by cases h)⟩|skip
  dsimp only[ay] at*
  refine ⟨rfl,λh=>?_⟩;rw[kg]at h;constructor<;>omega
 rintro⟨b,x⟩ ⟨e,hb⟩;dsimp only at e hb;subst e;refine aP (λ_=>ak λh=>(by cases h)) λh=>?_
 have hv:=hb h;refine aA (aj8 _ hv) λy hy=>?_
 refine dM (λ_=>ak λh=>(by cases h)) λ_=>?_
 let⟨w1,w2,w3,w4,D,A⟩:=x;have h6:=hv.s;have h3:=hv.d;dsimp only at h6 h3;refine cD (l! y.1) (λi x=>x.1=(i:Int)/\x.2=(w1,w2,w3,w4,D,A)) ?_ ?_ ⟨rfl,rfl⟩
 .rintro i ⟨a,b⟩ hi ⟨L,e2⟩;dsimp only at L e2;subst L e2;refine bQ (λg4=>?_) λg4=>(by dsimp only[ay]at g4;omega)
  refine aX (λx=>x.2=(w1,w2,w3,w4,D,A)) ?_ ?_
  .refine cH (aT (aA (i_ _) λ_ _=>?_));refine dM (λ_=>ak rfl) λ_=>?_
   with_reducible repeat' first|apply OS.ok;constructor|refine IM.mk λ_=>?_
   all_goals try simp only[ay,ua] at*
   all_goals first|omega|skip
   refine aA (BS _ _ (by simp;omega)) λ_ _=>ak rfl
  .rintro⟨a,b⟩ e;dsimp only at e;subst e;with_reducible repeat' first|apply OS.ok;constructor|refine IM.mk λ_=>?_
   .exact λh=>(by cases h)
   .dsimp only;exact⟨ig,rfl⟩
 rintro⟨a,b⟩ ⟨L,e2⟩;dsimp only at L e2;subst L e2;refine bQ (λg4=>(by dsimp only[ay]at g4;omega)) λ_=>?_
 refine aA (P:=λb=>b=J->VL (w1,w2,w3,w4,D,A)/\SV0 (w1,w2,w3,w4,D,A)) ?_ λy hy=>ak hy
 refine cD (l! w3) (λi x=>x.1=(i:Int)/\x.2=(w1,w2,w3,w4,D,A)) ?_ ?_ ⟨rfl,rfl⟩
 .rintro i ⟨a,b⟩ hi ⟨L,e2⟩;dsimp only at L e2;subst L e2;refine bQ (λg4=>?_) λg4=>(by dsimp only[ay]at g4;omega)
  refine cH (aT ?_);refine aX (λx=>x.2=(w1,w2,w3,w4,D,A)) ?_ ?_
  .with_reducible repeat' first|apply OS.ok;constructor|refine IM.mk λ_=>?_
   all_goals try simp only[ay,ua] at*
   all_goals first|omega|rfl
  .rintro⟨a,b⟩ e;dsimp only at e;subst e;with_reducible repeat' first|apply OS.ok;constructor|refine IM.mk λ_=>?_
   .exact λh=>(by cases h)
   .dsimp only;exact⟨ig,rfl⟩
 rintro⟨a,b⟩ ⟨L,e2⟩;dsimp only at L e2;subst L e2;refine bQ (λg4=>(by dsimp only[ay]at g4;omega)) λ_=>?_
 refine aA (P:=λb=>b=J->VL (w1,w2,w3,w4,D,A)/\SV0 (w1,w2,w3,w4,D,A)) ?_ λy hy=>ak hy
 refine cD (l! A) (λi x=>x.1=(i:Int)/\x.2=(w1,w2,w3,w4,D,A)/\Py (l! D) (A.take i)=Z (if i=0 then (0,0) else ((geti pW A ((i-1:Nat):Int)).1,(geti pW A ((i-1:Nat):Int)).2.1+1))/\(¬i=0->(0:Int)<=(geti pW A ((i-1:Nat):Int)).2.1/\(i:Int)>(geti pW A ((i-1:Nat):Int)).2.1)) ?_ ?_ ⟨rfl,rfl,rfl,λh=>(h rfl).elim⟩
 .rintro i ⟨a,b⟩ hi ⟨L,e2,e3,hpb⟩;dsimp only at L e2;subst L e2;have hw:¬(i:Int)=0->bl .i64 ((i:Int)-1)=((i-1:Nat):Int):=λh=>by rw[jA];omega
  have hnx:=Mi (T:=l! D) hi;rw[e3]at hnx;clear e3;refine bQ (λg4=>?_) λg4=>(by dsimp only[ay]at g4;omega)
  refine aX (λx=>x=(w1,w2,w3,w4,D,A)/\Py (l! D) (A.take (i+1))=Z (((geti pW A (i:Int)).1,(geti pW A (i:Int)).2.1+1))/\(0:Int)<=(geti pW A (i:Int)).2.1/\((i+1:Nat):Int)>(geti pW A (i:Int)).2.1) ?_ ?_
  .refine cH (aT ?_);rw[hnx];generalize hz:geti pW A (i:Int)=z;obtain⟨(z1:Int),(z2:Int),(z3:Int)⟩:=z;dsimp only;refine aX (λx=>x.2=((w1,w2,w3,w4,D,A),z1,z2,z3)/\(x.1=af->0<=z1/\z1<l! D)) ?_ ?_
   .refine bQ (λ_=>ak ⟨rfl,λh=>(by cases h)⟩) λg=>ak ⟨rfl,λh=>⟨g,?_⟩⟩
    rw[nH]at h;exact h
   rintro⟨c,y⟩ ⟨e,hzr⟩;dsimp only at e hzr;subst e;refine aP (λ_=>ak λh=>(by cases h)) λhzb=>?_
   let⟨z0,zT⟩:=hzr hzb;refine aX (λx=>x.2=((w1,w2,w3,w4,D,A),z1,z2,z3)/\(x.1=J->i=0\/¬(geti pW A ((i-1:Nat):Int)).1=z1)/\(x.1=af->¬(i:Int)=0/\(geti pW A ((i-1:Nat):Int)).1=z1)) ?_ ?_
   .refine aK (λh=>ak ⟨rfl,λ_=>.inl (by have h:((i:Nat):Int)=0:=h;omega),λh=>(by cases h)⟩) λh=>?_
    rw[hw h];refine cH (aT (ak ⟨rfl,λh2=>.inr (by simpa using h2),λh2=>⟨h,by simpa using h2⟩⟩))
   rintro⟨c,y⟩ ⟨e,hc1,hc⟩;dsimp only at e hc1 hc;subst e;refine aP (λhct=>?_) λhcf=>?_
   .refine aX (λx=>x.2=(w1,w2,w3,w4,D,A)/\(x.1=af->z2=0/\(¬i=0->((geti pW A ((i-1:Nat):Int)).1:Int)<z1))) ?_ ?_
    .refine cf (λ_=>ak ⟨rfl,λh=>(by cases h)⟩) λhz2=>?_
     refine bQ (λh=>?_) λhi0=>ak ⟨rfl,λ_=>⟨hz2,λh=>by have hi0:((i:Nat):Int)<=0:=hi0;omega⟩⟩
     have h:(0:Int)<((i:Nat):Int):=h;rw[hw (by omega)];refine cH (aT (ak ⟨rfl,λh2=>⟨hz2,λh3=>?_⟩⟩));rw[kg]at h2;have h4:=(hc1 hct).resolve_left h3;have h2:(geti pW A ((i-1:Nat):Int)).1<=z1:=h2;exact Int.lt_iff_le_and_ne.2 ⟨h2,h4⟩
    rintro⟨c,y⟩ ⟨e,hy⟩;dsimp only at e hy;subst e;refine aP (λ_=>ak λh=>(by cases h)) λh=>ak ⟨rfl,?_⟩
    let⟨q1,q2⟩:=hy h;have q1:z2=0:=q1;subst q1;refine ⟨?_,dC 0,by show _>(0:Int);omega⟩;unfold Yx
    grind
   .obtain⟨hi0,hpr⟩:=hc hcf;rw[hw hi0];refine cH (aT ?_);refine cf (λ_=>ak λh=>(by cases h)) λh=>ak ⟨rfl,?_⟩
    let⟨b0,b1⟩:=hpb (by omega);have h:z2=bl .i64 ((geti pW A ((i-1:Nat):Int)).2.1+1):=h;rw[jA]at h;refine ⟨?_,by omega,by omega⟩;rw[av (by omega)];unfold Yx;dsimp only;rw[aD ⟨hpr.symm,h⟩,hpr,h]
  .rintro x ⟨rfl,hx,hx2⟩;refine ak ?_;dsimp only;refine ⟨ig,rfl,?_,λ_=>hx2⟩;rw[av (by omega)];exact hx
 .rintro⟨a,b⟩ ⟨L,e2,e3,_⟩;dsimp only at L e2;subst L e2;refine bQ (λg4=>(by dsimp only[ay]at g4;omega)) λ_=>?_
  rw[cQ]at e3;exact ak λ_=>⟨hv,by unfold SV0;dsimp only;rw[e3];simp⟩
def rdE (e:ET):Bool:=decide (e.2.1=3)||decide (e.2.1=23)
def fl (l:Y ET) (t:Int):θ:=(l.filter λe=>decide (e.1=t)).map rdE
def Ps (l:Y ET) (t y:Int):Prop:=0<=y/\(fl l t).getD y.toNat af=J
def wO (l m:Y ET) (t:Int):fl (l++m) t=fl l t++fl m t:=by unfold fl;rw[List.filter_append,cG]
def CF {e:ET} (h:e.1=a):fl [e] a=[rdE e]:=by unfold fl;simp[h]
def zK {e:ET} (h:¬e.1=a):fl [e] a=[]:=by unfold fl;simp[h]
variable {k:Y ET}
def Ps.app {y:Int} (h:Ps k a y) (m:Y ET):Ps (k++m) a y:=by
 let⟨h0,h1⟩:=h;refine ⟨h0,?_⟩;rw[wO]
 grind
def Ps.lt {y:Int} (h:Ps k a y):y<l! (fl k a):=by
 let⟨h0,h1⟩:=h;rcases cF y.toNat (l! (fl k a)) with g|g
 .omega
 .rw[aw,c_ g]at h1;cases h1
def Ps.last {e:ET} (h:rdE e=J) (z:a=l! (fl k e.1)):Ps (k++[e]) e.1 a:=by
 subst z;refine ⟨by omega,?_⟩;rw[wO,CF rfl,aw,b_ (by simp),h];simp
def WD (l:Y ET) (t:Int):l! (fl l t)<=l! l:=by unfold fl;rw[bM];exact EL ..
structure SCx (w:WT) (l:List ET) (sy:SY) (ce fu:η) (e:ET):Prop where
 en:EN w sy e.1 e.2.1 e.2.2.1
 rd:Yh w sy e.1 e.2.1 e.2.2.1
 s1:e.2.1=1\/e.2.1=2->e.2.2.2.2.1= -1
 s2:¬(e.2.1=1\/e.2.1=2)->0<=e.2.2.2.2.1/\e.2.2.2.2.1<l! w.2.2.2.2.2/\(geti pW w.2.2.2.2.2 e.2.2.2.2.1).1=e.1
 de:0<l! e.2.2.2.2.2.1->e.2.1=5\/(e.2.1=3\/e.2.1=4)/\¬(geti lZ w.1 e.2.2.1).2.2.1=0
 fr:0<l! e.2.2.2.2.2.2->e.2.1=4\/e.2.1=22
 nd:AN (l! (fl l e.1)) e.2.2.2.2.2.1
 nf:AN (l! (fl l e.1)) e.2.2.2.2.2.2
 rd1:∀y∈e.2.2.2.2.2.1,Ps l e.1 y
 rd2:∀y∈e.2.2.2.2.2.2,Ps l e.1 y
 va:VA w sy ce fu e.1 e.2.1 e.2.2.1 e.2.2.2.1
def thP:Nat->Y d?
 |0=>[]
 |n+1=>(1,0,af)::aC n (0,0,af)
def SJ (w:WT):SY:=(aC (l! w.2.1) (-1,[]),-1,aC (l! w.2.2.2.1) af,thP (l! w.2.2.2.2.1))
def ce0 (w:WT):η:=w.1.map λc=>c.2.2.2.2
def fu0 (w:WT):η:=aC (l! w.2.2.2.1) 0
inductive Acw (w:WT):List ET->SY->η->η->Prop
 |nil:Acw w [] (SJ w) (ce0 w) (fu0 w)
 |snoc {l:List ET} {sy:SY} {ce fu:η} {e:ET} (h:Acw w l sy ce fu) (hs:SCx w l sy ce fu e):Acw w (l++[e]) (pV w sy e.1 e.2.1 e.2.2.1 e.2.2.2.1).1 (ceP ce e) (fuP fu e)
def ai0 (i:Nat):thP (i+2)=thP (i+1)++[(0,0,af)]:=by
 show (1,0,af)::aC (i+1) (0,0,af)=(1,0,af)::aC i (0,0,af)++[(0,0,af)]
 rw[wY,gR]
def LG:∀n,l! (thP n)=n
 |0=>rfl
 |n+1=>by simp[thP]
def Ph (w:WT) (h:VL w):s7 w=Z (SJ w):=by
 let⟨w1,A,w3,L,w5,w6⟩:=w;let⟨h1,h2,h3,h4,_,h5,h6⟩:=h;dsimp only at*
 refine cW ?_;unfold s7 bf bw bH cE eD dQ hY bn bU bR aZ c7 aH cV;refine cD (l! A) (λi x=>x.1=(i:Int)/\x.2.1=(w1,A,w3,L,w5,w6)/\x.2.2.2=(-1,aC i (-1,[]))) ?_ ?_ ⟨rfl,rfl,rfl⟩
 .rintro i ⟨a,b,c,d,e⟩ hi ⟨D,e2,z⟩;obtain⟨rfl,rfl⟩:=z;subst D e2;with_reducible repeat' first|apply OS.ok;constructor|refine IM.mk λ_=>?_
  all_goals try simp[ay,ua] at*
  all_goals first|omega|(simp;omega)|skip
  exact⟨ig,by rw[wY]⟩
 rintro⟨a,b,c,d,e⟩ ⟨D,e2,z⟩;obtain⟨rfl,rfl⟩:=z;subst e2;refine bQ (λg4=>(by grind)) λ_=>?_
 refine aA (P:=λs=>s=SJ (w1,A,w3,L,w5,w6)) ?_ λy hy=>ak hy
 refine cD (l! L) (λi x=>x.1=(i:Int)/\x.2.1=(w1,A,w3,L,w5,w6)/\x.2.2.2=(-1,aC (l! A) (-1,[]),aC i af)) ?_ ?_ ⟨rfl,rfl,rfl⟩
 .rintro i ⟨a,b,c,d,e',f⟩ hi ⟨D,e2,z⟩;obtain⟨rfl,rfl,rfl⟩:=z;subst D e2;with_reducible repeat' first|apply OS.ok;constructor|refine IM.mk λ_=>?_
  all_goals try simp[ay,ua] at*
  all_goals first|omega|(simp;omega)|skip
  exact⟨ig,by rw[wY]⟩
 rintro⟨a,b,c,d,e',f⟩ ⟨D,e2,z⟩;obtain⟨rfl,rfl,rfl⟩:=z;subst e2;refine bQ (λg4=>(by grind)) λ_=>?_
 refine aA (P:=λs=>s=SJ (w1,A,w3,L,w5,w6)) ?_ λy hy=>ak hy
 refine cD (l! w5) (λi x=>x.1=(i:Int)/\x.2.1=(w1,A,w3,L,w5,w6)/\x.2.2.2=(-1,aC (l! A) (-1,[]),aC (l! L) af,thP i)) ?_ ?_ ⟨rfl,rfl,rfl⟩
 .rintro i ⟨a,b,c,d,e'',f',g⟩ hi ⟨D,e2,z⟩;obtain⟨rfl,rfl,rfl,rfl⟩:=z;subst D e2;have hl:=LG i;refine bQ (λ_=>?_) λg4=>(by grind)
  refine ij (aK (λh0=>ak ?_) λh0=>ak ?_)
  .have h0:((i:Nat):Int)=0:=h0;have h0:i=0:=by omega
   subst h0;exact bN (by grind) (by omega) (ak ⟨rfl,rfl,rfl⟩)
  .have h0:¬((i:Nat):Int)=0:=h0;obtain⟨j,rfl⟩:∃j,i=j+1:=⟨i-1,by omega⟩
   refine bN (by grind) (by omega) (ak ⟨ig,rfl,?_⟩);rw[ai0]
 rintro⟨a,b,c,d,e'',f',g⟩ ⟨D,e2,z⟩;obtain⟨rfl,rfl,rfl,rfl⟩:=z;refine bQ (λg4=>(by grind)) λ_=>ak rfl
def YT {w:WT} (h:VL w):SB 0 (SJ w):=by
 let⟨h1,h2,h3,L,_,D,A⟩:=h;refine ⟨by omega,by simp[SJ];omega,λl z=>?_,by simp[SJ];omega,by simp[SJ,LG];omega⟩;rw[Ao z];simp
def Pf (w:WT) (h:VL w):oG w=Z (SJ w,ce0 w,fu0 w,aC (l! w.2.2.2.2.1) 0):=by
 have hs:=Ph w h;let⟨z,w2,w3,D,A,w6⟩:=w;let⟨h1,h2,h3,h4,_,h5,h6⟩:=h;refine cW ?_;unfold oG bf bw bH c8 dQ bU bR bY aZ c7 aH cV;refine bc hs ?_;with_reducible repeat' first|apply OS.ok;constructor|refine IM.mk λ_=>?_
 all_goals try simp[ay,ua] at*
 all_goals first|omega|skip
 refine cD (l! z) (λi x=>x.1=(i:Int)/\x.2.1=(z,w2,w3,D,A,w6)/\x.2.2.2=(SJ (z,w2,w3,D,A,w6),(z.take i).map (λc=>c.2.2.2.2),aC (l! D) 0,aC (l! A) 0)) ?_ ?_ ⟨rfl,rfl,rfl⟩
 .rintro i ⟨a,b,c,d,e,f,g⟩ hi ⟨e1,e2,L⟩;obtain⟨rfl,rfl,rfl,rfl⟩:=L;subst e1 e2;with_reducible repeat' first|apply OS.ok;constructor|refine IM.mk λ_=>?_
  all_goals try simp only[ay,ua] at*
  all_goals first|omega|(simp;omega)|skip
  exact⟨ig,by rw[pl (T:=lZ) hi,cG];rfl⟩
 rintro⟨a,b,c,d,e,f,g⟩ ⟨e1,e2,L⟩;obtain⟨rfl,rfl,rfl,rfl⟩:=L;refine bQ (λg4=>(by grind)) λ_=>ak ?_
 rw[cQ];rfl
def ab7 (w:WT) (h:VL w):Ok (oG w) λs=>NB 0 s/\l! s.2.1=l! w.1/\l! s.2.2.1=l! w.2.2.2.1/\l! s.2.2.2=l! w.2.2.2.2.1:=
 ax8 (Pf w h) ⟨⟨YT h,by have:=h.c;simp[ce0];omega,by have:=h.f;simp[fu0];omega,by have:=h.t;simp;omega⟩,by simp[ce0],by simp[fu0],by simp⟩
def Vt (l:Y ET) (i t:Int) (z:η) (hl:l! l<=1000000000) (hi:0<=i/\i<=l! l) (hn:l! z<=1000000000):Ok (s5 (l,i,t,z)) λb=>b=J->∀y∈z,Ps (l.take i.toNat) t y:=by
 unfold s5 bf c8 bn bU jQ bY aZ c7 aH cV;refine cD (l! z) (λk x=>x=(k:Int)/\∀j:Nat,j<k->Ps (l.take i.toNat) t (geti aM z (j:Int))) ?_ ?_ ⟨rfl,λj hj=>(by omega)⟩
 .rintro k x hk ⟨rfl,hx⟩;refine bQ (λg4=>?_) λg4=>(by grind)
  refine rI (λx=>(i-x.2.2).toNat) (λx=>0<=x.2.2/\x.2.2<=i/\x.1=(l! (fl (l.take x.2.2.toNat) t):Int)/\(x.2.1=J->Ps (l.take x.2.2.toNat) t (geti aM z (k:Int)))) ?_ ⟨by simp,hi.1,by simp[fl],nofun⟩;rintro⟨a,b,(c:Int)⟩ ⟨L,c1,ha,D⟩;dsimp only at L c1 ha D;subst ha;obtain⟨c,rfl⟩:∃n:Nat,c=(n:Int):=⟨c.toNat,by omega⟩
  rw[bh]at D;dsimp only;rw[bh];have hfl:=WD (l.take c) t;have htl:=yF c l;refine bQ (λg5=>?_) λg5=>?_
  .have g5:(c:Int)<i:=g5;have htk:l.take (c+1)=l.take c++[geti iZ l (c:Int)]:=pl (T:=iZ) (by omega);refine aX (λy=>y.1=(l! (fl (l.take (c+1)) t):Int)/\(y.2=J->Ps (l.take (c+1)) t (geti aM z (k:Int)))) ?_ ?_
   .rw[htk,wO];refine aO L (by omega) (aT ?_);refine cf (λhne=>ak ⟨by rw[zK hne];simp,λh=>(D h).app _⟩) λhe=>?_
    have he:(geti iZ l (c:Int)).1=t:=he;refine aX (λy=>y=J->Ps (l.take c++[geti iZ l (c:Int)]) t (geti aM z (k:Int))) ?_ λy hy=>ak ⟨?_,hy⟩
    .refine aP (λh=>ak λ_=>(D h).app _) λ_=>?_
     refine cH (aT ?_);refine aK (λhn=>?_) λ_=>ak nofun
     have A:rdE (geti iZ l (c:Int))=J->Ps (l.take c++[geti iZ l (c:Int)]) t (geti aM z (k:Int)):=λh=>by
      rw[<- he]at hn ⊢;exact Ps.last h hn.symm
     refine aO L (by omega) (aT ?_);refine aK (λh=>ak λ_=>A (by unfold rdE;rw[aS h];rfl)) λ_=>?_
     exact aO L (by first|omega|(dsimp only;omega)) (aT (ak λh=>A (by unfold rdE;rw[h];simp)))
    .dsimp only;rw[CF he,ig];simp
   .rintro⟨p,q⟩ ⟨hp,A⟩;refine ak ?_;dsimp only at hp A ⊢;rw[ig,bh]
    grind
  .refine aA (P:=λr=>match r with|.inl y=>y=((k+1:Nat):Int)/\∀j:Nat,j<k+1->Ps (l.take i.toNat) t (geti aM z (j:Int))|.inr r=>r=J->∀y∈z,Ps (l.take i.toNat) t y) ?_ λr hr=>ak ?_
   .refine dM (λ_=>ak nofun) λh=>ak ⟨ig,λj hj=>?_⟩
    grind
   .grind
 .rintro x ⟨rfl,hx⟩;refine bQ (λg4=>(by grind)) λ_=>ak λ_=>iY (T:=aM) hx
def CN (l:Y ET) (c:η):Prop:=∀t:Int,0<=t->t<l! c->geti aM c t=(l! (fl l t):Int)
def jW {T:Ty} (xs:Y T.den) (j k:Int) (x:T.den) (D:0<=j) (z:j<l! xs) (A:0<=k):geti _ (ch xs j x) k=if k=j then x else geti _ xs k:=by
 unfold geti ch
 grind
variable {A:η}
def CN.next (h:CN k A) (e:ET) (h0:0<=e.1) (h1:e.1<l! A) (hl:l! k<1000000):CN (k++[e]) (ch A e.1 (bl .i64 (geti aM A e.1+1))):=λt D c=>by
 rw[bT]at c;have:=WD k e.1;rw[jW (T:=aM) _ _ _ _ h0 h1 D,wO];split
 next z=>subst z;rw[CF rfl,h _ h0 h1,ig];simp
 next z=>rw[zK λL=>z L.symm,h _ D c];simp
def CN.bd (h:CN k A) (t:Int):(geti aM A t:Int)<=l! k:=by
 have key:∀z:Int,geti aM A t=z->z<=l! k:=by
  intro z e;rcases cF t.toNat (l! A) with g|g
  .have h1:=h (t.toNat:Int) (by omega) (by omega);have D:=WD k ((t.toNat:Nat):Int);have c:geti aM A t=geti aM A ((t.toNat:Nat):Int):=by unfold geti;rw[bh]
   grind
  .have:z=0:=by
    rw[<- e];unfold geti;rw[aw,c_ g];rfl
   omega
 exact key _ rfl
structure PH (w:WT) (e:ET):Prop where
 nm:NM w e.2.1 e.2.2.1
 t0:0<=e.1
 t1:e.1<l! w.2.2.2.2.1
 cd:∀c∈w.2.2.1,0<=c.2/\c.2<l! w.2.1
def amu (w:WT) (l:Y ET):Ok (wh (w,l)) λy=>y.2=0->(VL w/\SV0 w)/\(∀e∈l,PH w e)/\∃sy ce fu,Acw w l sy ce fu:=by
 unfold wh cE c8 hY bU bY aZ c7 aH cV;refine bQ (λ_=>ak nofun) λhl=>?_
 dsimp only[ay]at hl;refine aA (ED w) λb hb=>?_
 refine dM (λ_=>ak nofun) λh=>?_
 let⟨L,hsv⟩:=hb h;refine bc (Pf w L) ?_;have hs:NB 0 (SJ w,ce0 w,fu0 w,aC (l! w.2.2.2.2.1) 0):=⟨YT L,by have:=L.c;simp[ce0];omega,by have:=L.f;simp[fu0];omega,by have:=L.t;simp;omega⟩
 have hw:l! w.2.2.1<=1000:=by have:=L.d;omega
 refine cD (l! l) (λi x=>x.1=(i:Int)/\x.2.1=(w,l)/\NB i x.2.2/\(∀k:Nat,k<i->PH w (geti iZ l (k:Int)))/\Acw w (l.take i) x.2.2.1 x.2.2.2.1 x.2.2.2.2.1/\CN (l.take i) x.2.2.2.2.2/\l! x.2.2.2.2.2=l! w.2.2.2.2.1) ?_ ?_ ⟨rfl,rfl,hs,λk hk=>(by omega),.nil,λt t0 t1=>?_,by simp⟩
 .rintro i ⟨a,b,s⟩ hi ⟨e1,e2,e3,e4,e5,e6,e7⟩;dsimp only at e1 e2 e3 e4 e5 e6 e7;subst e1 e2;refine bQ (λg4=>?_) λg4=>(by grind)
  refine cH (aT ?_);have hmem:=bP (T:=iZ) (xs:=l) (j:=(i:Int)) (by omega) (by omega);have hbd:=e6.bd (geti iZ l (i:Int)).1;have htl:=yF i l;have hbd:(geti aM s.2.2.2 (geti iZ l (i:Int)).1:Int)<=1000000:=by grind
  refine aA (Jg w s e3 hw _ (.inr (xv hbd (by decide))) (.inr (xv hbd (by decide)))) λy hy=>?_
  have d1:y.2=J->(geti iZ l (i:Int)).2.2.2.2.2.1.length<=1000000000:=λh=>by
   have h3:((geti iZ l (i:Int)).2.2.2.2.2.1.length:Int)<=max (0:Int) (geti aM s.2.2.2 (geti iZ l (i:Int)).1):=(hy.1 h).2.2.1.nd.len
   grind
  have d2:y.2=J->(geti iZ l (i:Int)).2.2.2.2.2.2.length<=1000000000:=λh=>by
   have h3:((geti iZ l (i:Int)).2.2.2.2.2.2.length:Int)<=max (0:Int) (geti aM s.2.2.2 (geti iZ l (i:Int)).1):=(hy.1 h).2.2.1.nf.len
   grind
  refine aX (λx=>x.2.1=(w,l)/\x.2.2.2=y.1/\(x.1=af->y.2=J/\(∀z∈(geti iZ l (i:Int)).2.2.2.2.2.1,Ps (l.take i) (geti iZ l (i:Int)).1 z)/\∀z∈(geti iZ l (i:Int)).2.2.2.2.2.2,Ps (l.take i) (geti iZ l (i:Int)).1 z)) ?_ ?_
  .refine dM (λ_=>ak ⟨rfl,rfl,nofun⟩) λh=>?_
   refine aA (Vt l _ _ _ (by omega) ⟨by dsimp only;omega,by dsimp only;omega⟩ (d1 h)) λb1 hr1=>?_
   refine dM (λ_=>ak ⟨rfl,rfl,nofun⟩) λhb1=>?_
   refine aA (Vt l _ _ _ (by omega) ⟨by dsimp only;omega,by dsimp only;omega⟩ (d2 h)) λb2 hr2=>ak ⟨rfl,rfl,λhb2=>⟨h,hr1 hb1,hr2 (by simpa using hb2)⟩⟩
  .rintro⟨c,p,q,r⟩ ⟨f1,f2,f3⟩;dsimp only at f1 f2 f3;subst f1 f2;refine aP (λ_=>ak nofun) λh=>?_
   let⟨f4,r1,r2⟩:=f3 h;let⟨A,g2,D,g4⟩:=hy.1 f4;refine ak ?_;dsimp only;have htk:l.take (i+1)=l.take i++[geti iZ l (i:Int)]:=pl (T:=iZ) hi;have hc:=e6 _ A.t0 (by rw[e7];exact A.t1);have hnx:=eR Prod.fst g4;have hac:=e5.snoc (e:=geti iZ l (i:Int)) ⟨A,D.rd,D.s1,D.s2,D.de,D.fr,by rw[<- hc];exact D.nd,by rw[<- hc];exact D.nf,r1,r2,D.va⟩;refine ⟨ig,rfl,g2.NB e3 (by omega),λk hk=>?_,by rw[htk,g4];exact hac,by rw[htk,g4];exact e6.next _ A.t0 (by rw[e7];exact A.t1) (by omega),by rw[g4];unfold nxP;rw[bT];exact e7⟩;rcases cF k i with h1|h1
   .exact e4 k h1
   .rw[show k=i by omega];exact⟨A.nm,A.t0,A.t1,A.cd⟩
 .rintro⟨a,b,s⟩ ⟨e1,e2,e3,e4,e5,_⟩;dsimp only at e1 e2 e3 e4 e5;subst e1 e2;rw[cQ]at e5;refine bQ (λg4=>(by grind)) λ_=>ak λ_=>⟨⟨L,hsv⟩,iY (T:=iZ) e4,_,_,_,e5⟩
 .rw[cU]at t1;obtain⟨t,rfl⟩:∃n:Nat,t=(n:Int):=⟨t.toNat,by omega⟩
  rw[Fm,aw,dl];split<;>simp[fl]
abbrev Kd0:Ty:=(.st (.pr yB (.pr yB (.pr yB (.pr yB (.pr yB (.pr yB (.pr (.sl aM) (.pr yB (.sl aM))))))))))
abbrev Kd1:Ty:=(.st (.pr .bool .bool))
abbrev A!:=(Y η)×(Y η)×(Y η)×(Y η)×(Y η)×(Y η)×(η)×(Y η)×η
abbrev Yd0:=A!
abbrev g!:=(Y η)×(Y η)×(Y η)×(Y η)×(Y η)×(Y η)×(Y η)×(η)×η
abbrev Yd1:=(η×g!)
abbrev Yd2:=(Int×E!)
abbrev Yd3:=(ν×c!)
abbrev Yd4:=(fe×c!)
abbrev vq:=(Y ν)
abbrev Yd6:=(Int×j!)
variable {R:Type}
def Rd {α:Type} [DecidableEq α] (a b:α) (r:M R):M R:=if a=b then r else U
def Ve {α:Type} [DecidableEq α] (a b:α) (r:M R):Rd a b r=same a b r:=by unfold Rd same;by_cases h:a=b<;>simp[h]
def Vd {α:Type} [DecidableEq α] {a b:α} (h:a=b) (r:M R):Rd a b r=r:=by unfold Rd;rw[aD h]
def kH (x:o!):M (Int):=
 (jn (bU x.2 0 (aH J) (aH (dg (aZ x.1) x.2))) λz=>(aI z (Z 0) (mK x.2 x.1 (Z (geti aM x.1 x.2)))))
def xO (it:Bq) (x:x!):M η:=
 (bR (dg 0 (j6 (aZ x.1) (aZ x.2))&&dg (j6 (aZ x.1) (aZ x.2)) (j6 (aZ x.1) (aZ x.2))&&be (aN (j6 (aZ x.1) (aZ x.2))) 8) (it k! _ (λz=>(bU z.1 (aQ (aj (aC (aN (j6 (aZ x.1) (aZ x.2))) (0:Int)))) (aB (kH (x.1,z.1)) λD=>(aB (kH (x.2,z.1)) λA=>(ck (dO z.1 (aj z.2)) (c7 ((cV z.1),(ch z.2 z.1 (j6 D A))))))) (aH z.2))) (0,(aC (aN (j6 (aZ x.1) (aZ x.2))) (0:Int)))))
def Cj (x:x!):M η:=xO @iter x
def jJ (x:x!):M η:=xO @f_ x
def Tg (x:η):M η:=
 (aI (ax (aj x) 0) (zZ (Z ([]:η)) (bR (be (aj ([]:η)+aj x) 8) (Z (([]:η)++x)))) (bR (be (aj ([]:η)+aj x) 8) (Z (([]:η)++x))))
def Fe (x:η):M η:=chk (be (aj x) 8) λ_=>Z x
abbrev X!:=Int×Y η
def AY (it:Bq) (x:Y η):M (Y η):=
 (bR (dg 0 (aZ x)&&dg (aZ x) (aZ x)&&be (aN (aZ x)) 24) (it X! _ (λz=>(bU z.1 (aZ x) (mK z.1 x (aB (Fe (geti ((.sl aM)) x z.1)) λA=>(ck (dO z.1 (aj z.2)) (c7 ((cV z.1),(ch z.2 z.1 A)))))) (aH z.2))) (0,(aC (aN (aZ x)) ([]:η)))))
def E7 (x:Y η):M (Y η):=AY @iter x
def iV (x:Y η):M (Y η):=AY @f_ x
def MQ (x:η):M η:=
 (aI (ax (aj x) 0) (zZ (Z ([]:η)) (bR (be (aj ([]:η)+aj x) 8) (Z (([]:η)++x)))) (bR (be (aj ([]:η)+aj x) 8) (Z (([]:η)++x))))
def qu (x:η):M η:=chk (be (aj x) 8) λ_=>Z x
abbrev i?:=(Y η)×(Y η)×(Y η)×(Y η)×(Y η)×(Y η)×(Y η)×η
def wB (x:A!):M (η×i?):=
 (aB (iV x.1) λy1=>(aB (iV x.2.1) λy2=>(aB (iV x.a) λy3=>(aB (iV x.b) λy4=>(aB (iV x.c) λy5=>(aB (iV x.d) λL=>(aB (qu x.f) λD=>(aB (iV x.i) λA=>(aB (qu x.r) λz=>(Z (D,y1,y2,y3,y4,y5,L,A,z)))))))))))
def vO (x:X!):M (η×Y η):=
 (jn (bU x.1 0 (aH (J,x.2)) (aH ((dg (aZ x.2) x.1),x.2))) λz=>(aI z.1 (Z (([]:η),z.2)) (ck (dO x.1 (aj z.2)) (Z ((geti ((.sl aM)) z.2 x.1),z.2)))))
def wD (x:ic×(η)×fe×i?):M ((Y η)×ic×(η)×fe×i?):=
 (bn x.1.2.1 1 (ck (dO x.1.1 (aj x.c)) (Z ([(geti ((.sl aM)) x.c x.1.1)],(x.1.1,x.1.2.1,x.1.a,x.1.b,x.1.c,x.1.d,x.1.n),x.2.1,(x.a.1,x.a.2.1,x.a.a,x.a.b,x.a.c,x.a.h),x.b,x.c,x.d,x.f,x.i,x.j,x.m,x.y))) (bn x.1.2.1 21 (ck (dO x.1.a (aj x.b)) (Z ([(geti ((.sl aM)) x.b x.1.a)],(x.1.1,x.1.2.1,x.1.a,x.1.b,x.1.c,x.1.d,x.1.n),x.2.1,(x.a.1,x.a.2.1,x.a.a,x.a.b,x.a.c,x.a.h),x.b,x.c,x.d,x.f,x.i,x.j,x.m,x.y))) (jn (bn x.1.2.1 6 (aH ((decide ((x.1.2.1:Int)=6)),(x.1.1,x.1.2.1,x.1.a,x.1.b,x.1.c,x.1.d,x.1.n),x.2.1,(x.a.1,x.a.2.1,x.a.a,x.a.b,x.a.c,x.a.h),x.b,x.c,x.d,x.f,x.i,x.j,x.m,x.y)) (aH ((decide ((x.1.2.1:Int)=10)),(x.1.1,x.1.2.1,x.1.a,x.1.b,x.1.c,x.1.d,x.1.n),x.2.1,(x.a.1,x.a.2.1,x.a.a,x.a.b,x.a.c,x.a.h),x.b,x.c,x.d,x.f,x.i,x.j,x.m,x.y))) λz=>(aI z.1 (ck (dO z.2.1.a (aj z.f)) (ck (dO z.2.1.a (aj z.i)) (Z ([(geti ((.sl aM)) z.f z.2.1.a),(geti ((.sl aM)) z.i z.2.1.a)],(z.2.1.1,z.2.1.2.1,z.2.1.a,z.2.1.b,z.2.1.c,z.2.1.d,z.2.1.n),z.a,(z.b.1,z.b.2.1,z.b.a,z.b.b,z.b.c,z.b.h),z.c,z.d,z.f,z.i,z.j,z.m,z.k,z.v)))) (bn x.1.2.1 8 (ck (dO z.2.1.a (aj z.f)) (Z ([(geti ((.sl aM)) z.f z.2.1.a)],(z.2.1.1,z.2.1.2.1,z.2.1.a,z.2.1.b,z.2.1.c,z.2.1.d,z.2.1.n),z.a,(z.b.1,z.b.2.1,z.b.a,z.b.b,z.b.c,z.b.h),z.c,z.d,z.f,z.i,z.j,z.m,z.k,z.v))) (bn x.1.2.1 17 (mK z.2.1.a z.b.a (aB (vO ((geti itK z.b.a z.2.1.a).2,z.f)) λD=>(bR (ax (aj z.f) (aj D.2)&&J) (aB (vO ((geti itK z.b.a z.2.1.a).2,z.i)) λA=>(bR (ax (aj z.i) (aj A.2)&&J) (ck (dO z.2.1.1 (aj z.k)) (Z ([D.1,A.1,(geti ((.sl aM)) z.k z.2.1.1)],(z.2.1.1,z.2.1.2.1,z.2.1.a,z.2.1.b,z.2.1.c,z.2.1.d,z.2.1.n),z.a,(z.b.1,z.b.2.1,z.b.a,z.b.b,z.b.c,z.b.h),z.c,z.d,D.2,A.2,z.j,z.m,z.k,z.v)))))))) (bn x.1.2.1 3 (ck (dO z.2.1.a (aj z.j)) (Z ([(geti ((.sl aM)) z.j z.2.1.a)],(z.2.1.1,z.2.1.2.1,z.2.1.a,z.2.1.b,z.2.1.c,z.2.1.d,z.2.1.n),z.a,(z.b.1,z.b.2.1,z.b.a,z.b.b,z.b.c,z.b.h),z.c,z.d,z.f,z.i,z.j,z.m,z.k,z.v))) (bn x.1.2.1 23 (ck (dO z.2.1.a (aj z.m)) (Z ([(geti ((.sl aM)) z.m z.2.1.a)],(z.2.1.1,z.2.1.2.1,z.2.1.a,z.2.1.b,z.2.1.c,z.2.1.d,z.2.1.n),z.a,(z.b.1,z.b.2.1,z.b.a,z.b.b,z.b.c,z.b.h),z.c,z.d,z.f,z.i,z.j,z.m,z.k,z.v))) (bn x.1.2.1 12 (Z ([z.a],(z.2.1.1,z.2.1.2.1,z.2.1.a,z.2.1.b,z.2.1.c,z.2.1.d,z.2.1.n),z.a,(z.b.1,z.b.2.1,z.b.a,z.b.b,z.b.c,z.b.h),z.c,z.d,z.f,z.i,z.j,z.m,z.k,z.v)) (Z (([]:Y η),(z.2.1.1,z.2.1.2.1,z.2.1.a,z.2.1.b,z.2.1.c,z.2.1.d,z.2.1.n),z.a,(z.b.1,z.b.2.1,z.b.a,z.b.b,z.b.c,z.b.h),z.c,z.d,z.f,z.i,z.j,z.m,z.k,z.v)))))))))))
def Ds (it:Bq) (x:b?):M Yd0:=
 (ck (dg 0 (aZ x.c)&&dg (aZ x.c) (aZ x.c)&&be (aN (aZ x.c)) 24) (ck (dg 0 (aZ x.2.1)&&dg (aZ x.2.1) (aZ x.2.1)&&be (aN (aZ x.2.1)) 24) (bR (dg 0 (aZ x.1)&&dg (aZ x.1) (aZ x.1)&&be (aN (aZ x.1)) 24) (bR (dg 0 (aZ x.b)&&dg (aZ x.b) (aZ x.b)&&be (aN (aZ x.b)) 24) (bR (dg 0 (aZ x.c)&&dg (aZ x.c) (aZ x.c)&&be (aN (aZ x.c)) 24) (bR (dg 0 (aZ x.c)&&dg (aZ x.c) (aZ x.c)&&be (aN (aZ x.c)) 8) (it (Int×i?) _ (λz=>(bU z.1 (aQ (aj (aC (aN (aZ x.c)) (0:Int)))) (ck (dO z.1 (aj z.r)) (c7 ((cV z.1),z.2.1,z.a,z.b,z.c,z.d,z.f,z.i,(ch z.r z.1 (-1))))) (aH (z.2.1,z.a,z.b,z.c,z.d,z.f,([]:η),z.i,z.r)))) (0,(aC (aN (aZ x.c)) ([]:η)),(aC (aN (aZ x.c)) ([]:η)),(aC (aN (aZ x.2.1)) ([]:η)),(aC (aN (aZ x.2.1)) ([]:η)),(aC (aN (aZ x.1)) ([]:η)),(aC (aN (aZ x.b)) ([]:η)),(aC (aN (aZ x.c)) ([]:η)),(aC (aN (aZ x.c)) (0:Int))))))))))
def Im (x:b?):M Yd0:=Ds @iter x
def rf (x:b?):M Yd0:=Ds @f_ x
def ri (x:o!):M η:=
 (jn (kY 0 x.2 (aH (gC x.2 4)) (aH af)) λD=>(jn (aI D (aH (j6 (aZ x.1) (cV x.2))) (aH (aZ x.1))) λz=>(bR (dg 0 z&&dg z z&&be (aN z) 8) (jn (jn (aI D (ck (dO x.2 (aj (Ul (aC (aN z) (0:Int)) x.1))) (aH ((gC (geti aM (Ul (aC (aN z) (0:Int)) x.1) x.2) 9223372036854775807),(Ul (aC (aN z) (0:Int)) x.1)))) (aH (af,(Ul (aC (aN z) (0:Int)) x.1)))) λA=>(aI A.1 (ck (dO x.2 (aj A.2)) (ck (dO x.2 (aj A.2)) (aH (ch A.2 x.2 (bl .i64 ((geti aM A.2 x.2)+1)))))) (aH A.2))) λL=>(Z L)))))
def zu (x:η):M x!:=
 (bR (be (aj ([]:η)+aj x) 8) (Z ((([]:η)++x),x)))
def xF (x:η):M η:=aB (zu x) λy=>Rd y.2 x (Z y.1)
def LZ (it:Bq) (x:x!):M x!:=
 (bR (dg 0 (j6 (aZ x.1) (aZ x.2))&&dg (j6 (aZ x.1) (aZ x.2)) (j6 (aZ x.1) (aZ x.2))&&be (aN (j6 (aZ x.1) (aZ x.2))) 8) (it (Int×J?) _ (λz=>(bU z.1 (aQ (aj (aC (aN (j6 (aZ x.1) (aZ x.2))) (0:Int)))) (aB (kH (x.1,z.1)) λD=>(aB (kH (z.2.1,z.1)) λA=>(ck (dO z.1 (aj z.2.2)) (c7 ((cV z.1),z.2.1,(ch z.2.2 z.1 (j6 D A))))))) (aH (z.2.2,z.2.1)))) (0,x.2,(aC (aN (j6 (aZ x.1) (aZ x.2))) (0:Int)))))
def Ta (x:x!):M x!:=LZ @iter x
def vB (x:x!):M x!:=LZ @f_ x
def Fd (x:x!):M η:=aB (vB x) λy=>Rd y.2 x.2 (Z y.1)
def mX (x:Int×(Y η)×η):M ((Y η)×η):=
 (jn (kY 0 x.1 (aH ((gC x.1 (aZ x.2.1)),x.2.1,x.2.2)) (aH (af,x.2.1,x.2.2))) λz=>(aI z.1 (ck (dO x.1 (aj z.2.1)) (aB (Fd ((geti ((.sl aM)) z.2.1 x.1),z.2.2)) λA=>(ck (dO x.1 (aj z.2.1)) (Z ((ch z.2.1 x.1 A),z.2.2))))) (Z (z.2.1,z.2.2))))
abbrev U!:=(η)×g!
def za (x:Int×U!):M Yd1:=
 (aB (xF x.y) λz=>(ck (dO x.1 (aj x.j)) (ck (dO x.1 (aj x.m)) (Z (x.2.1,x.a,x.b,x.c,x.d,x.f,x.i,(ch x.j x.1 z),(ch x.m x.1 (-1)),x.y)))))
def Dr (it:Bq) (x:Yd4×U!):M Yd1:=
 (aB (xF x.y) λy1=>(ck (dO x.1.2.1 (aj x.a)) (jn (α:=U!) (bn x.1.a 20 (aB (xF x.y) λy3=>(ck (dO x.1.b (aj x.b)) (aH (x.2.1,(ch x.a x.1.2.1 y1),(ch x.b x.1.b y3),x.c,x.d,x.f,x.i,x.j,x.m,x.y)))) (jn (bn x.1.a 7 (aH ((decide ((x.1.a:Int)=7)),x.2.1,(ch x.a x.1.2.1 y1),x.b,x.c,x.d,x.f,x.i,x.j,x.m,x.y,(x.1.1.1,x.1.1.2.1,x.1.1.a,x.1.1.b,x.1.1.c,x.1.1.h),x.1.2.1,x.1.a,x.1.b,x.1.c,x.1.d,x.1.f,x.1.p)) (aH ((decide ((x.1.a:Int)=11)),x.2.1,(ch x.a x.1.2.1 y1),x.b,x.c,x.d,x.f,x.i,x.j,x.m,x.y,(x.1.1.1,x.1.1.2.1,x.1.1.a,x.1.1.b,x.1.1.c,x.1.1.h),x.1.2.1,x.1.a,x.1.b,x.1.c,x.1.d,x.1.f,x.1.p))) λz=>(aI z.1 (aB (mX (z.s,z.c,z.k)) λy5=>(bR (ax (aj z.k) (aj y5.2)&&(ax (aj z.c) (aj y5.1)&&J)) (aH (z.2.1,z.a,z.b,y5.1,z.d,z.f,z.i,z.j,z.m,y5.2)))) (bn x.1.a 9 (aB (mX (z.s,z.d,z.k)) λy6=>(bR (ax (aj z.k) (aj y6.2)&&(ax (aj z.d) (aj y6.1)&&J)) (aH (z.2.1,z.a,z.b,z.c,y6.1,z.f,z.i,z.j,z.m,y6.2)))) (bn x.1.a 16 (ck (dO z.l (aj z.m)) (mK z.s z.o.a (aB (mX ((geti itK z.o.a z.s).2,z.c,z.k)) λy7=>(bR (ax (aj z.k) (aj y7.2)&&(ax (aj z.c) (aj y7.1)&&J)) (aH (z.2.1,z.a,z.b,y7.1,z.d,z.f,z.i,z.j,(ch z.m z.l z.s),y7.2)))))) (bn x.1.a 4 (mK z.s z.o.1 (aI (((((geti lZ z.o.1 z.s).2).2).2).1) (aB (mX (z.s,z.f,z.k)) λy8=>(bR (ax (aj z.k) (aj y8.2)&&(ax (aj z.f) (aj y8.1)&&J)) (aH (z.2.1,z.a,z.b,z.c,z.d,y8.1,z.i,z.j,z.m,y8.2)))) (aH (z.2.1,z.a,z.b,z.c,z.d,z.f,z.i,z.j,z.m,z.k)))) (bn x.1.a 22 (aB (mX (z.s,z.i,z.k)) λy9=>(bR (ax (aj z.k) (aj y9.2)&&(ax (aj z.i) (aj y9.1)&&J)) (aH (z.2.1,z.a,z.b,z.c,z.d,z.f,y9.1,z.j,z.m,y9.2)))) (bn x.1.a 13 (aB (Fd (z.2.1,z.k)) λy10=>(aH (y10,z.a,z.b,z.c,z.d,z.f,z.i,z.j,z.m,z.k))) (bn x.1.a 18 (jn (kY 0 z.u (aH ((gC z.u (aZ z.j)),z.2.1,z.a,z.b,z.c,z.d,z.f,z.i,z.j,z.m,z.k,z.l,z.q,z.s,z.u,z.C,z.D,z.G)) (aH (af,z.2.1,z.a,z.b,z.c,z.d,z.f,z.i,z.j,z.m,z.k,z.l,z.q,z.s,z.u,z.C,z.D,z.G))) λD=>(aI D.1 (aB (za (D.s,D.2.1,D.a,D.b,D.c,D.d,D.f,D.i,D.j,D.m,D.k)) λy12=>(bR (ax (aj D.k) (aj y12.w)&&(ax (aj D.m) (aj y12.j)&&(ax (aj D.j) (aj y12.i)&&(ax (aj D.i) (aj y12.f)&&(ax (aj D.f) (aj y12.d)&&(ax (aj D.d) (aj y12.c)&&(ax (aj D.c) (aj y12.b)&&(ax (aj D.b) (aj y12.a)&&(ax (aj D.a) (aj y12.2.1)&&J))))))))) (aH (y12.1,y12.2.1,y12.a,y12.b,y12.c,y12.d,y12.f,y12.i,y12.j,y12.w)))) (aH (D.2.1,D.a,D.b,D.c,D.d,D.f,D.i,D.j,D.m,D.k)))) (bn x.1.a 19 (it (Int×(η)×(Y η)×(Y η)×(Y η)×(Y η)×(Y η)×(Y η)×(Y η)×(η)×(η)×c!) _ (λA=>(bU A.1 (aZ z.m) (jn (ck (dO A.1 (aj A.m)) (bn (geti aM A.m A.1) A.q (aB (za (A.1,A.2.1,A.a,A.b,A.c,A.d,A.f,A.i,A.j,A.m,A.k)) λL=>(bR (ax (aj A.k) (aj L.w)&&(ax (aj A.m) (aj L.j)&&(ax (aj A.j) (aj L.i)&&(ax (aj A.i) (aj L.f)&&(ax (aj A.f) (aj L.d)&&(ax (aj A.d) (aj L.c)&&(ax (aj A.c) (aj L.b)&&(ax (aj A.b) (aj L.a)&&(ax (aj A.a) (aj L.2.1)&&J))))))))) (aH (L.1,L.2.1,L.a,L.b,L.c,L.d,L.f,L.i,L.j,L.w,A.o,A.l,A.q,A.s,A.u,A.C,A.F)))) (aH (A.2.1,A.a,A.b,A.c,A.d,A.f,A.i,A.j,A.m,A.k,A.o,A.l,A.q,A.s,A.u,A.C,A.F)))) λx14=>(c7 ((cV A.1),x14.1,x14.2.1,x14.a,x14.b,x14.c,x14.d,x14.f,x14.i,x14.j,x14.m,x14.k,x14.o,x14.l,x14.q,x14.s,x14.u,x14.E))) (aH (b7 (A.2.1,A.a,A.b,A.c,A.d,A.f,A.i,A.j,A.m,A.k))))) (0,z.2.1,z.a,z.b,z.c,z.d,z.f,z.i,z.j,z.m,z.k,z.l,z.q,z.s,z.u,z.C,z.D,z.G)) (aH (z.2.1,z.a,z.b,z.c,z.d,z.f,z.i,z.j,z.m,z.k)))))))))))) λx2=>(Z (x2.1,x2.2.1,x2.a,x2.b,x2.c,x2.d,x2.f,x2.i,x2.j,x2.w)))))
def Il (x:Yd4×U!):M Yd1:=Dr @iter x
def tw (x:Yd4×U!):M Yd1:=Dr @f_ x
def GV (it:Bq) (x:fe×Yd0×c!):M (Yd0×η):=
 (aB (wB (x.2.1.1,x.2.1.2.1,x.2.1.a,x.2.1.b,x.2.1.c,x.2.1.d,x.2.1.f,x.2.1.i,x.2.1.r)) λL=>(ck (dO x.a (aj L.2.1)) (aB (wD ((x.a,x.b,x.c,x.d,x.f,x.i,x.r),L.1,(x.1.1,x.1.2.1,x.1.a,x.1.b,x.1.c,x.1.h),L.2.1,L.a,L.b,L.c,L.d,L.f,L.i,L.r)) λA=>(bR (ax (aj L.r) (aj A.v)&&(ax (aj L.i) (aj A.k)&&(ax (aj L.f) (aj A.m)&&(ax (aj L.d) (aj A.j)&&(ax (aj L.c) (aj A.i)&&(ax (aj L.b) (aj A.f)&&(ax (aj L.a) (aj A.d)&&(ax (aj L.2.1) (aj A.c)&&J)))))))) (it (Int×fe×ic×(η)×(η)×i?) _ (λz=>(bU z.1 (aZ A.1) (mK z.1 A.1 (aB (jJ (z.c,(geti ((.sl aM)) A.1 z.1))) λy4=>(c7 ((cV z.1),(z.2.1.1,z.2.1.2.1,z.2.1.a,z.2.1.b,z.2.1.c,z.2.1.h),(z.a.1,z.a.2.1,z.a.a,z.a.b,z.a.c,z.a.d,z.a.n),z.b,y4,z.d,z.f,z.i,z.j,z.m,z.k,z.o,z.z)))) (aB (aB (ri (z.c,z.a.1)) λy5=>(aB (tw (((z.2.1.1,z.2.1.2.1,z.2.1.a,z.2.1.b,z.2.1.c,z.2.1.h),z.a.1,z.a.2.1,z.a.a,z.a.b,z.a.c,z.a.d,z.a.n),z.b,z.d,z.f,z.i,z.j,z.m,z.k,z.o,z.z,y5)) λD=>(bR (ax (aj y5) (aj D.w)&&(ax (aj z.z) (aj D.j)&&(ax (aj z.o) (aj D.i)&&(ax (aj z.k) (aj D.f)&&(ax (aj z.m) (aj D.d)&&(ax (aj z.j) (aj D.c)&&(ax (aj z.i) (aj D.b)&&(ax (aj z.f) (aj D.a)&&(ax (aj z.d) (aj D.2.1)&&J))))))))) (Z ((D.2.1,D.a,D.b,D.c,D.d,D.f,D.1,D.i,D.j),D.w))))) λr=>Z (b7 r)))) (0,(A.b.1,A.b.2.1,A.b.a,A.b.b,A.b.c,A.b.h),(A.2.1.1,A.2.1.2.1,A.2.1.a,A.2.1.b,A.2.1.c,A.2.1.d,A.2.1.n),A.a,(geti ((.sl aM)) L.2.1 x.a),A.c,A.d,A.f,A.i,A.j,A.m,A.k,A.v))))))
def MJ (x:fe×Yd0×c!):M (Yd0×η):=GV @iter x
def ut (x:fe×Yd0×c!):M (Yd0×η):=GV @f_ x
def tG (it:Bq) (x:ζ):M (Bool):=
 (lt (geti ((.st (.pr .str (.pr .str (.pr .str (.pr .str (.pr .str (.pr .str (.pr .str (.pr .str (.pr .str (.pr .str (.pr .str (.pr .str (.pr .str (.pr .str (.pr .str (.pr .str (.pr .str (.pr .str (.pr .str (.pr .str (.pr .str .str))))))))))))))))))))))) ([kwV]) 0) λz=>(it (Int) _ (λA=>(bU A 22 (bR (dg 0 A&&gC A 22) (lt (geti (.str) [z.1,z.2.1,z.a,z.b,z.c,z.d,z.f,z.i,z.j,z.m,z.k,z.o,z.l,z.q,z.s,z.u,z.C,z.D,z.I,z.K,z.L,z.N] A) λD=>(aI (decide ((x:ζ)=D)) (aH J) (c7 (cV A))))) (aH af))) 0))
def sZ (x:ζ):M (Bool):=tG @iter x
def mn (x:ζ):M (Bool):=tG @f_ x
def yn (it:Bq) (x:ζ):M (Bool):=
 (jn (bU (aZ x) 1 (aH J) (bU 12 (aZ x) (aH J) (aB (mn x) λL=>(aH L)))) λx1=>(aI x1 (Z af) (it (Y (ki×Unit)) _ (λz=>(aI (eE (M1 z) (aj (PA z))) (jn (α:=Y (ki×Unit)) (jn (α:=Bool×Y (ki×Unit)) (kY 97 (rnP (PA z) (M1 z)) (kY (rnP (PA z) (M1 z)) 122 (aH (J,[(((PA z),(aQ ((M1 z)+wdP (PA z) (M1 z)))),())])) (kY 65 (rnP (PA z) (M1 z)) (aH ((dg (rnP (PA z) (M1 z)) 90),[(((PA z),(aQ ((M1 z)+wdP (PA z) (M1 z)))),())])) (aH (af,[(((PA z),(aQ ((M1 z)+wdP (PA z) (M1 z)))),())])))) (kY 65 (rnP (PA z) (M1 z)) (aH ((dg (rnP (PA z) (M1 z)) 90),[(((PA z),(aQ ((M1 z)+wdP (PA z) (M1 z)))),())])) (aH (af,[(((PA z),(aQ ((M1 z)+wdP (PA z) (M1 z)))),())])))) λA=>(aI A.1 (aH A.2) (jn (bU 0 (aQ (M1 z)) (bn (rnP (PA z) (M1 z)) 95 (aH (J,A.2)) (kY 48 (rnP (PA z) (M1 z)) (aH ((dg (rnP (PA z) (M1 z)) 57),A.2)) (aH (af,A.2)))) (aH (af,A.2))) λD=>(aI D.1 (aH D.2) (c7 (b7 af)))))) λx4=>(c7 x4)) (aH J))) ([((x,0),())]))))
def ye (x:ζ):M (Bool):=yn @iter x
def pN (x:ζ):M (Bool):=yn @f_ x
def Ba (it:Bq) (x:o!):M (Int):=
 (it (Int) _ (λz=>(bU z (aZ x.1) (bY aM x.1 z λA=>(bn x.2 A (aH z) (c7 (cV z)))) (aH (-1)))) 0)
def E9 (x:o!):M (Int):=Ba @iter x
def tC (x:o!):M (Int):=Ba @f_ x
def lU (x:o!):M (Bool):=
 (aB (tC x) λz=>(Z (dg 0 z)))
def gI (x:η×j?):M (Bool):=
 (aB (kH (x.1,x.2.2)) λz=>(Z (dg x.2.1 z)))
def wC (x:c!):M (Bool):=
 (jn (bn x.2.1 3 (aH J) (aH (decide ((x.2.1:Int)=4)))) λz=>(Z z))
def rY (x:(fe×Y ic)×j?):M (Bool):=
 (bY iZ x.1.2 x.2.1 λD=>(bY iZ x.1.2 x.2.2 λA=>(jn (bn D.1 A.1 (aH (J,x.1,D,A)) (aH ((!decide ((D.a:Int)=A.a)),x.1,D,A))) λz=>(aI z.1 (Z af) (jn (aB (wC z.a) λy5=>(aI (!y5) (aH (J,z.2.2)) (aB (wC z.e) λy6=>(aI (!y6) (aH (J,z.2.2)) (bY lZ z.2.1.1.1 z.a.a λz7=>(aH (z7.2.2.2.1,z.2.2))))))) λL=>(aI L.1 (Z af) (jn (bn L.2.1.2.1 4 (aH J) (aH (decide ((L.b:Int)=4)))) λx8=>(Z x8))))))))
def AX (it:Bq) (x:Y ic):M vq:=
 (bR (dg 0 (aZ x)&&dg (aZ x) (aZ x)&&be (aN (aZ x)) 16) (it (Int×vq×Y ν) _ (λz=>(bU z.1 (aZ x) (bY iZ x z.1 λA=>(ck (dO z.1 (aj z.2.2)) (c7 ((cV z.1),(uP (K:=aM) (V:=aM) A.1 (bl .i64 ((rh (K:=aM) (V:=aM) A.1 z.2.1 0)+1)) z.2.1),(ch z.2.2 z.1 ((rh (K:=aM) (V:=aM) A.1 (uP (K:=aM) (V:=aM) A.1 (bl .i64 ((rh (K:=aM) (V:=aM) A.1 z.2.1 0)+1)) z.2.1) 0),A.1)))))) (aH z.2.2))) (0,([]:Y ν),(aC (aN (aZ x)) ((0,0):ν)))))
def E6 (x:Y ic):M vq:=AX @iter x
def qR (x:Y ic):M vq:=AX @f_ x
def uQ (x:ν):M (Bool):=
 (jn (kY 0 x.1 (aH (gC x.1 x.2)) (aH af)) λz=>(Z z))
def uR (x:fe×u!):M (Bool):=
 (jn (aB (uQ (x.2.1,(aZ x.1.2.1))) λA=>(aI A (bY tM x.1.2.1 x.2.1 λz=>(aH ((z.2==x.2.2) !=af))) (aH af))) λD=>(Z D))
def pB (it:Bq) (x:Y Yb):M (du×Bool):=
 (it (Int×Y ζ) _ (λD=>(bU D.1 (aZ x) (jn (α:=Int×Y ζ) (bY lZ x D.1 λz=>(bR (be (aj D.2+aj ([z.1])) 16) (bn z.a 0 (jQ z.2.1 0 (c7 (b7 (([]:Y ζ),af))) (aH ((cV D.1),(D.2++([z.1]))))) (jn (α:=Bool×N!) (bU z.a 1 (aH (J,(D.2++([z.1])),z)) (bU 4 z.a (aH (J,(D.2++([z.1])),z)) (aI z.b (aH (J,(D.2++([z.1])),z)) (aH ((gC (bl .i64 ((aZ x)-D.1)) z.a),(D.2++([z.1])),z))))) λx4=>(aI x4.1 (c7 (b7 (([]:Y ζ),af))) (it (Int×N!) _ (λA=>(bU A.1 x4.c (bY lZ x (bl .i64 (D.1+A.1)) λL=>(aI (Qr (.pr .str (.pr aM (.pr aM (.pr .bool (.pr aM .un))))) (L.1,L.2.1,L.a,L.b,L.g,()) (A.a,A.1,A.c,A.d,A.n,()) !=J) (aH (oU (b7 (([]:Y ζ),af)))) (c7 ((cV A.1),A.2.1,A.a,A.1,A.g)))) (aH (b7 ((bl .i64 (D.1+A.c)),A.2.1))))) (0,x4.2))))))) λx2=>(c7 x2)) (aH (D.2,J)))) (0,([]:Y ζ)))
def pw (x:Y Yb):M (du×Bool):=pB @iter x
def iw (x:Y Yb):M (du×Bool):=pB @f_ x
def pA (it:Bq) (x:fe×Y ζ):M (Bool):=
 (bR (be (aj (x.2:Y ζ)) 16) (it C! _ (λA=>(bU A.1 (aZ x.1.2.1) (bY tM x.1.2.1 A.1 λz2=>(bR (be (aj A.2.2+aj ([z2.1])) 16) (c7 ((cV A.1),A.2.1,(A.2.2++([z2.1])))))) (aB (it C! _ (λz=>(bU z.1 (aZ A.2.1.a) (bY itK A.2.1.a z.1 λz4=>(bR (be (aj z.2.2+aj ([z4.1])) 16) (c7 ((cV z.1),z.2.1,(z.2.2++([z4.1])))))) (aB (bR (be (aj z.2.2+aj z.2.1.b) 16) (bR (be (aj (z.2.2++z.2.1.b)+aj z.2.1.c) 16) (it (Int×nu×Y ζ) _ (λD=>(bU D.1 (aQ (aj ((z.2.2++z.2.1.b)++z.2.1.c))) (kK (.str) D.2.2 D.1 λL=>(jn (aB (pN L) λy8=>(aI (!y8) (aH (J,D.2)) (aH ((rh (K:=.str) (V:=.bool) L D.2.1 af),D.2)))) λx7=>(aI x7.1 (aH af) (c7 ((cV D.1),(uP (K:=.str) (V:=.bool) L J x7.2.1),x7.2.2))))) (aH J))) (0,([]:Y H!),((z.2.2++z.2.1.b)++z.2.1.c))))) λr=>Z (b7 r)))) (0,A.2)) λr=>Z (b7 r)))) (0,x)))
def pu (x:fe×Y ζ):M (Bool):=pA @iter x
def eh (x:fe×Y ζ):M (Bool):=pA @f_ x
def md (it:Bq) (x:b?):M (Bool):=
 (it (π×b?) _ (λz=>(bU z.1.2.2 (aZ x.h) (bY pW x.h z.1.2.2 λL=>(jn (bU L.1 z.1.1 (aH (J,z.2,L)) (aH ((dg (aZ z.d) L.1),z.2,L))) λD=>(aI D.1 (aH af) (jn (α:=(ν)×fe×Int×j?) (bU z.1.1 D.a (aH ((D.a,0),D.2)) (aH ((z.1.1,z.1.2.1),D.2))) λA=>(jQ A.b A.1.2 (aH af) (c7 ((A.1.1,(cV A.1.2),(cV z.1.2.2)),A.2.1))))))) (aH J))) ((0,0,0),x))
def pt (x:b?):M (Bool):=md @iter x
def gx (x:b?):M (Bool):=md @f_ x
def pD (it:Bq) (x:b?):M (Bool):=
 (jn (bU 12 (aZ x.1) (aH (J,x)) (bU 4 (aZ x.2.1) (aH (J,x)) (bU 2 (aZ x.a) (aH (J,x)) (bU 2 (aZ x.b) (aH (J,x)) (aH ((gC 60 (aZ x.h)),x)))))) λD=>(aI D.1 (Z af) (jn (bU (aZ D.d) 1 (aH (J,D.2)) (aH ((gC 4 (aZ D.d)),D.2))) λA=>(aI A.1 (Z af) (aB (iw A.2.1) λy3=>(jn (aI (!y3.2) (aH (J,A.2)) (aB (eh (A.2,y3.1)) λy5=>(aH ((!y5),A.2)))) λL=>(aI L.1 (Z af) (it F? _ (λz=>(bU z.1 (aZ L.b) (bY itK L.b z.1 λz7=>(aB (uR (z.2,z7.2,af)) λy8=>(aI (!y8) (aH af) (c7 ((cV z.1),z.2))))) (aB (aB (gx z.2) λy9=>(Z y9)) λr=>Z (b7 r)))) (0,L.2)))))))))
def px (x:b?):M (Bool):=pD @iter x
def iy (x:b?):M (Bool):=pD @f_ x
def yo (it:Bq) (x:b?):M uI:=
 (bR (dg 0 (aZ x.2.1)&&dg (aZ x.2.1) (aZ x.2.1)&&be (aN (aZ x.2.1)) 32) (bR (dg 0 (aZ x.b)&&dg (aZ x.b) (aZ x.b)&&be (aN (aZ x.b)) 1) (bR (dg 0 (aZ x.c)&&dg (aZ x.c) (aZ x.c)&&be (aN (aZ x.c)) 24) (it Y! _ (λz=>(bU z.1 (aQ (aj (aC (aN (aZ x.2.1)) ((0,[]):k!)))) (ck (dO z.1 (aj z.b)) (c7 ((cV z.1),z.2.1,z.a,(ch z.b z.1 ((-1),(geti eM z.b z.1).2)),z.g))) (aB (jn (α:=t?) (bU 0 (aZ z.h) (ck (dO 0 (aj z.h)) (aH (z.2.1,z.a,z.b,z.c,(ch z.h 0 (1,(geti iI z.h 0).2))))) (aH z.2)) λA=>(Z (A.a,A.2.1,A.e))) λr=>Z (b7 r)))) (0,0,(-1),(aC (aN (aZ x.2.1)) ((0,[]):k!)),(aC (aN (aZ x.b)) (af:Bool)),(aC (aN (aZ x.c)) ((0,(0,af)):d?)))))))
def yg (x:b?):M uI:=yo @iter x
def pQ (x:b?):M uI:=yo @f_ x
def r_ (it:Bq) (x:b?):M ky:=
 (aB (pQ x) λD=>(bR (dg 0 0&&dg 0 (aZ x.1)&&be (aN (aZ x.1)) 8) (bR (dg 0 (aZ x.b)&&dg (aZ x.b) (aZ x.b)&&be (aN (aZ x.b)) 8) (bR (dg 0 (aZ x.c)&&dg (aZ x.c) (aZ x.c)&&be (aN (aZ x.c)) 8) (it (Int×Int×S!) _ (λz=>(bU z.1 (aZ x.1) (bY lZ x.1 z.1 λA=>(bR (be (aj z.b+aj ([A.g])) 8) (c7 ((cV z.1),z.2.1,z.a,(z.b++([A.g])),z.g)))) (aH z.2.2))) (0,0,D,(aC (aN 0) (0:Int)),(aC (aN (aZ x.b)) (0:Int)),(aC (aN (aZ x.c)) (0:Int))))))))
def rK (x:b?):M ky:=r_ @iter x
def fg (x:b?):M ky:=r_ @f_ x
def fE (x:ν):M (Bool):=
 (jn (kY 0 x.1 (aH (gC x.1 x.2)) (aH af)) λz=>(Z z))
def nF (x:fe×j?):M (Bool):=
 (jn (bn x.2.1 1 (aH ((decide ((x.2.1:Int)=1)),x.1)) (bn x.2.1 2 (aH ((decide ((x.2.1:Int)=2)),x.1)) (bn x.2.1 5 (aH ((decide ((x.2.1:Int)=5)),x.1)) (bn x.2.1 12 (aH ((decide ((x.2.1:Int)=12)),x.1)) (bn x.2.1 13 (aH ((decide ((x.2.1:Int)=13)),x.1)) (bn x.2.1 14 (aH ((decide ((x.2.1:Int)=14)),x.1)) (aH ((decide ((x.2.1:Int)=15)),x.1)))))))) λx1=>(aI x1.1 (Z (decide ((x.2.2:Int)=(-1)))) (jn (bn x.2.1 3 (aH ((decide ((x.2.1:Int)=3)),x1.2)) (aH ((decide ((x.2.1:Int)=4)),x1.2))) λx2=>(aI x2.1 (aB (fE (x.2.2,(aZ x2.2.1))) λy3=>(Z y3)) (jn (bn x.2.1 6 (aH ((decide ((x.2.1:Int)=6)),x2.2)) (aH ((decide ((x.2.1:Int)=7)),x2.2))) λL=>(aI L.1 (jn (aB (fE (x.2.2,(aZ L.a))) λy6=>(aI y6 (bY tM L.a x.2.2 λz7=>(aH (!z7.2))) (aH af))) λx5=>(Z x5)) (jn (bn x.2.1 8 (aH ((decide ((x.2.1:Int)=8)),L.2)) (bn x.2.1 9 (aH ((decide ((x.2.1:Int)=9)),L.2)) (bn x.2.1 10 (aH ((decide ((x.2.1:Int)=10)),L.2)) (aH ((decide ((x.2.1:Int)=11)),L.2))))) λD=>(aI D.1 (jn (aB (fE (x.2.2,(aZ D.a))) λy10=>(aI y10 (bY tM D.a x.2.2 λz11=>(aH z11.2)) (aH af))) λx9=>(Z x9)) (jn (bn x.2.1 16 (aH ((decide ((x.2.1:Int)=16)),D.2)) (bn x.2.1 17 (aH ((decide ((x.2.1:Int)=17)),D.2)) (bn x.2.1 18 (aH ((decide ((x.2.1:Int)=18)),D.2)) (aH ((decide ((x.2.1:Int)=19)),D.2))))) λA=>(aI A.1 (aB (fE (x.2.2,(aZ A.b))) λy13=>(Z y13)) (jn (bn x.2.1 20 (aH ((decide ((x.2.1:Int)=20)),A.2)) (aH ((decide ((x.2.1:Int)=21)),A.2))) λz=>(aI z.1 (aB (fE (x.2.2,(aZ z.d))) λy15=>(Z y15)) (jn (bn x.2.1 22 (aH ((decide ((x.2.1:Int)=22)),z.2)) (aH ((decide ((x.2.1:Int)=23)),z.2))) λx16=>(aI x16.1 (aB (fE (x.2.2,(aZ x16.c))) λy17=>(Z y17)) (Z af)))))))))))))))
def vE (it:Bq) (x:fe×w?):M (Bool):=
 (jn (jQ (aZ x.2.1) (aZ x.1.2.1) (aH (J,x.1)) (jQ (aZ x.b) (aZ x.1.b) (aH (J,x.1)) (aH ((!decide (((aZ x.g):Int)=(aZ x.1.c))),x.1)))) λA=>(aI A.1 (Z af) (it F? _ (λz=>(bU z.1 (aZ A.b) (bY itK A.b z.1 λD=>(aB (fE (D.2,(aZ z.a))) λL=>(aI (!L) (aH af) (c7 ((cV z.1),z.2))))) (aH J))) (0,A.2))))
def AB (x:fe×w?):M (Bool):=vE @iter x
def lM (x:fe×w?):M (Bool):=vE @f_ x
def pP (x:P?):M (Bool):=
 (bn x.b 6 (bY eM x.2.1.1 x.g λz1=>(Z (decide ((z1.1:Int)=(-1))))) (bn x.b 10 (jn (α:=Bool) (bY eM x.2.1.1 x.g λz3=>(bn z3.1 (-1) (bY eM x.2.1.1 x.g λz4=>(aH (decide (((aZ z4.2):Int)=0)))) (aH af))) λx2=>(Z x2)) (bn x.b 8 (jn (α:=Bool) (bY eM x.2.1.1 x.g λz6=>(bn z6.1 (-1) (bY eM x.2.1.1 x.g λz7=>(aB (lU (z7.2,x.a)) λy8=>(aH (!y8)))) (aH af))) λx5=>(Z x5)) (jn (bn x.b 7 (aH ((decide ((x.b:Int)=7)),x.1,x.2.1)) (aH ((decide ((x.b:Int)=11)),x.1,x.2.1))) λA=>(aI A.1 (bY eM A.a x.g λz10=>(Z (decide ((z10.1:Int)=x.a)))) (bn x.b 9 (bY eM A.a x.g λz11=>(aB (lU (z11.2,x.a)) λy12=>(Z y12))) (bn x.b 12 (Z (decide ((A.b:Int)=(-1)))) (bn x.b 13 (Z (decide ((A.b:Int)=x.a))) (bn x.b 14 (bY iI A.h x.a λz13=>(Z (!z13.2.2))) (bn x.b 15 (bY iI A.h x.a λz14=>(Z z14.2.2)) (jn (bn x.b 16 (aH ((decide ((x.b:Int)=16)),A.2)) (bn x.b 18 (aH ((decide ((x.b:Int)=18)),A.2)) (aH ((decide ((x.b:Int)=19)),A.2)))) λz=>(aI z.1 (bY itK z.2.1.a x.g λz16=>(bY eM z.a z16.2 λz17=>(Z (decide ((z17.1:Int)=x.a))))) (bn x.b 20 (jn (jQ x.g x.a (bY iI z.h x.g λz19=>(aH (decide ((z19.1:Int)=0)))) (aH af)) λx18=>(Z x18)) (bn x.b 21 (jn (jQ x.g x.a (bY iI z.h x.g λz21=>(aH (decide ((z21.1:Int)=5)))) (aH af)) λx20=>(Z x20)) (bn x.b 22 (bY (.bool) z.c x.g λL=>(Z (!L))) (bn x.b 23 (bY (.bool) z.c x.g λD=>(Z D)) (Z J)))))))))))))))))
def lA (x:P?):M (Bool):=
 (jn (aB (lM (x.1,x.2.1)) λy2=>(aI (!y2) (aH (J,x.1,x.2.1)) (aB (fE (x.a,(aZ x.1.c))) λy3=>(aI (!y3) (aH (J,x.1,x.2.1)) (aB (nF (x.1,x.e)) λy4=>(aH ((!y4),x.1,x.2.1))))))) λz=>(aI z.1 (Z af) (bY iI z.h x.a λA=>(bn x.b 1 (Z (decide ((A.1:Int)=1))) (bn x.b 17 (jn (α:=Bool) (bn A.1 4 (bn A.2.1 x.g (bY itK z.2.1.a x.g λz7=>(bY eM z.a z7.2 λL=>(aH (decide ((L.1:Int)=(-1)))))) (aH af)) (aH af)) λx6=>(Z x6)) (jn (bn A.1 2 (aB (pP (z.2.1,z.2.2,x.2.2)) λD=>(aH D)) (aH af)) λx9=>(Z x9)))))))
def mh (x:fe×S!):M (Bool):=
 (jn (aB (lM (x.1,x.2.1)) λz=>(aI z (bn (aZ x.a) (aZ x.1.1) (bn (aZ x.b) (aZ x.1.b) (aH (decide (((aZ x.g):Int)=(aZ x.1.c)))) (aH af)) (aH af)) (aH af))) λA=>(Z A))
def mT (x:fe×c!):M (Bool):=
 (jn (bn x.a 1 (aH (J,x)) (aH ((decide ((x.a:Int)=2)),x))) λz=>(aI z.1 (Z (decide ((z.f:Int)=(-1)))) (jn (kY 0 z.f (bU z.f (aZ z.2.1.h) (bY pW z.2.1.h z.f λA=>(aH (decide ((A.1:Int)=z.a)))) (aH af)) (aH af)) λD=>(Z D))))
def m7 (it:Bq) (x:fe×M!):M (Bool):=
 (jn (bn x.b 3 (bY lZ x.1.1 x.c λz2=>(aH ((!decide ((z2.2.2.1:Int)=0)),x.2))) (bn x.b 4 (bY lZ x.1.1 x.c λz3=>(aH ((!decide ((z3.2.2.1:Int)=0)),x.2))) (aH (af,x.2)))) λz=>(jn (bn z.b 5 (bn z.b 4 (aH (z.2.1,z.2.2,J,J)) (aH (z.2.1,z.2.2,J,(decide ((z.b:Int)=22))))) (bn z.b 4 (aH (z.2.1,z.2.2,z.1,J)) (aH (z.2.1,z.2.2,z.1,(decide ((z.b:Int)=22)))))) λx4=>(it (Int×ky×ic×L!) _ (λA=>(bU A.1 2 (bR (dg 0 A.1&&gC A.1 2) (lt (geti ((.sl aM)) [x4.2.1.d,x4.2.1.n] A.1) λz6=>(jn (α:=Bool×ky×ic×L!) (bU 0 (aZ z6) (bR (dg 0 A.1&&gC A.1 2) (bR (dO A.1 2) (lt (geti (.bool) [A.b,A.g] A.1) λz8=>(aH ((!z8),A.2))))) (aH (af,A.2))) λx7=>(aI x7.1 (aH af) (it (ν×ky×ic×L!) _ (λD=>(bU D.1.2 (aZ z6) (bY aM z6 D.1.2 λL=>(jn (kY L D.1.1 (aH (J,D.2)) (bY aM D.2.1.e D.a.1 λz12=>(aH ((dg z12 L),D.2)))) λx11=>(aI x11.1 (aH (b7 af)) (c7 ((L,(cV D.1.2)),x11.2))))) (aH (oU ((cV A.1),D.2))))) ((0,0),x7.2)))))) (aH J))) (0,x4))))
def mR (x:fe×M!):M (Bool):=m7 @iter x
def gk (x:fe×M!):M (Bool):=m7 @f_ x
def m6 (it:Bq) (x:M!):M (Bool):=
 (bn x.a 3 (bY aM x.1.2.1 x.b λz1=>(Z (decide ((x.c:Int)=z1)))) (bn x.a 23 (bY aM x.1.a x.b λz2=>(Z (decide ((x.c:Int)=z2)))) (bn x.a 5 (jn (bn x.c 0 (aH J) (aH (decide ((x.c:Int)=1)))) λx3=>(Z x3)) (jn (bn x.a 4 (aH ((decide ((x.a:Int)=4)),x)) (aH ((decide ((x.a:Int)=22)),x))) λD=>(aI D.1 (Z J) (bn x.a 18 (it ((Int×Bool×Int)×c!) _ (λA=>(bU A.1.2.2 (aZ D.2.1.1.e) (jn (bY iI D.2.1.1.e A.1.2.2 λz7=>(jn (bn z7.1 3 (aH ((decide ((z7.2.1:Int)=A.b)),A.2)) (aH (af,A.2))) λx8=>(aI x8.1 (aI A.1.2.1 (aH (((cV A.1.1),J),x8.2)) (aH (((cV A.1.1),(decide ((x8.c:Int)=A.1.2.2))),x8.2))) (aH ((A.1.1,A.1.2.1),x8.2))))) λx6=>(c7 ((x6.1.1,x6.1.2,(cV A.1.2.2)),x6.2))) (aB (jn (α:=Bool) (aI A.1.2.1 (aH J) (bn A.1.1 0 (aH (decide ((A.c:Int)=(-1)))) (aH af))) λx9=>(Z x9)) λr=>Z (b7 r)))) ((0,af,0),D.2.2)) (bn x.a 19 (it Yd3 _ (λz=>(bU z.1.2 (aZ D.2.1.1.e) (jn (bY iI D.2.1.1.e z.1.2 λz12=>(jn (bn z12.1 3 (aH ((decide ((z12.2.1:Int)=z.b)),z.2)) (aH (af,z.2))) λL=>(aI L.1 (aH ((cV z.1.1),L.2)) (aH (z.1.1,L.2))))) λx11=>(c7 ((x11.1,(cV z.1.2)),x11.2))) (aH (decide ((z.c:Int)=z.1.1))))) ((0,0),D.2.2)) (Z (decide ((D.d:Int)=0))))))))))
def qH (x:M!):M (Bool):=m6 @iter x
def gU (x:M!):M (Bool):=m6 @f_ x
def nP (x:eL×Int):M (Bool):=
 (jn (bn x.1.1 3 (aH (decide ((x.1.2.1:Int)=x.2))) (aH af)) λz=>(Z z))
def MS (x:θ):M θ:=
 (aI (ax (aj x) 0) (zZ (Z ([]:θ)) (bR (be (aj ([]:θ)+aj x) 1) (Z (([]:θ)++x)))) (bR (be (aj ([]:θ)+aj x) 1) (Z (([]:θ)++x))))
def Tf (x:θ):M θ:=chk (be (aj x) 1) λ_=>Z x
def Is (x:θ):M θ:=
 (aI (ax (aj x) 0) (zZ (Z ([]:θ)) (bR (be (aj ([]:θ)+aj x) 1) (Z (([]:θ)++x)))) (bR (be (aj ([]:θ)+aj x) 1) (Z (([]:θ)++x))))
def MR (x:θ):M θ:=chk (be (aj x) 1) λ_=>Z x
def MP (x:Y eL):M (Y eL):=
 (aI (ax (aj x) 0) (zZ (Z ([]:Y eL)) (bR (be (aj ([]:Y eL)+aj x) 24) (Z (([]:Y eL)++x)))) (bR (be (aj ([]:Y eL)+aj x) 24) (Z (([]:Y eL)++x))))
def Te (x:Y eL):M (Y eL):=chk (be (aj x) 24) λ_=>Z x
def Iq (x:Y eL):M (Y eL):=
 (aI (ax (aj x) 0) (zZ (Z ([]:Y eL)) (bR (be (aj ([]:Y eL)+aj x) 24) (Z (([]:Y eL)++x)))) (bR (be (aj ([]:Y eL)+aj x) 24) (Z (([]:Y eL)++x))))
def MO (x:Y eL):M (Y eL):=chk (be (aj x) 24) λ_=>Z x
def Ir (x:η):M η:=
 (aI (ax (aj x) 0) (zZ (Z ([]:η)) (bR (be (aj ([]:η)+aj x) 8) (Z (([]:η)++x)))) (bR (be (aj ([]:η)+aj x) 8) (Z (([]:η)++x))))
def Cl (x:η):M η:=chk (be (aj x) 8) λ_=>Z x
def tX (it:Bq) (x:w?):M Yd2:=
 (bR (dg 0 (aZ x.1)&&dg (aZ x.1) (aZ x.1)&&be (aN (aZ x.1)) 32) (it (Int×uI×Int×Y (Int×η)) _ (λz=>(bU z.1 (aZ x.1) (bY eM x.1 z.1 λA=>(aB (Fe A.2) λy3=>(ck (dO z.1 (aj z.e)) (c7 ((cV z.1),z.2.1,z.a,(ch z.e z.1 (A.1,y3))))))) (aB (aB (MR z.2.1.a) λL=>(aB (MO z.2.1.e) λD=>(Z (z.2.1.2.1,z.e,L,D)))) λr=>Z (b7 r)))) (0,x,0,(aC (aN (aZ x.1)) ((0,[]):k!)))))
def yf (x:w?):M Yd2:=tX @iter x
def lQ (x:w?):M Yd2:=tX @f_ x
abbrev I?:=kh×(θ)×(Y eL)×Int
def sj (it:Bq) (x:π×E!):M Yd2:=
 (it (ν×I?) _ (λz=>(bU z.1.2 (aZ x.e) (jn (kK iI z.b z.1.2 λL=>(jn (aB (nP (L,x.1.2.1)) λy5=>(aI y5 (bU z.1.1 0 (aH (J,z.2)) (aH ((decide ((z.1.2:Int)=x.1.2.2)),z.2))) (aH (af,z.2)))) λA=>(aI A.1 (aH (z.1.2,A.2)) (aH (z.1.1,A.2))))) λD=>(c7 ((D.1,(cV z.1.2)),D.2))) (aB (jn (α:=E!) (kY 0 z.1.1 (ck (dO z.1.1 (aj z.b)) (aH (z.2.1,z.a,(ch z.b z.1.1 (4,(geti iI z.b z.1.1).2))))) (aH (z.2.1,z.a,z.b))) λx6=>(Z (z.1.1,x6))) λr=>Z (b7 r)))) (((-1),0),x.2.1,x.a,x.e,x.1.1))
def v_ (x:π×E!):M Yd2:=sj @iter x
def kP (x:π×E!):M Yd2:=sj @f_ x
def oe (it:Bq) (x:ν×E!):M Yd2:=
 (it (ν×I?) _ (λz=>(bU z.1.2 (aZ x.e) (jn (α:=Int×I?) (kK iI z.b z.1.2 λD=>(aB (nP (D,x.1.2)) λL=>(aI L (ck (dO z.1.2 (aj z.b)) (aH ((cV z.1.1),z.2.1,z.a,(ch z.b z.1.2 (4,(geti iI z.b z.1.2).2)),z.g))) (aH (z.1.1,z.2))))) λA=>(c7 ((A.1,(cV z.1.2)),A.2))) (aH (z.1.1,z.2.1,z.a,z.b)))) ((0,0),x.2.1,x.a,x.e,x.1.1))
def rO (x:ν×E!):M Yd2:=oe @iter x
def ik (x:ν×E!):M Yd2:=oe @f_ x
def rZ (x:Int):M (Bool):=
 (Z (!decide ((x:Int)=x)))
def yi (x:ν):M (Bool):=
 (jn (aB (rZ x.1) λA=>(aI A (aB (rZ x.2) λz=>(aI (!z) (aH J) (aH (gC x.1 x.2)))) (aH (gC x.1 x.2)))) λD=>(Z D))
def tf (x:Int):M (Int):=
 (kY 4294967296 x U (kY 65536 x U (kY 256 x U (mK (bl .u8 x) ([0,1,2,2,3,3,3,3,4,4,4,4,4,4,4,4,5,5,5,5,5,5,5,5,5,5,5,5,5,5,5,5,6,6,6,6,6,6,6,6,6,6,6,6,6,6,6,6,6,6,6,6,6,6,6,6,6,6,6,6,6,6,6,6,7,7,7,7,7,7,7,7,7,7,7,7,7,7,7,7,7,7,7,7,7,7,7,7,7,7,7,7,7,7,7,7,7,7,7,7,7,7,7,7,7,7,7,7,7,7,7,7,7,7,7,7,7,7,7,7,7,7,7,7,7,7,7,7,8,8,8,8,8,8,8,8,8,8,8,8,8,8,8,8,8,8,8,8,8,8,8,8,8,8,8,8,8,8,8,8,8,8,8,8,8,8,8,8,8,8,8,8,8,8,8,8,8,8,8,8,8,8,8,8,8,8,8,8,8,8,8,8,8,8,8,8,8,8,8,8,8,8,8,8,8,8,8,8,8,8,8,8,8,8,8,8,8,8,8,8,8,8,8,8,8,8,8,8,8,8,8,8,8,8,8,8,8,8,8,8,8,8,8,8,8,8,8,8,8,8,8,8,8,8,8,8]) (Z (bl .i64 (0+(bl .i64 (ann ([0,1,2,2,3,3,3,3,4,4,4,4,4,4,4,4,5,5,5,5,5,5,5,5,5,5,5,5,5,5,5,5,6,6,6,6,6,6,6,6,6,6,6,6,6,6,6,6,6,6,6,6,6,6,6,6,6,6,6,6,6,6,6,6,7,7,7,7,7,7,7,7,7,7,7,7,7,7,7,7,7,7,7,7,7,7,7,7,7,7,7,7,7,7,7,7,7,7,7,7,7,7,7,7,7,7,7,7,7,7,7,7,7,7,7,7,7,7,7,7,7,7,7,7,7,7,7,7,8,8,8,8,8,8,8,8,8,8,8,8,8,8,8,8,8,8,8,8,8,8,8,8,8,8,8,8,8,8,8,8,8,8,8,8,8,8,8,8,8,8,8,8,8,8,8,8,8,8,8,8,8,8,8,8,8,8,8,8,8,8,8,8,8,8,8,8,8,8,8,8,8,8,8,8,8,8,8,8,8,8,8,8,8,8,8,8,8,8,8,8,8,8,8,8,8,8,8,8,8,8,8,8,8,8,8,8,8,8,8,8,8,8,8,8,8,8,8,8,8,8,8,8,8,8,8,8]) (bl .u8 x))))))))))
def wz (x:Int):M (Int):=
 (aB (tf x) λz=>(Z z))
def lz (it:Bq) (x:ν×η):M η:=
 (it k! _ (λD=>(bU D.1 x.1.2 (it k! _ (λz=>(jn (bU x.1.1 z.1 (kK aM z.2 z.1 λz4=>(kK aM z.2 (bl .i64 (z.1-1)) λz5=>(aB (yi (z4,z5)) λy6=>(aH (y6,z.2))))) (aH (af,z.2))) λA=>(aI A.1 (kK aM A.2 (bl .i64 (z.1-1)) λL=>(kK aM A.2 z.1 λz8=>(ck (dO z.1 (aj A.2)) (ck (dO (bl .i64 (z.1-1)) (aj (ch A.2 z.1 L))) (c7 ((bl .i64 (z.1-1)),(ch (ch A.2 z.1 L) (bl .i64 (z.1-1)) z8))))))) (aH (oU ((cV D.1),A.2)))))) D) (aH D.2))) ((cV x.1.1),x.2))
def lw (x:ν×η):M η:=lz @iter x
def gq (x:ν×η):M η:=lz @f_ x
def py (it:Bq) (x:π×η):M η:=
 (it ((Int×Int×Int×Bool×Bool)×η) _ (λz=>(kY (bl .i64 (z.1.2.1-z.1.1)) 12 (aB (gq ((z.1.1,z.1.2.1),z.2)) λA=>(bR (ax (aj z.2) (aj A)&&J) (aH A))) (bn z.1.a 0 U (aI (!z.1.b) U U)))) ((x.1.1,x.1.2.1,x.1.2.2,J,J),x.2))
def po (x:π×η):M η:=py @iter x
def kf (x:π×η):M η:=py @f_ x
def zo (x:η):M η:=
 (aB (wz (bl .u64 (aZ x))) λA=>(aB (kf ((0,(aZ x),A),x)) λz=>(bR (ax (aj x) (aj z)&&J) (Z z))))
def Bb (it:Bq) (x:η):M η:=
 (bU (aZ x) 2 (Z x) (it k! _ (λz=>(bU z.1 (aZ z.2) (kK aM z.2 z.1 λD=>(kK aM z.2 (bl .i64 (z.1-1)) λA=>(bn D A (bR (dg 0 z.1&&gC z.1 (aj z.2)) U) (c7 ((cV z.1),z.2))))) (aH z.2))) (1,x)))
def AC (x:η):M η:=Bb @iter x
def mY (x:η):M η:=Bb @f_ x
def qe (x:ν):M (Bool×Int):=
 (Z ((decide ((x.1:Int)=x.2)),x.2))
def wN (it:Bq) (x:o!):M K!:=
 (it K! _ (λz=>(bU z.1 (aZ x.1) (kK aM z.2.1 z.1 λD=>(aB (qe (D,z.2.2)) λA=>(aI A.1 (aH (z.1,z.2.1,A.2)) (c7 ((cV z.1),z.2.1,A.2))))) (aH ((-1),z.2)))) (0,x))
def wg (x:o!):M K!:=wN @iter x
def oK (x:o!):M K!:=wN @f_ x
def uU (it:Bq) (x:o!):M k!:=
 (aB (oK x) λA=>(bR (ax (aj x.1) (aj A.2.1)&&J) (bn A.1 (-1) U (it (ν×v!) _ (λz=>(bU z.1.2 (aZ z.2.1) (jn (kK aM z.2.1 z.1.2 λL=>(aB (qe (L,z.2.2)) λD=>(aI (!D.1) (ck (dO z.1.1 (aj z.2.1)) (aH ((cV z.1.1),(ch z.2.1 z.1.1 L),D.2))) (aH (z.1.1,z.2.1,D.2))))) λx3=>(c7 ((x3.1,(cV z.1.2)),x3.2))) (aB (ck (dg 0 z.1.1&&gC z.1.1 (aj z.2.1)) (bR (dg 0 z.1.1&&gC z.1.1 (aj (dx (aN z.1.1) z.2.1++aC (aj z.2.1-aN z.1.1) (0:Int)))) (Z (z.2.2,(dx (aN z.1.1) (dx (aN z.1.1) z.2.1++aC (aj z.2.1-aN z.1.1) (0:Int))))))) λr=>Z (b7 r)))) ((A.1,(cV A.1)),A.2)))))
def uO (x:o!):M k!:=uU @iter x
def jZ (x:o!):M k!:=uU @f_ x
def il (x:T!):M (uI×u!):=
 (aB (lA (x.1,x.2.1,x.a,x.b,x.c)) λy1=>(aI (!y1) (Z ((([]:Y k!),0,([]:θ),([]:Y eL)),0,af)) (aB (lQ x.2.1) λA=>(jn (α:=Y!) (bn x.b 1 (ck (dO x.a (aj A.e)) (aH (0,A.1,0,A.2.1,A.a,(ch A.e x.a (2,(geti iI A.e x.a).2))))) (bn x.b 2 (ck (dO x.a (aj A.e)) (aH (0,A.1,0,A.2.1,A.a,(ch A.e x.a (5,(geti iI A.e x.a).2))))) (jn (α:=Bool×fe×Y!) (bn x.b 6 (aH ((decide ((x.b:Int)=6)),x.1,A.1,x.a,0,A.2)) (aH ((decide ((x.b:Int)=10)),x.1,A.1,x.a,0,A.2))) λx4=>(aI x4.1 (ck (dO x.c (aj x4.d)) (aH (0,x4.a,x4.c,(ch x4.d x.c (x4.b,(geti eM x4.d x.c).2)),x4.n))) (jn (bn x.b 7 (aH ((decide ((x.b:Int)=7)),x4.2)) (aH ((decide ((x.b:Int)=11)),x4.2))) λz=>(aI z.1 (ck (dO x.c (aj z.d)) (aH (0,z.a,z.c,(ch z.d x.c ((-1),(geti eM z.d x.c).2)),z.n))) (bn x.b 8 (kK eM z.d x.c λz6=>U) (bn x.b 9 (kK eM z.d x.c λz7=>U) (bn x.b 12 (aH (0,z.e)) (bn x.b 13 (aH (0,(-1),z.g)) (bn x.b 14 (ck (dO z.b (aj z.p)) (aH (0,z.a,z.c,z.d,z.f,(ch z.p z.b ((geti iI z.p z.b).1,((geti iI z.p z.b).2).1,J))))) (bn x.b 15 (ck (dO z.b (aj z.p)) (aH (0,z.a,z.c,z.d,z.f,(ch z.p z.b ((geti iI z.p z.b).1,((geti iI z.p z.b).2).1,af))))) (bn x.b 16 (bY itK z.2.1.a x.c λz8=>(ck (dO z8.2 (aj z.d)) (ck (dO z.b (aj z.p)) (ck (dO z.b (aj (ch z.p z.b (3,(geti iI z.p z.b).2)))) (aH (0,z.a,z.c,(ch z.d z8.2 ((-1),(geti eM z.d z8.2).2)),z.f,(ch (ch z.p z.b (3,(geti iI z.p z.b).2)) z.b ((geti iI (ch z.p z.b (3,(geti iI z.p z.b).2)) z.b).1,x.c,((geti iI (ch z.p z.b (3,(geti iI z.p z.b).2)) z.b).2).2)))))))) (bn x.b 17 (bY itK z.2.1.a x.c λz9=>(ck (dO z9.2 (aj z.d)) (ck (dO z.b (aj z.p)) (ck (dO z.b (aj (ch z.p z.b (2,(geti iI z.p z.b).2)))) (aH (0,z.a,z.c,(ch z.d z9.2 (z.b,(geti eM z.d z9.2).2)),z.f,(ch (ch z.p z.b (2,(geti iI z.p z.b).2)) z.b ((geti iI (ch z.p z.b (2,(geti iI z.p z.b).2)) z.b).1,0,((geti iI (ch z.p z.b (2,(geti iI z.p z.b).2)) z.b).2).2)))))))) (bn x.b 18 (aB (kP ((z.a,x.g),z.h)) λL=>(bR (ax (aj z.p) (aj L.e)&&(ax (aj z.f) (aj L.a)&&(ax (aj z.d) (aj L.2.1)&&J))) (aH (L.1,z.a,z.c,L.2)))) (bn x.b 19 (aB (ik ((z.a,x.c),z.h)) λD=>(bR (ax (aj z.p) (aj D.e)&&(ax (aj z.f) (aj D.a)&&(ax (aj z.d) (aj D.2.1)&&J))) (aH (D.1,z.a,z.c,D.2)))) (bn x.b 20 (ck (dO x.c (aj z.p)) (aH (0,z.a,z.c,z.d,z.f,(ch z.p x.c (1,(geti iI z.p x.c).2))))) (bn x.b 22 (ck (dO x.c (aj z.f)) (aH (0,z.a,z.c,z.d,(ch z.f x.c J),z.p))) (aH (0,z.a,z.g)))))))))))))))))))) λx3=>(Z ((x3.b,x3.2.1,x3.g),x3.1,J))))))
def rW (x:w?):M (Yd6×(π)×f?):=
 (bR (dg 0 (aZ x.1)&&dg (aZ x.1) (aZ x.1)&&be (aN (aZ x.1)) 32&&decide (((aZ x.1):Int)=3)) (jn (α:=uI×Int×(π)×f?) (bU 0 (aZ x.1) (bY eM x.1 0 λz=>(aB (qu z.2) λL=>(bU 1 (aZ x.1) (bY eM x.1 1 λD=>(aB (qu D.2) λy5=>(bU 2 (aZ x.1) (bY eM x.1 2 λz6=>(aB (qu z6.2) λy7=>(bU 3 (aZ x.1) (bY eM x.1 3 λz8=>(aB (qu z8.2) λy9=>U)) (aH (x,0,(z.1,D.1,z6.1),L,y5,y7))))) (aH (x,0,(z.1,D.1,0),L,y5,([]:η)))))) (aH (x,0,(z.1,0,0),L,([]:η),([]:η)))))) (aH (x,0,(0,0,0),([]:η),([]:η),([]:η)))) λA=>(aB (Tf A.1.a) λy10=>(aB (Te A.1.e) λy11=>(Z ((A.1.2.1,y10,y11),A.2.2))))))
def mr (x:T!):M (uI×u!):=
 (aB (lA (x.1,x.2.1,x.a,x.b,x.c)) λy1=>(aI (!y1) (Z ((([]:Y k!),0,([]:θ),([]:Y eL)),0,af)) (aB (rW x.2.1) λD=>(jn (α:=Int×Yd6×Int×((Int×η)×(Int×η)×Int)×Bool×η) (bn x.b 1 (mK x.a D.1.2.2 U) (bn x.b 2 (mK x.a D.1.2.2 U) (jn (α:=Bool×fe×Yd6×Int×Int×(π)×f?) (bn x.b 6 (aH ((decide ((x.b:Int)=6)),x.1,D.1,x.a,0,D.2)) (aH ((decide ((x.b:Int)=10)),x.1,D.1,x.a,0,D.2))) λA=>(aI A.1 U (jn (bn x.b 7 (aH ((decide ((x.b:Int)=7)),A.2.1,A.a,A.b,A.c,(A.d.1,A.f,A.d.2.1,A.i,A.d.2.2),A.r)) (aH ((decide ((x.b:Int)=11)),A.2.1,A.a,A.b,A.c,(A.d.1,A.f,A.d.2.1,A.i,A.d.2.2),A.r))) λz=>(aI z.1 U (bn x.b 8 (bn x.c 0 U (bn x.c 1 U (bn x.c 2 (bR (be (aj z.n+aj ([z.b])) 8) (aB (zo (z.n++([z.b]))) λy6=>(bR (ax (aj (z.n++([z.b]))) (aj y6)&&J) (aB (mY y6) λy7=>(bR (ax (aj y6) (aj y7)&&J) (aH (0,z.a,z.c,((z.d.1,z.d.2.1),(z.d.a,z.d.b),z.d.g),J,y7))))))) U))) (bn x.b 9 (bn x.c 0 U (bn x.c 1 U (bn x.c 2 (aB (jZ (z.n,z.b)) λy8=>(bR (ax (aj z.n) (aj z.n)&&J) (aH (0,z.a,z.c,((z.d.1,z.d.2.1),(z.d.a,z.d.b),z.d.g),af,y8.2)))) U))) (bn x.b 12 (aH (0,(z.b,z.a.2),z.c,((z.d.1,z.d.2.1),(z.d.a,z.d.b),z.d.g),J,z.n)) (bn x.b 13 (aH (0,((-1),z.a.2),z.c,((z.d.1,z.d.2.1),(z.d.a,z.d.b),z.d.g),J,z.n)) (bn x.b 14 (mK z.b z.a.2.2 U) (bn x.b 15 (mK z.b z.a.2.2 U) (bn x.b 16 U (bn x.b 17 U (bn x.b 18 U (bn x.b 19 U (bn x.b 20 (mK x.c z.a.2.2 U) (bn x.b 22 (mK x.c z.a.2.1 U) (aH (0,z.a,z.c,((z.d.1,z.d.2.1),(z.d.a,z.d.b),z.d.g),J,z.n)))))))))))))))))))) λL=>(Z (([L.b.1,L.b.2.1,(L.b.2.2,L.h)],L.2.1),L.1,J))))))
def tR (x:T!):M (uI×u!):=orE (il x) (mr x)
def mi (x:fe×M!):M (ky×Bool):=
 (jn (α:=Bool×I!) (aB (mh (x.1,x.2.1)) λy2=>(aI (!y2) (aH (J,x.1,x.2.1,x.2.2,0)) (bU x.a 0 (aH (J,x.1,x.2.1,x.2.2,0)) (kY (aZ x.1.c) x.a (aH (J,x.1,x.2.1,x.2.2,0)) (bU x.b 1 (aH (J,x.1,x.2.1,x.2.2,0)) (aH ((gC 23 x.b),x.1,x.2.1,x.2.2,0))))))) λD=>(aI D.1 (Z (((([]:Y k!),0,([]:θ),([]:Y eL)),([]:η),([]:η),([]:η)),af)) (jn (aB (lA (D.2.1,D.a.1,D.b.1,D.b.2.1,D.b.a)) λy4=>(aI (!y4) (aH (J,D.2)) (aB (mT (D.2.1,D.b)) λy5=>(aI (!y5) (aH (J,D.2)) (aB (gk (D.2.1,D.a,D.b)) λy6=>(aI (!y6) (aH (J,D.2)) (aB (gU (D.a,D.b)) λy7=>(aH ((!y7),D.2))))))))) λx3=>(aI x3.1 (Z (((([]:Y k!),0,([]:θ),([]:Y eL)),([]:η),([]:η),([]:η)),af)) (jn (α:=Int×I!) (bn x3.b.2.1 18 (aH (x3.b.b,x3.2)) (aH ((-1),x3.2))) λz=>(aB (tR (z.2.1,z.a.1,z.b.1,z.b.2.1,z.b.a,z.1)) λy9=>(aI (!y9.2.2) (Z (((([]:Y k!),0,([]:θ),([]:Y eL)),([]:η),([]:η),([]:η)),af)) (aB (Cl z.a.2.1) λy10=>(aB (Cl z.a.a) λL=>(aB (qu z.a.e) λy12=>(jn (bn z.b.2.1 4 (ck (dO z.b.a (aj y10)) (aH (z.b,z.g,y9.1,(ch y10 z.b.a z.b.b),L,y12))) (bn z.b.2.1 22 (ck (dO z.b.a (aj L)) (aH (z.b,z.g,y9.1,y10,(ch L z.b.a z.b.b),y12))) (aH (z.b,z.g,y9.1,y10,L,y12)))) λA=>(kK aM A.h A.1.1 λz14=>(ck (dO A.1.1 (aj A.h)) (Z ((A.a,A.b,A.c,(ch A.h A.1.1 (cV z14))),J)))))))))))))))
def k_ (it:Bq) (x:Yd3×Y θ):M (Bool×Y θ):=
 (it ((ν×Int)×Y θ) _ (λA=>(bU A.1.2 2 (bR (dg 0 A.1.2&&gC A.1.2 2) (lt (geti ((.sl aM)) [x.1.f,x.1.p] A.1.2) λz2=>(it ((ν×Int)×Y θ) _ (λz=>(bU z.1.2 (aZ z2) (bY aM z2 z.1.2 λL=>(jn (bU L 0 (aH (((z.1.1.1,aQ (aN z.1.1.2)),J),z.2)) (kY (aQ (aN z.1.1.2)) L (aH (((z.1.1.1,aQ (aN z.1.1.2)),J),z.2)) (bR (dO L (aN z.1.1.2)) (mK z.1.1.1 z.2 (bY (.bool) (ry (T:=.bool) z.2 z.1.1.1) L λz6=>(aH (((z.1.1.1,aQ (aN z.1.1.2)),(!z6)),z.2))))))) λD=>(aI D.1.2 (aH (b7 (af,D.2))) (c7 (((D.1.1.1,aQ (aN D.1.1.2)),(cV z.1.2)),D.2))))) (aH (oU (((z.1.1.1,aQ (aN z.1.1.2)),(cV A.1.2)),z.2))))) (((A.1.1.1,aQ (aN A.1.1.2)),0),A.2)))) (aH (J,A.2)))) (((x.1.1.1,aQ (aN x.1.1.2)),0),x.2))
def nW (x:Yd3×Y θ):M (Bool×Y θ):=k_ @iter x
def eV (x:Yd3×Y θ):M (Bool×Y θ):=k_ @f_ x
def oa (it:Bq) (x:q?):M ν:=
 (bU 400 (aZ x.2) (Z (0,2)) (aB (iy x.1) λy1=>(aI (!y1) (Z (0,1)) (aB (fg x.1) λy2=>(bR (dg 0 (aZ x.1.c)&&dg (aZ x.1.c) (aZ x.1.c)&&be (aN (aZ x.1.c)) 24) (it (Int×(fe×Y ic)×ky×(η)×Y θ) _ (λA=>(bU A.1 (aZ x.2) (bY iZ x.2 A.1 λD=>(aB (mi (A.2.1.1,A.a,D)) λy5=>(jn (aI (!y5.2) (aH (J,A.2.1,A.a,A.b,D,y5.1,A.g)) (ck (dO D.1 (aj A.b)) (aB (eV (((D.1,aQ (aN (sJ A.b D.1))),D),A.g)) λy7=>(aH ((!y7.1),A.2.1,A.a,A.b,D,y5.1,y7.2))))) λz=>(aI z.1 (aH (A.1,12)) (jn (α:=(fe×Y ic)×ky×(η)×ky×Y θ) (ck (dO z.c.1 (aj z.b)) (bn z.c.2.1 3 (mK z.c.1 z.n (bR (ax (aN (sJ z.b z.c.1)) (aj (ry (T:=.bool) z.n z.c.1))&&be ((aN (sJ z.b z.c.1))+aj ([J]:θ)) 1) (ck (dO z.c.1 (aj z.b)) (aH (z.2.1,z.a,(sI z.b (aN z.c.1) (aQ (aj ((ry (T:=.bool) z.n z.c.1)++([J]))))),z.d,(vY (T:=.bool) (vY (T:=.bool) z.n z.c.1 []) z.c.1 ((ry (T:=.bool) z.n z.c.1)++([J])))))))) (mK z.c.1 z.n (bR (ax (aN (sJ z.b z.c.1)) (aj (ry (T:=.bool) z.n z.c.1))&&be ((aN (sJ z.b z.c.1))+aj ([(decide ((z.c.2.1:Int)=23))]:θ)) 1) (ck (dO z.c.1 (aj z.b)) (aH (z.2.1,z.a,(sI z.b (aN z.c.1) (aQ (aj ((ry (T:=.bool) z.n z.c.1)++([(decide ((z.c.2.1:Int)=23))]))))),z.d,(vY (T:=.bool) (vY (T:=.bool) z.n z.c.1 []) z.c.1 ((ry (T:=.bool) z.n z.c.1)++([(decide ((z.c.2.1:Int)=23))])))))))))) λL=>(c7 ((cV A.1),L.1,L.b,L.a,L.g))))))) (aH (0,0)))) (0,x,y2,(aC (aN (aZ x.1.c)) (0:Int)),(aC (aN (aZ x.1.c)) ([]:θ)))))))))
def rM (x:q?):M ν:=oa @iter x
def gA (x:q?):M ν:=oa @f_ x
def AZ (it:Bq) (x:q?):M ((Y η)×Int):=
 (aB (gA x) λy1=>(jQ y1.2 0 (Z (([]:Y η),12)) (aB (rf x.1) λL=>(bR (dg 0 (aZ x.2)&&dg (aZ x.2) (aZ x.2)&&be (aN (aZ x.2)) 24) (it (Int×(fe×Y ic)×Yd0×Y η) _ (λz=>(bU z.1 (aZ x.2) (bY iZ x.2 z.1 λD=>(aB (ut (z.2.1.1,z.a,D)) λA=>(ck (dO z.1 (aj z.e)) (c7 ((cV z.1),z.2.1,A.1,(ch z.e z.1 A.2)))))) (aH (z.e,0)))) (0,x,L,(aC (aN (aZ x.2)) ([]:η))))))))
def E8 (x:q?):M ((Y η)×Int):=AZ @iter x
def qS (x:q?):M ((Y η)×Int):=AZ @f_ x
abbrev O?:=(fe×Y ic)×Y ν
abbrev R?:=vq×Int
def Dt (it:Bq) (x:q?):M R?:=
 (aB (qS x) λy1=>(jQ y1.2 0 (Z (([]:Y ν),y1.2)) (aB (qR x.2) λy2=>(it (Int×O?) _ (λA=>(bU A.1 (aZ x.2) (it (Int×O?) _ (λz=>(bU z.1 A.1 (jn (α:=O?) (jn (aB (rY (z.2.1,z.1,A.1)) λy7=>(aI y7 (bY (.sl aM) y1.1 A.1 λz8=>(bY eU y2 z.1 λz9=>(aB (gI (z8,z9)) λL=>(aH ((!L),z.2))))) (aH (af,z.2)))) λD=>(aI D.1 (bR (be (aj D.2.2+aj ([(z.1,A.1)])) 16) (aH (D.2.1,(D.2.2++([(z.1,A.1)]))))) (aH D.2))) λx5=>(c7 ((cV z.1),x5))) (aH (oU ((cV A.1),z.2))))) (0,A.2)) (aH (A.2.2,0)))) (0,x,([]:Y ν))))))
def In (x:q?):M R?:=Dt @iter x
def tB (x:q?):M R?:=Dt @f_ x
def Sq (a b:Int):fE (a,b)=Z (decide (0<=a/\a<b)):=by
 refine cW ?_;unfold fE kY aH;with_reducible repeat' first|apply OS.ok;constructor|refine IM.mk λ_=>?_
 .by_cases h:a<b<;>simp[*,gC]
 .simp;omega
def Yu (l:η) (t:Int) (L:l! l<=1000):lU (l,t)=Z (l.contains t):=by
 refine cW ?_;unfold lU tC Ba bn bU bY aZ c7 aH cV;refine aA (P:=λy:Int=>0<=y↔t∈l) ?_ λy z=>ak ?_
 .refine gi (l! l) (by omega) (λi x=>x=(i:Int)/\∀j,j<i->¬l.getD j 0=t) ?_ ?_ ⟨rfl,λj A=>by omega⟩
  .rintro i x hi ⟨rfl,D⟩;refine dB ?_;refine cH (aT (aK (λh=>ak ?_) λh=>ak ?_))
   .refine ⟨λ_=>?_,λ_=>by omega⟩;have h:t=geti aM l (i:Int):=h;rw[h];exact bP (T:=aM) (xs:=l) (by omega) (by omega)
   .refine ⟨ig,λj A=>?_⟩;have h:¬t=l.getD i 0:=h
    grind
  .rintro x ⟨rfl,D⟩;refine dw (ak ?_);refine ⟨λg=>(by omega),λg=>?_⟩;let⟨j,A,e⟩:=List.getElem_of_mem g
   grind
 .by_cases h:t∈l
  .have:=z.2 h;simp[dg,h,this]
  .have:¬0<=y:=λg=>h (z.1 g)
   simp[dg,h,this]
def at0 (w:WT) (s:SY) (A:l! w.2.2.1<=1000) (z:∀c∈w.2.2.1,0<=c.2/\c.2<l! w.2.1) (L:l! s.1=l! w.2.1) (e2:l! s.2.2.1=l! w.2.2.2.1) (D:l! s.2.2.2=l! w.2.2.2.2.1):lM (w,s)=Z J:=by
 refine cW ?_;unfold lM vE bf bw bH eD bU jQ bY aZ c7 aH cV;refine aX (λx=>x=(af,w)) ?_ ?_
 .refine cf (λh=>(h (by grind)).elim) λ_=>cf (λh=>(h (by grind)).elim) λ_=>ak ?_
  grind
 rintro x rfl;refine kB (gi (l! w.2.2.1) (by omega) (λi x=>x=((i:Int),w)) ?_ ?_ rfl)
 .rintro i x hi rfl;refine dB ?_;refine cH (aT (bc (Sq _ _) (cf (λh=>(h ?_).elim) λ_=>ak ?_)))
  .exact z _ (bP (T:=itK) (xs:=w.2.2.1) (j:=(i:Int)) (by omega) (by omega))
  .rw[ig]
 .rintro x rfl;exact dw (ak rfl)
def alv (w:WT) (k o:Int) (h:NM w k o):nF (w,k,o)=Z J:=by
 refine cW ?_;let⟨k1,k2,L,lk,cn,th,D,no,z,rw_⟩:=h;unfold nF bf bw bH cE bn bY aZ aH;cases kdI k
 case no A _=>omega
 all_goals simp only[bI,ey,Rb,Sq]
 all_goals with_reducible repeat' first|apply OS.ok;constructor|refine IM.mk λ_=>?_
 all_goals try simp[ay,ua] at*
 all_goals first|omega|exact rw_ ⟨by decide,by decide⟩|(simp [*,Bool.not_false,eT];done)
def atj (w:WT) (s:SY) (hs:SB i s) (hn:i<=1000) (t k o:Int) (he:EN w s t k o) (hr:Yh w s t k o):pP (w,s,t,k,o)=Z J:=by
 refine cW ?_;let⟨nm,t0,t1,cd,e1,e2,e3⟩:=id he;let⟨_,_,ce,lk,cn,th,fu,no,mu,rw_⟩:=nm;let⟨_,_,_,D,wr,ra,rl,rr,xb,xe,ab,ae,nt,sp,jo,se,ge⟩:=hr;have hm:16<=k/\k<=19->0<=(geti itK w.2.2.1 o).2/\(geti itK w.2.2.1 o).2<l! w.2.1:=λh=>cd _ (bP (cn h).1 (cn h).2)
 have hH:6<=k/\k<=11->lU ((geti eM s.1 o).2,t)=Z ((geti eM s.1 o).2.contains t):=λh=>Yu _ _ (by
  have:=hs.rd _ (bP (T:=eM) (lk h).1 (by grind));omega)
 have lk1:6<=k/\k<=11->0<=o/\o<(l! s.1:Int):=λh=>by grind
 have L:t<(l! s.2.2.2:Int):=by omega
 have fu1:k=22\/k=23->0<=o/\o<(l! s.2.2.1:Int):=λh=>by have:=fu h;omega
 have th1:k=20\/k=21->0<=o/\o<(l! s.2.2.2:Int):=λh=>by have:=th h;omega
 have z:∀{p:Prop} [Decidable p],p->decide p=J:=λh=>aS h
 unfold pP bf bw bH eD dQ bn jQ bY aZ aH;refine aK (λh=>?_) λn6=>?_
 .have h:k=6:=h;exact aO (lk1 (by omega)).1 (lk1 (by omega)).2 (aT (ak (z (D (.inl h)))))
 refine aK (λh=>?_) λn10=>?_
 .have h:k=10:=h;refine ij (aO (lk1 (by omega)).1 (lk1 (by omega)).2 (aT (aK (λ_=>?_) λg=>(g (D (.inr (.inr h)))).elim)));refine aO (lk1 (by omega)).1 (lk1 (by omega)).2 (aT (ak (ak (z ?_))))
  grind
 refine aK (λh=>?_) λn8=>?_
 .have h:k=8:=h;refine ij (aO (lk1 (by omega)).1 (lk1 (by omega)).2 (aT (aK (λ_=>?_) λg=>(g (D (.inr (.inl h)))).elim)));refine aO (lk1 (by omega)).1 (lk1 (by omega)).2 (aT (bc (hH (by omega)) (ak (ak ?_))));rw[ra h];rfl
 refine aX (λx=>x.2=(w,s)/\(x.1=J↔k=7\/k=11)) (aK (λh=>ak ⟨rfl,λ_=>.inl h,λ_=>z h⟩) λh=>ak ⟨rfl,λA=>.inr (bF A),λA=>z (A.resolve_left h)⟩) ?_;rintro⟨b,x⟩ ⟨e,hb⟩;dsimp only at e hb;subst e;refine aP (λh=>?_) λ_=>?_
 .have h:=hb.1 h;exact aO (lk1 (by omega)).1 (lk1 (by omega)).2 (aT (ak (z (rl h))))
 refine aK (λh=>?_) λn9=>?_
 .have h:k=9:=h;refine aO (lk1 (by omega)).1 (lk1 (by omega)).2 (aT (bc (hH (by omega)) (ak (rr h))))
 refine aK (λh=>ak (z (xb h))) λ_=>aK (λh=>ak (z (xe h))) λ_=>?_
 refine aK (λh=>aO t0 L (aT (ak (by grind)))) λ_=>aK (λh=>aO t0 L (aT (ak (ae h)))) λ_=>?_
 refine aX (λx=>x.2=(w,s)/\(x.1=J->k=16\/k=18\/k=19)) (aK (λh=>ak ⟨rfl,λ_=>.inl h⟩) λ_=>aK (λh=>ak ⟨rfl,λ_=>.inr (.inl h)⟩) λ_=>ak ⟨rfl,λh=>.inr (.inr (bF h))⟩) ?_;rintro⟨c,x⟩ ⟨e,hc⟩;dsimp only at e hc;subst e;refine aP (λh=>?_) λ_=>?_
 .have h:=hc h;have hq:=hm (by omega);exact aO (cn (by omega)).1 (cn (by omega)).2 (aT (aO hq.1 (by grind) (aT (ak (z (nt h))))))
 refine aK (λh=>?_) λ_=>?_
 .have h:k=20:=h;exact ij (cf (λ_=>aO (th1 (.inl h)).1 (th1 (.inl h)).2 (aT (ak (ak (z (sp h).2))))) λg=>((sp h).1 g).elim)
 refine aK (λh=>?_) λ_=>?_
 .have h:k=21:=h;exact ij (cf (λ_=>aO (th1 (.inr h)).1 (th1 (.inr h)).2 (aT (ak (ak (z (jo h).2))))) λg=>((jo h).1 g).elim)
 refine aK (λh=>aO (fu1 (.inl h)).1 (fu1 (.inl h)).2 (aT (ak (by grind)))) λ_=>aK (λh=>aO (fu1 (.inr h)).1 (fu1 (.inr h)).2 (aT (ak (ge h)))) λ_=>ak rfl
def HU (w:WT) (s:SY) (hs:SB i s) (hn:i<=1000) (hw:l! w.2.2.1<=1000) (t k o:Int) (he:EN w s t k o) (z:Yh w s t k o):lA (w,s,t,k,o)=Z J:=by
 refine cW ?_;let⟨nm,D,t1,cd,e1,e2,e3⟩:=id he;have hrd:=atj w s hs hn t k o he z;have t2:t<(l! s.2.2.2:Int):=by omega
 refine aX (λx=>x=(af,w,s)) ?_ ?_
 .refine bc (at0 w s hw cd e1 e2 e3) (j7 rfl (bc (Sq _ _) ?_));refine cf (λh=>(h ⟨D,t1⟩).elim) λ_=>bc (alv w k o nm) (ak rfl)
 rintro x rfl;refine kB (aO D t2 (aT ?_));refine aK (λh=>ak (aS (z.b h))) λn1=>?_
 refine aK (λh=>?_) λA=>?_
 .have h:k=17:=h;let⟨a1,a2,a3⟩:=z.wk h;let⟨c0,L⟩:=nm.cd (by omega);have hq:=cd _ (bP (T:=itK) (xs:=w.2.2.1) (j:=o) c0 L);refine ij (aK (λ_=>aK (λ_=>?_) λg=>(g a2).elim) λg=>(g a1).elim);exact aO c0 L (aT (aO hq.1 (by grind) (aT (ak (ak (aS a3))))))
 refine ij (aK (λ_=>bc hrd (ak (ak rfl))) λg=>(g (z.r n1 A)).elim)
def anx (w:WT) (e:ET) (h1:e.2.1=1\/e.2.1=2->e.2.2.2.2.1= -1) (z:¬(e.2.1=1\/e.2.1=2)->0<=e.2.2.2.2.1/\e.2.2.2.2.1<l! w.2.2.2.2.2/\(geti pW w.2.2.2.2.2 e.2.2.2.2.1).1=e.1):mT (w,e)=Z J:=by
 refine cW ?_;refine aX (λx=>x.2=(w,e)/\(x.1=J↔e.2.1=1\/e.2.1=2)) (aK (λh=>ak ⟨rfl,λ_=>.inl h,λ_=>rfl⟩) λh=>ak ⟨rfl,λz=>.inr (bF z),λz=>aS (z.resolve_left h)⟩) ?_;rintro⟨b,x⟩ ⟨D,A⟩;subst D;refine aP (λh=>ak (aS (h1 (A.1 h)))) λh=>?_
 let⟨a1,a2,L⟩:=z λg=>by grind
 exact ij (fO (λ_=>dB (aO a1 a2 (aT (ak (ak (aS L)))))) λg=>(by grind))
def alt (h:Ly A) (i:Nat) (hi:i<l! A):∀z∈A.drop (i+1),A.getD i 0<z:=by
 induction A generalizing i with
 |nil=>cases hi
 |cons a A l=>
  cases i with
  |zero=>exact λz D=>h.1 z (by grind)
  |succ i=>exact l h.2 i (by grind)
def Xf (w:WT) (s:SN) (e:ET) (ce:e.2.1=3\/e.2.1=4->0<=e.2.2.1/\e.2.2.1<l! w.1) (de:0<l! e.2.2.2.2.2.1->e.2.1=5\/(e.2.1=3\/e.2.1=4)/\¬(geti lZ w.1 e.2.2.1).2.2.1=0) (fr:0<l! e.2.2.2.2.2.2->e.2.1=4\/e.2.1=22) (t0:0<=e.1) (t1:e.1<l! s.2.2.2) (nd:AN (geti aM s.2.2.2 e.1) e.2.2.2.2.2.1) (nf:AN (geti aM s.2.2.2 e.1) e.2.2.2.2.2.2) (ld:l! e.2.2.2.2.2.1<=1000000) (lf:l! e.2.2.2.2.2.2<=1000000):gk (w,s,e)=Z J:=by
 refine cW ?_;refine aX (λx=>x.2=(s,e)/\((e.2.1=3\/e.2.1=4)/\¬(geti lZ w.1 e.2.2.1).2.2.1=0->x.1=J)) ?_ ?_
 .refine aK (λh=>?_) λn3=>aK (λh=>?_) λn4=>?_
  .exact aO (ce (.inl h)).1 (ce (.inl h)).2 (aT (ak ⟨rfl,λg=>by simpa using g.2⟩))
  .exact aO (ce (.inr h)).1 (ce (.inr h)).2 (aT (ak ⟨rfl,λg=>by simpa using g.2⟩))
  .exact ak ⟨rfl,λg=>(g.1.elim n3 n4).elim⟩
 rintro⟨b,x⟩ ⟨L,hb⟩;dsimp only at L hb;subst L;refine aX (λx=>x.1=s/\x.2.1=e/\(0<l! e.2.2.2.2.2.1->x.2.2.1=J)/\(0<l! e.2.2.2.2.2.2->x.2.2.2=J)) ?_ ?_
 .refine aK (λh5=>aK (λh4=>ak ⟨rfl,rfl,λ_=>rfl,λ_=>rfl⟩) λh4=>ak ⟨rfl,rfl,λ_=>rfl,λg=>?_⟩) λh5=>aK (λh4=>ak ⟨rfl,rfl,λg=>?_,λ_=>rfl⟩) λh4=>ak ⟨rfl,rfl,λg=>?_,λg=>?_⟩
  .grind
  .grind
  .grind
  .grind
 rintro⟨s',e',a,b'⟩ ⟨L,e2,h1,h2⟩;dsimp only at L e2 h1 h2;subst L e2;have key:∀(r:η),l! r<=1000000->AN (geti aM s'.2.2.2 e'.1) r->∀j:Nat,j<l! r->∀z∈r.drop (j+1),geti aM r (j:Int)<z:=λr _ h j hj z hz=>alt h.a j hj z hz
 refine gi 2 (by omega) (λi x=>x=((i:Int),s',e',a,b')) ?_ ?_ rfl
 .rintro i x hi rfl;refine dB ?_;refine cR (dm (by simp) (Dl (by omega) (aT ?_)));have hr:∃r:η,geti (.sl (.int .i64)) [e'.2.2.2.2.2.1,e'.2.2.2.2.2.2] (i:Int)=r/\AN (geti aM s'.2.2.2 e'.1) r/\l! r<=1000000/\(0<l! r->geti (.bool) [a,b'] (i:Int)=J):=by
   match i,hi with
   |0,_=>exact⟨_,rfl,nd,ld,h1⟩
   |1,_=>exact⟨_,rfl,nf,lf,h2⟩
  let⟨r,er,hA,hl,hb'⟩:=hr;have er':geti (.sl aM) [e'.2.2.2.2.2.1,e'.2.2.2.2.2.2] (i:Int)=r:=er;dsimp only at er' ⊢;rw[er'];refine aX (λx=>x=(af,s',e',a,b')) ?_ ?_
  .refine bQ (λg=>?_) λ_=>ak rfl
   have g':0<l! r:=by grind
   refine cR (a? (Dl (by omega) (cH (aT (ak ?_)))));rw[hb' g'];rfl
  rintro x rfl;refine kB ?_;refine gi (l! r) (by omega) (λj x=>x.1.2=(j:Int)/\x.2=(s',e',a,b')/\∀z∈r.drop j,x.1.1<z) ?_ ?_ ⟨rfl,rfl,λz hz=>?_⟩
  .rintro j ⟨⟨la,ix⟩,x⟩ hj ⟨D,A,g3⟩;dsimp only at D A g3;subst D A;have m:geti aM r (j:Int)∈r:=bP (T:=aM) (xs:=r) (by omega) (by omega);have m2:geti aM r (j:Int)∈r.drop j:=by
    have:geti aM r (j:Int)=r[j]:=by
     show r.getD j 0=_
     grind
    rw[this,Q1 hj];exact cX
   refine dB ?_;refine cH (aT (aX (λx=>x=(af,s',e',a,b')) ?_ ?_))
   .refine fO (λg=>?_) λ_=>aO t0 t1 (aT (ak ?_))
    .grind
    .have:=(hA.m _ m).2;rw[nH.2 (show geti aM r (j:Int)<geti aM s'.2.2.2 e'.1 from this)]
   rintro x rfl;exact kB (ak ⟨ig,rfl,key r hl hA j hj⟩)
  .rintro⟨⟨la,ix⟩,x⟩ ⟨D,A,_⟩;dsimp only at D A;subst D A;exact dw (ak (eR (·,s',e',a,b') ig))
  .have:=(hA.m z (by grind)).1;dsimp only;omega
 .rintro x rfl;exact dw (ak rfl)
def axq (w:WT) (s:SN) (z:l! w.2.2.1<=1000) (t k o:Int) (he:EN w s.1 t k o) (hf:F16 w s):mh (w,s)=Z J:=by
 let⟨_,_,_,L,D,e2,A⟩:=he;let⟨f1,f2,f3⟩:=hf;refine cW ?_;unfold mh bf bw bH eD bn aZ aH;refine ij (bc (at0 w s.1 z L D e2 A) (aj4 (aK (λ_=>aK (λ_=>ak (ak (aS ?_))) λg=>(g ?_).elim) λg=>(g ?_).elim)));all_goals dsimp [ay];omega
def LF (th:Y d?) (c:Int) (i:Nat):wl th c (i+1)=if PK c (geti iI th (i:Int)) then wl th c i++[(i:Int)] else wl th c i:=rfl
def and (w:WT) (s:SN) (hs:SB i s.1) (e:ET) (hf:F16 w s) (he:EN w s.1 e.1 e.2.1 e.2.2.1) (va:VA w s.1 s.2.1 s.2.2.1 e.1 e.2.1 e.2.2.1 e.2.2.2.1):gU (s,e)=Z J:=by
 refine cW ?_;let⟨t,k,o,v,si,de,fr⟩:=e;let⟨z,s2,s3,s4⟩:=s;let⟨nm,t0,t1,cd,e1,e2,e3⟩:=he;let⟨_,_,ce,lk,cn,th,fu,_,_,_⟩:=nm;let⟨f1,f2,f3⟩:=hf;have hth:=hs.th;let⟨v3,v23,v5,vel⟩:=va;dsimp only at*
 unfold gU m6 bf bw bH cE c8 bn bU bY aZ c7 aH cV;refine aK (λh=>?_) λn3=>?_
 .have h:k=3:=h;let⟨c0,c1⟩:=ce (.inl h);exact aO c0 (by rw[f1];exact c1) (aT (ak (aS (v3 h))))
 refine aK (λh=>?_) λn23=>?_
 .have h:k=23:=h;let⟨c0,c1⟩:=fu (.inr h);exact aO c0 (by rw[f2];exact c1) (aT (ak (aS (v23 h))))
 refine aK (λh=>?_) λn5=>?_
 .have h:k=5:=h;exact ij (aK (λ_=>ak (ak rfl)) λg=>ak (ak (aS ((v5 h).resolve_left g))))
 refine aX (λx=>x.2=((z,s2,s3,s4),t,k,o,v,si,de,fr)/\(x.1=af->¬k=4/\¬k=22)) (aK (λh=>ak ⟨rfl,λh2=>(by rw[aS h]at h2;cases h2)⟩) λh=>ak ⟨rfl,λh2=>⟨h,qE h2⟩⟩) ?_;rintro⟨b,x⟩ ⟨e,hb⟩;dsimp only at e hb;subst e;refine aP (λh=>ak rfl) λh=>?_
 let⟨n4,n22⟩:=hb h;have vel:=vel n3 n23 n5 n4 n22;have hWl:=yc z.2.2.2 o (l! z.2.2.2);refine aK (λh=>?_) λn18=>?_
 .have h:k=18:=h;subst h;rw[Fv]at vel;refine gi (l! z.2.2.2) (by omega) (λn x=>x.1.2.2=(n:Int)/\x.2=(t,18,o,v,si,de,fr)/\x.1.1=(l! (wl z.2.2.2 o n):Int)/\(x.1.2.1=J↔v∈wl z.2.2.2 o n)) ?_ ?_ ⟨rfl,rfl,rfl,by simp[wl]⟩
  .rintro n ⟨⟨c,hit,ix⟩,x⟩ hi ⟨D,A,L,g4⟩;dsimp only at D A L g4;subst D A L;have hl:=yc z.2.2.2 o n;refine dB ?_;refine aX (λx=>x.2=(t,18,o,v,si,de,fr)/\x.1.1=(l! (wl z.2.2.2 o (n+1)):Int)/\(x.1.2=J↔v∈wl z.2.2.2 o (n+1))) ?_ ?_
   .refine cH (aT (aX (λx=>x=(PK o (geti iI z.2.2.2 (n:Int)),t,18,o,v,si,de,fr)) ?_ ?_))
    .unfold PK;refine aK (λh=>ak ?_) λh=>ak ?_
     .dsimp only at h ⊢;rw[h];rfl
     .dsimp only at h ⊢;rw[cK h];rfl
    rintro x rfl;rw[LF];dsimp only;cases hw:PK o (geti iI z.2.2.2 (n:Int)) with
    |true=>
     refine aj4 (aP (λh=>ak ⟨rfl,?_,?_⟩) λh=>ak ⟨rfl,?_,?_⟩)
     .dsimp only;rw[ig];simp
     .simp[g4.1 h]
     .dsimp only;rw[ig];simp
     .have:¬v∈wl z.2.2.2 o n:=λg=>by rw[g4.2 g]at h;cases h
      simp[this]
    |false=>exact kB (ak ⟨rfl,rfl,g4⟩)
   rintro⟨⟨c,hit'⟩,x⟩ ⟨D,A,L⟩;dsimp only at D A L;subst D A;exact ak ⟨ig,rfl,rfl,L⟩
  .rintro⟨⟨c,hit,ix⟩,x⟩ ⟨D,A,L,g4⟩;dsimp only at D A L g4;subst D A L;refine dw (aA (P:=λy=>y=J) (ij (aP (λ_=>ak (ak rfl)) λh=>?_)) λy hy=>ak hy);have hn:¬v∈wl z.2.2.2 o (l! z.2.2.2):=λg=>by rw[g4.2 g]at h;cases h
   by_cases h0:l! (wl z.2.2.2 o (l! z.2.2.2))=0
   .rw[aD h0]at vel;refine aK (λ_=>ak (ak (aS vel))) λg=>(g (by dsimp only;omega)).elim
   .rw[av h0]at vel;have vel:v=EC (wl z.2.2.2 o (l! z.2.2.2)) v:=vel;exact (hn (vel▸L2 v h0)).elim
 refine aK (λh=>?_) λn19=>?_
 .have h:k=19:=h;subst h;rw[aug]at vel;refine gi (l! z.2.2.2) (by omega) (λn x=>x.1.2=(n:Int)/\x.2=(t,19,o,v,si,de,fr)/\x.1.1=(l! (wl z.2.2.2 o n):Int)) ?_ ?_ ⟨rfl,rfl,rfl⟩
  .rintro n ⟨⟨c,ix⟩,x⟩ hi ⟨D,A,L⟩;dsimp only at D A L;subst D A L;have hl:=yc z.2.2.2 o n;refine dB ?_;refine aX (λx=>x.2=(t,19,o,v,si,de,fr)/\x.1=(l! (wl z.2.2.2 o (n+1)):Int)) ?_ ?_
   .refine cH (aT (aX (λx=>x=(PK o (geti iI z.2.2.2 (n:Int)),t,19,o,v,si,de,fr)) ?_ ?_))
    .unfold PK;refine aK (λh=>ak ?_) λh=>ak ?_
     .dsimp only at h ⊢;rw[h];rfl
     .dsimp only at h ⊢;rw[cK h];rfl
    rintro x rfl;rw[LF];dsimp only;cases hw:PK o (geti iI z.2.2.2 (n:Int)) with
    |true=>
     refine aj4 (ak ⟨rfl,?_⟩);dsimp only;rw[ig];simp
    |false=>exact kB (ak ⟨rfl,rfl⟩)
   rintro⟨c,x⟩ ⟨D,A⟩;dsimp only at D A;subst D A;exact ak ⟨ig,rfl,rfl⟩
  .rintro⟨⟨c,ix⟩,x⟩ ⟨D,A,L⟩;dsimp only at D A L;subst D A L;exact dw (ak (aS vel))
 exact ak (aS (by rw[ase _ _ _ _ _ _ n18 n19]at vel;exact vel))
def ahs (x:d?) (c:Int):nP (x,c)=Z (PK c x):=by
 refine cW ?_;unfold nP PK bn aH;refine ij (aK (λh=>ak (ak ?_)) λh=>ak (ak ?_))
 .grind
 .grind
def alc (s:SY) (A:SB i s):lQ s=Z (s.2.1,s.1,s.2.2.1,s.2.2.2):=by
 refine cW ?_;let⟨z,s2,L,D⟩:=s;have hn:=A.n1;have hlk:=A.lk;have hdn:=A.dn;have hth:=A.th;have hrd:=A.rd;dsimp only at hlk hdn hth hrd;unfold lQ tX bf c8 ck bU bR bY aZ c7 cV;dsimp [ay];refine cR (cR (a? (a? (a! ?_))));refine gi (l! z) (by omega) (λn x=>∃c d,x=((n:Int),(z,s2,L,D),c,d)/\l! d=l! z/\∀j,j<n->d.getD j (0,[])=z.getD j (0,[])) ?_ ?_ ⟨_,_,rfl,by simp,λj hj=>by omega⟩
 .rintro n x hi ⟨c,d,rfl,hd,he⟩;have hr:=hrd _ (bP (T:=eM) (xs:=z) (j:=(n:Int)) (by omega) (by omega));refine dB ?_;refine cH (aT (bc (x:=(geti eM z (n:Int)).2) (cW ?_) ?_))
  .exact bN (by grind) (by omega) (ak rfl)
  refine cH (cH (ak ⟨c,d.set n (geti eM z (n:Int)),?_,by simp[hd],λj hj=>?_⟩))
  .rw[ig];rfl
  .by_cases e:n=j
   .subst e;rw[aw,List.getElem?_set_self (by omega)];rfl
   .grind
 .rintro x ⟨c,d,rfl,hd,he⟩;have:d=z:=by
   refine c5 hd λj g1 g2=>?_
   grind
  subst this;refine dw (aA (P:=λy=>y=(s2,d,L,D)) ?_ λy hy=>ak hy);refine bc (x:=L) (cW (bN (by grind) (by omega) (ak rfl))) (bc (x:=D) (cW (bN (by grind) (by omega) (ak rfl))) (ak rfl))
def adq (l:η) (i u:Int):EC (l++[i]) u=if (l! l)=0 then i else if i=u then i else EC l u:=by
 unfold EC;cases l with
 |nil=>
  by_cases h:u=i
  .subst h;simp
  .simp[h];rfl
 |cons a r=>
  have z:¬l! (a::r++[i])=0:=by simp
  have e2:¬l! (a::r)=0:=by simp
  by_cases h:i=u
  .subst h;simp
  .have h':¬u=i:=λg=>h g.symm
   rw[av h];have:(a::r++[i]).contains u=(a::r).contains u:=by simp[h']
   rw[this];rfl
variable {F:Y (Int×Int×Bool)}
def L1 {u:Int} (h:¬l! (wl F a i)=0):0<=EC (wl F a i) u/\EC (wl F a i) u<i:=by
 have:=sY.1 (L2 u h);exact⟨this.1,this.2.1⟩
def OW {u:Int} (h:l! A=0):EC A u= -1:=by unfold EC;rw[aD h]
def ao7 (s:SY) (o u:Int) (hs:l! s.2.2.2<=1000):kP ((s.2.1,o,u),s.1,s.2.2.1,s.2.2.2)=Z (EC (wl s.2.2.2 o (l! s.2.2.2)) u,s.1,s.2.2.1,if (l! (wl s.2.2.2 o (l! s.2.2.2)))=0 then s.2.2.2 else Bv s.2.2.2 (EC (wl s.2.2.2 o (l! s.2.2.2)) u) 4):=by
 refine cW ?_;let⟨D,L,A,z⟩:=s;dsimp only at hs ⊢;unfold kP sj bf bw c8 ck bU kY kK aZ c7 aH cV;refine gi (l! z) (by omega) (λi x=>x=((EC (wl z o i) u,(i:Int)),D,A,z,L)) ?_ ?_ rfl
 .rintro i x hi rfl;refine dB ?_;refine aX (λx=>x=(EC (wl z o (i+1)) u,D,A,z,L)) ?_ ?_
  .refine cH (cH (aT ?_));refine aX (λx=>x=(decide (PK o (geti iI z (i:Int))=J/\(l! (wl z o i)=0\/(i:Int)=u)),D,A,z,L)) ?_ ?_
   .refine bc (ahs _ _) (aP (λh=>?_) λh=>ak ?_)
    .have h:PK o (geti iI z (i:Int))=J:=h;refine bQ (λg=>ak ?_) λg=>ak ?_
     .have:l! (wl z o i)=0:=ya λq=>by have:=(L1 (u:=u) q).1;dsimp only at g;omega
      simp[h,this]
     .have:¬l! (wl z o i)=0:=λq=>by have:=OW (u:=u) q;dsimp only at g;omega
      simp[h,this]
    .grind
   rintro x rfl;rw[LF];refine aK (λh=>ak ?_) λh=>ak ?_
   .rw[aD h.1,adq]
    grind
   .by_cases g:PK o (geti iI z (i:Int))=J
    .rw[aD g,adq,av λq=>h ⟨g,.inl q⟩,av λq=>h ⟨g,.inr q⟩]
    .rw[av g]
  rintro x rfl;exact ak (by dsimp only;rw[ig])
 .rintro x rfl;refine dw (aA (P:=λy=>y=(EC (wl z o (l! z)) u,D,A,if (l! (wl z o (l! z)))=0 then z else Bv z (EC (wl z o (l! z)) u) 4)) ?_ λy hy=>ak hy);refine aX (λx=>x=(D,A,if (l! (wl z o (l! z)))=0 then z else Bv z (EC (wl z o (l! z)) u) 4)) ?_ ?_
  .refine fO (λg=>?_) λg=>ak ?_
   .have h0:¬l! (wl z o (l! z))=0:=λq=>by have:=OW (u:=u) q;dsimp only at g;omega
    have hp:=L1 (u:=u) h0;refine aO hp.1 hp.2 (aO hp.1 hp.2 (ak ?_));rw[av h0];rfl
   .have:l! (wl z o (l! z))=0:=ya λq=>by have:=(L1 (u:=u) q).1;dsimp only at g;omega
    rw[aD this]
  rintro x rfl;exact ak rfl
def aod (th:Y d?) (l:η) (i:Int):Gj th (l++[i])=Bv (Gj th l) i 4:=by unfold Gj;rw[dT];rfl
def aoc (l:η):∀(th:Y d?) (j:Int),0<=j->(∀z∈l,0<=z/\z<l! th/\¬z=j)->geti iI (Gj th l) j=geti iI th j:=by
 induction l with
 |nil=>intro th j _ _;rfl
 |cons x r L=>
  intro th j D h;have A:=h x (by simp);refine (L (Bv th x 4) j D λz hz=>?_).trans ?_
  .have:=h z (by grind);unfold Bv;rw[bT];exact this
  .unfold Bv;rw[jW (T:=iI) th x j _ A.1 A.2.1 D,av λq=>A.2.2 q.symm]
def Y7 (s:SY) (o:Int) (hs:l! s.2.2.2<=1000):ik ((s.2.1,o),s.1,s.2.2.1,s.2.2.2)=Z ((l! (wl s.2.2.2 o (l! s.2.2.2)):Int),s.1,s.2.2.1,Gj s.2.2.2 (wl s.2.2.2 o (l! s.2.2.2))):=by
 refine cW ?_;let⟨s1,L,D,A⟩:=s;dsimp only at hs ⊢;unfold ik oe bf bw c8 eD ck bU kK aZ c7 aH cV;refine gi (l! A) (by omega) (λi x=>x=(((l! (wl A o i):Int),(i:Int)),s1,D,Gj A (wl A o i),L)) ?_ ?_ rfl
 .rintro i x hi rfl;have hl:=yc A o i;have hg:geti iI (Gj A (wl A o i)) (i:Int)=geti iI A (i:Int):=aoc _ _ _ (by omega) λz hz=>by have:=sY.1 hz;exact⟨this.1,by omega,by omega⟩
  have hq:=LR (wl A o i) A;refine dB ?_;refine aX (λx=>x=((l! (wl A o (i+1)):Int),s1,D,Gj A (wl A o (i+1)),L)) ?_ ?_
  .refine cH (cH (aT (bc (ahs _ _) ?_)));rw[LF];refine aP (λh=>?_) λh=>ak ?_
   .have h:PK o (geti iI A (i:Int))=J:=hg▸h;refine cH (cH (ak ?_));rw[aD h,aod];rw[ig];simp[bz,kn,pK];rfl
   .grind
  rintro x rfl;exact ak (by dsimp only;rw[ig])
 .rintro x rfl;exact dw (ak rfl)
def ar5 (w:WT) (s:SY) (z:SB i s) (hn:i<=1000) (hw:l! w.2.2.1<=1000) (t k o u:Int) (he:EN w s t k o) (hr:Yh w s t k o) (D:¬k=8) (A:¬k=9):il (w,s,t,k,o,u)=Z ((pV w s t k o u).1,(pV w s t k o u).2,J):=by
 refine cW ?_;unfold il bf bw bH cE dJ c8 eD dQ hY xm ck bn bR bY kK aH;refine bc (HU w s z hn hw t k o he hr) (j7 rfl (bc (alc s z) ?_));suffices hmain:Ok _ _ from aX (λx=>((x.2.2.2.1,x.2.1,x.2.2.2.2),x.1)=pV w s t k o u) hmain λx L=>ak (by rw[<- L])
 obtain⟨nm,t0,t1,cd,e1,e2,e3⟩:=id he;obtain⟨_,_,ce,lk,cn,th,fu⟩:=nm;have hm:16<=k/\k<=19->0<=(geti itK w.2.2.1 o).2/\(geti itK w.2.2.1 o).2<l! w.2.1:=λh=>cd _ (bP (cn h).1 (cn h).2)
 cases kdI k
 case no hk _=>omega
 all_goals first|exact (D rfl).elim|exact (A rfl).elim|skip
 all_goals simp only[bI,ey,Rb]
 all_goals with_reducible repeat' first|apply OS.ok;constructor|refine IM.mk λ_=>?_
 all_goals try simp only[ay,ua] at*
 all_goals try rw[bT]
 all_goals first|omega|exact (hm ⟨by decide,by decide⟩).1|exact e1▸(hm ⟨by decide,by decide⟩).2|exact rfl|skip
 .refine bc (ao7 s o u z.th) (bt ?_ (ak ?_))
  .have:aj (if (l! (wl s.2.2.2 o (l! s.2.2.2)))=0 then s.2.2.2 else Bv s.2.2.2 (EC (wl s.2.2.2 o (l! s.2.2.2)) u) 4)=l! s.2.2.2:=by
    split
    .rfl
    .exact bT ..
   dsimp only;rw[this];simp
  .rw[Fv];by_cases h:l! (wl s.2.2.2 o (l! s.2.2.2))=0
   .rw[aD h,aD h,OW h]
   .rw[av h,av h]
 .refine bc (Y7 s o z.th) (bt ?_ (ak rfl));dsimp only;rw[LR];simp
def Ea:Nat->Y η
 |0=>[[]]
 |m+1=>Ea m++(Ea m).map ((3-(m:Int))::·)
def Q6:∀m,[]∈Ea m
 |0=>by simp[Ea]
 |m+1=>by simp[Ea,Q6 m]
def H6:∀(m:Nat) (l:η),Ly l->(∀z∈l,4-(m:Int)<=z/\z<4)->l∈Ea m
 |m,[],_,_=>Q6 m
 |0,a::r,_,h=>by have:=h a (by simp);omega
 |m+1,a::r,hA,h=>by
  have D:=h a (by simp);rw[Ea,bO];by_cases e:a=3-(m:Int)
  .refine .inr (cz.2 ⟨r,H6 m r hA.2 λz A=>?_,by rw[e]⟩);have:=h z (by grind);have:=hA.1 z A;omega
  .refine .inl (H6 m (a::r) hA λz A=>?_);have:=h z A;rcases aV.1 A with rfl|A
   .omega
   .have:=hA.1 z A;omega
def are (h:Ly A) (D:∀z∈A,0<=z/\z<4):A∈Ea 4:=H6 4 A h λz l=>by have:=D z l;omega
def in4:η:=[0,1,2,3]
def acx (h0:0<=a) (h1:a<4):a∈in4:=by
 have:a=0\/a=1\/a=2\/a=3:=by omega
 rcases this with rfl|rfl|rfl|rfl<;>simp[in4]
def ax1 (l:η) (t:Int):Bool:=l.contains t||((zo (l++[t])==Z (yJ l [t]))&&(mY (yJ l [t])==Z (yJ l [t]))&&ax (l! (yJ l [t])) (l! (l++[t])))
def axv (l:η) (t:Int):Bool:= !l.contains t||(jZ (l,t)==Z (t,wo l t))
def anj:((Ea 4).all λl=>in4.all λt=>ax1 l t)=J:=by kernel_rfl
def ape:((Ea 4).all λl=>in4.all λt=>axv l t)=J:=by kernel_rfl
def srt8 (h:Ly A) (l:∀z∈A,0<=z/\z<4) (h0:0<=a) (h1:a<4) (D:¬a∈A):zo (A++[a])=Z (yJ A [a])/\mY (yJ A [a])=Z (yJ A [a])/\l! (yJ A [a])=l! (A++[a]):=by
 have:=iL.1 (iL.1 anj A (are h l)) a (acx h0 h1);unfold ax1 at this;simp_all
def del8 (h:Ly A) (l:∀z∈A,0<=z/\z<4) (h0:0<=a) (h1:a<4) (D:A.contains a=J):jZ (A,a)=Z (a,wo A a):=by
 have:=iL.1 (iL.1 ape A (are h l)) a (acx h0 h1);unfold axv at this
 grind
def apn (a0 L D:Int) (r0 A z:η) (h:Int) (d:θ) (th:Y d?) (h0:l! r0<=1000) (h1:l! A<=1000) (h2:l! z<=1000) (hd:l! d<=1000) (ht:l! th<=1000):rW ([(a0,r0),(L,A),(D,z)],h,d,th)=Z ((h,d,th),(a0,L,D),r0,A,z):=by
 refine cW ?_;have cl:∀l:η,l! l<=1000->qu l=Z l:=λl hl=>cW (a! (ak rfl))
 refine bt rfl (aX (λx=>x=(([(a0,r0),(L,A),(D,z)],h,d,th),0,(a0,L,D),r0,A,z)) ?_ ?_)
 .exact qV rfl (bt rfl (aT (bc (cl _ h0) (qV rfl (bt rfl (aT (bc (cl _ h1) (qV rfl (bt rfl (aT (bc (cl _ h2) (j7 rfl (ak rfl)))))))))))))
 rintro x rfl;refine bc (x:=d) (cW (bN (by grind) (by omega) (ak rfl))) (bc (x:=th) (cW (bN (by grind) (by omega) (ak rfl))) (ak rfl))
def ar6 (w:WT) (s:SY) (z:SB i s) (hn:i<=1000) (D:l! w.2.2.1<=1000) (t k o u:Int) (he:EN w s t k o) (L:Yh w s t k o) (hk:k=8\/k=9):il (w,s,t,k,o,u)=U:=by
 have h1:=HU w s z hn D t k o he L;have A:=alc s z;rcases hk with rfl|rfl
 .unfold il bf bw bH cE dJ c8 eD dQ hY xm ck bn bR bY kK aH;simp[h1,A,bI,ey,Rb];cases dO o (aj s.1)<;>rfl
 .unfold il bf bw bH cE dJ c8 eD dQ hY xm ck bn bR bY kK aH;simp[h1,A,bI,ey,Rb];cases dO o (aj s.1)<;>rfl
def ar4 (w:WT) (s:SY) (L:SB i s) (hn:i<=900) (hw:l! w.2.2.1<=1000) (t k u:Int) (he:EN w s t k 2) (hr:Yh w s t k 2) (hk:k=8\/k=9) (h3:l! s.1=3) (hA:Ly (geti eM s.1 2).2) (h4:∀z∈(geti eM s.1 2).2,0<=z/\z<4) (t4:t<4):mr (w,s,t,k,2,u)=Z ((pV w s t k 2 u).1,(pV w s t k 2 u).2,J):=by
 have h1:=HU w s L (by omega) hw t k 2 he hr;have t0:=he.t0;have ra:=hr.ra;have rr:=hr.rr;have hrd:=L.rd;have hdn:=L.dn;have hth:=L.th;let⟨s1,h,d,th⟩:=s
 match s1,h3 with
 |[(a0,r0),(a1,D),(a2,A)],_=>
  have g0:l! r0<=i:=hrd (a0,r0) (by simp);have g1:l! D<=i:=hrd (a1,D) (by simp);have g2:l! A<=i:=hrd (a2,A) (by simp);have hA:Ly A:=hA;have hc:=apn a0 a1 a2 r0 D A h d th (by omega) (by omega) (by omega) hdn hth;refine cW ?_;unfold mr bf bw bH cE dJ gf eD dQ hY vu bn mK bR aH;rcases hk with rfl|rfl
  .have ra:A.contains t=af:=ra rfl;let⟨q1,q2,q3⟩:=srt8 hA h4 t0 t4 (by grind);simp[h1,hc,bI,ey,Rb];refine aX (λx=>x=(0,(h,d,th),0,(((a0,r0),(a1,D),a2)),J,yJ A [t])) ?_ ?_
   .refine bN (by grind) (by omega) (bc q1 (bt ?_ (bc q2 (bt ?_ (ak ?_)))))
    .rw[q3];simp
    .simp
    .rfl
   rintro x rfl;exact ak rfl
  .have rr:A.contains t=J:=rr rfl;have q1:=del8 hA h4 t0 t4 rr;simp[h1,hc,bI,ey,Rb];refine aX (λx=>x=(0,(h,d,th),0,(((a0,r0),(a1,D),a2)),af,wo A t)) ?_ ?_
   .exact bc q1 (bt (by simp) (ak rfl))
   rintro x rfl;exact ak rfl
def awg (w:WT) (s:SY) (L:SB i s) (hn:i<=900) (D:l! w.2.2.1<=1000) (t k o u:Int) (he:EN w s t k o) (hr:Yh w s t k o) (h2:k=8\/k=9->o=2) (h3:l! s.1=3) (hA:∀l∈s.1,Ly l.2/\∀z∈l.2,0<=z/\z<4) (t4:t<4):tR (w,s,t,k,o,u)=Z ((pV w s t k o u).1,(pV w s t k o u).2,J):=by
 unfold tR;by_cases A:k=8\/k=9
 .have:=h2 A;subst this;have hg:=hA _ (bP (T:=eM) (xs:=s.1) (j:=2) (by omega) (by omega));rw[ar6 w s L (by omega) D t k 2 u he hr A,ar4 w s L hn D t k u he hr A h3 hg.1 hg.2 t4];rfl
 .rw[ar5 w s L (by omega) D t k o u he hr (λh=>A (.inl h)) λh=>A (.inr h)];rfl
def ado (l:η) (h:l! l<=100000):Cl l=Z l:=cW (a! (ak rfl))
def apo (l:η) (h:l! l<=100000):qu l=Z l:=cW (a! (ak rfl))
def ayp {n:Nat} (w:WT) (s:SN) (e:ET) (D:NB n s) (hn:n<=900) (hw:l! w.2.2.1<=1000) (hF:F16 w s) (hE:EN w s.1 e.1 e.2.1 e.2.2.1) (hS:S16 w s e) (ld:l! e.2.2.2.2.2.1<=1000000) (lf:l! e.2.2.2.2.2.2<=1000000) (h2:e.2.1=8\/e.2.1=9->e.2.2.1=2) (h3:l! s.1.1=3) (hA:∀l∈s.1.1,Ly l.2/\∀z∈l.2,0<=z/\z<4) (t4:e.1<4):mi (w,s,e)=Z (nxP w s e,J):=by
 refine cW ?_;let⟨rd,q1,q2,de,fr,nd,nf,va⟩:=id hS;let⟨nm,L,t1,cd,e1,e2,e3⟩:=id hE;let⟨k1,k2,ce,lk,cn,th,fu,_,_,_⟩:=nm;let⟨f1,f2,f3⟩:=id hF;have hsc:=D.c;have hsf:=D.f;have hsk:=D.k;refine aX (λx=>x=(af,w,s,e,0)) ?_ ?_
 .refine bc (axq w s hw _ _ _ hE hF) (j7 rfl (dw (fO (λg=>(by grind)) λ_=>dw (ak ?_))));rw[kg.2 (show e.2.1<=23 by omega)]
 rintro x rfl;refine kB (aX (λx=>x=(af,w,s,e,0)) ?_ ?_)
 .exact bc (HU w s.1 D.sb (by omega) hw _ _ _ hE rd) (j7 rfl (bc (anx w e q1 q2) (j7 rfl (bc (Xf w s e (λh=>ce h) de fr L (by omega) nd nf ld lf) (j7 rfl (bc (and w s D.sb e hF hE va) (ak rfl)))))))
 rintro x rfl;refine kB (aX (λx=>x.2=(w,s,e,0)/\pV w s.1 e.1 e.2.1 e.2.2.1 x.1=pV w s.1 e.1 e.2.1 e.2.2.1 e.2.2.2.1) ?_ ?_)
 .exact aK (λ_=>ak ⟨rfl,rfl⟩) λh=>ak ⟨rfl,ae0 _ _ _ _ _ _ _ h⟩
 rintro⟨u,x⟩ ⟨hx,hu⟩;dsimp only at hx hu;subst hx;refine bc (awg w s.1 D.sb hn hw _ _ _ u hE rd h2 h3 hA t4) (j7 rfl (bc (ado _ (by grind)) (bc (ado _ (by grind)) (bc (apo _ (by grind)) ?_))));rw[hu];refine aX (λx=>x.1=e/\x.2.2.1=(pV w s.1 e.1 e.2.1 e.2.2.1 e.2.2.2.1).1/\x.2.2.2.1=ceP s.2.1 e/\x.2.2.2.2.1=fuP s.2.2.1 e/\x.2.2.2.2.2=s.2.2.2) ?_ ?_
 .unfold ceP fuP;refine aK (λh=>?_) λh=>aK (λh'=>?_) λh'=>ak ⟨rfl,rfl,(av h).symm,(av h').symm,rfl⟩
  .have h:e.2.1=4:=h;have A:=ce (.inr h);exact aO A.1 (by grind) (aO A.1 (by grind) (ak ⟨rfl,rfl,(aD h).symm,(av (by omega)).symm,rfl⟩))
  .have h:e.2.1=22:=h';have A:=fu (.inl h);exact aO A.1 (by grind) (aO A.1 (by grind) (ak ⟨rfl,rfl,(av (by omega)).symm,(aD h).symm,rfl⟩))
 rintro⟨x1,x2,x3,x4,x5,x6⟩ ⟨h1,h2,h4,h5,h6⟩;simp only at h1 h2 h4 h5 h6;subst h1 h2 h4 h5 h6;have t2:x1.1<(l! s.2.2.2:Int):=by omega
 exact aO L t2 (aO L t2 (aT (aO L t2 (aO L t2 (ak rfl)))))
structure TP (t:η×Int):Prop where
 l0:l! t.1<=9223372036854775807
 by_:∀x∈t.1,0<=x/\x<=255
 a0:0<=t.2
 a1:t.2<=l! t.1
structure xh (t t':η×Int):Prop where
 e:t'.1=t.1
 m:t.2<=t'.2
 p:TP t'
def xh.refl {t:o!} (h:TP t):xh t t:=⟨rfl,dC _,h⟩
def xh.trans {a b c:o!} (h:xh a b) (g:xh b c):xh a c:=⟨g.e.trans h.e,xv h.m g.m,g.p⟩
def gP (n:Int) (t:o!) (h:TP t):Ok (bD (n,t)) λy=>xh t y.2/\0<=y.1/\(1<=n->y.1<n)/\(t.2<l! t.1->1<=n->t.2<y.2.2):=by
 let⟨L,a⟩:=t;have hT:=h;let⟨l0,D,a0,a1⟩:=h;dsimp only at l0 D a0 a1;unfold bD kY bR bY aZ aH cV;refine aX (λx=>x.2=(L,a)/\(x.1=J->a=l! L\/n<1)/\(x.1=af->a<l! L/\1<=n)) ?_ ?_
 .refine fO (λh=>ak ⟨rfl,λ_=>?_,nofun⟩) λh=>ak ⟨rfl,λA=>?_,λA=>?_⟩
  .grind
  .rw[r8]at A;exact .inr A
  .rw[kg]at A;dsimp [ay]at h A;omega
 rintro⟨b,x⟩ ⟨e,h1,A⟩;subst e;refine aP (λh=>ak ⟨xh.refl hT,dC _,λh3=>(by omega),λh3 h4=>?_⟩) λh=>?_
 .grind
 let⟨q1,q2⟩:=A h;refine aT ?_;have e1:bl .i64 (a+1)=a+1:=jA;rw[e1,jA (n:=a+1-1) (by omega) (by omega),show a+1-1=a by omega];have hz:=D _ (bP (T:=.int .u8) (xs:=L) (j:=a) a0 q1);refine aO a0 q1 (aT ?_);generalize (geti _ _ a)=z at hz;rw[jA (n:=z) (by omega) (by omega)];refine Cg (by omega) (ak ?_);dsimp only;refine ⟨⟨rfl,by dsimp only;omega,⟨l0,D,by dsimp only;omega,by dsimp only;omega⟩⟩,Int.tmod_nonneg _ hz.1,λ_=>?_,λ_ _=>by omega⟩;exact Int.tmod_lt_of_pos _ (by omega)
def YE (s:SY) (A:l! s.2.2.2<=1000) (y:η×x!):Ok (oF (s,y)) λl=>l! l<=l! s.2.2.2:=by
 refine cD (l! s.2.2.2) (λi x=>x.1=(i:Int)/\l! x.2<=i) ?_ ?_ ⟨rfl,by simp⟩
 .rintro i ⟨a,b⟩ hi ⟨z,e2⟩;subst z;with_reducible repeat' first|apply OS.ok;constructor|refine IM.mk λ_=>?_
  all_goals try simp only[ay,ua] at*
  all_goals first|omega|(simp;omega)|skip
  .exact⟨ig,by simp;omega⟩
  .exact⟨ig,by omega⟩
 .rintro⟨a,b⟩ ⟨z,e2⟩;refine bQ (λD=>(by grind)) λ_=>ak e2
def aew (k u:Int) (t:o!) (h:TP t):Ok (pO ((k,u),t)) λy=>xh t y.2/\(k=3\/k=4->0<=y.1/\y.1<5):=by
 unfold pO bn kK aH cV;cases kdI k
 case no D _=>
  simp only[D,bI,ey,Rb];exact ak ⟨xh.refl h,λh=>(by grind)⟩
 all_goals first
  |exact ak ⟨xh.refl h,λh=>(by grind)⟩
  |exact aA (gP 2 t h) λy A=>ak ⟨A.1,λh=>(by omega)⟩
  |exact aA (gP 3 t h) λy A=>ak ⟨A.1,λh=>(by grind)⟩
  |skip
 all_goals
  refine aA (gP 8 t h) λy A=>?_
  have h1:=A.2.1;have L:=A.2.2.1 (by omega);refine aO h1 (by omega) (aO h1 (by omega) (aT (ak ⟨A.1,λ_=>?_⟩)));have:∀z:Int,z∈([0,0,0,1,1,2,3,4]:η)->0<=z/\z<5:=by decide
  exact this _ (bP (T:=aM) h1 (by omega))
structure SZ (n:Nat) (s:SN):Prop where
 nb:NB n s
 c:l! s.2.1=5
 f:l! s.2.2.1=1
 k:l! s.2.2.2=4
def SZ.step {s y:SN} (h:SZ i s) (hp:SP i s y) (z:i+1<=100000):SZ (i+1) y:=
 ⟨hp.NB h.nb z,by rw[hp.c];exact h.c,by rw[hp.f];exact h.f,by rw[hp.k];exact h.k⟩
def aej (s:SN) (A:SZ i s) (k o:Int) (ho:k=3->0<=o/\o<5) (t:o!) (h:TP t):Ok (rP ((s,k,o),t)) λy=>xh t y.2:=by
 let⟨s1,s2,s3,L⟩:=s;have hc:=A.c;have hf:=A.f;have hth:=A.nb.sb.th;dsimp only at hc hf hth;have D:=YE s1 hth (s2,s3,L);unfold rP bf bn bU bY aZ aH;cases kdI k
 case no hk _=>
  simp[hk,bI,ey,Rb];exact ak (xh.refl h)
 all_goals simp[bI,ey,Rb]
 all_goals first
  |exact ak (xh.refl h)
  |exact aA (gP 2 t h) λy z=>ak z.1
  |exact aA (gP 3 t h) λy z=>ak z.1
  |exact aA D λy z=>ak (xh.refl h)
  |exact aO (by decide) (by omega) (aT (ak (xh.refl h)))
  |exact aO (ho rfl).1 (by omega) (aT (ak (xh.refl h)))
  |skip
 refine aA D λl hl=>?_
 refine bQ (λh1=>?_) λ_=>ak (xh.refl h)
 refine aA (gP _ t h) λy z=>?_
 have h2:=z.2.2.1 (by grind);exact aO z.2.1 h2 (aT (ak z.1))
def anl (t:o!) (h:TP t) (r:η) (hr:l! r<=1000000):Ok (iD (t,r)) λy=>l! y.1<=l! r/\xh t y.2.1/\y.2.2=r:=by
 refine cD (l! r) (λi x=>x.1=(i:Int)/\xh t x.2.1/\x.2.2.1=r/\l! x.2.2.2<=i) ?_ ?_ ⟨rfl,xh.refl h,rfl,by simp⟩
 .rintro i ⟨a,b,c,d⟩ hi ⟨L,e2,z,D⟩;dsimp only at L e2 z D;subst L z;refine bQ (λg4=>?_) λg4=>(by grind)
  refine aX (λx=>xh t x.1/\x.2.1=c/\l! x.2.2<=i+1) ?_ ?_
  .refine cH (cH (aT ?_));refine aX (λx=>xh t x.2.1/\x.2.2=(c,d)) ?_ ?_
   .refine aP (λ_=>?_) λ_=>ak ⟨e2,rfl⟩
    exact aA (gP 2 b e2.p) λy hy=>ak ⟨e2.trans hy.1,rfl⟩
   .rintro⟨p,q,u⟩ ⟨A,f2⟩;subst f2;refine aP (λ_=>?_) λ_=>ak ⟨A,rfl,by dsimp only;omega⟩
    exact bN (by grind) (by omega) (ak ⟨A,rfl,by simp;omega⟩)
  .rintro⟨p,q,u⟩ ⟨A,f2,f3⟩;subst f2;refine ak ?_;exact⟨ig,A,rfl,f3⟩
 .rintro⟨a,b,c,d⟩ ⟨L,e2,z,D⟩;dsimp only at L e2 z D;subst z;refine bQ (λg4=>(by grind)) λ_=>ak ⟨D,e2,rfl⟩
def ajp:vz ()=Z [3,3,3,3,3,4,4,4,4,4,5,5,5,6,6,6,7,7,7,8,9,10,11,12,13,14,14,15,16,16,17,17,18,18,19,20,1,1,2,21,22,23,23]:=rfl
abbrev RR:Type:=η×η×x!
structure RB4 (m:Nat) (r:RR):Prop where
 r0:l! r.1<=m
 r1:l! r.2.1<=m
 r2:l! r.2.2.1<=m
 r3:l! r.2.2.2<=m
def aks (s:SN) (hs:SZ i s) (w:WT) (hw:l! w.1=5) (t:o!) (h:TP t) (r:RR) (hr:RB4 1000000 r):Ok (rQ ((s,w),t,r)) λy=>xh t y.2.1/\y.2.2=r/\(t.2<l! t.1->t.2<y.2.1.2)/\l! y.1.2.2.2.2.2.1<=1000000/\l! y.1.2.2.2.2.2.2<=1000000:=by
 let⟨r0,r1,r2,r3⟩:=r;let⟨h0,h1,h2,h3⟩:=hr;dsimp only at h0 h1 h2 h3;unfold rQ hZ iR kl bf bw bH cE dJ gf iK ji Prod.v Prod.z dQ hY bn bR bY aZ aH;refine aA (gP 4 t h) λy hy=>?_
 refine bc ajp ?_;refine aA (gP _ y.2 hy.1.p) λz hz=>?_
 let⟨y1,yt⟩:=y;let⟨z1,zt⟩:=z;let⟨ty,yy0,yy1,yy2⟩:=hy;let⟨tz,zz0,zz1,_⟩:=hz;dsimp only at ty yy0 yy1 yy2 tz zz0 zz1;have yy1:=yy1 (by decide);have hzl:=zz1 (by decide);refine aO zz0 hzl (aT ?_);generalize (geti _ _ z1)=k;refine aA (gP 6 zt tz.p) λv D=>?_
 let⟨v1,vt⟩:=v;have tv:=D.1;dsimp only at tv;have tt:=(ty.trans tz).trans tv;have hadv:t.2<l! t.1->t.2<vt.2:=λh=>by
  have:=yy2 h (by decide);have:=tz.m;have:=tv.m;omega
 refine aX (λx=>x.1=vt/\x.2.1=r0/\x.2.2.1=r1/\x.2.2.2.1=r2/\x.2.2.2.2.1=r3/\x.2.2.2.2.2.1=s/\x.2.2.2.2.2.2.1=w) ?_ ?_
 .refine aX (λx=>x.2.1=vt/\x.2.2.1=r0/\x.2.2.2.1=r1/\x.2.2.2.2.1=r2/\x.2.2.2.2.2.1=r3/\x.2.2.2.2.2.2.1=s/\x.2.2.2.2.2.2.2.1=w) ?_ ?_
  .with_reducible repeat' first|apply OS.ok;constructor|refine IM.mk λ_=>?_
   all_goals exact⟨rfl,rfl,rfl,rfl,rfl,rfl,rfl⟩
  .rintro⟨p,q⟩ hq;dsimp only at hq;with_reducible repeat' first|apply OS.ok;constructor|refine IM.mk λ_=>?_
   all_goals exact hq
 rintro⟨x1,x2,x3,x4,x5,x6,x7,x8,x9,x10⟩ ⟨L,f2,f3,f4,f5,f6,f7⟩;dsimp only at L f2 f3 f4 f5 f6 f7;subst L f2 f3 f4 f5 f6 f7;refine aA (aew _ _ _ tv.p) λo ho=>?_
 let⟨o1,ot⟩:=o;let⟨to,ho⟩:=ho;dsimp only at to ho;refine aA (aej _ hs _ _ (λhk=>ho (.inl hk)) _ to.p) λq hq=>?_
 let⟨q1,qt⟩:=q;dsimp only at hq;have tq:=(tt.trans to).trans hq;have hadv2:t.2<l! t.1->t.2<qt.2:=λh=>by have:=hadv h;have:=to.m;have:=hq.m;omega
 have row:∀(T:o!) (c:η) {R:Type} (k:η×((η×Int)×η)->M R) (Q:R->Prop),xh t T->l! c<=1000000->(∀v T',xh T T'->l! v<=1000000->Ok (k (v,T',c)) Q)->Ok (aB (iD (T,c)) k) Q:=λT c R k Q A hc hk=>by
  refine aA (anl T A.p c hc) λy hy=>?_
  grind
 refine aX (λx=>xh t x.1/\(t.2<l! t.1->t.2<x.1.2)/\x.2.1=x2/\x.2.2.1=x3/\x.2.2.2.1=x4/\x.2.2.2.2.1=x5/\l! x.2.2.2.2.2.2.2.2.2.2.2<=1000000) ?_ ?_
 .refine aX (λx=>x.2.1=qt/\x.2.2.1=x2/\x.2.2.2.1=x3/\x.2.2.2.2.1=x4/\x.2.2.2.2.2.1=x5) ?_ ?_
  .refine aK (λ_=>ak ⟨rfl,rfl,rfl,rfl,rfl⟩) λ_=>?_
   refine aK (λhk=>?_) λ_=>aK (λhk=>?_) λ_=>ak ⟨rfl,rfl,rfl,rfl,rfl⟩
   .exact aO (ho (.inl hk)).1 (by dsimp only;rw[hw];exact (ho (.inl hk)).2) (aT (ak ⟨rfl,rfl,rfl,rfl,rfl⟩))
   .exact aO (ho (.inr hk)).1 (by dsimp only;rw[hw];exact (ho (.inr hk)).2) (aT (ak ⟨rfl,rfl,rfl,rfl,rfl⟩))
  .rintro⟨b,p1,p2,p3,p4,p5,p6⟩ ⟨L,f2,f3,f4,f5⟩;dsimp only at L f2 f3 f4 f5;subst L f2 f3 f4 f5;refine aP (λ_=>?_) λ_=>ak ⟨tq,hadv2,rfl,rfl,rfl,rfl,by simp⟩
   have adv3:∀T',xh p1 T'->t.2<l! t.1->t.2<T'.2:=λT' A h=>by have:=hadv2 h;have:=A.m;omega
   refine aK (λ_=>?_) λ_=>aK (λ_=>?_) λ_=>aK (λ_=>?_) λ_=>aK (λ_=>?_) λ_=>?_
   .refine row p1 p2 _ _ tq h0 λv T' A D=>?_
    refine cR (mQ rfl (Ed ?_));exact ak ⟨tq.trans A,adv3 T' A,rfl,rfl,rfl,rfl,D⟩
   .refine row p1 p3 _ _ tq h1 λv T' A D=>?_
    refine cR (mQ rfl (Ed ?_));exact ak ⟨tq.trans A,adv3 T' A,rfl,rfl,rfl,rfl,D⟩
   .refine row p1 p4 _ _ tq h2 λv T' A D=>?_
    refine cR (mQ rfl (Ed ?_));exact ak ⟨tq.trans A,adv3 T' A,rfl,rfl,rfl,rfl,D⟩
   .refine row p1 p5 _ _ tq h3 λv T' A D=>?_
    refine cR (mQ rfl (Ed ?_));exact ak ⟨tq.trans A,adv3 T' A,rfl,rfl,rfl,rfl,D⟩
   .omega
 rintro⟨u1,u2,u3,u4,u5,u6,u7,u8,u9,u10,u11,u12⟩ ⟨L,f2,f3,f4,f5,f6,f7⟩;dsimp only at L f2 f3 f4 f5 f6 f7;subst f3 f4 f5 f6;refine aX (λx=>xh t x.1/\(t.2<l! t.1->t.2<x.1.2)/\x.2.1=u2/\x.2.2.1=u3/\x.2.2.2.1=u4/\x.2.2.2.2.1=u5/\l! x.2.2.2.2.2.2.2.2.2.2.2.1<=1000000/\l! x.2.2.2.2.2.2.2.2.2.2.2.2<=1000000) ?_ ?_
 .refine aX (λx=>x.2=(u1,u2,u3,u4,u5,u6,u7,u8,u9,u10,u11,u12)) ?_ ?_
  .with_reducible repeat' first|apply OS.ok;constructor|refine IM.mk λ_=>?_
   all_goals rfl
  .rintro⟨b,x⟩ e;dsimp only at e;subst e;refine aP (λ_=>?_) λ_=>ak ⟨L,f2,rfl,rfl,rfl,rfl,f7,by simp⟩
   have adv3:∀T',xh u1 T'->t.2<l! t.1->t.2<T'.2:=λT' A h=>by have:=f2 h;have:=A.m;omega
   refine aK (λ_=>?_) λ_=>aK (λ_=>?_) λ_=>aK (λ_=>?_) λ_=>aK (λ_=>?_) λ_=>?_
   .refine row u1 u2 _ _ L h0 λv T' A D=>?_
    refine cR (mQ rfl (Ed ?_));exact ak ⟨L.trans A,adv3 T' A,rfl,rfl,rfl,rfl,f7,D⟩
   .refine row u1 u3 _ _ L h1 λv T' A D=>?_
    refine cR (mQ rfl (Ed ?_));exact ak ⟨L.trans A,adv3 T' A,rfl,rfl,rfl,rfl,f7,D⟩
   .refine row u1 u4 _ _ L h2 λv T' A D=>?_
    refine cR (mQ rfl (Ed ?_));exact ak ⟨L.trans A,adv3 T' A,rfl,rfl,rfl,rfl,f7,D⟩
   .refine row u1 u5 _ _ L h3 λv T' A D=>?_
    refine cR (mQ rfl (Ed ?_));exact ak ⟨L.trans A,adv3 T' A,rfl,rfl,rfl,rfl,f7,D⟩
   .omega
 rintro⟨a1,a2,a3,a4,a5,a6,a7⟩ ⟨g1,g2,g3,g4,g5,g6,g7,g8⟩;dsimp only at g1 g2 g3 g4 g5 g6 g7 g8;subst g3 g4 g5 g6;exact ak ⟨g1,rfl,g2,g7,g8⟩
def EvS (e:ET):Prop:=l! e.2.2.2.2.2.1<=1000000/\l! e.2.2.2.2.2.2<=1000000
def anw (hm:i<=1000) (s:SN) (hs:SZ i s) (w:WT) (hw:l! w.1=5) (hwt:l! w.2.2.2.2.1=4) (hwc:l! w.2.2.1<=1000) (n:Int) (hn:n<=60) (t:o!) (h:TP t):Ok (uc ((s,w,n,af),t)) λy=>(∀e∈y.1,EvS e)/\l! y.1<=60:=by
 unfold uc bf bw bH cE dJ gf iK ji HX c8 dQ hY xm vu Prod.w bn bU bR bY aZ c7 aH;refine cR (cR (cR (dm (by simp) (dm (dC _) (bN (by grind) (by omega) (acf (by grind) ?_))))));refine aX (λx=>x=(t,s,w,[],[],[],[])) ⟨_,rfl,rfl⟩ ?_;rintro x rfl;refine rI (λx=>((l! t.1:Int)-x.1.2).toNat) (λx=>xh t x.1/\x.2.2.1=w/\SZ (i+l! x.2.2.2.1) x.2.1/\l! x.2.2.2.1<=60/\(∀e∈x.2.2.2.1,EvS e)/\RB4 (l! x.2.2.2.1) x.2.2.2.2) ?_ ⟨xh.refl h,rfl,(by simpa using hs),by simp,λe he=>(by cases he),⟨by simp,by simp,by simp,by simp⟩⟩;rintro⟨A,s,w',out,r⟩ ⟨i1,i2,i3,i4,i5,i6⟩;dsimp only at i1 i2 i3 i4 i5 i6;subst i2;refine aX (λx=>x.2=(A,s,w',out,r)/\(x.1=J->l! out<60/\A.2<l! A.1)) ?_ ?_
 .refine bQ (λh1=>ak ⟨rfl,λh2=>?_⟩) λ_=>ak ⟨rfl,nofun⟩
  rw[r8]at h2
  grind
 rintro⟨b,x⟩ ⟨e,hb⟩;dsimp only at e hb;subst e;refine aP (λh1=>?_) λ_=>ak ⟨i5,i4⟩
 let⟨ho,ht⟩:=hb h1;let⟨q0,q1,q2,q3⟩:=id i6;refine aX (λx=>xh A x.1/\A.2<x.1.2/\x.2.2.1=w'/\SZ (i+l! x.2.2.2.1) x.2.1/\l! x.2.2.2.1<=60/\(∀e∈x.2.2.2.1,EvS e)/\RB4 (l! x.2.2.2.1) x.2.2.2.2) ?_ ?_
 .refine aA (aks s i3 w' hw A i1.p r ⟨by omega,by omega,by omega,by omega⟩) λy hy=>?_
  let⟨ev,tp',r'⟩:=y;let⟨j1,j2,j3,L,D⟩:=hy;dsimp only at j1 j2 j3 L D;subst j2;have j3:=j3 ht;refine cR (mQ rfl (cR (mQ rfl (cR (mQ rfl (cR (mQ rfl (Ed ?_))))))));refine aA (Jg w' s i3.nb hwc ev (.inl (by omega)) (.inl (by omega))) λz hz=>?_
  refine dM (λ_=>ak ⟨j1,j3,rfl,i3,i4,i5,i6⟩) λh2=>?_
  let⟨z1,z2⟩:=z;let⟨hE,hS,_⟩:=hz.1 h2;have hS2:=i3.step hS (by omega);refine aX (λx=>x.1=tp'/\x.2.2.1=w'/\x.2.2.2.1=out/\EvS x.2.2.2.2.1/\x.2.2.2.2.2.1=z1/\RB4 (l! out+1) x.2.2.2.2.2.2) ?_ ?_
  .refine aX (λx=>x.2=(tp',s,w',out,ev,z1,r')) ?_ ?_
   .refine aK (λ_=>ak rfl) λ_=>ak rfl
   .rintro⟨b,x⟩ e;dsimp only at e;subst e;have hk:=i3.k;let⟨ev1,ev2⟩:=ev;have t0:=hE.t0;have t1:=hE.t1;rw[hwt]at t1;dsimp only at t0 t1;refine aP (λ_=>?_) λ_=>ak ⟨rfl,rfl,rfl,⟨L,D⟩,rfl,⟨by dsimp only;omega,by dsimp only;omega,by dsimp only;omega,by dsimp only;omega⟩⟩
    refine aK (λ_=>?_) λ_=>aK (λ_=>?_) λ_=>aK (λ_=>?_) λ_=>aK (λ_=>?_) λ_=>?_
    .exact aO (by decide) (by dsimp only;omega) (aT (a! (ak ⟨rfl,rfl,rfl,⟨L,D⟩,rfl,⟨by simp;omega,by dsimp only;omega,by dsimp only;omega,by dsimp only;omega⟩⟩)))
    .exact aO (by decide) (by dsimp only;omega) (aT (a! (ak ⟨rfl,rfl,rfl,⟨L,D⟩,rfl,⟨by dsimp only;omega,by simp;omega,by dsimp only;omega,by dsimp only;omega⟩⟩)))
    .exact aO (by decide) (by dsimp only;omega) (aT (a! (ak ⟨rfl,rfl,rfl,⟨L,D⟩,rfl,⟨by dsimp only;omega,by dsimp only;omega,by simp;omega,by dsimp only;omega⟩⟩)))
    .exact aO (by decide) (by dsimp only;omega) (aT (a! (ak ⟨rfl,rfl,rfl,⟨L,D⟩,rfl,⟨by dsimp only;omega,by dsimp only;omega,by dsimp only;omega,by simp;omega⟩⟩)))
    .dsimp only at *;omega
  .rintro⟨x1,x2,x3,x4,x5,x6,x7⟩ ⟨k1,k2,k3,k4,k5,k6⟩;dsimp only at k1 k2 k3 k4 k5 k6;subst k1 k2 k3 k5;refine a! (ak ⟨j1,j3,rfl,?_,by simp;omega,λe he=>?_,?_⟩)
   .grind
   .grind
   .grind
 rintro⟨tp',s',w'',out',r'⟩ ⟨k1,k2,k3,k4,k5,k6,k7⟩;dsimp only at k1 k2 k3 k4 k5 k6 k7;have e1:=i1.e;have a1:=k1.p.a1;have e2:=k1.e;refine ak ⟨⟨i1.trans k1,k3,k4,k5,k6,k7⟩,?_⟩;dsimp only;rw[e2,e1]at a1;omega
def C0:Y (ζ×o?):=[([120],0,0,af,0),([121],0,0,af,1),([118],0,0,J,0),([113],0,2,af,0),([113],1,2,af,0)]
def KF:Y H!:=[([109],af),([110],af),([114],J)]
def PI:Y (ζ×Int):=[([99],0)]
def Yt:Y ζ:=[[102]]
def Ah:Y ζ:=[[109,97,105,110],[116,49],[116,50],[116,51]]
structure WX (w:WT):Prop where
 c:w.1=C0
 l:w.2.1=KF
 d:w.2.2.1=PI
 f:w.2.2.2.1=Yt
 t:∃n,1<=n/\n<=4/\w.2.2.2.2.1=Ah.take n
 s:l! w.2.2.2.2.2<=60
 v:SV0 w
structure W0 (w:WT):Prop where
 c:l! w.1=5
 l:l! w.2.1=3
 d:l! w.2.2.1=1
 f:l! w.2.2.2.1=1
 t:l! w.2.2.2.2.1=4
 s:l! w.2.2.2.2.2<=24
 x:WX w
def W0.vl {w:WT} (h:W0 w):VL w:=⟨by rw[h.c];decide,by rw[h.l];decide,by rw[h.d];decide,by rw[h.f];decide,by rw[h.t];decide,by rw[h.t];decide,by have:=h.s;omega⟩
def nxS (i j:Nat):ν:=if j=0 then (if i=0 then (0,0) else ((i:Int)-1,6)) else (i,j)
def abs {l:Y π} {s:π}:Py a (l++[s])=Yx a (Py a l) s:=by unfold Py;rw[dT];rfl
def Yd:Ok (oW ()) W0:=by
 unfold oW bf bw bH cE hY bU bR c7 aH cV;refine cD 4 (λi x=>x.1=(i:Int)/\x.2.1=C0/\x.2.2.1=KF/\x.2.2.2.1=PI/\x.2.2.2.2.1=Yt/\x.2.2.2.2.2.1=Ah/\l! x.2.2.2.2.2.2<=6*i/\Py 4 x.2.2.2.2.2.2=Z (nxS i 0)) ?_ ?_ ⟨rfl,rfl,rfl,rfl,rfl,rfl,by simp,rfl⟩
 .rintro i ⟨a,w1,w2,w3,w4,w5,w6⟩ hi ⟨e1,e2,e3,e4,e5,L,e7,D⟩;subst e1;refine bQ (λ_=>?_) λg=>(by grind)
  refine cD 6 (λj x=>x.1=(j:Int)/\x.2.1=w1/\x.2.2.1=w2/\x.2.2.2.1=w3/\x.2.2.2.2.1=w4/\x.2.2.2.2.2.1=w5/\l! x.2.2.2.2.2.2<=6*i+j/\Py 4 x.2.2.2.2.2.2=Z (nxS i j)) ?_ ?_ ⟨rfl,rfl,rfl,rfl,rfl,rfl,by dsimp only;omega,D⟩
  .rintro j ⟨b,v1,v2,v3,v4,v5,v6⟩ hj ⟨d1,d2,d3,d4,d5,d6,d7,d8⟩;dsimp only at d1 d2 d3 d4 d5 d6 d7 d8;subst d1;refine dB ?_;refine bN (by grind) (by omega) (ak ?_);refine ⟨ig,d2,d3,d4,d5,d6,by simp;omega,?_⟩;rw[abs,d8];by_cases z:j=0
   .subst z;by_cases A:i=0
    .subst A;rfl
    .rw[show nxS i 0=((i:Int)-1,6) by unfold nxS;simp[A],show nxS i (0+1)=((i:Int),1) by unfold nxS;simp];unfold Yx
     grind
   .rw[show nxS i j=((i:Int),(j:Int)) by unfold nxS;simp[z],show nxS i (j+1)=((i:Int),(j:Int)+1) by unfold nxS;simp];unfold Yx
    grind
  .rintro⟨b,v1,v2,v3,v4,v5,v6⟩ ⟨d1,d2,d3,d4,d5,d6,d7,d8⟩;subst d1 d2 d3 d4 d5 d6;refine dw (ak ?_);refine ⟨ig,e2,e3,e4,e5,L,by omega,?_⟩;rw[d8];unfold nxS;simp
 .rintro⟨a,w1,w2,w3,w4,w5,w6⟩ ⟨e1,e2,e3,e4,e5,L,e7,D⟩;dsimp only at e1 e2 e3 e4 e5 L e7 D;subst e2 e3 e4 e5 L;refine bQ (λg=>(by grind)) λ_=>ak ?_
  refine ⟨rfl,rfl,rfl,rfl,rfl,by dsimp only;omega,rfl,rfl,rfl,rfl,⟨4,by decide,by decide,rfl⟩,by dsimp only;omega,?_⟩;show Py 4 w6≠U;rw[D];simp
variable {j:Nat}
def SZ.mono {s:SN} (h:SZ i s) (hnm:i<=j) (hm:j<=100000):SZ j s:=
 ⟨⟨⟨hm,h.nb.sb.lk,λl z=>c9 (h.nb.sb.rd l z) hnm,h.nb.sb.dn,h.nb.sb.th⟩,h.nb.c,h.nb.f,h.nb.k⟩,h.c,h.f,h.k⟩
def ab6 (w:WT) (z:W0 w):Ok (oG w) λs=>SZ 0 s:=by
 refine (ab7 w z.vl).mono λs A=>⟨A.1,?_,?_,?_⟩
 .rw[A.2.1,z.c]
 .rw[A.2.2.1,z.f]
 .rw[A.2.2.2,z.t]
structure WB (w:WT):Prop where
 c:l! w.1<=12
 l:l! w.2.1<=4
 d:l! w.2.2.1<=2
 f:l! w.2.2.2.1<=2
 t:l! w.2.2.2.2.1<=4
 s:l! w.2.2.2.2.2<=60
def VL.wb {w:WT} (h:VL w):WB w:=⟨h.c,h.l,h.d,h.f,h.t,h.s⟩
structure TR (y:WT×List ET):Prop where
 wb:WB y.1
 vl:VL y.1
 ev:∀e∈y.2,PH y.1 e
 len:l! y.2<=400
 ls:∀e∈y.2,EvS e
 wx:WX y.1
 ac:∃sy ce fu,Acw y.1 y.2 sy ce fu
def Mk (L:η) (n:Int) (hl:l! L<=9223372036854775807) (hb:∀x∈L,0<=x/\x<=255):Ok (rR (L,n)) TR:=by
 unfold rR bf bw bH eD dQ bU kY jQ bR kK aZ c7 aH cV;refine aX (λx=>l! x<=600/\∀z∈x,0<=z/\z<=255) ?_ ?_
 .refine bQ (λg=>?_) λg=>?_
  .dsimp only[ay]at g;refine cR (a? (a? (ak ⟨by dsimp only;rw[cg];simp;omega,λz hz=>hb z (ip hz)⟩)))
  .dsimp only[ay]at g;exact ak ⟨by dsimp only;omega,hb⟩
 rintro L' ⟨hL,hB⟩;refine aA Yd λw A=>?_
 have hvl:=A.vl;refine aA (ab6 w A) λs hs=>?_
 refine aA (gP 3 (L',0) ⟨by dsimp only;omega,hB,by dsimp only;omega,by dsimp only;omega⟩) λy hy=>?_
 let⟨y1,yt⟩:=y;let⟨ty,yy0,yy1,_⟩:=hy;have yy1:=yy1 (by decide);dsimp only at ty yy0 yy1;have ew:bl .i64 (1+y1)=1+y1:=jA;refine rI (λx=>(1+y1+1-x.1).toNat) (λx=>1<=x.1/\x.1<=2+y1/\x.2.1=yt/\x.2.2.1=w/\x.2.2.2.1=s/\((l! x.2.2.2.2:Nat):Int)<=2*x.1/\∀e∈x.2.2.2.2,EvS e) ?_ ⟨by dsimp only;omega,by dsimp only;omega,rfl,rfl,rfl,by simp,λe he=>?_⟩
 .rintro⟨a,t,w',s',es⟩ ⟨e1,e2,e3,e4,e5,e6,e7⟩;dsimp only at e1 e2 e3 e4 e5 e6 e7;subst e3 e4 e5;refine fO (λg=>?_) λg=>?_
  .dsimp only at g;rw[ew]at g;refine a! (ak ?_);dsimp only;rw[jA (n:=a+1) (by omega) (by omega)];refine ⟨⟨by omega,by omega,rfl,rfl,rfl,by simp;omega,λe he=>?_⟩,by omega⟩;rcases bO.1 he with he|he
   .exact e7 e he
   .simp only[aV,b8,fo]at he;rcases he with he|he<;>subst he<;>exact⟨by simp,by simp⟩
  .refine aA (P:=TR) ?_ λr hr=>ak hr
   refine cD (l! es) (λi x=>x.1=(i:Int)/\TP x.2.1/\x.2.2.1=w'/\SZ i x.2.2.2.1/\x.2.2.2.2.1=es/\l! x.2.2.2.2.2<=i/\∀e∈x.2.2.2.2.2,EvS e) ?_ ?_ ⟨rfl,ty.p,rfl,hs,rfl,by simp,λe he=>(by cases he)⟩
   .rintro i ⟨b,t,w',s',es',out⟩ hi ⟨d1,d2,d3,D,d5,d6,d7⟩;dsimp only at d1 d2 d3 D d5 d6 d7;subst d1 d3 d5;refine dB ?_;refine aX (λx=>TP x.1/\x.2.1=w'/\SZ (i+1) x.2.2.1/\x.2.2.2.1=es'/\l! x.2.2.2.2<=i+1/\∀e∈x.2.2.2.2,EvS e) ?_ ?_
    .refine cH (cH (aT ?_));have hz:=e7 _ (bP (T:=.st (.pr (.int .i64) (.pr (.int .i64) (.pr (.int .i64) (.pr (.int .i64) (.pr (.int .i64) (.pr (.sl (.int .i64)) (.sl (.int .i64))))))))) (xs:=es') (j:=(i:Int)) (by omega) (by omega));revert hz;generalize (geti _ _ _)=z;intro hz;refine aA (Jg w' s' D.nb (by rw[A.d];decide) z (.inl (by have:=hz.1;omega)) (.inl (by have:=hz.2;omega))) λv hv=>?_
     refine aP (λh=>?_) λh=>ak ⟨d2,rfl,D.mono (by omega) (by omega),rfl,by dsimp only;omega,d7⟩
     refine a! (ak ⟨d2,rfl,D.step (hv.1 h).2.1 (by omega),rfl,by simp;omega,λe he=>?_⟩)
     grind
    .rintro⟨t,w'',s'',es'',out'⟩ ⟨f1,f2,f3,f4,f5,f6⟩;dsimp only at f1 f2 f3 f4 f5 f6;refine ak ?_;dsimp only;exact⟨ig,f1,f2,f3,f4,f5,f6⟩
   .rintro⟨b,t,w',s',es',out⟩ ⟨d1,d2,d3,D,d5,d6,d7⟩;dsimp only at d1 d2 d3 D d5 d6 d7;subst d1 d3 d5;refine dw ?_;refine aA (P:=TR) ?_ λr hr=>ak hr
    have hmin:KY (j6 n 0) 60<=60:=by
     unfold KY;split
     .omega
     next h=>simp[gC]at h;exact h
    refine aA (anw (by omega) s' D w' A.c A.t (by rw[A.d];decide) _ hmin t d2) λv hv=>?_
    refine bN (by have:=hv.2;dsimp only;omega) (by omega) ?_;have hall:∀e∈out++v.1,EvS e:=λe he=>by grind
    refine aA (amu w' (out++v.1)) λc hc=>?_
    refine cf (λ_=>?_) λh=>?_
    .exact aA Yd λu hu=>ak ⟨hu.vl.wb,hu.vl,λe he=>(by cases he),by simp,λe he=>(by cases he),hu.x,_,_,_,.nil⟩
    .exact ak ⟨(hc h).1.1.wb,(hc h).1.1,(hc h).2.1,by have:=hv.2;simp;omega,hall,A.x,(hc h).2.2⟩
 .rw[aE]at he;subst he;exact⟨by simp,by simp⟩
def anr {rows:Y θ} {e:ET} (L:0<=a) (D:a<l! rows) (h1:∀y∈e.2.2.2.2.2.1,0<=y/\(ry (T:=.bool) rows a).getD y.toNat af=J) (h2:∀y∈e.2.2.2.2.2.2,0<=y/\(ry (T:=.bool) rows a).getD y.toNat af=J) (ld:l! e.2.2.2.2.2.1<=1000000) (lf:l! e.2.2.2.2.2.2<=1000000):eV (((a,aQ (l! (ry (T:=.bool) rows a))),e),rows)=Z (J,rows):=by
 refine cW ?_;unfold eV k_ dJ xm bU kY mK bR bY aZ c7 aH cV;refine gi 2 (by omega) (λi x=>x=(((a,aQ (l! (ry (T:=.bool) rows a))),(i:Int)),rows)) ?_ ?_ rfl
 .rintro i x hi rfl;refine bQ (λ_=>?_) λg=>(by dsimp only at g;omega)
  refine cR (a? (Dl (by dsimp only;omega) (aT ?_)));have hr:∃l:η,geti (.sl aM) [e.2.2.2.2.2.1,e.2.2.2.2.2.2] (i:Int)=l/\(∀y∈l,0<=y/\(ry (T:=.bool) rows a).getD y.toNat af=J)/\l! l<=1000000:=by
   match i,hi with
   |0,_=>exact⟨_,rfl,h1,ld⟩
   |1,_=>exact⟨_,rfl,h2,lf⟩
  let⟨l,er,hA,hl⟩:=hr;dsimp only;rw[er];generalize hR:ry (T:=.bool) rows a=r at*
  refine gi (l! l) (by omega) (λj x=>x=(((a,aQ (l! r)),(j:Int)),rows)) ?_ ?_ rfl
  .rintro j x hj rfl;refine dB ?_;have m:=hA _ (bP (T:=aM) (xs:=l) (j:=(j:Int)) (by omega) (by omega));refine cH (aT (aX (λx=>x=(((a,aQ (l! r)),af),rows)) ?_ ?_))
   .obtain⟨z,hze⟩:∃z:Int,geti aM l (j:Int)=z:=⟨_,rfl⟩
    have m:0<=z/\r.getD z.toNat af=J:=by rw[<- hze];exact m
    dsimp only;rw[hze];have hz:z.toNat<l! r:=by
     rcases cF z.toNat (l! r) with g|g
     .exact g
     .have:=m.2;rw[aw,c_ g]at this;cases this
    have A:(0:Int)<=z:=m.1;have hzi:(z:Int)<(l! r:Int):=by omega
    refine bQ (λg=>cu A (Int.not_le.2 g)) λ_=>fO (λg=>cu hzi (Bs.2 g)) λ_=>aO A hzi (aO L D ?_)
    rw[hR];refine aO A hzi (aT (ak ?_));have:geti (.bool) r z=J:=m.2;dsimp only;rw[this];rfl
   rintro x rfl;refine kB (ak ?_);dsimp only;rw[ig];rfl
  .rintro x rfl;refine dw (ak ?_);dsimp only;rw[ig];rfl
 .rintro x rfl;exact bQ (λg=>(by dsimp only at g;omega)) λ_=>ak rfl
abbrev W8 (n:Nat) (s:Y π):WT:=(C0,KF,PI,Yt,Ah.take n,s)
def WX.w8 {w:WT} (z:WX w):∃n,(n=1\/n=2\/n=3\/n=4)/\w=W8 n w.2.2.2.2.2:=by
 let⟨h1,h2,h3,h4,⟨n,D,A,L⟩,_,_⟩:=z
 grind
abbrev sn8 (w:WT):SN:=(SJ w,ce0 w,fu0 w,aC (l! w.2.2.2.2.1) 0)
def Px (s:Y π):fg (W8 1 s)=Z (sn8 (W8 1 s)):=by kernel_rfl
def st2 (s:Y π):fg (W8 2 s)=Z (sn8 (W8 2 s)):=by kernel_rfl
def st3 (s:Y π):fg (W8 3 s)=Z (sn8 (W8 3 s)):=by kernel_rfl
def st4 (s:Y π):fg (W8 4 s)=Z (sn8 (W8 4 s)):=by kernel_rfl
def aux {w:WT} (z:WX w):fg w=Z (sn8 w):=by
 let⟨n,A,e⟩:=z.w8;rw[e];rcases A with rfl|rfl|rfl|rfl
 .exact Px _
 .exact st2 _
 .exact st3 _
 .exact st4 _
abbrev VN4:Y ζ:=[[120],[121],[118],[113]]
def vc8:iw C0=Z (VN4,J):=by kernel_rfl
def vn1 (s:Y π):eh (W8 1 s,VN4)=Z J:=by kernel_rfl
def vn2 (s:Y π):eh (W8 2 s,VN4)=Z J:=by kernel_rfl
def vn3 (s:Y π):eh (W8 3 s,VN4)=Z J:=by kernel_rfl
def vn4 (s:Y π):eh (W8 4 s,VN4)=Z J:=by kernel_rfl
def vs8 {w:WT} (L:WX w) (hb:VL w):gx w=Z J:=by
 have hv:=L.v;have hs:=L.s;have ht:=hb.t0;refine cW ?_;unfold gx md bf bw cE dQ bU jQ bY aZ c7 aH cV;refine gi (l! w.2.2.2.2.2) (by omega) (λi x=>∃t n:Int,x=((t,n,(i:Int)),w)/\Py (l! w.2.2.2.2.1) (w.2.2.2.2.2.take i)=Z (t,n)/\0<=t/\t<l! w.2.2.2.2.1/\0<=n/\n<=i) ?_ ?_ ⟨0,0,rfl,rfl,by omega,by omega,by omega,by omega⟩
 .rintro i x hi ⟨t,n,rfl,h1,t0,t1,n0,n1⟩;refine dB ?_;refine cH (aT ?_);have D:=abr hv (i+1);have A:Py (l! w.2.2.2.2.1) (w.2.2.2.2.2.take (i+1))=Yx (l! w.2.2.2.2.1) (Z (t,n)) (geti pW w.2.2.2.2.2 (i:Int)):=by rw[Mi hi,h1]
  rw[A]at D;revert D A;generalize geti pW w.2.2.2.2.2 (i:Int)=z;intro D A;obtain⟨(a:Int),(b:Int),(c:Int)⟩:=z;have h5:(a=t/\b=n)\/(t<a/\a<l! w.2.2.2.2.1/\b=0):=by
   simp[Yx]at D
   grind
  refine aX (λx=>x=(af,w,a,b,c)) ?_ ?_
  .refine dw (ak ?_);rw[nH.2 (by grind)]
  rintro x rfl;rcases h5 with ⟨rfl,rfl⟩|⟨q1,q2,rfl⟩
  .refine aX (λx=>x=((a,b),w,a,b,c)) (dw (ak rfl)) ?_;rintro x rfl;refine cf (λg=>(g rfl).elim) λ_=>ak ⟨a,b+1,?_,?_,t0,t1,by omega,by omega⟩
   .rw[jA (n:=b+1) (by omega) (by omega),ig]
   .rw[A];simp[Yx]
  .refine aX (λx=>x=((a,0),w,a,0,c)) (dB (ak rfl)) ?_;rintro x rfl;refine cf (λg=>(g rfl).elim) λ_=>ak ⟨a,1,?_,?_,by omega,q2,by omega,by omega⟩
   .rw[jA (n:=0+1) (by omega) (by omega),ig];rfl
   .rw[A];show (if a=t/\(0:Int)=n then Z (t,n+1) else if t<a/\a<_/\(0:Int)=0 then Z (a,1) else U)=Z (a,1)
    grind
 .rintro x ⟨t,n,rfl,_⟩;exact dw (ak rfl)
def VW8 {w:WT} (z:WX w) (hb:VL w):iy w=Z J:=by
 have hs:=vs8 z hb;have hvn:eh (w,VN4)=Z J:=by
  let⟨n,hn,e⟩:=z.w8;rw[e];rcases hn with rfl|rfl|rfl|rfl
  .exact vn1 _
  .exact vn2 _
  .exact vn3 _
  .exact vn4 _
 have hc:=z.c;have hd:=z.d;have hl:=z.l;let⟨w1,w2,w3,L,D,A⟩:=w;let⟨b1,b2,b3,b4,b0,b5,b6⟩:=hb;subst hc hd hl;refine cW ?_;have f:∀n m:Nat,n<=m->gC (m:Int) (aQ n)=af:=λn m h=>kg.2 (by grind)
 refine aX (λx=>x=(af,C0,KF,PI,L,D,A)) ?_ ?_
 .refine j7 rfl (j7 rfl (j7 rfl (j7 (f _ 2 b4) (ak ?_))))
  grind
 rintro x rfl;refine kB (aX (λx=>x=(af,C0,KF,PI,L,D,A)) ?_ ?_)
 .refine j7 (kg.2 (by grind)) (ak ?_)
  grind
 rintro x rfl;refine kB (bc vc8 (aX (λx=>x=(af,C0,KF,PI,L,D,A)) ?_ ?_))
 .exact kB (bc hvn (ak rfl))
 rintro x rfl;refine kB (gi 1 (by omega) (λi x=>x=((i:Int),C0,KF,PI,L,D,A)) ?_ ?_ rfl)
 .rintro i x hi rfl;have:i=0:=by omega
  subst this;refine qV rfl (bt rfl (aT (bc (x:=J) ?_ (kB (ak rfl)))));rfl
 .rintro x rfl;exact j7 rfl (bc (x:=J) (by rw[hs];rfl) (ak rfl))
abbrev eN (l:Y ET) (i:Nat):ET:=geti iZ l (i:Int)
def uW {l:Y ET} (h:i<l! l):eN l i∈l:=bP (T:=iZ) (by omega) (by omega)
def au3 {e:ET} (h:i<l! k):eN (k++[e]) i=eN k i:=by
 unfold eN;rw[tI,tI,aw,aw,bL h]
def apd (l:Y ET) (e:ET):eN (l++[e]) (l! l)=e:=by
 unfold eN;rw[tI,aw,b_ (bK _),LC];rfl
def Je (w:WT) (l:Y ET):SY×x!:=l.foldl (λs e=>((pV w s.1 e.1 e.2.1 e.2.2.1 e.2.2.2.1).1,ceP s.2.1 e,fuP s.2.2 e)) (SJ w,ce0 w,fu0 w)
def Pb (w:WT) (h:i<l! k):Je w (k.take (i+1))=((pV w (Je w (k.take i)).1 (eN k i).1 (eN k i).2.1 (eN k i).2.2.1 (eN k i).2.2.2.1).1,ceP (Je w (k.take i)).2.1 (eN k i),fuP (Je w (k.take i)).2.2 (eN k i)):=by
 rw[pl (T:=iZ) h];unfold Je;rw[dT];rfl
def Acw.all {w:WT} {z:SY} {D:η} (h:Acw w k z D A):Je w k=(z,D,A)/\∀i,i<l! k->SCx w (k.take i) (Je w (k.take i)).1 (Je w (k.take i)).2.1 (Je w (k.take i)).2.2 (eN k i):=by
 induction h with
 |nil=>exact⟨rfl,λi hi=>cu hi (fX _)⟩
 |snoc h hs L=>
  rename_i k z D A e;let⟨h1,h2⟩:=L;refine ⟨by unfold Je at h1 ⊢;rw[dT,h1];rfl,λi hi=>?_⟩;rw[bz,cq]at hi;rcases cF i (l! k) with g|g
  .rw[sU (by omega),au3 g];exact h2 i g
  .have:i=l! k:=by omega
   subst this;rw[sU (bK _),cQ,apd,h1];exact hs
def TR.sc {w:WT} (z:TR (w,k)) (h:i<l! k):SCx w (k.take i) (Je w (k.take i)).1 (Je w (k.take i)).2.1 (Je w (k.take i)).2.2 (eN k i):=by
 let⟨A,L,D,ac⟩:=z.ac;exact ac.all.2 i h
def Q8 (r:η):Prop:=Ly r/\∀z∈r,0<=z/\z<4
def P8 (s:Y k!):Prop:=∀x∈s,Q8 x.2
def P8.get {s:Y k!} (h:P8 s) (o:Int):Q8 (geti eM s o).2:=by
 unfold geti;rw[aw];cases e:s[o.toNat]? with
 |none=>exact⟨trivial,λz A=>by cases A⟩
 |some x=>exact h x (a8 e)
def P8.set {s:Y k!} (h:P8 s) (o a:Int) (r:Q8 A):P8 (ch s o (a,A)):=λx z=>by
 rcases FY z with z|rfl
 .exact h x z
 .exact r
def Fu (p:Int->Bool):∀{l:η},Ly l->Ly (l.filter p)
 |[],_=>trivial
 |x::r,h=>by
  rw[List.filter_cons];split
  .exact⟨λy z=>h.1 y ((List.mem_filter.1 z).1),Fu p h.2⟩
  .exact Fu p h.2
def P8.ite {c:Prop} [Decidable c] {a b:SY×Int} (A:P8 a.1.1) (z:P8 b.1.1):P8 (if c then a else b).1.1:=by by_cases h:c<;>simp[h,A,z]
def P8.ap {w:WT} {s:SY} (h:P8 s.1) (k o v:Int) (L:0<=a) (D:a<4):P8 (pV w s a k o v).1.1:=by
 have ow:∀t b,P8 (VF s.1 t b):=λt b=>h.set t b (h.get t)
 have un:P8 (rdP s.1 o (yJ (geti eM s.1 o).2 [a])):=h.set _ _ ⟨U0 _ _,λz A=>by
  rcases FO.1 A with A|A
  .exact (h.get o).2 z A
  .rw[aE]at A;subst A;exact⟨L,D⟩⟩
 have wt:P8 (rdP s.1 o (wo (geti eM s.1 o).2 a)):=h.set _ _ ⟨Fu _ (h.get o).1,λz A=>(h.get o).2 z (List.mem_filter.1 A).1⟩;exact P8.ite h (P8.ite h (P8.ite (ow _ _) (P8.ite (ow _ _) (P8.ite un (P8.ite wt (P8.ite h (P8.ite h (P8.ite h (P8.ite h (P8.ite (ow _ _) (P8.ite (ow _ _) (P8.ite (P8.ite h h) (P8.ite h (P8.ite h (P8.ite h h)))))))))))))))
def ES (w:WT) (l:Y ET):SN:=l.foldl (nxP w) (sn8 w)
def Q_ (w:WT) (h:i<l! k):ES w (k.take (i+1))=nxP w (ES w (k.take i)) (eN k i):=by
 rw[pl (T:=iZ) h];unfold ES;rw[dT];rfl
structure K8 (w:WT) (l:List ET) (i:Nat) (s:SN):Prop where
 a:(s.1,s.2.1,s.2.2.1)=Je w (l.take i)
 r:P8 s.1.1
 c:l! s.2.1=l! w.1
 f:l! s.2.2.1=l! w.2.2.2.1
 k:l! s.2.2.2=l! w.2.2.2.2.1
 n:CN (l.take i) s.2.2.2
def abo {w:WT} (A:TR (w,k)):∀i:Nat,i<=l! k->K8 w k i (ES w (k.take i))
 |0,_=>⟨rfl,λx L=>by rw[Ao L];exact⟨trivial,λz D=>by cases D⟩,by simp[ES,ce0],by simp[ES,fu0],by simp[ES],λt t0 t1=>by
   have:(aC (l! w.2.2.2.2.1) (0:Int)).getD t.toNat 0=0:=by grind
   exact this⟩
 |i+1,h=>by
  let⟨a,r,c,f,l,n⟩:=abo A i (by omega);have sc:=A.sc (i:=i) (by omega);have hl:=A.len;have ht:=A.wb.t;dsimp only at hl ht;have en:=sc.en;have e1:=en.t1;have htk:=yF i k;rw[Q_ w (by omega)];refine ⟨?_,r.ap _ _ _ en.t0 (by omega),?_,?_,?_,?_⟩
  .rw[Pb w (by omega),<-a];rfl
  .unfold nxP ceP;split
   .rw[bT];exact c
   .exact c
  .unfold nxP fuP;split
   .rw[bT];exact f
   .exact f
  .unfold nxP;rw[bT];exact l
  .have:=n.next (eN k i) en.t0 (by omega) (by omega);rw[pl (T:=iZ) (show i<l! k by omega)];exact this
def atg {w:WT} (z:TR (w,k)) (hi:i<l! k):mi (w,ES w (k.take i),eN k i)=Z (ES w (k.take (i+1)),J):=by
 let⟨a,r,c,f,l,n⟩:=abo z i (by omega);have sc:=z.sc hi;have D:=z.wx;have ht:=z.wb.t;have hls:=z.ls _ (uW hi);dsimp only at D ht hls;rw[Q_ w hi];rw[<- a]at sc;generalize ES w (k.take i)=s at*
 generalize eN k i=e at*
 have en:=sc.en;have e1:=en.t1;have l3:l! w.2.1=3:=by rw[D.l];rfl
 have nc:=n e.1 en.t0 (by omega);have b1:=z.wb.c;have b4:=z.wb.f;have b3:=z.wb.d;dsimp only at b1 b4 b3;have q1:=en.e1;have q2:=en.e2;have q3:=en.e3;dsimp only at q1 q2 q3;refine ayp (n:=4) w s e ⟨⟨by omega,by omega,λx hx=>?_,by omega,by omega⟩,by omega,by omega,by omega⟩ (by omega) (by omega) ⟨c,f,l⟩ en ⟨sc.rd,sc.s1,sc.s2,sc.de,sc.fr,by rw[nc];exact sc.nd,by rw[nc];exact sc.nf,sc.va⟩ hls.1 hls.2 (λh=>?_) (by omega) r (by omega)
 .have:=L4 x.2 0 4 (r x hx).1 (r x hx).2;omega
 .have L:=en.nm.lk (by omega);have A:=en.nm.rw (by omega);generalize e.2.2.1=o at L A;rw[D.l]at L A;have:o=0\/o=1\/o=2:=by have:KF.length=3:=rfl;omega
  rcases this with rfl|rfl|rfl
  .cases A
  .cases A
  .rfl
abbrev fN (l:Y ET) (i:Nat) (t:Int):θ:=fl (l.take i) t
def au0 (h:i<l! k) (e:(eN k i).1=a):fN k (i+1) a=fN k i a++[rdE (eN k i)]:=by
 unfold fN;rw[pl (T:=iZ) h,wO,CF e]
def akr (h:i<l! k) (e:¬(eN k i).1=a):fN k (i+1) a=fN k i a:=by
 unfold fN;rw[pl (T:=iZ) h,wO,zK e,jU]
def au1 (l:Y ET) (i:Nat) (t:Int):l! (fN l i t)<=l! l:=c9 (WD _ _) (List.length_take_le' ..)
structure RwB (w:WT) (l:List ET) (i:Nat) (lens:η) (rows:List θ):Prop where
 ll:l! lens=l! w.2.2.2.2.1
 lr:l! rows=l! w.2.2.2.2.1
 r:∀u:Nat,u<l! w.2.2.2.2.1->rows.getD u []=fN l i (u:Int)
 n:∀u:Nat,u<l! w.2.2.2.2.1->lens.getD u 0=aQ (l! (fN l i (u:Int)))
def RwB.zero (w:WT) (l:Y ET):RwB w l 0 (aC (l! w.2.2.2.2.1) 0) (aC (l! w.2.2.2.2.1) []):=by
 refine ⟨cU ..,cU ..,λu z=>?_,λu z=>?_⟩
 .rw[aw,dl,aD z];rfl
 .rw[aw,dl,aD z];rfl
variable {b:Bool}
def RwB.next {w:WT} (hi:i<l! k) {rows:Y θ} (h:RwB w k i A rows) (D:0<=a) (t1:a<l! w.2.2.2.2.1) (et:(eN k i).1=a) (L:rdE (eN k i)=b):RwB w k (i+1) (sI A (aN a) (aQ (aj (ry (T:=.bool) rows a++[b])))) (vY (T:=.bool) (vY (T:=.bool) rows a []) a (ry (T:=.bool) rows a++[b])):=by
 let⟨h1,h2,lens,h4⟩:=h;have er:ry (T:=.bool) rows a=fN k i a:=by
  have:=lens a.toNat (by omega);rw[yH D]at this;exact this
 have own:=au0 hi et;rw[L,<-er]at own;refine ⟨by rw[dv,h1],by unfold vY;rw[dv,dv,h2],λu z=>?_,λu z=>?_⟩
 .unfold vY;rw[aw,ep];by_cases e:a.toNat=u
  .rw[aD e,dv,aD (by omega)];have e':(u:Int)=a:=by omega
   rw[e',own];rfl
  .rw[av e,ep,av e,<-aw,lens u z,akr hi (by omega)]
 .rw[aw,ep];by_cases e:a.toNat=u
  .rw[aD e,aD (by omega)];have e':(u:Int)=a:=by omega
   rw[e',own];rfl
  .rw[av e,<-aw,h4 u z,akr hi (by omega)]
def amv {w:WT} (z:TR (w,k)):gA (w,k)=Z (0,0):=by
 have hl:l! k<=400:=z.len;have hT:l! w.2.2.2.2.1<=4:=z.wb.t;refine cW ?_;unfold gA oa bf bw bH cE eD hY ck bn bU mK bR bY aZ c7 aH cV;refine j7 (kg.2 (by dsimp only[ay];omega)) (bc (VW8 z.wx z.vl) (kB (bc (aux z.wx) ?_)));refine cR (cR (dm (by dsimp only[ay];omega) (a? (bN (by simp only[ay,bh];omega) (by omega) ?_))));refine gi (l! k) (by omega) (λi x=>∃lens rows,x=((i:Int),(w,k),ES w (k.take i),lens,rows)/\RwB w k i lens rows) ?_ ?_ ⟨_,_,by simp only[ay,bh];rfl,RwB.zero w k⟩
 .rintro i x hi ⟨lens,rows,rfl,A⟩;have sc:=z.sc hi;have e1:=sc.en.t1;have e0:=sc.en.t0;have st:=atg z hi;have hls:=z.ls _ (uW hi);have fa:=au1 k i (eN k i).1;have et:(eN k i).1=(((eN k i).1.toNat:Nat):Int):=by omega
  have D:ry (T:=.bool) rows (eN k i).1=fN k i (eN k i).1:=by
   have:=A.r (eN k i).1.toNat (by omega);rw[<- et]at this;exact this
  have en:aN (sJ lens (eN k i).1)=l! (ry (T:=.bool) rows (eN k i).1):=by
   have:=A.n (eN k i).1.toNat (by omega);rw[<- et,<-D]at this;unfold sJ;rw[this];rfl
  have rd:eV (((((eN k i).1,aQ (l! (ry (T:=.bool) rows (eN k i).1))),eN k i),rows))=Z (J,rows):=by
   refine anr e0 (by rw[A.lr];exact e1) ?_ ?_ hls.1 hls.2
   .rw[D];exact sc.rd1
   .rw[D];exact sc.rd2
  have nx:=λb=>A.next hi e0 e1 rfl (b:=b)
  have l1:=A.ll;have l2:=A.lr;refine dB (cH (aT ?_));have hg:geti iZ k (i:Int)=eN k i:=rfl;dsimp only;rw[hg];rw[<- D]at fa;clear sc hls D et;generalize eN k i=e at*
  refine bc st ?_;refine aX (λx=>x=(af,(w,k),ES w (k.take i),lens,e,ES w (k.take (i+1)),rows)) ?_ ?_
  .refine kB (cH (cH ?_));dsimp only;rw[en];exact bc rd (ak rfl)
  rintro x rfl;refine kB (aX (λx=>∃lens' rows',x=((w,k),ES w (k.take i),lens',ES w (k.take (i+1)),rows')/\RwB w k (i+1) lens' rows') ?_ ?_)
  .refine cH (cH ?_);dsimp only;rw[en];refine aK (λh=>cH (cR (bt (fU _) (bN (by rw[cq];omega) (by omega) (cH (cH (ak ⟨_,_,rfl,nx _ ?_⟩))))))) λh=>cH (cR (bt (fU _) (bN (by rw[cq];omega) (by omega) (cH (cH (ak ⟨_,_,rfl,nx _ ?_⟩))))))
   .unfold rdE;rw[aS h];rfl
   .unfold rdE;rw[cK h];rfl
  rintro x ⟨lens',rows',rfl,L⟩;refine ak ⟨lens',rows',?_,L⟩;dsimp only;rw[ig]
 .rintro x ⟨lens,rows,rfl,_⟩;exact dw (ak rfl)
abbrev l_:Ty:=(.pr aM (.pr aM (.pr aM (.pr aM .bool))))
abbrev Bm:=((Int×Int×Int×Int×Bool)×(Y (Int×Bool))×Y (Int×Bool))
abbrev B9:=(Y e!)
abbrev b!:=(fe×Y ic)×(Y η)×vq×(η)×(η)×(η)×(η)×(η)×(η)×B9×(η)×(Y Bm)×(Y η)×Y η
abbrev Ye2:=b!
abbrev d!:=(fe×Y ic)×(Y η)×vq×(η)×(η)×(η)×(η)×(η)×(η)×B9×(η)×(Y Bm)×(Y η)×(Y η)×(η)×Bool
abbrev Ye3:=d!
abbrev c?:=(fe×Y ic)×(Y η)×vq×(η)×(η)×(η)×(η)×(η)×(η)×B9×(η)×(Y Bm)×(Y η)×(Y η)×ic×η
abbrev Ye4:=c?
abbrev Ye5:=(Int×c!)
abbrev Ye6:=((fe×Y ic)×(η)×(η)×(η)×(η)×(η)×(η)×B9×(Y η)×vq×(η)×(Y Bm)×(Y η)×Y η)
abbrev Y?:=Int×c?
abbrev Ye7:=Y?
def AG (x:o!):M η:=
 (jn (kY 0 x.2 (aH (gC x.2 4)) (aH af)) λD=>(jn (aI D (aH (j6 (aZ x.1) (cV x.2))) (aH (aZ x.1))) λz=>(bR (dg 0 z&&dg z z&&be (aN z) 8) (jn (jn (aI D (kK aM (Ul (aC (aN z) (0:Int)) x.1) x.2 λz5=>(aH ((gC z5 9223372036854775807),(Ul (aC (aN z) (0:Int)) x.1)))) (aH (af,(Ul (aC (aN z) (0:Int)) x.1)))) λA=>(aI A.1 (kK aM A.2 x.2 λL=>(ck (dO x.2 (aj A.2)) (aH (ch A.2 x.2 (cV L))))) (aH A.2))) λx3=>(Z x3)))))
def AS (it:Bq) (x:Int):M η:=
 (bR (dg 0 x&&dg x x&&be (aN x) 8) (it k! _ (λz=>(bU z.1 (aQ (aj (aC (aN x) (0:Int)))) (ck (dO z.1 (aj z.2)) (c7 ((cV z.1),(ch z.2 z.1 (-1))))) (aH z.2))) (0,(aC (aN x) (0:Int)))))
def E4 (x:Int):M η:=AS @iter x
def lO (x:Int):M η:=AS @f_ x
def mV (x:c!):M (Bool):=
 (jn (bn x.2.1 3 (aH J) (aH (decide ((x.2.1:Int)=4)))) λz=>(Z z))
def ml (x:fe×c!):M (Int):=
 (jn (bn x.a 6 (aH ((decide ((x.a:Int)=6)),x)) (bn x.a 8 (aH ((decide ((x.a:Int)=8)),x)) (aH ((decide ((x.a:Int)=10)),x)))) λz=>(aI z.1 (Z z.c) (bn x.a 17 (bY itK z.2.1.a z.c λA=>(Z A.2)) (bn x.a 12 (Z (aZ z.2.1.2.1)) (Z (-1))))))
def mj (x:fe×c!):M (Int):=
 (jn (bn x.a 7 (aH ((decide ((x.a:Int)=7)),x)) (bn x.a 9 (aH ((decide ((x.a:Int)=9)),x)) (aH ((decide ((x.a:Int)=11)),x)))) λz=>(aI z.1 (Z z.c) (bn x.a 16 (bY itK z.2.1.a z.c λA=>(Z A.2)) (bn x.a 13 (Z (aZ z.2.1.2.1)) (Z (-1))))))
def jF (x:ic×b!):M (η×b!):=
 (kK aM x.c x.1.1 λA=>(jn (α:=(fe×Y ic)×(Y η)×vq×(η)×(η)×(η)×(η)×(η)×(η)×B9×(η)×(Y Bm)×(Y η)×(Y η)×η) (bn x.1.2.1 1 (kK aM x.d x.1.1 λz3=>(bR (be (aj ([A])+aj ([z3])) 8) (aH (x.2.1,x.a,x.b,x.c,x.d,x.f,x.i,x.j,x.m,x.k,x.o,x.l,x.q,x.t,(([A])++([z3])))))) (bn x.1.2.1 21 (kK aM x.c x.1.a λL=>(bR (be (aj ([A])+aj ([L])) 8) (aH (x.2.1,x.a,x.b,x.c,x.d,x.f,x.i,x.j,x.m,x.k,x.o,x.l,x.q,x.t,(([A])++([L])))))) (bn x.1.2.1 23 (ck (dO x.1.a (aj x.m)) (mK x.1.a x.t (bR (ax (aN (sJ x.m x.1.a)) (aj (ry (T:=aM) x.t x.1.a))) (bR (be (aj ([A])+aj (ry (T:=aM) x.t x.1.a)) 8) (aH (x.2.1,x.a,x.b,x.c,x.d,x.f,x.i,x.j,x.m,x.k,x.o,x.l,x.q,x.t,(([A])++(ry (T:=aM) x.t x.1.a)))))))) (bn x.1.2.1 3 (bY lZ x.2.1.1.1 x.1.a λz5=>(aI z5.2.2.2.1 (ck (dO x.1.a (aj x.j)) (mK x.1.a x.q (bR (ax (aN (sJ x.j x.1.a)) (aj (ry (T:=aM) x.q x.1.a))) (bR (be (aj ([A])+aj (ry (T:=aM) x.q x.1.a)) 8) (aH (x.2.1,x.a,x.b,x.c,x.d,x.f,x.i,x.j,x.m,x.k,x.o,x.l,x.q,x.t,(([A])++(ry (T:=aM) x.q x.1.a)))))))) (aH (x.2.1,x.a,x.b,x.c,x.d,x.f,x.i,x.j,x.m,x.k,x.o,x.l,x.q,x.t,[A])))) (bn x.1.2.1 17 (kK aM x.f x.1.1 λD=>(bR (be (aj ([A])+aj ([D])) 8) (aH (x.2.1,x.a,x.b,x.c,x.d,x.f,x.i,x.j,x.m,x.k,x.o,x.l,x.q,x.t,(([A])++([D])))))) (aH (x.2.1,x.a,x.b,x.c,x.d,x.f,x.i,x.j,x.m,x.k,x.o,x.l,x.q,x.t,[A]))))))) λz=>(Z (z.t,z.1,z.2.1,z.a,z.b,z.c,z.d,z.f,z.i,z.j,z.m,z.k,z.o,z.l,z.q))))
def j9 (x:Ye5×Y Bm):M (Y Bm):=
 (bn x.1.a 4 (ck (dO x.1.1 (aj x.2)) (Z (qX (S:=l_) x.2 x.1.1 (v7 (S:=l_) 1 (dZ l_ x.2 x.1.1) (uP (K:=aM) (V:=.bool) x.1.b J (sO (S:=l_) 1 (dZ l_ x.2 x.1.1))))))) (ck (dO x.1.1 (aj x.2)) (Z (qX (S:=l_) x.2 x.1.1 (v7 (S:=l_) 0 (dZ l_ x.2 x.1.1) (uP (K:=aM) (V:=.bool) x.1.b J (sO (S:=l_) 0 (dZ l_ x.2 x.1.1))))))))
abbrev v?:=(fe×Y ic)×(Y η)×vq×(η)×(η)×(η)×(η)×(η)×(η)×B9×(η)×(Y Bm)×(Y η)×(Y η)×c!
abbrev N?:=Ye5×b!
def m8 (it:Bq) (x:N?):M Ye2:=
 (ck (dO x.1.2.1 (aj x.c)) (jn (α:=b!) (bn x.1.a 20 (ck (dO x.1.b (aj x.d)) (aH (x.2.1,x.a,x.b,(ch x.c x.1.2.1 x.1.1),(ch x.d x.1.b x.1.1),x.n))) (bn x.1.a 22 (ck (dO x.1.b (aj x.m)) (mK x.1.b x.t (bR (ax (aN (sJ x.m x.1.b)) (aj (ry (T:=aM) x.t x.1.b))&&be ((aN (sJ x.m x.1.b))+aj ([x.1.1]:η)) 8) (ck (dO x.1.b (aj x.m)) (aH (x.2.1,x.a,x.b,(ch x.c x.1.2.1 x.1.1),x.d,x.f,x.i,x.j,(sI x.m (aN x.1.b) (aQ (aj ((ry (T:=aM) x.t x.1.b)++([x.1.1]))))),x.k,x.o,x.l,x.q,(vY (T:=aM) (vY (T:=aM) x.t x.1.b []) x.1.b ((ry (T:=aM) x.t x.1.b)++([x.1.1]))))))))) (bn x.1.a 4 (ck (dO x.1.b (aj x.j)) (mK x.1.b x.q (bR (ax (aN (sJ x.j x.1.b)) (aj (ry (T:=aM) x.q x.1.b))&&be ((aN (sJ x.j x.1.b))+aj ([x.1.1]:η)) 8) (ck (dO x.1.b (aj x.j)) (aH (x.2.1,x.a,x.b,(ch x.c x.1.2.1 x.1.1),x.d,x.f,x.i,(sI x.j (aN x.1.b) (aQ (aj ((ry (T:=aM) x.q x.1.b)++([x.1.1]))))),x.m,x.k,x.o,x.l,(vY (T:=aM) (vY (T:=aM) x.q x.1.b []) x.1.b ((ry (T:=aM) x.q x.1.b)++([x.1.1]))),x.t)))))) (bn x.1.a 16 (ck (dO x.1.2.1 (aj x.i)) (aH (x.2.1,x.a,x.b,(ch x.c x.1.2.1 x.1.1),x.d,x.f,(ch x.i x.1.2.1 x.1.b),x.r))) (bn x.1.a 18 (kY 0 x.1.c (ck (dO x.1.c (aj x.f)) (ck (dO x.1.c (aj x.i)) (aH (x.2.1,x.a,x.b,(ch x.c x.1.2.1 x.1.1),x.d,(ch x.f x.1.c x.1.1),(ch x.i x.1.c (-1)),x.r)))) (aH (x.2.1,x.a,x.b,(ch x.c x.1.2.1 x.1.1),x.h))) (bn x.1.a 19 (it (Int×v?) _ (λz=>(bU z.1 (aZ x.i) (jn (α:=v?) (kK aM z.i z.1 λA=>(bn A z.D (ck (dO z.1 (aj z.f)) (ck (dO z.1 (aj z.i)) (aH (z.2.1,z.a,z.b,z.c,z.d,(ch z.f z.1 x.1.1),(ch z.i z.1 (-1)),z.r)))) (aH z.2))) λD=>(c7 ((cV z.1),D))) (aH (b7 (z.2.1,z.a,z.b,z.c,z.d,z.f,z.i,z.j,z.m,z.k,z.o,z.l,z.q,z.s))))) (0,x.2.1,x.a,x.b,(ch x.c x.1.2.1 x.1.1),x.d,x.f,x.i,x.j,x.m,x.k,x.o,x.l,x.q,x.t,x.1.2)) (aH (x.2.1,x.a,x.b,(ch x.c x.1.2.1 x.1.1),x.h)))))))) λL=>(Z L)))
def qI (x:N?):M Ye2:=m8 @iter x
def gV (x:N?):M Ye2:=m8 @f_ x
def iO (x:N?):M ((fe×Y ic)×(Y η)×vq×(η)×(η)×(η)×(η)×(η)×(η)×B9×(Y η)×(Y η)×(η)×Y Bm):=
 (aB (mj (x.2.1.1,x.1.2)) λz=>(aI (sL (x.1.2.1,z) x.k) (mK (eH (x.1.2.1,z) x.k) x.l (bR (be (aj x.o+1) 8) (aB (ml (x.2.1.1,x.1.2)) λD=>(kY 0 D (Z (x.2.1,x.a,x.b,x.c,x.d,x.f,x.i,x.j,x.m,(yV (x.1.2.1,D) (aQ (aj (qX (S:=l_) x.l (eH (x.1.2.1,z) x.k) ((((dZ l_ x.l (eH (x.1.2.1,z) x.k)).1).1,(((dZ l_ x.l (eH (x.1.2.1,z) x.k)).1).2).1,((((dZ l_ x.l (eH (x.1.2.1,z) x.k)).1).2).2).1,x.1.1,(((((dZ l_ x.l (eH (x.1.2.1,z) x.k)).1).2).2).2).2),(dZ l_ x.l (eH (x.1.2.1,z) x.k)).2)))) (Mj (aj (qX (S:=l_) x.l (eH (x.1.2.1,z) x.k) ((((dZ l_ x.l (eH (x.1.2.1,z) x.k)).1).1,(((dZ l_ x.l (eH (x.1.2.1,z) x.k)).1).2).1,((((dZ l_ x.l (eH (x.1.2.1,z) x.k)).1).2).2).1,x.1.1,(((((dZ l_ x.l (eH (x.1.2.1,z) x.k)).1).2).2).2).2),(dZ l_ x.l (eH (x.1.2.1,z) x.k)).2))) (DO (x.1.2.1,z) x.k))),x.q,x.t,(gM (shf (aj (qX (S:=l_) x.l (eH (x.1.2.1,z) x.k) ((((dZ l_ x.l (eH (x.1.2.1,z) x.k)).1).1,(((dZ l_ x.l (eH (x.1.2.1,z) x.k)).1).2).1,((((dZ l_ x.l (eH (x.1.2.1,z) x.k)).1).2).2).1,x.1.1,(((((dZ l_ x.l (eH (x.1.2.1,z) x.k)).1).2).2).2).2),(dZ l_ x.l (eH (x.1.2.1,z) x.k)).2)))) (sV x.o [(eH (x.1.2.1,z) x.k)])),(sV (qX (S:=l_) x.l (eH (x.1.2.1,z) x.k) ((((dZ l_ x.l (eH (x.1.2.1,z) x.k)).1).1,(((dZ l_ x.l (eH (x.1.2.1,z) x.k)).1).2).1,((((dZ l_ x.l (eH (x.1.2.1,z) x.k)).1).2).2).1,x.1.1,(((((dZ l_ x.l (eH (x.1.2.1,z) x.k)).1).2).2).2).2),(dZ l_ x.l (eH (x.1.2.1,z) x.k)).2)) [((x.1.2.1,D,x.1.1,(-1),(decide ((x.1.a:Int)=8))),[],[])]))) (Z (x.2.1,x.a,x.b,x.c,x.d,x.f,x.i,x.j,x.m,(DO (x.1.2.1,z) x.k),x.q,x.t,(sV x.o [(eH (x.1.2.1,z) x.k)]),(qX (S:=l_) x.l (eH (x.1.2.1,z) x.k) ((((dZ l_ x.l (eH (x.1.2.1,z) x.k)).1).1,(((dZ l_ x.l (eH (x.1.2.1,z) x.k)).1).2).1,((((dZ l_ x.l (eH (x.1.2.1,z) x.k)).1).2).2).1,x.1.1,(((((dZ l_ x.l (eH (x.1.2.1,z) x.k)).1).2).2).2).2),(dZ l_ x.l (eH (x.1.2.1,z) x.k)).2)))))))) (aB (ml (x.2.1.1,x.1.2)) λA=>(kY 0 A (Z (x.2.1,x.a,x.b,x.c,x.d,x.f,x.i,x.j,x.m,(yV (x.1.2.1,A) (aZ x.l) (Mj (aj x.l) x.k)),x.q,x.t,(gM (shf (aj x.l)) x.o),(sV x.l [((x.1.2.1,A,x.1.1,(-1),(decide ((x.1.a:Int)=8))),[],[])]))) (Z (x.2.1,x.a,x.b,x.c,x.d,x.f,x.i,x.j,x.m,x.k,x.q,x.t,x.o,x.l))))))
def kc (x:Y?):M Ye4:=
 (jn (ck (dO x.1 (aj x.l)) (aI (rh (K:=aM) (V:=.bool) x.u.a (sO (S:=l_) 1 (dZ l_ x.l x.1)) af) (aH ((x.1,J),x.2)) (bn x.u.2.1 4 (ck (dO x.1 (aj x.l)) (aH ((x.1,(rh (K:=aM) (V:=.bool) x.u.a (sO (S:=l_) 0 (dZ l_ x.l x.1)) af)),x.2))) (aH ((x.1,af),x.2))))) λz=>(aI z.1.2 (mK z.1.1 z.l (lt ((((((dZ l_ z.l z.1.1).1).2).2).2).1) λD=>(kK (.sl aM) z.a D λA=>(aB (jJ (z.E,A)) λL=>(Z (z.2.1,z.a,z.b,z.c,z.d,z.f,z.i,z.j,z.m,z.k,z.o,z.l,z.q,z.s,z.u,L)))))) (Z z.2)))
def j_ (x:Int×d!):M Ye3:=
 (jn (mK x.1 x.l (lt (((((dZ l_ x.l x.1).1).2).2).1) λz2=>(kK eU x.b z2 λz3=>(aB (gI (x.u,z3)) λy4=>(aI y4 (mK x.1 x.l (lt ((((((dZ l_ x.l x.1).1).2).2).2).1) λz5=>(kK eU x.b z5 λz6=>(aB (gI (x.u,z6)) λy7=>(aH ((x.1,(!y7)),x.2)))))) (aH ((x.1,af),x.2))))))) λz=>(aI z.1.2 (mK z.1.1 z.l (lt ((((((dZ l_ z.l z.1.1).1).2).2).2).1) λL=>(kK (.sl aM) z.a L λD=>(aB (jJ (z.u,D)) λA=>(Z (z.2.1,z.a,z.b,z.c,z.d,z.f,z.i,z.j,z.m,z.k,z.o,z.l,z.q,z.s,A,J)))))) (Z z.2)))
def sg (it:Bq) (x:Y?):M Ye4:=
 (it (ν×c?) _ (λz=>(bU z.1.2 (aZ x.o) (jn (ck (dO z.1.2 (aj z.o)) (jn (mK (sJ z.o z.1.2) z.l (lt ((((dZ l_ z.l (sJ z.o z.1.2)).1).2).1) λz4=>(mK z.1.1 z.l (lt ((((dZ l_ z.l z.1.1).1).2).1) λz5=>(bn z4 z5 (mK (sJ z.o z.1.2) z.l (lt (((dZ l_ z.l (sJ z.o z.1.2)).1).1) λz6=>(mK z.1.1 z.l (lt (((dZ l_ z.l z.1.1).1).1) λz7=>(jQ z6 z7 (mK (sJ z.o z.1.2) z.l (lt ((((((dZ l_ z.l (sJ z.o z.1.2)).1).2).2).2).2) λz8=>(aI z8 (mK z.1.1 z.l (lt ((((((dZ l_ z.l z.1.1).1).2).2).2).2) λz9=>(aI (!z9) (mK (sJ z.o z.1.2) z.l (lt ((((((dZ l_ z.l (sJ z.o z.1.2)).1).2).2).2).1) λz10=>(mK z.1.1 z.l (lt (((((dZ l_ z.l z.1.1).1).2).2).1) λz11=>(aH ((z.1.1,(sJ z.o z.1.2),(gC z10 z11)),z.2)))))) (aH ((z.1.1,(sJ z.o z.1.2),af),z.2))))) (mK (sJ z.o z.1.2) z.l (lt ((((((dZ l_ z.l (sJ z.o z.1.2)).1).2).2).2).1) λz12=>(mK z.1.1 z.l (lt (((((dZ l_ z.l z.1.1).1).2).2).1) λL=>(aH ((z.1.1,(sJ z.o z.1.2),(gC z12 L)),z.2))))))))) (aH ((z.1.1,(sJ z.o z.1.2),af),z.2))))))) (aH ((z.1.1,(sJ z.o z.1.2),af),z.2))))))) λD=>(aI D.1.2.2 (aB (kc (D.1.2.1,D.2)) λA=>(bR (ax (aj D.o) (aj A.k)&&(ax (aj D.m) (aj A.j)&&(ax (aj D.j) (aj A.i)&&(ax (aj D.i) (aj A.f)&&(ax (aj D.f) (aj A.d)&&(ax (aj D.d) (aj A.c)&&(ax (aj D.c) (aj A.b)&&(ax (aj D.b) (aj A.a)&&(ax (aj D.a) (aj A.2.1)&&J))))))))) (aH (D.1.1,A)))) (aH (D.1.1,D.2))))) λx2=>(c7 ((x2.1,(cV z.1.2)),x2.2))) (aH z.2))) ((x.1,0),x.2))
def v9 (x:Y?):M Ye4:=sg @iter x
def kM (x:Y?):M Ye4:=sg @f_ x
def sd (it:Bq) (x:Int×d!):M Ye3:=
 (it (ν×d!) _ (λz=>(bU z.1.2 (aZ x.o) (jn (ck (dO z.1.2 (aj z.o)) (jn (mK (sJ z.o z.1.2) z.l (lt ((((dZ l_ z.l (sJ z.o z.1.2)).1).2).1) λz4=>(mK z.1.1 z.l (lt ((((dZ l_ z.l z.1.1).1).2).1) λz5=>(bn z4 z5 (mK (sJ z.o z.1.2) z.l (lt (((dZ l_ z.l (sJ z.o z.1.2)).1).1) λz6=>(mK z.1.1 z.l (lt (((dZ l_ z.l z.1.1).1).1) λz7=>(jQ z6 z7 (mK (sJ z.o z.1.2) z.l (lt ((((((dZ l_ z.l (sJ z.o z.1.2)).1).2).2).2).2) λz8=>(aI z8 (mK z.1.1 z.l (lt ((((((dZ l_ z.l z.1.1).1).2).2).2).2) λz9=>(aI (!z9) (mK (sJ z.o z.1.2) z.l (lt ((((((dZ l_ z.l (sJ z.o z.1.2)).1).2).2).2).1) λz10=>(mK z.1.1 z.l (lt (((((dZ l_ z.l z.1.1).1).2).2).1) λz11=>(aH ((z.1.1,(sJ z.o z.1.2),(gC z10 z11)),z.2)))))) (aH ((z.1.1,(sJ z.o z.1.2),af),z.2))))) (mK (sJ z.o z.1.2) z.l (lt ((((((dZ l_ z.l (sJ z.o z.1.2)).1).2).2).2).1) λz12=>(mK z.1.1 z.l (lt (((((dZ l_ z.l z.1.1).1).2).2).1) λL=>(aH ((z.1.1,(sJ z.o z.1.2),(gC z12 L)),z.2))))))))) (aH ((z.1.1,(sJ z.o z.1.2),af),z.2))))))) (aH ((z.1.1,(sJ z.o z.1.2),af),z.2))))))) λD=>(aI D.1.2.2 (aB (j_ (D.1.2.1,D.2)) λA=>(bR (ax (aj D.o) (aj A.k)&&(ax (aj D.m) (aj A.j)&&(ax (aj D.j) (aj A.i)&&(ax (aj D.i) (aj A.f)&&(ax (aj D.f) (aj A.d)&&(ax (aj D.d) (aj A.c)&&(ax (aj D.c) (aj A.b)&&(ax (aj D.b) (aj A.a)&&(ax (aj D.a) (aj A.2.1)&&J))))))))) (aH (D.1.1,A)))) (aH (D.1.1,D.2))))) λx2=>(c7 ((x2.1,(cV z.1.2)),x2.2))) (aH z.2))) ((x.1,0),x.2))
def v8 (x:Int×d!):M Ye3:=sd @iter x
def kL (x:Int×d!):M Ye3:=sd @f_ x
def oc (it:Bq) (x:N?):M Ye6:=
 (bR (dg 0 (aZ x.2.1.1.c)&&dg (aZ x.2.1.1.c) (aZ x.2.1.1.c)&&be (aN (aZ x.2.1.1.c)) 8) (aB (jF (x.1.2,x.2)) λy1=>(bR (ax (aj x.o) (aj y1.o)&&(ax (aj x.m) (aj y1.m)&&(ax (aj x.j) (aj y1.j)&&(ax (aj x.i) (aj y1.i)&&(ax (aj x.f) (aj y1.f)&&(ax (aj x.d) (aj y1.d)&&(ax (aj x.c) (aj y1.c)&&(ax (aj x.b) (aj y1.b)&&(ax (aj x.a) (aj y1.a)&&J))))))))) (it Ye7 _ (λx2=>(bU x2.1 (aZ y1.1) (jn (bY aM y1.1 x2.1 λz4=>(kY 0 z4 (kK (.sl aM) x2.a z4 λz5=>(aB (jJ (x2.E,z5)) λy6=>(aH (x2.2.1,x2.a,x2.b,x2.c,x2.d,x2.f,x2.i,x2.j,x2.m,x2.k,x2.o,x2.l,x2.q,x2.s,x2.u,y6)))) (aH x2.2))) λx3=>(c7 ((cV x2.1),x3))) (aB (jn (α:=c?) (aB (mV x2.u) λy8=>(aI y8 (it Ye7 _ (λx9=>(bU x9.1 (bl .i64 ((aZ x2.2.1.1.2.1)+1)) (jn (aI (sL (x9.u.1,x9.1) x9.k) (aB (kM ((eH (x9.u.1,x9.1) x9.k),x9.2)) λy11=>(bR (ax (aj x9.o) (aj y11.k)&&(ax (aj x9.m) (aj y11.j)&&(ax (aj x9.j) (aj y11.i)&&(ax (aj x9.i) (aj y11.f)&&(ax (aj x9.f) (aj y11.d)&&(ax (aj x9.d) (aj y11.c)&&(ax (aj x9.c) (aj y11.b)&&(ax (aj x9.b) (aj y11.a)&&(ax (aj x9.a) (aj y11.2.1)&&J))))))))) (aB (j9 (((eH (x9.u.1,x9.1) x9.k),y11.s),y11.o)) λy12=>(aH (y11.1,y11.2.1,y11.a,y11.b,y11.c,y11.d,y11.f,y11.i,y11.j,y11.m,y11.k,y12,y11.z))))) (aH x9.2)) λx10=>(c7 ((cV x9.1),x10))) (aH (b7 x9.2)))) (0,x2.2)) (aH x2.2))) λx7=>(jn (aB (mj (x7.1.1,x7.s)) λy14=>(aI (sL (x7.s.1,y14) x7.m) (it (Int×(fe×Y ic)×(Y η)×vq×(η)×(η)×(η)×(η)×(η)×(η)×B9×(η)×(Y Bm)×(Y η)×(Y η)×ic×(η)×Bool) _ (λz=>(aI z.F (aB (kL (z.1,z.2.1,z.a,z.b,z.c,z.d,z.f,z.i,z.j,z.m,z.k,z.o,z.l,z.q,z.s,z.C,af)) λL=>(bR (ax (aj z.o) (aj L.k)&&(ax (aj z.m) (aj L.j)&&(ax (aj z.j) (aj L.i)&&(ax (aj z.i) (aj L.f)&&(ax (aj z.f) (aj L.d)&&(ax (aj z.d) (aj L.c)&&(ax (aj z.c) (aj L.b)&&(ax (aj z.b) (aj L.a)&&(ax (aj z.a) (aj L.2.1)&&J))))))))) (c7 (z.1,L.1,L.2.1,L.a,L.b,L.c,L.d,L.f,L.i,L.j,L.m,L.k,L.o,L.l,L.q,z.u,L.t)))) (aH (b7 (z.2.1,z.a,z.b,z.c,z.d,z.f,z.i,z.j,z.m,z.k,z.o,z.l,z.q,z.s,z.u,z.C))))) ((eH (x7.s.1,y14) x7.m),x7.1,x7.2.1,x7.a,x7.b,x7.c,x7.d,x7.f,x7.i,x7.j,x7.m,x7.k,x7.o,x7.l,x7.q,x7.s,x7.H,J)) (aH x7))) λA=>(aB (AG (A.H,A.s.1)) λy17=>(bR (be (aj A.2.1+aj ([y17])) 24) (bY aM y17 A.s.1 λz18=>(bR (be (aj A.a+aj ([(z18,A.s.1)])) 16) (aB (iO ((x.1.1,A.s),A.1,(A.2.1++([y17])),(A.a++([(z18,A.s.1)])),A.b,A.c,A.d,A.f,A.i,A.j,A.m,A.k,A.o,A.l,A.q)) λD=>(bR (ax (aj A.k) (aj A.k)&&(ax (aj A.j) (aj D.j)&&(ax (aj A.i) (aj D.i)&&(ax (aj A.f) (aj D.f)&&(ax (aj A.d) (aj D.d)&&(ax (aj A.c) (aj D.c)&&(ax (aj A.b) (aj D.b)&&(ax (aj (A.a++([(z18,A.s.1)]))) (aj D.a)&&(ax (aj (A.2.1++([y17]))) (aj D.2.1)&&J))))))))) (aB (gV ((x.1.1,A.s),D.1,D.2.1,D.a,D.b,D.c,D.d,D.f,D.i,D.j,D.m,D.l,D.B,D.k,D.o)) λy20=>(bR (ax (aj D.l) (aj y20.k)&&(ax (aj D.j) (aj y20.j)&&(ax (aj D.i) (aj y20.i)&&(ax (aj D.f) (aj y20.f)&&(ax (aj D.d) (aj y20.d)&&(ax (aj D.c) (aj y20.c)&&(ax (aj D.b) (aj y20.b)&&(ax (aj D.a) (aj y20.a)&&(ax (aj D.2.1) (aj y20.2.1)&&J))))))))) (Z (y20.1,y20.b,y20.c,y20.d,y20.f,y20.i,y20.j,y20.m,y20.2.1,y20.a,y20.y)))))))))))) λr=>Z (b7 r)))) (0,y1.2.1,y1.a,y1.b,y1.c,y1.d,y1.f,y1.i,y1.j,y1.m,y1.k,y1.o,y1.l,y1.q,y1.t,x.1.2,(aC (aN (aZ x.2.1.1.c)) (0:Int)))))))
def rN (x:N?):M Ye6:=oc @iter x
def gB (x:N?):M Ye6:=oc @f_ x
abbrev h!:=(Y η)×vq×(η)×(η)×(η)×(η)×(η)×(η)×B9×(η)×(Y η)×(Y η)×Y Bm
def vD (it:Bq) (x:q?):M Ye2:=
 (aB (lO (aZ x.1.c)) λy1=>(aB (lO (aZ x.1.c)) λy2=>(aB (lO (aZ x.1.c)) λy3=>(aB (lO (aZ x.1.c)) λL=>(bR (dg 0 (aZ x.1.1)&&dg (aZ x.1.1) (aZ x.1.1)&&be (aN (aZ x.1.1)) 24) (bR (dg 0 (aZ x.1.b)&&dg (aZ x.1.b) (aZ x.1.b)&&be (aN (aZ x.1.b)) 24) (it (Int×(fe×Y ic)×h!) _ (λz=>(bU z.1 (aZ x.2) (bY iZ x.2 z.1 λD=>(aB (gB ((z.1,D),z.2.1,z.a,z.b,z.c,z.d,z.f,z.i,z.j,z.m,z.k,z.o,z.t,z.l,z.q)) λA=>(bR (ax (aj z.o) (aj z.o)&&(ax (aj z.m) (aj A.f)&&(ax (aj z.j) (aj A.d)&&(ax (aj z.i) (aj A.c)&&(ax (aj z.f) (aj A.b)&&(ax (aj z.d) (aj A.a)&&(ax (aj z.c) (aj A.2.1)&&(ax (aj z.b) (aj z.b)&&(ax (aj z.a) (aj z.a)&&J))))))))) (c7 ((cV z.1),A.1,A.j,A.m,A.2.1,A.a,A.b,A.c,A.d,A.f,A.i,A.k,A.l,A.B,A.o))))) (aH (z.2.1,z.a,z.b,z.c,z.d,z.f,z.i,z.j,z.m,z.k,z.o,z.t,z.l,z.q)))) (0,x,([]:Y η),([]:Y ν),y1,y2,y3,L,(aC (aN (aZ x.1.1)) (0:Int)),(aC (aN (aZ x.1.b)) (0:Int)),([]:Y e!),([]:η),(aC (aN (aZ x.1.1)) ([]:η)),(aC (aN (aZ x.1.b)) ([]:η)),([]:Y Bm)))))))))
def AA (x:q?):M Ye2:=vD @iter x
def mU (x:q?):M Ye2:=vD @f_ x
abbrev M?:=(fe×Y ic)×(fe×Y ic)×vq×ic×h!
abbrev P!:=(fe×Y ic)×(fe×Y ic)×vq×h!
def xN (it:Bq) (x:q?):M R?:=
 (aB (gA x) λy1=>(jQ y1.2 0 (Z (([]:Y ν),12)) (aB (mU x) λy2=>(it (Int×P!) _ (λD=>(bU D.1 (aZ x.2) (jn (α:=P!) (bY iZ x.2 D.1 λz5=>(jn (aB (mV z5) λy7=>(aI (!y7) (aH (J,D.2.1,D.a,D.b,z5,D.g)) (bY lZ D.2.1.1.1 z5.a λz8=>(aH (z8.2.2.2.1,D.2.1,D.a,D.b,z5,D.g))))) λx6=>(aI x6.1 (aH (x6.2.1,x6.a,x6.b,x6.h)) (bR (dg 0 D.1&&dg D.1 (aj x6.2.1.2)) (it (Int×M?) _ (λA=>(bU A.1 (aQ (aj (dx (aN D.1) x6.2.1.2))) (jn (α:=M?) (bY iZ (dx (aN D.1) x6.2.1.2) A.1 λz11=>(jn (aB (mV z11) λy13=>(aI (!y13) (aH (J,A.2.1,A.a,A.b,A.c,z11,A.h)) (jQ z11.a A.c.a (aH (J,A.2.1,A.a,A.b,A.c,z11,A.h)) (aH ((decide ((z11.1:Int)=A.c.1)),A.2.1,A.a,A.b,A.c,z11,A.h))))) λz=>(aI z.1 (aH (z.2.1,z.a,z.b,z.c,z.n)) (jn (bn z.d.2.1 4 (aH (J,z.2.1,z.a,z.b,z.c,z.n)) (aH ((decide ((z.c.2.1:Int)=4)),z.2.1,z.a,z.b,z.c,z.n))) λx14=>(jn (aI x14.1 (kK (.sl aM) x14.d D.1 λz16=>(kK eU x14.f A.1 λz17=>(aB (gI (z16,z17)) λy18=>(aH ((!y18),x14.2))))) (aH (af,x14.2))) λL=>(aI L.1 (bR (be (aj L.b+aj ([(A.1,D.1)])) 16) (aH (L.2.1,L.a,(L.b++([(A.1,D.1)])),L.g))) (aH L.2))))))) λx10=>(c7 ((cV A.1),x10))) (aH (b7 (A.2.1,A.a,A.b,A.h))))) (0,x6.2)))))) λx4=>(c7 ((cV D.1),x4))) (aH (D.b,0)))) (0,x,y2.1,([]:Y ν),y2.2.1,y2.a,y2.b,y2.c,y2.d,y2.f,y2.i,y2.j,y2.m,y2.k,y2.l,y2.B,y2.o)))))
def Ci (x:q?):M R?:=xN @iter x
def lI (x:q?):M R?:=xN @f_ x
def TX (it:Bq) (x:Unit):M fe:=
 (it F? _ (λA=>(bU A.1 (aQ (aj ([[109,97,105,110],[116,49],[116,50],[116,51]]))) (it F? _ (λz=>(bU z.1 6 (bR (be (aj z.n+aj ([(A.1,z.1,(bl .i64 ((bl .i64 ((bl .i64 (10*A.1))+z.1))+1)))])) 24) (c7 ((cV z.1),z.2.1,z.a,z.b,z.c,z.d,(z.n++([(A.1,z.1,(bl .i64 ((bl .i64 ((bl .i64 (10*A.1))+z.1))+1)))]))))) (aH (oU ((cV A.1),z.2))))) (0,A.2)) (aH A.2))) (0,[([120],0,0,af,0),([121],0,0,af,1),([118],0,0,J,0),([113],0,2,af,0),([113],1,2,af,0)],[([109],af),([110],af),([114],J)],[([99],0)],[[102]],[[109,97,105,110],[116,49],[116,50],[116,51]],([]:Y π)))
def S_ (x:Unit):M fe:=TX @iter x
def Gm (x:Unit):M fe:=TX @f_ x
def qi (x:Bool):M q?:=
 (jn (aI x (aH 1) (aH 3)) λA=>(aB (Gm ()) λz=>(Z (z,[(0,1,(-1),0,(-1),([]:η),([]:η)),(0,20,1,0,0,([]:η),([]:η)),(1,1,(-1),0,(-1),([]:η),([]:η)),(0,4,0,5,0,([]:η),([]:η)),(0,6,0,0,0,([]:η),([]:η)),(0,4,1,6,0,([]:η),([]:η)),(0,7,0,0,0,([]:η),([]:η)),(1,6,0,0,6,([]:η),([]:η)),(1,4,A,7,6,([]:η),([]:η)),(1,7,0,0,6,([]:η),([]:η)),(1,4,0,8,6,([]:η),([]:η))]))))
def vA (x:Unit):M (Bool):=
 (aB (qi af) λy1=>(aB (lI y1) λz=>(aB (qi J) λL=>(aB (lI L) λD=>(jn (α:=Bool) (bn z.2 0 (bn D.2 0 (bn (aZ z.1) 1 (bY eU z.1 0 λA=>(aI (Qr (.pr aM (.pr aM .un)) (A.1,A.2,()) (3,10,()) !=af) (aH (decide (((aZ D.1):Int)=0))) (aH af))) (aH af)) (aH af)) (aH af)) λx5=>(Z x5))))))
def nG (x:η×J?):M (Bool):=
 (aB (oX (x,50)) λy1=>(aB (lI y1) λA=>(aB (tB y1) λL=>(jn (jQ A.2 0 (aH J) (aH (!decide ((L.2:Int)=0)))) λx4=>(aI x4 (Z af) (iter (σ:=ν) (λD=>(bU D.2 (aZ L.1) (bY eU L.1 D.2 λz6=>(iter (σ:=π) (λz=>(jn (bU z.1 (aZ A.1) (bY eU A.1 z.1 λz9=>(aH ((Qr (.pr aM (.pr aM .un)) (z9.1,z9.2,()) (z.2.1,z.2.2,()) !=J),z.2))) (aH (af,z.2))) λx8=>(aI x8.1 (c7 ((cV z.1),x8.2)) (aB (bn z.1 (aZ A.1) (aH af) (c7 (z.1,(cV D.2)))) λr=>Z (b7 r))))) (D.1,z6))) (aB (aB (vA ()) λy10=>(Z y10)) λr=>Z (b7 r)))) (0,0)))))))
@[simp] theorem eu (t f:M R):aI J t f=t:=Eq.trans rfl rfl
@[simp] theorem fm (t f:M R):aI af t f=f:=Eq.trans rfl rfl
@[simp] theorem chk_t (k:J=J->M R):chk J k=k rfl:=Eq.trans rfl rfl
def cS (h:b=J) (k:M R):chk b (λ_=>k)=k:=by cases b with|true=>rfl|false=>cases h
@[simp] theorem dW {α:Type} (x:α) (k:α->M R):aB (Z x) k=k x:=Eq.trans rfl rfl
@[simp] theorem oz {α:Type} (x:α) (k:α->M R):jn (Z (.inr x)) k=k x:=Eq.trans rfl rfl
@[simp] theorem jn_l {α:Type} (r:R) (k:α->M R):jn (Z (.inl r)) k=Z r:=Eq.trans rfl rfl
def aon {σ:Type} {f:σ->M (σ⊕R)} {x:σ} {r:R} (h:iterN f i x=Z r) (z:i<=18446744073709551616):f_ f x=Z r:=zC h z
def Cp {σ:Type} {f:σ->M (σ⊕R)} (n:Nat) (A:n<18446744073709551616) (st:Nat->σ) {r:R} (h0:∀i,i<n->f (st i)=Z (.inl (st (i+1)))) (h1:f (st n)=Z (.inr r)):f_ f (st 0)=Z r:=by
 have key:∀k i,i+k=n->iterN f (k+1) (st i)=Z r:=by
  intro k;induction k with
  |zero=>intro i hi;have:i=n:=by omega
         subst this;simp[iterN,h1]
  |succ k z=>intro i hi;rw[iterN,h0 i (by omega)];exact z (i+1) (by omega)
 exact aon (key n 0 (by omega)) (by omega)
@[simp] theorem ak2 {b:Int}:dg a b=J↔a<=b:=by unfold dg;simp
@[simp] theorem ak1 {b:Int}:gC a b=J↔a<b:=by unfold gC;simp
def sP {b:Int} (h:a<=b):dg a b=J:=ak2.2 h
def zE {b:Int} (h:a<b):gC a b=J:=ak1.2 h
def ak3 {b:Int} (h:b<a):dg a b=af:=by unfold dg;simp;omega
def Ct {b:Int} (h:b<=a):gC a b=af:=by unfold gC;simp;omega
def axh (h0:0<=a) (h1:a<i):dO a i=J:=by unfold dO;rw[sP h0,zE h1];rfl
def dz (h1:j<i):dO (j:Int) i=J:=axh (by omega) (by omega)
def Av (h0:i<=1099511627776) (h1:i*j<=1099511627776):be i j=J:=by
 unfold be;rw[a_ h0,a_ h1];rfl
def ar8 (h0: -9223372036854775808<=a) (h1:a<=9223372036854775807):bl .i64 a=a:=by
 rw[LD];unfold Q2;simp only[];rw[sP h0,sP h1];rfl
def sW (h:i<j) (z:j<=1099511627776):bl .i64 ((i:Int)+1)=((i+1:Nat):Int):=by
 rw[ar8 (by omega) (by omega)];omega
def Cr (a b:Nat):j6 (aQ a) (aQ b)=((max a b:Nat):Int):=by
 unfold j6;by_cases h:a<b
 .rw[zE (by simp;omega),aD rfl];simp;omega
 .rw[Ct (by simp;omega)];simp;omega
def zH {T:Ty} (xs:Y T.den) (i:Nat):geti _ xs (i:Int)=xs.getD i T.zero:=by unfold geti;simp
def tH (xs:Y η) (i:Nat):geti (.sl (.int .i64)) xs (i:Int)=xs.getD i []:=zH (T:=.sl (.int .i64)) xs i
def atw (xs:η) (i:Nat):geti aM xs (i:Int)=xs.getD i 0:=zH (T:=aM) xs i
def em (xs:Y R) (i:Nat) (x:R):ch xs (i:Int) x=xs.set i x:=by unfold ch;simp
def xY:Nat:=1000000000
def jl (a b:η):η:=(eA (max (l! a) (l! b))).map λi=>j6 (a.getD i 0) (b.getD i 0)
def rk (a b:η):l! (jl a b)=max (l! a) (l! b):=by simp[jl]
def r7 (a b:η) (i:Nat):(jl a b).getD i 0=j6 (a.getD i 0) (b.getD i 0):=by
 unfold jl;simp[aw,bB];by_cases h:i<max (l! a) (l! b)
 .grind
 .rw[c_ (by grind),c_ (l:=a) (by omega),c_ (l:=b) (by omega)];rfl
def Jm (c:η) (i:Nat):kH (c,(i:Int))=Z (c.getD i 0):=by
 unfold kH bU mK aZ aH;rw[Ct (by omega)];by_cases h:i<l! c
 .rw[ak3 (by grind)];rw[cS (dz h),zH];rfl
 .rw[sP (by grind)];simp_all
def L9 (a b:η) (ha:l! a<=xY) (L:l! b<=xY):jJ (a,b)=Z (jl a b):=by
 unfold xY at ha L;unfold jJ xO ck bU bR aZ c7 aH cV;rw[cS (by simp only[Cr];rw[sP (by omega),sP (by omega),Av (by omega) (by omega)];rfl)];simp only[Cr,bh,cU];have:=Cp (σ:=k!) (R:=η) (max (l! a) (l! b)) (by omega) (λi=>((i:Int),(eA (max (l! a) (l! b))).map λk=>if k<i then j6 (a.getD k 0) (b.getD k 0) else 0)) (f:=(λz=>(aI (gC z.1 (aQ (max (l! a) (l! b)))) (aB (kH (a,z.1)) λD=>(aB (kH (b,z.1)) λA=>(chk (dO z.1 (aj z.2)) λ_=>(chk (dO z.1 (aj z.2)) λ_=>(Z (oU ((bl .i64 (z.1+1)),(ch z.2 z.1 (j6 D A))))))))) (Z (b7 z.2))))) (r:=jl a b) ?_ ?_
 .refine Eq.trans ?_ this;congr 1;simp[FC,fX,dF,aR,EO];apply c5<;>simp
 .intro i hi;rw[zE (by grind),eu,Jm,Jm,dW,dW,cS (dz (by grind)),cS (dz (by grind)),sW hi (by omega),em];congr 3;apply c5
  .simp
  .grind
 .simp[];rw[Ct (by simp),fm];unfold jl;simp_all
def ah8 (a b:η) (ha:l! a<=xY) (hb:l! b<=xY):vB (a,b)=Z (jl a b,b):=by
 unfold xY at ha hb;unfold vB LZ ck bU bR aZ c7 aH cV;have hm:max (l! a) (l! b)<=1000000000:=by omega
 rw[cS (by simp only[Cr];rw[sP (by omega),sP (by omega),Av (by simp;omega) (by simp;omega)];rfl)];simp only[Cr,bh,cU];have:=Cp (σ:=Int×x!) (R:=x!) (max (l! a) (l! b)) (by omega) (λi=>((i:Int),b,(eA (max (l! a) (l! b))).map λk=>if k<i then j6 (a.getD k 0) (b.getD k 0) else 0)) (f:=(λz=>(aI (gC z.1 (aQ (max (l! a) (l! b)))) (aB (kH (a,z.1)) λD=>(aB (kH (z.2.1,z.1)) λA=>(chk (dO z.1 (aj z.2.2)) λ_=>(chk (dO z.1 (aj z.2.2)) λ_=>(Z (oU ((bl .i64 (z.1+1)),z.2.1,(ch z.2.2 z.1 (j6 D A))))))))) (Z (b7 (z.2.2,z.2.1)))))) (r:=(jl a b,b)) ?_ ?_
 .refine Eq.trans ?_ this;congr 1;simp only[FC,fX,dF,aR,EO];apply c5<;>simp
 .intro i hi;simp only[];rw[zE (by simp;omega),eu,Jm,Jm,dW,dW,cS (dz (by simpa using hi)),cS (dz (by simpa using hi)),sW hi (by omega),em];congr 4;apply c5
  .simp
  .intro k h1 h2;simp only[bM,vx]at h2;simp only[FA,xt,tO];by_cases e:i=k
   .subst e;simp
   .by_cases h:k<i
    .rw[av e,aD h,aD (by omega)]
    .rw[av e,av h,av (by omega)]
 .simp only[];rw[Ct (by simp),fm];congr 3;unfold jl;apply ja;intro k L;rw[aD (oR.1 L)]
def Yo (a b:η) (A:l! a<=xY) (z:l! b<=xY):Fd (a,b)=Z (jl a b):=by
 unfold Fd;rw[ah8 a b A z,dW];exact Vd rfl _
def tk (c:η) (t:Nat):η:=(c++aC (t+1-l! c) 0).set t (c.getD t 0+1)
def Dg (c:η) (t:Nat):l! (tk c t)=max (l! c) (t+1):=by simp[tk];omega
def padD (c:η) (n i:Nat):(c++aC n 0).getD i 0=c.getD i 0:=by grind
def uK (c:η) (t i:Nat):(tk c t).getD i 0=if i=t then c.getD t 0+1 else c.getD i 0:=by
 unfold tk
 grind
def al7 (c:η) (n:Nat) (h:l! c<=n):Ul (aC n 0) c=c++aC (n-l! c) 0:=by
 unfold Ul;rw[cU,gz h,List.drop_replicate]
def ae5 (c:η) (t:Nat) (A:l! c<=xY) (ht:t<4) (h0:0<=c.getD t 0) (h1:c.getD t 0<9223372036854775807):ri (c,(t:Int))=Z (tk c t):=by
 unfold xY at A;unfold ri ck kY bR aZ aH cV;rw[sP (by omega),eu,oz,zE (by omega)];simp only[eu,oz];have L:j6 (aQ (l! c)) (bl .i64 ((t:Int)+1))=((max (l! c) (t+1):Nat):Int):=by
  rw[sW ht (by omega)];exact Cr _ _
 rw[L];rw[cS (by rw[sP (by omega),sP (by omega),Av (by omega) (by omega)];rfl)];rw[bh];have e2:Ul (aC (max (l! c) (t+1)) (0:Int)) c=c++aC (t+1-l! c) 0:=by
  rw[al7 c _ (by omega)]
  grind
 rw[e2];have z:t<l! (c++aC (t+1-l! c) (0:Int)):=by simp;omega
 rw[cS (dz z),cS (dz z),oz];have D:geti aM (c++aC (t+1-l! c) (0:Int)) (t:Int)=c.getD t 0:=by
  exact padD c _ t
 rw[D,zE h1,eu,cS (dz z),cS (dz z),cS (dz z),cS (dz z),oz,ar8 (by omega) (by omega),em];rfl
def Yv (c:η) (z:l! c<=xY):Fe c=Z c:=by
 unfold xY at z;unfold Fe;rw[cS (Av (by omega) (by omega))]
def Si (c:η) (z:l! c<=xY):xF c=Z c:=by
 unfold xY at z;unfold xF zu bR;rw[cS (Av (by simp;omega) (by simp;omega)),dW];exact Vd rfl _
def Sj (c:η) (z:l! c<=xY):qu c=Z c:=Yv c z
abbrev WO:Type:=(Int×Int×Int×Int×Bool)×Y (Int×Bool)×Y (Int×Bool)
def mJ (l:Y ET) (i:Nat):Nat:=(eN l i).1.toNat
def ct (l:Y ET) (u:Nat):Nat->Nat
 |0=>0
 |n+1=>ct l u n+if mJ l n=u then 1 else 0
def adk (l:Y ET) (u:Nat):∀{n m:Nat},n<=m->ct l u n<=ct l u m:=by
 intro n m h;induction h with
 |refl=>exact bK _
 |step _ z=>exact c9 z (by simp only[ct];omega)
def axw (l:Y ET) (u:Nat):∀n,ct l u n<=n
 |0=>bK _
 |n+1=>by have:=axw l u n;simp only[ct];split<;>omega
def ZX (l:Y ET) (i:Nat):ct l (mJ l i) (i+1)=ct l (mJ l i) i+1:=by simp only[ct,bk]
def Fw (T j:Nat) (x:η):Prop:=l! x=T/\∀u:Nat,u<T-> -1<=x.getD u 0/\x.getD u 0<(j:Int)
def Fw.up (h:Fw i j A):Fw i (j+1) A:=⟨h.1,λu z=>by have:=h.2 u z;omega⟩
def Fw.set (h:Fw i j A) (u:Nat) (h0: -1<=a) (h1:a<=(j:Int)):Fw i (j+1) (ch A (u:Int) a):=by
 refine ⟨by rw[bT];exact h.1,λk z=>?_⟩;rw[em,aw,ep];by_cases e:u=k
 .grind
 .rw[av e,<-aw];have:=h.2 k z;omega
def Fw.geti {T:Nat} (h:Fw T j A) (h0:0<=a) (h1:a<T): -1<=AI.geti (T:=aM) A a/\AI.geti (T:=aM) A a<(j:Int):=by
 have e:a=((a.toNat:Nat):Int):=by omega
 exact h.2 _ (by omega)
def PF (n j:Nat) (st:η) (si:Y η):Prop:=l! st=n/\l! si=n/\∀o:Nat,o<n->st.getD o 0=(l! (si.getD o []):Int)/\l! (si.getD o [])<=j/\∀v∈si.getD o [],0<=v/\v<(j:Int)
def PF.up {si:Y η} (h:PF i j A si):PF i (j+1) A si:=⟨h.1,h.2.1,λo st=>by let⟨a,b,c⟩:=h.2.2 o st;exact⟨a,by omega,λv z=>by have:=c v z;omega⟩⟩
def LV (z:η) (o:Nat):sJ z (o:Int)=z.getD o 0:=by unfold sJ;rw[bh]
def xA (xss:Y η) (o:Nat):ry (T:=aM) xss (o:Int)=xss.getD o []:=by unfold ry;rw[bh]
def vW (w:WT) (la sp wa:η) (si ei:Y η) (e:ET):η:=[geti aM la e.1]++
 (if e.2.1=1 then [geti aM sp e.1] else if e.2.1=21 then [geti aM la e.2.2.1] else if e.2.1=23 then ry (T:=aM) ei e.2.2.1
  else if e.2.1=3 then (if (geti lZ w.1 e.2.2.1).2.2.2.1=J then ry (T:=aM) si e.2.2.1 else []) else if e.2.1=17 then [geti aM wa e.1] else [])
def YM {w:WT} {e:ET} (hev:PH w e) (hj:j<=1000) {c:Y η} {tm:Y ν} {sp wa wt st se:η} {op:Y e!} {re:η} {ar:Y WO} {si ei:Y η}
 (h1:Fw (l! w.2.2.2.2.1) j A) (h2:Fw (l! w.2.2.2.2.1) j sp) (h3:Fw (l! w.2.2.2.2.1) j wa) (h4:PF (l! w.1) j st si) (h5:PF (l! w.2.2.2.1) j se ei):
 jF (e,(w,k),c,tm,A,sp,wa,wt,st,se,op,re,ar,si,ei)=Z (vW w A sp wa si ei e,(w,k),c,tm,A,sp,wa,wt,st,se,op,re,ar,si,ei):=by
 refine cW ?_;let⟨nm,L,D,cd⟩:=hev;let⟨t,l,o,v,s,r1,r2⟩:=e;dsimp only at nm L D;unfold jF hZ iR kl wW bf bw bH cE dJ gf iK ji Prod.t ck bn mK bR bY kK aH;dsimp only;have l1:=h1.1;have l2:=h2.1;have l3:=h3.1;have gY:∀{R:Type} {Q:R->Prop} {x:η} {u:Int} {l:Int->M R},l! x=l! w.2.2.2.2.1->0<=u->u<l! w.2.2.2.2.1->Ok (l (geti aM x u)) Q->Ok (chk (dO u (l! x)) λ_=>chk (dO u (l! x)) λ_=>lt (geti aM x u) l) Q:=λhl h0 h1 hk=>aO h0 (by omega) (aO h0 (by omega) (aT hk))
 refine gY l1 L D ?_;refine aX (λx=>x=((w,k),c,tm,A,sp,wa,wt,st,se,op,re,ar,si,ei,vW w A sp wa si ei (t,l,o,v,s,r1,r2))) ?_ ?_
 .refine aK (λg=>?_) λg1=>?_
  .refine gY l2 L D (bN (by simp) (by omega) (ak ?_));dsimp only;unfold vW;dsimp only;rw[aD g]
  refine aK (λg=>?_) λg2=>?_
  .obtain⟨z,la⟩:=nm.th (.inr g);refine gY l1 z la (bN (by simp) (by omega) (ak ?_));dsimp only;unfold vW
   grind
  have lst:∀{n:Nat} {xs:η} {xss:Y η},PF n j xs xss->0<=o->o<n->ax (aN (sJ xs o)) (aj (ry (T:=aM) xss o))=J/\(aj (ry (T:=aM) xss o))<=j/\l! xs=n/\l! xss=n:=λ{n xs xss} h z la=>by
   have e:o=((o.toNat:Nat):Int):=by omega
   let⟨a,b,cc⟩:=h.2.2 o.toNat (by omega);rw[e,LV,xA,a,bh];exact⟨fU _,b,h.1,h.2.1⟩
  refine aK (λg=>?_) λg3=>?_
  .obtain⟨z,la⟩:=nm.fu (.inr g);let⟨q1,q2,q3,q4⟩:=lst h5 z la;refine aO z (by omega) (aO z (by omega) (aO z (by omega) (bt q1 (bN (by rw[cq];omega) (by omega) (ak ?_)))));dsimp only;unfold vW
   grind
  refine aK (λg=>?_) λg4=>?_
  .obtain⟨z,la⟩:=nm.ce (.inl g);let⟨q1,q2,q3,q4⟩:=lst h4 z la;refine aO z la (aT ?_);refine aP (λgv=>?_) λgv=>?_
   .refine aO z (by omega) (aO z (by omega) (aO z (by omega) (bt q1 (bN (by rw[cq];omega) (by omega) (ak ?_)))));dsimp only;unfold vW
    grind
   .refine ak ?_;dsimp only;unfold vW
    grind
  refine aK (λg=>?_) λg5=>?_
  .refine gY l3 L D (bN (by simp) (by omega) (ak ?_));dsimp only;unfold vW
   grind
  .refine ak ?_;dsimp only;unfold vW
   grind
 .rintro x rfl;exact ak rfl
def Y8 (o j:Int) (n:Nat) (wt wa:η):η:=(eA (l! wa)).map λu=>if u<n/\wt.getD u 0=o then j else wa.getD u 0
def VP (o:Int) (n:Nat) (wt:η):η:=(eA (l! wt)).map λu=>if u<n/\wt.getD u 0=o then -1 else wt.getD u 0
def S9 (o j:Int) (n:Nat) (wt wa:η):l! (Y8 o j n wt wa)=l! wa:=by simp[Y8]
def S8 (o:Int) (n:Nat) (wt:η):l! (VP o n wt)=l! wt:=by simp[VP]
def acl (o j:Int) (n:Nat) (wt wa:η) (z:i<l! wa):(Y8 o j n wt wa).getD i 0=if i<n/\wt.getD i 0=o then j else wa.getD i 0:=by
 unfold Y8
 grind
def ack (o:Int) (n:Nat) (wt:η) (z:i<l! wt):(VP o n wt).getD i 0=if i<n/\wt.getD i 0=o then -1 else wt.getD i 0:=by
 unfold VP
 grind
def ajd (o j:Int) (wt wa:η):Y8 o j 0 wt wa=wa:=by
 unfold Y8;apply c5
 .simp
 .intro k h1 z;simp[aw,aG z]
def ajc (o:Int) (wt:η):VP o 0 wt=wt:=by
 unfold VP;apply c5
 .simp
 .intro k h1 z;simp[aw,aG z]
def ato {j:Int} {wa:η} (h:A.getD i 0≠a):Y8 a j (i+1) A wa=Y8 a j i A wa:=by
 unfold Y8
 grind
def atn (h:A.getD i 0≠a):VP a (i+1) A=VP a i A:=by
 unfold VP
 grind
def aof {j:Int} {wa:η} (h:A.getD i 0=a):Y8 a j (i+1) A wa=ch (Y8 a j i A wa) (i:Int) j:=by
 rw[em];unfold Y8;apply c5
 .simp
 .grind
def aoe (h:A.getD i 0=a):VP a (i+1) A=ch (VP a i A) (i:Int) (-1):=by
 rw[em];unfold VP;apply c5
 .simp
 .grind
def FL (j:Int) (e:ET) (sp:η):η:=if e.2.1=20 then ch sp e.2.2.1 j else sp
def FK (j:Int) (e:ET) (wt wa:η):η:=if e.2.1=18 then (if 0<=e.2.2.2.1 then ch wa e.2.2.2.1 j else wa) else if e.2.1=19 then Y8 e.2.2.1 j (l! wt) wt wa else wa
def KK (e:ET) (wt:η):η:=if e.2.1=16 then ch wt e.1 e.2.2.1 else if e.2.1=18 then (if 0<=e.2.2.2.1 then ch wt e.2.2.2.1 (-1) else wt) else if e.2.1=19 then VP e.2.2.1 (l! wt) wt else wt
def QQ (k:Int) (j:Int) (e:ET) (st:η) (si:Y η):η:=if e.2.1=k then sI st (aN e.2.2.1) (aQ (aj (ry (T:=aM) si e.2.2.1++[j]))) else st
def PD (k:Int) (j:Int) (e:ET) (si:Y η):Y η:=if e.2.1=k then vY (T:=aM) (vY (T:=aM) si e.2.2.1 []) e.2.2.1 (ry (T:=aM) si e.2.2.1++[j]) else si
def UG (k j:Int) (e:ET) (si:Y η) (A:i<l! si) (h0:e.2.1=k->0<=e.2.2.1):(PD k j e si).getD i []=if e.2.1=k/\e.2.2.1=(i:Int) then si.getD i []++[j] else si.getD i []:=by
 unfold PD;by_cases h:e.2.1=k
 .rw[aD h];have z:e.2.2.1=((e.2.2.1.toNat:Nat):Int):=by omega
  unfold vY;rw[aw,ep];by_cases q:e.2.2.1.toNat=i
  .rw[aD q,dv,aD (by omega),aD ⟨h,by omega⟩];simp only[sH];rw[z,xA,q]
  .grind
 .grind
def aq2 (k j:Int) (e:ET) (si:Y η):l! (PD k j e si)=l! si:=by
 unfold PD vY;split
 .simp
 .rfl
def aq3 (k j:Int) (e:ET) (st:η) (si:Y η) (A:i<l! st) (h0:e.2.1=k->0<=e.2.2.1):(QQ k j e st si).getD i 0=if e.2.1=k/\e.2.2.1=(i:Int) then (l! (si.getD i []++[j]):Int) else st.getD i 0:=by
 unfold QQ;by_cases h:e.2.1=k
 .rw[aD h];have z:e.2.2.1=((e.2.2.1.toNat:Nat):Int):=by omega
  rw[aw,ep];by_cases q:e.2.2.1.toNat=i
  .rw[aD q,aD (by omega),aD ⟨h,by omega⟩];rw[z,xA,q];rfl
  .grind
 .grind
def PF.ad {si:Y η} (h:PF i j A si) (k:Int) (e:ET) (h0:e.2.1=k->0<=e.2.2.1):PF i (j+1) (QQ k (j:Int) e A si) (PD k (j:Int) e si):=by
 let⟨a,b,c⟩:=h;refine ⟨by unfold QQ;split<;>simp[a],by rw[aq2,b],λo z=>?_⟩;rw[aq3 _ _ _ _ _ (by omega) h0,UG _ _ _ _ (by omega) h0]
 grind
def Fw.wa {wt:η} (h:Fw i j A) (e:ET) (wa:e.2.1=18->e.2.2.2.1<i):Fw i (j+1) (FK (j:Int) e wt A):=by
 unfold FK;split
 .rename_i g;split
  .rename_i D;have e0:e.2.2.2.1=((e.2.2.2.1.toNat:Nat):Int):=by omega
   exact h.set _ (by omega) (dC _)
  .exact h.up
 .split
  .refine ⟨by rw[S9];exact h.1,λu z=>?_⟩;rw[acl _ _ _ _ _ (by rw[h.1];exact z)];split
   .omega
   .have:=h.2 u z;omega
  .exact h.up
def Mc (e:ET) (wt:η):l! (KK e wt)=l! wt:=by
 unfold KK;split
 .exact bT _ _ _
 .split
  .split
   .exact bT _ _ _
   .rfl
  .split
   .exact S8 _ _ _
   .rfl
def Fw.sp (h:Fw i j A) (e:ET) (h0:e.2.1=20->0<=e.2.2.1):Fw i (j+1) (FL (j:Int) e A):=by
 unfold FL;split
 .rename_i g;have e0:e.2.2.1=((e.2.2.1.toNat:Nat):Int):=by omega
  exact h.set _ (by omega) (dC _)
 .exact h.up
def akx {w:WT} {e:ET} (hev:PH w e) (hj:j<=1000) (hT:l! w.2.2.2.2.1<=4) (hv:e.2.1=18->e.2.2.2.1<l! w.2.2.2.2.1) {c:Y η} {tm:Y ν} {sp wa wt st se:η} {op:Y e!} {re:η} {ar:Y WO} {si ei:Y η}
 (h1:Fw (l! w.2.2.2.2.1) j A) (h2:Fw (l! w.2.2.2.2.1) j sp) (h3:Fw (l! w.2.2.2.2.1) j wa) (hwt:l! wt=l! w.2.2.2.2.1) (h4:PF (l! w.1) j st si) (h5:PF (l! w.2.2.2.1) j se ei):
 gV (((j:Int),e),(w,k),c,tm,A,sp,wa,wt,st,se,op,re,ar,si,ei)=Z ((w,k),c,tm,ch A e.1 (j:Int),FL (j:Int) e sp,FK (j:Int) e wt wa,KK e wt,QQ 4 (j:Int) e st si,QQ 22 (j:Int) e se ei,op,re,ar,PD 4 (j:Int) e si,PD 22 (j:Int) e ei):=by
 refine cW ?_;let⟨nm,t0,t1,cd⟩:=hev;let⟨t,l,o,v,s,D,la⟩:=e;dsimp only at nm t0 t1 hv;unfold gV m8 hZ iR kl wW Pu Prod.D bf bw bH cE dJ gf iK ji Prod.t dQ hY vu ck bn bU kY mK bR kK aZ c7 aH cV;dsimp only;have l1:=h1.1;have l2:=h2.1;have l3:=h3.1;have cB:∀{R:Type} {Q:R->Prop} {n:Nat} {u:Int} {l:M R},0<=u->u<n->Ok l Q->Ok (ck (dO u n) l) Q:=λh0 h1 hk=>aO h0 h1 (aO h0 h1 hk)
 refine cB t0 (by omega) ?_;refine aX (λx=>x=((w,k),c,tm,ch A t (j:Int),FL (j:Int) (t,l,o,v,s,D,la) sp,FK (j:Int) (t,l,o,v,s,D,la) wt wa,KK (t,l,o,v,s,D,la) wt,QQ 4 (j:Int) (t,l,o,v,s,D,la) st si,QQ 22 (j:Int) (t,l,o,v,s,D,la) se ei,op,re,ar,PD 4 (j:Int) (t,l,o,v,s,D,la) si,PD 22 (j:Int) (t,l,o,v,s,D,la) ei)) ?_ ?_
 .unfold FL FK KK QQ PD;dsimp only;have lst:∀{n:Nat} {xs:η} {xss:Y η},PF n j xs xss->0<=o->o<n->ax (aN (sJ xs o)) (aj (ry (T:=aM) xss o))=J/\(aN (sJ xs o))<=j/\l! xs=n/\l! xss=n:=λ{n xs xss} h z L=>by
   have e:o=((o.toNat:Nat):Int):=by omega
   let⟨a,b,cc⟩:=h.2.2 o.toNat (by omega);rw[e,LV,xA,a,bh];exact⟨fU _,b,h.1,h.2.1⟩
  refine aK (λg=>?_) λg1=>?_
  .obtain⟨z,L⟩:=nm.th (.inl g);refine cB z (by omega) (ak ?_);subst g;simp only[bI,bk,dF]
  refine aK (λg=>?_) λg2=>?_
  .obtain⟨z,L⟩:=nm.fu (.inl g);let⟨q1,q2,q3,q4⟩:=lst h5 z L;refine cB z (by omega) (aO z (by omega) (cR (bt q1 (bN (by rw[cq];omega) (by omega) (cB z (by omega) (ak ?_))))));subst g;simp only[bI,bk,dF]
  refine aK (λg=>?_) λg3=>?_
  .obtain⟨z,L⟩:=nm.ce (.inr g);let⟨q1,q2,q3,q4⟩:=lst h4 z L;refine cB z (by omega) (aO z (by omega) (cR (bt q1 (bN (by rw[cq];omega) (by omega) (cB z (by omega) (ak ?_))))));subst g;simp only[bI,bk,dF]
  refine aK (λg=>?_) λg4=>?_
  .refine cB t0 (by omega) (ak ?_);subst g;simp only[bI,bk,dF]
  refine aK (λg=>?_) λg5=>?_
  .subst g;refine fO (λv0=>?_) λv0=>?_
   .have v1:=hv rfl;refine cB v0 (by omega) (cB v0 (by omega) (ak ?_));simp only[bI,bk,dF,v0]
   .refine ak ?_;simp only[bI,bk,dF,Int.not_le.2 v0]
  refine aK (λg=>?_) λg6=>?_
  .subst g;refine gi (l! wt) (by omega) (λi x=>x=((i:Int),(w,k),c,tm,ch A t (j:Int),sp,Y8 o (j:Int) i wt wa,VP o i wt,st,se,op,re,ar,si,ei,(t,19,o,v,s,D,la))) ?_ ?_ (by rw[ajd,ajc];simp only[FC])
   .rintro i x hi rfl;refine dB ?_;refine aX (λx=>x=((w,k),c,tm,ch A t (j:Int),sp,Y8 o (j:Int) (i+1) wt wa,VP o (i+1) wt,st,se,op,re,ar,si,ei,(t,19,o,v,s,D,la))) ?_ ?_
    .dsimp only;have ib:dO (i:Int) (l! (VP o i wt))=J:=Tl.2 ⟨by omega,by rw[S8];omega⟩;refine bt ib (bt ib (aT ?_));have gv:geti aM (VP o i wt) (i:Int)=wt.getD i 0:=by
      rw[Fm,ack _ _ _ hi,av (by omega)]
     rw[gv];refine aK (λh=>?_) λh=>?_
     .have h:wt.getD i 0=o:=h;refine cB (by omega) (by rw[S9];omega) (cB (by omega) (by rw[S8];omega) (ak ?_));rw[aof h,aoe h]
     .have h:¬wt.getD i 0=o:=h;refine ak ?_;rw[ato h,atn h]
    .rintro x rfl;refine ak ?_;show _=_;rw[ig]
   .rintro x rfl;refine dw (ak ?_);simp only[bI,bk,dF]
  .refine ak ?_;simp only[g1,g2,g3,g4,g5,g6,dF]
 .rintro x rfl;exact ak rfl
def kq (w:WT) (e:ET):Int:=if e.2.1=7\/e.2.1=9\/e.2.1=11 then e.2.2.1 else if e.2.1=16 then (geti itK w.2.2.1 e.2.2.1).2 else if e.2.1=13 then (l! w.2.1:Int) else -1
def Bl (w:WT) (e:ET):Int:=if e.2.1=6\/e.2.1=8\/e.2.1=10 then e.2.2.1 else if e.2.1=17 then (geti itK w.2.2.1 e.2.2.1).2 else if e.2.1=12 then (l! w.2.1:Int) else -1
def Jw {w:WT} {e:ET} (hev:PH w e):mj (w,e)=Z (kq w e):=by
 refine cW ?_;let⟨nm,L,D,cd⟩:=hev;let⟨t,k,o,v,s,r1,r2⟩:=e;dsimp only at nm L D;unfold mj bf bH bn bY aZ aH;refine aX (λx=>x=(decide (k=7\/k=9\/k=11),w,t,k,o,v,s,r1,r2)) ?_ ?_
 .refine aK (λg=>ak ?_) λA=>aK (λg=>ak ?_) λz=>ak ?_
  .grind
  .grind
  .grind
 .rintro x rfl;unfold kq;refine aK (λg=>ak ?_) λA=>?_
  .rw[aD g]
  rw[av A];refine aK (λg=>?_) λz=>?_
  .have g:k=16:=g;let⟨o0,o1⟩:=nm.cd ⟨by omega,by omega⟩;rw[aD g];exact aO o0 o1 (aT (ak rfl))
  rw[av z];refine aK (λg=>ak ?_) λg3=>ak ?_
  .rw[aD g];rfl
  .rw[av g3]
def KC {w:WT} {e:ET} (hev:PH w e):ml (w,e)=Z (Bl w e):=by
 refine cW ?_;let⟨nm,L,D,cd⟩:=hev;let⟨t,k,o,v,s,r1,r2⟩:=e;dsimp only at nm L D;unfold ml bf bH bn bY aZ aH;refine aX (λx=>x=(decide (k=6\/k=8\/k=10),w,t,k,o,v,s,r1,r2)) ?_ ?_
 .refine aK (λg=>ak ?_) λA=>aK (λg=>ak ?_) λz=>ak ?_
  .grind
  .grind
  .grind
 .rintro x rfl;unfold Bl;refine aK (λg=>ak ?_) λA=>?_
  .rw[aD g]
  rw[av A];refine aK (λg=>?_) λz=>?_
  .have g:k=17:=g;let⟨o0,o1⟩:=nm.cd ⟨by omega,by omega⟩;rw[aD g];exact aO o0 o1 (aT (ak rfl))
  rw[av z];refine aK (λg=>ak ?_) λg3=>ak ?_
  .rw[aD g];rfl
  .rw[av g3]
def OpI (n:Nat) (op:Y e!):Prop:=∀x∈op,0<=x.2/\x.2<(n:Int)
def ReI (n:Nat) (re:η):Prop:=∀v∈re,0<=v/\v<(n:Int)
def aib (h0:0<=a) (h1:a<(i:Int)):shf i a=a:=by
 unfold shf;rw[aD (by exact a_ (by omega))]
def ReI.shf (h:ReI i A):A.map (AI.shf i)=A:=by
 have:A.map (AI.shf i)=A.map id:=ja λv z=>aib (h v z).1 (h v z).2
 rw[this,List.map_id]
def OpI.shf {op:Y e!} (h:OpI i op):Mj i op=op:=by
 unfold Mj;have:op.map (λe=>(e.1,AI.shf i e.2))=op.map id:=ja λx z=>by rw[aib (h x z).1 (h x z).2];rfl
 rw[this,List.map_id]
def Cm {k z:ν}:P9 k z=J↔k=z:=by
 unfold P9;rw[al,bG,bG];exact⟨λh=>sG h.1 h.2,λh=>by rw[h];exact⟨rfl,rfl⟩⟩
def mg (k:ν):∀{op:Y e!},sL k op=J->(k,eH k op)∈op
 |[],h=>by cases h
 |e::r,h=>by
  simp only[sL,eH]at h ⊢;cases z:P9 k e.1 with
  |true=>
   rw[Cm.1 z];exact cX ..
  |false=>
   rw[z,FH]at h;exact bS _ (mg k h)
def Gi (k:ν) {x:e!}:∀{op:Y e!},x∈DO k op->x∈op
 |[],h=>by cases h
 |e::r,h=>by
  simp[DO]at h;cases z:P9 k e.1 with
  |true=>rw[z]at h;exact bS _ h
  |false=>
   rw[z]at h;rcases aV.1 h with h|h
   .grind
   .exact bS _ (Gi k h)
def OpI.del {op:Y e!} (h:OpI i op) (k:ν):OpI i (DO k op):=λx z=>h x (Gi k z)
def Lf (j:Int) (o:WO):WO:=((o.1.1,o.1.2.1,o.1.2.2.1,j,o.1.2.2.2.2),o.2)
abbrev bx (ar:Y WO) (i:Int):WO:=dZ l_ ar i
def scQ (w:WT) (e:ET) (op:Y e!):Bool:=sL (e.1,kq w e) op
def FZ (w:WT) (e:ET) (op:Y e!):Y e!:=if scQ w e op=J then DO (e.1,kq w e) op else op
def Cd (w:WT) (e:ET) (op:Y e!) (re:η):η:=if scQ w e op=J then re++[eH (e.1,kq w e) op] else re
def Ce (w:WT) (j:Int) (e:ET) (op:Y e!) (ar:Y WO):Y WO:=if scQ w e op=J then qX (S:=l_) ar (eH (e.1,kq w e) op) (Lf j (bx ar (eH (e.1,kq w e) op))) else ar
def YP (w:WT) (e:ET) (op:Y e!) (ar:Y WO):Y e!:=if 0<=Bl w e then yV (e.1,Bl w e) (l! ar:Int) (FZ w e op) else FZ w e op
def Js (w:WT) (j:Int) (e:ET) (op:Y e!) (ar:Y WO):Y WO:=if 0<=Bl w e then Ce w j e op ar++[((e.1,Bl w e,j,-1,decide (e.2.1=8)),[],[])] else Ce w j e op ar
def Ml (w:WT) (j:Int) (e:ET) (op:Y e!) (ar:Y WO):l! (Ce w j e op ar)=l! ar:=by
 unfold Ce qX;split
 .exact dv ..
 .rfl
def Vb {w:WT} {e:ET} (hev:PH w e) {c:Y η} {tm:Y ν} {sp wa wt st se:η} {op:Y e!} {re:η} {ar:Y WO} {si ei:Y η}
 (h1:OpI (l! ar) op) (h2:ReI (l! ar) re) (h3:l! re<=1000):
 iO (((j:Int),e),(w,k),c,tm,A,sp,wa,wt,st,se,op,re,ar,si,ei)=Z ((w,k),c,tm,A,sp,wa,wt,st,se,YP w e op ar,si,ei,Cd w e op re,Js w (j:Int) e op ar):=by
 refine cW ?_;unfold iO hZ iR kl wW bf bw bH cE dJ gf iK ji Prod.t kY mK bR aZ;dsimp only;refine bc (Jw hev) ?_;refine aP (λL=>?_) λL=>?_
 .have hm:=mg _ L;have D:=h1 _ hm;dsimp only at D;have z:scQ w e op=J:=L;refine aO D.1 D.2 (a! (bc (KC hev) ?_));have hl:aj (qX (S:=l_) ar (eH (e.1,kq w e) op) (Lf (j:Int) (bx ar (eH (e.1,kq w e) op))))=l! ar:=by unfold qX;exact dv ..
  have hR:ReI (l! ar) (re++[eH (e.1,kq w e) op]):=λv la=>by
   rcases bO.1 la with la|la
   .exact h2 v la
   .simp only[aE]at la;subst la;exact D
  refine fO (λg=>ak ?_) λg=>ak ?_
  .unfold YP Js Cd FZ Ce;rw[aD g,aD g,aD z,aD z,aD z];have e1:=(h1.del (e.1,kq w e)).shf;have e2:=hR.shf;rw[<- hl]at e1 e2;refine sG rfl (sG rfl (sG rfl (sG rfl (sG rfl (sG rfl (sG rfl (sG rfl (sG rfl (sG ?_ (sG rfl (sG rfl (sG ?_ rfl))))))))))))
   .show yV (e.1,Bl w e) (aQ (aj (qX (S:=l_) ar (eH (e.1,kq w e) op) (Lf (j:Int) (bx ar (eH (e.1,kq w e) op)))))) (Mj (aj (qX (S:=l_) ar (eH (e.1,kq w e) op) (Lf (j:Int) (bx ar (eH (e.1,kq w e) op))))) (DO (e.1,kq w e) op))=_;rw[e1,hl];rfl
   .exact e2
  .unfold YP Js Cd FZ Ce;rw[av (Int.not_le.2 g),av (Int.not_le.2 g),aD z,aD z,aD z];rfl
 .have z:¬scQ w e op=J:=by unfold scQ;rw[L];simp
  refine bc (KC hev) (fO (λg=>ak ?_) λg=>ak ?_)
  .unfold YP Js Cd FZ Ce;rw[aD g,aD g,av z,av z,av z,h1.shf,h2.shf];rfl
  .unfold YP Js Cd FZ Ce;rw[av (Int.not_le.2 g),av (Int.not_le.2 g),av z,av z,av z]
section
def adm (c:η) (a:Int) (u:Nat):gI (c,a,(u:Int))=Z (decide (a<=c.getD u 0)):=by
 unfold gI;dsimp only;rw[Jm];rfl
def cvr (clk:η) (x:ν):Bool:=decide (x.1<=clk.getD x.2.toNat 0)
def al9 (clk:η) {x:ν} (h:0<=x.2):gI (clk,x)=Z (cvr clk x):=by
 let⟨a,b⟩:=x;have e:b=((b.toNat:Nat):Int):=by omega
 unfold cvr;rw[e,adm,bh]
def jc (c:Y η) (i:Int):η:=c.getD i.toNat []
def jt (tm:Y ν) (i:Int):ν:=tm.getD i.toNat (0,0)
abbrev WO.th (o:WO):Int:=o.1.1
abbrev WO.lk (o:WO):Int:=o.1.2.1
abbrev WO.bg (o:WO):Int:=o.1.2.2.1
abbrev WO.en (o:WO):Int:=o.1.2.2.2.1
abbrev WO.rd (o:WO):Bool:=o.1.2.2.2.2
def pU (P Q:WO):Bool:=decide (P.lk=Q.lk)&&(!decide (P.th=Q.th)&&(!(P.rd&&Q.rd)&&gC P.en Q.bg))
abbrev mbg (o:Int) (m:Y u!):Bool:=rh (K:=.int .i64) (V:=.bool) o m af
def XZ (P:WO) (e:ET):Bool:=mbg e.2.2.1 P.2.2||(decide (e.2.1=4)&&mbg e.2.2.1 P.2.1)
def BU (c:Y η) (ar:Y WO) (q:Int) (e:ET) (clk:η) (p:Int):η:=if pU (bx ar p) (bx ar q)=J/\XZ (bx ar p) e=J then jl clk (jc c (bx ar p).en) else clk
def vU (c:Y η) (tm:Y ν) (ar:Y WO) (q:Int) (s:η×Bool) (p:Int):η×Bool:=if pU (bx ar p) (bx ar q)=J/\cvr s.1 (jt tm (bx ar p).bg)=J/\cvr s.1 (jt tm (bx ar p).en)=af then (jl s.1 (jc c (bx ar p).en),J) else s
structure CkL (T j:Nat) (c:List η) (tm:List ν):Prop where
 cl:l! c=j
 tl:l! tm=j
 ln:∀i:Nat,i<j->l! (c.getD i [])=T
 th:∀i:Nat,i<j->0<=(tm.getD i (0,0)).2
def EnI (j:Nat) (ar:Y WO) (re:η):Prop:=∀p∈re,(0<=p/\p<(l! ar:Int))/\(0<=(bx ar p).bg/\(bx ar p).bg<(j:Int))/\(0<=(bx ar p).en/\(bx ar p).en<(j:Int))
def CkL.jc {c:Y η} {tm:Y ν} (h:CkL i j c tm) {T:Int} (h0:0<=T) (h1:T<(j:Int)):l! (AI.jc c T)=i:=h.ln _ (by omega)
def CkL.jt {c:Y η} {tm:Y ν} (h:CkL i j c tm) {T:Int} (h0:0<=T) (h1:T<(j:Int)):0<=(AI.jt tm T).2:=h.th _ (by omega)
def ahu {c:Y η} {tm:Y ν} (h:CkL i j c tm) {ar:Y WO} {e:ET} (z:l! A=i) {p:Int} (h0:0<=(bx ar p).en) (h1:(bx ar p).en<(j:Int)):l! (BU c ar a e A p)=i:=by
 unfold BU;split
 .rw[rk,z,h.jc h0 h1];exact Nat.max_self _
 .exact z
def aht {c:Y η} {tm:Y ν} (h:CkL i j c tm) {ar:Y WO} {s:η×Bool} (z:l! s.1=i) {p:Int} (h0:0<=(bx ar p).en) (h1:(bx ar p).en<(j:Int)):(vU c tm ar a s p).1.length=i:=by
 unfold vU;split
 .show (l! (jl s.1 _))=i;rw[rk,z,h.jc h0 h1];exact Nat.max_self _
 .exact z
variable {w:WT} {l:Y ET} {c:Y η} {tm:Y ν} {la sp wa wt st se:η} {op:Y e!} {re:η} {ar:Y WO} {si ei:Y η}
def aeg (hT:i<=4) (h:CkL i j c tm) (hp:(0<=a/\a<(l! ar:Int))/\(0<=(bx ar a).bg/\(bx ar a).bg<(j:Int))/\(0<=(bx ar a).en/\(bx ar a).en<(j:Int))) {e:ET} (hc:l! A=i):
 kc (a,(w,l),c,tm,la,sp,wa,wt,st,se,op,re,ar,si,ei,e,A)=Z ((w,l),c,tm,la,sp,wa,wt,st,se,op,re,ar,si,ei,e,if XZ (bx ar a) e=J then jl A (jc c (bx ar a).en) else A):=by
 refine cW ?_;let⟨⟨p0,z⟩,_,n0,D⟩:=hp;unfold kc hZ iR kl wW Pu Prod.u bf bw bH cE dJ gf iK ji Prod.E ck bn mK kK aH;refine aX (λx=>x=((a,XZ (bx ar a) e),(w,l),c,tm,la,sp,wa,wt,st,se,op,re,ar,si,ei,e,A)) ?_ ?_
 .refine aO p0 z (aO p0 z ?_);refine aP (λg=>ak ?_) λg=>?_
  .have g:mbg e.2.2.1 (bx ar a).2.2=J:=g;unfold XZ;rw[g];rfl
  have g:mbg e.2.2.1 (bx ar a).2.2=af:=g;refine aK (λclk=>aO p0 z (aO p0 z (ak ?_))) λclk=>ak ?_
  .unfold XZ;rw[g,aS (show e.2.1=4 from clk)];rfl
  .unfold XZ;rw[g,cK (show ¬e.2.1=4 from clk)];rfl
 .rintro x rfl;refine aP (λg=>?_) λg=>ak ?_
  .have L:=h.cl;refine aO p0 z (aT ?_);refine aO n0 (by grind) (aO n0 (by grind) (aT ?_));refine bc (L9 A (jc c (bx ar a).en) (by unfold xY;omega) (by rw[h.jc n0 D];unfold xY;omega)) (ak ?_);rw[aD g]
  .grind
def aef (hT:i<=4) (h:CkL i j c tm) (hp:(0<=a/\a<(l! ar:Int))/\(0<=(bx ar a).bg/\(bx ar a).bg<(j:Int))/\(0<=(bx ar a).en/\(bx ar a).en<(j:Int))) {clk:Bool} (hc:l! A=i):
 j_ (a,(w,l),c,tm,la,sp,wa,wt,st,se,op,re,ar,si,ei,A,clk)=Z ((w,l),c,tm,la,sp,wa,wt,st,se,op,re,ar,si,ei,if cvr A (jt tm (bx ar a).bg)=J/\cvr A (jt tm (bx ar a).en)=af then (jl A (jc c (bx ar a).en),J) else (A,clk)):=by
 refine cW ?_;let⟨⟨p0,z⟩,⟨b0,b1⟩,n0,D⟩:=hp;have L:=h.cl;have ht:=h.tl;unfold j_ hZ iR kl wW Pu Prod.u bf bw bH cE dJ gf iK ji mK kK aH;refine aX (λx=>x=((a,cvr A (jt tm (bx ar a).bg)&& !cvr A (jt tm (bx ar a).en)),(w,l),c,tm,la,sp,wa,wt,st,se,op,re,ar,si,ei,A,clk)) ?_ ?_
 .refine aO p0 z (aT (aO b0 (by grind) (aO b0 (by grind) (aT ?_))));refine bc (al9 A (h.jt b0 b1)) ?_;refine aP (λg=>?_) λg=>ak ?_
  .refine aO p0 z (aT (aO n0 (by grind) (aO n0 (by grind) (aT ?_))));refine bc (al9 A (h.jt n0 D)) (ak ?_);have g:cvr A (jt tm (bx ar a).bg)=J:=g;rw[g,cY];rfl
  .have g:cvr A (jt tm (bx ar a).bg)=af:=g
   grind
 .rintro x rfl;refine aP (λg=>?_) λg=>ak ?_
  .refine aO p0 z (aT ?_);refine aO n0 (by grind) (aO n0 (by grind) (aT ?_));refine bc (L9 A (jc c (bx ar a).en) (by unfold xY;omega) (by rw[h.jc n0 D];unfold xY;omega)) (ak ?_)
   grind
  .grind
def ajk {Q:R->Prop} {P S:WO} {q:Int} (p0:0<=a) (D:a<(i:Int)) (q0:0<=q) (A:q<(i:Int)) {k:Bool->M R} (z:Ok (k (pU P S)) Q):
 Ok (chk (dO a i) λ_=>lt P.lk λz4=>chk (dO q i) λ_=>lt S.lk λz5=>aI (decide (z4=z5)) (chk (dO a i) λ_=>lt P.th λz6=>chk (dO q i) λ_=>lt S.th λz7=>aI (!decide (z6=z7)) (chk (dO a i) λ_=>lt P.rd λz8=>aI z8 (chk (dO q i) λ_=>lt S.rd λz9=>aI (!z9) (chk (dO a i) λ_=>lt P.en λz10=>chk (dO q i) λ_=>lt S.bg λz11=>k (gC z10 z11)) (k af)) (chk (dO a i) λ_=>lt P.en λz12=>chk (dO q i) λ_=>lt S.bg λL=>k (gC z12 L))) (k af)) (k af)) Q:=by
 unfold pU at z;refine aO p0 D (aT (aO q0 A (aT ?_)));refine aK (λg1=>?_) λg1=>?_
 .rw[aS g1,cY]at z;refine aO p0 D (aT (aO q0 A (aT ?_)));refine cf (λg2=>?_) λg2=>?_
  .rw[cK g2,Bool.not_false,cY]at z;refine aO p0 D (aT ?_);refine aP (λg3=>?_) λg3=>?_
   .rw[g3,cY]at z;refine aO q0 A (aT ?_);refine dM (λg4=>?_) λg4=>?_
    .rw[g4,Bool.not_false,cY]at z;exact aO p0 D (aT (aO q0 A (aT z)))
    .grind
   .rw[g3,gO,Bool.not_false,cY]at z;exact aO p0 D (aT (aO q0 A (aT z)))
  .grind
 .grind
def yL (d:R) {xs:Y R} (h:i<l! xs):xs.take (i+1)=xs.take i++[xs.getD i d]:=by
 rw[List.take_add_one,aG h,aw,aG h];rfl
def IK (d:R) {xs:Y R} (h:i<l! xs):xs.getD i d∈xs:=by
 rw[aw,aG h];exact FB h
def W_ (hT:i<=4) (h:CkL i j c tm) (q0:0<=a) (D:a<(l! ar:Int)) (L:EnI j ar re) (hrl:l! re<=1000) {e:ET} (hc:l! A=i):
 kM (a,(w,l),c,tm,la,sp,wa,wt,st,se,op,re,ar,si,ei,e,A)=Z ((w,l),c,tm,la,sp,wa,wt,st,se,op,re,ar,si,ei,e,re.foldl (BU c ar a e) A):=by
 refine cW ?_;unfold kM sg hZ iR kl bf bw bH cE dJ gf iK ji ck bn bU jQ mK bR aZ c7 aH cV;refine gi (l! re) (by omega) (λT x=>x=((a,(T:Int)),(w,l),c,tm,la,sp,wa,wt,st,se,op,re,ar,si,ei,e,(re.take T).foldl (BU c ar a e) A)/\l! ((re.take T).foldl (BU c ar a e) A)=i) ?_ ?_ ⟨by simp,by simpa using hc⟩
 .rintro T x hi ⟨rfl,hcl⟩;refine dB ?_;have hpe:=L _ (IK 0 hi);have hiA:sJ re (T:Int)=re.getD T 0:=LV re T;generalize hp:re.getD T 0=p at*
  let⟨⟨p0,clk⟩,hb,z⟩:=hpe;refine aX (λx=>x=(a,(w,l),c,tm,la,sp,wa,wt,st,se,op,re,ar,si,ei,e,BU c ar a e ((re.take T).foldl (BU c ar a e) A) p)) ?_ ?_
  .refine aO (by simp) (by grind) (aO (by simp) (by grind) ?_);rw[hiA];refine aX (λx=>x=((a,p,pU (bx ar p) (bx ar a)),(w,l),c,tm,la,sp,wa,wt,st,se,op,re,ar,si,ei,e,(re.take T).foldl (BU c ar a e) A)) ?_ ?_
   .with_reducible exact ajk (P:=bx ar p) (S:=bx ar a) (k:=λb=>Z (b7 ((a,p,b),(w,l),c,tm,la,sp,wa,wt,st,se,op,re,ar,si,ei,e,(re.take T).foldl (BU c ar a e) A))) p0 clk q0 D (ak rfl)
   .rintro x rfl;refine aP (λg=>?_) λg=>ak ?_
    .refine bc (aeg hT h ⟨⟨p0,clk⟩,hb,z⟩ hcl) (bt (by simp) (ak ?_));unfold BU
     grind
    .unfold BU
     grind
  .rintro x rfl;refine ak ⟨?_,?_⟩
   .rw[yL 0 hi,dT,hp];rw[ig];rfl
   .rw[yL 0 hi,dT,hp];exact ahu h hcl z.1 z.2
 .rintro x ⟨rfl,_⟩;refine dw (ak ?_);rw[cQ]
def W9 (hT:i<=4) (h:CkL i j c tm) (q0:0<=a) (L:a<(l! ar:Int)) (hr:EnI j ar re) (hrl:l! re<=1000) (hc:l! A=i):
 kL (a,(w,l),c,tm,la,sp,wa,wt,st,se,op,re,ar,si,ei,A,b)=Z ((w,l),c,tm,la,sp,wa,wt,st,se,op,re,ar,si,ei,re.foldl (vU c tm ar a) (A,b)):=by
 refine cW ?_;unfold kL sd hZ iR kl bf bw bH cE dJ gf iK ji ck bn bU jQ mK bR aZ c7 aH cV;refine gi (l! re) (by omega) (λT x=>x=((a,(T:Int)),(w,l),c,tm,la,sp,wa,wt,st,se,op,re,ar,si,ei,(re.take T).foldl (vU c tm ar a) (A,b))/\((re.take T).foldl (vU c tm ar a) (A,b)).1.length=i) ?_ ?_ ⟨by simp,by simpa using hc⟩
 .rintro T x hi ⟨rfl,hcl⟩;refine dB ?_;have hpe:=hr _ (IK 0 hi);have hiA:sJ re (T:Int)=re.getD T 0:=LV re T;generalize hp:re.getD T 0=p at*
  let⟨⟨p0,D⟩,hb,clk⟩:=hpe;refine aX (λx=>x=(a,(w,l),c,tm,la,sp,wa,wt,st,se,op,re,ar,si,ei,vU c tm ar a ((re.take T).foldl (vU c tm ar a) (A,b)) p)) ?_ ?_
  .refine aO (by simp) (by grind) (aO (by simp) (by grind) ?_);rw[hiA];refine aX (λx=>x=((a,p,pU (bx ar p) (bx ar a)),(w,l),c,tm,la,sp,wa,wt,st,se,op,re,ar,si,ei,(re.take T).foldl (vU c tm ar a) (A,b))) ?_ ?_
   .with_reducible exact ajk (P:=bx ar p) (S:=bx ar a) (k:=λz=>Z (b7 ((a,p,z),(w,l),c,tm,la,sp,wa,wt,st,se,op,re,ar,si,ei,(re.take T).foldl (vU c tm ar a) (A,b)))) p0 D q0 L (ak rfl)
   .rintro x rfl;generalize (re.take T).foldl (vU c tm ar a) (A,b)=s at*
    refine aP (λg=>?_) λg=>ak ?_
    .refine bc (aef hT h ⟨⟨p0,D⟩,hb,clk⟩ hcl) (bt (by simp) (ak ?_));unfold vU
     grind
    .unfold vU
     grind
  .rintro x rfl;refine ak ⟨?_,?_⟩
   .rw[yL 0 hi,dT,hp];rw[ig];rfl
   .rw[yL 0 hi,dT,hp];exact aht h hcl clk.1 clk.2
 .rintro x ⟨rfl,_⟩;refine dw (ak ?_);rw[cQ]
end
def lec (a b:η):Prop:=∀u:Nat,a.getD u 0<=b.getD u 0
def lec.rfl :lec A A:=λ_=>dC _
def lec.trans {b c:η} (h:lec A b) (h':lec b c):lec A c:=λu=>xv (h u) (h' u)
def atu (a b:Int):a<=j6 a b:=by unfold j6;by_cases h:gC a b=J<;>simp only[h,bk]<;>first|(have:=r8.1 h;omega)|simp
def att (a b:Int):b<=j6 a b:=by
 unfold j6;by_cases h:gC a b=J
 .rw[aD h];exact dC _
 .have:=kg.1 (So.2 h);rw[av h];omega
def Tn (a b:Int):j6 a b=a\/j6 a b=b:=by
 unfold j6;by_cases h:gC a b=J
 .right;simp[h]
 .left;simp[h]
def AJ (a b:η):lec a (jl a b):=λu=>by rw[r7];exact atu _ _
def Ff (a b:η):lec b (jl a b):=λu=>by rw[r7];exact att _ _
def OD {b:η} (h:lec A b) {x:ν} (z:cvr A x=J):cvr b x=J:=by
 unfold cvr at z ⊢;rw[bG]at z ⊢;exact xv z (h _)
def T3 (ar:Y WO) (q:Int) (e:ET):Y WO:=if e.2.1=4 then qX (S:=l_) ar q (v7 (S:=l_) 1 (bx ar q) (uP (K:=.int .i64) (V:=.bool) e.2.2.1 J (sO (S:=l_) 1 (bx ar q)))) else qX (S:=l_) ar q (v7 (S:=l_) 0 (bx ar q) (uP (K:=.int .i64) (V:=.bool) e.2.2.1 J (sO (S:=l_) 0 (bx ar q))))
def Vc {ar:Y WO} {e:ET} (q0:0<=a) (z:a<(l! ar:Int)):j9 ((a,e),ar)=Z (T3 ar a e):=by
 refine cW ?_;unfold j9 T3 bf bw ck bn;refine aK (λg=>?_) λg=>?_
 .exact aO q0 z (aO q0 z (ak (by grind)))
 .exact aO q0 z (aO q0 z (ak (by grind)))
def Ab (e:ET):mV e=Z (decide (e.2.1=3\/e.2.1=4)):=by
 refine cW ?_;refine aX (λx=>x=decide (e.2.1=3\/e.2.1=4)) ?_ ?_
 .refine aK (λg=>ak ?_) λg=>ak ?_
  .grind
  .grind
 .rintro x rfl;exact ak rfl
def S5 {ar:Y WO} (o:WO) (i:Int) (h:a.toNat<l! ar):bx (qX (S:=l_) ar a o) i=if i.toNat=a.toNat then o else bx ar i:=by
 unfold bx qX dZ
 grind
structure Sam (ar ar':List WO):Prop where
 ln:l! ar'=l! ar
 hd:∀i:Int,(bx ar' i).1=(bx ar i).1
 eq:∀i:Int,(bx ar i).en≠ -1->bx ar' i=bx ar i
def Sam.rfl (ar:Y WO):Sam ar ar:=⟨Eq.refl _,λ_=>Eq.refl _,λ_ _=>Eq.refl _⟩
def al1 (ar:Y WO) (q:Int) (e:ET):l! (T3 ar q e)=l! ar:=by
 unfold T3 qX;split<;>exact dv ..
def W3 {ar:Y WO} (e:ET) (i:Int) (h:a.toNat<l! ar):bx (T3 ar a e) i=if i.toNat=a.toNat then (if e.2.1=4 then ((bx ar a).1,(bx ar a).2.1,uP (K:=.int .i64) (V:=.bool) e.2.2.1 J (bx ar a).2.2) else ((bx ar a).1,uP (K:=.int .i64) (V:=.bool) e.2.2.1 J (bx ar a).2.1,(bx ar a).2.2)) else bx ar i:=by
 unfold T3;by_cases g:e.2.1=4
 .rw[aD g,aD g,S5 _ _ h];rfl
 .rw[av g,av g,S5 _ _ h];rfl
def Sam.ent {ar ar':Y WO} (h:Sam ar ar') (e:ET) (D:a.toNat<l! ar) (L:(bx ar a).en= -1):Sam ar (T3 ar' a e):=by
 let⟨h1,h2,A⟩:=h;have hi:∀i:Int,i.toNat=a.toNat->bx ar i=bx ar a:=λi hi=>by unfold bx dZ;rw[hi]
 refine ⟨by rw[al1,h1],λi=>?_,λi z=>?_⟩
 .rw[W3 e i (by omega)]
  grind
 .rw[W3 e i (by omega),av]
  .exact A i z
  .grind
def Sam.mat {ar ar':Y WO} (h:Sam ar ar') (p q:Int):pU (bx ar' p) (bx ar' q)=pU (bx ar p) (bx ar q):=by
 unfold pU WO.lk WO.th WO.rd WO.en WO.bg;rw[h.hd p,h.hd q]
def Sam.EnI {ar ar':Y WO} (h:Sam ar ar') {re:η} (z:EnI j ar re):AI.EnI j ar' re:=λp hp=>by
 let⟨⟨a,b⟩,A,d,f⟩:=z p hp;have e:=h.eq p (by omega);rw[h.ln,e];exact⟨⟨a,b⟩,A,d,f⟩
def arm {I:η->Prop} {c:Y η} {ar:Y WO} {q:Int} {e:ET}:∀(L:η) (clk:η),I clk->(∀clk p,p∈L->pU (bx ar p) (bx ar q)=J->XZ (bx ar p) e=J->I clk->I (jl clk (jc c (bx ar p).en)))->
 I (L.foldl (BU c ar q e) clk)/\lec clk (L.foldl (BU c ar q e) clk)/\∀p∈L,pU (bx ar p) (bx ar q)=J->XZ (bx ar p) e=J->lec (jc c (bx ar p).en) (L.foldl (BU c ar q e) clk)
 |[],clk,h,_=>⟨h,lec.rfl,λp hp=>by cases hp⟩
 |p::L,clk,h,A=>by
  have h1:I (BU c ar q e clk p)/\lec clk (BU c ar q e clk p)/\(pU (bx ar p) (bx ar q)=J->XZ (bx ar p) e=J->lec (jc c (bx ar p).en) (BU c ar q e clk p)):=by
   unfold BU;by_cases g:pU (bx ar p) (bx ar q)=J/\XZ (bx ar p) e=J
   .rw[aD g];exact⟨A clk p (cX ..) g.1 g.2 h,AJ _ _,λ_ _=>Ff _ _⟩
   .rw[av g];exact⟨h,lec.rfl,λa b=>cu ⟨a,b⟩ g⟩
  let⟨a,b,d⟩:=arm L _ h1.1 λclk p hp=>A clk p (bS _ hp)
  refine ⟨a,h1.2.1.trans b,λD z m1 m2=>?_⟩;rcases aV.1 z with rfl|z
  .exact (h1.2.2 m1 m2).trans b
  .exact d D z m1 m2
def unc (tm:Y ν) (ar:Y WO) (re:η) (clk:η):Nat:=l! (re.filter λp=> !cvr clk (jt tm (bx ar p).en))
def ahx {tm:Y ν} {ar:Y WO} {re:η} {b:η} (h:lec A b):unc tm ar re b<=unc tm ar re A:=by
 unfold unc;induction re with
 |nil=>exact bK _
 |cons p r z=>
  simp[List.filter_cons];cases a:cvr A (jt tm (bx ar p).en) with
  |true=>rw[OD h a];exact z
  |false=>grind
def at3 {tm:Y ν} {ar:Y WO} {re:η} {b:η} (h:lec A b) {p:Int} (hp:p∈re) (h0:cvr A (jt tm (bx ar p).en)=af) (h1:cvr b (jt tm (bx ar p).en)=J):unc tm ar re b<unc tm ar re A:=by
 induction re with
 |nil=>cases hp
 |cons x r z=>
  have hle:=ahx (tm:=tm) (ar:=ar) (re:=r) h;unfold unc at z hle ⊢;simp[List.filter_cons];rcases aV.1 hp with rfl|hp
  .grind
  .have z:=z hp;cases a:cvr A (jt tm (bx ar x).en) with
   |true=>rw[OD h a];exact z
   |false=>grind
def aiv {I:η->Prop} {c:Y η} {tm:Y ν} {ar:Y WO} {q:Int} {re:η} (htm:∀p∈re,cvr (jc c (bx ar p).en) (jt tm (bx ar p).en)=J):∀(L:η) (s:η×Bool),(∀p∈L,p∈re)->I s.1->(∀clk p,p∈L->pU (bx ar p) (bx ar q)=J->cvr clk (jt tm (bx ar p).bg)=J->I clk->I (jl clk (jc c (bx ar p).en)))->
 I (L.foldl (vU c tm ar q) s).1/\lec s.1 (L.foldl (vU c tm ar q) s).1/\((L.foldl (vU c tm ar q) s).2=J->s.2=J\/unc tm ar re (L.foldl (vU c tm ar q) s).1<unc tm ar re s.1)/\
 ((L.foldl (vU c tm ar q) s).2=af->s.2=af/\(L.foldl (vU c tm ar q) s).1=s.1/\∀p∈L,pU (bx ar p) (bx ar q)=J->cvr s.1 (jt tm (bx ar p).bg)=J->cvr s.1 (jt tm (bx ar p).en)=J)
 |[],s,_,h,_=>⟨h,lec.rfl,λh=>.inl h,λh=>⟨h,rfl,λp hp=>by cases hp⟩⟩
 |p::L,s,hL,h,z=>by
  have hpr:=hL p (cX ..);by_cases g:pU (bx ar p) (bx ar q)=J/\cvr s.1 (jt tm (bx ar p).bg)=J/\cvr s.1 (jt tm (bx ar p).en)=af
  .have A:vU c tm ar q s p=(jl s.1 (jc c (bx ar p).en),J):=by unfold vU;rw[aD g]
   let⟨a,b,d,f⟩:=aiv htm L (jl s.1 (jc c (bx ar p).en),J) (λp hp=>hL p (bS _ hp)) (z s.1 p (cX ..) g.1 g.2.1 h) λclk p hp=>z clk p (bS _ hp)
   simp[Aq,A];have hlt:unc tm ar re (jl s.1 (jc c (bx ar p).en))<unc tm ar re s.1:=at3 (AJ _ _) hpr g.2.2 (OD (Ff _ _) (htm p hpr));refine ⟨a,(AJ _ _).trans b,λ_=>.inr (Nat.lt_of_le_of_lt (ahx b) hlt),λhf=>?_⟩
   grind
  .have A:vU c tm ar q s p=s:=by unfold vU;rw[av g]
   let⟨a,b,d,f⟩:=aiv htm L s (λp hp=>hL p (bS _ hp)) h λclk p hp=>z clk p (bS _ hp)
   grind
def UX (j:Int) (e:ET) (sp:η):l! (FL j e sp)=l! sp:=by unfold FL;split<;>simp only[bT]
def UW (j:Int) (e:ET) (wt wa:η):l! (FK j e wt wa)=l! wa:=by
 unfold FK;split
 .split<;>simp only[bT]
 .split<;>simp only[S9]
def ae3 (k j:Int) (e:ET) (st:η) (si:Y η):l! (QQ k j e st si)=l! st:=by unfold QQ;split<;>simp only[dv]
def HJ (e:ET) (op:Y e!) (ar:Y WO):Nat->Y WO
 |0=>ar
 |n+1=>if sL (e.1,(n:Int)) op=J then T3 (HJ e op ar n) (eH (e.1,(n:Int)) op) e else HJ e op ar n
def aly {e:ET} {op:Y e!} {ar:Y WO} (h:sL (e.1,(i:Int)) op=J):HJ e op ar (i+1)=T3 (HJ e op ar i) (eH (e.1,(i:Int)) op) e:=aD h
def aq4 {e:ET} {op:Y e!} {ar:Y WO} (h:¬sL (e.1,(i:Int)) op=J):HJ e op ar (i+1)=HJ e op ar i:=av h
def uB (w:WT) (e:ET) (op:Y e!) (ar:Y WO):Y WO:=if e.2.1=3\/e.2.1=4 then HJ e op ar (l! w.2.1+1) else ar
def O_ {e:ET} {op:Y e!} {ar:Y WO} (h1:OpI (l! ar) op) (A:∀x∈op,(bx ar x.2).en= -1):∀n,Sam ar (HJ e op ar n)
 |0=>Sam.rfl ar
 |n+1=>by
  have z:=O_ (e:=e) h1 A n;unfold HJ;split
  next D=>have hm:=mg _ D;have:=h1 _ hm;exact z.ent e (by omega) (A _ hm)
  .exact z
def Pa {w:WT} {e:ET} {op:Y e!} {ar:Y WO} (h1:OpI (l! ar) op) (z:∀x∈op,(bx ar x.2).en= -1):Sam ar (uB w e op ar):=by
 unfold uB;split
 .exact O_ h1 z _
 .exact Sam.rfl ar
structure JI (w:WT) (c:List η) (tm:List ν) (src:η) (op:List (ν×Int)) (re:η) (ar:List WO) (e:ET) (I:η->Prop):Prop where
 i0:I (aC (l! w.2.2.2.2.1) 0)
 i1:∀clk i,i∈src->0<=i->I clk->I (jl clk (jc c i))
 i2:∀clk (lk:Int) p,(e.2.1=3\/e.2.1=4)->0<=lk->lk<=(l! w.2.1:Int)->sL (e.1,lk) op=J->p∈re->pU (bx ar p) (bx ar (eH (e.1,lk) op))=J->XZ (bx ar p) e=J->I clk->I (jl clk (jc c (bx ar p).en))
 i3:∀clk p,sL (e.1,kq w e) op=J->p∈re->pU (bx ar p) (bx ar (eH (e.1,kq w e) op))=J->cvr clk (jt tm (bx ar p).bg)=J->I clk->I (jl clk (jc c (bx ar p).en))
 it:∀clk,I clk->l! clk=l! w.2.2.2.2.1/\0<=clk.getD e.1.toNat 0/\clk.getD e.1.toNat 0<1000000000
structure JR (w:WT) (c:List η) (tm:List ν) (src:η) (op:List (ν×Int)) (re:η) (ar:List WO) (e:ET) (clk:η):Prop where
 a:∀i∈src,0<=i->lec (jc c i) clk
 b:(e.2.1=3\/e.2.1=4)->∀lk:Int,0<=lk->lk<=(l! w.2.1:Int)->sL (e.1,lk) op=J->∀p∈re,pU (bx ar p) (bx ar (eH (e.1,lk) op))=J->XZ (bx ar p) e=J->lec (jc c (bx ar p).en) clk
 c:sL (e.1,kq w e) op=J->∀p∈re,pU (bx ar p) (bx ar (eH (e.1,kq w e) op))=J->cvr clk (jt tm (bx ar p).bg)=J->cvr clk (jt tm (bx ar p).en)=J
set_option maxRecDepth 10000 in
def anh {w:WT} {l:Y ET} {e:ET} (hev:PH w e) {j:Nat} (hj:j<=400) (hT:l! w.2.2.2.2.1<=4) (hL:l! w.2.1<=4) (hv:e.2.1=18->e.2.2.2.1<l! w.2.2.2.2.1) {c:Y η} {tm:Y ν} {la sp wa wt st se:η} {op:Y e!} {re:η} {ar:Y WO} {si ei:Y η}
 (h1:Fw (l! w.2.2.2.2.1) j la) (h2:Fw (l! w.2.2.2.2.1) j sp) (h3:Fw (l! w.2.2.2.2.1) j wa) (hwt:l! wt=l! w.2.2.2.2.1) (h4:PF (l! w.1) j st si) (h5:PF (l! w.2.2.2.1) j se ei)
 (hc:CkL (l! w.2.2.2.2.1) j c tm) (ho:OpI (l! ar) op) (hoo:∀x∈op,(bx ar x.2).en= -1) (hr:EnI j ar re) (hrl:l! re<=400) (htm:∀p∈re,cvr (jc c (bx ar p).en) (jt tm (bx ar p).en)=J)
 {I:η->Prop} (hI:JI w c tm (vW w la sp wa si ei e) op re ar e I):
 Ok (gB (((j:Int),e),(w,l),c,tm,la,sp,wa,wt,st,se,op,re,ar,si,ei)) λy=>∃clk,(I clk/\JR w c tm (vW w la sp wa si ei e) op re ar e clk)/\y=((w,l),ch la e.1 (j:Int),FL (j:Int) e sp,FK (j:Int) e wt wa,KK e wt,QQ 4 (j:Int) e st si,QQ 22 (j:Int) e se ei,YP w e op (uB w e op ar),c++[tk clk e.1.toNat],tm++[((tk clk e.1.toNat).getD e.1.toNat 0,e.1)],Cd w e op re,Js w (j:Int) e op (uB w e op ar),PD 4 (j:Int) e si,PD 22 (j:Int) e ei):=by
 have t0:=hev.t0;have t1:=hev.t1;have hsl:l! (vW w la sp wa si ei e)<=401:=by
  have q:∀{n:Nat} {xs:η} {xss:Y η} {o:Int},PF n j xs xss->0<=o->o<n->l! (ry (T:=aM) xss o)<=400:=λ{n xs xss o} h o0 o1=>by
   have e:o=((o.toNat:Nat):Int):=by omega
   obtain⟨a,b,cc⟩:=h.2.2 o.toNat (by omega);rw[e,xA];omega
  unfold vW;rw[bz,cq];split
  .simp
  .split
   .simp
   .split
    .rename_i g;have:=q h5 (hev.nm.fu (.inr g)).1 (hev.nm.fu (.inr g)).2;omega
    .split
     .rename_i g;split
      .have:=q h4 (hev.nm.ce (.inl g)).1 (hev.nm.ce (.inl g)).2;omega
      .simp
     .split<;>simp
 have hsv:∀v∈vW w la sp wa si ei e,v<(j:Int):=by
  have q:∀{n:Nat} {xs:η} {xss:Y η} {o:Int},PF n j xs xss->0<=o->o<n->∀v∈ry (T:=aM) xss o,v<(j:Int):=λ{n xs xss o} h o0 o1 v hv=>by
   have e:o=((o.toNat:Nat):Int):=by omega
   rw[e,xA]at hv;exact ((h.2.2 o.toNat (by omega)).2.2 v hv).2
  intro v hv;unfold vW at hv;rcases bO.1 hv with hv|hv
  .rw[aE]at hv;rw[hv];exact (h1.geti t0 t1).2
  .split at hv
   .rw[aE]at hv;rw[hv];exact (h2.geti t0 t1).2
   .split at hv
    .rename_i g;rw[aE]at hv;rw[hv];exact (h1.geti (hev.nm.th (.inr g)).1 (hev.nm.th (.inr g)).2).2
    .split at hv
     .rename_i g;exact q h5 (hev.nm.fu (.inr g)).1 (hev.nm.fu (.inr g)).2 v hv
     .split at hv
      .rename_i g;split at hv
       .exact q h4 (hev.nm.ce (.inl g)).1 (hev.nm.ce (.inl g)).2 v hv
       .cases hv
      .split at hv
       .rw[aE]at hv;rw[hv];exact (h3.geti t0 t1).2
       .cases hv
 generalize hsrc:vW w la sp wa si ei e=src at*
 have hcl:=hc.cl;unfold gB oc hZ iR kl wW Pu Prod.u Prod.C bf bw bH cE dJ gf iK ji HX Prod.z Prod.B Prod.t Prod.H Prod.E Prod.F bU kY bR bY kK aZ c7 aH cV;dsimp only;refine cR (cR (dm (by dsimp only[ay];omega) (a? (bN (by simp only[ay,bh];omega) (by omega) ?_))));refine bc (YM hev (by omega) h1 h2 h3 h4 h5) ?_;rw[hsrc];dsimp only;refine bt (by simp only[fU,fx]) ?_;refine gi (l! src) (by omega) (λi x=>∃clk,x=((i:Int),(w,l),c,tm,la,sp,wa,wt,st,se,op,re,ar,si,ei,e,clk)/\I clk/\∀v∈src.take i,0<=v->lec (jc c v) clk) ?_ ?_ ⟨aC (l! w.2.2.2.2.1) 0,by simp only[ay,bh];rfl,hI.i0,λv hv=>by simp at hv⟩
 .rintro i x hi ⟨clk,rfl,hk,hs⟩;refine dB ?_;have hvm:=IK 0 hi;have hgv:geti aM src (i:Int)=src.getD i 0:=Fm src i;have hlt:=hsv _ hvm;have htk:=yL 0 hi;generalize src.getD i 0=v at*
  refine aX (λx=>∃clk',x=((w,l),c,tm,la,sp,wa,wt,st,se,op,re,ar,si,ei,e,clk')/\I clk'/\∀v∈src.take (i+1),0<=v->lec (jc c v) clk') ?_ ?_
  .refine cH (aT ?_);dsimp only;have hgv':geti aM src (i:Int)=v:=hgv;rw[hgv'];refine fO (λv0=>?_) λv0=>?_
   .refine aO v0 (by omega) (aO v0 (by omega) (aT ?_));refine bc (L9 clk (jc c v) (by have:=(hI.it clk hk).1;unfold xY;omega) (by rw[hc.jc v0 hlt];unfold xY;omega)) (ak ⟨_,rfl,hI.i1 clk v hvm v0 hk,λu hu u0=>?_⟩);rw[htk]at hu;rcases bO.1 hu with hu|hu
    .exact (hs u hu u0).trans (AJ _ _)
    .rw[aE]at hu;rw[hu];exact Ff _ _
   .refine ak ⟨clk,rfl,hk,λu hu u0=>?_⟩;rw[htk]at hu;rcases bO.1 hu with hu|hu
    .exact hs u hu u0
    .rw[aE]at hu;omega
  .rintro x ⟨clk',rfl,hk',hs'⟩;refine ak ⟨clk',?_,hk',hs'⟩;show (bl .i64 ((i:Int)+1),_)=_;rw[ig]
 rintro x ⟨clk,rfl,hk,hs⟩;rw[cQ]at hs;refine dw ?_;refine aA (P:=λy=>∃clk,(I clk/\JR w c tm src op re ar e clk)/\y=((w,l),ch la e.1 (j:Int),FL (j:Int) e sp,FK (j:Int) e wt wa,KK e wt,QQ 4 (j:Int) e st si,QQ 22 (j:Int) e se ei,YP w e op (uB w e op ar),c++[tk clk e.1.toNat],tm++[((tk clk e.1.toNat).getD e.1.toNat 0,e.1)],Cd w e op re,Js w (j:Int) e op (uB w e op ar),PD 4 (j:Int) e si,PD 22 (j:Int) e ei)) ?_ λy hy=>ak hy
 have sam:=Pa (w:=w) (e:=e) ho hoo;have hrl':l! re<=1000:=by omega
 refine aX (λx=>∃clk,x=((w,l),c,tm,la,sp,wa,wt,st,se,op,re,uB w e op ar,si,ei,e,clk)/\I clk/\(∀v∈src,0<=v->lec (jc c v) clk)/\((e.2.1=3\/e.2.1=4)->∀lk:Int,0<=lk->lk<=(l! w.2.1:Int)->sL (e.1,lk) op=J->∀p∈re,pU (bx ar p) (bx ar (eH (e.1,lk) op))=J->XZ (bx ar p) e=J->lec (jc c (bx ar p).en) clk)) ?_ ?_
 .dsimp only;refine bc (Ab e) ?_;refine aK (λhacc=>?_) λhacc=>?_
  .refine gi (l! w.2.1+1) (by omega) (λi x=>∃clk,x=((i:Int),(w,l),c,tm,la,sp,wa,wt,st,se,op,re,HJ e op ar i,si,ei,e,clk)/\I clk/\(∀v∈src,0<=v->lec (jc c v) clk)/\∀lk:Int,0<=lk->lk<(i:Int)->sL (e.1,lk) op=J->∀p∈re,pU (bx ar p) (bx ar (eH (e.1,lk) op))=J->XZ (bx ar p) e=J->lec (jc c (bx ar p).en) clk) ?_ ?_ ⟨clk,rfl,hk,hs,λlk h0 h1=>by omega⟩
   .rintro i x hi ⟨clk,rfl,hk,hs,hb⟩;have hwr:bl .i64 (aQ (l! w.2.1)+1)=((l! w.2.1+1:Nat):Int):=ig;refine dB ?_ (by dsimp only;rw[hwr];omega);have si_:=O_ (e:=e) ho hoo i;refine aX (λx=>∃clk',x=((w,l),c,tm,la,sp,wa,wt,st,se,op,re,HJ e op ar (i+1),si,ei,e,clk')/\I clk'/\(∀v∈src,0<=v->lec (jc c v) clk')/\∀lk:Int,0<=lk->lk<((i+1:Nat):Int)->sL (e.1,lk) op=J->∀p∈re,pU (bx ar p) (bx ar (eH (e.1,lk) op))=J->XZ (bx ar p) e=J->lec (jc c (bx ar p).en) clk') ?_ ?_
    .dsimp only;refine aP (λhq=>?_) λhq=>?_
     .have hm:=mg _ hq;have hqr:=ho _ hm;dsimp only at hqr;have q0:=hqr.1;have q1:eH (e.1,(i:Int)) op<(l! (HJ e op ar i):Int):=by rw[si_.ln];exact hqr.2
      refine bc (W_ hT hc q0 q1 (si_.EnI hr) hrl' (hI.it clk hk).1) (bt (by simp only[fU,fx]) ?_);refine bc (Vc q0 q1) (ak ?_);have pe:∀p∈re,bx (HJ e op ar i) p=bx ar p:=λp hp=>si_.eq p (by have:=(hr p hp).2.2;omega)
      obtain⟨r1,r2,r3⟩:=arm (I:=I) (c:=c) (ar:=HJ e op ar i) (q:=eH (e.1,(i:Int)) op) (e:=e) re clk hk (λclk p hp m1 m2 hk=>by
       rw[si_.mat]at m1;rw[pe p hp]at m2 ⊢;exact hI.i2 clk (i:Int) p hacc (by omega) (by omega) hq hp m1 m2 hk)
      refine ⟨_,by rw[aly hq],r1,λv hv v0=>(hs v hv v0).trans r2,λlk l0 l1 ho' p hp m1 m2=>?_⟩;by_cases hlk:lk=(i:Int)
      .subst hlk;have:=r3 p hp (by rw[si_.mat];exact m1) (by rw[pe p hp];exact m2);rw[pe p hp]at this;exact this
      .exact (hb lk l0 (by omega) ho' p hp m1 m2).trans r2
     .refine ak ⟨clk,by rw[aq4 (by rw[hq];simp)],hk,hs,λlk l0 l1 ho' p hp m1 m2=>?_⟩;by_cases hlk:lk=(i:Int)
      .subst hlk;have hq:sL (e.1,(i:Int)) op=af:=hq;rw[hq]at ho';cases ho'
      .exact hb lk l0 (by omega) ho' p hp m1 m2
    .rintro x ⟨clk',rfl,a,b,d⟩;refine ak ⟨clk',?_,a,b,d⟩;show (bl .i64 ((i:Int)+1),_)=_;rw[ig]
   .rintro x ⟨clk,rfl,a,b,d⟩;have hwr:bl .i64 (aQ (l! w.2.1)+1)=((l! w.2.1+1:Nat):Int):=ig;refine dw (ak ⟨clk,by unfold uB;rw[aD hacc],a,b,λ_ lk l0 l1=>d lk l0 (by omega)⟩) (by dsimp only;rw[hwr];omega)
  .exact ak ⟨clk,by unfold uB;rw[av hacc],hk,hs,λh=>cu h hacc⟩
 rintro x ⟨clk,rfl,hk,hs,hb⟩;dsimp only;refine aX (λx=>∃clk,x=((w,l),c,tm,la,sp,wa,wt,st,se,op,re,uB w e op ar,si,ei,e,clk)/\I clk/\JR w c tm src op re ar e clk) ?_ ?_
 .refine bc (Jw hev) ?_;refine aP (λhq=>?_) λhq=>?_
  .have hm:=mg _ hq;have hqr:=ho _ hm;dsimp only at hqr;have q0:=hqr.1;have q1:eH (e.1,kq w e) op<(l! (uB w e op ar):Int):=by rw[sam.ln];exact hqr.2
   have pe:∀p∈re,bx (uB w e op ar) p=bx ar p:=λp hp=>sam.eq p (by have:=(hr p hp).2.2;omega)
   have uncL:∀clk,unc tm (uB w e op ar) re clk<=l! re:=λclk=>by unfold unc;exact EL ..
   refine aj3 1000 (λx=>2*unc tm (uB w e op ar) re x.2.2.2.2.2.2.2.2.2.2.2.2.2.2.2.2.1+if x.2.2.2.2.2.2.2.2.2.2.2.2.2.2.2.2.2=J then 1 else 0) (λx=>∃clk ag,x=(eH (e.1,kq w e) op,(w,l),c,tm,la,sp,wa,wt,st,se,op,re,uB w e op ar,si,ei,e,clk,ag)/\I clk/\(∀v∈src,0<=v->lec (jc c v) clk)/\((e.2.1=3\/e.2.1=4)->∀lk:Int,0<=lk->lk<=(l! w.2.1:Int)->sL (e.1,lk) op=J->∀p∈re,pU (bx ar p) (bx ar (eH (e.1,lk) op))=J->XZ (bx ar p) e=J->lec (jc c (bx ar p).en) clk)/\(ag=af->∀p∈re,pU (bx ar p) (bx ar (eH (e.1,kq w e) op))=J->cvr clk (jt tm (bx ar p).bg)=J->cvr clk (jt tm (bx ar p).en)=J)) ?_ ?_ ⟨clk,J,rfl,hk,hs,hb,nofun⟩
   .rintro x ⟨clk,ag,rfl,hk,hs,hb,hd⟩;dsimp only;refine aP (λhag=>?_) λhag=>?_
    .refine bc (W9 hT hc q0 q1 (sam.EnI hr) hrl' (hI.it clk hk).1) (bt (by simp only[fU,fx]) (ak ?_));obtain⟨r1,r2,r3,r4⟩:=aiv (I:=I) (c:=c) (tm:=tm) (ar:=uB w e op ar) (q:=eH (e.1,kq w e) op) (re:=re) (λp hp=>by rw[pe p hp];exact htm p hp) re (clk,af) (λp hp=>hp) hk (λclk p hp m1 m2 hk=>by
      rw[sam.mat]at m1;rw[pe p hp]at m2 ⊢;exact hI.i3 clk p hq hp m1 m2 hk)
     generalize List.foldl (vU c tm (uB w e op ar) (eH (e.1,kq w e) op)) (clk,af) re=s at*
     obtain⟨sc,sa⟩:=s;dsimp only at r1 r2 r3 r4;refine ⟨⟨sc,sa,rfl,r1,λv hv v0=>(hs v hv v0).trans r2,λh lk l0 l1 ho' p hp m1 m2=>(hb h lk l0 l1 ho' p hp m1 m2).trans r2,λh p hp m1 m2=>?_⟩,?_⟩
     .obtain⟨_,f2,f3⟩:=r4 h;rw[f2]at m2 ⊢;have:=f3 p hp (by rw[sam.mat];exact m1) (by rw[pe p hp];exact m2);rw[pe p hp]at this;exact this
     .grind
    .have hag:ag=af:=hag;exact ak ⟨clk,rfl,hk,hs,hb,λ_=>hd hag⟩
   .dsimp only;have:=uncL clk;rw[aD rfl];omega
  .refine ak ⟨clk,rfl,hk,hs,hb,λh=>?_⟩;have hq:sL (e.1,kq w e) op=af:=hq;rw[hq]at h;cases h
 rintro x ⟨clk,rfl,hk,hj'⟩;dsimp only;obtain⟨k1,k2,k3⟩:=hI.it clk hk;have et:e.1=((e.1.toNat:Nat):Int):=by omega
 have htick:ri (clk,e.1)=Z (tk clk e.1.toNat):=by
  rw[et,bh];exact ae5 clk e.1.toNat (by unfold xY;omega) (by omega) k2 (by omega)
 refine bc htick ?_;have htl:=hc.tl;have hlt:l! (tk clk e.1.toNat)=l! w.2.2.2.2.1:=by rw[Dg,k1];omega
 refine bN (by rw[cq];omega) (by omega) (aO t0 (by rw[hlt];exact t1) (aT (bN (by rw[cq];omega) (by omega) ?_)));have hgt:geti aM (tk clk e.1.toNat) e.1=(tk clk e.1.toNat).getD e.1.toNat 0:=by
  rw[et,Fm,bh]
 have hgt':geti aM (tk clk e.1.toNat) e.1=(tk clk e.1.toNat).getD e.1.toNat 0:=hgt;rw[hgt'];refine bc (Vb hev (by rw[sam.ln];exact ho) (λv hv=>by rw[sam.ln];exact (hr v hv).1) hrl') ?_;dsimp only;refine bt (by simp only[fU,fx]) ?_;refine bc (akx hev (by omega) hT hv h1 h2 h3 hwt h4 h5) ?_;dsimp only;refine bt (by simp only[bT,UX,UW,Mc,ae3,fU,fx]) (ak ⟨clk,⟨hk,hj'⟩,rfl⟩)
def VO {ar:Y WO} :bx ar a=bx ar (a.toNat:Int):=by unfold bx dZ;rw[bh]
def LO {ar:Y WO} (o:WO) (h:a.toNat<l! ar):bx (ar++[o]) a=bx ar a:=by
 unfold bx dZ;rw[aw,aw,bL h]
def ach (ar:Y WO) (o:WO):bx (ar++[o]) (l! ar:Int)=o:=by
 unfold bx dZ;rw[bh,aw,n_];rfl
def Ai (op:Y e!):Prop:=(op.map (·.1)).Nodup
def aci (k:ν) {x:e!}:∀{op:Y e!},Ai op->x∈DO k op->x.1≠k
 |[],_,h=>by cases h
 |e::r,A,h=>by
  unfold Ai at A;rw[b9,uG]at A;simp[DO]at h;cases z:P9 k e.1 with
  |true=>
   rw[z]at h;intro he;exact A.1 (by rw[<- Cm.1 z,<-he];exact List.mem_map_of_mem h)
  |false=>
   rw[z]at h;rcases aV.1 h with h|h
   .rw[h];intro he;rw[Cm.2 he.symm]at z;cases z
   .exact aci k A.2 h
def Ai.del (k:ν):∀{op:Y e!},Ai op->Ai (DO k op)
 |[],h=>h
 |e::r,z=>by
  unfold Ai at z ⊢;rw[b9,uG]at z;simp[DO];cases D:P9 k e.1 with
  |true=>exact z.2
  |false=>
   rw[b9,uG];refine ⟨λh=>z.1 ?_,Ai.del k z.2⟩;let⟨x,A,hxe⟩:=cz.1 h;rw[<- hxe];exact List.mem_map_of_mem (Gi k A)
def MG {k:ν} {x:e!}:∀{op:Y e!},Ai op->x∈yV k a op->x=(k,a)\/(x∈op/\x.1≠k)
 |[],_,h=>.inl (aE.1 h)
 |e::r,A,h=>by
  unfold Ai at A;rw[b9,uG]at A;simp[yV]at h;cases z:P9 k e.1 with
  |true=>
   rw[z]at h;rcases aV.1 h with h|h
   .exact .inl h
   .refine .inr ⟨bS _ h,λhe=>A.1 ?_⟩;rw[<- Cm.1 z,<-he];exact List.mem_map_of_mem h
  |false=>
   rw[z]at h;rcases aV.1 h with h|h
   .rw[h];exact .inr ⟨cX ..,λhe=>by rw[Cm.2 he.symm]at z;cases z⟩
   .rcases MG A.2 h with h|h
    .exact .inl h
    .grind
def Rm {k:ν} {y:ν}:∀{op:Y e!},y∈(yV k a op).map (·.1)->y=k\/y∈op.map (·.1)
 |[],h=>.inl (by simpa[yV] using h)
 |e::r,h=>by
  simp only[yV]at h;cases z:P9 k e.1 with
  |true=>grind
  |false=>
   rw[z]at h;rcases aV.1 h with h|h
   .grind
   .rcases Rm h with h|h
    .exact .inl h
    .grind
def Ai.put (k:ν) (v:Int):∀{op:Y e!},Ai op->Ai (yV k v op)
 |[],_=>by simp[Ai,yV]
 |e::r,z=>by
  unfold Ai at z ⊢;rw[b9,uG]at z;simp[yV];cases A:P9 k e.1 with
  |true=>
   show (k::r.map (·.1)).Nodup;rw[Cm.1 A,uG];exact z
  |false=>
   show (e.1::(yV k v r).map (·.1)).Nodup;rw[uG];refine ⟨λh=>?_,Ai.put k v z.2⟩;rcases Rm h with h|h
   .rw[Cm.2 h.symm]at A;cases A
   .exact z.1 h
structure WS (j:Nat) (op:List (ν×Int)) (re:η) (ar:List WO):Prop where
 ks:Ai op
 o:∀x∈op,(0<=x.2/\x.2<(l! ar:Int))/\(bx ar x.2).th=x.1.1/\(bx ar x.2).lk=x.1.2/\(bx ar x.2).en= -1/\0<=x.1.2
 a:∀k:Nat,k<l! ar->(0<=(bx ar k).bg/\(bx ar k).bg<(j:Int))/\((bx ar k).en= -1\/((bx ar k).bg<(bx ar k).en/\(bx ar k).en<(j:Int)))
 r:∀p∈re,(0<=p/\p<(l! ar:Int))/\(bx ar p).en≠ -1
 rl:l! re<=j
def WS.op {op:Y e!} {re:η} {ar:Y WO} (h:WS j op re ar):OpI (l! ar) op:=λx z=>(h.o x z).1
def WS.oo {op:Y e!} {re:η} {ar:Y WO} (h:WS j op re ar):∀x∈op,(bx ar x.2).en= -1:=λx z=>(h.o x z).2.2.2.1
def WS.en {op:Y e!} {re:η} {ar:Y WO} (h:WS j op re ar):EnI j ar re:=λp hp=>by
 let⟨⟨p0,z⟩,p2⟩:=h.r p hp;let⟨D,A⟩:=h.a p.toNat (by omega)
 grind
def WS.sam {op:Y e!} {re:η} {ar ar':Y WO} (h:WS j op re ar) (s:Sam ar ar'):WS j op re ar':=by
 let⟨h1,h2,h3,L,D⟩:=h;have e:∀i:Int,(bx ar' i).1=(bx ar i).1:=s.hd;refine ⟨h1,λx z=>?_,λk A=>?_,λp hp=>?_,D⟩
 .have:=h2 x z;unfold WO.th WO.lk WO.en at this ⊢;rw[e,s.ln];exact this
 .have:=h3 k (by rw[<- s.ln];exact A)
  grind
 .have:=L p hp;unfold WO.en at this ⊢;rw[e,s.ln];exact this
def yR {w:WT} {e:ET} {op:Y e!} {ar:Y WO} (hi:OpI (l! ar) op) (i:Int):bx (Ce w a e op ar) i=if scQ w e op=J/\i.toNat=(eH (e.1,kq w e) op).toNat then Lf a (bx ar (eH (e.1,kq w e) op)) else bx ar i:=by
 unfold Ce;by_cases z:scQ w e op=J
 .rw[aD z];have:=hi _ (mg _ z);rw[S5 _ _ (by omega)]
  grind
 .grind
def yQ {w:WT} {e:ET} {op:Y e!} (z:Ai op) {x:e!} (h:x∈FZ w e op):x∈op/\(scQ w e op=J->x.1≠(e.1,kq w e)):=by
 unfold FZ at h;split at h
 .exact⟨Gi _ h,λ_=>aci _ z h⟩
 .grind
def Rc {w:WT} {e:ET} {op:Y e!} (z:Ai op):Ai (FZ w e op):=by
 unfold FZ;split
 .exact z.del _
 .exact z
def abt {w:WT} {e:ET} {op:Y e!} {re:η} {ar:Y WO} (h:WS j op re ar) {x:e!} (A:x∈FZ w e op) (z:Int):bx (Ce w z e op ar) x.2=bx ar x.2:=by
 let⟨h1,h2⟩:=yQ h.ks A;rw[yR h.op,av];rintro⟨D,L⟩;have hm:=mg _ D;have a1:=h.o _ h1;have a2:=h.o _ hm
 grind
def WS.next {w:WT} {e:ET} {op:Y e!} {re:η} {ar:Y WO} (h:WS j op re ar):WS (j+1) (YP w e op ar) (Cd w e op re) (Js w (j:Int) e op ar):=by
 have z:=Ml w (j:Int) e op ar;have m1:WS (j+1) (FZ w e op) (Cd w e op re) (Ce w (j:Int) e op ar):=by
  refine ⟨Rc h.ks,λx A=>?_,λk hk=>?_,λp hp=>?_,?_⟩
  .rw[abt h A,z];exact h.o x (yQ h.ks A).1
  .rw[z]at hk;rw[yR h.op];split
   .rename_i hz;have hm:=h.o _ (mg _ hz.1);dsimp only at hm;have ha:=h.a (eH (e.1,kq w e) op).toNat (by omega);unfold Lf
    grind
   .have ha:=h.a k hk;omega
  .unfold Cd at hp;have old:p∈re->(0<=p/\p<(l! (Ce w (j:Int) e op ar):Int))/\(bx (Ce w (j:Int) e op ar) p).en≠ -1:=λhp=>by
    let⟨L,D⟩:=h.r p hp;rw[z];refine ⟨L,?_⟩;rw[yR h.op];split
    .unfold Lf;dsimp only[WO.en];omega
    .exact D
   split at hp
   .rename_i hq;rcases bO.1 hp with hp|hp
    .exact old hp
    .rw[aE]at hp;subst hp;have hm:=h.o _ (mg _ hq);rw[z];refine ⟨hm.1,?_⟩;rw[yR h.op,aD ⟨hq,rfl⟩];unfold Lf;dsimp only[WO.en];omega
   .exact old hp
  .unfold Cd;have:=h.rl
   grind
 unfold YP Js;by_cases g:0<=Bl w e
 .rw[aD g,aD g];generalize hn:((e.1,Bl w e,(j:Int),-1,decide (e.2.1=8)),([],[]))=new;have hlen:(l! (Ce w (j:Int) e op ar++[new]:Y WO):Int)=(l! ar:Int)+1:=by grind
  have hat:bx (Ce w (j:Int) e op ar++[new]) (l! ar:Int)=new:=by rw[<- z];exact ach _ _
  refine ⟨m1.ks.put _ _,λx A=>?_,λk hk=>?_,λp hp=>?_,m1.rl⟩
  .rcases MG m1.ks A with rfl|⟨A,_⟩
   .grind
   .obtain⟨⟨q0,L⟩,D⟩:=m1.o x A;rw[z]at L;rw[LO _ (by omega),hlen];exact⟨⟨q0,by omega⟩,D⟩
  .rw[bz,cq,z]at hk;by_cases hz:k=l! ar
   .grind
   .rw[LO _ (by omega)];exact m1.a k (by omega)
  .obtain⟨⟨q0,L⟩,D⟩:=m1.r p hp;rw[z]at L;rw[LO _ (by omega),hlen];exact⟨⟨q0,by omega⟩,D⟩
 .grind
structure JCw (w:WT) (l:List ET) (j:Nat) (c:List η) (clk:η):Prop where
 ln:l! clk=l! w.2.2.2.2.1
 b:∀u:Nat,0<=clk.getD u 0/\clk.getD u 0<=(ct l u j:Int)
 cl:∀i:Nat,i<j->(c.getD i []).getD (mJ l i) 0<=clk.getD (mJ l i) 0->lec (c.getD i []) clk
structure CI (w:WT) (l:List ET) (j:Nat) (c:List η) (tm:List ν) (la:η):Prop where
 k:CkL (l! w.2.2.2.2.1) j c tm
 tv:∀i:Nat,i<j->tm.getD i (0,0)=((c.getD i []).getD (mJ l i) 0,(mJ l i:Int))
 nn:∀i:Nat,i<j->∀u:Nat,0<=(c.getD i []).getD u 0/\(c.getD i []).getD u 0<=(ct l u (i+1):Int)
 own:∀i:Nat,i<j->(c.getD i []).getD (mJ l i) 0=(ct l (mJ l i) (i+1):Int)
 cls:∀i k:Nat,i<j->k<j->(c.getD i []).getD (mJ l i) 0<=(c.getD k []).getD (mJ l i) 0->lec (c.getD i []) (c.getD k [])
 lav:∀u:Nat,u<l! w.2.2.2.2.1->(0<=la.getD u 0->la.getD u 0<(j:Int)/\mJ l (la.getD u 0).toNat=u/\ct l u j=ct l u ((la.getD u 0).toNat+1))/\(la.getD u 0<0->ct l u j=0)
def CI.cvr {w:WT} {l:Y ET} {c:Y η} {tm:Y ν} {la:η} (h:CI w l j c tm la) (h0:0<=a) (h1:a<(j:Int)) (clk:η):AI.cvr clk (jt tm a)=J↔(jc c a).getD (mJ l a.toNat) 0<=clk.getD (mJ l a.toNat) 0:=by
 unfold AI.cvr jt jc;rw[h.tv a.toNat (by omega),bG,bh]
def JCw.join {w:WT} {l:Y ET} {c:Y η} {tm:Y ν} {la:η} (h:CI w l j c tm la) (z:JCw w l j c A) (h0:0<=a) (h1:a<(j:Int)):JCw w l j c (jl A (jc c a)):=by
 have hi:a.toNat<j:=by omega
 refine ⟨by rw[rk,z.ln,h.k.jc h0 h1];exact Nat.max_self _,λu=>?_,λk hkj hle=>?_⟩
 .rw[r7];have i:=z.b u;have b:=h.nn a.toNat hi u;have d:=adk l u (show a.toNat+1<=j from hi);have e:jc c a=c.getD a.toNat []:=rfl;rw[e];rcases Tn (A.getD u 0) ((c.getD a.toNat []).getD u 0) with h|h<;>rw[h]<;>omega
 .rw[r7]at hle;rcases Tn (A.getD (mJ l k) 0) ((jc c a).getD (mJ l k) 0) with e|e
  .rw[e]at hle;exact (z.cl k hkj hle).trans (AJ _ _)
  .rw[e]at hle;exact (h.cls k a.toNat hkj hi hle).trans (Ff _ _)
def JCw.zero {w:WT} {l:Y ET} {c:Y η} {tm:Y ν} {la:η} (h:CI w l j c tm la):JCw w l j c (aC (l! w.2.2.2.2.1) 0):=by
 have z:∀u:Nat,(aC (l! w.2.2.2.2.1) (0:Int)).getD u 0=0:=λu=>by grind
 refine ⟨cU ..,λu=>by rw[z];omega,λi hi hle=>?_⟩;rw[z,h.own i hi]at hle;have:=ZX l i;omega
def YG (clk:η) (t:Nat):lec clk (tk clk t):=λu=>by
 rw[uK];split
 next h=>rw[h];omega
 .exact dC _
def CI.next {w:WT} {l:Y ET} {c:Y η} {tm:Y ν} {la:η} (h:CI w l j c tm la) (hla:Fw (l! w.2.2.2.2.1) j la) (t0:0<=(eN l j).1) (t1:(eN l j).1<l! w.2.2.2.2.1) (hk:JCw w l j c A) (hp:0<=la.getD (mJ l j) 0->lec (jc c (la.getD (mJ l j) 0)) A):
 CI w l (j+1) (c++[tk A (mJ l j)]) (tm++[((tk A (mJ l j)).getD (mJ l j) 0,(eN l j).1)]) (ch la (eN l j).1 (j:Int))/\lec A ((c++[tk A (mJ l j)]).getD j [])/\∀u,u≠mJ l j->((c++[tk A (mJ l j)]).getD j []).getD u 0=A.getD u 0:=by
 have hcl:=h.k.cl;have htl:=h.k.tl;have et:(eN l j).1=(mJ l j:Int):=by unfold mJ;omega
 have tlt:mJ l j<l! w.2.2.2.2.1:=by omega
 have gl:∀i:Nat,i<j->(c++[tk A (mJ l j)]).getD i []=c.getD i []:=λi hi=>by
  rw[aw,aw,bL (by omega)]
 have gj:(c++[tk A (mJ l j)]).getD j []=tk A (mJ l j):=by
  rw[aw,<-hcl,n_];rfl
 have tl:∀i:Nat,i<j->(tm++[((tk A (mJ l j)).getD (mJ l j) 0,(eN l j).1)]).getD i (0,0)=tm.getD i (0,0):=λi hi=>by
  simp only[aw,bL (show i<l! tm by omega)]
 have tj:(tm++[((tk A (mJ l j)).getD (mJ l j) 0,(eN l j).1)]).getD j (0,0)=((tk A (mJ l j)).getD (mJ l j) 0,(eN l j).1):=by
  rw[aw,<-htl,n_];rfl
 have hown:A.getD (mJ l j) 0=(ct l (mJ l j) j:Int):=by
  have hb:=hk.b (mJ l j);let⟨a1,a2⟩:=h.lav (mJ l j) tlt;by_cases h0:0<=la.getD (mJ l j) 0
  .obtain⟨q1,q2,q3⟩:=a1 h0;have:=hp h0 (mJ l j);have ho:=h.own (la.getD (mJ l j) 0).toNat (by omega);rw[q2]at ho;have e:jc c (la.getD (mJ l j) 0)=c.getD (la.getD (mJ l j) 0).toNat []:=rfl;rw[e,ho,<-q3]at this;omega
  .have:=a2 (by omega);omega
 have htk:(tk A (mJ l j)).getD (mJ l j) 0=(ct l (mJ l j) (j+1):Int):=by
  rw[uK,aD rfl,hown,ZX];omega
 refine ⟨⟨⟨by simp[hcl],by simp[htl],λi hi=>?_,λi hi=>?_⟩,λi hi=>?_,λi hi u=>?_,λi hi=>?_,λi k hi hkk hle=>?_,λu D=>?_⟩,by rw[gj];exact YG _ _,λu D=>by rw[gj,uK,av D]⟩
 .rcases cF i j with z|z
  .rw[gl i z];exact h.k.ln i z
  .have:i=j:=by omega
   subst this;rw[gj,Dg,hk.ln];omega
 .rcases cF i j with z|z
  .rw[tl i z];exact h.k.th i z
  .have:i=j:=by omega
   subst this;rw[tj];exact t0
 .rcases cF i j with z|z
  .rw[tl i z,gl i z];exact h.tv i z
  .have:i=j:=by omega
   subst this;rw[tj,gj,et]
 .rcases cF i j with z|z
  .rw[gl i z];exact h.nn i z u
  .have:i=j:=by omega
   subst this;rw[gj];by_cases D:u=mJ l i
   .rw[D,htk];omega
   .rw[uK,av D];have:=hk.b u;have:=adk l u (show i<=i+1 by omega);omega
 .rcases cF i j with z|z
  .rw[gl i z];exact h.own i z
  .have:i=j:=by omega
   subst this;rw[gj];exact htk
 .rcases cF i j with z|z
  .rcases cF k j with clk|clk
   .rw[gl i z,gl k clk] at*
    exact h.cls i k z clk hle
   .have:k=j:=by omega
    subst this;rw[gl i z,gj] at*
    refine lec.trans (hk.cl i z ?_) (YG _ _);by_cases D:mJ l i=mJ l k
    .rw[D,hown];have ho:=h.own i z;rw[D]at ho;rw[ho];have:=adk l (mJ l k) (show i+1<=k from z);omega
    .rw[uK,av D]at hle;exact hle
  .have:i=j:=by omega
   subst this;rcases cF k i with clk|clk
   .rw[gl k clk,gj,htk]at hle;have:=(h.nn k clk (mJ l i)).2;have:=adk l (mJ l i) (show k+1<=i from clk);have:=ZX l i;omega
   .have:k=i:=by omega
    subst this;exact lec.rfl
 .rw[et,em];have hll:=hla.1;rw[aw,ep];by_cases L:mJ l j=u
  .rw[aD L,aD (by omega)];simp only[sH];refine ⟨λ_=>⟨by omega,by rw[bh];exact L,by rw[bh]⟩,λhz=>by omega⟩
  .rw[av L,<-aw];have hc:ct l u (j+1)=ct l u j:=by simp only[ct,av L,dK]
   rw[hc];let⟨a1,a2⟩:=h.lav u D;refine ⟨λhz=>?_,a2⟩;let⟨q1,q2,q3⟩:=a1 hz;exact⟨by omega,q2,q3⟩
structure WkG (w:WT) (l:List ET) (j:Nat) (c:List η) (tm:List ν) (la sp wa wt st se:η) (op:List (ν×Int)) (re:η) (ar:List WO) (si ei:List η):Prop where
 ci:CI w l j c tm la
 ws:WS j op re ar
 la:Fw (l! w.2.2.2.2.1) j la
 sp:Fw (l! w.2.2.2.2.1) j sp
 wa:Fw (l! w.2.2.2.2.1) j wa
 wt:l! wt=l! w.2.2.2.2.1
 st:PF (l! w.1) j st si
 se:PF (l! w.2.2.2.1) j se ei
structure JK (w:WT) (c:List η) (tm:List ν) (src:η) (op:List (ν×Int)) (re:η) (ar:List WO) (e:ET) (I:η->Prop):Prop where
 i0:I (aC (l! w.2.2.2.2.1) 0)
 i1:∀clk i,i∈src->0<=i->I clk->I (jl clk (jc c i))
 i2:∀clk (lk:Int) p,(e.2.1=3\/e.2.1=4)->0<=lk->lk<=(l! w.2.1:Int)->sL (e.1,lk) op=J->p∈re->pU (bx ar p) (bx ar (eH (e.1,lk) op))=J->XZ (bx ar p) e=J->I clk->I (jl clk (jc c (bx ar p).en))
 i3:∀clk p,sL (e.1,kq w e) op=J->p∈re->pU (bx ar p) (bx ar (eH (e.1,kq w e) op))=J->cvr clk (jt tm (bx ar p).bg)=J->I clk->I (jl clk (jc c (bx ar p).en))
structure CKj (w:WT) (l:List ET) (j:Nat) (c:List η) (tm:List ν) (la sp wa:η) (op:List (ν×Int)) (re:η) (ar:List WO) (si ei:List η) (clk:η):Prop where
 jc:JCw w l j c clk
 jr:JR w c tm (vW w la sp wa si ei (eN l j)) op re ar (eN l j) clk
 js:∀I,JK w c tm (vW w la sp wa si ei (eN l j)) op re ar (eN l j) I->I clk
def TR.note {w:WT} {l:Y ET} (A:TR (w,l)) (L:j<l! l):(eN l j).2.1=18->(eN l j).2.2.2.1<l! w.2.2.2.2.1:=λh=>by
 have sc:=A.sc L;have en:=sc.en;have z:=sc.va.el (by omega) (by omega) (by omega) (by omega) (by omega);rw[h,Fv]at z;split at z
 .omega
 .rename_i D;have:=(L1 (u:=(eN l j).2.2.2.1) D).2;have e3:=en.e3
  grind
def ael (w:WT) (la sp wa:η) (si ei:Y η) (e:ET):geti aM la e.1∈vW w la sp wa si ei e:=by
 unfold vW;exact iu _ (aE.2 rfl)
def abm {w:WT} {e:ET} (hev:PH w e) {la sp wa st se:η} {si ei:Y η} (h1:Fw (l! w.2.2.2.2.1) j la) (h2:Fw (l! w.2.2.2.2.1) j sp) (L:Fw (l! w.2.2.2.2.1) j wa) (D:PF (l! w.1) j st si) (A:PF (l! w.2.2.2.1) j se ei):∀v∈vW w la sp wa si ei e,v<(j:Int):=by
 have t0:=hev.t0;have t1:=hev.t1;have q:∀{n:Nat} {xs:η} {xss:Y η} {o:Int},PF n j xs xss->0<=o->o<n->∀v∈ry (T:=aM) xss o,v<(j:Int):=λ{n xs xss o} h o0 o1 v z=>by
  have e:o=((o.toNat:Nat):Int):=by omega
  exact ((h.2.2 o.toNat (by omega)).2.2 v z).2
 intro v z;rcases bO.1 z with z|z
 .rw[aE]at z;rw[z];exact (h1.geti t0 t1).2
 .split at z
  .rw[aE]at z;rw[z];exact (h2.geti t0 t1).2
  .split at z
   next g=>rw[aE]at z;rw[z];exact (h1.geti (hev.nm.th (.inr g)).1 (hev.nm.th (.inr g)).2).2
   .split at z
    next g=>exact q A (hev.nm.fu (.inr g)).1 (hev.nm.fu (.inr g)).2 v z
    .split at z
     .rename_i g;split at z
      .exact q D (hev.nm.ce (.inl g)).1 (hev.nm.ce (.inl g)).2 v z
      .cases z
     .split at z
      .rw[aE]at z;rw[z];exact (L.geti t0 t1).2
      .cases z
def WkG.step {w:WT} {l:Y ET} (D:TR (w,l)) (L:j<l! l) {c:Y η} {tm:Y ν} {la sp wa wt st se:η} {op:Y e!} {re:η} {ar:Y WO} {si ei:Y η} (g:WkG w l j c tm la sp wa wt st se op re ar si ei):
 Ok (gB (((j:Int),eN l j),(w,l),c,tm,la,sp,wa,wt,st,se,op,re,ar,si,ei)) λy=>∃clk,CKj w l j c tm la sp wa op re ar si ei clk/\y=((w,l),ch la (eN l j).1 (j:Int),FL (j:Int) (eN l j) sp,FK (j:Int) (eN l j) wt wa,KK (eN l j) wt,QQ 4 (j:Int) (eN l j) st si,QQ 22 (j:Int) (eN l j) se ei,YP w (eN l j) op (uB w (eN l j) op ar),c++[tk clk (mJ l j)],tm++[((tk clk (mJ l j)).getD (mJ l j) 0,(eN l j).1)],Cd w (eN l j) op re,Js w (j:Int) (eN l j) op (uB w (eN l j) op ar),PD 4 (j:Int) (eN l j) si,PD 22 (j:Int) (eN l j) ei):=by
 have hl:l! l<=400:=D.len;have wb:=D.wb;have hev:PH w (eN l j):=D.ev _ (uW L);have hen:=g.ws.en;have hlt:=abm hev g.la g.sp g.wa g.st g.se;have htm:∀p∈re,cvr (jc c (bx ar p).en) (jt tm (bx ar p).en)=J:=λp hp=>by
  let⟨_,_,q0,A⟩:=hen p hp;exact (g.ci.cvr q0 A _).2 (dC _)
 have hrl:=g.ws.rl;refine Ok.mono (anh (I:=λclk=>JCw w l j c clk/\∀I,JK w c tm (vW w la sp wa si ei (eN l j)) op re ar (eN l j) I->I clk) hev (by omega) wb.t wb.l (D.note L) g.la g.sp g.wa g.wt g.st g.se g.ci.k g.ws.op g.ws.oo hen (by omega) htm ?_) ?_
 .refine ⟨⟨JCw.zero g.ci,λI h=>h.i0⟩,λclk i hi h0 z=>⟨z.1.join g.ci h0 (hlt i hi),λI h=>h.i1 clk i hi h0 (z.2 I h)⟩,λclk lk p a b d f hp m1 m2 z=>?_,λclk p a hp m1 m2 z=>?_,λclk z=>?_⟩
  .obtain⟨_,_,q0,A⟩:=hen p hp;exact⟨z.1.join g.ci q0 A,λI h=>h.i2 clk lk p a b d f hp m1 m2 (z.2 I h)⟩
  .obtain⟨_,_,q0,A⟩:=hen p hp;exact⟨z.1.join g.ci q0 A,λI h=>h.i3 clk p a hp m1 m2 (z.2 I h)⟩
  .have:=z.1.b (eN l j).1.toNat;have:=axw l (eN l j).1.toNat j;exact⟨z.1.ln,by omega,by omega⟩
 .rintro y ⟨clk,⟨⟨k1,k2⟩,k3⟩,hy⟩;exact⟨clk,⟨k1,k3,k2⟩,hy⟩
def WkG.next {w:WT} {l:Y ET} (z:TR (w,l)) (D:j<l! l) {c:Y η} {tm:Y ν} {la sp wa wt st se:η} {op:Y e!} {re:η} {ar:Y WO} {si ei:Y η} (g:WkG w l j c tm la sp wa wt st se op re ar si ei) (clk:CKj w l j c tm la sp wa op re ar si ei A):
 WkG w l (j+1) (c++[tk A (mJ l j)]) (tm++[((tk A (mJ l j)).getD (mJ l j) 0,(eN l j).1)]) (ch la (eN l j).1 (j:Int)) (FL (j:Int) (eN l j) sp) (FK (j:Int) (eN l j) wt wa) (KK (eN l j) wt) (QQ 4 (j:Int) (eN l j) st si) (QQ 22 (j:Int) (eN l j) se ei) (YP w (eN l j) op (uB w (eN l j) op ar)) (Cd w (eN l j) op re) (Js w (j:Int) (eN l j) op (uB w (eN l j) op ar)) (PD 4 (j:Int) (eN l j) si) (PD 22 (j:Int) (eN l j) ei):=by
 have hev:PH w (eN l j):=z.ev _ (uW D);have t0:=hev.t0;have t1:=hev.t1;have L:(eN l j).1=(mJ l j:Int):=by unfold mJ;omega
 have sam:=Pa (w:=w) (e:=eN l j) g.ws.op g.ws.oo;have hlast:geti aM la (eN l j).1=la.getD (mJ l j) 0:=by rw[L,Fm]
 refine ⟨(g.ci.next g.la t0 t1 clk.jc λh0=>?_).1,(g.ws.sam sam).next,?_,g.sp.sp _ λh=>(hev.nm.th (.inl h)).1,g.wa.wa _ (z.note D),by rw[Mc];exact g.wt,g.st.ad 4 _ λh=>(hev.nm.ce (.inr h)).1,g.se.ad 22 _ λh=>(hev.nm.fu (.inl h)).1⟩
 .rw[<- hlast];exact clk.jr.a _ (ael ..) (by grind)
 .exact g.la.set _ (by omega) (dC _)
def ao8 {n:Nat} (A:n<=1000):lO (n:Int)=Z (aC n (-1)):=by
 refine cW ?_;unfold lO AS ck bU bR c7 aH cV;refine cR (cR (a? (a? (a! ?_))));refine gi n (by omega) (λi x=>x=((i:Int),aC i (-1)++aC (n-i) 0)) ?_ ?_ (by simp)
 .rintro i x hi rfl;refine dB ?_ (by grind);have z:dO (i:Int) (aj (aC i (-1:Int)++aC (n-i) 0))=J:=Tl.2 ⟨by omega,by simp;omega⟩;refine bt z (bt z (ak ?_));rw[ig,em];have h1:n-i=(n-(i+1))+1:=by omega
  rw[List.set_append_right _ _ (by simp),cU,LC,h1,yE,List.set_cons_zero,wY (n:=i),ju];rfl
 .rintro x rfl;refine dw (ak ?_) (by simp);simp
def WkG.zero (w:WT) (l:Y ET):WkG w l 0 [] [] (aC (l! w.2.2.2.2.1) (-1)) (aC (l! w.2.2.2.2.1) (-1)) (aC (l! w.2.2.2.2.1) (-1)) (aC (l! w.2.2.2.2.1) (-1)) (aC (l! w.1) 0) (aC (l! w.2.2.2.1) 0) [] [] [] (aC (l! w.1) []) (aC (l! w.2.2.2.1) []):=by
 have m1:∀(n u:Nat),u<n->(aC n (-1:Int)).getD u 0= -1:=λn u h=>by grind
 have rw_:∀n:Nat,Fw n 0 (aC n (-1)):=λn=>⟨cU ..,λu z=>by rw[m1 n u z];omega⟩
 have A:∀n:Nat,PF n 0 (aC n 0) (aC n []):=λn=>⟨cU ..,cU ..,λo D=>by
  rw[aw,aw,dl,dl,aD D,aD D];exact⟨rfl,bK _,λv hv=>by cases hv⟩⟩
 refine ⟨⟨⟨rfl,rfl,λi hi=>cu hi (fX _),λi hi=>cu hi (fX _)⟩,λi hi=>cu hi (fX _),λi hi=>cu hi (fX _),λi hi=>cu hi (fX _),λi k hi=>cu hi (fX _),λu z=>⟨λh=>by rw[m1 _ u z]at h;omega,λ_=>rfl⟩⟩,⟨List.nodup_nil,λx L=>(by cases L),λk hk=>cu hk (fX _),λp hp=>(by cases hp),bK _⟩,rw_ _,rw_ _,rw_ _,cU ..,A _,A _⟩
def WkH:Type:=Nat->Y η->Y ν->η->η->η->η->η->η->Y e!->η->Y WO->Y η->Y η->Prop
structure HK (w:WT) (l:List ET) (H:WkH):Prop where
 z:H 0 [] [] (aC (l! w.2.2.2.2.1) (-1)) (aC (l! w.2.2.2.2.1) (-1)) (aC (l! w.2.2.2.2.1) (-1)) (aC (l! w.2.2.2.2.1) (-1)) (aC (l! w.1) 0) (aC (l! w.2.2.2.1) 0) [] [] [] (aC (l! w.1) []) (aC (l! w.2.2.2.1) [])
 s:∀j c tm la sp wa wt st se op re ar si ei clk,j<l! l->WkG w l j c tm la sp wa wt st se op re ar si ei->H j c tm la sp wa wt st se op re ar si ei->CKj w l j c tm la sp wa op re ar si ei clk->
  H (j+1) (c++[tk clk (mJ l j)]) (tm++[((tk clk (mJ l j)).getD (mJ l j) 0,(eN l j).1)]) (ch la (eN l j).1 (j:Int)) (FL (j:Int) (eN l j) sp) (FK (j:Int) (eN l j) wt wa) (KK (eN l j) wt) (QQ 4 (j:Int) (eN l j) st si) (QQ 22 (j:Int) (eN l j) se ei) (YP w (eN l j) op (uB w (eN l j) op ar)) (Cd w (eN l j) op re) (Js w (j:Int) (eN l j) op (uB w (eN l j) op ar)) (PD 4 (j:Int) (eN l j) si) (PD 22 (j:Int) (eN l j) ei)
def afs {w:WT} {l:Y ET} (A:TR (w,l)) {H:WkH} (hH:HK w l H):Ok (mU (w,l)) λy=>∃c tm la sp wa wt st se op re ar si ei,y=((w,l),c,tm,la,sp,wa,wt,st,se,op,re,ar,si,ei)/\WkG w l (l! l) c tm la sp wa wt st se op re ar si ei/\H (l! l) c tm la sp wa wt st se op re ar si ei:=by
 have hl:l! l<=400:=A.len;have wb:=A.wb;have hT:=wb.t;have hC:=wb.c;have hF:=wb.f;dsimp only at hT hC hF;unfold mU vD hZ iR kl wW bf bw bH cE dJ gf iK ji Prod.B Prod.t bU bR bY aZ c7 aH cV;dsimp only;have D:=ao8 (n:=l! w.2.2.2.2.1) (by omega);refine bc D (bc D (bc D (bc D ?_)));refine cR (cR (dm (by simp) (a? (bN (by grind) (by omega) ?_))));refine cR (cR (dm (by simp) (a? (bN (by grind) (by omega) ?_))));refine gi (l! l) (by omega) (λi x=>∃c tm la sp wa wt st se op re ar si ei,x=((i:Int),(w,l),c,tm,la,sp,wa,wt,st,se,op,re,si,ei,ar)/\WkG w l i c tm la sp wa wt st se op re ar si ei/\H i c tm la sp wa wt st se op re ar si ei) ?_ ?_ ⟨_,_,_,_,_,_,_,_,_,_,_,_,_,by simp only[ay,bh];rfl,WkG.zero w l,hH.z⟩
 .rintro i x hi ⟨c,tm,la,sp,wa,wt,st,se,op,re,ar,si,ei,rfl,g,h⟩;refine dB ?_;refine aO (by simp) (by omega) (aT ?_);refine aA (g.step A hi) ?_;rintro y ⟨clk,L,rfl⟩;refine bt (by simp[bT,UX,UW,Mc,ae3,fU,fx]) (ak ⟨_,_,_,_,_,_,_,_,_,_,_,_,_,?_,g.next A hi L,hH.s i c tm la sp wa wt st se op re ar si ei clk hi g h L⟩);rw[ig]
 .rintro x ⟨c,tm,la,sp,wa,wt,st,se,op,re,ar,si,ei,rfl,g,h⟩;exact dw (ak ⟨c,tm,la,sp,wa,wt,st,se,op,re,ar,si,ei,rfl,g,h⟩)
def aq0:vA ()=Z J:=by kernel_rfl
abbrev IT:Type:=ω
abbrev CT:Type:=WT×Y (Int×Y IT)
def tV (a b:Int):kr (a,b)=Z (decide (0<=a/\a<b)):=by
 refine cW ?_;unfold kr kY aH;with_reducible repeat' first|apply OS.ok;constructor|refine IM.mk λ_=>?_
 .by_cases h:a<b<;>simp[*,gC]
 .simp;omega
def Jh (k:Int):q_ k=Z (decide (1<=k/\k<=5)):=by
 refine cW ?_;unfold q_ kY aH;with_reducible repeat' first|apply OS.ok;constructor|refine IM.mk λ_=>?_
 .by_cases h:k<=5<;>simp[*,dg]
 .simp;omega
def jP (i:IT):η:=
 if i.1=1\/i.1=6\/i.1=10\/i.1=27 then [i.2.1]
 else if i.1=2\/i.1=3 then [i.2.1,i.2.2.1]
 else if i.1=4 then [i.2.1,i.2.2.1,i.2.2.2.1]
 else if i.1=7 then [i.2.1,i.2.2.2.1]
 else if i.1=8\/i.1=26 then [i.2.2.1]
 else if i.1=9 then [i.2.2.1,i.2.2.2.1]
 else []
def vI (i:IT):kO i=Z (jP i):=by
 let⟨z,i2⟩:=i;unfold kO jP bf bw bH bn aH;by_cases h1:z=1
 .subst h1;rfl
 by_cases h2:z=6
 .subst h2;rfl
 by_cases h3:z=10
 .subst h3;rfl
 by_cases h4:z=27
 .subst h4;rfl
 by_cases h5:z=2
 .subst h5;rfl
 by_cases h6:z=3
 .subst h6;rfl
 by_cases h7:z=4
 .subst h7;rfl
 by_cases h8:z=7
 .subst h8;rfl
 by_cases L:z=8
 .subst L;rfl
 by_cases D:z=26
 .subst D;rfl
 by_cases A:z=9
 .subst A;rfl
 simp[h1,h2,h3,h4,h5,h6,h7,h8,L,D,A,dL,bcF,jnr,fo,dF]
def F8 (z:IT):l! (jP z)<=3:=by
 unfold jP
 (repeat' split)<;>simp
def ajo (l:Y IT) (a:Int) (D:l! l<=1000000):Ok (qM (l,a)) λ_=>True:=by
 unfold qM bn bU kY bY aZ c7 aH cV;refine rI (λx=>((l! l:Int)+1-x.2).toNat) (λx=>0<=x.2/\x.2<=(l! l:Int)+1) ?_ ⟨by dsimp only;omega,by dsimp only;omega⟩;rintro⟨(a:Int),(n:Int)⟩ ⟨h0,h1⟩;refine fO (λg=>?_) λ_=>ak trivial
 dsimp [ay]at g;refine aX (λ_=>True) ?_ λb _=>ak ?_
 .refine aX (λb=>b=af->0<=a/\a<(l! l:Int)) ?_ ?_
  .refine bQ (λ_=>ak nofun) λL=>ak λh=>?_
   rw[nH]at h
   grind
  .intro b z;refine aP (λ_=>ak trivial) λh=>?_
   let⟨q0,A⟩:=z h;refine aO q0 (by omega) (aT ?_);refine bc (Jh _) ?_;refine dM (λ_=>ak trivial) λ_=>?_
   refine aO q0 (by omega) (aT ?_);refine aK (λ_=>?_) λ_=>ak trivial
   exact aO q0 (by omega) (aT (ak trivial))
 .dsimp only;rw[jA];omega
structure AR (w:WT) (b n:Int):Prop where
 b0:0<=b
 b1:b<l! w.1
 ix:(geti lZ w.1 b).2.1=0
 sz:¬(geti lZ w.1 b).2.2.1=0
 sn:(geti lZ w.1 b).2.2.1=n
def X6 (w:WT) (b n:Int):Ok (qN (w,b,n)) λr=>r=J->AR w b n:=by
 refine ij ?_;refine bc (tV _ _) ?_;refine aK (λh=>?_) λ_=>ak (ak nofun)
 refine aO h.1 h.2 (aT (aK (λh1=>?_) λ_=>ak (ak nofun)));refine aO h.1 h.2 (aT (cf (λA=>?_) λ_=>ak (ak nofun)));exact aO h.1 h.2 (aT (ak (ak λz=>⟨h.1,h.2,h1,A,bF z⟩)))
def Y4 (w:WT) (i:IT):Ok (mW (w,i)) λb=>b=J->(i.1=7->AR w i.2.2.1 i.2.2.2.2.1)/\(i.1=9->AR w i.2.1 i.2.2.2.2.1):=by
 have z:∀{b:Bool},¬i.1=7->¬i.1=9->b=J->(i.1=7->AR w i.2.2.1 i.2.2.2.2.1)/\(i.1=9->AR w i.2.1 i.2.2.2.2.1):=λh1 A _=>⟨λh=>(h1 h).elim,λh=>(A h).elim⟩
 unfold mW bf bw bH cE dJ bn kY bY aZ aH;simp only[tV,obs];refine aK (λh6=>?_) λ_=>?_
 .refine aX (λ_=>True) ?_ λ_ _=>ak (z (by omega) (by omega))
  refine aK (λh=>?_) λ_=>ak trivial
  exact aO h.1 h.2 (aT (ak trivial))
 refine aK (λh8=>?_) λ_=>?_
 .refine aX (λ_=>True) ?_ λ_ _=>ak (z (by omega) (by omega))
  refine aK (λh=>?_) λ_=>ak trivial
  exact aO h.1 h.2 (aT (ak trivial))
 refine aK (λD=>?_) λL=>?_
 .exact aA (X6 _ _ _) λ_ h=>ak λA=>⟨λ_=>h A,λh9=>by have D:i.1=7:=D;omega⟩
 refine aK (λh9=>?_) λn9=>?_
 .exact aA (X6 _ _ _) λ_ h=>ak λA=>⟨λD=>(L D).elim,λ_=>h A⟩
 have z:∀{b:Bool},b=J->(i.1=7->AR w i.2.2.1 i.2.2.2.2.1)/\(i.1=9->AR w i.2.1 i.2.2.2.2.1):=z L n9;refine aX (λx=>x.2=(w,i)) (aK (λ_=>ak rfl) λ_=>ak rfl) ?_;rintro⟨b,x⟩ e;subst e;refine aP (λ_=>?_) λ_=>?_
 .refine aX (λ_=>True) ?_ λ_ _=>ak z
  refine aK (λh=>?_) λ_=>ak trivial
  exact aO h.1 h.2 (aT (ak trivial))
 refine aX (λx=>x.2=(w,i)) (aK (λ_=>ak rfl) λ_=>aK (λ_=>ak rfl) λ_=>aK (λ_=>ak rfl) λ_=>ak rfl) ?_;rintro⟨b,x⟩ e;subst e;refine aP (λ_=>?_) λ_=>?_
 .refine aX (λ_=>True) ?_ λ_ _=>ak z
  refine aK (λh=>?_) λ_=>ak trivial
  exact aO h.1 h.2 (aT (ak trivial))
 refine aX (λx=>x.2=(w,i)) (aK (λ_=>ak rfl) λ_=>aK (λ_=>ak rfl) λ_=>ak rfl) ?_;rintro⟨b,x⟩ e;subst e;refine aP (λ_=>ak z) λ_=>?_
 refine aX (λx=>x.2=(w,i)) (aK (λ_=>ak rfl) λ_=>ak rfl) ?_;rintro⟨b,x⟩ e;with_reducible repeat' first|apply OS.ok;constructor|refine IM.mk λ_=>?_
 all_goals exact z
structure VI (n:Int) (i:IT):Prop where
 o1:1<=i.1
 o2:i.1<=28
 r:∀j∈jP i,0<=j/\j<n
structure VT (t:Int×List IT):Prop where
 r0:0<=t.1
 r1:t.1<=32
 i:∀i∈t.2,VI t.1 i
structure VJ (w:WT) (k:Int) (i:IT):Prop where
 a7:i.1=7->AR w i.2.2.1 i.2.2.2.2.1
 a9:i.1=9->AR w i.2.1 i.2.2.2.2.1
 se:i.1=28->i.2.2.2.2.2= -1
 si:¬i.1=28->0<=i.2.2.2.2.2/\i.2.2.2.2.2<l! w.2.2.2.2.2/\(geti pW w.2.2.2.2.2 i.2.2.2.2.2).1=k
def Me (w:WT) (k:Int) (c:Int×Y IT) (hc:l! c.2<=1000000):Ok (iU (w,k,c)) λb=>b=J->VT c/\∀i∈c.2,VJ w k i:=by
 unfold iU bf bw bH cE c8 dQ vu bn bU jQ bY aZ c7 aH cV;refine aX (λx=>x.2=(w,c)/\(x.1=af->0<=c.1/\c.1<=32)) ?_ ?_
 .refine bQ (λ_=>ak ⟨rfl,nofun⟩) λh0=>bQ (λ_=>ak ⟨rfl,nofun⟩) λh1=>ak ⟨rfl,λ_=>⟨h0,h1⟩⟩
 rintro⟨b,x⟩ ⟨e,D⟩;dsimp only at e D;subst e;refine aP (λ_=>ak nofun) λh=>?_
 let⟨r0,r1⟩:=D h;refine cD (l! c.2) (λi x=>x.1=(i:Int)/\x.2=(w,c)/\∀q:Nat,q<i->VI c.1 (geti sK c.2 (q:Int))/\VJ w k (geti sK c.2 (q:Int))) ?_ ?_ ⟨rfl,rfl,λk hk=>by omega⟩
 .rintro i ⟨a,x⟩ hi ⟨e1,e2,L⟩;dsimp only at e1 e2 L;subst e1 e2;refine dB ?_;refine cH (aT ?_);generalize hz:(geti _ _ _)=z;refine aX (λx=>x.2=(w,c,z)/\(x.1=af->(1<=z.1/\z.1<=28)/\(z.1=7->AR w z.2.2.1 z.2.2.2.2.1)/\(z.1=9->AR w z.2.1 z.2.2.2.2.1))) ?_ ?_
  .refine bQ (λ_=>ak ⟨rfl,nofun⟩) λh0=>bQ (λ_=>ak ⟨rfl,nofun⟩) λh1=>?_
   refine aP (λ_=>ak ⟨rfl,nofun⟩) λ_=>?_
   refine aA (Y4 w z) λy hy=>?_
   refine dM (λ_=>ak ⟨rfl,nofun⟩) λhyt=>?_
   exact aA (ajo c.2 _ hc) λy _=>ak ⟨rfl,λ_=>⟨⟨h0,h1⟩,hy hyt⟩⟩
  rintro⟨b,x⟩ ⟨e,D⟩;dsimp only at e D;subst e;refine aP (λ_=>ak nofun) λh=>?_
  let⟨⟨o1,o2⟩,a7,a9⟩:=D h;refine aX (λx=>x.2=(w,c,z)/\(x.1=af->(z.1=28->z.2.2.2.2.2= -1)/\(¬z.1=28->0<=z.2.2.2.2.2/\z.2.2.2.2.2<l! w.2.2.2.2.2/\(geti pW w.2.2.2.2.2 z.2.2.2.2.2).1=k))) ?_ ?_
  .simp only[tV,obs];refine aK (λA=>?_) λA=>?_
   .refine cf (λ_=>ak ⟨rfl,nofun⟩) λhm=>?_
    exact cf (λh=>(h A).elim) λ_=>ak ⟨rfl,λ_=>⟨λ_=>hm,λh=>(h A).elim⟩⟩
   .refine cf (λ_=>?_) λh=>(A h).elim
    refine cf (λ_=>ak ⟨rfl,nofun⟩) λh=>?_
    exact aO h.1 h.2 (aT (ak ⟨rfl,λh2=>⟨λh3=>(A h3).elim,λ_=>⟨h.1,h.2,by simpa using h2⟩⟩⟩))
  rintro⟨b,x⟩ ⟨e,hsi⟩;dsimp only at e hsi;subst e;refine aP (λ_=>ak nofun) λhbs=>?_
  let⟨se,si⟩:=hsi hbs;refine aX (λx=>x.2=(w,c,z)) ?_ ?_
  .simp only[tV,obs];with_reducible repeat' first|apply OS.ok;constructor|refine IM.mk λ_=>?_
   all_goals rfl
  rintro⟨b,x⟩ e;dsimp only at e;subst e;refine aP (λ_=>ak nofun) λ_=>?_
  refine bc (vI z) ?_;refine cD (l! (jP z)) (λj x=>x.1=(j:Int)/\x.2=(w,c)/\∀k:Nat,k<j->0<=geti aM (jP z) (k:Int)/\geti aM (jP z) (k:Int)<c.1) ?_ ?_ ⟨rfl,rfl,λk hk=>by omega⟩
  .rintro j ⟨a,x⟩ hj ⟨d1,d2,d3⟩;dsimp only at d1 d2 d3;subst d1 d2;refine dB ?_;refine cH (aT ?_);refine bc (tV _ _) ?_;refine cf (λ_=>ak nofun) λh=>ak ?_
   dsimp only at h ⊢;have hj32:l! (jP z)<=3:=F8 z;refine ⟨ig,rfl,λk hk=>?_⟩
   grind
  .rintro⟨a,x⟩ ⟨d1,d2,d3⟩;dsimp only at d1 d2 d3;subst d1 d2;refine dw (ak ?_);dsimp only;refine ⟨ig,rfl,λk hk=>?_⟩;rcases cF k i with h1|h1
   .exact L k h1
   .rw[show k=i by omega,hz];exact⟨⟨o1,o2,iY (T:=aM) d3⟩,⟨a7,a9,se,si⟩⟩
 .rintro⟨a,x⟩ ⟨e1,e2,L⟩;refine dw (ak λ_=>⟨⟨r0,r1,iY (T:=sK) (p:=VI c.1) λq hq=>(L q hq).1⟩,iY (T:=sK) (p:=VJ w k) λq hq=>(L q hq).2⟩)
structure VC (c:CT):Prop where
 vl:VL c.1
 tl:l! c.2=l! c.1.2.2.2.2.1
 t:∀t∈c.2,VT t
 sv:SV0 c.1
 j:∀k:Nat,k<l! c.2->∀i∈(geti Aj c.2 (k:Int)).2,VJ c.1 (k:Int) i
structure CB (c:CT):Prop where
 th:l! c.2<=1000000
 ins:∀t∈c.2,l! t.2<=1000000
 rg:∀t∈c.2,1<=t.1
 wx:WX c.1
 ok:kN c=Z J
def Yf (c:CT) (h1:l! c.2<=1000000) (h2:∀t∈c.2,l! t.2<=1000000):Ok (kN c) λb=>b=J->VC c:=by
 let⟨w,l⟩:=c;dsimp only at h1 h2;unfold kN bH bU bY aZ c7 aH cV;refine aX (λx=>x.2=(w,l)/\(x.1=af->(VL w/\SV0 w)/\l! l=l! w.2.2.2.2.1)) ?_ ?_
 .refine aA (ED w) λb hb=>?_
  refine dM (λ_=>ak ⟨rfl,nofun⟩) λh=>ak ⟨rfl,λh3=>⟨hb h,?_⟩⟩
  simp at h3;omega
 rintro⟨b,x⟩ ⟨e,hx⟩;subst e;refine aP (λ_=>ak nofun) λh=>?_
 let⟨⟨hv,hsv⟩,hl⟩:=hx h;refine cD (l! l) (λi x=>x.1=(i:Int)/\x.2=(w,l)/\∀k:Nat,k<i->VT (geti Aj l (k:Int))/\∀q∈(geti Aj l (k:Int)).2,VJ w (k:Int) q) ?_ ?_ ⟨rfl,rfl,λk A=>by omega⟩
 .rintro i ⟨a,x⟩ hi ⟨L,e2,D⟩;subst L e2;refine dB ?_;refine cH (aT ?_);have hm:=bP (T:=Aj) (xs:=l) (j:=(i:Int)) (by omega) (by omega);revert hm;generalize hz:(geti Aj l (i:Int))=z;intro hm;refine aA (Me w _ z (h2 z hm)) λb hb=>?_
  refine dM (λ_=>ak nofun) λh=>ak ?_
  refine ⟨ig,rfl,λk A=>?_⟩
  grind
 .rintro⟨a,x⟩ ⟨L,e2,D⟩;subst L e2;refine dw (ak λ_=>⟨hv,hl,iY (T:=Aj) (p:=VT) λk A=>(D k A).1,hsv,λk A=>(D k A).2⟩)
section
abbrev TT:Type:=Int×η×Y η×Int
structure TL (F:Int->Prop) (E:Nat) (l:η):Prop where
 a:Ly l
 m:∀y∈l,0<=y/\y<(E:Int)
 f:∀y∈l,F y
variable {F:Int->Prop}
def TL.len {l:η} (h:TL F i l):l! l<=i:=by
 have:=L4 l 0 i h.a h.m;omega
def TL.nil (E:Nat):TL F E []:=⟨trivial,λy z=>(by cases z),λy z=>(by cases z)⟩
def TL.uni {b:η} (D:TL F i A) (a:TL F i b):TL F i (yJ A b):=
 ⟨U0 A b,λy z=>by
   rcases FO.1 z with h|h
   .exact D.m y h
   .exact a.m y h,λy z=>(FO.1 z).elim (D.f y) (a.f y)⟩
def TL.mono {A:Int->Prop} {l:η} (h:TL F i l) (hf:i<=j) (L:∀y,F y->A y):TL A j l:=⟨h.a,λy z=>⟨(h.m y z).1,by have:=(h.m y z).2;omega⟩,λy z=>L y (h.f y z)⟩
structure TH (F:Int->Prop) (E:Nat) (s:TT):Prop where
 r:l! s.2.1<=32
 t:l! s.2.2.1<=32
 l:∀l∈s.2.2.1,TL F E l
 e0:0<=s.2.2.2
 e1:s.2.2.2<=(E:Int)
def TH.zero (E:Nat):TH F E (0,[],[],0):=⟨by simp,by simp,λl z=>(by cases z),by simp,by simp⟩
def TH.mono {z:Int->Prop} {s:TT} (h:TH F i s) (hf:i<=j) (L:∀y,F y->z y):TH z j s:=⟨h.r,h.t,λl D=>(h.l l D).mono hf L,h.e0,by have:=h.e1;omega⟩
def Am (s:TT) (E:Nat) (hE:E<=100000) (h:TH F E s):cA s=Z ((s.1,s.2.2.2),s.2.1,s.2.2.1):=by
 let⟨h1,h2,h3,h4,h5⟩:=h;refine cW ?_;unfold cA bf bw bH c8 dQ bU bR bY aZ c7 aH cV;refine bN (by grind) (by omega) ?_;refine cD (l! s.2.2.1) (λi x=>x.1=(i:Int)/\x.2.1=s/\x.2.2.2.1=(s.1,s.2.2.2)/\x.2.2.2.2.1=s.2.1/\x.2.2.2.2.2=s.2.2.1.take i) ?_ ?_ ⟨rfl,rfl,rfl,rfl,rfl⟩
 .rintro i ⟨a,b,c,d,e,f⟩ hi ⟨L,e2,D,A,z⟩;dsimp only at L e2 D A z;subst L e2 z;refine dB ?_;refine cH (aT ?_);have hz:=(h3 _ (bP (T:=.sl (.int .i64)) (xs:=b.2.2.1) (j:=(i:Int)) (by omega) (by omega))).len;refine bN (by grind) (by omega) ?_;refine bN (by grind) (by omega) (ak ?_);refine ⟨ig,rfl,D,A,?_⟩;rw[pl (T:=.sl (.int .i64)) hi];rfl
 .rintro⟨a,b,c,d,e,f⟩ ⟨L,e2,D,A,z⟩;dsimp only at L e2 D A z;subst e2;refine dw (ak ?_)
  grind
def yK (b:Bool):Ok (gw b) λ_=>True:=by
 unfold gw;with_reducible repeat' first|apply OS.ok;constructor|refine IM.mk λ_=>?_
 all_goals trivial
def JA (n:Int):Ok (nM n) λ_=>True:=by
 unfold nM bU aH;with_reducible repeat' first|apply OS.ok;constructor|refine IM.mk λ_=>?_
 all_goals trivial
def am3 (x:ν):Ok (ww x) λ_=>True:=by
 unfold ww bn;refine aK (λ_=>ak trivial) λ_=>aK (λ_=>?_) λ_=>ak trivial
 exact aA (yK _) λ_ _=>ak trivial
def ahd (x:π):Ok (xD x) λ_=>True:=by
 have z:∀b,Ok (aB (gw b) λy=>Z (y,J)) λ_=>True:=λb=>aA (yK _) λ_ _=>ak trivial
 refine aK (λ_=>ak trivial) λ_=>aK (λ_=>ak trivial) λ_=>aK (λ_=>ak trivial) λ_=>?_
 refine aK (λ_=>aK (λ_=>ak trivial) λh=>Cg h (ak trivial)) λ_=>?_
 refine aK (λ_=>aK (λ_=>ak trivial) λh=>Cg h (ak trivial)) λ_=>?_
 refine aK (λ_=>z _) λ_=>aK (λ_=>z _) λ_=>aK (λ_=>z _) λ_=>aK (λ_=>z _) λ_=>aK (λ_=>z _) λ_=>aK (λ_=>z _) λ_=>?_
 refine aK (λ_=>aX (λ_=>True) (cf (λ_=>aA (yK _) λ_ _=>ak trivial) λ_=>aA (yK _) λ_ _=>ak trivial) λ_ _=>ak trivial) λ_=>?_
 exact aK (λ_=>aX (λ_=>True) (cf (λ_=>aA (yK _) λ_ _=>ak trivial) λ_=>aA (yK _) λ_ _=>ak trivial) λ_ _=>ak trivial) λ_=>ak trivial
def aek (E:Nat) (hE:E<=100000) (i:IT) (p:ν) (R:η) (T:Y η) (D:∀j∈jP i,0<=j/\j<(l! R:Int)) (o1:1<=i.1) (o2:i.1<=5) (hR:l! R<=32) (z:l! T=l! R) (hl:∀l∈T,TL F E l):Ok (yZ ((i,p),R,T)) λy=>y.1.1.2=p.2/\l! y.2.1=l! R/\l! y.2.2=l! T/\∀l∈y.2.2,TL F E l:=by
 unfold yZ bf bw bH ck bn bU bR bY kK aZ c7 aH cV;refine bc (vI i) ?_;have h3:=F8 i;refine cD (l! (jP i)) (λj x=>x.1=(j:Int)/\x.2.1=R/\x.2.2.1=T/\x.2.2.2.1=i/\x.2.2.2.2.1=p) ?_ ?_ ⟨rfl,rfl,rfl,rfl,rfl⟩
 .rintro j ⟨a,b,c,d,e⟩ hj ⟨e1,e2,e3,e4,L⟩;dsimp only at e1 e2 e3 e4 L;subst e1 e2 e3 e4;refine dB ?_;have hz:=D _ (bP (T:=aM) (xs:=jP d) (j:=(j:Int)) (by omega) (by omega));refine aX (λx=>x.2=(b,c,d,e)/\x.1=af) ?_ ?_
  .refine cH (aT ?_);refine bQ (λg=>?_) λ_=>?_
   .dsimp only at g;omega
   refine cH (aT (ak ⟨rfl,?_⟩));dsimp only;rw[nH];exact hz.2
  rintro⟨b',x⟩ ⟨f1,f2⟩;dsimp only at f1 f2;subst f1 f2;refine aP nofun λ_=>ak ?_
  dsimp only;exact⟨ig,rfl,rfl,rfl,L⟩
 .rintro⟨a,b,c,d,e⟩ ⟨e1,e2,e3,e4,L⟩;dsimp only at e1 e2 e3 e4 L;subst e1 e2 e3 e4;refine dw ?_;let⟨e,e'⟩:=e;dsimp only at L;subst L;refine aA (P:=λy=>y.1.1.2=e.2/\l! y.2.1=l! b/\l! y.2.2=l! c/\∀l∈y.2.2,TL F E l) ?_ λr D=>ak D
  have hA:d.1≠5->0<=d.2.1/\d.2.1<(l! b:Int):=λh5=>D _ (by
   unfold jP;(repeat' split)<;>simp<;>omega)
  have hB:2<=d.1->d.1≠5->0<=d.2.2.1/\d.2.2.1<(l! b:Int):=λh2 h5=>D _ (by
   unfold jP;(repeat' split)<;>simp<;>omega)
  have hC:d.1=4->0<=d.2.2.2.1/\d.2.2.2.1<(l! b:Int):=λh5=>D _ (by
   unfold jP;(repeat' split)<;>simp<;>omega)
  have hg:∀{j:Int},0<=j->j<(l! b:Int)->TL F E (geti (.sl (.int .i64)) c j):=λh0 h1=>hl _ (bP (T:=.sl (.int .i64)) (xs:=c) h0 (by rw[z];exact h1))
  refine aX (λx=>x.2.1=b/\x.2.2.1=c/\x.2.2.2.1=d/\x.2.2.2.2.1=e/\TL F E x.1.2.2/\d.1≠5) ?_ ?_
  .refine aK (λ_=>ak ⟨rfl,rfl,rfl,hl⟩) λA=>?_
   refine aK (λ_=>ak ⟨rfl,rfl,rfl,rfl,TL.nil E,A⟩) λn1=>?_
   dsimp only at n1 A;let⟨b0,b1⟩:=hB (by omega) A;refine aK (λ_=>?_) λn2=>?_
   .refine aO b0 b1 (aO b0 b1 (aT ?_));refine aO b0 (by dsimp only;rw[z];exact b1) (aO b0 (by dsimp only;rw[z];exact b1) (aT ?_));exact ak ⟨rfl,rfl,rfl,rfl,hg b0 b1,A⟩
   refine aK (λ_=>?_) λn3=>?_
   .refine aA (JA _) λy _=>?_
    refine aO b0 b1 (aO b0 b1 (aT ?_));refine aA (am3 _) λy _=>?_
    refine aO b0 (by dsimp only;rw[z];exact b1) (aO b0 (by dsimp only;rw[z];exact b1) (aT ?_));exact ak ⟨rfl,rfl,rfl,rfl,hg b0 b1,A⟩
   dsimp only at n2 n3;let⟨c0,c1⟩:=hC (by omega);refine aA (JA _) λy _=>?_
   refine aO b0 b1 (aO b0 b1 (aT ?_));refine aO c0 c1 (aO c0 c1 (aT ?_));refine aA (ahd _) λy _=>?_
   refine aO b0 (by dsimp only;rw[z];exact b1) (aO b0 (by dsimp only;rw[z];exact b1) (aT ?_));refine aO c0 (by dsimp only;rw[z];exact c1) (aO c0 (by dsimp only;rw[z];exact c1) (aT ?_));have g1:=hg b0 b1;have g2:=hg c0 c1;refine bc (Yg _ _ (c9 g1.len (by omega)) (c9 g2.len (by omega))) ?_;exact ak ⟨rfl,rfl,rfl,rfl,g1.uni g2,A⟩
  rintro⟨⟨v,ok,tn⟩,b',c',d',e',e''⟩ ⟨f1,f2,f3,f4,f5,f6⟩;dsimp only at f1 f2 f3 f4 f5 f6;subst f1 f2 f3 f4;let⟨a0,a1⟩:=hA f6;have ht:=f5.len;refine a! ?_;refine aO a0 a1 (aO a0 a1 (aO a0 (by dsimp only;rw[z];exact a1) (aO a0 (by dsimp only;rw[z];exact a1) (ak ?_))));refine ⟨rfl,bT ..,bT ..,λl hm=>?_⟩;rcases FY hm with h|h
  .exact hl l h
  .rw[h];exact f5
def agw (E:Nat) (hE:E<=100000) (c:Int×Y IT) (hc:l! c.2<=1000000) (hv:VT c) (s:TT) (h:TH F E s):Ok (oI (c,s)) λy=>TH F E y.1/\(l! y.1.2.1=0\/y.1.2.2.2=s.2.2.2):=by
 unfold oI bf bw bH c8 eD dQ bn bU kY jQ bR bY aZ c7 aH cV;have hs0:=h;let⟨h1,h2,h3,h4,h5⟩:=h;refine aX (λx=>x.2.1=c/\x.2.2.1=s/\(x.1=af->(l! s.2.1:Int)=c.1/\(l! s.2.2.1:Int)=c.1)) ?_ ?_
 .refine cf (λ_=>ak ⟨rfl,rfl,nofun⟩) λg=>ak ⟨rfl,rfl,λh=>?_⟩
  simp at h;exact⟨g,h⟩
 rintro⟨b,c',s',z⟩ ⟨D,e2,L⟩;dsimp only at D e2 L;subst D e2;refine aP (λ_=>ak ⟨TH.zero E,.inl rfl⟩) λhb=>?_
 let⟨q1,q2⟩:=L hb;refine bc (Am s' E hE hs0) ?_;refine rI (λx=>((l! c'.2:Int)+1-x.1).toNat) (λx=>0<=x.1/\x.1<=(l! c'.2:Int)+1/\x.2.1=c'/\x.2.2.1.2=s'.2.2.2/\l! x.2.2.2.2.1=l! s'.2.1/\l! x.2.2.2.2.2=l! s'.2.2.1/\∀l∈x.2.2.2.2.2,TL F E l) ?_ ⟨by dsimp only;omega,by dsimp only;omega,rfl,rfl,rfl,rfl,h3⟩;rintro⟨(n:Int),c,⟨(A:Int),ev⟩,z',R,T⟩ ⟨n0,n1,D,e2,L,e4,e5⟩;dsimp only at n0 n1 D e2 L e4 e5;subst D e2;refine fO (λg=>?_) λ_=>ak ⟨TH.zero E,.inl rfl⟩
 refine aX (λx=>x.2=(c,(A,s'.2.2.2),z',R,T)/\(x.1=af->0<=A/\A<(l! c.2:Int))) ?_ ?_
 .refine bQ (λ_=>ak ⟨rfl,nofun⟩) λg1=>ak ⟨rfl,λh=>?_⟩
  rw[nH]at h;exact⟨g1,h⟩
 rintro⟨b',x⟩ ⟨f1,f2⟩;subst f1;refine aP (λ_=>ak ⟨TH.zero E,.inl rfl⟩) λhb=>?_
 let⟨p0,p1⟩:=f2 hb;refine aO p0 p1 (aT ?_);have hi:=hv.i _ (bP (T:=sK) (xs:=c.2) (j:=A) p0 p1);revert hi;generalize (geti sK _ _)=i;intro hi;refine bc (Jh _) ?_;refine cf (λ_=>ak ⟨⟨by dsimp only;omega,by dsimp only;omega,e5,h4,h5⟩,.inr rfl⟩) λhsil=>?_
 refine aK (λ_=>ak ⟨TH.zero E,.inl rfl⟩) λhn=>?_
 refine aA (aek E hE i (A,s'.2.2.2) R T (λj hj=>by have:=hi.r j hj;omega) hsil.1 hsil.2 (by omega) (by omega) e5) λy hy=>?_
 let⟨k1,k2,k3,k4⟩:=hy;refine cR (mQ k3.symm (cR (mQ k2.symm (Ed ?_))));refine dM (λ_=>ak ⟨TH.zero E,.inl rfl⟩) λ_=>ak ?_
 rw[jA]
 grind
end
abbrev ST:Type:=SY×η×η×Y TT
structure TF (c:Int×List IT) (t:TT):Prop where
 p0:0<=t.1
 p1:t.1<(l! c.2:Int)
 r:(l! t.2.1:Int)=c.1
 t:(l! t.2.2.1:Int)=c.1
structure FSx (c:CT) (s:ST):Prop where
 vc:VC c
 cd:∀d∈c.1.2.2.1,0<=d.2/\d.2<(l! c.1.2.1:Int)
 e3:l! s.1.2.2.2=l! c.1.2.2.2.2.1
 ce:l! s.2.1=l! c.1.1
 fu:l! s.2.2.1=l! c.1.2.2.2.1
 th:l! s.2.2.2=l! c.2
 t:∀k:Nat,k<l! c.2->TF (geti Aj c.2 (k:Int)) (geti fB s.2.2.2 (k:Int))
def FQ (L:Y ET) (k:Int) (y:Int):Prop:=1<=y/\Ps L k y
structure SV (n:Nat) (L:List ET) (s:ST):Prop where
 sb:SB n s.1
 ln:l! L=n
 t:∀k:Nat,k<l! s.2.2.2->TH (FQ L k) n (geti fB s.2.2.2 (k:Int))
def SV.ti {s:ST} (h:SV i k s) {L:Int} (h0:0<=L) (h1:L<(l! s.2.2.2:Int)):TH (FQ k L) i (geti fB s.2.2.2 L):=by
 have:=h.t L.toNat (by omega)
 grind
structure TG (c:CT) (L:List ET) (sy:SY) (k:Int) (t:TT):Prop where
 ev:t.2.2.2=(l! (fl L k):Int)
 wi:(geti iI sy.2.2.2 k).1=3\/(geti iI sy.2.2.2 k).1=4->(geti sK (geti Aj c.2 k).2 t.1).1=21
 nw:l! (fl L k)=0->(geti iI sy.2.2.2 k).1=0\/(geti iI sy.2.2.2 k).1=1
structure SIv (c:CT) (L:List ET) (s:ST):Prop where
 ac:Acw c.1 L s.1 s.2.1 s.2.2.1
 t:∀k:Nat,k<l! s.2.2.2->(geti fB s.2.2.2 (k:Int)).2.1.length=0\/TG c L s.1 (k:Int) (geti fB s.2.2.2 (k:Int))
def ap6 (c:CT) (s:ST) (D:CB c):Ok (yY (c,s)) λb=>b=J->FSx c s:=by
 unfold yY bf bw eD dQ bU kY jQ bY aZ c7 aH cV;refine aX (λx=>x.2=(c,s)/\(x.1=af->VC c/\(∀d∈c.1.2.2.1,0<=d.2/\d.2<(l! c.1.2.1:Int))/\l! s.1.2.2.2=l! c.1.2.2.2.2.1/\l! s.2.1=l! c.1.1/\l! s.2.2.1=l! c.1.2.2.2.1/\l! s.2.2.2=l! c.2)) ?_ ?_
 .refine aA (Yf c D.th D.ins) λb A=>?_
  refine dM (λ_=>ak ⟨rfl,nofun⟩) λh=>?_
  have z:=A h;refine aA (UQ c.1 s.1 (by have:=z.vl.d;omega)) λb2 L=>?_
  refine dM (λ_=>ak ⟨rfl,nofun⟩) λh2=>?_
  let⟨g1,_,_,g4⟩:=L h2;refine cf (λ_=>ak ⟨rfl,nofun⟩) λk1=>?_
  refine cf (λ_=>ak ⟨rfl,nofun⟩) λk2=>ak ⟨rfl,λk3=>⟨z,g1,g4,?_,?_,?_⟩⟩
  .grind
  .grind
  .simp at k3;omega
 rintro⟨b,x⟩ ⟨e,A⟩;subst e;refine aP (λ_=>ak nofun) λh=>?_
 let⟨z,hcd,h3,hce,hfu,hth⟩:=A h;have hcl:=D.th;refine cD (l! c.2) (λi x=>x.1=(i:Int)/\x.2=(c,s)/\∀k:Nat,k<i->TF (geti Aj c.2 (k:Int)) (geti fB s.2.2.2 (k:Int))) ?_ ?_ ⟨rfl,rfl,λk hk=>by omega⟩
 .rintro i ⟨a,x⟩ hi ⟨e1,e2,e3⟩;subst e1 e2;refine dB ?_;have hin:((i:Nat):Int)<(l! c.2:Int):=by omega
  refine cH (aT ?_);refine aX (λx=>x.2=(c,s)/\(x.1=af->TF (geti Aj c.2 (i:Int)) (geti fB s.2.2.2 (i:Int)))) ?_ ?_
  .refine bQ (λ_=>ak ⟨rfl,nofun⟩) λg0=>?_
   refine aO (by simp) hin (aT ?_);refine fO (λ_=>ak ⟨rfl,nofun⟩) λg1=>?_
   refine aO (by simp) hin (aT ?_);refine cf (λ_=>ak ⟨rfl,nofun⟩) λg2=>?_
   refine aO (by simp) hin (aT (ak ⟨rfl,λg3=>⟨g0,g1,g2,?_⟩⟩));simp at g3;exact g3
  rintro⟨b,x⟩ ⟨e,A⟩;subst e;refine aP (λ_=>ak nofun) λh=>ak ?_
  refine ⟨ig,rfl,λk hk=>?_⟩
  grind
 .rintro⟨a,x⟩ ⟨e1,e2,e3⟩;subst e1 e2;refine dw (ak λ_=>⟨z,hcd,h3,hce,hfu,hth,e3⟩)
def ark {i:IT} (h:i.1=6\/i.1=7\/i.1=27\/i.1=10):i.2.1∈jP i:=by
 unfold jP;(repeat' split)<;>simp<;>omega
def arj {i:IT} (h:i.1=8\/i.1=9\/i.1=26):i.2.2.1∈jP i:=by
 unfold jP;(repeat' split)<;>simp<;>omega
def ax3 {i:IT} (h:i.1=7\/i.1=9):i.2.2.2.1∈jP i:=by
 unfold jP;(repeat' split)<;>simp<;>omega
structure KD (op k:Int):Prop where
 ld:k=3->op=6\/op=7
 st:k=4->op=8\/op=9
 br:k=5->op=10
 se:k=22->op=26
 ge:k=23->op=27
 e1:k=2->op=28
 n1:¬k=1
 n17:¬k=17
 wt:k=16->op=21
 e2:¬k=0->op=28->k=2
 d7:¬k=0->op=7->k=3
 d8:¬k=0->op=8->k=4
 d9:¬k=0->op=9->k=4
 d10:¬k=0->op=10->k=5
 d26:¬k=0->op=26->k=22
def aol (op:Int):Ok (Dn op) λk=>KD op k:=by
 refine aX (λx=>x.2=[3,3,4,4,5,6,7,8,9,10,11,12,13,14,15,16,18,19,20,21,22,23,2]/\(x.1=af->6<=op/\op<=28)) ?_ ?_
 .refine bQ (λ_=>ak ⟨rfl,nofun⟩) λg=>ak ⟨rfl,λh=>?_⟩
  rw[kg]at h;exact⟨g,h⟩
 rintro⟨b,x⟩ ⟨e,z⟩;subst e;refine aP (λ_=>ak (by constructor<;>first|decide|(intro h;first|(exact (h rfl).elim)|(cases h;done)))) λh=>?_
 let⟨h1,A⟩:=z h;dsimp only;rw[jA (n:=op-6) (by omega) (by omega)];refine aO (by omega) (by simp;omega) (aO (by omega) (by simp;omega) (aT (ak ?_)));have:op=6\/op=7\/op=8\/op=9\/op=10\/op=11\/op=12\/op=13\/op=14\/op=15\/op=16\/op=17\/op=18\/op=19\/op=20\/op=21\/op=22\/op=23\/op=24\/op=25\/op=26\/op=27\/op=28:=by omega
 rcases this with rfl|rfl|rfl|rfl|rfl|rfl|rfl|rfl|rfl|rfl|rfl|rfl|rfl|rfl|rfl|rfl|rfl|rfl|rfl|rfl|rfl|rfl|rfl;all_goals (constructor<;>decide)
def Ys (a n:Int):Ok (wy (a,n)) λr=>n=2->r=0\/r=1:=by
 refine bQ (λ_=>ak λh=>(by simp)) λh=>?_
 refine Cg (by omega) ?_;have A:=Int.lt_tmod_of_pos a (b:=n) (by omega);refine aX (λr=>n=2->r=0\/r=1) (bQ (λg=>ak λz=>?_) λg=>ak λz=>?_) λ_ h=>ak h
 .dsimp only at g ⊢;rw[jA];omega
 .grind
def VN (i:IT) (t:TT) (hr:∀j∈jP i,0<=j/\j<(l! t.2.1:Int)):Ok (xC (i,t)) λo=>(i.1=7->i.2.2.1=3->i.2.2.2.2.1=2->o=3\/o=4)/\(i.1=9->i.2.1=3->i.2.2.2.2.1=2->o=3\/o=4):=by
 have z:i.1=7\/i.1=9->0<=i.2.2.2.1/\i.2.2.2.1<(l! t.2.1:Int):=λh=>hr _ (by
  unfold jP;(repeat' split)<;>simp<;>omega)
 have D:∀{o:Int},¬i.1=7->¬i.1=9->(i.1=7->i.2.2.1=3->i.2.2.2.2.1=2->o=3\/o=4)/\(i.1=9->i.2.1=3->i.2.2.2.2.1=2->o=3\/o=4):=λh1 h2=>⟨λh=>(h1 h).elim,λh=>(h2 h).elim⟩
 have wk:∀{b r n:Int},b=3->n=2->(n=2->r=0\/r=1)->bl .i64 (b+r)=3\/bl .i64 (b+r)=4:=λh1 h2 A=>by
  rw[jA];omega
 refine aX (λx=>x.2=(i,t)/\(x.1=J->i.1=6\/i.1=27)) (aK (λh=>ak ⟨rfl,λ_=>.inl h⟩) λ_=>ak ⟨rfl,λh=>.inr (bF h)⟩) ?_;rintro⟨b,x⟩ ⟨e,hb⟩;subst e;refine aP (λh=>ak (D (by grind) (by grind))) λ_=>?_
 refine aK (λh=>?_) λL=>?_
 .exact aO (z (.inl h)).1 (z (.inl h)).2 (aT (aA (Ys _ _) λy hy=>ak ⟨λ_ A h4=>wk A h4 hy,λh9=>by dsimp only at h;omega⟩))
 refine aK (λh=>?_) λn9=>?_
 .exact aO (z (.inr h)).1 (z (.inr h)).2 (aT (aA (Ys _ _) λy hy=>ak ⟨λh7=>(L h7).elim,λ_ A h4=>wk A h4 hy⟩))
 refine aX (λ_=>True) ?_ λx _=>aP (λ_=>ak (D L n9)) λ_=>ak (D L n9)
 with_reducible repeat' first|apply OS.ok;constructor|refine IM.mk λ_=>?_
 all_goals trivial
def asd {w:WT} (A:w.1=C0) {n:Int} (h:AR w a n):a=3/\n=2:=by
 let⟨b0,b1,ix,sz,z⟩:=h;rw[A]at b1 ix sz z;have b1:a<5:=b1;rcases (by omega:a=0\/a=1\/a=2\/a=3\/a=4) with rfl|rfl|rfl|rfl|rfl
 .exact (sz rfl).elim
 .exact (sz rfl).elim
 .exact (sz rfl).elim
 .exact⟨rfl,z.symm⟩
 .exact cu ix (by decide)
def arc {w:WT} (z:w.1=C0) (h:a=3\/a=4):¬(geti lZ w.1 a).2.2.1=0:=by
 rw[z];rcases h with rfl|rfl<;>decide
structure PE (n:Nat) (c:CT) (s:ST) (t:Int) (e:ET):Prop where
 fs:FSx c s
 t0:0<=t
 t1:t<(l! c.2:Int)
 et:e.1=t
 d:l! e.2.2.2.2.2.1<=n
 f:l! e.2.2.2.2.2.2<=n
 a:e.2.1=3\/e.2.1=23\/e.2.1=5->0<=(geti sK (geti Aj c.2 t).2 (geti fB s.2.2.2 t).1).2.1/\(geti sK (geti Aj c.2 t).2 (geti fB s.2.2.2 t).1).2.1<((geti fB s.2.2.2 t).2.1.length:Int)
 b:e.2.1=4\/e.2.1=22->0<=(geti sK (geti Aj c.2 t).2 (geti fB s.2.2.2 t).1).2.2.1/\(geti sK (geti Aj c.2 t).2 (geti fB s.2.2.2 t).1).2.2.1<((geti fB s.2.2.2 t).2.1.length:Int)
structure PS (c:CT) (L:List ET) (s:ST) (t:Int) (e:ET):Prop where
 tg:TG c L s.1 t (geti fB s.2.2.2 t)
 s1:e.2.1=1\/e.2.1=2->e.2.2.2.2.1= -1
 s2:¬(e.2.1=1\/e.2.1=2)->0<=e.2.2.2.2.1/\e.2.2.2.2.1<l! c.1.2.2.2.2.2/\(geti pW c.1.2.2.2.2.2 e.2.2.2.2.1).1=t
 de:0<l! e.2.2.2.2.2.1->e.2.1=5\/(e.2.1=3\/e.2.1=4)/\¬(geti lZ c.1.1 e.2.2.1).2.2.1=0
 fr:0<l! e.2.2.2.2.2.2->e.2.1=4\/e.2.1=22
 da:Ly e.2.2.2.2.2.1
 dq:∀y∈e.2.2.2.2.2.1,FQ L t y
 fa:Ly e.2.2.2.2.2.2
 fq:∀y∈e.2.2.2.2.2.2,FQ L t y
 wt:e.2.1=16->(geti sK (geti Aj c.2 t).2 (geti fB s.2.2.2 t).1).1=21
def ab9 (n:Nat) (hn:n<=100000) (c:CT) (L:Y ET) (s:ST) (hc:CB c) (hs:SV n L s) (hI:SIv c L s) (t:Int):Ok (oY (c,s,t)) λy=>y.2=J->PE n c s t y.1/\PS c L s t y.1:=by
 unfold oY bf bw bH c8 eD dQ bn bU bR bY aZ aH;refine aX (λx=>x.2.1=c/\x.2.2.1=s/\(x.1=af->FSx c s/\0<=t/\t<(l! c.2:Int))) ?_ ?_
 .refine aA (ap6 c s hc) λb hb=>?_
  refine dM (λ_=>ak ⟨rfl,rfl,nofun⟩) λh=>?_
  refine bQ (λ_=>ak ⟨rfl,rfl,nofun⟩) λg0=>ak ⟨rfl,rfl,λg1=>?_⟩
  dsimp only at g0 g1;rw[nH]at g1;exact⟨hb h,g0,g1⟩
 rintro⟨b,D,s',z⟩ ⟨e1,e2,hb⟩;dsimp only at e1 e2 hb;subst e1 e2;refine aP (λ_=>ak nofun) λh=>?_
 let⟨hf,t0,t1⟩:=hb h;have hk:((t.toNat:Nat):Int)=t:=by omega
 have htf:=hf.t t.toNat (by omega);rw[hk]at htf;have hvt:=hf.vc.t _ (bP (T:=Aj) (xs:=D.2) (j:=t) t0 t1);have hth:=hs.ti t0 (by rw[hf.th];exact t1);have key:∀e:ET,e.1=t->l! e.2.2.2.2.2.1<=n->l! e.2.2.2.2.2.2<=n->(e.2.1=1\/e.2.1=17\/KD (geti sK (geti Aj D.2 t).2 (geti fB s'.2.2.2 t).1).1 e.2.1)->PE n D s' t e:=by
  intro e h1 h2 h3 h4;have hi:=hvt.i _ (bP (T:=sK) (xs:=(geti Aj D.2 t).2) (j:=(geti fB s'.2.2.2 t).1) htf.p0 htf.p1);refine ⟨hf,t0,t1,h1,h2,h3,λh5=>?_,λh5=>?_⟩
  .rw[htf.r];rcases h4 with h4|h4|h4
   .omega
   .omega
   .refine hi.r _ ?_;have a1:=h4.ld;have a2:=h4.ge;have a3:=h4.br;revert a1 a2 a3 h5;generalize (geti sK (geti Aj D.2 t).2 (geti fB s'.2.2.2 t).1)=i;intro h5 a1 a2 a3;exact ark (by omega)
  .rw[htf.r];rcases h4 with h4|h4|h4
   .omega
   .omega
   .refine hi.r _ ?_;have a1:=h4.st;have a2:=h4.se;revert a1 a2 h5;generalize (geti sK (geti Aj D.2 t).2 (geti fB s'.2.2.2 t).1)=i;intro h5 a1 a2;exact arj (by omega)
 have hir:=(hvt.i _ (bP (T:=sK) (xs:=(geti Aj D.2 t).2) (j:=(geti fB s'.2.2.2 t).1) htf.p0 htf.p1)).r;rw[<- htf.r]at hir;have hrg:=hc.rg _ (bP (T:=Aj) (xs:=D.2) (j:=t) t0 t1);have htg:TG D L s'.1 t (geti fB s'.2.2.2 t):=by
  have:=hI.t t.toNat (by rw[hf.th];omega);rw[hk]at this;refine this.resolve_left λh=>?_
  have:=htf.r;omega
 have hvj:=hf.vc.j t.toNat (by omega);rw[hk]at hvj;have hvj:=hvj _ (bP (T:=sK) (xs:=(geti Aj D.2 t).2) (j:=(geti fB s'.2.2.2 t).1) htf.p0 htf.p1);have hC0:=hc.wx.c;refine aO t0 (by dsimp only;rw[hf.th];exact t1) (aT ?_);refine aO t0 t1 (aT ?_);refine aO htf.p0 htf.p1 (aT ?_);have t4:t<(l! s'.1.2.2.2:Int):=by rw[hf.e3,<-hf.vc.tl];exact t1
 have tz:(geti fB s'.2.2.2 t).2.2.1.length=(geti fB s'.2.2.2 t).2.1.length:=by have:=htf.r;have:=htf.t;omega
 refine aO t0 t4 (aT ?_);refine aK (λ_=>ak λ_=>⟨key _ rfl (lm _) (lm _) (.inl rfl),⟨htg,λ_=>rfl,λh=>(h (.inl rfl)).elim,nofun,nofun,trivial,λy hy=>(by cases hy),trivial,λy hy=>(by cases hy),nofun⟩⟩) λ_=>?_
 refine aK (λh4=>aO t0 t4 (aT (ak λ_=>⟨key _ rfl (lm _) (lm _) (.inr (.inl rfl)),⟨htg,λh=>(by rcases h with h|h<;>cases h),λ_=>hvj.si (by rw[htg.wi (.inr h4)];decide),nofun,nofun,trivial,λy hy=>(by cases hy),trivial,λy hy=>(by cases hy),nofun⟩⟩))) λ_=>?_
 refine aK (λ_=>?_) λ_=>ak nofun
 refine aA (aol _) λk A=>?_
 refine aA (VN _ _ hir) λo ho=>?_
 refine aK (λ_=>ak nofun) λhk0=>?_
 have fin:∀e:ET,e.1=t->e.2.1=k->e.2.2.1=o->e.2.2.2.2.1=(geti sK (geti Aj D.2 t).2 (geti fB s'.2.2.2 t).1).2.2.2.2.2->(0<l! e.2.2.2.2.2.1->(geti sK (geti Aj D.2 t).2 (geti fB s'.2.2.2 t).1).1=10\/(geti sK (geti Aj D.2 t).2 (geti fB s'.2.2.2 t).1).1=7\/(geti sK (geti Aj D.2 t).2 (geti fB s'.2.2.2 t).1).1=9)->(0<l! e.2.2.2.2.2.2->(geti sK (geti Aj D.2 t).2 (geti fB s'.2.2.2 t).1).1=8\/(geti sK (geti Aj D.2 t).2 (geti fB s'.2.2.2 t).1).1=9\/(geti sK (geti Aj D.2 t).2 (geti fB s'.2.2.2 t).1).1=26)->TL (FQ L t) n e.2.2.2.2.2.1->TL (FQ L t) n e.2.2.2.2.2.2->PE n D s' t e/\PS D L s' t e:=by
  intro e h1 h2 h3 h4 h5 h6 h7 h8;refine ⟨key e h1 h7.len h8.len (.inr (.inr (h2▸A))),htg,λh=>?_,λh=>?_,λh=>?_,λh=>?_,h7.a,h7.f,h8.a,h8.f,λh=>A.wt (h2▸h)⟩
  .rw[h4];rw[h2]at h;exact hvj.se (A.e1 (h.resolve_left A.n1))
  .rw[h4];rw[h2]at h;exact hvj.si λh9=>h (.inr (A.e2 hk0 h9))
  .rw[h2,h3];rcases h5 h with g|g|g
   .exact .inl (A.d10 hk0 g)
   .obtain⟨q1,q2⟩:=asd hC0 (hvj.a7 g);exact .inr ⟨.inl (A.d7 hk0 g),arc hC0 (ho.1 g q1 q2)⟩
   .obtain⟨q1,q2⟩:=asd hC0 (hvj.a9 g);exact .inr ⟨.inr (A.d9 hk0 g),arc hC0 (ho.2 g q1 q2)⟩
  .rw[h2];rcases h6 h with g|g|g
   .exact .inl (A.d8 hk0 g)
   .exact .inl (A.d9 hk0 g)
   .exact .inr (A.d26 hk0 g)
 clear key htg hvj ho hC0 hrg;revert fin htf hvt hth hir tz A;dsimp only;generalize (geti fB s'.2.2.2 t)=th;generalize (geti sK _ th.1)=i;intro htf hvt hth hir tz A fin;have hlen:∀{j:Int},0<=j->j<(l! th.2.2.1:Int)->TL (FQ L t) n (geti (.sl (.int .i64)) th.2.2.1 j):=λh0 h1=>hth.l _ (bP (T:=.sl (.int .i64)) (xs:=th.2.2.1) h0 h1)
 have hA:i.1=10->0<=i.2.1/\i.2.1<(l! th.2.2.1:Int):=λh=>by
  rw[tz];exact hir _ (ark (.inr (.inr (.inr h))))
 have hB:i.1=8\/i.1=9\/i.1=26->0<=i.2.2.1/\i.2.2.1<(l! th.2.2.1:Int):=λh=>by
  rw[tz];exact hir _ (arj (h))
 have hC:i.1=7\/i.1=9->0<=i.2.2.2.1/\i.2.2.2.1<(l! th.2.2.1:Int):=λh=>by
  rw[tz];exact hir _ (ax3 (h))
 refine aX (λx=>x.2.1=th/\x.2.2.1=i/\(x.2.2.2.1.1=t/\x.2.2.2.1.2.1=k/\x.2.2.2.1.2.2.1=o/\x.2.2.2.1.2.2.2.2=i.2.2.2.2.2)/\TL (FQ L t) n x.2.2.2.2/\(0<l! x.2.2.2.2->i.1=10\/i.1=7\/i.1=9)) ?_ ?_
 .refine aK (λh=>?_) λ_=>?_
  .obtain⟨a0,a1⟩:=hA h;refine aO a0 a1 (aT ?_);have:=hlen a0 a1;exact bN (c9 this.len (by omega)) (by omega) (ak ⟨rfl,rfl,⟨rfl,rfl,rfl,rfl⟩,this,λ_=>.inl h⟩)
  refine aX (λx=>x.2.2.1=th/\x.2.2.2.1=i/\(x.2.2.2.2.1=t/\x.2.2.2.2.2.1=k/\x.2.2.2.2.2.2.1=o/\x.2.2.2.2.2.2.2.2=i.2.2.2.2.2)/\(x.1=J->i.1=7\/i.1=9)) ?_ ?_
  .refine aK (λh=>ak ⟨rfl,rfl,⟨rfl,rfl,rfl,rfl⟩,λ_=>.inl h⟩) λ_=>ak ⟨rfl,rfl,⟨rfl,rfl,rfl,rfl⟩,λh=>.inr (bF h)⟩
  rintro⟨b,z0,th',i',t',k',z1⟩ ⟨e1,e2,e3,hb9⟩;dsimp only at e1 e2 e3 hb9;subst e1 e2;refine aP (λh=>?_) λ_=>ak ⟨rfl,rfl,e3,TL.nil n,nofun⟩
  let⟨a0,a1⟩:=hC (hb9 h);refine aO a0 a1 (aT ?_);have:=hlen a0 a1;exact bN (c9 this.len (by omega)) (by omega) (ak ⟨rfl,rfl,e3,this,λ_=>.inr (hb9 h)⟩)
 rintro⟨z0,th',i',⟨t',k',z1⟩,ds⟩ ⟨e1,e2,e3,hd,hd2⟩;dsimp only at e1 e2 e3 hd hd2;subst e1 e2;refine aX (λx=>(x.2.1.1=t/\x.2.1.2.1=k/\x.2.1.2.2.1=o/\x.2.1.2.2.2.2=i'.2.2.2.2.2)/\x.2.2.1=ds/\TL (FQ L t) n x.2.2.2/\(0<l! x.2.2.2->i'.1=8\/i'.1=9\/i'.1=26)) ?_ ?_
 .refine aX (λx=>x.2=(z0,th',i',(t',k',z1),ds)/\(x.1=J->i'.1=8\/i'.1=9\/i'.1=26)) ?_ ?_
  .exact aK (λh=>ak ⟨rfl,λ_=>.inl h⟩) λ_=>aK (λh=>ak ⟨rfl,λ_=>.inr (.inl h)⟩) λ_=>ak ⟨rfl,λh=>.inr (.inr (bF h))⟩
  rintro⟨b,x⟩ ⟨e,hb9⟩;dsimp only at e hb9;subst e;refine aP (λh=>?_) λ_=>ak ⟨e3,rfl,TL.nil n,nofun⟩
  let⟨a0,a1⟩:=hB (hb9 h);refine aO a0 a1 (aT ?_);have:=hlen a0 a1;exact bN (c9 this.len (by omega)) (by omega) (ak ⟨e3,rfl,this,λ_=>hb9 h⟩)
 rintro⟨z2,⟨t2,k2,o2,z3,si⟩,d2,f2⟩ ⟨e1,e2,h1,h2⟩;dsimp only at e1 e2 h1 h2;subst e2;let⟨g1,g2,g3,g4⟩:=e1;exact ak λ_=>fin _ g1 g2 g3 g4 hd2 h2 hd h1
def at6 {n:Nat} {k:Int} (h0:0<=k) (h1:k<n):(geti iI (thP n) k).1=0\/(geti iI (thP n) k).1=1:=by
 have hm:=bP (T:=iI) (xs:=thP n) h0 (by rw[LG];exact h1);revert hm;generalize geti iI (thP n) k=z;intro hm;cases n with
 |zero=>cases hm
 |succ n=>
  rcases aV.1 hm with rfl|hm
  .exact .inr rfl
  .grind
def ab8 (c:CT) (hvt:kN c=Z J) (hv:VC c):Ok (wj c) λs=>SV 0 [] s/\SIv c [] s:=by
 unfold wj bf bw bH cE c8 eD dQ hY bU mK bR bY aZ c7 aH cV;refine bc hvt (dM nofun λ_=>?_);let⟨vc,vl,vd,vf,_,vt,_⟩:=id hv.vl;have htl:=hv.tl;refine bc (Ph c.1 hv.vl) ?_;refine cD (l! c.1.1) (λi x=>x.1=(i:Int)/\x.2.1=c/\x.2.2.2.1=SJ c.1/\x.2.2.2.2=(c.1.1.take i).map λc=>c.2.2.2.2) ?_ ?_ ⟨rfl,rfl,rfl,rfl⟩
 .rintro i ⟨a,c',z,y',l⟩ hi ⟨L,e2,D,A⟩;dsimp only at L e2 D A;subst L e2 D A;refine dB ?_;refine cH (aT (a! (ak ?_)));dsimp only;exact⟨ig,rfl,rfl,by rw[pl (T:=lZ) hi,cG];rfl⟩
 rintro⟨a,c',z,y',l⟩ ⟨L,e2,D,A⟩;dsimp only at L e2 D A;subst L e2 D;rw[cQ]at A;subst A;refine dw ?_;refine aA (P:=λs=>SV 0 [] s/\SIv c' [] s) ?_ λr hr=>ak hr
 refine cD (l! c'.1.2.2.2.1) (λi x=>x.1=(i:Int)/\x.2.1=c'/\x.2.2.2.1=SJ c'.1/\x.2.2.2.2.1=ce0 c'.1/\x.2.2.2.2.2=aC i 0) ?_ ?_ ⟨rfl,rfl,rfl,rfl,rfl⟩
 .rintro i ⟨a,c,z,y,l,f⟩ hi ⟨L,e2,D,A,e5⟩;dsimp only at L e2 D A e5;subst L e2 D e5;refine dB ?_;refine a! (ak ?_);dsimp only;exact⟨ig,rfl,rfl,A,by rw[wY]⟩
 rintro⟨a,c,z,y,l,f⟩ ⟨L,e2,D,A,e5⟩;dsimp only at L e2 D A e5;subst L e2 D A e5;refine dw ?_;refine aA (P:=λs=>SV 0 [] s/\SIv c [] s) ?_ λr hr=>ak hr
 refine cD (l! c.2) (λi x=>x.1=(i:Int)/\x.2.1=c/\x.2.2.2.1=SJ c.1/\x.2.2.2.2.1=ce0 c.1/\x.2.2.2.2.2.1=fu0 c.1/\l! x.2.2.2.2.2.2=i/\∀t∈x.2.2.2.2.2.2,(∀F,TH F 0 t)/\t.2.2.2=0) ?_ ?_ ⟨rfl,rfl,rfl,rfl,rfl,rfl,λt ht=>(by cases ht)⟩
 .rintro i ⟨a,c,z,y,l,f,th⟩ hi ⟨L,e2,D,A,e4b,e5,e6⟩;dsimp only at L e2 D A e4b e5 e6;subst L e2 D;refine dB ?_;have hin:((i:Nat):Int)<(l! c.2:Int):=by omega
  have hvt:=hv.t _ (bP (T:=Aj) (xs:=c.2) (j:=(i:Int)) (by omega) hin);have q0:=hvt.r0;have q1:=hvt.r1;refine aO (by simp) hin (aT ?_);refine cR (cR (dm q0 (dm (dC _) (bN (by grind) (by omega) ?_))));refine aO (by simp) hin (aT ?_);refine cR (cR (dm q0 (dm (dC _) (bN (by grind) (by omega) ?_))));refine a! (ak ?_);dsimp only;refine ⟨ig,rfl,rfl,A,e4b,by simp;omega,λt ht=>?_⟩;rcases bO.1 ht with h|h
  .exact e6 t h
  .rw[aE]at h;subst h;refine ⟨λF=>⟨?_,?_,λl hl=>?_,dC _,dC _⟩,rfl⟩
   .grind
   .grind
   .rw[Ao hl];exact TL.nil 0
 .rintro⟨a,c,z,y,l,f,th⟩ ⟨L,e2,D,A,e4b,e5,e6⟩;dsimp only at L e2 D A e4b e5 e6;subst L e2 D A e4b;refine dw (ak ?_);have hm:∀k:Nat,k<l! th->_:=λk hk=>e6 _ (bP (T:=fB) (xs:=th) (j:=(k:Int)) (by omega) (by omega))
  refine ⟨⟨YT hv.vl,rfl,λk hk=>(hm k hk).1 _⟩,⟨.nil,λk hk=>.inr ?_⟩⟩;dsimp only at hk;have hst:=at6 (n:=l! c.1.2.2.2.2.1) (k:=(k:Int)) (by omega) (by omega);exact⟨(hm k hk).2,λh=>(by rcases hst with q|q<;>rcases h with h|h<;>exact cu (q.symm.trans h) (by decide)),λ_=>hst⟩
def Mg {th:Y d?} {x j:Int} (h0:0<=a) (h1:a<l! th) (z:0<=j):(geti iI (Bv th a x) j).1=if j=a then x else (geti iI th j).1:=by
 unfold Bv;rw[jW (T:=iI) _ _ _ _ h0 h1 z];split<;>rfl
def as5 {th:Y d?} {x j:Int} (h0:0<=a) (h1:a<l! th) (z:0<=j):(geti iI (cdP th a x) j).1=(geti iI th j).1:=by
 unfold cdP;rw[jW (T:=iI) _ _ _ _ h0 h1 z];split
 next h=>rw[h]
 .rfl
def asc {th:Y d?} {j:Int} (h0:0<=a) (h1:a<l! th) (z:0<=j):(geti iI (atP th a b) j).1=(geti iI th j).1:=by
 unfold atP;rw[jW (T:=iI) _ _ _ _ h0 h1 z];split
 next h=>rw[h]
 .rfl
def arp (A:0<=a):∀(l:η) (th:Y d?),(∀u:Int,u∈l->0<=u/\u<l! th)->(geti iI (Gj th l) a).1=if a∈l then 4 else (geti iI th a).1
 |[],th,_=>by simp[Gj]
 |x::r,th,h=>by
  have z:=h x (cX ..);have D:=arp A r (Bv th x 4) λu L=>by unfold Bv;rw[bT];exact h u (bS _ L)
  have e:Gj th (x::r)=Gj (Bv th x 4) r:=rfl;rw[e,D,Mg z.1 z.2 A]
  grind
def X7 {w:WT} {s:SY} {k o u v:Int} {A:SY} (h:(A,v)=pV w s a k o u):pV w s a k o v=(A,v):=by
 by_cases D:k=18
 .subst D;rw[Fv]at h ⊢;by_cases z:l! (wl s.2.2.2 o (l! s.2.2.2))=0
  .grind
  .rw[av z]at h ⊢;have hm:=L2 u z;generalize wl s.2.2.2 o (l! s.2.2.2)=l at h z hm ⊢;obtain⟨rfl,rfl⟩:=Prod.mk.inj h;have:EC l (EC l u)=EC l u:=by
    rw[EC,av z,aD (EM.2 hm)]
   rw[this]
 .rw[ae0 _ _ _ _ _ _ u D,<-h]
def auf {w:WT} {s:SY} {k o:Int} (u:Int) (he:EN w s a k o) (hr:Yh w s a k o) {j:Int} (h0:0<=j):(¬j=a->(geti iI (pV w s a k o u).1.2.2.2 j).1=(geti iI s.2.2.2 j).1\/((geti iI s.2.2.2 j).1=3/\(geti iI (pV w s a k o u).1.2.2.2 j).1=4)\/((geti iI s.2.2.2 j).1=0/\(geti iI (pV w s a k o u).1.2.2.2 j).1=1))/\(j=a->¬k=16->¬(geti iI (pV w s a k o u).1.2.2.2 j).1=3/\¬(geti iI (pV w s a k o u).1.2.2.2 j).1=4):=by
 have t0:=he.t0;have t1:a<l! s.2.2.2:=by have:=he.t1;have:=he.e3;omega
 have A:=hr.r;have hml:∀u:Int,u∈wl s.2.2.2 o (l! s.2.2.2)->0<=u/\u<l! s.2.2.2:=λu hu=>⟨(sY.1 hu).1,(sY.1 hu).2.1⟩
 have h3:∀u:Int,u∈wl s.2.2.2 o (l! s.2.2.2)->(geti iI s.2.2.2 u).1=3:=λu hu=>by
  have:=(sY.1 hu).2.2;unfold PK at this;rw[al]at this;exact bF this.1
 have same:¬k=1->¬k=17->∀th:Y d?,(geti iI th j).1=(geti iI s.2.2.2 j).1->(¬j=a->(geti iI th j).1=(geti iI s.2.2.2 j).1\/((geti iI s.2.2.2 j).1=3/\(geti iI th j).1=4)\/((geti iI s.2.2.2 j).1=0/\(geti iI th j).1=1))/\(j=a->¬k=16->¬(geti iI th j).1=3/\¬(geti iI th j).1=4):=λt b th h=>⟨λ_=>.inl h,λh2 _=>by rw[h,h2,A t b];decide⟩
 have st:∀x:Int,¬x=3\/k=16->¬x=4->∀th:Y d?,(geti iI th j).1=(if j=a then x else (geti iI s.2.2.2 j).1)->(¬j=a->(geti iI th j).1=(geti iI s.2.2.2 j).1\/((geti iI s.2.2.2 j).1=3/\(geti iI th j).1=4)\/((geti iI s.2.2.2 j).1=0/\(geti iI th j).1=1))/\(j=a->¬k=16->¬(geti iI th j).1=3/\¬(geti iI th j).1=4):=λx hx hx4 th h=>⟨λhn=>.inl (by rw[h,av hn]),λh2 h16=>by rw[h,aD h2];exact⟨hx.resolve_right h16,hx4⟩⟩
 have L:∀x:Int,a<l! (Bv s.2.2.2 a x):=λx=>by unfold Bv;rw[bT];exact t1
 by_cases k1:k=1
 .subst k1;exact st 2 (.inl (by decide)) (by decide) _ (Mg t0 t1 h0)
 by_cases k2:k=2
 .subst k2;exact st 5 (.inl (by decide)) (by decide) _ (Mg t0 t1 h0)
 by_cases k16:k=16
 .subst k16;exact st 3 (.inr rfl) (by decide) _ ((as5 t0 (L _) h0).trans (Mg t0 t1 h0))
 by_cases k17:k=17
 .subst k17;exact st 2 (.inl (by decide)) (by decide) _ ((as5 t0 (L _) h0).trans (Mg t0 t1 h0))
 by_cases k14:k=14
 .subst k14;exact same k1 k17 _ (asc t0 t1 h0)
 by_cases k15:k=15
 .subst k15;exact same k1 k17 _ (asc t0 t1 h0)
 by_cases k18:k=18
 .subst k18;rw[Fv];by_cases hl:l! (wl s.2.2.2 o (l! s.2.2.2))=0
  .rw[aD hl];exact same k1 k17 _ rfl
  .rw[av hl];have hc:=L2 u hl;have hc1:=hml _ hc;have z:=h3 _ hc;dsimp only;rw[Mg hc1.1 hc1.2 h0];generalize EC (wl s.2.2.2 o (l! s.2.2.2)) u=c at z;by_cases D:j=c
   .rw[aD D,D];exact⟨λ_=>.inr (.inl ⟨z,rfl⟩),λh _=>by rw[h,A k1 k17]at z;exact cu z (by decide)⟩
   .rw[av D];exact⟨λ_=>.inl rfl,λh _=>by rw[h,A k1 k17];decide⟩
 by_cases k19:k=19
 .subst k19;show (_->(geti iI (Gj _ _) j).1=_\/_/\(geti iI (Gj _ _) j).1=_\/_/\(geti iI (Gj _ _) j).1=_)/\(_->_->¬(geti iI (Gj _ _) j).1=_/\¬(geti iI (Gj _ _) j).1=_)
  rw[arp h0 _ _ hml];by_cases D:j∈wl s.2.2.2 o (l! s.2.2.2)
  .rw[aD D];have z:=h3 _ D;exact⟨λ_=>.inr (.inl ⟨z,rfl⟩),λh _=>by rw[h,A k1 k17]at z;exact cu z (by decide)⟩
  .rw[av D];exact⟨λ_=>.inl rfl,λh _=>by rw[h,A k1 k17];decide⟩
 by_cases k20:k=20
 .subst k20;let⟨o0,o1⟩:=he.nm.th (.inl rfl);let⟨hot,ho0⟩:=hr.sp rfl;have o1':o<l! s.2.2.2:=by rw[he.e3];exact o1
  show (_->(geti iI (Bv _ _ _) j).1=_\/_/\(geti iI (Bv _ _ _) j).1=_\/_/\(geti iI (Bv _ _ _) j).1=_)/\(_->_->¬(geti iI (Bv _ _ _) j).1=_/\¬(geti iI (Bv _ _ _) j).1=_)
  rw[Mg o0 o1' h0];by_cases D:j=o
  .rw[aD D,D];exact⟨λ_=>.inr (.inr ⟨ho0,rfl⟩),λh _=>(hot h).elim⟩
  .rw[av D];exact⟨λ_=>.inl rfl,λh _=>by rw[h,A k1 k17];decide⟩
 refine same k1 k17 _ ?_;unfold pV;rw[av k1,av k2];repeat' split
 all_goals first|rfl|omega
def ap5 {e e':ET} (h1:e'.1=e.1) (z:e'.2.1=e.2.1) (t:Int):fl [e'] t=fl [e] t:=by
 by_cases h:e.1=t
 .rw[CF h,CF (h1.trans h)];unfold rdE;rw[z]
 .rw[zK h,zK (λg=>h (h1.symm.trans g))]
def ar3 {e e':ET} (h1:e'.1=e.1) (z:e'.2.1=e.2.1) {L:Int} (h:FQ (k++[e]) L a):FQ (k++[e']) L a:=by
 unfold FQ Ps at h ⊢;rw[wO,ap5 h1 z,<-wO];exact h
def Np {T:Ty} (xs:Y T.den) (i k:Nat) (x:T.den) (hi:i<l! xs):geti _ (xs.set i x) (k:Int)=if k=i then x else geti _ xs (k:Int):=by
 refine (jW xs (i:Int) (k:Int) x (by omega) (by omega) (by omega)).trans ?_
 grind
abbrev D!:=ST×ET×Bool
def SQ (n:Nat) (c:CT) (L:Y ET) (y:D!):Prop:=y.2.2=J->SV (n+1) (L++[y.2.1]) y.1/\SIv c (L++[y.2.1]) y.1/\PH c.1 y.2.1/\EvS y.2.1
def aqf (hn:j+1<=100000) {c:CT} {s:ST} {o v0 si:Int} {fs:η} {sy:SY} (hs:SV j k s) (hI:SIv c k s) (hp:PE j c s (i:Int) ((i:Int),a,o,v0,si,A,fs)) (hm:PS c k s (i:Int) ((i:Int),a,o,v0,si,A,fs)) (he:EN c.1 s.1 (i:Int) a o) (hr:Yh c.1 s.1 (i:Int) a o) (ha:AP j s.1 sy) (z:Int) (ce fu:η) (t':TT) (hap:(pV c.1 s.1 (i:Int) a o z).1=sy) (hva:VA c.1 s.1 s.2.1 s.2.2.1 (i:Int) a o z) (hce:ce=ceP s.2.1 ((i:Int),a,o,z,si,A,fs)) (hfu:fu=fuP s.2.2.1 ((i:Int),a,o,z,si,A,fs)) (ht:TH (FQ (k++[((i:Int),a,o,v0,si,A,fs)]) (i:Int)) (j+1) t') (hg:l! t'.2.1=0\/t'.2.2.2=bl .i64 ((geti fB s.2.2.2 (i:Int)).2.2.2+1)/\(a=16->t'.1=(geti fB s.2.2.2 (i:Int)).1)):SQ j c k ((sy,ce,fu,s.2.2.2.set i t'),((i:Int),a,o,z,si,A,fs),J):=by
 intro _;have q1:=hp.t1;have q2:=hp.fs.th;have hil:i<l! s.2.2.2:=by omega
 have hln:=hs.ln;refine ⟨⟨ha.toSB hs.sb hn,by simp[hln],λL D=>?_⟩,⟨?_,λL D=>?_⟩,⟨he.nm,he.t0,he.t1,he.cd⟩,⟨c9 hp.d (by omega),c9 hp.f (by omega)⟩⟩
 .dsimp only at D ⊢;rw[dv]at D;rw[Np (T:=fB) _ _ _ _ hil];split
  next h=>subst h;exact ht.mono (bK _) λy ds=>ar3 (e:=((L:Int),a,o,v0,si,A,fs)) (e':=((L:Int),a,o,z,si,A,fs)) rfl rfl ds
  .exact (hs.t L D).mono (by omega) λy ds=>⟨ds.1,ds.2.app _⟩
 .rw[<- hap,hce,hfu];exact hI.ac.snoc (e:=((i:Int),a,o,z,si,A,fs)) ⟨he,hr,hm.s1,hm.s2,hm.de,hm.fr,⟨hm.da,λx hx=>⟨(hm.dq x hx).1,(hm.dq x hx).2.lt⟩⟩,⟨hm.fa,λx hx=>⟨(hm.fq x hx).1,(hm.fq x hx).2.lt⟩⟩,λy ds=>(hm.dq y ds).2,λy ds=>(hm.fq y ds).2,hva⟩
 .dsimp only at D ⊢;rw[dv]at D;rw[Np (T:=fB) _ _ _ _ hil];let⟨Px,st2⟩:=auf z he hr (j:=(L:Int)) (by omega);rw[hap]at Px st2;have hfl:=WD k (i:Int);split
  .rename_i h;subst h;rcases hg with hg|⟨g1,g2⟩
   .exact .inl hg
   .refine .inr ⟨?_,λhw=>?_,λhz=>?_⟩
    .rw[g1,hm.tg.ev,wO,CF rfl,ig];simp
    .have h16:a=16:=ya λh=>hw.elim (st2 rfl h).1 (st2 rfl h).2
     rw[g2 h16];exact hm.wt h16
    .rw[wO,CF rfl]at hz;simp at hz
  .rename_i h;have hki:¬(L:Int)=(i:Int):=by omega
   have hfo:∀e:ET,e.1=(i:Int)->fl (k++[e]) (L:Int)=fl k (L:Int):=λe h=>by
    rw[wO,zK (by omega),jU]
   have Px:=Px hki;refine (hI.t L D).imp id λg=>⟨by rw[hfo _ rfl];exact g.ev,λhw=>g.wi (by
    rcases Px with h1|⟨h1,_⟩|⟨_,h1⟩
    .rw[<- h1];exact hw
    .exact .inl h1
    .exact hw.elim (λh=>cu (h1.symm.trans h) (by decide)) λh=>cu (h1.symm.trans h) (by decide)),λhz=>?_⟩
   rw[hfo _ rfl]at hz;have g2:=g.nw hz
   grind
def Y5 {α:Type} (o:M α):aB o (λ_=>(U:M R))=U:=by cases o<;>rfl
def alf (b:Bool):chk b (λ_=>(U:M R))=U:=by cases b<;>rfl
def aok {α:Type} (x:α):lt x (λ_=>(U:M R))=U:=rfl
def OkN (o:M R) (Q:R->Prop):Prop:=o=U\/Ok o Q
def OkN.or {a b:M R} {Q:R->Prop} (A:OkN a Q) (z:OkN b Q):OkN (orE a b) Q:=by
 rcases A with rfl|⟨y,rfl,h⟩
 .exact z
 .exact .inr ⟨y,rfl,h⟩
def Ok.orL {a b:M R} {Q:R->Prop} (z:Ok a Q):Ok (orE a b) Q:=by
 obtain⟨y,rfl,h⟩:=z;exact⟨y,rfl,h⟩
def OkN.orR {a b:M R} {Q:R->Prop} (A:OkN a Q) (z:Ok b Q):Ok (orE a b) Q:=by
 rcases A with rfl|⟨y,rfl,h⟩
 .exact z
 .exact⟨y,rfl,h⟩
def Mf (hn:i+1<=100000) {c:CT} {s:ST} {u:Int} (hc:CB c) (hs:SV i k s) (hI:SIv c k s) (G:M D!->Prop) (hG:∀y,SQ i c k y->G (Z y)) (L:ET×Bool->SY×u!->M D!)
 (hk:∀e v A,PE i c s a e->PS c k s a e->EN c.1 s.1 a e.2.1 e.2.2.1->Yh c.1 s.1 a e.2.1 e.2.2.1->AP i s.1 A->(A,v)=pV c.1 s.1 a e.2.1 e.2.2.1 u->G (L (e,J) (A,v,J))):
 G (aB (oY (c,s,a)) λz=>aI (!z.2) (Z ((([],0,[],[]),[],[],[]),(0,0,0,0,0,[],[]),af)) (aB (qK (c.1,s.1,a,z.1.2.1,z.1.2.2.1,u)) λD=>aI (!D.2.2) (Z ((([],0,[],[]),[],[],[]),(0,0,0,0,0,[],[]),af)) (L z D))):=by
 have hz:=hG ((([],0,[],[]),[],[],[]),(0,0,0,0,0,[],[]),af) nofun
 let⟨⟨e,b⟩,h1,h2⟩:=ab9 i (by omega) c k s hc hs hI a;rw[h1,obs];cases b with
 |false=>exact hz
 |true=>
  let⟨hp,hm⟩:=h2 rfl;have hcd:l! c.1.2.2.1<=1000:=by have:=hp.fs.vc.vl.d;omega
  let⟨⟨A,v,b⟩,h3,h4,_,_⟩:=Yw c.1 s.1 hs.sb hcd a e.2.1 e.2.2.1 u;have e0:∀{R:Type} (t b:M R),aI (!J) t b=b:=λ_ _=>rfl
  rw[e0,h3,obs];cases b with
  |false=>exact hz
  |true=>grind
def kdx (k:Int):k=1\/k=16\/k=2\/k=3\/k=23\/k=4\/k=22\/k=5\/((k=1)=False/\(k=16)=False/\(k=2)=False/\(k=3)=False/\(k=23)=False/\(k=4)=False/\(k=22)=False/\(k=5)=False):=by grind
def KR (n:Nat) (c0:CT) (L:Y ET) (i:Nat) (u:Int) (l:Y TT) (z:R) (k:Int->(CT×SY×(ν)×Int×(υ)×ET×(ν)×(η)×(η)×R×(η)×Y η)->M D!):Prop:=
 ∀(F:Int->Prop) (p:Int) (sy:SY) (kd o v si:Int) (ds fs ce fu A:η) (T:Y η) (ev:Int),
  (kd≠16->kd≠2->Ok (oI (geti Aj c0.2 (i:Int),(p,A,T,bl .i64 (ev+1)))) λy=>TH F (n+1) y.1/\(l! y.1.2.1=0\/y.1.2.2.2=bl .i64 (ev+1)))->
  (kd=16\/kd=2->TH F (n+1) (p,A,T,bl .i64 (ev+1)))->
  (∀D,TH F (n+1) D->(l! D.2.1=0\/D.2.2.2=bl .i64 (ev+1)/\(kd=16->D.1=p))->SQ n c0 L ((sy,ce,fu,l.set i D),((i:Int),kd,o,v,si,ds,fs),J))->(i:Int)<(l! c0.2:Int)->
  ∀pc,Ok (k p (c0,sy,((i:Int),u),0,(0,0,0,0,0),((i:Int),kd,o,v,si,ds,fs),(pc,ev),ce,fu,z,A,T)) (SQ n c0 L)
def EE (N n:Nat) {cp:SY×(η)×(η)×Y TT->M (Int×(Y (Int×η))×(θ)×(Y (Int×Int×Bool))×(η)×(η)×R×(η)×Y η)} {pc ev:R->Int} {k:Int->(CT×SY×(ν)×Int×(υ)×ET×(ν)×(η)×(η)×R×(η)×Y η)->M D!} (hn:i+1<=100000) (c0:CT) (L:Y ET) (s:ST) (t u:Int) (hc:CB c0) (hs:SV i L s) (hI:SIv c0 L s)
 (h0:∀sy ce fu (l:Y TT),l! l<=4->l! l≠N->cp (sy,ce,fu,l)=U)
 (h1:∀sy ce fu (l:Y TT),SV i L (sy,ce,fu,l)->l! ce<=1000->l! fu<=1000->l! l=N->n<N/\∃y,cp (sy,ce,fu,l)=Z y/\y.2.2.2.2.1=ce/\y.2.2.2.2.2.1=fu/\y.2.2.2.2.2.2.2.1=(geti fB l (n:Int)).2.1/\y.2.2.2.2.2.2.2.2=(geti fB l (n:Int)).2.2.1/\pc y.2.2.2.2.2.2.1=(geti fB l (n:Int)).1/\ev y.2.2.2.2.2.2.1=(geti fB l (n:Int)).2.2.2/\KR i c0 L n u l y.2.2.2.2.2.2.1 k):
 OkN (SG (n:Int) cp pc ev k (c0,s,t,u)) (SQ i c0 L)/\(l! s.2.2.2=N->t=(n:Int)->Ok (SG (n:Int) cp pc ev k (c0,s,t,u)) (SQ i c0 L)):=by
 by_cases hz:l! s.2.2.2=N/\t=(n:Int)
 .obtain⟨hz1,rfl⟩:=hz;suffices h:Ok (SG (n:Int) cp pc ev k (c0,s,(n:Int),u)) (SQ i c0 L) from ⟨.inr h,λ_ _=>h⟩
  unfold SG hZ iR kl bf bw bH cE dJ gf iK ji HX Prod.v Prod.B c8 eD xm Prod.w ck bn bY kK aH;refine Mf hn hc hs hI (λo=>Ok o (SQ i c0 L)) (λy h=>ak h) _ λe v sy hp hm he hr ha hq=>?_
  let⟨sy0,ce,fu,l⟩:=s;let⟨e1,kd,o,e4,site,ds,fs⟩:=e;have het:=hp.et;dsimp only at hz1 he hr ha hq het;subst het;have vl:=hp.fs.vc.vl;have hce:=hp.fs.ce;have hfu:=hp.fs.fu;dsimp only at hce hfu;let⟨hiN,⟨q1,q2,q3,q4,ce',fu',z,R0,T0⟩,hcp,g1,g2,g3,g4,hpc,hve,hk⟩:=h1 sy0 ce fu l hs (by have:=vl.c;omega) (by have:=vl.f;omega) hz1;dsimp only at g1 g2 g3 g4 hpc hve hk;rw[g1,g2,g3,g4]at hcp;let⟨_,_,nmce,_,_,_,nmfu,_,_,_⟩:=id he.nm;have t1:(n:Int)<(l! c0.2:Int):=hp.t1;have htf:TF (geti Aj c0.2 (n:Int)) (geti fB l (n:Int)):=hp.fs.t n (by omega);have hA:=hp.a;have hB:=hp.b;dsimp only at hA hB;have hvt:=hp.fs.vc.t _ (bP (T:=Aj) (xs:=c0.2) (j:=(n:Int)) (by omega) t1);have hci:=hc.ins _ (bP (T:=Aj) (xs:=c0.2) (j:=(n:Int)) (by omega) t1);have hth:TH (FQ L (n:Int)) i (geti fB l (n:Int)):=hs.t n (by dsimp only;omega);have done:=aqf hn hs hI hp hm he hr ha;have htg:=hm.tg;have hrun:=hr.r;dsimp only at done htg;have hgv:kd=3\/kd=23->FQ (L++[((n:Int),kd,o,e4,site,ds,fs)]) (n:Int) (geti fB l (n:Int)).2.2.2:=λh3=>by
   have D:=hrun (by omega) (by omega);have hn0:¬l! (fl L (n:Int))=0:=λh=>(htg.nw h).elim (λg=>cu (D.symm.trans g) (by decide)) λg=>cu (D.symm.trans g) (by decide)
   refine ⟨by rw[htg.ev];omega,Ps.last (e:=((n:Int),kd,o,e4,site,ds,fs)) ?_ htg.ev⟩;unfold rdE;rcases h3 with h|h
   .rw[aS h];rfl
   .simp[h]
  have vaA:¬kd=3->¬kd=23->¬kd=5->VA c0.1 sy0 ce fu (n:Int) kd o v:=λa b c=>⟨λh=>(a h).elim,λh=>(b h).elim,λh=>(c h).elim,λ_ _ _ _ _=>by rw[X7 hq]⟩
  have apA:(pV c0.1 sy0 (n:Int) kd o v).1=sy:=by rw[X7 hq]
  have apB:¬kd=18->∀v',(pV c0.1 sy0 (n:Int) kd o v').1=sy:=λh v'=>by rw[ae0 _ _ _ _ _ _ u h,<-hq]
  have keep:∀x∈(geti fB l (n:Int)).2.2.1,TL (FQ (L++[((n:Int),kd,o,e4,site,ds,fs)]) (n:Int)) (i+1) x:=λx hx=>(hth.l x hx).mono (by omega) λy hy=>⟨hy.1,hy.2.app _⟩
  clear g3 g4 hm hI hrun htg;revert done hgv keep;generalize FQ (L++[((n:Int),kd,o,e4,site,ds,fs)]) (n:Int)=F;generalize geti fB l (n:Int)=th at hcp hpc hve htf hA hB hth ⊢;intro done hgv keep;refine bc hcp ?_;dsimp only;rw[hpc,hve];refine qV (aS rfl) ?_;refine aO (by omega) t1 (aT (aO htf.p0 htf.p1 (aT ?_)));have htz:l! th.2.2.1=l! th.2.1:=by have:=htf.r;have:=htf.t;omega
  have fin:∀(p:Int) (A:η) (T:Y η),l! A=l! th.2.1->l! T=l! th.2.2.1->(∀x∈T,TL F (i+1) x)->Ok (oI (geti Aj c0.2 (n:Int),(p,A,T,bl .i64 (th.2.2.2+1)))) λy=>TH F (i+1) y.1/\(l! y.1.2.1=0\/y.1.2.2.2=bl .i64 (th.2.2.2+1)):=λp A T h1 D h3=>by
   have a1:=hth.e0;have a2:=hth.e1;have a3:=hth.r;have a4:=hth.t;rw[jA (n:=th.2.2.2+1) (by omega) (by omega)];exact agw (i+1) hn _ hci hvt _ ⟨by dsimp only;omega,by dsimp only;omega,h3,by dsimp only;omega,by dsimp only;omega⟩
  have mark:kd=3\/kd=23->∀j:Int,∀x∈ch th.2.2.1 j [th.2.2.2],TL F (i+1) x:=λh3 j x hx=>by
   rcases FY hx with h|h
   .exact keep x h
   .rw[h];exact⟨⟨λy hy=>(by cases hy),trivial⟩,λy hy=>by rw[aE]at hy;have:=hth.e0;have:=hth.e1;rw[hy];exact⟨by omega,by omega⟩,λy hy=>by rw[aE]at hy;rw[hy];exact hgv h3⟩
  have nopark:TH F (i+1) (th.1,th.2.1,th.2.2.1,bl .i64 (th.2.2.2+1)):=by
   have a1:=hth.e0;have a2:=hth.e1;rw[jA (n:=th.2.2.2+1) (by omega) (by omega)];exact⟨hth.r,hth.t,keep,by dsimp only;omega,by dsimp only;omega⟩
  clear hp hs hc h0 h1 hcp g1 g2 hr ha hq he;generalize (geti sK (geti Aj c0.2 (n:Int)).2 th.1)=ins at hA hB ⊢;rcases kdx kd with rfl|rfl|rfl|rfl|rfl|rfl|rfl|rfl|⟨k1,k2,k3,k4,k5,k6,k7,k8⟩
  case inr.inr.inr.inr.inr.inr.inr.inr=>
   simp only[k1,k2,k3,k4,k5,k6,k7,k8,bI,ey,Rb];refine hk F _ _ _ _ _ _ _ _ _ _ _ _ _ (λ_ _=>fin _ _ _ rfl rfl keep) (λh=>by rw[k2,k3]at h;exact (h.elim id id).elim) (λt' h g=>?_) t1 _;exact done v ce fu t' apA (vaA (of_eq_false k4) (of_eq_false k5) (of_eq_false k8)) (av (of_eq_false k6)).symm (av (of_eq_false k7)).symm h (g.imp id λh=>⟨h.1,λD=>(of_eq_false k2 D).elim⟩)
  all_goals simp only[bI,ey,Rb]
  .refine hk F _ _ _ _ _ _ _ _ _ _ _ _ _ (λ_ _=>fin _ _ _ rfl rfl keep) (λh=>by omega) (λt' h g=>?_) t1 _;exact done v ce fu t' apA (vaA (by decide) (by decide) (by decide)) rfl rfl h (g.imp id λh=>⟨h.1,nofun⟩)
  .refine hk F _ _ _ _ _ _ _ _ _ _ _ _ _ (λh _=>(h rfl).elim) (λ_=>nopark) (λt' h g=>?_) t1 _;exact done v ce fu t' apA (vaA (by decide) (by decide) (by decide)) rfl rfl h g
  .refine hk F _ _ _ _ _ _ _ _ _ _ _ _ _ (λ_ h=>(h rfl).elim) (λ_=>nopark) (λt' h g=>?_) t1 _;exact done v ce fu t' apA (vaA (by decide) (by decide) (by decide)) rfl rfl h (g.imp id λh=>⟨h.1,nofun⟩)
  .obtain⟨o0,o1⟩:=nmce (.inl rfl);rw[<- hce]at o1;let⟨a0,a1⟩:=hA (.inl rfl);have a2:ins.2.1<(l! th.2.2.1:Int):=by rw[htz];exact a1
   refine ij (aO o0 o1 (aO o0 o1 (ak ?_)));simp only[bI,ey,Rb];refine ij (aO a0 a1 (aO a0 a1 (aO a0 a2 (aO a0 a2 (ak ?_)))));refine hk F _ _ _ _ _ _ _ _ _ _ _ _ _ (λ_ _=>fin _ _ _ (bT ..) (bT ..) (mark (.inl rfl) _)) (λh=>by omega) (λt' h g=>?_) t1 _;exact done _ ce fu t' (apB (by decide) _) ⟨λ_=>rfl,nofun,nofun,λh=>(h rfl).elim⟩ rfl rfl h (g.imp id λh=>⟨h.1,nofun⟩)
  .obtain⟨o0,o1⟩:=nmfu (.inr rfl);rw[<- hfu]at o1;let⟨a0,a1⟩:=hA (.inr (.inl rfl));have a2:ins.2.1<(l! th.2.2.1:Int):=by rw[htz];exact a1
   refine ij (aO o0 o1 (aO o0 o1 (ak ?_)));simp only[bI,ey,Rb];refine ij (aO a0 a1 (aO a0 a1 (aO a0 a2 (aO a0 a2 (ak ?_)))));refine hk F _ _ _ _ _ _ _ _ _ _ _ _ _ (λ_ _=>fin _ _ _ (bT ..) (bT ..) (mark (.inr rfl) _)) (λh=>by omega) (λt' h g=>?_) t1 _;exact done _ ce fu t' (apB (by decide) _) ⟨nofun,λ_=>rfl,nofun,λ_ h=>(h rfl).elim⟩ rfl rfl h (g.imp id λh=>⟨h.1,nofun⟩)
  .obtain⟨o0,o1⟩:=nmce (.inr rfl);rw[<- hce]at o1;let⟨a0,a1⟩:=hB (.inl rfl);refine ij (aO a0 a1 (aO a0 a1 (aO o0 o1 (aO o0 o1 (ak ?_)))));simp only[bI,ey,Rb];refine hk F _ _ _ _ _ _ _ _ _ _ _ _ _ (λ_ _=>fin _ _ _ rfl rfl keep) (λh=>by omega) (λt' h g=>?_) t1 _;exact done _ _ fu t' (apB (by decide) _) ⟨nofun,nofun,nofun,λ_ _ _ h=>(h rfl).elim⟩ rfl rfl h (g.imp id λh=>⟨h.1,nofun⟩)
  .obtain⟨o0,o1⟩:=nmfu (.inl rfl);rw[<- hfu]at o1;let⟨a0,a1⟩:=hB (.inr rfl);refine ij (aO a0 a1 (aO a0 a1 (aO o0 o1 (aO o0 o1 (ak ?_)))));simp only[bI,ey,Rb];refine hk F _ _ _ _ _ _ _ _ _ _ _ _ _ (λ_ _=>fin _ _ _ rfl rfl keep) (λh=>by omega) (λt' h g=>?_) t1 _;exact done _ ce _ t' (apB (by decide) _) ⟨nofun,nofun,nofun,λ_ _ _ _ h=>(h rfl).elim⟩ rfl rfl h (g.imp id λh=>⟨h.1,nofun⟩)
  .obtain⟨a0,a1⟩:=hA (.inr (.inr rfl));refine ij (aO a0 a1 (aO a0 a1 (aK (λ_=>ak ?_) λ_=>ak ?_)));all_goals
    simp only[bI,ey,Rb];refine hk F _ _ _ _ _ _ _ _ _ _ _ _ _ (λ_ _=>fin _ _ _ rfl rfl keep) (λh=>by omega) (λt' h g=>?_) t1 _;exact done _ ce fu t' (apB (by decide) _) ⟨nofun,nofun,λ_=>(by decide),λ_ _ h=>(h rfl).elim⟩ rfl rfl h (g.imp id λh=>⟨h.1,nofun⟩)
 .refine ⟨?_,λh1 D=>(hz ⟨h1,D⟩).elim⟩;unfold SG hZ iR kl bf bw bH cE dJ gf iK ji HX Prod.v Prod.B c8 eD xm Prod.w ck bn bY kK aH;refine Mf hn hc hs hI (λo=>OkN o (SQ i c0 L)) (λy h=>.inr (ak h)) _ λe v sy hp _ _ _ _ _=>.inl ?_
  let⟨sy0,ce,fu,l⟩:=s;have vl:=hp.fs.vc.vl;by_cases hl:l! l=N
  .have ht:¬t=(n:Int):=λh=>hz ⟨hl,h⟩
   dsimp only;cases cp (sy0,ce,fu,l) with
   |none=>rfl
   |some y=>rw[obs,cK ht];rfl
  .show aB (cp (sy0,ce,fu,l)) _=U;rw[h0 sy0 ce fu l (by have h1:l! l=l! c0.2:=hp.fs.th;have:=hp.fs.vc.tl;have:=vl.t;omega) hl];rfl
def aA2 {W V:Type} {c0:CT} {l:Y TT} {z:R} {t1:R->η->Y η->W} {t2:W->V} {t3:V->TT->Y TT} (h3:∀A T D,t3 (t2 (t1 z A T)) D=l.set i D):KR j c0 k i a l z (KG (i:Int) t1 t2 t3):=by
 intro F p sy kd o v si ds fs ce fu A T ev fin park done ht pc;unfold KG hZ bf bw bH cE dJ gf iK ji HX Prod.v vu bn jQ bY aH cV;have done:∀D,TH F (j+1) D->(l! D.2.1=0\/D.2.2.2=bl .i64 (ev+1)/\(kd=16->D.1=p))->SQ j c0 k ((sy,ce,fu,t3 (t2 (t1 z A T)) D),((i:Int),kd,o,v,si,ds,fs),J):=λD h g=>by grind
 by_cases h1:kd=16
 .subst h1;exact ij (ij (j7 rfl (ak (j7 rfl (ak (qV (aS rfl) (ak (done _ (park (.inl rfl)) (.inr ⟨rfl,λ_=>rfl⟩)))))))))
 by_cases h2:kd=2
 .subst h2;exact ij (ij (qV rfl (ak (j7 rfl (ak (qV (aS rfl) (ak (done _ (park (.inr rfl)) (.inr ⟨rfl,nofun⟩)))))))))
 rw[cK h1,cK h2];exact ij (ij (qV rfl (ak (qV rfl (aO (fd i) ht (aT (aA (fin h1 h2) λy hy=>ak (qV (aS rfl) (ak (done _ hy.1 (hy.2.imp id λh=>⟨h,λh2=>(h1 h2).elim⟩)))))))))))
def SOx (n:Nat) (z:CT) (L:Y ET) (s:ST) (t u:Int) (N i:Nat) (f:CT×ST×j?->M D!):Prop:=OkN (f (z,s,t,u)) (SQ n z L)/\(l! s.2.2.2=N->t=(i:Int)->Ok (f (z,s,t,u)) (SQ n z L))
def am7 (D:i+1<=100000) (z:CT) (L:Y ET) (s:ST) (t u:Int) (hc:CB z) (A:SV i L s) (hI:SIv z L s):SOx i z L s t u 4 0 qZ/\SOx i z L s t u 4 1 qY/\SOx i z L s t u 4 2 oH/\SOx i z L s t u 4 3 mM/\SOx i z L s t u 3 0 lJ/\SOx i z L s t u 3 1 kC/\SOx i z L s t u 3 2 jG/\SOx i z L s t u 2 0 iE/\SOx i z L s t u 2 1 gX/\SOx i z L s t u 1 0 gZ:=by
 refine ⟨EE 4 0 (cp:=ug) D z L s t u hc A hI ?_ ?_,EE 4 1 (cp:=uf) D z L s t u hc A hI ?_ ?_,EE 4 2 (cp:=ue) D z L s t u hc A hI ?_ ?_,EE 4 3 (cp:=ud) D z L s t u hc A hI ?_ ?_,EE 3 0 (cp:=uj) D z L s t u hc A hI ?_ ?_,EE 3 1 (cp:=ui) D z L s t u hc A hI ?_ ?_,EE 3 2 (cp:=uh) D z L s t u hc A hI ?_ ?_,EE 2 0 (cp:=ul) D z L s t u hc A hI ?_ ?_,EE 2 1 (cp:=uk) D z L s t u hc A hI ?_ ?_,EE 1 0 (cp:=um) D z L s t u hc A hI ?_ ?_⟩;all_goals
  intro sy ce fu l;first|unfold ug bf c8 bU bR bY aZ|unfold uf bf c8 bU bR bY aZ|unfold ue bf c8 bU bR bY aZ|unfold ud bf c8 bU bR bY aZ|unfold uj bf c8 bU bR bY aZ|unfold ui bf c8 bU bR bY aZ|unfold uh bf c8 bU bR bY aZ|unfold ul bf c8 bU bR bY aZ|unfold uk bf c8 bU bR bY aZ|unfold um bf c8 bU bR bY aZ
  rcases l with _|⟨a,_|⟨b,_|⟨c,_|⟨d,_|⟨e,l⟩⟩⟩⟩⟩;all_goals first
  |intro h h0
   first|(simp at h0;done)|(exfalso;simp only[kn]at h;omega)|simp[gC,Y5,alf,aok,bcT,bcF]
   done
  |intro h hce hfu hl
   first|(simp at hl;done)|(exfalso;simp only[kn]at hl;omega)|skip
   have hE:=h.sb.n1;refine ⟨by decide,bc (aec sy h.sb) (a! (a! (qV rfl (bt rfl (aT (bc (Am a i hE (h.t 0 (by simp))) ?_))))))⟩;try refine qV rfl (bt rfl (aT (bc (Am b i hE (h.t 1 (by simp))) ?_)))
   try refine qV rfl (bt rfl (aT (bc (Am c i hE (h.t 2 (by simp))) ?_)))
   try refine qV rfl (bt rfl (aT (bc (Am d i hE (h.t 3 (by simp))) ?_)))
   exact j7 rfl (ak ⟨rfl,rfl,rfl,rfl,rfl,rfl,aA2 λR T t'=>rfl⟩)
def agu {n:Nat} (hn:n+1<=100000) (c:CT) (L:Y ET) (s:ST) (t u:Int) (hc:CB c) (hs:SV n L s) (hI:SIv c L s):Ok (Do (c,s,t,u)) (SQ n c L):=by
 unfold Do;let⟨a40,D,A,z,a30,a31,a32,a20,a21,a10⟩:=am7 hn c L s t u hc hs hI;by_cases hz:l! s.2.2.2<=4/\0<=t/\t<(l! s.2.2.2:Int)
 .obtain⟨h1,h2,h3⟩:=hz;have:(l! s.2.2.2=4/\t=0)\/(l! s.2.2.2=4/\t=1)\/(l! s.2.2.2=4/\t=2)\/(l! s.2.2.2=4/\t=3)\/(l! s.2.2.2=3/\t=0)\/(l! s.2.2.2=3/\t=1)\/(l! s.2.2.2=3/\t=2)\/(l! s.2.2.2=2/\t=0)\/(l! s.2.2.2=2/\t=1)\/(l! s.2.2.2=1/\t=0):=by omega
  rcases this with h|h|h|h|h|h|h|h|h|h;all_goals first|exact (a40.2 h.1 h.2).orL|refine a40.1.orR ?_
  all_goals first|exact (D.2 h.1 h.2).orL|refine D.1.orR ?_
  all_goals first|exact (A.2 h.1 h.2).orL|refine A.1.orR ?_
  all_goals first|exact (z.2 h.1 h.2).orL|refine z.1.orR ?_
  all_goals first|exact (a30.2 h.1 h.2).orL|refine a30.1.orR ?_
  all_goals first|exact (a31.2 h.1 h.2).orL|refine a31.1.orR ?_
  all_goals first|exact (a32.2 h.1 h.2).orL|refine a32.1.orR ?_
  all_goals first|exact (a20.2 h.1 h.2).orL|refine a20.1.orR ?_
  all_goals first|exact (a21.2 h.1 h.2).orL|refine a21.1.orR ?_
  exact a10.2 h.1 h.2
 .refine Ok.orL ?_;unfold qZ bf bw eD;refine Mf hn hc hs hI (λo=>Ok o (SQ n c L)) (λy h=>ak h) _ λe v sy hp _ _ _ _ _=>(hz ?_).elim
  have h1:l! s.2.2.2=l! c.2:=hp.fs.th;have h2:l! c.2=l! c.1.2.2.2.2.1:=hp.fs.vc.tl;have h3:l! c.1.2.2.2.2.1<=4:=hp.fs.vc.vl.t;have h4:0<=t:=hp.t0;have h5:t<(l! c.2:Int):=hp.t1;exact⟨by omega,h4,by omega⟩
def ap4 (c:CT) (s:ST) (l:Y ν) (hc:CB c) (hs:SV 0 [] s) (hI:SIv c [] s) (hl:l.length<=9223372036854775806):Ok (yX (c,s,l)) λy=>y.1.length<=400/\(∀e∈y.1,PH c.1 e/\EvS e)/\∃sy ce fu,Acw c.1 y.1 sy ce fu:=by
 unfold yX bf bw eD bU bR bY aZ c7 aH cV;refine rI (λx=>((l.length:Int)-x.1).toNat) (λx=>0<=x.1/\x.2.2.1=c/\SV x.2.1.length x.2.1 x.2.2.2.1/\SIv c x.2.1 x.2.2.2.1/\x.2.1.length<=400/\∀e∈x.2.1,PH c.1 e/\EvS e) ?_ ⟨dC _,rfl,hs,hI,by simp,λe he=>(by cases he)⟩;rintro⟨(i:Int),es,A,s',z⟩ ⟨i0,e1,e2,eI,L,D⟩;subst e1;refine aX (λx=>x.2=(es,A,s',z)/\(x.1=J->i<(l.length:Int)/\es.length<400)) ?_ ?_
 .refine bQ (λg=>ak ⟨rfl,λh=>⟨g,?_⟩⟩) λ_=>ak ⟨rfl,nofun⟩
  rw[r8]at h
  grind
 rintro⟨b,x⟩ ⟨f1,f2⟩;subst f1;refine aP (λh=>?_) λ_=>ak ⟨L,D,_,_,_,eI.ac⟩
 let⟨g1,g2⟩:=f2 h;refine aX (λx=>x.2.1=A/\SV x.1.length x.1 x.2.2.1/\SIv A x.1 x.2.2.1/\x.1.length<=400/\∀e∈x.1,PH A.1 e/\EvS e) ?_ ?_
 .refine aO i0 g1 (aT ?_);refine aA (agu (n:=es.length) (by omega) A es s' _ _ hc e2 eI) λy hy=>?_
  refine aP (λh=>?_) λ_=>ak ⟨rfl,e2,eI,L,D⟩
  let⟨h1,hJ,h2,h3⟩:=hy h;refine bN (by grind) (by omega) (ak ⟨rfl,?_,hJ,by simp;omega,λe he=>?_⟩)
  .grind
  .grind
 rintro⟨es',c2,s2,z2⟩ ⟨k1,k2,kI,k3,k4⟩;refine ak ?_;rw[jA (n:=i+1) (by omega) (by omega)]
 grind
def CB.vc {c:CT} (z:CB c):VC c:=by
 let⟨b,h1,A⟩:=Yf c z.th z.ins;rw[z.ok]at h1;cases h1;exact A rfl
def av0 (c:CT) (l:Y ν) (z:CB c) (hl:l! l<=9223372036854775806):Ok (Gl (c,l)) λy=>TR y.1:=by
 refine bc z.ok (dM nofun λ_=>?_);have D:=z.vc;refine aA (ab8 c z.ok D) λs L=>?_
 refine aA (ap4 c s l z L.1 L.2 hl) λy A=>ak ?_
 exact⟨D.vl.wb,D.vl,λe he=>(A.2.1 e he).1,by have:=A.1;dsimp only;omega,λe he=>(A.2.1 e he).2,z.wx,A.2.2⟩
def abe (l:η) (A:l! l<=1000000):Ok (tS l) λy=>l! y=l! l:=by
 refine cD (l! l) (λi x=>x.1=(i:Int)/\l! x.2=i) ?_ ?_ ⟨rfl,rfl⟩
 .rintro i ⟨a,b⟩ hi ⟨z,e2⟩;subst z;refine dB ?_;refine cH (aT (cH (aT (bN (by grind) (by omega) (ak ?_)))));exact⟨ig,by simp;omega⟩
 .rintro⟨a,b⟩ ⟨z,e2⟩;exact dw (ak e2)
def gp (e:Xp):eP (Xp.op e,Xp.n e,Xp.name e,Xp.l e)=e:=by cases e;rfl
def Cc (s:Sx):o_ (Sx.op s,Sx.line s,Sx.name s,Sx.arg s,Sx.index s,Sx.expr s,Sx.body s,Sx.els s)=s:=by cases s;rfl
abbrev NV:Y ζ:=[[97],[98],[120],[121],[118]]
def GE:Nat->Xp->Prop
 |0,_=>False
 |d+1,e=>(e.op=3->e.name=[113])/\(e.op≠1->e.op≠2->1<=l! e.l)/\l! e.l<=2/\(∀x∈e.l,GE d x)/\(e.op=2->e.name∈NV)/\(e.op≠1->e.op≠2->e.op≠3->2<=l! e.l/\6<=e.op/\e.op<=18)
def GE.mono:∀{d:Nat} {e:Xp},GE d e->GE (d+1) e
 |0,_,h=>h.elim
 |_+1,_,h=>⟨h.1,h.2.1,h.2.2.1,λx z=>(h.2.2.2.1 x z).mono,h.2.2.2.2⟩
def GE.le {e:Xp} (h:GE i e) (A:i<=j):GE j e:=by
 induction A with
 |refl=>exact h
 |step _ z=>exact z.mono
def S7 (n:Int):tu n=Z (.mk 1 n [] []):=rfl
def LQ (s:ζ):qQ s=Z (.mk 2 0 s []):=rfl
def Jb (o:Int) (a b:Xp):o9 (o,a,b)=Z (.mk o 0 [] [a,b]):=by
 cases a;cases b;rfl
def vS (s:ζ) (e:Xp):kw (s,e)=Z (.mk 1 0 s [] [] e [] []):=by
 cases e;rfl
abbrev MK:Type:=V!
abbrev UH:Type:=o!
abbrev HD:Type:=Bool×Y ζ
def GE.num (n:Int) (d:Nat):GE (d+1) (.mk 1 n [] []):=⟨nofun,λh=>(h rfl).elim,by simp[Xp.l],λx z=>(by cases z),nofun,λh=>(h rfl).elim⟩
def GE.nm {s:ζ} (A:s∈NV) (d:Nat):GE (d+1) (.mk 2 0 s []):=⟨nofun,λ_ h=>(h rfl).elim,by simp[Xp.l],λx z=>(by cases z),λ_=>A,λ_ h=>(h rfl).elim⟩
def GE.bin {o b:Xp} (A:6<=a/\a<=18) (L:GE i o) (D:GE i b):GE (i+1) (.mk a 0 [] [o,b]):=
 ⟨λh=>(by have h:a=3:=h;omega),λ_ _=>by simp[Xp.l],by simp[Xp.l],λx z=>by
   simp[Xp.l,aV,b8,fo]at z;rcases z with rfl|rfl
   .exact L
   .exact D,λh=>(by have h:a=2:=h;omega),λ_ _ _=>⟨by simp[Xp.l],A⟩⟩
def GE.ix {a:Xp} (A:GE i a):GE (i+1) (.mk 3 0 [113] [a]):=
 ⟨λ_=>rfl,λ_ _=>by simp[Xp.l],by simp[Xp.l],λx z=>by
   simp[Xp.l,aV,b8,fo]at z;rw[z];exact A,nofun,λ_ _ h=>(h rfl).elim⟩
def G2:∀(n d:Nat),d<n->d<=10->∀(m:MK) (t:UH) (h:HD),TP t->Ok (mC n ((d:Int),m,t,h)) λy=>GE (d+1) y.1/\y.2.1=m/\xh t y.2.2.1/\y.2.2.2=h
 |0,d,hd,_,_,_,_,_=>by omega
 |n+1,d,hd,h10,m,t,h,ht=>by
  refine aA (gP 10 t ht) λy A=>?_
  let⟨k,t1⟩:=y;let⟨L,k0,k1,_⟩:=A;refine aX (λx=>x.2=(m,t1,h,(0,0,[]),[[97],[98],[120],[121],[118],[120],[121]])/\(x.1=af->2<=k/\(d=0->k<7))) ?_ ?_
  .refine bQ (λ_=>ak ⟨rfl,nofun⟩) λg=>aK (λg2=>ak ⟨rfl,λg3=>⟨g,λ_=>?_⟩⟩) λg2=>ak ⟨rfl,λ_=>⟨g,λh=>(g2 (by omega)).elim⟩⟩
   rw[nH]at g3;exact g3
  rintro⟨b,x⟩ ⟨e,hb⟩;dsimp only at e hb;subst e;refine aP (λ_=>?_) λg=>?_
  .refine aA (gP 4 t1 L.p) λy A=>?_
   refine bc (S7 _) (ak ?_);exact⟨GE.num _ _,rfl,L.trans A.1,rfl⟩
  let⟨q0,q1⟩:=hb g;refine bQ (λg=>?_) λg=>?_
  .refine aA (gP _ t1 L.p) λy A=>?_
   let⟨u1,u2,D,_⟩:=A;have D:=D (show (1:Int)<=7 by decide);refine aO u2 D (aO u2 D (aT ?_));refine bc (LQ _) (ak ?_);have hnv:∀z∈([[97],[98],[120],[121],[118],[120],[121]]:Y ζ),z∈NV:=by decide
   exact⟨GE.nm (hnv _ (bP (T:=.str) u2 D)) _,rfl,L.trans u1,rfl⟩
  dsimp only at g;have hd0:d≠0:=λh=>by omega
  obtain⟨d,rfl⟩:∃k,d=k+1:=⟨d-1,by omega⟩
  refine aK (λg=>?_) λg=>?_
  .refine aA (G2 n 0 (by omega) (by omega) m t1 h L.p) λy A=>?_
   let⟨e,m',t',h'⟩:=y;let⟨v1,v2,v3,v4⟩:=A;subst v2 v4;refine bt (by simp) (ak ?_);dsimp only;rw[gp];exact⟨(GE.ix (v1.le (by omega):GE (d+1) e)),rfl,L.trans v3,rfl⟩
  .refine aA (gP _ t1 L.p) λy A=>?_
   let⟨k2,t2⟩:=y;let⟨u1,u2,D,_⟩:=A;have D:=D (by decide);refine aO u2 D (aO u2 D (aT ?_));have ho:(6:Int)<=geti aM [6,7,8,11,13,17] k2/\geti aM [6,7,8,11,13,17] k2<=(18:Int):=by
    have h1:=bP (T:=aM) (xs:=([6,7,8,11,13,17]:η)) u2 D
    grind
   have ew:bl .i64 (((d+1:Nat):Int)-1)=(d:Int):=by rw[jA];omega
   dsimp only;rw[ew];refine aA (G2 n d (by omega) (by omega) m t2 h u1.p) λy A=>?_
   let⟨e,m',t',h'⟩:=y;let⟨v1,v2,v3,v4⟩:=A;subst v2 v4;refine bt (by simp) ?_;refine aA (G2 n d (by omega) (by omega) m' t' h' v3.p) λy A=>?_
   let⟨e2,m2,t2',h2⟩:=y;let⟨w1,w2,w3,w4⟩:=A;subst w2 w4;refine bt (by simp) ?_;refine bc (Jb _ _ _) (ak ?_);dsimp only;rw[gp];exact⟨GE.bin ho v1 w1,rfl,L.trans (u1.trans (v3.trans w3)),rfl⟩
def aji (d:Nat) (hd:d<=10) (m:MK) (t:UH) (h:HD) (ht:TP t):Ok (fJ ((d:Int),m,t,h)) λy=>GE (d+1) y.1/\y.2.1=m/\xh t y.2.2.1/\y.2.2.2=h:=G2 fuel d (by rw[lh];omega) hd m t h ht
end
end Go.Proofs.YtpjhicegjenpeaaGreatDoor.AI
