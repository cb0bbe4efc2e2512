/-
  Texts of the proof, part 4 of 5: what is used to prove the statement. No condition.
-/
import Derived.Test.YtcmnmakaoonfgaaGreatDoorWeakSectionsQ2
import Derived.KernelRfl
namespace Go.Proofs.YtcmnmakaoonfgaaGreatDoor.AI
open Go.RowKit
set_option maxRecDepth 100000
set_option maxHeartbeats 4000000
set_option linter.unusedVariables false
set_option linter.unusedSimpArgs false
set_option linter.defProp false
open _root_.Bool renaming true→J,false→aa,not_false→mm,not_true→Ep
open _root_.Int renaming ofNat_eq_natCast→ak,toNat→aO,ofNat→aQ,toNat_natCast→bD,reduceEq→cX,reduceNeg→dK,le_trans→ta,not_le→Ny
open _root_.List renaming length→l!,length→ah,replicate→aF,length_cons→bK,length_singleton→bN,take→dB,map→fX,cons_append→gA,range→iN,length_nil→mR,replicate_succ→m8,getElem?_concat_length→nL,set→pR,append→sJ,nodup_cons→ud,foldl_cons→ue,drop_eq_getElem_cons→O_
open _root_.Nat renaming beq→ay,add_zero→cW,blt→dY
open _root_.Option renaming some→Z,none→U,getD_some→wF
open _root_.Prod renaming a→aW,b→bm,c→bF,d→cg,e→cG,h→dk,f→dE,g→ep,k→ip,j→jW,l→lz,i→mg,n→mh,m→mr,o→nJ,ext→pP,p→wE,q→B7,s→En
open _root_.Sum renaming inr→bW,inl→rh
noncomputable section
def WF:Ok (lC ()) λl=>l! l=22:=by
 unfold lC;with_reducible repeat' first|apply OS.ok;constructor|refine IM.mk λ_=>?_
 all_goals rfl
def SA (s:ζ):Ok (kD s) λ_=>True:=by
 unfold kD bM bQ be cQ aG cN;refine ax WF λl z=>?_
 refine cm (l! l) (λi x=>x=(i:Int)) ?_ ?_ rfl
 .rintro i x hi rfl;with_reducible repeat' first|apply OS.ok;constructor|refine IM.mk λ_=>?_
  all_goals try simp only[ak,sC] at*
  all_goals first|omega|exact gQ
 .rintro x rfl;with_reducible repeat' first|apply OS.ok;constructor|refine IM.mk λ_=>?_
  all_goals try simp only[ak,sC] at*
  all_goals omega
def Qv (c:Int):Ok (mq c) λ_=>True:=by
 unfold mq j_ aG;with_reducible repeat' first|apply OS.ok;constructor|refine IM.mk λ_=>?_
 all_goals exact trivial
def ago (c:Int):Ok (qD c) λ_=>True:=by
 unfold qD sW j_ aG;refine gV (ax (Qv c) λ_ _=>?_);with_reducible repeat' first|apply OS.ok;constructor|refine IM.mk λ_=>?_
 all_goals try exact trivial
 refine ax (P:=λ_=>True) ?_ λ_ _=>?_
 .with_reducible repeat' first|apply OS.ok;constructor|refine IM.mk λ_=>?_
  all_goals exact trivial
 .with_reducible repeat' first|apply OS.ok;constructor|refine IM.mk λ_=>?_
  all_goals exact trivial
def iM (s:ζ):Ok (ft s) λ_=>True:=by
 unfold ft bM nh be cQ aG cN;refine aU (λb=>b=aa->l! s<=12) ?_ ?_
 .with_reducible repeat' first|apply OS.ok;constructor|refine IM.mk λ_=>?_
  .exact nofun
  .exact nofun
  .omega
  .simp only[ak]at *;omega
  refine ax (Qv _) λ_ _=>?_
  with_reducible repeat' first|apply OS.ok;constructor|refine IM.mk λ_=>?_
  .exact nofun
  refine ax (SA _) λ_ _=>aj λ_=>?_
  simp only[ak]at *;omega
 .rintro b z;refine aN (λ_=>aj trivial) λh=>?_
  have z:=z h;refine cm (l! s) (λi x=>x=(i:Int)) ?_ ?_ rfl
  .rintro i x hi rfl;with_reducible repeat' first|apply OS.ok;constructor|refine IM.mk λ_=>?_
   all_goals try simp only[ak,sC] at*
   all_goals first|omega|skip
   refine ax (ago _) λ_ _=>?_
   with_reducible repeat' first|apply OS.ok;constructor|refine IM.mk λ_=>?_
   .exact trivial
   .exact gQ
  .rintro x rfl;with_reducible repeat' first|apply OS.ok;constructor|refine IM.mk λ_=>?_
   all_goals try simp only[ak,sC] at*
   all_goals first|omega|exact trivial
def Ax (l:Y ζ) (s:ζ) (D:l! l<=1000000000):Ok (jD (l,s)) λr=> -1<=r/\r<l! l/\(0<=r->geti (.str) l r=s)/\(r<0->s∉l):=by
 unfold jD bM bQ be cQ aG cN;refine cm (l! l) (λi x=>x=(i:Int)/\∀k:Nat,k<i->geti (.str) l (k:Int)≠s) ?_ ?_ ⟨rfl,λk A=>by omega⟩
 .rintro i x hi ⟨rfl,z⟩;with_reducible repeat' first|apply OS.ok;constructor|refine IM.mk λ_=>?_
  all_goals try simp only[ak,sC] at*
  all_goals first|omega|skip
  .exact⟨by omega,by omega,λ_=>by assumption,λh=>by omega⟩
  .refine ⟨gQ,λk A=>?_⟩;rcases bG k i with h1|h1
   .exact z k h1
   .rw[show k=i by omega];assumption
 .rintro x ⟨rfl,z⟩;with_reducible repeat' first|apply OS.ok;constructor|refine IM.mk λ_=>?_
  all_goals try simp only[ak,sC] at*
  all_goals first|omega|skip
  exact⟨by omega,by omega,λh=>by omega,λ_ h=>iL (T:=.str) (p:=λc=>c≠s) z s h rfl⟩
structure VL (w:WT):Prop where
 c:l! w.1<=12
 l:l! w.2.1<=4
 d:l! w.2.2.1<=2
 f:l! w.2.2.2.1<=2
 t0:1<=l! w.2.2.2.2.1
 t:l! w.2.2.2.2.1<=4
 s:l! w.2.2.2.2.2<=60
def afz (w:WT) (h:VL w):Ok (qA w) λy=>l! y.1<=100:=by
 let⟨D,w2,N,w4,w5,w6⟩:=w;let⟨h1,h2,h3,h4,_,h5,h6⟩:=h;dsimp only at*
 unfold qA aW bm bF cG dE wE bi bM iE bX bQ be cQ aG cN;refine rx (λx=>((l! D:Int)-x.1).toNat) (λx=>x.2.1=(D,w2,N,w4,w5,w6)/\0<=x.1/\x.1<=(l! D:Int)/\(l! x.2.2:Int)<=x.1) ?_ ⟨rfl,by simp,by simp,by simp⟩;rintro⟨x1,x2,x3⟩ ⟨e,g1,g2,g3⟩;dsimp only at e g1 g2 g3;subst e;refine bL (λg4=>?_) λg4=>?_
 .dsimp only[ak]at g4;refine aU (λx=>x.2.1=(D,w2,N,w4,w5,w6)/\x1<x.1/\x.1<=(l! D:Int)/\(l! x.2.2:Int)<=x.1) ?_ ?_
  .refine cu (aS (a! ?_));refine aI (λ_=>?_) λ_=>?_
   .with_reducible repeat' first|apply OS.ok;constructor|refine IM.mk λ_=>?_
    .exact mi _
    .rw[iQ];exact⟨rfl,by dsimp only;omega,by dsimp only;omega,by simp;omega⟩
   .generalize hz:geti _ _ x1=z;obtain⟨z1,(z2:Int),(L:Int),z4,z5⟩:=z;dsimp only;refine aU (λx=>x.2=((D,w2,N,w4,w5,w6),x3++[z1],z1,z2,L,z4,z5)/\(x.1=aa->1<=L/\L<=4/\x1+L<=l! D)) ?_ ?_
    .with_reducible repeat' first|apply OS.ok;constructor|refine IM.mk λ_=>?_
     .exact⟨rfl,nofun⟩
     .exact⟨rfl,nofun⟩
     .refine ⟨rfl,λh=>?_⟩;dsimp only[ak] at*
      rw[iQ,g9]at h;omega
    .rintro⟨b,y⟩ ⟨e,hb⟩;dsimp only at e hb;subst e;refine aN (λ_=>aj (mi _)) λh=>?_
     let⟨q1,q2,q3⟩:=hb h;refine rx (λx=>(L-x.1).toNat) (λx=>x.2=((D,w2,N,w4,w5,w6),x3++[z1],z1,z2,L,z4,z5)/\0<=x.1/\x.1<=L) ?_ ⟨rfl,by simp,by dsimp only;omega⟩;rintro⟨k,y⟩ ⟨e,k0,k1⟩;dsimp only at e k0 k1;subst e;refine bL (λk2=>?_) λk2=>?_
     .dsimp only at k2;have A:bl .i64 (x1+k)=x1+k:=iQ;refine aM (by dsimp only;rw[A];omega) (by dsimp only;rw[A];omega) (aS ?_);refine aU (λx=>x.2=((D,w2,N,w4,w5,w6),x3++[z1],z1,z2,L,z4,z5)) ?_ ?_
      .with_reducible repeat' first|apply OS.ok;constructor|refine IM.mk λ_=>?_
       all_goals rfl
      .rintro⟨b,y⟩ e;dsimp only at e;subst e;refine aN (λ_=>aj (mi _)) λ_=>aj ?_
       dsimp only;rw[iQ];exact⟨⟨rfl,by omega,by omega⟩,by omega⟩
     .dsimp only at k2;refine aj ?_;dsimp only;rw[iQ];exact⟨rfl,by omega,by omega,by simp;omega⟩
  .rintro⟨y1,y2,y3⟩ ⟨e,g5,g6,g7⟩;dsimp only at e g5 g6 g7;subst e;refine aj ⟨⟨rfl,by dsimp only;omega,g6,g7⟩,?_⟩;dsimp only;omega
 .dsimp only[ak]at g4;refine ax (P:=λy=>l! y.1<=100) ?_ λy hy=>aj hy
  refine cm (l! w2) (λi x=>x.1=(i:Int)/\x.2.1=(D,w2,N,w4,w5,w6)/\l! x.2.2<=12+i) ?_ ?_ ⟨rfl,rfl,by dsimp only;omega⟩
  .rintro i ⟨a,b,c⟩ hi ⟨A,e2,e3⟩;dsimp only at A e2 e3;subst A e2;with_reducible repeat' first|apply OS.ok;constructor|refine IM.mk λ_=>?_
   all_goals try simp only[ak,sC] at*
   all_goals first|omega|(simp;omega)|skip
   exact⟨gQ,by simp;omega⟩
  .rintro⟨a,b,c⟩ ⟨A,e2,e3⟩;dsimp only at A e2 e3;subst A e2;refine bL (λg4=>(by dsimp only[ak]at g4;omega)) λ_=>?_
   refine ax (P:=λy=>l! y.1<=100) ?_ λy hy=>aj hy
   refine cm (l! N) (λi x=>x.1=(i:Int)/\x.2.1=(D,w2,N,w4,w5,w6)/\l! x.2.2<=16+i) ?_ ?_ ⟨rfl,rfl,by dsimp only;omega⟩
   .rintro i ⟨a,b,c⟩ hi ⟨A,e2,e3⟩;dsimp only at A e2 e3;subst A e2;with_reducible repeat' first|apply OS.ok;constructor|refine IM.mk λ_=>?_
    all_goals try simp only[ak,sC] at*
    all_goals first|omega|(simp;omega)|skip
    exact⟨gQ,by simp;omega⟩
   .rintro⟨a,b,c⟩ ⟨A,e2,e3⟩;dsimp only at A e2 e3;subst A e2;refine bL (λg4=>(by dsimp only[ak]at g4;omega)) λ_=>?_
    refine ax (P:=λy=>l! y.1<=100) ?_ λy hy=>aj hy
    with_reducible repeat' first|apply OS.ok;constructor|refine IM.mk λ_=>?_
    all_goals try simp only[ak,sC] at*
    all_goals first|omega|(simp;omega)
def W5 (T:Int) (o:M ν) (s:π):M ν:=
 match o with
 |none=>U
 |some (t,n)=>if s.1=t/\s.2.1=n then Z (t,n+1) else if t<s.1/\s.1<T/\s.2.1=0 then Z (s.1,1) else U
def Nz (T:Int) (l:Y π):M ν:=l.foldl (W5 T) (Z (0,0))
def SV0 (w:WT):Prop:=Nz (l! w.2.2.2.2.1) w.2.2.2.2.2≠U
variable {i:Nat}
def Kx {T:Int} {l:Y π} (hi:i<l! l):Nz T (l.take (i+1))=W5 T (Nz T (l.take i)) (geti pO l (i:Int)):=by
 rw[pA (T:=pO) hi];unfold Nz;rw[ey];rfl
def Tg (T:Int):∀l:Y π,l.foldl (W5 T) U=U
 |[]=>rfl
 |_::r=>Tg T r
variable {a:Int}
def Zr {l:Y π} (h:Nz a l≠U) (i:Nat):Nz a (l.take i)≠U:=λz=>h (by
 unfold Nz at z ⊢;rw[<- DG i l,ey,z,Tg])
def af0 {t n:Int} {z:π} (h:W5 a (Z (t,n)) z≠U):W5 a (Z (t,n)) z=Z (z.1,z.2.1+1)/\(z.1=t/\z.2.1=n\/t<z.1/\z.1<a/\z.2.1=0):=by
 unfold W5 at h ⊢;dsimp only at h ⊢;by_cases h1:z.1=t/\z.2.1=n
 .rw[aD h1];exact⟨by rw[h1.1,h1.2],.inl h1⟩
 .rw[av h1]at h ⊢;by_cases A:t<z.1/\z.1<a/\z.2.1=0
  .rw[aD A];exact⟨by rw[A.2.2];rfl,.inr A⟩
  .rw[av A]at h;exact (h rfl).elim
def Dz (w:WT):Ok (ig w) λb=>b=J->VL w/\SV0 w:=by
 unfold ig aW bm bF cG dk ip bi bM j_ iE bX bQ be cQ aG cN;refine aU (λx=>x.2=w/\(x.1=aa->VL w)) ?_ ?_
 .with_reducible repeat' first|apply OS.ok;constructor|refine IM.mk λ_=>?_
  all_goals first|exact⟨rfl,λh=>(by cases h)⟩|skip
  dsimp only[ak] at*
  refine ⟨rfl,λh=>?_⟩;rw[g9]at h;constructor<;>omega
 rintro⟨b,x⟩ ⟨e,hb⟩;dsimp only at e hb;subst e;refine aN (λ_=>aj λh=>(by cases h)) λh=>?_
 have hv:=hb h;refine ax (afz _ hv) λy hy=>?_
 refine em (λ_=>aj λh=>(by cases h)) λ_=>?_
 let⟨w1,w2,w3,w4,D,A⟩:=x;have h6:=hv.s;have h3:=hv.d;dsimp only at h6 h3;refine cm (l! y.1) (λi x=>x.1=(i:Int)/\x.2=(w1,w2,w3,w4,D,A)) ?_ ?_ ⟨rfl,rfl⟩
 .rintro i ⟨a,b⟩ hi ⟨N,e2⟩;dsimp only at N e2;subst N e2;refine bL (λg4=>?_) λg4=>(by dsimp only[ak]at g4;omega)
  refine aU (λx=>x.2=(w1,w2,w3,w4,D,A)) ?_ ?_
  .refine cu (aS (ax (iM _) λ_ _=>?_));refine em (λ_=>aj rfl) λ_=>?_
   with_reducible repeat' first|apply OS.ok;constructor|refine IM.mk λ_=>?_
   all_goals try simp only[ak,sC] at*
   all_goals first|omega|skip
   refine ax (Ax _ _ (by simp;omega)) λ_ _=>aj rfl
  .rintro⟨a,b⟩ e;dsimp only at e;subst e;with_reducible repeat' first|apply OS.ok;constructor|refine IM.mk λ_=>?_
   .exact λh=>(by cases h)
   .dsimp only;exact⟨gQ,rfl⟩
 rintro⟨a,b⟩ ⟨N,e2⟩;dsimp only at N e2;subst N e2;refine bL (λg4=>(by dsimp only[ak]at g4;omega)) λ_=>?_
 refine ax (P:=λb=>b=J->VL (w1,w2,w3,w4,D,A)/\SV0 (w1,w2,w3,w4,D,A)) ?_ λy hy=>aj hy
 refine cm (l! w3) (λi x=>x.1=(i:Int)/\x.2=(w1,w2,w3,w4,D,A)) ?_ ?_ ⟨rfl,rfl⟩
 .rintro i ⟨a,b⟩ hi ⟨N,e2⟩;dsimp only at N e2;subst N e2;refine bL (λg4=>?_) λg4=>(by dsimp only[ak]at g4;omega)
  refine cu (aS ?_);refine aU (λx=>x.2=(w1,w2,w3,w4,D,A)) ?_ ?_
  .with_reducible repeat' first|apply OS.ok;constructor|refine IM.mk λ_=>?_
   all_goals try simp only[ak,sC] at*
   all_goals first|omega|rfl
  .rintro⟨a,b⟩ e;dsimp only at e;subst e;with_reducible repeat' first|apply OS.ok;constructor|refine IM.mk λ_=>?_
   .exact λh=>(by cases h)
   .dsimp only;exact⟨gQ,rfl⟩
 rintro⟨a,b⟩ ⟨N,e2⟩;dsimp only at N e2;subst N e2;refine bL (λg4=>(by dsimp only[ak]at g4;omega)) λ_=>?_
 refine ax (P:=λb=>b=J->VL (w1,w2,w3,w4,D,A)/\SV0 (w1,w2,w3,w4,D,A)) ?_ λy hy=>aj hy
 refine cm (l! A) (λi x=>x.1=(i:Int)/\x.2=(w1,w2,w3,w4,D,A)/\Nz (l! D) (A.take i)=Z (if i=0 then (0,0) else ((geti pO A ((i-1:Nat):Int)).1,(geti pO A ((i-1:Nat):Int)).2.1+1))/\(¬i=0->(0:Int)<=(geti pO A ((i-1:Nat):Int)).2.1/\(i:Int)>(geti pO A ((i-1:Nat):Int)).2.1)) ?_ ?_ ⟨rfl,rfl,rfl,λh=>(h rfl).elim⟩
 .rintro i ⟨a,b⟩ hi ⟨N,e2,e3,hpb⟩;dsimp only at N e2;subst N e2;have hw:¬(i:Int)=0->bl .i64 ((i:Int)-1)=((i-1:Nat):Int):=λh=>by rw[iQ];omega
  have hnx:=Kx (T:=l! D) hi;rw[e3]at hnx;clear e3;refine bL (λg4=>?_) λg4=>(by dsimp only[ak]at g4;omega)
  refine aU (λx=>x=(w1,w2,w3,w4,D,A)/\Nz (l! D) (A.take (i+1))=Z (((geti pO A (i:Int)).1,(geti pO A (i:Int)).2.1+1))/\(0:Int)<=(geti pO A (i:Int)).2.1/\((i+1:Nat):Int)>(geti pO A (i:Int)).2.1) ?_ ?_
  .refine cu (aS ?_);rw[hnx];generalize hz:geti pO A (i:Int)=z;obtain⟨(z1:Int),(z2:Int),(z3:Int)⟩:=z;dsimp only;refine aU (λx=>x.2=((w1,w2,w3,w4,D,A),z1,z2,z3)/\(x.1=aa->0<=z1/\z1<l! D)) ?_ ?_
   .refine bL (λ_=>aj ⟨rfl,λh=>(by cases h)⟩) λg=>aj ⟨rfl,λh=>⟨g,?_⟩⟩
    rw[mX]at h;exact h
   rintro⟨c,y⟩ ⟨e,hzr⟩;dsimp only at e hzr;subst e;refine aN (λ_=>aj λh=>(by cases h)) λhzb=>?_
   let⟨z0,zT⟩:=hzr hzb;refine aU (λx=>x.2=((w1,w2,w3,w4,D,A),z1,z2,z3)/\(x.1=J->i=0\/¬(geti pO A ((i-1:Nat):Int)).1=z1)/\(x.1=aa->¬(i:Int)=0/\(geti pO A ((i-1:Nat):Int)).1=z1)) ?_ ?_
   .refine aI (λh=>aj ⟨rfl,λ_=>.inl (by have h:((i:Nat):Int)=0:=h;omega),λh=>(by cases h)⟩) λh=>?_
    rw[hw h];refine cu (aS (aj ⟨rfl,λh2=>.inr (by simpa using h2),λh2=>⟨h,by simpa using h2⟩⟩))
   rintro⟨c,y⟩ ⟨e,hc1,hc⟩;dsimp only at e hc1 hc;subst e;refine aN (λhct=>?_) λhcf=>?_
   .refine aU (λx=>x.2=(w1,w2,w3,w4,D,A)/\(x.1=aa->z2=0/\(¬i=0->((geti pO A ((i-1:Nat):Int)).1:Int)<z1))) ?_ ?_
    .refine ch (λ_=>aj ⟨rfl,λh=>(by cases h)⟩) λhz2=>?_
     refine bL (λh=>?_) λL=>aj ⟨rfl,λ_=>⟨hz2,λh=>by have L:((i:Nat):Int)<=0:=L;omega⟩⟩
     have h:(0:Int)<((i:Nat):Int):=h;rw[hw (by omega)];refine cu (aS (aj ⟨rfl,λh2=>⟨hz2,λh3=>?_⟩⟩));rw[g9]at h2;have h4:=(hc1 hct).resolve_left h3;have h2:(geti pO A ((i-1:Nat):Int)).1<=z1:=h2;exact Int.lt_iff_le_and_ne.2 ⟨h2,h4⟩
    rintro⟨c,y⟩ ⟨e,hy⟩;dsimp only at e hy;subst e;refine aN (λ_=>aj λh=>(by cases h)) λh=>aj ⟨rfl,?_⟩
    let⟨q1,q2⟩:=hy h;have q1:z2=0:=q1;subst q1;refine ⟨?_,dz 0,by show _>(0:Int);omega⟩;unfold W5;by_cases L:i=0
    .subst L;rw[aD rfl];dsimp only;by_cases hz1:z1=0
     .subst hz1;rfl
     .rw[av (λh=>hz1 h.1),aD ⟨by omega,zT,rfl⟩];rfl
    .have:=q2 L;rw[av L];dsimp only;rw[av (λh=>by omega),aD ⟨this,zT,rfl⟩];rfl
   .obtain⟨L,hpr⟩:=hc hcf;rw[hw L];refine cu (aS ?_);refine ch (λ_=>aj λh=>(by cases h)) λh=>aj ⟨rfl,?_⟩
    let⟨b0,b1⟩:=hpb (by omega);have h:z2=bl .i64 ((geti pO A ((i-1:Nat):Int)).2.1+1):=h;rw[iQ]at h;refine ⟨?_,by omega,by omega⟩;rw[av (by omega)];unfold W5;dsimp only;rw[aD ⟨hpr.symm,h⟩,hpr,h]
  .rintro x ⟨rfl,hx,hx2⟩;refine aj ?_;dsimp only;refine ⟨gQ,rfl,?_,λ_=>hx2⟩;rw[av (by omega)];exact hx
 .rintro⟨a,b⟩ ⟨N,e2,e3,_⟩;dsimp only at N e2;subst N e2;refine bL (λg4=>(by dsimp only[ak]at g4;omega)) λ_=>?_
  rw[cv]at e3;exact aj λ_=>⟨hv,by unfold SV0;dsimp only;rw[e3];simp⟩
def rdE (e:ET):Bool:=decide (e.2.1=3)||decide (e.2.1=23)
def fl (l:Y ET) (t:Int):θ:=(l.filter λe=>decide (e.1=t)).map rdE
def Nv (l:Y ET) (t y:Int):Prop:=0<=y/\(fl l t).getD y.toNat aa=J
def vX (l m:Y ET) (t:Int):fl (l++m) t=fl l t++fl m t:=by unfold fl;rw[List.filter_append,cq]
variable {e:ET}
def Bt (h:e.1=a):fl [e] a=[rdE e]:=by unfold fl;simp[h]
def ym (h:¬e.1=a):fl [e] a=[]:=by unfold fl;simp[h]
variable {L:Y ET}
def Nv.app {y:Int} (h:Nv L a y) (m:Y ET):Nv (L++m) a y:=by
 let⟨h0,h1⟩:=h;refine ⟨h0,?_⟩;rw[vX];rw[aw]at h1 ⊢;rcases bG y.toNat (l! (fl L a)) with g|g
 .rw[bC g];exact h1
 .rw[c5 g]at h1;cases h1
def Nv.lt {y:Int} (h:Nv L a y):y<l! (fl L a):=by
 let⟨h0,h1⟩:=h;rcases bG y.toNat (l! (fl L a)) with g|g
 .omega
 .rw[aw,c5 g]at h1;cases h1
def Nv.last (h:rdE e=J) (z:a=l! (fl L e.1)):Nv (L++[e]) e.1 a:=by
 subst z;refine ⟨by omega,?_⟩;rw[vX,Bt rfl,aw,bS (by simp),h];simp
def UW (l:Y ET) (t:Int):l! (fl l t)<=l! l:=by unfold fl;rw[b_];exact DH ..
structure SCx (w:WT) (l:List ET) (sy:SY) (ce fu:η) (e:ET):Prop where
 en:EN w sy e.1 e.2.1 e.2.2.1
 rd:Xa w sy e.1 e.2.1 e.2.2.1
 s1:e.2.1=1\/e.2.1=2->e.2.2.2.2.1= -1
 s2:¬(e.2.1=1\/e.2.1=2)->0<=e.2.2.2.2.1/\e.2.2.2.2.1<l! w.2.2.2.2.2/\(geti pO w.2.2.2.2.2 e.2.2.2.2.1).1=e.1
 de:0<l! e.2.2.2.2.2.1->e.2.1=5\/(e.2.1=3\/e.2.1=4)/\¬(geti mf w.1 e.2.2.1).2.2.1=0
 fr:0<l! e.2.2.2.2.2.2->e.2.1=4\/e.2.1=22
 nd:AN (l! (fl l e.1)) e.2.2.2.2.2.1
 nf:AN (l! (fl l e.1)) e.2.2.2.2.2.2
 rd1:∀y∈e.2.2.2.2.2.1,Nv l e.1 y
 rd2:∀y∈e.2.2.2.2.2.2,Nv l e.1 y
 va:VA w sy ce fu e.1 e.2.1 e.2.2.1 e.2.2.2.1
def thP:Nat->Y e?
 |0=>[]
 |n+1=>(1,0,aa)::aF n (0,0,aa)
def SK (w:WT):SY:=(aF (l! w.2.1) (-1,[]),-1,aF (l! w.2.2.2.1) aa,thP (l! w.2.2.2.2.1))
def ce0 (w:WT):η:=w.1.map λc=>c.2.2.2.2
def fu0 (w:WT):η:=aF (l! w.2.2.2.1) 0
inductive Acw (w:WT):List ET->SY->η->η->Prop
 |nil:Acw w [] (SK w) (ce0 w) (fu0 w)
 |snoc {l:List ET} {sy:SY} {ce fu:η} {e:ET} (h:Acw w l sy ce fu) (hs:SCx w l sy ce fu e):Acw w (l++[e]) (uv w sy e.1 e.2.1 e.2.2.1 e.2.2.2.1).1 (ceP ce e) (fuP fu e)
def aet (i:Nat):thP (i+2)=thP (i+1)++[(0,0,aa)]:=by
 show (1,0,aa)::aF (i+1) (0,0,aa)=(1,0,aa)::aF i (0,0,aa)++[(0,0,aa)]
 rw[wg,gA]
def QM:∀n,l! (thP n)=n
 |0=>rfl
 |n+1=>by simp[thP]
def Nn (w:WT) (h:VL w):sR w=Z (SK w):=by
 let⟨w1,D,w3,L,w5,w6⟩:=w;let⟨h1,h2,h3,h4,_,h5,h6⟩:=h;dsimp only at*
 refine cz ?_;unfold sR aW bm bF cG dE dk ip bi bM bX be cQ aG cN;refine cm (l! D) (λi x=>x.1=(i:Int)/\x.2.1=(w1,D,w3,L,w5,w6)/\x.2.2.2=(-1,aF i (-1,[]))) ?_ ?_ ⟨rfl,rfl,rfl⟩
 .rintro i ⟨a,b,c,d,e⟩ hi ⟨A,e2,z⟩;simp only[aP]at A e2 z;obtain⟨rfl,rfl⟩:=z;subst A e2;with_reducible repeat' first|apply OS.ok;constructor|refine IM.mk λ_=>?_
  all_goals try simp only[ak,sC] at*
  all_goals first|omega|(simp;omega)|skip
  exact⟨gQ,by rw[wg]⟩
 rintro⟨a,b,c,d,e⟩ ⟨A,e2,z⟩;simp only[aP]at A e2 z;obtain⟨rfl,rfl⟩:=z;subst A e2;refine bL (λN=>(by dsimp only[ak]at N;omega)) λ_=>?_
 refine ax (P:=λs=>s=SK (w1,D,w3,L,w5,w6)) ?_ λy hy=>aj hy
 refine cm (l! L) (λi x=>x.1=(i:Int)/\x.2.1=(w1,D,w3,L,w5,w6)/\x.2.2.2=(-1,aF (l! D) (-1,[]),aF i aa)) ?_ ?_ ⟨rfl,rfl,rfl⟩
 .rintro i ⟨a,b,c,d,e',f⟩ hi ⟨A,e2,z⟩;simp only[aP]at A e2 z;obtain⟨rfl,rfl,rfl⟩:=z;subst A e2;with_reducible repeat' first|apply OS.ok;constructor|refine IM.mk λ_=>?_
  all_goals try simp only[ak,sC] at*
  all_goals first|omega|(simp;omega)|skip
  exact⟨gQ,by rw[wg]⟩
 rintro⟨a,b,c,d,e',f⟩ ⟨A,e2,z⟩;simp only[aP]at A e2 z;obtain⟨rfl,rfl,rfl⟩:=z;subst A e2;refine bL (λN=>(by dsimp only[ak]at N;omega)) λ_=>?_
 refine ax (P:=λs=>s=SK (w1,D,w3,L,w5,w6)) ?_ λy hy=>aj hy
 refine cm (l! w5) (λi x=>x.1=(i:Int)/\x.2.1=(w1,D,w3,L,w5,w6)/\x.2.2.2=(-1,aF (l! D) (-1,[]),aF (l! L) aa,thP i)) ?_ ?_ ⟨rfl,rfl,rfl⟩
 .rintro i ⟨a,b,c,d,e'',f',g⟩ hi ⟨A,e2,z⟩;simp only[aP]at A e2 z;obtain⟨rfl,rfl,rfl,rfl⟩:=z;subst A e2;have hl:=QM i;refine bL (λ_=>?_) λN=>(by dsimp only[ak]at N;omega)
  refine gV (aI (λh0=>aj ?_) λh0=>aj ?_)
  .have h0:((i:Nat):Int)=0:=h0;have h0:i=0:=by omega
   subst h0;exact bt (by simp[thP]) (by omega) (aj ⟨rfl,rfl,rfl⟩)
  .have h0:¬((i:Nat):Int)=0:=h0;obtain⟨j,rfl⟩:∃j,i=j+1:=⟨i-1,by omega⟩
   refine bt (by dsimp only;rw[hl];simp;omega) (by omega) (aj ⟨gQ,rfl,?_⟩);dsimp only;rw[aet]
 rintro⟨a,b,c,d,e'',f',g⟩ ⟨A,e2,z⟩;simp only[aP]at A e2 z;obtain⟨rfl,rfl,rfl,rfl⟩:=z;subst A e2;refine bL (λN=>(by dsimp only[ak]at N;omega)) λ_=>aj rfl
def Xu {w:WT} (h:VL w):SB 0 (SK w):=by
 let⟨h1,h2,N,L,_,D,A⟩:=h;refine ⟨by omega,by simp[SK];omega,λl z=>?_,by simp[SK];omega,by simp[SK,QM];omega⟩;rw[yP z];simp
def Nm (w:WT) (h:VL w):oe w=Z (SK w,ce0 w,fu0 w,aF (l! w.2.2.2.2.1) 0):=by
 have hs:=Nn w h;have hd:(SK w)=SK w:=rfl;let⟨D,w2,w3,N,L,w6⟩:=w;let⟨h1,h2,h3,h4,_,h5,h6⟩:=h;dsimp only at*
 refine cz ?_;unfold oe aW bm bF cg dk bM bX bQ be cQ aG cN;refine aT hs ?_;with_reducible repeat' first|apply OS.ok;constructor|refine IM.mk λ_=>?_
 all_goals try simp only[ak,sC] at*
 all_goals first|omega|skip
 refine cm (l! D) (λi x=>x.1=(i:Int)/\x.2.1=(D,w2,w3,N,L,w6)/\x.2.2.2=(SK (D,w2,w3,N,L,w6),(D.take i).map (λc=>c.2.2.2.2),aF (l! N) 0,aF (l! L) 0)) ?_ ?_ ⟨rfl,rfl,rfl⟩
 .rintro i ⟨a,b,c,d,e,f,g⟩ hi ⟨A,e2,z⟩;simp only[aP]at A e2 z;obtain⟨rfl,rfl,rfl,rfl⟩:=z;subst A e2;with_reducible repeat' first|apply OS.ok;constructor|refine IM.mk λ_=>?_
  all_goals try simp only[ak,sC] at*
  all_goals first|omega|(simp;omega)|skip
  exact⟨gQ,by rw[pA (T:=mf) hi,cq];rfl⟩
 rintro⟨a,b,c,d,e,f,g⟩ ⟨A,e2,z⟩;simp only[aP]at A e2 z;obtain⟨rfl,rfl,rfl,rfl⟩:=z;subst A e2;refine bL (λg4=>(by dsimp only[ak]at g4;omega)) λ_=>aj ?_
 rw[cv];rfl
def Y' (w:WT) (h:VL w):Ok (oe w) λs=>NB 0 s/\l! s.2.1=l! w.1/\l! s.2.2.1=l! w.2.2.2.1/\l! s.2.2.2=l! w.2.2.2.2.1:=
 aso (Nm w h) ⟨⟨Xu h,by have:=h.c;simp[ce0];omega,by have:=h.f;simp[fu0];omega,by have:=h.t;simp;omega⟩,by simp[ce0],by simp[fu0],by simp⟩
def TB (l:Y ET) (i t:Int) (z:η) (hl:l! l<=1000000000) (hi:0<=i/\i<=l! l) (hn:l! z<=1000000000):Ok (sP (l,i,t,z)) λb=>b=J->∀y∈z,Nv (l.take i.toNat) t y:=by
 unfold sP aW cg bi bM iE bQ be cQ aG cN;refine cm (l! z) (λk x=>x=(k:Int)/\∀j:Nat,j<k->Nv (l.take i.toNat) t (geti aL z (j:Int))) ?_ ?_ ⟨rfl,λj hj=>(by omega)⟩
 .rintro k x hk ⟨rfl,hx⟩;refine bL (λN=>?_) λN=>(by dsimp only[ak]at N;omega)
  refine rx (λx=>(i-x.2.2).toNat) (λx=>0<=x.2.2/\x.2.2<=i/\x.1=(l! (fl (l.take x.2.2.toNat) t):Int)/\(x.2.1=J->Nv (l.take x.2.2.toNat) t (geti aL z (k:Int)))) ?_ ⟨by simp,hi.1,by simp[fl],nofun⟩;rintro⟨a,b,(c:Int)⟩ ⟨c0,c1,ha,D⟩;dsimp only at c0 c1 ha D;subst ha;obtain⟨c,rfl⟩:∃n:Nat,c=(n:Int):=⟨c.toNat,by omega⟩
  rw[bD]at D;dsimp only;rw[bD];have hfl:=UW (l.take c) t;have htl:=m_ c l;refine bL (λL=>?_) λL=>?_
  .have L:(c:Int)<i:=L;have htk:l.take (c+1)=l.take c++[geti iC l (c:Int)]:=pA (T:=iC) (by omega);refine aU (λy=>y.1=(l! (fl (l.take (c+1)) t):Int)/\(y.2=J->Nv (l.take (c+1)) t (geti aL z (k:Int)))) ?_ ?_
   .rw[htk,vX];refine aM c0 (by first|omega|(dsimp only;omega)) (aS ?_);refine ch (λhne=>aj ⟨by rw[ym hne];simp,λh=>(D h).app _⟩) λhe=>?_
    have he:(geti iC l (c:Int)).1=t:=he;refine aU (λy=>y=J->Nv (l.take c++[geti iC l (c:Int)]) t (geti aL z (k:Int))) ?_ λy hy=>aj ⟨?_,hy⟩
    .refine aN (λh=>aj λ_=>(D h).app _) λ_=>?_
     refine aM (by omega) (by first|omega|(dsimp only;omega)) (aS ?_);refine aI (λhn=>?_) λ_=>aj nofun
     have A:rdE (geti iC l (c:Int))=J->Nv (l.take c++[geti iC l (c:Int)]) t (geti aL z (k:Int)):=λh=>by
      rw[<- he]at hn ⊢;exact Nv.last h hn.symm
     refine aM c0 (by first|omega|(dsimp only;omega)) (aS ?_);refine aI (λh=>aj λ_=>A (by unfold rdE;rw[aR h];rfl)) λ_=>?_
     exact aM c0 (by first|omega|(dsimp only;omega)) (aS (aj λh=>A (by unfold rdE;rw[h];simp)))
    .dsimp only;rw[Bt he,gQ];simp
   .rintro⟨p,q⟩ ⟨hp,A⟩;refine aj ?_;dsimp only at hp A ⊢;rw[gQ,bD];exact⟨⟨by omega,by omega,hp,A⟩,by omega⟩
  .refine ax (P:=λr=>match r with|.inl y=>y=((k+1:Nat):Int)/\∀j:Nat,j<k+1->Nv (l.take i.toNat) t (geti aL z (j:Int))|.inr r=>r=J->∀y∈z,Nv (l.take i.toNat) t y) ?_ λr hr=>aj ?_
   .refine em (λ_=>aj nofun) λh=>aj ⟨gQ,λj hj=>?_⟩
    rcases bG j k with h1|h1
    .exact hx j h1
    .have:=D h;have hci:c=i.toNat:=by have L:i<=(c:Int):=L;omega
     rw[show j=k by omega,<-hci];exact this
   .cases r with
    |_=>exact hr
 .rintro x ⟨rfl,hx⟩;refine bL (λN=>(by dsimp only[ak]at N;omega)) λ_=>aj λ_=>iL (T:=aL) hx
def CN (l:Y ET) (c:η):Prop:=∀t:Int,0<=t->t<l! c->geti aL c t=(l! (fl l t):Int)
variable {T:Ty}
def ku (xs:Y T.den) (j k:Int) (x:T.den) (D:0<=j) (z:j<l! xs) (A:0<=k):geti _ (cH xs j x) k=if k=j then x else geti _ xs k:=by
 unfold geti cH;rw[aw,aw,dG];by_cases h:k=j
 .subst h;rw[aD rfl,aD rfl,aD (by omega)];rfl
 .rw[av (by omega),av h]
variable {z:η}
def CN.next (h:CN L z) (e:ET) (h0:0<=e.1) (h1:e.1<l! z) (N:l! L<1000000):CN (L++[e]) (cH z e.1 (bl .i64 (geti aL z e.1+1))):=λt D A=>by
 rw[b7]at A;have:=UW L e.1;rw[ku (T:=aL) _ _ _ _ h0 h1 D,vX];split
 next c=>subst c;rw[Bt rfl,h _ h0 h1,gQ];simp
 next c=>rw[ym λl=>c l.symm,h _ D A];simp
def CN.bd (h:CN L z) (t:Int):(geti aL z t:Int)<=l! L:=by
 have key:∀c:Int,geti aL z t=c->c<=l! L:=by
  intro c e;rcases bG t.toNat (l! z) with g|g
  .have h1:=h (t.toNat:Int) (by omega) (by omega);have l:=UW L ((t.toNat:Nat):Int);have A:geti aL z t=geti aL z ((t.toNat:Nat):Int):=by unfold geti;rw[bD]
   have D:c=(l! (fl L ((t.toNat:Nat):Int)):Int):=e.symm.trans (A.trans h1);omega
  .have:c=0:=by
    rw[<- e];unfold geti;rw[aw,c5 g];rfl
   omega
 exact key _ rfl
structure SH (w:WT) (e:ET):Prop where
 nm:NM w e.2.1 e.2.2.1
 t0:0<=e.1
 t1:e.1<l! w.2.2.2.2.1
 cd:∀c∈w.2.2.1,0<=c.2/\c.2<l! w.2.1
def aj4 (w:WT) (l:Y ET):Ok (vE (w,l)) λy=>y.2=0->(VL w/\SV0 w)/\(∀e∈l,SH w e)/\∃sy ce fu,Acw w l sy ce fu:=by
 unfold vE cG cg ip bM bQ be cQ aG cN;refine bL (λ_=>aj nofun) λhl=>?_
 dsimp only[ak]at hl;refine ax (Dz w) λb hb=>?_
 refine em (λ_=>aj nofun) λh=>?_
 let⟨N,hsv⟩:=hb h;refine aT (Nm w N) ?_;have hs:NB 0 (SK w,ce0 w,fu0 w,aF (l! w.2.2.2.2.1) 0):=⟨Xu N,by have:=N.c;simp[ce0];omega,by have:=N.f;simp[fu0];omega,by have:=N.t;simp;omega⟩
 have hw:l! w.2.2.1<=1000:=by have:=N.d;omega
 refine cm (l! l) (λi x=>x.1=(i:Int)/\x.2.1=(w,l)/\NB i x.2.2/\(∀k:Nat,k<i->SH w (geti iC l (k:Int)))/\Acw w (l.take i) x.2.2.1 x.2.2.2.1 x.2.2.2.2.1/\CN (l.take i) x.2.2.2.2.2/\l! x.2.2.2.2.2=l! w.2.2.2.2.1) ?_ ?_ ⟨rfl,rfl,hs,λk hk=>(by omega),.nil,λt t0 t1=>?_,by simp⟩
 .rintro i ⟨a,b,s⟩ hi ⟨e1,e2,e3,e4,e5,e6,e7⟩;dsimp only at e1 e2 e3 e4 e5 e6 e7;subst e1 e2;refine bL (λA=>?_) λA=>(by dsimp only[ak]at A;omega)
  refine cu (aS ?_);have hmem:=bP (T:=iC) (xs:=l) (j:=(i:Int)) (by omega) (by omega);have hbd:=e6.bd (geti iC l (i:Int)).1;have htl:=m_ i l;have hbd:(geti aL s.2.2.2 (geti iC l (i:Int)).1:Int)<=1000000:=by
   refine ta hbd ?_;omega
  refine ax (HI w s e3 hw _ (.inr (ta hbd (by decide))) (.inr (ta hbd (by decide)))) λy hy=>?_
  have d1:y.2=J->(geti iC l (i:Int)).2.2.2.2.2.1.length<=1000000000:=λh=>by
   have h3:((geti iC l (i:Int)).2.2.2.2.2.1.length:Int)<=max (0:Int) (geti aL s.2.2.2 (geti iC l (i:Int)).1):=(hy.1 h).2.2.1.nd.len;have h4:max (0:Int) (geti aL s.2.2.2 (geti iC l (i:Int)).1)<=1000000:=Int.max_le.2 ⟨by decide,hbd⟩;have:=ta h3 h4;omega
  have d2:y.2=J->(geti iC l (i:Int)).2.2.2.2.2.2.length<=1000000000:=λh=>by
   have h3:((geti iC l (i:Int)).2.2.2.2.2.2.length:Int)<=max (0:Int) (geti aL s.2.2.2 (geti iC l (i:Int)).1):=(hy.1 h).2.2.1.nf.len;have h4:max (0:Int) (geti aL s.2.2.2 (geti iC l (i:Int)).1)<=1000000:=Int.max_le.2 ⟨by decide,hbd⟩;have:=ta h3 h4;omega
  refine aU (λx=>x.2.1=(w,l)/\x.2.2.2=y.1/\(x.1=aa->y.2=J/\(∀z∈(geti iC l (i:Int)).2.2.2.2.2.1,Nv (l.take i) (geti iC l (i:Int)).1 z)/\∀z∈(geti iC l (i:Int)).2.2.2.2.2.2,Nv (l.take i) (geti iC l (i:Int)).1 z)) ?_ ?_
  .refine em (λ_=>aj ⟨rfl,rfl,nofun⟩) λh=>?_
   refine ax (TB l _ _ _ (by omega) ⟨by dsimp only;omega,by dsimp only;omega⟩ (d1 h)) λb1 hr1=>?_
   refine em (λ_=>aj ⟨rfl,rfl,nofun⟩) λhb1=>?_
   refine ax (TB l _ _ _ (by omega) ⟨by dsimp only;omega,by dsimp only;omega⟩ (d2 h)) λb2 hr2=>aj ⟨rfl,rfl,λhb2=>⟨h,hr1 hb1,hr2 (by simpa using hb2)⟩⟩
  .rintro⟨c,p,q,r⟩ ⟨f1,f2,f3⟩;dsimp only at f1 f2 f3;subst f1 f2;refine aN (λ_=>aj nofun) λh=>?_
   let⟨f4,r1,r2⟩:=f3 h;let⟨D,g2,L,A⟩:=hy.1 f4;refine aj ?_;dsimp only;have htk:l.take (i+1)=l.take i++[geti iC l (i:Int)]:=pA (T:=iC) hi;have hc:=e6 _ D.t0 (by rw[e7];exact D.t1);have hnx:=eW Prod.fst A;have hac:=e5.snoc (e:=geti iC l (i:Int)) ⟨D,L.rd,L.s1,L.s2,L.de,L.fr,by rw[<- hc];exact L.nd,by rw[<- hc];exact L.nf,r1,r2,L.va⟩;refine ⟨gQ,rfl,g2.NB e3 (by omega),λk hk=>?_,by rw[htk,A];exact hac,by rw[htk,A];exact e6.next _ D.t0 (by rw[e7];exact D.t1) (by rw[bR];omega),by rw[A];unfold nxP;rw[b7];exact e7⟩;rcases bG k i with h1|h1
   .exact e4 k h1
   .rw[show k=i by omega];exact⟨D.nm,D.t0,D.t1,D.cd⟩
 .rintro⟨a,b,s⟩ ⟨e1,e2,e3,e4,e5,_⟩;dsimp only at e1 e2 e3 e4 e5;subst e1 e2;rw[cv]at e5;refine bL (λA=>(by dsimp only[ak]at A;omega)) λ_=>aj λ_=>⟨⟨N,hsv⟩,iL (T:=iC) e4,_,_,_,e5⟩
 .rw[cL]at t1;obtain⟨t,rfl⟩:∃n:Nat,t=(n:Int):=⟨t.toNat,by omega⟩
  rw[CQ,aw,eV];split<;>simp[fl]
abbrev Kd0:Ty:=(.st (.pr .bool .bool))
abbrev Yd0:=(Int×C!)
abbrev Yd1:=(ν×b?)
abbrev Yd2:=(Int×h?)
def nB (x:n!):M (Int):=
 (jn (bM x.2 0 (aG J) (aG (dm (be x.1) x.2))) λz=>(aH z (Z 0) (nh x.2 x.1 (Z (geti aL x.1 x.2)))))
def wU (it:C5) (x:A?):M η:=
 (bX (dm 0 (mH (be x.1) (be x.2))&&dm (mH (be x.1) (be x.2)) (mH (be x.1) (be x.2))&&bf (aO (mH (be x.1) (be x.2))) 8) (it k! _ (λz=>(bM z.1 (aQ (ah (aF (aO (mH (be x.1) (be x.2))) (0:Int)))) (aA (nB (x.1,z.1)) λD=>(aA (nB (x.2,z.1)) λA=>(ck (fe z.1 (ah z.2)) (cQ ((cN z.1),(cH z.2 z.1 (mH D A))))))) (aG z.2))) (0,(aF (aO (mH (be x.1) (be x.2))) (0:Int)))))
def Bb (x:A?):M η:=wU @iter x
def lw (x:A?):M η:=wU @gZ x
def Ci (x:n!):M (Int):=
 (jn (bM x.2 0 (aG J) (aG (dm (be x.1) x.2))) λz=>(aH z (Z 0) (nh x.2 x.1 (Z (geti aL x.1 x.2)))))
def Rf (x:η):M η:=
 (aH (ay (ah x) 0) (Hz (Z ([]:η)) (bX (bf (ah ([]:η)+ah x) 8) (Z (([]:η)++x)))) (bX (bf (ah ([]:η)+ah x) 8) (Z (([]:η)++x))))
def XK (x:η):M η:=chk (bf (ah x) 8) λ_=>Z x
def Lb (x:η):M η:=
 (aH (ay (ah x) 0) (Hz (Z ([]:η)) (bX (bf (ah ([]:η)+ah x) 8) (Z (([]:η)++x)))) (bX (bf (ah ([]:η)+ah x) 8) (Z (([]:η)++x))))
def uP (x:η):M η:=chk (bf (ah x) 8) λ_=>Z x
def qQ (x:n!):M η:=
 (jn (j_ 0 x.2 (aG (fK x.2 4)) (aG aa)) λD=>(jn (aH D (aG (mH (be x.1) (cN x.2))) (aG (be x.1))) λz=>(bX (dm 0 z&&dm z z&&bf (aO z) 8) (jn (jn (aH D (ck (fe x.2 (ah (W7 (aF (aO z) (0:Int)) x.1))) (aG ((fK (geti aL (W7 (aF (aO z) (0:Int)) x.1) x.2) 9223372036854775807),(W7 (aF (aO z) (0:Int)) x.1)))) (aG (aa,(W7 (aF (aO z) (0:Int)) x.1)))) λA=>(aH A.1 (ck (fe x.2 (ah A.2)) (ck (fe x.2 (ah A.2)) (aG (cH A.2 x.2 (bl .i64 ((geti aL A.2 x.2)+1)))))) (aG A.2))) λL=>(Z L)))))
def Fi (it:C5) (x:A?):M (Bool):=
 (it (Int) _ (λz=>(bM z (mH (be x.1) (be x.2)) (aA (Ci (x.1,z)) λD=>(aA (Ci (x.2,z)) λA=>(bM A D (aG aa) (cQ (cN z))))) (aG J))) 0)
def K4 (x:A?):M (Bool):=Fi @iter x
def tM (x:A?):M (Bool):=Fi @gZ x
def od (x:eC×Int):M (Int):=
 (jn (bM x.2 0 (aG (J,x.1.1,x.1.2.1,x.1.a,x.1.b,x.1.c,x.1.h)) (aG ((dm (be x.1.a) x.2),x.1.1,x.1.2.1,x.1.a,x.1.b,x.1.c,x.1.h))) λz=>(aH z.1 (Z (-1)) (nh x.2 z.b (Z ((geti itK z.b x.2).2)))))
def pH (x:eC×b?):M o?:=
 (jn (bi x.a 6 (aG ((decide ((x.a:Int)=6)),(x.1.1,x.1.2.1,x.1.a,x.1.b,x.1.c,x.1.h),x.2.1,x.a,x.b,x.c,x.e,x.g,x.p)) (aG ((decide ((x.a:Int)=10)),(x.1.1,x.1.2.1,x.1.a,x.1.b,x.1.c,x.1.h),x.2.1,x.a,x.b,x.c,x.e,x.g,x.p))) λz=>(aH z.1 (Z (z.c,aa)) (bi x.a 8 (Z (z.c,J)) (bi x.a 17 (aA (od ((z.2.1.1,z.2.1.2.1,z.2.1.a,z.2.1.b,z.2.1.c,z.2.1.h),z.c)) λA=>(Z (A,aa))) (Z ((-1),aa))))))
def pF (x:eC×b?):M o?:=
 (jn (bi x.a 7 (aG ((decide ((x.a:Int)=7)),(x.1.1,x.1.2.1,x.1.a,x.1.b,x.1.c,x.1.h),x.2.1,x.a,x.b,x.c,x.e,x.g,x.p)) (aG ((decide ((x.a:Int)=11)),(x.1.1,x.1.2.1,x.1.a,x.1.b,x.1.c,x.1.h),x.2.1,x.a,x.b,x.c,x.e,x.g,x.p))) λz=>(aH z.1 (Z (z.c,aa)) (bi x.a 9 (Z (z.c,J)) (bi x.a 16 (aA (od ((z.2.1.1,z.2.1.2.1,z.2.1.a,z.2.1.b,z.2.1.c,z.2.1.h),z.c)) λA=>(Z (A,aa))) (Z ((-1),aa))))))
def s6 (it:C5) (x:ζ):M (Bool):=
 (lt (geti ((.st (.pr .str (.pr .str (.pr .str (.pr .str (.pr .str (.pr .str (.pr .str (.pr .str (.pr .str (.pr .str (.pr .str (.pr .str (.pr .str (.pr .str (.pr .str (.pr .str (.pr .str (.pr .str (.pr .str (.pr .str (.pr .str .str))))))))))))))))))))))) ([kwV]) 0) λz=>(it (Int) _ (λA=>(bM A 22 (bX (dm 0 A&&fK A 22) (lt (geti (.str) [z.1,z.2.1,z.a,z.b,z.c,z.e,z.g,z.j,z.m,z.o,z.l,z.n,z.i,z.q,z.t,z.u,z.C,z.D,z.H,z.I,z.K,z.L] A) λD=>(aH (decide ((x:ζ)=D)) (aG J) (cQ (cN A))))) (aG aa))) 0))
def sO (x:ζ):M (Bool):=s6 @iter x
def lZ (x:ζ):M (Bool):=s6 @gZ x
def xr (it:C5) (x:ζ):M (Bool):=
 (jn (bM (be x) 1 (aG J) (bM 12 (be x) (aG J) (aA (lZ x) λL=>(aG L)))) λx1=>(aH x1 (Z aa) (it (Y (jS×Unit)) _ (λz=>(aH (dY (Lp z) (ah (NA z))) (jn (α:=Y (jS×Unit)) (jn (α:=Bool×Y (jS×Unit)) (j_ 97 (rnP (NA z) (Lp z)) (j_ (rnP (NA z) (Lp z)) 122 (aG (J,[(((NA z),(aQ ((Lp z)+wdP (NA z) (Lp z)))),())])) (j_ 65 (rnP (NA z) (Lp z)) (aG ((dm (rnP (NA z) (Lp z)) 90),[(((NA z),(aQ ((Lp z)+wdP (NA z) (Lp z)))),())])) (aG (aa,[(((NA z),(aQ ((Lp z)+wdP (NA z) (Lp z)))),())])))) (j_ 65 (rnP (NA z) (Lp z)) (aG ((dm (rnP (NA z) (Lp z)) 90),[(((NA z),(aQ ((Lp z)+wdP (NA z) (Lp z)))),())])) (aG (aa,[(((NA z),(aQ ((Lp z)+wdP (NA z) (Lp z)))),())])))) λA=>(aH A.1 (aG A.2) (jn (bM 0 (aQ (Lp z)) (bi (rnP (NA z) (Lp z)) 95 (aG (J,A.2)) (j_ 48 (rnP (NA z) (Lp z)) (aG ((dm (rnP (NA z) (Lp z)) 57),A.2)) (aG (aa,A.2)))) (aG (aa,A.2))) λD=>(aH D.1 (aG D.2) (cQ (bW aa)))))) λN=>(cQ N)) (aG J))) ([((x,0),())]))))
def xk (x:ζ):M (Bool):=xr @iter x
def pC (x:ζ):M (Bool):=xr @gZ x
def zH (it:C5) (x:n!):M (Int):=
 (it (Int) _ (λz=>(bM z (be x.1) (bQ aL x.1 z λA=>(bi x.2 A (aG z) (cQ (cN z)))) (aG (-1)))) 0)
def DW (x:n!):M (Int):=zH @iter x
def sZ (x:n!):M (Int):=zH @gZ x
def lE (x:n!):M (Bool):=
 (aA (sZ x) λz=>(Z (dm 0 z)))
def kg (x:η×i?):M (Bool):=
 (aA (nB (x.1,x.2.2)) λz=>(Z (dm x.2.1 z)))
def ul (x:ν):M (Bool):=
 (jn (j_ 0 x.1 (aG (fK x.1 x.2)) (aG aa)) λz=>(Z z))
def um (x:eC×o?):M (Bool):=
 (jn (aA (ul (x.2.1,(be x.1.2.1))) λA=>(aH A (bQ s9 x.1.2.1 x.2.1 λz=>(aG ((z.2==x.2.2) !=aa))) (aG aa))) λD=>(Z D))
def pt (it:C5) (x:Y Wq):M (di×Bool):=
 (it (Int×Y ζ) _ (λD=>(bM D.1 (be x) (jn (α:=Int×Y ζ) (bQ mf x D.1 λz=>(bX (bf (ah D.2+ah ([z.1])) 16) (bi z.a 0 (iE z.2.1 0 (cQ (bW (([]:Y ζ),aa))) (aG ((cN D.1),(D.2++([z.1]))))) (jn (α:=Bool×M?) (bM z.a 1 (aG (J,(D.2++([z.1])),z)) (bM 4 z.a (aG (J,(D.2++([z.1])),z)) (aH z.b (aG (J,(D.2++([z.1])),z)) (aG ((fK (bl .i64 ((be x)-D.1)) z.a),(D.2++([z.1])),z))))) λN=>(aH N.1 (cQ (bW (([]:Y ζ),aa))) (it (Int×M?) _ (λA=>(bM A.1 N.c (bQ mf x (bl .i64 (D.1+A.1)) λL=>(aH (ND (.pr .str (.pr aL (.pr aL (.pr .bool (.pr aL .un))))) (L.1,L.2.1,L.a,L.b,L.f,()) (A.a,A.1,A.c,A.e,A.k,()) !=J) (aG (rh (bW (([]:Y ζ),aa)))) (cQ ((cN A.1),A.2.1,A.a,A.1,A.f)))) (aG (bW ((bl .i64 (D.1+A.c)),A.2.1))))) (0,N.2))))))) λx2=>(cQ x2)) (aG (D.2,J)))) (0,([]:Y ζ)))
def pm (x:Y Wq):M (di×Bool):=pt @iter x
def hY (x:Y Wq):M (di×Bool):=pt @gZ x
def pq (it:C5) (x:eC×Y ζ):M (Bool):=
 (bX (bf (ah (x.2:Y ζ)) 16) (it z? _ (λA=>(bM A.1 (be x.1.2.1) (bQ s9 x.1.2.1 A.1 λz2=>(bX (bf (ah A.2.2+ah ([z2.1])) 16) (cQ ((cN A.1),A.2.1,(A.2.2++([z2.1])))))) (aA (it z? _ (λz=>(bM z.1 (be A.2.1.a) (bQ itK A.2.1.a z.1 λz4=>(bX (bf (ah z.2.2+ah ([z4.1])) 16) (cQ ((cN z.1),z.2.1,(z.2.2++([z4.1])))))) (aA (bX (bf (ah z.2.2+ah z.2.1.b) 16) (bX (bf (ah (z.2.2++z.2.1.b)+ah z.2.1.c) 16) (it (Int×mN×Y ζ) _ (λD=>(bM D.1 (aQ (ah ((z.2.2++z.2.1.b)++z.2.1.c))) (jY (.str) D.2.2 D.1 λL=>(jn (aA (pC L) λy8=>(aH (!y8) (aG (J,D.2)) (aG ((wN (K:=.str) (V:=.bool) L D.2.1 aa),D.2)))) λN=>(aH N.1 (aG aa) (cQ ((cN D.1),(uk (K:=.str) (V:=.bool) L J N.2.1),N.2.2))))) (aG J))) (0,([]:Y F!),((z.2.2++z.2.1.b)++z.2.1.c))))) λr=>Z (bW r)))) (0,A.2)) λr=>Z (bW r)))) (0,x)))
def pl (x:eC×Y ζ):M (Bool):=pq @iter x
def dT (x:eC×Y ζ):M (Bool):=pq @gZ x
def lQ (it:C5) (x:c!):M (Bool):=
 (it (π×c!) _ (λz=>(bM z.1.2.2 (be x.h) (bQ pO x.h z.1.2.2 λL=>(jn (bM L.1 z.1.1 (aG (J,z.2,L)) (aG ((dm (be z.e) L.1),z.2,L))) λD=>(aH D.1 (aG aa) (jn (α:=(ν)×eC×Int×i?) (bM z.1.1 D.a (aG ((D.a,0),D.2)) (aG ((z.1.1,z.1.2.1),D.2))) λA=>(iE A.b A.1.2 (aG aa) (cQ ((A.1.1,(cN A.1.2),(cN z.1.2.2)),A.2.1))))))) (aG J))) ((0,0,0),x))
def pj (x:c!):M (Bool):=lQ @iter x
def gd (x:c!):M (Bool):=lQ @gZ x
def lR (it:C5) (x:c!):M (Bool):=
 (jn (bM 12 (be x.1) (aG (J,x)) (bM 4 (be x.2.1) (aG (J,x)) (bM 2 (be x.a) (aG (J,x)) (bM 2 (be x.b) (aG (J,x)) (aG ((fK 60 (be x.h)),x)))))) λD=>(aH D.1 (Z aa) (jn (bM (be D.e) 1 (aG (J,D.2)) (aG ((fK 4 (be D.e)),D.2))) λA=>(aH A.1 (Z aa) (aA (hY A.2.1) λN=>(jn (aH (!N.2) (aG (J,A.2)) (aA (dT (A.2,N.1)) λy5=>(aG ((!y5),A.2)))) λL=>(aH L.1 (Z aa) (it D? _ (λz=>(bM z.1 (be L.b) (bQ itK L.b z.1 λz7=>(aA (um (z.2,z7.2,aa)) λy8=>(aH (!y8) (aG aa) (cQ ((cN z.1),z.2))))) (aA (aA (gd z.2) λy9=>(Z y9)) λr=>Z (bW r)))) (0,L.2)))))))))
def pn (x:c!):M (Bool):=lR @iter x
def gf (x:c!):M (Bool):=lR @gZ x
def xt (it:C5) (x:c!):M qV:=
 (bX (dm 0 (be x.2.1)&&dm (be x.2.1) (be x.2.1)&&bf (aO (be x.2.1)) 32) (bX (dm 0 (be x.b)&&dm (be x.b) (be x.b)&&bf (aO (be x.b)) 1) (bX (dm 0 (be x.c)&&dm (be x.c) (be x.c)&&bf (aO (be x.c)) 24) (it W? _ (λz=>(bM z.1 (aQ (ah (aF (aO (be x.2.1)) ((0,[]):k!)))) (ck (fe z.1 (ah z.b)) (cQ ((cN z.1),z.2.1,z.a,(cH z.b z.1 ((-1),(geti dQ z.b z.1).2)),z.f))) (aA (jn (α:=q?) (bM 0 (be z.h) (ck (fe 0 (ah z.h)) (aG (z.2.1,z.a,z.b,z.c,(cH z.h 0 (1,(geti il z.h 0).2))))) (aG z.2)) λA=>(Z (A.a,A.2.1,A.d))) λr=>Z (bW r)))) (0,0,(-1),(aF (aO (be x.2.1)) ((0,[]):k!)),(aF (aO (be x.b)) (aa:Bool)),(aF (aO (be x.c)) ((0,(0,aa)):e?)))))))
def xm (x:c!):M qV:=xt @iter x
def pJ (x:c!):M qV:=xt @gZ x
def rR (it:C5) (x:c!):M j9:=
 (aA (pJ x) λD=>(bX (dm 0 0&&dm 0 (be x.1)&&bf (aO (be x.1)) 8) (bX (dm 0 (be x.b)&&dm (be x.b) (be x.b)&&bf (aO (be x.b)) 8) (bX (dm 0 (be x.c)&&dm (be x.c) (be x.c)&&bf (aO (be x.c)) 8) (it (Int×Int×R!) _ (λz=>(bM z.1 (be x.1) (bQ mf x.1 z.1 λA=>(bX (bf (ah z.b+ah ([A.f])) 8) (cQ ((cN z.1),z.2.1,z.a,(z.b++([A.f])),z.f)))) (aG z.2.2))) (0,0,D,(aF (aO 0) (0:Int)),(aF (aO (be x.b)) (0:Int)),(aF (aO (be x.c)) (0:Int))))))))
def rA (x:c!):M j9:=rR @iter x
def eS (x:c!):M j9:=rR @gZ x
def fg (x:ν):M (Bool):=
 (jn (j_ 0 x.1 (aG (fK x.1 x.2)) (aG aa)) λz=>(Z z))
def mW (x:eC×i?):M (Bool):=
 (jn (bi x.2.1 1 (aG ((decide ((x.2.1:Int)=1)),x.1)) (bi x.2.1 2 (aG ((decide ((x.2.1:Int)=2)),x.1)) (bi x.2.1 5 (aG ((decide ((x.2.1:Int)=5)),x.1)) (bi x.2.1 12 (aG ((decide ((x.2.1:Int)=12)),x.1)) (bi x.2.1 13 (aG ((decide ((x.2.1:Int)=13)),x.1)) (bi x.2.1 14 (aG ((decide ((x.2.1:Int)=14)),x.1)) (aG ((decide ((x.2.1:Int)=15)),x.1)))))))) λx1=>(aH x1.1 (Z (decide ((x.2.2:Int)=(-1)))) (jn (bi x.2.1 3 (aG ((decide ((x.2.1:Int)=3)),x1.2)) (aG ((decide ((x.2.1:Int)=4)),x1.2))) λx2=>(aH x2.1 (aA (fg (x.2.2,(be x2.2.1))) λy3=>(Z y3)) (jn (bi x.2.1 6 (aG ((decide ((x.2.1:Int)=6)),x2.2)) (aG ((decide ((x.2.1:Int)=7)),x2.2))) λL=>(aH L.1 (jn (aA (fg (x.2.2,(be L.a))) λy6=>(aH y6 (bQ s9 L.a x.2.2 λz7=>(aG (!z7.2))) (aG aa))) λx5=>(Z x5)) (jn (bi x.2.1 8 (aG ((decide ((x.2.1:Int)=8)),L.2)) (bi x.2.1 9 (aG ((decide ((x.2.1:Int)=9)),L.2)) (bi x.2.1 10 (aG ((decide ((x.2.1:Int)=10)),L.2)) (aG ((decide ((x.2.1:Int)=11)),L.2))))) λD=>(aH D.1 (jn (aA (fg (x.2.2,(be D.a))) λy10=>(aH y10 (bQ s9 D.a x.2.2 λz11=>(aG z11.2)) (aG aa))) λx9=>(Z x9)) (jn (bi x.2.1 16 (aG ((decide ((x.2.1:Int)=16)),D.2)) (bi x.2.1 17 (aG ((decide ((x.2.1:Int)=17)),D.2)) (bi x.2.1 18 (aG ((decide ((x.2.1:Int)=18)),D.2)) (aG ((decide ((x.2.1:Int)=19)),D.2))))) λA=>(aH A.1 (aA (fg (x.2.2,(be A.b))) λy13=>(Z y13)) (jn (bi x.2.1 20 (aG ((decide ((x.2.1:Int)=20)),A.2)) (aG ((decide ((x.2.1:Int)=21)),A.2))) λz=>(aH z.1 (aA (fg (x.2.2,(be z.e))) λy15=>(Z y15)) (jn (bi x.2.1 22 (aG ((decide ((x.2.1:Int)=22)),z.2)) (aG ((decide ((x.2.1:Int)=23)),z.2))) λN=>(aH N.1 (aA (fg (x.2.2,(be N.c))) λy17=>(Z y17)) (Z aa)))))))))))))))
def uT (it:C5) (x:eC×v?):M (Bool):=
 (jn (iE (be x.2.1) (be x.1.2.1) (aG (J,x.1)) (iE (be x.b) (be x.1.b) (aG (J,x.1)) (aG ((!decide (((be x.f):Int)=(be x.1.c))),x.1)))) λA=>(aH A.1 (Z aa) (it D? _ (λz=>(bM z.1 (be A.b) (bQ itK A.b z.1 λD=>(aA (fg (D.2,(be z.a))) λL=>(aH (!L) (aG aa) (cQ ((cN z.1),z.2))))) (aG J))) (0,A.2))))
def y_ (x:eC×v?):M (Bool):=uT @iter x
def lq (x:eC×v?):M (Bool):=uT @gZ x
def pI (x:P?):M (Bool):=
 (bi x.b 6 (bQ dQ x.2.1.1 x.f λz1=>(Z (decide ((z1.1:Int)=(-1))))) (bi x.b 10 (jn (α:=Bool) (bQ dQ x.2.1.1 x.f λz3=>(bi z3.1 (-1) (bQ dQ x.2.1.1 x.f λz4=>(aG (decide (((be z4.2):Int)=0)))) (aG aa))) λx2=>(Z x2)) (bi x.b 8 (jn (α:=Bool) (bQ dQ x.2.1.1 x.f λz6=>(bi z6.1 (-1) (bQ dQ x.2.1.1 x.f λz7=>(aA (lE (z7.2,x.a)) λy8=>(aG (!y8)))) (aG aa))) λx5=>(Z x5)) (jn (bi x.b 7 (aG ((decide ((x.b:Int)=7)),x.1,x.2.1)) (aG ((decide ((x.b:Int)=11)),x.1,x.2.1))) λA=>(aH A.1 (bQ dQ A.a x.f λz10=>(Z (decide ((z10.1:Int)=x.a)))) (bi x.b 9 (bQ dQ A.a x.f λz11=>(aA (lE (z11.2,x.a)) λy12=>(Z y12))) (bi x.b 12 (Z (decide ((A.b:Int)=(-1)))) (bi x.b 13 (Z (decide ((A.b:Int)=x.a))) (bi x.b 14 (bQ il A.h x.a λz13=>(Z (!z13.2.2))) (bi x.b 15 (bQ il A.h x.a λz14=>(Z z14.2.2)) (jn (bi x.b 16 (aG ((decide ((x.b:Int)=16)),A.2)) (bi x.b 18 (aG ((decide ((x.b:Int)=18)),A.2)) (aG ((decide ((x.b:Int)=19)),A.2)))) λz=>(aH z.1 (bQ itK z.2.1.a x.f λz16=>(bQ dQ z.a z16.2 λz17=>(Z (decide ((z17.1:Int)=x.a))))) (bi x.b 20 (jn (iE x.f x.a (bQ il z.h x.f λz19=>(aG (decide ((z19.1:Int)=0)))) (aG aa)) λx18=>(Z x18)) (bi x.b 21 (jn (iE x.f x.a (bQ il z.h x.f λN=>(aG (decide ((N.1:Int)=5)))) (aG aa)) λx20=>(Z x20)) (bi x.b 22 (bQ (.bool) z.c x.f λL=>(Z (!L))) (bi x.b 23 (bQ (.bool) z.c x.f λD=>(Z D)) (Z J)))))))))))))))))
def jG (x:P?):M (Bool):=
 (jn (aA (lq (x.1,x.2.1)) λy2=>(aH (!y2) (aG (J,x.1,x.2.1)) (aA (fg (x.a,(be x.1.c))) λy3=>(aH (!y3) (aG (J,x.1,x.2.1)) (aA (mW (x.1,x.d)) λy4=>(aG ((!y4),x.1,x.2.1))))))) λz=>(aH z.1 (Z aa) (bQ il z.h x.a λA=>(bi x.b 1 (Z (decide ((A.1:Int)=1))) (bi x.b 17 (jn (α:=Bool) (bi A.1 4 (bi A.2.1 x.f (bQ itK z.2.1.a x.f λN=>(bQ dQ z.a N.2 λL=>(aG (decide ((L.1:Int)=(-1)))))) (aG aa)) (aG aa)) λx6=>(Z x6)) (jn (bi A.1 2 (aA (pI (z.2.1,z.2.2,x.2.2)) λD=>(aG D)) (aG aa)) λx9=>(Z x9)))))))
def lW (x:eC×R!):M (Bool):=
 (jn (aA (lq (x.1,x.2.1)) λz=>(aH z (bi (be x.a) (be x.1.1) (bi (be x.b) (be x.1.b) (aG (decide (((be x.f):Int)=(be x.1.c)))) (aG aa)) (aG aa)) (aG aa))) λA=>(Z A))
def kx (x:eC×b?):M (Bool):=
 (jn (bi x.a 1 (aG (J,x)) (aG ((decide ((x.a:Int)=2)),x))) λz=>(aH z.1 (Z (decide ((z.g:Int)=(-1)))) (jn (j_ 0 z.g (bM z.g (be z.2.1.h) (bQ pO z.2.1.h z.g λA=>(aG (decide ((A.1:Int)=z.a)))) (aG aa)) (aG aa)) λD=>(Z D))))
def j7 (it:C5) (x:eC×L?):M (Bool):=
 (jn (bi x.b 3 (bQ mf x.1.1 x.c λz2=>(aG ((!decide ((z2.2.2.1:Int)=0)),x.2))) (bi x.b 4 (bQ mf x.1.1 x.c λz3=>(aG ((!decide ((z3.2.2.1:Int)=0)),x.2))) (aG (aa,x.2)))) λz=>(jn (bi z.b 5 (bi z.b 4 (aG (z.2.1,z.2.2,J,J)) (aG (z.2.1,z.2.2,J,(decide ((z.b:Int)=22))))) (bi z.b 4 (aG (z.2.1,z.2.2,z.1,J)) (aG (z.2.1,z.2.2,z.1,(decide ((z.b:Int)=22)))))) λx4=>(it (Int×j9×im×K?) _ (λA=>(bM A.1 2 (bX (dm 0 A.1&&fK A.1 2) (lt (geti ((.sl aL)) [x4.2.1.e,x4.2.1.k] A.1) λz6=>(jn (α:=Bool×j9×im×K?) (bM 0 (be z6) (bX (dm 0 A.1&&fK A.1 2) (bX (fe A.1 2) (lt (geti (.bool) [A.b,A.f] A.1) λz8=>(aG ((!z8),A.2))))) (aG (aa,A.2))) λx7=>(aH x7.1 (aG aa) (it (ν×j9×im×K?) _ (λD=>(bM D.1.2 (be z6) (bQ aL z6 D.1.2 λL=>(jn (j_ L D.1.1 (aG (J,D.2)) (bQ aL D.2.1.d D.a.1 λz12=>(aG ((dm z12 L),D.2)))) λN=>(aH N.1 (aG (bW aa)) (cQ ((L,(cN D.1.2)),N.2))))) (aG (rh ((cN A.1),D.2))))) ((0,0),x7.2)))))) (aG J))) (0,x4))))
def mB (x:eC×L?):M (Bool):=j7 @iter x
def fd (x:eC×L?):M (Bool):=j7 @gZ x
def mI (it:C5) (x:L?):M (Bool):=
 (bi x.a 3 (bQ aL x.1.2.1 x.b λz1=>(Z (decide ((x.c:Int)=z1)))) (bi x.a 23 (bQ aL x.1.a x.b λz2=>(Z (decide ((x.c:Int)=z2)))) (bi x.a 5 (jn (bi x.c 0 (aG J) (aG (decide ((x.c:Int)=1)))) λx3=>(Z x3)) (jn (bi x.a 4 (aG ((decide ((x.a:Int)=4)),x)) (aG ((decide ((x.a:Int)=22)),x))) λD=>(aH D.1 (Z J) (bi x.a 18 (it ((Int×Bool×Int)×b?) _ (λA=>(bM A.1.2.2 (be D.2.1.1.d) (jn (bQ il D.2.1.1.d A.1.2.2 λz7=>(jn (bi z7.1 3 (aG ((decide ((z7.2.1:Int)=A.b)),A.2)) (aG (aa,A.2))) λx8=>(aH x8.1 (aH A.1.2.1 (aG (((cN A.1.1),J),x8.2)) (aG (((cN A.1.1),(decide ((x8.c:Int)=A.1.2.2))),x8.2))) (aG ((A.1.1,A.1.2.1),x8.2))))) λx6=>(cQ ((x6.1.1,x6.1.2,(cN A.1.2.2)),x6.2))) (aA (jn (α:=Bool) (aH A.1.2.1 (aG J) (bi A.1.1 0 (aG (decide ((A.c:Int)=(-1)))) (aG aa))) λx9=>(Z x9)) λr=>Z (bW r)))) ((0,aa,0),D.2.2)) (bi x.a 19 (it Yd1 _ (λz=>(bM z.1.2 (be D.2.1.1.d) (jn (bQ il D.2.1.1.d z.1.2 λN=>(jn (bi N.1 3 (aG ((decide ((N.2.1:Int)=z.b)),z.2)) (aG (aa,z.2))) λL=>(aH L.1 (aG ((cN z.1.1),L.2)) (aG (z.1.1,L.2))))) λx11=>(cQ ((x11.1,(cN z.1.2)),x11.2))) (aG (decide ((z.c:Int)=z.1.1))))) ((0,0),D.2.2)) (Z (decide ((D.e:Int)=0))))))))))
def qe (x:L?):M (Bool):=mI @iter x
def gD (x:L?):M (Bool):=mI @gZ x
def nz (x:dX×Int):M (Bool):=
 (jn (bi x.1.1 3 (aG (decide ((x.1.2.1:Int)=x.2))) (aG aa)) λz=>(Z z))
def Ld (x:θ):M θ:=
 (aH (ay (ah x) 0) (Hz (Z ([]:θ)) (bX (bf (ah ([]:θ)+ah x) 1) (Z (([]:θ)++x)))) (bX (bf (ah ([]:θ)+ah x) 1) (Z (([]:θ)++x))))
def Re (x:θ):M θ:=chk (bf (ah x) 1) λ_=>Z x
def GP (x:θ):M θ:=
 (aH (ay (ah x) 0) (Hz (Z ([]:θ)) (bX (bf (ah ([]:θ)+ah x) 1) (Z (([]:θ)++x)))) (bX (bf (ah ([]:θ)+ah x) 1) (Z (([]:θ)++x))))
def Lc (x:θ):M θ:=chk (bf (ah x) 1) λ_=>Z x
def La (x:Y dX):M (Y dX):=
 (aH (ay (ah x) 0) (Hz (Z ([]:Y dX)) (bX (bf (ah ([]:Y dX)+ah x) 24) (Z (([]:Y dX)++x)))) (bX (bf (ah ([]:Y dX)+ah x) 24) (Z (([]:Y dX)++x))))
def Rd (x:Y dX):M (Y dX):=chk (bf (ah x) 24) λ_=>Z x
def GL (x:Y dX):M (Y dX):=
 (aH (ay (ah x) 0) (Hz (Z ([]:Y dX)) (bX (bf (ah ([]:Y dX)+ah x) 24) (Z (([]:Y dX)++x)))) (bX (bf (ah ([]:Y dX)+ah x) 24) (Z (([]:Y dX)++x))))
def K_ (x:Y dX):M (Y dX):=chk (bf (ah x) 24) λ_=>Z x
def GM (x:η):M η:=
 (aH (ay (ah x) 0) (Hz (Z ([]:η)) (bX (bf (ah ([]:η)+ah x) 8) (Z (([]:η)++x)))) (bX (bf (ah ([]:η)+ah x) 8) (Z (([]:η)++x))))
def Bd (x:η):M η:=chk (bf (ah x) 8) λ_=>Z x
def tB (it:C5) (x:v?):M Yd0:=
 (bX (dm 0 (be x.1)&&dm (be x.1) (be x.1)&&bf (aO (be x.1)) 32) (it (Int×qV×O?) _ (λz=>(bM z.1 (be x.1) (bQ dQ x.1 z.1 λA=>(aA (XK A.2) λN=>(ck (fe z.1 (ah z.d)) (cQ ((cN z.1),z.2.1,z.a,(cH z.d z.1 (A.1,N))))))) (aA (aA (Lc z.2.1.a) λL=>(aA (K_ z.2.1.d) λD=>(Z (z.2.1.2.1,z.d,L,D)))) λr=>Z (bW r)))) (0,x,0,(aF (aO (be x.1)) ((0,[]):k!)))))
def xl (x:v?):M Yd0:=tB @iter x
def lD (x:v?):M Yd0:=tB @gZ x
abbrev H?:=jR×(θ)×(Y dX)×Int
def rW (it:C5) (x:π×C!):M Yd0:=
 (it (ν×H?) _ (λz=>(bM z.1.2 (be x.d) (jn (jY il z.b z.1.2 λL=>(jn (aA (nz (L,x.1.2.1)) λN=>(aH N (bM z.1.1 0 (aG (J,z.2)) (aG ((decide ((z.1.2:Int)=x.1.2.2)),z.2))) (aG (aa,z.2)))) λA=>(aH A.1 (aG (z.1.2,A.2)) (aG (z.1.1,A.2))))) λD=>(cQ ((D.1,(cN z.1.2)),D.2))) (aA (jn (α:=C!) (j_ 0 z.1.1 (ck (fe z.1.1 (ah z.b)) (aG (z.2.1,z.a,(cH z.b z.1.1 (4,(geti il z.b z.1.1).2))))) (aG (z.2.1,z.a,z.b))) λx6=>(Z (z.1.1,x6))) λr=>Z (bW r)))) (((-1),0),x.2.1,x.a,x.d,x.1.1))
def vA (x:π×C!):M Yd0:=rW @iter x
def kE (x:π×C!):M Yd0:=rW @gZ x
def nP (it:C5) (x:ν×C!):M Yd0:=
 (it (ν×H?) _ (λz=>(bM z.1.2 (be x.d) (jn (α:=Int×H?) (jY il z.b z.1.2 λD=>(aA (nz (D,x.1.2)) λL=>(aH L (ck (fe z.1.2 (ah z.b)) (aG ((cN z.1.1),z.2.1,z.a,(cH z.b z.1.2 (4,(geti il z.b z.1.2).2)),z.f))) (aG (z.1.1,z.2))))) λA=>(cQ ((A.1,(cN z.1.2)),A.2))) (aG (z.1.1,z.2.1,z.a,z.b)))) ((0,0),x.2.1,x.a,x.d,x.1.1))
def rD (x:ν×C!):M Yd0:=nP @iter x
def gW (x:ν×C!):M Yd0:=nP @gZ x
def rO (x:Int):M (Bool):=
 (Z (!decide ((x:Int)=x)))
def xo (x:ν):M (Bool):=
 (jn (aA (rO x.1) λA=>(aH A (aA (rO x.2) λz=>(aH (!z) (aG J) (aG (fK x.1 x.2)))) (aG (fK x.1 x.2)))) λD=>(Z D))
def sX (x:Int):M (Int):=
 (j_ 4294967296 x U (j_ 65536 x U (j_ 256 x U (nh (bl .u8 x) ([0,1,2,2,3,3,3,3,4,4,4,4,4,4,4,4,5,5,5,5,5,5,5,5,5,5,5,5,5,5,5,5,6,6,6,6,6,6,6,6,6,6,6,6,6,6,6,6,6,6,6,6,6,6,6,6,6,6,6,6,6,6,6,6,7,7,7,7,7,7,7,7,7,7,7,7,7,7,7,7,7,7,7,7,7,7,7,7,7,7,7,7,7,7,7,7,7,7,7,7,7,7,7,7,7,7,7,7,7,7,7,7,7,7,7,7,7,7,7,7,7,7,7,7,7,7,7,7,8,8,8,8,8,8,8,8,8,8,8,8,8,8,8,8,8,8,8,8,8,8,8,8,8,8,8,8,8,8,8,8,8,8,8,8,8,8,8,8,8,8,8,8,8,8,8,8,8,8,8,8,8,8,8,8,8,8,8,8,8,8,8,8,8,8,8,8,8,8,8,8,8,8,8,8,8,8,8,8,8,8,8,8,8,8,8,8,8,8,8,8,8,8,8,8,8,8,8,8,8,8,8,8,8,8,8,8,8,8,8,8,8,8,8,8,8,8,8,8,8,8,8,8,8,8,8,8]) (Z (bl .i64 (0+(bl .i64 (ajq ([0,1,2,2,3,3,3,3,4,4,4,4,4,4,4,4,5,5,5,5,5,5,5,5,5,5,5,5,5,5,5,5,6,6,6,6,6,6,6,6,6,6,6,6,6,6,6,6,6,6,6,6,6,6,6,6,6,6,6,6,6,6,6,6,7,7,7,7,7,7,7,7,7,7,7,7,7,7,7,7,7,7,7,7,7,7,7,7,7,7,7,7,7,7,7,7,7,7,7,7,7,7,7,7,7,7,7,7,7,7,7,7,7,7,7,7,7,7,7,7,7,7,7,7,7,7,7,7,8,8,8,8,8,8,8,8,8,8,8,8,8,8,8,8,8,8,8,8,8,8,8,8,8,8,8,8,8,8,8,8,8,8,8,8,8,8,8,8,8,8,8,8,8,8,8,8,8,8,8,8,8,8,8,8,8,8,8,8,8,8,8,8,8,8,8,8,8,8,8,8,8,8,8,8,8,8,8,8,8,8,8,8,8,8,8,8,8,8,8,8,8,8,8,8,8,8,8,8,8,8,8,8,8,8,8,8,8,8,8,8,8,8,8,8,8,8,8,8,8,8,8,8,8,8,8,8]) (bl .u8 x))))))))))
def vK (x:Int):M (Int):=
 (aA (sX x) λz=>(Z z))
def kV (it:C5) (x:ν×η):M η:=
 (it k! _ (λD=>(bM D.1 x.1.2 (it k! _ (λz=>(jn (bM x.1.1 z.1 (jY aL z.2 z.1 λz4=>(jY aL z.2 (bl .i64 (z.1-1)) λz5=>(aA (xo (z4,z5)) λy6=>(aG (y6,z.2))))) (aG (aa,z.2))) λA=>(aH A.1 (jY aL A.2 (bl .i64 (z.1-1)) λL=>(jY aL A.2 z.1 λN=>(ck (fe z.1 (ah A.2)) (ck (fe (bl .i64 (z.1-1)) (ah (cH A.2 z.1 L))) (cQ ((bl .i64 (z.1-1)),(cH (cH A.2 z.1 L) (bl .i64 (z.1-1)) N))))))) (aG (rh ((cN D.1),A.2)))))) D) (aG D.2))) ((cN x.1.1),x.2))
def kU (x:ν×η):M η:=kV @iter x
def fU (x:ν×η):M η:=kV @gZ x
def po (it:C5) (x:π×η):M η:=
 (it ((Int×Int×Int×Bool×Bool)×η) _ (λz=>(j_ (bl .i64 (z.1.2.1-z.1.1)) 12 (aA (fU ((z.1.1,z.1.2.1),z.2)) λA=>(bX (ay (ah z.2) (ah A)&&J) (aG A))) (bi z.1.a 0 U (aH (!z.1.b) U U)))) ((x.1.1,x.1.2.1,x.1.2.2,J,J),x.2))
def ph (x:π×η):M η:=po @iter x
def jO (x:π×η):M η:=po @gZ x
def ya (x:η):M η:=
 (aA (vK (bl .u64 (be x))) λA=>(aA (jO ((0,(be x),A),x)) λz=>(bX (ay (ah x) (ah z)&&J) (Z z))))
def zI (it:C5) (x:η):M η:=
 (bM (be x) 2 (Z x) (it k! _ (λz=>(bM z.1 (be z.2) (jY aL z.2 z.1 λD=>(jY aL z.2 (bl .i64 (z.1-1)) λA=>(bi D A (bX (dm 0 z.1&&fK z.1 (ah z.2)) U) (cQ ((cN z.1),z.2))))) (aG z.2))) (1,x)))
def za (x:η):M η:=zI @iter x
def mF (x:η):M η:=zI @gZ x
def pV (x:ν):M (Bool×Int):=
 (Z ((decide ((x.1:Int)=x.2)),x.2))
def vW (it:C5) (x:n!):M J!:=
 (it J! _ (λz=>(bM z.1 (be x.1) (jY aL z.2.1 z.1 λD=>(aA (pV (D,z.2.2)) λA=>(aH A.1 (aG (z.1,z.2.1,A.2)) (cQ ((cN z.1),z.2.1,A.2))))) (aG ((-1),z.2)))) (0,x))
def vC (x:n!):M J!:=vW @iter x
def oG (x:n!):M J!:=vW @gZ x
def uq (it:C5) (x:n!):M k!:=
 (aA (oG x) λA=>(bX (ay (ah x.1) (ah A.2.1)&&J) (bi A.1 (-1) U (it (ν×t?) _ (λz=>(bM z.1.2 (be z.2.1) (jn (jY aL z.2.1 z.1.2 λL=>(aA (pV (L,z.2.2)) λD=>(aH (!D.1) (ck (fe z.1.1 (ah z.2.1)) (aG ((cN z.1.1),(cH z.2.1 z.1.1 L),D.2))) (aG (z.1.1,z.2.1,D.2))))) λN=>(cQ ((N.1,(cN z.1.2)),N.2))) (aA (ck (dm 0 z.1.1&&fK z.1.1 (ah z.2.1)) (bX (dm 0 z.1.1&&fK z.1.1 (ah (dB (aO z.1.1) z.2.1++aF (ah z.2.1-aO z.1.1) (0:Int)))) (Z (z.2.2,(dB (aO z.1.1) (dB (aO z.1.1) z.2.1++aF (ah z.2.1-aO z.1.1) (0:Int))))))) λr=>Z (bW r)))) ((A.1,(cN A.1)),A.2)))))
def uj (x:n!):M k!:=uq @iter x
def jH (x:n!):M k!:=uq @gZ x
def gX (x:S!):M (qV×o?):=
 (aA (jG (x.1,x.2.1,x.a,x.b,x.c)) λy1=>(aH (!y1) (Z ((([]:Y k!),0,([]:θ),([]:Y dX)),0,aa)) (aA (lD x.2.1) λA=>(jn (α:=W?) (bi x.b 1 (ck (fe x.a (ah A.d)) (aG (0,A.1,0,A.2.1,A.a,(cH A.d x.a (2,(geti il A.d x.a).2))))) (bi x.b 2 (ck (fe x.a (ah A.d)) (aG (0,A.1,0,A.2.1,A.a,(cH A.d x.a (5,(geti il A.d x.a).2))))) (jn (α:=Bool×eC×W?) (bi x.b 6 (aG ((decide ((x.b:Int)=6)),x.1,A.1,x.a,0,A.2)) (aG ((decide ((x.b:Int)=10)),x.1,A.1,x.a,0,A.2))) λN=>(aH N.1 (ck (fe x.c (ah N.e)) (aG (0,N.a,N.c,(cH N.e x.c (N.b,(geti dQ N.e x.c).2)),N.k))) (jn (bi x.b 7 (aG ((decide ((x.b:Int)=7)),N.2)) (aG ((decide ((x.b:Int)=11)),N.2))) λz=>(aH z.1 (ck (fe x.c (ah z.e)) (aG (0,z.a,z.c,(cH z.e x.c ((-1),(geti dQ z.e x.c).2)),z.k))) (bi x.b 8 (jY dQ z.e x.c λz6=>U) (bi x.b 9 (jY dQ z.e x.c λz7=>U) (bi x.b 12 (aG (0,z.d)) (bi x.b 13 (aG (0,(-1),z.f)) (bi x.b 14 (ck (fe z.b (ah z.p)) (aG (0,z.a,z.c,z.e,z.g,(cH z.p z.b ((geti il z.p z.b).1,((geti il z.p z.b).2).1,J))))) (bi x.b 15 (ck (fe z.b (ah z.p)) (aG (0,z.a,z.c,z.e,z.g,(cH z.p z.b ((geti il z.p z.b).1,((geti il z.p z.b).2).1,aa))))) (bi x.b 16 (bQ itK z.2.1.a x.c λz8=>(ck (fe z8.2 (ah z.e)) (ck (fe z.b (ah z.p)) (ck (fe z.b (ah (cH z.p z.b (3,(geti il z.p z.b).2)))) (aG (0,z.a,z.c,(cH z.e z8.2 ((-1),(geti dQ z.e z8.2).2)),z.g,(cH (cH z.p z.b (3,(geti il z.p z.b).2)) z.b ((geti il (cH z.p z.b (3,(geti il z.p z.b).2)) z.b).1,x.c,((geti il (cH z.p z.b (3,(geti il z.p z.b).2)) z.b).2).2)))))))) (bi x.b 17 (bQ itK z.2.1.a x.c λz9=>(ck (fe z9.2 (ah z.e)) (ck (fe z.b (ah z.p)) (ck (fe z.b (ah (cH z.p z.b (2,(geti il z.p z.b).2)))) (aG (0,z.a,z.c,(cH z.e z9.2 (z.b,(geti dQ z.e z9.2).2)),z.g,(cH (cH z.p z.b (2,(geti il z.p z.b).2)) z.b ((geti il (cH z.p z.b (2,(geti il z.p z.b).2)) z.b).1,0,((geti il (cH z.p z.b (2,(geti il z.p z.b).2)) z.b).2).2)))))))) (bi x.b 18 (aA (kE ((z.a,x.f),z.h)) λL=>(bX (ay (ah z.p) (ah L.d)&&(ay (ah z.g) (ah L.a)&&(ay (ah z.e) (ah L.2.1)&&J))) (aG (L.1,z.a,z.c,L.2)))) (bi x.b 19 (aA (gW ((z.a,x.c),z.h)) λD=>(bX (ay (ah z.p) (ah D.d)&&(ay (ah z.g) (ah D.a)&&(ay (ah z.e) (ah D.2.1)&&J))) (aG (D.1,z.a,z.c,D.2)))) (bi x.b 20 (ck (fe x.c (ah z.p)) (aG (0,z.a,z.c,z.e,z.g,(cH z.p x.c (1,(geti il z.p x.c).2))))) (bi x.b 22 (ck (fe x.c (ah z.g)) (aG (0,z.a,z.c,z.e,(cH z.g x.c J),z.p))) (aG (0,z.a,z.f)))))))))))))))))))) λx3=>(Z ((x3.b,x3.2.1,x3.f),x3.1,J))))))
def oF (x:v?):M (Yd2×(π)×f?):=
 (bX (dm 0 (be x.1)&&dm (be x.1) (be x.1)&&bf (aO (be x.1)) 32&&decide (((be x.1):Int)=3)) (jn (α:=qV×Int×(π)×f?) (bM 0 (be x.1) (bQ dQ x.1 0 λz=>(aA (uP z.2) λL=>(bM 1 (be x.1) (bQ dQ x.1 1 λD=>(aA (uP D.2) λy5=>(bM 2 (be x.1) (bQ dQ x.1 2 λz6=>(aA (uP z6.2) λy7=>(bM 3 (be x.1) (bQ dQ x.1 3 λz8=>(aA (uP z8.2) λy9=>U)) (aG (x,0,(z.1,D.1,z6.1),L,y5,y7))))) (aG (x,0,(z.1,D.1,0),L,y5,([]:η)))))) (aG (x,0,(z.1,0,0),L,([]:η),([]:η)))))) (aG (x,0,(0,0,0),([]:η),([]:η),([]:η)))) λA=>(aA (Re A.1.a) λy10=>(aA (Rd A.1.d) λN=>(Z ((A.1.2.1,y10,N),A.2.2))))))
def l9 (x:S!):M (qV×o?):=
 (aA (jG (x.1,x.2.1,x.a,x.b,x.c)) λy1=>(aH (!y1) (Z ((([]:Y k!),0,([]:θ),([]:Y dX)),0,aa)) (aA (oF x.2.1) λD=>(jn (α:=Int×Yd2×Int×((Int×η)×(Int×η)×Int)×Bool×η) (bi x.b 1 (nh x.a D.1.2.2 U) (bi x.b 2 (nh x.a D.1.2.2 U) (jn (α:=Bool×eC×Yd2×Int×Int×(π)×f?) (bi x.b 6 (aG ((decide ((x.b:Int)=6)),x.1,D.1,x.a,0,D.2)) (aG ((decide ((x.b:Int)=10)),x.1,D.1,x.a,0,D.2))) λA=>(aH A.1 U (jn (bi x.b 7 (aG ((decide ((x.b:Int)=7)),A.2.1,A.a,A.b,A.c,(A.e.1,A.g,A.e.2.1,A.j,A.e.2.2),A.s)) (aG ((decide ((x.b:Int)=11)),A.2.1,A.a,A.b,A.c,(A.e.1,A.g,A.e.2.1,A.j,A.e.2.2),A.s))) λz=>(aH z.1 U (bi x.b 8 (bi x.c 0 U (bi x.c 1 U (bi x.c 2 (bX (bf (ah z.k+ah ([z.b])) 8) (aA (ya (z.k++([z.b]))) λN=>(bX (ay (ah (z.k++([z.b]))) (ah N)&&J) (aA (mF N) λy7=>(bX (ay (ah N) (ah y7)&&J) (aG (0,z.a,z.c,((z.e.1,z.e.2.1),(z.e.a,z.e.b),z.e.f),J,y7))))))) U))) (bi x.b 9 (bi x.c 0 U (bi x.c 1 U (bi x.c 2 (aA (jH (z.k,z.b)) λy8=>(bX (ay (ah z.k) (ah z.k)&&J) (aG (0,z.a,z.c,((z.e.1,z.e.2.1),(z.e.a,z.e.b),z.e.f),aa,y8.2)))) U))) (bi x.b 12 (aG (0,(z.b,z.a.2),z.c,((z.e.1,z.e.2.1),(z.e.a,z.e.b),z.e.f),J,z.k)) (bi x.b 13 (aG (0,((-1),z.a.2),z.c,((z.e.1,z.e.2.1),(z.e.a,z.e.b),z.e.f),J,z.k)) (bi x.b 14 (nh z.b z.a.2.2 U) (bi x.b 15 (nh z.b z.a.2.2 U) (bi x.b 16 U (bi x.b 17 U (bi x.b 18 U (bi x.b 19 U (bi x.b 20 (nh x.c z.a.2.2 U) (bi x.b 22 (nh x.c z.a.2.1 U) (aG (0,z.a,z.c,((z.e.1,z.e.2.1),(z.e.a,z.e.b),z.e.f),J,z.k)))))))))))))))))))) λL=>(Z (([L.b.1,L.b.2.1,(L.b.2.2,L.h)],L.2.1),L.1,J))))))
def td (x:S!):M (qV×o?):=orE (gX x) (l9 x)
def kq (x:eC×L?):M (j9×Bool):=
 (jn (α:=Bool×G?) (aA (lW (x.1,x.2.1)) λy2=>(aH (!y2) (aG (J,x.1,x.2.1,x.2.2,0)) (bM x.a 0 (aG (J,x.1,x.2.1,x.2.2,0)) (j_ (be x.1.c) x.a (aG (J,x.1,x.2.1,x.2.2,0)) (bM x.b 1 (aG (J,x.1,x.2.1,x.2.2,0)) (aG ((fK 23 x.b),x.1,x.2.1,x.2.2,0))))))) λD=>(aH D.1 (Z (((([]:Y k!),0,([]:θ),([]:Y dX)),([]:η),([]:η),([]:η)),aa)) (jn (aA (jG (D.2.1,D.a.1,D.b.1,D.b.2.1,D.b.a)) λy4=>(aH (!y4) (aG (J,D.2)) (aA (kx (D.2.1,D.b)) λy5=>(aH (!y5) (aG (J,D.2)) (aA (fd (D.2.1,D.a,D.b)) λy6=>(aH (!y6) (aG (J,D.2)) (aA (gD (D.a,D.b)) λy7=>(aG ((!y7),D.2))))))))) λx3=>(aH x3.1 (Z (((([]:Y k!),0,([]:θ),([]:Y dX)),([]:η),([]:η),([]:η)),aa)) (jn (α:=Int×G?) (bi x3.b.2.1 18 (aG (x3.b.b,x3.2)) (aG ((-1),x3.2))) λz=>(aA (td (z.2.1,z.a.1,z.b.1,z.b.2.1,z.b.a,z.1)) λy9=>(aH (!y9.2.2) (Z (((([]:Y k!),0,([]:θ),([]:Y dX)),([]:η),([]:η),([]:η)),aa)) (aA (Bd z.a.2.1) λN=>(aA (Bd z.a.a) λL=>(aA (uP z.a.d) λy12=>(jn (bi z.b.2.1 4 (ck (fe z.b.a (ah N)) (aG (z.b,z.f,y9.1,(cH N z.b.a z.b.b),L,y12))) (bi z.b.2.1 22 (ck (fe z.b.a (ah L)) (aG (z.b,z.f,y9.1,N,(cH L z.b.a z.b.b),y12))) (aG (z.b,z.f,y9.1,N,L,y12)))) λA=>(jY aL A.h A.1.1 λz14=>(ck (fe A.1.1 (ah A.h)) (Z ((A.a,A.b,A.c,(cH A.h A.1.1 (cN z14))),J)))))))))))))))
def kO (it:C5) (x:Yd1×Y θ):M (Bool×Y θ):=
 (it ((ν×Int)×Y θ) _ (λA=>(bM A.1.2 2 (bX (dm 0 A.1.2&&fK A.1.2 2) (lt (geti ((.sl aL)) [x.1.g,x.1.p] A.1.2) λN=>(it ((ν×Int)×Y θ) _ (λz=>(bM z.1.2 (be N) (bQ aL N z.1.2 λL=>(jn (bM L 0 (aG (((z.1.1.1,aQ (aO z.1.1.2)),J),z.2)) (j_ (aQ (aO z.1.1.2)) L (aG (((z.1.1.1,aQ (aO z.1.1.2)),J),z.2)) (bX (fe L (aO z.1.1.2)) (nh z.1.1.1 z.2 (bQ (.bool) (qY (T:=.bool) z.2 z.1.1.1) L λz6=>(aG (((z.1.1.1,aQ (aO z.1.1.2)),(!z6)),z.2))))))) λD=>(aH D.1.2 (aG (bW (aa,D.2))) (cQ (((D.1.1.1,aQ (aO D.1.1.2)),(cN z.1.2)),D.2))))) (aG (rh (((z.1.1.1,aQ (aO z.1.1.2)),(cN A.1.2)),z.2))))) (((A.1.1.1,aQ (aO A.1.1.2)),0),A.2)))) (aG (J,A.2)))) (((x.1.1.1,aQ (aO x.1.1.2)),0),x.2))
def nG (x:Yd1×Y θ):M (Bool×Y θ):=kO @iter x
def eu (x:Yd1×Y θ):M (Bool×Y θ):=kO @gZ x
def nM (it:C5) (x:u!):M ν:=
 (bM 400 (be x.2) (Z (0,2)) (aA (gf x.1) λy1=>(aH (!y1) (Z (0,1)) (aA (eS x.1) λy2=>(bX (dm 0 (be x.1.c)&&dm (be x.1.c) (be x.1.c)&&bf (aO (be x.1.c)) 24) (it (Int×(eC×Y im)×j9×(η)×Y θ) _ (λA=>(bM A.1 (be x.2) (bQ iC x.2 A.1 λD=>(aA (kq (A.2.1.1,A.a,D)) λN=>(jn (aH (!N.2) (aG (J,A.2.1,A.a,A.b,D,N.1,A.f)) (ck (fe D.1 (ah A.b)) (aA (eu (((D.1,aQ (aO (sw A.b D.1))),D),A.f)) λy7=>(aG ((!y7.1),A.2.1,A.a,A.b,D,N.1,y7.2))))) λz=>(aH z.1 (aG (A.1,12)) (jn (α:=(eC×Y im)×j9×(η)×j9×Y θ) (ck (fe z.c.1 (ah z.b)) (bi z.c.2.1 3 (nh z.c.1 z.k (bX (ay (aO (sw z.b z.c.1)) (ah (qY (T:=.bool) z.k z.c.1))&&bf ((aO (sw z.b z.c.1))+ah ([J]:θ)) 1) (ck (fe z.c.1 (ah z.b)) (aG (z.2.1,z.a,(pR z.b (aO z.c.1) (aQ (ah ((qY (T:=.bool) z.k z.c.1)++([J]))))),z.e,(vu (T:=.bool) (vu (T:=.bool) z.k z.c.1 []) z.c.1 ((qY (T:=.bool) z.k z.c.1)++([J])))))))) (nh z.c.1 z.k (bX (ay (aO (sw z.b z.c.1)) (ah (qY (T:=.bool) z.k z.c.1))&&bf ((aO (sw z.b z.c.1))+ah ([(decide ((z.c.2.1:Int)=23))]:θ)) 1) (ck (fe z.c.1 (ah z.b)) (aG (z.2.1,z.a,(pR z.b (aO z.c.1) (aQ (ah ((qY (T:=.bool) z.k z.c.1)++([(decide ((z.c.2.1:Int)=23))]))))),z.e,(vu (T:=.bool) (vu (T:=.bool) z.k z.c.1 []) z.c.1 ((qY (T:=.bool) z.k z.c.1)++([(decide ((z.c.2.1:Int)=23))])))))))))) λL=>(cQ ((cN A.1),L.1,L.b,L.a,L.f))))))) (aG (0,0)))) (0,x,y2,(aF (aO (be x.1.c)) (0:Int)),(aF (aO (be x.1.c)) ([]:θ)))))))))
def rB (x:u!):M ν:=nM @iter x
def gh (x:u!):M ν:=nM @gZ x
def QH (a b:Int):fg (a,b)=Z (decide (0<=a/\a<b)):=by
 refine cz ?_;unfold fg j_ aG;with_reducible repeat' first|apply OS.ok;constructor|refine IM.mk λ_=>?_
 .by_cases h:a<b<;>simp[*,fK]
 .simp;omega
def W1 (l:η) (t:Int) (L:l! l<=1000):lE (l,t)=Z (l.contains t):=by
 refine cz ?_;unfold lE sZ zH bi bM bQ be cQ aG cN;refine ax (P:=λy:Int=>0<=y↔t∈l) ?_ λy D=>aj ?_
 .refine iy (l! l) (by omega) (λi x=>x=(i:Int)/\∀j,j<i->¬l.getD j 0=t) ?_ ?_ ⟨rfl,λj z=>by omega⟩
  .rintro i x hi ⟨rfl,A⟩;refine du ?_;refine cu (aS (aI (λh=>aj ?_) λh=>aj ?_))
   .refine ⟨λ_=>?_,λ_=>by omega⟩;have h:t=geti aL l (i:Int):=h;rw[h];exact bP (T:=aL) (xs:=l) (by omega) (by omega)
   .refine ⟨gQ,λj z=>?_⟩;have h:¬t=l.getD i 0:=h;by_cases e:j=i
    .subst e;exact λg=>h g.symm
    .exact A j (by omega)
  .rintro x ⟨rfl,A⟩;refine dg (aj ?_);refine ⟨λg=>(by omega),λg=>?_⟩;let⟨j,z,e⟩:=List.getElem_of_mem g;exact (A j z (by rw[aw,aE z];exact e)).elim
 .by_cases h:t∈l
  .have:=D.2 h;simp[dm,h,this]
  .have:¬0<=y:=λg=>h (D.1 g)
   simp[dm,h,this]
def aod (w:WT) (s:SY) (D:l! w.2.2.1<=1000) (A:∀c∈w.2.2.1,0<=c.2/\c.2<l! w.2.1) (L:l! s.1=l! w.2.1) (e2:l! s.2.2.1=l! w.2.2.2.1) (z:l! s.2.2.2=l! w.2.2.2.2.1):lq (w,s)=Z J:=by
 refine cz ?_;unfold lq uT aW bm bF dE bM iE bQ be cQ aG cN;refine aU (λx=>x=(aa,w)) ?_ ?_
 .refine ch (λh=>(h (by dsimp only[ak];omega)).elim) λ_=>ch (λh=>(h (by dsimp only[ak];omega)).elim) λ_=>aj ?_
  dsimp only[ak];rw[z];simp
 rintro x rfl;refine iT (iy (l! w.2.2.1) (by omega) (λi x=>x=((i:Int),w)) ?_ ?_ rfl)
 .rintro i x hi rfl;refine du ?_;refine cu (aS (aT (QH _ _) (ch (λh=>(h ?_).elim) λ_=>aj ?_)))
  .exact A _ (bP (T:=itK) (xs:=w.2.2.1) (j:=(i:Int)) (by omega) (by omega))
  .dsimp only;rw[gQ]
 .rintro x rfl;exact dg (aj rfl)
def ai4 (w:WT) (k o:Int) (h:NM w k o):mW (w,k,o)=Z J:=by
 refine cz ?_;let⟨k1,k2,L,lk,cn,th,D,no,z,rw_⟩:=h;unfold mW aW bm bF cG bi bQ be aG;cases kdI k
 case no A _=>omega
 all_goals simp only[cX,dK,NP,QH]
 all_goals with_reducible repeat' first|apply OS.ok;constructor|refine IM.mk λ_=>?_
 all_goals try simp only[ak,sC] at*
 all_goals first|omega|exact rw_ ⟨by decide,by decide⟩|(simp only[*,mm,decide_true];done)
def aow (w:WT) (s:SY) (hs:SB i s) (hn:i<=1000) (t k o:Int) (he:EN w s t k o) (hr:Xa w s t k o):pI (w,s,t,k,o)=Z J:=by
 refine cz ?_;let⟨nm,N,t1,cd,e1,e2,e3⟩:=id he;let⟨_,_,ce,lk,cn,th,fu,no,mu,rw_⟩:=nm;let⟨_,_,_,D,wr,ra,rl,rr,xb,xe,ab,ae,nt,sp,jo,se,ge⟩:=hr;have hm:16<=k/\k<=19->0<=(geti itK w.2.2.1 o).2/\(geti itK w.2.2.1 o).2<l! w.2.1:=λh=>cd _ (bP (cn h).1 (cn h).2)
 have hH:6<=k/\k<=11->lE ((geti dQ s.1 o).2,t)=Z ((geti dQ s.1 o).2.contains t):=λh=>W1 _ _ (by
  have:=hs.rd _ (bP (T:=dQ) (lk h).1 (by have:=(lk h).2;omega));omega)
 have lk1:6<=k/\k<=11->0<=o/\o<(l! s.1:Int):=λh=>by have:=lk h;omega
 have L:t<(l! s.2.2.2:Int):=by omega
 have fu1:k=22\/k=23->0<=o/\o<(l! s.2.2.1:Int):=λh=>by have:=fu h;omega
 have th1:k=20\/k=21->0<=o/\o<(l! s.2.2.2:Int):=λh=>by have:=th h;omega
 have z:∀{p:Prop} [Decidable p],p->decide p=J:=λh=>aR h
 unfold pI aW bm bF dE dk bi iE bQ be aG;refine aI (λh=>?_) λn6=>?_
 .have h:k=6:=h;exact aM (lk1 (by omega)).1 (lk1 (by omega)).2 (aS (aj (z (D (.inl h)))))
 refine aI (λh=>?_) λn10=>?_
 .have h:k=10:=h;refine gV (aM (lk1 (by omega)).1 (lk1 (by omega)).2 (aS (aI (λ_=>?_) λg=>(g (D (.inr (.inr h)))).elim)));refine aM (lk1 (by omega)).1 (lk1 (by omega)).2 (aS (aj (aj (z ?_))));have:=wr h;dsimp only[ak]at this ⊢;omega
 refine aI (λh=>?_) λn8=>?_
 .have h:k=8:=h;refine gV (aM (lk1 (by omega)).1 (lk1 (by omega)).2 (aS (aI (λ_=>?_) λg=>(g (D (.inr (.inl h)))).elim)));refine aM (lk1 (by omega)).1 (lk1 (by omega)).2 (aS (aT (hH (by omega)) (aj (aj ?_))));rw[ra h];rfl
 refine aU (λx=>x.2=(w,s)/\(x.1=J↔k=7\/k=11)) (aI (λh=>aj ⟨rfl,λ_=>.inl h,λ_=>z h⟩) λh=>aj ⟨rfl,λA=>.inr (bx A),λA=>z (A.resolve_left h)⟩) ?_;rintro⟨b,x⟩ ⟨e,hb⟩;dsimp only at e hb;subst e;refine aN (λh=>?_) λ_=>?_
 .have h:=hb.1 h;exact aM (lk1 (by omega)).1 (lk1 (by omega)).2 (aS (aj (z (rl h))))
 refine aI (λh=>?_) λn9=>?_
 .have h:k=9:=h;refine aM (lk1 (by omega)).1 (lk1 (by omega)).2 (aS (aT (hH (by omega)) (aj (rr h))))
 refine aI (λh=>aj (z (xb h))) λ_=>aI (λh=>aj (z (xe h))) λ_=>?_
 refine aI (λh=>aM N L (aS (aj (by have:=ab h;dsimp only at this ⊢;rw[this];rfl)))) λ_=>aI (λh=>aM N L (aS (aj (ae h)))) λ_=>?_
 refine aU (λx=>x.2=(w,s)/\(x.1=J->k=16\/k=18\/k=19)) (aI (λh=>aj ⟨rfl,λ_=>.inl h⟩) λ_=>aI (λh=>aj ⟨rfl,λ_=>.inr (.inl h)⟩) λ_=>aj ⟨rfl,λh=>.inr (.inr (bx h))⟩) ?_;rintro⟨c,x⟩ ⟨e,hc⟩;dsimp only at e hc;subst e;refine aN (λh=>?_) λ_=>?_
 .have h:=hc h;have hq:=hm (by omega);exact aM (cn (by omega)).1 (cn (by omega)).2 (aS (aM hq.1 (by rw[e1];exact hq.2) (aS (aj (z (nt h))))))
 refine aI (λh=>?_) λ_=>?_
 .have h:k=20:=h;exact gV (ch (λ_=>aM (th1 (.inl h)).1 (th1 (.inl h)).2 (aS (aj (aj (z (sp h).2))))) λg=>((sp h).1 g).elim)
 refine aI (λh=>?_) λ_=>?_
 .have h:k=21:=h;exact gV (ch (λ_=>aM (th1 (.inr h)).1 (th1 (.inr h)).2 (aS (aj (aj (z (jo h).2))))) λg=>((jo h).1 g).elim)
 refine aI (λh=>aM (fu1 (.inl h)).1 (fu1 (.inl h)).2 (aS (aj (by have:=se h;dsimp only at this ⊢;rw[this];rfl)))) λ_=>aI (λh=>aM (fu1 (.inr h)).1 (fu1 (.inr h)).2 (aS (aj (ge h)))) λ_=>aj rfl
def Gf (w:WT) (s:SY) (hs:SB i s) (hn:i<=1000) (hw:l! w.2.2.1<=1000) (t k o:Int) (he:EN w s t k o) (z:Xa w s t k o):jG (w,s,t,k,o)=Z J:=by
 refine cz ?_;let⟨nm,D,t1,cd,N,e2,e3⟩:=id he;have hrd:=aow w s hs hn t k o he z;have t2:t<(l! s.2.2.2:Int):=by omega
 unfold jG aW bm bF cg dE dk bi bQ be aG;refine aU (λx=>x=(aa,w,s)) ?_ ?_
 .refine aT (aod w s hw cd N e2 e3) (gB rfl (aT (QH _ _) ?_));refine ch (λh=>(h ⟨D,t1⟩).elim) λ_=>aT (ai4 w k o nm) (aj rfl)
 rintro x rfl;refine iT (aM D t2 (aS ?_));refine aI (λh=>aj (aR (z.b h))) λn1=>?_
 refine aI (λh=>?_) λA=>?_
 .have h:k=17:=h;let⟨a1,a2,a3⟩:=z.wk h;let⟨c0,c1⟩:=nm.cd (by omega);have L:=cd _ (bP (T:=itK) (xs:=w.2.2.1) (j:=o) c0 c1);refine gV (aI (λ_=>aI (λ_=>?_) λg=>(g a2).elim) λg=>(g a1).elim);exact aM c0 c1 (aS (aM L.1 (by rw[N];exact L.2) (aS (aj (aj (aR a3))))))
 refine gV (aI (λ_=>aT hrd (aj (aj rfl))) λg=>(g (z.r n1 A)).elim)
def ak0 (w:WT) (e:ET) (h1:e.2.1=1\/e.2.1=2->e.2.2.2.2.1= -1) (z:¬(e.2.1=1\/e.2.1=2)->0<=e.2.2.2.2.1/\e.2.2.2.2.1<l! w.2.2.2.2.2/\(geti pO w.2.2.2.2.2 e.2.2.2.2.1).1=e.1):kx (w,e)=Z J:=by
 refine cz ?_;unfold kx aW ep dk bi bM j_ bQ be aG;refine aU (λx=>x.2=(w,e)/\(x.1=J↔e.2.1=1\/e.2.1=2)) (aI (λh=>aj ⟨rfl,λ_=>.inl h,λ_=>rfl⟩) λh=>aj ⟨rfl,λz=>.inr (bx z),λz=>aR (z.resolve_left h)⟩) ?_;rintro⟨b,x⟩ ⟨D,A⟩;dsimp only at D A;subst D;refine aN (λh=>aj (aR (h1 (A.1 h)))) λh=>?_
 let⟨a1,N,L⟩:=z λg=>by rw[A.2 g]at h;cases h
 exact gV (fc (λ_=>du (aM a1 N (aS (aj (aj (aR L)))))) λg=>(by dsimp only at g;omega))
def ai2 (h:JS z) (i:Nat) (hi:i<l! z):∀l∈z.drop (i+1),z.getD i 0<l:=by
 induction z generalizing i with
 |nil=>cases hi
 |cons a z A=>
  cases i with
  |zero=>exact λl D=>h.1 l (by simpa using D)
  |succ i=>exact A h.2 i (by simpa using hi)
def Vj (w:WT) (s:SN) (e:ET) (ce:e.2.1=3\/e.2.1=4->0<=e.2.2.1/\e.2.2.1<l! w.1) (de:0<l! e.2.2.2.2.2.1->e.2.1=5\/(e.2.1=3\/e.2.1=4)/\¬(geti mf w.1 e.2.2.1).2.2.1=0) (fr:0<l! e.2.2.2.2.2.2->e.2.1=4\/e.2.1=22) (t0:0<=e.1) (t1:e.1<l! s.2.2.2) (nd:AN (geti aL s.2.2.2 e.1) e.2.2.2.2.2.1) (nf:AN (geti aL s.2.2.2 e.1) e.2.2.2.2.2.2) (ld:l! e.2.2.2.2.2.1<=1000000) (lf:l! e.2.2.2.2.2.2<=1000000):fd (w,s,e)=Z J:=by
 refine cz ?_;unfold fd j7 aW bm bF cG cg dE ip bi bM j_ bX bQ be cQ aG cN;refine aU (λx=>x.2=(s,e)/\((e.2.1=3\/e.2.1=4)/\¬(geti mf w.1 e.2.2.1).2.2.1=0->x.1=J)) ?_ ?_
 .refine aI (λh=>?_) λn3=>aI (λh=>?_) λn4=>?_
  .exact aM (ce (.inl h)).1 (ce (.inl h)).2 (aS (aj ⟨rfl,λg=>by simpa using g.2⟩))
  .exact aM (ce (.inr h)).1 (ce (.inr h)).2 (aS (aj ⟨rfl,λg=>by simpa using g.2⟩))
  .exact aj ⟨rfl,λg=>(g.1.elim n3 n4).elim⟩
 rintro⟨b,x⟩ ⟨e1,hb⟩;dsimp only at e1 hb;subst e1;refine aU (λx=>x.1=s/\x.2.1=e/\(0<l! e.2.2.2.2.2.1->x.2.2.1=J)/\(0<l! e.2.2.2.2.2.2->x.2.2.2=J)) ?_ ?_
 .refine aI (λh5=>aI (λD=>aj ⟨rfl,rfl,λ_=>rfl,λ_=>rfl⟩) λD=>aj ⟨rfl,rfl,λ_=>rfl,λg=>?_⟩) λh5=>aI (λD=>aj ⟨rfl,rfl,λg=>?_,λ_=>rfl⟩) λD=>aj ⟨rfl,rfl,λg=>?_,λg=>?_⟩
  .exact aR ((fr g).resolve_left D)
  .exact hb ((de g).resolve_left h5)
  .exact hb ((de g).resolve_left h5)
  .exact aR ((fr g).resolve_left D)
 rintro⟨s',e',a,b'⟩ ⟨e1,e2,h1,h2⟩;dsimp only at e1 e2 h1 h2;subst e1 e2;have key:∀(r:η),l! r<=1000000->AN (geti aL s'.2.2.2 e'.1) r->∀j:Nat,j<l! r->∀z∈r.drop (j+1),geti aL r (j:Int)<z:=λr _ h j A z hz=>ai2 h.a j A z hz
 refine iy 2 (by omega) (λi x=>x=((i:Int),s',e',a,b')) ?_ ?_ rfl
 .rintro i x hi rfl;refine du ?_;refine cY (a? (Cg (by dsimp only;omega) (aS ?_)));have hr:∃r:η,geti (.sl (.int .i64)) [e'.2.2.2.2.2.1,e'.2.2.2.2.2.2] (i:Int)=r/\AN (geti aL s'.2.2.2 e'.1) r/\l! r<=1000000/\(0<l! r->geti (.bool) [a,b'] (i:Int)=J):=by
   match i,hi with
   |0,_=>exact⟨_,rfl,nd,ld,h1⟩
   |1,_=>exact⟨_,rfl,nf,lf,h2⟩
  let⟨r,er,hA,hl,hb'⟩:=hr;have er':geti (.sl aL) [e'.2.2.2.2.2.1,e'.2.2.2.2.2.2] (i:Int)=r:=er;dsimp only at er' ⊢;rw[er'];refine aU (λx=>x=(aa,s',e',a,b')) ?_ ?_
  .refine bL (λg=>?_) λ_=>aj rfl
   have g':0<l! r:=by dsimp only[ak]at g;omega
   refine cY (a? (Cg (by omega) (cu (aS (aj ?_)))));rw[hb' g'];rfl
  rintro x rfl;refine iT ?_;refine iy (l! r) (by omega) (λj x=>x.1.2=(j:Int)/\x.2=(s',e',a,b')/\∀z∈r.drop j,x.1.1<z) ?_ ?_ ⟨rfl,rfl,λz hz=>?_⟩
  .rintro j ⟨⟨la,ix⟩,x⟩ A ⟨N,L,g3⟩;dsimp only at N L g3;subst N L;have m:geti aL r (j:Int)∈r:=bP (T:=aL) (xs:=r) (by omega) (by omega);have m2:geti aL r (j:Int)∈r.drop j:=by
    have:geti aL r (j:Int)=r[j]:=by
     show r.getD j 0=_;rw[aw,aE A];rfl
    rw[this,O_ A];exact cP
   refine du ?_;refine cu (aS (aU (λx=>x=(aa,s',e',a,b')) ?_ ?_))
   .refine fc (λg=>?_) λ_=>aM t0 t1 (aS (aj ?_))
    .have q1:=g3 _ m2;exact b8 q1 (by dsimp only at g;exact λq=>b8 (Int.lt_of_lt_of_le q g) (Int.lt_irrefl _))
    .have:=(hA.m _ m).2;rw[mX.2 (show geti aL r (j:Int)<geti aL s'.2.2.2 e'.1 from this)]
   rintro x rfl;exact iT (aj ⟨gQ,rfl,key r hl hA j A⟩)
  .rintro⟨⟨la,ix⟩,x⟩ ⟨N,L,_⟩;dsimp only at N L;subst N L;exact dg (aj (eW (·,s',e',a,b') gQ))
  .have:=(hA.m z (by simpa using hz)).1;dsimp only;omega
 .rintro x rfl;exact dg (aj rfl)
def at6 (w:WT) (s:SN) (z:l! w.2.2.1<=1000) (t k o:Int) (he:EN w s.1 t k o) (hf:F16 w s):lW (w,s)=Z J:=by
 let⟨_,_,_,L,D,e2,A⟩:=he;let⟨f1,f2,N⟩:=hf;refine cz ?_;unfold lW aW bm bF dE bi be aG;refine gV (aT (aod w s.1 z L D e2 A) (ZN (aI (λ_=>aI (λ_=>aj (aj (aR ?_))) λg=>(g ?_).elim) λg=>(g ?_).elim)));all_goals dsimp only[ak];omega
def JZ (th:Y e?) (c:Int) (i:Nat):wl th c (i+1)=if NJ c (geti il th (i:Int)) then wl th c i++[(i:Int)] else wl th c i:=rfl
def ajh (w:WT) (s:SN) (hs:SB i s.1) (e:ET) (hf:F16 w s) (he:EN w s.1 e.1 e.2.1 e.2.2.1) (va:VA w s.1 s.2.1 s.2.2.1 e.1 e.2.1 e.2.2.1 e.2.2.2.1):gD (s,e)=Z J:=by
 refine cz ?_;let⟨t,k,o,v,si,de,fr⟩:=e;let⟨z,s2,s3,s4⟩:=s;let⟨nm,t0,t1,cd,e1,e2,e3⟩:=he;let⟨_,_,ce,lk,cn,th,fu,_,_,_⟩:=nm;let⟨f1,f2,f3⟩:=hf;have hth:=hs.th;let⟨v3,v23,v5,vel⟩:=va;dsimp only at*
 unfold gD mI aW bm bF cG cg bi bM bQ be cQ aG cN;refine aI (λh=>?_) λn3=>?_
 .have h:k=3:=h;let⟨c0,c1⟩:=ce (.inl h);exact aM c0 (by rw[f1];exact c1) (aS (aj (aR (v3 h))))
 refine aI (λh=>?_) λn23=>?_
 .have h:k=23:=h;let⟨c0,c1⟩:=fu (.inr h);exact aM c0 (by rw[f2];exact c1) (aS (aj (aR (v23 h))))
 refine aI (λh=>?_) λn5=>?_
 .have h:k=5:=h;exact gV (aI (λ_=>aj (aj rfl)) λg=>aj (aj (aR ((v5 h).resolve_left g))))
 refine aU (λx=>x.2=((z,s2,s3,s4),t,k,o,v,si,de,fr)/\(x.1=aa->¬k=4/\¬k=22)) (aI (λh=>aj ⟨rfl,λh2=>(by rw[aR h]at h2;cases h2)⟩) λh=>aj ⟨rfl,λh2=>⟨h,Xd h2⟩⟩) ?_;rintro⟨b,x⟩ ⟨e,hb⟩;dsimp only at e hb;subst e;refine aN (λh=>aj rfl) λh=>?_
 let⟨n4,n22⟩:=hb h;have vel:=vel n3 n23 n5 n4 n22;have hWl:=xh z.2.2.2 o (l! z.2.2.2);refine aI (λh=>?_) λn18=>?_
 .have h:k=18:=h;subst h;rw[HC]at vel;refine iy (l! z.2.2.2) (by omega) (λn x=>x.1.2.2=(n:Int)/\x.2=(t,18,o,v,si,de,fr)/\x.1.1=(l! (wl z.2.2.2 o n):Int)/\(x.1.2.1=J↔v∈wl z.2.2.2 o n)) ?_ ?_ ⟨rfl,rfl,rfl,by simp[wl]⟩
  .rintro n ⟨⟨c,hit,ix⟩,x⟩ hi ⟨D,A,L,N⟩;dsimp only at D A L N;subst D A L;have hl:=xh z.2.2.2 o n;refine du ?_;refine aU (λx=>x.2=(t,18,o,v,si,de,fr)/\x.1.1=(l! (wl z.2.2.2 o (n+1)):Int)/\(x.1.2=J↔v∈wl z.2.2.2 o (n+1))) ?_ ?_
   .refine cu (aS (aU (λx=>x=(NJ o (geti il z.2.2.2 (n:Int)),t,18,o,v,si,de,fr)) ?_ ?_))
    .unfold NJ;refine aI (λh=>aj ?_) λh=>aj ?_
     .dsimp only at h ⊢;rw[h];rfl
     .dsimp only at h ⊢;rw[cD h];rfl
    rintro x rfl;rw[JZ];dsimp only;cases hw:NJ o (geti il z.2.2.2 (n:Int)) with
    |true=>
     refine ZN (aN (λh=>aj ⟨rfl,?_,?_⟩) λh=>aj ⟨rfl,?_,?_⟩)
     .dsimp only;rw[gQ];simp
     .simp[N.1 h]
     .dsimp only;rw[gQ];simp
     .have:¬v∈wl z.2.2.2 o n:=λg=>by rw[N.2 g]at h;cases h
      simp[this]
    |false=>exact iT (aj ⟨rfl,rfl,N⟩)
   rintro⟨⟨c,hit'⟩,x⟩ ⟨D,A,L⟩;dsimp only at D A L;subst D A;exact aj ⟨gQ,rfl,rfl,L⟩
  .rintro⟨⟨c,hit,ix⟩,x⟩ ⟨D,A,L,N⟩;dsimp only at D A L N;subst D A L;refine dg (ax (P:=λy=>y=J) (gV (aN (λ_=>aj (aj rfl)) λh=>?_)) λy hy=>aj hy);have hn:¬v∈wl z.2.2.2 o (l! z.2.2.2):=λg=>by rw[N.2 g]at h;cases h
   by_cases h0:l! (wl z.2.2.2 o (l! z.2.2.2))=0
   .rw[aD h0]at vel;refine aI (λ_=>aj (aj (aR vel))) λg=>(g (by dsimp only;omega)).elim
   .rw[av h0]at vel;have vel:v=Dy (wl z.2.2.2 o (l! z.2.2.2)) v:=vel;exact (hn (vel▸Ki v h0)).elim
 refine aI (λh=>?_) λn19=>?_
 .have h:k=19:=h;subst h;rw[apr]at vel;refine iy (l! z.2.2.2) (by omega) (λn x=>x.1.2=(n:Int)/\x.2=(t,19,o,v,si,de,fr)/\x.1.1=(l! (wl z.2.2.2 o n):Int)) ?_ ?_ ⟨rfl,rfl,rfl⟩
  .rintro n ⟨⟨c,ix⟩,x⟩ hi ⟨D,A,L⟩;dsimp only at D A L;subst D A L;have hl:=xh z.2.2.2 o n;refine du ?_;refine aU (λx=>x.2=(t,19,o,v,si,de,fr)/\x.1=(l! (wl z.2.2.2 o (n+1)):Int)) ?_ ?_
   .refine cu (aS (aU (λx=>x=(NJ o (geti il z.2.2.2 (n:Int)),t,19,o,v,si,de,fr)) ?_ ?_))
    .unfold NJ;refine aI (λh=>aj ?_) λh=>aj ?_
     .dsimp only at h ⊢;rw[h];rfl
     .dsimp only at h ⊢;rw[cD h];rfl
    rintro x rfl;rw[JZ];dsimp only;cases hw:NJ o (geti il z.2.2.2 (n:Int)) with
    |true=>
     refine ZN (aj ⟨rfl,?_⟩);dsimp only;rw[gQ];simp
    |false=>exact iT (aj ⟨rfl,rfl⟩)
   rintro⟨c,x⟩ ⟨D,A⟩;dsimp only at D A;subst D A;exact aj ⟨gQ,rfl,rfl⟩
  .rintro⟨⟨c,ix⟩,x⟩ ⟨D,A,L⟩;dsimp only at D A L;subst D A L;exact dg (aj (aR vel))
 exact aj (aR (by rw[ant _ _ _ _ _ _ n18 n19]at vel;exact vel))
def aem (x:e?) (c:Int):nz (x,c)=Z (NJ c x):=by
 refine cz ?_;unfold nz NJ bi aG;refine gV (aI (λh=>aj (aj ?_)) λh=>aj (aj ?_))
 .have h:x.1=3:=h;rw[h];rfl
 .have h:¬x.1=3:=h;rw[cD h];rfl
def ahr (s:SY) (A:SB i s):lD s=Z (s.2.1,s.1,s.2.2.1,s.2.2.2):=by
 refine cz ?_;let⟨z,N,L,D⟩:=s;have hn:=A.n1;have hlk:=A.lk;have hdn:=A.dn;have hth:=A.th;have hrd:=A.rd;dsimp only at hlk hdn hth hrd;unfold lD tB aW cg ck bM bX bQ be cQ cN;dsimp only[ak];refine cY (cY (a? (a? (a! ?_))));refine iy (l! z) (by omega) (λn x=>∃c d,x=((n:Int),(z,N,L,D),c,d)/\l! d=l! z/\∀j,j<n->d.getD j (0,[])=z.getD j (0,[])) ?_ ?_ ⟨_,_,rfl,by simp,λj hj=>by omega⟩
 .rintro n x hi ⟨c,d,rfl,hd,he⟩;have hr:=hrd _ (bP (T:=dQ) (xs:=z) (j:=(n:Int)) (by omega) (by omega));refine du ?_;refine cu (aS (aT (x:=(geti dQ z (n:Int)).2) (cz ?_) ?_))
  .exact a! (aj rfl)
  refine cu (cu (aj ⟨c,d.set n (geti dQ z (n:Int)),?_,by simp[hd],λj hj=>?_⟩))
  .dsimp only;rw[gQ];rfl
  .by_cases e:n=j
   .subst e;rw[aw,List.getElem?_set_self (by omega)];rfl
   .rw[aw,List.getElem?_set_ne e,<-aw];exact he j (by omega)
 .rintro x ⟨c,d,rfl,hd,he⟩;have:d=z:=by
   refine su hd λj g1 g2=>?_
   have:=he j g2;rw[aw,aw,aE g1,aE g2]at this;exact this
  subst this;refine dg (ax (P:=λy=>y=(N,d,L,D)) ?_ λy hy=>aj hy);refine aT (x:=L) (cz (a! (aj rfl))) (aT (x:=D) (cz (a! (aj rfl))) (aj rfl))
def aah (l:η) (i u:Int):Dy (l++[i]) u=if (l! l)=0 then i else if i=u then i else Dy l u:=by
 unfold Dy;cases l with
 |nil=>
  by_cases h:u=i
  .subst h;simp
  .simp[h];rfl
 |cons a r=>
  have z:¬l! (a::r++[i])=0:=by simp
  have e2:¬l! (a::r)=0:=by simp
  simp only[av z,av e2];by_cases h:i=u
  .subst h;simp
  .have h':¬u=i:=λg=>h g.symm
   rw[av h];have:(a::r++[i]).contains u=(a::r).contains u:=by simp[h']
   rw[this];rfl
variable {k:Y (Int×Int×Bool)}
def Kh {u:Int} (h:¬l! (wl k a i)=0):0<=Dy (wl k a i) u/\Dy (wl k a i) u<i:=by
 have:=xg.1 (Ki u h);exact⟨this.1,this.2.1⟩
def M5 {u:Int} (h:l! z=0):Dy z u= -1:=by unfold Dy;rw[aD h]
def ak7 (s:SY) (o u:Int) (hs:l! s.2.2.2<=1000):kE ((s.2.1,o,u),s.1,s.2.2.1,s.2.2.2)=Z (Dy (wl s.2.2.2 o (l! s.2.2.2)) u,s.1,s.2.2.1,if (l! (wl s.2.2.2 o (l! s.2.2.2)))=0 then s.2.2.2 else Ej s.2.2.2 (Dy (wl s.2.2.2 o (l! s.2.2.2)) u) 4):=by
 refine cz ?_;let⟨D,L,A,z⟩:=s;dsimp only at hs ⊢;unfold kE rW aW bm cg ck bM j_ jY be cQ aG cN;dsimp only[ak];refine iy (l! z) (by omega) (λi x=>x=((Dy (wl z o i) u,(i:Int)),D,A,z,L)) ?_ ?_ rfl
 .rintro i x hi rfl;refine du ?_;refine aU (λx=>x=(Dy (wl z o (i+1)) u,D,A,z,L)) ?_ ?_
  .refine cu (cu (aS ?_));refine aU (λx=>x=(decide (NJ o (geti il z (i:Int))=J/\(l! (wl z o i)=0\/(i:Int)=u)),D,A,z,L)) ?_ ?_
   .refine aT (aem _ _) (aN (λh=>?_) λh=>aj ?_)
    .have h:NJ o (geti il z (i:Int))=J:=h;refine bL (λg=>aj ?_) λg=>aj ?_
     .have:l! (wl z o i)=0:=xf λq=>by have:=(Kh (u:=u) q).1;dsimp only at g;omega
      simp[h,this]
     .have:¬l! (wl z o i)=0:=λq=>by have:=M5 (u:=u) q;dsimp only at g;omega
      simp[h,this]
    .have h:NJ o (geti il z (i:Int))=aa:=h;simp[h]
   rintro x rfl;rw[JZ];refine aI (λh=>aj ?_) λh=>aj ?_
   .rw[aD h.1,aah];rcases h.2 with g|g
    .rw[aD g]
    .rw[aD g];simp
   .by_cases g:NJ o (geti il z (i:Int))=J
    .rw[aD g,aah,av λq=>h ⟨g,.inl q⟩,av λq=>h ⟨g,.inr q⟩]
    .rw[av g]
  rintro x rfl;exact aj (by dsimp only;rw[gQ])
 .rintro x rfl;refine dg (ax (P:=λy=>y=(Dy (wl z o (l! z)) u,D,A,if (l! (wl z o (l! z)))=0 then z else Ej z (Dy (wl z o (l! z)) u) 4)) ?_ λy N=>aj N);refine aU (λx=>x=(D,A,if (l! (wl z o (l! z)))=0 then z else Ej z (Dy (wl z o (l! z)) u) 4)) ?_ ?_
  .refine fc (λg=>?_) λg=>aj ?_
   .have h0:¬l! (wl z o (l! z))=0:=λq=>by have:=M5 (u:=u) q;dsimp only at g;omega
    have hp:=Kh (u:=u) h0;refine aM hp.1 hp.2 (aM hp.1 hp.2 (aj ?_));rw[av h0];rfl
   .have:l! (wl z o (l! z))=0:=xf λq=>by have:=(Kh (u:=u) q).1;dsimp only at g;omega
    rw[aD this]
  rintro x rfl;exact aj rfl
def akd (th:Y e?) (l:η) (i:Int):Jh th (l++[i])=Ej (Jh th l) i 4:=by unfold Jh;rw[ey];rfl
def akc (l:η):∀(th:Y e?) (j:Int),0<=j->(∀z∈l,0<=z/\z<l! th/\¬z=j)->geti il (Jh th l) j=geti il th j:=by
 induction l with
 |nil=>intro th j _ _;rfl
 |cons x r L=>
  intro th j D h;have A:=h x (by simp);refine (L (Ej th x 4) j D λz N=>?_).trans ?_
  .have:=h z (by simp[N]);unfold Ej;rw[b7];exact this
  .unfold Ej;rw[ku (T:=il) th x j _ A.1 A.2.1 D,av λq=>A.2.2 q.symm]
def XE (s:SY) (o:Int) (hs:l! s.2.2.2<=1000):gW ((s.2.1,o),s.1,s.2.2.1,s.2.2.2)=Z ((l! (wl s.2.2.2 o (l! s.2.2.2)):Int),s.1,s.2.2.1,Jh s.2.2.2 (wl s.2.2.2 o (l! s.2.2.2))):=by
 refine cz ?_;let⟨N,L,D,A⟩:=s;dsimp only at hs ⊢;unfold gW nP aW bm cg dE ck bM jY be cQ aG cN;dsimp only[ak];refine iy (l! A) (by omega) (λi x=>x=(((l! (wl A o i):Int),(i:Int)),N,D,Jh A (wl A o i),L)) ?_ ?_ rfl
 .rintro i x hi rfl;have hl:=xh A o i;have hg:geti il (Jh A (wl A o i)) (i:Int)=geti il A (i:Int):=akc _ _ _ (by omega) λz hz=>by have:=xg.1 hz;exact⟨this.1,by omega,by omega⟩
  have hq:=J9 (wl A o i) A;refine du ?_;refine aU (λx=>x=((l! (wl A o (i+1)):Int),N,D,Jh A (wl A o (i+1)),L)) ?_ ?_
  .refine cu (cu (aS (aT (aem _ _) ?_)));rw[JZ];refine aN (λh=>?_) λh=>aj ?_
   .have h:NJ o (geti il A (i:Int))=J:=hg▸h;refine cu (cu (aj ?_));rw[aD h,akd];dsimp only;rw[gQ];simp only[bc,bK,mR];rfl
   .have h:NJ o (geti il A (i:Int))=aa:=hg▸h;rw[h];rfl
  rintro x rfl;exact aj (by dsimp only;rw[gQ])
 .rintro x rfl;exact dg (aj rfl)
def amw (w:WT) (s:SY) (z:SB i s) (hn:i<=1000) (N:l! w.2.2.1<=1000) (t k o u:Int) (he:EN w s t k o) (hr:Xa w s t k o) (D:¬k=8) (A:¬k=9):gX (w,s,t,k,o,u)=Z ((uv w s t k o u).1,(uv w s t k o u).2,J):=by
 refine cz ?_;unfold gX aW bm bF cG ep cg dE dk ip wE ck bi bX bQ jY aG;refine aT (Gf w s z hn N t k o he hr) (gB rfl (aT (ahr s z) ?_));suffices hmain:Ok _ _ from aU (λx=>((x.2.2.2.1,x.2.1,x.2.2.2.2),x.1)=uv w s t k o u) hmain λx L=>aj (by rw[<- L])
 obtain⟨nm,t0,t1,cd,e1,e2,e3⟩:=id he;obtain⟨_,_,ce,lk,cn,th,fu⟩:=nm;have hm:16<=k/\k<=19->0<=(geti itK w.2.2.1 o).2/\(geti itK w.2.2.1 o).2<l! w.2.1:=λh=>cd _ (bP (cn h).1 (cn h).2)
 cases kdI k
 case no hk _=>omega
 all_goals first|exact (D rfl).elim|exact (A rfl).elim|skip
 all_goals simp only[cX,dK,NP]
 all_goals with_reducible repeat' first|apply OS.ok;constructor|refine IM.mk λ_=>?_
 all_goals try simp only[ak,sC] at*
 all_goals try rw[b7]
 all_goals first|omega|exact (hm ⟨by decide,by decide⟩).1|exact e1▸(hm ⟨by decide,by decide⟩).2|exact rfl|skip
 .refine aT (ak7 s o u z.th) (a8 ?_ (aj ?_))
  .have:ah (if (l! (wl s.2.2.2 o (l! s.2.2.2)))=0 then s.2.2.2 else Ej s.2.2.2 (Dy (wl s.2.2.2 o (l! s.2.2.2)) u) 4)=l! s.2.2.2:=by
    split
    .rfl
    .exact b7 ..
   dsimp only;rw[this];simp
  .rw[HC];by_cases h:l! (wl s.2.2.2 o (l! s.2.2.2))=0
   .rw[aD h,aD h,M5 h]
   .rw[av h,av h]
 .refine aT (XE s o z.th) (a8 ?_ (aj rfl));dsimp only;rw[J9];simp
def C6:Nat->Y η
 |0=>[[]]
 |m+1=>C6 m++(C6 m).map ((3-(m:Int))::·)
def Pe:∀m,[]∈C6 m
 |0=>by simp[C6]
 |m+1=>by simp[C6,Pe m]
def Gq:∀(m:Nat) (l:η),JS l->(∀z∈l,4-(m:Int)<=z/\z<4)->l∈C6 m
 |m,[],_,_=>Pe m
 |0,a::r,_,h=>by have:=h a (by simp);omega
 |m+1,a::r,hA,h=>by
  have D:=h a (by simp);rw[C6,bA];by_cases e:a=3-(m:Int)
  .refine .inr (cj.2 ⟨r,Gq m r hA.2 λz A=>?_,by rw[e]⟩);have:=h z (by simp[A]);have:=hA.1 z A;omega
  .refine .inl (Gq m (a::r) hA λz A=>?_);have:=h z A;rcases aZ.1 A with rfl|A
   .omega
   .have:=hA.1 z A;omega
def an3 (h:JS z) (D:∀l∈z,0<=l/\l<4):z∈C6 4:=Gq 4 z h λl A=>by have:=D l A;omega
def in4:η:=[0,1,2,3]
def Z3 (h0:0<=a) (h1:a<4):a∈in4:=by
 have:a=0\/a=1\/a=2\/a=3:=by omega
 rcases this with rfl|rfl|rfl|rfl<;>simp[in4]
def asf (l:η) (t:Int):Bool:=l.contains t||((ya (l++[t])==Z (xI l [t]))&&(mF (xI l [t])==Z (xI l [t]))&&ay (l! (xI l [t])) (l! (l++[t])))
def at9 (l:η) (t:Int):Bool:= !l.contains t||(jH (l,t)==Z (t,wo l t))
def ajl:((C6 4).all λl=>in4.all λt=>asf l t)=J:=by kernel_rfl
def ala:((C6 4).all λl=>in4.all λt=>at9 l t)=J:=by kernel_rfl
def srt8 (h:JS z) (L:∀l∈z,0<=l/\l<4) (h0:0<=a) (h1:a<4) (A:¬a∈z):ya (z++[a])=Z (xI z [a])/\mF (xI z [a])=Z (xI z [a])/\l! (xI z [a])=l! (z++[a]):=by
 have:=iv.1 (iv.1 ajl z (an3 h L)) a (Z3 h0 h1);unfold asf at this;have D:z.contains a=aa:=by simp[A]
 rw[D,Bool.false_or,al,al]at this;exact⟨eq_of_beq this.1.1,eq_of_beq this.1.2,au this.2⟩
def del8 (h:JS z) (D:∀l∈z,0<=l/\l<4) (h0:0<=a) (h1:a<4) (A:z.contains a=J):jH (z,a)=Z (a,wo z a):=by
 have:=iv.1 (iv.1 ala z (an3 h D)) a (Z3 h0 h1);unfold at9 at this;rw[A,Ep,Bool.false_or]at this;exact eq_of_beq this
def alk (N L D:Int) (r0 A z:η) (h:Int) (d:θ) (th:Y e?) (h0:l! r0<=1000) (h1:l! A<=1000) (h2:l! z<=1000) (hd:l! d<=1000) (ht:l! th<=1000):oF ([(N,r0),(L,A),(D,z)],h,d,th)=Z ((h,d,th),(N,L,D),r0,A,z):=by
 refine cz ?_;have cl:∀l:η,l! l<=1000->uP l=Z l:=λl hl=>cz (a! (aj rfl))
 unfold oF aW cg bM bX bQ be aG;refine a8 rfl (aU (λx=>x=(([(N,r0),(L,A),(D,z)],h,d,th),0,(N,L,D),r0,A,z)) ?_ ?_)
 .exact fO rfl (a8 rfl (aS (aT (cl _ h0) (fO rfl (a8 rfl (aS (aT (cl _ h1) (fO rfl (a8 rfl (aS (aT (cl _ h2) (gB rfl (aj rfl)))))))))))))
 rintro x rfl;refine aT (x:=d) (cz (a! (aj rfl))) (aT (x:=th) (cz (a! (aj rfl))) (aj rfl))
def amx (w:WT) (s:SY) (z:SB i s) (N:i<=1000) (D:l! w.2.2.1<=1000) (t k o u:Int) (he:EN w s t k o) (L:Xa w s t k o) (hk:k=8\/k=9):gX (w,s,t,k,o,u)=U:=by
 have h1:=Gf w s z N D t k o he L;have A:=ahr s z;rcases hk with rfl|rfl
 .unfold gX aW bm bF cG ep cg dE dk ip wE ck bi bX bQ jY aG;simp only[h1,A,cX,dK,NP];cases fe o (ah s.1)<;>rfl
 .unfold gX aW bm bF cG ep cg dE dk ip wE ck bi bX bQ jY aG;simp only[h1,A,cX,dK,NP];cases fe o (ah s.1)<;>rfl
def amv (w:WT) (s:SY) (L:SB i s) (hn:i<=900) (hw:l! w.2.2.1<=1000) (t k u:Int) (he:EN w s t k 2) (hr:Xa w s t k 2) (hk:k=8\/k=9) (h3:l! s.1=3) (hA:JS (geti dQ s.1 2).2) (N:∀z∈(geti dQ s.1 2).2,0<=z/\z<4) (t4:t<4):l9 (w,s,t,k,2,u)=Z ((uv w s t k 2 u).1,(uv w s t k 2 u).2,J):=by
 have h1:=Gf w s L (by omega) hw t k 2 he hr;have t0:=he.t0;have ra:=hr.ra;have rr:=hr.rr;have hrd:=L.rd;have hdn:=L.dn;have hth:=L.th;let⟨s1,h,d,th⟩:=s
 match s1,h3 with
 |[(a0,r0),(a1,D),(a2,A)],_=>
  have g0:l! r0<=i:=hrd (a0,r0) (by simp);have g1:l! D<=i:=hrd (a1,D) (by simp);have g2:l! A<=i:=hrd (a2,A) (by simp);have hA:JS A:=hA;have N:∀z∈A,0<=z/\z<4:=N;dsimp only at hdn hth;have hc:=alk a0 a1 a2 r0 D A h d th (by omega) (by omega) (by omega) hdn hth;refine cz ?_;unfold l9 aW bm bF cG ep jW dE dk ip En bi nh bX aG;rcases hk with rfl|rfl
  .have ra:A.contains t=aa:=ra rfl;let⟨q1,q2,q3⟩:=srt8 hA N t0 t4 (by simpa using ra);simp only[h1,hc,cX,dK,NP];refine aU (λx=>x=(0,(h,d,th),0,(((a0,r0),(a1,D),a2)),J,xI A [t])) ?_ ?_
   .refine a! (aT q1 (a8 ?_ (aT q2 (a8 ?_ (aj ?_)))))
    .rw[q3];simp
    .simp
    .rfl
   rintro x rfl;exact aj rfl
  .have rr:A.contains t=J:=rr rfl;have q1:=del8 hA N t0 t4 rr;simp only[h1,hc,cX,dK,NP];refine aU (λx=>x=(0,(h,d,th),0,(((a0,r0),(a1,D),a2)),aa,wo A t)) ?_ ?_
   .exact aT q1 (a8 (by simp) (aj rfl))
   rintro x rfl;exact aj rfl
def arx (w:WT) (s:SY) (L:SB i s) (hn:i<=900) (D:l! w.2.2.1<=1000) (t k o u:Int) (he:EN w s t k o) (N:Xa w s t k o) (h2:k=8\/k=9->o=2) (h3:l! s.1=3) (hA:∀l∈s.1,JS l.2/\∀z∈l.2,0<=z/\z<4) (t4:t<4):td (w,s,t,k,o,u)=Z ((uv w s t k o u).1,(uv w s t k o u).2,J):=by
 unfold td;by_cases A:k=8\/k=9
 .have:=h2 A;subst this;have hg:=hA _ (bP (T:=dQ) (xs:=s.1) (j:=2) (by omega) (by omega));rw[amx w s L (by omega) D t k 2 u he N A,amv w s L hn D t k u he N A h3 hg.1 hg.2 t4];rfl
 .rw[amw w s L (by omega) D t k o u he N (λh=>A (.inl h)) λh=>A (.inr h)];rfl
def aag (l:η) (h:l! l<=100000):Bd l=Z l:=cz (a! (aj rfl))
def alm (l:η) (h:l! l<=100000):uP l=Z l:=cz (a! (aj rfl))
def atz {n:Nat} (w:WT) (s:SN) (e:ET) (D:NB n s) (hn:n<=900) (hw:l! w.2.2.1<=1000) (hF:F16 w s) (N:EN w s.1 e.1 e.2.1 e.2.2.1) (hS:S16 w s e) (ld:l! e.2.2.2.2.2.1<=1000000) (lf:l! e.2.2.2.2.2.2<=1000000) (h2:e.2.1=8\/e.2.1=9->e.2.2.1=2) (h3:l! s.1.1=3) (hA:∀l∈s.1.1,JS l.2/\∀z∈l.2,0<=z/\z<4) (t4:e.1<4):kq (w,s,e)=Z (nxP w s e,J):=by
 refine cz ?_;let⟨rd,q1,q2,de,fr,nd,nf,va⟩:=id hS;let⟨nm,L,t1,cd,e1,e2,e3⟩:=id N;let⟨k1,k2,ce,lk,cn,th,fu,_,_,_⟩:=nm;let⟨f1,f2,f3⟩:=id hF;have hsc:=D.c;have hsf:=D.f;have hsk:=D.k;unfold kq aW bm bF cg dE dk ck bi bM j_ jY be aG cN;refine aU (λx=>x=(aa,w,s,e,0)) ?_ ?_
 .refine aT (at6 w s hw _ _ _ N hF) (gB rfl (dg (fc (λg=>(by dsimp only[ak]at g;omega)) λ_=>dg (aj ?_))));rw[g9.2 (show e.2.1<=23 by omega)]
 rintro x rfl;refine iT (aU (λx=>x=(aa,w,s,e,0)) ?_ ?_)
 .exact aT (Gf w s.1 D.sb (by omega) hw _ _ _ N rd) (gB rfl (aT (ak0 w e q1 q2) (gB rfl (aT (Vj w s e (λh=>ce h) de fr L (by rw[f3];exact t1) nd nf ld lf) (gB rfl (aT (ajh w s D.sb e hF N va) (aj rfl)))))))
 rintro x rfl;refine iT (aU (λx=>x.2=(w,s,e,0)/\uv w s.1 e.1 e.2.1 e.2.2.1 x.1=uv w s.1 e.1 e.2.1 e.2.2.1 e.2.2.2.1) ?_ ?_)
 .exact aI (λ_=>aj ⟨rfl,rfl⟩) λh=>aj ⟨rfl,aap _ _ _ _ _ _ _ h⟩
 rintro⟨u,x⟩ ⟨hx,hu⟩;dsimp only at hx hu;subst hx;refine aT (arx w s.1 D.sb hn hw _ _ _ u N rd h2 h3 hA t4) (gB rfl (aT (aag _ (by dsimp only;omega)) (aT (aag _ (by dsimp only;omega)) (aT (alm _ (by dsimp only;omega)) ?_))));rw[hu];refine aU (λx=>x.1=e/\x.2.2.1=(uv w s.1 e.1 e.2.1 e.2.2.1 e.2.2.2.1).1/\x.2.2.2.1=ceP s.2.1 e/\x.2.2.2.2.1=fuP s.2.2.1 e/\x.2.2.2.2.2=s.2.2.2) ?_ ?_
 .unfold ceP fuP;refine aI (λh=>?_) λh=>aI (λh'=>?_) λh'=>aj ⟨rfl,rfl,(av h).symm,(av h').symm,rfl⟩
  .have h:e.2.1=4:=h;have A:=ce (.inr h);exact aM A.1 (by rw[f1];exact A.2) (aM A.1 (by rw[f1];exact A.2) (aj ⟨rfl,rfl,(aD h).symm,(av (by omega)).symm,rfl⟩))
  .have h:e.2.1=22:=h';have A:=fu (.inl h);exact aM A.1 (by rw[f2];exact A.2) (aM A.1 (by rw[f2];exact A.2) (aj ⟨rfl,rfl,(av (by omega)).symm,(aD h).symm,rfl⟩))
 rintro⟨x1,x2,x3,x4,x5,x6⟩ ⟨h1,h2,h4,h5,h6⟩;simp only at h1 h2 h4 h5 h6;subst h1 h2 h4 h5 h6;have t2:x1.1<(l! s.2.2.2:Int):=by rw[f3];exact t1
 exact aM L t2 (aM L t2 (aS (aM L t2 (aM L t2 (aj rfl)))))
structure TP (t:η×Int):Prop where
 l0:l! t.1<=9223372036854775807
 by_:∀x∈t.1,0<=x/\x<=255
 a0:0<=t.2
 a1:t.2<=l! t.1
structure wA (t t':η×Int):Prop where
 e:t'.1=t.1
 m:t.2<=t'.2
 p:TP t'
def wA.refl {t:n!} (h:TP t):wA t t:=⟨rfl,dz _,h⟩
def wA.trans {a b c:n!} (h:wA a b) (g:wA b c):wA a c:=⟨g.e.trans h.e,ta h.m g.m,g.p⟩
def gy (n:Int) (t:n!) (h:TP t):Ok (bH (n,t)) λy=>wA t y.2/\0<=y.1/\(1<=n->y.1<n)/\(t.2<l! t.1->1<=n->t.2<y.2.2):=by
 let⟨L,a⟩:=t;have hT:=h;let⟨l0,N,a0,a1⟩:=h;dsimp only at l0 N a0 a1;unfold bH j_ bX bQ be aG cN;refine aU (λx=>x.2=(L,a)/\(x.1=J->a=l! L\/n<1)/\(x.1=aa->a<l! L/\1<=n)) ?_ ?_
 .refine fc (λh=>aj ⟨rfl,λ_=>?_,nofun⟩) λh=>aj ⟨rfl,λA=>?_,λA=>?_⟩
  .dsimp only[ak]at h;omega
  .rw[pX]at A;exact .inr A
  .rw[g9]at A;dsimp only[ak]at h A;omega
 rintro⟨b,x⟩ ⟨e,h1,A⟩;dsimp only at e h1 A;subst e;refine aN (λh=>aj ⟨wA.refl hT,dz _,λh3=>(by dsimp only;omega),λh3 h4=>?_⟩) λh=>?_
 .have:=h1 h;dsimp only at h3;omega
 let⟨q1,q2⟩:=A h;refine aS ?_;have e1:bl .i64 (a+1)=a+1:=iQ;dsimp only;rw[e1,iQ (n:=a+1-1) (by omega) (by omega),show a+1-1=a by omega];have D:=N _ (bP (T:=.int .u8) (xs:=L) (j:=a) a0 q1);refine aM a0 q1 (aS ?_);generalize (geti _ _ a)=z at D;have D:0<=z/\z<=255:=D;rw[iQ (n:=z) (by omega) (by omega)];refine AZ (by omega) (aj ?_);dsimp only;refine ⟨⟨rfl,by dsimp only;omega,⟨l0,N,by dsimp only;omega,by dsimp only;omega⟩⟩,Int.tmod_nonneg _ D.1,λ_=>?_,λ_ _=>by omega⟩;exact Int.tmod_lt_of_pos _ (by omega)
def Xg (s:SY) (D:l! s.2.2.2<=1000) (y:η×A?):Ok (l7 (s,y)) λl=>l! l<=l! s.2.2.2:=by
 unfold l7 cg bi bM bX bQ be cQ aG cN;refine cm (l! s.2.2.2) (λi x=>x.1=(i:Int)/\l! x.2<=i) ?_ ?_ ⟨rfl,by simp⟩
 .rintro i ⟨a,b⟩ hi ⟨z,e2⟩;dsimp only at z e2;subst z;with_reducible repeat' first|apply OS.ok;constructor|refine IM.mk λ_=>?_
  all_goals try simp only[ak,sC] at*
  all_goals first|omega|(simp;omega)|skip
  .exact⟨gQ,by simp;omega⟩
  .exact⟨gQ,by omega⟩
 .rintro⟨a,b⟩ ⟨z,e2⟩;dsimp only at z e2;subst z;refine bL (λA=>(by dsimp only[ak]at A;omega)) λ_=>aj e2
def abi (k u:Int) (t:n!) (h:TP t):Ok (pD ((k,u),t)) λy=>wA t y.2/\(k=3\/k=4->0<=y.1/\y.1<5):=by
 unfold pD bi jY aG cN;cases kdI k
 case no D _=>
  simp only[D,cX,dK,NP];exact aj ⟨wA.refl h,λh=>(by first|omega|(simp at h;done)|(rcases h with h|h<;>cases h;done))⟩
 all_goals simp only[cX,dK,NP]
 all_goals first
  |exact aj ⟨wA.refl h,λh=>(by first|omega|(simp at h;done)|(rcases h with h|h<;>cases h;done))⟩
  |exact ax (gy 2 t h) λy A=>aj ⟨A.1,λh=>(by first|omega|(simp at h;done)|(rcases h with h|h<;>cases h;done))⟩
  |exact ax (gy 3 t h) λy A=>aj ⟨A.1,λh=>(by first|omega|(simp at h;done)|(rcases h with h|h<;>cases h;done))⟩
  |skip
 all_goals
  refine ax (gy 8 t h) λy A=>?_
  have h1:=A.2.1;have L:=A.2.2.1 (by omega);refine aM h1 (by simp;omega) (aM h1 (by simp;omega) (aS (aj ⟨A.1,λ_=>?_⟩)));have:∀z:Int,z∈([0,0,0,1,1,2,3,4]:η)->0<=z/\z<5:=by decide
  exact this _ (bP (T:=aL) h1 (by simp;omega))
structure SZ (n:Nat) (s:SN):Prop where
 nb:NB n s
 c:l! s.2.1=5
 f:l! s.2.2.1=1
 k:l! s.2.2.2=4
def SZ.step {s y:SN} (h:SZ i s) (hp:SP i s y) (z:i+1<=100000):SZ (i+1) y:=
 ⟨hp.NB h.nb z,by rw[hp.c];exact h.c,by rw[hp.f];exact h.f,by rw[hp.k];exact h.k⟩
def ab8 (s:SN) (A:SZ i s) (k o:Int) (L:k=3->0<=o/\o<5) (t:n!) (h:TP t):Ok (rF ((s,k,o),t)) λy=>wA t y.2:=by
 let⟨s1,s2,s3,N⟩:=s;have hc:=A.c;have hf:=A.f;have hth:=A.nb.sb.th;dsimp only at hc hf hth;have D:=Xg s1 hth (s2,s3,N);unfold rF aW bi bM bQ be aG;cases kdI k
 case no hk _=>
  simp only[hk,cX,dK,NP];exact aj (wA.refl h)
 all_goals simp only[cX,dK,NP]
 all_goals first
  |exact aj (wA.refl h)
  |exact ax (gy 2 t h) λy z=>aj z.1
  |exact ax (gy 3 t h) λy z=>aj z.1
  |exact ax D λy z=>aj (wA.refl h)
  |exact aM (by decide) (by omega) (aS (aj (wA.refl h)))
  |exact aM (L rfl).1 (by have:=(L rfl).2;omega) (aS (aj (wA.refl h)))
  |skip
 refine ax D λl hl=>?_
 refine bL (λh1=>?_) λ_=>aj (wA.refl h)
 refine ax (gy _ t h) λy z=>?_
 dsimp only[ak]at h1;have h2:=z.2.2.1 (by dsimp only[ak];omega);exact aM z.2.1 h2 (aS (aj z.1))
def ajo (t:n!) (h:TP t) (r:η) (hr:l! r<=1000000):Ok (gH (t,r)) λy=>l! y.1<=l! r/\wA t y.2.1/\y.2.2=r:=by
 unfold gH aW cg bM j_ bX jY be cQ aG cN;refine cm (l! r) (λi x=>x.1=(i:Int)/\wA t x.2.1/\x.2.2.1=r/\l! x.2.2.2<=i) ?_ ?_ ⟨rfl,wA.refl h,rfl,by simp⟩
 .rintro i ⟨a,b,c,d⟩ hi ⟨L,e2,D,e4⟩;dsimp only at L e2 D e4;subst L D;refine bL (λN=>?_) λN=>(by dsimp only[ak]at N;omega)
  refine aU (λx=>wA t x.1/\x.2.1=c/\l! x.2.2<=i+1) ?_ ?_
  .refine cu (cu (aS ?_));refine aU (λx=>wA t x.2.1/\x.2.2=(c,d)) ?_ ?_
   .refine aN (λ_=>?_) λ_=>aj ⟨e2,rfl⟩
    exact ax (gy 2 b e2.p) λy hy=>aj ⟨e2.trans hy.1,rfl⟩
   .rintro⟨p,q,u⟩ ⟨z,A⟩;dsimp only at z A;subst A;refine aN (λ_=>?_) λ_=>aj ⟨z,rfl,by dsimp only;omega⟩
    exact a! (aj ⟨z,rfl,by simp;omega⟩)
  .rintro⟨p,q,u⟩ ⟨z,A,f3⟩;dsimp only at z A f3;subst A;refine aj ?_;dsimp only;exact⟨gQ,z,rfl,f3⟩
 .rintro⟨a,b,c,d⟩ ⟨L,e2,D,e4⟩;dsimp only at L e2 D e4;subst L D;refine bL (λN=>(by dsimp only[ak]at N;omega)) λ_=>aj ⟨e4,e2,rfl⟩
def agd:uN ()=Z [3,3,3,3,3,4,4,4,4,4,5,5,5,6,6,6,7,7,7,8,9,10,11,12,13,14,14,15,16,16,17,17,18,18,19,20,1,1,2,21,22,23,23]:=rfl
abbrev RR:Type:=η×η×A?
structure RB4 (m:Nat) (r:RR):Prop where
 r0:l! r.1<=m
 r1:l! r.2.1<=m
 r2:l! r.2.2.1<=m
 r3:l! r.2.2.2<=m
def ahb (s:SN) (hs:SZ i s) (w:WT) (hw:l! w.1=5) (t:n!) (h:TP t) (r:RR) (hr:RB4 1000000 r):Ok (rG ((s,w),t,r)) λy=>wA t y.2.1/\y.2.2=r/\(t.2<l! t.1->t.2<y.2.1.2)/\l! y.1.2.2.2.2.2.1<=1000000/\l! y.1.2.2.2.2.2.2<=1000000:=by
 let⟨r0,r1,r2,r3⟩:=r;let⟨h0,h1,h2,h3⟩:=hr;dsimp only at h0 h1 h2 h3;unfold rG lz mh mg aW bm bF cG ep jW mr nJ Prod.v Prod.y dk ip bi bX bQ be aG;refine ax (gy 4 t h) λy hy=>?_
 refine aT agd ?_;refine ax (gy _ y.2 hy.1.p) λz hz=>?_
 let⟨y1,yt⟩:=y;let⟨z1,zt⟩:=z;let⟨ty,yy0,yy1,yy2⟩:=hy;let⟨tz,zz0,zz1,_⟩:=hz;dsimp only at ty yy0 yy1 yy2 tz zz0 zz1;have yy1:=yy1 (by decide);have hzl:=zz1 (by decide);refine aM zz0 hzl (aS ?_);generalize (geti _ _ z1)=k;refine ax (gy 6 zt tz.p) λv D=>?_
 let⟨v1,vt⟩:=v;have tv:=D.1;dsimp only at tv;have tt:=(ty.trans tz).trans tv;have hadv:t.2<l! t.1->t.2<vt.2:=λh=>by
  have:=yy2 h (by decide);have:=tz.m;have:=tv.m;omega
 refine aU (λx=>x.1=vt/\x.2.1=r0/\x.2.2.1=r1/\x.2.2.2.1=r2/\x.2.2.2.2.1=r3/\x.2.2.2.2.2.1=s/\x.2.2.2.2.2.2.1=w) ?_ ?_
 .refine aU (λx=>x.2.1=vt/\x.2.2.1=r0/\x.2.2.2.1=r1/\x.2.2.2.2.1=r2/\x.2.2.2.2.2.1=r3/\x.2.2.2.2.2.2.1=s/\x.2.2.2.2.2.2.2.1=w) ?_ ?_
  .with_reducible repeat' first|apply OS.ok;constructor|refine IM.mk λ_=>?_
   all_goals exact⟨rfl,rfl,rfl,rfl,rfl,rfl,rfl⟩
  .rintro⟨p,q⟩ hq;dsimp only at hq;with_reducible repeat' first|apply OS.ok;constructor|refine IM.mk λ_=>?_
   all_goals exact hq
 rintro⟨x1,x2,x3,x4,x5,x6,x7,x8,x9,x10⟩ ⟨L,f2,f3,f4,f5,f6,f7⟩;dsimp only at L f2 f3 f4 f5 f6 f7;subst L f2 f3 f4 f5 f6 f7;refine ax (abi _ _ _ tv.p) λo ho=>?_
 let⟨o1,ot⟩:=o;let⟨to,ho⟩:=ho;dsimp only at to ho;refine ax (ab8 _ hs _ _ (λhk=>ho (.inl hk)) _ to.p) λq hq=>?_
 let⟨q1,qt⟩:=q;dsimp only at hq;have N:=(tt.trans to).trans hq;have hadv2:t.2<l! t.1->t.2<qt.2:=λh=>by have:=hadv h;have:=to.m;have:=hq.m;omega
 have row:∀(T:n!) (c:η) {R:Type} (k:η×((η×Int)×η)->M R) (Q:R->Prop),wA t T->l! c<=1000000->(∀v T',wA T T'->l! v<=1000000->Ok (k (v,T',c)) Q)->Ok (aA (gH (T,c)) k) Q:=λT c R k Q A hc hk=>by
  refine ax (ajo T A.p c hc) λy hy=>?_
  let⟨a,b,d⟩:=y;let⟨g1,g2,g3⟩:=hy;dsimp only at g1 g2 g3;subst g3;exact hk a b g2 (by omega)
 refine aU (λx=>wA t x.1/\(t.2<l! t.1->t.2<x.1.2)/\x.2.1=x2/\x.2.2.1=x3/\x.2.2.2.1=x4/\x.2.2.2.2.1=x5/\l! x.2.2.2.2.2.2.2.2.2.2.2<=1000000) ?_ ?_
 .refine aU (λx=>x.2.1=qt/\x.2.2.1=x2/\x.2.2.2.1=x3/\x.2.2.2.2.1=x4/\x.2.2.2.2.2.1=x5) ?_ ?_
  .refine aI (λ_=>aj ⟨rfl,rfl,rfl,rfl,rfl⟩) λ_=>?_
   refine aI (λhk=>?_) λ_=>aI (λhk=>?_) λ_=>aj ⟨rfl,rfl,rfl,rfl,rfl⟩
   .exact aM (ho (.inl hk)).1 (by dsimp only;rw[hw];exact (ho (.inl hk)).2) (aS (aj ⟨rfl,rfl,rfl,rfl,rfl⟩))
   .exact aM (ho (.inr hk)).1 (by dsimp only;rw[hw];exact (ho (.inr hk)).2) (aS (aj ⟨rfl,rfl,rfl,rfl,rfl⟩))
  .rintro⟨b,p1,p2,p3,p4,p5,p6⟩ ⟨L,f2,f3,f4,f5⟩;dsimp only at L f2 f3 f4 f5;subst L f2 f3 f4 f5;refine aN (λ_=>?_) λ_=>aj ⟨N,hadv2,rfl,rfl,rfl,rfl,by simp⟩
   have adv3:∀T',wA p1 T'->t.2<l! t.1->t.2<T'.2:=λT' A h=>by have:=hadv2 h;have:=A.m;omega
   refine aI (λ_=>?_) λ_=>aI (λ_=>?_) λ_=>aI (λ_=>?_) λ_=>aI (λ_=>?_) λ_=>?_
   .refine row p1 p2 _ _ N h0 λv T' A D=>?_
    refine cY (mA rfl (C9 ?_));exact aj ⟨N.trans A,adv3 T' A,rfl,rfl,rfl,rfl,D⟩
   .refine row p1 p3 _ _ N h1 λv T' A D=>?_
    refine cY (mA rfl (C9 ?_));exact aj ⟨N.trans A,adv3 T' A,rfl,rfl,rfl,rfl,D⟩
   .refine row p1 p4 _ _ N h2 λv T' A D=>?_
    refine cY (mA rfl (C9 ?_));exact aj ⟨N.trans A,adv3 T' A,rfl,rfl,rfl,rfl,D⟩
   .refine row p1 p5 _ _ N h3 λv T' A D=>?_
    refine cY (mA rfl (C9 ?_));exact aj ⟨N.trans A,adv3 T' A,rfl,rfl,rfl,rfl,D⟩
   .omega
 rintro⟨u1,u2,u3,u4,u5,u6,u7,u8,u9,u10,u11,u12⟩ ⟨L,f2,f3,f4,f5,f6,f7⟩;dsimp only at L f2 f3 f4 f5 f6 f7;subst f3 f4 f5 f6;refine aU (λx=>wA t x.1/\(t.2<l! t.1->t.2<x.1.2)/\x.2.1=u2/\x.2.2.1=u3/\x.2.2.2.1=u4/\x.2.2.2.2.1=u5/\l! x.2.2.2.2.2.2.2.2.2.2.2.1<=1000000/\l! x.2.2.2.2.2.2.2.2.2.2.2.2<=1000000) ?_ ?_
 .refine aU (λx=>x.2=(u1,u2,u3,u4,u5,u6,u7,u8,u9,u10,u11,u12)) ?_ ?_
  .with_reducible repeat' first|apply OS.ok;constructor|refine IM.mk λ_=>?_
   all_goals rfl
  .rintro⟨b,x⟩ e;dsimp only at e;subst e;refine aN (λ_=>?_) λ_=>aj ⟨L,f2,rfl,rfl,rfl,rfl,f7,by simp⟩
   have adv3:∀T',wA u1 T'->t.2<l! t.1->t.2<T'.2:=λT' A h=>by have:=f2 h;have:=A.m;omega
   refine aI (λ_=>?_) λ_=>aI (λ_=>?_) λ_=>aI (λ_=>?_) λ_=>aI (λ_=>?_) λ_=>?_
   .refine row u1 u2 _ _ L h0 λv T' A D=>?_
    refine cY (mA rfl (C9 ?_));exact aj ⟨L.trans A,adv3 T' A,rfl,rfl,rfl,rfl,f7,D⟩
   .refine row u1 u3 _ _ L h1 λv T' A D=>?_
    refine cY (mA rfl (C9 ?_));exact aj ⟨L.trans A,adv3 T' A,rfl,rfl,rfl,rfl,f7,D⟩
   .refine row u1 u4 _ _ L h2 λv T' A D=>?_
    refine cY (mA rfl (C9 ?_));exact aj ⟨L.trans A,adv3 T' A,rfl,rfl,rfl,rfl,f7,D⟩
   .refine row u1 u5 _ _ L h3 λv T' A D=>?_
    refine cY (mA rfl (C9 ?_));exact aj ⟨L.trans A,adv3 T' A,rfl,rfl,rfl,rfl,f7,D⟩
   .omega
 rintro⟨a1,a2,a3,a4,a5,a6,a7⟩ ⟨g1,g2,g3,g4,g5,g6,g7,g8⟩;dsimp only at g1 g2 g3 g4 g5 g6 g7 g8;subst g3 g4 g5 g6;exact aj ⟨g1,rfl,g2,g7,g8⟩
def EvS (e:ET):Prop:=l! e.2.2.2.2.2.1<=1000000/\l! e.2.2.2.2.2.2<=1000000
def ajz (hm:i<=1000) (s:SN) (hs:SZ i s) (w:WT) (hw:l! w.1=5) (hwt:l! w.2.2.2.2.1=4) (hwc:l! w.2.2.1<=1000) (n:Int) (hn:n<=60) (t:n!) (h:TP t):Ok (tK ((s,w,n,aa),t)) λy=>(∀e∈y.1,EvS e)/\l! y.1<=60:=by
 unfold tK aW bm bF cG ep jW mr nJ Prod.w cg dk ip wE En Prod.B bi bM bX bQ be cQ aG;refine cY (cY (cY (dL (by dsimp only[ak];omega) (dL (dz _) (bt (by dsimp only[ak];omega) (by omega) (ZM (by dsimp only[ak];omega) ?_))))));refine aU (λx=>x=(t,s,w,[],[],[],[])) ⟨_,rfl,rfl⟩ ?_;rintro x rfl;refine rx (λx=>((l! t.1:Int)-x.1.2).toNat) (λx=>wA t x.1/\x.2.2.1=w/\SZ (i+l! x.2.2.2.1) x.2.1/\l! x.2.2.2.1<=60/\(∀e∈x.2.2.2.1,EvS e)/\RB4 (l! x.2.2.2.1) x.2.2.2.2) ?_ ⟨wA.refl h,rfl,(by simpa using hs),by simp,λe he=>(by cases he),⟨by simp,by simp,by simp,by simp⟩⟩;rintro⟨A,s,w',out,r⟩ ⟨i1,i2,N,i4,i5,i6⟩;dsimp only at i1 i2 N i4 i5 i6;subst i2;refine aU (λx=>x.2=(A,s,w',out,r)/\(x.1=J->l! out<60/\A.2<l! A.1)) ?_ ?_
 .refine bL (λh1=>aj ⟨rfl,λh2=>?_⟩) λ_=>aj ⟨rfl,nofun⟩
  rw[pX]at h2;dsimp only[ak]at h1 h2;exact⟨by omega,h2⟩
 rintro⟨b,x⟩ ⟨e,hb⟩;dsimp only at e hb;subst e;refine aN (λh1=>?_) λ_=>aj ⟨i5,i4⟩
 let⟨ho,ht⟩:=hb h1;let⟨q0,q1,q2,q3⟩:=id i6;refine aU (λx=>wA A x.1/\A.2<x.1.2/\x.2.2.1=w'/\SZ (i+l! x.2.2.2.1) x.2.1/\l! x.2.2.2.1<=60/\(∀e∈x.2.2.2.1,EvS e)/\RB4 (l! x.2.2.2.1) x.2.2.2.2) ?_ ?_
 .refine ax (ahb s N w' hw A i1.p r ⟨by omega,by omega,by omega,by omega⟩) λy hy=>?_
  let⟨ev,tp',r'⟩:=y;let⟨j1,j2,j3,L,D⟩:=hy;dsimp only at j1 j2 j3 L D;subst j2;have j3:=j3 ht;refine cY (mA rfl (cY (mA rfl (cY (mA rfl (cY (mA rfl (C9 ?_))))))));refine ax (HI w' s N.nb hwc ev (.inl (by omega)) (.inl (by omega))) λz hz=>?_
  refine em (λ_=>aj ⟨j1,j3,rfl,N,i4,i5,i6⟩) λh2=>?_
  let⟨z1,z2⟩:=z;let⟨hE,hS,_⟩:=hz.1 h2;have hS2:=N.step hS (by omega);refine aU (λx=>x.1=tp'/\x.2.2.1=w'/\x.2.2.2.1=out/\EvS x.2.2.2.2.1/\x.2.2.2.2.2.1=z1/\RB4 (l! out+1) x.2.2.2.2.2.2) ?_ ?_
  .refine aU (λx=>x.2=(tp',s,w',out,ev,z1,r')) ?_ ?_
   .refine aI (λ_=>aj rfl) λ_=>aj rfl
   .rintro⟨b,x⟩ e;dsimp only at e;subst e;have hk:=N.k;let⟨ev1,ev2⟩:=ev;have t0:=hE.t0;have t1:=hE.t1;rw[hwt]at t1;dsimp only at t0 t1;refine aN (λ_=>?_) λ_=>aj ⟨rfl,rfl,rfl,⟨L,D⟩,rfl,⟨by dsimp only;omega,by dsimp only;omega,by dsimp only;omega,by dsimp only;omega⟩⟩
    refine aI (λ_=>?_) λ_=>aI (λ_=>?_) λ_=>aI (λ_=>?_) λ_=>aI (λ_=>?_) λ_=>?_
    .exact aM (by decide) (by dsimp only;omega) (aS (a! (aj ⟨rfl,rfl,rfl,⟨L,D⟩,rfl,⟨by simp;omega,by dsimp only;omega,by dsimp only;omega,by dsimp only;omega⟩⟩)))
    .exact aM (by decide) (by dsimp only;omega) (aS (a! (aj ⟨rfl,rfl,rfl,⟨L,D⟩,rfl,⟨by dsimp only;omega,by simp;omega,by dsimp only;omega,by dsimp only;omega⟩⟩)))
    .exact aM (by decide) (by dsimp only;omega) (aS (a! (aj ⟨rfl,rfl,rfl,⟨L,D⟩,rfl,⟨by dsimp only;omega,by dsimp only;omega,by simp;omega,by dsimp only;omega⟩⟩)))
    .exact aM (by decide) (by dsimp only;omega) (aS (a! (aj ⟨rfl,rfl,rfl,⟨L,D⟩,rfl,⟨by dsimp only;omega,by dsimp only;omega,by dsimp only;omega,by simp;omega⟩⟩)))
    .dsimp only at *;omega
  .rintro⟨x1,x2,x3,x4,x5,x6,x7⟩ ⟨k1,k2,k3,k4,k5,k6⟩;dsimp only at k1 k2 k3 k4 k5 k6;subst k1 k2 k3 k5;refine a! (aj ⟨j1,j3,rfl,?_,by simp;omega,λe he=>?_,?_⟩)
   .dsimp only;rw[bc,bN,<-qH];exact hS2
   .rcases bA.1 he with he|he
    .exact i5 e he
    .rw[aB]at he;subst he;exact k4
   .dsimp only;rw[bc,bN];exact k6
 rintro⟨tp',s',w'',out',r'⟩ ⟨k1,k2,k3,k4,k5,k6,k7⟩;dsimp only at k1 k2 k3 k4 k5 k6 k7;have e1:=i1.e;have a1:=k1.p.a1;have e2:=k1.e;refine aj ⟨⟨i1.trans k1,k3,k4,k5,k6,k7⟩,?_⟩;dsimp only;rw[e2,e1]at a1;omega
def C0:Y (ζ×r?):=[([120],0,0,aa,0),([121],0,0,aa,1),([118],0,0,J,0),([113],0,2,aa,0),([113],1,2,aa,0)]
def I8:Y F!:=[([109],aa),([110],aa),([114],J)]
def NI:Y (ζ×Int):=[([99],0)]
def WI:Y ζ:=[[102]]
def xH:Y ζ:=[[109,97,105,110],[116,49],[116,50],[116,51]]
structure WX (w:WT):Prop where
 c:w.1=C0
 l:w.2.1=I8
 d:w.2.2.1=NI
 f:w.2.2.2.1=WI
 t:∃n,1<=n/\n<=4/\w.2.2.2.2.1=xH.take n
 s:l! w.2.2.2.2.2<=60
 v:SV0 w
structure W0 (w:WT):Prop where
 c:l! w.1=5
 l:l! w.2.1=3
 d:l! w.2.2.1=1
 f:l! w.2.2.2.1=1
 t:l! w.2.2.2.2.1=4
 s:l! w.2.2.2.2.2<=24
 x:WX w
def W0.vl {w:WT} (h:W0 w):VL w:=⟨by rw[h.c];decide,by rw[h.l];decide,by rw[h.d];decide,by rw[h.f];decide,by rw[h.t];decide,by rw[h.t];decide,by have:=h.s;omega⟩
def nxS (i j:Nat):ν:=if j=0 then (if i=0 then (0,0) else ((i:Int)-1,6)) else (i,j)
def Zs {l:Y π} {s:π}:Nz a (l++[s])=W5 a (Nz a l) s:=by unfold Nz;rw[ey];rfl
def Ws:Ok (oT ()) W0:=by
 unfold oT aW bm bF cG ip bM bX cQ aG cN;refine cm 4 (λi x=>x.1=(i:Int)/\x.2.1=C0/\x.2.2.1=I8/\x.2.2.2.1=NI/\x.2.2.2.2.1=WI/\x.2.2.2.2.2.1=xH/\l! x.2.2.2.2.2.2<=6*i/\Nz 4 x.2.2.2.2.2.2=Z (nxS i 0)) ?_ ?_ ⟨rfl,rfl,rfl,rfl,rfl,rfl,by simp,rfl⟩
 .rintro i ⟨a,w1,w2,w3,w4,w5,w6⟩ hi ⟨e1,e2,e3,e4,N,z,e7,L⟩;dsimp only at e1 e2 e3 e4 N z e7 L;subst e1;have hl5:l! w5=4:=by rw[z];rfl
  refine bL (λ_=>?_) λg=>(by dsimp only[ak]at g;simp at g;omega)
  refine cm 6 (λj x=>x.1=(j:Int)/\x.2.1=w1/\x.2.2.1=w2/\x.2.2.2.1=w3/\x.2.2.2.2.1=w4/\x.2.2.2.2.2.1=w5/\l! x.2.2.2.2.2.2<=6*i+j/\Nz 4 x.2.2.2.2.2.2=Z (nxS i j)) ?_ ?_ ⟨rfl,rfl,rfl,rfl,rfl,rfl,by dsimp only;omega,L⟩
  .rintro j ⟨b,v1,v2,v3,v4,v5,v6⟩ hj ⟨d1,d2,d3,d4,d5,d6,d7,d8⟩;dsimp only at d1 d2 d3 d4 d5 d6 d7 d8;subst d1;refine du ?_;refine a! (aj ?_);dsimp only;refine ⟨gQ,d2,d3,d4,d5,d6,by simp;omega,?_⟩;rw[Zs,d8];by_cases A:j=0
   .subst A;by_cases D:i=0
    .subst D;rfl
    .rw[show nxS i 0=((i:Int)-1,6) by unfold nxS;simp[D],show nxS i (0+1)=((i:Int),1) by unfold nxS;simp];unfold W5;dsimp only;rw[av (λh=>by have:=h.1;omega),aD ⟨by omega,by omega,rfl⟩]
   .rw[show nxS i j=((i:Int),(j:Int)) by unfold nxS;simp[A],show nxS i (j+1)=((i:Int),(j:Int)+1) by unfold nxS;simp];unfold W5;dsimp only;rw[aD ⟨rfl,rfl⟩]
  .rintro⟨b,v1,v2,v3,v4,v5,v6⟩ ⟨d1,d2,d3,d4,d5,d6,d7,d8⟩;dsimp only at d1 d2 d3 d4 d5 d6 d7 d8;subst d1 d2 d3 d4 d5 d6;refine dg (aj ?_);dsimp only;refine ⟨gQ,e2,e3,e4,N,z,by omega,?_⟩;rw[d8];unfold nxS;simp
 .rintro⟨a,w1,w2,w3,w4,w5,w6⟩ ⟨e1,e2,e3,e4,N,z,e7,L⟩;dsimp only at e1 e2 e3 e4 N z e7 L;subst e1 e2 e3 e4 N z;refine bL (λg=>(by dsimp only[ak]at g;simp[xH]at g)) λ_=>aj ?_
  refine ⟨rfl,rfl,rfl,rfl,rfl,by dsimp only;omega,rfl,rfl,rfl,rfl,⟨4,by decide,by decide,rfl⟩,by dsimp only;omega,?_⟩;unfold SV0;show Nz 4 w6≠U;rw[L];simp
variable {j:Nat}
def SZ.mono {s:SN} (h:SZ i s) (hnm:i<=j) (hm:j<=100000):SZ j s:=
 ⟨⟨⟨hm,h.nb.sb.lk,λl z=>c4 (h.nb.sb.rd l z) hnm,h.nb.sb.dn,h.nb.sb.th⟩,h.nb.c,h.nb.f,h.nb.k⟩,h.c,h.f,h.k⟩
def Y_ (w:WT) (z:W0 w):Ok (oe w) λs=>SZ 0 s:=by
 refine (Y' w z.vl).mono λs A=>⟨A.1,?_,?_,?_⟩
 .rw[A.2.1,z.c]
 .rw[A.2.2.1,z.f]
 .rw[A.2.2.2,z.t]
structure WB (w:WT):Prop where
 c:l! w.1<=12
 l:l! w.2.1<=4
 d:l! w.2.2.1<=2
 f:l! w.2.2.2.1<=2
 t:l! w.2.2.2.2.1<=4
 s:l! w.2.2.2.2.2<=60
def VL.wb {w:WT} (h:VL w):WB w:=⟨h.c,h.l,h.d,h.f,h.t,h.s⟩
structure TR (y:WT×List ET):Prop where
 wb:WB y.1
 vl:VL y.1
 ev:∀e∈y.2,SH y.1 e
 len:l! y.2<=400
 ls:∀e∈y.2,EvS e
 wx:WX y.1
 ac:∃sy ce fu,Acw y.1 y.2 sy ce fu
def Kz (L:η) (n:Int) (hl:l! L<=9223372036854775807) (hb:∀x∈L,0<=x/\x<=255):Ok (rH (L,n)) TR:=by
 unfold rH aW bm bF dE dk bM j_ iE bX jY be cQ aG cN;refine aU (λx=>l! x<=600/\∀z∈x,0<=z/\z<=255) ?_ ?_
 .refine bL (λg=>?_) λg=>?_
  .dsimp only[ak]at g;refine cY (a? (a? (aj ⟨by dsimp only;rw[bR];simp;omega,λz A=>hb z (jU A)⟩)))
  .dsimp only[ak]at g;exact aj ⟨by dsimp only;omega,hb⟩
 rintro L' ⟨hL,hB⟩;refine ax Ws λw D=>?_
 have hvl:=D.vl;refine ax (Y_ w D) λs hs=>?_
 refine ax (gy 3 (L',0) ⟨by dsimp only;omega,hB,by dsimp only;omega,by dsimp only;omega⟩) λy hy=>?_
 let⟨y1,yt⟩:=y;let⟨ty,yy0,yy1,_⟩:=hy;have yy1:=yy1 (by decide);dsimp only at ty yy0 yy1;have ew:bl .i64 (1+y1)=1+y1:=iQ;refine rx (λx=>(1+y1+1-x.1).toNat) (λx=>1<=x.1/\x.1<=2+y1/\x.2.1=yt/\x.2.2.1=w/\x.2.2.2.1=s/\((l! x.2.2.2.2:Nat):Int)<=2*x.1/\∀e∈x.2.2.2.2,EvS e) ?_ ⟨by dsimp only;omega,by dsimp only;omega,rfl,rfl,rfl,by simp,λe he=>?_⟩
 .rintro⟨a,t,w',s',es⟩ ⟨e1,e2,e3,e4,e5,e6,e7⟩;dsimp only at e1 e2 e3 e4 e5 e6 e7;subst e3 e4 e5;refine fc (λg=>?_) λg=>?_
  .dsimp only at g;rw[ew]at g;refine a! (aj ?_);dsimp only;rw[iQ (n:=a+1) (by omega) (by omega)];refine ⟨⟨by omega,by omega,rfl,rfl,rfl,by simp;omega,λe he=>?_⟩,by omega⟩;rcases bA.1 he with he|he
   .exact e7 e he
   .simp only[aZ,cw,fF]at he;rcases he with he|he<;>subst he<;>exact⟨by simp,by simp⟩
  .refine ax (P:=TR) ?_ λr hr=>aj hr
   refine cm (l! es) (λi x=>x.1=(i:Int)/\TP x.2.1/\x.2.2.1=w'/\SZ i x.2.2.2.1/\x.2.2.2.2.1=es/\l! x.2.2.2.2.2<=i/\∀e∈x.2.2.2.2.2,EvS e) ?_ ?_ ⟨rfl,ty.p,rfl,hs,rfl,by simp,λe he=>(by cases he)⟩
   .rintro i ⟨b,t,w',s',es',out⟩ hi ⟨d1,d2,d3,N,d5,d6,d7⟩;dsimp only at d1 d2 d3 N d5 d6 d7;subst d1 d3 d5;refine du ?_;refine aU (λx=>TP x.1/\x.2.1=w'/\SZ (i+1) x.2.2.1/\x.2.2.2.1=es'/\l! x.2.2.2.2<=i+1/\∀e∈x.2.2.2.2,EvS e) ?_ ?_
    .refine cu (cu (aS ?_));have A:=e7 _ (bP (T:=.st (.pr (.int .i64) (.pr (.int .i64) (.pr (.int .i64) (.pr (.int .i64) (.pr (.int .i64) (.pr (.sl (.int .i64)) (.sl (.int .i64))))))))) (xs:=es') (j:=(i:Int)) (by omega) (by omega));revert A;generalize (geti _ _ _)=z;intro A;refine ax (HI w' s' N.nb (by rw[D.d];decide) z (.inl (by have:=A.1;omega)) (.inl (by have:=A.2;omega))) λv hv=>?_
     refine aN (λh=>?_) λh=>aj ⟨d2,rfl,N.mono (by omega) (by omega),rfl,by dsimp only;omega,d7⟩
     refine a! (aj ⟨d2,rfl,N.step (hv.1 h).2.1 (by omega),rfl,by simp;omega,λe he=>?_⟩);rcases bA.1 he with he|he
     .exact d7 e he
     .rw[aB]at he;subst he;exact A
    .rintro⟨t,w'',s'',es'',out'⟩ ⟨f1,f2,f3,f4,f5,f6⟩;dsimp only at f1 f2 f3 f4 f5 f6;refine aj ?_;dsimp only;exact⟨gQ,f1,f2,f3,f4,f5,f6⟩
   .rintro⟨b,t,w',s',es',out⟩ ⟨d1,d2,d3,N,d5,d6,d7⟩;dsimp only at d1 d2 d3 N d5 d6 d7;subst d1 d3 d5;refine dg ?_;refine ax (P:=TR) ?_ λr hr=>aj hr
    have hmin:Jm (mH n 0) 60<=60:=by
     unfold Jm;split
     .omega
     next h=>simp[fK]at h;exact h
    refine ax (ajz (by omega) s' N w' D.c D.t (by rw[D.d];decide) _ hmin t d2) λv hv=>?_
    refine bt (by have:=hv.2;dsimp only;omega) (by omega) ?_;have hall:∀e∈out++v.1,EvS e:=λe he=>by
     rcases bA.1 he with he|he
     .exact d7 e he
     .exact hv.1 e he
    refine ax (aj4 w' (out++v.1)) λc hc=>?_
    refine ch (λ_=>?_) λh=>?_
    .exact ax Ws λu hu=>aj ⟨hu.vl.wb,hu.vl,λe he=>(by cases he),by simp,λe he=>(by cases he),hu.x,_,_,_,.nil⟩
    .exact aj ⟨(hc h).1.1.wb,(hc h).1.1,(hc h).2.1,by have:=hv.2;simp;omega,hall,D.x,(hc h).2.2⟩
 .rw[aB]at he;subst he;exact⟨by simp,by simp⟩
def ajv {rows:Y θ} (L:0<=a) (D:a<l! rows) (h1:∀y∈e.2.2.2.2.2.1,0<=y/\(qY (T:=.bool) rows a).getD y.toNat aa=J) (h2:∀y∈e.2.2.2.2.2.2,0<=y/\(qY (T:=.bool) rows a).getD y.toNat aa=J) (ld:l! e.2.2.2.2.2.1<=1000000) (N:l! e.2.2.2.2.2.2<=1000000):eu (((a,aQ (l! (qY (T:=.bool) rows a))),e),rows)=Z (J,rows):=by
 refine cz ?_;unfold eu kO ep wE bM j_ nh bX bQ be cQ aG cN;refine iy 2 (by omega) (λi x=>x=(((a,aQ (l! (qY (T:=.bool) rows a))),(i:Int)),rows)) ?_ ?_ rfl
 .rintro i x hi rfl;refine bL (λ_=>?_) λg=>(by dsimp only at g;omega)
  refine cY (a? (Cg (by dsimp only;omega) (aS ?_)));have hr:∃l:η,geti (.sl aL) [e.2.2.2.2.2.1,e.2.2.2.2.2.2] (i:Int)=l/\(∀y∈l,0<=y/\(qY (T:=.bool) rows a).getD y.toNat aa=J)/\l! l<=1000000:=by
   match i,hi with
   |0,_=>exact⟨_,rfl,h1,ld⟩
   |1,_=>exact⟨_,rfl,h2,N⟩
  let⟨l,er,hA,hl⟩:=hr;dsimp only;rw[er];generalize hR:qY (T:=.bool) rows a=r at*
  refine iy (l! l) (by omega) (λj x=>x=(((a,aQ (l! r)),(j:Int)),rows)) ?_ ?_ rfl
  .rintro j x hj rfl;refine du ?_;have m:=hA _ (bP (T:=aL) (xs:=l) (j:=(j:Int)) (by omega) (by omega));refine cu (aS (aU (λx=>x=(((a,aQ (l! r)),aa),rows)) ?_ ?_))
   .obtain⟨z,hze⟩:∃z:Int,geti aL l (j:Int)=z:=⟨_,rfl⟩
    have m:0<=z/\r.getD z.toNat aa=J:=by rw[<- hze];exact m
    dsimp only;rw[hze];have hz:z.toNat<l! r:=by
     rcases bG z.toNat (l! r) with g|g
     .exact g
     .have:=m.2;rw[aw,c5 g]at this;cases this
    have A:(0:Int)<=z:=m.1;have hzi:(z:Int)<(l! r:Int):=by omega
    refine bL (λg=>b8 A (Ny.2 g)) λ_=>fc (λg=>b8 hzi (Ei.2 g)) λ_=>aM A hzi (aM L D ?_)
    rw[hR];refine aM A hzi (aS (aj ?_));have:geti (.bool) r z=J:=m.2;dsimp only;rw[this];rfl
   rintro x rfl;refine iT (aj ?_);dsimp only;rw[gQ];rfl
  .rintro x rfl;refine dg (aj ?_);dsimp only;rw[gQ];rfl
 .rintro x rfl;exact bL (λg=>(by dsimp only at g;omega)) λ_=>aj rfl
abbrev W8 (n:Nat) (s:Y π):WT:=(C0,I8,NI,WI,xH.take n,s)
def WX.w8 {w:WT} (N:WX w):∃n,(n=1\/n=2\/n=3\/n=4)/\w=W8 n w.2.2.2.2.2:=by
 let⟨h1,L,D,A,⟨n,n1,n4,z⟩,_,_⟩:=N;let⟨c,l,d,f,t,s⟩:=w;dsimp only at h1 L D A z;subst h1 L D A z;exact⟨n,by omega,rfl⟩
abbrev sn8 (w:WT):SN:=(SK w,ce0 w,fu0 w,aF (l! w.2.2.2.2.1) 0)
def Ku (s:Y π):eS (W8 1 s)=Z (sn8 (W8 1 s)):=by kernel_rfl
def st2 (s:Y π):eS (W8 2 s)=Z (sn8 (W8 2 s)):=by kernel_rfl
def st3 (s:Y π):eS (W8 3 s)=Z (sn8 (W8 3 s)):=by kernel_rfl
def st4 (s:Y π):eS (W8 4 s)=Z (sn8 (W8 4 s)):=by kernel_rfl
def aq8 {w:WT} (z:WX w):eS w=Z (sn8 w):=by
 let⟨n,A,e⟩:=z.w8;rw[e];rcases A with rfl|rfl|rfl|rfl
 .exact Ku _
 .exact st2 _
 .exact st3 _
 .exact st4 _
abbrev VN4:Y ζ:=[[120],[121],[118],[113]]
def vc8:hY C0=Z (VN4,J):=by kernel_rfl
def vn1 (s:Y π):dT (W8 1 s,VN4)=Z J:=by kernel_rfl
def vn2 (s:Y π):dT (W8 2 s,VN4)=Z J:=by kernel_rfl
def vn3 (s:Y π):dT (W8 3 s,VN4)=Z J:=by kernel_rfl
def vn4 (s:Y π):dT (W8 4 s,VN4)=Z J:=by kernel_rfl
def vs8 {w:WT} (N:WX w) (hb:VL w):gd w=Z J:=by
 have hv:=N.v;have hs:=N.s;have ht:=hb.t0;unfold SV0 at hv;refine cz ?_;unfold gd lQ aW bm cG dk bM iE bQ be cQ aG cN;refine iy (l! w.2.2.2.2.2) (by omega) (λi x=>∃t n:Int,x=((t,n,(i:Int)),w)/\Nz (l! w.2.2.2.2.1) (w.2.2.2.2.2.take i)=Z (t,n)/\0<=t/\t<l! w.2.2.2.2.1/\0<=n/\n<=i) ?_ ?_ ⟨0,0,rfl,rfl,by omega,by omega,by omega,by omega⟩
 .rintro i x hi ⟨t,n,rfl,h1,t0,t1,n0,n1⟩;refine du ?_;refine cu (aS ?_);have A:=Zr hv (i+1);have D:Nz (l! w.2.2.2.2.1) (w.2.2.2.2.2.take (i+1))=W5 (l! w.2.2.2.2.1) (Z (t,n)) (geti pO w.2.2.2.2.2 (i:Int)):=by rw[Kx hi,h1]
  rw[D]at A;dsimp only;revert A D;change _->_->Ok _ _;generalize geti pO w.2.2.2.2.2 (i:Int)=z;intro A D;obtain⟨(a:Int),(b:Int),(c:Int)⟩:=z;have h5:(a=t/\b=n)\/(t<a/\a<l! w.2.2.2.2.1/\b=0):=by
   simp only[W5]at A;split at A
   next h=>exact .inl h
   .split at A
    next h=>exact .inr h
    .exact (A rfl).elim
  refine aU (λx=>x=(aa,w,a,b,c)) ?_ ?_
  .refine dg (aj ?_);dsimp only;rw[mX.2 (by dsimp only[ak];omega)]
  rintro x rfl;refine iT ?_;rcases h5 with ⟨rfl,rfl⟩|⟨q1,L,rfl⟩
  .refine aU (λx=>x=((a,b),w,a,b,c)) (dg (aj rfl)) ?_;rintro x rfl;refine ch (λg=>(g rfl).elim) λ_=>aj ⟨a,b+1,?_,?_,t0,t1,by omega,by omega⟩
   .dsimp only;rw[iQ (n:=b+1) (by omega) (by omega),gQ]
   .rw[D];simp[W5]
  .refine aU (λx=>x=((a,0),w,a,0,c)) (du (aj rfl)) ?_;rintro x rfl;refine ch (λg=>(g rfl).elim) λ_=>aj ⟨a,1,?_,?_,by omega,L,by omega,by omega⟩
   .dsimp only;rw[iQ (n:=0+1) (by omega) (by omega),gQ];rfl
   .rw[D];show (if a=t/\(0:Int)=n then Z (t,n+1) else if t<a/\a<_/\(0:Int)=0 then Z (a,1) else U)=Z (a,1);rw[av (by omega),aD ⟨q1,L,rfl⟩]
 .rintro x ⟨t,n,rfl,_⟩;exact dg (aj rfl)
def VW8 {w:WT} (D:WX w) (hb:VL w):gf w=Z J:=by
 have hs:=vs8 D hb;have hvn:dT (w,VN4)=Z J:=by
  let⟨n,hn,e⟩:=D.w8;rw[e];rcases hn with rfl|rfl|rfl|rfl
  .exact vn1 _
  .exact vn2 _
  .exact vn3 _
  .exact vn4 _
 have hc:=D.c;have hd:=D.d;have N:=D.l;let⟨w1,w2,w3,L,A,z⟩:=w;let⟨b1,b2,b3,b4,b0,b5,b6⟩:=hb;dsimp only at hc hd N b1 b2 b3 b4 b5 b6 b0;subst hc hd N;refine cz ?_;unfold gf lR aW bm cG dk bM bQ be cQ aG cN;have f:∀n m:Nat,n<=m->fK (m:Int) (aQ n)=aa:=λn m h=>g9.2 (by dsimp only[ak];omega)
 refine aU (λx=>x=(aa,C0,I8,NI,L,A,z)) ?_ ?_
 .refine gB rfl (gB rfl (gB rfl (gB (f _ 2 b4) (aj ?_))));rw[show fK 60 (aQ (ah z))=aa from f _ 60 b6]
 rintro x rfl;refine iT (aU (λx=>x=(aa,C0,I8,NI,L,A,z)) ?_ ?_)
 .refine gB (g9.2 (by dsimp only[ak];omega)) (aj ?_);rw[show fK 4 (aQ (ah A))=aa from f _ 4 b5]
 rintro x rfl;refine iT (aT vc8 (aU (λx=>x=(aa,C0,I8,NI,L,A,z)) ?_ ?_))
 .exact iT (aT hvn (aj rfl))
 rintro x rfl;refine iT (iy 1 (by omega) (λi x=>x=((i:Int),C0,I8,NI,L,A,z)) ?_ ?_ rfl)
 .rintro i x hi rfl;have:i=0:=by omega
  subst this;refine fO rfl (a8 rfl (aS (aT (x:=J) ?_ (iT (aj rfl)))));rfl
 .rintro x rfl;exact gB rfl (aT (x:=J) (by rw[hs];rfl) (aj rfl))
abbrev eN (l:Y ET) (i:Nat):ET:=geti iC l (i:Int)
def zK (h:i<l! L):eN L i∈L:=bP (T:=iC) (by omega) (by omega)
def aph (h:i<l! L):eN (L++[e]) i=eN L i:=by
 unfold eN;rw[xu,xu,aw,aw,bC h]
def al9 (l:Y ET) (e:ET):eN (l++[e]) (l! l)=e:=by
 unfold eN;rw[xu,aw,bS (bO _),wG];rfl
def Qt (w:WT) (l:Y ET):SY×A?:=l.foldl (λs e=>((uv w s.1 e.1 e.2.1 e.2.2.1 e.2.2.2.1).1,ceP s.2.1 e,fuP s.2.2 e)) (SK w,ce0 w,fu0 w)
def Wp (w:WT) (h:i<l! L):Qt w (L.take (i+1))=((uv w (Qt w (L.take i)).1 (eN L i).1 (eN L i).2.1 (eN L i).2.2.1 (eN L i).2.2.2.1).1,ceP (Qt w (L.take i)).2.1 (eN L i),fuP (Qt w (L.take i)).2.2 (eN L i)):=by
 rw[pA (T:=iC) h];unfold Qt;rw[ey];rfl
def Acw.all {w:WT} {D:SY} {A:η} (h:Acw w L D z A):Qt w L=(D,z,A)/\∀i,i<l! L->SCx w (L.take i) (Qt w (L.take i)).1 (Qt w (L.take i)).2.1 (Qt w (L.take i)).2.2 (eN L i):=by
 induction h with
 |nil=>exact⟨rfl,λi hi=>b8 hi (h_ _)⟩
 |snoc h N l=>
  rename_i L D z A e;let⟨h1,h2⟩:=l;refine ⟨by unfold Qt at h1 ⊢;rw[ey,h1];rfl,λi hi=>?_⟩;rw[bc,bN]at hi;rcases bG i (l! L) with g|g
  .rw[sI (by omega),aph g];exact h2 i g
  .have:i=l! L:=by omega
   subst this;rw[sI (bO _),cv,al9,h1];exact N
def TR.sc {w:WT} (z:TR (w,L)) (h:i<l! L):SCx w (L.take i) (Qt w (L.take i)).1 (Qt w (L.take i)).2.1 (Qt w (L.take i)).2.2 (eN L i):=by
 let⟨A,l,D,ac⟩:=z.ac;exact ac.all.2 i h
def Q8 (r:η):Prop:=JS r/\∀z∈r,0<=z/\z<4
def P8 (s:Y k!):Prop:=∀x∈s,Q8 x.2
def P8.get {s:Y k!} (h:P8 s) (o:Int):Q8 (geti dQ s o).2:=by
 unfold geti;rw[aw];cases e:s[o.toNat]? with
 |none=>exact⟨trivial,λz A=>by cases A⟩
 |some x=>exact h x (aY e)
def P8.set {s:Y k!} (h:P8 s) (o a:Int) (A:Q8 z):P8 (cH s o (a,z)):=λx r=>by
 rcases EB r with r|rfl
 .exact h x r
 .exact A
def Ed (p:Int->Bool):∀{l:η},JS l->JS (l.filter p)
 |[],_=>trivial
 |x::r,h=>by
  rw[List.filter_cons];split
  .exact⟨λy z=>h.1 y ((List.mem_filter.1 z).1),Ed p h.2⟩
  .exact Ed p h.2
def P8.ite {c:Prop} [Decidable c] {a b:SY×Int} (A:P8 a.1.1) (z:P8 b.1.1):P8 (if c then a else b).1.1:=by by_cases h:c<;>simp[h,A,z]
def P8.ap {w:WT} {s:SY} (h:P8 s.1) (k o v:Int) (L:0<=a) (D:a<4):P8 (uv w s a k o v).1.1:=by
 have ow:∀t b,P8 (XA s.1 t b):=λt b=>h.set t b (h.get t)
 have un:P8 (rdP s.1 o (xI (geti dQ s.1 o).2 [a])):=h.set _ _ ⟨S6 _ _,λz A=>by
  rcases AQ.1 A with A|A
  .exact (h.get o).2 z A
  .rw[aB]at A;subst A;exact⟨L,D⟩⟩
 have wt:P8 (rdP s.1 o (wo (geti dQ s.1 o).2 a)):=h.set _ _ ⟨Ed _ (h.get o).1,λz A=>(h.get o).2 z (List.mem_filter.1 A).1⟩;unfold uv;exact P8.ite h (P8.ite h (P8.ite (ow _ _) (P8.ite (ow _ _) (P8.ite un (P8.ite wt (P8.ite h (P8.ite h (P8.ite h (P8.ite h (P8.ite (ow _ _) (P8.ite (ow _ _) (P8.ite (P8.ite h h) (P8.ite h (P8.ite h (P8.ite h h)))))))))))))))
def DL (w:WT) (l:Y ET):SN:=l.foldl (nxP w) (sn8 w)
def Pj (w:WT) (h:i<l! L):DL w (L.take (i+1))=nxP w (DL w (L.take i)) (eN L i):=by
 rw[pA (T:=iC) h];unfold DL;rw[ey];rfl
structure K8 (w:WT) (l:List ET) (i:Nat) (s:SN):Prop where
 a:(s.1,s.2.1,s.2.2.1)=Qt w (l.take i)
 r:P8 s.1.1
 c:l! s.2.1=l! w.1
 f:l! s.2.2.1=l! w.2.2.2.1
 k:l! s.2.2.2=l! w.2.2.2.2.1
 n:CN (l.take i) s.2.2.2
def Zo {w:WT} (A:TR (w,L)):∀i:Nat,i<=l! L->K8 w L i (DL w (L.take i))
 |0,_=>⟨rfl,λx l=>by rw[yP l];exact⟨trivial,λz D=>by cases D⟩,by simp[DL,ce0],by simp[DL,fu0],by simp[DL],λt t0 t1=>by
   have:(aF (l! w.2.2.2.2.1) (0:Int)).getD t.toNat 0=0:=by rw[aw,eV];split<;>rfl
   exact this⟩
 |i+1,h=>by
  let⟨a,r,c,f,k,n⟩:=Zo A i (by omega);have sc:=A.sc (i:=i) (by omega);have N:=A.len;have ht:=A.wb.t;dsimp only at N ht;have en:=sc.en;have e1:=en.t1;have htk:=m_ i L;rw[Pj w (by omega)];refine ⟨?_,r.ap _ _ _ en.t0 (by omega),?_,?_,?_,?_⟩
  .rw[Wp w (by omega),<-a];rfl
  .unfold nxP ceP;dsimp only;split
   .rw[b7];exact c
   .exact c
  .unfold nxP fuP;dsimp only;split
   .rw[b7];exact f
   .exact f
  .unfold nxP;rw[b7];exact k
  .have:=n.next (eN L i) en.t0 (by rw[k];exact e1) (by omega);rw[pA (T:=iC) (show i<l! L by omega)];exact this
def aot {w:WT} (z:TR (w,L)) (hi:i<l! L):kq (w,DL w (L.take i),eN L i)=Z (DL w (L.take (i+1)),J):=by
 let⟨a,r,c,f,k,n⟩:=Zo z i (by omega);have sc:=z.sc hi;have D:=z.wx;have ht:=z.wb.t;have hls:=z.ls _ (zK hi);dsimp only at D ht hls;rw[Pj w hi];rw[<- a]at sc;generalize DL w (L.take i)=s at*
 generalize eN L i=e at*
 have en:=sc.en;have e1:=en.t1;have l3:l! w.2.1=3:=by rw[D.l];rfl
 have N:=n e.1 en.t0 (by rw[k];exact e1);have b1:=z.wb.c;have b4:=z.wb.f;have b3:=z.wb.d;dsimp only at b1 b4 b3;have q1:=en.e1;have q2:=en.e2;have q3:=en.e3;dsimp only at q1 q2 q3;refine atz (n:=4) w s e ⟨⟨by omega,by omega,λx hx=>?_,by omega,by omega⟩,by omega,by omega,by omega⟩ (by omega) (by omega) ⟨c,f,k⟩ en ⟨sc.rd,sc.s1,sc.s2,sc.de,sc.fr,by rw[N];exact sc.nd,by rw[N];exact sc.nf,sc.va⟩ hls.1 hls.2 (λh=>?_) (by omega) r (by omega)
 .have:=Kk x.2 0 4 (r x hx).1 (r x hx).2;omega
 .have l:=en.nm.lk (by omega);have A:=en.nm.rw (by omega);generalize e.2.2.1=o at l A;rw[D.l]at l A;have:o=0\/o=1\/o=2:=by have:I8.length=3:=rfl;omega
  rcases this with rfl|rfl|rfl
  .cases A
  .cases A
  .rfl
abbrev fN (l:Y ET) (i:Nat) (t:Int):θ:=fl (l.take i) t
def ape (h:i<l! L) (e:(eN L i).1=a):fN L (i+1) a=fN L i a++[rdE (eN L i)]:=by
 unfold fN;rw[pA (T:=iC) h,vX,Bt e]
def aha (h:i<l! L) (e:¬(eN L i).1=a):fN L (i+1) a=fN L i a:=by
 unfold fN;rw[pA (T:=iC) h,vX,ym e,jB]
def apf (l:Y ET) (i:Nat) (t:Int):l! (fN l i t)<=l! l:=c4 (UW _ _) (List.length_take_le' ..)
structure RwB (w:WT) (l:List ET) (i:Nat) (lens:η) (rows:List θ):Prop where
 ll:l! lens=l! w.2.2.2.2.1
 lr:l! rows=l! w.2.2.2.2.1
 r:∀u:Nat,u<l! w.2.2.2.2.1->rows.getD u []=fN l i (u:Int)
 n:∀u:Nat,u<l! w.2.2.2.2.1->lens.getD u 0=aQ (l! (fN l i (u:Int)))
def RwB.zero (w:WT) (l:Y ET):RwB w l 0 (aF (l! w.2.2.2.2.1) 0) (aF (l! w.2.2.2.2.1) []):=by
 refine ⟨cL ..,cL ..,λu z=>?_,λu z=>?_⟩
 .rw[aw,eV,aD z];rfl
 .rw[aw,eV,aD z];rfl
variable {b:Bool}
def RwB.next {w:WT} (hi:i<l! L) {rows:Y θ} (h:RwB w L i z rows) (D:0<=a) (t1:a<l! w.2.2.2.2.1) (et:(eN L i).1=a) (l:rdE (eN L i)=b):RwB w L (i+1) (pR z (aO a) (aQ (ah (qY (T:=.bool) rows a++[b])))) (vu (T:=.bool) (vu (T:=.bool) rows a []) a (qY (T:=.bool) rows a++[b])):=by
 let⟨h1,h2,A,N⟩:=h;have er:qY (T:=.bool) rows a=fN L i a:=by
  have:=A a.toNat (by omega);rw[Int.toNat_of_nonneg D]at this;exact this
 have own:=ape hi et;rw[l,<-er]at own;refine ⟨by rw[dV,h1],by unfold vu;rw[dV,dV,h2],λu lens=>?_,λu lens=>?_⟩
 .unfold vu;rw[aw,dG];by_cases e:a.toNat=u
  .rw[aD e,dV,aD (by omega)];have e':(u:Int)=a:=by omega
   rw[e',own];rfl
  .rw[av e,dG,av e,<-aw,A u lens,aha hi (by omega)]
 .rw[aw,dG];by_cases e:a.toNat=u
  .rw[aD e,aD (by omega)];have e':(u:Int)=a:=by omega
   rw[e',own];rfl
  .rw[av e,<-aw,N u lens,aha hi (by omega)]
def arw {w:WT} (z:TR (w,L)):gh (w,L)=Z (0,0):=by
 have hl:l! L<=400:=z.len;have hT:l! w.2.2.2.2.1<=4:=z.wb.t;refine cz ?_;unfold gh nM aW bm bF cG dE ip ck bi bM nh bX bQ be cQ aG cN;refine gB (g9.2 (by dsimp only[ak];omega)) (aT (VW8 z.wx z.vl) (iT (aT (aq8 z.wx) ?_)));refine cY (cY (dL (by dsimp only[ak];omega) (a? (bt (by simp only[ak,bD];omega) (by omega) ?_))));refine iy (l! L) (by omega) (λi x=>∃lens rows,x=((i:Int),(w,L),DL w (L.take i),lens,rows)/\RwB w L i lens rows) ?_ ?_ ⟨_,_,by simp only[ak,bD];rfl,RwB.zero w L⟩
 .rintro i x hi ⟨lens,rows,rfl,A⟩;have sc:=z.sc hi;have e1:=sc.en.t1;have e0:=sc.en.t0;have st:=aot z hi;have hls:=z.ls _ (zK hi);have fa:=apf L i (eN L i).1;have N:(eN L i).1=(((eN L i).1.toNat:Nat):Int):=by omega
  have D:qY (T:=.bool) rows (eN L i).1=fN L i (eN L i).1:=by
   have:=A.r (eN L i).1.toNat (by omega);rw[<- N]at this;exact this
  have en:aO (sw lens (eN L i).1)=l! (qY (T:=.bool) rows (eN L i).1):=by
   have:=A.n (eN L i).1.toNat (by omega);rw[<- N,<-D]at this;unfold sw;rw[this];rfl
  have rd:eu (((((eN L i).1,aQ (l! (qY (T:=.bool) rows (eN L i).1))),eN L i),rows))=Z (J,rows):=by
   refine ajv e0 (by rw[A.lr];exact e1) ?_ ?_ hls.1 hls.2
   .rw[D];exact sc.rd1
   .rw[D];exact sc.rd2
  have nx:=λb=>A.next hi e0 e1 rfl (b:=b)
  have l1:=A.ll;have l2:=A.lr;refine du (cu (aS ?_));have hg:geti iC L (i:Int)=eN L i:=rfl;dsimp only;rw[hg];rw[<- D]at fa;clear sc hls D N;generalize eN L i=e at*
  refine aT st ?_;refine aU (λx=>x=(aa,(w,L),DL w (L.take i),lens,e,DL w (L.take (i+1)),rows)) ?_ ?_
  .refine iT (cu (cu ?_));dsimp only;rw[en];exact aT rd (aj rfl)
  rintro x rfl;refine iT (aU (λx=>∃lens' rows',x=((w,L),DL w (L.take i),lens',DL w (L.take (i+1)),rows')/\RwB w L (i+1) lens' rows') ?_ ?_)
  .refine cu (cu ?_);dsimp only;rw[en];refine aI (λh=>cu (cY (a8 (fm _) (bt (by rw[bN];omega) (by omega) (cu (cu (aj ⟨_,_,rfl,nx _ ?_⟩))))))) λh=>cu (cY (a8 (fm _) (bt (by rw[bN];omega) (by omega) (cu (cu (aj ⟨_,_,rfl,nx _ ?_⟩))))))
   .unfold rdE;rw[aR h];rfl
   .unfold rdE;rw[cD h];rfl
  rintro x ⟨lens',rows',rfl,l⟩;refine aj ⟨lens',rows',?_,l⟩;dsimp only;rw[gQ]
 .rintro x ⟨lens,rows,rfl,_⟩;exact dg (aj rfl)
abbrev lL:Ty:=(.pr aL (.pr aL aiz))
abbrev Xb:Ty:=(.st (.pr aL aiz))
abbrev Ke2:Ty:=(.st (.pr Gd (.pr Gd Gd)))
abbrev zU:=((Int×Int×Int×Int×Bool)×(Y (Int×Bool))×Y (Int×Bool))
abbrev AM:=(Y d?)
abbrev W9:=(Int×e?)
abbrev xx:=(Y ν)
abbrev b!:=(eC×Y im)×(Y η)×xx×(η)×(η)×(η)×(η)×(η)×(η)×AM×(η)×(Y zU)×(Y η)×Y η
abbrev Ye4:=b!
abbrev d!:=(eC×Y im)×(Y η)×xx×(η)×(η)×(η)×(η)×(η)×(η)×AM×(η)×(Y zU)×(Y η)×(Y η)×(η)×Bool
abbrev Ye5:=d!
abbrev c?:=(eC×Y im)×(Y η)×xx×(η)×(η)×(η)×(η)×(η)×(η)×AM×(η)×(Y zU)×(Y η)×(Y η)×im×η
abbrev Ye6:=c?
abbrev Ye7:=(Int×b?)
abbrev Ye8:=((eC×Y im)×(η)×(η)×(η)×(η)×(η)×(η)×AM×(Y η)×xx×(η)×(Y zU)×(Y η)×Y η)
abbrev X!:=Int×c?
abbrev Ye9:=X!
def zE (it:C5) (x:Int):M η:=
 (bX (dm 0 x&&dm x x&&bf (aO x) 8) (it k! _ (λz=>(bM z.1 (aQ (ah (aF (aO x) (0:Int)))) (ck (fe z.1 (ah z.2)) (cQ ((cN z.1),(cH z.2 z.1 (-1))))) (aG z.2))) (0,(aF (aO x) (0:Int)))))
def DU (x:Int):M η:=zE @iter x
def lB (x:Int):M η:=zE @gZ x
def mD (x:b?):M (Bool):=
 (jn (bi x.2.1 3 (aG J) (aG (decide ((x.2.1:Int)=4)))) λz=>(Z z))
def lY (x:eC×b?):M (Int):=
 (jn (bi x.a 6 (aG ((decide ((x.a:Int)=6)),x)) (bi x.a 8 (aG ((decide ((x.a:Int)=8)),x)) (aG ((decide ((x.a:Int)=10)),x)))) λz=>(aH z.1 (Z z.c) (bi x.a 17 (bQ itK z.2.1.a z.c λA=>(Z A.2)) (bi x.a 12 (Z (be z.2.1.2.1)) (Z (-1))))))
def lX (x:eC×b?):M (Int):=
 (jn (bi x.a 7 (aG ((decide ((x.a:Int)=7)),x)) (bi x.a 9 (aG ((decide ((x.a:Int)=9)),x)) (aG ((decide ((x.a:Int)=11)),x)))) λz=>(aH z.1 (Z z.c) (bi x.a 16 (bQ itK z.2.1.a z.c λA=>(Z A.2)) (bi x.a 13 (Z (be z.2.1.2.1)) (Z (-1))))))
def iU (x:im×b!):M (η×b!):=
 (jY aL x.c x.1.1 λA=>(jn (α:=(eC×Y im)×(Y η)×xx×(η)×(η)×(η)×(η)×(η)×(η)×AM×(η)×(Y zU)×(Y η)×(Y η)×η) (bi x.1.2.1 1 (jY aL x.e x.1.1 λN=>(bX (bf (ah ([A])+ah ([N])) 8) (aG (x.2.1,x.a,x.b,x.c,x.e,x.g,x.j,x.m,x.o,x.l,x.n,x.i,x.q,x.r,(([A])++([N])))))) (bi x.1.2.1 21 (jY aL x.c x.1.a λL=>(bX (bf (ah ([A])+ah ([L])) 8) (aG (x.2.1,x.a,x.b,x.c,x.e,x.g,x.j,x.m,x.o,x.l,x.n,x.i,x.q,x.r,(([A])++([L])))))) (bi x.1.2.1 23 (ck (fe x.1.a (ah x.o)) (nh x.1.a x.r (bX (ay (aO (sw x.o x.1.a)) (ah (qY (T:=aL) x.r x.1.a))) (bX (bf (ah ([A])+ah (qY (T:=aL) x.r x.1.a)) 8) (aG (x.2.1,x.a,x.b,x.c,x.e,x.g,x.j,x.m,x.o,x.l,x.n,x.i,x.q,x.r,(([A])++(qY (T:=aL) x.r x.1.a)))))))) (bi x.1.2.1 3 (bQ mf x.2.1.1.1 x.1.a λz5=>(aH z5.2.2.2.1 (ck (fe x.1.a (ah x.m)) (nh x.1.a x.q (bX (ay (aO (sw x.m x.1.a)) (ah (qY (T:=aL) x.q x.1.a))) (bX (bf (ah ([A])+ah (qY (T:=aL) x.q x.1.a)) 8) (aG (x.2.1,x.a,x.b,x.c,x.e,x.g,x.j,x.m,x.o,x.l,x.n,x.i,x.q,x.r,(([A])++(qY (T:=aL) x.q x.1.a)))))))) (aG (x.2.1,x.a,x.b,x.c,x.e,x.g,x.j,x.m,x.o,x.l,x.n,x.i,x.q,x.r,[A])))) (bi x.1.2.1 17 (jY aL x.g x.1.1 λD=>(bX (bf (ah ([A])+ah ([D])) 8) (aG (x.2.1,x.a,x.b,x.c,x.e,x.g,x.j,x.m,x.o,x.l,x.n,x.i,x.q,x.r,(([A])++([D])))))) (aG (x.2.1,x.a,x.b,x.c,x.e,x.g,x.j,x.m,x.o,x.l,x.n,x.i,x.q,x.r,[A]))))))) λz=>(Z (z.r,z.1,z.2.1,z.a,z.b,z.c,z.e,z.g,z.j,z.m,z.o,z.l,z.n,z.i,z.q))))
def jL (x:Ye7×Y zU):M (Y zU):=
 (bi x.1.a 4 (ck (fe x.1.1 (ah x.2)) (Z (qK (S:=lL) x.2 x.1.1 (vx (S:=lL) 1 (dH lL x.2 x.1.1) (uk (K:=aL) (V:=.bool) x.1.b J (sE (S:=lL) 1 (dH lL x.2 x.1.1))))))) (ck (fe x.1.1 (ah x.2)) (Z (qK (S:=lL) x.2 x.1.1 (vx (S:=lL) 0 (dH lL x.2 x.1.1) (uk (K:=aL) (V:=.bool) x.1.b J (sE (S:=lL) 0 (dH lL x.2 x.1.1))))))))
abbrev u?:=(eC×Y im)×(Y η)×xx×(η)×(η)×(η)×(η)×(η)×(η)×AM×(η)×(Y zU)×(Y η)×(Y η)×b?
abbrev N?:=Ye7×b!
def mJ (it:C5) (x:N?):M Ye4:=
 (ck (fe x.1.2.1 (ah x.c)) (jn (α:=b!) (bi x.1.a 20 (ck (fe x.1.b (ah x.e)) (aG (x.2.1,x.a,x.b,(cH x.c x.1.2.1 x.1.1),(cH x.e x.1.b x.1.1),x.k))) (bi x.1.a 22 (ck (fe x.1.b (ah x.o)) (nh x.1.b x.r (bX (ay (aO (sw x.o x.1.b)) (ah (qY (T:=aL) x.r x.1.b))&&bf ((aO (sw x.o x.1.b))+ah ([x.1.1]:η)) 8) (ck (fe x.1.b (ah x.o)) (aG (x.2.1,x.a,x.b,(cH x.c x.1.2.1 x.1.1),x.e,x.g,x.j,x.m,(pR x.o (aO x.1.b) (aQ (ah ((qY (T:=aL) x.r x.1.b)++([x.1.1]))))),x.l,x.n,x.i,x.q,(vu (T:=aL) (vu (T:=aL) x.r x.1.b []) x.1.b ((qY (T:=aL) x.r x.1.b)++([x.1.1]))))))))) (bi x.1.a 4 (ck (fe x.1.b (ah x.m)) (nh x.1.b x.q (bX (ay (aO (sw x.m x.1.b)) (ah (qY (T:=aL) x.q x.1.b))&&bf ((aO (sw x.m x.1.b))+ah ([x.1.1]:η)) 8) (ck (fe x.1.b (ah x.m)) (aG (x.2.1,x.a,x.b,(cH x.c x.1.2.1 x.1.1),x.e,x.g,x.j,(pR x.m (aO x.1.b) (aQ (ah ((qY (T:=aL) x.q x.1.b)++([x.1.1]))))),x.o,x.l,x.n,x.i,(vu (T:=aL) (vu (T:=aL) x.q x.1.b []) x.1.b ((qY (T:=aL) x.q x.1.b)++([x.1.1]))),x.r)))))) (bi x.1.a 16 (ck (fe x.1.2.1 (ah x.j)) (aG (x.2.1,x.a,x.b,(cH x.c x.1.2.1 x.1.1),x.e,x.g,(cH x.j x.1.2.1 x.1.b),x.s))) (bi x.1.a 18 (j_ 0 x.1.c (ck (fe x.1.c (ah x.g)) (ck (fe x.1.c (ah x.j)) (aG (x.2.1,x.a,x.b,(cH x.c x.1.2.1 x.1.1),x.e,(cH x.g x.1.c x.1.1),(cH x.j x.1.c (-1)),x.s)))) (aG (x.2.1,x.a,x.b,(cH x.c x.1.2.1 x.1.1),x.h))) (bi x.1.a 19 (it (Int×u?) _ (λz=>(bM z.1 (be x.j) (jn (α:=u?) (jY aL z.j z.1 λA=>(bi A z.D (ck (fe z.1 (ah z.g)) (ck (fe z.1 (ah z.j)) (aG (z.2.1,z.a,z.b,z.c,z.e,(cH z.g z.1 x.1.1),(cH z.j z.1 (-1)),z.s)))) (aG z.2))) λD=>(cQ ((cN z.1),D))) (aG (bW (z.2.1,z.a,z.b,z.c,z.e,z.g,z.j,z.m,z.o,z.l,z.n,z.i,z.q,z.t))))) (0,x.2.1,x.a,x.b,(cH x.c x.1.2.1 x.1.1),x.e,x.g,x.j,x.m,x.o,x.l,x.n,x.i,x.q,x.r,x.1.2)) (aG (x.2.1,x.a,x.b,(cH x.c x.1.2.1 x.1.1),x.h)))))))) λL=>(Z L)))
def qi (x:N?):M Ye4:=mJ @iter x
def gE (x:N?):M Ye4:=mJ @gZ x
def iB (x:N?):M ((eC×Y im)×(Y η)×xx×(η)×(η)×(η)×(η)×(η)×(η)×AM×(Y η)×(Y η)×(η)×Y zU):=
 (aA (lX (x.2.1.1,x.1.2)) λz=>(aH (kn (x.1.2.1,z) x.l) (nh (dc (x.1.2.1,z) x.l) x.i (bX (bf (ah x.n+1) 8) (aA (lY (x.2.1.1,x.1.2)) λD=>(j_ 0 D (Z (x.2.1,x.a,x.b,x.c,x.e,x.g,x.j,x.m,x.o,(rz (x.1.2.1,D) (aQ (ah (qK (S:=lL) x.i (dc (x.1.2.1,z) x.l) ((((dH lL x.i (dc (x.1.2.1,z) x.l)).1).1,(((dH lL x.i (dc (x.1.2.1,z) x.l)).1).2).1,((((dH lL x.i (dc (x.1.2.1,z) x.l)).1).2).2).1,x.1.1,(((((dH lL x.i (dc (x.1.2.1,z) x.l)).1).2).2).2).2),(dH lL x.i (dc (x.1.2.1,z) x.l)).2)))) (Ky (ah (qK (S:=lL) x.i (dc (x.1.2.1,z) x.l) ((((dH lL x.i (dc (x.1.2.1,z) x.l)).1).1,(((dH lL x.i (dc (x.1.2.1,z) x.l)).1).2).1,((((dH lL x.i (dc (x.1.2.1,z) x.l)).1).2).2).1,x.1.1,(((((dH lL x.i (dc (x.1.2.1,z) x.l)).1).2).2).2).2),(dH lL x.i (dc (x.1.2.1,z) x.l)).2))) (xT (x.1.2.1,z) x.l))),x.q,x.r,(fX (shf (ah (qK (S:=lL) x.i (dc (x.1.2.1,z) x.l) ((((dH lL x.i (dc (x.1.2.1,z) x.l)).1).1,(((dH lL x.i (dc (x.1.2.1,z) x.l)).1).2).1,((((dH lL x.i (dc (x.1.2.1,z) x.l)).1).2).2).1,x.1.1,(((((dH lL x.i (dc (x.1.2.1,z) x.l)).1).2).2).2).2),(dH lL x.i (dc (x.1.2.1,z) x.l)).2)))) (sJ x.n [(dc (x.1.2.1,z) x.l)])),(sJ (qK (S:=lL) x.i (dc (x.1.2.1,z) x.l) ((((dH lL x.i (dc (x.1.2.1,z) x.l)).1).1,(((dH lL x.i (dc (x.1.2.1,z) x.l)).1).2).1,((((dH lL x.i (dc (x.1.2.1,z) x.l)).1).2).2).1,x.1.1,(((((dH lL x.i (dc (x.1.2.1,z) x.l)).1).2).2).2).2),(dH lL x.i (dc (x.1.2.1,z) x.l)).2)) [((x.1.2.1,D,x.1.1,(-1),(decide ((x.1.a:Int)=8))),[],[])]))) (Z (x.2.1,x.a,x.b,x.c,x.e,x.g,x.j,x.m,x.o,(xT (x.1.2.1,z) x.l),x.q,x.r,(sJ x.n [(dc (x.1.2.1,z) x.l)]),(qK (S:=lL) x.i (dc (x.1.2.1,z) x.l) ((((dH lL x.i (dc (x.1.2.1,z) x.l)).1).1,(((dH lL x.i (dc (x.1.2.1,z) x.l)).1).2).1,((((dH lL x.i (dc (x.1.2.1,z) x.l)).1).2).2).1,x.1.1,(((((dH lL x.i (dc (x.1.2.1,z) x.l)).1).2).2).2).2),(dH lL x.i (dc (x.1.2.1,z) x.l)).2)))))))) (aA (lY (x.2.1.1,x.1.2)) λA=>(j_ 0 A (Z (x.2.1,x.a,x.b,x.c,x.e,x.g,x.j,x.m,x.o,(rz (x.1.2.1,A) (be x.i) (Ky (ah x.i) x.l)),x.q,x.r,(fX (shf (ah x.i)) x.n),(sJ x.i [((x.1.2.1,A,x.1.1,(-1),(decide ((x.1.a:Int)=8))),[],[])]))) (Z (x.2.1,x.a,x.b,x.c,x.e,x.g,x.j,x.m,x.o,x.l,x.q,x.r,x.n,x.i))))))
def jN (x:X!):M Ye6:=
 (jn (ck (fe x.1 (ah x.i)) (aH (wN (K:=aL) (V:=.bool) x.u.a (sE (S:=lL) 1 (dH lL x.i x.1)) aa) (aG ((x.1,J),x.2)) (bi x.u.2.1 4 (ck (fe x.1 (ah x.i)) (aG ((x.1,(wN (K:=aL) (V:=.bool) x.u.a (sE (S:=lL) 0 (dH lL x.i x.1)) aa)),x.2))) (aG ((x.1,aa),x.2))))) λz=>(aH z.1.2 (nh z.1.1 z.i (lt ((((((dH lL z.i z.1.1).1).2).2).2).1) λD=>(jY (.sl aL) z.a D λA=>(aA (lw (z.E,A)) λL=>(Z (z.2.1,z.a,z.b,z.c,z.e,z.g,z.j,z.m,z.o,z.l,z.n,z.i,z.q,z.t,z.u,L)))))) (Z z.2)))
def jM (x:Int×d!):M Ye5:=
 (jn (nh x.1 x.i (lt (((((dH lL x.i x.1).1).2).2).1) λz2=>(jY fI x.b z2 λz3=>(aA (kg (x.u,z3)) λy4=>(aH y4 (nh x.1 x.i (lt ((((((dH lL x.i x.1).1).2).2).2).1) λz5=>(jY fI x.b z5 λN=>(aA (kg (x.u,N)) λy7=>(aG ((x.1,(!y7)),x.2)))))) (aG ((x.1,aa),x.2))))))) λz=>(aH z.1.2 (nh z.1.1 z.i (lt ((((((dH lL z.i z.1.1).1).2).2).2).1) λL=>(jY (.sl aL) z.a L λD=>(aA (lw (z.u,D)) λA=>(Z (z.2.1,z.a,z.b,z.c,z.e,z.g,z.j,z.m,z.o,z.l,z.n,z.i,z.q,z.t,A,J)))))) (Z z.2)))
def rT (it:C5) (x:X!):M Ye6:=
 (it (ν×c?) _ (λz=>(bM z.1.2 (be x.n) (jn (ck (fe z.1.2 (ah z.n)) (jn (nh (sw z.n z.1.2) z.i (lt ((((dH lL z.i (sw z.n z.1.2)).1).2).1) λz4=>(nh z.1.1 z.i (lt ((((dH lL z.i z.1.1).1).2).1) λz5=>(bi z4 z5 (nh (sw z.n z.1.2) z.i (lt (((dH lL z.i (sw z.n z.1.2)).1).1) λz6=>(nh z.1.1 z.i (lt (((dH lL z.i z.1.1).1).1) λz7=>(iE z6 z7 (nh (sw z.n z.1.2) z.i (lt ((((((dH lL z.i (sw z.n z.1.2)).1).2).2).2).2) λz8=>(aH z8 (nh z.1.1 z.i (lt ((((((dH lL z.i z.1.1).1).2).2).2).2) λz9=>(aH (!z9) (nh (sw z.n z.1.2) z.i (lt ((((((dH lL z.i (sw z.n z.1.2)).1).2).2).2).1) λz10=>(nh z.1.1 z.i (lt (((((dH lL z.i z.1.1).1).2).2).1) λz11=>(aG ((z.1.1,(sw z.n z.1.2),(fK z10 z11)),z.2)))))) (aG ((z.1.1,(sw z.n z.1.2),aa),z.2))))) (nh (sw z.n z.1.2) z.i (lt ((((((dH lL z.i (sw z.n z.1.2)).1).2).2).2).1) λN=>(nh z.1.1 z.i (lt (((((dH lL z.i z.1.1).1).2).2).1) λL=>(aG ((z.1.1,(sw z.n z.1.2),(fK N L)),z.2))))))))) (aG ((z.1.1,(sw z.n z.1.2),aa),z.2))))))) (aG ((z.1.1,(sw z.n z.1.2),aa),z.2))))))) λD=>(aH D.1.2.2 (aA (jN (D.1.2.1,D.2)) λA=>(bX (ay (ah D.n) (ah A.l)&&(ay (ah D.o) (ah A.m)&&(ay (ah D.m) (ah A.j)&&(ay (ah D.j) (ah A.g)&&(ay (ah D.g) (ah A.e)&&(ay (ah D.e) (ah A.c)&&(ay (ah D.c) (ah A.b)&&(ay (ah D.b) (ah A.a)&&(ay (ah D.a) (ah A.2.1)&&J))))))))) (aG (D.1.1,A)))) (aG (D.1.1,D.2))))) λx2=>(cQ ((x2.1,(cN z.1.2)),x2.2))) (aG z.2))) ((x.1,0),x.2))
def vz (x:X!):M Ye6:=rT @iter x
def kz (x:X!):M Ye6:=rT @gZ x
def rS (it:C5) (x:Int×d!):M Ye5:=
 (it (ν×d!) _ (λz=>(bM z.1.2 (be x.n) (jn (ck (fe z.1.2 (ah z.n)) (jn (nh (sw z.n z.1.2) z.i (lt ((((dH lL z.i (sw z.n z.1.2)).1).2).1) λz4=>(nh z.1.1 z.i (lt ((((dH lL z.i z.1.1).1).2).1) λz5=>(bi z4 z5 (nh (sw z.n z.1.2) z.i (lt (((dH lL z.i (sw z.n z.1.2)).1).1) λz6=>(nh z.1.1 z.i (lt (((dH lL z.i z.1.1).1).1) λz7=>(iE z6 z7 (nh (sw z.n z.1.2) z.i (lt ((((((dH lL z.i (sw z.n z.1.2)).1).2).2).2).2) λz8=>(aH z8 (nh z.1.1 z.i (lt ((((((dH lL z.i z.1.1).1).2).2).2).2) λz9=>(aH (!z9) (nh (sw z.n z.1.2) z.i (lt ((((((dH lL z.i (sw z.n z.1.2)).1).2).2).2).1) λz10=>(nh z.1.1 z.i (lt (((((dH lL z.i z.1.1).1).2).2).1) λz11=>(aG ((z.1.1,(sw z.n z.1.2),(fK z10 z11)),z.2)))))) (aG ((z.1.1,(sw z.n z.1.2),aa),z.2))))) (nh (sw z.n z.1.2) z.i (lt ((((((dH lL z.i (sw z.n z.1.2)).1).2).2).2).1) λN=>(nh z.1.1 z.i (lt (((((dH lL z.i z.1.1).1).2).2).1) λL=>(aG ((z.1.1,(sw z.n z.1.2),(fK N L)),z.2))))))))) (aG ((z.1.1,(sw z.n z.1.2),aa),z.2))))))) (aG ((z.1.1,(sw z.n z.1.2),aa),z.2))))))) λD=>(aH D.1.2.2 (aA (jM (D.1.2.1,D.2)) λA=>(bX (ay (ah D.n) (ah A.l)&&(ay (ah D.o) (ah A.m)&&(ay (ah D.m) (ah A.j)&&(ay (ah D.j) (ah A.g)&&(ay (ah D.g) (ah A.e)&&(ay (ah D.e) (ah A.c)&&(ay (ah D.c) (ah A.b)&&(ay (ah D.b) (ah A.a)&&(ay (ah D.a) (ah A.2.1)&&J))))))))) (aG (D.1.1,A)))) (aG (D.1.1,D.2))))) λx2=>(cQ ((x2.1,(cN z.1.2)),x2.2))) (aG z.2))) ((x.1,0),x.2))
def vy (x:Int×d!):M Ye5:=rS @iter x
def ky (x:Int×d!):M Ye5:=rS @gZ x
def nN (it:C5) (x:N?):M Ye8:=
 (bX (dm 0 (be x.2.1.1.c)&&dm (be x.2.1.1.c) (be x.2.1.1.c)&&bf (aO (be x.2.1.1.c)) 8) (aA (iU (x.1.2,x.2)) λy1=>(bX (ay (ah x.n) (ah y1.n)&&(ay (ah x.o) (ah y1.o)&&(ay (ah x.m) (ah y1.m)&&(ay (ah x.j) (ah y1.j)&&(ay (ah x.g) (ah y1.g)&&(ay (ah x.e) (ah y1.e)&&(ay (ah x.c) (ah y1.c)&&(ay (ah x.b) (ah y1.b)&&(ay (ah x.a) (ah y1.a)&&J))))))))) (it Ye9 _ (λx2=>(bM x2.1 (be y1.1) (jn (bQ aL y1.1 x2.1 λz4=>(j_ 0 z4 (jY (.sl aL) x2.a z4 λz5=>(aA (lw (x2.E,z5)) λy6=>(aG (x2.2.1,x2.a,x2.b,x2.c,x2.e,x2.g,x2.j,x2.m,x2.o,x2.l,x2.n,x2.i,x2.q,x2.t,x2.u,y6)))) (aG x2.2))) λx3=>(cQ ((cN x2.1),x3))) (aA (jn (α:=c?) (aA (mD x2.u) λy8=>(aH y8 (it Ye9 _ (λx9=>(bM x9.1 (bl .i64 ((be x2.2.1.1.2.1)+1)) (jn (aH (kn (x9.u.1,x9.1) x9.l) (aA (kz ((dc (x9.u.1,x9.1) x9.l),x9.2)) λN=>(bX (ay (ah x9.n) (ah N.l)&&(ay (ah x9.o) (ah N.m)&&(ay (ah x9.m) (ah N.j)&&(ay (ah x9.j) (ah N.g)&&(ay (ah x9.g) (ah N.e)&&(ay (ah x9.e) (ah N.c)&&(ay (ah x9.c) (ah N.b)&&(ay (ah x9.b) (ah N.a)&&(ay (ah x9.a) (ah N.2.1)&&J))))))))) (aA (jL (((dc (x9.u.1,x9.1) x9.l),N.t),N.n)) λy12=>(aG (N.1,N.2.1,N.a,N.b,N.c,N.e,N.g,N.j,N.m,N.o,N.l,y12,N.y))))) (aG x9.2)) λx10=>(cQ ((cN x9.1),x10))) (aG (bW x9.2)))) (0,x2.2)) (aG x2.2))) λx7=>(jn (aA (lX (x7.1.1,x7.t)) λy14=>(aH (kn (x7.t.1,y14) x7.o) (it (Int×(eC×Y im)×(Y η)×xx×(η)×(η)×(η)×(η)×(η)×(η)×AM×(η)×(Y zU)×(Y η)×(Y η)×im×(η)×Bool) _ (λz=>(aH z.G (aA (ky (z.1,z.2.1,z.a,z.b,z.c,z.e,z.g,z.j,z.m,z.o,z.l,z.n,z.i,z.q,z.t,z.C,aa)) λL=>(bX (ay (ah z.n) (ah L.l)&&(ay (ah z.o) (ah L.m)&&(ay (ah z.m) (ah L.j)&&(ay (ah z.j) (ah L.g)&&(ay (ah z.g) (ah L.e)&&(ay (ah z.e) (ah L.c)&&(ay (ah z.c) (ah L.b)&&(ay (ah z.b) (ah L.a)&&(ay (ah z.a) (ah L.2.1)&&J))))))))) (cQ (z.1,L.1,L.2.1,L.a,L.b,L.c,L.e,L.g,L.j,L.m,L.o,L.l,L.n,L.i,L.q,z.u,L.r)))) (aG (bW (z.2.1,z.a,z.b,z.c,z.e,z.g,z.j,z.m,z.o,z.l,z.n,z.i,z.q,z.t,z.u,z.C))))) ((dc (x7.t.1,y14) x7.o),x7.1,x7.2.1,x7.a,x7.b,x7.c,x7.e,x7.g,x7.j,x7.m,x7.o,x7.l,x7.n,x7.i,x7.q,x7.t,x7.F,J)) (aG x7))) λA=>(aA (qQ (A.F,A.t.1)) λy17=>(bX (bf (ah A.2.1+ah ([y17])) 24) (bQ aL y17 A.t.1 λz18=>(bX (bf (ah A.a+ah ([(z18,A.t.1)])) 16) (aA (iB ((x.1.1,A.t),A.1,(A.2.1++([y17])),(A.a++([(z18,A.t.1)])),A.b,A.c,A.e,A.g,A.j,A.m,A.o,A.l,A.n,A.i,A.q)) λD=>(bX (ay (ah A.l) (ah A.l)&&(ay (ah A.m) (ah D.m)&&(ay (ah A.j) (ah D.j)&&(ay (ah A.g) (ah D.g)&&(ay (ah A.e) (ah D.e)&&(ay (ah A.c) (ah D.c)&&(ay (ah A.b) (ah D.b)&&(ay (ah (A.a++([(z18,A.t.1)]))) (ah D.a)&&(ay (ah (A.2.1++([y17]))) (ah D.2.1)&&J))))))))) (aA (gE ((x.1.1,A.t),D.1,D.2.1,D.a,D.b,D.c,D.e,D.g,D.j,D.m,D.o,D.i,D.z,D.l,D.n)) λy20=>(bX (ay (ah D.i) (ah y20.l)&&(ay (ah D.m) (ah y20.m)&&(ay (ah D.j) (ah y20.j)&&(ay (ah D.g) (ah y20.g)&&(ay (ah D.e) (ah y20.e)&&(ay (ah D.c) (ah y20.c)&&(ay (ah D.b) (ah y20.b)&&(ay (ah D.a) (ah y20.a)&&(ay (ah D.2.1) (ah y20.2.1)&&J))))))))) (Z (y20.1,y20.b,y20.c,y20.e,y20.g,y20.j,y20.m,y20.o,y20.2.1,y20.a,y20.w)))))))))))) λr=>Z (bW r)))) (0,y1.2.1,y1.a,y1.b,y1.c,y1.e,y1.g,y1.j,y1.m,y1.o,y1.l,y1.n,y1.i,y1.q,y1.r,x.1.2,(aF (aO (be x.2.1.1.c)) (0:Int)))))))
def rC (x:N?):M Ye8:=nN @iter x
def gi (x:N?):M Ye8:=nN @gZ x
abbrev g?:=(Y η)×xx×(η)×(η)×(η)×(η)×(η)×(η)×AM×(η)×(Y η)×(Y η)×Y zU
def uS (it:C5) (x:u!):M Ye4:=
 (aA (lB (be x.1.c)) λy1=>(aA (lB (be x.1.c)) λy2=>(aA (lB (be x.1.c)) λN=>(aA (lB (be x.1.c)) λL=>(bX (dm 0 (be x.1.1)&&dm (be x.1.1) (be x.1.1)&&bf (aO (be x.1.1)) 24) (bX (dm 0 (be x.1.b)&&dm (be x.1.b) (be x.1.b)&&bf (aO (be x.1.b)) 24) (it (Int×(eC×Y im)×g?) _ (λz=>(bM z.1 (be x.2) (bQ iC x.2 z.1 λD=>(aA (gi ((z.1,D),z.2.1,z.a,z.b,z.c,z.e,z.g,z.j,z.m,z.o,z.l,z.n,z.r,z.i,z.q)) λA=>(bX (ay (ah z.n) (ah z.n)&&(ay (ah z.o) (ah A.g)&&(ay (ah z.m) (ah A.e)&&(ay (ah z.j) (ah A.c)&&(ay (ah z.g) (ah A.b)&&(ay (ah z.e) (ah A.a)&&(ay (ah z.c) (ah A.2.1)&&(ay (ah z.b) (ah z.b)&&(ay (ah z.a) (ah z.a)&&J))))))))) (cQ ((cN z.1),A.1,A.m,A.o,A.2.1,A.a,A.b,A.c,A.e,A.g,A.j,A.l,A.i,A.z,A.n))))) (aG (z.2.1,z.a,z.b,z.c,z.e,z.g,z.j,z.m,z.o,z.l,z.n,z.r,z.i,z.q)))) (0,x,([]:Y η),([]:Y ν),y1,y2,N,L,(aF (aO (be x.1.1)) (0:Int)),(aF (aO (be x.1.b)) (0:Int)),([]:Y d?),([]:η),(aF (aO (be x.1.1)) ([]:η)),(aF (aO (be x.1.b)) ([]:η)),([]:Y zU)))))))))
def yZ (x:u!):M Ye4:=uS @iter x
def lh (x:u!):M Ye4:=uS @gZ x
def rE (x:u!):M ((Y η)×Int):=
 (aA (gh x) λA=>(iE A.2 0 (Z (([]:Y η),12)) (aA (lh x) λz=>(Z (z.2.1,0)))))
abbrev M!:=(eC×Y im)×(eC×Y im)×xx×im×g?
abbrev P!:=(eC×Y im)×(eC×Y im)×xx×g?
def Bn (it:C5) (x:u!):M (xx×Int):=
 (aA (gh x) λy1=>(iE y1.2 0 (Z (([]:Y ν),12)) (aA (lh x) λN=>(it (Int×P!) _ (λD=>(bM D.1 (be x.2) (jn (α:=P!) (bQ iC x.2 D.1 λz5=>(jn (aA (mD z5) λy7=>(aH (!y7) (aG (J,D.2.1,D.a,D.b,z5,D.f)) (bQ mf D.2.1.1.1 z5.a λz8=>(aG (z8.2.2.2.1,D.2.1,D.a,D.b,z5,D.f))))) λx6=>(aH x6.1 (aG (x6.2.1,x6.a,x6.b,x6.h)) (bX (dm 0 D.1&&dm D.1 (ah x6.2.1.2)) (it (Int×M!) _ (λA=>(bM A.1 (aQ (ah (dB (aO D.1) x6.2.1.2))) (jn (α:=M!) (bQ iC (dB (aO D.1) x6.2.1.2) A.1 λz11=>(jn (aA (mD z11) λy13=>(aH (!y13) (aG (J,A.2.1,A.a,A.b,A.c,z11,A.h)) (iE z11.a A.c.a (aG (J,A.2.1,A.a,A.b,A.c,z11,A.h)) (aG ((decide ((z11.1:Int)=A.c.1)),A.2.1,A.a,A.b,A.c,z11,A.h))))) λz=>(aH z.1 (aG (z.2.1,z.a,z.b,z.c,z.k)) (jn (bi z.e.2.1 4 (aG (J,z.2.1,z.a,z.b,z.c,z.k)) (aG ((decide ((z.c.2.1:Int)=4)),z.2.1,z.a,z.b,z.c,z.k))) λx14=>(jn (aH x14.1 (jY (.sl aL) x14.e D.1 λz16=>(jY fI x14.g A.1 λz17=>(aA (kg (z16,z17)) λy18=>(aG ((!y18),x14.2))))) (aG (aa,x14.2))) λL=>(aH L.1 (bX (bf (ah L.b+ah ([(A.1,D.1)])) 16) (aG (L.2.1,L.a,(L.b++([(A.1,D.1)])),L.f))) (aG L.2))))))) λx10=>(cQ ((cN A.1),x10))) (aG (bW (A.2.1,A.a,A.b,A.h))))) (0,x6.2)))))) λx4=>(cQ ((cN D.1),x4))) (aG (D.b,0)))) (0,x,N.1,([]:Y ν),N.2.1,N.a,N.b,N.c,N.e,N.g,N.j,N.m,N.o,N.l,N.i,N.z,N.n)))))
def Ba (x:u!):M (xx×Int):=Bn @iter x
def qL (x:u!):M (xx×Int):=Bn @gZ x
def RH (it:C5) (x:Unit):M eC:=
 (it D? _ (λA=>(bM A.1 (aQ (ah ([[109,97,105,110],[116,49],[116,50],[116,51]]))) (it D? _ (λz=>(bM z.1 6 (bX (bf (ah z.k+ah ([(A.1,z.1,(bl .i64 ((bl .i64 ((bl .i64 (10*A.1))+z.1))+1)))])) 24) (cQ ((cN z.1),z.2.1,z.a,z.b,z.c,z.e,(z.k++([(A.1,z.1,(bl .i64 ((bl .i64 ((bl .i64 (10*A.1))+z.1))+1)))]))))) (aG (rh ((cN A.1),z.2))))) (0,A.2)) (aG A.2))) (0,[([120],0,0,aa,0),([121],0,0,aa,1),([118],0,0,J,0),([113],0,2,aa,0),([113],1,2,aa,0)],[([109],aa),([110],aa),([114],J)],[([99],0)],[[102]],[[109,97,105,110],[116,49],[116,50],[116,51]],([]:Y π)))
def Ra (x:Unit):M eC:=RH @iter x
def EW (x:Unit):M eC:=RH @gZ x
def pW (x:Bool):M u!:=
 (jn (aH x (aG 1) (aG 3)) λA=>(aA (EW ()) λz=>(Z (z,[(0,1,(-1),0,(-1),([]:η),([]:η)),(0,20,1,0,0,([]:η),([]:η)),(1,1,(-1),0,(-1),([]:η),([]:η)),(0,4,0,5,0,([]:η),([]:η)),(0,6,0,0,0,([]:η),([]:η)),(0,4,1,6,0,([]:η),([]:η)),(0,7,0,0,0,([]:η),([]:η)),(1,6,0,0,6,([]:η),([]:η)),(1,4,A,7,6,([]:η),([]:η)),(1,7,0,0,6,([]:η),([]:η)),(1,4,0,8,6,([]:η),([]:η))]))))
def uO (x:Unit):M (Bool):=
 (aA (pW aa) λN=>(aA (qL N) λz=>(aA (pW J) λL=>(aA (qL L) λD=>(jn (α:=Bool) (bi z.2 0 (bi D.2 0 (bi (be z.1) 1 (bQ fI z.1 0 λA=>(aH (ND (.pr aL (.pr aL .un)) (A.1,A.2,()) (3,10,()) !=aa) (aG (decide (((be D.1):Int)=0))) (aG aa))) (aG aa)) (aG aa)) (aG aa)) λx5=>(Z x5))))))
def rX (it:C5) (x:c!):M qV:=
 (it (Int×Int×O?) _ (λz=>(bM z.1 (be x.2.1) (bX (bf (ah z.d+ah ([((-1),([]:η))])) 32) (cQ ((cN z.1),z.2.1,z.a,(z.d++([((-1),([]:η))]))))) (aG (z.d,z.a,([]:θ),([]:Y dX))))) (0,0,(-1),([]:Y k!)))
def vB (x:c!):M qV:=rX @iter x
def kF (x:c!):M qV:=rX @gZ x
def qM (x:b?):M (Bool):=
 (jn (bi x.2.1 3 (aG J) (aG (decide ((x.2.1:Int)=4)))) λz=>(Z z))
def pG (x:im×b?):M (Bool):=
 (jn (aA (qM x.1) λA=>(aH A (aA (qM x.2) λz=>(aH z (iE x.1.1 x.2.1 (bi x.1.a x.b (bi x.1.2.1 4 (aG J) (aG (decide ((x.a:Int)=4)))) (aG aa)) (aG aa)) (aG aa))) (aG aa))) λD=>(Z D))
def tL (x:(Y im)×Int):M (Int):=
 (iter (σ:=ν) (λz=>(bM z.2 x.2 (jn (bQ iC x.1 z.2 λD=>(bQ iC x.1 x.2 λA=>(bi D.1 A.1 (aG (cN z.1)) (aG z.1)))) λL=>(cQ (L,(cN z.2)))) (aG z.1))) (0,0))
def tN (x:η×i?):M (Bool):=
 (aA (Ci (x.1,x.2.2)) λz=>(Z (dm x.2.1 z)))
def rI (x:(Y im)×Int):M ν:=
 (aA (tL x) λA=>(bQ iC x.1 x.2 λz=>(Z ((bl .i64 (1+A)),z.1))))
abbrev B!:=eC×qV×Y W9
abbrev I?:=eC×(Y W9)×b?
def pE (x:eC×qV×(Y im)×Int):M (Y W9):=
 (iter (σ:=Int×B!) (λD=>(bM D.1 (be x.2.1.d) (jn (α:=B!) (bi x.d (be D.2.1.2.1) (jn (α:=B!) (bi D.a.2.1 D.1 (bX (bf (ah D.d+ah ([(D.1,(-1),(-1),aa)])) 32) (aG (D.2.1,D.a,(D.d++([(D.1,(-1),(-1),aa)]))))) (aG D.2)) λx3=>(aG x3)) (jn (α:=B!) (bQ dQ D.a.1 x.d λz5=>(bi z5.1 D.1 (bX (bf (ah D.d+ah ([(D.1,(-1),(-1),aa)])) 32) (aG (D.2.1,D.a,(D.d++([(D.1,(-1),(-1),aa)]))))) (aG D.2))) λx4=>(bQ dQ x4.2.1.1 x.d λz6=>(iter (σ:=Int×B!) (λx7=>(bM x7.1 (be z6.2) (jn (α:=B!) (bQ aL z6.2 x7.1 λz9=>(bi z9 D.1 (bX (bf (ah x7.d+ah ([(D.1,(-1),(-1),J)])) 32) (aG (x7.2.1,x7.a,(x7.d++([(D.1,(-1),(-1),J)]))))) (aG x7.2))) λx8=>(cQ ((cN x7.1),x8))) (aG (bW x7.2)))) (0,x4))))) λx2=>(cQ ((cN D.1),x2))) (aA (iter (σ:=Int×eC×Y W9) (λz=>(bM z.1 (be x.a) (jn (α:=eC×Y W9) (bQ iC x.a z.1 λz12=>(aA (pH (z.2.1,z12)) λy13=>(aA (pF (z.2.1,z12)) λy14=>(jn (α:=(ν)×I?) (bi x.d (be z.2.1.2.1) (jn (α:=Int×I?) (bi z12.2.1 12 (aG (x.d,z.2.1,z.2.2,z12)) (aG ((-1),z.2.1,z.2.2,z12))) λx16=>(bi x16.c 13 (aG ((x16.1,x.d),x16.2)) (aG ((x16.1,(-1)),x16.2)))) (aG ((y13.1,y14.1),z.2.1,z.2.2,z12))) λx15=>(jn (α:=I?) (bi x15.1.2 x.d (iter (σ:=Int×I?) (λA=>(bM A.1 (be x15.a) (jn (jn (jY Xb A.a A.1 λz21=>(bi z21.1 A.b (jY Xb A.a A.1 λz22=>(aG ((fK z22.2.2.1 0),A.2))) (aG (aa,A.2)))) λL=>(aH L.1 (ck (fe A.1 (ah L.a)) (aG (L.2.1,(cH L.a A.1 ((geti Xb L.a A.1).1,((geti Xb L.a A.1).2).1,z.1,(((geti Xb L.a A.1).2).2).2)),L.d))) (aG L.2))) λx19=>(cQ ((cN A.1),x19))) (aG (bW A.2)))) (0,x15.2)) (aG x15.2)) λN=>(bi x15.1.1 x.d (bX (bf (ah N.2.1+ah ([(N.a,z.1,(-1),y13.2)])) 32) (aG (N.1,(N.2.1++([(N.a,z.1,(-1),y13.2)]))))) (aG (N.1,N.2.1)))))))) λx11=>(cQ ((cN z.1),x11))) (aG z.2.2))) (0,D.2.1,D.d)) λr=>Z (bW r)))) (0,x.1,x.2.1,([]:Y W9)))
abbrev K!:=(Bool×Int)×(eC×Y im)×W9×Int×e?
def jP (x:η×N!):M (Bool):=
 (aA (l8 (x,30)) λy1=>(aA (rE y1) λy2=>(jn (iE y2.2 0 (aG (J,y1)) (aG ((!decide (((be y2.1):Int)=(be y1.2))),y1))) λx3=>(aH x3.1 (Z aa) (iter (σ:=Int×u!) (λx4=>(bM x4.1 (be x3.2.1.2.1) (aA (kF x4.2.1) λy5=>(aA (pE (x4.2.1,y5,x4.2.2,x4.1)) λy6=>(iter (σ:=Int×u!) (λx7=>(bM x7.1 (be y6) (bQ Xb y6 x7.1 λz8=>(iter (σ:=Int×(eC×Y im)×Int×e?) (λL=>(bM L.1 (be y6) (jn (bQ Xb y6 L.1 λN=>(jn (bi L.a N.1 (aG (J,L.2.1,L.2.2,N)) (aH L.h (aH N.d (aG (J,L.2.1,L.2.2,N)) (bM L.c 0 (aG (J,L.2.1,L.2.2,N)) (aG ((fK N.2.1 L.c),L.2.1,L.2.2,N)))) (bM L.c 0 (aG (J,L.2.1,L.2.2,N)) (aG ((fK N.2.1 L.c),L.2.1,L.2.2,N))))) λx12=>(aH x12.1 (aG (x12.2.1,x12.a)) (iter (σ:=K!) (λA=>(jn (bM A.1.2 (be A.2.1.2) (bM A.e 0 (aG (J,A.2)) (aG ((dm A.1.2 A.e),A.2))) (aG (aa,A.2))) λD=>(aH D.1 (jn (bQ iC D.2.1.2 A.1.2 λz16=>(iE z16.1 D.b (aG (A.1.1,D.2)) (iter (σ:=K!) (λz=>(j_ z.1.2 z.a.a (jn (bQ iC z.2.1.2 z.1.2 λz19=>(iE z19.1 z.a.1 (aG (z.1.1,z.2)) (jn (aH z.1.1 (aG (J,z.2)) (bQ (.sl aL) y2.1 A.1.2 λz21=>(aA (rI (z.2.1.2,z.1.2)) λy22=>(aA (tN (z21,y22)) λy23=>(aG (y23,z.2)))))) λx20=>(jn (bQ iC x20.2.1.2 z.1.2 λz25=>(bQ iC x20.2.1.2 A.1.2 λz26=>(aA (pG (z25,z26)) λy27=>(aH y27 (bQ (.sl aL) y2.1 x20.a.a λz28=>(bQ (.sl aL) y2.1 A.1.2 λz29=>(aA (tM (z28,z29)) λy30=>(aG ((!y30),x20.2))))) (aG (aa,x20.2)))))) λx24=>(aH x24.1 (cQ (bW (rh (bW (rh (bW (bW (bW aa)))))))) (aG (x20.1,x24.2))))))) λx18=>(cQ ((x18.1,(cN z.1.2)),x18.2))) (aG (bW (z.1.1,z.2))))) ((A.1.1,D.a.2.1),D.2)))) λx15=>(cQ ((x15.1,(cN A.1.2)),x15.2))) (aA (jn (aH A.1.1 (j_ 0 D.e (bQ (.sl aL) y2.1 D.a.a λz32=>(bQ (.sl aL) y2.1 D.e λz33=>(aA (tM (z32,z33)) λy34=>(aG ((!y34),D.2.1,D.a))))) (aG (aa,D.2.1,D.a))) (aG (aa,D.2.1,D.a))) λx31=>(aH x31.1 (cQ (bW (bW (bW aa)))) (aG x31.2))) λr=>Z (bW r))))) ((aa,x12.c),x12.2))))) λx10=>(cQ ((cN L.1),x10))) (aG (rh ((cN x7.1),L.2.1))))) (0,x7.2,z8))) (aG (rh ((cN x4.1),x7.2))))) (0,x4.2)))) (aA (aA (uO ()) λy35=>(Z y35)) λr=>Z (bW r)))) (0,x3.2))))))
variable {R:Type}
@[simp] theorem Cr (t f:M R):aH J t f=t:=Eq.trans rfl rfl
@[simp] theorem F7 (t f:M R):aH aa t f=f:=Eq.trans rfl rfl
@[simp] theorem chk_t (k:J=J->M R):chk J k=k rfl:=Eq.trans rfl rfl
def v_ (h:b=J) (k:M R):chk b (λ_=>k)=k:=by cases b with|true=>rfl|false=>cases h
@[simp] theorem J5 {α:Type} (x:α) (k:α->M R):aA (Z x) k=k x:=Eq.trans rfl rfl
@[simp] theorem agf {α:Type} (x:α) (k:α->M R):jn (Z (.inr x)) k=k x:=Eq.trans rfl rfl
@[simp] theorem jn_l {α:Type} (r:R) (k:α->M R):jn (Z (.inl r)) k=Z r:=Eq.trans rfl rfl
def akm {σ:Type} {f:σ->M (σ⊕R)} {x:σ} {r:R} (h:iterN f i x=Z r) (z:i<=18446744073709551616):gZ f x=Z r:=ye h z
def Ub {σ:Type} {f:σ->M (σ⊕R)} (n:Nat) (A:n<18446744073709551616) (st:Nat->σ) {r:R} (h0:∀i,i<n->f (st i)=Z (.inl (st (i+1)))) (h1:f (st n)=Z (.inr r)):gZ f (st 0)=Z r:=by
 have key:∀k i,i+k=n->iterN f (k+1) (st i)=Z r:=by
  intro k;induction k with
  |zero=>intro i hi;have:i=n:=by omega
         subst this;simp only[iterN,h1]
  |succ k z=>intro i hi;rw[iterN,h0 i (by omega)];exact z (i+1) (by omega)
 exact akm (key n 0 (by omega)) (by omega)
@[simp] theorem agr {b:Int}:dm a b=J↔a<=b:=by unfold dm;simp
@[simp] theorem agq {b:Int}:fK a b=J↔a<b:=by unfold fK;simp
def C' {b:Int} (h:a<=b):dm a b=J:=agr.2 h
def PK {b:Int} (h:a<b):fK a b=J:=agq.2 h
def ags {b:Int} (h:b<a):dm a b=aa:=by unfold dm;simp;omega
def Ue {b:Int} (h:b<=a):fK a b=aa:=by unfold fK;simp;omega
def asx (h0:0<=a) (h1:a<i):fe a i=J:=by unfold fe;rw[C' h0,PK h1];rfl
def uR (h1:j<i):fe (j:Int) i=J:=asx (by omega) (by omega)
def Zw (h0:i<=1099511627776) (h1:i*j<=1099511627776):bf i j=J:=by
 unfold bf;rw[ba h0,ba h1];rfl
def amy (h0: -9223372036854775808<=a) (h1:a<=9223372036854775807):bl .i64 a=a:=by
 rw[JY];unfold Pa;simp only[];rw[C' h0,C' h1];rfl
def Gm (h:i<j) (z:j<=1099511627776):bl .i64 ((i:Int)+1)=((i+1:Nat):Int):=by
 rw[amy (by omega) (by omega)];omega
def Bh (a b:Nat):mH (aQ a) (aQ b)=((max a b:Nat):Int):=by
 unfold mH;by_cases h:a<b
 .rw[PK (by simp;omega),aD rfl];simp;omega
 .rw[Ue (by simp;omega)];simp;omega
def UO (xs:Y T.den) (i:Nat):geti _ xs (i:Int)=xs.getD i T.zero:=by unfold geti;simp
def tI (xs:Y R) (i:Nat) (x:R):cH xs (i:Int) x=xs.set i x:=by unfold cH;simp
def big:Nat:=1000000000
def jl (a b:η):η:=(iN (max (l! a) (l! b))).map λi=>mH (a.getD i 0) (b.getD i 0)
def GZ (a b:η):l! (jl a b)=max (l! a) (l! b):=by simp[jl]
def Rk (a b:η) (i:Nat):(jl a b).getD i 0=mH (a.getD i 0) (b.getD i 0):=by
 unfold jl;simp only[aw,bz];by_cases h:i<max (l! a) (l! b)
 .rw[xE h];rfl
 .rw[c5 (by simp only[List.length_range];omega),c5 (l:=a) (by omega),c5 (l:=b) (by omega)];rfl
def HN (c:η) (i:Nat):nB (c,(i:Int))=Z (c.getD i 0):=by
 unfold nB bM nh be aG;simp only[];rw[Ue (by omega)];simp only[F7,agf];by_cases h:i<l! c
 .rw[ags (by simp;omega)];simp only[F7];rw[v_ (uR h),UO];rfl
 .rw[C' (by simp;omega)];simp only[Cr];rw[aw,c5 (by omega)];rfl
def an9:Ci=nB:=rfl
def Sz (a b:η) (ha:l! a<=big) (N:l! b<=big):lw (a,b)=Z (jl a b):=by
 unfold big at ha N;unfold lw wU ck bM bX be cQ aG cN;have hm:max (l! a) (l! b)<=1000000000:=by omega
 rw[v_ (by simp only[Bh];rw[C' (by omega),C' (by omega),Zw (by simp;omega) (by simp;omega)];rfl)];simp only[Bh,bD,cL];have:=Ub (σ:=k!) (R:=η) (max (l! a) (l! b)) (by omega) (λi=>((i:Int),(iN (max (l! a) (l! b))).map λk=>if k<i then mH (a.getD k 0) (b.getD k 0) else 0)) (f:=(λz=>(aH (fK z.1 (aQ (max (l! a) (l! b)))) (aA (nB (a,z.1)) λD=>(aA (nB (b,z.1)) λA=>(chk (fe z.1 (ah z.2)) λ_=>(chk (fe z.1 (ah z.2)) λ_=>(Z (rh ((bl .i64 (z.1+1)),(cH z.2 z.1 (mH D A))))))))) (Z (bW z.2))))) (r:=jl a b) ?_ ?_
 .refine Eq.trans ?_ this;congr 1;simp only[Int.natCast_zero,h_,dv,aP,true_and];apply su<;>simp
 .intro i hi;simp only[];rw[PK (by simp;omega),Cr,HN,HN,J5,J5,v_ (uR (by simpa using hi)),v_ (uR (by simpa using hi)),Gm hi (by omega),tI];congr 3;apply su
  .simp
  .intro k h1 h2;simp only[b_,List.length_range]at h2;simp only[List.getElem_set,List.getElem_map,List.getElem_range];by_cases e:i=k
   .subst e;simp
   .by_cases h:k<i
    .rw[av e,aD h,aD (by omega)]
    .rw[av e,av h,av (by omega)]
 .simp only[];rw[Ue (by simp),F7];congr 2;unfold jl;apply gC;intro k L;rw[aD (sq.1 L)]
def tk (c:η) (t:Nat):η:=(c++aF (t+1-l! c) 0).set t (c.getD t 0+1)
def Pd (c:η) (t:Nat):l! (tk c t)=max (l! c) (t+1):=by simp[tk];omega
def asm (c:η) (n i:Nat):(c++aF n 0).getD i 0=c.getD i 0:=by
 simp only[aw];by_cases h:i<l! c
 .rw[bC h]
 .rw[bS (by omega),c5 (l:=c) (by omega),eV];split<;>rfl
def Gp (c:η) (t i:Nat):(tk c t).getD i 0=if i=t then c.getD t 0+1 else c.getD i 0:=by
 unfold tk;rw[aw,dG];by_cases h:t=i
 .subst h;rw[aD rfl,aD (by simp;omega),aD rfl];rfl
 .rw[av h,av (λe=>h e.symm),<-aw,asm]
def ahm (c:η) (n:Nat) (h:l! c<=n):W7 (aF n 0) c=c++aF (n-l! c) 0:=by
 unfold W7;rw[cL,iu h,List.drop_replicate]
def am6 (c:η) (t:Nat) (A:l! c<=big) (ht:t<4) (h0:0<=c.getD t 0) (h1:c.getD t 0<9223372036854775807):qQ (c,(t:Int))=Z (tk c t):=by
 unfold big at A;unfold qQ ck j_ bX be aG cN;simp only[];rw[C' (by omega),Cr,agf,PK (by omega)];simp only[Cr,agf];have L:mH (aQ (l! c)) (bl .i64 ((t:Int)+1))=((max (l! c) (t+1):Nat):Int):=by
  rw[Gm ht (by omega)];exact Bh _ _
 rw[L];rw[v_ (by rw[C' (by omega),C' (by omega),Zw (by simp;omega) (by simp;omega)];rfl)];rw[bD];have e2:W7 (aF (max (l! c) (t+1)) (0:Int)) c=c++aF (t+1-l! c) 0:=by
  rw[ahm c _ (by omega)];rw[show max (l! c) (t+1)-l! c=t+1-l! c from by omega]
 rw[e2];have z:t<l! (c++aF (t+1-l! c) (0:Int)):=by simp;omega
 rw[v_ (uR z),v_ (uR z),agf];have D:geti aL (c++aF (t+1-l! c) (0:Int)) (t:Int)=c.getD t 0:=by
  rw[UO];exact asm c _ t
 simp only[];rw[D,PK h1,Cr,v_ (uR z),v_ (uR z),v_ (uR z),v_ (uR z),agf,amy (by omega) (by omega),tI];rfl
abbrev WO:Type:=(Int×Int×Int×Int×Bool)×Y (Int×Bool)×Y (Int×Bool)
def ja (l:Y ET) (i:Nat):Nat:=(eN l i).1.toNat
def ct (l:Y ET) (u:Nat):Nat->Nat
 |0=>0
 |n+1=>ct l u n+if ja l n=u then 1 else 0
def Qm (l:Y ET) (u:Nat):∀{n m:Nat},n<=m->ct l u n<=ct l u m:=by
 intro n m h;induction h with
 |refl=>exact bO _
 |step _ z=>exact c4 z (by simp only[ct];omega)
def alb (l:Y ET) (u:Nat):∀n,ct l u n<=n
 |0=>bO _
 |n+1=>by have:=alb l u n;simp only[ct];split<;>omega
def RP (l:Y ET) (i:Nat):ct l (ja l i) (i+1)=ct l (ja l i) i+1:=by simp only[ct,bh]
def Ef (T j:Nat) (x:η):Prop:=l! x=T/\∀u:Nat,u<T-> -1<=x.getD u 0/\x.getD u 0<(j:Int)
def Ef.up (h:Ef i j z):Ef i (j+1) z:=⟨h.1,λu x=>by have:=h.2 u x;omega⟩
def Ef.set (h:Ef i j z) (u:Nat) (h0: -1<=a) (h1:a<=(j:Int)):Ef i (j+1) (cH z (u:Int) a):=by
 refine ⟨by rw[b7];exact h.1,λk x=>?_⟩;rw[tI,aw,dG];by_cases e:u=k
 .rw[aD e];split
  .simp only[wF];omega
  next A=>have:=h.1;omega
 .rw[av e,<-aw];have:=h.2 k x;omega
def Ef.geti {T:Nat} (h:Ef T j z) (h0:0<=a) (h1:a<T): -1<=AI.geti (T:=aL) z a/\AI.geti (T:=aL) z a<(j:Int):=by
 have e:a=((a.toNat:Nat):Int):=by omega
 rw[e,CQ];exact h.2 _ (by omega)
def NH (n j:Nat) (st:η) (si:Y η):Prop:=l! st=n/\l! si=n/\∀o:Nat,o<n->st.getD o 0=(l! (si.getD o []):Int)/\l! (si.getD o [])<=j/\∀v∈si.getD o [],0<=v/\v<(j:Int)
def NH.up {si:Y η} (h:NH i j z si):NH i (j+1) z si:=⟨h.1,h.2.1,λo A=>by let⟨a,b,c⟩:=h.2.2 o A;exact⟨a,by omega,λv st=>by have:=c v st;omega⟩⟩
def Kd (z:η) (o:Nat):sw z (o:Int)=z.getD o 0:=by unfold sw;rw[bD]
def yU (xss:Y η) (o:Nat):qY (T:=aL) xss (o:Int)=xss.getD o []:=by unfold qY;rw[bD]
def vo (w:WT) (la sp wa:η) (si ei:Y η) (e:ET):η:=[geti aL la e.1]++
 (if e.2.1=1 then [geti aL sp e.1] else if e.2.1=21 then [geti aL la e.2.2.1] else if e.2.1=23 then qY (T:=aL) ei e.2.2.1
  else if e.2.1=3 then (if (geti mf w.1 e.2.2.1).2.2.2.1=J then qY (T:=aL) si e.2.2.1 else []) else if e.2.1=17 then [geti aL wa e.1] else [])
def Xn {w:WT} (hev:SH w e) (hj:j<=1000) {c:Y η} {tm:Y ν} {sp wa wt st se:η} {op:Y d?} {re:η} {ar:Y WO} {si ei:Y η}
 (h1:Ef (l! w.2.2.2.2.1) j z) (h2:Ef (l! w.2.2.2.2.1) j sp) (h3:Ef (l! w.2.2.2.2.1) j wa) (h4:NH (l! w.1) j st si) (h5:NH (l! w.2.2.2.1) j se ei):
 iU (e,(w,L),c,tm,z,sp,wa,wt,st,se,op,re,ar,si,ei)=Z (vo w z sp wa si ei e,(w,L),c,tm,z,sp,wa,wt,st,se,op,re,ar,si,ei):=by
 refine cz ?_;let⟨nm,t0,t1,cd⟩:=hev;let⟨t,k,o,v,s,r1,r2⟩:=e;dsimp only at nm t0 t1;unfold iU lz mh mg B7 aW bm bF cG ep jW mr nJ Prod.r ck bi nh bX bQ jY aG;dsimp only;have l1:=h1.1;have l2:=h2.1;have l3:=h3.1;have gY:∀{R:Type} {Q:R->Prop} {x:η} {u:Int} {k:Int->M R},l! x=l! w.2.2.2.2.1->0<=u->u<l! w.2.2.2.2.1->Ok (k (geti aL x u)) Q->Ok (chk (fe u (l! x)) λ_=>chk (fe u (l! x)) λ_=>lt (geti aL x u) k) Q:=λhl h0 h1 hk=>aM h0 (by omega) (aM h0 (by omega) (aS hk))
 refine gY l1 t0 t1 ?_;refine aU (λx=>x=((w,L),c,tm,z,sp,wa,wt,st,se,op,re,ar,si,ei,vo w z sp wa si ei (t,k,o,v,s,r1,r2))) ?_ ?_
 .refine aI (λg=>?_) λD=>?_
  .refine gY l2 t0 t1 (bt (by simp) (by omega) (aj ?_));dsimp only;unfold vo;dsimp only;rw[aD g]
  refine aI (λg=>?_) λN=>?_
  .obtain⟨la,A⟩:=nm.th (.inr g);refine gY l1 la A (bt (by simp) (by omega) (aj ?_));dsimp only;unfold vo;dsimp only;rw[av D,aD g]
  have lst:∀{n:Nat} {xs:η} {xss:Y η},NH n j xs xss->0<=o->o<n->ay (aO (sw xs o)) (ah (qY (T:=aL) xss o))=J/\(ah (qY (T:=aL) xss o))<=j/\l! xs=n/\l! xss=n:=λ{n xs xss} h la A=>by
   have e:o=((o.toNat:Nat):Int):=by omega
   let⟨a,b,cc⟩:=h.2.2 o.toNat (by omega);rw[e,Kd,yU,a,bD];exact⟨fm _,b,h.1,h.2.1⟩
  refine aI (λg=>?_) λg3=>?_
  .obtain⟨la,A⟩:=nm.fu (.inr g);let⟨q1,q2,q3,q4⟩:=lst h5 la A;refine aM la (by omega) (aM la (by omega) (aM la (by omega) (a8 q1 (bt (by rw[bN];omega) (by omega) (aj ?_)))));dsimp only;unfold vo;dsimp only;rw[av D,av N,aD g]
  refine aI (λg=>?_) λg4=>?_
  .obtain⟨la,A⟩:=nm.ce (.inl g);let⟨q1,q2,q3,q4⟩:=lst h4 la A;refine aM la A (aS ?_);refine aN (λl=>?_) λl=>?_
   .refine aM la (by omega) (aM la (by omega) (aM la (by omega) (a8 q1 (bt (by rw[bN];omega) (by omega) (aj ?_)))));dsimp only;unfold vo;dsimp only;rw[av D,av N,av g3,aD g,aD l]
   .refine aj ?_;dsimp only;unfold vo;dsimp only;rw[av D,av N,av g3,aD g,av (by have l:(geti mf w.1 o).2.2.2.1=aa:=l;rw[l];simp)];rfl
  refine aI (λg=>?_) λg5=>?_
  .refine gY l3 t0 t1 (bt (by simp) (by omega) (aj ?_));dsimp only;unfold vo;dsimp only;rw[av D,av N,av g3,av g4,aD g]
  .refine aj ?_;dsimp only;unfold vo;dsimp only;rw[av D,av N,av g3,av g4,av g5];rfl
 .rintro x rfl;exact aj rfl
def XG (o j:Int) (n:Nat) (wt wa:η):η:=(iN (l! wa)).map λu=>if u<n/\wt.getD u 0=o then j else wa.getD u 0
def T2 (o:Int) (n:Nat) (wt:η):η:=(iN (l! wt)).map λu=>if u<n/\wt.getD u 0=o then -1 else wt.getD u 0
def Q_ (o j:Int) (n:Nat) (wt wa:η):l! (XG o j n wt wa)=l! wa:=by simp[XG]
def Q9 (o:Int) (n:Nat) (wt:η):l! (T2 o n wt)=l! wt:=by simp[T2]
def akh (o j:Int) (n:Nat) (wt wa:η) (z:i<l! wa):(XG o j n wt wa).getD i 0=if i<n/\wt.getD i 0=o then j else wa.getD i 0:=by
 unfold XG;rw[aw,bz,xE z];rfl
def akf (o:Int) (n:Nat) (wt:η) (z:i<l! wt):(T2 o n wt).getD i 0=if i<n/\wt.getD i 0=o then -1 else wt.getD i 0:=by
 unfold T2;rw[aw,bz,xE z];rfl
def ag4 (o j:Int) (wt wa:η):XG o j 0 wt wa=wa:=by
 unfold XG;apply su
 .simp
 .intro k h1 z;simp[aw,aE z]
def ag3 (o:Int) (wt:η):T2 o 0 wt=wt:=by
 unfold T2;apply su
 .simp
 .intro k h1 z;simp[aw,aE z]
def ap0 {j:Int} {wa:η} (h:z.getD i 0≠a):XG a j (i+1) z wa=XG a j i z wa:=by
 unfold XG;refine gC λu _=>?_
 by_cases e:u=i
 .subst e;rw[av (λq=>h q.2),av (λq=>h q.2)]
 .by_cases q:u<i/\z.getD u 0=a
  .rw[aD q,aD ⟨by omega,q.2⟩]
  .rw[av q,av (λwt=>q ⟨by omega,wt.2⟩)]
def aoz (h:z.getD i 0≠a):T2 a (i+1) z=T2 a i z:=by
 unfold T2;refine gC λu _=>?_
 by_cases e:u=i
 .subst e;rw[av (λq=>h q.2),av (λq=>h q.2)]
 .by_cases q:u<i/\z.getD u 0=a
  .rw[aD q,aD ⟨by omega,q.2⟩]
  .rw[av q,av (λwt=>q ⟨by omega,wt.2⟩)]
def akg {j:Int} {wa:η} (h:z.getD i 0=a):XG a j (i+1) z wa=cH (XG a j i z wa) (i:Int) j:=by
 rw[tI];unfold XG;apply su
 .simp
 .intro k h1 A;simp only[List.getElem_set,List.getElem_map,List.getElem_range];by_cases e:i=k
  .subst e;rw[aD rfl,aD ⟨by omega,h⟩]
  .rw[av e];by_cases q:k<i/\z.getD k 0=a
   .rw[aD q,aD ⟨by omega,q.2⟩]
   .rw[av q,av (λwt=>q ⟨by omega,wt.2⟩)]
def ake (h:z.getD i 0=a):T2 a (i+1) z=cH (T2 a i z) (i:Int) (-1):=by
 rw[tI];unfold T2;apply su
 .simp
 .intro k h1 A;simp only[List.getElem_set,List.getElem_map,List.getElem_range];by_cases e:i=k
  .subst e;rw[aD rfl,aD ⟨by omega,h⟩]
  .rw[av e];by_cases q:k<i/\z.getD k 0=a
   .rw[aD q,aD ⟨by omega,q.2⟩]
   .rw[av q,av (λwt=>q ⟨by omega,wt.2⟩)]
def Jb (j:Int) (e:ET) (sp:η):η:=if e.2.1=20 then cH sp e.2.2.1 j else sp
def Ja (j:Int) (e:ET) (wt wa:η):η:=if e.2.1=18 then (if 0<=e.2.2.2.1 then cH wa e.2.2.2.1 j else wa) else if e.2.1=19 then XG e.2.2.1 j (l! wt) wt wa else wa
def NK (e:ET) (wt:η):η:=if e.2.1=16 then cH wt e.1 e.2.2.1 else if e.2.1=18 then (if 0<=e.2.2.2.1 then cH wt e.2.2.2.1 (-1) else wt) else if e.2.1=19 then T2 e.2.2.1 (l! wt) wt else wt
def O1 (k:Int) (j:Int) (e:ET) (st:η) (si:Y η):η:=if e.2.1=k then pR st (aO e.2.2.1) (aQ (ah (qY (T:=aL) si e.2.2.1++[j]))) else st
def Qs (k:Int) (j:Int) (e:ET) (si:Y η):Y η:=if e.2.1=k then vu (T:=aL) (vu (T:=aL) si e.2.2.1 []) e.2.2.1 (qY (T:=aL) si e.2.2.1++[j]) else si
def aly (k j:Int) (e:ET) (si:Y η) (D:i<l! si) (h0:e.2.1=k->0<=e.2.2.1):(Qs k j e si).getD i []=if e.2.1=k/\e.2.2.1=(i:Int) then si.getD i []++[j] else si.getD i []:=by
 unfold Qs;by_cases h:e.2.1=k
 .rw[aD h];have h0:=h0 h;have A:e.2.2.1=((e.2.2.1.toNat:Nat):Int):=by omega
  unfold vu;rw[aw,dG];by_cases q:e.2.2.1.toNat=i
  .rw[aD q,dV,aD (by omega),aD ⟨h,by omega⟩];simp only[wF];rw[A,yU,q]
  .rw[av q,dG,av q,av (λz=>q (by omega)),<-aw]
 .rw[av h,av (λz=>h z.1)]
def alx (k j:Int) (e:ET) (si:Y η):l! (Qs k j e si)=l! si:=by
 unfold Qs vu;split
 .simp
 .rfl
def alz (k j:Int) (e:ET) (st:η) (si:Y η) (D:i<l! st) (h0:e.2.1=k->0<=e.2.2.1):(O1 k j e st si).getD i 0=if e.2.1=k/\e.2.2.1=(i:Int) then (l! (si.getD i []++[j]):Int) else st.getD i 0:=by
 unfold O1;by_cases h:e.2.1=k
 .rw[aD h];have h0:=h0 h;have A:e.2.2.1=((e.2.2.1.toNat:Nat):Int):=by omega
  rw[aw,dG];by_cases q:e.2.2.1.toNat=i
  .rw[aD q,aD (by omega),aD ⟨h,by omega⟩];simp only[wF];rw[A,yU,q];rfl
  .rw[av q,av (λz=>q (by omega)),<-aw]
 .rw[av h,av (λz=>h z.1)]
def NH.ad {si:Y η} (h:NH i j z si) (k:Int) (e:ET) (h0:e.2.1=k->0<=e.2.2.1):NH i (j+1) (O1 k (j:Int) e z si) (Qs k (j:Int) e si):=by
 let⟨a,b,c⟩:=h;refine ⟨by unfold O1;split<;>simp[a],by rw[alx,b],λo D=>?_⟩;let⟨A,L,q3⟩:=c o D;rw[alz _ _ _ _ _ (by omega) h0,aly _ _ _ _ (by omega) h0];split
 .refine ⟨rfl,by rw[bc,bN];omega,λv st=>?_⟩;rcases bA.1 st with st|st
  .have:=q3 v st;omega
  .simp only[aB]at st;omega
 .exact⟨A,by omega,λv st=>by have:=q3 v st;omega⟩
def Ef.wa {wt:η} (h:Ef i j z) (e:ET) (A:e.2.1=18->e.2.2.2.1<i):Ef i (j+1) (Ja (j:Int) e wt z):=by
 unfold Ja;split
 .rename_i g;split
  .rename_i D;have e0:e.2.2.2.1=((e.2.2.2.1.toNat:Nat):Int):=by omega
   rw[e0];exact h.set _ (by omega) (dz _)
  .exact h.up
 .split
  .refine ⟨by rw[Q_];exact h.1,λu wa=>?_⟩;rw[akh _ _ _ _ _ (by rw[h.1];exact wa)];split
   .omega
   .have:=h.2 u wa;omega
  .exact h.up
def Kq (e:ET) (wt:η):l! (NK e wt)=l! wt:=by
 unfold NK;split
 .exact b7 _ _ _
 .split
  .split
   .exact b7 _ _ _
   .rfl
  .split
   .exact Q9 _ _ _
   .rfl
def Ef.sp (h:Ef i j z) (e:ET) (h0:e.2.1=20->0<=e.2.2.1):Ef i (j+1) (Jb (j:Int) e z):=by
 unfold Jb;split
 .rename_i g;have e0:e.2.2.1=((e.2.2.1.toNat:Nat):Int):=by have:=h0 g;omega
  rw[e0];exact h.set _ (by omega) (dz _)
 .exact h.up
def ahe {w:WT} (hev:SH w e) (hj:j<=1000) (hT:l! w.2.2.2.2.1<=4) (hv:e.2.1=18->e.2.2.2.1<l! w.2.2.2.2.1) {c:Y η} {tm:Y ν} {sp wa wt st se:η} {op:Y d?} {re:η} {ar:Y WO} {si ei:Y η}
 (h1:Ef (l! w.2.2.2.2.1) j z) (h2:Ef (l! w.2.2.2.2.1) j sp) (h3:Ef (l! w.2.2.2.2.1) j wa) (hwt:l! wt=l! w.2.2.2.2.1) (h4:NH (l! w.1) j st si) (h5:NH (l! w.2.2.2.1) j se ei):
 gE (((j:Int),e),(w,L),c,tm,z,sp,wa,wt,st,se,op,re,ar,si,ei)=Z ((w,L),c,tm,cH z e.1 (j:Int),Jb (j:Int) e sp,Ja (j:Int) e wt wa,NK e wt,O1 4 (j:Int) e st si,O1 22 (j:Int) e se ei,op,re,ar,Qs 4 (j:Int) e si,Qs 22 (j:Int) e ei):=by
 refine cz ?_;let⟨nm,N,t1,cd⟩:=hev;let⟨t,k,o,v,s,D,A⟩:=e;dsimp only at nm N t1 hv;unfold gE mJ lz mh mg B7 Prod.t Prod.D aW bm bF cG ep jW mr nJ Prod.r dk ip En ck bi bM j_ nh bX jY be cQ aG cN;dsimp only;have l1:=h1.1;have l2:=h2.1;have l3:=h3.1;have cB:∀{R:Type} {Q:R->Prop} {n:Nat} {u:Int} {k:M R},0<=u->u<n->Ok k Q->Ok (ck (fe u n) k) Q:=λh0 h1 hk=>aM h0 h1 (aM h0 h1 hk)
 refine cB N (by omega) ?_;refine aU (λx=>x=((w,L),c,tm,cH z t (j:Int),Jb (j:Int) (t,k,o,v,s,D,A) sp,Ja (j:Int) (t,k,o,v,s,D,A) wt wa,NK (t,k,o,v,s,D,A) wt,O1 4 (j:Int) (t,k,o,v,s,D,A) st si,O1 22 (j:Int) (t,k,o,v,s,D,A) se ei,op,re,ar,Qs 4 (j:Int) (t,k,o,v,s,D,A) si,Qs 22 (j:Int) (t,k,o,v,s,D,A) ei)) ?_ ?_
 .unfold Jb Ja NK O1 Qs;dsimp only;have lst:∀{n:Nat} {xs:η} {xss:Y η},NH n j xs xss->0<=o->o<n->ay (aO (sw xs o)) (ah (qY (T:=aL) xss o))=J/\(aO (sw xs o))<=j/\l! xs=n/\l! xss=n:=λ{n xs xss} h la l=>by
   have e:o=((o.toNat:Nat):Int):=by omega
   let⟨a,b,cc⟩:=h.2.2 o.toNat (by omega);rw[e,Kd,yU,a,bD];exact⟨fm _,b,h.1,h.2.1⟩
  refine aI (λg=>?_) λg1=>?_
  .obtain⟨la,l⟩:=nm.th (.inl g);refine cB la (by omega) (aj ?_);subst g;simp only[cX,bh,dv]
  refine aI (λg=>?_) λg2=>?_
  .obtain⟨la,l⟩:=nm.fu (.inl g);let⟨q1,q2,q3,q4⟩:=lst h5 la l;refine cB la (by omega) (aM la (by omega) (cY (a8 q1 (bt (by rw[bN];omega) (by omega) (cB la (by omega) (aj ?_))))));subst g;simp only[cX,bh,dv]
  refine aI (λg=>?_) λg3=>?_
  .obtain⟨la,l⟩:=nm.ce (.inr g);let⟨q1,q2,q3,q4⟩:=lst h4 la l;refine cB la (by omega) (aM la (by omega) (cY (a8 q1 (bt (by rw[bN];omega) (by omega) (cB la (by omega) (aj ?_))))));subst g;simp only[cX,bh,dv]
  refine aI (λg=>?_) λg4=>?_
  .refine cB N (by omega) (aj ?_);subst g;simp only[cX,bh,dv]
  refine aI (λg=>?_) λg5=>?_
  .subst g;refine fc (λv0=>?_) λv0=>?_
   .have v1:=hv rfl;refine cB v0 (by omega) (cB v0 (by omega) (aj ?_));simp only[cX,bh,dv,v0]
   .refine aj ?_;simp only[cX,bh,dv,Ny.2 v0]
  refine aI (λg=>?_) λg6=>?_
  .subst g;refine iy (l! wt) (by omega) (λi x=>x=((i:Int),(w,L),c,tm,cH z t (j:Int),sp,XG o (j:Int) i wt wa,T2 o i wt,st,se,op,re,ar,si,ei,(t,19,o,v,s,D,A))) ?_ ?_ (by rw[ag4,ag3];simp only[Int.natCast_zero])
   .rintro i x hi rfl;refine du ?_;refine aU (λx=>x=((w,L),c,tm,cH z t (j:Int),sp,XG o (j:Int) (i+1) wt wa,T2 o (i+1) wt,st,se,op,re,ar,si,ei,(t,19,o,v,s,D,A))) ?_ ?_
    .dsimp only;have ib:fe (i:Int) (l! (T2 o i wt))=J:=Kc.2 ⟨by omega,by rw[Q9];omega⟩;refine a8 ib (a8 ib (aS ?_));have gv:geti aL (T2 o i wt) (i:Int)=wt.getD i 0:=by
      rw[CQ,akf _ _ _ hi,av (by omega)]
     rw[gv];refine aI (λh=>?_) λh=>?_
     .have h:wt.getD i 0=o:=h;refine cB (by omega) (by rw[Q_];omega) (cB (by omega) (by rw[Q9];omega) (aj ?_));rw[akg h,ake h]
     .have h:¬wt.getD i 0=o:=h;refine aj ?_;rw[ap0 h,aoz h]
    .rintro x rfl;refine aj ?_;show _=_;rw[gQ]
   .rintro x rfl;refine dg (aj ?_);simp only[cX,bh,dv]
  .refine aj ?_;simp only[g1,g2,g3,g4,g5,g6,dv]
 .rintro x rfl;exact aj rfl
def iD (w:WT) (e:ET):Int:=if e.2.1=7\/e.2.1=9\/e.2.1=11 then e.2.2.1 else if e.2.1=16 then (geti itK w.2.2.1 e.2.2.1).2 else if e.2.1=13 then (l! w.2.1:Int) else -1
def q_ (w:WT) (e:ET):Int:=if e.2.1=6\/e.2.1=8\/e.2.1=10 then e.2.2.1 else if e.2.1=17 then (geti itK w.2.2.1 e.2.2.1).2 else if e.2.1=12 then (l! w.2.1:Int) else -1
def HY {w:WT} (hev:SH w e):lX (w,e)=Z (iD w e):=by
 refine cz ?_;let⟨nm,L,D,cd⟩:=hev;let⟨t,k,o,v,s,r1,N⟩:=e;dsimp only at nm L D;unfold lX aW bF bi bQ be aG;dsimp only;refine aU (λx=>x=(decide (k=7\/k=9\/k=11),w,t,k,o,v,s,r1,N)) ?_ ?_
 .refine aI (λg=>aj ?_) λA=>aI (λg=>aj ?_) λz=>aj ?_
  .dsimp only;rw[aR (show k=7 from g),aR (show k=7\/k=9\/k=11 from .inl g)]
  .dsimp only;rw[aR (show k=9 from g),aR (show k=7\/k=9\/k=11 from .inr (.inl g))]
  .have A:¬k=7:=A;have z:¬k=9:=z;dsimp only;have:decide (k=11)=decide (k=7\/k=9\/k=11):=by simp[A,z]
   rw[this]
 .rintro x rfl;unfold iD;dsimp only;refine aI (λg=>aj ?_) λA=>?_
  .rw[aD g]
  rw[av A];refine aI (λg=>?_) λz=>?_
  .have g:k=16:=g;let⟨o0,o1⟩:=nm.cd ⟨by omega,by omega⟩;rw[aD g];exact aM o0 o1 (aS (aj rfl))
  have z:¬k=16:=z;rw[av z];refine aI (λg=>aj ?_) λg3=>aj ?_
  .rw[aD g];rfl
  .rw[av g3]
def I6 {w:WT} (hev:SH w e):lY (w,e)=Z (q_ w e):=by
 refine cz ?_;let⟨nm,L,D,cd⟩:=hev;let⟨t,k,o,v,s,r1,N⟩:=e;dsimp only at nm L D;unfold lY aW bF bi bQ be aG;dsimp only;refine aU (λx=>x=(decide (k=6\/k=8\/k=10),w,t,k,o,v,s,r1,N)) ?_ ?_
 .refine aI (λg=>aj ?_) λA=>aI (λg=>aj ?_) λz=>aj ?_
  .dsimp only;rw[aR (show k=6 from g),aR (show k=6\/k=8\/k=10 from .inl g)]
  .dsimp only;rw[aR (show k=8 from g),aR (show k=6\/k=8\/k=10 from .inr (.inl g))]
  .have A:¬k=6:=A;have z:¬k=8:=z;dsimp only;have:decide (k=10)=decide (k=6\/k=8\/k=10):=by simp[A,z]
   rw[this]
 .rintro x rfl;unfold q_;dsimp only;refine aI (λg=>aj ?_) λA=>?_
  .rw[aD g]
  rw[av A];refine aI (λg=>?_) λz=>?_
  .have g:k=17:=g;let⟨o0,o1⟩:=nm.cd ⟨by omega,by omega⟩;rw[aD g];exact aM o0 o1 (aS (aj rfl))
  have z:¬k=17:=z;rw[av z];refine aI (λg=>aj ?_) λg3=>aj ?_
  .rw[aD g];rfl
  .rw[av g3]
def OpI (n:Nat) (op:Y d?):Prop:=∀x∈op,0<=x.2/\x.2<(n:Int)
def ReI (n:Nat) (re:η):Prop:=∀v∈re,0<=v/\v<(n:Int)
def af1 (h0:0<=a) (h1:a<(i:Int)):shf i a=a:=by
 unfold shf;rw[aD (by exact ba (by omega))]
def ReI.shf (h:ReI i z):z.map (AI.shf i)=z:=by
 have:z.map (AI.shf i)=z.map id:=gC λv re=>af1 (h v re).1 (h v re).2
 rw[this,List.map_id]
def OpI.shf {op:Y d?} (h:OpI i op):Ky i op=op:=by
 unfold Ky;have:op.map (λe=>(e.1,AI.shf i e.2))=op.map id:=gC λx z=>by rw[af1 (h x z).1 (h x z).2];rfl
 rw[this,List.map_id]
def vM {k z:ν}:GY k z=J↔k=z:=by
 unfold GY;rw[al,bU,bU];exact⟨λh=>pP h.1 h.2,λh=>by rw[h];exact⟨rfl,rfl⟩⟩
def kw (k:ν):∀{op:Y d?},kn k op=J->(k,dc k op)∈op
 |[],h=>by cases h
 |e::r,h=>by
  simp only[kn,dc]at h ⊢;cases z:GY k e.1 with
  |true=>
   rw[vM.1 z];exact cP ..
  |false=>
   rw[z,Bool.false_or]at h;exact bJ _ (kw k h)
def EU (k:ν) {x:d?}:∀{op:Y d?},x∈xT k op->x∈op
 |[],h=>by cases h
 |e::r,h=>by
  simp only[xT]at h;cases z:GY k e.1 with
  |true=>rw[z]at h;exact bJ _ h
  |false=>
   rw[z]at h;rcases aZ.1 h with h|h
   .exact h▸cP ..
   .exact bJ _ (EU k h)
def OpI.del {op:Y d?} (h:OpI i op) (k:ν):OpI i (xT k op):=λx z=>h x (EU k z)
def RL (j:Int) (o:WO):WO:=((o.1.1,o.1.2.1,o.1.2.2.1,j,o.1.2.2.2.2),o.2)
abbrev bq (ar:Y WO) (i:Int):WO:=dH lL ar i
def scQ (w:WT) (e:ET) (op:Y d?):Bool:=kn (e.1,iD w e) op
def xO (w:WT) (e:ET) (op:Y d?):Y d?:=if scQ w e op=J then xT (e.1,iD w e) op else op
def AA (w:WT) (e:ET) (op:Y d?) (re:η):η:=if scQ w e op=J then re++[dc (e.1,iD w e) op] else re
def AW (w:WT) (j:Int) (e:ET) (op:Y d?) (ar:Y WO):Y WO:=if scQ w e op=J then qK (S:=lL) ar (dc (e.1,iD w e) op) (RL j (bq ar (dc (e.1,iD w e) op))) else ar
def SJ (w:WT) (e:ET) (op:Y d?) (ar:Y WO):Y d?:=if 0<=q_ w e then rz (e.1,q_ w e) (l! ar:Int) (xO w e op) else xO w e op
def Pm (w:WT) (j:Int) (e:ET) (op:Y d?) (ar:Y WO):Y WO:=if 0<=q_ w e then AW w j e op ar++[((e.1,q_ w e,j,-1,decide (e.2.1=8)),[],[])] else AW w j e op ar
def KB (w:WT) (j:Int) (e:ET) (op:Y d?) (ar:Y WO):l! (AW w j e op ar)=l! ar:=by
 unfold AW qK;split
 .exact dV ..
 .rfl
def Ti {w:WT} (hev:SH w e) {c:Y η} {tm:Y ν} {sp wa wt st se:η} {op:Y d?} {re:η} {ar:Y WO} {si ei:Y η}
 (h1:OpI (l! ar) op) (h2:ReI (l! ar) re) (h3:l! re<=1000):
 iB (((j:Int),e),(w,L),c,tm,z,sp,wa,wt,st,se,op,re,ar,si,ei)=Z ((w,L),c,tm,z,sp,wa,wt,st,se,SJ w e op ar,si,ei,AA w e op re,Pm w (j:Int) e op ar):=by
 refine cz ?_;unfold iB lz mh mg B7 aW bm bF cG ep jW mr nJ Prod.r j_ nh bX be;dsimp only;refine aT (HY hev) ?_;refine aN (λl=>?_) λl=>?_
 .have hm:=kw _ l;have D:=h1 _ hm;dsimp only at D;have la:scQ w e op=J:=l;refine aM D.1 D.2 (a! (aT (I6 hev) ?_));have N:ah (qK (S:=lL) ar (dc (e.1,iD w e) op) (RL (j:Int) (bq ar (dc (e.1,iD w e) op))))=l! ar:=by unfold qK;exact dV ..
  have hR:ReI (l! ar) (re++[dc (e.1,iD w e) op]):=λv A=>by
   rcases bA.1 A with A|A
   .exact h2 v A
   .simp only[aB]at A;subst A;exact D
  refine fc (λg=>aj ?_) λg=>aj ?_
  .unfold SJ Pm AA xO AW;rw[aD g,aD g,aD la,aD la,aD la];have e1:=(h1.del (e.1,iD w e)).shf;have e2:=hR.shf;rw[<- N]at e1 e2;refine pP rfl (pP rfl (pP rfl (pP rfl (pP rfl (pP rfl (pP rfl (pP rfl (pP rfl (pP ?_ (pP rfl (pP rfl (pP ?_ rfl))))))))))))
   .show rz (e.1,q_ w e) (aQ (ah (qK (S:=lL) ar (dc (e.1,iD w e) op) (RL (j:Int) (bq ar (dc (e.1,iD w e) op)))))) (Ky (ah (qK (S:=lL) ar (dc (e.1,iD w e) op) (RL (j:Int) (bq ar (dc (e.1,iD w e) op))))) (xT (e.1,iD w e) op))=_;rw[e1,N];rfl
   .exact e2
  .unfold SJ Pm AA xO AW;rw[av (Ny.2 g),av (Ny.2 g),aD la,aD la,aD la];rfl
 .have la:¬scQ w e op=J:=by unfold scQ;rw[l];simp
  refine aT (I6 hev) (fc (λg=>aj ?_) λg=>aj ?_)
  .unfold SJ Pm AA xO AW;rw[aD g,aD g,av la,av la,av la,h1.shf,h2.shf];rfl
  .unfold SJ Pm AA xO AW;rw[av (Ny.2 g),av (Ny.2 g),av la,av la,av la]
section
def ali (c:η) (a:Int) (u:Nat):kg (c,a,(u:Int))=Z (decide (a<=c.getD u 0)):=by
 unfold kg;dsimp only;rw[HN];rfl
def cvr (clk:η) (x:ν):Bool:=decide (x.1<=clk.getD x.2.toNat 0)
def aho (clk:η) {x:ν} (h:0<=x.2):kg (clk,x)=Z (cvr clk x):=by
 let⟨a,b⟩:=x;dsimp only at h;have e:b=((b.toNat:Nat):Int):=by omega
 unfold cvr;dsimp only;rw[e,ali,bD]
def jc (c:Y η) (i:Int):η:=c.getD i.toNat []
def jt (tm:Y ν) (i:Int):ν:=tm.getD i.toNat (0,0)
abbrev WO.th (o:WO):Int:=o.1.1
abbrev WO.lk (o:WO):Int:=o.1.2.1
abbrev WO.bg (o:WO):Int:=o.1.2.2.1
abbrev WO.en (o:WO):Int:=o.1.2.2.2.1
abbrev WO.rd (o:WO):Bool:=o.1.2.2.2.2
def rP (P Q:WO):Bool:=decide (P.lk=Q.lk)&&(!decide (P.th=Q.th)&&(!(P.rd&&Q.rd)&&fK P.en Q.bg))
abbrev XJ (o:Int) (m:Y o?):Bool:=wN (K:=.int .i64) (V:=.bool) o m aa
def Si (P:WO) (e:ET):Bool:=XJ e.2.2.1 P.2.2||(decide (e.2.1=4)&&XJ e.2.2.1 P.2.1)
def Ay (c:Y η) (ar:Y WO) (q:Int) (e:ET) (clk:η) (p:Int):η:=if rP (bq ar p) (bq ar q)=J/\Si (bq ar p) e=J then jl clk (jc c (bq ar p).en) else clk
def vm (c:Y η) (tm:Y ν) (ar:Y WO) (q:Int) (s:η×Bool) (p:Int):η×Bool:=if rP (bq ar p) (bq ar q)=J/\cvr s.1 (jt tm (bq ar p).bg)=J/\cvr s.1 (jt tm (bq ar p).en)=aa then (jl s.1 (jc c (bq ar p).en),J) else s
structure CkL (T j:Nat) (c:List η) (tm:List ν):Prop where
 cl:l! c=j
 tl:l! tm=j
 ln:∀i:Nat,i<j->l! (c.getD i [])=T
 th:∀i:Nat,i<j->0<=(tm.getD i (0,0)).2
def EnI (j:Nat) (ar:Y WO) (re:η):Prop:=∀p∈re,(0<=p/\p<(l! ar:Int))/\(0<=(bq ar p).bg/\(bq ar p).bg<(j:Int))/\(0<=(bq ar p).en/\(bq ar p).en<(j:Int))
def CkL.jc {c:Y η} {tm:Y ν} (h:CkL i j c tm) {T:Int} (h0:0<=T) (h1:T<(j:Int)):l! (AI.jc c T)=i:=h.ln _ (by omega)
def CkL.jt {c:Y η} {tm:Y ν} (h:CkL i j c tm) {T:Int} (h0:0<=T) (h1:T<(j:Int)):0<=(AI.jt tm T).2:=h.th _ (by omega)
def aeo {c:Y η} {tm:Y ν} (h:CkL i j c tm) {ar:Y WO} (clk:l! z=i) {p:Int} (h0:0<=(bq ar p).en) (h1:(bq ar p).en<(j:Int)):l! (Ay c ar a e z p)=i:=by
 unfold Ay;split
 .rw[GZ,clk,h.jc h0 h1];exact Nat.max_self _
 .exact clk
def aen {c:Y η} {tm:Y ν} (h:CkL i j c tm) {ar:Y WO} {s:η×Bool} (z:l! s.1=i) {p:Int} (h0:0<=(bq ar p).en) (h1:(bq ar p).en<(j:Int)):(vm c tm ar a s p).1.length=i:=by
 unfold vm;split
 .show (l! (jl s.1 _))=i;rw[GZ,z,h.jc h0 h1];exact Nat.max_self _
 .exact z
variable {w:WT} {l:Y ET} {c:Y η} {tm:Y ν} {la sp wa wt st se:η} {op:Y d?} {re:η} {ar:Y WO} {si ei:Y η}
def ab6 (hT:i<=4) (h:CkL i j c tm) (hp:(0<=a/\a<(l! ar:Int))/\(0<=(bq ar a).bg/\(bq ar a).bg<(j:Int))/\(0<=(bq ar a).en/\(bq ar a).en<(j:Int))) (N:l! z=i):
 jN (a,(w,l),c,tm,la,sp,wa,wt,st,se,op,re,ar,si,ei,e,z)=Z ((w,l),c,tm,la,sp,wa,wt,st,se,op,re,ar,si,ei,e,if Si (bq ar a) e=J then jl z (jc c (bq ar a).en) else z):=by
 refine cz ?_;let⟨⟨p0,clk⟩,_,n0,A⟩:=hp;unfold jN lz mh mg B7 Prod.t Prod.u aW bm bF cG ep jW mr nJ Prod.E ck bi nh jY aG;dsimp only;refine aU (λx=>x=((a,Si (bq ar a) e),(w,l),c,tm,la,sp,wa,wt,st,se,op,re,ar,si,ei,e,z)) ?_ ?_
 .refine aM p0 clk (aM p0 clk ?_);refine aN (λg=>aj ?_) λg=>?_
  .have g:XJ e.2.2.1 (bq ar a).2.2=J:=g;unfold Si;rw[g];rfl
  have g:XJ e.2.2.1 (bq ar a).2.2=aa:=g;refine aI (λD=>aM p0 clk (aM p0 clk (aj ?_))) λD=>aj ?_
  .unfold Si;rw[g,aR (show e.2.1=4 from D)];rfl
  .unfold Si;rw[g,cD (show ¬e.2.1=4 from D)];rfl
 .rintro x rfl;dsimp only;refine aN (λg=>?_) λg=>aj ?_
  .have L:=h.cl;refine aM p0 clk (aS ?_);refine aM n0 (by have A:(bq ar a).en<(j:Int):=A;rw[L];exact A) (aM n0 (by rw[L];exact A) (aS ?_));refine aT (Sz z (jc c (bq ar a).en) (by unfold big;omega) (by rw[h.jc n0 A];unfold big;omega)) (aj ?_);rw[aD g]
  .rw[av (by rw[g];simp)]
def ab5 (hT:i<=4) (h:CkL i j c tm) (hp:(0<=a/\a<(l! ar:Int))/\(0<=(bq ar a).bg/\(bq ar a).bg<(j:Int))/\(0<=(bq ar a).en/\(bq ar a).en<(j:Int))) (N:l! z=i):
 jM (a,(w,l),c,tm,la,sp,wa,wt,st,se,op,re,ar,si,ei,z,b)=Z ((w,l),c,tm,la,sp,wa,wt,st,se,op,re,ar,si,ei,if cvr z (jt tm (bq ar a).bg)=J/\cvr z (jt tm (bq ar a).en)=aa then (jl z (jc c (bq ar a).en),J) else (z,b)):=by
 refine cz ?_;let⟨⟨p0,A⟩,⟨b0,b1⟩,n0,clk⟩:=hp;have L:=h.cl;have ht:=h.tl;unfold jM lz mh mg B7 Prod.t Prod.u aW bm bF cG ep jW mr nJ nh jY aG;dsimp only;refine aU (λx=>x=((a,cvr z (jt tm (bq ar a).bg)&& !cvr z (jt tm (bq ar a).en)),(w,l),c,tm,la,sp,wa,wt,st,se,op,re,ar,si,ei,z,b)) ?_ ?_
 .refine aM p0 A (aS (aM b0 (by rw[ht];exact b1) (aM b0 (by rw[ht];exact b1) (aS ?_))));refine aT (aho z (h.jt b0 b1)) ?_;refine aN (λg=>?_) λg=>aj ?_
  .refine aM p0 A (aS (aM n0 (by rw[ht];exact clk) (aM n0 (by rw[ht];exact clk) (aS ?_))));refine aT (aho z (h.jt n0 clk)) (aj ?_);have g:cvr z (jt tm (bq ar a).bg)=J:=g;dsimp only;rw[g,dU];rfl
  .have g:cvr z (jt tm (bq ar a).bg)=aa:=g;dsimp only;rw[g,eO]
 .rintro x rfl;dsimp only;refine aN (λg=>?_) λg=>aj ?_
  .refine aM p0 A (aS ?_);refine aM n0 (by rw[L];exact clk) (aM n0 (by rw[L];exact clk) (aS ?_));refine aT (Sz z (jc c (bq ar a).en) (by unfold big;omega) (by rw[h.jc n0 clk];unfold big;omega)) (aj ?_);rw[aD (by simpa using g)]
  .rw[av (by simpa using g)]
def ag8 {Q:R->Prop} {P S:WO} {q:Int} (p0:0<=a) (D:a<(i:Int)) (q0:0<=q) (A:q<(i:Int)) {k:Bool->M R} (z:Ok (k (rP P S)) Q):
 Ok (chk (fe a i) λ_=>lt P.lk λz4=>chk (fe q i) λ_=>lt S.lk λz5=>aH (decide (z4=z5)) (chk (fe a i) λ_=>lt P.th λz6=>chk (fe q i) λ_=>lt S.th λz7=>aH (!decide (z6=z7)) (chk (fe a i) λ_=>lt P.rd λz8=>aH z8 (chk (fe q i) λ_=>lt S.rd λz9=>aH (!z9) (chk (fe a i) λ_=>lt P.en λz10=>chk (fe q i) λ_=>lt S.bg λz11=>k (fK z10 z11)) (k aa)) (chk (fe a i) λ_=>lt P.en λN=>chk (fe q i) λ_=>lt S.bg λL=>k (fK N L))) (k aa)) (k aa)) Q:=by
 unfold rP at z;refine aM p0 D (aS (aM q0 A (aS ?_)));refine aI (λg1=>?_) λg1=>?_
 .rw[aR g1,dU]at z;refine aM p0 D (aS (aM q0 A (aS ?_)));refine ch (λg2=>?_) λg2=>?_
  .rw[cD g2,mm,dU]at z;refine aM p0 D (aS ?_);refine aN (λg3=>?_) λg3=>?_
   .rw[g3,dU]at z;refine aM q0 A (aS ?_);refine em (λg4=>?_) λg4=>?_
    .rw[g4,mm,dU]at z;exact aM p0 D (aS (aM q0 A (aS z)))
    .rw[g4,Ep,eO]at z;exact z
   .rw[g3,eO,mm,dU]at z;exact aM p0 D (aS (aM q0 A (aS z)))
  .rw[aR g2,Ep,eO]at z;exact z
 .rw[cD g1,eO]at z;exact z
def sM (d:R) {xs:Y R} (h:i<l! xs):xs.take (i+1)=xs.take i++[xs.getD i d]:=by
 rw[List.take_add_one,aE h,aw,aE h];rfl
def Ha (d:R) {xs:Y R} (h:i<l! xs):xs.getD i d∈xs:=by
 rw[aw,aE h];exact List.getElem_mem h
def Ve (hT:i<=4) (h:CkL i j c tm) (q0:0<=a) (N:a<(l! ar:Int)) (hr:EnI j ar re) (hrl:l! re<=1000) (hc:l! z=i):
 kz (a,(w,l),c,tm,la,sp,wa,wt,st,se,op,re,ar,si,ei,e,z)=Z ((w,l),c,tm,la,sp,wa,wt,st,se,op,re,ar,si,ei,e,re.foldl (Ay c ar a e) z):=by
 refine cz ?_;unfold kz rT lz mh mg aW bm bF cG ep jW mr nJ ck bi bM iE nh bX be cQ aG cN;dsimp only;refine iy (l! re) (by omega) (λT x=>x=((a,(T:Int)),(w,l),c,tm,la,sp,wa,wt,st,se,op,re,ar,si,ei,e,(re.take T).foldl (Ay c ar a e) z)/\l! ((re.take T).foldl (Ay c ar a e) z)=i) ?_ ?_ ⟨by simp,by simpa using hc⟩
 .rintro T x hi ⟨rfl,hcl⟩;refine du ?_;have hpe:=hr _ (Ha 0 hi);have hiA:sw re (T:Int)=re.getD T 0:=Kd re T;generalize hp:re.getD T 0=p at*
  let⟨⟨p0,L⟩,hb,D⟩:=hpe;refine aU (λx=>x=(a,(w,l),c,tm,la,sp,wa,wt,st,se,op,re,ar,si,ei,e,Ay c ar a e ((re.take T).foldl (Ay c ar a e) z) p)) ?_ ?_
  .refine cu (cu ?_);dsimp only;rw[hiA];refine aU (λx=>x=((a,p,rP (bq ar p) (bq ar a)),(w,l),c,tm,la,sp,wa,wt,st,se,op,re,ar,si,ei,e,(re.take T).foldl (Ay c ar a e) z)) ?_ ?_
   .with_reducible exact ag8 (P:=bq ar p) (S:=bq ar a) (k:=λb=>Z (bW ((a,p,b),(w,l),c,tm,la,sp,wa,wt,st,se,op,re,ar,si,ei,e,(re.take T).foldl (Ay c ar a e) z))) p0 L q0 N (aj rfl)
   .rintro x rfl;dsimp only;refine aN (λg=>?_) λg=>aj ?_
    .refine aT (ab6 hT h ⟨⟨p0,L⟩,hb,D⟩ hcl) (a8 (by simp only[fm,fy]) (aj ?_));dsimp only;unfold Ay;by_cases A:Si (bq ar p) e=J
     .rw[aD A,aD ⟨g,A⟩]
     .rw[av A,av (λclk=>A clk.2)]
    .unfold Ay;rw[av (λclk=>by rw[g]at clk;cases clk.1)]
  .rintro x rfl;refine aj ⟨?_,?_⟩
   .rw[sM 0 hi,ey,hp];show ((_,bl .i64 ((T:Int)+1)),_)=_;rw[gQ];rfl
   .rw[sM 0 hi,ey,hp];exact aeo h hcl D.1 D.2
 .rintro x ⟨rfl,_⟩;refine dg (aj ?_);rw[cv]
def Vd (hT:i<=4) (h:CkL i j c tm) (q0:0<=a) (q1:a<(l! ar:Int)) (hr:EnI j ar re) (hrl:l! re<=1000) (hc:l! z=i):
 ky (a,(w,l),c,tm,la,sp,wa,wt,st,se,op,re,ar,si,ei,z,b)=Z ((w,l),c,tm,la,sp,wa,wt,st,se,op,re,ar,si,ei,re.foldl (vm c tm ar a) (z,b)):=by
 refine cz ?_;unfold ky rS lz mh mg aW bm bF cG ep jW mr nJ ck bi bM iE nh bX be cQ aG cN;dsimp only;refine iy (l! re) (by omega) (λT x=>x=((a,(T:Int)),(w,l),c,tm,la,sp,wa,wt,st,se,op,re,ar,si,ei,(re.take T).foldl (vm c tm ar a) (z,b))/\((re.take T).foldl (vm c tm ar a) (z,b)).1.length=i) ?_ ?_ ⟨by simp,by simpa using hc⟩
 .rintro T x hi ⟨rfl,hcl⟩;refine du ?_;have hpe:=hr _ (Ha 0 hi);have hiA:sw re (T:Int)=re.getD T 0:=Kd re T;generalize hp:re.getD T 0=p at*
  let⟨⟨p0,N⟩,hb,L⟩:=hpe;refine aU (λx=>x=(a,(w,l),c,tm,la,sp,wa,wt,st,se,op,re,ar,si,ei,vm c tm ar a ((re.take T).foldl (vm c tm ar a) (z,b)) p)) ?_ ?_
  .refine cu (cu ?_);dsimp only;rw[hiA];refine aU (λx=>x=((a,p,rP (bq ar p) (bq ar a)),(w,l),c,tm,la,sp,wa,wt,st,se,op,re,ar,si,ei,(re.take T).foldl (vm c tm ar a) (z,b))) ?_ ?_
   .with_reducible exact ag8 (P:=bq ar p) (S:=bq ar a) (k:=λA=>Z (bW ((a,p,A),(w,l),c,tm,la,sp,wa,wt,st,se,op,re,ar,si,ei,(re.take T).foldl (vm c tm ar a) (z,b)))) p0 N q0 q1 (aj rfl)
   .rintro x rfl;dsimp only;generalize (re.take T).foldl (vm c tm ar a) (z,b)=s at*
    let⟨sc,sa⟩:=s;refine aN (λg=>?_) λg=>aj ?_
    .refine aT (ab5 hT h ⟨⟨p0,N⟩,hb,L⟩ hcl) (a8 (by simp only[fm,fy]) (aj ?_));dsimp only;unfold vm;by_cases D:cvr sc (jt tm (bq ar p).bg)=J/\cvr sc (jt tm (bq ar p).en)=aa
     .rw[aD D,aD ⟨g,D⟩]
     .rw[av D,av (λclk=>D clk.2)]
    .unfold vm;rw[av (λclk=>by rw[g]at clk;cases clk.1)]
  .rintro x rfl;refine aj ⟨?_,?_⟩
   .rw[sM 0 hi,ey,hp];show ((_,bl .i64 ((T:Int)+1)),_)=_;rw[gQ];rfl
   .rw[sM 0 hi,ey,hp];exact aen h hcl L.1 L.2
 .rintro x ⟨rfl,_⟩;refine dg (aj ?_);rw[cv]
end
def wn (a b:η):Prop:=∀u:Nat,a.getD u 0<=b.getD u 0
def wn.rfl :wn z z:=λ_=>dz _
def wn.trans {b c:η} (h:wn z b) (h':wn b c):wn z c:=λu=>ta (h u) (h' u)
def ap8 (a b:Int):a<=mH a b:=by unfold mH;by_cases h:fK a b=J<;>simp only[h,bh]<;>first|(have:=pX.1 h;omega)|simp
def ap7 (a b:Int):b<=mH a b:=by
 unfold mH;by_cases h:fK a b=J
 .rw[aD h];exact dz _
 .have:=g9.1 (QF.2 h);rw[av h];omega
def Z4 (a b:Int):mH a b=a\/mH a b=b:=by
 unfold mH;by_cases h:fK a b=J
 .right;simp[h]
 .left;simp[h]
def Lh (a b:η):wn a (jl a b):=λu=>by rw[Rk];exact ap8 _ _
def Rg (a b:η):wn b (jl a b):=λu=>by rw[Rk];exact ap7 _ _
def MO {b:η} (h:wn z b) {x:ν} (a:cvr z x=J):cvr b x=J:=by
 unfold cvr at a ⊢;rw[bU]at a ⊢;exact ta a (h _)
def Oz (ar:Y WO) (q:Int) (e:ET):Y WO:=if e.2.1=4 then qK (S:=lL) ar q (vx (S:=lL) 1 (bq ar q) (uk (K:=.int .i64) (V:=.bool) e.2.2.1 J (sE (S:=lL) 1 (bq ar q)))) else qK (S:=lL) ar q (vx (S:=lL) 0 (bq ar q) (uk (K:=.int .i64) (V:=.bool) e.2.2.1 J (sE (S:=lL) 0 (bq ar q))))
def Tk {ar:Y WO} (q0:0<=a) (z:a<(l! ar:Int)):jL ((a,e),ar)=Z (Oz ar a e):=by
 refine cz ?_;unfold jL Oz aW bm ck bi;dsimp only;refine aI (λg=>?_) λg=>?_
 .exact aM q0 z (aM q0 z (aj (by rw[aD (show e.2.1=4 from g)])))
 .exact aM q0 z (aM q0 z (aj (by rw[av (show ¬e.2.1=4 from g)])))
def ad1 (e:ET):mD e=Z (decide (e.2.1=3\/e.2.1=4)):=by
 refine cz ?_;unfold mD bi aG;refine aU (λx=>x=decide (e.2.1=3\/e.2.1=4)) ?_ ?_
 .refine aI (λg=>aj ?_) λg=>aj ?_
  .exact (aR (Or.inl g)).symm
  .have g:¬e.2.1=3:=g;show decide (e.2.1=4)=_;simp[g]
 .rintro x rfl;exact aj rfl
def Q5 {ar:Y WO} (o:WO) (i:Int) (h:a.toNat<l! ar):bq (qK (S:=lL) ar a o) i=if i.toNat=a.toNat then o else bq ar i:=by
 unfold bq qK dH;rw[aw,dG];by_cases e:a.toNat=i.toNat
 .rw[aD e,aD (by omega),aD e.symm];rfl
 .rw[av e,av (λz=>e z.symm),<-aw]
structure Sam (ar ar':List WO):Prop where
 ln:l! ar'=l! ar
 hd:∀i:Int,(bq ar' i).1=(bq ar i).1
 eq:∀i:Int,(bq ar i).en≠ -1->bq ar' i=bq ar i
def Sam.rfl (ar:Y WO):Sam ar ar:=⟨Eq.refl _,λ_=>Eq.refl _,λ_ _=>Eq.refl _⟩
def ahf (ar:Y WO) (q:Int) (e:ET):l! (Oz ar q e)=l! ar:=by
 unfold Oz qK;split<;>exact dV ..
def Fq {ar:Y WO} (e:ET) (i:Int) (h:a.toNat<l! ar):bq (Oz ar a e) i=if i.toNat=a.toNat then (if e.2.1=4 then ((bq ar a).1,(bq ar a).2.1,uk (K:=.int .i64) (V:=.bool) e.2.2.1 J (bq ar a).2.2) else ((bq ar a).1,uk (K:=.int .i64) (V:=.bool) e.2.2.1 J (bq ar a).2.1,(bq ar a).2.2)) else bq ar i:=by
 unfold Oz;by_cases g:e.2.1=4
 .rw[aD g,aD g,Q5 _ _ h];rfl
 .rw[av g,av g,Q5 _ _ h];rfl
def Sam.ent {ar ar':Y WO} (h:Sam ar ar') (e:ET) (N:a.toNat<l! ar) (D:(bq ar a).en= -1):Sam ar (Oz ar' a e):=by
 let⟨h1,A,L⟩:=h;have hi:∀i:Int,i.toNat=a.toNat->bq ar i=bq ar a:=λi hi=>by unfold bq dH;rw[hi]
 refine ⟨by rw[ahf,h1],λi=>?_,λi z=>?_⟩
 .rw[Fq e i (by omega)];split
  next hiq=>rw[hi i hiq];split<;>exact A a
  .exact A i
 .rw[Fq e i (by omega),av]
  .exact L i z
  .intro hiq;rw[hi i hiq]at z;exact z D
def Sam.mat {ar ar':Y WO} (h:Sam ar ar') (p q:Int):rP (bq ar' p) (bq ar' q)=rP (bq ar p) (bq ar q):=by
 unfold rP WO.lk WO.th WO.rd WO.en WO.bg;rw[h.hd p,h.hd q]
def Sam.EnI {ar ar':Y WO} (h:Sam ar ar') {re:η} (z:EnI j ar re):AI.EnI j ar' re:=λp hp=>by
 let⟨⟨a,b⟩,A,d,f⟩:=z p hp;have e:=h.eq p (by omega);rw[h.ln,e];exact⟨⟨a,b⟩,A,d,f⟩
def anb {I:η->Prop} {c:Y η} {ar:Y WO} {q:Int} :∀(L:η) (clk:η),I clk->(∀clk p,p∈L->rP (bq ar p) (bq ar q)=J->Si (bq ar p) e=J->I clk->I (jl clk (jc c (bq ar p).en)))->
 I (L.foldl (Ay c ar q e) clk)/\wn clk (L.foldl (Ay c ar q e) clk)/\∀p∈L,rP (bq ar p) (bq ar q)=J->Si (bq ar p) e=J->wn (jc c (bq ar p).en) (L.foldl (Ay c ar q e) clk)
 |[],clk,h,_=>⟨h,wn.rfl,λp hp=>by cases hp⟩
 |p::L,clk,h,A=>by
  have h1:I (Ay c ar q e clk p)/\wn clk (Ay c ar q e clk p)/\(rP (bq ar p) (bq ar q)=J->Si (bq ar p) e=J->wn (jc c (bq ar p).en) (Ay c ar q e clk p)):=by
   unfold Ay;by_cases g:rP (bq ar p) (bq ar q)=J/\Si (bq ar p) e=J
   .rw[aD g];exact⟨A clk p (cP ..) g.1 g.2 h,Lh _ _,λ_ _=>Rg _ _⟩
   .rw[av g];exact⟨h,wn.rfl,λa b=>b8 ⟨a,b⟩ g⟩
  let⟨a,b,d⟩:=anb L _ h1.1 λclk p hp=>A clk p (bJ _ hp)
  refine ⟨a,h1.2.1.trans b,λD z m1 m2=>?_⟩;rcases aZ.1 z with rfl|z
  .exact (h1.2.2 m1 m2).trans b
  .exact d D z m1 m2
def S7 (tm:Y ν) (ar:Y WO) (re:η) (clk:η):Nat:=l! (re.filter λp=> !cvr clk (jt tm (bq ar p).en))
def Xi {tm:Y ν} {ar:Y WO} {re:η} {b:η} (h:wn z b):S7 tm ar re b<=S7 tm ar re z:=by
 unfold S7;induction re with
 |nil=>exact bO _
 |cons p r a=>
  simp only[List.filter_cons];cases A:cvr z (jt tm (bq ar p).en) with
  |true=>rw[MO h A];exact a
  |false=>
   cases cvr b (jt tm (bq ar p).en) with
   |true=>simp only[Ep,ca,dv,mm,bh,bK];omega
   |false=>simp only[mm,bh,bK];omega
def aog {tm:Y ν} {ar:Y WO} {re:η} {b:η} (h:wn z b) {p:Int} (hp:p∈re) (h0:cvr z (jt tm (bq ar p).en)=aa) (h1:cvr b (jt tm (bq ar p).en)=J):S7 tm ar re b<S7 tm ar re z:=by
 induction re with
 |nil=>cases hp
 |cons x r a=>
  have hle:=Xi (tm:=tm) (ar:=ar) (re:=r) h;unfold S7 at a hle ⊢;simp only[List.filter_cons];rcases aZ.1 hp with rfl|hp
  .rw[h0,h1];simp only[Ep,ca,dv,mm,bh,bK];omega
  .have a:=a hp;cases A:cvr z (jt tm (bq ar x).en) with
   |true=>rw[MO h A];exact a
   |false=>
    cases cvr b (jt tm (bq ar x).en) with
    |true=>simp only[Ep,ca,dv,mm,bh,bK];omega
    |false=>simp only[mm,bh,bK];omega
def afq {I:η->Prop} {c:Y η} {tm:Y ν} {ar:Y WO} {q:Int} {re:η} (htm:∀p∈re,cvr (jc c (bq ar p).en) (jt tm (bq ar p).en)=J):∀(L:η) (s:η×Bool),(∀p∈L,p∈re)->I s.1->(∀clk p,p∈L->rP (bq ar p) (bq ar q)=J->cvr clk (jt tm (bq ar p).bg)=J->I clk->I (jl clk (jc c (bq ar p).en)))->
 I (L.foldl (vm c tm ar q) s).1/\wn s.1 (L.foldl (vm c tm ar q) s).1/\((L.foldl (vm c tm ar q) s).2=J->s.2=J\/S7 tm ar re (L.foldl (vm c tm ar q) s).1<S7 tm ar re s.1)/\
 ((L.foldl (vm c tm ar q) s).2=aa->s.2=aa/\(L.foldl (vm c tm ar q) s).1=s.1/\∀p∈L,rP (bq ar p) (bq ar q)=J->cvr s.1 (jt tm (bq ar p).bg)=J->cvr s.1 (jt tm (bq ar p).en)=J)
 |[],s,_,h,_=>⟨h,wn.rfl,λh=>.inl h,λh=>⟨h,rfl,λp hp=>by cases hp⟩⟩
 |p::L,s,hL,h,A=>by
  have hpr:=hL p (cP ..);by_cases g:rP (bq ar p) (bq ar q)=J/\cvr s.1 (jt tm (bq ar p).bg)=J/\cvr s.1 (jt tm (bq ar p).en)=aa
  .have D:vm c tm ar q s p=(jl s.1 (jc c (bq ar p).en),J):=by unfold vm;rw[aD g]
   let⟨a,b,d,f⟩:=afq htm L (jl s.1 (jc c (bq ar p).en),J) (λp hp=>hL p (bJ _ hp)) (A s.1 p (cP ..) g.1 g.2.1 h) λclk p hp=>A clk p (bJ _ hp)
   simp only[ue,D];have hlt:S7 tm ar re (jl s.1 (jc c (bq ar p).en))<S7 tm ar re s.1:=aog (Lh _ _) hpr g.2.2 (MO (Rg _ _) (htm p hpr));refine ⟨a,(Lh _ _).trans b,λ_=>.inr (Nat.lt_of_le_of_lt (Xi b) hlt),λhf=>?_⟩;have:=(f hf).1;cases this
  .have D:vm c tm ar q s p=s:=by unfold vm;rw[av g]
   let⟨a,b,d,f⟩:=afq htm L s (λp hp=>hL p (bJ _ hp)) h λclk p hp=>A clk p (bJ _ hp)
   simp only[ue,D];refine ⟨a,b,d,λhf=>?_⟩;let⟨f1,f2,f3⟩:=f hf;refine ⟨f1,f2,λN z m1 m2=>?_⟩;rcases aZ.1 z with rfl|z
   .cases hz:cvr s.1 (jt tm (bq ar N).en) with
    |true=>rfl
    |false=>exact b8 ⟨m1,m2,hz⟩ g
   .exact f3 N z m1 m2
def S4 (j:Int) (e:ET) (sp:η):l! (Jb j e sp)=l! sp:=by unfold Jb;split<;>simp only[b7]
def S1 (j:Int) (e:ET) (wt wa:η):l! (Ja j e wt wa)=l! wa:=by
 unfold Ja;split
 .split<;>simp only[b7]
 .split<;>simp only[Q_]
def aas (k j:Int) (e:ET) (st:η) (si:Y η):l! (O1 k j e st si)=l! st:=by unfold O1;split<;>simp only[dV]
def AJ (e:ET) (op:Y d?) (ar:Y WO):Nat->Y WO
 |0=>ar
 |n+1=>if kn (e.1,(n:Int)) op=J then Oz (AJ e op ar n) (dc (e.1,(n:Int)) op) e else AJ e op ar n
def Ni {op:Y d?} {ar:Y WO} (h:kn (e.1,(i:Int)) op=J):AJ e op ar (i+1)=Oz (AJ e op ar i) (dc (e.1,(i:Int)) op) e:=aD h
def aat {op:Y d?} {ar:Y WO} (h:¬kn (e.1,(i:Int)) op=J):AJ e op ar (i+1)=AJ e op ar i:=av h
def oN (w:WT) (e:ET) (op:Y d?) (ar:Y WO):Y WO:=if e.2.1=3\/e.2.1=4 then AJ e op ar (l! w.2.1+1) else ar
def BW {e:ET} {op:Y d?} {ar:Y WO} (h1:OpI (l! ar) op) (A:∀x∈op,(bq ar x.2).en= -1):∀n,Sam ar (AJ e op ar n)
 |0=>Sam.rfl ar
 |n+1=>by
  have z:=BW (e:=e) h1 A n;unfold AJ;split
  next D=>have hm:=kw _ D;have:=h1 _ hm;exact z.ent e (by dsimp only at this;omega) (A _ hm)
  .exact z
def Nk {w:WT} {op:Y d?} {ar:Y WO} (h1:OpI (l! ar) op) (z:∀x∈op,(bq ar x.2).en= -1):Sam ar (oN w e op ar):=by
 unfold oN;split
 .exact BW h1 z _
 .exact Sam.rfl ar
structure JI (w:WT) (c:List η) (tm:List ν) (src:η) (op:List (ν×Int)) (re:η) (ar:List WO) (e:ET) (I:η->Prop):Prop where
 i0:I (aF (l! w.2.2.2.2.1) 0)
 i1:∀clk i,i∈src->0<=i->I clk->I (jl clk (jc c i))
 i2:∀clk (lk:Int) p,(e.2.1=3\/e.2.1=4)->0<=lk->lk<=(l! w.2.1:Int)->kn (e.1,lk) op=J->p∈re->rP (bq ar p) (bq ar (dc (e.1,lk) op))=J->Si (bq ar p) e=J->I clk->I (jl clk (jc c (bq ar p).en))
 i3:∀clk p,kn (e.1,iD w e) op=J->p∈re->rP (bq ar p) (bq ar (dc (e.1,iD w e) op))=J->cvr clk (jt tm (bq ar p).bg)=J->I clk->I (jl clk (jc c (bq ar p).en))
 it:∀clk,I clk->l! clk=l! w.2.2.2.2.1/\0<=clk.getD e.1.toNat 0/\clk.getD e.1.toNat 0<1000000000
structure JR (w:WT) (c:List η) (tm:List ν) (src:η) (op:List (ν×Int)) (re:η) (ar:List WO) (e:ET) (clk:η):Prop where
 a:∀i∈src,0<=i->wn (jc c i) clk
 b:(e.2.1=3\/e.2.1=4)->∀lk:Int,0<=lk->lk<=(l! w.2.1:Int)->kn (e.1,lk) op=J->∀p∈re,rP (bq ar p) (bq ar (dc (e.1,lk) op))=J->Si (bq ar p) e=J->wn (jc c (bq ar p).en) clk
 c:kn (e.1,iD w e) op=J->∀p∈re,rP (bq ar p) (bq ar (dc (e.1,iD w e) op))=J->cvr clk (jt tm (bq ar p).bg)=J->cvr clk (jt tm (bq ar p).en)=J
set_option maxRecDepth 10000 in
def ajk {w:WT} {l:Y ET} {e:ET} (hev:SH w e) {j:Nat} (hj:j<=400) (hT:l! w.2.2.2.2.1<=4) (hL:l! w.2.1<=4) (hv:e.2.1=18->e.2.2.2.1<l! w.2.2.2.2.1) {c:Y η} {tm:Y ν} {la sp wa wt st se:η} {op:Y d?} {re:η} {ar:Y WO} {si ei:Y η}
 (h1:Ef (l! w.2.2.2.2.1) j la) (h2:Ef (l! w.2.2.2.2.1) j sp) (h3:Ef (l! w.2.2.2.2.1) j wa) (hwt:l! wt=l! w.2.2.2.2.1) (h4:NH (l! w.1) j st si) (h5:NH (l! w.2.2.2.1) j se ei)
 (hc:CkL (l! w.2.2.2.2.1) j c tm) (ho:OpI (l! ar) op) (hoo:∀x∈op,(bq ar x.2).en= -1) (hr:EnI j ar re) (hrl:l! re<=400) (htm:∀p∈re,cvr (jc c (bq ar p).en) (jt tm (bq ar p).en)=J)
 {I:η->Prop} (hI:JI w c tm (vo w la sp wa si ei e) op re ar e I):
 Ok (gi (((j:Int),e),(w,l),c,tm,la,sp,wa,wt,st,se,op,re,ar,si,ei)) λy=>∃clk,(I clk/\JR w c tm (vo w la sp wa si ei e) op re ar e clk)/\y=((w,l),cH la e.1 (j:Int),Jb (j:Int) e sp,Ja (j:Int) e wt wa,NK e wt,O1 4 (j:Int) e st si,O1 22 (j:Int) e se ei,SJ w e op (oN w e op ar),c++[tk clk e.1.toNat],tm++[((tk clk e.1.toNat).getD e.1.toNat 0,e.1)],AA w e op re,Pm w (j:Int) e op (oN w e op ar),Qs 4 (j:Int) e si,Qs 22 (j:Int) e ei):=by
 have t0:=hev.t0;have t1:=hev.t1;have hsl:l! (vo w la sp wa si ei e)<=401:=by
  have q:∀{n:Nat} {xs:η} {xss:Y η} {o:Int},NH n j xs xss->0<=o->o<n->l! (qY (T:=aL) xss o)<=400:=λ{n xs xss o} h o0 o1=>by
   have e:o=((o.toNat:Nat):Int):=by omega
   obtain⟨a,b,cc⟩:=h.2.2 o.toNat (by omega);rw[e,yU];omega
  unfold vo;rw[bc,bN];split
  .simp
  .split
   .simp
   .split
    .rename_i g;have:=q h5 (hev.nm.fu (.inr g)).1 (hev.nm.fu (.inr g)).2;omega
    .split
     .rename_i g;split
      .have:=q h4 (hev.nm.ce (.inl g)).1 (hev.nm.ce (.inl g)).2;omega
      .simp
     .split<;>simp
 have hsv:∀v∈vo w la sp wa si ei e,v<(j:Int):=by
  have q:∀{n:Nat} {xs:η} {xss:Y η} {o:Int},NH n j xs xss->0<=o->o<n->∀v∈qY (T:=aL) xss o,v<(j:Int):=λ{n xs xss o} h o0 o1 v hv=>by
   have e:o=((o.toNat:Nat):Int):=by omega
   rw[e,yU]at hv;exact ((h.2.2 o.toNat (by omega)).2.2 v hv).2
  intro v hv;unfold vo at hv;rcases bA.1 hv with hv|hv
  .rw[aB]at hv;rw[hv];exact (h1.geti t0 t1).2
  .split at hv
   .rw[aB]at hv;rw[hv];exact (h2.geti t0 t1).2
   .split at hv
    .rename_i g;rw[aB]at hv;rw[hv];exact (h1.geti (hev.nm.th (.inr g)).1 (hev.nm.th (.inr g)).2).2
    .split at hv
     .rename_i g;exact q h5 (hev.nm.fu (.inr g)).1 (hev.nm.fu (.inr g)).2 v hv
     .split at hv
      .rename_i g;split at hv
       .exact q h4 (hev.nm.ce (.inl g)).1 (hev.nm.ce (.inl g)).2 v hv
       .cases hv
      .split at hv
       .rw[aB]at hv;rw[hv];exact (h3.geti t0 t1).2
       .cases hv
 generalize hsrc:vo w la sp wa si ei e=src at*
 have hcl:=hc.cl;unfold gi nN lz mh mg B7 Prod.t Prod.u Prod.C aW bm bF cG ep jW mr nJ Prod.w Prod.y Prod.z Prod.r Prod.F Prod.E Prod.G bM j_ bX bQ jY be cQ aG cN;dsimp only;refine cY (cY (dL (by dsimp only[ak];omega) (a? (bt (by simp only[ak,bD];omega) (by omega) ?_))));refine aT (Xn hev (by omega) h1 h2 h3 h4 h5) ?_;rw[hsrc];dsimp only;refine a8 (by simp only[fm,fy]) ?_;refine iy (l! src) (by omega) (λi x=>∃clk,x=((i:Int),(w,l),c,tm,la,sp,wa,wt,st,se,op,re,ar,si,ei,e,clk)/\I clk/\∀v∈src.take i,0<=v->wn (jc c v) clk) ?_ ?_ ⟨aF (l! w.2.2.2.2.1) 0,by simp only[ak,bD];rfl,hI.i0,λv hv=>by simp at hv⟩
 .rintro i x hi ⟨clk,rfl,hk,hs⟩;refine du ?_;have hvm:=Ha 0 hi;have hgv:geti aL src (i:Int)=src.getD i 0:=CQ src i;have hlt:=hsv _ hvm;have htk:=sM 0 hi;generalize src.getD i 0=v at*
  refine aU (λx=>∃clk',x=((w,l),c,tm,la,sp,wa,wt,st,se,op,re,ar,si,ei,e,clk')/\I clk'/\∀v∈src.take (i+1),0<=v->wn (jc c v) clk') ?_ ?_
  .refine cu (aS ?_);dsimp only;have hgv':geti aL src (i:Int)=v:=hgv;rw[hgv'];refine fc (λv0=>?_) λv0=>?_
   .refine aM v0 (by omega) (aM v0 (by omega) (aS ?_));refine aT (Sz clk (jc c v) (by have:=(hI.it clk hk).1;unfold big;omega) (by rw[hc.jc v0 hlt];unfold big;omega)) (aj ⟨_,rfl,hI.i1 clk v hvm v0 hk,λu hu u0=>?_⟩);rw[htk]at hu;rcases bA.1 hu with hu|hu
    .exact (hs u hu u0).trans (Lh _ _)
    .rw[aB]at hu;rw[hu];exact Rg _ _
   .refine aj ⟨clk,rfl,hk,λu hu u0=>?_⟩;rw[htk]at hu;rcases bA.1 hu with hu|hu
    .exact hs u hu u0
    .rw[aB]at hu;omega
  .rintro x ⟨clk',rfl,hk',hs'⟩;refine aj ⟨clk',?_,hk',hs'⟩;show (bl .i64 ((i:Int)+1),_)=_;rw[gQ]
 rintro x ⟨clk,rfl,hk,hs⟩;rw[cv]at hs;refine dg ?_;refine ax (P:=λy=>∃clk,(I clk/\JR w c tm src op re ar e clk)/\y=((w,l),cH la e.1 (j:Int),Jb (j:Int) e sp,Ja (j:Int) e wt wa,NK e wt,O1 4 (j:Int) e st si,O1 22 (j:Int) e se ei,SJ w e op (oN w e op ar),c++[tk clk e.1.toNat],tm++[((tk clk e.1.toNat).getD e.1.toNat 0,e.1)],AA w e op re,Pm w (j:Int) e op (oN w e op ar),Qs 4 (j:Int) e si,Qs 22 (j:Int) e ei)) ?_ λy hy=>aj hy
 have sam:=Nk (w:=w) (e:=e) ho hoo;have hrl':l! re<=1000:=by omega
 refine aU (λx=>∃clk,x=((w,l),c,tm,la,sp,wa,wt,st,se,op,re,oN w e op ar,si,ei,e,clk)/\I clk/\(∀v∈src,0<=v->wn (jc c v) clk)/\((e.2.1=3\/e.2.1=4)->∀lk:Int,0<=lk->lk<=(l! w.2.1:Int)->kn (e.1,lk) op=J->∀p∈re,rP (bq ar p) (bq ar (dc (e.1,lk) op))=J->Si (bq ar p) e=J->wn (jc c (bq ar p).en) clk)) ?_ ?_
 .dsimp only;refine aT (ad1 e) ?_;refine aI (λhacc=>?_) λhacc=>?_
  .refine iy (l! w.2.1+1) (by omega) (λi x=>∃clk,x=((i:Int),(w,l),c,tm,la,sp,wa,wt,st,se,op,re,AJ e op ar i,si,ei,e,clk)/\I clk/\(∀v∈src,0<=v->wn (jc c v) clk)/\∀lk:Int,0<=lk->lk<(i:Int)->kn (e.1,lk) op=J->∀p∈re,rP (bq ar p) (bq ar (dc (e.1,lk) op))=J->Si (bq ar p) e=J->wn (jc c (bq ar p).en) clk) ?_ ?_ ⟨clk,rfl,hk,hs,λlk h0 h1=>by omega⟩
   .rintro i x hi ⟨clk,rfl,hk,hs,hb⟩;have hwr:bl .i64 (aQ (l! w.2.1)+1)=((l! w.2.1+1:Nat):Int):=gQ;refine du ?_ (by dsimp only;rw[hwr];omega);have si_:=BW (e:=e) ho hoo i;refine aU (λx=>∃clk',x=((w,l),c,tm,la,sp,wa,wt,st,se,op,re,AJ e op ar (i+1),si,ei,e,clk')/\I clk'/\(∀v∈src,0<=v->wn (jc c v) clk')/\∀lk:Int,0<=lk->lk<((i+1:Nat):Int)->kn (e.1,lk) op=J->∀p∈re,rP (bq ar p) (bq ar (dc (e.1,lk) op))=J->Si (bq ar p) e=J->wn (jc c (bq ar p).en) clk') ?_ ?_
    .dsimp only;refine aN (λhq=>?_) λhq=>?_
     .have hm:=kw _ hq;have hqr:=ho _ hm;dsimp only at hqr;have q0:=hqr.1;have q1:dc (e.1,(i:Int)) op<(l! (AJ e op ar i):Int):=by rw[si_.ln];exact hqr.2
      refine aT (Ve hT hc q0 q1 (si_.EnI hr) hrl' (hI.it clk hk).1) (a8 (by simp only[fm,fy]) ?_);refine aT (Tk q0 q1) (aj ?_);have pe:∀p∈re,bq (AJ e op ar i) p=bq ar p:=λp hp=>si_.eq p (by have:=(hr p hp).2.2;omega)
      obtain⟨r1,r2,r3⟩:=anb (I:=I) (c:=c) (ar:=AJ e op ar i) (q:=dc (e.1,(i:Int)) op) (e:=e) re clk hk (λclk p hp m1 m2 hk=>by
       rw[si_.mat]at m1;rw[pe p hp]at m2 ⊢;exact hI.i2 clk (i:Int) p hacc (by omega) (by omega) hq hp m1 m2 hk)
      refine ⟨_,by rw[Ni hq],r1,λv hv v0=>(hs v hv v0).trans r2,λlk l0 l1 ho' p hp m1 m2=>?_⟩;by_cases hlk:lk=(i:Int)
      .subst hlk;have:=r3 p hp (by rw[si_.mat];exact m1) (by rw[pe p hp];exact m2);rw[pe p hp]at this;exact this
      .exact (hb lk l0 (by omega) ho' p hp m1 m2).trans r2
     .refine aj ⟨clk,by rw[aat (by rw[hq];simp)],hk,hs,λlk l0 l1 ho' p hp m1 m2=>?_⟩;by_cases hlk:lk=(i:Int)
      .subst hlk;have hq:kn (e.1,(i:Int)) op=aa:=hq;rw[hq]at ho';cases ho'
      .exact hb lk l0 (by omega) ho' p hp m1 m2
    .rintro x ⟨clk',rfl,a,b,d⟩;refine aj ⟨clk',?_,a,b,d⟩;show (bl .i64 ((i:Int)+1),_)=_;rw[gQ]
   .rintro x ⟨clk,rfl,a,b,d⟩;have hwr:bl .i64 (aQ (l! w.2.1)+1)=((l! w.2.1+1:Nat):Int):=gQ;refine dg (aj ⟨clk,by unfold oN;rw[aD hacc],a,b,λ_ lk l0 l1=>d lk l0 (by omega)⟩) (by dsimp only;rw[hwr];omega)
  .exact aj ⟨clk,by unfold oN;rw[av hacc],hk,hs,λh=>b8 h hacc⟩
 rintro x ⟨clk,rfl,hk,hs,hb⟩;dsimp only;refine aU (λx=>∃clk,x=((w,l),c,tm,la,sp,wa,wt,st,se,op,re,oN w e op ar,si,ei,e,clk)/\I clk/\JR w c tm src op re ar e clk) ?_ ?_
 .refine aT (HY hev) ?_;refine aN (λhq=>?_) λhq=>?_
  .have hm:=kw _ hq;have hqr:=ho _ hm;dsimp only at hqr;have q0:=hqr.1;have q1:dc (e.1,iD w e) op<(l! (oN w e op ar):Int):=by rw[sam.ln];exact hqr.2
   have pe:∀p∈re,bq (oN w e op ar) p=bq ar p:=λp hp=>sam.eq p (by have:=(hr p hp).2.2;omega)
   have uncL:∀clk,S7 tm (oN w e op ar) re clk<=l! re:=λclk=>by unfold S7;exact DH ..
   refine afw 1000 (λx=>2*S7 tm (oN w e op ar) re x.2.2.2.2.2.2.2.2.2.2.2.2.2.2.2.2.1+if x.2.2.2.2.2.2.2.2.2.2.2.2.2.2.2.2.2=J then 1 else 0) (λx=>∃clk ag,x=(dc (e.1,iD w e) op,(w,l),c,tm,la,sp,wa,wt,st,se,op,re,oN w e op ar,si,ei,e,clk,ag)/\I clk/\(∀v∈src,0<=v->wn (jc c v) clk)/\((e.2.1=3\/e.2.1=4)->∀lk:Int,0<=lk->lk<=(l! w.2.1:Int)->kn (e.1,lk) op=J->∀p∈re,rP (bq ar p) (bq ar (dc (e.1,lk) op))=J->Si (bq ar p) e=J->wn (jc c (bq ar p).en) clk)/\(ag=aa->∀p∈re,rP (bq ar p) (bq ar (dc (e.1,iD w e) op))=J->cvr clk (jt tm (bq ar p).bg)=J->cvr clk (jt tm (bq ar p).en)=J)) ?_ ?_ ⟨clk,J,rfl,hk,hs,hb,nofun⟩
   .rintro x ⟨clk,ag,rfl,hk,hs,hb,hd⟩;dsimp only;refine aN (λhag=>?_) λhag=>?_
    .refine aT (Vd hT hc q0 q1 (sam.EnI hr) hrl' (hI.it clk hk).1) (a8 (by simp only[fm,fy]) (aj ?_));obtain⟨r1,r2,r3,r4⟩:=afq (I:=I) (c:=c) (tm:=tm) (ar:=oN w e op ar) (q:=dc (e.1,iD w e) op) (re:=re) (λp hp=>by rw[pe p hp];exact htm p hp) re (clk,aa) (λp hp=>hp) hk (λclk p hp m1 m2 hk=>by
      rw[sam.mat]at m1;rw[pe p hp]at m2 ⊢;exact hI.i3 clk p hq hp m1 m2 hk)
     generalize List.foldl (vm c tm (oN w e op ar) (dc (e.1,iD w e) op)) (clk,aa) re=s at*
     obtain⟨sc,sa⟩:=s;dsimp only at r1 r2 r3 r4;refine ⟨⟨sc,sa,rfl,r1,λv hv v0=>(hs v hv v0).trans r2,λh lk l0 l1 ho' p hp m1 m2=>(hb h lk l0 l1 ho' p hp m1 m2).trans r2,λh p hp m1 m2=>?_⟩,?_⟩
     .obtain⟨_,f2,f3⟩:=r4 h;rw[f2]at m2 ⊢;have:=f3 p hp (by rw[sam.mat];exact m1) (by rw[pe p hp];exact m2);rw[pe p hp]at this;exact this
     .have hle:S7 tm (oN w e op ar) re sc<=S7 tm (oN w e op ar) re clk:=Xi r2;have hag:ag=J:=hag;show 2*S7 tm (oN w e op ar) re sc+(if sa=J then 1 else 0)<2*S7 tm (oN w e op ar) re clk+(if ag=J then 1 else 0)
      rw[hag,aD rfl];cases sa with
      |false=>rw[av (by simp)];omega
      |true=>
       rcases r3 rfl with h|h
       .cases h
       .rw[aD rfl];omega
    .have hag:ag=aa:=hag;exact aj ⟨clk,rfl,hk,hs,hb,λ_=>hd hag⟩
   .dsimp only;have:=uncL clk;rw[aD rfl];omega
  .refine aj ⟨clk,rfl,hk,hs,hb,λh=>?_⟩;have hq:kn (e.1,iD w e) op=aa:=hq;rw[hq]at h;cases h
 rintro x ⟨clk,rfl,hk,hj'⟩;dsimp only;obtain⟨k1,k2,k3⟩:=hI.it clk hk;have et:e.1=((e.1.toNat:Nat):Int):=by omega
 have htick:qQ (clk,e.1)=Z (tk clk e.1.toNat):=by
  rw[et,bD];exact am6 clk e.1.toNat (by unfold big;omega) (by omega) k2 (by omega)
 refine aT htick ?_;have htl:=hc.tl;have hlt:l! (tk clk e.1.toNat)=l! w.2.2.2.2.1:=by rw[Pd,k1];omega
 refine bt (by rw[bN];omega) (by omega) (aM t0 (by rw[hlt];exact t1) (aS (bt (by rw[bN];omega) (by omega) ?_)));have hgt:geti aL (tk clk e.1.toNat) e.1=(tk clk e.1.toNat).getD e.1.toNat 0:=by
  rw[et,CQ,bD]
 have hgt':geti aL (tk clk e.1.toNat) e.1=(tk clk e.1.toNat).getD e.1.toNat 0:=hgt;rw[hgt'];refine aT (Ti hev (by rw[sam.ln];exact ho) (λv hv=>by rw[sam.ln];exact (hr v hv).1) hrl') ?_;dsimp only;refine a8 (by simp only[fm,fy]) ?_;refine aT (ahe hev (by omega) hT hv h1 h2 h3 hwt h4 h5) ?_;dsimp only;refine a8 (by simp only[b7,S4,S1,Kq,aas,fm,fy]) (aj ⟨clk,⟨hk,hj'⟩,rfl⟩)
def TX {ar:Y WO} :bq ar a=bq ar (a.toNat:Int):=by unfold bq dH;rw[bD]
def J6 {ar:Y WO} (o:WO) (h:a.toNat<l! ar):bq (ar++[o]) a=bq ar a:=by
 unfold bq dH;rw[aw,aw,bC h]
def ZP (ar:Y WO) (o:WO):bq (ar++[o]) (l! ar:Int)=o:=by
 unfold bq dH;rw[bD,aw,nL];rfl
def zY (op:Y d?):Prop:=(op.map (·.1)).Nodup
def ZS (k:ν) {x:d?}:∀{op:Y d?},zY op->x∈xT k op->x.1≠k
 |[],_,h=>by cases h
 |e::r,A,h=>by
  unfold zY at A;rw[bY,ud]at A;simp only[xT]at h;cases z:GY k e.1 with
  |true=>
   rw[z]at h;intro he;exact A.1 (by rw[<- vM.1 z,<-he];exact List.mem_map_of_mem h)
  |false=>
   rw[z]at h;rcases aZ.1 h with h|h
   .rw[h];intro he;rw[vM.2 he.symm]at z;cases z
   .exact ZS k A.2 h
def zY.del (k:ν):∀{op:Y d?},zY op->zY (xT k op)
 |[],h=>h
 |e::r,z=>by
  unfold zY at z ⊢;rw[bY,ud]at z;simp only[xT];cases D:GY k e.1 with
  |true=>exact z.2
  |false=>
   show (fX (·.1) (e::xT k r)).Nodup;rw[bY,ud];refine ⟨λh=>z.1 ?_,zY.del k z.2⟩;let⟨x,A,hxe⟩:=cj.1 h;rw[<- hxe];exact List.mem_map_of_mem (EU k A)
def TY {k:ν} {x:d?}:∀{op:Y d?},zY op->x∈rz k a op->x=(k,a)\/(x∈op/\x.1≠k)
 |[],_,h=>.inl (aB.1 h)
 |e::r,A,h=>by
  unfold zY at A;rw[bY,ud]at A;simp only[rz]at h;cases z:GY k e.1 with
  |true=>
   rw[z]at h;rcases aZ.1 h with h|h
   .exact .inl h
   .refine .inr ⟨bJ _ h,λhe=>A.1 ?_⟩;rw[<- vM.1 z,<-he];exact List.mem_map_of_mem h
  |false=>
   rw[z]at h;rcases aZ.1 h with h|h
   .rw[h];exact .inr ⟨cP ..,λhe=>by rw[vM.2 he.symm]at z;cases z⟩
   .rcases TY A.2 h with h|h
    .exact .inl h
    .exact .inr ⟨bJ _ h.1,h.2⟩
def Pv {k:ν} {y:ν}:∀{op:Y d?},y∈(rz k a op).map (·.1)->y=k\/y∈op.map (·.1)
 |[],h=>.inl (by simpa[rz] using h)
 |e::r,h=>by
  simp only[rz]at h;cases z:GY k e.1 with
  |true=>
   rw[z]at h;have h:y∈k::r.map (·.1):=h;rcases aZ.1 h with h|h
   .exact .inl h
   .exact .inr (bJ _ h)
  |false=>
   rw[z]at h;have h:y∈e.1::(rz k a r).map (·.1):=h;rcases aZ.1 h with h|h
   .exact .inr (h▸cP ..)
   .rcases Pv h with h|h
    .exact .inl h
    .exact .inr (bJ _ h)
def zY.put (k:ν) (v:Int):∀{op:Y d?},zY op->zY (rz k v op)
 |[],_=>by simp[zY,rz]
 |e::r,z=>by
  unfold zY at z ⊢;rw[bY,ud]at z;simp only[rz];cases A:GY k e.1 with
  |true=>
   show (k::r.map (·.1)).Nodup;rw[vM.1 A,ud];exact z
  |false=>
   show (e.1::(rz k v r).map (·.1)).Nodup;rw[ud];refine ⟨λh=>?_,zY.put k v z.2⟩;rcases Pv h with h|h
   .rw[vM.2 h.symm]at A;cases A
   .exact z.1 h
structure WS (j:Nat) (op:List (ν×Int)) (re:η) (ar:List WO):Prop where
 ks:zY op
 o:∀x∈op,(0<=x.2/\x.2<(l! ar:Int))/\(bq ar x.2).th=x.1.1/\(bq ar x.2).lk=x.1.2/\(bq ar x.2).en= -1/\0<=x.1.2
 a:∀k:Nat,k<l! ar->(0<=(bq ar k).bg/\(bq ar k).bg<(j:Int))/\((bq ar k).en= -1\/((bq ar k).bg<(bq ar k).en/\(bq ar k).en<(j:Int)))
 r:∀p∈re,(0<=p/\p<(l! ar:Int))/\(bq ar p).en≠ -1
 rl:l! re<=j
def WS.op {op:Y d?} {re:η} {ar:Y WO} (h:WS j op re ar):OpI (l! ar) op:=λx z=>(h.o x z).1
def WS.oo {op:Y d?} {re:η} {ar:Y WO} (h:WS j op re ar):∀x∈op,(bq ar x.2).en= -1:=λx z=>(h.o x z).2.2.2.1
def WS.en {op:Y d?} {re:η} {ar:Y WO} (h:WS j op re ar):EnI j ar re:=λp hp=>by
 let⟨⟨p0,D⟩,p2⟩:=h.r p hp;let⟨A,z⟩:=h.a p.toNat (by omega);rw[<- TX]at A z;refine ⟨⟨p0,D⟩,A,?_⟩;rcases z with z|z
 .exact b8 z p2
 .exact⟨by omega,z.2⟩
def WS.sam {op:Y d?} {re:η} {ar ar':Y WO} (h:WS j op re ar) (s:Sam ar ar'):WS j op re ar':=by
 let⟨h1,h2,N,L,D⟩:=h;have e:∀i:Int,(bq ar' i).1=(bq ar i).1:=s.hd;refine ⟨h1,λx z=>?_,λk A=>?_,λp hp=>?_,D⟩
 .have:=h2 x z;unfold WO.th WO.lk WO.en at this ⊢;rw[e,s.ln];exact this
 .have:=N k (by rw[<- s.ln];exact A);unfold WO.bg WO.en at this ⊢;rw[e];exact this
 .have:=L p hp;unfold WO.en at this ⊢;rw[e,s.ln];exact this
def xP {w:WT} {op:Y d?} {ar:Y WO} (hi:OpI (l! ar) op) (i:Int):bq (AW w a e op ar) i=if scQ w e op=J/\i.toNat=(dc (e.1,iD w e) op).toNat then RL a (bq ar (dc (e.1,iD w e) op)) else bq ar i:=by
 unfold AW;by_cases A:scQ w e op=J
 .rw[aD A];have:=hi _ (kw _ A);rw[Q5 _ _ (by dsimp only at this;omega)];by_cases D:i.toNat=(dc (e.1,iD w e) op).toNat
  .rw[aD D,aD ⟨A,D⟩]
  .rw[av D,av (λz=>D z.2)]
 .rw[av A,av (λz=>A z.1)]
def KA {w:WT} {op:Y d?} (D:zY op) {x:d?} (h:x∈xO w e op):x∈op/\(scQ w e op=J->x.1≠(e.1,iD w e)):=by
 unfold xO at h;split at h
 .exact⟨EU _ h,λ_=>ZS _ D h⟩
 next A=>exact⟨h,λz=>b8 z A⟩
def abd {w:WT} {op:Y d?} (z:zY op):zY (xO w e op):=by
 unfold xO;split
 .exact z.del _
 .exact z
def Zt {w:WT} {op:Y d?} {re:η} {ar:Y WO} (h:WS j op re ar) {x:d?} (hx:x∈xO w e op) (L:Int):bq (AW w L e op ar) x.2=bq ar x.2:=by
 let⟨h1,h2⟩:=KA h.ks hx;rw[xP h.op,av];rintro⟨D,N⟩;have hm:=kw _ D;have A:=h.o _ h1;have z:=h.o _ hm;refine h2 D ?_;have e1:bq ar x.2=bq ar (dc (e.1,iD w e) op):=by unfold bq dH;rw[N]
 dsimp only at z;rw[e1]at A;exact pP (A.2.1.symm.trans z.2.1) (A.2.2.1.symm.trans z.2.2.1)
def WS.next {w:WT} {op:Y d?} {re:η} {ar:Y WO} (h:WS j op re ar):WS (j+1) (SJ w e op ar) (AA w e op re) (Pm w (j:Int) e op ar):=by
 have z:=KB w (j:Int) e op ar;have e0:iD w e=iD w e:=rfl;have m1:WS (j+1) (xO w e op) (AA w e op re) (AW w (j:Int) e op ar):=by
  refine ⟨abd h.ks,λx A=>?_,λk N=>?_,λp hp=>?_,?_⟩
  .rw[Zt h A,z];exact h.o x (KA h.ks A).1
  .rw[z]at N;rw[xP h.op];split
   next hz=>have hm:=h.o _ (kw _ hz.1);dsimp only at hm;have ha:=h.a (dc (e.1,iD w e) op).toNat (by omega);rw[<- TX]at ha;unfold RL;dsimp only[WO.bg,WO.en];have:=ha.1;dsimp only[WO.bg]at this;omega
   .have ha:=h.a k N;omega
  .unfold AA at hp;have old:p∈re->(0<=p/\p<(l! (AW w (j:Int) e op ar):Int))/\(bq (AW w (j:Int) e op ar) p).en≠ -1:=λhp=>by
    let⟨L,D⟩:=h.r p hp;rw[z];refine ⟨L,?_⟩;rw[xP h.op];split
    .unfold RL;dsimp only[WO.en];omega
    .exact D
   split at hp
   .rename_i hq;rcases bA.1 hp with hp|hp
    .exact old hp
    .rw[aB]at hp;subst hp;have hm:=h.o _ (kw _ hq);rw[z];refine ⟨hm.1,?_⟩;rw[xP h.op,aD ⟨hq,rfl⟩];unfold RL;dsimp only[WO.en];omega
   .exact old hp
  .unfold AA;have:=h.rl;split
   .rw[bc,bN];omega
   .omega
 unfold SJ Pm;by_cases g:0<=q_ w e
 .rw[aD g,aD g];generalize hn:((e.1,q_ w e,(j:Int),-1,decide (e.2.1=8)),([],[]))=new;have hnew:new=((e.1,q_ w e,(j:Int),-1,decide (e.2.1=8)),[],[]):=hn.symm;have hlen:(l! (AW w (j:Int) e op ar++[new]:Y WO):Int)=(l! ar:Int)+1:=by rw[bc,bN,z];omega
  have hat:bq (AW w (j:Int) e op ar++[new]) (l! ar:Int)=new:=by rw[<- z];exact ZP _ _
  refine ⟨m1.ks.put _ _,λx A=>?_,λk N=>?_,λp hp=>?_,m1.rl⟩
  .rcases TY m1.ks A with rfl|⟨A,_⟩
   .dsimp only;rw[hat,hlen,hnew];exact⟨⟨by omega,by omega⟩,rfl,rfl,rfl,g⟩
   .obtain⟨⟨q0,L⟩,D⟩:=m1.o x A;rw[z]at L;rw[J6 _ (by rw[z];omega),hlen];exact⟨⟨q0,by omega⟩,D⟩
  .rw[bc,bN,z]at N;by_cases hz:k=l! ar
   .subst hz;rw[hat,hnew];exact⟨⟨by show (0:Int)<=(j:Int);omega,by show (j:Int)<_;omega⟩,.inl rfl⟩
   .rw[J6 _ (by rw[z,bD];omega)];exact m1.a k (by rw[z];omega)
  .obtain⟨⟨q0,L⟩,D⟩:=m1.r p hp;rw[z]at L;rw[J6 _ (by rw[z];omega),hlen];exact⟨⟨q0,by omega⟩,D⟩
 .rw[av g,av g];exact m1
structure JCw (w:WT) (l:List ET) (j:Nat) (c:List η) (clk:η):Prop where
 ln:l! clk=l! w.2.2.2.2.1
 b:∀u:Nat,0<=clk.getD u 0/\clk.getD u 0<=(ct l u j:Int)
 cl:∀i:Nat,i<j->(c.getD i []).getD (ja l i) 0<=clk.getD (ja l i) 0->wn (c.getD i []) clk
structure CI (w:WT) (l:List ET) (j:Nat) (c:List η) (tm:List ν) (la:η):Prop where
 k:CkL (l! w.2.2.2.2.1) j c tm
 tv:∀i:Nat,i<j->tm.getD i (0,0)=((c.getD i []).getD (ja l i) 0,(ja l i:Int))
 nn:∀i:Nat,i<j->∀u:Nat,0<=(c.getD i []).getD u 0/\(c.getD i []).getD u 0<=(ct l u (i+1):Int)
 own:∀i:Nat,i<j->(c.getD i []).getD (ja l i) 0=(ct l (ja l i) (i+1):Int)
 cls:∀i k:Nat,i<j->k<j->(c.getD i []).getD (ja l i) 0<=(c.getD k []).getD (ja l i) 0->wn (c.getD i []) (c.getD k [])
 lav:∀u:Nat,u<l! w.2.2.2.2.1->(0<=la.getD u 0->la.getD u 0<(j:Int)/\ja l (la.getD u 0).toNat=u/\ct l u j=ct l u ((la.getD u 0).toNat+1))/\(la.getD u 0<0->ct l u j=0)
def CI.cvr {w:WT} {l:Y ET} {c:Y η} {tm:Y ν} {la:η} (h:CI w l j c tm la) (h0:0<=a) (h1:a<(j:Int)) (clk:η):AI.cvr clk (jt tm a)=J↔(jc c a).getD (ja l a.toNat) 0<=clk.getD (ja l a.toNat) 0:=by
 unfold AI.cvr jt jc;rw[h.tv a.toNat (by omega),bU,bD]
def JCw.join {w:WT} {l:Y ET} {c:Y η} {tm:Y ν} {la:η} (h:CI w l j c tm la) (clk:JCw w l j c z) (h0:0<=a) (h1:a<(j:Int)):JCw w l j c (jl z (jc c a)):=by
 have hi:a.toNat<j:=by omega
 refine ⟨by rw[GZ,clk.ln,h.k.jc h0 h1];exact Nat.max_self _,λu=>?_,λk hkj hle=>?_⟩
 .rw[Rk];have i:=clk.b u;have b:=h.nn a.toNat hi u;have d:=Qm l u (show a.toNat+1<=j from hi);have e:jc c a=c.getD a.toNat []:=rfl;rw[e];rcases Z4 (z.getD u 0) ((c.getD a.toNat []).getD u 0) with h|h<;>rw[h]<;>omega
 .rw[Rk]at hle;rcases Z4 (z.getD (ja l k) 0) ((jc c a).getD (ja l k) 0) with e|e
  .rw[e]at hle;exact (clk.cl k hkj hle).trans (Lh _ _)
  .rw[e]at hle;exact (h.cls k a.toNat hkj hi hle).trans (Rg _ _)
def JCw.zero {w:WT} {l:Y ET} {c:Y η} {tm:Y ν} {la:η} (h:CI w l j c tm la):JCw w l j c (aF (l! w.2.2.2.2.1) 0):=by
 have z:∀u:Nat,(aF (l! w.2.2.2.2.1) (0:Int)).getD u 0=0:=λu=>by
  rw[aw,eV];split<;>rfl
 refine ⟨cL ..,λu=>by rw[z];omega,λi hi hle=>?_⟩;rw[z,h.own i hi]at hle;have:=RP l i;omega
def QK (clk:η) (t:Nat):wn clk (tk clk t):=λu=>by
 rw[Gp];split
 next h=>rw[h];omega
 .exact dz _
def CI.next {w:WT} {l:Y ET} {c:Y η} {tm:Y ν} {la:η} (h:CI w l j c tm la) (hla:Ef (l! w.2.2.2.2.1) j la) (t0:0<=(eN l j).1) (t1:(eN l j).1<l! w.2.2.2.2.1) (hk:JCw w l j c z) (hp:0<=la.getD (ja l j) 0->wn (jc c (la.getD (ja l j) 0)) z):
 CI w l (j+1) (c++[tk z (ja l j)]) (tm++[((tk z (ja l j)).getD (ja l j) 0,(eN l j).1)]) (cH la (eN l j).1 (j:Int))/\wn z ((c++[tk z (ja l j)]).getD j [])/\∀u,u≠ja l j->((c++[tk z (ja l j)]).getD j []).getD u 0=z.getD u 0:=by
 have hcl:=h.k.cl;have htl:=h.k.tl;have et:(eN l j).1=(ja l j:Int):=by unfold ja;omega
 have tlt:ja l j<l! w.2.2.2.2.1:=by omega
 have N:∀i:Nat,i<j->(c++[tk z (ja l j)]).getD i []=c.getD i []:=λi hi=>by
  rw[aw,aw,bC (by omega)]
 have gj:(c++[tk z (ja l j)]).getD j []=tk z (ja l j):=by
  rw[aw,<-hcl,nL];rfl
 have tl:∀i:Nat,i<j->(tm++[((tk z (ja l j)).getD (ja l j) 0,(eN l j).1)]).getD i (0,0)=tm.getD i (0,0):=λi hi=>by
  simp only[aw,bC (show i<l! tm by omega)]
 have tj:(tm++[((tk z (ja l j)).getD (ja l j) 0,(eN l j).1)]).getD j (0,0)=((tk z (ja l j)).getD (ja l j) 0,(eN l j).1):=by
  rw[aw,<-htl,nL];rfl
 have hown:z.getD (ja l j) 0=(ct l (ja l j) j:Int):=by
  have hb:=hk.b (ja l j);let⟨a1,a2⟩:=h.lav (ja l j) tlt;by_cases h0:0<=la.getD (ja l j) 0
  .obtain⟨q1,q2,q3⟩:=a1 h0;have:=hp h0 (ja l j);have ho:=h.own (la.getD (ja l j) 0).toNat (by omega);rw[q2]at ho;have e:jc c (la.getD (ja l j) 0)=c.getD (la.getD (ja l j) 0).toNat []:=rfl;rw[e,ho,<-q3]at this;omega
  .have:=a2 (by omega);omega
 have htk:(tk z (ja l j)).getD (ja l j) 0=(ct l (ja l j) (j+1):Int):=by
  rw[Gp,aD rfl,hown,RP];omega
 refine ⟨⟨⟨by simp[hcl],by simp[htl],λi hi=>?_,λi hi=>?_⟩,λi hi=>?_,λi hi u=>?_,λi hi=>?_,λi k hi hkk hle=>?_,λu D=>?_⟩,by rw[gj];exact QK _ _,λu D=>by rw[gj,Gp,av D]⟩
 .rcases bG i j with clk|clk
  .rw[N i clk];exact h.k.ln i clk
  .have:i=j:=by omega
   subst this;rw[gj,Pd,hk.ln];omega
 .rcases bG i j with clk|clk
  .rw[tl i clk];exact h.k.th i clk
  .have:i=j:=by omega
   subst this;rw[tj];exact t0
 .rcases bG i j with clk|clk
  .rw[tl i clk,N i clk];exact h.tv i clk
  .have:i=j:=by omega
   subst this;rw[tj,gj,et]
 .rcases bG i j with clk|clk
  .rw[N i clk];exact h.nn i clk u
  .have:i=j:=by omega
   subst this;rw[gj];by_cases D:u=ja l i
   .rw[D,htk];omega
   .rw[Gp,av D];have:=hk.b u;have:=Qm l u (show i<=i+1 by omega);omega
 .rcases bG i j with clk|clk
  .rw[N i clk];exact h.own i clk
  .have:i=j:=by omega
   subst this;rw[gj];exact htk
 .rcases bG i j with clk|clk
  .rcases bG k j with A|A
   .rw[N i clk,N k A] at*
    exact h.cls i k clk A hle
   .have:k=j:=by omega
    subst this;rw[N i clk,gj] at*
    refine wn.trans (hk.cl i clk ?_) (QK _ _);by_cases D:ja l i=ja l k
    .rw[D,hown];have ho:=h.own i clk;rw[D]at ho;rw[ho];have:=Qm l (ja l k) (show i+1<=k from clk);omega
    .rw[Gp,av D]at hle;exact hle
  .have:i=j:=by omega
   subst this;rcases bG k i with A|A
   .rw[N k A,gj,htk]at hle;have:=(h.nn k A (ja l i)).2;have:=Qm l (ja l i) (show k+1<=i from A);have:=RP l i;omega
   .have:k=i:=by omega
    subst this;exact wn.rfl
 .rw[et,tI];have hll:=hla.1;rw[aw,dG];by_cases L:ja l j=u
  .rw[aD L,aD (by omega)];simp only[wF];refine ⟨λ_=>⟨by omega,by rw[bD];exact L,by rw[bD]⟩,λhz=>by omega⟩
  .rw[av L,<-aw];have hc:ct l u (j+1)=ct l u j:=by simp only[ct,av L,cW]
   rw[hc];let⟨a1,a2⟩:=h.lav u D;refine ⟨λhz=>?_,a2⟩;let⟨q1,q2,q3⟩:=a1 hz;exact⟨by omega,q2,q3⟩
structure WkG (w:WT) (l:List ET) (j:Nat) (c:List η) (tm:List ν) (la sp wa wt st se:η) (op:List (ν×Int)) (re:η) (ar:List WO) (si ei:List η):Prop where
 ci:CI w l j c tm la
 ws:WS j op re ar
 la:Ef (l! w.2.2.2.2.1) j la
 sp:Ef (l! w.2.2.2.2.1) j sp
 wa:Ef (l! w.2.2.2.2.1) j wa
 wt:l! wt=l! w.2.2.2.2.1
 st:NH (l! w.1) j st si
 se:NH (l! w.2.2.2.1) j se ei
structure JK (w:WT) (c:List η) (tm:List ν) (src:η) (op:List (ν×Int)) (re:η) (ar:List WO) (e:ET) (I:η->Prop):Prop where
 i0:I (aF (l! w.2.2.2.2.1) 0)
 i1:∀clk i,i∈src->0<=i->I clk->I (jl clk (jc c i))
 i2:∀clk (lk:Int) p,(e.2.1=3\/e.2.1=4)->0<=lk->lk<=(l! w.2.1:Int)->kn (e.1,lk) op=J->p∈re->rP (bq ar p) (bq ar (dc (e.1,lk) op))=J->Si (bq ar p) e=J->I clk->I (jl clk (jc c (bq ar p).en))
 i3:∀clk p,kn (e.1,iD w e) op=J->p∈re->rP (bq ar p) (bq ar (dc (e.1,iD w e) op))=J->cvr clk (jt tm (bq ar p).bg)=J->I clk->I (jl clk (jc c (bq ar p).en))
structure CKj (w:WT) (l:List ET) (j:Nat) (c:List η) (tm:List ν) (la sp wa:η) (op:List (ν×Int)) (re:η) (ar:List WO) (si ei:List η) (clk:η):Prop where
 jc:JCw w l j c clk
 jr:JR w c tm (vo w la sp wa si ei (eN l j)) op re ar (eN l j) clk
 js:∀I,JK w c tm (vo w la sp wa si ei (eN l j)) op re ar (eN l j) I->I clk
def TR.note {w:WT} {l:Y ET} (A:TR (w,l)) (L:j<l! l):(eN l j).2.1=18->(eN l j).2.2.2.1<l! w.2.2.2.2.1:=λh=>by
 have sc:=A.sc L;have en:=sc.en;have z:=sc.va.el (by omega) (by omega) (by omega) (by omega) (by omega);rw[h,HC]at z;split at z
 .have z:(eN l j).2.2.2.1= -1:=z;omega
 next D=>have:=(Kh (u:=(eN l j).2.2.2.1) D).2;have e3:=en.e3;have z:(eN l j).2.2.2.1=Dy _ _:=z;rw[<- z]at this;omega
def aba (w:WT) (la sp wa:η) (si ei:Y η) (e:ET):geti aL la e.1∈vo w la sp wa si ei e:=by
 unfold vo;exact fW _ (aB.2 rfl)
def ajm {w:WT} (hev:SH w e) {la sp wa st se:η} {si ei:Y η} (h1:Ef (l! w.2.2.2.2.1) j la) (N:Ef (l! w.2.2.2.2.1) j sp) (L:Ef (l! w.2.2.2.2.1) j wa) (D:NH (l! w.1) j st si) (A:NH (l! w.2.2.2.1) j se ei):∀v∈vo w la sp wa si ei e,v<(j:Int):=by
 have t0:=hev.t0;have t1:=hev.t1;have q:∀{n:Nat} {xs:η} {xss:Y η} {o:Int},NH n j xs xss->0<=o->o<n->∀v∈qY (T:=aL) xss o,v<(j:Int):=λ{n xs xss o} h o0 o1 v z=>by
  have e:o=((o.toNat:Nat):Int):=by omega
  rw[e,yU]at z;exact ((h.2.2 o.toNat (by omega)).2.2 v z).2
 intro v z;unfold vo at z;rcases bA.1 z with z|z
 .rw[aB]at z;rw[z];exact (h1.geti t0 t1).2
 .split at z
  .rw[aB]at z;rw[z];exact (N.geti t0 t1).2
  .split at z
   next g=>rw[aB]at z;rw[z];exact (h1.geti (hev.nm.th (.inr g)).1 (hev.nm.th (.inr g)).2).2
   .split at z
    next g=>exact q A (hev.nm.fu (.inr g)).1 (hev.nm.fu (.inr g)).2 v z
    .split at z
     .rename_i g;split at z
      .exact q D (hev.nm.ce (.inl g)).1 (hev.nm.ce (.inl g)).2 v z
      .cases z
     .split at z
      .rw[aB]at z;rw[z];exact (L.geti t0 t1).2
      .cases z
def WkG.step {w:WT} {l:Y ET} (D:TR (w,l)) (L:j<l! l) {c:Y η} {tm:Y ν} {la sp wa wt st se:η} {op:Y d?} {re:η} {ar:Y WO} {si ei:Y η} (g:WkG w l j c tm la sp wa wt st se op re ar si ei):
 Ok (gi (((j:Int),eN l j),(w,l),c,tm,la,sp,wa,wt,st,se,op,re,ar,si,ei)) λy=>∃clk,CKj w l j c tm la sp wa op re ar si ei clk/\y=((w,l),cH la (eN l j).1 (j:Int),Jb (j:Int) (eN l j) sp,Ja (j:Int) (eN l j) wt wa,NK (eN l j) wt,O1 4 (j:Int) (eN l j) st si,O1 22 (j:Int) (eN l j) se ei,SJ w (eN l j) op (oN w (eN l j) op ar),c++[tk clk (ja l j)],tm++[((tk clk (ja l j)).getD (ja l j) 0,(eN l j).1)],AA w (eN l j) op re,Pm w (j:Int) (eN l j) op (oN w (eN l j) op ar),Qs 4 (j:Int) (eN l j) si,Qs 22 (j:Int) (eN l j) ei):=by
 have hl:l! l<=400:=D.len;have wb:=D.wb;have hev:SH w (eN l j):=D.ev _ (zK L);have hen:=g.ws.en;have hlt:=ajm hev g.la g.sp g.wa g.st g.se;have htm:∀p∈re,cvr (jc c (bq ar p).en) (jt tm (bq ar p).en)=J:=λp hp=>by
  let⟨_,_,q0,A⟩:=hen p hp;exact (g.ci.cvr q0 A _).2 (dz _)
 have hrl:=g.ws.rl;refine Ok.mono (ajk (I:=λclk=>JCw w l j c clk/\∀I,JK w c tm (vo w la sp wa si ei (eN l j)) op re ar (eN l j) I->I clk) hev (by omega) wb.t wb.l (D.note L) g.la g.sp g.wa g.wt g.st g.se g.ci.k g.ws.op g.ws.oo hen (by omega) htm ?_) ?_
 .refine ⟨⟨JCw.zero g.ci,λI h=>h.i0⟩,λclk i hi h0 z=>⟨z.1.join g.ci h0 (hlt i hi),λI h=>h.i1 clk i hi h0 (z.2 I h)⟩,λclk lk p a b d f hp m1 m2 z=>?_,λclk p a hp m1 m2 z=>?_,λclk z=>?_⟩
  .obtain⟨_,_,q0,A⟩:=hen p hp;exact⟨z.1.join g.ci q0 A,λI h=>h.i2 clk lk p a b d f hp m1 m2 (z.2 I h)⟩
  .obtain⟨_,_,q0,A⟩:=hen p hp;exact⟨z.1.join g.ci q0 A,λI h=>h.i3 clk p a hp m1 m2 (z.2 I h)⟩
  .have:=z.1.b (eN l j).1.toNat;have:=alb l (eN l j).1.toNat j;exact⟨z.1.ln,by omega,by omega⟩
 .rintro y ⟨clk,⟨⟨k1,k2⟩,k3⟩,N⟩;exact⟨clk,⟨k1,k3,k2⟩,N⟩
def WkG.next {w:WT} {l:Y ET} (clk:TR (w,l)) (D:j<l! l) {c:Y η} {tm:Y ν} {la sp wa wt st se:η} {op:Y d?} {re:η} {ar:Y WO} {si ei:Y η} (g:WkG w l j c tm la sp wa wt st se op re ar si ei) (A:CKj w l j c tm la sp wa op re ar si ei z):
 WkG w l (j+1) (c++[tk z (ja l j)]) (tm++[((tk z (ja l j)).getD (ja l j) 0,(eN l j).1)]) (cH la (eN l j).1 (j:Int)) (Jb (j:Int) (eN l j) sp) (Ja (j:Int) (eN l j) wt wa) (NK (eN l j) wt) (O1 4 (j:Int) (eN l j) st si) (O1 22 (j:Int) (eN l j) se ei) (SJ w (eN l j) op (oN w (eN l j) op ar)) (AA w (eN l j) op re) (Pm w (j:Int) (eN l j) op (oN w (eN l j) op ar)) (Qs 4 (j:Int) (eN l j) si) (Qs 22 (j:Int) (eN l j) ei):=by
 have hev:SH w (eN l j):=clk.ev _ (zK D);have t0:=hev.t0;have t1:=hev.t1;have L:(eN l j).1=(ja l j:Int):=by unfold ja;omega
 have sam:=Nk (w:=w) (e:=eN l j) g.ws.op g.ws.oo;have hlast:geti aL la (eN l j).1=la.getD (ja l j) 0:=by rw[L,CQ]
 refine ⟨(g.ci.next g.la t0 t1 A.jc λh0=>?_).1,(g.ws.sam sam).next,?_,g.sp.sp _ λh=>(hev.nm.th (.inl h)).1,g.wa.wa _ (clk.note D),by rw[Kq];exact g.wt,g.st.ad 4 _ λh=>(hev.nm.ce (.inr h)).1,g.se.ad 22 _ λh=>(hev.nm.fu (.inl h)).1⟩
 .rw[<- hlast];exact A.jr.a _ (aba ..) (by rw[hlast];exact h0)
 .rw[L];exact g.la.set _ (by omega) (dz _)
def ak8 {n:Nat} (A:n<=1000):lB (n:Int)=Z (aF n (-1)):=by
 refine cz ?_;unfold lB zE ck bM bX cQ aG cN;refine cY (cY (a? (a? (bt (by rw[bD];omega) (by omega) ?_))));rw[bD];refine iy n (by omega) (λi x=>x=((i:Int),aF i (-1)++aF (n-i) 0)) ?_ ?_ (by simp)
 .rintro i x hi rfl;refine du ?_ (by simp only[cL,ak];omega);have z:fe (i:Int) (ah (aF i (-1:Int)++aF (n-i) 0))=J:=Kc.2 ⟨by omega,by simp;omega⟩;refine a8 z (a8 z (aj ?_));show (bl .i64 ((i:Int)+1),cH (aF i (-1:Int)++aF (n-i) 0) (i:Int) (-1))=_;rw[gQ,tI];refine pP rfl ?_;show pR _ i (-1)=_;have h1:n-i=(n-(i+1))+1:=by omega
  rw[List.set_append_right _ _ (by simp),cL,wG,h1,m8,List.set_cons_zero,wg (n:=i),iP];rfl
 .rintro x rfl;refine dg (aj ?_) (by simp only[cL,ak];omega);simp
def WkG.zero (w:WT) (l:Y ET):WkG w l 0 [] [] (aF (l! w.2.2.2.2.1) (-1)) (aF (l! w.2.2.2.2.1) (-1)) (aF (l! w.2.2.2.2.1) (-1)) (aF (l! w.2.2.2.2.1) (-1)) (aF (l! w.1) 0) (aF (l! w.2.2.2.1) 0) [] [] [] (aF (l! w.1) []) (aF (l! w.2.2.2.1) []):=by
 have m1:∀(n u:Nat),u<n->(aF n (-1:Int)).getD u 0= -1:=λn u h=>by
  rw[aw,eV,aD h];rfl
 have rw_:∀n:Nat,Ef n 0 (aF n (-1)):=λn=>⟨cL ..,λu z=>by rw[m1 n u z];omega⟩
 have A:∀n:Nat,NH n 0 (aF n 0) (aF n []):=λn=>⟨cL ..,cL ..,λo D=>by
  rw[aw,aw,eV,eV,aD D,aD D];exact⟨rfl,bO _,λv N=>by cases N⟩⟩
 refine ⟨⟨⟨rfl,rfl,λi hi=>b8 hi (h_ _),λi hi=>b8 hi (h_ _)⟩,λi hi=>b8 hi (h_ _),λi hi=>b8 hi (h_ _),λi hi=>b8 hi (h_ _),λi k hi=>b8 hi (h_ _),λu z=>⟨λh=>by rw[m1 _ u z]at h;omega,λ_=>rfl⟩⟩,⟨List.nodup_nil,λx L=>(by cases L),λk hk=>b8 hk (h_ _),λp hp=>(by cases hp),bO _⟩,rw_ _,rw_ _,rw_ _,cL ..,A _,A _⟩
def WkH:Type:=Nat->Y η->Y ν->η->η->η->η->η->η->Y d?->η->Y WO->Y η->Y η->Prop
structure HK (w:WT) (l:List ET) (H:WkH):Prop where
 z:H 0 [] [] (aF (l! w.2.2.2.2.1) (-1)) (aF (l! w.2.2.2.2.1) (-1)) (aF (l! w.2.2.2.2.1) (-1)) (aF (l! w.2.2.2.2.1) (-1)) (aF (l! w.1) 0) (aF (l! w.2.2.2.1) 0) [] [] [] (aF (l! w.1) []) (aF (l! w.2.2.2.1) [])
 s:∀j c tm la sp wa wt st se op re ar si ei clk,j<l! l->WkG w l j c tm la sp wa wt st se op re ar si ei->H j c tm la sp wa wt st se op re ar si ei->CKj w l j c tm la sp wa op re ar si ei clk->
  H (j+1) (c++[tk clk (ja l j)]) (tm++[((tk clk (ja l j)).getD (ja l j) 0,(eN l j).1)]) (cH la (eN l j).1 (j:Int)) (Jb (j:Int) (eN l j) sp) (Ja (j:Int) (eN l j) wt wa) (NK (eN l j) wt) (O1 4 (j:Int) (eN l j) st si) (O1 22 (j:Int) (eN l j) se ei) (SJ w (eN l j) op (oN w (eN l j) op ar)) (AA w (eN l j) op re) (Pm w (j:Int) (eN l j) op (oN w (eN l j) op ar)) (Qs 4 (j:Int) (eN l j) si) (Qs 22 (j:Int) (eN l j) ei)
def ac8 {w:WT} {l:Y ET} (A:TR (w,l)) {H:WkH} (N:HK w l H):Ok (lh (w,l)) λy=>∃c tm la sp wa wt st se op re ar si ei,y=((w,l),c,tm,la,sp,wa,wt,st,se,op,re,ar,si,ei)/\WkG w l (l! l) c tm la sp wa wt st se op re ar si ei/\H (l! l) c tm la sp wa wt st se op re ar si ei:=by
 have hl:l! l<=400:=A.len;have wb:=A.wb;have hT:=wb.t;have hC:=wb.c;have hF:=wb.f;dsimp only at hT hC hF;unfold lh uS lz mh mg B7 aW bm bF cG ep jW mr nJ Prod.z Prod.r bM bX bQ be cQ aG cN;dsimp only;have D:=ak8 (n:=l! w.2.2.2.2.1) (by omega);refine aT D (aT D (aT D (aT D ?_)));refine cY (cY (dL (by dsimp only[ak];omega) (a? (bt (by simp only[ak,bD];omega) (by omega) ?_))));refine cY (cY (dL (by dsimp only[ak];omega) (a? (bt (by simp only[ak,bD];omega) (by omega) ?_))));refine iy (l! l) (by omega) (λi x=>∃c tm la sp wa wt st se op re ar si ei,x=((i:Int),(w,l),c,tm,la,sp,wa,wt,st,se,op,re,si,ei,ar)/\WkG w l i c tm la sp wa wt st se op re ar si ei/\H i c tm la sp wa wt st se op re ar si ei) ?_ ?_ ⟨_,_,_,_,_,_,_,_,_,_,_,_,_,by simp only[ak,bD];rfl,WkG.zero w l,N.z⟩
 .rintro i x hi ⟨c,tm,la,sp,wa,wt,st,se,op,re,ar,si,ei,rfl,g,h⟩;refine du ?_;refine cu (aS ?_);refine ax (g.step A hi) ?_;rintro y ⟨clk,L,rfl⟩;dsimp only;refine a8 (by simp only[b7,S4,S1,Kq,aas,fm,fy]) (aj ⟨_,_,_,_,_,_,_,_,_,_,_,_,_,?_,g.next A hi L,N.s i c tm la sp wa wt st se op re ar si ei clk hi g h L⟩);show (bl .i64 ((i:Int)+1),_)=_;rw[gQ]
 .rintro x ⟨c,tm,la,sp,wa,wt,st,se,op,re,ar,si,ei,rfl,g,h⟩;exact dg (aj ⟨c,tm,la,sp,wa,wt,st,se,op,re,ar,si,ei,rfl,g,h⟩)
def alv:uO ()=Z J:=by kernel_rfl
abbrev IT:Type:=ω
abbrev CT:Type:=WT×Y (Int×Y IT)
def tw (a b:Int):jZ (a,b)=Z (decide (0<=a/\a<b)):=by
 refine cz ?_;unfold jZ j_ aG;with_reducible repeat' first|apply OS.ok;constructor|refine IM.mk λ_=>?_
 .by_cases h:a<b<;>simp[*,fK]
 .simp;omega
def HJ (k:Int):qN k=Z (decide (1<=k/\k<=5)):=by
 refine cz ?_;unfold qN j_ aG;with_reducible repeat' first|apply OS.ok;constructor|refine IM.mk λ_=>?_
 .by_cases h:k<=5<;>simp[*,dm]
 .simp;omega
def je (i:IT):η:=
 if i.1=1\/i.1=6\/i.1=10\/i.1=27 then [i.2.1]
 else if i.1=2\/i.1=3 then [i.2.1,i.2.2.1]
 else if i.1=4 then [i.2.1,i.2.2.1,i.2.2.2.1]
 else if i.1=7 then [i.2.1,i.2.2.2.1]
 else if i.1=8\/i.1=26 then [i.2.2.1]
 else if i.1=9 then [i.2.2.1,i.2.2.2.1]
 else []
def uY (i:IT):kC i=Z (je i):=by
 let⟨z,i2⟩:=i;unfold kC je aW bm bF bi aG;by_cases h1:z=1
 .subst h1;rfl
 by_cases h2:z=6
 .subst h2;rfl
 by_cases h3:z=10
 .subst h3;rfl
 by_cases h4:z=27
 .subst h4;rfl
 by_cases h5:z=2
 .subst h5;rfl
 by_cases h6:z=3
 .subst h6;rfl
 by_cases h7:z=4
 .subst h7;rfl
 by_cases N:z=7
 .subst N;rfl
 by_cases L:z=8
 .subst L;rfl
 by_cases D:z=26
 .subst D;rfl
 by_cases A:z=9
 .subst A;rfl
 simp only[h1,h2,h3,h4,h5,h6,h7,N,L,D,A,decide_false,bcF,jnr,fF,dv]
def EJ (z:IT):l! (je z)<=3:=by
 unfold je
 (repeat' split)<;>simp
def agc (l:Y IT) (a:Int) (L:l! l<=1000000):Ok (qB (l,a)) λ_=>True:=by
 unfold qB bi bM j_ bQ be cQ aG cN;refine rx (λx=>((l! l:Int)+1-x.2).toNat) (λx=>0<=x.2/\x.2<=(l! l:Int)+1) ?_ ⟨by dsimp only;omega,by dsimp only;omega⟩;rintro⟨(a:Int),(n:Int)⟩ ⟨h0,h1⟩;dsimp only at h0 h1;refine fc (λg=>?_) λ_=>aj trivial
 dsimp only[ak]at g;refine aU (λ_=>True) ?_ λb _=>aj ?_
 .refine aU (λb=>b=aa->0<=a/\a<(l! l:Int)) ?_ ?_
  .refine bL (λ_=>aj nofun) λz=>aj λh=>?_
   rw[mX]at h;dsimp only[ak]at h z;exact⟨z,h⟩
  .intro b A;refine aN (λ_=>aj trivial) λh=>?_
   let⟨q0,D⟩:=A h;refine aM q0 (by dsimp only;omega) (aS ?_);refine aT (HJ _) ?_;refine em (λ_=>aj trivial) λ_=>?_
   refine aM q0 (by dsimp only;omega) (aS ?_);refine aI (λ_=>?_) λ_=>aj trivial
   exact aM q0 (by dsimp only;omega) (aS (aj trivial))
 .dsimp only;rw[iQ];exact⟨⟨by omega,by omega⟩,by omega⟩
structure AR (w:WT) (b n:Int):Prop where
 b0:0<=b
 b1:b<l! w.1
 ix:(geti mf w.1 b).2.1=0
 sz:¬(geti mf w.1 b).2.2.1=0
 sn:(geti mf w.1 b).2.2.1=n
def Wh (w:WT) (b n:Int):Ok (oE (w,b,n)) λr=>r=J->AR w b n:=by
 unfold oE bi iE bQ be aG;refine gV ?_;refine aT (tw _ _) ?_;refine aI (λh=>?_) λ_=>aj (aj nofun)
 refine aM h.1 h.2 (aS (aI (λh1=>?_) λ_=>aj (aj nofun)));refine aM h.1 h.2 (aS (ch (λA=>?_) λ_=>aj (aj nofun)));exact aM h.1 h.2 (aS (aj (aj λz=>⟨h.1,h.2,h1,A,bx z⟩)))
def XC (w:WT) (i:IT):Ok (mE (w,i)) λb=>b=J->(i.1=7->AR w i.2.2.1 i.2.2.2.2.1)/\(i.1=9->AR w i.2.1 i.2.2.2.2.1):=by
 have z:∀{b:Bool},¬i.1=7->¬i.1=9->b=J->(i.1=7->AR w i.2.2.1 i.2.2.2.2.1)/\(i.1=9->AR w i.2.1 i.2.2.2.2.1):=λh1 A _=>⟨λh=>(h1 h).elim,λh=>(A h).elim⟩
 unfold mE aW bm bF cG ep bi j_ bQ be aG;simp only[tw,ZO];refine aI (λN=>?_) λ_=>?_
 .refine aU (λ_=>True) ?_ λ_ _=>aj (z (by have N:i.1=6:=N;omega) (by have N:i.1=6:=N;omega))
  refine aI (λh=>?_) λ_=>aj trivial
  exact aM h.1 h.2 (aS (aj trivial))
 refine aI (λD=>?_) λ_=>?_
 .refine aU (λ_=>True) ?_ λ_ _=>aj (z (by have D:i.1=8:=D;omega) (by have D:i.1=8:=D;omega))
  refine aI (λh=>?_) λ_=>aj trivial
  exact aM h.1 h.2 (aS (aj trivial))
 refine aI (λL=>?_) λn7=>?_
 .exact ax (Wh _ _ _) λ_ h=>aj λA=>⟨λ_=>h A,λh9=>by have L:i.1=7:=L;omega⟩
 refine aI (λh9=>?_) λn9=>?_
 .exact ax (Wh _ _ _) λ_ h=>aj λA=>⟨λL=>(n7 L).elim,λ_=>h A⟩
 have z:∀{b:Bool},b=J->(i.1=7->AR w i.2.2.1 i.2.2.2.2.1)/\(i.1=9->AR w i.2.1 i.2.2.2.2.1):=z n7 n9;refine aU (λx=>x.2=(w,i)) (aI (λ_=>aj rfl) λ_=>aj rfl) ?_;rintro⟨b,x⟩ e;dsimp only at e;subst e;refine aN (λ_=>?_) λ_=>?_
 .refine aU (λ_=>True) ?_ λ_ _=>aj z
  refine aI (λh=>?_) λ_=>aj trivial
  exact aM h.1 h.2 (aS (aj trivial))
 refine aU (λx=>x.2=(w,i)) (aI (λ_=>aj rfl) λ_=>aI (λ_=>aj rfl) λ_=>aI (λ_=>aj rfl) λ_=>aj rfl) ?_;rintro⟨b,x⟩ e;dsimp only at e;subst e;refine aN (λ_=>?_) λ_=>?_
 .refine aU (λ_=>True) ?_ λ_ _=>aj z
  refine aI (λh=>?_) λ_=>aj trivial
  exact aM h.1 h.2 (aS (aj trivial))
 refine aU (λx=>x.2=(w,i)) (aI (λ_=>aj rfl) λ_=>aI (λ_=>aj rfl) λ_=>aj rfl) ?_;rintro⟨b,x⟩ e;dsimp only at e;subst e;refine aN (λ_=>aj z) λ_=>?_
 refine aU (λx=>x.2=(w,i)) (aI (λ_=>aj rfl) λ_=>aj rfl) ?_;rintro⟨b,x⟩ e;dsimp only at e;subst e;with_reducible repeat' first|apply OS.ok;constructor|refine IM.mk λ_=>?_
 all_goals exact z
structure VI (n:Int) (i:IT):Prop where
 o1:1<=i.1
 o2:i.1<=28
 r:∀j∈je i,0<=j/\j<n
structure VT (t:Int×List IT):Prop where
 r0:0<=t.1
 r1:t.1<=32
 i:∀i∈t.2,VI t.1 i
structure VJ (w:WT) (k:Int) (i:IT):Prop where
 a7:i.1=7->AR w i.2.2.1 i.2.2.2.2.1
 a9:i.1=9->AR w i.2.1 i.2.2.2.2.1
 se:i.1=28->i.2.2.2.2.2= -1
 si:¬i.1=28->0<=i.2.2.2.2.2/\i.2.2.2.2.2<l! w.2.2.2.2.2/\(geti pO w.2.2.2.2.2 i.2.2.2.2.2).1=k
def Kr (w:WT) (k:Int) (c:Int×Y IT) (hc:l! c.2<=1000000):Ok (iH (w,k,c)) λb=>b=J->VT c/\∀i∈c.2,VJ w k i:=by
 unfold iH aW bm bF cG cg dk En bi bM iE bQ be cQ aG cN;refine aU (λx=>x.2=(w,c)/\(x.1=aa->0<=c.1/\c.1<=32)) ?_ ?_
 .refine bL (λ_=>aj ⟨rfl,nofun⟩) λh0=>bL (λ_=>aj ⟨rfl,nofun⟩) λh1=>aj ⟨rfl,λ_=>⟨h0,h1⟩⟩
 rintro⟨b,x⟩ ⟨e,L⟩;dsimp only at e L;subst e;refine aN (λ_=>aj nofun) λh=>?_
 let⟨r0,r1⟩:=L h;refine cm (l! c.2) (λi x=>x.1=(i:Int)/\x.2=(w,c)/\∀q:Nat,q<i->VI c.1 (geti sx c.2 (q:Int))/\VJ w k (geti sx c.2 (q:Int))) ?_ ?_ ⟨rfl,rfl,λk hk=>by omega⟩
 .rintro i ⟨a,x⟩ hi ⟨N,e2,D⟩;dsimp only at N e2 D;subst N e2;refine du ?_;refine cu (aS ?_);generalize hz:(geti _ _ _)=z;refine aU (λx=>x.2=(w,c,z)/\(x.1=aa->(1<=z.1/\z.1<=28)/\(z.1=7->AR w z.2.2.1 z.2.2.2.2.1)/\(z.1=9->AR w z.2.1 z.2.2.2.2.1))) ?_ ?_
  .refine bL (λ_=>aj ⟨rfl,nofun⟩) λh0=>bL (λ_=>aj ⟨rfl,nofun⟩) λh1=>?_
   refine aN (λ_=>aj ⟨rfl,nofun⟩) λ_=>?_
   refine ax (XC w z) λy hy=>?_
   refine em (λ_=>aj ⟨rfl,nofun⟩) λhyt=>?_
   exact ax (agc c.2 _ hc) λy _=>aj ⟨rfl,λ_=>⟨⟨h0,h1⟩,hy hyt⟩⟩
  rintro⟨b,x⟩ ⟨e,L⟩;dsimp only at e L;subst e;refine aN (λ_=>aj nofun) λh=>?_
  let⟨⟨o1,o2⟩,a7,a9⟩:=L h;refine aU (λx=>x.2=(w,c,z)/\(x.1=aa->(z.1=28->z.2.2.2.2.2= -1)/\(¬z.1=28->0<=z.2.2.2.2.2/\z.2.2.2.2.2<l! w.2.2.2.2.2/\(geti pO w.2.2.2.2.2 z.2.2.2.2.2).1=k))) ?_ ?_
  .simp only[tw,ZO];refine aI (λA=>?_) λA=>?_
   .refine ch (λ_=>aj ⟨rfl,nofun⟩) λhm=>?_
    exact ch (λh=>(h A).elim) λ_=>aj ⟨rfl,λ_=>⟨λ_=>hm,λh=>(h A).elim⟩⟩
   .refine ch (λ_=>?_) λh=>(A h).elim
    refine ch (λ_=>aj ⟨rfl,nofun⟩) λh=>?_
    exact aM h.1 h.2 (aS (aj ⟨rfl,λh2=>⟨λh3=>(A h3).elim,λ_=>⟨h.1,h.2,by simpa using h2⟩⟩⟩))
  rintro⟨b,x⟩ ⟨e,hsi⟩;dsimp only at e hsi;subst e;refine aN (λ_=>aj nofun) λhbs=>?_
  let⟨se,si⟩:=hsi hbs;refine aU (λx=>x.2=(w,c,z)) ?_ ?_
  .simp only[tw,ZO];with_reducible repeat' first|apply OS.ok;constructor|refine IM.mk λ_=>?_
   all_goals rfl
  rintro⟨b,x⟩ e;dsimp only at e;subst e;refine aN (λ_=>aj nofun) λ_=>?_
  refine aT (uY z) ?_;refine cm (l! (je z)) (λj x=>x.1=(j:Int)/\x.2=(w,c)/\∀k:Nat,k<j->0<=geti aL (je z) (k:Int)/\geti aL (je z) (k:Int)<c.1) ?_ ?_ ⟨rfl,rfl,λk hk=>by omega⟩
  .rintro j ⟨a,x⟩ hj ⟨d1,d2,d3⟩;dsimp only at d1 d2 d3;subst d1 d2;refine du ?_;refine cu (aS ?_);refine aT (tw _ _) ?_;refine ch (λ_=>aj nofun) λh=>aj ?_
   dsimp only at h ⊢;have hj32:l! (je z)<=3:=EJ z;refine ⟨gQ,rfl,λk hk=>?_⟩;rcases bG k j with h1|h1
   .exact d3 k h1
   .rw[show k=j by omega];exact h
  .rintro⟨a,x⟩ ⟨d1,d2,d3⟩;dsimp only at d1 d2 d3;subst d1 d2;refine dg (aj ?_);dsimp only;refine ⟨gQ,rfl,λk hk=>?_⟩;rcases bG k i with h1|h1
   .exact D k h1
   .rw[show k=i by omega,hz];exact⟨⟨o1,o2,iL (T:=aL) d3⟩,⟨a7,a9,se,si⟩⟩
 .rintro⟨a,x⟩ ⟨N,e2,D⟩;dsimp only at N e2 D;subst N e2;refine dg (aj λ_=>⟨⟨r0,r1,iL (T:=sx) (p:=VI c.1) λq hq=>(D q hq).1⟩,iL (T:=sx) (p:=VJ w k) λq hq=>(D q hq).2⟩)
structure VC (c:CT):Prop where
 vl:VL c.1
 tl:l! c.2=l! c.1.2.2.2.2.1
 t:∀t∈c.2,VT t
 sv:SV0 c.1
 j:∀k:Nat,k<l! c.2->∀i∈(geti yL c.2 (k:Int)).2,VJ c.1 (k:Int) i
structure CB (c:CT):Prop where
 th:l! c.2<=1000000
 ins:∀t∈c.2,l! t.2<=1000000
 rg:∀t∈c.2,1<=t.1
 wx:WX c.1
 ok:kB c=Z J
def Wu (c:CT) (h1:l! c.2<=1000000) (h2:∀t∈c.2,l! t.2<=1000000):Ok (kB c) λb=>b=J->VC c:=by
 let⟨w,l⟩:=c;dsimp only at h1 h2;unfold kB bF bM bQ be cQ aG cN;refine aU (λx=>x.2=(w,l)/\(x.1=aa->(VL w/\SV0 w)/\l! l=l! w.2.2.2.2.1)) ?_ ?_
 .refine ax (Dz w) λb N=>?_
  refine em (λ_=>aj ⟨rfl,nofun⟩) λh=>aj ⟨rfl,λh3=>⟨N h,?_⟩⟩
  simp at h3;omega
 rintro⟨b,x⟩ ⟨e,hx⟩;dsimp only at e hx;subst e;refine aN (λ_=>aj nofun) λh=>?_
 let⟨⟨hv,hsv⟩,hl⟩:=hx h;refine cm (l! l) (λi x=>x.1=(i:Int)/\x.2=(w,l)/\∀k:Nat,k<i->VT (geti yL l (k:Int))/\∀q∈(geti yL l (k:Int)).2,VJ w (k:Int) q) ?_ ?_ ⟨rfl,rfl,λk D=>by omega⟩
 .rintro i ⟨a,x⟩ hi ⟨L,e2,A⟩;dsimp only at L e2 A;subst L e2;refine du ?_;refine cu (aS ?_);have hm:=bP (T:=yL) (xs:=l) (j:=(i:Int)) (by omega) (by omega);revert hm;generalize hz:(geti yL l (i:Int))=z;intro hm;refine ax (Kr w _ z (h2 z hm)) λb N=>?_
  refine em (λ_=>aj nofun) λh=>aj ?_
  dsimp only;refine ⟨gQ,rfl,λk D=>?_⟩;rcases bG k i with h1|h1
  .exact A k h1
  .rw[show k=i by omega,hz];exact N h
 .rintro⟨a,x⟩ ⟨L,e2,A⟩;dsimp only at L e2 A;subst L e2;refine dg (aj λ_=>⟨hv,hl,iL (T:=yL) (p:=VT) λk D=>(A k D).1,hsv,λk D=>(A k D).2⟩)
section
abbrev TT:Type:=Int×η×Y η×Int
structure TL (F:Int->Prop) (E:Nat) (l:η):Prop where
 a:JS l
 m:∀y∈l,0<=y/\y<(E:Int)
 f:∀y∈l,F y
variable {F:Int->Prop}
def TL.len {l:η} (h:TL F i l):l! l<=i:=by
 have:=Kk l 0 i h.a h.m;omega
def TL.nil (E:Nat):TL F E []:=⟨trivial,λy z=>(by cases z),λy z=>(by cases z)⟩
def TL.uni {b:η} (D:TL F i z) (A:TL F i b):TL F i (xI z b):=
 ⟨S6 z b,λy a=>by
   rcases AQ.1 a with h|h
   .exact D.m y h
   .exact A.m y h,λy a=>(AQ.1 a).elim (D.f y) (A.f y)⟩
def TL.mono {A:Int->Prop} {l:η} (h:TL F i l) (hf:i<=j) (L:∀y,F y->A y):TL A j l:=⟨h.a,λy z=>⟨(h.m y z).1,by have:=(h.m y z).2;omega⟩,λy z=>L y (h.f y z)⟩
structure TH (F:Int->Prop) (E:Nat) (s:TT):Prop where
 r:l! s.2.1<=32
 t:l! s.2.2.1<=32
 l:∀l∈s.2.2.1,TL F E l
 e0:0<=s.2.2.2
 e1:s.2.2.2<=(E:Int)
def TH.zero (E:Nat):TH F E (0,[],[],0):=⟨by simp,by simp,λl z=>(by cases z),by simp,by simp⟩
def TH.mono {z:Int->Prop} {s:TT} (h:TH F i s) (hf:i<=j) (L:∀y,F y->z y):TH z j s:=⟨h.r,h.t,λl D=>(h.l l D).mono hf L,h.e0,by have:=h.e1;omega⟩
def dj (s:TT) (E:Nat) (hE:E<=100000) (h:TH F E s):cC s=Z ((s.1,s.2.2.2),s.2.1,s.2.2.1):=by
 let⟨h1,h2,h3,h4,h5⟩:=h;refine cz ?_;unfold cC aW bm bF cg dk bM bX bQ be cQ aG cN;refine a! ?_;refine cm (l! s.2.2.1) (λi x=>x.1=(i:Int)/\x.2.1=s/\x.2.2.2.1=(s.1,s.2.2.2)/\x.2.2.2.2.1=s.2.1/\x.2.2.2.2.2=s.2.2.1.take i) ?_ ?_ ⟨rfl,rfl,rfl,rfl,rfl⟩
 .rintro i ⟨a,b,c,d,e,f⟩ hi ⟨L,e2,D,A,z⟩;dsimp only at L e2 D A z;subst L e2 z;refine du ?_;refine cu (aS ?_);have N:=(h3 _ (bP (T:=.sl (.int .i64)) (xs:=b.2.2.1) (j:=(i:Int)) (by omega) (by omega))).len;refine bt (by simp only[mR,bT];exact c4 N (by omega)) (by omega) ?_;refine a! (aj ?_);dsimp only;refine ⟨gQ,rfl,D,A,?_⟩;rw[pA (T:=.sl (.int .i64)) hi];rfl
 .rintro⟨a,b,c,d,e,f⟩ ⟨L,e2,D,A,z⟩;dsimp only at L e2 D A z;subst L e2 z;refine dg (aj ?_);show (d,e,_)=_;rw[D,A,cv]
def xJ (b:Bool):Ok (f_ b) λ_=>True:=by
 unfold f_;with_reducible repeat' first|apply OS.ok;constructor|refine IM.mk λ_=>?_
 all_goals trivial
def H4 (n:Int):Ok (nk n) λ_=>True:=by
 unfold nk bM aG;with_reducible repeat' first|apply OS.ok;constructor|refine IM.mk λ_=>?_
 all_goals trivial
def aih (x:ν):Ok (vJ x) λ_=>True:=by
 unfold vJ bi;refine aI (λ_=>aj trivial) λ_=>aI (λ_=>?_) λ_=>aj trivial
 exact ax (xJ _) λ_ _=>aj trivial
def ae9 (x:π):Ok (tP x) λ_=>True:=by
 unfold tP bi iE bX aG;have z:∀b,Ok (aA (f_ b) λy=>Z (y,J)) λ_=>True:=λb=>ax (xJ _) λ_ _=>aj trivial
 refine aI (λ_=>aj trivial) λ_=>aI (λ_=>aj trivial) λ_=>aI (λ_=>aj trivial) λ_=>?_
 refine aI (λ_=>aI (λ_=>aj trivial) λh=>AZ h (aj trivial)) λ_=>?_
 refine aI (λ_=>aI (λ_=>aj trivial) λh=>AZ h (aj trivial)) λ_=>?_
 refine aI (λ_=>z _) λ_=>aI (λ_=>z _) λ_=>aI (λ_=>z _) λ_=>aI (λ_=>z _) λ_=>aI (λ_=>z _) λ_=>aI (λ_=>z _) λ_=>?_
 refine aI (λ_=>aU (λ_=>True) (ch (λ_=>ax (xJ _) λ_ _=>aj trivial) λ_=>ax (xJ _) λ_ _=>aj trivial) λ_ _=>aj trivial) λ_=>?_
 exact aI (λ_=>aU (λ_=>True) (ch (λ_=>ax (xJ _) λ_ _=>aj trivial) λ_=>ax (xJ _) λ_ _=>aj trivial) λ_ _=>aj trivial) λ_=>aj trivial
def ab9 (E:Nat) (hE:E<=100000) (i:IT) (p:ν) (R:η) (T:Y η) (D:∀j∈je i,0<=j/\j<(l! R:Int)) (o1:1<=i.1) (o2:i.1<=5) (hR:l! R<=32) (z:l! T=l! R) (hl:∀l∈T,TL F E l):Ok (xY ((i,p),R,T)) λy=>y.1.1.2=p.2/\l! y.2.1=l! R/\l! y.2.2=l! T/\∀l∈y.2.2,TL F E l:=by
 unfold xY aW bm bF ck bi bM bX bQ jY be cQ aG cN;refine aT (uY i) ?_;have h3:=EJ i;refine cm (l! (je i)) (λj x=>x.1=(j:Int)/\x.2.1=R/\x.2.2.1=T/\x.2.2.2.1=i/\x.2.2.2.2.1=p) ?_ ?_ ⟨rfl,rfl,rfl,rfl,rfl⟩
 .rintro j ⟨a,b,c,d,e⟩ hj ⟨e1,e2,e3,e4,L⟩;dsimp only at e1 e2 e3 e4 L;subst e1 e2 e3 e4;refine du ?_;have hz:=D _ (bP (T:=aL) (xs:=je d) (j:=(j:Int)) (by omega) (by omega));refine aU (λx=>x.2=(b,c,d,e)/\x.1=aa) ?_ ?_
  .refine cu (aS ?_);refine bL (λg=>?_) λ_=>?_
   .dsimp only at g;omega
   refine cu (aS (aj ⟨rfl,?_⟩));dsimp only;rw[mX];exact hz.2
  rintro⟨b',x⟩ ⟨f1,N⟩;dsimp only at f1 N;subst f1 N;refine aN nofun λ_=>aj ?_
  dsimp only;exact⟨gQ,rfl,rfl,rfl,L⟩
 .rintro⟨a,b,c,d,e⟩ ⟨e1,e2,e3,e4,L⟩;dsimp only at e1 e2 e3 e4 L;subst e1 e2 e3 e4;refine dg ?_;let⟨e,e'⟩:=e;dsimp only at L;subst L;refine ax (P:=λy=>y.1.1.2=e.2/\l! y.2.1=l! b/\l! y.2.2=l! c/\∀l∈y.2.2,TL F E l) ?_ λr D=>aj D
  have hA:d.1≠5->0<=d.2.1/\d.2.1<(l! b:Int):=λh5=>D _ (by
   unfold je;(repeat' split)<;>simp<;>omega)
  have hB:2<=d.1->d.1≠5->0<=d.2.2.1/\d.2.2.1<(l! b:Int):=λh2 h5=>D _ (by
   unfold je;(repeat' split)<;>simp<;>omega)
  have hC:d.1=4->0<=d.2.2.2.1/\d.2.2.2.1<(l! b:Int):=λh5=>D _ (by
   unfold je;(repeat' split)<;>simp<;>omega)
  have hg:∀{j:Int},0<=j->j<(l! b:Int)->TL F E (geti (.sl (.int .i64)) c j):=λh0 h1=>hl _ (bP (T:=.sl (.int .i64)) (xs:=c) h0 (by rw[z];exact h1))
  refine aU (λx=>x.2.1=b/\x.2.2.1=c/\x.2.2.2.1=d/\x.2.2.2.2.1=e/\TL F E x.1.2.2/\d.1≠5) ?_ ?_
  .refine aI (λ_=>aj ⟨rfl,rfl,rfl,hl⟩) λA=>?_
   refine aI (λ_=>aj ⟨rfl,rfl,rfl,rfl,TL.nil E,A⟩) λn1=>?_
   dsimp only at n1 A;let⟨b0,b1⟩:=hB (by omega) A;refine aI (λ_=>?_) λn2=>?_
   .refine aM b0 b1 (aM b0 b1 (aS ?_));refine aM b0 (by dsimp only;rw[z];exact b1) (aM b0 (by dsimp only;rw[z];exact b1) (aS ?_));exact aj ⟨rfl,rfl,rfl,rfl,hg b0 b1,A⟩
   refine aI (λ_=>?_) λn3=>?_
   .refine ax (H4 _) λy _=>?_
    refine aM b0 b1 (aM b0 b1 (aS ?_));refine ax (aih _) λy _=>?_
    refine aM b0 (by dsimp only;rw[z];exact b1) (aM b0 (by dsimp only;rw[z];exact b1) (aS ?_));exact aj ⟨rfl,rfl,rfl,rfl,hg b0 b1,A⟩
   dsimp only at n2 n3;let⟨c0,c1⟩:=hC (by omega);refine ax (H4 _) λy _=>?_
   refine aM b0 b1 (aM b0 b1 (aS ?_));refine aM c0 c1 (aM c0 c1 (aS ?_));refine ax (ae9 _) λy _=>?_
   refine aM b0 (by dsimp only;rw[z];exact b1) (aM b0 (by dsimp only;rw[z];exact b1) (aS ?_));refine aM c0 (by dsimp only;rw[z];exact c1) (aM c0 (by dsimp only;rw[z];exact c1) (aS ?_));have g1:=hg b0 b1;have g2:=hg c0 c1;refine aT (Wv _ _ (c4 g1.len (by omega)) (c4 g2.len (by omega))) ?_;exact aj ⟨rfl,rfl,rfl,rfl,g1.uni g2,A⟩
  rintro⟨⟨v,ok,tn⟩,b',c',d',e',e''⟩ ⟨f1,N,f3,f4,f5,f6⟩;dsimp only at f1 N f3 f4 f5 f6;subst f1 N f3 f4;let⟨a0,a1⟩:=hA f6;have ht:=f5.len;refine a! ?_;refine aM a0 a1 (aM a0 a1 (aM a0 (by dsimp only;rw[z];exact a1) (aM a0 (by dsimp only;rw[z];exact a1) (aj ?_))));refine ⟨rfl,b7 ..,b7 ..,λl hm=>?_⟩;rcases EB hm with h|h
  .exact hl l h
  .rw[h];exact f5
def adh (E:Nat) (hE:E<=100000) (c:Int×Y IT) (hc:l! c.2<=1000000) (hv:VT c) (s:TT) (h:TH F E s):Ok (oD (c,s)) λy=>TH F E y.1/\(l! y.1.2.1=0\/y.1.2.2.2=s.2.2.2):=by
 unfold oD aW bm bF cg dE dk bi bM j_ iE bX bQ be cQ aG cN;have N:=h;let⟨h1,h2,h3,h4,h5⟩:=h;refine aU (λx=>x.2.1=c/\x.2.2.1=s/\(x.1=aa->(l! s.2.1:Int)=c.1/\(l! s.2.2.1:Int)=c.1)) ?_ ?_
 .refine ch (λ_=>aj ⟨rfl,rfl,nofun⟩) λg=>aj ⟨rfl,rfl,λh=>?_⟩
  simp at h;exact⟨g,h⟩
 rintro⟨b,c',s',z⟩ ⟨D,e2,L⟩;dsimp only at D e2 L;subst D e2;refine aN (λ_=>aj ⟨TH.zero E,.inl rfl⟩) λhb=>?_
 let⟨q1,q2⟩:=L hb;refine aT (dj s' E hE N) ?_;refine rx (λx=>((l! c'.2:Int)+1-x.1).toNat) (λx=>0<=x.1/\x.1<=(l! c'.2:Int)+1/\x.2.1=c'/\x.2.2.1.2=s'.2.2.2/\l! x.2.2.2.2.1=l! s'.2.1/\l! x.2.2.2.2.2=l! s'.2.2.1/\∀l∈x.2.2.2.2.2,TL F E l) ?_ ⟨by dsimp only;omega,by dsimp only;omega,rfl,rfl,rfl,rfl,h3⟩;rintro⟨(n:Int),c,⟨(A:Int),ev⟩,z',R,T⟩ ⟨n0,n1,D,e2,L,e4,e5⟩;dsimp only at n0 n1 D e2 L e4 e5;subst D e2;refine fc (λg=>?_) λ_=>aj ⟨TH.zero E,.inl rfl⟩
 dsimp only[ak]at g;refine aU (λx=>x.2=(c,(A,s'.2.2.2),z',R,T)/\(x.1=aa->0<=A/\A<(l! c.2:Int))) ?_ ?_
 .refine bL (λ_=>aj ⟨rfl,nofun⟩) λg1=>aj ⟨rfl,λh=>?_⟩
  dsimp only at g1 h;rw[mX]at h;exact⟨g1,h⟩
 rintro⟨b',x⟩ ⟨f1,f2⟩;dsimp only at f1 f2;subst f1;refine aN (λ_=>aj ⟨TH.zero E,.inl rfl⟩) λhb=>?_
 let⟨p0,p1⟩:=f2 hb;refine aM p0 p1 (aS ?_);have hi:=hv.i _ (bP (T:=sx) (xs:=c.2) (j:=A) p0 p1);revert hi;generalize (geti sx _ _)=i;intro hi;refine aT (HJ _) ?_;refine ch (λ_=>aj ⟨⟨by dsimp only;omega,by dsimp only;omega,e5,h4,h5⟩,.inr rfl⟩) λhsil=>?_
 refine aI (λ_=>aj ⟨TH.zero E,.inl rfl⟩) λhn=>?_
 dsimp only[ak]at hn;refine ax (ab9 E hE i (A,s'.2.2.2) R T (λj hj=>by have:=hi.r j hj;omega) hsil.1 hsil.2 (by omega) (by omega) e5) λy hy=>?_
 let⟨⟨⟨pc',ev'⟩,ok⟩,R',T'⟩:=y;let⟨k1,k2,k3,k4⟩:=hy;dsimp only at k1 k2 k3 k4;refine cY (mA k3.symm (cY (mA k2.symm (C9 ?_))));refine em (λ_=>aj ⟨TH.zero E,.inl rfl⟩) λ_=>aj ?_
 dsimp only;rw[iQ];exact⟨⟨by omega,by omega,rfl,k1,by omega,by omega,k4⟩,by omega⟩
end
abbrev ST:Type:=SY×η×η×Y TT
structure TF (c:Int×List IT) (t:TT):Prop where
 p0:0<=t.1
 p1:t.1<(l! c.2:Int)
 r:(l! t.2.1:Int)=c.1
 t:(l! t.2.2.1:Int)=c.1
structure FSx (c:CT) (s:ST):Prop where
 vc:VC c
 cd:∀d∈c.1.2.2.1,0<=d.2/\d.2<(l! c.1.2.1:Int)
 e3:l! s.1.2.2.2=l! c.1.2.2.2.2.1
 ce:l! s.2.1=l! c.1.1
 fu:l! s.2.2.1=l! c.1.2.2.2.1
 th:l! s.2.2.2=l! c.2
 t:∀k:Nat,k<l! c.2->TF (geti yL c.2 (k:Int)) (geti e_ s.2.2.2 (k:Int))
def FQ (L:Y ET) (k:Int) (y:Int):Prop:=1<=y/\Nv L k y
structure SV (n:Nat) (L:List ET) (s:ST):Prop where
 sb:SB n s.1
 ln:l! L=n
 t:∀k:Nat,k<l! s.2.2.2->TH (FQ L k) n (geti e_ s.2.2.2 (k:Int))
def SV.ti {s:ST} (h:SV i L s) (h0:0<=a) (h1:a<(l! s.2.2.2:Int)):TH (FQ L a) i (geti e_ s.2.2.2 a):=by
 have:=h.t a.toNat (by omega);rw[show ((a.toNat:Nat):Int)=a by omega]at this;exact this
structure TG (c:CT) (L:List ET) (sy:SY) (k:Int) (t:TT):Prop where
 ev:t.2.2.2=(l! (fl L k):Int)
 wi:(geti il sy.2.2.2 k).1=3\/(geti il sy.2.2.2 k).1=4->(geti sx (geti yL c.2 k).2 t.1).1=21
 nw:l! (fl L k)=0->(geti il sy.2.2.2 k).1=0\/(geti il sy.2.2.2 k).1=1
structure NF (c:CT) (L:List ET) (s:ST):Prop where
 ac:Acw c.1 L s.1 s.2.1 s.2.2.1
 t:∀k:Nat,k<l! s.2.2.2->(geti e_ s.2.2.2 (k:Int)).2.1.length=0\/TG c L s.1 (k:Int) (geti e_ s.2.2.2 (k:Int))
def al2 (c:CT) (s:ST) (N:CB c):Ok (xX (c,s)) λb=>b=J->FSx c s:=by
 unfold xX aW bm dE dk bM j_ iE bQ be cQ aG cN;refine aU (λx=>x.2=(c,s)/\(x.1=aa->VC c/\(∀d∈c.1.2.2.1,0<=d.2/\d.2<(l! c.1.2.1:Int))/\l! s.1.2.2.2=l! c.1.2.2.2.2.1/\l! s.2.1=l! c.1.1/\l! s.2.2.1=l! c.1.2.2.2.1/\l! s.2.2.2=l! c.2)) ?_ ?_
 .refine ax (Wu c N.th N.ins) λb z=>?_
  refine em (λ_=>aj ⟨rfl,nofun⟩) λh=>?_
  have L:=z h;refine ax (SE c.1 s.1 (by have:=L.vl.d;omega)) λb2 hb2=>?_
  refine em (λ_=>aj ⟨rfl,nofun⟩) λh2=>?_
  let⟨g1,_,_,g4⟩:=hb2 h2;refine ch (λ_=>aj ⟨rfl,nofun⟩) λk1=>?_
  refine ch (λ_=>aj ⟨rfl,nofun⟩) λk2=>aj ⟨rfl,λk3=>⟨L,g1,g4,?_,?_,?_⟩⟩
  .dsimp only[ak]at k1;omega
  .dsimp only[ak]at k2;omega
  .simp at k3;omega
 rintro⟨b,x⟩ ⟨e,z⟩;dsimp only at e z;subst e;refine aN (λ_=>aj nofun) λh=>?_
 let⟨L,hcd,h3,hce,hfu,hth⟩:=z h;have hcl:=N.th;refine cm (l! c.2) (λi x=>x.1=(i:Int)/\x.2=(c,s)/\∀k:Nat,k<i->TF (geti yL c.2 (k:Int)) (geti e_ s.2.2.2 (k:Int))) ?_ ?_ ⟨rfl,rfl,λk hk=>by omega⟩
 .rintro i ⟨a,x⟩ hi ⟨D,e2,A⟩;dsimp only at D e2 A;subst D e2;refine du ?_;have hin:((i:Nat):Int)<(l! c.2:Int):=by omega
  refine cu (aS ?_);refine aU (λx=>x.2=(c,s)/\(x.1=aa->TF (geti yL c.2 (i:Int)) (geti e_ s.2.2.2 (i:Int)))) ?_ ?_
  .refine bL (λ_=>aj ⟨rfl,nofun⟩) λg0=>?_
   refine aM (by dsimp only;omega) hin (aS ?_);refine fc (λ_=>aj ⟨rfl,nofun⟩) λg1=>?_
   refine aM (by dsimp only;omega) hin (aS ?_);refine ch (λ_=>aj ⟨rfl,nofun⟩) λg2=>?_
   refine aM (by dsimp only;omega) hin (aS (aj ⟨rfl,λg3=>⟨g0,g1,g2,?_⟩⟩));simp at g3;exact g3
  rintro⟨b,x⟩ ⟨e,z⟩;dsimp only at e z;subst e;refine aN (λ_=>aj nofun) λh=>aj ?_
  dsimp only;refine ⟨gQ,rfl,λk hk=>?_⟩;rcases bG k i with h1|h1
  .exact A k h1
  .rw[show k=i by omega];exact z h
 .rintro⟨a,x⟩ ⟨D,e2,A⟩;dsimp only at D e2 A;subst D e2;refine dg (aj λ_=>⟨L,hcd,h3,hce,hfu,hth,A⟩)
def an8 {i:IT} (h:i.1=6\/i.1=7\/i.1=27\/i.1=10):i.2.1∈je i:=by
 unfold je;(repeat' split)<;>simp<;>omega
def an7 {i:IT} (h:i.1=8\/i.1=9\/i.1=26):i.2.2.1∈je i:=by
 unfold je;(repeat' split)<;>simp<;>omega
def asi {i:IT} (h:i.1=7\/i.1=9):i.2.2.2.1∈je i:=by
 unfold je;(repeat' split)<;>simp<;>omega
structure KD (op k:Int):Prop where
 ld:k=3->op=6\/op=7
 st:k=4->op=8\/op=9
 br:k=5->op=10
 se:k=22->op=26
 ge:k=23->op=27
 e1:k=2->op=28
 n1:¬k=1
 n17:¬k=17
 wt:k=16->op=21
 e2:¬k=0->op=28->k=2
 d7:¬k=0->op=7->k=3
 d8:¬k=0->op=8->k=4
 d9:¬k=0->op=9->k=4
 d10:¬k=0->op=10->k=5
 d26:¬k=0->op=26->k=22
def akl (op:Int):Ok (xV op) λk=>KD op k:=by
 unfold xV bM jY aG;refine aU (λx=>x.2=[3,3,4,4,5,6,7,8,9,10,11,12,13,14,15,16,18,19,20,21,22,23,2]/\(x.1=aa->6<=op/\op<=28)) ?_ ?_
 .refine bL (λ_=>aj ⟨rfl,nofun⟩) λg=>aj ⟨rfl,λh=>?_⟩
  dsimp only at h;rw[g9]at h;exact⟨g,h⟩
 rintro⟨b,x⟩ ⟨e,z⟩;dsimp only at e z;subst e;refine aN (λ_=>aj (by constructor<;>first|decide|(intro h;first|(exact (h rfl).elim)|(cases h;done)))) λh=>?_
 let⟨h1,A⟩:=z h;dsimp only;rw[iQ (n:=op-6) (by omega) (by omega)];refine aM (by omega) (by simp;omega) (aM (by omega) (by simp;omega) (aS (aj ?_)));have:op=6\/op=7\/op=8\/op=9\/op=10\/op=11\/op=12\/op=13\/op=14\/op=15\/op=16\/op=17\/op=18\/op=19\/op=20\/op=21\/op=22\/op=23\/op=24\/op=25\/op=26\/op=27\/op=28:=by omega
 rcases this with rfl|rfl|rfl|rfl|rfl|rfl|rfl|rfl|rfl|rfl|rfl|rfl|rfl|rfl|rfl|rfl|rfl|rfl|rfl|rfl|rfl|rfl|rfl;all_goals (constructor<;>decide)
def WH (a n:Int):Ok (sU (a,n)) λr=>n=2->r=0\/r=1:=by
 unfold sU bM bX aG;refine bL (λ_=>aj λh=>(by dsimp only at *;omega)) λh=>?_
 dsimp only at h;refine AZ (by dsimp only;omega) ?_;have D:=Int.tmod_lt_of_pos a (b:=n) (by omega);have A:=Int.lt_tmod_of_pos a (b:=n) (by omega);refine aU (λr=>n=2->r=0\/r=1) (bL (λg=>aj λz=>?_) λg=>aj λz=>?_) λ_ h=>aj h
 .dsimp only at g ⊢;rw[iQ];omega
 .dsimp only at g ⊢;omega
def TW (i:IT) (t:TT) (hr:∀j∈je i,0<=j/\j<(l! t.2.1:Int)):Ok (tO (i,t)) λo=>(i.1=7->i.2.2.1=3->i.2.2.2.2.1=2->o=3\/o=4)/\(i.1=9->i.2.1=3->i.2.2.2.2.1=2->o=3\/o=4):=by
 unfold tO aW bm bF bi bQ aG;have A:i.1=7\/i.1=9->0<=i.2.2.2.1/\i.2.2.2.1<(l! t.2.1:Int):=λh=>hr _ (by
  unfold je;(repeat' split)<;>simp<;>omega)
 have D:∀{o:Int},¬i.1=7->¬i.1=9->(i.1=7->i.2.2.1=3->i.2.2.2.2.1=2->o=3\/o=4)/\(i.1=9->i.2.1=3->i.2.2.2.2.1=2->o=3\/o=4):=λh1 h2=>⟨λh=>(h1 h).elim,λh=>(h2 h).elim⟩
 have wk:∀{b r n:Int},b=3->n=2->(n=2->r=0\/r=1)->bl .i64 (b+r)=3\/bl .i64 (b+r)=4:=λh1 h2 z=>by
  have:=z h2;rw[iQ];omega
 refine aU (λx=>x.2=(i,t)/\(x.1=J->i.1=6\/i.1=27)) (aI (λh=>aj ⟨rfl,λ_=>.inl h⟩) λ_=>aj ⟨rfl,λh=>.inr (bx h)⟩) ?_;rintro⟨b,x⟩ ⟨e,hb⟩;dsimp only at e hb;subst e;refine aN (λh=>aj (D (by have:=hb h;omega) (by have:=hb h;omega))) λ_=>?_
 refine aI (λh=>?_) λL=>?_
 .exact aM (A (.inl h)).1 (A (.inl h)).2 (aS (ax (WH _ _) λy N=>aj ⟨λ_ z h4=>wk z h4 N,λh9=>by dsimp only at h;omega⟩))
 refine aI (λh=>?_) λn9=>?_
 .exact aM (A (.inr h)).1 (A (.inr h)).2 (aS (ax (WH _ _) λy N=>aj ⟨λh7=>(L h7).elim,λ_ z h4=>wk z h4 N⟩))
 refine aU (λ_=>True) ?_ λx _=>aN (λ_=>aj (D L n9)) λ_=>aj (D L n9)
 with_reducible repeat' first|apply OS.ok;constructor|refine IM.mk λ_=>?_
 all_goals trivial
def ans {w:WT} (A:w.1=C0) {n:Int} (h:AR w a n):a=3/\n=2:=by
 let⟨b0,b1,ix,sz,z⟩:=h;rw[A]at b1 ix sz z;have b1:a<5:=b1;rcases (by omega:a=0\/a=1\/a=2\/a=3\/a=4) with rfl|rfl|rfl|rfl|rfl
 .exact (sz rfl).elim
 .exact (sz rfl).elim
 .exact (sz rfl).elim
 .exact⟨rfl,z.symm⟩
 .exact b8 ix (by decide)
def an2 {w:WT} (z:w.1=C0) (h:a=3\/a=4):¬(geti mf w.1 a).2.2.1=0:=by
 rw[z];rcases h with rfl|rfl<;>decide
structure PE (n:Nat) (c:CT) (s:ST) (t:Int) (e:ET):Prop where
 fs:FSx c s
 t0:0<=t
 t1:t<(l! c.2:Int)
 et:e.1=t
 d:l! e.2.2.2.2.2.1<=n
 f:l! e.2.2.2.2.2.2<=n
 a:e.2.1=3\/e.2.1=23\/e.2.1=5->0<=(geti sx (geti yL c.2 t).2 (geti e_ s.2.2.2 t).1).2.1/\(geti sx (geti yL c.2 t).2 (geti e_ s.2.2.2 t).1).2.1<((geti e_ s.2.2.2 t).2.1.length:Int)
 b:e.2.1=4\/e.2.1=22->0<=(geti sx (geti yL c.2 t).2 (geti e_ s.2.2.2 t).1).2.2.1/\(geti sx (geti yL c.2 t).2 (geti e_ s.2.2.2 t).1).2.2.1<((geti e_ s.2.2.2 t).2.1.length:Int)
structure PS (c:CT) (L:List ET) (s:ST) (t:Int) (e:ET):Prop where
 tg:TG c L s.1 t (geti e_ s.2.2.2 t)
 s1:e.2.1=1\/e.2.1=2->e.2.2.2.2.1= -1
 s2:¬(e.2.1=1\/e.2.1=2)->0<=e.2.2.2.2.1/\e.2.2.2.2.1<l! c.1.2.2.2.2.2/\(geti pO c.1.2.2.2.2.2 e.2.2.2.2.1).1=t
 de:0<l! e.2.2.2.2.2.1->e.2.1=5\/(e.2.1=3\/e.2.1=4)/\¬(geti mf c.1.1 e.2.2.1).2.2.1=0
 fr:0<l! e.2.2.2.2.2.2->e.2.1=4\/e.2.1=22
 da:JS e.2.2.2.2.2.1
 dq:∀y∈e.2.2.2.2.2.1,FQ L t y
 fa:JS e.2.2.2.2.2.2
 fq:∀y∈e.2.2.2.2.2.2,FQ L t y
 wt:e.2.1=16->(geti sx (geti yL c.2 t).2 (geti e_ s.2.2.2 t).1).1=21
def Zb (n:Nat) (hn:n<=100000) (c:CT) (L:Y ET) (s:ST) (hc:CB c) (hs:SV n L s) (hI:NF c L s) (t:Int):Ok (oV (c,s,t)) λy=>y.2=J->PE n c s t y.1/\PS c L s t y.1:=by
 unfold oV aW bm bF cg dE dk bi bM bX bQ be aG;refine aU (λx=>x.2.1=c/\x.2.2.1=s/\(x.1=aa->FSx c s/\0<=t/\t<(l! c.2:Int))) ?_ ?_
 .refine ax (al2 c s hc) λb hb=>?_
  refine em (λ_=>aj ⟨rfl,rfl,nofun⟩) λh=>?_
  refine bL (λ_=>aj ⟨rfl,rfl,nofun⟩) λg0=>aj ⟨rfl,rfl,λg1=>?_⟩
  dsimp only at g0 g1;rw[mX]at g1;exact⟨hb h,g0,g1⟩
 rintro⟨b,D,s',z⟩ ⟨e1,e2,hb⟩;dsimp only at e1 e2 hb;subst e1 e2;refine aN (λ_=>aj nofun) λh=>?_
 let⟨hf,t0,t1⟩:=hb h;have hk:((t.toNat:Nat):Int)=t:=by omega
 have htf:=hf.t t.toNat (by omega);rw[hk]at htf;have hvt:=hf.vc.t _ (bP (T:=yL) (xs:=D.2) (j:=t) t0 t1);have hth:=hs.ti t0 (by rw[hf.th];exact t1);have key:∀e:ET,e.1=t->l! e.2.2.2.2.2.1<=n->l! e.2.2.2.2.2.2<=n->(e.2.1=1\/e.2.1=17\/KD (geti sx (geti yL D.2 t).2 (geti e_ s'.2.2.2 t).1).1 e.2.1)->PE n D s' t e:=by
  intro e h1 h2 h3 N;have hi:=hvt.i _ (bP (T:=sx) (xs:=(geti yL D.2 t).2) (j:=(geti e_ s'.2.2.2 t).1) htf.p0 htf.p1);refine ⟨hf,t0,t1,h1,h2,h3,λh5=>?_,λh5=>?_⟩
  .rw[htf.r];rcases N with N|N|N
   .omega
   .omega
   .refine hi.r _ ?_;have a1:=N.ld;have a2:=N.ge;have a3:=N.br;revert a1 a2 a3 h5;generalize (geti sx (geti yL D.2 t).2 (geti e_ s'.2.2.2 t).1)=i;intro h5 a1 a2 a3;exact an8 (by omega)
  .rw[htf.r];rcases N with N|N|N
   .omega
   .omega
   .refine hi.r _ ?_;have a1:=N.st;have a2:=N.se;revert a1 a2 h5;generalize (geti sx (geti yL D.2 t).2 (geti e_ s'.2.2.2 t).1)=i;intro h5 a1 a2;exact an7 (by omega)
 have hir:=(hvt.i _ (bP (T:=sx) (xs:=(geti yL D.2 t).2) (j:=(geti e_ s'.2.2.2 t).1) htf.p0 htf.p1)).r;rw[<- htf.r]at hir;have hrg:=hc.rg _ (bP (T:=yL) (xs:=D.2) (j:=t) t0 t1);have htg:TG D L s'.1 t (geti e_ s'.2.2.2 t):=by
  have:=hI.t t.toNat (by rw[hf.th];omega);rw[hk]at this;refine this.resolve_left λh=>?_
  have:=htf.r;omega
 have hvj:=hf.vc.j t.toNat (by omega);rw[hk]at hvj;have hvj:=hvj _ (bP (T:=sx) (xs:=(geti yL D.2 t).2) (j:=(geti e_ s'.2.2.2 t).1) htf.p0 htf.p1);have hC0:=hc.wx.c;refine aM t0 (by dsimp only;rw[hf.th];exact t1) (aS ?_);refine aM t0 t1 (aS ?_);refine aM htf.p0 htf.p1 (aS ?_);have t4:t<(l! s'.1.2.2.2:Int):=by rw[hf.e3,<-hf.vc.tl];exact t1
 have tz:(geti e_ s'.2.2.2 t).2.2.1.length=(geti e_ s'.2.2.2 t).2.1.length:=by have:=htf.r;have:=htf.t;omega
 refine aM t0 t4 (aS ?_);refine aI (λ_=>aj λ_=>⟨key _ rfl (mi _) (mi _) (.inl rfl),⟨htg,λ_=>rfl,λh=>(h (.inl rfl)).elim,nofun,nofun,trivial,λy hy=>(by cases hy),trivial,λy hy=>(by cases hy),nofun⟩⟩) λ_=>?_
 refine aI (λN=>aM t0 t4 (aS (aj λ_=>⟨key _ rfl (mi _) (mi _) (.inr (.inl rfl)),⟨htg,λh=>(by rcases h with h|h<;>cases h),λ_=>hvj.si (by rw[htg.wi (.inr N)];decide),nofun,nofun,trivial,λy hy=>(by cases hy),trivial,λy hy=>(by cases hy),nofun⟩⟩))) λ_=>?_
 refine aI (λ_=>?_) λ_=>aj nofun
 refine ax (akl _) λk A=>?_
 refine ax (TW _ _ hir) λo ho=>?_
 refine aI (λ_=>aj nofun) λhk0=>?_
 have fin:∀e:ET,e.1=t->e.2.1=k->e.2.2.1=o->e.2.2.2.2.1=(geti sx (geti yL D.2 t).2 (geti e_ s'.2.2.2 t).1).2.2.2.2.2->(0<l! e.2.2.2.2.2.1->(geti sx (geti yL D.2 t).2 (geti e_ s'.2.2.2 t).1).1=10\/(geti sx (geti yL D.2 t).2 (geti e_ s'.2.2.2 t).1).1=7\/(geti sx (geti yL D.2 t).2 (geti e_ s'.2.2.2 t).1).1=9)->(0<l! e.2.2.2.2.2.2->(geti sx (geti yL D.2 t).2 (geti e_ s'.2.2.2 t).1).1=8\/(geti sx (geti yL D.2 t).2 (geti e_ s'.2.2.2 t).1).1=9\/(geti sx (geti yL D.2 t).2 (geti e_ s'.2.2.2 t).1).1=26)->TL (FQ L t) n e.2.2.2.2.2.1->TL (FQ L t) n e.2.2.2.2.2.2->PE n D s' t e/\PS D L s' t e:=by
  intro e h1 h2 h3 N h5 h6 h7 h8;refine ⟨key e h1 h7.len h8.len (.inr (.inr (h2▸A))),htg,λh=>?_,λh=>?_,λh=>?_,λh=>?_,h7.a,h7.f,h8.a,h8.f,λh=>A.wt (h2▸h)⟩
  .rw[N];rw[h2]at h;exact hvj.se (A.e1 (h.resolve_left A.n1))
  .rw[N];rw[h2]at h;exact hvj.si λh9=>h (.inr (A.e2 hk0 h9))
  .rw[h2,h3];rcases h5 h with g|g|g
   .exact .inl (A.d10 hk0 g)
   .obtain⟨q1,q2⟩:=ans hC0 (hvj.a7 g);exact .inr ⟨.inl (A.d7 hk0 g),an2 hC0 (ho.1 g q1 q2)⟩
   .obtain⟨q1,q2⟩:=ans hC0 (hvj.a9 g);exact .inr ⟨.inr (A.d9 hk0 g),an2 hC0 (ho.2 g q1 q2)⟩
  .rw[h2];rcases h6 h with g|g|g
   .exact .inl (A.d8 hk0 g)
   .exact .inl (A.d9 hk0 g)
   .exact .inr (A.d26 hk0 g)
 clear key htg hvj ho hC0 hrg;revert fin htf hvt hth hir tz A;dsimp only;generalize (geti e_ s'.2.2.2 t)=th;generalize (geti sx _ th.1)=i;intro htf hvt hth hir tz A fin;have hlen:∀{j:Int},0<=j->j<(l! th.2.2.1:Int)->TL (FQ L t) n (geti (.sl (.int .i64)) th.2.2.1 j):=λh0 h1=>hth.l _ (bP (T:=.sl (.int .i64)) (xs:=th.2.2.1) h0 h1)
 have hA:i.1=10->0<=i.2.1/\i.2.1<(l! th.2.2.1:Int):=λh=>by
  rw[tz];exact hir _ (an8 (.inr (.inr (.inr h))))
 have hB:i.1=8\/i.1=9\/i.1=26->0<=i.2.2.1/\i.2.2.1<(l! th.2.2.1:Int):=λh=>by
  rw[tz];exact hir _ (an7 (h))
 have hC:i.1=7\/i.1=9->0<=i.2.2.2.1/\i.2.2.2.1<(l! th.2.2.1:Int):=λh=>by
  rw[tz];exact hir _ (asi (h))
 refine aU (λx=>x.2.1=th/\x.2.2.1=i/\(x.2.2.2.1.1=t/\x.2.2.2.1.2.1=k/\x.2.2.2.1.2.2.1=o/\x.2.2.2.1.2.2.2.2=i.2.2.2.2.2)/\TL (FQ L t) n x.2.2.2.2/\(0<l! x.2.2.2.2->i.1=10\/i.1=7\/i.1=9)) ?_ ?_
 .refine aI (λh=>?_) λ_=>?_
  .obtain⟨a0,a1⟩:=hA h;refine aM a0 a1 (aS ?_);have:=hlen a0 a1;exact bt (c4 this.len (by omega)) (by omega) (aj ⟨rfl,rfl,⟨rfl,rfl,rfl,rfl⟩,this,λ_=>.inl h⟩)
  refine aU (λx=>x.2.2.1=th/\x.2.2.2.1=i/\(x.2.2.2.2.1=t/\x.2.2.2.2.2.1=k/\x.2.2.2.2.2.2.1=o/\x.2.2.2.2.2.2.2.2=i.2.2.2.2.2)/\(x.1=J->i.1=7\/i.1=9)) ?_ ?_
  .refine aI (λh=>aj ⟨rfl,rfl,⟨rfl,rfl,rfl,rfl⟩,λ_=>.inl h⟩) λ_=>aj ⟨rfl,rfl,⟨rfl,rfl,rfl,rfl⟩,λh=>.inr (bx h)⟩
  rintro⟨b,z0,th',i',t',k',z1⟩ ⟨e1,e2,e3,hb9⟩;dsimp only at e1 e2 e3 hb9;subst e1 e2;refine aN (λh=>?_) λ_=>aj ⟨rfl,rfl,e3,TL.nil n,nofun⟩
  let⟨a0,a1⟩:=hC (hb9 h);refine aM a0 a1 (aS ?_);have:=hlen a0 a1;exact bt (c4 this.len (by omega)) (by omega) (aj ⟨rfl,rfl,e3,this,λ_=>.inr (hb9 h)⟩)
 rintro⟨z0,th',i',⟨t',k',z1⟩,ds⟩ ⟨e1,e2,e3,hd,hd2⟩;dsimp only at e1 e2 e3 hd hd2;subst e1 e2;refine aU (λx=>(x.2.1.1=t/\x.2.1.2.1=k/\x.2.1.2.2.1=o/\x.2.1.2.2.2.2=i'.2.2.2.2.2)/\x.2.2.1=ds/\TL (FQ L t) n x.2.2.2/\(0<l! x.2.2.2->i'.1=8\/i'.1=9\/i'.1=26)) ?_ ?_
 .refine aU (λx=>x.2=(z0,th',i',(t',k',z1),ds)/\(x.1=J->i'.1=8\/i'.1=9\/i'.1=26)) ?_ ?_
  .exact aI (λh=>aj ⟨rfl,λ_=>.inl h⟩) λ_=>aI (λh=>aj ⟨rfl,λ_=>.inr (.inl h)⟩) λ_=>aj ⟨rfl,λh=>.inr (.inr (bx h))⟩
  rintro⟨b,x⟩ ⟨e,hb9⟩;dsimp only at e hb9;subst e;refine aN (λh=>?_) λ_=>aj ⟨e3,rfl,TL.nil n,nofun⟩
  let⟨a0,a1⟩:=hB (hb9 h);refine aM a0 a1 (aS ?_);have:=hlen a0 a1;exact bt (c4 this.len (by omega)) (by omega) (aj ⟨e3,rfl,this,λ_=>hb9 h⟩)
 rintro⟨z2,⟨t2,k2,o2,z3,si⟩,d2,f2⟩ ⟨e1,e2,h1,h2⟩;dsimp only at e1 e2 h1 h2;subst e2;let⟨g1,g2,g3,g4⟩:=e1;exact aj λ_=>fin _ g1 g2 g3 g4 hd2 h2 hd h1
def aoj {n:Nat} {k:Int} (h0:0<=k) (h1:k<n):(geti il (thP n) k).1=0\/(geti il (thP n) k).1=1:=by
 have hm:=bP (T:=il) (xs:=thP n) h0 (by rw[QM];exact h1);revert hm;generalize geti il (thP n) k=z;intro hm;cases n with
 |zero=>cases hm
 |succ n=>
  rcases aZ.1 hm with rfl|hm
  .exact .inr rfl
  .rw[yP hm];exact .inl rfl
def Za (c:CT) (hvt:kB c=Z J) (hv:VC c):Ok (vF c) λs=>SV 0 [] s/\NF c [] s:=by
 unfold vF aW bm bF cG cg dE dk ip bM nh bX bQ be cQ aG cN;refine aT hvt (em nofun λ_=>?_);let⟨vc,vl,vd,vf,_,vt,_⟩:=id hv.vl;have htl:=hv.tl;refine aT (Nn c.1 hv.vl) ?_;refine cm (l! c.1.1) (λi x=>x.1=(i:Int)/\x.2.1=c/\x.2.2.2.1=SK c.1/\x.2.2.2.2=(c.1.1.take i).map λc=>c.2.2.2.2) ?_ ?_ ⟨rfl,rfl,rfl,rfl⟩
 .rintro i ⟨a,c',z,y',l⟩ hi ⟨L,e2,D,A⟩;dsimp only at L e2 D A;subst L e2 D A;refine du ?_;refine cu (aS (a! (aj ?_)));dsimp only;exact⟨gQ,rfl,rfl,by rw[pA (T:=mf) hi,cq];rfl⟩
 rintro⟨a,c',z,y',l⟩ ⟨L,e2,D,A⟩;dsimp only at L e2 D A;subst L e2 D;rw[cv]at A;subst A;refine dg ?_;refine ax (P:=λs=>SV 0 [] s/\NF c' [] s) ?_ λr hr=>aj hr
 refine cm (l! c'.1.2.2.2.1) (λi x=>x.1=(i:Int)/\x.2.1=c'/\x.2.2.2.1=SK c'.1/\x.2.2.2.2.1=ce0 c'.1/\x.2.2.2.2.2=aF i 0) ?_ ?_ ⟨rfl,rfl,rfl,rfl,rfl⟩
 .rintro i ⟨a,c,z,y,l,f⟩ hi ⟨L,e2,D,A,N⟩;dsimp only at L e2 D A N;subst L e2 D N;refine du ?_;refine a! (aj ?_);dsimp only;exact⟨gQ,rfl,rfl,A,by rw[wg]⟩
 rintro⟨a,c,z,y,l,f⟩ ⟨L,e2,D,A,N⟩;dsimp only at L e2 D A N;subst L e2 D A N;refine dg ?_;refine ax (P:=λs=>SV 0 [] s/\NF c [] s) ?_ λr hr=>aj hr
 refine cm (l! c.2) (λi x=>x.1=(i:Int)/\x.2.1=c/\x.2.2.2.1=SK c.1/\x.2.2.2.2.1=ce0 c.1/\x.2.2.2.2.2.1=fu0 c.1/\l! x.2.2.2.2.2.2=i/\∀t∈x.2.2.2.2.2.2,(∀F,TH F 0 t)/\t.2.2.2=0) ?_ ?_ ⟨rfl,rfl,rfl,rfl,rfl,rfl,λt ht=>(by cases ht)⟩
 .rintro i ⟨a,c,z,y,l,f,th⟩ hi ⟨L,e2,D,A,e4b,N,e6⟩;dsimp only at L e2 D A e4b N e6;subst L e2 D;refine du ?_;have hin:((i:Nat):Int)<(l! c.2:Int):=by omega
  have hvt:=hv.t _ (bP (T:=yL) (xs:=c.2) (j:=(i:Int)) (by omega) hin);have q0:=hvt.r0;have q1:=hvt.r1;refine aM (by dsimp only;omega) hin (aS ?_);refine cY (cY (dL q0 (dL (dz _) (a! ?_))));refine aM (by dsimp only;omega) hin (aS ?_);refine cY (cY (dL q0 (dL (dz _) (a! ?_))));refine a! (aj ?_);dsimp only;refine ⟨gQ,rfl,rfl,A,e4b,by simp;omega,λt ht=>?_⟩;rcases bA.1 ht with h|h
  .exact e6 t h
  .rw[aB]at h;subst h;refine ⟨λF=>⟨?_,?_,λl hl=>?_,dz _,dz _⟩,rfl⟩
   .dsimp only;rw[cL];omega
   .dsimp only;rw[cL];omega
   .rw[yP hl];exact TL.nil 0
 .rintro⟨a,c,z,y,l,f,th⟩ ⟨L,e2,D,A,e4b,N,e6⟩;dsimp only at L e2 D A e4b N e6;subst L e2 D A e4b;refine dg (aj ?_);have hm:∀k:Nat,k<l! th->_:=λk hk=>e6 _ (bP (T:=e_) (xs:=th) (j:=(k:Int)) (by omega) (by omega))
  refine ⟨⟨Xu hv.vl,rfl,λk hk=>(hm k hk).1 _⟩,⟨.nil,λk hk=>.inr ?_⟩⟩;dsimp only at hk;have hst:=aoj (n:=l! c.1.2.2.2.2.1) (k:=(k:Int)) (by omega) (by omega);exact⟨(hm k hk).2,λh=>(by rcases hst with q|q<;>rcases h with h|h<;>exact b8 (q.symm.trans h) (by decide)),λ_=>hst⟩
def Kt {x j:Int} (h0:0<=a) (h1:a<l! k) (z:0<=j):(geti il (Ej k a x) j).1=if j=a then x else (geti il k j).1:=by
 unfold Ej;rw[ku (T:=il) _ _ _ _ h0 h1 z];split<;>rfl
def anl {x j:Int} (h0:0<=a) (h1:a<l! k) (z:0<=j):(geti il (cdP k a x) j).1=(geti il k j).1:=by
 unfold cdP;rw[ku (T:=il) _ _ _ _ h0 h1 z];split
 next h=>rw[h]
 .rfl
def anr {j:Int} (h0:0<=a) (h1:a<l! k) (z:0<=j):(geti il (atP k a b) j).1=(geti il k j).1:=by
 unfold atP;rw[ku (T:=il) _ _ _ _ h0 h1 z];split
 next h=>rw[h]
 .rfl
def ane (D:0<=a):∀(l:η) (th:Y e?),(∀u:Int,u∈l->0<=u/\u<l! th)->(geti il (Jh th l) a).1=if a∈l then 4 else (geti il th a).1
 |[],th,_=>by simp[Jh]
 |x::r,th,h=>by
  have A:=h x (cP ..);have L:=ane D r (Ej th x 4) λu N=>by unfold Ej;rw[b7];exact h u (bJ _ N)
  have e:Jh th (x::r)=Jh (Ej th x 4) r:=rfl;rw[e,L,Kt A.1 A.2 D];by_cases h1:a∈r
  .rw[aD h1,aD (bJ _ h1)]
  .rw[av h1];by_cases z:a=x
   .rw[aD z,aD (by rw[z];exact cP ..)]
   .rw[av z,av λh=>(aZ.1 h).elim z h1]
def Wi {w:WT} {s:SY} {k o u v:Int} {A:SY} (h:(A,v)=uv w s a k o u):uv w s a k o v=(A,v):=by
 by_cases D:k=18
 .subst D;rw[HC]at h ⊢;by_cases z:l! (wl s.2.2.2 o (l! s.2.2.2))=0
  .rw[aD z]at h ⊢;exact h.symm
  .rw[av z]at h ⊢;have hm:=Ki u z;generalize wl s.2.2.2 o (l! s.2.2.2)=l at h z hm ⊢;obtain⟨rfl,rfl⟩:=Prod.mk.inj h;have:Dy l (Dy l u)=Dy l u:=by
    rw[Dy,av z,aD (oR.2 hm)]
   rw[this]
 .rw[aap _ _ _ _ _ _ u D,<-h]
def apq {w:WT} {s:SY} {k o:Int} (u:Int) (he:EN w s a k o) (hr:Xa w s a k o) {j:Int} (h0:0<=j):(¬j=a->(geti il (uv w s a k o u).1.2.2.2 j).1=(geti il s.2.2.2 j).1\/((geti il s.2.2.2 j).1=3/\(geti il (uv w s a k o u).1.2.2.2 j).1=4)\/((geti il s.2.2.2 j).1=0/\(geti il (uv w s a k o u).1.2.2.2 j).1=1))/\(j=a->¬k=16->¬(geti il (uv w s a k o u).1.2.2.2 j).1=3/\¬(geti il (uv w s a k o u).1.2.2.2 j).1=4):=by
 have t0:=he.t0;have t1:a<l! s.2.2.2:=by have:=he.t1;have:=he.e3;omega
 have A:=hr.r;have hml:∀u:Int,u∈wl s.2.2.2 o (l! s.2.2.2)->0<=u/\u<l! s.2.2.2:=λu hu=>⟨(xg.1 hu).1,(xg.1 hu).2.1⟩
 have h3:∀u:Int,u∈wl s.2.2.2 o (l! s.2.2.2)->(geti il s.2.2.2 u).1=3:=λu hu=>by
  have:=(xg.1 hu).2.2;unfold NJ at this;rw[al]at this;exact bx this.1
 have same:¬k=1->¬k=17->∀th:Y e?,(geti il th j).1=(geti il s.2.2.2 j).1->(¬j=a->(geti il th j).1=(geti il s.2.2.2 j).1\/((geti il s.2.2.2 j).1=3/\(geti il th j).1=4)\/((geti il s.2.2.2 j).1=0/\(geti il th j).1=1))/\(j=a->¬k=16->¬(geti il th j).1=3/\¬(geti il th j).1=4):=λt b th h=>⟨λ_=>.inl h,λh2 _=>by rw[h,h2,A t b];decide⟩
 have st:∀x:Int,¬x=3\/k=16->¬x=4->∀th:Y e?,(geti il th j).1=(if j=a then x else (geti il s.2.2.2 j).1)->(¬j=a->(geti il th j).1=(geti il s.2.2.2 j).1\/((geti il s.2.2.2 j).1=3/\(geti il th j).1=4)\/((geti il s.2.2.2 j).1=0/\(geti il th j).1=1))/\(j=a->¬k=16->¬(geti il th j).1=3/\¬(geti il th j).1=4):=λx hx hx4 th h=>⟨λhn=>.inl (by rw[h,av hn]),λh2 h16=>by rw[h,aD h2];exact⟨hx.resolve_right h16,hx4⟩⟩
 have L:∀x:Int,a<l! (Ej s.2.2.2 a x):=λx=>by unfold Ej;rw[b7];exact t1
 by_cases k1:k=1
 .subst k1;exact st 2 (.inl (by decide)) (by decide) _ (Kt t0 t1 h0)
 by_cases k2:k=2
 .subst k2;exact st 5 (.inl (by decide)) (by decide) _ (Kt t0 t1 h0)
 by_cases k16:k=16
 .subst k16;exact st 3 (.inr rfl) (by decide) _ ((anl t0 (L _) h0).trans (Kt t0 t1 h0))
 by_cases k17:k=17
 .subst k17;exact st 2 (.inl (by decide)) (by decide) _ ((anl t0 (L _) h0).trans (Kt t0 t1 h0))
 by_cases k14:k=14
 .subst k14;exact same k1 k17 _ (anr t0 t1 h0)
 by_cases k15:k=15
 .subst k15;exact same k1 k17 _ (anr t0 t1 h0)
 by_cases k18:k=18
 .subst k18;rw[HC];by_cases hl:l! (wl s.2.2.2 o (l! s.2.2.2))=0
  .rw[aD hl];exact same k1 k17 _ rfl
  .rw[av hl];have hc:=Ki u hl;have N:=hml _ hc;have z:=h3 _ hc;dsimp only;rw[Kt N.1 N.2 h0];generalize Dy (wl s.2.2.2 o (l! s.2.2.2)) u=c at z;by_cases D:j=c
   .rw[aD D,D];exact⟨λ_=>.inr (.inl ⟨z,rfl⟩),λh _=>by rw[h,A k1 k17]at z;exact b8 z (by decide)⟩
   .rw[av D];exact⟨λ_=>.inl rfl,λh _=>by rw[h,A k1 k17];decide⟩
 by_cases k19:k=19
 .subst k19;show (_->(geti il (Jh _ _) j).1=_\/_/\(geti il (Jh _ _) j).1=_\/_/\(geti il (Jh _ _) j).1=_)/\(_->_->¬(geti il (Jh _ _) j).1=_/\¬(geti il (Jh _ _) j).1=_)
  rw[ane h0 _ _ hml];by_cases D:j∈wl s.2.2.2 o (l! s.2.2.2)
  .rw[aD D];have z:=h3 _ D;exact⟨λ_=>.inr (.inl ⟨z,rfl⟩),λh _=>by rw[h,A k1 k17]at z;exact b8 z (by decide)⟩
  .rw[av D];exact⟨λ_=>.inl rfl,λh _=>by rw[h,A k1 k17];decide⟩
 by_cases k20:k=20
 .subst k20;let⟨o0,o1⟩:=he.nm.th (.inl rfl);let⟨hot,ho0⟩:=hr.sp rfl;have o1':o<l! s.2.2.2:=by rw[he.e3];exact o1
  show (_->(geti il (Ej _ _ _) j).1=_\/_/\(geti il (Ej _ _ _) j).1=_\/_/\(geti il (Ej _ _ _) j).1=_)/\(_->_->¬(geti il (Ej _ _ _) j).1=_/\¬(geti il (Ej _ _ _) j).1=_)
  rw[Kt o0 o1' h0];by_cases D:j=o
  .rw[aD D,D];exact⟨λ_=>.inr (.inr ⟨ho0,rfl⟩),λh _=>(hot h).elim⟩
  .rw[av D];exact⟨λ_=>.inl rfl,λh _=>by rw[h,A k1 k17];decide⟩
 refine same k1 k17 _ ?_;unfold uv;rw[av k1,av k2];repeat' split
 all_goals first|rfl|omega
def al1 {e':ET} (h1:e'.1=e.1) (z:e'.2.1=e.2.1) (t:Int):fl [e'] t=fl [e] t:=by
 by_cases h:e.1=t
 .rw[Bt h,Bt (h1.trans h)];unfold rdE;rw[z]
 .rw[ym h,ym (λg=>h (h1.symm.trans g))]
def amu {e':ET} (h1:e'.1=e.1) (z:e'.2.1=e.2.1) {y:Int} (h:FQ (L++[e]) a y):FQ (L++[e']) a y:=by
 unfold FQ Nv at h ⊢;rw[vX,al1 h1 z,<-vX];exact h
def LQ (xs:Y T.den) (i k:Nat) (x:T.den) (hi:i<l! xs):geti _ (xs.set i x) (k:Int)=if k=i then x else geti _ xs (k:Int):=by
 refine (ku xs (i:Int) (k:Int) x (by omega) (by omega) (by omega)).trans ?_;by_cases h:k=i
 .rw[aD h,aD (by omega)]
 .rw[av h,av (by omega)]
abbrev G!:=ST×ET×Bool
def SQ (n:Nat) (c:CT) (L:Y ET) (y:G!):Prop:=y.2.2=J->SV (n+1) (L++[y.2.1]) y.1/\NF c (L++[y.2.1]) y.1/\SH c.1 y.2.1/\EvS y.2.1
def ama (hn:j+1<=100000) {c:CT} {s:ST} {o v0 si:Int} {fs:η} {sy:SY} (hs:SV j L s) (hI:NF c L s) (hp:PE j c s (i:Int) ((i:Int),a,o,v0,si,z,fs)) (hm:PS c L s (i:Int) ((i:Int),a,o,v0,si,z,fs)) (he:EN c.1 s.1 (i:Int) a o) (hr:Xa c.1 s.1 (i:Int) a o) (ha:AP j s.1 sy) (ds:Int) (ce fu:η) (N:TT) (hap:(uv c.1 s.1 (i:Int) a o ds).1=sy) (hva:VA c.1 s.1 s.2.1 s.2.2.1 (i:Int) a o ds) (hce:ce=ceP s.2.1 ((i:Int),a,o,ds,si,z,fs)) (hfu:fu=fuP s.2.2.1 ((i:Int),a,o,ds,si,z,fs)) (ht:TH (FQ (L++[((i:Int),a,o,v0,si,z,fs)]) (i:Int)) (j+1) N) (hg:l! N.2.1=0\/N.2.2.2=bl .i64 ((geti e_ s.2.2.2 (i:Int)).2.2.2+1)/\(a=16->N.1=(geti e_ s.2.2.2 (i:Int)).1)):SQ j c L ((sy,ce,fu,s.2.2.2.set i N),((i:Int),a,o,ds,si,z,fs),J):=by
 intro _;have q1:=hp.t1;have q2:=hp.fs.th;have q3:=hp.fs.e3;have q4:=hp.fs.vc.tl;have hil:i<l! s.2.2.2:=by omega
 have hln:=hs.ln;refine ⟨⟨ha.toSB hs.sb hn,by simp[hln],λk D=>?_⟩,⟨?_,λk D=>?_⟩,⟨he.nm,he.t0,he.t1,he.cd⟩,⟨c4 hp.d (by omega),c4 hp.f (by omega)⟩⟩
 .dsimp only at D ⊢;rw[dV]at D;rw[LQ (T:=e_) _ _ _ _ hil];split
  next h=>subst h;exact ht.mono (bO _) λy A=>amu (e:=((k:Int),a,o,v0,si,z,fs)) (e':=((k:Int),a,o,ds,si,z,fs)) rfl rfl A
  .exact (hs.t k D).mono (by omega) λy A=>⟨A.1,A.2.app _⟩
 .rw[<- hap,hce,hfu];exact hI.ac.snoc (e:=((i:Int),a,o,ds,si,z,fs)) ⟨he,hr,hm.s1,hm.s2,hm.de,hm.fr,⟨hm.da,λx hx=>⟨(hm.dq x hx).1,(hm.dq x hx).2.lt⟩⟩,⟨hm.fa,λx hx=>⟨(hm.fq x hx).1,(hm.fq x hx).2.lt⟩⟩,λy A=>(hm.dq y A).2,λy A=>(hm.fq y A).2,hva⟩
 .dsimp only at D ⊢;rw[dV]at D;rw[LQ (T:=e_) _ _ _ _ hil];let⟨Ku,st2⟩:=apq ds he hr (j:=(k:Int)) (by omega);rw[hap]at Ku st2;have hfl:=UW L (i:Int);split
  .rename_i h;subst h;rcases hg with hg|⟨g1,g2⟩
   .exact .inl hg
   .refine .inr ⟨?_,λhw=>?_,λhz=>?_⟩
    .rw[g1,hm.tg.ev,vX,Bt rfl,gQ];simp
    .have h16:a=16:=xf λh=>hw.elim (st2 rfl h).1 (st2 rfl h).2
     rw[g2 h16];exact hm.wt h16
    .rw[vX,Bt rfl]at hz;simp at hz
  .rename_i h;have hki:¬(k:Int)=(i:Int):=by omega
   have hfo:∀e:ET,e.1=(i:Int)->fl (L++[e]) (k:Int)=fl L (k:Int):=λe h=>by
    rw[vX,ym (by rw[h];exact λh=>hki h.symm),jB]
   have Ku:=Ku hki;refine (hI.t k D).imp id λg=>⟨by rw[hfo _ rfl];exact g.ev,λhw=>g.wi (by
    rcases Ku with h1|⟨h1,_⟩|⟨_,h1⟩
    .rw[<- h1];exact hw
    .exact .inl h1
    .exact hw.elim (λh=>b8 (h1.symm.trans h) (by decide)) λh=>b8 (h1.symm.trans h) (by decide)),λhz=>?_⟩
   rw[hfo _ rfl]at hz;have g2:=g.nw hz;rcases Ku with h1|⟨h1,_⟩|⟨_,h1⟩
   .rw[h1];exact g2
   .exact (g2.elim (λh=>b8 (h1.symm.trans h) (by decide)) λh=>b8 (h1.symm.trans h) (by decide))
   .exact .inr h1
end
end Go.Proofs.YtcmnmakaoonfgaaGreatDoor.AI
