/-
  Texts of the proof, part 5 of 6: what is used to prove the statement. No condition.
-/
import Derived.Test.YthehadcddfilhaaGreatDoorHBRacesQ3
import Derived.Deep.Slices
import Derived.OpenShut
import Derived.Below
import Derived.Test.YthehadcddfilhaaGreatDoorProg
import Derived.KernelRfl
import Derived.Recover
namespace Go.Proofs.YthehadcddfilhaaGreatDoor.AI
open Go.RowKit
set_option maxRecDepth 100000
set_option maxHeartbeats 4000000
set_option linter.unusedVariables false
set_option linter.unusedSimpArgs false
open Act renaming put→N6
open _root_.Array renaming replicate→oC
open _root_.Bool renaming true→ai,false→aj
open Call renaming operands→eS
open _root_.Int renaming ofNat_eq_natCast→au,ofNat→aP,toNat_natCast→dS
open _root_.List renaming length→al,range→cS,length_singleton→c6,cons_append→gw,length_nil→jU,nil_append→lV,getElem?_cons_zero→qX,take_succ_cons→v7
open _root_.Nat renaming beq→aC,testBit→aN,add_zero→dv,ble→eK,blt→gq
open Oper renaming wp→HM
open _root_.Option renaming some→af,none→ah,bind_some→aI,map_some→ch,map→lU,getD_some→ve
open _root_.Prod renaming p2→aY,p3→bh,q3→bL
open Region renaming wanted→iM
open Result renaming andThen_ok→cL
open Sem renaming run_bind→eJ,run_pure→oU
open _root_.Sum renaming inr→bP,inl→lz
open Value renaming okWide→HK
open World renaming cell?→N0
noncomputable section
mutual
def CS (g:Nat->Nat):TV->TV
 |.row i=>.row (g i)
 |.rtl i j=>.rtl (g i) j
 |.agg l=>.agg (kA g l)
 |.tup l=>.tup (kA g l)
 |.clo q l=>.clo q (kA g l)
 |.f T v=>.f T v
 |.fel T xs j h off=>.fel T xs j h off
 |.pel a b c d=>.pel (g a) b c d
 |.ptr a b=>.ptr (g a) b
 |.csl a b c=>.csl (g a) b c
 |.emp=>.emp
 |.nil=>.nil
 |.mp i=>.mp (g i)
 |.undef=>.undef
 |.np=>.np
 |.anyb=>.anyb
def kA (g:Nat->Nat):List TV->List TV
 |[]=>[]
 |x::r=>CS g x::kA g r
end
theorem Am (g:Nat->Nat):∀ l,kA g l=l.map (CS g)
 |[]=>rfl
 |x::r=>by rw[kA,Am g r];rfl
def lX (g:Nat->Nat):iw->iw
 |.cells ty l=>.cells ty (kA g l)
 |.rows ty p T xs=>.rows ty p T xs
 |.dead p sz n=>.dead p sz n
 |.mp K V es=>.mp K V es
theorem Iu (g:Nat->Nat) (b:iw):mK (lX g b)=mK b:=by cases b<;>rfl
def H8 (g:Nat->Nat) (n:Nat):Nat:=nm (g (ow n))
theorem xM (g:Nat->Nat) (i:Nat):H8 g (nm i)=nm (g i):=by unfold H8;rw[ef]
mutual
theorem ajl {g:Nat->Nat} {h1 h2:bl} (hrow:∀ i r,eC h1 i=af r->eC h2 (g i)=af r):∀ (v:TV) (y:AV),cr h1 v=af y->cr h2 (CS g v)=af (y.ren (H8 g))
 |.f _ _,y,he=>by simp only[cr,ak] at he;subst he;rfl
 |.fel _ _ _ _ _,y,he=>by simp only[cr,ak] at he;subst he;rfl
 |.pel _ _ _ _,y,he=>by simp only[cr,ak] at he;subst he;simp only[CS,cr,AV.ren,xM]
 |.ptr _ _,y,he=>by simp only[cr,ak] at he;subst he;simp only[CS,cr,AV.ren,xM]
 |.csl _ _ _,y,he=>by simp only[cr,ak] at he;subst he;simp only[CS,cr,AV.ren,xM]
 |.row id,y,he=>by
  simp only[cr] at he;split at he
  .rename_i p sz n hr;simp only[ak] at he;subst he;simp only[CS,cr,hrow id _ hr];unfold fy;split
   .rfl
   .simp only[AV.ren,xM]
  .cases he
 |.rtl id jj,y,he=>by
  simp only[cr] at he;split at he
  .rename_i p sz n hr;simp only[ak] at he;subst he;simp only[CS,cr,hrow id _ hr,AV.ren,xM]
  .cases he
 |.emp,y,he=>by simp only[cr,ak] at he;subst he;rfl
 |.nil,y,he=>by simp only[cr,ak] at he;subst he;rfl
 |.mp _,y,he=>by simp only[cr,ak] at he;subst he;simp only[CS,cr,AV.ren,xM]
 |.agg l,y,he=>by
  simp only[cr] at he;split at he
  .rename_i l' hl;simp only[ak] at he;subst he;simp only[CS,cr,qK hrow l l' hl,AV.ren]
  .cases he
 |.tup l,y,he=>by
  simp only[cr] at he;split at he
  .rename_i l' hl;simp only[ak] at he;subst he;simp only[CS,cr,qK hrow l l' hl,AV.ren]
  .cases he
 |.clo q l,y,he=>by
  simp only[cr] at he;split at he
  .rename_i l' hl;simp only[ak] at he;subst he;simp only[CS,cr,qK hrow l l' hl,AV.ren]
  .cases he
 |.undef,y,he=>by simp only[cr,ak] at he;subst he;rfl
 |.np,y,he=>by simp only[cr,ak] at he;subst he;rfl
 |.anyb,y,he=>by simp only[cr,ak] at he;subst he;rfl
theorem qK {g:Nat->Nat} {h1 h2:bl} (hrow:∀ i r,eC h1 i=af r->eC h2 (g i)=af r):∀ (l:List TV) (l':List AV),cN h1 l=af l'->cN h2 (kA g l)=af (AV.renL (H8 g) l')
 |[],l',he=>by simp only[cN,ak] at he;subst he;rfl
 |x::r,l',he=>by
  obtain⟨y,l2,rfl,e1,e2⟩:=c7 he;exact o8 (ajl hrow x y e1) (qK hrow r l2 e2)
end
theorem Ds {g:Nat->Nat} {h1 h2:bl} (hrow:∀ i r,eC h1 i=af r->eC h2 (g i)=af r) {b:iw} {y:xl} (he:kC h1 b=af y):kC h2 (lX g b)=af (y.ren (H8 g)):=by
 cases b with
 |rows ty p T xs=>
  simp only[kC] at he;split at he
  .cases he
  .rename_i hc;simp only[ak] at he;subst he;simp only[lX,kC,ay hc];rfl
 |cells ty l=>
  simp only[kC] at he;split at he
  .rename_i I hl;simp only[ak] at he;subst he;simp only[lX,kC,qK hrow l I hl,oE];rfl
  .cases he
 |dead p sz n=>cases he
 |mp K V es=>
  simp only[kC,ak] at he;subst he;simp only[lX,kC,xl.ren,ak,xl.mk.injEq,BL];unfold mpC;split
  .rfl
  .simp only[BC.ren,Aj];rfl
theorem CR (g:Nat->Nat) (a b:List TV):kA g (a++b)=kA g a++kA g b:=by
 rw[Am,Am,Am,cE]
theorem pR (g:Nat->Nat):∀ (n:Nat) (T:Ty) (v:T.den) (l:List TV),cellsOf n T v=af l->kA g l=l
 |0,_,_,_,he=>by simp[cellsOf] at he
 |n+1,.st t,v,l,he=>pR g n t v l he
 |n+1,.pr a b,v,l,he=>by
  simp only[cellsOf] at he;split at he
  .rename_i x y J I;simp only[ak] at he;subst he;rw[CR,pR g n a v.1 x J,pR g n b v.2 y I]
  .cases he
 |n+1,.un,v,l,he=>by simp only[cellsOf,ak] at he;subst he;rfl
 |n+1,.ex,v,l,he=>pR g n Nd (N9 v) l he
 |n+1,.sm,v,l,he=>pR g n MO (N8 v) l he
 |n+1,.int k,v,l,he=>by simp only[cellsOf,ak] at he;subst he;rfl
 |n+1,.bool,v,l,he=>by simp only[cellsOf,ak] at he;subst he;rfl
 |n+1,.str,v,l,he=>by simp only[cellsOf,ak] at he;subst he;rfl
 |n+1,.sl t,v,l,he=>by simp only[cellsOf,ak] at he;subst he;rfl
abbrev H3:Nat->Nat:=λi=>i
mutual
theorem aay (g:Nat->Nat):∀ (p:PV) (x:p.ty.den),pY g p x=(pY H3 p x).map (kA g)
 |.d T,x=>by
  simp only[pY];cases h:cellsOf 40 T x with
  |none=>rfl
  |some l=>simp only[ch,pR g 40 T x l h]
 |.ptr i o,x=>rfl
 |.csl i o z,x=>rfl
 |.clo q i o,x=>rfl
 |.row i,x=>rfl
 |.mp i,x=>rfl
 |.nil,x=>rfl
 |.emp,x=>rfl
 |.agg ps,x=>An g ps x
theorem An (g:Nat->Nat):∀ (ps:List PV) (x:(PV.tyL ps).den),re g ps x=(re H3 ps x).map (kA g)
 |[],x=>rfl
 |p::r,x=>by
  simp only[re];rw[aay g p,An g r];cases pY H3 p (O5 p.ty (PV.tyL r) x) with
  |none=>rfl
  |some a=>
   cases re H3 r (Lu p.ty (PV.tyL r) x) with
   |none=>rfl
   |some b=>simp only[ch,CR]
end
def ajz (o:Option (List TV)):Option TV:=match o with|some l=>af (.agg l)|none=>ah
theorem ad5 (g:Nat->Nat) (o:Option (List TV)):ajz (o.map (kA g))=(ajz o).map (CS g):=by cases o<;>rfl
theorem aaw (g:Nat->Nat) (p:PV) (x:p.ty.den):tI g p x=(tI H3 p x).map (CS g):=by
 cases p with
 |agg ps=>exact (gO ajz (An g ps x)).trans (ad5 g _)
 |_=>rfl
theorem tW (g:Nat->Nat):∀ (ps:List PV) (x:(PV.tyL ps).den),qd g ps x=(qd H3 ps x).map (kA g)
 |[],x=>rfl
 |p::r,x=>by
  simp only[qd];rw[aaw g p,tW g r];cases tI H3 p (O5 p.ty (PV.tyL r) x) with
  |none=>rfl
  |some a=>
   cases qd H3 r (Lu p.ty (PV.tyL r) x) with
   |none=>rfl
   |some b=>rfl
def Wh (ty:TypeId) (o:Option (List TV)):Option (Option iw):=match o with|some l=>af (af (.cells ty l))|none=>ah
theorem Wg (g:Nat->Nat) (ty:TypeId) (o:Option (List TV)):Wh ty (o.map (kA g))=(Wh ty o).map (lU (lX g)):=by cases o<;>rfl
theorem aaz (g:Nat->Nat) (b:PB) (x:b.ty.den):CX g b x=(CX H3 b x).map (lU (lX g)):=by
 cases b with
 |cells ty ps=>exact (gO (Wh ty) (An g ps x)).trans (Wg g ty _)
 |_=>rfl
theorem wu (g:Nat->Nat):∀ (bs:List PB) (x:(PB.tyL bs).den),oF g bs x=(oF H3 bs x).map (List.map (lU (lX g)))
 |[],x=>rfl
 |b::r,x=>by
  simp only[oF];rw[aaz g b,wu g r];cases CX H3 b (O5 b.ty (PB.tyL r) x) with
  |none=>rfl
  |some a=>
   cases oF H3 r (Lu b.ty (PB.tyL r) x) with
   |none=>rfl
   |some l=>rfl
theorem CW (g:Nat->Nat):∀ (bs:List PB) (x:(PB.tyL bs).den) (l:List (Option iw)),oF g bs x=af l->l.length=bs.length
 |[],x,l,h=>by simp only[oF,ak] at h;subst h;rfl
 |b::r,x,l,h=>by
  simp only[oF] at h;split at h
  .split at h
   .rename_i q hq;simp only[ak] at h;subst h;simp[CW g r _ q hq]
   .cases h
  .cases h
theorem Jt (h:bl) (i j:Nat):(kill h i).get j=if j=i then (h.get i).map vu else h.get j:=by
 unfold kill;cases hb:h.get i with
 |none=>
  simp only[Option.map_none];split
  .rename_i e;rw[e,hb]
  .rfl
 |some b=>rw[PT.get_set];rfl
theorem vp (g:Nat->Nat):∀ (l:List (Option iw)) (i:Nat) (h:bl) (j:Nat),(∀ k,k<l.length->j≠g (i+k))->(AL g i l h).get j=h.get j
 |[],i,h,j,_=>rfl
 |some c::r,i,h,j,hj=>by
  rw[AL,vp g r (i+1) _ j (λk hk=>by have:=hj (k+1) (by simpa using hk);rwa [show i+1+k=i+(k+1) from by omega]),PT.get_set,ay];exact hj 0 (by simp)
 |none::r,i,h,j,hj=>by
  rw[AL,vp g r (i+1) _ j (λk hk=>by have:=hj (k+1) (by simpa using hk);rwa [show i+1+k=i+(k+1) from by omega]),Jt,ay];exact hj 0 (by simp)
theorem vq (g:Nat->Nat):∀ (l:List (Option iw)) (i:Nat) (h:bl),(∀ a b,a<l.length->b<l.length->g (i+a)=g (i+b)->a=b)->∀ (k:Nat) (c:Option iw),l[k]? =af c->(AL g i l h).get (g (i+k))=(match c with|some b=>af b|none=>(h.get (g (i+k))).map vu)
 |[],i,h,_,k,c,hk=>by simp at hk
 |o::r,i,h,hinj,k,c,hk=>by
  have hinj':∀ a b,a<r.length->b<r.length->g (i+1+a)=g (i+1+b)->a=b:=λa b J hb e=>by
   have:=hinj (a+1) (b+1) (by simpa using J) (by simpa using hb) (by rw[show i+(a+1)=i+1+a from by omega,show i+(b+1)=i+1+b from by omega];exact e);omega
  cases k with
  |zero=>
   simp at hk;subst hk;have hne:∀ k,k<r.length->g (i+0)≠g (i+1+k):=λk hk e=>by
    have:=hinj 0 (k+1) (by simp) (by simpa using hk) (by rw[show i+(k+1)=i+1+k from by omega];exact e);omega
   cases o with
   |some b=>rw[AL,vp g r (i+1) _ _ hne];simp only[dv];rw[PT.get_set,aE rfl]
   |none=>rw[AL,vp g r (i+1) _ _ hne];simp only[dv];rw[Jt,aE rfl]
  |succ k=>
   have I:r[k]? =af c:=by simpa using hk
   have hkl:k<r.length:=(bn.1 I).1;have hne:g (i+(k+1))≠g i:=λe=>by
    have:=hinj (k+1) 0 (by simpa using hkl) (by simp) (by rw[e];rfl);omega
   rw[show i+(k+1)=i+1+k from by omega] at hne ⊢;cases o with
   |some b=>
    rw[AL,vq g r (i+1) _ hinj' k c I];cases c with
    |some _=>rfl
    |none=>simp only[PT.get_set,ay hne]
   |none=>
    rw[AL,vq g r (i+1) _ hinj' k c I];cases c with
    |some _=>rfl
    |none=>simp only[Jt,ay hne]
def x_ (h' h:bl):Prop:=∀ i r,eC h' i=af r->eC h i=af r
section get
variable {h h':bl} {H H':HF} {g:Nat->Nat}
theorem lQ.agg {l I:List AV} (hl:ik H H' l I) (hc:∀ x∈I,x.isCell=ai):lQ H H' (.agg l) (.agg I):=by
 intro φ E w v hrep hr;cases hr with
 |@agg _ vs hlen hcl hrr=>
  refine .agg (by rw[hlen,<-hl.length]) hc λj y u J hu=>?_
  obtain⟨x,M,hle⟩:=hl.get j y J;exact hle φ E w u hrep (hrr j x u M hu)
theorem QD (hr:x_ h' h) {i:Nat} {y M:AV} (J:cr h (.row i)=af y) (I:cr h' (.row i)=af M):M=y:=by
 simp only[cr] at J I;cases h1:eC h' i with
 |none=>rw[h1] at I;cases I
 |some r=>
  rw[h1] at I;rw[hr i r h1] at J;rw[J] at I;cases I;rfl
mutual
theorem afm (d:vI H H') (hr:x_ h' h):∀ (p:PV) (l:List TV) (x:p.ty.den) (m:Nat) (r:List TV) (cs:List TV) (l' cs':List AV),py g h p l=af (x,m,r)->pY g p x=af cs->cN h l=af l'->cN h' cs=af cs'->Eo h H H' m->∃ l1 l2,l'=l1++l2/\cN h r=af l2/\ik H H' l1 cs'
 |.d T,l,x,m,r,cs,l',cs',hg,hp,hl,hc,gv=>by
  obtain⟨l1,l2,e1,e2,e3⟩:=sr d 40 T l x m r l' hg hl gv;have:=(lO h' 40 T x cs hp).1;rw[hc] at this;cases this;exact⟨l1,l2,e1,e2,e3⟩
 |.ptr i q,l,x,m,r,cs,l',cs',hg,hp,hl,hc,gv=>by
  simp only[py] at hg;split at hg
  .rename_i i' o' r';split at hg
   .rename_i hb;simp only[av] at hb;have e1:=aw hb.1;have e2:=aw hb.2;subst e1;subst e2;simp only[ak,aD] at hg;obtain⟨_,_,rfl⟩:=hg;simp only[pY,ak] at hp;subst hp;obtain⟨y,l2,rfl,g1,g2⟩:=c7 hl;simp only[cr,ak] at g1;subst g1;simp only[cN,cr,ak] at hc;subst hc;exact⟨[_],l2,rfl,g2,lQ.refl d _,trivial⟩
   .cases hg
  .cases hg
 |.csl i q z,l,x,m,r,cs,l',cs',hg,hp,hl,hc,gv=>by
  simp only[py] at hg;split at hg
  .rename_i i' o' z' r';split at hg
   .rename_i hb;simp only[av] at hb;have e1:=aw hb.1.1;have e2:=aw hb.1.2;have e3:=aw hb.2;subst e1;subst e2;subst e3;simp only[ak,aD] at hg;obtain⟨_,_,rfl⟩:=hg;simp only[pY,ak] at hp;subst hp;obtain⟨y,l2,rfl,g1,g2⟩:=c7 hl;simp only[cr,ak] at g1;subst g1;simp only[cN,cr,ak] at hc;subst hc;exact⟨[_],l2,rfl,g2,lQ.refl d _,trivial⟩
   .cases hg
  .cases hg
 |.clo q i z,l,x,m,r,cs,l',cs',hg,hp,hl,hc,gv=>by
  simp only[py] at hg;split at hg
  .rename_i q' i' z' r';split at hg
   .rename_i hb;simp only[av] at hb;have e1:=aw hb.1.1;have e2:=aw hb.1.2;have e3:=aw hb.2;subst e1;subst e2;subst e3;simp only[ak,aD] at hg;obtain⟨_,_,rfl⟩:=hg;simp only[pY,ak] at hp;subst hp;obtain⟨y,l2,rfl,g1,g2⟩:=c7 hl;simp only[cr,cN,ak] at g1;subst g1;simp only[cN,cr,ak] at hc;subst hc;exact⟨[_],l2,rfl,g2,lQ.refl d _,trivial⟩
   .cases hg
  .cases hg
 |.row i,l,x,m,r,cs,l',cs',hg,hp,hl,hc,gv=>by
  simp only[py] at hg;split at hg
  .rename_i i' r';split at hg
   .rename_i hb;have e1:=aw hb;subst e1;simp only[ak,aD] at hg;obtain⟨_,_,rfl⟩:=hg;simp only[pY,ak] at hp;subst hp;obtain⟨y,l2,rfl,g1,g2⟩:=c7 hl;obtain⟨y',l3,rfl,g3,g4⟩:=c7 hc;simp only[cN,ak] at g4;subst g4;rw[QD hr g1 g3];exact⟨[_],l2,rfl,g2,lQ.refl d _,trivial⟩
   .cases hg
  .cases hg
 |.mp i,l,x,m,r,cs,l',cs',hg,hp,hl,hc,gv=>by
  simp only[py] at hg;split at hg
  .rename_i i' r';split at hg
   .rename_i hb;have e1:=aw hb;subst e1;simp only[ak,aD] at hg;obtain⟨_,_,rfl⟩:=hg;simp only[pY,ak] at hp;subst hp;obtain⟨y,l2,rfl,g1,g2⟩:=c7 hl;simp only[cr,ak] at g1;subst g1;simp only[cN,cr,ak] at hc;subst hc;exact⟨[_],l2,rfl,g2,lQ.refl d _,trivial⟩
   .cases hg
  .cases hg
 |.nil,l,x,m,r,cs,l',cs',hg,hp,hl,hc,gv=>by
  simp only[py] at hg;split at hg
  .simp only[ak,aD] at hg;obtain⟨_,_,rfl⟩:=hg;simp only[pY,ak] at hp;subst hp;obtain⟨y,l2,rfl,g1,g2⟩:=c7 hl;simp only[cr,ak] at g1;subst g1;simp only[cN,cr,ak] at hc;subst hc;exact⟨[_],l2,rfl,g2,lQ.refl d _,trivial⟩
  .cases hg
 |.emp,l,x,m,r,cs,l',cs',hg,hp,hl,hc,gv=>by
  simp only[py] at hg;split at hg
  .simp only[ak,aD] at hg;obtain⟨_,_,rfl⟩:=hg;simp only[pY,ak] at hp;subst hp;obtain⟨y,l2,rfl,g1,g2⟩:=c7 hl;simp only[cr,ak] at g1;subst g1;simp only[cN,cr,ak] at hc;subst hc;exact⟨[_],l2,rfl,g2,Le.nilEmp.toH d,trivial⟩
  .simp only[ak,aD] at hg;obtain⟨_,_,rfl⟩:=hg;simp only[pY,ak] at hp;subst hp;obtain⟨y,l2,rfl,g1,g2⟩:=c7 hl;simp only[cr,ak] at g1;subst g1;simp only[cN,cr,ak] at hc;subst hc;exact⟨[_],l2,rfl,g2,lQ.refl d _,trivial⟩
  .cases hg
 |.agg ps,l,x,m,r,cs,l',cs',hg,hp,hl,hc,gv=>Do d hr ps l x m r cs l' cs' hg hp hl hc gv
theorem Do (d:vI H H') (hr:x_ h' h):∀ (ps:List PV) (l:List TV) (x:(PV.tyL ps).den) (m:Nat) (r:List TV) (cs:List TV) (l' cs':List AV),zw g h ps l=af (x,m,r)->re g ps x=af cs->cN h l=af l'->cN h' cs=af cs'->Eo h H H' m->∃ l1 l2,l'=l1++l2/\cN h r=af l2/\ik H H' l1 cs'
 |[],l,x,m,r,cs,l',cs',hg,hp,hl,hc,gv=>by
  simp only[zw,ak,aD] at hg;obtain⟨_,_,rfl⟩:=hg;simp only[re,ak] at hp;subst hp;simp only[cN,ak] at hc;subst hc;exact⟨[],l',rfl,hl,trivial⟩
 |p::ps,l,x,m,r,cs,l',cs',hg,hp,hl,hc,gv=>by
  simp only[zw] at hg;split at hg
  .rename_i x1 m1 r1 h1;split at hg
   .rename_i x2 m2 r2 h2;simp only[ak,aD] at hg;obtain⟨rfl,rfl,rfl⟩:=hg;simp only[re,tQ,vk] at hp;split at hp
    .rename_i a ha;split at hp
     .rename_i b hb;simp only[ak] at hp;subst hp;obtain⟨a',b',rfl,ea,eb⟩:=Cg hc;obtain⟨ga,gb⟩:=gv.or;obtain⟨l1,l2,rfl,q1,q2⟩:=afm d hr p l _ _ _ a l' a' h1 ha hl ea ga;obtain⟨l3,l4,rfl,q3,q4⟩:=Do d hr ps _ _ _ _ b l2 b' h2 hb q1 eb gb;exact⟨l1++l3,l4,by simp,q3,q2.append q4⟩
     .cases hp
    .cases hp
   .cases hg
  .cases hg
end
mutual
theorem Yj:∀ (p:PV) (x:p.ty.den) (cs:List TV),pY g p x=af cs->kx cs=ai
 |.d T,x,cs,hp=>(lO PT.leaf 40 T x cs hp).2
 |.ptr i q,x,cs,hp=>by simp only[pY,ak] at hp;subst hp;rfl
 |.csl i q z,x,cs,hp=>by simp only[pY,ak] at hp;subst hp;rfl
 |.clo q i z,x,cs,hp=>by simp only[pY,ak] at hp;subst hp;rfl
 |.row i,x,cs,hp=>by simp only[pY,ak] at hp;subst hp;rfl
 |.mp i,x,cs,hp=>by simp only[pY,ak] at hp;subst hp;rfl
 |.nil,x,cs,hp=>by simp only[pY,ak] at hp;subst hp;rfl
 |.emp,x,cs,hp=>by simp only[pY,ak] at hp;subst hp;rfl
 |.agg ps,x,cs,hp=>xv ps x cs hp
theorem xv:∀ (ps:List PV) (x:(PV.tyL ps).den) (cs:List TV),re g ps x=af cs->kx cs=ai
 |[],x,cs,hp=>by simp only[re,ak] at hp;subst hp;rfl
 |p::ps,x,cs,hp=>by
  simp only[re] at hp;split at hp
  .rename_i a ha;split at hp
   .rename_i b hb;simp only[ak] at hp;subst hp;exact Tk (Yj p _ a ha) (xv ps _ b hb)
   .cases hp
  .cases hp
end
theorem afl (d:vI H H') (hr:x_ h' h) {p:PV} {v:TV} {x:p.ty.den} {m:Nat} {u:TV} {y M:AV} (hg:xK g h p v=af (x,m)) (hp:tI g p x=af u) (J:cr h v=af y) (I:cr h' u=af M) (Z:Eo h H H' m):lQ H H' y M:=by
 cases p with
 |d T=>
  simp only[tI,ak] at hp;subst hp;simp only[cr,ak] at I;subst I;exact (PQ d hg J Z).1
 |agg ps=>
  simp only[xK] at hg;split at hg
  .cases hg
  .rename_i hc;split at hg
   .rename_i l hl;split at hg
    .rename_i x1 m1 h1;simp only[ak,aD] at hg;obtain⟨rfl,rfl⟩:=hg;simp only[tI] at hp;split at hp
     .rename_i cs hcs;simp only[ak] at hp;subst hp;simp only[cr] at I;split at I
      .rename_i cs' hcs';simp only[ak] at I;subst I;obtain⟨e1,e2⟩:=Ks hl J;obtain⟨l1,l2,Y,U,q3⟩:=Do d hr ps l _ _ [] cs y.cs cs' h1 hcs e1 hcs' Z;simp only[cN,ak] at U;subst U;rw[gp] at Y;subst Y;have hcell:∀ x∈cs',x.isCell=ai:=lP (sj hcs' (xv ps _ cs hcs));cases v with
       |agg q=>
        simp only[cr] at J;split at J
        .simp only[ak] at J;subst J;exact lQ.agg q3 hcell
        .cases J
       |f S z=>
        simp only[cr,ak] at J;subst J;have ho:S.one=aj:=by simpa[TV.isC] using hc
        rw[Ay] at q3;rw[qL S z ho];intro φ E w v hrep hrel;exact lQ.agg q3 hcell φ E w v hrep (Le.aggF _ _ _ _ hrel)
       |tup q=>simp[TV.cs,TV.isC] at hl
       |undef=>simp[TV.cs,TV.isC] at hl
       |np=>simp[TV.isC] at hc
       |anyb=>simp[TV.cs,TV.isC] at hl
       |fel T xs j hj off=>simp[TV.isC] at hc
       |pel id sz j off=>simp[TV.isC] at hc
       |ptr id off=>simp[TV.isC] at hc
       |csl id off z=>simp[TV.isC] at hc
       |row id=>simp[TV.isC] at hc
       |emp=>simp[TV.isC] at hc
       |nil=>simp[TV.isC] at hc
       |mp id=>simp[TV.isC] at hc
       |rtl id jj=>cases hl
       |clo g l=>simp[TV.isC] at hc
      .cases I
     .cases hp
    .cases hg
   .cases hg
 |ptr i q=>
  simp only[tI,ak] at hp;subst hp;simp only[xK] at hg;split at hg
  .rename_i h1;simp only[py] at h1;split at h1
   .rename_i e;simp only[iT] at e;obtain⟨rfl,_⟩:=e;split at h1
    .rename_i hb;simp only[av] at hb;have e1:=aw hb.1;have e2:=aw hb.2;subst e1;subst e2;simp only[cr,ak] at J I;subst J;subst I;exact lQ.refl d _
    .cases h1
   .cases h1
  .cases hg
 |csl i q z=>
  simp only[tI,ak] at hp;subst hp;simp only[xK] at hg;split at hg
  .rename_i h1;simp only[py] at h1;split at h1
   .rename_i e;simp only[iT] at e;obtain⟨rfl,_⟩:=e;split at h1
    .rename_i hb;simp only[av] at hb;have e1:=aw hb.1.1;have e2:=aw hb.1.2;have e3:=aw hb.2;subst e1;subst e2;subst e3;simp only[cr,ak] at J I;subst J;subst I;exact lQ.refl d _
    .cases h1
   .cases h1
  .cases hg
 |clo q i z=>
  simp only[tI,ak] at hp;subst hp;simp only[xK] at hg;split at hg
  .rename_i h1;simp only[py] at h1;split at h1
   .rename_i e;simp only[iT] at e;obtain⟨rfl,_⟩:=e;split at h1
    .rename_i hb;simp only[av] at hb;have e1:=aw hb.1.1;have e2:=aw hb.1.2;have e3:=aw hb.2;subst e1;subst e2;subst e3;simp only[cr,cN,ak] at J I;subst J;subst I;exact lQ.refl d _
    .cases h1
   .cases h1
  .cases hg
 |row i=>
  simp only[tI,ak] at hp;subst hp;simp only[xK] at hg;split at hg
  .rename_i h1;simp only[py] at h1;split at h1
   .rename_i e;simp only[iT] at e;obtain⟨rfl,_⟩:=e;split at h1
    .rename_i hb;have e1:=aw hb;subst e1;rw[QD hr J I];exact lQ.refl d _
    .cases h1
   .cases h1
  .cases hg
 |mp i=>
  simp only[tI,ak] at hp;subst hp;simp only[xK] at hg;split at hg
  .rename_i h1;simp only[py] at h1;split at h1
   .rename_i e;simp only[iT] at e;obtain⟨rfl,_⟩:=e;split at h1
    .rename_i hb;have e1:=aw hb;subst e1;simp only[cr,ak] at J I;subst J;subst I;exact lQ.refl d _
    .cases h1
   .cases h1
  .cases hg
 |nil=>
  simp only[tI,ak] at hp;subst hp;simp only[xK] at hg;split at hg
  .rename_i h1;simp only[py] at h1;split at h1
   .rename_i e;simp only[iT] at e;obtain⟨rfl,_⟩:=e;simp only[cr,ak] at J I;subst J;subst I;exact lQ.refl d _
   .cases h1
  .cases hg
 |emp=>
  simp only[tI,ak] at hp;subst hp;simp only[xK] at hg;split at hg
  .rename_i h1;simp only[py] at h1;split at h1
   .rename_i e;simp only[iT] at e;obtain⟨rfl,_⟩:=e;simp only[cr,ak] at J I;subst J;subst I;exact Le.nilEmp.toH d
   .rename_i e;simp only[iT] at e;obtain⟨rfl,_⟩:=e;simp only[cr,ak] at J I;subst J;subst I;exact lQ.refl d _
   .cases h1
  .cases hg
theorem Dn (d:vI H H') (hr:x_ h' h):∀ (ps:List PV) (vs:List TV) (x:(PV.tyL ps).den) (m:Nat) (us:List TV) (l J:List AV),yl g h ps vs=af (x,m)->qd g ps x=af us->cN h vs=af l->cN h' us=af J->Eo h H H' m->ik H H' l J
 |[],[],x,m,us,l,J,hg,hp,hl,I,M=>by
  simp only[qd,ak] at hp;subst hp;simp only[cN,ak] at hl I;subst hl;subst I;trivial
 |[],_::_,x,m,us,l,J,hg,_,_,_,_=>by simp[yl] at hg
 |_::_,[],x,m,us,l,J,hg,_,_,_,_=>by simp[yl] at hg
 |p::ps,v::vs,x,m,us,l,J,hg,hp,hl,I,M=>by
  simp only[yl] at hg;split at hg
  .rename_i x1 m1 h1;split at hg
   .rename_i x2 m2 h2;simp only[ak,aD] at hg;obtain⟨rfl,rfl⟩:=hg;simp only[qd,tQ,vk] at hp;split at hp
    .rename_i a Y;split at hp
     .rename_i b hb;simp only[ak] at hp;subst hp;obtain⟨y,l2,rfl,e1,e2⟩:=c7 hl;obtain⟨y',U,rfl,e3,e4⟩:=c7 I;obtain⟨ga,Z⟩:=M.or;exact⟨afl d hr h1 Y e1 e3 ga,Dn d hr ps vs _ _ b l2 U h2 hb e2 e4 Z⟩
     .cases hp
    .cases hp
   .cases hg
  .cases hg
inductive BM (g:Nat->Nat) (h:bl) (m:Nat):iw->iw->Prop
 |rows (ty:TypeId) (p:Bool) (T:Ty) (xs:List T.den):BM g h m (.rows ty p T xs) (.rows ty p T xs)
 |mp (K V:Ty) (es:List (K.den×V.den)):BM g h m (.mp K V es) (.mp K V es)
 |cells (ty:TypeId) (ps:List PV) (x:(PV.tyL ps).den) (l l2:List TV) (m':Nat) (hg:zw g h ps l=af (x,m',[])) (hp:re g ps x=af l2) (hm:∀ i,aN m' i=ai->aN m i=ai):BM g h m (.cells ty l) (.cells ty l2)
theorem BM.mono {m m2:Nat} (hm:∀ i,aN m i=ai->aN m2 i=ai) {b c:iw} (h1:BM g h m b c):BM g h m2 b c:=by
 cases h1 with
 |rows ty p T xs=>exact .rows ty p T xs
 |mp K V es=>exact .mp K V es
 |cells ty ps x l l2 m' hg hp I=>exact .cells ty ps x l l2 m' hg hp λi hi=>hm i (I i hi)
theorem afn {i:Nat} {b:PB} {x:b.ty.den} {m:Nat} {c:iw} (hg:Fb g h i b=af (x,m)) (hp:CX g b x=af (af c)):∃ b0,h.get (g i)=af b0/\BM g h m b0 c:=by
 cases b with
 |rows ty p T=>
  simp only[Fb] at hg;split at hg
  .rename_i ty' M S xs hb;split at hg
   .rename_i hc;simp only[av,c5] at hc;obtain⟨rfl,rfl⟩:=hc;split at hg
    .rename_i z I;simp only[ak,aD] at hg;obtain⟨rfl,rfl⟩:=hg;obtain⟨e,rfl⟩:=ji I;cases e;simp only[CX,ak] at hp;subst hp;exact⟨_,hb,.rows _ _ _ _⟩
    .cases hg
   .cases hg
  .cases hg
 |rowsP ty T=>
  simp only[Fb] at hg;split at hg
  .rename_i ty' M S xs hb;split at hg
   .rename_i hc;have hc:ty=ty':=by simpa using hc
    subst hc;split at hg
    .rename_i z I;simp only[ak,aD] at hg;obtain⟨rfl,rfl⟩:=hg;obtain⟨e,rfl⟩:=ji I;cases e;simp only[CX,ak] at hp;subst hp;exact⟨_,hb,.rows _ _ _ _⟩
    .cases hg
   .cases hg
  .cases hg
 |cells ty ps=>
  simp only[Fb] at hg;split at hg
  .rename_i ty' l hb;split at hg
   .rename_i hc;have hc:ty=ty':=by simpa using hc
    subst hc;split at hg
    .rename_i z m1 I;simp only[ak,aD] at hg;obtain⟨rfl,rfl⟩:=hg;simp only[CX] at hp;split at hp
     .rename_i l2 J;simp only[ak] at hp;subst hp;exact⟨_,hb,.cells ty ps _ l l2 _ I J λ_ h=>h⟩
     .cases hp
    .cases hg
   .cases hg
  .cases hg
 |mp K V=>
  simp only[Fb] at hg;split at hg
  .rename_i K' V' es hb;split at hg
   .rename_i z I;simp only[ak,aD] at hg;obtain⟨rfl,rfl⟩:=hg;obtain⟨e,rfl⟩:=ji I;cases e;simp only[CX,ak] at hp;subst hp;exact⟨_,hb,.mp _ _ _⟩
   .cases hg
  .cases hg
 |gone=>simp[CX] at hp
theorem Jv:∀ (bs:List PB) (i:Nat) (x:(PB.tyL bs).den) (m:Nat) (I:List (Option iw)),Be g h i bs=af (x,m)->oF g bs x=af I->∀ (k:Nat) c,I[k]? =af (af c)->∃ b0,h.get (g (i+k))=af b0/\BM g h m b0 c
 |[],i,x,m,I,hg,hp,k,c,hk=>by
  simp only[oF,ak] at hp;subst hp;simp at hk
 |b::r,i,x,m,I,hg,hp,k,c,hk=>by
  simp only[Be] at hg;split at hg
  .rename_i U m1 h1;split at hg
   .rename_i M m2 h2;simp only[ak,aD] at hg;obtain⟨rfl,rfl⟩:=hg;simp only[oF,tQ,vk] at hp;split at hp
    .rename_i a J;split at hp
     .rename_i q hq;simp only[ak] at hp;subst hp;cases k with
      |zero=>
       simp at hk;subst hk;obtain⟨b0,e1,e2⟩:=afn h1 J;exact⟨b0,e1,e2.mono λi hi=>by rw[bu,hi];rfl⟩
      |succ k=>
       obtain⟨b0,e1,e2⟩:=Jv r (i+1) _ _ q h2 hq k c (by simpa using hk);rw[show i+1+k=i+(k+1) from by omega] at e1;exact⟨b0,e1,e2.mono λi hi=>by rw[bu,hi];simp⟩
     .cases hp
    .cases hp
   .cases hg
  .cases hg
end get
theorem RD {σ:PT Nat} {i a:Nat} (h:σ.get i=af a):ij σ i=a:=by unfold ij;rw[h]
theorem WZ {σ:PT Nat}:∀ (n i acc sm:Nat),aap σ n i acc=af sm->
 (∀ k,k<n->aN acc (ij σ (i+k))=aj)/\(∀ a b,a<n->b<n->ij σ (i+a)=ij σ (i+b)->a=b)/\∀ q,aN sm q=ai↔aN acc q=ai\/∃ k,k<n/\ij σ (i+k)=q
 |0,i,acc,sm,h=>by
  simp only[aap,ak] at h;subst h;exact⟨λk hk=>by omega,λa b J=>by omega,λq=>⟨.inl,λhq=>hq.elim id λ⟨k,hk,_⟩=>by omega⟩⟩
 |n+1,i,acc,sm,h=>by
  simp only[aap] at h;split at h
  .rename_i a J;split at h
   .cases h
   .rename_i hna;have hna:aN acc a=aj:=by simpa using hna
    have hga:=RD J;obtain⟨h1,h2,M⟩:=WZ n (i+1) (acc|||kQ a) sm h;have hne:∀ k,k<n->ij σ (i+1+k)≠a/\aN acc (ij σ (i+1+k))=aj:=λk hk=>by
     have:=h1 k hk;rw[bu,Bool.or_eq_false_iff] at this;refine ⟨λe=>?_,this.1⟩;have I:=this.2;rw[e] at I;rw[b7.2 rfl] at I;cases I
    refine ⟨λk hk=>?_,λx y Y U hxy=>?_,λq=>?_⟩
    .cases k with
     |zero=>rw[dv,hga];exact hna
     |succ k=>rw[show i+(k+1)=i+1+k from by omega];exact (hne k (by omega)).2
    .cases x with
     |zero=>
      cases y with
      |zero=>rfl
      |succ y=>
       rw[dv,hga,show i+(y+1)=i+1+y from by omega] at hxy;exact cR hxy.symm (hne y (by omega)).1
     |succ x=>
      cases y with
      |zero=>
       rw[show i+0=i from rfl,hga,show i+(x+1)=i+1+x from by omega] at hxy;exact cR hxy (hne x (by omega)).1
      |succ y=>
       rw[show i+(x+1)=i+1+x from by omega,show i+(y+1)=i+1+y from by omega] at hxy;have:=h2 x y (by omega) (by omega) hxy;omega
    .rw[M,bu,iU];constructor
     .rintro ((hq|hq)|⟨k,hk,hq⟩)
      .exact .inl hq
      .exact .inr ⟨0,by omega,by rw[dv,hga];exact b7.1 hq⟩
      .exact .inr ⟨k+1,by omega,by rw[show i+(k+1)=i+1+k from by omega];exact hq⟩
     .rintro (hq|⟨k,hk,hq⟩)
      .exact .inl (.inl hq)
      .cases k with
       |zero=>rw[dv,hga] at hq;exact .inl (.inr (b7.2 hq))
       |succ k=>exact .inr ⟨k,by omega,by rw[show i+1+k=i+(k+1) from by omega];exact hq⟩
  .cases h
theorem RK {σ:PT Nat}:∀ (n:Nat),XD σ n=ai->∀ i,i<n->ij σ i=i
 |0,_,i,hi=>by omega
 |n+1,h,i,hi=>by
  simp only[XD,av] at h;by_cases e:i=n
  .subst e;cases I:σ.get i with
   |none=>rw[I] at h;exact cR h.1 (by simp)
   |some a=>rw[I] at h;rw[RD I];exact aw h.1
  .exact RK n h.2 i (by omega)
structure Ig (np:Nat) (t:Tm) (vs:List TV) (h:bl) (z:t.ty.den) (m:Nat) (σ:PT Nat) (sm:Nat):Prop where
 ex:∃ x m1 y m2,z=UH _ _ x y/\m=m1|||m2/\yl (ij σ) h t.vs vs=af (x,m1)/\Be (ij σ) h 0 t.bs=af (y,m2)
 inj:∀ a b,a<t.bs.length->b<t.bs.length->ij σ a=ij σ b->a=b
 sig:∀ q,aN sm q=ai↔∃ k,k<t.bs.length/\ij σ k=q
 disj:∀ i,aN m i=ai->aN sm i=aj
 fix:∀ i,i<np->ij σ i=i
theorem wH {np:Nat} {t:Tm} {vs:List TV} {h:bl} {z:t.ty.den} {m:Nat} {σ:PT Nat} {sm:Nat} (hm:EL np t vs h=af ⟨z,m,σ,sm⟩):Ig np t vs h z m σ sm:=by
 unfold EL at hm;rw[O6] at hm;split at hm
 .rename_i sm' hs;split at hm
  .rename_i x m1 h1;split at hm
   .rename_i y m2 h2;split at hm
    .rename_i hc;simp only[av] at hc;simp only[ak,aim.mk.injEq] at hm;obtain⟨rfl,rfl,rfl,rfl⟩:=hm;obtain⟨M,J,I⟩:=WZ _ _ _ _ hs;simp only[bN] at M J I;exact⟨⟨x,m1,y,m2,rfl,rfl,h1,h2⟩,J,λq=>by rw[I];simp,λi hi=>xV hc.1 i hi,RK np hc.2⟩
    .cases hm
   .cases hm
  .cases hm
 .cases hm
mutual
theorem zA {g:Nat->Nat} {h:bl}:∀ (p:PV) (l:List TV) (x:p.ty.den) (m:Nat) (r:List TV),py g h p l=af (x,m,r)->dU h m
 |.d T,l,x,m,r,hg=>vm 40 T l x m r hg
 |.ptr i q,l,x,m,r,hg=>by
  simp only[py] at hg;split at hg
  .split at hg
   .simp only[ak,aD] at hg;obtain⟨_,rfl,_⟩:=hg;exact dU.zero h
   .cases hg
  .cases hg
 |.csl i q z,l,x,m,r,hg=>by
  simp only[py] at hg;split at hg
  .split at hg
   .simp only[ak,aD] at hg;obtain⟨_,rfl,_⟩:=hg;exact dU.zero h
   .cases hg
  .cases hg
 |.clo q i z,l,x,m,r,hg=>by
  simp only[py] at hg;split at hg
  .split at hg
   .simp only[ak,aD] at hg;obtain⟨_,rfl,_⟩:=hg;exact dU.zero h
   .cases hg
  .cases hg
 |.row i,l,x,m,r,hg=>by
  simp only[py] at hg;split at hg
  .split at hg
   .simp only[ak,aD] at hg;obtain⟨_,rfl,_⟩:=hg;exact dU.zero h
   .cases hg
  .cases hg
 |.mp i,l,x,m,r,hg=>by
  simp only[py] at hg;split at hg
  .split at hg
   .simp only[ak,aD] at hg;obtain⟨_,rfl,_⟩:=hg;exact dU.zero h
   .cases hg
  .cases hg
 |.nil,l,x,m,r,hg=>by
  simp only[py] at hg;split at hg
  .simp only[ak,aD] at hg;obtain⟨_,rfl,_⟩:=hg;exact dU.zero h
  .cases hg
 |.emp,l,x,m,r,hg=>by
  simp only[py] at hg;split at hg
  .simp only[ak,aD] at hg;obtain⟨_,rfl,_⟩:=hg;exact dU.zero h
  .simp only[ak,aD] at hg;obtain⟨_,rfl,_⟩:=hg;exact dU.zero h
  .cases hg
 |.agg ps,l,x,m,r,hg=>H6 ps l x m r hg
theorem H6 {g:Nat->Nat} {h:bl}:∀ (ps:List PV) (l:List TV) (x:(PV.tyL ps).den) (m:Nat) (r:List TV),zw g h ps l=af (x,m,r)->dU h m
 |[],l,x,m,r,hg=>by
  simp only[zw,ak,aD] at hg;obtain⟨_,rfl,_⟩:=hg;exact dU.zero h
 |p::ps,l,x,m,r,hg=>by
  simp only[zw] at hg;split at hg
  .rename_i x1 m1 r1 h1;split at hg
   .rename_i x2 m2 r2 h2;simp only[ak,aD] at hg;obtain⟨_,rfl,_⟩:=hg;exact (zA p l x1 m1 r1 h1).or (H6 ps r1 _ _ _ h2)
   .cases hg
  .cases hg
end
theorem aji {g:Nat->Nat} {h:bl} {p:PV} {v:TV} {x:p.ty.den} {m:Nat} (hg:xK g h p v=af (x,m)):dU h m:=by
 cases p with
 |d T=>exact XZ hg
 |agg ps=>
  simp only[xK] at hg;split at hg
  .cases hg
  .split at hg
   .split at hg
    .rename_i I m1 h1;simp only[ak,aD] at hg;obtain⟨_,rfl⟩:=hg;exact H6 ps _ _ _ _ h1
    .cases hg
   .cases hg
 |ptr i q=>
  simp only[xK] at hg;split at hg
  .rename_i h1;simp only[ak,aD] at hg;obtain⟨_,rfl⟩:=hg;exact zA _ _ _ _ _ h1
  .cases hg
 |csl i q z=>
  simp only[xK] at hg;split at hg
  .rename_i h1;simp only[ak,aD] at hg;obtain⟨_,rfl⟩:=hg;exact zA _ _ _ _ _ h1
  .cases hg
 |clo q i z=>
  simp only[xK] at hg;split at hg
  .rename_i h1;simp only[ak,aD] at hg;obtain⟨_,rfl⟩:=hg;exact zA _ _ _ _ _ h1
  .cases hg
 |row i=>
  simp only[xK] at hg;split at hg
  .rename_i h1;simp only[ak,aD] at hg;obtain⟨_,rfl⟩:=hg;exact zA _ _ _ _ _ h1
  .cases hg
 |mp i=>
  simp only[xK] at hg;split at hg
  .rename_i h1;simp only[ak,aD] at hg;obtain⟨_,rfl⟩:=hg;exact zA _ _ _ _ _ h1
  .cases hg
 |nil=>
  simp only[xK] at hg;split at hg
  .rename_i h1;simp only[ak,aD] at hg;obtain⟨_,rfl⟩:=hg;exact zA _ _ _ _ _ h1
  .cases hg
 |emp=>
  simp only[xK] at hg;split at hg
  .rename_i h1;simp only[ak,aD] at hg;obtain⟨_,rfl⟩:=hg;exact zA _ _ _ _ _ h1
  .cases hg
theorem H5 {g:Nat->Nat} {h:bl}:∀ (ps:List PV) (vs:List TV) (x:(PV.tyL ps).den) (m:Nat),yl g h ps vs=af (x,m)->dU h m
 |[],[],x,m,hg=>by simp only[yl,ak,aD] at hg;obtain⟨_,rfl⟩:=hg;exact dU.zero h
 |[],_::_,x,m,hg=>by simp[yl] at hg
 |_::_,[],x,m,hg=>by simp[yl] at hg
 |p::ps,v::vs,x,m,hg=>by
  simp only[yl] at hg;split at hg
  .rename_i J m1 h1;split at hg
   .rename_i I m2 h2;simp only[ak,aD] at hg;obtain⟨_,rfl⟩:=hg;exact (aji h1).or (H5 ps vs I m2 h2)
   .cases hg
  .cases hg
theorem ajj {g:Nat->Nat} {h:bl} {i:Nat} {b:PB} {x:b.ty.den} {m:Nat} (hg:Fb g h i b=af (x,m)):dU h m:=by
 cases b with
 |rows ty p T=>
  simp only[Fb] at hg;split at hg
  .split at hg
   .split at hg
    .simp only[ak,aD] at hg;obtain⟨_,rfl⟩:=hg;exact dU.zero h
    .cases hg
   .cases hg
  .cases hg
 |rowsP ty T=>
  simp only[Fb] at hg;split at hg
  .split at hg
   .split at hg
    .simp only[ak,aD] at hg;obtain⟨_,rfl⟩:=hg;exact dU.zero h
    .cases hg
   .cases hg
  .cases hg
 |cells ty ps=>
  simp only[Fb] at hg;split at hg
  .split at hg
   .split at hg
    .rename_i h1;simp only[ak,aD] at hg;obtain⟨_,rfl⟩:=hg;exact H6 ps _ _ _ _ h1
    .cases hg
   .cases hg
  .cases hg
 |mp K V=>
  simp only[Fb] at hg;split at hg
  .split at hg
   .simp only[ak,aD] at hg;obtain⟨_,rfl⟩:=hg;exact dU.zero h
   .cases hg
  .cases hg
 |gone=>simp only[Fb,ak,aD] at hg;obtain⟨_,rfl⟩:=hg;exact dU.zero h
theorem H7 {g:Nat->Nat} {h:bl}:∀ (bs:List PB) (i:Nat) (x:(PB.tyL bs).den) (m:Nat),Be g h i bs=af (x,m)->dU h m
 |[],i,x,m,hg=>by simp only[Be,ak,aD] at hg;obtain⟨_,rfl⟩:=hg;exact dU.zero h
 |b::r,i,x,m,hg=>by
  simp only[Be] at hg;split at hg
  .rename_i J m1 h1;split at hg
   .rename_i I m2 h2;simp only[ak,aD] at hg;obtain⟨_,rfl⟩:=hg;exact (ajj h1).or (H7 r (i+1) I m2 h2)
   .cases hg
  .cases hg
structure qT (t:Tm) (x:t.ty.den) (vs:List TV) (h1:bl) (l1:List (Option iw)):Prop where
 pv:qd H3 t.vs (O5 _ _ x)=af vs
 pb:oF H3 t.bs (Lu _ _ x)=af l1
 len:l1.length=t.bs.length
 at_:∀ i b,h1.get i=af b↔l1[i]? =af (af b)
 ok:kS h1 vs=ai
 lt:rK t.bs.length vs=ai
 cells:∀ i ty l,h1.get i=af (.cells ty l)->kS h1 l=ai/\rK t.bs.length l=ai
theorem abh (l:List (Option iw)) (i:Nat) (b:iw):(AL H3 0 l PT.leaf).get i=af b↔l[i]? =af (af b):=by
 by_cases hi:i<l.length
 .obtain⟨c,hc⟩:∃ c,l[i]? =af c:=⟨l[i],aB hi⟩
  have:=vq H3 l 0 PT.leaf (λa b _ _ e=>by simp only[H3] at e;omega) i c hc;rw[show H3 (0+i)=i from by simp only[H3];omega] at this;rw[this,hc];cases c with
  |some b'=>simp
  |none=>simp[PT.get]
 .rw[vp H3 l 0 PT.leaf i (λk hk=>by simp only[H3];omega),bS (by omega)];simp[PT.get]
theorem wN {t:Tm} {x:t.ty.den} {vs:List TV} {h1:bl} (hi:Dc t x=af (vs,h1)):∃ l1,qT t x vs h1 l1:=by
 unfold Dc at hi;split at hi
 .rename_i us hus;split at hi
  .rename_i h hh;split at hi
   .rename_i hc;simp only[av] at hc;simp only[ak,aD] at hi;obtain⟨rfl,rfl⟩:=hi;unfold MS at hh;split at hh
    .rename_i l1 I;simp only[ak] at hh;refine ⟨l1,hus,I,CW _ _ _ _ I,λi b=>?_,hc.1.1,hc.1.2,λi ty l hil=>?_⟩
     .rw[<- hh];exact abh l1 i b
     .have:=PT.get_all _ h 1 0 i _ hc.2 hil;simpa only[av] using this
    .cases hh
   .cases hi
  .cases hi
 .cases hi
def Xb (nb:Nat) (n:Nat):Bool:=n%2==0&&gq (n/2) nb
theorem BQ {nb i:Nat}:Xb nb (nm i)=ai↔i<nb:=by
 unfold Xb nm;rw[show 2*i%2=0 from by omega,show 2*i/2=i from by omega];simp only[cY,kJ];exact⟨λh=>a8 h,λh=>bF h⟩
theorem ab0 {nb n:Nat} (h:Xb nb n=ai):∃ i,i<nb/\n=nm i:=by
 unfold Xb at h;simp only[av,c5] at h;exact⟨n/2,a8 h.2,by unfold nm;omega⟩
mutual
theorem ajf {nb:Nat} {h:bl}:∀ (v:TV) (y:AV),LD nb v=ai->cr h v=af y->y.all (Xb nb)=ai
 |.f _ _,y,_,he=>by simp only[cr,ak] at he;subst he;rfl
 |.fel _ _ _ _ _,y,_,he=>by simp only[cr,ak] at he;subst he;rfl
 |.pel id _ _ _,y,hl,he=>by simp only[cr,ak] at he;subst he;exact BQ.2 (a8 hl)
 |.ptr id _,y,hl,he=>by simp only[cr,ak] at he;subst he;exact BQ.2 (a8 hl)
 |.csl id _ _,y,hl,he=>by simp only[cr,ak] at he;subst he;exact BQ.2 (a8 hl)
 |.row id,y,hl,he=>by
  simp only[cr] at he;split at he
  .simp only[ak] at he;subst he;unfold fy;split
   .rfl
   .exact BQ.2 (a8 hl)
  .cases he
 |.rtl id jj,y,hl,he=>by
  simp only[cr] at he;split at he
  .simp only[ak] at he;subst he;exact BQ.2 (a8 hl)
  .cases he
 |.emp,y,_,he=>by simp only[cr,ak] at he;subst he;rfl
 |.nil,y,_,he=>by simp only[cr,ak] at he;subst he;rfl
 |.mp id,y,hl,he=>by simp only[cr,ak] at he;subst he;exact BQ.2 (a8 hl)
 |.agg l,y,hl,he=>by
  simp only[cr] at he;split at he
  .rename_i l' hl';simp only[ak] at he;subst he;exact tN l l' hl hl'
  .cases he
 |.tup l,y,hl,he=>by
  simp only[cr] at he;split at he
  .rename_i l' hl';simp only[ak] at he;subst he;exact tN l l' hl hl'
  .cases he
 |.clo q l,y,hl,he=>by
  simp only[cr] at he;split at he
  .rename_i l' hl';simp only[ak] at he;subst he;exact tN l l' hl hl'
  .cases he
 |.undef,y,_,he=>by simp only[cr,ak] at he;subst he;rfl
 |.np,y,_,he=>by simp only[cr,ak] at he;subst he;rfl
 |.anyb,y,_,he=>by simp only[cr,ak] at he;subst he;rfl
theorem tN {nb:Nat} {h:bl}:∀ (l:List TV) (l':List AV),rK nb l=ai->cN h l=af l'->AV.allL (Xb nb) l'=ai
 |[],l',_,he=>by simp only[cN,ak] at he;subst he;rfl
 |x::r,l',hl,he=>by
  obtain⟨y,l2,rfl,e1,e2⟩:=c7 he;simp only[rK,av] at hl;simp only[AV.allL,av];exact⟨ajf x y hl.1 e1,tN r l2 hl.2 e2⟩
end
theorem qT.blk_all {t:Tm} {x:t.ty.den} {vs:List TV} {h1:bl} {l1:List (Option iw)} (I:qT t x vs h1 l1) {i:Nat} {b:iw} (hb:h1.get i=af b) {y:xl} (J:kC h1 b=af y):y.c.all (Xb t.bs.length)=ai:=by
 cases b with
 |rows ty p T xs=>
  simp only[kC] at J;split at J
  .cases J
  .simp only[ak] at J;subst J;rfl
 |cells ty l=>
  simp only[kC] at J;split at J
  .rename_i M hl;simp only[ak] at J;subst J;exact tN l M (I.cells i ty l hb).2 hl
  .cases J
 |dead p sz n=>cases J
 |mp K V es=>
  simp only[kC,ak] at J;subst J;show BC.all _ (mpC K V es)=ai;unfold mpC;split
  .rfl
  .simp only[BC.all,Aj];have key:∀ l:List (K.den×V.den),AV.allL (Xb t.bs.length) (l.map ((λx=>x.2)∘λp=>(pP K p.1,AV.f (gL V p.2))))=ai:=λl=>by
    induction l with
    |nil=>rfl
    |cons e r U=>simp only[gu,AV.allL,av];exact⟨rfl,U⟩
   exact key es
theorem qT.lt_len {t:Tm} {x:t.ty.den} {vs:List TV} {h1:bl} {l1:List (Option iw)} (I:qT t x vs h1 l1) {i:Nat} {b:iw} (hb:h1.get i=af b):i<t.bs.length:=by
 rw[<- I.len];exact (bn.1 ((I.at_ i b).1 hb)).1
def φ1 (nb:Nat) (g:Nat->Nat) (φ:PM):PM:=λn=>if Xb nb n then φ (H8 g n) else ah
theorem aa6 {nb:Nat} {g:Nat->Nat} {φ:PM} {i:Nat} (hi:i<nb):φ1 nb g φ (nm i)=φ (nm (g i)):=by
 unfold φ1;rw[aE (BQ.2 hi),xM]
theorem xp {nb:Nat} {g:Nat->Nat} {φ:PM} {n k:Nat} (h:φ1 nb g φ n=af k):∃ i,i<nb/\n=nm i/\φ (nm (g i))=af k:=by
 unfold φ1 at h;split at h
 .rename_i hp;obtain⟨i,hi,rfl⟩:=ab0 hp;rw[xM] at h;exact⟨i,hi,rfl,h⟩
 .cases h
structure agr (t:Tm) (x:t.ty.den) (vs:List TV) (h1:bl) (g:Nat->Nat) (φ:PM) (E E':Nat->Prop) (Hv:HF) (w:World):Prop where
 rep:ri (φ1 t.bs.length g φ) E' (bD h1) w
 val:∀ x v,x.all (Xb t.bs.length)=ai->cO φ (tot E φ Hv) w (x.ren (H8 g)) v->cO (φ1 t.bs.length g φ) (tot E' (φ1 t.bs.length g φ) (bD h1)) w x v
 own_:∀ k,own (φ1 t.bs.length g φ) (bD h1) k->own φ Hv k
 tot_:∀ k,tot E' (φ1 t.bs.length g φ) (bD h1) k->tot E φ Hv k
theorem ri.toId {t:Tm} {x:t.ty.den} {vs:List TV} {h1:bl} {l1:List (Option iw)} (I:qT t x vs h1 l1) {g:Nat->Nat} (inj:∀ a b,a<t.bs.length->b<t.bs.length->g a=g b->a=b) {φ:PM} {E E':Nat->Prop} {Hv:HF} {w:World} (r:ri φ E Hv w)
 (hat:∀ i b y,h1.get i=af b->kC h1 b=af y->Hv (nm (g i))=af (y.ren (H8 g)))
 (hE:∀ k,E' k->tot E φ Hv k) (hne:∀ i k b,i<t.bs.length->Hv (nm (g i))=af b->φ (nm (g i))=af k->¬E' k) (hel:∀ k,E' k->k<w.heap.size):agr t x vs h1 g φ E E' Hv w:=by
 have own1:∀ k,own (φ1 t.bs.length g φ) (bD h1) k->own φ Hv k:=by
  rintro k ⟨n,y,h2,h3⟩;obtain⟨i,hi,rfl,Y⟩:=xp h3;obtain⟨j,b,e,U,J⟩:=jy h2;have:=kT e;subst this;exact⟨nm (g i),_,hat i b y U J,Y⟩
 have tot1:∀ k,tot E' (φ1 t.bs.length g φ) (bD h1) k->tot E φ Hv k:=λk hk=>hk.elim (hE k) λh=>.inr (own1 k h)
 have val:∀ x v,x.all (Xb t.bs.length)=ai->cO φ (tot E φ Hv) w (x.ren (H8 g)) v->cO (φ1 t.bs.length g φ) (tot E' (φ1 t.bs.length g φ) (bD h1)) w x v:=λx v hx hr=>by
  have h2:cO (φ1 t.bs.length g φ) (tot E φ Hv) w x v:=cO.renFrom (λi k hp hk=>by unfold φ1;rw[aE hp];exact hk) hr x hx rfl;exact h2.ext (λ_ _ h=>h) (Lh.refl _ w) λk _ hk=>tot1 k hk
 refine ⟨⟨λn n' b b' k Z g2 g3 g4=>?_,λn y Z=>?_,hel,λg' cells hg=>(r.gl g' cells hg).ext (Lh.refl _ w) λk _ hk=>tot1 k hk⟩,val,own1,tot1⟩
 .obtain⟨i,hi,rfl,Y⟩:=xp g3;obtain⟨j,hj,rfl,U⟩:=xp g4;obtain⟨i',c,e,J,M⟩:=jy Z;have:=kT e;subst this;obtain⟨j',c',e,h8,h9⟩:=jy g2;have:=kT e;subst this;have:=r.inj _ _ _ _ k (hat i c _ J M) (hat j c' _ h8 h9) Y U;rw[inj i j hi hj (kT this)]
 .obtain⟨i,c,rfl,J,M⟩:=jy Z;have hi:=I.lt_len J;obtain⟨k,p1,p2,ob,p3,p4⟩:=r.at_ _ _ (hat i c y J M);exact⟨k,by rw[aa6 hi];exact p1,hne i k _ hi (hat i c y J M) p1,ob,p3,jv.renFrom val (I.blk_all J M) p4⟩
theorem BM.view {g:Nat->Nat} {h hv:bl} {H H':HF} {m:Nat} (d:vI H H') (Y:Eo h H H' m) (hr:x_ hv h) {b0 c:iw} (hb:BM g h m b0 c) {y I:xl} (e0:kC h b0=af y) (e1:kC hv c=af I):jY H H' y I:=by
 cases hb with
 |rows ty p T xs=>
  simp only[kC] at e0 e1;rw[e0] at e1;cases e1;exact jY.refl d y
 |mp K V es=>
  simp only[kC] at e0 e1;rw[e0] at e1;cases e1;exact jY.refl d y
 |cells ty ps x l l2 m' hg hp hm=>
  simp only[kC] at e0 e1;split at e0
  .rename_i U hl;simp only[ak] at e0;subst e0;split at e1
   .rename_i cs' hc;simp only[ak] at e1;subst e1;obtain⟨l1,Z,M,J,q3⟩:=Do d hr ps l x m' [] l2 U cs' hg hp hl hc λi hi=>Y i (hm i hi)
    simp only[cN,ak] at J;subst J;rw[gp] at M;subst M;exact jY.cells rfl rfl q3 (lP (sj hc (xv ps x l2 hp)))
   .cases e1
  .cases e0
theorem BM.erB_some {g:Nat->Nat} {h hv:bl} {nx m:Nat} (hinv:me h nx) {i:Nat} {b0 c:iw} (h0:h.get i=af b0) (hb:BM g h m b0 c) {I:xl} (e1:kC hv c=af I):∃ y,kC h b0=af y:=by
 cases hb with
 |rows ty p T xs=>exact⟨I,e1⟩
 |mp K V es=>exact⟨I,e1⟩
 |cells ty ps x l l2 m' hg hp hm=>
  obtain⟨J,hl⟩:=fx h l (hinv.cells i ty l h0);exact⟨_,by simp only[kC,hl];rfl⟩
theorem BM.row {g:Nat->Nat} {h:bl} {m:Nat} {b0 c:iw} (hb:BM g h m b0 c):mK c=mK b0:=by
 cases hb<;>rfl
structure pV (P:Program) (f:FuncId) (c:cg):Prop where
 callable:Ei P f
 calls:∀ x y,c.m x=af y->∀ vs hp l1 rs hq l2 la lr,qT c.pre x vs hp l1->qT c.post y rs hq l2->cN hp vs=af la->cN hq rs=af lr->
  ∀ (φ:PM) (E:Nat->Prop) (w:World) (us:List Value),ri φ E (bD hp) w->jX φ (tot E φ (bD hp)) w la us->(∀ n k,φ n=af k->ow n<c.pre.bs.length)->
  Calls P f us.toArray w λen w'=>∃ v φ',en= .returned v/\Lh (own φ (bD hp)) w w'/\(∀ k,k<w.heap.size->own φ' (bD hq) k->own φ (bD hp) k)/\(∀ i,i<c.pre.bs.length->φ' (nm i)=φ (nm i))/\ri φ' E (bD hq) w'/\cO φ' (tot E φ' (bD hq)) w' (Es lr) v
theorem MW {g:Nat->Nat}:∀ (bs:List PB) (x:(PB.tyL bs).den) (l:List (Option iw)),BY bs=ai->oF g bs x=af l->∀ (i:Nat) (c:Option iw),l[i]? =af c->∃ b,c=af b
 |[],x,l,_,hp,i,c,hc=>by simp only[oF,ak] at hp;subst hp;simp at hc
 |b::r,x,l,hn,hp,i,c,hc=>by
  simp only[oF] at hp;split at hp
  .rename_i a I;split at hp
   .rename_i q hq;simp only[ak] at hp;subst hp;cases i with
    |zero=>
     simp at hc;subst hc;cases b with
     |gone=>simp[BY] at hn
     |rows ty p T=>simp only[CX,ak] at I;exact⟨_,I.symm⟩
     |rowsP ty T=>simp only[CX,ak] at I;exact⟨_,I.symm⟩
     |cells ty ps=>
      simp only[CX] at I;split at I
      .simp only[ak] at I;exact⟨_,I.symm⟩
      .cases I
     |mp K V=>simp only[CX,ak] at I;exact⟨_,I.symm⟩
    |succ i=>
     refine MW r _ q ?_ hq i c (by simpa using hc);cases b<;>first|exact hn|simp[BY] at hn
   .cases hp
  .cases hp
theorem FL {h h2:bl} {g:Nat->Nat}:∀ n,uc h h2 g n=ai->∀ i,i<n->∀ r,eC h (g i)=af r->eC h2 (g i)=af r
 |0,_,i,hi,_,_=>by omega
 |n+1,hs,i,hi,r,hr=>by
  simp only[uc,av] at hs;by_cases e:i=n
  .subst e;obtain⟨p,s,k⟩:=r;have h1:=hs.1;rw[hr] at h1;cases I:eC h2 (g i) with
   |none=>rw[I] at h1;cases h1
   |some q=>
    obtain⟨J,s',k'⟩:=q;rw[I] at h1;simp only[av,c5] at h1;rw[h1.1.1,aw h1.1.2,aw h1.2]
  .exact FL n hs.2 i (by omega) r hr
theorem jX.le {H H':HF} {φ:PM} {E:Nat->Prop} {w:World} (r:ri φ E H w):∀ {l I:List AV} {us:List Value},ik H H' l I->jX φ (tot E φ H) w l us->jX φ (tot E φ H') w I us
 |[],[],[],_,_=>trivial
 |[],[],_::_,_,h=>h.elim
 |_::_,_::_,[],_,h=>h.elim
 |[],_::_,_,h,_=>h.elim
 |_::_,[],_,h,_=>h.elim
 |_::_,_::_,_::_,hl,h=>⟨hl.1 _ _ _ _ r h.1,jX.le r hl.2 h.2⟩
theorem jX.toId {φ φ':PM} {O O':Nat->Prop} {w:World} {γ:Nat->Nat} {p:Nat->Bool} (hv:∀ x v,x.all p=ai->cO φ O w (x.ren γ) v->cO φ' O' w x v):∀ {l:List AV} {us:List Value},AV.allL p l=ai->jX φ O w (AV.renL γ l) us->jX φ' O' w l us
 |[],[],_,_=>trivial
 |[],_::_,_,h=>h.elim
 |_::_,[],_,h=>h.elim
 |_::_,_::_,hp,h=>by
  simp only[AV.allL,av] at hp;exact⟨hv _ _ hp.1 h.1,jX.toId hv hp.2 h.2⟩
theorem W6 {h:bl}:∀ {rs:List TV} {lr:List AV},cN h rs=af lr->cr h (QE rs)=af (Es lr)
 |[],lr,he=>by simp only[cN,ak] at he;subst he;rfl
 |[x],lr,he=>by
  obtain⟨y,l2,rfl,e1,e2⟩:=c7 he;simp only[cN,ak] at e2;subst e2;exact e1
 |x::y::r,lr,he=>by
  obtain⟨J,l2,rfl,e1,e2⟩:=c7 he;obtain⟨I,M,rfl,e3,U⟩:=c7 e2;simp only[QE,cr,he,Es]
theorem aag (γ:Nat->Nat):∀ l:List AV,Es (AV.renL γ l)=(Es l).ren γ
 |[]=>rfl
 |[x]=>rfl
 |x::y::r=>rfl
theorem aah {p:Nat->Bool}:∀ {l:List AV},AV.allL p l=ai->(Es l).all p=ai
 |[],_=>rfl
 |[x],h=>by simp only[AV.allL,av] at h;exact h.1
 |x::y::r,h=>h
theorem af4 {nx I q:Nat}:aN (((1<<<I)-1)<<<nx) q=ai↔nx<=q/\q<nx+I:=by
 rw[Nat.testBit_shiftLeft,Nat.one_shiftLeft,Nat.testBit_two_pow_sub_one];simp only[av,bd];omega
theorem act {P:Program} {o:Oper} {e:iP} {h:bl} {nx:Nat} {f:FuncId} {c:cg} {l:List TV} (hinv:me h nx) (sp:pV P f c) {x:c.pre.ty.den} {m:Nat} {σ:PT Nat} {sm:Nat} (M:Ig 0 c.pre l h x m σ sm) {vs:List TV} {hp:bl} {l1:List (Option iw)} (I:qT c.pre x vs hp l1) (hng:BY c.pre.bs=ai) {y:c.post.ty.den} (hm:c.m x=af y) {rs:List TV} {hq:bl} {l2:List (Option iw)} (J:qT c.post y rs hq l2) (hle:c.pre.bs.length<=c.post.bs.length)
 {g:Nat->Nat} (glo:∀ i,i<c.pre.bs.length->g i=ij σ i) (ghi:∀ i,c.pre.bs.length<=i->g i=nx+(i-c.pre.bs.length)) {h2:bl} (hh2:h2=AL g 0 (l2.map (lU (lX g))) (eD m h)) (hsr:uc h h2 g c.pre.bs.length=ai) {la:List AV} (hla:cN h l=af la)
 (hexec:∀ (φ:PM) (E:Nat->Prop) (h':HF) (w:World) (a:Act),(∀ t,.tmp t∈o.op.operands->∀ y,fX e h t=af y->cO φ (tot E φ h') w y (a.tmps.getD t undef))->ri φ E h' w->∃ us:List Value,(execOp a.eval o).run P w= .ok (.enter f us.toArray) w/\jX φ (tot E φ h') w la us):
 jk P o aj e h nx (QE (kA g rs)) (sm|||m) (sm|||m|||(((1<<<(c.post.bs.length-c.pre.bs.length))-1)<<<nx)) h2 (nx+(c.post.bs.length-c.pre.bs.length)):=by
 obtain⟨x1,m1,x2,m2,hx,hmm,gv,gb⟩:=M.ex;have hmr:dU h m:=by rw[hmm];exact (H5 _ _ _ _ gv).or (H7 _ _ _ _ gb)
 generalize hnp:c.pre.bs.length=np at*
 generalize hnq:c.post.bs.length=nq at*
 have pvg:qd (ij σ) c.pre.vs x1=af (kA (ij σ) vs):=by
  have Y:=tW (ij σ) c.pre.vs x1;have h4:=I.pv;rw[hx,tQ] at h4;rw[Y,h4];rfl
 have pbg:oF (ij σ) c.pre.bs x2=af (l1.map (lU (lX (ij σ)))):=by
  have Y:=wu (ij σ) c.pre.bs x2;have h4:=I.pb;rw[hx,vk] at h4;rw[Y,h4];rfl
 have hl1:∀ i,i<np->∃ b,l1[i]? =af (af b):=λi hi=>by
  have hi':i<l1.length:=by rw[I.len,hnp];exact hi
  obtain⟨b,hb⟩:=MW c.pre.bs _ l1 hng I.pb i l1[i] (aB hi');exact⟨b,by rw[aB hi',hb]⟩
 have hbm:∀ i b,l1[i]? =af (af b)->∃ b0,h.get (ij σ i)=af b0/\BM (ij σ) h m b0 (lX (ij σ) b):=λi b hb=>by
  obtain⟨b0,U,Z⟩:=Jv c.pre.bs 0 x2 m2 _ gb pbg i (lX (ij σ) b) (by rw[ba,hb];rfl);rw[bN] at U;exact⟨b0,U,Z.mono λj hj=>by rw[hmm,bu,hj];simp⟩
 have inj1:∀ a b,a<np->b<np->ij σ a=ij σ b->a=b:=λa b ha hb=>M.inj a b (by rw[hnp];exact ha) (by rw[hnp];exact hb)
 have sig:∀ q,aN sm q=ai↔∃ k,k<np/\ij σ k=q:=λq=>by rw[M.sig,hnp]
 have gnx:∀ i,i<np->ij σ i<nx:=λi hi=>by
  obtain⟨b,hb⟩:=hl1 i hi;obtain⟨b0,U,_⟩:=hbm i b hb;exact hinv.low _ _ U
 have hmS:∀ i,i<np->aN m (ij σ i)=aj:=λi hi=>by
  cases hx:aN m (ij σ i) with
  |false=>rfl
  |true=>have:=M.disj _ hx;rw[(sig _).2 ⟨i,hi,rfl⟩] at this;cases this
 have injg:∀ a b,a<nq->b<nq->g a=g b->a=b:=λa b ha hb hab=>by
  by_cases h1:a<np
  .by_cases h2:b<np
   .rw[glo a h1,glo b h2] at hab;exact inj1 a b h1 h2 hab
   .rw[glo a h1,ghi b (by omega)] at hab;have:=gnx a h1;omega
  .by_cases h2:b<np
   .rw[ghi a (by omega),glo b h2] at hab;have:=gnx b h2;omega
   .rw[ghi a (by omega),ghi b (by omega)] at hab;omega
 let hv:bl:=AL (ij σ) 0 (l1.map (lU (lX (ij σ)))) (eD m h)
 have hv_at:∀ i b,l1[i]? =af (af b)->hv.get (ij σ i)=af (lX (ij σ) b):=λi b hb=>by
  have:=vq (ij σ) (l1.map (lU (lX (ij σ)))) 0 (eD m h) (λa b ha hb=>by
   simp only[bR,I.len,hnp] at ha hb;simp only[bN];exact inj1 a b ha hb) i (af (lX (ij σ) b)) (by rw[ba,hb];rfl)
  rw[bN] at this;exact this
 have hv_ne:∀ j,(∀ i,i<np->j≠ij σ i)->hv.get j=(eD m h).get j:=λj hj=>
  vp (ij σ) _ 0 _ j λk hk=>by
   simp only[bR,I.len,hnp] at hk;rw[bN];exact hj k hk
 have rows_in:x_ hv h:=λj r hr=>by
  rw[bU] at hr ⊢;by_cases hj:∃ i,i<np/\j=ij σ i
  .obtain⟨i,hi,rfl⟩:=hj;obtain⟨b,hb⟩:=hl1 i hi;obtain⟨b0,U,Z⟩:=hbm i b hb;rw[hv_at i b hb] at hr;rw[U];simp only[aI] at hr ⊢;rw[<- Z.row];exact hr
  .rw[hv_ne j (λi hi e=>hj ⟨i,hi,e⟩),i_] at hr;split at hr
   .rename_i ht;obtain⟨ty,p,T,xs,hb⟩:=hmr j ht;rw[hb] at hr ⊢;exact hr
   .exact hr
 have rows_hp:∀ i r,eC hp i=af r->eC hv (ij σ i)=af r:=λi r hr=>by
  rw[bU] at hr ⊢;cases hb:hp.get i with
  |none=>rw[hb] at hr;cases hr
  |some b=>
   rw[hb] at hr;rw[hv_at i b ((I.at_ i b).1 hb)];simp only[aI,Iu] at hr ⊢;exact hr
 have dead_m:∀ i,aN m i=ai->bD hv (nm i)=ah:=λi hi=>by
  rw[bK,hv_ne i (λk hk e=>by rw[e,hmS k hk] at hi;cases hi)];obtain⟨p,sz,n,hd⟩:=t8 hmr hi;rw[hd];rfl
 have h2_at:∀ i cc,l2[i]? =af cc->h2.get (g i)=(match cc with|some b=>af (lX g b)|none=>((eD m h).get (g i)).map vu):=λi cc hc=>by
  have:=vq g (l2.map (lU (lX g))) 0 (eD m h) (λa b ha hb=>by
   simp only[bR,J.len,hnq] at ha hb;simp only[bN];exact injg a b ha hb) i (cc.map (lX g)) (by rw[ba,hc];rfl)
  rw[bN] at this;rw[hh2,this];cases cc<;>rfl
 have h2_ne:∀ j,(∀ i,i<nq->j≠g i)->h2.get j=(eD m h).get j:=λj hj=>by
  rw[hh2];refine vp g _ 0 _ j λk hk=>?_
  simp only[bR,J.len,hnq] at hk;rw[bN];exact hj k hk
 have rows_hq:∀ i r,eC hq i=af r->eC h2 (g i)=af r:=λi r hr=>by
  rw[bU] at hr ⊢;cases hb:hq.get i with
  |none=>rw[hb] at hr;cases hr
  |some b=>
   rw[hb] at hr;rw[h2_at i _ ((J.at_ i b).1 hb)];simp only[aI,Iu] at hr ⊢;exact hr
 have rows2:cq h h2:=λj r hr=>by
  by_cases hj:∃ i,i<np/\j=ij σ i
  .obtain⟨i,hi,rfl⟩:=hj;rw[<- glo i hi] at hr ⊢;exact FL np hsr i hi r hr
  .have hjn:j<nx:=by
    rw[bU] at hr;cases hb:h.get j with
    |none=>rw[hb] at hr;cases hr
    |some b=>exact hinv.low j b hb
   have:=cq.kill m h j r hr;rw[bU] at this ⊢;rw[h2_ne j (λi hi e=>?_)]
   .exact this
   .by_cases hip:i<np
    .exact hj ⟨i,hip,by rw[e,glo i hip]⟩
    .rw[ghi i (by omega)] at e;omega
 obtain⟨lr,hlr⟩:=fx hq rs J.ok;obtain⟨lp,hlp⟩:=fx hp vs I.ok;have er2:∀ i b yb,hq.get i=af b->kC hq b=af yb->bD h2 (nm (g i))=af (yb.ren (H8 g)):=λi b yb hb hyb=>by
  rw[bK,h2_at i _ ((J.at_ i b).1 hb)];exact Ds rows_hq hyb
 have er2':∀ i,i<nq->∀ z,bD h2 (nm (g i))=af z->∃ b yb,hq.get i=af b/\kC hq b=af yb/\z=yb.ren (H8 g):=λi hi z hz=>by
  have hi':i<l2.length:=by rw[J.len,hnq];exact hi
  have hcc:=aB hi';cases hcv:l2[i] with
  |none=>
   rw[hcv] at hcc;rw[bK,h2_at i ah hcc] at hz;simp only at hz;cases hkg:(eD m h).get (g i) with
   |none=>rw[hkg] at hz;cases hz
   |some b0=>rw[hkg] at hz;cases b0<;>simp[vu,kC] at hz
  |some b=>
   rw[hcv] at hcc;have hb:=(J.at_ i b).2 hcc;rw[bK,h2_at i (af b) hcc] at hz;have hyb:∃ yb,kC hq b=af yb:=by
    cases b with
    |rows ty p T xs=>simp only[aI,lX,kC] at hz ⊢;exact⟨z,hz⟩
    |cells ty q=>
     obtain⟨q',hq'⟩:=fx hq q (J.cells i ty q hb).1;exact⟨_,by simp only[kC,hq'];rfl⟩
    |dead p sz n=>simp[lX,kC] at hz
    |mp K V es=>exact⟨_,rfl⟩
   obtain⟨yb,hyb⟩:=hyb;have:=Ds rows_hq hyb;simp only[aI] at hz;rw[this] at hz;exact⟨b,yb,hb,hyb,by cases hz;rfl⟩
 have dead2:∀ i,aN m i=ai->bD h2 (nm i)=ah:=λi hi=>by
  have hlt:=hmr.lt hinv hi;rw[bK,h2_ne i (λk hk e=>?_)]
  .obtain⟨p,sz,n,hd⟩:=t8 hmr hi;rw[hd];rfl
  .by_cases hkp:k<np
   .rw[e,glo k hkp,hmS k hkp] at hi;cases hi
   .rw[ghi k (by omega)] at e;omega
 have inv2:me h2 (nx+(nq-np)):=by
  refine ⟨λj ty q hj=>?_,λj b hj=>?_⟩
  .by_cases hjg:∃ i,i<nq/\j=g i
   .obtain⟨i,hi,rfl⟩:=hjg;have hi':i<l2.length:=by rw[J.len,hnq];exact hi
    have hcc:=aB hi';cases hcv:l2[i] with
    |none=>
     rw[hcv] at hcc;rw[h2_at i ah hcc] at hj;simp only at hj;cases hkg:(eD m h).get (g i) with
     |none=>rw[hkg] at hj;cases hj
     |some b0=>rw[hkg] at hj;cases b0<;>simp[vu] at hj
    |some b=>
     rw[hcv] at hcc;have hb:=(J.at_ i b).2 hcc;rw[h2_at i (af b) hcc] at hj;simp only[ak] at hj;cases b with
     |cells ty' q'=>
      simp only[lX,iw.cells.injEq] at hj;obtain⟨_,rfl⟩:=hj;obtain⟨z,hz⟩:=fx hq q' (J.cells i ty' q' hb).1;exact kO _ _ _ (qK rows_hq q' z hz)
     |rows _ _ _ _=>simp[lX] at hj
     |dead _ _ _=>simp[lX] at hj
     |mp _ _ _=>simp[lX] at hj
   .rw[h2_ne j (λi hi e=>hjg ⟨i,hi,e⟩)] at hj;refine iX rows2 q ?_;have hkk:=(hinv.kill m).cells j ty q hj;rw[i_] at hj;split at hj
    .rename_i ht;obtain⟨_,_,_,_,hb⟩:=hmr j ht;rw[hb] at hj;cases hj
    .exact hinv.cells j ty q hj
  .by_cases hjg:∃ i,i<nq/\j=g i
   .obtain⟨i,hi,rfl⟩:=hjg;by_cases hip:i<np
    .rw[glo i hip];have:=gnx i hip;omega
    .rw[ghi i (by omega)];omega
   .rw[h2_ne j (λi hi e=>hjg ⟨i,hi,e⟩)] at hj;have:=(hinv.kill m).low j b hj;omega
 let S:List Nat:=(cS np).map λi=>nm (ij σ i)
 have memS:∀ n,n∈S↔∃ i,i<np/\n=nm (ij σ i):=λn=>by
  simp only[S,dj,lj];exact⟨λ⟨i,h1,h2⟩=>⟨i,h1,h2.symm⟩,λ⟨i,h1,h2⟩=>⟨i,h1,h2.symm⟩⟩
 let NN:List Nat:=(cS (nq-np)).map λt=>nm (nx+t)
 have memN:∀ n,n∈NN↔∃ t,t<nq-np/\n=nm (nx+t):=λn=>by
  simp only[NN,dj,lj];exact⟨λ⟨i,h1,h2⟩=>⟨i,h1,h2.symm⟩,λ⟨i,h1,h2⟩=>⟨i,h1,h2.symm⟩⟩
 have memW:∀ n,n∈S++FW m++NN↔(∃ i,i<nq/\n=nm (g i))\/n∈FW m:=λn=>by
  rw[bQ,bQ,memS,memN];constructor
  .rintro ((⟨i,hi,rfl⟩|hn)|⟨t,ht,rfl⟩)
   .exact .inl ⟨i,by omega,by rw[glo i hi]⟩
   .exact .inr hn
   .exact .inl ⟨np+t,by omega,by rw[ghi _ (by omega),show np+t-np=t from by omega]⟩
  .rintro (⟨i,hi,rfl⟩|hn)
   .by_cases hip:i<np
    .exact .inl (.inl ⟨i,hip,by rw[glo i hip]⟩)
    .exact .inr ⟨i-np,by omega,by rw[ghi i (by omega)]⟩
   .exact .inl (.inr hn)
 have hOpT:gQ P o (fX e h) (bD h) ⟨Es (AV.renL (H8 g) lr),S++FW m,S++FW m++NN,bD h2,NN⟩:=by
  intro φ E h' w a hrd hwr hops hrep hN;have hS':∀ i,i<np->h' (nm (ij σ i))=bD h (nm (ij σ i)):=λi hi=>hrd _ (ll _ ((memS _).2 ⟨i,hi,rfl⟩))
  have hM':∀ i,aN m i=ai->h' (nm i)=bD h (nm i):=λi hi=>hrd _ (nG _ (lG.2 hi))
  obtain⟨us,hrun,hrel⟩:=hexec φ E h' w a hops hrep
  let Hv:HF:=λn=>if n∈S++FW m then bD hv n else h' n
  have Hv_in:∀ n,n∈S++FW m->Hv n=bD hv n:=λn hn=>by simp only[Hv,hn,bG]
  have Hv_out:∀ n,n∉S++FW m->Hv n=h' n:=λn hn=>by simp only[Hv,hn,eh]
  have blkS:∀ i,i<np->∀ z,bD hv (nm (ij σ i))=af z->∃ b0 b y0,h.get (ij σ i)=af b0/\l1[i]? =af (af b)/\BM (ij σ) h m b0 (lX (ij σ) b)/\kC h b0=af y0/\kC hv (lX (ij σ) b)=af z:=λi hi z hz=>by
   obtain⟨b,hb⟩:=hl1 i hi;obtain⟨b0,U,Z⟩:=hbm i b hb;rw[bK,hv_at i b hb] at hz;simp only[aI] at hz;obtain⟨y0,hy0⟩:=BM.erB_some hinv U Z hz;exact⟨b0,b,y0,U,hb,Z,hy0,hz⟩
  have hd:vI h' Hv:=λn b hb=>by
   by_cases hn:n∈S++FW m
   .rw[Hv_in n hn] at hb;rcases bQ.1 hn with hs|hs
    .obtain⟨i,hi,rfl⟩:=(memS n).1 hs;obtain⟨b0,b1,y0,U,Z,q3,q4,q5⟩:=blkS i hi b hb;exact⟨y0,by rw[hS' i hi,bK,U];exact q4⟩
    .obtain⟨i,rfl,hi⟩:=nS.1 hs;rw[dead_m i hi] at hb;cases hb
   .rw[Hv_out n hn] at hb;exact⟨b,hb⟩
  have gvv:Eo h h' Hv m:=λi hi=>⟨hM' i hi,by rw[Hv_in _ (nG _ (lG.2 hi)),dead_m i hi]⟩
  have V:K3 h' Hv:=⟨hd,λn b b' hb hb'=>by
   by_cases hn:n∈S++FW m
   .rw[Hv_in n hn] at hb';rcases bQ.1 hn with hs|hs
    .obtain⟨i,hi,rfl⟩:=(memS n).1 hs;obtain⟨b0,b1,y0,U,Z,q3,q4,q5⟩:=blkS i hi b' hb';rw[hS' i hi,bK,U] at hb;simp only[aI] at hb;exact BM.view hd gvv rows_in q3 hb q5
    .obtain⟨i,rfl,hi⟩:=nS.1 hs;rw[dead_m i hi] at hb';cases hb'
   .rw[Hv_out n hn,hb] at hb';cases hb';exact jY.refl hd b⟩
  have hrepv:=V.rep hrep;have hlpg:cN hv (kA (ij σ) vs)=af (AV.renL (H8 (ij σ)) lp):=qK rows_hp vs lp hlp;have hrel1:jX φ (tot E φ Hv) w (AV.renL (H8 (ij σ)) lp) us:=
   jX.le hrep (Dn hd rows_in c.pre.vs l x1 m1 _ la _ gv pvg hla hlpg (λi hi=>gvv i (by rw[hmm,bu,hi];rfl))) hrel
  let E':Nat->Prop:=λk=>E k\/∃ n b,Hv n=af b/\n∉S/\φ n=af k
  have T:agr c.pre x vs hp (ij σ) φ E E' Hv w:=by
   refine ri.toId I (λa b ha hb=>inj1 a b (by rw[<- hnp];exact ha) (by rw[<- hnp];exact hb)) hrepv (λi b yb hb hyb=>?_) ?_ ?_ ?_
   .have hi:=I.lt_len hb;rw[hnp] at hi;rw[Hv_in _ (ll _ ((memS _).2 ⟨i,hi,rfl⟩)),bK,hv_at i b ((I.at_ i b).1 hb)];exact Ds rows_hp hyb
   .rintro k (hE|⟨n,b,h1,_,Y⟩)
    .exact .inl hE
    .exact .inr ⟨n,b,h1,Y⟩
   .rintro i k b hi h1 Y (hE|⟨n,b',h4,h5,h6⟩)
    .obtain⟨k',p1,p2,_⟩:=hrepv.at_ _ _ h1;rw[Y] at p1;cases p1;exact p2 hE
    .have:=hrepv.inj _ _ _ _ k h1 h4 Y h6;exact h5 (by rw[<- this];exact (memS _).2 ⟨i,by rw[<- hnp];exact hi,rfl⟩)
   .rintro k (hE|⟨n,b,h1,_,Y⟩)
    .exact hrepv.el k hE
    .obtain⟨k',U,_,ob,q3,_⟩:=hrepv.at_ n b h1;rw[Y] at U;cases U;exact (cG.1 q3).1
  have hcalls:=sp.calls x y hm vs hp l1 rs hq l2 lp lr I J hlp hlr (φ1 c.pre.bs.length (ij σ) φ) E' w us T.rep (jX.toId T.val (tN vs lp I.lt hlp) hrel1) (λn k hk=>by
   obtain⟨i,hi,rfl,_⟩:=xp hk;rw[ef];exact hi)
  unfold HM;rw[hrun];refine Calls.mono hcalls ?_;rintro en w' ⟨v,φc',rfl,hext,hown,hnm,rp,rv'⟩
  let isN:Nat->Prop:=λn=>n∈NN
  let φ':PM:=λn=>if n∈NN then φc' (nm (np+(ow n-nx))) else φ n
  have φ'_new:∀ t,t<nq-np->φ' (nm (nx+t))=φc' (nm (np+t)):=λt ht=>by
   have:nm (nx+t)∈NN:=(memN _).2 ⟨t,ht,rfl⟩;simp only[φ',this,bG,ef];rw[show nx+t-nx=t from by omega]
  have φ'_old:∀ n,n∉NN->φ' n=φ n:=λn hn=>by simp only[φ',hn,eh]
  have loN:∀ i,i<nx->nm i∉NN:=λi hi hn=>by
   obtain⟨t,_,e⟩:=(memN _).1 hn;have:=kT e;omega
  have φ'_g:∀ i,i<nq->φ' (nm (g i))=φc' (nm i):=λi hi=>by
   by_cases hip:i<np
   .rw[glo i hip,φ'_old _ (loN _ (gnx i hip)),hnm i (by rw[hnp];exact hip),aa6 (by rw[hnp];exact hip)]
   .rw[ghi i (by omega),φ'_new _ (by omega),show np+(i-np)=i from by omega]
  have hsub:∀ n k,φ n=af k->φ' n=af k:=λn k hk=>by
   by_cases hn:n∈NN
   .rw[hN n hn] at hk;cases hk
   .rw[φ'_old n hn];exact hk
  let F:HF:=eT h' (S++FW m++NN) (bD h2)
  have F_g:∀ i,i<nq->F (nm (g i))=bD h2 (nm (g i)):=λi hi=>by
   simp only[F,eT,(memW _).2 (.inl ⟨i,hi,rfl⟩),bG]
  have F_out:∀ n,n∉S++FW m++NN->F n=h' n:=λn hn=>by simp only[F,eT,hn,eh]
  have from_:∀ n b,F n=af b->(∃ i bq yb,i<nq/\n=nm (g i)/\hq.get i=af bq/\kC hq bq=af yb/\b=yb.ren (H8 g))\/(h' n=af b/\Hv n=af b/\n∉S/\n∉NN/\φ' n=φ n):=λn b hb=>by
   by_cases hn:n∈S++FW m++NN
   .rcases (memW n).1 hn with ⟨i,hi,rfl⟩|hs
    .rw[F_g i hi] at hb;obtain⟨bq,yb,U,Z,q3⟩:=er2' i hi b hb;exact .inl ⟨i,bq,yb,hi,rfl,U,Z,q3⟩
    .obtain⟨i,rfl,hi⟩:=nS.1 hs;have:F (nm i)=bD h2 (nm i):=by simp only[F,eT,hn,bG]
     rw[this,dead2 i hi] at hb;cases hb
   .rw[F_out n hn] at hb;have h1:n∉S++FW m:=λhh=>hn (ll _ hh)
    have Y:n∉NN:=λhh=>hn (nG _ hh)
    exact .inr ⟨hb,by rw[Hv_out n h1];exact hb,λhh=>h1 (ll _ hh),Y,φ'_old n Y⟩
  have own':∀ k,own φ' F k->own φc' (bD hq) k\/∃ n b,Hv n=af b/\n∉S/\φ n=af k:=by
   rintro k ⟨n,b,h1,Y⟩;rcases from_ n b h1 with ⟨i,bq,yb,hi,rfl,U,Z,_⟩|⟨_,Z,q3,_,q5⟩
   .rw[φ'_g i hi] at Y;exact .inl ⟨nm i,yb,by rw[bK,U];exact Z,Y⟩
   .exact .inr ⟨n,b,Z,q3,by rw[<- q5];exact Y⟩
  have mv:ja φ φ' h' F w w':=by
   refine ⟨hsub,hext.mono λk hk=>hd.own (T.own_ k hk),λk hk ho=>?_⟩;rcases own' k ho with h1|⟨n,b,h1,_,Y⟩
   .exact hd.own (T.own_ k (hown k hk h1))
   .exact hd.own ⟨n,b,h1,Y⟩
  have tot':∀ k,tot E φ' F k->tot E' φc' (bD hq) k:=by
   rintro k (h1|h1)
   .exact .inl (.inl h1)
   .rcases own' k h1 with Y|Y
    .exact .inr Y
    .exact .inl (.inr Y)
  let φr:PM:=λn=>if Xb nq n then φc' n else ah
  have rel_r:∀ x v,x.all (Xb nq)=ai->cO φc' (tot E' φc' (bD hq)) w' x v->cO φr (tot E φ' F) w' x v:=λx v hx hr=>
   hr.restrict (λi k hi hk=>by simp only[φr,hi,bG];exact hk) tot' hx
  have rel_g:∀ x v,cO φr (tot E φ' F) w' x v->cO φ' (tot E φ' F) w' (x.ren (H8 g)) v:=λx v hr=>
   hr.renTo λn k hk=>by
    simp only[φr] at hk;split at hk
    .rename_i hpn;obtain⟨i,hi,rfl⟩:=ab0 hpn;rw[xM,φ'_g i hi];exact hk
    .cases hk
  have hnqJ:=hnq;refine ⟨v,φ',rfl,mv,λn k hk=>?_,?_,?_⟩
  .by_cases hn:n∈NN
   .exact .inr hn
   .rw[φ'_old n hn] at hk;exact .inl hk
  .refine ⟨λn n' b b' k h1 Y h4 h5=>?_,λn b h1=>?_,λk hk=>dD (hrep.el k hk) mv.ext.size,λg' cells hg=>mv.keepF (hrep.gl g' cells hg)⟩
   .rcases from_ n b h1 with ⟨i,bq,yb,hi,rfl,U,Z,_⟩|⟨U,Z,q3,_,q5⟩
    .rw[φ'_g i hi] at h4;have hqi:bD hq (nm i)=af yb:=by rw[bK,U];exact Z
     rcases from_ n' b' Y with ⟨j,bj,yj,hj,rfl,t1,t2,_⟩|⟨t1,t2,t3,_,t5⟩
     .rw[φ'_g j hj] at h5;have:=rp.inj _ _ _ _ k hqi (by rw[bK,t1];exact t2) h4 h5;rw[kT this]
     .exfalso;obtain⟨k',p1,p2,_⟩:=rp.at_ _ _ hqi;rw[h4] at p1;cases p1;exact p2 (.inr ⟨n',b',t2,t3,by rw[<- t5];exact h5⟩)
    .rcases from_ n' b' Y with ⟨j,bj,yj,hj,rfl,t1,t2,_⟩|⟨t1,t2,t3,_,t5⟩
     .exfalso;rw[φ'_g j hj] at h5;have hqj:bD hq (nm j)=af yj:=by rw[bK,t1];exact t2
      obtain⟨k',p1,p2,_⟩:=rp.at_ _ _ hqj;rw[h5] at p1;cases p1;exact p2 (.inr ⟨n,b,Z,q3,by rw[<- q5];exact h4⟩)
     .exact hrep.inj n n' b b' k U t1 (by rw[<- q5];exact h4) (by rw[<- t5];exact h5)
   .rcases from_ n b h1 with ⟨i,bq,yb,hi,rfl,U,Z,rfl⟩|⟨U,Z,q3,_,q5⟩
    .have hqi:bD hq (nm i)=af yb:=by rw[bK,U];exact Z
     obtain⟨k,p1,p2,ob,p3,p4⟩:=rp.at_ _ _ hqi;have hall:=J.blk_all U Z;rw[hnq] at hall;exact⟨k,by rw[φ'_g i hi];exact p1,λhE=>p2 (.inl hE),ob,p3,(p4.restrict rel_r hall).renTo rel_g⟩
    .obtain⟨k,p1,p2,ob,p3,p4⟩:=hrep.at_ n b U;have hk:k<w.heap.size:=(cG.1 p3).1;refine ⟨k,hsub n k p1,p2,ob,?_,p4.mono λx v hr=>mv.keep hr⟩;rw[hext.blk k hk ?_]
     .exact p3
     .rintro⟨n',y',t1,t2⟩;obtain⟨i,hi,rfl,t3⟩:=xp t2;obtain⟨j,bb,e,t4,t5⟩:=jy t1;have:=kT e;subst this;have hi':i<np:=by rw[<- hnp];exact hi
      have hvi:Hv (nm (ij σ i))=af (y'.ren (H8 (ij σ))):=by
       rw[Hv_in _ (ll _ ((memS _).2 ⟨i,hi',rfl⟩)),bK,hv_at i bb ((I.at_ i bb).1 t4)];exact Ds rows_hp t5
      have:=hrepv.inj _ _ _ _ k hvi Z t3 p1;exact q3 (by rw[<- this];exact (memS _).2 ⟨i,hi',rfl⟩)
  .have hall:(Es lr).all (Xb nq)=ai:=aah (by have:=tN rs lr J.lt hlr;rwa [hnq] at this);show cO φ' (tot E φ' F) w' (Es (AV.renL (H8 g) lr)) v;rw[aag];exact rel_g _ _ (rel_r _ _ hall rv')
 have hrsg:cN h2 (kA g rs)=af (AV.renL (H8 g) lr):=qK rows_hq rs lr hlr;refine ⟨⟨_,hOpT,λz hz=>?_,?_,λn hn=>?_,λn hn=>?_,λn hn=>?_⟩,rows2,inv2,by omega,λhs=>by cases hs⟩
 .rw[W6 hrsg] at hz;cases hz;rfl
 .funext n;unfold eT;split
  .rfl
  .rename_i hn;refine (kP hinv rows2 λi e=>?_).symm;subst e;rw[h2_ne i (λk hk e=>hn ((memW _).2 (.inl ⟨k,hk,by rw[e]⟩))),i_,ay];intro hb;exact hn ((memW _).2 (.inr (lG.2 hb)))
 .rw[bu];rcases bQ.1 hn with hs|hs
  .obtain⟨i,hi,rfl⟩:=(memS n).1 hs;rw[ef,(sig _).2 ⟨i,hi,rfl⟩];rfl
  .obtain⟨i,rfl,hi⟩:=nS.1 hs;rw[ef,hi];simp
 .rw[bu,bu];rcases bQ.1 hn with hs|hs
  .rcases bQ.1 hs with hs|hs
   .obtain⟨i,hi,rfl⟩:=(memS n).1 hs;rw[ef,(sig _).2 ⟨i,hi,rfl⟩];rfl
   .obtain⟨i,rfl,hi⟩:=nS.1 hs;rw[ef,hi];simp
  .obtain⟨t,ht,rfl⟩:=(memN n).1 hs;rw[ef,af4.2 ⟨by omega,by omega⟩];simp
 .obtain⟨t,ht,rfl⟩:=(memN n).1 hn;rw[ef];omega
mutual
def FV.fl:FV->Bool
 |.raw _=>ai
 |.agg l=>FV.flL l
 |.sl _ _=>aj
 |.ptr _ _=>aj
def FV.flL:List FV->Bool
 |[]=>ai
 |x::r=>x.fl&&FV.flL r
end
theorem XC:∀ {l:List FV},FV.flL l=ai->∀ x∈l,x.fl=ai
 |[],_,x,I=>by cases I
 |y::l,h,x,I=>by
  simp only[FV.flL,av] at h;rcases bp.1 I with rfl|I
  .exact h.1
  .exact XC h.2 x I
theorem ac9:∀ {l:List FV},(∀ x∈l,x.fl=ai)->FV.flL l=ai
 |[],_=>rfl
 |y::l,h=>by simp only[FV.flL,av];exact⟨h y (by simp),ac9 λx I=>h x (by simp[I])⟩
theorem nA.flat {O O':Nat->Prop} {w w':World} {x:FV} {v:Value} (h:nA O w x v):x.fl=ai->nA O' w' x v:=by
 induction h with
 |raw v=>intro _;exact .raw v
 |nil a c hc=>intro h;cases h
 |sl cells n c b off us hn hc hO hb hcl hu hr I=>intro h;cases h
 |ptr cells o b off us hO hb hcl hu hr I=>intro h;cases h
 |agg cells vs hl hcl hr I=>intro h;exact .agg cells vs hl hcl λj x v J hv=>I j x v J hv (XC h x (bc J))
mutual
def AV.fl:AV->Bool
 |.f x=>x.fl
 |.emp=>ai
 |.anyb=>ai
 |.agg l=>AV.flL l
 |.tup l=>AV.flL l
 |.ptr _ _=>aj
 |.sl _ _ _=>aj
 |.row _ _ _=>aj
 |.mp _=>aj
 |.clo _ _=>aj
def AV.flL:List AV->Bool
 |[]=>ai
 |x::r=>x.fl&&AV.flL r
end
theorem K2:∀ {l:List AV},AV.flL l=ai->∀ x∈l,x.fl=ai
 |[],_,x,I=>by cases I
 |y::l,h,x,I=>by
  simp only[AV.flL,av] at h;rcases bp.1 I with rfl|I
  .exact h.1
  .exact K2 h.2 x I
theorem X3:∀ {l:List AV},(∀ x∈l,x.fl=ai)->AV.flL l=ai
 |[],_=>rfl
 |y::l,h=>by simp only[AV.flL,av];exact⟨h y (by simp),X3 λx I=>h x (by simp[I])⟩
theorem cO.flat {φ φ':PM} {O O':Nat->Prop} {w w':World} {x:AV} {v:Value} (h:cO φ O w x v):x.fl=ai->cO φ' O' w' x v:=by
 induction h with
 |f h=>intro hf;exact .f (h.flat hf)
 |ptr h=>intro hf;cases hf
 |sl h hn hc=>intro hf;cases hf
 |row h hn hc hsh=>intro hf;cases hf
 |emp=>intro _;exact .emp
 |anyb=>intro _;exact .anyb
 |mp h=>intro hf;cases hf
 |agg hl hcl hr J=>intro hf;exact .agg hl hcl λj x v I hv=>J j x v I hv (K2 hf x (bc I))
 |tup hl hr J=>intro hf;exact .tup hl λj x v I hv=>J j x v I hv (K2 hf x (bc I))
 |clo hl hr J=>intro hf;cases hf
mutual
theorem ajk (γ:Nat->Nat):∀ x:AV,x.fl=ai->x.ren γ=x
 |.f x,_=>rfl
 |.emp,_=>rfl
 |.anyb,_=>rfl
 |.agg l,h=>by simp only[AV.ren];rw[H_ γ l h]
 |.tup l,h=>by simp only[AV.ren];rw[H_ γ l h]
 |.ptr _ _,h=>by cases h
 |.sl _ _ _,h=>by cases h
 |.row _ _ _,h=>by cases h
 |.mp _,h=>by cases h
 |.clo _ _,h=>by cases h
theorem H_ (γ:Nat->Nat):∀ l:List AV,AV.flL l=ai->AV.renL γ l=l
 |[],_=>rfl
 |x::r,h=>by
  simp only[AV.flL,av] at h;rw[AV.renL,ajk γ x h.1,H_ γ r h.2]
end
theorem Ax:∀ (T:Ty),T.flat=ai->∀ x:T.den,∀ y∈bT T x,y.fl=ai
 |.int _,_,x,y,I=>by simp only[bT,aL] at I;subst I;rfl
 |.bool,_,x,y,I=>by simp only[bT,aL] at I;subst I;rfl
 |.str,_,x,y,I=>by simp only[bT,aL] at I;subst I;rfl
 |.sl _,h,x,y,I=>by cases h
 |.st t,h,x,y,I=>Ax t h x y I
 |.pr a b,h,x,y,I=>by
  simp only[Ty.flat,av] at h;simp only[bT,bQ] at I;exact I.elim (Ax a h.1 x.1 y) (Ax b h.2 x.2 y)
 |.un,_,x,y,I=>by simp[bT] at I
 |.ex,h,_,_,_=>by cases h
 |.sm,h,_,_,_=>by cases h
theorem afu (T:Ty) (h:T.flat=ai) (x:T.den):(gL T x).fl=ai:=by
 cases I:T.one with
 |true=>
  have:=Ax T h x (gL T x) (by rw[(Dv T x I).1];simp);exact this
 |false=>rw[qL T x I];exact ac9 (Ax T h x)
theorem Qr (a b:Ty):(spr a b).flat=(a.flat&&b.flat):=by
 cases a<;>cases b<;>simp[spr,Ha,Ty.flat]
theorem IX {n:Nat}:∀ {a b:List TV},rK n (a++b)=ai->rK n a=ai/\rK n b=ai
 |[],b,h=>⟨rfl,h⟩
 |x::r,b,h=>by
  simp only[gw,rK,av] at h ⊢;obtain⟨h1,h2⟩:=IX h.2;exact⟨⟨h.1,h1⟩,h2⟩
mutual
theorem aeu {g:Nat->Nat} {h:bl}:∀ (p:PV) (x:p.ty.den) (cs:List TV) (l:List AV),p.ty.flat=ai->pY g p x=af cs->rK 0 cs=ai->cN h cs=af l->∀ y∈l,y.fl=ai
 |.d T,x,cs,l,hf,hp,_,hl,y,hy=>by
  have:=(lO h 40 T x cs hp).1;rw[hl] at this;cases this;obtain⟨q,hq,rfl⟩:=dj.1 hy;exact Ax T hf x q hq
 |.ptr i q,x,cs,l,hf,hp,hlt,hl,y,hy=>by
  simp only[pY,ak] at hp;subst hp;simp[rK,LD] at hlt
 |.csl i q z,x,cs,l,hf,hp,hlt,hl,y,hy=>by
  simp only[pY,ak] at hp;subst hp;simp[rK,LD] at hlt
 |.clo q i z,x,cs,l,hf,hp,hlt,hl,y,hy=>by
  simp only[pY,ak] at hp;subst hp;simp[rK,LD] at hlt
 |.row i,x,cs,l,hf,hp,hlt,hl,y,hy=>by
  simp only[pY,ak] at hp;subst hp;simp[rK,LD] at hlt
 |.mp i,x,cs,l,hf,hp,hlt,hl,y,hy=>by
  simp only[pY,ak] at hp;subst hp;simp[rK,LD] at hlt
 |.nil,x,cs,l,hf,hp,hlt,hl,y,hy=>by
  simp only[pY,ak] at hp;subst hp;simp only[cN,cr,ak] at hl;subst hl;simp only[aL] at hy;subst hy;rfl
 |.emp,x,cs,l,hf,hp,hlt,hl,y,hy=>by
  simp only[pY,ak] at hp;subst hp;simp only[cN,cr,ak] at hl;subst hl;simp only[aL] at hy;subst hy;rfl
 |.agg ps,x,cs,l,hf,hp,hlt,hl,y,hy=>IA ps x cs l hf hp hlt hl y hy
theorem IA {g:Nat->Nat} {h:bl}:∀ (ps:List PV) (x:(PV.tyL ps).den) (cs:List TV) (l:List AV),(PV.tyL ps).flat=ai->re g ps x=af cs->rK 0 cs=ai->cN h cs=af l->∀ y∈l,y.fl=ai
 |[],x,cs,l,hf,hp,hlt,hl,y,hy=>by
  simp only[re,ak] at hp;subst hp;simp only[cN,ak] at hl;subst hl;cases hy
 |p::ps,x,cs,l,hf,hp,hlt,hl,y,hy=>by
  simp only[PV.tyL] at hf;rw[Qr,av] at hf;simp only[re] at hp;split at hp
  .rename_i a ha;split at hp
   .rename_i b hb;simp only[ak] at hp;subst hp;obtain⟨a',b',rfl,e1,e2⟩:=Cg hl;have hsp:=IX hlt;rcases bQ.1 hy with hy|hy
    .exact aeu p _ a a' hf.1 ha hsp.1 e1 y hy
    .exact IA ps _ b b' hf.2 hb hsp.2 e2 y hy
   .cases hp
  .cases hp
end
theorem aes {g:Nat->Nat} {h:bl} {p:PV} {x:p.ty.den} {u:TV} {y:AV} (hf:p.ty.flat=ai) (hp:tI g p x=af u) (hlt:LD 0 u=ai) (I:cr h u=af y):y.fl=ai:=by
 cases p with
 |d T=>
  simp only[tI,ak] at hp;subst hp;simp only[cr,ak] at I;subst I;exact afu T hf x
 |agg ps=>
  simp only[tI] at hp;split at hp
  .rename_i l hl;simp only[ak] at hp;subst hp;simp only[cr] at I;split at I
   .rename_i M J;simp only[ak] at I;subst I;exact X3 (IA ps _ l M hf hl hlt J)
   .cases I
  .cases hp
 |ptr i q=>simp only[tI,ak] at hp;subst hp;simp[LD] at hlt
 |csl i q z=>simp only[tI,ak] at hp;subst hp;simp[LD] at hlt
 |row i=>simp only[tI,ak] at hp;subst hp;simp[LD] at hlt
 |clo q i z=>simp only[tI,ak] at hp;subst hp;simp[LD,rK] at hlt
 |mp i=>simp only[tI,ak] at hp;subst hp;simp[LD] at hlt
 |nil=>simp only[tI,ak] at hp;subst hp;simp only[cr,ak] at I;subst I;rfl
 |emp=>simp only[tI,ak] at hp;subst hp;simp only[cr,ak] at I;subst I;rfl
theorem QL {g:Nat->Nat} {h:bl}:∀ (ps:List PV) (x:(PV.tyL ps).den) (us:List TV) (l:List AV),(PV.tyL ps).flat=ai->qd g ps x=af us->rK 0 us=ai->cN h us=af l->AV.flL l=ai
 |[],x,us,l,hf,hp,hlt,hl=>by
  simp only[qd,ak] at hp;subst hp;simp only[cN,ak] at hl;subst hl;rfl
 |p::ps,x,us,l,hf,hp,hlt,hl=>by
  simp only[PV.tyL] at hf;rw[Qr,av] at hf;simp only[qd] at hp;split at hp
  .rename_i a I;split at hp
   .rename_i b hb;simp only[ak] at hp;subst hp;obtain⟨y,l2,rfl,e1,e2⟩:=c7 hl;simp only[rK,av] at hlt;simp only[AV.flL,av];exact⟨aes hf.1 I hlt.1 e1,QL ps _ b l2 hf.2 hb hlt.2 e2⟩
   .cases hp
  .cases hp
theorem aek:∀ {l:List AV},AV.flL l=ai->(Es l).fl=ai
 |[],_=>rfl
 |[x],h=>by simp only[AV.flL,av] at h;exact h.1
 |x::y::r,h=>h
theorem ag9 {P:Program} {o:Oper} {e:iP} {h:bl} {nx:Nat} {f:FuncId} {c:cg} {l:List TV} (hinv:me h nx) (sp:pV P f c) {x:c.pre.ty.den} {m:Nat} {σ:PT Nat} {sm:Nat} (M:Ig 0 c.pre l h x m σ sm) {vs:List TV} {hp:bl} {l1:List (Option iw)} (I:qT c.pre x vs hp l1) {y:c.post.ty.den} (hm:c.m x=af y) {rs:List TV} {hq:bl} {l2:List (Option iw)} (J:qT c.post y rs hq l2) (hp0:c.pre.bs.length=0) (hq0:c.post.bs.length=0) (hfl:(PV.tyL c.post.vs).flat=ai)
 (g:Nat->Nat) {la:List AV} (hla:cN h l=af la)
 (hexec:∀ (φ:PM) (E:Nat->Prop) (h':HF) (w:World) (a:Act),(∀ t,.tmp t∈o.op.operands->∀ y,fX e h t=af y->cO φ (tot E φ h') w y (a.tmps.getD t undef))->ri φ E h' w->∃ us:List Value,(execOp a.eval o).run P w= .ok (.enter f us.toArray) w/\jX φ (tot E φ h') w la us):
 jk P o aj e h nx (QE (kA g rs)) m 0 h nx:=by
 obtain⟨x1,m1,x2,m2,hx,hmm,gv,gb⟩:=M.ex;have hmr:dU h m:=by rw[hmm];exact (H5 _ _ _ _ gv).or (H7 _ _ _ _ gb)
 have pvg:qd (ij σ) c.pre.vs x1=af (kA (ij σ) vs):=by
  have U:=tW (ij σ) c.pre.vs x1;have h4:=I.pv;rw[hx,tQ] at h4;rw[U,h4];rfl
 obtain⟨lr,hlr⟩:=fx hq rs J.ok;obtain⟨lp,hlp⟩:=fx hp vs I.ok;have hfl':AV.flL lr=ai:=QL c.post.vs _ rs lr hfl J.pv (by rw[<- hq0];exact J.lt) hlr;have hpe:∀ i,hp.get i=ah:=λi=>by
  cases hb:hp.get i with
  |none=>rfl
  |some b=>have:=I.lt_len hb;omega
 have hqe:∀ i,hq.get i=ah:=λi=>by
  cases hb:hq.get i with
  |none=>rfl
  |some b=>have:=J.lt_len hb;omega
 have rows_hp:∀ i r,eC hp i=af r->eC (eD m h) (ij σ i)=af r:=λi r hr=>by rw[bU,hpe] at hr;cases hr
 have rows_hq:∀ i r,eC hq i=af r->eC h (g i)=af r:=λi r hr=>by rw[bU,hqe] at hr;cases hr
 have rows_in:x_ (eD m h) h:=λj r hr=>by
  rw[bU] at hr ⊢;rw[i_] at hr;split at hr
  .rename_i ht;obtain⟨ty,p,T,xs,hb⟩:=hmr j ht;rw[hb] at hr ⊢;exact hr
  .exact hr
 have hOpT:gQ P o (fX e h) (bD h) ⟨Es lr,FW m,[],λ_=>ah,[]⟩:=by
  intro φ E h' w a hrd hwr hops hrep hN;obtain⟨us,hrun,hrel⟩:=hexec φ E h' w a hops hrep
  let Hv:HF:=λn=>if n∈FW m then ah else h' n
  have Hv_in:∀ n,n∈FW m->Hv n=ah:=λn hn=>by simp only[Hv,hn,bG]
  have Hv_out:∀ n,n∉FW m->Hv n=h' n:=λn hn=>by simp only[Hv,hn,eh]
  have hd:vI h' Hv:=λn b hb=>by
   by_cases hn:n∈FW m
   .rw[Hv_in n hn] at hb;cases hb
   .rw[Hv_out n hn] at hb;exact⟨b,hb⟩
  have gvv:Eo h h' Hv m:=λi hi=>⟨hrd _ (lG.2 hi),Hv_in _ (lG.2 hi)⟩
  have V:K3 h' Hv:=⟨hd,λn b b' hb Y=>by
   by_cases hn:n∈FW m
   .rw[Hv_in n hn] at Y;cases Y
   .rw[Hv_out n hn,hb] at Y;cases Y;exact jY.refl hd b⟩
  have hrepv:=V.rep hrep;have hlpg:cN (eD m h) (kA (ij σ) vs)=af (AV.renL (H8 (ij σ)) lp):=qK rows_hp vs lp hlp;have hrel1:jX φ (tot E φ Hv) w (AV.renL (H8 (ij σ)) lp) us:=
   jX.le hrep (Dn hd rows_in c.pre.vs l x1 m1 _ la _ gv pvg hla hlpg (λi hi=>gvv i (by rw[hmm,bu,hi];rfl))) hrel
  let E':Nat->Prop:=λk=>E k\/∃ n b,Hv n=af b/\φ n=af k
  have T:agr c.pre x vs hp (ij σ) φ E E' Hv w:=by
   refine ri.toId I (λa b ha=>by omega) hrepv (λi b yb hb=>by rw[hpe] at hb;cases hb) ?_ (λi k b hi=>by omega) ?_
   .rintro k (hE|⟨n,b,h1,U⟩)
    .exact .inl hE
    .exact .inr ⟨n,b,h1,U⟩
   .rintro k (hE|⟨n,b,h1,U⟩)
    .exact hrepv.el k hE
    .obtain⟨k',Z,_,ob,q3,_⟩:=hrepv.at_ n b h1;rw[U] at Z;cases Z;exact (cG.1 q3).1
  have hcalls:=sp.calls x y hm vs hp l1 rs hq l2 lp lr I J hlp hlr (φ1 c.pre.bs.length (ij σ) φ) E' w us T.rep (jX.toId T.val (tN vs lp I.lt hlp) hrel1) (λn k hk=>by
   obtain⟨i,hi,rfl,_⟩:=xp hk;rw[ef];exact hi)
  unfold HM;rw[hrun];refine Calls.mono hcalls ?_;rintro en w' ⟨v,φc',rfl,hext,hown,hnm,rp,rv'⟩;have hno:∀ k,¬own (φ1 c.pre.bs.length (ij σ) φ) (bD hp) k:=by
   rintro k ⟨n,b,h1,_⟩;obtain⟨i,bb,_,U,_⟩:=jy h1;rw[hpe] at U;cases U
  have mv:ja φ φ h' h' w w':=⟨λ_ _ h=>h,hext.mono λk hk=>cR hk (hno k),λ_ _ h=>h⟩
  refine ⟨v,φ,rfl,?_,λ_ _ h=>.inl h,?_,?_⟩
  .rw[ub];exact mv
  .rw[ub];refine hrep.moved mv λk hk=>?_
   obtain⟨n,b,h1,U⟩:=hk;obtain⟨k',Z,_,ob,q3,_⟩:=hrep.at_ n b h1;rw[U] at Z;cases Z;exact hext.blk k (cG.1 q3).1 (hno k)
  .exact rv'.flat (aek hfl')
 have hrsg:cN h (kA g rs)=af (AV.renL (H8 g) lr):=qK rows_hq rs lr hlr;refine ⟨⟨_,hOpT,λz hz=>?_,?_,λn hn=>?_,by simp,by simp⟩,λ_ _ h=>h,hinv,bV _,λhs=>by cases hs⟩
 .rw[W6 hrsg,H_ _ lr hfl'] at hz;cases hz;rfl
 .exact ub _ _
 .obtain⟨i,rfl,hi⟩:=nS.1 hn;rw[ef];exact hi
def cg.full (c:cg):cg:=⟨c.pre,⟨c.post.vs,c.pre.bs⟩,λx=>obind (c.m x) λy=>af (UH (PV.tyL c.post.vs) (PB.tyL c.pre.bs) (O5 _ _ y) (Lu _ _ x))⟩
def aH (P:Program) (f:FuncId) (c:cg):Prop:=if eK c.pre.bs.length c.post.bs.length=ai then pV P f c else pV P f c.full
theorem pV.toC {P:Program} {f:FuncId} {c:cg} (h:pV P f c) (hb:eK c.pre.bs.length c.post.bs.length=ai):aH P f c:=by
 unfold aH;rw[aE hb];exact h
theorem aH.holds {P:Program} {f:FuncId} {c:cg} (h:aH P f c) (hb:eK c.pre.bs.length c.post.bs.length=ai):pV P f c:=by
 unfold aH at h;rw[aE hb] at h;exact h
theorem af7 (a b:Ty) (z:(spr a b).den):UH a b (O5 a b z) (Lu a b z)=z:=by cases a<;>cases b<;>rfl
open Classical in
def roM {pre:Tm} {vs:List PV} (m:pre.ty.den->Option (Tm.ty ⟨vs,pre.bs⟩).den) (x:pre.ty.den):Option (Tm.ty ⟨vs,[]⟩).den:=
 obind (m x) λy=>if Lu (PV.tyL vs) (PB.tyL pre.bs) y=Lu _ _ x then af (UH (PV.tyL vs) (PB.tyL []) (O5 (PV.tyL vs) (PB.tyL pre.bs) y) ()) else ah
theorem aH.ro {P:Program} {f:FuncId} {pre:Tm} {vs:List PV} {m:pre.ty.den->Option (Tm.ty ⟨vs,pre.bs⟩).den} {m':pre.ty.den->Option (Tm.ty ⟨vs,[]⟩).den} (h:pV P f ⟨pre,⟨vs,pre.bs⟩,m⟩) (hb:eK pre.bs.length 0=aj) (hs:∀ x y,m' x=af y->roM m x=af y):aH P f ⟨pre,⟨vs,[]⟩,m'⟩:=by
 unfold aH;rw[ay (by show ¬eK pre.bs.length 0=ai;rw[hb];exact Bool.false_ne_true)];refine ⟨h.callable,λx y hxy=>?_⟩;refine h.calls x y ?_;have hxy:obind (m' x) (λy=>af (UH (PV.tyL vs) (PB.tyL pre.bs) (O5 (PV.tyL vs) (PB.tyL []) y) (Lu _ _ x)))=af y:=hxy;obtain⟨z,M,hzy⟩:=dK hxy;have h1:=hs x z M;unfold roM at h1;obtain⟨y0,J,h2⟩:=dK h1;split at h2
 .rename_i heq;have h2:=jS h2;have hzy:=jS hzy;subst h2;have I:UH (PV.tyL vs) (PB.tyL pre.bs) (O5 (PV.tyL vs) (PB.tyL pre.bs) y0) (Lu (PV.tyL pre.vs) (PB.tyL pre.bs) x)=y:=(gO (λq=>UH (PV.tyL vs) (PB.tyL pre.bs) q (Lu (PV.tyL pre.vs) (PB.tyL pre.bs) x)) (tQ (PV.tyL vs) (PB.tyL []) _ ()).symm).trans hzy;rw[<- heq] at I;have:=(af7 (PV.tyL vs) (PB.tyL pre.bs) y0).symm.trans I;exact J.trans (gO af this)
 .cases h2
theorem jk.drop {P:Program} {o:Oper} {e:iP} {h h':bl} {nx nx':Nat} {v:TV} {rd wr W wr':Nat} (t:jk P o aj e h nx v rd wr h' nx') (hW:∀ i,aN W i=ai->bD h' (nm i)=bD h (nm i)/\aN rd i=ai) (M:∀ i,aN wr i=ai->aN W i=ai\/aN wr' i=ai):jk P o aj e h nx v rd wr' h' nx':=by
 obtain⟨⟨f,h1,h2,J,h4,h5,Z⟩,r,i,g,st⟩:=t;have hs:∀ n,aN W (ow n)=ai->bD h' n=bD h n:=λn hn=>by
  by_cases I:∃ i,n=nm i
  .obtain⟨i,rfl⟩:=I;rw[ef] at hn;exact (hW i hn).1
  .rw[wS h I,wS h' I]
 have hup:∀ H:HF,(∀ n∈f.wr,H n=bD h n)->eT H (f.wr.filter λn=> !(aN W (ow n))) f.nw=eT H f.wr f.nw:=λH Y=>by
  funext n;unfold eT;by_cases hn:n∈f.wr
  .by_cases hb:aN W (ow n)=ai
   .rw[ay (by simp[hb]),aE hn];have:=congrFun J n;unfold eT at this;rw[aE hn,hs n hb] at this;rw[this,Y n hn]
   .rw[aE (by simp[hn,hb]),aE hn]
  .rw[ay (by simp[hn]),ay hn]
 refine ⟨⟨⟨f.val,f.rd++(f.wr.filter λn=>aN W (ow n)),f.wr.filter λn=> !(aN W (ow n)),f.nw,f.N⟩,?_,h2,?_,λn hn=>?_,λn hn=>?_,Z⟩,r,i,g,λhs=>by cases hs⟩
 .intro φ E H w a hrd hwr hops hrep U;have k1:∀ i∈f.rd,H i=bD h i:=λi hi=>hrd i (ll _ hi)
  have k2:∀ i∈f.wr,H i=bD h i:=λi hi=>by
   cases hb:aN W (ow i) with
   |true=>exact hrd i (nG _ (by simp[hi,hb]))
   |false=>exact hwr i (by simp[hi,hb])
  have:=h1 φ E H w a k1 k2 hops hrep U;simp only[hup H k2];exact this
 .simp only[hup (bD h) (λ_ _=>rfl)];exact J
 .rcases bQ.1 hn with hn|hn
  .exact h4 n hn
  .simp only[xn] at hn;exact (hW _ hn.2).2
 .simp only[xn,eA] at hn;rcases M _ (h5 n hn.1) with hh|hh
  .rw[hn.2] at hh;cases hh
  .exact hh
mutual
theorem abg {n n':Nat} (hle:n<=n'):∀ (v:TV),LD n v=ai->LD n' v=ai
 |.row id,h=>by simp only[LD,Nat.blt_eq] at h ⊢;omega
 |.rtl id _,h=>by simp only[LD,Nat.blt_eq] at h ⊢;omega
 |.pel id _ _ _,h=>by simp only[LD,Nat.blt_eq] at h ⊢;omega
 |.ptr id _,h=>by simp only[LD,Nat.blt_eq] at h ⊢;omega
 |.csl id _ _,h=>by simp only[LD,Nat.blt_eq] at h ⊢;omega
 |.mp id,h=>by simp only[LD,Nat.blt_eq] at h ⊢;omega
 |.agg l,h=>wK hle l h
 |.tup l,h=>wK hle l h
 |.clo _ l,h=>wK hle l h
 |.f _ _,_=>rfl
 |.fel _ _ _ _ _,_=>rfl
 |.emp,_=>rfl
 |.nil,_=>rfl
 |.undef,_=>rfl
 |.np,_=>rfl
 |.anyb,_=>rfl
theorem wK {n n':Nat} (hle:n<=n'):∀ (l:List TV),rK n l=ai->rK n' l=ai
 |[],_=>rfl
 |x::r,h=>by
  simp only[rK,av] at h ⊢;exact⟨abg hle x h.1,wK hle r h.2⟩
end
theorem M9 {g g':Nat->Nat} {h:bl}:∀ (bs:List PB) (i:Nat) (x:(PB.tyL bs).den) (m:Nat),If bs=ai->Be g h i bs=af (x,m)->∃ l,oF g' bs x=af l/\l.length=bs.length/\∀ j,j<bs.length->∃ ty p T xs,l[j]? =af (af (.rows ty p T xs))/\h.get (g (i+j))=af (.rows ty p T xs)
 |[],i,x,m,_,hg=>⟨[],rfl,rfl,λj hj=>by simp at hj⟩
 |.rows ty p T::r,i,x,m,I,hg=>by
  simp only[Be] at hg;split at hg
  .rename_i M m1 h1;split at hg
   .rename_i J m2 h2;simp only[ak,aD] at hg;obtain⟨rfl,rfl⟩:=hg;obtain⟨l,q1,Z,q3⟩:=M9 (g:=g) (g':=g') (h:=h) r (i+1) J m2 I h2;simp only[Fb] at h1;split at h1
    .rename_i ty' p' S xs hb;split at h1
     .rename_i hc;simp only[av,c5] at hc;obtain⟨rfl,rfl⟩:=hc;split at h1
      .rename_i z hz;simp only[ak] at h1;obtain⟨rfl,_⟩:=h1;obtain⟨es,ez⟩:=ji hz;cases es;subst ez;refine ⟨af (.rows ty p T M)::l,?_,by simp[Z],λj hj=>?_⟩
       .simp only[oF];rw[tQ,vk,q1];rfl
       .cases j with
        |zero=>exact⟨ty,p,T,_,rfl,hb⟩
        |succ j=>
         obtain⟨a,b,c,d,Y,U⟩:=q3 j (by simpa using hj);exact⟨a,b,c,d,by simpa using Y,by rw[show i+(j+1)=i+1+j from by omega];exact U⟩
      .cases h1
     .cases h1
    .cases h1
   .cases hg
  .cases hg
 |.rowsP _ _::r,i,x,m,I,hg=>by cases I
 |.cells _ _::r,i,x,m,I,hg=>by cases I
 |.mp _ _::r,i,x,m,I,hg=>by cases I
 |.gone::r,i,x,m,I,hg=>by cases I
theorem FU:∀ {bs:List PB},If bs=ai->BY bs=ai
 |[],_=>rfl
 |.rows _ _ _::r,h=>FU (bs:=r) h
 |.rowsP _ _::r,h=>by cases h
 |.cells _ _::r,h=>by cases h
 |.mp _ _::r,h=>by cases h
 |.gone::r,h=>by cases h
theorem FM {h h2:bl} {g:Nat->Nat}:∀ (n:Nat),(∀ i,i<n->h2.get (g i)=h.get (g i))->uc h h2 g n=ai
 |0,_=>rfl
 |n+1,hs=>by
  simp only[uc,av];refine ⟨?_,FM n λi hi=>hs i (by omega)⟩;have:eC h2 (g n)=eC h (g n):=by rw[bU,bU,hs n (by omega)]
  rw[this];cases eC h (g n) with
  |none=>rfl
  |some q=>obtain⟨p,s,k⟩:=q;simp
def Lk (P:Program) (con:FuncId->Option cg):Prop:=∀ f c,con f=af c->aH P f c
theorem XU {R:Type} {P:Program} {con:FuncId->Option cg} (hcon:Lk P con) {o:Oper} {e:iP} {h:bl} {nx:Nat} {f:FuncId} {l:List TV} {K:KO R} {r:R} (hinv:me h nx) (hk:XV con f l h nx K=af r) {la:List AV} (hla:cN h l=af la)
 (hexec:∀ (φ:PM) (E:Nat->Prop) (h':HF) (w:World) (a:Act),Ei P f->(∀ t,.tmp t∈o.op.operands->∀ y,fX e h t=af y->cO φ (tot E φ h') w y (a.tmps.getD t undef))->ri φ E h' w->∃ us:List Value,(execOp a.eval o).run P w= .ok (.enter f us.toArray) w/\jX φ (tot E φ h') w la us):kR P o aj e h nx K r:=by
 unfold XV at hk;split at hk
 .rename_i c hc;have spc:=hcon f c hc;split at hk
  .rename_i x m σ sm hM;split at hk
   .rename_i q hq;obtain⟨vs,hp⟩:=q;obtain⟨l1,I⟩:=wN hq;obtain⟨y,hy,hk⟩:=dK hk;split at hk
    .rename_i q2 hq2;obtain⟨rs1,Z⟩:=q2;obtain⟨l2,J⟩:=wN hq2;split at hk
     .rename_i hcond;simp only[av] at hcond;have hle:=a8 hcond.1;have sp:=spc.holds hcond.1;simp only at hk;split at hk
      .rename_i rs hrs;have hrs':=hrs;rw[tW,J.pv] at hrs';simp only[ch,ak] at hrs';split at hk
       .rename_i hb;simp only[av] at hb;have hq0:=aw hb.1.2;refine ⟨_,_,_,_,_,hk,?_⟩;rw[<- hrs'];exact ag9 hinv sp (wH hM) I hy J (by omega) hq0 hb.2 _ hla λφ E h' w a=>hexec φ E h' w a sp.callable
       .split at hk
        .rename_i h2 U;obtain⟨hsr,hk⟩:=dZ hk;refine ⟨_,_,_,_,_,hk,?_⟩;rw[<- hrs'];unfold MS at U;rw[wu,J.pb] at U;simp only[ch,ak] at U;exact act hinv sp (wH hM) I hcond.2 hy J hle (λi hi=>by
          have:gq i c.pre.bs.length=ai:=bF hi;simp only[this,bG]) (λi hi=>by
          have:gq i c.pre.bs.length=aj:=by
           cases hb:gq i c.pre.bs.length with
           |false=>rfl
           |true=>have:=a8 hb;omega
          simp only[this];rfl) U.symm hsr hla λφ E h' w a=>hexec φ E h' w a sp.callable
        .cases hk
      .cases hk
     .rename_i hcond;split at hk
      .rename_i hro;simp only[av] at hro;have hq0:=aw hro.1;have hng:=FU hro.2;have sp:pV P f c.full:=by
        unfold aH at spc
        rwa [ay (λhb=>hcond (by rw[hb,hng];rfl))] at spc
       simp only at hk;split at hk
       .rename_i rs hrs;split at hk
        .rename_i h2 U;have hrs':=hrs;rw[tW,J.pv] at hrs';simp only[ch,ak] at hrs';refine ⟨_,_,_,_,_,hk,?_⟩;rw[<- hrs'];have M:=wH hM;unfold MS at U;rw[wu,I.pb] at U;simp only[ch,ak] at U;have hqe:∀ i,Z.get i=ah:=λi=>by
          cases hb:Z.get i with
          |none=>rfl
          |some b=>have:=J.lt_len hb;omega
         have J':qT c.full.post (UH (PV.tyL c.post.vs) (PB.tyL c.pre.bs) (O5 _ _ y) (Lu _ _ x)) rs1 hp l1:=
          ⟨by show qd H3 c.post.vs (O5 (PV.tyL c.post.vs) (PB.tyL c.pre.bs) _)=_;rw[tQ];exact J.pv,by show oF H3 c.pre.bs (Lu (PV.tyL c.post.vs) (PB.tyL c.pre.bs) _)=_;rw[vk];exact I.pb,I.len,I.at_,iX (λi r hr=>by rw[bU,hqe] at hr;cases hr) _ J.ok,wK (by omega) _ J.lt,I.cells⟩
         obtain⟨x1,m1,x2,m2,hx,hmm,gv,gb⟩:=M.ex;obtain⟨l,q1,q2,q3⟩:=M9 (g':=H3) c.pre.bs 0 x2 m2 hro.2 gb;have hl1:l1=l:=by
          have:=I.pb;rw[hx,vk,q1] at this;cases this;rfl
         subst hl1;have hgi:∀ i,i<c.pre.bs.length->(if gq i c.pre.bs.length then ij σ i else nx+(i-c.pre.bs.length))=ij σ i:=λi hi=>by
          have:gq i c.pre.bs.length=ai:=bF hi;simp only[this,bG]
         have hsame:∀ i,i<c.pre.bs.length->h2.get (ij σ i)=h.get (ij σ i):=λi hi=>by
          obtain⟨ty,p,T,xs,w1,Y⟩:=q3 i hi;rw[bN] at Y;have:=vq (λi=>if gq i c.pre.bs.length then ij σ i else nx+(i-c.pre.bs.length)) (l1.map (lU (lX (λi=>if gq i c.pre.bs.length then ij σ i else nx+(i-c.pre.bs.length))))) 0 (eD m h) (λa b ha hb e=>by
           simp only[bR,q2] at ha hb;rw[bN,bN,hgi a ha,hgi b hb] at e;exact M.inj a b ha hb e) i (af (.rows ty p T xs)) (by rw[ba,w1];rfl)
          rw[bN,hgi i hi] at this;rw[<- U,this,Y]
         have t:=act (o:=o) (e:=e) hinv sp M I hng (y:=UH (PV.tyL c.post.vs) (PB.tyL c.pre.bs) (O5 _ _ y) (Lu _ _ x)) (by show obind (c.m x) _=_;rw[hy];rfl) J' (bV _) (g:=λi=>if gq i c.pre.bs.length then ij σ i else nx+(i-c.pre.bs.length)) hgi (λi hi=>by
          have:gq i c.pre.bs.length=aj:=by
           cases hb:gq i c.pre.bs.length with
           |false=>rfl
           |true=>have:=a8 hb;have hi:c.pre.bs.length<=i:=hi;omega
          simp only[this];rfl) U.symm (FM _ λi hi=>by rw[hgi i hi];exact hsame i hi) hla λφ E h' w a=>hexec φ E h' w a sp.callable
         have t':jk P o aj e h nx (QE (kA (λi=>if gq i c.pre.bs.length then ij σ i else nx+(i-c.pre.bs.length)) rs1)) (sm|||m) (sm|||m|||(((1<<<(c.pre.bs.length-c.pre.bs.length))-1)<<<nx)) h2 (nx+(c.pre.bs.length-c.pre.bs.length)):=t;rw[HN,dv] at t';refine t'.drop (W:=sm) (λi hi=>?_) (λi hi=>?_)
         .refine ⟨?_,by rw[bu,hi];rfl⟩;obtain⟨k,hk,rfl⟩:=(M.sig i).1 hi;obtain⟨ty,p,T,xs,_,Y⟩:=q3 k hk;rw[bN] at Y;rw[bK,bK,hsame k hk,Y];rfl
         .simp only[Nat.shiftLeft_zero,HN,Nat.zero_shiftLeft,Nat.or_zero,bu,iU] at hi;exact hi
        .cases hk
       .cases hk
      .cases hk
    .cases hk
   .cases hk
  .cases hk
 .cases hk
theorem aj1 {R:Type} {P:Program} {con:FuncId->Option cg} (hcon:Lk P con) {bY:TypeId->Option Ty} {o:Oper} {e:iP} {h:bl} {nx:Nat} {i:SI} {K:KO R} {r:R} (hinv:me h nx) (hi:tU e h) (hc:yG P o.op=i) (hk:dX con bY i e h nx K=af r):kR P o i.still e h nx K r:=by
 have callOps:∀ (c:Call),o.op= .call c->∀ x,x∈c.operands->x∈o.op.operands:=λc I x J=>by rw[I];exact J
 cases i with
 |call f args=>
  simp only[dX] at hk;split at hk
  .rename_i l hl;have I:∃ c:Call,o.op= .call c/\c.callee= .value (.func f)/\c.args.toList=args:=by
    unfold yG at hc;split at hc
    .rename_i i hi;subst hc;unfold PK at hi;split at hi
     .rename_i c I;split at hi
      .rename_i g hg;simp only[ak,SI.call.injEq] at hi;exact⟨c,I,by rw[hg,hi.1],hi.2⟩
      .simp at hi
      .cases hi
     .cases hi
    .split at hc<;>cases hc
   obtain⟨c,I,h1,h2⟩:=I;obtain⟨la,Z,Y⟩:=yZ hi hl;refine XU hcon hinv hk Y λφ E h' w a hcb hops hrep=>?_
   have hp:Wx φ E h' w a (JH e h) o:=λx y J U=>tR hrep (by rw[vB];exact hops) J U
   refine ⟨args.map a.eval,?_,Pa hp args la (λx J=>callOps c I x (by simp[eS,h1,<-h2] at J ⊢;exact .inr J)) Z⟩;unfold execOp;rw[I];have hm:c.args.map a.eval=(args.map a.eval).toArray:=by rw[<- h2];apply Lo;simp
   simp[resolve,h1,Act.eval,Deferred.ofValue,invoke,hm,xu hcb]
  .cases hk
 |callv x args=>
  simp only[dX] at hk;split at hk
  .rename_i f cap l J hl;have I:∃ c:Call,o.op= .call c/\c.callee= .value x/\c.args.toList=args:=by
    unfold yG at hc;split at hc
    .rename_i i hi;subst hc;unfold PK at hi;split at hi
     .rename_i c I;split at hi
      .simp at hi
      .rename_i g hg;simp only[ak,SI.callv.injEq] at hi;exact⟨c,I,by rw[hg,hi.1],hi.2⟩
      .cases hi
     .cases hi
    .split at hc<;>cases hc
   obtain⟨c,I,h1,h2⟩:=I;obtain⟨la,Z,Y⟩:=yZ hi hl;obtain⟨yx,g3,M⟩:=bM hi J;simp only[cr] at M;split at M
   .rename_i lc hlc;simp only[ak] at M;subst M;refine XU hcon hinv hk (nu Y hlc) λφ E h' w a hcb hops hrep=>?_
    have hp:Wx φ E h' w a (JH e h) o:=λx y J U=>tR hrep (by rw[vB];exact hops) J U
    have hxv:=hp x _ (callOps c I x (by simp[eS,h1])) g3;have hlv:=Pa hp args la (λx J=>callOps c I x (by simp[eS,h1,<-h2] at J ⊢;exact .inr J)) Z;generalize hz:a.eval x=z at hxv;cases hxv with
    |@clo _ _ vs hvl hvr=>
     refine ⟨args.map a.eval++vs,?_,hlv.append (jX.of hvl hvr)⟩;unfold execOp;rw[I];have hm:c.args.map a.eval=(args.map a.eval).toArray:=by rw[<- h2];apply Lo;simp
     simp[resolve,h1,hz,Deferred.ofValue,invoke,hm,xu hcb]
   .cases M
  .cases hk
 |op s=>
  have hc:s= .bad\/du P o.op=af s:=by
   unfold yG at hc;split at hc
   .rename_i i hi;subst hc;unfold PK at hi;split at hi
    .split at hi<;>simp at hi
    .cases hi
   .split at hc
    .rename_i q hq;simp only[SI.op.injEq] at hc;subst hc;exact .inr hq
    .simp only[SI.op.injEq] at hc;exact .inl hc.symm
  rcases hc with rfl|hc
  .simp[dX] at hk
  .exact K_op hinv hi hc hk
def gA (am:Nat) (e e':iP):Prop:=∀ k,aN am k=aj->∀ I,e'.get k=af I->∃ v,e.get k=af v/\(ux v=ai->I=v)
theorem gA.refl (am:Nat) (e:iP):gA am e e:=λ_ _ I h=>⟨I,h,λ_=>rfl⟩
theorem gA.trans {am:Nat} {a b c:iP} (h1:gA am a b) (h2:gA am b c):gA am a c:=λk hk J hv=>by
 obtain⟨I,Z,Y⟩:=h2 k hk J hv;obtain⟨v,U,M⟩:=h1 k hk I Z;refine ⟨v,U,λhf=>?_⟩;have:=M hf;subst this;exact Y hf
theorem gA.mono {am am':Nat} {a b:iP} (h:gA am a b) (hm:∀ k,aN am k=ai->aN am' k=ai):gA am' a b:=λk hk=>h k (by
 cases I:aN am k with
 |false=>rfl
 |true=>rw[hm k I] at hk;cases hk)
structure adg (P:Program) (ops:Array Oper) (rest:List Oper) (sl:List sQ) (am:Nat) (s s':TS) (fs:List FPm) (l:List (Oper×BI)):Prop where
 ops_:l.map (·.1)=rest
 chain:Ae P ops l (fX s.e s.h) (bD s.h) (fX s'.e s'.h) (bD s'.h)
 fsl:fs.length=l.length
 sll:sl.length=l.length
 fp:∀ (j:Nat) o f q,l[j]? =af (o,f)->fs[j]? =af q->(∀ n∈f.rd,aN q.rd (ow n)=ai)/\∀ n∈f.wr,aN q.wr (ow n)=ai
 still:∀ (j:Nat) o f so,l[j]? =af (o,f)->sl[j]? =af so->so.op.still=ai->f.rd=[]/\f.wr=[]
 names:∀ (j:Nat) o f,l[j]? =af (o,f)->∀ n∈f.N,s.nx<=ow n/\ow n<s'.nx
 apart_:∀ (i j:Nat) oi fi oj fj,i<j->l[i]? =af (oi,fi)->l[j]? =af (oj,fj)->∀ n∈fi.N,n∉fj.N
 grows:s.nx<=s'.nx
 invH:me s'.h s'.nx
 invE:tU s'.e s'.h
 keeps:gA am s.e s'.e
theorem aet {e:iP} {h h':bl} (hi:tU e h) (hr:cq h h') (d:Option Nat) {v:TV} {y:AV} (hv:cr h' v=af y):CV (fX e h) d y=fX (Ez e d v) h':=by
 funext t;have old:(e.get t).bind (cr h)=(e.get t).bind (cr h'):=by
  cases ht:e.get t with
  |none=>rfl
  |some x=>
   obtain⟨z,I⟩:=qf h x (hi t x ht);simp only[aI,I,gH hr x z I]
 cases d with
 |none=>simp only[CV,Ez,fX];rw[ay (by simp)];exact old
 |some d=>
  simp only[CV,Ez,fX,PT.get_set,ak];by_cases hd:d=t
  .subst hd;simp[hv]
  .rw[ay hd,ay (λe=>hd e.symm)];exact old
theorem tU.put {e:iP} {h h':bl} (hi:tU e h) (hr:cq h h') (d:Option Nat) {v:TV} (hv:LB h' v=ai):tU (Ez e d v) h':=λt x I=>by
 cases d with
 |none=>exact oG hr x (hi t x I)
 |some d=>
  simp only[Ez,PT.get_set] at I;split at I
  .cases I;exact hv
  .exact oG hr x (hi t x I)
theorem RO {e:iP} {h:bl} {t:Nat} {v:TV} (ht:e.get t=af v):fX (e.set t (af v)) h=fX e h:=by
 funext k;simp only[fX,PT.get_set];by_cases hk:k=t
 .subst hk;simp[ht]
 .rw[ay hk]
theorem tU.set {e:iP} {h:bl} {t:Nat} {v:TV} (hi:tU e h) (ht:e.get t=af v):tU (e.set t (af v)) h:=λk x I=>by
 rw[PT.get_set] at I;split at I
 .rename_i hk;subst hk;cases I;exact hi _ _ ht
 .exact hi k x I
theorem Uf {R:Type} {e:iP} {g:Option (Nat×Bool)} {K:Bool->iP->Option R} {r:R} (h:aab e g K=af r):
 (g=ah/\K ai e=af r)\/(∃ t want b,g=af (t,want)/\e.get t=af (.f .bool b)/\K (b==want) (e.set t (af (.f .bool b)))=af r)\/∃ t want,g=af (t,want)/\e.get t=af .undef/\K aj e=af r:=by
 unfold aab at h;split at h
 .exact .inl ⟨rfl,h⟩
 .rename_i t want;split at h
  .rename_i b hb;refine .inr (.inl ⟨t,want,b,rfl,hb,?_⟩);cases want with
   |true=>rcases pB h with ⟨rfl,h⟩|⟨rfl,h⟩<;>exact h
   |false=>rcases pB h with ⟨rfl,h⟩|⟨rfl,h⟩<;>exact h
  .rename_i hb;exact .inr (.inr ⟨t,want,rfl,hb,h⟩)
  .cases h
theorem ID {R:Type} {P:Program} {con:FuncId->Option cg} (hcon:Lk P con) {bY:TypeId->Option Ty} {ops:Array Oper} {am:Nat} (ham:∀ (j:Nat) (o:Oper) (d:Nat),ops[j]? =af o->o.dst=af d->aN am d=ai):
 ∀ (rest:List Oper) (sl:List sQ) (s:TS) (fs:List FPm) (K:TS->List FPm->Option R) (r:R),(∀ o∈rest,∃ j:Nat,ops[j]? =af o)->sg P ops rest=af sl->Ly con bY sl s fs K=af r->me s.h s.nx->tU s.e s.h->∃ s' fs' l,K s' (fs.reverse++fs')=af r/\adg P ops rest sl am s s' fs' l
 |[],sl,s,fs,K,r,hin,hc,hk,hH,M=>by
  simp only[sg,ak] at hc;subst hc;simp only[Ly] at hk;exact⟨s,[],[],by simpa using hk,rfl,.nil _ _,rfl,rfl,by simp,by simp,by simp,by simp,bV _,hH,M,gA.refl _ _⟩
 |o::rest,sl,s,fs,K,r,hin,hc,hk,hH,M=>by
  simp only[sg] at hc;split at hc
  .rename_i sl' hsl';have hso:∃ g,sl=⟨o.dst,yG P o.op,g⟩::sl'/\((g=ah/\o.guard=ah)\/∃ j want t,g=af (t,want)/\o.guard=af (j,want)/\(ops[j]?).bind (·.dst)=af t):=by
    split at hc
    .rename_i hg;simp only[ak] at hc;exact⟨ah,hc.symm,.inl ⟨rfl,hg⟩⟩
    .rename_i j want hg;split at hc
     .rename_i t ht;simp only[ak] at hc;exact⟨af (t,want),hc.symm,.inr ⟨j,want,t,rfl,hg,ht⟩⟩
     .cases hc
   obtain⟨g,rfl,hg⟩:=hso;simp only[Ly] at hk;have hdst:∀ d,o.dst=af d->aN am d=ai:=λd hd=>by
    obtain⟨j,hj⟩:=hin o (dk ..);exact ham j o d hj hd
   have hgs:∀ t want,g=af (t,want)->aN am t=ai:=λt want hgt=>by
    rcases hg with ⟨h1,_⟩|⟨j,want',t',h1,_,I⟩
    .rw[h1] at hgt;cases hgt
    .rw[h1] at hgt;cases hgt;cases hj:ops[j]? with
     |none=>rw[hj] at I;cases I
     |some oj=>rw[hj] at I;exact ham j oj t hj I
   have kput:∀ (e:iP) (v:TV),gA am s.e e->gA am s.e (Ez e o.dst v):=λe v hke k hk v' hv=>by
    cases hd:o.dst with
    |none=>rw[hd] at hv;exact hke k hk v' hv
    |some d=>
     rw[hd] at hv;simp only[Ez,PT.get_set] at hv;split at hv
     .rename_i e2;rw[e2,hdst d hd] at hk;cases hk
     .exact hke k hk v' hv
   have done:∀ (f:BI) (v:TV) (h':bl) (nx' rd wr:Nat) (e:iP),fX e s.h=fX s.e s.h->tU e s.h->gA am s.e e->K4 P ops o f (fX s.e s.h) (bD s.h)->(∃ y,cr h' v=af y/\f.val=y)->eT (bD s.h) f.wr f.nw=bD h'->(∀ n∈f.rd,aN rd (ow n)=ai)->(∀ n∈f.wr,aN wr (ow n)=ai)->(∀ n∈f.N,s.nx<=ow n/\ow n<nx')->cq s.h h'->me h' nx'->s.nx<=nx'->((yG P o.op).still=ai->f.rd=[]/\f.wr=[])->
    Ly con bY sl' ⟨Ez e o.dst v,h',nx'⟩ (⟨rd,wr⟩::fs) K=af r->∃ s' fs' l,K s' (fs.reverse++fs')=af r/\adg P ops (o::rest) (⟨o.dst,yG P o.op,g⟩::sl') am s s' fs' l:=by
    intro f v h' nx' rd wr e hee hiE hke hst hval hheap hrd hwr hN hrows hinv' hgr hstill hrun;obtain⟨y,U,hy2⟩:=hval;obtain⟨s',fs',l,J,L⟩:=ID hcon ham rest sl' _ _ K r (λo' ho'=>hin o' (cI _ ho')) hsl' hrun hinv' (hiE.put hrows o.dst (Fg _ _ _ U));have hg2:nx'<=s'.nx:=L.grows;refine ⟨s',⟨rd,wr⟩::fs',(o,f)::l,by simpa using J,by simp[L.ops_],.cons hst ?_,by simp[L.fsl],by simp[L.sll],?_,?_,?_,?_,di hgr hg2,L.invH,L.invE,(kput e v hke).trans L.keeps⟩
    .have e1:CV (fX s.e s.h) o.dst f.val=fX (Ez e o.dst v) h':=by rw[<- hee,hy2];exact aet hiE hrows o.dst U
     rw[e1,hheap];exact L.chain
    .intro j o' f' q' h1 h2;cases j with
     |zero=>simp at h1 h2;obtain⟨rfl,rfl⟩:=h1;subst h2;exact⟨hrd,hwr⟩
     |succ j=>exact L.fp j o' f' q' (by simpa using h1) (by simpa using h2)
    .intro j o' f' so h1 h2 I;cases j with
     |zero=>simp at h1 h2;obtain⟨rfl,rfl⟩:=h1;subst h2;exact hstill I
     |succ j=>exact L.still j o' f' so (by simpa using h1) (by simpa using h2) I
    .intro j o' f' h1 n hn;cases j with
     |zero=>
      simp at h1;obtain⟨rfl,rfl⟩:=h1;have:=hN n hn;exact⟨this.1,by omega⟩
     |succ j=>
      have:=L.names j o' f' (by simpa using h1) n hn;exact⟨di hgr this.1,this.2⟩
    .intro i j oi fi oj fj hij h1 h2 n hn Y;cases j with
     |zero=>omega
     |succ j=>
      have hj:=L.names j oj fj (by simpa using h2) n Y;cases i with
      |zero=>
       simp at h1;obtain⟨rfl,rfl⟩:=h1;have I:=(hN n hn).2;have Z:nx'<=ow n:=hj.1;omega
      |succ i=>exact L.apart_ i j oi fi oj fj (by omega) (by simpa using h1) (by simpa using h2) n hn Y
   have runs:∀ (e:iP),fX e s.h=fX s.e s.h->tU e s.h->gA am s.e e->(∀ f,gQ P o (fX s.e s.h) (bD s.h) f->K4 P ops o f (fX s.e s.h) (bD s.h))->dX con bY (yG P o.op) e s.h s.nx (λv rd wr h nx=>if LB h v then Ly con bY sl' ⟨Ez e o.dst v,h,nx⟩ (⟨rd,wr⟩::fs) K else ah)=af r->∃ s' fs' l,K s' (fs.reverse++fs')=af r/\adg P ops (o::rest) (⟨o.dst,yG P o.op,g⟩::sl') am s s' fs' l:=by
    intro e hee hiE hke hstep hk;obtain⟨v,rd,wr,h',nx',J,T⟩:=aj1 hcon hH hiE rfl hk;simp only[] at J;split at J
    .rename_i hok;obtain⟨f,t1,t2,t3,t4,t5,t6⟩:=T.ex;rw[hee] at t1;obtain⟨y,hy⟩:=qf h' v hok;refine done f v h' nx' rd wr e hee hiE hke (hstep f t1) ⟨y,hy,t2 y hy⟩ t3 t4 t5 t6 T.rows T.inv T.grows (λhs=>?_) J;obtain⟨r0,w0⟩:=T.st hs;subst r0;subst w0;constructor
     .cases hl:f.rd with
      |nil=>rfl
      |cons n q=>have:=t4 n (by rw[hl];simp);simp at this
     .cases hl:f.wr with
      |nil=>rfl
      |cons n q=>have:=t5 n (by rw[hl];simp);simp at this
    .cases J
   have skips:∀ (e:iP),fX e s.h=fX s.e s.h->tU e s.h->gA am s.e e->K4 P ops o rY (fX s.e s.h) (bD s.h)->Ly con bY sl' ⟨Ez e o.dst .undef,s.h,s.nx⟩ (⟨0,0⟩::fs) K=af r->∃ s' fs' l,K s' (fs.reverse++fs')=af r/\adg P ops (o::rest) (⟨o.dst,yG P o.op,g⟩::sl') am s s' fs' l:=by
    intro e hee hiE hke hstep hk;exact done rY .undef s.h s.nx 0 0 e hee hiE hke hstep ⟨_,rfl,rfl⟩ (by funext i;simp[eT,rY]) (by simp[rY]) (by simp[rY]) (by simp[rY]) (cq.refl _) hH (bV _) (λ_=>⟨rfl,rfl⟩) hk
   rcases Uf hk with ⟨h1,hk⟩|⟨t,want,b,h1,hb,hk⟩|⟨t,want,h1,hb,hk⟩
   .refine runs s.e rfl M (gA.refl _ _) (λf hf=>?_) hk;rcases hg with ⟨_,hg⟩|⟨j,want,t,h2,_,_⟩
    .exact .run hg hf
    .rw[h1] at h2;cases h2
   .rcases hg with ⟨h2,_⟩|⟨j,want',t',h2,I,Z⟩
    .rw[h1] at h2;cases h2
    .rw[h1] at h2;cases h2;have hgt:=hgs t want h1;have heb:fX s.e s.h t=af (.f (.raw (.bool b))):=by simp only[fX,hb,aI,cr];rfl
     have hke:gA am s.e (s.e.set t (af (.f .bool b))):=λk hk v' hv=>by
      rw[PT.get_set] at hv;split at hv
      .rename_i ek;rw[ek,hgt] at hk;cases hk
      .exact⟨v',hv,λ_=>rfl⟩
     cases hbw:(b==want) with
     |true=>
      rw[hbw] at hk;have:b=want:=by simpa using hbw
      subst this;exact runs _ (RO hb) (M.set hb) hke (λf hf=>.runG j t b I Z heb hf) hk
     |false=>
      rw[hbw] at hk;refine skips _ (RO hb) (M.set hb) hke (.skip j t want I Z (.bool b) heb ?_ rfl) hk;intro hv;cases hv;simp at hbw
   .rcases hg with ⟨h2,_⟩|⟨j,want',t',h2,I,Z⟩
    .rw[h1] at h2;cases h2
    .rw[h1] at h2;cases h2;exact skips _ rfl M (gA.refl _ _) (.skip j t want I Z undef (by simp only[fX,hb,aI,cr]) (by unfold undef;simp) rfl) hk
  .cases hc
theorem af3 {P:Program} {ops:Array Oper} {sl:List sQ} {am:Nat} {s s':TS} {fs:List FPm} {l:List (Oper×BI)} {prs:List (Nat×Nat)} (hl:adg P ops ops.toList sl am s s' fs l) (hp:MT ops sl=af prs) (hok:FO fs prs=ai):NIP ops l:=by
 unfold MT at hp;simp only[] at hp;split at hp
 .rename_i hall;simp only[gx,lj,av] at hall;simp only[ak] at hp;have hop:∀ (j:Nat) o f,l[j]? =af (o,f)->ops[j]? =af o:=λj o f hj=>by
   have h1:(l.map (·.1))[j]? =af o:=by rw[ba,hj];rfl
   rw[hl.ops_] at h1;simpa using h1
  have hsize:∀ (j:Nat) o,ops[j]? =af o->j<ops.size:=λj o h=>(cG.1 h).1
  have hprs:∀ i j,(i,j)∈prs->∃ a b,fs[i]? =af a/\fs[j]? =af b/\DS a.wr b.rd=ai/\DS a.wr b.wr=ai/\DS b.wr a.rd=ai:=by
   clear hp hall;induction prs with
   |nil=>intro i j h;cases h
   |cons p prs ih=>
    obtain⟨i0,j0⟩:=p;simp only[FO,av,Xz] at hok;intro i j hm;rcases bp.1 hm with h|h
    .cases h;have h1:=hok.1;split at h1
     .rename_i a b Z hb;simp only[av] at h1;exact⟨a,b,Z,hb,h1.1.1,h1.1.2,h1.2⟩
     .cases h1
    .exact ih hok.2 i j h
  refine ⟨λj o ho e he hb=>?_,λi j oi fi oj fj hij hi hj=>?_,hl.apart_⟩
  .have:=(hall j (hsize j o ho)).1;rw[ho] at this;simp only[Option.all_some,gx] at this;have:=this e (by simpa using he);simp[hb] at this;exact this
  .have h1:=hop i oi fi hi;have h2:=hop j oj fj hj;have hcase:=(hall j (hsize j oj h2)).2 i hij;rw[h1,h2] at hcase;simp only[iU] at hcase;by_cases M:aN ((KQ ops.toList []).getD j 0) i=ai
   .left;rw[aA] at M;cases I:(KQ ops.toList [])[j]? with
    |none=>rw[I] at M;simp at M
    |some B=>
     rw[I] at M;exact NK (ops:=ops) ops.toList [] (λj o hj=>by simpa using hj) (λj B hj=>by simp at hj) j B I i (by simpa using M)
   .right;have hap:=hcase.resolve_left M;refine ⟨hap,?_⟩;have hil:i<l.length:=(bn.1 hi).1;have hjl:j<l.length:=(bn.1 hj).1;have hsi:=aB (show i<sl.length by rw[hl.sll];exact hil);have hsj:=aB (show j<sl.length by rw[hl.sll];exact hjl);by_cases hst:(sl[i]'(by rw[hl.sll];exact hil)).op.still=ai
    .obtain⟨Y,U⟩:=hl.still i oi fi _ hi hsi hst;rw[Y,U];exact⟨(λx I=>by cases I),(λx _ I=>by cases I)⟩
    .by_cases hst2:(sl[j]'(by rw[hl.sll];exact hjl)).op.still=ai
     .obtain⟨Y,U⟩:=hl.still j oj fj _ hj hsj hst2;rw[Y,U];exact⟨(λx I=>⟨(by simp),(by simp)⟩),(λx I=>by cases I)⟩
     .have hmem:(i,j)∈prs:=by
       rw[<- hp,vg];refine ⟨j,lj.2 (hsize j oj h2),?_⟩;rw[List.mem_filterMap];refine ⟨i,lj.2 hij,?_⟩;rw[ay];rw[hsi,hsj];simp only[iU,not_or];exact⟨M,hst,hst2⟩
      obtain⟨a,b,Z,hb,d1,d2,d3⟩:=hprs i j hmem;obtain⟨f1,f2⟩:=hl.fp i oi fi a hi Z;obtain⟨g1,g2⟩:=hl.fp j oj fj b hj hb;refine ⟨λx I=>⟨λJ=>?_,λJ=>?_⟩,λx I J=>?_⟩
      .have:=xV d1 (ow x) (f2 x I);rw[g1 x J] at this;cases this
      .have:=xV d2 (ow x) (f2 x I);rw[g2 x J] at this;cases this
      .have:=xV d3 (ow x) (g2 x I);rw[f1 x J] at this;cases this
 .cases hp
structure oS (P:Program) (E:Nat->Prop) (nt np:Nat) (φ:PM) (s:TS) (a:Act) (w:World):Prop where
 rep:ri φ E (bD s.h) w
 env:NU φ (tot E φ (bD s.h)) w (fX s.e s.h) a
 dom:∀ n k,φ n=af k->ow n<s.nx
 low:np<=s.nx
 invH:me s.h s.nx
 invE:tU s.e s.h
 inert:∀ d∈a.defers,ady P d
 size:a.tmps.size=nt
structure Cx (np:Nat) (φ φ':PM) (H H':HF) (w w':World):Prop where
 ext:Lh (own φ H) w w'
 own_:∀ k,k<w.heap.size->own φ' H' k->own φ H k
 par:∀ i,i<np->φ' (nm i)=φ (nm i)
theorem Cx.refl (np:Nat) (φ:PM) (H:HF) (w:World):Cx np φ φ H H w w:=⟨Lh.refl _ _,λ_ _ h=>h,λ_ _=>rfl⟩
theorem Cx.trans {np:Nat} {φ φ' φ'':PM} {H H' H'':HF} {w w' w'':World} (a:Cx np φ φ' H H' w w') (b:Cx np φ' φ'' H' H'' w' w''):Cx np φ φ'' H H'' w w'' where
 ext:=⟨b.ext.os.trans a.ext.os,b.ext.tape.trans a.ext.tape,b.ext.output.trans a.ext.output,di a.ext.size b.ext.size,
  λk hk I=>(b.ext.blk k (dD hk a.ext.size) (λh=>I (a.own_ k hk h))).trans (a.ext.blk k hk I),
  λk hk=>(b.ext.shp k (dD hk a.ext.size)).trans (a.ext.shp k hk)⟩
 own_:=λk hk h=>a.own_ k hk (b.own_ k (dD hk a.ext.size) h)
 par:=λi hi=>(b.par i hi).trans (a.par i hi)
theorem aav {R:Type} {P:Program} {E:Nat->Prop} {nt np:Nat} {φ:PM} {s:TS} {a:Act} {w:World} {con:FuncId->Option cg} {bY:TypeId->Option Ty} (hm:P.follows .mixedOrders=ai) (hcon:Lk P con) (c:oS P E nt np φ s a w) {id:Nat} {ops:Array Oper} {draw:Bool} {sl:List sQ} {prs:List (Nat×Nat)} {am:Nat} (ham:∀ (j:Nat) (o:Oper) (d:Nat),ops[j]? =af o->o.dst=af d->aN am d=ai)
 (hd:(ops.toList.all λo=>match o.dst with|some d=>decide (d<nt)|none=>ai)=ai) (hc:sg P ops ops.toList=af sl) (hp:MT ops sl=af prs) {K:TS->Option R} {r:R} (hr:Ly con bY sl s [] (λs' fs=>if FO fs prs then K s' else ah)=af r) {Q:Exit->Act->World->Prop}
 (hQ:∀ a' w' s' φ',K s'=af r->oS P E nt np φ' s' a' w'->Cx np φ φ' (bD s.h) (bD s'.h) w w'->gA am s.e s'.e->Q .normal a' w'):(Code.region id ops draw).wp P Q a w:=by
 obtain⟨s',fs',l,J,L⟩:=ID hcon ham ops.toList sl s [] _ r (λo U=>by
  obtain⟨j,hj⟩:=e_ U;exact⟨j,by simpa using hj⟩) hc hr c.invH c.invE
 have J:(if FO fs' prs then K s' else ah)=af r:=J;by_cases hok:FO fs' prs=ai
 .rw[aE hok] at J;refine QH (φ0:=φ) (E:=E) hm L.ops_ L.chain (af3 L hp hok) ?_ ?_ c.rep c.env ?_
  .intro n hn;obtain⟨p,I,hn⟩:=vg.1 hn;obtain⟨j,hj⟩:=e_ I;have:=L.names j p.1 p.2 hj n hn;cases M:φ n with
   |none=>rfl
   |some k=>have:=c.dom n k M;omega
  .intro j o U d Y;have:=gx.1 hd o (by have:=Array.mem_of_getElem? U;simpa using this);rw[Y] at this;rw[c.size];simpa using this
  .rintro a' w' ⟨φ',m',d',Z,en',df',sz'⟩;have hnm:∀ n k,φ' n=af k->φ n=af k\/(s.nx<=ow n/\ow n<s'.nx):=λn k hik=>by
    rcases d' n k hik with h|h
    .exact .inl h
    .obtain⟨p,I,hn⟩:=vg.1 h;obtain⟨j,hj⟩:=e_ I;exact .inr (L.names j p.1 p.2 hj n hn)
   have hg:=L.grows;have hlow:=c.low;refine hQ a' w' s' φ' J ⟨Z,en',λn k hik=>?_,by omega,L.invH,L.invE,by rw[df'];exact c.inert,by rw[sz'];exact c.size⟩ ⟨m'.ext,m'.own_,λi hi=>?_⟩ L.keeps
   .rcases hnm n k hik with h|h
    .have:=c.dom n k h;omega
    .exact h.2
   .cases M:φ (nm i) with
    |some k=>exact m'.sub _ _ M
    |none=>
     cases hy:φ' (nm i) with
     |none=>rfl
     |some k=>
      rcases hnm (nm i) k hy with h|h
      .rw[M] at h;cases h
      .rw[ef] at h;omega
 .rw[ay hok] at J;cases J
theorem Aa:∀ (l:List sQ) (acc:Nat),PO l acc=acc|||PO l 0
 |[],acc=>by simp[PO]
 |o::r,acc=>by
  simp only[PO];cases o.dst with
  |none=>exact Aa r acc
  |some d=>simp only[];rw[Aa r (acc|||kQ d),Aa r (0|||kQ d),yI,kF]
theorem Aq:∀ (l:List Nat) (acc:Nat),LF l acc=acc|||LF l 0
 |[],acc=>by simp[LF]
 |k::r,acc=>by simp only[LF];rw[Aq r (acc|||kQ k),Aq r (0|||kQ k),yI,kF]
theorem mc:∀ (l:List Adj) (acc:Nat),oz l acc=acc|||oz l 0
 |[],acc=>by simp[oz]
 |.nil k _ _::r,acc=>by simp only[oz];rw[mc r (acc|||kQ k),mc r (0|||kQ k),yI,kF]
 |.cel _ _ _ _::r,acc=>by simp only[oz];exact mc r acc
 |.mpt _ _ _::r,acc=>by simp only[oz];exact mc r acc
 |.ren k _::r,acc=>by simp only[oz];rw[mc r (acc|||kQ k),mc r (0|||kQ k),yI,kF]
 |.pk _ _ _::r,acc=>by simp only[oz];exact mc r acc
theorem iH:∀ (c:TC) (acc:Nat),c.asg acc=acc|||c.asg 0
 |.reg ops _,acc=>Aa ops acc
 |.seq a b,acc=>by simp only[TC.asg];rw[iH b (a.asg acc),iH b (a.asg 0),iH a acc,kF]
 |.jseq A a b,acc=>by simp only[TC.asg];rw[iH b (a.asg _),iH b (a.asg (LF A.ks 0)),iH a (LF A.ks acc),iH a (LF A.ks 0),Aq A.ks acc,kF,kF,kF]
 |.cond _ a b,acc=>by simp only[TC.asg];rw[iH b (a.asg acc),iH b (a.asg 0),iH a acc,kF]
 |.block _ b,acc=>iH b acc
 |.jblock A _ b,acc=>by simp only[TC.asg];rw[iH b (LF A.ks acc),iH b (LF A.ks 0),Aq A.ks acc,kF]
 |.loop A b,acc=>by simp only[TC.asg];rw[iH b (LF A.ks acc),iH b (LF A.ks 0),Aq A.ks acc,kF]
 |.defer _ _ t,acc=>by simp[TC.asg]
 |.adj l c,acc=>by simp only[TC.asg];rw[iH c (oz l acc),iH c (oz l 0),mc l acc,kF]
 |.split _ _ _ _ c,acc=>iH c acc
 |.unl _ b,acc=>iH b acc
 |.skip,acc=>by simp[TC.asg]
 |.exit _,acc=>by simp[TC.asg]
 |.ret,acc=>by simp[TC.asg]
 |.bad,acc=>by simp[TC.asg]
theorem vH {c:TC} {acc k:Nat} (h:aN (c.asg 0) k=ai):aN (c.asg acc) k=ai:=by rw[iH,bu,h];simp
theorem kn {c:TC} {acc k:Nat} (h:aN acc k=ai):aN (c.asg acc) k=ai:=by rw[iH,bu,h];rfl
theorem Xn:∀ {l:List Nat} {acc k:Nat},k∈l->aN (LF l acc) k=ai
 |[],_,_,h=>by cases h
 |x::r,acc,k,h=>by
  simp only[LF];rcases bp.1 h with rfl|h
  .rw[Aq,bu,bu,b7.2 rfl];simp
  .exact Xn h
theorem Tf:∀ {l:List sQ} {acc:Nat} {o:sQ} {d:Nat},o∈l->o.dst=af d->aN (PO l acc) d=ai
 |[],_,_,_,h,_=>by cases h
 |x::r,acc,o,d,h,hd=>by
  simp only[PO];rcases bp.1 h with rfl|h
  .rw[hd];simp only[];rw[Aa,bu,bu,b7.2 rfl];simp
  .exact Tf h hd
theorem Xx:∀ {e:iP} {ks:List Nat} {vs:List TV},nY e ks=af vs->vs.length=ks.length/\∀ (j k:Nat),ks[j]? =af k->∃ v,vs[j]? =af v/\e.get k=af v
 |e,[],vs,h=>by simp only[nY,ak] at h;subst h;exact⟨rfl,by simp⟩
 |e,k::r,vs,h=>by
  simp only[nY] at h;split at h
  .rename_i v hv;split at h
   .rename_i l hl;simp only[ak] at h;subst h;obtain⟨h1,h2⟩:=Xx hl;refine ⟨by simp[h1],λj k' hj=>?_⟩;cases j with
    |zero=>simp at hj;subst hj;exact⟨v,rfl,hv⟩
    |succ j=>simpa using h2 j k' (by simpa using hj)
   .cases h
  .cases h
theorem IG {e:iP} {h:bl} (hi:tU e h):∀ {ks:List Nat} {vs:List TV},nY e ks=af vs->kS h vs=ai
 |[],vs,hg=>by simp only[nY,ak] at hg;subst hg;rfl
 |k::r,vs,hg=>by
  simp only[nY] at hg;split at hg
  .rename_i v hv;split at hg
   .rename_i l hl;simp only[ak] at hg;subst hg;simp only[kS,av];exact⟨hi k v hv,IG hi hl⟩
   .cases hg
  .cases hg
theorem CK:∀ {e:iP} {ks:List Nat} {vs:List TV},vs.length=ks.length->∀ t v,(Yf e ks vs).get t=af v->(∃ j:Nat,ks[j]? =af t/\vs[j]? =af v)\/(t∉ks/\e.get t=af v)
 |e,[],[],_,t,v,h=>.inr ⟨by simp,h⟩
 |e,[],_::_,hl,t,v,h=>by simp at hl
 |e,_::_,[],hl,t,v,h=>by simp at hl
 |e,k::r,u::l,hl,t,v,h=>by
  simp only[Yf,PT.get_set] at h;split at h
  .rename_i I;subst I;cases h;exact .inl ⟨0,rfl,rfl⟩
  .rename_i I;rcases CK (by simpa using hl) t v h with ⟨j,h1,h2⟩|⟨h1,h2⟩
   .exact .inl ⟨j+1,by simpa using h1,by simpa using h2⟩
   .exact .inr ⟨by simp[I,h1],h2⟩
theorem tZ {am:Nat} {e:iP}:∀ {ks:List Nat} {k:Nat} {v:TV},(Da am e ks).get k=af v->k∈ks/\e.get k=af v/\ux v=ai/\aN am k=aj
 |[],k,v,h=>by simp[Da,PT.get] at h
 |x::r,k,v,h=>by
  simp only[Da] at h;split at h
  .rename_i u hu;split at h
   .rename_i hc;simp only[av,eA] at hc;rw[PT.get_set] at h;split at h
    .rename_i I;subst I;cases h;exact⟨by simp,hu,hc.1,hc.2⟩
    .obtain⟨h1,h2⟩:=tZ h;exact⟨by simp[h1],h2⟩
   .obtain⟨h1,h2⟩:=tZ h;exact⟨by simp[h1],h2⟩
  .obtain⟨h1,h2⟩:=tZ h;exact⟨by simp[h1],h2⟩
theorem I2 {am:Nat} {e0 e:iP}:∀ {ks:List Nat},H0 am e0 e ks=ai->∀ k v,k∈ks->e0.get k=af v->ux v=ai->aN am k=aj->∃ J,e.get k=af J
 |[],_,k,v,h,_,_,_=>by cases h
 |x::r,hc,k,v,h,hv,hf,I=>by
  simp only[H0,av] at hc;rcases bp.1 h with rfl|h
  .have h1:=hc.1;rw[hv] at h1;simp only[hf,I,Bool.not_true,Bool.false_or] at h1;cases M:e.get k with
   |none=>rw[M] at h1;cases h1
   |some u=>exact⟨u,rfl⟩
  .exact I2 hc.2 k v h hv hf I
section walk
variable {P:Program} {E:Nat->Prop} {nt np:Nat}
theorem RM {h:bl} {v:TV} {y:AV} (hn:afa v=ai) (I:cr h v=af y):Le y .emp:=by
 cases v with
 |nil=>simp only[cr,ak] at I;subst I;exact Le.nilEmp
 |emp=>simp only[cr,ak] at I;subst I;exact Le.refl _
 |_=>cases hn
theorem X4 {φ:PM} {s:TS} {a:Act} {w:World} (c:oS P E nt np φ s a w) (ty:TypeId) (T:Ty):oS P E nt np φ ⟨s.e,s.h.set s.nx (af (.rows ty ai T [])),s.nx+1⟩ a w/\bD (s.h.set s.nx (af (.rows ty ai T [])))=bD s.h/\cq s.h (s.h.set s.nx (af (.rows ty ai T []))):=by
 have hfr:=c.invH.fresh;have hr:cq s.h (s.h.set s.nx (af (.rows ty ai T []))):=cq.set λr hr=>by rw[bU,hfr] at hr;cases hr
 have J:bD (s.h.set s.nx (af (.rows ty ai T [])))=bD s.h:=by
  funext n;by_cases hn:n=nm s.nx
  .subst hn;rw[bK,bK,PT.get_set,aE rfl,hfr];rfl
  .refine kP c.invH hr λi e=>?_
   subst e;rw[PT.get_set,ay (λe=>hn (by rw[e]))]
 refine ⟨⟨by rw[J];exact c.rep,?_,λn k hk=>Ai (c.dom n k hk),iB c.low,c.invH.set hr (Cu _) (Nat.le_succ _) (λ_ _ he=>by cases he),?_,c.inert,c.size⟩,J,hr⟩
 .intro t x I;rw[J];simp only[fX] at I;cases he:s.e.get t with
  |none=>rw[he] at I;cases I
  |some q=>
   rw[he] at I;obtain⟨z,M⟩:=qf s.h q (c.invE t q he);simp only[aI,gH hr q z M,ak] at I;subst I;exact c.env t _ (by simp only[fX,he,aI,M])
 .intro t x I;exact oG hr x (c.invE t x I)
theorem za {h:bl}:∀ {a b:List TV},kS h a=ai->kS h b=ai->kS h (a++b)=ai
 |[],_,_,hb=>hb
 |x::r,b,I,hb=>by
  simp only[kS,av] at I;simp only[gw,kS,av];exact⟨I.1,za I.2 hb⟩
theorem MU {h:bl}:∀ {a:List TV} (n:Nat),kS h a=ai->kS h (a.take n)=ai
 |[],n,_=>by simp[kS]
 |x::r,0,_=>rfl
 |x::r,n+1,I=>by
  simp only[kS,av] at I;simp only[v7,kS,av];exact⟨I.1,MU n I.2⟩
theorem MV {h:bl}:∀ {a:List TV} (n:Nat),kS h a=ai->kS h (a.drop n)=ai
 |[],n,_=>by simp[kS]
 |x::r,0,I=>I
 |x::r,n+1,I=>by
  simp only[kS,av] at I;simp only[v9];exact MV n I.2
theorem yV {α:Type} {l:List α} {j:Nat} {x:α} (h:l[j]? =af x):splice l j [x]=l:=by
 have hl:j<l.length:=by
  rcases b_ j l.length with h'|h'
  .exact h'
  .rw[bS h'] at h;cases h
 rw[aB hl,ak] at h;unfold splice;subst h;simp
theorem ad6 {φ:PM} {s:TS} {a:Act} {w:World} (c:oS P E nt np φ s a w) {id cty j:Nat} {l:List TV} {v u:TV} (hb:s.h.get id=af (.cells cty l)) (hv:l[j]? =af v) (hn:afa v=ai) (hu:cr s.h u=af .emp) (huo:LB s.h u=ai):
 oS P E nt np φ ⟨s.e,s.h.set id (af (.cells cty (splice l j [u]))),s.nx⟩ a w/\Cx np φ φ (bD s.h) (bD (s.h.set id (af (.cells cty (splice l j [u]))))) w w:=by
 have hr:cq s.h (s.h.set id (af (.cells cty (splice l j [u])))):=cq.set λr hr=>by rw[bU,hb] at hr;cases hr
 have hlo:=c.invH.cells id cty l hb;obtain⟨J,M⟩:=fx s.h l hlo;have hsp:cN s.h (splice l j [u])=af (splice J j [.emp]):=sK j M (by simp only[cN,hu]);have hsp':cN (s.h.set id (af (.cells cty (splice l j [u])))) (splice l j [u])=af (splice J j [.emp]):=hX hr _ _ hsp;obtain⟨y,hy,hey⟩:=ma M j v hv;have hold:bD s.h (nm id)=af ⟨cty,.mx J⟩:=by rw[bK,hb];simp only[aI,kC,M]
 have hnew:bD (s.h.set id (af (.cells cty (splice l j [u])))) (nm id)=af ⟨cty,.mx (splice J j [.emp])⟩:=by
  rw[bK,PT.get_set,aE rfl];simp only[aI,kC,hsp']
 have hoth:∀ n,n≠nm id->bD (s.h.set id (af (.cells cty (splice l j [u])))) n=bD s.h n:=λn Y=>by
  refine kP c.invH hr λi e=>?_
  subst e;rw[PT.get_set,ay (λe=>Y (by rw[e]))]
 have hdom:vI (bD s.h) (bD (s.h.set id (af (.cells cty (splice l j [u]))))):=λn b U=>by
  by_cases e:n=nm id
  .subst e;exact⟨_,hold⟩
  .rw[hoth n e] at U;exact⟨b,U⟩
 have hcell:∀ x∈J,x.isCell=ai:=λx I=>by
  obtain⟨k,hk⟩:=e_ I;obtain⟨q,_,_,hat⟩:=c.rep.at_ _ _ hold;unfold X' at hat;obtain⟨ob,_,hob⟩:=hat;rw[pH rfl] at hob;obtain⟨arr,_,hca⟩:=hob;exact (hca.2 k x hk).1
 have hV:K3 (bD s.h) (bD (s.h.set id (af (.cells cty (splice l j [u]))))):=⟨hdom,λn b b' h1 h2=>by
  by_cases e:n=nm id
  .subst e;rw[hold] at h1;cases h1;rw[hnew] at h2;cases h2;refine jY.cells rfl rfl ?_ λx I=>?_
   .show ik _ _ J (splice J j [.emp]);have:=ik.splice j (ik.refl hdom J) (b:=[y]) (b':=[.emp]) ⟨(RM hn hey).toH hdom,trivial⟩;rw[yV hy] at this;exact this
   .have I:x∈splice J j [.emp]:=I;unfold splice at I;rw[bQ,bQ,aL] at I;rcases I with (I|I)|I
    .exact hcell x (gZ I)
    .subst I;rfl
    .exact hcell x (List.mem_of_mem_drop I)
  .rw[hoth n e,h1] at h2;cases h2;exact jY.refl hdom b⟩
 refine ⟨⟨hV.rep c.rep,?_,c.dom,c.low,c.invH.set hr (c.invH.low id _ hb) (bV _) (λty l2 he=>?_),?_,c.inert,c.size⟩,⟨Lh.refl _ _,λk _ ho=>hdom.own ho,λ_ _=>rfl⟩⟩
 .intro t x I;simp only[fX] at I;cases he:s.e.get t with
  |none=>rw[he] at I;cases I
  |some q=>
   rw[he] at I;obtain⟨z,Z⟩:=qf s.h q (c.invE t q he);simp only[aI,gH hr q z Z,ak] at I;subst I;exact (c.env t _ (by simp only[fX,he,aI,Z])).dom hdom
 .simp only[iw.cells.injEq] at he;obtain⟨_,rfl⟩:=he;refine iX hr _ ?_;unfold splice;exact za (za (MU _ hlo) (by simp only[kS,huo,kK])) (MV _ hlo)
 .intro t x I;exact oG hr x (c.invE t x I)
theorem oS.congr {φ:PM} {s s':TS} {a:Act} {w:World} (c:oS P E nt np φ s a w) (he:∀ t,s'.e.get t=s.e.get t) (hh:∀ i,s'.h.get i=s.h.get i) (hn:s'.nx=s.nx):oS P E nt np φ s' a w/\bD s'.h=bD s.h:=by
 have hr:cq s.h s'.h:=λi r hi=>by rw[bU] at hi ⊢;rw[hh];exact hi
 have J:bD s'.h=bD s.h:=by funext n;exact kP c.invH hr λi _=>hh i
 refine ⟨⟨by rw[J];exact c.rep,?_,by rw[hn];exact c.dom,by rw[hn];exact c.low,⟨λi ty l hg=>?_,λi b hg=>?_⟩,λt v hv=>?_,c.inert,c.size⟩,J⟩
 .intro t x I;rw[J];simp only[fX,he] at I;cases hg:s.e.get t with
  |none=>rw[hg] at I;cases I
  |some v=>
   rw[hg] at I;obtain⟨z,M⟩:=qf s.h v (c.invE t v hg);simp only[aI,gH hr v z M,ak] at I;subst I;exact c.env t _ (by simp only[fX,hg,aI,M])
 .rw[hh] at hg;exact iX hr l (c.invH.cells i ty l hg)
 .rw[hh] at hg;rw[hn];exact c.invH.low i b hg
 .rw[he] at hv;exact oG hr v (c.invE t v hv)
theorem Qt {R:Type} {v:Int} {f:Nat->Option R} {r:R}:∀ {m i:Nat},spl v f i m=af r->∃ j,v=aP j/\f j=af r
 |0,i,h=>by cases h
 |m+1,i,h=>by
  simp only[spl] at h;rcases pB h with ⟨h1,h2⟩|⟨_,h2⟩
  .exact⟨i,bi h1,h2⟩
  .exact Qt h2
theorem aar {φ:PM} {s s':TS} {a:Act} {w:World} (c:oS P E nt np φ s a w) {k off:Nat} {kd:IntKind} {v:Int} (h1:abn s k off=af (kd,v)) (h2:Up s k off kd v=af s'):oS P E nt np φ s' a w/\bD s'.h=bD s.h/\∀ t,s'.e.get t=s.e.get t:=by
 unfold abn at h1;unfold Up at h2;cases hk:s.e.get k with
 |none=>rw[hk] at h1;cases h1
 |some x=>
  rw[hk] at h1 h2;cases x with
  |f T q=>
   cases T with
   |int kd'=>
    simp only[ak,aD] at h1;obtain⟨rfl,rfl⟩:=h1;simp only[ak] at h2;subst h2;have he:∀ t,(s.e.set k (af (.f (.int kd') q))).get t=s.e.get t:=λt=>by
     rw[PT.get_set];split
     .rename_i e;subst e;exact hk.symm
     .rfl
    obtain⟨J,I⟩:=c.congr (s':=⟨s.e.set k (af (.f (.int kd') q)),s.h,s.nx⟩) he (λ_=>rfl) rfl;exact⟨J,I,he⟩
   |_=>cases h1
  |ptr a0 o0=>
   simp only[] at h1 h2;cases hb:s.h.get a0 with
   |none=>rw[hb] at h1;cases h1
   |some b=>
    rw[hb] at h1 h2;cases b with
    |cells ty l=>
     simp only[] at h1 h2;cases hl:l[o0+off]? with
     |none=>rw[hl] at h1;cases h1
     |some y=>
      rw[hl] at h1;cases y with
      |f T q=>
       cases T with
       |int kd'=>
        simp only[ak,aD] at h1;obtain⟨rfl,rfl⟩:=h1;simp only[ak] at h2;subst h2;have hh:∀ i,(s.h.set a0 (af (.cells ty (splice l (o0+off) [.f (.int kd') q])))).get i=s.h.get i:=λi=>by
         rw[PT.get_set];split
         .rename_i e;subst e;rw[hb,yV hl]
         .rfl
        obtain⟨J,I⟩:=c.congr (s':=⟨s.e,s.h.set a0 (af (.cells ty (splice l (o0+off) [.f (.int kd') q]))),s.nx⟩) (λ_=>rfl) hh rfl;exact⟨J,I,λ_=>rfl⟩
       |_=>cases h1
      |_=>cases h1
    |_=>cases h1
  |_=>cases h1
mutual
theorem MM (id sz n:Nat):∀ v:TV,ux v=ai->Lt id sz n v=v
 |.f _ _,_=>rfl
 |.fel _ _ _ _ _,_=>rfl
 |.emp,_=>rfl
 |.nil,_=>rfl
 |.undef,_=>rfl
 |.np,_=>rfl
 |.anyb,_=>rfl
 |.agg l,h=>by simp only[Lt];rw[BP id sz n l h]
 |.tup l,h=>by simp only[Lt];rw[BP id sz n l h]
 |.pel _ _ _ _,h=>by cases h
 |.ptr _ _,h=>by cases h
 |.csl _ _ _,h=>by cases h
 |.row _,h=>by cases h
 |.rtl _ _,h=>by cases h
 |.mp _,h=>by cases h
 |.clo _ _,h=>by cases h
theorem BP (id sz n:Nat):∀ l:List TV,qD l=ai->CH id sz n l=l
 |[],_=>rfl
 |x::r,h=>by
  simp only[qD,av] at h;simp only[CH];rw[MM id sz n x h.1,BP id sz n r h.2]
end
section subs
variable {id sz n:Nat} {h h':bl}
mutual
theorem Ob (hr:cq h h') (hid:eC h' id=af (aj,sz,n)):∀ (v:TV) (y:AV),cr h v=af y->cr h' (Lt id sz n v)=af y
 |.csl i s m,y,he=>by
  simp only[cr,ak] at he;subst he;simp only[Lt];split
  .rename_i hq;simp only[av] at hq;have e1:=aw hq.1.1;have e2:=aw hq.1.2;have e3:=aw hq.2;subst e1;subst e2;subst e3;simp only[cr,hid,fy,nD,cA,eh]
  .rfl
 |.agg l,y,he=>by
  simp only[cr] at he;cases hl:cN h l with
  |none=>rw[hl] at he;cases he
  |some l'=>rw[hl] at he;simp only[Lt,cr,wn hr hid l l' hl];exact he
 |.tup l,y,he=>by
  simp only[cr] at he;cases hl:cN h l with
  |none=>rw[hl] at he;cases he
  |some l'=>rw[hl] at he;simp only[Lt,cr,wn hr hid l l' hl];exact he
 |.clo g l,y,he=>by
  simp only[cr] at he;cases hl:cN h l with
  |none=>rw[hl] at he;cases he
  |some l'=>rw[hl] at he;simp only[Lt,cr,wn hr hid l l' hl];exact he
 |.f T v,y,he=>gH hr _ _ he
 |.fel T xs j hj off,y,he=>gH hr _ _ he
 |.pel _ _ _ _,y,he=>gH hr _ _ he
 |.ptr _ _,y,he=>gH hr _ _ he
 |.row _,y,he=>gH hr _ _ he
 |.rtl _ _,y,he=>gH hr _ _ he
 |.emp,y,he=>gH hr _ _ he
 |.nil,y,he=>gH hr _ _ he
 |.mp _,y,he=>gH hr _ _ he
 |.undef,y,he=>gH hr _ _ he
 |.np,y,he=>gH hr _ _ he
 |.anyb,y,he=>gH hr _ _ he
theorem wn (hr:cq h h') (hid:eC h' id=af (aj,sz,n)):∀ (l:List TV) (l':List AV),cN h l=af l'->cN h' (CH id sz n l)=af l'
 |[],l',he=>by simp only[cN,ak] at he;subst he;rfl
 |x::r,l',he=>by
  obtain⟨y,l2,rfl,h1,h2⟩:=c7 he;simp only[CH];exact o8 (Ob hr hid x y h1) (wn hr hid r l2 h2)
end
end subs
theorem ami {φ:PM} {s:TS} {a:Act} {w:World} (c:oS P E nt np φ s a w) {T:Ty} {id sz n:Nat} {s':TS} (hp:pkS s T id sz n=af s'):oS P E nt np φ s' a w/\Cx np φ φ (bD s.h) (bD s'.h) w w/\gA 0 s.e s'.e:=by
 unfold pkS at hp;split at hp
 .rename_i ty l hb;split at hp
  .rename_i hs;have hs:=aw hs;subst hs;split at hp
   .rename_i xs m hpk;split at hp
    .cases hp
    .rename_i hmid;simp only[ak] at hp;subst hp;have hm:dU s.h m:=Ol n l xs m hpk;obtain⟨l',hl⟩:=fx s.h l (c.invH.cells id ty l hb);have hidlt:=c.invH.low id _ hb;have nY:∀ i,((PT.updI (λ_ b=>Yd id T.size n b) 1 0 (eD m s.h)).set id (af (.rows ty aj T xs))).get i=if i=id then af (.rows ty aj T xs) else if aN m i then (s.h.get i).map vu else (s.h.get i).map (Yd id T.size n):=λi=>by
      rw[PT.get_set];by_cases e:i=id
      .rw[aE e,aE e]
      .rw[ay e,ay e,PT.get_updI,i_];split
       .cases hg:s.h.get i with
        |none=>rfl
        |some b=>cases b<;>rfl
       .rfl
     generalize hH2:((PT.updI (λ_ b=>Yd id T.size n b) 1 0 (eD m s.h)).set id (af (.rows ty aj T xs)))=h2 at nY ⊢;have hr:cq s.h h2:=λi r hi=>by
      rw[bU] at hi ⊢;rw[nY];by_cases e:i=id
      .subst e;rw[hb] at hi;cases hi
      .rw[ay e];cases hg:s.h.get i with
       |none=>rw[hg] at hi;cases hi
       |some b=>
        rw[hg] at hi;split
        .exact MQ hi
        .cases b<;>first|exact hi|cases hi
     have hnone:∀ i,aN m i=ai->bD h2 (nm i)=ah:=λi hi=>by
      have e:i≠id:=λe=>by subst e;exact hmid hi
      obtain⟨ty',p',T',xs',J⟩:=hm i hi;rw[bK,nY,ay e,aE hi,J];rfl
     have hdom:vI (bD s.h) (bD h2):=λq b hq=>by
      obtain⟨i,cc,rfl,I,h4⟩:=jy hq;rw[bK];rw[nY] at I;by_cases e:i=id
      .subst e;rw[hb];simp only[aI,kC,hl];exact⟨_,rfl⟩
      .rw[ay e] at I;cases hg:s.h.get i with
       |none=>rw[hg] at I;split at I<;>cases I
       |some b0=>
        rw[hg] at I;split at I
        .simp only[ch,ak] at I;subst I;cases b0<;>simp[vu,kC] at h4
        .simp only[ch,ak] at I;subst I;simp only[aI];cases b0 with
         |cells ty0 l0=>
          obtain⟨l0',U⟩:=fx s.h l0 (c.invH.cells i ty0 l0 hg);exact⟨⟨ty0,.mx l0'⟩,by simp only[kC,U]⟩
         |rows=>exact⟨_,h4⟩
         |dead=>exact⟨_,h4⟩
         |mp=>exact⟨_,h4⟩
     have giv:Eo s.h (bD s.h) (bD h2) m:=λi hi=>⟨rfl,hnone i hi⟩
     obtain⟨hle,hlen⟩:=CY hdom n l xs m l' hpk hl giv;have hrow:eC h2 id=af (aj,T.size,n):=by rw[bU,nY,aE rfl,<-hlen];rfl
     have hV:K3 (bD s.h) (bD h2):=⟨hdom,λq b b' I h4=>by
      obtain⟨i,cc,rfl,Z,h6⟩:=jy h4;rw[bK] at I;rw[nY] at Z;by_cases e:i=id
      .subst e;rw[aE rfl] at Z;cases Z;rw[hb] at I;simp only[aI,kC,hl,ak] at I;subst I;simp only[kC,nD,cA,eh,ak] at h6;subst h6;refine jY.cells rfl rfl hle λx J=>?_
       simp only[BC.toMx] at J;obtain⟨q,hq,rfl⟩:=dj.1 J;exact rQ T _ q hq
      .rw[ay e] at Z;cases hg:s.h.get i with
       |none=>rw[hg] at Z;split at Z<;>cases Z
       |some b0=>
        rw[hg] at Z I;split at Z
        .simp only[ch,ak] at Z;subst Z;cases b0<;>simp[vu,kC] at h6
        .simp only[ch,ak] at Z;subst Z;have:b=b':=by
          simp only[aI] at I;cases b0 with
          |cells ty0 l0=>
           obtain⟨l0',U⟩:=fx s.h l0 (c.invH.cells i ty0 l0 hg);simp only[kC,U,ak] at I;simp only[Yd,kC,wn hr hrow l0 l0' U,ak] at h6;rw[<- I,<-h6]
          |rows ty1 p1 T1 xs1=>
           have h3':kC h2 (.rows ty1 p1 T1 xs1)=af b:=I;exact jS (h3'.symm.trans h6)
          |dead p1 s1 n1=>
           have h3':kC h2 (.dead p1 s1 n1)=af b:=I;exact jS (h3'.symm.trans h6)
          |mp K1 V1 es1=>
           have h3':kC h2 (.mp K1 V1 es1)=af b:=I;exact jS (h3'.symm.trans h6)
         subst this;exact jY.refl hdom b⟩
     refine ⟨⟨hV.rep c.rep,?_,c.dom,c.low,⟨λi ty' l2 hg=>?_,λi b hg=>?_⟩,?_,c.inert,c.size⟩,⟨Lh.refl _ _,λk _ hk=>hdom.own hk,λ_ _=>rfl⟩,?_⟩
     .intro t x J;simp only[fX,PT.get_updI] at J;cases he:s.e.get t with
      |none=>rw[he] at J;cases J
      |some v=>
       rw[he] at J;obtain⟨z,hz⟩:=qf s.h v (c.invE t v he);simp only[ch,aI,Ob hr hrow v z hz,ak] at J;subst J;exact (c.env t _ (by simp only[fX,he,aI,hz])).dom hdom
     .rw[nY] at hg;by_cases e:i=id
      .rw[aE e] at hg;cases hg
      .rw[ay e] at hg;cases Y:s.h.get i with
       |none=>rw[Y] at hg;split at hg<;>cases hg
       |some b0=>
        rw[Y] at hg;split at hg
        .simp only[ch,ak] at hg;cases b0<;>simp[vu] at hg
        .simp only[ch,ak] at hg;cases b0 with
         |cells ty0 l0=>
          simp only[Yd,iw.cells.injEq] at hg;obtain⟨_,rfl⟩:=hg;obtain⟨l0',U⟩:=fx s.h l0 (c.invH.cells i ty0 l0 Y);exact kO _ _ _ (wn hr hrow l0 l0' U)
         |_=>cases hg
     .rw[nY] at hg;by_cases e:i=id
      .subst e;exact hidlt
      .rw[ay e] at hg;cases Y:s.h.get i with
       |none=>rw[Y] at hg;split at hg<;>cases hg
       |some b0=>exact c.invH.low i b0 Y
     .intro t x J;simp only[PT.get_updI] at J;cases he:s.e.get t with
      |none=>rw[he] at J;cases J
      |some v=>
       rw[he] at J;simp only[ch,ak] at J;subst J;obtain⟨z,hz⟩:=qf s.h v (c.invE t v he);exact Fg _ _ _ (Ob hr hrow v z hz)
     .intro k _ v' M;simp only[PT.get_updI] at M;cases he:s.e.get k with
      |none=>rw[he] at M;cases M
      |some v=>
       rw[he] at M;simp only[ch,ak] at M;subst M;exact⟨v,rfl,λhf=>MM _ _ _ v hf⟩
   .cases hp
  .cases hp
 .cases hp
theorem amd {φ:PM} {s:TS} {a:Act} {w:World} (c:oS P E nt np φ s a w) {k off:Nat} {s':TS} (h:PU s (.ren k off)=af s'):∃ φ',oS P E nt np φ' s' a w/\Cx np φ φ' (bD s.h) (bD s'.h) w w/\gA (oz [.ren k off] 0) s.e s'.e:=by
 simp only[PU] at h;split at h
 .rename_i b o hk;split at h
  .rename_i cty l hb;split at h
   .rename_i id hv;split at h
    .rename_i ty p T xs J;simp only[ak] at h;subst h;have hfr:=c.invH.fresh;have hidlt:=c.invH.low id _ J;have hblt:=c.invH.low b _ hb;have hbid:b≠id:=λe=>by rw[e,J] at hb;cases hb
     have hbn:b≠s.nx:=by omega
     have hin:id≠s.nx:=by omega
     generalize hh2:(((s.h.set id (af (.dead p T.size xs.length))).set s.nx (af (.rows ty p T xs))).set b (af (.cells cty (splice l (o+off) [.row s.nx]))))=h2;have nY:∀ i,h2.get i=if i=b then af (.cells cty (splice l (o+off) [.row s.nx])) else if i=s.nx then af (.rows ty p T xs) else if i=id then af (.dead p T.size xs.length) else s.h.get i:=λi=>by
      rw[<- hh2,PT.get_set,PT.get_set,PT.get_set]
     have hr:cq s.h h2:=λi r hi=>by
      rw[bU] at hi ⊢;rw[nY];by_cases e1:i=b
      .subst e1;rw[hb] at hi;cases hi
      .rw[ay e1];by_cases e2:i=s.nx
       .subst e2;rw[hfr] at hi;cases hi
       .rw[ay e2];by_cases e3:i=id
        .subst e3;rw[aE rfl];rw[J] at hi;exact hi
        .rw[ay e3];exact hi
     have hlo:=c.invH.cells b cty l hb;obtain⟨Z,hl'⟩:=fx s.h l hlo;have hrow:cr h2 (.row s.nx)=af (fy p s.nx T.size xs.length):=by
      simp only[cr,bU,nY];rw[ay hbn.symm];simp only[bG,aI,mK]
     have hsp:cN h2 (splice l (o+off) [.row s.nx])=af (splice Z (o+off) [fy p s.nx T.size xs.length]):=sK _ (hX hr _ _ hl') (by simp only[cN,hrow]);obtain⟨y,hy,hey⟩:=ma hl' _ _ hv;have hy0:y=fy p id T.size xs.length:=by
      simp only[cr,bU,J,aI,mK,ak] at hey;exact hey.symm
     subst hy0;have hold:bD s.h (nm b)=af ⟨cty,.mx Z⟩:=by rw[bK,hb];simp only[aI,kC,hl']
     have hnew:bD h2 (nm b)=af ⟨cty,.mx (splice Z (o+off) [fy p s.nx T.size xs.length])⟩:=by
      rw[bK,nY,aE rfl];simp only[aI,kC,hsp]
     have hdead:bD h2 (nm id)=ah:=by rw[bK,nY,ay hbid.symm,ay hin,aE rfl];rfl
     have hnx2:bD h2 (nm s.nx)=if p&&xs.length==0 then ah else af ⟨ty,.fz (xs.flatMap (bT T))⟩:=by rw[bK,nY,ay hbn.symm,aE rfl];rfl
     have hid0:bD s.h (nm id)=if p&&xs.length==0 then ah else af ⟨ty,.fz (xs.flatMap (bT T))⟩:=by rw[bK,J];rfl
     have hoth:∀ n,n≠nm b->n≠nm s.nx->n≠nm id->bD h2 n=bD s.h n:=λn e1 e2 e3=>kP c.invH hr λi e=>by
      subst e;rw[nY,ay (λe=>e1 (by rw[e])),ay (λe=>e2 (by rw[e])),ay (λe=>e3 (by rw[e]))]
     have hnb:nm b≠nm s.nx:=λe=>hbn (kT e)
     have hbi:nm b≠nm id:=λe=>hbid (kT e)
     have hni:nm s.nx≠nm id:=λe=>hin (kT e).symm
     have hinv:me h2 (s.nx+1):=by
      refine ⟨λi ty2 l2 hil=>?_,λi q hiq=>?_⟩
      .rw[nY] at hil;split at hil
       .simp only[ak,iw.cells.injEq] at hil;obtain⟨_,rfl⟩:=hil;exact kO _ _ _ hsp
       .split at hil
        .cases hil
        .split at hil
         .cases hil
         .exact iX hr l2 (c.invH.cells i ty2 l2 hil)
      .rw[nY] at hiq;split at hiq
       .omega
       .split at hiq
        .omega
        .split at hiq
         .omega
         .have:=c.invH.low i q hiq;omega
     have hE:∀ t x,fX s.e h2 t=af x->fX s.e s.h t=af x:=λt x I=>by
      simp only[fX] at I ⊢;cases he:s.e.get t with
      |none=>rw[he] at I;cases I
      |some q=>
       rw[he] at I;obtain⟨z,hz⟩:=qf s.h q (c.invE t q he);simp only[aI,gH hr q z hz,ak] at I;subst I;simp only[aI,hz]
     by_cases hp:(p&&xs.length==0)=ai
     ·
      have Y:bD h2=bD s.h:=by
       funext n;by_cases e1:n=nm b
       .subst e1;rw[hold,hnew];have:fy p s.nx T.size xs.length=fy p id T.size xs.length:=by unfold fy;rw[aE hp,aE hp]
        rw[this,yV hy]
       .by_cases e2:n=nm s.nx
        .subst e2;rw[hnx2,aE hp,bK,hfr];rfl
        .by_cases e3:n=nm id
         .subst e3;rw[hdead,hid0,aE hp]
         .exact hoth n e1 e2 e3
      refine ⟨φ,⟨by rw[Y];exact c.rep,λt x I=>by rw[Y];exact c.env t x (hE t x I),λn q hq=>Ai (c.dom n q hq),iB c.low,hinv,λt x I=>oG hr x (c.invE t x I),c.inert,c.size⟩,by rw[Y];exact Cx.refl _ _ _ _,gA.refl _ _⟩
     .have hid1:bD s.h (nm id)=af ⟨ty,.fz (xs.flatMap (bT T))⟩:=by rw[hid0,ay hp]
      obtain⟨kk,k1,k2,ob,k3,k4⟩:=c.rep.at_ _ _ hid1;have hφn:φ (nm s.nx)=ah:=by
       cases hq:φ (nm s.nx) with
       |none=>rfl
       |some q=>have:=c.dom _ q hq;rw[ef] at this;omega
      let nw:HF:=λn=>if n=nm s.nx then af ⟨ty,.fz (xs.flatMap (bT T))⟩ else ah
      have hsh:FC w w kk ob:=⟨rfl,rfl,rfl,rfl,k3,λ_ _=>rfl,λ_=>rfl⟩
      obtain⟨φ',p1,p2,p3,p4⟩:=c.rep.wren hid1 k1 hφn hsh k4 nw (by simp[nw]) (by simp only[nw];rw[ay hni.symm]);have hb1:eT (bD s.h) [nm s.nx,nm id] nw (nm b)=af ⟨cty,.mx Z⟩:=by
       unfold eT;rw[ay (by simp[hnb,hbi]),hold]
      obtain⟨kb,b1,b2,ob2,b3,b4⟩:=p4.at_ _ _ hb1;have hlt:o+off<Z.length:=by
       rcases b_ (o+off) Z.length with h'|h'
       .exact h'
       .rw[bS h'] at hy;cases hy
      have hob:jv φ' (tot E φ' (eT (bD s.h) [nm s.nx,nm id] nw)) w ⟨cty,.mx (splice Z (o+off) [fy p s.nx T.size xs.length])⟩ ob2:=by
       rw[pH rfl] at b4 ⊢;obtain⟨arr,a1,a2⟩:=b4;refine ⟨arr,a1,?_⟩;unfold vJ at a2 ⊢;refine ⟨by simp only[BC.len] at a2 ⊢;rw[oD (by simp;omega)];exact a2.1,λj x I=>?_⟩;simp only[BC.get] at I a2;rw[mJ (by simp;omega)] at I;split at I
       .exact a2.2 j x I
       .split at I
        .rename_i h3 M;simp only[c6] at M;have hj:j=o+off:=by omega
         subst hj;simp only[HN,qX,ak] at I;subst I;obtain⟨_,v,a3,a4⟩:=a2.2 _ _ hy;unfold fy at a4 ⊢;rw[ay hp] at a4 ⊢;refine ⟨rfl,v,a3,?_⟩;cases a4 with
         |@row _ _ _ cc q hφq hn hc hs2=>
          have:=p2.sub _ _ k1;rw[this,ak] at hφq;subst hφq;exact .row p1 hn hc hs2
        .exact a2.2 j x I
      obtain⟨q1,q2⟩:=p4.wset hb1 b1 (⟨rfl,rfl,rfl,rfl,b3,λ_ _=>rfl,λ_=>rfl⟩:FC w w kb ob2) hob (λn=>if n=nm b then af ⟨cty,.mx (splice Z (o+off) [fy p s.nx T.size xs.length])⟩ else ah) (by simp);have Y:eT (eT (bD s.h) [nm s.nx,nm id] nw) [nm b] (λn=>if n=nm b then af ⟨cty,.mx (splice Z (o+off) [fy p s.nx T.size xs.length])⟩ else ah)=bD h2:=by
       funext n;by_cases e1:n=nm b
       .subst e1;rw[hnew];simp[eT]
       .by_cases e2:n=nm s.nx
        .subst e2;rw[hnx2,ay hp];simp[eT,nw,hnb.symm]
        .by_cases e3:n=nm id
         .subst e3;rw[hdead];simp[eT,nw,hbi.symm,hni.symm]
         .rw[hoth n e1 e2 e3];simp[eT,e1,e2,e3]
      rw[Y] at q1 q2;have m:=p2.trans q1;refine ⟨φ',⟨q2,λt x I=>m.keep (c.env t x (hE t x I)),λn q hq=>?_,iB c.low,hinv,λt x I=>oG hr x (c.invE t x I),c.inert,c.size⟩,⟨Lh.refl _ _,m.own_,λi hi=>?_⟩,gA.refl _ _⟩
      .rcases p3 n q hq with M|M
       .exact Ai (c.dom n q M)
       .simp only[aL] at M;subst M;rw[ef];exact Cu _
      .cases hq:φ' (nm i) with
       |none=>
        cases hq2:φ (nm i) with
        |none=>rfl
        |some z=>rw[p2.sub _ _ hq2] at hq;cases hq
       |some z=>
        rcases p3 _ _ hq with M|M
        .exact M.symm
        .simp only[aL] at M;have:=kT M;have:=c.low;omega
    .cases h
   .cases h
  .cases h
 .rename_i id hk;split at h
  .rename_i ty p T xs J;simp only[ak] at h;subst h;have hfr:=c.invH.fresh;have hidlt:=c.invH.low id _ J;have hin:id≠s.nx:=by omega
   generalize hh2:((s.h.set id (af (.dead p T.size xs.length))).set s.nx (af (.rows ty p T xs)))=h2;have nY:∀ i,h2.get i=if i=s.nx then af (.rows ty p T xs) else if i=id then af (.dead p T.size xs.length) else s.h.get i:=λi=>by
    rw[<- hh2,PT.get_set,PT.get_set]
   have hr:cq s.h h2:=λi r hi=>by
    rw[bU] at hi ⊢;rw[nY];by_cases e2:i=s.nx
    .subst e2;rw[hfr] at hi;cases hi
    .rw[ay e2];by_cases e3:i=id
     .subst e3;rw[aE rfl];rw[J] at hi;exact hi
     .rw[ay e3];exact hi
   have hrow:cr h2 (.row s.nx)=af (fy p s.nx T.size xs.length):=by
    simp only[cr,bU,nY,bG,aI,mK]
   have hrow0:cr s.h (.row id)=af (fy p id T.size xs.length):=by
    simp only[cr,bU,J,aI,mK]
   have hdead:bD h2 (nm id)=ah:=by rw[bK,nY,ay hin,aE rfl];rfl
   have hnx2:bD h2 (nm s.nx)=if p&&xs.length==0 then ah else af ⟨ty,.fz (xs.flatMap (bT T))⟩:=by rw[bK,nY,aE rfl];rfl
   have hid0:bD s.h (nm id)=if p&&xs.length==0 then ah else af ⟨ty,.fz (xs.flatMap (bT T))⟩:=by rw[bK,J];rfl
   have hoth:∀ n,n≠nm s.nx->n≠nm id->bD h2 n=bD s.h n:=λn e2 e3=>kP c.invH hr λi e=>by
    subst e;rw[nY,ay (λe=>e2 (by rw[e])),ay (λe=>e3 (by rw[e]))]
   have hni:nm s.nx≠nm id:=λe=>hin (kT e).symm
   have hinv:me h2 (s.nx+1):=by
    refine ⟨λi ty2 l2 hil=>?_,λi q hiq=>?_⟩
    .rw[nY] at hil;split at hil
     .cases hil
     .split at hil
      .cases hil
      .exact iX hr l2 (c.invH.cells i ty2 l2 hil)
    .rw[nY] at hiq;split at hiq
     .omega
     .split at hiq
      .omega
      .have:=c.invH.low i q hiq;omega
   have hE:∀ t x,t≠k->fX (s.e.set k (af (.row s.nx))) h2 t=af x->fX s.e s.h t=af x:=λt x ht I=>by
    simp only[fX,PT.get_set] at I ⊢;rw[ay ht] at I;cases he:s.e.get t with
    |none=>rw[he] at I;cases I
    |some q=>
     rw[he] at I;obtain⟨z,hz⟩:=qf s.h q (c.invE t q he);simp only[aI,gH hr q z hz,ak] at I;subst I;simp only[aI,hz]
   have hIE:tU (s.e.set k (af (.row s.nx))) h2:=λt x I=>by
    simp only[PT.get_set] at I;split at I
    .cases I;exact Fg _ _ _ hrow
    .exact oG hr x (c.invE t x I)
   have hKp:gA (oz [.ren k off] 0) s.e (s.e.set k (af (.row s.nx))):=λt ht v' hv'=>by
    simp only[PT.get_set] at hv';split at hv'
    .rename_i et;subst et;simp only[oz] at ht;rw[bu,b7.2 rfl] at ht;simp at ht
    .exact⟨v',hv',λ_=>rfl⟩
   have U:=c.env k (fy p id T.size xs.length) (by simp only[fX,hk,aI,hrow0]);by_cases hp:(p&&xs.length==0)=ai
   .have Y:bD h2=bD s.h:=by
     funext n;by_cases e2:n=nm s.nx
     .subst e2;rw[hnx2,aE hp,bK,hfr];rfl
     .by_cases e3:n=nm id
      .subst e3;rw[hdead,hid0,aE hp]
      .exact hoth n e2 e3
    have hsame:fy p s.nx T.size xs.length=fy p id T.size xs.length:=by unfold fy;rw[aE hp,aE hp]
    refine ⟨φ,⟨by rw[Y];exact c.rep,λt x I=>?_,λn q hq=>Ai (c.dom n q hq),iB c.low,hinv,hIE,c.inert,c.size⟩,by rw[Y];exact Cx.refl _ _ _ _,hKp⟩;rw[Y];by_cases ht:t=k
    .subst ht;simp only[fX,PT.get_set,bG,aI,hrow,ak] at I;subst I;rw[hsame];exact U
    .exact c.env t x (hE t x ht I)
   .have hid1:bD s.h (nm id)=af ⟨ty,.fz (xs.flatMap (bT T))⟩:=by rw[hid0,ay hp]
    obtain⟨kk,k1,k2,ob,k3,k4⟩:=c.rep.at_ _ _ hid1;have hφn:φ (nm s.nx)=ah:=by
     cases hq:φ (nm s.nx) with
     |none=>rfl
     |some q=>have:=c.dom _ q hq;rw[ef] at this;omega
    let nw:HF:=λn=>if n=nm s.nx then af ⟨ty,.fz (xs.flatMap (bT T))⟩ else ah
    have hsh:FC w w kk ob:=⟨rfl,rfl,rfl,rfl,k3,λ_ _=>rfl,λ_=>rfl⟩
    obtain⟨φ',p1,p2,p3,p4⟩:=c.rep.wren hid1 k1 hφn hsh k4 nw (by simp[nw]) (by simp only[nw];rw[ay hni.symm]);have Y:eT (bD s.h) [nm s.nx,nm id] nw=bD h2:=by
     funext n;by_cases e2:n=nm s.nx
     .subst e2;rw[hnx2,ay hp];simp[eT,nw]
     .by_cases e3:n=nm id
      .subst e3;rw[hdead];simp[eT,nw,hni.symm]
      .rw[hoth n e2 e3];simp[eT,e2,e3]
    rw[Y] at p2 p4;refine ⟨φ',⟨p4,λt x I=>?_,λn q hq=>?_,iB c.low,hinv,hIE,c.inert,c.size⟩,⟨Lh.refl _ _,p2.own_,λi hi=>?_⟩,hKp⟩
    .by_cases ht:t=k
     .subst ht;simp only[fX,PT.get_set,bG,aI,hrow,ak] at I;subst I;unfold fy at U ⊢;rw[ay hp] at U ⊢;generalize a.tmps.getD t undef=z at U;cases U with
      |@row _ _ _ cc q hφq hn hc hs2=>
       rw[k1,ak] at hφq;subst hφq;exact .row p1 hn hc hs2
     .exact p2.keep (c.env t x (hE t x ht I))
    .rcases p3 n q hq with M|M
     .exact Ai (c.dom n q M)
     .simp only[aL] at M;subst M;rw[ef];exact Cu _
    .cases hq:φ' (nm i) with
     |none=>
      cases hq2:φ (nm i) with
      |none=>rfl
      |some z=>rw[p2.sub _ _ hq2] at hq;cases hq
     |some z=>
      rcases p3 _ _ hq with M|M
      .exact M.symm
      .simp only[aL] at M;have:=kT M;have:=c.low;omega
  .cases h
 .cases h
theorem ak1 {φ:PM} {s:TS} {a:Act} {w:World} (c:oS P E nt np φ s a w) {Z:Adj} {s':TS} (h:PU s Z=af s') (hnr:∀ k off,Z≠ .ren k off):oS P E nt np φ s' a w/\Cx np φ φ (bD s.h) (bD s'.h) w w/\gA (oz [Z] 0) s.e s'.e:=by
 cases Z with
 |ren k off=>exact cR rfl (hnr k off)
 |nil k ty T=>
  simp only[PU] at h;split at h
  .rename_i v hv;split at h
   .rename_i hn;simp only[ak] at h;subst h;obtain⟨J,M,hr⟩:=X4 c ty T;refine ⟨⟨J.rep,?_,J.dom,J.low,J.invH,?_,J.inert,J.size⟩,by rw[M];exact Cx.refl _ _ _ _,?_⟩
    .intro t x I;simp only[fX,PT.get_set] at I;split at I
     .rename_i et;subst et;simp only[aI,cr,bU,PT.get_set,bG,mK,fy,jU,cY,kK,ak] at I;subst I;obtain⟨z,Y⟩:=qf s.h v (c.invE _ v hv);rw[M];exact RM hn Y _ _ _ _ (c.env _ _ (by simp only[fX,hv,aI,Y]))
     .exact J.env t x I
    .intro t x I;simp only[PT.get_set] at I;split at I
     .cases I;simp only[LB,bU,PT.get_set,bG];rfl
     .exact J.invE t x I
    .intro t ht v' U;simp only[PT.get_set] at U;split at U
     .rename_i et;subst et;simp only[oz] at ht;rw[bu,b7.2 rfl] at ht;simp at ht
     .exact⟨v',U,λ_=>rfl⟩
   .simp only[ak] at h;subst h;exact⟨c,Cx.refl _ _ _ _,gA.refl _ _⟩
  .cases h
 |cel k off ty T=>
  simp only[PU] at h;split at h
  .rename_i id o hk;split at h
   .rename_i cty l hb;split at h
    .rename_i v hv;split at h
     .rename_i hn;simp only[ak] at h;subst h;obtain⟨J,M,hr⟩:=X4 c ty T;have hid:id≠s.nx:=λe=>by have:=c.invH.low id _ hb;omega
      obtain⟨c2,t2⟩:=ad6 J (id:=id) (cty:=cty) (l:=l) (v:=v) (u:=.row s.nx) (by show (s.h.set s.nx _).get id=_;rw[PT.get_set,ay hid];exact hb) hv hn (by simp only[cr,bU,PT.get_set,bG,aI,mK,fy,jU,cY,kK]) (by simp only[LB,bU,PT.get_set,bG];rfl);exact⟨c2,by rw[<- M];exact t2,gA.refl _ _⟩
     .simp only[ak] at h;subst h;exact⟨c,Cx.refl _ _ _ _,gA.refl _ _⟩
    .cases h
   .cases h
  .cases h
 |mpt k K V=>
  simp only[PU] at h;split at h
  .rename_i id hk;split at h
   .rename_i K' V' es hb;split at h
    .rename_i hE;simp only[ak] at h;subst h;have hr:cq s.h (s.h.set id (af (.mp K V []))):=cq.set λr hr=>by rw[bU,hb] at hr;cases hr
     have M:bD (s.h.set id (af (.mp K V [])))=bD s.h:=by
      funext n;by_cases hn:n=nm id
      .subst hn;rw[bK,bK,PT.get_set,aE rfl,hb];simp only[aI,kC,B7 (ajb (jm.1 hE).1),B7 (jm.1 hE).2,UG (jm.1 hE).1,List.map_nil]
      .refine kP c.invH hr λi e=>?_
       subst e;rw[PT.get_set,ay (λe=>hn (by rw[e]))]
     refine ⟨⟨by rw[M];exact c.rep,?_,c.dom,c.low,c.invH.set hr (c.invH.low id _ hb) (bV _) (λ_ _ he=>by cases he),λt x I=>oG hr x (c.invE t x I),c.inert,c.size⟩,by rw[M];exact Cx.refl _ _ _ _,gA.refl _ _⟩;intro t x I;rw[M];simp only[fX] at I;cases he:s.e.get t with
     |none=>rw[he] at I;cases I
     |some q=>
      rw[he] at I;obtain⟨z,Y⟩:=qf s.h q (c.invE t q he);simp only[aI,gH hr q z Y,ak] at I;subst I;exact c.env t _ (by simp only[fX,he,aI,Y])
    .simp only[ak] at h;subst h;exact⟨c,Cx.refl _ _ _ _,gA.refl _ _⟩
   .cases h
  .cases h
 |pk k off T=>
  simp only[PU] at h;split at h
  .obtain⟨h1,h2,h3⟩:=ami c h;exact⟨h1,h2,h3.mono λk hk=>by simp at hk⟩
  .cases h
theorem ak0 {φ:PM} {s:TS} {a:Act} {w:World} (c:oS P E nt np φ s a w) {I:Adj} {s':TS} (h:PU s I=af s'):∃ φ',oS P E nt np φ' s' a w/\Cx np φ φ' (bD s.h) (bD s'.h) w w/\gA (oz [I] 0) s.e s'.e:=by
 by_cases hn:∃ k off,I= .ren k off
 .obtain⟨k,off,rfl⟩:=hn;exact amd c h
 .exact⟨φ,ak1 c h λk off e=>hn ⟨k,off,e⟩⟩
theorem Wq {φ:PM} {a:Act} {w:World}:∀ {l:List Adj} {s s':TS},oS P E nt np φ s a w->Zr s l=af s'->∃ φ',oS P E nt np φ' s' a w/\Cx np φ φ' (bD s.h) (bD s'.h) w w/\gA (oz l 0) s.e s'.e
 |[],s,s',c,h=>by simp only[Zr,ak] at h;subst h;exact⟨φ,c,Cx.refl _ _ _ _,gA.refl _ _⟩
 |I::r,s,s',c,h=>by
  simp only[Zr] at h;split at h
  .rename_i s1 h1;obtain⟨φ1,U,t1,k1⟩:=ak0 c h1;obtain⟨φ2,M,J,k2⟩:=Wq U h;refine ⟨φ2,M,t1.trans J,(k1.mono ?_).trans (k2.mono ?_)⟩
   .intro k hk;cases I with
    |nil q ty T=>simp only[oz] at hk ⊢;rw[mc,bu,hk];rfl
    |cel q off ty T=>simp[oz] at hk
    |mpt q K V=>simp[oz] at hk
    |pk q off T=>simp[oz] at hk
    |ren q off=>simp only[oz] at hk ⊢;rw[mc,bu,hk];rfl
   .intro k hk;cases I with
    |nil q ty T=>simp only[oz];rw[mc,bu,hk];simp
    |cel q off ty T=>simp only[oz];exact hk
    |mpt q K V=>simp only[oz];exact hk
    |pk q off T=>simp only[oz];exact hk
    |ren q off=>simp only[oz];rw[mc,bu,hk];simp
  .cases h
mutual
theorem RE {h:bl}:∀ (v:TV) (y:AV),ux v=ai->cr h v=af y->y.all (λ_=>aj)=ai
 |.f _ _,y,_,he=>by simp only[cr,ak] at he;subst he;rfl
 |.fel _ _ _ _ _,y,_,he=>by simp only[cr,ak] at he;subst he;rfl
 |.emp,y,_,he=>by simp only[cr,ak] at he;subst he;rfl
 |.nil,y,_,he=>by simp only[cr,ak] at he;subst he;rfl
 |.undef,y,_,he=>by simp only[cr,ak] at he;subst he;rfl
 |.np,y,_,he=>by simp only[cr,ak] at he;subst he;rfl
 |.anyb,y,_,he=>by simp only[cr,ak] at he;subst he;rfl
 |.agg l,y,hl,he=>by
  simp only[cr] at he;split at he
  .rename_i l' hl';simp only[ak] at he;subst he;exact Fd l l' hl hl'
  .cases he
 |.tup l,y,hl,he=>by
  simp only[cr] at he;split at he
  .rename_i l' hl';simp only[ak] at he;subst he;exact Fd l l' hl hl'
  .cases he
 |.pel _ _ _ _,_,h,_=>by cases h
 |.ptr _ _,_,h,_=>by cases h
 |.csl _ _ _,_,h,_=>by cases h
 |.row _,_,h,_=>by cases h
 |.rtl _ _,_,h,_=>by cases h
 |.mp _,_,h,_=>by cases h
 |.clo _ _,_,h,_=>by cases h
theorem Fd {h:bl}:∀ (l:List TV) (l':List AV),qD l=ai->cN h l=af l'->AV.allL (λ_=>aj) l'=ai
 |[],l',_,he=>by simp only[cN,ak] at he;subst he;rfl
 |x::r,l',hl,he=>by
  obtain⟨y,l2,rfl,e1,e2⟩:=c7 he;simp only[qD,av] at hl;simp only[AV.allL,av];exact⟨RE x y hl.1 e1,Fd r l2 hl.2 e2⟩
end
mutual
theorem Xy (h:bl):∀ (v:TV),ux v=ai->LB h v=ai
 |.f _ _,_=>rfl
 |.fel _ _ _ _ _,_=>rfl
 |.emp,_=>rfl
 |.nil,_=>rfl
 |.undef,_=>rfl
 |.np,_=>rfl
 |.anyb,_=>rfl
 |.agg l,hl=>Jx h l hl
 |.tup l,hl=>Jx h l hl
 |.pel _ _ _ _,h=>by cases h
 |.ptr _ _,h=>by cases h
 |.csl _ _ _,h=>by cases h
 |.row _,h=>by cases h
 |.rtl _ _,h=>by cases h
 |.mp _,h=>by cases h
 |.clo _ _,h=>by cases h
theorem Jx (h:bl):∀ (l:List TV),qD l=ai->kS h l=ai
 |[],_=>rfl
 |x::r,hl=>by
  simp only[qD,av] at hl;simp only[kS,av];exact⟨Xy h x hl.1,Jx h r hl.2⟩
end
structure Seen (np:Nat) (t:Tm) (x:t.ty.den) (us:List TV) (h1:bl) (φ φ':PM) (H:HF) (E:Nat->Prop) (w:World) (la lu:List AV):Prop where
 rep:ri φ' E (bD h1) w
 val:∀ (j:Nat) y v,lu[j]? =af y->∃ z,la[j]? =af z/\(cO φ (tot E φ H) w z v->cO φ' (tot E φ' (bD h1)) w y v)
 len:lu.length=la.length
 tot_:∀ k,tot E φ' (bD h1) k->tot E φ H k
 own_:∀ k,own φ' (bD h1) k->own φ H k
 dom:∀ n k,φ' n=af k->ow n<t.bs.length
 par:∀ i,i<np->i<t.bs.length->φ' (nm i)=φ (nm i)
theorem Lw {t:Tm} {x:t.ty.den} {us:List TV} {h1:bl} {l1:List (Option iw)} (I:qT t x us h1 l1) {h:bl} {nx:Nat} (hinv:me h nx) {vs:List TV} {m:Nat} {σ:PT Nat} {sm:Nat} (M:Ig np t vs h x m σ sm) {la:List AV} (hla:cN h vs=af la) {φ:PM} {w:World} (r:ri φ E (bD h) w):∃ φ' lu,cN h1 us=af lu/\Seen np t x us h1 φ φ' (bD h) E w la lu:=by
 obtain⟨x1,m1,x2,m2,hx,hmm,gv,gb⟩:=M.ex;have hmr:dU h m:=by rw[hmm];exact (H5 _ _ _ _ gv).or (H7 _ _ _ _ gb)
 have pvg:qd (ij σ) t.vs x1=af (kA (ij σ) us):=by
  have U:=tW (ij σ) t.vs x1;have J:=I.pv;rw[hx,tQ] at J;rw[U,J];rfl
 have pbg:oF (ij σ) t.bs x2=af (l1.map (lU (lX (ij σ)))):=by
  have U:=wu (ij σ) t.bs x2;have J:=I.pb;rw[hx,vk] at J;rw[U,J];rfl
 have hbm:∀ i b,l1[i]? =af (af b)->∃ b0,h.get (ij σ i)=af b0/\BM (ij σ) h m b0 (lX (ij σ) b):=λi b hb=>by
  obtain⟨b0,Y,Z⟩:=Jv t.bs 0 x2 m2 _ gb pbg i (lX (ij σ) b) (by rw[ba,hb];rfl);rw[bN] at Y;exact⟨b0,Y,Z.mono λj hj=>by rw[hmm,bu,hj];simp⟩
 let hv:bl:=AL (ij σ) 0 (l1.map (lU (lX (ij σ)))) PT.leaf
 have hv_at:∀ i b,l1[i]? =af (af b)->hv.get (ij σ i)=af (lX (ij σ) b):=λi b hb=>by
  have:=vq (ij σ) (l1.map (lU (lX (ij σ)))) 0 PT.leaf (λa b ha hb=>by
   simp only[bR,I.len] at ha hb;simp only[bN];exact M.inj a b ha hb) i (af (lX (ij σ) b)) (by rw[ba,hb];rfl)
  rw[bN] at this;exact this
 have hv_ex:∀ j c,hv.get j=af c->∃ i b,l1[i]? =af (af b)/\j=ij σ i/\c=lX (ij σ) b:=λj c hj=>by
  by_cases hex:∃ i,i<l1.length/\j=ij σ i
  .obtain⟨i,hi,rfl⟩:=hex;have hcc:=aB hi;cases hcv:l1[i] with
   |some b=>rw[hcv] at hcc;rw[hv_at i b hcc] at hj;cases hj;exact⟨i,b,hcc,rfl,rfl⟩
   |none=>
    rw[hcv] at hcc;have:=vq (ij σ) (l1.map (lU (lX (ij σ)))) 0 PT.leaf (λa b ha hb=>by
     simp only[bR,I.len] at ha hb;simp only[bN];exact M.inj a b ha hb) i ah (by rw[ba,hcc];rfl)
    rw[bN] at this;have hj':(AL (ij σ) 0 (l1.map (lU (lX (ij σ)))) PT.leaf).get (ij σ i)=af c:=hj;rw[this] at hj';simp[PT.get] at hj'
  .have:hv.get j=(PT.leaf:bl).get j:=vp (ij σ) _ 0 _ j λk hk=>by
    simp only[bR] at hk;rw[bN];exact λe=>hex ⟨k,hk,e⟩
   rw[this] at hj;simp[PT.get] at hj
 have rows_in:x_ hv h:=λj q hq=>by
  rw[bU] at hq ⊢;cases hc:hv.get j with
  |none=>rw[hc] at hq;cases hq
  |some c=>
   rw[hc] at hq;obtain⟨i,b,Y,rfl,rfl⟩:=hv_ex j c hc;obtain⟨b0,Z,q3⟩:=hbm i b Y;rw[Z];simp only[aI] at hq ⊢;rw[<- q3.row];exact hq
 have rows_h1:∀ i q,eC h1 i=af q->eC hv (ij σ i)=af q:=λi q hq=>by
  rw[bU] at hq ⊢;cases hb:h1.get i with
  |none=>rw[hb] at hq;cases hq
  |some b=>
   rw[hb] at hq;rw[hv_at i b ((I.at_ i b).1 hb)];simp only[aI,Iu] at hq ⊢;exact hq
 have hd:vI (bD h) (bD hv):=λn y hy=>by
  obtain⟨j,c,rfl,U,J⟩:=jy hy;obtain⟨i,b,Y,rfl,rfl⟩:=hv_ex j c U;obtain⟨b0,Z,q3⟩:=hbm i b Y;obtain⟨y0,hy0⟩:=BM.erB_some hinv Z q3 J;exact⟨y0,by rw[bK,Z];exact hy0⟩
 have gvv:Eo h (bD h) (bD hv) m:=λi hi=>⟨rfl,by
  cases hc:bD hv (nm i) with
  |none=>rfl
  |some y=>
   obtain⟨j,c,e,U,J⟩:=jy hc;have:=kT e;subst this;obtain⟨k,b,Y,rfl,rfl⟩:=hv_ex i c U;have hk:k<t.bs.length:=by rw[<- I.len];exact (bn.1 Y).1
   have h5:=M.disj _ hi;rw[(M.sig _).2 ⟨k,hk,rfl⟩] at h5;cases h5⟩
 have V:K3 (bD h) (bD hv):=⟨hd,λn b b' hb hb'=>by
  obtain⟨j,c,rfl,U,J⟩:=jy hb';obtain⟨i,bb,Y,rfl,rfl⟩:=hv_ex j c U;obtain⟨b0,Z,q3⟩:=hbm i bb Y;rw[bK,Z] at hb;exact BM.view hd gvv rows_in q3 hb J⟩
 have rv:=V.rep r;have T:agr t x us h1 (ij σ) φ E E (bD hv) w:=by
  refine ri.toId I M.inj rv (λi b yb hb hyb=>?_) (λk hk=>.inl hk) (λi k b hi U J hE=>?_) rv.el
  .rw[bK,hv_at i b ((I.at_ i b).1 hb)];exact Ds rows_h1 hyb
  .obtain⟨k',p1,p2,_⟩:=rv.at_ _ _ U;rw[J] at p1;cases p1;exact p2 hE
 obtain⟨lu,hlu⟩:=fx h1 us I.ok;have hlug:cN hv (kA (ij σ) us)=af (AV.renL (H8 (ij σ)) lu):=qK rows_h1 us lu hlu;have hle:=Dn hd rows_in t.vs vs x1 m1 _ la _ gv pvg hla hlug (λi hi=>gvv i (by rw[hmm,bu,hi];rfl));have hall:=tN us lu I.lt hlu;refine ⟨_,lu,hlu,T.rep,λj y v hy=>?_,?_,λk hk=>hd.tot (T.tot_ k hk),λk hk=>hd.own (T.own_ k hk),λn k hk=>?_,λi hi hb=>?_⟩
 .rw[oE] at hle;obtain⟨z,hz,hlz⟩:=hle.get j (y.ren (H8 (ij σ))) (by rw[ba,hy];rfl);exact⟨z,hz,λhr=>T.val y v (mb hall y (bc hy)) (hlz _ _ _ _ r hr)⟩
 .have:=hle.length;rw[oE,bR] at this;exact this
 .obtain⟨i,hi,rfl,_⟩:=xp hk;rw[ef];exact hi
 .rw[aa6 hb,M.fix i hi]
theorem OC {φ:PM} {s':TS} {a:Act} {w:World} (c:oS P E nt np φ s' a w) {A:Ann} {am:Nat} {s0 s1:TS} {x:A.D} (J:L6 np A am s0 s'=af x) (hs:Hb A am s0 x=af s1)
 (hk:∀ k,k∈A.keep->k∉A.ks->∀ v,s0.e.get k=af v->ux v=ai->aN am k=aj->∀ Z,s'.e.get k=af Z->Z=v):∃ φ',oS P E nt np φ' s1 a w/\Cx np φ φ' (bD s'.h) (bD s1.h) w w:=by
 unfold L6 at J;split at J
 .rename_i hc;simp only[av] at hc;have hnp:=a8 hc.1;split at J
  .rename_i s2 h2;obtain⟨φ2,c2,t2,_⟩:=Wq c h2;split at J
   .rename_i vs hvs;split at J
    .rename_i z m σ sm hM;simp only[ak] at J;subst J;have M:=wH hM;unfold Hb at hs;split at hs
     .rename_i us h1 hi;obtain⟨l1,I⟩:=wN hi;split at hs
      .rename_i hlen;have hlen:=aw hlen;simp only[ak] at hs;subst hs;obtain⟨g1,g2⟩:=Xx hvs;have hvok:kS s2.h vs=ai:=IG c2.invE hvs;obtain⟨la,hla⟩:=fx s2.h vs hvok;obtain⟨φ',lu,hlu,S⟩:=Lw (E:=E) I c2.invH M hla c2.rep;refine ⟨φ',⟨S.rep,?_,S.dom,hnp,⟨λi ty l hl=>(I.cells i ty l hl).1,λi b hb=>I.lt_len hb⟩,?_,c.inert,c.size⟩,t2.trans ⟨Lh.refl _ _,λk _ h=>S.own_ k h,λi hi=>S.par i hi (by omega)⟩⟩
       .intro t y U;simp only[fX] at U;cases ht:(Yf (Da am s0.e A.keep) A.ks us).get t with
        |none=>rw[ht] at U;cases U
        |some v=>
         rw[ht] at U;simp only[aI] at U;rcases CK hlen t v ht with ⟨j,q1,Y⟩|⟨q1,Y⟩
         .obtain⟨y',p1,p2⟩:=ma hlu j v Y;rw[U] at p2;cases p2;obtain⟨z,p3,p4⟩:=S.val j y (a.tmps.getD t undef) p1;refine p4 ?_;obtain⟨v0,p5,p6⟩:=g2 j t q1;obtain⟨z',p7,p8⟩:=ma hla j v0 p5;rw[p3] at p7;cases p7;exact c2.env t _ (by simp only[fX,p6,aI,p8])
         .obtain⟨k1,k2,k3,k4⟩:=tZ Y;obtain⟨Z,k5⟩:=I2 hc.2 t v k1 k2 k3 k4;have:=hk t k1 q1 v k2 k3 k4 Z k5;subst this;have h3:=c.env t y (by simp only[fX,k5,aI];rw[RN s'.h h1 Z k3];exact U);exact h3.restrict (p:=λ_=>aj) (λi k hi _=>by cases hi) (λk hk=>by
           have h4:=S.tot_ k hk;rcases h4 with h4|h4
           .exact .inl h4
           .exact .inr (by
             have hkl:k<w.heap.size:=by
              obtain⟨n,b,e1,e2⟩:=h4;obtain⟨k',p1,_,ob,p3,_⟩:=c2.rep.at_ n b e1;rw[e2] at p1;cases p1;exact (cG.1 p3).1
             exact t2.own_ k hkl h4)) (RE Z y k3 U)
       .intro t v hv;rcases CK hlen t v hv with ⟨j,q1,Y⟩|⟨q1,Y⟩
        .obtain⟨y',_,p2⟩:=ma hlu j v Y;exact Fg _ _ _ p2
        .exact Xy _ v (tZ Y).2.2.1
      .cases hs
     .cases hs
    .cases J
   .cases J
  .cases J
 .cases J
theorem Ew {A:Ann} {am:Nat} {I s1:TS} {x:A.D} (hs:Hb A am I x=af s1):gA (LF A.ks 0) I.e s1.e/\∀ k,k∉A.ks->∀ v,s1.e.get k=af v->I.e.get k=af v:=by
 unfold Hb at hs;split at hs
 .rename_i us h1 hi;split at hs
  .rename_i hlen;have hlen:=aw hlen;simp only[ak] at hs;subst hs;have key:∀ k,k∉A.ks->∀ v,(Yf (Da am I.e A.keep) A.ks us).get k=af v->I.e.get k=af v:=λk hk v hv=>by
    rcases CK hlen k v hv with ⟨j,U,_⟩|⟨_,M⟩
    .exact cR (bc U) hk
    .exact (tZ M).2.1
   refine ⟨λk hk J hv=>?_,key⟩;have hnk:k∉A.ks:=λhm=>by rw[Xn hm] at hk;cases hk
   exact⟨J,key k hnk J hv,λ_=>rfl⟩
  .cases hs
 .cases hs
end walk
inductive Er:TC->SC->Prop
 |skip:Er .skip .skip
 |reg (ops:List sQ) (prs:List (Nat×Nat)):Er (.reg ops prs) (.reg ops prs)
 |seq {a b:TC} {a' b':SC}:Er a a'->Er b b'->Er (.seq a b) (.seq a' b')
 |jseq (A:Ann) {a b:TC} {a' b':SC}:Er a a'->Er b b'->Er (.jseq A a b) (.seq a' b')
 |cond (c:Nat) {a b:TC} {a' b':SC}:Er a a'->Er b b'->Er (.cond c a b) (.cond c a' b')
 |block (id:Nat) {b:TC} {b':SC}:Er b b'->Er (.block id b) (.block id b')
 |jblock (A:Ann) (id:Nat) {b:TC} {b':SC}:Er b b'->Er (.jblock A id b) (.block id b')
 |loop (A:Ann) {b:TC} {b':SC}:Er b b'->Er (.loop A b) (.loop b')
 |exit (id:Nat):Er (.exit id) (.exit id)
 |ret:Er .ret .ret
 |defer (f:FuncId) (c:List Operand) (t:Nat):Er (.defer f c t) (.defer f c t)
 |adj (l:List Adj) {c:TC} {c':SC}:Er c c'->Er (.adj l c) c'
 |split (k off lo n:Nat) {c:TC} {c':SC}:Er c c'->Er (.split k off lo n c) c'
 |unl (n:Nat) {b:TC} {b':SC}:Er b b'->Er (.unl n b) (.loop b')
 |bad (c:SC):Er .bad c
theorem CA {H:PT adz} {n:Nat} {c:TC} {c':SC} (h:Er c c'):Er (Ik H n c) c':=by
 unfold Ik;split
 .exact .adj _ h
 .exact .split _ _ _ _ h
 .exact h
theorem xW (H:PT adz):∀ (c:SC) (n:Nat),Er (DW H c n).1 c
 |.skip,n=>CA .skip
 |.reg o p,n=>CA (.reg o p)
 |.seq a b,n=>by
  have h1:=xW H a (n+1);have h2:=xW H b (DW H a (n+1)).2;simp only[DW];split
  .exact .jseq _ h1 h2
  .exact .seq h1 h2
 |.cond c a b,n=>by
  have h1:=xW H a (n+1);have h2:=xW H b (DW H a (n+1)).2;simp only[DW];exact CA (.cond c h1 h2)
 |.block id b,n=>by
  have h1:=xW H b (n+1);simp only[DW];split
  .exact .jblock _ id h1
  .exact .block id h1
 |.loop b,n=>by
  have h1:=xW H b (n+1);simp only[DW];split
  .exact .loop _ h1
  .exact .unl _ h1
  .exact .bad _
 |.exit id,n=>CA (.exit id)
 |.ret,n=>CA .ret
 |.defer f c t,n=>.defer f c t
 |.bad,n=>.bad _
theorem Yt {σ R:Type} {step:σ->Option (σ⊕R)} {x:σ} {r:R} (h:iter step x=af r):∃ n,iterN step n x=af r:=by
 unfold iter at h;split at h
 .exact⟨_,h⟩
 .cases h
theorem Xq {α R:Type} {o:Option (R⊕α)} {k:α->Option R} {r:R} (h:jn o k=af r):(∃ x,o=af (.inr x)/\k x=af r)\/o=af (.inl r):=by
 unfold jn at h;split at h
 .exact .inl ⟨_,rfl,h⟩
 .cases h;exact .inr rfl
 .cases h
section inv
variable {P:Program} {nt:Nat}
theorem zV (id:Nat) (ops:Array Oper) (I:Bool):ct P nt (.region id ops I)= .bad\/
 ((ops.toList.all λo=>match o.dst with|some d=>decide (d<nt)|none=>ai)=ai/\
   ((∃ f caps t,DV ops I=af (f,caps,t)/\ct P nt (.region id ops I)= .defer f caps t)\/
    ∃ l prs,sg P ops ops.toList=af l/\MT ops l=af prs/\ct P nt (.region id ops I)= .reg l prs)):=by
 simp only[ct];split
 .rename_i hd;split
  .rename_i f caps t h;exact .inr ⟨hd,.inl ⟨f,caps,t,h,rfl⟩⟩
  .split
   .rename_i l hl;split
    .rename_i prs hp;exact .inr ⟨hd,.inr ⟨l,prs,hl,hp,rfl⟩⟩
    .exact .inl rfl
   .exact .inl rfl
 .exact .inl rfl
def EG:Code->Bool
 |.cond (.const (.bool _)) _ _=>aj
 |_=>ai
theorem j8 (P:Program) (nt:Nat) (c:Code):∃ c',EG c'=ai/\ct P nt c'=ct P nt c/\∀ Q a w,c'.wp P Q a w->c.wp P Q a w:=by
 have self:∀ c:Code,EG c=ai->∃ c',EG c'=ai/\ct P nt c'=ct P nt c/\∀ Q a w,c'.wp P Q a w->c.wp P Q a w:=λc h=>⟨c,h,rfl,λ_ _ _ h=>h⟩
 induction c with
 |cond o x y ihx ihy=>
  cases o with
  |const v=>
   cases v with
   |bool b=>
    cases b with
    |true=>
     obtain⟨c',h1,h2,I⟩:=ihx;exact⟨c',h1,h2,λQ a w h=>wp_cond_true rfl (I Q a w h)⟩
    |false=>
     obtain⟨c',h1,h2,I⟩:=ihy;exact⟨c',h1,h2,λQ a w h=>wp_cond_false rfl (I Q a w h)⟩
   |_=>exact self _ rfl
  |_=>exact self _ rfl
 |_=>exact self _ rfl
theorem FX {α:Prop} {o:Operand} {x y:Code} {sc:SC} (hn:EG (.cond o x y)=ai) (h:ct P nt (.cond o x y)=sc) (h1:sc≠ .bad) (h2:∀ t a b,sc≠ .cond t a b):α:=by
 cases o with
 |tmp q=>exact (h2 _ _ _ h.symm).elim
 |const v=>cases v<;>first|exact (h1 h.symm).elim|cases hn
 |global g=>exact (h1 h.symm).elim
 |func f=>exact (h1 h.symm).elim
theorem afc {c:Code} {sl:List sQ} {prs:List (Nat×Nat)} (hn:EG c=ai) (h:ct P nt c= .reg sl prs):∃ id ops I,c= .region id ops I/\(ops.toList.all λo=>match o.dst with|some d=>decide (d<nt)|none=>ai)=ai/\sg P ops ops.toList=af sl/\MT ops sl=af prs:=by
 cases c with
 |region id ops I=>
  rcases zV (P:=P) (nt:=nt) id ops I with h1|⟨hd,⟨f,caps,t,_,h1⟩|⟨l,p,h2,J,h1⟩⟩
  .rw[h1] at h;cases h
  .rw[h1] at h;cases h
  .rw[h1] at h;cases h;exact⟨id,ops,I,rfl,hd,h2,J⟩
 |cond o x y=>exact FX hn h (by simp) (by simp)
 |_=>simp[ct] at h
theorem Yu {c:Code} {f:FuncId} {caps:List Operand} {t:Nat} (hn:EG c=ai) (h:ct P nt c= .defer f caps t):∃ id ops I,c= .region id ops I/\(ops.toList.all λo=>match o.dst with|some d=>decide (d<nt)|none=>ai)=ai/\DV ops I=af (f,caps,t):=by
 cases c with
 |region id ops I=>
  rcases zV (P:=P) (nt:=nt) id ops I with h1|⟨hd,⟨f',caps',t',h2,h1⟩|⟨l,p,h2,J,h1⟩⟩
  .rw[h1] at h;cases h
  .rw[h1] at h;cases h;exact⟨id,ops,I,rfl,hd,h2⟩
  .rw[h1] at h;cases h
 |cond o x y=>exact FX hn h (by simp) (by simp)
 |_=>simp[ct] at h
theorem pj {c:Code} {sc:SC} (h:ct P nt c=sc) (h1:sc≠ .bad) (h2:∀ a b,sc≠ .reg a b) (M:∀ a b t,sc≠ .defer a b t):∀ id ops J,c≠ .region id ops J:=by
 rintro id ops J rfl;rcases zV (P:=P) (nt:=nt) id ops J with I|⟨_,⟨f,caps,t,_,I⟩|⟨l,p,_,_,I⟩⟩<;>rw[I] at h
 .exact h1 h.symm
 .exact M _ _ _ h.symm
 .exact h2 _ _ h.symm
theorem abk {c:Code} (hn:EG c=ai) (h:ct P nt c= .skip):c= .skip:=by
 have I:=pj h (by simp) (by simp) (by simp);cases c with
 |skip=>rfl
 |region id ops J=>exact cR rfl (I id ops J)
 |cond o x y=>exact FX hn h (by simp) (by simp)
 |_=>simp[ct] at h
theorem afb {c:Code} (hn:EG c=ai) (h:ct P nt c= .ret):c= .ret:=by
 have I:=pj h (by simp) (by simp) (by simp);cases c with
 |ret=>rfl
 |region id ops J=>exact cR rfl (I id ops J)
 |cond o x y=>exact FX hn h (by simp) (by simp)
 |_=>simp[ct] at h
theorem abl {c:Code} {i:Nat} (hn:EG c=ai) (h:ct P nt c= .exit i):c= .exit i:=by
 have I:=pj h (by simp) (by simp) (by simp);cases c with
 |exit id=>simp[ct] at h;rw[h]
 |region id ops J=>exact cR rfl (I id ops J)
 |cond o x y=>exact FX hn h (by simp) (by simp)
 |_=>simp[ct] at h
theorem Xs {c:Code} {a b:SC} (hn:EG c=ai) (h:ct P nt c= .seq a b):∃ x y,c= .seq x y/\ct P nt x=a/\ct P nt y=b:=by
 have I:=pj h (by simp) (by simp) (by simp);cases c with
 |seq x y=>simp[ct] at h;exact⟨x,y,rfl,h.1,h.2⟩
 |region id ops J=>exact cR rfl (I id ops J)
 |cond o x y=>exact FX hn h (by simp) (by simp)
 |_=>simp[ct] at h
theorem abm {c:Code} {t:Nat} {a b:SC} (hn:EG c=ai) (h:ct P nt c= .cond t a b):∃ x y,c= .cond (.tmp t) x y/\ct P nt x=a/\ct P nt y=b:=by
 have I:=pj h (by simp) (by simp) (by simp);cases c with
 |cond o x y=>
  cases o with
  |tmp q=>simp[ct] at h;obtain⟨rfl,h1,h2⟩:=h;exact⟨x,y,rfl,h1,h2⟩
  |const v=>cases v<;>first|(simp [ct] at h;done)|cases hn
  |_=>simp[ct] at h
 |region id ops J=>exact cR rfl (I id ops J)
 |_=>simp[ct] at h
theorem M5 {c:Code} {id:Nat} {b:SC} (hn:EG c=ai) (h:ct P nt c= .block id b):∃ y,c= .block id y/\ct P nt y=b:=by
 have I:=pj h (by simp) (by simp) (by simp);cases c with
 |block i y=>simp[ct] at h;obtain⟨rfl,h1⟩:=h;exact⟨y,rfl,h1⟩
 |region id ops J=>exact cR rfl (I id ops J)
 |cond o x y=>exact FX hn h (by simp) (by simp)
 |_=>simp[ct] at h
theorem Q1 {c:Code} {b:SC} (hn:EG c=ai) (h:ct P nt c= .loop b):∃ y,c= .loop y/\ct P nt y=b:=by
 have I:=pj h (by simp) (by simp) (by simp);cases c with
 |loop y=>simp[ct] at h;exact⟨y,rfl,h⟩
 |region id ops J=>exact cR rfl (I id ops J)
 |cond o x y=>exact FX hn h (by simp) (by simp)
 |_=>simp[ct] at h
end inv
def aii {R:Type} (P:Program) (E:Nat->Prop) (nt np:Nat) (φ:PM) (s:TS) (w:World) (am:Nat) (K:Ex->TS->Option R) (r:R):Exit->Act->World->Prop:=
 λe a' w'=>∃ ex s' φ',e=ex.to/\K ex s'=af r/\oS P E nt np φ' s' a' w'/\Cx np φ φ' (bD s.h) (bD s'.h) w w'/\gA am s.e s'.e
theorem oS.bool {P:Program} {E:Nat->Prop} {nt np:Nat} {φ:PM} {s:TS} {a:Act} {w:World} (c:oS P E nt np φ s a w) {t:Nat} {b:Bool} (ht:s.e.get t=af (.f .bool b)):a.eval (.tmp t)= .bool b:=
 fA (c.env t _ (by simp only[fX,ht,aI,cr];rfl))
theorem oS.anyb {P:Program} {E:Nat->Prop} {nt np:Nat} {φ:PM} {s:TS} {a:Act} {w:World} (c:oS P E nt np φ s a w) {t:Nat} (ht:s.e.get t=af .anyb):∃ b,a.eval (.tmp t)= .bool b:=by
 have:=c.env t .anyb (by simp only[fX,ht,aI,cr]);show ∃ b,a.tmps.getD t undef= .bool b;generalize a.tmps.getD t undef=z at this;cases this with
 |anyb=>exact⟨_,rfl⟩
theorem Zp {R:Type} {a b:Option R} {r:R} (h:Fx a b=af r):a=af r/\b=af r:=by
 unfold Fx at h;split at h
 .rename_i e;exact⟨h,by rw[<- e];exact h⟩
 .cases h
theorem aj0 {P:Program} {E:Nat->Prop} {nt np:Nat} {con:FuncId->Option cg} {bY:TypeId->Option Ty} {inert:FuncId->Bool} (hm:P.follows .mixedOrders=ai) (hcon:Lk P con) (hin:Lf P inert):
 ∀ {tc:TC} {sc:SC},Er tc sc->∀ (c:Code),ct P nt c=sc->∀ (R:Type) (s:TS) (K:Ex->TS->Option R) (r:R),pd np con bY inert tc s K=af r->∀ (φ:PM) (a:Act) (w:World),oS P E nt np φ s a w->c.wp P (aii P E nt np φ s w (tc.asg 0) K r) a w:=by
 intro tc sc hE;induction hE with
 |skip=>
  intro c hc R s K r h φ a w g;obtain⟨c',hn,I,hsim⟩:=j8 P nt c;refine hsim _ _ _ ?_;rw[<- I] at hc;rw[abk hn hc];exact wp_skip ⟨.normal,s,φ,rfl,h,g,Cx.refl _ _ _ _,gA.refl _ _⟩
 |reg ops prs=>
  intro c hc R s K r h φ a w g;obtain⟨c',hn,I,hsim⟩:=j8 P nt c;refine hsim _ _ _ ?_;rw[<- I] at hc;obtain⟨id,os,dr,rfl,h1,h2,h3⟩:=afc hn hc;simp only[pd] at h;refine aav (K:=λs'=>K .normal s') hm hcon g (am:=PO ops 0) (λj o d ho hd=>?_) h1 h2 h3 h λa' w' s' φ' Z J q3 q4=>⟨.normal,s',φ',rfl,Z,J,q3,q4⟩
  have hmem:o∈os.toList:=by have:=Array.mem_of_getElem? ho;simpa using this
  have key:∀ (rest:List Oper) (sl:List sQ),sg P os rest=af sl->∀ o∈rest,∃ so∈sl,so.dst=o.dst:=by
   intro rest;induction rest with
   |nil=>intro sl _ o ho;cases ho
   |cons x rest ih=>
    intro sl hsl o ho;simp only[sg] at hsl;split at hsl
    .rename_i l hl;have:∃ so,sl=so::l/\so.dst=x.dst:=by
      split at hsl
      .simp only[ak] at hsl;exact⟨_,hsl.symm,rfl⟩
      .split at hsl
       .simp only[ak] at hsl;exact⟨_,hsl.symm,rfl⟩
       .cases hsl
     obtain⟨so,rfl,hso⟩:=this;rcases bp.1 ho with rfl|ho
     .exact⟨so,by simp,hso⟩
     .obtain⟨q,hq,hq2⟩:=ih l hl o ho;exact⟨q,by simp[hq],hq2⟩
    .cases hsl
  obtain⟨so,hso,hd2⟩:=key os.toList ops h2 o hmem;exact Tf hso (by rw[hd2];exact hd)
 |@seq x y x' y' _ _ ihx ihy=>
  intro c hc R s K r h φ a w g;obtain⟨c',hn,I,hsim⟩:=j8 P nt c;refine hsim _ _ _ ?_;rw[<- I] at hc;obtain⟨cx,cy,rfl,h1,h2⟩:=Xs hn hc;simp only[pd] at h;refine wp_seq (wp_mono (ihx cx h1 R s _ r h φ a w g) ?_);rintro e a' w' ⟨ex,s',φ',rfl,hk,g',st,M⟩;have kp':gA ((TC.seq x y).asg 0) s.e s'.e:=M.mono λk hk=>by simp only[TC.asg];exact kn hk
  cases ex with
  |normal=>
   refine wp_mono (ihy cy h2 R s' K r hk φ' a' w' g') ?_;rintro e2 a2 w2 ⟨ex2,s2,φ2,rfl,hk2,g2,st2,kp2⟩;exact⟨ex2,s2,φ2,rfl,hk2,g2,st.trans st2,kp'.trans (kp2.mono λk hk=>by simp only[TC.asg];exact vH hk)⟩
  |exit id=>exact⟨.exit id,s',φ',rfl,hk,g',st,kp'⟩
  |ret=>exact⟨.ret,s',φ',rfl,hk,g',st,kp'⟩
 |@jseq A x y x' y' _ _ ihx ihy=>
  intro c hc R s K r h φ a w g;obtain⟨c',hn,I,hsim⟩:=j8 P nt c;refine hsim _ _ _ ?_;rw[<- I] at hc;obtain⟨cx,cy,rfl,h1,h2⟩:=Xs hn hc;simp only[pd] at h;have sub1:∀ k,aN (x.asg 0) k=ai->aN ((TC.jseq A x y).asg 0) k=ai:=λk hk=>by simp only[TC.asg];exact kn (vH hk)
  have sub2:∀ k,aN (y.asg 0) k=ai->aN ((TC.jseq A x y).asg 0) k=ai:=λk hk=>by simp only[TC.asg];exact vH hk
  have sub3:∀ k,aN (LF A.ks 0) k=ai->aN ((TC.jseq A x y).asg 0) k=ai:=λk hk=>by simp only[TC.asg];exact kn (kn hk)
  rcases Xq h with ⟨d,h3,h4⟩|h3
  .refine wp_seq (wp_mono (ihx cx h1 _ s _ _ h3 φ a w g) ?_);rintro e a' w' ⟨ex,s',φ',rfl,hk,g',st,M⟩;cases ex with
   |normal=>
    simp only[] at hk;obtain⟨d',Z,J⟩:=dK hk;simp only[ak,Sum.inr.injEq] at J;subst J;split at h4
    .rename_i s1 Y;obtain⟨φ1,g1,Ir⟩:=OC g' Z Y λk _ _ v hv hf ha v' U=>by
      obtain⟨v0,e1,e2⟩:=M k ha v' U;rw[hv] at e1;cases e1;exact e2 hf
     refine wp_mono (ihy cy h2 R s1 K r h4 φ1 a' w' g1) ?_;rintro e2 a2 w2 ⟨ex2,s2,φ2,rfl,hk2,g2,st2,kp2⟩;exact⟨ex2,s2,φ2,rfl,hk2,g2,(st.trans Ir).trans st2,((Ew Y).1.mono sub3).trans (kp2.mono sub2)⟩
    .cases h4
   |exit id=>simp only[] at hk;obtain⟨_,_,J⟩:=dK hk;simp at J
   |ret=>simp only[] at hk;obtain⟨_,_,J⟩:=dK hk;simp at J
  .refine wp_seq (wp_mono (ihx cx h1 _ s _ _ h3 φ a w g) ?_);rintro e a' w' ⟨ex,s',φ',rfl,hk,g',st,M⟩;cases ex with
   |normal=>simp only[] at hk;obtain⟨_,_,J⟩:=dK hk;simp at J
   |exit id=>
    simp only[] at hk;obtain⟨r',Z,J⟩:=dK hk;simp only[ak,Sum.inl.injEq] at J;subst J;exact⟨.exit id,s',φ',rfl,Z,g',st,M.mono sub1⟩
   |ret=>
    simp only[] at hk;obtain⟨r',Z,J⟩:=dK hk;simp only[ak,Sum.inl.injEq] at J;subst J;exact⟨.ret,s',φ',rfl,Z,g',st,M.mono sub1⟩
 |@cond t x y x' y' _ _ ihx ihy=>
  intro c hc R s K r h φ a w g;obtain⟨c',hn,I,hsim⟩:=j8 P nt c;refine hsim _ _ _ ?_;rw[<- I] at hc;obtain⟨cx,cy,rfl,h1,h2⟩:=abm hn hc;simp only[pd] at h;split at h
  .rename_i b hb;rcases pB h with ⟨rfl,h⟩|⟨rfl,h⟩
   .refine wp_cond_true (g.bool hb) (wp_mono (ihx cx h1 R s K r h φ a w g) ?_);rintro e a' w' ⟨ex,s',φ',rfl,hk,g',st,M⟩;exact⟨ex,s',φ',rfl,hk,g',st,M.mono λk hk=>by simp only[TC.asg];exact kn hk⟩
   .refine wp_cond_false (g.bool hb) (wp_mono (ihy cy h2 R s K r h φ a w g) ?_);rintro e a' w' ⟨ex,s',φ',rfl,hk,g',st,M⟩;exact⟨ex,s',φ',rfl,hk,g',st,M.mono λk hk=>by simp only[TC.asg];exact vH hk⟩
  .rename_i hb;obtain⟨ha,hbb⟩:=Zp h;obtain⟨bv,hbv⟩:=g.anyb hb;cases bv with
   |true=>
    refine wp_cond_true hbv (wp_mono (ihx cx h1 R s K r ha φ a w g) ?_);rintro e a' w' ⟨ex,s',φ',rfl,hk,g',st,M⟩;exact⟨ex,s',φ',rfl,hk,g',st,M.mono λk hk=>by simp only[TC.asg];exact kn hk⟩
   |false=>
    refine wp_cond_false hbv (wp_mono (ihy cy h2 R s K r hbb φ a w g) ?_);rintro e a' w' ⟨ex,s',φ',rfl,hk,g',st,M⟩;exact⟨ex,s',φ',rfl,hk,g',st,M.mono λk hk=>by simp only[TC.asg];exact vH hk⟩
  .cases h
 |@block id b b' _ ih=>
  intro c hc R s K r h φ a w g;obtain⟨c',hn,I,hsim⟩:=j8 P nt c;refine hsim _ _ _ ?_;rw[<- I] at hc;obtain⟨cb,rfl,h1⟩:=M5 hn hc;simp only[pd] at h;refine wp_block (wp_mono (ih cb h1 R s _ r h φ a w g) ?_);rintro e a' w' ⟨ex,s',φ',rfl,hk,g',st,M⟩;cases ex with
  |normal=>exact⟨.normal,s',φ',rfl,hk,g',st,M⟩
  |ret=>exact⟨.ret,s',φ',rfl,hk,g',st,M⟩
  |exit i=>
   simp only[Ex.to,Exit.inBlock];simp only[] at hk;split at hk
   .rename_i hb;rw[aE (aw hb)];exact⟨.normal,s',φ',rfl,hk,g',st,M⟩
   .rename_i hb;rw[ay (λe=>hb (by rw[e];exact rW id))];exact⟨.exit i,s',φ',rfl,hk,g',st,M⟩
 |@jblock A id b b' _ ih=>
  intro c hc R s K r h φ a w g;obtain⟨c',hn,I,hsim⟩:=j8 P nt c;refine hsim _ _ _ ?_;rw[<- I] at hc;obtain⟨cb,rfl,h1⟩:=M5 hn hc;simp only[pd] at h;have sub1:∀ k,aN (b.asg 0) k=ai->aN ((TC.jblock A id b).asg 0) k=ai:=λk hk=>by simp only[TC.asg];exact vH hk
  have sub3:∀ k,aN (LF A.ks 0) k=ai->aN ((TC.jblock A id b).asg 0) k=ai:=λk hk=>by simp only[TC.asg];exact kn hk
  rcases Xq h with ⟨d,h3,h4⟩|h3
  .refine wp_block (wp_mono (ih cb h1 _ s _ _ h3 φ a w g) ?_);rintro e a' w' ⟨ex,s',φ',rfl,hk,g',st,M⟩;have fin:obind (L6 np A (b.asg 0) s s') (λx=>af (bP (α:=R) x))=af (bP d)->aii P E nt np φ s w ((TC.jblock A id b).asg 0) K r .normal a' w':=by
    intro hk;obtain⟨d',Z,J⟩:=dK hk;simp only[ak,Sum.inr.injEq] at J;subst J;split at h4
    .rename_i s1 Y;obtain⟨φ1,g1,Ir⟩:=OC g' Z Y λk _ _ v hv hf ha v' U=>by
      obtain⟨v0,e1,e2⟩:=M k ha v' U;rw[hv] at e1;cases e1;exact e2 hf
     exact⟨.normal,s1,φ1,rfl,h4,g1,st.trans Ir,(Ew Y).1.mono sub3⟩
    .cases h4
   cases ex with
   |normal=>exact fin hk
   |ret=>simp only[] at hk;obtain⟨_,_,J⟩:=dK hk;simp at J
   |exit i=>
    simp only[Ex.to,Exit.inBlock];simp only[] at hk;split at hk
    .rename_i hb;rw[aE (aw hb)];exact fin hk
    .obtain⟨_,_,J⟩:=dK hk;simp at J
  .refine wp_block (wp_mono (ih cb h1 _ s _ _ h3 φ a w g) ?_);rintro e a' w' ⟨ex,s',φ',rfl,hk,g',st,M⟩;cases ex with
   |normal=>simp only[] at hk;obtain⟨_,_,J⟩:=dK hk;simp at J
   |ret=>
    simp only[] at hk;obtain⟨r',Z,J⟩:=dK hk;simp only[ak,Sum.inl.injEq] at J;subst J;exact⟨.ret,s',φ',rfl,Z,g',st,M.mono sub1⟩
   |exit i=>
    simp only[Ex.to,Exit.inBlock];simp only[] at hk;split at hk
    .obtain⟨_,_,J⟩:=dK hk;simp at J
    .rename_i hb;rw[ay (λe=>hb (by rw[e];exact rW id))];obtain⟨r',Z,J⟩:=dK hk;simp only[ak,Sum.inl.injEq] at J;subst J;exact⟨.exit i,s',φ',rfl,Z,g',st,M.mono sub1⟩
 |@loop A b b' _ ih=>
  intro c hc R s K r h φ a w g;obtain⟨c',hn,I,hsim⟩:=j8 P nt c;refine hsim _ _ _ ?_;rw[<- I] at hc;obtain⟨cb,rfl,h1⟩:=Q1 hn hc;simp only[pd] at h;obtain⟨x0,hx0,h⟩:=dK h;obtain⟨n,hn⟩:=Yt h;have sub1:∀ k,aN (b.asg 0) k=ai->aN ((TC.loop A b).asg 0) k=ai:=λk hk=>by simp only[TC.asg];exact vH hk
  have sub3:∀ k,aN (LF A.ks 0) k=ai->aN ((TC.loop A b).asg 0) k=ai:=λk hk=>by simp only[TC.asg];exact kn hk
  obtain⟨step,hstep⟩:∃ step:A.D->Option (A.D⊕R),step=λx=>(match Hb A (b.asg 0) s x with
   |some s'=>pd np con bY inert b s' λex s'=>(match ex with
    |.normal=>obind (L6 np A (b.asg 0) s s') λy=>af (lz y)
    |ex=>obind (K ex s') λr=>af (bP r))
   |none=>ah):=⟨_,rfl⟩
  have hn:iterN step n x0=af r:=by rw[hstep];exact hn
  have stepEq:∀ x,step x=(match Hb A (b.asg 0) s x with
   |some s'=>pd np con bY inert b s' λex s'=>(match ex with
    |.normal=>obind (L6 np A (b.asg 0) s s') λy=>af (lz y)
    |ex=>obind (K ex s') λr=>af (bP r))
   |none=>ah):=λx=>by rw[hstep]
  let Inv:Nat->Act->World->Prop:=λn a w'=>∃ x s1 φ1,iterN step n x=af r/\Hb A (b.asg 0) s x=af s1/\oS P E nt np φ1 s1 a w'/\Cx np φ φ1 (bD s.h) (bD s1.h) w w'
  have head:∀ (n:Nat) (x:A.D),iterN step n x=af r->∃ s1,Hb A (b.asg 0) s x=af s1:=by
   intro n x hn;cases n with
   |zero=>cases hn
   |succ n=>
    simp only[iterN] at hn;cases hr:Hb A (b.asg 0) s x with
    |some s1=>exact⟨s1,rfl⟩
    |none=>rw[stepEq,hr] at hn;cases hn
  refine CC Inv ?_ (n:=n) ?_
  .rintro n a1 w1 ⟨x,s1,φ1,hi,hr,g1,Ir⟩;cases n with
   |zero=>cases hi
   |succ n=>
    simp only[iterN] at hi;have hse:=stepEq x;rw[hr] at hse;simp only[] at hse;obtain⟨kp1,kp1'⟩:=Ew hr;split at hi
    .rename_i y hy;rw[hy] at hse;refine wp_mono (ih cb h1 _ s1 _ _ hse.symm φ1 a1 w1 g1) ?_;rintro e a' w' ⟨ex,s',φ',rfl,hk,g',st,M⟩;cases ex with
     |normal=>
      simp only[] at hk;obtain⟨d',Z,J⟩:=dK hk;simp only[ak,Sum.inl.injEq] at J;subst J;obtain⟨s2,hs2⟩:=head n d' hi;obtain⟨φ2,g2,st2⟩:=OC g' Z hs2 λk hkk hks v hv hf ha v' U=>by
       obtain⟨v0,e1,e2⟩:=M k ha v' U;have:=kp1' k hks v0 e1;rw[hv] at this;cases this;exact e2 hf
      exact⟨n,by omega,d',s2,φ2,hi,hs2,g2,(Ir.trans st).trans st2⟩
     |exit id=>simp only[] at hk;obtain⟨_,_,J⟩:=dK hk;simp at J
     |ret=>simp only[] at hk;obtain⟨_,_,J⟩:=dK hk;simp at J
    .rename_i r' hy;cases hi;rw[hy] at hse;refine wp_mono (ih cb h1 _ s1 _ _ hse.symm φ1 a1 w1 g1) ?_;rintro e a' w' ⟨ex,s',φ',rfl,hk,g',st,M⟩;cases ex with
     |normal=>simp only[] at hk;obtain⟨_,_,J⟩:=dK hk;simp at J
     |exit id=>
      simp only[] at hk;obtain⟨r',Z,J⟩:=dK hk;simp only[ak,Sum.inr.injEq] at J;subst J;exact⟨.exit id,s',φ',rfl,Z,g',Ir.trans st,(kp1.mono sub3).trans (M.mono sub1)⟩
     |ret=>
      simp only[] at hk;obtain⟨r',Z,J⟩:=dK hk;simp only[ak,Sum.inr.injEq] at J;subst J;exact⟨.ret,s',φ',rfl,Z,g',Ir.trans st,(kp1.mono sub3).trans (M.mono sub1)⟩
    .cases hi
  .obtain⟨s1,Y⟩:=head n x0 hn;obtain⟨φ1,g1,Ir⟩:=OC g hx0 Y λk _ _ v hv _ _ v' U=>by rw[hv] at U;cases U;rfl
   exact⟨x0,s1,φ1,hn,Y,g1,Ir⟩
 |exit id=>
  intro c hc R s K r h φ a w g;obtain⟨c',hn,I,hsim⟩:=j8 P nt c;refine hsim _ _ _ ?_;rw[<- I] at hc;rw[abl hn hc];exact wp_exit ⟨.exit id,s,φ,rfl,h,g,Cx.refl _ _ _ _,gA.refl _ _⟩
 |ret=>
  intro c hc R s K r h φ a w g;obtain⟨c',hn,I,hsim⟩:=j8 P nt c;refine hsim _ _ _ ?_;rw[<- I] at hc;rw[afb hn hc];exact wp_ret ⟨.ret,s,φ,rfl,h,g,Cx.refl _ _ _ _,gA.refl _ _⟩
 |defer f caps t=>
  intro c hc R s K r h φ a w g;obtain⟨c',hn,I,hsim⟩:=j8 P nt c;refine hsim _ _ _ ?_;rw[<- I] at hc;obtain⟨id,ops,dr,rfl,h1,h2⟩:=Yu hn hc;simp only[pd] at h;split at h
  .rename_i l hl;split at h
   .rename_i hi;obtain⟨l',e1,e2⟩:=yZ g.invE hl;obtain⟨H,hH⟩:=jM s.h;have lowN:∀ n k,φ n=af k->n<2*s.nx+2:=λn k hk=>by have:=g.dom n k hk;unfold ow at this;omega
    have cfg:Cfg P ⟨2*s.nx+2,φ,E,bD s.h,w⟩ nt ⟨JH s.e s.h,H,2*s.nx+2,0⟩ a w:=by
     refine ⟨⟨φ,?_,?_,?_,lowN,λi k hk=>.inl hk⟩,bV _,g.inert,g.size⟩
     .rw[hH];exact ja.refl _ _ _
     .rw[hH];exact g.rep
     .rw[hH,vB];exact g.env
    refine R5 hin cfg h1 h2 e1 hi λa' w' c'=>?_
    obtain⟨φ',m',r',en',dm',d0'⟩:=c'.ex;have hφ:φ'=φ:=by
     funext n;cases hx:φ n with
     |some k=>exact m'.sub n k hx
     |none=>
      cases hy:φ' n with
      |none=>rfl
      |some k=>
       rcases d0' n k hy with h3|h3
       .have h3:φ n=af k:=h3;rw[hx] at h3;cases h3
       .have h4:n<2*s.nx+2:=dm' n k hy;have h5:2*s.nx+2<=n:=h3;omega
    subst hφ;simp only[hH] at m' r' en';refine ⟨.normal,_,φ',rfl,h,⟨r',?_,g.dom,g.low,g.invH,?_,c'.inert,c'.size⟩,⟨m'.ext,m'.own_,λ_ _=>rfl⟩,?_⟩
    .intro u x hx;refine en' u x ?_;simp only[fX,PT.get_set] at hx;simp only[Ad.put,PT.get_set];split at hx
     .rename_i eu;rw[aE eu];simp only[aI,cr,e2,ak] at hx;rw[hx]
     .rename_i eu;rw[ay eu,vB];exact hx
    .intro u x hx;simp only[PT.get_set] at hx;split at hx
     .cases hx;simp only[LB];exact kO _ _ _ e2
     .exact g.invE u x hx
    .intro k hk v' U;simp only[PT.get_set] at U;split at U
     .rename_i ek;subst ek;simp only[TC.asg] at hk;rw[bu,b7.2 rfl] at hk;simp at hk
     .exact⟨v',U,λ_=>rfl⟩
   .cases h
  .cases h
 |@adj l tc' sc' _ ih=>
  intro c hc R s K r h φ a w g;obtain⟨c',hn,I,hsim⟩:=j8 P nt c;refine hsim _ _ _ ?_;rw[<- I] at hc;simp only[pd] at h;split at h
  .rename_i s1 Y;obtain⟨φ1,g1,Ir,kp1⟩:=Wq g Y;refine wp_mono (ih c' hc R s1 K r h φ1 a w g1) ?_;rintro e a' w' ⟨ex,s',φ',rfl,hk,g',st,M⟩;exact⟨ex,s',φ',rfl,hk,g',Ir.trans st,(kp1.mono λk hk=>by simp only[TC.asg];exact kn hk).trans (M.mono λk hk=>by simp only[TC.asg];exact vH hk)⟩
  .cases h
 |@split k off lo n tc' sc' _ ih=>
  intro c hc R s K r h φ a w g;obtain⟨c',hn,I,hsim⟩:=j8 P nt c;refine hsim _ _ _ ?_;rw[<- I] at hc;simp only[pd] at h;split at h
  .rename_i kd v hv;obtain⟨j,hj,h2⟩:=Qt h;subst hj;split at h2
   .rename_i s1 Y;obtain⟨g1,hH,he⟩:=aar g hv Y;refine wp_mono (ih c' hc R s1 K r h2 φ a w g1) ?_;rintro e a' w' ⟨ex,s',φ',rfl,hk,g',st,M⟩;exact⟨ex,s',φ',rfl,hk,g',by rw[<- hH];exact st,λk hk v' U=>by
     obtain⟨v,Z,J⟩:=M k hk v' U;exact⟨v,by rw[<- he];exact Z,J⟩⟩
   .cases h2
  .cases h
 |@unl n b b' _ ih=>
  intro c hc R s K r h φ a w g;obtain⟨c',hn,I,hsim⟩:=j8 P nt c;refine hsim _ _ _ ?_;rw[<- I] at hc;obtain⟨cb,rfl,h1⟩:=Q1 hn hc;simp only[pd] at h
  let Inv:Nat->Act->World->Prop:=λm a w'=>∃ s1 φ1,aej (λs K=>pd np con bY inert b s K) m s1 K=af r/\oS P E nt np φ1 s1 a w'/\Cx np φ φ1 (bD s.h) (bD s1.h) w w'/\gA (b.asg 0) s.e s1.e
  refine CC Inv ?_ (n:=n) ⟨s,φ,h,g,Cx.refl _ _ _ _,gA.refl _ _⟩;rintro m a1 w1 ⟨s1,φ1,hi,g1,Ir,kp1⟩;cases m with
  |zero=>cases hi
  |succ m=>
   simp only[aej] at hi;refine wp_mono (ih cb h1 R s1 _ r hi φ1 a1 w1 g1) ?_;rintro e a' w' ⟨ex,s',φ',rfl,hk,g',st,M⟩;cases ex with
   |normal=>exact⟨m,Cu m,s',φ',hk,g',Ir.trans st,kp1.trans M⟩
   |exit id=>exact⟨.exit id,s',φ',rfl,hk,g',Ir.trans st,kp1.trans M⟩
   |ret=>exact⟨.ret,s',φ',rfl,hk,g',Ir.trans st,kp1.trans M⟩
 |bad sc'=>
  intro c hc R s K r h;simp[pd] at h
theorem Of {P:Program} {φ:PM} {E:Nat->Prop} {s:TS} {a:Act} {w:World} (hinv:me s.h s.nx) (hiE:tU s.e s.h) (r:ri φ E (bD s.h) w) (en:NU φ (tot E φ (bD s.h)) w (fX s.e s.h) a):∀ (rs:List ResultVar) (rvs:List RV) (l:List TV),vG P rs=af rvs->Ur s rvs=af l->
 ∃ la vs,cN s.h l=af la/\(rs.mapM (Yh a.tmps)).run P w= .ok vs w/\jX φ (tot E φ (bD s.h)) w la vs
 |[],rvs,l,hc,hr=>by
  simp only[vG,ak] at hc;subst hc;simp only[Ur,ak] at hr;subst hr;exact⟨[],[],rfl,by simp,trivial⟩
 |.tmp t::rs,rvs,l,hc,hr=>by
  simp only[vG] at hc;split at hc
  .rename_i rvs' hrs;simp only[ak] at hc;subst hc;simp only[Ur] at hr;split at hr
   .rename_i v hv;split at hr
    .rename_i M I;simp only[ak] at hr;subst hr;obtain⟨la,vs,h0,h1,h2⟩:=Of hinv hiE r en rs rvs' M hrs I;simp only[rvT] at hv;obtain⟨y,Y⟩:=qf s.h v (hiE t v hv);refine ⟨y::la,a.tmps.getD t undef::vs,o8 Y h0,?_,en t y (by simp only[fX,hv,aI,Y]),h2⟩;simp only[List.mapM_cons,eJ,Yh,oU,cL];show ((rs.mapM (Yh a.tmps)).run P w).andThen _=_;rw[h1];rfl
    .cases hr
   .cases hr
  .cases hc
 |.cell ad t::rs,rvs,l,hc,hr=>by
  simp only[vG] at hc;split at hc
  .rename_i rvs' sz ag hrs hsz hag;simp only[ak] at hc;subst hc;simp only[Ur] at hr;split at hr
   .rename_i v hv;split at hr
    .rename_i M I;simp only[ak] at hr;subst hr;obtain⟨la,vs,h0,h1,h2⟩:=Of hinv hiE r en rs rvs' M hrs I;simp only[rvT] at hv;split at hv
     .rename_i id off hp;split at hv
      .rename_i ty q hb;obtain⟨q',J⟩:=fx s.h q (hinv.cells id ty q hb);obtain⟨y,e1,e2⟩:=WV J hv;obtain⟨H,Z⟩:=jM s.h;have hR:Ea H sz ag (.ptr (nm id) off)=af ⟨y,[nm id],[],[],[]⟩:=by
        have hg:H.get (nm id)=af ⟨ty,.mx q'⟩:=by rw[Z,bK,hb];simp only[aI,kC,J]
        simp only[Ea,hg,e2]
       obtain⟨_,_,_,h3⟩:=Tj (P:=P) hsz hag hR;obtain⟨qq,U,h4,h5,h6⟩:=h3 φ E (bD s.h) w _ (λi _=>by rw[Z]) r (en ad _ (by simp only[fX,hp,aI,cr]));refine ⟨y::la,U::vs,o8 e1 h0,?_,h6,h2⟩;have hone:(Yh a.tmps (.cell ad t)).run P w= .ok U w:=by
        simp only[Yh,eJ,h4,asAddr,oU,cL,h5]
       rw[List.mapM_cons];simp only[eJ,hone,cL,h1,oU]
      .cases hv
     .cases hv
    .cases hr
   .cases hr
  .cases hc
theorem Fz:∀ (args:List TV) (k t:Nat) (x:TV),(KY k args).get t=af x->k<=t/\args[t-k]? =af x
 |[],k,t,x,h=>by simp[KY,PT.get] at h
 |y::args,k,t,x,h=>by
  rw[KY,PT.get_set] at h;split at h
  .rename_i hk;subst hk;cases h;exact⟨bV _,by simp⟩
  .obtain⟨h1,h2⟩:=Fz args (k+1) t x h;refine ⟨by omega,?_⟩;rw[show t-k=t-(k+1)+1 from by omega];simpa using h2
theorem ab6 {h:bl} {l:List TV} (J:kS h l=ai) {j:Nat} {v:TV} (hj:l[j]? =af v):LB h v=ai:=by
 obtain⟨M,hl⟩:=fx h l J;obtain⟨y,_,I⟩:=ma hl j v hj;exact Fg _ _ _ I
theorem Uj {P:Program} {con:FuncId->Option cg} {bY:TypeId->Option Ty} {inert:FuncId->Bool} (hm:P.follows .mixedOrders=ai) (hcon:Lk P con) (hin:Lf P inert) {f:FuncId} {sf:SF} (hf:zW P f=af sf) (D:FT) (m:D.pre.ty.den->Option D.post.ty.den) (hmod:∀ x y,m x=af y->aaj con bY inert (af sf) D x=af y):pV P f ⟨D.pre,D.post,m⟩:=by
 obtain⟨fn,c,hfn,hb,hnm,hcode,hres,hnt⟩:=S6 hf;refine ⟨⟨fn,hfn,by rw[hb];rfl,hnm⟩,λx y hxy vs hp l1 rs hq l2 la lr I J hla hlr φ E w us hrep hrel hdom=>?_⟩;have ht:=hmod x y hxy;unfold aaj at ht;simp only[] at ht;split at ht
 .rename_i args h hins;obtain⟨l1',I'⟩:=wN hins;have e1:args=vs:=by have h1:=I.pv;have h2:=I'.pv;rw[h1] at h2;cases h2;rfl
  have e2:l1'=l1:=by have h1:=I.pb;have h2:=I'.pb;rw[h1] at h2;cases h2;rfl
  subst e1;subst e2;have hget:∀ i,h.get i=hp.get i:=λi=>by
   cases h3:hp.get i with
   |some b=>exact (I'.at_ i b).2 ((I.at_ i b).1 h3)
   |none=>
    cases h4:h.get i with
    |none=>rfl
    |some b=>have:=(I.at_ i b).2 ((I'.at_ i b).1 h4);rw[h3] at this;cases this
  have hrow:∀ i,eC h i=eC hp i:=λi=>by rw[bU,bU,hget]
  have herH:bD h=bD hp:=by
   funext n;by_cases hn:∃ i,n=nm i
   .obtain⟨i,rfl⟩:=hn;rw[bK,bK,hget];cases h3:hp.get i with
    |none=>rfl
    |some b=>
     simp only[aI];refine JI (λi r hr=>by rw[hrow];exact hr) λty l e=>?_
     exact (I.cells i ty l (by rw[h3,e])).1
   .rw[wS _ hn,wS _ hn]
  have hla':cN h args=af la:=hX (λi r hr=>by rw[hrow];exact hr) args la hla;split at ht
  .rename_i hle;simp only[av] at hle;have hle2:=a8 hle.2;have hle:=a8 hle.1;have hlen:=hrel.length;have hargl:args.length=la.length:=(ic hla).symm;refine calls_of_wp_defers hfn hb ?_;have hcfg:oS P E fn.ntmps D.pre.bs.length φ ⟨KY 0 args,h,D.pre.bs.length⟩ {tmps:=us.toArray++oC (fn.ntmps-us.toArray.size) undef,defers:=[]} w:=by
    refine ⟨by rw[herH];exact hrep,?_,hdom,bV _,⟨λi ty l hl=>(I'.cells i ty l hl).1,λi b hbb=>I'.lt_len hbb⟩,?_,by simp,by simp;omega⟩
    .intro t z U;simp only[fX] at U;cases Z:(KY 0 args).get t with
     |none=>rw[Z] at U;cases U
     |some v0=>
      rw[Z] at U;obtain⟨_,h2⟩:=Fz args 0 t v0 Z;rw[Nat.sub_zero] at h2;obtain⟨y0,q1,Y⟩:=ma hla' t v0 h2;simp only[aI] at U;rw[U] at Y;cases Y;obtain⟨v,h3,h4⟩:=hrel.get t z q1;have hlt:t<us.length:=(bn.1 h3).1;have:(us.toArray++oC (fn.ntmps-us.toArray.size) undef).getD t undef=v:=by
       rw[gJ,Array.getElem?_append];simp only[tD,hlt,bG,ko,h3,ve]
      show cO φ _ w z ((us.toArray++oC (fn.ntmps-us.toArray.size) undef).getD t undef);rw[this,herH];exact h4
    .intro t v0 hv0;obtain⟨_,h2⟩:=Fz args 0 t v0 hv0;exact ab6 I'.ok h2
   refine wp_mono (aj0 (E:=E) hm hcon hin (xW D.hints sf.code 0) c hcode.symm _ _ _ _ ht φ _ w hcfg) ?_;rintro e a' w' ⟨ex,s',φ',rfl,hk,g',st,_⟩;have fin:(match Ur s' sf.res with
    |some l=>(match EL D.pre.bs.length D.post l s'.h with
     |some ⟨y,_,_,_⟩=>(match Dc D.post y with|some _=>af y|none=>ah)
     |none=>ah)
    |none=>ah)=af y->Leaves P fn a'.tmps (λen w'=>∃ v φ',en= .returned v/\Lh (own φ (bD hp)) w w'/\(∀ k,k<w.heap.size->own φ' (bD hq) k->own φ (bD hp) k)/\(∀ i,i<D.pre.bs.length->φ' (nm i)=φ (nm i))/\ri φ' E (bD hq) w'/\cO φ' (tot E φ' (bD hq)) w' (Es lr) v) a'.defers .returning w':=by
    intro hk;split at hk
    .rename_i l hl;split at hk
     .rename_i y' m' σ sm hM;split at hk
      .simp only[ak] at hk;subst hk;obtain⟨lo,rvs,q0,q1,Y⟩:=Of g'.invH g'.invE g'.rep g'.env fn.results.toList sf.res l hres hl;have M:=wH hM;obtain⟨φ2,lu,hlu,S⟩:=Lw (np:=D.pre.bs.length) (E:=E) J g'.invH M q0 g'.rep;rw[hlr] at hlu;cases hlu;have hresults:(results fn a'.tmps).run P w'= .ok (if h:rvs.toArray.size=1 then rvs.toArray[0] else .tuple rvs.toArray) w':=by
        rw[Ut,Array.mapM_eq_mapM_toList];simp only[eJ,Sem.run_map,q1,cL,oU]
       have hrl:jX φ2 (tot E φ2 (bD hq)) w' lr rvs:=by
        refine jX.of (by rw[Y.length,S.len]) λj z v U hv=>?_
        obtain⟨z0,p1,p2⟩:=S.val j z v U;obtain⟨v',p3,p4⟩:=Y.get j z0 p1;rw[hv] at p3;cases p3;exact p2 p4
       have hval:cO φ2 (tot E φ2 (bD hq)) w' (Es lr) (if h:rvs.toArray.size=1 then rvs.toArray[0] else .tuple rvs.toArray):=by
        have hll:=hrl.length;clear hlr S;cases lr with
        |nil=>
         cases rvs with
         |nil=>exact cO.tup (vs:=[]) rfl (by intro j x v Z;simp at Z)
         |cons _ _=>exact hrl.elim
        |cons z lr=>
         cases rvs with
         |nil=>exact hrl.elim
         |cons v rvs=>
          cases lr with
          |nil=>
           cases rvs with
           |nil=>exact hrl.1
           |cons _ _=>exact hrl.2.elim
          |cons y l=>
           cases rvs with
           |nil=>exact hrl.2.elim
           |cons u rvs=>
            rw[dif_neg (by simp)];refine cO.tup (vs:=v::u::rvs) (by simpa using hll) λj x' v' Z hv=>?_
            obtain⟨v'',q1,Y⟩:=hrl.get j x' Z;rw[hv] at q1;cases q1;exact Y
       have st':Cx D.pre.bs.length φ φ' (bD hp) (bD s'.h) w w':=by rw[<- herH];exact st
       refine C7 hresults ⟨_,φ2,rfl,st'.ext,λk hk ho=>st'.own_ k hk (S.own_ k ho),λi hi=>?_,S.rep,hval⟩ a'.defers g'.inert;rw[S.par i hi (dD hi hle2),st'.par i hi]
      .cases hk
     .cases hk
    .cases hk
   cases ex with
   |normal=>exact fin hk
   |ret=>exact fin hk
   |exit id=>cases hk
  .cases ht
 .cases ht
def V2:List (FuncId×cg)->FuncId->Option cg
 |[],_=>ah
 |(g,c)::r,f=>if aC g f then af c else V2 r f
def T8 (P:Program):List (FuncId×cg)->Prop
 |[]=>True
 |p::r=>aH P p.1 p.2/\T8 P r
theorem XP {P:Program}:∀ {l:List (FuncId×cg)},T8 P l->Lk P (V2 l)
 |[],_,f,c,h=>by simp[V2] at h
 |(g,d)::r,I,f,c,h=>by
  simp only[V2] at h;split at h
  .rename_i hb;have:=aw hb;subst this;cases h;exact I.1
  .exact XP I.2 f c h
theorem Rx {P:Program} {inert:FuncId->Bool} (hm:P.follows .mixedOrders=ai) (hin:Lf P inert) {l:List (FuncId×cg)} (I:T8 P l) {bY:TypeId->Option Ty} {f:FuncId} {D:FT} {m:D.pre.ty.den->Option D.post.ty.den} (hs:(zW P f).isSome=ai) (he:∀ x,aaj (V2 l) bY inert (zW P f) D x=m x):pV P f ⟨D.pre,D.post,m⟩:=by
 obtain⟨J,hf⟩:=iN.1 hs;exact Uj hm (XP I) hin hf D m λx y hxy=>by rw[<- hf,he];exact hxy
theorem pV.sub {P:Program} {f:FuncId} {pre post:Tm} {m m':pre.ty.den->Option post.ty.den} (h:pV P f ⟨pre,post,m⟩) (hs:∀ x y,m' x=af y->m x=af y):pV P f ⟨pre,post,m'⟩:=
 ⟨h.callable,λx y hxy=>h.calls x y (hs x y hxy)⟩
theorem aH.sub {P:Program} {f:FuncId} {pre post:Tm} {m m':pre.ty.den->Option post.ty.den} (h:aH P f ⟨pre,post,m⟩) (hb:eK pre.bs.length post.bs.length=ai) (hs:∀ x y,m' x=af y->m x=af y):aH P f ⟨pre,post,m'⟩:=
 ((h.holds hb).sub hs).toC hb
theorem rT {α:Type} {b:Nat}:∀ (x y:List α),chk (a_ (al x) b) (λ_=>af x)=af y->bcase (aC (al x) 0) (Fx (af ([]:List α)) (chk (a_ (al ([]:List α)+al x) b) λ_=>(af (([]:List α)++x)))) (chk (a_ (al ([]:List α)+al x) b) λ_=>(af (([]:List α)++x)))=af y:=by
 intro x y h;rw[lV,jU,bN,h];cases x with
 |nil=>
  obtain⟨_,h⟩:=dZ h;cases h;show Fx (af []) (af [])=_;unfold Fx;rw[aE rfl]
 |cons a r=>rfl
theorem Va {P:Program} {f:FuncId} {pre post:Tm} (hs:(zW P f).isSome=ai):pV P f ⟨pre,post,λ_=>ah⟩:=by
 obtain⟨I,hf⟩:=iN.1 hs;obtain⟨fn,c,hfn,hb,hnm,_⟩:=S6 hf;exact⟨⟨fn,hfn,by rw[hb];rfl,hnm⟩,λx y h=>by cases h⟩
theorem pV.orElse {P:Program} {f:FuncId} {pre post:Tm} {m m':pre.ty.den->Option post.ty.den} (h:pV P f ⟨pre,post,m⟩) (h':pV P f ⟨pre,post,m'⟩):pV P f ⟨pre,post,λx=>match m x with|some y=>af y|none=>m' x⟩:=
 ⟨h.callable,λx y hxy=>by
   cases hm:m x with
   |some z=>rw[show (cg.m ⟨pre,post,λx=>match m x with|some y=>af y|none=>m' x⟩ x)=af z by show (match m x with|some y=>af y|none=>m' x)=af z;rw[hm]] at hxy;cases hxy;exact h.calls x _ hm
   |none=>rw[show (cg.m ⟨pre,post,λx=>match m x with|some y=>af y|none=>m' x⟩ x)=m' x by show (match m x with|some y=>af y|none=>m' x)=m' x;rw[hm]] at hxy;exact h'.calls x y hxy⟩
theorem aH.orE {P:Program} {f:FuncId} {pre post:Tm} {m m':pre.ty.den->Option post.ty.den} (hb:eK pre.bs.length post.bs.length=ai) (h:aH P f ⟨pre,post,m⟩) (h':aH P f ⟨pre,post,m'⟩):aH P f ⟨pre,post,λx=>AI.orE (m x) (m' x)⟩:=by
 have e:(λx=>AI.orE (m x) (m' x))=λx=>match m x with|some y=>af y|none=>m' x:=by funext x;cases m x<;>rfl
 rw[e];exact ((h.holds hb).orElse (h'.holds hb)).toC hb
def aaf (P:Program) (f:Ty->TypeId->Bool):List Field->Nat->Ty->Bool
 |[],_,.un=>ai
 |[x],off,T=>aC x.offset off&&f T x.type&&aC (P.cellsOf x.type) T.size
 |x::y::r,off,.pr a b=>aC x.offset off&&f a x.type&&aC (P.cellsOf x.type) a.size&&aaf P f (y::r) (off+a.size) b
 |_,_,_=>aj
def Ui (P:Program) (f:Ty->TypeId->Bool) (e:TypeId):Nat->Ty->Bool
 |1,T=>f T e&&aC (P.cellsOf e) T.size
 |m+2,.pr a b=>f a e&&aC (P.cellsOf e) a.size&&Ui P f e (m+1) b
 |_,_=>aj
def BN (P:Program):Nat->Ty->TypeId->Bool
 |0,_,_=>aj
 |n+1,T,t=>match T,P.underlying t with
  |.int k,af (.int k')=>k==k'
  |.bool,af .bool=>ai
  |.str,af .string=>ai
  |.sl U,af (.slice e)=>BN P n U e&&aC (P.cellsOf e) U.size&&gq 0 U.size
  |.st U,af (.struct fs)=>aaf P (BN P n) fs.toList 0 U&&aC (P.cellsOf t) U.size
  |.st U,af (.array m e)=>Ui P (BN P n) e m U&&aC (P.cellsOf t) U.size
  |_,_=>aj
def WO:(T:Ty)->T.den->Prop
 |.int k,n=>(Lit.int k n).wf=ai
 |.str,s=>al s<=maxLen
 |.sl U,xs=>al xs<=maxLen/\∀ x∈(xs:List U.den),WO U x
 |.st t,v=>WO t v
 |.pr a b,v=>WO a v.1/\WO b v.2
 |_,_=>True
def K_ (W:World) (T:Ty) (x:T.den) (cs:List Value):Prop:=cs.length=T.size/\∀ (j:Nat) y v,(bT T x)[j]? =af y->cs[j]? =af v->nA (λ_=>False) W y v
theorem KJ {α:Type} (z:α) (P:Nat->α->Prop):∀ n:Nat,(∀ i,i<n->∃ a,P i a)->∃ l:List α,l.length=n/\∀ i x,l[i]? =af x->P i x
 |0,_=>⟨[],rfl,λi x h=>by simp at h⟩
 |n+1,h=>by
  obtain⟨l,hl,hp⟩:=KJ z P n (λi hi=>h i (by omega));obtain⟨a,J⟩:=h n (by omega);refine ⟨l++[a],by simp[hl],λi x I=>?_⟩;by_cases hi:i<l.length
  .rw[bO hi] at I;exact hp i x I
  .rw[ca (by omega)] at I;by_cases h0:i-l.length=0
   .rw[h0] at I;simp at I;subst I;rw[show i=n from by omega];exact J
   .rw[bS (by simp;omega)] at I;cases I
theorem Addr.add_plain {a:Addr} (h:a.spot=ah) (n:Nat):a.add n=⟨a.block,a.off+n,ah⟩:=by
 unfold Addr.add;split
 .rename_i h0;subst h0;cases a;simp at h;subst h;rfl
 .rfl
theorem Zl {w:World} {a:Addr} {v:Value} (h:w.cell? a=af v):a.spot=ah:=by
 unfold N0 at h;split at h
 .split at h
  .cases h
  .rename_i hs;cases hh:a.spot with
   |none=>rfl
   |some _=>simp[hh] at hs
 .cases h
theorem K_.sub {W:World} {T:Ty} {x:T.den} {cs:List Value} {off n:Nat} (h:K_ W T x ((cs.drop off).take n)) (hn:n=T.size) (hl:off+n<=cs.length):∀ (j:Nat) y v,(bT T x)[j]? =af y->cs[off+j]? =af v->nA (λ_=>False) W y v:=λj y v I hv=>by
 refine h.2 j y v I ?_;have hj:j<T.size:=by have:=(bn.1 I).1;rwa [bE] at this
 rw[cU,aE (by omega),g_];exact hv
section
variable {H:Type} {enc:TypeId×Value->H} {P:Program} {W:World} {base:Nat} {sp:Nat->Bool} {hd:Bool}
theorem Xd {f:Ty->TypeId->Bool} {m:Nat} (M:∀ (T:Ty) (t:TypeId) (cs:List Value) x,f T t=ai->DataW.trod enc P W base sp hd m t cs=af x->∃ v,K_ W T v cs/\WO T v) (cs:List Value) (ts:List (DataW H×List MemPlace)):
 ∀ (fs:List Field) (off k:Nat) (T:Ty),aaf P f fs off T=ai->off+T.size<=cs.length->(∀ (i:Nat) (fl:Field),fs[i]? =af fl->∃ z,DataW.trod enc P W base sp hd m fl.type ((cs.drop fl.offset).take (P.cellsOf fl.type))=af z)->
 ∃ v,(∀ (j:Nat) y u,(bT T v)[j]? =af y->cs[off+j]? =af u->nA (λ_=>False) W y u)/\WO T v
 |[],off,k,.un,_,_,_=>⟨(),λj y u I=>by simp[bT] at I,trivial⟩
 |[x],off,k,T,h,hl,hg=>by
  simp only[aaf,av] at h;obtain⟨⟨h1,h2⟩,J⟩:=h;have h1:=aw h1;have J:=aw J;obtain⟨z,U⟩:=hg 0 x rfl;obtain⟨v,hv,Z⟩:=M T _ _ _ h2 U;rw[h1] at hv;exact⟨v,hv.sub J (by omega),Z⟩
 |x::x'::r,off,k,.pr a b,h,hl,hg=>by
  simp only[aaf,av] at h;obtain⟨⟨⟨h1,h2⟩,J⟩,h4⟩:=h;have h1:=aw h1;have J:=aw J;simp only[Ty.size] at hl;obtain⟨z,U⟩:=hg 0 x rfl;obtain⟨v,hv,Z⟩:=M a _ _ _ h2 U;rw[h1] at hv;have hv:=hv.sub J (by omega);obtain⟨v',hv',Y⟩:=Xd M cs ts (x'::r) (off+a.size) (k+1) b h4 (by omega) (λi fl hi=>hg (i+1) fl (by simpa using hi));refine ⟨(v,v'),λj y u I hu=>?_,Z,Y⟩;simp only[bT] at I;by_cases hj:j<a.size
  .rw[bO (by rw[bE];exact hj)] at I;exact hv j y u I hu
  .rw[ca (by rw[bE];omega),bE] at I;exact hv' _ y u I (by rw[show off+a.size+(j-a.size)=off+j from by omega];exact hu)
theorem Xe {f:Ty->TypeId->Bool} {m:Nat} {e:TypeId} (J:∀ (T:Ty) (t:TypeId) (cs:List Value) x,f T t=ai->DataW.trod enc P W base sp hd m t cs=af x->∃ v,K_ W T v cs/\WO T v) (cs:List Value):
 ∀ (n i:Nat) (T:Ty),Ui P f e n T=ai->i*P.cellsOf e+T.size<=cs.length->(∀ j,j<n->∃ z,DataW.trod enc P W base sp hd m e ((cs.drop ((i+j)*P.cellsOf e)).take (P.cellsOf e))=af z)->
 ∃ v,(∀ (j:Nat) y u,(bT T v)[j]? =af y->cs[i*P.cellsOf e+j]? =af u->nA (λ_=>False) W y u)/\WO T v
 |0,i,T,h,_,_=>by unfold Ui at h;cases h
 |1,i,T,h,hl,hg=>by
  simp only[Ui,av] at h;have h3:=aw h.2;obtain⟨z,M⟩:=hg 0 (by omega);obtain⟨v,hv,Y⟩:=J T _ _ _ h.1 M;rw[dv] at hv;exact⟨v,hv.sub h3 (by omega),Y⟩
 |n+2,i,T,h,hl,hg=>by
  cases T with
  |pr a b=>
   simp only[Ui,av] at h;obtain⟨⟨h1,h2⟩,h4⟩:=h;have h3:=aw h2;simp only[Ty.size] at hl;obtain⟨z,M⟩:=hg 0 (by omega);obtain⟨v,hv,Y⟩:=J a _ _ _ h1 M;rw[dv] at hv;have hv:=hv.sub h3 (by omega);obtain⟨v',Z,U⟩:=Xe J cs (n+1) (i+1) b h4 (by rw[N3,Nat.one_mul];omega) (λj hj=>by have:=hg (j+1) (by omega);rwa [show i+(j+1)=i+1+j from by omega] at this);refine ⟨(v,v'),λj y u I hu=>?_,Y,U⟩;simp only[bT] at I;by_cases hj:j<a.size
   .rw[bO (by rw[bE];exact hj)] at I;exact hv j y u I hu
   .rw[ca (by rw[bE];omega),bE] at I;exact Z _ y u I (by rw[N3,Nat.one_mul,show i*P.cellsOf e+P.cellsOf e+(j-a.size)=i*P.cellsOf e+j from by omega];exact hu)
  |_=>unfold Ui at h;cases h
theorem HW:∀ (n:Nat) (T:Ty) (t:TypeId) (fuel:Nat) (cs:List Value) x,BN P n T t=ai->(∀ b,sp b=ai)->DataW.trod enc P W base sp hd fuel t cs=af x->∃ v,K_ W T v cs/\WO T v
 |0,_,_,_,_,_,h,_,_=>by unfold BN at h;cases h
 |n+1,T,t,fuel,cs,x,h,hsp,ht=>by
  unfold BN at h;split at h
  .rename_i k k' hu;have hk:=eq_of_beq h;subst hk;obtain⟨m,rfl,_,J⟩:=DataW.trod_int hu ht;refine ⟨m,⟨rfl,λj y v I hv=>?_⟩,J⟩;cases j with
   |zero=>simp[bT] at I hv;subst I hv;exact .raw _
   |succ j=>simp[bT] at I
  .rename_i hu;obtain⟨b,rfl,_⟩:=DataW.trod_bool hu ht;refine ⟨b,⟨rfl,λj y v I hv=>?_⟩,trivial⟩;cases j with
   |zero=>simp[bT] at I hv;subst I hv;exact .raw _
   |succ j=>simp[bT] at I
  .rename_i hu;obtain⟨s,rfl,_,hs⟩:=DataW.trod_string hu ht;refine ⟨s.data.toList,⟨rfl,λj y v I hv=>?_⟩,by simpa[WO] using hs⟩;cases j with
   |zero=>simp[bT] at I hv;subst I hv;exact .raw _
   |succ j=>simp[bT] at I
  .rename_i U e hu;simp only[av] at h;obtain⟨⟨h1,h2⟩,h3⟩:=h;have h2:=aw h2;have h3:0<U.size:=a8 h3;rcases Go.Deep.open_slice hu ht with ⟨rfl,_⟩|⟨a,len,cap,m,k,D,Pl,rfl,hb,hl,hm,hmm,_,hi⟩
   .refine ⟨[],⟨rfl,λj y v I hv=>?_⟩,by simp[WO]⟩;cases j with
    |zero=>simp[bT] at I hv;subst I hv;exact .nil _ _ (by unfold maxLen;omega)
    |succ j=>simp[bT] at I
   .rw[hsp,aE rfl] at hmm;rw[h2] at hi;obtain⟨xs,hx1,Y⟩:=KJ U.zero (λi (v:U.den)=>∃ cs',W.cells? base (a.add (i*U.size)) U.size=af cs'/\K_ W U v cs'/\WO U v) len (λi hil=>by
     obtain⟨cs',hc,htt⟩:=hi i (by omega);obtain⟨v,hv,J⟩:=HW n U e k cs' _ h1 hsp htt;exact⟨v,cs',hc,hv,J⟩)
    refine ⟨xs,⟨rfl,λj y v I hv=>?_⟩,by show al xs<=maxLen;omega,λy I=>?_⟩
    .cases j with
     |succ j=>simp[bT] at I
     |zero=>
      simp[bT] at I hv;subst I hv;by_cases h0:len=0
      .have:xs=[]:=gM.1 (by omega);subst this;subst h0;exact .nil _ _ hm
      .obtain⟨x0,hx0⟩:∃ x0,xs[0]? =af x0:=⟨xs[0]'(by omega),aB (by omega)⟩
       obtain⟨cs0,hc0,_⟩:=Y 0 x0 hx0;obtain⟨_,hcl0,hat0⟩:=World.cells?_some hc0;have hca:=hat0 0 h3;rw[aB (by omega)] at hca;have hspot:a.spot=ah:=by
        have:=Zl hca;simpa[Addr.add] using this
       have hblk:=World.block_lt_of_cell? W _ hca;rw[Nat.zero_mul,Addr.add_plain hspot,Addr.add_plain rfl] at hca hblk;have hcell:∀ (i j:Nat) x,xs[i]? =af x->j<U.size->∃ cs',W.cell? ⟨a.block,a.off+(i*U.size+j),ah⟩=cs'[j]? /\j<cs'.length/\K_ W U x cs':=λi j x Z hj=>by
        obtain⟨cs',hc,hr,_⟩:=Y i x Z;obtain⟨_,hcl,hat⟩:=World.cells?_some hc;have:=hat j hj;rw[Addr.add_plain hspot,Addr.add_plain rfl,pD] at this;exact⟨cs',this,by omega,hr⟩
       have hflat:∀ j,j<xs.length*U.size->∃ x,xs[j/U.size]? =af x/\j%U.size<U.size/\j=j/U.size*U.size+j%U.size:=λj hj=>by
        have h5:j/U.size<xs.length:=Nat.div_lt_of_lt_mul (by rw[HO];exact hj);exact⟨xs[j/U.size],aB h5,Nat.mod_lt _ h3,by rw[HO];exact (Nat.div_add_mod j U.size).symm⟩
       have hlen:(List.flatMap (bT U) xs).length=xs.length*U.size:=fD (bE U) xs;obtain⟨ab,ao,az⟩:=a;cases hspot;rw[<- hx1];refine .sl (List.flatMap (bT U) xs) xs.length cap ab ao (λj=>(W.cell? ⟨ab,ao+j,ah⟩).getD undef) (by omega) hm (λh=>h) hblk (rQ U xs) (λj hj=>?_) (λj y I=>?_)
       .obtain⟨x,Z,hjs,hje⟩:=hflat j (by omega);obtain⟨cs',g1,g2,_⟩:=hcell _ _ x Z hjs;rw[<- hje] at g1;simp only[g1,aB g2,ve]
       .have hj:j<xs.length*U.size:=by rw[<- hlen];exact (bn.1 I).1
        obtain⟨x,Z,hjs,hje⟩:=hflat j hj;obtain⟨cs',g1,g2,g3⟩:=hcell _ _ x Z hjs;rw[<- hje] at g1;simp only[g1];rw[aB g2];refine g3.2 (j%U.size) y _ ?_ (aB g2);obtain⟨r,hr⟩:=Fe (bE U) xs (j/U.size) x Z;have:((List.flatMap (bT U) xs).drop (j/U.size*U.size))[j%U.size]? =af y:=by rw[g_,<-hje];exact I
        rw[hr,bO (by rw[bE];exact hjs)] at this;exact this
    .obtain⟨i,M⟩:=e_ I;obtain⟨_,_,_,J⟩:=Y i y M;exact J
  .rename_i U fs hu;simp only[av] at h;have h2:=aw h.2;obtain⟨xs,m,rfl,_,hl,hxl,hg⟩:=DataW.trod_struct hu ht;obtain⟨v,hv,J⟩:=Xd (f:=BN P n) (m:=m) (λT t cs x h1 h2=>HW n T t m cs x h1 hsp h2) cs xs fs.toList 0 0 U h.1 (by omega) (λi fl hi=>by
    have M:fs[i]? =af fl:=by simpa using hi
    have:=hg i fl M;have hlt:i<xs.length:=by rw[hxl];exact (cG.1 M).1
    rw[aB hlt] at this;exact⟨_,this⟩)
   exact⟨v,⟨by rw[hl,h2];rfl,λj y u I hu=>hv j y u I (by rw[bN];exact hu)⟩,J⟩
  .rename_i U m e hu;simp only[av] at h;have h2:=aw h.2;obtain⟨xs,q,rfl,_,hl,hxl,hg⟩:=DataW.trod_array hu ht;obtain⟨v,hv,J⟩:=Xe (f:=BN P n) (m:=q) (λT t cs x h1 h2=>HW n T t q cs x h1 hsp h2) cs m 0 U h.1 (by omega) (λj hj=>by
    have:=hg j hj;rw[aB (by omega)] at this;rw[bN];exact⟨_,this⟩)
   exact⟨v,⟨by rw[hl,h2];rfl,λj y u I hu=>hv j y u I (by rw[Nat.zero_mul,bN];exact hu)⟩,J⟩
  .cases h
theorem QU {n:Nat} {T:Ty} {t:TypeId} {v:Value} {r:Reach} {bs:Nat} (I:BN P n T t=ai) (h1:T.one=ai) (h:HK P W r bs t v):v.cells.toList=[v]:=by
 cases n with
 |zero=>unfold BN at I;cases I
 |succ n=>
  unfold BN at I;unfold HK at h;cases v with
  |agg cs=>
   exfalso;split at I<;>rename_i hu<;>first|(rw [hu] at h;simp only[] at h;unfold Cell.okWide at h;rw[hu] at h;unfold Cell.ok at h;rw[hu] at h;simp at h)|cases h1|cases I
  |_=>rfl
theorem Uy {n:Nat} {T:Ty} {t:TypeId} {v:Value} {r:Reach} {bs:Nat} (I:BN P n T t=ai) (h1:T.one=aj) (h:HK P W r bs t v):∃ cs,v= .agg cs:=by
 cases n with
 |zero=>unfold BN at I;cases I
 |succ n=>
  unfold BN at I;unfold HK at h;split at I<;>rename_i hu<;>first|(rw [hu] at h;obtain⟨cs,h,_⟩:=h;exact⟨cs,h⟩)|cases h1|cases I
theorem open_arg {n:Nat} {T:Ty} {t:TypeId} {v:Value} {d:DataW H} {ps:List MemPlace} {r:Reach} {bs:Nat} (J:BN P n T t=ai) (hsp:∀ b,sp b=ai) (hok:HK P W r bs t v) (h:DataW.Trod enc P W base sp hd t v d ps):∃ x,nA (λ_=>False) W (gL T x) v/\WO T x:=by
 obtain⟨fuel,hf⟩:=h;obtain⟨x,I,U⟩:=HW n T t fuel _ _ J hsp hf;refine ⟨x,?_,U⟩;by_cases h1:T.one=ai
 .obtain⟨e1,e2⟩:=Dv T x h1;exact I.2 0 _ v (by rw[e1];rfl) (by rw[QU J h1 hok];rfl)
 .obtain⟨cs,rfl⟩:=Uy J (by simpa using h1) hok;rw[qL T x (by simpa using h1)];have hl:cs.toList.length=(bT T x).length:=by rw[bE];exact I.1
  have:=nA.agg (O:=λ_=>False) (w:=W) (bT T x) cs.toList hl (nZ T x) (λj y u M hu=>I.2 j y u M hu);simpa using this
end
theorem XW {z:Int} (h:(Lit.int .u8 z).wf=ai):0<=z/\z<=255:=⟨bi (jm.1 h).1,bi (jm.1 h).2⟩
def fo (w:WT) (l:List ET) (c:List Int) (y:List Int):List Int:=y.foldl (λc k=>jl c (oh w l k.toNat)) c
theorem Na {w:WT} {l:List ET} (I:TR (w,l)) {j:Nat} (hj:j<=l.length):∀ (y:List Int) (c:List Int),En (j:Int) c->(∀ k∈y,0<=k/\k<j)->En (j:Int) (fo w l c y)
 |[],_,h,_=>h
 |k::r,c,h,g=>by
  obtain⟨M,k1⟩:=g k (dk ..);exact Na I hj r _ (h.jl ((V8 I (show k.toNat<l.length by omega)).mono (by omega))) λz J=>g z (cI _ J)
theorem afq {w:WT} {l:List ET} {c y:List Int} {i:Nat} (h:i<y.length):fo w l c (y.take (i+1))=jl (fo w l c (y.take i)) (oh w l (aK (T:=.int .i64) y (i:Int)).toNat):=by
 rw[mI (T:=.int .i64) h];unfold fo;rw[dR];rfl
theorem ai1 {w:WT} {l:List ET} (I:TR (w,l)) {n:Int} {c:List Int} (hc:En n c) (p:Nat->Bool) (j:Nat):fo w l c (fL p j)=jl c (JC (oh w l) p j):=by
 rw[<- XA hc j];unfold fo fL;rw[List.foldl_map];rfl
theorem Sb {w:WT} {l:List ET} {j:Nat} {k:Int} (h0:0<=k) (h1:k<j):aK (T:=.sl (.int .i64)) ((cS j).map (oh w l)) k=oh w l k.toNat:=by
 obtain⟨k,rfl⟩:∃ i:Nat,k=i:=⟨k.toNat,by omega⟩
 rw[qI,dS,aA,ba,v8 (by omega)];rfl
theorem M3 {w:WT} {l:List ET} (J:TR (w,l)) {j:Nat} (hj:j<=l.length) {c y:List Int} (hc:En (j:Int) c) (U:∀ k∈y,0<=k/\k<j) (hn:y.length<=1000) {R:Type} {B:(List Int×Int)×(WT×List ET)×List (List Int)->Option (((List Int×Int)×(WT×List ET)×List (List Int))⊕R)} {Q P:R->Prop} (hQ:∀ r,P r->Q r) (he:Ok (B ((fo w l c y,(y.length:Int)),(w,l),(cS j).map (oh w l))) λr=>∃ z,r= .inr z/\P z):
 Ok (iter (λx=>bcase (fR x.1.2 (aP (al y))) (chk (fc x.1.2 (al y)) λ_=>lt (aK (T:=.int .i64) y x.1.2) λI=>chk (fc I (al x.2.2)) λ_=>chk (fc I (al x.2.2)) λ_=>lt (aK (T:=.sl (.int .i64)) x.2.2 I) λY=>obind (pJ (x.1.1,Y)) λZ=>af (lz ((Z,bk .i64 (x.1.2+1)),x.2))) (B x)) ((c,0),(w,l),(cS j).map (oh w l))) Q:=by
 refine bZ y.length (λi x=>x=((fo w l c (y.take i),(i:Int)),(w,l),(cS j).map (oh w l))) ?_ ?_ (by rw[List.take_zero];rfl)
 .rintro i x hi rfl;have hm:=U _ (bJ (T:=.int .i64) (xs:=y) (j:=(i:Int)) (by omega) (by omega));refine db ?_;refine bX (aR ?_);have M:(aK (T:=.int .i64) y (i:Int):Int)<(((cS j).map (oh w l)).length:Nat):=by rw[bR,fK];exact hm.2
  refine aS hm.1 M (aS hm.1 M (aR ?_));dsimp only;rw[Sb hm.1 hm.2];have e1:=Na J hj (y.take i) c hc λk hk=>U k (gZ hk)
  have h2:(aK (T:=.int .i64) y (i:Int)).toNat<l.length:=by
   have h3:(aK (T:=.int .i64) y (i:Int):Int)<(j:Int):=hm.2;have h4:(0:Int)<=aK (T:=.int .i64) y (i:Int):=hm.1;omega
  have e2:=V8 J h2;refine aT (by rw[aer];exact X9 _ _ e1.lb e2.lb) (ar ?_);rw[afq hi,gy (by omega)]
 .rintro x rfl;rw[cP];obtain⟨_,e,r,rfl,h⟩:=he;exact dc (ahv e (hQ r h))
theorem Ud (l:List ET) (u:Nat):∀ i:Nat,CD l u i<i
 |0=>by show (-1:Int)<0;omega
 |i+1=>by
  have:=Ud l u i;rw[CD];split
  .omega
  .split
   .omega
   .split<;>omega
theorem anb {w:WT} {l:List ET} (I:TR (w,l)) {j:Nat} (hj:j<l.length) {c:List Int} (hc:En (j:Int) c) (e:c=if 0<=ud l (cB l j).th j then oh w l (ud l (cB l j).th j).toNat else []):tk (fo w l (fo w l c (YK w l j)) (fL (dB (Qc w l j)) j)) (cB l j).th=oh w l j:=by
 rw[ajr I hj,<-e];have h1:fo w l c (YK w l j)=jl (jl c (JC (oh w l) (dB (H4 w l j)) j)) (wkC w l j):=by
  have h2:=ai1 I hc (dB (H4 w l j)) j;have J:=Na I (show j<=l.length by omega) (fL (dB (H4 w l j)) j) c hc λk hk=>JE hk
  rw[h2] at J;unfold YK wkC;by_cases h:(cB l j).k=17
  .rw[aE h,aE h,<-h2];unfold fo;rw[dR];rfl
  .rw[ay h,ay h,gp,h2,mw J]
 have M:En (j:Int) (fo w l c (YK w l j)):=by
  refine Na I (show j<=l.length by omega) _ c hc λk hk=>?_
  rcases bQ.1 hk with hk|hk
  .exact JE hk
  .split at hk
   .rename_i h;rw[aL.1 hk];exact⟨(aa9 I hj h).2.2,Ud _ _ _⟩
   .cases hk
 rw[ai1 I M,h1]
theorem T6 {w:WT} {l:List ET} (I:TR (w,l)):sx (w,l)=af (csN w l):=by
 have hl:=I.len;dsimp only at hl;refine ci ?_;unfold sx bz iW bC bB kB aZ cK aF cD;refine bZ l.length (λj x=>x=((j:Int),(w,l),(cS j).map (oh w l))) ?_ ?_ rfl
 .rintro j x hj rfl;have hjl:j<=l.length:=by omega
  obtain⟨p0,p1⟩:=Uw l (cB l j).th j;refine db ?_;refine aX (λx=>x=(if 0<=ud l (cB l j).th j then oh w l (ud l (cB l j).th j).toNat else [],(w,l),(cS j).map (oh w l))) ?_ ?_
  .refine aT (G8 I hj) (eZ (λh=>?_) λh=>ar ?_)
   .have q:ud l (cB l j).th j<(((cS j).map (oh w l)).length:Nat):=by rw[bR,fK];exact p1
    refine aS h q (aS h q (aR (ar ?_)));dsimp only;rw[Sb h p1,aE h]
   .rw[ay (by omega)]
  rintro x rfl;have hc:En (j:Int) (if 0<=ud l (cB l j).th j then oh w l (ud l (cB l j).th j).toNat else []):=by
   split
   .exact (V8 I (by omega)).mono (by omega)
   .exact En.nil (by omega)
  have hhd:∀ k∈YK w l j,0<=k/\k<j:=λk hk=>by
   rcases bQ.1 hk with hk|hk
   .exact JE hk
   .split at hk
    .rename_i h;rw[aL.1 hk];exact⟨(aa9 I hj h).2.2,Ud _ _ _⟩
    .cases hk
  have hlen:(YK w l j).length<=1000:=by
   have:=JF (dB (H4 w l j)) j;unfold YK;rw[bm];split<;>simp<;>omega
  have hls:=JF (dB (Qc w l j)) j;have hck:=anb I hj hc rfl;have M:=Na I hjl (YK w l j) _ hc hhd;have J:=Na I hjl (fL (dB (Qc w l j)) j) _ M λk hk=>JE hk
  generalize (if 0<=ud l (cB l j).th j then oh w l (ud l (cB l j).th j).toNat else [])=c at*
  refine aT (ahd I hj) ?_;refine M3 I hjl hc hhd hlen (P:=λr=>r= .inl (((j+1:Nat):Int),(w,l),(cS (j+1)).map (oh w l))) (λr h=>by subst h;rfl) ?_;refine ax (P:=λr=>r= .inl (((j+1:Nat):Int),(w,l),(cS (j+1)).map (oh w l))) ?_ λr hr=>ar ⟨r,rfl,hr⟩
  refine aT (agw I hj) (M3 I hjl M (λk hk=>JE hk) (by omega) (P:=λr=>r= .inl (((j+1:Nat):Int),(w,l),(cS (j+1)).map (oh w l))) (λr h=>h) ?_);refine ax (P:=λr=>r= .inl (((j+1:Nat):Int),(w,l),(cS (j+1)).map (oh w l))) ?_ λr hr=>ar ⟨r,rfl,hr⟩
  have et:(eN l j).1=((cB l j).th:Int):=(ly I hj).th;have U:=J.2 (cB l j).th;refine bX (aR (aT (x:=oh w l j) ?_ (bg (by simp;omega) (by omega) (ar ?_))))
  .change pI (fo w l (fo w l c (YK w l j)) (fL (dB (Qc w l j)) j),(eN l j).1)=_;rw[et,<-hck];exact Uv _ _ J.lb (s5 I hj).th4 U.1 (by omega)
  .dsimp only;rw[gy (by omega),FK,cE];rfl
 .rintro x rfl;exact dc (ar rfl)
theorem Zs:uv=j9:=rfl
theorem ZY:vn=mo:=rfl
def cnB (l:List ET) (a b:Nat):Bool:=decide (¬(cB l a).th=(cB l b).th/\acB (cB l a)=ai/\acB (cB l b)=ai/\(cB l a).ob=(cB l b).ob/\((cB l a).k=4\/(cB l b).k=4))
theorem uM {w:WT} {l:List ET} (I:TR (w,l)) {a:Nat} (J:a<l.length) (h:acB (cB l a)=ai):(eN l a).2.2.1=((cB l a).ob:Int):=(ly I J).ob (by rcases bi h with h|h<;>rw[h]<;>decide)
theorem T4 {w:WT} {l:List ET} (I:TR (w,l)) {a b:Nat} (M:a<l.length) (hb:b<l.length):oK (eN l a,eN l b)=af (cnB l a b):=by
 refine ci ?_;unfold oK cnB aY bh be iV aF;have ka:(eN l a).2.1=(cB l a).k:=(ly I M).k;have Z:(eN l b).2.1=(cB l b).k:=(ly I hb).k;refine gj (aT (Af I M) (aO (λh1=>aT (Af I hb) (aO (λh2=>b8 (λU=>aJ (λJ=>aJ (λY=>?_) λY=>?_) λJ=>?_) λU=>?_) λh2=>?_)) λh1=>?_));all_goals refine ar (ar ?_)
 .have U:¬(cB l a).th=(cB l b).th:=λq=>U ((xr I M hb).2 q)
  have J:(eN l a).2.2.1=(eN l b).2.2.1:=J;have Y:(eN l a).2.1=4:=Y;rw[uM I M h1,uM I hb h2] at J;exact (aQ ⟨U,h1,h2,by omega,by omega⟩).symm
 .have U:¬(cB l a).th=(cB l b).th:=λq=>U ((xr I M hb).2 q)
  have J:(eN l a).2.2.1=(eN l b).2.2.1:=J;have Y:¬(eN l a).2.1=4:=Y;rw[uM I M h1,uM I hb h2] at J;change decide ((eN l b).2.1=4)=_;rw[aa5];exact⟨λq=>⟨U,h1,h2,by omega,by omega⟩,λq=>by omega⟩
 .have J:¬(eN l a).2.2.1=(eN l b).2.2.1:=J;rw[uM I M h1,uM I hb h2] at J;exact (bw λq=>J (by omega)).symm
 .exact (bw λq=>q.1 ((xr I M hb).1 U)).symm
 .exact (bw λq=>by rw[q.2.2.1] at h2;cases h2).symm
 .exact (bw λq=>by rw[q.2.1] at h1;cases h1).symm
theorem S5 {w:WT} {l:List ET} (I:TR (w,l)) {a b:Nat} (M:a<l.length) (hb:b<l.length):qy ((w,l),(a:Int),(b:Int))=af (cnB l a b&& !CF w.1 (cB l b).ob):=by
 refine ci ?_;unfold qy cnB aY bh bL be bB aF;rw[Zs];have ka:(eN l a).2.1=(cB l a).k:=(ly I M).k;have kb:(eN l b).2.1=(cB l b).k:=(ly I hb).k;refine bX (aR (bX (aR ?_)));have fin:∀ {p:Prop} [Decidable p] {v:Bool},¬p->aj=(decide p&&v):=λh=>by rw[bw h];rfl
 refine aX (λx=>x.2=((w,l),eN l a,eN l b)/\(x.1=aj↔¬(eN l a).1=(eN l b).1/\(eN l a).2.2.1=(eN l b).2.2.1)) (aJ (λh=>ar ⟨rfl,?_⟩) λh=>ar ⟨rfl,?_⟩) ?_
 .have h:(eN l a).1=(eN l b).1:=h;exact⟨λq=>(by cases q),λq=>(q.1 h).elim⟩
 .have h:¬(eN l a).1=(eN l b).1:=h;change (!decide ((eN l a).2.2.1=(eN l b).2.2.1))=aj↔_;rw[Bool.not_eq_false',bd];exact⟨λq=>⟨h,q⟩,λq=>q.2⟩
 rintro⟨x,y⟩ ⟨e,h⟩;dsimp only at e h;subst e;refine aO (λJ=>ar (fin λq=>?_)) λJ=>?_
 .have h1:=h.2 ⟨λr=>q.1 ((xr I M hb).1 r),by rw[uM I M q.2.1,uM I hb q.2.2.1,q.2.2.2.1]⟩;rw[show x=ai from J] at h1;cases h1
 obtain⟨Y,Z⟩:=h.1 J;have Y:¬(cB l a).th=(cB l b).th:=λq=>Y ((xr I M hb).2 q)
 refine aX (λx=>x.2=(eN l a,eN l b)/\(x.1=aj↔acB (cB l a)=ai/\acB (cB l b)=ai/\CF w.1 (cB l b).ob=aj)) ?_ ?_
 .refine aT (Af I M) (dN (λh1=>ar ⟨rfl,λq=>(by cases q),λq=>(by rw[q.1] at h1;cases h1)⟩) λh1=>aT (Af I hb) (dN (λh2=>ar ⟨rfl,λq=>(by cases q),λq=>(by rw[q.2.1] at h2;cases h2)⟩) λh2=>?_));have hk:=bi h2;have ce:=((s5 I hb).ce hk).2;change Ok (chk (fc (eN l a).2.2.1 (al w.1)) λ_=>lt (aK (T:=Qb) w.1 (eN l a).2.2.1) λz=>af (bP (z.2.2.2.1,eN l a,eN l b))) _;rw[Z,uM I hb h2];refine bX (aR (ar ⟨rfl,?_⟩));rw[O0];exact⟨λq=>⟨h1,h2,q⟩,λq=>q.2.2⟩
 rintro⟨x,y⟩ ⟨e,h⟩;dsimp only at e h;subst e;refine aO (λJ=>ar ?_) λJ=>gj ?_
 .symm
  rw[N5];intro q;obtain⟨U,q2⟩:=jm.1 q;have U:=bi U;have h1:=h.2 ⟨U.2.1,U.2.2.1,by simpa using q2⟩;rw[show x=ai from J] at h1;cases h1
 .obtain⟨h1,h2,h5⟩:=h.1 J;rw[uM I M h1,uM I hb h2] at Z;rw[h5,Bool.not_false,Bool.and_true];refine aJ (λg=>ar (ar ?_)) λg=>ar (ar ?_)
  .have g:(eN l a).2.1=4:=g;exact (aQ ⟨Y,h1,h2,by omega,by omega⟩).symm
  .have g:¬(eN l a).2.1=4:=g;change decide ((eN l b).2.1=4)=_;rw[aa5];exact⟨λq=>⟨Y,h1,h2,by omega,by omega⟩,λq=>by omega⟩
theorem ZK {w:WT} {l:List ET} (I:TR (w,l)) {j:Nat} (hj:j<l.length):sw (l,(j:Int))=af (AA l (cB l j).th j:Int):=by
 have hl:=I.len;dsimp only at hl;refine ci ?_;unfold sw be bz bB cK aF cD;refine bZ j (λi x=>x=((AA l (cB l j).th i:Int),(i:Int))) ?_ ?_ rfl
 .rintro i x hi rfl;have hc:=D5 l (cB l j).th i;refine db ?_;refine aX (λx=>x=(AA l (cB l j).th (i+1):Int)) ?_ ?_
  .rw[AA];refine bX (aR (bX (aR (aJ (λh=>ar ?_) λh=>ar ?_))))
   .rw[aE ((xr I (show i<l.length by omega) hj).1 h)];exact gy (by omega)
   .rw[ay λq=>h ((xr I (show i<l.length by omega) hj).2 q)]
  rintro x rfl;refine ar ?_;dsimp only;rw[gy (by omega)]
 .rintro x rfl;exact dc (ar rfl)
theorem WF {w:WT} {l:List ET} (I:TR (w,l)) {j:Nat} (hj:j<l.length):qn (l,(j:Int))=af (epN l j):=by
 have hl:=I.len;dsimp only at hl;have hc:=D5 l (cB l j).th j;refine ci ?_;unfold qn bB;refine aT (ZK I hj) (bX (aR (ar ?_)));change (bk .i64 (1+(AA l (cB l j).th j:Int)),(eN l j).1)=_;rw[(ly I hj).th,ig (by omega) (by omega),Int.add_comm];rfl
def rcB (w:WT) (l:List ET) (a b:Nat):Bool:=cnB l a b&&(!CF w.1 (cB l b).ob&& !decide ((AA l (cB l a).th a:Int)+1<=(oh w l b).getD (cB l a).th 0))
def rI (w:WT) (l:List ET) (b:Nat):Nat->List (Int×Int)
 |0=>[]
 |i+1=>if rcB w l i b=ai then rI w l b i++[((i:Int),(b:Int))] else rI w l b i
def rO (w:WT) (l:List ET):Nat->List (Int×Int)
 |0=>[]
 |b+1=>rO w l b++rI w l b b
theorem Oi (w:WT) (l:List ET) (b:Nat):∀ i,(rI w l b i).length<=i
 |0=>bV _
 |i+1=>by
  have:=Oi w l b i;rw[rI];split
  .rw[bm,c6];omega
  .omega
theorem Oh (w:WT) (l:List ET):∀ b,b<=1000->(rO w l b).length<=b*1000
 |0,_=>jT _
 |b+1,h=>by
  have:=Oh w l b (by omega);have:=Oi w l b b;rw[rO,bm];omega
theorem adm {w:WT} {l:List ET} (I:TR (w,l)):nR (w,l)=af (rO w l l.length,0):=by
 have hl:=I.len;dsimp only at hl;refine ci ?_;unfold nR Av bz iV bC bB aZ cK aF cD;refine aT (Z9 I) (gz (aT (YX I) ?_));refine iD l.length (by omega) (λb x=>x=((b:Int),(w,l),rO w l b)) ?_ ?_ rfl
 .rintro b x hb rfl;have hO:=Oh w l b (by omega);refine db ?_;refine iD b (by omega) (λi x=>x=((i:Int),(w,l),rO w l b++rI w l b i)) ?_ ?_ ?_
  .rintro i x hi rfl;have J:=Oi w l b i;refine db ?_;refine aX (λx=>x=((w,l),rO w l b++rI w l b (i+1))) ?_ ?_
   .refine aX (λx=>x=(rcB w l i b,(w,l),rO w l b++rI w l b i)) ?_ ?_
    .refine aT (S5 I (show i<l.length by omega) hb) ?_;unfold rcB;refine aO (λh=>?_) λh=>ar ?_
     .obtain⟨h1,h2⟩:=jm.1 h;refine aS (by dsimp only;omega) (by dsimp only;rw[bR,fK];omega) (aR (aS (by dsimp only;omega) (by dsimp only;rw[bR,fK];omega) (aR ?_)));dsimp only;rw[Sc hb,ace (show i<l.length by omega)];refine aT (Lj _ _ _) (ar ?_);rw[h1,h2];rfl
     .rw[<- Bool.and_assoc,h];rfl
    rintro x rfl;rw[rI];refine aO (λh=>bg ?_ (by omega) (ar ?_)) λh=>ar ?_
    .dsimp only;rw[bm,c6];omega
    .dsimp only;rw[aE h,fO]
    .dsimp only at h ⊢;rw[ay (by rw[h];decide)]
   rintro x rfl;refine ar ?_;dsimp only;rw[gy (by omega)]
  .rintro x rfl;refine dc (ar ?_);dsimp only;rw[gy (by omega)];rfl
  .rw[rI,gp];rfl
 .rintro x rfl;exact dc (ar rfl)
theorem PW {w:WT} {l:List ET} (J:TR (w,l)):mN ((w,l),csN w l)=af (rO w l l.length):=by
 have hl:=J.len;dsimp only at hl;refine ci ?_;unfold mN bz bC bB aZ cK aF cD;refine bZ l.length (λb x=>x=((b:Int),(w,l),rO w l b)) ?_ ?_ rfl
 .rintro b x hb rfl;have hO:=Oh w l b (by omega);refine db ?_;refine bZ b (λi x=>x=((i:Int),(w,l),rO w l b++rI w l b i)) ?_ ?_ ?_
  .rintro i x hi rfl;have M:=Oi w l b i;have I:i<l.length:=by omega
   refine db ?_;refine aX (λx=>x=((w,l),rO w l b++rI w l b (i+1))) ?_ ?_
   .refine aX (λx=>x=(rcB w l i b,(w,l),rO w l b++rI w l b i)) ?_ ?_
    .refine bX (aR (bX (aR (aT (T4 J I hb) ?_))));unfold rcB;refine aO (λh=>?_) λh=>ar ?_
     .have hab:=(bi h).2.2.1;refine bX (aR (aT (G7 J hb) (dN (λh2=>?_) λh2=>ar ?_)))
      .rw[hab,kJ] at h2;refine aS (by dsimp only;omega) (by dsimp only;rw[bR,fK];omega) (aR (aT (WF J I) ?_));dsimp only;rw[Sc hb,ZY];refine aT (Lj _ _ _) (ar ?_);rw[h,h2];rfl
      .rw[hab,kJ] at h2;rw[h,h2];rfl
     .rw[h];rfl
    rintro x rfl;rw[rI];refine aO (λh=>bg ?_ (by omega) (ar ?_)) λh=>ar ?_
    .dsimp only;rw[bm,c6];omega
    .dsimp only;rw[aE h,fO]
    .dsimp only at h ⊢;rw[ay (by rw[h];decide)]
   rintro x rfl;refine ar ?_;dsimp only;rw[gy (by omega)]
  .rintro x rfl;refine dc (ar ?_);dsimp only;rw[gy (by omega)];rfl
  .rw[rI,gp];rfl
 .rintro x rfl;exact dc (ar rfl)
theorem K9 (r:List (Int×Int)) (h:r.length<=1000000):mO (r,r)=af ai:=by
 refine ci ?_;unfold mO bz iV bB aZ cK aF cD;refine b8 (λq=>(q rfl).elim) λ_=>?_
 refine bZ r.length (λi x=>x=(i:Int)) ?_ ?_ rfl
 .rintro i x hi rfl;refine db ?_;refine bX (aR (bX (aR ?_)));generalize (aK (T:=.st (.pr (.int .i64) (.int .i64))) r (i:Int))=z;refine fJ ?_ (ar (gy (by omega)));obtain⟨(J:Int),(I:Int)⟩:=z;simp[Ng]
 .rintro x rfl;exact dc (ar rfl)
theorem MD (a b c:List Int) (U:a.length<=9223372036854775807) (J:∀ z∈a,0<=z/\z<=255) (hc:c.length<=9223372036854775807) (M:∀ z∈c,0<=z/\z<=255):Ok (ng (a,b,c)) λy=>y=ai:=by
 unfold ng be aF;refine ax (P:=TR) (PZ a b c 40 (by omega) (by omega) U J hc M) ?_;rintro⟨w,l⟩ I;have hl:=I.len;dsimp only at hl;have:=Oh w l l.length (by omega);refine aT (adm I) (aX (λx=>x=ai) ?_ λx J=>ar J);exact QR (aT (T6 I) (aT (PW I) (aT (K9 (rO w l l.length) (by omega)) (QR (aT (x:=ai) Wn (ar rfl))))))
theorem HBRaces_law (x:List Int×List Int×List Int) (w:WO (.st (.pr (.sl (.int .u8)) (.pr (.sl (.int .u8)) (.sl (.int .u8))))) x):ng x=af ai:=by
 obtain⟨a,b,c⟩:=x;obtain⟨⟨l0,w0⟩,_,⟨l2,J⟩⟩:=w;obtain⟨y,h,rfl⟩:=MD a b c l0 (λz I=>XW (w0 z I)) l2 (λz I=>XW (J z I));exact h
def inert (f:FuncId):Bool:=aC f 72
theorem Q3:∃ I,Tryz.prog.underlying 20=af (.interface I):=⟨#[],by kernel_rfl⟩
theorem abp (w:World):(Op.equal 20 .nilIface .nilIface).run Tryz.prog w= .ok ai w:=by
 obtain⟨I,hu⟩:=Q3;have key:∀ d,(Op.equalIn (d+1) 20 .nilIface .nilIface).run Tryz.prog w= .ok ai w:=λd=>by simp[Op.equalIn,run_underlying hu]
 exact key 9999
theorem ab4 {P:Program} {ops:Array Oper} {Q:Exit->Act->List Frame->World->Prop} {i:Nat} {rest:List Nat} {a:Act} {cs:List Frame} {w w':World} {o:Oper} (J:ops[i]? =af o) (I:o.guard=ah) (hr:(execOp a.eval o).run P w= .ok .recover w') (hn:recoverD cs=ah) (h:wpOpsS P ops Q rest (a.put o.dst .nilIface) cs w'):wpOpsS P ops Q (i::rest) a cs w:=by
 have I:iM o (yielded ops a.tmps)=ai:=by unfold iM;rw[I]
 simp only[wpOpsS,J,I,bG,hr,hn];exact h
theorem ab3 {P:Program} {ops:Array Oper} {Q:Exit->Act->List Frame->World->Prop} {i:Nat} {rest:List Nat} {a:Act} {cs:List Frame} {w w':World} {o:Oper} {v:Value} (J:ops[i]? =af o) (I:o.guard=ah) (hr:(execOp a.eval o).run P w= .ok (.value v) w') (h:wpOpsS P ops Q rest (a.put o.dst v) cs w'):wpOpsS P ops Q (i::rest) a cs w:=by
 have I:iM o (yielded ops a.tmps)=ai:=by unfold iM;rw[I]
 simp only[wpOpsS,J,I,bG,hr];exact h
theorem Q2:Lf Tryz.prog inert:=by
 intro f hf;have hf:f=72:=aw hf;subst hf;refine ⟨⟨Tryz.f72,Tryz.func72,by kernel_rfl,by kernel_rfl⟩,λargs w=>?_⟩;refine callsD_of_wpS Tryz.func72 rfl λc₀ cs hu=>?_
 refine wpS_seq (wpS_region ?_);generalize ht:(args++oC (Tryz.f72.ntmps-args.size) undef)=T;have hs:5<=T.size:=by
  rw[<- ht];simp only[Array.size_append,Array.size_replicate];have:Tryz.f72.ntmps=5:=rfl;omega
 have hr:recoverD (c₀::cs)=ah:=by simp[recoverD,hu]
 refine ab4 (i:=0) (rest:=[1]) rfl rfl (w':=w) ?_ hr ?_
 .simp[execOp,resolve,invoke,builtin]
 refine ab3 (v:=.bool aj) rfl rfl (w':=w) ?_ ?_
 .have hv:Act.eval (N6 {tmps:=T,defers:=[]} (af 2) .nilIface) (.tmp 2)= .nilIface:=by
   simp[Act.eval,N6,show 2<T.size by omega]
  have h2:=abp w;have hcst:Act.eval (N6 {tmps:=T,defers:=[]} (af 2) .nilIface) (.const .nilIface)= .nilIface:=rfl;show (execOp (Act.eval (N6 {tmps:=T,defers:=[]} (af 2) .nilIface)) _).run _ w=_;simp[execOp,hv,hcst,eqGuard,binOp,h2]
 show Exit.thenS _ _ .normal _ _ _;refine wpS_cond (t:=aj) ?_ ?_
 .simp[Act.eval,N6,show 3<T.size by omega]
 refine wpS_of_wp (wp_skip ?_);have hres:Tryz.f72.results=#[]:=rfl;exact⟨rfl,c₀.mode,rfl,.tuple #[],by simp[results,hres],⟨_,rfl⟩,hu,rfl⟩
def dG {α:Type}:List (Nat×α)->PT α
 |[]=>.leaf
 |p::r=>(dG r).set p.1 (af p.2)
noncomputable abbrev Pg:Program:=Tryz.prog
def cn (D:FT) (m:D.pre.ty.den->Option D.post.ty.den):cg:=⟨D.pre,D.post,m⟩
theorem amq:Pg.follows .mixedOrders=ai:=by kernel_rfl
theorem ac {f:FuncId} {c:cg} {l:List (FuncId×cg)} (h:aH Pg f c) (t:T8 Pg l):T8 Pg ((f,c)::l):=⟨h,t⟩
theorem an:T8 Pg []:=trivial
inductive OI {R:Type}:Option R->Option R->Prop where
 |rfl {a:Option R}:OI a a
 |chk {b:Bool} {k k':Option R} (h:lh k k'):OI (chk b λ_=>k) (chk b λ_=>k')
 |bcase {b:Bool} {t f t' f':Option R} (h1:lh t t') (h2:lh f f'):OI (bcase b t f) (bcase b t' f')
 |lt {α:Type} {x:α} {k k':α->Option R} (h:∀ y,lh (k y) (k' y)):OI (lt x k) (lt x k')
 |jn {α:Type} {o o':Option (R⊕α)} {k k':α->Option R} (h:lh o o') (hk:∀ x,lh (k x) (k' x)):OI (jn o k) (jn o' k')
 |obind {α:Type} {o o':Option α} {k k':α->Option R} (h:lh o o') (hk:∀ x,lh (k x) (k' x)):OI (obind o k) (obind o' k')
 |iter {σ:Type} {f g:σ->Option (σ⊕R)} {x:σ} (h:∀ x,lh (f x) (g x)):OI (gg f x) (iter g x)
theorem OI.o {R:Type} {a b:Option R} (h:OI a b):lh a b:=by
 cases h with
 |rfl=>exact lh.rfl
 |chk h=>exact lh.chk h
 |bcase h g=>exact lh.bcase h g
 |lt h=>exact lh.lt h
 |jn h g=>exact lh.jn h g
 |obind h g=>exact lh.obind h g
 |iter h=>exact lh.iter h
theorem mk {f:FuncId} (D:FT) (m:D.pre.ty.den->Option D.post.ty.den) {l:List (FuncId×cg)} (J:T8 Pg l) (I:TypeId->Option Ty) (he:∀ x,aaj (V2 l) I inert (zW Pg f) D x=m x:=by intro x;kernel_rfl) (hs:(zW Pg f).isSome=ai:=by kernel_rfl) (hb:eK D.pre.bs.length D.post.bs.length=ai:=by kernel_rfl):aH Pg f (cn D m):=(Rx amq Q2 J hs he).toC hb
theorem yL {f:FuncId} (D:FT) (m n:D.pre.ty.den->Option D.post.ty.den) (J:∀ x,lh (m x) (n x)) {l:List (FuncId×cg)} (M:T8 Pg l) (I:TypeId->Option Ty) (he:∀ x,aaj (V2 l) I inert (zW Pg f) D x=n x:=by intro x;kernel_rfl) (hs:(zW Pg f).isSome=ai:=by kernel_rfl) (hb:eK D.pre.bs.length D.post.bs.length=ai:=by kernel_rfl):aH Pg f (cn D m):=((Rx amq Q2 M hs he).sub J).toC hb
theorem QY {f:FuncId} (D:FT) (hs:(zW Pg f).isSome=ai:=by kernel_rfl) (hb:eK D.pre.bs.length D.post.bs.length=ai:=by kernel_rfl):aH Pg f (cn D λ_=>ah):=(Va hs).toC hb
abbrev vb:List PV:=[.d aM,.d aM,.d aM,.d aM,.d aM,.nil,.nil]
abbrev vY:List PV:=[.nil,.d aM,.nil,.nil,.nil,.nil,.nil]
abbrev ain:List PV:=[.ptr 1 0,.d aM,.d aM,.d .bool,.d .bool,.d .bool,.d .bool,.row 4]
abbrev air:List PV:=[.d aM,.d aM,.d .str,.d .str,.nil,.d aM,.d aM,.d .str,.nil,.nil,.nil]
abbrev La2:List PB:=[.cells 192 ain,.cells 78 [.d yQ],.gone,.cells 198 air,.rowsP 9 .str]
abbrev NS:List PV:=[.ptr 0 0,.ptr 1 0,.ptr 2 0,.ptr 3 0,.ptr 4 0,.ptr 5 0,.ptr 6 0,.ptr 7 0,.d .bool]
abbrev La4:List PB:=[.cells 184 [.d (.sl ky),.d (.sl q_),.d (.sl lm),.d (.sl .str),.d (.sl .str),.d (.sl oB),.d (.sl .str),.row 2,.d aM,.d aM],.gone,.rows 188 ai qY]
abbrev La5:List PB:=[.cells 184 [.d (.sl ky),.d (.sl q_),.d (.sl lm),.d (.sl .str),.d (.sl .str),.d (.sl oB),.d (.sl .str),.row 1,.d aM,.d aM],.rows 188 ai qY]
abbrev La6:List PV:=[.d aM,.row 11,.row 12,.d aM]
abbrev La7:List PB:=[.cells 141 [.nil,.nil],.cells 192 [.ptr 5 0,.d aM,.d aM,.d .bool,.d .bool,.d .bool,.d .bool,.row 6],.cells 141 [.d (.sl G_),.row 7],.rows 9 aj .str,.cells 182 [.d .str,.d aM,.row 8,.row 9],.cells 78 [.d yQ],.rowsP 9 .str,.rows 182 ai s8,.rows 9 aj .str,.rows 198 ai .sm]
abbrev La8:List PB:=[.cells 225 [.d (.sl G_),.d (.sl s8),.d aM,.row 1,.row 6,.row 7],.rowsP 198 .sm,.gone,.gone,.cells 198 [.d .sm],.cells 141 [.d NT],.rows 9 ai .str,.rows 9 ai .str]
abbrev La9:List PV:=[.d (.sl d_),.d aM,.d p_,.d (.sl ie),.row 8,.row 9,.csl 10 4 4]
abbrev ah7:List PB:=[.cells 97 [.d (.sl d_),.d aM,.d p_,.d (.sl ie),.row 6,.row 7,.csl 8 4 4],.cells 144 [.d gR],.cells 97 vY,.cells 59 vb,.cells 59 [.d fH],.cells 175 [.d eU],.rows 2 ai aM,.rows 2 ai aM,.cells 175 [.d eU,.d eU,.d eU,.d eU]]
abbrev aio:List PV:=[.ptr 1 0,.d aM,.d aM,.d .bool,.d .bool,.d .bool,.d .bool,.row 2]
abbrev P5:List PV:=[.d Ef,.d aM]
abbrev WC:List PB:=[.cells 192 aio,.cells 78 P5,.rowsP 9 .str]
abbrev MC:List PV:=[.ptr 0 0,.ptr 1 0,.ptr 2 0,.ptr 3 0,.ptr 4 0,.ptr 5 0,.ptr 6 0,.ptr 7 0,.d aM]
abbrev aku:List PV:=[.d (.sl d_),.d aM,.d p_,.d (.sl ie),.row 8,.row 9,.csl 10 4 3]
abbrev ale:List PB:=[.cells 102 [.d uN],.cells 97 aku,.cells 144 [.d gR],.cells 97 vY,.cells 59 vb,.cells 59 [.d fH],.cells 175 La6,.cells 188 [.d qY],.rows 2 ai aM,.rows 2 ai aM,.cells 175 [.d aM,.row 11,.row 12,.d aM,.d eU,.d eU],.rows 2 ai aM,.rows 53 ai (.sl aM)]
abbrev ald:List PB:=[.cells 102 [.d uN],.cells 97 aku,.cells 144 [.d gR],.cells 97 vY,.cells 59 vb,.cells 59 [.d fH],.cells 175 La6,.cells 188 [.d qY],.rows 2 ai aM,.rows 2 ai aM,.cells 175 [.d eU,.d aM,.row 11,.row 12,.d aM,.d eU],.rows 2 ai aM,.rows 53 ai (.sl aM)]
abbrev alc:List PB:=[.cells 102 [.d uN],.cells 97 aku,.cells 144 [.d gR],.cells 97 vY,.cells 59 vb,.cells 59 [.d fH],.cells 175 La6,.cells 188 [.d qY],.rows 2 ai aM,.rows 2 ai aM,.cells 175 [.d eU,.d eU,.d aM,.row 11,.row 12,.d aM],.rows 2 ai aM,.rows 53 ai (.sl aM)]
abbrev aiq:List PV:=[.d (.sl d_),.d aM,.d p_,.d (.sl ie),.row 8,.row 9,.csl 10 4 2]
abbrev alb:List PB:=[.cells 102 [.d uN],.cells 97 aiq,.cells 144 [.d gR],.cells 97 vY,.cells 59 vb,.cells 59 [.d fH],.cells 175 La6,.cells 188 [.d qY],.rows 2 ai aM,.rows 2 ai aM,.cells 175 [.d aM,.row 11,.row 12,.d aM,.d eU],.rows 2 ai aM,.rows 53 ai (.sl aM)]
abbrev ala:List PB:=[.cells 102 [.d uN],.cells 97 aiq,.cells 144 [.d gR],.cells 97 vY,.cells 59 vb,.cells 59 [.d fH],.cells 175 La6,.cells 188 [.d qY],.rows 2 ai aM,.rows 2 ai aM,.cells 175 [.d eU,.d aM,.row 11,.row 12,.d aM],.rows 2 ai aM,.rows 53 ai (.sl aM)]
abbrev ZT:List PB:=[.cells 225 [.d (.sl G_),.d (.sl s8),.d aM,.row 1,.row 4,.row 5],.rowsP 198 .sm,.gone,.gone,.rows 9 ai .str,.rows 9 ai .str]
abbrev MB:List PV:=[.ptr 0 0,.ptr 1 0,.ptr 2 0,.ptr 3 0,.ptr 4 0,.ptr 5 0,.ptr 6 0,.d .bool]
abbrev hY:List PV:=[.ptr 0 0,.d .bool]
abbrev ZS:List PB:=[.cells 225 [.d (.sl G_),.d (.sl s8),.d aM,.row 1,.row 2,.row 3],.rowsP 198 .sm,.rows 9 ai .str,.rows 9 ai .str]
abbrev al9:List PB:=[.cells 102 [.d uN],.cells 97 [.d (.sl d_),.d aM,.d p_,.d (.sl ie),.row 8,.row 9,.csl 10 4 1],.cells 144 [.d gR],.cells 97 vY,.cells 59 vb,.cells 59 [.d fH],.cells 175 La6,.cells 188 [.d qY],.rows 2 ai aM,.rows 2 ai aM,.cells 175 La6,.rows 2 ai aM,.rows 53 ai (.sl aM)]
abbrev MA:List PV:=[.ptr 0 0,.ptr 1 0,.ptr 2 0,.ptr 3 0,.ptr 4 0,.ptr 5 0,.ptr 6 0]
abbrev al8:List PB:=[.cells 102 [.d uN],.cells 97 La9,.cells 144 [.d gR],.cells 97 vY,.cells 59 vb,.cells 59 [.d fH],.cells 175 La6,.cells 188 [.d qY],.rows 2 ai aM,.rows 2 ai aM,.cells 175 [.d aM,.row 11,.row 12,.d aM,.d eU,.d eU,.d eU],.rows 2 ai aM,.rows 53 ai (.sl aM)]
abbrev al7:List PB:=[.cells 102 [.d uN],.cells 97 La9,.cells 144 [.d gR],.cells 97 vY,.cells 59 vb,.cells 59 [.d fH],.cells 175 La6,.cells 188 [.d qY],.rows 2 ai aM,.rows 2 ai aM,.cells 175 [.d eU,.d aM,.row 11,.row 12,.d aM,.d eU,.d eU],.rows 2 ai aM,.rows 53 ai (.sl aM)]
abbrev al6:List PB:=[.cells 102 [.d uN],.cells 97 La9,.cells 144 [.d gR],.cells 97 vY,.cells 59 vb,.cells 59 [.d fH],.cells 175 La6,.cells 188 [.d qY],.rows 2 ai aM,.rows 2 ai aM,.cells 175 [.d eU,.d eU,.d aM,.row 11,.row 12,.d aM,.d eU],.rows 2 ai aM,.rows 53 ai (.sl aM)]
abbrev al5:List PB:=[.cells 102 [.d uN],.cells 97 La9,.cells 144 [.d gR],.cells 97 vY,.cells 59 vb,.cells 59 [.d fH],.cells 175 La6,.cells 188 [.d qY],.rows 2 ai aM,.rows 2 ai aM,.cells 175 [.d eU,.d eU,.d eU,.d aM,.row 11,.row 12,.d aM],.rows 2 ai aM,.rows 53 ai (.sl aM)]
abbrev Ld:List PB:=[.cells 31 [.d md],.cells 87 [.d iQ],.cells 59 [.d fH],.cells 87 vY]
abbrev Mz:List PV:=[.ptr 0 0,.ptr 1 0,.ptr 2 0,.ptr 3 0,.ptr 4 0,.ptr 5 0]
abbrev al4:List PB:=[.cells 97 [.d (.sl d_),.d aM,.d p_,.d (.sl ie),.row 6,.row 7,.csl 8 4 3],.cells 144 [.d gR],.cells 97 vY,.cells 59 vb,.cells 59 [.d fH],.cells 175 [.d eU],.rows 2 ai aM,.rows 2 ai aM,.cells 175 [.d eU,.d eU,.d eU]]
abbrev Tz:List PV:=[.d (.sl d_),.d aM,.d p_,.d (.sl ie),.row 7,.row 8,.csl 9 4 4]
abbrev qS:List PV:=[.ptr 0 0,.ptr 1 0,.d .bool]
abbrev Ac:List PV:=[.ptr 0 0,.ptr 1 0,.ptr 2 0,.ptr 3 0,.d .bool]
abbrev agz:List PV:=[.nil,.nil,.nil,.nil,.nil,.nil]
abbrev al3:List PB:=[.cells 141 [.d NT],.cells 31 agz,.cells 31 [.row 4,.row 5,.row 6,.row 7,.nil,.nil],.cells 228 [.d G_],.rows 114 ai ky,.rows 49 ai q_,.rows 118 ai lm,.rows 9 ai .str]
abbrev ZQ:List PV:=[.nil,.nil,.nil,.nil,.nil,.nil,.nil]
abbrev ao7:List PV:=[.d (.sl ky),.d (.sl q_),.d (.sl lm),.d (.sl .str),.d (.sl .str),.d (.sl oB),.row 5]
abbrev aoj:List PB:=[.cells 141 [.d NT],.cells 102 ZQ,.cells 102 ao7,.cells 184 [.d (.sl ky),.d (.sl q_),.d (.sl lm),.d (.sl .str),.d (.sl .str),.d (.sl oB),.d (.sl .str),.row 6,.d aM,.d aM],.cells 171 [.d aM,.row 6],.rows 171 ai xi,.rows 188 ai qY]
abbrev HH:List PV:=[.row 0,.d aM,.row 1,.row 2]
abbrev al2:List PB:=[.cells 78 [.d yQ],.cells 87 [.d iQ],.cells 31 [.d md],.rows 59 ai fH,.cells 53 [.row 5,.row 6,.row 7,.row 8],.rows 3 ai aM,.rows 3 ai aM,.rows 3 ai aM,.rows 3 ai aM]
abbrev FG:List PV:=[.ptr 0 0,.ptr 1 0,.ptr 2 0,.d aM]
abbrev Lc:List PV:=[.d aM,.d (.sl aM),.d uO,.d aM]
abbrev ZR:List PV:=[.d (.sl d_),.d aM,.d p_,.d (.sl ie),.row 7,.row 8,.csl 9 4 3]
abbrev al1:List PB:=[.cells 78 [.d yQ],.cells 87 [.d iQ],.cells 31 [.d md],.cells 53 [.row 4,.row 5,.row 6,.row 7],.rows 3 ai aM,.rows 3 ai aM,.rows 3 ai aM,.rows 3 ai aM]
abbrev Ee:List PV:=[.ptr 0 0,.ptr 1 0,.ptr 2 0,.d .bool]
abbrev vX:List PV:=[.ptr 0 0,.ptr 1 0,.d aM]
abbrev Lb:List PV:=[.d aM,.row 10,.row 11,.d aM]
abbrev agy:List PV:=[.d aM,.row 0,.row 1,.d aM]
abbrev X8:List PV:=[.d aM,.nil,.nil,.d aM]
abbrev al0:List PB:=[.rows 2 ai aM,.rows 53 ai (.sl aM),.cells 188 [.d qY],.cells 175 agy,.cells 175 X8]
abbrev akz:List PB:=[.cells 225 [.d (.sl G_),.d (.sl s8),.d aM,.row 4,.row 5,.row 6],.gone,.gone,.gone,.rowsP 198 .sm,.rows 9 ai .str,.rows 9 ai .str]
abbrev Cr:List PV:=[.nil,.d aM,.nil,.nil]
abbrev aky:List PB:=[.cells 84 [.row 2,.d aM,.row 3,.row 4],.cells 84 Cr,.rows 153 ai d_,.rows 4 ai .bool,.rows 155 ai ie]
abbrev La:List PV:=[.ptr 0 0,.ptr 3 0,.d .bool]
abbrev aoi:List PB:=[.cells 34 ZQ,.cells 78 [.d yQ],.cells 34 ao7,.cells 87 [.d iQ],.rows 59 aj fH,.rows 59 ai fH]
abbrev pZ:List PB:=[.cells 31 [.d md]]
abbrev aoh:List PB:=[.cells 97 [.d (.sl d_),.d aM,.d p_,.d (.sl ie),.row 6,.row 7,.csl 8 4 2],.cells 144 [.d gR],.cells 97 vY,.cells 59 vb,.cells 59 [.d fH],.cells 175 [.d eU],.rows 2 ai aM,.rows 2 ai aM,.cells 175 [.d eU,.d eU]]
abbrev aog:List PB:=[.cells 78 [.d yQ],.cells 87 [.d iQ],.cells 31 [.d md],.rows 59 ai fH,.cells 53 [.row 7,.row 8,.row 9,.row 10],.cells 59 [.d fH],.cells 87 [.d iQ],.rows 3 ai aM,.rows 3 ai aM,.rows 3 ai aM,.rows 3 ai aM]
abbrev ah6:List PB:=[.cells 31 agz,.cells 31 [.row 2,.row 3,.row 4,.row 5,.row 6,.row 7],.rows 114 aj ky,.rows 49 aj q_,.rows 118 aj lm,.rows 9 aj .str,.rows 9 aj .str,.rows 120 ai oB]
abbrev xh:List PV:=[.ptr 0 0,.d aM]
abbrev adp:List PV:=[.row 2,.row 3,.row 4,.row 5]
abbrev aof:List PB:=[.cells 78 [.d yQ],.cells 53 adp,.rows 3 ai aM,.rows 3 ai aM,.rows 3 ai aM,.rows 3 ai aM,.cells 59 vb,.cells 59 [.d aM,.d aM,.d aM,.d aM,.d aM,.d (.sl aM),.nil]]
abbrev ah5:List PV:=[.d (.sl d_),.d aM,.d p_,.d (.sl ie),.row 7,.row 8,.csl 9 4 2]
abbrev My:List PV:=[.d vZ,.d fH,.d .bool]
abbrev aoe:List PB:=[.cells 78 [.d yQ],.cells 53 adp,.rows 3 ai aM,.rows 3 ai aM,.rows 3 ai aM,.rows 3 ai aM,.cells 87 [.d iQ],.cells 31 [.d md],.cells 59 vb,.cells 59 vb]
abbrev aod:List PB:=[.cells 141 [.d NT],.cells 31 agz,.cells 31 [.row 3,.row 4,.row 5,.row 6,.nil,.nil],.rows 114 ai ky,.rows 49 ai q_,.rows 118 ai lm,.rows 9 ai .str]
abbrev akx:List PV:=[.d (.sl d_),.d aM,.d p_,.d (.sl ie),.row 3,.row 4,.row 5]
abbrev Mx:List PV:=[.d uN,.d vZ,.d gR]
abbrev akw:List PB:=[.rows 153 ai d_,.rows 4 ai .bool,.rows 155 ai ie,.cells 84 HH,.rows 3 ai aM]
abbrev ads:List PV:=[.row 3,.d aM,.row 4,.row 5]
abbrev aoc:List PB:=[.cells 31 [.d md],.cells 84 ads,.cells 84 Cr,.rows 153 ai d_,.rows 4 ai .bool,.rows 155 ai ie]
abbrev u_:List PV:=[.d aM,.d aM]
abbrev aob:List PB:=[.cells 171 [.d xi],.cells 175 [.d aM,.row 3,.row 4,.d aM],.cells 175 X8,.rows 2 ai aM,.rows 53 ai (.sl aM)]
abbrev aoa:List PB:=[.cells 192 ain,.cells 78 [.d yQ],.gone,.rows 198 ai .sm,.rowsP 9 .str]
abbrev akv:List PB:=[.rows 59 ai fH,.cells 102 [.d uN],.cells 97 [.d vZ],.cells 97 vY]
abbrev akt:List PV:=[.ptr 1 0,.d aM,.d aM,.d .bool,.d .bool,.d .bool,.d .bool,.row 3]
abbrev ao9:List PB:=[.cells 59 vb,.cells 175 [.d eU],.cells 188 [.d qY],.cells 59 [.d aM,.d aM,.d aM,.d aM,.d aM,.row 4,.nil],.rows 3 ai aM]
abbrev P4:List PB:=[.cells 198 [.d .sm]]
abbrev ah4:List PV:=[.agg [.agg HH,.row 3,.row 4,.csl 5 4 4]]
abbrev Tx:List PB:=[.cells 141 [.d NT]]
abbrev aks:List PB:=[.cells 31 [.d md],.cells 171 [.d xi],.cells 188 [.d qY]]
abbrev ah3:List PB:=[.cells 141 [.d NT],.cells 182 [.d s8]]
abbrev ah2:List PB:=[.cells 141 [.d NT],.cells 196 [.d .ex]]
abbrev akr:List PB:=[.cells 31 [.d md],.rows 9 ai .str,.cells 114 [.d ky]]
abbrev akq:List PB:=[.rows 153 ai d_,.rows 4 ai .bool,.rows 155 ai ie]
abbrev ah1:List PB:=[.cells 31 [.d md],.cells 188 [.d qY]]
abbrev ah0:List PV:=[.ptr 0 0,.ptr 4 0,.ptr 5 0,.d .bool]
abbrev akp:List PV:=[.ptr 0 0,.ptr 1 0,.ptr 2 0,.ptr 3 0,.ptr 4 0,.d aM]
abbrev WA:List PB:=[.cells 31 [.d md],.cells 84 [.d HI]]
abbrev ako:List PB:=[.cells 78 [.d yQ],.rows 3 ai aM,.rows 3 ai aM]
abbrev ZP:List PB:=[.cells 31 [.d md],.rows 9 ai .str]
abbrev akn:List PB:=[.cells 59 [.d fH],.cells 87 vY,.cells 87 akx,.rows 2 ai aM,.rows 2 ai aM,.rows 3 ai aM]
abbrev ao8:List PB:=[.cells 78 P5,.cells 53 adp,.rows 3 ai aM,.rows 3 ai aM,.rows 3 ai aM,.rows 3 ai aM]
abbrev HG:List PV:=[.d (.sl aM),.d aM]
abbrev FF:List PV:=[.ptr 0 0,.row 1,.d aM]
abbrev ZO:List PB:=[.cells 228 [.d G_]]
abbrev ZN:List PB:=[.cells 78 [.d yQ]]
abbrev akm:List PV:=[.agg [.agg HH,.row 3,.row 4,.csl 5 4 3]]
abbrev Tw:List PB:=[.cells 78 P5]
abbrev adx:List PB:=[.rows 2 ai aM,.rows 53 ai (.sl aM)]
abbrev adw:List PB:=[.cells 31 [.d md],.cells 171 [.d xi]]
abbrev adv:List PB:=[.cells 102 [.d uN],.cells 97 [.d vZ]]
abbrev nB:List PV:=[.d (.sl aM)]
abbrev adu:List PV:=[.ptr 0 0,.ptr 1 0,.ptr 2 0,.ptr 3 0]
abbrev aip:List PV:=[.d (.sl d_),.d aM,.d p_,.d (.sl ie),.row 7,.row 8,.csl 9 4 1]
abbrev adt:List PB:=[.cells 84 [.d HI],.rows 3 ai aM]
abbrev TA:List PV:=[.ptr 0 0,.d aM,.d aM]
def tyT:PT Ty:=dG [(2,aM),(3,aM),(4,.bool),(9,.str),(47,gR),(49,q_),(53,(.sl aM)),(55,gR),(59,fH),(81,p_),(114,ky),(118,lm),(120,oB),(144,gR),(153,d_),(155,ie),(171,xi),(175,eU),(182,s8),(188,qY),(196,.ex),(198,.sm),(228,G_)]
def bY (t:TypeId):Option Ty:=tyT.get t
def Bs:FT:=⟨⟨[],[]⟩,⟨[.d (.sl .str)],[]⟩,.leaf⟩
def Mk:cg:=cn Bs kr
def zK:FT:=⟨⟨[.d .str],[]⟩,⟨[.d .bool],[]⟩,dG [(8,(.j ⟨[0,3],[4],⟨[.d aM],[]⟩,[]⟩))]⟩
def Kz:cg:=cn zK jF
def GW:FT:=⟨⟨[.d (.int .u8)],[]⟩,⟨[.d .bool],[]⟩,dG [(2,(.j ⟨[],[2],⟨[.d .bool],[]⟩,[]⟩))]⟩
def S1:cg:=cn GW lx
def Kd:FT:=⟨⟨[.d (.int .u8)],[]⟩,⟨[.d .bool],[]⟩,dG [(2,(.j ⟨[],[2],⟨[.d .bool],[]⟩,[]⟩))]⟩
def VZ:cg:=cn Kd rE
def Kc:FT:=⟨⟨[.d (.int .u8)],[]⟩,⟨[.d .bool],[]⟩,dG [(2,(.j ⟨[],[2],⟨[.d .bool],[]⟩,[]⟩))]⟩
def VY:cg:=cn Kc pq
def GY:FT:=⟨⟨[.d .str],[]⟩,⟨[.d .bool],[]⟩,dG [(3,(.j ⟨[0],[21],⟨[.d .bool],[]⟩,[]⟩)),(14,(.j ⟨[0],[3],⟨[.d aM],[]⟩,[]⟩))]⟩
def S4:cg:=cn GY fe
def J8:FT:=⟨⟨[.d .bool],[]⟩,⟨[.d aM],[]⟩,.leaf⟩
def VP:cg:=cn J8 fY
def J9:FT:=⟨⟨u_,[]⟩,⟨[.d aM,.d .bool],[]⟩,.leaf⟩
def VQ:cg:=cn J9 ur
def GP:FT:=⟨⟨[.d aM,.d aM,.d aM],[]⟩,⟨[.d aM,.d .bool],[]⟩,dG [(91,(.j ⟨[],[6,7],⟨[.d aM,.d .bool],[]⟩,[]⟩)),(97,(.j ⟨[],[6,7],⟨[.d aM,.d .bool],[]⟩,[]⟩))]⟩
def SS:cg:=cn GP sB
def J_:FT:=⟨⟨u_,[]⟩,⟨[.d aM],[]⟩,dG [(12,(.j ⟨[],[5],⟨[.d aM],[]⟩,[]⟩))]⟩
def VR:cg:=cn J_ rC
def Br:FT:=⟨⟨[.d aM],[]⟩,⟨[.d aM],[]⟩,dG [(4,(.j ⟨[0],[3],⟨[.d .bool],[]⟩,[]⟩)),(10,(.j ⟨[0],[10],⟨[.d .bool],[]⟩,[]⟩)),(16,(.j ⟨[],[17],⟨[.d .bool],[]⟩,[]⟩))]⟩
def Mj:cg:=cn Br mm
def o_:FT:=⟨⟨[.d .ex],[]⟩,⟨[.d .bool],[]⟩,dG [(2,(.j ⟨[],[1,3],⟨hY,[.cells 196 [.d .ex]]⟩,[]⟩)),(5,(.j ⟨[],[1,50],⟨hY,[.cells 196 [.d .ex]]⟩,[]⟩)),(16,(.j ⟨[],[1,4],⟨xh,[.cells 196 [.d .ex]]⟩,[]⟩))]⟩
def Ht:cg:=cn o_ jb
def Hg (n:Nat):cg:=cn o_ (ib n)
def Kb:FT:=⟨⟨[.d .ex],[]⟩,⟨[.d .bool],[]⟩,dG [(2,(.j ⟨[],[2],⟨[.d .bool],[]⟩,[]⟩))]⟩
def VX:cg:=cn Kb po
def s7:FT:=⟨⟨[.d .sm],[]⟩,⟨[.d .bool],[]⟩,dG [(3,(.j ⟨[],[1,13],⟨hY,P4⟩,[]⟩)),(10,(.j ⟨[],[1,3],⟨hY,P4⟩,[]⟩)),(13,(.j ⟨[],[1,47],⟨hY,P4⟩,[]⟩)),(21,(.j ⟨[],[1,66],⟨hY,P4⟩,[]⟩)),(29,(.j ⟨[],[1,95],⟨hY,P4⟩,[]⟩)),(36,(.j ⟨[],[1,4],⟨hY,P4⟩,[]⟩)),(39,(.j ⟨[],[1,130],⟨hY,P4⟩,[]⟩)),(46,(.j ⟨[],[1,5],⟨hY,P4⟩,[]⟩)),(49,(.j ⟨[],[1,157],⟨hY,P4⟩,[]⟩)),(56,(.j ⟨[],[2],⟨[.d .bool],[]⟩,[]⟩))]⟩
def Hf (n:Nat):cg:=cn s7 (eB n)
def n_:FT:=⟨⟨[.d (.sl .sm)],[]⟩,⟨[.d .bool],[]⟩,dG [(6,(.j ⟨[0],[3],⟨[.d aM],[]⟩,[]⟩))]⟩
def Fq:cg:=cn n_ nN
def EQ (n:Nat):cg:=cn n_ (dH n)
def yw:FT:=⟨⟨[.d G_],[]⟩,⟨[.d .bool],[]⟩,dG [(3,(.j ⟨[],[1,31],⟨hY,ZO⟩,[]⟩)),(11,(.j ⟨[],[1,50],⟨hY,ZO⟩,[]⟩)),(18,(.j ⟨[],[2],⟨[.d .bool],[]⟩,[]⟩))]⟩
def Hs:cg:=cn yw jZ
def GV:FT:=⟨⟨[.d NT],[]⟩,⟨[.d .bool],[]⟩,dG [(6,(.j ⟨[],[1,3],⟨xh,Tx⟩,[]⟩)),(27,(.j ⟨[],[1,4],⟨xh,Tx⟩,[]⟩)),(42,(.j ⟨[4],[1,5,6],⟨vX,ah3⟩,[]⟩)),(59,(.j ⟨[4],[1,56],⟨hY,Tx⟩,[]⟩))]⟩
def S0:cg:=cn GV pN
def XM:FT:=⟨⟨[.d (.sl .str),.d .str],[]⟩,⟨[.d aM],[]⟩,dG [(6,(.j ⟨[0,1],[5],⟨[.d aM],[]⟩,[]⟩))]⟩
def ag6:cg:=cn XM iZ
def GU:FT:=⟨⟨[.d (.sl G_),.d .str],[]⟩,⟨[.d aM],[]⟩,dG [(6,(.j ⟨[0,1],[5],⟨[.d aM],[]⟩,[]⟩))]⟩
def SX:cg:=cn GU ia
def Bq:FT:=⟨⟨[.d (.sl s8),.d .str],[]⟩,⟨[.d aM],[]⟩,dG [(6,(.j ⟨[0,1],[5],⟨[.d aM],[]⟩,[]⟩))]⟩
def Mi:cg:=cn Bq gU
def GR:FT:=⟨⟨[.d NT,.d aM,.d .str],[]⟩,⟨[.d aM],[]⟩,dG [(3,(.j ⟨[2],[3,27],⟨hY,Tx⟩,[]⟩)),(52,(.j ⟨[7],[3,56],⟨hY,Tx⟩,[]⟩))]⟩
def SU:cg:=cn GR pM
def Nu:FT:=⟨⟨[.d NT,.d aM,.d .str,.d aM,.d aM],[]⟩,⟨[.d aM],[]⟩,dG [(13,(.j ⟨[],[25],⟨[.d .bool],[]⟩,[]⟩))]⟩
def Zb:cg:=cn Nu gG
def xT:FT:=⟨⟨[.d .ex],[]⟩,⟨u_,[]⟩,dG [(8,(.j ⟨[],[1,4,5,6],⟨[.ptr 0 0,.d aM,.d aM,.d aM],[.cells 196 [.d .ex]]⟩,[]⟩))]⟩
def VV:cg:=cn xT B5
def UL (n:Nat):cg:=cn xT (nk n)
def xS:FT:=⟨⟨[.d NT,.d aM,.d .ex],[]⟩,⟨[.d aM],[]⟩,dG [(7,(.j ⟨[1],[3,5,7],⟨vX,ah2⟩,[]⟩)),(21,(.j ⟨[1],[3,5,7,8],⟨[.ptr 0 0,.ptr 1 0,.d aM,.d aM],ah2⟩,[]⟩)),(23,(.j ⟨[1,7,8],[3,5,33],⟨qS,ah2⟩,[]⟩))]⟩
def VS:cg:=cn xS B4
def UK (n:Nat):cg:=cn xS (nj n)
def Nv:FT:=⟨⟨[.d NT,.d aM,.d .ex],[]⟩,⟨[.d aM],[]⟩,dG [(13,(.j ⟨[1],[3,5,22],⟨qS,ah2⟩,[]⟩))]⟩
def Zc:cg:=cn Nv ml
def DM:FT:=⟨⟨[.d .bool],[]⟩,⟨[.d aM],[]⟩,.leaf⟩
def Pt:cg:=cn DM c9
def XL:FT:=⟨⟨u_,[]⟩,⟨[.d aM],[]⟩,.leaf⟩
def ag5:cg:=cn XL iY
def wZ:FT:=⟨⟨[.ptr 0 0,.d aM,.d aM,.d .str],ZS⟩,⟨[.d .bool],ZS⟩,dG [(6,(.j ⟨[1,2,3],[0,9],⟨xh,ZS⟩,[]⟩)),(17,(.j ⟨[1,2,3,9],[0,46],⟨hY,ZS⟩,[]⟩))]⟩
def Fp:cg:=cn wZ dV
def Bp:FT:=⟨⟨[.ptr 0 0,.d .sm],ZS⟩,⟨[.d aM],ZT⟩,dG [(1,(.a [.ren 0 4,.ren 0 5])),(28,(.j ⟨[6,7,8,9,30],[0,3,5,67],⟨ah0,La8⟩,[]⟩)),(41,(.j ⟨[],[4],⟨[.d aM],ZT⟩,[]⟩)),(44,(.j ⟨[6,7,8,9,30],[0,3,5,91],⟨ah0,La8⟩,[]⟩)),(51,(.j ⟨[],[4],⟨[.d aM],ZT⟩,[]⟩)),(63,(.j ⟨[],[4],⟨[.d aM],ZT⟩,[]⟩)),(66,(.j ⟨[6,7,8,9,30],[0,3,5,119],⟨ah0,La8⟩,[]⟩)),(89,(.j ⟨[],[4],⟨[.d aM],ZT⟩,[]⟩)),(108,(.j ⟨[],[0,3,187],⟨[.ptr 0 0,.ptr 4 0,.d .bool],[.cells 225 [.d (.sl G_),.d (.sl s8),.d aM,.row 1,.row 5,.row 6],.rowsP 198 .sm,.gone,.gone,.cells 198 [.d .sm],.rows 9 ai .str,.rows 9 ai .str]⟩,[]⟩)),(131,(.j ⟨[],[4],⟨[.d aM],ZT⟩,[]⟩)),(137,(.j ⟨[6],[0,3,5,14],⟨[.ptr 0 0,.ptr 4 0,.ptr 5 0,.d aM],La8⟩,[]⟩)),(139,(.j ⟨[6],[0,3,5,14],⟨[.ptr 0 0,.ptr 4 0,.ptr 5 0,.d aM],La8⟩,[]⟩)),(140,(.j ⟨[6,14],[0,3,5,253],⟨ah0,La8⟩,[]⟩))]⟩
def Mg:cg:=cn Bp mj
def sd:FT:=⟨⟨[.ptr 0 0,.d (.sl .sm)],ZS⟩,⟨u_,akz⟩,dG [(1,(.a [.ren 0 3,.ren 0 4,.ren 0 5])),(6,(.j ⟨[1],[0,6],⟨xh,akz⟩,[]⟩)),(19,(.j ⟨[1,6],[0,7,8],⟨[.ptr 0 0,.ptr 4 0,.d aM],[.cells 225 [.d (.sl G_),.d (.sl s8),.d aM,.row 5,.row 6,.row 7],.gone,.gone,.gone,.cells 198 [.d .sm],.rowsP 198 .sm,.rows 9 ai .str,.rows 9 ai .str]⟩,[]⟩)),(37,(.j ⟨[1,6],[0,8,9],⟨TA,akz⟩,[]⟩))]⟩
def Mh:cg:=cn sd vP
def LH (n:Nat):cg:=cn sd (iG n)
def xU:FT:=⟨⟨[.d (.sl .sm)],[]⟩,⟨[.d aM],[]⟩,dG [(8,(.j ⟨[0],[3,4],⟨u_,[]⟩,[]⟩))]⟩
def VW:cg:=cn xU B6
def UM (n:Nat):cg:=cn xU (nl n)
def Ka:FT:=⟨⟨[.d (.sl G_)],[]⟩,⟨u_,[]⟩,dG [(8,(.j ⟨[0],[4,5,6,7,8],⟨[.d aM,.d aM,.d aM,.d aM,.d aM],[]⟩,[]⟩)),(16,(.j ⟨[0,8],[4,5,6,7],⟨[.d aM,.d aM,.d aM,.d aM],[]⟩,[]⟩)),(38,(.j ⟨[0,8],[4,5,6,7,9],⟨[.d aM,.d aM,.d aM,.d aM,.ptr 0 0],ZO⟩,[]⟩)),(39,(.j ⟨[0,4,5,6,7,8,36],[9,39],⟨hY,ZO⟩,[]⟩)),(47,(.j ⟨[0,4,5,6,7,8,36],[9,47],⟨hY,ZO⟩,[]⟩)),(61,(.j ⟨[0,4,5,6,7,8],[9,69],⟨hY,ZO⟩,[]⟩))]⟩
def VU:cg:=cn Ka rD
def DL:FT:=⟨⟨[.d NT],[]⟩,⟨u_,[]⟩,dG [(6,(.j ⟨[],[1,4],⟨xh,Tx⟩,[]⟩)),(17,(.j ⟨[4],[1,5,37],⟨qS,ah3⟩,[]⟩)),(29,(.j ⟨[],[1,6],⟨xh,Tx⟩,[]⟩)),(51,(.j ⟨[6],[1,7,8],⟨vX,ah3⟩,[]⟩)),(62,(.j ⟨[6,8],[1,7,90],⟨qS,ah3⟩,[]⟩))]⟩
def Ps:cg:=cn DL nM
def DN:FT:=⟨⟨[.d NT],[]⟩,⟨u_,[]⟩,dG [(44,(.j ⟨[],[1,8,9],⟨TA,Tx⟩,[]⟩)),(67,(.a [.cel 10 3 198 .sm,.cel 10 4 9 .str,.cel 10 5 9 .str])),(69,(.j ⟨[],[1,10,11],⟨vX,[.cells 141 [.d NT],.cells 225 [.d (.sl G_),.d (.sl s8),.d aM,.row 2,.row 3,.row 4],.rowsP 198 .sm,.rows 9 ai .str,.rows 9 ai .str]⟩,[]⟩))]⟩
def Pu:cg:=cn DN fk
def xR:FT:=⟨⟨[.row 0,.d aM,.d aM,.d (.sl .sm)],[.rows 120 ai oB]⟩,⟨[.row 1,.d aM],[.gone,.rows 120 ai oB]⟩,dG [(1,(.a [.ren 0 0])),(6,(.j ⟨[1,3],[0,2,10],⟨[.row 1,.d aM,.d aM],[.gone,.rows 120 ai oB]⟩,[]⟩)),(25,(.a [.nil 8 120 oB]))]⟩
def VG:cg:=cn xR IL
def UJ (n:Nat):cg:=cn xR (pA n)
def GG:FT:=⟨⟨[.d (.sl q_),.d .str],[]⟩,⟨[.d aM],[]⟩,dG [(6,(.j ⟨[0,1],[5],⟨[.d aM],[]⟩,[]⟩))]⟩
def SJ:cg:=cn GG kf
def GM:FT:=⟨⟨[.d md,.d .str],[]⟩,⟨[.d aM],[]⟩,dG [(6,(.j ⟨[1],[2,5],⟨xh,pZ⟩,[]⟩))]⟩
def SM:cg:=cn GM lw
def J6:FT:=⟨⟨[.d NT],[]⟩,⟨[.d md],[]⟩,dG [(18,(.j ⟨[],[1,2,3,6],⟨FG,aod⟩,[.cel 3 0 114 ky,.cel 3 1 49 q_,.cel 3 2 118 lm,.cel 3 3 9 .str]⟩)),(31,(.j ⟨[6],[1,2,3],⟨[.ptr 0 0,.ptr 1 0,.ptr 2 0],aod⟩,[]⟩)),(32,(.j ⟨[6,31],[1,2,3,7,39],⟨Ac,al3⟩,[]⟩)),(42,(.j ⟨[6],[1,2,3,7,8],⟨[.ptr 0 0,.ptr 1 0,.ptr 2 0,.ptr 3 0,.d aM],al3⟩,[]⟩)),(53,(.j ⟨[6,31],[1,2,3,7,65],⟨Ac,al3⟩,[]⟩)),(69,(.a [.cel 3 5 120 oB])),(71,(.j ⟨[],[1,2,3,9],⟨FG,[.cells 141 [.d NT],.cells 31 agz,.cells 31 [.row 3,.row 4,.row 5,.row 6,.row 7,.row 8],.rows 114 ai ky,.rows 49 ai q_,.rows 118 ai lm,.rows 9 ai .str,.rows 9 ai .str,.rows 120 ai oB]⟩,[.cel 3 4 9 .str]⟩))]⟩
def VN:cg:=cn J6 uq
def J3:FT:=⟨⟨[.d md],[]⟩,⟨[.d (.sl .str),.d .bool],[]⟩,dG [(8,(.j ⟨[],[1,4,5],⟨FF,ZP⟩,[.nil 4 9 .str]⟩)),(15,(.j ⟨[],[1,4,5],⟨FF,ZP⟩,[]⟩)),(37,(.j ⟨[5],[1,4,6,51],⟨[.ptr 0 0,.row 1,.ptr 2 0,.d .bool],akr⟩,[]⟩)),(48,(.j ⟨[5],[1,4,6,7],⟨[.ptr 0 0,.row 1,.ptr 2 0,.d aM],akr⟩,[]⟩)),(59,(.j ⟨[5,7],[1,4,6,93],⟨[.ptr 0 0,.row 1,.ptr 2 0,.d .bool],akr⟩,[]⟩)),(72,(.j ⟨[],[1,4,9],⟨FF,ZP⟩,[]⟩)),(87,(.j ⟨[],[1,4,10],⟨FF,ZP⟩,[]⟩))]⟩
def VH:cg:=cn J3 pm
def yr:FT:=⟨⟨[.d md],[]⟩,⟨[.d .bool],[]⟩,dG [(3,(.j ⟨[],[1,49],⟨hY,pZ⟩,[]⟩)),(24,(.j ⟨[3],[1,5],⟨xh,pZ⟩,[]⟩)),(33,(.j ⟨[3,5],[1,79],⟨hY,pZ⟩,[]⟩)),(45,(.j ⟨[],[1,6],⟨xh,pZ⟩,[]⟩)),(56,(.j ⟨[6],[1,109],⟨hY,pZ⟩,[]⟩)),(68,(.j ⟨[],[1,8],⟨xh,pZ⟩,[]⟩)),(76,(.j ⟨[8],[1],⟨[.ptr 0 0],pZ⟩,[]⟩)),(80,(.j ⟨[8],[1,9,132],⟨qS,[.cells 31 [.d md],.cells 120 [.d oB]]⟩,[]⟩)),(87,(.j ⟨[8],[1,9,146],⟨qS,[.cells 31 [.d md],.cells 120 [.d oB]]⟩,[]⟩)),(90,(.j ⟨[8],[1,165],⟨hY,pZ⟩,[]⟩))]⟩
def Hr:cg:=cn yr h_
def zJ:FT:=⟨⟨[.d qY],[]⟩,⟨nB,[]⟩,dG [(6,(.j ⟨[4],[1,5],⟨hY,[.cells 188 [.d qY]]⟩,[]⟩)),(24,(.j ⟨[4],[1,13],⟨hY,[.cells 188 [.d qY]]⟩,[]⟩)),(46,(.j ⟨[4],[1,37],⟨hY,[.cells 188 [.d qY]]⟩,[]⟩))]⟩
def Ky:cg:=cn zJ jE
def GJ:FT:=⟨⟨[.d aM],[]⟩,⟨[.d .bool],[]⟩,dG [(2,(.j ⟨[],[2],⟨[.d .bool],[]⟩,[]⟩))]⟩
def SK:cg:=cn GJ pK
def J4:FT:=⟨⟨[.d (.sl qY),.d aM],[]⟩,⟨[.d .bool],[]⟩,dG [(6,(.j ⟨[0],[1,5],⟨u_,[]⟩,[]⟩)),(14,(.j ⟨[0,5],[1],⟨[.d aM],[]⟩,[]⟩)),(16,(.j ⟨[0,1,5],[19],⟨[.d .bool],[]⟩,[]⟩))]⟩
def VK:cg:=cn J4 pn
def XK:FT:=⟨⟨u_,[]⟩,⟨[.d .bool],[]⟩,dG [(2,(.j ⟨[],[4],⟨[.d .bool],[]⟩,[]⟩))]⟩
def ag4:cg:=cn XK jp
def J5:FT:=⟨⟨[.d md,.d aM,.d aM],[]⟩,⟨[.d .bool],[]⟩,dG [(2,(.j ⟨[],[6],⟨[.d .bool],[]⟩,[]⟩))]⟩
def VM:cg:=cn J5 m_
def DI:FT:=⟨⟨[.d md,.d qY],[]⟩,⟨[.d .bool],[]⟩,dG [(9,(.j ⟨[],[4],⟨[.d .bool],[]⟩,[]⟩)),(15,(.j ⟨[],[4],⟨[.d .bool],[]⟩,[]⟩)),(30,(.j ⟨[6],[2,3,59],⟨qS,ah1⟩,[]⟩)),(37,(.j ⟨[],[4],⟨[.d .bool],[]⟩,[]⟩)),(40,(.j ⟨[6],[2,3,78],⟨qS,ah1⟩,[]⟩)),(55,(.j ⟨[],[4],⟨[.d .bool],[]⟩,[]⟩)),(58,(.j ⟨[6],[2,3,98],⟨qS,ah1⟩,[]⟩)),(72,(.j ⟨[6],[2,3,108],⟨qS,ah1⟩,[]⟩)),(97,(.j ⟨[],[4],⟨[.d .bool],[]⟩,[]⟩)),(103,(.j ⟨[],[4],⟨[.d .bool],[]⟩,[]⟩))]⟩
def Pp:cg:=cn DI lH
def wY:FT:=⟨⟨[.d md,.d aM,.d xi],[]⟩,⟨[.d .bool],[]⟩,dG [(5,(.j ⟨[1,7],[3,5,26],⟨qS,adw⟩,[]⟩)),(16,(.j ⟨[1,7],[3,5,8],⟨vX,adw⟩,[]⟩)),(28,(.j ⟨[1,7,8],[3,5,9,67],⟨Ee,aks⟩,[]⟩)),(36,(.j ⟨[1,7,8],[3,5,9,100],⟨Ee,aks⟩,[]⟩)),(44,(.j ⟨[1,7,8],[3,5,9,122],⟨Ee,aks⟩,[]⟩)),(56,(.j ⟨[1,7,8,10],[3,5,11],⟨vX,adw⟩,[]⟩))]⟩
def Fo:cg:=cn wY ip
def J7:FT:=⟨⟨[.d uN],[]⟩,⟨[.d .bool],[]⟩,dG [(3,(.j ⟨[],[1,17],⟨hY,[.cells 102 [.d uN]]⟩,[]⟩)),(14,(.j ⟨[],[1,3],⟨xh,[.cells 102 [.d uN]]⟩,[]⟩))]⟩
def VO:cg:=cn J7 jD
def DJ:FT:=⟨⟨[.ptr 0 0,.d qY],La5⟩,⟨[],La4⟩,.leaf⟩
def Pq:cg:=cn DJ cF
def qN:FT:=⟨⟨[.ptr 0 0,.d .ex,.d aM],La5⟩,⟨[],La4⟩,dG [(2,(.j ⟨[],[],⟨[],La4⟩,[]⟩))]⟩
def Kw:cg:=cn qN iJ
def IZ (n:Nat):cg:=cn qN (iK n)
def yq:FT:=⟨⟨[.ptr 0 0,.d .sm],La5⟩,⟨[],La4⟩,.leaf⟩
def Hq:cg:=cn yq lZ
def Bo:FT:=⟨⟨[.ptr 0 0,.d .str],La5⟩,⟨[.d aM],La5⟩,dG [(6,(.j ⟨[1],[0,5],⟨xh,La5⟩,[]⟩))]⟩
def Mf:cg:=cn Bo jt
def qO:FT:=⟨⟨[.ptr 0 0,.d (.sl .sm)],La5⟩,⟨[],La4⟩,dG [(1,(.a [.ren 0 7])),(3,(.j ⟨[1],[0,4],⟨xh,La4⟩,[]⟩))]⟩
def Kx:cg:=cn qO uo
def I0 (n:Nat):cg:=cn qO (dM n)
def vV:FT:=⟨⟨[.ptr 0 0,.d .sm],La5⟩,⟨[],La4⟩,dG [(1,(.a [.ren 0 7])),(10,(.j ⟨[],[],⟨[],La4⟩,[]⟩)),(15,(.j ⟨[4,25],[0,3,31],⟨[.ptr 0 0,.ptr 2 0,.d .bool],[.cells 184 [.d (.sl ky),.d (.sl q_),.d (.sl lm),.d (.sl .str),.d (.sl .str),.d (.sl oB),.d (.sl .str),.row 3,.d aM,.d aM],.gone,.cells 198 [.d .sm],.rows 188 ai qY]⟩,[]⟩))]⟩
def LG (n:Nat):cg:=cn vV (eP n)
def qP:FT:=⟨⟨[.ptr 0 0,.d .sm],La5⟩,⟨[],La4⟩,.leaf⟩
def C9 (n:Nat):cg:=cn qP (dg n)
def s6:FT:=⟨⟨[.ptr 0 0,.d .sm,.d aM,.d aM,.d aM],La5⟩,⟨[],La4⟩,.leaf⟩
def He (n:Nat):cg:=cn s6 (dI n)
def DK:FT:=⟨⟨[.d NT],[]⟩,⟨[.d uN,.d aM,.d aM],[]⟩,dG [(20,(.j ⟨[],[1,2,7,8,9],⟨[.ptr 0 0,.ptr 1 0,.ptr 2 0,.d aM,.d aM],[.cells 141 [.d NT],.cells 102 ZQ,.cells 102 [.d (.sl ky),.d (.sl q_),.d (.sl lm),.d (.sl .str),.d (.sl .str),.d (.sl oB),.row 3],.rows 171 ai xi]⟩,[.cel 7 6 171 xi]⟩)),(32,(.a [.cel 10 7 188 qY])),(45,(.j ⟨[8,9],[1,2,7,10,11,12],⟨akp,aoj⟩,[]⟩)),(59,(.j ⟨[8,9,12,13],[1,2,7,10,11,14],⟨akp,aoj⟩,[]⟩))]⟩
def Pr:cg:=cn DK qw
def R1:FT:=⟨⟨HG,[]⟩,⟨[.d .bool],[]⟩,dG [(6,(.j ⟨[0,1],[5],⟨[.d aM],[]⟩,[]⟩))]⟩
def acj:cg:=cn R1 qu
def RZ:FT:=⟨⟨HG,[]⟩,⟨nB,[]⟩,dG [(6,(.j ⟨[0,1],[5],⟨[.d aM],[]⟩,[]⟩)),(8,(.j ⟨[0,1,5],[18],⟨[.d .bool],[]⟩,[]⟩)),(16,(.j ⟨[0,1,5],[32],⟨[.d .bool],[]⟩,[]⟩))]⟩
def aci:cg:=cn RZ wD
def J2:FT:=⟨⟨[.d (.sl aM),.d (.sl aM)],[]⟩,⟨nB,[]⟩,dG [(8,(.j ⟨[0,1],[5,6],⟨HG,[]⟩,[]⟩)),(23,(.j ⟨[1],[5,7],⟨HG,[]⟩,[]⟩))]⟩
def VF:cg:=cn J2 rB
def Bn:FT:=⟨⟨[.d aM],[]⟩,⟨[.d aM],[]⟩,dG [(3,(.j ⟨[0],[8],⟨[.d .bool],[]⟩,[]⟩))]⟩
def Me:cg:=cn Bn mi
def Nt:FT:=⟨⟨[.d eU],[]⟩,⟨[.agg agy],adx⟩,dG [(8,(.j ⟨[],[1,2,3,4],⟨FG,[.cells 175 [.d eU],.cells 175 X8,.cells 175 [.d aM,.row 3,.row 4,.d aM],.rows 2 ai aM,.rows 53 ai (.sl aM)]⟩,[.cel 3 2 53 (.sl aM)]⟩))]⟩
def Za:cg:=cn Nt co
def Ns:FT:=⟨⟨[.d qY,.agg agy],adx⟩,⟨[.agg agy,.d .bool],adx⟩,dG [(8,(.j ⟨[6],[2,3,4,7],⟨[.ptr 2 0,.ptr 3 0,.ptr 4 0,.d aM],al0⟩,[]⟩)),(17,(.j ⟨[6,7],[2,3,4,33],⟨[.ptr 2 0,.ptr 3 0,.ptr 4 0,.d .bool],al0⟩,[]⟩)),(32,(.j ⟨[],[2,3,4,8,9,10],⟨[.ptr 2 0,.ptr 3 0,.ptr 4 0,.d aM,.d .bool,.d (.sl aM)],al0⟩,[]⟩))]⟩
def Y':cg:=cn Ns wC
def GF:FT:=⟨⟨[.d xi,.d eU],[]⟩,⟨[.d eU,.d .bool],[]⟩,dG [(3,(.j ⟨[],[2,3,4,23],⟨Ee,[.cells 171 [.d xi],.cells 175 [.d eU],.cells 175 X8]⟩,[]⟩)),(16,(.j ⟨[],[2,3,4,6],⟨FG,aob⟩,[]⟩)),(26,(.j ⟨[6],[2,3,4,44],⟨Ee,aob⟩,[]⟩))]⟩
def SH:cg:=cn GF m8
def J0:FT:=⟨⟨[.d md],[]⟩,⟨[.d HI],[]⟩,dG [(8,(.j ⟨[],[1,2,3,4],⟨FG,[.cells 31 [.d md],.cells 84 Cr,.cells 84 [.row 3,.d aM,.nil,.nil],.rows 153 ai d_]⟩,[.cel 3 0 153 d_]⟩)),(23,(.j ⟨[],[1,2,3,5],⟨FG,[.cells 31 [.d md],.cells 84 Cr,.cells 84 [.row 3,.d aM,.row 4,.nil],.rows 153 ai d_,.rows 4 ai .bool]⟩,[.cel 3 2 4 .bool]⟩)),(38,(.j ⟨[],[1,2,3,6],⟨FG,[.cells 31 [.d md],.cells 84 Cr,.cells 84 ads,.rows 153 ai d_,.rows 4 ai .bool,.rows 155 ai ie]⟩,[.cel 3 3 155 ie]⟩)),(49,(.j ⟨[6],[1,2,3,7],⟨adu,[.cells 31 [.d md],.cells 84 Cr,.cells 84 [.row 4,.d aM,.row 5,.row 6],.cells 155 [.d ie],.rows 153 ai d_,.rows 4 ai .bool,.rows 155 ai ie]⟩,[]⟩))]⟩
def VB:cg:=cn J0 rz
def Nq:FT:=⟨⟨[.d md,.d HI],[]⟩,⟨[.d .bool],[]⟩,dG [(6,(.j ⟨[],[2,3,5],⟨vX,WA⟩,[]⟩)),(15,(.j ⟨[5],[2,3,31],⟨qS,WA⟩,[]⟩)),(23,(.j ⟨[],[4],⟨[.d .bool],[]⟩,[]⟩))]⟩
def Y9:cg:=cn Nq rA
def XJ:FT:=⟨⟨u_,[]⟩,⟨[.d .bool],[]⟩,dG [(2,(.j ⟨[],[4],⟨[.d .bool],[]⟩,[]⟩))]⟩
def ag3:cg:=cn XJ qr
def JZ:FT:=⟨⟨[.d md,.d aM,.d aM],[]⟩,⟨[.d .bool],[]⟩,dG [(6,(.j ⟨[2,7],[3,8],⟨hY,pZ⟩,[]⟩)),(36,(.j ⟨[2,7],[3,18],⟨hY,pZ⟩,[]⟩)),(46,(.j ⟨[2,7],[3,26],⟨hY,pZ⟩,[]⟩)),(53,(.j ⟨[],[6],⟨[.d .bool],[]⟩,[]⟩)),(56,(.j ⟨[2,7],[3,43],⟨hY,pZ⟩,[]⟩)),(71,(.j ⟨[],[6],⟨[.d .bool],[]⟩,[]⟩)),(74,(.j ⟨[2,7],[3,61],⟨hY,pZ⟩,[]⟩)),(92,(.j ⟨[2,7],[3,71],⟨hY,pZ⟩,[]⟩)),(102,(.j ⟨[2],[3,79],⟨hY,pZ⟩,[]⟩))]⟩
def Vz:cg:=cn JZ um
def DH:FT:=⟨⟨[.d md,.d HI,.d aM,.d aM,.d aM],[]⟩,⟨[.d .bool],[]⟩,dG [(3,(.j ⟨[2,3,4],[5,6,30],⟨qS,WA⟩,[]⟩)),(25,(.j ⟨[],[10],⟨[.d .bool],[]⟩,[]⟩)),(50,(.j ⟨[],[10],⟨[.d .bool],[]⟩,[]⟩)),(56,(.j ⟨[],[10],⟨[.d .bool],[]⟩,[]⟩)),(59,(.j ⟨[2,4,70],[5,6,11,119],⟨Ee,[.cells 31 [.d md],.cells 84 [.d HI],.cells 155 [.d ie]]⟩,[]⟩)),(99,(.j ⟨[2,4,70],[5,6,160],⟨qS,WA⟩,[]⟩)),(116,(.j ⟨[],[10],⟨[.d .bool],[]⟩,[]⟩)),(122,(.j ⟨[],[10],⟨[.d .bool],[]⟩,[]⟩))]⟩
def Po:cg:=cn DH kc
def DG:FT:=⟨⟨[.d HI,.d aM],[]⟩,⟨nB,[]⟩,dG [(8,(.j ⟨[1],[2,5,6],⟨FF,adt⟩,[.nil 5 3 aM]⟩)),(16,(.j ⟨[1,6],[2,5],⟨[.ptr 0 0,.row 1],adt⟩,[]⟩)),(17,(.j ⟨[1,6],[2,5,30],⟨[.ptr 0 0,.row 1,.d .bool],adt⟩,[]⟩))]⟩
def Pn:cg:=cn DG nL
def DF:FT:=⟨⟨HG,[]⟩,⟨nB,[]⟩,dG [(8,(.j ⟨[0,1],[5,6],⟨[.row 0,.d aM],[.rows 3 ai aM]⟩,[.nil 5 3 aM]⟩)),(16,(.j ⟨[0,1,6],[5],⟨[.row 0],[.rows 3 ai aM]⟩,[]⟩))]⟩
def Pm:cg:=cn DF qp
def Nr:FT:=⟨⟨[.d HI],[]⟩,⟨[.agg HH],akq⟩,dG [(8,(.j ⟨[],[1,2,3,4],⟨FG,[.cells 84 [.d HI],.cells 84 Cr,.cells 84 ads,.rows 153 ai d_,.rows 4 ai .bool,.rows 155 ai ie]⟩,[.cel 3 0 153 d_]⟩))]⟩
def Y_:cg:=cn Nr io
def mr:FT:=⟨⟨[.agg HH,.d aM],akq⟩,⟨nB,akq⟩,dG [(8,(.j ⟨[1],[2,5,6],⟨[.ptr 3 0,.row 4,.d aM],akw⟩,[.nil 5 3 aM]⟩)),(16,(.j ⟨[1,6],[2,5],⟨[.ptr 3 0,.row 4],akw⟩,[]⟩)),(17,(.j ⟨[1,6],[2,5,30],⟨[.ptr 3 0,.row 4,.d .bool],akw⟩,[]⟩))]⟩
def Md:cg:=cn mr mh
def Kv:cg:=⟨mr.pre,⟨mr.post.vs,[]⟩,jC⟩
def J1:FT:=⟨⟨[.d md,.d HI,.d aM,.d aM,.d aM,.d aM],[]⟩,⟨[.d HI,.d aM,.d .bool],[]⟩,dG [(17,(.j ⟨[],[7,12,15],⟨vX,aky⟩,[]⟩)),(26,(.j ⟨[2,4,5,15,30],[6,7,12,45],⟨Ee,aoc⟩,[]⟩)),(34,(.j ⟨[2,4,5,15,30],[6,7,12,54],⟨Ee,aoc⟩,[]⟩)),(90,(.j ⟨[],[7,12,17],⟨vX,aky⟩,[]⟩)),(109,(.j ⟨[18],[7,12,19],⟨vX,aky⟩,[]⟩))]⟩
def VD:cg:=cn J1 pl
def JY:FT:=⟨⟨[.d uN],[]⟩,⟨[.d vZ],[]⟩,dG [(16,(.j ⟨[],[1,2,3,4],⟨FG,[.cells 102 [.d uN],.cells 97 vY,.cells 97 [.d (.sl d_),.d aM,.d p_,.d (.sl ie),.row 3,.nil,.nil],.rows 2 ai aM]⟩,[.cel 3 4 2 aM]⟩)),(31,(.j ⟨[],[1,2,3,5],⟨FG,[.cells 102 [.d uN],.cells 97 vY,.cells 97 [.d (.sl d_),.d aM,.d p_,.d (.sl ie),.row 3,.row 4,.nil],.rows 2 ai aM,.rows 2 ai aM]⟩,[.cel 3 5 2 aM]⟩)),(46,(.j ⟨[],[1,2,3,6],⟨FG,[.cells 102 [.d uN],.cells 97 vY,.cells 97 akx,.rows 2 ai aM,.rows 2 ai aM,.rows 175 ai eU]⟩,[.cel 3 6 175 eU]⟩))]⟩
def Vy:cg:=cn JY ul
def Np:FT:=⟨⟨[.d uN,.d vZ],[]⟩,⟨[.d .bool],[]⟩,dG [(3,(.j ⟨[],[2,3,46],⟨qS,adv⟩,[]⟩)),(14,(.j ⟨[],[2,3,5],⟨vX,adv⟩,[]⟩)),(25,(.j ⟨[5],[2,3,97],⟨qS,adv⟩,[]⟩))]⟩
def Y7:cg:=cn Np wB
def Nn:FT:=⟨⟨[.d aM],[]⟩,⟨[.d aM],[]⟩,dG [(5,(.j ⟨[0],[3,10],⟨[.row 0,.d .bool],[.rows 3 aj aM]⟩,[]⟩))]⟩
def Y5:cg:=cn Nn wz
def Gh:FT:=⟨⟨[.d qY,.d eU],[]⟩,⟨[.d aM],[]⟩,dG [(6,(.j ⟨[6],[2,3,7],⟨qS,[.cells 188 [.d qY],.cells 175 [.d eU]]⟩,[]⟩)),(28,(.j ⟨[],[2,40],⟨hY,[.cells 188 [.d qY]]⟩,[]⟩))]⟩
def Sh:cg:=cn Gh sA
def DE:FT:=⟨⟨[.d uN,.d vZ,.d aM],[]⟩,⟨[.d fH,.d .bool],[]⟩,dG [(3,(.j ⟨[2],[3,4,6,25],⟨Ee,[.cells 102 [.d uN],.cells 97 [.d vZ],.cells 59 vb]⟩,[]⟩)),(54,(.j ⟨[],[6,8,9,10],⟨adu,ao9⟩,[.cel 10 5 3 aM]⟩)),(59,(.j ⟨[],[6,8,9,10,98],⟨Ac,[.cells 59 vb,.cells 175 [.d eU],.cells 188 [.d qY],.cells 59 vb]⟩,[]⟩)),(68,(.j ⟨[],[6,10],⟨[.ptr 0 0,.ptr 1 0],[.cells 59 vb,.cells 59 [.d aM,.d aM,.d aM,.d aM,.d aM,.row 2,.row 3],.rows 3 ai aM,.rows 3 ai aM]⟩,[.cel 10 6 3 aM]⟩)),(69,(.j ⟨[],[6,8,9,10,123],⟨Ac,ao9⟩,[]⟩))]⟩
def Pk:cg:=cn DE nK
def JW:FT:=⟨⟨[.d md],[]⟩,⟨[.d iQ],[]⟩,dG [(8,(.j ⟨[],[1,2,3,4],⟨FG,[.cells 31 [.d md],.cells 87 vY,.cells 87 akx,.rows 2 ai aM,.rows 2 aj aM,.rows 3 aj aM]⟩,[.cel 3 4 2 aM]⟩))]⟩
def Vw:cg:=cn JW mP
def Nm:FT:=⟨⟨[.d md,.d iQ],[]⟩,⟨[.d .bool],[]⟩,dG [(2,(.j ⟨[],[4],⟨[.d .bool],[]⟩,[]⟩))]⟩
def Y4:cg:=cn Nm wy
def XI:FT:=⟨⟨u_,[]⟩,⟨[.d .bool],[]⟩,dG [(2,(.j ⟨[],[4],⟨[.d .bool],[]⟩,[]⟩))]⟩
def ag2:cg:=cn XI C4
def DC:FT:=⟨⟨HG,[]⟩,⟨[.d .bool],[]⟩,dG [(6,(.j ⟨[0,1],[5],⟨[.d aM],[]⟩,[]⟩)),(15,(.j ⟨[0,1,5],[40],⟨[.d .bool],[]⟩,[]⟩))]⟩
def Pj:cg:=cn DC nJ
def JU:FT:=⟨⟨[.d iQ,.d fH],[]⟩,⟨[.d .bool],[]⟩,dG [(21,(.j ⟨[],[4],⟨[.d .bool],[]⟩,[]⟩)),(24,(.j ⟨[7],[2,3,40],⟨qS,[.cells 87 [.d iQ],.cells 59 [.d fH]]⟩,[]⟩)),(47,(.j ⟨[],[4],⟨[.d .bool],[]⟩,[]⟩))]⟩
def Vu:cg:=cn JU uj
def Nl:FT:=⟨⟨[.d md,.d iQ,.d fH],[]⟩,⟨[.d iQ,.d .bool],[]⟩,dG [(3,(.j ⟨[],[3,4,5,6,46],⟨Ac,Ld⟩,[]⟩)),(10,(.j ⟨[],[3,4,5,6],⟨adu,Ld⟩,[]⟩)),(11,(.j ⟨[],[3,4,5,6,55],⟨Ac,Ld⟩,[]⟩)),(21,(.j ⟨[],[3,4,5,6,78],⟨Ac,Ld⟩,[]⟩)),(28,(.j ⟨[],[3,4,5,6,8],⟨Ac,Ld⟩,[]⟩)),(31,(.j ⟨[],[3,4,5,6,110],⟨Ac,Ld⟩,[]⟩)),(39,(.j ⟨[],[3,4,5,6,125],⟨Ac,Ld⟩,[]⟩)),(47,(.j ⟨[],[3,4,5,6,154],⟨Ac,Ld⟩,[]⟩)),(58,(.j ⟨[],[3,4,5,6,9,10],⟨akp,[.cells 31 [.d md],.cells 87 [.d iQ],.cells 59 [.d fH],.cells 87 vY,.cells 87 [.nil,.d aM,.nil,.nil,.row 5,.row 6,.row 7],.rows 2 ai aM,.rows 2 ai aM,.rows 3 ai aM]⟩,[]⟩)),(66,(.j ⟨[],[5,6,9],⟨[.ptr 0 0,.ptr 1 0,.ptr 2 0],akn⟩,[]⟩)),(72,(.j ⟨[],[5,6,9],⟨[.ptr 0 0,.ptr 1 0,.ptr 2 0],akn⟩,[]⟩))]⟩
def Y3:cg:=cn Nl ry
def JV:FT:=⟨⟨[.d (.sl fH),.d aM,.d aM,.d (.sl aM)],[]⟩,⟨[.d .bool],[]⟩,dG [(6,(.j ⟨[0,1,2,3],[9],⟨[.d aM],[]⟩,[]⟩)),(23,(.j ⟨[0,1,2,3,9],[10,11,12],⟨[.d aM,.d .bool,.d aM],[]⟩,[]⟩)),(31,(.j ⟨[0,1,2,3,9,12],[10,11],⟨[.d aM,.d .bool],[]⟩,[]⟩)),(38,(.j ⟨[0,1,2,3,9,10,12],[11],⟨[.d .bool],[]⟩,[]⟩))]⟩
def Vv:cg:=cn JV rx
def JX:FT:=⟨⟨[.d oA],[]⟩,⟨u_,[]⟩,dG [(24,(.j ⟨[],[1,4,5],⟨vX,[.cells 34 [.d oA],.cells 87 [.d iQ]]⟩,[]⟩)),(38,(.j ⟨[5],[1,4,7,63],⟨Ee,[.cells 34 [.d oA],.cells 87 [.d iQ],.cells 87 [.d iQ]]⟩,[]⟩))]⟩
def Vx:cg:=cn JX uk
def GD:FT:=⟨⟨[.d vZ],[]⟩,⟨[.agg [.agg HH,.row 3,.row 4,.csl 5 4 1]],[.rows 153 ai d_,.rows 4 ai .bool,.rows 155 ai ie,.rows 2 ai aM,.rows 2 ai aM,.cells 175 [.d aM,.row 6,.row 7,.d aM],.rows 2 ai aM,.rows 53 ai (.sl aM)]⟩,dG [(8,(.u 2))]⟩
def SE:cg:=cn GD m7
def Gr:FT:=⟨⟨Mx,[]⟩,⟨My,[]⟩,dG [(27,(.s 5 0 0 1)),(37,(.j ⟨[],[3,4,5,6,7,9,14,15,16],⟨MC,al9⟩,[]⟩)),(38,(.j ⟨[16,77],[3,4,5,6,7,9,14,15,78],⟨NS,al9⟩,[]⟩)),(83,(.j ⟨[16],[3,4,5,6,7,9,14],⟨MA,[.cells 102 [.d uN],.cells 97 aip,.cells 144 [.d gR],.cells 97 vY,.cells 59 vb,.cells 59 [.d fH],.cells 175 Lb,.rows 2 ai aM,.rows 2 ai aM,.cells 175 Lb,.rows 2 ai aM,.rows 53 ai (.sl aM)]⟩,[]⟩)),(84,(.j ⟨[16],[3,4,5,6,7,9,14,15,154],⟨NS,al9⟩,[]⟩)),(95,(.j ⟨[],[4,5,6,7,9,14],⟨Mz,[.cells 97 [.d (.sl d_),.d aM,.d p_,.d (.sl ie),.row 6,.row 7,.csl 8 4 1],.cells 144 [.d gR],.cells 97 vY,.cells 59 vb,.cells 59 [.d fH],.cells 175 [.d eU],.rows 2 ai aM,.rows 2 ai aM,.cells 175 [.d eU]]⟩,[]⟩)),(96,(.j ⟨[],[3,4,5,6,7,9,14,183],⟨MB,[.cells 102 [.d uN],.cells 97 aip,.cells 144 [.d gR],.cells 97 vY,.cells 59 vb,.cells 59 [.d fH],.cells 175 Lc,.rows 2 ai aM,.rows 2 ai aM,.cells 175 Lc]⟩,[]⟩)),(102,(.s 5 0 0 1)),(104,(.a [.pk 4 6 eU]))]⟩
def Sr:cg:=cn Gr gf
def GA:FT:=⟨⟨[.d vZ],[]⟩,⟨[.agg [.agg HH,.row 3,.row 4,.csl 5 4 2]],[.rows 153 ai d_,.rows 4 ai .bool,.rows 155 ai ie,.rows 2 ai aM,.rows 2 ai aM,.cells 175 [.d aM,.row 6,.row 7,.d aM,.d eU],.rows 2 ai aM,.rows 53 ai (.sl aM)]⟩,dG [(8,(.u 3))]⟩
def SD:cg:=cn GA m6
def Gq:FT:=⟨⟨Mx,[]⟩,⟨My,[]⟩,dG [(27,(.s 5 0 0 1)),(37,(.j ⟨[],[3,4,5,6,7,9,14,15,16],⟨MC,alb⟩,[]⟩)),(38,(.j ⟨[16,77],[3,4,5,6,7,9,14,15,78],⟨NS,alb⟩,[]⟩)),(83,(.j ⟨[16],[3,4,5,6,7,9,14],⟨MA,[.cells 102 [.d uN],.cells 97 ah5,.cells 144 [.d gR],.cells 97 vY,.cells 59 vb,.cells 59 [.d fH],.cells 175 Lb,.rows 2 ai aM,.rows 2 ai aM,.cells 175 [.d aM,.row 10,.row 11,.d aM,.d eU],.rows 2 ai aM,.rows 53 ai (.sl aM)]⟩,[]⟩)),(84,(.j ⟨[16],[3,4,5,6,7,9,14,15,154],⟨NS,alb⟩,[]⟩)),(95,(.j ⟨[],[4,5,6,7,9,14],⟨Mz,aoh⟩,[]⟩)),(96,(.j ⟨[],[3,4,5,6,7,9,14,183],⟨MB,[.cells 102 [.d uN],.cells 97 ah5,.cells 144 [.d gR],.cells 97 vY,.cells 59 vb,.cells 59 [.d fH],.cells 175 Lc,.rows 2 ai aM,.rows 2 ai aM,.cells 175 [.d aM,.d (.sl aM),.d uO,.d aM,.d eU]]⟩,[]⟩)),(102,(.s 5 0 0 1)),(104,(.a [.pk 4 6 eU]))]⟩
def Sq:cg:=cn Gq gF
def Gz:FT:=⟨⟨[.d vZ],[]⟩,⟨[.agg [.agg HH,.row 3,.row 4,.csl 5 4 2]],[.rows 153 ai d_,.rows 4 ai .bool,.rows 155 ai ie,.rows 2 ai aM,.rows 2 ai aM,.cells 175 [.d eU,.d aM,.row 6,.row 7,.d aM],.rows 2 ai aM,.rows 53 ai (.sl aM)]⟩,dG [(8,(.u 3))]⟩
def SA:cg:=cn Gz mZ
def Gp:FT:=⟨⟨Mx,[]⟩,⟨My,[]⟩,dG [(27,(.s 5 0 1 1)),(37,(.j ⟨[],[3,4,5,6,7,9,14,15,16],⟨MC,ala⟩,[]⟩)),(38,(.j ⟨[16,77],[3,4,5,6,7,9,14,15,78],⟨NS,ala⟩,[]⟩)),(83,(.j ⟨[16],[3,4,5,6,7,9,14],⟨MA,[.cells 102 [.d uN],.cells 97 ah5,.cells 144 [.d gR],.cells 97 vY,.cells 59 vb,.cells 59 [.d fH],.cells 175 Lb,.rows 2 ai aM,.rows 2 ai aM,.cells 175 [.d eU,.d aM,.row 10,.row 11,.d aM],.rows 2 ai aM,.rows 53 ai (.sl aM)]⟩,[]⟩)),(84,(.j ⟨[16],[3,4,5,6,7,9,14,15,154],⟨NS,ala⟩,[]⟩)),(95,(.j ⟨[],[4,5,6,7,9,14],⟨Mz,aoh⟩,[]⟩)),(96,(.j ⟨[],[3,4,5,6,7,9,14,183],⟨MB,[.cells 102 [.d uN],.cells 97 ah5,.cells 144 [.d gR],.cells 97 vY,.cells 59 vb,.cells 59 [.d fH],.cells 175 Lc,.rows 2 ai aM,.rows 2 ai aM,.cells 175 [.d eU,.d aM,.d (.sl aM),.d uO,.d aM]]⟩,[]⟩)),(102,(.s 5 0 1 1)),(104,(.a [.pk 4 6 eU]))]⟩
def Sp:cg:=cn Gp gd
def Gy:FT:=⟨⟨[.d vZ],[]⟩,⟨akm,[.rows 153 ai d_,.rows 4 ai .bool,.rows 155 ai ie,.rows 2 ai aM,.rows 2 ai aM,.cells 175 [.d aM,.row 6,.row 7,.d aM,.d eU,.d eU],.rows 2 ai aM,.rows 53 ai (.sl aM)]⟩,dG [(8,(.u 4))]⟩
def Sz:cg:=cn Gy mY
def Gn:FT:=⟨⟨Mx,[]⟩,⟨My,[]⟩,dG [(27,(.s 5 0 0 1)),(37,(.j ⟨[],[3,4,5,6,7,9,14,15,16],⟨MC,ale⟩,[]⟩)),(38,(.j ⟨[16,77],[3,4,5,6,7,9,14,15,78],⟨NS,ale⟩,[]⟩)),(83,(.j ⟨[16],[3,4,5,6,7,9,14],⟨MA,[.cells 102 [.d uN],.cells 97 ZR,.cells 144 [.d gR],.cells 97 vY,.cells 59 vb,.cells 59 [.d fH],.cells 175 Lb,.rows 2 ai aM,.rows 2 ai aM,.cells 175 [.d aM,.row 10,.row 11,.d aM,.d eU,.d eU],.rows 2 ai aM,.rows 53 ai (.sl aM)]⟩,[]⟩)),(84,(.j ⟨[16],[3,4,5,6,7,9,14,15,154],⟨NS,ale⟩,[]⟩)),(95,(.j ⟨[],[4,5,6,7,9,14],⟨Mz,al4⟩,[]⟩)),(96,(.j ⟨[],[3,4,5,6,7,9,14,183],⟨MB,[.cells 102 [.d uN],.cells 97 ZR,.cells 144 [.d gR],.cells 97 vY,.cells 59 vb,.cells 59 [.d fH],.cells 175 Lc,.rows 2 ai aM,.rows 2 ai aM,.cells 175 [.d aM,.d (.sl aM),.d uO,.d aM,.d eU,.d eU]]⟩,[]⟩)),(102,(.s 5 0 0 1)),(104,(.a [.pk 4 6 eU]))]⟩
def So:cg:=cn Gn js
def Gx:FT:=⟨⟨[.d vZ],[]⟩,⟨akm,[.rows 153 ai d_,.rows 4 ai .bool,.rows 155 ai ie,.rows 2 ai aM,.rows 2 ai aM,.cells 175 [.d eU,.d aM,.row 6,.row 7,.d aM,.d eU],.rows 2 ai aM,.rows 53 ai (.sl aM)]⟩,dG [(8,(.u 4))]⟩
def Sy:cg:=cn Gx mX
def Gm:FT:=⟨⟨Mx,[]⟩,⟨My,[]⟩,dG [(27,(.s 5 0 1 1)),(37,(.j ⟨[],[3,4,5,6,7,9,14,15,16],⟨MC,ald⟩,[]⟩)),(38,(.j ⟨[16,77],[3,4,5,6,7,9,14,15,78],⟨NS,ald⟩,[]⟩)),(83,(.j ⟨[16],[3,4,5,6,7,9,14],⟨MA,[.cells 102 [.d uN],.cells 97 ZR,.cells 144 [.d gR],.cells 97 vY,.cells 59 vb,.cells 59 [.d fH],.cells 175 Lb,.rows 2 ai aM,.rows 2 ai aM,.cells 175 [.d eU,.d aM,.row 10,.row 11,.d aM,.d eU],.rows 2 ai aM,.rows 53 ai (.sl aM)]⟩,[]⟩)),(84,(.j ⟨[16],[3,4,5,6,7,9,14,15,154],⟨NS,ald⟩,[]⟩)),(95,(.j ⟨[],[4,5,6,7,9,14],⟨Mz,al4⟩,[]⟩)),(96,(.j ⟨[],[3,4,5,6,7,9,14,183],⟨MB,[.cells 102 [.d uN],.cells 97 ZR,.cells 144 [.d gR],.cells 97 vY,.cells 59 vb,.cells 59 [.d fH],.cells 175 Lc,.rows 2 ai aM,.rows 2 ai aM,.cells 175 [.d eU,.d aM,.d (.sl aM),.d uO,.d aM,.d eU]]⟩,[]⟩)),(102,(.s 5 0 1 1)),(104,(.a [.pk 4 6 eU]))]⟩
def Sn:cg:=cn Gm iI
def Gw:FT:=⟨⟨[.d vZ],[]⟩,⟨akm,[.rows 153 ai d_,.rows 4 ai .bool,.rows 155 ai ie,.rows 2 ai aM,.rows 2 ai aM,.cells 175 [.d eU,.d eU,.d aM,.row 6,.row 7,.d aM],.rows 2 ai aM,.rows 53 ai (.sl aM)]⟩,dG [(8,(.u 4))]⟩
def Sw:cg:=cn Gw mW
def Gl:FT:=⟨⟨Mx,[]⟩,⟨My,[]⟩,dG [(27,(.s 5 0 2 1)),(37,(.j ⟨[],[3,4,5,6,7,9,14,15,16],⟨MC,alc⟩,[]⟩)),(38,(.j ⟨[16,77],[3,4,5,6,7,9,14,15,78],⟨NS,alc⟩,[]⟩)),(83,(.j ⟨[16],[3,4,5,6,7,9,14],⟨MA,[.cells 102 [.d uN],.cells 97 ZR,.cells 144 [.d gR],.cells 97 vY,.cells 59 vb,.cells 59 [.d fH],.cells 175 Lb,.rows 2 ai aM,.rows 2 ai aM,.cells 175 [.d eU,.d eU,.d aM,.row 10,.row 11,.d aM],.rows 2 ai aM,.rows 53 ai (.sl aM)]⟩,[]⟩)),(84,(.j ⟨[16],[3,4,5,6,7,9,14,15,154],⟨NS,alc⟩,[]⟩)),(95,(.j ⟨[],[4,5,6,7,9,14],⟨Mz,al4⟩,[]⟩)),(96,(.j ⟨[],[3,4,5,6,7,9,14,183],⟨MB,[.cells 102 [.d uN],.cells 97 ZR,.cells 144 [.d gR],.cells 97 vY,.cells 59 vb,.cells 59 [.d fH],.cells 175 Lc,.rows 2 ai aM,.rows 2 ai aM,.cells 175 [.d eU,.d eU,.d aM,.d (.sl aM),.d uO,.d aM]]⟩,[]⟩)),(102,(.s 5 0 2 1)),(104,(.a [.pk 4 6 eU]))]⟩
def Sm:cg:=cn Gl hZ
def Gv:FT:=⟨⟨[.d vZ],[]⟩,⟨ah4,[.rows 153 ai d_,.rows 4 ai .bool,.rows 155 ai ie,.rows 2 ai aM,.rows 2 ai aM,.cells 175 [.d aM,.row 6,.row 7,.d aM,.d eU,.d eU,.d eU],.rows 2 ai aM,.rows 53 ai (.sl aM)]⟩,dG [(8,(.u 5))]⟩
def Sv:cg:=cn Gv mV
def dF:FT:=⟨⟨Mx,[]⟩,⟨My,[]⟩,dG [(27,(.s 5 0 0 1)),(37,(.j ⟨[],[3,4,5,6,7,9,14,15,16],⟨MC,al8⟩,[]⟩)),(38,(.j ⟨[16,77],[3,4,5,6,7,9,14,15,78],⟨NS,al8⟩,[]⟩)),(83,(.j ⟨[16],[3,4,5,6,7,9,14],⟨MA,[.cells 102 [.d uN],.cells 97 Tz,.cells 144 [.d gR],.cells 97 vY,.cells 59 vb,.cells 59 [.d fH],.cells 175 Lb,.rows 2 ai aM,.rows 2 ai aM,.cells 175 [.d aM,.row 10,.row 11,.d aM,.d eU,.d eU,.d eU],.rows 2 ai aM,.rows 53 ai (.sl aM)]⟩,[]⟩)),(84,(.j ⟨[16],[3,4,5,6,7,9,14,15,154],⟨NS,al8⟩,[]⟩)),(95,(.j ⟨[],[4,5,6,7,9,14],⟨Mz,ah7⟩,[]⟩)),(96,(.j ⟨[],[3,4,5,6,7,9,14,183],⟨MB,[.cells 102 [.d uN],.cells 97 Tz,.cells 144 [.d gR],.cells 97 vY,.cells 59 vb,.cells 59 [.d fH],.cells 175 Lc,.rows 2 ai aM,.rows 2 ai aM,.cells 175 [.d aM,.d (.sl aM),.d uO,.d aM,.d eU,.d eU,.d eU]]⟩,[]⟩)),(102,(.s 5 0 0 1)),(104,(.a [.pk 4 6 eU]))]⟩
def Sl:cg:=cn dF mR
def Gu:FT:=⟨⟨[.d vZ],[]⟩,⟨ah4,[.rows 153 ai d_,.rows 4 ai .bool,.rows 155 ai ie,.rows 2 ai aM,.rows 2 ai aM,.cells 175 [.d eU,.d aM,.row 6,.row 7,.d aM,.d eU,.d eU],.rows 2 ai aM,.rows 53 ai (.sl aM)]⟩,dG [(8,(.u 5))]⟩
def Su:cg:=cn Gu mU
def Gk:FT:=⟨⟨Mx,[]⟩,⟨My,[]⟩,dG [(27,(.s 5 0 1 1)),(37,(.j ⟨[],[3,4,5,6,7,9,14,15,16],⟨MC,al7⟩,[]⟩)),(38,(.j ⟨[16,77],[3,4,5,6,7,9,14,15,78],⟨NS,al7⟩,[]⟩)),(83,(.j ⟨[16],[3,4,5,6,7,9,14],⟨MA,[.cells 102 [.d uN],.cells 97 Tz,.cells 144 [.d gR],.cells 97 vY,.cells 59 vb,.cells 59 [.d fH],.cells 175 Lb,.rows 2 ai aM,.rows 2 ai aM,.cells 175 [.d eU,.d aM,.row 10,.row 11,.d aM,.d eU,.d eU],.rows 2 ai aM,.rows 53 ai (.sl aM)]⟩,[]⟩)),(84,(.j ⟨[16],[3,4,5,6,7,9,14,15,154],⟨NS,al7⟩,[]⟩)),(95,(.j ⟨[],[4,5,6,7,9,14],⟨Mz,ah7⟩,[]⟩)),(96,(.j ⟨[],[3,4,5,6,7,9,14,183],⟨MB,[.cells 102 [.d uN],.cells 97 Tz,.cells 144 [.d gR],.cells 97 vY,.cells 59 vb,.cells 59 [.d fH],.cells 175 Lc,.rows 2 ai aM,.rows 2 ai aM,.cells 175 [.d eU,.d aM,.d (.sl aM),.d uO,.d aM,.d eU,.d eU]]⟩,[]⟩)),(102,(.s 5 0 1 1)),(104,(.a [.pk 4 6 eU]))]⟩
def Sk:cg:=cn Gk mQ
def Gt:FT:=⟨⟨[.d vZ],[]⟩,⟨ah4,[.rows 153 ai d_,.rows 4 ai .bool,.rows 155 ai ie,.rows 2 ai aM,.rows 2 ai aM,.cells 175 [.d eU,.d eU,.d aM,.row 6,.row 7,.d aM,.d eU],.rows 2 ai aM,.rows 53 ai (.sl aM)]⟩,dG [(8,(.u 5))]⟩
def St:cg:=cn Gt mT
def Gj:FT:=⟨⟨Mx,[]⟩,⟨My,[]⟩,dG [(27,(.s 5 0 2 1)),(37,(.j ⟨[],[3,4,5,6,7,9,14,15,16],⟨MC,al6⟩,[]⟩)),(38,(.j ⟨[16,77],[3,4,5,6,7,9,14,15,78],⟨NS,al6⟩,[]⟩)),(83,(.j ⟨[16],[3,4,5,6,7,9,14],⟨MA,[.cells 102 [.d uN],.cells 97 Tz,.cells 144 [.d gR],.cells 97 vY,.cells 59 vb,.cells 59 [.d fH],.cells 175 Lb,.rows 2 ai aM,.rows 2 ai aM,.cells 175 [.d eU,.d eU,.d aM,.row 10,.row 11,.d aM,.d eU],.rows 2 ai aM,.rows 53 ai (.sl aM)]⟩,[]⟩)),(84,(.j ⟨[16],[3,4,5,6,7,9,14,15,154],⟨NS,al6⟩,[]⟩)),(95,(.j ⟨[],[4,5,6,7,9,14],⟨Mz,ah7⟩,[]⟩)),(96,(.j ⟨[],[3,4,5,6,7,9,14,183],⟨MB,[.cells 102 [.d uN],.cells 97 Tz,.cells 144 [.d gR],.cells 97 vY,.cells 59 vb,.cells 59 [.d fH],.cells 175 Lc,.rows 2 ai aM,.rows 2 ai aM,.cells 175 [.d eU,.d eU,.d aM,.d (.sl aM),.d uO,.d aM,.d eU]]⟩,[]⟩)),(102,(.s 5 0 2 1)),(104,(.a [.pk 4 6 eU]))]⟩
def Sj:cg:=cn Gj lq
def Gs:FT:=⟨⟨[.d vZ],[]⟩,⟨ah4,[.rows 153 ai d_,.rows 4 ai .bool,.rows 155 ai ie,.rows 2 ai aM,.rows 2 ai aM,.cells 175 [.d eU,.d eU,.d eU,.d aM,.row 6,.row 7,.d aM],.rows 2 ai aM,.rows 53 ai (.sl aM)]⟩,dG [(8,(.u 5))]⟩
def Ss:cg:=cn Gs mS
def Gi:FT:=⟨⟨Mx,[]⟩,⟨My,[]⟩,dG [(27,(.s 5 0 3 1)),(37,(.j ⟨[],[3,4,5,6,7,9,14,15,16],⟨MC,al5⟩,[]⟩)),(38,(.j ⟨[16,77],[3,4,5,6,7,9,14,15,78],⟨NS,al5⟩,[]⟩)),(83,(.j ⟨[16],[3,4,5,6,7,9,14],⟨MA,[.cells 102 [.d uN],.cells 97 Tz,.cells 144 [.d gR],.cells 97 vY,.cells 59 vb,.cells 59 [.d fH],.cells 175 Lb,.rows 2 ai aM,.rows 2 ai aM,.cells 175 [.d eU,.d eU,.d eU,.d aM,.row 10,.row 11,.d aM],.rows 2 ai aM,.rows 53 ai (.sl aM)]⟩,[]⟩)),(84,(.j ⟨[16],[3,4,5,6,7,9,14,15,154],⟨NS,al5⟩,[]⟩)),(95,(.j ⟨[],[4,5,6,7,9,14],⟨Mz,ah7⟩,[]⟩)),(96,(.j ⟨[],[3,4,5,6,7,9,14,183],⟨MB,[.cells 102 [.d uN],.cells 97 Tz,.cells 144 [.d gR],.cells 97 vY,.cells 59 vb,.cells 59 [.d fH],.cells 175 Lc,.rows 2 ai aM,.rows 2 ai aM,.cells 175 [.d eU,.d eU,.d eU,.d aM,.d (.sl aM),.d uO,.d aM]]⟩,[]⟩)),(102,(.s 5 0 3 1)),(104,(.a [.pk 4 6 eU]))]⟩
def Si:cg:=cn Gi j_
def Y8:cg:=cn dF Ap
def No:FT:=⟨⟨[.d uN,.d vZ,.nil,.d (.sl gR)],[]⟩,⟨[.d (.sl fH),.d vZ],[]⟩,dG [(1,(.a [.nil 2 59 fH])),(6,(.j ⟨[3],[2,4,5,9,10],⟨[.row 0,.ptr 1 0,.ptr 2 0,.ptr 3 0,.d aM],akv⟩,[]⟩)),(8,(.j ⟨[3,10],[2,4,5,9,22],⟨[.row 0,.ptr 1 0,.ptr 2 0,.ptr 3 0,.d .bool],akv⟩,[]⟩)),(14,(.j ⟨[3,10],[2,4,5,9],⟨[.row 0,.ptr 1 0,.ptr 2 0,.ptr 3 0],akv⟩,[]⟩))]⟩
def Y6:cg:=cn No wA
def RY:FT:=⟨⟨[.d uN,.d (.sl gR)],[]⟩,⟨[.d oA,.d vZ],[]⟩,.leaf⟩
def ach:cg:=cn RY ze
def yC:FT:=⟨⟨xh,Tw⟩,⟨[.d aM],Tw⟩,dG [(3,(.j ⟨[1],[0,18],⟨hY,ZN⟩,[]⟩))]⟩
def Hy:cg:=cn yC bA
def Nw:FT:=⟨⟨[.d aM],[]⟩,⟨[.d .ex],[]⟩,.leaf⟩
def Zg:cg:=cn Nw rG
def Ke:FT:=⟨⟨[.d .str],[]⟩,⟨[.d .ex],[]⟩,.leaf⟩
def V5:cg:=cn Ke pt
def DP:FT:=⟨⟨[.d aM,.d .ex,.d .ex],[]⟩,⟨[.d .ex],[]⟩,.leaf⟩
def Py:cg:=cn DP nO
def DQ:FT:=⟨⟨[.d .str,.d .ex],[]⟩,⟨[.d .sm],[]⟩,.leaf⟩
def Pz:cg:=cn DQ jq
def GZ:FT:=⟨⟨[],[]⟩,⟨[.d (.sl G_)],[]⟩,.leaf⟩
def S9:cg:=cn GZ sC
def By:FT:=⟨⟨[.d Ef],[]⟩,⟨[.d (.sl gR)],[]⟩,dG [(8,(.j ⟨[0],[3,4],⟨[.row 0,.d aM],[.rows 144 ai gR]⟩,[.nil 3 144 gR]⟩))]⟩
def Mr:cg:=cn By oP
def oa:FT:=⟨⟨xh,WC⟩,⟨[.d .ex],WC⟩,dG [(8,(.j ⟨[1,6],[0,4,5,14],⟨[.ptr 0 0,.ptr 3 0,.row 4,.d .bool],[.cells 192 aio,.cells 78 [.d yQ],.rowsP 9 .str,.cells 196 [.d aM,.d aM,.d .str,.nil],.rows 9 aj .str]⟩,[]⟩))]⟩
def Ft:cg:=cn oa fd
def ES (n:Nat):cg:=cn oa (iu n)
def vE:FT:=⟨⟨[.ptr 0 0,.d .str],WC⟩,⟨[.d .bool],WC⟩,.leaf⟩
def D7:cg:=cn vE eO
def mE:FT:=⟨⟨TA,WC⟩,⟨[.row 4],[.cells 192 akt,.cells 78 P5,.gone,.rowsP 9 .str,.rows 198 ai .sm]⟩,dG [(1,(.a [.ren 0 7])),(8,(.j ⟨[1,2],[0,7,8],⟨[.ptr 0 0,.row 3,.d aM],aoa⟩,[.nil 7 198 .sm]⟩)),(10,(.j ⟨[1,2,8],[0,7,22],⟨[.ptr 0 0,.row 3,.d .bool],aoa⟩,[]⟩)),(21,(.a [.nil 6 198 .sm]))]⟩
def D6:cg:=cn mE qx
def C_ (n:Nat):cg:=cn mE (dJ n)
def rR:FT:=⟨⟨xh,WC⟩,⟨[.d .sm],[.cells 192 akt,.cells 78 P5,.gone,.rowsP 9 .str]⟩,dG [(1,(.a [.ren 0 7])),(6,(.j ⟨[1,5],[0,4,6],⟨La,La2⟩,[]⟩)),(28,(.j ⟨[1,5,6],[0,4,74],⟨La,La2⟩,[]⟩)),(33,(.j ⟨[],[4,7],⟨[.ptr 3 0,.ptr 4 0],[.cells 192 [.ptr 1 0,.d aM,.d aM,.d .bool,.d .bool,.d .bool,.d .bool,.row 5],.cells 78 [.d yQ],.gone,.cells 198 air,.cells 198 [.d aM,.d aM,.d .str,.d .str,.nil,.d aM,.d aM,.d .str,.d (.sl .ex),.row 6,.row 7],.rowsP 9 .str,.rows 198 ai .sm,.rows 198 ai .sm]⟩,[.cel 7 10 198 .sm]⟩)),(42,(.j ⟨[1,5,6],[0,4,100],⟨La,La2⟩,[]⟩)),(56,(.j ⟨[1,5,6],[0,4,133],⟨La,La2⟩,[]⟩)),(64,(.j ⟨[1,5,6],[0,4,165],⟨La,La2⟩,[]⟩)),(70,(.j ⟨[1,5,6],[0,4,188],⟨La,La2⟩,[]⟩)),(82,(.j ⟨[1,5,6],[0,4,210],⟨La,La2⟩,[]⟩)),(94,(.j ⟨[5,6],[0,4,235],⟨La,La2⟩,[]⟩)),(100,(.j ⟨[5],[0,4,258],⟨La,La2⟩,[]⟩)),(106,(.j ⟨[5],[0,4,278],⟨La,La2⟩,[]⟩)),(114,(.j ⟨[],[0,4,308],⟨La,La2⟩,[]⟩))]⟩
def ER (n:Nat):cg:=cn rR (eE n)
def qQ:FT:=⟨⟨[.ptr 0 0,.d .str,.d aM],WC⟩,⟨[.d (.sl .sm)],[.cells 192 akt,.cells 78 P5,.gone,.rowsP 9 .str]⟩,.leaf⟩
def C' (n:Nat):cg:=cn qQ (dY n)
def Bx:FT:=⟨⟨[.d Ef],[]⟩,⟨[.d NT],[]⟩,dG [(5,(.a [.cel 3 7 9 .str])),(14,(.j ⟨[5],[2,3,4,6,7],⟨[.ptr 0 0,.ptr 1 0,.ptr 2 0,.row 3,.d aM],[.cells 141 [.nil,.nil],.cells 192 [.ptr 4 0,.d aM,.d aM,.d .bool,.d .bool,.d .bool,.d .bool,.row 5],.cells 141 [.d (.sl G_),.row 6],.rows 9 aj .str,.cells 78 [.d yQ],.rowsP 9 .str,.rows 182 ai s8]⟩,[.cel 4 1 182 s8]⟩)),(27,(.j ⟨[5,7],[2,3,4,6,8],⟨[.ptr 0 0,.ptr 1 0,.ptr 2 0,.row 3,.ptr 4 0],La7⟩,[.cel 8 3 198 .sm]⟩)),(34,(.j ⟨[5,7],[2,3,4,6,8,9],⟨[.ptr 0 0,.ptr 1 0,.ptr 2 0,.row 3,.ptr 4 0,.d aM],La7⟩,[.cel 8 3 198 .sm]⟩)),(48,(.j ⟨[5,7],[2,3,4,6,8],⟨[.ptr 0 0,.ptr 1 0,.ptr 2 0,.row 3,.ptr 4 0],La7⟩,[]⟩)),(49,(.j ⟨[5,7],[2,3,4,6,8,79],⟨[.ptr 0 0,.ptr 1 0,.ptr 2 0,.row 3,.ptr 4 0,.d .bool],La7⟩,[]⟩))]⟩
def Mq:cg:=cn Bx oO
def Kf:FT:=⟨⟨[.d Ef],[]⟩,⟨[.d uN],[]⟩,.leaf⟩
def V6:cg:=cn Kf xB
def G0:FT:=⟨⟨[.d Ef,.d Ef],[]⟩,⟨[.d oA],[]⟩,.leaf⟩
def S_:cg:=cn G0 sD
def Dz:FT:=⟨⟨[],[]⟩,⟨[.d md],[]⟩,dG [(8,(.j ⟨[21],[0,1,22],⟨vX,ah6⟩,[.cel 1 5 120 oB]⟩)),(22,(.j ⟨[2,21,22],[0,1,3],⟨vX,ah6⟩,[]⟩))]⟩
def Pe:cg:=cn Dz nI
def zG:FT:=⟨⟨[.d iQ],[]⟩,⟨nB,[]⟩,dG [(8,(.j ⟨[8,9],[3,10],⟨[.row 0,.d aM],[.rows 3 ai aM]⟩,[.nil 3 3 aM]⟩)),(16,(.j ⟨[8,9,10],[3],⟨[.row 0],[.rows 3 ai aM]⟩,[]⟩))]⟩
def Kr:cg:=cn zG kW
def Dx:FT:=⟨⟨[],[]⟩,⟨nB,[]⟩,.leaf⟩
def Pc:cg:=cn Dx tJ
def Bh:FT:=⟨⟨TA,Tw⟩,⟨[.d aM],Tw⟩,dG [(6,(.j ⟨[2,7],[0,8],⟨hY,ZN⟩,[]⟩)),(16,(.j ⟨[2,7],[0,16],⟨hY,ZN⟩,[]⟩)),(26,(.j ⟨[2,7],[0,21],⟨hY,ZN⟩,[]⟩)),(44,(.j ⟨[2,7],[0,26],⟨hY,ZN⟩,[]⟩)),(70,(.j ⟨[2],[0,33],⟨hY,ZN⟩,[]⟩))]⟩
def L8:cg:=cn Bh oI
def Dw:FT:=⟨⟨[.ptr 0 0,.d iQ,.d aM,.d aM],Tw⟩,⟨[.d aM],Tw⟩,dG [(18,(.j ⟨[10],[0,5,24],⟨qS,[.cells 78 [.d yQ],.cells 87 [.d iQ]]⟩,[]⟩))]⟩
def Pb:cg:=cn Dw qj
def F':FT:=⟨⟨[.ptr 0 0,.row 1],[.cells 78 P5,.rows 3 ai aM]⟩,⟨nB,[.cells 78 P5,.rows 3 ai aM]⟩,dG [(8,(.j ⟨[9],[0,1,5,8,10],⟨[.ptr 0 0,.row 1,.row 2,.row 1,.d aM],ako⟩,[.nil 5 3 aM]⟩)),(16,(.j ⟨[9,10],[0,1,5,8],⟨[.ptr 0 0,.row 1,.row 2,.row 1],ako⟩,[]⟩)),(19,(.j ⟨[7,9,10],[0,1,5,8,24],⟨[.ptr 0 0,.row 1,.row 2,.row 1,.d .bool],ako⟩,[]⟩))]⟩
def R_:cg:=cn F' gE
def Dy:FT:=⟨⟨[.ptr 0 0,.d iQ,.d md,.csl 1 1 4],ao8⟩,⟨[.d fH],ao8⟩,dG [(8,(.j ⟨[9],[0,3,5,6,8,11],⟨[.ptr 0 0,.csl 1 1 4,.ptr 6 0,.ptr 7 0,.ptr 8 0,.ptr 9 0],aoe⟩,[]⟩)),(9,(.j ⟨[9],[0,3,5,6,8,11,36],⟨[.ptr 0 0,.csl 1 1 4,.ptr 6 0,.ptr 7 0,.ptr 8 0,.ptr 9 0,.d .bool],aoe⟩,[]⟩)),(18,(.j ⟨[9],[0,3,8,11],⟨[.ptr 0 0,.csl 1 1 4,.ptr 6 0,.ptr 7 0],aof⟩,[]⟩)),(19,(.j ⟨[9],[0,3,8,11,74],⟨[.ptr 0 0,.csl 1 1 4,.ptr 6 0,.ptr 7 0,.d .bool],[.cells 78 [.d yQ],.cells 53 adp,.rows 3 ai aM,.rows 3 ai aM,.rows 3 ai aM,.rows 3 ai aM,.cells 59 vb,.cells 59 vb]⟩,[]⟩)),(22,(.s 9 0 0 4)),(24,(.j ⟨[],[8,11],⟨[.ptr 6 0,.ptr 7 0],[.cells 78 [.d yQ],.cells 53 adp,.rows 3 ai aM,.rows 3 ai aM,.rows 3 ai aM,.rows 3 ai aM,.cells 59 vb,.cells 59 [.d aM,.d aM,.d aM,.d aM,.d aM,.d (.sl aM),.d (.sl aM)]]⟩,[]⟩)),(25,(.j ⟨[9],[0,3,8,11,89],⟨[.ptr 0 0,.csl 1 1 4,.ptr 6 0,.ptr 7 0,.d .bool],aof⟩,[]⟩)),(28,(.s 9 0 0 4))]⟩
def Pd:cg:=cn Dy ql
def Ga:FT:=⟨⟨[.ptr 0 0,.d iQ,.d md,.d aM,.d .bool],Tw⟩,⟨[.d (.sl fH)],Tw⟩,dG [(8,(.a [.cel 12 0 3 aM,.cel 12 1 3 aM,.cel 12 2 3 aM,.cel 12 3 3 aM])),(9,(.j ⟨[3,11],[0,6,7,12],⟨[.ptr 0 0,.ptr 1 0,.ptr 2 0,.csl 3 1 4],al1⟩,[]⟩)),(10,(.u 5)),(18,(.j ⟨[3,4,11,22,23],[0,6,7,12],⟨[.ptr 0 0,.ptr 1 0,.ptr 2 0,.csl 3 1 4],al1⟩,[]⟩)),(21,(.j ⟨[3,4,11,13,22,23],[0,6,7,12,39],⟨[.ptr 0 0,.ptr 1 0,.ptr 2 0,.csl 3 1 4,.d .bool],al1⟩,[]⟩)),(29,(.j ⟨[3],[0,6,7,11,12],⟨[.ptr 0 0,.ptr 1 0,.ptr 2 0,.row 3,.csl 4 1 4],al2⟩,[.nil 11 59 fH]⟩)),(31,(.j ⟨[3],[0,6,7,11,12,65],⟨[.ptr 0 0,.ptr 1 0,.ptr 2 0,.row 3,.csl 4 1 4,.d .bool],al2⟩,[]⟩)),(36,(.j ⟨[3],[0,6,7,11,12],⟨[.ptr 0 0,.ptr 1 0,.ptr 2 0,.row 3,.csl 4 1 4],al2⟩,[]⟩)),(47,(.j ⟨[3],[0,6,7,11,12,14,15],⟨[.ptr 0 0,.ptr 1 0,.ptr 2 0,.row 3,.csl 4 1 4,.ptr 5 0,.ptr 6 0],aog⟩,[]⟩)),(48,(.j ⟨[3],[0,6,7,11,12,14,15,87],⟨[.ptr 0 0,.ptr 1 0,.ptr 2 0,.row 3,.csl 4 1 4,.ptr 5 0,.ptr 6 0,.d .bool],aog⟩,[]⟩)),(51,(.s 14 0 0 4))]⟩
def Sa:cg:=cn Ga su
def DA:FT:=⟨⟨P5,[]⟩,⟨[.d oA],[]⟩,dG [(2,(.j ⟨[1],[0,4],⟨[.d Ef,.ptr 0 0],[.cells 34 ZQ]⟩,[]⟩)),(22,(.j ⟨[1,9],[4,5,6,7,8,10],⟨[.ptr 0 0,.ptr 1 0,.ptr 2 0,.ptr 3 0,.row 4,.d aM],[.cells 34 ZQ,.cells 78 [.d yQ],.cells 34 [.d (.sl ky),.d (.sl q_),.d (.sl lm),.d (.sl .str),.d (.sl .str),.d (.sl oB),.nil],.cells 87 [.d iQ],.rows 59 aj fH]⟩,[]⟩)),(37,(.j ⟨[1,48],[4,5,6,7,47,49],⟨[.ptr 0 0,.ptr 1 0,.ptr 2 0,.ptr 3 0,.row 4,.d aM],aoi⟩,[.cel 6 6 59 fH]⟩)),(45,(.j ⟨[1,48,49],[4,5,6,7,47],⟨[.ptr 0 0,.ptr 1 0,.ptr 2 0,.ptr 3 0,.row 4],aoi⟩,[]⟩))]⟩
def Pf:cg:=cn DA qm
def wX:FT:=⟨⟨[.d (.st (.pr Ef (.pr Ef Ef))),.d aM],[]⟩,⟨[.d oA],[]⟩,.leaf⟩
def Fn:cg:=cn wX kX
theorem LU:aH Pg 154 Mk:=mk Bs kr an bY
theorem Jh:aH Pg 124 Kz:=mk zK jF (ac LU an) bY
theorem F3:aH Pg 123 S1:=mk GW lx an bY
theorem U':aH Pg 155 VZ:=mk Kd rE an bY
theorem U_:aH Pg 125 VY:=mk Kc pq (ac F3 (ac U' an)) bY
theorem sH:aH Pg 92 S4:=mk GY fe (ac F3 (ac Jh (ac U_ an))) bY
theorem Jg:aH Pg 209 VP:=mk J8 fY an bY
theorem U3:aH Pg 187 VQ:=mk J9 ur (ac Jg an) bY
theorem Ru:aH Pg 189 SS:=mk GP sB (ac Jg an) bY
theorem U4:aH Pg 186 VR:=mk J_ rC an bY
theorem LS:aH Pg 221 Mj:=mk Br mm an bY
theorem wP:∀ n:Nat,aH Pg 210 (Hg n)
 |0=>QY o_
 |n+1=>mk o_ (l_ (ib n)) (ac sH (ac (wP n) (ac LS an))) bY
theorem yh:aH Pg 210 Ht:=(wP fuel)
theorem U9:aH Pg 211 VX:=mk Kb po an bY
theorem rM:∀ n:Nat,aH Pg 190 (Hf n)/\aH Pg 164 (EQ n)
 |0=>⟨QY s7,QY n_⟩
 |n+1=>⟨mk s7 (j7 (eB n) (dH n)) (ac sH (ac (rM n).2 (ac yh (ac U9 an)))) bY,mk n_ (jx (eB n) (dH n)) (ac (rM n).1 an) bY⟩
theorem E5:aH Pg 164 Fq:=(rM fuel).2
theorem Hj:aH Pg 163 Hs:=mk yw jZ (ac sH an) bY
theorem Rw:aH Pg 132 S0:=mk GV pN (ac sH (ac Hj (ac E5 an))) bY
theorem vy:aH Pg 93 ag6:=mk XM iZ an bY
theorem vx:aH Pg 165 SX:=mk GU ia an bY
theorem vS:aH Pg 166 Mi:=mk Bq gU an bY
theorem Rv:aH Pg 212 SU:=mk GR pM (ac vy (ac vx (ac vS an))) bY
theorem M7:aH Pg 193 Zb:=mk Nu gG (ac Rv an) bY
theorem F6:∀ n:Nat,aH Pg 213 (UL n)
 |0=>QY xT
 |n+1=>mk xT (uC (nk n)) (ac (F6 n) an) bY
theorem U7:aH Pg 213 VV:=(F6 fuel)
theorem F5:∀ n:Nat,aH Pg 214 (UK n)
 |0=>QY xS
 |n+1=>mk xS (uB (nj n)) (ac M7 (ac (F5 n) an)) bY
theorem U5:aH Pg 214 VS:=(F5 fuel)
theorem YG:aH Pg 194 Zc:=mk Nv ml (ac yh (ac U7 (ac U5 an))) bY
theorem OV:aH Pg 195 Pt:=mk DM c9 an bY
theorem aff:aH Pg 192 ag5:=mk XL iY an bY
theorem E4:aH Pg 191 Fp:=mk wZ dV an bY
theorem LQ:aH Pg 167 Mg:=mk Bp mj (ac vy (ac vx (ac vS (ac E4 (ac aff (ac M7 (ac YG (ac OV an)))))))) bY
theorem zq:∀ n:Nat,aH Pg 136 (LH n)
 |0=>QY sd
 |n+1=>mk sd (mq (iG n)) (ac (zq n) (ac LQ an)) bY
theorem LR:aH Pg 136 Mh:=(zq fuel)
theorem F7:∀ n:Nat,aH Pg 135 (UM n)
 |0=>QY xU
 |n+1=>mk xU (uD (nl n)) (ac (F7 n) an) bY
theorem U8:aH Pg 135 VW:=(F7 fuel)
theorem U6:aH Pg 133 VU:=mk Ka rD (ac vx an) bY
theorem OU:aH Pg 134 Ps:=mk DL nM (ac vy (ac vx (ac vS an))) bY
theorem xF:aH Pg 96 Pu:=mk DN fk (ac Rw (ac U6 (ac OU (ac U8 (ac LR an))))) bY
theorem F4:∀ n:Nat,aH Pg 138 (UJ n)
 |0=>QY xR
 |n+1=>mk xR (xG (pA n)) (ac (F4 n) an) bY
theorem UY:aH Pg 138 VG:=(F4 fuel)
theorem FZ:aH Pg 137 SJ:=mk GG kf an bY
theorem F1:aH Pg 196 SM:=mk GM lw an bY
theorem U2:aH Pg 97 VN:=mk J6 uq (ac xF (ac FZ (ac UY an))) bY
theorem UZ:aH Pg 91 VH:=mk J3 pm an bY
theorem yg:aH Pg 61 Hr:=mk yr h_ (ac UZ (ac sH (ac vy an))) bY
theorem uz:aH Pg 100 Ky:=mk zJ jE an bY
theorem F0:aH Pg 157 SK:=mk GJ pK an bY
theorem U0:aH Pg 127 VK:=mk J4 pn (ac F0 an) bY
theorem OR:aH Pg 128 ag4:=mk XK jp an bY
theorem U1:aH Pg 156 VM:=mk J5 m_ (ac OR an) bY
theorem OQ:aH Pg 126 Pp:=mk DI lH (ac OR (ac U1 an)) bY
theorem E3:aH Pg 94 Fo:=mk wY ip (ac uz (ac OQ (ac U0 (ac OR an)))) bY
theorem Ce:aH Pg 63 VO:=mk J7 jD (ac yg (ac E3 an)) bY
theorem nV:aH Pg 99 Pq:=mk DJ cF an bY
theorem yk:∀ n:Nat,aH Pg 172 (IZ n)
 |0=>QY qN
 |n+1=>mk qN (qF (iK n)) (ac vy (ac nV (ac (yk n) (ac F1 an)))) bY
theorem uy:aH Pg 172 Kw:=(yk fuel)
theorem Hi:aH Pg 168 Hq:=mk yq lZ (ac vy (ac nV (ac uy (ac F1 an)))) bY
theorem LP:aH Pg 171 Mf:=mk Bo jt an bY
theorem j6:∀ n:Nat,aH Pg 98 (I0 n)/\aH Pg 139 (LG n)/\aH Pg 169 (C9 n)/\aH Pg 170 (He n)
 |0=>⟨QY qO,QY vV,QY qP,QY s6⟩
 |n+1=>⟨mk qO (qG (dM n) (eP n) (dg n) (dI n)) (ac (j6 n).2.1 an) bY,mk vV (r_ (dM n) (eP n) (dg n) (dI n)) (ac vy (ac nV (ac FZ (ac Hi (ac (j6 n).2.2.1 (ac (j6 n).2.2.2 (ac LP (ac uy an)))))))) bY,mk qP (mA (dM n) (eP n) (dg n) (dI n)) (ac (j6 n).1 (ac nV (ac uy an))) bY,mk s6 (o7 (dM n) (eP n) (dg n) (dI n)) (ac (j6 n).1 (ac nV an)) bY⟩
theorem Jf:aH Pg 98 Kx:=(j6 fuel).1
theorem OT:aH Pg 66 Pr:=mk DK qw (ac xF (ac U2 (ac Jf (ac nV (ac uz an))))) bY
theorem Je:aH Pg 82 acj:=mk R1 qu an bY
theorem abu:aH Pg 121 aci:=mk RZ wD an bY
theorem Jd:aH Pg 85 VF:=mk J2 rB (ac abu an) bY
theorem LO:aH Pg 188 Me:=mk Bn mi an bY
theorem k9:aH Pg 161 Za:=mk Nt co an bY
theorem YF:aH Pg 162 Y':=mk Ns wC (ac Jd (ac uz (ac U3 (ac LO (ac Ru an))))) bY
theorem ju:aH Pg 131 SH:=mk GF m8 (ac F0 (ac k9 (ac YF an))) bY
theorem Jc:aH Pg 53 VB:=mk J0 rz an bY
theorem E0:aH Pg 79 Y9:=mk Nq rA an bY
theorem Xv:aH Pg 80 ag3:=mk XJ qr an bY
theorem UX:aH Pg 81 Vz:=mk JZ um (ac Xv an) bY
theorem De:aH Pg 56 Po:=mk DH kc (ac E0 (ac Xv (ac UX (ac Je an)))) bY
theorem OP:aH Pg 83 Pn:=mk DG nL an bY
theorem OO:aH Pg 86 Pm:=mk DF qp an bY
theorem kZ:aH Pg 84 Y_:=mk Nr io an bY
theorem LN:aH Pg 83 Md:=mk mr mh an bY
theorem Jb:aH Pg 83 Kv:= @aH.ro Pg 83 mr.pre mr.post.vs mh jC (LN.holds rfl) rfl (λx _ h=>by rw[show jC x=obind (mh x) λy=>same y.2 x.2 (af y.1) from rfl] at h;exact h)
theorem jH:aH Pg 59 VD:=mk J1 pl (ac De (ac Je (ac Jb (ac kZ (ac Jd (ac OO an)))))) bY
theorem UW:aH Pg 65 Vy:=mk JY ul (ac Jc (ac Ce an)) bY
theorem YD:aH Pg 158 Y7:=mk Np wB (ac Ce (ac E0 an)) bY
theorem YB:aH Pg 159 Y5:=mk Nn wz an bY
theorem Q_:aH Pg 160 Sh:=mk Gh sA (ac U4 an) bY
theorem iF:aH Pg 129 Pk:=mk DE nK (ac YD (ac YB (ac Q_ an))) bY
theorem Ja:aH Pg 36 Vw:=mk JW mP (ac Jc an) bY
theorem YA:aH Pg 54 Y4:=mk Nm wy (ac E0 an) bY
theorem afe:aH Pg 55 ag2:=mk XI C4 an bY
theorem ON:aH Pg 57 Pj:=mk DC nJ an bY
theorem UT:aH Pg 58 Vu:=mk JU uj (ac Je (ac OP an)) bY
theorem EZ:aH Pg 38 Y3:=mk Nl ry (ac YA (ac afe (ac De (ac ON (ac UT (ac jH an)))))) bY
theorem UU:aH Pg 62 Vv:=mk JV rx an bY
theorem UV:aH Pg 40 Vx:=mk JX uk (ac Ja (ac EZ (ac yg (ac UU an)))) bY
def MI (t:TypeId):Option Ty:=if aC t 175 then af (.pr .un eU) else bY t
theorem Rt:aH Pg 130 SE:=mk GD m7 (ac kZ (ac k9 an)) MI
theorem Rj:aH Pg 95 Sr:=mk Gr gf (ac jH (ac iF (ac Rt (ac ju an)))) MI
theorem Rs:aH Pg 130 SD:=mk GA m6 (ac kZ (ac k9 an)) MI
theorem Ri:aH Pg 95 Sq:=mk Gq gF (ac jH (ac iF (ac Rs (ac ju an)))) MI
theorem Rr:aH Pg 130 SA:=mk Gz mZ (ac kZ (ac k9 an)) MI
theorem Rh:aH Pg 95 Sp:=mk Gp gd (ac jH (ac iF (ac Rr (ac ju an)))) MI
theorem Rq:aH Pg 130 Sz:=mk Gy mY (ac kZ (ac k9 an)) MI
theorem Rg:aH Pg 95 So:=mk Gn js (ac jH (ac iF (ac Rq (ac ju an)))) MI
theorem Rp:aH Pg 130 Sy:=mk Gx mX (ac kZ (ac k9 an)) MI
theorem Rf:aH Pg 95 Sn:=mk Gm iI (ac jH (ac iF (ac Rp (ac ju an)))) MI
theorem Ro:aH Pg 130 Sw:=mk Gw mW (ac kZ (ac k9 an)) MI
theorem Re:aH Pg 95 Sm:=mk Gl hZ (ac jH (ac iF (ac Ro (ac ju an)))) MI
theorem Rn:aH Pg 130 Sv:=mk Gv mV (ac kZ (ac k9 an)) MI
theorem Rd:aH Pg 95 Sl:=mk dF mR (ac jH (ac iF (ac Rn (ac ju an)))) MI
theorem Rm:aH Pg 130 Su:=mk Gu mU (ac kZ (ac k9 an)) MI
theorem Rc:aH Pg 95 Sk:=mk Gk mQ (ac jH (ac iF (ac Rm (ac ju an)))) MI
theorem Rl:aH Pg 130 St:=mk Gt mT (ac kZ (ac k9 an)) MI
theorem Rb:aH Pg 95 Sj:=mk Gj lq (ac jH (ac iF (ac Rl (ac ju an)))) MI
theorem Rk:aH Pg 130 Ss:=mk Gs mS (ac kZ (ac k9 an)) MI
theorem Ra:aH Pg 95 Si:=mk Gi j_ (ac jH (ac iF (ac Rk (ac ju an)))) MI
theorem YE:aH Pg 95 Y8:=(aH.orE (pre:=dF.pre) (post:=dF.post) (m:=mR) (m':=(λx=>orE (mQ x) ((λx=>orE (lq x) ((λx=>orE (j_ x) ((λx=>orE (js x) ((λx=>orE (iI x) ((λx=>orE (hZ x) ((λx=>orE (gF x) ((λx=>orE (gd x) (gf x)) x)) x)) x)) x)) x)) x)) x))) rfl Rd (aH.orE (pre:=dF.pre) (post:=dF.post) (m:=mQ) (m':=(λx=>orE (lq x) ((λx=>orE (j_ x) ((λx=>orE (js x) ((λx=>orE (iI x) ((λx=>orE (hZ x) ((λx=>orE (gF x) ((λx=>orE (gd x) (gf x)) x)) x)) x)) x)) x)) x))) rfl Rc (aH.orE (pre:=dF.pre) (post:=dF.post) (m:=lq) (m':=(λx=>orE (j_ x) ((λx=>orE (js x) ((λx=>orE (iI x) ((λx=>orE (hZ x) ((λx=>orE (gF x) ((λx=>orE (gd x) (gf x)) x)) x)) x)) x)) x))) rfl Rb (aH.orE (pre:=dF.pre) (post:=dF.post) (m:=j_) (m':=(λx=>orE (js x) ((λx=>orE (iI x) ((λx=>orE (hZ x) ((λx=>orE (gF x) ((λx=>orE (gd x) (gf x)) x)) x)) x)) x))) rfl Ra (aH.orE (pre:=dF.pre) (post:=dF.post) (m:=js) (m':=(λx=>orE (iI x) ((λx=>orE (hZ x) ((λx=>orE (gF x) ((λx=>orE (gd x) (gf x)) x)) x)) x))) rfl Rg (aH.orE (pre:=dF.pre) (post:=dF.post) (m:=iI) (m':=(λx=>orE (hZ x) ((λx=>orE (gF x) ((λx=>orE (gd x) (gf x)) x)) x))) rfl Rf (aH.orE (pre:=dF.pre) (post:=dF.post) (m:=hZ) (m':=(λx=>orE (gF x) ((λx=>orE (gd x) (gf x)) x))) rfl Re (aH.orE (pre:=dF.pre) (post:=dF.post) (m:=gF) (m':=(λx=>orE (gd x) (gf x))) rfl Ri (aH.orE (pre:=dF.pre) (post:=dF.post) (m:=gd) (m':=gf) rfl Rh Rj)))))))))
theorem YC:aH Pg 64 Y6:=mk No wA (ac YE an) bY
theorem abt:aH Pg 41 ach:=mk RY ze (ac Ce (ac YC (ac UW an))) bY
theorem fG:aH Pg 37 Hy:=mk yC bA an bY
theorem E7:aH Pg 104 Zg:=mk Nw rG an bY
theorem Jn:aH Pg 175 V5:=mk Ke pt an bY
theorem Dk:aH Pg 174 Py:=mk DP nO an bY
theorem Dl:aH Pg 103 Pz:=mk DQ jq an bY
theorem Ry:aH Pg 101 S9:=mk GZ sC an bY
theorem L1:aH Pg 43 Mr:=mk By oP an bY
theorem vz:∀ n:Nat,aH Pg 173 (ES n)
 |0=>QY oa
 |n+1=>mk oa (nX (iu n)) (ac fG (ac E7 (ac (vz n) (ac Dk (ac Jn an))))) bY
theorem E8:aH Pg 173 Ft:=(vz fuel)
theorem Dj:aH Pg 176 D7:=mk vE eO (ac vy an) bY
theorem jI:∀ n:Nat,aH Pg 102 (C_ n)/\aH Pg 140 (ER n)/\aH Pg 177 (C' n)
 |0=>⟨QY mE,QY rR,QY qQ⟩
 |n+1=>⟨mk mE (mC (dJ n) (eE n) (dY n)) (ac (jI n).2.1 an) bY,mk rR (nW (dJ n) (eE n) (dY n)) (ac fG (ac (jI n).1 (ac Dl (ac E7 (ac E8 (ac Dk (ac Jn (ac Dj (ac (jI n).2.2 an))))))))) bY,mk qQ (mD (dJ n) (eE n) (dY n)) (ac fG (ac (jI n).1 an)) bY⟩
theorem Di:aH Pg 102 D6:=(jI fuel).1
theorem LZ:aH Pg 67 Mq:=mk Bx oO (ac fG (ac xF (ac Ry (ac Di (ac Dl (ac E7 an)))))) bY
theorem Vb:aH Pg 42 V6:=mk Kf xB (ac OT (ac LZ an)) bY
theorem Rz:aH Pg 18 S_:=mk G0 sD (ac abt (ac Vb (ac L1 an))) bY
theorem OK:aH Pg 35 Pe:=mk Dz nI an bY
theorem I6:aH Pg 122 Kr:=mk zG kW an bY
theorem OH:aH Pg 87 Pc:=mk Dx tJ an bY
theorem LJ:aH Pg 88 L8:=mk Bh oI (ac fG an) bY
theorem OG:aH Pg 89 Pb:=mk Dw qj (ac fG (ac I6 an)) bY
theorem Q4:aH Pg 90 R_:=mk F' gE (ac fG an) bY
theorem OJ:aH Pg 60 Pd:=mk Dy ql (ac fG (ac OH (ac LJ (ac OG (ac Q4 an))))) bY
def tv1 (t:TypeId):Option Ty:=if aC t 53 then af (.pr .un (.pr .un (.pr .un (.pr .un (.pr .un (.sl aM)))))) else bY t
theorem Q5:aH Pg 39 Sa:=mk Ga su (ac fG (ac EZ (ac OJ an))) tv1
theorem OL:aH Pg 17 Pf:=mk DA qm (ac OK (ac Ja (ac fG (ac EZ (ac Q5 (ac UV an)))))) bY
theorem EY:aH Pg 7 Fn:=mk wX kX (ac OL (ac Rz an)) bY
end
end Go.Proofs.YthehadcddfilhaaGreatDoor.AI
