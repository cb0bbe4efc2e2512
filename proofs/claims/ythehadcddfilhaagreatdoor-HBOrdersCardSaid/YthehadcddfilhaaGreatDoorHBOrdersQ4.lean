/-
  Texts of the proof, part 5 of 6: what is used to prove the statement. No condition.
-/
import Derived.Test.YthehadcddfilhaaGreatDoorHBOrdersQ3
import Derived.Deep.Slices
import Derived.OpenShut
import Derived.Below
import Derived.Test.YthehadcddfilhaaGreatDoorProg
import Derived.KernelRfl
import Derived.Recover
namespace Go.Proofs.YthehadcddfilhaaGreatDoor.AI
open Go.RowKit
set_option maxRecDepth 100000
set_option maxHeartbeats 4000000
set_option linter.unusedVariables false
set_option linter.unusedSimpArgs false
open Act renaming put→NK
open _root_.Array renaming replicate→oz
open _root_.Bool renaming true→ai,false→aj
open Call renaming operands→eU
open _root_.Int renaming ofNat_eq_natCast→au,ofNat→aO,toNat_natCast→c6,tmod→me
open IntKind renaming wrap→kJ
open _root_.List renaming length→al,range→cS,length_singleton→dR,cons_append→gu,length_nil→jT,nil_append→lU,getElem?_cons_zero→qV,take_succ_cons→vW
open _root_.Nat renaming beq→aC,testBit→aN,add_zero→dv,ble→eM,blt→gp
open Oper renaming wp→HA
open _root_.Option renaming some→af,none→ah,bind_some→aH,map_some→ch,map→lQ,getD_some→uX
open Region renaming wanted→iM
open Result renaming andThen_ok→cL
open Sem renaming run_bind→eL,run_pure→oR
open _root_.Sum renaming inr→bP,inl→mr
open Value renaming okWide→Hy
open World renaming cell?→NH
noncomputable section
mutual
def CH (g:Nat->Nat):TV->TV
 |.row i=>.row (g i)
 |.rtl i j=>.rtl (g i) j
 |.agg l=>.agg (kA g l)
 |.tup l=>.tup (kA g l)
 |.clo q l=>.clo q (kA g l)
 |.f T v=>.f T v
 |.fel T xs j h off=>.fel T xs j h off
 |.pel a b c d=>.pel (g a) b c d
 |.ptr a b=>.ptr (g a) b
 |.csl a b c=>.csl (g a) b c
 |.emp=>.emp
 |.nil=>.nil
 |.mp i=>.mp (g i)
 |.undef=>.undef
 |.np=>.np
 |.anyb=>.anyb
def kA (g:Nat->Nat):List TV->List TV
 |[]=>[]
 |x::r=>CH g x::kA g r
end
theorem Ae (g:Nat->Nat):∀ l,kA g l=l.map (CH g)
 |[]=>rfl
 |x::r=>by rw[kA,Ae g r];rfl
def lV (g:Nat->Nat):iu->iu
 |.cells ty l=>.cells ty (kA g l)
 |.rows ty p T xs=>.rows ty p T xs
 |.dead p sz n=>.dead p sz n
 |.mp K V es=>.mp K V es
theorem Il (g:Nat->Nat) (b:iu):mJ (lV g b)=mJ b:=by cases b<;>rfl
def HW (g:Nat->Nat) (n:Nat):Nat:=nm (g (ow n))
theorem xJ (g:Nat->Nat) (i:Nat):HW g (nm i)=nm (g i):=by unfold HW;rw[ec]
mutual
theorem aj0 {g:Nat->Nat} {h1 h2:bi} (hrow:∀ i r,eD h1 i=af r->eD h2 (g i)=af r):∀ (v:TV) (y:AV),cq h1 v=af y->cq h2 (CH g v)=af (y.ren (HW g))
 |.f _ _,y,he=>by simp only[cq,ak] at he;subst he;rfl
 |.fel _ _ _ _ _,y,he=>by simp only[cq,ak] at he;subst he;rfl
 |.pel _ _ _ _,y,he=>by simp only[cq,ak] at he;subst he;simp only[CH,cq,AV.ren,xJ]
 |.ptr _ _,y,he=>by simp only[cq,ak] at he;subst he;simp only[CH,cq,AV.ren,xJ]
 |.csl _ _ _,y,he=>by simp only[cq,ak] at he;subst he;simp only[CH,cq,AV.ren,xJ]
 |.row id,y,he=>by
  simp only[cq] at he;split at he
  .rename_i p sz n hr;simp only[ak] at he;subst he;simp only[CH,cq,hrow id _ hr];unfold fA;split
   .rfl
   .simp only[AV.ren,xJ]
  .cases he
 |.rtl id jj,y,he=>by
  simp only[cq] at he;split at he
  .rename_i p sz n hr;simp only[ak] at he;subst he;simp only[CH,cq,hrow id _ hr,AV.ren,xJ]
  .cases he
 |.emp,y,he=>by simp only[cq,ak] at he;subst he;rfl
 |.nil,y,he=>by simp only[cq,ak] at he;subst he;rfl
 |.mp _,y,he=>by simp only[cq,ak] at he;subst he;simp only[CH,cq,AV.ren,xJ]
 |.agg l,y,he=>by
  simp only[cq] at he;split at he
  .rename_i l' hl;simp only[ak] at he;subst he;simp only[CH,cq,qI hrow l l' hl,AV.ren]
  .cases he
 |.tup l,y,he=>by
  simp only[cq] at he;split at he
  .rename_i l' hl;simp only[ak] at he;subst he;simp only[CH,cq,qI hrow l l' hl,AV.ren]
  .cases he
 |.clo q l,y,he=>by
  simp only[cq] at he;split at he
  .rename_i l' hl;simp only[ak] at he;subst he;simp only[CH,cq,qI hrow l l' hl,AV.ren]
  .cases he
 |.undef,y,he=>by simp only[cq,ak] at he;subst he;rfl
 |.np,y,he=>by simp only[cq,ak] at he;subst he;rfl
 |.anyb,y,he=>by simp only[cq,ak] at he;subst he;rfl
theorem qI {g:Nat->Nat} {h1 h2:bi} (hrow:∀ i r,eD h1 i=af r->eD h2 (g i)=af r):∀ (l:List TV) (l':List AV),cN h1 l=af l'->cN h2 (kA g l)=af (AV.renL (HW g) l')
 |[],l',he=>by simp only[cN,ak] at he;subst he;rfl
 |x::r,l',he=>by
  obtain⟨y,l2,rfl,e1,e2⟩:=c8 he;exact o6 (aj0 hrow x y e1) (qI hrow r l2 e2)
end
theorem Di {g:Nat->Nat} {h1 h2:bi} (hrow:∀ i r,eD h1 i=af r->eD h2 (g i)=af r) {b:iu} {y:xh} (he:kC h1 b=af y):kC h2 (lV g b)=af (y.ren (HW g)):=by
 cases b with
 |rows ty p T xs=>
  simp only[kC] at he;split at he
  .cases he
  .rename_i hc;simp only[ak] at he;subst he;simp only[lV,kC,ay hc];rfl
 |cells ty l=>
  simp only[kC] at he;split at he
  .rename_i I hl;simp only[ak] at he;subst he;simp only[lV,kC,qI hrow l I hl,oB];rfl
  .cases he
 |dead p sz n=>cases he
 |mp K V es=>
  simp only[kC,ak] at he;subst he;simp only[lV,kC,xh.ren,ak,xh.mk.injEq,BA];unfold mpC;split
  .rfl
  .simp only[BC.ren,Ac];rfl
theorem CG (g:Nat->Nat) (a b:List TV):kA g (a++b)=kA g a++kA g b:=by
 rw[Ae,Ae,Ae,cC]
theorem pP (g:Nat->Nat):∀ (n:Nat) (T:Ty) (v:T.den) (l:List TV),cellsOf n T v=af l->kA g l=l
 |0,_,_,_,he=>by simp[cellsOf] at he
 |n+1,.st t,v,l,he=>pP g n t v l he
 |n+1,.pr a b,v,l,he=>by
  simp only[cellsOf] at he;split at he
  .rename_i x y J I;simp only[ak] at he;subst he;rw[CG,pP g n a v.1 x J,pP g n b v.2 y I]
  .cases he
 |n+1,.un,v,l,he=>by simp only[cellsOf,ak] at he;subst he;rfl
 |n+1,.ex,v,l,he=>pP g n M2 (NQ v) l he
 |n+1,.sm,v,l,he=>pP g n MA (NP v) l he
 |n+1,.int k,v,l,he=>by simp only[cellsOf,ak] at he;subst he;rfl
 |n+1,.bool,v,l,he=>by simp only[cellsOf,ak] at he;subst he;rfl
 |n+1,.str,v,l,he=>by simp only[cellsOf,ak] at he;subst he;rfl
 |n+1,.sl t,v,l,he=>by simp only[cellsOf,ak] at he;subst he;rfl
abbrev HP:Nat->Nat:=λi=>i
mutual
theorem aad (g:Nat->Nat):∀ (p:PV) (x:p.ty.den),pV g p x=(pV HP p x).map (kA g)
 |.d T,x=>by
  simp only[pV];cases h:cellsOf 40 T x with
  |none=>rfl
  |some l=>simp only[ch,pP g 40 T x l h]
 |.ptr i o,x=>rfl
 |.csl i o z,x=>rfl
 |.clo q i o,x=>rfl
 |.row i,x=>rfl
 |.mp i,x=>rfl
 |.nil,x=>rfl
 |.emp,x=>rfl
 |.agg ps,x=>Af g ps x
theorem Af (g:Nat->Nat):∀ (ps:List PV) (x:(PV.tyL ps).den),q_ g ps x=(q_ HP ps x).map (kA g)
 |[],x=>rfl
 |p::r,x=>by
  simp only[q_];rw[aad g p,Af g r];cases pV HP p (OM p.ty (PV.tyL r) x) with
  |none=>rfl
  |some a=>
   cases q_ HP r (Ll p.ty (PV.tyL r) x) with
   |none=>rfl
   |some b=>simp only[ch,CG]
end
def ajf (o:Option (List TV)):Option TV:=match o with|some l=>af (.agg l)|none=>ah
theorem ack (g:Nat->Nat) (o:Option (List TV)):ajf (o.map (kA g))=(ajf o).map (CH g):=by cases o<;>rfl
theorem aab (g:Nat->Nat) (p:PV) (x:p.ty.den):tC g p x=(tC HP p x).map (CH g):=by
 cases p with
 |agg ps=>exact (gO ajf (Af g ps x)).trans (ack g _)
 |_=>rfl
theorem tP (g:Nat->Nat):∀ (ps:List PV) (x:(PV.tyL ps).den),qb g ps x=(qb HP ps x).map (kA g)
 |[],x=>rfl
 |p::r,x=>by
  simp only[qb];rw[aab g p,tP g r];cases tC HP p (OM p.ty (PV.tyL r) x) with
  |none=>rfl
  |some a=>
   cases qb HP r (Ll p.ty (PV.tyL r) x) with
   |none=>rfl
   |some b=>rfl
def VX (ty:TypeId) (o:Option (List TV)):Option (Option iu):=match o with|some l=>af (af (.cells ty l))|none=>ah
theorem VW (g:Nat->Nat) (ty:TypeId) (o:Option (List TV)):VX ty (o.map (kA g))=(VX ty o).map (lQ (lV g)):=by cases o<;>rfl
theorem aae (g:Nat->Nat) (b:PB) (x:b.ty.den):CL g b x=(CL HP b x).map (lQ (lV g)):=by
 cases b with
 |cells ty ps=>exact (gO (VX ty) (Af g ps x)).trans (VW g ty _)
 |_=>rfl
theorem wh (g:Nat->Nat):∀ (bs:List PB) (x:(PB.tyL bs).den),oC g bs x=(oC HP bs x).map (List.map (lQ (lV g)))
 |[],x=>rfl
 |b::r,x=>by
  simp only[oC];rw[aae g b,wh g r];cases CL HP b (OM b.ty (PB.tyL r) x) with
  |none=>rfl
  |some a=>
   cases oC HP r (Ll b.ty (PB.tyL r) x) with
   |none=>rfl
   |some l=>rfl
theorem CK (g:Nat->Nat):∀ (bs:List PB) (x:(PB.tyL bs).den) (l:List (Option iu)),oC g bs x=af l->l.length=bs.length
 |[],x,l,h=>by simp only[oC,ak] at h;subst h;rfl
 |b::r,x,l,h=>by
  simp only[oC] at h;split at h
  .split at h
   .rename_i q hq;simp only[ak] at h;subst h;simp[CK g r _ q hq]
   .cases h
  .cases h
theorem Jk (h:bi) (i j:Nat):(kill h i).get j=if j=i then (h.get i).map vm else h.get j:=by
 unfold kill;cases hb:h.get i with
 |none=>
  simp only[Option.map_none];split
  .rename_i e;rw[e,hb]
  .rfl
 |some b=>rw[PT.get_set];rfl
theorem vj (g:Nat->Nat):∀ (l:List (Option iu)) (i:Nat) (h:bi) (j:Nat),(∀ k,k<l.length->j≠g (i+k))->(AB g i l h).get j=h.get j
 |[],i,h,j,_=>rfl
 |some c::r,i,h,j,hj=>by
  rw[AB,vj g r (i+1) _ j (λk hk=>by have:=hj (k+1) (by simpa using hk);rwa [show i+1+k=i+(k+1) from by omega]),PT.get_set,ay];exact hj 0 (by simp)
 |none::r,i,h,j,hj=>by
  rw[AB,vj g r (i+1) _ j (λk hk=>by have:=hj (k+1) (by simpa using hk);rwa [show i+1+k=i+(k+1) from by omega]),Jk,ay];exact hj 0 (by simp)
theorem vk (g:Nat->Nat):∀ (l:List (Option iu)) (i:Nat) (h:bi),(∀ a b,a<l.length->b<l.length->g (i+a)=g (i+b)->a=b)->∀ (k:Nat) (c:Option iu),l[k]? =af c->(AB g i l h).get (g (i+k))=(match c with|some b=>af b|none=>(h.get (g (i+k))).map vm)
 |[],i,h,_,k,c,hk=>by simp at hk
 |o::r,i,h,hinj,k,c,hk=>by
  have hinj':∀ a b,a<r.length->b<r.length->g (i+1+a)=g (i+1+b)->a=b:=λa b J hb e=>by
   have:=hinj (a+1) (b+1) (by simpa using J) (by simpa using hb) (by rw[show i+(a+1)=i+1+a from by omega,show i+(b+1)=i+1+b from by omega];exact e);omega
  cases k with
  |zero=>
   simp at hk;subst hk;have hne:∀ k,k<r.length->g (i+0)≠g (i+1+k):=λk hk e=>by
    have:=hinj 0 (k+1) (by simp) (by simpa using hk) (by rw[show i+(k+1)=i+1+k from by omega];exact e);omega
   cases o with
   |some b=>rw[AB,vj g r (i+1) _ _ hne];simp only[dv];rw[PT.get_set,aF rfl]
   |none=>rw[AB,vj g r (i+1) _ _ hne];simp only[dv];rw[Jk,aF rfl]
  |succ k=>
   have I:r[k]? =af c:=by simpa using hk
   have hkl:k<r.length:=(bl.1 I).1;have hne:g (i+(k+1))≠g i:=λe=>by
    have:=hinj (k+1) 0 (by simpa using hkl) (by simp) (by rw[e];rfl);omega
   rw[show i+(k+1)=i+1+k from by omega] at hne ⊢;cases o with
   |some b=>
    rw[AB,vk g r (i+1) _ hinj' k c I];cases c with
    |some _=>rfl
    |none=>simp only[PT.get_set,ay hne]
   |none=>
    rw[AB,vk g r (i+1) _ hinj' k c I];cases c with
    |some _=>rfl
    |none=>simp only[Jk,ay hne]
def xX (h' h:bi):Prop:=∀ i r,eD h' i=af r->eD h i=af r
section get
variable {h h':bi} {H H':HF} {g:Nat->Nat}
theorem lP.agg {l I:List AV} (hl:ii H H' l I) (hc:∀ x∈I,x.isCell=ai):lP H H' (.agg l) (.agg I):=by
 intro φ E w v hrep hr;cases hr with
 |@agg _ vs hlen hcl hrr=>
  refine .agg (by rw[hlen,<-hl.length]) hc λj y u J hu=>?_
  obtain⟨x,M,hle⟩:=hl.get j y J;exact hle φ E w u hrep (hrr j x u M hu)
theorem Qi (hr:xX h' h) {i:Nat} {y M:AV} (J:cq h (.row i)=af y) (I:cq h' (.row i)=af M):M=y:=by
 simp only[cq] at J I;cases h1:eD h' i with
 |none=>rw[h1] at I;cases I
 |some r=>
  rw[h1] at I;rw[hr i r h1] at J;rw[J] at I;cases I;rfl
mutual
theorem af1 (d:vD H H') (hr:xX h' h):∀ (p:PV) (l:List TV) (x:p.ty.den) (m:Nat) (r:List TV) (cs:List TV) (l' cs':List AV),pt g h p l=af (x,m,r)->pV g p x=af cs->cN h l=af l'->cN h' cs=af cs'->Ed h H H' m->∃ l1 l2,l'=l1++l2/\cN h r=af l2/\ii H H' l1 cs'
 |.d T,l,x,m,r,cs,l',cs',hg,hp,hl,hc,gv=>by
  obtain⟨l1,l2,e1,e2,e3⟩:=sh d 40 T l x m r l' hg hl gv;have:=(lM h' 40 T x cs hp).1;rw[hc] at this;cases this;exact⟨l1,l2,e1,e2,e3⟩
 |.ptr i q,l,x,m,r,cs,l',cs',hg,hp,hl,hc,gv=>by
  simp only[pt] at hg;split at hg
  .rename_i i' o' r';split at hg
   .rename_i hb;simp only[av] at hb;have e1:=aw hb.1;have e2:=aw hb.2;subst e1;subst e2;simp only[ak,aD] at hg;obtain⟨_,_,rfl⟩:=hg;simp only[pV,ak] at hp;subst hp;obtain⟨y,l2,rfl,g1,g2⟩:=c8 hl;simp only[cq,ak] at g1;subst g1;simp only[cN,cq,ak] at hc;subst hc;exact⟨[_],l2,rfl,g2,lP.refl d _,trivial⟩
   .cases hg
  .cases hg
 |.csl i q z,l,x,m,r,cs,l',cs',hg,hp,hl,hc,gv=>by
  simp only[pt] at hg;split at hg
  .rename_i i' o' z' r';split at hg
   .rename_i hb;simp only[av] at hb;have e1:=aw hb.1.1;have e2:=aw hb.1.2;have e3:=aw hb.2;subst e1;subst e2;subst e3;simp only[ak,aD] at hg;obtain⟨_,_,rfl⟩:=hg;simp only[pV,ak] at hp;subst hp;obtain⟨y,l2,rfl,g1,g2⟩:=c8 hl;simp only[cq,ak] at g1;subst g1;simp only[cN,cq,ak] at hc;subst hc;exact⟨[_],l2,rfl,g2,lP.refl d _,trivial⟩
   .cases hg
  .cases hg
 |.clo q i z,l,x,m,r,cs,l',cs',hg,hp,hl,hc,gv=>by
  simp only[pt] at hg;split at hg
  .rename_i q' i' z' r';split at hg
   .rename_i hb;simp only[av] at hb;have e1:=aw hb.1.1;have e2:=aw hb.1.2;have e3:=aw hb.2;subst e1;subst e2;subst e3;simp only[ak,aD] at hg;obtain⟨_,_,rfl⟩:=hg;simp only[pV,ak] at hp;subst hp;obtain⟨y,l2,rfl,g1,g2⟩:=c8 hl;simp only[cq,cN,ak] at g1;subst g1;simp only[cN,cq,ak] at hc;subst hc;exact⟨[_],l2,rfl,g2,lP.refl d _,trivial⟩
   .cases hg
  .cases hg
 |.row i,l,x,m,r,cs,l',cs',hg,hp,hl,hc,gv=>by
  simp only[pt] at hg;split at hg
  .rename_i i' r';split at hg
   .rename_i hb;have e1:=aw hb;subst e1;simp only[ak,aD] at hg;obtain⟨_,_,rfl⟩:=hg;simp only[pV,ak] at hp;subst hp;obtain⟨y,l2,rfl,g1,g2⟩:=c8 hl;obtain⟨y',l3,rfl,g3,g4⟩:=c8 hc;simp only[cN,ak] at g4;subst g4;rw[Qi hr g1 g3];exact⟨[_],l2,rfl,g2,lP.refl d _,trivial⟩
   .cases hg
  .cases hg
 |.mp i,l,x,m,r,cs,l',cs',hg,hp,hl,hc,gv=>by
  simp only[pt] at hg;split at hg
  .rename_i i' r';split at hg
   .rename_i hb;have e1:=aw hb;subst e1;simp only[ak,aD] at hg;obtain⟨_,_,rfl⟩:=hg;simp only[pV,ak] at hp;subst hp;obtain⟨y,l2,rfl,g1,g2⟩:=c8 hl;simp only[cq,ak] at g1;subst g1;simp only[cN,cq,ak] at hc;subst hc;exact⟨[_],l2,rfl,g2,lP.refl d _,trivial⟩
   .cases hg
  .cases hg
 |.nil,l,x,m,r,cs,l',cs',hg,hp,hl,hc,gv=>by
  simp only[pt] at hg;split at hg
  .simp only[ak,aD] at hg;obtain⟨_,_,rfl⟩:=hg;simp only[pV,ak] at hp;subst hp;obtain⟨y,l2,rfl,g1,g2⟩:=c8 hl;simp only[cq,ak] at g1;subst g1;simp only[cN,cq,ak] at hc;subst hc;exact⟨[_],l2,rfl,g2,lP.refl d _,trivial⟩
  .cases hg
 |.emp,l,x,m,r,cs,l',cs',hg,hp,hl,hc,gv=>by
  simp only[pt] at hg;split at hg
  .simp only[ak,aD] at hg;obtain⟨_,_,rfl⟩:=hg;simp only[pV,ak] at hp;subst hp;obtain⟨y,l2,rfl,g1,g2⟩:=c8 hl;simp only[cq,ak] at g1;subst g1;simp only[cN,cq,ak] at hc;subst hc;exact⟨[_],l2,rfl,g2,Le.nilEmp.toH d,trivial⟩
  .simp only[ak,aD] at hg;obtain⟨_,_,rfl⟩:=hg;simp only[pV,ak] at hp;subst hp;obtain⟨y,l2,rfl,g1,g2⟩:=c8 hl;simp only[cq,ak] at g1;subst g1;simp only[cN,cq,ak] at hc;subst hc;exact⟨[_],l2,rfl,g2,lP.refl d _,trivial⟩
  .cases hg
 |.agg ps,l,x,m,r,cs,l',cs',hg,hp,hl,hc,gv=>De d hr ps l x m r cs l' cs' hg hp hl hc gv
theorem De (d:vD H H') (hr:xX h' h):∀ (ps:List PV) (l:List TV) (x:(PV.tyL ps).den) (m:Nat) (r:List TV) (cs:List TV) (l' cs':List AV),zo g h ps l=af (x,m,r)->q_ g ps x=af cs->cN h l=af l'->cN h' cs=af cs'->Ed h H H' m->∃ l1 l2,l'=l1++l2/\cN h r=af l2/\ii H H' l1 cs'
 |[],l,x,m,r,cs,l',cs',hg,hp,hl,hc,gv=>by
  simp only[zo,ak,aD] at hg;obtain⟨_,_,rfl⟩:=hg;simp only[q_,ak] at hp;subst hp;simp only[cN,ak] at hc;subst hc;exact⟨[],l',rfl,hl,trivial⟩
 |p::ps,l,x,m,r,cs,l',cs',hg,hp,hl,hc,gv=>by
  simp only[zo] at hg;split at hg
  .rename_i x1 m1 r1 h1;split at hg
   .rename_i x2 m2 r2 h2;simp only[ak,aD] at hg;obtain⟨rfl,rfl,rfl⟩:=hg;simp only[q_,tK,ve] at hp;split at hp
    .rename_i a ha;split at hp
     .rename_i b hb;simp only[ak] at hp;subst hp;obtain⟨a',b',rfl,ea,eb⟩:=B8 hc;obtain⟨ga,gb⟩:=gv.or;obtain⟨l1,l2,rfl,q1,q2⟩:=af1 d hr p l _ _ _ a l' a' h1 ha hl ea ga;obtain⟨l3,l4,rfl,q3,q4⟩:=De d hr ps _ _ _ _ b l2 b' h2 hb q1 eb gb;exact⟨l1++l3,l4,by simp,q3,q2.append q4⟩
     .cases hp
    .cases hp
   .cases hg
  .cases hg
end
mutual
theorem X2:∀ (p:PV) (x:p.ty.den) (cs:List TV),pV g p x=af cs->kx cs=ai
 |.d T,x,cs,hp=>(lM PT.leaf 40 T x cs hp).2
 |.ptr i q,x,cs,hp=>by simp only[pV,ak] at hp;subst hp;rfl
 |.csl i q z,x,cs,hp=>by simp only[pV,ak] at hp;subst hp;rfl
 |.clo q i z,x,cs,hp=>by simp only[pV,ak] at hp;subst hp;rfl
 |.row i,x,cs,hp=>by simp only[pV,ak] at hp;subst hp;rfl
 |.mp i,x,cs,hp=>by simp only[pV,ak] at hp;subst hp;rfl
 |.nil,x,cs,hp=>by simp only[pV,ak] at hp;subst hp;rfl
 |.emp,x,cs,hp=>by simp only[pV,ak] at hp;subst hp;rfl
 |.agg ps,x,cs,hp=>xp ps x cs hp
theorem xp:∀ (ps:List PV) (x:(PV.tyL ps).den) (cs:List TV),q_ g ps x=af cs->kx cs=ai
 |[],x,cs,hp=>by simp only[q_,ak] at hp;subst hp;rfl
 |p::ps,x,cs,hp=>by
  simp only[q_] at hp;split at hp
  .rename_i a ha;split at hp
   .rename_i b hb;simp only[ak] at hp;subst hp;exact S0 (X2 p _ a ha) (xp ps _ b hb)
   .cases hp
  .cases hp
end
theorem af0 (d:vD H H') (hr:xX h' h) {p:PV} {v:TV} {x:p.ty.den} {m:Nat} {u:TV} {y M:AV} (hg:xH g h p v=af (x,m)) (hp:tC g p x=af u) (J:cq h v=af y) (I:cq h' u=af M) (U:Ed h H H' m):lP H H' y M:=by
 cases p with
 |d T=>
  simp only[tC,ak] at hp;subst hp;simp only[cq,ak] at I;subst I;exact (Pt d hg J U).1
 |agg ps=>
  simp only[xH] at hg;split at hg
  .cases hg
  .rename_i hc;split at hg
   .rename_i l hl;split at hg
    .rename_i x1 m1 h1;simp only[ak,aD] at hg;obtain⟨rfl,rfl⟩:=hg;simp only[tC] at hp;split at hp
     .rename_i cs hcs;simp only[ak] at hp;subst hp;simp only[cq] at I;split at I
      .rename_i cs' hcs';simp only[ak] at I;subst I;obtain⟨e1,e2⟩:=Kk hl J;obtain⟨l1,l2,q1,q2,q3⟩:=De d hr ps l _ _ [] cs y.cs cs' h1 hcs e1 hcs' U;simp only[cN,ak] at q2;subst q2;rw[iU] at q1;subst q1;have hcell:∀ x∈cs',x.isCell=ai:=lO (sa hcs' (xp ps _ cs hcs));cases v with
       |agg q=>
        simp only[cq] at J;split at J
        .simp only[ak] at J;subst J;exact lP.agg q3 hcell
        .cases J
       |f S z=>
        simp only[cq,ak] at J;subst J;have Y:S.one=aj:=by simpa[TV.isC] using hc
        rw[Ap] at q3;rw[qJ S z Y];intro φ E w v hrep hrel;exact lP.agg q3 hcell φ E w v hrep (Le.aggF _ _ _ _ hrel)
       |tup q=>simp[TV.cs,TV.isC] at hl
       |undef=>simp[TV.cs,TV.isC] at hl
       |np=>simp[TV.isC] at hc
       |anyb=>simp[TV.cs,TV.isC] at hl
       |fel T xs j hj off=>simp[TV.isC] at hc
       |pel id sz j off=>simp[TV.isC] at hc
       |ptr id off=>simp[TV.isC] at hc
       |csl id off z=>simp[TV.isC] at hc
       |row id=>simp[TV.isC] at hc
       |emp=>simp[TV.isC] at hc
       |nil=>simp[TV.isC] at hc
       |mp id=>simp[TV.isC] at hc
       |rtl id Z=>cases hl
       |clo g l=>simp[TV.isC] at hc
      .cases I
     .cases hp
    .cases hg
   .cases hg
 |ptr i q=>
  simp only[tC,ak] at hp;subst hp;simp only[xH] at hg;split at hg
  .rename_i h1;simp only[pt] at h1;split at h1
   .rename_i e;simp only[iT] at e;obtain⟨rfl,_⟩:=e;split at h1
    .rename_i hb;simp only[av] at hb;have e1:=aw hb.1;have e2:=aw hb.2;subst e1;subst e2;simp only[cq,ak] at J I;subst J;subst I;exact lP.refl d _
    .cases h1
   .cases h1
  .cases hg
 |csl i q z=>
  simp only[tC,ak] at hp;subst hp;simp only[xH] at hg;split at hg
  .rename_i h1;simp only[pt] at h1;split at h1
   .rename_i e;simp only[iT] at e;obtain⟨rfl,_⟩:=e;split at h1
    .rename_i hb;simp only[av] at hb;have e1:=aw hb.1.1;have e2:=aw hb.1.2;have e3:=aw hb.2;subst e1;subst e2;subst e3;simp only[cq,ak] at J I;subst J;subst I;exact lP.refl d _
    .cases h1
   .cases h1
  .cases hg
 |clo q i z=>
  simp only[tC,ak] at hp;subst hp;simp only[xH] at hg;split at hg
  .rename_i h1;simp only[pt] at h1;split at h1
   .rename_i e;simp only[iT] at e;obtain⟨rfl,_⟩:=e;split at h1
    .rename_i hb;simp only[av] at hb;have e1:=aw hb.1.1;have e2:=aw hb.1.2;have e3:=aw hb.2;subst e1;subst e2;subst e3;simp only[cq,cN,ak] at J I;subst J;subst I;exact lP.refl d _
    .cases h1
   .cases h1
  .cases hg
 |row i=>
  simp only[tC,ak] at hp;subst hp;simp only[xH] at hg;split at hg
  .rename_i h1;simp only[pt] at h1;split at h1
   .rename_i e;simp only[iT] at e;obtain⟨rfl,_⟩:=e;split at h1
    .rename_i hb;have e1:=aw hb;subst e1;rw[Qi hr J I];exact lP.refl d _
    .cases h1
   .cases h1
  .cases hg
 |mp i=>
  simp only[tC,ak] at hp;subst hp;simp only[xH] at hg;split at hg
  .rename_i h1;simp only[pt] at h1;split at h1
   .rename_i e;simp only[iT] at e;obtain⟨rfl,_⟩:=e;split at h1
    .rename_i hb;have e1:=aw hb;subst e1;simp only[cq,ak] at J I;subst J;subst I;exact lP.refl d _
    .cases h1
   .cases h1
  .cases hg
 |nil=>
  simp only[tC,ak] at hp;subst hp;simp only[xH] at hg;split at hg
  .rename_i h1;simp only[pt] at h1;split at h1
   .rename_i e;simp only[iT] at e;obtain⟨rfl,_⟩:=e;simp only[cq,ak] at J I;subst J;subst I;exact lP.refl d _
   .cases h1
  .cases hg
 |emp=>
  simp only[tC,ak] at hp;subst hp;simp only[xH] at hg;split at hg
  .rename_i h1;simp only[pt] at h1;split at h1
   .rename_i e;simp only[iT] at e;obtain⟨rfl,_⟩:=e;simp only[cq,ak] at J I;subst J;subst I;exact Le.nilEmp.toH d
   .rename_i e;simp only[iT] at e;obtain⟨rfl,_⟩:=e;simp only[cq,ak] at J I;subst J;subst I;exact lP.refl d _
   .cases h1
  .cases hg
theorem Dd (d:vD H H') (hr:xX h' h):∀ (ps:List PV) (vs:List TV) (x:(PV.tyL ps).den) (m:Nat) (us:List TV) (l J:List AV),yh g h ps vs=af (x,m)->qb g ps x=af us->cN h vs=af l->cN h' us=af J->Ed h H H' m->ii H H' l J
 |[],[],x,m,us,l,J,hg,hp,hl,I,M=>by
  simp only[qb,ak] at hp;subst hp;simp only[cN,ak] at hl I;subst hl;subst I;trivial
 |[],_::_,x,m,us,l,J,hg,_,_,_,_=>by simp[yh] at hg
 |_::_,[],x,m,us,l,J,hg,_,_,_,_=>by simp[yh] at hg
 |p::ps,v::vs,x,m,us,l,J,hg,hp,hl,I,M=>by
  simp only[yh] at hg;split at hg
  .rename_i x1 m1 h1;split at hg
   .rename_i x2 m2 h2;simp only[ak,aD] at hg;obtain⟨rfl,rfl⟩:=hg;simp only[qb,tK,ve] at hp;split at hp
    .rename_i a Y;split at hp
     .rename_i b hb;simp only[ak] at hp;subst hp;obtain⟨y,l2,rfl,e1,e2⟩:=c8 hl;obtain⟨y',U,rfl,e3,e4⟩:=c8 I;obtain⟨ga,Z⟩:=M.or;exact⟨af0 d hr h1 Y e1 e3 ga,Dd d hr ps vs _ _ b l2 U h2 hb e2 e4 Z⟩
     .cases hp
    .cases hp
   .cases hg
  .cases hg
inductive BM (g:Nat->Nat) (h:bi) (m:Nat):iu->iu->Prop
 |rows (ty:TypeId) (p:Bool) (T:Ty) (xs:List T.den):BM g h m (.rows ty p T xs) (.rows ty p T xs)
 |mp (K V:Ty) (es:List (K.den×V.den)):BM g h m (.mp K V es) (.mp K V es)
 |cells (ty:TypeId) (ps:List PV) (x:(PV.tyL ps).den) (l l2:List TV) (m':Nat) (hg:zo g h ps l=af (x,m',[])) (hp:q_ g ps x=af l2) (hm:∀ i,aN m' i=ai->aN m i=ai):BM g h m (.cells ty l) (.cells ty l2)
theorem BM.mono {m m2:Nat} (hm:∀ i,aN m i=ai->aN m2 i=ai) {b c:iu} (h1:BM g h m b c):BM g h m2 b c:=by
 cases h1 with
 |rows ty p T xs=>exact .rows ty p T xs
 |mp K V es=>exact .mp K V es
 |cells ty ps x l l2 m' hg hp I=>exact .cells ty ps x l l2 m' hg hp λi hi=>hm i (I i hi)
theorem af2 {i:Nat} {b:PB} {x:b.ty.den} {m:Nat} {c:iu} (hg:E3 g h i b=af (x,m)) (hp:CL g b x=af (af c)):∃ b0,h.get (g i)=af b0/\BM g h m b0 c:=by
 cases b with
 |rows ty p T=>
  simp only[E3] at hg;split at hg
  .rename_i ty' M S xs hb;split at hg
   .rename_i hc;simp only[av,c5] at hc;obtain⟨rfl,rfl⟩:=hc;split at hg
    .rename_i z I;simp only[ak,aD] at hg;obtain⟨rfl,rfl⟩:=hg;obtain⟨e,rfl⟩:=ji I;cases e;simp only[CL,ak] at hp;subst hp;exact⟨_,hb,.rows _ _ _ _⟩
    .cases hg
   .cases hg
  .cases hg
 |rowsP ty T=>
  simp only[E3] at hg;split at hg
  .rename_i ty' M S xs hb;split at hg
   .rename_i hc;have hc:ty=ty':=by simpa using hc
    subst hc;split at hg
    .rename_i z I;simp only[ak,aD] at hg;obtain⟨rfl,rfl⟩:=hg;obtain⟨e,rfl⟩:=ji I;cases e;simp only[CL,ak] at hp;subst hp;exact⟨_,hb,.rows _ _ _ _⟩
    .cases hg
   .cases hg
  .cases hg
 |cells ty ps=>
  simp only[E3] at hg;split at hg
  .rename_i ty' l hb;split at hg
   .rename_i hc;have hc:ty=ty':=by simpa using hc
    subst hc;split at hg
    .rename_i z m1 I;simp only[ak,aD] at hg;obtain⟨rfl,rfl⟩:=hg;simp only[CL] at hp;split at hp
     .rename_i l2 J;simp only[ak] at hp;subst hp;exact⟨_,hb,.cells ty ps _ l l2 _ I J λ_ h=>h⟩
     .cases hp
    .cases hg
   .cases hg
  .cases hg
 |mp K V=>
  simp only[E3] at hg;split at hg
  .rename_i K' V' es hb;split at hg
   .rename_i z I;simp only[ak,aD] at hg;obtain⟨rfl,rfl⟩:=hg;obtain⟨e,rfl⟩:=ji I;cases e;simp only[CL,ak] at hp;subst hp;exact⟨_,hb,.mp _ _ _⟩
   .cases hg
  .cases hg
 |gone=>simp[CL] at hp
theorem Jm:∀ (bs:List PB) (i:Nat) (x:(PB.tyL bs).den) (m:Nat) (I:List (Option iu)),AW g h i bs=af (x,m)->oC g bs x=af I->∀ (k:Nat) c,I[k]? =af (af c)->∃ b0,h.get (g (i+k))=af b0/\BM g h m b0 c
 |[],i,x,m,I,hg,hp,k,c,hk=>by
  simp only[oC,ak] at hp;subst hp;simp at hk
 |b::r,i,x,m,I,hg,hp,k,c,hk=>by
  simp only[AW] at hg;split at hg
  .rename_i x1 m1 h1;split at hg
   .rename_i x2 m2 h2;simp only[ak,aD] at hg;obtain⟨rfl,rfl⟩:=hg;simp only[oC,tK,ve] at hp;split at hp
    .rename_i a J;split at hp
     .rename_i q hq;simp only[ak] at hp;subst hp;cases k with
      |zero=>
       simp at hk;subst hk;obtain⟨b0,e1,e2⟩:=af2 h1 J;exact⟨b0,e1,e2.mono λi hi=>by rw[bt,hi];rfl⟩
      |succ k=>
       obtain⟨b0,e1,e2⟩:=Jm r (i+1) _ _ q h2 hq k c (by simpa using hk);rw[show i+1+k=i+(k+1) from by omega] at e1;exact⟨b0,e1,e2.mono λi hi=>by rw[bt,hi];simp⟩
     .cases hp
    .cases hp
   .cases hg
  .cases hg
end get
theorem Rl {σ:PT Nat} {i a:Nat} (h:σ.get i=af a):ig σ i=a:=by unfold ig;rw[h]
theorem Wx {σ:PT Nat}:∀ (n i acc sm:Nat),aa4 σ n i acc=af sm->
 (∀ k,k<n->aN acc (ig σ (i+k))=aj)/\(∀ a b,a<n->b<n->ig σ (i+a)=ig σ (i+b)->a=b)/\∀ q,aN sm q=ai↔aN acc q=ai\/∃ k,k<n/\ig σ (i+k)=q
 |0,i,acc,sm,h=>by
  simp only[aa4,ak] at h;subst h;exact⟨λk hk=>by omega,λa b J=>by omega,λq=>⟨.inl,λhq=>hq.elim id λ⟨k,hk,_⟩=>by omega⟩⟩
 |n+1,i,acc,sm,h=>by
  simp only[aa4] at h;split at h
  .rename_i a J;split at h
   .cases h
   .rename_i hna;have hna:aN acc a=aj:=by simpa using hna
    have hga:=Rl J;obtain⟨h1,h2,M⟩:=Wx n (i+1) (acc|||kQ a) sm h;have hne:∀ k,k<n->ig σ (i+1+k)≠a/\aN acc (ig σ (i+1+k))=aj:=λk hk=>by
     have:=h1 k hk;rw[bt,Bool.or_eq_false_iff] at this;refine ⟨λe=>?_,this.1⟩;have I:=this.2;rw[e] at I;rw[bY.2 rfl] at I;cases I
    refine ⟨λk hk=>?_,λx y Y U hxy=>?_,λq=>?_⟩
    .cases k with
     |zero=>rw[dv,hga];exact hna
     |succ k=>rw[show i+(k+1)=i+1+k from by omega];exact (hne k (by omega)).2
    .cases x with
     |zero=>
      cases y with
      |zero=>rfl
      |succ y=>
       rw[dv,hga,show i+(y+1)=i+1+y from by omega] at hxy;exact cR hxy.symm (hne y (by omega)).1
     |succ x=>
      cases y with
      |zero=>
       rw[show i+0=i from rfl,hga,show i+(x+1)=i+1+x from by omega] at hxy;exact cR hxy (hne x (by omega)).1
      |succ y=>
       rw[show i+(x+1)=i+1+x from by omega,show i+(y+1)=i+1+y from by omega] at hxy;have:=h2 x y (by omega) (by omega) hxy;omega
    .rw[M,bt,iV];constructor
     .rintro ((hq|hq)|⟨k,hk,hq⟩)
      .exact .inl hq
      .exact .inr ⟨0,by omega,by rw[dv,hga];exact bY.1 hq⟩
      .exact .inr ⟨k+1,by omega,by rw[show i+(k+1)=i+1+k from by omega];exact hq⟩
     .rintro (hq|⟨k,hk,hq⟩)
      .exact .inl (.inl hq)
      .cases k with
       |zero=>rw[dv,hga] at hq;exact .inl (.inr (bY.2 hq))
       |succ k=>exact .inr ⟨k,by omega,by rw[show i+1+k=i+(k+1) from by omega];exact hq⟩
  .cases h
theorem Rs {σ:PT Nat}:∀ (n:Nat),Xi σ n=ai->∀ i,i<n->ig σ i=i
 |0,_,i,hi=>by omega
 |n+1,h,i,hi=>by
  simp only[Xi,av] at h;by_cases e:i=n
  .subst e;cases I:σ.get i with
   |none=>rw[I] at h;exact cR h.1 (by simp)
   |some a=>rw[I] at h;rw[Rl I];exact aw h.1
  .exact Rs n h.2 i (by omega)
structure H6 (np:Nat) (t:Tm) (vs:List TV) (h:bi) (z:t.ty.den) (m:Nat) (σ:PT Nat) (sm:Nat):Prop where
 ex:∃ x m1 y m2,z=Un _ _ x y/\m=m1|||m2/\yh (ig σ) h t.vs vs=af (x,m1)/\AW (ig σ) h 0 t.bs=af (y,m2)
 inj:∀ a b,a<t.bs.length->b<t.bs.length->ig σ a=ig σ b->a=b
 sig:∀ q,aN sm q=ai↔∃ k,k<t.bs.length/\ig σ k=q
 disj:∀ i,aN m i=ai->aN sm i=aj
 fix:∀ i,i<np->ig σ i=i
theorem wE {np:Nat} {t:Tm} {vs:List TV} {h:bi} {z:t.ty.den} {m:Nat} {σ:PT Nat} {sm:Nat} (hm:EA np t vs h=af ⟨z,m,σ,sm⟩):H6 np t vs h z m σ sm:=by
 unfold EA at hm;rw[ON] at hm;split at hm
 .rename_i sm' hs;split at hm
  .rename_i x m1 h1;split at hm
   .rename_i y m2 h2;split at hm
    .rename_i hc;simp only[av] at hc;simp only[ak,ai1.mk.injEq] at hm;obtain⟨rfl,rfl,rfl,rfl⟩:=hm;obtain⟨M,J,I⟩:=Wx _ _ _ _ hs;simp only[bN] at M J I;exact⟨⟨x,m1,y,m2,rfl,rfl,h1,h2⟩,J,λq=>by rw[I];simp,λi hi=>xS hc.1 i hi,Rs np hc.2⟩
    .cases hm
   .cases hm
  .cases hm
 .cases hm
mutual
theorem zq {g:Nat->Nat} {h:bi}:∀ (p:PV) (l:List TV) (x:p.ty.den) (m:Nat) (r:List TV),pt g h p l=af (x,m,r)->dT h m
 |.d T,l,x,m,r,hg=>vg 40 T l x m r hg
 |.ptr i q,l,x,m,r,hg=>by
  simp only[pt] at hg;split at hg
  .split at hg
   .simp only[ak,aD] at hg;obtain⟨_,rfl,_⟩:=hg;exact dT.zero h
   .cases hg
  .cases hg
 |.csl i q z,l,x,m,r,hg=>by
  simp only[pt] at hg;split at hg
  .split at hg
   .simp only[ak,aD] at hg;obtain⟨_,rfl,_⟩:=hg;exact dT.zero h
   .cases hg
  .cases hg
 |.clo q i z,l,x,m,r,hg=>by
  simp only[pt] at hg;split at hg
  .split at hg
   .simp only[ak,aD] at hg;obtain⟨_,rfl,_⟩:=hg;exact dT.zero h
   .cases hg
  .cases hg
 |.row i,l,x,m,r,hg=>by
  simp only[pt] at hg;split at hg
  .split at hg
   .simp only[ak,aD] at hg;obtain⟨_,rfl,_⟩:=hg;exact dT.zero h
   .cases hg
  .cases hg
 |.mp i,l,x,m,r,hg=>by
  simp only[pt] at hg;split at hg
  .split at hg
   .simp only[ak,aD] at hg;obtain⟨_,rfl,_⟩:=hg;exact dT.zero h
   .cases hg
  .cases hg
 |.nil,l,x,m,r,hg=>by
  simp only[pt] at hg;split at hg
  .simp only[ak,aD] at hg;obtain⟨_,rfl,_⟩:=hg;exact dT.zero h
  .cases hg
 |.emp,l,x,m,r,hg=>by
  simp only[pt] at hg;split at hg
  .simp only[ak,aD] at hg;obtain⟨_,rfl,_⟩:=hg;exact dT.zero h
  .simp only[ak,aD] at hg;obtain⟨_,rfl,_⟩:=hg;exact dT.zero h
  .cases hg
 |.agg ps,l,x,m,r,hg=>HU ps l x m r hg
theorem HU {g:Nat->Nat} {h:bi}:∀ (ps:List PV) (l:List TV) (x:(PV.tyL ps).den) (m:Nat) (r:List TV),zo g h ps l=af (x,m,r)->dT h m
 |[],l,x,m,r,hg=>by
  simp only[zo,ak,aD] at hg;obtain⟨_,rfl,_⟩:=hg;exact dT.zero h
 |p::ps,l,x,m,r,hg=>by
  simp only[zo] at hg;split at hg
  .rename_i x1 m1 r1 h1;split at hg
   .rename_i x2 m2 r2 h2;simp only[ak,aD] at hg;obtain⟨_,rfl,_⟩:=hg;exact (zq p l x1 m1 r1 h1).or (HU ps r1 _ _ _ h2)
   .cases hg
  .cases hg
end
theorem aiw {g:Nat->Nat} {h:bi} {p:PV} {v:TV} {x:p.ty.den} {m:Nat} (hg:xH g h p v=af (x,m)):dT h m:=by
 cases p with
 |d T=>exact XF hg
 |agg ps=>
  simp only[xH] at hg;split at hg
  .cases hg
  .split at hg
   .split at hg
    .rename_i x1 m1 h1;simp only[ak,aD] at hg;obtain⟨_,rfl⟩:=hg;exact HU ps _ _ _ _ h1
    .cases hg
   .cases hg
 |ptr i q=>
  simp only[xH] at hg;split at hg
  .rename_i h1;simp only[ak,aD] at hg;obtain⟨_,rfl⟩:=hg;exact zq _ _ _ _ _ h1
  .cases hg
 |csl i q z=>
  simp only[xH] at hg;split at hg
  .rename_i h1;simp only[ak,aD] at hg;obtain⟨_,rfl⟩:=hg;exact zq _ _ _ _ _ h1
  .cases hg
 |clo q i z=>
  simp only[xH] at hg;split at hg
  .rename_i h1;simp only[ak,aD] at hg;obtain⟨_,rfl⟩:=hg;exact zq _ _ _ _ _ h1
  .cases hg
 |row i=>
  simp only[xH] at hg;split at hg
  .rename_i h1;simp only[ak,aD] at hg;obtain⟨_,rfl⟩:=hg;exact zq _ _ _ _ _ h1
  .cases hg
 |mp i=>
  simp only[xH] at hg;split at hg
  .rename_i h1;simp only[ak,aD] at hg;obtain⟨_,rfl⟩:=hg;exact zq _ _ _ _ _ h1
  .cases hg
 |nil=>
  simp only[xH] at hg;split at hg
  .rename_i h1;simp only[ak,aD] at hg;obtain⟨_,rfl⟩:=hg;exact zq _ _ _ _ _ h1
  .cases hg
 |emp=>
  simp only[xH] at hg;split at hg
  .rename_i h1;simp only[ak,aD] at hg;obtain⟨_,rfl⟩:=hg;exact zq _ _ _ _ _ h1
  .cases hg
theorem HR {g:Nat->Nat} {h:bi}:∀ (ps:List PV) (vs:List TV) (x:(PV.tyL ps).den) (m:Nat),yh g h ps vs=af (x,m)->dT h m
 |[],[],x,m,hg=>by simp only[yh,ak,aD] at hg;obtain⟨_,rfl⟩:=hg;exact dT.zero h
 |[],_::_,x,m,hg=>by simp[yh] at hg
 |_::_,[],x,m,hg=>by simp[yh] at hg
 |p::ps,v::vs,x,m,hg=>by
  simp only[yh] at hg;split at hg
  .rename_i x1 m1 h1;split at hg
   .rename_i x2 m2 h2;simp only[ak,aD] at hg;obtain⟨_,rfl⟩:=hg;exact (aiw h1).or (HR ps vs x2 m2 h2)
   .cases hg
  .cases hg
theorem aiy {g:Nat->Nat} {h:bi} {i:Nat} {b:PB} {x:b.ty.den} {m:Nat} (hg:E3 g h i b=af (x,m)):dT h m:=by
 cases b with
 |rows ty p T=>
  simp only[E3] at hg;split at hg
  .split at hg
   .split at hg
    .simp only[ak,aD] at hg;obtain⟨_,rfl⟩:=hg;exact dT.zero h
    .cases hg
   .cases hg
  .cases hg
 |rowsP ty T=>
  simp only[E3] at hg;split at hg
  .split at hg
   .split at hg
    .simp only[ak,aD] at hg;obtain⟨_,rfl⟩:=hg;exact dT.zero h
    .cases hg
   .cases hg
  .cases hg
 |cells ty ps=>
  simp only[E3] at hg;split at hg
  .split at hg
   .split at hg
    .rename_i h1;simp only[ak,aD] at hg;obtain⟨_,rfl⟩:=hg;exact HU ps _ _ _ _ h1
    .cases hg
   .cases hg
  .cases hg
 |mp K V=>
  simp only[E3] at hg;split at hg
  .split at hg
   .simp only[ak,aD] at hg;obtain⟨_,rfl⟩:=hg;exact dT.zero h
   .cases hg
  .cases hg
 |gone=>simp only[E3,ak,aD] at hg;obtain⟨_,rfl⟩:=hg;exact dT.zero h
theorem HV {g:Nat->Nat} {h:bi}:∀ (bs:List PB) (i:Nat) (x:(PB.tyL bs).den) (m:Nat),AW g h i bs=af (x,m)->dT h m
 |[],i,x,m,hg=>by simp only[AW,ak,aD] at hg;obtain⟨_,rfl⟩:=hg;exact dT.zero h
 |b::r,i,x,m,hg=>by
  simp only[AW] at hg;split at hg
  .rename_i x1 m1 h1;split at hg
   .rename_i x2 m2 h2;simp only[ak,aD] at hg;obtain⟨_,rfl⟩:=hg;exact (aiy h1).or (HV r (i+1) x2 m2 h2)
   .cases hg
  .cases hg
structure qR (t:Tm) (x:t.ty.den) (vs:List TV) (h1:bi) (l1:List (Option iu)):Prop where
 pv:qb HP t.vs (OM _ _ x)=af vs
 pb:oC HP t.bs (Ll _ _ x)=af l1
 len:l1.length=t.bs.length
 at_:∀ i b,h1.get i=af b↔l1[i]? =af (af b)
 ok:kS h1 vs=ai
 lt:rH t.bs.length vs=ai
 cells:∀ i ty l,h1.get i=af (.cells ty l)->kS h1 l=ai/\rH t.bs.length l=ai
theorem aaw (l:List (Option iu)) (i:Nat) (b:iu):(AB HP 0 l PT.leaf).get i=af b↔l[i]? =af (af b):=by
 by_cases hi:i<l.length
 .obtain⟨c,hc⟩:∃ c,l[i]? =af c:=⟨l[i],aB hi⟩
  have:=vk HP l 0 PT.leaf (λa b _ _ e=>by simp only[HP] at e;omega) i c hc;rw[show HP (0+i)=i from by simp only[HP];omega] at this;rw[this,hc];cases c with
  |some b'=>simp
  |none=>simp[PT.get]
 .rw[vj HP l 0 PT.leaf i (λk hk=>by simp only[HP];omega),bS (by omega)];simp[PT.get]
theorem wK {t:Tm} {x:t.ty.den} {vs:List TV} {h1:bi} (hi:C4 t x=af (vs,h1)):∃ l1,qR t x vs h1 l1:=by
 unfold C4 at hi;split at hi
 .rename_i us hus;split at hi
  .rename_i h hh;split at hi
   .rename_i hc;simp only[av] at hc;simp only[ak,aD] at hi;obtain⟨rfl,rfl⟩:=hi;unfold MF at hh;split at hh
    .rename_i l1 I;simp only[ak] at hh;refine ⟨l1,hus,I,CK _ _ _ _ I,λi b=>?_,hc.1.1,hc.1.2,λi ty l hil=>?_⟩
     .rw[<- hh];exact aaw l1 i b
     .have:=PT.get_all _ h 1 0 i _ hc.2 hil;simpa only[av] using this
    .cases hh
   .cases hi
  .cases hi
 .cases hi
def WJ (nb:Nat) (n:Nat):Bool:=n%2==0&&gp (n/2) nb
theorem BF {nb i:Nat}:WJ nb (nm i)=ai↔i<nb:=by
 unfold WJ nm;rw[show 2*i%2=0 from by omega,show 2*i/2=i from by omega];simp only[cY,pB];exact⟨λh=>a8 h,λh=>bE h⟩
theorem aaf {nb n:Nat} (h:WJ nb n=ai):∃ i,i<nb/\n=nm i:=by
 unfold WJ at h;simp only[av,c5] at h;exact⟨n/2,a8 h.2,by unfold nm;omega⟩
mutual
theorem ait {nb:Nat} {h:bi}:∀ (v:TV) (y:AV),Lu nb v=ai->cq h v=af y->y.all (WJ nb)=ai
 |.f _ _,y,_,he=>by simp only[cq,ak] at he;subst he;rfl
 |.fel _ _ _ _ _,y,_,he=>by simp only[cq,ak] at he;subst he;rfl
 |.pel id _ _ _,y,hl,he=>by simp only[cq,ak] at he;subst he;exact BF.2 (a8 hl)
 |.ptr id _,y,hl,he=>by simp only[cq,ak] at he;subst he;exact BF.2 (a8 hl)
 |.csl id _ _,y,hl,he=>by simp only[cq,ak] at he;subst he;exact BF.2 (a8 hl)
 |.row id,y,hl,he=>by
  simp only[cq] at he;split at he
  .simp only[ak] at he;subst he;unfold fA;split
   .rfl
   .exact BF.2 (a8 hl)
  .cases he
 |.rtl id jj,y,hl,he=>by
  simp only[cq] at he;split at he
  .simp only[ak] at he;subst he;exact BF.2 (a8 hl)
  .cases he
 |.emp,y,_,he=>by simp only[cq,ak] at he;subst he;rfl
 |.nil,y,_,he=>by simp only[cq,ak] at he;subst he;rfl
 |.mp id,y,hl,he=>by simp only[cq,ak] at he;subst he;exact BF.2 (a8 hl)
 |.agg l,y,hl,he=>by
  simp only[cq] at he;split at he
  .rename_i l' hl';simp only[ak] at he;subst he;exact tH l l' hl hl'
  .cases he
 |.tup l,y,hl,he=>by
  simp only[cq] at he;split at he
  .rename_i l' hl';simp only[ak] at he;subst he;exact tH l l' hl hl'
  .cases he
 |.clo q l,y,hl,he=>by
  simp only[cq] at he;split at he
  .rename_i l' hl';simp only[ak] at he;subst he;exact tH l l' hl hl'
  .cases he
 |.undef,y,_,he=>by simp only[cq,ak] at he;subst he;rfl
 |.np,y,_,he=>by simp only[cq,ak] at he;subst he;rfl
 |.anyb,y,_,he=>by simp only[cq,ak] at he;subst he;rfl
theorem tH {nb:Nat} {h:bi}:∀ (l:List TV) (l':List AV),rH nb l=ai->cN h l=af l'->AV.allL (WJ nb) l'=ai
 |[],l',_,he=>by simp only[cN,ak] at he;subst he;rfl
 |x::r,l',hl,he=>by
  obtain⟨y,l2,rfl,e1,e2⟩:=c8 he;simp only[rH,av] at hl;simp only[AV.allL,av];exact⟨ait x y hl.1 e1,tH r l2 hl.2 e2⟩
end
theorem qR.blk_all {t:Tm} {x:t.ty.den} {vs:List TV} {h1:bi} {l1:List (Option iu)} (I:qR t x vs h1 l1) {i:Nat} {b:iu} (hb:h1.get i=af b) {y:xh} (J:kC h1 b=af y):y.c.all (WJ t.bs.length)=ai:=by
 cases b with
 |rows ty p T xs=>
  simp only[kC] at J;split at J
  .cases J
  .simp only[ak] at J;subst J;rfl
 |cells ty l=>
  simp only[kC] at J;split at J
  .rename_i M hl;simp only[ak] at J;subst J;exact tH l M (I.cells i ty l hb).2 hl
  .cases J
 |dead p sz n=>cases J
 |mp K V es=>
  simp only[kC,ak] at J;subst J;show BC.all _ (mpC K V es)=ai;unfold mpC;split
  .rfl
  .simp only[BC.all,Ac];have key:∀ l:List (K.den×V.den),AV.allL (WJ t.bs.length) (l.map ((λx=>x.2)∘λp=>(pN K p.1,AV.f (gK V p.2))))=ai:=λl=>by
    induction l with
    |nil=>rfl
    |cons e r U=>simp only[gr,AV.allL,av];exact⟨rfl,U⟩
   exact key es
theorem qR.lt_len {t:Tm} {x:t.ty.den} {vs:List TV} {h1:bi} {l1:List (Option iu)} (I:qR t x vs h1 l1) {i:Nat} {b:iu} (hb:h1.get i=af b):i<t.bs.length:=by
 rw[<- I.len];exact (bl.1 ((I.at_ i b).1 hb)).1
def φ1 (nb:Nat) (g:Nat->Nat) (φ:PM):PM:=λn=>if WJ nb n then φ (HW g n) else ah
theorem ZX {nb:Nat} {g:Nat->Nat} {φ:PM} {i:Nat} (hi:i<nb):φ1 nb g φ (nm i)=φ (nm (g i)):=by
 unfold φ1;rw[aF (BF.2 hi),xJ]
theorem xl {nb:Nat} {g:Nat->Nat} {φ:PM} {n k:Nat} (h:φ1 nb g φ n=af k):∃ i,i<nb/\n=nm i/\φ (nm (g i))=af k:=by
 unfold φ1 at h;split at h
 .rename_i hp;obtain⟨i,hi,rfl⟩:=aaf hp;rw[xJ] at h;exact⟨i,hi,rfl,h⟩
 .cases h
structure ag4 (t:Tm) (x:t.ty.den) (vs:List TV) (h1:bi) (g:Nat->Nat) (φ:PM) (E E':Nat->Prop) (Hv:HF) (w:World):Prop where
 rep:rf (φ1 t.bs.length g φ) E' (bC h1) w
 val:∀ x v,x.all (WJ t.bs.length)=ai->cO φ (tot E φ Hv) w (x.ren (HW g)) v->cO (φ1 t.bs.length g φ) (tot E' (φ1 t.bs.length g φ) (bC h1)) w x v
 own_:∀ k,own (φ1 t.bs.length g φ) (bC h1) k->own φ Hv k
 tot_:∀ k,tot E' (φ1 t.bs.length g φ) (bC h1) k->tot E φ Hv k
theorem rf.toId {t:Tm} {x:t.ty.den} {vs:List TV} {h1:bi} {l1:List (Option iu)} (I:qR t x vs h1 l1) {g:Nat->Nat} (inj:∀ a b,a<t.bs.length->b<t.bs.length->g a=g b->a=b) {φ:PM} {E E':Nat->Prop} {Hv:HF} {w:World} (r:rf φ E Hv w)
 (hat:∀ i b y,h1.get i=af b->kC h1 b=af y->Hv (nm (g i))=af (y.ren (HW g)))
 (hE:∀ k,E' k->tot E φ Hv k) (hne:∀ i k b,i<t.bs.length->Hv (nm (g i))=af b->φ (nm (g i))=af k->¬E' k) (hel:∀ k,E' k->k<w.heap.size):ag4 t x vs h1 g φ E E' Hv w:=by
 have own1:∀ k,own (φ1 t.bs.length g φ) (bC h1) k->own φ Hv k:=by
  rintro k ⟨n,y,h2,h3⟩;obtain⟨i,hi,rfl,Y⟩:=xl h3;obtain⟨j,b,e,U,J⟩:=jy h2;have:=kT e;subst this;exact⟨nm (g i),_,hat i b y U J,Y⟩
 have tot1:∀ k,tot E' (φ1 t.bs.length g φ) (bC h1) k->tot E φ Hv k:=λk hk=>hk.elim (hE k) λh=>.inr (own1 k h)
 have val:∀ x v,x.all (WJ t.bs.length)=ai->cO φ (tot E φ Hv) w (x.ren (HW g)) v->cO (φ1 t.bs.length g φ) (tot E' (φ1 t.bs.length g φ) (bC h1)) w x v:=λx v hx hr=>by
  have h2:cO (φ1 t.bs.length g φ) (tot E φ Hv) w x v:=cO.renFrom (λi k hp hk=>by unfold φ1;rw[aF hp];exact hk) hr x hx rfl;exact h2.ext (λ_ _ h=>h) (K7.refl _ w) λk _ hk=>tot1 k hk
 refine ⟨⟨λn n' b b' k Z g2 g3 g4=>?_,λn y Z=>?_,hel,λg' cells hg=>(r.gl g' cells hg).ext (K7.refl _ w) λk _ hk=>tot1 k hk⟩,val,own1,tot1⟩
 .obtain⟨i,hi,rfl,Y⟩:=xl g3;obtain⟨j,hj,rfl,U⟩:=xl g4;obtain⟨i',c,e,J,M⟩:=jy Z;have:=kT e;subst this;obtain⟨j',c',e,h8,h9⟩:=jy g2;have:=kT e;subst this;have:=r.inj _ _ _ _ k (hat i c _ J M) (hat j c' _ h8 h9) Y U;rw[inj i j hi hj (kT this)]
 .obtain⟨i,c,rfl,J,M⟩:=jy Z;have hi:=I.lt_len J;obtain⟨k,p1,p2,ob,p3,p4⟩:=r.at_ _ _ (hat i c y J M);exact⟨k,by rw[ZX hi];exact p1,hne i k _ hi (hat i c y J M) p1,ob,p3,jv.renFrom val (I.blk_all J M) p4⟩
theorem BM.view {g:Nat->Nat} {h hv:bi} {H H':HF} {m:Nat} (d:vD H H') (M:Ed h H H' m) (hr:xX hv h) {b0 c:iu} (hb:BM g h m b0 c) {y I:xh} (e0:kC h b0=af y) (e1:kC hv c=af I):jX H H' y I:=by
 cases hb with
 |rows ty p T xs=>
  simp only[kC] at e0 e1;rw[e0] at e1;cases e1;exact jX.refl d y
 |mp K V es=>
  simp only[kC] at e0 e1;rw[e0] at e1;cases e1;exact jX.refl d y
 |cells ty ps x l l2 m' hg hp hm=>
  simp only[kC] at e0 e1;split at e0
  .rename_i J hl;simp only[ak] at e0;subst e0;split at e1
   .rename_i cs' hc;simp only[ak] at e1;subst e1;obtain⟨l1,U,q1,q2,q3⟩:=De d hr ps l x m' [] l2 J cs' hg hp hl hc λi hi=>M i (hm i hi)
    simp only[cN,ak] at q2;subst q2;rw[iU] at q1;subst q1;exact jX.cells rfl rfl q3 (lO (sa hc (xp ps x l2 hp)))
   .cases e1
  .cases e0
theorem BM.erB_some {g:Nat->Nat} {h hv:bi} {nx m:Nat} (hinv:md h nx) {i:Nat} {b0 c:iu} (h0:h.get i=af b0) (hb:BM g h m b0 c) {I:xh} (e1:kC hv c=af I):∃ y,kC h b0=af y:=by
 cases hb with
 |rows ty p T xs=>exact⟨I,e1⟩
 |mp K V es=>exact⟨I,e1⟩
 |cells ty ps x l l2 m' hg hp hm=>
  obtain⟨J,hl⟩:=fy h l (hinv.cells i ty l h0);exact⟨_,by simp only[kC,hl];rfl⟩
theorem BM.row {g:Nat->Nat} {h:bi} {m:Nat} {b0 c:iu} (hb:BM g h m b0 c):mJ c=mJ b0:=by
 cases hb<;>rfl
structure pR (P:Program) (f:FuncId) (c:cg):Prop where
 callable:D_ P f
 calls:∀ x y,c.m x=af y->∀ vs hp l1 rs hq l2 la lr,qR c.pre x vs hp l1->qR c.post y rs hq l2->cN hp vs=af la->cN hq rs=af lr->
  ∀ (φ:PM) (E:Nat->Prop) (w:World) (us:List Value),rf φ E (bC hp) w->jW φ (tot E φ (bC hp)) w la us->(∀ n k,φ n=af k->ow n<c.pre.bs.length)->
  Calls P f us.toArray w λen w'=>∃ v φ',en= .returned v/\K7 (own φ (bC hp)) w w'/\(∀ k,k<w.heap.size->own φ' (bC hq) k->own φ (bC hp) k)/\(∀ i,i<c.pre.bs.length->φ' (nm i)=φ (nm i))/\rf φ' E (bC hq) w'/\cO φ' (tot E φ' (bC hq)) w' (Ef lr) v
theorem MJ {g:Nat->Nat}:∀ (bs:List PB) (x:(PB.tyL bs).den) (l:List (Option iu)),BO bs=ai->oC g bs x=af l->∀ (i:Nat) (c:Option iu),l[i]? =af c->∃ b,c=af b
 |[],x,l,_,hp,i,c,hc=>by simp only[oC,ak] at hp;subst hp;simp at hc
 |b::r,x,l,hn,hp,i,c,hc=>by
  simp only[oC] at hp;split at hp
  .rename_i a I;split at hp
   .rename_i q hq;simp only[ak] at hp;subst hp;cases i with
    |zero=>
     simp at hc;subst hc;cases b with
     |gone=>simp[BO] at hn
     |rows ty p T=>simp only[CL,ak] at I;exact⟨_,I.symm⟩
     |rowsP ty T=>simp only[CL,ak] at I;exact⟨_,I.symm⟩
     |cells ty ps=>
      simp only[CL] at I;split at I
      .simp only[ak] at I;exact⟨_,I.symm⟩
      .cases I
     |mp K V=>simp only[CL,ak] at I;exact⟨_,I.symm⟩
    |succ i=>
     refine MJ r _ q ?_ hq i c (by simpa using hc);cases b<;>first|exact hn|simp[BO] at hn
   .cases hp
  .cases hp
theorem FB {h h2:bi} {g:Nat->Nat}:∀ n,t8 h h2 g n=ai->∀ i,i<n->∀ r,eD h (g i)=af r->eD h2 (g i)=af r
 |0,_,i,hi,_,_=>by omega
 |n+1,hs,i,hi,r,hr=>by
  simp only[t8,av] at hs;by_cases e:i=n
  .subst e;obtain⟨p,s,k⟩:=r;have h1:=hs.1;rw[hr] at h1;cases I:eD h2 (g i) with
   |none=>rw[I] at h1;cases h1
   |some q=>
    obtain⟨J,s',k'⟩:=q;rw[I] at h1;simp only[av,c5] at h1;rw[h1.1.1,aw h1.1.2,aw h1.2]
  .exact FB n hs.2 i (by omega) r hr
theorem jW.le {H H':HF} {φ:PM} {E:Nat->Prop} {w:World} (r:rf φ E H w):∀ {l I:List AV} {us:List Value},ii H H' l I->jW φ (tot E φ H) w l us->jW φ (tot E φ H') w I us
 |[],[],[],_,_=>trivial
 |[],[],_::_,_,h=>h.elim
 |_::_,_::_,[],_,h=>h.elim
 |[],_::_,_,h,_=>h.elim
 |_::_,[],_,h,_=>h.elim
 |_::_,_::_,_::_,hl,h=>⟨hl.1 _ _ _ _ r h.1,jW.le r hl.2 h.2⟩
theorem jW.toId {φ φ':PM} {O O':Nat->Prop} {w:World} {γ:Nat->Nat} {p:Nat->Bool} (hv:∀ x v,x.all p=ai->cO φ O w (x.ren γ) v->cO φ' O' w x v):∀ {l:List AV} {us:List Value},AV.allL p l=ai->jW φ O w (AV.renL γ l) us->jW φ' O' w l us
 |[],[],_,_=>trivial
 |[],_::_,_,h=>h.elim
 |_::_,[],_,h=>h.elim
 |_::_,_::_,hp,h=>by
  simp only[AV.allL,av] at hp;exact⟨hv _ _ hp.1 h.1,jW.toId hv hp.2 h.2⟩
theorem WD {h:bi}:∀ {rs:List TV} {lr:List AV},cN h rs=af lr->cq h (Qj rs)=af (Ef lr)
 |[],lr,he=>by simp only[cN,ak] at he;subst he;rfl
 |[x],lr,he=>by
  obtain⟨y,l2,rfl,e1,e2⟩:=c8 he;simp only[cN,ak] at e2;subst e2;exact e1
 |x::y::r,lr,he=>by
  obtain⟨J,l2,rfl,e1,e2⟩:=c8 he;obtain⟨I,M,rfl,e3,U⟩:=c8 e2;simp only[Qj,cq,he,Ef]
theorem Z7 (γ:Nat->Nat):∀ l:List AV,Ef (AV.renL γ l)=(Ef l).ren γ
 |[]=>rfl
 |[x]=>rfl
 |x::y::r=>rfl
theorem Z8 {p:Nat->Bool}:∀ {l:List AV},AV.allL p l=ai->(Ef l).all p=ai
 |[],_=>rfl
 |[x],h=>by simp only[AV.allL,av] at h;exact h.1
 |x::y::r,h=>h
theorem aej {nx I q:Nat}:aN (((1<<<I)-1)<<<nx) q=ai↔nx<=q/\q<nx+I:=by
 rw[Nat.testBit_shiftLeft,Nat.one_shiftLeft,Nat.testBit_two_pow_sub_one];simp only[av,be];omega
theorem ac7 {P:Program} {o:Oper} {e:iP} {h:bi} {nx:Nat} {f:FuncId} {c:cg} {l:List TV} (hinv:md h nx) (sp:pR P f c) {x:c.pre.ty.den} {m:Nat} {σ:PT Nat} {sm:Nat} (M:H6 0 c.pre l h x m σ sm) {vs:List TV} {hp:bi} {l1:List (Option iu)} (I:qR c.pre x vs hp l1) (hng:BO c.pre.bs=ai) {y:c.post.ty.den} (hm:c.m x=af y) {rs:List TV} {hq:bi} {l2:List (Option iu)} (J:qR c.post y rs hq l2) (hle:c.pre.bs.length<=c.post.bs.length)
 {g:Nat->Nat} (glo:∀ i,i<c.pre.bs.length->g i=ig σ i) (ghi:∀ i,c.pre.bs.length<=i->g i=nx+(i-c.pre.bs.length)) {h2:bi} (hh2:h2=AB g 0 (l2.map (lQ (lV g))) (eH m h)) (hsr:t8 h h2 g c.pre.bs.length=ai) {la:List AV} (hla:cN h l=af la)
 (hexec:∀ (φ:PM) (E:Nat->Prop) (h':HF) (w:World) (a:Act),(∀ t,.tmp t∈o.op.operands->∀ y,fV e h t=af y->cO φ (tot E φ h') w y (a.tmps.getD t undef))->rf φ E h' w->∃ us:List Value,(execOp a.eval o).run P w= .ok (.enter f us.toArray) w/\jW φ (tot E φ h') w la us):
 jk P o aj e h nx (Qj (kA g rs)) (sm|||m) (sm|||m|||(((1<<<(c.post.bs.length-c.pre.bs.length))-1)<<<nx)) h2 (nx+(c.post.bs.length-c.pre.bs.length)):=by
 obtain⟨x1,m1,x2,m2,hx,hmm,gv,gb⟩:=M.ex;have hmr:dT h m:=by rw[hmm];exact (HR _ _ _ _ gv).or (HV _ _ _ _ gb)
 generalize hnp:c.pre.bs.length=np at*
 generalize hnq:c.post.bs.length=nq at*
 have pvg:qb (ig σ) c.pre.vs x1=af (kA (ig σ) vs):=by
  have U:=tP (ig σ) c.pre.vs x1;have h4:=I.pv;rw[hx,tK] at h4;rw[U,h4];rfl
 have pbg:oC (ig σ) c.pre.bs x2=af (l1.map (lQ (lV (ig σ)))):=by
  have U:=wh (ig σ) c.pre.bs x2;have h4:=I.pb;rw[hx,ve] at h4;rw[U,h4];rfl
 have hl1:∀ i,i<np->∃ b,l1[i]? =af (af b):=λi hi=>by
  have hi':i<l1.length:=by rw[I.len,hnp];exact hi
  obtain⟨b,hb⟩:=MJ c.pre.bs _ l1 hng I.pb i l1[i] (aB hi');exact⟨b,by rw[aB hi',hb]⟩
 have hbm:∀ i b,l1[i]? =af (af b)->∃ b0,h.get (ig σ i)=af b0/\BM (ig σ) h m b0 (lV (ig σ) b):=λi b hb=>by
  obtain⟨b0,q1,q2⟩:=Jm c.pre.bs 0 x2 m2 _ gb pbg i (lV (ig σ) b) (by rw[ba,hb];rfl);rw[bN] at q1;exact⟨b0,q1,q2.mono λj hj=>by rw[hmm,bt,hj];simp⟩
 have inj1:∀ a b,a<np->b<np->ig σ a=ig σ b->a=b:=λa b ha hb=>M.inj a b (by rw[hnp];exact ha) (by rw[hnp];exact hb)
 have sig:∀ q,aN sm q=ai↔∃ k,k<np/\ig σ k=q:=λq=>by rw[M.sig,hnp]
 have gnx:∀ i,i<np->ig σ i<nx:=λi hi=>by
  obtain⟨b,hb⟩:=hl1 i hi;obtain⟨b0,q1,_⟩:=hbm i b hb;exact hinv.low _ _ q1
 have hmS:∀ i,i<np->aN m (ig σ i)=aj:=λi hi=>by
  cases hx:aN m (ig σ i) with
  |false=>rfl
  |true=>have:=M.disj _ hx;rw[(sig _).2 ⟨i,hi,rfl⟩] at this;cases this
 have injg:∀ a b,a<nq->b<nq->g a=g b->a=b:=λa b ha hb hab=>by
  by_cases h1:a<np
  .by_cases h2:b<np
   .rw[glo a h1,glo b h2] at hab;exact inj1 a b h1 h2 hab
   .rw[glo a h1,ghi b (by omega)] at hab;have:=gnx a h1;omega
  .by_cases h2:b<np
   .rw[ghi a (by omega),glo b h2] at hab;have:=gnx b h2;omega
   .rw[ghi a (by omega),ghi b (by omega)] at hab;omega
 let hv:bi:=AB (ig σ) 0 (l1.map (lQ (lV (ig σ)))) (eH m h)
 have hv_at:∀ i b,l1[i]? =af (af b)->hv.get (ig σ i)=af (lV (ig σ) b):=λi b hb=>by
  have:=vk (ig σ) (l1.map (lQ (lV (ig σ)))) 0 (eH m h) (λa b ha hb=>by
   simp only[bR,I.len,hnp] at ha hb;simp only[bN];exact inj1 a b ha hb) i (af (lV (ig σ) b)) (by rw[ba,hb];rfl)
  rw[bN] at this;exact this
 have hv_ne:∀ j,(∀ i,i<np->j≠ig σ i)->hv.get j=(eH m h).get j:=λj hj=>
  vj (ig σ) _ 0 _ j λk hk=>by
   simp only[bR,I.len,hnp] at hk;rw[bN];exact hj k hk
 have rows_in:xX hv h:=λj r hr=>by
  rw[bU] at hr ⊢;by_cases hj:∃ i,i<np/\j=ig σ i
  .obtain⟨i,hi,rfl⟩:=hj;obtain⟨b,hb⟩:=hl1 i hi;obtain⟨b0,q1,q2⟩:=hbm i b hb;rw[hv_at i b hb] at hr;rw[q1];simp only[aH] at hr ⊢;rw[<- q2.row];exact hr
  .rw[hv_ne j (λi hi e=>hj ⟨i,hi,e⟩),iZ] at hr;split at hr
   .rename_i ht;obtain⟨ty,p,T,xs,hb⟩:=hmr j ht;rw[hb] at hr ⊢;exact hr
   .exact hr
 have rows_hp:∀ i r,eD hp i=af r->eD hv (ig σ i)=af r:=λi r hr=>by
  rw[bU] at hr ⊢;cases hb:hp.get i with
  |none=>rw[hb] at hr;cases hr
  |some b=>
   rw[hb] at hr;rw[hv_at i b ((I.at_ i b).1 hb)];simp only[aH,Il] at hr ⊢;exact hr
 have dead_m:∀ i,aN m i=ai->bC hv (nm i)=ah:=λi hi=>by
  rw[bK,hv_ne i (λk hk e=>by rw[e,hmS k hk] at hi;cases hi)];obtain⟨p,sz,n,hd⟩:=tW hmr hi;rw[hd];rfl
 have h2_at:∀ i cc,l2[i]? =af cc->h2.get (g i)=(match cc with|some b=>af (lV g b)|none=>((eH m h).get (g i)).map vm):=λi cc hc=>by
  have:=vk g (l2.map (lQ (lV g))) 0 (eH m h) (λa b ha hb=>by
   simp only[bR,J.len,hnq] at ha hb;simp only[bN];exact injg a b ha hb) i (cc.map (lV g)) (by rw[ba,hc];rfl)
  rw[bN] at this;rw[hh2,this];cases cc<;>rfl
 have h2_ne:∀ j,(∀ i,i<nq->j≠g i)->h2.get j=(eH m h).get j:=λj hj=>by
  rw[hh2];refine vj g _ 0 _ j λk hk=>?_
  simp only[bR,J.len,hnq] at hk;rw[bN];exact hj k hk
 have rows_hq:∀ i r,eD hq i=af r->eD h2 (g i)=af r:=λi r hr=>by
  rw[bU] at hr ⊢;cases hb:hq.get i with
  |none=>rw[hb] at hr;cases hr
  |some b=>
   rw[hb] at hr;rw[h2_at i _ ((J.at_ i b).1 hb)];simp only[aH,Il] at hr ⊢;exact hr
 have rows2:co h h2:=λj r hr=>by
  by_cases hj:∃ i,i<np/\j=ig σ i
  .obtain⟨i,hi,rfl⟩:=hj;rw[<- glo i hi] at hr ⊢;exact FB np hsr i hi r hr
  .have hjn:j<nx:=by
    rw[bU] at hr;cases hb:h.get j with
    |none=>rw[hb] at hr;cases hr
    |some b=>exact hinv.low j b hb
   have:=co.kill m h j r hr;rw[bU] at this ⊢;rw[h2_ne j (λi hi e=>?_)]
   .exact this
   .by_cases hip:i<np
    .exact hj ⟨i,hip,by rw[e,glo i hip]⟩
    .rw[ghi i (by omega)] at e;omega
 obtain⟨lr,hlr⟩:=fy hq rs J.ok;obtain⟨lp,hlp⟩:=fy hp vs I.ok;have er2:∀ i b Z,hq.get i=af b->kC hq b=af Z->bC h2 (nm (g i))=af (Z.ren (HW g)):=λi b Z hb hyb=>by
  rw[bK,h2_at i _ ((J.at_ i b).1 hb)];exact Di rows_hq hyb
 have er2':∀ i,i<nq->∀ z,bC h2 (nm (g i))=af z->∃ b Z,hq.get i=af b/\kC hq b=af Z/\z=Z.ren (HW g):=λi hi z Y=>by
  have hi':i<l2.length:=by rw[J.len,hnq];exact hi
  have hcc:=aB hi';cases hcv:l2[i] with
  |none=>
   rw[hcv] at hcc;rw[bK,h2_at i ah hcc] at Y;simp only at Y;cases hkg:(eH m h).get (g i) with
   |none=>rw[hkg] at Y;cases Y
   |some b0=>rw[hkg] at Y;cases b0<;>simp[vm,kC] at Y
  |some b=>
   rw[hcv] at hcc;have hb:=(J.at_ i b).2 hcc;rw[bK,h2_at i (af b) hcc] at Y;have hyb:∃ Z,kC hq b=af Z:=by
    cases b with
    |rows ty p T xs=>simp only[aH,lV,kC] at Y ⊢;exact⟨z,Y⟩
    |cells ty q=>
     obtain⟨q',hq'⟩:=fy hq q (J.cells i ty q hb).1;exact⟨_,by simp only[kC,hq'];rfl⟩
    |dead p sz n=>simp[lV,kC] at Y
    |mp K V es=>exact⟨_,rfl⟩
   obtain⟨Z,hyb⟩:=hyb;have:=Di rows_hq hyb;simp only[aH] at Y;rw[this] at Y;exact⟨b,Z,hb,hyb,by cases Y;rfl⟩
 have dead2:∀ i,aN m i=ai->bC h2 (nm i)=ah:=λi hi=>by
  have hlt:=hmr.lt hinv hi;rw[bK,h2_ne i (λk hk e=>?_)]
  .obtain⟨p,sz,n,hd⟩:=tW hmr hi;rw[hd];rfl
  .by_cases hkp:k<np
   .rw[e,glo k hkp,hmS k hkp] at hi;cases hi
   .rw[ghi k (by omega)] at e;omega
 have inv2:md h2 (nx+(nq-np)):=by
  refine ⟨λj ty q hj=>?_,λj b hj=>?_⟩
  .by_cases hjg:∃ i,i<nq/\j=g i
   .obtain⟨i,hi,rfl⟩:=hjg;have hi':i<l2.length:=by rw[J.len,hnq];exact hi
    have hcc:=aB hi';cases hcv:l2[i] with
    |none=>
     rw[hcv] at hcc;rw[h2_at i ah hcc] at hj;simp only at hj;cases hkg:(eH m h).get (g i) with
     |none=>rw[hkg] at hj;cases hj
     |some b0=>rw[hkg] at hj;cases b0<;>simp[vm] at hj
    |some b=>
     rw[hcv] at hcc;have hb:=(J.at_ i b).2 hcc;rw[h2_at i (af b) hcc] at hj;simp only[ak] at hj;cases b with
     |cells ty' q'=>
      simp only[lV,iu.cells.injEq] at hj;obtain⟨_,rfl⟩:=hj;obtain⟨z,Y⟩:=fy hq q' (J.cells i ty' q' hb).1;exact kO _ _ _ (qI rows_hq q' z Y)
     |rows _ _ _ _=>simp[lV] at hj
     |dead _ _ _=>simp[lV] at hj
     |mp _ _ _=>simp[lV] at hj
   .rw[h2_ne j (λi hi e=>hjg ⟨i,hi,e⟩)] at hj;refine iW rows2 q ?_;have hkk:=(hinv.kill m).cells j ty q hj;rw[iZ] at hj;split at hj
    .rename_i ht;obtain⟨_,_,_,_,hb⟩:=hmr j ht;rw[hb] at hj;cases hj
    .exact hinv.cells j ty q hj
  .by_cases hjg:∃ i,i<nq/\j=g i
   .obtain⟨i,hi,rfl⟩:=hjg;by_cases hip:i<np
    .rw[glo i hip];have:=gnx i hip;omega
    .rw[ghi i (by omega)];omega
   .rw[h2_ne j (λi hi e=>hjg ⟨i,hi,e⟩)] at hj;have:=(hinv.kill m).low j b hj;omega
 let S:List Nat:=(cS np).map λi=>nm (ig σ i)
 have memS:∀ n,n∈S↔∃ i,i<np/\n=nm (ig σ i):=λn=>by
  simp only[S,di,ll];exact⟨λ⟨i,h1,h2⟩=>⟨i,h1,h2.symm⟩,λ⟨i,h1,h2⟩=>⟨i,h1,h2.symm⟩⟩
 let NN:List Nat:=(cS (nq-np)).map λt=>nm (nx+t)
 have memN:∀ n,n∈NN↔∃ t,t<nq-np/\n=nm (nx+t):=λn=>by
  simp only[NN,di,ll];exact⟨λ⟨i,h1,h2⟩=>⟨i,h1,h2.symm⟩,λ⟨i,h1,h2⟩=>⟨i,h1,h2.symm⟩⟩
 have memW:∀ n,n∈S++FJ m++NN↔(∃ i,i<nq/\n=nm (g i))\/n∈FJ m:=λn=>by
  rw[bQ,bQ,memS,memN];constructor
  .rintro ((⟨i,hi,rfl⟩|hn)|⟨t,ht,rfl⟩)
   .exact .inl ⟨i,by omega,by rw[glo i hi]⟩
   .exact .inr hn
   .exact .inl ⟨np+t,by omega,by rw[ghi _ (by omega),show np+t-np=t from by omega]⟩
  .rintro (⟨i,hi,rfl⟩|hn)
   .by_cases hip:i<np
    .exact .inl (.inl ⟨i,hip,by rw[glo i hip]⟩)
    .exact .inr ⟨i-np,by omega,by rw[ghi i (by omega)]⟩
   .exact .inl (.inr hn)
 have hOpT:gQ P o (fV e h) (bC h) ⟨Ef (AV.renL (HW g) lr),S++FJ m,S++FJ m++NN,bC h2,NN⟩:=by
  intro φ E h' w a hrd hwr hops hrep hN;have hS':∀ i,i<np->h' (nm (ig σ i))=bC h (nm (ig σ i)):=λi hi=>hrd _ (lm _ ((memS _).2 ⟨i,hi,rfl⟩))
  have hM':∀ i,aN m i=ai->h' (nm i)=bC h (nm i):=λi hi=>hrd _ (nE _ (lE.2 hi))
  obtain⟨us,hrun,hrel⟩:=hexec φ E h' w a hops hrep
  let Hv:HF:=λn=>if n∈S++FJ m then bC hv n else h' n
  have Hv_in:∀ n,n∈S++FJ m->Hv n=bC hv n:=λn hn=>by simp only[Hv,hn,bH]
  have Hv_out:∀ n,n∉S++FJ m->Hv n=h' n:=λn hn=>by simp only[Hv,hn,ef]
  have blkS:∀ i,i<np->∀ z,bC hv (nm (ig σ i))=af z->∃ b0 b y0,h.get (ig σ i)=af b0/\l1[i]? =af (af b)/\BM (ig σ) h m b0 (lV (ig σ) b)/\kC h b0=af y0/\kC hv (lV (ig σ) b)=af z:=λi hi z Y=>by
   obtain⟨b,hb⟩:=hl1 i hi;obtain⟨b0,q1,q2⟩:=hbm i b hb;rw[bK,hv_at i b hb] at Y;simp only[aH] at Y;obtain⟨y0,hy0⟩:=BM.erB_some hinv q1 q2 Y;exact⟨b0,b,y0,q1,hb,q2,hy0,Y⟩
  have hd:vD h' Hv:=λn b hb=>by
   by_cases hn:n∈S++FJ m
   .rw[Hv_in n hn] at hb;rcases bQ.1 hn with hs|hs
    .obtain⟨i,hi,rfl⟩:=(memS n).1 hs;obtain⟨b0,b1,y0,q1,q2,q3,q4,q5⟩:=blkS i hi b hb;exact⟨y0,by rw[hS' i hi,bK,q1];exact q4⟩
    .obtain⟨i,rfl,hi⟩:=nP.1 hs;rw[dead_m i hi] at hb;cases hb
   .rw[Hv_out n hn] at hb;exact⟨b,hb⟩
  have gvv:Ed h h' Hv m:=λi hi=>⟨hM' i hi,by rw[Hv_in _ (nE _ (lE.2 hi)),dead_m i hi]⟩
  have V:KP h' Hv:=⟨hd,λn b b' hb hb'=>by
   by_cases hn:n∈S++FJ m
   .rw[Hv_in n hn] at hb';rcases bQ.1 hn with hs|hs
    .obtain⟨i,hi,rfl⟩:=(memS n).1 hs;obtain⟨b0,b1,y0,q1,q2,q3,q4,q5⟩:=blkS i hi b' hb';rw[hS' i hi,bK,q1] at hb;simp only[aH] at hb;exact BM.view hd gvv rows_in q3 hb q5
    .obtain⟨i,rfl,hi⟩:=nP.1 hs;rw[dead_m i hi] at hb';cases hb'
   .rw[Hv_out n hn,hb] at hb';cases hb';exact jX.refl hd b⟩
  have hrepv:=V.rep hrep;have hlpg:cN hv (kA (ig σ) vs)=af (AV.renL (HW (ig σ)) lp):=qI rows_hp vs lp hlp;have hrel1:jW φ (tot E φ Hv) w (AV.renL (HW (ig σ)) lp) us:=
   jW.le hrep (Dd hd rows_in c.pre.vs l x1 m1 _ la _ gv pvg hla hlpg (λi hi=>gvv i (by rw[hmm,bt,hi];rfl))) hrel
  let E':Nat->Prop:=λk=>E k\/∃ n b,Hv n=af b/\n∉S/\φ n=af k
  have T:ag4 c.pre x vs hp (ig σ) φ E E' Hv w:=by
   refine rf.toId I (λa b ha hb=>inj1 a b (by rw[<- hnp];exact ha) (by rw[<- hnp];exact hb)) hrepv (λi b Z hb hyb=>?_) ?_ ?_ ?_
   .have hi:=I.lt_len hb;rw[hnp] at hi;rw[Hv_in _ (lm _ ((memS _).2 ⟨i,hi,rfl⟩)),bK,hv_at i b ((I.at_ i b).1 hb)];exact Di rows_hp hyb
   .rintro k (hE|⟨n,b,h1,_,U⟩)
    .exact .inl hE
    .exact .inr ⟨n,b,h1,U⟩
   .rintro i k b hi h1 U (hE|⟨n,b',h4,h5,h6⟩)
    .obtain⟨k',p1,p2,_⟩:=hrepv.at_ _ _ h1;rw[U] at p1;cases p1;exact p2 hE
    .have:=hrepv.inj _ _ _ _ k h1 h4 U h6;exact h5 (by rw[<- this];exact (memS _).2 ⟨i,by rw[<- hnp];exact hi,rfl⟩)
   .rintro k (hE|⟨n,b,h1,_,U⟩)
    .exact hrepv.el k hE
    .obtain⟨k',q1,_,ob,q3,_⟩:=hrepv.at_ n b h1;rw[U] at q1;cases q1;exact (cF.1 q3).1
  have hcalls:=sp.calls x y hm vs hp l1 rs hq l2 lp lr I J hlp hlr (φ1 c.pre.bs.length (ig σ) φ) E' w us T.rep (jW.toId T.val (tH vs lp I.lt hlp) hrel1) (λn k hk=>by
   obtain⟨i,hi,rfl,_⟩:=xl hk;rw[ec];exact hi)
  unfold HA;rw[hrun];refine Calls.mono hcalls ?_;rintro en w' ⟨v,φc',rfl,hext,hown,hnm,rp,rv'⟩
  let isN:Nat->Prop:=λn=>n∈NN
  let φ':PM:=λn=>if n∈NN then φc' (nm (np+(ow n-nx))) else φ n
  have φ'_new:∀ t,t<nq-np->φ' (nm (nx+t))=φc' (nm (np+t)):=λt ht=>by
   have:nm (nx+t)∈NN:=(memN _).2 ⟨t,ht,rfl⟩;simp only[φ',this,bH,ec];rw[show nx+t-nx=t from by omega]
  have φ'_old:∀ n,n∉NN->φ' n=φ n:=λn hn=>by simp only[φ',hn,ef]
  have loN:∀ i,i<nx->nm i∉NN:=λi hi hn=>by
   obtain⟨t,_,e⟩:=(memN _).1 hn;have:=kT e;omega
  have φ'_g:∀ i,i<nq->φ' (nm (g i))=φc' (nm i):=λi hi=>by
   by_cases hip:i<np
   .rw[glo i hip,φ'_old _ (loN _ (gnx i hip)),hnm i (by rw[hnp];exact hip),ZX (by rw[hnp];exact hip)]
   .rw[ghi i (by omega),φ'_new _ (by omega),show np+(i-np)=i from by omega]
  have hsub:∀ n k,φ n=af k->φ' n=af k:=λn k hk=>by
   by_cases hn:n∈NN
   .rw[hN n hn] at hk;cases hk
   .rw[φ'_old n hn];exact hk
  let F:HF:=eV h' (S++FJ m++NN) (bC h2)
  have F_g:∀ i,i<nq->F (nm (g i))=bC h2 (nm (g i)):=λi hi=>by
   simp only[F,eV,(memW _).2 (.inl ⟨i,hi,rfl⟩),bH]
  have F_out:∀ n,n∉S++FJ m++NN->F n=h' n:=λn hn=>by simp only[F,eV,hn,ef]
  have from_:∀ n b,F n=af b->(∃ i bq Z,i<nq/\n=nm (g i)/\hq.get i=af bq/\kC hq bq=af Z/\b=Z.ren (HW g))\/(h' n=af b/\Hv n=af b/\n∉S/\n∉NN/\φ' n=φ n):=λn b hb=>by
   by_cases hn:n∈S++FJ m++NN
   .rcases (memW n).1 hn with ⟨i,hi,rfl⟩|hs
    .rw[F_g i hi] at hb;obtain⟨bq,Z,q1,q2,q3⟩:=er2' i hi b hb;exact .inl ⟨i,bq,Z,hi,rfl,q1,q2,q3⟩
    .obtain⟨i,rfl,hi⟩:=nP.1 hs;have:F (nm i)=bC h2 (nm i):=by simp only[F,eV,hn,bH]
     rw[this,dead2 i hi] at hb;cases hb
   .rw[F_out n hn] at hb;have h1:n∉S++FJ m:=λhh=>hn (lm _ hh)
    have U:n∉NN:=λhh=>hn (nE _ hh)
    exact .inr ⟨hb,by rw[Hv_out n h1];exact hb,λhh=>h1 (lm _ hh),U,φ'_old n U⟩
  have own':∀ k,own φ' F k->own φc' (bC hq) k\/∃ n b,Hv n=af b/\n∉S/\φ n=af k:=by
   rintro k ⟨n,b,h1,U⟩;rcases from_ n b h1 with ⟨i,bq,Z,hi,rfl,q1,q2,_⟩|⟨_,q2,q3,_,q5⟩
   .rw[φ'_g i hi] at U;exact .inl ⟨nm i,Z,by rw[bK,q1];exact q2,U⟩
   .exact .inr ⟨n,b,q2,q3,by rw[<- q5];exact U⟩
  have mv:i_ φ φ' h' F w w':=by
   refine ⟨hsub,hext.mono λk hk=>hd.own (T.own_ k hk),λk hk ho=>?_⟩;rcases own' k ho with h1|⟨n,b,h1,_,U⟩
   .exact hd.own (T.own_ k (hown k hk h1))
   .exact hd.own ⟨n,b,h1,U⟩
  have tot':∀ k,tot E φ' F k->tot E' φc' (bC hq) k:=by
   rintro k (h1|h1)
   .exact .inl (.inl h1)
   .rcases own' k h1 with U|U
    .exact .inr U
    .exact .inl (.inr U)
  let φr:PM:=λn=>if WJ nq n then φc' n else ah
  have rel_r:∀ x v,x.all (WJ nq)=ai->cO φc' (tot E' φc' (bC hq)) w' x v->cO φr (tot E φ' F) w' x v:=λx v hx hr=>
   hr.restrict (λi k hi hk=>by simp only[φr,hi,bH];exact hk) tot' hx
  have rel_g:∀ x v,cO φr (tot E φ' F) w' x v->cO φ' (tot E φ' F) w' (x.ren (HW g)) v:=λx v hr=>
   hr.renTo λn k hk=>by
    simp only[φr] at hk;split at hk
    .rename_i hpn;obtain⟨i,hi,rfl⟩:=aaf hpn;rw[xJ,φ'_g i hi];exact hk
    .cases hk
  have hnqJ:=hnq;refine ⟨v,φ',rfl,mv,λn k hk=>?_,?_,?_⟩
  .by_cases hn:n∈NN
   .exact .inr hn
   .rw[φ'_old n hn] at hk;exact .inl hk
  .refine ⟨λn n' b b' k h1 U h4 h5=>?_,λn b h1=>?_,λk hk=>dD (hrep.el k hk) mv.ext.size,λg' cells hg=>mv.keepF (hrep.gl g' cells hg)⟩
   .rcases from_ n b h1 with ⟨i,bq,Z,hi,rfl,q1,q2,_⟩|⟨q1,q2,q3,_,q5⟩
    .rw[φ'_g i hi] at h4;have hqi:bC hq (nm i)=af Z:=by rw[bK,q1];exact q2
     rcases from_ n' b' U with ⟨j,bj,yj,hj,rfl,t1,t2,_⟩|⟨t1,t2,t3,_,t5⟩
     .rw[φ'_g j hj] at h5;have:=rp.inj _ _ _ _ k hqi (by rw[bK,t1];exact t2) h4 h5;rw[kT this]
     .exfalso;obtain⟨k',p1,p2,_⟩:=rp.at_ _ _ hqi;rw[h4] at p1;cases p1;exact p2 (.inr ⟨n',b',t2,t3,by rw[<- t5];exact h5⟩)
    .rcases from_ n' b' U with ⟨j,bj,yj,hj,rfl,t1,t2,_⟩|⟨t1,t2,t3,_,t5⟩
     .exfalso;rw[φ'_g j hj] at h5;have hqj:bC hq (nm j)=af yj:=by rw[bK,t1];exact t2
      obtain⟨k',p1,p2,_⟩:=rp.at_ _ _ hqj;rw[h5] at p1;cases p1;exact p2 (.inr ⟨n,b,q2,q3,by rw[<- q5];exact h4⟩)
     .exact hrep.inj n n' b b' k q1 t1 (by rw[<- q5];exact h4) (by rw[<- t5];exact h5)
   .rcases from_ n b h1 with ⟨i,bq,Z,hi,rfl,q1,q2,rfl⟩|⟨q1,q2,q3,_,q5⟩
    .have hqi:bC hq (nm i)=af Z:=by rw[bK,q1];exact q2
     obtain⟨k,p1,p2,ob,p3,p4⟩:=rp.at_ _ _ hqi;have hall:=J.blk_all q1 q2;rw[hnq] at hall;exact⟨k,by rw[φ'_g i hi];exact p1,λhE=>p2 (.inl hE),ob,p3,(p4.restrict rel_r hall).renTo rel_g⟩
    .obtain⟨k,p1,p2,ob,p3,p4⟩:=hrep.at_ n b q1;have hk:k<w.heap.size:=(cF.1 p3).1;refine ⟨k,hsub n k p1,p2,ob,?_,p4.mono λx v hr=>mv.keep hr⟩;rw[hext.blk k hk ?_]
     .exact p3
     .rintro⟨n',y',t1,t2⟩;obtain⟨i,hi,rfl,t3⟩:=xl t2;obtain⟨j,bb,e,t4,t5⟩:=jy t1;have:=kT e;subst this;have hi':i<np:=by rw[<- hnp];exact hi
      have hvi:Hv (nm (ig σ i))=af (y'.ren (HW (ig σ))):=by
       rw[Hv_in _ (lm _ ((memS _).2 ⟨i,hi',rfl⟩)),bK,hv_at i bb ((I.at_ i bb).1 t4)];exact Di rows_hp t5
      have:=hrepv.inj _ _ _ _ k hvi q2 t3 p1;exact q3 (by rw[<- this];exact (memS _).2 ⟨i,hi',rfl⟩)
  .have hall:(Ef lr).all (WJ nq)=ai:=Z8 (by have:=tH rs lr J.lt hlr;rwa [hnq] at this);show cO φ' (tot E φ' F) w' (Ef (AV.renL (HW g) lr)) v;rw[Z7];exact rel_g _ _ (rel_r _ _ hall rv')
 have hrsg:cN h2 (kA g rs)=af (AV.renL (HW g) lr):=qI rows_hq rs lr hlr;refine ⟨⟨_,hOpT,λz Y=>?_,?_,λn hn=>?_,λn hn=>?_,λn hn=>?_⟩,rows2,inv2,by omega,λhs=>by cases hs⟩
 .rw[WD hrsg] at Y;cases Y;rfl
 .funext n;unfold eV;split
  .rfl
  .rename_i hn;refine (kP hinv rows2 λi e=>?_).symm;subst e;rw[h2_ne i (λk hk e=>hn ((memW _).2 (.inl ⟨k,hk,by rw[e]⟩))),iZ,ay];intro hb;exact hn ((memW _).2 (.inr (lE.2 hb)))
 .rw[bt];rcases bQ.1 hn with hs|hs
  .obtain⟨i,hi,rfl⟩:=(memS n).1 hs;rw[ec,(sig _).2 ⟨i,hi,rfl⟩];rfl
  .obtain⟨i,rfl,hi⟩:=nP.1 hs;rw[ec,hi];simp
 .rw[bt,bt];rcases bQ.1 hn with hs|hs
  .rcases bQ.1 hs with hs|hs
   .obtain⟨i,hi,rfl⟩:=(memS n).1 hs;rw[ec,(sig _).2 ⟨i,hi,rfl⟩];rfl
   .obtain⟨i,rfl,hi⟩:=nP.1 hs;rw[ec,hi];simp
  .obtain⟨t,ht,rfl⟩:=(memN n).1 hs;rw[ec,aej.2 ⟨by omega,by omega⟩];simp
 .obtain⟨t,ht,rfl⟩:=(memN n).1 hn;rw[ec];omega
mutual
def FV.fl:FV->Bool
 |.raw _=>ai
 |.agg l=>FV.flL l
 |.sl _ _=>aj
 |.ptr _ _=>aj
def FV.flL:List FV->Bool
 |[]=>ai
 |x::r=>x.fl&&FV.flL r
end
theorem Xh:∀ {l:List FV},FV.flL l=ai->∀ x∈l,x.fl=ai
 |[],_,x,I=>by cases I
 |y::l,h,x,I=>by
  simp only[FV.flL,av] at h;rcases bm.1 I with rfl|I
  .exact h.1
  .exact Xh h.2 x I
theorem abo:∀ {l:List FV},(∀ x∈l,x.fl=ai)->FV.flL l=ai
 |[],_=>rfl
 |y::l,h=>by simp only[FV.flL,av];exact⟨h y (by simp),abo λx I=>h x (by simp[I])⟩
theorem ny.flat {O O':Nat->Prop} {w w':World} {x:FV} {v:Value} (h:ny O w x v):x.fl=ai->ny O' w' x v:=by
 induction h with
 |raw v=>intro _;exact .raw v
 |nil a c hc=>intro h;cases h
 |sl cells n c b off us hn hc hO hb hcl hu hr I=>intro h;cases h
 |ptr cells o b off us hO hb hcl hu hr I=>intro h;cases h
 |agg cells vs hl hcl hr I=>intro h;exact .agg cells vs hl hcl λj x v J hv=>I j x v J hv (Xh h x (bd J))
mutual
def AV.fl:AV->Bool
 |.f x=>x.fl
 |.emp=>ai
 |.anyb=>ai
 |.agg l=>AV.flL l
 |.tup l=>AV.flL l
 |.ptr _ _=>aj
 |.sl _ _ _=>aj
 |.row _ _ _=>aj
 |.mp _=>aj
 |.clo _ _=>aj
def AV.flL:List AV->Bool
 |[]=>ai
 |x::r=>x.fl&&AV.flL r
end
theorem KN:∀ {l:List AV},AV.flL l=ai->∀ x∈l,x.fl=ai
 |[],_,x,I=>by cases I
 |y::l,h,x,I=>by
  simp only[AV.flL,av] at h;rcases bm.1 I with rfl|I
  .exact h.1
  .exact KN h.2 x I
theorem XJ:∀ {l:List AV},(∀ x∈l,x.fl=ai)->AV.flL l=ai
 |[],_=>rfl
 |y::l,h=>by simp only[AV.flL,av];exact⟨h y (by simp),XJ λx I=>h x (by simp[I])⟩
theorem cO.flat {φ φ':PM} {O O':Nat->Prop} {w w':World} {x:AV} {v:Value} (h:cO φ O w x v):x.fl=ai->cO φ' O' w' x v:=by
 induction h with
 |f h=>intro hf;exact .f (h.flat hf)
 |ptr h=>intro hf;cases hf
 |sl h hn hc=>intro hf;cases hf
 |row h hn hc hsh=>intro hf;cases hf
 |emp=>intro _;exact .emp
 |anyb=>intro _;exact .anyb
 |mp h=>intro hf;cases hf
 |agg hl hcl hr J=>intro hf;exact .agg hl hcl λj x v I hv=>J j x v I hv (KN hf x (bd I))
 |tup hl hr J=>intro hf;exact .tup hl λj x v I hv=>J j x v I hv (KN hf x (bd I))
 |clo hl hr J=>intro hf;cases hf
mutual
theorem aiz (γ:Nat->Nat):∀ x:AV,x.fl=ai->x.ren γ=x
 |.f x,_=>rfl
 |.emp,_=>rfl
 |.anyb,_=>rfl
 |.agg l,h=>by simp only[AV.ren];rw[HY γ l h]
 |.tup l,h=>by simp only[AV.ren];rw[HY γ l h]
 |.ptr _ _,h=>by cases h
 |.sl _ _ _,h=>by cases h
 |.row _ _ _,h=>by cases h
 |.mp _,h=>by cases h
 |.clo _ _,h=>by cases h
theorem HY (γ:Nat->Nat):∀ l:List AV,AV.flL l=ai->AV.renL γ l=l
 |[],_=>rfl
 |x::r,h=>by
  simp only[AV.flL,av] at h;rw[AV.renL,aiz γ x h.1,HY γ r h.2]
end
theorem Ao:∀ (T:Ty),T.flat=ai->∀ x:T.den,∀ y∈bT T x,y.fl=ai
 |.int _,_,x,y,I=>by simp only[bT,aL] at I;subst I;rfl
 |.bool,_,x,y,I=>by simp only[bT,aL] at I;subst I;rfl
 |.str,_,x,y,I=>by simp only[bT,aL] at I;subst I;rfl
 |.sl _,h,x,y,I=>by cases h
 |.st t,h,x,y,I=>Ao t h x y I
 |.pr a b,h,x,y,I=>by
  simp only[Ty.flat,av] at h;simp only[bT,bQ] at I;exact I.elim (Ao a h.1 x.1 y) (Ao b h.2 x.2 y)
 |.un,_,x,y,I=>by simp[bT] at I
 |.ex,h,_,_,_=>by cases h
 |.sm,h,_,_,_=>by cases h
theorem af9 (T:Ty) (h:T.flat=ai) (x:T.den):(gK T x).fl=ai:=by
 cases I:T.one with
 |true=>
  have:=Ao T h x (gK T x) (by rw[(Dl T x I).1];simp);exact this
 |false=>rw[qJ T x I];exact abo (Ao T h x)
theorem P' (a b:Ty):(spr a b).flat=(a.flat&&b.flat):=by
 cases a<;>cases b<;>simp[spr,G1,Ty.flat]
theorem IJ {n:Nat}:∀ {a b:List TV},rH n (a++b)=ai->rH n a=ai/\rH n b=ai
 |[],b,h=>⟨rfl,h⟩
 |x::r,b,h=>by
  simp only[gu,rH,av] at h ⊢;obtain⟨h1,h2⟩:=IJ h.2;exact⟨⟨h.1,h1⟩,h2⟩
mutual
theorem ae9 {g:Nat->Nat} {h:bi}:∀ (p:PV) (x:p.ty.den) (cs:List TV) (l:List AV),p.ty.flat=ai->pV g p x=af cs->rH 0 cs=ai->cN h cs=af l->∀ y∈l,y.fl=ai
 |.d T,x,cs,l,hf,hp,_,hl,y,hy=>by
  have:=(lM h 40 T x cs hp).1;rw[hl] at this;cases this;obtain⟨q,hq,rfl⟩:=di.1 hy;exact Ao T hf x q hq
 |.ptr i q,x,cs,l,hf,hp,hlt,hl,y,hy=>by
  simp only[pV,ak] at hp;subst hp;simp[rH,Lu] at hlt
 |.csl i q z,x,cs,l,hf,hp,hlt,hl,y,hy=>by
  simp only[pV,ak] at hp;subst hp;simp[rH,Lu] at hlt
 |.clo q i z,x,cs,l,hf,hp,hlt,hl,y,hy=>by
  simp only[pV,ak] at hp;subst hp;simp[rH,Lu] at hlt
 |.row i,x,cs,l,hf,hp,hlt,hl,y,hy=>by
  simp only[pV,ak] at hp;subst hp;simp[rH,Lu] at hlt
 |.mp i,x,cs,l,hf,hp,hlt,hl,y,hy=>by
  simp only[pV,ak] at hp;subst hp;simp[rH,Lu] at hlt
 |.nil,x,cs,l,hf,hp,hlt,hl,y,hy=>by
  simp only[pV,ak] at hp;subst hp;simp only[cN,cq,ak] at hl;subst hl;simp only[aL] at hy;subst hy;rfl
 |.emp,x,cs,l,hf,hp,hlt,hl,y,hy=>by
  simp only[pV,ak] at hp;subst hp;simp only[cN,cq,ak] at hl;subst hl;simp only[aL] at hy;subst hy;rfl
 |.agg ps,x,cs,l,hf,hp,hlt,hl,y,hy=>Ir ps x cs l hf hp hlt hl y hy
theorem Ir {g:Nat->Nat} {h:bi}:∀ (ps:List PV) (x:(PV.tyL ps).den) (cs:List TV) (l:List AV),(PV.tyL ps).flat=ai->q_ g ps x=af cs->rH 0 cs=ai->cN h cs=af l->∀ y∈l,y.fl=ai
 |[],x,cs,l,hf,hp,hlt,hl,y,hy=>by
  simp only[q_,ak] at hp;subst hp;simp only[cN,ak] at hl;subst hl;cases hy
 |p::ps,x,cs,l,hf,hp,hlt,hl,y,hy=>by
  simp only[PV.tyL] at hf;rw[P',av] at hf;simp only[q_] at hp;split at hp
  .rename_i a ha;split at hp
   .rename_i b hb;simp only[ak] at hp;subst hp;obtain⟨a',b',rfl,e1,e2⟩:=B8 hl;have hsp:=IJ hlt;rcases bQ.1 hy with hy|hy
    .exact ae9 p _ a a' hf.1 ha hsp.1 e1 y hy
    .exact Ir ps _ b b' hf.2 hb hsp.2 e2 y hy
   .cases hp
  .cases hp
end
theorem ae7 {g:Nat->Nat} {h:bi} {p:PV} {x:p.ty.den} {u:TV} {y:AV} (hf:p.ty.flat=ai) (hp:tC g p x=af u) (hlt:Lu 0 u=ai) (I:cq h u=af y):y.fl=ai:=by
 cases p with
 |d T=>
  simp only[tC,ak] at hp;subst hp;simp only[cq,ak] at I;subst I;exact af9 T hf x
 |agg ps=>
  simp only[tC] at hp;split at hp
  .rename_i l hl;simp only[ak] at hp;subst hp;simp only[cq] at I;split at I
   .rename_i M J;simp only[ak] at I;subst I;exact XJ (Ir ps _ l M hf hl hlt J)
   .cases I
  .cases hp
 |ptr i q=>simp only[tC,ak] at hp;subst hp;simp[Lu] at hlt
 |csl i q z=>simp only[tC,ak] at hp;subst hp;simp[Lu] at hlt
 |row i=>simp only[tC,ak] at hp;subst hp;simp[Lu] at hlt
 |clo q i z=>simp only[tC,ak] at hp;subst hp;simp[Lu,rH] at hlt
 |mp i=>simp only[tC,ak] at hp;subst hp;simp[Lu] at hlt
 |nil=>simp only[tC,ak] at hp;subst hp;simp only[cq,ak] at I;subst I;rfl
 |emp=>simp only[tC,ak] at hp;subst hp;simp only[cq,ak] at I;subst I;rfl
theorem Qp {g:Nat->Nat} {h:bi}:∀ (ps:List PV) (x:(PV.tyL ps).den) (us:List TV) (l:List AV),(PV.tyL ps).flat=ai->qb g ps x=af us->rH 0 us=ai->cN h us=af l->AV.flL l=ai
 |[],x,us,l,hf,hp,hlt,hl=>by
  simp only[qb,ak] at hp;subst hp;simp only[cN,ak] at hl;subst hl;rfl
 |p::ps,x,us,l,hf,hp,hlt,hl=>by
  simp only[PV.tyL] at hf;rw[P',av] at hf;simp only[qb] at hp;split at hp
  .rename_i a I;split at hp
   .rename_i b hb;simp only[ak] at hp;subst hp;obtain⟨y,l2,rfl,e1,e2⟩:=c8 hl;simp only[rH,av] at hlt;simp only[AV.flL,av];exact⟨ae7 hf.1 I hlt.1 e1,Qp ps _ b l2 hf.2 hb hlt.2 e2⟩
   .cases hp
  .cases hp
theorem adz:∀ {l:List AV},AV.flL l=ai->(Ef l).fl=ai
 |[],_=>rfl
 |[x],h=>by simp only[AV.flL,av] at h;exact h.1
 |x::y::r,h=>h
theorem afo {P:Program} {o:Oper} {e:iP} {h:bi} {nx:Nat} {f:FuncId} {c:cg} {l:List TV} (hinv:md h nx) (sp:pR P f c) {x:c.pre.ty.den} {m:Nat} {σ:PT Nat} {sm:Nat} (M:H6 0 c.pre l h x m σ sm) {vs:List TV} {hp:bi} {l1:List (Option iu)} (I:qR c.pre x vs hp l1) {y:c.post.ty.den} (hm:c.m x=af y) {rs:List TV} {hq:bi} {l2:List (Option iu)} (J:qR c.post y rs hq l2) (hp0:c.pre.bs.length=0) (hq0:c.post.bs.length=0) (hfl:(PV.tyL c.post.vs).flat=ai)
 (g:Nat->Nat) {la:List AV} (hla:cN h l=af la)
 (hexec:∀ (φ:PM) (E:Nat->Prop) (h':HF) (w:World) (a:Act),(∀ t,.tmp t∈o.op.operands->∀ y,fV e h t=af y->cO φ (tot E φ h') w y (a.tmps.getD t undef))->rf φ E h' w->∃ us:List Value,(execOp a.eval o).run P w= .ok (.enter f us.toArray) w/\jW φ (tot E φ h') w la us):
 jk P o aj e h nx (Qj (kA g rs)) m 0 h nx:=by
 obtain⟨x1,m1,x2,m2,hx,hmm,gv,gb⟩:=M.ex;have hmr:dT h m:=by rw[hmm];exact (HR _ _ _ _ gv).or (HV _ _ _ _ gb)
 have pvg:qb (ig σ) c.pre.vs x1=af (kA (ig σ) vs):=by
  have U:=tP (ig σ) c.pre.vs x1;have h4:=I.pv;rw[hx,tK] at h4;rw[U,h4];rfl
 obtain⟨lr,hlr⟩:=fy hq rs J.ok;obtain⟨Z,hlp⟩:=fy hp vs I.ok;have hfl':AV.flL lr=ai:=Qp c.post.vs _ rs lr hfl J.pv (by rw[<- hq0];exact J.lt) hlr;have hpe:∀ i,hp.get i=ah:=λi=>by
  cases hb:hp.get i with
  |none=>rfl
  |some b=>have:=I.lt_len hb;omega
 have hqe:∀ i,hq.get i=ah:=λi=>by
  cases hb:hq.get i with
  |none=>rfl
  |some b=>have:=J.lt_len hb;omega
 have rows_hp:∀ i r,eD hp i=af r->eD (eH m h) (ig σ i)=af r:=λi r hr=>by rw[bU,hpe] at hr;cases hr
 have rows_hq:∀ i r,eD hq i=af r->eD h (g i)=af r:=λi r hr=>by rw[bU,hqe] at hr;cases hr
 have rows_in:xX (eH m h) h:=λj r hr=>by
  rw[bU] at hr ⊢;rw[iZ] at hr;split at hr
  .rename_i ht;obtain⟨ty,p,T,xs,hb⟩:=hmr j ht;rw[hb] at hr ⊢;exact hr
  .exact hr
 have hOpT:gQ P o (fV e h) (bC h) ⟨Ef lr,FJ m,[],λ_=>ah,[]⟩:=by
  intro φ E h' w a hrd hwr hops hrep hN;obtain⟨us,hrun,hrel⟩:=hexec φ E h' w a hops hrep
  let Hv:HF:=λn=>if n∈FJ m then ah else h' n
  have Hv_in:∀ n,n∈FJ m->Hv n=ah:=λn hn=>by simp only[Hv,hn,bH]
  have Hv_out:∀ n,n∉FJ m->Hv n=h' n:=λn hn=>by simp only[Hv,hn,ef]
  have hd:vD h' Hv:=λn b hb=>by
   by_cases hn:n∈FJ m
   .rw[Hv_in n hn] at hb;cases hb
   .rw[Hv_out n hn] at hb;exact⟨b,hb⟩
  have gvv:Ed h h' Hv m:=λi hi=>⟨hrd _ (lE.2 hi),Hv_in _ (lE.2 hi)⟩
  have V:KP h' Hv:=⟨hd,λn b b' hb Y=>by
   by_cases hn:n∈FJ m
   .rw[Hv_in n hn] at Y;cases Y
   .rw[Hv_out n hn,hb] at Y;cases Y;exact jX.refl hd b⟩
  have hrepv:=V.rep hrep;have hlpg:cN (eH m h) (kA (ig σ) vs)=af (AV.renL (HW (ig σ)) Z):=qI rows_hp vs Z hlp;have hrel1:jW φ (tot E φ Hv) w (AV.renL (HW (ig σ)) Z) us:=
   jW.le hrep (Dd hd rows_in c.pre.vs l x1 m1 _ la _ gv pvg hla hlpg (λi hi=>gvv i (by rw[hmm,bt,hi];rfl))) hrel
  let E':Nat->Prop:=λk=>E k\/∃ n b,Hv n=af b/\φ n=af k
  have T:ag4 c.pre x vs hp (ig σ) φ E E' Hv w:=by
   refine rf.toId I (λa b ha=>by omega) hrepv (λi b yb hb=>by rw[hpe] at hb;cases hb) ?_ (λi k b hi=>by omega) ?_
   .rintro k (hE|⟨n,b,h1,U⟩)
    .exact .inl hE
    .exact .inr ⟨n,b,h1,U⟩
   .rintro k (hE|⟨n,b,h1,U⟩)
    .exact hrepv.el k hE
    .obtain⟨k',q1,_,ob,q3,_⟩:=hrepv.at_ n b h1;rw[U] at q1;cases q1;exact (cF.1 q3).1
  have hcalls:=sp.calls x y hm vs hp l1 rs hq l2 Z lr I J hlp hlr (φ1 c.pre.bs.length (ig σ) φ) E' w us T.rep (jW.toId T.val (tH vs Z I.lt hlp) hrel1) (λn k hk=>by
   obtain⟨i,hi,rfl,_⟩:=xl hk;rw[ec];exact hi)
  unfold HA;rw[hrun];refine Calls.mono hcalls ?_;rintro en w' ⟨v,φc',rfl,hext,hown,hnm,rp,rv'⟩;have hno:∀ k,¬own (φ1 c.pre.bs.length (ig σ) φ) (bC hp) k:=by
   rintro k ⟨n,b,h1,_⟩;obtain⟨i,bb,_,U,_⟩:=jy h1;rw[hpe] at U;cases U
  have mv:i_ φ φ h' h' w w':=⟨λ_ _ h=>h,hext.mono λk hk=>cR hk (hno k),λ_ _ h=>h⟩
  refine ⟨v,φ,rfl,?_,λ_ _ h=>.inl h,?_,?_⟩
  .rw[t7];exact mv
  .rw[t7];refine hrep.moved mv λk hk=>?_
   obtain⟨n,b,h1,U⟩:=hk;obtain⟨k',q1,_,ob,q3,_⟩:=hrep.at_ n b h1;rw[U] at q1;cases q1;exact hext.blk k (cF.1 q3).1 (hno k)
  .exact rv'.flat (adz hfl')
 have hrsg:cN h (kA g rs)=af (AV.renL (HW g) lr):=qI rows_hq rs lr hlr;refine ⟨⟨_,hOpT,λz hz=>?_,?_,λn hn=>?_,by simp,by simp⟩,λ_ _ h=>h,hinv,bW _,λhs=>by cases hs⟩
 .rw[WD hrsg,HY _ lr hfl'] at hz;cases hz;rfl
 .exact t7 _ _
 .obtain⟨i,rfl,hi⟩:=nP.1 hn;rw[ec];exact hi
def cg.full (c:cg):cg:=⟨c.pre,⟨c.post.vs,c.pre.bs⟩,λx=>obind (c.m x) λy=>af (Un (PV.tyL c.post.vs) (PB.tyL c.pre.bs) (OM _ _ y) (Ll _ _ x))⟩
def aI (P:Program) (f:FuncId) (c:cg):Prop:=if eM c.pre.bs.length c.post.bs.length=ai then pR P f c else pR P f c.full
theorem pR.toC {P:Program} {f:FuncId} {c:cg} (h:pR P f c) (hb:eM c.pre.bs.length c.post.bs.length=ai):aI P f c:=by
 unfold aI;rw[aF hb];exact h
theorem aI.holds {P:Program} {f:FuncId} {c:cg} (h:aI P f c) (hb:eM c.pre.bs.length c.post.bs.length=ai):pR P f c:=by
 unfold aI at h;rw[aF hb] at h;exact h
theorem aem (a b:Ty) (z:(spr a b).den):Un a b (OM a b z) (Ll a b z)=z:=by cases a<;>cases b<;>rfl
open Classical in
def roM {pre:Tm} {vs:List PV} (m:pre.ty.den->Option (Tm.ty ⟨vs,pre.bs⟩).den) (x:pre.ty.den):Option (Tm.ty ⟨vs,[]⟩).den:=
 obind (m x) λy=>if Ll (PV.tyL vs) (PB.tyL pre.bs) y=Ll _ _ x then af (Un (PV.tyL vs) (PB.tyL []) (OM (PV.tyL vs) (PB.tyL pre.bs) y) ()) else ah
theorem aI.ro {P:Program} {f:FuncId} {pre:Tm} {vs:List PV} {m:pre.ty.den->Option (Tm.ty ⟨vs,pre.bs⟩).den} {m':pre.ty.den->Option (Tm.ty ⟨vs,[]⟩).den} (h:pR P f ⟨pre,⟨vs,pre.bs⟩,m⟩) (hb:eM pre.bs.length 0=aj) (hs:∀ x y,m' x=af y->roM m x=af y):aI P f ⟨pre,⟨vs,[]⟩,m'⟩:=by
 unfold aI;rw[ay (by show ¬eM pre.bs.length 0=ai;rw[hb];exact Bool.false_ne_true)];refine ⟨h.callable,λx y hxy=>?_⟩;refine h.calls x y ?_;have hxy:obind (m' x) (λy=>af (Un (PV.tyL vs) (PB.tyL pre.bs) (OM (PV.tyL vs) (PB.tyL []) y) (Ll _ _ x)))=af y:=hxy;obtain⟨z,M,hzy⟩:=dK hxy;have h1:=hs x z M;unfold roM at h1;obtain⟨y0,J,h2⟩:=dK h1;split at h2
 .rename_i heq;have h2:=jS h2;have hzy:=jS hzy;subst h2;have I:Un (PV.tyL vs) (PB.tyL pre.bs) (OM (PV.tyL vs) (PB.tyL pre.bs) y0) (Ll (PV.tyL pre.vs) (PB.tyL pre.bs) x)=y:=(gO (λq=>Un (PV.tyL vs) (PB.tyL pre.bs) q (Ll (PV.tyL pre.vs) (PB.tyL pre.bs) x)) (tK (PV.tyL vs) (PB.tyL []) _ ()).symm).trans hzy;rw[<- heq] at I;have:=(aem (PV.tyL vs) (PB.tyL pre.bs) y0).symm.trans I;exact J.trans (gO af this)
 .cases h2
theorem jk.drop {P:Program} {o:Oper} {e:iP} {h h':bi} {nx nx':Nat} {v:TV} {rd wr W wr':Nat} (t:jk P o aj e h nx v rd wr h' nx') (hW:∀ i,aN W i=ai->bC h' (nm i)=bC h (nm i)/\aN rd i=ai) (M:∀ i,aN wr i=ai->aN W i=ai\/aN wr' i=ai):jk P o aj e h nx v rd wr' h' nx':=by
 obtain⟨⟨f,h1,h2,J,h4,h5,Z⟩,r,i,g,st⟩:=t;have hs:∀ n,aN W (ow n)=ai->bC h' n=bC h n:=λn hn=>by
  by_cases I:∃ i,n=nm i
  .obtain⟨i,rfl⟩:=I;rw[ec] at hn;exact (hW i hn).1
  .rw[wP h I,wP h' I]
 have hup:∀ H:HF,(∀ n∈f.wr,H n=bC h n)->eV H (f.wr.filter λn=> !(aN W (ow n))) f.nw=eV H f.wr f.nw:=λH Y=>by
  funext n;unfold eV;by_cases hn:n∈f.wr
  .by_cases hb:aN W (ow n)=ai
   .rw[ay (by simp[hb]),aF hn];have:=congrFun J n;unfold eV at this;rw[aF hn,hs n hb] at this;rw[this,Y n hn]
   .rw[aF (by simp[hn,hb]),aF hn]
  .rw[ay (by simp[hn]),ay hn]
 refine ⟨⟨⟨f.val,f.rd++(f.wr.filter λn=>aN W (ow n)),f.wr.filter λn=> !(aN W (ow n)),f.nw,f.N⟩,?_,h2,?_,λn hn=>?_,λn hn=>?_,Z⟩,r,i,g,λhs=>by cases hs⟩
 .intro φ E H w a hrd hwr hops hrep U;have k1:∀ i∈f.rd,H i=bC h i:=λi hi=>hrd i (lm _ hi)
  have k2:∀ i∈f.wr,H i=bC h i:=λi hi=>by
   cases hb:aN W (ow i) with
   |true=>exact hrd i (nE _ (by simp[hi,hb]))
   |false=>exact hwr i (by simp[hi,hb])
  have:=h1 φ E H w a k1 k2 hops hrep U;simp only[hup H k2];exact this
 .simp only[hup (bC h) (λ_ _=>rfl)];exact J
 .rcases bQ.1 hn with hn|hn
  .exact h4 n hn
  .simp only[xj] at hn;exact (hW _ hn.2).2
 .simp only[xj,eA] at hn;rcases M _ (h5 n hn.1) with hh|hh
  .rw[hn.2] at hh;cases hh
  .exact hh
mutual
theorem aav {n n':Nat} (hle:n<=n'):∀ (v:TV),Lu n v=ai->Lu n' v=ai
 |.row id,h=>by simp only[Lu,Nat.blt_eq] at h ⊢;omega
 |.rtl id _,h=>by simp only[Lu,Nat.blt_eq] at h ⊢;omega
 |.pel id _ _ _,h=>by simp only[Lu,Nat.blt_eq] at h ⊢;omega
 |.ptr id _,h=>by simp only[Lu,Nat.blt_eq] at h ⊢;omega
 |.csl id _ _,h=>by simp only[Lu,Nat.blt_eq] at h ⊢;omega
 |.mp id,h=>by simp only[Lu,Nat.blt_eq] at h ⊢;omega
 |.agg l,h=>wH hle l h
 |.tup l,h=>wH hle l h
 |.clo _ l,h=>wH hle l h
 |.f _ _,_=>rfl
 |.fel _ _ _ _ _,_=>rfl
 |.emp,_=>rfl
 |.nil,_=>rfl
 |.undef,_=>rfl
 |.np,_=>rfl
 |.anyb,_=>rfl
theorem wH {n n':Nat} (hle:n<=n'):∀ (l:List TV),rH n l=ai->rH n' l=ai
 |[],_=>rfl
 |x::r,h=>by
  simp only[rH,av] at h ⊢;exact⟨aav hle x h.1,wH hle r h.2⟩
end
theorem MW {g g':Nat->Nat} {h:bi}:∀ (bs:List PB) (i:Nat) (x:(PB.tyL bs).den) (m:Nat),H5 bs=ai->AW g h i bs=af (x,m)->∃ l,oC g' bs x=af l/\l.length=bs.length/\∀ j,j<bs.length->∃ ty p T xs,l[j]? =af (af (.rows ty p T xs))/\h.get (g (i+j))=af (.rows ty p T xs)
 |[],i,x,m,_,hg=>⟨[],rfl,rfl,λj hj=>by simp at hj⟩
 |.rows ty p T::r,i,x,m,I,hg=>by
  simp only[AW] at hg;split at hg
  .rename_i x1 m1 h1;split at hg
   .rename_i x2 m2 h2;simp only[ak,aD] at hg;obtain⟨rfl,rfl⟩:=hg;obtain⟨l,q1,q2,q3⟩:=MW (g:=g) (g':=g') (h:=h) r (i+1) x2 m2 I h2;simp only[E3] at h1;split at h1
    .rename_i ty' U S xs hb;split at h1
     .rename_i hc;simp only[av,c5] at hc;obtain⟨rfl,rfl⟩:=hc;split at h1
      .rename_i z J;simp only[ak] at h1;obtain⟨rfl,_⟩:=h1;obtain⟨es,M⟩:=ji J;cases es;subst M;refine ⟨af (.rows ty p T x1)::l,?_,by simp[q2],λj hj=>?_⟩
       .simp only[oC];rw[tK,ve,q1];rfl
       .cases j with
        |zero=>exact⟨ty,p,T,_,rfl,hb⟩
        |succ j=>
         obtain⟨a,b,c,d,w1,w2⟩:=q3 j (by simpa using hj);exact⟨a,b,c,d,by simpa using w1,by rw[show i+(j+1)=i+1+j from by omega];exact w2⟩
      .cases h1
     .cases h1
    .cases h1
   .cases hg
  .cases hg
 |.rowsP _ _::r,i,x,m,I,hg=>by cases I
 |.cells _ _::r,i,x,m,I,hg=>by cases I
 |.mp _ _::r,i,x,m,I,hg=>by cases I
 |.gone::r,i,x,m,I,hg=>by cases I
theorem FI:∀ {bs:List PB},H5 bs=ai->BO bs=ai
 |[],_=>rfl
 |.rows _ _ _::r,h=>FI (bs:=r) h
 |.rowsP _ _::r,h=>by cases h
 |.cells _ _::r,h=>by cases h
 |.mp _ _::r,h=>by cases h
 |.gone::r,h=>by cases h
theorem FC {h h2:bi} {g:Nat->Nat}:∀ (n:Nat),(∀ i,i<n->h2.get (g i)=h.get (g i))->t8 h h2 g n=ai
 |0,_=>rfl
 |n+1,hs=>by
  simp only[t8,av];refine ⟨?_,FC n λi hi=>hs i (by omega)⟩;have:eD h2 (g n)=eD h (g n):=by rw[bU,bU,hs n (by omega)]
  rw[this];cases eD h (g n) with
  |none=>rfl
  |some q=>obtain⟨p,s,k⟩:=q;simp
def La (P:Program) (con:FuncId->Option cg):Prop:=∀ f c,con f=af c->aI P f c
theorem XA {R:Type} {P:Program} {con:FuncId->Option cg} (hcon:La P con) {o:Oper} {e:iP} {h:bi} {nx:Nat} {f:FuncId} {l:List TV} {K:KO R} {r:R} (hinv:md h nx) (hk:XB con f l h nx K=af r) {la:List AV} (hla:cN h l=af la)
 (hexec:∀ (φ:PM) (E:Nat->Prop) (h':HF) (w:World) (a:Act),D_ P f->(∀ t,.tmp t∈o.op.operands->∀ y,fV e h t=af y->cO φ (tot E φ h') w y (a.tmps.getD t undef))->rf φ E h' w->∃ us:List Value,(execOp a.eval o).run P w= .ok (.enter f us.toArray) w/\jW φ (tot E φ h') w la us):kR P o aj e h nx K r:=by
 unfold XB at hk;split at hk
 .rename_i c hc;have spc:=hcon f c hc;split at hk
  .rename_i x m σ sm hM;split at hk
   .rename_i q hq;obtain⟨vs,hp⟩:=q;obtain⟨l1,I⟩:=wK hq;obtain⟨y,hy,hk⟩:=dK hk;split at hk
    .rename_i q2 hq2;obtain⟨rs1,Y⟩:=q2;obtain⟨l2,J⟩:=wK hq2;split at hk
     .rename_i hcond;simp only[av] at hcond;have hle:=a8 hcond.1;have sp:=spc.holds hcond.1;simp only at hk;split at hk
      .rename_i rs hrs;have hrs':=hrs;rw[tP,J.pv] at hrs';simp only[ch,ak] at hrs';split at hk
       .rename_i hb;simp only[av] at hb;have Z:=aw hb.1.2;refine ⟨_,_,_,_,_,hk,?_⟩;rw[<- hrs'];exact afo hinv sp (wE hM) I hy J (by omega) Z hb.2 _ hla λφ E h' w a=>hexec φ E h' w a sp.callable
       .split at hk
        .rename_i h2 U;obtain⟨hsr,hk⟩:=dY hk;refine ⟨_,_,_,_,_,hk,?_⟩;rw[<- hrs'];unfold MF at U;rw[wh,J.pb] at U;simp only[ch,ak] at U;exact ac7 hinv sp (wE hM) I hcond.2 hy J hle (λi hi=>by
          have:gp i c.pre.bs.length=ai:=bE hi;simp only[this,bH]) (λi hi=>by
          have:gp i c.pre.bs.length=aj:=by
           cases hb:gp i c.pre.bs.length with
           |false=>rfl
           |true=>have:=a8 hb;omega
          simp only[this];rfl) U.symm hsr hla λφ E h' w a=>hexec φ E h' w a sp.callable
        .cases hk
      .cases hk
     .rename_i hcond;split at hk
      .rename_i hro;simp only[av] at hro;have Z:=aw hro.1;have hng:=FI hro.2;have sp:pR P f c.full:=by
        unfold aI at spc
        rwa [ay (λhb=>hcond (by rw[hb,hng];rfl))] at spc
       simp only at hk;split at hk
       .rename_i rs hrs;split at hk
        .rename_i h2 U;have hrs':=hrs;rw[tP,J.pv] at hrs';simp only[ch,ak] at hrs';refine ⟨_,_,_,_,_,hk,?_⟩;rw[<- hrs'];have M:=wE hM;unfold MF at U;rw[wh,I.pb] at U;simp only[ch,ak] at U;have hqe:∀ i,Y.get i=ah:=λi=>by
          cases hb:Y.get i with
          |none=>rfl
          |some b=>have:=J.lt_len hb;omega
         have J':qR c.full.post (Un (PV.tyL c.post.vs) (PB.tyL c.pre.bs) (OM _ _ y) (Ll _ _ x)) rs1 hp l1:=
          ⟨by show qb HP c.post.vs (OM (PV.tyL c.post.vs) (PB.tyL c.pre.bs) _)=_;rw[tK];exact J.pv,by show oC HP c.pre.bs (Ll (PV.tyL c.post.vs) (PB.tyL c.pre.bs) _)=_;rw[ve];exact I.pb,I.len,I.at_,iW (λi r hr=>by rw[bU,hqe] at hr;cases hr) _ J.ok,wH (by omega) _ J.lt,I.cells⟩
         obtain⟨x1,m1,x2,m2,hx,hmm,gv,gb⟩:=M.ex;obtain⟨l,q1,q2,q3⟩:=MW (g':=HP) c.pre.bs 0 x2 m2 hro.2 gb;have hl1:l1=l:=by
          have:=I.pb;rw[hx,ve,q1] at this;cases this;rfl
         subst hl1;have hgi:∀ i,i<c.pre.bs.length->(if gp i c.pre.bs.length then ig σ i else nx+(i-c.pre.bs.length))=ig σ i:=λi hi=>by
          have:gp i c.pre.bs.length=ai:=bE hi;simp only[this,bH]
         have hsame:∀ i,i<c.pre.bs.length->h2.get (ig σ i)=h.get (ig σ i):=λi hi=>by
          obtain⟨ty,p,T,xs,w1,w2⟩:=q3 i hi;rw[bN] at w2;have:=vk (λi=>if gp i c.pre.bs.length then ig σ i else nx+(i-c.pre.bs.length)) (l1.map (lQ (lV (λi=>if gp i c.pre.bs.length then ig σ i else nx+(i-c.pre.bs.length))))) 0 (eH m h) (λa b ha hb e=>by
           simp only[bR,q2] at ha hb;rw[bN,bN,hgi a ha,hgi b hb] at e;exact M.inj a b ha hb e) i (af (.rows ty p T xs)) (by rw[ba,w1];rfl)
          rw[bN,hgi i hi] at this;rw[<- U,this,w2]
         have t:=ac7 (o:=o) (e:=e) hinv sp M I hng (y:=Un (PV.tyL c.post.vs) (PB.tyL c.pre.bs) (OM _ _ y) (Ll _ _ x)) (by show obind (c.m x) _=_;rw[hy];rfl) J' (bW _) (g:=λi=>if gp i c.pre.bs.length then ig σ i else nx+(i-c.pre.bs.length)) hgi (λi hi=>by
          have:gp i c.pre.bs.length=aj:=by
           cases hb:gp i c.pre.bs.length with
           |false=>rfl
           |true=>have:=a8 hb;have hi:c.pre.bs.length<=i:=hi;omega
          simp only[this];rfl) U.symm (FC _ λi hi=>by rw[hgi i hi];exact hsame i hi) hla λφ E h' w a=>hexec φ E h' w a sp.callable
         have t':jk P o aj e h nx (Qj (kA (λi=>if gp i c.pre.bs.length then ig σ i else nx+(i-c.pre.bs.length)) rs1)) (sm|||m) (sm|||m|||(((1<<<(c.pre.bs.length-c.pre.bs.length))-1)<<<nx)) h2 (nx+(c.pre.bs.length-c.pre.bs.length)):=t;rw[HB,dv] at t';refine t'.drop (W:=sm) (λi hi=>?_) (λi hi=>?_)
         .refine ⟨?_,by rw[bt,hi];rfl⟩;obtain⟨k,hk,rfl⟩:=(M.sig i).1 hi;obtain⟨ty,p,T,xs,_,w2⟩:=q3 k hk;rw[bN] at w2;rw[bK,bK,hsame k hk,w2];rfl
         .simp only[Nat.shiftLeft_zero,HB,Nat.zero_shiftLeft,Nat.or_zero,bt,iV] at hi;exact hi
        .cases hk
       .cases hk
      .cases hk
    .cases hk
   .cases hk
  .cases hk
 .cases hk
theorem aif {R:Type} {P:Program} {con:FuncId->Option cg} (hcon:La P con) {bX:TypeId->Option Ty} {o:Oper} {e:iP} {h:bi} {nx:Nat} {i:SI} {K:KO R} {r:R} (hinv:md h nx) (hi:tN e h) (hc:yE P o.op=i) (hk:dW con bX i e h nx K=af r):kR P o i.still e h nx K r:=by
 have callOps:∀ (c:Call),o.op= .call c->∀ x,x∈c.operands->x∈o.op.operands:=λc I x J=>by rw[I];exact J
 cases i with
 |call f args=>
  simp only[dW] at hk;split at hk
  .rename_i l hl;have I:∃ c:Call,o.op= .call c/\c.callee= .value (.func f)/\c.args.toList=args:=by
    unfold yE at hc;split at hc
    .rename_i i hi;subst hc;unfold Po at hi;split at hi
     .rename_i c I;split at hi
      .rename_i g hg;simp only[ak,SI.call.injEq] at hi;exact⟨c,I,by rw[hg,hi.1],hi.2⟩
      .simp at hi
      .cases hi
     .cases hi
    .split at hc<;>cases hc
   obtain⟨c,I,h1,h2⟩:=I;obtain⟨la,Z,Y⟩:=yX hi hl;refine XA hcon hinv hk Y λφ E h' w a hcb hops hrep=>?_
   have hp:Wc φ E h' w a (Jx e h) o:=λx y J U=>tL hrep (by rw[vw];exact hops) J U
   refine ⟨args.map a.eval,?_,OT hp args la (λx J=>callOps c I x (by simp[eU,h1,<-h2] at J ⊢;exact .inr J)) Z⟩;unfold execOp;rw[I];have hm:c.args.map a.eval=(args.map a.eval).toArray:=by rw[<- h2];apply Lf;simp
   simp[resolve,h1,Act.eval,Deferred.ofValue,invoke,hm,xo hcb]
  .cases hk
 |callv x args=>
  simp only[dW] at hk;split at hk
  .rename_i f cap l J hl;have I:∃ c:Call,o.op= .call c/\c.callee= .value x/\c.args.toList=args:=by
    unfold yE at hc;split at hc
    .rename_i i hi;subst hc;unfold Po at hi;split at hi
     .rename_i c I;split at hi
      .simp at hi
      .rename_i g hg;simp only[ak,SI.callv.injEq] at hi;exact⟨c,I,by rw[hg,hi.1],hi.2⟩
      .cases hi
     .cases hi
    .split at hc<;>cases hc
   obtain⟨c,I,h1,h2⟩:=I;obtain⟨la,Z,Y⟩:=yX hi hl;obtain⟨yx,g3,M⟩:=bM hi J;simp only[cq] at M;split at M
   .rename_i lc hlc;simp only[ak] at M;subst M;refine XA hcon hinv hk (nk Y hlc) λφ E h' w a hcb hops hrep=>?_
    have hp:Wc φ E h' w a (Jx e h) o:=λx y J U=>tL hrep (by rw[vw];exact hops) J U
    have hxv:=hp x _ (callOps c I x (by simp[eU,h1])) g3;have hlv:=OT hp args la (λx J=>callOps c I x (by simp[eU,h1,<-h2] at J ⊢;exact .inr J)) Z;generalize hz:a.eval x=z at hxv;cases hxv with
    |@clo _ _ vs hvl hvr=>
     refine ⟨args.map a.eval++vs,?_,hlv.append (jW.of hvl hvr)⟩;unfold execOp;rw[I];have hm:c.args.map a.eval=(args.map a.eval).toArray:=by rw[<- h2];apply Lf;simp
     simp[resolve,h1,hz,Deferred.ofValue,invoke,hm,xo hcb]
   .cases M
  .cases hk
 |op s=>
  have hc:s= .bad\/du P o.op=af s:=by
   unfold yE at hc;split at hc
   .rename_i i hi;subst hc;unfold Po at hi;split at hi
    .split at hi<;>simp at hi
    .cases hi
   .split at hc
    .rename_i q hq;simp only[SI.op.injEq] at hc;subst hc;exact .inr hq
    .simp only[SI.op.injEq] at hc;exact .inl hc.symm
  rcases hc with rfl|hc
  .simp[dW] at hk
  .exact K_op hinv hi hc hk
def gx (am:Nat) (e e':iP):Prop:=∀ k,aN am k=aj->∀ I,e'.get k=af I->∃ v,e.get k=af v/\(ur v=ai->I=v)
theorem gx.refl (am:Nat) (e:iP):gx am e e:=λ_ _ I h=>⟨I,h,λ_=>rfl⟩
theorem gx.trans {am:Nat} {a b c:iP} (h1:gx am a b) (h2:gx am b c):gx am a c:=λk hk I hv=>by
 obtain⟨v1,Y,U⟩:=h2 k hk I hv;obtain⟨v,M,J⟩:=h1 k hk v1 Y;refine ⟨v,M,λhf=>?_⟩;have:=J hf;subst this;exact U hf
theorem gx.mono {am am':Nat} {a b:iP} (h:gx am a b) (hm:∀ k,aN am k=ai->aN am' k=ai):gx am' a b:=λk hk=>h k (by
 cases I:aN am k with
 |false=>rfl
 |true=>rw[hm k I] at hk;cases hk)
structure acu (P:Program) (ops:Array Oper) (rest:List Oper) (sl:List sL) (am:Nat) (s s':TS) (fs:List FPm) (l:List (Oper×Bx)):Prop where
 ops_:l.map (·.1)=rest
 chain:zZ P ops l (fV s.e s.h) (bC s.h) (fV s'.e s'.h) (bC s'.h)
 fsl:fs.length=l.length
 sll:sl.length=l.length
 fp:∀ (j:Nat) o f q,l[j]? =af (o,f)->fs[j]? =af q->(∀ n∈f.rd,aN q.rd (ow n)=ai)/\∀ n∈f.wr,aN q.wr (ow n)=ai
 still:∀ (j:Nat) o f so,l[j]? =af (o,f)->sl[j]? =af so->so.op.still=ai->f.rd=[]/\f.wr=[]
 names:∀ (j:Nat) o f,l[j]? =af (o,f)->∀ n∈f.N,s.nx<=ow n/\ow n<s'.nx
 apart_:∀ (i j:Nat) oi fi oj fj,i<j->l[i]? =af (oi,fi)->l[j]? =af (oj,fj)->∀ n∈fi.N,n∉fj.N
 grows:s.nx<=s'.nx
 invH:md s'.h s'.nx
 invE:tN s'.e s'.h
 keeps:gx am s.e s'.e
theorem ae8 {e:iP} {h h':bi} (hi:tN e h) (hr:co h h') (d:Option Nat) {v:TV} {y:AV} (hv:cq h' v=af y):CJ (fV e h) d y=fV (El e d v) h':=by
 funext t;have old:(e.get t).bind (cq h)=(e.get t).bind (cq h'):=by
  cases ht:e.get t with
  |none=>rfl
  |some x=>
   obtain⟨z,I⟩:=qd h x (hi t x ht);simp only[aH,I,gF hr x z I]
 cases d with
 |none=>simp only[CJ,El,fV];rw[ay (by simp)];exact old
 |some d=>
  simp only[CJ,El,fV,PT.get_set,ak];by_cases hd:d=t
  .subst hd;simp[hv]
  .rw[ay hd,ay (λe=>hd e.symm)];exact old
theorem tN.put {e:iP} {h h':bi} (hi:tN e h) (hr:co h h') (d:Option Nat) {v:TV} (hv:Ls h' v=ai):tN (El e d v) h':=λt x I=>by
 cases d with
 |none=>exact oD hr x (hi t x I)
 |some d=>
  simp only[El,PT.get_set] at I;split at I
  .cases I;exact hv
  .exact oD hr x (hi t x I)
theorem Rw {e:iP} {h:bi} {t:Nat} {v:TV} (ht:e.get t=af v):fV (e.set t (af v)) h=fV e h:=by
 funext k;simp only[fV,PT.get_set];by_cases hk:k=t
 .subst hk;simp[ht]
 .rw[ay hk]
theorem tN.set {e:iP} {h:bi} {t:Nat} {v:TV} (hi:tN e h) (ht:e.get t=af v):tN (e.set t (af v)) h:=λk x I=>by
 rw[PT.get_set] at I;split at I
 .rename_i hk;subst hk;cases I;exact hi _ _ ht
 .exact hi k x I
theorem TQ {R:Type} {e:iP} {g:Option (Nat×Bool)} {K:Bool->iP->Option R} {r:R} (h:Z2 e g K=af r):
 (g=ah/\K ai e=af r)\/(∃ t want b,g=af (t,want)/\e.get t=af (.f .bool b)/\K (b==want) (e.set t (af (.f .bool b)))=af r)\/∃ t want,g=af (t,want)/\e.get t=af .undef/\K aj e=af r:=by
 unfold Z2 at h;split at h
 .exact .inl ⟨rfl,h⟩
 .rename_i t want;split at h
  .rename_i b hb;refine .inr (.inl ⟨t,want,b,rfl,hb,?_⟩);cases want with
   |true=>rcases pw h with ⟨rfl,h⟩|⟨rfl,h⟩<;>exact h
   |false=>rcases pw h with ⟨rfl,h⟩|⟨rfl,h⟩<;>exact h
  .rename_i hb;exact .inr (.inr ⟨t,want,rfl,hb,h⟩)
  .cases h
theorem Iu {R:Type} {P:Program} {con:FuncId->Option cg} (hcon:La P con) {bX:TypeId->Option Ty} {ops:Array Oper} {am:Nat} (ham:∀ (j:Nat) (o:Oper) (d:Nat),ops[j]? =af o->o.dst=af d->aN am d=ai):
 ∀ (rest:List Oper) (sl:List sL) (s:TS) (fs:List FPm) (K:TS->List FPm->Option R) (r:R),(∀ o∈rest,∃ j:Nat,ops[j]? =af o)->r9 P ops rest=af sl->Lp con bX sl s fs K=af r->md s.h s.nx->tN s.e s.h->∃ s' fs' l,K s' (fs.reverse++fs')=af r/\acu P ops rest sl am s s' fs' l
 |[],sl,s,fs,K,r,hin,hc,hk,hH,M=>by
  simp only[r9,ak] at hc;subst hc;simp only[Lp] at hk;exact⟨s,[],[],by simpa using hk,rfl,.nil _ _,rfl,rfl,by simp,by simp,by simp,by simp,bW _,hH,M,gx.refl _ _⟩
 |o::rest,sl,s,fs,K,r,hin,hc,hk,hH,M=>by
  simp only[r9] at hc;split at hc
  .rename_i sl' hsl';have hso:∃ g,sl=⟨o.dst,yE P o.op,g⟩::sl'/\((g=ah/\o.guard=ah)\/∃ j want t,g=af (t,want)/\o.guard=af (j,want)/\(ops[j]?).bind (·.dst)=af t):=by
    split at hc
    .rename_i hg;simp only[ak] at hc;exact⟨ah,hc.symm,.inl ⟨rfl,hg⟩⟩
    .rename_i j want hg;split at hc
     .rename_i t ht;simp only[ak] at hc;exact⟨af (t,want),hc.symm,.inr ⟨j,want,t,rfl,hg,ht⟩⟩
     .cases hc
   obtain⟨g,rfl,hg⟩:=hso;simp only[Lp] at hk;have hdst:∀ d,o.dst=af d->aN am d=ai:=λd hd=>by
    obtain⟨j,hj⟩:=hin o (dj ..);exact ham j o d hj hd
   have hgs:∀ t want,g=af (t,want)->aN am t=ai:=λt want hgt=>by
    rcases hg with ⟨h1,_⟩|⟨j,want',t',h1,_,I⟩
    .rw[h1] at hgt;cases hgt
    .rw[h1] at hgt;cases hgt;cases hj:ops[j]? with
     |none=>rw[hj] at I;cases I
     |some oj=>rw[hj] at I;exact ham j oj t hj I
   have kput:∀ (e:iP) (v:TV),gx am s.e e->gx am s.e (El e o.dst v):=λe v hke k hk v' hv=>by
    cases hd:o.dst with
    |none=>rw[hd] at hv;exact hke k hk v' hv
    |some d=>
     rw[hd] at hv;simp only[El,PT.get_set] at hv;split at hv
     .rename_i e2;rw[e2,hdst d hd] at hk;cases hk
     .exact hke k hk v' hv
   have done:∀ (f:Bx) (v:TV) (h':bi) (nx' rd wr:Nat) (e:iP),fV e s.h=fV s.e s.h->tN e s.h->gx am s.e e->KQ P ops o f (fV s.e s.h) (bC s.h)->(∃ y,cq h' v=af y/\f.val=y)->eV (bC s.h) f.wr f.nw=bC h'->(∀ n∈f.rd,aN rd (ow n)=ai)->(∀ n∈f.wr,aN wr (ow n)=ai)->(∀ n∈f.N,s.nx<=ow n/\ow n<nx')->co s.h h'->md h' nx'->s.nx<=nx'->((yE P o.op).still=ai->f.rd=[]/\f.wr=[])->
    Lp con bX sl' ⟨El e o.dst v,h',nx'⟩ (⟨rd,wr⟩::fs) K=af r->∃ s' fs' l,K s' (fs.reverse++fs')=af r/\acu P ops (o::rest) (⟨o.dst,yE P o.op,g⟩::sl') am s s' fs' l:=by
    intro f v h' nx' rd wr e hee hiE hke hst hval hheap hrd hwr hN hrows hinv' hgr hstill hrun;obtain⟨y,U,hy2⟩:=hval;obtain⟨s',fs',l,J,L⟩:=Iu hcon ham rest sl' _ _ K r (λo' ho'=>hin o' (cI _ ho')) hsl' hrun hinv' (hiE.put hrows o.dst (E8 _ _ _ U));have hg2:nx'<=s'.nx:=L.grows;refine ⟨s',⟨rd,wr⟩::fs',(o,f)::l,by simpa using J,by simp[L.ops_],.cons hst ?_,by simp[L.fsl],by simp[L.sll],?_,?_,?_,?_,dh hgr hg2,L.invH,L.invE,(kput e v hke).trans L.keeps⟩
    .have e1:CJ (fV s.e s.h) o.dst f.val=fV (El e o.dst v) h':=by rw[<- hee,hy2];exact ae8 hiE hrows o.dst U
     rw[e1,hheap];exact L.chain
    .intro j o' f' q' h1 h2;cases j with
     |zero=>simp at h1 h2;obtain⟨rfl,rfl⟩:=h1;subst h2;exact⟨hrd,hwr⟩
     |succ j=>exact L.fp j o' f' q' (by simpa using h1) (by simpa using h2)
    .intro j o' f' so h1 h2 I;cases j with
     |zero=>simp at h1 h2;obtain⟨rfl,rfl⟩:=h1;subst h2;exact hstill I
     |succ j=>exact L.still j o' f' so (by simpa using h1) (by simpa using h2) I
    .intro j o' f' h1 n hn;cases j with
     |zero=>
      simp at h1;obtain⟨rfl,rfl⟩:=h1;have:=hN n hn;exact⟨this.1,by omega⟩
     |succ j=>
      have:=L.names j o' f' (by simpa using h1) n hn;exact⟨dh hgr this.1,this.2⟩
    .intro i j oi fi oj fj hij h1 h2 n hn Y;cases j with
     |zero=>omega
     |succ j=>
      have hj:=L.names j oj fj (by simpa using h2) n Y;cases i with
      |zero=>
       simp at h1;obtain⟨rfl,rfl⟩:=h1;have I:=(hN n hn).2;have Z:nx'<=ow n:=hj.1;omega
      |succ i=>exact L.apart_ i j oi fi oj fj (by omega) (by simpa using h1) (by simpa using h2) n hn Y
   have runs:∀ (e:iP),fV e s.h=fV s.e s.h->tN e s.h->gx am s.e e->(∀ f,gQ P o (fV s.e s.h) (bC s.h) f->KQ P ops o f (fV s.e s.h) (bC s.h))->dW con bX (yE P o.op) e s.h s.nx (λv rd wr h nx=>if Ls h v then Lp con bX sl' ⟨El e o.dst v,h,nx⟩ (⟨rd,wr⟩::fs) K else ah)=af r->∃ s' fs' l,K s' (fs.reverse++fs')=af r/\acu P ops (o::rest) (⟨o.dst,yE P o.op,g⟩::sl') am s s' fs' l:=by
    intro e hee hiE hke hstep hk;obtain⟨v,rd,wr,h',nx',J,T⟩:=aif hcon hH hiE rfl hk;simp only[] at J;split at J
    .rename_i hok;obtain⟨f,t1,t2,t3,t4,t5,t6⟩:=T.ex;rw[hee] at t1;obtain⟨y,hy⟩:=qd h' v hok;refine done f v h' nx' rd wr e hee hiE hke (hstep f t1) ⟨y,hy,t2 y hy⟩ t3 t4 t5 t6 T.rows T.inv T.grows (λhs=>?_) J;obtain⟨r0,w0⟩:=T.st hs;subst r0;subst w0;constructor
     .cases hl:f.rd with
      |nil=>rfl
      |cons n q=>have:=t4 n (by rw[hl];simp);simp at this
     .cases hl:f.wr with
      |nil=>rfl
      |cons n q=>have:=t5 n (by rw[hl];simp);simp at this
    .cases J
   have skips:∀ (e:iP),fV e s.h=fV s.e s.h->tN e s.h->gx am s.e e->KQ P ops o rU (fV s.e s.h) (bC s.h)->Lp con bX sl' ⟨El e o.dst .undef,s.h,s.nx⟩ (⟨0,0⟩::fs) K=af r->∃ s' fs' l,K s' (fs.reverse++fs')=af r/\acu P ops (o::rest) (⟨o.dst,yE P o.op,g⟩::sl') am s s' fs' l:=by
    intro e hee hiE hke hstep hk;exact done rU .undef s.h s.nx 0 0 e hee hiE hke hstep ⟨_,rfl,rfl⟩ (by funext i;simp[eV,rU]) (by simp[rU]) (by simp[rU]) (by simp[rU]) (co.refl _) hH (bW _) (λ_=>⟨rfl,rfl⟩) hk
   rcases TQ hk with ⟨h1,hk⟩|⟨t,want,b,h1,hb,hk⟩|⟨t,want,h1,hb,hk⟩
   .refine runs s.e rfl M (gx.refl _ _) (λf hf=>?_) hk;rcases hg with ⟨_,hg⟩|⟨j,want,t,h2,_,_⟩
    .exact .run hg hf
    .rw[h1] at h2;cases h2
   .rcases hg with ⟨h2,_⟩|⟨j,want',t',h2,I,Z⟩
    .rw[h1] at h2;cases h2
    .rw[h1] at h2;cases h2;have hgt:=hgs t want h1;have heb:fV s.e s.h t=af (.f (.raw (.bool b))):=by simp only[fV,hb,aH,cq];rfl
     have hke:gx am s.e (s.e.set t (af (.f .bool b))):=λk hk v' hv=>by
      rw[PT.get_set] at hv;split at hv
      .rename_i ek;rw[ek,hgt] at hk;cases hk
      .exact⟨v',hv,λ_=>rfl⟩
     cases hbw:(b==want) with
     |true=>
      rw[hbw] at hk;have:b=want:=by simpa using hbw
      subst this;exact runs _ (Rw hb) (M.set hb) hke (λf hf=>.runG j t b I Z heb hf) hk
     |false=>
      rw[hbw] at hk;refine skips _ (Rw hb) (M.set hb) hke (.skip j t want I Z (.bool b) heb ?_ rfl) hk;intro hv;cases hv;simp at hbw
   .rcases hg with ⟨h2,_⟩|⟨j,want',t',h2,I,Z⟩
    .rw[h1] at h2;cases h2
    .rw[h1] at h2;cases h2;exact skips _ rfl M (gx.refl _ _) (.skip j t want I Z undef (by simp only[fV,hb,aH,cq]) (by unfold undef;simp) rfl) hk
  .cases hc
theorem aei {P:Program} {ops:Array Oper} {sl:List sL} {am:Nat} {s s':TS} {fs:List FPm} {l:List (Oper×Bx)} {prs:List (Nat×Nat)} (hl:acu P ops ops.toList sl am s s' fs l) (hp:MG ops sl=af prs) (hok:FE fs prs=ai):NIP ops l:=by
 unfold MG at hp;simp only[] at hp;split at hp
 .rename_i hall;simp only[gw,ll,av] at hall;simp only[ak] at hp;have hop:∀ (j:Nat) o f,l[j]? =af (o,f)->ops[j]? =af o:=λj o f hj=>by
   have h1:(l.map (·.1))[j]? =af o:=by rw[ba,hj];rfl
   rw[hl.ops_] at h1;simpa using h1
  have hsize:∀ (j:Nat) o,ops[j]? =af o->j<ops.size:=λj o h=>(cF.1 h).1
  have hprs:∀ i j,(i,j)∈prs->∃ a b,fs[i]? =af a/\fs[j]? =af b/\DI a.wr b.rd=ai/\DI a.wr b.wr=ai/\DI b.wr a.rd=ai:=by
   clear hp hall;induction prs with
   |nil=>intro i j h;cases h
   |cons p prs ih=>
    obtain⟨i0,j0⟩:=p;simp only[FE,av,Xe] at hok;intro i j hm;rcases bm.1 hm with h|h
    .cases h;have h1:=hok.1;split at h1
     .rename_i a b U hb;simp only[av] at h1;exact⟨a,b,U,hb,h1.1.1,h1.1.2,h1.2⟩
     .cases h1
    .exact ih hok.2 i j h
  refine ⟨λj o Y e he hb=>?_,λi j oi fi oj fj hij hi hj=>?_,hl.apart_⟩
  .have:=(hall j (hsize j o Y)).1;rw[Y] at this;simp only[Option.all_some,gw] at this;have:=this e (by simpa using he);simp[hb] at this;exact this
  .have h1:=hop i oi fi hi;have h2:=hop j oj fj hj;have hcase:=(hall j (hsize j oj h2)).2 i hij;rw[h1,h2] at hcase;simp only[iV] at hcase;by_cases M:aN ((KC ops.toList []).getD j 0) i=ai
   .left;rw[aA] at M;cases I:(KC ops.toList [])[j]? with
    |none=>rw[I] at M;simp at M
    |some B=>
     rw[I] at M;exact Nu (ops:=ops) ops.toList [] (λj o hj=>by simpa using hj) (λj B hj=>by simp at hj) j B I i (by simpa using M)
   .right;have hap:=hcase.resolve_left M;refine ⟨hap,?_⟩;have hil:i<l.length:=(bl.1 hi).1;have hjl:j<l.length:=(bl.1 hj).1;have hsi:=aB (show i<sl.length by rw[hl.sll];exact hil);have hsj:=aB (show j<sl.length by rw[hl.sll];exact hjl);by_cases hst:(sl[i]'(by rw[hl.sll];exact hil)).op.still=ai
    .obtain⟨q1,q2⟩:=hl.still i oi fi _ hi hsi hst;rw[q1,q2];exact⟨(λx I=>by cases I),(λx _ I=>by cases I)⟩
    .by_cases hst2:(sl[j]'(by rw[hl.sll];exact hjl)).op.still=ai
     .obtain⟨q1,q2⟩:=hl.still j oj fj _ hj hsj hst2;rw[q1,q2];exact⟨(λx I=>⟨(by simp),(by simp)⟩),(λx I=>by cases I)⟩
     .have hmem:(i,j)∈prs:=by
       rw[<- hp,uY];refine ⟨j,ll.2 (hsize j oj h2),?_⟩;rw[List.mem_filterMap];refine ⟨i,ll.2 hij,?_⟩;rw[ay];rw[hsi,hsj];simp only[iV,not_or];exact⟨M,hst,hst2⟩
      obtain⟨a,b,U,hb,d1,d2,d3⟩:=hprs i j hmem;obtain⟨f1,f2⟩:=hl.fp i oi fi a hi U;obtain⟨g1,Z⟩:=hl.fp j oj fj b hj hb;refine ⟨λx I=>⟨λJ=>?_,λJ=>?_⟩,λx I J=>?_⟩
      .have:=xS d1 (ow x) (f2 x I);rw[g1 x J] at this;cases this
      .have:=xS d2 (ow x) (f2 x I);rw[Z x J] at this;cases this
      .have:=xS d3 (ow x) (Z x I);rw[f1 x J] at this;cases this
 .cases hp
structure oP (P:Program) (E:Nat->Prop) (nt np:Nat) (φ:PM) (s:TS) (a:Act) (w:World):Prop where
 rep:rf φ E (bC s.h) w
 env:NC φ (tot E φ (bC s.h)) w (fV s.e s.h) a
 dom:∀ n k,φ n=af k->ow n<s.nx
 low:np<=s.nx
 invH:md s.h s.nx
 invE:tN s.e s.h
 inert:∀ d∈a.defers,ada P d
 size:a.tmps.size=nt
structure Cm (np:Nat) (φ φ':PM) (H H':HF) (w w':World):Prop where
 ext:K7 (own φ H) w w'
 own_:∀ k,k<w.heap.size->own φ' H' k->own φ H k
 par:∀ i,i<np->φ' (nm i)=φ (nm i)
theorem Cm.refl (np:Nat) (φ:PM) (H:HF) (w:World):Cm np φ φ H H w w:=⟨K7.refl _ _,λ_ _ h=>h,λ_ _=>rfl⟩
theorem Cm.trans {np:Nat} {φ φ' φ'':PM} {H H' H'':HF} {w w' w'':World} (a:Cm np φ φ' H H' w w') (b:Cm np φ' φ'' H' H'' w' w''):Cm np φ φ'' H H'' w w'' where
 ext:=⟨b.ext.os.trans a.ext.os,b.ext.tape.trans a.ext.tape,b.ext.output.trans a.ext.output,dh a.ext.size b.ext.size,
  λk hk I=>(b.ext.blk k (dD hk a.ext.size) (λh=>I (a.own_ k hk h))).trans (a.ext.blk k hk I),
  λk hk=>(b.ext.shp k (dD hk a.ext.size)).trans (a.ext.shp k hk)⟩
 own_:=λk hk h=>a.own_ k hk (b.own_ k (dD hk a.ext.size) h)
 par:=λi hi=>(b.par i hi).trans (a.par i hi)
theorem aaa {R:Type} {P:Program} {E:Nat->Prop} {nt np:Nat} {φ:PM} {s:TS} {a:Act} {w:World} {con:FuncId->Option cg} {bX:TypeId->Option Ty} (hm:P.follows .mixedOrders=ai) (hcon:La P con) (c:oP P E nt np φ s a w) {id:Nat} {ops:Array Oper} {draw:Bool} {sl:List sL} {prs:List (Nat×Nat)} {am:Nat} (ham:∀ (j:Nat) (o:Oper) (d:Nat),ops[j]? =af o->o.dst=af d->aN am d=ai)
 (hd:(ops.toList.all λo=>match o.dst with|some d=>decide (d<nt)|none=>ai)=ai) (hc:r9 P ops ops.toList=af sl) (hp:MG ops sl=af prs) {K:TS->Option R} {r:R} (hr:Lp con bX sl s [] (λs' fs=>if FE fs prs then K s' else ah)=af r) {Q:Exit->Act->World->Prop}
 (hQ:∀ a' w' s' φ',K s'=af r->oP P E nt np φ' s' a' w'->Cm np φ φ' (bC s.h) (bC s'.h) w w'->gx am s.e s'.e->Q .normal a' w'):(Code.region id ops draw).wp P Q a w:=by
 obtain⟨s',fs',l,J,L⟩:=Iu hcon ham ops.toList sl s [] _ r (λo U=>by
  obtain⟨j,hj⟩:=fc U;exact⟨j,by simpa using hj⟩) hc hr c.invH c.invE
 have J:(if FE fs' prs then K s' else ah)=af r:=J;by_cases hok:FE fs' prs=ai
 .rw[aF hok] at J;refine Ql (φ0:=φ) (E:=E) hm L.ops_ L.chain (aei L hp hok) ?_ ?_ c.rep c.env ?_
  .intro n hn;obtain⟨p,I,hn⟩:=uY.1 hn;obtain⟨j,hj⟩:=fc I;have:=L.names j p.1 p.2 hj n hn;cases M:φ n with
   |none=>rfl
   |some k=>have:=c.dom n k M;omega
  .intro j o U d Y;have:=gw.1 hd o (by have:=Array.mem_of_getElem? U;simpa using this);rw[Y] at this;rw[c.size];simpa using this
  .rintro a' w' ⟨φ',m',d',Z,en',df',sz'⟩;have hnm:∀ n k,φ' n=af k->φ n=af k\/(s.nx<=ow n/\ow n<s'.nx):=λn k hik=>by
    rcases d' n k hik with h|h
    .exact .inl h
    .obtain⟨p,I,hn⟩:=uY.1 h;obtain⟨j,hj⟩:=fc I;exact .inr (L.names j p.1 p.2 hj n hn)
   have hg:=L.grows;have hlow:=c.low;refine hQ a' w' s' φ' J ⟨Z,en',λn k hik=>?_,by omega,L.invH,L.invE,by rw[df'];exact c.inert,by rw[sz'];exact c.size⟩ ⟨m'.ext,m'.own_,λi hi=>?_⟩ L.keeps
   .rcases hnm n k hik with h|h
    .have:=c.dom n k h;omega
    .exact h.2
   .cases M:φ (nm i) with
    |some k=>exact m'.sub _ _ M
    |none=>
     cases hy:φ' (nm i) with
     |none=>rfl
     |some k=>
      rcases hnm (nm i) k hy with h|h
      .rw[M] at h;cases h
      .rw[ec] at h;omega
 .rw[ay hok] at J;cases J
theorem zV:∀ (l:List sL) (acc:Nat),Pr l acc=acc|||Pr l 0
 |[],acc=>by simp[Pr]
 |o::r,acc=>by
  simp only[Pr];cases o.dst with
  |none=>exact zV r acc
  |some d=>simp only[];rw[zV r (acc|||kQ d),zV r (0|||kQ d),yG,kF]
theorem Ai:∀ (l:List Nat) (acc:Nat),Lv l acc=acc|||Lv l 0
 |[],acc=>by simp[Lv]
 |k::r,acc=>by simp only[Lv];rw[Ai r (acc|||kQ k),Ai r (0|||kQ k),yG,kF]
theorem mb:∀ (l:List Adj) (acc:Nat),ox l acc=acc|||ox l 0
 |[],acc=>by simp[ox]
 |.nil k _ _::r,acc=>by simp only[ox];rw[mb r (acc|||kQ k),mb r (0|||kQ k),yG,kF]
 |.cel _ _ _ _::r,acc=>by simp only[ox];exact mb r acc
 |.mpt _ _ _::r,acc=>by simp only[ox];exact mb r acc
 |.ren k _::r,acc=>by simp only[ox];rw[mb r (acc|||kQ k),mb r (0|||kQ k),yG,kF]
 |.pk _ _ _::r,acc=>by simp only[ox];exact mb r acc
theorem iG:∀ (c:TC) (acc:Nat),c.asg acc=acc|||c.asg 0
 |.reg ops _,acc=>zV ops acc
 |.seq a b,acc=>by simp only[TC.asg];rw[iG b (a.asg acc),iG b (a.asg 0),iG a acc,kF]
 |.jseq A a b,acc=>by simp only[TC.asg];rw[iG b (a.asg _),iG b (a.asg (Lv A.ks 0)),iG a (Lv A.ks acc),iG a (Lv A.ks 0),Ai A.ks acc,kF,kF,kF]
 |.cond _ a b,acc=>by simp only[TC.asg];rw[iG b (a.asg acc),iG b (a.asg 0),iG a acc,kF]
 |.block _ b,acc=>iG b acc
 |.jblock A _ b,acc=>by simp only[TC.asg];rw[iG b (Lv A.ks acc),iG b (Lv A.ks 0),Ai A.ks acc,kF]
 |.loop A b,acc=>by simp only[TC.asg];rw[iG b (Lv A.ks acc),iG b (Lv A.ks 0),Ai A.ks acc,kF]
 |.defer _ _ t,acc=>by simp[TC.asg]
 |.adj l c,acc=>by simp only[TC.asg];rw[iG c (ox l acc),iG c (ox l 0),mb l acc,kF]
 |.split _ _ _ _ c,acc=>iG c acc
 |.unl _ b,acc=>iG b acc
 |.skip,acc=>by simp[TC.asg]
 |.exit _,acc=>by simp[TC.asg]
 |.ret,acc=>by simp[TC.asg]
 |.bad,acc=>by simp[TC.asg]
theorem vC {c:TC} {acc k:Nat} (h:aN (c.asg 0) k=ai):aN (c.asg acc) k=ai:=by rw[iG,bt,h];simp
theorem kl {c:TC} {acc k:Nat} (h:aN acc k=ai):aN (c.asg acc) k=ai:=by rw[iG,bt,h];rfl
theorem W1:∀ {l:List Nat} {acc k:Nat},k∈l->aN (Lv l acc) k=ai
 |[],_,_,h=>by cases h
 |x::r,acc,k,h=>by
  simp only[Lv];rcases bm.1 h with rfl|h
  .rw[Ai,bt,bt,bY.2 rfl];simp
  .exact W1 h
theorem SK:∀ {l:List sL} {acc:Nat} {o:sL} {d:Nat},o∈l->o.dst=af d->aN (Pr l acc) d=ai
 |[],_,_,_,h,_=>by cases h
 |x::r,acc,o,d,h,hd=>by
  simp only[Pr];rcases bm.1 h with rfl|h
  .rw[hd];simp only[];rw[zV,bt,bt,bY.2 rfl];simp
  .exact SK h hd
theorem Xb:∀ {e:iP} {ks:List Nat} {vs:List TV},nV e ks=af vs->vs.length=ks.length/\∀ (j k:Nat),ks[j]? =af k->∃ v,vs[j]? =af v/\e.get k=af v
 |e,[],vs,h=>by simp only[nV,ak] at h;subst h;exact⟨rfl,by simp⟩
 |e,k::r,vs,h=>by
  simp only[nV] at h;split at h
  .rename_i v hv;split at h
   .rename_i l hl;simp only[ak] at h;subst h;obtain⟨h1,h2⟩:=Xb hl;refine ⟨by simp[h1],λj k' hj=>?_⟩;cases j with
    |zero=>simp at hj;subst hj;exact⟨v,rfl,hv⟩
    |succ j=>simpa using h2 j k' (by simpa using hj)
   .cases h
  .cases h
theorem Ix {e:iP} {h:bi} (hi:tN e h):∀ {ks:List Nat} {vs:List TV},nV e ks=af vs->kS h vs=ai
 |[],vs,hg=>by simp only[nV,ak] at hg;subst hg;rfl
 |k::r,vs,hg=>by
  simp only[nV] at hg;split at hg
  .rename_i v hv;split at hg
   .rename_i l hl;simp only[ak] at hg;subst hg;simp only[kS,av];exact⟨hi k v hv,Ix hi hl⟩
   .cases hg
  .cases hg
theorem Cz:∀ {e:iP} {ks:List Nat} {vs:List TV},vs.length=ks.length->∀ t v,(XY e ks vs).get t=af v->(∃ j:Nat,ks[j]? =af t/\vs[j]? =af v)\/(t∉ks/\e.get t=af v)
 |e,[],[],_,t,v,h=>.inr ⟨by simp,h⟩
 |e,[],_::_,hl,t,v,h=>by simp at hl
 |e,_::_,[],hl,t,v,h=>by simp at hl
 |e,k::r,u::l,hl,t,v,h=>by
  simp only[XY,PT.get_set] at h;split at h
  .rename_i I;subst I;cases h;exact .inl ⟨0,rfl,rfl⟩
  .rename_i I;rcases Cz (by simpa using hl) t v h with ⟨j,h1,h2⟩|⟨h1,h2⟩
   .exact .inl ⟨j+1,by simpa using h1,by simpa using h2⟩
   .exact .inr ⟨by simp[I,h1],h2⟩
theorem tU {am:Nat} {e:iP}:∀ {ks:List Nat} {k:Nat} {v:TV},(C2 am e ks).get k=af v->k∈ks/\e.get k=af v/\ur v=ai/\aN am k=aj
 |[],k,v,h=>by simp[C2,PT.get] at h
 |x::r,k,v,h=>by
  simp only[C2] at h;split at h
  .rename_i u hu;split at h
   .rename_i hc;simp only[av,eA] at hc;rw[PT.get_set] at h;split at h
    .rename_i I;subst I;cases h;exact⟨by simp,hu,hc.1,hc.2⟩
    .obtain⟨h1,h2⟩:=tU h;exact⟨by simp[h1],h2⟩
   .obtain⟨h1,h2⟩:=tU h;exact⟨by simp[h1],h2⟩
  .obtain⟨h1,h2⟩:=tU h;exact⟨by simp[h1],h2⟩
theorem IR {am:Nat} {e0 e:iP}:∀ {ks:List Nat},HN am e0 e ks=ai->∀ k v,k∈ks->e0.get k=af v->ur v=ai->aN am k=aj->∃ J,e.get k=af J
 |[],_,k,v,h,_,_,_=>by cases h
 |x::r,hc,k,v,h,hv,hf,I=>by
  simp only[HN,av] at hc;rcases bm.1 h with rfl|h
  .have h1:=hc.1;rw[hv] at h1;simp only[hf,I,Bool.not_true,Bool.false_or] at h1;cases M:e.get k with
   |none=>rw[M] at h1;cases h1
   |some u=>exact⟨u,rfl⟩
  .exact IR hc.2 k v h hv hf I
section walk
variable {P:Program} {E:Nat->Prop} {nt np:Nat}
theorem Ru {h:bi} {v:TV} {y:AV} (hn:aep v=ai) (I:cq h v=af y):Le y .emp:=by
 cases v with
 |nil=>simp only[cq,ak] at I;subst I;exact Le.nilEmp
 |emp=>simp only[cq,ak] at I;subst I;exact Le.refl _
 |_=>cases hn
theorem XK {φ:PM} {s:TS} {a:Act} {w:World} (c:oP P E nt np φ s a w) (ty:TypeId) (T:Ty):oP P E nt np φ ⟨s.e,s.h.set s.nx (af (.rows ty ai T [])),s.nx+1⟩ a w/\bC (s.h.set s.nx (af (.rows ty ai T [])))=bC s.h/\co s.h (s.h.set s.nx (af (.rows ty ai T []))):=by
 have hfr:=c.invH.fresh;have hr:co s.h (s.h.set s.nx (af (.rows ty ai T []))):=co.set λr hr=>by rw[bU,hfr] at hr;cases hr
 have J:bC (s.h.set s.nx (af (.rows ty ai T [])))=bC s.h:=by
  funext n;by_cases hn:n=nm s.nx
  .subst hn;rw[bK,bK,PT.get_set,aF rfl,hfr];rfl
  .refine kP c.invH hr λi e=>?_
   subst e;rw[PT.get_set,ay (λe=>hn (by rw[e]))]
 refine ⟨⟨by rw[J];exact c.rep,?_,λn k hk=>Ab (c.dom n k hk),iz c.low,c.invH.set hr (Cj _) (Nat.le_succ _) (λ_ _ he=>by cases he),?_,c.inert,c.size⟩,J,hr⟩
 .intro t x I;rw[J];simp only[fV] at I;cases he:s.e.get t with
  |none=>rw[he] at I;cases I
  |some q=>
   rw[he] at I;obtain⟨z,M⟩:=qd s.h q (c.invE t q he);simp only[aH,gF hr q z M,ak] at I;subst I;exact c.env t _ (by simp only[fV,he,aH,M])
 .intro t x I;exact oD hr x (c.invE t x I)
theorem yY {h:bi}:∀ {a b:List TV},kS h a=ai->kS h b=ai->kS h (a++b)=ai
 |[],_,_,hb=>hb
 |x::r,b,I,hb=>by
  simp only[kS,av] at I;simp only[gu,kS,av];exact⟨I.1,yY I.2 hb⟩
theorem MH {h:bi}:∀ {a:List TV} (n:Nat),kS h a=ai->kS h (a.take n)=ai
 |[],n,_=>by simp[kS]
 |x::r,0,_=>rfl
 |x::r,n+1,I=>by
  simp only[kS,av] at I;simp only[vW,kS,av];exact⟨I.1,MH n I.2⟩
theorem MI {h:bi}:∀ {a:List TV} (n:Nat),kS h a=ai->kS h (a.drop n)=ai
 |[],n,_=>by simp[kS]
 |x::r,0,I=>I
 |x::r,n+1,I=>by
  simp only[kS,av] at I;simp only[vY];exact MI n I.2
theorem yT {α:Type} {l:List α} {j:Nat} {x:α} (h:l[j]? =af x):splice l j [x]=l:=by
 have hl:j<l.length:=by
  rcases b9 j l.length with h'|h'
  .exact h'
  .rw[bS h'] at h;cases h
 rw[aB hl,ak] at h;unfold splice;subst h;simp
theorem acl {φ:PM} {s:TS} {a:Act} {w:World} (c:oP P E nt np φ s a w) {id cty j:Nat} {l:List TV} {v u:TV} (hb:s.h.get id=af (.cells cty l)) (hv:l[j]? =af v) (hn:aep v=ai) (hu:cq s.h u=af .emp) (huo:Ls s.h u=ai):
 oP P E nt np φ ⟨s.e,s.h.set id (af (.cells cty (splice l j [u]))),s.nx⟩ a w/\Cm np φ φ (bC s.h) (bC (s.h.set id (af (.cells cty (splice l j [u]))))) w w:=by
 have hr:co s.h (s.h.set id (af (.cells cty (splice l j [u])))):=co.set λr hr=>by rw[bU,hb] at hr;cases hr
 have hlo:=c.invH.cells id cty l hb;obtain⟨J,M⟩:=fy s.h l hlo;have hsp:cN s.h (splice l j [u])=af (splice J j [.emp]):=sG j M (by simp only[cN,hu]);have hsp':cN (s.h.set id (af (.cells cty (splice l j [u])))) (splice l j [u])=af (splice J j [.emp]):=hP hr _ _ hsp;obtain⟨y,hy,hey⟩:=l_ M j v hv;have hold:bC s.h (nm id)=af ⟨cty,.mx J⟩:=by rw[bK,hb];simp only[aH,kC,M]
 have hnew:bC (s.h.set id (af (.cells cty (splice l j [u])))) (nm id)=af ⟨cty,.mx (splice J j [.emp])⟩:=by
  rw[bK,PT.get_set,aF rfl];simp only[aH,kC,hsp']
 have hoth:∀ n,n≠nm id->bC (s.h.set id (af (.cells cty (splice l j [u])))) n=bC s.h n:=λn Y=>by
  refine kP c.invH hr λi e=>?_
  subst e;rw[PT.get_set,ay (λe=>Y (by rw[e]))]
 have hdom:vD (bC s.h) (bC (s.h.set id (af (.cells cty (splice l j [u]))))):=λn b U=>by
  by_cases e:n=nm id
  .subst e;exact⟨_,hold⟩
  .rw[hoth n e] at U;exact⟨b,U⟩
 have hcell:∀ x∈J,x.isCell=ai:=λx I=>by
  obtain⟨k,hk⟩:=fc I;obtain⟨q,_,_,hat⟩:=c.rep.at_ _ _ hold;unfold XS at hat;obtain⟨ob,_,hob⟩:=hat;rw[pD rfl] at hob;obtain⟨arr,_,hca⟩:=hob;exact (hca.2 k x hk).1
 have hV:KP (bC s.h) (bC (s.h.set id (af (.cells cty (splice l j [u]))))):=⟨hdom,λn b b' h1 h2=>by
  by_cases e:n=nm id
  .subst e;rw[hold] at h1;cases h1;rw[hnew] at h2;cases h2;refine jX.cells rfl rfl ?_ λx I=>?_
   .show ii _ _ J (splice J j [.emp]);have:=ii.splice j (ii.refl hdom J) (b:=[y]) (b':=[.emp]) ⟨(Ru hn hey).toH hdom,trivial⟩;rw[yT hy] at this;exact this
   .have I:x∈splice J j [.emp]:=I;unfold splice at I;rw[bQ,bQ,aL] at I;rcases I with (I|I)|I
    .exact hcell x (gY I)
    .subst I;rfl
    .exact hcell x (List.mem_of_mem_drop I)
  .rw[hoth n e,h1] at h2;cases h2;exact jX.refl hdom b⟩
 refine ⟨⟨hV.rep c.rep,?_,c.dom,c.low,c.invH.set hr (c.invH.low id _ hb) (bW _) (λty l2 he=>?_),?_,c.inert,c.size⟩,⟨K7.refl _ _,λk _ ho=>hdom.own ho,λ_ _=>rfl⟩⟩
 .intro t x I;simp only[fV] at I;cases he:s.e.get t with
  |none=>rw[he] at I;cases I
  |some q=>
   rw[he] at I;obtain⟨z,Z⟩:=qd s.h q (c.invE t q he);simp only[aH,gF hr q z Z,ak] at I;subst I;exact (c.env t _ (by simp only[fV,he,aH,Z])).dom hdom
 .simp only[iu.cells.injEq] at he;obtain⟨_,rfl⟩:=he;refine iW hr _ ?_;unfold splice;exact yY (yY (MH _ hlo) (by simp only[kS,huo,kK])) (MI _ hlo)
 .intro t x I;exact oD hr x (c.invE t x I)
theorem oP.congr {φ:PM} {s s':TS} {a:Act} {w:World} (c:oP P E nt np φ s a w) (he:∀ t,s'.e.get t=s.e.get t) (hh:∀ i,s'.h.get i=s.h.get i) (hn:s'.nx=s.nx):oP P E nt np φ s' a w/\bC s'.h=bC s.h:=by
 have hr:co s.h s'.h:=λi r hi=>by rw[bU] at hi ⊢;rw[hh];exact hi
 have J:bC s'.h=bC s.h:=by funext n;exact kP c.invH hr λi _=>hh i
 refine ⟨⟨by rw[J];exact c.rep,?_,by rw[hn];exact c.dom,by rw[hn];exact c.low,⟨λi ty l hg=>?_,λi b hg=>?_⟩,λt v hv=>?_,c.inert,c.size⟩,J⟩
 .intro t x I;rw[J];simp only[fV,he] at I;cases hg:s.e.get t with
  |none=>rw[hg] at I;cases I
  |some v=>
   rw[hg] at I;obtain⟨z,M⟩:=qd s.h v (c.invE t v hg);simp only[aH,gF hr v z M,ak] at I;subst I;exact c.env t _ (by simp only[fV,hg,aH,M])
 .rw[hh] at hg;exact iW hr l (c.invH.cells i ty l hg)
 .rw[hh] at hg;rw[hn];exact c.invH.low i b hg
 .rw[he] at hv;exact oD hr v (c.invE t v hv)
theorem Qb {R:Type} {v:Int} {f:Nat->Option R} {r:R}:∀ {m i:Nat},spl v f i m=af r->∃ j,v=aO j/\f j=af r
 |0,i,h=>by cases h
 |m+1,i,h=>by
  simp only[spl] at h;rcases pw h with ⟨h1,h2⟩|⟨_,h2⟩
  .exact⟨i,bn h1,h2⟩
  .exact Qb h2
theorem aa6 {φ:PM} {s s':TS} {a:Act} {w:World} (c:oP P E nt np φ s a w) {k off:Nat} {kd:IntKind} {v:Int} (h1:ab2 s k off=af (kd,v)) (h2:T6 s k off kd v=af s'):oP P E nt np φ s' a w/\bC s'.h=bC s.h/\∀ t,s'.e.get t=s.e.get t:=by
 unfold ab2 at h1;unfold T6 at h2;cases hk:s.e.get k with
 |none=>rw[hk] at h1;cases h1
 |some x=>
  rw[hk] at h1 h2;cases x with
  |f T q=>
   cases T with
   |int kd'=>
    simp only[ak,aD] at h1;obtain⟨rfl,rfl⟩:=h1;simp only[ak] at h2;subst h2;have he:∀ t,(s.e.set k (af (.f (.int kd') q))).get t=s.e.get t:=λt=>by
     rw[PT.get_set];split
     .rename_i e;subst e;exact hk.symm
     .rfl
    obtain⟨J,I⟩:=c.congr (s':=⟨s.e.set k (af (.f (.int kd') q)),s.h,s.nx⟩) he (λ_=>rfl) rfl;exact⟨J,I,he⟩
   |_=>cases h1
  |ptr a0 o0=>
   simp only[] at h1 h2;cases hb:s.h.get a0 with
   |none=>rw[hb] at h1;cases h1
   |some b=>
    rw[hb] at h1 h2;cases b with
    |cells ty l=>
     simp only[] at h1 h2;cases hl:l[o0+off]? with
     |none=>rw[hl] at h1;cases h1
     |some y=>
      rw[hl] at h1;cases y with
      |f T q=>
       cases T with
       |int kd'=>
        simp only[ak,aD] at h1;obtain⟨rfl,rfl⟩:=h1;simp only[ak] at h2;subst h2;have hh:∀ i,(s.h.set a0 (af (.cells ty (splice l (o0+off) [.f (.int kd') q])))).get i=s.h.get i:=λi=>by
         rw[PT.get_set];split
         .rename_i e;subst e;rw[hb,yT hl]
         .rfl
        obtain⟨J,I⟩:=c.congr (s':=⟨s.e,s.h.set a0 (af (.cells ty (splice l (o0+off) [.f (.int kd') q]))),s.nx⟩) (λ_=>rfl) hh rfl;exact⟨J,I,λ_=>rfl⟩
       |_=>cases h1
      |_=>cases h1
    |_=>cases h1
  |_=>cases h1
mutual
theorem My (id sz n:Nat):∀ v:TV,ur v=ai->Lk id sz n v=v
 |.f _ _,_=>rfl
 |.fel _ _ _ _ _,_=>rfl
 |.emp,_=>rfl
 |.nil,_=>rfl
 |.undef,_=>rfl
 |.np,_=>rfl
 |.anyb,_=>rfl
 |.agg l,h=>by simp only[Lk];rw[BE id sz n l h]
 |.tup l,h=>by simp only[Lk];rw[BE id sz n l h]
 |.pel _ _ _ _,h=>by cases h
 |.ptr _ _,h=>by cases h
 |.csl _ _ _,h=>by cases h
 |.row _,h=>by cases h
 |.rtl _ _,h=>by cases h
 |.mp _,h=>by cases h
 |.clo _ _,h=>by cases h
theorem BE (id sz n:Nat):∀ l:List TV,qB l=ai->Cw id sz n l=l
 |[],_=>rfl
 |x::r,h=>by
  simp only[qB,av] at h;simp only[Cw];rw[My id sz n x h.1,BE id sz n r h.2]
end
section subs
variable {id sz n:Nat} {h h':bi}
mutual
theorem NX (hr:co h h') (hid:eD h' id=af (aj,sz,n)):∀ (v:TV) (y:AV),cq h v=af y->cq h' (Lk id sz n v)=af y
 |.csl i s m,y,he=>by
  simp only[cq,ak] at he;subst he;simp only[Lk];split
  .rename_i hq;simp only[av] at hq;have e1:=aw hq.1.1;have e2:=aw hq.1.2;have e3:=aw hq.2;subst e1;subst e2;subst e3;simp only[cq,hid,fA,nB,cz,ef]
  .rfl
 |.agg l,y,he=>by
  simp only[cq] at he;cases hl:cN h l with
  |none=>rw[hl] at he;cases he
  |some l'=>rw[hl] at he;simp only[Lk,cq,wa hr hid l l' hl];exact he
 |.tup l,y,he=>by
  simp only[cq] at he;cases hl:cN h l with
  |none=>rw[hl] at he;cases he
  |some l'=>rw[hl] at he;simp only[Lk,cq,wa hr hid l l' hl];exact he
 |.clo g l,y,he=>by
  simp only[cq] at he;cases hl:cN h l with
  |none=>rw[hl] at he;cases he
  |some l'=>rw[hl] at he;simp only[Lk,cq,wa hr hid l l' hl];exact he
 |.f T v,y,he=>gF hr _ _ he
 |.fel T xs j hj off,y,he=>gF hr _ _ he
 |.pel _ _ _ _,y,he=>gF hr _ _ he
 |.ptr _ _,y,he=>gF hr _ _ he
 |.row _,y,he=>gF hr _ _ he
 |.rtl _ _,y,he=>gF hr _ _ he
 |.emp,y,he=>gF hr _ _ he
 |.nil,y,he=>gF hr _ _ he
 |.mp _,y,he=>gF hr _ _ he
 |.undef,y,he=>gF hr _ _ he
 |.np,y,he=>gF hr _ _ he
 |.anyb,y,he=>gF hr _ _ he
theorem wa (hr:co h h') (hid:eD h' id=af (aj,sz,n)):∀ (l:List TV) (l':List AV),cN h l=af l'->cN h' (Cw id sz n l)=af l'
 |[],l',he=>by simp only[cN,ak] at he;subst he;rfl
 |x::r,l',he=>by
  obtain⟨y,l2,rfl,h1,h2⟩:=c8 he;simp only[Cw];exact o6 (NX hr hid x y h1) (wa hr hid r l2 h2)
end
end subs
theorem aly {φ:PM} {s:TS} {a:Act} {w:World} (c:oP P E nt np φ s a w) {T:Ty} {id sz n:Nat} {s':TS} (hp:pkS s T id sz n=af s'):oP P E nt np φ s' a w/\Cm np φ φ (bC s.h) (bC s'.h) w w/\gx 0 s.e s'.e:=by
 unfold pkS at hp;split at hp
 .rename_i ty l hb;split at hp
  .rename_i hs;have hs:=aw hs;subst hs;split at hp
   .rename_i xs m hpk;split at hp
    .cases hp
    .rename_i hmid;simp only[ak] at hp;subst hp;have hm:dT s.h m:=N6 n l xs m hpk;obtain⟨l',hl⟩:=fy s.h l (c.invH.cells id ty l hb);have hidlt:=c.invH.low id _ hb;have nV:∀ i,((PT.updI (λ_ b=>XW id T.size n b) 1 0 (eH m s.h)).set id (af (.rows ty aj T xs))).get i=if i=id then af (.rows ty aj T xs) else if aN m i then (s.h.get i).map vm else (s.h.get i).map (XW id T.size n):=λi=>by
      rw[PT.get_set];by_cases e:i=id
      .rw[aF e,aF e]
      .rw[ay e,ay e,PT.get_updI,iZ];split
       .cases hg:s.h.get i with
        |none=>rfl
        |some b=>cases b<;>rfl
       .rfl
     generalize hH2:((PT.updI (λ_ b=>XW id T.size n b) 1 0 (eH m s.h)).set id (af (.rows ty aj T xs)))=h2 at nV ⊢;have hr:co s.h h2:=λi r hi=>by
      rw[bU] at hi ⊢;rw[nV];by_cases e:i=id
      .subst e;rw[hb] at hi;cases hi
      .rw[ay e];cases hg:s.h.get i with
       |none=>rw[hg] at hi;cases hi
       |some b=>
        rw[hg] at hi;split
        .exact MC hi
        .cases b<;>first|exact hi|cases hi
     have hnone:∀ i,aN m i=ai->bC h2 (nm i)=ah:=λi hi=>by
      have e:i≠id:=λe=>by subst e;exact hmid hi
      obtain⟨ty',p',T',xs',J⟩:=hm i hi;rw[bK,nV,ay e,aF hi,J];rfl
     have hdom:vD (bC s.h) (bC h2):=λq b hq=>by
      obtain⟨i,cc,rfl,I,h4⟩:=jy hq;rw[bK];rw[nV] at I;by_cases e:i=id
      .subst e;rw[hb];simp only[aH,kC,hl];exact⟨_,rfl⟩
      .rw[ay e] at I;cases hg:s.h.get i with
       |none=>rw[hg] at I;split at I<;>cases I
       |some b0=>
        rw[hg] at I;split at I
        .simp only[ch,ak] at I;subst I;cases b0<;>simp[vm,kC] at h4
        .simp only[ch,ak] at I;subst I;simp only[aH];cases b0 with
         |cells ty0 l0=>
          obtain⟨l0',U⟩:=fy s.h l0 (c.invH.cells i ty0 l0 hg);exact⟨⟨ty0,.mx l0'⟩,by simp only[kC,U]⟩
         |rows=>exact⟨_,h4⟩
         |dead=>exact⟨_,h4⟩
         |mp=>exact⟨_,h4⟩
     have giv:Ed s.h (bC s.h) (bC h2) m:=λi hi=>⟨rfl,hnone i hi⟩
     obtain⟨hle,hlen⟩:=CM hdom n l xs m l' hpk hl giv;have hrow:eD h2 id=af (aj,T.size,n):=by rw[bU,nV,aF rfl,<-hlen];rfl
     have hV:KP (bC s.h) (bC h2):=⟨hdom,λq b b' I h4=>by
      obtain⟨i,cc,rfl,Z,h6⟩:=jy h4;rw[bK] at I;rw[nV] at Z;by_cases e:i=id
      .subst e;rw[aF rfl] at Z;cases Z;rw[hb] at I;simp only[aH,kC,hl,ak] at I;subst I;simp only[kC,nB,cz,ef,ak] at h6;subst h6;refine jX.cells rfl rfl hle λx J=>?_
       simp only[BC.toMx] at J;obtain⟨q,hq,rfl⟩:=di.1 J;exact rM T _ q hq
      .rw[ay e] at Z;cases hg:s.h.get i with
       |none=>rw[hg] at Z;split at Z<;>cases Z
       |some b0=>
        rw[hg] at Z I;split at Z
        .simp only[ch,ak] at Z;subst Z;cases b0<;>simp[vm,kC] at h6
        .simp only[ch,ak] at Z;subst Z;have:b=b':=by
          simp only[aH] at I;cases b0 with
          |cells ty0 l0=>
           obtain⟨l0',U⟩:=fy s.h l0 (c.invH.cells i ty0 l0 hg);simp only[kC,U,ak] at I;simp only[XW,kC,wa hr hrow l0 l0' U,ak] at h6;rw[<- I,<-h6]
          |rows ty1 p1 T1 xs1=>
           have h3':kC h2 (.rows ty1 p1 T1 xs1)=af b:=I;exact jS (h3'.symm.trans h6)
          |dead p1 s1 n1=>
           have h3':kC h2 (.dead p1 s1 n1)=af b:=I;exact jS (h3'.symm.trans h6)
          |mp K1 V1 es1=>
           have h3':kC h2 (.mp K1 V1 es1)=af b:=I;exact jS (h3'.symm.trans h6)
         subst this;exact jX.refl hdom b⟩
     refine ⟨⟨hV.rep c.rep,?_,c.dom,c.low,⟨λi ty' l2 hg=>?_,λi b hg=>?_⟩,?_,c.inert,c.size⟩,⟨K7.refl _ _,λk _ hk=>hdom.own hk,λ_ _=>rfl⟩,?_⟩
     .intro t x J;simp only[fV,PT.get_updI] at J;cases he:s.e.get t with
      |none=>rw[he] at J;cases J
      |some v=>
       rw[he] at J;obtain⟨z,hz⟩:=qd s.h v (c.invE t v he);simp only[ch,aH,NX hr hrow v z hz,ak] at J;subst J;exact (c.env t _ (by simp only[fV,he,aH,hz])).dom hdom
     .rw[nV] at hg;by_cases e:i=id
      .rw[aF e] at hg;cases hg
      .rw[ay e] at hg;cases Y:s.h.get i with
       |none=>rw[Y] at hg;split at hg<;>cases hg
       |some b0=>
        rw[Y] at hg;split at hg
        .simp only[ch,ak] at hg;cases b0<;>simp[vm] at hg
        .simp only[ch,ak] at hg;cases b0 with
         |cells ty0 l0=>
          simp only[XW,iu.cells.injEq] at hg;obtain⟨_,rfl⟩:=hg;obtain⟨l0',U⟩:=fy s.h l0 (c.invH.cells i ty0 l0 Y);exact kO _ _ _ (wa hr hrow l0 l0' U)
         |_=>cases hg
     .rw[nV] at hg;by_cases e:i=id
      .subst e;exact hidlt
      .rw[ay e] at hg;cases Y:s.h.get i with
       |none=>rw[Y] at hg;split at hg<;>cases hg
       |some b0=>exact c.invH.low i b0 Y
     .intro t x J;simp only[PT.get_updI] at J;cases he:s.e.get t with
      |none=>rw[he] at J;cases J
      |some v=>
       rw[he] at J;simp only[ch,ak] at J;subst J;obtain⟨z,hz⟩:=qd s.h v (c.invE t v he);exact E8 _ _ _ (NX hr hrow v z hz)
     .intro k _ v' M;simp only[PT.get_updI] at M;cases he:s.e.get k with
      |none=>rw[he] at M;cases M
      |some v=>
       rw[he] at M;simp only[ch,ak] at M;subst M;exact⟨v,rfl,λhf=>My _ _ _ v hf⟩
   .cases hp
  .cases hp
 .cases hp
theorem alu {φ:PM} {s:TS} {a:Act} {w:World} (c:oP P E nt np φ s a w) {k off:Nat} {s':TS} (h:Pv s (.ren k off)=af s'):∃ φ',oP P E nt np φ' s' a w/\Cm np φ φ' (bC s.h) (bC s'.h) w w/\gx (ox [.ren k off] 0) s.e s'.e:=by
 simp only[Pv] at h;split at h
 .rename_i b o hk;split at h
  .rename_i cty l hb;split at h
   .rename_i id hv;split at h
    .rename_i ty p T xs J;simp only[ak] at h;subst h;have hfr:=c.invH.fresh;have hidlt:=c.invH.low id _ J;have hblt:=c.invH.low b _ hb;have hbid:b≠id:=λe=>by rw[e,J] at hb;cases hb
     have hbn:b≠s.nx:=by omega
     have hin:id≠s.nx:=by omega
     generalize hh2:(((s.h.set id (af (.dead p T.size xs.length))).set s.nx (af (.rows ty p T xs))).set b (af (.cells cty (splice l (o+off) [.row s.nx]))))=h2;have nV:∀ i,h2.get i=if i=b then af (.cells cty (splice l (o+off) [.row s.nx])) else if i=s.nx then af (.rows ty p T xs) else if i=id then af (.dead p T.size xs.length) else s.h.get i:=λi=>by
      rw[<- hh2,PT.get_set,PT.get_set,PT.get_set]
     have hr:co s.h h2:=λi r hi=>by
      rw[bU] at hi ⊢;rw[nV];by_cases e1:i=b
      .subst e1;rw[hb] at hi;cases hi
      .rw[ay e1];by_cases e2:i=s.nx
       .subst e2;rw[hfr] at hi;cases hi
       .rw[ay e2];by_cases e3:i=id
        .subst e3;rw[aF rfl];rw[J] at hi;exact hi
        .rw[ay e3];exact hi
     have hlo:=c.invH.cells b cty l hb;obtain⟨Z,hl'⟩:=fy s.h l hlo;have hrow:cq h2 (.row s.nx)=af (fA p s.nx T.size xs.length):=by
      simp only[cq,bU,nV];rw[ay hbn.symm];simp only[bH,aH,mJ]
     have hsp:cN h2 (splice l (o+off) [.row s.nx])=af (splice Z (o+off) [fA p s.nx T.size xs.length]):=sG _ (hP hr _ _ hl') (by simp only[cN,hrow]);obtain⟨y,hy,hey⟩:=l_ hl' _ _ hv;have hy0:y=fA p id T.size xs.length:=by
      simp only[cq,bU,J,aH,mJ,ak] at hey;exact hey.symm
     subst hy0;have hold:bC s.h (nm b)=af ⟨cty,.mx Z⟩:=by rw[bK,hb];simp only[aH,kC,hl']
     have hnew:bC h2 (nm b)=af ⟨cty,.mx (splice Z (o+off) [fA p s.nx T.size xs.length])⟩:=by
      rw[bK,nV,aF rfl];simp only[aH,kC,hsp]
     have hdead:bC h2 (nm id)=ah:=by rw[bK,nV,ay hbid.symm,ay hin,aF rfl];rfl
     have hnx2:bC h2 (nm s.nx)=if p&&xs.length==0 then ah else af ⟨ty,.fz (xs.flatMap (bT T))⟩:=by rw[bK,nV,ay hbn.symm,aF rfl];rfl
     have hid0:bC s.h (nm id)=if p&&xs.length==0 then ah else af ⟨ty,.fz (xs.flatMap (bT T))⟩:=by rw[bK,J];rfl
     have hoth:∀ n,n≠nm b->n≠nm s.nx->n≠nm id->bC h2 n=bC s.h n:=λn e1 e2 e3=>kP c.invH hr λi e=>by
      subst e;rw[nV,ay (λe=>e1 (by rw[e])),ay (λe=>e2 (by rw[e])),ay (λe=>e3 (by rw[e]))]
     have hnb:nm b≠nm s.nx:=λe=>hbn (kT e)
     have hbi:nm b≠nm id:=λe=>hbid (kT e)
     have hni:nm s.nx≠nm id:=λe=>hin (kT e).symm
     have hinv:md h2 (s.nx+1):=by
      refine ⟨λi ty2 l2 hil=>?_,λi q hiq=>?_⟩
      .rw[nV] at hil;split at hil
       .simp only[ak,iu.cells.injEq] at hil;obtain⟨_,rfl⟩:=hil;exact kO _ _ _ hsp
       .split at hil
        .cases hil
        .split at hil
         .cases hil
         .exact iW hr l2 (c.invH.cells i ty2 l2 hil)
      .rw[nV] at hiq;split at hiq
       .omega
       .split at hiq
        .omega
        .split at hiq
         .omega
         .have:=c.invH.low i q hiq;omega
     have hE:∀ t x,fV s.e h2 t=af x->fV s.e s.h t=af x:=λt x I=>by
      simp only[fV] at I ⊢;cases he:s.e.get t with
      |none=>rw[he] at I;cases I
      |some q=>
       rw[he] at I;obtain⟨z,hz⟩:=qd s.h q (c.invE t q he);simp only[aH,gF hr q z hz,ak] at I;subst I;simp only[aH,hz]
     by_cases hp:(p&&xs.length==0)=ai
     ·
      have Y:bC h2=bC s.h:=by
       funext n;by_cases e1:n=nm b
       .subst e1;rw[hold,hnew];have:fA p s.nx T.size xs.length=fA p id T.size xs.length:=by unfold fA;rw[aF hp,aF hp]
        rw[this,yT hy]
       .by_cases e2:n=nm s.nx
        .subst e2;rw[hnx2,aF hp,bK,hfr];rfl
        .by_cases e3:n=nm id
         .subst e3;rw[hdead,hid0,aF hp]
         .exact hoth n e1 e2 e3
      refine ⟨φ,⟨by rw[Y];exact c.rep,λt x I=>by rw[Y];exact c.env t x (hE t x I),λn q hq=>Ab (c.dom n q hq),iz c.low,hinv,λt x I=>oD hr x (c.invE t x I),c.inert,c.size⟩,by rw[Y];exact Cm.refl _ _ _ _,gx.refl _ _⟩
     .have hid1:bC s.h (nm id)=af ⟨ty,.fz (xs.flatMap (bT T))⟩:=by rw[hid0,ay hp]
      obtain⟨kk,k1,k2,ob,k3,k4⟩:=c.rep.at_ _ _ hid1;have hφn:φ (nm s.nx)=ah:=by
       cases hq:φ (nm s.nx) with
       |none=>rfl
       |some q=>have:=c.dom _ q hq;rw[ec] at this;omega
      let nw:HF:=λn=>if n=nm s.nx then af ⟨ty,.fz (xs.flatMap (bT T))⟩ else ah
      have hsh:Ft w w kk ob:=⟨rfl,rfl,rfl,rfl,k3,λ_ _=>rfl,λ_=>rfl⟩
      obtain⟨φ',p1,p2,p3,p4⟩:=c.rep.wren hid1 k1 hφn hsh k4 nw (by simp[nw]) (by simp only[nw];rw[ay hni.symm]);have hb1:eV (bC s.h) [nm s.nx,nm id] nw (nm b)=af ⟨cty,.mx Z⟩:=by
       unfold eV;rw[ay (by simp[hnb,hbi]),hold]
      obtain⟨kb,b1,b2,ob2,b3,b4⟩:=p4.at_ _ _ hb1;have hlt:o+off<Z.length:=by
       rcases b9 (o+off) Z.length with h'|h'
       .exact h'
       .rw[bS h'] at hy;cases hy
      have hob:jv φ' (tot E φ' (eV (bC s.h) [nm s.nx,nm id] nw)) w ⟨cty,.mx (splice Z (o+off) [fA p s.nx T.size xs.length])⟩ ob2:=by
       rw[pD rfl] at b4 ⊢;obtain⟨arr,a1,a2⟩:=b4;refine ⟨arr,a1,?_⟩;unfold vE at a2 ⊢;refine ⟨by simp only[BC.len] at a2 ⊢;rw[oA (by simp;omega)];exact a2.1,λj x I=>?_⟩;simp only[BC.get] at I a2;rw[mI (by simp;omega)] at I;split at I
       .exact a2.2 j x I
       .split at I
        .rename_i h3 M;simp only[dR] at M;have hj:j=o+off:=by omega
         subst hj;simp only[HB,qV,ak] at I;subst I;obtain⟨_,v,a3,a4⟩:=a2.2 _ _ hy;unfold fA at a4 ⊢;rw[ay hp] at a4 ⊢;refine ⟨rfl,v,a3,?_⟩;cases a4 with
         |@row _ _ _ cc q hφq hn hc hs2=>
          have:=p2.sub _ _ k1;rw[this,ak] at hφq;subst hφq;exact .row p1 hn hc hs2
        .exact a2.2 j x I
      obtain⟨q1,q2⟩:=p4.wset hb1 b1 (⟨rfl,rfl,rfl,rfl,b3,λ_ _=>rfl,λ_=>rfl⟩:Ft w w kb ob2) hob (λn=>if n=nm b then af ⟨cty,.mx (splice Z (o+off) [fA p s.nx T.size xs.length])⟩ else ah) (by simp);have Y:eV (eV (bC s.h) [nm s.nx,nm id] nw) [nm b] (λn=>if n=nm b then af ⟨cty,.mx (splice Z (o+off) [fA p s.nx T.size xs.length])⟩ else ah)=bC h2:=by
       funext n;by_cases e1:n=nm b
       .subst e1;rw[hnew];simp[eV]
       .by_cases e2:n=nm s.nx
        .subst e2;rw[hnx2,ay hp];simp[eV,nw,hnb.symm]
        .by_cases e3:n=nm id
         .subst e3;rw[hdead];simp[eV,nw,hbi.symm,hni.symm]
         .rw[hoth n e1 e2 e3];simp[eV,e1,e2,e3]
      rw[Y] at q1 q2;have m:=p2.trans q1;refine ⟨φ',⟨q2,λt x I=>m.keep (c.env t x (hE t x I)),λn q hq=>?_,iz c.low,hinv,λt x I=>oD hr x (c.invE t x I),c.inert,c.size⟩,⟨K7.refl _ _,m.own_,λi hi=>?_⟩,gx.refl _ _⟩
      .rcases p3 n q hq with M|M
       .exact Ab (c.dom n q M)
       .simp only[aL] at M;subst M;rw[ec];exact Cj _
      .cases hq:φ' (nm i) with
       |none=>
        cases hq2:φ (nm i) with
        |none=>rfl
        |some z=>rw[p2.sub _ _ hq2] at hq;cases hq
       |some z=>
        rcases p3 _ _ hq with M|M
        .exact M.symm
        .simp only[aL] at M;have:=kT M;have:=c.low;omega
    .cases h
   .cases h
  .cases h
 .rename_i id hk;split at h
  .rename_i ty p T xs J;simp only[ak] at h;subst h;have hfr:=c.invH.fresh;have hidlt:=c.invH.low id _ J;have hin:id≠s.nx:=by omega
   generalize hh2:((s.h.set id (af (.dead p T.size xs.length))).set s.nx (af (.rows ty p T xs)))=h2;have nV:∀ i,h2.get i=if i=s.nx then af (.rows ty p T xs) else if i=id then af (.dead p T.size xs.length) else s.h.get i:=λi=>by
    rw[<- hh2,PT.get_set,PT.get_set]
   have hr:co s.h h2:=λi r hi=>by
    rw[bU] at hi ⊢;rw[nV];by_cases e2:i=s.nx
    .subst e2;rw[hfr] at hi;cases hi
    .rw[ay e2];by_cases e3:i=id
     .subst e3;rw[aF rfl];rw[J] at hi;exact hi
     .rw[ay e3];exact hi
   have hrow:cq h2 (.row s.nx)=af (fA p s.nx T.size xs.length):=by
    simp only[cq,bU,nV,bH,aH,mJ]
   have hrow0:cq s.h (.row id)=af (fA p id T.size xs.length):=by
    simp only[cq,bU,J,aH,mJ]
   have hdead:bC h2 (nm id)=ah:=by rw[bK,nV,ay hin,aF rfl];rfl
   have hnx2:bC h2 (nm s.nx)=if p&&xs.length==0 then ah else af ⟨ty,.fz (xs.flatMap (bT T))⟩:=by rw[bK,nV,aF rfl];rfl
   have hid0:bC s.h (nm id)=if p&&xs.length==0 then ah else af ⟨ty,.fz (xs.flatMap (bT T))⟩:=by rw[bK,J];rfl
   have hoth:∀ n,n≠nm s.nx->n≠nm id->bC h2 n=bC s.h n:=λn e2 e3=>kP c.invH hr λi e=>by
    subst e;rw[nV,ay (λe=>e2 (by rw[e])),ay (λe=>e3 (by rw[e]))]
   have hni:nm s.nx≠nm id:=λe=>hin (kT e).symm
   have hinv:md h2 (s.nx+1):=by
    refine ⟨λi ty2 l2 hil=>?_,λi q hiq=>?_⟩
    .rw[nV] at hil;split at hil
     .cases hil
     .split at hil
      .cases hil
      .exact iW hr l2 (c.invH.cells i ty2 l2 hil)
    .rw[nV] at hiq;split at hiq
     .omega
     .split at hiq
      .omega
      .have:=c.invH.low i q hiq;omega
   have hE:∀ t x,t≠k->fV (s.e.set k (af (.row s.nx))) h2 t=af x->fV s.e s.h t=af x:=λt x ht I=>by
    simp only[fV,PT.get_set] at I ⊢;rw[ay ht] at I;cases he:s.e.get t with
    |none=>rw[he] at I;cases I
    |some q=>
     rw[he] at I;obtain⟨z,hz⟩:=qd s.h q (c.invE t q he);simp only[aH,gF hr q z hz,ak] at I;subst I;simp only[aH,hz]
   have hIE:tN (s.e.set k (af (.row s.nx))) h2:=λt x I=>by
    simp only[PT.get_set] at I;split at I
    .cases I;exact E8 _ _ _ hrow
    .exact oD hr x (c.invE t x I)
   have hKp:gx (ox [.ren k off] 0) s.e (s.e.set k (af (.row s.nx))):=λt ht v' hv'=>by
    simp only[PT.get_set] at hv';split at hv'
    .rename_i et;subst et;simp only[ox] at ht;rw[bt,bY.2 rfl] at ht;simp at ht
    .exact⟨v',hv',λ_=>rfl⟩
   have U:=c.env k (fA p id T.size xs.length) (by simp only[fV,hk,aH,hrow0]);by_cases hp:(p&&xs.length==0)=ai
   .have Y:bC h2=bC s.h:=by
     funext n;by_cases e2:n=nm s.nx
     .subst e2;rw[hnx2,aF hp,bK,hfr];rfl
     .by_cases e3:n=nm id
      .subst e3;rw[hdead,hid0,aF hp]
      .exact hoth n e2 e3
    have hsame:fA p s.nx T.size xs.length=fA p id T.size xs.length:=by unfold fA;rw[aF hp,aF hp]
    refine ⟨φ,⟨by rw[Y];exact c.rep,λt x I=>?_,λn q hq=>Ab (c.dom n q hq),iz c.low,hinv,hIE,c.inert,c.size⟩,by rw[Y];exact Cm.refl _ _ _ _,hKp⟩;rw[Y];by_cases ht:t=k
    .subst ht;simp only[fV,PT.get_set,bH,aH,hrow,ak] at I;subst I;rw[hsame];exact U
    .exact c.env t x (hE t x ht I)
   .have hid1:bC s.h (nm id)=af ⟨ty,.fz (xs.flatMap (bT T))⟩:=by rw[hid0,ay hp]
    obtain⟨kk,k1,k2,ob,k3,k4⟩:=c.rep.at_ _ _ hid1;have hφn:φ (nm s.nx)=ah:=by
     cases hq:φ (nm s.nx) with
     |none=>rfl
     |some q=>have:=c.dom _ q hq;rw[ec] at this;omega
    let nw:HF:=λn=>if n=nm s.nx then af ⟨ty,.fz (xs.flatMap (bT T))⟩ else ah
    have hsh:Ft w w kk ob:=⟨rfl,rfl,rfl,rfl,k3,λ_ _=>rfl,λ_=>rfl⟩
    obtain⟨φ',p1,p2,p3,p4⟩:=c.rep.wren hid1 k1 hφn hsh k4 nw (by simp[nw]) (by simp only[nw];rw[ay hni.symm]);have Y:eV (bC s.h) [nm s.nx,nm id] nw=bC h2:=by
     funext n;by_cases e2:n=nm s.nx
     .subst e2;rw[hnx2,ay hp];simp[eV,nw]
     .by_cases e3:n=nm id
      .subst e3;rw[hdead];simp[eV,nw,hni.symm]
      .rw[hoth n e2 e3];simp[eV,e2,e3]
    rw[Y] at p2 p4;refine ⟨φ',⟨p4,λt x I=>?_,λn q hq=>?_,iz c.low,hinv,hIE,c.inert,c.size⟩,⟨K7.refl _ _,p2.own_,λi hi=>?_⟩,hKp⟩
    .by_cases ht:t=k
     .subst ht;simp only[fV,PT.get_set,bH,aH,hrow,ak] at I;subst I;unfold fA at U ⊢;rw[ay hp] at U ⊢;generalize a.tmps.getD t undef=z at U;cases U with
      |@row _ _ _ cc q hφq hn hc hs2=>
       rw[k1,ak] at hφq;subst hφq;exact .row p1 hn hc hs2
     .exact p2.keep (c.env t x (hE t x ht I))
    .rcases p3 n q hq with M|M
     .exact Ab (c.dom n q M)
     .simp only[aL] at M;subst M;rw[ec];exact Cj _
    .cases hq:φ' (nm i) with
     |none=>
      cases hq2:φ (nm i) with
      |none=>rfl
      |some z=>rw[p2.sub _ _ hq2] at hq;cases hq
     |some z=>
      rcases p3 _ _ hq with M|M
      .exact M.symm
      .simp only[aL] at M;have:=kT M;have:=c.low;omega
  .cases h
 .cases h
theorem ajh {φ:PM} {s:TS} {a:Act} {w:World} (c:oP P E nt np φ s a w) {Z:Adj} {s':TS} (h:Pv s Z=af s') (hnr:∀ k off,Z≠ .ren k off):oP P E nt np φ s' a w/\Cm np φ φ (bC s.h) (bC s'.h) w w/\gx (ox [Z] 0) s.e s'.e:=by
 cases Z with
 |ren k off=>exact cR rfl (hnr k off)
 |nil k ty T=>
  simp only[Pv] at h;split at h
  .rename_i v hv;split at h
   .rename_i hn;simp only[ak] at h;subst h;obtain⟨J,M,hr⟩:=XK c ty T;refine ⟨⟨J.rep,?_,J.dom,J.low,J.invH,?_,J.inert,J.size⟩,by rw[M];exact Cm.refl _ _ _ _,?_⟩
    .intro t x I;simp only[fV,PT.get_set] at I;split at I
     .rename_i et;subst et;simp only[aH,cq,bU,PT.get_set,bH,mJ,fA,jT,cY,kK,ak] at I;subst I;obtain⟨z,Y⟩:=qd s.h v (c.invE _ v hv);rw[M];exact Ru hn Y _ _ _ _ (c.env _ _ (by simp only[fV,hv,aH,Y]))
     .exact J.env t x I
    .intro t x I;simp only[PT.get_set] at I;split at I
     .cases I;simp only[Ls,bU,PT.get_set,bH];rfl
     .exact J.invE t x I
    .intro t ht v' U;simp only[PT.get_set] at U;split at U
     .rename_i et;subst et;simp only[ox] at ht;rw[bt,bY.2 rfl] at ht;simp at ht
     .exact⟨v',U,λ_=>rfl⟩
   .simp only[ak] at h;subst h;exact⟨c,Cm.refl _ _ _ _,gx.refl _ _⟩
  .cases h
 |cel k off ty T=>
  simp only[Pv] at h;split at h
  .rename_i id o hk;split at h
   .rename_i cty l hb;split at h
    .rename_i v hv;split at h
     .rename_i hn;simp only[ak] at h;subst h;obtain⟨J,M,hr⟩:=XK c ty T;have hid:id≠s.nx:=λe=>by have:=c.invH.low id _ hb;omega
      obtain⟨c2,t2⟩:=acl J (id:=id) (cty:=cty) (l:=l) (v:=v) (u:=.row s.nx) (by show (s.h.set s.nx _).get id=_;rw[PT.get_set,ay hid];exact hb) hv hn (by simp only[cq,bU,PT.get_set,bH,aH,mJ,fA,jT,cY,kK]) (by simp only[Ls,bU,PT.get_set,bH];rfl);exact⟨c2,by rw[<- M];exact t2,gx.refl _ _⟩
     .simp only[ak] at h;subst h;exact⟨c,Cm.refl _ _ _ _,gx.refl _ _⟩
    .cases h
   .cases h
  .cases h
 |mpt k K V=>
  simp only[Pv] at h;split at h
  .rename_i id hk;split at h
   .rename_i K' V' es hb;split at h
    .rename_i hE;simp only[ak] at h;subst h;have hr:co s.h (s.h.set id (af (.mp K V []))):=co.set λr hr=>by rw[bU,hb] at hr;cases hr
     have M:bC (s.h.set id (af (.mp K V [])))=bC s.h:=by
      funext n;by_cases hn:n=nm id
      .subst hn;rw[bK,bK,PT.get_set,aF rfl,hb];simp only[aH,kC,BW (aip (oV.1 hE).1),BW (oV.1 hE).2,Um (oV.1 hE).1,List.map_nil]
      .refine kP c.invH hr λi e=>?_
       subst e;rw[PT.get_set,ay (λe=>hn (by rw[e]))]
     refine ⟨⟨by rw[M];exact c.rep,?_,c.dom,c.low,c.invH.set hr (c.invH.low id _ hb) (bW _) (λ_ _ he=>by cases he),λt x I=>oD hr x (c.invE t x I),c.inert,c.size⟩,by rw[M];exact Cm.refl _ _ _ _,gx.refl _ _⟩;intro t x I;rw[M];simp only[fV] at I;cases he:s.e.get t with
     |none=>rw[he] at I;cases I
     |some q=>
      rw[he] at I;obtain⟨z,Y⟩:=qd s.h q (c.invE t q he);simp only[aH,gF hr q z Y,ak] at I;subst I;exact c.env t _ (by simp only[fV,he,aH,Y])
    .simp only[ak] at h;subst h;exact⟨c,Cm.refl _ _ _ _,gx.refl _ _⟩
   .cases h
  .cases h
 |pk k off T=>
  simp only[Pv] at h;split at h
  .obtain⟨h1,h2,h3⟩:=aly c h;exact⟨h1,h2,h3.mono λk hk=>by simp at hk⟩
  .cases h
theorem ajg {φ:PM} {s:TS} {a:Act} {w:World} (c:oP P E nt np φ s a w) {I:Adj} {s':TS} (h:Pv s I=af s'):∃ φ',oP P E nt np φ' s' a w/\Cm np φ φ' (bC s.h) (bC s'.h) w w/\gx (ox [I] 0) s.e s'.e:=by
 by_cases hn:∃ k off,I= .ren k off
 .obtain⟨k,off,rfl⟩:=hn;exact alu c h
 .exact⟨φ,ajh c h λk off e=>hn ⟨k,off,e⟩⟩
theorem V6 {φ:PM} {a:Act} {w:World}:∀ {l:List Adj} {s s':TS},oP P E nt np φ s a w->Y' s l=af s'->∃ φ',oP P E nt np φ' s' a w/\Cm np φ φ' (bC s.h) (bC s'.h) w w/\gx (ox l 0) s.e s'.e
 |[],s,s',c,h=>by simp only[Y',ak] at h;subst h;exact⟨φ,c,Cm.refl _ _ _ _,gx.refl _ _⟩
 |I::r,s,s',c,h=>by
  simp only[Y'] at h;split at h
  .rename_i s1 h1;obtain⟨φ1,U,t1,k1⟩:=ajg c h1;obtain⟨φ2,M,J,k2⟩:=V6 U h;refine ⟨φ2,M,t1.trans J,(k1.mono ?_).trans (k2.mono ?_)⟩
   .intro k hk;cases I with
    |nil q ty T=>simp only[ox] at hk ⊢;rw[mb,bt,hk];rfl
    |cel q off ty T=>simp[ox] at hk
    |mpt q K V=>simp[ox] at hk
    |pk q off T=>simp[ox] at hk
    |ren q off=>simp only[ox] at hk ⊢;rw[mb,bt,hk];rfl
   .intro k hk;cases I with
    |nil q ty T=>simp only[ox];rw[mb,bt,hk];simp
    |cel q off ty T=>simp only[ox];exact hk
    |mpt q K V=>simp only[ox];exact hk
    |pk q off T=>simp only[ox];exact hk
    |ren q off=>simp only[ox];rw[mb,bt,hk];simp
  .cases h
mutual
theorem Rm {h:bi}:∀ (v:TV) (y:AV),ur v=ai->cq h v=af y->y.all (λ_=>aj)=ai
 |.f _ _,y,_,he=>by simp only[cq,ak] at he;subst he;rfl
 |.fel _ _ _ _ _,y,_,he=>by simp only[cq,ak] at he;subst he;rfl
 |.emp,y,_,he=>by simp only[cq,ak] at he;subst he;rfl
 |.nil,y,_,he=>by simp only[cq,ak] at he;subst he;rfl
 |.undef,y,_,he=>by simp only[cq,ak] at he;subst he;rfl
 |.np,y,_,he=>by simp only[cq,ak] at he;subst he;rfl
 |.anyb,y,_,he=>by simp only[cq,ak] at he;subst he;rfl
 |.agg l,y,hl,he=>by
  simp only[cq] at he;split at he
  .rename_i l' hl';simp only[ak] at he;subst he;exact E5 l l' hl hl'
  .cases he
 |.tup l,y,hl,he=>by
  simp only[cq] at he;split at he
  .rename_i l' hl';simp only[ak] at he;subst he;exact E5 l l' hl hl'
  .cases he
 |.pel _ _ _ _,_,h,_=>by cases h
 |.ptr _ _,_,h,_=>by cases h
 |.csl _ _ _,_,h,_=>by cases h
 |.row _,_,h,_=>by cases h
 |.rtl _ _,_,h,_=>by cases h
 |.mp _,_,h,_=>by cases h
 |.clo _ _,_,h,_=>by cases h
theorem E5 {h:bi}:∀ (l:List TV) (l':List AV),qB l=ai->cN h l=af l'->AV.allL (λ_=>aj) l'=ai
 |[],l',_,he=>by simp only[cN,ak] at he;subst he;rfl
 |x::r,l',hl,he=>by
  obtain⟨y,l2,rfl,e1,e2⟩:=c8 he;simp only[qB,av] at hl;simp only[AV.allL,av];exact⟨Rm x y hl.1 e1,E5 r l2 hl.2 e2⟩
end
mutual
theorem Xd (h:bi):∀ (v:TV),ur v=ai->Ls h v=ai
 |.f _ _,_=>rfl
 |.fel _ _ _ _ _,_=>rfl
 |.emp,_=>rfl
 |.nil,_=>rfl
 |.undef,_=>rfl
 |.np,_=>rfl
 |.anyb,_=>rfl
 |.agg l,hl=>Jo h l hl
 |.tup l,hl=>Jo h l hl
 |.pel _ _ _ _,h=>by cases h
 |.ptr _ _,h=>by cases h
 |.csl _ _ _,h=>by cases h
 |.row _,h=>by cases h
 |.rtl _ _,h=>by cases h
 |.mp _,h=>by cases h
 |.clo _ _,h=>by cases h
theorem Jo (h:bi):∀ (l:List TV),qB l=ai->kS h l=ai
 |[],_=>rfl
 |x::r,hl=>by
  simp only[qB,av] at hl;simp only[kS,av];exact⟨Xd h x hl.1,Jo h r hl.2⟩
end
structure Seen (np:Nat) (t:Tm) (x:t.ty.den) (us:List TV) (h1:bi) (φ φ':PM) (H:HF) (E:Nat->Prop) (w:World) (la lu:List AV):Prop where
 rep:rf φ' E (bC h1) w
 val:∀ (j:Nat) y v,lu[j]? =af y->∃ z,la[j]? =af z/\(cO φ (tot E φ H) w z v->cO φ' (tot E φ' (bC h1)) w y v)
 len:lu.length=la.length
 tot_:∀ k,tot E φ' (bC h1) k->tot E φ H k
 own_:∀ k,own φ' (bC h1) k->own φ H k
 dom:∀ n k,φ' n=af k->ow n<t.bs.length
 par:∀ i,i<np->i<t.bs.length->φ' (nm i)=φ (nm i)
theorem Ln {t:Tm} {x:t.ty.den} {us:List TV} {h1:bi} {l1:List (Option iu)} (I:qR t x us h1 l1) {h:bi} {nx:Nat} (hinv:md h nx) {vs:List TV} {m:Nat} {σ:PT Nat} {sm:Nat} (M:H6 np t vs h x m σ sm) {la:List AV} (hla:cN h vs=af la) {φ:PM} {w:World} (r:rf φ E (bC h) w):∃ φ' lu,cN h1 us=af lu/\Seen np t x us h1 φ φ' (bC h) E w la lu:=by
 obtain⟨x1,m1,x2,m2,hx,hmm,gv,gb⟩:=M.ex;have hmr:dT h m:=by rw[hmm];exact (HR _ _ _ _ gv).or (HV _ _ _ _ gb)
 have pvg:qb (ig σ) t.vs x1=af (kA (ig σ) us):=by
  have U:=tP (ig σ) t.vs x1;have J:=I.pv;rw[hx,tK] at J;rw[U,J];rfl
 have pbg:oC (ig σ) t.bs x2=af (l1.map (lQ (lV (ig σ)))):=by
  have U:=wh (ig σ) t.bs x2;have J:=I.pb;rw[hx,ve] at J;rw[U,J];rfl
 have hbm:∀ i b,l1[i]? =af (af b)->∃ b0,h.get (ig σ i)=af b0/\BM (ig σ) h m b0 (lV (ig σ) b):=λi b hb=>by
  obtain⟨b0,q1,q2⟩:=Jm t.bs 0 x2 m2 _ gb pbg i (lV (ig σ) b) (by rw[ba,hb];rfl);rw[bN] at q1;exact⟨b0,q1,q2.mono λj hj=>by rw[hmm,bt,hj];simp⟩
 let hv:bi:=AB (ig σ) 0 (l1.map (lQ (lV (ig σ)))) PT.leaf
 have hv_at:∀ i b,l1[i]? =af (af b)->hv.get (ig σ i)=af (lV (ig σ) b):=λi b hb=>by
  have:=vk (ig σ) (l1.map (lQ (lV (ig σ)))) 0 PT.leaf (λa b Z hb=>by
   simp only[bR,I.len] at Z hb;simp only[bN];exact M.inj a b Z hb) i (af (lV (ig σ) b)) (by rw[ba,hb];rfl)
  rw[bN] at this;exact this
 have hv_ex:∀ j c,hv.get j=af c->∃ i b,l1[i]? =af (af b)/\j=ig σ i/\c=lV (ig σ) b:=λj c hj=>by
  by_cases hex:∃ i,i<l1.length/\j=ig σ i
  .obtain⟨i,hi,rfl⟩:=hex;have hcc:=aB hi;cases hcv:l1[i] with
   |some b=>rw[hcv] at hcc;rw[hv_at i b hcc] at hj;cases hj;exact⟨i,b,hcc,rfl,rfl⟩
   |none=>
    rw[hcv] at hcc;have:=vk (ig σ) (l1.map (lQ (lV (ig σ)))) 0 PT.leaf (λa b Z hb=>by
     simp only[bR,I.len] at Z hb;simp only[bN];exact M.inj a b Z hb) i ah (by rw[ba,hcc];rfl)
    rw[bN] at this;have Y:(AB (ig σ) 0 (l1.map (lQ (lV (ig σ)))) PT.leaf).get (ig σ i)=af c:=hj;rw[this] at Y;simp[PT.get] at Y
  .have:hv.get j=(PT.leaf:bi).get j:=vj (ig σ) _ 0 _ j λk hk=>by
    simp only[bR] at hk;rw[bN];exact λe=>hex ⟨k,hk,e⟩
   rw[this] at hj;simp[PT.get] at hj
 have rows_in:xX hv h:=λj q hq=>by
  rw[bU] at hq ⊢;cases hc:hv.get j with
  |none=>rw[hc] at hq;cases hq
  |some c=>
   rw[hc] at hq;obtain⟨i,b,q1,rfl,rfl⟩:=hv_ex j c hc;obtain⟨b0,q2,q3⟩:=hbm i b q1;rw[q2];simp only[aH] at hq ⊢;rw[<- q3.row];exact hq
 have rows_h1:∀ i q,eD h1 i=af q->eD hv (ig σ i)=af q:=λi q hq=>by
  rw[bU] at hq ⊢;cases hb:h1.get i with
  |none=>rw[hb] at hq;cases hq
  |some b=>
   rw[hb] at hq;rw[hv_at i b ((I.at_ i b).1 hb)];simp only[aH,Il] at hq ⊢;exact hq
 have hd:vD (bC h) (bC hv):=λn y hy=>by
  obtain⟨j,c,rfl,U,J⟩:=jy hy;obtain⟨i,b,q1,rfl,rfl⟩:=hv_ex j c U;obtain⟨b0,q2,q3⟩:=hbm i b q1;obtain⟨y0,hy0⟩:=BM.erB_some hinv q2 q3 J;exact⟨y0,by rw[bK,q2];exact hy0⟩
 have gvv:Ed h (bC h) (bC hv) m:=λi hi=>⟨rfl,by
  cases hc:bC hv (nm i) with
  |none=>rfl
  |some y=>
   obtain⟨j,c,e,U,J⟩:=jy hc;have:=kT e;subst this;obtain⟨k,b,q1,rfl,rfl⟩:=hv_ex i c U;have hk:k<t.bs.length:=by rw[<- I.len];exact (bl.1 q1).1
   have h5:=M.disj _ hi;rw[(M.sig _).2 ⟨k,hk,rfl⟩] at h5;cases h5⟩
 have V:KP (bC h) (bC hv):=⟨hd,λn b b' hb hb'=>by
  obtain⟨j,c,rfl,U,J⟩:=jy hb';obtain⟨i,bb,q1,rfl,rfl⟩:=hv_ex j c U;obtain⟨b0,q2,q3⟩:=hbm i bb q1;rw[bK,q2] at hb;exact BM.view hd gvv rows_in q3 hb J⟩
 have rv:=V.rep r;have T:ag4 t x us h1 (ig σ) φ E E (bC hv) w:=by
  refine rf.toId I M.inj rv (λi b yb hb hyb=>?_) (λk hk=>.inl hk) (λi k b hi U J hE=>?_) rv.el
  .rw[bK,hv_at i b ((I.at_ i b).1 hb)];exact Di rows_h1 hyb
  .obtain⟨k',p1,p2,_⟩:=rv.at_ _ _ U;rw[J] at p1;cases p1;exact p2 hE
 obtain⟨lu,hlu⟩:=fy h1 us I.ok;have hlug:cN hv (kA (ig σ) us)=af (AV.renL (HW (ig σ)) lu):=qI rows_h1 us lu hlu;have hle:=Dd hd rows_in t.vs vs x1 m1 _ la _ gv pvg hla hlug (λi hi=>gvv i (by rw[hmm,bt,hi];rfl));have hall:=tH us lu I.lt hlu;refine ⟨_,lu,hlu,T.rep,λj y v hy=>?_,?_,λk hk=>hd.tot (T.tot_ k hk),λk hk=>hd.own (T.own_ k hk),λn k hk=>?_,λi hi hb=>?_⟩
 .rw[oB] at hle;obtain⟨z,hz,hlz⟩:=hle.get j (y.ren (HW (ig σ))) (by rw[ba,hy];rfl);exact⟨z,hz,λhr=>T.val y v (ma hall y (bd hy)) (hlz _ _ _ _ r hr)⟩
 .have:=hle.length;rw[oB,bR] at this;exact this
 .obtain⟨i,hi,rfl,_⟩:=xl hk;rw[ec];exact hi
 .rw[ZX hb,M.fix i hi]
theorem Oh {φ:PM} {s':TS} {a:Act} {w:World} (c:oP P E nt np φ s' a w) {A:ZT} {am:Nat} {s0 s1:TS} {x:A.D} (J:LV np A am s0 s'=af x) (hs:G2 A am s0 x=af s1)
 (hk:∀ k,k∈A.keep->k∉A.ks->∀ v,s0.e.get k=af v->ur v=ai->aN am k=aj->∀ Y,s'.e.get k=af Y->Y=v):∃ φ',oP P E nt np φ' s1 a w/\Cm np φ φ' (bC s'.h) (bC s1.h) w w:=by
 unfold LV at J;split at J
 .rename_i hc;simp only[av] at hc;have hnp:=a8 hc.1;split at J
  .rename_i s2 h2;obtain⟨φ2,c2,t2,_⟩:=V6 c h2;split at J
   .rename_i vs hvs;split at J
    .rename_i z m σ sm hM;simp only[ak] at J;subst J;have M:=wE hM;unfold G2 at hs;split at hs
     .rename_i us h1 hi;obtain⟨l1,I⟩:=wK hi;split at hs
      .rename_i hlen;have hlen:=aw hlen;simp only[ak] at hs;subst hs;obtain⟨g1,g2⟩:=Xb hvs;have hvok:kS s2.h vs=ai:=Ix c2.invE hvs;obtain⟨la,hla⟩:=fy s2.h vs hvok;obtain⟨φ',lu,hlu,S⟩:=Ln (E:=E) I c2.invH M hla c2.rep;refine ⟨φ',⟨S.rep,?_,S.dom,hnp,⟨λi ty l hl=>(I.cells i ty l hl).1,λi b hb=>I.lt_len hb⟩,?_,c.inert,c.size⟩,t2.trans ⟨K7.refl _ _,λk _ h=>S.own_ k h,λi hi=>S.par i hi (by omega)⟩⟩
       .intro t y U;simp only[fV] at U;cases ht:(XY (C2 am s0.e A.keep) A.ks us).get t with
        |none=>rw[ht] at U;cases U
        |some v=>
         rw[ht] at U;simp only[aH] at U;rcases Cz hlen t v ht with ⟨j,q1,q2⟩|⟨q1,q2⟩
         .obtain⟨y',p1,p2⟩:=l_ hlu j v q2;rw[U] at p2;cases p2;obtain⟨z,p3,p4⟩:=S.val j y (a.tmps.getD t undef) p1;refine p4 ?_;obtain⟨v0,p5,p6⟩:=g2 j t q1;obtain⟨z',p7,p8⟩:=l_ hla j v0 p5;rw[p3] at p7;cases p7;exact c2.env t _ (by simp only[fV,p6,aH,p8])
         .obtain⟨k1,k2,k3,k4⟩:=tU q2;obtain⟨Y,k5⟩:=IR hc.2 t v k1 k2 k3 k4;have:=hk t k1 q1 v k2 k3 k4 Y k5;subst this;have h3:=c.env t y (by simp only[fV,k5,aH];rw[Rv s'.h h1 Y k3];exact U);exact h3.restrict (p:=λ_=>aj) (λi k hi _=>by cases hi) (λk hk=>by
           have Z:=S.tot_ k hk;rcases Z with Z|Z
           .exact .inl Z
           .exact .inr (by
             have hkl:k<w.heap.size:=by
              obtain⟨n,b,e1,e2⟩:=Z;obtain⟨k',p1,_,ob,p3,_⟩:=c2.rep.at_ n b e1;rw[e2] at p1;cases p1;exact (cF.1 p3).1
             exact t2.own_ k hkl Z)) (Rm Y y k3 U)
       .intro t v hv;rcases Cz hlen t v hv with ⟨j,q1,q2⟩|⟨q1,q2⟩
        .obtain⟨y',_,p2⟩:=l_ hlu j v q2;exact E8 _ _ _ p2
        .exact Xd _ v (tU q2).2.2.1
      .cases hs
     .cases hs
    .cases J
   .cases J
  .cases J
 .cases J
theorem Ej {A:ZT} {am:Nat} {I s1:TS} {x:A.D} (hs:G2 A am I x=af s1):gx (Lv A.ks 0) I.e s1.e/\∀ k,k∉A.ks->∀ v,s1.e.get k=af v->I.e.get k=af v:=by
 unfold G2 at hs;split at hs
 .rename_i us h1 hi;split at hs
  .rename_i hlen;have hlen:=aw hlen;simp only[ak] at hs;subst hs;have key:∀ k,k∉A.ks->∀ v,(XY (C2 am I.e A.keep) A.ks us).get k=af v->I.e.get k=af v:=λk hk v hv=>by
    rcases Cz hlen k v hv with ⟨j,q1,_⟩|⟨_,q2⟩
    .exact cR (bd q1) hk
    .exact (tU q2).2.1
   refine ⟨λk hk J hv=>?_,key⟩;have hnk:k∉A.ks:=λhm=>by rw[W1 hm] at hk;cases hk
   exact⟨J,key k hnk J hv,λ_=>rfl⟩
  .cases hs
 .cases hs
end walk
inductive Er:TC->SC->Prop
 |skip:Er .skip .skip
 |reg (ops:List sL) (prs:List (Nat×Nat)):Er (.reg ops prs) (.reg ops prs)
 |seq {a b:TC} {a' b':SC}:Er a a'->Er b b'->Er (.seq a b) (.seq a' b')
 |jseq (A:ZT) {a b:TC} {a' b':SC}:Er a a'->Er b b'->Er (.jseq A a b) (.seq a' b')
 |cond (c:Nat) {a b:TC} {a' b':SC}:Er a a'->Er b b'->Er (.cond c a b) (.cond c a' b')
 |block (id:Nat) {b:TC} {b':SC}:Er b b'->Er (.block id b) (.block id b')
 |jblock (A:ZT) (id:Nat) {b:TC} {b':SC}:Er b b'->Er (.jblock A id b) (.block id b')
 |loop (A:ZT) {b:TC} {b':SC}:Er b b'->Er (.loop A b) (.loop b')
 |exit (id:Nat):Er (.exit id) (.exit id)
 |ret:Er .ret .ret
 |defer (f:FuncId) (c:List Operand) (t:Nat):Er (.defer f c t) (.defer f c t)
 |adj (l:List Adj) {c:TC} {c':SC}:Er c c'->Er (.adj l c) c'
 |split (k off lo n:Nat) {c:TC} {c':SC}:Er c c'->Er (.split k off lo n c) c'
 |unl (n:Nat) {b:TC} {b':SC}:Er b b'->Er (.unl n b) (.loop b')
 |bad (c:SC):Er .bad c
theorem Cp {H:PT adb} {n:Nat} {c:TC} {c':SC} (h:Er c c'):Er (H_ H n c) c':=by
 unfold H_;split
 .exact .adj _ h
 .exact .split _ _ _ _ h
 .exact h
theorem xT (H:PT adb):∀ (c:SC) (n:Nat),Er (DL H c n).1 c
 |.skip,n=>Cp .skip
 |.reg o p,n=>Cp (.reg o p)
 |.seq a b,n=>by
  have h1:=xT H a (n+1);have h2:=xT H b (DL H a (n+1)).2;simp only[DL];split
  .exact .jseq _ h1 h2
  .exact .seq h1 h2
 |.cond c a b,n=>by
  have h1:=xT H a (n+1);have h2:=xT H b (DL H a (n+1)).2;simp only[DL];exact Cp (.cond c h1 h2)
 |.block id b,n=>by
  have h1:=xT H b (n+1);simp only[DL];split
  .exact .jblock _ id h1
  .exact .block id h1
 |.loop b,n=>by
  have h1:=xT H b (n+1);simp only[DL];split
  .exact .loop _ h1
  .exact .unl _ h1
  .exact .bad _
 |.exit id,n=>Cp (.exit id)
 |.ret,n=>Cp .ret
 |.defer f c t,n=>.defer f c t
 |.bad,n=>.bad _
theorem Ya {σ R:Type} {step:σ->Option (σ⊕R)} {x:σ} {r:R} (h:iter step x=af r):∃ n,iterN step n x=af r:=by
 unfold iter at h;split at h
 .exact⟨_,h⟩
 .cases h
theorem W3 {α R:Type} {o:Option (R⊕α)} {k:α->Option R} {r:R} (h:jn o k=af r):(∃ x,o=af (.inr x)/\k x=af r)\/o=af (.inl r):=by
 unfold jn at h;split at h
 .exact .inl ⟨_,rfl,h⟩
 .cases h;exact .inr rfl
 .cases h
section inv
variable {P:Program} {nt:Nat}
theorem zO (id:Nat) (ops:Array Oper) (I:Bool):cr P nt (.region id ops I)= .bad\/
 ((ops.toList.all λo=>match o.dst with|some d=>decide (d<nt)|none=>ai)=ai/\
   ((∃ f caps t,DK ops I=af (f,caps,t)/\cr P nt (.region id ops I)= .defer f caps t)\/
    ∃ l prs,r9 P ops ops.toList=af l/\MG ops l=af prs/\cr P nt (.region id ops I)= .reg l prs)):=by
 simp only[cr];split
 .rename_i hd;split
  .rename_i f caps t h;exact .inr ⟨hd,.inl ⟨f,caps,t,h,rfl⟩⟩
  .split
   .rename_i l hl;split
    .rename_i prs hp;exact .inr ⟨hd,.inr ⟨l,prs,hl,hp,rfl⟩⟩
    .exact .inl rfl
   .exact .inl rfl
 .exact .inl rfl
def Eu:Code->Bool
 |.cond (.const (.bool _)) _ _=>aj
 |_=>ai
theorem j7 (P:Program) (nt:Nat) (c:Code):∃ c',Eu c'=ai/\cr P nt c'=cr P nt c/\∀ Q a w,c'.wp P Q a w->c.wp P Q a w:=by
 have self:∀ c:Code,Eu c=ai->∃ c',Eu c'=ai/\cr P nt c'=cr P nt c/\∀ Q a w,c'.wp P Q a w->c.wp P Q a w:=λc h=>⟨c,h,rfl,λ_ _ _ h=>h⟩
 induction c with
 |cond o x y ihx ihy=>
  cases o with
  |const v=>
   cases v with
   |bool b=>
    cases b with
    |true=>
     obtain⟨c',h1,h2,I⟩:=ihx;exact⟨c',h1,h2,λQ a w h=>wp_cond_true rfl (I Q a w h)⟩
    |false=>
     obtain⟨c',h1,h2,I⟩:=ihy;exact⟨c',h1,h2,λQ a w h=>wp_cond_false rfl (I Q a w h)⟩
   |_=>exact self _ rfl
  |_=>exact self _ rfl
 |_=>exact self _ rfl
theorem FK {α:Prop} {o:Operand} {x y:Code} {sc:SC} (hn:Eu (.cond o x y)=ai) (h:cr P nt (.cond o x y)=sc) (h1:sc≠ .bad) (h2:∀ t a b,sc≠ .cond t a b):α:=by
 cases o with
 |tmp q=>exact (h2 _ _ _ h.symm).elim
 |const v=>cases v<;>first|exact (h1 h.symm).elim|cases hn
 |global g=>exact (h1 h.symm).elim
 |func f=>exact (h1 h.symm).elim
theorem aer {c:Code} {sl:List sL} {prs:List (Nat×Nat)} (hn:Eu c=ai) (h:cr P nt c= .reg sl prs):∃ id ops I,c= .region id ops I/\(ops.toList.all λo=>match o.dst with|some d=>decide (d<nt)|none=>ai)=ai/\r9 P ops ops.toList=af sl/\MG ops sl=af prs:=by
 cases c with
 |region id ops I=>
  rcases zO (P:=P) (nt:=nt) id ops I with h1|⟨hd,⟨f,caps,t,_,h1⟩|⟨l,p,h2,J,h1⟩⟩
  .rw[h1] at h;cases h
  .rw[h1] at h;cases h
  .rw[h1] at h;cases h;exact⟨id,ops,I,rfl,hd,h2,J⟩
 |cond o x y=>exact FK hn h (by simp) (by simp)
 |_=>simp[cr] at h
theorem Yb {c:Code} {f:FuncId} {caps:List Operand} {t:Nat} (hn:Eu c=ai) (h:cr P nt c= .defer f caps t):∃ id ops I,c= .region id ops I/\(ops.toList.all λo=>match o.dst with|some d=>decide (d<nt)|none=>ai)=ai/\DK ops I=af (f,caps,t):=by
 cases c with
 |region id ops I=>
  rcases zO (P:=P) (nt:=nt) id ops I with h1|⟨hd,⟨f',caps',t',h2,h1⟩|⟨l,p,h2,J,h1⟩⟩
  .rw[h1] at h;cases h
  .rw[h1] at h;cases h;exact⟨id,ops,I,rfl,hd,h2⟩
  .rw[h1] at h;cases h
 |cond o x y=>exact FK hn h (by simp) (by simp)
 |_=>simp[cr] at h
theorem ph {c:Code} {sc:SC} (h:cr P nt c=sc) (h1:sc≠ .bad) (h2:∀ a b,sc≠ .reg a b) (M:∀ a b t,sc≠ .defer a b t):∀ id ops J,c≠ .region id ops J:=by
 rintro id ops J rfl;rcases zO (P:=P) (nt:=nt) id ops J with I|⟨_,⟨f,caps,t,_,I⟩|⟨l,p,_,_,I⟩⟩<;>rw[I] at h
 .exact h1 h.symm
 .exact M _ _ _ h.symm
 .exact h2 _ _ h.symm
theorem aaz {c:Code} (hn:Eu c=ai) (h:cr P nt c= .skip):c= .skip:=by
 have I:=ph h (by simp) (by simp) (by simp);cases c with
 |skip=>rfl
 |region id ops J=>exact cR rfl (I id ops J)
 |cond o x y=>exact FK hn h (by simp) (by simp)
 |_=>simp[cr] at h
theorem aeq {c:Code} (hn:Eu c=ai) (h:cr P nt c= .ret):c= .ret:=by
 have I:=ph h (by simp) (by simp) (by simp);cases c with
 |ret=>rfl
 |region id ops J=>exact cR rfl (I id ops J)
 |cond o x y=>exact FK hn h (by simp) (by simp)
 |_=>simp[cr] at h
theorem ab0 {c:Code} {i:Nat} (hn:Eu c=ai) (h:cr P nt c= .exit i):c= .exit i:=by
 have I:=ph h (by simp) (by simp) (by simp);cases c with
 |exit id=>simp[cr] at h;rw[h]
 |region id ops J=>exact cR rfl (I id ops J)
 |cond o x y=>exact FK hn h (by simp) (by simp)
 |_=>simp[cr] at h
theorem W6 {c:Code} {a b:SC} (hn:Eu c=ai) (h:cr P nt c= .seq a b):∃ x y,c= .seq x y/\cr P nt x=a/\cr P nt y=b:=by
 have I:=ph h (by simp) (by simp) (by simp);cases c with
 |seq x y=>simp[cr] at h;exact⟨x,y,rfl,h.1,h.2⟩
 |region id ops J=>exact cR rfl (I id ops J)
 |cond o x y=>exact FK hn h (by simp) (by simp)
 |_=>simp[cr] at h
theorem ab1 {c:Code} {t:Nat} {a b:SC} (hn:Eu c=ai) (h:cr P nt c= .cond t a b):∃ x y,c= .cond (.tmp t) x y/\cr P nt x=a/\cr P nt y=b:=by
 have I:=ph h (by simp) (by simp) (by simp);cases c with
 |cond o x y=>
  cases o with
  |tmp q=>simp[cr] at h;obtain⟨rfl,h1,h2⟩:=h;exact⟨x,y,rfl,h1,h2⟩
  |const v=>cases v<;>first|(simp [cr] at h;done)|cases hn
  |_=>simp[cr] at h
 |region id ops J=>exact cR rfl (I id ops J)
 |_=>simp[cr] at h
theorem MT {c:Code} {id:Nat} {b:SC} (hn:Eu c=ai) (h:cr P nt c= .block id b):∃ y,c= .block id y/\cr P nt y=b:=by
 have I:=ph h (by simp) (by simp) (by simp);cases c with
 |block i y=>simp[cr] at h;obtain⟨rfl,h1⟩:=h;exact⟨y,rfl,h1⟩
 |region id ops J=>exact cR rfl (I id ops J)
 |cond o x y=>exact FK hn h (by simp) (by simp)
 |_=>simp[cr] at h
theorem QF {c:Code} {b:SC} (hn:Eu c=ai) (h:cr P nt c= .loop b):∃ y,c= .loop y/\cr P nt y=b:=by
 have I:=ph h (by simp) (by simp) (by simp);cases c with
 |loop y=>simp[cr] at h;exact⟨y,rfl,h⟩
 |region id ops J=>exact cR rfl (I id ops J)
 |cond o x y=>exact FK hn h (by simp) (by simp)
 |_=>simp[cr] at h
end inv
def ahx {R:Type} (P:Program) (E:Nat->Prop) (nt np:Nat) (φ:PM) (s:TS) (w:World) (am:Nat) (K:Ex->TS->Option R) (r:R):Exit->Act->World->Prop:=
 λe a' w'=>∃ ex s' φ',e=ex.to/\K ex s'=af r/\oP P E nt np φ' s' a' w'/\Cm np φ φ' (bC s.h) (bC s'.h) w w'/\gx am s.e s'.e
theorem oP.bool {P:Program} {E:Nat->Prop} {nt np:Nat} {φ:PM} {s:TS} {a:Act} {w:World} (c:oP P E nt np φ s a w) {t:Nat} {b:Bool} (ht:s.e.get t=af (.f .bool b)):a.eval (.tmp t)= .bool b:=
 fB (c.env t _ (by simp only[fV,ht,aH,cq];rfl))
theorem oP.anyb {P:Program} {E:Nat->Prop} {nt np:Nat} {φ:PM} {s:TS} {a:Act} {w:World} (c:oP P E nt np φ s a w) {t:Nat} (ht:s.e.get t=af .anyb):∃ b,a.eval (.tmp t)= .bool b:=by
 have:=c.env t .anyb (by simp only[fV,ht,aH,cq]);show ∃ b,a.tmps.getD t undef= .bool b;generalize a.tmps.getD t undef=z at this;cases this with
 |anyb=>exact⟨_,rfl⟩
theorem Y9 {R:Type} {a b:Option R} {r:R} (h:Fo a b=af r):a=af r/\b=af r:=by
 unfold Fo at h;split at h
 .rename_i e;exact⟨h,by rw[<- e];exact h⟩
 .cases h
theorem aie {P:Program} {E:Nat->Prop} {nt np:Nat} {con:FuncId->Option cg} {bX:TypeId->Option Ty} {inert:FuncId->Bool} (hm:P.follows .mixedOrders=ai) (hcon:La P con) (hin:K4 P inert):
 ∀ {tc:TC} {sc:SC},Er tc sc->∀ (c:Code),cr P nt c=sc->∀ (R:Type) (s:TS) (K:Ex->TS->Option R) (r:R),o_ np con bX inert tc s K=af r->∀ (φ:PM) (a:Act) (w:World),oP P E nt np φ s a w->c.wp P (ahx P E nt np φ s w (tc.asg 0) K r) a w:=by
 intro tc sc hE;induction hE with
 |skip=>
  intro c hc R s K r h φ a w g;obtain⟨c',hn,I,hsim⟩:=j7 P nt c;refine hsim _ _ _ ?_;rw[<- I] at hc;rw[aaz hn hc];exact wp_skip ⟨.normal,s,φ,rfl,h,g,Cm.refl _ _ _ _,gx.refl _ _⟩
 |reg ops prs=>
  intro c hc R s K r h φ a w g;obtain⟨c',hn,I,hsim⟩:=j7 P nt c;refine hsim _ _ _ ?_;rw[<- I] at hc;obtain⟨id,os,dr,rfl,h1,h2,Y⟩:=aer hn hc;simp only[o_] at h;refine aaa (K:=λs'=>K .normal s') hm hcon g (am:=Pr ops 0) (λj o d ho hd=>?_) h1 h2 Y h λa' w' s' φ' q1 q2 q3 q4=>⟨.normal,s',φ',rfl,q1,q2,q3,q4⟩
  have hmem:o∈os.toList:=by have:=Array.mem_of_getElem? ho;simpa using this
  have key:∀ (rest:List Oper) (sl:List sL),r9 P os rest=af sl->∀ o∈rest,∃ so∈sl,so.dst=o.dst:=by
   intro rest;induction rest with
   |nil=>intro sl _ o ho;cases ho
   |cons x rest Z=>
    intro sl hsl o ho;simp only[r9] at hsl;split at hsl
    .rename_i l hl;have:∃ so,sl=so::l/\so.dst=x.dst:=by
      split at hsl
      .simp only[ak] at hsl;exact⟨_,hsl.symm,rfl⟩
      .split at hsl
       .simp only[ak] at hsl;exact⟨_,hsl.symm,rfl⟩
       .cases hsl
     obtain⟨so,rfl,hso⟩:=this;rcases bm.1 ho with rfl|ho
     .exact⟨so,by simp,hso⟩
     .obtain⟨q,hq,hq2⟩:=Z l hl o ho;exact⟨q,by simp[hq],hq2⟩
    .cases hsl
  obtain⟨so,hso,hd2⟩:=key os.toList ops h2 o hmem;exact SK hso (by rw[hd2];exact hd)
 |@seq x y x' y' _ _ ihx ihy=>
  intro c hc R s K r h φ a w g;obtain⟨c',hn,I,hsim⟩:=j7 P nt c;refine hsim _ _ _ ?_;rw[<- I] at hc;obtain⟨cx,cy,rfl,h1,h2⟩:=W6 hn hc;simp only[o_] at h;refine wp_seq (wp_mono (ihx cx h1 R s _ r h φ a w g) ?_);rintro e a' w' ⟨ex,s',φ',rfl,hk,g',st,J⟩;have kp':gx ((TC.seq x y).asg 0) s.e s'.e:=J.mono λk hk=>by simp only[TC.asg];exact kl hk
  cases ex with
  |normal=>
   refine wp_mono (ihy cy h2 R s' K r hk φ' a' w' g') ?_;rintro e2 a2 w2 ⟨ex2,s2,φ2,rfl,hk2,g2,st2,kp2⟩;exact⟨ex2,s2,φ2,rfl,hk2,g2,st.trans st2,kp'.trans (kp2.mono λk hk=>by simp only[TC.asg];exact vC hk)⟩
  |exit id=>exact⟨.exit id,s',φ',rfl,hk,g',st,kp'⟩
  |ret=>exact⟨.ret,s',φ',rfl,hk,g',st,kp'⟩
 |@jseq A x y x' y' _ _ ihx ihy=>
  intro c hc R s K r h φ a w g;obtain⟨c',hn,I,hsim⟩:=j7 P nt c;refine hsim _ _ _ ?_;rw[<- I] at hc;obtain⟨cx,cy,rfl,h1,h2⟩:=W6 hn hc;simp only[o_] at h;have sub1:∀ k,aN (x.asg 0) k=ai->aN ((TC.jseq A x y).asg 0) k=ai:=λk hk=>by simp only[TC.asg];exact kl (vC hk)
  have sub2:∀ k,aN (y.asg 0) k=ai->aN ((TC.jseq A x y).asg 0) k=ai:=λk hk=>by simp only[TC.asg];exact vC hk
  have sub3:∀ k,aN (Lv A.ks 0) k=ai->aN ((TC.jseq A x y).asg 0) k=ai:=λk hk=>by simp only[TC.asg];exact kl (kl hk)
  rcases W3 h with ⟨d,Y,h4⟩|Y
  .refine wp_seq (wp_mono (ihx cx h1 _ s _ _ Y φ a w g) ?_);rintro e a' w' ⟨ex,s',φ',rfl,hk,g',st,J⟩;cases ex with
   |normal=>
    simp only[] at hk;obtain⟨d',q1,q2⟩:=dK hk;simp only[ak,Sum.inr.injEq] at q2;subst q2;split at h4
    .rename_i s1 U;obtain⟨φ1,g1,Ii⟩:=Oh g' q1 U λk _ _ v hv hf ha v' M=>by
      obtain⟨v0,e1,e2⟩:=J k ha v' M;rw[hv] at e1;cases e1;exact e2 hf
     refine wp_mono (ihy cy h2 R s1 K r h4 φ1 a' w' g1) ?_;rintro e2 a2 w2 ⟨ex2,s2,φ2,rfl,hk2,g2,st2,kp2⟩;exact⟨ex2,s2,φ2,rfl,hk2,g2,(st.trans Ii).trans st2,((Ej U).1.mono sub3).trans (kp2.mono sub2)⟩
    .cases h4
   |exit id=>simp only[] at hk;obtain⟨_,_,q2⟩:=dK hk;simp at q2
   |ret=>simp only[] at hk;obtain⟨_,_,q2⟩:=dK hk;simp at q2
  .refine wp_seq (wp_mono (ihx cx h1 _ s _ _ Y φ a w g) ?_);rintro e a' w' ⟨ex,s',φ',rfl,hk,g',st,J⟩;cases ex with
   |normal=>simp only[] at hk;obtain⟨_,_,q2⟩:=dK hk;simp at q2
   |exit id=>
    simp only[] at hk;obtain⟨r',q1,q2⟩:=dK hk;simp only[ak,Sum.inl.injEq] at q2;subst q2;exact⟨.exit id,s',φ',rfl,q1,g',st,J.mono sub1⟩
   |ret=>
    simp only[] at hk;obtain⟨r',q1,q2⟩:=dK hk;simp only[ak,Sum.inl.injEq] at q2;subst q2;exact⟨.ret,s',φ',rfl,q1,g',st,J.mono sub1⟩
 |@cond t x y x' y' _ _ ihx ihy=>
  intro c hc R s K r h φ a w g;obtain⟨c',hn,I,hsim⟩:=j7 P nt c;refine hsim _ _ _ ?_;rw[<- I] at hc;obtain⟨cx,cy,rfl,h1,h2⟩:=ab1 hn hc;simp only[o_] at h;split at h
  .rename_i b hb;rcases pw h with ⟨rfl,h⟩|⟨rfl,h⟩
   .refine wp_cond_true (g.bool hb) (wp_mono (ihx cx h1 R s K r h φ a w g) ?_);rintro e a' w' ⟨ex,s',φ',rfl,hk,g',st,J⟩;exact⟨ex,s',φ',rfl,hk,g',st,J.mono λk hk=>by simp only[TC.asg];exact kl hk⟩
   .refine wp_cond_false (g.bool hb) (wp_mono (ihy cy h2 R s K r h φ a w g) ?_);rintro e a' w' ⟨ex,s',φ',rfl,hk,g',st,J⟩;exact⟨ex,s',φ',rfl,hk,g',st,J.mono λk hk=>by simp only[TC.asg];exact vC hk⟩
  .rename_i hb;obtain⟨ha,hbb⟩:=Y9 h;obtain⟨bv,hbv⟩:=g.anyb hb;cases bv with
   |true=>
    refine wp_cond_true hbv (wp_mono (ihx cx h1 R s K r ha φ a w g) ?_);rintro e a' w' ⟨ex,s',φ',rfl,hk,g',st,J⟩;exact⟨ex,s',φ',rfl,hk,g',st,J.mono λk hk=>by simp only[TC.asg];exact kl hk⟩
   |false=>
    refine wp_cond_false hbv (wp_mono (ihy cy h2 R s K r hbb φ a w g) ?_);rintro e a' w' ⟨ex,s',φ',rfl,hk,g',st,J⟩;exact⟨ex,s',φ',rfl,hk,g',st,J.mono λk hk=>by simp only[TC.asg];exact vC hk⟩
  .cases h
 |@block id b b' _ Z=>
  intro c hc R s K r h φ a w g;obtain⟨c',hn,I,hsim⟩:=j7 P nt c;refine hsim _ _ _ ?_;rw[<- I] at hc;obtain⟨cb,rfl,h1⟩:=MT hn hc;simp only[o_] at h;refine wp_block (wp_mono (Z cb h1 R s _ r h φ a w g) ?_);rintro e a' w' ⟨ex,s',φ',rfl,hk,g',st,J⟩;cases ex with
  |normal=>exact⟨.normal,s',φ',rfl,hk,g',st,J⟩
  |ret=>exact⟨.ret,s',φ',rfl,hk,g',st,J⟩
  |exit i=>
   simp only[Ex.to,Exit.inBlock];simp only[] at hk;split at hk
   .rename_i hb;rw[aF (aw hb)];exact⟨.normal,s',φ',rfl,hk,g',st,J⟩
   .rename_i hb;rw[ay (λe=>hb (by rw[e];exact rS id))];exact⟨.exit i,s',φ',rfl,hk,g',st,J⟩
 |@jblock A id b b' _ Z=>
  intro c hc R s K r h φ a w g;obtain⟨c',hn,I,hsim⟩:=j7 P nt c;refine hsim _ _ _ ?_;rw[<- I] at hc;obtain⟨cb,rfl,h1⟩:=MT hn hc;simp only[o_] at h;have sub1:∀ k,aN (b.asg 0) k=ai->aN ((TC.jblock A id b).asg 0) k=ai:=λk hk=>by simp only[TC.asg];exact vC hk
  have sub3:∀ k,aN (Lv A.ks 0) k=ai->aN ((TC.jblock A id b).asg 0) k=ai:=λk hk=>by simp only[TC.asg];exact kl hk
  rcases W3 h with ⟨d,Y,h4⟩|Y
  .refine wp_block (wp_mono (Z cb h1 _ s _ _ Y φ a w g) ?_);rintro e a' w' ⟨ex,s',φ',rfl,hk,g',st,J⟩;have fin:obind (LV np A (b.asg 0) s s') (λx=>af (bP (α:=R) x))=af (bP d)->ahx P E nt np φ s w ((TC.jblock A id b).asg 0) K r .normal a' w':=by
    intro hk;obtain⟨d',q1,q2⟩:=dK hk;simp only[ak,Sum.inr.injEq] at q2;subst q2;split at h4
    .rename_i s1 U;obtain⟨φ1,g1,Ii⟩:=Oh g' q1 U λk _ _ v hv hf ha v' M=>by
      obtain⟨v0,e1,e2⟩:=J k ha v' M;rw[hv] at e1;cases e1;exact e2 hf
     exact⟨.normal,s1,φ1,rfl,h4,g1,st.trans Ii,(Ej U).1.mono sub3⟩
    .cases h4
   cases ex with
   |normal=>exact fin hk
   |ret=>simp only[] at hk;obtain⟨_,_,q2⟩:=dK hk;simp at q2
   |exit i=>
    simp only[Ex.to,Exit.inBlock];simp only[] at hk;split at hk
    .rename_i hb;rw[aF (aw hb)];exact fin hk
    .obtain⟨_,_,q2⟩:=dK hk;simp at q2
  .refine wp_block (wp_mono (Z cb h1 _ s _ _ Y φ a w g) ?_);rintro e a' w' ⟨ex,s',φ',rfl,hk,g',st,J⟩;cases ex with
   |normal=>simp only[] at hk;obtain⟨_,_,q2⟩:=dK hk;simp at q2
   |ret=>
    simp only[] at hk;obtain⟨r',q1,q2⟩:=dK hk;simp only[ak,Sum.inl.injEq] at q2;subst q2;exact⟨.ret,s',φ',rfl,q1,g',st,J.mono sub1⟩
   |exit i=>
    simp only[Ex.to,Exit.inBlock];simp only[] at hk;split at hk
    .obtain⟨_,_,q2⟩:=dK hk;simp at q2
    .rename_i hb;rw[ay (λe=>hb (by rw[e];exact rS id))];obtain⟨r',q1,q2⟩:=dK hk;simp only[ak,Sum.inl.injEq] at q2;subst q2;exact⟨.exit i,s',φ',rfl,q1,g',st,J.mono sub1⟩
 |@loop A b b' _ Z=>
  intro c hc R s K r h φ a w g;obtain⟨c',hn,I,hsim⟩:=j7 P nt c;refine hsim _ _ _ ?_;rw[<- I] at hc;obtain⟨cb,rfl,h1⟩:=QF hn hc;simp only[o_] at h;obtain⟨x0,hx0,h⟩:=dK h;obtain⟨n,hn⟩:=Ya h;have sub1:∀ k,aN (b.asg 0) k=ai->aN ((TC.loop A b).asg 0) k=ai:=λk hk=>by simp only[TC.asg];exact vC hk
  have sub3:∀ k,aN (Lv A.ks 0) k=ai->aN ((TC.loop A b).asg 0) k=ai:=λk hk=>by simp only[TC.asg];exact kl hk
  obtain⟨step,hstep⟩:∃ step:A.D->Option (A.D⊕R),step=λx=>(match G2 A (b.asg 0) s x with
   |some s'=>o_ np con bX inert b s' λex s'=>(match ex with
    |.normal=>obind (LV np A (b.asg 0) s s') λy=>af (mr y)
    |ex=>obind (K ex s') λr=>af (bP r))
   |none=>ah):=⟨_,rfl⟩
  have hn:iterN step n x0=af r:=by rw[hstep];exact hn
  have stepEq:∀ x,step x=(match G2 A (b.asg 0) s x with
   |some s'=>o_ np con bX inert b s' λex s'=>(match ex with
    |.normal=>obind (LV np A (b.asg 0) s s') λy=>af (mr y)
    |ex=>obind (K ex s') λr=>af (bP r))
   |none=>ah):=λx=>by rw[hstep]
  let Inv:Nat->Act->World->Prop:=λn a w'=>∃ x s1 φ1,iterN step n x=af r/\G2 A (b.asg 0) s x=af s1/\oP P E nt np φ1 s1 a w'/\Cm np φ φ1 (bC s.h) (bC s1.h) w w'
  have head:∀ (n:Nat) (x:A.D),iterN step n x=af r->∃ s1,G2 A (b.asg 0) s x=af s1:=by
   intro n x hn;cases n with
   |zero=>cases hn
   |succ n=>
    simp only[iterN] at hn;cases hr:G2 A (b.asg 0) s x with
    |some s1=>exact⟨s1,rfl⟩
    |none=>rw[stepEq,hr] at hn;cases hn
  refine Cr Inv ?_ (n:=n) ?_
  .rintro n a1 w1 ⟨x,s1,φ1,hi,hr,g1,Ii⟩;cases n with
   |zero=>cases hi
   |succ n=>
    simp only[iterN] at hi;have hse:=stepEq x;rw[hr] at hse;simp only[] at hse;obtain⟨kp1,kp1'⟩:=Ej hr;split at hi
    .rename_i y hy;rw[hy] at hse;refine wp_mono (Z cb h1 _ s1 _ _ hse.symm φ1 a1 w1 g1) ?_;rintro e a' w' ⟨ex,s',φ',rfl,hk,g',st,J⟩;cases ex with
     |normal=>
      simp only[] at hk;obtain⟨d',q1,q2⟩:=dK hk;simp only[ak,Sum.inl.injEq] at q2;subst q2;obtain⟨s2,hs2⟩:=head n d' hi;obtain⟨φ2,g2,st2⟩:=Oh g' q1 hs2 λk hkk hks v hv hf ha v' M=>by
       obtain⟨v0,e1,e2⟩:=J k ha v' M;have:=kp1' k hks v0 e1;rw[hv] at this;cases this;exact e2 hf
      exact⟨n,by omega,d',s2,φ2,hi,hs2,g2,(Ii.trans st).trans st2⟩
     |exit id=>simp only[] at hk;obtain⟨_,_,q2⟩:=dK hk;simp at q2
     |ret=>simp only[] at hk;obtain⟨_,_,q2⟩:=dK hk;simp at q2
    .rename_i r' hy;cases hi;rw[hy] at hse;refine wp_mono (Z cb h1 _ s1 _ _ hse.symm φ1 a1 w1 g1) ?_;rintro e a' w' ⟨ex,s',φ',rfl,hk,g',st,J⟩;cases ex with
     |normal=>simp only[] at hk;obtain⟨_,_,q2⟩:=dK hk;simp at q2
     |exit id=>
      simp only[] at hk;obtain⟨r',q1,q2⟩:=dK hk;simp only[ak,Sum.inr.injEq] at q2;subst q2;exact⟨.exit id,s',φ',rfl,q1,g',Ii.trans st,(kp1.mono sub3).trans (J.mono sub1)⟩
     |ret=>
      simp only[] at hk;obtain⟨r',q1,q2⟩:=dK hk;simp only[ak,Sum.inr.injEq] at q2;subst q2;exact⟨.ret,s',φ',rfl,q1,g',Ii.trans st,(kp1.mono sub3).trans (J.mono sub1)⟩
    .cases hi
  .obtain⟨s1,U⟩:=head n x0 hn;obtain⟨φ1,g1,Ii⟩:=Oh g hx0 U λk _ _ v hv _ _ v' M=>by rw[hv] at M;cases M;rfl
   exact⟨x0,s1,φ1,hn,U,g1,Ii⟩
 |exit id=>
  intro c hc R s K r h φ a w g;obtain⟨c',hn,I,hsim⟩:=j7 P nt c;refine hsim _ _ _ ?_;rw[<- I] at hc;rw[ab0 hn hc];exact wp_exit ⟨.exit id,s,φ,rfl,h,g,Cm.refl _ _ _ _,gx.refl _ _⟩
 |ret=>
  intro c hc R s K r h φ a w g;obtain⟨c',hn,I,hsim⟩:=j7 P nt c;refine hsim _ _ _ ?_;rw[<- I] at hc;rw[aeq hn hc];exact wp_ret ⟨.ret,s,φ,rfl,h,g,Cm.refl _ _ _ _,gx.refl _ _⟩
 |defer f caps t=>
  intro c hc R s K r h φ a w g;obtain⟨c',hn,I,hsim⟩:=j7 P nt c;refine hsim _ _ _ ?_;rw[<- I] at hc;obtain⟨id,ops,dr,rfl,h1,h2⟩:=Yb hn hc;simp only[o_] at h;split at h
  .rename_i l hl;split at h
   .rename_i hi;obtain⟨l',e1,e2⟩:=yX g.invE hl;obtain⟨H,hH⟩:=jM s.h;have lowN:∀ n k,φ n=af k->n<2*s.nx+2:=λn k hk=>by have:=g.dom n k hk;unfold ow at this;omega
    have cfg:Cfg P ⟨2*s.nx+2,φ,E,bC s.h,w⟩ nt ⟨Jx s.e s.h,H,2*s.nx+2,0⟩ a w:=by
     refine ⟨⟨φ,?_,?_,?_,lowN,λi k hk=>.inl hk⟩,bW _,g.inert,g.size⟩
     .rw[hH];exact i_.refl _ _ _
     .rw[hH];exact g.rep
     .rw[hH,vw];exact g.env
    refine RI hin cfg h1 h2 e1 hi λa' w' c'=>?_
    obtain⟨φ',m',r',en',dm',d0'⟩:=c'.ex;have hφ:φ'=φ:=by
     funext n;cases hx:φ n with
     |some k=>exact m'.sub n k hx
     |none=>
      cases hy:φ' n with
      |none=>rfl
      |some k=>
       rcases d0' n k hy with Y|Y
       .have Y:φ n=af k:=Y;rw[hx] at Y;cases Y
       .have h4:n<2*s.nx+2:=dm' n k hy;have h5:2*s.nx+2<=n:=Y;omega
    subst hφ;simp only[hH] at m' r' en';refine ⟨.normal,_,φ',rfl,h,⟨r',?_,g.dom,g.low,g.invH,?_,c'.inert,c'.size⟩,⟨m'.ext,m'.own_,λ_ _=>rfl⟩,?_⟩
    .intro u x hx;refine en' u x ?_;simp only[fV,PT.get_set] at hx;simp only[zY.put,PT.get_set];split at hx
     .rename_i eu;rw[aF eu];simp only[aH,cq,e2,ak] at hx;rw[hx]
     .rename_i eu;rw[ay eu,vw];exact hx
    .intro u x hx;simp only[PT.get_set] at hx;split at hx
     .cases hx;simp only[Ls];exact kO _ _ _ e2
     .exact g.invE u x hx
    .intro k hk v' M;simp only[PT.get_set] at M;split at M
     .rename_i ek;subst ek;simp only[TC.asg] at hk;rw[bt,bY.2 rfl] at hk;simp at hk
     .exact⟨v',M,λ_=>rfl⟩
   .cases h
  .cases h
 |@adj l tc' sc' _ Z=>
  intro c hc R s K r h φ a w g;obtain⟨c',hn,I,hsim⟩:=j7 P nt c;refine hsim _ _ _ ?_;rw[<- I] at hc;simp only[o_] at h;split at h
  .rename_i s1 U;obtain⟨φ1,g1,Ii,kp1⟩:=V6 g U;refine wp_mono (Z c' hc R s1 K r h φ1 a w g1) ?_;rintro e a' w' ⟨ex,s',φ',rfl,hk,g',st,J⟩;exact⟨ex,s',φ',rfl,hk,g',Ii.trans st,(kp1.mono λk hk=>by simp only[TC.asg];exact kl hk).trans (J.mono λk hk=>by simp only[TC.asg];exact vC hk)⟩
  .cases h
 |@split k off lo n tc' sc' _ Z=>
  intro c hc R s K r h φ a w g;obtain⟨c',hn,I,hsim⟩:=j7 P nt c;refine hsim _ _ _ ?_;rw[<- I] at hc;simp only[o_] at h;split at h
  .rename_i kd v hv;obtain⟨j,hj,h2⟩:=Qb h;subst hj;split at h2
   .rename_i s1 U;obtain⟨g1,hH,he⟩:=aa6 g hv U;refine wp_mono (Z c' hc R s1 K r h2 φ a w g1) ?_;rintro e a' w' ⟨ex,s',φ',rfl,hk,g',st,J⟩;exact⟨ex,s',φ',rfl,hk,g',by rw[<- hH];exact st,λk hk v' M=>by
     obtain⟨v,q1,q2⟩:=J k hk v' M;exact⟨v,by rw[<- he];exact q1,q2⟩⟩
   .cases h2
  .cases h
 |@unl n b b' _ Z=>
  intro c hc R s K r h φ a w g;obtain⟨c',hn,I,hsim⟩:=j7 P nt c;refine hsim _ _ _ ?_;rw[<- I] at hc;obtain⟨cb,rfl,h1⟩:=QF hn hc;simp only[o_] at h
  let Inv:Nat->Act->World->Prop:=λm a w'=>∃ s1 φ1,ady (λs K=>o_ np con bX inert b s K) m s1 K=af r/\oP P E nt np φ1 s1 a w'/\Cm np φ φ1 (bC s.h) (bC s1.h) w w'/\gx (b.asg 0) s.e s1.e
  refine Cr Inv ?_ (n:=n) ⟨s,φ,h,g,Cm.refl _ _ _ _,gx.refl _ _⟩;rintro m a1 w1 ⟨s1,φ1,hi,g1,Ii,kp1⟩;cases m with
  |zero=>cases hi
  |succ m=>
   simp only[ady] at hi;refine wp_mono (Z cb h1 R s1 _ r hi φ1 a1 w1 g1) ?_;rintro e a' w' ⟨ex,s',φ',rfl,hk,g',st,J⟩;cases ex with
   |normal=>exact⟨m,Cj m,s',φ',hk,g',Ii.trans st,kp1.trans J⟩
   |exit id=>exact⟨.exit id,s',φ',rfl,hk,g',Ii.trans st,kp1.trans J⟩
   |ret=>exact⟨.ret,s',φ',rfl,hk,g',Ii.trans st,kp1.trans J⟩
 |bad sc'=>
  intro c hc R s K r h;simp[o_] at h
theorem N2 {P:Program} {φ:PM} {E:Nat->Prop} {s:TS} {a:Act} {w:World} (hinv:md s.h s.nx) (hiE:tN s.e s.h) (r:rf φ E (bC s.h) w) (en:NC φ (tot E φ (bC s.h)) w (fV s.e s.h) a):∀ (rs:List ResultVar) (rvs:List RV) (l:List TV),vB P rs=af rvs->T8 s rvs=af l->
 ∃ la vs,cN s.h l=af la/\(rs.mapM (X0 a.tmps)).run P w= .ok vs w/\jW φ (tot E φ (bC s.h)) w la vs
 |[],rvs,l,hc,hr=>by
  simp only[vB,ak] at hc;subst hc;simp only[T8,ak] at hr;subst hr;exact⟨[],[],rfl,by simp,trivial⟩
 |.tmp t::rs,rvs,l,hc,hr=>by
  simp only[vB] at hc;split at hc
  .rename_i rvs' hrs;simp only[ak] at hc;subst hc;simp only[T8] at hr;split at hr
   .rename_i v hv;split at hr
    .rename_i M I;simp only[ak] at hr;subst hr;obtain⟨la,vs,h0,h1,h2⟩:=N2 hinv hiE r en rs rvs' M hrs I;simp only[rvT] at hv;obtain⟨y,Y⟩:=qd s.h v (hiE t v hv);refine ⟨y::la,a.tmps.getD t undef::vs,o6 Y h0,?_,en t y (by simp only[fV,hv,aH,Y]),h2⟩;simp only[List.mapM_cons,eL,X0,oR,cL];show ((rs.mapM (X0 a.tmps)).run P w).andThen _=_;rw[h1];rfl
    .cases hr
   .cases hr
  .cases hc
 |.cell ad t::rs,rvs,l,hc,hr=>by
  simp only[vB] at hc;split at hc
  .rename_i rvs' sz ag hrs hsz hag;simp only[ak] at hc;subst hc;simp only[T8] at hr;split at hr
   .rename_i v hv;split at hr
    .rename_i M I;simp only[ak] at hr;subst hr;obtain⟨la,vs,h0,h1,h2⟩:=N2 hinv hiE r en rs rvs' M hrs I;simp only[rvT] at hv;split at hv
     .rename_i id off hp;split at hv
      .rename_i ty q hb;obtain⟨q',J⟩:=fy s.h q (hinv.cells id ty q hb);obtain⟨y,e1,e2⟩:=Wv J hv;obtain⟨H,Z⟩:=jM s.h;have hR:DZ H sz ag (.ptr (nm id) off)=af ⟨y,[nm id],[],[],[]⟩:=by
        have hg:H.get (nm id)=af ⟨ty,.mx q'⟩:=by rw[Z,bK,hb];simp only[aH,kC,J]
        simp only[DZ,hg,e2]
       obtain⟨_,_,_,h3⟩:=SX (P:=P) hsz hag hR;obtain⟨qq,U,h4,h5,h6⟩:=h3 φ E (bC s.h) w _ (λi _=>by rw[Z]) r (en ad _ (by simp only[fV,hp,aH,cq]));refine ⟨y::la,U::vs,o6 e1 h0,?_,h6,h2⟩;have hone:(X0 a.tmps (.cell ad t)).run P w= .ok U w:=by
        simp only[X0,eL,h4,asAddr,oR,cL,h5]
       rw[List.mapM_cons];simp only[eL,hone,cL,h1,oR]
      .cases hv
     .cases hv
    .cases hr
   .cases hr
  .cases hc
theorem Fq:∀ (args:List TV) (k t:Nat) (x:TV),(KK k args).get t=af x->k<=t/\args[t-k]? =af x
 |[],k,t,x,h=>by simp[KK,PT.get] at h
 |y::args,k,t,x,h=>by
  rw[KK,PT.get_set] at h;split at h
  .rename_i hk;subst hk;cases h;exact⟨bW _,by simp⟩
  .obtain⟨h1,h2⟩:=Fq args (k+1) t x h;refine ⟨by omega,?_⟩;rw[show t-k=t-(k+1)+1 from by omega];simpa using h2
theorem aal {h:bi} {l:List TV} (J:kS h l=ai) {j:Nat} {v:TV} (hj:l[j]? =af v):Ls h v=ai:=by
 obtain⟨M,hl⟩:=fy h l J;obtain⟨y,_,I⟩:=l_ hl j v hj;exact E8 _ _ _ I
theorem TY {P:Program} {con:FuncId->Option cg} {bX:TypeId->Option Ty} {inert:FuncId->Bool} (hm:P.follows .mixedOrders=ai) (hcon:La P con) (hin:K4 P inert) {f:FuncId} {sf:SF} (hf:zP P f=af sf) (D:FT) (m:D.pre.ty.den->Option D.post.ty.den) (hmod:∀ x y,m x=af y->Z_ con bX inert (af sf) D x=af y):pR P f ⟨D.pre,D.post,m⟩:=by
 obtain⟨fn,c,hfn,hb,hnm,hcode,hres,hnt⟩:=Su hf;refine ⟨⟨fn,hfn,by rw[hb];rfl,hnm⟩,λx y hxy vs hp l1 rs hq l2 la lr I J hla hlr φ E w us hrep hrel hdom=>?_⟩;have ht:=hmod x y hxy;unfold Z_ at ht;simp only[] at ht;split at ht
 .rename_i args h hins;obtain⟨l1',I'⟩:=wK hins;have e1:args=vs:=by have h1:=I.pv;have h2:=I'.pv;rw[h1] at h2;cases h2;rfl
  have e2:l1'=l1:=by have h1:=I.pb;have h2:=I'.pb;rw[h1] at h2;cases h2;rfl
  subst e1;subst e2;have hget:∀ i,h.get i=hp.get i:=λi=>by
   cases Z:hp.get i with
   |some b=>exact (I'.at_ i b).2 ((I.at_ i b).1 Z)
   |none=>
    cases h4:h.get i with
    |none=>rfl
    |some b=>have:=(I.at_ i b).2 ((I'.at_ i b).1 h4);rw[Z] at this;cases this
  have hrow:∀ i,eD h i=eD hp i:=λi=>by rw[bU,bU,hget]
  have herH:bC h=bC hp:=by
   funext n;by_cases hn:∃ i,n=nm i
   .obtain⟨i,rfl⟩:=hn;rw[bK,bK,hget];cases Z:hp.get i with
    |none=>rfl
    |some b=>
     simp only[aH];refine Jy (λi r hr=>by rw[hrow];exact hr) λty l e=>?_
     exact (I.cells i ty l (by rw[Z,e])).1
   .rw[wP _ hn,wP _ hn]
  have hla':cN h args=af la:=hP (λi r hr=>by rw[hrow];exact hr) args la hla;split at ht
  .rename_i hle;simp only[av] at hle;have hle2:=a8 hle.2;have hle:=a8 hle.1;have hlen:=hrel.length;have hargl:args.length=la.length:=(ib hla).symm;refine calls_of_wp_defers hfn hb ?_;have hcfg:oP P E fn.ntmps D.pre.bs.length φ ⟨KK 0 args,h,D.pre.bs.length⟩ {tmps:=us.toArray++oz (fn.ntmps-us.toArray.size) undef,defers:=[]} w:=by
    refine ⟨by rw[herH];exact hrep,?_,hdom,bW _,⟨λi ty l hl=>(I'.cells i ty l hl).1,λi b hbb=>I'.lt_len hbb⟩,?_,by simp,by simp;omega⟩
    .intro t z U;simp only[fV] at U;cases Y:(KK 0 args).get t with
     |none=>rw[Y] at U;cases U
     |some v0=>
      rw[Y] at U;obtain⟨_,h2⟩:=Fq args 0 t v0 Y;rw[Nat.sub_zero] at h2;obtain⟨y0,q1,q2⟩:=l_ hla' t v0 h2;simp only[aH] at U;rw[U] at q2;cases q2;obtain⟨v,Z,h4⟩:=hrel.get t z q1;have hlt:t<us.length:=(bl.1 Z).1;have:(us.toArray++oz (fn.ntmps-us.toArray.size) undef).getD t undef=v:=by
       rw[gH,Array.getElem?_append];simp only[tm,hlt,bH,km,Z,uX]
      show cO φ _ w z ((us.toArray++oz (fn.ntmps-us.toArray.size) undef).getD t undef);rw[this,herH];exact h4
    .intro t v0 hv0;obtain⟨_,h2⟩:=Fq args 0 t v0 hv0;exact aal I'.ok h2
   refine wp_mono (aie (E:=E) hm hcon hin (xT D.hints sf.code 0) c hcode.symm _ _ _ _ ht φ _ w hcfg) ?_;rintro e a' w' ⟨ex,s',φ',rfl,hk,g',st,_⟩;have fin:(match T8 s' sf.res with
    |some l=>(match EA D.pre.bs.length D.post l s'.h with
     |some ⟨y,_,_,_⟩=>(match C4 D.post y with|some _=>af y|none=>ah)
     |none=>ah)
    |none=>ah)=af y->Leaves P fn a'.tmps (λen w'=>∃ v φ',en= .returned v/\K7 (own φ (bC hp)) w w'/\(∀ k,k<w.heap.size->own φ' (bC hq) k->own φ (bC hp) k)/\(∀ i,i<D.pre.bs.length->φ' (nm i)=φ (nm i))/\rf φ' E (bC hq) w'/\cO φ' (tot E φ' (bC hq)) w' (Ef lr) v) a'.defers .returning w':=by
    intro hk;split at hk
    .rename_i l hl;split at hk
     .rename_i y' m' σ sm hM;split at hk
      .simp only[ak] at hk;subst hk;obtain⟨lo,rvs,q0,q1,q2⟩:=N2 g'.invH g'.invE g'.rep g'.env fn.results.toList sf.res l hres hl;have M:=wE hM;obtain⟨φ2,lu,hlu,S⟩:=Ln (np:=D.pre.bs.length) (E:=E) J g'.invH M q0 g'.rep;rw[hlr] at hlu;cases hlu;have hresults:(results fn a'.tmps).run P w'= .ok (if h:rvs.toArray.size=1 then rvs.toArray[0] else .tuple rvs.toArray) w':=by
        rw[T_,Array.mapM_eq_mapM_toList];simp only[eL,Sem.run_map,q1,cL,oR]
       have hrl:jW φ2 (tot E φ2 (bC hq)) w' lr rvs:=by
        refine jW.of (by rw[q2.length,S.len]) λj z v U hv=>?_
        obtain⟨z0,p1,p2⟩:=S.val j z v U;obtain⟨v',p3,p4⟩:=q2.get j z0 p1;rw[hv] at p3;cases p3;exact p2 p4
       have hval:cO φ2 (tot E φ2 (bC hq)) w' (Ef lr) (if h:rvs.toArray.size=1 then rvs.toArray[0] else .tuple rvs.toArray):=by
        have hll:=hrl.length;clear hlr S;cases lr with
        |nil=>
         cases rvs with
         |nil=>exact cO.tup (vs:=[]) rfl (by intro j x v Y;simp at Y)
         |cons _ _=>exact hrl.elim
        |cons z lr=>
         cases rvs with
         |nil=>exact hrl.elim
         |cons v rvs=>
          cases lr with
          |nil=>
           cases rvs with
           |nil=>exact hrl.1
           |cons _ _=>exact hrl.2.elim
          |cons y l=>
           cases rvs with
           |nil=>exact hrl.2.elim
           |cons u rvs=>
            rw[dif_neg (by simp)];refine cO.tup (vs:=v::u::rvs) (by simpa using hll) λj x' v' Y hv=>?_
            obtain⟨v'',q1,q2⟩:=hrl.get j x' Y;rw[hv] at q1;cases q1;exact q2
       have st':Cm D.pre.bs.length φ φ' (bC hp) (bC s'.h) w w':=by rw[<- herH];exact st
       refine CW hresults ⟨_,φ2,rfl,st'.ext,λk hk ho=>st'.own_ k hk (S.own_ k ho),λi hi=>?_,S.rep,hval⟩ a'.defers g'.inert;rw[S.par i hi (dD hi hle2),st'.par i hi]
      .cases hk
     .cases hk
    .cases hk
   cases ex with
   |normal=>exact fin hk
   |ret=>exact fin hk
   |exit id=>cases hk
  .cases ht
 .cases ht
def Vz:List (FuncId×cg)->FuncId->Option cg
 |[],_=>ah
 |(g,c)::r,f=>if aC g f then af c else Vz r f
def TB (P:Program):List (FuncId×cg)->Prop
 |[]=>True
 |p::r=>aI P p.1 p.2/\TB P r
theorem Xv {P:Program}:∀ {l:List (FuncId×cg)},TB P l->La P (Vz l)
 |[],_,f,c,h=>by simp[Vz] at h
 |(g,d)::r,I,f,c,h=>by
  simp only[Vz] at h;split at h
  .rename_i hb;have:=aw hb;subst this;cases h;exact I.1
  .exact Xv I.2 f c h
theorem Rf {P:Program} {inert:FuncId->Bool} (hm:P.follows .mixedOrders=ai) (hin:K4 P inert) {l:List (FuncId×cg)} (I:TB P l) {bX:TypeId->Option Ty} {f:FuncId} {D:FT} {m:D.pre.ty.den->Option D.post.ty.den} (hs:(zP P f).isSome=ai) (he:∀ x,Z_ (Vz l) bX inert (zP P f) D x=m x):pR P f ⟨D.pre,D.post,m⟩:=by
 obtain⟨J,hf⟩:=iN.1 hs;exact TY hm (Xv I) hin hf D m λx y hxy=>by rw[<- hf,he];exact hxy
theorem pR.sub {P:Program} {f:FuncId} {pre post:Tm} {m m':pre.ty.den->Option post.ty.den} (h:pR P f ⟨pre,post,m⟩) (hs:∀ x y,m' x=af y->m x=af y):pR P f ⟨pre,post,m'⟩:=
 ⟨h.callable,λx y hxy=>h.calls x y (hs x y hxy)⟩
theorem aI.sub {P:Program} {f:FuncId} {pre post:Tm} {m m':pre.ty.den->Option post.ty.den} (h:aI P f ⟨pre,post,m⟩) (hb:eM pre.bs.length post.bs.length=ai) (hs:∀ x y,m' x=af y->m x=af y):aI P f ⟨pre,post,m'⟩:=
 ((h.holds hb).sub hs).toC hb
theorem rP {α:Type} {b:Nat}:∀ (x y:List α),chk (a_ (al x) b) (λ_=>af x)=af y->bcase (aC (al x) 0) (Fo (af ([]:List α)) (chk (a_ (al ([]:List α)+al x) b) λ_=>(af (([]:List α)++x)))) (chk (a_ (al ([]:List α)+al x) b) λ_=>(af (([]:List α)++x)))=af y:=by
 intro x y h;rw[lU,jT,bN,h];cases x with
 |nil=>
  obtain⟨_,h⟩:=dY h;cases h;show Fo (af []) (af [])=_;unfold Fo;rw[aF rfl]
 |cons a r=>rfl
theorem US {P:Program} {f:FuncId} {pre post:Tm} (hs:(zP P f).isSome=ai):pR P f ⟨pre,post,λ_=>ah⟩:=by
 obtain⟨I,hf⟩:=iN.1 hs;obtain⟨fn,c,hfn,hb,hnm,_⟩:=Su hf;exact⟨⟨fn,hfn,by rw[hb];rfl,hnm⟩,λx y h=>by cases h⟩
theorem pR.orElse {P:Program} {f:FuncId} {pre post:Tm} {m m':pre.ty.den->Option post.ty.den} (h:pR P f ⟨pre,post,m⟩) (h':pR P f ⟨pre,post,m'⟩):pR P f ⟨pre,post,λx=>match m x with|some y=>af y|none=>m' x⟩:=
 ⟨h.callable,λx y hxy=>by
   cases hm:m x with
   |some z=>rw[show (cg.m ⟨pre,post,λx=>match m x with|some y=>af y|none=>m' x⟩ x)=af z by show (match m x with|some y=>af y|none=>m' x)=af z;rw[hm]] at hxy;cases hxy;exact h.calls x _ hm
   |none=>rw[show (cg.m ⟨pre,post,λx=>match m x with|some y=>af y|none=>m' x⟩ x)=m' x by show (match m x with|some y=>af y|none=>m' x)=m' x;rw[hm]] at hxy;exact h'.calls x y hxy⟩
theorem aI.orE {P:Program} {f:FuncId} {pre post:Tm} {m m':pre.ty.den->Option post.ty.den} (hb:eM pre.bs.length post.bs.length=ai) (h:aI P f ⟨pre,post,m⟩) (h':aI P f ⟨pre,post,m'⟩):aI P f ⟨pre,post,λx=>AI.orE (m x) (m' x)⟩:=by
 have e:(λx=>AI.orE (m x) (m' x))=λx=>match m x with|some y=>af y|none=>m' x:=by funext x;cases m x<;>rfl
 rw[e];exact ((h.holds hb).orElse (h'.holds hb)).toC hb
def Z6 (P:Program) (f:Ty->TypeId->Bool):List Field->Nat->Ty->Bool
 |[],_,.un=>ai
 |[x],off,T=>aC x.offset off&&f T x.type&&aC (P.cellsOf x.type) T.size
 |x::y::r,off,.pr a b=>aC x.offset off&&f a x.type&&aC (P.cellsOf x.type) a.size&&Z6 P f (y::r) (off+a.size) b
 |_,_,_=>aj
def TX (P:Program) (f:Ty->TypeId->Bool) (e:TypeId):Nat->Ty->Bool
 |1,T=>f T e&&aC (P.cellsOf e) T.size
 |m+2,.pr a b=>f a e&&aC (P.cellsOf e) a.size&&TX P f e (m+1) b
 |_,_=>aj
def BB (P:Program):Nat->Ty->TypeId->Bool
 |0,_,_=>aj
 |n+1,T,t=>match T,P.underlying t with
  |.int k,af (.int k')=>k==k'
  |.bool,af .bool=>ai
  |.str,af .string=>ai
  |.sl U,af (.slice e)=>BB P n U e&&aC (P.cellsOf e) U.size&&gp 0 U.size
  |.st U,af (.struct fs)=>Z6 P (BB P n) fs.toList 0 U&&aC (P.cellsOf t) U.size
  |.st U,af (.array m e)=>TX P (BB P n) e m U&&aC (P.cellsOf t) U.size
  |_,_=>aj
def Wq:(T:Ty)->T.den->Prop
 |.int k,n=>(Lit.int k n).wf=ai
 |.str,s=>al s<=maxLen
 |.sl U,xs=>al xs<=maxLen/\∀ x∈(xs:List U.den),Wq U x
 |.st t,v=>Wq t v
 |.pr a b,v=>Wq a v.1/\Wq b v.2
 |_,_=>True
def KX (W:World) (T:Ty) (x:T.den) (cs:List Value):Prop:=cs.length=T.size/\∀ (j:Nat) y v,(bT T x)[j]? =af y->cs[j]? =af v->ny (λ_=>False) W y v
theorem Kw {α:Type} (z:α) (P:Nat->α->Prop):∀ n:Nat,(∀ i,i<n->∃ a,P i a)->∃ l:List α,l.length=n/\∀ i x,l[i]? =af x->P i x
 |0,_=>⟨[],rfl,λi x h=>by simp at h⟩
 |n+1,h=>by
  obtain⟨l,hl,hp⟩:=Kw z P n (λi hi=>h i (by omega));obtain⟨a,J⟩:=h n (by omega);refine ⟨l++[a],by simp[hl],λi x I=>?_⟩;by_cases hi:i<l.length
  .rw[bO hi] at I;exact hp i x I
  .rw[b_ (by omega)] at I;by_cases h0:i-l.length=0
   .rw[h0] at I;simp at I;subst I;rw[show i=n from by omega];exact J
   .rw[bS (by simp;omega)] at I;cases I
theorem Addr.add_plain {a:Addr} (h:a.spot=ah) (n:Nat):a.add n=⟨a.block,a.off+n,ah⟩:=by
 unfold Addr.add;split
 .rename_i h0;subst h0;cases a;simp at h;subst h;rfl
 .rfl
theorem Y5 {w:World} {a:Addr} {v:Value} (h:w.cell? a=af v):a.spot=ah:=by
 unfold NH at h;split at h
 .split at h
  .cases h
  .rename_i hs;cases hh:a.spot with
   |none=>rfl
   |some _=>simp[hh] at hs
 .cases h
theorem KX.sub {W:World} {T:Ty} {x:T.den} {cs:List Value} {off n:Nat} (h:KX W T x ((cs.drop off).take n)) (hn:n=T.size) (hl:off+n<=cs.length):∀ (j:Nat) y v,(bT T x)[j]? =af y->cs[off+j]? =af v->ny (λ_=>False) W y v:=λj y v I hv=>by
 refine h.2 j y v I ?_;have hj:j<T.size:=by have:=(bl.1 I).1;rwa [bD] at this
 rw[cU,aF (by omega),gZ];exact hv
section
variable {H:Type} {enc:TypeId×Value->H} {P:Program} {W:World} {base:Nat} {sp:Nat->Bool} {hd:Bool}
theorem WM {f:Ty->TypeId->Bool} {m:Nat} (M:∀ (T:Ty) (t:TypeId) (cs:List Value) x,f T t=ai->DataW.trod enc P W base sp hd m t cs=af x->∃ v,KX W T v cs/\Wq T v) (cs:List Value) (ts:List (DataW H×List MemPlace)):
 ∀ (fs:List Field) (off k:Nat) (T:Ty),Z6 P f fs off T=ai->off+T.size<=cs.length->(∀ (i:Nat) (fl:Field),fs[i]? =af fl->∃ z,DataW.trod enc P W base sp hd m fl.type ((cs.drop fl.offset).take (P.cellsOf fl.type))=af z)->
 ∃ v,(∀ (j:Nat) y u,(bT T v)[j]? =af y->cs[off+j]? =af u->ny (λ_=>False) W y u)/\Wq T v
 |[],off,k,.un,_,_,_=>⟨(),λj y u I=>by simp[bT] at I,trivial⟩
 |[x],off,k,T,h,hl,hg=>by
  simp only[Z6,av] at h;obtain⟨⟨h1,h2⟩,J⟩:=h;have h1:=aw h1;have J:=aw J;obtain⟨z,U⟩:=hg 0 x rfl;obtain⟨v,hv,Z⟩:=M T _ _ _ h2 U;rw[h1] at hv;exact⟨v,hv.sub J (by omega),Z⟩
 |x::x'::r,off,k,.pr a b,h,hl,hg=>by
  simp only[Z6,av] at h;obtain⟨⟨⟨h1,h2⟩,J⟩,h4⟩:=h;have h1:=aw h1;have J:=aw J;simp only[Ty.size] at hl;obtain⟨z,U⟩:=hg 0 x rfl;obtain⟨v,hv,Z⟩:=M a _ _ _ h2 U;rw[h1] at hv;have hv:=hv.sub J (by omega);obtain⟨v',hv',Y⟩:=WM M cs ts (x'::r) (off+a.size) (k+1) b h4 (by omega) (λi fl hi=>hg (i+1) fl (by simpa using hi));refine ⟨(v,v'),λj y u I hu=>?_,Z,Y⟩;simp only[bT] at I;by_cases hj:j<a.size
  .rw[bO (by rw[bD];exact hj)] at I;exact hv j y u I hu
  .rw[b_ (by rw[bD];omega),bD] at I;exact hv' _ y u I (by rw[show off+a.size+(j-a.size)=off+j from by omega];exact hu)
theorem WN {f:Ty->TypeId->Bool} {m:Nat} {e:TypeId} (J:∀ (T:Ty) (t:TypeId) (cs:List Value) x,f T t=ai->DataW.trod enc P W base sp hd m t cs=af x->∃ v,KX W T v cs/\Wq T v) (cs:List Value):
 ∀ (n i:Nat) (T:Ty),TX P f e n T=ai->i*P.cellsOf e+T.size<=cs.length->(∀ j,j<n->∃ z,DataW.trod enc P W base sp hd m e ((cs.drop ((i+j)*P.cellsOf e)).take (P.cellsOf e))=af z)->
 ∃ v,(∀ (j:Nat) y u,(bT T v)[j]? =af y->cs[i*P.cellsOf e+j]? =af u->ny (λ_=>False) W y u)/\Wq T v
 |0,i,T,h,_,_=>by unfold TX at h;cases h
 |1,i,T,h,hl,hg=>by
  simp only[TX,av] at h;have h3:=aw h.2;obtain⟨z,M⟩:=hg 0 (by omega);obtain⟨v,hv,Y⟩:=J T _ _ _ h.1 M;rw[dv] at hv;exact⟨v,hv.sub h3 (by omega),Y⟩
 |n+2,i,T,h,hl,hg=>by
  cases T with
  |pr a b=>
   simp only[TX,av] at h;obtain⟨⟨h1,h2⟩,h4⟩:=h;have h3:=aw h2;simp only[Ty.size] at hl;obtain⟨z,M⟩:=hg 0 (by omega);obtain⟨v,hv,Y⟩:=J a _ _ _ h1 M;rw[dv] at hv;have hv:=hv.sub h3 (by omega);obtain⟨v',Z,U⟩:=WN J cs (n+1) (i+1) b h4 (by rw[NJ,Nat.one_mul];omega) (λj hj=>by have:=hg (j+1) (by omega);rwa [show i+(j+1)=i+1+j from by omega] at this);refine ⟨(v,v'),λj y u I hu=>?_,Y,U⟩;simp only[bT] at I;by_cases hj:j<a.size
   .rw[bO (by rw[bD];exact hj)] at I;exact hv j y u I hu
   .rw[b_ (by rw[bD];omega),bD] at I;exact Z _ y u I (by rw[NJ,Nat.one_mul,show i*P.cellsOf e+P.cellsOf e+(j-a.size)=i*P.cellsOf e+j from by omega];exact hu)
  |_=>unfold TX at h;cases h
theorem HJ:∀ (n:Nat) (T:Ty) (t:TypeId) (fuel:Nat) (cs:List Value) x,BB P n T t=ai->(∀ b,sp b=ai)->DataW.trod enc P W base sp hd fuel t cs=af x->∃ v,KX W T v cs/\Wq T v
 |0,_,_,_,_,_,h,_,_=>by unfold BB at h;cases h
 |n+1,T,t,fuel,cs,x,h,hsp,ht=>by
  unfold BB at h;split at h
  .rename_i k k' hu;have hk:=eq_of_beq h;subst hk;obtain⟨m,rfl,_,J⟩:=DataW.trod_int hu ht;refine ⟨m,⟨rfl,λj y v I hv=>?_⟩,J⟩;cases j with
   |zero=>simp[bT] at I hv;subst I hv;exact .raw _
   |succ j=>simp[bT] at I
  .rename_i hu;obtain⟨b,rfl,_⟩:=DataW.trod_bool hu ht;refine ⟨b,⟨rfl,λj y v I hv=>?_⟩,trivial⟩;cases j with
   |zero=>simp[bT] at I hv;subst I hv;exact .raw _
   |succ j=>simp[bT] at I
  .rename_i hu;obtain⟨s,rfl,_,hs⟩:=DataW.trod_string hu ht;refine ⟨s.data.toList,⟨rfl,λj y v I hv=>?_⟩,by simpa[Wq] using hs⟩;cases j with
   |zero=>simp[bT] at I hv;subst I hv;exact .raw _
   |succ j=>simp[bT] at I
  .rename_i U e hu;simp only[av] at h;obtain⟨⟨h1,h2⟩,h3⟩:=h;have h2:=aw h2;have h3:0<U.size:=a8 h3;rcases Go.Deep.open_slice hu ht with ⟨rfl,_⟩|⟨a,len,cap,m,k,D,Pl,rfl,hb,hl,hm,hmm,_,hi⟩
   .refine ⟨[],⟨rfl,λj y v I hv=>?_⟩,by simp[Wq]⟩;cases j with
    |zero=>simp[bT] at I hv;subst I hv;exact .nil _ _ (by unfold maxLen;omega)
    |succ j=>simp[bT] at I
   .rw[hsp,aF rfl] at hmm;rw[h2] at hi;obtain⟨xs,hx1,Y⟩:=Kw U.zero (λi (v:U.den)=>∃ cs',W.cells? base (a.add (i*U.size)) U.size=af cs'/\KX W U v cs'/\Wq U v) len (λi hil=>by
     obtain⟨cs',hc,htt⟩:=hi i (by omega);obtain⟨v,hv,J⟩:=HJ n U e k cs' _ h1 hsp htt;exact⟨v,cs',hc,hv,J⟩)
    refine ⟨xs,⟨rfl,λj y v I hv=>?_⟩,by show al xs<=maxLen;omega,λy I=>?_⟩
    .cases j with
     |succ j=>simp[bT] at I
     |zero=>
      simp[bT] at I hv;subst I hv;by_cases h0:len=0
      .have:xs=[]:=gM.1 (by omega);subst this;subst h0;exact .nil _ _ hm
      .obtain⟨x0,hx0⟩:∃ x0,xs[0]? =af x0:=⟨xs[0]'(by omega),aB (by omega)⟩
       obtain⟨cs0,hc0,_⟩:=Y 0 x0 hx0;obtain⟨_,hcl0,hat0⟩:=World.cells?_some hc0;have hca:=hat0 0 h3;rw[aB (by omega)] at hca;have hspot:a.spot=ah:=by
        have:=Y5 hca;simpa[Addr.add] using this
       have hblk:=World.block_lt_of_cell? W _ hca;rw[Nat.zero_mul,Addr.add_plain hspot,Addr.add_plain rfl] at hca hblk;have hcell:∀ (i j:Nat) x,xs[i]? =af x->j<U.size->∃ cs',W.cell? ⟨a.block,a.off+(i*U.size+j),ah⟩=cs'[j]? /\j<cs'.length/\KX W U x cs':=λi j x Z hj=>by
        obtain⟨cs',hc,hr,_⟩:=Y i x Z;obtain⟨_,hcl,hat⟩:=World.cells?_some hc;have:=hat j hj;rw[Addr.add_plain hspot,Addr.add_plain rfl,px] at this;exact⟨cs',this,by omega,hr⟩
       have hflat:∀ j,j<xs.length*U.size->∃ x,xs[j/U.size]? =af x/\j%U.size<U.size/\j=j/U.size*U.size+j%U.size:=λj hj=>by
        have h5:j/U.size<xs.length:=Nat.div_lt_of_lt_mul (by rw[HC];exact hj);exact⟨xs[j/U.size],aB h5,Nat.mod_lt _ h3,by rw[HC];exact (Nat.div_add_mod j U.size).symm⟩
       have hlen:(List.flatMap (bT U) xs).length=xs.length*U.size:=fE (bD U) xs;obtain⟨ab,ao,az⟩:=a;cases hspot;rw[<- hx1];refine .sl (List.flatMap (bT U) xs) xs.length cap ab ao (λj=>(W.cell? ⟨ab,ao+j,ah⟩).getD undef) (by omega) hm (λh=>h) hblk (rM U xs) (λj hj=>?_) (λj y I=>?_)
       .obtain⟨x,Z,hjs,hje⟩:=hflat j (by omega);obtain⟨cs',g1,g2,_⟩:=hcell _ _ x Z hjs;rw[<- hje] at g1;simp only[g1,aB g2,uX]
       .have hj:j<xs.length*U.size:=by rw[<- hlen];exact (bl.1 I).1
        obtain⟨x,Z,hjs,hje⟩:=hflat j hj;obtain⟨cs',g1,g2,g3⟩:=hcell _ _ x Z hjs;rw[<- hje] at g1;simp only[g1];rw[aB g2];refine g3.2 (j%U.size) y _ ?_ (aB g2);obtain⟨r,hr⟩:=E6 (bD U) xs (j/U.size) x Z;have:((List.flatMap (bT U) xs).drop (j/U.size*U.size))[j%U.size]? =af y:=by rw[gZ,<-hje];exact I
        rw[hr,bO (by rw[bD];exact hjs)] at this;exact this
    .obtain⟨i,M⟩:=fc I;obtain⟨_,_,_,J⟩:=Y i y M;exact J
  .rename_i U fs hu;simp only[av] at h;have h2:=aw h.2;obtain⟨xs,m,rfl,_,hl,hxl,hg⟩:=DataW.trod_struct hu ht;obtain⟨v,hv,J⟩:=WM (f:=BB P n) (m:=m) (λT t cs x h1 h2=>HJ n T t m cs x h1 hsp h2) cs xs fs.toList 0 0 U h.1 (by omega) (λi fl hi=>by
    have M:fs[i]? =af fl:=by simpa using hi
    have:=hg i fl M;have hlt:i<xs.length:=by rw[hxl];exact (cF.1 M).1
    rw[aB hlt] at this;exact⟨_,this⟩)
   exact⟨v,⟨by rw[hl,h2];rfl,λj y u I hu=>hv j y u I (by rw[bN];exact hu)⟩,J⟩
  .rename_i U m e hu;simp only[av] at h;have h2:=aw h.2;obtain⟨xs,q,rfl,_,hl,hxl,hg⟩:=DataW.trod_array hu ht;obtain⟨v,hv,J⟩:=WN (f:=BB P n) (m:=q) (λT t cs x h1 h2=>HJ n T t q cs x h1 hsp h2) cs m 0 U h.1 (by omega) (λj hj=>by
    have:=hg j hj;rw[aB (by omega)] at this;rw[bN];exact⟨_,this⟩)
   exact⟨v,⟨by rw[hl,h2];rfl,λj y u I hu=>hv j y u I (by rw[Nat.zero_mul,bN];exact hu)⟩,J⟩
  .cases h
theorem Qv {n:Nat} {T:Ty} {t:TypeId} {v:Value} {r:Reach} {bs:Nat} (I:BB P n T t=ai) (h1:T.one=ai) (h:Hy P W r bs t v):v.cells.toList=[v]:=by
 cases n with
 |zero=>unfold BB at I;cases I
 |succ n=>
  unfold BB at I;unfold Hy at h;cases v with
  |agg cs=>
   exfalso;split at I<;>rename_i hu<;>first|(rw [hu] at h;simp only[] at h;unfold Cell.okWide at h;rw[hu] at h;unfold Cell.ok at h;rw[hu] at h;simp at h)|cases h1|cases I
  |_=>rfl
theorem Ue {n:Nat} {T:Ty} {t:TypeId} {v:Value} {r:Reach} {bs:Nat} (I:BB P n T t=ai) (h1:T.one=aj) (h:Hy P W r bs t v):∃ cs,v= .agg cs:=by
 cases n with
 |zero=>unfold BB at I;cases I
 |succ n=>
  unfold BB at I;unfold Hy at h;split at I<;>rename_i hu<;>first|(rw [hu] at h;obtain⟨cs,h,_⟩:=h;exact⟨cs,h⟩)|cases h1|cases I
theorem open_arg {n:Nat} {T:Ty} {t:TypeId} {v:Value} {d:DataW H} {ps:List MemPlace} {r:Reach} {bs:Nat} (J:BB P n T t=ai) (hsp:∀ b,sp b=ai) (hok:Hy P W r bs t v) (h:DataW.Trod enc P W base sp hd t v d ps):∃ x,ny (λ_=>False) W (gK T x) v/\Wq T x:=by
 obtain⟨fuel,hf⟩:=h;obtain⟨x,I,U⟩:=HJ n T t fuel _ _ J hsp hf;refine ⟨x,?_,U⟩;by_cases h1:T.one=ai
 .obtain⟨e1,e2⟩:=Dl T x h1;exact I.2 0 _ v (by rw[e1];rfl) (by rw[Qv J h1 hok];rfl)
 .obtain⟨cs,rfl⟩:=Ue J (by simpa using h1) hok;rw[qJ T x (by simpa using h1)];have hl:cs.toList.length=(bT T x).length:=by rw[bD];exact I.1
  have:=ny.agg (O:=λ_=>False) (w:=W) (bT T x) cs.toList hl (nW T x) (λj y u M hu=>I.2 j y u M hu);simpa using this
end
theorem XC {z:Int} (h:(Lit.int .u8 z).wf=ai):0<=z/\z<=255:=⟨bn (oV.1 h).1,bn (oV.1 h).2⟩
def fo (w:WT) (l:List ET) (c:List Int) (y:List Int):List Int:=y.foldl (λc k=>jl c (oe w l k.toNat)) c
theorem MZ {w:WT} {l:List ET} (I:TR (w,l)) {j:Nat} (hj:j<=l.length):∀ (y:List Int) (c:List Int),En (j:Int) c->(∀ k∈y,0<=k/\k<j)->En (j:Int) (fo w l c y)
 |[],_,h,_=>h
 |k::r,c,h,g=>by
  obtain⟨M,k1⟩:=g k (dj ..);exact MZ I hj r _ (h.jl ((VK I (show k.toNat<l.length by omega)).mono (by omega))) λz J=>g z (cI _ J)
theorem af5 {w:WT} {l:List ET} {c y:List Int} {i:Nat} (h:i<y.length):fo w l c (y.take (i+1))=jl (fo w l c (y.take i)) (oe w l (aJ (T:=.int .i64) y (i:Int)).toNat):=by
 rw[mH (T:=.int .i64) h];unfold fo;rw[dQ];rfl
theorem ahg {w:WT} {l:List ET} (I:TR (w,l)) {n:Int} {c:List Int} (hc:En n c) (p:Nat->Bool) (j:Nat):fo w l c (fL p j)=jl c (JC (oe w l) p j):=by
 rw[<- Xf hc j];unfold fo fL;rw[List.foldl_map];rfl
theorem RP {w:WT} {l:List ET} {j:Nat} {k:Int} (h0:0<=k) (h1:k<j):aJ (T:=.sl (.int .i64)) ((cS j).map (oe w l)) k=oe w l k.toNat:=by
 obtain⟨k,rfl⟩:∃ i:Nat,k=i:=⟨k.toNat,by omega⟩
 rw[qG,c6,aA,ba,vX (by omega)];rfl
theorem MR {w:WT} {l:List ET} (J:TR (w,l)) {j:Nat} (hj:j<=l.length) {c y:List Int} (hc:En (j:Int) c) (M:∀ k∈y,0<=k/\k<j) (hn:y.length<=1000) {R:Type} {B:(List Int×Int)×(WT×List ET)×List (List Int)->Option (((List Int×Int)×(WT×List ET)×List (List Int))⊕R)} {Q P:R->Prop} (Z:∀ r,P r->Q r) (he:Ok (B ((fo w l c y,(y.length:Int)),(w,l),(cS j).map (oe w l))) λr=>∃ z,r= .inr z/\P z):
 Ok (iter (λx=>bcase (fQ x.1.2 (aO (al y))) (chk (fe x.1.2 (al y)) λ_=>lt (aJ (T:=.int .i64) y x.1.2) λI=>chk (fe I (al x.2.2)) λ_=>chk (fe I (al x.2.2)) λ_=>lt (aJ (T:=.sl (.int .i64)) x.2.2 I) λU=>obind (pG (x.1.1,U)) λY=>af (mr ((Y,bc .i64 (x.1.2+1)),x.2))) (B x)) ((c,0),(w,l),(cS j).map (oe w l))) Q:=by
 refine bZ y.length (λi x=>x=((fo w l c (y.take i),(i:Int)),(w,l),(cS j).map (oe w l))) ?_ ?_ (by rw[List.take_zero];rfl)
 .rintro i x hi rfl;have hm:=M _ (bJ (T:=.int .i64) (xs:=y) (j:=(i:Int)) (by omega) (by omega));refine dk ?_;refine b8 (aR ?_);have q2:(aJ (T:=.int .i64) y (i:Int):Int)<(((cS j).map (oe w l)).length:Nat):=by rw[bR,fK];exact hm.2
  refine aS hm.1 q2 (aS hm.1 q2 (aR ?_));dsimp only;rw[RP hm.1 hm.2];have e1:=MZ J hj (y.take i) c hc λk hk=>M k (gY hk)
  have h2:(aJ (T:=.int .i64) y (i:Int)).toNat<l.length:=by
   have h3:(aJ (T:=.int .i64) y (i:Int):Int)<(j:Int):=hm.2;have h4:(0:Int)<=aJ (T:=.int .i64) y (i:Int):=hm.1;omega
  have e2:=VK J h2;refine aT (by rw[ae6];exact XP _ _ e1.lb e2.lb) (ar ?_);rw[af5 hi,gI (by omega)]
 .rintro x rfl;rw[cP];obtain⟨_,e,r,rfl,h⟩:=he;exact dg (aha e (Z r h))
theorem TN (l:List ET) (u:Nat):∀ i:Nat,Ct l u i<i
 |0=>by show (-1:Int)<0;omega
 |i+1=>by
  have:=TN l u i;rw[Ct];split
  .omega
  .split
   .omega
   .split<;>omega
theorem amp {w:WT} {l:List ET} (I:TR (w,l)) {j:Nat} (hj:j<l.length) {c:List Int} (hc:En (j:Int) c) (e:c=if 0<=t_ l (cG l j).th j then oe w l (t_ l (cG l j).th j).toNat else []):tk (fo w l (fo w l c (Ys w l j)) (fL (dB (PL w l j)) j)) (cG l j).th=oe w l j:=by
 rw[aj6 I hj,<-e];have h1:fo w l c (Ys w l j)=jl (jl c (JC (oe w l) (dB (HQ w l j)) j)) (wkC w l j):=by
  have h2:=ahg I hc (dB (HQ w l j)) j;have J:=MZ I (show j<=l.length by omega) (fL (dB (HQ w l j)) j) c hc λk hk=>Ju hk
  rw[h2] at J;unfold Ys wkC;by_cases h:(cG l j).k=17
  .rw[aF h,aF h,<-h2];unfold fo;rw[dQ];rfl
  .rw[ay h,ay h,iU,h2,mq J]
 have M:En (j:Int) (fo w l c (Ys w l j)):=by
  refine MZ I (show j<=l.length by omega) _ c hc λk hk=>?_
  rcases bQ.1 hk with hk|hk
  .exact Ju hk
  .split at hk
   .rename_i h;rw[aL.1 hk];exact⟨(Z0 I hj h).2.2,TN _ _ _⟩
   .cases hk
 rw[ahg I M,h1]
theorem Tz {w:WT} {l:List ET} (I:TR (w,l)):sq (w,l)=af (csN w l):=by
 have hl:=I.len;dsimp only at hl;refine cB ?_;unfold sq bx iH bB bA kB aY cK aE cE;refine bZ l.length (λj x=>x=((j:Int),(w,l),(cS j).map (oe w l))) ?_ ?_ rfl
 .rintro j x hj rfl;have hjl:j<=l.length:=by omega
  obtain⟨p0,p1⟩:=Uc l (cG l j).th j;refine dk ?_;refine aX (λx=>x=(if 0<=t_ l (cG l j).th j then oe w l (t_ l (cG l j).th j).toNat else [],(w,l),(cS j).map (oe w l))) ?_ ?_
  .refine aT (GW I hj) (eE (λh=>?_) λh=>ar ?_)
   .have q:t_ l (cG l j).th j<(((cS j).map (oe w l)).length:Nat):=by rw[bR,fK];exact p1
    refine aS h q (aS h q (aR (ar ?_)));dsimp only;rw[RP h p1,aF h]
   .rw[ay (by omega)]
  rintro x rfl;have hc:En (j:Int) (if 0<=t_ l (cG l j).th j then oe w l (t_ l (cG l j).th j).toNat else []):=by
   split
   .exact (VK I (by omega)).mono (by omega)
   .exact En.nil (by omega)
  have hhd:∀ k∈Ys w l j,0<=k/\k<j:=λk hk=>by
   rcases bQ.1 hk with hk|hk
   .exact Ju hk
   .split at hk
    .rename_i h;rw[aL.1 hk];exact⟨(Z0 I hj h).2.2,TN _ _ _⟩
    .cases hk
  have hlen:(Ys w l j).length<=1000:=by
   have:=Jv (dB (HQ w l j)) j;unfold Ys;rw[bu];split<;>simp<;>omega
  have hls:=Jv (dB (PL w l j)) j;have hck:=amp I hj hc rfl;have M:=MZ I hjl (Ys w l j) _ hc hhd;have J:=MZ I hjl (fL (dB (PL w l j)) j) _ M λk hk=>Ju hk
  generalize (if 0<=t_ l (cG l j).th j then oe w l (t_ l (cG l j).th j).toNat else [])=c at*
  refine aT (ags I hj) ?_;refine MR I hjl hc hhd hlen (P:=λr=>r= .inl (((j+1:Nat):Int),(w,l),(cS (j+1)).map (oe w l))) (λr h=>by subst h;rfl) ?_;refine ax (P:=λr=>r= .inl (((j+1:Nat):Int),(w,l),(cS (j+1)).map (oe w l))) ?_ λr hr=>ar ⟨r,rfl,hr⟩
  refine aT (ag9 I hj) (MR I hjl M (λk hk=>Ju hk) (by omega) (P:=λr=>r= .inl (((j+1:Nat):Int),(w,l),(cS (j+1)).map (oe w l))) (λr h=>h) ?_);refine ax (P:=λr=>r= .inl (((j+1:Nat):Int),(w,l),(cS (j+1)).map (oe w l))) ?_ λr hr=>ar ⟨r,rfl,hr⟩
  have et:(eN l j).1=((cG l j).th:Int):=(oN I hj).th;have U:=J.2 (cG l j).th;refine b8 (aR (aT (x:=oe w l j) ?_ (bh (by simp;omega) (by omega) (ar ?_))))
  .change pE (fo w l (fo w l c (Ys w l j)) (fL (dB (PL w l j)) j),(eN l j).1)=_;rw[et,<-hck];exact Ub _ _ J.lb (uC I hj).th4 U.1 (by omega)
  .dsimp only;rw[gI (by omega),FA,cC];rfl
 .rintro x rfl;exact dg (ar rfl)
theorem ZF:vh=ku:=rfl
theorem Zq {w:WT} {l:List ET} (I:TR (w,l)) {j:Nat} (hj:j<l.length):sk (l,(j:Int))=af (Ar l (cG l j).th j:Int):=by
 have hl:=I.len;dsimp only at hl;refine cB ?_;unfold sk bf bx bA cK aE cE;refine bZ j (λi x=>x=((Ar l (cG l j).th i:Int),(i:Int))) ?_ ?_ rfl
 .rintro i x hi rfl;have hc:=DR l (cG l j).th i;refine dk ?_;refine aX (λx=>x=(Ar l (cG l j).th (i+1):Int)) ?_ ?_
  .rw[Ar];refine b8 (aR (b8 (aR (aK (λh=>ar ?_) λh=>ar ?_))))
   .rw[aF ((NS I (show i<l.length by omega) hj).1 h)];exact gI (by omega)
   .rw[ay λq=>h ((NS I (show i<l.length by omega) hj).2 q)]
  rintro x rfl;refine ar ?_;dsimp only;rw[gI (by omega)]
 .rintro x rfl;exact dg (ar rfl)
theorem Wj {w:WT} {l:List ET} (I:TR (w,l)) {j:Nat} (hj:j<l.length):ql (l,(j:Int))=af (epN l j):=by
 have hl:=I.len;dsimp only at hl;have hc:=DR l (cG l j).th j;refine cB ?_;unfold ql bA;refine aT (Zq I hj) (b8 (aR (ar ?_)));change (bc .i64 (1+(Ar l (cG l j).th j:Int)),(eN l j).1)=_;rw[(oN I hj).th,hX (by omega) (by omega),Int.add_comm];rfl
theorem wrU (n:Int):bc .u64 n=n%18446744073709551616:=by
 rw[Cq];show kJ .u64 n=_;unfold kJ;simp[IntKind.signed,IntKind.bits]
theorem K5 (a b c:List Int) (i j:Int) (U:a.length<=9223372036854775807) (J:∀ z∈a,0<=z/\z<=255) (hc:c.length<=9223372036854775807) (M:∀ z∈c,0<=z/\z<=255):Ok (l7 ((a,b,c),i,j)) λy=>y=ai:=by
 unfold l7 bf bx iH bB bA aY cK aE cE;refine ax (P:=TR) (Px a b c 24 (by omega) (by omega) U J hc M) ?_;rintro⟨w,l⟩ I;have hl:=I.len;dsimp only at hl;refine aT (Tz I) ?_;refine aX (λx=>x=(aj,w,l)) ?_ ?_
 .refine aT (tZ I _ _) (aP (λh=>?_) λ_=>ar rfl);have h:=bn h;refine dg (dg (eE (λg=>(by dsimp only[au] at g;omega)) λ_=>ar ?_));show (c7 (aO l.length) j,w,l)=_;rw[kf.2 (by dsimp only[au];omega)]
 rintro x rfl;have bf0:∀ {i j:Int},¬(0<=i/\i<j/\j<l.length)->bfN w l i j=aj:=λh=>bG λq=>h ⟨q.1,q.2.1,q.2.2.1⟩
 refine gd (aK (λh=>aX (λx=>x=ai) ?_ λx J=>ar J) λh=>?_)
 .refine aT (tZ I _ _) ?_;rw[bf0 (by omega)];exact FH (aT (x:=ai) KF (ar rfl))
 have h:¬(aO l.length)=0:=h;rw[au] at h;have hu:bc .u64 (aO l.length)=(l.length:Int):=by rw[wrU,au];omega
 obtain⟨B,eB,Y⟩:∃ B:Nat,bc .i64 (me (bc .u64 j) (bc .u64 (aO l.length)))=(B:Int)/\B<l.length:=by
  rw[hu,wrU,Int.tmod_eq_emod_of_nonneg (Int.emod_nonneg _ (by omega))];have h1:=Int.emod_nonneg (j%18446744073709551616) (b:=(l.length:Int)) (by omega);have h2:=Int.emod_lt_of_pos (j%18446744073709551616) (b:=(l.length:Int)) (by omega);rw[hX (by omega) (by omega)];exact⟨(j%18446744073709551616%(l.length:Int)).toNat,by omega,by omega⟩
 dsimp only;rw[eB,hu];refine wj (by omega) ?_;refine bZ l.length (λi x=>x=((i:Int),w,l)) ?_ ?_ rfl
 .rintro i x hi rfl;refine dk ?_;refine aX (λx=>x=(bfN w l i B,w,l)) (bF (λg=>?_) λg=>ar ?_) ?_
  .refine aS (by omega) (by rw[bR,fK];omega) (aR (aT (Wj I hi) ?_));dsimp only at g ⊢;rw[RQ Y,ZF];refine aT (K_ _ _ _) (ar ?_);unfold bfN;rw[c6,c6];congr 1;rw[decide_eq_decide];exact⟨λq=>⟨by omega,g,by omega,q⟩,λq=>q.2.2.2⟩
  .dsimp only at g ⊢;rw[bf0 (by omega)]
  rintro x rfl;refine aT (tZ I _ _) (fJ (by simp) (ar ?_));dsimp only;rw[gI (by omega)]
 .rintro x rfl;refine dg ?_;refine ax (P:=λy=>y=ai) (aX (λx=>x=ai) ?_ λx J=>ar J) λx J=>ar J
  refine aT (tZ I _ _) ?_;rw[bf0 (by omega)];refine FH (aT (tZ I _ _) ?_);rw[bf0 (by dsimp only[au];omega)];refine FH (aT (tZ I _ _) ?_);rw[bf0 (by omega)];exact FH (aT (x:=ai) KF (ar rfl))
theorem HBOrders_law (x:(List Int×List Int×List Int)×Int×Int) (w:Wq (.pr (.st (.pr (.sl (.int .u8)) (.pr (.sl (.int .u8)) (.sl (.int .u8))))) (.pr (.int .i64) (.int .i64))) x):l7 x=af ai:=by
 obtain⟨⟨a,b,c⟩,i,j⟩:=x;obtain⟨⟨⟨l0,w0⟩,_,⟨l2,w2⟩⟩,_⟩:=w;obtain⟨y,h,rfl⟩:=K5 a b c i j l0 (λz I=>XC (w0 z I)) l2 (λz I=>XC (w2 z I));exact h
def inert (f:FuncId):Bool:=aC f 72
theorem QI:∃ I,Tryz.prog.underlying 20=af (.interface I):=⟨#[],by kernel_rfl⟩
theorem ab4 (w:World):(Op.equal 20 .nilIface .nilIface).run Tryz.prog w= .ok ai w:=by
 obtain⟨I,hu⟩:=QI;have key:∀ d,(Op.equalIn (d+1) 20 .nilIface .nilIface).run Tryz.prog w= .ok ai w:=λd=>by simp[Op.equalIn,run_underlying hu]
 exact key 9999
theorem aaj {P:Program} {ops:Array Oper} {Q:Exit->Act->List Frame->World->Prop} {i:Nat} {rest:List Nat} {a:Act} {cs:List Frame} {w w':World} {o:Oper} (J:ops[i]? =af o) (I:o.guard=ah) (hr:(execOp a.eval o).run P w= .ok .recover w') (hn:recoverD cs=ah) (h:wpOpsS P ops Q rest (a.put o.dst .nilIface) cs w'):wpOpsS P ops Q (i::rest) a cs w:=by
 have I:iM o (yielded ops a.tmps)=ai:=by unfold iM;rw[I]
 simp only[wpOpsS,J,I,bH,hr,hn];exact h
theorem aai {P:Program} {ops:Array Oper} {Q:Exit->Act->List Frame->World->Prop} {i:Nat} {rest:List Nat} {a:Act} {cs:List Frame} {w w':World} {o:Oper} {v:Value} (J:ops[i]? =af o) (I:o.guard=ah) (hr:(execOp a.eval o).run P w= .ok (.value v) w') (h:wpOpsS P ops Q rest (a.put o.dst v) cs w'):wpOpsS P ops Q (i::rest) a cs w:=by
 have I:iM o (yielded ops a.tmps)=ai:=by unfold iM;rw[I]
 simp only[wpOpsS,J,I,bH,hr];exact h
theorem QH:K4 Tryz.prog inert:=by
 intro f hf;have hf:f=72:=aw hf;subst hf;refine ⟨⟨Tryz.f72,Tryz.func72,by kernel_rfl,by kernel_rfl⟩,λargs w=>?_⟩;refine callsD_of_wpS Tryz.func72 rfl λc₀ cs hu=>?_
 refine wpS_seq (wpS_region ?_);generalize ht:(args++oz (Tryz.f72.ntmps-args.size) undef)=T;have hs:5<=T.size:=by
  rw[<- ht];simp only[Array.size_append,Array.size_replicate];have:Tryz.f72.ntmps=5:=rfl;omega
 have hr:recoverD (c₀::cs)=ah:=by simp[recoverD,hu]
 refine aaj (i:=0) (rest:=[1]) rfl rfl (w':=w) ?_ hr ?_
 .simp[execOp,resolve,invoke,builtin]
 refine aai (v:=.bool aj) rfl rfl (w':=w) ?_ ?_
 .have hv:Act.eval (NK {tmps:=T,defers:=[]} (af 2) .nilIface) (.tmp 2)= .nilIface:=by
   simp[Act.eval,NK,show 2<T.size by omega]
  have h2:=ab4 w;have hcst:Act.eval (NK {tmps:=T,defers:=[]} (af 2) .nilIface) (.const .nilIface)= .nilIface:=rfl;show (execOp (Act.eval (NK {tmps:=T,defers:=[]} (af 2) .nilIface)) _).run _ w=_;simp[execOp,hv,hcst,eqGuard,binOp,h2]
 show Exit.thenS _ _ .normal _ _ _;refine wpS_cond (t:=aj) ?_ ?_
 .simp[Act.eval,NK,show 3<T.size by omega]
 refine wpS_of_wp (wp_skip ?_);have hres:Tryz.f72.results=#[]:=rfl;exact⟨rfl,c₀.mode,rfl,.tuple #[],by simp[results,hres],⟨_,rfl⟩,hu,rfl⟩
def dH {α:Type}:List (Nat×α)->PT α
 |[]=>.leaf
 |p::r=>(dH r).set p.1 (af p.2)
noncomputable abbrev Pg:Program:=Tryz.prog
def cn (D:FT) (m:D.pre.ty.den->Option D.post.ty.den):cg:=⟨D.pre,D.post,m⟩
theorem am6:Pg.follows .mixedOrders=ai:=by kernel_rfl
theorem ac {f:FuncId} {c:cg} {l:List (FuncId×cg)} (h:aI Pg f c) (t:TB Pg l):TB Pg ((f,c)::l):=⟨h,t⟩
theorem an:TB Pg []:=trivial
inductive OI {R:Type}:Option R->Option R->Prop where
 |rfl {a:Option R}:OI a a
 |chk {b:Bool} {k k':Option R} (h:lh k k'):OI (chk b λ_=>k) (chk b λ_=>k')
 |bcase {b:Bool} {t f t' f':Option R} (h1:lh t t') (h2:lh f f'):OI (bcase b t f) (bcase b t' f')
 |lt {α:Type} {x:α} {k k':α->Option R} (h:∀ y,lh (k y) (k' y)):OI (lt x k) (lt x k')
 |jn {α:Type} {o o':Option (R⊕α)} {k k':α->Option R} (h:lh o o') (hk:∀ x,lh (k x) (k' x)):OI (jn o k) (jn o' k')
 |obind {α:Type} {o o':Option α} {k k':α->Option R} (h:lh o o') (hk:∀ x,lh (k x) (k' x)):OI (obind o k) (obind o' k')
 |iter {σ:Type} {f g:σ->Option (σ⊕R)} {x:σ} (h:∀ x,lh (f x) (g x)):OI (gh f x) (iter g x)
theorem OI.o {R:Type} {a b:Option R} (h:OI a b):lh a b:=by
 cases h with
 |rfl=>exact lh.rfl
 |chk h=>exact lh.chk h
 |bcase h g=>exact lh.bcase h g
 |lt h=>exact lh.lt h
 |jn h g=>exact lh.jn h g
 |obind h g=>exact lh.obind h g
 |iter h=>exact lh.iter h
theorem mk {f:FuncId} (D:FT) (m:D.pre.ty.den->Option D.post.ty.den) {l:List (FuncId×cg)} (J:TB Pg l) (I:TypeId->Option Ty) (he:∀ x,Z_ (Vz l) I inert (zP Pg f) D x=m x:=by intro x;kernel_rfl) (hs:(zP Pg f).isSome=ai:=by kernel_rfl) (hb:eM D.pre.bs.length D.post.bs.length=ai:=by kernel_rfl):aI Pg f (cn D m):=(Rf am6 QH J hs he).toC hb
theorem yJ {f:FuncId} (D:FT) (m n:D.pre.ty.den->Option D.post.ty.den) (J:∀ x,lh (m x) (n x)) {l:List (FuncId×cg)} (M:TB Pg l) (I:TypeId->Option Ty) (he:∀ x,Z_ (Vz l) I inert (zP Pg f) D x=n x:=by intro x;kernel_rfl) (hs:(zP Pg f).isSome=ai:=by kernel_rfl) (hb:eM D.pre.bs.length D.post.bs.length=ai:=by kernel_rfl):aI Pg f (cn D m):=((Rf am6 QH M hs he).sub J).toC hb
theorem Qz {f:FuncId} (D:FT) (hs:(zP Pg f).isSome=ai:=by kernel_rfl) (hb:eM D.pre.bs.length D.post.bs.length=ai:=by kernel_rfl):aI Pg f (cn D λ_=>ah):=(US hs).toC hb
abbrev uV:List PV:=[.d aM,.d aM,.d aM,.d aM,.d aM,.nil,.nil]
abbrev vU:List PV:=[.nil,.d aM,.nil,.nil,.nil,.nil,.nil]
abbrev ai2:List PV:=[.ptr 1 0,.d aM,.d aM,.d .bool,.d .bool,.d .bool,.d .bool,.row 4]
abbrev ai6:List PV:=[.d aM,.d aM,.d .str,.d .str,.nil,.d aM,.d aM,.d .str,.nil,.nil,.nil]
abbrev La2:List PB:=[.cells 192 ai2,.cells 78 [.d yO],.gone,.cells 198 ai6,.rowsP 9 .str]
abbrev Nz:List PV:=[.ptr 0 0,.ptr 1 0,.ptr 2 0,.ptr 3 0,.ptr 4 0,.ptr 5 0,.ptr 6 0,.ptr 7 0,.d .bool]
abbrev La4:List PB:=[.cells 184 [.d (.sl ky),.d (.sl qY),.d (.sl lq),.d (.sl .str),.d (.sl .str),.d (.sl oy),.d (.sl .str),.row 2,.d aM,.d aM],.gone,.rows 188 ai qW]
abbrev La5:List PB:=[.cells 184 [.d (.sl ky),.d (.sl qY),.d (.sl lq),.d (.sl .str),.d (.sl .str),.d (.sl oy),.d (.sl .str),.row 1,.d aM,.d aM],.rows 188 ai qW]
abbrev La6:List PV:=[.d aM,.row 11,.row 12,.d aM]
abbrev La7:List PB:=[.cells 141 [.nil,.nil],.cells 192 [.ptr 5 0,.d aM,.d aM,.d .bool,.d .bool,.d .bool,.d .bool,.row 6],.cells 141 [.d (.sl GZ),.row 7],.rows 9 aj .str,.cells 182 [.d .str,.d aM,.row 8,.row 9],.cells 78 [.d yO],.rowsP 9 .str,.rows 182 ai sY,.rows 9 aj .str,.rows 198 ai .sm]
abbrev La8:List PB:=[.cells 225 [.d (.sl GZ),.d (.sl sY),.d aM,.row 1,.row 6,.row 7],.rowsP 198 .sm,.gone,.gone,.cells 198 [.d .sm],.cells 141 [.d NA],.rows 9 ai .str,.rows 9 ai .str]
abbrev La9:List PV:=[.d (.sl dZ),.d aM,.d pY,.d (.sl ic),.row 8,.row 9,.csl 10 4 4]
abbrev agm:List PB:=[.cells 97 [.d (.sl dZ),.d aM,.d pY,.d (.sl ic),.row 6,.row 7,.csl 8 4 4],.cells 144 [.d iv],.cells 97 vU,.cells 59 uV,.cells 59 [.d fX],.cells 175 [.d eX],.rows 2 ai aM,.rows 2 ai aM,.cells 175 [.d eX,.d eX,.d eX,.d eX]]
abbrev ai3:List PV:=[.ptr 1 0,.d aM,.d aM,.d .bool,.d .bool,.d .bool,.d .bool,.row 2]
abbrev PD:List PV:=[.d D7,.d aM]
abbrev Wg:List PB:=[.cells 192 ai3,.cells 78 PD,.rowsP 9 .str]
abbrev Mr:List PV:=[.ptr 0 0,.ptr 1 0,.ptr 2 0,.ptr 3 0,.ptr 4 0,.ptr 5 0,.ptr 6 0,.ptr 7 0,.d aM]
abbrev akb:List PV:=[.d (.sl dZ),.d aM,.d pY,.d (.sl ic),.row 8,.row 9,.csl 10 4 3]
abbrev akv:List PB:=[.cells 102 [.d uI],.cells 97 akb,.cells 144 [.d iv],.cells 97 vU,.cells 59 uV,.cells 59 [.d fX],.cells 175 La6,.cells 188 [.d qW],.rows 2 ai aM,.rows 2 ai aM,.cells 175 [.d aM,.row 11,.row 12,.d aM,.d eX,.d eX],.rows 2 ai aM,.rows 53 ai (.sl aM)]
abbrev aku:List PB:=[.cells 102 [.d uI],.cells 97 akb,.cells 144 [.d iv],.cells 97 vU,.cells 59 uV,.cells 59 [.d fX],.cells 175 La6,.cells 188 [.d qW],.rows 2 ai aM,.rows 2 ai aM,.cells 175 [.d eX,.d aM,.row 11,.row 12,.d aM,.d eX],.rows 2 ai aM,.rows 53 ai (.sl aM)]
abbrev akt:List PB:=[.cells 102 [.d uI],.cells 97 akb,.cells 144 [.d iv],.cells 97 vU,.cells 59 uV,.cells 59 [.d fX],.cells 175 La6,.cells 188 [.d qW],.rows 2 ai aM,.rows 2 ai aM,.cells 175 [.d eX,.d eX,.d aM,.row 11,.row 12,.d aM],.rows 2 ai aM,.rows 53 ai (.sl aM)]
abbrev ai5:List PV:=[.d (.sl dZ),.d aM,.d pY,.d (.sl ic),.row 8,.row 9,.csl 10 4 2]
abbrev aks:List PB:=[.cells 102 [.d uI],.cells 97 ai5,.cells 144 [.d iv],.cells 97 vU,.cells 59 uV,.cells 59 [.d fX],.cells 175 La6,.cells 188 [.d qW],.rows 2 ai aM,.rows 2 ai aM,.cells 175 [.d aM,.row 11,.row 12,.d aM,.d eX],.rows 2 ai aM,.rows 53 ai (.sl aM)]
abbrev akr:List PB:=[.cells 102 [.d uI],.cells 97 ai5,.cells 144 [.d iv],.cells 97 vU,.cells 59 uV,.cells 59 [.d fX],.cells 175 La6,.cells 188 [.d qW],.rows 2 ai aM,.rows 2 ai aM,.cells 175 [.d eX,.d aM,.row 11,.row 12,.d aM],.rows 2 ai aM,.rows 53 ai (.sl aM)]
abbrev Zz:List PB:=[.cells 225 [.d (.sl GZ),.d (.sl sY),.d aM,.row 1,.row 4,.row 5],.rowsP 198 .sm,.gone,.gone,.rows 9 ai .str,.rows 9 ai .str]
abbrev Mq:List PV:=[.ptr 0 0,.ptr 1 0,.ptr 2 0,.ptr 3 0,.ptr 4 0,.ptr 5 0,.ptr 6 0,.d .bool]
abbrev gL:List PV:=[.ptr 0 0,.d .bool]
abbrev Zy:List PB:=[.cells 225 [.d (.sl GZ),.d (.sl sY),.d aM,.row 1,.row 2,.row 3],.rowsP 198 .sm,.rows 9 ai .str,.rows 9 ai .str]
abbrev akq:List PB:=[.cells 102 [.d uI],.cells 97 [.d (.sl dZ),.d aM,.d pY,.d (.sl ic),.row 8,.row 9,.csl 10 4 1],.cells 144 [.d iv],.cells 97 vU,.cells 59 uV,.cells 59 [.d fX],.cells 175 La6,.cells 188 [.d qW],.rows 2 ai aM,.rows 2 ai aM,.cells 175 La6,.rows 2 ai aM,.rows 53 ai (.sl aM)]
abbrev Mp:List PV:=[.ptr 0 0,.ptr 1 0,.ptr 2 0,.ptr 3 0,.ptr 4 0,.ptr 5 0,.ptr 6 0]
abbrev akp:List PB:=[.cells 102 [.d uI],.cells 97 La9,.cells 144 [.d iv],.cells 97 vU,.cells 59 uV,.cells 59 [.d fX],.cells 175 La6,.cells 188 [.d qW],.rows 2 ai aM,.rows 2 ai aM,.cells 175 [.d aM,.row 11,.row 12,.d aM,.d eX,.d eX,.d eX],.rows 2 ai aM,.rows 53 ai (.sl aM)]
abbrev ako:List PB:=[.cells 102 [.d uI],.cells 97 La9,.cells 144 [.d iv],.cells 97 vU,.cells 59 uV,.cells 59 [.d fX],.cells 175 La6,.cells 188 [.d qW],.rows 2 ai aM,.rows 2 ai aM,.cells 175 [.d eX,.d aM,.row 11,.row 12,.d aM,.d eX,.d eX],.rows 2 ai aM,.rows 53 ai (.sl aM)]
abbrev akn:List PB:=[.cells 102 [.d uI],.cells 97 La9,.cells 144 [.d iv],.cells 97 vU,.cells 59 uV,.cells 59 [.d fX],.cells 175 La6,.cells 188 [.d qW],.rows 2 ai aM,.rows 2 ai aM,.cells 175 [.d eX,.d eX,.d aM,.row 11,.row 12,.d aM,.d eX],.rows 2 ai aM,.rows 53 ai (.sl aM)]
abbrev akm:List PB:=[.cells 102 [.d uI],.cells 97 La9,.cells 144 [.d iv],.cells 97 vU,.cells 59 uV,.cells 59 [.d fX],.cells 175 La6,.cells 188 [.d qW],.rows 2 ai aM,.rows 2 ai aM,.cells 175 [.d eX,.d eX,.d eX,.d aM,.row 11,.row 12,.d aM],.rows 2 ai aM,.rows 53 ai (.sl aM)]
abbrev K3:List PB:=[.cells 31 [.d mc],.cells 87 [.d iQ],.cells 59 [.d fX],.cells 87 vU]
abbrev Mo:List PV:=[.ptr 0 0,.ptr 1 0,.ptr 2 0,.ptr 3 0,.ptr 4 0,.ptr 5 0]
abbrev akl:List PB:=[.cells 97 [.d (.sl dZ),.d aM,.d pY,.d (.sl ic),.row 6,.row 7,.csl 8 4 3],.cells 144 [.d iv],.cells 97 vU,.cells 59 uV,.cells 59 [.d fX],.cells 175 [.d eX],.rows 2 ai aM,.rows 2 ai aM,.cells 175 [.d eX,.d eX,.d eX]]
abbrev Te:List PV:=[.d (.sl dZ),.d aM,.d pY,.d (.sl ic),.row 7,.row 8,.csl 9 4 4]
abbrev qQ:List PV:=[.ptr 0 0,.ptr 1 0,.d .bool]
abbrev zX:List PV:=[.ptr 0 0,.ptr 1 0,.ptr 2 0,.ptr 3 0,.d .bool]
abbrev agd:List PV:=[.nil,.nil,.nil,.nil,.nil,.nil]
abbrev akk:List PB:=[.cells 141 [.d NA],.cells 31 agd,.cells 31 [.row 4,.row 5,.row 6,.row 7,.nil,.nil],.cells 228 [.d GZ],.rows 114 ai ky,.rows 49 ai qY,.rows 118 ai lq,.rows 9 ai .str]
abbrev Zw:List PV:=[.nil,.nil,.nil,.nil,.nil,.nil,.nil]
abbrev ank:List PV:=[.d (.sl ky),.d (.sl qY),.d (.sl lq),.d (.sl .str),.d (.sl .str),.d (.sl oy),.row 5]
abbrev anw:List PB:=[.cells 141 [.d NA],.cells 102 Zw,.cells 102 ank,.cells 184 [.d (.sl ky),.d (.sl qY),.d (.sl lq),.d (.sl .str),.d (.sl .str),.d (.sl oy),.d (.sl .str),.row 6,.d aM,.d aM],.cells 171 [.d aM,.row 6],.rows 171 ai xd,.rows 188 ai qW]
abbrev Hu:List PV:=[.row 0,.d aM,.row 1,.row 2]
abbrev akj:List PB:=[.cells 78 [.d yO],.cells 87 [.d iQ],.cells 31 [.d mc],.rows 59 ai fX,.cells 53 [.row 5,.row 6,.row 7,.row 8],.rows 3 ai aM,.rows 3 ai aM,.rows 3 ai aM,.rows 3 ai aM]
abbrev Fw:List PV:=[.ptr 0 0,.ptr 1 0,.ptr 2 0,.d aM]
abbrev K2:List PV:=[.d aM,.d (.sl aM),.d uW,.d aM]
abbrev Zx:List PV:=[.d (.sl dZ),.d aM,.d pY,.d (.sl ic),.row 7,.row 8,.csl 9 4 3]
abbrev aki:List PB:=[.cells 78 [.d yO],.cells 87 [.d iQ],.cells 31 [.d mc],.cells 53 [.row 4,.row 5,.row 6,.row 7],.rows 3 ai aM,.rows 3 ai aM,.rows 3 ai aM,.rows 3 ai aM]
abbrev D6:List PV:=[.ptr 0 0,.ptr 1 0,.ptr 2 0,.d .bool]
abbrev vT:List PV:=[.ptr 0 0,.ptr 1 0,.d aM]
abbrev K0:List PV:=[.d aM,.row 10,.row 11,.d aM]
abbrev agc:List PV:=[.d aM,.row 0,.row 1,.d aM]
abbrev XO:List PV:=[.d aM,.nil,.nil,.d aM]
abbrev akh:List PB:=[.rows 2 ai aM,.rows 53 ai (.sl aM),.cells 188 [.d qW],.cells 175 agc,.cells 175 XO]
abbrev akg:List PB:=[.cells 225 [.d (.sl GZ),.d (.sl sY),.d aM,.row 4,.row 5,.row 6],.gone,.gone,.gone,.rowsP 198 .sm,.rows 9 ai .str,.rows 9 ai .str]
abbrev Ch:List PV:=[.nil,.d aM,.nil,.nil]
abbrev akf:List PB:=[.cells 84 [.row 2,.d aM,.row 3,.row 4],.cells 84 Ch,.rows 153 ai dZ,.rows 4 ai .bool,.rows 155 ai ic]
abbrev KZ:List PV:=[.ptr 0 0,.ptr 3 0,.d .bool]
abbrev anv:List PB:=[.cells 34 Zw,.cells 78 [.d yO],.cells 34 ank,.cells 87 [.d iQ],.rows 59 aj fX,.rows 59 ai fX]
abbrev pW:List PB:=[.cells 31 [.d mc]]
abbrev anu:List PB:=[.cells 97 [.d (.sl dZ),.d aM,.d pY,.d (.sl ic),.row 6,.row 7,.csl 8 4 2],.cells 144 [.d iv],.cells 97 vU,.cells 59 uV,.cells 59 [.d fX],.cells 175 [.d eX],.rows 2 ai aM,.rows 2 ai aM,.cells 175 [.d eX,.d eX]]
abbrev ant:List PB:=[.cells 78 [.d yO],.cells 87 [.d iQ],.cells 31 [.d mc],.rows 59 ai fX,.cells 53 [.row 7,.row 8,.row 9,.row 10],.cells 59 [.d fX],.cells 87 [.d iQ],.rows 3 ai aM,.rows 3 ai aM,.rows 3 ai aM,.rows 3 ai aM]
abbrev agl:List PB:=[.cells 31 agd,.cells 31 [.row 2,.row 3,.row 4,.row 5,.row 6,.row 7],.rows 114 aj ky,.rows 49 aj qY,.rows 118 aj lq,.rows 9 aj .str,.rows 9 aj .str,.rows 120 ai oy]
abbrev vS:List PV:=[.ptr 0 0,.d aM]
abbrev ad1:List PV:=[.row 2,.row 3,.row 4,.row 5]
abbrev ans:List PB:=[.cells 78 [.d yO],.cells 53 ad1,.rows 3 ai aM,.rows 3 ai aM,.rows 3 ai aM,.rows 3 ai aM,.cells 59 uV,.cells 59 [.d aM,.d aM,.d aM,.d aM,.d aM,.d (.sl aM),.nil]]
abbrev agk:List PV:=[.d (.sl dZ),.d aM,.d pY,.d (.sl ic),.row 7,.row 8,.csl 9 4 2]
abbrev Mn:List PV:=[.d vV,.d fX,.d .bool]
abbrev anr:List PB:=[.cells 78 [.d yO],.cells 53 ad1,.rows 3 ai aM,.rows 3 ai aM,.rows 3 ai aM,.rows 3 ai aM,.cells 87 [.d iQ],.cells 31 [.d mc],.cells 59 uV,.cells 59 uV]
abbrev anq:List PB:=[.cells 141 [.d NA],.cells 31 agd,.cells 31 [.row 3,.row 4,.row 5,.row 6,.nil,.nil],.rows 114 ai ky,.rows 49 ai qY,.rows 118 ai lq,.rows 9 ai .str]
abbrev ake:List PV:=[.d (.sl dZ),.d aM,.d pY,.d (.sl ic),.row 3,.row 4,.row 5]
abbrev Mm:List PV:=[.d uI,.d vV,.d iv]
abbrev akd:List PB:=[.rows 153 ai dZ,.rows 4 ai .bool,.rows 155 ai ic,.cells 84 Hu,.rows 3 ai aM]
abbrev ad4:List PV:=[.row 3,.d aM,.row 4,.row 5]
abbrev anp:List PB:=[.cells 31 [.d mc],.cells 84 ad4,.cells 84 Ch,.rows 153 ai dZ,.rows 4 ai .bool,.rows 155 ai ic]
abbrev uU:List PV:=[.d aM,.d aM]
abbrev ano:List PB:=[.cells 171 [.d xd],.cells 175 [.d aM,.row 3,.row 4,.d aM],.cells 175 XO,.rows 2 ai aM,.rows 53 ai (.sl aM)]
abbrev ann:List PB:=[.cells 192 ai2,.cells 78 [.d yO],.gone,.rows 198 ai .sm,.rowsP 9 .str]
abbrev akc:List PB:=[.rows 59 ai fX,.cells 102 [.d uI],.cells 97 [.d vV],.cells 97 vU]
abbrev aka:List PV:=[.ptr 1 0,.d aM,.d aM,.d .bool,.d .bool,.d .bool,.d .bool,.row 3]
abbrev anm:List PB:=[.cells 59 uV,.cells 175 [.d eX],.cells 188 [.d qW],.cells 59 [.d aM,.d aM,.d aM,.d aM,.d aM,.row 4,.nil],.rows 3 ai aM]
abbrev PC:List PB:=[.cells 198 [.d .sm]]
abbrev agj:List PV:=[.agg [.agg Hu,.row 3,.row 4,.csl 5 4 4]]
abbrev Td:List PB:=[.cells 141 [.d NA]]
abbrev ak9:List PB:=[.cells 31 [.d mc],.cells 171 [.d xd],.cells 188 [.d qW]]
abbrev agi:List PB:=[.cells 141 [.d NA],.cells 182 [.d sY]]
abbrev agh:List PB:=[.cells 141 [.d NA],.cells 196 [.d .ex]]
abbrev ak8:List PB:=[.cells 31 [.d mc],.rows 9 ai .str,.cells 114 [.d ky]]
abbrev ak7:List PB:=[.rows 153 ai dZ,.rows 4 ai .bool,.rows 155 ai ic]
abbrev agf:List PB:=[.cells 31 [.d mc],.cells 188 [.d qW]]
abbrev age:List PV:=[.ptr 0 0,.ptr 4 0,.ptr 5 0,.d .bool]
abbrev ak6:List PV:=[.ptr 0 0,.ptr 1 0,.ptr 2 0,.ptr 3 0,.ptr 4 0,.d aM]
abbrev Wf:List PB:=[.cells 31 [.d mc],.cells 84 [.d Hw]]
abbrev ak5:List PB:=[.cells 78 [.d yO],.rows 3 ai aM,.rows 3 ai aM]
abbrev Zv:List PB:=[.cells 31 [.d mc],.rows 9 ai .str]
abbrev ak4:List PB:=[.cells 59 [.d fX],.cells 87 vU,.cells 87 ake,.rows 2 ai aM,.rows 2 ai aM,.rows 3 ai aM]
abbrev anl:List PB:=[.cells 78 PD,.cells 53 ad1,.rows 3 ai aM,.rows 3 ai aM,.rows 3 ai aM,.rows 3 ai aM]
abbrev Ht:List PV:=[.d (.sl aM),.d aM]
abbrev KY:List PV:=[.ptr 0 0,.row 1,.d aM]
abbrev Zu:List PB:=[.cells 228 [.d GZ]]
abbrev Zt:List PB:=[.cells 78 [.d yO]]
abbrev ak3:List PV:=[.agg [.agg Hu,.row 3,.row 4,.csl 5 4 3]]
abbrev Tc:List PB:=[.cells 78 PD]
abbrev ad9:List PB:=[.rows 2 ai aM,.rows 53 ai (.sl aM)]
abbrev ad8:List PB:=[.cells 31 [.d mc],.cells 171 [.d xd]]
abbrev ad7:List PB:=[.cells 102 [.d uI],.cells 97 [.d vV]]
abbrev nz:List PV:=[.d (.sl aM)]
abbrev ad6:List PV:=[.ptr 0 0,.ptr 1 0,.ptr 2 0,.ptr 3 0]
abbrev ai4:List PV:=[.d (.sl dZ),.d aM,.d pY,.d (.sl ic),.row 7,.row 8,.csl 9 4 1]
abbrev ad5:List PB:=[.cells 84 [.d Hw],.rows 3 ai aM]
abbrev Tf:List PV:=[.ptr 0 0,.d aM,.d aM]
def tyT:PT Ty:=dH [(2,aM),(3,aM),(4,.bool),(9,.str),(47,iv),(49,qY),(53,(.sl aM)),(55,iv),(59,fX),(81,pY),(114,ky),(118,lq),(120,oy),(144,iv),(153,dZ),(155,ic),(171,xd),(175,eX),(182,sY),(188,qW),(196,.ex),(198,.sm),(228,GZ)]
def bX (t:TypeId):Option Ty:=tyT.get t
def Bi:FT:=⟨⟨[],[]⟩,⟨[.d (.sl .str)],[]⟩,.leaf⟩
def L_:cg:=cn Bi ko
def zF:FT:=⟨⟨[.d .str],[]⟩,⟨[.d .bool],[]⟩,dH [(8,(.j ⟨[0,3],[4],⟨[.d aM],[]⟩,[]⟩))]⟩
def Kp:cg:=cn zF jF
def GA:FT:=⟨⟨[.d (.int .u8)],[]⟩,⟨[.d .bool],[]⟩,dH [(2,(.j ⟨[],[2],⟨[.d .bool],[]⟩,[]⟩))]⟩
def Ss:cg:=cn GA ly
def J5:FT:=⟨⟨[.d (.int .u8)],[]⟩,⟨[.d .bool],[]⟩,dH [(2,(.j ⟨[],[2],⟨[.d .bool],[]⟩,[]⟩))]⟩
def Vx:cg:=cn J5 rC
def J4:FT:=⟨⟨[.d (.int .u8)],[]⟩,⟨[.d .bool],[]⟩,dH [(2,(.j ⟨[],[2],⟨[.d .bool],[]⟩,[]⟩))]⟩
def Vw:cg:=cn J4 pn
def GD:FT:=⟨⟨[.d .str],[]⟩,⟨[.d .bool],[]⟩,dH [(3,(.j ⟨[0],[21],⟨[.d .bool],[]⟩,[]⟩)),(14,(.j ⟨[0],[3],⟨[.d aM],[]⟩,[]⟩))]⟩
def St:cg:=cn GD fg
def JZ:FT:=⟨⟨[.d .bool],[]⟩,⟨[.d aM],[]⟩,.leaf⟩
def Vo:cg:=cn JZ fY
def J0:FT:=⟨⟨uU,[]⟩,⟨[.d aM,.d .bool],[]⟩,.leaf⟩
def Vp:cg:=cn J0 ul
def Gw:FT:=⟨⟨[.d aM,.d aM,.d aM],[]⟩,⟨[.d aM,.d .bool],[]⟩,dH [(91,(.j ⟨[],[6,7],⟨[.d aM,.d .bool],[]⟩,[]⟩)),(97,(.j ⟨[],[6,7],⟨[.d aM,.d .bool],[]⟩,[]⟩))]⟩
def So:cg:=cn Gw su
def J1:FT:=⟨⟨uU,[]⟩,⟨[.d aM],[]⟩,dH [(12,(.j ⟨[],[5],⟨[.d aM],[]⟩,[]⟩))]⟩
def Vq:cg:=cn J1 rA
def Bh:FT:=⟨⟨[.d aM],[]⟩,⟨[.d aM],[]⟩,dH [(4,(.j ⟨[0],[3],⟨[.d .bool],[]⟩,[]⟩)),(10,(.j ⟨[0],[10],⟨[.d .bool],[]⟩,[]⟩)),(16,(.j ⟨[],[17],⟨[.d .bool],[]⟩,[]⟩))]⟩
def L9:cg:=cn Bh ml
def o8:FT:=⟨⟨[.d .ex],[]⟩,⟨[.d .bool],[]⟩,dH [(2,(.j ⟨[],[1,3],⟨gL,[.cells 196 [.d .ex]]⟩,[]⟩)),(5,(.j ⟨[],[1,50],⟨gL,[.cells 196 [.d .ex]]⟩,[]⟩)),(16,(.j ⟨[],[1,4],⟨vS,[.cells 196 [.d .ex]]⟩,[]⟩))]⟩
def Hi:cg:=cn o8 ja
def G7 (n:Nat):cg:=cn o8 (ia n)
def J3:FT:=⟨⟨[.d .ex],[]⟩,⟨[.d .bool],[]⟩,dH [(2,(.j ⟨[],[2],⟨[.d .bool],[]⟩,[]⟩))]⟩
def Vv:cg:=cn J3 pm
def sX:FT:=⟨⟨[.d .sm],[]⟩,⟨[.d .bool],[]⟩,dH [(3,(.j ⟨[],[1,13],⟨gL,PC⟩,[]⟩)),(10,(.j ⟨[],[1,3],⟨gL,PC⟩,[]⟩)),(13,(.j ⟨[],[1,47],⟨gL,PC⟩,[]⟩)),(21,(.j ⟨[],[1,66],⟨gL,PC⟩,[]⟩)),(29,(.j ⟨[],[1,95],⟨gL,PC⟩,[]⟩)),(36,(.j ⟨[],[1,4],⟨gL,PC⟩,[]⟩)),(39,(.j ⟨[],[1,130],⟨gL,PC⟩,[]⟩)),(46,(.j ⟨[],[1,5],⟨gL,PC⟩,[]⟩)),(49,(.j ⟨[],[1,157],⟨gL,PC⟩,[]⟩)),(56,(.j ⟨[],[2],⟨[.d .bool],[]⟩,[]⟩))]⟩
def G6 (n:Nat):cg:=cn sX (eC n)
def nX:FT:=⟨⟨[.d (.sl .sm)],[]⟩,⟨[.d .bool],[]⟩,dH [(6,(.j ⟨[0],[3],⟨[.d aM],[]⟩,[]⟩))]⟩
def Fh:cg:=cn nX nL
def EE (n:Nat):cg:=cn nX (dG n)
def yp:FT:=⟨⟨[.d GZ],[]⟩,⟨[.d .bool],[]⟩,dH [(3,(.j ⟨[],[1,31],⟨gL,Zu⟩,[]⟩)),(11,(.j ⟨[],[1,50],⟨gL,Zu⟩,[]⟩)),(18,(.j ⟨[],[2],⟨[.d .bool],[]⟩,[]⟩))]⟩
def Hh:cg:=cn yp jY
def Gz:FT:=⟨⟨[.d NA],[]⟩,⟨[.d .bool],[]⟩,dH [(6,(.j ⟨[],[1,3],⟨vS,Td⟩,[]⟩)),(27,(.j ⟨[],[1,4],⟨vS,Td⟩,[]⟩)),(42,(.j ⟨[4],[1,5,6],⟨vT,agi⟩,[]⟩)),(59,(.j ⟨[4],[1,56],⟨gL,Td⟩,[]⟩))]⟩
def Sr:cg:=cn Gz pK
def Xs:FT:=⟨⟨[.d (.sl .str),.d .str],[]⟩,⟨[.d aM],[]⟩,dH [(6,(.j ⟨[0,1],[5],⟨[.d aM],[]⟩,[]⟩))]⟩
def afl:cg:=cn Xs iY
def Gy:FT:=⟨⟨[.d (.sl GZ),.d .str],[]⟩,⟨[.d aM],[]⟩,dH [(6,(.j ⟨[0,1],[5],⟨[.d aM],[]⟩,[]⟩))]⟩
def Sq:cg:=cn Gy h_
def Bg:FT:=⟨⟨[.d (.sl sY),.d .str],[]⟩,⟨[.d aM],[]⟩,dH [(6,(.j ⟨[0,1],[5],⟨[.d aM],[]⟩,[]⟩))]⟩
def L8:cg:=cn Bg gR
def Gx:FT:=⟨⟨[.d NA,.d aM,.d .str],[]⟩,⟨[.d aM],[]⟩,dH [(3,(.j ⟨[2],[3,27],⟨gL,Td⟩,[]⟩)),(52,(.j ⟨[7],[3,56],⟨gL,Td⟩,[]⟩))]⟩
def Sp:cg:=cn Gx pJ
def Ng:FT:=⟨⟨[.d NA,.d aM,.d .str,.d aM,.d aM],[]⟩,⟨[.d aM],[]⟩,dH [(13,(.j ⟨[],[25],⟨[.d .bool],[]⟩,[]⟩))]⟩
def YV:cg:=cn Ng gE
def xQ:FT:=⟨⟨[.d .ex],[]⟩,⟨uU,[]⟩,dH [(8,(.j ⟨[],[1,4,5,6],⟨[.ptr 0 0,.d aM,.d aM,.d aM],[.cells 196 [.d .ex]]⟩,[]⟩))]⟩
def Vt:cg:=cn xQ BU
def Ur (n:Nat):cg:=cn xQ (nh n)
def xP:FT:=⟨⟨[.d NA,.d aM,.d .ex],[]⟩,⟨[.d aM],[]⟩,dH [(7,(.j ⟨[1],[3,5,7],⟨vT,agh⟩,[]⟩)),(21,(.j ⟨[1],[3,5,7,8],⟨[.ptr 0 0,.ptr 1 0,.d aM,.d aM],agh⟩,[]⟩)),(23,(.j ⟨[1,7,8],[3,5,33],⟨qQ,agh⟩,[]⟩))]⟩
def Vr:cg:=cn xP BT
def Uq (n:Nat):cg:=cn xP (ng n)
def Nh:FT:=⟨⟨[.d NA,.d aM,.d .ex],[]⟩,⟨[.d aM],[]⟩,dH [(13,(.j ⟨[1],[3,5,22],⟨qQ,agh⟩,[]⟩))]⟩
def YW:cg:=cn Nh mj
def DB:FT:=⟨⟨[.d .bool],[]⟩,⟨[.d aM],[]⟩,.leaf⟩
def O9:cg:=cn DB c9
def Xr:FT:=⟨⟨uU,[]⟩,⟨[.d aM],[]⟩,.leaf⟩
def afk:cg:=cn Xr iX
def wW:FT:=⟨⟨[.ptr 0 0,.d aM,.d aM,.d .str],Zy⟩,⟨[.d .bool],Zy⟩,dH [(6,(.j ⟨[1,2,3],[0,9],⟨vS,Zy⟩,[]⟩)),(17,(.j ⟨[1,2,3,9],[0,46],⟨gL,Zy⟩,[]⟩))]⟩
def Fg:cg:=cn wW dU
def Bf:FT:=⟨⟨[.ptr 0 0,.d .sm],Zy⟩,⟨[.d aM],Zz⟩,dH [(1,(.a [.ren 0 4,.ren 0 5])),(28,(.j ⟨[6,7,8,9,30],[0,3,5,67],⟨age,La8⟩,[]⟩)),(41,(.j ⟨[],[4],⟨[.d aM],Zz⟩,[]⟩)),(44,(.j ⟨[6,7,8,9,30],[0,3,5,91],⟨age,La8⟩,[]⟩)),(51,(.j ⟨[],[4],⟨[.d aM],Zz⟩,[]⟩)),(63,(.j ⟨[],[4],⟨[.d aM],Zz⟩,[]⟩)),(66,(.j ⟨[6,7,8,9,30],[0,3,5,119],⟨age,La8⟩,[]⟩)),(89,(.j ⟨[],[4],⟨[.d aM],Zz⟩,[]⟩)),(108,(.j ⟨[],[0,3,187],⟨[.ptr 0 0,.ptr 4 0,.d .bool],[.cells 225 [.d (.sl GZ),.d (.sl sY),.d aM,.row 1,.row 5,.row 6],.rowsP 198 .sm,.gone,.gone,.cells 198 [.d .sm],.rows 9 ai .str,.rows 9 ai .str]⟩,[]⟩)),(131,(.j ⟨[],[4],⟨[.d aM],Zz⟩,[]⟩)),(137,(.j ⟨[6],[0,3,5,14],⟨[.ptr 0 0,.ptr 4 0,.ptr 5 0,.d aM],La8⟩,[]⟩)),(139,(.j ⟨[6],[0,3,5,14],⟨[.ptr 0 0,.ptr 4 0,.ptr 5 0,.d aM],La8⟩,[]⟩)),(140,(.j ⟨[6,14],[0,3,5,253],⟨age,La8⟩,[]⟩))]⟩
def L6:cg:=cn Bf mi
def r8:FT:=⟨⟨[.ptr 0 0,.d (.sl .sm)],Zy⟩,⟨uU,akg⟩,dH [(1,(.a [.ren 0 3,.ren 0 4,.ren 0 5])),(6,(.j ⟨[1],[0,6],⟨vS,akg⟩,[]⟩)),(19,(.j ⟨[1,6],[0,7,8],⟨[.ptr 0 0,.ptr 4 0,.d aM],[.cells 225 [.d (.sl GZ),.d (.sl sY),.d aM,.row 5,.row 6,.row 7],.gone,.gone,.gone,.cells 198 [.d .sm],.rowsP 198 .sm,.rows 9 ai .str,.rows 9 ai .str]⟩,[]⟩)),(37,(.j ⟨[1,6],[0,8,9],⟨Tf,akg⟩,[]⟩))]⟩
def L7:cg:=cn r8 vK
def Lx (n:Nat):cg:=cn r8 (iF n)
def xR:FT:=⟨⟨[.d (.sl .sm)],[]⟩,⟨[.d aM],[]⟩,dH [(8,(.j ⟨[0],[3,4],⟨uU,[]⟩,[]⟩))]⟩
def Vu:cg:=cn xR BV
def Us (n:Nat):cg:=cn xR (nj n)
def J2:FT:=⟨⟨[.d (.sl GZ)],[]⟩,⟨uU,[]⟩,dH [(8,(.j ⟨[0],[4,5,6,7,8],⟨[.d aM,.d aM,.d aM,.d aM,.d aM],[]⟩,[]⟩)),(16,(.j ⟨[0,8],[4,5,6,7],⟨[.d aM,.d aM,.d aM,.d aM],[]⟩,[]⟩)),(38,(.j ⟨[0,8],[4,5,6,7,9],⟨[.d aM,.d aM,.d aM,.d aM,.ptr 0 0],Zu⟩,[]⟩)),(39,(.j ⟨[0,4,5,6,7,8,36],[9,39],⟨gL,Zu⟩,[]⟩)),(47,(.j ⟨[0,4,5,6,7,8,36],[9,47],⟨gL,Zu⟩,[]⟩)),(61,(.j ⟨[0,4,5,6,7,8],[9,69],⟨gL,Zu⟩,[]⟩))]⟩
def Vs:cg:=cn J2 rB
def DA:FT:=⟨⟨[.d NA],[]⟩,⟨uU,[]⟩,dH [(6,(.j ⟨[],[1,4],⟨vS,Td⟩,[]⟩)),(17,(.j ⟨[4],[1,5,37],⟨qQ,agi⟩,[]⟩)),(29,(.j ⟨[],[1,6],⟨vS,Td⟩,[]⟩)),(51,(.j ⟨[6],[1,7,8],⟨vT,agi⟩,[]⟩)),(62,(.j ⟨[6,8],[1,7,90],⟨qQ,agi⟩,[]⟩))]⟩
def O8:cg:=cn DA nK
def DC:FT:=⟨⟨[.d NA],[]⟩,⟨uU,[]⟩,dH [(44,(.j ⟨[],[1,8,9],⟨Tf,Td⟩,[]⟩)),(67,(.a [.cel 10 3 198 .sm,.cel 10 4 9 .str,.cel 10 5 9 .str])),(69,(.j ⟨[],[1,10,11],⟨vT,[.cells 141 [.d NA],.cells 225 [.d (.sl GZ),.d (.sl sY),.d aM,.row 2,.row 3,.row 4],.rowsP 198 .sm,.rows 9 ai .str,.rows 9 ai .str]⟩,[]⟩))]⟩
def O_:cg:=cn DC fm
def xO:FT:=⟨⟨[.row 0,.d aM,.d aM,.d (.sl .sm)],[.rows 120 ai oy]⟩,⟨[.row 1,.d aM],[.gone,.rows 120 ai oy]⟩,dH [(1,(.a [.ren 0 0])),(6,(.j ⟨[1,3],[0,2,10],⟨[.row 1,.d aM,.d aM],[.gone,.rows 120 ai oy]⟩,[]⟩)),(25,(.a [.nil 8 120 oy]))]⟩
def Vi:cg:=cn xO IC
def Up (n:Nat):cg:=cn xO (pu n)
def Gt:FT:=⟨⟨[.d (.sl qY),.d .str],[]⟩,⟨[.d aM],[]⟩,dH [(6,(.j ⟨[0,1],[5],⟨[.d aM],[]⟩,[]⟩))]⟩
def Sl:cg:=cn Gt j_
def Gv:FT:=⟨⟨[.d mc,.d .str],[]⟩,⟨[.d aM],[]⟩,dH [(6,(.j ⟨[1],[2,5],⟨vS,pW⟩,[]⟩))]⟩
def Sn:cg:=cn Gv lx
def JX:FT:=⟨⟨[.d NA],[]⟩,⟨[.d mc],[]⟩,dH [(18,(.j ⟨[],[1,2,3,6],⟨Fw,anq⟩,[.cel 3 0 114 ky,.cel 3 1 49 qY,.cel 3 2 118 lq,.cel 3 3 9 .str]⟩)),(31,(.j ⟨[6],[1,2,3],⟨[.ptr 0 0,.ptr 1 0,.ptr 2 0],anq⟩,[]⟩)),(32,(.j ⟨[6,31],[1,2,3,7,39],⟨zX,akk⟩,[]⟩)),(42,(.j ⟨[6],[1,2,3,7,8],⟨[.ptr 0 0,.ptr 1 0,.ptr 2 0,.ptr 3 0,.d aM],akk⟩,[]⟩)),(53,(.j ⟨[6,31],[1,2,3,7,65],⟨zX,akk⟩,[]⟩)),(69,(.a [.cel 3 5 120 oy])),(71,(.j ⟨[],[1,2,3,9],⟨Fw,[.cells 141 [.d NA],.cells 31 agd,.cells 31 [.row 3,.row 4,.row 5,.row 6,.row 7,.row 8],.rows 114 ai ky,.rows 49 ai qY,.rows 118 ai lq,.rows 9 ai .str,.rows 9 ai .str,.rows 120 ai oy]⟩,[.cel 3 4 9 .str]⟩))]⟩
def Vm:cg:=cn JX uk
def JU:FT:=⟨⟨[.d mc],[]⟩,⟨[.d (.sl .str),.d .bool],[]⟩,dH [(8,(.j ⟨[],[1,4,5],⟨KY,Zv⟩,[.nil 4 9 .str]⟩)),(15,(.j ⟨[],[1,4,5],⟨KY,Zv⟩,[]⟩)),(37,(.j ⟨[5],[1,4,6,51],⟨[.ptr 0 0,.row 1,.ptr 2 0,.d .bool],ak8⟩,[]⟩)),(48,(.j ⟨[5],[1,4,6,7],⟨[.ptr 0 0,.row 1,.ptr 2 0,.d aM],ak8⟩,[]⟩)),(59,(.j ⟨[5,7],[1,4,6,93],⟨[.ptr 0 0,.row 1,.ptr 2 0,.d .bool],ak8⟩,[]⟩)),(72,(.j ⟨[],[1,4,9],⟨KY,Zv⟩,[]⟩)),(87,(.j ⟨[],[1,4,10],⟨KY,Zv⟩,[]⟩))]⟩
def Vj:cg:=cn JU pj
def yo:FT:=⟨⟨[.d mc],[]⟩,⟨[.d .bool],[]⟩,dH [(3,(.j ⟨[],[1,49],⟨gL,pW⟩,[]⟩)),(24,(.j ⟨[3],[1,5],⟨vS,pW⟩,[]⟩)),(33,(.j ⟨[3,5],[1,79],⟨gL,pW⟩,[]⟩)),(45,(.j ⟨[],[1,6],⟨vS,pW⟩,[]⟩)),(56,(.j ⟨[6],[1,109],⟨gL,pW⟩,[]⟩)),(68,(.j ⟨[],[1,8],⟨vS,pW⟩,[]⟩)),(76,(.j ⟨[8],[1],⟨[.ptr 0 0],pW⟩,[]⟩)),(80,(.j ⟨[8],[1,9,132],⟨qQ,[.cells 31 [.d mc],.cells 120 [.d oy]]⟩,[]⟩)),(87,(.j ⟨[8],[1,9,146],⟨qQ,[.cells 31 [.d mc],.cells 120 [.d oy]]⟩,[]⟩)),(90,(.j ⟨[8],[1,165],⟨gL,pW⟩,[]⟩))]⟩
def Hg:cg:=cn yo hZ
def zE:FT:=⟨⟨[.d qW],[]⟩,⟨nz,[]⟩,dH [(6,(.j ⟨[4],[1,5],⟨gL,[.cells 188 [.d qW]]⟩,[]⟩)),(24,(.j ⟨[4],[1,13],⟨gL,[.cells 188 [.d qW]]⟩,[]⟩)),(46,(.j ⟨[4],[1,37],⟨gL,[.cells 188 [.d qW]]⟩,[]⟩))]⟩
def Ko:cg:=cn zE jE
def Gu:FT:=⟨⟨[.d aM],[]⟩,⟨[.d .bool],[]⟩,dH [(2,(.j ⟨[],[2],⟨[.d .bool],[]⟩,[]⟩))]⟩
def Sm:cg:=cn Gu pI
def JV:FT:=⟨⟨[.d (.sl qW),.d aM],[]⟩,⟨[.d .bool],[]⟩,dH [(6,(.j ⟨[0],[1,5],⟨uU,[]⟩,[]⟩)),(14,(.j ⟨[0,5],[1],⟨[.d aM],[]⟩,[]⟩)),(16,(.j ⟨[0,1,5],[19],⟨[.d .bool],[]⟩,[]⟩))]⟩
def Vk:cg:=cn JV pl
def Xq:FT:=⟨⟨uU,[]⟩,⟨[.d .bool],[]⟩,dH [(2,(.j ⟨[],[4],⟨[.d .bool],[]⟩,[]⟩))]⟩
def afj:cg:=cn Xq jp
def JW:FT:=⟨⟨[.d mc,.d aM,.d aM],[]⟩,⟨[.d .bool],[]⟩,dH [(2,(.j ⟨[],[6],⟨[.d .bool],[]⟩,[]⟩))]⟩
def Vl:cg:=cn JW m6
def Dx:FT:=⟨⟨[.d mc,.d qW],[]⟩,⟨[.d .bool],[]⟩,dH [(9,(.j ⟨[],[4],⟨[.d .bool],[]⟩,[]⟩)),(15,(.j ⟨[],[4],⟨[.d .bool],[]⟩,[]⟩)),(30,(.j ⟨[6],[2,3,59],⟨qQ,agf⟩,[]⟩)),(37,(.j ⟨[],[4],⟨[.d .bool],[]⟩,[]⟩)),(40,(.j ⟨[6],[2,3,78],⟨qQ,agf⟩,[]⟩)),(55,(.j ⟨[],[4],⟨[.d .bool],[]⟩,[]⟩)),(58,(.j ⟨[6],[2,3,98],⟨qQ,agf⟩,[]⟩)),(72,(.j ⟨[6],[2,3,108],⟨qQ,agf⟩,[]⟩)),(97,(.j ⟨[],[4],⟨[.d .bool],[]⟩,[]⟩)),(103,(.j ⟨[],[4],⟨[.d .bool],[]⟩,[]⟩))]⟩
def O5:cg:=cn Dx lG
def wV:FT:=⟨⟨[.d mc,.d aM,.d xd],[]⟩,⟨[.d .bool],[]⟩,dH [(5,(.j ⟨[1,7],[3,5,26],⟨qQ,ad8⟩,[]⟩)),(16,(.j ⟨[1,7],[3,5,8],⟨vT,ad8⟩,[]⟩)),(28,(.j ⟨[1,7,8],[3,5,9,67],⟨D6,ak9⟩,[]⟩)),(36,(.j ⟨[1,7,8],[3,5,9,100],⟨D6,ak9⟩,[]⟩)),(44,(.j ⟨[1,7,8],[3,5,9,122],⟨D6,ak9⟩,[]⟩)),(56,(.j ⟨[1,7,8,10],[3,5,11],⟨vT,ad8⟩,[]⟩))]⟩
def Ff:cg:=cn wV im
def JY:FT:=⟨⟨[.d uI],[]⟩,⟨[.d .bool],[]⟩,dH [(3,(.j ⟨[],[1,17],⟨gL,[.cells 102 [.d uI]]⟩,[]⟩)),(14,(.j ⟨[],[1,3],⟨vS,[.cells 102 [.d uI]]⟩,[]⟩))]⟩
def Vn:cg:=cn JY jD
def Dy:FT:=⟨⟨[.ptr 0 0,.d qW],La5⟩,⟨[],La4⟩,.leaf⟩
def O6:cg:=cn Dy cD
def qL:FT:=⟨⟨[.ptr 0 0,.d .ex,.d aM],La5⟩,⟨[],La4⟩,dH [(2,(.j ⟨[],[],⟨[],La4⟩,[]⟩))]⟩
def Km:cg:=cn qL iJ
def IL (n:Nat):cg:=cn qL (iK n)
def yn:FT:=⟨⟨[.ptr 0 0,.d .sm],La5⟩,⟨[],La4⟩,.leaf⟩
def Hf:cg:=cn yn lY
def Be:FT:=⟨⟨[.ptr 0 0,.d .str],La5⟩,⟨[.d aM],La5⟩,dH [(6,(.j ⟨[1],[0,5],⟨vS,La5⟩,[]⟩))]⟩
def L5:cg:=cn Be jt
def qM:FT:=⟨⟨[.ptr 0 0,.d (.sl .sm)],La5⟩,⟨[],La4⟩,dH [(1,(.a [.ren 0 7])),(3,(.j ⟨[1],[0,4],⟨vS,La4⟩,[]⟩))]⟩
def Kn:cg:=cn qM uj
def IP (n:Nat):cg:=cn qM (dM n)
def vQ:FT:=⟨⟨[.ptr 0 0,.d .sm],La5⟩,⟨[],La4⟩,dH [(1,(.a [.ren 0 7])),(10,(.j ⟨[],[],⟨[],La4⟩,[]⟩)),(15,(.j ⟨[4,25],[0,3,31],⟨[.ptr 0 0,.ptr 2 0,.d .bool],[.cells 184 [.d (.sl ky),.d (.sl qY),.d (.sl lq),.d (.sl .str),.d (.sl .str),.d (.sl oy),.d (.sl .str),.row 3,.d aM,.d aM],.gone,.cells 198 [.d .sm],.rows 188 ai qW]⟩,[]⟩))]⟩
def Lw (n:Nat):cg:=cn vQ (eR n)
def qN:FT:=⟨⟨[.ptr 0 0,.d .sm],La5⟩,⟨[],La4⟩,.leaf⟩
def CY (n:Nat):cg:=cn qN (db n)
def sW:FT:=⟨⟨[.ptr 0 0,.d .sm,.d aM,.d aM,.d aM],La5⟩,⟨[],La4⟩,.leaf⟩
def G5 (n:Nat):cg:=cn sW (dI n)
def Dz:FT:=⟨⟨[.d NA],[]⟩,⟨[.d uI,.d aM,.d aM],[]⟩,dH [(20,(.j ⟨[],[1,2,7,8,9],⟨[.ptr 0 0,.ptr 1 0,.ptr 2 0,.d aM,.d aM],[.cells 141 [.d NA],.cells 102 Zw,.cells 102 [.d (.sl ky),.d (.sl qY),.d (.sl lq),.d (.sl .str),.d (.sl .str),.d (.sl oy),.row 3],.rows 171 ai xd]⟩,[.cel 7 6 171 xd]⟩)),(32,(.a [.cel 10 7 188 qW])),(45,(.j ⟨[8,9],[1,2,7,10,11,12],⟨ak6,anw⟩,[]⟩)),(59,(.j ⟨[8,9,12,13],[1,2,7,10,11,14],⟨ak6,anw⟩,[]⟩))]⟩
def O7:cg:=cn Dz qr
def RE:FT:=⟨⟨Ht,[]⟩,⟨[.d .bool],[]⟩,dH [(6,(.j ⟨[0,1],[5],⟨[.d aM],[]⟩,[]⟩))]⟩
def abx:cg:=cn RE qp
def RD:FT:=⟨⟨Ht,[]⟩,⟨nz,[]⟩,dH [(6,(.j ⟨[0,1],[5],⟨[.d aM],[]⟩,[]⟩)),(8,(.j ⟨[0,1,5],[18],⟨[.d .bool],[]⟩,[]⟩)),(16,(.j ⟨[0,1,5],[32],⟨[.d .bool],[]⟩,[]⟩))]⟩
def abw:cg:=cn RD wA
def JS:FT:=⟨⟨[.d (.sl aM),.d (.sl aM)],[]⟩,⟨nz,[]⟩,dH [(8,(.j ⟨[0,1],[5,6],⟨Ht,[]⟩,[]⟩)),(23,(.j ⟨[1],[5,7],⟨Ht,[]⟩,[]⟩))]⟩
def Vh:cg:=cn JS rz
def Bd:FT:=⟨⟨[.d aM],[]⟩,⟨[.d aM],[]⟩,dH [(3,(.j ⟨[0],[8],⟨[.d .bool],[]⟩,[]⟩))]⟩
def L4:cg:=cn Bd mh
def Nf:FT:=⟨⟨[.d eX],[]⟩,⟨[.agg agc],ad9⟩,dH [(8,(.j ⟨[],[1,2,3,4],⟨Fw,[.cells 175 [.d eX],.cells 175 XO,.cells 175 [.d aM,.row 3,.row 4,.d aM],.rows 2 ai aM,.rows 53 ai (.sl aM)]⟩,[.cel 3 2 53 (.sl aM)]⟩))]⟩
def YU:cg:=cn Nf cj
def Nd:FT:=⟨⟨[.d qW,.agg agc],ad9⟩,⟨[.agg agc,.d .bool],ad9⟩,dH [(8,(.j ⟨[6],[2,3,4,7],⟨[.ptr 2 0,.ptr 3 0,.ptr 4 0,.d aM],akh⟩,[]⟩)),(17,(.j ⟨[6,7],[2,3,4,33],⟨[.ptr 2 0,.ptr 3 0,.ptr 4 0,.d .bool],akh⟩,[]⟩)),(32,(.j ⟨[],[2,3,4,8,9,10],⟨[.ptr 2 0,.ptr 3 0,.ptr 4 0,.d aM,.d .bool,.d (.sl aM)],akh⟩,[]⟩))]⟩
def YT:cg:=cn Nd wz
def Gs:FT:=⟨⟨[.d xd,.d eX],[]⟩,⟨[.d eX,.d .bool],[]⟩,dH [(3,(.j ⟨[],[2,3,4,23],⟨D6,[.cells 171 [.d xd],.cells 175 [.d eX],.cells 175 XO]⟩,[]⟩)),(16,(.j ⟨[],[2,3,4,6],⟨Fw,ano⟩,[]⟩)),(26,(.j ⟨[6],[2,3,4,44],⟨D6,ano⟩,[]⟩))]⟩
def Sk:cg:=cn Gs mZ
def JQ:FT:=⟨⟨[.d mc],[]⟩,⟨[.d Hw],[]⟩,dH [(8,(.j ⟨[],[1,2,3,4],⟨Fw,[.cells 31 [.d mc],.cells 84 Ch,.cells 84 [.row 3,.d aM,.nil,.nil],.rows 153 ai dZ]⟩,[.cel 3 0 153 dZ]⟩)),(23,(.j ⟨[],[1,2,3,5],⟨Fw,[.cells 31 [.d mc],.cells 84 Ch,.cells 84 [.row 3,.d aM,.row 4,.nil],.rows 153 ai dZ,.rows 4 ai .bool]⟩,[.cel 3 2 4 .bool]⟩)),(38,(.j ⟨[],[1,2,3,6],⟨Fw,[.cells 31 [.d mc],.cells 84 Ch,.cells 84 ad4,.rows 153 ai dZ,.rows 4 ai .bool,.rows 155 ai ic]⟩,[.cel 3 3 155 ic]⟩)),(49,(.j ⟨[6],[1,2,3,7],⟨ad6,[.cells 31 [.d mc],.cells 84 Ch,.cells 84 [.row 4,.d aM,.row 5,.row 6],.cells 155 [.d ic],.rows 153 ai dZ,.rows 4 ai .bool,.rows 155 ai ic]⟩,[]⟩))]⟩
def Vf:cg:=cn JQ rx
def Nb:FT:=⟨⟨[.d mc,.d Hw],[]⟩,⟨[.d .bool],[]⟩,dH [(6,(.j ⟨[],[2,3,5],⟨vT,Wf⟩,[]⟩)),(15,(.j ⟨[5],[2,3,31],⟨qQ,Wf⟩,[]⟩)),(23,(.j ⟨[],[4],⟨[.d .bool],[]⟩,[]⟩))]⟩
def YR:cg:=cn Nb ry
def Xo:FT:=⟨⟨uU,[]⟩,⟨[.d .bool],[]⟩,dH [(2,(.j ⟨[],[4],⟨[.d .bool],[]⟩,[]⟩))]⟩
def afi:cg:=cn Xo qn
def JP:FT:=⟨⟨[.d mc,.d aM,.d aM],[]⟩,⟨[.d .bool],[]⟩,dH [(6,(.j ⟨[2,7],[3,8],⟨gL,pW⟩,[]⟩)),(36,(.j ⟨[2,7],[3,18],⟨gL,pW⟩,[]⟩)),(46,(.j ⟨[2,7],[3,26],⟨gL,pW⟩,[]⟩)),(53,(.j ⟨[],[6],⟨[.d .bool],[]⟩,[]⟩)),(56,(.j ⟨[2,7],[3,43],⟨gL,pW⟩,[]⟩)),(71,(.j ⟨[],[6],⟨[.d .bool],[]⟩,[]⟩)),(74,(.j ⟨[2,7],[3,61],⟨gL,pW⟩,[]⟩)),(92,(.j ⟨[2,7],[3,71],⟨gL,pW⟩,[]⟩)),(102,(.j ⟨[2],[3,79],⟨gL,pW⟩,[]⟩))]⟩
def Ve:cg:=cn JP ui
def Dw:FT:=⟨⟨[.d mc,.d Hw,.d aM,.d aM,.d aM],[]⟩,⟨[.d .bool],[]⟩,dH [(3,(.j ⟨[2,3,4],[5,6,30],⟨qQ,Wf⟩,[]⟩)),(25,(.j ⟨[],[10],⟨[.d .bool],[]⟩,[]⟩)),(50,(.j ⟨[],[10],⟨[.d .bool],[]⟩,[]⟩)),(56,(.j ⟨[],[10],⟨[.d .bool],[]⟩,[]⟩)),(59,(.j ⟨[2,4,70],[5,6,11,119],⟨D6,[.cells 31 [.d mc],.cells 84 [.d Hw],.cells 155 [.d ic]]⟩,[]⟩)),(99,(.j ⟨[2,4,70],[5,6,160],⟨qQ,Wf⟩,[]⟩)),(116,(.j ⟨[],[10],⟨[.d .bool],[]⟩,[]⟩)),(122,(.j ⟨[],[10],⟨[.d .bool],[]⟩,[]⟩))]⟩
def O4:cg:=cn Dw j9
def Dv:FT:=⟨⟨[.d Hw,.d aM],[]⟩,⟨nz,[]⟩,dH [(8,(.j ⟨[1],[2,5,6],⟨KY,ad5⟩,[.nil 5 3 aM]⟩)),(16,(.j ⟨[1,6],[2,5],⟨[.ptr 0 0,.row 1],ad5⟩,[]⟩)),(17,(.j ⟨[1,6],[2,5,30],⟨[.ptr 0 0,.row 1,.d .bool],ad5⟩,[]⟩))]⟩
def O3:cg:=cn Dv nJ
def Du:FT:=⟨⟨Ht,[]⟩,⟨nz,[]⟩,dH [(8,(.j ⟨[0,1],[5,6],⟨[.row 0,.d aM],[.rows 3 ai aM]⟩,[.nil 5 3 aM]⟩)),(16,(.j ⟨[0,1,6],[5],⟨[.row 0],[.rows 3 ai aM]⟩,[]⟩))]⟩
def O2:cg:=cn Du qm
def Nc:FT:=⟨⟨[.d Hw],[]⟩,⟨[.agg Hu],ak7⟩,dH [(8,(.j ⟨[],[1,2,3,4],⟨Fw,[.cells 84 [.d Hw],.cells 84 Ch,.cells 84 ad4,.rows 153 ai dZ,.rows 4 ai .bool,.rows 155 ai ic]⟩,[.cel 3 0 153 dZ]⟩))]⟩
def YS:cg:=cn Nc il
def mo:FT:=⟨⟨[.agg Hu,.d aM],ak7⟩,⟨nz,ak7⟩,dH [(8,(.j ⟨[1],[2,5,6],⟨[.ptr 3 0,.row 4,.d aM],akd⟩,[.nil 5 3 aM]⟩)),(16,(.j ⟨[1,6],[2,5],⟨[.ptr 3 0,.row 4],akd⟩,[]⟩)),(17,(.j ⟨[1,6],[2,5,30],⟨[.ptr 3 0,.row 4,.d .bool],akd⟩,[]⟩))]⟩
def L3:cg:=cn mo mg
def Kl:cg:=⟨mo.pre,⟨mo.post.vs,[]⟩,jC⟩
def JR:FT:=⟨⟨[.d mc,.d Hw,.d aM,.d aM,.d aM,.d aM],[]⟩,⟨[.d Hw,.d aM,.d .bool],[]⟩,dH [(17,(.j ⟨[],[7,12,15],⟨vT,akf⟩,[]⟩)),(26,(.j ⟨[2,4,5,15,30],[6,7,12,45],⟨D6,anp⟩,[]⟩)),(34,(.j ⟨[2,4,5,15,30],[6,7,12,54],⟨D6,anp⟩,[]⟩)),(90,(.j ⟨[],[7,12,17],⟨vT,akf⟩,[]⟩)),(109,(.j ⟨[18],[7,12,19],⟨vT,akf⟩,[]⟩))]⟩
def Vg:cg:=cn JR pi
def JO:FT:=⟨⟨[.d uI],[]⟩,⟨[.d vV],[]⟩,dH [(16,(.j ⟨[],[1,2,3,4],⟨Fw,[.cells 102 [.d uI],.cells 97 vU,.cells 97 [.d (.sl dZ),.d aM,.d pY,.d (.sl ic),.row 3,.nil,.nil],.rows 2 ai aM]⟩,[.cel 3 4 2 aM]⟩)),(31,(.j ⟨[],[1,2,3,5],⟨Fw,[.cells 102 [.d uI],.cells 97 vU,.cells 97 [.d (.sl dZ),.d aM,.d pY,.d (.sl ic),.row 3,.row 4,.nil],.rows 2 ai aM,.rows 2 ai aM]⟩,[.cel 3 5 2 aM]⟩)),(46,(.j ⟨[],[1,2,3,6],⟨Fw,[.cells 102 [.d uI],.cells 97 vU,.cells 97 ake,.rows 2 ai aM,.rows 2 ai aM,.rows 175 ai eX]⟩,[.cel 3 6 175 eX]⟩))]⟩
def Vd:cg:=cn JO uh
def Na:FT:=⟨⟨[.d uI,.d vV],[]⟩,⟨[.d .bool],[]⟩,dH [(3,(.j ⟨[],[2,3,46],⟨qQ,ad7⟩,[]⟩)),(14,(.j ⟨[],[2,3,5],⟨vT,ad7⟩,[]⟩)),(25,(.j ⟨[5],[2,3,97],⟨qQ,ad7⟩,[]⟩))]⟩
def YP:cg:=cn Na wy
def M_:FT:=⟨⟨[.d aM],[]⟩,⟨[.d aM],[]⟩,dH [(5,(.j ⟨[0],[3,10],⟨[.row 0,.d .bool],[.rows 3 aj aM]⟩,[]⟩))]⟩
def YN:cg:=cn M_ wv
def F7:FT:=⟨⟨[.d qW,.d eX],[]⟩,⟨[.d aM],[]⟩,dH [(6,(.j ⟨[6],[2,3,7],⟨qQ,[.cells 188 [.d qW],.cells 175 [.d eX]]⟩,[]⟩)),(28,(.j ⟨[],[2,40],⟨gL,[.cells 188 [.d qW]]⟩,[]⟩))]⟩
def RZ:cg:=cn F7 sr
def Dt:FT:=⟨⟨[.d uI,.d vV,.d aM],[]⟩,⟨[.d fX,.d .bool],[]⟩,dH [(3,(.j ⟨[2],[3,4,6,25],⟨D6,[.cells 102 [.d uI],.cells 97 [.d vV],.cells 59 uV]⟩,[]⟩)),(54,(.j ⟨[],[6,8,9,10],⟨ad6,anm⟩,[.cel 10 5 3 aM]⟩)),(59,(.j ⟨[],[6,8,9,10,98],⟨zX,[.cells 59 uV,.cells 175 [.d eX],.cells 188 [.d qW],.cells 59 uV]⟩,[]⟩)),(68,(.j ⟨[],[6,10],⟨[.ptr 0 0,.ptr 1 0],[.cells 59 uV,.cells 59 [.d aM,.d aM,.d aM,.d aM,.d aM,.row 2,.row 3],.rows 3 ai aM,.rows 3 ai aM]⟩,[.cel 10 6 3 aM]⟩)),(69,(.j ⟨[],[6,8,9,10,123],⟨zX,anm⟩,[]⟩))]⟩
def O1:cg:=cn Dt nI
def JM:FT:=⟨⟨[.d mc],[]⟩,⟨[.d iQ],[]⟩,dH [(8,(.j ⟨[],[1,2,3,4],⟨Fw,[.cells 31 [.d mc],.cells 87 vU,.cells 87 ake,.rows 2 ai aM,.rows 2 aj aM,.rows 3 aj aM]⟩,[.cel 3 4 2 aM]⟩))]⟩
def Vb:cg:=cn JM mM
def M9:FT:=⟨⟨[.d mc,.d iQ],[]⟩,⟨[.d .bool],[]⟩,dH [(2,(.j ⟨[],[4],⟨[.d .bool],[]⟩,[]⟩))]⟩
def YM:cg:=cn M9 wu
def Xn:FT:=⟨⟨uU,[]⟩,⟨[.d .bool],[]⟩,dH [(2,(.j ⟨[],[4],⟨[.d .bool],[]⟩,[]⟩))]⟩
def afh:cg:=cn Xn CS
def Ds:FT:=⟨⟨Ht,[]⟩,⟨[.d .bool],[]⟩,dH [(6,(.j ⟨[0,1],[5],⟨[.d aM],[]⟩,[]⟩)),(15,(.j ⟨[0,1,5],[40],⟨[.d .bool],[]⟩,[]⟩))]⟩
def O0:cg:=cn Ds nG
def JK:FT:=⟨⟨[.d iQ,.d fX],[]⟩,⟨[.d .bool],[]⟩,dH [(21,(.j ⟨[],[4],⟨[.d .bool],[]⟩,[]⟩)),(24,(.j ⟨[7],[2,3,40],⟨qQ,[.cells 87 [.d iQ],.cells 59 [.d fX]]⟩,[]⟩)),(47,(.j ⟨[],[4],⟨[.d .bool],[]⟩,[]⟩))]⟩
def U':cg:=cn JK uf
def M8:FT:=⟨⟨[.d mc,.d iQ,.d fX],[]⟩,⟨[.d iQ,.d .bool],[]⟩,dH [(3,(.j ⟨[],[3,4,5,6,46],⟨zX,K3⟩,[]⟩)),(10,(.j ⟨[],[3,4,5,6],⟨ad6,K3⟩,[]⟩)),(11,(.j ⟨[],[3,4,5,6,55],⟨zX,K3⟩,[]⟩)),(21,(.j ⟨[],[3,4,5,6,78],⟨zX,K3⟩,[]⟩)),(28,(.j ⟨[],[3,4,5,6,8],⟨zX,K3⟩,[]⟩)),(31,(.j ⟨[],[3,4,5,6,110],⟨zX,K3⟩,[]⟩)),(39,(.j ⟨[],[3,4,5,6,125],⟨zX,K3⟩,[]⟩)),(47,(.j ⟨[],[3,4,5,6,154],⟨zX,K3⟩,[]⟩)),(58,(.j ⟨[],[3,4,5,6,9,10],⟨ak6,[.cells 31 [.d mc],.cells 87 [.d iQ],.cells 59 [.d fX],.cells 87 vU,.cells 87 [.nil,.d aM,.nil,.nil,.row 5,.row 6,.row 7],.rows 2 ai aM,.rows 2 ai aM,.rows 3 ai aM]⟩,[]⟩)),(66,(.j ⟨[],[5,6,9],⟨[.ptr 0 0,.ptr 1 0,.ptr 2 0],ak4⟩,[]⟩)),(72,(.j ⟨[],[5,6,9],⟨[.ptr 0 0,.ptr 1 0,.ptr 2 0],ak4⟩,[]⟩))]⟩
def YL:cg:=cn M8 ru
def JL:FT:=⟨⟨[.d (.sl fX),.d aM,.d aM,.d (.sl aM)],[]⟩,⟨[.d .bool],[]⟩,dH [(6,(.j ⟨[0,1,2,3],[9],⟨[.d aM],[]⟩,[]⟩)),(23,(.j ⟨[0,1,2,3,9],[10,11,12],⟨[.d aM,.d .bool,.d aM],[]⟩,[]⟩)),(31,(.j ⟨[0,1,2,3,9,12],[10,11],⟨[.d aM,.d .bool],[]⟩,[]⟩)),(38,(.j ⟨[0,1,2,3,9,10,12],[11],⟨[.d .bool],[]⟩,[]⟩))]⟩
def Va:cg:=cn JL rq
def JN:FT:=⟨⟨[.d nZ],[]⟩,⟨uU,[]⟩,dH [(24,(.j ⟨[],[1,4,5],⟨vT,[.cells 34 [.d nZ],.cells 87 [.d iQ]]⟩,[]⟩)),(38,(.j ⟨[5],[1,4,7,63],⟨D6,[.cells 34 [.d nZ],.cells 87 [.d iQ],.cells 87 [.d iQ]]⟩,[]⟩))]⟩
def Vc:cg:=cn JN ug
def Gr:FT:=⟨⟨[.d vV],[]⟩,⟨[.agg [.agg Hu,.row 3,.row 4,.csl 5 4 1]],[.rows 153 ai dZ,.rows 4 ai .bool,.rows 155 ai ic,.rows 2 ai aM,.rows 2 ai aM,.cells 175 [.d aM,.row 6,.row 7,.d aM],.rows 2 ai aM,.rows 53 ai (.sl aM)]⟩,dH [(8,(.u 2))]⟩
def Sj:cg:=cn Gr mY
def Gg:FT:=⟨⟨Mm,[]⟩,⟨Mn,[]⟩,dH [(27,(.s 5 0 0 1)),(37,(.j ⟨[],[3,4,5,6,7,9,14,15,16],⟨Mr,akq⟩,[]⟩)),(38,(.j ⟨[16,77],[3,4,5,6,7,9,14,15,78],⟨Nz,akq⟩,[]⟩)),(83,(.j ⟨[16],[3,4,5,6,7,9,14],⟨Mp,[.cells 102 [.d uI],.cells 97 ai4,.cells 144 [.d iv],.cells 97 vU,.cells 59 uV,.cells 59 [.d fX],.cells 175 K0,.rows 2 ai aM,.rows 2 ai aM,.cells 175 K0,.rows 2 ai aM,.rows 53 ai (.sl aM)]⟩,[]⟩)),(84,(.j ⟨[16],[3,4,5,6,7,9,14,15,154],⟨Nz,akq⟩,[]⟩)),(95,(.j ⟨[],[4,5,6,7,9,14],⟨Mo,[.cells 97 [.d (.sl dZ),.d aM,.d pY,.d (.sl ic),.row 6,.row 7,.csl 8 4 1],.cells 144 [.d iv],.cells 97 vU,.cells 59 uV,.cells 59 [.d fX],.cells 175 [.d eX],.rows 2 ai aM,.rows 2 ai aM,.cells 175 [.d eX]]⟩,[]⟩)),(96,(.j ⟨[],[3,4,5,6,7,9,14,183],⟨Mq,[.cells 102 [.d uI],.cells 97 ai4,.cells 144 [.d iv],.cells 97 vU,.cells 59 uV,.cells 59 [.d fX],.cells 175 K2,.rows 2 ai aM,.rows 2 ai aM,.cells 175 K2]⟩,[]⟩)),(102,(.s 5 0 0 1)),(104,(.a [.pk 4 6 eX]))]⟩
def R_:cg:=cn Gg gg
def Gq:FT:=⟨⟨[.d vV],[]⟩,⟨[.agg [.agg Hu,.row 3,.row 4,.csl 5 4 2]],[.rows 153 ai dZ,.rows 4 ai .bool,.rows 155 ai ic,.rows 2 ai aM,.rows 2 ai aM,.cells 175 [.d aM,.row 6,.row 7,.d aM,.d eX],.rows 2 ai aM,.rows 53 ai (.sl aM)]⟩,dH [(8,(.u 3))]⟩
def Si:cg:=cn Gq mX
def Gf:FT:=⟨⟨Mm,[]⟩,⟨Mn,[]⟩,dH [(27,(.s 5 0 0 1)),(37,(.j ⟨[],[3,4,5,6,7,9,14,15,16],⟨Mr,aks⟩,[]⟩)),(38,(.j ⟨[16,77],[3,4,5,6,7,9,14,15,78],⟨Nz,aks⟩,[]⟩)),(83,(.j ⟨[16],[3,4,5,6,7,9,14],⟨Mp,[.cells 102 [.d uI],.cells 97 agk,.cells 144 [.d iv],.cells 97 vU,.cells 59 uV,.cells 59 [.d fX],.cells 175 K0,.rows 2 ai aM,.rows 2 ai aM,.cells 175 [.d aM,.row 10,.row 11,.d aM,.d eX],.rows 2 ai aM,.rows 53 ai (.sl aM)]⟩,[]⟩)),(84,(.j ⟨[16],[3,4,5,6,7,9,14,15,154],⟨Nz,aks⟩,[]⟩)),(95,(.j ⟨[],[4,5,6,7,9,14],⟨Mo,anu⟩,[]⟩)),(96,(.j ⟨[],[3,4,5,6,7,9,14,183],⟨Mq,[.cells 102 [.d uI],.cells 97 agk,.cells 144 [.d iv],.cells 97 vU,.cells 59 uV,.cells 59 [.d fX],.cells 175 K2,.rows 2 ai aM,.rows 2 ai aM,.cells 175 [.d aM,.d (.sl aM),.d uW,.d aM,.d eX]]⟩,[]⟩)),(102,(.s 5 0 0 1)),(104,(.a [.pk 4 6 eX]))]⟩
def R9:cg:=cn Gf gD
def Gp:FT:=⟨⟨[.d vV],[]⟩,⟨[.agg [.agg Hu,.row 3,.row 4,.csl 5 4 2]],[.rows 153 ai dZ,.rows 4 ai .bool,.rows 155 ai ic,.rows 2 ai aM,.rows 2 ai aM,.cells 175 [.d eX,.d aM,.row 6,.row 7,.d aM],.rows 2 ai aM,.rows 53 ai (.sl aM)]⟩,dH [(8,(.u 3))]⟩
def Sh:cg:=cn Gp mW
def Ge:FT:=⟨⟨Mm,[]⟩,⟨Mn,[]⟩,dH [(27,(.s 5 0 1 1)),(37,(.j ⟨[],[3,4,5,6,7,9,14,15,16],⟨Mr,akr⟩,[]⟩)),(38,(.j ⟨[16,77],[3,4,5,6,7,9,14,15,78],⟨Nz,akr⟩,[]⟩)),(83,(.j ⟨[16],[3,4,5,6,7,9,14],⟨Mp,[.cells 102 [.d uI],.cells 97 agk,.cells 144 [.d iv],.cells 97 vU,.cells 59 uV,.cells 59 [.d fX],.cells 175 K0,.rows 2 ai aM,.rows 2 ai aM,.cells 175 [.d eX,.d aM,.row 10,.row 11,.d aM],.rows 2 ai aM,.rows 53 ai (.sl aM)]⟩,[]⟩)),(84,(.j ⟨[16],[3,4,5,6,7,9,14,15,154],⟨Nz,akr⟩,[]⟩)),(95,(.j ⟨[],[4,5,6,7,9,14],⟨Mo,anu⟩,[]⟩)),(96,(.j ⟨[],[3,4,5,6,7,9,14,183],⟨Mq,[.cells 102 [.d uI],.cells 97 agk,.cells 144 [.d iv],.cells 97 vU,.cells 59 uV,.cells 59 [.d fX],.cells 175 K2,.rows 2 ai aM,.rows 2 ai aM,.cells 175 [.d eX,.d aM,.d (.sl aM),.d uW,.d aM]]⟩,[]⟩)),(102,(.s 5 0 1 1)),(104,(.a [.pk 4 6 eX]))]⟩
def R8:cg:=cn Ge gf
def Gn:FT:=⟨⟨[.d vV],[]⟩,⟨ak3,[.rows 153 ai dZ,.rows 4 ai .bool,.rows 155 ai ic,.rows 2 ai aM,.rows 2 ai aM,.cells 175 [.d aM,.row 6,.row 7,.d aM,.d eX,.d eX],.rows 2 ai aM,.rows 53 ai (.sl aM)]⟩,dH [(8,(.u 4))]⟩
def Sg:cg:=cn Gn mV
def Gb:FT:=⟨⟨Mm,[]⟩,⟨Mn,[]⟩,dH [(27,(.s 5 0 0 1)),(37,(.j ⟨[],[3,4,5,6,7,9,14,15,16],⟨Mr,akv⟩,[]⟩)),(38,(.j ⟨[16,77],[3,4,5,6,7,9,14,15,78],⟨Nz,akv⟩,[]⟩)),(83,(.j ⟨[16],[3,4,5,6,7,9,14],⟨Mp,[.cells 102 [.d uI],.cells 97 Zx,.cells 144 [.d iv],.cells 97 vU,.cells 59 uV,.cells 59 [.d fX],.cells 175 K0,.rows 2 ai aM,.rows 2 ai aM,.cells 175 [.d aM,.row 10,.row 11,.d aM,.d eX,.d eX],.rows 2 ai aM,.rows 53 ai (.sl aM)]⟩,[]⟩)),(84,(.j ⟨[16],[3,4,5,6,7,9,14,15,154],⟨Nz,akv⟩,[]⟩)),(95,(.j ⟨[],[4,5,6,7,9,14],⟨Mo,akl⟩,[]⟩)),(96,(.j ⟨[],[3,4,5,6,7,9,14,183],⟨Mq,[.cells 102 [.d uI],.cells 97 Zx,.cells 144 [.d iv],.cells 97 vU,.cells 59 uV,.cells 59 [.d fX],.cells 175 K2,.rows 2 ai aM,.rows 2 ai aM,.cells 175 [.d aM,.d (.sl aM),.d uW,.d aM,.d eX,.d eX]]⟩,[]⟩)),(102,(.s 5 0 0 1)),(104,(.a [.pk 4 6 eX]))]⟩
def R7:cg:=cn Gb js
def Gm:FT:=⟨⟨[.d vV],[]⟩,⟨ak3,[.rows 153 ai dZ,.rows 4 ai .bool,.rows 155 ai ic,.rows 2 ai aM,.rows 2 ai aM,.cells 175 [.d eX,.d aM,.row 6,.row 7,.d aM,.d eX],.rows 2 ai aM,.rows 53 ai (.sl aM)]⟩,dH [(8,(.u 4))]⟩
def Sf:cg:=cn Gm mU
def Ga:FT:=⟨⟨Mm,[]⟩,⟨Mn,[]⟩,dH [(27,(.s 5 0 1 1)),(37,(.j ⟨[],[3,4,5,6,7,9,14,15,16],⟨Mr,aku⟩,[]⟩)),(38,(.j ⟨[16,77],[3,4,5,6,7,9,14,15,78],⟨Nz,aku⟩,[]⟩)),(83,(.j ⟨[16],[3,4,5,6,7,9,14],⟨Mp,[.cells 102 [.d uI],.cells 97 Zx,.cells 144 [.d iv],.cells 97 vU,.cells 59 uV,.cells 59 [.d fX],.cells 175 K0,.rows 2 ai aM,.rows 2 ai aM,.cells 175 [.d eX,.d aM,.row 10,.row 11,.d aM,.d eX],.rows 2 ai aM,.rows 53 ai (.sl aM)]⟩,[]⟩)),(84,(.j ⟨[16],[3,4,5,6,7,9,14,15,154],⟨Nz,aku⟩,[]⟩)),(95,(.j ⟨[],[4,5,6,7,9,14],⟨Mo,akl⟩,[]⟩)),(96,(.j ⟨[],[3,4,5,6,7,9,14,183],⟨Mq,[.cells 102 [.d uI],.cells 97 Zx,.cells 144 [.d iv],.cells 97 vU,.cells 59 uV,.cells 59 [.d fX],.cells 175 K2,.rows 2 ai aM,.rows 2 ai aM,.cells 175 [.d eX,.d aM,.d (.sl aM),.d uW,.d aM,.d eX]]⟩,[]⟩)),(102,(.s 5 0 1 1)),(104,(.a [.pk 4 6 eX]))]⟩
def R6:cg:=cn Ga iI
def Gl:FT:=⟨⟨[.d vV],[]⟩,⟨ak3,[.rows 153 ai dZ,.rows 4 ai .bool,.rows 155 ai ic,.rows 2 ai aM,.rows 2 ai aM,.cells 175 [.d eX,.d eX,.d aM,.row 6,.row 7,.d aM],.rows 2 ai aM,.rows 53 ai (.sl aM)]⟩,dH [(8,(.u 4))]⟩
def Se:cg:=cn Gl mT
def F':FT:=⟨⟨Mm,[]⟩,⟨Mn,[]⟩,dH [(27,(.s 5 0 2 1)),(37,(.j ⟨[],[3,4,5,6,7,9,14,15,16],⟨Mr,akt⟩,[]⟩)),(38,(.j ⟨[16,77],[3,4,5,6,7,9,14,15,78],⟨Nz,akt⟩,[]⟩)),(83,(.j ⟨[16],[3,4,5,6,7,9,14],⟨Mp,[.cells 102 [.d uI],.cells 97 Zx,.cells 144 [.d iv],.cells 97 vU,.cells 59 uV,.cells 59 [.d fX],.cells 175 K0,.rows 2 ai aM,.rows 2 ai aM,.cells 175 [.d eX,.d eX,.d aM,.row 10,.row 11,.d aM],.rows 2 ai aM,.rows 53 ai (.sl aM)]⟩,[]⟩)),(84,(.j ⟨[16],[3,4,5,6,7,9,14,15,154],⟨Nz,akt⟩,[]⟩)),(95,(.j ⟨[],[4,5,6,7,9,14],⟨Mo,akl⟩,[]⟩)),(96,(.j ⟨[],[3,4,5,6,7,9,14,183],⟨Mq,[.cells 102 [.d uI],.cells 97 Zx,.cells 144 [.d iv],.cells 97 vU,.cells 59 uV,.cells 59 [.d fX],.cells 175 K2,.rows 2 ai aM,.rows 2 ai aM,.cells 175 [.d eX,.d eX,.d aM,.d (.sl aM),.d uW,.d aM]]⟩,[]⟩)),(102,(.s 5 0 2 1)),(104,(.a [.pk 4 6 eX]))]⟩
def R5:cg:=cn F' hY
def Gk:FT:=⟨⟨[.d vV],[]⟩,⟨agj,[.rows 153 ai dZ,.rows 4 ai .bool,.rows 155 ai ic,.rows 2 ai aM,.rows 2 ai aM,.cells 175 [.d aM,.row 6,.row 7,.d aM,.d eX,.d eX,.d eX],.rows 2 ai aM,.rows 53 ai (.sl aM)]⟩,dH [(8,(.u 5))]⟩
def Sd:cg:=cn Gk mS
def dF:FT:=⟨⟨Mm,[]⟩,⟨Mn,[]⟩,dH [(27,(.s 5 0 0 1)),(37,(.j ⟨[],[3,4,5,6,7,9,14,15,16],⟨Mr,akp⟩,[]⟩)),(38,(.j ⟨[16,77],[3,4,5,6,7,9,14,15,78],⟨Nz,akp⟩,[]⟩)),(83,(.j ⟨[16],[3,4,5,6,7,9,14],⟨Mp,[.cells 102 [.d uI],.cells 97 Te,.cells 144 [.d iv],.cells 97 vU,.cells 59 uV,.cells 59 [.d fX],.cells 175 K0,.rows 2 ai aM,.rows 2 ai aM,.cells 175 [.d aM,.row 10,.row 11,.d aM,.d eX,.d eX,.d eX],.rows 2 ai aM,.rows 53 ai (.sl aM)]⟩,[]⟩)),(84,(.j ⟨[16],[3,4,5,6,7,9,14,15,154],⟨Nz,akp⟩,[]⟩)),(95,(.j ⟨[],[4,5,6,7,9,14],⟨Mo,agm⟩,[]⟩)),(96,(.j ⟨[],[3,4,5,6,7,9,14,183],⟨Mq,[.cells 102 [.d uI],.cells 97 Te,.cells 144 [.d iv],.cells 97 vU,.cells 59 uV,.cells 59 [.d fX],.cells 175 K2,.rows 2 ai aM,.rows 2 ai aM,.cells 175 [.d aM,.d (.sl aM),.d uW,.d aM,.d eX,.d eX,.d eX]]⟩,[]⟩)),(102,(.s 5 0 0 1)),(104,(.a [.pk 4 6 eX]))]⟩
def R4:cg:=cn dF mO
def Gj:FT:=⟨⟨[.d vV],[]⟩,⟨agj,[.rows 153 ai dZ,.rows 4 ai .bool,.rows 155 ai ic,.rows 2 ai aM,.rows 2 ai aM,.cells 175 [.d eX,.d aM,.row 6,.row 7,.d aM,.d eX,.d eX],.rows 2 ai aM,.rows 53 ai (.sl aM)]⟩,dH [(8,(.u 5))]⟩
def Sc:cg:=cn Gj mR
def F_:FT:=⟨⟨Mm,[]⟩,⟨Mn,[]⟩,dH [(27,(.s 5 0 1 1)),(37,(.j ⟨[],[3,4,5,6,7,9,14,15,16],⟨Mr,ako⟩,[]⟩)),(38,(.j ⟨[16,77],[3,4,5,6,7,9,14,15,78],⟨Nz,ako⟩,[]⟩)),(83,(.j ⟨[16],[3,4,5,6,7,9,14],⟨Mp,[.cells 102 [.d uI],.cells 97 Te,.cells 144 [.d iv],.cells 97 vU,.cells 59 uV,.cells 59 [.d fX],.cells 175 K0,.rows 2 ai aM,.rows 2 ai aM,.cells 175 [.d eX,.d aM,.row 10,.row 11,.d aM,.d eX,.d eX],.rows 2 ai aM,.rows 53 ai (.sl aM)]⟩,[]⟩)),(84,(.j ⟨[16],[3,4,5,6,7,9,14,15,154],⟨Nz,ako⟩,[]⟩)),(95,(.j ⟨[],[4,5,6,7,9,14],⟨Mo,agm⟩,[]⟩)),(96,(.j ⟨[],[3,4,5,6,7,9,14,183],⟨Mq,[.cells 102 [.d uI],.cells 97 Te,.cells 144 [.d iv],.cells 97 vU,.cells 59 uV,.cells 59 [.d fX],.cells 175 K2,.rows 2 ai aM,.rows 2 ai aM,.cells 175 [.d eX,.d aM,.d (.sl aM),.d uW,.d aM,.d eX,.d eX]]⟩,[]⟩)),(102,(.s 5 0 1 1)),(104,(.a [.pk 4 6 eX]))]⟩
def R3:cg:=cn F_ mN
def Gi:FT:=⟨⟨[.d vV],[]⟩,⟨agj,[.rows 153 ai dZ,.rows 4 ai .bool,.rows 155 ai ic,.rows 2 ai aM,.rows 2 ai aM,.cells 175 [.d eX,.d eX,.d aM,.row 6,.row 7,.d aM,.d eX],.rows 2 ai aM,.rows 53 ai (.sl aM)]⟩,dH [(8,(.u 5))]⟩
def Sb:cg:=cn Gi mQ
def F9:FT:=⟨⟨Mm,[]⟩,⟨Mn,[]⟩,dH [(27,(.s 5 0 2 1)),(37,(.j ⟨[],[3,4,5,6,7,9,14,15,16],⟨Mr,akn⟩,[]⟩)),(38,(.j ⟨[16,77],[3,4,5,6,7,9,14,15,78],⟨Nz,akn⟩,[]⟩)),(83,(.j ⟨[16],[3,4,5,6,7,9,14],⟨Mp,[.cells 102 [.d uI],.cells 97 Te,.cells 144 [.d iv],.cells 97 vU,.cells 59 uV,.cells 59 [.d fX],.cells 175 K0,.rows 2 ai aM,.rows 2 ai aM,.cells 175 [.d eX,.d eX,.d aM,.row 10,.row 11,.d aM,.d eX],.rows 2 ai aM,.rows 53 ai (.sl aM)]⟩,[]⟩)),(84,(.j ⟨[16],[3,4,5,6,7,9,14,15,154],⟨Nz,akn⟩,[]⟩)),(95,(.j ⟨[],[4,5,6,7,9,14],⟨Mo,agm⟩,[]⟩)),(96,(.j ⟨[],[3,4,5,6,7,9,14,183],⟨Mq,[.cells 102 [.d uI],.cells 97 Te,.cells 144 [.d iv],.cells 97 vU,.cells 59 uV,.cells 59 [.d fX],.cells 175 K2,.rows 2 ai aM,.rows 2 ai aM,.cells 175 [.d eX,.d eX,.d aM,.d (.sl aM),.d uW,.d aM,.d eX]]⟩,[]⟩)),(102,(.s 5 0 2 1)),(104,(.a [.pk 4 6 eX]))]⟩
def R2:cg:=cn F9 lw
def Gh:FT:=⟨⟨[.d vV],[]⟩,⟨agj,[.rows 153 ai dZ,.rows 4 ai .bool,.rows 155 ai ic,.rows 2 ai aM,.rows 2 ai aM,.cells 175 [.d eX,.d eX,.d eX,.d aM,.row 6,.row 7,.d aM],.rows 2 ai aM,.rows 53 ai (.sl aM)]⟩,dH [(8,(.u 5))]⟩
def Sa:cg:=cn Gh mP
def F8:FT:=⟨⟨Mm,[]⟩,⟨Mn,[]⟩,dH [(27,(.s 5 0 3 1)),(37,(.j ⟨[],[3,4,5,6,7,9,14,15,16],⟨Mr,akm⟩,[]⟩)),(38,(.j ⟨[16,77],[3,4,5,6,7,9,14,15,78],⟨Nz,akm⟩,[]⟩)),(83,(.j ⟨[16],[3,4,5,6,7,9,14],⟨Mp,[.cells 102 [.d uI],.cells 97 Te,.cells 144 [.d iv],.cells 97 vU,.cells 59 uV,.cells 59 [.d fX],.cells 175 K0,.rows 2 ai aM,.rows 2 ai aM,.cells 175 [.d eX,.d eX,.d eX,.d aM,.row 10,.row 11,.d aM],.rows 2 ai aM,.rows 53 ai (.sl aM)]⟩,[]⟩)),(84,(.j ⟨[16],[3,4,5,6,7,9,14,15,154],⟨Nz,akm⟩,[]⟩)),(95,(.j ⟨[],[4,5,6,7,9,14],⟨Mo,agm⟩,[]⟩)),(96,(.j ⟨[],[3,4,5,6,7,9,14,183],⟨Mq,[.cells 102 [.d uI],.cells 97 Te,.cells 144 [.d iv],.cells 97 vU,.cells 59 uV,.cells 59 [.d fX],.cells 175 K2,.rows 2 ai aM,.rows 2 ai aM,.cells 175 [.d eX,.d eX,.d eX,.d aM,.d (.sl aM),.d uW,.d aM]]⟩,[]⟩)),(102,(.s 5 0 3 1)),(104,(.a [.pk 4 6 eX]))]⟩
def R1:cg:=cn F8 j8
def YQ:cg:=cn dF Ah
def M':FT:=⟨⟨[.d uI,.d vV,.nil,.d (.sl iv)],[]⟩,⟨[.d (.sl fX),.d vV],[]⟩,dH [(1,(.a [.nil 2 59 fX])),(6,(.j ⟨[3],[2,4,5,9,10],⟨[.row 0,.ptr 1 0,.ptr 2 0,.ptr 3 0,.d aM],akc⟩,[]⟩)),(8,(.j ⟨[3,10],[2,4,5,9,22],⟨[.row 0,.ptr 1 0,.ptr 2 0,.ptr 3 0,.d .bool],akc⟩,[]⟩)),(14,(.j ⟨[3,10],[2,4,5,9],⟨[.row 0,.ptr 1 0,.ptr 2 0,.ptr 3 0],akc⟩,[]⟩))]⟩
def YO:cg:=cn M' ww
def RC:FT:=⟨⟨[.d uI,.d (.sl iv)],[]⟩,⟨[.d nZ,.d vV],[]⟩,.leaf⟩
def abv:cg:=cn RC y_
def yz:FT:=⟨⟨vS,Tc⟩,⟨[.d aM],Tc⟩,dH [(3,(.j ⟨[1],[0,18],⟨gL,Zt⟩,[]⟩))]⟩
def Hm:cg:=cn yz bz
def Ni:FT:=⟨⟨[.d aM],[]⟩,⟨[.d .ex],[]⟩,.leaf⟩
def Y0:cg:=cn Ni rE
def J6:FT:=⟨⟨[.d .str],[]⟩,⟨[.d .ex],[]⟩,.leaf⟩
def VF:cg:=cn J6 po
def DF:FT:=⟨⟨[.d aM,.d .ex,.d .ex],[]⟩,⟨[.d .ex],[]⟩,.leaf⟩
def Pd:cg:=cn DF nM
def DG:FT:=⟨⟨[.d .str,.d .ex],[]⟩,⟨[.d .sm],[]⟩,.leaf⟩
def Pe:cg:=cn DG jq
def GF:FT:=⟨⟨[],[]⟩,⟨[.d (.sl GZ)],[]⟩,.leaf⟩
def Sy:cg:=cn GF sw
def Bo:FT:=⟨⟨[.d D7],[]⟩,⟨[.d (.sl iv)],[]⟩,dH [(8,(.j ⟨[0],[3,4],⟨[.row 0,.d aM],[.rows 144 ai iv]⟩,[.nil 3 144 iv]⟩))]⟩
def Mg:cg:=cn Bo oM
def nY:FT:=⟨⟨vS,Wg⟩,⟨[.d .ex],Wg⟩,dH [(8,(.j ⟨[1,6],[0,4,5,14],⟨[.ptr 0 0,.ptr 3 0,.row 4,.d .bool],[.cells 192 ai3,.cells 78 [.d yO],.rowsP 9 .str,.cells 196 [.d aM,.d aM,.d .str,.nil],.rows 9 aj .str]⟩,[]⟩))]⟩
def Fk:cg:=cn nY fd
def EH (n:Nat):cg:=cn nY (ip n)
def vz:FT:=⟨⟨[.ptr 0 0,.d .str],Wg⟩,⟨[.d .bool],Wg⟩,.leaf⟩
def DU:cg:=cn vz eQ
def mD:FT:=⟨⟨Tf,Wg⟩,⟨[.row 4],[.cells 192 aka,.cells 78 PD,.gone,.rowsP 9 .str,.rows 198 ai .sm]⟩,dH [(1,(.a [.ren 0 7])),(8,(.j ⟨[1,2],[0,7,8],⟨[.ptr 0 0,.row 3,.d aM],ann⟩,[.nil 7 198 .sm]⟩)),(10,(.j ⟨[1,2,8],[0,7,22],⟨[.ptr 0 0,.row 3,.d .bool],ann⟩,[]⟩)),(21,(.a [.nil 6 198 .sm]))]⟩
def DS:cg:=cn mD qu
def CZ (n:Nat):cg:=cn mD (dJ n)
def rN:FT:=⟨⟨vS,Wg⟩,⟨[.d .sm],[.cells 192 aka,.cells 78 PD,.gone,.rowsP 9 .str]⟩,dH [(1,(.a [.ren 0 7])),(6,(.j ⟨[1,5],[0,4,6],⟨KZ,La2⟩,[]⟩)),(28,(.j ⟨[1,5,6],[0,4,74],⟨KZ,La2⟩,[]⟩)),(33,(.j ⟨[],[4,7],⟨[.ptr 3 0,.ptr 4 0],[.cells 192 [.ptr 1 0,.d aM,.d aM,.d .bool,.d .bool,.d .bool,.d .bool,.row 5],.cells 78 [.d yO],.gone,.cells 198 ai6,.cells 198 [.d aM,.d aM,.d .str,.d .str,.nil,.d aM,.d aM,.d .str,.d (.sl .ex),.row 6,.row 7],.rowsP 9 .str,.rows 198 ai .sm,.rows 198 ai .sm]⟩,[.cel 7 10 198 .sm]⟩)),(42,(.j ⟨[1,5,6],[0,4,100],⟨KZ,La2⟩,[]⟩)),(56,(.j ⟨[1,5,6],[0,4,133],⟨KZ,La2⟩,[]⟩)),(64,(.j ⟨[1,5,6],[0,4,165],⟨KZ,La2⟩,[]⟩)),(70,(.j ⟨[1,5,6],[0,4,188],⟨KZ,La2⟩,[]⟩)),(82,(.j ⟨[1,5,6],[0,4,210],⟨KZ,La2⟩,[]⟩)),(94,(.j ⟨[5,6],[0,4,235],⟨KZ,La2⟩,[]⟩)),(100,(.j ⟨[5],[0,4,258],⟨KZ,La2⟩,[]⟩)),(106,(.j ⟨[5],[0,4,278],⟨KZ,La2⟩,[]⟩)),(114,(.j ⟨[],[0,4,308],⟨KZ,La2⟩,[]⟩))]⟩
def EG (n:Nat):cg:=cn rN (eJ n)
def qO:FT:=⟨⟨[.ptr 0 0,.d .str,.d aM],Wg⟩,⟨[.d (.sl .sm)],[.cells 192 aka,.cells 78 PD,.gone,.rowsP 9 .str]⟩,.leaf⟩
def C1 (n:Nat):cg:=cn qO (dX n)
def Bn:FT:=⟨⟨[.d D7],[]⟩,⟨[.d NA],[]⟩,dH [(5,(.a [.cel 3 7 9 .str])),(14,(.j ⟨[5],[2,3,4,6,7],⟨[.ptr 0 0,.ptr 1 0,.ptr 2 0,.row 3,.d aM],[.cells 141 [.nil,.nil],.cells 192 [.ptr 4 0,.d aM,.d aM,.d .bool,.d .bool,.d .bool,.d .bool,.row 5],.cells 141 [.d (.sl GZ),.row 6],.rows 9 aj .str,.cells 78 [.d yO],.rowsP 9 .str,.rows 182 ai sY]⟩,[.cel 4 1 182 sY]⟩)),(27,(.j ⟨[5,7],[2,3,4,6,8],⟨[.ptr 0 0,.ptr 1 0,.ptr 2 0,.row 3,.ptr 4 0],La7⟩,[.cel 8 3 198 .sm]⟩)),(34,(.j ⟨[5,7],[2,3,4,6,8,9],⟨[.ptr 0 0,.ptr 1 0,.ptr 2 0,.row 3,.ptr 4 0,.d aM],La7⟩,[.cel 8 3 198 .sm]⟩)),(48,(.j ⟨[5,7],[2,3,4,6,8],⟨[.ptr 0 0,.ptr 1 0,.ptr 2 0,.row 3,.ptr 4 0],La7⟩,[]⟩)),(49,(.j ⟨[5,7],[2,3,4,6,8,79],⟨[.ptr 0 0,.ptr 1 0,.ptr 2 0,.row 3,.ptr 4 0,.d .bool],La7⟩,[]⟩))]⟩
def Mf:cg:=cn Bn oL
def J7:FT:=⟨⟨[.d D7],[]⟩,⟨[.d uI],[]⟩,.leaf⟩
def VG:cg:=cn J7 xw
def GG:FT:=⟨⟨[.d D7,.d D7],[]⟩,⟨[.d nZ],[]⟩,.leaf⟩
def Sz:cg:=cn GG sx
def Dp:FT:=⟨⟨[],[]⟩,⟨[.d mc],[]⟩,dH [(8,(.j ⟨[21],[0,1,22],⟨vT,agl⟩,[.cel 1 5 120 oy]⟩)),(22,(.j ⟨[2,21,22],[0,1,3],⟨vT,agl⟩,[]⟩))]⟩
def OX:cg:=cn Dp nF
def zD:FT:=⟨⟨[.d iQ],[]⟩,⟨nz,[]⟩,dH [(8,(.j ⟨[8,9],[3,10],⟨[.row 0,.d aM],[.rows 3 ai aM]⟩,[.nil 3 3 aM]⟩)),(16,(.j ⟨[8,9,10],[3],⟨[.row 0],[.rows 3 ai aM]⟩,[]⟩))]⟩
def Kj:cg:=cn zD kW
def Dn:FT:=⟨⟨[],[]⟩,⟨nz,[]⟩,.leaf⟩
def OV:cg:=cn Dn tD
def AZ:FT:=⟨⟨Tf,Tc⟩,⟨[.d aM],Tc⟩,dH [(6,(.j ⟨[2,7],[0,8],⟨gL,Zt⟩,[]⟩)),(16,(.j ⟨[2,7],[0,16],⟨gL,Zt⟩,[]⟩)),(26,(.j ⟨[2,7],[0,21],⟨gL,Zt⟩,[]⟩)),(44,(.j ⟨[2,7],[0,26],⟨gL,Zt⟩,[]⟩)),(70,(.j ⟨[2],[0,33],⟨gL,Zt⟩,[]⟩))]⟩
def LX:cg:=cn AZ oF
def Dm:FT:=⟨⟨[.ptr 0 0,.d iQ,.d aM,.d aM],Tc⟩,⟨[.d aM],Tc⟩,dH [(18,(.j ⟨[10],[0,5,24],⟨qQ,[.cells 78 [.d yO],.cells 87 [.d iQ]]⟩,[]⟩))]⟩
def OU:cg:=cn Dm qh
def F0:FT:=⟨⟨[.ptr 0 0,.row 1],[.cells 78 PD,.rows 3 ai aM]⟩,⟨nz,[.cells 78 PD,.rows 3 ai aM]⟩,dH [(8,(.j ⟨[9],[0,1,5,8,10],⟨[.ptr 0 0,.row 1,.row 2,.row 1,.d aM],ak5⟩,[.nil 5 3 aM]⟩)),(16,(.j ⟨[9,10],[0,1,5,8],⟨[.ptr 0 0,.row 1,.row 2,.row 1],ak5⟩,[]⟩)),(19,(.j ⟨[7,9,10],[0,1,5,8,24],⟨[.ptr 0 0,.row 1,.row 2,.row 1,.d .bool],ak5⟩,[]⟩))]⟩
def RN:cg:=cn F0 gC
def Do:FT:=⟨⟨[.ptr 0 0,.d iQ,.d mc,.csl 1 1 4],anl⟩,⟨[.d fX],anl⟩,dH [(8,(.j ⟨[9],[0,3,5,6,8,11],⟨[.ptr 0 0,.csl 1 1 4,.ptr 6 0,.ptr 7 0,.ptr 8 0,.ptr 9 0],anr⟩,[]⟩)),(9,(.j ⟨[9],[0,3,5,6,8,11,36],⟨[.ptr 0 0,.csl 1 1 4,.ptr 6 0,.ptr 7 0,.ptr 8 0,.ptr 9 0,.d .bool],anr⟩,[]⟩)),(18,(.j ⟨[9],[0,3,8,11],⟨[.ptr 0 0,.csl 1 1 4,.ptr 6 0,.ptr 7 0],ans⟩,[]⟩)),(19,(.j ⟨[9],[0,3,8,11,74],⟨[.ptr 0 0,.csl 1 1 4,.ptr 6 0,.ptr 7 0,.d .bool],[.cells 78 [.d yO],.cells 53 ad1,.rows 3 ai aM,.rows 3 ai aM,.rows 3 ai aM,.rows 3 ai aM,.cells 59 uV,.cells 59 uV]⟩,[]⟩)),(22,(.s 9 0 0 4)),(24,(.j ⟨[],[8,11],⟨[.ptr 6 0,.ptr 7 0],[.cells 78 [.d yO],.cells 53 ad1,.rows 3 ai aM,.rows 3 ai aM,.rows 3 ai aM,.rows 3 ai aM,.cells 59 uV,.cells 59 [.d aM,.d aM,.d aM,.d aM,.d aM,.d (.sl aM),.d (.sl aM)]]⟩,[]⟩)),(25,(.j ⟨[9],[0,3,8,11,89],⟨[.ptr 0 0,.csl 1 1 4,.ptr 6 0,.ptr 7 0,.d .bool],ans⟩,[]⟩)),(28,(.s 9 0 0 4))]⟩
def OW:cg:=cn Do qi
def F1:FT:=⟨⟨[.ptr 0 0,.d iQ,.d mc,.d aM,.d .bool],Tc⟩,⟨[.d (.sl fX)],Tc⟩,dH [(8,(.a [.cel 12 0 3 aM,.cel 12 1 3 aM,.cel 12 2 3 aM,.cel 12 3 3 aM])),(9,(.j ⟨[3,11],[0,6,7,12],⟨[.ptr 0 0,.ptr 1 0,.ptr 2 0,.csl 3 1 4],aki⟩,[]⟩)),(10,(.u 5)),(18,(.j ⟨[3,4,11,22,23],[0,6,7,12],⟨[.ptr 0 0,.ptr 1 0,.ptr 2 0,.csl 3 1 4],aki⟩,[]⟩)),(21,(.j ⟨[3,4,11,13,22,23],[0,6,7,12,39],⟨[.ptr 0 0,.ptr 1 0,.ptr 2 0,.csl 3 1 4,.d .bool],aki⟩,[]⟩)),(29,(.j ⟨[3],[0,6,7,11,12],⟨[.ptr 0 0,.ptr 1 0,.ptr 2 0,.row 3,.csl 4 1 4],akj⟩,[.nil 11 59 fX]⟩)),(31,(.j ⟨[3],[0,6,7,11,12,65],⟨[.ptr 0 0,.ptr 1 0,.ptr 2 0,.row 3,.csl 4 1 4,.d .bool],akj⟩,[]⟩)),(36,(.j ⟨[3],[0,6,7,11,12],⟨[.ptr 0 0,.ptr 1 0,.ptr 2 0,.row 3,.csl 4 1 4],akj⟩,[]⟩)),(47,(.j ⟨[3],[0,6,7,11,12,14,15],⟨[.ptr 0 0,.ptr 1 0,.ptr 2 0,.row 3,.csl 4 1 4,.ptr 5 0,.ptr 6 0],ant⟩,[]⟩)),(48,(.j ⟨[3],[0,6,7,11,12,14,15,87],⟨[.ptr 0 0,.ptr 1 0,.ptr 2 0,.row 3,.csl 4 1 4,.ptr 5 0,.ptr 6 0,.d .bool],ant⟩,[]⟩)),(51,(.s 14 0 0 4))]⟩
def RO:cg:=cn F1 sj
def Dq:FT:=⟨⟨PD,[]⟩,⟨[.d nZ],[]⟩,dH [(2,(.j ⟨[1],[0,4],⟨[.d D7,.ptr 0 0],[.cells 34 Zw]⟩,[]⟩)),(22,(.j ⟨[1,9],[4,5,6,7,8,10],⟨[.ptr 0 0,.ptr 1 0,.ptr 2 0,.ptr 3 0,.row 4,.d aM],[.cells 34 Zw,.cells 78 [.d yO],.cells 34 [.d (.sl ky),.d (.sl qY),.d (.sl lq),.d (.sl .str),.d (.sl .str),.d (.sl oy),.nil],.cells 87 [.d iQ],.rows 59 aj fX]⟩,[]⟩)),(37,(.j ⟨[1,48],[4,5,6,7,47,49],⟨[.ptr 0 0,.ptr 1 0,.ptr 2 0,.ptr 3 0,.row 4,.d aM],anv⟩,[.cel 6 6 59 fX]⟩)),(45,(.j ⟨[1,48,49],[4,5,6,7,47],⟨[.ptr 0 0,.ptr 1 0,.ptr 2 0,.ptr 3 0,.row 4],anv⟩,[]⟩))]⟩
def OY:cg:=cn Dq qj
def wU:FT:=⟨⟨[.d (.st (.pr D7 (.pr D7 D7))),.d aM],[]⟩,⟨[.d nZ],[]⟩,.leaf⟩
def Fe:cg:=cn wU kX
theorem LK:aI Pg 154 L_:=mk Bi ko an bX
theorem I7:aI Pg 124 Kp:=mk zF jF (ac LK an) bX
theorem FO:aI Pg 123 Ss:=mk GA ly an bX
theorem UR:aI Pg 155 Vx:=mk J5 rC an bX
theorem UQ:aI Pg 125 Vw:=mk J4 pn (ac FO (ac UR an)) bX
theorem sC:aI Pg 92 St:=mk GD fg (ac FO (ac I7 (ac UQ an))) bX
theorem I6:aI Pg 209 Vo:=mk JZ fY an bX
theorem UJ:aI Pg 187 Vp:=mk J0 ul (ac I6 an) bX
theorem Rc:aI Pg 189 So:=mk Gw su (ac I6 an) bX
theorem UK:aI Pg 186 Vq:=mk J1 rA an bX
theorem LJ:aI Pg 221 L9:=mk Bh ml an bX
theorem wM:∀ n:Nat,aI Pg 210 (G7 n)
 |0=>Qz o8
 |n+1=>mk o8 (l9 (ia n)) (ac sC (ac (wM n) (ac LJ an))) bX
theorem ye:aI Pg 210 Hi:=(wM fuel)
theorem UP:aI Pg 211 Vv:=mk J3 pm an bX
theorem rJ:∀ n:Nat,aI Pg 190 (G6 n)/\aI Pg 164 (EE n)
 |0=>⟨Qz sX,Qz nX⟩
 |n+1=>⟨mk sX (j6 (eC n) (dG n)) (ac sC (ac (rJ n).2 (ac ye (ac UP an)))) bX,mk nX (jx (eC n) (dG n)) (ac (rJ n).1 an) bX⟩
theorem ER:aI Pg 164 Fh:=(rJ fuel).2
theorem G_:aI Pg 163 Hh:=mk yp jY (ac sC an) bX
theorem Re:aI Pg 132 Sr:=mk Gz pK (ac sC (ac G_ (ac ER an))) bX
theorem vp:aI Pg 93 afl:=mk Xs iY an bX
theorem vo:aI Pg 165 Sq:=mk Gy h_ an bX
theorem vN:aI Pg 166 L8:=mk Bg gR an bX
theorem Rd:aI Pg 212 Sp:=mk Gx pJ (ac vp (ac vo (ac vN an))) bX
theorem MV:aI Pg 193 YV:=mk Ng gE (ac Rd an) bX
theorem FU:∀ n:Nat,aI Pg 213 (Ur n)
 |0=>Qz xQ
 |n+1=>mk xQ (ux (nh n)) (ac (FU n) an) bX
theorem UN:aI Pg 213 Vt:=(FU fuel)
theorem FR:∀ n:Nat,aI Pg 214 (Uq n)
 |0=>Qz xP
 |n+1=>mk xP (uw (ng n)) (ac MV (ac (FR n) an)) bX
theorem UL:aI Pg 214 Vr:=(FR fuel)
theorem Yn:aI Pg 194 YW:=mk Nh mj (ac ye (ac UN (ac UL an))) bX
theorem OC:aI Pg 195 O9:=mk DB c9 an bX
theorem aeu:aI Pg 192 afk:=mk Xr iX an bX
theorem EQ:aI Pg 191 Fg:=mk wW dU an bX
theorem LH:aI Pg 167 L6:=mk Bf mi (ac vp (ac vo (ac vN (ac EQ (ac aeu (ac MV (ac Yn (ac OC an)))))))) bX
theorem zm:∀ n:Nat,aI Pg 136 (Lx n)
 |0=>Qz r8
 |n+1=>mk r8 (mn (iF n)) (ac (zm n) (ac LH an)) bX
theorem LI:aI Pg 136 L7:=(zm fuel)
theorem FW:∀ n:Nat,aI Pg 135 (Us n)
 |0=>Qz xR
 |n+1=>mk xR (uy (nj n)) (ac (FW n) an) bX
theorem UO:aI Pg 135 Vu:=(FW fuel)
theorem UM:aI Pg 133 Vs:=mk J2 rB (ac vo an) bX
theorem OA:aI Pg 134 O8:=mk DA nK (ac vp (ac vo (ac vN an))) bX
theorem xC:aI Pg 96 O_:=mk DC fm (ac Re (ac UM (ac OA (ac UO (ac LI an))))) bX
theorem FP:∀ n:Nat,aI Pg 138 (Up n)
 |0=>Qz xO
 |n+1=>mk xO (xD (pu n)) (ac (FP n) an) bX
theorem UE:aI Pg 138 Vi:=(FP fuel)
theorem FL:aI Pg 137 Sl:=mk Gt j_ an bX
theorem FN:aI Pg 196 Sn:=mk Gv lx an bX
theorem UI:aI Pg 97 Vm:=mk JX uk (ac xC (ac FL (ac UE an))) bX
theorem UF:aI Pg 91 Vj:=mk JU pj an bX
theorem yd:aI Pg 61 Hg:=mk yo hZ (ac UF (ac sC (ac vp an))) bX
theorem uu:aI Pg 100 Ko:=mk zE jE an bX
theorem FM:aI Pg 157 Sm:=mk Gu pI an bX
theorem UG:aI Pg 127 Vk:=mk JV pl (ac FM an) bX
theorem Oy:aI Pg 128 afj:=mk Xq jp an bX
theorem UH:aI Pg 156 Vl:=mk JW m6 (ac Oy an) bX
theorem Ox:aI Pg 126 O5:=mk Dx lG (ac Oy (ac UH an)) bX
theorem EP:aI Pg 94 Ff:=mk wV im (ac uu (ac Ox (ac UG (ac Oy an)))) bX
theorem B6:aI Pg 63 Vn:=mk JY jD (ac yd (ac EP an)) bX
theorem nR:aI Pg 99 O6:=mk Dy cD an bX
theorem yg:∀ n:Nat,aI Pg 172 (IL n)
 |0=>Qz qL
 |n+1=>mk qL (qD (iK n)) (ac vp (ac nR (ac (yg n) (ac FN an)))) bX
theorem ut:aI Pg 172 Km:=(yg fuel)
theorem G9:aI Pg 168 Hf:=mk yn lY (ac vp (ac nR (ac ut (ac FN an)))) bX
theorem LG:aI Pg 171 L5:=mk Be jt an bX
theorem jZ:∀ n:Nat,aI Pg 98 (IP n)/\aI Pg 139 (Lw n)/\aI Pg 169 (CY n)/\aI Pg 170 (G5 n)
 |0=>⟨Qz qM,Qz vQ,Qz qN,Qz sW⟩
 |n+1=>⟨mk qM (qE (dM n) (eR n) (db n) (dI n)) (ac (jZ n).2.1 an) bX,mk vQ (rZ (dM n) (eR n) (db n) (dI n)) (ac vp (ac nR (ac FL (ac G9 (ac (jZ n).2.2.1 (ac (jZ n).2.2.2 (ac LG (ac ut an)))))))) bX,mk qN (mz (dM n) (eR n) (db n) (dI n)) (ac (jZ n).1 (ac nR (ac ut an))) bX,mk sW (oZ (dM n) (eR n) (db n) (dI n)) (ac (jZ n).1 (ac nR an)) bX⟩
theorem I5:aI Pg 98 Kn:=(jZ fuel).1
theorem Oz:aI Pg 66 O7:=mk Dz qr (ac xC (ac UI (ac I5 (ac nR (ac uu an))))) bX
theorem I4:aI Pg 82 abx:=mk RE qp an bX
theorem ab9:aI Pg 121 abw:=mk RD wA an bX
theorem I3:aI Pg 85 Vh:=mk JS rz (ac ab9 an) bX
theorem LF:aI Pg 188 L4:=mk Bd mh an bX
theorem k9:aI Pg 161 YU:=mk Nf cj an bX
theorem Ym:aI Pg 162 YT:=mk Nd wz (ac I3 (ac uu (ac UJ (ac LF (ac Rc an))))) bX
theorem ju:aI Pg 131 Sk:=mk Gs mZ (ac FM (ac k9 (ac Ym an))) bX
theorem I2:aI Pg 53 Vf:=mk JQ rx an bX
theorem EO:aI Pg 79 YR:=mk Nb ry an bX
theorem W_:aI Pg 80 afi:=mk Xo qn an bX
theorem UD:aI Pg 81 Ve:=mk JP ui (ac W_ an) bX
theorem C6:aI Pg 56 O4:=mk Dw j9 (ac EO (ac W_ (ac UD (ac I4 an)))) bX
theorem Ow:aI Pg 83 O3:=mk Dv nJ an bX
theorem Ov:aI Pg 86 O2:=mk Du qm an bX
theorem kZ:aI Pg 84 YS:=mk Nc il an bX
theorem LD:aI Pg 83 L3:=mk mo mg an bX
theorem I1:aI Pg 83 Kl:= @aI.ro Pg 83 mo.pre mo.post.vs mg jC (LD.holds rfl) rfl (λx _ h=>by rw[show jC x=obind (mg x) λy=>same y.2 x.2 (af y.1) from rfl] at h;exact h)
theorem jH:aI Pg 59 Vg:=mk JR pi (ac C6 (ac I4 (ac I1 (ac kZ (ac I3 (ac Ov an)))))) bX
theorem UC:aI Pg 65 Vd:=mk JO uh (ac I2 (ac B6 an)) bX
theorem Yk:aI Pg 158 YP:=mk Na wy (ac B6 (ac EO an)) bX
theorem Yi:aI Pg 159 YN:=mk M_ wv an bX
theorem QP:aI Pg 160 RZ:=mk F7 sr (ac UK an) bX
theorem iE:aI Pg 129 O1:=mk Dt nI (ac Yk (ac Yi (ac QP an))) bX
theorem I0:aI Pg 36 Vb:=mk JM mM (ac I2 an) bX
theorem Yh:aI Pg 54 YM:=mk M9 wu (ac EO an) bX
theorem aet:aI Pg 55 afh:=mk Xn CS an bX
theorem Ou:aI Pg 57 O0:=mk Ds nG an bX
theorem Uz:aI Pg 58 U':=mk JK uf (ac I4 (ac Ow an)) bX
theorem EM:aI Pg 38 YL:=mk M8 ru (ac Yh (ac aet (ac C6 (ac Ou (ac Uz (ac jH an)))))) bX
theorem UA:aI Pg 62 Va:=mk JL rq an bX
theorem UB:aI Pg 40 Vc:=mk JN ug (ac I0 (ac EM (ac yd (ac UA an)))) bX
def Mv (t:TypeId):Option Ty:=if aC t 175 then af (.pr .un eX) else bX t
theorem Rb:aI Pg 130 Sj:=mk Gr mY (ac kZ (ac k9 an)) Mv
theorem Q1:aI Pg 95 R_:=mk Gg gg (ac jH (ac iE (ac Rb (ac ju an)))) Mv
theorem Ra:aI Pg 130 Si:=mk Gq mX (ac kZ (ac k9 an)) Mv
theorem Q0:aI Pg 95 R9:=mk Gf gD (ac jH (ac iE (ac Ra (ac ju an)))) Mv
theorem Q_:aI Pg 130 Sh:=mk Gp mW (ac kZ (ac k9 an)) Mv
theorem QZ:aI Pg 95 R8:=mk Ge gf (ac jH (ac iE (ac Q_ (ac ju an)))) Mv
theorem Q9:aI Pg 130 Sg:=mk Gn mV (ac kZ (ac k9 an)) Mv
theorem QY:aI Pg 95 R7:=mk Gb js (ac jH (ac iE (ac Q9 (ac ju an)))) Mv
theorem Q7:aI Pg 130 Sf:=mk Gm mU (ac kZ (ac k9 an)) Mv
theorem QX:aI Pg 95 R6:=mk Ga iI (ac jH (ac iE (ac Q7 (ac ju an)))) Mv
theorem Q6:aI Pg 130 Se:=mk Gl mT (ac kZ (ac k9 an)) Mv
theorem QW:aI Pg 95 R5:=mk F' hY (ac jH (ac iE (ac Q6 (ac ju an)))) Mv
theorem Q5:aI Pg 130 Sd:=mk Gk mS (ac kZ (ac k9 an)) Mv
theorem QV:aI Pg 95 R4:=mk dF mO (ac jH (ac iE (ac Q5 (ac ju an)))) Mv
theorem Q4:aI Pg 130 Sc:=mk Gj mR (ac kZ (ac k9 an)) Mv
theorem QU:aI Pg 95 R3:=mk F_ mN (ac jH (ac iE (ac Q4 (ac ju an)))) Mv
theorem Q3:aI Pg 130 Sb:=mk Gi mQ (ac kZ (ac k9 an)) Mv
theorem QR:aI Pg 95 R2:=mk F9 lw (ac jH (ac iE (ac Q3 (ac ju an)))) Mv
theorem Q2:aI Pg 130 Sa:=mk Gh mP (ac kZ (ac k9 an)) Mv
theorem QQ:aI Pg 95 R1:=mk F8 j8 (ac jH (ac iE (ac Q2 (ac ju an)))) Mv
theorem Yl:aI Pg 95 YQ:=(aI.orE (pre:=dF.pre) (post:=dF.post) (m:=mO) (m':=(λx=>orE (mN x) ((λx=>orE (lw x) ((λx=>orE (j8 x) ((λx=>orE (js x) ((λx=>orE (iI x) ((λx=>orE (hY x) ((λx=>orE (gD x) ((λx=>orE (gf x) (gg x)) x)) x)) x)) x)) x)) x)) x))) rfl QV (aI.orE (pre:=dF.pre) (post:=dF.post) (m:=mN) (m':=(λx=>orE (lw x) ((λx=>orE (j8 x) ((λx=>orE (js x) ((λx=>orE (iI x) ((λx=>orE (hY x) ((λx=>orE (gD x) ((λx=>orE (gf x) (gg x)) x)) x)) x)) x)) x)) x))) rfl QU (aI.orE (pre:=dF.pre) (post:=dF.post) (m:=lw) (m':=(λx=>orE (j8 x) ((λx=>orE (js x) ((λx=>orE (iI x) ((λx=>orE (hY x) ((λx=>orE (gD x) ((λx=>orE (gf x) (gg x)) x)) x)) x)) x)) x))) rfl QR (aI.orE (pre:=dF.pre) (post:=dF.post) (m:=j8) (m':=(λx=>orE (js x) ((λx=>orE (iI x) ((λx=>orE (hY x) ((λx=>orE (gD x) ((λx=>orE (gf x) (gg x)) x)) x)) x)) x))) rfl QQ (aI.orE (pre:=dF.pre) (post:=dF.post) (m:=js) (m':=(λx=>orE (iI x) ((λx=>orE (hY x) ((λx=>orE (gD x) ((λx=>orE (gf x) (gg x)) x)) x)) x))) rfl QY (aI.orE (pre:=dF.pre) (post:=dF.post) (m:=iI) (m':=(λx=>orE (hY x) ((λx=>orE (gD x) ((λx=>orE (gf x) (gg x)) x)) x))) rfl QX (aI.orE (pre:=dF.pre) (post:=dF.post) (m:=hY) (m':=(λx=>orE (gD x) ((λx=>orE (gf x) (gg x)) x))) rfl QW (aI.orE (pre:=dF.pre) (post:=dF.post) (m:=gD) (m':=(λx=>orE (gf x) (gg x))) rfl Q0 (aI.orE (pre:=dF.pre) (post:=dF.post) (m:=gf) (m':=gg) rfl QZ Q1)))))))))
theorem Yj:aI Pg 64 YO:=mk M' ww (ac Yl an) bX
theorem ab8:aI Pg 41 abv:=mk RC y_ (ac B6 (ac Yj (ac UC an))) bX
theorem fH:aI Pg 37 Hm:=mk yz bz an bX
theorem EU:aI Pg 104 Y0:=mk Ni rE an bX
theorem Jc:aI Pg 175 VF:=mk J6 po an bX
theorem Da:aI Pg 174 Pd:=mk DF nM an bX
theorem Db:aI Pg 103 Pe:=mk DG jq an bX
theorem Rg:aI Pg 101 Sy:=mk GF sw an bX
theorem LQ:aI Pg 43 Mg:=mk Bo oM an bX
theorem vq:∀ n:Nat,aI Pg 173 (EH n)
 |0=>Qz nY
 |n+1=>mk nY (nU (ip n)) (ac fH (ac EU (ac (vq n) (ac Da (ac Jc an))))) bX
theorem EW:aI Pg 173 Fk:=(vq fuel)
theorem C':aI Pg 176 DU:=mk vz eQ (ac vp an) bX
theorem jI:∀ n:Nat,aI Pg 102 (CZ n)/\aI Pg 140 (EG n)/\aI Pg 177 (C1 n)
 |0=>⟨Qz mD,Qz rN,Qz qO⟩
 |n+1=>⟨mk mD (mB (dJ n) (eJ n) (dX n)) (ac (jI n).2.1 an) bX,mk rN (nS (dJ n) (eJ n) (dX n)) (ac fH (ac (jI n).1 (ac Db (ac EU (ac EW (ac Da (ac Jc (ac C' (ac (jI n).2.2 an))))))))) bX,mk qO (mC (dJ n) (eJ n) (dX n)) (ac fH (ac (jI n).1 an)) bX⟩
theorem C_:aI Pg 102 DS:=(jI fuel).1
theorem LP:aI Pg 67 Mf:=mk Bn oL (ac fH (ac xC (ac Rg (ac C_ (ac Db (ac EU an)))))) bX
theorem UT:aI Pg 42 VG:=mk J7 xw (ac Oz (ac LP an)) bX
theorem Rh:aI Pg 18 Sz:=mk GG sx (ac ab8 (ac UT (ac LQ an))) bX
theorem Oo:aI Pg 35 OX:=mk Dp nF an bX
theorem IX:aI Pg 122 Kj:=mk zD kW an bX
theorem Om:aI Pg 87 OV:=mk Dn tD an bX
theorem Lz:aI Pg 88 LX:=mk AZ oF (ac fH an) bX
theorem Ol:aI Pg 89 OU:=mk Dm qh (ac fH (ac IX an)) bX
theorem QJ:aI Pg 90 RN:=mk F0 gC (ac fH an) bX
theorem On:aI Pg 60 OW:=mk Do qi (ac fH (ac Om (ac Lz (ac Ol (ac QJ an))))) bX
def tv1 (t:TypeId):Option Ty:=if aC t 53 then af (.pr .un (.pr .un (.pr .un (.pr .un (.pr .un (.sl aM)))))) else bX t
theorem QK:aI Pg 39 RO:=mk F1 sj (ac fH (ac EM (ac On an))) tv1
theorem Oq:aI Pg 17 OY:=mk Dq qj (ac Oo (ac I0 (ac fH (ac EM (ac QK (ac UB an)))))) bX
theorem EL:aI Pg 7 Fe:=mk wU kX (ac Oq (ac Rh an)) bX
end
end Go.Proofs.YthehadcddfilhaaGreatDoor.AI
