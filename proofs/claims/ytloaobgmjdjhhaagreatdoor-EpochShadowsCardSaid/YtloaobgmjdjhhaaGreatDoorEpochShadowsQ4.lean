/-
  Texts of the proof, part 5 of 6: what is used to prove the statement. No condition.
-/
import Derived.Test.YtloaobgmjdjhhaaGreatDoorEpochShadowsQ3
import Derived.Deep.Slices
import Derived.OpenShut
import Derived.Below
import Derived.Test.YtloaobgmjdjhhaaGreatDoorProg
import Derived.KernelRfl
import Derived.Recover
namespace Go.Proofs.YtloaobgmjdjhhaaGreatDoor.AI
open Go.RowKit
set_option maxRecDepth 100000
set_option maxHeartbeats 4000000
set_option linter.unusedVariables false
set_option linter.unusedSimpArgs false
open Act renaming put→O5
open _root_.Array renaming replicate→oY
open _root_.Bool renaming true→J,false→af,and_false→L4
open Call renaming operands→e_
open _root_.Classical renaming propDecidable→l9
open _root_.Int renaming ofNat_eq_natCast→ak,ofNat→aM,toNat→aQ,toNat_natCast→bY
open _root_.List renaming length→ai,replicate→aA,range→bS,length_singleton→dc,take→dR,length_nil→fO,cons_append→gE,nil_append→km,getElem?_cons_zero→l8,take_succ_cons→wL,replicate_succ→wM
open _root_.Nat renaming beq→aB,testBit→aN,add_zero→dl,ble→eS,blt→gC
open Oper renaming wp→Is
open _root_.Option renaming some→M,none→D,bind_some→aG,map_some→ct,map→mo,getD_some→vM
open _root_.Prod renaming p2→aY,p3→bi,p4→bu,q3→bO,p5→cF,q5→cY,q4→dG,p6→dZ,q6→fH,q7→ky
open Region renaming wanted→iW
open Result renaming andThen_ok→cU
open Sem renaming run_bind→eR,run_pure→po
open _root_.Sum renaming inr→bQ,inl→pn
open Value renaming okWide→Iq
open World renaming cell?→O1
noncomputable section
mutual
def Dk (g:Nat->Nat):TV->TV
 |.row i=>.row (g i)
 |.rtl i j=>.rtl (g i) j
 |.agg l=>.agg (kW g l)
 |.tup l=>.tup (kW g l)
 |.clo q l=>.clo q (kW g l)
 |.f T v=>.f T v
 |.fel T xs j h off=>.fel T xs j h off
 |.pel a b c d=>.pel (g a) b c d
 |.ptr a b=>.ptr (g a) b
 |.csl a b c=>.csl (g a) b c
 |.emp=>.emp
 |.nil=>.nil
 |.mp i=>.mp (g i)
 |.undef=>.undef
 |.np=>.np
 |.anyb=>.anyb
def kW (g:Nat->Nat):Y TV->Y TV
 |[]=>[]
 |x::r=>Dk g x::kW g r
end
theorem AL (g:Nat->Nat):∀l,kW g l=l.map (Dk g)
 |[]=>rfl
 |x::r=>by rw[kW,AL g r];rfl
def mb (g:Nat->Nat):iw->iw
 |.cells ty l=>.cells ty (kW g l)
 |.rows ty p T xs=>.rows ty p T xs
 |.dead p sz n=>.dead p sz n
 |.mp K V es=>.mp K V es
theorem Jf (g:Nat->Nat) (b:iw):nk (mb g b)=nk b:=by cases b<;>rfl
def IP (g:Nat->Nat) (n:Nat):Nat:=nm (g (ow n))
theorem yk (g:Nat->Nat) (i:Nat):IP g (nm i)=nm (g i):=by unfold IP;rw[ef]
mutual
theorem alx {g:Nat->Nat} {h1 h2:bk} (hrow:∀i r,eM h1 i=M r->eM h2 (g i)=M r):∀(v:TV) (y:AV),cA h1 v=M y->cA h2 (Dk g v)=M (y.ren (IP g))
 |.f _ _,y,he=>by simp only[cA,ah]at he;subst he;rfl
 |.fel _ _ _ _ _,y,he=>by simp only[cA,ah]at he;subst he;rfl
 |.pel _ _ _ _,y,he=>by simp only[cA,ah]at he;subst he;simp only[Dk,cA,AV.ren,yk]
 |.ptr _ _,y,he=>by simp only[cA,ah]at he;subst he;simp only[Dk,cA,AV.ren,yk]
 |.csl _ _ _,y,he=>by simp only[cA,ah]at he;subst he;simp only[Dk,cA,AV.ren,yk]
 |.row id,y,he=>by
  simp only[cA]at he;split at he
  .rename_i p sz n hr;simp only[ah]at he;subst he;simp only[Dk,cA,hrow id _ hr];unfold fP;split
   .rfl
   .simp only[AV.ren,yk]
  .cases he
 |.rtl id jj,y,he=>by
  simp only[cA]at he;split at he
  .rename_i p sz n hr;simp only[ah]at he;subst he;simp only[Dk,cA,hrow id _ hr,AV.ren,yk]
  .cases he
 |.emp,y,he=>by simp only[cA,ah]at he;subst he;rfl
 |.nil,y,he=>by simp only[cA,ah]at he;subst he;rfl
 |.mp _,y,he=>by simp only[cA,ah]at he;subst he;simp only[Dk,cA,AV.ren,yk]
 |.agg l,y,he=>by
  simp only[cA]at he;split at he
  .rename_i l' hl;simp only[ah]at he;subst he;simp only[Dk,cA,pD hrow l l' hl,AV.ren]
  .cases he
 |.tup l,y,he=>by
  simp only[cA]at he;split at he
  .rename_i l' hl;simp only[ah]at he;subst he;simp only[Dk,cA,pD hrow l l' hl,AV.ren]
  .cases he
 |.clo q l,y,he=>by
  simp only[cA]at he;split at he
  .rename_i l' hl;simp only[ah]at he;subst he;simp only[Dk,cA,pD hrow l l' hl,AV.ren]
  .cases he
 |.undef,y,he=>by simp only[cA,ah]at he;subst he;rfl
 |.np,y,he=>by simp only[cA,ah]at he;subst he;rfl
 |.anyb,y,he=>by simp only[cA,ah]at he;subst he;rfl
theorem pD {g:Nat->Nat} {h1 h2:bk} (hrow:∀i r,eM h1 i=M r->eM h2 (g i)=M r):∀(l:Y TV) (l':Y AV),cO h1 l=M l'->cO h2 (kW g l)=M (AV.renL (IP g) l')
 |[],l',he=>by simp only[cO,ah]at he;subst he;rfl
 |x::r,l',he=>by
  obtain⟨y,l2,rfl,e1,e2⟩:=dg he;exact pE (alx hrow x y e1) (pD hrow r l2 e2)
end
theorem DY {g:Nat->Nat} {h1 h2:bk} (hrow:∀i r,eM h1 i=M r->eM h2 (g i)=M r) {b:iw} {y:wK} (he:jN h1 b=M y):jN h2 (mb g b)=M (y.ren (IP g)):=by
 cases b with
 |rows ty p T xs=>
  simp only[jN]at he;split at he
  .cases he
  .rename_i hc;simp only[ah]at he;subst he;simp only[mb,jN,ax hc];rfl
 |cells ty l=>
  cases ty with
  |some ty=>
   simp only[jN]at he;split at he
   .rename_i a hl;simp only[ah]at he;subst he;simp only[mb,jN,pD hrow l a hl,nu];rfl
   .cases he
  |none=>
   simp only[jN]at he;split at he
   .rename_i a hl;simp only[ah]at he;subst he;simp only[mb,jN,pD hrow l a hl,nu,wK.ren,BC.ren,<-RZ]
   .cases he
 |dead p sz n=>cases he
 |mp K V es=>
  simp only[jN,ah]at he;subst he;simp only[mb,jN,wK.ren,ah,wK.mk.injEq,Cc];unfold mpC;split
  .rfl
  .simp only[BC.ren,Iv];rfl
theorem Dj (g:Nat->Nat) (a b:Y TV):kW g (a++b)=kW g a++kW g b:=by
 rw[AL,AL,AL,cM]
theorem qA (g:Nat->Nat):∀(n:Nat) (T:Ty) (v:T.den) (l:Y TV),cellsOf n T v=M l->kW g l=l
 |0,_,_,_,he=>by simp[cellsOf]at he
 |n+1,.st t,v,l,he=>qA g n t v l he
 |n+1,.pr a b,v,l,he=>by
  simp only[cellsOf]at he;split at he
  .rename_i x y z s;simp only[ah]at he;subst he;rw[Dj,qA g n a v.1 x z,qA g n b v.2 y s]
  .cases he
 |n+1,.un,v,l,he=>by simp only[cellsOf,ah]at he;subst he;rfl
 |n+1,.ex,v,l,he=>qA g n N' (O8 v) l he
 |n+1,.sm,v,l,he=>qA g n Ny (O7 v) l he
 |n+1,.int k,v,l,he=>by simp only[cellsOf,ah]at he;subst he;rfl
 |n+1,.bool,v,l,he=>by simp only[cellsOf,ah]at he;subst he;rfl
 |n+1,.str,v,l,he=>by simp only[cellsOf,ah]at he;subst he;rfl
 |n+1,.sl t,v,l,he=>by simp only[cellsOf,ah]at he;subst he;rfl
abbrev IH:Nat->Nat:=λi=>i
mutual
theorem aco (g:Nat->Nat):∀(p:PV) (x:p.ty.den),qF g p x=(qF IH p x).map (kW g)
 |.d T,x=>by
  simp only[qF];cases h:cellsOf 40 T x with
  |none=>rfl
  |some l=>simp only[ct,qA g 40 T x l h]
 |.ptr i o,x=>rfl
 |.csl i o z,x=>rfl
 |.clo q i o,x=>rfl
 |.row i,x=>rfl
 |.mp i,x=>rfl
 |.nil,x=>rfl
 |.emp,x=>rfl
 |.agg ps,x=>AM g ps x
theorem AM (g:Nat->Nat):∀(ps:Y PV) (x:(PV.tyL ps).den),rH g ps x=(rH IH ps x).map (kW g)
 |[],x=>rfl
 |p::r,x=>by
  simp only[rH];rw[aco g p,AM g r];cases qF IH p (Qb p.ty (PV.tyL r) x) with
  |none=>rfl
  |some a=>
   cases rH IH r (Mc p.ty (PV.tyL r) x) with
   |none=>rfl
   |some b=>simp only[ct,Dj]
end
def amd (o:I (Y TV)):I TV:=match o with|some l=>M (.agg l)|none=>D
theorem af1 (g:Nat->Nat) (o:I (Y TV)):amd (o.map (kW g))=(amd o).map (Dk g):=by cases o<;>rfl
theorem acm (g:Nat->Nat) (p:PV) (x:p.ty.den):uh g p x=(uh IH p x).map (Dk g):=by
 cases p with
 |agg ps=>exact (gZ amd (AM g ps x)).trans (af1 g _)
 |_=>rfl
theorem ux (g:Nat->Nat):∀(ps:Y PV) (x:(PV.tyL ps).den),qL g ps x=(qL IH ps x).map (kW g)
 |[],x=>rfl
 |p::r,x=>by
  simp only[qL];rw[acm g p,ux g r];cases uh IH p (Qb p.ty (PV.tyL r) x) with
  |none=>rfl
  |some a=>
   cases qL IH r (Mc p.ty (PV.tyL r) x) with
   |none=>rfl
   |some b=>rfl
def Xi (ty:I TypeId) (o:I (Y TV)):I (I iw):=match o with|some l=>M (M (.cells ty l))|none=>D
theorem Xh (g:Nat->Nat) (ty:I TypeId) (o:I (Y TV)):Xi ty (o.map (kW g))=(Xi ty o).map (mo (mb g)):=by cases o<;>rfl
theorem acp (g:Nat->Nat) (b:PB) (x:b.ty.den):Do g b x=(Do IH b x).map (mo (mb g)):=by
 cases b with
 |cells ty ps=>exact (gZ (Xi ty) (AM g ps x)).trans (Xh g ty _)
 |_=>rfl
theorem wV (g:Nat->Nat):∀(bs:Y PB) (x:(PB.tyL bs).den),o6 g bs x=(o6 IH bs x).map (List.map (mo (mb g)))
 |[],x=>rfl
 |b::r,x=>by
  simp only[o6];rw[acp g b,wV g r];cases Do IH b (Qb b.ty (PB.tyL r) x) with
  |none=>rfl
  |some a=>
   cases o6 IH r (Mc b.ty (PB.tyL r) x) with
   |none=>rfl
   |some l=>rfl
theorem Dn (g:Nat->Nat):∀(bs:Y PB) (x:(PB.tyL bs).den) (l:Y (I iw)),o6 g bs x=M l->l.length=bs.length
 |[],x,l,h=>by simp only[o6,ah]at h;subst h;rfl
 |b::r,x,l,h=>by
  simp only[o6]at h;split at h
  .split at h
   .rename_i q hq;simp only[ah]at h;subst h;simp[Dn g r _ q hq]
   .cases h
  .cases h
theorem Kd (h:bk) (i j:Nat):(kill h i).get j=if j=i then (h.get i).map vW else h.get j:=by
 unfold kill;cases hb:h.get i with
 |none=>
  simp only[Option.map_none];split
  .rename_i e;rw[e,hb]
  .rfl
 |some b=>rw[PT.get_set];rfl
theorem vU (g:Nat->Nat):∀(l:Y (I iw)) (i:Nat) (h:bk) (j:Nat),(∀k,k<l.length->j≠g (i+k))->(Bl g i l h).get j=h.get j
 |[],i,h,j,_=>rfl
 |some c::r,i,h,j,hj=>by
  rw[Bl,vU g r (i+1) _ j (λk hk=>by have:=hj (k+1) (by simpa using hk);rwa [show i+1+k=i+(k+1) from by omega]),PT.get_set,ax];exact hj 0 (by simp)
 |none::r,i,h,j,hj=>by
  rw[Bl,vU g r (i+1) _ j (λk hk=>by have:=hj (k+1) (by simpa using hk);rwa [show i+1+k=i+(k+1) from by omega]),Kd,ax];exact hj 0 (by simp)
theorem vV (g:Nat->Nat):∀(l:Y (I iw)) (i:Nat) (h:bk),(∀a b,a<l.length->b<l.length->g (i+a)=g (i+b)->a=b)->∀(k:Nat) (c:I iw),l[k]? =M c->(Bl g i l h).get (g (i+k))=(match c with|some b=>M b|none=>(h.get (g (i+k))).map vW)
 |[],i,h,_,k,c,hk=>by simp at hk
 |o::r,i,h,hinj,k,c,hk=>by
  have hinj':∀a b,a<r.length->b<r.length->g (i+1+a)=g (i+1+b)->a=b:=λa b z hb e=>by
   have:=hinj (a+1) (b+1) (by simpa using z) (by simpa using hb) (by rw[show i+(a+1)=i+1+a from by omega,show i+(b+1)=i+1+b from by omega];exact e);omega
  cases k with
  |zero=>
   simp at hk;subst hk;have hne:∀k,k<r.length->g (i+0)≠g (i+1+k):=λk hk e=>by
    have:=hinj 0 (k+1) (by simp) (by simpa using hk) (by rw[show i+(k+1)=i+1+k from by omega];exact e);omega
   cases o with
   |some b=>rw[Bl,vU g r (i+1) _ _ hne];simp only[dl];rw[PT.get_set,aC rfl]
   |none=>rw[Bl,vU g r (i+1) _ _ hne];simp only[dl];rw[Kd,aC rfl]
  |succ k=>
   have s:r[k]? =M c:=by simpa using hk
   have hkl:k<r.length:=(bn.1 s).1;have hne:g (i+(k+1))≠g i:=λe=>by
    have:=hinj (k+1) 0 (by simpa using hkl) (by simp) (by rw[e];rfl);omega
   rw[show i+(k+1)=i+1+k from by omega]at hne ⊢;cases o with
   |some b=>
    rw[Bl,vV g r (i+1) _ hinj' k c s];cases c with
    |some _=>rfl
    |none=>simp only[PT.get_set,ax hne]
   |none=>
    rw[Bl,vV g r (i+1) _ hinj' k c s];cases c with
    |some _=>rfl
    |none=>simp only[Kd,ax hne]
def yF (h' h:bk):Prop:=∀i r,eM h' i=M r->eM h i=M r
section get
variable {h h':bk} {H H':HF} {g:Nat->Nat}
theorem lZ.agg {l a:Y AV} (hl:ij H H' l a) (hc:∀x∈a,x.isCell=J):lZ H H' (.agg l) (.agg a):=by
 intro φ E w v hrep hr;cases hr with
 |@agg _ vs hlen hcl hrr=>
  refine .agg (by rw[hlen,<-hl.length]) hc λj y u s hu=>?_
  obtain⟨x,z,hle⟩:=hl.get j y s;exact hle φ E w u hrep (hrr j x u z hu)
theorem RA (hr:yF h' h) {i:Nat} {y z:AV} (s:cA h (.row i)=M y) (a:cA h' (.row i)=M z):z=y:=by
 simp only[cA]at s a;cases h1:eM h' i with
 |none=>rw[h1]at a;cases a
 |some r=>
  rw[h1]at a;rw[hr i r h1]at s;rw[s]at a;cases a;rfl
mutual
theorem ahp (d:vL H H') (hr:yF h' h):∀(p:PV) (l:Y TV) (x:p.ty.den) (m:Nat) (r:Y TV) (cs:Y TV) (l' cs':Y AV),qb g h p l=M (x,m,r)->qF g p x=M cs->cO h l=M l'->cO h' cs=M cs'->E0 h H H' m->∃l1 l2,l'=l1++l2/\cO h r=M l2/\ij H H' l1 cs'
 |.d T,l,x,m,r,cs,l',cs',hg,hp,hl,hc,gv=>by
  obtain⟨l1,l2,e1,e2,e3⟩:=sW d 40 T l x m r l' hg hl gv;have:=(ml h' 40 T x cs hp).1;rw[hc]at this;cases this;exact⟨l1,l2,e1,e2,e3⟩
 |.ptr i q,l,x,m,r,cs,l',cs',hg,hp,hl,hc,gv=>by
  simp only[qb]at hg;split at hg
  .rename_i i' o' r';split at hg
   .rename_i hb;simp only[al]at hb;have e1:=ar hb.1;have e2:=ar hb.2;subst e1;subst e2;simp only[ah,aE]at hg;obtain⟨_,_,rfl⟩:=hg;simp only[qF,ah]at hp;subst hp;obtain⟨y,l2,rfl,g1,g2⟩:=dg hl;simp only[cA,ah]at g1;subst g1;simp only[cO,cA,ah]at hc;subst hc;exact⟨[_],l2,rfl,g2,lZ.refl d _,trivial⟩
   .cases hg
  .cases hg
 |.csl i q z,l,x,m,r,cs,l',cs',hg,hp,hl,hc,gv=>by
  simp only[qb]at hg;split at hg
  .rename_i i' o' z' r';split at hg
   .rename_i hb;simp only[al]at hb;have e1:=ar hb.1.1;have e2:=ar hb.1.2;have e3:=ar hb.2;subst e1;subst e2;subst e3;simp only[ah,aE]at hg;obtain⟨_,_,rfl⟩:=hg;simp only[qF,ah]at hp;subst hp;obtain⟨y,l2,rfl,g1,g2⟩:=dg hl;simp only[cA,ah]at g1;subst g1;simp only[cO,cA,ah]at hc;subst hc;exact⟨[_],l2,rfl,g2,lZ.refl d _,trivial⟩
   .cases hg
  .cases hg
 |.clo q i z,l,x,m,r,cs,l',cs',hg,hp,hl,hc,gv=>by
  simp only[qb]at hg;split at hg
  .rename_i q' i' z' r';split at hg
   .rename_i hb;simp only[al]at hb;have e1:=ar hb.1.1;have e2:=ar hb.1.2;have e3:=ar hb.2;subst e1;subst e2;subst e3;simp only[ah,aE]at hg;obtain⟨_,_,rfl⟩:=hg;simp only[qF,ah]at hp;subst hp;obtain⟨y,l2,rfl,g1,g2⟩:=dg hl;simp only[cA,cO,ah]at g1;subst g1;simp only[cO,cA,ah]at hc;subst hc;exact⟨[_],l2,rfl,g2,lZ.refl d _,trivial⟩
   .cases hg
  .cases hg
 |.row i,l,x,m,r,cs,l',cs',hg,hp,hl,hc,gv=>by
  simp only[qb]at hg;split at hg
  .rename_i i' r';split at hg
   .rename_i hb;have e1:=ar hb;subst e1;simp only[ah,aE]at hg;obtain⟨_,_,rfl⟩:=hg;simp only[qF,ah]at hp;subst hp;obtain⟨y,l2,rfl,g1,g2⟩:=dg hl;obtain⟨y',l3,rfl,g3,g4⟩:=dg hc;simp only[cO,ah]at g4;subst g4;rw[RA hr g1 g3];exact⟨[_],l2,rfl,g2,lZ.refl d _,trivial⟩
   .cases hg
  .cases hg
 |.mp i,l,x,m,r,cs,l',cs',hg,hp,hl,hc,gv=>by
  simp only[qb]at hg;split at hg
  .rename_i i' r';split at hg
   .rename_i hb;have e1:=ar hb;subst e1;simp only[ah,aE]at hg;obtain⟨_,_,rfl⟩:=hg;simp only[qF,ah]at hp;subst hp;obtain⟨y,l2,rfl,g1,g2⟩:=dg hl;simp only[cA,ah]at g1;subst g1;simp only[cO,cA,ah]at hc;subst hc;exact⟨[_],l2,rfl,g2,lZ.refl d _,trivial⟩
   .cases hg
  .cases hg
 |.nil,l,x,m,r,cs,l',cs',hg,hp,hl,hc,gv=>by
  simp only[qb]at hg;split at hg
  .simp only[ah,aE]at hg;obtain⟨_,_,rfl⟩:=hg;simp only[qF,ah]at hp;subst hp;obtain⟨y,l2,rfl,g1,g2⟩:=dg hl;simp only[cA,ah]at g1;subst g1;simp only[cO,cA,ah]at hc;subst hc;exact⟨[_],l2,rfl,g2,lZ.refl d _,trivial⟩
  .cases hg
 |.emp,l,x,m,r,cs,l',cs',hg,hp,hl,hc,gv=>by
  simp only[qb]at hg;split at hg
  .simp only[ah,aE]at hg;obtain⟨_,_,rfl⟩:=hg;simp only[qF,ah]at hp;subst hp;obtain⟨y,l2,rfl,g1,g2⟩:=dg hl;simp only[cA,ah]at g1;subst g1;simp only[cO,cA,ah]at hc;subst hc;exact⟨[_],l2,rfl,g2,Le.nilEmp.toH d,trivial⟩
  .simp only[ah,aE]at hg;obtain⟨_,_,rfl⟩:=hg;simp only[qF,ah]at hp;subst hp;obtain⟨y,l2,rfl,g1,g2⟩:=dg hl;simp only[cA,ah]at g1;subst g1;simp only[cO,cA,ah]at hc;subst hc;exact⟨[_],l2,rfl,g2,lZ.refl d _,trivial⟩
  .cases hg
 |.agg ps,l,x,m,r,cs,l',cs',hg,hp,hl,hc,gv=>DU d hr ps l x m r cs l' cs' hg hp hl hc gv
theorem DU (d:vL H H') (hr:yF h' h):∀(ps:Y PV) (l:Y TV) (x:(PV.tyL ps).den) (m:Nat) (r:Y TV) (cs:Y TV) (l' cs':Y AV),Ac g h ps l=M (x,m,r)->rH g ps x=M cs->cO h l=M l'->cO h' cs=M cs'->E0 h H H' m->∃l1 l2,l'=l1++l2/\cO h r=M l2/\ij H H' l1 cs'
 |[],l,x,m,r,cs,l',cs',hg,hp,hl,hc,gv=>by
  simp only[Ac,ah,aE]at hg;obtain⟨_,_,rfl⟩:=hg;simp only[rH,ah]at hp;subst hp;simp only[cO,ah]at hc;subst hc;exact⟨[],l',rfl,hl,trivial⟩
 |p::ps,l,x,m,r,cs,l',cs',hg,hp,hl,hc,gv=>by
  simp only[Ac]at hg;split at hg
  .rename_i x1 m1 r1 h1;split at hg
   .rename_i x2 m2 r2 h2;simp only[ah,aE]at hg;obtain⟨rfl,rfl,rfl⟩:=hg;simp only[rH,uq,vQ]at hp;split at hp
    .rename_i a ha;split at hp
     .rename_i b hb;simp only[ah]at hp;subst hp;obtain⟨a',b',rfl,ea,eb⟩:=CK hc;obtain⟨ga,gb⟩:=gv.or;obtain⟨l1,l2,rfl,q1,q2⟩:=ahp d hr p l _ _ _ a l' a' h1 ha hl ea ga;obtain⟨l3,l4,rfl,q3,q4⟩:=DU d hr ps _ _ _ _ b l2 b' h2 hb q1 eb gb;exact⟨l1++l3,l4,by simp,q3,q2.append q4⟩
     .cases hp
    .cases hp
   .cases hg
  .cases hg
end
mutual
theorem Zg:∀(p:PV) (x:p.ty.den) (cs:Y TV),qF g p x=M cs->kT cs=J
 |.d T,x,cs,hp=>(ml PT.leaf 40 T x cs hp).2
 |.ptr i q,x,cs,hp=>by simp only[qF,ah]at hp;subst hp;rfl
 |.csl i q z,x,cs,hp=>by simp only[qF,ah]at hp;subst hp;rfl
 |.clo q i z,x,cs,hp=>by simp only[qF,ah]at hp;subst hp;rfl
 |.row i,x,cs,hp=>by simp only[qF,ah]at hp;subst hp;rfl
 |.mp i,x,cs,hp=>by simp only[qF,ah]at hp;subst hp;rfl
 |.nil,x,cs,hp=>by simp only[qF,ah]at hp;subst hp;rfl
 |.emp,x,cs,hp=>by simp only[qF,ah]at hp;subst hp;rfl
 |.agg ps,x,cs,hp=>xT ps x cs hp
theorem xT:∀(ps:Y PV) (x:(PV.tyL ps).den) (cs:Y TV),rH g ps x=M cs->kT cs=J
 |[],x,cs,hp=>by simp only[rH,ah]at hp;subst hp;rfl
 |p::ps,x,cs,hp=>by
  simp only[rH]at hp;split at hp
  .rename_i a ha;split at hp
   .rename_i b hb;simp only[ah]at hp;subst hp;exact Uu (Zg p _ a ha) (xT ps _ b hb)
   .cases hp
  .cases hp
end
theorem aho (d:vL H H') (hr:yF h' h) {p:PV} {v:TV} {x:p.ty.den} {m:Nat} {u:TV} {y A:AV} (hg:yg g h p v=M (x,m)) (hp:uh g p x=M u) (s:cA h v=M y) (a:cA h' u=M A) (Z:E0 h H H' m):lZ H H' y A:=by
 cases p with
 |d T=>
  simp only[uh,ah]at hp;subst hp;simp only[cA,ah]at a;subst a;exact (QV d hg s Z).1
 |agg ps=>
  simp only[yg]at hg;split at hg
  .cases hg
  .rename_i hc;split at hg
   .rename_i l hl;split at hg
    .rename_i x1 m1 h1;simp only[ah,aE]at hg;obtain⟨rfl,rfl⟩:=hg;simp only[uh]at hp;split at hp
     .rename_i cs hcs;simp only[ah]at hp;subst hp;simp only[cA]at a;split at a
      .rename_i cs' hcs';simp only[ah]at a;subst a;obtain⟨e1,e2⟩:=Li hl s;obtain⟨l1,l2,U,L,q3⟩:=DU d hr ps l _ _ [] cs y.cs cs' h1 hcs e1 hcs' Z;simp only[cO,ah]at L;subst L;rw[ii]at U;subst U;have hcell:∀x∈cs',x.isCell=J:=mm (sU hcs' (xT ps _ cs hcs));cases v with
       |agg q=>
        simp only[cA]at s;split at s
        .simp only[ah]at s;subst s;exact lZ.agg q3 hcell
        .cases s
       |f S z=>
        simp only[cA,ah]at s;subst s;have ho:S.one=af:=by simpa[TV.isC] using hc
        rw[A_]at q3;rw[rn S z ho];intro φ E w v hrep hrel;exact lZ.agg q3 hcell φ E w v hrep (Le.aggF _ _ _ _ hrel)
       |tup q=>simp[TV.cs,TV.isC]at hl
       |undef=>simp[TV.cs,TV.isC]at hl
       |np=>simp[TV.isC]at hc
       |anyb=>simp[TV.cs,TV.isC]at hl
       |fel T xs j hj off=>simp[TV.isC]at hc
       |pel id sz j off=>simp[TV.isC]at hc
       |ptr id off=>simp[TV.isC]at hc
       |csl id off z=>simp[TV.isC]at hc
       |row id=>simp[TV.isC]at hc
       |emp=>simp[TV.isC]at hc
       |nil=>simp[TV.isC]at hc
       |mp id=>simp[TV.isC]at hc
       |rtl id jj=>cases hl
       |clo g l=>simp[TV.isC]at hc
      .cases a
     .cases hp
    .cases hg
   .cases hg
 |ptr i q=>
  simp only[uh,ah]at hp;subst hp;simp only[yg]at hg;split at hg
  .rename_i h1;simp only[qb]at h1;split at h1
   .rename_i e;simp only[je]at e;obtain⟨rfl,_⟩:=e;split at h1
    .rename_i hb;simp only[al]at hb;have e1:=ar hb.1;have e2:=ar hb.2;subst e1;subst e2;simp only[cA,ah]at s a;subst s;subst a;exact lZ.refl d _
    .cases h1
   .cases h1
  .cases hg
 |csl i q z=>
  simp only[uh,ah]at hp;subst hp;simp only[yg]at hg;split at hg
  .rename_i h1;simp only[qb]at h1;split at h1
   .rename_i e;simp only[je]at e;obtain⟨rfl,_⟩:=e;split at h1
    .rename_i hb;simp only[al]at hb;have e1:=ar hb.1.1;have e2:=ar hb.1.2;have e3:=ar hb.2;subst e1;subst e2;subst e3;simp only[cA,ah]at s a;subst s;subst a;exact lZ.refl d _
    .cases h1
   .cases h1
  .cases hg
 |clo q i z=>
  simp only[uh,ah]at hp;subst hp;simp only[yg]at hg;split at hg
  .rename_i h1;simp only[qb]at h1;split at h1
   .rename_i e;simp only[je]at e;obtain⟨rfl,_⟩:=e;split at h1
    .rename_i hb;simp only[al]at hb;have e1:=ar hb.1.1;have e2:=ar hb.1.2;have e3:=ar hb.2;subst e1;subst e2;subst e3;simp only[cA,cO,ah]at s a;subst s;subst a;exact lZ.refl d _
    .cases h1
   .cases h1
  .cases hg
 |row i=>
  simp only[uh,ah]at hp;subst hp;simp only[yg]at hg;split at hg
  .rename_i h1;simp only[qb]at h1;split at h1
   .rename_i e;simp only[je]at e;obtain⟨rfl,_⟩:=e;split at h1
    .rename_i hb;have e1:=ar hb;subst e1;rw[RA hr s a];exact lZ.refl d _
    .cases h1
   .cases h1
  .cases hg
 |mp i=>
  simp only[uh,ah]at hp;subst hp;simp only[yg]at hg;split at hg
  .rename_i h1;simp only[qb]at h1;split at h1
   .rename_i e;simp only[je]at e;obtain⟨rfl,_⟩:=e;split at h1
    .rename_i hb;have e1:=ar hb;subst e1;simp only[cA,ah]at s a;subst s;subst a;exact lZ.refl d _
    .cases h1
   .cases h1
  .cases hg
 |nil=>
  simp only[uh,ah]at hp;subst hp;simp only[yg]at hg;split at hg
  .rename_i h1;simp only[qb]at h1;split at h1
   .rename_i e;simp only[je]at e;obtain⟨rfl,_⟩:=e;simp only[cA,ah]at s a;subst s;subst a;exact lZ.refl d _
   .cases h1
  .cases hg
 |emp=>
  simp only[uh,ah]at hp;subst hp;simp only[yg]at hg;split at hg
  .rename_i h1;simp only[qb]at h1;split at h1
   .rename_i e;simp only[je]at e;obtain⟨rfl,_⟩:=e;simp only[cA,ah]at s a;subst s;subst a;exact Le.nilEmp.toH d
   .rename_i e;simp only[je]at e;obtain⟨rfl,_⟩:=e;simp only[cA,ah]at s a;subst s;subst a;exact lZ.refl d _
   .cases h1
  .cases hg
theorem DS (d:vL H H') (hr:yF h' h):∀(ps:Y PV) (vs:Y TV) (x:(PV.tyL ps).den) (m:Nat) (us:Y TV) (l z:Y AV),yQ g h ps vs=M (x,m)->qL g ps x=M us->cO h vs=M l->cO h' us=M z->E0 h H H' m->ij H H' l z
 |[],[],x,m,us,l,z,hg,hp,hl,s,A=>by
  simp only[qL,ah]at hp;subst hp;simp only[cO,ah]at hl s;subst hl;subst s;trivial
 |[],_::_,x,m,us,l,z,hg,_,_,_,_=>by simp[yQ]at hg
 |_::_,[],x,m,us,l,z,hg,_,_,_,_=>by simp[yQ]at hg
 |p::ps,v::vs,x,m,us,l,z,hg,hp,hl,s,A=>by
  simp only[yQ]at hg;split at hg
  .rename_i x1 m1 h1;split at hg
   .rename_i x2 m2 h2;simp only[ah,aE]at hg;obtain⟨rfl,rfl⟩:=hg;simp only[qL,uq,vQ]at hp;split at hp
    .rename_i a U;split at hp
     .rename_i b hb;simp only[ah]at hp;subst hp;obtain⟨y,l2,rfl,e1,e2⟩:=dg hl;obtain⟨y',L,rfl,e3,e4⟩:=dg s;obtain⟨ga,Z⟩:=A.or;exact⟨aho d hr h1 U e1 e3 ga,DS d hr ps vs _ _ b l2 L h2 hb e2 e4 Z⟩
     .cases hp
    .cases hp
   .cases hg
  .cases hg
inductive BM (g:Nat->Nat) (h:bk) (m:Nat):iw->iw->Prop
 |rows (ty:TypeId) (p:Bool) (T:Ty) (xs:List T.den):BM g h m (.rows ty p T xs) (.rows ty p T xs)
 |mp (K V:Ty) (es:List (K.den×V.den)):BM g h m (.mp K V es) (.mp K V es)
 |cells (ty:Option TypeId) (ps:List PV) (x:(PV.tyL ps).den) (l l2:List TV) (m':Nat) (hg:Ac g h ps l=M (x,m',[])) (hp:rH g ps x=M l2) (hm:∀i,aN m' i=J->aN m i=J):BM g h m (.cells ty l) (.cells ty l2)
theorem BM.mono {m m2:Nat} (hm:∀i,aN m i=J->aN m2 i=J) {b c:iw} (h1:BM g h m b c):BM g h m2 b c:=by
 cases h1 with
 |rows ty p T xs=>exact .rows ty p T xs
 |mp K V es=>exact .mp K V es
 |cells ty ps x l l2 m' hg hp a=>exact .cells ty ps x l l2 m' hg hp λi hi=>hm i (a i hi)
theorem ahq {i:Nat} {b:PB} {x:b.ty.den} {m:Nat} {c:iw} (hg:FF g h i b=M (x,m)) (hp:Do g b x=M (M c)):∃b0,h.get (g i)=M b0/\BM g h m b0 c:=by
 cases b with
 |rows ty p T=>
  simp only[FF]at hg;split at hg
  .rename_i ty' A S xs hb;split at hg
   .rename_i hc;simp only[al,c7]at hc;obtain⟨rfl,rfl⟩:=hc;split at hg
    .rename_i z a;simp only[ah,aE]at hg;obtain⟨rfl,rfl⟩:=hg;obtain⟨e,rfl⟩:=iv a;cases e;simp only[Do,ah]at hp;subst hp;exact⟨_,hb,.rows _ _ _ _⟩
    .cases hg
   .cases hg
  .cases hg
 |rowsP ty T=>
  simp only[FF]at hg;split at hg
  .rename_i ty' A S xs hb;split at hg
   .rename_i hc;have hc:ty=ty':=by simpa using hc
    subst hc;split at hg
    .rename_i z a;simp only[ah,aE]at hg;obtain⟨rfl,rfl⟩:=hg;obtain⟨e,rfl⟩:=iv a;cases e;simp only[Do,ah]at hp;subst hp;exact⟨_,hb,.rows _ _ _ _⟩
    .cases hg
   .cases hg
  .cases hg
 |cells ty ps=>
  simp only[FF]at hg;split at hg
  .rename_i ty' l hb;split at hg
   .rename_i hc;have hc:ty=ty':=by simpa using hc
    subst hc;split at hg
    .rename_i z m1 a;simp only[ah,aE]at hg;obtain⟨rfl,rfl⟩:=hg;simp only[Do]at hp;split at hp
     .rename_i l2 s;simp only[ah]at hp;subst hp;exact⟨_,hb,.cells ty ps _ l l2 _ a s λ_ h=>h⟩
     .cases hp
    .cases hg
   .cases hg
  .cases hg
 |mp K V=>
  simp only[FF]at hg;split at hg
  .rename_i K' V' es hb;split at hg
   .rename_i z a;simp only[ah,aE]at hg;obtain⟨rfl,rfl⟩:=hg;obtain⟨e,rfl⟩:=iv a;cases e;simp only[Do,ah]at hp;subst hp;exact⟨_,hb,.mp _ _ _⟩
   .cases hg
  .cases hg
 |gone=>simp[Do]at hp
theorem Kf:∀(bs:Y PB) (i:Nat) (x:(PB.tyL bs).den) (m:Nat) (s:Y (I iw)),BF g h i bs=M (x,m)->o6 g bs x=M s->∀(k:Nat) c,s[k]? =M (M c)->∃b0,h.get (g (i+k))=M b0/\BM g h m b0 c
 |[],i,x,m,s,hg,hp,k,c,hk=>by
  simp only[o6,ah]at hp;subst hp;simp at hk
 |b::r,i,x,m,s,hg,hp,k,c,hk=>by
  simp only[BF]at hg;split at hg
  .rename_i L m1 h1;split at hg
   .rename_i A m2 h2;simp only[ah,aE]at hg;obtain⟨rfl,rfl⟩:=hg;simp only[o6,uq,vQ]at hp;split at hp
    .rename_i a z;split at hp
     .rename_i q hq;simp only[ah]at hp;subst hp;cases k with
      |zero=>
       simp at hk;subst hk;obtain⟨b0,e1,e2⟩:=ahq h1 z;exact⟨b0,e1,e2.mono λi hi=>by rw[bt,hi];rfl⟩
      |succ k=>
       obtain⟨b0,e1,e2⟩:=Kf r (i+1) _ _ q h2 hq k c (by simpa using hk);rw[show i+1+k=i+(k+1) from by omega]at e1;exact⟨b0,e1,e2.mono λi hi=>by rw[bt,hi];simp⟩
     .cases hp
    .cases hp
   .cases hg
  .cases hg
end get
theorem SH {σ:PT Nat} {i a:Nat} (h:σ.get i=M a):iu σ i=a:=by unfold iu;rw[h]
theorem XX {σ:PT Nat}:∀(n i acc sm:Nat),acd σ n i acc=M sm->
 (∀k,k<n->aN acc (iu σ (i+k))=af)/\(∀a b,a<n->b<n->iu σ (i+a)=iu σ (i+b)->a=b)/\∀q,aN sm q=J↔aN acc q=J\/∃k,k<n/\iu σ (i+k)=q
 |0,i,acc,sm,h=>by
  simp only[acd,ah]at h;subst h;exact⟨λk hk=>by omega,λa b z=>by omega,λq=>⟨.inl,λhq=>hq.elim id λ⟨k,hk,_⟩=>by omega⟩⟩
 |n+1,i,acc,sm,h=>by
  simp only[acd]at h;split at h
  .rename_i a z;split at h
   .cases h
   .rename_i hna;have hna:aN acc a=af:=by simpa using hna
    have hga:=SH z;obtain⟨h1,h2,A⟩:=XX n (i+1) (acc|||kN a) sm h;have hne:∀k,k<n->iu σ (i+1+k)≠a/\aN acc (iu σ (i+1+k))=af:=λk hk=>by
     have:=h1 k hk;rw[bt,Bool.or_eq_false_iff]at this;refine ⟨λe=>?_,this.1⟩;have s:=this.2;rw[e]at s;rw[bZ.2 rfl]at s;cases s
    refine ⟨λk hk=>?_,λx y U L hxy=>?_,λq=>?_⟩
    .cases k with
     |zero=>rw[dl,hga];exact hna
     |succ k=>rw[show i+(k+1)=i+1+k from by omega];exact (hne k (by omega)).2
    .cases x with
     |zero=>
      cases y with
      |zero=>rfl
      |succ y=>
       rw[dl,hga,show i+(y+1)=i+1+y from by omega]at hxy;exact ca hxy.symm (hne y (by omega)).1
     |succ x=>
      cases y with
      |zero=>
       rw[show i+0=i from rfl,hga,show i+(x+1)=i+1+x from by omega]at hxy;exact ca hxy (hne x (by omega)).1
      |succ y=>
       rw[show i+(x+1)=i+1+x from by omega,show i+(y+1)=i+1+y from by omega]at hxy;have:=h2 x y (by omega) (by omega) hxy;omega
    .rw[A,bt,jf];constructor
     .rintro ((hq|hq)|⟨k,hk,hq⟩)
      .exact .inl hq
      .exact .inr ⟨0,by omega,by rw[dl,hga];exact bZ.1 hq⟩
      .exact .inr ⟨k+1,by omega,by rw[show i+(k+1)=i+1+k from by omega];exact hq⟩
     .rintro (hq|⟨k,hk,hq⟩)
      .exact .inl (.inl hq)
      .cases k with
       |zero=>rw[dl,hga]at hq;exact .inl (.inr (bZ.2 hq))
       |succ k=>exact .inr ⟨k,by omega,by rw[show i+1+k=i+(k+1) from by omega];exact hq⟩
  .cases h
theorem S1 {σ:PT Nat}:∀(n:Nat),Yx σ n=J->∀i,i<n->iu σ i=i
 |0,_,i,hi=>by omega
 |n+1,h,i,hi=>by
  simp only[Yx,al]at h;by_cases e:i=n
  .subst e;cases s:σ.get i with
   |none=>rw[s]at h;exact ca h.1 (by simp)
   |some a=>rw[s]at h;rw[SH s];exact ar h.1
  .exact S1 n h.2 i (by omega)
structure I1 (np:Nat) (t:Tm) (vs:List TV) (h:bk) (z:t.ty.den) (m:Nat) (σ:PT Nat) (sm:Nat):Prop where
 ex:∃x m1 y m2,z=VD _ _ x y/\m=m1|||m2/\yQ (iu σ) h t.vs vs=M (x,m1)/\BF (iu σ) h 0 t.bs=M (y,m2)
 inj:∀a b,a<t.bs.length->b<t.bs.length->iu σ a=iu σ b->a=b
 sig:∀q,aN sm q=J↔∃k,k<t.bs.length/\iu σ k=q
 disj:∀i,aN m i=J->aN sm i=af
 fix:∀i,i<np->iu σ i=i
theorem xf {np:Nat} {t:Tm} {vs:Y TV} {h:bk} {z:t.ty.den} {m:Nat} {σ:PT Nat} {sm:Nat} (hm:Fj np t vs h=M ⟨z,m,σ,sm⟩):I1 np t vs h z m σ sm:=by
 unfold Fj at hm;rw[Qc]at hm;split at hm
 .rename_i sm' hs;split at hm
  .rename_i x m1 h1;split at hm
   .rename_i y m2 h2;split at hm
    .rename_i hc;simp only[al]at hc;simp only[ah,akw.mk.injEq]at hm;obtain⟨rfl,rfl,rfl,rfl⟩:=hm;obtain⟨A,s,a⟩:=XX _ _ _ _ hs;simp only[bJ]at A s a;exact⟨⟨x,m1,y,m2,rfl,rfl,h1,h2⟩,s,λq=>by rw[a];simp,λi hi=>yz hc.1 i hi,S1 np hc.2⟩
    .cases hm
   .cases hm
  .cases hm
 .cases hm
mutual
theorem Ad {g:Nat->Nat} {h:bk}:∀(p:PV) (l:Y TV) (x:p.ty.den) (m:Nat) (r:Y TV),qb g h p l=M (x,m,r)->dY h m
 |.d T,l,x,m,r,hg=>vR 40 T l x m r hg
 |.ptr i q,l,x,m,r,hg=>by
  simp only[qb]at hg;split at hg
  .split at hg
   .simp only[ah,aE]at hg;obtain⟨_,rfl,_⟩:=hg;exact dY.zero h
   .cases hg
  .cases hg
 |.csl i q z,l,x,m,r,hg=>by
  simp only[qb]at hg;split at hg
  .split at hg
   .simp only[ah,aE]at hg;obtain⟨_,rfl,_⟩:=hg;exact dY.zero h
   .cases hg
  .cases hg
 |.clo q i z,l,x,m,r,hg=>by
  simp only[qb]at hg;split at hg
  .split at hg
   .simp only[ah,aE]at hg;obtain⟨_,rfl,_⟩:=hg;exact dY.zero h
   .cases hg
  .cases hg
 |.row i,l,x,m,r,hg=>by
  simp only[qb]at hg;split at hg
  .split at hg
   .simp only[ah,aE]at hg;obtain⟨_,rfl,_⟩:=hg;exact dY.zero h
   .cases hg
  .cases hg
 |.mp i,l,x,m,r,hg=>by
  simp only[qb]at hg;split at hg
  .split at hg
   .simp only[ah,aE]at hg;obtain⟨_,rfl,_⟩:=hg;exact dY.zero h
   .cases hg
  .cases hg
 |.nil,l,x,m,r,hg=>by
  simp only[qb]at hg;split at hg
  .simp only[ah,aE]at hg;obtain⟨_,rfl,_⟩:=hg;exact dY.zero h
  .cases hg
 |.emp,l,x,m,r,hg=>by
  simp only[qb]at hg;split at hg
  .simp only[ah,aE]at hg;obtain⟨_,rfl,_⟩:=hg;exact dY.zero h
  .simp only[ah,aE]at hg;obtain⟨_,rfl,_⟩:=hg;exact dY.zero h
  .cases hg
 |.agg ps,l,x,m,r,hg=>IK ps l x m r hg
theorem IK {g:Nat->Nat} {h:bk}:∀(ps:Y PV) (l:Y TV) (x:(PV.tyL ps).den) (m:Nat) (r:Y TV),Ac g h ps l=M (x,m,r)->dY h m
 |[],l,x,m,r,hg=>by
  simp only[Ac,ah,aE]at hg;obtain⟨_,rfl,_⟩:=hg;exact dY.zero h
 |p::ps,l,x,m,r,hg=>by
  simp only[Ac]at hg;split at hg
  .rename_i x1 m1 r1 h1;split at hg
   .rename_i x2 m2 r2 h2;simp only[ah,aE]at hg;obtain⟨_,rfl,_⟩:=hg;exact (Ad p l x1 m1 r1 h1).or (IK ps r1 _ _ _ h2)
   .cases hg
  .cases hg
end
theorem alu {g:Nat->Nat} {h:bk} {p:PV} {v:TV} {x:p.ty.den} {m:Nat} (hg:yg g h p v=M (x,m)):dY h m:=by
 cases p with
 |d T=>exact YS hg
 |agg ps=>
  simp only[yg]at hg;split at hg
  .cases hg
  .split at hg
   .split at hg
    .rename_i a m1 h1;simp only[ah,aE]at hg;obtain⟨_,rfl⟩:=hg;exact IK ps _ _ _ _ h1
    .cases hg
   .cases hg
 |ptr i q=>
  simp only[yg]at hg;split at hg
  .rename_i h1;simp only[ah,aE]at hg;obtain⟨_,rfl⟩:=hg;exact Ad _ _ _ _ _ h1
  .cases hg
 |csl i q z=>
  simp only[yg]at hg;split at hg
  .rename_i h1;simp only[ah,aE]at hg;obtain⟨_,rfl⟩:=hg;exact Ad _ _ _ _ _ h1
  .cases hg
 |clo q i z=>
  simp only[yg]at hg;split at hg
  .rename_i h1;simp only[ah,aE]at hg;obtain⟨_,rfl⟩:=hg;exact Ad _ _ _ _ _ h1
  .cases hg
 |row i=>
  simp only[yg]at hg;split at hg
  .rename_i h1;simp only[ah,aE]at hg;obtain⟨_,rfl⟩:=hg;exact Ad _ _ _ _ _ h1
  .cases hg
 |mp i=>
  simp only[yg]at hg;split at hg
  .rename_i h1;simp only[ah,aE]at hg;obtain⟨_,rfl⟩:=hg;exact Ad _ _ _ _ _ h1
  .cases hg
 |nil=>
  simp only[yg]at hg;split at hg
  .rename_i h1;simp only[ah,aE]at hg;obtain⟨_,rfl⟩:=hg;exact Ad _ _ _ _ _ h1
  .cases hg
 |emp=>
  simp only[yg]at hg;split at hg
  .rename_i h1;simp only[ah,aE]at hg;obtain⟨_,rfl⟩:=hg;exact Ad _ _ _ _ _ h1
  .cases hg
theorem IJ {g:Nat->Nat} {h:bk}:∀(ps:Y PV) (vs:Y TV) (x:(PV.tyL ps).den) (m:Nat),yQ g h ps vs=M (x,m)->dY h m
 |[],[],x,m,hg=>by simp only[yQ,ah,aE]at hg;obtain⟨_,rfl⟩:=hg;exact dY.zero h
 |[],_::_,x,m,hg=>by simp[yQ]at hg
 |_::_,[],x,m,hg=>by simp[yQ]at hg
 |p::ps,v::vs,x,m,hg=>by
  simp only[yQ]at hg;split at hg
  .rename_i s m1 h1;split at hg
   .rename_i a m2 h2;simp only[ah,aE]at hg;obtain⟨_,rfl⟩:=hg;exact (alu h1).or (IJ ps vs a m2 h2)
   .cases hg
  .cases hg
theorem alv {g:Nat->Nat} {h:bk} {i:Nat} {b:PB} {x:b.ty.den} {m:Nat} (hg:FF g h i b=M (x,m)):dY h m:=by
 cases b with
 |rows ty p T=>
  simp only[FF]at hg;split at hg
  .split at hg
   .split at hg
    .simp only[ah,aE]at hg;obtain⟨_,rfl⟩:=hg;exact dY.zero h
    .cases hg
   .cases hg
  .cases hg
 |rowsP ty T=>
  simp only[FF]at hg;split at hg
  .split at hg
   .split at hg
    .simp only[ah,aE]at hg;obtain⟨_,rfl⟩:=hg;exact dY.zero h
    .cases hg
   .cases hg
  .cases hg
 |cells ty ps=>
  simp only[FF]at hg;split at hg
  .split at hg
   .split at hg
    .rename_i h1;simp only[ah,aE]at hg;obtain⟨_,rfl⟩:=hg;exact IK ps _ _ _ _ h1
    .cases hg
   .cases hg
  .cases hg
 |mp K V=>
  simp only[FF]at hg;split at hg
  .split at hg
   .simp only[ah,aE]at hg;obtain⟨_,rfl⟩:=hg;exact dY.zero h
   .cases hg
  .cases hg
 |gone=>simp only[FF,ah,aE]at hg;obtain⟨_,rfl⟩:=hg;exact dY.zero h
theorem IL {g:Nat->Nat} {h:bk}:∀(bs:Y PB) (i:Nat) (x:(PB.tyL bs).den) (m:Nat),BF g h i bs=M (x,m)->dY h m
 |[],i,x,m,hg=>by simp only[BF,ah,aE]at hg;obtain⟨_,rfl⟩:=hg;exact dY.zero h
 |b::r,i,x,m,hg=>by
  simp only[BF]at hg;split at hg
  .rename_i s m1 h1;split at hg
   .rename_i a m2 h2;simp only[ah,aE]at hg;obtain⟨_,rfl⟩:=hg;exact (alv h1).or (IL r (i+1) a m2 h2)
   .cases hg
  .cases hg
structure rB (t:Tm) (x:t.ty.den) (vs:List TV) (h1:bk) (l1:List (Option iw)):Prop where
 pv:qL IH t.vs (Qb _ _ x)=M vs
 pb:o6 IH t.bs (Mc _ _ x)=M l1
 len:l1.length=t.bs.length
 at_:∀i b,h1.get i=M b↔l1[i]? =M (M b)
 ok:lm h1 vs=J
 lt:sa t.bs.length vs=J
 cells:∀i ty l,h1.get i=M (.cells ty l)->lm h1 l=J/\sa t.bs.length l=J
theorem ad9 (l:Y (I iw)) (i:Nat) (b:iw):(Bl IH 0 l PT.leaf).get i=M b↔l[i]? =M (M b):=by
 by_cases hi:i<l.length
 .obtain⟨c,hc⟩:∃c,l[i]? =M c:=⟨l[i],ay hi⟩
  have:=vV IH l 0 PT.leaf (λa b _ _ e=>by simp only[IH]at e;omega) i c hc;rw[show IH (0+i)=i from by simp only[IH];omega]at this;rw[this,hc];cases c with
  |some b'=>simp
  |none=>simp[PT.get]
 .rw[vU IH l 0 PT.leaf i (λk hk=>by simp only[IH];omega),bG (by omega)];simp[PT.get]
theorem xl {t:Tm} {x:t.ty.den} {vs:Y TV} {h1:bk} (hi:DE t x=M (vs,h1)):∃l1,rB t x vs h1 l1:=by
 unfold DE at hi;split at hi
 .rename_i us hus;split at hi
  .rename_i h hh;split at hi
   .rename_i hc;simp only[al]at hc;simp only[ah,aE]at hi;obtain⟨rfl,rfl⟩:=hi;unfold ND at hh;split at hh
    .rename_i l1 a;simp only[ah]at hh;refine ⟨l1,hus,a,Dn _ _ _ _ a,λi b=>?_,hc.1.1,hc.1.2,λi ty l hil=>?_⟩
     .rw[<- hh];exact ad9 l1 i b
     .have:=PT.get_all _ h 1 0 i _ hc.2 hil;simpa only[al] using this
    .cases hh
   .cases hi
  .cases hi
 .cases hi
def X9 (nb:Nat) (n:Nat):Bool:=n%2==0&&gC (n/2) nb
theorem Ci {nb i:Nat}:X9 nb (nm i)=J↔i<nb:=by
 unfold X9 nm;rw[show 2*i%2=0 from by omega,show 2*i/2=i from by omega];simp only[c6,gG];exact⟨λh=>a_ h,λh=>bF h⟩
theorem acq {nb n:Nat} (h:X9 nb n=J):∃i,i<nb/\n=nm i:=by
 unfold X9 at h;simp only[al,c7]at h;exact⟨n/2,a_ h.2,by unfold nm;omega⟩
mutual
theorem alr {nb:Nat} {h:bk}:∀(v:TV) (y:AV),Mm nb v=J->cA h v=M y->y.all (X9 nb)=J
 |.f _ _,y,_,he=>by simp only[cA,ah]at he;subst he;rfl
 |.fel _ _ _ _ _,y,_,he=>by simp only[cA,ah]at he;subst he;rfl
 |.pel id _ _ _,y,hl,he=>by simp only[cA,ah]at he;subst he;exact Ci.2 (a_ hl)
 |.ptr id _,y,hl,he=>by simp only[cA,ah]at he;subst he;exact Ci.2 (a_ hl)
 |.csl id _ _,y,hl,he=>by simp only[cA,ah]at he;subst he;exact Ci.2 (a_ hl)
 |.row id,y,hl,he=>by
  simp only[cA]at he;split at he
  .simp only[ah]at he;subst he;unfold fP;split
   .rfl
   .exact Ci.2 (a_ hl)
  .cases he
 |.rtl id jj,y,hl,he=>by
  simp only[cA]at he;split at he
  .simp only[ah]at he;subst he;exact Ci.2 (a_ hl)
  .cases he
 |.emp,y,_,he=>by simp only[cA,ah]at he;subst he;rfl
 |.nil,y,_,he=>by simp only[cA,ah]at he;subst he;rfl
 |.mp id,y,hl,he=>by simp only[cA,ah]at he;subst he;exact Ci.2 (a_ hl)
 |.agg l,y,hl,he=>by
  simp only[cA]at he;split at he
  .rename_i l' hl';simp only[ah]at he;subst he;exact sK l l' hl hl'
  .cases he
 |.tup l,y,hl,he=>by
  simp only[cA]at he;split at he
  .rename_i l' hl';simp only[ah]at he;subst he;exact sK l l' hl hl'
  .cases he
 |.clo q l,y,hl,he=>by
  simp only[cA]at he;split at he
  .rename_i l' hl';simp only[ah]at he;subst he;exact sK l l' hl hl'
  .cases he
 |.undef,y,_,he=>by simp only[cA,ah]at he;subst he;rfl
 |.np,y,_,he=>by simp only[cA,ah]at he;subst he;rfl
 |.anyb,y,_,he=>by simp only[cA,ah]at he;subst he;rfl
theorem sK {nb:Nat} {h:bk}:∀(l:Y TV) (l':Y AV),sa nb l=J->cO h l=M l'->AV.allL (X9 nb) l'=J
 |[],l',_,he=>by simp only[cO,ah]at he;subst he;rfl
 |x::r,l',hl,he=>by
  obtain⟨y,l2,rfl,e1,e2⟩:=dg he;simp only[sa,al]at hl;simp only[AV.allL,al];exact⟨alr x y hl.1 e1,sK r l2 hl.2 e2⟩
end
theorem rB.blk_all {t:Tm} {x:t.ty.den} {vs:Y TV} {h1:bk} {l1:Y (I iw)} (z:rB t x vs h1 l1) {i:Nat} {b:iw} (hb:h1.get i=M b) {y:wK} (a:jN h1 b=M y):y.c.all (X9 t.bs.length)=J:=by
 cases b with
 |rows ty p T xs=>
  simp only[jN]at a;split at a
  .cases a
  .simp only[ah]at a;subst a;rfl
 |cells ty l=>
  cases ty with
  |some ty=>
   simp only[jN]at a;split at a
   .rename_i s hl;simp only[ah]at a;subst a;exact sK l s (z.cells i _ l hb).2 hl
   .cases a
  |none=>
   simp only[jN]at a;split at a
   .rename_i s hl;simp only[ah]at a;subst a;show AV.allL _ ((pi 0 s).map (·.2))=J;rw[NS];exact sK l s (z.cells i _ l hb).2 hl
   .cases a
 |dead p sz n=>cases a
 |mp K V es=>
  simp only[jN,ah]at a;subst a;show BC.all _ (mpC K V es)=J;unfold mpC;split
  .rfl
  .simp only[BC.all,Iv];have key:∀l:Y (K.den×V.den),AV.allL (X9 t.bs.length) (l.map ((λx=>x.2)∘λp=>(qx K p.1,AV.f (gJ V p.2))))=J:=λl=>by
    induction l with
    |nil=>rfl
    |cons e r A=>simp only[eY,AV.allL,al];exact⟨rfl,A⟩
   exact key es
theorem rB.lt_len {t:Tm} {x:t.ty.den} {vs:Y TV} {h1:bk} {l1:Y (I iw)} (y:rB t x vs h1 l1) {i:Nat} {b:iw} (hb:h1.get i=M b):i<t.bs.length:=by
 rw[<- y.len];exact (bn.1 ((y.at_ i b).1 hb)).1
def φ1 (nb:Nat) (g:Nat->Nat) (φ:PM):PM:=λn=>if X9 nb n then φ (IP g n) else D
theorem abu {nb:Nat} {g:Nat->Nat} {φ:PM} {i:Nat} (hi:i<nb):φ1 nb g φ (nm i)=φ (nm (g i)):=by
 unfold φ1;rw[aC (Ci.2 hi),yk]
theorem xP {nb:Nat} {g:Nat->Nat} {φ:PM} {n k:Nat} (h:φ1 nb g φ n=M k):∃i,i<nb/\n=nm i/\φ (nm (g i))=M k:=by
 unfold φ1 at h;split at h
 .rename_i hp;obtain⟨i,hi,rfl⟩:=acq hp;rw[yk]at h;exact⟨i,hi,rfl,h⟩
 .cases h
structure ait (t:Tm) (x:t.ty.den) (vs:List TV) (h1:bk) (g:Nat->Nat) (φ:PM) (E E':Nat->Prop) (Hv:HF) (w:World):Prop where
 rep:rK (φ1 t.bs.length g φ) E' (bz h1) w
 val:∀x v,x.all (X9 t.bs.length)=J->cS φ (tot E φ Hv) w (x.ren (IP g)) v->cS (φ1 t.bs.length g φ) (tot E' (φ1 t.bs.length g φ) (bz h1)) w x v
 own_:∀k,own (φ1 t.bs.length g φ) (bz h1) k->own φ Hv k
 tot_:∀k,tot E' (φ1 t.bs.length g φ) (bz h1) k->tot E φ Hv k
theorem rK.toId {t:Tm} {x:t.ty.den} {vs:Y TV} {h1:bk} {l1:Y (I iw)} (z:rB t x vs h1 l1) {g:Nat->Nat} (inj:∀a b,a<t.bs.length->b<t.bs.length->g a=g b->a=b) {φ:PM} {E E':Nat->Prop} {Hv:HF} {w:World} (r:rK φ E Hv w)
 (hat:∀i b y,h1.get i=M b->jN h1 b=M y->Hv (nm (g i))=M (y.ren (IP g)))
 (hE:∀k,E' k->tot E φ Hv k) (hne:∀i k b,i<t.bs.length->Hv (nm (g i))=M b->φ (nm (g i))=M k->¬E' k) (hel:∀k,E' k->k<w.heap.size):ait t x vs h1 g φ E E' Hv w:=by
 have own1:∀k,own (φ1 t.bs.length g φ) (bz h1) k->own φ Hv k:=by
  rintro k ⟨n,y,h2,h3⟩;obtain⟨i,hi,rfl,U⟩:=xP h3;obtain⟨j,b,e,L,s⟩:=jL h2;have:=lq e;subst this;exact⟨nm (g i),_,hat i b y L s,U⟩
 have tot1:∀k,tot E' (φ1 t.bs.length g φ) (bz h1) k->tot E φ Hv k:=λk hk=>hk.elim (hE k) λh=>.inr (own1 k h)
 have val:∀x v,x.all (X9 t.bs.length)=J->cS φ (tot E φ Hv) w (x.ren (IP g)) v->cS (φ1 t.bs.length g φ) (tot E' (φ1 t.bs.length g φ) (bz h1)) w x v:=λx v hx hr=>by
  have h2:cS (φ1 t.bs.length g φ) (tot E φ Hv) w x v:=cS.renFrom (λi k hp hk=>by unfold φ1;rw[aC hp];exact hk) hr x hx rfl;exact h2.ext (λ_ _ h=>h) (I2.refl _ w) λk _ hk=>tot1 k hk
 refine ⟨⟨λn n' b b' k Z g2 g3 g4=>?_,λn y Z=>?_,hel,λg' cells hg=>(r.gl g' cells hg).ext (I2.refl _ w) λk _ hk=>tot1 k hk⟩,val,own1,tot1⟩
 .obtain⟨i,hi,rfl,U⟩:=xP g3;obtain⟨j,hj,rfl,L⟩:=xP g4;obtain⟨i',c,e,s,A⟩:=jL Z;have:=lq e;subst this;obtain⟨j',c',e,h8,h9⟩:=jL g2;have:=lq e;subst this;have:=r.inj _ _ _ _ k (hat i c _ s A) (hat j c' _ h8 h9) U L;rw[inj i j hi hj (lq this)]
 .obtain⟨i,c,rfl,s,A⟩:=jL Z;have hi:=z.lt_len s;obtain⟨k,p1,p2,ob,p3,p4⟩:=r.at_ _ _ (hat i c y s A);exact⟨k,by rw[abu hi];exact p1,hne i k _ hi (hat i c y s A) p1,ob,p3,jm.renFrom val (z.blk_all s A) p4⟩
theorem BM.view {g:Nat->Nat} {h hv:bk} {H H':HF} {m:Nat} (d:vL H H') (L:E0 h H H' m) (hr:yF hv h) {b0 c:iw} (hb:BM g h m b0 c) {y s:wK} (e0:jN h b0=M y) (e1:jN hv c=M s):iQ H H' y s:=by
 cases hb with
 |rows ty p T xs=>
  simp only[jN]at e0 e1;rw[e0]at e1;cases e1;exact iQ.refl d y
 |mp K V es=>
  simp only[jN]at e0 e1;rw[e0]at e1;cases e1;exact iQ.refl d y
 |cells ty ps x l l2 m' hg hp hm=>
  have key:∀a cs',cO h l=M a->cO hv l2=M cs'->ij H H' a cs'/\∀x∈cs',x.isCell=J:=λa cs' hl hc=>by
   obtain⟨l1,U,A,z,q3⟩:=DU d hr ps l x m' [] l2 a cs' hg hp hl hc λi hi=>L i (hm i hi)
   simp only[cO,ah]at z;subst z;rw[ii]at A;subst A;exact⟨q3,mm (sU hc (xT ps x l2 hp))⟩
  cases ty with
  |some ty=>
   simp only[jN]at e0 e1;split at e0
   .rename_i a hl;simp only[ah]at e0;subst e0;split at e1
    .rename_i cs' hc;simp only[ah]at e1;subst e1;exact iQ.cells rfl rfl (key _ _ hl hc).1 (key _ _ hl hc).2
    .cases e1
   .cases e0
  |none=>
   simp only[jN]at e0 e1;split at e0
   .rename_i a hl;simp only[ah]at e0;subst e0;split at e1
    .rename_i cs' hc;simp only[ah]at e1;subst e1;exact iQ.told (key _ _ hl hc).1
    .cases e1
   .cases e0
theorem BM.erB_some {g:Nat->Nat} {h hv:bk} {nx m:Nat} (hinv:mE h nx) {i:Nat} {b0 c:iw} (h0:h.get i=M b0) (hb:BM g h m b0 c) {a:wK} (e1:jN hv c=M a):∃y,jN h b0=M y:=by
 cases hb with
 |rows ty p T xs=>exact⟨a,e1⟩
 |mp K V es=>exact⟨a,e1⟩
 |cells ty ps x l l2 m' hg hp hm=>
  obtain⟨s,hl⟩:=fx h l (hinv.cells i _ l h0);cases ty<;>exact⟨_,by simp only[jN,hl];rfl⟩
theorem BM.row {g:Nat->Nat} {h:bk} {m:Nat} {b0 c:iw} (hb:BM g h m b0 c):nk c=nk b0:=by
 cases hb<;>rfl
structure qC (P:Program) (f:FuncId) (c:co):Prop where
 callable:EU P f
 calls:∀x y,c.m x=M y->∀vs hp l1 rs hq l2 la lr,rB c.pre x vs hp l1->rB c.post y rs hq l2->cO hp vs=M la->cO hq rs=M lr->
  ∀(φ:PM) (E:Nat->Prop) (w:World) (us:ξ),rK φ E (bz hp) w->kq φ (tot E φ (bz hp)) w la us->(∀n k,φ n=M k->ow n<c.pre.bs.length)->
  Calls P f us.toArray w λen w'=>∃v φ',en= .returned v/\I2 (own φ (bz hp)) w w'/\(∀k,k<w.heap.size->own φ' (bz hq) k->own φ (bz hp) k)/\(∀i,i<c.pre.bs.length->φ' (nm i)=φ (nm i))/\rK φ' E (bz hq) w'/\cS φ' (tot E φ' (bz hq)) w' (E4 lr) v
theorem NI {g:Nat->Nat}:∀(bs:Y PB) (x:(PB.tyL bs).den) (l:Y (I iw)),Cq bs=J->o6 g bs x=M l->∀(i:Nat) (c:I iw),l[i]? =M c->∃b,c=M b
 |[],x,l,_,hp,i,c,hc=>by simp only[o6,ah]at hp;subst hp;simp at hc
 |b::r,x,l,hn,hp,i,c,hc=>by
  simp only[o6]at hp;split at hp
  .rename_i a s;split at hp
   .rename_i q hq;simp only[ah]at hp;subst hp;cases i with
    |zero=>
     simp at hc;subst hc;cases b with
     |gone=>simp[Cq]at hn
     |rows ty p T=>simp only[Do,ah]at s;exact⟨_,s.symm⟩
     |rowsP ty T=>simp only[Do,ah]at s;exact⟨_,s.symm⟩
     |cells ty ps=>
      simp only[Do]at s;split at s
      .simp only[ah]at s;exact⟨_,s.symm⟩
      .cases s
     |mp K V=>simp only[Do,ah]at s;exact⟨_,s.symm⟩
    |succ i=>
     refine NI r _ q ?_ hq i c (by simpa using hc);cases b<;>first|exact hn|simp[Cq]at hn
   .cases hp
  .cases hp
theorem Gm {h h2:bk} {g:Nat->Nat}:∀n,uG h h2 g n=J->∀i,i<n->∀r,eM h (g i)=M r->eM h2 (g i)=M r
 |0,_,i,hi,_,_=>by omega
 |n+1,hs,i,hi,r,hr=>by
  simp only[uG,al]at hs;by_cases e:i=n
  .subst e;obtain⟨p,s,k⟩:=r;have h1:=hs.1;rw[hr]at h1;cases a:eM h2 (g i) with
   |none=>rw[a]at h1;cases h1
   |some q=>
    obtain⟨z,s',k'⟩:=q;rw[a]at h1;simp only[al,c7]at h1;rw[h1.1.1,ar h1.1.2,ar h1.2]
  .exact Gm n hs.2 i (by omega) r hr
theorem kq.le {H H':HF} {φ:PM} {E:Nat->Prop} {w:World} (r:rK φ E H w):∀{l a:Y AV} {us:ξ},ij H H' l a->kq φ (tot E φ H) w l us->kq φ (tot E φ H') w a us
 |[],[],[],_,_=>trivial
 |[],[],_::_,_,h=>h.elim
 |_::_,_::_,[],_,h=>h.elim
 |[],_::_,_,h,_=>h.elim
 |_::_,[],_,h,_=>h.elim
 |_::_,_::_,_::_,hl,h=>⟨hl.1 _ _ _ _ r h.1,kq.le r hl.2 h.2⟩
theorem kq.toId {φ φ':PM} {O O':Nat->Prop} {w:World} {γ:Nat->Nat} {p:Nat->Bool} (hv:∀x v,x.all p=J->cS φ O w (x.ren γ) v->cS φ' O' w x v):∀{l:Y AV} {us:ξ},AV.allL p l=J->kq φ O w (AV.renL γ l) us->kq φ' O' w l us
 |[],[],_,_=>trivial
 |[],_::_,_,h=>h.elim
 |_::_,[],_,h=>h.elim
 |_::_,_::_,hp,h=>by
  simp only[AV.allL,al]at hp;exact⟨hv _ _ hp.1 h.1,kq.toId hv hp.2 h.2⟩
theorem X4 {h:bk}:∀{rs:Y TV} {lr:Y AV},cO h rs=M lr->cA h (RB rs)=M (E4 lr)
 |[],lr,he=>by simp only[cO,ah]at he;subst he;rfl
 |[x],lr,he=>by
  obtain⟨y,l2,rfl,e1,e2⟩:=dg he;simp only[cO,ah]at e2;subst e2;exact e1
 |x::y::r,lr,he=>by
  obtain⟨s,l2,rfl,e1,e2⟩:=dg he;obtain⟨a,z,rfl,e3,A⟩:=dg e2;simp only[RB,cA,he,E4]
theorem ac4 (γ:Nat->Nat):∀l:Y AV,E4 (AV.renL γ l)=(E4 l).ren γ
 |[]=>rfl
 |[x]=>rfl
 |x::y::r=>rfl
theorem ac5 {p:Nat->Bool}:∀{l:Y AV},AV.allL p l=J->(E4 l).all p=J
 |[],_=>rfl
 |[x],h=>by simp only[AV.allL,al]at h;exact h.1
 |x::y::r,h=>h
theorem ah8 {nx a q:Nat}:aN (((1<<<a)-1)<<<nx) q=J↔nx<=q/\q<nx+a:=by
 rw[Nat.testBit_shiftLeft,Nat.one_shiftLeft,Nat.testBit_two_pow_sub_one];simp only[al,ba];omega
theorem aep {P:Program} {o:Oper} {e:i_} {h:bk} {nx:Nat} {f:FuncId} {c:co} {l:Y TV} (hinv:mE h nx) (sp:qC P f c) {x:c.pre.ty.den} {m:Nat} {σ:PT Nat} {sm:Nat} (A:I1 0 c.pre l h x m σ sm) {vs:Y TV} {hp:bk} {l1:Y (I iw)} (B:rB c.pre x vs hp l1) (hng:Cq c.pre.bs=J) {y:c.post.ty.den} (hm:c.m x=M y) {rs:Y TV} {hq:bk} {l2:Y (I iw)} (H:rB c.post y rs hq l2) (hle:c.pre.bs.length<=c.post.bs.length)
 {g:Nat->Nat} (glo:∀i,i<c.pre.bs.length->g i=iu σ i) (ghi:∀i,c.pre.bs.length<=i->g i=nx+(i-c.pre.bs.length)) {h2:bk} (hh2:h2=Bl g 0 (l2.map (mo (mb g))) (eK m h)) (hsr:uG h h2 g c.pre.bs.length=J) {la:Y AV} (hla:cO h l=M la)
 (hexec:∀(φ:PM) (E:Nat->Prop) (h':HF) (w:World) (a:Act),(∀t,.tmp t∈o.op.operands->∀y,fX e h t=M y->cS φ (tot E φ h') w y (a.tmps.getD t undef))->rK φ E h' w->∃us:ξ,(execOp a.eval o).run P w= .ok (.enter f us.toArray) w/\kq φ (tot E φ h') w la us):
 iZ P o af e h nx (RB (kW g rs)) (sm|||m) (sm|||m|||(((1<<<(c.post.bs.length-c.pre.bs.length))-1)<<<nx)) h2 (nx+(c.post.bs.length-c.pre.bs.length)):=by
 obtain⟨x1,m1,x2,m2,hx,hmm,gv,gb⟩:=A.ex;have hmr:dY h m:=by rw[hmm];exact (IJ _ _ _ _ gv).or (IL _ _ _ _ gb)
 generalize hnp:c.pre.bs.length=np at*
 generalize hnq:c.post.bs.length=nq at*
 have pvg:qL (iu σ) c.pre.vs x1=M (kW (iu σ) vs):=by
  have L:=ux (iu σ) c.pre.vs x1;have h4:=B.pv;rw[hx,uq]at h4;rw[L,h4];rfl
 have pbg:o6 (iu σ) c.pre.bs x2=M (l1.map (mo (mb (iu σ)))):=by
  have L:=wV (iu σ) c.pre.bs x2;have h4:=B.pb;rw[hx,vQ]at h4;rw[L,h4];rfl
 have hl1:∀i,i<np->∃b,l1[i]? =M (M b):=λi hi=>by
  have hi':i<l1.length:=by rw[B.len,hnp];exact hi
  obtain⟨b,hb⟩:=NI c.pre.bs _ l1 hng B.pb i l1[i] (ay hi');exact⟨b,by rw[ay hi',hb]⟩
 have hbm:∀i b,l1[i]? =M (M b)->∃b0,h.get (iu σ i)=M b0/\BM (iu σ) h m b0 (mb (iu σ) b):=λi b hb=>by
  obtain⟨b0,s,U⟩:=Kf c.pre.bs 0 x2 m2 _ gb pbg i (mb (iu σ) b) (by rw[bc,hb];rfl);rw[bJ]at s;exact⟨b0,s,U.mono λj hj=>by rw[hmm,bt,hj];simp⟩
 have inj1:∀a b,a<np->b<np->iu σ a=iu σ b->a=b:=λa b ha hb=>A.inj a b (by rw[hnp];exact ha) (by rw[hnp];exact hb)
 have sig:∀q,aN sm q=J↔∃k,k<np/\iu σ k=q:=λq=>by rw[A.sig,hnp]
 have gnx:∀i,i<np->iu σ i<nx:=λi hi=>by
  obtain⟨b,hb⟩:=hl1 i hi;obtain⟨b0,s,_⟩:=hbm i b hb;exact hinv.low _ _ s
 have hmS:∀i,i<np->aN m (iu σ i)=af:=λi hi=>by
  cases hx:aN m (iu σ i) with
  |false=>rfl
  |true=>have:=A.disj _ hx;rw[(sig _).2 ⟨i,hi,rfl⟩]at this;cases this
 have injg:∀a b,a<nq->b<nq->g a=g b->a=b:=λa b ha hb hab=>by
  by_cases h1:a<np
  .by_cases h2:b<np
   .rw[glo a h1,glo b h2]at hab;exact inj1 a b h1 h2 hab
   .rw[glo a h1,ghi b (by omega)]at hab;have:=gnx a h1;omega
  .by_cases h2:b<np
   .rw[ghi a (by omega),glo b h2]at hab;have:=gnx b h2;omega
   .rw[ghi a (by omega),ghi b (by omega)]at hab;omega
 let hv:bk:=Bl (iu σ) 0 (l1.map (mo (mb (iu σ)))) (eK m h)
 have hv_at:∀i b,l1[i]? =M (M b)->hv.get (iu σ i)=M (mb (iu σ) b):=λi b hb=>by
  have:=vV (iu σ) (l1.map (mo (mb (iu σ)))) 0 (eK m h) (λa b ha hb=>by
   simp only[bw,B.len,hnp]at ha hb;simp only[bJ];exact inj1 a b ha hb) i (M (mb (iu σ) b)) (by rw[bc,hb];rfl)
  rw[bJ]at this;exact this
 have hv_ne:∀j,(∀i,i<np->j≠iu σ i)->hv.get j=(eK m h).get j:=λj hj=>
  vU (iu σ) _ 0 _ j λk hk=>by
   simp only[bw,B.len,hnp]at hk;rw[bJ];exact hj k hk
 have rows_in:yF hv h:=λj r hr=>by
  rw[bT]at hr ⊢;by_cases hj:∃i,i<np/\j=iu σ i
  .obtain⟨i,hi,rfl⟩:=hj;obtain⟨b,hb⟩:=hl1 i hi;obtain⟨b0,s,U⟩:=hbm i b hb;rw[hv_at i b hb]at hr;rw[s];simp only[aG]at hr ⊢;rw[<- U.row];exact hr
  .rw[hv_ne j (λi hi e=>hj ⟨i,hi,e⟩),jk]at hr;split at hr
   .rename_i ht;obtain⟨ty,p,T,xs,hb⟩:=hmr j ht;rw[hb]at hr ⊢;exact hr
   .exact hr
 have rows_hp:∀i r,eM hp i=M r->eM hv (iu σ i)=M r:=λi r hr=>by
  rw[bT]at hr ⊢;cases hb:hp.get i with
  |none=>rw[hb]at hr;cases hr
  |some b=>
   rw[hb]at hr;rw[hv_at i b ((B.at_ i b).1 hb)];simp only[aG,Jf]at hr ⊢;exact hr
 have dead_m:∀i,aN m i=J->bz hv (nm i)=D:=λi hi=>by
  rw[bH,hv_ne i (λk hk e=>by rw[e,hmS k hk]at hi;cases hi)];obtain⟨p,sz,n,hd⟩:=uD hmr hi;rw[hd];rfl
 have h2_at:∀i cc,l2[i]? =M cc->h2.get (g i)=(match cc with|some b=>M (mb g b)|none=>((eK m h).get (g i)).map vW):=λi cc hc=>by
  have:=vV g (l2.map (mo (mb g))) 0 (eK m h) (λa b ha hb=>by
   simp only[bw,H.len,hnq]at ha hb;simp only[bJ];exact injg a b ha hb) i (cc.map (mb g)) (by rw[bc,hc];rfl)
  rw[bJ]at this;rw[hh2,this];cases cc<;>rfl
 have h2_ne:∀j,(∀i,i<nq->j≠g i)->h2.get j=(eK m h).get j:=λj hj=>by
  rw[hh2];refine vU g _ 0 _ j λk hk=>?_
  simp only[bw,H.len,hnq]at hk;rw[bJ];exact hj k hk
 have rows_hq:∀i r,eM hq i=M r->eM h2 (g i)=M r:=λi r hr=>by
  rw[bT]at hr ⊢;cases hb:hq.get i with
  |none=>rw[hb]at hr;cases hr
  |some b=>
   rw[hb]at hr;rw[h2_at i _ ((H.at_ i b).1 hb)];simp only[aG,Jf]at hr ⊢;exact hr
 have rows2:ch h h2:=λj r hr=>by
  by_cases hj:∃i,i<np/\j=iu σ i
  .obtain⟨i,hi,rfl⟩:=hj;rw[<- glo i hi]at hr ⊢;exact Gm np hsr i hi r hr
  .have hjn:j<nx:=by
    rw[bT]at hr;cases hb:h.get j with
    |none=>rw[hb]at hr;cases hr
    |some b=>exact hinv.low j b hb
   have:=ch.kill m h j r hr;rw[bT]at this ⊢;rw[h2_ne j (λi hi e=>?_)]
   .exact this
   .by_cases hip:i<np
    .exact hj ⟨i,hip,by rw[e,glo i hip]⟩
    .rw[ghi i (by omega)]at e;omega
 obtain⟨lr,hlr⟩:=fx hq rs H.ok;obtain⟨lp,hlp⟩:=fx hp vs B.ok;have er2:∀i b yb,hq.get i=M b->jN hq b=M yb->bz h2 (nm (g i))=M (yb.ren (IP g)):=λi b yb hb hyb=>by
  rw[bH,h2_at i _ ((H.at_ i b).1 hb)];exact DY rows_hq hyb
 have er2':∀i,i<nq->∀z,bz h2 (nm (g i))=M z->∃b yb,hq.get i=M b/\jN hq b=M yb/\z=yb.ren (IP g):=λi hi z Z=>by
  have hi':i<l2.length:=by rw[H.len,hnq];exact hi
  have hcc:=ay hi';cases hcv:l2[i] with
  |none=>
   rw[hcv]at hcc;rw[bH,h2_at i D hcc]at Z;simp only at Z;cases hkg:(eK m h).get (g i) with
   |none=>rw[hkg]at Z;cases Z
   |some b0=>rw[hkg]at Z;cases b0<;>simp[vW,jN]at Z
  |some b=>
   rw[hcv]at hcc;have hb:=(H.at_ i b).2 hcc;rw[bH,h2_at i (M b) hcc]at Z;have hyb:∃yb,jN hq b=M yb:=by
    cases b with
    |rows ty p T xs=>simp only[aG,mb,jN]at Z ⊢;exact⟨z,Z⟩
    |cells ty q=>
     obtain⟨q',hq'⟩:=fx hq q (H.cells i _ q hb).1;cases ty<;>exact⟨_,by simp only[jN,hq'];rfl⟩
    |dead p sz n=>simp[mb,jN]at Z
    |mp K V es=>exact⟨_,rfl⟩
   obtain⟨yb,hyb⟩:=hyb;have:=DY rows_hq hyb;simp only[aG]at Z;rw[this]at Z;exact⟨b,yb,hb,hyb,by cases Z;rfl⟩
 have dead2:∀i,aN m i=J->bz h2 (nm i)=D:=λi hi=>by
  have hlt:=hmr.lt hinv hi;rw[bH,h2_ne i (λk hk e=>?_)]
  .obtain⟨p,sz,n,hd⟩:=uD hmr hi;rw[hd];rfl
  .by_cases hkp:k<np
   .rw[e,glo k hkp,hmS k hkp]at hi;cases hi
   .rw[ghi k (by omega)]at e;omega
 have inv2:mE h2 (nx+(nq-np)):=by
  refine ⟨λj ty q hj=>?_,λj b hj=>?_⟩
  .by_cases hjg:∃i,i<nq/\j=g i
   .obtain⟨i,hi,rfl⟩:=hjg;have hi':i<l2.length:=by rw[H.len,hnq];exact hi
    have hcc:=ay hi';cases hcv:l2[i] with
    |none=>
     rw[hcv]at hcc;rw[h2_at i D hcc]at hj;simp only at hj;cases hkg:(eK m h).get (g i) with
     |none=>rw[hkg]at hj;cases hj
     |some b0=>rw[hkg]at hj;cases b0<;>simp[vW]at hj
    |some b=>
     rw[hcv]at hcc;have hb:=(H.at_ i b).2 hcc;rw[h2_at i (M b) hcc]at hj;simp only[ah]at hj;cases b with
     |cells ty' q'=>
      simp only[mb,iw.cells.injEq]at hj;obtain⟨_,rfl⟩:=hj;obtain⟨z,Z⟩:=fx hq q' (H.cells i _ q' hb).1;exact kg _ _ _ (pD rows_hq q' z Z)
     |rows _ _ _ _=>simp[mb]at hj
     |dead _ _ _=>simp[mb]at hj
     |mp _ _ _=>simp[mb]at hj
   .rw[h2_ne j (λi hi e=>hjg ⟨i,hi,e⟩)]at hj;refine jg rows2 q ?_;have hkk:=(hinv.kill m).cells j _ q hj;rw[jk]at hj;split at hj
    .rename_i ht;obtain⟨_,_,_,_,hb⟩:=hmr j ht;rw[hb]at hj;cases hj
    .exact hinv.cells j _ q hj
  .by_cases hjg:∃i,i<nq/\j=g i
   .obtain⟨i,hi,rfl⟩:=hjg;by_cases hip:i<np
    .rw[glo i hip];have:=gnx i hip;omega
    .rw[ghi i (by omega)];omega
   .rw[h2_ne j (λi hi e=>hjg ⟨i,hi,e⟩)]at hj;have:=(hinv.kill m).low j b hj;omega
 let S:ι:=(bS np).map λi=>nm (iu σ i)
 have memS:∀n,n∈S↔∃i,i<np/\n=nm (iu σ i):=λn=>by
  simp only[S,dt,lK];exact⟨λ⟨i,h1,h2⟩=>⟨i,h1,h2.symm⟩,λ⟨i,h1,h2⟩=>⟨i,h1,h2.symm⟩⟩
 let NN:ι:=(bS (nq-np)).map λt=>nm (nx+t)
 have memN:∀n,n∈NN↔∃t,t<nq-np/\n=nm (nx+t):=λn=>by
  simp only[NN,dt,lK];exact⟨λ⟨i,h1,h2⟩=>⟨i,h1,h2.symm⟩,λ⟨i,h1,h2⟩=>⟨i,h1,h2.symm⟩⟩
 have memW:∀n,n∈S++Gu m++NN↔(∃i,i<nq/\n=nm (g i))\/n∈Gu m:=λn=>by
  rw[bP,bP,memS,memN];constructor
  .rintro ((⟨i,hi,rfl⟩|hn)|⟨t,ht,rfl⟩)
   .exact .inl ⟨i,by omega,by rw[glo i hi]⟩
   .exact .inr hn
   .exact .inl ⟨np+t,by omega,by rw[ghi _ (by omega),show np+t-np=t from by omega]⟩
  .rintro (⟨i,hi,rfl⟩|hn)
   .by_cases hip:i<np
    .exact .inl (.inl ⟨i,hip,by rw[glo i hip]⟩)
    .exact .inr ⟨i-np,by omega,by rw[ghi i (by omega)]⟩
   .exact .inl (.inr hn)
 have hOpT:gW P o (fX e h) (bz h) ⟨E4 (AV.renL (IP g) lr),S++Gu m,S++Gu m++NN,bz h2,NN⟩:=by
  intro φ E h' w a hrd hwr hops hrep hN;have hS':∀i,i<np->h' (nm (iu σ i))=bz h (nm (iu σ i)):=λi hi=>hrd _ (lM _ ((memS _).2 ⟨i,hi,rfl⟩))
  have hM':∀i,aN m i=J->h' (nm i)=bz h (nm i):=λi hi=>hrd _ (oh _ (me.2 hi))
  obtain⟨us,hrun,hrel⟩:=hexec φ E h' w a hops hrep
  let Hv:HF:=λn=>if n∈S++Gu m then bz hv n else h' n
  have Hv_in:∀n,n∈S++Gu m->Hv n=bz hv n:=λn hn=>by simp only[Hv,hn,bI]
  have Hv_out:∀n,n∉S++Gu m->Hv n=h' n:=λn hn=>by simp only[Hv,hn,eh]
  have blkS:∀i,i<np->∀z,bz hv (nm (iu σ i))=M z->∃b0 b y0,h.get (iu σ i)=M b0/\l1[i]? =M (M b)/\BM (iu σ) h m b0 (mb (iu σ) b)/\jN h b0=M y0/\jN hv (mb (iu σ) b)=M z:=λi hi z Z=>by
   obtain⟨b,hb⟩:=hl1 i hi;obtain⟨b0,s,U⟩:=hbm i b hb;rw[bH,hv_at i b hb]at Z;simp only[aG]at Z;obtain⟨y0,hy0⟩:=BM.erB_some hinv s U Z;exact⟨b0,b,y0,s,hb,U,hy0,Z⟩
  have hd:vL h' Hv:=λn b hb=>by
   by_cases hn:n∈S++Gu m
   .rw[Hv_in n hn]at hb;rcases bP.1 hn with hs|hs
    .obtain⟨i,hi,rfl⟩:=(memS n).1 hs;obtain⟨b0,b1,y0,s,U,q3,q4,q5⟩:=blkS i hi b hb;exact⟨y0,by rw[hS' i hi,bH,s];exact q4⟩
    .obtain⟨i,rfl,hi⟩:=oA.1 hs;rw[dead_m i hi]at hb;cases hb
   .rw[Hv_out n hn]at hb;exact⟨b,hb⟩
  have gvv:E0 h h' Hv m:=λi hi=>⟨hM' i hi,by rw[Hv_in _ (oh _ (me.2 hi)),dead_m i hi]⟩
  have V:Ii h' Hv:=⟨hd,λn b b' hb hb'=>by
   by_cases hn:n∈S++Gu m
   .rw[Hv_in n hn]at hb';rcases bP.1 hn with hs|hs
    .obtain⟨i,hi,rfl⟩:=(memS n).1 hs;obtain⟨b0,b1,y0,s,U,q3,q4,q5⟩:=blkS i hi b' hb';rw[hS' i hi,bH,s]at hb;simp only[aG]at hb;exact BM.view hd gvv rows_in q3 hb q5
    .obtain⟨i,rfl,hi⟩:=oA.1 hs;rw[dead_m i hi]at hb';cases hb'
   .rw[Hv_out n hn,hb]at hb';cases hb';exact iQ.refl hd b⟩
  have hrepv:=V.rep hrep;have hlpg:cO hv (kW (iu σ) vs)=M (AV.renL (IP (iu σ)) lp):=pD rows_hp vs lp hlp;have hrel1:kq φ (tot E φ Hv) w (AV.renL (IP (iu σ)) lp) us:=
   kq.le hrep (DS hd rows_in c.pre.vs l x1 m1 _ la _ gv pvg hla hlpg (λi hi=>gvv i (by rw[hmm,bt,hi];rfl))) hrel
  let E':Nat->Prop:=λk=>E k\/∃n b,Hv n=M b/\n∉S/\φ n=M k
  have T:ait c.pre x vs hp (iu σ) φ E E' Hv w:=by
   refine rK.toId B (λa b ha hb=>inj1 a b (by rw[<- hnp];exact ha) (by rw[<- hnp];exact hb)) hrepv (λi b yb hb hyb=>?_) ?_ ?_ ?_
   .have hi:=B.lt_len hb;rw[hnp]at hi;rw[Hv_in _ (lM _ ((memS _).2 ⟨i,hi,rfl⟩)),bH,hv_at i b ((B.at_ i b).1 hb)];exact DY rows_hp hyb
   .rintro k (hE|⟨n,b,h1,_,L⟩)
    .exact .inl hE
    .exact .inr ⟨n,b,h1,L⟩
   .rintro i k b hi h1 L (hE|⟨n,b',h4,h5,h6⟩)
    .obtain⟨k',p1,p2,_⟩:=hrepv.at_ _ _ h1;rw[L]at p1;cases p1;exact p2 hE
    .have:=hrepv.inj _ _ _ _ k h1 h4 L h6;exact h5 (by rw[<- this];exact (memS _).2 ⟨i,by rw[<- hnp];exact hi,rfl⟩)
   .rintro k (hE|⟨n,b,h1,_,L⟩)
    .exact hrepv.el k hE
    .obtain⟨k',s,_,ob,q3,_⟩:=hrepv.at_ n b h1;rw[L]at s;cases s;exact (cI.1 q3).1
  have hcalls:=sp.calls x y hm vs hp l1 rs hq l2 lp lr B H hlp hlr (φ1 c.pre.bs.length (iu σ) φ) E' w us T.rep (kq.toId T.val (sK vs lp B.lt hlp) hrel1) (λn k hk=>by
   obtain⟨i,hi,rfl,_⟩:=xP hk;rw[ef];exact hi)
  unfold Is;rw[hrun];refine Calls.mono hcalls ?_;rintro en w' ⟨v,φc',rfl,hext,hown,hnm,rp,rv'⟩
  let isN:Nat->Prop:=λn=>n∈NN
  let φ':PM:=λn=>if n∈NN then φc' (nm (np+(ow n-nx))) else φ n
  have φ'_new:∀t,t<nq-np->φ' (nm (nx+t))=φc' (nm (np+t)):=λt ht=>by
   have:nm (nx+t)∈NN:=(memN _).2 ⟨t,ht,rfl⟩;simp only[φ',this,bI,ef];rw[show nx+t-nx=t from by omega]
  have φ'_old:∀n,n∉NN->φ' n=φ n:=λn hn=>by simp only[φ',hn,eh]
  have loN:∀i,i<nx->nm i∉NN:=λi hi hn=>by
   obtain⟨t,_,e⟩:=(memN _).1 hn;have:=lq e;omega
  have φ'_g:∀i,i<nq->φ' (nm (g i))=φc' (nm i):=λi hi=>by
   by_cases hip:i<np
   .rw[glo i hip,φ'_old _ (loN _ (gnx i hip)),hnm i (by rw[hnp];exact hip),abu (by rw[hnp];exact hip)]
   .rw[ghi i (by omega),φ'_new _ (by omega),show np+(i-np)=i from by omega]
  have hsub:∀n k,φ n=M k->φ' n=M k:=λn k hk=>by
   by_cases hn:n∈NN
   .rw[hN n hn]at hk;cases hk
   .rw[φ'_old n hn];exact hk
  let F:HF:=fc h' (S++Gu m++NN) (bz h2)
  have F_g:∀i,i<nq->F (nm (g i))=bz h2 (nm (g i)):=λi hi=>by
   simp only[F,fc,(memW _).2 (.inl ⟨i,hi,rfl⟩),bI]
  have F_out:∀n,n∉S++Gu m++NN->F n=h' n:=λn hn=>by simp only[F,fc,hn,eh]
  have from_:∀n b,F n=M b->(∃i bq yb,i<nq/\n=nm (g i)/\hq.get i=M bq/\jN hq bq=M yb/\b=yb.ren (IP g))\/(h' n=M b/\Hv n=M b/\n∉S/\n∉NN/\φ' n=φ n):=λn b hb=>by
   by_cases hn:n∈S++Gu m++NN
   .rcases (memW n).1 hn with ⟨i,hi,rfl⟩|hs
    .rw[F_g i hi]at hb;obtain⟨bq,yb,s,U,q3⟩:=er2' i hi b hb;exact .inl ⟨i,bq,yb,hi,rfl,s,U,q3⟩
    .obtain⟨i,rfl,hi⟩:=oA.1 hs;have:F (nm i)=bz h2 (nm i):=by simp only[F,fc,hn,bI]
     rw[this,dead2 i hi]at hb;cases hb
   .rw[F_out n hn]at hb;have h1:n∉S++Gu m:=λhh=>hn (lM _ hh)
    have L:n∉NN:=λhh=>hn (oh _ hh)
    exact .inr ⟨hb,by rw[Hv_out n h1];exact hb,λhh=>h1 (lM _ hh),L,φ'_old n L⟩
  have own':∀k,own φ' F k->own φc' (bz hq) k\/∃n b,Hv n=M b/\n∉S/\φ n=M k:=by
   rintro k ⟨n,b,h1,L⟩;rcases from_ n b h1 with ⟨i,bq,yb,hi,rfl,s,U,_⟩|⟨_,U,q3,_,q5⟩
   .rw[φ'_g i hi]at L;exact .inl ⟨nm i,yb,by rw[bH,s];exact U,L⟩
   .exact .inr ⟨n,b,U,q3,by rw[<- q5];exact L⟩
  have mv:jp φ φ' h' F w w':=by
   refine ⟨hsub,hext.mono λk hk=>hd.own (T.own_ k hk),λk hk ho=>?_⟩;rcases own' k ho with h1|⟨n,b,h1,_,L⟩
   .exact hd.own (T.own_ k (hown k hk h1))
   .exact hd.own ⟨n,b,h1,L⟩
  have tot':∀k,tot E φ' F k->tot E' φc' (bz hq) k:=by
   rintro k (h1|h1)
   .exact .inl (.inl h1)
   .rcases own' k h1 with L|L
    .exact .inr L
    .exact .inl (.inr L)
  let φr:PM:=λn=>if X9 nq n then φc' n else D
  have rel_r:∀x v,x.all (X9 nq)=J->cS φc' (tot E' φc' (bz hq)) w' x v->cS φr (tot E φ' F) w' x v:=λx v hx hr=>
   hr.restrict (λi k hi hk=>by simp only[φr,hi,bI];exact hk) tot' hx
  have rel_g:∀x v,cS φr (tot E φ' F) w' x v->cS φ' (tot E φ' F) w' (x.ren (IP g)) v:=λx v hr=>
   hr.renTo λn k hk=>by
    simp only[φr]at hk;split at hk
    .rename_i hpn;obtain⟨i,hi,rfl⟩:=acq hpn;rw[yk,φ'_g i hi];exact hk
    .cases hk
  have hnqJ:=hnq;refine ⟨v,φ',rfl,mv,λn k hk=>?_,?_,?_⟩
  .by_cases hn:n∈NN
   .exact .inr hn
   .rw[φ'_old n hn]at hk;exact .inl hk
  .refine ⟨λn n' b b' k h1 L h4 h5=>?_,λn b h1=>?_,λk hk=>dK (hrep.el k hk) mv.ext.size,λg' cells hg=>mv.keepF (hrep.gl g' cells hg)⟩
   .rcases from_ n b h1 with ⟨i,bq,yb,hi,rfl,s,U,_⟩|⟨s,U,q3,_,q5⟩
    .rw[φ'_g i hi]at h4;have hqi:bz hq (nm i)=M yb:=by rw[bH,s];exact U
     rcases from_ n' b' L with ⟨j,bj,yj,hj,rfl,t1,t2,_⟩|⟨t1,t2,t3,_,t5⟩
     .rw[φ'_g j hj]at h5;have:=rp.inj _ _ _ _ k hqi (by rw[bH,t1];exact t2) h4 h5;rw[lq this]
     .exfalso;obtain⟨k',p1,p2,_⟩:=rp.at_ _ _ hqi;rw[h4]at p1;cases p1;exact p2 (.inr ⟨n',b',t2,t3,by rw[<- t5];exact h5⟩)
    .rcases from_ n' b' L with ⟨j,bj,yj,hj,rfl,t1,t2,_⟩|⟨t1,t2,t3,_,t5⟩
     .exfalso;rw[φ'_g j hj]at h5;have hqj:bz hq (nm j)=M yj:=by rw[bH,t1];exact t2
      obtain⟨k',p1,p2,_⟩:=rp.at_ _ _ hqj;rw[h5]at p1;cases p1;exact p2 (.inr ⟨n,b,U,q3,by rw[<- q5];exact h4⟩)
     .exact hrep.inj n n' b b' k s t1 (by rw[<- q5];exact h4) (by rw[<- t5];exact h5)
   .rcases from_ n b h1 with ⟨i,bq,yb,hi,rfl,s,U,rfl⟩|⟨s,U,q3,_,q5⟩
    .have hqi:bz hq (nm i)=M yb:=by rw[bH,s];exact U
     obtain⟨k,p1,p2,ob,p3,p4⟩:=rp.at_ _ _ hqi;have hall:=H.blk_all s U;rw[hnq]at hall;exact⟨k,by rw[φ'_g i hi];exact p1,λhE=>p2 (.inl hE),ob,p3,(p4.restrict rel_r hall).renTo rel_g⟩
    .obtain⟨k,p1,p2,ob,p3,p4⟩:=hrep.at_ n b s;have hk:k<w.heap.size:=(cI.1 p3).1;refine ⟨k,hsub n k p1,p2,ob,?_,p4.mono λx v hr=>mv.keep hr⟩;rw[hext.blk k hk ?_]
     .exact p3
     .rintro⟨n',y',t1,t2⟩;obtain⟨i,hi,rfl,t3⟩:=xP t2;obtain⟨j,bb,e,t4,t5⟩:=jL t1;have:=lq e;subst this;have hi':i<np:=by rw[<- hnp];exact hi
      have hvi:Hv (nm (iu σ i))=M (y'.ren (IP (iu σ))):=by
       rw[Hv_in _ (lM _ ((memS _).2 ⟨i,hi',rfl⟩)),bH,hv_at i bb ((B.at_ i bb).1 t4)];exact DY rows_hp t5
      have:=hrepv.inj _ _ _ _ k hvi U t3 p1;exact q3 (by rw[<- this];exact (memS _).2 ⟨i,hi',rfl⟩)
  .have hall:(E4 lr).all (X9 nq)=J:=ac5 (by have:=sK rs lr H.lt hlr;rwa [hnq]at this);show cS φ' (tot E φ' F) w' (E4 (AV.renL (IP g) lr)) v;rw[ac4];exact rel_g _ _ (rel_r _ _ hall rv')
 have hrsg:cO h2 (kW g rs)=M (AV.renL (IP g) lr):=pD rows_hq rs lr hlr;refine ⟨⟨_,hOpT,λz Z=>?_,?_,λn hn=>?_,λn hn=>?_,λn hn=>?_⟩,rows2,inv2,by omega,λhs=>by cases hs⟩
 .rw[X4 hrsg]at Z;cases Z;rfl
 .funext n;unfold fc;split
  .rfl
  .rename_i hn;refine (kK hinv rows2 λi e=>?_).symm;subst e;rw[h2_ne i (λk hk e=>hn ((memW _).2 (.inl ⟨k,hk,by rw[e]⟩))),jk,ax];intro hb;exact hn ((memW _).2 (.inr (me.2 hb)))
 .rw[bt];rcases bP.1 hn with hs|hs
  .obtain⟨i,hi,rfl⟩:=(memS n).1 hs;rw[ef,(sig _).2 ⟨i,hi,rfl⟩];rfl
  .obtain⟨i,rfl,hi⟩:=oA.1 hs;rw[ef,hi];simp
 .rw[bt,bt];rcases bP.1 hn with hs|hs
  .rcases bP.1 hs with hs|hs
   .obtain⟨i,hi,rfl⟩:=(memS n).1 hs;rw[ef,(sig _).2 ⟨i,hi,rfl⟩];rfl
   .obtain⟨i,rfl,hi⟩:=oA.1 hs;rw[ef,hi];simp
  .obtain⟨t,ht,rfl⟩:=(memN n).1 hs;rw[ef,ah8.2 ⟨by omega,by omega⟩];simp
 .obtain⟨t,ht,rfl⟩:=(memN n).1 hn;rw[ef];omega
mutual
def FV.fl:FV->Bool
 |.raw _=>J
 |.agg l=>FV.flL l
 |.sl _ _=>af
 |.ptr _ _=>af
def FV.flL:Y FV->Bool
 |[]=>J
 |x::r=>x.fl&&FV.flL r
end
theorem Yw:∀{l:Y FV},FV.flL l=J->∀x∈l,x.fl=J
 |[],_,x,a=>by cases a
 |y::l,h,x,a=>by
  simp only[FV.flL,al]at h;rcases bl.1 a with rfl|a
  .exact h.1
  .exact Yw h.2 x a
theorem ae5:∀{l:Y FV},(∀x∈l,x.fl=J)->FV.flL l=J
 |[],_=>rfl
 |y::l,h=>by simp only[FV.flL,al];exact⟨h y (by simp),ae5 λx a=>h x (by simp[a])⟩
theorem oe.flat {O O':Nat->Prop} {w w':World} {x:FV} {v:Value} (h:oe O w x v):x.fl=J->oe O' w' x v:=by
 induction h with
 |raw v=>intro _;exact .raw v
 |nil a c hc=>intro h;cases h
 |sl cells n c b off us hn hc hO hb hcl hu hr s=>intro h;cases h
 |ptr cells o b off us hO hb hcl hu hr s=>intro h;cases h
 |agg cells vs hl hcl hr s=>intro h;exact .agg cells vs hl hcl λj x v z hv=>s j x v z hv (Yw h x (aZ z))
mutual
def AV.fl:AV->Bool
 |.f x=>x.fl
 |.emp=>J
 |.anyb=>J
 |.agg l=>AV.flL l
 |.tup l=>AV.flL l
 |.ptr _ _=>af
 |.sl _ _ _=>af
 |.row _ _ _=>af
 |.mp _=>af
 |.clo _ _=>af
def AV.flL:Y AV->Bool
 |[]=>J
 |x::r=>x.fl&&AV.flL r
end
theorem LL:∀{l:Y AV},AV.flL l=J->∀x∈l,x.fl=J
 |[],_,x,a=>by cases a
 |y::l,h,x,a=>by
  simp only[AV.flL,al]at h;rcases bl.1 a with rfl|a
  .exact h.1
  .exact LL h.2 x a
theorem YW:∀{l:Y AV},(∀x∈l,x.fl=J)->AV.flL l=J
 |[],_=>rfl
 |y::l,h=>by simp only[AV.flL,al];exact⟨h y (by simp),YW λx a=>h x (by simp[a])⟩
theorem cS.flat {φ φ':PM} {O O':Nat->Prop} {w w':World} {x:AV} {v:Value} (h:cS φ O w x v):x.fl=J->cS φ' O' w' x v:=by
 induction h with
 |f h=>intro hf;exact .f (h.flat hf)
 |ptr h=>intro hf;cases hf
 |sl h hn hc=>intro hf;cases hf
 |row h hn hc hsh=>intro hf;cases hf
 |emp=>intro _;exact .emp
 |anyb=>intro _;exact .anyb
 |mp h=>intro hf;cases hf
 |agg hl hcl hr s=>intro hf;exact .agg hl hcl λj x v a hv=>s j x v a hv (LL hf x (aZ a))
 |tup hl hr s=>intro hf;exact .tup hl λj x v a hv=>s j x v a hv (LL hf x (aZ a))
 |clo hl hr s=>intro hf;cases hf
mutual
theorem alw (γ:Nat->Nat):∀x:AV,x.fl=J->x.ren γ=x
 |.f x,_=>rfl
 |.emp,_=>rfl
 |.anyb,_=>rfl
 |.agg l,h=>by simp only[AV.ren];rw[IR γ l h]
 |.tup l,h=>by simp only[AV.ren];rw[IR γ l h]
 |.ptr _ _,h=>by cases h
 |.sl _ _ _,h=>by cases h
 |.row _ _ _,h=>by cases h
 |.mp _,h=>by cases h
 |.clo _ _,h=>by cases h
theorem IR (γ:Nat->Nat):∀l:Y AV,AV.flL l=J->AV.renL γ l=l
 |[],_=>rfl
 |x::r,h=>by
  simp only[AV.flL,al]at h;rw[AV.renL,alw γ x h.1,IR γ r h.2]
end
theorem AZ:∀(T:Ty),T.flat=J->∀x:T.den,∀y∈bV T x,y.fl=J
 |.int _,_,x,y,s=>by simp only[bV,aJ]at s;subst s;rfl
 |.bool,_,x,y,s=>by simp only[bV,aJ]at s;subst s;rfl
 |.str,_,x,y,s=>by simp only[bV,aJ]at s;subst s;rfl
 |.sl _,h,x,y,s=>by cases h
 |.st t,h,x,y,s=>AZ t h x y s
 |.pr a b,h,x,y,s=>by
  simp only[Ty.flat,al]at h;simp only[bV,bP]at s;exact s.elim (AZ a h.1 x.1 y) (AZ b h.2 x.2 y)
 |.un,_,x,y,s=>by simp[bV]at s
 |.ex,h,_,_,_=>by cases h
 |.sm,h,_,_,_=>by cases h
theorem ahx (T:Ty) (h:T.flat=J) (x:T.den):(gJ T x).fl=J:=by
 cases a:T.one with
 |true=>
  have:=AZ T h x (gJ T x) (by rw[(D3 T x a).1];simp);exact this
 |false=>rw[rn T x a];exact ae5 (AZ T h x)
theorem Rr (a b:Ty):(spr a b).flat=(a.flat&&b.flat):=by
 cases a<;>cases b<;>simp[spr,HL,Ty.flat]
theorem JF {n:Nat}:∀{a b:Y TV},sa n (a++b)=J->sa n a=J/\sa n b=J
 |[],b,h=>⟨rfl,h⟩
 |x::r,b,h=>by
  simp only[gE,sa,al]at h ⊢;obtain⟨h1,h2⟩:=JF h.2;exact⟨⟨h.1,h1⟩,h2⟩
mutual
theorem agz {g:Nat->Nat} {h:bk}:∀(p:PV) (x:p.ty.den) (cs:Y TV) (l:Y AV),p.ty.flat=J->qF g p x=M cs->sa 0 cs=J->cO h cs=M l->∀y∈l,y.fl=J
 |.d T,x,cs,l,hf,hp,_,hl,y,hy=>by
  have:=(ml h 40 T x cs hp).1;rw[hl]at this;cases this;obtain⟨q,hq,rfl⟩:=dt.1 hy;exact AZ T hf x q hq
 |.ptr i q,x,cs,l,hf,hp,hlt,hl,y,hy=>by
  simp only[qF,ah]at hp;subst hp;simp[sa,Mm]at hlt
 |.csl i q z,x,cs,l,hf,hp,hlt,hl,y,hy=>by
  simp only[qF,ah]at hp;subst hp;simp[sa,Mm]at hlt
 |.clo q i z,x,cs,l,hf,hp,hlt,hl,y,hy=>by
  simp only[qF,ah]at hp;subst hp;simp[sa,Mm]at hlt
 |.row i,x,cs,l,hf,hp,hlt,hl,y,hy=>by
  simp only[qF,ah]at hp;subst hp;simp[sa,Mm]at hlt
 |.mp i,x,cs,l,hf,hp,hlt,hl,y,hy=>by
  simp only[qF,ah]at hp;subst hp;simp[sa,Mm]at hlt
 |.nil,x,cs,l,hf,hp,hlt,hl,y,hy=>by
  simp only[qF,ah]at hp;subst hp;simp only[cO,cA,ah]at hl;subst hl;simp only[aJ]at hy;subst hy;rfl
 |.emp,x,cs,l,hf,hp,hlt,hl,y,hy=>by
  simp only[qF,ah]at hp;subst hp;simp only[cO,cA,ah]at hl;subst hl;simp only[aJ]at hy;subst hy;rfl
 |.agg ps,x,cs,l,hf,hp,hlt,hl,y,hy=>Jl ps x cs l hf hp hlt hl y hy
theorem Jl {g:Nat->Nat} {h:bk}:∀(ps:Y PV) (x:(PV.tyL ps).den) (cs:Y TV) (l:Y AV),(PV.tyL ps).flat=J->rH g ps x=M cs->sa 0 cs=J->cO h cs=M l->∀y∈l,y.fl=J
 |[],x,cs,l,hf,hp,hlt,hl,y,hy=>by
  simp only[rH,ah]at hp;subst hp;simp only[cO,ah]at hl;subst hl;cases hy
 |p::ps,x,cs,l,hf,hp,hlt,hl,y,hy=>by
  simp only[PV.tyL]at hf;rw[Rr,al]at hf;simp only[rH]at hp;split at hp
  .rename_i a ha;split at hp
   .rename_i b hb;simp only[ah]at hp;subst hp;obtain⟨a',b',rfl,e1,e2⟩:=CK hl;have hsp:=JF hlt;rcases bP.1 hy with hy|hy
    .exact agz p _ a a' hf.1 ha hsp.1 e1 y hy
    .exact Jl ps _ b b' hf.2 hb hsp.2 e2 y hy
   .cases hp
  .cases hp
end
theorem agx {g:Nat->Nat} {h:bk} {p:PV} {x:p.ty.den} {u:TV} {y:AV} (hf:p.ty.flat=J) (hp:uh g p x=M u) (hlt:Mm 0 u=J) (a:cA h u=M y):y.fl=J:=by
 cases p with
 |d T=>
  simp only[uh,ah]at hp;subst hp;simp only[cA,ah]at a;subst a;exact ahx T hf x
 |agg ps=>
  simp only[uh]at hp;split at hp
  .rename_i l hl;simp only[ah]at hp;subst hp;simp only[cA]at a;split at a
   .rename_i A s;simp only[ah]at a;subst a;exact YW (Jl ps _ l A hf hl hlt s)
   .cases a
  .cases hp
 |ptr i q=>simp only[uh,ah]at hp;subst hp;simp[Mm]at hlt
 |csl i q z=>simp only[uh,ah]at hp;subst hp;simp[Mm]at hlt
 |row i=>simp only[uh,ah]at hp;subst hp;simp[Mm]at hlt
 |clo q i z=>simp only[uh,ah]at hp;subst hp;simp[Mm,sa]at hlt
 |mp i=>simp only[uh,ah]at hp;subst hp;simp[Mm]at hlt
 |nil=>simp only[uh,ah]at hp;subst hp;simp only[cA,ah]at a;subst a;rfl
 |emp=>simp only[uh,ah]at hp;subst hp;simp only[cA,ah]at a;subst a;rfl
theorem RH {g:Nat->Nat} {h:bk}:∀(ps:Y PV) (x:(PV.tyL ps).den) (us:Y TV) (l:Y AV),(PV.tyL ps).flat=J->qL g ps x=M us->sa 0 us=J->cO h us=M l->AV.flL l=J
 |[],x,us,l,hf,hp,hlt,hl=>by
  simp only[qL,ah]at hp;subst hp;simp only[cO,ah]at hl;subst hl;rfl
 |p::ps,x,us,l,hf,hp,hlt,hl=>by
  simp only[PV.tyL]at hf;rw[Rr,al]at hf;simp only[qL]at hp;split at hp
  .rename_i a s;split at hp
   .rename_i b hb;simp only[ah]at hp;subst hp;obtain⟨y,l2,rfl,e1,e2⟩:=dg hl;simp only[sa,al]at hlt;simp only[AV.flL,al];exact⟨agx hf.1 s hlt.1 e1,RH ps _ b l2 hf.2 hb hlt.2 e2⟩
   .cases hp
  .cases hp
theorem agl:∀{l:Y AV},AV.flL l=J->(E4 l).fl=J
 |[],_=>rfl
 |[x],h=>by simp only[AV.flL,al]at h;exact h.1
 |x::y::r,h=>h
theorem aid {P:Program} {o:Oper} {e:i_} {h:bk} {nx:Nat} {f:FuncId} {c:co} {l:Y TV} (hinv:mE h nx) (sp:qC P f c) {x:c.pre.ty.den} {m:Nat} {σ:PT Nat} {sm:Nat} (B:I1 0 c.pre l h x m σ sm) {vs:Y TV} {hp:bk} {l1:Y (I iw)} (A:rB c.pre x vs hp l1) {y:c.post.ty.den} (hm:c.m x=M y) {rs:Y TV} {hq:bk} {l2:Y (I iw)} (H:rB c.post y rs hq l2) (hp0:c.pre.bs.length=0) (hq0:c.post.bs.length=0) (hfl:(PV.tyL c.post.vs).flat=J)
 (g:Nat->Nat) {la:Y AV} (hla:cO h l=M la)
 (hexec:∀(φ:PM) (E:Nat->Prop) (h':HF) (w:World) (a:Act),(∀t,.tmp t∈o.op.operands->∀y,fX e h t=M y->cS φ (tot E φ h') w y (a.tmps.getD t undef))->rK φ E h' w->∃us:ξ,(execOp a.eval o).run P w= .ok (.enter f us.toArray) w/\kq φ (tot E φ h') w la us):
 iZ P o af e h nx (RB (kW g rs)) m 0 h nx:=by
 obtain⟨x1,m1,x2,m2,hx,hmm,gv,gb⟩:=B.ex;have hmr:dY h m:=by rw[hmm];exact (IJ _ _ _ _ gv).or (IL _ _ _ _ gb)
 have pvg:qL (iu σ) c.pre.vs x1=M (kW (iu σ) vs):=by
  have s:=ux (iu σ) c.pre.vs x1;have h4:=A.pv;rw[hx,uq]at h4;rw[s,h4];rfl
 obtain⟨lr,hlr⟩:=fx hq rs H.ok;obtain⟨Z,hlp⟩:=fx hp vs A.ok;have hfl':AV.flL lr=J:=RH c.post.vs _ rs lr hfl H.pv (by rw[<- hq0];exact H.lt) hlr;have hpe:∀i,hp.get i=D:=λi=>by
  cases hb:hp.get i with
  |none=>rfl
  |some b=>have:=A.lt_len hb;omega
 have hqe:∀i,hq.get i=D:=λi=>by
  cases hb:hq.get i with
  |none=>rfl
  |some b=>have:=H.lt_len hb;omega
 have rows_hp:∀i r,eM hp i=M r->eM (eK m h) (iu σ i)=M r:=λi r hr=>by rw[bT,hpe]at hr;cases hr
 have rows_hq:∀i r,eM hq i=M r->eM h (g i)=M r:=λi r hr=>by rw[bT,hqe]at hr;cases hr
 have rows_in:yF (eK m h) h:=λj r hr=>by
  rw[bT]at hr ⊢;rw[jk]at hr;split at hr
  .rename_i ht;obtain⟨ty,p,T,xs,hb⟩:=hmr j ht;rw[hb]at hr ⊢;exact hr
  .exact hr
 have hOpT:gW P o (fX e h) (bz h) ⟨E4 lr,Gu m,[],λ_=>D,[]⟩:=by
  intro φ E h' w a hrd hwr hops hrep hN;obtain⟨us,hrun,hrel⟩:=hexec φ E h' w a hops hrep
  let Hv:HF:=λn=>if n∈Gu m then D else h' n
  have Hv_in:∀n,n∈Gu m->Hv n=D:=λn hn=>by simp only[Hv,hn,bI]
  have Hv_out:∀n,n∉Gu m->Hv n=h' n:=λn hn=>by simp only[Hv,hn,eh]
  have hd:vL h' Hv:=λn b hb=>by
   by_cases hn:n∈Gu m
   .rw[Hv_in n hn]at hb;cases hb
   .rw[Hv_out n hn]at hb;exact⟨b,hb⟩
  have gvv:E0 h h' Hv m:=λi hi=>⟨hrd _ (me.2 hi),Hv_in _ (me.2 hi)⟩
  have V:Ii h' Hv:=⟨hd,λn b b' hb L=>by
   by_cases hn:n∈Gu m
   .rw[Hv_in n hn]at L;cases L
   .rw[Hv_out n hn,hb]at L;cases L;exact iQ.refl hd b⟩
  have hrepv:=V.rep hrep;have hlpg:cO (eK m h) (kW (iu σ) vs)=M (AV.renL (IP (iu σ)) Z):=pD rows_hp vs Z hlp;have hrel1:kq φ (tot E φ Hv) w (AV.renL (IP (iu σ)) Z) us:=
   kq.le hrep (DS hd rows_in c.pre.vs l x1 m1 _ la _ gv pvg hla hlpg (λi hi=>gvv i (by rw[hmm,bt,hi];rfl))) hrel
  let E':Nat->Prop:=λk=>E k\/∃n b,Hv n=M b/\φ n=M k
  have T:ait c.pre x vs hp (iu σ) φ E E' Hv w:=by
   refine rK.toId A (λa b ha=>by omega) hrepv (λi b yb hb=>by rw[hpe]at hb;cases hb) ?_ (λi k b hi=>by omega) ?_
   .rintro k (hE|⟨n,b,h1,s⟩)
    .exact .inl hE
    .exact .inr ⟨n,b,h1,s⟩
   .rintro k (hE|⟨n,b,h1,s⟩)
    .exact hrepv.el k hE
    .obtain⟨k',U,_,ob,q3,_⟩:=hrepv.at_ n b h1;rw[s]at U;cases U;exact (cI.1 q3).1
  have hcalls:=sp.calls x y hm vs hp l1 rs hq l2 Z lr A H hlp hlr (φ1 c.pre.bs.length (iu σ) φ) E' w us T.rep (kq.toId T.val (sK vs Z A.lt hlp) hrel1) (λn k hk=>by
   obtain⟨i,hi,rfl,_⟩:=xP hk;rw[ef];exact hi)
  unfold Is;rw[hrun];refine Calls.mono hcalls ?_;rintro en w' ⟨v,φc',rfl,hext,hown,hnm,rp,rv'⟩;have hno:∀k,¬own (φ1 c.pre.bs.length (iu σ) φ) (bz hp) k:=by
   rintro k ⟨n,b,h1,_⟩;obtain⟨i,bb,_,s,_⟩:=jL h1;rw[hpe]at s;cases s
  have mv:jp φ φ h' h' w w':=⟨λ_ _ h=>h,hext.mono λk hk=>ca hk (hno k),λ_ _ h=>h⟩
  refine ⟨v,φ,rfl,?_,λ_ _ h=>.inl h,?_,?_⟩
  .rw[uF];exact mv
  .rw[uF];refine hrep.moved mv λk hk=>?_
   obtain⟨n,b,h1,s⟩:=hk;obtain⟨k',U,_,ob,q3,_⟩:=hrep.at_ n b h1;rw[s]at U;cases U;exact hext.blk k (cI.1 q3).1 (hno k)
  .exact rv'.flat (agl hfl')
 have hrsg:cO h (kW g rs)=M (AV.renL (IP g) lr):=pD rows_hq rs lr hlr;refine ⟨⟨_,hOpT,λz hz=>?_,?_,λn hn=>?_,by simp,by simp⟩,λ_ _ h=>h,hinv,bX _,λhs=>by cases hs⟩
 .rw[X4 hrsg,IR _ lr hfl']at hz;cases hz;rfl
 .exact uF _ _
 .obtain⟨i,rfl,hi⟩:=oA.1 hn;rw[ef];exact hi
def co.full (c:co):co:=⟨c.pre,⟨c.post.vs,c.pre.bs⟩,λx=>au (c.m x) λy=>M (VD (PV.tyL c.post.vs) (PB.tyL c.pre.bs) (Qb _ _ y) (Mc _ _ x))⟩
def aH (P:Program) (f:FuncId) (c:co):Prop:=if eS c.pre.bs.length c.post.bs.length=J then qC P f c else qC P f c.full
theorem qC.toC {P:Program} {f:FuncId} {c:co} (h:qC P f c) (hb:eS c.pre.bs.length c.post.bs.length=J):aH P f c:=by
 unfold aH;rw[aC hb];exact h
theorem aH.holds {P:Program} {f:FuncId} {c:co} (h:aH P f c) (hb:eS c.pre.bs.length c.post.bs.length=J):qC P f c:=by
 unfold aH at h;rw[aC hb]at h;exact h
theorem ahb (a b:Ty) (z:(spr a b).den):VD a b (Qb a b z) (Mc a b z)=z:=by cases a<;>cases b<;>rfl
open Classical in
def roM {pre:Tm} {vs:Y PV} (m:pre.ty.den->I (Tm.ty ⟨vs,pre.bs⟩).den) (x:pre.ty.den):I (Tm.ty ⟨vs,[]⟩).den:=
 au (m x) λy=>if Mc (PV.tyL vs) (PB.tyL pre.bs) y=Mc _ _ x then M (VD (PV.tyL vs) (PB.tyL []) (Qb (PV.tyL vs) (PB.tyL pre.bs) y) ()) else D
theorem aH.ro {P:Program} {f:FuncId} {pre:Tm} {vs:Y PV} {m:pre.ty.den->I (Tm.ty ⟨vs,pre.bs⟩).den} {m':pre.ty.den->I (Tm.ty ⟨vs,[]⟩).den} (h:qC P f ⟨pre,⟨vs,pre.bs⟩,m⟩) (hb:eS pre.bs.length 0=af) (hs:∀x y,m' x=M y->roM m x=M y):aH P f ⟨pre,⟨vs,[]⟩,m'⟩:=by
 unfold aH;rw[ax (by show ¬eS pre.bs.length 0=J;rw[hb];exact Bool.false_ne_true)];refine ⟨h.callable,λx y hxy=>?_⟩;refine h.calls x y ?_;have hxy:au (m' x) (λy=>M (VD (PV.tyL vs) (PB.tyL pre.bs) (Qb (PV.tyL vs) (PB.tyL []) y) (Mc _ _ x)))=M y:=hxy;obtain⟨z,A,hzy⟩:=dT hxy;have h1:=hs x z A;unfold roM at h1;obtain⟨y0,s,h2⟩:=dT h1;split at h2
 .rename_i heq;have h2:=kh h2;have hzy:=kh hzy;subst h2;have a:VD (PV.tyL vs) (PB.tyL pre.bs) (Qb (PV.tyL vs) (PB.tyL pre.bs) y0) (Mc (PV.tyL pre.vs) (PB.tyL pre.bs) x)=y:=(gZ (λq=>VD (PV.tyL vs) (PB.tyL pre.bs) q (Mc (PV.tyL pre.vs) (PB.tyL pre.bs) x)) (uq (PV.tyL vs) (PB.tyL []) _ ()).symm).trans hzy;rw[<- heq]at a;have:=(ahb (PV.tyL vs) (PB.tyL pre.bs) y0).symm.trans a;exact s.trans (gZ M this)
 .cases h2
theorem iZ.drop {P:Program} {o:Oper} {e:i_} {h h':bk} {nx nx':Nat} {v:TV} {rd wr W wr':Nat} (t:iZ P o af e h nx v rd wr h' nx') (hW:∀i,aN W i=J->bz h' (nm i)=bz h (nm i)/\aN rd i=J) (A:∀i,aN wr i=J->aN W i=J\/aN wr' i=J):iZ P o af e h nx v rd wr' h' nx':=by
 obtain⟨⟨f,h1,h2,z,h4,h5,Z⟩,r,i,g,st⟩:=t;have hs:∀n,aN W (ow n)=J->bz h' n=bz h n:=λn hn=>by
  by_cases s:∃i,n=nm i
  .obtain⟨i,rfl⟩:=s;rw[ef]at hn;exact (hW i hn).1
  .rw[xp h s,xp h' s]
 have hup:∀H:HF,(∀n∈f.wr,H n=bz h n)->fc H (f.wr.filter λn=> !(aN W (ow n))) f.nw=fc H f.wr f.nw:=λH U=>by
  funext n;unfold fc;by_cases hn:n∈f.wr
  .by_cases hb:aN W (ow n)=J
   .rw[ax (by simp[hb]),aC hn];have:=congrFun z n;unfold fc at this;rw[aC hn,hs n hb]at this;rw[this,U n hn]
   .rw[aC (by simp[hn,hb]),aC hn]
  .rw[ax (by simp[hn]),ax hn]
 refine ⟨⟨⟨f.val,f.rd++(f.wr.filter λn=>aN W (ow n)),f.wr.filter λn=> !(aN W (ow n)),f.nw,f.N⟩,?_,h2,?_,λn hn=>?_,λn hn=>?_,Z⟩,r,i,g,λhs=>by cases hs⟩
 .intro φ E H w a hrd hwr hops hrep L;have k1:∀i∈f.rd,H i=bz h i:=λi hi=>hrd i (lM _ hi)
  have k2:∀i∈f.wr,H i=bz h i:=λi hi=>by
   cases hb:aN W (ow i) with
   |true=>exact hrd i (oh _ (by simp[hi,hb]))
   |false=>exact hwr i (by simp[hi,hb])
  have:=h1 φ E H w a k1 k2 hops hrep L;simp only[hup H k2];exact this
 .simp only[hup (bz h) (λ_ _=>rfl)];exact z
 .rcases bP.1 hn with hn|hn
  .exact h4 n hn
  .simp only[xN]at hn;exact (hW _ hn.2).2
 .simp only[xN,d_]at hn;rcases A _ (h5 n hn.1) with hh|hh
  .rw[hn.2]at hh;cases hh
  .exact hh
mutual
theorem ad8 {n n':Nat} (hle:n<=n'):∀(v:TV),Mm n v=J->Mm n' v=J
 |.row id,h=>by simp only[Mm,Nat.blt_eq]at h ⊢;omega
 |.rtl id _,h=>by simp only[Mm,Nat.blt_eq]at h ⊢;omega
 |.pel id _ _ _,h=>by simp only[Mm,Nat.blt_eq]at h ⊢;omega
 |.ptr id _,h=>by simp only[Mm,Nat.blt_eq]at h ⊢;omega
 |.csl id _ _,h=>by simp only[Mm,Nat.blt_eq]at h ⊢;omega
 |.mp id,h=>by simp only[Mm,Nat.blt_eq]at h ⊢;omega
 |.agg l,h=>xi hle l h
 |.tup l,h=>xi hle l h
 |.clo _ l,h=>xi hle l h
 |.f _ _,_=>rfl
 |.fel _ _ _ _ _,_=>rfl
 |.emp,_=>rfl
 |.nil,_=>rfl
 |.undef,_=>rfl
 |.np,_=>rfl
 |.anyb,_=>rfl
theorem xi {n n':Nat} (hle:n<=n'):∀(l:Y TV),sa n l=J->sa n' l=J
 |[],_=>rfl
 |x::r,h=>by
  simp only[sa,al]at h ⊢;exact⟨ad8 hle x h.1,xi hle r h.2⟩
end
theorem N5 {g g':Nat->Nat} {h:bk}:∀(bs:Y PB) (i:Nat) (x:(PB.tyL bs).den) (m:Nat),IZ bs=J->BF g h i bs=M (x,m)->∃l,o6 g' bs x=M l/\l.length=bs.length/\∀j,j<bs.length->∃ty p T xs,l[j]? =M (M (.rows ty p T xs))/\h.get (g (i+j))=M (.rows ty p T xs)
 |[],i,x,m,_,hg=>⟨[],rfl,rfl,λj hj=>by simp at hj⟩
 |.rows ty p T::r,i,x,m,s,hg=>by
  simp only[BF]at hg;split at hg
  .rename_i L m1 h1;split at hg
   .rename_i A m2 h2;simp only[ah,aE]at hg;obtain⟨rfl,rfl⟩:=hg;obtain⟨l,q1,q2,q3⟩:=N5 (g:=g) (g':=g') (h:=h) r (i+1) A m2 s h2;simp only[FF]at h1;split at h1
    .rename_i ty' p' S xs hb;split at h1
     .rename_i hc;simp only[al,c7]at hc;obtain⟨rfl,rfl⟩:=hc;split at h1
      .rename_i z hz;simp only[ah]at h1;obtain⟨rfl,_⟩:=h1;obtain⟨es,ez⟩:=iv hz;cases es;subst ez;refine ⟨M (.rows ty p T L)::l,?_,by simp[q2],λj hj=>?_⟩
       .simp only[o6];rw[uq,vQ,q1];rfl
       .cases j with
        |zero=>exact⟨ty,p,T,_,rfl,hb⟩
        |succ j=>
         obtain⟨a,b,c,d,Z,U⟩:=q3 j (by simpa using hj);exact⟨a,b,c,d,by simpa using Z,by rw[show i+(j+1)=i+1+j from by omega];exact U⟩
      .cases h1
     .cases h1
    .cases h1
   .cases hg
  .cases hg
 |.rowsP _ _::r,i,x,m,s,hg=>by cases s
 |.cells _ _::r,i,x,m,s,hg=>by cases s
 |.mp _ _::r,i,x,m,s,hg=>by cases s
 |.gone::r,i,x,m,s,hg=>by cases s
theorem Gt:∀{bs:Y PB},IZ bs=J->Cq bs=J
 |[],_=>rfl
 |.rows _ _ _::r,h=>Gt (bs:=r) h
 |.rowsP _ _::r,h=>by cases h
 |.cells _ _::r,h=>by cases h
 |.mp _ _::r,h=>by cases h
 |.gone::r,h=>by cases h
theorem Gn {h h2:bk} {g:Nat->Nat}:∀(n:Nat),(∀i,i<n->h2.get (g i)=h.get (g i))->uG h h2 g n=J
 |0,_=>rfl
 |n+1,hs=>by
  simp only[uG,al];refine ⟨?_,Gn n λi hi=>hs i (by omega)⟩;have:eM h2 (g n)=eM h (g n):=by rw[bT,bT,hs n (by omega)]
  rw[this];cases eM h (g n) with
  |none=>rfl
  |some q=>obtain⟨p,s,k⟩:=q;simp
def LZ (P:Program) (con:FuncId->I co):Prop:=∀f c,con f=M c->aH P f c
theorem YN {R:Type} {P:Program} {con:FuncId->I co} (hcon:LZ P con) {o:Oper} {e:i_} {h:bk} {nx:Nat} {f:FuncId} {l:Y TV} {K:KO R} {r:R} (hinv:mE h nx) (hk:YO con f l h nx K=M r) {la:Y AV} (hla:cO h l=M la)
 (hexec:∀(φ:PM) (E:Nat->Prop) (h':HF) (w:World) (a:Act),EU P f->(∀t,.tmp t∈o.op.operands->∀y,fX e h t=M y->cS φ (tot E φ h') w y (a.tmps.getD t undef))->rK φ E h' w->∃us:ξ,(execOp a.eval o).run P w= .ok (.enter f us.toArray) w/\kq φ (tot E φ h') w la us):ll P o af e h nx K r:=by
 unfold YO at hk;split at hk
 .rename_i c hc;have spc:=hcon f c hc;split at hk
  .rename_i x m σ sm hM;split at hk
   .rename_i q hq;obtain⟨vs,hp⟩:=q;obtain⟨l1,z⟩:=xl hq;obtain⟨y,hy,hk⟩:=dT hk;split at hk
    .rename_i q2 hq2;obtain⟨rs1,U⟩:=q2;obtain⟨l2,A⟩:=xl hq2;split at hk
     .rename_i hcond;simp only[al]at hcond;have hle:=a_ hcond.1;have sp:=spc.holds hcond.1;simp only at hk;split at hk
      .rename_i rs hrs;have hrs':=hrs;rw[ux,A.pv]at hrs';simp only[ct,ah]at hrs';split at hk
       .rename_i hb;simp only[al]at hb;have Z:=ar hb.1.2;refine ⟨_,_,_,_,_,hk,?_⟩;rw[<- hrs'];exact aid hinv sp (xf hM) z hy A (by omega) Z hb.2 _ hla λφ E h' w a=>hexec φ E h' w a sp.callable
       .split at hk
        .rename_i h2 s;obtain⟨hsr,hk⟩:=eA hk;refine ⟨_,_,_,_,_,hk,?_⟩;rw[<- hrs'];unfold ND at s;rw[wV,A.pb]at s;simp only[ct,ah]at s;exact aep hinv sp (xf hM) z hcond.2 hy A hle (λi hi=>by
          have:gC i c.pre.bs.length=J:=bF hi;simp only[this,bI]) (λi hi=>by
          have:gC i c.pre.bs.length=af:=by
           cases hb:gC i c.pre.bs.length with
           |false=>rfl
           |true=>have:=a_ hb;omega
          simp only[this];rfl) s.symm hsr hla λφ E h' w a=>hexec φ E h' w a sp.callable
        .cases hk
      .cases hk
     .rename_i hcond;split at hk
      .rename_i hro;simp only[al]at hro;have Z:=ar hro.1;have hng:=Gt hro.2;have sp:qC P f c.full:=by
        unfold aH at spc
        rwa [ax (λhb=>hcond (by rw[hb,hng];rfl))]at spc
       simp only at hk;split at hk
       .rename_i rs hrs;split at hk
        .rename_i h2 s;have hrs':=hrs;rw[ux,A.pv]at hrs';simp only[ct,ah]at hrs';refine ⟨_,_,_,_,_,hk,?_⟩;rw[<- hrs'];have B:=xf hM;unfold ND at s;rw[wV,z.pb]at s;simp only[ct,ah]at s;have hqe:∀i,U.get i=D:=λi=>by
          cases hb:U.get i with
          |none=>rfl
          |some b=>have:=A.lt_len hb;omega
         have J':rB c.full.post (VD (PV.tyL c.post.vs) (PB.tyL c.pre.bs) (Qb _ _ y) (Mc _ _ x)) rs1 hp l1:=
          ⟨by show qL IH c.post.vs (Qb (PV.tyL c.post.vs) (PB.tyL c.pre.bs) _)=_;rw[uq];exact A.pv,by show o6 IH c.pre.bs (Mc (PV.tyL c.post.vs) (PB.tyL c.pre.bs) _)=_;rw[vQ];exact z.pb,z.len,z.at_,jg (λi r hr=>by rw[bT,hqe]at hr;cases hr) _ A.ok,xi (by omega) _ A.lt,z.cells⟩
         obtain⟨x1,m1,x2,m2,hx,hmm,gv,gb⟩:=B.ex;obtain⟨l,q1,q2,q3⟩:=N5 (g':=IH) c.pre.bs 0 x2 m2 hro.2 gb;have hl1:l1=l:=by
          have:=z.pb;rw[hx,vQ,q1]at this;cases this;rfl
         subst hl1;have hgi:∀i,i<c.pre.bs.length->(if gC i c.pre.bs.length then iu σ i else nx+(i-c.pre.bs.length))=iu σ i:=λi hi=>by
          have:gC i c.pre.bs.length=J:=bF hi;simp only[this,bI]
         have hsame:∀i,i<c.pre.bs.length->h2.get (iu σ i)=h.get (iu σ i):=λi hi=>by
          obtain⟨ty,p,T,xs,w1,L⟩:=q3 i hi;rw[bJ]at L;have:=vV (λi=>if gC i c.pre.bs.length then iu σ i else nx+(i-c.pre.bs.length)) (l1.map (mo (mb (λi=>if gC i c.pre.bs.length then iu σ i else nx+(i-c.pre.bs.length))))) 0 (eK m h) (λa b ha hb e=>by
           simp only[bw,q2]at ha hb;rw[bJ,bJ,hgi a ha,hgi b hb]at e;exact B.inj a b ha hb e) i (M (.rows ty p T xs)) (by rw[bc,w1];rfl)
          rw[bJ,hgi i hi]at this;rw[<- s,this,L]
         have t:=aep (o:=o) (e:=e) hinv sp B z hng (y:=VD (PV.tyL c.post.vs) (PB.tyL c.pre.bs) (Qb _ _ y) (Mc _ _ x)) (by show au (c.m x) _=_;rw[hy];rfl) J' (bX _) (g:=λi=>if gC i c.pre.bs.length then iu σ i else nx+(i-c.pre.bs.length)) hgi (λi hi=>by
          have:gC i c.pre.bs.length=af:=by
           cases hb:gC i c.pre.bs.length with
           |false=>rfl
           |true=>have:=a_ hb;have hi:c.pre.bs.length<=i:=hi;omega
          simp only[this];rfl) s.symm (Gn _ λi hi=>by rw[hgi i hi];exact hsame i hi) hla λφ E h' w a=>hexec φ E h' w a sp.callable
         have t':iZ P o af e h nx (RB (kW (λi=>if gC i c.pre.bs.length then iu σ i else nx+(i-c.pre.bs.length)) rs1)) (sm|||m) (sm|||m|||(((1<<<(c.pre.bs.length-c.pre.bs.length))-1)<<<nx)) h2 (nx+(c.pre.bs.length-c.pre.bs.length)):=t;rw[It,dl]at t';refine t'.drop (W:=sm) (λi hi=>?_) (λi hi=>?_)
         .refine ⟨?_,by rw[bt,hi];rfl⟩;obtain⟨k,hk,rfl⟩:=(B.sig i).1 hi;obtain⟨ty,p,T,xs,_,L⟩:=q3 k hk;rw[bJ]at L;rw[bH,bH,hsame k hk,L];rfl
         .simp only[Nat.shiftLeft_zero,It,Nat.zero_shiftLeft,Nat.or_zero,bt,jf]at hi;exact hi
        .cases hk
       .cases hk
      .cases hk
    .cases hk
   .cases hk
  .cases hk
 .cases hk
theorem alb {R:Type} {P:Program} {con:FuncId->I co} (hcon:LZ P con) {b9:TypeId->I Ty} {o:Oper} {e:i_} {h:bk} {nx:Nat} {i:SI} {K:KO R} {r:R} (hinv:mE h nx) (hi:uv e h) (hc:zh P o.op=i) (hk:eo con b9 i e h nx K=M r):ll P o i.still e h nx K r:=by
 have callOps:∀(c:Call),o.op= .call c->∀x,x∈c.operands->x∈o.op.operands:=λc A x L=>by rw[A];exact L
 cases i with
 |call f args=>
  simp only[eo]at hk;split at hk
  .rename_i l hl;have A:∃c:Call,o.op= .call c/\c.callee= .value (.func f)/\c.args.toList=args:=by
    unfold zh at hc;split at hc
    .rename_i i hi;subst hc;unfold QO at hi;split at hi
     .rename_i c A;split at hi
      .rename_i g hg;simp only[ah,SI.call.injEq]at hi;exact⟨c,A,by rw[hg,hi.1],hi.2⟩
      .simp at hi
      .cases hi
     .cases hi
    .split at hc<;>cases hc
   obtain⟨c,A,h1,h2⟩:=A;obtain⟨la,g1,g2⟩:=zL hi hl;refine YN hcon hinv hk g2 λφ E h' w a hcb hops hrep=>?_
   have hp:XD φ E h' w a (Kq e h) o:=λx y L Z=>ur hrep (by rw[v8];exact hops) L Z
   refine ⟨args.map a.eval,?_,Qh hp args la (λx L=>callOps c A x (by simp[e_,h1,<-h2]at L ⊢;exact .inr L)) g1⟩;unfold execOp;rw[A];have hm:c.args.map a.eval=(args.map a.eval).toArray:=by rw[<- h2];apply L5;simp
   simp[resolve,h1,Act.eval,Deferred.ofValue,invoke,hm,xS hcb]
  .cases hk
 |callv x args=>
  simp only[eo]at hk;split at hk
  .rename_i f cap l L hl;have A:∃c:Call,o.op= .call c/\c.callee= .value x/\c.args.toList=args:=by
    unfold zh at hc;split at hc
    .rename_i i hi;subst hc;unfold QO at hi;split at hi
     .rename_i c A;split at hi
      .simp at hi
      .rename_i g hg;simp only[ah,SI.callv.injEq]at hi;exact⟨c,A,by rw[hg,hi.1],hi.2⟩
      .cases hi
     .cases hi
    .split at hc<;>cases hc
   obtain⟨c,A,h1,h2⟩:=A;obtain⟨la,g1,g2⟩:=zL hi hl;obtain⟨yx,g3,U⟩:=bK hi L;simp only[cA]at U;split at U
   .rename_i lc hlc;simp only[ah]at U;subst U;refine YN hcon hinv hk (oa g2 hlc) λφ E h' w a hcb hops hrep=>?_
    have hp:XD φ E h' w a (Kq e h) o:=λx y L Z=>ur hrep (by rw[v8];exact hops) L Z
    have hxv:=hp x _ (callOps c A x (by simp[e_,h1])) g3;have hlv:=Qh hp args la (λx L=>callOps c A x (by simp[e_,h1,<-h2]at L ⊢;exact .inr L)) g1;generalize hz:a.eval x=z at hxv;cases hxv with
    |@clo _ _ vs hvl hvr=>
     refine ⟨args.map a.eval++vs,?_,hlv.append (kq.of hvl hvr)⟩;unfold execOp;rw[A];have hm:c.args.map a.eval=(args.map a.eval).toArray:=by rw[<- h2];apply L5;simp
     simp[resolve,h1,hz,Deferred.ofValue,invoke,hm,xS hcb]
   .cases U
  .cases hk
 |op s=>
  have hc:s= .bad\/dF P o.op=M s:=by
   unfold zh at hc;split at hc
   .rename_i i hi;subst hc;unfold QO at hi;split at hi
    .split at hi<;>simp at hi
    .cases hi
   .split at hc
    .rename_i q hq;simp only[SI.op.injEq]at hc;subst hc;exact .inr hq
    .simp only[SI.op.injEq]at hc;exact .inl hc.symm
  rcases hc with rfl|hc
  .simp[eo]at hk
  .exact K_op hinv hi hc hk
def gp (am:Nat) (e e':i_):Prop:=∀k,aN am k=af->∀a,e'.get k=M a->∃v,e.get k=M v/\(vb v=J->a=v)
theorem gp.refl (am:Nat) (e:i_):gp am e e:=λ_ _ a h=>⟨a,h,λ_=>rfl⟩
theorem gp.trans {am:Nat} {a b c:i_} (h1:gp am a b) (h2:gp am b c):gp am a c:=λk hk z hv=>by
 obtain⟨s,Z,U⟩:=h2 k hk z hv;obtain⟨v,L,A⟩:=h1 k hk s Z;refine ⟨v,L,λhf=>?_⟩;have:=A hf;subst this;exact U hf
theorem gp.mono {am am':Nat} {a b:i_} (h:gp am a b) (hm:∀k,aN am k=J->aN am' k=J):gp am' a b:=λk hk=>h k (by
 cases s:aN am k with
 |false=>rfl
 |true=>rw[hm k s]at hk;cases hk)
structure afd (P:Program) (ops:Array Oper) (rest:List Oper) (sl:List tC) (am:Nat) (s s':TS) (fs:List FPm) (l:List (Oper×B')):Prop where
 ops_:l.map (·.1)=rest
 chain:AE P ops l (fX s.e s.h) (bz s.h) (fX s'.e s'.h) (bz s'.h)
 fsl:fs.length=l.length
 sll:sl.length=l.length
 fp:∀(j:Nat) o f q,l[j]? =M (o,f)->fs[j]? =M q->(∀n∈f.rd,aN q.rd (ow n)=J)/\∀n∈f.wr,aN q.wr (ow n)=J
 still:∀(j:Nat) o f so,l[j]? =M (o,f)->sl[j]? =M so->so.op.still=J->f.rd=[]/\f.wr=[]
 names:∀(j:Nat) o f,l[j]? =M (o,f)->∀n∈f.N,s.nx<=ow n/\ow n<s'.nx
 apart_:∀(i j:Nat) oi fi oj fj,i<j->l[i]? =M (oi,fi)->l[j]? =M (oj,fj)->∀n∈fi.N,n∉fj.N
 grows:s.nx<=s'.nx
 invH:mE s'.h s'.nx
 invE:uv s'.e s'.h
 keeps:gp am s.e s'.e
theorem agy {e:i_} {h h':bk} (hi:uv e h) (hr:ch h h') (d:I Nat) {v:TV} {y:AV} (hv:cA h' v=M y):Dm (fX e h) d y=fX (Fa e d v) h':=by
 funext t;have old:(e.get t).bind (cA h)=(e.get t).bind (cA h'):=by
  cases ht:e.get t with
  |none=>rfl
  |some x=>
   obtain⟨z,a⟩:=pJ h x (hi t x ht);simp only[aG,a,gA hr x z a]
 cases d with
 |none=>simp only[Dm,Fa,fX];rw[ax (by simp)];exact old
 |some d=>
  simp only[Dm,Fa,fX,PT.get_set,ah];by_cases hd:d=t
  .subst hd;simp[hv]
  .rw[ax hd,ax (λe=>hd e.symm)];exact old
theorem uv.put {e:i_} {h h':bk} (hi:uv e h) (hr:ch h h') (d:I Nat) {v:TV} (hv:Mk h' v=J):uv (Fa e d v) h':=λt x a=>by
 cases d with
 |none=>exact ny hr x (hi t x a)
 |some d=>
  simp only[Fa,PT.get_set]at a;split at a
  .cases a;exact hv
  .exact ny hr x (hi t x a)
theorem S7 {e:i_} {h:bk} {t:Nat} {v:TV} (ht:e.get t=M v):fX (e.set t (M v)) h=fX e h:=by
 funext k;simp only[fX,PT.get_set];by_cases hk:k=t
 .subst hk;simp[ht]
 .rw[ax hk]
theorem uv.set {e:i_} {h:bk} {t:Nat} {v:TV} (hi:uv e h) (ht:e.get t=M v):uv (e.set t (M v)) h:=λk x a=>by
 rw[PT.get_set]at a;split at a
 .rename_i hk;subst hk;cases a;exact hi _ _ ht
 .exact hi k x a
theorem U9 {R:Type} {e:i_} {g:I (Nat×Bool)} {K:Bool->i_->I R} {r:R} (h:abz e g K=M r):
 (g=D/\K J e=M r)\/(∃t want b,g=M (t,want)/\e.get t=M (.f .bool b)/\K (b==want) (e.set t (M (.f .bool b)))=M r)\/∃t want,g=M (t,want)/\e.get t=M .undef/\K af e=M r:=by
 unfold abz at h;split at h
 .exact .inl ⟨rfl,h⟩
 .rename_i t want;split at h
  .rename_i b hb;refine .inr (.inl ⟨t,want,b,rfl,hb,?_⟩);cases want with
   |true=>rcases qd h with ⟨rfl,h⟩|⟨rfl,h⟩<;>exact h
   |false=>rcases qd h with ⟨rfl,h⟩|⟨rfl,h⟩<;>exact h
  .rename_i hb;exact .inr (.inr ⟨t,want,rfl,hb,h⟩)
  .cases h
theorem Jo {R:Type} {P:Program} {con:FuncId->I co} (hcon:LZ P con) {b9:TypeId->I Ty} {ops:Array Oper} {am:Nat} (ham:∀(j:Nat) (o:Oper) (d:Nat),ops[j]? =M o->o.dst=M d->aN am d=J):
 ∀(rest:Y Oper) (sl:Y tC) (s:TS) (fs:Y FPm) (K:TS->Y FPm->I R) (r:R),(∀o∈rest,∃j:Nat,ops[j]? =M o)->sS P ops rest=M sl->Mh con b9 sl s fs K=M r->mE s.h s.nx->uv s.e s.h->∃s' fs' l,K s' (fs.reverse++fs')=M r/\afd P ops rest sl am s s' fs' l
 |[],sl,s,fs,K,r,hin,hc,hk,hH,A=>by
  simp only[sS,ah]at hc;subst hc;simp only[Mh]at hk;exact⟨s,[],[],by simpa using hk,rfl,.nil _ _,rfl,rfl,by simp,by simp,by simp,by simp,bX _,hH,A,gp.refl _ _⟩
 |o::rest,sl,s,fs,K,r,hin,hc,hk,hH,A=>by
  simp only[sS]at hc;split at hc
  .rename_i sl' hsl';have hso:∃g,sl=⟨o.dst,zh P o.op,g⟩::sl'/\((g=D/\o.guard=D)\/∃j want t,g=M (t,want)/\o.guard=M (j,want)/\(ops[j]?).bind (·.dst)=M t):=by
    split at hc
    .rename_i hg;simp only[ah]at hc;exact⟨D,hc.symm,.inl ⟨rfl,hg⟩⟩
    .rename_i j want hg;split at hc
     .rename_i t ht;simp only[ah]at hc;exact⟨M (t,want),hc.symm,.inr ⟨j,want,t,rfl,hg,ht⟩⟩
     .cases hc
   obtain⟨g,rfl,hg⟩:=hso;simp only[Mh]at hk;have hdst:∀d,o.dst=M d->aN am d=J:=λd hd=>by
    obtain⟨j,hj⟩:=hin o (c8 ..);exact ham j o d hj hd
   have hgs:∀t want,g=M (t,want)->aN am t=J:=λt want hgt=>by
    rcases hg with ⟨h1,_⟩|⟨j,want',t',h1,_,a⟩
    .rw[h1]at hgt;cases hgt
    .rw[h1]at hgt;cases hgt;cases hj:ops[j]? with
     |none=>rw[hj]at a;cases a
     |some oj=>rw[hj]at a;exact ham j oj t hj a
   have kput:∀(e:i_) (v:TV),gp am s.e e->gp am s.e (Fa e o.dst v):=λe v hke k hk v' hv=>by
    cases hd:o.dst with
    |none=>rw[hd]at hv;exact hke k hk v' hv
    |some d=>
     rw[hd]at hv;simp only[Fa,PT.get_set]at hv;split at hv
     .rename_i e2;rw[e2,hdst d hd]at hk;cases hk
     .exact hke k hk v' hv
   have done:∀(f:B') (v:TV) (h':bk) (nx' rd wr:Nat) (e:i_),fX e s.h=fX s.e s.h->uv e s.h->gp am s.e e->LM P ops o f (fX s.e s.h) (bz s.h)->(∃y,cA h' v=M y/\f.val=y)->fc (bz s.h) f.wr f.nw=bz h'->(∀n∈f.rd,aN rd (ow n)=J)->(∀n∈f.wr,aN wr (ow n)=J)->(∀n∈f.N,s.nx<=ow n/\ow n<nx')->ch s.h h'->mE h' nx'->s.nx<=nx'->((zh P o.op).still=J->f.rd=[]/\f.wr=[])->
    Mh con b9 sl' ⟨Fa e o.dst v,h',nx'⟩ (⟨rd,wr⟩::fs) K=M r->∃s' fs' l,K s' (fs.reverse++fs')=M r/\afd P ops (o::rest) (⟨o.dst,zh P o.op,g⟩::sl') am s s' fs' l:=by
    intro f v h' nx' rd wr e hee hiE hke hst hval hheap hrd hwr hN hrows hinv' hgr hstill hrun;obtain⟨y,U,hy2⟩:=hval;obtain⟨s',fs',l,z,L⟩:=Jo hcon ham rest sl' _ _ K r (λo' ho'=>hin o' (cC _ ho')) hsl' hrun hinv' (hiE.put hrows o.dst (FL _ _ _ U));have hg2:nx'<=s'.nx:=L.grows;refine ⟨s',⟨rd,wr⟩::fs',(o,f)::l,by simpa using z,by simp[L.ops_],.cons hst ?_,by simp[L.fsl],by simp[L.sll],?_,?_,?_,?_,dz hgr hg2,L.invH,L.invE,(kput e v hke).trans L.keeps⟩
    .have e1:Dm (fX s.e s.h) o.dst f.val=fX (Fa e o.dst v) h':=by rw[<- hee,hy2];exact agy hiE hrows o.dst U
     rw[e1,hheap];exact L.chain
    .intro j o' f' q' h1 h2;cases j with
     |zero=>simp at h1 h2;obtain⟨rfl,rfl⟩:=h1;subst h2;exact⟨hrd,hwr⟩
     |succ j=>exact L.fp j o' f' q' (by simpa using h1) (by simpa using h2)
    .intro j o' f' so h1 h2 a;cases j with
     |zero=>simp at h1 h2;obtain⟨rfl,rfl⟩:=h1;subst h2;exact hstill a
     |succ j=>exact L.still j o' f' so (by simpa using h1) (by simpa using h2) a
    .intro j o' f' h1 n hn;cases j with
     |zero=>
      simp at h1;obtain⟨rfl,rfl⟩:=h1;have:=hN n hn;exact⟨this.1,by omega⟩
     |succ j=>
      have:=L.names j o' f' (by simpa using h1) n hn;exact⟨dz hgr this.1,this.2⟩
    .intro i j oi fi oj fj hij h1 h2 n hn Z;cases j with
     |zero=>omega
     |succ j=>
      have hj:=L.names j oj fj (by simpa using h2) n Z;cases i with
      |zero=>
       simp at h1;obtain⟨rfl,rfl⟩:=h1;have a:=(hN n hn).2;have h4:nx'<=ow n:=hj.1;omega
      |succ i=>exact L.apart_ i j oi fi oj fj (by omega) (by simpa using h1) (by simpa using h2) n hn Z
   have runs:∀(e:i_),fX e s.h=fX s.e s.h->uv e s.h->gp am s.e e->(∀f,gW P o (fX s.e s.h) (bz s.h) f->LM P ops o f (fX s.e s.h) (bz s.h))->eo con b9 (zh P o.op) e s.h s.nx (λv rd wr h nx=>if Mk h v then Mh con b9 sl' ⟨Fa e o.dst v,h,nx⟩ (⟨rd,wr⟩::fs) K else D)=M r->∃s' fs' l,K s' (fs.reverse++fs')=M r/\afd P ops (o::rest) (⟨o.dst,zh P o.op,g⟩::sl') am s s' fs' l:=by
    intro e hee hiE hke hstep hk;obtain⟨v,rd,wr,h',nx',z,T⟩:=alb hcon hH hiE rfl hk;simp only[]at z;split at z
    .rename_i hok;obtain⟨f,t1,t2,t3,t4,t5,t6⟩:=T.ex;rw[hee]at t1;obtain⟨y,hy⟩:=pJ h' v hok;refine done f v h' nx' rd wr e hee hiE hke (hstep f t1) ⟨y,hy,t2 y hy⟩ t3 t4 t5 t6 T.rows T.inv T.grows (λhs=>?_) z;obtain⟨r0,w0⟩:=T.st hs;subst r0;subst w0;constructor
     .cases hl:f.rd with
      |nil=>rfl
      |cons n q=>have:=t4 n (by rw[hl];simp);simp at this
     .cases hl:f.wr with
      |nil=>rfl
      |cons n q=>have:=t5 n (by rw[hl];simp);simp at this
    .cases z
   have skips:∀(e:i_),fX e s.h=fX s.e s.h->uv e s.h->gp am s.e e->LM P ops o sG (fX s.e s.h) (bz s.h)->Mh con b9 sl' ⟨Fa e o.dst .undef,s.h,s.nx⟩ (⟨0,0⟩::fs) K=M r->∃s' fs' l,K s' (fs.reverse++fs')=M r/\afd P ops (o::rest) (⟨o.dst,zh P o.op,g⟩::sl') am s s' fs' l:=by
    intro e hee hiE hke hstep hk;exact done sG .undef s.h s.nx 0 0 e hee hiE hke hstep ⟨_,rfl,rfl⟩ (by funext i;simp[fc,sG]) (by simp[sG]) (by simp[sG]) (by simp[sG]) (ch.refl _) hH (bX _) (λ_=>⟨rfl,rfl⟩) hk
   rcases U9 hk with ⟨h1,hk⟩|⟨t,want,b,h1,hb,hk⟩|⟨t,want,h1,hb,hk⟩
   .refine runs s.e rfl A (gp.refl _ _) (λf hf=>?_) hk;rcases hg with ⟨_,hg⟩|⟨j,want,t,h2,_,_⟩
    .exact .run hg hf
    .rw[h1]at h2;cases h2
   .rcases hg with ⟨h2,_⟩|⟨j,want',t',h2,a,h4⟩
    .rw[h1]at h2;cases h2
    .rw[h1]at h2;cases h2;have hgt:=hgs t want h1;have heb:fX s.e s.h t=M (.f (.raw (.bool b))):=by simp only[fX,hb,aG,cA];rfl
     have hke:gp am s.e (s.e.set t (M (.f .bool b))):=λk hk v' hv=>by
      rw[PT.get_set]at hv;split at hv
      .rename_i ek;rw[ek,hgt]at hk;cases hk
      .exact⟨v',hv,λ_=>rfl⟩
     cases hbw:(b==want) with
     |true=>
      rw[hbw]at hk;have:b=want:=by simpa using hbw
      subst this;exact runs _ (S7 hb) (A.set hb) hke (λf hf=>.runG j t b a h4 heb hf) hk
     |false=>
      rw[hbw]at hk;refine skips _ (S7 hb) (A.set hb) hke (.skip j t want a h4 (.bool b) heb ?_ rfl) hk;intro hv;cases hv;simp at hbw
   .rcases hg with ⟨h2,_⟩|⟨j,want',t',h2,a,h4⟩
    .rw[h1]at h2;cases h2
    .rw[h1]at h2;cases h2;exact skips _ rfl A (gp.refl _ _) (.skip j t want a h4 undef (by simp only[fX,hb,aG,cA]) (by unfold undef;simp) rfl) hk
  .cases hc
theorem ah7 {P:Program} {ops:Array Oper} {sl:Y tC} {am:Nat} {s s':TS} {fs:Y FPm} {l:Y (Oper×B')} {prs:Y (Nat×Nat)} (hl:afd P ops ops.toList sl am s s' fs l) (hp:NF ops sl=M prs) (hok:Gq fs prs=J):NIP ops l:=by
 unfold NF at hp;simp only[]at hp;split at hp
 .rename_i hall;simp only[gF,lK,al]at hall;simp only[ah]at hp;have hop:∀(j:Nat) o f,l[j]? =M (o,f)->ops[j]? =M o:=λj o f hj=>by
   have h1:(l.map (·.1))[j]? =M o:=by rw[bc,hj];rfl
   rw[hl.ops_]at h1;simpa using h1
  have hsize:∀(j:Nat) o,ops[j]? =M o->j<ops.size:=λj o h=>(cI.1 h).1
  have hprs:∀i j,(i,j)∈prs->∃a b,fs[i]? =M a/\fs[j]? =M b/\Ep a.wr b.rd=J/\Ep a.wr b.wr=J/\Ep b.wr a.rd=J:=by
   clear hp hall;induction prs with
   |nil=>intro i j h;cases h
   |cons p prs ih=>
    obtain⟨i0,j0⟩:=p;simp only[Gq,al,Yt]at hok;intro i j hm;rcases bl.1 hm with h|h
    .cases h;have h1:=hok.1;split at h1
     .rename_i a b ha hb;simp only[al]at h1;exact⟨a,b,ha,hb,h1.1.1,h1.1.2,h1.2⟩
     .cases h1
    .exact ih hok.2 i j h
  refine ⟨λj o ho e he hb=>?_,λi j oi fi oj fj hij hi hj=>?_,hl.apart_⟩
  .have:=(hall j (hsize j o ho)).1;rw[ho]at this;simp only[Option.all_some,gF]at this;have:=this e (by simpa using he);simp[hb]at this;exact this
  .have h1:=hop i oi fi hi;have h2:=hop j oj fj hj;have hcase:=(hall j (hsize j oj h2)).2 i hij;rw[h1,h2]at hcase;simp only[jf]at hcase;by_cases L:aN ((LC ops.toList []).getD j 0) i=J
   .left;rw[av]at L;cases z:(LC ops.toList [])[j]? with
    |none=>rw[z]at L;simp at L
    |some B=>
     rw[z]at L;exact OL (ops:=ops) ops.toList [] (λj o hj=>by simpa using hj) (λj B hj=>by simp at hj) j B z i (by simpa using L)
   .right;have hap:=hcase.resolve_left L;refine ⟨hap,?_⟩;have hil:i<l.length:=(bn.1 hi).1;have hjl:j<l.length:=(bn.1 hj).1;have hsi:=ay (show i<sl.length by rw[hl.sll];exact hil);have hsj:=ay (show j<sl.length by rw[hl.sll];exact hjl);by_cases hst:(sl[i]'(by rw[hl.sll];exact hil)).op.still=J
    .obtain⟨Z,U⟩:=hl.still i oi fi _ hi hsi hst;rw[Z,U];exact⟨(λx z=>by cases z),(λx _ z=>by cases z)⟩
    .by_cases hst2:(sl[j]'(by rw[hl.sll];exact hjl)).op.still=J
     .obtain⟨Z,U⟩:=hl.still j oj fj _ hj hsj hst2;rw[Z,U];exact⟨(λx z=>⟨(by simp),(by simp)⟩),(λx z=>by cases z)⟩
     .have hmem:(i,j)∈prs:=by
       rw[<- hp,vN];refine ⟨j,lK.2 (hsize j oj h2),?_⟩;rw[List.mem_filterMap];refine ⟨i,lK.2 hij,?_⟩;rw[ax];rw[hsi,hsj];simp only[jf,not_or];exact⟨L,hst,hst2⟩
      obtain⟨a,b,ha,hb,d1,d2,d3⟩:=hprs i j hmem;obtain⟨f1,f2⟩:=hl.fp i oi fi a hi ha;obtain⟨g1,g2⟩:=hl.fp j oj fj b hj hb;refine ⟨λx z=>⟨λA=>?_,λA=>?_⟩,λx z A=>?_⟩
      .have:=yz d1 (ow x) (f2 x z);rw[g1 x A]at this;cases this
      .have:=yz d2 (ow x) (f2 x z);rw[g2 x A]at this;cases this
      .have:=yz d3 (ow x) (g2 x z);rw[f1 x A]at this;cases this
 .cases hp
structure pm (P:Program) (E:Nat->Prop) (nt np:Nat) (φ:PM) (s:TS) (a:Act) (w:World):Prop where
 rep:rK φ E (bz s.h) w
 env:OV φ (tot E φ (bz s.h)) w (fX s.e s.h) a
 dom:∀n k,φ n=M k->ow n<s.nx
 low:np<=s.nx
 invH:mE s.h s.nx
 invE:uv s.e s.h
 inert:∀d∈a.defers,afx P d
 size:a.tmps.size=nt
structure CV (np:Nat) (φ φ':PM) (H H':HF) (w w':World):Prop where
 ext:I2 (own φ H) w w'
 own_:∀k,k<w.heap.size->own φ' H' k->own φ H k
 par:∀i,i<np->φ' (nm i)=φ (nm i)
theorem CV.refl (np:Nat) (φ:PM) (H:HF) (w:World):CV np φ φ H H w w:=⟨I2.refl _ _,λ_ _ h=>h,λ_ _=>rfl⟩
theorem CV.trans {np:Nat} {φ φ' φ'':PM} {H H' H'':HF} {w w' w'':World} (a:CV np φ φ' H H' w w') (b:CV np φ' φ'' H' H'' w' w''):CV np φ φ'' H H'' w w'' where
 ext:=⟨b.ext.os.trans a.ext.os,b.ext.tape.trans a.ext.tape,b.ext.output.trans a.ext.output,dz a.ext.size b.ext.size,
  λk hk s=>(b.ext.blk k (dK hk a.ext.size) (λh=>s (a.own_ k hk h))).trans (a.ext.blk k hk s),
  λk hk=>(b.ext.shp k (dK hk a.ext.size)).trans (a.ext.shp k hk)⟩
 own_:=λk hk h=>a.own_ k hk (b.own_ k (dK hk a.ext.size) h)
 par:=λi hi=>(b.par i hi).trans (a.par i hi)
theorem ack {R:Type} {P:Program} {E:Nat->Prop} {nt np:Nat} {φ:PM} {s:TS} {a:Act} {w:World} {con:FuncId->I co} {b9:TypeId->I Ty} (hm:P.follows .mixedOrders=J) (hcon:LZ P con) (c:pm P E nt np φ s a w) {id:Nat} {ops:Array Oper} {draw:Bool} {sl:Y tC} {prs:Y (Nat×Nat)} {am:Nat} (ham:∀(j:Nat) (o:Oper) (d:Nat),ops[j]? =M o->o.dst=M d->aN am d=J)
 (hd:(ops.toList.all λo=>match o.dst with|some d=>decide (d<nt)|none=>J)=J) (hc:sS P ops ops.toList=M sl) (hp:NF ops sl=M prs) {K:TS->I R} {r:R} (hr:Mh con b9 sl s [] (λs' fs=>if Gq fs prs then K s' else D)=M r) {Q:Exit->Act->World->Prop}
 (hQ:∀a' w' s' φ',K s'=M r->pm P E nt np φ' s' a' w'->CV np φ φ' (bz s.h) (bz s'.h) w w'->gp am s.e s'.e->Q .normal a' w'):(Code.region id ops draw).wp P Q a w:=by
 obtain⟨s',fs',l,A,L⟩:=Jo hcon ham ops.toList sl s [] _ r (λo Z=>by
  obtain⟨j,hj⟩:=fw Z;exact⟨j,by simpa using hj⟩) hc hr c.invH c.invE
 have A:(if Gq fs' prs then K s' else D)=M r:=A;by_cases hok:Gq fs' prs=J
 .rw[aC hok]at A;refine RD (φ0:=φ) (E:=E) hm L.ops_ L.chain (ah7 L hp hok) ?_ ?_ c.rep c.env ?_
  .intro n hn;obtain⟨p,z,hn⟩:=vN.1 hn;obtain⟨j,hj⟩:=fw z;have:=L.names j p.1 p.2 hj n hn;cases U:φ n with
   |none=>rfl
   |some k=>have:=c.dom n k U;omega
  .intro j o Z d hd';have:=gF.1 hd o (by have:=Array.mem_of_getElem? Z;simpa using this);rw[hd']at this;rw[c.size];simpa using this
  .rintro a' w' ⟨φ',m',d',r',en',df',sz'⟩;have hnm:∀n k,φ' n=M k->φ n=M k\/(s.nx<=ow n/\ow n<s'.nx):=λn k hik=>by
    rcases d' n k hik with h|h
    .exact .inl h
    .obtain⟨p,z,hn⟩:=vN.1 h;obtain⟨j,hj⟩:=fw z;exact .inr (L.names j p.1 p.2 hj n hn)
   have hg:=L.grows;have hlow:=c.low;refine hQ a' w' s' φ' A ⟨r',en',λn k hik=>?_,by omega,L.invH,L.invE,by rw[df'];exact c.inert,by rw[sz'];exact c.size⟩ ⟨m'.ext,m'.own_,λi hi=>?_⟩ L.keeps
   .rcases hnm n k hik with h|h
    .have:=c.dom n k h;omega
    .exact h.2
   .cases U:φ (nm i) with
    |some k=>exact m'.sub _ _ U
    |none=>
     cases hy:φ' (nm i) with
     |none=>rfl
     |some k=>
      rcases hnm (nm i) k hy with h|h
      .rw[U]at h;cases h
      .rw[ef]at h;omega
 .rw[ax hok]at A;cases A
theorem AB:∀(l:Y tC) (acc:Nat),QR l acc=acc|||QR l 0
 |[],acc=>by simp[QR]
 |o::r,acc=>by
  simp only[QR];cases o.dst with
  |none=>exact AB r acc
  |some d=>simp only[];rw[AB r (acc|||kN d),AB r (0|||kN d),zk,kZ]
theorem AT:∀(l:ι) (acc:Nat),Mn l acc=acc|||Mn l 0
 |[],acc=>by simp[Mn]
 |k::r,acc=>by simp only[Mn];rw[AT r (acc|||kN k),AT r (0|||kN k),zk,kZ]
theorem lG:∀(l:Y Adj) (acc:Nat),mS l acc=acc|||mS l 0
 |[],acc=>by simp[mS]
 |.nil k _ _::r,acc=>by simp only[mS];rw[lG r (acc|||kN k),lG r (0|||kN k),zk,kZ]
 |.cel _ _ _ _::r,acc=>by simp only[mS];exact lG r acc
 |.mpt _ _ _::r,acc=>by simp only[mS];exact lG r acc
 |.mz _ _::r,acc=>by simp only[mS];exact lG r acc
 |.ren k _::r,acc=>by simp only[mS];rw[lG r (acc|||kN k),lG r (0|||kN k),zk,kZ]
 |.pk _ _ _::r,acc=>by simp only[mS];exact lG r acc
theorem iP:∀(c:TC) (acc:Nat),c.asg acc=acc|||c.asg 0
 |.reg ops _,acc=>AB ops acc
 |.seq a b,acc=>by simp only[TC.asg];rw[iP b (a.asg acc),iP b (a.asg 0),iP a acc,kZ]
 |.jseq A a b,acc=>by simp only[TC.asg];rw[iP b (a.asg _),iP b (a.asg (Mn A.ks 0)),iP a (Mn A.ks acc),iP a (Mn A.ks 0),AT A.ks acc,kZ,kZ,kZ]
 |.cond _ a b,acc=>by simp only[TC.asg];rw[iP b (a.asg acc),iP b (a.asg 0),iP a acc,kZ]
 |.block _ b,acc=>iP b acc
 |.jblock A _ b,acc=>by simp only[TC.asg];rw[iP b (Mn A.ks acc),iP b (Mn A.ks 0),AT A.ks acc,kZ]
 |.loop A b,acc=>by simp only[TC.asg];rw[iP b (Mn A.ks acc),iP b (Mn A.ks 0),AT A.ks acc,kZ]
 |.defer _ _ t,acc=>by simp[TC.asg]
 |.adj l c,acc=>by simp only[TC.asg];rw[iP c (mS l acc),iP c (mS l 0),lG l acc,kZ]
 |.split _ _ _ _ c,acc=>iP c acc
 |.unl _ b,acc=>iP b acc
 |.skip,acc=>by simp[TC.asg]
 |.exit _,acc=>by simp[TC.asg]
 |.ret,acc=>by simp[TC.asg]
 |.bad,acc=>by simp[TC.asg]
theorem wj {c:TC} {acc k:Nat} (h:aN (c.asg 0) k=J):aN (c.asg acc) k=J:=by rw[iP,bt,h];simp
theorem kL {c:TC} {acc k:Nat} (h:aN acc k=J):aN (c.asg acc) k=J:=by rw[iP,bt,h];rfl
theorem Yj:∀{l:ι} {acc k:Nat},k∈l->aN (Mn l acc) k=J
 |[],_,_,h=>by cases h
 |x::r,acc,k,h=>by
  simp only[Mn];rcases bl.1 h with rfl|h
  .rw[AT,bt,bt,bZ.2 rfl];simp
  .exact Yj h
theorem Up:∀{l:Y tC} {acc:Nat} {o:tC} {d:Nat},o∈l->o.dst=M d->aN (QR l acc) d=J
 |[],_,_,_,h,_=>by cases h
 |x::r,acc,o,d,h,hd=>by
  simp only[QR];rcases bl.1 h with rfl|h
  .rw[hd];simp only[];rw[AB,bt,bt,bZ.2 rfl];simp
  .exact Up h hd
theorem Yr:∀{e:i_} {ks:ι} {vs:Y TV},oF e ks=M vs->vs.length=ks.length/\∀(j k:Nat),ks[j]? =M k->∃v,vs[j]? =M v/\e.get k=M v
 |e,[],vs,h=>by simp only[oF,ah]at h;subst h;exact⟨rfl,by simp⟩
 |e,k::r,vs,h=>by
  simp only[oF]at h;split at h
  .rename_i v hv;split at h
   .rename_i l hl;simp only[ah]at h;subst h;obtain⟨h1,h2⟩:=Yr hl;refine ⟨by simp[h1],λj k' hj=>?_⟩;cases j with
    |zero=>simp at hj;subst hj;exact⟨v,rfl,hv⟩
    |succ j=>simpa using h2 j k' (by simpa using hj)
   .cases h
  .cases h
theorem Jr {e:i_} {h:bk} (hi:uv e h):∀{ks:ι} {vs:Y TV},oF e ks=M vs->lm h vs=J
 |[],vs,hg=>by simp only[oF,ah]at hg;subst hg;rfl
 |k::r,vs,hg=>by
  simp only[oF]at hg;split at hg
  .rename_i v hv;split at hg
   .rename_i l hl;simp only[ah]at hg;subst hg;simp only[lm,al];exact⟨hi k v hv,Jr hi hl⟩
   .cases hg
  .cases hg
theorem Df:∀{e:i_} {ks:ι} {vs:Y TV},vs.length=ks.length->∀t v,(Zc e ks vs).get t=M v->(∃j:Nat,ks[j]? =M t/\vs[j]? =M v)\/(t∉ks/\e.get t=M v)
 |e,[],[],_,t,v,h=>.inr ⟨by simp,h⟩
 |e,[],_::_,hl,t,v,h=>by simp at hl
 |e,_::_,[],hl,t,v,h=>by simp at hl
 |e,k::r,u::l,hl,t,v,h=>by
  simp only[Zc,PT.get_set]at h;split at h
  .rename_i a;subst a;cases h;exact .inl ⟨0,rfl,rfl⟩
  .rename_i a;rcases Df (by simpa using hl) t v h with ⟨j,h1,h2⟩|⟨h1,h2⟩
   .exact .inl ⟨j+1,by simpa using h1,by simpa using h2⟩
   .exact .inr ⟨by simp[a,h1],h2⟩
theorem uA {am:Nat} {e:i_}:∀{ks:ι} {k:Nat} {v:TV},(DB am e ks).get k=M v->k∈ks/\e.get k=M v/\vb v=J/\aN am k=af
 |[],k,v,h=>by simp[DB,PT.get]at h
 |x::r,k,v,h=>by
  simp only[DB]at h;split at h
  .rename_i u hu;split at h
   .rename_i hc;simp only[al,d_]at hc;rw[PT.get_set]at h;split at h
    .rename_i a;subst a;cases h;exact⟨by simp,hu,hc.1,hc.2⟩
    .obtain⟨h1,h2⟩:=uA h;exact⟨by simp[h1],h2⟩
   .obtain⟨h1,h2⟩:=uA h;exact⟨by simp[h1],h2⟩
  .obtain⟨h1,h2⟩:=uA h;exact⟨by simp[h1],h2⟩
theorem JK {am:Nat} {e0 e:i_}:∀{ks:ι},IG am e0 e ks=J->∀k v,k∈ks->e0.get k=M v->vb v=J->aN am k=af->∃s,e.get k=M s
 |[],_,k,v,h,_,_,_=>by cases h
 |x::r,hc,k,v,h,hv,hf,a=>by
  simp only[IG,al]at hc;rcases bl.1 h with rfl|h
  .have h1:=hc.1;rw[hv]at h1;simp only[hf,a,Bool.not_true,Bool.false_or]at h1;cases z:e.get k with
   |none=>rw[z]at h1;cases h1
   |some u=>exact⟨u,rfl⟩
  .exact JK hc.2 k v h hv hf a
section walk
variable {P:Program} {E:Nat->Prop} {nt np:Nat}
theorem S5 {h:bk} {v:TV} {y:AV} (hn:ahe v=J) (a:cA h v=M y):Le y .emp:=by
 cases v with
 |nil=>simp only[cA,ah]at a;subst a;exact Le.nilEmp
 |emp=>simp only[cA,ah]at a;subst a;exact Le.refl _
 |_=>cases hn
theorem YY {φ:PM} {s:TS} {a:Act} {w:World} (c:pm P E nt np φ s a w) (ty:TypeId) (T:Ty):pm P E nt np φ ⟨s.e,s.h.set s.nx (M (.rows ty J T [])),s.nx+1⟩ a w/\bz (s.h.set s.nx (M (.rows ty J T [])))=bz s.h/\ch s.h (s.h.set s.nx (M (.rows ty J T []))):=by
 have hfr:=c.invH.fresh;have hr:ch s.h (s.h.set s.nx (M (.rows ty J T []))):=ch.set λr hr=>by rw[bT,hfr]at hr;cases hr
 have L:bz (s.h.set s.nx (M (.rows ty J T [])))=bz s.h:=by
  funext n;by_cases hn:n=nm s.nx
  .subst hn;rw[bH,bH,PT.get_set,aC rfl,hfr];rfl
  .refine kK c.invH hr λi e=>?_
   subst e;rw[PT.get_set,ax (λe=>hn (by rw[e]))]
 refine ⟨⟨by rw[L];exact c.rep,?_,λn k hk=>AH (c.dom n k hk),iL c.low,c.invH.set hr (rE _) (Nat.le_succ _) (λ_ _ he=>by cases he),?_,c.inert,c.size⟩,L,hr⟩
 .intro t x A;rw[L];simp only[fX]at A;cases he:s.e.get t with
  |none=>rw[he]at A;cases A
  |some q=>
   rw[he]at A;obtain⟨z,U⟩:=pJ s.h q (c.invE t q he);simp only[aG,gA hr q z U,ah]at A;subst A;exact c.env t _ (by simp only[fX,he,aG,U])
 .intro t x A;exact ny hr x (c.invE t x A)
theorem zN {h:bk}:∀{a b:Y TV},lm h a=J->lm h b=J->lm h (a++b)=J
 |[],_,_,hb=>hb
 |x::r,b,s,hb=>by
  simp only[lm,al]at s;simp only[gE,lm,al];exact⟨s.1,zN s.2 hb⟩
theorem NG {h:bk}:∀{a:Y TV} (n:Nat),lm h a=J->lm h (a.take n)=J
 |[],n,_=>by simp[lm]
 |x::r,0,_=>rfl
 |x::r,n+1,s=>by
  simp only[lm,al]at s;simp only[wL,lm,al];exact⟨s.1,NG n s.2⟩
theorem NH {h:bk}:∀{a:Y TV} (n:Nat),lm h a=J->lm h (a.drop n)=J
 |[],n,_=>by simp[lm]
 |x::r,0,s=>s
 |x::r,n+1,s=>by
  simp only[lm,al]at s;simp only[wO];exact NH n s.2
theorem zE {α:Type} {l:Y α} {j:Nat} {x:α} (h:l[j]? =M x):splice l j [x]=l:=by
 have hl:j<l.length:=by
  rcases ci j l.length with h'|h'
  .exact h'
  .rw[bG h']at h;cases h
 rw[ay hl,ah]at h;unfold splice;subst h;simp
theorem af3 {φ:PM} {s:TS} {a:Act} {w:World} (c:pm P E nt np φ s a w) {id j:Nat} {cty:I TypeId} {l:Y TV} {v u:TV} (hb:s.h.get id=M (.cells cty l)) (hv:l[j]? =M v) (hn:ahe v=J) (hu:cA s.h u=M .emp) (huo:Mk s.h u=J):
 pm P E nt np φ ⟨s.e,s.h.set id (M (.cells cty (splice l j [u]))),s.nx⟩ a w/\CV np φ φ (bz s.h) (bz (s.h.set id (M (.cells cty (splice l j [u]))))) w w:=by
 have hr:ch s.h (s.h.set id (M (.cells cty (splice l j [u])))):=ch.set λr hr=>by rw[bT,hb]at hr;cases hr
 have hlo:=c.invH.cells id _ l hb;obtain⟨L,U⟩:=fx s.h l hlo;have hsp:cO s.h (splice l j [u])=M (splice L j [.emp]):=qz j U (by simp only[cO,hu]);have hsp':cO (s.h.set id (M (.cells cty (splice l j [u])))) (splice l j [u])=M (splice L j [.emp]):=gw hr _ _ hsp;obtain⟨y,hy,hey⟩:=lE U j v hv;have hold:bz s.h (nm id)=M (YL cty L):=by rw[bH,hb];cases cty<;>(simp only[aG,jN,U];rfl)
 have hnew:bz (s.h.set id (M (.cells cty (splice l j [u])))) (nm id)=M (YL cty (splice L j [.emp])):=by
  rw[bH,PT.get_set,aC rfl];cases cty<;>(simp only[aG,jN,hsp'];rfl)
 have hoth:∀n,n≠nm id->bz (s.h.set id (M (.cells cty (splice l j [u])))) n=bz s.h n:=λn hn'=>by
  refine kK c.invH hr λi e=>?_
  subst e;rw[PT.get_set,ax (λe=>hn' (by rw[e]))]
 have hdom:vL (bz s.h) (bz (s.h.set id (M (.cells cty (splice l j [u]))))):=λn b Z=>by
  by_cases e:n=nm id
  .subst e;exact⟨_,hold⟩
  .rw[hoth n e]at Z;exact⟨b,Z⟩
 have hcell:∀ty,cty=M ty->∀x∈L,x.isCell=J:=λty hty x A=>by
  subst hty;obtain⟨k,hk⟩:=fw A;obtain⟨q,_,_,hat⟩:=c.rep.at_ _ _ hold;unfold Y8 at hat;obtain⟨ob,_,hob⟩:=hat;rw[show YL (M ty) L=⟨ty,.mx L⟩ from rfl,ql rfl]at hob;obtain⟨arr,_,hca⟩:=hob;exact (hca.2 k x hk).1
 have hV:Ii (bz s.h) (bz (s.h.set id (M (.cells cty (splice l j [u]))))):=⟨hdom,λn b b' h1 h2=>by
  by_cases e:n=nm id
  .subst e;rw[hold]at h1;cases h1;rw[hnew]at h2;cases h2;have hle:ij (bz s.h) (bz (s.h.set id (M (.cells cty (splice l j [u]))))) L (splice L j [.emp]):=by
    have:=ij.splice j (ij.refl hdom L) (b:=[y]) (b':=[.emp]) ⟨(S5 hn hey).toH hdom,trivial⟩;rw[zE hy]at this;exact this
   cases cty with
   |none=>exact iQ.told hle
   |some ty=>
    refine iQ.cells rfl rfl hle λx A=>?_
    have A:x∈splice L j [.emp]:=A;unfold splice at A;rw[bP,bP,aJ]at A;rcases A with (A|A)|A
    .exact hcell ty rfl x (gg A)
    .subst A;rfl
    .exact hcell ty rfl x (List.mem_of_mem_drop A)
  .rw[hoth n e,h1]at h2;cases h2;exact iQ.refl hdom b⟩
 refine ⟨⟨hV.rep c.rep,?_,c.dom,c.low,c.invH.set hr (c.invH.low id _ hb) (bX _) (λty l2 he=>?_),?_,c.inert,c.size⟩,⟨I2.refl _ _,λk _ ho=>hdom.own ho,λ_ _=>rfl⟩⟩
 .intro t x A;simp only[fX]at A;cases he:s.e.get t with
  |none=>rw[he]at A;cases A
  |some q=>
   rw[he]at A;obtain⟨z,hz⟩:=pJ s.h q (c.invE t q he);simp only[aG,gA hr q z hz,ah]at A;subst A;exact (c.env t _ (by simp only[fX,he,aG,hz])).dom hdom
 .simp only[iw.cells.injEq]at he;obtain⟨_,rfl⟩:=he;refine jg hr _ ?_;unfold splice;exact zN (zN (NG _ hlo) (by simp only[lm,huo,jO])) (NH _ hlo)
 .intro t x A;exact ny hr x (c.invE t x A)
theorem pm.congr {φ:PM} {s s':TS} {a:Act} {w:World} (c:pm P E nt np φ s a w) (he:∀t,s'.e.get t=s.e.get t) (hh:∀i,s'.h.get i=s.h.get i) (hn:s'.nx=s.nx):pm P E nt np φ s' a w/\bz s'.h=bz s.h:=by
 have hr:ch s.h s'.h:=λi r hi=>by rw[bT]at hi ⊢;rw[hh];exact hi
 have L:bz s'.h=bz s.h:=by funext n;exact kK c.invH hr λi _=>hh i
 refine ⟨⟨by rw[L];exact c.rep,?_,by rw[hn];exact c.dom,by rw[hn];exact c.low,⟨λi ty l hg=>?_,λi b hg=>?_⟩,λt v hv=>?_,c.inert,c.size⟩,L⟩
 .intro t x A;rw[L];simp only[fX,he]at A;cases hg:s.e.get t with
  |none=>rw[hg]at A;cases A
  |some v=>
   rw[hg]at A;obtain⟨z,U⟩:=pJ s.h v (c.invE t v hg);simp only[aG,gA hr v z U,ah]at A;subst A;exact c.env t _ (by simp only[fX,hg,aG,U])
 .rw[hh]at hg;exact jg hr l (c.invH.cells i _ l hg)
 .rw[hh]at hg;rw[hn];exact c.invH.low i b hg
 .rw[he]at hv;exact ny hr v (c.invE t v hv)
theorem Rt {R:Type} {v:Int} {f:Nat->I R} {r:R}:∀{m i:Nat},spl v f i m=M r->∃j,v=aM j/\f j=M r
 |0,i,h=>by cases h
 |m+1,i,h=>by
  simp only[spl]at h;rcases qd h with ⟨h1,h2⟩|⟨_,h2⟩
  .exact⟨i,bf h1,h2⟩
  .exact Rt h2
theorem acg {φ:PM} {s s':TS} {a:Act} {w:World} (c:pm P E nt np φ s a w) {k off:Nat} {kd:IntKind} {v:Int} (h1:adg s k off=M (kd,v)) (h2:Vj s k off kd v=M s'):pm P E nt np φ s' a w/\bz s'.h=bz s.h/\∀t,s'.e.get t=s.e.get t:=by
 unfold adg at h1;unfold Vj at h2;cases hk:s.e.get k with
 |none=>rw[hk]at h1;cases h1
 |some x=>
  rw[hk]at h1 h2;cases x with
  |f T q=>
   cases T with
   |int kd'=>
    simp only[ah,aE]at h1;obtain⟨rfl,rfl⟩:=h1;simp only[ah]at h2;subst h2;have he:∀t,(s.e.set k (M (.f (.int kd') q))).get t=s.e.get t:=λt=>by
     rw[PT.get_set];split
     .rename_i e;subst e;exact hk.symm
     .rfl
    obtain⟨A,z⟩:=c.congr (s':=⟨s.e.set k (M (.f (.int kd') q)),s.h,s.nx⟩) he (λ_=>rfl) rfl;exact⟨A,z,he⟩
   |_=>cases h1
  |ptr a0 o0=>
   simp only[]at h1 h2;cases hb:s.h.get a0 with
   |none=>rw[hb]at h1;cases h1
   |some b=>
    rw[hb]at h1 h2;cases b with
    |cells ty l=>
     cases ty with
     |none=>cases h1
     |some ty=>
     simp only[]at h1 h2;cases hl:l[o0+off]? with
     |none=>rw[hl]at h1;cases h1
     |some y=>
      rw[hl]at h1;cases y with
      |f T q=>
       cases T with
       |int kd'=>
        simp only[ah,aE]at h1;obtain⟨rfl,rfl⟩:=h1;simp only[ah]at h2;subst h2;have hh:∀i,(s.h.set a0 (M (.cells (M ty) (splice l (o0+off) [.f (.int kd') q])))).get i=s.h.get i:=λi=>by
         rw[PT.get_set];split
         .rename_i e;subst e;rw[hb,zE hl]
         .rfl
        obtain⟨A,z⟩:=c.congr (s':=⟨s.e,s.h.set a0 (M (.cells (M ty) (splice l (o0+off) [.f (.int kd') q]))),s.nx⟩) (λ_=>rfl) hh rfl;exact⟨A,z,λ_=>rfl⟩
       |_=>cases h1
      |_=>cases h1
    |_=>cases h1
  |_=>cases h1
mutual
theorem Nw (id sz n:Nat):∀v:TV,vb v=J->Mb id sz n v=v
 |.f _ _,_=>rfl
 |.fel _ _ _ _ _,_=>rfl
 |.emp,_=>rfl
 |.nil,_=>rfl
 |.undef,_=>rfl
 |.np,_=>rfl
 |.anyb,_=>rfl
 |.agg l,h=>by simp only[Mb];rw[Ch id sz n l h]
 |.tup l,h=>by simp only[Mb];rw[Ch id sz n l h]
 |.pel _ _ _ _,h=>by cases h
 |.ptr _ _,h=>by cases h
 |.csl _ _ _,h=>by cases h
 |.row _,h=>by cases h
 |.rtl _ _,h=>by cases h
 |.mp _,h=>by cases h
 |.clo _ _,h=>by cases h
theorem Ch (id sz n:Nat):∀l:Y TV,rf l=J->Dc id sz n l=l
 |[],_=>rfl
 |x::r,h=>by
  simp only[rf,al]at h;simp only[Dc];rw[Nw id sz n x h.1,Ch id sz n r h.2]
end
section subs
variable {id sz n:Nat} {h h':bk}
mutual
theorem Pd (hr:ch h h') (hid:eM h' id=M (af,sz,n)):∀(v:TV) (y:AV),cA h v=M y->cA h' (Mb id sz n v)=M y
 |.csl i s m,y,he=>by
  simp only[cA,ah]at he;subst he;simp only[Mb];split
  .rename_i hq;simp only[al]at hq;have e1:=ar hq.1.1;have e2:=ar hq.1.2;have e3:=ar hq.2;subst e1;subst e2;subst e3;simp only[cA,hid,fP,lO,cH,eh]
  .rfl
 |.agg l,y,he=>by
  simp only[cA]at he;cases hl:cO h l with
  |none=>rw[hl]at he;cases he
  |some l'=>rw[hl]at he;simp only[Mb,cA,wT hr hid l l' hl];exact he
 |.tup l,y,he=>by
  simp only[cA]at he;cases hl:cO h l with
  |none=>rw[hl]at he;cases he
  |some l'=>rw[hl]at he;simp only[Mb,cA,wT hr hid l l' hl];exact he
 |.clo g l,y,he=>by
  simp only[cA]at he;cases hl:cO h l with
  |none=>rw[hl]at he;cases he
  |some l'=>rw[hl]at he;simp only[Mb,cA,wT hr hid l l' hl];exact he
 |.f T v,y,he=>gA hr _ _ he
 |.fel T xs j hj off,y,he=>gA hr _ _ he
 |.pel _ _ _ _,y,he=>gA hr _ _ he
 |.ptr _ _,y,he=>gA hr _ _ he
 |.row _,y,he=>gA hr _ _ he
 |.rtl _ _,y,he=>gA hr _ _ he
 |.emp,y,he=>gA hr _ _ he
 |.nil,y,he=>gA hr _ _ he
 |.mp _,y,he=>gA hr _ _ he
 |.undef,y,he=>gA hr _ _ he
 |.np,y,he=>gA hr _ _ he
 |.anyb,y,he=>gA hr _ _ he
theorem wT (hr:ch h h') (hid:eM h' id=M (af,sz,n)):∀(l:Y TV) (l':Y AV),cO h l=M l'->cO h' (Dc id sz n l)=M l'
 |[],l',he=>by simp only[cO,ah]at he;subst he;rfl
 |x::r,l',he=>by
  obtain⟨y,l2,rfl,h1,h2⟩:=dg he;simp only[Dc];exact pE (Pd hr hid x y h1) (wT hr hid r l2 h2)
end
end subs
theorem ap6 {φ:PM} {s:TS} {a:Act} {w:World} (c:pm P E nt np φ s a w) {T:Ty} {id sz n:Nat} {s':TS} (hp:pkS s T id sz n=M s'):pm P E nt np φ s' a w/\CV np φ φ (bz s.h) (bz s'.h) w w/\gp 0 s.e s'.e:=by
 unfold pkS at hp;split at hp
 .rename_i ty l hb;split at hp
  .rename_i hs;have hs:=ar hs;subst hs;split at hp
   .rename_i xs m hpk;split at hp
    .cases hp
    .rename_i hmid;simp only[ah]at hp;subst hp;have hm:dY s.h m:=Pn n l xs m hpk;obtain⟨l',hl⟩:=fx s.h l (c.invH.cells id _ l hb);have hidlt:=c.invH.low id _ hb;have oF:∀i,((PT.updI (λ_ b=>Za id T.size n b) 1 0 (eK m s.h)).set id (M (.rows ty af T xs))).get i=if i=id then M (.rows ty af T xs) else if aN m i then (s.h.get i).map vW else (s.h.get i).map (Za id T.size n):=λi=>by
      rw[PT.get_set];by_cases e:i=id
      .rw[aC e,aC e]
      .rw[ax e,ax e,PT.get_updI,jk];split
       .cases hg:s.h.get i with
        |none=>rfl
        |some b=>cases b<;>rfl
       .rfl
     generalize hH2:((PT.updI (λ_ b=>Za id T.size n b) 1 0 (eK m s.h)).set id (M (.rows ty af T xs)))=h2 at oF ⊢;have hr:ch s.h h2:=λi r hi=>by
      rw[bT]at hi ⊢;rw[oF];by_cases e:i=id
      .subst e;rw[hb]at hi;cases hi
      .rw[ax e];cases hg:s.h.get i with
       |none=>rw[hg]at hi;cases hi
       |some b=>
        rw[hg]at hi;split
        .exact NA hi
        .cases b<;>first|exact hi|cases hi
     have hnone:∀i,aN m i=J->bz h2 (nm i)=D:=λi hi=>by
      have e:i≠id:=λe=>by subst e;exact hmid hi
      obtain⟨ty',p',T',xs',L⟩:=hm i hi;rw[bH,oF,ax e,aC hi,L];rfl
     have hdom:vL (bz s.h) (bz h2):=λq b hq=>by
      obtain⟨i,cc,rfl,A,h4⟩:=jL hq;rw[bH];rw[oF]at A;by_cases e:i=id
      .subst e;rw[hb];simp only[aG,jN,hl];exact⟨_,rfl⟩
      .rw[ax e]at A;cases hg:s.h.get i with
       |none=>rw[hg]at A;split at A<;>cases A
       |some b0=>
        rw[hg]at A;split at A
        .simp only[ct,ah]at A;subst A;cases b0<;>simp[vW,jN]at h4
        .simp only[ct,ah]at A;subst A;simp only[aG];cases b0 with
         |cells ty0 l0=>
          obtain⟨l0',Z⟩:=fx s.h l0 (c.invH.cells i _ l0 hg);exact⟨YL ty0 l0',by cases ty0<;>(simp only[jN,Z];rfl)⟩
         |rows=>exact⟨_,h4⟩
         |dead=>exact⟨_,h4⟩
         |mp=>exact⟨_,h4⟩
     have giv:E0 s.h (bz s.h) (bz h2) m:=λi hi=>⟨rfl,hnone i hi⟩
     obtain⟨hle,hlen⟩:=Dp hdom n l xs m l' hpk hl giv;have hrow:eM h2 id=M (af,T.size,n):=by rw[bT,oF,aC rfl,<-hlen];rfl
     have hV:Ii (bz s.h) (bz h2):=⟨hdom,λq b b' A h4=>by
      obtain⟨i,cc,rfl,h5,h6⟩:=jL h4;rw[bH]at A;rw[oF]at h5;by_cases e:i=id
      .subst e;rw[aC rfl]at h5;cases h5;rw[hb]at A;simp only[aG,jN,hl,ah]at A;subst A;simp only[jN,lO,cH,eh,ah]at h6;subst h6;refine iQ.cells rfl rfl hle λx L=>?_
       simp only[BC.toMx]at L;obtain⟨q,hq,rfl⟩:=dt.1 L;exact sq T _ q hq
      .rw[ax e]at h5;cases hg:s.h.get i with
       |none=>rw[hg]at h5;split at h5<;>cases h5
       |some b0=>
        rw[hg]at h5 A;split at h5
        .simp only[ct,ah]at h5;subst h5;cases b0<;>simp[vW,jN]at h6
        .simp only[ct,ah]at h5;subst h5;have:b=b':=by
          simp only[aG]at A;cases b0 with
          |cells ty0 l0=>
           obtain⟨l0',Z⟩:=fx s.h l0 (c.invH.cells i _ l0 hg);cases ty0<;>
            (simp only[jN,Z,ah]at A
             simp only[Za,jN,wT hr hrow l0 l0' Z,ah]at h6;rw[<- A,<-h6])
          |rows ty1 p1 T1 xs1=>
           have h3':jN h2 (.rows ty1 p1 T1 xs1)=M b:=A;exact kh (h3'.symm.trans h6)
          |dead p1 s1 n1=>
           have h3':jN h2 (.dead p1 s1 n1)=M b:=A;exact kh (h3'.symm.trans h6)
          |mp K1 V1 es1=>
           have h3':jN h2 (.mp K1 V1 es1)=M b:=A;exact kh (h3'.symm.trans h6)
         subst this;exact iQ.refl hdom b⟩
     refine ⟨⟨hV.rep c.rep,?_,c.dom,c.low,⟨λi ty' l2 hg=>?_,λi b hg=>?_⟩,?_,c.inert,c.size⟩,⟨I2.refl _ _,λk _ hk=>hdom.own hk,λ_ _=>rfl⟩,?_⟩
     .intro t x L;simp only[fX,PT.get_updI]at L;cases he:s.e.get t with
      |none=>rw[he]at L;cases L
      |some v=>
       rw[he]at L;obtain⟨z,hz⟩:=pJ s.h v (c.invE t v he);simp only[ct,aG,Pd hr hrow v z hz,ah]at L;subst L;exact (c.env t _ (by simp only[fX,he,aG,hz])).dom hdom
     .rw[oF]at hg;by_cases e:i=id
      .rw[aC e]at hg;cases hg
      .rw[ax e]at hg;cases hg0:s.h.get i with
       |none=>rw[hg0]at hg;split at hg<;>cases hg
       |some b0=>
        rw[hg0]at hg;split at hg
        .simp only[ct,ah]at hg;cases b0<;>simp[vW]at hg
        .simp only[ct,ah]at hg;cases b0 with
         |cells ty0 l0=>
          simp only[Za,iw.cells.injEq]at hg;obtain⟨_,rfl⟩:=hg;obtain⟨l0',Z⟩:=fx s.h l0 (c.invH.cells i _ l0 hg0);exact kg _ _ _ (wT hr hrow l0 l0' Z)
         |_=>cases hg
     .rw[oF]at hg;by_cases e:i=id
      .subst e;exact hidlt
      .rw[ax e]at hg;cases hg0:s.h.get i with
       |none=>rw[hg0]at hg;split at hg<;>cases hg
       |some b0=>exact c.invH.low i b0 hg0
     .intro t x L;simp only[PT.get_updI]at L;cases he:s.e.get t with
      |none=>rw[he]at L;cases L
      |some v=>
       rw[he]at L;simp only[ct,ah]at L;subst L;obtain⟨z,hz⟩:=pJ s.h v (c.invE t v he);exact FL _ _ _ (Pd hr hrow v z hz)
     .intro k _ v' U;simp only[PT.get_updI]at U;cases he:s.e.get k with
      |none=>rw[he]at U;cases U
      |some v=>
       rw[he]at U;simp only[ct,ah]at U;subst U;exact⟨v,rfl,λhf=>Nw _ _ _ v hf⟩
   .cases hp
  .cases hp
 .cases hp
theorem ap1 {φ:PM} {s:TS} {a:Act} {w:World} (c:pm P E nt np φ s a w) {k off:Nat} {s':TS} (h:Nc s (.ren k off)=M s'):∃φ',pm P E nt np φ' s' a w/\CV np φ φ' (bz s.h) (bz s'.h) w w/\gp (mS [.ren k off] 0) s.e s'.e:=by
 simp only[Nc]at h;split at h
 .rename_i b o hk;split at h
  .rename_i cty l hb;split at h
   .rename_i id hv;split at h
    .rename_i ty p T xs L;simp only[ah]at h;subst h;have hfr:=c.invH.fresh;have hidlt:=c.invH.low id _ L;have hblt:=c.invH.low b _ hb;have hbid:b≠id:=λe=>by rw[e,L]at hb;cases hb
     have hbn:b≠s.nx:=by omega
     have hin:id≠s.nx:=by omega
     generalize hh2:(((s.h.set id (M (.dead p T.size xs.length))).set s.nx (M (.rows ty p T xs))).set b (M (.cells (M cty) (splice l (o+off) [.row s.nx]))))=h2;have oF:∀i,h2.get i=if i=b then M (.cells (M cty) (splice l (o+off) [.row s.nx])) else if i=s.nx then M (.rows ty p T xs) else if i=id then M (.dead p T.size xs.length) else s.h.get i:=λi=>by
      rw[<- hh2,PT.get_set,PT.get_set,PT.get_set]
     have hr:ch s.h h2:=λi r hi=>by
      rw[bT]at hi ⊢;rw[oF];by_cases e1:i=b
      .subst e1;rw[hb]at hi;cases hi
      .rw[ax e1];by_cases e2:i=s.nx
       .subst e2;rw[hfr]at hi;cases hi
       .rw[ax e2];by_cases e3:i=id
        .subst e3;rw[aC rfl];rw[L]at hi;exact hi
        .rw[ax e3];exact hi
     have hlo:=c.invH.cells b _ l hb;obtain⟨l',hl'⟩:=fx s.h l hlo;have hrow:cA h2 (.row s.nx)=M (fP p s.nx T.size xs.length):=by
      simp only[cA,bT,oF];rw[ax hbn.symm];simp only[bI,aG,nk]
     have hsp:cO h2 (splice l (o+off) [.row s.nx])=M (splice l' (o+off) [fP p s.nx T.size xs.length]):=qz _ (gw hr _ _ hl') (by simp only[cO,hrow]);obtain⟨y,hy,hey⟩:=lE hl' _ _ hv;have hy0:y=fP p id T.size xs.length:=by
      simp only[cA,bT,L,aG,nk,ah]at hey;exact hey.symm
     subst hy0;have hold:bz s.h (nm b)=M ⟨cty,.mx l'⟩:=by rw[bH,hb];simp only[aG,jN,hl']
     have hnew:bz h2 (nm b)=M ⟨cty,.mx (splice l' (o+off) [fP p s.nx T.size xs.length])⟩:=by
      rw[bH,oF,aC rfl];simp only[aG,jN,hsp]
     have hdead:bz h2 (nm id)=D:=by rw[bH,oF,ax hbid.symm,ax hin,aC rfl];rfl
     have hnx2:bz h2 (nm s.nx)=if p&&xs.length==0 then D else M ⟨ty,.fz (xs.flatMap (bV T))⟩:=by rw[bH,oF,ax hbn.symm,aC rfl];rfl
     have hid0:bz s.h (nm id)=if p&&xs.length==0 then D else M ⟨ty,.fz (xs.flatMap (bV T))⟩:=by rw[bH,L];rfl
     have hoth:∀n,n≠nm b->n≠nm s.nx->n≠nm id->bz h2 n=bz s.h n:=λn e1 e2 e3=>kK c.invH hr λi e=>by
      subst e;rw[oF,ax (λe=>e1 (by rw[e])),ax (λe=>e2 (by rw[e])),ax (λe=>e3 (by rw[e]))]
     have hnb:nm b≠nm s.nx:=λe=>hbn (lq e)
     have hbi:nm b≠nm id:=λe=>hbid (lq e)
     have hni:nm s.nx≠nm id:=λe=>hin (lq e).symm
     have hinv:mE h2 (s.nx+1):=by
      refine ⟨λi ty2 l2 hil=>?_,λi q hiq=>?_⟩
      .rw[oF]at hil;split at hil
       .simp only[ah,iw.cells.injEq]at hil;obtain⟨_,rfl⟩:=hil;exact kg _ _ _ hsp
       .split at hil
        .cases hil
        .split at hil
         .cases hil
         .exact jg hr l2 (c.invH.cells i _ l2 hil)
      .rw[oF]at hiq;split at hiq
       .omega
       .split at hiq
        .omega
        .split at hiq
         .omega
         .have:=c.invH.low i q hiq;omega
     have hE:∀t x,fX s.e h2 t=M x->fX s.e s.h t=M x:=λt x A=>by
      simp only[fX]at A ⊢;cases he:s.e.get t with
      |none=>rw[he]at A;cases A
      |some q=>
       rw[he]at A;obtain⟨z,hz⟩:=pJ s.h q (c.invE t q he);simp only[aG,gA hr q z hz,ah]at A;subst A;simp only[aG,hz]
     by_cases hp:(p&&xs.length==0)=J
     ·
      have hH:bz h2=bz s.h:=by
       funext n;by_cases e1:n=nm b
       .subst e1;rw[hold,hnew];have:fP p s.nx T.size xs.length=fP p id T.size xs.length:=by unfold fP;rw[aC hp,aC hp]
        rw[this,zE hy]
       .by_cases e2:n=nm s.nx
        .subst e2;rw[hnx2,aC hp,bH,hfr];rfl
        .by_cases e3:n=nm id
         .subst e3;rw[hdead,hid0,aC hp]
         .exact hoth n e1 e2 e3
      refine ⟨φ,⟨by rw[hH];exact c.rep,λt x A=>by rw[hH];exact c.env t x (hE t x A),λn q hq=>AH (c.dom n q hq),iL c.low,hinv,λt x A=>ny hr x (c.invE t x A),c.inert,c.size⟩,by rw[hH];exact CV.refl _ _ _ _,gp.refl _ _⟩
     .have hid1:bz s.h (nm id)=M ⟨ty,.fz (xs.flatMap (bV T))⟩:=by rw[hid0,ax hp]
      obtain⟨kk,k1,k2,ob,k3,k4⟩:=c.rep.at_ _ _ hid1;have hφn:φ (nm s.nx)=D:=by
       cases hq:φ (nm s.nx) with
       |none=>rfl
       |some q=>have:=c.dom _ q hq;rw[ef]at this;omega
      let nw:HF:=λn=>if n=nm s.nx then M ⟨ty,.fz (xs.flatMap (bV T))⟩ else D
      have hsh:Gb w w kk ob:=⟨rfl,rfl,rfl,rfl,k3,λ_ _=>rfl,λ_=>rfl⟩
      obtain⟨φ',p1,p2,p3,p4⟩:=c.rep.wren hid1 k1 hφn hsh k4 nw (by simp[nw]) (by simp only[nw];rw[ax hni.symm]);have hb1:fc (bz s.h) [nm s.nx,nm id] nw (nm b)=M ⟨cty,.mx l'⟩:=by
       unfold fc;rw[ax (by simp[hnb,hbi]),hold]
      obtain⟨kb,b1,b2,ob2,b3,b4⟩:=p4.at_ _ _ hb1;have hlt:o+off<l'.length:=by
       rcases ci (o+off) l'.length with h'|h'
       .exact h'
       .rw[bG h']at hy;cases hy
      have hob:jm φ' (tot E φ' (fc (bz s.h) [nm s.nx,nm id] nw)) w ⟨cty,.mx (splice l' (o+off) [fP p s.nx T.size xs.length])⟩ ob2:=by
       rw[ql rfl]at b4 ⊢;obtain⟨arr,a1,a2⟩:=b4;refine ⟨arr,a1,?_⟩;unfold wn at a2 ⊢;refine ⟨by simp only[BC.len]at a2 ⊢;rw[oZ (by simp;omega)];exact a2.1,λj x A=>?_⟩;simp only[BC.get]at A a2;rw[nj (by simp;omega)]at A;split at A
       .exact a2.2 j x A
       .split at A
        .rename_i h3 U;simp only[dc]at U;have hj:j=o+off:=by omega
         subst hj;simp only[It,l8,ah]at A;subst A;obtain⟨_,v,a3,a4⟩:=a2.2 _ _ hy;unfold fP at a4 ⊢;rw[ax hp]at a4 ⊢;refine ⟨rfl,v,a3,?_⟩;cases a4 with
         |@row _ _ _ cc q hφq hn hc hs2=>
          have:=p2.sub _ _ k1;rw[this,ah]at hφq;subst hφq;exact .row p1 hn hc hs2
        .exact a2.2 j x A
      obtain⟨q1,q2⟩:=p4.wset hb1 b1 (⟨rfl,rfl,rfl,rfl,b3,λ_ _=>rfl,λ_=>rfl⟩:Gb w w kb ob2) hob (λn=>if n=nm b then M ⟨cty,.mx (splice l' (o+off) [fP p s.nx T.size xs.length])⟩ else D) (by simp);have hH:fc (fc (bz s.h) [nm s.nx,nm id] nw) [nm b] (λn=>if n=nm b then M ⟨cty,.mx (splice l' (o+off) [fP p s.nx T.size xs.length])⟩ else D)=bz h2:=by
       funext n;by_cases e1:n=nm b
       .subst e1;rw[hnew];simp[fc]
       .by_cases e2:n=nm s.nx
        .subst e2;rw[hnx2,ax hp];simp[fc,nw,hnb.symm]
        .by_cases e3:n=nm id
         .subst e3;rw[hdead];simp[fc,nw,hbi.symm,hni.symm]
         .rw[hoth n e1 e2 e3];simp[fc,e1,e2,e3]
      rw[hH]at q1 q2;have m:=p2.trans q1;refine ⟨φ',⟨q2,λt x A=>m.keep (c.env t x (hE t x A)),λn q hq=>?_,iL c.low,hinv,λt x A=>ny hr x (c.invE t x A),c.inert,c.size⟩,⟨I2.refl _ _,m.own_,λi hi=>?_⟩,gp.refl _ _⟩
      .rcases p3 n q hq with U|U
       .exact AH (c.dom n q U)
       .simp only[aJ]at U;subst U;rw[ef];exact rE _
      .cases hq:φ' (nm i) with
       |none=>
        cases hq2:φ (nm i) with
        |none=>rfl
        |some z=>rw[p2.sub _ _ hq2]at hq;cases hq
       |some z=>
        rcases p3 _ _ hq with U|U
        .exact U.symm
        .simp only[aJ]at U;have:=lq U;have:=c.low;omega
    .cases h
   .cases h
  .cases h
 .rename_i id hk;split at h
  .rename_i ty p T xs L;simp only[ah]at h;subst h;have hfr:=c.invH.fresh;have hidlt:=c.invH.low id _ L;have hin:id≠s.nx:=by omega
   generalize hh2:((s.h.set id (M (.dead p T.size xs.length))).set s.nx (M (.rows ty p T xs)))=h2;have oF:∀i,h2.get i=if i=s.nx then M (.rows ty p T xs) else if i=id then M (.dead p T.size xs.length) else s.h.get i:=λi=>by
    rw[<- hh2,PT.get_set,PT.get_set]
   have hr:ch s.h h2:=λi r hi=>by
    rw[bT]at hi ⊢;rw[oF];by_cases e2:i=s.nx
    .subst e2;rw[hfr]at hi;cases hi
    .rw[ax e2];by_cases e3:i=id
     .subst e3;rw[aC rfl];rw[L]at hi;exact hi
     .rw[ax e3];exact hi
   have hrow:cA h2 (.row s.nx)=M (fP p s.nx T.size xs.length):=by
    simp only[cA,bT,oF,bI,aG,nk]
   have hrow0:cA s.h (.row id)=M (fP p id T.size xs.length):=by
    simp only[cA,bT,L,aG,nk]
   have hdead:bz h2 (nm id)=D:=by rw[bH,oF,ax hin,aC rfl];rfl
   have hnx2:bz h2 (nm s.nx)=if p&&xs.length==0 then D else M ⟨ty,.fz (xs.flatMap (bV T))⟩:=by rw[bH,oF,aC rfl];rfl
   have hid0:bz s.h (nm id)=if p&&xs.length==0 then D else M ⟨ty,.fz (xs.flatMap (bV T))⟩:=by rw[bH,L];rfl
   have hoth:∀n,n≠nm s.nx->n≠nm id->bz h2 n=bz s.h n:=λn e2 e3=>kK c.invH hr λi e=>by
    subst e;rw[oF,ax (λe=>e2 (by rw[e])),ax (λe=>e3 (by rw[e]))]
   have hni:nm s.nx≠nm id:=λe=>hin (lq e).symm
   have hinv:mE h2 (s.nx+1):=by
    refine ⟨λi ty2 l2 hil=>?_,λi q hiq=>?_⟩
    .rw[oF]at hil;split at hil
     .cases hil
     .split at hil
      .cases hil
      .exact jg hr l2 (c.invH.cells i _ l2 hil)
    .rw[oF]at hiq;split at hiq
     .omega
     .split at hiq
      .omega
      .have:=c.invH.low i q hiq;omega
   have hE:∀t x,t≠k->fX (s.e.set k (M (.row s.nx))) h2 t=M x->fX s.e s.h t=M x:=λt x ht A=>by
    simp only[fX,PT.get_set]at A ⊢;rw[ax ht]at A;cases he:s.e.get t with
    |none=>rw[he]at A;cases A
    |some q=>
     rw[he]at A;obtain⟨z,hz⟩:=pJ s.h q (c.invE t q he);simp only[aG,gA hr q z hz,ah]at A;subst A;simp only[aG,hz]
   have hIE:uv (s.e.set k (M (.row s.nx))) h2:=λt x A=>by
    simp only[PT.get_set]at A;split at A
    .cases A;exact FL _ _ _ hrow
    .exact ny hr x (c.invE t x A)
   have hKp:gp (mS [.ren k off] 0) s.e (s.e.set k (M (.row s.nx))):=λt ht v' hv'=>by
    simp only[PT.get_set]at hv';split at hv'
    .rename_i et;subst et;simp only[mS]at ht;rw[bt,bZ.2 rfl]at ht;simp at ht
    .exact⟨v',hv',λ_=>rfl⟩
   have Z:=c.env k (fP p id T.size xs.length) (by simp only[fX,hk,aG,hrow0]);by_cases hp:(p&&xs.length==0)=J
   .have hH:bz h2=bz s.h:=by
     funext n;by_cases e2:n=nm s.nx
     .subst e2;rw[hnx2,aC hp,bH,hfr];rfl
     .by_cases e3:n=nm id
      .subst e3;rw[hdead,hid0,aC hp]
      .exact hoth n e2 e3
    have hsame:fP p s.nx T.size xs.length=fP p id T.size xs.length:=by unfold fP;rw[aC hp,aC hp]
    refine ⟨φ,⟨by rw[hH];exact c.rep,λt x A=>?_,λn q hq=>AH (c.dom n q hq),iL c.low,hinv,hIE,c.inert,c.size⟩,by rw[hH];exact CV.refl _ _ _ _,hKp⟩;rw[hH];by_cases ht:t=k
    .subst ht;simp only[fX,PT.get_set,bI,aG,hrow,ah]at A;subst A;rw[hsame];exact Z
    .exact c.env t x (hE t x ht A)
   .have hid1:bz s.h (nm id)=M ⟨ty,.fz (xs.flatMap (bV T))⟩:=by rw[hid0,ax hp]
    obtain⟨kk,k1,k2,ob,k3,k4⟩:=c.rep.at_ _ _ hid1;have hφn:φ (nm s.nx)=D:=by
     cases hq:φ (nm s.nx) with
     |none=>rfl
     |some q=>have:=c.dom _ q hq;rw[ef]at this;omega
    let nw:HF:=λn=>if n=nm s.nx then M ⟨ty,.fz (xs.flatMap (bV T))⟩ else D
    have hsh:Gb w w kk ob:=⟨rfl,rfl,rfl,rfl,k3,λ_ _=>rfl,λ_=>rfl⟩
    obtain⟨φ',p1,p2,p3,p4⟩:=c.rep.wren hid1 k1 hφn hsh k4 nw (by simp[nw]) (by simp only[nw];rw[ax hni.symm]);have hH:fc (bz s.h) [nm s.nx,nm id] nw=bz h2:=by
     funext n;by_cases e2:n=nm s.nx
     .subst e2;rw[hnx2,ax hp];simp[fc,nw]
     .by_cases e3:n=nm id
      .subst e3;rw[hdead];simp[fc,nw,hni.symm]
      .rw[hoth n e2 e3];simp[fc,e2,e3]
    rw[hH]at p2 p4;refine ⟨φ',⟨p4,λt x A=>?_,λn q hq=>?_,iL c.low,hinv,hIE,c.inert,c.size⟩,⟨I2.refl _ _,p2.own_,λi hi=>?_⟩,hKp⟩
    .by_cases ht:t=k
     .subst ht;simp only[fX,PT.get_set,bI,aG,hrow,ah]at A;subst A;unfold fP at Z ⊢;rw[ax hp]at Z ⊢;generalize a.tmps.getD t undef=z at Z;cases Z with
      |@row _ _ _ cc q hφq hn hc hs2=>
       rw[k1,ah]at hφq;subst hφq;exact .row p1 hn hc hs2
     .exact p2.keep (c.env t x (hE t x ht A))
    .rcases p3 n q hq with U|U
     .exact AH (c.dom n q U)
     .simp only[aJ]at U;subst U;rw[ef];exact rE _
    .cases hq:φ' (nm i) with
     |none=>
      cases hq2:φ (nm i) with
      |none=>rfl
      |some z=>rw[p2.sub _ _ hq2]at hq;cases hq
     |some z=>
      rcases p3 _ _ hq with U|U
      .exact U.symm
      .simp only[aJ]at U;have:=lq U;have:=c.low;omega
  .cases h
 .cases h
theorem amg {φ:PM} {s:TS} {a:Act} {w:World} (c:pm P E nt np φ s a w) {ad:Adj} {s':TS} (h:Nc s ad=M s') (hnr:∀k off,ad≠ .ren k off):pm P E nt np φ s' a w/\CV np φ φ (bz s.h) (bz s'.h) w w/\gp (mS [ad] 0) s.e s'.e:=by
 cases ad with
 |ren k off=>exact ca rfl (hnr k off)
 |nil k ty T=>
  simp only[Nc]at h;split at h
  .rename_i v hv;split at h
   .rename_i hn;simp only[ah]at h;subst h;obtain⟨L,Z,hr⟩:=YY c ty T;refine ⟨⟨L.rep,?_,L.dom,L.low,L.invH,?_,L.inert,L.size⟩,by rw[Z];exact CV.refl _ _ _ _,?_⟩
    .intro t x A;simp only[fX,PT.get_set]at A;split at A
     .rename_i et;subst et;simp only[aG,cA,bT,PT.get_set,bI,nk,fP,fO,c6,jO,ah]at A;subst A;obtain⟨z,U⟩:=pJ s.h v (c.invE _ v hv);rw[Z];exact S5 hn U _ _ _ _ (c.env _ _ (by simp only[fX,hv,aG,U]))
     .exact L.env t x A
    .intro t x A;simp only[PT.get_set]at A;split at A
     .cases A;simp only[Mk,bT,PT.get_set,bI];rfl
     .exact L.invE t x A
    .intro t ht v' hv';simp only[PT.get_set]at hv';split at hv'
     .rename_i et;subst et;simp only[mS]at ht;rw[bt,bZ.2 rfl]at ht;simp at ht
     .exact⟨v',hv',λ_=>rfl⟩
   .simp only[ah]at h;subst h;exact⟨c,CV.refl _ _ _ _,gp.refl _ _⟩
  .cases h
 |cel k off ty T=>
  simp only[Nc]at h;split at h
  .rename_i id o hk;split at h
   .rename_i cty l hb;split at h
    .rename_i v hv;split at h
     .rename_i hn;simp only[ah]at h;subst h;obtain⟨L,Z,hr⟩:=YY c ty T;have hid:id≠s.nx:=λe=>by have:=c.invH.low id _ hb;omega
      obtain⟨c2,t2⟩:=af3 L (id:=id) (cty:=cty) (l:=l) (v:=v) (u:=.row s.nx) (by show (s.h.set s.nx _).get id=_;rw[PT.get_set,ax hid];exact hb) hv hn (by simp only[cA,bT,PT.get_set,bI,aG,nk,fP,fO,c6,jO]) (by simp only[Mk,bT,PT.get_set,bI];rfl);exact⟨c2,by rw[<- Z];exact t2,gp.refl _ _⟩
     .simp only[ah]at h;subst h;exact⟨c,CV.refl _ _ _ _,gp.refl _ _⟩
    .cases h
   .cases h
  .cases h
 |mpt k K V=>
  simp only[Nc]at h;split at h
  .rename_i id hk;split at h
   .rename_i K' V' es hb;split at h
    .rename_i hE;simp only[ah]at h;subst h;have hr:ch s.h (s.h.set id (M (.mp K V []))):=ch.set λr hr=>by rw[bT,hb]at hr;cases hr
     have Z:bz (s.h.set id (M (.mp K V [])))=bz s.h:=by
      funext n;by_cases hn:n=nm id
      .subst hn;rw[bH,bH,PT.get_set,aC rfl,hb];simp only[aG,jN,zQ (ad4 (pw.1 hE).1),zQ (pw.1 hE).2,Pv (pw.1 hE).1,List.map_nil]
      .refine kK c.invH hr λi e=>?_
       subst e;rw[PT.get_set,ax (λe=>hn (by rw[e]))]
     refine ⟨⟨by rw[Z];exact c.rep,?_,c.dom,c.low,c.invH.set hr (c.invH.low id _ hb) (bX _) (λ_ _ he=>by cases he),λt x A=>ny hr x (c.invE t x A),c.inert,c.size⟩,by rw[Z];exact CV.refl _ _ _ _,gp.refl _ _⟩;intro t x A;rw[Z];simp only[fX]at A;cases he:s.e.get t with
     |none=>rw[he]at A;cases A
     |some q=>
      rw[he]at A;obtain⟨z,U⟩:=pJ s.h q (c.invE t q he);simp only[aG,gA hr q z U,ah]at A;subst A;exact c.env t _ (by simp only[fX,he,aG,U])
    .simp only[ah]at h;subst h;exact⟨c,CV.refl _ _ _ _,gp.refl _ _⟩
   .cases h
  .cases h
 |mz k n=>
  simp only[Nc]at h;split at h
  .rename_i id hk;split at h
   .rename_i K' V' es hb;split at h
    .rename_i hE;simp only[ah]at h;subst h;have hr:ch s.h (s.h.set id (M (.cells D (aA n .nil)))):=ch.set λr hr=>by rw[bT,hb]at hr;cases hr
     have hold:bz s.h (nm id)=M ⟨0,.mp []⟩:=by rw[bH,hb];simp only[aG,jN,zQ (ad4 hE),Pv hE,List.map_nil]
     have hvs:∀(h:bk) m,cO h (aA m .nil)=M (aA m (.f (.raw (.slice D 0 0)))):=λh m=>by
      induction m with
      |zero=>rfl
      |succ m ih=>rw[wM,wM];simp only[cO,cA,ih]
     have hnew:bz (s.h.set id (M (.cells D (aA n .nil)))) (nm id)=M ⟨1,.mp (pi 0 (aA n (.f (.raw (.slice D 0 0)))))⟩:=by
      rw[bH,PT.get_set,aC rfl];simp only[aG,jN,hvs]
     have hoth:∀q,q≠nm id->bz (s.h.set id (M (.cells D (aA n .nil)))) q=bz s.h q:=λq hn'=>kK c.invH hr λi e=>by
      subst e;rw[PT.get_set,ax (λe=>hn' (by rw[e]))]
     have hdom:vL (bz s.h) (bz (s.h.set id (M (.cells D (aA n .nil))))):=λq b hb'=>by
      by_cases e:q=nm id
      .subst e;exact⟨_,hold⟩
      .rw[hoth q e]at hb';exact⟨b,hb'⟩
     have hV:Ii (bz s.h) (bz (s.h.set id (M (.cells D (aA n .nil))))):=⟨hdom,λq b b' h1 h2=>by
      by_cases e:q=nm id
      .subst e;rw[hold]at h1;cases h1;rw[hnew]at h2;cases h2;exact iQ.lay n
      .rw[hoth q e,h1]at h2;cases h2;exact iQ.refl hdom b⟩
     refine ⟨⟨hV.rep c.rep,?_,c.dom,c.low,c.invH.set hr (c.invH.low id _ hb) (bX _) (λty l2 he=>?_),λt x A=>ny hr x (c.invE t x A),c.inert,c.size⟩,⟨I2.refl _ _,λk _ ho=>hdom.own ho,λ_ _=>rfl⟩,gp.refl _ _⟩
     .intro t x A;simp only[fX]at A;cases he:s.e.get t with
      |none=>rw[he]at A;cases A
      |some q=>
       rw[he]at A;obtain⟨z,U⟩:=pJ s.h q (c.invE t q he);simp only[aG,gA hr q z U,ah]at A;subst A;exact (c.env t _ (by simp only[fX,he,aG,U])).dom hdom
     .simp only[iw.cells.injEq]at he;obtain⟨_,rfl⟩:=he;exact kg _ _ _ (hvs _ n)
    .cases h
   .simp only[ah]at h;subst h;exact⟨c,CV.refl _ _ _ _,gp.refl _ _⟩
  .cases h
 |pk k off T=>
  simp only[Nc]at h;split at h
  .obtain⟨h1,h2,h3⟩:=ap6 c h;exact⟨h1,h2,h3.mono λk hk=>by simp at hk⟩
  .cases h
theorem amf {φ:PM} {s:TS} {a:Act} {w:World} (c:pm P E nt np φ s a w) {z:Adj} {s':TS} (h:Nc s z=M s'):∃φ',pm P E nt np φ' s' a w/\CV np φ φ' (bz s.h) (bz s'.h) w w/\gp (mS [z] 0) s.e s'.e:=by
 by_cases hn:∃k off,z= .ren k off
 .obtain⟨k,off,rfl⟩:=hn;exact ap1 c h
 .exact⟨φ,amg c h λk off e=>hn ⟨k,off,e⟩⟩
theorem Xs {φ:PM} {a:Act} {w:World}:∀{l:Y Adj} {s s':TS},pm P E nt np φ s a w->aah s l=M s'->∃φ',pm P E nt np φ' s' a w/\CV np φ φ' (bz s.h) (bz s'.h) w w/\gp (mS l 0) s.e s'.e
 |[],s,s',c,h=>by simp only[aah,ah]at h;subst h;exact⟨φ,c,CV.refl _ _ _ _,gp.refl _ _⟩
 |z::r,s,s',c,h=>by
  simp only[aah]at h;split at h
  .rename_i s1 h1;obtain⟨φ1,U,t1,k1⟩:=amf c h1;obtain⟨φ2,L,A,k2⟩:=Xs U h;refine ⟨φ2,L,t1.trans A,(k1.mono ?_).trans (k2.mono ?_)⟩
   .intro k hk;cases z with
    |nil q ty T=>simp only[mS]at hk ⊢;rw[lG,bt,hk];rfl
    |cel q off ty T=>simp[mS]at hk
    |mpt q K V=>simp[mS]at hk
    |mz q n=>simp[mS]at hk
    |pk q off T=>simp[mS]at hk
    |ren q off=>simp only[mS]at hk ⊢;rw[lG,bt,hk];rfl
   .intro k hk;cases z with
    |nil q ty T=>simp only[mS];rw[lG,bt,hk];simp
    |cel q off ty T=>simp only[mS];exact hk
    |mpt q K V=>simp only[mS];exact hk
    |mz q n=>simp only[mS];exact hk
    |pk q off T=>simp only[mS];exact hk
    |ren q off=>simp only[mS];rw[lG,bt,hk];simp
  .cases h
mutual
theorem SJ {h:bk}:∀(v:TV) (y:AV),vb v=J->cA h v=M y->y.all (λ_=>af)=J
 |.f _ _,y,_,he=>by simp only[cA,ah]at he;subst he;rfl
 |.fel _ _ _ _ _,y,_,he=>by simp only[cA,ah]at he;subst he;rfl
 |.emp,y,_,he=>by simp only[cA,ah]at he;subst he;rfl
 |.nil,y,_,he=>by simp only[cA,ah]at he;subst he;rfl
 |.undef,y,_,he=>by simp only[cA,ah]at he;subst he;rfl
 |.np,y,_,he=>by simp only[cA,ah]at he;subst he;rfl
 |.anyb,y,_,he=>by simp only[cA,ah]at he;subst he;rfl
 |.agg l,y,hl,he=>by
  simp only[cA]at he;split at he
  .rename_i l' hl';simp only[ah]at he;subst he;exact FH l l' hl hl'
  .cases he
 |.tup l,y,hl,he=>by
  simp only[cA]at he;split at he
  .rename_i l' hl';simp only[ah]at he;subst he;exact FH l l' hl hl'
  .cases he
 |.pel _ _ _ _,_,h,_=>by cases h
 |.ptr _ _,_,h,_=>by cases h
 |.csl _ _ _,_,h,_=>by cases h
 |.row _,_,h,_=>by cases h
 |.rtl _ _,_,h,_=>by cases h
 |.mp _,_,h,_=>by cases h
 |.clo _ _,_,h,_=>by cases h
theorem FH {h:bk}:∀(l:Y TV) (l':Y AV),rf l=J->cO h l=M l'->AV.allL (λ_=>af) l'=J
 |[],l',_,he=>by simp only[cO,ah]at he;subst he;rfl
 |x::r,l',hl,he=>by
  obtain⟨y,l2,rfl,e1,e2⟩:=dg he;simp only[rf,al]at hl;simp only[AV.allL,al];exact⟨SJ x y hl.1 e1,FH r l2 hl.2 e2⟩
end
mutual
theorem Ys (h:bk):∀(v:TV),vb v=J->Mk h v=J
 |.f _ _,_=>rfl
 |.fel _ _ _ _ _,_=>rfl
 |.emp,_=>rfl
 |.nil,_=>rfl
 |.undef,_=>rfl
 |.np,_=>rfl
 |.anyb,_=>rfl
 |.agg l,hl=>Kh h l hl
 |.tup l,hl=>Kh h l hl
 |.pel _ _ _ _,h=>by cases h
 |.ptr _ _,h=>by cases h
 |.csl _ _ _,h=>by cases h
 |.row _,h=>by cases h
 |.rtl _ _,h=>by cases h
 |.mp _,h=>by cases h
 |.clo _ _,h=>by cases h
theorem Kh (h:bk):∀(l:Y TV),rf l=J->lm h l=J
 |[],_=>rfl
 |x::r,hl=>by
  simp only[rf,al]at hl;simp only[lm,al];exact⟨Ys h x hl.1,Kh h r hl.2⟩
end
structure Seen (np:Nat) (t:Tm) (x:t.ty.den) (us:List TV) (h1:bk) (φ φ':PM) (H:HF) (E:Nat->Prop) (w:World) (la lu:List AV):Prop where
 rep:rK φ' E (bz h1) w
 val:∀(j:Nat) y v,lu[j]? =M y->∃z,la[j]? =M z/\(cS φ (tot E φ H) w z v->cS φ' (tot E φ' (bz h1)) w y v)
 len:lu.length=la.length
 tot_:∀k,tot E φ' (bz h1) k->tot E φ H k
 own_:∀k,own φ' (bz h1) k->own φ H k
 dom:∀n k,φ' n=M k->ow n<t.bs.length
 par:∀i,i<np->i<t.bs.length->φ' (nm i)=φ (nm i)
theorem Mf {t:Tm} {x:t.ty.den} {us:Y TV} {h1:bk} {l1:Y (I iw)} (A:rB t x us h1 l1) {h:bk} {nx:Nat} (hinv:mE h nx) {vs:Y TV} {m:Nat} {σ:PT Nat} {sm:Nat} (B:I1 np t vs h x m σ sm) {la:Y AV} (hla:cO h vs=M la) {φ:PM} {w:World} (r:rK φ E (bz h) w):∃φ' lu,cO h1 us=M lu/\Seen np t x us h1 φ φ' (bz h) E w la lu:=by
 obtain⟨x1,m1,x2,m2,hx,hmm,gv,gb⟩:=B.ex;have hmr:dY h m:=by rw[hmm];exact (IJ _ _ _ _ gv).or (IL _ _ _ _ gb)
 have pvg:qL (iu σ) t.vs x1=M (kW (iu σ) us):=by
  have L:=ux (iu σ) t.vs x1;have s:=A.pv;rw[hx,uq]at s;rw[L,s];rfl
 have pbg:o6 (iu σ) t.bs x2=M (l1.map (mo (mb (iu σ)))):=by
  have L:=wV (iu σ) t.bs x2;have s:=A.pb;rw[hx,vQ]at s;rw[L,s];rfl
 have hbm:∀i b,l1[i]? =M (M b)->∃b0,h.get (iu σ i)=M b0/\BM (iu σ) h m b0 (mb (iu σ) b):=λi b hb=>by
  obtain⟨b0,U,Z⟩:=Kf t.bs 0 x2 m2 _ gb pbg i (mb (iu σ) b) (by rw[bc,hb];rfl);rw[bJ]at U;exact⟨b0,U,Z.mono λj hj=>by rw[hmm,bt,hj];simp⟩
 let hv:bk:=Bl (iu σ) 0 (l1.map (mo (mb (iu σ)))) PT.leaf
 have hv_at:∀i b,l1[i]? =M (M b)->hv.get (iu σ i)=M (mb (iu σ) b):=λi b hb=>by
  have:=vV (iu σ) (l1.map (mo (mb (iu σ)))) 0 PT.leaf (λa b ha hb=>by
   simp only[bw,A.len]at ha hb;simp only[bJ];exact B.inj a b ha hb) i (M (mb (iu σ) b)) (by rw[bc,hb];rfl)
  rw[bJ]at this;exact this
 have hv_ex:∀j c,hv.get j=M c->∃i b,l1[i]? =M (M b)/\j=iu σ i/\c=mb (iu σ) b:=λj c hj=>by
  by_cases hex:∃i,i<l1.length/\j=iu σ i
  .obtain⟨i,hi,rfl⟩:=hex;have hcc:=ay hi;cases hcv:l1[i] with
   |some b=>rw[hcv]at hcc;rw[hv_at i b hcc]at hj;cases hj;exact⟨i,b,hcc,rfl,rfl⟩
   |none=>
    rw[hcv]at hcc;have:=vV (iu σ) (l1.map (mo (mb (iu σ)))) 0 PT.leaf (λa b ha hb=>by
     simp only[bw,A.len]at ha hb;simp only[bJ];exact B.inj a b ha hb) i D (by rw[bc,hcc];rfl)
    rw[bJ]at this;have hj':(Bl (iu σ) 0 (l1.map (mo (mb (iu σ)))) PT.leaf).get (iu σ i)=M c:=hj;rw[this]at hj';simp[PT.get]at hj'
  .have:hv.get j=(PT.leaf:bk).get j:=vU (iu σ) _ 0 _ j λk hk=>by
    simp only[bw]at hk;rw[bJ];exact λe=>hex ⟨k,hk,e⟩
   rw[this]at hj;simp[PT.get]at hj
 have rows_in:yF hv h:=λj q hq=>by
  rw[bT]at hq ⊢;cases hc:hv.get j with
  |none=>rw[hc]at hq;cases hq
  |some c=>
   rw[hc]at hq;obtain⟨i,b,U,rfl,rfl⟩:=hv_ex j c hc;obtain⟨b0,Z,q3⟩:=hbm i b U;rw[Z];simp only[aG]at hq ⊢;rw[<- q3.row];exact hq
 have rows_h1:∀i q,eM h1 i=M q->eM hv (iu σ i)=M q:=λi q hq=>by
  rw[bT]at hq ⊢;cases hb:h1.get i with
  |none=>rw[hb]at hq;cases hq
  |some b=>
   rw[hb]at hq;rw[hv_at i b ((A.at_ i b).1 hb)];simp only[aG,Jf]at hq ⊢;exact hq
 have hd:vL (bz h) (bz hv):=λn y hy=>by
  obtain⟨j,c,rfl,L,s⟩:=jL hy;obtain⟨i,b,U,rfl,rfl⟩:=hv_ex j c L;obtain⟨b0,Z,q3⟩:=hbm i b U;obtain⟨y0,hy0⟩:=BM.erB_some hinv Z q3 s;exact⟨y0,by rw[bH,Z];exact hy0⟩
 have gvv:E0 h (bz h) (bz hv) m:=λi hi=>⟨rfl,by
  cases hc:bz hv (nm i) with
  |none=>rfl
  |some y=>
   obtain⟨j,c,e,L,s⟩:=jL hc;have:=lq e;subst this;obtain⟨k,b,U,rfl,rfl⟩:=hv_ex i c L;have hk:k<t.bs.length:=by rw[<- A.len];exact (bn.1 U).1
   have h5:=B.disj _ hi;rw[(B.sig _).2 ⟨k,hk,rfl⟩]at h5;cases h5⟩
 have V:Ii (bz h) (bz hv):=⟨hd,λn b b' hb hb'=>by
  obtain⟨j,c,rfl,L,s⟩:=jL hb';obtain⟨i,bb,U,rfl,rfl⟩:=hv_ex j c L;obtain⟨b0,Z,q3⟩:=hbm i bb U;rw[bH,Z]at hb;exact BM.view hd gvv rows_in q3 hb s⟩
 have rv:=V.rep r;have T:ait t x us h1 (iu σ) φ E E (bz hv) w:=by
  refine rK.toId A B.inj rv (λi b yb hb hyb=>?_) (λk hk=>.inl hk) (λi k b hi L s hE=>?_) rv.el
  .rw[bH,hv_at i b ((A.at_ i b).1 hb)];exact DY rows_h1 hyb
  .obtain⟨k',p1,p2,_⟩:=rv.at_ _ _ L;rw[s]at p1;cases p1;exact p2 hE
 obtain⟨lu,hlu⟩:=fx h1 us A.ok;have hlug:cO hv (kW (iu σ) us)=M (AV.renL (IP (iu σ)) lu):=pD rows_h1 us lu hlu;have hle:=DS hd rows_in t.vs vs x1 m1 _ la _ gv pvg hla hlug (λi hi=>gvv i (by rw[hmm,bt,hi];rfl));have hall:=sK us lu A.lt hlu;refine ⟨_,lu,hlu,T.rep,λj y v hy=>?_,?_,λk hk=>hd.tot (T.tot_ k hk),λk hk=>hd.own (T.own_ k hk),λn k hk=>?_,λi hi hb=>?_⟩
 .rw[nu]at hle;obtain⟨z,hz,hlz⟩:=hle.get j (y.ren (IP (iu σ))) (by rw[bc,hy];rfl);exact⟨z,hz,λhr=>T.val y v (mD hall y (aZ hy)) (hlz _ _ _ _ r hr)⟩
 .have:=hle.length;rw[nu,bw]at this;exact this
 .obtain⟨i,hi,rfl,_⟩:=xP hk;rw[ef];exact hi
 .rw[abu hb,B.fix i hi]
theorem PC {φ:PM} {s':TS} {a:Act} {w:World} (c:pm P E nt np φ s' a w) {A:Ann} {am:Nat} {s0 s1:TS} {x:A.D} (s:MN np A am s0 s'=M x) (hs:HM A am s0 x=M s1)
 (hk:∀k,k∈A.keep->k∉A.ks->∀v,s0.e.get k=M v->vb v=J->aN am k=af->∀Z,s'.e.get k=M Z->Z=v):∃φ',pm P E nt np φ' s1 a w/\CV np φ φ' (bz s'.h) (bz s1.h) w w:=by
 unfold MN at s;split at s
 .rename_i hc;simp only[al]at hc;have hnp:=a_ hc.1;split at s
  .rename_i s2 h2;obtain⟨φ2,c2,t2,_⟩:=Xs c h2;split at s
   .rename_i vs hvs;split at s
    .rename_i z m σ sm hM;simp only[ah]at s;subst s;have B:=xf hM;unfold HM at hs;split at hs
     .rename_i us h1 hi;obtain⟨l1,H⟩:=xl hi;split at hs
      .rename_i hlen;have hlen:=ar hlen;simp only[ah]at hs;subst hs;obtain⟨g1,g2⟩:=Yr hvs;have hvok:lm s2.h vs=J:=Jr c2.invE hvs;obtain⟨la,hla⟩:=fx s2.h vs hvok;obtain⟨φ',lu,hlu,S⟩:=Mf (E:=E) H c2.invH B hla c2.rep;refine ⟨φ',⟨S.rep,?_,S.dom,hnp,⟨λi ty l hl=>(H.cells i _ l hl).1,λi b hb=>H.lt_len hb⟩,?_,c.inert,c.size⟩,t2.trans ⟨I2.refl _ _,λk _ h=>S.own_ k h,λi hi=>S.par i hi (by omega)⟩⟩
       .intro t y L;simp only[fX]at L;cases ht:(Zc (DB am s0.e A.keep) A.ks us).get t with
        |none=>rw[ht]at L;cases L
        |some v=>
         rw[ht]at L;simp only[aG]at L;rcases Df hlen t v ht with ⟨j,q1,U⟩|⟨q1,U⟩
         .obtain⟨y',p1,p2⟩:=lE hlu j v U;rw[L]at p2;cases p2;obtain⟨z,p3,p4⟩:=S.val j y (a.tmps.getD t undef) p1;refine p4 ?_;obtain⟨v0,p5,p6⟩:=g2 j t q1;obtain⟨z',p7,p8⟩:=lE hla j v0 p5;rw[p3]at p7;cases p7;exact c2.env t _ (by simp only[fX,p6,aG,p8])
         .obtain⟨k1,k2,k3,k4⟩:=uA U;obtain⟨Z,k5⟩:=JK hc.2 t v k1 k2 k3 k4;have:=hk t k1 q1 v k2 k3 k4 Z k5;subst this;have h3:=c.env t y (by simp only[fX,k5,aG];rw[S6 s'.h h1 Z k3];exact L);exact h3.restrict (p:=λ_=>af) (λi k hi _=>by cases hi) (λk hk=>by
           have h4:=S.tot_ k hk;rcases h4 with h4|h4
           .exact .inl h4
           .exact .inr (by
             have hkl:k<w.heap.size:=by
              obtain⟨n,b,e1,e2⟩:=h4;obtain⟨k',p1,_,ob,p3,_⟩:=c2.rep.at_ n b e1;rw[e2]at p1;cases p1;exact (cI.1 p3).1
             exact t2.own_ k hkl h4)) (SJ Z y k3 L)
       .intro t v hv;rcases Df hlen t v hv with ⟨j,q1,U⟩|⟨q1,U⟩
        .obtain⟨y',_,p2⟩:=lE hlu j v U;exact FL _ _ _ p2
        .exact Ys _ v (uA U).2.2.1
      .cases hs
     .cases hs
    .cases s
   .cases s
  .cases s
 .cases s
theorem E9 {A:Ann} {am:Nat} {a s1:TS} {x:A.D} (hs:HM A am a x=M s1):gp (Mn A.ks 0) a.e s1.e/\∀k,k∉A.ks->∀v,s1.e.get k=M v->a.e.get k=M v:=by
 unfold HM at hs;split at hs
 .rename_i us h1 hi;split at hs
  .rename_i hlen;have hlen:=ar hlen;simp only[ah]at hs;subst hs;have key:∀k,k∉A.ks->∀v,(Zc (DB am a.e A.keep) A.ks us).get k=M v->a.e.get k=M v:=λk hk v hv=>by
    rcases Df hlen k v hv with ⟨j,L,_⟩|⟨_,z⟩
    .exact ca (aZ L) hk
    .exact (uA z).2.1
   refine ⟨λk hk s hv=>?_,key⟩;have hnk:k∉A.ks:=λhm=>by rw[Yj hm]at hk;cases hk
   exact⟨s,key k hnk s hv,λ_=>rfl⟩
  .cases hs
 .cases hs
end walk
inductive Er:TC->SC->Prop
 |skip:Er .skip .skip
 |reg (ops:List tC) (prs:List (Nat×Nat)):Er (.reg ops prs) (.reg ops prs)
 |seq {a b:TC} {a' b':SC}:Er a a'->Er b b'->Er (.seq a b) (.seq a' b')
 |jseq (A:Ann) {a b:TC} {a' b':SC}:Er a a'->Er b b'->Er (.jseq A a b) (.seq a' b')
 |cond (c:Nat) {a b:TC} {a' b':SC}:Er a a'->Er b b'->Er (.cond c a b) (.cond c a' b')
 |block (id:Nat) {b:TC} {b':SC}:Er b b'->Er (.block id b) (.block id b')
 |jblock (A:Ann) (id:Nat) {b:TC} {b':SC}:Er b b'->Er (.jblock A id b) (.block id b')
 |loop (A:Ann) {b:TC} {b':SC}:Er b b'->Er (.loop A b) (.loop b')
 |exit (id:Nat):Er (.exit id) (.exit id)
 |ret:Er .ret .ret
 |defer (f:FuncId) (c:List Operand) (t:Nat):Er (.defer f c t) (.defer f c t)
 |adj (l:List Adj) {c:TC} {c':SC}:Er c c'->Er (.adj l c) c'
 |split (k off lo n:Nat) {c:TC} {c':SC}:Er c c'->Er (.split k off lo n c) c'
 |unl (n:Nat) {b:TC} {b':SC}:Er b b'->Er (.unl n b) (.loop b')
 |bad (c:SC):Er .bad c
theorem C8 {H:PT afy} {n:Nat} {c:TC} {c':SC} (h:Er c c'):Er (I5 H n c) c':=by
 unfold I5;split
 .exact .adj _ h
 .exact .split _ _ _ _ h
 .exact h
theorem yA (H:PT afy):∀(c:SC) (n:Nat),Er (Eu H c n).1 c
 |.skip,n=>C8 .skip
 |.reg o p,n=>C8 (.reg o p)
 |.seq a b,n=>by
  have h1:=yA H a (n+1);have h2:=yA H b (Eu H a (n+1)).2;simp only[Eu];split
  .exact .jseq _ h1 h2
  .exact .seq h1 h2
 |.cond c a b,n=>by
  have h1:=yA H a (n+1);have h2:=yA H b (Eu H a (n+1)).2;simp only[Eu];exact C8 (.cond c h1 h2)
 |.block id b,n=>by
  have h1:=yA H b (n+1);simp only[Eu];split
  .exact .jblock _ id h1
  .exact .block id h1
 |.loop b,n=>by
  have h1:=yA H b (n+1);simp only[Eu];split
  .exact .loop _ h1
  .exact .unl _ h1
  .exact .bad _
 |.exit id,n=>C8 (.exit id)
 |.ret,n=>C8 .ret
 |.defer f c t,n=>.defer f c t
 |.bad,n=>.bad _
theorem Zo {σ R:Type} {step:σ->I (σ⊕R)} {x:σ} {r:R} (h:iter step x=M r):∃n,iterN step n x=M r:=by
 unfold iter at h;split at h
 .exact⟨_,h⟩
 .cases h
theorem Yl {α R:Type} {o:I (R⊕α)} {k:α->I R} {r:R} (h:jn o k=M r):(∃x,o=M (.inr x)/\k x=M r)\/o=M (.inl r):=by
 unfold jn at h;split at h
 .exact .inl ⟨_,rfl,h⟩
 .cases h;exact .inr rfl
 .cases h
section inv
variable {P:Program} {nt:Nat}
theorem Av (id:Nat) (ops:Array Oper) (a:Bool):cB P nt (.region id ops a)= .bad\/
 ((ops.toList.all λo=>match o.dst with|some d=>decide (d<nt)|none=>J)=J/\
   ((∃f caps t,Et ops a=M (f,caps,t)/\cB P nt (.region id ops a)= .defer f caps t)\/
    ∃l prs,sS P ops ops.toList=M l/\NF ops l=M prs/\cB P nt (.region id ops a)= .reg l prs)):=by
 simp only[cB];split
 .rename_i hd;split
  .rename_i f caps t h;exact .inr ⟨hd,.inl ⟨f,caps,t,h,rfl⟩⟩
  .split
   .rename_i l hl;split
    .rename_i prs hp;exact .inr ⟨hd,.inr ⟨l,prs,hl,hp,rfl⟩⟩
    .exact .inl rfl
   .exact .inl rfl
 .exact .inl rfl
def Fg:Code->Bool
 |.cond (.const (.bool _)) _ _=>af
 |_=>J
theorem kz (P:Program) (nt:Nat) (c:Code):∃c',Fg c'=J/\cB P nt c'=cB P nt c/\∀Q a w,c'.wp P Q a w->c.wp P Q a w:=by
 have self:∀c:Code,Fg c=J->∃c',Fg c'=J/\cB P nt c'=cB P nt c/\∀Q a w,c'.wp P Q a w->c.wp P Q a w:=λc h=>⟨c,h,rfl,λ_ _ _ h=>h⟩
 induction c with
 |cond o x y ihx ihy=>
  cases o with
  |const v=>
   cases v with
   |bool b=>
    cases b with
    |true=>
     obtain⟨c',h1,h2,s⟩:=ihx;exact⟨c',h1,h2,λQ a w h=>wp_cond_true rfl (s Q a w h)⟩
    |false=>
     obtain⟨c',h1,h2,s⟩:=ihy;exact⟨c',h1,h2,λQ a w h=>wp_cond_false rfl (s Q a w h)⟩
   |_=>exact self _ rfl
  |_=>exact self _ rfl
 |_=>exact self _ rfl
theorem Gv {α:Prop} {o:Operand} {x y:Code} {sc:SC} (hn:Fg (.cond o x y)=J) (h:cB P nt (.cond o x y)=sc) (h1:sc≠ .bad) (h2:∀t a b,sc≠ .cond t a b):α:=by
 cases o with
 |tmp q=>exact (h2 _ _ _ h.symm).elim
 |const v=>cases v<;>first|exact (h1 h.symm).elim|cases hn
 |global g=>exact (h1 h.symm).elim
 |func f=>exact (h1 h.symm).elim
theorem ahg {c:Code} {sl:Y tC} {prs:Y (Nat×Nat)} (hn:Fg c=J) (h:cB P nt c= .reg sl prs):∃id ops a,c= .region id ops a/\(ops.toList.all λo=>match o.dst with|some d=>decide (d<nt)|none=>J)=J/\sS P ops ops.toList=M sl/\NF ops sl=M prs:=by
 cases c with
 |region id ops a=>
  rcases Av (P:=P) (nt:=nt) id ops a with h1|⟨hd,⟨f,caps,t,_,h1⟩|⟨l,p,h2,s,h1⟩⟩
  .rw[h1]at h;cases h
  .rw[h1]at h;cases h
  .rw[h1]at h;cases h;exact⟨id,ops,a,rfl,hd,h2,s⟩
 |cond o x y=>exact Gv hn h (by simp) (by simp)
 |_=>simp[cB]at h
theorem Zp {c:Code} {f:FuncId} {caps:Y Operand} {t:Nat} (hn:Fg c=J) (h:cB P nt c= .defer f caps t):∃id ops a,c= .region id ops a/\(ops.toList.all λo=>match o.dst with|some d=>decide (d<nt)|none=>J)=J/\Et ops a=M (f,caps,t):=by
 cases c with
 |region id ops a=>
  rcases Av (P:=P) (nt:=nt) id ops a with h1|⟨hd,⟨f',caps',t',h2,h1⟩|⟨l,p,h2,s,h1⟩⟩
  .rw[h1]at h;cases h
  .rw[h1]at h;cases h;exact⟨id,ops,a,rfl,hd,h2⟩
  .rw[h1]at h;cases h
 |cond o x y=>exact Gv hn h (by simp) (by simp)
 |_=>simp[cB]at h
theorem pQ {c:Code} {sc:SC} (h:cB P nt c=sc) (h1:sc≠ .bad) (h2:∀a b,sc≠ .reg a b) (A:∀a b t,sc≠ .defer a b t):∀id ops z,c≠ .region id ops z:=by
 rintro id ops z rfl;rcases Av (P:=P) (nt:=nt) id ops z with s|⟨_,⟨f,caps,t,_,s⟩|⟨l,p,_,_,s⟩⟩<;>rw[s]at h
 .exact h1 h.symm
 .exact A _ _ _ h.symm
 .exact h2 _ _ h.symm
theorem adc {c:Code} (hn:Fg c=J) (h:cB P nt c= .skip):c= .skip:=by
 have a:=pQ h (by simp) (by simp) (by simp);cases c with
 |skip=>rfl
 |region id ops s=>exact ca rfl (a id ops s)
 |cond o x y=>exact Gv hn h (by simp) (by simp)
 |_=>simp[cB]at h
theorem ahf {c:Code} (hn:Fg c=J) (h:cB P nt c= .ret):c= .ret:=by
 have a:=pQ h (by simp) (by simp) (by simp);cases c with
 |ret=>rfl
 |region id ops s=>exact ca rfl (a id ops s)
 |cond o x y=>exact Gv hn h (by simp) (by simp)
 |_=>simp[cB]at h
theorem ade {c:Code} {i:Nat} (hn:Fg c=J) (h:cB P nt c= .exit i):c= .exit i:=by
 have a:=pQ h (by simp) (by simp) (by simp);cases c with
 |exit id=>simp[cB]at h;rw[h]
 |region id ops s=>exact ca rfl (a id ops s)
 |cond o x y=>exact Gv hn h (by simp) (by simp)
 |_=>simp[cB]at h
theorem Yn {c:Code} {a b:SC} (hn:Fg c=J) (h:cB P nt c= .seq a b):∃x y,c= .seq x y/\cB P nt x=a/\cB P nt y=b:=by
 have s:=pQ h (by simp) (by simp) (by simp);cases c with
 |seq x y=>simp[cB]at h;exact⟨x,y,rfl,h.1,h.2⟩
 |region id ops z=>exact ca rfl (s id ops z)
 |cond o x y=>exact Gv hn h (by simp) (by simp)
 |_=>simp[cB]at h
theorem adf {c:Code} {t:Nat} {a b:SC} (hn:Fg c=J) (h:cB P nt c= .cond t a b):∃x y,c= .cond (.tmp t) x y/\cB P nt x=a/\cB P nt y=b:=by
 have s:=pQ h (by simp) (by simp) (by simp);cases c with
 |cond o x y=>
  cases o with
  |tmp q=>simp[cB]at h;obtain⟨rfl,h1,h2⟩:=h;exact⟨x,y,rfl,h1,h2⟩
  |const v=>cases v<;>first|(simp [cB]at h;done)|cases hn
  |_=>simp[cB]at h
 |region id ops z=>exact ca rfl (s id ops z)
 |_=>simp[cB]at h
theorem NZ {c:Code} {id:Nat} {b:SC} (hn:Fg c=J) (h:cB P nt c= .block id b):∃y,c= .block id y/\cB P nt y=b:=by
 have a:=pQ h (by simp) (by simp) (by simp);cases c with
 |block i y=>simp[cB]at h;obtain⟨rfl,h1⟩:=h;exact⟨y,rfl,h1⟩
 |region id ops s=>exact ca rfl (a id ops s)
 |cond o x y=>exact Gv hn h (by simp) (by simp)
 |_=>simp[cB]at h
theorem R1 {c:Code} {b:SC} (hn:Fg c=J) (h:cB P nt c= .loop b):∃y,c= .loop y/\cB P nt y=b:=by
 have a:=pQ h (by simp) (by simp) (by simp);cases c with
 |loop y=>simp[cB]at h;exact⟨y,rfl,h⟩
 |region id ops s=>exact ca rfl (a id ops s)
 |cond o x y=>exact Gv hn h (by simp) (by simp)
 |_=>simp[cB]at h
end inv
def aks {R:Type} (P:Program) (E:Nat->Prop) (nt np:Nat) (φ:PM) (s:TS) (w:World) (am:Nat) (K:Ex->TS->I R) (r:R):Exit->Act->World->Prop:=
 λe a' w'=>∃ex s' φ',e=ex.to/\K ex s'=M r/\pm P E nt np φ' s' a' w'/\CV np φ φ' (bz s.h) (bz s'.h) w w'/\gp am s.e s'.e
theorem pm.bool {P:Program} {E:Nat->Prop} {nt np:Nat} {φ:PM} {s:TS} {a:Act} {w:World} (c:pm P E nt np φ s a w) {t:Nat} {b:Bool} (ht:s.e.get t=M (.f .bool b)):a.eval (.tmp t)= .bool b:=
 fE (c.env t _ (by simp only[fX,ht,aG,cA];rfl))
theorem pm.anyb {P:Program} {E:Nat->Prop} {nt np:Nat} {φ:PM} {s:TS} {a:Act} {w:World} (c:pm P E nt np φ s a w) {t:Nat} (ht:s.e.get t=M .anyb):∃b,a.eval (.tmp t)= .bool b:=by
 have:=c.env t .anyb (by simp only[fX,ht,aG,cA]);show ∃b,a.tmps.getD t undef= .bool b;generalize a.tmps.getD t undef=z at this;cases this with
 |anyb=>exact⟨_,rfl⟩
theorem aaf {R:Type} {a b:I R} {r:R} (h:F8 a b=M r):a=M r/\b=M r:=by
 unfold F8 at h;split at h
 .rename_i e;exact⟨h,by rw[<- e];exact h⟩
 .cases h
theorem ala {P:Program} {E:Nat->Prop} {nt np:Nat} {con:FuncId->I co} {b9:TypeId->I Ty} {inert:FuncId->Bool} (hm:P.follows .mixedOrders=J) (hcon:LZ P con) (hin:LW P inert):
 ∀{tc:TC} {sc:SC},Er tc sc->∀(c:Code),cB P nt c=sc->∀(R:Type) (s:TS) (K:Ex->TS->I R) (r:R),pI np con b9 inert tc s K=M r->∀(φ:PM) (a:Act) (w:World),pm P E nt np φ s a w->c.wp P (aks P E nt np φ s w (tc.asg 0) K r) a w:=by
 intro tc sc hE;induction hE with
 |skip=>
  intro c hc R s K r h φ a w g;obtain⟨c',hn,z,hsim⟩:=kz P nt c;refine hsim _ _ _ ?_;rw[<- z]at hc;rw[adc hn hc];exact wp_skip ⟨.normal,s,φ,rfl,h,g,CV.refl _ _ _ _,gp.refl _ _⟩
 |reg ops prs=>
  intro c hc R s K r h φ a w g;obtain⟨c',hn,z,hsim⟩:=kz P nt c;refine hsim _ _ _ ?_;rw[<- z]at hc;obtain⟨id,os,dr,rfl,h1,h2,h3⟩:=ahg hn hc;simp only[pI]at h;refine ack (K:=λs'=>K .normal s') hm hcon g (am:=QR ops 0) (λj o d ho hd=>?_) h1 h2 h3 h λa' w' s' φ' q1 L q3 q4=>⟨.normal,s',φ',rfl,q1,L,q3,q4⟩
  have hmem:o∈os.toList:=by have:=Array.mem_of_getElem? ho;simpa using this
  have key:∀(rest:Y Oper) (sl:Y tC),sS P os rest=M sl->∀o∈rest,∃so∈sl,so.dst=o.dst:=by
   intro rest;induction rest with
   |nil=>intro sl _ o ho;cases ho
   |cons x rest ih=>
    intro sl hsl o ho;simp only[sS]at hsl;split at hsl
    .rename_i l hl;have:∃so,sl=so::l/\so.dst=x.dst:=by
      split at hsl
      .simp only[ah]at hsl;exact⟨_,hsl.symm,rfl⟩
      .split at hsl
       .simp only[ah]at hsl;exact⟨_,hsl.symm,rfl⟩
       .cases hsl
     obtain⟨so,rfl,hso⟩:=this;rcases bl.1 ho with rfl|ho
     .exact⟨so,by simp,hso⟩
     .obtain⟨q,hq,hq2⟩:=ih l hl o ho;exact⟨q,by simp[hq],hq2⟩
    .cases hsl
  obtain⟨so,hso,hd2⟩:=key os.toList ops h2 o hmem;exact Up hso (by rw[hd2];exact hd)
 |@seq x y x' y' _ _ ihx ihy=>
  intro c hc R s K r h φ a w g;obtain⟨c',hn,z,hsim⟩:=kz P nt c;refine hsim _ _ _ ?_;rw[<- z]at hc;obtain⟨cx,cy,rfl,h1,h2⟩:=Yn hn hc;simp only[pI]at h;refine wp_seq (wp_mono (ihx cx h1 R s _ r h φ a w g) ?_);rintro e a' w' ⟨ex,s',φ',rfl,hk,g',st,U⟩;have kp':gp ((TC.seq x y).asg 0) s.e s'.e:=U.mono λk hk=>by simp only[TC.asg];exact kL hk
  cases ex with
  |normal=>
   refine wp_mono (ihy cy h2 R s' K r hk φ' a' w' g') ?_;rintro e2 a2 w2 ⟨ex2,s2,φ2,rfl,hk2,g2,st2,kp2⟩;exact⟨ex2,s2,φ2,rfl,hk2,g2,st.trans st2,kp'.trans (kp2.mono λk hk=>by simp only[TC.asg];exact wj hk)⟩
  |exit id=>exact⟨.exit id,s',φ',rfl,hk,g',st,kp'⟩
  |ret=>exact⟨.ret,s',φ',rfl,hk,g',st,kp'⟩
 |@jseq A x y x' y' _ _ ihx ihy=>
  intro c hc R s K r h φ a w g;obtain⟨c',hn,z,hsim⟩:=kz P nt c;refine hsim _ _ _ ?_;rw[<- z]at hc;obtain⟨cx,cy,rfl,h1,h2⟩:=Yn hn hc;simp only[pI]at h;have sub1:∀k,aN (x.asg 0) k=J->aN ((TC.jseq A x y).asg 0) k=J:=λk hk=>by simp only[TC.asg];exact kL (wj hk)
  have sub2:∀k,aN (y.asg 0) k=J->aN ((TC.jseq A x y).asg 0) k=J:=λk hk=>by simp only[TC.asg];exact wj hk
  have sub3:∀k,aN (Mn A.ks 0) k=J->aN ((TC.jseq A x y).asg 0) k=J:=λk hk=>by simp only[TC.asg];exact kL (kL hk)
  rcases Yl h with ⟨d,h3,h4⟩|h3
  .refine wp_seq (wp_mono (ihx cx h1 _ s _ _ h3 φ a w g) ?_);rintro e a' w' ⟨ex,s',φ',rfl,hk,g',st,U⟩;cases ex with
   |normal=>
    simp only[]at hk;obtain⟨d',q1,L⟩:=dT hk;simp only[ah,Sum.inr.injEq]at L;subst L;split at h4
    .rename_i s1 hs1;obtain⟨φ1,g1,Jb⟩:=PC g' q1 hs1 λk _ _ v hv hf ha v' Z=>by
      obtain⟨v0,e1,e2⟩:=U k ha v' Z;rw[hv]at e1;cases e1;exact e2 hf
     refine wp_mono (ihy cy h2 R s1 K r h4 φ1 a' w' g1) ?_;rintro e2 a2 w2 ⟨ex2,s2,φ2,rfl,hk2,g2,st2,kp2⟩;exact⟨ex2,s2,φ2,rfl,hk2,g2,(st.trans Jb).trans st2,((E9 hs1).1.mono sub3).trans (kp2.mono sub2)⟩
    .cases h4
   |exit id=>simp only[]at hk;obtain⟨_,_,L⟩:=dT hk;simp at L
   |ret=>simp only[]at hk;obtain⟨_,_,L⟩:=dT hk;simp at L
  .refine wp_seq (wp_mono (ihx cx h1 _ s _ _ h3 φ a w g) ?_);rintro e a' w' ⟨ex,s',φ',rfl,hk,g',st,U⟩;cases ex with
   |normal=>simp only[]at hk;obtain⟨_,_,L⟩:=dT hk;simp at L
   |exit id=>
    simp only[]at hk;obtain⟨r',q1,L⟩:=dT hk;simp only[ah,Sum.inl.injEq]at L;subst L;exact⟨.exit id,s',φ',rfl,q1,g',st,U.mono sub1⟩
   |ret=>
    simp only[]at hk;obtain⟨r',q1,L⟩:=dT hk;simp only[ah,Sum.inl.injEq]at L;subst L;exact⟨.ret,s',φ',rfl,q1,g',st,U.mono sub1⟩
 |@cond t x y x' y' _ _ ihx ihy=>
  intro c hc R s K r h φ a w g;obtain⟨c',hn,z,hsim⟩:=kz P nt c;refine hsim _ _ _ ?_;rw[<- z]at hc;obtain⟨cx,cy,rfl,h1,h2⟩:=adf hn hc;simp only[pI]at h;split at h
  .rename_i b hb;rcases qd h with ⟨rfl,h⟩|⟨rfl,h⟩
   .refine wp_cond_true (g.bool hb) (wp_mono (ihx cx h1 R s K r h φ a w g) ?_);rintro e a' w' ⟨ex,s',φ',rfl,hk,g',st,U⟩;exact⟨ex,s',φ',rfl,hk,g',st,U.mono λk hk=>by simp only[TC.asg];exact kL hk⟩
   .refine wp_cond_false (g.bool hb) (wp_mono (ihy cy h2 R s K r h φ a w g) ?_);rintro e a' w' ⟨ex,s',φ',rfl,hk,g',st,U⟩;exact⟨ex,s',φ',rfl,hk,g',st,U.mono λk hk=>by simp only[TC.asg];exact wj hk⟩
  .rename_i hb;obtain⟨ha,hbb⟩:=aaf h;obtain⟨bv,hbv⟩:=g.anyb hb;cases bv with
   |true=>
    refine wp_cond_true hbv (wp_mono (ihx cx h1 R s K r ha φ a w g) ?_);rintro e a' w' ⟨ex,s',φ',rfl,hk,g',st,U⟩;exact⟨ex,s',φ',rfl,hk,g',st,U.mono λk hk=>by simp only[TC.asg];exact kL hk⟩
   |false=>
    refine wp_cond_false hbv (wp_mono (ihy cy h2 R s K r hbb φ a w g) ?_);rintro e a' w' ⟨ex,s',φ',rfl,hk,g',st,U⟩;exact⟨ex,s',φ',rfl,hk,g',st,U.mono λk hk=>by simp only[TC.asg];exact wj hk⟩
  .cases h
 |@block id b b' _ ih=>
  intro c hc R s K r h φ a w g;obtain⟨c',hn,z,hsim⟩:=kz P nt c;refine hsim _ _ _ ?_;rw[<- z]at hc;obtain⟨cb,rfl,h1⟩:=NZ hn hc;simp only[pI]at h;refine wp_block (wp_mono (ih cb h1 R s _ r h φ a w g) ?_);rintro e a' w' ⟨ex,s',φ',rfl,hk,g',st,U⟩;cases ex with
  |normal=>exact⟨.normal,s',φ',rfl,hk,g',st,U⟩
  |ret=>exact⟨.ret,s',φ',rfl,hk,g',st,U⟩
  |exit i=>
   simp only[Ex.to,Exit.inBlock];simp only[]at hk;split at hk
   .rename_i hb;rw[aC (ar hb)];exact⟨.normal,s',φ',rfl,hk,g',st,U⟩
   .rename_i hb;rw[ax (λe=>hb (by rw[e];exact sD id))];exact⟨.exit i,s',φ',rfl,hk,g',st,U⟩
 |@jblock A id b b' _ ih=>
  intro c hc R s K r h φ a w g;obtain⟨c',hn,z,hsim⟩:=kz P nt c;refine hsim _ _ _ ?_;rw[<- z]at hc;obtain⟨cb,rfl,h1⟩:=NZ hn hc;simp only[pI]at h;have sub1:∀k,aN (b.asg 0) k=J->aN ((TC.jblock A id b).asg 0) k=J:=λk hk=>by simp only[TC.asg];exact wj hk
  have sub3:∀k,aN (Mn A.ks 0) k=J->aN ((TC.jblock A id b).asg 0) k=J:=λk hk=>by simp only[TC.asg];exact kL hk
  rcases Yl h with ⟨d,h3,h4⟩|h3
  .refine wp_block (wp_mono (ih cb h1 _ s _ _ h3 φ a w g) ?_);rintro e a' w' ⟨ex,s',φ',rfl,hk,g',st,U⟩;have fin:au (MN np A (b.asg 0) s s') (λx=>M (bQ (α:=R) x))=M (bQ d)->aks P E nt np φ s w ((TC.jblock A id b).asg 0) K r .normal a' w':=by
    intro hk;obtain⟨d',q1,L⟩:=dT hk;simp only[ah,Sum.inr.injEq]at L;subst L;split at h4
    .rename_i s1 hs1;obtain⟨φ1,g1,Jb⟩:=PC g' q1 hs1 λk _ _ v hv hf ha v' Z=>by
      obtain⟨v0,e1,e2⟩:=U k ha v' Z;rw[hv]at e1;cases e1;exact e2 hf
     exact⟨.normal,s1,φ1,rfl,h4,g1,st.trans Jb,(E9 hs1).1.mono sub3⟩
    .cases h4
   cases ex with
   |normal=>exact fin hk
   |ret=>simp only[]at hk;obtain⟨_,_,L⟩:=dT hk;simp at L
   |exit i=>
    simp only[Ex.to,Exit.inBlock];simp only[]at hk;split at hk
    .rename_i hb;rw[aC (ar hb)];exact fin hk
    .obtain⟨_,_,L⟩:=dT hk;simp at L
  .refine wp_block (wp_mono (ih cb h1 _ s _ _ h3 φ a w g) ?_);rintro e a' w' ⟨ex,s',φ',rfl,hk,g',st,U⟩;cases ex with
   |normal=>simp only[]at hk;obtain⟨_,_,L⟩:=dT hk;simp at L
   |ret=>
    simp only[]at hk;obtain⟨r',q1,L⟩:=dT hk;simp only[ah,Sum.inl.injEq]at L;subst L;exact⟨.ret,s',φ',rfl,q1,g',st,U.mono sub1⟩
   |exit i=>
    simp only[Ex.to,Exit.inBlock];simp only[]at hk;split at hk
    .obtain⟨_,_,L⟩:=dT hk;simp at L
    .rename_i hb;rw[ax (λe=>hb (by rw[e];exact sD id))];obtain⟨r',q1,L⟩:=dT hk;simp only[ah,Sum.inl.injEq]at L;subst L;exact⟨.exit i,s',φ',rfl,q1,g',st,U.mono sub1⟩
 |@loop A b b' _ ih=>
  intro c hc R s K r h φ a w g;obtain⟨c',hn,z,hsim⟩:=kz P nt c;refine hsim _ _ _ ?_;rw[<- z]at hc;obtain⟨cb,rfl,h1⟩:=R1 hn hc;simp only[pI]at h;obtain⟨x0,hx0,h⟩:=dT h;obtain⟨n,hn⟩:=Zo h;have sub1:∀k,aN (b.asg 0) k=J->aN ((TC.loop A b).asg 0) k=J:=λk hk=>by simp only[TC.asg];exact wj hk
  have sub3:∀k,aN (Mn A.ks 0) k=J->aN ((TC.loop A b).asg 0) k=J:=λk hk=>by simp only[TC.asg];exact kL hk
  obtain⟨step,hstep⟩:∃step:A.D->I (A.D⊕R),step=λx=>(match HM A (b.asg 0) s x with
   |some s'=>pI np con b9 inert b s' λex s'=>(match ex with
    |.normal=>au (MN np A (b.asg 0) s s') λy=>M (pn y)
    |ex=>au (K ex s') λr=>M (bQ r))
   |none=>D):=⟨_,rfl⟩
  have hn:iterN step n x0=M r:=by rw[hstep];exact hn
  have stepEq:∀x,step x=(match HM A (b.asg 0) s x with
   |some s'=>pI np con b9 inert b s' λex s'=>(match ex with
    |.normal=>au (MN np A (b.asg 0) s s') λy=>M (pn y)
    |ex=>au (K ex s') λr=>M (bQ r))
   |none=>D):=λx=>by rw[hstep]
  let Inv:Nat->Act->World->Prop:=λn a w'=>∃x s1 φ1,iterN step n x=M r/\HM A (b.asg 0) s x=M s1/\pm P E nt np φ1 s1 a w'/\CV np φ φ1 (bz s.h) (bz s1.h) w w'
  have head:∀(n:Nat) (x:A.D),iterN step n x=M r->∃s1,HM A (b.asg 0) s x=M s1:=by
   intro n x hn;cases n with
   |zero=>cases hn
   |succ n=>
    simp only[iterN]at hn;cases hr:HM A (b.asg 0) s x with
    |some s1=>exact⟨s1,rfl⟩
    |none=>rw[stepEq,hr]at hn;cases hn
  refine C9 Inv ?_ (n:=n) ?_
  .rintro n a1 w1 ⟨x,s1,φ1,hi,hr,g1,Jb⟩;cases n with
   |zero=>cases hi
   |succ n=>
    simp only[iterN]at hi;have hse:=stepEq x;rw[hr]at hse;simp only[]at hse;obtain⟨kp1,kp1'⟩:=E9 hr;split at hi
    .rename_i y hy;rw[hy]at hse;refine wp_mono (ih cb h1 _ s1 _ _ hse.symm φ1 a1 w1 g1) ?_;rintro e a' w' ⟨ex,s',φ',rfl,hk,g',st,U⟩;cases ex with
     |normal=>
      simp only[]at hk;obtain⟨d',q1,L⟩:=dT hk;simp only[ah,Sum.inl.injEq]at L;subst L;obtain⟨s2,hs2⟩:=head n d' hi;obtain⟨φ2,g2,st2⟩:=PC g' q1 hs2 λk hkk hks v hv hf ha v' Z=>by
       obtain⟨v0,e1,e2⟩:=U k ha v' Z;have:=kp1' k hks v0 e1;rw[hv]at this;cases this;exact e2 hf
      exact⟨n,by omega,d',s2,φ2,hi,hs2,g2,(Jb.trans st).trans st2⟩
     |exit id=>simp only[]at hk;obtain⟨_,_,L⟩:=dT hk;simp at L
     |ret=>simp only[]at hk;obtain⟨_,_,L⟩:=dT hk;simp at L
    .rename_i r' hy;cases hi;rw[hy]at hse;refine wp_mono (ih cb h1 _ s1 _ _ hse.symm φ1 a1 w1 g1) ?_;rintro e a' w' ⟨ex,s',φ',rfl,hk,g',st,U⟩;cases ex with
     |normal=>simp only[]at hk;obtain⟨_,_,L⟩:=dT hk;simp at L
     |exit id=>
      simp only[]at hk;obtain⟨r',q1,L⟩:=dT hk;simp only[ah,Sum.inr.injEq]at L;subst L;exact⟨.exit id,s',φ',rfl,q1,g',Jb.trans st,(kp1.mono sub3).trans (U.mono sub1)⟩
     |ret=>
      simp only[]at hk;obtain⟨r',q1,L⟩:=dT hk;simp only[ah,Sum.inr.injEq]at L;subst L;exact⟨.ret,s',φ',rfl,q1,g',Jb.trans st,(kp1.mono sub3).trans (U.mono sub1)⟩
    .cases hi
  .obtain⟨s1,hs1⟩:=head n x0 hn;obtain⟨φ1,g1,Jb⟩:=PC g hx0 hs1 λk _ _ v hv _ _ v' Z=>by rw[hv]at Z;cases Z;rfl
   exact⟨x0,s1,φ1,hn,hs1,g1,Jb⟩
 |exit id=>
  intro c hc R s K r h φ a w g;obtain⟨c',hn,z,hsim⟩:=kz P nt c;refine hsim _ _ _ ?_;rw[<- z]at hc;rw[ade hn hc];exact wp_exit ⟨.exit id,s,φ,rfl,h,g,CV.refl _ _ _ _,gp.refl _ _⟩
 |ret=>
  intro c hc R s K r h φ a w g;obtain⟨c',hn,z,hsim⟩:=kz P nt c;refine hsim _ _ _ ?_;rw[<- z]at hc;rw[ahf hn hc];exact wp_ret ⟨.ret,s,φ,rfl,h,g,CV.refl _ _ _ _,gp.refl _ _⟩
 |defer f caps t=>
  intro c hc R s K r h φ a w g;obtain⟨c',hn,z,hsim⟩:=kz P nt c;refine hsim _ _ _ ?_;rw[<- z]at hc;obtain⟨id,ops,dr,rfl,h1,h2⟩:=Zp hn hc;simp only[pI]at h;split at h
  .rename_i l hl;split at h
   .rename_i hi;obtain⟨l',e1,e2⟩:=zL g.invE hl;obtain⟨H,hH⟩:=j7 s.h;have lowN:∀n k,φ n=M k->n<2*s.nx+2:=λn k hk=>by have:=g.dom n k hk;unfold ow at this;omega
    have cfg:Cfg P ⟨2*s.nx+2,φ,E,bz s.h,w⟩ nt ⟨Kq s.e s.h,H,2*s.nx+2,0⟩ a w:=by
     refine ⟨⟨φ,?_,?_,?_,lowN,λi k hk=>.inl hk⟩,bX _,g.inert,g.size⟩
     .rw[hH];exact jp.refl _ _ _
     .rw[hH];exact g.rep
     .rw[hH,v8];exact g.env
    refine Tk hin cfg h1 h2 e1 hi λa' w' c'=>?_
    obtain⟨φ',m',r',en',dm',d0'⟩:=c'.ex;have hφ:φ'=φ:=by
     funext n;cases hx:φ n with
     |some k=>exact m'.sub n k hx
     |none=>
      cases hy:φ' n with
      |none=>rfl
      |some k=>
       rcases d0' n k hy with h3|h3
       .have h3:φ n=M k:=h3;rw[hx]at h3;cases h3
       .have h4:n<2*s.nx+2:=dm' n k hy;have h5:2*s.nx+2<=n:=h3;omega
    subst hφ;simp only[hH]at m' r' en';refine ⟨.normal,_,φ',rfl,h,⟨r',?_,g.dom,g.low,g.invH,?_,c'.inert,c'.size⟩,⟨m'.ext,m'.own_,λ_ _=>rfl⟩,?_⟩
    .intro u x hx;refine en' u x ?_;simp only[fX,PT.get_set]at hx;simp only[AD.put,PT.get_set];split at hx
     .rename_i eu;rw[aC eu];simp only[aG,cA,e2,ah]at hx;rw[hx]
     .rename_i eu;rw[ax eu,v8];exact hx
    .intro u x hx;simp only[PT.get_set]at hx;split at hx
     .cases hx;simp only[Mk];exact kg _ _ _ e2
     .exact g.invE u x hx
    .intro k hk v' Z;simp only[PT.get_set]at Z;split at Z
     .rename_i ek;subst ek;simp only[TC.asg]at hk;rw[bt,bZ.2 rfl]at hk;simp at hk
     .exact⟨v',Z,λ_=>rfl⟩
   .cases h
  .cases h
 |@adj l tc' sc' _ ih=>
  intro c hc R s K r h φ a w g;obtain⟨c',hn,z,hsim⟩:=kz P nt c;refine hsim _ _ _ ?_;rw[<- z]at hc;simp only[pI]at h;split at h
  .rename_i s1 hs1;obtain⟨φ1,g1,Jb,kp1⟩:=Xs g hs1;refine wp_mono (ih c' hc R s1 K r h φ1 a w g1) ?_;rintro e a' w' ⟨ex,s',φ',rfl,hk,g',st,U⟩;exact⟨ex,s',φ',rfl,hk,g',Jb.trans st,(kp1.mono λk hk=>by simp only[TC.asg];exact kL hk).trans (U.mono λk hk=>by simp only[TC.asg];exact wj hk)⟩
  .cases h
 |@split k off lo n tc' sc' _ ih=>
  intro c hc R s K r h φ a w g;obtain⟨c',hn,z,hsim⟩:=kz P nt c;refine hsim _ _ _ ?_;rw[<- z]at hc;simp only[pI]at h;split at h
  .rename_i kd v hv;obtain⟨j,hj,h2⟩:=Rt h;subst hj;split at h2
   .rename_i s1 hs1;obtain⟨g1,hH,he⟩:=acg g hv hs1;refine wp_mono (ih c' hc R s1 K r h2 φ a w g1) ?_;rintro e a' w' ⟨ex,s',φ',rfl,hk,g',st,U⟩;exact⟨ex,s',φ',rfl,hk,g',by rw[<- hH];exact st,λk hk v' Z=>by
     obtain⟨v,q1,L⟩:=U k hk v' Z;exact⟨v,by rw[<- he];exact q1,L⟩⟩
   .cases h2
  .cases h
 |@unl n b b' _ ih=>
  intro c hc R s K r h φ a w g;obtain⟨c',hn,z,hsim⟩:=kz P nt c;refine hsim _ _ _ ?_;rw[<- z]at hc;obtain⟨cb,rfl,h1⟩:=R1 hn hc;simp only[pI]at h
  let Inv:Nat->Act->World->Prop:=λm a w'=>∃s1 φ1,agk (λs K=>pI np con b9 inert b s K) m s1 K=M r/\pm P E nt np φ1 s1 a w'/\CV np φ φ1 (bz s.h) (bz s1.h) w w'/\gp (b.asg 0) s.e s1.e
  refine C9 Inv ?_ (n:=n) ⟨s,φ,h,g,CV.refl _ _ _ _,gp.refl _ _⟩;rintro m a1 w1 ⟨s1,φ1,hi,g1,Jb,kp1⟩;cases m with
  |zero=>cases hi
  |succ m=>
   simp only[agk]at hi;refine wp_mono (ih cb h1 R s1 _ r hi φ1 a1 w1 g1) ?_;rintro e a' w' ⟨ex,s',φ',rfl,hk,g',st,U⟩;cases ex with
   |normal=>exact⟨m,rE m,s',φ',hk,g',Jb.trans st,kp1.trans U⟩
   |exit id=>exact⟨.exit id,s',φ',rfl,hk,g',Jb.trans st,kp1.trans U⟩
   |ret=>exact⟨.ret,s',φ',rfl,hk,g',Jb.trans st,kp1.trans U⟩
 |bad sc'=>
  intro c hc R s K r h;simp[pI]at h
theorem Pj {P:Program} {φ:PM} {E:Nat->Prop} {s:TS} {a:Act} {w:World} (hinv:mE s.h s.nx) (hiE:uv s.e s.h) (r:rK φ E (bz s.h) w) (en:OV φ (tot E φ (bz s.h)) w (fX s.e s.h) a):∀(rs:Y ResultVar) (rvs:Y RV) (l:Y TV),wh P rs=M rvs->Vl s rvs=M l->
 ∃la vs,cO s.h l=M la/\(rs.mapM (Ze a.tmps)).run P w= .ok vs w/\kq φ (tot E φ (bz s.h)) w la vs
 |[],rvs,l,hc,hr=>by
  simp only[wh,ah]at hc;subst hc;simp only[Vl,ah]at hr;subst hr;exact⟨[],[],rfl,by simp,trivial⟩
 |.tmp t::rs,rvs,l,hc,hr=>by
  simp only[wh]at hc;split at hc
  .rename_i rvs' hrs;simp only[ah]at hc;subst hc;simp only[Vl]at hr;split at hr
   .rename_i v hv;split at hr
    .rename_i L z;simp only[ah]at hr;subst hr;obtain⟨la,vs,h0,h1,h2⟩:=Pj hinv hiE r en rs rvs' L hrs z;simp only[rvT]at hv;obtain⟨y,Z⟩:=pJ s.h v (hiE t v hv);refine ⟨y::la,a.tmps.getD t undef::vs,pE Z h0,?_,en t y (by simp only[fX,hv,aG,Z]),h2⟩;simp only[List.mapM_cons,eR,Ze,po,cU];show ((rs.mapM (Ze a.tmps)).run P w).andThen _=_;rw[h1];rfl
    .cases hr
   .cases hr
  .cases hc
 |.cell ad t::rs,rvs,l,hc,hr=>by
  simp only[wh]at hc;split at hc
  .rename_i rvs' sz ag hrs hsz hag;simp only[ah]at hc;subst hc;simp only[Vl]at hr;split at hr
   .rename_i v hv;split at hr
    .rename_i L z;simp only[ah]at hr;subst hr;obtain⟨la,vs,h0,h1,h2⟩:=Pj hinv hiE r en rs rvs' L hrs z;simp only[rvT]at hv;split at hv
     .rename_i id off hp;split at hv
      .rename_i ty q hb;obtain⟨q',A⟩:=fx s.h q (hinv.cells id _ q hb);obtain⟨y,e1,e2⟩:=XV A hv;obtain⟨H,hH⟩:=j7 s.h;have hR:EK H sz ag (.ptr (nm id) off)=M ⟨y,[nm id],[],[],[]⟩:=by
        have hg:H.get (nm id)=M ⟨ty,.mx q'⟩:=by rw[hH,bH,hb];simp only[aG,jN,A]
        simp only[EK,hg,e2]
       obtain⟨_,_,_,h3⟩:=Ut (P:=P) hsz hag hR;obtain⟨qq,U,h4,h5,h6⟩:=h3 φ E (bz s.h) w _ (λi _=>by rw[hH]) r (en ad _ (by simp only[fX,hp,aG,cA]));refine ⟨y::la,U::vs,pE e1 h0,?_,h6,h2⟩;have hone:(Ze a.tmps (.cell ad t)).run P w= .ok U w:=by
        simp only[Ze,eR,h4,asAddr,po,cU,h5]
       rw[List.mapM_cons];simp only[eR,hone,cU,h1,po]
      .cases hv
     .cases hv
    .cases hr
   .cases hr
  .cases hc
theorem F_:∀(args:Y TV) (k t:Nat) (x:TV),(LI k args).get t=M x->k<=t/\args[t-k]? =M x
 |[],k,t,x,h=>by simp[LI,PT.get]at h
 |y::args,k,t,x,h=>by
  rw[LI,PT.get_set]at h;split at h
  .rename_i hk;subst hk;cases h;exact⟨bX _,by simp⟩
  .obtain⟨h1,h2⟩:=F_ args (k+1) t x h;refine ⟨by omega,?_⟩;rw[show t-k=t-(k+1)+1 from by omega];simpa using h2
theorem acx {h:bk} {l:Y TV} (s:lm h l=J) {j:Nat} {v:TV} (hj:l[j]? =M v):Mk h v=J:=by
 obtain⟨z,hl⟩:=fx h l s;obtain⟨y,_,a⟩:=lE hl j v hj;exact FL _ _ _ a
theorem Vb {P:Program} {con:FuncId->I co} {b9:TypeId->I Ty} {inert:FuncId->Bool} (hm:P.follows .mixedOrders=J) (hcon:LZ P con) (hin:LW P inert) {f:FuncId} {sf:SF} (hf:Aw P f=M sf) (A:FT) (m:A.pre.ty.den->I A.post.ty.den) (hmod:∀x y,m x=M y->ac8 con b9 inert (M sf) A x=M y):qC P f ⟨A.pre,A.post,m⟩:=by
 obtain⟨fn,c,hfn,hb,hnm,hcode,hres,hnt⟩:=Ue hf;refine ⟨⟨fn,hfn,by rw[hb];rfl,hnm⟩,λx y hxy vs hp l1 rs hq l2 la lr B K hla hlr φ E w us hrep hrel hdom=>?_⟩;have ht:=hmod x y hxy;unfold ac8 at ht;simp only[]at ht;split at ht
 .rename_i args h hins;obtain⟨l1',I'⟩:=xl hins;have e1:args=vs:=by have h1:=B.pv;have h2:=I'.pv;rw[h1]at h2;cases h2;rfl
  have e2:l1'=l1:=by have h1:=B.pb;have h2:=I'.pb;rw[h1]at h2;cases h2;rfl
  subst e1;subst e2;have hget:∀i,h.get i=hp.get i:=λi=>by
   cases U:hp.get i with
   |some b=>exact (I'.at_ i b).2 ((B.at_ i b).1 U)
   |none=>
    cases h4:h.get i with
    |none=>rfl
    |some b=>have:=(B.at_ i b).2 ((I'.at_ i b).1 h4);rw[U]at this;cases this
  have hrow:∀i,eM h i=eM hp i:=λi=>by rw[bT,bT,hget]
  have herH:bz h=bz hp:=by
   funext n;by_cases hn:∃i,n=nm i
   .obtain⟨i,rfl⟩:=hn;rw[bH,bH,hget];cases U:hp.get i with
    |none=>rfl
    |some b=>
     simp only[aG];refine Kr (λi r hr=>by rw[hrow];exact hr) λty l e=>?_
     exact (B.cells i _ l (by rw[U,e])).1
   .rw[xp _ hn,xp _ hn]
  have hla':cO h args=M la:=gw (λi r hr=>by rw[hrow];exact hr) args la hla;split at ht
  .rename_i hle;simp only[al]at hle;have hle2:=a_ hle.2;have hle:=a_ hle.1;have hlen:=hrel.length;have hargl:args.length=la.length:=(gQ hla).symm;refine calls_of_wp_defers hfn hb ?_;have hcfg:pm P E fn.ntmps A.pre.bs.length φ ⟨LI 0 args,h,A.pre.bs.length⟩ {tmps:=us.toArray++oY (fn.ntmps-us.toArray.size) undef,defers:=[]} w:=by
    refine ⟨by rw[herH];exact hrep,?_,hdom,bX _,⟨λi ty l hl=>(I'.cells i _ l hl).1,λi b hbb=>I'.lt_len hbb⟩,?_,by simp,by simp;omega⟩
    .intro t z a;simp only[fX]at a;cases L:(LI 0 args).get t with
     |none=>rw[L]at a;cases a
     |some v0=>
      rw[L]at a;obtain⟨_,h2⟩:=F_ args 0 t v0 L;rw[Nat.sub_zero]at h2;obtain⟨y0,Z,s⟩:=lE hla' t v0 h2;simp only[aG]at a;rw[a]at s;cases s;obtain⟨v,U,h4⟩:=hrel.get t z Z;have hlt:t<us.length:=(bn.1 U).1;have:(us.toArray++oY (fn.ntmps-us.toArray.size) undef).getD t undef=v:=by
       rw[gU,Array.getElem?_append];simp only[ub,hlt,bI,kM,U,vM]
      show cS φ _ w z ((us.toArray++oY (fn.ntmps-us.toArray.size) undef).getD t undef);rw[this,herH];exact h4
    .intro t v0 hv0;obtain⟨_,h2⟩:=F_ args 0 t v0 hv0;exact acx I'.ok h2
   refine wp_mono (ala (E:=E) hm hcon hin (yA A.hints sf.code 0) c hcode.symm _ _ _ _ ht φ _ w hcfg) ?_;rintro e a' w' ⟨ex,s',φ',rfl,hk,g',st,_⟩;have fin:(match Vl s' sf.res with
    |some l=>(match Fj A.pre.bs.length A.post l s'.h with
     |some ⟨y,_,_,_⟩=>(match DE A.post y with|some _=>M y|none=>D)
     |none=>D)
    |none=>D)=M y->Leaves P fn a'.tmps (λen w'=>∃v φ',en= .returned v/\I2 (own φ (bz hp)) w w'/\(∀k,k<w.heap.size->own φ' (bz hq) k->own φ (bz hp) k)/\(∀i,i<A.pre.bs.length->φ' (nm i)=φ (nm i))/\rK φ' E (bz hq) w'/\cS φ' (tot E φ' (bz hq)) w' (E4 lr) v) a'.defers .returning w':=by
    intro hk;split at hk
    .rename_i l hl;split at hk
     .rename_i y' m' σ sm hM;split at hk
      .simp only[ah]at hk;subst hk;obtain⟨lo,rvs,q0,Z,s⟩:=Pj g'.invH g'.invE g'.rep g'.env fn.results.toList sf.res l hres hl;have H:=xf hM;obtain⟨φ2,lu,hlu,S⟩:=Mf (np:=A.pre.bs.length) (E:=E) K g'.invH H q0 g'.rep;rw[hlr]at hlu;cases hlu;have hresults:(results fn a'.tmps).run P w'= .ok (if h:rvs.toArray.size=1 then rvs.toArray[0] else .tuple rvs.toArray) w':=by
        rw[Vn,Array.mapM_eq_mapM_toList];simp only[eR,Sem.run_map,Z,cU,po]
       have hrl:kq φ2 (tot E φ2 (bz hq)) w' lr rvs:=by
        refine kq.of (by rw[s.length,S.len]) λj z v a hv=>?_
        obtain⟨z0,p1,p2⟩:=S.val j z v a;obtain⟨v',p3,p4⟩:=s.get j z0 p1;rw[hv]at p3;cases p3;exact p2 p4
       have hval:cS φ2 (tot E φ2 (bz hq)) w' (E4 lr) (if h:rvs.toArray.size=1 then rvs.toArray[0] else .tuple rvs.toArray):=by
        have hll:=hrl.length;clear hlr S;cases lr with
        |nil=>
         cases rvs with
         |nil=>exact cS.tup (vs:=[]) rfl (by intro j x v L;simp at L)
         |cons _ _=>exact hrl.elim
        |cons z lr=>
         cases rvs with
         |nil=>exact hrl.elim
         |cons v rvs=>
          cases lr with
          |nil=>
           cases rvs with
           |nil=>exact hrl.1
           |cons _ _=>exact hrl.2.elim
          |cons y l=>
           cases rvs with
           |nil=>exact hrl.2.elim
           |cons u rvs=>
            rw[dif_neg (by simp)];refine cS.tup (vs:=v::u::rvs) (by simpa using hll) λj x' v' L hv=>?_
            obtain⟨v'',Z,s⟩:=hrl.get j x' L;rw[hv]at Z;cases Z;exact s
       have st':CV A.pre.bs.length φ φ' (bz hp) (bz s'.h) w w':=by rw[<- herH];exact st
       refine Dv hresults ⟨_,φ2,rfl,st'.ext,λk hk ho=>st'.own_ k hk (S.own_ k ho),λi hi=>?_,S.rep,hval⟩ a'.defers g'.inert;rw[S.par i hi (dK hi hle2),st'.par i hi]
      .cases hk
     .cases hk
    .cases hk
   cases ex with
   |normal=>exact fin hk
   |ret=>exact fin hk
   |exit id=>cases hk
  .cases ht
 .cases ht
def W6:Y (FuncId×co)->FuncId->I co
 |[],_=>D
 |(g,c)::r,f=>if aB g f then M c else W6 r f
def U2 (P:Program):Y (FuncId×co)->Prop
 |[]=>True
 |p::r=>aH P p.1 p.2/\U2 P r
theorem YI {P:Program}:∀{l:Y (FuncId×co)},U2 P l->LZ P (W6 l)
 |[],_,f,c,h=>by simp[W6]at h
 |(g,d)::r,a,f,c,h=>by
  simp only[W6]at h;split at h
  .rename_i hb;have:=ar hb;subst this;cases h;exact a.1
  .exact YI a.2 f c h
theorem Sw {P:Program} {inert:FuncId->Bool} (hm:P.follows .mixedOrders=J) (hin:LW P inert) {l:Y (FuncId×co)} (a:U2 P l) {b9:TypeId->I Ty} {f:FuncId} {z:FT} {m:z.pre.ty.den->I z.post.ty.den} (hs:(Aw P f).isSome=J) (he:∀x,ac8 (W6 l) b9 inert (Aw P f) z x=m x):qC P f ⟨z.pre,z.post,m⟩:=by
 obtain⟨s,hf⟩:=iX.1 hs;exact Vb hm (YI a) hin hf z m λx y hxy=>by rw[<- hf,he];exact hxy
theorem qC.sub {P:Program} {f:FuncId} {pre post:Tm} {m m':pre.ty.den->I post.ty.den} (h:qC P f ⟨pre,post,m⟩) (hs:∀x y,m' x=M y->m x=M y):qC P f ⟨pre,post,m'⟩:=
 ⟨h.callable,λx y hxy=>h.calls x y (hs x y hxy)⟩
theorem aH.sub {P:Program} {f:FuncId} {pre post:Tm} {m m':pre.ty.den->I post.ty.den} (h:aH P f ⟨pre,post,m⟩) (hb:eS pre.bs.length post.bs.length=J) (hs:∀x y,m' x=M y->m x=M y):aH P f ⟨pre,post,m'⟩:=
 ((h.holds hb).sub hs).toC hb
theorem sx {α:Type} {b:Nat}:∀(x y:Y α),chk (a8 (ai x) b) (λ_=>M x)=M y->aF (aB (ai x) 0) (F8 (M ([]:Y α)) (chk (a8 (ai ([]:Y α)+ai x) b) λ_=>(M (([]:Y α)++x)))) (chk (a8 (ai ([]:Y α)+ai x) b) λ_=>(M (([]:Y α)++x)))=M y:=by
 intro x y h;rw[km,fO,bJ,h];cases x with
 |nil=>
  obtain⟨_,h⟩:=eA h;cases h;show F8 (M []) (M [])=_;unfold F8;rw[aC rfl]
 |cons a r=>rfl
theorem We {P:Program} {f:FuncId} {pre post:Tm} (hs:(Aw P f).isSome=J):qC P f ⟨pre,post,λ_=>D⟩:=by
 obtain⟨a,hf⟩:=iX.1 hs;obtain⟨fn,c,hfn,hb,hnm,_⟩:=Ue hf;exact⟨⟨fn,hfn,by rw[hb];rfl,hnm⟩,λx y h=>by cases h⟩
theorem qC.orElse {P:Program} {f:FuncId} {pre post:Tm} {m m':pre.ty.den->I post.ty.den} (h:qC P f ⟨pre,post,m⟩) (h':qC P f ⟨pre,post,m'⟩):qC P f ⟨pre,post,λx=>match m x with|some y=>M y|none=>m' x⟩:=
 ⟨h.callable,λx y hxy=>by
   cases hm:m x with
   |some z=>rw[show (co.m ⟨pre,post,λx=>match m x with|some y=>M y|none=>m' x⟩ x)=M z by show (match m x with|some y=>M y|none=>m' x)=M z;rw[hm]]at hxy;cases hxy;exact h.calls x _ hm
   |none=>rw[show (co.m ⟨pre,post,λx=>match m x with|some y=>M y|none=>m' x⟩ x)=m' x by show (match m x with|some y=>M y|none=>m' x)=m' x;rw[hm]]at hxy;exact h'.calls x y hxy⟩
theorem aH.orE {P:Program} {f:FuncId} {pre post:Tm} {m m':pre.ty.den->I post.ty.den} (hb:eS pre.bs.length post.bs.length=J) (h:aH P f ⟨pre,post,m⟩) (h':aH P f ⟨pre,post,m'⟩):aH P f ⟨pre,post,λx=>AI.orE (m x) (m' x)⟩:=by
 have e:(λx=>AI.orE (m x) (m' x))=λx=>match m x with|some y=>M y|none=>m' x:=by funext x;cases m x<;>rfl
 rw[e];exact ((h.holds hb).orElse (h'.holds hb)).toC hb
def ac3 (P:Program) (f:Ty->TypeId->Bool):Y Field->Nat->Ty->Bool
 |[],_,.un=>J
 |[x],off,T=>aB x.offset off&&f T x.type&&aB (P.cellsOf x.type) T.size
 |x::y::r,off,.pr a b=>aB x.offset off&&f a x.type&&aB (P.cellsOf x.type) a.size&&ac3 P f (y::r) (off+a.size) b
 |_,_,_=>af
def Va (P:Program) (f:Ty->TypeId->Bool) (e:TypeId):Nat->Ty->Bool
 |1,T=>f T e&&aB (P.cellsOf e) T.size
 |m+2,.pr a b=>f a e&&aB (P.cellsOf e) a.size&&Va P f e (m+1) b
 |_,_=>af
def Ce (P:Program):Nat->Ty->TypeId->Bool
 |0,_,_=>af
 |n+1,T,t=>match T,P.underlying t with
  |.int k,M (.int k')=>k==k'
  |.bool,M .bool=>J
  |.str,M .string=>J
  |.sl U,M (.slice e)=>Ce P n U e&&aB (P.cellsOf e) U.size&&gC 0 U.size
  |.st U,M (.struct fs)=>ac3 P (Ce P n) fs.toList 0 U&&aB (P.cellsOf t) U.size
  |.st U,M (.array m e)=>Va P (Ce P n) e m U&&aB (P.cellsOf t) U.size
  |_,_=>af
def XR:(T:Ty)->T.den->Prop
 |.int k,n=>(Lit.int k n).wf=J
 |.str,s=>ai s<=maxLen
 |.sl U,xs=>ai xs<=maxLen/\∀x∈(xs:Y U.den),XR U x
 |.st t,v=>XR t v
 |.pr a b,v=>XR a v.1/\XR b v.2
 |_,_=>True
def LQ (W:World) (T:Ty) (x:T.den) (cs:ξ):Prop:=cs.length=T.size/\∀(j:Nat) y v,(bV T x)[j]? =M y->cs[j]? =M v->oe (λ_=>False) W y v
theorem Lv {α:Type} (z:α) (P:Nat->α->Prop):∀n:Nat,(∀i,i<n->∃a,P i a)->∃l:Y α,l.length=n/\∀i x,l[i]? =M x->P i x
 |0,_=>⟨[],rfl,λi x h=>by simp at h⟩
 |n+1,h=>by
  obtain⟨l,hl,hp⟩:=Lv z P n (λi hi=>h i (by omega));obtain⟨a,A⟩:=h n (by omega);refine ⟨l++[a],by simp[hl],λi x s=>?_⟩;by_cases hi:i<l.length
  .rw[bR hi]at s;exact hp i x s
  .rw[cj (by omega)]at s;by_cases h0:i-l.length=0
   .rw[h0]at s;simp at s;subst s;rw[show i=n from by omega];exact A
   .rw[bG (by simp;omega)]at s;cases s
theorem Addr.add_plain {a:Addr} (h:a.spot=D) (n:Nat):a.add n=⟨a.block,a.off+n,D⟩:=by
 unfold Addr.add;split
 .rename_i h0;subst h0;cases a;simp at h;subst h;rfl
 .rfl
theorem aab {w:World} {a:Addr} {v:Value} (h:w.cell? a=M v):a.spot=D:=by
 unfold O1 at h;split at h
 .split at h
  .cases h
  .rename_i hs;cases hh:a.spot with
   |none=>rfl
   |some _=>simp[hh]at hs
 .cases h
theorem LQ.sub {W:World} {T:Ty} {x:T.den} {cs:ξ} {off n:Nat} (h:LQ W T x ((cs.drop off).take n)) (hn:n=T.size) (hl:off+n<=cs.length):∀(j:Nat) y v,(bV T x)[j]? =M y->cs[off+j]? =M v->oe (λ_=>False) W y v:=λj y v a hv=>by
 refine h.2 j y v a ?_;have hj:j<T.size:=by have:=(bn.1 a).1;rwa [bE]at this
 rw[cX,aC (by omega),ic];exact hv
section
variable {H:Type} {enc:TypeId×Value->H} {P:Program} {W:World} {base:Nat} {sp:Nat->Bool} {hd:Bool}
theorem X' {f:Ty->TypeId->Bool} {m:Nat} (L:∀(T:Ty) (t:TypeId) (cs:ξ) x,f T t=J->DataW.trod enc P W base sp hd m t cs=M x->∃v,LQ W T v cs/\XR T v) (cs:ξ) (ts:Y (DataW H×Y MemPlace)):
 ∀(fs:Y Field) (off k:Nat) (T:Ty),ac3 P f fs off T=J->off+T.size<=cs.length->(∀(i:Nat) (fl:Field),fs[i]? =M fl->∃z,DataW.trod enc P W base sp hd m fl.type ((cs.drop fl.offset).take (P.cellsOf fl.type))=M z)->
 ∃v,(∀(j:Nat) y u,(bV T v)[j]? =M y->cs[off+j]? =M u->oe (λ_=>False) W y u)/\XR T v
 |[],off,k,.un,_,_,_=>⟨(),λj y u s=>by simp[bV]at s,trivial⟩
 |[x],off,k,T,h,hl,hg=>by
  simp only[ac3,al]at h;obtain⟨⟨h1,h2⟩,A⟩:=h;have h1:=ar h1;have A:=ar A;obtain⟨z,U⟩:=hg 0 x rfl;obtain⟨v,hv,hw⟩:=L T _ _ _ h2 U;rw[h1]at hv;exact⟨v,hv.sub A (by omega),hw⟩
 |x::x'::r,off,k,.pr a b,h,hl,hg=>by
  simp only[ac3,al]at h;obtain⟨⟨⟨h1,h2⟩,A⟩,h4⟩:=h;have h1:=ar h1;have A:=ar A;simp only[Ty.size]at hl;obtain⟨z,U⟩:=hg 0 x rfl;obtain⟨v,hv,hw⟩:=L a _ _ _ h2 U;rw[h1]at hv;have hv:=hv.sub A (by omega);obtain⟨v',hv',Z⟩:=X' L cs ts (x'::r) (off+a.size) (k+1) b h4 (by omega) (λi fl hi=>hg (i+1) fl (by simpa using hi));refine ⟨(v,v'),λj y u s hu=>?_,hw,Z⟩;simp only[bV]at s;by_cases hj:j<a.size
  .rw[bR (by rw[bE];exact hj)]at s;exact hv j y u s hu
  .rw[cj (by rw[bE];omega),bE]at s;exact hv' _ y u s (by rw[show off+a.size+(j-a.size)=off+j from by omega];exact hu)
theorem Ya {f:Ty->TypeId->Bool} {m:Nat} {e:TypeId} (A:∀(T:Ty) (t:TypeId) (cs:ξ) x,f T t=J->DataW.trod enc P W base sp hd m t cs=M x->∃v,LQ W T v cs/\XR T v) (cs:ξ):
 ∀(n i:Nat) (T:Ty),Va P f e n T=J->i*P.cellsOf e+T.size<=cs.length->(∀j,j<n->∃z,DataW.trod enc P W base sp hd m e ((cs.drop ((i+j)*P.cellsOf e)).take (P.cellsOf e))=M z)->
 ∃v,(∀(j:Nat) y u,(bV T v)[j]? =M y->cs[i*P.cellsOf e+j]? =M u->oe (λ_=>False) W y u)/\XR T v
 |0,i,T,h,_,_=>by unfold Va at h;cases h
 |1,i,T,h,hl,hg=>by
  simp only[Va,al]at h;have h3:=ar h.2;obtain⟨z,L⟩:=hg 0 (by omega);obtain⟨v,hv,Z⟩:=A T _ _ _ h.1 L;rw[dl]at hv;exact⟨v,hv.sub h3 (by omega),Z⟩
 |n+2,i,T,h,hl,hg=>by
  cases T with
  |pr a b=>
   simp only[Va,al]at h;obtain⟨⟨h1,h2⟩,h4⟩:=h;have h3:=ar h2;simp only[Ty.size]at hl;obtain⟨z,L⟩:=hg 0 (by omega);obtain⟨v,hv,Z⟩:=A a _ _ _ h1 L;rw[dl]at hv;have hv:=hv.sub h3 (by omega);obtain⟨v',hv',U⟩:=Ya A cs (n+1) (i+1) b h4 (by rw[O3,Nat.one_mul];omega) (λj hj=>by have:=hg (j+1) (by omega);rwa [show i+(j+1)=i+1+j from by omega]at this);refine ⟨(v,v'),λj y u s hu=>?_,Z,U⟩;simp only[bV]at s;by_cases hj:j<a.size
   .rw[bR (by rw[bE];exact hj)]at s;exact hv j y u s hu
   .rw[cj (by rw[bE];omega),bE]at s;exact hv' _ y u s (by rw[O3,Nat.one_mul,show i*P.cellsOf e+P.cellsOf e+(j-a.size)=i*P.cellsOf e+j from by omega];exact hu)
  |_=>unfold Va at h;cases h
theorem IC:∀(n:Nat) (T:Ty) (t:TypeId) (fuel:Nat) (cs:ξ) x,Ce P n T t=J->(∀b,sp b=J)->DataW.trod enc P W base sp hd fuel t cs=M x->∃v,LQ W T v cs/\XR T v
 |0,_,_,_,_,_,h,_,_=>by unfold Ce at h;cases h
 |n+1,T,t,fuel,cs,x,h,hsp,ht=>by
  unfold Ce at h;split at h
  .rename_i k k' hu;have hk:=eq_of_beq h;subst hk;obtain⟨m,rfl,_,L⟩:=DataW.trod_int hu ht;refine ⟨m,⟨rfl,λj y v A hv=>?_⟩,L⟩;cases j with
   |zero=>simp[bV]at A hv;subst A hv;exact .raw _
   |succ j=>simp[bV]at A
  .rename_i hu;obtain⟨b,rfl,_⟩:=DataW.trod_bool hu ht;refine ⟨b,⟨rfl,λj y v A hv=>?_⟩,trivial⟩;cases j with
   |zero=>simp[bV]at A hv;subst A hv;exact .raw _
   |succ j=>simp[bV]at A
  .rename_i hu;obtain⟨s,rfl,_,hs⟩:=DataW.trod_string hu ht;refine ⟨s.data.toList,⟨rfl,λj y v A hv=>?_⟩,by simpa[XR] using hs⟩;cases j with
   |zero=>simp[bV]at A hv;subst A hv;exact .raw _
   |succ j=>simp[bV]at A
  .rename_i U e hu;simp only[al]at h;obtain⟨⟨h1,h2⟩,h3⟩:=h;have h2:=ar h2;have h3:0<U.size:=a_ h3;rcases Go.Deep.open_slice hu ht with ⟨rfl,_⟩|⟨a,len,cap,m,k,z,Pl,rfl,hb,hl,hm,hmm,_,hi⟩
   .refine ⟨[],⟨rfl,λj y v A hv=>?_⟩,by simp[XR]⟩;cases j with
    |zero=>simp[bV]at A hv;subst A hv;exact .nil _ _ (by unfold maxLen;omega)
    |succ j=>simp[bV]at A
   .rw[hsp,aC rfl]at hmm;rw[h2]at hi;obtain⟨xs,hx1,hx2⟩:=Lv U.zero (λi (v:U.den)=>∃cs',W.cells? base (a.add (i*U.size)) U.size=M cs'/\LQ W U v cs'/\XR U v) len (λi hil=>by
     obtain⟨cs',hc,htt⟩:=hi i (by omega);obtain⟨v,hv,L⟩:=IC n U e k cs' _ h1 hsp htt;exact⟨v,cs',hc,hv,L⟩)
    refine ⟨xs,⟨rfl,λj y v A hv=>?_⟩,by show ai xs<=maxLen;omega,λy A=>?_⟩
    .cases j with
     |succ j=>simp[bV]at A
     |zero=>
      simp[bV]at A hv;subst A hv;by_cases h0:len=0
      .have:xs=[]:=gY.1 (by omega);subst this;subst h0;exact .nil _ _ hm
      .obtain⟨x0,hx0⟩:∃x0,xs[0]? =M x0:=⟨xs[0]'(by omega),ay (by omega)⟩
       obtain⟨cs0,hc0,_⟩:=hx2 0 x0 hx0;obtain⟨_,hcl0,hat0⟩:=World.cells?_some hc0;have hca:=hat0 0 h3;rw[ay (by omega)]at hca;have hspot:a.spot=D:=by
        have:=aab hca;simpa[Addr.add] using this
       have hblk:=World.block_lt_of_cell? W _ hca;rw[Nat.zero_mul,Addr.add_plain hspot,Addr.add_plain rfl]at hca hblk;have hcell:∀(i j:Nat) x,xs[i]? =M x->j<U.size->∃cs',W.cell? ⟨a.block,a.off+(i*U.size+j),D⟩=cs'[j]? /\j<cs'.length/\LQ W U x cs':=λi j x hx hj=>by
        obtain⟨cs',hc,hr,_⟩:=hx2 i x hx;obtain⟨_,hcl,hat⟩:=World.cells?_some hc;have:=hat j hj;rw[Addr.add_plain hspot,Addr.add_plain rfl,qf]at this;exact⟨cs',this,by omega,hr⟩
       have hflat:∀j,j<xs.length*U.size->∃x,xs[j/U.size]? =M x/\j%U.size<U.size/\j=j/U.size*U.size+j%U.size:=λj hj=>by
        have h5:j/U.size<xs.length:=Nat.div_lt_of_lt_mul (by rw[Iu];exact hj);exact⟨xs[j/U.size],ay h5,Nat.mod_lt _ h3,by rw[Iu];exact (Nat.div_add_mod j U.size).symm⟩
       have hlen:(List.flatMap (bV U) xs).length=xs.length*U.size:=fU (bE U) xs;obtain⟨ab,ao,az⟩:=a;cases hspot;rw[<- hx1];refine .sl (List.flatMap (bV U) xs) xs.length cap ab ao (λj=>(W.cell? ⟨ab,ao+j,D⟩).getD undef) (by omega) hm (λh=>h) hblk (sq U xs) (λj hj=>?_) (λj y A=>?_)
       .obtain⟨x,hx,hjs,hje⟩:=hflat j (by omega);obtain⟨cs',g1,g2,_⟩:=hcell _ _ x hx hjs;rw[<- hje]at g1;simp only[g1,ay g2,vM]
       .have hj:j<xs.length*U.size:=by rw[<- hlen];exact (bn.1 A).1
        obtain⟨x,hx,hjs,hje⟩:=hflat j hj;obtain⟨cs',g1,g2,g3⟩:=hcell _ _ x hx hjs;rw[<- hje]at g1;simp only[g1];rw[ay g2];refine g3.2 (j%U.size) y _ ?_ (ay g2);obtain⟨r,hr⟩:=FI (bE U) xs (j/U.size) x hx;have:((List.flatMap (bV U) xs).drop (j/U.size*U.size))[j%U.size]? =M y:=by rw[ic,<-hje];exact A
        rw[hr,bR (by rw[bE];exact hjs)]at this;exact this
    .obtain⟨i,Z⟩:=fw A;obtain⟨_,_,_,L⟩:=hx2 i y Z;exact L
  .rename_i U fs hu;simp only[al]at h;have h2:=ar h.2;obtain⟨xs,m,rfl,_,hl,hxl,hg⟩:=DataW.trod_struct hu ht;obtain⟨v,hv,L⟩:=X' (f:=Ce P n) (m:=m) (λT t cs x h1 h2=>IC n T t m cs x h1 hsp h2) cs xs fs.toList 0 0 U h.1 (by omega) (λi fl hi=>by
    have Z:fs[i]? =M fl:=by simpa using hi
    have:=hg i fl Z;have hlt:i<xs.length:=by rw[hxl];exact (cI.1 Z).1
    rw[ay hlt]at this;exact⟨_,this⟩)
   exact⟨v,⟨by rw[hl,h2];rfl,λj y u A hu=>hv j y u A (by rw[bJ];exact hu)⟩,L⟩
  .rename_i U m e hu;simp only[al]at h;have h2:=ar h.2;obtain⟨xs,q,rfl,_,hl,hxl,hg⟩:=DataW.trod_array hu ht;obtain⟨v,hv,L⟩:=Ya (f:=Ce P n) (m:=q) (λT t cs x h1 h2=>IC n T t q cs x h1 hsp h2) cs m 0 U h.1 (by omega) (λj hj=>by
    have:=hg j hj;rw[ay (by omega)]at this;rw[bJ];exact⟨_,this⟩)
   exact⟨v,⟨by rw[hl,h2];rfl,λj y u A hu=>hv j y u A (by rw[Nat.zero_mul,bJ];exact hu)⟩,L⟩
  .cases h
theorem RN {n:Nat} {T:Ty} {t:TypeId} {v:Value} {r:Reach} {bs:Nat} (a:Ce P n T t=J) (h1:T.one=J) (h:Iq P W r bs t v):v.cells.toList=[v]:=by
 cases n with
 |zero=>unfold Ce at a;cases a
 |succ n=>
  unfold Ce at a;unfold Iq at h;cases v with
  |agg cs=>
   exfalso;split at a<;>rename_i hu<;>first|(rw [hu]at h;simp only[]at h;unfold Cell.okWide at h;rw[hu]at h;unfold Cell.ok at h;rw[hu]at h;simp at h)|cases h1|cases a
  |_=>rfl
theorem Vs {n:Nat} {T:Ty} {t:TypeId} {v:Value} {r:Reach} {bs:Nat} (a:Ce P n T t=J) (h1:T.one=af) (h:Iq P W r bs t v):∃cs,v= .agg cs:=by
 cases n with
 |zero=>unfold Ce at a;cases a
 |succ n=>
  unfold Ce at a;unfold Iq at h;split at a<;>rename_i hu<;>first|(rw [hu]at h;obtain⟨cs,h,_⟩:=h;exact⟨cs,h⟩)|cases h1|cases a
theorem open_arg {n:Nat} {T:Ty} {t:TypeId} {v:Value} {d:DataW H} {ps:Y MemPlace} {r:Reach} {bs:Nat} (s:Ce P n T t=J) (hsp:∀b,sp b=J) (hok:Iq P W r bs t v) (h:DataW.Trod enc P W base sp hd t v d ps):∃x,oe (λ_=>False) W (gJ T x) v/\XR T x:=by
 obtain⟨fuel,hf⟩:=h;obtain⟨x,a,A⟩:=IC n T t fuel _ _ s hsp hf;refine ⟨x,?_,A⟩;by_cases h1:T.one=J
 .obtain⟨e1,e2⟩:=D3 T x h1;exact a.2 0 _ v (by rw[e1];rfl) (by rw[RN s h1 hok];rfl)
 .obtain⟨cs,rfl⟩:=Vs s (by simpa using h1) hok;rw[rn T x (by simpa using h1)];have hl:cs.toList.length=(bV T x).length:=by rw[bE];exact a.1
  have:=oe.agg (O:=λ_=>False) (w:=W) (bV T x) cs.toList hl (oG T x) (λj y u z hu=>a.2 j y u z hu);simpa using this
end
theorem YP {z:Int} (h:(Lit.int .u8 z).wf=J):0<=z/\z<=255:=⟨bf (pw.1 h).1,bf (pw.1 h).2⟩
def fo (w:WT) (l:Y ET) (c:η) (y:η):η:=y.foldl (λc k=>jl c (mR w l k.toNat)) c
theorem N8 {w:WT} {l:Y ET} (a:TR (w,l)) {j:Nat} (hj:j<=l.length):∀(y:η) (c:η),En (j:Int) c->(∀k∈y,0<=k/\k<j)->En (j:Int) (fo w l c y)
 |[],_,h,_=>h
 |k::r,c,h,g=>by
  obtain⟨A,k1⟩:=g k (c8 ..);exact N8 a hj r _ (h.jl ((F5 a (show k.toNat<l.length by omega)).mono (by omega))) λz s=>g z (cC _ s)
theorem aht {w:WT} {l:Y ET} {c y:η} {i:Nat} (h:i<y.length):fo w l c (y.take (i+1))=jl (fo w l c (y.take i)) (mR w l (aI (T:=.int .i64) y (i:Int)).toNat):=by
 rw[nh (T:=.int .i64) h];unfold fo;rw[dA];rfl
theorem akb {w:WT} {l:Y ET} (a:TR (w,l)) {n:Int} {c:η} (hc:En n c) (p:Nat->Bool) (j:Nat):fo w l c (fL p j)=jl c (JC (mR w l) p j):=by
 rw[<- Yu hc j];unfold fo fL;rw[List.foldl_map];rfl
theorem Ts {w:WT} {l:Y ET} {j:Nat} {k:Int} (h0:0<=k) (h1:k<j):aI (T:=.sl (.int .i64)) ((bS j).map (mR w l)) k=mR w l k.toNat:=by
 obtain⟨k,rfl⟩:∃i:Nat,k=i:=⟨k.toNat,by omega⟩
 rw[rm,bY,av,bc,wN (by omega)];rfl
theorem NX {w:WT} {l:Y ET} (s:TR (w,l)) {j:Nat} (hj:j<=l.length) {c y:η} (hc:En (j:Int) c) (L:∀k∈y,0<=k/\k<j) (hn:y.length<=1000) {R:Type} {B:(η×Int)×(WT×Y ET)×Y η->I (((η×Int)×(WT×Y ET)×Y η)⊕R)} {Q P:R->Prop} (hQ:∀r,P r->Q r) (he:Ok (B ((fo w l c y,(y.length:Int)),(w,l),(bS j).map (mR w l))) λr=>∃z,r= .inr z/\P z):
 Ok (iter (λx=>aF (fR x.1.2 (aM (ai y))) (chk (eX x.1.2 (ai y)) λ_=>lt (aI (T:=.int .i64) y x.1.2) λa=>chk (eX a (ai x.2.2)) λ_=>chk (eX a (ai x.2.2)) λ_=>lt (aI (T:=.sl (.int .i64)) x.2.2 a) λU=>au (qn (x.1.1,U)) λZ=>M (pn ((Z,bm .i64 (x.1.2+1)),x.2))) (B x)) ((c,0),(w,l),(bS j).map (mR w l))) Q:=by
 refine b7 y.length (λi x=>x=((fo w l c (y.take i),(i:Int)),(w,l),(bS j).map (mR w l))) ?_ ?_ (by rw[List.take_zero];rfl)
 .rintro i x hi rfl;have hm:=L _ (bN (T:=.int .i64) (xs:=y) (j:=(i:Int)) (by omega) (by omega));refine du ?_;refine cg (aT ?_);have A:(aI (T:=.int .i64) y (i:Int):Int)<(((bS j).map (mR w l)).length:Nat):=by rw[bw,c_];exact hm.2
  refine aP hm.1 A (aP hm.1 A (aT ?_));dsimp only;rw[Ts hm.1 hm.2];have e1:=N8 s hj (y.take i) c hc λk hk=>L k (gg hk)
  have h2:(aI (T:=.int .i64) y (i:Int)).toNat<l.length:=by
   have h3:(aI (T:=.int .i64) y (i:Int):Int)<(j:Int):=hm.2;have h4:(0:Int)<=aI (T:=.int .i64) y (i:Int):=hm.1;omega
  have e2:=F5 s h2;refine aR (by rw[agw];exact Y6 _ _ e1.lb e2.lb) (aj ?_);rw[aht hi,gH (by omega)]
 .rintro x rfl;rw[cP];obtain⟨_,e,r,rfl,h⟩:=he;exact dv (ak1 e (hQ r h))
theorem U7 (l:Y ET) (u:Nat):∀i:Nat,C_ l u i<i
 |0=>by show (-1:Int)<0;omega
 |i+1=>by
  have:=U7 l u i;rw[C_];split
  .omega
  .split
   .omega
   .split<;>omega
theorem apy {w:WT} {l:Y ET} (a:TR (w,l)) {j:Nat} (hj:j<l.length) {c:η} (hc:En (j:Int) c) (e:c=if 0<=uH l (b8 l j).th j then mR w l (uH l (b8 l j).th j).toNat else []):tk (fo w l (fo w l c (ZI w l j)) (fL (dB (Rb w l j)) j)) (b8 l j).th=mR w l j:=by
 rw[am4 a hj,<-e];have h1:fo w l c (ZI w l j)=jl (jl c (JC (mR w l) (dB (II w l j)) j)) (wkC w l j):=by
  have h2:=akb a hc (dB (II w l j)) j;have s:=N8 a (show j<=l.length by omega) (fL (dB (II w l j)) j) c hc λk hk=>Kn hk
  rw[h2]at s;unfold ZI wkC;by_cases h:(b8 l j).k=17
  .rw[aC h,aC h,<-h2];unfold fo;rw[dA];rfl
  .rw[ax h,ax h,ii,h2,mQ s]
 have z:En (j:Int) (fo w l c (ZI w l j)):=by
  refine N8 a (show j<=l.length by omega) _ c hc λk hk=>?_
  rcases bP.1 hk with hk|hk
  .exact Kn hk
  .split at hk
   .rename_i h;rw[aJ.1 hk];exact⟨(abx a hj h).2.2,U7 _ _ _⟩
   .cases hk
 rw[akb a z,h1]
theorem U0 {w:WT} {l:Y ET} (a:TR (w,l)):sY (w,l)=M (csN w l):=by
 have hl:=a.len;dsimp only at hl;refine b_ ?_;unfold sY bx iR bC bD kO aX cR aD cL;refine b7 l.length (λj x=>x=((j:Int),(w,l),(bS j).map (mR w l))) ?_ ?_ rfl
 .rintro j x hj rfl;have hjl:j<=l.length:=by omega
  obtain⟨p0,p1⟩:=Vq l (b8 l j).th j;refine du ?_;refine aV (λx=>x=(if 0<=uH l (b8 l j).th j then mR w l (uH l (b8 l j).th j).toNat else [],(w,l),(bS j).map (mR w l))) ?_ ?_
  .refine aR (HI a hj) (eO (λh=>?_) λh=>aj ?_)
   .have q:uH l (b8 l j).th j<(((bS j).map (mR w l)).length:Nat):=by rw[bw,c_];exact p1
    refine aP h q (aP h q (aT (aj ?_)));dsimp only;rw[Ts h p1,aC h]
   .rw[ax (by omega)]
  rintro x rfl;have hc:En (j:Int) (if 0<=uH l (b8 l j).th j then mR w l (uH l (b8 l j).th j).toNat else []):=by
   split
   .exact (F5 a (by omega)).mono (by omega)
   .exact En.nil (by omega)
  have hhd:∀k∈ZI w l j,0<=k/\k<j:=λk hk=>by
   rcases bP.1 hk with hk|hk
   .exact Kn hk
   .split at hk
    .rename_i h;rw[aJ.1 hk];exact⟨(abx a hj h).2.2,U7 _ _ _⟩
    .cases hk
  have hlen:(ZI w l j).length<=1000:=by
   have:=Ko (dB (II w l j)) j;unfold ZI;rw[bg];split<;>simp<;>omega
  have hls:=Ko (dB (Rb w l j)) j;have hck:=apy a hj hc rfl;have z:=N8 a hjl (ZI w l j) _ hc hhd;have s:=N8 a hjl (fL (dB (Rb w l j)) j) _ z λk hk=>Kn hk
  generalize (if 0<=uH l (b8 l j).th j then mR w l (uH l (b8 l j).th j).toNat else [])=c at*
  refine aR (aji a hj) ?_;refine NX a hjl hc hhd hlen (P:=λr=>r= .inl (((j+1:Nat):Int),(w,l),(bS (j+1)).map (mR w l))) (λr h=>by subst h;rfl) ?_;refine aw (P:=λr=>r= .inl (((j+1:Nat):Int),(w,l),(bS (j+1)).map (mR w l))) ?_ λr hr=>aj ⟨r,rfl,hr⟩
  refine aR (aiz a hj) (NX a hjl z (λk hk=>Kn hk) (by omega) (P:=λr=>r= .inl (((j+1:Nat):Int),(w,l),(bS (j+1)).map (mR w l))) (λr h=>h) ?_);refine aw (P:=λr=>r= .inl (((j+1:Nat):Int),(w,l),(bS (j+1)).map (mR w l))) ?_ λr hr=>aj ⟨r,rfl,hr⟩
  have et:(eN l j).1=((b8 l j).th:Int):=(lY a hj).th;have A:=s.2 (b8 l j).th;refine cg (aT (aR (x:=mR w l j) ?_ (bd (by simp;omega) (by omega) (aj ?_))))
  .change qm (fo w l (fo w l c (ZI w l j)) (fL (dB (Rb w l j)) j),(eN l j).1)=_;rw[et,<-hck];exact Vp _ _ s.lb (sr a hj).th4 A.1 (by omega)
  .dsimp only;rw[gH (by omega),Gk,cM];rfl
 .rintro x rfl;exact dv (aj rfl)
theorem OW:nA=eU:=rfl
theorem amh {w:WT} {l:Y ET} (s:TR (w,l)) {a:Nat} (z:a<l.length) (h:OP (b8 l a)=J):(eN l a).2.2.1=((b8 l a).ob:Int):=(lY s z).ob (by rcases bf h with h|h<;>rw[h]<;>decide)
abbrev Sh:Type:=(ν)×(ν)×η
def ud (l:η) (t:Nat) (n:Int):η:=(l++aA (t+1-l.length) 0).set t n
theorem zG (l:η) (t:Nat) (n:Int):(ud l t n).length=max l.length (t+1):=by unfold ud;rw[ig,bg,bU];omega
theorem zH (l:η) (t:Nat) (n:Int) (u:Nat):(ud l t n).getD u 0=if t=u then n else l.getD u 0:=by
 unfold ud;rw[pj,bg,bU];by_cases h:t=u
 .rw[aC ⟨h,by omega⟩,aC h]
 .rw[ax λq=>h q.1,ax h,av,av,List.getElem?_append];split
  .rfl
  .rename_i q;rw[jC,bG (by omega:l.length<=u)];split<;>rfl
theorem X2 (l:η) (t:Nat) (n:Int):ud l t n≠[]:=λh=>by
 have:=zG l t n;rw[h]at this;simp only[fO]at this;omega
def HA (c:η) (e:ν):Bool:=decide (e.1<=c.getD e.2.toNat 0)
def lqQ (a c:η):Bool:= @decide (∀u:Nat,a.getD u 0<=c.getD u 0) (l9 _)
theorem ak5 {a c:η}:lqQ a c=J↔∀u:Nat,a.getD u 0<=c.getD u 0:=by unfold lqQ;exact @decide_eq_true_iff _ (l9 _)
theorem aeb {w:WT} {l:Y ET} {a j:Nat}:HA (mR w l j) (epN l a)=J↔OX w l a j:=by unfold HA epN OX;simp only[ba,bY]
def rdF (s:Sh) (c:η) (t:Nat):Sh×Bool:=
 (if s.2.2≠[] then (s.1,s.2.1,ud s.2.2 t (c.getD t 0)) else if s.2.1.1=0\/HA c s.2.1=J then (s.1,(c.getD t 0,(t:Int)),[]) else (s.1,(0,0),ud (ud [] s.2.1.2.toNat s.2.1.1) t (c.getD t 0)),!HA c s.1)
def wrF (s:Sh) (c:η) (t:Nat):Sh×Bool:=(((c.getD t 0,(t:Int)),(0,0),[]),!(HA c s.1&&(HA c s.2.1&&lqQ s.2.2 c)))
def Xt (l:Y ET) (o k:Nat):Bool:=OP (b8 l k)&&decide ((b8 l k).ob=o)
theorem aq1 {l:Y ET} {o k:Nat}:Xt l o k=J↔((b8 l k).k=3\/(b8 l k).k=4)/\(b8 l k).ob=o:=by unfold Xt OP;rw[al,ba,ba]
def E7 (w:WT) (l:Y ET) (s:Sh) (j:Nat):Sh×Bool:=if (b8 l j).k=3 then rdF s (mR w l j) (b8 l j).th else wrF s (mR w l j) (b8 l j).th
def Me (w:WT) (l:Y ET) (o:Nat):Nat->Sh
 |0=>((0,0),(0,0),[])
 |i+1=>if Xt l o i=J then (E7 w l (Me w l o i) i).1 else Me w l o i
def raF (w:WT) (l:Y ET) (o i:Nat):Bool:=Xt l o i&&(E7 w l (Me w l o i) i).2
def fiF (w:WT) (l:Y ET) (o:Nat):Nat->Int
 |0=> -1
 |i+1=>if raF w l o i=J/\fiF w l o i<0 then i else fiF w l o i
abbrev stO (l:Y ET) (o k:Nat):Prop:=(b8 l k).k=4/\(b8 l k).ob=o
abbrev ldO (l:Y ET) (o k:Nat):Prop:=(b8 l k).k=3/\(b8 l k).ob=o
def YX (l:Y ET) (o i k:Nat):Prop:=k<i/\ldO l o k/\∀a,k<a->a<i->¬stO l o a
structure FTe (w:WT) (l:List ET) (o i:Nat) (s:Sh):Prop where
 W:(s.1=(0,0)/\∀b,b<i->¬stO l o b)\/∃a,a<i/\stO l o a/\s.1=epN l a/\∀b,a<b->b<i->¬stO l o b
 R:s.2.2=[]->(s.2.1=(0,0)/\∀b,¬YX l o i b)\/∃r,YX l o i r/\s.2.1=epN l r/\∀b,YX l o i b->b=r\/b<r/\OX w l b r
 Z:s.2.2≠[]->s.2.1=(0,0)
 V:s.2.2≠[]->∀u:Nat,s.2.2.getD u 0=0\/∃r,YX l o i r/\(b8 l r).th=u/\s.2.2.getD u 0=(EC l u r:Int)+1
 U:s.2.2≠[]->∀b,YX l o i b->∃r,YX l o i r/\s.2.2.getD (b8 l r).th 0=(EC l (b8 l r).th r:Int)+1/\(b=r\/b<r/\OX w l b r)
theorem af2 {l:Y ET} {o i:Nat} (hs:¬stO l o i) {b:Nat}:YX l o (i+1) b↔YX l o i b\/b=i/\ldO l o i:=by
 constructor
 .rintro⟨h1,h2,s⟩;by_cases q:b=i
  .subst q;exact .inr ⟨rfl,h2⟩
  .exact .inl ⟨by omega,h2,λa x y=>s a x (by omega)⟩
 .rintro (⟨h1,h2,s⟩|⟨rfl,h⟩)
  .exact⟨by omega,h2,λa x y=>by
    by_cases q:a=i
    .subst q;exact hs
    .exact s a x (by omega)⟩
  .exact⟨by omega,h,λa x y=>by omega⟩
theorem ame {l:Y ET} {o i:Nat} (hs:stO l o i) (b:Nat):¬YX l o (i+1) b:=λ⟨h1,h2,a⟩=>by
 by_cases q:b=i
 .subst q;have:=hs.1;have:=h2.1;omega
 .exact a i (by omega) (by omega) hs
theorem FTe.zero (w:WT) (l:Y ET) (o:Nat):FTe w l o 0 ((0,0),(0,0),[]):=⟨.inl ⟨rfl,λb h=>by omega⟩,λ_=>.inl ⟨rfl,λb h=>by have:=h.1;omega⟩,λh=>ca rfl h,λh=>ca rfl h,λh=>ca rfl h⟩
theorem FTe.skip {w:WT} {l:Y ET} {o i:Nat} {s:Sh} (f:FTe w l o i s) (h:Xt l o i=af):FTe w l o (i+1) s:=by
 have h:¬Xt l o i=J:=by rw[h];decide
 rw[aq1]at h;have z:¬stO l o i:=λq=>h ⟨.inr q.1,q.2⟩
 have A:¬ldO l o i:=λq=>h ⟨.inl q.1,q.2⟩
 have e:∀b,YX l o (i+1) b↔YX l o i b:=λb=>by rw[af2 z];exact or_iff_left λq=>A q.2
 refine ⟨?_,?_,f.Z,?_,?_⟩
 .rcases f.W with ⟨h1,h2⟩|⟨a,h1,h2,h3,L⟩
  .exact .inl ⟨h1,λb hb=>by
    by_cases q:b=i
    .subst q;exact z
    .exact h2 b (by omega)⟩
  .exact .inr ⟨a,by omega,h2,h3,λb x y=>by
    by_cases q:b=i
    .subst q;exact z
    .exact L b x (by omega)⟩
 .simp only[e];exact f.R
 .simp only[e];exact f.V
 .simp only[e];exact f.U
theorem FTe.store {w:WT} {l:Y ET} (a:TR (w,l)) {o i:Nat} {s:Sh} (hi:i<l.length) (h:stO l o i):FTe w l o (i+1) (E7 w l s i).1:=by
 unfold E7 wrF;rw[ax (by have:=h.1;omega)];refine ⟨.inr ⟨i,by omega,h,?_,λb x y=>by omega⟩,λ_=>.inl ⟨rfl,λb=>ame h b⟩,λq=>ca rfl q,λq=>ca rfl q,λq=>ca rfl q⟩;dsimp only;rw[IV a hi];rfl
theorem FTe.load {w:WT} {l:Y ET} (A:TR (w,l)) {o i:Nat} {s:Sh} (f:FTe w l o i s) (hi:i<l.length) (h:ldO l o i):FTe w l o (i+1) (E7 w l s i).1:=by
 have n4:¬stO l o i:=λq=>by have:=h.1;have:=q.1;omega
 have e:∀b,YX l o (i+1) b↔YX l o i b\/b=i:=λb=>by rw[af2 n4];exact or_congr_right ⟨λq=>q.1,λq=>⟨q,h⟩⟩
 have own:=IV A hi;have fW:(s.1=(0,0)/\∀b,b<i+1->¬stO l o b)\/∃a,a<i+1/\stO l o a/\s.1=epN l a/\∀b,a<b->b<i+1->¬stO l o b:=by
  rcases f.W with ⟨h1,h2⟩|⟨a,h1,h2,z,h4⟩
  .exact .inl ⟨h1,λb hb=>by
    by_cases q:b=i
    .subst q;exact n4
    .exact h2 b (by omega)⟩
  .exact .inr ⟨a,by omega,h2,z,λb x y=>by
    by_cases q:b=i
    .subst q;exact n4
    .exact h4 b x (by omega)⟩
 unfold E7 rdF;rw[aC h.1];by_cases hl:s.2.2≠[]
 .rw[aC hl];refine ⟨fW,λq=>ca q (X2 _ _ _),λ_=>f.Z hl,λ_ u=>?_,λ_ b hb=>?_⟩
  .dsimp only;rw[zH];by_cases q:(b8 l i).th=u
   .rw[aC q,own];exact .inr ⟨i,(e i).2 (.inr rfl),q,by rw[q]⟩
   .rw[ax q];rcases f.V hl u with h1|⟨r,h1,h2⟩
    .exact .inl h1
    .exact .inr ⟨r,(e r).2 (.inl h1),h2⟩
  .have new:∃r,YX l o (i+1) r/\(ud s.2.2 (b8 l i).th ((mR w l i).getD (b8 l i).th 0)).getD (b8 l r).th 0=(EC l (b8 l r).th r:Int)+1/\r=i:=⟨i,(e i).2 (.inr rfl),by rw[zH,aC rfl,own],rfl⟩
   rcases (e b).1 hb with hb|rfl
   .obtain⟨r,h1,h2,z⟩:=f.U hl b hb;by_cases q:(b8 l i).th=(b8 l r).th
    .obtain⟨r',n1,n2,rfl⟩:=new;have hri:=h1.1;have c1:=OX.own A hri hi q.symm;refine ⟨r',n1,n2,.inr ?_⟩;rcases z with rfl|⟨z,h4⟩
     .exact⟨hri,c1⟩
     .exact⟨by omega,h4.trans A (by omega) (by omega) hi c1⟩
    .exact⟨r,(e r).2 (.inl h1),by dsimp only;rw[zH,ax q];exact h2,z⟩
   .obtain⟨r,n1,n2,n3⟩:=new;exact⟨r,n1,n2,.inl n3.symm⟩
 .rw[ax hl];have hl:s.2.2=[]:=Classical.not_not.1 hl;by_cases hc:s.2.1.1=0\/HA (mR w l i) s.2.1=J
  .rw[aC hc];refine ⟨fW,λ_=>.inr ⟨i,(e i).2 (.inr rfl),by dsimp only;rw[own];rfl,λb hb=>?_⟩,λq=>ca rfl q,λq=>ca rfl q,λq=>ca rfl q⟩;rcases (e b).1 hb with hb|rfl
   .rcases f.R hl with ⟨_,h2⟩|⟨r,h1,h2,z⟩
    .exact ca hb (h2 b)
    .have hri:=h1.1;rw[h2]at hc;have cr:OX w l r i:=by
      rcases hc with hc|hc
      .exfalso;unfold epN at hc;dsimp only at hc;omega
      .exact aeb.1 hc
     rcases z b hb with rfl|⟨h4,h5⟩
     .exact .inr ⟨hri,cr⟩
     .exact .inr ⟨by omega,h5.trans A (by omega) (by omega) hi cr⟩
   .exact .inl rfl
  .rw[ax hc];have L:=not_or.1 hc;rcases f.R hl with ⟨h1,_⟩|⟨r,h1,h2,z⟩
   .exact ca (by rw[h1]) L.1
   .have hri:=h1.1;have nc:¬OX w l r i:=λq=>L.2 (by rw[h2];exact aeb.2 q)
    have nt:¬(b8 l r).th=(b8 l i).th:=λq=>nc (OX.own A hri hi q)
    have et:s.2.1.2.toNat=(b8 l r).th:=by rw[h2];unfold epN;dsimp only;omega
    have ev:s.2.1.1=(EC l (b8 l r).th r:Int)+1:=by rw[h2];rfl
    have g:∀u,(ud (ud [] s.2.1.2.toNat s.2.1.1) (b8 l i).th ((mR w l i).getD (b8 l i).th 0)).getD u 0=if (b8 l i).th=u then (EC l (b8 l i).th i:Int)+1 else if (b8 l r).th=u then (EC l (b8 l r).th r:Int)+1 else 0:=λu=>by
     rw[zH,zH,own,et,ev];simp
    refine ⟨fW,λq=>ca q (X2 _ _ _),λ_=>rfl,λ_ u=>?_,λ_ b hb=>?_⟩
    .dsimp only;rw[g];by_cases q:(b8 l i).th=u
     .rw[aC q];exact .inr ⟨i,(e i).2 (.inr rfl),q,by rw[q]⟩
     .rw[ax q];by_cases q2:(b8 l r).th=u
      .rw[aC q2];exact .inr ⟨r,(e r).2 (.inl h1),q2,by rw[q2]⟩
      .rw[ax q2];exact .inl rfl
    .rcases (e b).1 hb with hb|rfl
     .exact⟨r,(e r).2 (.inl h1),by dsimp only;rw[g,ax λq=>nt q.symm,aC rfl],z b hb⟩
     .exact⟨b,(e b).2 (.inr rfl),by dsimp only;rw[g,aC rfl],.inl rfl⟩
abbrev In:Ty:=(.st (.pr jB (.pr jB (.sl aL))))
abbrev Kg1:Ty:=(.st (.pr EQ (.pr EQ EQ)))
abbrev Kg2:Ty:=(.pr aL (.pr aL .un))
abbrev Nd:=(ν×(ν)×η)
abbrev Yg1:=(η×(η)×(η)×(η)×η)
def yi (it:zw) (x:η×η):I (Bool):=
 (it (Int) _ (λa=>(bx a (fM (aX x.1) (aX x.2)) (au (gu (x.1,a)) λz=>(au (gu (x.2,a)) λs=>(bx s z (aD af) (cR (cL a))))) (aD J))) 0)
def Cu (x:η×η):I (Bool):=yi @iter x
def nV (x:η×η):I (Bool):=yi @gx x
def hY (x:Int):I (Bool):=
 (jn (iR 0 x (aD (fR x 4)) (aD af)) λa=>(M a))
def lX (x:Nd×(η)×Int):I (Nd×Bool):=
 (jn (α:=Bool×Nd×Int×Int×Int×Int) (au (hY x.2.2) λy2=>(aF (!y2) (aD (J,x.1,0,0,0,0)) (au (hY x.1.1.2) λy3=>(aF (!y3) (aD (J,x.1,0,0,0,0)) (au (hY x.1.2.1.2) λy4=>(aD ((!y4),x.1,0,0,0,0))))))) λa=>(aF a.1 (M (((0,0),(0,0),([]:η)),af)) (au (gu x.2) λz=>(bx 0 (aX a.2.1.2.2) (bC (c9 0 (fM (aX a.2.1.2.2) (cL x.2.2))&&c9 (fM (aX a.2.1.2.2) (cL x.2.2)) (fM (aX a.2.1.2.2) (cL x.2.2))&&a8 (aQ (fM (aX a.2.1.2.2) (cL x.2.2))) 8) (ck (eX x.2.2 (ai (OJ (aA (aQ (fM (aX a.2.1.2.2) (cL x.2.2))) (0:Int)) a.2.1.2.2))) (au (eU (x.2.1,a.2.1.1)) λZ=>(M ((a.2.1.1,a.2.1.2.1,(cK (OJ (aA (aQ (fM (aX a.2.1.2.2) (cL x.2.2))) (0:Int)) a.2.1.2.2) x.2.2 z)),(!Z)))))) (jn (be a.2.1.2.1.1 0 (aD (J,a.2.1,a.2.2,a.2.1.1.1,a.2.1.1.2,a.2.1.2.1)) (au (eU (x.2.1,a.2.1.2.1)) λU=>(aD (U,a.2.1,a.2.2,a.2.1.1.1,a.2.1.1.2,a.2.1.2.1)))) λs=>(aF s.1 (au (eU (x.2.1,s.2.1.1)) λL=>(M (((s.p3,s.p4),(z,x.2.2),([]:η)),(!L)))) (bC (c9 0 (bm .i64 ((fM s.2.1.2.1.2 x.2.2)+1))&&c9 (bm .i64 ((fM s.2.1.2.1.2 x.2.2)+1)) (bm .i64 ((fM s.2.1.2.1.2 x.2.2)+1))&&a8 (aQ (bm .i64 ((fM s.2.1.2.1.2 x.2.2)+1))) 8) (ck (eX s.2.1.2.1.2 (ai (aA (aQ (bm .i64 ((fM s.2.1.2.1.2 x.2.2)+1))) (0:Int)))) (ck (eX x.2.2 (ai (cK (aA (aQ (bm .i64 ((fM s.2.1.2.1.2 x.2.2)+1))) (0:Int)) s.2.1.2.1.2 s.2.1.2.1.1))) (au (eU (x.2.1,s.2.1.1)) λA=>(M (((s.p3,s.p4),(0,0),(cK (cK (aA (aQ (bm .i64 ((fM s.2.1.2.1.2 x.2.2)+1))) (0:Int)) s.2.1.2.1.2 s.2.1.2.1.1) x.2.2 z)),(!A)))))))))))))
def kE (x:Nd×(η)×Int):I (Nd×Bool):=
 (jn (α:=Bool×Nd×Int×Int×Int×Int) (au (hY x.2.2) λy2=>(aF (!y2) (aD (J,x.1,0,0,0,0)) (au (hY x.1.1.2) λZ=>(aF (!Z) (aD (J,x.1,0,0,0,0)) (au (hY x.1.2.1.2) λU=>(aD ((!U),x.1,0,0,0,0))))))) λa=>(aF a.1 (M (((0,0),(0,0),([]:η)),af)) (jn (au (eU (x.2.1,a.2.1.1)) λL=>(aF L (au (eU (x.2.1,a.2.1.2.1)) λA=>(aF A (au (nV (a.2.1.2.2,x.2.1)) λz=>(aD (z,a.2.2))) (aD (af,a.2.2)))) (aD (af,a.2.2)))) λx5=>(au (gu x.2) λs=>(M (((s,x.2.2),(0,0),([]:η)),(!x5.1)))))))
def ph (x:fD×Y jM):I (η×(Y Nd)×Int):=
 (au (qa x) λy1=>(jw y1.2 0 (M (([]:η),([]:Y Nd),y1.2)) (jn (α:=(fD×Y jM)×(η)×(η)×(η)×(η)×η) (iter (σ:=Int×(fD×Y jM)×(η)×(η)×(η)×(η)×η) (λA=>(bx A.1 (aX x.2) (jn (α:=(fD×Y jM)×(η)×(η)×(η)×(η)×η) (bD gX x.2 A.1 λz5=>(jn (be z5.2.1 3 (aD (J,A.2.1,z5,A.2.2)) (aD ((decide ((z5.2.1:Int)=4)),A.2.1,z5,A.2.2))) λs=>(aF s.1 (be s.p2.p2 0 (bC (a8 (ai s.p3+ai ([A.1])) 8) (aD (s.2.1,(s.p3++([A.1])),s.q4))) (be s.p2.p2 1 (bC (a8 (ai s.p4+ai ([A.1])) 8) (aD (s.2.1,s.p3,(s.p4++([A.1])),s.q5))) (be s.p2.p2 2 (bC (a8 (ai s.p5+ai ([A.1])) 8) (aD (s.2.1,s.p3,s.p4,(s.p5++([A.1])),s.q6))) (be s.p2.p2 3 (bC (a8 (ai s.p6+ai ([A.1])) 8) (aD (s.2.1,s.p3,s.p4,s.p5,(s.p6++([A.1])),s.q7))) (be s.p2.p2 4 (bC (a8 (ai s.q7+ai ([A.1])) 8) (aD (s.2.1,s.p3,s.p4,s.p5,s.p6,(s.q7++([A.1]))))) D))))) (aD (s.2.1,s.q3))))) λx4=>(cR ((cL A.1),x4))) (aD (bQ A.2)))) (0,x,([]:η),([]:η),([]:η),([]:η),([]:η))) λU=>(bC (c9 0 (aX U.1.1.1)&&c9 (aX U.1.1.1) (aX U.1.1.1)&&a8 (aQ (aX U.1.1.1)) 8) (bC (c9 0 (aX U.1.1.1)&&c9 (aX U.1.1.1) (aX U.1.1.1)&&a8 (aQ (aX U.1.1.1)) 56) (iter (σ:=Int×(fD×Y jM)×Yg1×(η)×Y Nd) (λa=>(bx a.1 (aX U.1.1.1) (jn (α:=(fD×Y jM)×Yg1×(η)×Y Nd) (bD kX U.1.1.1 a.1 λz9=>(ck (eX a.1 (ai a.p3)) (aF z9.p3 (aD (a.2.1,a.p2,(cK a.p3 a.1 (-1)),a.q4)) (jn (α:=(η×Int×Int)×(fD×Y jM)×Yg1×(η)×Y Nd) (be a.1 0 (aD ((a.p2.1,(aX a.p2.1),0),a.2.1,a.p2,(cK a.p3 a.1 (-1)),a.q4)) (be a.1 1 (aD ((a.p2.2.1,(aX a.p2.2.1),0),a.2.1,a.p2,(cK a.p3 a.1 (-1)),a.q4)) (be a.1 2 (aD ((a.p2.p2,(aX a.p2.p2),0),a.2.1,a.p2,(cK a.p3 a.1 (-1)),a.q4)) (be a.1 3 (aD ((a.p2.p3,(aX a.p2.p3),0),a.2.1,a.p2,(cK a.p3 a.1 (-1)),a.q4)) (be a.1 4 (aD ((a.p2.q4,(aX a.p2.q4),0),a.2.1,a.p2,(cK a.p3 a.1 (-1)),a.q4)) D))))) λx10=>(iter (σ:=Int×(fD×Y jM)×Yg1×(η)×Y Nd) (λz=>(bx z.1 x10.1.2.1 (jn (bD aL x10.1.1 z.1 λZ=>(jn (bD gX z.2.1.2 Z λz15=>(be z15.2.1 3 (kO In z.q4 a.1 λz16=>(bD (.sl aL) y1.1 Z λz17=>(au (lX (z16,z17,z15.1)) λy18=>(ck (eX a.1 (ai z.q4)) (aD (y18.2,z.2.1,z.p2,z.p3,(cK z.q4 a.1 y18.1))))))) (kO In z.q4 a.1 λz19=>(bD (.sl aL) y1.1 Z λz20=>(au (kE (z19,z20,z15.1)) λy21=>(ck (eX a.1 (ai z.q4)) (aD (y21.2,z.2.1,z.p2,z.p3,(cK z.q4 a.1 y21.1))))))))) λx14=>(jn (aF x14.1 (kO aL x14.p3 a.1 λz23=>(aD ((fR z23 0),x14.2))) (aD (af,x14.2))) λL=>(aF L.1 (ck (eX a.1 (ai L.p3)) (aD (L.2.1,L.p2,(cK L.p3 a.1 Z),L.q4))) (aD L.2))))) λx12=>(cR ((cL z.1),x12))) (aD (bQ z.2)))) (x10.1.2.2,x10.2)))))) λx8=>(cR ((cL a.1),x8))) (aD (a.p3,a.q4,0)))) (0,U.1,U.2,(aA (aQ (aX U.1.1.1)) (0:Int)),(aA (aQ (aX U.1.1.1)) (((0,0),((0,0),[])):ν×(ν)×η)))))))))
def nU (x:fD×Y jM):I ((Y Nd)×Int):=
 (au (ph x) λa=>(M a.2))
def uL (x:η×Int×Int):I η:=
 (au (rR x.1) λs=>(iter (σ:=η) (λa=>(iR (aX a) x.2.1 (bC (a8 (ai a+ai ([0])) 8) (cR (a++([0])))) (au (ck (eX x.2.1 (ai a)) (M (cK a x.2.1 x.2.2))) λr=>M (bQ r)))) s))
def wX (x:Nd×(η)×Int):I (Nd×Bool):=
 (au (nA (x.2.1,x.1.1)) λy1=>(au (sI x.2) λs=>(au (AQ x.1.2.2) λz=>(jn (α:=(Int×Int×Int×Int)×(ν)×(ν)×η) (bx 0 (aX x.1.2.2) (au (uL (x.1.2.2,x.2.2,s)) λZ=>(aD ((0,0,0,0),x.1.1,x.1.2.1,Z))) (jn (α:=Bool×Nd×(Int×Int×Int×Int)×(ν)×(ν)×η) (be x.1.2.1.1 0 (aD (J,x.1,(0,0,0,0),x.1.1,x.1.2.1,z)) (au (nA (x.2.1,x.1.2.1)) λU=>(aD (U,x.1,(0,0,0,0),x.1.1,x.1.2.1,z)))) λa=>(aF a.1 (aD (a.p2,a.p3,(s,x.2.2),a.q5)) (au (uL (([]:η),a.2.1.2.1.2,a.2.1.2.1.1)) λL=>(au (uL (L,x.2.2,s)) λA=>(aD (a.p2,a.p3,(0,0),A))))))) λx4=>(M (x4.2,(!y1)))))))
def uM (x:Nd×(η)×Int):I (Nd×Bool):=
 (jn (α:=Bool×Int×Int×Int×Int) (au (nA (x.2.1,x.1.1)) λA=>(aF (!A) (aD (J,0,0,0,0)) (au (nA (x.2.1,x.1.2.1)) λz=>(aF (!z) (aD (J,0,0,0,0)) (au (o_ (x.1.2.2,x.2.1)) λs=>(aD ((!s),0,0,0,0))))))) λL=>(au (sI x.2) λa=>(M (((a,x.2.2),(0,0),([]:η)),L.1))))
def qT (x:fD×Y jM):I (Y Nd):=
 (bC (c9 0 (aX x.1.1)&&c9 (aX x.1.1) (aX x.1.1)&&a8 (aQ (aX x.1.1)) 56) (au (sY x) λy1=>(iter (σ:=Int×(fD×Y jM)×Y Nd) (λs=>(bx s.1 (aX x.2) (jn (bD gX x.2 s.1 λz=>(jn (au (nB z) λy6=>(aF (!y6) (aD (J,s.2.1,s.2.2,z)) (au (mF (s.2.1.1,z)) λy7=>(aD (y7,s.2.1,s.2.2,z))))) λa=>(aF a.1 (aD (a.2.1,a.p2)) (be a.p4 3 (kO In a.p2 a.p5 λz8=>(bD (.sl aL) y1 s.1 λz9=>(au (wX (z8,z9,a.p3)) λZ=>(ck (eX a.p5 (ai a.p2)) (aD (a.2.1,(cK a.p2 a.p5 Z.1))))))) (kO In a.p2 a.p5 λL=>(bD (.sl aL) y1 s.1 λA=>(au (uM (L,A,a.p3)) λU=>(ck (eX a.p5 (ai a.p2)) (aD (a.2.1,(cK a.p2 a.p5 U.1))))))))))) λx3=>(cR ((cL s.1),x3))) (aD s.2.2))) (0,x,(aA (aQ (aX x.1.1)) (((0,0),((0,0),[])):ν×(ν)×η))))))
def mr (x:Nd×(ν)×(ν)×η):I (Bool):=
 (jn (aF (L9 Kg2 (x.1.1.1,x.1.1.2,()) (x.2.1.1,x.2.1.2,()) !=af) (aF (L9 Kg2 (x.1.2.1.1,x.1.2.1.2,()) (x.p2.1,x.p2.2,()) !=af) (au (rP (x.1.2.2,x.q3)) λa=>(aF a (aD (((decide (((aX x.1.2.2):Int)=0))==(decide (((aX x.q3):Int)=0))) !=af)) (aD af))) (aD af)) (aD af)) λs=>(M s))
def uj (x:Unit):I (Bool):=
 (au (lX (((0,0),(0,0),([]:η)),[0,3],1)) λs=>(au (lX (s.1,[2,0],0)) λa=>(au (kE (a.1,[3,2],0)) λL=>(au (kE (a.1,[3,3],0)) λA=>(jn (α:=Bool) (aF (!s.2) (aF (!a.2) (aF L.2 (aF (!A.2) (aF (L9 Kg2 (s.1.2.1.1,s.1.2.1.2,()) (3,1,()) !=af) (au (rP (a.1.2.2,[2,3])) λz=>(aF z (aD (decide (((aX a.1.2.2):Int)=2))) (aD af))) (aD af)) (aD af)) (aD af)) (aD af)) (aD af)) λU=>(M U))))))
def jz (x:η×(η)×η):I (Bool):=
 (au (lz (x,40)) λA=>(au (nU A) λa=>(au (qT A) λz=>(jn (jw a.2 0 (aD J) (aD (!decide (((aX a.1):Int)=(aX z))))) λx4=>(aF x4 (M af) (iter (σ:=Int) (λs=>(bx s (aX a.1) (bD In a.1 s λU=>(bD In z s λL=>(au (mr (U,L)) λy8=>(aF (!y8) (aD af) (cR (cL s)))))) (au (au (uj ()) λZ=>(M Z)) λr=>M (bQ r)))) 0))))))
theorem qj {n:Nat} (h:n<4):hY (n:Int)=M J:=by
 refine b_ ?_;unfold hY iR aD;refine aV (λx=>x=J) ?_ λx a=>aj a
 exact eO (λ_=>aj (sO.2 (by omega))) λh=>ca h (by omega)
theorem qD (c:η) (e:ν) (h:0<=e.2):eU (c,e)=M (HA c e):=by
 obtain⟨a,b⟩:=e;obtain⟨u,rfl⟩:∃u:Nat,b=u:=⟨b.toNat,(eZ h).symm⟩
 rw[XK];unfold HA;rw[bY]
theorem afj (a c:η) (s:a.length<=1000) (hc:c.length<=1000):nV (a,c)=M (lqQ a c):=by
 refine b_ ?_;unfold nV yi bx aX cR aD cL;refine jD (max a.length c.length) (by omega) (λi x=>x=(i:Int)/\∀v,v<i->a.getD v 0<=c.getD v 0) ?_ ?_ ⟨rfl,λv h=>by omega⟩
 .rintro i x hi ⟨rfl,h⟩;simp only[nX];refine du (aR (sB a i) (aR (sB c i) (bL (λg=>aj ?_) λg=>aj ?_)))
  .show af=lqQ a c
   symm;rw[O4];intro q
   have:=ak5.1 q i;omega
  .refine ⟨gH (by omega),λv hv=>?_⟩;by_cases e:v=i
   .subst e;exact g
   .exact h v (by omega)
 .rintro x ⟨rfl,h⟩;simp only[nX];refine dv (aj ?_);show J=lqQ a c
  symm;rw[ak5];intro v
  by_cases hv:v<max a.length c.length
  .exact h v hv
  .rw[av,av,bG (by omega),bG (by omega)];exact dk _
theorem aia (l:η) (t:Nat) (n:Int):cK (OJ (aA (max l.length (t+1)) (0:Int)) l) (t:Int) n=ud l t n:=by
 rw[Lo _ _ (by omega),dM];unfold ud;rw[show max l.length (t+1)-l.length=t+1-l.length by omega]
theorem agu (u t:Nat) (p n:Int):cK (cK (aA (max u t+1) (0:Int)) (u:Int) p) (t:Int) n=ud (ud [] u p) t n:=by
 have e:aA (max u t+1) (0:Int)=aA (u+1) 0++aA (t+1-(u+1)) 0:=by rw[List.replicate_append_replicate];congr 1;omega
 rw[dM,dM,e,List.set_append_left _ _ (by rw[bU];omega)];unfold ud;simp only[km,fO,ig,bU,Nat.sub_zero]
structure L_ (s:Sh):Prop where
 a0:0<=s.1.2
 a1:s.1.2<4
 b0:0<=s.2.1.2
 b1:s.2.1.2<4
 len:s.2.2.length<=4
theorem L_.zero:L_ ((0,0),(0,0),[]):=⟨by decide,by decide,by decide,by decide,iK _⟩
theorem ap3 {s:Sh} (h:L_ s) (c:η) {t:Nat} (ht:t<4):L_ (rdF s c t).1:=by
 obtain⟨h1,h2,z,a,A⟩:=h;unfold rdF;dsimp only;split
 .exact⟨h1,h2,z,a,by dsimp only;rw[zG];omega⟩
 split
 .exact⟨h1,h2,by dsimp only;omega,by dsimp only;omega,iK _⟩
 .refine ⟨h1,h2,dk 0,(by decide:(0:Int)<4),?_⟩;dsimp only;rw[zG,zG,fO];omega
theorem aox (s:Sh) (c:η) {t:Nat} (ht:t<4):L_ (wrF s c t).1:=by
 unfold wrF;exact⟨by dsimp only;omega,by dsimp only;omega,dk 0,(by decide:(0:Int)<4),iK _⟩
theorem aj2 {s:Sh} (h:L_ s) {c:η} (hc:c.length<=4) {t:Nat} (ht:t<4):lX (s,c,(t:Int))=M (rdF s c t):=by
 obtain⟨h1,h2,A,h4,Z⟩:=h;obtain⟨⟨a,b⟩,⟨p,q⟩,r⟩:=s;dsimp only at h1 h2 A h4 Z;obtain⟨u,rfl⟩:∃u:Nat,b=u:=⟨b.toNat,(eZ h1).symm⟩
 obtain⟨v,rfl⟩:∃v:Nat,q=v:=⟨q.toNat,(eZ A).symm⟩
 refine b_ ?_;unfold lX bi bu ck be bx bC aX aD cL;refine aV (λx=>x.1=af/\x.2.1=((a,(u:Int)),(p,(v:Int)),r)) ?_ ?_
 .exact aR (qj ht) (dy (aR (qj (show u<4 by omega)) (dy (aR (qj (show v<4 by omega)) (aj ⟨rfl,rfl⟩)))))
 rintro⟨b0,s',z⟩ ⟨e1,e2⟩;dsimp only at e1 e2;subst e1;subst e2;refine dy (aR (sB c t) ?_);have L:eU (c,(a,(u:Int)))=M (HA c (a,(u:Int))):=qD _ _ h1;have cr:eU (c,(p,(v:Int)))=M (HA c (p,(v:Int))):=qD _ _ A;have m1:fM (aM r.length) (bm .i64 ((t:Int)+1))=((max r.length (t+1):Nat):Int):=by rw[gH (by omega)];exact nX _ _
 have m2:bm .i64 (fM (v:Int) (t:Int)+1)=((max v t+1:Nat):Int):=by rw[show fM (v:Int) (t:Int)=((max v t:Nat):Int) from nX v t];exact gH (by omega)
 refine bL (λg=>?_) λg=>?_
 .have g:r≠[]:=λq=>by subst q;exact ca g (Int.lt_irrefl 0)
  dsimp only;rw[m1];refine db (db (dI (by omega) (dI (by omega) (bd (by omega) (by omega) ?_))));have k:=aia r t (c.getD t 0);have U:(OJ (aA (max r.length (t+1)) (0:Int)) r).length=max r.length (t+1):=by rw[Lo _ _ (by omega),bg,bU];omega
  rw[bY];refine aP (by omega) (by rw[U];omega) (aP (by omega) (by rw[U];omega) (aR L (aj ?_)));rw[k];unfold rdF;dsimp only;rw[aC g]
 .have g:r=[]:=List.eq_nil_of_length_eq_zero (by dsimp only[ak]at g;omega);subst g;have rd:rdF ((a,(u:Int)),(p,(v:Int)),[]) c t=(if p=0\/HA c (p,(v:Int))=J then ((a,(u:Int)),(c.getD t 0,(t:Int)),[]) else ((a,(u:Int)),(0,0),ud (ud [] v p) t (c.getD t 0)),!HA c (a,(u:Int))):=by
   unfold rdF;dsimp only;rw[ax λq=>q rfl,bY]
  rw[rd];refine aV (λx=>x.1=(decide (p=0)||HA c (p,(v:Int)))/\x.2.1=((a,(u:Int)),(p,(v:Int)),[])/\x.2.2.2=(a,(u:Int),(p,(v:Int)))) ?_ ?_
  .refine aK (λg=>aj ⟨?_,rfl,rfl⟩) λg=>aR cr (aj ⟨?_,rfl,rfl⟩)
   .have g:p=0:=g;dsimp only;rw[aS g];rfl
   .have g:¬p=0:=g;dsimp only;rw[bB g];rfl
  rintro⟨x1,x2,x3,x4⟩ ⟨e1,e2,e3⟩;dsimp only at e1 e2 e3;subst e1;subst e2;subst e3;refine aO (λg=>?_) λg=>?_
  .have g:p=0\/HA c (p,(v:Int))=J:=by simpa using g
   rw[aC g];exact aR L (aj rfl)
  .have g:¬(p=0\/HA c (p,(v:Int))=J):=by
    have g:(decide (p=0)||HA c (p,(v:Int)))=af:=g;rw[Bool.or_eq_false_iff,decide_eq_false_iff_not]at g;rintro (q|q)
    .exact g.1 q
    .rw[q]at g;exact ca g.2 (by decide)
   rw[ax g];dsimp only;rw[m2];refine db (db (dI (by omega) (dI (by omega) (bd (by omega) (by omega) ?_))));rw[bY];refine aP (by omega) (by rw[bU];omega) (aP (by omega) (by rw[bU];omega) ?_);refine aP (by omega) (by rw[bW,bU];omega) (aP (by omega) (by rw[bW,bU];omega) (aR L (aj ?_)));rw[agu]
theorem af9 {s:Sh} (h:L_ s) {c:η} (hc:c.length<=4) {t:Nat} (ht:t<4):kE (s,c,(t:Int))=M (wrF s c t):=by
 obtain⟨h1,h2,L,Z,U⟩:=h;obtain⟨⟨a,b⟩,⟨p,q⟩,r⟩:=s;dsimp only at h1 h2 L Z U;obtain⟨u,rfl⟩:∃u:Nat,b=u:=⟨b.toNat,(eZ h1).symm⟩
 obtain⟨v,rfl⟩:∃v:Nat,q=v:=⟨q.toNat,(eZ L).symm⟩
 refine b_ ?_;unfold kE aD;refine aV (λx=>x.1=af/\x.2.1=((a,(u:Int)),(p,(v:Int)),r)) ?_ ?_
 .exact aR (qj ht) (dy (aR (qj (show u<4 by omega)) (dy (aR (qj (show v<4 by omega)) (aj ⟨rfl,rfl⟩)))))
 rintro⟨b0,s',z⟩ ⟨e1,e2⟩;dsimp only at e1 e2;subst e1;subst e2;refine dy (aV (λx=>x.1=(HA c (a,(u:Int))&&(HA c (p,(v:Int))&&lqQ r c))) ?_ ?_)
 .refine aR (qD _ _ h1) (aO (λg=>?_) λg=>aj ?_)
  .refine aR (qD _ _ L) (aO (λA=>?_) λA=>aj ?_)
   .refine aR (afj r c (by omega) (by omega)) (aj ?_);dsimp only at g A ⊢;rw[g,A];rfl
   .dsimp only at g A ⊢;rw[g,A];rfl
  .dsimp only at g ⊢;rw[g];rfl
 .rintro⟨x1,z2⟩ e;dsimp only at e;subst e;exact aR (sB c t) (aj rfl)
def Bb (l:Y ET) (o:Nat):Nat->η
 |0=>[]
 |n+1=>if Xt l o n=J then Bb l o n++[(n:Int)] else Bb l o n
theorem QY (l:Y ET) (o:Nat):∀n,(Bb l o n).length<=n
 |0=>bX _
 |n+1=>by
  have:=QY l o n;rw[Bb];split
  .rw[bg,dc];omega
  .omega
theorem I0 {l:Y ET} {o:Nat} {z:Int}:∀n,z∈Bb l o n->∃j:Nat,z=j/\j<n/\Xt l o j=J
 |0,h=>by cases h
 |n+1,h=>by
  rw[Bb]at h;split at h
  .rename_i q;rcases bP.1 h with h|h
   .obtain⟨j,h1,h2,a⟩:=I0 n h;exact⟨j,h1,by omega,a⟩
   .rw[aJ]at h;exact⟨n,h,by omega,q⟩
  .obtain⟨j,h1,h2,a⟩:=I0 n h;exact⟨j,h1,by omega,a⟩
abbrev Nq:Sh:=((0,0),(0,0),[])
def stS (w:WT) (l:Y ET) (x:Sh×Int) (z:Int):Sh×Int:=((E7 w l x.1 z.toNat).1,if (E7 w l x.1 z.toNat).2=J/\x.2<0 then z else x.2)
theorem SX (w:WT) (l:Y ET) (o:Nat):∀n,(Bb l o n).foldl (stS w l) (Nq,-1)=(Me w l o n,fiF w l o n)
 |0=>rfl
 |n+1=>by
  rw[Bb,Me,fiF];have a:=SX w l o n;unfold raF;by_cases q:Xt l o n=J
  .rw[aC q,aC q,dA,a,q,gG];unfold stS;dsimp only[List.foldl];rw[bY]
  .rw[ax q,ax q,a,ax];rintro⟨h,_⟩;rw[al]at h;exact q h.1
theorem ajv {w:WT} {l:Y ET} {s:Sh} {j:Nat} (h:L_ s) (ht:(b8 l j).th<4):L_ (E7 w l s j).1:=by
 unfold E7;split
 .exact ap3 h _ ht
 .exact aox _ _ ht
theorem ae4 {w:WT} {l:Y ET} (ht:∀j,j<l.length->(b8 l j).th<4):∀(y:η) (x:Sh×Int),(∀z∈y,∃j:Nat,z=j/\j<l.length)->L_ x.1->L_ (y.foldl (stS w l) x).1
 |[],_,_,h=>h
 |z::y,x,a,h=>by
  obtain⟨j,rfl,hj⟩:=a z (c8 ..);exact ae4 ht y _ (λz q=>a z (cC _ q)) (ajv h (ht j hj))
theorem X1 {w:WT} {l:Y ET} (ht:∀j,j<l.length->(b8 l j).th<4) (o:Nat):∀n,n<=l.length->L_ (Me w l o n)
 |0,_=>L_.zero
 |n+1,h=>by
  rw[Me];split
  .exact ajv (X1 ht o n (by omega)) (ht n (by omega))
  .exact X1 ht o n (by omega)
theorem Cf {w:WT} {l:Y ET} (a:TR (w,l)) (j:Nat) (h:j<l.length):(b8 l j).th<4:=(sr a h).th4
theorem alh {w:WT} {l:Y ET} (a:TR (w,l)) {j:Nat} (h:j<l.length) {s:Sh} (hs:L_ s) (hk:(b8 l j).k=3):lX (s,mR w l j,(eN l j).1)=M (E7 w l s j):=by
 rw[(lY a h).th,aj2 hs (F5 a h).1 (Cf a j h)];unfold E7;rw[aC hk]
theorem alg {w:WT} {l:Y ET} (a:TR (w,l)) {j:Nat} (h:j<l.length) {s:Sh} (hs:L_ s) (hk:¬(b8 l j).k=3):kE (s,mR w l j,(eN l j).1)=M (E7 w l s j):=by
 rw[(lY a h).th,af9 hs (F5 a h).1 (Cf a j h)];unfold E7;rw[ax hk]
theorem PA {w:WT} {l:Y ET} (a:TR (w,l)) {j:Nat} (h:j<l.length):(eN l j).2.1=3↔(b8 l j).k=3:=by rw[(lY a h).k];omega
theorem ak2 {w:WT} {l:Y ET} (a:TR (w,l)) {j:Nat} (h:j<l.length) (s:OP (b8 l j)=J):(eN l j).2.2.1=((b8 l j).ob:Int)/\(b8 l j).ob<5:=by
 refine ⟨amh a h s,?_⟩;have:=((sr a h).ce (bf s)).2;rw[a.wx.c]at this;exact this
theorem af4 {e:EV} {z:Int} (a:z=(e.k:Int)):OP e=(decide (z=3)||decide (z=4)):=by
 subst a;unfold OP;rw[Bool.eq_iff_iff];simp;omega
abbrev QX (l:Y ET) (n:Nat):η×η×η×η×η:=(Bb l 0 n,Bb l 1 n,Bb l 2 n,Bb l 3 n,Bb l 4 n)
theorem agn {α:Type} {n:Nat} {f:Nat->α} {z:α} {i:Nat} (h:f i=z):tA n f z (i+1)=tA n f z i:=by
 unfold tA;refine iI λk _=>?_
 by_cases e:k=i
 .subst e;rw[aC (by omega),ax (by omega),h]
 .by_cases g:k<i
  .rw[aC g,aC (by omega)]
  .rw[ax g,ax (by omega)]
theorem agm {α:Type} {n:Nat} {f:Nat->α} {z:α} {i:Nat} (h:i<n):(tA n f z i).set i z=tA n f z i:=by
 apply dj
 .simp
 intro k h1 h2;rw[ne];split
 .rename_i e;subst e;simp only[tA,kU,jv,xL,eh]
 .rfl
def Ra (w:WT) (l:Y ET) (k:Nat):Int:=if tH w.1 k=J then -1 else fiF w l k l.length
def Ng (w:WT) (l:Y ET) (k:Nat):Sh:=if tH w.1 k=J then Nq else Me w l k l.length
theorem ZS {w:WT} {l:Y ET} (A:TR (w,l)):ph (w,l)=M ((bS 5).map (Ra w l),(bS 5).map (Ng w l),0):=by
 have hl:=A.len;dsimp only at hl;have hw:w.1.length=5:=by rw[A.wx.c];rfl
 have L:aM w.1.length=5:=by rw[hw];rfl
 refine b_ ?_;unfold ph aY bi bu cF dZ bO dG cY fH ky ck be bx jw bC bD kO aX cR aD cL;refine aR (abm A) (dy (aV (λx=>x=((w,l),QX l l.length)) ?_ ?_))
 .refine b7 l.length (λi x=>x=((i:Int),(w,l),QX l i)) ?_ ?_ rfl
  .rintro i x hi rfl;refine du (aV (λx=>x=((w,l),QX l (i+1))) (cg (aT ?_)) ?_)
   .refine aV (λx=>x=(OP (b8 l i),(w,l),eN l i,QX l i)) ?_ ?_
    .refine aK (λg=>aj ?_) λg=>aj ?_
     .have g:(eN l i).2.1=3:=g;dsimp only;rw[af4 (lY A hi).k,aS g];rfl
     .have g:¬(eN l i).2.1=3:=g;dsimp only;rw[af4 (lY A hi).k,bB g,Bool.false_or]
    rintro x rfl;refine aO (λg=>?_) λg=>?_
    .obtain⟨h1,h2⟩:=ak2 A hi g;have e:∀k,Bb l k (i+1)=if (b8 l i).ob=k then Bb l k i++[(i:Int)] else Bb l k i:=λk=>by
      rw[Bb,Xt];dsimp only at g;rw[g,gG];simp only[ba]
     have hk:∀k,(Bb l k i).length<=400:=λk=>by have:=QY l k i;omega
     dsimp only;rw[h1];have Z:(b8 l i).ob=0\/(b8 l i).ob=1\/(b8 l i).ob=2\/(b8 l i).ob=3\/(b8 l i).ob=4:=by omega
     have r:∀k,(Bb l k i).length+[(i:Int)].length<=1000:=λk=>by have:=hk k;rw[dc];omega
     rcases Z with o|o|o|o|o
     .rw[o];exact vS (bd (by have:=r 0;omega) (by omega) (aj (by rw[QX,e,e,e,e,e,o];rfl)))
     .rw[o];exact dy (vS (bd (by have:=r 1;omega) (by omega) (aj (by rw[QX,e,e,e,e,e,o];rfl))))
     .rw[o];exact dy (dy (vS (bd (by have:=r 2;omega) (by omega) (aj (by rw[QX,e,e,e,e,e,o];rfl)))))
     .rw[o];exact dy (dy (dy (vS (bd (by have:=r 3;omega) (by omega) (aj (by rw[QX,e,e,e,e,e,o];rfl))))))
     .rw[o];exact dy (dy (dy (dy (vS (bd (by have:=r 4;omega) (by omega) (aj (by rw[QX,e,e,e,e,e,o];rfl)))))))
    .have e:∀k,Bb l k (i+1)=Bb l k i:=λk=>by
      rw[Bb,Xt];dsimp only at g;rw[g,lO];rfl
     refine aj ?_;show ((w,l),QX l i)=((w,l),QX l (i+1))
     unfold QX;rw[e,e,e,e,e]
   .rintro x rfl;refine aj ?_;dsimp only;rw[gH (by omega)]
  .rintro x rfl;exact dv (aj rfl)
 rintro x rfl;dsimp only;refine db (db (dI (by rw[L];omega) (dI (dk _) (bd (by rw[L];decide) (by omega) ?_))));refine db (db (dI (by rw[L];omega) (dI (dk _) (bd (by rw[L];decide) (by omega) ?_))));refine b7 5 (λi x=>x=((i:Int),(w,l),QX l l.length,tA 5 (Ra w l) 0 i,tA 5 (Ng w l) Nq i)) ?_ ?_ ?_
 .rintro i x hi rfl;refine du ?_ (by dsimp only[ak];omega);refine aV (λx=>x=((w,l),QX l l.length,tA 5 (Ra w l) 0 (i+1),tA 5 (Ng w l) Nq (i+1))) (cg (aT ?_)) ?_
  .refine aP (by dsimp only;omega) (by dsimp only;rw[zD];omega) (aP (by dsimp only;omega) (by dsimp only;rw[zD];omega) ?_);have ev:(aI (T:=O_) w.1 (i:Int)).2.2.2.1=tH w.1 i:=by rw[P9];rfl
   refine aO (λg=>?_) λg=>?_
   .have g:tH w.1 i=J:=by rw[<- ev];exact g
    have f1:Ra w l i= -1:=by unfold Ra;rw[aC g]
    have s1:Ng w l i=Nq:=by unfold Ng;rw[aC g]
    refine aj ?_;dsimp only;rw[dM,<-f1,Pb (by omega),agn s1]
   .have g:¬tH w.1 i=J:=by rw[<- ev];rw[show (aI (T:=O_) w.1 (i:Int)).2.2.2.1=af from g];decide
    have f1:Ra w l i=fiF w l i l.length:=by unfold Ra;rw[ax g]
    have s1:Ng w l i=Me w l i l.length:=by unfold Ng;rw[ax g]
    refine aV (λx=>x=((Bb l i l.length,aM (Bb l i l.length).length,0),(w,l),QX l l.length,(tA 5 (Ra w l) 0 i).set i (-1),tA 5 (Ng w l) Nq i)) ?_ ?_
    .dsimp only;rw[dM];have Z:i=0\/i=1\/i=2\/i=3\/i=4:=by omega
     rcases Z with o|o|o|o|o
     .subst o;exact vS (aj rfl)
     .subst o;exact dy (vS (aj rfl))
     .subst o;exact dy (dy (vS (aj rfl)))
     .subst o;exact dy (dy (dy (vS (aj rfl))))
     .subst o;exact dy (dy (dy (dy (vS (aj rfl)))))
    rintro x rfl;have hal:=QY l i l.length;have VF:∀z∈Bb l i l.length,∃j:Nat,z=j/\j<l.length:=λz U=>by obtain⟨j,a,b,_⟩:=I0 _ U;exact⟨j,a,b⟩
    refine b7 (Bb l i l.length).length (λp x=>x=((p:Int),(w,l),QX l l.length,(tA 5 (Ra w l) 0 i).set i (((Bb l i l.length).take p).foldl (stS w l) (Nq,-1)).2,(tA 5 (Ng w l) Nq i).set i (((Bb l i l.length).take p).foldl (stS w l) (Nq,-1)).1)) ?_ ?_ ?_
    .rintro p x hp rfl;obtain⟨z,U⟩:∃z,(Bb l i l.length)[p]? =M z:=⟨_,ay hp⟩
     obtain⟨j,rfl,hj,haj⟩:=I0 _ (aZ U);have tk:(Bb l i l.length).take (p+1)=(Bb l i l.length).take p++[(j:Int)]:=by rw[List.take_add_one,U];rfl
     have gz:aI (T:=.int .i64) (Bb l i l.length) (p:Int)=(j:Int):=by
      unfold aI;rw[bY,av,U];rfl
     have fB:L_ (((Bb l i l.length).take p).foldl (stS w l) (Nq,-1)).1:=ae4 (Cf A) _ _ (λz q=>VF z (gg q)) L_.zero;rw[tk,dA];generalize ((Bb l i l.length).take p).foldl (stS w l) (Nq,-1)=f at fB ⊢;obtain⟨fs,fi⟩:=f;dsimp only at fB;have fS:List.foldl (stS w l) (fs,fi) [(j:Int)]=((E7 w l fs j).1,if (E7 w l fs j).2=J/\fi<0 then (j:Int) else fi):=by dsimp only[List.foldl];unfold stS;dsimp only;rw[bY]
     rw[fS];have sg:aI (T:=.st (.pr (.st (.pr (.int .i64) (.int .i64))) (.pr (.st (.pr (.int .i64) (.int .i64))) (.sl (.int .i64))))) ((tA 5 (Ng w l) Nq i).set i fs) (i:Int)=fs:=by
      unfold aI;rw[bY,av,List.getElem?_set_self (by rw[zD];omega)];rfl
     have fg:aI (T:=.int .i64) ((tA 5 (Ra w l) 0 i).set i fi) (i:Int)=fi:=by
      unfold aI;rw[bY,av,List.getElem?_set_self (by rw[zD];omega)];rfl
     refine du ?_;refine aV (λx=>x=((w,l),QX l l.length,(tA 5 (Ra w l) 0 i).set i (if (E7 w l fs j).2=J/\fi<0 then (j:Int) else fi),(tA 5 (Ng w l) Nq i).set i (E7 w l fs j).1)) (cg (aT ?_)) ?_
     .rw[gz];refine aV (λx=>x=((E7 w l fs j).2,(w,l),QX l l.length,(tA 5 (Ra w l) 0 i).set i fi,(tA 5 (Ng w l) Nq i).set i (E7 w l fs j).1)) (cg (aT ?_)) ?_
      .have ls:((tA 5 (Ng w l) Nq i).set i fs).length=5:=by rw[ig,zD]
       have s:((i:Nat):Int)<(((tA 5 (Ng w l) Nq i).set i fs).length:Int):=by rw[ls];omega
       refine aK (λg=>?_) λg=>?_
       .have g:(b8 l j).k=3:=(PA A hj).1 g;refine aP (by omega) s (aP (by omega) s (aT ?_));refine aP (by omega) (by rw[bw,c_];omega) (aT ?_);dsimp only;rw[sg,Ez hj];refine aR (alh A hj fB g) (aP (by omega) s (aP (by omega) s (aj ?_)));dsimp only;rw[dM,List.set_set]
       .have g:¬(b8 l j).k=3:=λq=>g ((PA A hj).2 q)
        refine aP (by omega) s (aP (by omega) s (aT ?_));refine aP (by omega) (by rw[bw,c_];omega) (aT ?_);dsimp only;rw[sg,Ez hj];refine aR (alg A hj fB g) (aP (by omega) s (aP (by omega) s (aj ?_)));dsimp only;rw[dM,List.set_set]
      rintro x rfl;have lf:((tA 5 (Ra w l) 0 i).set i fi).length=5:=by rw[ig,zD]
      have s:((i:Nat):Int)<(((tA 5 (Ra w l) 0 i).set i fi).length:Int):=by rw[lf];omega
      refine aV (λx=>x=(decide ((E7 w l fs j).2=J/\fi<0),(w,l),QX l l.length,(tA 5 (Ra w l) 0 i).set i fi,(tA 5 (Ng w l) Nq i).set i (E7 w l fs j).1)) ?_ ?_
      .refine aO (λg=>?_) λg=>aj ?_
       .refine aP (by dsimp only;omega) s (aP (by dsimp only;omega) s (aT (aj ?_)));dsimp only at g ⊢;rw[fg,g];unfold fR;simp
       .dsimp only at g ⊢;rw[g];simp
      rintro x rfl;refine aO (λg=>?_) λg=>aj ?_
      .refine aP (by dsimp only;omega) s (aP (by dsimp only;omega) s (aj ?_));dsimp only;rw[dM,List.set_set,aC (bf g)]
      .dsimp only;rw[ax (Cd g)]
     rintro x rfl;refine aj ?_;dsimp only;rw[gH (by omega)]
    .rintro x rfl;rw[cP,SX];refine dv (aj ?_);dsimp only;rw[<- f1,<-s1,Pb (by omega),Pb (by omega)]
    .dsimp only[dR,List.foldl];rw[agm (by omega)];rfl
  .rintro x rfl;refine aj ?_;dsimp only;rw[gH (by omega)]
 .rintro x rfl;refine dv (aj ?_) (by dsimp only[ak];omega);dsimp only;rw[Vd,Vd]
 .rw[Pa,Pa,L];rfl
theorem XC {w:WT} {l:Y ET} (a:TR (w,l)):nU (w,l)=M ((bS 5).map (Ng w l),0):=by
 refine b_ ?_;unfold nU;exact aR (ZS a) (aj rfl)
abbrev ale:Ty:=.st (.pr (.st (.pr (.int .i64) (.int .i64))) (.pr (.st (.pr (.int .i64) (.int .i64))) (.sl (.int .i64))))
theorem am5 {w:WT} {l:Y ET} (a:TR (w,l)):w.1.length=5:=by rw[a.wx.c];rfl
theorem ain {l:Y ET} {i k:Nat} (h:OP (b8 l i)=af\/¬(b8 l i).ob=k):Xt l k i=af:=by
 unfold Xt;rcases h with h|h
 .rw[h];rfl
 .rw[bB h,L4]
theorem Iz {w:WT} {l:Y ET} {i k:Nat} (h:OP (b8 l i)=af\/¬(b8 l i).ob=k):Me w l k (i+1)=Me w l k i:=by rw[Me,ain h];rfl
def QvI (w:WT) (l:Y ET) (i:Nat) (s:Y Sh):Prop:=s.length=5/\∀k,k<5->¬tH w.1 k=J->(Ra w l k<0\/(i:Int)<=Ra w l k)->s.getD k Nq=Me w l k i
theorem QvI.skip {w:WT} {l:Y ET} {i:Nat} {s:Y Sh} (h:QvI w l i s) (hs:∀k,k<5->¬tH w.1 k=J->(Ra w l k<0\/((i+1:Nat):Int)<=Ra w l k)->OP (b8 l i)=af\/¬(b8 l i).ob=k):QvI w l (i+1) s:=
 ⟨h.1,λk a b c=>by rw[Iz (hs k a b c)];exact h.2 k a b (by omega)⟩
theorem QvI.put {w:WT} {l:Y ET} {i:Nat} {s:Y Sh} (h:QvI w l i s) {k:Nat} (hk:k<5) (A:(b8 l i).ob=k) (L:OP (b8 l i)=J):QvI w l (i+1) (s.set k (E7 w l (Me w l k i) i).1):=by
 refine ⟨by rw[ig];exact h.1,λq a b c=>?_⟩;rw[av,ka];have z:k<s.length:=by rw[h.1];exact hk
 by_cases e:k=q
 .subst e;rw[aC rfl,aC z];rw[Me,Xt,L,A,aS rfl];rfl
 .rw[ax e,<-av,Iz (.inr (by omega))];exact h.2 q a b (by omega)
theorem aim:uj ()=M J:=by kernel_rfl
theorem Jd (y:η) {t:Nat} (n:Int) (a:y.length<=1000) (ht:t<4):uL (y,(t:Int),n)=M (ud y t n):=by
 refine b_ ?_;unfold uL ck iR bC aX cR;refine aR (UN y (by unfold ua;omega)) ?_;refine b7 (t+1-y.length) (λi x=>x=y++aA i 0) ?_ ?_ (by rw[List.replicate_zero,ii])
 .rintro i x hi rfl;have hlen:(y++aA i (0:Int)).length=y.length+i:=by rw[bg,bU]
  refine eO (λ_=>?_) λg=>ca g (by dsimp only[ak];omega)
  refine bd (by rw[hlen,dc];omega) (by omega) (aj ?_);show (y++aA i (0:Int))++[0]=y++aA (i+1) 0;rw[pt,gR]
 .rintro x rfl;have hlen:(y++aA (t+1-y.length) (0:Int)).length=y.length+(t+1-y.length):=by rw[bg,bU]
  refine eO (λg=>ca g (by dsimp only[ak];omega)) λ_=>?_
  refine aw (P:=λr=>r=ud y t n) ?_ ?_
  .refine aP (by dsimp only;omega) (by dsimp only;omega) (aP (by dsimp only;omega) (by dsimp only;omega) (aj ?_));dsimp only;rw[dM];rfl
  .rintro r rfl;exact aj rfl
theorem an2:o_=nV:=rfl
theorem aaz {s:Sh} (h:L_ s) {c:η} {t:Nat} (ht:t<4):wX (s,c,(t:Int))=M (rdF s c t):=by
 obtain⟨h1,h2,z,Z,U⟩:=h;obtain⟨⟨a,b⟩,⟨p,q⟩,r⟩:=s;dsimp only at h1 h2 z Z U;obtain⟨v,rfl⟩:∃v:Nat,q=v:=⟨q.toNat,(eZ z).symm⟩
 refine b_ ?_;unfold wX aY bi cY be bx aX aD;rw[OW,acl];refine aR (qD c (a,b) h1) (aR (sB c t) (aR (x:=r) (b_ ?_) ?_))
 .unfold AQ bC;exact bd (by dsimp only;omega) (by omega) (aj rfl)
 dsimp only;unfold rdF;dsimp only;rw[bY];by_cases g:r≠[]
 .have gl:0<r.length:=List.length_pos_iff.2 g;rw[aC g];refine aV (λx=>x.2=((a,b),(p,(v:Int)),ud r t (c.getD t 0))) (du (aR (Jd r _ (by omega) ht) (aj rfl))) ?_;rintro⟨L,A⟩ e;dsimp only at e;subst e;exact aj rfl
 .have g:r=[]:=Classical.not_not.1 g;subst g;rw[ax λq=>q rfl];refine aV (λx=>x.2=if p=0\/HA c (p,(v:Int))=J then ((a,b),(c.getD t 0,(t:Int)),[]) else ((a,b),(0,0),ud (ud [] v p) t (c.getD t 0))) (dv ?_ (dk 0)) ?_
  .refine aV (λx=>x.1=(decide (p=0)||HA c (p,(v:Int)))/\x.2=(((a,b),(p,(v:Int)),[]),(0,0,0,0),(a,b),(p,(v:Int)),[])) ?_ ?_
   .refine aK (λg=>aj ⟨?_,rfl⟩) λg=>aR (qD c (p,(v:Int)) z) (aj ⟨?_,rfl⟩)
    .have g:p=0:=g;dsimp only;rw[aS g];rfl
    .have g:¬p=0:=g;dsimp only;rw[bB g];rfl
   rintro⟨L,A⟩ ⟨e1,e2⟩;dsimp only at e1 e2;subst e1;subst e2;refine aO (λg=>aj ?_) λg=>?_
   .have g:p=0\/HA c (p,(v:Int))=J:=by simpa using g
    rw[aC g]
   .have g:¬(p=0\/HA c (p,(v:Int))=J):=by
     have g:(decide (p=0)||HA c (p,(v:Int)))=af:=g;rw[Bool.or_eq_false_iff,decide_eq_false_iff_not]at g;rintro (q|q)
     .exact g.1 q
     .rw[q]at g;exact ca g.2 (by decide)
    rw[ax g];refine aR (Jd [] _ (by simp) (show v<4 by omega)) (aR (Jd (ud [] v p) _ (by rw[zG,fO];omega) ht) (aj rfl))
  .rintro⟨L,A⟩ e;dsimp only at e;subst e;exact aj rfl
theorem Xv {s:Sh} (h:L_ s) {c:η} (hc:c.length<=4) {t:Nat} (ht:t<4):uM (s,c,(t:Int))=M (wrF s c t):=by
 obtain⟨h1,h2,A,U,L⟩:=h;obtain⟨⟨a,b⟩,⟨p,q⟩,r⟩:=s;dsimp only at h1 h2 A U L;refine b_ ?_;unfold uM aD;rw[OW,acl,an2];refine aV (λx=>x.1= !(HA c (a,b)&&(HA c (p,q)&&lqQ r c))) ?_ ?_
 .refine aR (qD c (a,b) h1) (dS (λg=>aj ?_) λg=>?_)
  .dsimp only at g ⊢;rw[g];rfl
  .refine aR (qD c (p,q) A) (dS (λz=>aj ?_) λz=>?_)
   .dsimp only at g z ⊢;rw[g,z];rfl
   .refine aR (afj r c (by omega) (by omega)) (aj ?_);dsimp only at g z ⊢;rw[g,z];rfl
 .rintro⟨x1,Z⟩ e;dsimp only at e;subst e;exact aR (sB c t) (aj rfl)
def Y1 (w:WT) (l:Y ET) (i k:Nat):Sh:=if tH w.1 k=J then Nq else Me w l k i
theorem Ka {f:Nat->Sh} {k:Nat} (h:k<5):aI (T:=ale) ((bS 5).map f) (k:Int)=f k:=by
 unfold aI;rw[bY,av,bc,wN h];rfl
theorem acf {f g:Nat->Sh} {k:Nat} (h:∀q,q<5->g q=if k=q then g k else f q):((bS 5).map f).set k (g k)=(bS 5).map g:=by
 apply dj
 .simp
 intro o s a;rw[bw,c_]at a;rw[ne];simp only[kU,jv];rw[h o a]
theorem Q0 {w:WT} {l:Y ET} (a:TR (w,l)):qT (w,l)=M ((bS 5).map (Ng w l)):=by
 have hl:=a.len;dsimp only at hl;have L:=am5 a;have A:aM w.1.length=5:=by rw[L];rfl
 refine b_ ?_;unfold qT aY bi bu cF ck be bx bC bD kO aX cR aD cL;dsimp only;refine db (db (dI (by rw[A];omega) (dI (dk _) (bd (by rw[A];decide) (by omega) ?_))));refine aR (U0 a) ?_;refine b7 l.length (λi x=>x=((i:Int),(w,l),(bS 5).map (Y1 w l i))) ?_ ?_ ?_
 .rintro i x hi rfl;have skip:(OP (b8 l i)=af\/tH w.1 (b8 l i).ob=J)->(bS 5).map (Y1 w l i)=(bS 5).map (Y1 w l (i+1)):=λg=>by
   refine iI λk _=>?_
   unfold Y1;by_cases v:tH w.1 k=J
   .rw[aC v,aC v]
   .rw[ax v,ax v,Iz];exact g.imp id λz q=>v (by rw[<- q];exact z)
  refine du (aV (λx=>x=((w,l),(bS 5).map (Y1 w l (i+1)))) (cg (aT ?_)) ?_)
  .refine aV (λx=>x=(!(OP (b8 l i)&& !tH w.1 (b8 l i).ob),(w,l),(bS 5).map (Y1 w l i),eN l i)) ?_ ?_
   .refine aR (U3 a hi) (dS (λg=>aj ?_) λg=>aR (HH a hi) (aj ?_))
    .rw[g];rfl
    .rw[g,gG,gG,Bool.not_not]
   rintro x rfl;refine dS (λg=>?_) λg=>?_
   .refine aj ?_;dsimp only at g ⊢;rw[skip];cases U:OP (b8 l i) with
    |false=>exact .inl rfl
    |true=>rw[U,gG]at g;exact .inr (by simpa using g)
   .have g:OP (b8 l i)=J/\tH w.1 (b8 l i).ob=af:=by
     have g:(OP (b8 l i)&& !tH w.1 (b8 l i).ob)=J:=g;rw[al,d_]at g;exact g
    obtain⟨h1,h2⟩:=ak2 a hi g.1;have gs:aI (T:=ale) ((bS 5).map (Y1 w l i)) ((b8 l i).ob:Int)=Me w l (b8 l i).ob i:=by
     rw[Ka h2];exact ax (by rw[g.2];decide)
    have fB:=X1 (w:=w) (Cf a) (b8 l i).ob i (by omega);have s:((b8 l i).ob:Int)<(((bS 5).map (Y1 w l i)).length:Int):=by rw[bw,c_];omega
    have nx:Y1 w l (i+1) (b8 l i).ob=(E7 w l (Me w l (b8 l i).ob i) i).1:=by
     unfold Y1;rw[ax (by rw[g.2];decide),Me,Xt,g.1,aS rfl];rfl
    have fin:((bS 5).map (Y1 w l i)).set (b8 l i).ob (E7 w l (Me w l (b8 l i).ob i) i).1=(bS 5).map (Y1 w l (i+1)):=by
     rw[<- nx];refine acf λq _=>?_
     split
     .rename_i e;rw[e]
     .rename_i e;unfold Y1;by_cases v:tH w.1 q=J
      .rw[aC v,aC v]
      .rw[ax v,ax v,Iz (.inr e)]
    dsimp only;rw[h1,(lY a hi).th];refine aK (λk=>?_) λk=>?_
    .have k:(b8 l i).k=3:=(PA a hi).1 k;refine aP (by omega) s (aP (by omega) s (aT (aP (by omega) (by rw[bw,c_];omega) (aT ?_))));rw[gs,Ez hi];refine aR (aaz fB (Cf a i hi)) (aP (by omega) s (aP (by omega) s (aj ?_)));rw[dM,<-fin];unfold E7;rw[aC k]
    .have k:¬(b8 l i).k=3:=λq=>k ((PA a hi).2 q)
     refine aP (by omega) s (aP (by omega) s (aT (aP (by omega) (by rw[bw,c_];omega) (aT ?_))));rw[gs,Ez hi];refine aR (Xv fB (F5 a hi).1 (Cf a i hi)) (aP (by omega) s (aP (by omega) s (aj ?_)));rw[dM,<-fin];unfold E7;rw[ax k]
  .rintro x rfl;refine aj ?_;dsimp only;rw[gH (by omega)]
 .rintro x rfl;exact dv (aj rfl)
 .rw[A];congr 2
  symm
  rw[iI (g:=λ_=>Nq) λk _=>by unfold Y1;rw[Me,ite_self]];rfl
theorem Ik {s:Sh} (h:L_ s):mr (s,s)=M J:=by
 have hl:=h.len;refine b_ ?_;unfold mr aY bO aX aD;refine aV (λx=>x=J) ?_ λx a=>aj a
 refine fK (by simp[L9]) (fK (by simp[L9]) (aR (aax s.2.2 (by unfold ua;omega)) (vS (aj ?_))));simp
theorem C1 (a b c:η) (U:a.length<=9223372036854775807) (L:∀z∈a,0<=z/\z<=255) (hc:c.length<=9223372036854775807) (A:∀z∈c,0<=z/\z<=255):Ok (jz (a,b,c)) λy=>y=J:=by
 unfold jz bx jw bD aX cR aD cL;refine aw (P:=TR) (Q1 a b c 40 (by omega) (by omega) U L hc A) ?_;rintro⟨w,l⟩ s;refine aR (XC s) (aR (Q0 s) (aV (λx=>x=af) (dy (aj (by simp))) ?_));rintro x rfl;refine dy ?_;refine b7 5 (λi x=>x=(i:Int)) ?_ ?_ rfl
 .rintro i x hi rfl;refine du ?_ (by dsimp only[ak];rw[bw,c_];omega);refine aP (by omega) (by rw[bw,c_];omega) (aT (aP (by omega) (by rw[bw,c_];omega) (aT ?_)));have gs:aI (T:=ale) ((bS 5).map (Ng w l)) (i:Int)=Ng w l i:=Ka hi;rw[gs];have sb:L_ (Ng w l i):=by
   unfold Ng;split
   .exact L_.zero
   .exact X1 (Cf s) _ _ (bX _)
  exact aR (Ik sb) (dy (aj (gH (by omega))))
 .rintro x rfl;exact dv (aR (x:=J) (b_ (aR aim (aj rfl))) (aj rfl)) (by dsimp only[ak];rw[bw,c_];omega)
theorem EpochShadows_law (x:η×η×η) (w:XR (.st (.pr (.sl (.int .u8)) (.pr (.sl (.int .u8)) (.sl (.int .u8))))) x):jz x=M J:=by
 obtain⟨a,b,c⟩:=x;obtain⟨⟨l0,w0⟩,_,⟨l2,A⟩⟩:=w;obtain⟨y,h,rfl⟩:=C1 a b c l0 (λz s=>YP (w0 z s)) l2 (λz s=>YP (A z s));exact h
def inert (f:FuncId):Bool:=aB f 63
theorem R3:∃a,Tryz.prog.underlying 20=M (.interface a):=⟨#[],by kernel_rfl⟩
theorem adi (w:World):(Op.equal 20 .nilIface .nilIface).run Tryz.prog w= .ok J w:=by
 obtain⟨a,hu⟩:=R3;have key:∀d,(Op.equalIn (d+1) 20 .nilIface .nilIface).run Tryz.prog w= .ok J w:=λd=>by simp[Op.equalIn,run_underlying hu]
 exact key 9999
theorem acv {P:Program} {ops:Array Oper} {Q:Exit->Act->Y Frame->World->Prop} {i:Nat} {rest:ι} {a:Act} {cs:Y Frame} {w w':World} {o:Oper} (z:ops[i]? =M o) (s:o.guard=D) (hr:(execOp a.eval o).run P w= .ok .recover w') (hn:recoverD cs=D) (h:wpOpsS P ops Q rest (a.put o.dst .nilIface) cs w'):wpOpsS P ops Q (i::rest) a cs w:=by
 have s:iW o (yielded ops a.tmps)=J:=by unfold iW;rw[s]
 simp only[wpOpsS,z,s,bI,hr,hn];exact h
theorem acu {P:Program} {ops:Array Oper} {Q:Exit->Act->Y Frame->World->Prop} {i:Nat} {rest:ι} {a:Act} {cs:Y Frame} {w w':World} {o:Oper} {v:Value} (z:ops[i]? =M o) (s:o.guard=D) (hr:(execOp a.eval o).run P w= .ok (.value v) w') (h:wpOpsS P ops Q rest (a.put o.dst v) cs w'):wpOpsS P ops Q (i::rest) a cs w:=by
 have s:iW o (yielded ops a.tmps)=J:=by unfold iW;rw[s]
 simp only[wpOpsS,z,s,bI,hr];exact h
theorem R2:LW Tryz.prog inert:=by
 intro f hf;have hf:f=63:=ar hf;subst hf;refine ⟨⟨Tryz.f63,Tryz.func63,by kernel_rfl,by kernel_rfl⟩,λargs w=>?_⟩;refine callsD_of_wpS Tryz.func63 rfl λc₀ cs hu=>?_
 refine wpS_seq (wpS_region ?_);generalize ht:(args++oY (Tryz.f63.ntmps-args.size) undef)=T;have hs:5<=T.size:=by
  rw[<- ht];simp only[Array.size_append,Array.size_replicate];have:Tryz.f63.ntmps=5:=rfl;omega
 have hr:recoverD (c₀::cs)=D:=by simp[recoverD,hu]
 refine acv (i:=0) (rest:=[1]) rfl rfl (w':=w) ?_ hr ?_
 .simp[execOp,resolve,invoke,builtin]
 refine acu (v:=.bool af) rfl rfl (w':=w) ?_ ?_
 .have hv:Act.eval (O5 {tmps:=T,defers:=[]} (M 2) .nilIface) (.tmp 2)= .nilIface:=by
   simp[Act.eval,O5,show 2<T.size by omega]
  have h2:=adi w;have hcst:Act.eval (O5 {tmps:=T,defers:=[]} (M 2) .nilIface) (.const .nilIface)= .nilIface:=rfl;show (execOp (Act.eval (O5 {tmps:=T,defers:=[]} (M 2) .nilIface)) _).run _ w=_;simp[execOp,hv,hcst,eqGuard,binOp,h2]
 show Exit.thenS _ _ .normal _ _ _;refine wpS_cond (t:=af) ?_ ?_
 .simp[Act.eval,O5,show 3<T.size by omega]
 refine wpS_of_wp (wp_skip ?_);have hres:Tryz.f63.results=#[]:=rfl;exact⟨rfl,c₀.mode,rfl,.tuple #[],by simp[results,hres],⟨_,rfl⟩,hu,rfl⟩
def dL {α:Type}:Y (Nat×α)->PT α
 |[]=>.leaf
 |p::r=>(dL r).set p.1 (M p.2)
noncomputable abbrev Pg:Program:=Tryz.prog
def cn (y:FT) (m:y.pre.ty.den->I y.post.ty.den):co:=⟨y.pre,y.post,m⟩
theorem ape:Pg.follows .mixedOrders=J:=by kernel_rfl
theorem ac {f:FuncId} {c:co} {l:Y (FuncId×co)} (h:aH Pg f c) (t:U2 Pg l):U2 Pg ((f,c)::l):=⟨h,t⟩
theorem an:U2 Pg []:=trivial
inductive OI {R:Type}:Option R->Option R->Prop where
 |rfl {a:Option R}:OI a a
 |chk {b:Bool} {k k':Option R} (h:lP k k'):OI (chk b λ_=>k) (chk b λ_=>k')
 |aF {b:Bool} {t f t' f':Option R} (h1:lP t t') (h2:lP f f'):OI (aF b t f) (aF b t' f')
 |lt {α:Type} {x:α} {k k':α->Option R} (h:∀y,lP (k y) (k' y)):OI (lt x k) (lt x k')
 |jn {α:Type} {o o':Option (R⊕α)} {k k':α->Option R} (h:lP o o') (hk:∀x,lP (k x) (k' x)):OI (jn o k) (jn o' k')
 |au {α:Type} {o o':Option α} {k k':α->Option R} (h:lP o o') (hk:∀x,lP (k x) (k' x)):OI (au o k) (au o' k')
 |iter {σ:Type} {f g:σ->Option (σ⊕R)} {x:σ} (h:∀x,lP (f x) (g x)):OI (gx f x) (iter g x)
theorem OI.o {R:Type} {a b:I R} (h:OI a b):lP a b:=by
 cases h with
 |rfl=>exact lP.rfl
 |chk h=>exact lP.chk h
 |aF h g=>exact lP.bcase h g
 |lt h=>exact lP.lt h
 |jn h g=>exact lP.jn h g
 |au h g=>exact lP.obind h g
 |iter h=>exact lP.iter h
theorem mk {f:FuncId} (y:FT) (m:y.pre.ty.den->I y.post.ty.den) {l:Y (FuncId×co)} (s:U2 Pg l) (a:TypeId->I Ty) (he:∀x,ac8 (W6 l) a inert (Aw Pg f) y x=m x:=by intro x;kernel_rfl) (hs:(Aw Pg f).isSome=J:=by kernel_rfl) (hb:eS y.pre.bs.length y.post.bs.length=J:=by kernel_rfl):aH Pg f (cn y m):=(Sw ape R2 s hs he).toC hb
theorem zu {f:FuncId} (y:FT) (m n:y.pre.ty.den->I y.post.ty.den) (s:∀x,lP (m x) (n x)) {l:Y (FuncId×co)} (z:U2 Pg l) (a:TypeId->I Ty) (he:∀x,ac8 (W6 l) a inert (Aw Pg f) y x=n x:=by intro x;kernel_rfl) (hs:(Aw Pg f).isSome=J:=by kernel_rfl) (hb:eS y.pre.bs.length y.post.bs.length=J:=by kernel_rfl):aH Pg f (cn y m):=((Sw ape R2 z hs he).sub s).toC hb
theorem NK {f:FuncId} (y:FT) (hs:(Aw Pg f).isSome=J:=by kernel_rfl) (hb:eS y.pre.bs.length y.post.bs.length=J:=by kernel_rfl):aH Pg f (cn y λ_=>D):=(We hs).toC hb
end
end Go.Proofs.YtloaobgmjdjhhaaGreatDoor.AI
