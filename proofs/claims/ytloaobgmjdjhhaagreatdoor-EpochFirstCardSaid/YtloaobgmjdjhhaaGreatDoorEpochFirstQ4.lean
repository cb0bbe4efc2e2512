/-
  Texts of the proof, part 5 of 6: what is used to prove the statement. No condition.
-/
import Derived.Test.YtloaobgmjdjhhaaGreatDoorEpochFirstQ3
import Derived.Deep.Slices
import Derived.OpenShut
import Derived.Below
import Derived.Test.YtloaobgmjdjhhaaGreatDoorProg
import Derived.KernelRfl
import Derived.Recover
namespace Go.Proofs.YtloaobgmjdjhhaaGreatDoor.AI
open Go.RowKit
set_option maxRecDepth 100000
set_option maxHeartbeats 4000000
set_option linter.unusedVariables false
set_option linter.unusedSimpArgs false
open Act renaming put→O9
open _root_.Array renaming replicate→oZ
open _root_.Bool renaming true→J,false→af,and_false→Mh
open Call renaming operands→eY
open _root_.Classical renaming propDecidable→mc,not_imp→AS
open _root_.Int renaming ofNat_eq_natCast→ak,ofNat→aM,toNat→aQ,toNat_natCast→bO
open _root_.List renaming length→ai,replicate→aA,range→cq,length_singleton→cX,take→dQ,cons_append→fR,length_nil→gE,nil_append→kn,getElem?_cons_zero→mb,take_succ_cons→wL,replicate_succ→wM
open _root_.Nat renaming beq→aB,testBit→aO,add_zero→dt,ble→eR,blt→gF
open Oper renaming wp→Iz
open _root_.Option renaming some→M,none→D,bind_some→aG,map_some→ct,map→my,getD_some→vL
open _root_.Prod renaming p2→aY,p3→bi,p4→bx,q3→bP,p5→cI,q5→cY,q4→dG,p6→dY,q6→fG,q7→kA
open Region renaming wanted→iX
open Result renaming andThen_ok→cU
open Sem renaming run_bind→eQ,run_pure→po
open _root_.Sum renaming inr→bS,inl→oh
open Value renaming okWide→Ix
open World renaming cell?→O5
noncomputable section
mutual
def Dr (g:Nat->Nat):TV->TV
 |.row i=>.row (g i)
 |.rtl i j=>.rtl (g i) j
 |.agg l=>.agg (kY g l)
 |.tup l=>.tup (kY g l)
 |.clo q l=>.clo q (kY g l)
 |.f T v=>.f T v
 |.fel T xs j h off=>.fel T xs j h off
 |.pel a b c d=>.pel (g a) b c d
 |.ptr a b=>.ptr (g a) b
 |.csl a b c=>.csl (g a) b c
 |.emp=>.emp
 |.nil=>.nil
 |.mp i=>.mp (g i)
 |.undef=>.undef
 |.np=>.np
 |.anyb=>.anyb
def kY (g:Nat->Nat):Y TV->Y TV
 |[]=>[]
 |x::r=>Dr g x::kY g r
end
theorem AU (g:Nat->Nat):∀l,kY g l=l.map (Dr g)
 |[]=>rfl
 |x::r=>by rw[kY,AU g r];rfl
def mf (g:Nat->Nat):iB->iB
 |.cells ty l=>.cells ty (kY g l)
 |.rows ty p T xs=>.rows ty p T xs
 |.dead p sz n=>.dead p sz n
 |.mp K V es=>.mp K V es
theorem Jo (g:Nat->Nat) (b:iB):nz (mf g b)=nz b:=by cases b<;>rfl
def IZ (g:Nat->Nat) (n:Nat):Nat:=nm (g (ow n))
theorem yp (g:Nat->Nat) (i:Nat):IZ g (nm i)=nm (g i):=by unfold IZ;rw[d_]
mutual
theorem ami {g:Nat->Nat} {h1 h2:bk} (hrow:∀i r,eM h1 i=M r->eM h2 (g i)=M r):∀(v:TV) (y:AV),cA h1 v=M y->cA h2 (Dr g v)=M (y.ren (IZ g))
 |.f _ _,y,he=>by simp only[cA,ah]at he;subst he;rfl
 |.fel _ _ _ _ _,y,he=>by simp only[cA,ah]at he;subst he;rfl
 |.pel _ _ _ _,y,he=>by simp only[cA,ah]at he;subst he;simp only[Dr,cA,AV.ren,yp]
 |.ptr _ _,y,he=>by simp only[cA,ah]at he;subst he;simp only[Dr,cA,AV.ren,yp]
 |.csl _ _ _,y,he=>by simp only[cA,ah]at he;subst he;simp only[Dr,cA,AV.ren,yp]
 |.row id,y,he=>by
  simp only[cA]at he;split at he
  .rename_i p sz n hr;simp only[ah]at he;subst he;simp only[Dr,cA,hrow id _ hr];unfold fM;split
   .rfl
   .simp only[AV.ren,yp]
  .cases he
 |.rtl id jj,y,he=>by
  simp only[cA]at he;split at he
  .rename_i p sz n hr;simp only[ah]at he;subst he;simp only[Dr,cA,hrow id _ hr,AV.ren,yp]
  .cases he
 |.emp,y,he=>by simp only[cA,ah]at he;subst he;rfl
 |.nil,y,he=>by simp only[cA,ah]at he;subst he;rfl
 |.mp _,y,he=>by simp only[cA,ah]at he;subst he;simp only[Dr,cA,AV.ren,yp]
 |.agg l,y,he=>by
  simp only[cA]at he;split at he
  .rename_i l' hl;simp only[ah]at he;subst he;simp only[Dr,cA,pB hrow l l' hl,AV.ren]
  .cases he
 |.tup l,y,he=>by
  simp only[cA]at he;split at he
  .rename_i l' hl;simp only[ah]at he;subst he;simp only[Dr,cA,pB hrow l l' hl,AV.ren]
  .cases he
 |.clo q l,y,he=>by
  simp only[cA]at he;split at he
  .rename_i l' hl;simp only[ah]at he;subst he;simp only[Dr,cA,pB hrow l l' hl,AV.ren]
  .cases he
 |.undef,y,he=>by simp only[cA,ah]at he;subst he;rfl
 |.np,y,he=>by simp only[cA,ah]at he;subst he;rfl
 |.anyb,y,he=>by simp only[cA,ah]at he;subst he;rfl
theorem pB {g:Nat->Nat} {h1 h2:bk} (hrow:∀i r,eM h1 i=M r->eM h2 (g i)=M r):∀(l:Y TV) (l':Y AV),cP h1 l=M l'->cP h2 (kY g l)=M (AV.renL (IZ g) l')
 |[],l',he=>by simp only[cP,ah]at he;subst he;rfl
 |x::r,l',he=>by
  obtain⟨y,l2,rfl,e1,e2⟩:=dg he;exact pD (ami hrow x y e1) (pB hrow r l2 e2)
end
theorem D7 {g:Nat->Nat} {h1 h2:bk} (hrow:∀i r,eM h1 i=M r->eM h2 (g i)=M r) {b:iB} {y:wK} (he:jN h1 b=M y):jN h2 (mf g b)=M (y.ren (IZ g)):=by
 cases b with
 |rows ty p T xs=>
  simp only[jN]at he;split at he
  .cases he
  .rename_i hc;simp only[ah]at he;subst he;simp only[mf,jN,aw hc];rfl
 |cells ty l=>
  cases ty with
  |some ty=>
   simp only[jN]at he;split at he
   .rename_i a hl;simp only[ah]at he;subst he;simp only[mf,jN,pB hrow l a hl,nB];rfl
   .cases he
  |none=>
   simp only[jN]at he;split at he
   .rename_i a hl;simp only[ah]at he;subst he;simp only[mf,jN,pB hrow l a hl,nB,wK.ren,BC.ren,<-R9]
   .cases he
 |dead p sz n=>cases he
 |mp K V es=>
  simp only[jN,ah]at he;subst he;simp only[mf,jN,wK.ren,ah,wK.mk.injEq,Ci];unfold mpC;split
  .rfl
  .simp only[BC.ren,IC];rfl
theorem Dq (g:Nat->Nat) (a b:Y TV):kY g (a++b)=kY g a++kY g b:=by
 rw[AU,AU,AU,cM]
theorem qz (g:Nat->Nat):∀(n:Nat) (T:Ty) (v:T.den) (l:Y TV),cellsOf n T v=M l->kY g l=l
 |0,_,_,_,he=>by simp[cellsOf]at he
 |n+1,.st t,v,l,he=>qz g n t v l he
 |n+1,.pr a b,v,l,he=>by
  simp only[cellsOf]at he;split at he
  .rename_i x y z s;simp only[ah]at he;subst he;rw[Dq,qz g n a v.1 x z,qz g n b v.2 y s]
  .cases he
 |n+1,.un,v,l,he=>by simp only[cellsOf,ah]at he;subst he;rfl
 |n+1,.ex,v,l,he=>qz g n Oj (Pb v) l he
 |n+1,.sm,v,l,he=>qz g n NL (Pa v) l he
 |n+1,.int k,v,l,he=>by simp only[cellsOf,ah]at he;subst he;rfl
 |n+1,.bool,v,l,he=>by simp only[cellsOf,ah]at he;subst he;rfl
 |n+1,.str,v,l,he=>by simp only[cellsOf,ah]at he;subst he;rfl
 |n+1,.sl t,v,l,he=>by simp only[cellsOf,ah]at he;subst he;rfl
abbrev IU:Nat->Nat:=λi=>i
mutual
theorem ad8 (g:Nat->Nat):∀(p:PV) (x:p.ty.den),qD g p x=(qD IU p x).map (kY g)
 |.d T,x=>by
  simp only[qD];cases h:cellsOf 40 T x with
  |none=>rfl
  |some l=>simp only[ct,qz g 40 T x l h]
 |.ptr i o,x=>rfl
 |.csl i o z,x=>rfl
 |.clo q i o,x=>rfl
 |.row i,x=>rfl
 |.mp i,x=>rfl
 |.nil,x=>rfl
 |.emp,x=>rfl
 |.agg ps,x=>AW g ps x
theorem AW (g:Nat->Nat):∀(ps:Y PV) (x:(PV.tyL ps).den),rH g ps x=(rH IU ps x).map (kY g)
 |[],x=>rfl
 |p::r,x=>by
  simp only[rH];rw[ad8 g p,AW g r];cases qD IU p (Qg p.ty (PV.tyL r) x) with
  |none=>rfl
  |some a=>
   cases rH IU r (Mq p.ty (PV.tyL r) x) with
   |none=>rfl
   |some b=>simp only[ct,Dq]
end
def amx (o:I (Y TV)):I TV:=match o with|some l=>M (.agg l)|none=>D
theorem afn (g:Nat->Nat) (o:I (Y TV)):amx (o.map (kY g))=(amx o).map (Dr g):=by cases o<;>rfl
theorem ad6 (g:Nat->Nat) (p:PV) (x:p.ty.den):uf g p x=(uf IU p x).map (Dr g):=by
 cases p with
 |agg ps=>exact (hP amx (AW g ps x)).trans (afn g _)
 |_=>rfl
theorem uv (g:Nat->Nat):∀(ps:Y PV) (x:(PV.tyL ps).den),qJ g ps x=(qJ IU ps x).map (kY g)
 |[],x=>rfl
 |p::r,x=>by
  simp only[qJ];rw[ad6 g p,uv g r];cases uf IU p (Qg p.ty (PV.tyL r) x) with
  |none=>rfl
  |some a=>
   cases qJ IU r (Mq p.ty (PV.tyL r) x) with
   |none=>rfl
   |some b=>rfl
def XC (ty:I TypeId) (o:I (Y TV)):I (I iB):=match o with|some l=>M (M (.cells ty l))|none=>D
theorem XB (g:Nat->Nat) (ty:I TypeId) (o:I (Y TV)):XC ty (o.map (kY g))=(XC ty o).map (my (mf g)):=by cases o<;>rfl
theorem ad9 (g:Nat->Nat) (b:PB) (x:b.ty.den):Dv g b x=(Dv IU b x).map (my (mf g)):=by
 cases b with
 |cells ty ps=>exact (hP (XC ty) (AW g ps x)).trans (XB g ty _)
 |_=>rfl
theorem wW (g:Nat->Nat):∀(bs:Y PB) (x:(PB.tyL bs).den),o7 g bs x=(o7 IU bs x).map (List.map (my (mf g)))
 |[],x=>rfl
 |b::r,x=>by
  simp only[o7];rw[ad9 g b,wW g r];cases Dv IU b (Qg b.ty (PB.tyL r) x) with
  |none=>rfl
  |some a=>
   cases o7 IU r (Mq b.ty (PB.tyL r) x) with
   |none=>rfl
   |some l=>rfl
theorem Du (g:Nat->Nat):∀(bs:Y PB) (x:(PB.tyL bs).den) (l:Y (I iB)),o7 g bs x=M l->l.length=bs.length
 |[],x,l,h=>by simp only[o7,ah]at h;subst h;rfl
 |b::r,x,l,h=>by
  simp only[o7]at h;split at h
  .split at h
   .rename_i q hq;simp only[ah]at h;subst h;simp[Du g r _ q hq]
   .cases h
  .cases h
theorem Km (h:bk) (i j:Nat):(kill h i).get j=if j=i then (h.get i).map vV else h.get j:=by
 unfold kill;cases hb:h.get i with
 |none=>
  simp only[Option.map_none];split
  .rename_i e;rw[e,hb]
  .rfl
 |some b=>rw[PT.get_set];rfl
theorem vT (g:Nat->Nat):∀(l:Y (I iB)) (i:Nat) (h:bk) (j:Nat),(∀k,k<l.length->j≠g (i+k))->(Br g i l h).get j=h.get j
 |[],i,h,j,_=>rfl
 |some c::r,i,h,j,hj=>by
  rw[Br,vT g r (i+1) _ j (λk hk=>by have:=hj (k+1) (by simpa using hk);rwa [show i+1+k=i+(k+1) from by omega]),PT.get_set,aw];exact hj 0 (by simp)
 |none::r,i,h,j,hj=>by
  rw[Br,vT g r (i+1) _ j (λk hk=>by have:=hj (k+1) (by simpa using hk);rwa [show i+1+k=i+(k+1) from by omega]),Km,aw];exact hj 0 (by simp)
theorem vU (g:Nat->Nat):∀(l:Y (I iB)) (i:Nat) (h:bk),(∀a b,a<l.length->b<l.length->g (i+a)=g (i+b)->a=b)->∀(k:Nat) (c:I iB),l[k]? =M c->(Br g i l h).get (g (i+k))=(match c with|some b=>M b|none=>(h.get (g (i+k))).map vV)
 |[],i,h,_,k,c,hk=>by simp at hk
 |o::r,i,h,hinj,k,c,hk=>by
  have hinj':∀a b,a<r.length->b<r.length->g (i+1+a)=g (i+1+b)->a=b:=λa b z hb e=>by
   have:=hinj (a+1) (b+1) (by simpa using z) (by simpa using hb) (by rw[show i+(a+1)=i+1+a from by omega,show i+(b+1)=i+1+b from by omega];exact e);omega
  cases k with
  |zero=>
   simp at hk;subst hk;have hne:∀k,k<r.length->g (i+0)≠g (i+1+k):=λk hk e=>by
    have:=hinj 0 (k+1) (by simp) (by simpa using hk) (by rw[show i+(k+1)=i+1+k from by omega];exact e);omega
   cases o with
   |some b=>rw[Br,vT g r (i+1) _ _ hne];simp only[dt];rw[PT.get_set,aC rfl]
   |none=>rw[Br,vT g r (i+1) _ _ hne];simp only[dt];rw[Km,aC rfl]
  |succ k=>
   have s:r[k]? =M c:=by simpa using hk
   have hkl:k<r.length:=(bn.1 s).1;have hne:g (i+(k+1))≠g i:=λe=>by
    have:=hinj (k+1) 0 (by simpa using hkl) (by simp) (by rw[e];rfl);omega
   rw[show i+(k+1)=i+1+k from by omega]at hne ⊢;cases o with
   |some b=>
    rw[Br,vU g r (i+1) _ hinj' k c s];cases c with
    |some _=>rfl
    |none=>simp only[PT.get_set,aw hne]
   |none=>
    rw[Br,vU g r (i+1) _ hinj' k c s];cases c with
    |some _=>rfl
    |none=>simp only[Km,aw hne]
def yK (h' h:bk):Prop:=∀i r,eM h' i=M r->eM h i=M r
section get
variable {h h':bk} {H H':HF} {g:Nat->Nat}
theorem ma.agg {l a:Y AV} (hl:il H H' l a) (hc:∀x∈a,x.isCell=J):ma H H' (.agg l) (.agg a):=by
 intro φ E w v hrep hr;cases hr with
 |@agg _ vs hlen hcl hrr=>
  refine .agg (by rw[hlen,<-hl.length]) hc λj y u s hu=>?_
  obtain⟨x,z,hle⟩:=hl.get j y s;exact hle φ E w u hrep (hrr j x u z hu)
theorem RJ (hr:yK h' h) {i:Nat} {y z:AV} (s:cA h (.row i)=M y) (a:cA h' (.row i)=M z):z=y:=by
 simp only[cA]at s a;cases h1:eM h' i with
 |none=>rw[h1]at a;cases a
 |some r=>
  rw[h1]at a;rw[hr i r h1]at s;rw[s]at a;cases a;rfl
mutual
theorem aib (d:vK H H') (hr:yK h' h):∀(p:PV) (l:Y TV) (x:p.ty.den) (m:Nat) (r:Y TV) (cs:Y TV) (l' cs':Y AV),qb g h p l=M (x,m,r)->qD g p x=M cs->cP h l=M l'->cP h' cs=M cs'->E_ h H H' m->∃l1 l2,l'=l1++l2/\cP h r=M l2/\il H H' l1 cs'
 |.d T,l,x,m,r,cs,l',cs',hg,hp,hl,hc,gv=>by
  obtain⟨l1,l2,e1,e2,e3⟩:=sW d 40 T l x m r l' hg hl gv;have:=(mq h' 40 T x cs hp).1;rw[hc]at this;cases this;exact⟨l1,l2,e1,e2,e3⟩
 |.ptr i q,l,x,m,r,cs,l',cs',hg,hp,hl,hc,gv=>by
  simp only[qb]at hg;split at hg
  .rename_i i' o' r';split at hg
   .rename_i hb;simp only[al]at hb;have e1:=ar hb.1;have e2:=ar hb.2;subst e1;subst e2;simp only[ah,aE]at hg;obtain⟨_,_,rfl⟩:=hg;simp only[qD,ah]at hp;subst hp;obtain⟨y,l2,rfl,g1,g2⟩:=dg hl;simp only[cA,ah]at g1;subst g1;simp only[cP,cA,ah]at hc;subst hc;exact⟨[_],l2,rfl,g2,ma.refl d _,trivial⟩
   .cases hg
  .cases hg
 |.csl i q z,l,x,m,r,cs,l',cs',hg,hp,hl,hc,gv=>by
  simp only[qb]at hg;split at hg
  .rename_i i' o' z' r';split at hg
   .rename_i hb;simp only[al]at hb;have e1:=ar hb.1.1;have e2:=ar hb.1.2;have e3:=ar hb.2;subst e1;subst e2;subst e3;simp only[ah,aE]at hg;obtain⟨_,_,rfl⟩:=hg;simp only[qD,ah]at hp;subst hp;obtain⟨y,l2,rfl,g1,g2⟩:=dg hl;simp only[cA,ah]at g1;subst g1;simp only[cP,cA,ah]at hc;subst hc;exact⟨[_],l2,rfl,g2,ma.refl d _,trivial⟩
   .cases hg
  .cases hg
 |.clo q i z,l,x,m,r,cs,l',cs',hg,hp,hl,hc,gv=>by
  simp only[qb]at hg;split at hg
  .rename_i q' i' z' r';split at hg
   .rename_i hb;simp only[al]at hb;have e1:=ar hb.1.1;have e2:=ar hb.1.2;have e3:=ar hb.2;subst e1;subst e2;subst e3;simp only[ah,aE]at hg;obtain⟨_,_,rfl⟩:=hg;simp only[qD,ah]at hp;subst hp;obtain⟨y,l2,rfl,g1,g2⟩:=dg hl;simp only[cA,cP,ah]at g1;subst g1;simp only[cP,cA,ah]at hc;subst hc;exact⟨[_],l2,rfl,g2,ma.refl d _,trivial⟩
   .cases hg
  .cases hg
 |.row i,l,x,m,r,cs,l',cs',hg,hp,hl,hc,gv=>by
  simp only[qb]at hg;split at hg
  .rename_i i' r';split at hg
   .rename_i hb;have e1:=ar hb;subst e1;simp only[ah,aE]at hg;obtain⟨_,_,rfl⟩:=hg;simp only[qD,ah]at hp;subst hp;obtain⟨y,l2,rfl,g1,g2⟩:=dg hl;obtain⟨y',l3,rfl,g3,g4⟩:=dg hc;simp only[cP,ah]at g4;subst g4;rw[RJ hr g1 g3];exact⟨[_],l2,rfl,g2,ma.refl d _,trivial⟩
   .cases hg
  .cases hg
 |.mp i,l,x,m,r,cs,l',cs',hg,hp,hl,hc,gv=>by
  simp only[qb]at hg;split at hg
  .rename_i i' r';split at hg
   .rename_i hb;have e1:=ar hb;subst e1;simp only[ah,aE]at hg;obtain⟨_,_,rfl⟩:=hg;simp only[qD,ah]at hp;subst hp;obtain⟨y,l2,rfl,g1,g2⟩:=dg hl;simp only[cA,ah]at g1;subst g1;simp only[cP,cA,ah]at hc;subst hc;exact⟨[_],l2,rfl,g2,ma.refl d _,trivial⟩
   .cases hg
  .cases hg
 |.nil,l,x,m,r,cs,l',cs',hg,hp,hl,hc,gv=>by
  simp only[qb]at hg;split at hg
  .simp only[ah,aE]at hg;obtain⟨_,_,rfl⟩:=hg;simp only[qD,ah]at hp;subst hp;obtain⟨y,l2,rfl,g1,g2⟩:=dg hl;simp only[cA,ah]at g1;subst g1;simp only[cP,cA,ah]at hc;subst hc;exact⟨[_],l2,rfl,g2,ma.refl d _,trivial⟩
  .cases hg
 |.emp,l,x,m,r,cs,l',cs',hg,hp,hl,hc,gv=>by
  simp only[qb]at hg;split at hg
  .simp only[ah,aE]at hg;obtain⟨_,_,rfl⟩:=hg;simp only[qD,ah]at hp;subst hp;obtain⟨y,l2,rfl,g1,g2⟩:=dg hl;simp only[cA,ah]at g1;subst g1;simp only[cP,cA,ah]at hc;subst hc;exact⟨[_],l2,rfl,g2,Le.nilEmp.toH d,trivial⟩
  .simp only[ah,aE]at hg;obtain⟨_,_,rfl⟩:=hg;simp only[qD,ah]at hp;subst hp;obtain⟨y,l2,rfl,g1,g2⟩:=dg hl;simp only[cA,ah]at g1;subst g1;simp only[cP,cA,ah]at hc;subst hc;exact⟨[_],l2,rfl,g2,ma.refl d _,trivial⟩
  .cases hg
 |.agg ps,l,x,m,r,cs,l',cs',hg,hp,hl,hc,gv=>DZ d hr ps l x m r cs l' cs' hg hp hl hc gv
theorem DZ (d:vK H H') (hr:yK h' h):∀(ps:Y PV) (l:Y TV) (x:(PV.tyL ps).den) (m:Nat) (r:Y TV) (cs:Y TV) (l' cs':Y AV),Ah g h ps l=M (x,m,r)->rH g ps x=M cs->cP h l=M l'->cP h' cs=M cs'->E_ h H H' m->∃l1 l2,l'=l1++l2/\cP h r=M l2/\il H H' l1 cs'
 |[],l,x,m,r,cs,l',cs',hg,hp,hl,hc,gv=>by
  simp only[Ah,ah,aE]at hg;obtain⟨_,_,rfl⟩:=hg;simp only[rH,ah]at hp;subst hp;simp only[cP,ah]at hc;subst hc;exact⟨[],l',rfl,hl,trivial⟩
 |p::ps,l,x,m,r,cs,l',cs',hg,hp,hl,hc,gv=>by
  simp only[Ah]at hg;split at hg
  .rename_i x1 m1 r1 h1;split at hg
   .rename_i x2 m2 r2 h2;simp only[ah,aE]at hg;obtain⟨rfl,rfl,rfl⟩:=hg;simp only[rH,um,vP]at hp;split at hp
    .rename_i a ha;split at hp
     .rename_i b hb;simp only[ah]at hp;subst hp;obtain⟨a',b',rfl,ea,eb⟩:=CR hc;obtain⟨ga,gb⟩:=gv.or;obtain⟨l1,l2,rfl,q1,q2⟩:=aib d hr p l _ _ _ a l' a' h1 ha hl ea ga;obtain⟨l3,l4,rfl,q3,q4⟩:=DZ d hr ps _ _ _ _ b l2 b' h2 hb q1 eb gb;exact⟨l1++l3,l4,by simp,q3,q2.append q4⟩
     .cases hp
    .cases hp
   .cases hg
  .cases hg
end
mutual
theorem ZC:∀(p:PV) (x:p.ty.den) (cs:Y TV),qD g p x=M cs->kV cs=J
 |.d T,x,cs,hp=>(mq PT.leaf 40 T x cs hp).2
 |.ptr i q,x,cs,hp=>by simp only[qD,ah]at hp;subst hp;rfl
 |.csl i q z,x,cs,hp=>by simp only[qD,ah]at hp;subst hp;rfl
 |.clo q i z,x,cs,hp=>by simp only[qD,ah]at hp;subst hp;rfl
 |.row i,x,cs,hp=>by simp only[qD,ah]at hp;subst hp;rfl
 |.mp i,x,cs,hp=>by simp only[qD,ah]at hp;subst hp;rfl
 |.nil,x,cs,hp=>by simp only[qD,ah]at hp;subst hp;rfl
 |.emp,x,cs,hp=>by simp only[qD,ah]at hp;subst hp;rfl
 |.agg ps,x,cs,hp=>xX ps x cs hp
theorem xX:∀(ps:Y PV) (x:(PV.tyL ps).den) (cs:Y TV),rH g ps x=M cs->kV cs=J
 |[],x,cs,hp=>by simp only[rH,ah]at hp;subst hp;rfl
 |p::ps,x,cs,hp=>by
  simp only[rH]at hp;split at hp
  .rename_i a ha;split at hp
   .rename_i b hb;simp only[ah]at hp;subst hp;exact UE (ZC p _ a ha) (xX ps _ b hb)
   .cases hp
  .cases hp
end
theorem aia (d:vK H H') (hr:yK h' h) {p:PV} {v:TV} {x:p.ty.den} {m:Nat} {u:TV} {y A:AV} (hg:ym g h p v=M (x,m)) (hp:uf g p x=M u) (s:cA h v=M y) (a:cA h' u=M A) (Z:E_ h H H' m):ma H H' y A:=by
 cases p with
 |d T=>
  simp only[uf,ah]at hp;subst hp;simp only[cA,ah]at a;subst a;exact (Q2 d hg s Z).1
 |agg ps=>
  simp only[ym]at hg;split at hg
  .cases hg
  .rename_i hc;split at hg
   .rename_i l hl;split at hg
    .rename_i x1 m1 h1;simp only[ah,aE]at hg;obtain⟨rfl,rfl⟩:=hg;simp only[uf]at hp;split at hp
     .rename_i cs hcs;simp only[ah]at hp;subst hp;simp only[cA]at a;split at a
      .rename_i cs' hcs';simp only[ah]at a;subst a;obtain⟨e1,e2⟩:=Ls hl s;obtain⟨l1,l2,U,L,q3⟩:=DZ d hr ps l _ _ [] cs y.cs cs' h1 hcs e1 hcs' Z;simp only[cP,ah]at L;subst L;rw[ik]at U;subst U;have hcell:∀x∈cs',x.isCell=J:=mr (sU hcs' (xX ps _ cs hcs));cases v with
       |agg q=>
        simp only[cA]at s;split at s
        .simp only[ah]at s;subst s;exact ma.agg q3 hcell
        .cases s
       |f S z=>
        simp only[cA,ah]at s;subst s;have ho:S.one=af:=by simpa[TV.isC] using hc
        rw[Be]at q3;rw[rn S z ho];intro φ E w v hrep hrel;exact ma.agg q3 hcell φ E w v hrep (Le.aggF _ _ _ _ hrel)
       |tup q=>simp[TV.cs,TV.isC]at hl
       |undef=>simp[TV.cs,TV.isC]at hl
       |np=>simp[TV.isC]at hc
       |anyb=>simp[TV.cs,TV.isC]at hl
       |fel T xs j hj off=>simp[TV.isC]at hc
       |pel id sz j off=>simp[TV.isC]at hc
       |ptr id off=>simp[TV.isC]at hc
       |csl id off z=>simp[TV.isC]at hc
       |row id=>simp[TV.isC]at hc
       |emp=>simp[TV.isC]at hc
       |nil=>simp[TV.isC]at hc
       |mp id=>simp[TV.isC]at hc
       |rtl id jj=>cases hl
       |clo g l=>simp[TV.isC]at hc
      .cases a
     .cases hp
    .cases hg
   .cases hg
 |ptr i q=>
  simp only[uf,ah]at hp;subst hp;simp only[ym]at hg;split at hg
  .rename_i h1;simp only[qb]at h1;split at h1
   .rename_i e;simp only[jh]at e;obtain⟨rfl,_⟩:=e;split at h1
    .rename_i hb;simp only[al]at hb;have e1:=ar hb.1;have e2:=ar hb.2;subst e1;subst e2;simp only[cA,ah]at s a;subst s;subst a;exact ma.refl d _
    .cases h1
   .cases h1
  .cases hg
 |csl i q z=>
  simp only[uf,ah]at hp;subst hp;simp only[ym]at hg;split at hg
  .rename_i h1;simp only[qb]at h1;split at h1
   .rename_i e;simp only[jh]at e;obtain⟨rfl,_⟩:=e;split at h1
    .rename_i hb;simp only[al]at hb;have e1:=ar hb.1.1;have e2:=ar hb.1.2;have e3:=ar hb.2;subst e1;subst e2;subst e3;simp only[cA,ah]at s a;subst s;subst a;exact ma.refl d _
    .cases h1
   .cases h1
  .cases hg
 |clo q i z=>
  simp only[uf,ah]at hp;subst hp;simp only[ym]at hg;split at hg
  .rename_i h1;simp only[qb]at h1;split at h1
   .rename_i e;simp only[jh]at e;obtain⟨rfl,_⟩:=e;split at h1
    .rename_i hb;simp only[al]at hb;have e1:=ar hb.1.1;have e2:=ar hb.1.2;have e3:=ar hb.2;subst e1;subst e2;subst e3;simp only[cA,cP,ah]at s a;subst s;subst a;exact ma.refl d _
    .cases h1
   .cases h1
  .cases hg
 |row i=>
  simp only[uf,ah]at hp;subst hp;simp only[ym]at hg;split at hg
  .rename_i h1;simp only[qb]at h1;split at h1
   .rename_i e;simp only[jh]at e;obtain⟨rfl,_⟩:=e;split at h1
    .rename_i hb;have e1:=ar hb;subst e1;rw[RJ hr s a];exact ma.refl d _
    .cases h1
   .cases h1
  .cases hg
 |mp i=>
  simp only[uf,ah]at hp;subst hp;simp only[ym]at hg;split at hg
  .rename_i h1;simp only[qb]at h1;split at h1
   .rename_i e;simp only[jh]at e;obtain⟨rfl,_⟩:=e;split at h1
    .rename_i hb;have e1:=ar hb;subst e1;simp only[cA,ah]at s a;subst s;subst a;exact ma.refl d _
    .cases h1
   .cases h1
  .cases hg
 |nil=>
  simp only[uf,ah]at hp;subst hp;simp only[ym]at hg;split at hg
  .rename_i h1;simp only[qb]at h1;split at h1
   .rename_i e;simp only[jh]at e;obtain⟨rfl,_⟩:=e;simp only[cA,ah]at s a;subst s;subst a;exact ma.refl d _
   .cases h1
  .cases hg
 |emp=>
  simp only[uf,ah]at hp;subst hp;simp only[ym]at hg;split at hg
  .rename_i h1;simp only[qb]at h1;split at h1
   .rename_i e;simp only[jh]at e;obtain⟨rfl,_⟩:=e;simp only[cA,ah]at s a;subst s;subst a;exact Le.nilEmp.toH d
   .rename_i e;simp only[jh]at e;obtain⟨rfl,_⟩:=e;simp only[cA,ah]at s a;subst s;subst a;exact ma.refl d _
   .cases h1
  .cases hg
theorem DY (d:vK H H') (hr:yK h' h):∀(ps:Y PV) (vs:Y TV) (x:(PV.tyL ps).den) (m:Nat) (us:Y TV) (l z:Y AV),yW g h ps vs=M (x,m)->qJ g ps x=M us->cP h vs=M l->cP h' us=M z->E_ h H H' m->il H H' l z
 |[],[],x,m,us,l,z,hg,hp,hl,s,A=>by
  simp only[qJ,ah]at hp;subst hp;simp only[cP,ah]at hl s;subst hl;subst s;trivial
 |[],_::_,x,m,us,l,z,hg,_,_,_,_=>by simp[yW]at hg
 |_::_,[],x,m,us,l,z,hg,_,_,_,_=>by simp[yW]at hg
 |p::ps,v::vs,x,m,us,l,z,hg,hp,hl,s,A=>by
  simp only[yW]at hg;split at hg
  .rename_i x1 m1 h1;split at hg
   .rename_i x2 m2 h2;simp only[ah,aE]at hg;obtain⟨rfl,rfl⟩:=hg;simp only[qJ,um,vP]at hp;split at hp
    .rename_i a U;split at hp
     .rename_i b hb;simp only[ah]at hp;subst hp;obtain⟨y,l2,rfl,e1,e2⟩:=dg hl;obtain⟨y',L,rfl,e3,e4⟩:=dg s;obtain⟨ga,Z⟩:=A.or;exact⟨aia d hr h1 U e1 e3 ga,DY d hr ps vs _ _ b l2 L h2 hb e2 e4 Z⟩
     .cases hp
    .cases hp
   .cases hg
  .cases hg
inductive BM (g:Nat->Nat) (h:bk) (m:Nat):iB->iB->Prop
 |rows (ty:TypeId) (p:Bool) (T:Ty) (xs:List T.den):BM g h m (.rows ty p T xs) (.rows ty p T xs)
 |mp (K V:Ty) (es:List (K.den×V.den)):BM g h m (.mp K V es) (.mp K V es)
 |cells (ty:Option TypeId) (ps:List PV) (x:(PV.tyL ps).den) (l l2:List TV) (m':Nat) (hg:Ah g h ps l=M (x,m',[])) (hp:rH g ps x=M l2) (hm:∀i,aO m' i=J->aO m i=J):BM g h m (.cells ty l) (.cells ty l2)
theorem BM.mono {m m2:Nat} (hm:∀i,aO m i=J->aO m2 i=J) {b c:iB} (h1:BM g h m b c):BM g h m2 b c:=by
 cases h1 with
 |rows ty p T xs=>exact .rows ty p T xs
 |mp K V es=>exact .mp K V es
 |cells ty ps x l l2 m' hg hp a=>exact .cells ty ps x l l2 m' hg hp λi hi=>hm i (a i hi)
theorem aic {i:Nat} {b:PB} {x:b.ty.den} {m:Nat} {c:iB} (hg:FN g h i b=M (x,m)) (hp:Dv g b x=M (M c)):∃b0,h.get (g i)=M b0/\BM g h m b0 c:=by
 cases b with
 |rows ty p T=>
  simp only[FN]at hg;split at hg
  .rename_i ty' A S xs hb;split at hg
   .rename_i hc;simp only[al,c8]at hc;obtain⟨rfl,rfl⟩:=hc;split at hg
    .rename_i z a;simp only[ah,aE]at hg;obtain⟨rfl,rfl⟩:=hg;obtain⟨e,rfl⟩:=iz a;cases e;simp only[Dv,ah]at hp;subst hp;exact⟨_,hb,.rows _ _ _ _⟩
    .cases hg
   .cases hg
  .cases hg
 |rowsP ty T=>
  simp only[FN]at hg;split at hg
  .rename_i ty' A S xs hb;split at hg
   .rename_i hc;have hc:ty=ty':=by simpa using hc
    subst hc;split at hg
    .rename_i z a;simp only[ah,aE]at hg;obtain⟨rfl,rfl⟩:=hg;obtain⟨e,rfl⟩:=iz a;cases e;simp only[Dv,ah]at hp;subst hp;exact⟨_,hb,.rows _ _ _ _⟩
    .cases hg
   .cases hg
  .cases hg
 |cells ty ps=>
  simp only[FN]at hg;split at hg
  .rename_i ty' l hb;split at hg
   .rename_i hc;have hc:ty=ty':=by simpa using hc
    subst hc;split at hg
    .rename_i z m1 a;simp only[ah,aE]at hg;obtain⟨rfl,rfl⟩:=hg;simp only[Dv]at hp;split at hp
     .rename_i l2 s;simp only[ah]at hp;subst hp;exact⟨_,hb,.cells ty ps _ l l2 _ a s λ_ h=>h⟩
     .cases hp
    .cases hg
   .cases hg
  .cases hg
 |mp K V=>
  simp only[FN]at hg;split at hg
  .rename_i K' V' es hb;split at hg
   .rename_i z a;simp only[ah,aE]at hg;obtain⟨rfl,rfl⟩:=hg;obtain⟨e,rfl⟩:=iz a;cases e;simp only[Dv,ah]at hp;subst hp;exact⟨_,hb,.mp _ _ _⟩
   .cases hg
  .cases hg
 |gone=>simp[Dv]at hp
theorem Ko:∀(bs:Y PB) (i:Nat) (x:(PB.tyL bs).den) (m:Nat) (s:Y (I iB)),BK g h i bs=M (x,m)->o7 g bs x=M s->∀(k:Nat) c,s[k]? =M (M c)->∃b0,h.get (g (i+k))=M b0/\BM g h m b0 c
 |[],i,x,m,s,hg,hp,k,c,hk=>by
  simp only[o7,ah]at hp;subst hp;simp at hk
 |b::r,i,x,m,s,hg,hp,k,c,hk=>by
  simp only[BK]at hg;split at hg
  .rename_i L m1 h1;split at hg
   .rename_i A m2 h2;simp only[ah,aE]at hg;obtain⟨rfl,rfl⟩:=hg;simp only[o7,um,vP]at hp;split at hp
    .rename_i a z;split at hp
     .rename_i q hq;simp only[ah]at hp;subst hp;cases k with
      |zero=>
       simp at hk;subst hk;obtain⟨b0,e1,e2⟩:=aic h1 z;exact⟨b0,e1,e2.mono λi hi=>by rw[bu,hi];rfl⟩
      |succ k=>
       obtain⟨b0,e1,e2⟩:=Ko r (i+1) _ _ q h2 hq k c (by simpa using hk);rw[show i+1+k=i+(k+1) from by omega]at e1;exact⟨b0,e1,e2.mono λi hi=>by rw[bu,hi];simp⟩
     .cases hp
    .cases hp
   .cases hg
  .cases hg
end get
theorem S5 {σ:PT Nat} {i a:Nat} (h:σ.get i=M a):iy σ i=a:=by unfold iy;rw[h]
theorem Yh {σ:PT Nat}:∀(n i acc sm:Nat),acx σ n i acc=M sm->
 (∀k,k<n->aO acc (iy σ (i+k))=af)/\(∀a b,a<n->b<n->iy σ (i+a)=iy σ (i+b)->a=b)/\∀q,aO sm q=J↔aO acc q=J\/∃k,k<n/\iy σ (i+k)=q
 |0,i,acc,sm,h=>by
  simp only[acx,ah]at h;subst h;exact⟨λk hk=>by omega,λa b z=>by omega,λq=>⟨.inl,λhq=>hq.elim id λ⟨k,hk,_⟩=>by omega⟩⟩
 |n+1,i,acc,sm,h=>by
  simp only[acx]at h;split at h
  .rename_i a z;split at h
   .cases h
   .rename_i hna;have hna:aO acc a=af:=by simpa using hna
    have hga:=S5 z;obtain⟨h1,h2,A⟩:=Yh n (i+1) (acc|||kQ a) sm h;have hne:∀k,k<n->iy σ (i+1+k)≠a/\aO acc (iy σ (i+1+k))=af:=λk hk=>by
     have:=h1 k hk;rw[bu,Bool.or_eq_false_iff]at this;refine ⟨λe=>?_,this.1⟩;have s:=this.2;rw[e]at s;rw[b9.2 rfl]at s;cases s
    refine ⟨λk hk=>?_,λx y U L hxy=>?_,λq=>?_⟩
    .cases k with
     |zero=>rw[dt,hga];exact hna
     |succ k=>rw[show i+(k+1)=i+1+k from by omega];exact (hne k (by omega)).2
    .cases x with
     |zero=>
      cases y with
      |zero=>rfl
      |succ y=>
       rw[dt,hga,show i+(y+1)=i+1+y from by omega]at hxy;exact b8 hxy.symm (hne y (by omega)).1
     |succ x=>
      cases y with
      |zero=>
       rw[show i+0=i from rfl,hga,show i+(x+1)=i+1+x from by omega]at hxy;exact b8 hxy (hne x (by omega)).1
      |succ y=>
       rw[show i+(x+1)=i+1+x from by omega,show i+(y+1)=i+1+y from by omega]at hxy;have:=h2 x y (by omega) (by omega) hxy;omega
    .rw[A,bu,ji];constructor
     .rintro ((hq|hq)|⟨k,hk,hq⟩)
      .exact .inl hq
      .exact .inr ⟨0,by omega,by rw[dt,hga];exact b9.1 hq⟩
      .exact .inr ⟨k+1,by omega,by rw[show i+(k+1)=i+1+k from by omega];exact hq⟩
     .rintro (hq|⟨k,hk,hq⟩)
      .exact .inl (.inl hq)
      .cases k with
       |zero=>rw[dt,hga]at hq;exact .inl (.inr (b9.2 hq))
       |succ k=>exact .inr ⟨k,by omega,by rw[show i+1+k=i+(k+1) from by omega];exact hq⟩
  .cases h
theorem Tc {σ:PT Nat}:∀(n:Nat),YU σ n=J->∀i,i<n->iy σ i=i
 |0,_,i,hi=>by omega
 |n+1,h,i,hi=>by
  simp only[YU,al]at h;by_cases e:i=n
  .subst e;cases s:σ.get i with
   |none=>rw[s]at h;exact b8 h.1 (by simp)
   |some a=>rw[s]at h;rw[S5 s];exact ar h.1
  .exact Tc n h.2 i (by omega)
structure I9 (np:Nat) (t:Tm) (vs:List TV) (h:bk) (z:t.ty.den) (m:Nat) (σ:PT Nat) (sm:Nat):Prop where
 ex:∃x m1 y m2,z=VX _ _ x y/\m=m1|||m2/\yW (iy σ) h t.vs vs=M (x,m1)/\BK (iy σ) h 0 t.bs=M (y,m2)
 inj:∀a b,a<t.bs.length->b<t.bs.length->iy σ a=iy σ b->a=b
 sig:∀q,aO sm q=J↔∃k,k<t.bs.length/\iy σ k=q
 disj:∀i,aO m i=J->aO sm i=af
 fix:∀i,i<np->iy σ i=i
theorem xg {np:Nat} {t:Tm} {vs:Y TV} {h:bk} {z:t.ty.den} {m:Nat} {σ:PT Nat} {sm:Nat} (hm:Fr np t vs h=M ⟨z,m,σ,sm⟩):I9 np t vs h z m σ sm:=by
 unfold Fr at hm;rw[Qh]at hm;split at hm
 .rename_i sm' hs;split at hm
  .rename_i x m1 h1;split at hm
   .rename_i y m2 h2;split at hm
    .rename_i hc;simp only[al]at hc;simp only[ah,alh.mk.injEq]at hm;obtain⟨rfl,rfl,rfl,rfl⟩:=hm;obtain⟨A,s,a⟩:=Yh _ _ _ _ hs;simp only[bK]at A s a;exact⟨⟨x,m1,y,m2,rfl,rfl,h1,h2⟩,s,λq=>by rw[a];simp,λi hi=>yE hc.1 i hi,Tc np hc.2⟩
    .cases hm
   .cases hm
  .cases hm
 .cases hm
mutual
theorem Ai {g:Nat->Nat} {h:bk}:∀(p:PV) (l:Y TV) (x:p.ty.den) (m:Nat) (r:Y TV),qb g h p l=M (x,m,r)->dX h m
 |.d T,l,x,m,r,hg=>vQ 40 T l x m r hg
 |.ptr i q,l,x,m,r,hg=>by
  simp only[qb]at hg;split at hg
  .split at hg
   .simp only[ah,aE]at hg;obtain⟨_,rfl,_⟩:=hg;exact dX.zero h
   .cases hg
  .cases hg
 |.csl i q z,l,x,m,r,hg=>by
  simp only[qb]at hg;split at hg
  .split at hg
   .simp only[ah,aE]at hg;obtain⟨_,rfl,_⟩:=hg;exact dX.zero h
   .cases hg
  .cases hg
 |.clo q i z,l,x,m,r,hg=>by
  simp only[qb]at hg;split at hg
  .split at hg
   .simp only[ah,aE]at hg;obtain⟨_,rfl,_⟩:=hg;exact dX.zero h
   .cases hg
  .cases hg
 |.row i,l,x,m,r,hg=>by
  simp only[qb]at hg;split at hg
  .split at hg
   .simp only[ah,aE]at hg;obtain⟨_,rfl,_⟩:=hg;exact dX.zero h
   .cases hg
  .cases hg
 |.mp i,l,x,m,r,hg=>by
  simp only[qb]at hg;split at hg
  .split at hg
   .simp only[ah,aE]at hg;obtain⟨_,rfl,_⟩:=hg;exact dX.zero h
   .cases hg
  .cases hg
 |.nil,l,x,m,r,hg=>by
  simp only[qb]at hg;split at hg
  .simp only[ah,aE]at hg;obtain⟨_,rfl,_⟩:=hg;exact dX.zero h
  .cases hg
 |.emp,l,x,m,r,hg=>by
  simp only[qb]at hg;split at hg
  .simp only[ah,aE]at hg;obtain⟨_,rfl,_⟩:=hg;exact dX.zero h
  .simp only[ah,aE]at hg;obtain⟨_,rfl,_⟩:=hg;exact dX.zero h
  .cases hg
 |.agg ps,l,x,m,r,hg=>IX ps l x m r hg
theorem IX {g:Nat->Nat} {h:bk}:∀(ps:Y PV) (l:Y TV) (x:(PV.tyL ps).den) (m:Nat) (r:Y TV),Ah g h ps l=M (x,m,r)->dX h m
 |[],l,x,m,r,hg=>by
  simp only[Ah,ah,aE]at hg;obtain⟨_,rfl,_⟩:=hg;exact dX.zero h
 |p::ps,l,x,m,r,hg=>by
  simp only[Ah]at hg;split at hg
  .rename_i x1 m1 r1 h1;split at hg
   .rename_i x2 m2 r2 h2;simp only[ah,aE]at hg;obtain⟨_,rfl,_⟩:=hg;exact (Ai p l x1 m1 r1 h1).or (IX ps r1 _ _ _ h2)
   .cases hg
  .cases hg
end
theorem ame {g:Nat->Nat} {h:bk} {p:PV} {v:TV} {x:p.ty.den} {m:Nat} (hg:ym g h p v=M (x,m)):dX h m:=by
 cases p with
 |d T=>exact Ze hg
 |agg ps=>
  simp only[ym]at hg;split at hg
  .cases hg
  .split at hg
   .split at hg
    .rename_i a m1 h1;simp only[ah,aE]at hg;obtain⟨_,rfl⟩:=hg;exact IX ps _ _ _ _ h1
    .cases hg
   .cases hg
 |ptr i q=>
  simp only[ym]at hg;split at hg
  .rename_i h1;simp only[ah,aE]at hg;obtain⟨_,rfl⟩:=hg;exact Ai _ _ _ _ _ h1
  .cases hg
 |csl i q z=>
  simp only[ym]at hg;split at hg
  .rename_i h1;simp only[ah,aE]at hg;obtain⟨_,rfl⟩:=hg;exact Ai _ _ _ _ _ h1
  .cases hg
 |clo q i z=>
  simp only[ym]at hg;split at hg
  .rename_i h1;simp only[ah,aE]at hg;obtain⟨_,rfl⟩:=hg;exact Ai _ _ _ _ _ h1
  .cases hg
 |row i=>
  simp only[ym]at hg;split at hg
  .rename_i h1;simp only[ah,aE]at hg;obtain⟨_,rfl⟩:=hg;exact Ai _ _ _ _ _ h1
  .cases hg
 |mp i=>
  simp only[ym]at hg;split at hg
  .rename_i h1;simp only[ah,aE]at hg;obtain⟨_,rfl⟩:=hg;exact Ai _ _ _ _ _ h1
  .cases hg
 |nil=>
  simp only[ym]at hg;split at hg
  .rename_i h1;simp only[ah,aE]at hg;obtain⟨_,rfl⟩:=hg;exact Ai _ _ _ _ _ h1
  .cases hg
 |emp=>
  simp only[ym]at hg;split at hg
  .rename_i h1;simp only[ah,aE]at hg;obtain⟨_,rfl⟩:=hg;exact Ai _ _ _ _ _ h1
  .cases hg
theorem IW {g:Nat->Nat} {h:bk}:∀(ps:Y PV) (vs:Y TV) (x:(PV.tyL ps).den) (m:Nat),yW g h ps vs=M (x,m)->dX h m
 |[],[],x,m,hg=>by simp only[yW,ah,aE]at hg;obtain⟨_,rfl⟩:=hg;exact dX.zero h
 |[],_::_,x,m,hg=>by simp[yW]at hg
 |_::_,[],x,m,hg=>by simp[yW]at hg
 |p::ps,v::vs,x,m,hg=>by
  simp only[yW]at hg;split at hg
  .rename_i s m1 h1;split at hg
   .rename_i a m2 h2;simp only[ah,aE]at hg;obtain⟨_,rfl⟩:=hg;exact (ame h1).or (IW ps vs a m2 h2)
   .cases hg
  .cases hg
theorem amf {g:Nat->Nat} {h:bk} {i:Nat} {b:PB} {x:b.ty.den} {m:Nat} (hg:FN g h i b=M (x,m)):dX h m:=by
 cases b with
 |rows ty p T=>
  simp only[FN]at hg;split at hg
  .split at hg
   .split at hg
    .simp only[ah,aE]at hg;obtain⟨_,rfl⟩:=hg;exact dX.zero h
    .cases hg
   .cases hg
  .cases hg
 |rowsP ty T=>
  simp only[FN]at hg;split at hg
  .split at hg
   .split at hg
    .simp only[ah,aE]at hg;obtain⟨_,rfl⟩:=hg;exact dX.zero h
    .cases hg
   .cases hg
  .cases hg
 |cells ty ps=>
  simp only[FN]at hg;split at hg
  .split at hg
   .split at hg
    .rename_i h1;simp only[ah,aE]at hg;obtain⟨_,rfl⟩:=hg;exact IX ps _ _ _ _ h1
    .cases hg
   .cases hg
  .cases hg
 |mp K V=>
  simp only[FN]at hg;split at hg
  .split at hg
   .simp only[ah,aE]at hg;obtain⟨_,rfl⟩:=hg;exact dX.zero h
   .cases hg
  .cases hg
 |gone=>simp only[FN,ah,aE]at hg;obtain⟨_,rfl⟩:=hg;exact dX.zero h
theorem IY {g:Nat->Nat} {h:bk}:∀(bs:Y PB) (i:Nat) (x:(PB.tyL bs).den) (m:Nat),BK g h i bs=M (x,m)->dX h m
 |[],i,x,m,hg=>by simp only[BK,ah,aE]at hg;obtain⟨_,rfl⟩:=hg;exact dX.zero h
 |b::r,i,x,m,hg=>by
  simp only[BK]at hg;split at hg
  .rename_i s m1 h1;split at hg
   .rename_i a m2 h2;simp only[ah,aE]at hg;obtain⟨_,rfl⟩:=hg;exact (amf h1).or (IY r (i+1) a m2 h2)
   .cases hg
  .cases hg
structure rB (t:Tm) (x:t.ty.den) (vs:List TV) (h1:bk) (l1:List (Option iB)):Prop where
 pv:qJ IU t.vs (Qg _ _ x)=M vs
 pb:o7 IU t.bs (Mq _ _ x)=M l1
 len:l1.length=t.bs.length
 at_:∀i b,h1.get i=M b↔l1[i]? =M (M b)
 ok:lz h1 vs=J
 lt:sh t.bs.length vs=J
 cells:∀i ty l,h1.get i=M (.cells ty l)->lz h1 l=J/\sh t.bs.length l=J
theorem adw (l:Y (I iB)) (i:Nat) (b:iB):(Br IU 0 l PT.leaf).get i=M b↔l[i]? =M (M b):=by
 by_cases hi:i<l.length
 .obtain⟨c,hc⟩:∃c,l[i]? =M c:=⟨l[i],ay hi⟩
  have:=vU IU l 0 PT.leaf (λa b _ _ e=>by simp only[IU]at e;omega) i c hc;rw[show IU (0+i)=i from by simp only[IU];omega]at this;rw[this,hc];cases c with
  |some b'=>simp
  |none=>simp[PT.get]
 .rw[vT IU l 0 PT.leaf i (λk hk=>by simp only[IU];omega),bF (by omega)];simp[PT.get]
theorem xn {t:Tm} {x:t.ty.den} {vs:Y TV} {h1:bk} (hi:DL t x=M (vs,h1)):∃l1,rB t x vs h1 l1:=by
 unfold DL at hi;split at hi
 .rename_i us hus;split at hi
  .rename_i h hh;split at hi
   .rename_i hc;simp only[al]at hc;simp only[ah,aE]at hi;obtain⟨rfl,rfl⟩:=hi;unfold NS at hh;split at hh
    .rename_i l1 a;simp only[ah]at hh;refine ⟨l1,hus,a,Du _ _ _ _ a,λi b=>?_,hc.1.1,hc.1.2,λi ty l hil=>?_⟩
     .rw[<- hh];exact adw l1 i b
     .have:=PT.get_all _ h 1 0 i _ hc.2 hil;simpa only[al] using this
    .cases hh
   .cases hi
  .cases hi
 .cases hi
def Yt (nb:Nat) (n:Nat):Bool:=n%2==0&&gF (n/2) nb
theorem Co {nb i:Nat}:Yt nb (nm i)=J↔i<nb:=by
 unfold Yt nm;rw[show 2*i%2=0 from by omega,show 2*i/2=i from by omega];simp only[c5,fZ];exact⟨λh=>a_ h,λh=>bE h⟩
theorem ada {nb n:Nat} (h:Yt nb n=J):∃i,i<nb/\n=nm i:=by
 unfold Yt at h;simp only[al,c8]at h;exact⟨n/2,a_ h.2,by unfold nm;omega⟩
mutual
theorem amb {nb:Nat} {h:bk}:∀(v:TV) (y:AV),Mz nb v=J->cA h v=M y->y.all (Yt nb)=J
 |.f _ _,y,_,he=>by simp only[cA,ah]at he;subst he;rfl
 |.fel _ _ _ _ _,y,_,he=>by simp only[cA,ah]at he;subst he;rfl
 |.pel id _ _ _,y,hl,he=>by simp only[cA,ah]at he;subst he;exact Co.2 (a_ hl)
 |.ptr id _,y,hl,he=>by simp only[cA,ah]at he;subst he;exact Co.2 (a_ hl)
 |.csl id _ _,y,hl,he=>by simp only[cA,ah]at he;subst he;exact Co.2 (a_ hl)
 |.row id,y,hl,he=>by
  simp only[cA]at he;split at he
  .simp only[ah]at he;subst he;unfold fM;split
   .rfl
   .exact Co.2 (a_ hl)
  .cases he
 |.rtl id jj,y,hl,he=>by
  simp only[cA]at he;split at he
  .simp only[ah]at he;subst he;exact Co.2 (a_ hl)
  .cases he
 |.emp,y,_,he=>by simp only[cA,ah]at he;subst he;rfl
 |.nil,y,_,he=>by simp only[cA,ah]at he;subst he;rfl
 |.mp id,y,hl,he=>by simp only[cA,ah]at he;subst he;exact Co.2 (a_ hl)
 |.agg l,y,hl,he=>by
  simp only[cA]at he;split at he
  .rename_i l' hl';simp only[ah]at he;subst he;exact sK l l' hl hl'
  .cases he
 |.tup l,y,hl,he=>by
  simp only[cA]at he;split at he
  .rename_i l' hl';simp only[ah]at he;subst he;exact sK l l' hl hl'
  .cases he
 |.clo q l,y,hl,he=>by
  simp only[cA]at he;split at he
  .rename_i l' hl';simp only[ah]at he;subst he;exact sK l l' hl hl'
  .cases he
 |.undef,y,_,he=>by simp only[cA,ah]at he;subst he;rfl
 |.np,y,_,he=>by simp only[cA,ah]at he;subst he;rfl
 |.anyb,y,_,he=>by simp only[cA,ah]at he;subst he;rfl
theorem sK {nb:Nat} {h:bk}:∀(l:Y TV) (l':Y AV),sh nb l=J->cP h l=M l'->AV.allL (Yt nb) l'=J
 |[],l',_,he=>by simp only[cP,ah]at he;subst he;rfl
 |x::r,l',hl,he=>by
  obtain⟨y,l2,rfl,e1,e2⟩:=dg he;simp only[sh,al]at hl;simp only[AV.allL,al];exact⟨amb x y hl.1 e1,sK r l2 hl.2 e2⟩
end
theorem rB.blk_all {t:Tm} {x:t.ty.den} {vs:Y TV} {h1:bk} {l1:Y (I iB)} (z:rB t x vs h1 l1) {i:Nat} {b:iB} (hb:h1.get i=M b) {y:wK} (a:jN h1 b=M y):y.c.all (Yt t.bs.length)=J:=by
 cases b with
 |rows ty p T xs=>
  simp only[jN]at a;split at a
  .cases a
  .simp only[ah]at a;subst a;rfl
 |cells ty l=>
  cases ty with
  |some ty=>
   simp only[jN]at a;split at a
   .rename_i s hl;simp only[ah]at a;subst a;exact sK l s (z.cells i _ l hb).2 hl
   .cases a
  |none=>
   simp only[jN]at a;split at a
   .rename_i s hl;simp only[ah]at a;subst a;show AV.allL _ ((pj 0 s).map (·.2))=J;rw[N7];exact sK l s (z.cells i _ l hb).2 hl
   .cases a
 |dead p sz n=>cases a
 |mp K V es=>
  simp only[jN,ah]at a;subst a;show BC.all _ (mpC K V es)=J;unfold mpC;split
  .rfl
  .simp only[BC.all,IC];have key:∀l:Y (K.den×V.den),AV.allL (Yt t.bs.length) (l.map ((λx=>x.2)∘λp=>(qw K p.1,AV.f (gL V p.2))))=J:=λl=>by
    induction l with
    |nil=>rfl
    |cons e r A=>simp only[eV,AV.allL,al];exact⟨rfl,A⟩
   exact key es
theorem rB.lt_len {t:Tm} {x:t.ty.den} {vs:Y TV} {h1:bk} {l1:Y (I iB)} (y:rB t x vs h1 l1) {i:Nat} {b:iB} (hb:h1.get i=M b):i<t.bs.length:=by
 rw[<- y.len];exact (bn.1 ((y.at_ i b).1 hb)).1
def φ1 (nb:Nat) (g:Nat->Nat) (φ:PM):PM:=λn=>if Yt nb n then φ (IZ g n) else D
theorem acg {nb:Nat} {g:Nat->Nat} {φ:PM} {i:Nat} (hi:i<nb):φ1 nb g φ (nm i)=φ (nm (g i)):=by
 unfold φ1;rw[aC (Co.2 hi),yp]
theorem xS {nb:Nat} {g:Nat->Nat} {φ:PM} {n k:Nat} (h:φ1 nb g φ n=M k):∃i,i<nb/\n=nm i/\φ (nm (g i))=M k:=by
 unfold φ1 at h;split at h
 .rename_i hp;obtain⟨i,hi,rfl⟩:=ada hp;rw[yp]at h;exact⟨i,hi,rfl,h⟩
 .cases h
structure ajg (t:Tm) (x:t.ty.den) (vs:List TV) (h1:bk) (g:Nat->Nat) (φ:PM) (E E':Nat->Prop) (Hv:HF) (w:World):Prop where
 rep:rL (φ1 t.bs.length g φ) E' (bz h1) w
 val:∀x v,x.all (Yt t.bs.length)=J->cS φ (tot E φ Hv) w (x.ren (IZ g)) v->cS (φ1 t.bs.length g φ) (tot E' (φ1 t.bs.length g φ) (bz h1)) w x v
 own_:∀k,own (φ1 t.bs.length g φ) (bz h1) k->own φ Hv k
 tot_:∀k,tot E' (φ1 t.bs.length g φ) (bz h1) k->tot E φ Hv k
theorem rL.toId {t:Tm} {x:t.ty.den} {vs:Y TV} {h1:bk} {l1:Y (I iB)} (z:rB t x vs h1 l1) {g:Nat->Nat} (inj:∀a b,a<t.bs.length->b<t.bs.length->g a=g b->a=b) {φ:PM} {E E':Nat->Prop} {Hv:HF} {w:World} (r:rL φ E Hv w)
 (hat:∀i b y,h1.get i=M b->jN h1 b=M y->Hv (nm (g i))=M (y.ren (IZ g)))
 (hE:∀k,E' k->tot E φ Hv k) (hne:∀i k b,i<t.bs.length->Hv (nm (g i))=M b->φ (nm (g i))=M k->¬E' k) (hel:∀k,E' k->k<w.heap.size):ajg t x vs h1 g φ E E' Hv w:=by
 have own1:∀k,own (φ1 t.bs.length g φ) (bz h1) k->own φ Hv k:=by
  rintro k ⟨n,y,h2,h3⟩;obtain⟨i,hi,rfl,U⟩:=xS h3;obtain⟨j,b,e,L,s⟩:=jM h2;have:=lA e;subst this;exact⟨nm (g i),_,hat i b y L s,U⟩
 have tot1:∀k,tot E' (φ1 t.bs.length g φ) (bz h1) k->tot E φ Hv k:=λk hk=>hk.elim (hE k) λh=>.inr (own1 k h)
 have val:∀x v,x.all (Yt t.bs.length)=J->cS φ (tot E φ Hv) w (x.ren (IZ g)) v->cS (φ1 t.bs.length g φ) (tot E' (φ1 t.bs.length g φ) (bz h1)) w x v:=λx v hx hr=>by
  have h2:cS (φ1 t.bs.length g φ) (tot E φ Hv) w x v:=cS.renFrom (λi k hp hk=>by unfold φ1;rw[aC hp];exact hk) hr x hx rfl;exact h2.ext (λ_ _ h=>h) (Ja.refl _ w) λk _ hk=>tot1 k hk
 refine ⟨⟨λn n' b b' k Z g2 g3 g4=>?_,λn y Z=>?_,hel,λg' cells hg=>(r.gl g' cells hg).ext (Ja.refl _ w) λk _ hk=>tot1 k hk⟩,val,own1,tot1⟩
 .obtain⟨i,hi,rfl,U⟩:=xS g3;obtain⟨j,hj,rfl,L⟩:=xS g4;obtain⟨i',c,e,s,A⟩:=jM Z;have:=lA e;subst this;obtain⟨j',c',e,h8,h9⟩:=jM g2;have:=lA e;subst this;have:=r.inj _ _ _ _ k (hat i c _ s A) (hat j c' _ h8 h9) U L;rw[inj i j hi hj (lA this)]
 .obtain⟨i,c,rfl,s,A⟩:=jM Z;have hi:=z.lt_len s;obtain⟨k,p1,p2,ob,p3,p4⟩:=r.at_ _ _ (hat i c y s A);exact⟨k,by rw[acg hi];exact p1,hne i k _ hi (hat i c y s A) p1,ob,p3,js.renFrom val (z.blk_all s A) p4⟩
theorem BM.view {g:Nat->Nat} {h hv:bk} {H H':HF} {m:Nat} (d:vK H H') (L:E_ h H H' m) (hr:yK hv h) {b0 c:iB} (hb:BM g h m b0 c) {y s:wK} (e0:jN h b0=M y) (e1:jN hv c=M s):iS H H' y s:=by
 cases hb with
 |rows ty p T xs=>
  simp only[jN]at e0 e1;rw[e0]at e1;cases e1;exact iS.refl d y
 |mp K V es=>
  simp only[jN]at e0 e1;rw[e0]at e1;cases e1;exact iS.refl d y
 |cells ty ps x l l2 m' hg hp hm=>
  have key:∀a cs',cP h l=M a->cP hv l2=M cs'->il H H' a cs'/\∀x∈cs',x.isCell=J:=λa cs' hl hc=>by
   obtain⟨l1,U,A,z,q3⟩:=DZ d hr ps l x m' [] l2 a cs' hg hp hl hc λi hi=>L i (hm i hi)
   simp only[cP,ah]at z;subst z;rw[ik]at A;subst A;exact⟨q3,mr (sU hc (xX ps x l2 hp))⟩
  cases ty with
  |some ty=>
   simp only[jN]at e0 e1;split at e0
   .rename_i a hl;simp only[ah]at e0;subst e0;split at e1
    .rename_i cs' hc;simp only[ah]at e1;subst e1;exact iS.cells rfl rfl (key _ _ hl hc).1 (key _ _ hl hc).2
    .cases e1
   .cases e0
  |none=>
   simp only[jN]at e0 e1;split at e0
   .rename_i a hl;simp only[ah]at e0;subst e0;split at e1
    .rename_i cs' hc;simp only[ah]at e1;subst e1;exact iS.told (key _ _ hl hc).1
    .cases e1
   .cases e0
theorem BM.erB_some {g:Nat->Nat} {h hv:bk} {nx m:Nat} (hinv:mH h nx) {i:Nat} {b0 c:iB} (h0:h.get i=M b0) (hb:BM g h m b0 c) {a:wK} (e1:jN hv c=M a):∃y,jN h b0=M y:=by
 cases hb with
 |rows ty p T xs=>exact⟨a,e1⟩
 |mp K V es=>exact⟨a,e1⟩
 |cells ty ps x l l2 m' hg hp hm=>
  obtain⟨s,hl⟩:=fx h l (hinv.cells i _ l h0);cases ty<;>exact⟨_,by simp only[jN,hl];rfl⟩
theorem BM.row {g:Nat->Nat} {h:bk} {m:Nat} {b0 c:iB} (hb:BM g h m b0 c):nz c=nz b0:=by
 cases hb<;>rfl
structure qB (P:Program) (f:FuncId) (c:co):Prop where
 callable:E5 P f
 calls:∀x y,c.m x=M y->∀vs hp l1 rs hq l2 la lr,rB c.pre x vs hp l1->rB c.post y rs hq l2->cP hp vs=M la->cP hq rs=M lr->
  ∀(φ:PM) (E:Nat->Prop) (w:World) (us:ξ),rL φ E (bz hp) w->ku φ (tot E φ (bz hp)) w la us->(∀n k,φ n=M k->ow n<c.pre.bs.length)->
  Calls P f us.toArray w λen w'=>∃v φ',en= .returned v/\Ja (own φ (bz hp)) w w'/\(∀k,k<w.heap.size->own φ' (bz hq) k->own φ (bz hp) k)/\(∀i,i<c.pre.bs.length->φ' (nm i)=φ (nm i))/\rL φ' E (bz hq) w'/\cS φ' (tot E φ' (bz hq)) w' (Fb lr) v
theorem NY {g:Nat->Nat}:∀(bs:Y PB) (x:(PB.tyL bs).den) (l:Y (I iB)),Cx bs=J->o7 g bs x=M l->∀(i:Nat) (c:I iB),l[i]? =M c->∃b,c=M b
 |[],x,l,_,hp,i,c,hc=>by simp only[o7,ah]at hp;subst hp;simp at hc
 |b::r,x,l,hn,hp,i,c,hc=>by
  simp only[o7]at hp;split at hp
  .rename_i a s;split at hp
   .rename_i q hq;simp only[ah]at hp;subst hp;cases i with
    |zero=>
     simp at hc;subst hc;cases b with
     |gone=>simp[Cx]at hn
     |rows ty p T=>simp only[Dv,ah]at s;exact⟨_,s.symm⟩
     |rowsP ty T=>simp only[Dv,ah]at s;exact⟨_,s.symm⟩
     |cells ty ps=>
      simp only[Dv]at s;split at s
      .simp only[ah]at s;exact⟨_,s.symm⟩
      .cases s
     |mp K V=>simp only[Dv,ah]at s;exact⟨_,s.symm⟩
    |succ i=>
     refine NY r _ q ?_ hq i c (by simpa using hc);cases b<;>first|exact hn|simp[Cx]at hn
   .cases hp
  .cases hp
theorem Gy {h h2:bk} {g:Nat->Nat}:∀n,uE h h2 g n=J->∀i,i<n->∀r,eM h (g i)=M r->eM h2 (g i)=M r
 |0,_,i,hi,_,_=>by omega
 |n+1,hs,i,hi,r,hr=>by
  simp only[uE,al]at hs;by_cases e:i=n
  .subst e;obtain⟨p,s,k⟩:=r;have h1:=hs.1;rw[hr]at h1;cases a:eM h2 (g i) with
   |none=>rw[a]at h1;cases h1
   |some q=>
    obtain⟨z,s',k'⟩:=q;rw[a]at h1;simp only[al,c8]at h1;rw[h1.1.1,ar h1.1.2,ar h1.2]
  .exact Gy n hs.2 i (by omega) r hr
theorem ku.le {H H':HF} {φ:PM} {E:Nat->Prop} {w:World} (r:rL φ E H w):∀{l a:Y AV} {us:ξ},il H H' l a->ku φ (tot E φ H) w l us->ku φ (tot E φ H') w a us
 |[],[],[],_,_=>trivial
 |[],[],_::_,_,h=>h.elim
 |_::_,_::_,[],_,h=>h.elim
 |[],_::_,_,h,_=>h.elim
 |_::_,[],_,h,_=>h.elim
 |_::_,_::_,_::_,hl,h=>⟨hl.1 _ _ _ _ r h.1,ku.le r hl.2 h.2⟩
theorem ku.toId {φ φ':PM} {O O':Nat->Prop} {w:World} {γ:Nat->Nat} {p:Nat->Bool} (hv:∀x v,x.all p=J->cS φ O w (x.ren γ) v->cS φ' O' w x v):∀{l:Y AV} {us:ξ},AV.allL p l=J->ku φ O w (AV.renL γ l) us->ku φ' O' w l us
 |[],[],_,_=>trivial
 |[],_::_,_,h=>h.elim
 |_::_,[],_,h=>h.elim
 |_::_,_::_,hp,h=>by
  simp only[AV.allL,al]at hp;exact⟨hv _ _ hp.1 h.1,ku.toId hv hp.2 h.2⟩
theorem Yo {h:bk}:∀{rs:Y TV} {lr:Y AV},cP h rs=M lr->cA h (RK rs)=M (Fb lr)
 |[],lr,he=>by simp only[cP,ah]at he;subst he;rfl
 |[x],lr,he=>by
  obtain⟨y,l2,rfl,e1,e2⟩:=dg he;simp only[cP,ah]at e2;subst e2;exact e1
 |x::y::r,lr,he=>by
  obtain⟨s,l2,rfl,e1,e2⟩:=dg he;obtain⟨a,z,rfl,e3,A⟩:=dg e2;simp only[RK,cA,he,Fb]
theorem acq (γ:Nat->Nat):∀l:Y AV,Fb (AV.renL γ l)=(Fb l).ren γ
 |[]=>rfl
 |[x]=>rfl
 |x::y::r=>rfl
theorem acr {p:Nat->Bool}:∀{l:Y AV},AV.allL p l=J->(Fb l).all p=J
 |[],_=>rfl
 |[x],h=>by simp only[AV.allL,al]at h;exact h.1
 |x::y::r,h=>h
theorem ahu {nx a q:Nat}:aO (((1<<<a)-1)<<<nx) q=J↔nx<=q/\q<nx+a:=by
 rw[Nat.testBit_shiftLeft,Nat.one_shiftLeft,Nat.testBit_two_pow_sub_one];simp only[al,bc];omega
theorem afb {P:Program} {o:Oper} {e:jd} {h:bk} {nx:Nat} {f:FuncId} {c:co} {l:Y TV} (hinv:mH h nx) (sp:qB P f c) {x:c.pre.ty.den} {m:Nat} {σ:PT Nat} {sm:Nat} (A:I9 0 c.pre l h x m σ sm) {vs:Y TV} {hp:bk} {l1:Y (I iB)} (B:rB c.pre x vs hp l1) (hng:Cx c.pre.bs=J) {y:c.post.ty.den} (hm:c.m x=M y) {rs:Y TV} {hq:bk} {l2:Y (I iB)} (H:rB c.post y rs hq l2) (hle:c.pre.bs.length<=c.post.bs.length)
 {g:Nat->Nat} (glo:∀i,i<c.pre.bs.length->g i=iy σ i) (ghi:∀i,c.pre.bs.length<=i->g i=nx+(i-c.pre.bs.length)) {h2:bk} (hh2:h2=Br g 0 (l2.map (my (mf g))) (eJ m h)) (hsr:uE h h2 g c.pre.bs.length=J) {la:Y AV} (hla:cP h l=M la)
 (hexec:∀(φ:PM) (E:Nat->Prop) (h':HF) (w:World) (a:Act),(∀t,.tmp t∈o.op.operands->∀y,fV e h t=M y->cS φ (tot E φ h') w y (a.tmps.getD t undef))->rL φ E h' w->∃us:ξ,(execOp a.eval o).run P w= .ok (.enter f us.toArray) w/\ku φ (tot E φ h') w la us):
 jb P o af e h nx (RK (kY g rs)) (sm|||m) (sm|||m|||(((1<<<(c.post.bs.length-c.pre.bs.length))-1)<<<nx)) h2 (nx+(c.post.bs.length-c.pre.bs.length)):=by
 obtain⟨x1,m1,x2,m2,hx,hmm,gv,gb⟩:=A.ex;have hmr:dX h m:=by rw[hmm];exact (IW _ _ _ _ gv).or (IY _ _ _ _ gb)
 generalize hnp:c.pre.bs.length=np at*
 generalize hnq:c.post.bs.length=nq at*
 have pvg:qJ (iy σ) c.pre.vs x1=M (kY (iy σ) vs):=by
  have L:=uv (iy σ) c.pre.vs x1;have h4:=B.pv;rw[hx,um]at h4;rw[L,h4];rfl
 have pbg:o7 (iy σ) c.pre.bs x2=M (l1.map (my (mf (iy σ)))):=by
  have L:=wW (iy σ) c.pre.bs x2;have h4:=B.pb;rw[hx,vP]at h4;rw[L,h4];rfl
 have hl1:∀i,i<np->∃b,l1[i]? =M (M b):=λi hi=>by
  have hi':i<l1.length:=by rw[B.len,hnp];exact hi
  obtain⟨b,hb⟩:=NY c.pre.bs _ l1 hng B.pb i l1[i] (ay hi');exact⟨b,by rw[ay hi',hb]⟩
 have hbm:∀i b,l1[i]? =M (M b)->∃b0,h.get (iy σ i)=M b0/\BM (iy σ) h m b0 (mf (iy σ) b):=λi b hb=>by
  obtain⟨b0,s,U⟩:=Ko c.pre.bs 0 x2 m2 _ gb pbg i (mf (iy σ) b) (by rw[bd,hb];rfl);rw[bK]at s;exact⟨b0,s,U.mono λj hj=>by rw[hmm,bu,hj];simp⟩
 have inj1:∀a b,a<np->b<np->iy σ a=iy σ b->a=b:=λa b ha hb=>A.inj a b (by rw[hnp];exact ha) (by rw[hnp];exact hb)
 have sig:∀q,aO sm q=J↔∃k,k<np/\iy σ k=q:=λq=>by rw[A.sig,hnp]
 have gnx:∀i,i<np->iy σ i<nx:=λi hi=>by
  obtain⟨b,hb⟩:=hl1 i hi;obtain⟨b0,s,_⟩:=hbm i b hb;exact hinv.low _ _ s
 have hmS:∀i,i<np->aO m (iy σ i)=af:=λi hi=>by
  cases hx:aO m (iy σ i) with
  |false=>rfl
  |true=>have:=A.disj _ hx;rw[(sig _).2 ⟨i,hi,rfl⟩]at this;cases this
 have injg:∀a b,a<nq->b<nq->g a=g b->a=b:=λa b ha hb hab=>by
  by_cases h1:a<np
  .by_cases h2:b<np
   .rw[glo a h1,glo b h2]at hab;exact inj1 a b h1 h2 hab
   .rw[glo a h1,ghi b (by omega)]at hab;have:=gnx a h1;omega
  .by_cases h2:b<np
   .rw[ghi a (by omega),glo b h2]at hab;have:=gnx b h2;omega
   .rw[ghi a (by omega),ghi b (by omega)]at hab;omega
 let hv:bk:=Br (iy σ) 0 (l1.map (my (mf (iy σ)))) (eJ m h)
 have hv_at:∀i b,l1[i]? =M (M b)->hv.get (iy σ i)=M (mf (iy σ) b):=λi b hb=>by
  have:=vU (iy σ) (l1.map (my (mf (iy σ)))) 0 (eJ m h) (λa b ha hb=>by
   simp only[bQ,B.len,hnp]at ha hb;simp only[bK];exact inj1 a b ha hb) i (M (mf (iy σ) b)) (by rw[bd,hb];rfl)
  rw[bK]at this;exact this
 have hv_ne:∀j,(∀i,i<np->j≠iy σ i)->hv.get j=(eJ m h).get j:=λj hj=>
  vT (iy σ) _ 0 _ j λk hk=>by
   simp only[bQ,B.len,hnp]at hk;rw[bK];exact hj k hk
 have rows_in:yK hv h:=λj r hr=>by
  rw[bV]at hr ⊢;by_cases hj:∃i,i<np/\j=iy σ i
  .obtain⟨i,hi,rfl⟩:=hj;obtain⟨b,hb⟩:=hl1 i hi;obtain⟨b0,s,U⟩:=hbm i b hb;rw[hv_at i b hb]at hr;rw[s];simp only[aG]at hr ⊢;rw[<- U.row];exact hr
  .rw[hv_ne j (λi hi e=>hj ⟨i,hi,e⟩),jr]at hr;split at hr
   .rename_i ht;obtain⟨ty,p,T,xs,hb⟩:=hmr j ht;rw[hb]at hr ⊢;exact hr
   .exact hr
 have rows_hp:∀i r,eM hp i=M r->eM hv (iy σ i)=M r:=λi r hr=>by
  rw[bV]at hr ⊢;cases hb:hp.get i with
  |none=>rw[hb]at hr;cases hr
  |some b=>
   rw[hb]at hr;rw[hv_at i b ((B.at_ i b).1 hb)];simp only[aG,Jo]at hr ⊢;exact hr
 have dead_m:∀i,aO m i=J->bz hv (nm i)=D:=λi hi=>by
  rw[bH,hv_ne i (λk hk e=>by rw[e,hmS k hk]at hi;cases hi)];obtain⟨p,sz,n,hd⟩:=uB hmr hi;rw[hd];rfl
 have h2_at:∀i cc,l2[i]? =M cc->h2.get (g i)=(match cc with|some b=>M (mf g b)|none=>((eJ m h).get (g i)).map vV):=λi cc hc=>by
  have:=vU g (l2.map (my (mf g))) 0 (eJ m h) (λa b ha hb=>by
   simp only[bQ,H.len,hnq]at ha hb;simp only[bK];exact injg a b ha hb) i (cc.map (mf g)) (by rw[bd,hc];rfl)
  rw[bK]at this;rw[hh2,this];cases cc<;>rfl
 have h2_ne:∀j,(∀i,i<nq->j≠g i)->h2.get j=(eJ m h).get j:=λj hj=>by
  rw[hh2];refine vT g _ 0 _ j λk hk=>?_
  simp only[bQ,H.len,hnq]at hk;rw[bK];exact hj k hk
 have rows_hq:∀i r,eM hq i=M r->eM h2 (g i)=M r:=λi r hr=>by
  rw[bV]at hr ⊢;cases hb:hq.get i with
  |none=>rw[hb]at hr;cases hr
  |some b=>
   rw[hb]at hr;rw[h2_at i _ ((H.at_ i b).1 hb)];simp only[aG,Jo]at hr ⊢;exact hr
 have rows2:ch h h2:=λj r hr=>by
  by_cases hj:∃i,i<np/\j=iy σ i
  .obtain⟨i,hi,rfl⟩:=hj;rw[<- glo i hi]at hr ⊢;exact Gy np hsr i hi r hr
  .have hjn:j<nx:=by
    rw[bV]at hr;cases hb:h.get j with
    |none=>rw[hb]at hr;cases hr
    |some b=>exact hinv.low j b hb
   have:=ch.kill m h j r hr;rw[bV]at this ⊢;rw[h2_ne j (λi hi e=>?_)]
   .exact this
   .by_cases hip:i<np
    .exact hj ⟨i,hip,by rw[e,glo i hip]⟩
    .rw[ghi i (by omega)]at e;omega
 obtain⟨lr,hlr⟩:=fx hq rs H.ok;obtain⟨lp,hlp⟩:=fx hp vs B.ok;have er2:∀i b yb,hq.get i=M b->jN hq b=M yb->bz h2 (nm (g i))=M (yb.ren (IZ g)):=λi b yb hb hyb=>by
  rw[bH,h2_at i _ ((H.at_ i b).1 hb)];exact D7 rows_hq hyb
 have er2':∀i,i<nq->∀z,bz h2 (nm (g i))=M z->∃b yb,hq.get i=M b/\jN hq b=M yb/\z=yb.ren (IZ g):=λi hi z Z=>by
  have hi':i<l2.length:=by rw[H.len,hnq];exact hi
  have hcc:=ay hi';cases hcv:l2[i] with
  |none=>
   rw[hcv]at hcc;rw[bH,h2_at i D hcc]at Z;simp only at Z;cases hkg:(eJ m h).get (g i) with
   |none=>rw[hkg]at Z;cases Z
   |some b0=>rw[hkg]at Z;cases b0<;>simp[vV,jN]at Z
  |some b=>
   rw[hcv]at hcc;have hb:=(H.at_ i b).2 hcc;rw[bH,h2_at i (M b) hcc]at Z;have hyb:∃yb,jN hq b=M yb:=by
    cases b with
    |rows ty p T xs=>simp only[aG,mf,jN]at Z ⊢;exact⟨z,Z⟩
    |cells ty q=>
     obtain⟨q',hq'⟩:=fx hq q (H.cells i _ q hb).1;cases ty<;>exact⟨_,by simp only[jN,hq'];rfl⟩
    |dead p sz n=>simp[mf,jN]at Z
    |mp K V es=>exact⟨_,rfl⟩
   obtain⟨yb,hyb⟩:=hyb;have:=D7 rows_hq hyb;simp only[aG]at Z;rw[this]at Z;exact⟨b,yb,hb,hyb,by cases Z;rfl⟩
 have dead2:∀i,aO m i=J->bz h2 (nm i)=D:=λi hi=>by
  have hlt:=hmr.lt hinv hi;rw[bH,h2_ne i (λk hk e=>?_)]
  .obtain⟨p,sz,n,hd⟩:=uB hmr hi;rw[hd];rfl
  .by_cases hkp:k<np
   .rw[e,glo k hkp,hmS k hkp]at hi;cases hi
   .rw[ghi k (by omega)]at e;omega
 have inv2:mH h2 (nx+(nq-np)):=by
  refine ⟨λj ty q hj=>?_,λj b hj=>?_⟩
  .by_cases hjg:∃i,i<nq/\j=g i
   .obtain⟨i,hi,rfl⟩:=hjg;have hi':i<l2.length:=by rw[H.len,hnq];exact hi
    have hcc:=ay hi';cases hcv:l2[i] with
    |none=>
     rw[hcv]at hcc;rw[h2_at i D hcc]at hj;simp only at hj;cases hkg:(eJ m h).get (g i) with
     |none=>rw[hkg]at hj;cases hj
     |some b0=>rw[hkg]at hj;cases b0<;>simp[vV]at hj
    |some b=>
     rw[hcv]at hcc;have hb:=(H.at_ i b).2 hcc;rw[h2_at i (M b) hcc]at hj;simp only[ah]at hj;cases b with
     |cells ty' q'=>
      simp only[mf,iB.cells.injEq]at hj;obtain⟨_,rfl⟩:=hj;obtain⟨z,Z⟩:=fx hq q' (H.cells i _ q' hb).1;exact kh _ _ _ (pB rows_hq q' z Z)
     |rows _ _ _ _=>simp[mf]at hj
     |dead _ _ _=>simp[mf]at hj
     |mp _ _ _=>simp[mf]at hj
   .rw[h2_ne j (λi hi e=>hjg ⟨i,hi,e⟩)]at hj;refine jm rows2 q ?_;have hkk:=(hinv.kill m).cells j _ q hj;rw[jr]at hj;split at hj
    .rename_i ht;obtain⟨_,_,_,_,hb⟩:=hmr j ht;rw[hb]at hj;cases hj
    .exact hinv.cells j _ q hj
  .by_cases hjg:∃i,i<nq/\j=g i
   .obtain⟨i,hi,rfl⟩:=hjg;by_cases hip:i<np
    .rw[glo i hip];have:=gnx i hip;omega
    .rw[ghi i (by omega)];omega
   .rw[h2_ne j (λi hi e=>hjg ⟨i,hi,e⟩)]at hj;have:=(hinv.kill m).low j b hj;omega
 let S:ι:=(cq np).map λi=>nm (iy σ i)
 have memS:∀n,n∈S↔∃i,i<np/\n=nm (iy σ i):=λn=>by
  simp only[S,du,lU];exact⟨λ⟨i,h1,h2⟩=>⟨i,h1,h2.symm⟩,λ⟨i,h1,h2⟩=>⟨i,h1,h2.symm⟩⟩
 let NN:ι:=(cq (nq-np)).map λt=>nm (nx+t)
 have memN:∀n,n∈NN↔∃t,t<nq-np/\n=nm (nx+t):=λn=>by
  simp only[NN,du,lU];exact⟨λ⟨i,h1,h2⟩=>⟨i,h1,h2.symm⟩,λ⟨i,h1,h2⟩=>⟨i,h1,h2.symm⟩⟩
 have memW:∀n,n∈S++GM m++NN↔(∃i,i<nq/\n=nm (g i))\/n∈GM m:=λn=>by
  rw[bG,bG,memS,memN];constructor
  .rintro ((⟨i,hi,rfl⟩|hn)|⟨t,ht,rfl⟩)
   .exact .inl ⟨i,by omega,by rw[glo i hi]⟩
   .exact .inr hn
   .exact .inl ⟨np+t,by omega,by rw[ghi _ (by omega),show np+t-np=t from by omega]⟩
  .rintro (⟨i,hi,rfl⟩|hn)
   .by_cases hip:i<np
    .exact .inl (.inl ⟨i,hip,by rw[glo i hip]⟩)
    .exact .inr ⟨i-np,by omega,by rw[ghi i (by omega)]⟩
   .exact .inl (.inr hn)
 have hOpT:gZ P o (fV e h) (bz h) ⟨Fb (AV.renL (IZ g) lr),S++GM m,S++GM m++NN,bz h2,NN⟩:=by
  intro φ E h' w a hrd hwr hops hrep hN;have hS':∀i,i<np->h' (nm (iy σ i))=bz h (nm (iy σ i)):=λi hi=>hrd _ (lV _ ((memS _).2 ⟨i,hi,rfl⟩))
  have hM':∀i,aO m i=J->h' (nm i)=bz h (nm i):=λi hi=>hrd _ (ol _ (mi.2 hi))
  obtain⟨us,hrun,hrel⟩:=hexec φ E h' w a hops hrep
  let Hv:HF:=λn=>if n∈S++GM m then bz hv n else h' n
  have Hv_in:∀n,n∈S++GM m->Hv n=bz hv n:=λn hn=>by simp only[Hv,hn,bI]
  have Hv_out:∀n,n∉S++GM m->Hv n=h' n:=λn hn=>by simp only[Hv,hn,ec]
  have blkS:∀i,i<np->∀z,bz hv (nm (iy σ i))=M z->∃b0 b y0,h.get (iy σ i)=M b0/\l1[i]? =M (M b)/\BM (iy σ) h m b0 (mf (iy σ) b)/\jN h b0=M y0/\jN hv (mf (iy σ) b)=M z:=λi hi z Z=>by
   obtain⟨b,hb⟩:=hl1 i hi;obtain⟨b0,s,U⟩:=hbm i b hb;rw[bH,hv_at i b hb]at Z;simp only[aG]at Z;obtain⟨y0,hy0⟩:=BM.erB_some hinv s U Z;exact⟨b0,b,y0,s,hb,U,hy0,Z⟩
  have hd:vK h' Hv:=λn b hb=>by
   by_cases hn:n∈S++GM m
   .rw[Hv_in n hn]at hb;rcases bG.1 hn with hs|hs
    .obtain⟨i,hi,rfl⟩:=(memS n).1 hs;obtain⟨b0,b1,y0,s,U,q3,q4,q5⟩:=blkS i hi b hb;exact⟨y0,by rw[hS' i hi,bH,s];exact q4⟩
    .obtain⟨i,rfl,hi⟩:=oB.1 hs;rw[dead_m i hi]at hb;cases hb
   .rw[Hv_out n hn]at hb;exact⟨b,hb⟩
  have gvv:E_ h h' Hv m:=λi hi=>⟨hM' i hi,by rw[Hv_in _ (ol _ (mi.2 hi)),dead_m i hi]⟩
  have V:Is h' Hv:=⟨hd,λn b b' hb hb'=>by
   by_cases hn:n∈S++GM m
   .rw[Hv_in n hn]at hb';rcases bG.1 hn with hs|hs
    .obtain⟨i,hi,rfl⟩:=(memS n).1 hs;obtain⟨b0,b1,y0,s,U,q3,q4,q5⟩:=blkS i hi b' hb';rw[hS' i hi,bH,s]at hb;simp only[aG]at hb;exact BM.view hd gvv rows_in q3 hb q5
    .obtain⟨i,rfl,hi⟩:=oB.1 hs;rw[dead_m i hi]at hb';cases hb'
   .rw[Hv_out n hn,hb]at hb';cases hb';exact iS.refl hd b⟩
  have hrepv:=V.rep hrep;have hlpg:cP hv (kY (iy σ) vs)=M (AV.renL (IZ (iy σ)) lp):=pB rows_hp vs lp hlp;have hrel1:ku φ (tot E φ Hv) w (AV.renL (IZ (iy σ)) lp) us:=
   ku.le hrep (DY hd rows_in c.pre.vs l x1 m1 _ la _ gv pvg hla hlpg (λi hi=>gvv i (by rw[hmm,bu,hi];rfl))) hrel
  let E':Nat->Prop:=λk=>E k\/∃n b,Hv n=M b/\n∉S/\φ n=M k
  have T:ajg c.pre x vs hp (iy σ) φ E E' Hv w:=by
   refine rL.toId B (λa b ha hb=>inj1 a b (by rw[<- hnp];exact ha) (by rw[<- hnp];exact hb)) hrepv (λi b yb hb hyb=>?_) ?_ ?_ ?_
   .have hi:=B.lt_len hb;rw[hnp]at hi;rw[Hv_in _ (lV _ ((memS _).2 ⟨i,hi,rfl⟩)),bH,hv_at i b ((B.at_ i b).1 hb)];exact D7 rows_hp hyb
   .rintro k (hE|⟨n,b,h1,_,L⟩)
    .exact .inl hE
    .exact .inr ⟨n,b,h1,L⟩
   .rintro i k b hi h1 L (hE|⟨n,b',h4,h5,h6⟩)
    .obtain⟨k',p1,p2,_⟩:=hrepv.at_ _ _ h1;rw[L]at p1;cases p1;exact p2 hE
    .have:=hrepv.inj _ _ _ _ k h1 h4 L h6;exact h5 (by rw[<- this];exact (memS _).2 ⟨i,by rw[<- hnp];exact hi,rfl⟩)
   .rintro k (hE|⟨n,b,h1,_,L⟩)
    .exact hrepv.el k hE
    .obtain⟨k',s,_,ob,q3,_⟩:=hrepv.at_ n b h1;rw[L]at s;cases s;exact (cH.1 q3).1
  have hcalls:=sp.calls x y hm vs hp l1 rs hq l2 lp lr B H hlp hlr (φ1 c.pre.bs.length (iy σ) φ) E' w us T.rep (ku.toId T.val (sK vs lp B.lt hlp) hrel1) (λn k hk=>by
   obtain⟨i,hi,rfl,_⟩:=xS hk;rw[d_];exact hi)
  unfold Iz;rw[hrun];refine Calls.mono hcalls ?_;rintro en w' ⟨v,φc',rfl,hext,hown,hnm,rp,rv'⟩
  let isN:Nat->Prop:=λn=>n∈NN
  let φ':PM:=λn=>if n∈NN then φc' (nm (np+(ow n-nx))) else φ n
  have φ'_new:∀t,t<nq-np->φ' (nm (nx+t))=φc' (nm (np+t)):=λt ht=>by
   have:nm (nx+t)∈NN:=(memN _).2 ⟨t,ht,rfl⟩;simp only[φ',this,bI,d_];rw[show nx+t-nx=t from by omega]
  have φ'_old:∀n,n∉NN->φ' n=φ n:=λn hn=>by simp only[φ',hn,ec]
  have loN:∀i,i<nx->nm i∉NN:=λi hi hn=>by
   obtain⟨t,_,e⟩:=(memN _).1 hn;have:=lA e;omega
  have φ'_g:∀i,i<nq->φ' (nm (g i))=φc' (nm i):=λi hi=>by
   by_cases hip:i<np
   .rw[glo i hip,φ'_old _ (loN _ (gnx i hip)),hnm i (by rw[hnp];exact hip),acg (by rw[hnp];exact hip)]
   .rw[ghi i (by omega),φ'_new _ (by omega),show np+(i-np)=i from by omega]
  have hsub:∀n k,φ n=M k->φ' n=M k:=λn k hk=>by
   by_cases hn:n∈NN
   .rw[hN n hn]at hk;cases hk
   .rw[φ'_old n hn];exact hk
  let F:HF:=eZ h' (S++GM m++NN) (bz h2)
  have F_g:∀i,i<nq->F (nm (g i))=bz h2 (nm (g i)):=λi hi=>by
   simp only[F,eZ,(memW _).2 (.inl ⟨i,hi,rfl⟩),bI]
  have F_out:∀n,n∉S++GM m++NN->F n=h' n:=λn hn=>by simp only[F,eZ,hn,ec]
  have from_:∀n b,F n=M b->(∃i bq yb,i<nq/\n=nm (g i)/\hq.get i=M bq/\jN hq bq=M yb/\b=yb.ren (IZ g))\/(h' n=M b/\Hv n=M b/\n∉S/\n∉NN/\φ' n=φ n):=λn b hb=>by
   by_cases hn:n∈S++GM m++NN
   .rcases (memW n).1 hn with ⟨i,hi,rfl⟩|hs
    .rw[F_g i hi]at hb;obtain⟨bq,yb,s,U,q3⟩:=er2' i hi b hb;exact .inl ⟨i,bq,yb,hi,rfl,s,U,q3⟩
    .obtain⟨i,rfl,hi⟩:=oB.1 hs;have:F (nm i)=bz h2 (nm i):=by simp only[F,eZ,hn,bI]
     rw[this,dead2 i hi]at hb;cases hb
   .rw[F_out n hn]at hb;have h1:n∉S++GM m:=λhh=>hn (lV _ hh)
    have L:n∉NN:=λhh=>hn (ol _ hh)
    exact .inr ⟨hb,by rw[Hv_out n h1];exact hb,λhh=>h1 (lV _ hh),L,φ'_old n L⟩
  have own':∀k,own φ' F k->own φc' (bz hq) k\/∃n b,Hv n=M b/\n∉S/\φ n=M k:=by
   rintro k ⟨n,b,h1,L⟩;rcases from_ n b h1 with ⟨i,bq,yb,hi,rfl,s,U,_⟩|⟨_,U,q3,_,q5⟩
   .rw[φ'_g i hi]at L;exact .inl ⟨nm i,yb,by rw[bH,s];exact U,L⟩
   .exact .inr ⟨n,b,U,q3,by rw[<- q5];exact L⟩
  have mv:jt φ φ' h' F w w':=by
   refine ⟨hsub,hext.mono λk hk=>hd.own (T.own_ k hk),λk hk ho=>?_⟩;rcases own' k ho with h1|⟨n,b,h1,_,L⟩
   .exact hd.own (T.own_ k (hown k hk h1))
   .exact hd.own ⟨n,b,h1,L⟩
  have tot':∀k,tot E φ' F k->tot E' φc' (bz hq) k:=by
   rintro k (h1|h1)
   .exact .inl (.inl h1)
   .rcases own' k h1 with L|L
    .exact .inr L
    .exact .inl (.inr L)
  let φr:PM:=λn=>if Yt nq n then φc' n else D
  have rel_r:∀x v,x.all (Yt nq)=J->cS φc' (tot E' φc' (bz hq)) w' x v->cS φr (tot E φ' F) w' x v:=λx v hx hr=>
   hr.restrict (λi k hi hk=>by simp only[φr,hi,bI];exact hk) tot' hx
  have rel_g:∀x v,cS φr (tot E φ' F) w' x v->cS φ' (tot E φ' F) w' (x.ren (IZ g)) v:=λx v hr=>
   hr.renTo λn k hk=>by
    simp only[φr]at hk;split at hk
    .rename_i hpn;obtain⟨i,hi,rfl⟩:=ada hpn;rw[yp,φ'_g i hi];exact hk
    .cases hk
  have hnqJ:=hnq;refine ⟨v,φ',rfl,mv,λn k hk=>?_,?_,?_⟩
  .by_cases hn:n∈NN
   .exact .inr hn
   .rw[φ'_old n hn]at hk;exact .inl hk
  .refine ⟨λn n' b b' k h1 L h4 h5=>?_,λn b h1=>?_,λk hk=>dK (hrep.el k hk) mv.ext.size,λg' cells hg=>mv.keepF (hrep.gl g' cells hg)⟩
   .rcases from_ n b h1 with ⟨i,bq,yb,hi,rfl,s,U,_⟩|⟨s,U,q3,_,q5⟩
    .rw[φ'_g i hi]at h4;have hqi:bz hq (nm i)=M yb:=by rw[bH,s];exact U
     rcases from_ n' b' L with ⟨j,bj,yj,hj,rfl,t1,t2,_⟩|⟨t1,t2,t3,_,t5⟩
     .rw[φ'_g j hj]at h5;have:=rp.inj _ _ _ _ k hqi (by rw[bH,t1];exact t2) h4 h5;rw[lA this]
     .exfalso;obtain⟨k',p1,p2,_⟩:=rp.at_ _ _ hqi;rw[h4]at p1;cases p1;exact p2 (.inr ⟨n',b',t2,t3,by rw[<- t5];exact h5⟩)
    .rcases from_ n' b' L with ⟨j,bj,yj,hj,rfl,t1,t2,_⟩|⟨t1,t2,t3,_,t5⟩
     .exfalso;rw[φ'_g j hj]at h5;have hqj:bz hq (nm j)=M yj:=by rw[bH,t1];exact t2
      obtain⟨k',p1,p2,_⟩:=rp.at_ _ _ hqj;rw[h5]at p1;cases p1;exact p2 (.inr ⟨n,b,U,q3,by rw[<- q5];exact h4⟩)
     .exact hrep.inj n n' b b' k s t1 (by rw[<- q5];exact h4) (by rw[<- t5];exact h5)
   .rcases from_ n b h1 with ⟨i,bq,yb,hi,rfl,s,U,rfl⟩|⟨s,U,q3,_,q5⟩
    .have hqi:bz hq (nm i)=M yb:=by rw[bH,s];exact U
     obtain⟨k,p1,p2,ob,p3,p4⟩:=rp.at_ _ _ hqi;have hall:=H.blk_all s U;rw[hnq]at hall;exact⟨k,by rw[φ'_g i hi];exact p1,λhE=>p2 (.inl hE),ob,p3,(p4.restrict rel_r hall).renTo rel_g⟩
    .obtain⟨k,p1,p2,ob,p3,p4⟩:=hrep.at_ n b s;have hk:k<w.heap.size:=(cH.1 p3).1;refine ⟨k,hsub n k p1,p2,ob,?_,p4.mono λx v hr=>mv.keep hr⟩;rw[hext.blk k hk ?_]
     .exact p3
     .rintro⟨n',y',t1,t2⟩;obtain⟨i,hi,rfl,t3⟩:=xS t2;obtain⟨j,bb,e,t4,t5⟩:=jM t1;have:=lA e;subst this;have hi':i<np:=by rw[<- hnp];exact hi
      have hvi:Hv (nm (iy σ i))=M (y'.ren (IZ (iy σ))):=by
       rw[Hv_in _ (lV _ ((memS _).2 ⟨i,hi',rfl⟩)),bH,hv_at i bb ((B.at_ i bb).1 t4)];exact D7 rows_hp t5
      have:=hrepv.inj _ _ _ _ k hvi U t3 p1;exact q3 (by rw[<- this];exact (memS _).2 ⟨i,hi',rfl⟩)
  .have hall:(Fb lr).all (Yt nq)=J:=acr (by have:=sK rs lr H.lt hlr;rwa [hnq]at this);show cS φ' (tot E φ' F) w' (Fb (AV.renL (IZ g) lr)) v;rw[acq];exact rel_g _ _ (rel_r _ _ hall rv')
 have hrsg:cP h2 (kY g rs)=M (AV.renL (IZ g) lr):=pB rows_hq rs lr hlr;refine ⟨⟨_,hOpT,λz Z=>?_,?_,λn hn=>?_,λn hn=>?_,λn hn=>?_⟩,rows2,inv2,by omega,λhs=>by cases hs⟩
 .rw[Yo hrsg]at Z;cases Z;rfl
 .funext n;unfold eZ;split
  .rfl
  .rename_i hn;refine (kN hinv rows2 λi e=>?_).symm;subst e;rw[h2_ne i (λk hk e=>hn ((memW _).2 (.inl ⟨k,hk,by rw[e]⟩))),jr,aw];intro hb;exact hn ((memW _).2 (.inr (mi.2 hb)))
 .rw[bu];rcases bG.1 hn with hs|hs
  .obtain⟨i,hi,rfl⟩:=(memS n).1 hs;rw[d_,(sig _).2 ⟨i,hi,rfl⟩];rfl
  .obtain⟨i,rfl,hi⟩:=oB.1 hs;rw[d_,hi];simp
 .rw[bu,bu];rcases bG.1 hn with hs|hs
  .rcases bG.1 hs with hs|hs
   .obtain⟨i,hi,rfl⟩:=(memS n).1 hs;rw[d_,(sig _).2 ⟨i,hi,rfl⟩];rfl
   .obtain⟨i,rfl,hi⟩:=oB.1 hs;rw[d_,hi];simp
  .obtain⟨t,ht,rfl⟩:=(memN n).1 hs;rw[d_,ahu.2 ⟨by omega,by omega⟩];simp
 .obtain⟨t,ht,rfl⟩:=(memN n).1 hn;rw[d_];omega
mutual
def FV.fl:FV->Bool
 |.raw _=>J
 |.agg l=>FV.flL l
 |.sl _ _=>af
 |.ptr _ _=>af
def FV.flL:Y FV->Bool
 |[]=>J
 |x::r=>x.fl&&FV.flL r
end
theorem YT:∀{l:Y FV},FV.flL l=J->∀x∈l,x.fl=J
 |[],_,x,a=>by cases a
 |y::l,h,x,a=>by
  simp only[FV.flL,al]at h;rcases bm.1 a with rfl|a
  .exact h.1
  .exact YT h.2 x a
theorem aes:∀{l:Y FV},(∀x∈l,x.fl=J)->FV.flL l=J
 |[],_=>rfl
 |y::l,h=>by simp only[FV.flL,al];exact⟨h y (by simp),aes λx a=>h x (by simp[a])⟩
theorem oe.flat {O O':Nat->Prop} {w w':World} {x:FV} {v:Value} (h:oe O w x v):x.fl=J->oe O' w' x v:=by
 induction h with
 |raw v=>intro _;exact .raw v
 |nil a c hc=>intro h;cases h
 |sl cells n c b off us hn hc hO hb hcl hu hr s=>intro h;cases h
 |ptr cells o b off us hO hb hcl hu hr s=>intro h;cases h
 |agg cells vs hl hcl hr s=>intro h;exact .agg cells vs hl hcl λj x v z hv=>s j x v z hv (YT h x (aZ z))
mutual
def AV.fl:AV->Bool
 |.f x=>x.fl
 |.emp=>J
 |.anyb=>J
 |.agg l=>AV.flL l
 |.tup l=>AV.flL l
 |.ptr _ _=>af
 |.sl _ _ _=>af
 |.row _ _ _=>af
 |.mp _=>af
 |.clo _ _=>af
def AV.flL:Y AV->Bool
 |[]=>J
 |x::r=>x.fl&&AV.flL r
end
theorem LY:∀{l:Y AV},AV.flL l=J->∀x∈l,x.fl=J
 |[],_,x,a=>by cases a
 |y::l,h,x,a=>by
  simp only[AV.flL,al]at h;rcases bm.1 a with rfl|a
  .exact h.1
  .exact LY h.2 x a
theorem Zi:∀{l:Y AV},(∀x∈l,x.fl=J)->AV.flL l=J
 |[],_=>rfl
 |y::l,h=>by simp only[AV.flL,al];exact⟨h y (by simp),Zi λx a=>h x (by simp[a])⟩
theorem cS.flat {φ φ':PM} {O O':Nat->Prop} {w w':World} {x:AV} {v:Value} (h:cS φ O w x v):x.fl=J->cS φ' O' w' x v:=by
 induction h with
 |f h=>intro hf;exact .f (h.flat hf)
 |ptr h=>intro hf;cases hf
 |sl h hn hc=>intro hf;cases hf
 |row h hn hc hsh=>intro hf;cases hf
 |emp=>intro _;exact .emp
 |anyb=>intro _;exact .anyb
 |mp h=>intro hf;cases hf
 |agg hl hcl hr s=>intro hf;exact .agg hl hcl λj x v a hv=>s j x v a hv (LY hf x (aZ a))
 |tup hl hr s=>intro hf;exact .tup hl λj x v a hv=>s j x v a hv (LY hf x (aZ a))
 |clo hl hr s=>intro hf;cases hf
mutual
theorem amh (γ:Nat->Nat):∀x:AV,x.fl=J->x.ren γ=x
 |.f x,_=>rfl
 |.emp,_=>rfl
 |.anyb,_=>rfl
 |.agg l,h=>by simp only[AV.ren];rw[I1 γ l h]
 |.tup l,h=>by simp only[AV.ren];rw[I1 γ l h]
 |.ptr _ _,h=>by cases h
 |.sl _ _ _,h=>by cases h
 |.row _ _ _,h=>by cases h
 |.mp _,h=>by cases h
 |.clo _ _,h=>by cases h
theorem I1 (γ:Nat->Nat):∀l:Y AV,AV.flL l=J->AV.renL γ l=l
 |[],_=>rfl
 |x::r,h=>by
  simp only[AV.flL,al]at h;rw[AV.renL,amh γ x h.1,I1 γ r h.2]
end
theorem Bd:∀(T:Ty),T.flat=J->∀x:T.den,∀y∈bX T x,y.fl=J
 |.int _,_,x,y,s=>by simp only[bX,aI]at s;subst s;rfl
 |.bool,_,x,y,s=>by simp only[bX,aI]at s;subst s;rfl
 |.str,_,x,y,s=>by simp only[bX,aI]at s;subst s;rfl
 |.sl _,h,x,y,s=>by cases h
 |.st t,h,x,y,s=>Bd t h x y s
 |.pr a b,h,x,y,s=>by
  simp only[Ty.flat,al]at h;simp only[bX,bG]at s;exact s.elim (Bd a h.1 x.1 y) (Bd b h.2 x.2 y)
 |.un,_,x,y,s=>by simp[bX]at s
 |.ex,h,_,_,_=>by cases h
 |.sm,h,_,_,_=>by cases h
theorem aij (T:Ty) (h:T.flat=J) (x:T.den):(gL T x).fl=J:=by
 cases a:T.one with
 |true=>
  have:=Bd T h x (gL T x) (by rw[(D_ T x a).1];simp);exact this
 |false=>rw[rn T x a];exact aes (Bd T h x)
theorem RA (a b:Ty):(spr a b).flat=(a.flat&&b.flat):=by
 cases a<;>cases b<;>simp[spr,HY,Ty.flat]
theorem JP {n:Nat}:∀{a b:Y TV},sh n (a++b)=J->sh n a=J/\sh n b=J
 |[],b,h=>⟨rfl,h⟩
 |x::r,b,h=>by
  simp only[fR,sh,al]at h ⊢;obtain⟨h1,h2⟩:=JP h.2;exact⟨⟨h.1,h1⟩,h2⟩
mutual
theorem ahl {g:Nat->Nat} {h:bk}:∀(p:PV) (x:p.ty.den) (cs:Y TV) (l:Y AV),p.ty.flat=J->qD g p x=M cs->sh 0 cs=J->cP h cs=M l->∀y∈l,y.fl=J
 |.d T,x,cs,l,hf,hp,_,hl,y,hy=>by
  have:=(mq h 40 T x cs hp).1;rw[hl]at this;cases this;obtain⟨q,hq,rfl⟩:=du.1 hy;exact Bd T hf x q hq
 |.ptr i q,x,cs,l,hf,hp,hlt,hl,y,hy=>by
  simp only[qD,ah]at hp;subst hp;simp[sh,Mz]at hlt
 |.csl i q z,x,cs,l,hf,hp,hlt,hl,y,hy=>by
  simp only[qD,ah]at hp;subst hp;simp[sh,Mz]at hlt
 |.clo q i z,x,cs,l,hf,hp,hlt,hl,y,hy=>by
  simp only[qD,ah]at hp;subst hp;simp[sh,Mz]at hlt
 |.row i,x,cs,l,hf,hp,hlt,hl,y,hy=>by
  simp only[qD,ah]at hp;subst hp;simp[sh,Mz]at hlt
 |.mp i,x,cs,l,hf,hp,hlt,hl,y,hy=>by
  simp only[qD,ah]at hp;subst hp;simp[sh,Mz]at hlt
 |.nil,x,cs,l,hf,hp,hlt,hl,y,hy=>by
  simp only[qD,ah]at hp;subst hp;simp only[cP,cA,ah]at hl;subst hl;simp only[aI]at hy;subst hy;rfl
 |.emp,x,cs,l,hf,hp,hlt,hl,y,hy=>by
  simp only[qD,ah]at hp;subst hp;simp only[cP,cA,ah]at hl;subst hl;simp only[aI]at hy;subst hy;rfl
 |.agg ps,x,cs,l,hf,hp,hlt,hl,y,hy=>Jv ps x cs l hf hp hlt hl y hy
theorem Jv {g:Nat->Nat} {h:bk}:∀(ps:Y PV) (x:(PV.tyL ps).den) (cs:Y TV) (l:Y AV),(PV.tyL ps).flat=J->rH g ps x=M cs->sh 0 cs=J->cP h cs=M l->∀y∈l,y.fl=J
 |[],x,cs,l,hf,hp,hlt,hl,y,hy=>by
  simp only[rH,ah]at hp;subst hp;simp only[cP,ah]at hl;subst hl;cases hy
 |p::ps,x,cs,l,hf,hp,hlt,hl,y,hy=>by
  simp only[PV.tyL]at hf;rw[RA,al]at hf;simp only[rH]at hp;split at hp
  .rename_i a ha;split at hp
   .rename_i b hb;simp only[ah]at hp;subst hp;obtain⟨a',b',rfl,e1,e2⟩:=CR hl;have hsp:=JP hlt;rcases bG.1 hy with hy|hy
    .exact ahl p _ a a' hf.1 ha hsp.1 e1 y hy
    .exact Jv ps _ b b' hf.2 hb hsp.2 e2 y hy
   .cases hp
  .cases hp
end
theorem ahj {g:Nat->Nat} {h:bk} {p:PV} {x:p.ty.den} {u:TV} {y:AV} (hf:p.ty.flat=J) (hp:uf g p x=M u) (hlt:Mz 0 u=J) (a:cA h u=M y):y.fl=J:=by
 cases p with
 |d T=>
  simp only[uf,ah]at hp;subst hp;simp only[cA,ah]at a;subst a;exact aij T hf x
 |agg ps=>
  simp only[uf]at hp;split at hp
  .rename_i l hl;simp only[ah]at hp;subst hp;simp only[cA]at a;split at a
   .rename_i A s;simp only[ah]at a;subst a;exact Zi (Jv ps _ l A hf hl hlt s)
   .cases a
  .cases hp
 |ptr i q=>simp only[uf,ah]at hp;subst hp;simp[Mz]at hlt
 |csl i q z=>simp only[uf,ah]at hp;subst hp;simp[Mz]at hlt
 |row i=>simp only[uf,ah]at hp;subst hp;simp[Mz]at hlt
 |clo q i z=>simp only[uf,ah]at hp;subst hp;simp[Mz,sh]at hlt
 |mp i=>simp only[uf,ah]at hp;subst hp;simp[Mz]at hlt
 |nil=>simp only[uf,ah]at hp;subst hp;simp only[cA,ah]at a;subst a;rfl
 |emp=>simp only[uf,ah]at hp;subst hp;simp only[cA,ah]at a;subst a;rfl
theorem RQ {g:Nat->Nat} {h:bk}:∀(ps:Y PV) (x:(PV.tyL ps).den) (us:Y TV) (l:Y AV),(PV.tyL ps).flat=J->qJ g ps x=M us->sh 0 us=J->cP h us=M l->AV.flL l=J
 |[],x,us,l,hf,hp,hlt,hl=>by
  simp only[qJ,ah]at hp;subst hp;simp only[cP,ah]at hl;subst hl;rfl
 |p::ps,x,us,l,hf,hp,hlt,hl=>by
  simp only[PV.tyL]at hf;rw[RA,al]at hf;simp only[qJ]at hp;split at hp
  .rename_i a s;split at hp
   .rename_i b hb;simp only[ah]at hp;subst hp;obtain⟨y,l2,rfl,e1,e2⟩:=dg hl;simp only[sh,al]at hlt;simp only[AV.flL,al];exact⟨ahj hf.1 s hlt.1 e1,RQ ps _ b l2 hf.2 hb hlt.2 e2⟩
   .cases hp
  .cases hp
theorem ah5:∀{l:Y AV},AV.flL l=J->(Fb l).fl=J
 |[],_=>rfl
 |[x],h=>by simp only[AV.flL,al]at h;exact h.1
 |x::y::r,h=>h
theorem aj0 {P:Program} {o:Oper} {e:jd} {h:bk} {nx:Nat} {f:FuncId} {c:co} {l:Y TV} (hinv:mH h nx) (sp:qB P f c) {x:c.pre.ty.den} {m:Nat} {σ:PT Nat} {sm:Nat} (B:I9 0 c.pre l h x m σ sm) {vs:Y TV} {hp:bk} {l1:Y (I iB)} (A:rB c.pre x vs hp l1) {y:c.post.ty.den} (hm:c.m x=M y) {rs:Y TV} {hq:bk} {l2:Y (I iB)} (H:rB c.post y rs hq l2) (hp0:c.pre.bs.length=0) (hq0:c.post.bs.length=0) (hfl:(PV.tyL c.post.vs).flat=J)
 (g:Nat->Nat) {la:Y AV} (hla:cP h l=M la)
 (hexec:∀(φ:PM) (E:Nat->Prop) (h':HF) (w:World) (a:Act),(∀t,.tmp t∈o.op.operands->∀y,fV e h t=M y->cS φ (tot E φ h') w y (a.tmps.getD t undef))->rL φ E h' w->∃us:ξ,(execOp a.eval o).run P w= .ok (.enter f us.toArray) w/\ku φ (tot E φ h') w la us):
 jb P o af e h nx (RK (kY g rs)) m 0 h nx:=by
 obtain⟨x1,m1,x2,m2,hx,hmm,gv,gb⟩:=B.ex;have hmr:dX h m:=by rw[hmm];exact (IW _ _ _ _ gv).or (IY _ _ _ _ gb)
 have pvg:qJ (iy σ) c.pre.vs x1=M (kY (iy σ) vs):=by
  have s:=uv (iy σ) c.pre.vs x1;have h4:=A.pv;rw[hx,um]at h4;rw[s,h4];rfl
 obtain⟨lr,hlr⟩:=fx hq rs H.ok;obtain⟨Z,hlp⟩:=fx hp vs A.ok;have hfl':AV.flL lr=J:=RQ c.post.vs _ rs lr hfl H.pv (by rw[<- hq0];exact H.lt) hlr;have hpe:∀i,hp.get i=D:=λi=>by
  cases hb:hp.get i with
  |none=>rfl
  |some b=>have:=A.lt_len hb;omega
 have hqe:∀i,hq.get i=D:=λi=>by
  cases hb:hq.get i with
  |none=>rfl
  |some b=>have:=H.lt_len hb;omega
 have rows_hp:∀i r,eM hp i=M r->eM (eJ m h) (iy σ i)=M r:=λi r hr=>by rw[bV,hpe]at hr;cases hr
 have rows_hq:∀i r,eM hq i=M r->eM h (g i)=M r:=λi r hr=>by rw[bV,hqe]at hr;cases hr
 have rows_in:yK (eJ m h) h:=λj r hr=>by
  rw[bV]at hr ⊢;rw[jr]at hr;split at hr
  .rename_i ht;obtain⟨ty,p,T,xs,hb⟩:=hmr j ht;rw[hb]at hr ⊢;exact hr
  .exact hr
 have hOpT:gZ P o (fV e h) (bz h) ⟨Fb lr,GM m,[],λ_=>D,[]⟩:=by
  intro φ E h' w a hrd hwr hops hrep hN;obtain⟨us,hrun,hrel⟩:=hexec φ E h' w a hops hrep
  let Hv:HF:=λn=>if n∈GM m then D else h' n
  have Hv_in:∀n,n∈GM m->Hv n=D:=λn hn=>by simp only[Hv,hn,bI]
  have Hv_out:∀n,n∉GM m->Hv n=h' n:=λn hn=>by simp only[Hv,hn,ec]
  have hd:vK h' Hv:=λn b hb=>by
   by_cases hn:n∈GM m
   .rw[Hv_in n hn]at hb;cases hb
   .rw[Hv_out n hn]at hb;exact⟨b,hb⟩
  have gvv:E_ h h' Hv m:=λi hi=>⟨hrd _ (mi.2 hi),Hv_in _ (mi.2 hi)⟩
  have V:Is h' Hv:=⟨hd,λn b b' hb L=>by
   by_cases hn:n∈GM m
   .rw[Hv_in n hn]at L;cases L
   .rw[Hv_out n hn,hb]at L;cases L;exact iS.refl hd b⟩
  have hrepv:=V.rep hrep;have hlpg:cP (eJ m h) (kY (iy σ) vs)=M (AV.renL (IZ (iy σ)) Z):=pB rows_hp vs Z hlp;have hrel1:ku φ (tot E φ Hv) w (AV.renL (IZ (iy σ)) Z) us:=
   ku.le hrep (DY hd rows_in c.pre.vs l x1 m1 _ la _ gv pvg hla hlpg (λi hi=>gvv i (by rw[hmm,bu,hi];rfl))) hrel
  let E':Nat->Prop:=λk=>E k\/∃n b,Hv n=M b/\φ n=M k
  have T:ajg c.pre x vs hp (iy σ) φ E E' Hv w:=by
   refine rL.toId A (λa b ha=>by omega) hrepv (λi b yb hb=>by rw[hpe]at hb;cases hb) ?_ (λi k b hi=>by omega) ?_
   .rintro k (hE|⟨n,b,h1,s⟩)
    .exact .inl hE
    .exact .inr ⟨n,b,h1,s⟩
   .rintro k (hE|⟨n,b,h1,s⟩)
    .exact hrepv.el k hE
    .obtain⟨k',U,_,ob,q3,_⟩:=hrepv.at_ n b h1;rw[s]at U;cases U;exact (cH.1 q3).1
  have hcalls:=sp.calls x y hm vs hp l1 rs hq l2 Z lr A H hlp hlr (φ1 c.pre.bs.length (iy σ) φ) E' w us T.rep (ku.toId T.val (sK vs Z A.lt hlp) hrel1) (λn k hk=>by
   obtain⟨i,hi,rfl,_⟩:=xS hk;rw[d_];exact hi)
  unfold Iz;rw[hrun];refine Calls.mono hcalls ?_;rintro en w' ⟨v,φc',rfl,hext,hown,hnm,rp,rv'⟩;have hno:∀k,¬own (φ1 c.pre.bs.length (iy σ) φ) (bz hp) k:=by
   rintro k ⟨n,b,h1,_⟩;obtain⟨i,bb,_,s,_⟩:=jM h1;rw[hpe]at s;cases s
  have mv:jt φ φ h' h' w w':=⟨λ_ _ h=>h,hext.mono λk hk=>b8 hk (hno k),λ_ _ h=>h⟩
  refine ⟨v,φ,rfl,?_,λ_ _ h=>.inl h,?_,?_⟩
  .rw[uD];exact mv
  .rw[uD];refine hrep.moved mv λk hk=>?_
   obtain⟨n,b,h1,s⟩:=hk;obtain⟨k',U,_,ob,q3,_⟩:=hrep.at_ n b h1;rw[s]at U;cases U;exact hext.blk k (cH.1 q3).1 (hno k)
  .exact rv'.flat (ah5 hfl')
 have hrsg:cP h (kY g rs)=M (AV.renL (IZ g) lr):=pB rows_hq rs lr hlr;refine ⟨⟨_,hOpT,λz hz=>?_,?_,λn hn=>?_,by simp,by simp⟩,λ_ _ h=>h,hinv,bT _,λhs=>by cases hs⟩
 .rw[Yo hrsg,I1 _ lr hfl']at hz;cases hz;rfl
 .exact uD _ _
 .obtain⟨i,rfl,hi⟩:=oB.1 hn;rw[d_];exact hi
def co.full (c:co):co:=⟨c.pre,⟨c.post.vs,c.pre.bs⟩,λx=>au (c.m x) λy=>M (VX (PV.tyL c.post.vs) (PB.tyL c.pre.bs) (Qg _ _ y) (Mq _ _ x))⟩
def aH (P:Program) (f:FuncId) (c:co):Prop:=if eR c.pre.bs.length c.post.bs.length=J then qB P f c else qB P f c.full
theorem qB.toC {P:Program} {f:FuncId} {c:co} (h:qB P f c) (hb:eR c.pre.bs.length c.post.bs.length=J):aH P f c:=by
 unfold aH;rw[aC hb];exact h
theorem aH.holds {P:Program} {f:FuncId} {c:co} (h:aH P f c) (hb:eR c.pre.bs.length c.post.bs.length=J):qB P f c:=by
 unfold aH at h;rw[aC hb]at h;exact h
theorem ahx (a b:Ty) (z:(spr a b).den):VX a b (Qg a b z) (Mq a b z)=z:=by cases a<;>cases b<;>rfl
open Classical in
def roM {pre:Tm} {vs:Y PV} (m:pre.ty.den->I (Tm.ty ⟨vs,pre.bs⟩).den) (x:pre.ty.den):I (Tm.ty ⟨vs,[]⟩).den:=
 au (m x) λy=>if Mq (PV.tyL vs) (PB.tyL pre.bs) y=Mq _ _ x then M (VX (PV.tyL vs) (PB.tyL []) (Qg (PV.tyL vs) (PB.tyL pre.bs) y) ()) else D
theorem aH.ro {P:Program} {f:FuncId} {pre:Tm} {vs:Y PV} {m:pre.ty.den->I (Tm.ty ⟨vs,pre.bs⟩).den} {m':pre.ty.den->I (Tm.ty ⟨vs,[]⟩).den} (h:qB P f ⟨pre,⟨vs,pre.bs⟩,m⟩) (hb:eR pre.bs.length 0=af) (hs:∀x y,m' x=M y->roM m x=M y):aH P f ⟨pre,⟨vs,[]⟩,m'⟩:=by
 unfold aH;rw[aw (by show ¬eR pre.bs.length 0=J;rw[hb];exact Bool.false_ne_true)];refine ⟨h.callable,λx y hxy=>?_⟩;refine h.calls x y ?_;have hxy:au (m' x) (λy=>M (VX (PV.tyL vs) (PB.tyL pre.bs) (Qg (PV.tyL vs) (PB.tyL []) y) (Mq _ _ x)))=M y:=hxy;obtain⟨z,A,hzy⟩:=dS hxy;have h1:=hs x z A;unfold roM at h1;obtain⟨y0,s,h2⟩:=dS h1;split at h2
 .rename_i heq;have h2:=km h2;have hzy:=km hzy;subst h2;have a:VX (PV.tyL vs) (PB.tyL pre.bs) (Qg (PV.tyL vs) (PB.tyL pre.bs) y0) (Mq (PV.tyL pre.vs) (PB.tyL pre.bs) x)=y:=(hP (λq=>VX (PV.tyL vs) (PB.tyL pre.bs) q (Mq (PV.tyL pre.vs) (PB.tyL pre.bs) x)) (um (PV.tyL vs) (PB.tyL []) _ ()).symm).trans hzy;rw[<- heq]at a;have:=(ahx (PV.tyL vs) (PB.tyL pre.bs) y0).symm.trans a;exact s.trans (hP M this)
 .cases h2
theorem jb.drop {P:Program} {o:Oper} {e:jd} {h h':bk} {nx nx':Nat} {v:TV} {rd wr W wr':Nat} (t:jb P o af e h nx v rd wr h' nx') (hW:∀i,aO W i=J->bz h' (nm i)=bz h (nm i)/\aO rd i=J) (A:∀i,aO wr i=J->aO W i=J\/aO wr' i=J):jb P o af e h nx v rd wr' h' nx':=by
 obtain⟨⟨f,h1,h2,z,h4,h5,Z⟩,r,i,g,st⟩:=t;have hs:∀n,aO W (ow n)=J->bz h' n=bz h n:=λn hn=>by
  by_cases s:∃i,n=nm i
  .obtain⟨i,rfl⟩:=s;rw[d_]at hn;exact (hW i hn).1
  .rw[xt h s,xt h' s]
 have hup:∀H:HF,(∀n∈f.wr,H n=bz h n)->eZ H (f.wr.filter λn=> !(aO W (ow n))) f.nw=eZ H f.wr f.nw:=λH U=>by
  funext n;unfold eZ;by_cases hn:n∈f.wr
  .by_cases hb:aO W (ow n)=J
   .rw[aw (by simp[hb]),aC hn];have:=congrFun z n;unfold eZ at this;rw[aC hn,hs n hb]at this;rw[this,U n hn]
   .rw[aC (by simp[hn,hb]),aC hn]
  .rw[aw (by simp[hn]),aw hn]
 refine ⟨⟨⟨f.val,f.rd++(f.wr.filter λn=>aO W (ow n)),f.wr.filter λn=> !(aO W (ow n)),f.nw,f.N⟩,?_,h2,?_,λn hn=>?_,λn hn=>?_,Z⟩,r,i,g,λhs=>by cases hs⟩
 .intro φ E H w a hrd hwr hops hrep L;have k1:∀i∈f.rd,H i=bz h i:=λi hi=>hrd i (lV _ hi)
  have k2:∀i∈f.wr,H i=bz h i:=λi hi=>by
   cases hb:aO W (ow i) with
   |true=>exact hrd i (ol _ (by simp[hi,hb]))
   |false=>exact hwr i (by simp[hi,hb])
  have:=h1 φ E H w a k1 k2 hops hrep L;simp only[hup H k2];exact this
 .simp only[hup (bz h) (λ_ _=>rfl)];exact z
 .rcases bG.1 hn with hn|hn
  .exact h4 n hn
  .simp only[xQ]at hn;exact (hW _ hn.2).2
 .simp only[xQ,db]at hn;rcases A _ (h5 n hn.1) with hh|hh
  .rw[hn.2]at hh;cases hh
  .exact hh
mutual
theorem adu {n n':Nat} (hle:n<=n'):∀(v:TV),Mz n v=J->Mz n' v=J
 |.row id,h=>by simp only[Mz,Nat.blt_eq]at h ⊢;omega
 |.rtl id _,h=>by simp only[Mz,Nat.blt_eq]at h ⊢;omega
 |.pel id _ _ _,h=>by simp only[Mz,Nat.blt_eq]at h ⊢;omega
 |.ptr id _,h=>by simp only[Mz,Nat.blt_eq]at h ⊢;omega
 |.csl id _ _,h=>by simp only[Mz,Nat.blt_eq]at h ⊢;omega
 |.mp id,h=>by simp only[Mz,Nat.blt_eq]at h ⊢;omega
 |.agg l,h=>xj hle l h
 |.tup l,h=>xj hle l h
 |.clo _ l,h=>xj hle l h
 |.f _ _,_=>rfl
 |.fel _ _ _ _ _,_=>rfl
 |.emp,_=>rfl
 |.nil,_=>rfl
 |.undef,_=>rfl
 |.np,_=>rfl
 |.anyb,_=>rfl
theorem xj {n n':Nat} (hle:n<=n'):∀(l:Y TV),sh n l=J->sh n' l=J
 |[],_=>rfl
 |x::r,h=>by
  simp only[sh,al]at h ⊢;exact⟨adu hle x h.1,xj hle r h.2⟩
end
theorem Od {g g':Nat->Nat} {h:bk}:∀(bs:Y PB) (i:Nat) (x:(PB.tyL bs).den) (m:Nat),I7 bs=J->BK g h i bs=M (x,m)->∃l,o7 g' bs x=M l/\l.length=bs.length/\∀j,j<bs.length->∃ty p T xs,l[j]? =M (M (.rows ty p T xs))/\h.get (g (i+j))=M (.rows ty p T xs)
 |[],i,x,m,_,hg=>⟨[],rfl,rfl,λj hj=>by simp at hj⟩
 |.rows ty p T::r,i,x,m,s,hg=>by
  simp only[BK]at hg;split at hg
  .rename_i L m1 h1;split at hg
   .rename_i A m2 h2;simp only[ah,aE]at hg;obtain⟨rfl,rfl⟩:=hg;obtain⟨l,q1,q2,q3⟩:=Od (g:=g) (g':=g') (h:=h) r (i+1) A m2 s h2;simp only[FN]at h1;split at h1
    .rename_i ty' p' S xs hb;split at h1
     .rename_i hc;simp only[al,c8]at hc;obtain⟨rfl,rfl⟩:=hc;split at h1
      .rename_i z hz;simp only[ah]at h1;obtain⟨rfl,_⟩:=h1;obtain⟨es,ez⟩:=iz hz;cases es;subst ez;refine ⟨M (.rows ty p T L)::l,?_,by simp[q2],λj hj=>?_⟩
       .simp only[o7];rw[um,vP,q1];rfl
       .cases j with
        |zero=>exact⟨ty,p,T,_,rfl,hb⟩
        |succ j=>
         obtain⟨a,b,c,d,Z,U⟩:=q3 j (by simpa using hj);exact⟨a,b,c,d,by simpa using Z,by rw[show i+(j+1)=i+1+j from by omega];exact U⟩
      .cases h1
     .cases h1
    .cases h1
   .cases hg
  .cases hg
 |.rowsP _ _::r,i,x,m,s,hg=>by cases s
 |.cells _ _::r,i,x,m,s,hg=>by cases s
 |.mp _ _::r,i,x,m,s,hg=>by cases s
 |.gone::r,i,x,m,s,hg=>by cases s
theorem GJ:∀{bs:Y PB},I7 bs=J->Cx bs=J
 |[],_=>rfl
 |.rows _ _ _::r,h=>GJ (bs:=r) h
 |.rowsP _ _::r,h=>by cases h
 |.cells _ _::r,h=>by cases h
 |.mp _ _::r,h=>by cases h
 |.gone::r,h=>by cases h
theorem Gz {h h2:bk} {g:Nat->Nat}:∀(n:Nat),(∀i,i<n->h2.get (g i)=h.get (g i))->uE h h2 g n=J
 |0,_=>rfl
 |n+1,hs=>by
  simp only[uE,al];refine ⟨?_,Gz n λi hi=>hs i (by omega)⟩;have:eM h2 (g n)=eM h (g n):=by rw[bV,bV,hs n (by omega)]
  rw[this];cases eM h (g n) with
  |none=>rfl
  |some q=>obtain⟨p,s,k⟩:=q;simp
def Mc (P:Program) (con:FuncId->I co):Prop:=∀f c,con f=M c->aH P f c
theorem Y' {R:Type} {P:Program} {con:FuncId->I co} (hcon:Mc P con) {o:Oper} {e:jd} {h:bk} {nx:Nat} {f:FuncId} {l:Y TV} {K:KO R} {r:R} (hinv:mH h nx) (hk:Za con f l h nx K=M r) {la:Y AV} (hla:cP h l=M la)
 (hexec:∀(φ:PM) (E:Nat->Prop) (h':HF) (w:World) (a:Act),E5 P f->(∀t,.tmp t∈o.op.operands->∀y,fV e h t=M y->cS φ (tot E φ h') w y (a.tmps.getD t undef))->rL φ E h' w->∃us:ξ,(execOp a.eval o).run P w= .ok (.enter f us.toArray) w/\ku φ (tot E φ h') w la us):ly P o af e h nx K r:=by
 unfold Za at hk;split at hk
 .rename_i c hc;have spc:=hcon f c hc;split at hk
  .rename_i x m σ sm hM;split at hk
   .rename_i q hq;obtain⟨vs,hp⟩:=q;obtain⟨l1,z⟩:=xn hq;obtain⟨y,hy,hk⟩:=dS hk;split at hk
    .rename_i q2 hq2;obtain⟨rs1,U⟩:=q2;obtain⟨l2,A⟩:=xn hq2;split at hk
     .rename_i hcond;simp only[al]at hcond;have hle:=a_ hcond.1;have sp:=spc.holds hcond.1;simp only at hk;split at hk
      .rename_i rs hrs;have hrs':=hrs;rw[uv,A.pv]at hrs';simp only[ct,ah]at hrs';split at hk
       .rename_i hb;simp only[al]at hb;have Z:=ar hb.1.2;refine ⟨_,_,_,_,_,hk,?_⟩;rw[<- hrs'];exact aj0 hinv sp (xg hM) z hy A (by omega) Z hb.2 _ hla λφ E h' w a=>hexec φ E h' w a sp.callable
       .split at hk
        .rename_i h2 s;obtain⟨hsr,hk⟩:=ey hk;refine ⟨_,_,_,_,_,hk,?_⟩;rw[<- hrs'];unfold NS at s;rw[wW,A.pb]at s;simp only[ct,ah]at s;exact afb hinv sp (xg hM) z hcond.2 hy A hle (λi hi=>by
          have:gF i c.pre.bs.length=J:=bE hi;simp only[this,bI]) (λi hi=>by
          have:gF i c.pre.bs.length=af:=by
           cases hb:gF i c.pre.bs.length with
           |false=>rfl
           |true=>have:=a_ hb;omega
          simp only[this];rfl) s.symm hsr hla λφ E h' w a=>hexec φ E h' w a sp.callable
        .cases hk
      .cases hk
     .rename_i hcond;split at hk
      .rename_i hro;simp only[al]at hro;have Z:=ar hro.1;have hng:=GJ hro.2;have sp:qB P f c.full:=by
        unfold aH at spc
        rwa [aw (λhb=>hcond (by rw[hb,hng];rfl))]at spc
       simp only at hk;split at hk
       .rename_i rs hrs;split at hk
        .rename_i h2 s;have hrs':=hrs;rw[uv,A.pv]at hrs';simp only[ct,ah]at hrs';refine ⟨_,_,_,_,_,hk,?_⟩;rw[<- hrs'];have B:=xg hM;unfold NS at s;rw[wW,z.pb]at s;simp only[ct,ah]at s;have hqe:∀i,U.get i=D:=λi=>by
          cases hb:U.get i with
          |none=>rfl
          |some b=>have:=A.lt_len hb;omega
         have J':rB c.full.post (VX (PV.tyL c.post.vs) (PB.tyL c.pre.bs) (Qg _ _ y) (Mq _ _ x)) rs1 hp l1:=
          ⟨by show qJ IU c.post.vs (Qg (PV.tyL c.post.vs) (PB.tyL c.pre.bs) _)=_;rw[um];exact A.pv,by show o7 IU c.pre.bs (Mq (PV.tyL c.post.vs) (PB.tyL c.pre.bs) _)=_;rw[vP];exact z.pb,z.len,z.at_,jm (λi r hr=>by rw[bV,hqe]at hr;cases hr) _ A.ok,xj (by omega) _ A.lt,z.cells⟩
         obtain⟨x1,m1,x2,m2,hx,hmm,gv,gb⟩:=B.ex;obtain⟨l,q1,q2,q3⟩:=Od (g':=IU) c.pre.bs 0 x2 m2 hro.2 gb;have hl1:l1=l:=by
          have:=z.pb;rw[hx,vP,q1]at this;cases this;rfl
         subst hl1;have hgi:∀i,i<c.pre.bs.length->(if gF i c.pre.bs.length then iy σ i else nx+(i-c.pre.bs.length))=iy σ i:=λi hi=>by
          have:gF i c.pre.bs.length=J:=bE hi;simp only[this,bI]
         have hsame:∀i,i<c.pre.bs.length->h2.get (iy σ i)=h.get (iy σ i):=λi hi=>by
          obtain⟨ty,p,T,xs,w1,L⟩:=q3 i hi;rw[bK]at L;have:=vU (λi=>if gF i c.pre.bs.length then iy σ i else nx+(i-c.pre.bs.length)) (l1.map (my (mf (λi=>if gF i c.pre.bs.length then iy σ i else nx+(i-c.pre.bs.length))))) 0 (eJ m h) (λa b ha hb e=>by
           simp only[bQ,q2]at ha hb;rw[bK,bK,hgi a ha,hgi b hb]at e;exact B.inj a b ha hb e) i (M (.rows ty p T xs)) (by rw[bd,w1];rfl)
          rw[bK,hgi i hi]at this;rw[<- s,this,L]
         have t:=afb (o:=o) (e:=e) hinv sp B z hng (y:=VX (PV.tyL c.post.vs) (PB.tyL c.pre.bs) (Qg _ _ y) (Mq _ _ x)) (by show au (c.m x) _=_;rw[hy];rfl) J' (bT _) (g:=λi=>if gF i c.pre.bs.length then iy σ i else nx+(i-c.pre.bs.length)) hgi (λi hi=>by
          have:gF i c.pre.bs.length=af:=by
           cases hb:gF i c.pre.bs.length with
           |false=>rfl
           |true=>have:=a_ hb;have hi:c.pre.bs.length<=i:=hi;omega
          simp only[this];rfl) s.symm (Gz _ λi hi=>by rw[hgi i hi];exact hsame i hi) hla λφ E h' w a=>hexec φ E h' w a sp.callable
         have t':jb P o af e h nx (RK (kY (λi=>if gF i c.pre.bs.length then iy σ i else nx+(i-c.pre.bs.length)) rs1)) (sm|||m) (sm|||m|||(((1<<<(c.pre.bs.length-c.pre.bs.length))-1)<<<nx)) h2 (nx+(c.pre.bs.length-c.pre.bs.length)):=t;rw[IA,dt]at t';refine t'.drop (W:=sm) (λi hi=>?_) (λi hi=>?_)
         .refine ⟨?_,by rw[bu,hi];rfl⟩;obtain⟨k,hk,rfl⟩:=(B.sig i).1 hi;obtain⟨ty,p,T,xs,_,L⟩:=q3 k hk;rw[bK]at L;rw[bH,bH,hsame k hk,L];rfl
         .simp only[Nat.shiftLeft_zero,IA,Nat.zero_shiftLeft,Nat.or_zero,bu,ji]at hi;exact hi
        .cases hk
       .cases hk
      .cases hk
    .cases hk
   .cases hk
  .cases hk
 .cases hk
theorem alw {R:Type} {P:Program} {con:FuncId->I co} (hcon:Mc P con) {b_:TypeId->I Ty} {o:Oper} {e:jd} {h:bk} {nx:Nat} {i:SI} {K:KO R} {r:R} (hinv:mH h nx) (hi:ut e h) (hc:zn P o.op=i) (hk:eh con b_ i e h nx K=M r):ly P o i.still e h nx K r:=by
 have callOps:∀(c:Call),o.op= .call c->∀x,x∈c.operands->x∈o.op.operands:=λc A x L=>by rw[A];exact L
 cases i with
 |call f args=>
  simp only[eh]at hk;split at hk
  .rename_i l hl;have A:∃c:Call,o.op= .call c/\c.callee= .value (.func f)/\c.args.toList=args:=by
    unfold zn at hc;split at hc
    .rename_i i hi;subst hc;unfold QX at hi;split at hi
     .rename_i c A;split at hi
      .rename_i g hg;simp only[ah,SI.call.injEq]at hi;exact⟨c,A,by rw[hg,hi.1],hi.2⟩
      .simp at hi
      .cases hi
     .cases hi
    .split at hc<;>cases hc
   obtain⟨c,A,h1,h2⟩:=A;obtain⟨la,g1,g2⟩:=zQ hi hl;refine Y' hcon hinv hk g2 λφ E h' w a hcb hops hrep=>?_
   have hp:XW φ E h' w a (Kz e h) o:=λx y L Z=>uo hrep (by rw[v8];exact hops) L Z
   refine ⟨args.map a.eval,?_,Qm hp args la (λx L=>callOps c A x (by simp[eY,h1,<-h2]at L ⊢;exact .inr L)) g1⟩;unfold execOp;rw[A];have hm:c.args.map a.eval=(args.map a.eval).toArray:=by rw[<- h2];apply Mi;simp
   simp[resolve,h1,Act.eval,Deferred.ofValue,invoke,hm,xW hcb]
  .cases hk
 |callv x args=>
  simp only[eh]at hk;split at hk
  .rename_i f cap l L hl;have A:∃c:Call,o.op= .call c/\c.callee= .value x/\c.args.toList=args:=by
    unfold zn at hc;split at hc
    .rename_i i hi;subst hc;unfold QX at hi;split at hi
     .rename_i c A;split at hi
      .simp at hi
      .rename_i g hg;simp only[ah,SI.callv.injEq]at hi;exact⟨c,A,by rw[hg,hi.1],hi.2⟩
      .cases hi
     .cases hi
    .split at hc<;>cases hc
   obtain⟨c,A,h1,h2⟩:=A;obtain⟨la,g1,g2⟩:=zQ hi hl;obtain⟨yx,g3,U⟩:=bL hi L;simp only[cA]at U;split at U
   .rename_i lc hlc;simp only[ah]at U;subst U;refine Y' hcon hinv hk (oa g2 hlc) λφ E h' w a hcb hops hrep=>?_
    have hp:XW φ E h' w a (Kz e h) o:=λx y L Z=>uo hrep (by rw[v8];exact hops) L Z
    have hxv:=hp x _ (callOps c A x (by simp[eY,h1])) g3;have hlv:=Qm hp args la (λx L=>callOps c A x (by simp[eY,h1,<-h2]at L ⊢;exact .inr L)) g1;generalize hz:a.eval x=z at hxv;cases hxv with
    |@clo _ _ vs hvl hvr=>
     refine ⟨args.map a.eval++vs,?_,hlv.append (ku.of hvl hvr)⟩;unfold execOp;rw[A];have hm:c.args.map a.eval=(args.map a.eval).toArray:=by rw[<- h2];apply Mi;simp
     simp[resolve,h1,hz,Deferred.ofValue,invoke,hm,xW hcb]
   .cases U
  .cases hk
 |op s=>
  have hc:s= .bad\/dE P o.op=M s:=by
   unfold zn at hc;split at hc
   .rename_i i hi;subst hc;unfold QX at hi;split at hi
    .split at hi<;>simp at hi
    .cases hi
   .split at hc
    .rename_i q hq;simp only[SI.op.injEq]at hc;subst hc;exact .inr hq
    .simp only[SI.op.injEq]at hc;exact .inl hc.symm
  rcases hc with rfl|hc
  .simp[eh]at hk
  .exact K_op hinv hi hc hk
def gr (am:Nat) (e e':jd):Prop:=∀k,aO am k=af->∀a,e'.get k=M a->∃v,e.get k=M v/\(uY v=J->a=v)
theorem gr.refl (am:Nat) (e:jd):gr am e e:=λ_ _ a h=>⟨a,h,λ_=>rfl⟩
theorem gr.trans {am:Nat} {a b c:jd} (h1:gr am a b) (h2:gr am b c):gr am a c:=λk hk z hv=>by
 obtain⟨s,Z,U⟩:=h2 k hk z hv;obtain⟨v,L,A⟩:=h1 k hk s Z;refine ⟨v,L,λhf=>?_⟩;have:=A hf;subst this;exact U hf
theorem gr.mono {am am':Nat} {a b:jd} (h:gr am a b) (hm:∀k,aO am k=J->aO am' k=J):gr am' a b:=λk hk=>h k (by
 cases s:aO am k with
 |false=>rfl
 |true=>rw[hm k s]at hk;cases hk)
structure afz (P:Program) (ops:Array Oper) (rest:List Oper) (sl:List tF) (am:Nat) (s s':TS) (fs:List FPm) (l:List (Oper×Cf)):Prop where
 ops_:l.map (·.1)=rest
 chain:AK P ops l (fV s.e s.h) (bz s.h) (fV s'.e s'.h) (bz s'.h)
 fsl:fs.length=l.length
 sll:sl.length=l.length
 fp:∀(j:Nat) o f q,l[j]? =M (o,f)->fs[j]? =M q->(∀n∈f.rd,aO q.rd (ow n)=J)/\∀n∈f.wr,aO q.wr (ow n)=J
 still:∀(j:Nat) o f so,l[j]? =M (o,f)->sl[j]? =M so->so.op.still=J->f.rd=[]/\f.wr=[]
 names:∀(j:Nat) o f,l[j]? =M (o,f)->∀n∈f.N,s.nx<=ow n/\ow n<s'.nx
 apart_:∀(i j:Nat) oi fi oj fj,i<j->l[i]? =M (oi,fi)->l[j]? =M (oj,fj)->∀n∈fi.N,n∉fj.N
 grows:s.nx<=s'.nx
 invH:mH s'.h s'.nx
 invE:ut s'.e s'.h
 keeps:gr am s.e s'.e
theorem ahk {e:jd} {h h':bk} (hi:ut e h) (hr:ch h h') (d:I Nat) {v:TV} {y:AV} (hv:cA h' v=M y):Dt (fV e h) d y=fV (Fh e d v) h':=by
 funext t;have old:(e.get t).bind (cA h)=(e.get t).bind (cA h'):=by
  cases ht:e.get t with
  |none=>rfl
  |some x=>
   obtain⟨z,a⟩:=pI h x (hi t x ht);simp only[aG,a,gC hr x z a]
 cases d with
 |none=>simp only[Dt,Fh,fV];rw[aw (by simp)];exact old
 |some d=>
  simp only[Dt,Fh,fV,PT.get_set,ah];by_cases hd:d=t
  .subst hd;simp[hv]
  .rw[aw hd,aw (λe=>hd e.symm)];exact old
theorem ut.put {e:jd} {h h':bk} (hi:ut e h) (hr:ch h h') (d:I Nat) {v:TV} (hv:Mx h' v=J):ut (Fh e d v) h':=λt x a=>by
 cases d with
 |none=>exact nC hr x (hi t x a)
 |some d=>
  simp only[Fh,PT.get_set]at a;split at a
  .cases a;exact hv
  .exact nC hr x (hi t x a)
theorem Tg {e:jd} {h:bk} {t:Nat} {v:TV} (ht:e.get t=M v):fV (e.set t (M v)) h=fV e h:=by
 funext k;simp only[fV,PT.get_set];by_cases hk:k=t
 .subst hk;simp[ht]
 .rw[aw hk]
theorem ut.set {e:jd} {h:bk} {t:Nat} {v:TV} (hi:ut e h) (ht:e.get t=M v):ut (e.set t (M v)) h:=λk x a=>by
 rw[PT.get_set]at a;split at a
 .rename_i hk;subst hk;cases a;exact hi _ _ ht
 .exact hi k x a
theorem Vi {R:Type} {e:jd} {g:I (Nat×Bool)} {K:Bool->jd->I R} {r:R} (h:acl e g K=M r):
 (g=D/\K J e=M r)\/(∃t want b,g=M (t,want)/\e.get t=M (.f .bool b)/\K (b==want) (e.set t (M (.f .bool b)))=M r)\/∃t want,g=M (t,want)/\e.get t=M .undef/\K af e=M r:=by
 unfold acl at h;split at h
 .exact .inl ⟨rfl,h⟩
 .rename_i t want;split at h
  .rename_i b hb;refine .inr (.inl ⟨t,want,b,rfl,hb,?_⟩);cases want with
   |true=>rcases qd h with ⟨rfl,h⟩|⟨rfl,h⟩<;>exact h
   |false=>rcases qd h with ⟨rfl,h⟩|⟨rfl,h⟩<;>exact h
  .rename_i hb;exact .inr (.inr ⟨t,want,rfl,hb,h⟩)
  .cases h
theorem Jy {R:Type} {P:Program} {con:FuncId->I co} (hcon:Mc P con) {b_:TypeId->I Ty} {ops:Array Oper} {am:Nat} (ham:∀(j:Nat) (o:Oper) (d:Nat),ops[j]? =M o->o.dst=M d->aO am d=J):
 ∀(rest:Y Oper) (sl:Y tF) (s:TS) (fs:Y FPm) (K:TS->Y FPm->I R) (r:R),(∀o∈rest,∃j:Nat,ops[j]? =M o)->sS P ops rest=M sl->Mu con b_ sl s fs K=M r->mH s.h s.nx->ut s.e s.h->∃s' fs' l,K s' (fs.reverse++fs')=M r/\afz P ops rest sl am s s' fs' l
 |[],sl,s,fs,K,r,hin,hc,hk,hH,A=>by
  simp only[sS,ah]at hc;subst hc;simp only[Mu]at hk;exact⟨s,[],[],by simpa using hk,rfl,.nil _ _,rfl,rfl,by simp,by simp,by simp,by simp,bT _,hH,A,gr.refl _ _⟩
 |o::rest,sl,s,fs,K,r,hin,hc,hk,hH,A=>by
  simp only[sS]at hc;split at hc
  .rename_i sl' hsl';have hso:∃g,sl=⟨o.dst,zn P o.op,g⟩::sl'/\((g=D/\o.guard=D)\/∃j want t,g=M (t,want)/\o.guard=M (j,want)/\(ops[j]?).bind (·.dst)=M t):=by
    split at hc
    .rename_i hg;simp only[ah]at hc;exact⟨D,hc.symm,.inl ⟨rfl,hg⟩⟩
    .rename_i j want hg;split at hc
     .rename_i t ht;simp only[ah]at hc;exact⟨M (t,want),hc.symm,.inr ⟨j,want,t,rfl,hg,ht⟩⟩
     .cases hc
   obtain⟨g,rfl,hg⟩:=hso;simp only[Mu]at hk;have hdst:∀d,o.dst=M d->aO am d=J:=λd hd=>by
    obtain⟨j,hj⟩:=hin o (c9 ..);exact ham j o d hj hd
   have hgs:∀t want,g=M (t,want)->aO am t=J:=λt want hgt=>by
    rcases hg with ⟨h1,_⟩|⟨j,want',t',h1,_,a⟩
    .rw[h1]at hgt;cases hgt
    .rw[h1]at hgt;cases hgt;cases hj:ops[j]? with
     |none=>rw[hj]at a;cases a
     |some oj=>rw[hj]at a;exact ham j oj t hj a
   have kput:∀(e:jd) (v:TV),gr am s.e e->gr am s.e (Fh e o.dst v):=λe v hke k hk v' hv=>by
    cases hd:o.dst with
    |none=>rw[hd]at hv;exact hke k hk v' hv
    |some d=>
     rw[hd]at hv;simp only[Fh,PT.get_set]at hv;split at hv
     .rename_i e2;rw[e2,hdst d hd]at hk;cases hk
     .exact hke k hk v' hv
   have done:∀(f:Cf) (v:TV) (h':bk) (nx' rd wr:Nat) (e:jd),fV e s.h=fV s.e s.h->ut e s.h->gr am s.e e->LZ P ops o f (fV s.e s.h) (bz s.h)->(∃y,cA h' v=M y/\f.val=y)->eZ (bz s.h) f.wr f.nw=bz h'->(∀n∈f.rd,aO rd (ow n)=J)->(∀n∈f.wr,aO wr (ow n)=J)->(∀n∈f.N,s.nx<=ow n/\ow n<nx')->ch s.h h'->mH h' nx'->s.nx<=nx'->((zn P o.op).still=J->f.rd=[]/\f.wr=[])->
    Mu con b_ sl' ⟨Fh e o.dst v,h',nx'⟩ (⟨rd,wr⟩::fs) K=M r->∃s' fs' l,K s' (fs.reverse++fs')=M r/\afz P ops (o::rest) (⟨o.dst,zn P o.op,g⟩::sl') am s s' fs' l:=by
    intro f v h' nx' rd wr e hee hiE hke hst hval hheap hrd hwr hN hrows hinv' hgr hstill hrun;obtain⟨y,U,hy2⟩:=hval;obtain⟨s',fs',l,z,L⟩:=Jy hcon ham rest sl' _ _ K r (λo' ho'=>hin o' (cC _ ho')) hsl' hrun hinv' (hiE.put hrows o.dst (FX _ _ _ U));have hg2:nx'<=s'.nx:=L.grows;refine ⟨s',⟨rd,wr⟩::fs',(o,f)::l,by simpa using z,by simp[L.ops_],.cons hst ?_,by simp[L.fsl],by simp[L.sll],?_,?_,?_,?_,dy hgr hg2,L.invH,L.invE,(kput e v hke).trans L.keeps⟩
    .have e1:Dt (fV s.e s.h) o.dst f.val=fV (Fh e o.dst v) h':=by rw[<- hee,hy2];exact ahk hiE hrows o.dst U
     rw[e1,hheap];exact L.chain
    .intro j o' f' q' h1 h2;cases j with
     |zero=>simp at h1 h2;obtain⟨rfl,rfl⟩:=h1;subst h2;exact⟨hrd,hwr⟩
     |succ j=>exact L.fp j o' f' q' (by simpa using h1) (by simpa using h2)
    .intro j o' f' so h1 h2 a;cases j with
     |zero=>simp at h1 h2;obtain⟨rfl,rfl⟩:=h1;subst h2;exact hstill a
     |succ j=>exact L.still j o' f' so (by simpa using h1) (by simpa using h2) a
    .intro j o' f' h1 n hn;cases j with
     |zero=>
      simp at h1;obtain⟨rfl,rfl⟩:=h1;have:=hN n hn;exact⟨this.1,by omega⟩
     |succ j=>
      have:=L.names j o' f' (by simpa using h1) n hn;exact⟨dy hgr this.1,this.2⟩
    .intro i j oi fi oj fj hij h1 h2 n hn Z;cases j with
     |zero=>omega
     |succ j=>
      have hj:=L.names j oj fj (by simpa using h2) n Z;cases i with
      |zero=>
       simp at h1;obtain⟨rfl,rfl⟩:=h1;have a:=(hN n hn).2;have h4:nx'<=ow n:=hj.1;omega
      |succ i=>exact L.apart_ i j oi fi oj fj (by omega) (by simpa using h1) (by simpa using h2) n hn Z
   have runs:∀(e:jd),fV e s.h=fV s.e s.h->ut e s.h->gr am s.e e->(∀f,gZ P o (fV s.e s.h) (bz s.h) f->LZ P ops o f (fV s.e s.h) (bz s.h))->eh con b_ (zn P o.op) e s.h s.nx (λv rd wr h nx=>if Mx h v then Mu con b_ sl' ⟨Fh e o.dst v,h,nx⟩ (⟨rd,wr⟩::fs) K else D)=M r->∃s' fs' l,K s' (fs.reverse++fs')=M r/\afz P ops (o::rest) (⟨o.dst,zn P o.op,g⟩::sl') am s s' fs' l:=by
    intro e hee hiE hke hstep hk;obtain⟨v,rd,wr,h',nx',z,T⟩:=alw hcon hH hiE rfl hk;simp only[]at z;split at z
    .rename_i hok;obtain⟨f,t1,t2,t3,t4,t5,t6⟩:=T.ex;rw[hee]at t1;obtain⟨y,hy⟩:=pI h' v hok;refine done f v h' nx' rd wr e hee hiE hke (hstep f t1) ⟨y,hy,t2 y hy⟩ t3 t4 t5 t6 T.rows T.inv T.grows (λhs=>?_) z;obtain⟨r0,w0⟩:=T.st hs;subst r0;subst w0;constructor
     .cases hl:f.rd with
      |nil=>rfl
      |cons n q=>have:=t4 n (by rw[hl];simp);simp at this
     .cases hl:f.wr with
      |nil=>rfl
      |cons n q=>have:=t5 n (by rw[hl];simp);simp at this
    .cases z
   have skips:∀(e:jd),fV e s.h=fV s.e s.h->ut e s.h->gr am s.e e->LZ P ops o sH (fV s.e s.h) (bz s.h)->Mu con b_ sl' ⟨Fh e o.dst .undef,s.h,s.nx⟩ (⟨0,0⟩::fs) K=M r->∃s' fs' l,K s' (fs.reverse++fs')=M r/\afz P ops (o::rest) (⟨o.dst,zn P o.op,g⟩::sl') am s s' fs' l:=by
    intro e hee hiE hke hstep hk;exact done sH .undef s.h s.nx 0 0 e hee hiE hke hstep ⟨_,rfl,rfl⟩ (by funext i;simp[eZ,sH]) (by simp[sH]) (by simp[sH]) (by simp[sH]) (ch.refl _) hH (bT _) (λ_=>⟨rfl,rfl⟩) hk
   rcases Vi hk with ⟨h1,hk⟩|⟨t,want,b,h1,hb,hk⟩|⟨t,want,h1,hb,hk⟩
   .refine runs s.e rfl A (gr.refl _ _) (λf hf=>?_) hk;rcases hg with ⟨_,hg⟩|⟨j,want,t,h2,_,_⟩
    .exact .run hg hf
    .rw[h1]at h2;cases h2
   .rcases hg with ⟨h2,_⟩|⟨j,want',t',h2,a,h4⟩
    .rw[h1]at h2;cases h2
    .rw[h1]at h2;cases h2;have hgt:=hgs t want h1;have heb:fV s.e s.h t=M (.f (.raw (.bool b))):=by simp only[fV,hb,aG,cA];rfl
     have hke:gr am s.e (s.e.set t (M (.f .bool b))):=λk hk v' hv=>by
      rw[PT.get_set]at hv;split at hv
      .rename_i ek;rw[ek,hgt]at hk;cases hk
      .exact⟨v',hv,λ_=>rfl⟩
     cases hbw:(b==want) with
     |true=>
      rw[hbw]at hk;have:b=want:=by simpa using hbw
      subst this;exact runs _ (Tg hb) (A.set hb) hke (λf hf=>.runG j t b a h4 heb hf) hk
     |false=>
      rw[hbw]at hk;refine skips _ (Tg hb) (A.set hb) hke (.skip j t want a h4 (.bool b) heb ?_ rfl) hk;intro hv;cases hv;simp at hbw
   .rcases hg with ⟨h2,_⟩|⟨j,want',t',h2,a,h4⟩
    .rw[h1]at h2;cases h2
    .rw[h1]at h2;cases h2;exact skips _ rfl A (gr.refl _ _) (.skip j t want a h4 undef (by simp only[fV,hb,aG,cA]) (by unfold undef;simp) rfl) hk
  .cases hc
theorem aht {P:Program} {ops:Array Oper} {sl:Y tF} {am:Nat} {s s':TS} {fs:Y FPm} {l:Y (Oper×Cf)} {prs:Y (Nat×Nat)} (hl:afz P ops ops.toList sl am s s' fs l) (hp:NT ops sl=M prs) (hok:GD fs prs=J):NIP ops l:=by
 unfold NT at hp;simp only[]at hp;split at hp
 .rename_i hall;simp only[gI,lU,al]at hall;simp only[ah]at hp;have hop:∀(j:Nat) o f,l[j]? =M (o,f)->ops[j]? =M o:=λj o f hj=>by
   have h1:(l.map (·.1))[j]? =M o:=by rw[bd,hj];rfl
   rw[hl.ops_]at h1;simpa using h1
  have hsize:∀(j:Nat) o,ops[j]? =M o->j<ops.size:=λj o h=>(cH.1 h).1
  have hprs:∀i j,(i,j)∈prs->∃a b,fs[i]? =M a/\fs[j]? =M b/\Ey a.wr b.rd=J/\Ey a.wr b.wr=J/\Ey b.wr a.rd=J:=by
   clear hp hall;induction prs with
   |nil=>intro i j h;cases h
   |cons p prs ih=>
    obtain⟨i0,j0⟩:=p;simp only[GD,al,YQ]at hok;intro i j hm;rcases bm.1 hm with h|h
    .cases h;have h1:=hok.1;split at h1
     .rename_i a b ha hb;simp only[al]at h1;exact⟨a,b,ha,hb,h1.1.1,h1.1.2,h1.2⟩
     .cases h1
    .exact ih hok.2 i j h
  refine ⟨λj o ho e he hb=>?_,λi j oi fi oj fj hij hi hj=>?_,hl.apart_⟩
  .have:=(hall j (hsize j o ho)).1;rw[ho]at this;simp only[Option.all_some,gI]at this;have:=this e (by simpa using he);simp[hb]at this;exact this
  .have h1:=hop i oi fi hi;have h2:=hop j oj fj hj;have hcase:=(hall j (hsize j oj h2)).2 i hij;rw[h1,h2]at hcase;simp only[ji]at hcase;by_cases L:aO ((LP ops.toList []).getD j 0) i=J
   .left;rw[av]at L;cases z:(LP ops.toList [])[j]? with
    |none=>rw[z]at L;simp at L
    |some B=>
     rw[z]at L;exact OU (ops:=ops) ops.toList [] (λj o hj=>by simpa using hj) (λj B hj=>by simp at hj) j B z i (by simpa using L)
   .right;have hap:=hcase.resolve_left L;refine ⟨hap,?_⟩;have hil:i<l.length:=(bn.1 hi).1;have hjl:j<l.length:=(bn.1 hj).1;have hsi:=ay (show i<sl.length by rw[hl.sll];exact hil);have hsj:=ay (show j<sl.length by rw[hl.sll];exact hjl);by_cases hst:(sl[i]'(by rw[hl.sll];exact hil)).op.still=J
    .obtain⟨Z,U⟩:=hl.still i oi fi _ hi hsi hst;rw[Z,U];exact⟨(λx z=>by cases z),(λx _ z=>by cases z)⟩
    .by_cases hst2:(sl[j]'(by rw[hl.sll];exact hjl)).op.still=J
     .obtain⟨Z,U⟩:=hl.still j oj fj _ hj hsj hst2;rw[Z,U];exact⟨(λx z=>⟨(by simp),(by simp)⟩),(λx z=>by cases z)⟩
     .have hmem:(i,j)∈prs:=by
       rw[<- hp,vM];refine ⟨j,lU.2 (hsize j oj h2),?_⟩;rw[List.mem_filterMap];refine ⟨i,lU.2 hij,?_⟩;rw[aw];rw[hsi,hsj];simp only[ji,not_or];exact⟨L,hst,hst2⟩
      obtain⟨a,b,ha,hb,d1,d2,d3⟩:=hprs i j hmem;obtain⟨f1,f2⟩:=hl.fp i oi fi a hi ha;obtain⟨g1,g2⟩:=hl.fp j oj fj b hj hb;refine ⟨λx z=>⟨λA=>?_,λA=>?_⟩,λx z A=>?_⟩
      .have:=yE d1 (ow x) (f2 x z);rw[g1 x A]at this;cases this
      .have:=yE d2 (ow x) (f2 x z);rw[g2 x A]at this;cases this
      .have:=yE d3 (ow x) (g2 x z);rw[f1 x A]at this;cases this
 .cases hp
structure pn (P:Program) (E:Nat->Prop) (nt np:Nat) (φ:PM) (s:TS) (a:Act) (w:World):Prop where
 rep:rL φ E (bz s.h) w
 env:O1 φ (tot E φ (bz s.h)) w (fV s.e s.h) a
 dom:∀n k,φ n=M k->ow n<s.nx
 low:np<=s.nx
 invH:mH s.h s.nx
 invE:ut s.e s.h
 inert:∀d∈a.defers,agh P d
 size:a.tmps.size=nt
structure C3 (np:Nat) (φ φ':PM) (H H':HF) (w w':World):Prop where
 ext:Ja (own φ H) w w'
 own_:∀k,k<w.heap.size->own φ' H' k->own φ H k
 par:∀i,i<np->φ' (nm i)=φ (nm i)
theorem C3.refl (np:Nat) (φ:PM) (H:HF) (w:World):C3 np φ φ H H w w:=⟨Ja.refl _ _,λ_ _ h=>h,λ_ _=>rfl⟩
theorem C3.trans {np:Nat} {φ φ' φ'':PM} {H H' H'':HF} {w w' w'':World} (a:C3 np φ φ' H H' w w') (b:C3 np φ' φ'' H' H'' w' w''):C3 np φ φ'' H H'' w w'' where
 ext:=⟨b.ext.os.trans a.ext.os,b.ext.tape.trans a.ext.tape,b.ext.output.trans a.ext.output,dy a.ext.size b.ext.size,
  λk hk s=>(b.ext.blk k (dK hk a.ext.size) (λh=>s (a.own_ k hk h))).trans (a.ext.blk k hk s),
  λk hk=>(b.ext.shp k (dK hk a.ext.size)).trans (a.ext.shp k hk)⟩
 own_:=λk hk h=>a.own_ k hk (b.own_ k (dK hk a.ext.size) h)
 par:=λi hi=>(b.par i hi).trans (a.par i hi)
theorem ad3 {R:Type} {P:Program} {E:Nat->Prop} {nt np:Nat} {φ:PM} {s:TS} {a:Act} {w:World} {con:FuncId->I co} {b_:TypeId->I Ty} (hm:P.follows .mixedOrders=J) (hcon:Mc P con) (c:pn P E nt np φ s a w) {id:Nat} {ops:Array Oper} {draw:Bool} {sl:Y tF} {prs:Y (Nat×Nat)} {am:Nat} (ham:∀(j:Nat) (o:Oper) (d:Nat),ops[j]? =M o->o.dst=M d->aO am d=J)
 (hd:(ops.toList.all λo=>match o.dst with|some d=>decide (d<nt)|none=>J)=J) (hc:sS P ops ops.toList=M sl) (hp:NT ops sl=M prs) {K:TS->I R} {r:R} (hr:Mu con b_ sl s [] (λs' fs=>if GD fs prs then K s' else D)=M r) {Q:Exit->Act->World->Prop}
 (hQ:∀a' w' s' φ',K s'=M r->pn P E nt np φ' s' a' w'->C3 np φ φ' (bz s.h) (bz s'.h) w w'->gr am s.e s'.e->Q .normal a' w'):(Code.region id ops draw).wp P Q a w:=by
 obtain⟨s',fs',l,A,L⟩:=Jy hcon ham ops.toList sl s [] _ r (λo Z=>by
  obtain⟨j,hj⟩:=fw Z;exact⟨j,by simpa using hj⟩) hc hr c.invH c.invE
 have A:(if GD fs' prs then K s' else D)=M r:=A;by_cases hok:GD fs' prs=J
 .rw[aC hok]at A;refine RM (φ0:=φ) (E:=E) hm L.ops_ L.chain (aht L hp hok) ?_ ?_ c.rep c.env ?_
  .intro n hn;obtain⟨p,z,hn⟩:=vM.1 hn;obtain⟨j,hj⟩:=fw z;have:=L.names j p.1 p.2 hj n hn;cases U:φ n with
   |none=>rfl
   |some k=>have:=c.dom n k U;omega
  .intro j o Z d hd';have:=gI.1 hd o (by have:=Array.mem_of_getElem? Z;simpa using this);rw[hd']at this;rw[c.size];simpa using this
  .rintro a' w' ⟨φ',m',d',r',en',df',sz'⟩;have hnm:∀n k,φ' n=M k->φ n=M k\/(s.nx<=ow n/\ow n<s'.nx):=λn k hik=>by
    rcases d' n k hik with h|h
    .exact .inl h
    .obtain⟨p,z,hn⟩:=vM.1 h;obtain⟨j,hj⟩:=fw z;exact .inr (L.names j p.1 p.2 hj n hn)
   have hg:=L.grows;have hlow:=c.low;refine hQ a' w' s' φ' A ⟨r',en',λn k hik=>?_,by omega,L.invH,L.invE,by rw[df'];exact c.inert,by rw[sz'];exact c.size⟩ ⟨m'.ext,m'.own_,λi hi=>?_⟩ L.keeps
   .rcases hnm n k hik with h|h
    .have:=c.dom n k h;omega
    .exact h.2
   .cases U:φ (nm i) with
    |some k=>exact m'.sub _ _ U
    |none=>
     cases hy:φ' (nm i) with
     |none=>rfl
     |some k=>
      rcases hnm (nm i) k hy with h|h
      .rw[U]at h;cases h
      .rw[d_]at h;omega
 .rw[aw hok]at A;cases A
theorem AG:∀(l:Y tF) (acc:Nat),Q0 l acc=acc|||Q0 l 0
 |[],acc=>by simp[Q0]
 |o::r,acc=>by
  simp only[Q0];cases o.dst with
  |none=>exact AG r acc
  |some d=>simp only[];rw[AG r (acc|||kQ d),AG r (0|||kQ d),zq,li]
theorem AZ:∀(l:ι) (acc:Nat),MA l acc=acc|||MA l 0
 |[],acc=>by simp[MA]
 |k::r,acc=>by simp only[MA];rw[AZ r (acc|||kQ k),AZ r (0|||kQ k),zq,li]
theorem lM:∀(l:Y Adj) (acc:Nat),mU l acc=acc|||mU l 0
 |[],acc=>by simp[mU]
 |.nil k _ _::r,acc=>by simp only[mU];rw[lM r (acc|||kQ k),lM r (0|||kQ k),zq,li]
 |.cel _ _ _ _::r,acc=>by simp only[mU];exact lM r acc
 |.mpt _ _ _::r,acc=>by simp only[mU];exact lM r acc
 |.mz _ _::r,acc=>by simp only[mU];exact lM r acc
 |.ren k _::r,acc=>by simp only[mU];rw[lM r (acc|||kQ k),lM r (0|||kQ k),zq,li]
 |.pk _ _ _::r,acc=>by simp only[mU];exact lM r acc
theorem iR:∀(c:TC) (acc:Nat),c.asg acc=acc|||c.asg 0
 |.reg ops _,acc=>AG ops acc
 |.seq a b,acc=>by simp only[TC.asg];rw[iR b (a.asg acc),iR b (a.asg 0),iR a acc,li]
 |.jseq A a b,acc=>by simp only[TC.asg];rw[iR b (a.asg _),iR b (a.asg (MA A.ks 0)),iR a (MA A.ks acc),iR a (MA A.ks 0),AZ A.ks acc,li,li,li]
 |.cond _ a b,acc=>by simp only[TC.asg];rw[iR b (a.asg acc),iR b (a.asg 0),iR a acc,li]
 |.block _ b,acc=>iR b acc
 |.jblock A _ b,acc=>by simp only[TC.asg];rw[iR b (MA A.ks acc),iR b (MA A.ks 0),AZ A.ks acc,li]
 |.loop A b,acc=>by simp only[TC.asg];rw[iR b (MA A.ks acc),iR b (MA A.ks 0),AZ A.ks acc,li]
 |.defer _ _ t,acc=>by simp[TC.asg]
 |.adj l c,acc=>by simp only[TC.asg];rw[iR c (mU l acc),iR c (mU l 0),lM l acc,li]
 |.split _ _ _ _ c,acc=>iR c acc
 |.unl _ b,acc=>iR b acc
 |.skip,acc=>by simp[TC.asg]
 |.exit _,acc=>by simp[TC.asg]
 |.ret,acc=>by simp[TC.asg]
 |.bad,acc=>by simp[TC.asg]
theorem wn {c:TC} {acc k:Nat} (h:aO (c.asg 0) k=J):aO (c.asg acc) k=J:=by rw[iR,bu,h];simp
theorem kO {c:TC} {acc k:Nat} (h:aO acc k=J):aO (c.asg acc) k=J:=by rw[iR,bu,h];rfl
theorem YG:∀{l:ι} {acc k:Nat},k∈l->aO (MA l acc) k=J
 |[],_,_,h=>by cases h
 |x::r,acc,k,h=>by
  simp only[MA];rcases bm.1 h with rfl|h
  .rw[AZ,bu,bu,b9.2 rfl];simp
  .exact YG h
theorem Uz:∀{l:Y tF} {acc:Nat} {o:tF} {d:Nat},o∈l->o.dst=M d->aO (Q0 l acc) d=J
 |[],_,_,_,h,_=>by cases h
 |x::r,acc,o,d,h,hd=>by
  simp only[Q0];rcases bm.1 h with rfl|h
  .rw[hd];simp only[];rw[AG,bu,bu,b9.2 rfl];simp
  .exact Uz h hd
theorem YO:∀{e:jd} {ks:ι} {vs:Y TV},oG e ks=M vs->vs.length=ks.length/\∀(j k:Nat),ks[j]? =M k->∃v,vs[j]? =M v/\e.get k=M v
 |e,[],vs,h=>by simp only[oG,ah]at h;subst h;exact⟨rfl,by simp⟩
 |e,k::r,vs,h=>by
  simp only[oG]at h;split at h
  .rename_i v hv;split at h
   .rename_i l hl;simp only[ah]at h;subst h;obtain⟨h1,h2⟩:=YO hl;refine ⟨by simp[h1],λj k' hj=>?_⟩;cases j with
    |zero=>simp at hj;subst hj;exact⟨v,rfl,hv⟩
    |succ j=>simpa using h2 j k' (by simpa using hj)
   .cases h
  .cases h
theorem JB {e:jd} {h:bk} (hi:ut e h):∀{ks:ι} {vs:Y TV},oG e ks=M vs->lz h vs=J
 |[],vs,hg=>by simp only[oG,ah]at hg;subst hg;rfl
 |k::r,vs,hg=>by
  simp only[oG]at hg;split at hg
  .rename_i v hv;split at hg
   .rename_i l hl;simp only[ah]at hg;subst hg;simp only[lz,al];exact⟨hi k v hv,JB hi hl⟩
   .cases hg
  .cases hg
theorem Dl:∀{e:jd} {ks:ι} {vs:Y TV},vs.length=ks.length->∀t v,(Zy e ks vs).get t=M v->(∃j:Nat,ks[j]? =M t/\vs[j]? =M v)\/(t∉ks/\e.get t=M v)
 |e,[],[],_,t,v,h=>.inr ⟨by simp,h⟩
 |e,[],_::_,hl,t,v,h=>by simp at hl
 |e,_::_,[],hl,t,v,h=>by simp at hl
 |e,k::r,u::l,hl,t,v,h=>by
  simp only[Zy,PT.get_set]at h;split at h
  .rename_i a;subst a;cases h;exact .inl ⟨0,rfl,rfl⟩
  .rename_i a;rcases Dl (by simpa using hl) t v h with ⟨j,h1,h2⟩|⟨h1,h2⟩
   .exact .inl ⟨j+1,by simpa using h1,by simpa using h2⟩
   .exact .inr ⟨by simp[a,h1],h2⟩
theorem uy {am:Nat} {e:jd}:∀{ks:ι} {k:Nat} {v:TV},(DJ am e ks).get k=M v->k∈ks/\e.get k=M v/\uY v=J/\aO am k=af
 |[],k,v,h=>by simp[DJ,PT.get]at h
 |x::r,k,v,h=>by
  simp only[DJ]at h;split at h
  .rename_i u hu;split at h
   .rename_i hc;simp only[al,db]at hc;rw[PT.get_set]at h;split at h
    .rename_i a;subst a;cases h;exact⟨by simp,hu,hc.1,hc.2⟩
    .obtain⟨h1,h2⟩:=uy h;exact⟨by simp[h1],h2⟩
   .obtain⟨h1,h2⟩:=uy h;exact⟨by simp[h1],h2⟩
  .obtain⟨h1,h2⟩:=uy h;exact⟨by simp[h1],h2⟩
theorem JV {am:Nat} {e0 e:jd}:∀{ks:ι},IR am e0 e ks=J->∀k v,k∈ks->e0.get k=M v->uY v=J->aO am k=af->∃s,e.get k=M s
 |[],_,k,v,h,_,_,_=>by cases h
 |x::r,hc,k,v,h,hv,hf,a=>by
  simp only[IR,al]at hc;rcases bm.1 h with rfl|h
  .have h1:=hc.1;rw[hv]at h1;simp only[hf,a,Bool.not_true,Bool.false_or]at h1;cases z:e.get k with
   |none=>rw[z]at h1;cases h1
   |some u=>exact⟨u,rfl⟩
  .exact JV hc.2 k v h hv hf a
section walk
variable {P:Program} {E:Nat->Prop} {nt np:Nat}
theorem Te {h:bk} {v:TV} {y:AV} (hn:ai0 v=J) (a:cA h v=M y):Le y .emp:=by
 cases v with
 |nil=>simp only[cA,ah]at a;subst a;exact Le.nilEmp
 |emp=>simp only[cA,ah]at a;subst a;exact Le.refl _
 |_=>cases hn
theorem Zj {φ:PM} {s:TS} {a:Act} {w:World} (c:pn P E nt np φ s a w) (ty:TypeId) (T:Ty):pn P E nt np φ ⟨s.e,s.h.set s.nx (M (.rows ty J T [])),s.nx+1⟩ a w/\bz (s.h.set s.nx (M (.rows ty J T [])))=bz s.h/\ch s.h (s.h.set s.nx (M (.rows ty J T []))):=by
 have hfr:=c.invH.fresh;have hr:ch s.h (s.h.set s.nx (M (.rows ty J T []))):=ch.set λr hr=>by rw[bV,hfr]at hr;cases hr
 have L:bz (s.h.set s.nx (M (.rows ty J T [])))=bz s.h:=by
  funext n;by_cases hn:n=nm s.nx
  .subst hn;rw[bH,bH,PT.get_set,aC rfl,hfr];rfl
  .refine kN c.invH hr λi e=>?_
   subst e;rw[PT.get_set,aw (λe=>hn (by rw[e]))]
 refine ⟨⟨by rw[L];exact c.rep,?_,λn k hk=>AO (c.dom n k hk),iN c.low,c.invH.set hr (rE _) (Nat.le_succ _) (λ_ _ he=>by cases he),?_,c.inert,c.size⟩,L,hr⟩
 .intro t x A;rw[L];simp only[fV]at A;cases he:s.e.get t with
  |none=>rw[he]at A;cases A
  |some q=>
   rw[he]at A;obtain⟨z,U⟩:=pI s.h q (c.invE t q he);simp only[aG,gC hr q z U,ah]at A;subst A;exact c.env t _ (by simp only[fV,he,aG,U])
 .intro t x A;exact nC hr x (c.invE t x A)
theorem zS {h:bk}:∀{a b:Y TV},lz h a=J->lz h b=J->lz h (a++b)=J
 |[],_,_,hb=>hb
 |x::r,b,s,hb=>by
  simp only[lz,al]at s;simp only[fR,lz,al];exact⟨s.1,zS s.2 hb⟩
theorem NU {h:bk}:∀{a:Y TV} (n:Nat),lz h a=J->lz h (a.take n)=J
 |[],n,_=>by simp[lz]
 |x::r,0,_=>rfl
 |x::r,n+1,s=>by
  simp only[lz,al]at s;simp only[wL,lz,al];exact⟨s.1,NU n s.2⟩
theorem NX {h:bk}:∀{a:Y TV} (n:Nat),lz h a=J->lz h (a.drop n)=J
 |[],n,_=>by simp[lz]
 |x::r,0,s=>s
 |x::r,n+1,s=>by
  simp only[lz,al]at s;simp only[wO];exact NX n s.2
theorem zK {α:Type} {l:Y α} {j:Nat} {x:α} (h:l[j]? =M x):splice l j [x]=l:=by
 have hl:j<l.length:=by
  rcases ci j l.length with h'|h'
  .exact h'
  .rw[bF h']at h;cases h
 rw[ay hl,ah]at h;unfold splice;subst h;simp
theorem afp {φ:PM} {s:TS} {a:Act} {w:World} (c:pn P E nt np φ s a w) {id j:Nat} {cty:I TypeId} {l:Y TV} {v u:TV} (hb:s.h.get id=M (.cells cty l)) (hv:l[j]? =M v) (hn:ai0 v=J) (hu:cA s.h u=M .emp) (huo:Mx s.h u=J):
 pn P E nt np φ ⟨s.e,s.h.set id (M (.cells cty (splice l j [u]))),s.nx⟩ a w/\C3 np φ φ (bz s.h) (bz (s.h.set id (M (.cells cty (splice l j [u]))))) w w:=by
 have hr:ch s.h (s.h.set id (M (.cells cty (splice l j [u])))):=ch.set λr hr=>by rw[bV,hb]at hr;cases hr
 have hlo:=c.invH.cells id _ l hb;obtain⟨L,U⟩:=fx s.h l hlo;have hsp:cP s.h (splice l j [u])=M (splice L j [.emp]):=qy j U (by simp only[cP,hu]);have hsp':cP (s.h.set id (M (.cells cty (splice l j [u])))) (splice l j [u])=M (splice L j [.emp]):=gy hr _ _ hsp;obtain⟨y,hy,hey⟩:=lK U j v hv;have hold:bz s.h (nm id)=M (Y9 cty L):=by rw[bH,hb];cases cty<;>(simp only[aG,jN,U];rfl)
 have hnew:bz (s.h.set id (M (.cells cty (splice l j [u])))) (nm id)=M (Y9 cty (splice L j [.emp])):=by
  rw[bH,PT.get_set,aC rfl];cases cty<;>(simp only[aG,jN,hsp'];rfl)
 have hoth:∀n,n≠nm id->bz (s.h.set id (M (.cells cty (splice l j [u])))) n=bz s.h n:=λn hn'=>by
  refine kN c.invH hr λi e=>?_
  subst e;rw[PT.get_set,aw (λe=>hn' (by rw[e]))]
 have hdom:vK (bz s.h) (bz (s.h.set id (M (.cells cty (splice l j [u]))))):=λn b Z=>by
  by_cases e:n=nm id
  .subst e;exact⟨_,hold⟩
  .rw[hoth n e]at Z;exact⟨b,Z⟩
 have hcell:∀ty,cty=M ty->∀x∈L,x.isCell=J:=λty hty x A=>by
  subst hty;obtain⟨k,hk⟩:=fw A;obtain⟨q,_,_,hat⟩:=c.rep.at_ _ _ hold;unfold Zs at hat;obtain⟨ob,_,hob⟩:=hat;rw[show Y9 (M ty) L=⟨ty,.mx L⟩ from rfl,qj rfl]at hob;obtain⟨arr,_,hca⟩:=hob;exact (hca.2 k x hk).1
 have hV:Is (bz s.h) (bz (s.h.set id (M (.cells cty (splice l j [u]))))):=⟨hdom,λn b b' h1 h2=>by
  by_cases e:n=nm id
  .subst e;rw[hold]at h1;cases h1;rw[hnew]at h2;cases h2;have hle:il (bz s.h) (bz (s.h.set id (M (.cells cty (splice l j [u]))))) L (splice L j [.emp]):=by
    have:=il.splice j (il.refl hdom L) (b:=[y]) (b':=[.emp]) ⟨(Te hn hey).toH hdom,trivial⟩;rw[zK hy]at this;exact this
   cases cty with
   |none=>exact iS.told hle
   |some ty=>
    refine iS.cells rfl rfl hle λx A=>?_
    have A:x∈splice L j [.emp]:=A;unfold splice at A;rw[bG,bG,aI]at A;rcases A with (A|A)|A
    .exact hcell ty rfl x (gh A)
    .subst A;rfl
    .exact hcell ty rfl x (List.mem_of_mem_drop A)
  .rw[hoth n e,h1]at h2;cases h2;exact iS.refl hdom b⟩
 refine ⟨⟨hV.rep c.rep,?_,c.dom,c.low,c.invH.set hr (c.invH.low id _ hb) (bT _) (λty l2 he=>?_),?_,c.inert,c.size⟩,⟨Ja.refl _ _,λk _ ho=>hdom.own ho,λ_ _=>rfl⟩⟩
 .intro t x A;simp only[fV]at A;cases he:s.e.get t with
  |none=>rw[he]at A;cases A
  |some q=>
   rw[he]at A;obtain⟨z,hz⟩:=pI s.h q (c.invE t q he);simp only[aG,gC hr q z hz,ah]at A;subst A;exact (c.env t _ (by simp only[fV,he,aG,hz])).dom hdom
 .simp only[iB.cells.injEq]at he;obtain⟨_,rfl⟩:=he;refine jm hr _ ?_;unfold splice;exact zS (zS (NU _ hlo) (by simp only[lz,huo,jO])) (NX _ hlo)
 .intro t x A;exact nC hr x (c.invE t x A)
theorem pn.congr {φ:PM} {s s':TS} {a:Act} {w:World} (c:pn P E nt np φ s a w) (he:∀t,s'.e.get t=s.e.get t) (hh:∀i,s'.h.get i=s.h.get i) (hn:s'.nx=s.nx):pn P E nt np φ s' a w/\bz s'.h=bz s.h:=by
 have hr:ch s.h s'.h:=λi r hi=>by rw[bV]at hi ⊢;rw[hh];exact hi
 have L:bz s'.h=bz s.h:=by funext n;exact kN c.invH hr λi _=>hh i
 refine ⟨⟨by rw[L];exact c.rep,?_,by rw[hn];exact c.dom,by rw[hn];exact c.low,⟨λi ty l hg=>?_,λi b hg=>?_⟩,λt v hv=>?_,c.inert,c.size⟩,L⟩
 .intro t x A;rw[L];simp only[fV,he]at A;cases hg:s.e.get t with
  |none=>rw[hg]at A;cases A
  |some v=>
   rw[hg]at A;obtain⟨z,U⟩:=pI s.h v (c.invE t v hg);simp only[aG,gC hr v z U,ah]at A;subst A;exact c.env t _ (by simp only[fV,hg,aG,U])
 .rw[hh]at hg;exact jm hr l (c.invH.cells i _ l hg)
 .rw[hh]at hg;rw[hn];exact c.invH.low i b hg
 .rw[he]at hv;exact nC hr v (c.invE t v hv)
theorem RC {R:Type} {v:Int} {f:Nat->I R} {r:R}:∀{m i:Nat},spl v f i m=M r->∃j,v=aM j/\f j=M r
 |0,i,h=>by cases h
 |m+1,i,h=>by
  simp only[spl]at h;rcases qd h with ⟨h1,h2⟩|⟨_,h2⟩
  .exact⟨i,ba h1,h2⟩
  .exact RC h2
theorem acz {φ:PM} {s s':TS} {a:Act} {w:World} (c:pn P E nt np φ s a w) {k off:Nat} {kd:IntKind} {v:Int} (h1:ae3 s k off=M (kd,v)) (h2:Vv s k off kd v=M s'):pn P E nt np φ s' a w/\bz s'.h=bz s.h/\∀t,s'.e.get t=s.e.get t:=by
 unfold ae3 at h1;unfold Vv at h2;cases hk:s.e.get k with
 |none=>rw[hk]at h1;cases h1
 |some x=>
  rw[hk]at h1 h2;cases x with
  |f T q=>
   cases T with
   |int kd'=>
    simp only[ah,aE]at h1;obtain⟨rfl,rfl⟩:=h1;simp only[ah]at h2;subst h2;have he:∀t,(s.e.set k (M (.f (.int kd') q))).get t=s.e.get t:=λt=>by
     rw[PT.get_set];split
     .rename_i e;subst e;exact hk.symm
     .rfl
    obtain⟨A,z⟩:=c.congr (s':=⟨s.e.set k (M (.f (.int kd') q)),s.h,s.nx⟩) he (λ_=>rfl) rfl;exact⟨A,z,he⟩
   |_=>cases h1
  |ptr a0 o0=>
   simp only[]at h1 h2;cases hb:s.h.get a0 with
   |none=>rw[hb]at h1;cases h1
   |some b=>
    rw[hb]at h1 h2;cases b with
    |cells ty l=>
     cases ty with
     |none=>cases h1
     |some ty=>
     simp only[]at h1 h2;cases hl:l[o0+off]? with
     |none=>rw[hl]at h1;cases h1
     |some y=>
      rw[hl]at h1;cases y with
      |f T q=>
       cases T with
       |int kd'=>
        simp only[ah,aE]at h1;obtain⟨rfl,rfl⟩:=h1;simp only[ah]at h2;subst h2;have hh:∀i,(s.h.set a0 (M (.cells (M ty) (splice l (o0+off) [.f (.int kd') q])))).get i=s.h.get i:=λi=>by
         rw[PT.get_set];split
         .rename_i e;subst e;rw[hb,zK hl]
         .rfl
        obtain⟨A,z⟩:=c.congr (s':=⟨s.e,s.h.set a0 (M (.cells (M ty) (splice l (o0+off) [.f (.int kd') q]))),s.nx⟩) (λ_=>rfl) hh rfl;exact⟨A,z,λ_=>rfl⟩
       |_=>cases h1
      |_=>cases h1
    |_=>cases h1
  |_=>cases h1
mutual
theorem NJ (id sz n:Nat):∀v:TV,uY v=J->Mp id sz n v=v
 |.f _ _,_=>rfl
 |.fel _ _ _ _ _,_=>rfl
 |.emp,_=>rfl
 |.nil,_=>rfl
 |.undef,_=>rfl
 |.np,_=>rfl
 |.anyb,_=>rfl
 |.agg l,h=>by simp only[Mp];rw[Cn id sz n l h]
 |.tup l,h=>by simp only[Mp];rw[Cn id sz n l h]
 |.pel _ _ _ _,h=>by cases h
 |.ptr _ _,h=>by cases h
 |.csl _ _ _,h=>by cases h
 |.row _,h=>by cases h
 |.rtl _ _,h=>by cases h
 |.mp _,h=>by cases h
 |.clo _ _,h=>by cases h
theorem Cn (id sz n:Nat):∀l:Y TV,rf l=J->Di id sz n l=l
 |[],_=>rfl
 |x::r,h=>by
  simp only[rf,al]at h;simp only[Di];rw[NJ id sz n x h.1,Cn id sz n r h.2]
end
section subs
variable {id sz n:Nat} {h h':bk}
mutual
theorem Ph (hr:ch h h') (hid:eM h' id=M (af,sz,n)):∀(v:TV) (y:AV),cA h v=M y->cA h' (Mp id sz n v)=M y
 |.csl i s m,y,he=>by
  simp only[cA,ah]at he;subst he;simp only[Mp];split
  .rename_i hq;simp only[al]at hq;have e1:=ar hq.1.1;have e2:=ar hq.1.2;have e3:=ar hq.2;subst e1;subst e2;subst e3;simp only[cA,hid,fM,lX,cG,ec]
  .rfl
 |.agg l,y,he=>by
  simp only[cA]at he;cases hl:cP h l with
  |none=>rw[hl]at he;cases he
  |some l'=>rw[hl]at he;simp only[Mp,cA,wU hr hid l l' hl];exact he
 |.tup l,y,he=>by
  simp only[cA]at he;cases hl:cP h l with
  |none=>rw[hl]at he;cases he
  |some l'=>rw[hl]at he;simp only[Mp,cA,wU hr hid l l' hl];exact he
 |.clo g l,y,he=>by
  simp only[cA]at he;cases hl:cP h l with
  |none=>rw[hl]at he;cases he
  |some l'=>rw[hl]at he;simp only[Mp,cA,wU hr hid l l' hl];exact he
 |.f T v,y,he=>gC hr _ _ he
 |.fel T xs j hj off,y,he=>gC hr _ _ he
 |.pel _ _ _ _,y,he=>gC hr _ _ he
 |.ptr _ _,y,he=>gC hr _ _ he
 |.row _,y,he=>gC hr _ _ he
 |.rtl _ _,y,he=>gC hr _ _ he
 |.emp,y,he=>gC hr _ _ he
 |.nil,y,he=>gC hr _ _ he
 |.mp _,y,he=>gC hr _ _ he
 |.undef,y,he=>gC hr _ _ he
 |.np,y,he=>gC hr _ _ he
 |.anyb,y,he=>gC hr _ _ he
theorem wU (hr:ch h h') (hid:eM h' id=M (af,sz,n)):∀(l:Y TV) (l':Y AV),cP h l=M l'->cP h' (Di id sz n l)=M l'
 |[],l',he=>by simp only[cP,ah]at he;subst he;rfl
 |x::r,l',he=>by
  obtain⟨y,l2,rfl,h1,h2⟩:=dg he;simp only[Di];exact pD (Ph hr hid x y h1) (wU hr hid r l2 h2)
end
end subs
theorem apq {φ:PM} {s:TS} {a:Act} {w:World} (c:pn P E nt np φ s a w) {T:Ty} {id sz n:Nat} {s':TS} (hp:pkS s T id sz n=M s'):pn P E nt np φ s' a w/\C3 np φ φ (bz s.h) (bz s'.h) w w/\gr 0 s.e s'.e:=by
 unfold pkS at hp;split at hp
 .rename_i ty l hb;split at hp
  .rename_i hs;have hs:=ar hs;subst hs;split at hp
   .rename_i xs m hpk;split at hp
    .cases hp
    .rename_i hmid;simp only[ah]at hp;subst hp;have hm:dX s.h m:=Pr n l xs m hpk;obtain⟨l',hl⟩:=fx s.h l (c.invH.cells id _ l hb);have hidlt:=c.invH.low id _ hb;have oG:∀i,((PT.updI (λ_ b=>Zw id T.size n b) 1 0 (eJ m s.h)).set id (M (.rows ty af T xs))).get i=if i=id then M (.rows ty af T xs) else if aO m i then (s.h.get i).map vV else (s.h.get i).map (Zw id T.size n):=λi=>by
      rw[PT.get_set];by_cases e:i=id
      .rw[aC e,aC e]
      .rw[aw e,aw e,PT.get_updI,jr];split
       .cases hg:s.h.get i with
        |none=>rfl
        |some b=>cases b<;>rfl
       .rfl
     generalize hH2:((PT.updI (λ_ b=>Zw id T.size n b) 1 0 (eJ m s.h)).set id (M (.rows ty af T xs)))=h2 at oG ⊢;have hr:ch s.h h2:=λi r hi=>by
      rw[bV]at hi ⊢;rw[oG];by_cases e:i=id
      .subst e;rw[hb]at hi;cases hi
      .rw[aw e];cases hg:s.h.get i with
       |none=>rw[hg]at hi;cases hi
       |some b=>
        rw[hg]at hi;split
        .exact NQ hi
        .cases b<;>first|exact hi|cases hi
     have hnone:∀i,aO m i=J->bz h2 (nm i)=D:=λi hi=>by
      have e:i≠id:=λe=>by subst e;exact hmid hi
      obtain⟨ty',p',T',xs',L⟩:=hm i hi;rw[bH,oG,aw e,aC hi,L];rfl
     have hdom:vK (bz s.h) (bz h2):=λq b hq=>by
      obtain⟨i,cc,rfl,A,h4⟩:=jM hq;rw[bH];rw[oG]at A;by_cases e:i=id
      .subst e;rw[hb];simp only[aG,jN,hl];exact⟨_,rfl⟩
      .rw[aw e]at A;cases hg:s.h.get i with
       |none=>rw[hg]at A;split at A<;>cases A
       |some b0=>
        rw[hg]at A;split at A
        .simp only[ct,ah]at A;subst A;cases b0<;>simp[vV,jN]at h4
        .simp only[ct,ah]at A;subst A;simp only[aG];cases b0 with
         |cells ty0 l0=>
          obtain⟨l0',Z⟩:=fx s.h l0 (c.invH.cells i _ l0 hg);exact⟨Y9 ty0 l0',by cases ty0<;>(simp only[jN,Z];rfl)⟩
         |rows=>exact⟨_,h4⟩
         |dead=>exact⟨_,h4⟩
         |mp=>exact⟨_,h4⟩
     have giv:E_ s.h (bz s.h) (bz h2) m:=λi hi=>⟨rfl,hnone i hi⟩
     obtain⟨hle,hlen⟩:=Dw hdom n l xs m l' hpk hl giv;have hrow:eM h2 id=M (af,T.size,n):=by rw[bV,oG,aC rfl,<-hlen];rfl
     have hV:Is (bz s.h) (bz h2):=⟨hdom,λq b b' A h4=>by
      obtain⟨i,cc,rfl,h5,h6⟩:=jM h4;rw[bH]at A;rw[oG]at h5;by_cases e:i=id
      .subst e;rw[aC rfl]at h5;cases h5;rw[hb]at A;simp only[aG,jN,hl,ah]at A;subst A;simp only[jN,lX,cG,ec,ah]at h6;subst h6;refine iS.cells rfl rfl hle λx L=>?_
       simp only[BC.toMx]at L;obtain⟨q,hq,rfl⟩:=du.1 L;exact su T _ q hq
      .rw[aw e]at h5;cases hg:s.h.get i with
       |none=>rw[hg]at h5;split at h5<;>cases h5
       |some b0=>
        rw[hg]at h5 A;split at h5
        .simp only[ct,ah]at h5;subst h5;cases b0<;>simp[vV,jN]at h6
        .simp only[ct,ah]at h5;subst h5;have:b=b':=by
          simp only[aG]at A;cases b0 with
          |cells ty0 l0=>
           obtain⟨l0',Z⟩:=fx s.h l0 (c.invH.cells i _ l0 hg);cases ty0<;>
            (simp only[jN,Z,ah]at A
             simp only[Zw,jN,wU hr hrow l0 l0' Z,ah]at h6;rw[<- A,<-h6])
          |rows ty1 p1 T1 xs1=>
           have h3':jN h2 (.rows ty1 p1 T1 xs1)=M b:=A;exact km (h3'.symm.trans h6)
          |dead p1 s1 n1=>
           have h3':jN h2 (.dead p1 s1 n1)=M b:=A;exact km (h3'.symm.trans h6)
          |mp K1 V1 es1=>
           have h3':jN h2 (.mp K1 V1 es1)=M b:=A;exact km (h3'.symm.trans h6)
         subst this;exact iS.refl hdom b⟩
     refine ⟨⟨hV.rep c.rep,?_,c.dom,c.low,⟨λi ty' l2 hg=>?_,λi b hg=>?_⟩,?_,c.inert,c.size⟩,⟨Ja.refl _ _,λk _ hk=>hdom.own hk,λ_ _=>rfl⟩,?_⟩
     .intro t x L;simp only[fV,PT.get_updI]at L;cases he:s.e.get t with
      |none=>rw[he]at L;cases L
      |some v=>
       rw[he]at L;obtain⟨z,hz⟩:=pI s.h v (c.invE t v he);simp only[ct,aG,Ph hr hrow v z hz,ah]at L;subst L;exact (c.env t _ (by simp only[fV,he,aG,hz])).dom hdom
     .rw[oG]at hg;by_cases e:i=id
      .rw[aC e]at hg;cases hg
      .rw[aw e]at hg;cases hg0:s.h.get i with
       |none=>rw[hg0]at hg;split at hg<;>cases hg
       |some b0=>
        rw[hg0]at hg;split at hg
        .simp only[ct,ah]at hg;cases b0<;>simp[vV]at hg
        .simp only[ct,ah]at hg;cases b0 with
         |cells ty0 l0=>
          simp only[Zw,iB.cells.injEq]at hg;obtain⟨_,rfl⟩:=hg;obtain⟨l0',Z⟩:=fx s.h l0 (c.invH.cells i _ l0 hg0);exact kh _ _ _ (wU hr hrow l0 l0' Z)
         |_=>cases hg
     .rw[oG]at hg;by_cases e:i=id
      .subst e;exact hidlt
      .rw[aw e]at hg;cases hg0:s.h.get i with
       |none=>rw[hg0]at hg;split at hg<;>cases hg
       |some b0=>exact c.invH.low i b0 hg0
     .intro t x L;simp only[PT.get_updI]at L;cases he:s.e.get t with
      |none=>rw[he]at L;cases L
      |some v=>
       rw[he]at L;simp only[ct,ah]at L;subst L;obtain⟨z,hz⟩:=pI s.h v (c.invE t v he);exact FX _ _ _ (Ph hr hrow v z hz)
     .intro k _ v' U;simp only[PT.get_updI]at U;cases he:s.e.get k with
      |none=>rw[he]at U;cases U
      |some v=>
       rw[he]at U;simp only[ct,ah]at U;subst U;exact⟨v,rfl,λhf=>NJ _ _ _ v hf⟩
   .cases hp
  .cases hp
 .cases hp
theorem apk {φ:PM} {s:TS} {a:Act} {w:World} (c:pn P E nt np φ s a w) {k off:Nat} {s':TS} (h:Ns s (.ren k off)=M s'):∃φ',pn P E nt np φ' s' a w/\C3 np φ φ' (bz s.h) (bz s'.h) w w/\gr (mU [.ren k off] 0) s.e s'.e:=by
 simp only[Ns]at h;split at h
 .rename_i b o hk;split at h
  .rename_i cty l hb;split at h
   .rename_i id hv;split at h
    .rename_i ty p T xs L;simp only[ah]at h;subst h;have hfr:=c.invH.fresh;have hidlt:=c.invH.low id _ L;have hblt:=c.invH.low b _ hb;have hbid:b≠id:=λe=>by rw[e,L]at hb;cases hb
     have hbn:b≠s.nx:=by omega
     have hin:id≠s.nx:=by omega
     generalize hh2:(((s.h.set id (M (.dead p T.size xs.length))).set s.nx (M (.rows ty p T xs))).set b (M (.cells (M cty) (splice l (o+off) [.row s.nx]))))=h2;have oG:∀i,h2.get i=if i=b then M (.cells (M cty) (splice l (o+off) [.row s.nx])) else if i=s.nx then M (.rows ty p T xs) else if i=id then M (.dead p T.size xs.length) else s.h.get i:=λi=>by
      rw[<- hh2,PT.get_set,PT.get_set,PT.get_set]
     have hr:ch s.h h2:=λi r hi=>by
      rw[bV]at hi ⊢;rw[oG];by_cases e1:i=b
      .subst e1;rw[hb]at hi;cases hi
      .rw[aw e1];by_cases e2:i=s.nx
       .subst e2;rw[hfr]at hi;cases hi
       .rw[aw e2];by_cases e3:i=id
        .subst e3;rw[aC rfl];rw[L]at hi;exact hi
        .rw[aw e3];exact hi
     have hlo:=c.invH.cells b _ l hb;obtain⟨l',hl'⟩:=fx s.h l hlo;have hrow:cA h2 (.row s.nx)=M (fM p s.nx T.size xs.length):=by
      simp only[cA,bV,oG];rw[aw hbn.symm];simp only[bI,aG,nz]
     have hsp:cP h2 (splice l (o+off) [.row s.nx])=M (splice l' (o+off) [fM p s.nx T.size xs.length]):=qy _ (gy hr _ _ hl') (by simp only[cP,hrow]);obtain⟨y,hy,hey⟩:=lK hl' _ _ hv;have hy0:y=fM p id T.size xs.length:=by
      simp only[cA,bV,L,aG,nz,ah]at hey;exact hey.symm
     subst hy0;have hold:bz s.h (nm b)=M ⟨cty,.mx l'⟩:=by rw[bH,hb];simp only[aG,jN,hl']
     have hnew:bz h2 (nm b)=M ⟨cty,.mx (splice l' (o+off) [fM p s.nx T.size xs.length])⟩:=by
      rw[bH,oG,aC rfl];simp only[aG,jN,hsp]
     have hdead:bz h2 (nm id)=D:=by rw[bH,oG,aw hbid.symm,aw hin,aC rfl];rfl
     have hnx2:bz h2 (nm s.nx)=if p&&xs.length==0 then D else M ⟨ty,.fz (xs.flatMap (bX T))⟩:=by rw[bH,oG,aw hbn.symm,aC rfl];rfl
     have hid0:bz s.h (nm id)=if p&&xs.length==0 then D else M ⟨ty,.fz (xs.flatMap (bX T))⟩:=by rw[bH,L];rfl
     have hoth:∀n,n≠nm b->n≠nm s.nx->n≠nm id->bz h2 n=bz s.h n:=λn e1 e2 e3=>kN c.invH hr λi e=>by
      subst e;rw[oG,aw (λe=>e1 (by rw[e])),aw (λe=>e2 (by rw[e])),aw (λe=>e3 (by rw[e]))]
     have hnb:nm b≠nm s.nx:=λe=>hbn (lA e)
     have hbi:nm b≠nm id:=λe=>hbid (lA e)
     have hni:nm s.nx≠nm id:=λe=>hin (lA e).symm
     have hinv:mH h2 (s.nx+1):=by
      refine ⟨λi ty2 l2 hil=>?_,λi q hiq=>?_⟩
      .rw[oG]at hil;split at hil
       .simp only[ah,iB.cells.injEq]at hil;obtain⟨_,rfl⟩:=hil;exact kh _ _ _ hsp
       .split at hil
        .cases hil
        .split at hil
         .cases hil
         .exact jm hr l2 (c.invH.cells i _ l2 hil)
      .rw[oG]at hiq;split at hiq
       .omega
       .split at hiq
        .omega
        .split at hiq
         .omega
         .have:=c.invH.low i q hiq;omega
     have hE:∀t x,fV s.e h2 t=M x->fV s.e s.h t=M x:=λt x A=>by
      simp only[fV]at A ⊢;cases he:s.e.get t with
      |none=>rw[he]at A;cases A
      |some q=>
       rw[he]at A;obtain⟨z,hz⟩:=pI s.h q (c.invE t q he);simp only[aG,gC hr q z hz,ah]at A;subst A;simp only[aG,hz]
     by_cases hp:(p&&xs.length==0)=J
     ·
      have hH:bz h2=bz s.h:=by
       funext n;by_cases e1:n=nm b
       .subst e1;rw[hold,hnew];have:fM p s.nx T.size xs.length=fM p id T.size xs.length:=by unfold fM;rw[aC hp,aC hp]
        rw[this,zK hy]
       .by_cases e2:n=nm s.nx
        .subst e2;rw[hnx2,aC hp,bH,hfr];rfl
        .by_cases e3:n=nm id
         .subst e3;rw[hdead,hid0,aC hp]
         .exact hoth n e1 e2 e3
      refine ⟨φ,⟨by rw[hH];exact c.rep,λt x A=>by rw[hH];exact c.env t x (hE t x A),λn q hq=>AO (c.dom n q hq),iN c.low,hinv,λt x A=>nC hr x (c.invE t x A),c.inert,c.size⟩,by rw[hH];exact C3.refl _ _ _ _,gr.refl _ _⟩
     .have hid1:bz s.h (nm id)=M ⟨ty,.fz (xs.flatMap (bX T))⟩:=by rw[hid0,aw hp]
      obtain⟨kk,k1,k2,ob,k3,k4⟩:=c.rep.at_ _ _ hid1;have hφn:φ (nm s.nx)=D:=by
       cases hq:φ (nm s.nx) with
       |none=>rfl
       |some q=>have:=c.dom _ q hq;rw[d_]at this;omega
      let nw:HF:=λn=>if n=nm s.nx then M ⟨ty,.fz (xs.flatMap (bX T))⟩ else D
      have hsh:Gl w w kk ob:=⟨rfl,rfl,rfl,rfl,k3,λ_ _=>rfl,λ_=>rfl⟩
      obtain⟨φ',p1,p2,p3,p4⟩:=c.rep.wren hid1 k1 hφn hsh k4 nw (by simp[nw]) (by simp only[nw];rw[aw hni.symm]);have hb1:eZ (bz s.h) [nm s.nx,nm id] nw (nm b)=M ⟨cty,.mx l'⟩:=by
       unfold eZ;rw[aw (by simp[hnb,hbi]),hold]
      obtain⟨kb,b1,b2,ob2,b3,b4⟩:=p4.at_ _ _ hb1;have hlt:o+off<l'.length:=by
       rcases ci (o+off) l'.length with h'|h'
       .exact h'
       .rw[bF h']at hy;cases hy
      have hob:js φ' (tot E φ' (eZ (bz s.h) [nm s.nx,nm id] nw)) w ⟨cty,.mx (splice l' (o+off) [fM p s.nx T.size xs.length])⟩ ob2:=by
       rw[qj rfl]at b4 ⊢;obtain⟨arr,a1,a2⟩:=b4;refine ⟨arr,a1,?_⟩;unfold wq at a2 ⊢;refine ⟨by simp only[BC.len]at a2 ⊢;rw[o6 (by simp;omega)];exact a2.1,λj x A=>?_⟩;simp only[BC.get]at A a2;rw[ny (by simp;omega)]at A;split at A
       .exact a2.2 j x A
       .split at A
        .rename_i h3 U;simp only[cX]at U;have hj:j=o+off:=by omega
         subst hj;simp only[IA,mb,ah]at A;subst A;obtain⟨_,v,a3,a4⟩:=a2.2 _ _ hy;unfold fM at a4 ⊢;rw[aw hp]at a4 ⊢;refine ⟨rfl,v,a3,?_⟩;cases a4 with
         |@row _ _ _ cc q hφq hn hc hs2=>
          have:=p2.sub _ _ k1;rw[this,ah]at hφq;subst hφq;exact .row p1 hn hc hs2
        .exact a2.2 j x A
      obtain⟨q1,q2⟩:=p4.wset hb1 b1 (⟨rfl,rfl,rfl,rfl,b3,λ_ _=>rfl,λ_=>rfl⟩:Gl w w kb ob2) hob (λn=>if n=nm b then M ⟨cty,.mx (splice l' (o+off) [fM p s.nx T.size xs.length])⟩ else D) (by simp);have hH:eZ (eZ (bz s.h) [nm s.nx,nm id] nw) [nm b] (λn=>if n=nm b then M ⟨cty,.mx (splice l' (o+off) [fM p s.nx T.size xs.length])⟩ else D)=bz h2:=by
       funext n;by_cases e1:n=nm b
       .subst e1;rw[hnew];simp[eZ]
       .by_cases e2:n=nm s.nx
        .subst e2;rw[hnx2,aw hp];simp[eZ,nw,hnb.symm]
        .by_cases e3:n=nm id
         .subst e3;rw[hdead];simp[eZ,nw,hbi.symm,hni.symm]
         .rw[hoth n e1 e2 e3];simp[eZ,e1,e2,e3]
      rw[hH]at q1 q2;have m:=p2.trans q1;refine ⟨φ',⟨q2,λt x A=>m.keep (c.env t x (hE t x A)),λn q hq=>?_,iN c.low,hinv,λt x A=>nC hr x (c.invE t x A),c.inert,c.size⟩,⟨Ja.refl _ _,m.own_,λi hi=>?_⟩,gr.refl _ _⟩
      .rcases p3 n q hq with U|U
       .exact AO (c.dom n q U)
       .simp only[aI]at U;subst U;rw[d_];exact rE _
      .cases hq:φ' (nm i) with
       |none=>
        cases hq2:φ (nm i) with
        |none=>rfl
        |some z=>rw[p2.sub _ _ hq2]at hq;cases hq
       |some z=>
        rcases p3 _ _ hq with U|U
        .exact U.symm
        .simp only[aI]at U;have:=lA U;have:=c.low;omega
    .cases h
   .cases h
  .cases h
 .rename_i id hk;split at h
  .rename_i ty p T xs L;simp only[ah]at h;subst h;have hfr:=c.invH.fresh;have hidlt:=c.invH.low id _ L;have hin:id≠s.nx:=by omega
   generalize hh2:((s.h.set id (M (.dead p T.size xs.length))).set s.nx (M (.rows ty p T xs)))=h2;have oG:∀i,h2.get i=if i=s.nx then M (.rows ty p T xs) else if i=id then M (.dead p T.size xs.length) else s.h.get i:=λi=>by
    rw[<- hh2,PT.get_set,PT.get_set]
   have hr:ch s.h h2:=λi r hi=>by
    rw[bV]at hi ⊢;rw[oG];by_cases e2:i=s.nx
    .subst e2;rw[hfr]at hi;cases hi
    .rw[aw e2];by_cases e3:i=id
     .subst e3;rw[aC rfl];rw[L]at hi;exact hi
     .rw[aw e3];exact hi
   have hrow:cA h2 (.row s.nx)=M (fM p s.nx T.size xs.length):=by
    simp only[cA,bV,oG,bI,aG,nz]
   have hrow0:cA s.h (.row id)=M (fM p id T.size xs.length):=by
    simp only[cA,bV,L,aG,nz]
   have hdead:bz h2 (nm id)=D:=by rw[bH,oG,aw hin,aC rfl];rfl
   have hnx2:bz h2 (nm s.nx)=if p&&xs.length==0 then D else M ⟨ty,.fz (xs.flatMap (bX T))⟩:=by rw[bH,oG,aC rfl];rfl
   have hid0:bz s.h (nm id)=if p&&xs.length==0 then D else M ⟨ty,.fz (xs.flatMap (bX T))⟩:=by rw[bH,L];rfl
   have hoth:∀n,n≠nm s.nx->n≠nm id->bz h2 n=bz s.h n:=λn e2 e3=>kN c.invH hr λi e=>by
    subst e;rw[oG,aw (λe=>e2 (by rw[e])),aw (λe=>e3 (by rw[e]))]
   have hni:nm s.nx≠nm id:=λe=>hin (lA e).symm
   have hinv:mH h2 (s.nx+1):=by
    refine ⟨λi ty2 l2 hil=>?_,λi q hiq=>?_⟩
    .rw[oG]at hil;split at hil
     .cases hil
     .split at hil
      .cases hil
      .exact jm hr l2 (c.invH.cells i _ l2 hil)
    .rw[oG]at hiq;split at hiq
     .omega
     .split at hiq
      .omega
      .have:=c.invH.low i q hiq;omega
   have hE:∀t x,t≠k->fV (s.e.set k (M (.row s.nx))) h2 t=M x->fV s.e s.h t=M x:=λt x ht A=>by
    simp only[fV,PT.get_set]at A ⊢;rw[aw ht]at A;cases he:s.e.get t with
    |none=>rw[he]at A;cases A
    |some q=>
     rw[he]at A;obtain⟨z,hz⟩:=pI s.h q (c.invE t q he);simp only[aG,gC hr q z hz,ah]at A;subst A;simp only[aG,hz]
   have hIE:ut (s.e.set k (M (.row s.nx))) h2:=λt x A=>by
    simp only[PT.get_set]at A;split at A
    .cases A;exact FX _ _ _ hrow
    .exact nC hr x (c.invE t x A)
   have hKp:gr (mU [.ren k off] 0) s.e (s.e.set k (M (.row s.nx))):=λt ht v' hv'=>by
    simp only[PT.get_set]at hv';split at hv'
    .rename_i et;subst et;simp only[mU]at ht;rw[bu,b9.2 rfl]at ht;simp at ht
    .exact⟨v',hv',λ_=>rfl⟩
   have Z:=c.env k (fM p id T.size xs.length) (by simp only[fV,hk,aG,hrow0]);by_cases hp:(p&&xs.length==0)=J
   .have hH:bz h2=bz s.h:=by
     funext n;by_cases e2:n=nm s.nx
     .subst e2;rw[hnx2,aC hp,bH,hfr];rfl
     .by_cases e3:n=nm id
      .subst e3;rw[hdead,hid0,aC hp]
      .exact hoth n e2 e3
    have hsame:fM p s.nx T.size xs.length=fM p id T.size xs.length:=by unfold fM;rw[aC hp,aC hp]
    refine ⟨φ,⟨by rw[hH];exact c.rep,λt x A=>?_,λn q hq=>AO (c.dom n q hq),iN c.low,hinv,hIE,c.inert,c.size⟩,by rw[hH];exact C3.refl _ _ _ _,hKp⟩;rw[hH];by_cases ht:t=k
    .subst ht;simp only[fV,PT.get_set,bI,aG,hrow,ah]at A;subst A;rw[hsame];exact Z
    .exact c.env t x (hE t x ht A)
   .have hid1:bz s.h (nm id)=M ⟨ty,.fz (xs.flatMap (bX T))⟩:=by rw[hid0,aw hp]
    obtain⟨kk,k1,k2,ob,k3,k4⟩:=c.rep.at_ _ _ hid1;have hφn:φ (nm s.nx)=D:=by
     cases hq:φ (nm s.nx) with
     |none=>rfl
     |some q=>have:=c.dom _ q hq;rw[d_]at this;omega
    let nw:HF:=λn=>if n=nm s.nx then M ⟨ty,.fz (xs.flatMap (bX T))⟩ else D
    have hsh:Gl w w kk ob:=⟨rfl,rfl,rfl,rfl,k3,λ_ _=>rfl,λ_=>rfl⟩
    obtain⟨φ',p1,p2,p3,p4⟩:=c.rep.wren hid1 k1 hφn hsh k4 nw (by simp[nw]) (by simp only[nw];rw[aw hni.symm]);have hH:eZ (bz s.h) [nm s.nx,nm id] nw=bz h2:=by
     funext n;by_cases e2:n=nm s.nx
     .subst e2;rw[hnx2,aw hp];simp[eZ,nw]
     .by_cases e3:n=nm id
      .subst e3;rw[hdead];simp[eZ,nw,hni.symm]
      .rw[hoth n e2 e3];simp[eZ,e2,e3]
    rw[hH]at p2 p4;refine ⟨φ',⟨p4,λt x A=>?_,λn q hq=>?_,iN c.low,hinv,hIE,c.inert,c.size⟩,⟨Ja.refl _ _,p2.own_,λi hi=>?_⟩,hKp⟩
    .by_cases ht:t=k
     .subst ht;simp only[fV,PT.get_set,bI,aG,hrow,ah]at A;subst A;unfold fM at Z ⊢;rw[aw hp]at Z ⊢;generalize a.tmps.getD t undef=z at Z;cases Z with
      |@row _ _ _ cc q hφq hn hc hs2=>
       rw[k1,ah]at hφq;subst hφq;exact .row p1 hn hc hs2
     .exact p2.keep (c.env t x (hE t x ht A))
    .rcases p3 n q hq with U|U
     .exact AO (c.dom n q U)
     .simp only[aI]at U;subst U;rw[d_];exact rE _
    .cases hq:φ' (nm i) with
     |none=>
      cases hq2:φ (nm i) with
      |none=>rfl
      |some z=>rw[p2.sub _ _ hq2]at hq;cases hq
     |some z=>
      rcases p3 _ _ hq with U|U
      .exact U.symm
      .simp only[aI]at U;have:=lA U;have:=c.low;omega
  .cases h
 .cases h
theorem an0 {φ:PM} {s:TS} {a:Act} {w:World} (c:pn P E nt np φ s a w) {ad:Adj} {s':TS} (h:Ns s ad=M s') (hnr:∀k off,ad≠ .ren k off):pn P E nt np φ s' a w/\C3 np φ φ (bz s.h) (bz s'.h) w w/\gr (mU [ad] 0) s.e s'.e:=by
 cases ad with
 |ren k off=>exact b8 rfl (hnr k off)
 |nil k ty T=>
  simp only[Ns]at h;split at h
  .rename_i v hv;split at h
   .rename_i hn;simp only[ah]at h;subst h;obtain⟨L,Z,hr⟩:=Zj c ty T;refine ⟨⟨L.rep,?_,L.dom,L.low,L.invH,?_,L.inert,L.size⟩,by rw[Z];exact C3.refl _ _ _ _,?_⟩
    .intro t x A;simp only[fV,PT.get_set]at A;split at A
     .rename_i et;subst et;simp only[aG,cA,bV,PT.get_set,bI,nz,fM,gE,c5,jO,ah]at A;subst A;obtain⟨z,U⟩:=pI s.h v (c.invE _ v hv);rw[Z];exact Te hn U _ _ _ _ (c.env _ _ (by simp only[fV,hv,aG,U]))
     .exact L.env t x A
    .intro t x A;simp only[PT.get_set]at A;split at A
     .cases A;simp only[Mx,bV,PT.get_set,bI];rfl
     .exact L.invE t x A
    .intro t ht v' hv';simp only[PT.get_set]at hv';split at hv'
     .rename_i et;subst et;simp only[mU]at ht;rw[bu,b9.2 rfl]at ht;simp at ht
     .exact⟨v',hv',λ_=>rfl⟩
   .simp only[ah]at h;subst h;exact⟨c,C3.refl _ _ _ _,gr.refl _ _⟩
  .cases h
 |cel k off ty T=>
  simp only[Ns]at h;split at h
  .rename_i id o hk;split at h
   .rename_i cty l hb;split at h
    .rename_i v hv;split at h
     .rename_i hn;simp only[ah]at h;subst h;obtain⟨L,Z,hr⟩:=Zj c ty T;have hid:id≠s.nx:=λe=>by have:=c.invH.low id _ hb;omega
      obtain⟨c2,t2⟩:=afp L (id:=id) (cty:=cty) (l:=l) (v:=v) (u:=.row s.nx) (by show (s.h.set s.nx _).get id=_;rw[PT.get_set,aw hid];exact hb) hv hn (by simp only[cA,bV,PT.get_set,bI,aG,nz,fM,gE,c5,jO]) (by simp only[Mx,bV,PT.get_set,bI];rfl);exact⟨c2,by rw[<- Z];exact t2,gr.refl _ _⟩
     .simp only[ah]at h;subst h;exact⟨c,C3.refl _ _ _ _,gr.refl _ _⟩
    .cases h
   .cases h
  .cases h
 |mpt k K V=>
  simp only[Ns]at h;split at h
  .rename_i id hk;split at h
   .rename_i K' V' es hb;split at h
    .rename_i hE;simp only[ah]at h;subst h;have hr:ch s.h (s.h.set id (M (.mp K V []))):=ch.set λr hr=>by rw[bV,hb]at hr;cases hr
     have Z:bz (s.h.set id (M (.mp K V [])))=bz s.h:=by
      funext n;by_cases hn:n=nm id
      .subst hn;rw[bH,bH,PT.get_set,aC rfl,hb];simp only[aG,jN,zW (adq (pu.1 hE).1),zW (pu.1 hE).2,Pz (pu.1 hE).1,List.map_nil]
      .refine kN c.invH hr λi e=>?_
       subst e;rw[PT.get_set,aw (λe=>hn (by rw[e]))]
     refine ⟨⟨by rw[Z];exact c.rep,?_,c.dom,c.low,c.invH.set hr (c.invH.low id _ hb) (bT _) (λ_ _ he=>by cases he),λt x A=>nC hr x (c.invE t x A),c.inert,c.size⟩,by rw[Z];exact C3.refl _ _ _ _,gr.refl _ _⟩;intro t x A;rw[Z];simp only[fV]at A;cases he:s.e.get t with
     |none=>rw[he]at A;cases A
     |some q=>
      rw[he]at A;obtain⟨z,U⟩:=pI s.h q (c.invE t q he);simp only[aG,gC hr q z U,ah]at A;subst A;exact c.env t _ (by simp only[fV,he,aG,U])
    .simp only[ah]at h;subst h;exact⟨c,C3.refl _ _ _ _,gr.refl _ _⟩
   .cases h
  .cases h
 |mz k n=>
  simp only[Ns]at h;split at h
  .rename_i id hk;split at h
   .rename_i K' V' es hb;split at h
    .rename_i hE;simp only[ah]at h;subst h;have hr:ch s.h (s.h.set id (M (.cells D (aA n .nil)))):=ch.set λr hr=>by rw[bV,hb]at hr;cases hr
     have hold:bz s.h (nm id)=M ⟨0,.mp []⟩:=by rw[bH,hb];simp only[aG,jN,zW (adq hE),Pz hE,List.map_nil]
     have hvs:∀(h:bk) m,cP h (aA m .nil)=M (aA m (.f (.raw (.slice D 0 0)))):=λh m=>by
      induction m with
      |zero=>rfl
      |succ m ih=>rw[wM,wM];simp only[cP,cA,ih]
     have hnew:bz (s.h.set id (M (.cells D (aA n .nil)))) (nm id)=M ⟨1,.mp (pj 0 (aA n (.f (.raw (.slice D 0 0)))))⟩:=by
      rw[bH,PT.get_set,aC rfl];simp only[aG,jN,hvs]
     have hoth:∀q,q≠nm id->bz (s.h.set id (M (.cells D (aA n .nil)))) q=bz s.h q:=λq hn'=>kN c.invH hr λi e=>by
      subst e;rw[PT.get_set,aw (λe=>hn' (by rw[e]))]
     have hdom:vK (bz s.h) (bz (s.h.set id (M (.cells D (aA n .nil))))):=λq b hb'=>by
      by_cases e:q=nm id
      .subst e;exact⟨_,hold⟩
      .rw[hoth q e]at hb';exact⟨b,hb'⟩
     have hV:Is (bz s.h) (bz (s.h.set id (M (.cells D (aA n .nil))))):=⟨hdom,λq b b' h1 h2=>by
      by_cases e:q=nm id
      .subst e;rw[hold]at h1;cases h1;rw[hnew]at h2;cases h2;exact iS.lay n
      .rw[hoth q e,h1]at h2;cases h2;exact iS.refl hdom b⟩
     refine ⟨⟨hV.rep c.rep,?_,c.dom,c.low,c.invH.set hr (c.invH.low id _ hb) (bT _) (λty l2 he=>?_),λt x A=>nC hr x (c.invE t x A),c.inert,c.size⟩,⟨Ja.refl _ _,λk _ ho=>hdom.own ho,λ_ _=>rfl⟩,gr.refl _ _⟩
     .intro t x A;simp only[fV]at A;cases he:s.e.get t with
      |none=>rw[he]at A;cases A
      |some q=>
       rw[he]at A;obtain⟨z,U⟩:=pI s.h q (c.invE t q he);simp only[aG,gC hr q z U,ah]at A;subst A;exact (c.env t _ (by simp only[fV,he,aG,U])).dom hdom
     .simp only[iB.cells.injEq]at he;obtain⟨_,rfl⟩:=he;exact kh _ _ _ (hvs _ n)
    .cases h
   .simp only[ah]at h;subst h;exact⟨c,C3.refl _ _ _ _,gr.refl _ _⟩
  .cases h
 |pk k off T=>
  simp only[Ns]at h;split at h
  .obtain⟨h1,h2,h3⟩:=apq c h;exact⟨h1,h2,h3.mono λk hk=>by simp at hk⟩
  .cases h
theorem amz {φ:PM} {s:TS} {a:Act} {w:World} (c:pn P E nt np φ s a w) {z:Adj} {s':TS} (h:Ns s z=M s'):∃φ',pn P E nt np φ' s' a w/\C3 np φ φ' (bz s.h) (bz s'.h) w w/\gr (mU [z] 0) s.e s'.e:=by
 by_cases hn:∃k off,z= .ren k off
 .obtain⟨k,off,rfl⟩:=hn;exact apk c h
 .exact⟨φ,an0 c h λk off e=>hn ⟨k,off,e⟩⟩
theorem XM {φ:PM} {a:Act} {w:World}:∀{l:Y Adj} {s s':TS},pn P E nt np φ s a w->ab1 s l=M s'->∃φ',pn P E nt np φ' s' a w/\C3 np φ φ' (bz s.h) (bz s'.h) w w/\gr (mU l 0) s.e s'.e
 |[],s,s',c,h=>by simp only[ab1,ah]at h;subst h;exact⟨φ,c,C3.refl _ _ _ _,gr.refl _ _⟩
 |z::r,s,s',c,h=>by
  simp only[ab1]at h;split at h
  .rename_i s1 h1;obtain⟨φ1,U,t1,k1⟩:=amz c h1;obtain⟨φ2,L,A,k2⟩:=XM U h;refine ⟨φ2,L,t1.trans A,(k1.mono ?_).trans (k2.mono ?_)⟩
   .intro k hk;cases z with
    |nil q ty T=>simp only[mU]at hk ⊢;rw[lM,bu,hk];rfl
    |cel q off ty T=>simp[mU]at hk
    |mpt q K V=>simp[mU]at hk
    |mz q n=>simp[mU]at hk
    |pk q off T=>simp[mU]at hk
    |ren q off=>simp only[mU]at hk ⊢;rw[lM,bu,hk];rfl
   .intro k hk;cases z with
    |nil q ty T=>simp only[mU];rw[lM,bu,hk];simp
    |cel q off ty T=>simp only[mU];exact hk
    |mpt q K V=>simp only[mU];exact hk
    |mz q n=>simp only[mU];exact hk
    |pk q off T=>simp only[mU];exact hk
    |ren q off=>simp only[mU];rw[lM,bu,hk];simp
  .cases h
mutual
theorem S6 {h:bk}:∀(v:TV) (y:AV),uY v=J->cA h v=M y->y.all (λ_=>af)=J
 |.f _ _,y,_,he=>by simp only[cA,ah]at he;subst he;rfl
 |.fel _ _ _ _ _,y,_,he=>by simp only[cA,ah]at he;subst he;rfl
 |.emp,y,_,he=>by simp only[cA,ah]at he;subst he;rfl
 |.nil,y,_,he=>by simp only[cA,ah]at he;subst he;rfl
 |.undef,y,_,he=>by simp only[cA,ah]at he;subst he;rfl
 |.np,y,_,he=>by simp only[cA,ah]at he;subst he;rfl
 |.anyb,y,_,he=>by simp only[cA,ah]at he;subst he;rfl
 |.agg l,y,hl,he=>by
  simp only[cA]at he;split at he
  .rename_i l' hl';simp only[ah]at he;subst he;exact FP l l' hl hl'
  .cases he
 |.tup l,y,hl,he=>by
  simp only[cA]at he;split at he
  .rename_i l' hl';simp only[ah]at he;subst he;exact FP l l' hl hl'
  .cases he
 |.pel _ _ _ _,_,h,_=>by cases h
 |.ptr _ _,_,h,_=>by cases h
 |.csl _ _ _,_,h,_=>by cases h
 |.row _,_,h,_=>by cases h
 |.rtl _ _,_,h,_=>by cases h
 |.mp _,_,h,_=>by cases h
 |.clo _ _,_,h,_=>by cases h
theorem FP {h:bk}:∀(l:Y TV) (l':Y AV),rf l=J->cP h l=M l'->AV.allL (λ_=>af) l'=J
 |[],l',_,he=>by simp only[cP,ah]at he;subst he;rfl
 |x::r,l',hl,he=>by
  obtain⟨y,l2,rfl,e1,e2⟩:=dg he;simp only[rf,al]at hl;simp only[AV.allL,al];exact⟨S6 x y hl.1 e1,FP r l2 hl.2 e2⟩
end
mutual
theorem YP (h:bk):∀(v:TV),uY v=J->Mx h v=J
 |.f _ _,_=>rfl
 |.fel _ _ _ _ _,_=>rfl
 |.emp,_=>rfl
 |.nil,_=>rfl
 |.undef,_=>rfl
 |.np,_=>rfl
 |.anyb,_=>rfl
 |.agg l,hl=>Kq h l hl
 |.tup l,hl=>Kq h l hl
 |.pel _ _ _ _,h=>by cases h
 |.ptr _ _,h=>by cases h
 |.csl _ _ _,h=>by cases h
 |.row _,h=>by cases h
 |.rtl _ _,h=>by cases h
 |.mp _,h=>by cases h
 |.clo _ _,h=>by cases h
theorem Kq (h:bk):∀(l:Y TV),rf l=J->lz h l=J
 |[],_=>rfl
 |x::r,hl=>by
  simp only[rf,al]at hl;simp only[lz,al];exact⟨YP h x hl.1,Kq h r hl.2⟩
end
structure Seen (np:Nat) (t:Tm) (x:t.ty.den) (us:List TV) (h1:bk) (φ φ':PM) (H:HF) (E:Nat->Prop) (w:World) (la lu:List AV):Prop where
 rep:rL φ' E (bz h1) w
 val:∀(j:Nat) y v,lu[j]? =M y->∃z,la[j]? =M z/\(cS φ (tot E φ H) w z v->cS φ' (tot E φ' (bz h1)) w y v)
 len:lu.length=la.length
 tot_:∀k,tot E φ' (bz h1) k->tot E φ H k
 own_:∀k,own φ' (bz h1) k->own φ H k
 dom:∀n k,φ' n=M k->ow n<t.bs.length
 par:∀i,i<np->i<t.bs.length->φ' (nm i)=φ (nm i)
theorem Ms {t:Tm} {x:t.ty.den} {us:Y TV} {h1:bk} {l1:Y (I iB)} (A:rB t x us h1 l1) {h:bk} {nx:Nat} (hinv:mH h nx) {vs:Y TV} {m:Nat} {σ:PT Nat} {sm:Nat} (B:I9 np t vs h x m σ sm) {la:Y AV} (hla:cP h vs=M la) {φ:PM} {w:World} (r:rL φ E (bz h) w):∃φ' lu,cP h1 us=M lu/\Seen np t x us h1 φ φ' (bz h) E w la lu:=by
 obtain⟨x1,m1,x2,m2,hx,hmm,gv,gb⟩:=B.ex;have hmr:dX h m:=by rw[hmm];exact (IW _ _ _ _ gv).or (IY _ _ _ _ gb)
 have pvg:qJ (iy σ) t.vs x1=M (kY (iy σ) us):=by
  have L:=uv (iy σ) t.vs x1;have s:=A.pv;rw[hx,um]at s;rw[L,s];rfl
 have pbg:o7 (iy σ) t.bs x2=M (l1.map (my (mf (iy σ)))):=by
  have L:=wW (iy σ) t.bs x2;have s:=A.pb;rw[hx,vP]at s;rw[L,s];rfl
 have hbm:∀i b,l1[i]? =M (M b)->∃b0,h.get (iy σ i)=M b0/\BM (iy σ) h m b0 (mf (iy σ) b):=λi b hb=>by
  obtain⟨b0,U,Z⟩:=Ko t.bs 0 x2 m2 _ gb pbg i (mf (iy σ) b) (by rw[bd,hb];rfl);rw[bK]at U;exact⟨b0,U,Z.mono λj hj=>by rw[hmm,bu,hj];simp⟩
 let hv:bk:=Br (iy σ) 0 (l1.map (my (mf (iy σ)))) PT.leaf
 have hv_at:∀i b,l1[i]? =M (M b)->hv.get (iy σ i)=M (mf (iy σ) b):=λi b hb=>by
  have:=vU (iy σ) (l1.map (my (mf (iy σ)))) 0 PT.leaf (λa b ha hb=>by
   simp only[bQ,A.len]at ha hb;simp only[bK];exact B.inj a b ha hb) i (M (mf (iy σ) b)) (by rw[bd,hb];rfl)
  rw[bK]at this;exact this
 have hv_ex:∀j c,hv.get j=M c->∃i b,l1[i]? =M (M b)/\j=iy σ i/\c=mf (iy σ) b:=λj c hj=>by
  by_cases hex:∃i,i<l1.length/\j=iy σ i
  .obtain⟨i,hi,rfl⟩:=hex;have hcc:=ay hi;cases hcv:l1[i] with
   |some b=>rw[hcv]at hcc;rw[hv_at i b hcc]at hj;cases hj;exact⟨i,b,hcc,rfl,rfl⟩
   |none=>
    rw[hcv]at hcc;have:=vU (iy σ) (l1.map (my (mf (iy σ)))) 0 PT.leaf (λa b ha hb=>by
     simp only[bQ,A.len]at ha hb;simp only[bK];exact B.inj a b ha hb) i D (by rw[bd,hcc];rfl)
    rw[bK]at this;have hj':(Br (iy σ) 0 (l1.map (my (mf (iy σ)))) PT.leaf).get (iy σ i)=M c:=hj;rw[this]at hj';simp[PT.get]at hj'
  .have:hv.get j=(PT.leaf:bk).get j:=vT (iy σ) _ 0 _ j λk hk=>by
    simp only[bQ]at hk;rw[bK];exact λe=>hex ⟨k,hk,e⟩
   rw[this]at hj;simp[PT.get]at hj
 have rows_in:yK hv h:=λj q hq=>by
  rw[bV]at hq ⊢;cases hc:hv.get j with
  |none=>rw[hc]at hq;cases hq
  |some c=>
   rw[hc]at hq;obtain⟨i,b,U,rfl,rfl⟩:=hv_ex j c hc;obtain⟨b0,Z,q3⟩:=hbm i b U;rw[Z];simp only[aG]at hq ⊢;rw[<- q3.row];exact hq
 have rows_h1:∀i q,eM h1 i=M q->eM hv (iy σ i)=M q:=λi q hq=>by
  rw[bV]at hq ⊢;cases hb:h1.get i with
  |none=>rw[hb]at hq;cases hq
  |some b=>
   rw[hb]at hq;rw[hv_at i b ((A.at_ i b).1 hb)];simp only[aG,Jo]at hq ⊢;exact hq
 have hd:vK (bz h) (bz hv):=λn y hy=>by
  obtain⟨j,c,rfl,L,s⟩:=jM hy;obtain⟨i,b,U,rfl,rfl⟩:=hv_ex j c L;obtain⟨b0,Z,q3⟩:=hbm i b U;obtain⟨y0,hy0⟩:=BM.erB_some hinv Z q3 s;exact⟨y0,by rw[bH,Z];exact hy0⟩
 have gvv:E_ h (bz h) (bz hv) m:=λi hi=>⟨rfl,by
  cases hc:bz hv (nm i) with
  |none=>rfl
  |some y=>
   obtain⟨j,c,e,L,s⟩:=jM hc;have:=lA e;subst this;obtain⟨k,b,U,rfl,rfl⟩:=hv_ex i c L;have hk:k<t.bs.length:=by rw[<- A.len];exact (bn.1 U).1
   have h5:=B.disj _ hi;rw[(B.sig _).2 ⟨k,hk,rfl⟩]at h5;cases h5⟩
 have V:Is (bz h) (bz hv):=⟨hd,λn b b' hb hb'=>by
  obtain⟨j,c,rfl,L,s⟩:=jM hb';obtain⟨i,bb,U,rfl,rfl⟩:=hv_ex j c L;obtain⟨b0,Z,q3⟩:=hbm i bb U;rw[bH,Z]at hb;exact BM.view hd gvv rows_in q3 hb s⟩
 have rv:=V.rep r;have T:ajg t x us h1 (iy σ) φ E E (bz hv) w:=by
  refine rL.toId A B.inj rv (λi b yb hb hyb=>?_) (λk hk=>.inl hk) (λi k b hi L s hE=>?_) rv.el
  .rw[bH,hv_at i b ((A.at_ i b).1 hb)];exact D7 rows_h1 hyb
  .obtain⟨k',p1,p2,_⟩:=rv.at_ _ _ L;rw[s]at p1;cases p1;exact p2 hE
 obtain⟨lu,hlu⟩:=fx h1 us A.ok;have hlug:cP hv (kY (iy σ) us)=M (AV.renL (IZ (iy σ)) lu):=pB rows_h1 us lu hlu;have hle:=DY hd rows_in t.vs vs x1 m1 _ la _ gv pvg hla hlug (λi hi=>gvv i (by rw[hmm,bu,hi];rfl));have hall:=sK us lu A.lt hlu;refine ⟨_,lu,hlu,T.rep,λj y v hy=>?_,?_,λk hk=>hd.tot (T.tot_ k hk),λk hk=>hd.own (T.own_ k hk),λn k hk=>?_,λi hi hb=>?_⟩
 .rw[nB]at hle;obtain⟨z,hz,hlz⟩:=hle.get j (y.ren (IZ (iy σ))) (by rw[bd,hy];rfl);exact⟨z,hz,λhr=>T.val y v (mG hall y (aZ hy)) (hlz _ _ _ _ r hr)⟩
 .have:=hle.length;rw[nB,bQ]at this;exact this
 .obtain⟨i,hi,rfl,_⟩:=xS hk;rw[d_];exact hi
 .rw[acg hb,B.fix i hi]
theorem PH {φ:PM} {s':TS} {a:Act} {w:World} (c:pn P E nt np φ s' a w) {A:Ann} {am:Nat} {s0 s1:TS} {x:A.D} (s:M1 np A am s0 s'=M x) (hs:HZ A am s0 x=M s1)
 (hk:∀k,k∈A.keep->k∉A.ks->∀v,s0.e.get k=M v->uY v=J->aO am k=af->∀Z,s'.e.get k=M Z->Z=v):∃φ',pn P E nt np φ' s1 a w/\C3 np φ φ' (bz s'.h) (bz s1.h) w w:=by
 unfold M1 at s;split at s
 .rename_i hc;simp only[al]at hc;have hnp:=a_ hc.1;split at s
  .rename_i s2 h2;obtain⟨φ2,c2,t2,_⟩:=XM c h2;split at s
   .rename_i vs hvs;split at s
    .rename_i z m σ sm hM;simp only[ah]at s;subst s;have B:=xg hM;unfold HZ at hs;split at hs
     .rename_i us h1 hi;obtain⟨l1,H⟩:=xn hi;split at hs
      .rename_i hlen;have hlen:=ar hlen;simp only[ah]at hs;subst hs;obtain⟨g1,g2⟩:=YO hvs;have hvok:lz s2.h vs=J:=JB c2.invE hvs;obtain⟨la,hla⟩:=fx s2.h vs hvok;obtain⟨φ',lu,hlu,S⟩:=Ms (E:=E) H c2.invH B hla c2.rep;refine ⟨φ',⟨S.rep,?_,S.dom,hnp,⟨λi ty l hl=>(H.cells i _ l hl).1,λi b hb=>H.lt_len hb⟩,?_,c.inert,c.size⟩,t2.trans ⟨Ja.refl _ _,λk _ h=>S.own_ k h,λi hi=>S.par i hi (by omega)⟩⟩
       .intro t y L;simp only[fV]at L;cases ht:(Zy (DJ am s0.e A.keep) A.ks us).get t with
        |none=>rw[ht]at L;cases L
        |some v=>
         rw[ht]at L;simp only[aG]at L;rcases Dl hlen t v ht with ⟨j,q1,U⟩|⟨q1,U⟩
         .obtain⟨y',p1,p2⟩:=lK hlu j v U;rw[L]at p2;cases p2;obtain⟨z,p3,p4⟩:=S.val j y (a.tmps.getD t undef) p1;refine p4 ?_;obtain⟨v0,p5,p6⟩:=g2 j t q1;obtain⟨z',p7,p8⟩:=lK hla j v0 p5;rw[p3]at p7;cases p7;exact c2.env t _ (by simp only[fV,p6,aG,p8])
         .obtain⟨k1,k2,k3,k4⟩:=uy U;obtain⟨Z,k5⟩:=JV hc.2 t v k1 k2 k3 k4;have:=hk t k1 q1 v k2 k3 k4 Z k5;subst this;have h3:=c.env t y (by simp only[fV,k5,aG];rw[Tf s'.h h1 Z k3];exact L);exact h3.restrict (p:=λ_=>af) (λi k hi _=>by cases hi) (λk hk=>by
           have h4:=S.tot_ k hk;rcases h4 with h4|h4
           .exact .inl h4
           .exact .inr (by
             have hkl:k<w.heap.size:=by
              obtain⟨n,b,e1,e2⟩:=h4;obtain⟨k',p1,_,ob,p3,_⟩:=c2.rep.at_ n b e1;rw[e2]at p1;cases p1;exact (cH.1 p3).1
             exact t2.own_ k hkl h4)) (S6 Z y k3 L)
       .intro t v hv;rcases Dl hlen t v hv with ⟨j,q1,U⟩|⟨q1,U⟩
        .obtain⟨y',_,p2⟩:=lK hlu j v U;exact FX _ _ _ p2
        .exact YP _ v (uy U).2.2.1
      .cases hs
     .cases hs
    .cases s
   .cases s
  .cases s
 .cases s
theorem Ff {A:Ann} {am:Nat} {a s1:TS} {x:A.D} (hs:HZ A am a x=M s1):gr (MA A.ks 0) a.e s1.e/\∀k,k∉A.ks->∀v,s1.e.get k=M v->a.e.get k=M v:=by
 unfold HZ at hs;split at hs
 .rename_i us h1 hi;split at hs
  .rename_i hlen;have hlen:=ar hlen;simp only[ah]at hs;subst hs;have key:∀k,k∉A.ks->∀v,(Zy (DJ am a.e A.keep) A.ks us).get k=M v->a.e.get k=M v:=λk hk v hv=>by
    rcases Dl hlen k v hv with ⟨j,L,_⟩|⟨_,z⟩
    .exact b8 (aZ L) hk
    .exact (uy z).2.1
   refine ⟨λk hk s hv=>?_,key⟩;have hnk:k∉A.ks:=λhm=>by rw[YG hm]at hk;cases hk
   exact⟨s,key k hnk s hv,λ_=>rfl⟩
  .cases hs
 .cases hs
end walk
inductive Er:TC->SC->Prop
 |skip:Er .skip .skip
 |reg (ops:List tF) (prs:List (Nat×Nat)):Er (.reg ops prs) (.reg ops prs)
 |seq {a b:TC} {a' b':SC}:Er a a'->Er b b'->Er (.seq a b) (.seq a' b')
 |jseq (A:Ann) {a b:TC} {a' b':SC}:Er a a'->Er b b'->Er (.jseq A a b) (.seq a' b')
 |cond (c:Nat) {a b:TC} {a' b':SC}:Er a a'->Er b b'->Er (.cond c a b) (.cond c a' b')
 |block (id:Nat) {b:TC} {b':SC}:Er b b'->Er (.block id b) (.block id b')
 |jblock (A:Ann) (id:Nat) {b:TC} {b':SC}:Er b b'->Er (.jblock A id b) (.block id b')
 |loop (A:Ann) {b:TC} {b':SC}:Er b b'->Er (.loop A b) (.loop b')
 |exit (id:Nat):Er (.exit id) (.exit id)
 |ret:Er .ret .ret
 |defer (f:FuncId) (c:List Operand) (t:Nat):Er (.defer f c t) (.defer f c t)
 |adj (l:List Adj) {c:TC} {c':SC}:Er c c'->Er (.adj l c) c'
 |split (k off lo n:Nat) {c:TC} {c':SC}:Er c c'->Er (.split k off lo n c) c'
 |unl (n:Nat) {b:TC} {b':SC}:Er b b'->Er (.unl n b) (.loop b')
 |bad (c:SC):Er .bad c
theorem Dc {H:PT agi} {n:Nat} {c:TC} {c':SC} (h:Er c c'):Er (Jd H n c) c':=by
 unfold Jd;split
 .exact .adj _ h
 .exact .split _ _ _ _ h
 .exact h
theorem yF (H:PT agi):∀(c:SC) (n:Nat),Er (EC H c n).1 c
 |.skip,n=>Dc .skip
 |.reg o p,n=>Dc (.reg o p)
 |.seq a b,n=>by
  have h1:=yF H a (n+1);have h2:=yF H b (EC H a (n+1)).2;simp only[EC];split
  .exact .jseq _ h1 h2
  .exact .seq h1 h2
 |.cond c a b,n=>by
  have h1:=yF H a (n+1);have h2:=yF H b (EC H a (n+1)).2;simp only[EC];exact Dc (.cond c h1 h2)
 |.block id b,n=>by
  have h1:=yF H b (n+1);simp only[EC];split
  .exact .jblock _ id h1
  .exact .block id h1
 |.loop b,n=>by
  have h1:=yF H b (n+1);simp only[EC];split
  .exact .loop _ h1
  .exact .unl _ h1
  .exact .bad _
 |.exit id,n=>Dc (.exit id)
 |.ret,n=>Dc .ret
 |.defer f c t,n=>.defer f c t
 |.bad,n=>.bad _
theorem ZL {σ R:Type} {step:σ->I (σ⊕R)} {x:σ} {r:R} (h:iter step x=M r):∃n,iterN step n x=M r:=by
 unfold iter at h;split at h
 .exact⟨_,h⟩
 .cases h
theorem YI {α R:Type} {o:I (R⊕α)} {k:α->I R} {r:R} (h:jn o k=M r):(∃x,o=M (.inr x)/\k x=M r)\/o=M (.inl r):=by
 unfold jn at h;split at h
 .exact .inl ⟨_,rfl,h⟩
 .cases h;exact .inr rfl
 .cases h
section inv
variable {P:Program} {nt:Nat}
theorem AA (id:Nat) (ops:Array Oper) (a:Bool):cB P nt (.region id ops a)= .bad\/
 ((ops.toList.all λo=>match o.dst with|some d=>decide (d<nt)|none=>J)=J/\
   ((∃f caps t,EB ops a=M (f,caps,t)/\cB P nt (.region id ops a)= .defer f caps t)\/
    ∃l prs,sS P ops ops.toList=M l/\NT ops l=M prs/\cB P nt (.region id ops a)= .reg l prs)):=by
 simp only[cB];split
 .rename_i hd;split
  .rename_i f caps t h;exact .inr ⟨hd,.inl ⟨f,caps,t,h,rfl⟩⟩
  .split
   .rename_i l hl;split
    .rename_i prs hp;exact .inr ⟨hd,.inr ⟨l,prs,hl,hp,rfl⟩⟩
    .exact .inl rfl
   .exact .inl rfl
 .exact .inl rfl
def Fn:Code->Bool
 |.cond (.const (.bool _)) _ _=>af
 |_=>J
theorem kB (P:Program) (nt:Nat) (c:Code):∃c',Fn c'=J/\cB P nt c'=cB P nt c/\∀Q a w,c'.wp P Q a w->c.wp P Q a w:=by
 have self:∀c:Code,Fn c=J->∃c',Fn c'=J/\cB P nt c'=cB P nt c/\∀Q a w,c'.wp P Q a w->c.wp P Q a w:=λc h=>⟨c,h,rfl,λ_ _ _ h=>h⟩
 induction c with
 |cond o x y ihx ihy=>
  cases o with
  |const v=>
   cases v with
   |bool b=>
    cases b with
    |true=>
     obtain⟨c',h1,h2,s⟩:=ihx;exact⟨c',h1,h2,λQ a w h=>wp_cond_true rfl (s Q a w h)⟩
    |false=>
     obtain⟨c',h1,h2,s⟩:=ihy;exact⟨c',h1,h2,λQ a w h=>wp_cond_false rfl (s Q a w h)⟩
   |_=>exact self _ rfl
  |_=>exact self _ rfl
 |_=>exact self _ rfl
theorem GP {α:Prop} {o:Operand} {x y:Code} {sc:SC} (hn:Fn (.cond o x y)=J) (h:cB P nt (.cond o x y)=sc) (h1:sc≠ .bad) (h2:∀t a b,sc≠ .cond t a b):α:=by
 cases o with
 |tmp q=>exact (h2 _ _ _ h.symm).elim
 |const v=>cases v<;>first|exact (h1 h.symm).elim|cases hn
 |global g=>exact (h1 h.symm).elim
 |func f=>exact (h1 h.symm).elim
theorem ai2 {c:Code} {sl:Y tF} {prs:Y (Nat×Nat)} (hn:Fn c=J) (h:cB P nt c= .reg sl prs):∃id ops a,c= .region id ops a/\(ops.toList.all λo=>match o.dst with|some d=>decide (d<nt)|none=>J)=J/\sS P ops ops.toList=M sl/\NT ops sl=M prs:=by
 cases c with
 |region id ops a=>
  rcases AA (P:=P) (nt:=nt) id ops a with h1|⟨hd,⟨f,caps,t,_,h1⟩|⟨l,p,h2,s,h1⟩⟩
  .rw[h1]at h;cases h
  .rw[h1]at h;cases h
  .rw[h1]at h;cases h;exact⟨id,ops,a,rfl,hd,h2,s⟩
 |cond o x y=>exact GP hn h (by simp) (by simp)
 |_=>simp[cB]at h
theorem ZM {c:Code} {f:FuncId} {caps:Y Operand} {t:Nat} (hn:Fn c=J) (h:cB P nt c= .defer f caps t):∃id ops a,c= .region id ops a/\(ops.toList.all λo=>match o.dst with|some d=>decide (d<nt)|none=>J)=J/\EB ops a=M (f,caps,t):=by
 cases c with
 |region id ops a=>
  rcases AA (P:=P) (nt:=nt) id ops a with h1|⟨hd,⟨f',caps',t',h2,h1⟩|⟨l,p,h2,s,h1⟩⟩
  .rw[h1]at h;cases h
  .rw[h1]at h;cases h;exact⟨id,ops,a,rfl,hd,h2⟩
  .rw[h1]at h;cases h
 |cond o x y=>exact GP hn h (by simp) (by simp)
 |_=>simp[cB]at h
theorem pP {c:Code} {sc:SC} (h:cB P nt c=sc) (h1:sc≠ .bad) (h2:∀a b,sc≠ .reg a b) (A:∀a b t,sc≠ .defer a b t):∀id ops z,c≠ .region id ops z:=by
 rintro id ops z rfl;rcases AA (P:=P) (nt:=nt) id ops z with s|⟨_,⟨f,caps,t,_,s⟩|⟨l,p,_,_,s⟩⟩<;>rw[s]at h
 .exact h1 h.symm
 .exact A _ _ _ h.symm
 .exact h2 _ _ h.symm
theorem ae0 {c:Code} (hn:Fn c=J) (h:cB P nt c= .skip):c= .skip:=by
 have a:=pP h (by simp) (by simp) (by simp);cases c with
 |skip=>rfl
 |region id ops s=>exact b8 rfl (a id ops s)
 |cond o x y=>exact GP hn h (by simp) (by simp)
 |_=>simp[cB]at h
theorem ai1 {c:Code} (hn:Fn c=J) (h:cB P nt c= .ret):c= .ret:=by
 have a:=pP h (by simp) (by simp) (by simp);cases c with
 |ret=>rfl
 |region id ops s=>exact b8 rfl (a id ops s)
 |cond o x y=>exact GP hn h (by simp) (by simp)
 |_=>simp[cB]at h
theorem ae1 {c:Code} {i:Nat} (hn:Fn c=J) (h:cB P nt c= .exit i):c= .exit i:=by
 have a:=pP h (by simp) (by simp) (by simp);cases c with
 |exit id=>simp[cB]at h;rw[h]
 |region id ops s=>exact b8 rfl (a id ops s)
 |cond o x y=>exact GP hn h (by simp) (by simp)
 |_=>simp[cB]at h
theorem YK {c:Code} {a b:SC} (hn:Fn c=J) (h:cB P nt c= .seq a b):∃x y,c= .seq x y/\cB P nt x=a/\cB P nt y=b:=by
 have s:=pP h (by simp) (by simp) (by simp);cases c with
 |seq x y=>simp[cB]at h;exact⟨x,y,rfl,h.1,h.2⟩
 |region id ops z=>exact b8 rfl (s id ops z)
 |cond o x y=>exact GP hn h (by simp) (by simp)
 |_=>simp[cB]at h
theorem ae2 {c:Code} {t:Nat} {a b:SC} (hn:Fn c=J) (h:cB P nt c= .cond t a b):∃x y,c= .cond (.tmp t) x y/\cB P nt x=a/\cB P nt y=b:=by
 have s:=pP h (by simp) (by simp) (by simp);cases c with
 |cond o x y=>
  cases o with
  |tmp q=>simp[cB]at h;obtain⟨rfl,h1,h2⟩:=h;exact⟨x,y,rfl,h1,h2⟩
  |const v=>cases v<;>first|(simp [cB]at h;done)|cases hn
  |_=>simp[cB]at h
 |region id ops z=>exact b8 rfl (s id ops z)
 |_=>simp[cB]at h
theorem Oa {c:Code} {id:Nat} {b:SC} (hn:Fn c=J) (h:cB P nt c= .block id b):∃y,c= .block id y/\cB P nt y=b:=by
 have a:=pP h (by simp) (by simp) (by simp);cases c with
 |block i y=>simp[cB]at h;obtain⟨rfl,h1⟩:=h;exact⟨y,rfl,h1⟩
 |region id ops s=>exact b8 rfl (a id ops s)
 |cond o x y=>exact GP hn h (by simp) (by simp)
 |_=>simp[cB]at h
theorem R_ {c:Code} {b:SC} (hn:Fn c=J) (h:cB P nt c= .loop b):∃y,c= .loop y/\cB P nt y=b:=by
 have a:=pP h (by simp) (by simp) (by simp);cases c with
 |loop y=>simp[cB]at h;exact⟨y,rfl,h⟩
 |region id ops s=>exact b8 rfl (a id ops s)
 |cond o x y=>exact GP hn h (by simp) (by simp)
 |_=>simp[cB]at h
end inv
def ald {R:Type} (P:Program) (E:Nat->Prop) (nt np:Nat) (φ:PM) (s:TS) (w:World) (am:Nat) (K:Ex->TS->I R) (r:R):Exit->Act->World->Prop:=
 λe a' w'=>∃ex s' φ',e=ex.to/\K ex s'=M r/\pn P E nt np φ' s' a' w'/\C3 np φ φ' (bz s.h) (bz s'.h) w w'/\gr am s.e s'.e
theorem pn.bool {P:Program} {E:Nat->Prop} {nt np:Nat} {φ:PM} {s:TS} {a:Act} {w:World} (c:pn P E nt np φ s a w) {t:Nat} {b:Bool} (ht:s.e.get t=M (.f .bool b)):a.eval (.tmp t)= .bool b:=
 fD (c.env t _ (by simp only[fV,ht,aG,cA];rfl))
theorem pn.anyb {P:Program} {E:Nat->Prop} {nt np:Nat} {φ:PM} {s:TS} {a:Act} {w:World} (c:pn P E nt np φ s a w) {t:Nat} (ht:s.e.get t=M .anyb):∃b,a.eval (.tmp t)= .bool b:=by
 have:=c.env t .anyb (by simp only[fV,ht,aG,cA]);show ∃b,a.tmps.getD t undef= .bool b;generalize a.tmps.getD t undef=z at this;cases this with
 |anyb=>exact⟨_,rfl⟩
theorem aaz {R:Type} {a b:I R} {r:R} (h:Gg a b=M r):a=M r/\b=M r:=by
 unfold Gg at h;split at h
 .rename_i e;exact⟨h,by rw[<- e];exact h⟩
 .cases h
theorem alv {P:Program} {E:Nat->Prop} {nt np:Nat} {con:FuncId->I co} {b_:TypeId->I Ty} {inert:FuncId->Bool} (hm:P.follows .mixedOrders=J) (hcon:Mc P con) (hin:L9 P inert):
 ∀{tc:TC} {sc:SC},Er tc sc->∀(c:Code),cB P nt c=sc->∀(R:Type) (s:TS) (K:Ex->TS->I R) (r:R),pH np con b_ inert tc s K=M r->∀(φ:PM) (a:Act) (w:World),pn P E nt np φ s a w->c.wp P (ald P E nt np φ s w (tc.asg 0) K r) a w:=by
 intro tc sc hE;induction hE with
 |skip=>
  intro c hc R s K r h φ a w g;obtain⟨c',hn,z,hsim⟩:=kB P nt c;refine hsim _ _ _ ?_;rw[<- z]at hc;rw[ae0 hn hc];exact wp_skip ⟨.normal,s,φ,rfl,h,g,C3.refl _ _ _ _,gr.refl _ _⟩
 |reg ops prs=>
  intro c hc R s K r h φ a w g;obtain⟨c',hn,z,hsim⟩:=kB P nt c;refine hsim _ _ _ ?_;rw[<- z]at hc;obtain⟨id,os,dr,rfl,h1,h2,h3⟩:=ai2 hn hc;simp only[pH]at h;refine ad3 (K:=λs'=>K .normal s') hm hcon g (am:=Q0 ops 0) (λj o d ho hd=>?_) h1 h2 h3 h λa' w' s' φ' q1 L q3 q4=>⟨.normal,s',φ',rfl,q1,L,q3,q4⟩
  have hmem:o∈os.toList:=by have:=Array.mem_of_getElem? ho;simpa using this
  have key:∀(rest:Y Oper) (sl:Y tF),sS P os rest=M sl->∀o∈rest,∃so∈sl,so.dst=o.dst:=by
   intro rest;induction rest with
   |nil=>intro sl _ o ho;cases ho
   |cons x rest ih=>
    intro sl hsl o ho;simp only[sS]at hsl;split at hsl
    .rename_i l hl;have:∃so,sl=so::l/\so.dst=x.dst:=by
      split at hsl
      .simp only[ah]at hsl;exact⟨_,hsl.symm,rfl⟩
      .split at hsl
       .simp only[ah]at hsl;exact⟨_,hsl.symm,rfl⟩
       .cases hsl
     obtain⟨so,rfl,hso⟩:=this;rcases bm.1 ho with rfl|ho
     .exact⟨so,by simp,hso⟩
     .obtain⟨q,hq,hq2⟩:=ih l hl o ho;exact⟨q,by simp[hq],hq2⟩
    .cases hsl
  obtain⟨so,hso,hd2⟩:=key os.toList ops h2 o hmem;exact Uz hso (by rw[hd2];exact hd)
 |@seq x y x' y' _ _ ihx ihy=>
  intro c hc R s K r h φ a w g;obtain⟨c',hn,z,hsim⟩:=kB P nt c;refine hsim _ _ _ ?_;rw[<- z]at hc;obtain⟨cx,cy,rfl,h1,h2⟩:=YK hn hc;simp only[pH]at h;refine wp_seq (wp_mono (ihx cx h1 R s _ r h φ a w g) ?_);rintro e a' w' ⟨ex,s',φ',rfl,hk,g',st,U⟩;have kp':gr ((TC.seq x y).asg 0) s.e s'.e:=U.mono λk hk=>by simp only[TC.asg];exact kO hk
  cases ex with
  |normal=>
   refine wp_mono (ihy cy h2 R s' K r hk φ' a' w' g') ?_;rintro e2 a2 w2 ⟨ex2,s2,φ2,rfl,hk2,g2,st2,kp2⟩;exact⟨ex2,s2,φ2,rfl,hk2,g2,st.trans st2,kp'.trans (kp2.mono λk hk=>by simp only[TC.asg];exact wn hk)⟩
  |exit id=>exact⟨.exit id,s',φ',rfl,hk,g',st,kp'⟩
  |ret=>exact⟨.ret,s',φ',rfl,hk,g',st,kp'⟩
 |@jseq A x y x' y' _ _ ihx ihy=>
  intro c hc R s K r h φ a w g;obtain⟨c',hn,z,hsim⟩:=kB P nt c;refine hsim _ _ _ ?_;rw[<- z]at hc;obtain⟨cx,cy,rfl,h1,h2⟩:=YK hn hc;simp only[pH]at h;have sub1:∀k,aO (x.asg 0) k=J->aO ((TC.jseq A x y).asg 0) k=J:=λk hk=>by simp only[TC.asg];exact kO (wn hk)
  have sub2:∀k,aO (y.asg 0) k=J->aO ((TC.jseq A x y).asg 0) k=J:=λk hk=>by simp only[TC.asg];exact wn hk
  have sub3:∀k,aO (MA A.ks 0) k=J->aO ((TC.jseq A x y).asg 0) k=J:=λk hk=>by simp only[TC.asg];exact kO (kO hk)
  rcases YI h with ⟨d,h3,h4⟩|h3
  .refine wp_seq (wp_mono (ihx cx h1 _ s _ _ h3 φ a w g) ?_);rintro e a' w' ⟨ex,s',φ',rfl,hk,g',st,U⟩;cases ex with
   |normal=>
    simp only[]at hk;obtain⟨d',q1,L⟩:=dS hk;simp only[ah,Sum.inr.injEq]at L;subst L;split at h4
    .rename_i s1 hs1;obtain⟨φ1,g1,Jl⟩:=PH g' q1 hs1 λk _ _ v hv hf ha v' Z=>by
      obtain⟨v0,e1,e2⟩:=U k ha v' Z;rw[hv]at e1;cases e1;exact e2 hf
     refine wp_mono (ihy cy h2 R s1 K r h4 φ1 a' w' g1) ?_;rintro e2 a2 w2 ⟨ex2,s2,φ2,rfl,hk2,g2,st2,kp2⟩;exact⟨ex2,s2,φ2,rfl,hk2,g2,(st.trans Jl).trans st2,((Ff hs1).1.mono sub3).trans (kp2.mono sub2)⟩
    .cases h4
   |exit id=>simp only[]at hk;obtain⟨_,_,L⟩:=dS hk;simp at L
   |ret=>simp only[]at hk;obtain⟨_,_,L⟩:=dS hk;simp at L
  .refine wp_seq (wp_mono (ihx cx h1 _ s _ _ h3 φ a w g) ?_);rintro e a' w' ⟨ex,s',φ',rfl,hk,g',st,U⟩;cases ex with
   |normal=>simp only[]at hk;obtain⟨_,_,L⟩:=dS hk;simp at L
   |exit id=>
    simp only[]at hk;obtain⟨r',q1,L⟩:=dS hk;simp only[ah,Sum.inl.injEq]at L;subst L;exact⟨.exit id,s',φ',rfl,q1,g',st,U.mono sub1⟩
   |ret=>
    simp only[]at hk;obtain⟨r',q1,L⟩:=dS hk;simp only[ah,Sum.inl.injEq]at L;subst L;exact⟨.ret,s',φ',rfl,q1,g',st,U.mono sub1⟩
 |@cond t x y x' y' _ _ ihx ihy=>
  intro c hc R s K r h φ a w g;obtain⟨c',hn,z,hsim⟩:=kB P nt c;refine hsim _ _ _ ?_;rw[<- z]at hc;obtain⟨cx,cy,rfl,h1,h2⟩:=ae2 hn hc;simp only[pH]at h;split at h
  .rename_i b hb;rcases qd h with ⟨rfl,h⟩|⟨rfl,h⟩
   .refine wp_cond_true (g.bool hb) (wp_mono (ihx cx h1 R s K r h φ a w g) ?_);rintro e a' w' ⟨ex,s',φ',rfl,hk,g',st,U⟩;exact⟨ex,s',φ',rfl,hk,g',st,U.mono λk hk=>by simp only[TC.asg];exact kO hk⟩
   .refine wp_cond_false (g.bool hb) (wp_mono (ihy cy h2 R s K r h φ a w g) ?_);rintro e a' w' ⟨ex,s',φ',rfl,hk,g',st,U⟩;exact⟨ex,s',φ',rfl,hk,g',st,U.mono λk hk=>by simp only[TC.asg];exact wn hk⟩
  .rename_i hb;obtain⟨ha,hbb⟩:=aaz h;obtain⟨bv,hbv⟩:=g.anyb hb;cases bv with
   |true=>
    refine wp_cond_true hbv (wp_mono (ihx cx h1 R s K r ha φ a w g) ?_);rintro e a' w' ⟨ex,s',φ',rfl,hk,g',st,U⟩;exact⟨ex,s',φ',rfl,hk,g',st,U.mono λk hk=>by simp only[TC.asg];exact kO hk⟩
   |false=>
    refine wp_cond_false hbv (wp_mono (ihy cy h2 R s K r hbb φ a w g) ?_);rintro e a' w' ⟨ex,s',φ',rfl,hk,g',st,U⟩;exact⟨ex,s',φ',rfl,hk,g',st,U.mono λk hk=>by simp only[TC.asg];exact wn hk⟩
  .cases h
 |@block id b b' _ ih=>
  intro c hc R s K r h φ a w g;obtain⟨c',hn,z,hsim⟩:=kB P nt c;refine hsim _ _ _ ?_;rw[<- z]at hc;obtain⟨cb,rfl,h1⟩:=Oa hn hc;simp only[pH]at h;refine wp_block (wp_mono (ih cb h1 R s _ r h φ a w g) ?_);rintro e a' w' ⟨ex,s',φ',rfl,hk,g',st,U⟩;cases ex with
  |normal=>exact⟨.normal,s',φ',rfl,hk,g',st,U⟩
  |ret=>exact⟨.ret,s',φ',rfl,hk,g',st,U⟩
  |exit i=>
   simp only[Ex.to,Exit.inBlock];simp only[]at hk;split at hk
   .rename_i hb;rw[aC (ar hb)];exact⟨.normal,s',φ',rfl,hk,g',st,U⟩
   .rename_i hb;rw[aw (λe=>hb (by rw[e];exact sF id))];exact⟨.exit i,s',φ',rfl,hk,g',st,U⟩
 |@jblock A id b b' _ ih=>
  intro c hc R s K r h φ a w g;obtain⟨c',hn,z,hsim⟩:=kB P nt c;refine hsim _ _ _ ?_;rw[<- z]at hc;obtain⟨cb,rfl,h1⟩:=Oa hn hc;simp only[pH]at h;have sub1:∀k,aO (b.asg 0) k=J->aO ((TC.jblock A id b).asg 0) k=J:=λk hk=>by simp only[TC.asg];exact wn hk
  have sub3:∀k,aO (MA A.ks 0) k=J->aO ((TC.jblock A id b).asg 0) k=J:=λk hk=>by simp only[TC.asg];exact kO hk
  rcases YI h with ⟨d,h3,h4⟩|h3
  .refine wp_block (wp_mono (ih cb h1 _ s _ _ h3 φ a w g) ?_);rintro e a' w' ⟨ex,s',φ',rfl,hk,g',st,U⟩;have fin:au (M1 np A (b.asg 0) s s') (λx=>M (bS (α:=R) x))=M (bS d)->ald P E nt np φ s w ((TC.jblock A id b).asg 0) K r .normal a' w':=by
    intro hk;obtain⟨d',q1,L⟩:=dS hk;simp only[ah,Sum.inr.injEq]at L;subst L;split at h4
    .rename_i s1 hs1;obtain⟨φ1,g1,Jl⟩:=PH g' q1 hs1 λk _ _ v hv hf ha v' Z=>by
      obtain⟨v0,e1,e2⟩:=U k ha v' Z;rw[hv]at e1;cases e1;exact e2 hf
     exact⟨.normal,s1,φ1,rfl,h4,g1,st.trans Jl,(Ff hs1).1.mono sub3⟩
    .cases h4
   cases ex with
   |normal=>exact fin hk
   |ret=>simp only[]at hk;obtain⟨_,_,L⟩:=dS hk;simp at L
   |exit i=>
    simp only[Ex.to,Exit.inBlock];simp only[]at hk;split at hk
    .rename_i hb;rw[aC (ar hb)];exact fin hk
    .obtain⟨_,_,L⟩:=dS hk;simp at L
  .refine wp_block (wp_mono (ih cb h1 _ s _ _ h3 φ a w g) ?_);rintro e a' w' ⟨ex,s',φ',rfl,hk,g',st,U⟩;cases ex with
   |normal=>simp only[]at hk;obtain⟨_,_,L⟩:=dS hk;simp at L
   |ret=>
    simp only[]at hk;obtain⟨r',q1,L⟩:=dS hk;simp only[ah,Sum.inl.injEq]at L;subst L;exact⟨.ret,s',φ',rfl,q1,g',st,U.mono sub1⟩
   |exit i=>
    simp only[Ex.to,Exit.inBlock];simp only[]at hk;split at hk
    .obtain⟨_,_,L⟩:=dS hk;simp at L
    .rename_i hb;rw[aw (λe=>hb (by rw[e];exact sF id))];obtain⟨r',q1,L⟩:=dS hk;simp only[ah,Sum.inl.injEq]at L;subst L;exact⟨.exit i,s',φ',rfl,q1,g',st,U.mono sub1⟩
 |@loop A b b' _ ih=>
  intro c hc R s K r h φ a w g;obtain⟨c',hn,z,hsim⟩:=kB P nt c;refine hsim _ _ _ ?_;rw[<- z]at hc;obtain⟨cb,rfl,h1⟩:=R_ hn hc;simp only[pH]at h;obtain⟨x0,hx0,h⟩:=dS h;obtain⟨n,hn⟩:=ZL h;have sub1:∀k,aO (b.asg 0) k=J->aO ((TC.loop A b).asg 0) k=J:=λk hk=>by simp only[TC.asg];exact wn hk
  have sub3:∀k,aO (MA A.ks 0) k=J->aO ((TC.loop A b).asg 0) k=J:=λk hk=>by simp only[TC.asg];exact kO hk
  obtain⟨step,hstep⟩:∃step:A.D->I (A.D⊕R),step=λx=>(match HZ A (b.asg 0) s x with
   |some s'=>pH np con b_ inert b s' λex s'=>(match ex with
    |.normal=>au (M1 np A (b.asg 0) s s') λy=>M (oh y)
    |ex=>au (K ex s') λr=>M (bS r))
   |none=>D):=⟨_,rfl⟩
  have hn:iterN step n x0=M r:=by rw[hstep];exact hn
  have stepEq:∀x,step x=(match HZ A (b.asg 0) s x with
   |some s'=>pH np con b_ inert b s' λex s'=>(match ex with
    |.normal=>au (M1 np A (b.asg 0) s s') λy=>M (oh y)
    |ex=>au (K ex s') λr=>M (bS r))
   |none=>D):=λx=>by rw[hstep]
  let Inv:Nat->Act->World->Prop:=λn a w'=>∃x s1 φ1,iterN step n x=M r/\HZ A (b.asg 0) s x=M s1/\pn P E nt np φ1 s1 a w'/\C3 np φ φ1 (bz s.h) (bz s1.h) w w'
  have head:∀(n:Nat) (x:A.D),iterN step n x=M r->∃s1,HZ A (b.asg 0) s x=M s1:=by
   intro n x hn;cases n with
   |zero=>cases hn
   |succ n=>
    simp only[iterN]at hn;cases hr:HZ A (b.asg 0) s x with
    |some s1=>exact⟨s1,rfl⟩
    |none=>rw[stepEq,hr]at hn;cases hn
  refine Dd Inv ?_ (n:=n) ?_
  .rintro n a1 w1 ⟨x,s1,φ1,hi,hr,g1,Jl⟩;cases n with
   |zero=>cases hi
   |succ n=>
    simp only[iterN]at hi;have hse:=stepEq x;rw[hr]at hse;simp only[]at hse;obtain⟨kp1,kp1'⟩:=Ff hr;split at hi
    .rename_i y hy;rw[hy]at hse;refine wp_mono (ih cb h1 _ s1 _ _ hse.symm φ1 a1 w1 g1) ?_;rintro e a' w' ⟨ex,s',φ',rfl,hk,g',st,U⟩;cases ex with
     |normal=>
      simp only[]at hk;obtain⟨d',q1,L⟩:=dS hk;simp only[ah,Sum.inl.injEq]at L;subst L;obtain⟨s2,hs2⟩:=head n d' hi;obtain⟨φ2,g2,st2⟩:=PH g' q1 hs2 λk hkk hks v hv hf ha v' Z=>by
       obtain⟨v0,e1,e2⟩:=U k ha v' Z;have:=kp1' k hks v0 e1;rw[hv]at this;cases this;exact e2 hf
      exact⟨n,by omega,d',s2,φ2,hi,hs2,g2,(Jl.trans st).trans st2⟩
     |exit id=>simp only[]at hk;obtain⟨_,_,L⟩:=dS hk;simp at L
     |ret=>simp only[]at hk;obtain⟨_,_,L⟩:=dS hk;simp at L
    .rename_i r' hy;cases hi;rw[hy]at hse;refine wp_mono (ih cb h1 _ s1 _ _ hse.symm φ1 a1 w1 g1) ?_;rintro e a' w' ⟨ex,s',φ',rfl,hk,g',st,U⟩;cases ex with
     |normal=>simp only[]at hk;obtain⟨_,_,L⟩:=dS hk;simp at L
     |exit id=>
      simp only[]at hk;obtain⟨r',q1,L⟩:=dS hk;simp only[ah,Sum.inr.injEq]at L;subst L;exact⟨.exit id,s',φ',rfl,q1,g',Jl.trans st,(kp1.mono sub3).trans (U.mono sub1)⟩
     |ret=>
      simp only[]at hk;obtain⟨r',q1,L⟩:=dS hk;simp only[ah,Sum.inr.injEq]at L;subst L;exact⟨.ret,s',φ',rfl,q1,g',Jl.trans st,(kp1.mono sub3).trans (U.mono sub1)⟩
    .cases hi
  .obtain⟨s1,hs1⟩:=head n x0 hn;obtain⟨φ1,g1,Jl⟩:=PH g hx0 hs1 λk _ _ v hv _ _ v' Z=>by rw[hv]at Z;cases Z;rfl
   exact⟨x0,s1,φ1,hn,hs1,g1,Jl⟩
 |exit id=>
  intro c hc R s K r h φ a w g;obtain⟨c',hn,z,hsim⟩:=kB P nt c;refine hsim _ _ _ ?_;rw[<- z]at hc;rw[ae1 hn hc];exact wp_exit ⟨.exit id,s,φ,rfl,h,g,C3.refl _ _ _ _,gr.refl _ _⟩
 |ret=>
  intro c hc R s K r h φ a w g;obtain⟨c',hn,z,hsim⟩:=kB P nt c;refine hsim _ _ _ ?_;rw[<- z]at hc;rw[ai1 hn hc];exact wp_ret ⟨.ret,s,φ,rfl,h,g,C3.refl _ _ _ _,gr.refl _ _⟩
 |defer f caps t=>
  intro c hc R s K r h φ a w g;obtain⟨c',hn,z,hsim⟩:=kB P nt c;refine hsim _ _ _ ?_;rw[<- z]at hc;obtain⟨id,ops,dr,rfl,h1,h2⟩:=ZM hn hc;simp only[pH]at h;split at h
  .rename_i l hl;split at h
   .rename_i hi;obtain⟨l',e1,e2⟩:=zQ g.invE hl;obtain⟨H,hH⟩:=j7 s.h;have lowN:∀n k,φ n=M k->n<2*s.nx+2:=λn k hk=>by have:=g.dom n k hk;unfold ow at this;omega
    have cfg:Cfg P ⟨2*s.nx+2,φ,E,bz s.h,w⟩ nt ⟨Kz s.e s.h,H,2*s.nx+2,0⟩ a w:=by
     refine ⟨⟨φ,?_,?_,?_,lowN,λi k hk=>.inl hk⟩,bT _,g.inert,g.size⟩
     .rw[hH];exact jt.refl _ _ _
     .rw[hH];exact g.rep
     .rw[hH,v8];exact g.env
    refine Tu hin cfg h1 h2 e1 hi λa' w' c'=>?_
    obtain⟨φ',m',r',en',dm',d0'⟩:=c'.ex;have hφ:φ'=φ:=by
     funext n;cases hx:φ n with
     |some k=>exact m'.sub n k hx
     |none=>
      cases hy:φ' n with
      |none=>rfl
      |some k=>
       rcases d0' n k hy with h3|h3
       .have h3:φ n=M k:=h3;rw[hx]at h3;cases h3
       .have h4:n<2*s.nx+2:=dm' n k hy;have h5:2*s.nx+2<=n:=h3;omega
    subst hφ;simp only[hH]at m' r' en';refine ⟨.normal,_,φ',rfl,h,⟨r',?_,g.dom,g.low,g.invH,?_,c'.inert,c'.size⟩,⟨m'.ext,m'.own_,λ_ _=>rfl⟩,?_⟩
    .intro u x hx;refine en' u x ?_;simp only[fV,PT.get_set]at hx;simp only[AJ.put,PT.get_set];split at hx
     .rename_i eu;rw[aC eu];simp only[aG,cA,e2,ah]at hx;rw[hx]
     .rename_i eu;rw[aw eu,v8];exact hx
    .intro u x hx;simp only[PT.get_set]at hx;split at hx
     .cases hx;simp only[Mx];exact kh _ _ _ e2
     .exact g.invE u x hx
    .intro k hk v' Z;simp only[PT.get_set]at Z;split at Z
     .rename_i ek;subst ek;simp only[TC.asg]at hk;rw[bu,b9.2 rfl]at hk;simp at hk
     .exact⟨v',Z,λ_=>rfl⟩
   .cases h
  .cases h
 |@adj l tc' sc' _ ih=>
  intro c hc R s K r h φ a w g;obtain⟨c',hn,z,hsim⟩:=kB P nt c;refine hsim _ _ _ ?_;rw[<- z]at hc;simp only[pH]at h;split at h
  .rename_i s1 hs1;obtain⟨φ1,g1,Jl,kp1⟩:=XM g hs1;refine wp_mono (ih c' hc R s1 K r h φ1 a w g1) ?_;rintro e a' w' ⟨ex,s',φ',rfl,hk,g',st,U⟩;exact⟨ex,s',φ',rfl,hk,g',Jl.trans st,(kp1.mono λk hk=>by simp only[TC.asg];exact kO hk).trans (U.mono λk hk=>by simp only[TC.asg];exact wn hk)⟩
  .cases h
 |@split k off lo n tc' sc' _ ih=>
  intro c hc R s K r h φ a w g;obtain⟨c',hn,z,hsim⟩:=kB P nt c;refine hsim _ _ _ ?_;rw[<- z]at hc;simp only[pH]at h;split at h
  .rename_i kd v hv;obtain⟨j,hj,h2⟩:=RC h;subst hj;split at h2
   .rename_i s1 hs1;obtain⟨g1,hH,he⟩:=acz g hv hs1;refine wp_mono (ih c' hc R s1 K r h2 φ a w g1) ?_;rintro e a' w' ⟨ex,s',φ',rfl,hk,g',st,U⟩;exact⟨ex,s',φ',rfl,hk,g',by rw[<- hH];exact st,λk hk v' Z=>by
     obtain⟨v,q1,L⟩:=U k hk v' Z;exact⟨v,by rw[<- he];exact q1,L⟩⟩
   .cases h2
  .cases h
 |@unl n b b' _ ih=>
  intro c hc R s K r h φ a w g;obtain⟨c',hn,z,hsim⟩:=kB P nt c;refine hsim _ _ _ ?_;rw[<- z]at hc;obtain⟨cb,rfl,h1⟩:=R_ hn hc;simp only[pH]at h
  let Inv:Nat->Act->World->Prop:=λm a w'=>∃s1 φ1,ah4 (λs K=>pH np con b_ inert b s K) m s1 K=M r/\pn P E nt np φ1 s1 a w'/\C3 np φ φ1 (bz s.h) (bz s1.h) w w'/\gr (b.asg 0) s.e s1.e
  refine Dd Inv ?_ (n:=n) ⟨s,φ,h,g,C3.refl _ _ _ _,gr.refl _ _⟩;rintro m a1 w1 ⟨s1,φ1,hi,g1,Jl,kp1⟩;cases m with
  |zero=>cases hi
  |succ m=>
   simp only[ah4]at hi;refine wp_mono (ih cb h1 R s1 _ r hi φ1 a1 w1 g1) ?_;rintro e a' w' ⟨ex,s',φ',rfl,hk,g',st,U⟩;cases ex with
   |normal=>exact⟨m,rE m,s',φ',hk,g',Jl.trans st,kp1.trans U⟩
   |exit id=>exact⟨.exit id,s',φ',rfl,hk,g',Jl.trans st,kp1.trans U⟩
   |ret=>exact⟨.ret,s',φ',rfl,hk,g',Jl.trans st,kp1.trans U⟩
 |bad sc'=>
  intro c hc R s K r h;simp[pH]at h
theorem Pn {P:Program} {φ:PM} {E:Nat->Prop} {s:TS} {a:Act} {w:World} (hinv:mH s.h s.nx) (hiE:ut s.e s.h) (r:rL φ E (bz s.h) w) (en:O1 φ (tot E φ (bz s.h)) w (fV s.e s.h) a):∀(rs:Y ResultVar) (rvs:Y RV) (l:Y TV),wj P rs=M rvs->Vx s rvs=M l->
 ∃la vs,cP s.h l=M la/\(rs.mapM (ZA a.tmps)).run P w= .ok vs w/\ku φ (tot E φ (bz s.h)) w la vs
 |[],rvs,l,hc,hr=>by
  simp only[wj,ah]at hc;subst hc;simp only[Vx,ah]at hr;subst hr;exact⟨[],[],rfl,by simp,trivial⟩
 |.tmp t::rs,rvs,l,hc,hr=>by
  simp only[wj]at hc;split at hc
  .rename_i rvs' hrs;simp only[ah]at hc;subst hc;simp only[Vx]at hr;split at hr
   .rename_i v hv;split at hr
    .rename_i L z;simp only[ah]at hr;subst hr;obtain⟨la,vs,h0,h1,h2⟩:=Pn hinv hiE r en rs rvs' L hrs z;simp only[rvT]at hv;obtain⟨y,Z⟩:=pI s.h v (hiE t v hv);refine ⟨y::la,a.tmps.getD t undef::vs,pD Z h0,?_,en t y (by simp only[fV,hv,aG,Z]),h2⟩;simp only[List.mapM_cons,eQ,ZA,po,cU];show ((rs.mapM (ZA a.tmps)).run P w).andThen _=_;rw[h1];rfl
    .cases hr
   .cases hr
  .cases hc
 |.cell ad t::rs,rvs,l,hc,hr=>by
  simp only[wj]at hc;split at hc
  .rename_i rvs' sz ag hrs hsz hag;simp only[ah]at hc;subst hc;simp only[Vx]at hr;split at hr
   .rename_i v hv;split at hr
    .rename_i L z;simp only[ah]at hr;subst hr;obtain⟨la,vs,h0,h1,h2⟩:=Pn hinv hiE r en rs rvs' L hrs z;simp only[rvT]at hv;split at hv
     .rename_i id off hp;split at hv
      .rename_i ty q hb;obtain⟨q',A⟩:=fx s.h q (hinv.cells id _ q hb);obtain⟨y,e1,e2⟩:=Yf A hv;obtain⟨H,hH⟩:=j7 s.h;have hR:ES H sz ag (.ptr (nm id) off)=M ⟨y,[nm id],[],[],[]⟩:=by
        have hg:H.get (nm id)=M ⟨ty,.mx q'⟩:=by rw[hH,bH,hb];simp only[aG,jN,A]
        simp only[ES,hg,e2]
       obtain⟨_,_,_,h3⟩:=UD (P:=P) hsz hag hR;obtain⟨qq,U,h4,h5,h6⟩:=h3 φ E (bz s.h) w _ (λi _=>by rw[hH]) r (en ad _ (by simp only[fV,hp,aG,cA]));refine ⟨y::la,U::vs,pD e1 h0,?_,h6,h2⟩;have hone:(ZA a.tmps (.cell ad t)).run P w= .ok U w:=by
        simp only[ZA,eQ,h4,asAddr,po,cU,h5]
       rw[List.mapM_cons];simp only[eQ,hone,cU,h1,po]
      .cases hv
     .cases hv
    .cases hr
   .cases hr
  .cases hc
theorem Gi:∀(args:Y TV) (k t:Nat) (x:TV),(LV k args).get t=M x->k<=t/\args[t-k]? =M x
 |[],k,t,x,h=>by simp[LV,PT.get]at h
 |y::args,k,t,x,h=>by
  rw[LV,PT.get_set]at h;split at h
  .rename_i hk;subst hk;cases h;exact⟨bT _,by simp⟩
  .obtain⟨h1,h2⟩:=Gi args (k+1) t x h;refine ⟨by omega,?_⟩;rw[show t-k=t-(k+1)+1 from by omega];simpa using h2
theorem adi {h:bk} {l:Y TV} (s:lz h l=J) {j:Nat} {v:TV} (hj:l[j]? =M v):Mx h v=J:=by
 obtain⟨z,hl⟩:=fx h l s;obtain⟨y,_,a⟩:=lK hl j v hj;exact FX _ _ _ a
theorem Vn {P:Program} {con:FuncId->I co} {b_:TypeId->I Ty} {inert:FuncId->Bool} (hm:P.follows .mixedOrders=J) (hcon:Mc P con) (hin:L9 P inert) {f:FuncId} {sf:SF} (hf:AB P f=M sf) (A:FT) (m:A.pre.ty.den->I A.post.ty.den) (hmod:∀x y,m x=M y->act con b_ inert (M sf) A x=M y):qB P f ⟨A.pre,A.post,m⟩:=by
 obtain⟨fn,c,hfn,hb,hnm,hcode,hres,hnt⟩:=Uo hf;refine ⟨⟨fn,hfn,by rw[hb];rfl,hnm⟩,λx y hxy vs hp l1 rs hq l2 la lr B K hla hlr φ E w us hrep hrel hdom=>?_⟩;have ht:=hmod x y hxy;unfold act at ht;simp only[]at ht;split at ht
 .rename_i args h hins;obtain⟨l1',I'⟩:=xn hins;have e1:args=vs:=by have h1:=B.pv;have h2:=I'.pv;rw[h1]at h2;cases h2;rfl
  have e2:l1'=l1:=by have h1:=B.pb;have h2:=I'.pb;rw[h1]at h2;cases h2;rfl
  subst e1;subst e2;have hget:∀i,h.get i=hp.get i:=λi=>by
   cases U:hp.get i with
   |some b=>exact (I'.at_ i b).2 ((B.at_ i b).1 U)
   |none=>
    cases h4:h.get i with
    |none=>rfl
    |some b=>have:=(B.at_ i b).2 ((I'.at_ i b).1 h4);rw[U]at this;cases this
  have hrow:∀i,eM h i=eM hp i:=λi=>by rw[bV,bV,hget]
  have herH:bz h=bz hp:=by
   funext n;by_cases hn:∃i,n=nm i
   .obtain⟨i,rfl⟩:=hn;rw[bH,bH,hget];cases U:hp.get i with
    |none=>rfl
    |some b=>
     simp only[aG];refine KA (λi r hr=>by rw[hrow];exact hr) λty l e=>?_
     exact (B.cells i _ l (by rw[U,e])).1
   .rw[xt _ hn,xt _ hn]
  have hla':cP h args=M la:=gy (λi r hr=>by rw[hrow];exact hr) args la hla;split at ht
  .rename_i hle;simp only[al]at hle;have hle2:=a_ hle.2;have hle:=a_ hle.1;have hlen:=hrel.length;have hargl:args.length=la.length:=(gU hla).symm;refine calls_of_wp_defers hfn hb ?_;have hcfg:pn P E fn.ntmps A.pre.bs.length φ ⟨LV 0 args,h,A.pre.bs.length⟩ {tmps:=us.toArray++oZ (fn.ntmps-us.toArray.size) undef,defers:=[]} w:=by
    refine ⟨by rw[herH];exact hrep,?_,hdom,bT _,⟨λi ty l hl=>(I'.cells i _ l hl).1,λi b hbb=>I'.lt_len hbb⟩,?_,by simp,by simp;omega⟩
    .intro t z a;simp only[fV]at a;cases L:(LV 0 args).get t with
     |none=>rw[L]at a;cases a
     |some v0=>
      rw[L]at a;obtain⟨_,h2⟩:=Gi args 0 t v0 L;rw[Nat.sub_zero]at h2;obtain⟨y0,Z,s⟩:=lK hla' t v0 h2;simp only[aG]at a;rw[a]at s;cases s;obtain⟨v,U,h4⟩:=hrel.get t z Z;have hlt:t<us.length:=(bn.1 U).1;have:(us.toArray++oZ (fn.ntmps-us.toArray.size) undef).getD t undef=v:=by
       rw[gW,Array.getElem?_append];simp only[ua,hlt,bI,kP,U,vL]
      show cS φ _ w z ((us.toArray++oZ (fn.ntmps-us.toArray.size) undef).getD t undef);rw[this,herH];exact h4
    .intro t v0 hv0;obtain⟨_,h2⟩:=Gi args 0 t v0 hv0;exact adi I'.ok h2
   refine wp_mono (alv (E:=E) hm hcon hin (yF A.hints sf.code 0) c hcode.symm _ _ _ _ ht φ _ w hcfg) ?_;rintro e a' w' ⟨ex,s',φ',rfl,hk,g',st,_⟩;have fin:(match Vx s' sf.res with
    |some l=>(match Fr A.pre.bs.length A.post l s'.h with
     |some ⟨y,_,_,_⟩=>(match DL A.post y with|some _=>M y|none=>D)
     |none=>D)
    |none=>D)=M y->Leaves P fn a'.tmps (λen w'=>∃v φ',en= .returned v/\Ja (own φ (bz hp)) w w'/\(∀k,k<w.heap.size->own φ' (bz hq) k->own φ (bz hp) k)/\(∀i,i<A.pre.bs.length->φ' (nm i)=φ (nm i))/\rL φ' E (bz hq) w'/\cS φ' (tot E φ' (bz hq)) w' (Fb lr) v) a'.defers .returning w':=by
    intro hk;split at hk
    .rename_i l hl;split at hk
     .rename_i y' m' σ sm hM;split at hk
      .simp only[ah]at hk;subst hk;obtain⟨lo,rvs,q0,Z,s⟩:=Pn g'.invH g'.invE g'.rep g'.env fn.results.toList sf.res l hres hl;have H:=xg hM;obtain⟨φ2,lu,hlu,S⟩:=Ms (np:=A.pre.bs.length) (E:=E) K g'.invH H q0 g'.rep;rw[hlr]at hlu;cases hlu;have hresults:(results fn a'.tmps).run P w'= .ok (if h:rvs.toArray.size=1 then rvs.toArray[0] else .tuple rvs.toArray) w':=by
        rw[Vz,Array.mapM_eq_mapM_toList];simp only[eQ,Sem.run_map,Z,cU,po]
       have hrl:ku φ2 (tot E φ2 (bz hq)) w' lr rvs:=by
        refine ku.of (by rw[s.length,S.len]) λj z v a hv=>?_
        obtain⟨z0,p1,p2⟩:=S.val j z v a;obtain⟨v',p3,p4⟩:=s.get j z0 p1;rw[hv]at p3;cases p3;exact p2 p4
       have hval:cS φ2 (tot E φ2 (bz hq)) w' (Fb lr) (if h:rvs.toArray.size=1 then rvs.toArray[0] else .tuple rvs.toArray):=by
        have hll:=hrl.length;clear hlr S;cases lr with
        |nil=>
         cases rvs with
         |nil=>exact cS.tup (vs:=[]) rfl (by intro j x v L;simp at L)
         |cons _ _=>exact hrl.elim
        |cons z lr=>
         cases rvs with
         |nil=>exact hrl.elim
         |cons v rvs=>
          cases lr with
          |nil=>
           cases rvs with
           |nil=>exact hrl.1
           |cons _ _=>exact hrl.2.elim
          |cons y l=>
           cases rvs with
           |nil=>exact hrl.2.elim
           |cons u rvs=>
            rw[dif_neg (by simp)];refine cS.tup (vs:=v::u::rvs) (by simpa using hll) λj x' v' L hv=>?_
            obtain⟨v'',Z,s⟩:=hrl.get j x' L;rw[hv]at Z;cases Z;exact s
       have st':C3 A.pre.bs.length φ φ' (bz hp) (bz s'.h) w w':=by rw[<- herH];exact st
       refine DC hresults ⟨_,φ2,rfl,st'.ext,λk hk ho=>st'.own_ k hk (S.own_ k ho),λi hi=>?_,S.rep,hval⟩ a'.defers g'.inert;rw[S.par i hi (dK hi hle2),st'.par i hi]
      .cases hk
     .cases hk
    .cases hk
   cases ex with
   |normal=>exact fin hk
   |ret=>exact fin hk
   |exit id=>cases hk
  .cases ht
 .cases ht
def Xq:Y (FuncId×co)->FuncId->I co
 |[],_=>D
 |(g,c)::r,f=>if aB g f then M c else Xq r f
def Vb (P:Program):Y (FuncId×co)->Prop
 |[]=>True
 |p::r=>aH P p.1 p.2/\Vb P r
theorem Y6 {P:Program}:∀{l:Y (FuncId×co)},Vb P l->Mc P (Xq l)
 |[],_,f,c,h=>by simp[Xq]at h
 |(g,d)::r,a,f,c,h=>by
  simp only[Xq]at h;split at h
  .rename_i hb;have:=ar hb;subst this;cases h;exact a.1
  .exact Y6 a.2 f c h
theorem SS {P:Program} {inert:FuncId->Bool} (hm:P.follows .mixedOrders=J) (hin:L9 P inert) {l:Y (FuncId×co)} (a:Vb P l) {b_:TypeId->I Ty} {f:FuncId} {z:FT} {m:z.pre.ty.den->I z.post.ty.den} (hs:(AB P f).isSome=J) (he:∀x,act (Xq l) b_ inert (AB P f) z x=m x):qB P f ⟨z.pre,z.post,m⟩:=by
 obtain⟨s,hf⟩:=iY.1 hs;exact Vn hm (Y6 a) hin hf z m λx y hxy=>by rw[<- hf,he];exact hxy
theorem qB.sub {P:Program} {f:FuncId} {pre post:Tm} {m m':pre.ty.den->I post.ty.den} (h:qB P f ⟨pre,post,m⟩) (hs:∀x y,m' x=M y->m x=M y):qB P f ⟨pre,post,m'⟩:=
 ⟨h.callable,λx y hxy=>h.calls x y (hs x y hxy)⟩
theorem aH.sub {P:Program} {f:FuncId} {pre post:Tm} {m m':pre.ty.den->I post.ty.den} (h:aH P f ⟨pre,post,m⟩) (hb:eR pre.bs.length post.bs.length=J) (hs:∀x y,m' x=M y->m x=M y):aH P f ⟨pre,post,m'⟩:=
 ((h.holds hb).sub hs).toC hb
theorem sB {α:Type} {b:Nat}:∀(x y:Y α),chk (a8 (ai x) b) (λ_=>M x)=M y->aF (aB (ai x) 0) (Gg (M ([]:Y α)) (chk (a8 (ai ([]:Y α)+ai x) b) λ_=>(M (([]:Y α)++x)))) (chk (a8 (ai ([]:Y α)+ai x) b) λ_=>(M (([]:Y α)++x)))=M y:=by
 intro x y h;rw[kn,gE,bK,h];cases x with
 |nil=>
  obtain⟨_,h⟩:=ey h;cases h;show Gg (M []) (M [])=_;unfold Gg;rw[aC rfl]
 |cons a r=>rfl
theorem Wv {P:Program} {f:FuncId} {pre post:Tm} (hs:(AB P f).isSome=J):qB P f ⟨pre,post,λ_=>D⟩:=by
 obtain⟨a,hf⟩:=iY.1 hs;obtain⟨fn,c,hfn,hb,hnm,_⟩:=Uo hf;exact⟨⟨fn,hfn,by rw[hb];rfl,hnm⟩,λx y h=>by cases h⟩
theorem qB.orElse {P:Program} {f:FuncId} {pre post:Tm} {m m':pre.ty.den->I post.ty.den} (h:qB P f ⟨pre,post,m⟩) (h':qB P f ⟨pre,post,m'⟩):qB P f ⟨pre,post,λx=>match m x with|some y=>M y|none=>m' x⟩:=
 ⟨h.callable,λx y hxy=>by
   cases hm:m x with
   |some z=>rw[show (co.m ⟨pre,post,λx=>match m x with|some y=>M y|none=>m' x⟩ x)=M z by show (match m x with|some y=>M y|none=>m' x)=M z;rw[hm]]at hxy;cases hxy;exact h.calls x _ hm
   |none=>rw[show (co.m ⟨pre,post,λx=>match m x with|some y=>M y|none=>m' x⟩ x)=m' x by show (match m x with|some y=>M y|none=>m' x)=m' x;rw[hm]]at hxy;exact h'.calls x y hxy⟩
theorem aH.orE {P:Program} {f:FuncId} {pre post:Tm} {m m':pre.ty.den->I post.ty.den} (hb:eR pre.bs.length post.bs.length=J) (h:aH P f ⟨pre,post,m⟩) (h':aH P f ⟨pre,post,m'⟩):aH P f ⟨pre,post,λx=>AI.orE (m x) (m' x)⟩:=by
 have e:(λx=>AI.orE (m x) (m' x))=λx=>match m x with|some y=>M y|none=>m' x:=by funext x;cases m x<;>rfl
 rw[e];exact ((h.holds hb).orElse (h'.holds hb)).toC hb
def acp (P:Program) (f:Ty->TypeId->Bool):Y Field->Nat->Ty->Bool
 |[],_,.un=>J
 |[x],off,T=>aB x.offset off&&f T x.type&&aB (P.cellsOf x.type) T.size
 |x::y::r,off,.pr a b=>aB x.offset off&&f a x.type&&aB (P.cellsOf x.type) a.size&&acp P f (y::r) (off+a.size) b
 |_,_,_=>af
def Vl (P:Program) (f:Ty->TypeId->Bool) (e:TypeId):Nat->Ty->Bool
 |1,T=>f T e&&aB (P.cellsOf e) T.size
 |m+2,.pr a b=>f a e&&aB (P.cellsOf e) a.size&&Vl P f e (m+1) b
 |_,_=>af
def Ck (P:Program):Nat->Ty->TypeId->Bool
 |0,_,_=>af
 |n+1,T,t=>match T,P.underlying t with
  |.int k,M (.int k')=>k==k'
  |.bool,M .bool=>J
  |.str,M .string=>J
  |.sl U,M (.slice e)=>Ck P n U e&&aB (P.cellsOf e) U.size&&gF 0 U.size
  |.st U,M (.struct fs)=>acp P (Ck P n) fs.toList 0 U&&aB (P.cellsOf t) U.size
  |.st U,M (.array m e)=>Vl P (Ck P n) e m U&&aB (P.cellsOf t) U.size
  |_,_=>af
def Yb:(T:Ty)->T.den->Prop
 |.int k,n=>(Lit.int k n).wf=J
 |.str,s=>ai s<=maxLen
 |.sl U,xs=>ai xs<=maxLen/\∀x∈(xs:Y U.den),Yb U x
 |.st t,v=>Yb t v
 |.pr a b,v=>Yb a v.1/\Yb b v.2
 |_,_=>True
def L4 (W:World) (T:Ty) (x:T.den) (cs:ξ):Prop:=cs.length=T.size/\∀(j:Nat) y v,(bX T x)[j]? =M y->cs[j]? =M v->oe (λ_=>False) W y v
theorem LJ {α:Type} (z:α) (P:Nat->α->Prop):∀n:Nat,(∀i,i<n->∃a,P i a)->∃l:Y α,l.length=n/\∀i x,l[i]? =M x->P i x
 |0,_=>⟨[],rfl,λi x h=>by simp at h⟩
 |n+1,h=>by
  obtain⟨l,hl,hp⟩:=LJ z P n (λi hi=>h i (by omega));obtain⟨a,A⟩:=h n (by omega);refine ⟨l++[a],by simp[hl],λi x s=>?_⟩;by_cases hi:i<l.length
  .rw[bU hi]at s;exact hp i x s
  .rw[cj (by omega)]at s;by_cases h0:i-l.length=0
   .rw[h0]at s;simp at s;subst s;rw[show i=n from by omega];exact A
   .rw[bF (by simp;omega)]at s;cases s
theorem Addr.add_plain {a:Addr} (h:a.spot=D) (n:Nat):a.add n=⟨a.block,a.off+n,D⟩:=by
 unfold Addr.add;split
 .rename_i h0;subst h0;cases a;simp at h;subst h;rfl
 .rfl
theorem aav {w:World} {a:Addr} {v:Value} (h:w.cell? a=M v):a.spot=D:=by
 unfold O5 at h;split at h
 .split at h
  .cases h
  .rename_i hs;cases hh:a.spot with
   |none=>rfl
   |some _=>simp[hh]at hs
 .cases h
theorem L4.sub {W:World} {T:Ty} {x:T.den} {cs:ξ} {off n:Nat} (h:L4 W T x ((cs.drop off).take n)) (hn:n=T.size) (hl:off+n<=cs.length):∀(j:Nat) y v,(bX T x)[j]? =M y->cs[off+j]? =M v->oe (λ_=>False) W y v:=λj y v a hv=>by
 refine h.2 j y v a ?_;have hj:j<T.size:=by have:=(bn.1 a).1;rwa [bD]at this
 rw[cW,aC (by omega),ig];exact hv
section
variable {H:Type} {enc:TypeId×Value->H} {P:Program} {W:World} {base:Nat} {sp:Nat->Bool} {hd:Bool}
theorem Yv {f:Ty->TypeId->Bool} {m:Nat} (L:∀(T:Ty) (t:TypeId) (cs:ξ) x,f T t=J->DataW.trod enc P W base sp hd m t cs=M x->∃v,L4 W T v cs/\Yb T v) (cs:ξ) (ts:Y (DataW H×Y MemPlace)):
 ∀(fs:Y Field) (off k:Nat) (T:Ty),acp P f fs off T=J->off+T.size<=cs.length->(∀(i:Nat) (fl:Field),fs[i]? =M fl->∃z,DataW.trod enc P W base sp hd m fl.type ((cs.drop fl.offset).take (P.cellsOf fl.type))=M z)->
 ∃v,(∀(j:Nat) y u,(bX T v)[j]? =M y->cs[off+j]? =M u->oe (λ_=>False) W y u)/\Yb T v
 |[],off,k,.un,_,_,_=>⟨(),λj y u s=>by simp[bX]at s,trivial⟩
 |[x],off,k,T,h,hl,hg=>by
  simp only[acp,al]at h;obtain⟨⟨h1,h2⟩,A⟩:=h;have h1:=ar h1;have A:=ar A;obtain⟨z,U⟩:=hg 0 x rfl;obtain⟨v,hv,hw⟩:=L T _ _ _ h2 U;rw[h1]at hv;exact⟨v,hv.sub A (by omega),hw⟩
 |x::x'::r,off,k,.pr a b,h,hl,hg=>by
  simp only[acp,al]at h;obtain⟨⟨⟨h1,h2⟩,A⟩,h4⟩:=h;have h1:=ar h1;have A:=ar A;simp only[Ty.size]at hl;obtain⟨z,U⟩:=hg 0 x rfl;obtain⟨v,hv,hw⟩:=L a _ _ _ h2 U;rw[h1]at hv;have hv:=hv.sub A (by omega);obtain⟨v',hv',Z⟩:=Yv L cs ts (x'::r) (off+a.size) (k+1) b h4 (by omega) (λi fl hi=>hg (i+1) fl (by simpa using hi));refine ⟨(v,v'),λj y u s hu=>?_,hw,Z⟩;simp only[bX]at s;by_cases hj:j<a.size
  .rw[bU (by rw[bD];exact hj)]at s;exact hv j y u s hu
  .rw[cj (by rw[bD];omega),bD]at s;exact hv' _ y u s (by rw[show off+a.size+(j-a.size)=off+j from by omega];exact hu)
theorem Yw {f:Ty->TypeId->Bool} {m:Nat} {e:TypeId} (A:∀(T:Ty) (t:TypeId) (cs:ξ) x,f T t=J->DataW.trod enc P W base sp hd m t cs=M x->∃v,L4 W T v cs/\Yb T v) (cs:ξ):
 ∀(n i:Nat) (T:Ty),Vl P f e n T=J->i*P.cellsOf e+T.size<=cs.length->(∀j,j<n->∃z,DataW.trod enc P W base sp hd m e ((cs.drop ((i+j)*P.cellsOf e)).take (P.cellsOf e))=M z)->
 ∃v,(∀(j:Nat) y u,(bX T v)[j]? =M y->cs[i*P.cellsOf e+j]? =M u->oe (λ_=>False) W y u)/\Yb T v
 |0,i,T,h,_,_=>by unfold Vl at h;cases h
 |1,i,T,h,hl,hg=>by
  simp only[Vl,al]at h;have h3:=ar h.2;obtain⟨z,L⟩:=hg 0 (by omega);obtain⟨v,hv,Z⟩:=A T _ _ _ h.1 L;rw[dt]at hv;exact⟨v,hv.sub h3 (by omega),Z⟩
 |n+2,i,T,h,hl,hg=>by
  cases T with
  |pr a b=>
   simp only[Vl,al]at h;obtain⟨⟨h1,h2⟩,h4⟩:=h;have h3:=ar h2;simp only[Ty.size]at hl;obtain⟨z,L⟩:=hg 0 (by omega);obtain⟨v,hv,Z⟩:=A a _ _ _ h1 L;rw[dt]at hv;have hv:=hv.sub h3 (by omega);obtain⟨v',hv',U⟩:=Yw A cs (n+1) (i+1) b h4 (by rw[O7,Nat.one_mul];omega) (λj hj=>by have:=hg (j+1) (by omega);rwa [show i+(j+1)=i+1+j from by omega]at this);refine ⟨(v,v'),λj y u s hu=>?_,Z,U⟩;simp only[bX]at s;by_cases hj:j<a.size
   .rw[bU (by rw[bD];exact hj)]at s;exact hv j y u s hu
   .rw[cj (by rw[bD];omega),bD]at s;exact hv' _ y u s (by rw[O7,Nat.one_mul,show i*P.cellsOf e+P.cellsOf e+(j-a.size)=i*P.cellsOf e+j from by omega];exact hu)
  |_=>unfold Vl at h;cases h
theorem IK:∀(n:Nat) (T:Ty) (t:TypeId) (fuel:Nat) (cs:ξ) x,Ck P n T t=J->(∀b,sp b=J)->DataW.trod enc P W base sp hd fuel t cs=M x->∃v,L4 W T v cs/\Yb T v
 |0,_,_,_,_,_,h,_,_=>by unfold Ck at h;cases h
 |n+1,T,t,fuel,cs,x,h,hsp,ht=>by
  unfold Ck at h;split at h
  .rename_i k k' hu;have hk:=eq_of_beq h;subst hk;obtain⟨m,rfl,_,L⟩:=DataW.trod_int hu ht;refine ⟨m,⟨rfl,λj y v A hv=>?_⟩,L⟩;cases j with
   |zero=>simp[bX]at A hv;subst A hv;exact .raw _
   |succ j=>simp[bX]at A
  .rename_i hu;obtain⟨b,rfl,_⟩:=DataW.trod_bool hu ht;refine ⟨b,⟨rfl,λj y v A hv=>?_⟩,trivial⟩;cases j with
   |zero=>simp[bX]at A hv;subst A hv;exact .raw _
   |succ j=>simp[bX]at A
  .rename_i hu;obtain⟨s,rfl,_,hs⟩:=DataW.trod_string hu ht;refine ⟨s.data.toList,⟨rfl,λj y v A hv=>?_⟩,by simpa[Yb] using hs⟩;cases j with
   |zero=>simp[bX]at A hv;subst A hv;exact .raw _
   |succ j=>simp[bX]at A
  .rename_i U e hu;simp only[al]at h;obtain⟨⟨h1,h2⟩,h3⟩:=h;have h2:=ar h2;have h3:0<U.size:=a_ h3;rcases Go.Deep.open_slice hu ht with ⟨rfl,_⟩|⟨a,len,cap,m,k,z,Pl,rfl,hb,hl,hm,hmm,_,hi⟩
   .refine ⟨[],⟨rfl,λj y v A hv=>?_⟩,by simp[Yb]⟩;cases j with
    |zero=>simp[bX]at A hv;subst A hv;exact .nil _ _ (by unfold maxLen;omega)
    |succ j=>simp[bX]at A
   .rw[hsp,aC rfl]at hmm;rw[h2]at hi;obtain⟨xs,hx1,hx2⟩:=LJ U.zero (λi (v:U.den)=>∃cs',W.cells? base (a.add (i*U.size)) U.size=M cs'/\L4 W U v cs'/\Yb U v) len (λi hil=>by
     obtain⟨cs',hc,htt⟩:=hi i (by omega);obtain⟨v,hv,L⟩:=IK n U e k cs' _ h1 hsp htt;exact⟨v,cs',hc,hv,L⟩)
    refine ⟨xs,⟨rfl,λj y v A hv=>?_⟩,by show ai xs<=maxLen;omega,λy A=>?_⟩
    .cases j with
     |succ j=>simp[bX]at A
     |zero=>
      simp[bX]at A hv;subst A hv;by_cases h0:len=0
      .have:xs=[]:=g_.1 (by omega);subst this;subst h0;exact .nil _ _ hm
      .obtain⟨x0,hx0⟩:∃x0,xs[0]? =M x0:=⟨xs[0]'(by omega),ay (by omega)⟩
       obtain⟨cs0,hc0,_⟩:=hx2 0 x0 hx0;obtain⟨_,hcl0,hat0⟩:=World.cells?_some hc0;have hca:=hat0 0 h3;rw[ay (by omega)]at hca;have hspot:a.spot=D:=by
        have:=aav hca;simpa[Addr.add] using this
       have hblk:=World.block_lt_of_cell? W _ hca;rw[Nat.zero_mul,Addr.add_plain hspot,Addr.add_plain rfl]at hca hblk;have hcell:∀(i j:Nat) x,xs[i]? =M x->j<U.size->∃cs',W.cell? ⟨a.block,a.off+(i*U.size+j),D⟩=cs'[j]? /\j<cs'.length/\L4 W U x cs':=λi j x hx hj=>by
        obtain⟨cs',hc,hr,_⟩:=hx2 i x hx;obtain⟨_,hcl,hat⟩:=World.cells?_some hc;have:=hat j hj;rw[Addr.add_plain hspot,Addr.add_plain rfl,qf]at this;exact⟨cs',this,by omega,hr⟩
       have hflat:∀j,j<xs.length*U.size->∃x,xs[j/U.size]? =M x/\j%U.size<U.size/\j=j/U.size*U.size+j%U.size:=λj hj=>by
        have h5:j/U.size<xs.length:=Nat.div_lt_of_lt_mul (by rw[IB];exact hj);exact⟨xs[j/U.size],ay h5,Nat.mod_lt _ h3,by rw[IB];exact (Nat.div_add_mod j U.size).symm⟩
       have hlen:(List.flatMap (bX U) xs).length=xs.length*U.size:=fQ (bD U) xs;obtain⟨ab,ao,az⟩:=a;cases hspot;rw[<- hx1];refine .sl (List.flatMap (bX U) xs) xs.length cap ab ao (λj=>(W.cell? ⟨ab,ao+j,D⟩).getD undef) (by omega) hm (λh=>h) hblk (su U xs) (λj hj=>?_) (λj y A=>?_)
       .obtain⟨x,hx,hjs,hje⟩:=hflat j (by omega);obtain⟨cs',g1,g2,_⟩:=hcell _ _ x hx hjs;rw[<- hje]at g1;simp only[g1,ay g2,vL]
       .have hj:j<xs.length*U.size:=by rw[<- hlen];exact (bn.1 A).1
        obtain⟨x,hx,hjs,hje⟩:=hflat j hj;obtain⟨cs',g1,g2,g3⟩:=hcell _ _ x hx hjs;rw[<- hje]at g1;simp only[g1];rw[ay g2];refine g3.2 (j%U.size) y _ ?_ (ay g2);obtain⟨r,hr⟩:=FR (bD U) xs (j/U.size) x hx;have:((List.flatMap (bX U) xs).drop (j/U.size*U.size))[j%U.size]? =M y:=by rw[ig,<-hje];exact A
        rw[hr,bU (by rw[bD];exact hjs)]at this;exact this
    .obtain⟨i,Z⟩:=fw A;obtain⟨_,_,_,L⟩:=hx2 i y Z;exact L
  .rename_i U fs hu;simp only[al]at h;have h2:=ar h.2;obtain⟨xs,m,rfl,_,hl,hxl,hg⟩:=DataW.trod_struct hu ht;obtain⟨v,hv,L⟩:=Yv (f:=Ck P n) (m:=m) (λT t cs x h1 h2=>IK n T t m cs x h1 hsp h2) cs xs fs.toList 0 0 U h.1 (by omega) (λi fl hi=>by
    have Z:fs[i]? =M fl:=by simpa using hi
    have:=hg i fl Z;have hlt:i<xs.length:=by rw[hxl];exact (cH.1 Z).1
    rw[ay hlt]at this;exact⟨_,this⟩)
   exact⟨v,⟨by rw[hl,h2];rfl,λj y u A hu=>hv j y u A (by rw[bK];exact hu)⟩,L⟩
  .rename_i U m e hu;simp only[al]at h;have h2:=ar h.2;obtain⟨xs,q,rfl,_,hl,hxl,hg⟩:=DataW.trod_array hu ht;obtain⟨v,hv,L⟩:=Yw (f:=Ck P n) (m:=q) (λT t cs x h1 h2=>IK n T t q cs x h1 hsp h2) cs m 0 U h.1 (by omega) (λj hj=>by
    have:=hg j hj;rw[ay (by omega)]at this;rw[bK];exact⟨_,this⟩)
   exact⟨v,⟨by rw[hl,h2];rfl,λj y u A hu=>hv j y u A (by rw[Nat.zero_mul,bK];exact hu)⟩,L⟩
  .cases h
theorem R1 {n:Nat} {T:Ty} {t:TypeId} {v:Value} {r:Reach} {bs:Nat} (a:Ck P n T t=J) (h1:T.one=J) (h:Ix P W r bs t v):v.cells.toList=[v]:=by
 cases n with
 |zero=>unfold Ck at a;cases a
 |succ n=>
  unfold Ck at a;unfold Ix at h;cases v with
  |agg cs=>
   exfalso;split at a<;>rename_i hu<;>first|(rw [hu]at h;simp only[]at h;unfold Cell.okWide at h;rw[hu]at h;unfold Cell.ok at h;rw[hu]at h;simp at h)|cases h1|cases a
  |_=>rfl
theorem VN {n:Nat} {T:Ty} {t:TypeId} {v:Value} {r:Reach} {bs:Nat} (a:Ck P n T t=J) (h1:T.one=af) (h:Ix P W r bs t v):∃cs,v= .agg cs:=by
 cases n with
 |zero=>unfold Ck at a;cases a
 |succ n=>
  unfold Ck at a;unfold Ix at h;split at a<;>rename_i hu<;>first|(rw [hu]at h;obtain⟨cs,h,_⟩:=h;exact⟨cs,h⟩)|cases h1|cases a
theorem open_arg {n:Nat} {T:Ty} {t:TypeId} {v:Value} {d:DataW H} {ps:Y MemPlace} {r:Reach} {bs:Nat} (s:Ck P n T t=J) (hsp:∀b,sp b=J) (hok:Ix P W r bs t v) (h:DataW.Trod enc P W base sp hd t v d ps):∃x,oe (λ_=>False) W (gL T x) v/\Yb T x:=by
 obtain⟨fuel,hf⟩:=h;obtain⟨x,a,A⟩:=IK n T t fuel _ _ s hsp hf;refine ⟨x,?_,A⟩;by_cases h1:T.one=J
 .obtain⟨e1,e2⟩:=D_ T x h1;exact a.2 0 _ v (by rw[e1];rfl) (by rw[R1 s h1 hok];rfl)
 .obtain⟨cs,rfl⟩:=VN s (by simpa using h1) hok;rw[rn T x (by simpa using h1)];have hl:cs.toList.length=(bX T x).length:=by rw[bD];exact a.1
  have:=oe.agg (O:=λ_=>False) (w:=W) (bX T x) cs.toList hl (oH T x) (λj y u z hu=>a.2 j y u z hu);simpa using this
end
theorem Zb {z:Int} (h:(Lit.int .u8 z).wf=J):0<=z/\z<=255:=⟨ba (pu.1 h).1,ba (pu.1 h).2⟩
def fo (w:WT) (l:Y ET) (c:η) (y:η):η:=y.foldl (λc k=>jl c (kr w l k.toNat)) c
theorem Og {w:WT} {l:Y ET} (a:TR (w,l)) {j:Nat} (hj:j<=l.length):∀(y:η) (c:η),En (j:Int) c->(∀k∈y,0<=k/\k<j)->En (j:Int) (fo w l c y)
 |[],_,h,_=>h
 |k::r,c,h,g=>by
  obtain⟨A,k1⟩:=g k (c9 ..);exact Og a hj r _ (h.jl ((Gb a (show k.toNat<l.length by omega)).mono (by omega))) λz s=>g z (cC _ s)
theorem aif {w:WT} {l:Y ET} {c y:η} {i:Nat} (h:i<y.length):fo w l c (y.take (i+1))=jl (fo w l c (y.take i)) (kr w l (aJ (T:=.int .i64) y (i:Int)).toNat):=by
 rw[nu (T:=.int .i64) h];unfold fo;rw[dz];rfl
theorem aku {w:WT} {l:Y ET} (a:TR (w,l)) {n:Int} {c:η} (hc:En n c) (p:Nat->Bool) (j:Nat):fo w l c (fL p j)=jl c (JC (kr w l) p j):=by
 rw[<- YR hc j];unfold fo fL;rw[List.foldl_map];rfl
theorem TD {w:WT} {l:Y ET} {j:Nat} {k:Int} (h0:0<=k) (h1:k<j):aJ (T:=.sl (.int .i64)) ((cq j).map (kr w l)) k=kr w l k.toNat:=by
 obtain⟨k,rfl⟩:∃i:Nat,k=i:=⟨k.toNat,by omega⟩
 rw[rm,bO,av,bd,wN (by omega)];rfl
theorem N_ {w:WT} {l:Y ET} (s:TR (w,l)) {j:Nat} (hj:j<=l.length) {c y:η} (hc:En (j:Int) c) (L:∀k∈y,0<=k/\k<j) (hn:y.length<=1000) {R:Type} {B:(η×Int)×(WT×Y ET)×Y η->I (((η×Int)×(WT×Y ET)×Y η)⊕R)} {Q P:R->Prop} (hQ:∀r,P r->Q r) (he:Ok (B ((fo w l c y,(y.length:Int)),(w,l),(cq j).map (kr w l))) λr=>∃z,r= .inr z/\P z):
 Ok (iter (λx=>aF (fP x.1.2 (aM (ai y))) (chk (e9 x.1.2 (ai y)) λ_=>lt (aJ (T:=.int .i64) y x.1.2) λa=>chk (e9 a (ai x.2.2)) λ_=>chk (e9 a (ai x.2.2)) λ_=>lt (aJ (T:=.sl (.int .i64)) x.2.2 a) λU=>au (qm (x.1.1,U)) λZ=>M (oh ((Z,bl .i64 (x.1.2+1)),x.2))) (B x)) ((c,0),(w,l),(cq j).map (kr w l))) Q:=by
 refine bZ y.length (λi x=>x=((fo w l c (y.take i),(i:Int)),(w,l),(cq j).map (kr w l))) ?_ ?_ (by rw[List.take_zero];rfl)
 .rintro i x hi rfl;have hm:=L _ (bN (T:=.int .i64) (xs:=y) (j:=(i:Int)) (by omega) (by omega));refine dh ?_;refine b7 (aT ?_);have A:(aJ (T:=.int .i64) y (i:Int):Int)<(((cq j).map (kr w l)).length:Nat):=by rw[bQ,eK];exact hm.2
  refine aR hm.1 A (aR hm.1 A (aT ?_));dsimp only;rw[TD hm.1 hm.2];have e1:=Og s hj (y.take i) c hc λk hk=>L k (gh hk)
  have h2:(aJ (T:=.int .i64) y (i:Int)).toNat<l.length:=by
   have h3:(aJ (T:=.int .i64) y (i:Int):Int)<(j:Int):=hm.2;have h4:(0:Int)<=aJ (T:=.int .i64) y (i:Int):=hm.1;omega
  have e2:=Gb s h2;refine aS (by rw[ahi];exact Zq _ _ e1.lb e2.lb) (aj ?_);rw[aif hi,gw (by omega)]
 .rintro x rfl;rw[cO];obtain⟨_,e,r,rfl,h⟩:=he;exact di (akm e (hQ r h))
theorem Vg (l:Y ET) (u:Nat):∀i:Nat,De l u i<i
 |0=>by show (-1:Int)<0;omega
 |i+1=>by
  have:=Vg l u i;rw[De];split
  .omega
  .split
   .omega
   .split<;>omega
theorem aqi {w:WT} {l:Y ET} (a:TR (w,l)) {j:Nat} (hj:j<l.length) {c:η} (hc:En (j:Int) c) (e:c=if 0<=uF l (bR l j).th j then kr w l (uF l (bR l j).th j).toNat else []):tk (fo w l (fo w l c (Z3 w l j)) (fL (dB (Rj w l j)) j)) (bR l j).th=kr w l j:=by
 rw[amo a hj,<-e];have h1:fo w l c (Z3 w l j)=jl (jl c (JC (kr w l) (dB (IV w l j)) j)) (wkC w l j):=by
  have h2:=aku a hc (dB (IV w l j)) j;have s:=Og a (show j<=l.length by omega) (fL (dB (IV w l j)) j) c hc λk hk=>Kw hk
  rw[h2]at s;unfold Z3 wkC;by_cases h:(bR l j).k=17
  .rw[aC h,aC h,<-h2];unfold fo;rw[dz];rfl
  .rw[aw h,aw h,ik,h2,mT s]
 have z:En (j:Int) (fo w l c (Z3 w l j)):=by
  refine Og a (show j<=l.length by omega) _ c hc λk hk=>?_
  rcases bG.1 hk with hk|hk
  .exact Kw hk
  .split at hk
   .rename_i h;rw[aI.1 hk];exact⟨(acj a hj h).2.2,Vg _ _ _⟩
   .cases hk
 rw[aku a z,h1]
theorem U' {w:WT} {l:Y ET} (a:TR (w,l)):sZ (w,l)=M (csN w l):=by
 have hl:=a.len;dsimp only at hl;refine cf ?_;unfold sZ bw iZ bB bC kZ aX cQ aD cJ;refine bZ l.length (λj x=>x=((j:Int),(w,l),(cq j).map (kr w l))) ?_ ?_ rfl
 .rintro j x hj rfl;have hjl:j<=l.length:=by omega
  obtain⟨p0,p1⟩:=VK l (bR l j).th j;refine dh ?_;refine aV (λx=>x=(if 0<=uF l (bR l j).th j then kr w l (uF l (bR l j).th j).toNat else [],(w,l),(cq j).map (kr w l))) ?_ ?_
  .refine aS (HU a hj) (fc (λh=>?_) λh=>aj ?_)
   .have q:uF l (bR l j).th j<(((cq j).map (kr w l)).length:Nat):=by rw[bQ,eK];exact p1
    refine aR h q (aR h q (aT (aj ?_)));dsimp only;rw[TD h p1,aC h]
   .rw[aw (by omega)]
  rintro x rfl;have hc:En (j:Int) (if 0<=uF l (bR l j).th j then kr w l (uF l (bR l j).th j).toNat else []):=by
   split
   .exact (Gb a (by omega)).mono (by omega)
   .exact En.nil (by omega)
  have hhd:∀k∈Z3 w l j,0<=k/\k<j:=λk hk=>by
   rcases bG.1 hk with hk|hk
   .exact Kw hk
   .split at hk
    .rename_i h;rw[aI.1 hk];exact⟨(acj a hj h).2.2,Vg _ _ _⟩
    .cases hk
  have hlen:(Z3 w l j).length<=1000:=by
   have:=Kx (dB (IV w l j)) j;unfold Z3;rw[bf];split<;>simp<;>omega
  have hls:=Kx (dB (Rj w l j)) j;have hck:=aqi a hj hc rfl;have z:=Og a hjl (Z3 w l j) _ hc hhd;have s:=Og a hjl (fL (dB (Rj w l j)) j) _ z λk hk=>Kw hk
  generalize (if 0<=uF l (bR l j).th j then kr w l (uF l (bR l j).th j).toNat else [])=c at*
  refine aS (ak4 a hj) ?_;refine N_ a hjl hc hhd hlen (P:=λr=>r= .inl (((j+1:Nat):Int),(w,l),(cq (j+1)).map (kr w l))) (λr h=>by subst h;rfl) ?_;refine ax (P:=λr=>r= .inl (((j+1:Nat):Int),(w,l),(cq (j+1)).map (kr w l))) ?_ λr hr=>aj ⟨r,rfl,hr⟩
  refine aS (ajl a hj) (N_ a hjl z (λk hk=>Kw hk) (by omega) (P:=λr=>r= .inl (((j+1:Nat):Int),(w,l),(cq (j+1)).map (kr w l))) (λr h=>h) ?_);refine ax (P:=λr=>r= .inl (((j+1:Nat):Int),(w,l),(cq (j+1)).map (kr w l))) ?_ λr hr=>aj ⟨r,rfl,hr⟩
  have et:(eN l j).1=((bR l j).th:Int):=(k9 a hj).th;have A:=s.2 (bR l j).th;refine b7 (aT (aS (x:=kr w l j) ?_ (be (by simp;omega) (by omega) (aj ?_))))
  .change ql (fo w l (fo w l c (Z3 w l j)) (fL (dB (Rj w l j)) j),(eN l j).1)=_;rw[et,<-hck];exact VH _ _ s.lb (sw a hj).th4 A.1 (by omega)
  .dsimp only;rw[gw (by omega),Gw,cM];rfl
 .rintro x rfl;exact di (aj rfl)
theorem abw:vR=eT:=rfl
def cnB (l:Y ET) (a b:Nat):Bool:=decide (¬(bR l a).th=(bR l b).th/\UG (bR l a)=J/\UG (bR l b)=J/\(bR l a).ob=(bR l b).ob/\((bR l a).k=4\/(bR l b).k=4))
theorem C2 {w:WT} {l:Y ET} (s:TR (w,l)) {a:Nat} (z:a<l.length) (h:UG (bR l a)=J):(eN l a).2.2.1=((bR l a).ob:Int):=(k9 s z).ob (by rcases ba h with h|h<;>rw[h]<;>decide)
theorem U9 {w:WT} {l:Y ET} (s:TR (w,l)) {a b:Nat} (A:a<l.length) (hb:b<l.length):pa (eN l a,eN l b)=M (cnB l a b):=by
 refine cf ?_;unfold pa cnB aY bi bg jk aD;have ka:(eN l a).2.1=(bR l a).k:=(k9 s A).k;have Z:(eN l b).2.1=(bR l b).k:=(k9 s hb).k;refine gJ (aS (Md s A) (aN (λh1=>aS (Md s hb) (aN (λh2=>ca (λL=>aK (λz=>aK (λU=>?_) λU=>?_) λz=>?_) λL=>?_) λh2=>?_)) λh1=>?_));all_goals refine aj (aj ?_)
 .have L:¬(bR l a).th=(bR l b).th:=λq=>L ((Cl s A hb).2 q)
  have z:(eN l a).2.2.1=(eN l b).2.2.1:=z;have U:(eN l a).2.1=4:=U;rw[C2 s A h1,C2 s hb h2]at z;exact (aP ⟨L,h1,h2,by omega,by omega⟩).symm
 .have L:¬(bR l a).th=(bR l b).th:=λq=>L ((Cl s A hb).2 q)
  have z:(eN l a).2.2.1=(eN l b).2.2.1:=z;have U:¬(eN l a).2.1=4:=U;rw[C2 s A h1,C2 s hb h2]at z;change decide ((eN l b).2.1=4)=_;rw[decide_eq_decide];exact⟨λq=>⟨L,h1,h2,by omega,by omega⟩,λq=>by omega⟩
 .have z:¬(eN l a).2.2.1=(eN l b).2.2.1:=z;rw[C2 s A h1,C2 s hb h2]at z;exact (bt λq=>z (by omega)).symm
 .exact (bt λq=>q.1 ((Cl s A hb).1 L)).symm
 .exact (bt λq=>by rw[q.2.2.1]at h2;cases h2).symm
 .exact (bt λq=>by rw[q.2.1]at h1;cases h1).symm
theorem abi {w:WT} {l:Y ET} (a:TR (w,l)) {j:Nat} (hj:j<l.length):sY (l,(j:Int))=M (zC l (bR l j).th j:Int):=by
 have hl:=a.len;dsimp only at hl;refine cf ?_;unfold sY bg bw bC cQ aD cJ;refine bZ j (λi x=>x=((zC l (bR l j).th i:Int),(i:Int))) ?_ ?_ rfl
 .rintro i x hi rfl;have hc:=LH l (bR l j).th i;refine dh ?_;refine aV (λx=>x=(zC l (bR l j).th (i+1):Int)) ?_ ?_
  .rw[zC];refine b7 (aT (b7 (aT (aK (λh=>aj ?_) λh=>aj ?_))))
   .rw[aC ((Cl a (show i<l.length by omega) hj).1 h)];exact gw (by omega)
   .rw[aw λq=>h ((Cl a (show i<l.length by omega) hj).2 q)]
  rintro x rfl;refine aj ?_;dsimp only;rw[gw (by omega)]
 .rintro x rfl;exact di (aj rfl)
theorem X6 {w:WT} {l:Y ET} (a:TR (w,l)) {j:Nat} (hj:j<l.length):qR (l,(j:Int))=M (epN l j):=by
 have hl:=a.len;dsimp only at hl;have hc:=LH l (bR l j).th j;refine cf ?_;unfold qR bC;refine aS (abi a hj) (b7 (aT (aj ?_)));change (bl .i64 (1+(zC l (bR l j).th j:Int)),(eN l j).1)=_;rw[(k9 a hj).th,iw (by omega) (by omega),Int.add_comm];rfl
def Mm (w:WT) (l:Y ET) (a b:Nat):Bool:=cnB l a b&&(!rQ w.1 (bR l b).ob&& !decide ((zC l (bR l a).th a:Int)+1<=(kr w l b).getD (bR l a).th 0))
def rI (w:WT) (l:Y ET) (b:Nat):Nat->Y ν
 |0=>[]
 |i+1=>if Mm w l i b=J then rI w l b i++[((i:Int),(b:Int))] else rI w l b i
def rO (w:WT) (l:Y ET):Nat->Y ν
 |0=>[]
 |b+1=>rO w l b++rI w l b b
theorem VG (w:WT) (l:Y ET) (b:Nat):∀i,(rI w l b i).length<=i
 |0=>bT _
 |i+1=>by
  have:=VG w l b i;rw[rI];split
  .rw[bf,cX];omega
  .omega
theorem VD (w:WT) (l:Y ET):∀b,b<=1000->(rO w l b).length<=b*1000
 |0,_=>ie _
 |b+1,h=>by
  have:=VD w l b (by omega);have:=VG w l b b;rw[rO,bf];omega
theorem VF {w:WT} {l:Y ET} {b:Nat} {p:ν}:∀i,p∈rI w l b i->∃a:Nat,a<i/\Mm w l a b=J/\p=((a:Int),(b:Int))
 |i+1,h=>by
  rw[rI]at h;split at h
  .rename_i q;rcases bG.1 h with h|h
   .obtain⟨a,h1,h2⟩:=VF i h;exact⟨a,by omega,h2⟩
   .exact⟨i,by omega,q,aI.1 h⟩
  .obtain⟨a,h1,h2⟩:=VF i h;exact⟨a,by omega,h2⟩
theorem ad5 {w:WT} {l:Y ET} {p:ν}:∀n,p∈rO w l n->∃a b:Nat,a<b/\b<n/\Mm w l a b=J/\p=((a:Int),(b:Int))
 |n+1,h=>by
  rw[rO]at h;rcases bG.1 h with h|h
  .obtain⟨a,b,h1,h2,s⟩:=ad5 n h;exact⟨a,b,h1,by omega,s⟩
  .obtain⟨a,h1,h2⟩:=VF n h;exact⟨a,n,h1,by omega,h2⟩
theorem Q6 {w:WT} {l:Y ET} (s:TR (w,l)):nE ((w,l),csN w l)=M (rO w l l.length):=by
 have hl:=s.len;dsimp only at hl;refine cf ?_;unfold nE bw bB bC aX cQ aD cJ;refine bZ l.length (λb x=>x=((b:Int),(w,l),rO w l b)) ?_ ?_ rfl
 .rintro b x hb rfl;have hO:=VD w l b (by omega);refine dh ?_;refine bZ b (λi x=>x=((i:Int),(w,l),rO w l b++rI w l b i)) ?_ ?_ ?_
  .rintro i x hi rfl;have z:=VG w l b i;have a:i<l.length:=by omega
   refine dh ?_;refine aV (λx=>x=((w,l),rO w l b++rI w l b (i+1))) ?_ ?_
   .refine aV (λx=>x=(Mm w l i b,(w,l),rO w l b++rI w l b i)) ?_ ?_
    .refine b7 (aT (b7 (aT (aS (U9 s a hb) ?_))));unfold Mm;refine aN (λh=>?_) λh=>aj ?_
     .have hab:=(ba h).2.2.1;refine b7 (aT (aS (HR s hb) (em (λh2=>?_) λh2=>aj ?_)))
      .rw[hab,fZ]at h2;refine aR (by dsimp only;omega) (by dsimp only;rw[bQ,eK];omega) (aT (aS (X6 s a) ?_));dsimp only;rw[Lt hb,abw];refine aS (Mb _ _ _) (aj ?_);rw[h,h2];rfl
      .rw[hab,fZ]at h2;rw[h,h2];rfl
     .rw[h];rfl
    rintro x rfl;rw[rI];refine aN (λh=>be ?_ (by omega) (aj ?_)) λh=>aj ?_
    .dsimp only;rw[bf,cX];omega
    .dsimp only;rw[aC h,gV]
    .dsimp only at h ⊢;rw[aw (by rw[h];decide)]
   rintro x rfl;refine aj ?_;dsimp only;rw[gw (by omega)]
  .rintro x rfl;refine di (aj ?_);dsimp only;rw[gw (by omega)];rfl
  .rw[rI,ik];rfl
 .rintro x rfl;exact di (aj rfl)
abbrev Sh:Type:=(ν)×(ν)×η
def zw (l:η) (t:Nat) (n:Int):η:=(l++aA (t+1-l.length) 0).set t n
theorem Dn (l:η) (t:Nat) (n:Int):(zw l t n).length=max l.length (t+1):=by unfold zw;rw[ij,bf,bW];omega
theorem zM (l:η) (t:Nat) (n:Int) (u:Nat):(zw l t n).getD u 0=if t=u then n else l.getD u 0:=by
 unfold zw;rw[pl,bf,bW];by_cases h:t=u
 .rw[aC ⟨h,by omega⟩,aC h]
 .rw[aw λq=>h q.1,aw h,av,av,List.getElem?_append];split
  .rfl
  .rename_i q;rw[jD,bF (by omega:l.length<=u)];split<;>rfl
theorem Ym (l:η) (t:Nat) (n:Int):zw l t n≠[]:=λh=>by
 have:=Dn l t n;rw[h]at this;simp only[gE]at this;omega
def EH (c:η) (e:ν):Bool:=decide (e.1<=c.getD e.2.toNat 0)
def lqQ (a c:η):Bool:= @decide (∀u:Nat,a.getD u 0<=c.getD u 0) (mc _)
theorem YF {a c:η}:lqQ a c=J↔∀u:Nat,a.getD u 0<=c.getD u 0:=by unfold lqQ;exact @decide_eq_true_iff _ (mc _)
theorem Qn {w:WT} {l:Y ET} {a j:Nat}:EH (kr w l j) (epN l a)=J↔Da w l a j:=by unfold EH epN Da;simp only[bc,bO]
def rdF (s:Sh) (c:η) (t:Nat):Sh×Bool:=
 (if s.2.2≠[] then (s.1,s.2.1,zw s.2.2 t (c.getD t 0)) else if s.2.1.1=0\/EH c s.2.1=J then (s.1,(c.getD t 0,(t:Int)),[]) else (s.1,(0,0),zw (zw [] s.2.1.2.toNat s.2.1.1) t (c.getD t 0)),!EH c s.1)
def wrF (s:Sh) (c:η) (t:Nat):Sh×Bool:=(((c.getD t 0,(t:Int)),(0,0),[]),!(EH c s.1&&(EH c s.2.1&&lqQ s.2.2 c)))
def Mn (l:Y ET) (o k:Nat):Bool:=UG (bR l k)&&decide ((bR l k).ob=o)
theorem tC {l:Y ET} {o k:Nat}:Mn l o k=J↔((bR l k).k=3\/(bR l k).k=4)/\(bR l k).ob=o:=by unfold Mn UG;rw[al,bc,bc]
def HX (w:WT) (l:Y ET) (s:Sh) (j:Nat):Sh×Bool:=if (bR l j).k=3 then rdF s (kr w l j) (bR l j).th else wrF s (kr w l j) (bR l j).th
def Vt (w:WT) (l:Y ET) (o:Nat):Nat->Sh
 |0=>((0,0),(0,0),[])
 |i+1=>if Mn l o i=J then (HX w l (Vt w l o i) i).1 else Vt w l o i
def raF (w:WT) (l:Y ET) (o i:Nat):Bool:=Mn l o i&&(HX w l (Vt w l o i) i).2
def YV (w:WT) (l:Y ET) (o:Nat):Nat->Int
 |0=> -1
 |i+1=>if raF w l o i=J/\YV w l o i<0 then i else YV w l o i
abbrev Vd (l:Y ET) (o k:Nat):Prop:=(bR l k).k=4/\(bR l k).ob=o
abbrev ldO (l:Y ET) (o k:Nat):Prop:=(bR l k).k=3/\(bR l k).ob=o
def XL (l:Y ET) (o i k:Nat):Prop:=k<i/\ldO l o k/\∀a,k<a->a<i->¬Vd l o a
structure X4 (w:WT) (l:List ET) (o i:Nat) (s:Sh):Prop where
 W:(s.1=(0,0)/\∀b,b<i->¬Vd l o b)\/∃a,a<i/\Vd l o a/\s.1=epN l a/\∀b,a<b->b<i->¬Vd l o b
 R:s.2.2=[]->(s.2.1=(0,0)/\∀b,¬XL l o i b)\/∃r,XL l o i r/\s.2.1=epN l r/\∀b,XL l o i b->b=r\/b<r/\Da w l b r
 Z:s.2.2≠[]->s.2.1=(0,0)
 V:s.2.2≠[]->∀u:Nat,s.2.2.getD u 0=0\/∃r,XL l o i r/\(bR l r).th=u/\s.2.2.getD u 0=(zC l u r:Int)+1
 U:s.2.2≠[]->∀b,XL l o i b->∃r,XL l o i r/\s.2.2.getD (bR l r).th 0=(zC l (bR l r).th r:Int)+1/\(b=r\/b<r/\Da w l b r)
theorem afo {l:Y ET} {o i:Nat} (hs:¬Vd l o i) {b:Nat}:XL l o (i+1) b↔XL l o i b\/b=i/\ldO l o i:=by
 constructor
 .rintro⟨h1,h2,s⟩;by_cases q:b=i
  .subst q;exact .inr ⟨rfl,h2⟩
  .exact .inl ⟨by omega,h2,λa x y=>s a x (by omega)⟩
 .rintro (⟨h1,h2,s⟩|⟨rfl,h⟩)
  .exact⟨by omega,h2,λa x y=>by
    by_cases q:a=i
    .subst q;exact hs
    .exact s a x (by omega)⟩
  .exact⟨by omega,h,λa x y=>by omega⟩
theorem amy {l:Y ET} {o i:Nat} (hs:Vd l o i) (b:Nat):¬XL l o (i+1) b:=λ⟨h1,h2,a⟩=>by
 by_cases q:b=i
 .subst q;have:=hs.1;have:=h2.1;omega
 .exact a i (by omega) (by omega) hs
theorem X4.zero (w:WT) (l:Y ET) (o:Nat):X4 w l o 0 ((0,0),(0,0),[]):=⟨.inl ⟨rfl,λb h=>by omega⟩,λ_=>.inl ⟨rfl,λb h=>by have:=h.1;omega⟩,λh=>b8 rfl h,λh=>b8 rfl h,λh=>b8 rfl h⟩
theorem X4.skip {w:WT} {l:Y ET} {o i:Nat} {s:Sh} (f:X4 w l o i s) (h:Mn l o i=af):X4 w l o (i+1) s:=by
 have h:¬Mn l o i=J:=by rw[h];decide
 rw[tC]at h;have z:¬Vd l o i:=λq=>h ⟨.inr q.1,q.2⟩
 have A:¬ldO l o i:=λq=>h ⟨.inl q.1,q.2⟩
 have e:∀b,XL l o (i+1) b↔XL l o i b:=λb=>by rw[afo z];exact or_iff_left λq=>A q.2
 refine ⟨?_,?_,f.Z,?_,?_⟩
 .rcases f.W with ⟨h1,h2⟩|⟨a,h1,h2,h3,L⟩
  .exact .inl ⟨h1,λb hb=>by
    by_cases q:b=i
    .subst q;exact z
    .exact h2 b (by omega)⟩
  .exact .inr ⟨a,by omega,h2,h3,λb x y=>by
    by_cases q:b=i
    .subst q;exact z
    .exact L b x (by omega)⟩
 .simp only[e];exact f.R
 .simp only[e];exact f.V
 .simp only[e];exact f.U
theorem X4.store {w:WT} {l:Y ET} (a:TR (w,l)) {o i:Nat} {s:Sh} (hi:i<l.length) (h:Vd l o i):X4 w l o (i+1) (HX w l s i).1:=by
 unfold HX wrF;rw[aw (by have:=h.1;omega)];refine ⟨.inr ⟨i,by omega,h,?_,λb x y=>by omega⟩,λ_=>.inl ⟨rfl,λb=>amy h b⟩,λq=>b8 rfl q,λq=>b8 rfl q,λq=>b8 rfl q⟩;dsimp only;rw[I3 a hi];rfl
theorem X4.load {w:WT} {l:Y ET} (A:TR (w,l)) {o i:Nat} {s:Sh} (f:X4 w l o i s) (hi:i<l.length) (h:ldO l o i):X4 w l o (i+1) (HX w l s i).1:=by
 have n4:¬Vd l o i:=λq=>by have:=h.1;have:=q.1;omega
 have e:∀b,XL l o (i+1) b↔XL l o i b\/b=i:=λb=>by rw[afo n4];exact or_congr_right ⟨λq=>q.1,λq=>⟨q,h⟩⟩
 have own:=I3 A hi;have fW:(s.1=(0,0)/\∀b,b<i+1->¬Vd l o b)\/∃a,a<i+1/\Vd l o a/\s.1=epN l a/\∀b,a<b->b<i+1->¬Vd l o b:=by
  rcases f.W with ⟨h1,h2⟩|⟨a,h1,h2,z,h4⟩
  .exact .inl ⟨h1,λb hb=>by
    by_cases q:b=i
    .subst q;exact n4
    .exact h2 b (by omega)⟩
  .exact .inr ⟨a,by omega,h2,z,λb x y=>by
    by_cases q:b=i
    .subst q;exact n4
    .exact h4 b x (by omega)⟩
 unfold HX rdF;rw[aC h.1];by_cases hl:s.2.2≠[]
 .rw[aC hl];refine ⟨fW,λq=>b8 q (Ym _ _ _),λ_=>f.Z hl,λ_ u=>?_,λ_ b hb=>?_⟩
  .dsimp only;rw[zM];by_cases q:(bR l i).th=u
   .rw[aC q,own];exact .inr ⟨i,(e i).2 (.inr rfl),q,by rw[q]⟩
   .rw[aw q];rcases f.V hl u with h1|⟨r,h1,h2⟩
    .exact .inl h1
    .exact .inr ⟨r,(e r).2 (.inl h1),h2⟩
  .have new:∃r,XL l o (i+1) r/\(zw s.2.2 (bR l i).th ((kr w l i).getD (bR l i).th 0)).getD (bR l r).th 0=(zC l (bR l r).th r:Int)+1/\r=i:=⟨i,(e i).2 (.inr rfl),by rw[zM,aC rfl,own],rfl⟩
   rcases (e b).1 hb with hb|rfl
   .obtain⟨r,h1,h2,z⟩:=f.U hl b hb;by_cases q:(bR l i).th=(bR l r).th
    .obtain⟨r',n1,n2,rfl⟩:=new;have hri:=h1.1;have c1:=Da.own A hri hi q.symm;refine ⟨r',n1,n2,.inr ?_⟩;rcases z with rfl|⟨z,h4⟩
     .exact⟨hri,c1⟩
     .exact⟨by omega,h4.trans A (by omega) (by omega) hi c1⟩
    .exact⟨r,(e r).2 (.inl h1),by dsimp only;rw[zM,aw q];exact h2,z⟩
   .obtain⟨r,n1,n2,n3⟩:=new;exact⟨r,n1,n2,.inl n3.symm⟩
 .rw[aw hl];have hl:s.2.2=[]:=Classical.not_not.1 hl;by_cases hc:s.2.1.1=0\/EH (kr w l i) s.2.1=J
  .rw[aC hc];refine ⟨fW,λ_=>.inr ⟨i,(e i).2 (.inr rfl),by dsimp only;rw[own];rfl,λb hb=>?_⟩,λq=>b8 rfl q,λq=>b8 rfl q,λq=>b8 rfl q⟩;rcases (e b).1 hb with hb|rfl
   .rcases f.R hl with ⟨_,h2⟩|⟨r,h1,h2,z⟩
    .exact b8 hb (h2 b)
    .have hri:=h1.1;rw[h2]at hc;have cr:Da w l r i:=by
      rcases hc with hc|hc
      .exfalso;unfold epN at hc;dsimp only at hc;omega
      .exact Qn.1 hc
     rcases z b hb with rfl|⟨h4,h5⟩
     .exact .inr ⟨hri,cr⟩
     .exact .inr ⟨by omega,h5.trans A (by omega) (by omega) hi cr⟩
   .exact .inl rfl
  .rw[aw hc];have L:=not_or.1 hc;rcases f.R hl with ⟨h1,_⟩|⟨r,h1,h2,z⟩
   .exact b8 (by rw[h1]) L.1
   .have hri:=h1.1;have nc:¬Da w l r i:=λq=>L.2 (by rw[h2];exact Qn.2 q)
    have nt:¬(bR l r).th=(bR l i).th:=λq=>nc (Da.own A hri hi q)
    have et:s.2.1.2.toNat=(bR l r).th:=by rw[h2];unfold epN;dsimp only;omega
    have ev:s.2.1.1=(zC l (bR l r).th r:Int)+1:=by rw[h2];rfl
    have g:∀u,(zw (zw [] s.2.1.2.toNat s.2.1.1) (bR l i).th ((kr w l i).getD (bR l i).th 0)).getD u 0=if (bR l i).th=u then (zC l (bR l i).th i:Int)+1 else if (bR l r).th=u then (zC l (bR l r).th r:Int)+1 else 0:=λu=>by
     rw[zM,zM,own,et,ev];simp
    refine ⟨fW,λq=>b8 q (Ym _ _ _),λ_=>rfl,λ_ u=>?_,λ_ b hb=>?_⟩
    .dsimp only;rw[g];by_cases q:(bR l i).th=u
     .rw[aC q];exact .inr ⟨i,(e i).2 (.inr rfl),q,by rw[q]⟩
     .rw[aw q];by_cases q2:(bR l r).th=u
      .rw[aC q2];exact .inr ⟨r,(e r).2 (.inl h1),q2,by rw[q2]⟩
      .rw[aw q2];exact .inl rfl
    .rcases (e b).1 hb with hb|rfl
     .exact⟨r,(e r).2 (.inl h1),by dsimp only;rw[g,aw λq=>nt q.symm,aC rfl],z b hb⟩
     .exact⟨b,(e b).2 (.inr rfl),by dsimp only;rw[g,aC rfl],.inl rfl⟩
theorem IH {w:WT} {l:Y ET} (a:TR (w,l)) (o:Nat):∀i,i<=l.length->X4 w l o i (Vt w l o i)
 |0,_=>X4.zero w l o
 |i+1,h=>by
  have f:=IH a o i (by omega);rw[Vt];by_cases q:Mn l o i=J
  .rw[aC q];rcases tC.1 q with ⟨A|z,s⟩
   .exact f.load a (by omega) ⟨A,s⟩
   .exact X4.store a (by omega) ⟨z,s⟩
  .rw[aw q];exact f.skip (by simpa using q)
def qkO (w:WT) (l:Y ET) (o i:Nat):Prop:=∀a b,a<b->b<i->(bR l b).ob=o->Mm w l a b=af
theorem Pp {w:WT} {l:Y ET} {o a j:Nat} (A:Mn l o a=J) (hj:Mn l o j=J) (L:(bR l a).k=4\/(bR l j).k=4) (hv:rQ w.1 o=af) (ht:¬(bR l a).th=(bR l j).th) (hc:¬Da w l a j):Mm w l a j=J:=by
 obtain⟨a1,a2⟩:=tC.1 A;obtain⟨z,s⟩:=tC.1 hj;have c:cnB l a j=J:=aP ⟨ht,aP a1,aP z,a2.trans s.symm,L⟩;unfold Mm;rw[c,s,hv,Bool.not_false,fZ,fZ,db,decide_eq_false_iff_not];exact hc
theorem Jq {w:WT} {l:Y ET} {a j:Nat} (h:Mm w l a j=J):Mn l (bR l j).ob a=J/\Mn l (bR l j).ob j=J/\((bR l a).k=4\/(bR l j).k=4)/\rQ w.1 (bR l j).ob=af/\¬Da w l a j:=by
 unfold Mm at h;rw[al,al,db,db,decide_eq_false_iff_not]at h;obtain⟨h1,h2,z⟩:=h;obtain⟨A,s,q3,q4,q5⟩:=ba h1;exact⟨tC.2 ⟨ba s,q4⟩,tC.2 ⟨ba q3,rfl⟩,q5,h2,z⟩
theorem X4.check {w:WT} {l:Y ET} (L:TR (w,l)) {o i:Nat} {s:Sh} (f:X4 w l o i s) (hi:i<l.length) (ha:Mn l o i=J) (hv:rQ w.1 o=af) (qk:qkO w l o i):(HX w l s i).2=J↔∃a,a<i/\Mm w l a i=J:=by
 have en:=Gb L hi;have ge:∀u,0<=(kr w l i).getD u 0:=λu=>(en.2 u).1
 have cov0:EH (kr w l i) (0,0)=J:=aP (ge _);have low:∀a b,b<a->a<i->Vd l o a->Mn l o b=J->Da w l b a:=λa b hba hai hs hb=>by
  by_cases ht:(bR l b).th=(bR l a).th
  .exact Da.own L hba (by omega) ht
  .refine Classical.not_not.1 λnc=>?_
   have:=Pp hb (tC.2 ⟨.inr hs.1,hs.2⟩) (.inr hs.1) hv ht nc;rw[qk b a hba hai hs.2]at this;exact b8 this (by decide)
 have oi:(bR l i).ob=o:=(tC.1 ha).2;have wr:EH (kr w l i) s.1=J↔∀a,a<i->Vd l o a->Da w l a i:=by
  rcases f.W with ⟨h1,h2⟩|⟨a,h1,h2,h3,h4⟩
  .rw[h1];exact⟨λ_ a x y=>b8 y (h2 a x),λ_=>cov0⟩
  .rw[h3,Qn];refine ⟨λh b x y=>?_,λh=>h a h1 h2⟩;by_cases q:b=a
   .subst q;exact h
   .by_cases q2:a<b
    .exact b8 y (h4 b q2 x)
    .exact (low a b (by omega) h1 h2 (tC.2 ⟨.inr y.1,y.2⟩)).trans L (by omega) (by omega) hi h
 have ntc:∀a,a<i->¬Da w l a i->¬(bR l a).th=(bR l i).th:=λa x y q=>y (Da.own L x hi q)
 unfold HX;by_cases h3:(bR l i).k=3
 .rw[aC h3];unfold rdF;dsimp only;rw[db];constructor
  .intro h;have A:¬EH (kr w l i) s.1=J:=by rw[h];decide
   rw[wr]at A;obtain⟨a,A⟩:=Classical.not_forall.1 A;obtain⟨x,A⟩:=AS.1 A;obtain⟨y,A⟩:=AS.1 A;exact⟨a,x,Pp (tC.2 ⟨.inr y.1,y.2⟩) ha (.inl y.1) hv (ntc a x A) A⟩
  .rintro⟨a,x,y⟩;obtain⟨h1,h2,h4,h5,h6⟩:=Jq y;rw[oi]at h1;have st:Vd l o a:=⟨by omega,(tC.1 h1).2⟩
   have A:¬EH (kr w l i) s.1=J:=λq=>h6 (wr.1 q a x st)
   simpa using A
 .rw[aw h3];have h4:(bR l i).k=4:=(tC.1 ha).1.resolve_left h3;unfold wrF;dsimp only;rw[db,Bool.and_eq_false_iff,Bool.and_eq_false_iff];have rd:(EH (kr w l i) s.2.1=J/\lqQ s.2.2 (kr w l i)=J)↔∀b,XL l o i b->Da w l b i:=by
   by_cases hl:s.2.2=[]
   .have lq:lqQ s.2.2 (kr w l i)=J:=by rw[hl,YF];intro u;simpa using ge u
    rw[lq];rcases f.R hl with ⟨h1,h2⟩|⟨r,h1,h2,h5⟩
    .rw[h1];exact⟨λ_ b x=>b8 x (h2 b),λ_=>⟨cov0,rfl⟩⟩
    .rw[h2,Qn];refine ⟨λh b x=>?_,λh=>⟨h r h1,rfl⟩⟩;rcases h5 b x with rfl|⟨y,z⟩
     .exact h.1
     .exact z.trans L (by omega) (by have:=h1.1;omega) hi h.1
   .rw[f.Z hl,cov0,YF];refine ⟨λh b x=>?_,λh=>⟨rfl,λu=>?_⟩⟩
    .obtain⟨r,h1,h2,h5⟩:=f.U hl b x;have:=h.2 (bR l r).th;rw[h2]at this;have cr:Da w l r i:=this;rcases h5 with rfl|⟨y,z⟩
     .exact cr
     .exact z.trans L (by omega) (by have:=h1.1;omega) hi cr
    .rcases f.V hl u with h1|⟨r,h1,h2,h5⟩
     .rw[h1];exact ge u
     .have:=h r h1;unfold Da at this;rw[h5,<-h2];exact this
  constructor
  .intro h;by_cases hw:EH (kr w l i) s.1=J
   .have A:¬(EH (kr w l i) s.2.1=J/\lqQ s.2.2 (kr w l i)=J):=λq=>by
     rw[hw,q.1,q.2]at h;rcases h with h|h|h<;>exact b8 h (by decide)
    rw[rd]at A;obtain⟨b,A⟩:=Classical.not_forall.1 A;obtain⟨x,A⟩:=AS.1 A;exact⟨b,x.1,Pp (tC.2 ⟨.inl x.2.1.1,x.2.1.2⟩) ha (.inr h4) hv (ntc b x.1 A) A⟩
   .rw[wr]at hw;obtain⟨a,A⟩:=Classical.not_forall.1 hw;obtain⟨x,A⟩:=AS.1 A;obtain⟨y,A⟩:=AS.1 A;exact⟨a,x,Pp (tC.2 ⟨.inr y.1,y.2⟩) ha (.inl y.1) hv (ntc a x A) A⟩
  .rintro⟨b,x,y⟩;obtain⟨h1,h2,_,_,h6⟩:=Jq y;rw[oi]at h1;by_cases hw:EH (kr w l i) s.1=J
   .have hw':=wr.1 hw;have hb:=tC.1 h1;have nst:∀a,b<a->a<i->¬Vd l o a:=λa p q r=>h6 ((low a b p q r h1).trans L (by omega) (by omega) hi (hw' a q r))
    have h3b:(bR l b).k=3:=hb.1.resolve_right λq=>h6 (hw' b x ⟨q,hb.2⟩)
    have A:¬(EH (kr w l i) s.2.1=J/\lqQ s.2.2 (kr w l i)=J):=λq=>h6 (rd.1 q b ⟨x,⟨h3b,hb.2⟩,nst⟩)
    by_cases h7:EH (kr w l i) s.2.1=J
    .exact .inr (.inr (by simpa using λq=>A ⟨h7,q⟩))
    .exact .inr (.inl (by simpa using h7))
   .exact .inl (by simpa using hw)
theorem ad4 {w:WT} {l:Y ET} {a b o:Nat} (h:Mm w l a b=J) (s:(bR l b).ob=o):Mn l o b=J:=by rw[<- s];exact (Jq h).2.1
theorem aet {w:WT} {l:Y ET} (s:TR (w,l)) {o:Nat} (hv:rQ w.1 o=af):∀i,i<=l.length->YV w l o i<0->qkO w l o i
 |0,_,_=>λa b x y=>by omega
 |i+1,hi,h=>by
  rw[YV]at h;have h1:YV w l o i<0:=by
   by_cases q:raF w l o i=J/\YV w l o i<0
   .exact q.2
   .rw[aw q]at h;exact h
  have h2:raF w l o i=af:=by
   cases q:raF w l o i with
   |false=>rfl
   |true=>rw[aC ⟨q,h1⟩]at h;omega
  have A:=aet s hv i (by omega) h1;intro a b x y z;by_cases q:b=i
  .subst q;cases hr:Mm w l a b with
   |false=>rfl
   |true=>
    have L:=ad4 hr z;have:=((IH s o b (by omega)).check s (by omega) L hv A).2 ⟨a,x,hr⟩;unfold raF at h2;rw[L,this]at h2;exact b8 h2 (by decide)
  .exact A a b x (by omega) z
theorem am4 {w:WT} {l:Y ET} (s:TR (w,l)) {o i:Nat} (hi:i<l.length) (hv:rQ w.1 o=af) (h:YV w l o i<0):raF w l o i=J↔(bR l i).ob=o/\∃a,a<i/\Mm w l a i=J:=by
 have z:=aet s hv i (by omega) h;unfold raF;rw[al];constructor
 .rintro⟨h1,h2⟩;exact⟨(tC.1 h1).2,((IH s o i (by omega)).check s hi h1 hv z).1 h2⟩
 .rintro⟨h1,a,x,y⟩;have A:=ad4 y h1;exact⟨A,((IH s o i (by omega)).check s hi A hv z).2 ⟨a,x,y⟩⟩
def Ig (l:Y ET) (o:Nat) (r:Int):Y ν->Int
 |[]=>r
 |p::q=>Ig l o (if (bR l p.2.toNat).ob=o/\r<0 then p.2 else r) q
theorem D2 (l:Y ET) (o:Nat):∀(p q:Y ν) (r:Int),Ig l o r (p++q)=Ig l o (Ig l o r p) q
 |[],_,_=>rfl
 |x::p,q,r=>by rw[fR,Ig,Ig,D2 l o p q]
theorem WG (w:WT) (l:Y ET) (o b:Nat) (r:Int):∀i,Ig l o r (rI w l b i)=if (bR l b).ob=o/\r<0/\∃a,a<i/\Mm w l a b=J then (b:Int) else r
 |0=>by rw[rI,Ig,aw λq=>by obtain⟨_,_,a,h,_⟩:=q;omega]
 |i+1=>by
  rw[rI];have A:=WG w l o b r i;by_cases q:Mm w l i b=J
  .rw[aC q,D2,A,Ig,Ig];by_cases s:(bR l b).ob=o/\r<0
   .have n1:(if (bR l b).ob=o/\r<0/\∃a,a<i+1/\Mm w l a b=J then (b:Int) else r)=b:=aC ⟨s.1,s.2,i,by omega,q⟩;rw[n1];dsimp only;rw[bO];by_cases c:∃a,a<i/\Mm w l a b=J
    .have n0:(if (bR l b).ob=o/\r<0/\∃a,a<i/\Mm w l a b=J then (b:Int) else r)=b:=aC ⟨s.1,s.2,c⟩;rw[n0];split<;>rfl
    .have n0:(if (bR l b).ob=o/\r<0/\∃a,a<i/\Mm w l a b=J then (b:Int) else r)=r:=aw λz=>c z.2.2
     rw[n0,aC s]
   .have n1:∀P:Prop,¬((bR l b).ob=o/\r<0/\P):=λP h=>s ⟨h.1,h.2.1⟩
    rw[aw (n1 _),aw (n1 _)];dsimp only;rw[bO,aw s]
  .rw[aw q,A];have:(∃a,a<i/\Mm w l a b=J)↔∃a,a<i+1/\Mm w l a b=J:=⟨λ⟨a,x,y⟩=>⟨a,by omega,y⟩,λ⟨a,x,y⟩=>⟨a,by
    by_cases z:a=i
    .subst z;exact b8 y q
    .omega,y⟩⟩
   simp only[this]
theorem akv {w:WT} {l:Y ET} (s:TR (w,l)) {o:Nat} (hv:rQ w.1 o=af):∀n,n<=l.length->Ig l o (-1) (rO w l n)=YV w l o n
 |0,_=>rfl
 |n+1,h=>by
  rw[rO,D2,akv s hv n (by omega),WG,YV];by_cases q:YV w l o n<0
  .have:=am4 s (show n<l.length by omega) hv q;by_cases a:raF w l o n=J
   .rw[aC ⟨(this.1 a).1,q,(this.1 a).2⟩,aC ⟨a,q⟩]
   .rw[aw λz=>a (this.2 ⟨z.1,z.2.2⟩),aw λz=>a z.1]
  .rw[aw λz=>q z.2.1,aw λz=>q z.2]
theorem aep {w:WT} {l:Y ET} {o:Nat} (hv:rQ w.1 o=J):∀n,Ig l o (-1) (rO w l n)= -1
 |0=>rfl
 |n+1=>by
  rw[rO,D2,aep hv n,WG,aw];rintro⟨h1,_,a,_,h2⟩;have:=(Jq h2).2.2.2.1;rw[h1,hv]at this;exact b8 this (by decide)
abbrev Kg0:Ty:=(.st (.pr iJ (.pr iJ (.sl aL))))
abbrev Kg1:Ty:=(.st (.pr E0 (.pr E0 E0)))
abbrev Kg2:Ty:=(.pr aL (.pr aL .un))
abbrev Yg0:=(ν×(ν)×η)
abbrev Yg1:=(η×(η)×(η)×(η)×η)
def yo (it:zG) (x:η×η):I (Bool):=
 (it (Int) _ (λa=>(bw a (fJ (aX x.1) (aX x.2)) (au (gR (x.1,a)) λz=>(au (gR (x.2,a)) λs=>(bw s z (aD af) (cQ (cJ a))))) (aD J))) 0)
def CA (x:η×η):I (Bool):=yo @iter x
def qa (x:η×η):I (Bool):=yo @gA x
def hY (x:Int):I (Bool):=
 (jn (iZ 0 x (aD (fP x 4)) (aD af)) λa=>(M a))
def l_ (x:Yg0×(η)×Int):I (Yg0×Bool):=
 (jn (α:=Bool×Yg0×Int×Int×Int×Int) (au (hY x.2.2) λy2=>(aF (!y2) (aD (J,x.1,0,0,0,0)) (au (hY x.1.1.2) λy3=>(aF (!y3) (aD (J,x.1,0,0,0,0)) (au (hY x.1.2.1.2) λy4=>(aD ((!y4),x.1,0,0,0,0))))))) λa=>(aF a.1 (M (((0,0),(0,0),([]:η)),af)) (au (gR x.2) λz=>(bw 0 (aX a.2.1.2.2) (bB (c_ 0 (fJ (aX a.2.1.2.2) (cJ x.2.2))&&c_ (fJ (aX a.2.1.2.2) (cJ x.2.2)) (fJ (aX a.2.1.2.2) (cJ x.2.2))&&a8 (aQ (fJ (aX a.2.1.2.2) (cJ x.2.2))) 8) (ck (e9 x.2.2 (ai (OR (aA (aQ (fJ (aX a.2.1.2.2) (cJ x.2.2))) (0:Int)) a.2.1.2.2))) (au (eT (x.2.1,a.2.1.1)) λZ=>(M ((a.2.1.1,a.2.1.2.1,(cL (OR (aA (aQ (fJ (aX a.2.1.2.2) (cJ x.2.2))) (0:Int)) a.2.1.2.2) x.2.2 z)),(!Z)))))) (jn (bg a.2.1.2.1.1 0 (aD (J,a.2.1,a.2.2,a.2.1.1.1,a.2.1.1.2,a.2.1.2.1)) (au (eT (x.2.1,a.2.1.2.1)) λU=>(aD (U,a.2.1,a.2.2,a.2.1.1.1,a.2.1.1.2,a.2.1.2.1)))) λs=>(aF s.1 (au (eT (x.2.1,s.2.1.1)) λL=>(M (((s.p3,s.p4),(z,x.2.2),([]:η)),(!L)))) (bB (c_ 0 (bl .i64 ((fJ s.2.1.2.1.2 x.2.2)+1))&&c_ (bl .i64 ((fJ s.2.1.2.1.2 x.2.2)+1)) (bl .i64 ((fJ s.2.1.2.1.2 x.2.2)+1))&&a8 (aQ (bl .i64 ((fJ s.2.1.2.1.2 x.2.2)+1))) 8) (ck (e9 s.2.1.2.1.2 (ai (aA (aQ (bl .i64 ((fJ s.2.1.2.1.2 x.2.2)+1))) (0:Int)))) (ck (e9 x.2.2 (ai (cL (aA (aQ (bl .i64 ((fJ s.2.1.2.1.2 x.2.2)+1))) (0:Int)) s.2.1.2.1.2 s.2.1.2.1.1))) (au (eT (x.2.1,s.2.1.1)) λA=>(M (((s.p3,s.p4),(0,0),(cL (cL (aA (aQ (bl .i64 ((fJ s.2.1.2.1.2 x.2.2)+1))) (0:Int)) s.2.1.2.1.2 s.2.1.2.1.1) x.2.2 z)),(!A)))))))))))))
def kH (x:Yg0×(η)×Int):I (Yg0×Bool):=
 (jn (α:=Bool×Yg0×Int×Int×Int×Int) (au (hY x.2.2) λy2=>(aF (!y2) (aD (J,x.1,0,0,0,0)) (au (hY x.1.1.2) λZ=>(aF (!Z) (aD (J,x.1,0,0,0,0)) (au (hY x.1.2.1.2) λU=>(aD ((!U),x.1,0,0,0,0))))))) λa=>(aF a.1 (M (((0,0),(0,0),([]:η)),af)) (jn (au (eT (x.2.1,a.2.1.1)) λL=>(aF L (au (eT (x.2.1,a.2.1.2.1)) λA=>(aF A (au (qa (a.2.1.2.2,x.2.1)) λz=>(aD (z,a.2.2))) (aD (af,a.2.2)))) (aD (af,a.2.2)))) λx5=>(au (gR x.2) λs=>(M (((s,x.2.2),(0,0),([]:η)),(!x5.1)))))))
def pi (x:fk×Y ja):I (η×(Y Yg0)×Int):=
 (au (p_ x) λy1=>(jk y1.2 0 (M (([]:η),([]:Y Yg0),y1.2)) (jn (α:=(fk×Y ja)×(η)×(η)×(η)×(η)×η) (iter (σ:=Int×(fk×Y ja)×(η)×(η)×(η)×(η)×η) (λA=>(bw A.1 (aX x.2) (jn (α:=(fk×Y ja)×(η)×(η)×(η)×(η)×η) (bC gH x.2 A.1 λz5=>(jn (bg z5.2.1 3 (aD (J,A.2.1,z5,A.2.2)) (aD ((decide ((z5.2.1:Int)=4)),A.2.1,z5,A.2.2))) λs=>(aF s.1 (bg s.p2.p2 0 (bB (a8 (ai s.p3+ai ([A.1])) 8) (aD (s.2.1,(s.p3++([A.1])),s.q4))) (bg s.p2.p2 1 (bB (a8 (ai s.p4+ai ([A.1])) 8) (aD (s.2.1,s.p3,(s.p4++([A.1])),s.q5))) (bg s.p2.p2 2 (bB (a8 (ai s.p5+ai ([A.1])) 8) (aD (s.2.1,s.p3,s.p4,(s.p5++([A.1])),s.q6))) (bg s.p2.p2 3 (bB (a8 (ai s.p6+ai ([A.1])) 8) (aD (s.2.1,s.p3,s.p4,s.p5,(s.p6++([A.1])),s.q7))) (bg s.p2.p2 4 (bB (a8 (ai s.q7+ai ([A.1])) 8) (aD (s.2.1,s.p3,s.p4,s.p5,s.p6,(s.q7++([A.1]))))) D))))) (aD (s.2.1,s.q3))))) λx4=>(cQ ((cJ A.1),x4))) (aD (bS A.2)))) (0,x,([]:η),([]:η),([]:η),([]:η),([]:η))) λU=>(bB (c_ 0 (aX U.1.1.1)&&c_ (aX U.1.1.1) (aX U.1.1.1)&&a8 (aQ (aX U.1.1.1)) 8) (bB (c_ 0 (aX U.1.1.1)&&c_ (aX U.1.1.1) (aX U.1.1.1)&&a8 (aQ (aX U.1.1.1)) 56) (iter (σ:=Int×(fk×Y ja)×Yg1×(η)×Y Yg0) (λa=>(bw a.1 (aX U.1.1.1) (jn (α:=(fk×Y ja)×Yg1×(η)×Y Yg0) (bC k_ U.1.1.1 a.1 λz9=>(ck (e9 a.1 (ai a.p3)) (aF z9.p3 (aD (a.2.1,a.p2,(cL a.p3 a.1 (-1)),a.q4)) (jn (α:=(η×Int×Int)×(fk×Y ja)×Yg1×(η)×Y Yg0) (bg a.1 0 (aD ((a.p2.1,(aX a.p2.1),0),a.2.1,a.p2,(cL a.p3 a.1 (-1)),a.q4)) (bg a.1 1 (aD ((a.p2.2.1,(aX a.p2.2.1),0),a.2.1,a.p2,(cL a.p3 a.1 (-1)),a.q4)) (bg a.1 2 (aD ((a.p2.p2,(aX a.p2.p2),0),a.2.1,a.p2,(cL a.p3 a.1 (-1)),a.q4)) (bg a.1 3 (aD ((a.p2.p3,(aX a.p2.p3),0),a.2.1,a.p2,(cL a.p3 a.1 (-1)),a.q4)) (bg a.1 4 (aD ((a.p2.q4,(aX a.p2.q4),0),a.2.1,a.p2,(cL a.p3 a.1 (-1)),a.q4)) D))))) λx10=>(iter (σ:=Int×(fk×Y ja)×Yg1×(η)×Y Yg0) (λz=>(bw z.1 x10.1.2.1 (jn (bC aL x10.1.1 z.1 λZ=>(jn (bC gH z.2.1.2 Z λz15=>(bg z15.2.1 3 (kZ Kg0 z.q4 a.1 λz16=>(bC (.sl aL) y1.1 Z λz17=>(au (l_ (z16,z17,z15.1)) λy18=>(ck (e9 a.1 (ai z.q4)) (aD (y18.2,z.2.1,z.p2,z.p3,(cL z.q4 a.1 y18.1))))))) (kZ Kg0 z.q4 a.1 λz19=>(bC (.sl aL) y1.1 Z λz20=>(au (kH (z19,z20,z15.1)) λy21=>(ck (e9 a.1 (ai z.q4)) (aD (y21.2,z.2.1,z.p2,z.p3,(cL z.q4 a.1 y21.1))))))))) λx14=>(jn (aF x14.1 (kZ aL x14.p3 a.1 λz23=>(aD ((fP z23 0),x14.2))) (aD (af,x14.2))) λL=>(aF L.1 (ck (e9 a.1 (ai L.p3)) (aD (L.2.1,L.p2,(cL L.p3 a.1 Z),L.q4))) (aD L.2))))) λx12=>(cQ ((cJ z.1),x12))) (aD (bS z.2)))) (x10.1.2.2,x10.2)))))) λx8=>(cQ ((cJ a.1),x8))) (aD (a.p3,a.q4,0)))) (0,U.1,U.2,(aA (aQ (aX U.1.1.1)) (0:Int)),(aA (aQ (aX U.1.1.1)) (((0,0),((0,0),[])):ν×(ν)×η)))))))))
def qX (x:fk×Y ja):I gY:=
 (au (pi x) λa=>(M (a.1,a.2.2)))
def uL (x:fk×Y ja):I η:=
 (bB (c_ 0 (aX x.1.1)&&c_ (aX x.1.1) (aX x.1.1)&&a8 (aQ (aX x.1.1)) 8) (iter (σ:=Int×(fk×Y ja)×η) (λs=>(bw s.1 (aM (ai (aA (aQ (aX x.1.1)) (0:Int)))) (ck (e9 s.1 (ai s.2.2)) (cQ ((cJ s.1),s.2.1,(cL s.2.2 s.1 (-1))))) (au (au (sZ s.2.1) λZ=>(au (nE (s.2.1,Z)) λL=>(iter (σ:=Int×(fk×Y ja)×η) (λa=>(bw a.1 (aX L) (jn (bC iJ L a.1 λA=>(bC gH a.2.1.2 A.2 λz=>(kZ aL a.2.2 z.2.2.1 λU=>(bw U 0 (ck (e9 z.2.2.1 (ai a.2.2)) (aD (a.2.1,(cL a.2.2 z.2.2.1 A.2)))) (aD a.2))))) λx5=>(cQ ((cJ a.1),x5))) (aD a.2.2))) (0,s.2)))) λr=>M (bS r)))) (0,x,(aA (aQ (aX x.1.1)) (0:Int)))))
def uM (x:η×η):I (Bool):=
 (jk (aX x.1) (aX x.2) (M af) (iter (σ:=Int) (λa=>(bw a (aX x.1) (bC aL x.1 a λz=>(bC aL x.2 a λs=>(jk z s (aD af) (cQ (cJ a))))) (aD J))) 0))
def uh (x:Unit):I (Bool):=
 (au (l_ (((0,0),(0,0),([]:η)),[0,3],1)) λs=>(au (l_ (s.1,[2,0],0)) λa=>(au (kH (a.1,[3,2],0)) λL=>(au (kH (a.1,[3,3],0)) λA=>(jn (α:=Bool) (aF (!s.2) (aF (!a.2) (aF L.2 (aF (!A.2) (aF (Rm Kg2 (s.1.2.1.1,s.1.2.1.2,()) (3,1,()) !=af) (au (Fq (a.1.2.2,[2,3])) λz=>(aF z (aD (decide (((aX a.1.2.2):Int)=2))) (aD af))) (aD af)) (aD af)) (aD af)) (aD af)) (aD af)) λU=>(M U))))))
def kG (x:η×(η)×η):I (Bool):=
 (au (lG (x,40)) λs=>(au (qX s) λa=>(jn (bg a.2 0 (au (uL s) λL=>(au (uM (a.1,L)) λA=>(aF A (au (uh ()) λz=>(aD z)) (aD af)))) (aD af)) λU=>(M U))))
theorem qi {n:Nat} (h:n<4):hY (n:Int)=M J:=by
 refine cf ?_;unfold hY iZ aD;refine aV (λx=>x=J) ?_ λx a=>aj a
 exact fc (λ_=>aj (sO.2 (by omega))) λh=>b8 h (by omega)
theorem Bh (c:η) (e:ν) (h:0<=e.2):eT (c,e)=M (EH c e):=by
 obtain⟨a,b⟩:=e;obtain⟨u,rfl⟩:∃u:Nat,b=u:=⟨b.toNat,(fK h).symm⟩
 rw[Mb];unfold EH;rw[bO]
theorem anl (a c:η) (s:a.length<=1000) (hc:c.length<=1000):qa (a,c)=M (lqQ a c):=by
 refine cf ?_;unfold qa yo bw aX cQ aD cJ;refine jE (max a.length c.length) (by omega) (λi x=>x=(i:Int)/\∀v,v<i->a.getD v 0<=c.getD v 0) ?_ ?_ ⟨rfl,λv h=>by omega⟩
 .rintro i x hi ⟨rfl,h⟩;simp only[q_];refine dh (aS (yN a i) (aS (yN c i) (bJ (λg=>aj ?_) λg=>aj ?_)))
  .show af=lqQ a c
   symm;rw[O8];intro q
   have:=YF.1 q i;omega
  .refine ⟨gw (by omega),λv hv=>?_⟩;by_cases e:v=i
   .subst e;exact g
   .exact h v (by omega)
 .rintro x ⟨rfl,h⟩;simp only[q_];refine di (aj ?_);show J=lqQ a c
  symm;rw[YF];intro v
  by_cases hv:v<max a.length c.length
  .exact h v hv
  .rw[av,av,bF (by omega),bF (by omega)];exact dx _
theorem aiw (l:η) (t:Nat) (n:Int):cL (OR (aA (max l.length (t+1)) (0:Int)) l) (t:Int) n=zw l t n:=by
 rw[LA _ _ (by omega),dR];unfold zw;rw[show max l.length (t+1)-l.length=t+1-l.length by omega]
theorem ahe (u t:Nat) (p n:Int):cL (cL (aA (max u t+1) (0:Int)) (u:Int) p) (t:Int) n=zw (zw [] u p) t n:=by
 have e:aA (max u t+1) (0:Int)=aA (u+1) 0++aA (t+1-(u+1)) 0:=by rw[List.replicate_append_replicate];congr 1;omega
 rw[dR,dR,e,List.set_append_left _ _ (by rw[bW];omega)];unfold zw;simp only[kn,gE,ij,bW,Nat.sub_zero]
structure XV (s:Sh):Prop where
 a0:0<=s.1.2
 a1:s.1.2<4
 b0:0<=s.2.1.2
 b1:s.2.1.2<4
 len:s.2.2.length<=4
theorem XV.zero:XV ((0,0),(0,0),[]):=⟨by decide,by decide,by decide,by decide,ie _⟩
theorem apm {s:Sh} (h:XV s) (c:η) {t:Nat} (ht:t<4):XV (rdF s c t).1:=by
 obtain⟨h1,h2,z,a,A⟩:=h;unfold rdF;dsimp only;split
 .exact⟨h1,h2,z,a,by dsimp only;rw[Dn];omega⟩
 split
 .exact⟨h1,h2,by dsimp only;omega,by dsimp only;omega,ie _⟩
 .refine ⟨h1,h2,dx 0,(by decide:(0:Int)<4),?_⟩;dsimp only;rw[Dn,Dn,gE];omega
theorem apf (s:Sh) (c:η) {t:Nat} (ht:t<4):XV (wrF s c t).1:=by
 unfold wrF;exact⟨by dsimp only;omega,by dsimp only;omega,dx 0,(by decide:(0:Int)<4),ie _⟩
theorem ajn {s:Sh} (h:XV s) {c:η} (hc:c.length<=4) {t:Nat} (ht:t<4):l_ (s,c,(t:Int))=M (rdF s c t):=by
 obtain⟨h1,h2,A,h4,Z⟩:=h;obtain⟨⟨a,b⟩,⟨p,q⟩,r⟩:=s;dsimp only at h1 h2 A h4 Z;obtain⟨u,rfl⟩:∃u:Nat,b=u:=⟨b.toNat,(fK h1).symm⟩
 obtain⟨v,rfl⟩:∃v:Nat,q=v:=⟨q.toNat,(fK A).symm⟩
 refine cf ?_;unfold l_ bi bx ck bg bw bB aX aD cJ;refine aV (λx=>x.1=af/\x.2.1=((a,(u:Int)),(p,(v:Int)),r)) ?_ ?_
 .exact aS (qi ht) (dF (aS (qi (show u<4 by omega)) (dF (aS (qi (show v<4 by omega)) (aj ⟨rfl,rfl⟩)))))
 rintro⟨b0,s',z⟩ ⟨e1,e2⟩;dsimp only at e1 e2;subst e1;subst e2;refine dF (aS (yN c t) ?_);have L:eT (c,(a,(u:Int)))=M (EH c (a,(u:Int))):=Bh _ _ h1;have cr:eT (c,(p,(v:Int)))=M (EH c (p,(v:Int))):=Bh _ _ A;have m1:fJ (aM r.length) (bl .i64 ((t:Int)+1))=((max r.length (t+1):Nat):Int):=by rw[gw (by omega)];exact q_ _ _
 have m2:bl .i64 (fJ (v:Int) (t:Int)+1)=((max v t+1:Nat):Int):=by rw[show fJ (v:Int) (t:Int)=((max v t:Nat):Int) from q_ v t];exact gw (by omega)
 refine bJ (λg=>?_) λg=>?_
 .have g:r≠[]:=λq=>by subst q;exact b8 g (Int.lt_irrefl 0)
  dsimp only;rw[m1];refine dc (dc (dI (by omega) (dI (by omega) (be (by omega) (by omega) ?_))));have k:=aiw r t (c.getD t 0);have U:(OR (aA (max r.length (t+1)) (0:Int)) r).length=max r.length (t+1):=by rw[LA _ _ (by omega),bf,bW];omega
  rw[bO];refine aR (by omega) (by rw[U];omega) (aR (by omega) (by rw[U];omega) (aS L (aj ?_)));rw[k];unfold rdF;dsimp only;rw[aC g]
 .have g:r=[]:=List.eq_nil_of_length_eq_zero (by dsimp only[ak]at g;omega);subst g;have rd:rdF ((a,(u:Int)),(p,(v:Int)),[]) c t=(if p=0\/EH c (p,(v:Int))=J then ((a,(u:Int)),(c.getD t 0,(t:Int)),[]) else ((a,(u:Int)),(0,0),zw (zw [] v p) t (c.getD t 0)),!EH c (a,(u:Int))):=by
   unfold rdF;dsimp only;rw[aw λq=>q rfl,bO]
  rw[rd];refine aV (λx=>x.1=(decide (p=0)||EH c (p,(v:Int)))/\x.2.1=((a,(u:Int)),(p,(v:Int)),[])/\x.2.2.2=(a,(u:Int),(p,(v:Int)))) ?_ ?_
  .refine aK (λg=>aj ⟨?_,rfl,rfl⟩) λg=>aS cr (aj ⟨?_,rfl,rfl⟩)
   .have g:p=0:=g;dsimp only;rw[aP g];rfl
   .have g:¬p=0:=g;dsimp only;rw[bt g];rfl
  rintro⟨x1,x2,x3,x4⟩ ⟨e1,e2,e3⟩;dsimp only at e1 e2 e3;subst e1;subst e2;subst e3;refine aN (λg=>?_) λg=>?_
  .have g:p=0\/EH c (p,(v:Int))=J:=by simpa using g
   rw[aC g];exact aS L (aj rfl)
  .have g:¬(p=0\/EH c (p,(v:Int))=J):=by
    have g:(decide (p=0)||EH c (p,(v:Int)))=af:=g;rw[Bool.or_eq_false_iff,decide_eq_false_iff_not]at g;rintro (q|q)
    .exact g.1 q
    .rw[q]at g;exact b8 g.2 (by decide)
   rw[aw g];dsimp only;rw[m2];refine dc (dc (dI (by omega) (dI (by omega) (be (by omega) (by omega) ?_))));rw[bO];refine aR (by omega) (by rw[bW];omega) (aR (by omega) (by rw[bW];omega) ?_);refine aR (by omega) (by rw[bY,bW];omega) (aR (by omega) (by rw[bY,bW];omega) (aS L (aj ?_)));rw[ahe]
theorem afv {s:Sh} (h:XV s) {c:η} (hc:c.length<=4) {t:Nat} (ht:t<4):kH (s,c,(t:Int))=M (wrF s c t):=by
 obtain⟨h1,h2,L,Z,U⟩:=h;obtain⟨⟨a,b⟩,⟨p,q⟩,r⟩:=s;dsimp only at h1 h2 L Z U;obtain⟨u,rfl⟩:∃u:Nat,b=u:=⟨b.toNat,(fK h1).symm⟩
 obtain⟨v,rfl⟩:∃v:Nat,q=v:=⟨q.toNat,(fK L).symm⟩
 refine cf ?_;unfold kH aD;refine aV (λx=>x.1=af/\x.2.1=((a,(u:Int)),(p,(v:Int)),r)) ?_ ?_
 .exact aS (qi ht) (dF (aS (qi (show u<4 by omega)) (dF (aS (qi (show v<4 by omega)) (aj ⟨rfl,rfl⟩)))))
 rintro⟨b0,s',z⟩ ⟨e1,e2⟩;dsimp only at e1 e2;subst e1;subst e2;refine dF (aV (λx=>x.1=(EH c (a,(u:Int))&&(EH c (p,(v:Int))&&lqQ r c))) ?_ ?_)
 .refine aS (Bh _ _ h1) (aN (λg=>?_) λg=>aj ?_)
  .refine aS (Bh _ _ L) (aN (λA=>?_) λA=>aj ?_)
   .refine aS (anl r c (by omega) (by omega)) (aj ?_);dsimp only at g A ⊢;rw[g,A];rfl
   .dsimp only at g A ⊢;rw[g,A];rfl
  .dsimp only at g ⊢;rw[g];rfl
 .rintro⟨x1,z2⟩ e;dsimp only at e;subst e;exact aS (yN c t) (aj rfl)
def Bg (l:Y ET) (o:Nat):Nat->η
 |0=>[]
 |n+1=>if Mn l o n=J then Bg l o n++[(n:Int)] else Bg l o n
theorem Q5 (l:Y ET) (o:Nat):∀n,(Bg l o n).length<=n
 |0=>bT _
 |n+1=>by
  have:=Q5 l o n;rw[Bg];split
  .rw[bf,cX];omega
  .omega
theorem I8 {l:Y ET} {o:Nat} {z:Int}:∀n,z∈Bg l o n->∃j:Nat,z=j/\j<n/\Mn l o j=J
 |0,h=>by cases h
 |n+1,h=>by
  rw[Bg]at h;split at h
  .rename_i q;rcases bG.1 h with h|h
   .obtain⟨j,h1,h2,a⟩:=I8 n h;exact⟨j,h1,by omega,a⟩
   .rw[aI]at h;exact⟨n,h,by omega,q⟩
  .obtain⟨j,h1,h2,a⟩:=I8 n h;exact⟨j,h1,by omega,a⟩
abbrev Ri:Sh:=((0,0),(0,0),[])
def stS (w:WT) (l:Y ET) (x:Sh×Int) (z:Int):Sh×Int:=((HX w l x.1 z.toNat).1,if (HX w l x.1 z.toNat).2=J/\x.2<0 then z else x.2)
theorem Ta (w:WT) (l:Y ET) (o:Nat):∀n,(Bg l o n).foldl (stS w l) (Ri,-1)=(Vt w l o n,YV w l o n)
 |0=>rfl
 |n+1=>by
  rw[Bg,Vt,YV];have a:=Ta w l o n;unfold raF;by_cases q:Mn l o n=J
  .rw[aC q,aC q,dz,a,q,fZ];unfold stS;dsimp only[List.foldl];rw[bO]
  .rw[aw q,aw q,a,aw];rintro⟨h,_⟩;rw[al]at h;exact q h.1
theorem api {w:WT} {l:Y ET} {s:Sh} {j:Nat} (h:XV s) (ht:(bR l j).th<4):XV (HX w l s j).1:=by
 unfold HX;split
 .exact apm h _ ht
 .exact apf _ _ ht
theorem aer {w:WT} {l:Y ET} (ht:∀j,j<l.length->(bR l j).th<4):∀(y:η) (x:Sh×Int),(∀z∈y,∃j:Nat,z=j/\j<l.length)->XV x.1->XV (y.foldl (stS w l) x).1
 |[],_,_,h=>h
 |z::y,x,a,h=>by
  obtain⟨j,rfl,hj⟩:=a z (c9 ..);exact aer ht y _ (λz q=>a z (cC _ q)) (api h (ht j hj))
theorem Vm {w:WT} {l:Y ET} (a:TR (w,l)) (j:Nat) (h:j<l.length):(bR l j).th<4:=(sw a h).th4
theorem am1 {w:WT} {l:Y ET} (a:TR (w,l)) {j:Nat} (h:j<l.length) {s:Sh} (hs:XV s) (hk:(bR l j).k=3):l_ (s,kr w l j,(eN l j).1)=M (HX w l s j):=by
 rw[(k9 a h).th,ajn hs (Gb a h).1 (Vm a j h)];unfold HX;rw[aC hk]
theorem am0 {w:WT} {l:Y ET} (a:TR (w,l)) {j:Nat} (h:j<l.length) {s:Sh} (hs:XV s) (hk:¬(bR l j).k=3):kH (s,kr w l j,(eN l j).1)=M (HX w l s j):=by
 rw[(k9 a h).th,afv hs (Gb a h).1 (Vm a j h)];unfold HX;rw[aw hk]
theorem adz {w:WT} {l:Y ET} (a:TR (w,l)) {j:Nat} (h:j<l.length):(eN l j).2.1=3↔(bR l j).k=3:=by rw[(k9 a h).k];omega
theorem akn {w:WT} {l:Y ET} (a:TR (w,l)) {j:Nat} (h:j<l.length) (s:UG (bR l j)=J):(eN l j).2.2.1=((bR l j).ob:Int)/\(bR l j).ob<5:=by
 refine ⟨C2 a h s,?_⟩;have:=((sw a h).ce (ba s)).2;rw[a.wx.c]at this;exact this
theorem afq {e:EV} {z:Int} (a:z=(e.k:Int)):UG e=(decide (z=3)||decide (z=4)):=by
 subst a;unfold UG;rw[Bool.eq_iff_iff];simp;omega
abbrev Q4 (l:Y ET) (n:Nat):η×η×η×η×η:=(Bg l 0 n,Bg l 1 n,Bg l 2 n,Bg l 3 n,Bg l 4 n)
theorem ah7 {α:Type} {n:Nat} {f:Nat->α} {z:α} {i:Nat} (h:f i=z):tA n f z (i+1)=tA n f z i:=by
 unfold tA;refine iL λk _=>?_
 by_cases e:k=i
 .subst e;rw[aC (by omega),aw (by omega),h]
 .by_cases g:k<i
  .rw[aC g,aC (by omega)]
  .rw[aw g,aw (by omega)]
theorem ah6 {α:Type} {n:Nat} {f:Nat->α} {z:α} {i:Nat} (h:i<n):(tA n f z i).set i z=tA n f z i:=by
 apply dl
 .simp
 intro k h1 h2;rw[nk];split
 .rename_i e;subst e;simp only[tA,kW,jy,xO,ec]
 .rfl
def I_ (w:WT) (l:Y ET) (k:Nat):Int:=if rQ w.1 k=J then -1 else YV w l k l.length
def XU (w:WT) (l:Y ET) (k:Nat):Sh:=if rQ w.1 k=J then Ri else Vt w l k l.length
theorem aa2 {w:WT} {l:Y ET} (A:TR (w,l)):pi (w,l)=M ((cq 5).map (I_ w l),(cq 5).map (XU w l),0):=by
 have hl:=A.len;dsimp only at hl;have hw:w.1.length=5:=by rw[A.wx.c];rfl
 have L:aM w.1.length=5:=by rw[hw];rfl
 refine cf ?_;unfold pi aY bi bx cI dY bP dG cY fG kA ck bg bw jk bB bC kZ aX cQ aD cJ;refine aS (ac7 A) (dF (aV (λx=>x=((w,l),Q4 l l.length)) ?_ ?_))
 .refine bZ l.length (λi x=>x=((i:Int),(w,l),Q4 l i)) ?_ ?_ rfl
  .rintro i x hi rfl;refine dh (aV (λx=>x=((w,l),Q4 l (i+1))) (b7 (aT ?_)) ?_)
   .refine aV (λx=>x=(UG (bR l i),(w,l),eN l i,Q4 l i)) ?_ ?_
    .refine aK (λg=>aj ?_) λg=>aj ?_
     .have g:(eN l i).2.1=3:=g;dsimp only;rw[afq (k9 A hi).k,aP g];rfl
     .have g:¬(eN l i).2.1=3:=g;dsimp only;rw[afq (k9 A hi).k,bt g,Bool.false_or]
    rintro x rfl;refine aN (λg=>?_) λg=>?_
    .obtain⟨h1,h2⟩:=akn A hi g;have e:∀k,Bg l k (i+1)=if (bR l i).ob=k then Bg l k i++[(i:Int)] else Bg l k i:=λk=>by
      rw[Bg,Mn];dsimp only at g;rw[g,fZ];simp only[bc]
     have hk:∀k,(Bg l k i).length<=400:=λk=>by have:=Q5 l k i;omega
     dsimp only;rw[h1];have Z:(bR l i).ob=0\/(bR l i).ob=1\/(bR l i).ob=2\/(bR l i).ob=3\/(bR l i).ob=4:=by omega
     have r:∀k,(Bg l k i).length+[(i:Int)].length<=1000:=λk=>by have:=hk k;rw[cX];omega
     rcases Z with o|o|o|o|o
     .rw[o];exact uH (be (by have:=r 0;omega) (by omega) (aj (by rw[Q4,e,e,e,e,e,o];rfl)))
     .rw[o];exact dF (uH (be (by have:=r 1;omega) (by omega) (aj (by rw[Q4,e,e,e,e,e,o];rfl))))
     .rw[o];exact dF (dF (uH (be (by have:=r 2;omega) (by omega) (aj (by rw[Q4,e,e,e,e,e,o];rfl)))))
     .rw[o];exact dF (dF (dF (uH (be (by have:=r 3;omega) (by omega) (aj (by rw[Q4,e,e,e,e,e,o];rfl))))))
     .rw[o];exact dF (dF (dF (dF (uH (be (by have:=r 4;omega) (by omega) (aj (by rw[Q4,e,e,e,e,e,o];rfl)))))))
    .have e:∀k,Bg l k (i+1)=Bg l k i:=λk=>by
      rw[Bg,Mn];dsimp only at g;rw[g,lX];rfl
     refine aj ?_;show ((w,l),Q4 l i)=((w,l),Q4 l (i+1))
     unfold Q4;rw[e,e,e,e,e]
   .rintro x rfl;refine aj ?_;dsimp only;rw[gw (by omega)]
  .rintro x rfl;exact di (aj rfl)
 rintro x rfl;dsimp only;refine dc (dc (dI (by rw[L];omega) (dI (dx _) (be (by rw[L];decide) (by omega) ?_))));refine dc (dc (dI (by rw[L];omega) (dI (dx _) (be (by rw[L];decide) (by omega) ?_))));refine bZ 5 (λi x=>x=((i:Int),(w,l),Q4 l l.length,tA 5 (I_ w l) 0 i,tA 5 (XU w l) Ri i)) ?_ ?_ ?_
 .rintro i x hi rfl;refine dh ?_ (by dsimp only[ak];omega);refine aV (λx=>x=((w,l),Q4 l l.length,tA 5 (I_ w l) 0 (i+1),tA 5 (XU w l) Ri (i+1))) (b7 (aT ?_)) ?_
  .refine aR (by dsimp only;omega) (by dsimp only;rw[xU];omega) (aR (by dsimp only;omega) (by dsimp only;rw[xU];omega) ?_);have ev:(aJ (T:=Pd) w.1 (i:Int)).2.2.2.1=rQ w.1 i:=by rw[Qc];rfl
   refine aN (λg=>?_) λg=>?_
   .have g:rQ w.1 i=J:=by rw[<- ev];exact g
    have f1:I_ w l i= -1:=by unfold I_;rw[aC g]
    have s1:XU w l i=Ri:=by unfold XU;rw[aC g]
    refine aj ?_;dsimp only;rw[dR,<-f1,Ji (by omega),ah7 s1]
   .have g:¬rQ w.1 i=J:=by rw[<- ev];rw[show (aJ (T:=Pd) w.1 (i:Int)).2.2.2.1=af from g];decide
    have f1:I_ w l i=YV w l i l.length:=by unfold I_;rw[aw g]
    have s1:XU w l i=Vt w l i l.length:=by unfold XU;rw[aw g]
    refine aV (λx=>x=((Bg l i l.length,aM (Bg l i l.length).length,0),(w,l),Q4 l l.length,(tA 5 (I_ w l) 0 i).set i (-1),tA 5 (XU w l) Ri i)) ?_ ?_
    .dsimp only;rw[dR];have Z:i=0\/i=1\/i=2\/i=3\/i=4:=by omega
     rcases Z with o|o|o|o|o
     .subst o;exact uH (aj rfl)
     .subst o;exact dF (uH (aj rfl))
     .subst o;exact dF (dF (uH (aj rfl)))
     .subst o;exact dF (dF (dF (uH (aj rfl))))
     .subst o;exact dF (dF (dF (dF (uH (aj rfl)))))
    rintro x rfl;have hal:=Q5 l i l.length;have VY:∀z∈Bg l i l.length,∃j:Nat,z=j/\j<l.length:=λz U=>by obtain⟨j,a,b,_⟩:=I8 _ U;exact⟨j,a,b⟩
    refine bZ (Bg l i l.length).length (λp x=>x=((p:Int),(w,l),Q4 l l.length,(tA 5 (I_ w l) 0 i).set i (((Bg l i l.length).take p).foldl (stS w l) (Ri,-1)).2,(tA 5 (XU w l) Ri i).set i (((Bg l i l.length).take p).foldl (stS w l) (Ri,-1)).1)) ?_ ?_ ?_
    .rintro p x hp rfl;obtain⟨z,U⟩:∃z,(Bg l i l.length)[p]? =M z:=⟨_,ay hp⟩
     obtain⟨j,rfl,hj,haj⟩:=I8 _ (aZ U);have tk:(Bg l i l.length).take (p+1)=(Bg l i l.length).take p++[(j:Int)]:=by rw[List.take_add_one,U];rfl
     have gz:aJ (T:=.int .i64) (Bg l i l.length) (p:Int)=(j:Int):=by
      unfold aJ;rw[bO,av,U];rfl
     have fB:XV (((Bg l i l.length).take p).foldl (stS w l) (Ri,-1)).1:=aer (Vm A) _ _ (λz q=>VY z (gh q)) XV.zero;rw[tk,dz];generalize ((Bg l i l.length).take p).foldl (stS w l) (Ri,-1)=f at fB ⊢;obtain⟨fs,fi⟩:=f;dsimp only at fB;have fS:List.foldl (stS w l) (fs,fi) [(j:Int)]=((HX w l fs j).1,if (HX w l fs j).2=J/\fi<0 then (j:Int) else fi):=by dsimp only[List.foldl];unfold stS;dsimp only;rw[bO]
     rw[fS];have sg:aJ (T:=.st (.pr (.st (.pr (.int .i64) (.int .i64))) (.pr (.st (.pr (.int .i64) (.int .i64))) (.sl (.int .i64))))) ((tA 5 (XU w l) Ri i).set i fs) (i:Int)=fs:=by
      unfold aJ;rw[bO,av,List.getElem?_set_self (by rw[xU];omega)];rfl
     have fg:aJ (T:=.int .i64) ((tA 5 (I_ w l) 0 i).set i fi) (i:Int)=fi:=by
      unfold aJ;rw[bO,av,List.getElem?_set_self (by rw[xU];omega)];rfl
     refine dh ?_;refine aV (λx=>x=((w,l),Q4 l l.length,(tA 5 (I_ w l) 0 i).set i (if (HX w l fs j).2=J/\fi<0 then (j:Int) else fi),(tA 5 (XU w l) Ri i).set i (HX w l fs j).1)) (b7 (aT ?_)) ?_
     .rw[gz];refine aV (λx=>x=((HX w l fs j).2,(w,l),Q4 l l.length,(tA 5 (I_ w l) 0 i).set i fi,(tA 5 (XU w l) Ri i).set i (HX w l fs j).1)) (b7 (aT ?_)) ?_
      .have ls:((tA 5 (XU w l) Ri i).set i fs).length=5:=by rw[ij,xU]
       have s:((i:Nat):Int)<(((tA 5 (XU w l) Ri i).set i fs).length:Int):=by rw[ls];omega
       refine aK (λg=>?_) λg=>?_
       .have g:(bR l j).k=3:=(adz A hj).1 g;refine aR (by omega) s (aR (by omega) s (aT ?_));refine aR (by omega) (by rw[bQ,eK];omega) (aT ?_);dsimp only;rw[sg,Lt hj];refine aS (am1 A hj fB g) (aR (by omega) s (aR (by omega) s (aj ?_)));dsimp only;rw[dR,List.set_set]
       .have g:¬(bR l j).k=3:=λq=>g ((adz A hj).2 q)
        refine aR (by omega) s (aR (by omega) s (aT ?_));refine aR (by omega) (by rw[bQ,eK];omega) (aT ?_);dsimp only;rw[sg,Lt hj];refine aS (am0 A hj fB g) (aR (by omega) s (aR (by omega) s (aj ?_)));dsimp only;rw[dR,List.set_set]
      rintro x rfl;have lf:((tA 5 (I_ w l) 0 i).set i fi).length=5:=by rw[ij,xU]
      have s:((i:Nat):Int)<(((tA 5 (I_ w l) 0 i).set i fi).length:Int):=by rw[lf];omega
      refine aV (λx=>x=(decide ((HX w l fs j).2=J/\fi<0),(w,l),Q4 l l.length,(tA 5 (I_ w l) 0 i).set i fi,(tA 5 (XU w l) Ri i).set i (HX w l fs j).1)) ?_ ?_
      .refine aN (λg=>?_) λg=>aj ?_
       .refine aR (by dsimp only;omega) s (aR (by dsimp only;omega) s (aT (aj ?_)));dsimp only at g ⊢;rw[fg,g];unfold fP;simp
       .dsimp only at g ⊢;rw[g];simp
      rintro x rfl;refine aN (λg=>?_) λg=>aj ?_
      .refine aR (by dsimp only;omega) s (aR (by dsimp only;omega) s (aj ?_));dsimp only;rw[dR,List.set_set,aC (ba g)]
      .dsimp only;rw[aw (Cj g)]
     rintro x rfl;refine aj ?_;dsimp only;rw[gw (by omega)]
    .rintro x rfl;rw[cO,Ta];refine di (aj ?_);dsimp only;rw[<- f1,<-s1,Ji (by omega),Ji (by omega)]
    .dsimp only[dQ,List.foldl];rw[ah6 (by omega)];rfl
  .rintro x rfl;refine aj ?_;dsimp only;rw[gw (by omega)]
 .rintro x rfl;refine di (aj ?_) (by dsimp only[ak];omega);dsimp only;rw[Pe,Pe]
 .rw[IG,IG,L];rfl
theorem agk {w:WT} {l:Y ET} (a:TR (w,l)):qX (w,l)=M ((cq 5).map (I_ w l),0):=by
 refine cf ?_;unfold qX;exact aS (aa2 a) (aj rfl)
theorem Z' {f:Nat->Int} {k:Nat} (h:k<5):aJ (T:=.int .i64) ((cq 5).map f) (k:Int)=f k:=by
 unfold aJ;rw[bO,av,bd,wN h];rfl
theorem amp {w:WT} {l:Y ET} (a:TR (w,l)):w.1.length=5:=by rw[a.wx.c];rfl
theorem aja {l:Y ET} {i k:Nat} (h:UG (bR l i)=af\/¬(bR l i).ob=k):Mn l k i=af:=by
 unfold Mn;rcases h with h|h
 .rw[h];rfl
 .rw[bt h,Mh]
theorem Yl {w:WT} {l:Y ET} {i k:Nat} (h:UG (bR l i)=af\/¬(bR l i).ob=k):Vt w l k (i+1)=Vt w l k i:=by rw[Vt,aja h];rfl
def QvI (w:WT) (l:Y ET) (i:Nat) (s:Y Sh):Prop:=s.length=5/\∀k,k<5->¬rQ w.1 k=J->(I_ w l k<0\/(i:Int)<=I_ w l k)->s.getD k Ri=Vt w l k i
theorem QvI.skip {w:WT} {l:Y ET} {i:Nat} {s:Y Sh} (h:QvI w l i s) (hs:∀k,k<5->¬rQ w.1 k=J->(I_ w l k<0\/((i+1:Nat):Int)<=I_ w l k)->UG (bR l i)=af\/¬(bR l i).ob=k):QvI w l (i+1) s:=
 ⟨h.1,λk a b c=>by rw[Yl (hs k a b c)];exact h.2 k a b (by omega)⟩
theorem QvI.put {w:WT} {l:Y ET} {i:Nat} {s:Y Sh} (h:QvI w l i s) {k:Nat} (hk:k<5) (A:(bR l i).ob=k) (L:UG (bR l i)=J):QvI w l (i+1) (s.set k (HX w l (Vt w l k i) i).1):=by
 refine ⟨by rw[ij];exact h.1,λq a b c=>?_⟩;rw[av,kc];have z:k<s.length:=by rw[h.1];exact hk
 by_cases e:k=q
 .subst e;rw[aC rfl,aC z];rw[Vt,Mn,L,A,aP rfl];rfl
 .rw[aw e,<-av,Yl (.inr (by omega))];exact h.2 q a b (by omega)
theorem aj9:uh ()=M J:=by kernel_rfl
theorem amg {w:WT} {l:Y ET} (a:TR (w,l)) (o:Nat):Ig l o (-1) (rO w l l.length)=I_ w l o:=by
 unfold I_;by_cases v:rQ w.1 o=J
 .rw[aC v,aep v]
 .rw[aw v,akv a (by simpa using v) _ (bT _)]
theorem X5 (y:η) (h:y.length<=1000):uM (y,y)=M J:=by
 refine cf ?_;unfold uM bw jk bC aX cQ aD cJ;refine ca (λq=>(q rfl).elim) λ_=>?_
 refine bZ y.length (λi x=>x=(i:Int)) ?_ ?_ rfl
 .rintro i x hi rfl;refine dh (b7 (aT (b7 (aT (ca (λq=>(q rfl).elim) λ_=>aj ?_)))));exact gw (by omega)
 .rintro x rfl;exact di (aj rfl)
theorem X3 {w:WT} {l:Y ET} (A:TR (w,l)):uL (w,l)=M ((cq 5).map (I_ w l)):=by
 have hl:=A.len;dsimp only at hl;have L:=amp A;have s:aM w.1.length=5:=by rw[L];rfl
 have hr:=VD w l l.length (by omega);refine cf ?_;unfold uL ck bw bB bC kZ aX cQ aD cJ;dsimp only;refine dc (dc (dI (by rw[s];omega) (dI (dx _) (be (by rw[s];decide) (by omega) ?_))));refine bZ 5 (λi x=>x=((i:Int),(w,l),tA 5 (λ_=>(-1:Int)) 0 i)) ?_ ?_ ?_
 .rintro i x hi rfl;refine dh ?_ (by dsimp only[ak];rw[bW,L];simp;omega);have a:((i:Nat):Int)<((tA 5 (λ_=>(-1:Int)) 0 i).length:Int):=by rw[xU];omega
  refine aR (by dsimp only;omega) a (aR (by dsimp only;omega) a (aj ?_));dsimp only;rw[gw (by omega),dR,Ji (f:=λ_=>(-1:Int)) hi]
 .rintro x rfl;refine di ?_ (by dsimp only[ak];rw[bW,L];simp);refine ax (P:=λr=>r=(cq 5).map (I_ w l)) ?_ ?_
  .refine aS (U' A) (aS (Q6 A) ?_);refine bZ (rO w l l.length).length (λj x=>x=((j:Int),(w,l),(cq 5).map λk=>Ig l k (-1) ((rO w l l.length).take j))) ?_ ?_ ?_
   .rintro j x hj rfl;refine dh ?_;obtain⟨p,hp⟩:∃p,(rO w l l.length)[j]? =M p:=⟨_,ay hj⟩
    have gp:aJ (T:=.st (.pr (.int .i64) (.int .i64))) (rO w l l.length) (j:Int)=p:=by
     unfold aJ;rw[bO,av,hp];rfl
    have tk:(rO w l l.length).take (j+1)=(rO w l l.length).take j++[p]:=by rw[List.take_add_one,hp];rfl
    obtain⟨k,m,h1,h2,Z,rfl⟩:=ad5 _ (aZ hp);obtain⟨hob,U⟩:=akn A h2 (tC.1 (Jq Z).2.1 |>.1|>aP);have st:∀o,Ig l o (-1) ((rO w l l.length).take (j+1))=if (bR l m).ob=o/\Ig l o (-1) ((rO w l l.length).take j)<0 then (m:Int) else Ig l o (-1) ((rO w l l.length).take j):=λo=>by
     rw[tk,D2,Ig,Ig];dsimp only;rw[bO]
    simp only[st];have ge:aJ (T:=.int .i64) ((cq 5).map λk=>Ig l k (-1) ((rO w l l.length).take j)) ((bR l m).ob:Int)=Ig l (bR l m).ob (-1) ((rO w l l.length).take j):=Z' (f:=λk=>Ig l k (-1) ((rO w l l.length).take j)) U;have a:((bR l m).ob:Int)<(((cq 5).map λk=>Ig l k (-1) ((rO w l l.length).take j)).length:Int):=by rw[bQ,eK];omega
    refine aV (λx=>x=((w,l),(cq 5).map λo=>if (bR l m).ob=o/\Ig l o (-1) ((rO w l l.length).take j)<0 then (m:Int) else Ig l o (-1) ((rO w l l.length).take j))) (b7 (aT ?_)) ?_
    .rw[gp];dsimp only;refine aR (by omega) (by omega) (aT ?_);rw[hob];refine aR (by omega) a (aR (by omega) a (aT ?_));rw[ge];refine bJ (λg=>?_) λg=>aj ?_
     .refine aR (by omega) a (aR (by omega) a (aj ?_));dsimp only;rw[dR];congr 1;apply dl
      .simp
      intro o g1 g2;rw[nk];simp only[kW,jy];by_cases e:(bR l m).ob=o
      .rw[aC e,aC ⟨e,by rw[<- e];exact g⟩]
      .rw[aw e,aw λz=>e z.1]
     .dsimp only;congr 1;refine iL λo _=>?_
      rw[aw];rintro⟨rfl,z⟩;omega
    .rintro x rfl;refine aj ?_;dsimp only;rw[gw (by omega)]
   .rintro x rfl;refine di (aj ?_);rw[cO];exact iL λo _=>amg A o
   .rw[Pe];rfl
  .rintro r rfl;exact aj rfl
 .rw[IG,s];rfl
theorem Gs (a b c:η) (U:a.length<=9223372036854775807) (s:∀z∈a,0<=z/\z<=255) (hc:c.length<=9223372036854775807) (L:∀z∈c,0<=z/\z<=255):Ok (kG (a,b,c)) λy=>y=J:=by
 unfold kG bg aD;refine ax (P:=TR) (Q9 a b c 40 (by omega) (by omega) U s hc L) ?_;rintro⟨w,l⟩ A;refine aS (agk A) (aV (λx=>x=J) ?_ λx s=>aj s);exact uH (aS (X3 A) (aS (X5 _ (by rw[bQ,eK];omega)) (uH (aS (x:=J) aj9 (aj rfl)))))
theorem EpochFirst_law (x:η×η×η) (w:Yb (.st (.pr (.sl (.int .u8)) (.pr (.sl (.int .u8)) (.sl (.int .u8))))) x):kG x=M J:=by
 obtain⟨a,b,c⟩:=x;obtain⟨⟨l0,w0⟩,_,⟨l2,A⟩⟩:=w;obtain⟨y,h,rfl⟩:=Gs a b c l0 (λz s=>Zb (w0 z s)) l2 (λz s=>Zb (A z s));exact h
def inert (f:FuncId):Bool:=aB f 63
theorem Sb:∃a,Tryz.prog.underlying 20=M (.interface a):=⟨#[],by kernel_rfl⟩
theorem ae5 (w:World):(Op.equal 20 .nilIface .nilIface).run Tryz.prog w= .ok J w:=by
 obtain⟨a,hu⟩:=Sb;have key:∀d,(Op.equalIn (d+1) 20 .nilIface .nilIface).run Tryz.prog w= .ok J w:=λd=>by simp[Op.equalIn,run_underlying hu]
 exact key 9999
theorem adg {P:Program} {ops:Array Oper} {Q:Exit->Act->Y Frame->World->Prop} {i:Nat} {rest:ι} {a:Act} {cs:Y Frame} {w w':World} {o:Oper} (z:ops[i]? =M o) (s:o.guard=D) (hr:(execOp a.eval o).run P w= .ok .recover w') (hn:recoverD cs=D) (h:wpOpsS P ops Q rest (a.put o.dst .nilIface) cs w'):wpOpsS P ops Q (i::rest) a cs w:=by
 have s:iX o (yielded ops a.tmps)=J:=by unfold iX;rw[s]
 simp only[wpOpsS,z,s,bI,hr,hn];exact h
theorem adf {P:Program} {ops:Array Oper} {Q:Exit->Act->Y Frame->World->Prop} {i:Nat} {rest:ι} {a:Act} {cs:Y Frame} {w w':World} {o:Oper} {v:Value} (z:ops[i]? =M o) (s:o.guard=D) (hr:(execOp a.eval o).run P w= .ok (.value v) w') (h:wpOpsS P ops Q rest (a.put o.dst v) cs w'):wpOpsS P ops Q (i::rest) a cs w:=by
 have s:iX o (yielded ops a.tmps)=J:=by unfold iX;rw[s]
 simp only[wpOpsS,z,s,bI,hr];exact h
theorem Sa:L9 Tryz.prog inert:=by
 intro f hf;have hf:f=63:=ar hf;subst hf;refine ⟨⟨Tryz.f63,Tryz.func63,by kernel_rfl,by kernel_rfl⟩,λargs w=>?_⟩;refine callsD_of_wpS Tryz.func63 rfl λc₀ cs hu=>?_
 refine wpS_seq (wpS_region ?_);generalize ht:(args++oZ (Tryz.f63.ntmps-args.size) undef)=T;have hs:5<=T.size:=by
  rw[<- ht];simp only[Array.size_append,Array.size_replicate];have:Tryz.f63.ntmps=5:=rfl;omega
 have hr:recoverD (c₀::cs)=D:=by simp[recoverD,hu]
 refine adg (i:=0) (rest:=[1]) rfl rfl (w':=w) ?_ hr ?_
 .simp[execOp,resolve,invoke,builtin]
 refine adf (v:=.bool af) rfl rfl (w':=w) ?_ ?_
 .have hv:Act.eval (O9 {tmps:=T,defers:=[]} (M 2) .nilIface) (.tmp 2)= .nilIface:=by
   simp[Act.eval,O9,show 2<T.size by omega]
  have h2:=ae5 w;have hcst:Act.eval (O9 {tmps:=T,defers:=[]} (M 2) .nilIface) (.const .nilIface)= .nilIface:=rfl;show (execOp (Act.eval (O9 {tmps:=T,defers:=[]} (M 2) .nilIface)) _).run _ w=_;simp[execOp,hv,hcst,eqGuard,binOp,h2]
 show Exit.thenS _ _ .normal _ _ _;refine wpS_cond (t:=af) ?_ ?_
 .simp[Act.eval,O9,show 3<T.size by omega]
 refine wpS_of_wp (wp_skip ?_);have hres:Tryz.f63.results=#[]:=rfl;exact⟨rfl,c₀.mode,rfl,.tuple #[],by simp[results,hres],⟨_,rfl⟩,hu,rfl⟩
def dL {α:Type}:Y (Nat×α)->PT α
 |[]=>.leaf
 |p::r=>(dL r).set p.1 (M p.2)
noncomputable abbrev Pg:Program:=Tryz.prog
def cn (y:FT) (m:y.pre.ty.den->I y.post.ty.den):co:=⟨y.pre,y.post,m⟩
theorem apy:Pg.follows .mixedOrders=J:=by kernel_rfl
theorem ac {f:FuncId} {c:co} {l:Y (FuncId×co)} (h:aH Pg f c) (t:Vb Pg l):Vb Pg ((f,c)::l):=⟨h,t⟩
theorem an:Vb Pg []:=trivial
inductive OI {R:Type}:Option R->Option R->Prop where
 |rfl {a:Option R}:OI a a
 |chk {b:Bool} {k k':Option R} (h:lY k k'):OI (chk b λ_=>k) (chk b λ_=>k')
 |aF {b:Bool} {t f t' f':Option R} (h1:lY t t') (h2:lY f f'):OI (aF b t f) (aF b t' f')
 |lt {α:Type} {x:α} {k k':α->Option R} (h:∀y,lY (k y) (k' y)):OI (lt x k) (lt x k')
 |jn {α:Type} {o o':Option (R⊕α)} {k k':α->Option R} (h:lY o o') (hk:∀x,lY (k x) (k' x)):OI (jn o k) (jn o' k')
 |au {α:Type} {o o':Option α} {k k':α->Option R} (h:lY o o') (hk:∀x,lY (k x) (k' x)):OI (au o k) (au o' k')
 |iter {σ:Type} {f g:σ->Option (σ⊕R)} {x:σ} (h:∀x,lY (f x) (g x)):OI (gA f x) (iter g x)
theorem OI.o {R:Type} {a b:I R} (h:OI a b):lY a b:=by
 cases h with
 |rfl=>exact lY.rfl
 |chk h=>exact lY.chk h
 |aF h g=>exact lY.bcase h g
 |lt h=>exact lY.lt h
 |jn h g=>exact lY.jn h g
 |au h g=>exact lY.obind h g
 |iter h=>exact lY.iter h
theorem mk {f:FuncId} (y:FT) (m:y.pre.ty.den->I y.post.ty.den) {l:Y (FuncId×co)} (s:Vb Pg l) (a:TypeId->I Ty) (he:∀x,act (Xq l) a inert (AB Pg f) y x=m x:=by intro x;kernel_rfl) (hs:(AB Pg f).isSome=J:=by kernel_rfl) (hb:eR y.pre.bs.length y.post.bs.length=J:=by kernel_rfl):aH Pg f (cn y m):=(SS apy Sa s hs he).toC hb
theorem zF {f:FuncId} (y:FT) (m n:y.pre.ty.den->I y.post.ty.den) (s:∀x,lY (m x) (n x)) {l:Y (FuncId×co)} (z:Vb Pg l) (a:TypeId->I Ty) (he:∀x,act (Xq l) a inert (AB Pg f) y x=n x:=by intro x;kernel_rfl) (hs:(AB Pg f).isSome=J:=by kernel_rfl) (hb:eR y.pre.bs.length y.post.bs.length=J:=by kernel_rfl):aH Pg f (cn y m):=((SS apy Sa z hs he).sub s).toC hb
theorem N0 {f:FuncId} (y:FT) (hs:(AB Pg f).isSome=J:=by kernel_rfl) (hb:eR y.pre.bs.length y.post.bs.length=J:=by kernel_rfl):aH Pg f (cn y λ_=>D):=(Wv hs).toC hb
end
end Go.Proofs.YtloaobgmjdjhhaaGreatDoor.AI
