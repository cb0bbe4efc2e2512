/-
  Texts of the proof, part 5 of 6: what is used to prove the statement. No condition.
-/
import Derived.Test.YtkagidinekdnoaaGreatDoorHBAgreesQ3
import Derived.Deep.Slices
import Derived.OpenShut
import Derived.Below
import Derived.Test.YtkagidinekdnoaaGreatDoorProg
import Derived.KernelRfl
import Derived.Recover
namespace Go.Proofs.YtkagidinekdnoaaGreatDoor.AI
open Go.RowKit
set_option maxRecDepth 100000
set_option maxHeartbeats 4000000
set_option linter.unusedVariables false
set_option linter.unusedSimpArgs false
open Act renaming put→LO
open _root_.Array renaming getElem?_eq_some_iff→b9,getD_eq_getD_getElem?→fI,replicate→ng,ext'→Jo
open _root_.Bool renaming true→ajp,false→ajq,and_eq_true→aj,not_true→aY,false_eq_true→b8,not_eq_true'→dC,or_eq_true→hP,and_self→jM,false_and→mn,true_and→oy,and_eq_true_iff→s6
open Call renaming operands→dP
open _root_.Int renaming ofNat→aJ
open _root_.List renaming length→af,getElem?_eq_getElem→ar,getD_eq_getElem?_getD→au,mem_singleton→aF,mem_of_getElem?→aS,getElem?_map→aU,getElem?_eq_some_iff→a8,mem_cons→bc,getElem?_append_left→bA,getElem?_eq_none→bB,mem_append→bE,getElem?_append_right→bJ,length_map→bV,getElem?_take→cr,map_append→ct,mem_cons_of_mem→cA,mem_map→cO,mem_cons_self→dg,getElem?_of_mem→dW,range→eU,map_cons→ff,cons_append→fg,all_eq_true→fh,length_singleton→fw,length_eq_zero_iff→fK,getElem?_drop→fZ,mem_of_mem_take→ir,length_nil→je,getElem?_toArray→jA,mem_append_left→kc,nil_append→kE,append_nil→kF,mem_range→ml,mem_append_right→mr,getElem?_cons_zero→pF,size_toArray→rF,mem_flatMap→tw,take_succ_cons→uw,drop_succ_cons→ux,map_map→yk,mem_filter→DU
open _root_.List.cons renaming injEq→gZ
open _root_.Nat renaming eq_of_beq_eq_true→ak,beq→av,testBit→aG,le_of_ble_eq_true→aR,testBit_or→bf,ble_eq_true_of_le→bp,zero_add→bz,le_refl→bF,lt_or_ge→bI,le_trans→cM,add_zero→cN,lt_of_lt_of_le→cU,ble→dJ,blt→fd,le_succ_of_le→gF,or_assoc→jJ,add_assoc→qX,beq_refl→tu,lt_succ_of_lt→yi,lt_succ_self→AG,zero_or→CE,mul_comm→FL,add_mul→LN
open Oper renaming wp→FK
open _root_.Option renaming some→ajn,none→ajo,bind_some→aA,map_some→bO,isSome_iff_exists→gR,map→kD,getD_some→tm
open _root_.Option.some renaming injEq→aa,inj→jd
open _root_.Prod.mk renaming injEq→aw
open Region renaming wanted→gQ
open Result renaming andThen_ok→ci
open Sem renaming run_bind→dI,run_pure→nH
open _root_.Sum renaming inr→bM,inl→nG
open Value renaming okWide→FI
open World renaming cell?→LL
noncomputable section
mutual
def Be (g:Nat->Nat):TV->TV
 |.row i=>.row (g i)
 |.rtl i j=>.rtl (g i) j
 |.agg l=>.agg (jH g l)
 |.tup l=>.tup (jH g l)
 |.clo q l=>.clo q (jH g l)
 |.f T v=>.f T v
 |.fel T xs j h off=>.fel T xs j h off
 |.pel a b c d=>.pel (g a) b c d
 |.ptr a b=>.ptr (g a) b
 |.csl a b c=>.csl (g a) b c
 |.emp=>.emp
 |.nil=>.nil
 |.mp i=>.mp (g i)
 |.undef=>.undef
 |.np=>.np
 |.anyb=>.anyb
def jH (g:Nat->Nat):List TV->List TV
 |[]=>[]
 |x::r=>Be g x::jH g r
end
theorem yn (g:Nat->Nat):∀ l,jH g l=l.map (Be g)
 |[]=>rfl
 |x::r=>by rw[jH,yn g r];rfl
def kH (g:Nat->Nat):gC->gC
 |.cells ty l=>.cells ty (jH g l)
 |.rows ty p T xs=>.rows ty p T xs
 |.dead p sz n=>.dead p sz n
 |.mp K V es=>.mp K V es
theorem Gr (g:Nat->Nat) (b:gC):lE (kH g b)=lE b:=by cases b<;>rfl
def F3 (g:Nat->Nat) (n:Nat):Nat:=nm (g (ow n))
theorem vZ (g:Nat->Nat) (i:Nat):F3 g (nm i)=nm (g i):=by unfold F3;rw[dz]
mutual
theorem ae9 {g:Nat->Nat} {h1 h2:aZ} (hrow:∀ i r,dE h1 i=ajn r->dE h2 (g i)=ajn r):∀ (v:TV) (y:AV),bU h1 v=ajn y->bU h2 (Be g v)=ajn (y.ren (F3 g))
 |.f _ _,y,he=>by simp only[bU,aa] at he;subst he;rfl
 |.fel _ _ _ _ _,y,he=>by simp only[bU,aa] at he;subst he;rfl
 |.pel _ _ _ _,y,he=>by simp only[bU,aa] at he;subst he;simp only[Be,bU,AV.ren,vZ]
 |.ptr _ _,y,he=>by simp only[bU,aa] at he;subst he;simp only[Be,bU,AV.ren,vZ]
 |.csl _ _ _,y,he=>by simp only[bU,aa] at he;subst he;simp only[Be,bU,AV.ren,vZ]
 |.row id,y,he=>by
  simp only[bU] at he;split at he
  ·rename_i p sz n hr;simp only[aa] at he;subst he;simp only[Be,bU,hrow id _ hr];unfold eo;split
   ·rfl
   ·simp only[AV.ren,vZ]
  ·cases he
 |.rtl id jj,y,he=>by
  simp only[bU] at he;split at he
  ·rename_i p sz n hr;simp only[aa] at he;subst he;simp only[Be,bU,hrow id _ hr,AV.ren,vZ]
  ·cases he
 |.emp,y,he=>by simp only[bU,aa] at he;subst he;rfl
 |.nil,y,he=>by simp only[bU,aa] at he;subst he;rfl
 |.mp _,y,he=>by simp only[bU,aa] at he;subst he;simp only[Be,bU,AV.ren,vZ]
 |.agg l,y,he=>by
  simp only[bU] at he;split at he
  ·rename_i l' hl;simp only[aa] at he;subst he;simp only[Be,bU,pn hrow l l' hl,AV.ren]
  ·cases he
 |.tup l,y,he=>by
  simp only[bU] at he;split at he
  ·rename_i l' hl;simp only[aa] at he;subst he;simp only[Be,bU,pn hrow l l' hl,AV.ren]
  ·cases he
 |.clo q l,y,he=>by
  simp only[bU] at he;split at he
  ·rename_i l' hl;simp only[aa] at he;subst he;simp only[Be,bU,pn hrow l l' hl,AV.ren]
  ·cases he
 |.undef,y,he=>by simp only[bU,aa] at he;subst he;rfl
 |.np,y,he=>by simp only[bU,aa] at he;subst he;rfl
 |.anyb,y,he=>by simp only[bU,aa] at he;subst he;rfl
theorem pn {g:Nat->Nat} {h1 h2:aZ} (hrow:∀ i r,dE h1 i=ajn r->dE h2 (g i)=ajn r):∀ (l:List TV) (l':List AV),cj h1 l=ajn l'->cj h2 (jH g l)=ajn (AV.renL (F3 g) l')
 |[],l',he=>by simp only[cj,aa] at he;subst he;rfl
 |x::r,l',he=>by
  obtain⟨y,l2,rfl,e1,e2⟩:=cB he;exact nQ (ae9 hrow x y e1) (pn hrow r l2 e2)
end
theorem BP {g:Nat->Nat} {h1 I:aZ} (hrow:∀ i r,dE h1 i=ajn r->dE I (g i)=ajn r) {b:gC} {y:vy} (he:jR h1 b=ajn y):jR I (kH g b)=ajn (y.ren (F3 g)):=by
 cases b with
 |rows ty p T xs=>
  simp only[jR] at he;split at he
  ·cases he
  ·rename_i hc;simp only[aa] at he;subst he;simp only[kH,jR,if_neg hc];rfl
 |cells ty l=>
  simp only[jR] at he;split at he
  ·rename_i J hl;simp only[aa] at he;subst he;simp only[kH,jR,pn hrow l J hl,nj];rfl
  ·cases he
 |dead p sz n=>cases he
 |mp K V es=>
  simp only[jR,aa] at he;subst he;simp only[kH,jR,vy.ren,aa,vy.mk.injEq,true_and];unfold X8;split
  ·rfl
  ·simp only[BC.ren,yk];rfl
theorem Bd (g:Nat->Nat) (a b:List TV):jH g (a++b)=jH g a++jH g b:=by
 rw[yn,yn,yn,ct]
theorem oF (g:Nat->Nat):∀ (n:Nat) (T:Ty) (v:T.den) (l:List TV),cellsOf n T v=ajn l->jH g l=l
 |0,_,_,_,he=>by simp[cellsOf] at he
 |n+1,.st t,v,l,he=>oF g n t v l he
 |n+1,.pr a b,v,l,he=>by
  simp only[cellsOf] at he;split at he
  ·rename_i x y J I;simp only[aa] at he;subst he;rw[Bd,oF g n a v.1 x J,oF g n b v.2 y I]
  ·cases he
 |n+1,.un,v,l,he=>by simp only[cellsOf,aa] at he;subst he;rfl
 |n+1,.ex,v,l,he=>oF g n K9 (LR v) l he
 |n+1,.sm,v,l,he=>oF g n KH (LQ v) l he
 |n+1,.int k,v,l,he=>by simp only[cellsOf,aa] at he;subst he;rfl
 |n+1,.bool,v,l,he=>by simp only[cellsOf,aa] at he;subst he;rfl
 |n+1,.str,v,l,he=>by simp only[cellsOf,aa] at he;subst he;rfl
 |n+1,.sl t,v,l,he=>by simp only[cellsOf,aa] at he;subst he;rfl
abbrev FY:Nat->Nat:=λi=>i
mutual
theorem XS (g:Nat->Nat):∀ (p:PV) (x:p.ty.den),oJ g p x=(oJ FY p x).map (jH g)
 |.d T,x=>by
  simp only[oJ];cases h:cellsOf 40 T x with
  |none=>rfl
  |some l=>simp only[bO,oF g 40 T x l h]
 |.ptr i o,x=>rfl
 |.csl i o z,x=>rfl
 |.clo q i o,x=>rfl
 |.row i,x=>rfl
 |.mp i,x=>rfl
 |.nil,x=>rfl
 |.emp,x=>rfl
 |.agg ps,x=>yo g ps x
theorem yo (g:Nat->Nat):∀ (ps:List PV) (x:(PV.tyL ps).den),pJ g ps x=(pJ FY ps x).map (jH g)
 |[],x=>rfl
 |p::r,x=>by
  simp only[pJ];rw[XS g p,yo g r];cases oJ FY p (MF p.ty (PV.tyL r) x) with
  |none=>rfl
  |some a=>
   cases pJ FY r (Jx p.ty (PV.tyL r) x) with
   |none=>rfl
   |some b=>simp only[bO,Bd]
end
def aem (o:Option (List TV)):Option TV:=match o with|some l=>ajn (.agg l)|none=>ajo
theorem Y9 (g:Nat->Nat) (o:Option (List TV)):aem (o.map (jH g))=(aem o).map (Be g):=by cases o<;>rfl
theorem XQ (g:Nat->Nat) (p:PV) (x:p.ty.den):rI g p x=(rI FY p x).map (Be g):=by
 cases p with
 |agg ps=>exact (congrArg aem (yo g ps x)).trans (Y9 g _)
 |_=>rfl
theorem rV (g:Nat->Nat):∀ (ps:List PV) (x:(PV.tyL ps).den),oR g ps x=(oR FY ps x).map (jH g)
 |[],x=>rfl
 |p::r,x=>by
  simp only[oR];rw[XQ g p,rV g r];cases rI FY p (MF p.ty (PV.tyL r) x) with
  |none=>rfl
  |some a=>
   cases oR FY r (Jx p.ty (PV.tyL r) x) with
   |none=>rfl
   |some b=>rfl
def Ts (ty:TypeId) (o:Option (List TV)):Option (Option gC):=match o with|some l=>ajn (ajn (.cells ty l))|none=>ajo
theorem Tr (g:Nat->Nat) (ty:TypeId) (o:Option (List TV)):Ts ty (o.map (jH g))=(Ts ty o).map (kD (kH g)):=by cases o<;>rfl
theorem XT (g:Nat->Nat) (b:PB) (x:b.ty.den):Bi g b x=(Bi FY b x).map (kD (kH g)):=by
 cases b with
 |cells ty ps=>exact (congrArg (Ts ty) (yo g ps x)).trans (Tr g ty _)
 |_=>rfl
theorem uD (g:Nat->Nat):∀ (bs:List PB) (x:(PB.tyL bs).den),nk g bs x=(nk FY bs x).map (List.map (kD (kH g)))
 |[],x=>rfl
 |b::r,x=>by
  simp only[nk];rw[XT g b,uD g r];cases Bi FY b (MF b.ty (PB.tyL r) x) with
  |none=>rfl
  |some a=>
   cases nk FY r (Jx b.ty (PB.tyL r) x) with
   |none=>rfl
   |some l=>rfl
theorem Bh (g:Nat->Nat):∀ (bs:List PB) (x:(PB.tyL bs).den) (l:List (Option gC)),nk g bs x=ajn l->l.length=bs.length
 |[],x,l,h=>by simp only[nk,aa] at h;subst h;rfl
 |b::r,x,l,h=>by
  simp only[nk] at h;split at h
  ·split at h
   ·rename_i q hq;simp only[aa] at h;subst h;simp[Bh g r _ q hq]
   ·cases h
  ·cases h
theorem HC (h:aZ) (i j:Nat):(kill h i).get j=if j=i then (h.get i).map tK else h.get j:=by
 unfold kill;cases hb:h.get i with
 |none=>
  simp only[Option.map_none];split
  ·rename_i e;rw[e,hb]
  ·rfl
 |some b=>rw[PT.get_set];rfl
theorem tI (g:Nat->Nat):∀ (l:List (Option gC)) (i:Nat) (h:aZ) (j:Nat),(∀ k,k<l.length->j≠g (i+k))->(yO g i l h).get j=h.get j
 |[],i,h,j,_=>rfl
 |some c::r,i,h,j,hj=>by
  rw[yO,tI g r (i+1) _ j (λk hk=>by have:=hj (k+1) (by simpa using hk);rwa [show i+1+k=i+(k+1) from by omega]),PT.get_set,if_neg];exact hj 0 (by simp)
 |none::r,i,h,j,hj=>by
  rw[yO,tI g r (i+1) _ j (λk hk=>by have:=hj (k+1) (by simpa using hk);rwa [show i+1+k=i+(k+1) from by omega]),HC,if_neg];exact hj 0 (by simp)
theorem tJ (g:Nat->Nat):∀ (l:List (Option gC)) (i:Nat) (h:aZ),(∀ a b,a<l.length->b<l.length->g (i+a)=g (i+b)->a=b)->∀ (k:Nat) (c:Option gC),l[k]? =ajn c->(yO g i l h).get (g (i+k))=(match c with|some b=>ajn b|none=>(h.get (g (i+k))).map tK)
 |[],i,h,_,k,c,hk=>by simp at hk
 |o::r,i,h,hinj,k,c,hk=>by
  have hinj':∀ a b,a<r.length->b<r.length->g (i+1+a)=g (i+1+b)->a=b:=λa b J hb e=>by
   have:=hinj (a+1) (b+1) (by simpa using J) (by simpa using hb) (by rw[show i+(a+1)=i+1+a from by omega,show i+(b+1)=i+1+b from by omega];exact e);omega
  cases k with
  |zero=>
   simp at hk;subst hk;have hne:∀ k,k<r.length->g (i+0)≠g (i+1+k):=λk hk e=>by
    have:=hinj 0 (k+1) (by simp) (by simpa using hk) (by rw[show i+(k+1)=i+1+k from by omega];exact e);omega
   cases o with
   |some b=>rw[yO,tI g r (i+1) _ _ hne];simp only[cN];rw[PT.get_set,if_pos rfl]
   |none=>rw[yO,tI g r (i+1) _ _ hne];simp only[cN];rw[HC,if_pos rfl]
  |succ k=>
   have I:r[k]? =ajn c:=by simpa using hk
   have hkl:k<r.length:=(a8.1 I).1;have hne:g (i+(k+1))≠g i:=λe=>by
    have:=hinj (k+1) 0 (by simpa using hkl) (by simp) (by rw[e];rfl);omega
   rw[show i+(k+1)=i+1+k from by omega] at hne ⊢;cases o with
   |some b=>
    rw[yO,tJ g r (i+1) _ hinj' k c I];cases c with
    |some _=>rfl
    |none=>simp only[PT.get_set,if_neg hne]
   |none=>
    rw[yO,tJ g r (i+1) _ hinj' k c I];cases c with
    |some _=>rfl
    |none=>simp only[HC,if_neg hne]
def wz (h' h:aZ):Prop:=∀ i r,dE h' i=ajn r->dE h i=ajn r
section get
variable {h h':aZ} {H H':HF} {g:Nat->Nat}
theorem kG.agg {l I:List AV} (hl:gr H H' l I) (hc:∀ x∈I,x.isCell=ajp):kG H H' (.agg l) (.agg I):=by
 intro φ E w v hrep hr;cases hr with
 |@agg _ vs hlen hcl hrr=>
  refine .agg (by rw[hlen,<-hl.length]) hc λj y u J hu=>?_
  obtain⟨x,M,hle⟩:=hl.get j y J;exact hle φ E w u hrep (hrr j x u M hu)
theorem N3 (hr:wz h' h) {i:Nat} {y M:AV} (J:bU h (.row i)=ajn y) (I:bU h' (.row i)=ajn M):M=y:=by
 simp only[bU] at J I;cases h1:dE h' i with
 |none=>rw[h1] at I;cases I
 |some r=>
  rw[h1] at I;rw[hr i r h1] at J;rw[J] at I;cases I;rfl
mutual
theorem aan (d:tZ H H') (hr:wz h' h):∀ (p:PV) (l:List TV) (x:p.ty.den) (m:Nat) (r:List TV) (cs:List TV) (l' cs':List AV),oq g h p l=ajn (x,m,r)->oJ g p x=ajn cs->cj h l=ajn l'->cj h' cs=ajn cs'->CH h H H' m->∃ l1 l2,l'=l1++l2/\cj h r=ajn l2/\gr H H' l1 cs'
 |.d T,l,x,m,r,cs,l',cs',hg,hp,hl,hc,gv=>by
  obtain⟨l1,l2,e1,e2,e3⟩:=qG d 40 T l x m r l' hg hl gv;have:=(kA h' 40 T x cs hp).1;rw[hc] at this;cases this;exact⟨l1,l2,e1,e2,e3⟩
 |.ptr i q,l,x,m,r,cs,l',cs',hg,hp,hl,hc,gv=>by
  simp only[oq] at hg;split at hg
  ·rename_i i' o' r';split at hg
   ·rename_i hb;simp only[aj] at hb;have e1:=ak hb.1;have e2:=ak hb.2;subst e1;subst e2;simp only[aa,aw] at hg;obtain⟨_,_,rfl⟩:=hg;simp only[oJ,aa] at hp;subst hp;obtain⟨y,l2,rfl,g1,g2⟩:=cB hl;simp only[bU,aa] at g1;subst g1;simp only[cj,bU,aa] at hc;subst hc;exact⟨[_],l2,rfl,g2,kG.refl d _,trivial⟩
   ·cases hg
  ·cases hg
 |.csl i q z,l,x,m,r,cs,l',cs',hg,hp,hl,hc,gv=>by
  simp only[oq] at hg;split at hg
  ·rename_i i' o' z' r';split at hg
   ·rename_i hb;simp only[aj] at hb;have e1:=ak hb.1.1;have e2:=ak hb.1.2;have e3:=ak hb.2;subst e1;subst e2;subst e3;simp only[aa,aw] at hg;obtain⟨_,_,rfl⟩:=hg;simp only[oJ,aa] at hp;subst hp;obtain⟨y,l2,rfl,g1,g2⟩:=cB hl;simp only[bU,aa] at g1;subst g1;simp only[cj,bU,aa] at hc;subst hc;exact⟨[_],l2,rfl,g2,kG.refl d _,trivial⟩
   ·cases hg
  ·cases hg
 |.clo q i z,l,x,m,r,cs,l',cs',hg,hp,hl,hc,gv=>by
  simp only[oq] at hg;split at hg
  ·rename_i q' i' z' r';split at hg
   ·rename_i hb;simp only[aj] at hb;have e1:=ak hb.1.1;have e2:=ak hb.1.2;have e3:=ak hb.2;subst e1;subst e2;subst e3;simp only[aa,aw] at hg;obtain⟨_,_,rfl⟩:=hg;simp only[oJ,aa] at hp;subst hp;obtain⟨y,l2,rfl,g1,g2⟩:=cB hl;simp only[bU,cj,aa] at g1;subst g1;simp only[cj,bU,aa] at hc;subst hc;exact⟨[_],l2,rfl,g2,kG.refl d _,trivial⟩
   ·cases hg
  ·cases hg
 |.row i,l,x,m,r,cs,l',cs',hg,hp,hl,hc,gv=>by
  simp only[oq] at hg;split at hg
  ·rename_i i' r';split at hg
   ·rename_i hb;have e1:=ak hb;subst e1;simp only[aa,aw] at hg;obtain⟨_,_,rfl⟩:=hg;simp only[oJ,aa] at hp;subst hp;obtain⟨y,l2,rfl,g1,g2⟩:=cB hl;obtain⟨y',l3,rfl,g3,g4⟩:=cB hc;simp only[cj,aa] at g4;subst g4;rw[N3 hr g1 g3];exact⟨[_],l2,rfl,g2,kG.refl d _,trivial⟩
   ·cases hg
  ·cases hg
 |.mp i,l,x,m,r,cs,l',cs',hg,hp,hl,hc,gv=>by
  simp only[oq] at hg;split at hg
  ·rename_i i' r';split at hg
   ·rename_i hb;have e1:=ak hb;subst e1;simp only[aa,aw] at hg;obtain⟨_,_,rfl⟩:=hg;simp only[oJ,aa] at hp;subst hp;obtain⟨y,l2,rfl,g1,g2⟩:=cB hl;simp only[bU,aa] at g1;subst g1;simp only[cj,bU,aa] at hc;subst hc;exact⟨[_],l2,rfl,g2,kG.refl d _,trivial⟩
   ·cases hg
  ·cases hg
 |.nil,l,x,m,r,cs,l',cs',hg,hp,hl,hc,gv=>by
  simp only[oq] at hg;split at hg
  ·simp only[aa,aw] at hg;obtain⟨_,_,rfl⟩:=hg;simp only[oJ,aa] at hp;subst hp;obtain⟨y,l2,rfl,g1,g2⟩:=cB hl;simp only[bU,aa] at g1;subst g1;simp only[cj,bU,aa] at hc;subst hc;exact⟨[_],l2,rfl,g2,kG.refl d _,trivial⟩
  ·cases hg
 |.emp,l,x,m,r,cs,l',cs',hg,hp,hl,hc,gv=>by
  simp only[oq] at hg;split at hg
  ·simp only[aa,aw] at hg;obtain⟨_,_,rfl⟩:=hg;simp only[oJ,aa] at hp;subst hp;obtain⟨y,l2,rfl,g1,g2⟩:=cB hl;simp only[bU,aa] at g1;subst g1;simp only[cj,bU,aa] at hc;subst hc;exact⟨[_],l2,rfl,g2,Le.nilEmp.toH d,trivial⟩
  ·simp only[aa,aw] at hg;obtain⟨_,_,rfl⟩:=hg;simp only[oJ,aa] at hp;subst hp;obtain⟨y,l2,rfl,g1,g2⟩:=cB hl;simp only[bU,aa] at g1;subst g1;simp only[cj,bU,aa] at hc;subst hc;exact⟨[_],l2,rfl,g2,kG.refl d _,trivial⟩
  ·cases hg
 |.agg ps,l,x,m,r,cs,l',cs',hg,hp,hl,hc,gv=>BK d hr ps l x m r cs l' cs' hg hp hl hc gv
theorem BK (d:tZ H H') (hr:wz h' h):∀ (ps:List PV) (l:List TV) (x:(PV.tyL ps).den) (m:Nat) (r:List TV) (cs:List TV) (l' cs':List AV),xD g h ps l=ajn (x,m,r)->pJ g ps x=ajn cs->cj h l=ajn l'->cj h' cs=ajn cs'->CH h H H' m->∃ l1 l2,l'=l1++l2/\cj h r=ajn l2/\gr H H' l1 cs'
 |[],l,x,m,r,cs,l',cs',hg,hp,hl,hc,gv=>by
  simp only[xD,aa,aw] at hg;obtain⟨_,_,rfl⟩:=hg;simp only[pJ,aa] at hp;subst hp;simp only[cj,aa] at hc;subst hc;exact⟨[],l',rfl,hl,trivial⟩
 |p::ps,l,x,m,r,cs,l',cs',hg,hp,hl,hc,gv=>by
  simp only[xD] at hg;split at hg
  ·rename_i x1 m1 r1 h1;split at hg
   ·rename_i x2 m2 r2 h2;simp only[aa,aw] at hg;obtain⟨rfl,rfl,rfl⟩:=hg;simp only[pJ,rP,tF] at hp;split at hp
    ·rename_i a ha;split at hp
     ·rename_i b hb;simp only[aa] at hp;subst hp;obtain⟨a',b',rfl,ea,eb⟩:=At hc;obtain⟨ga,gb⟩:=gv.or;obtain⟨l1,l2,rfl,q1,q2⟩:=aan d hr p l _ _ _ a l' a' h1 ha hl ea ga;obtain⟨l3,l4,rfl,q3,q4⟩:=BK d hr ps _ _ _ _ b l2 b' h2 hb q1 eb gb;exact⟨l1++l3,l4,by simp,q3,q2.append q4⟩
     ·cases hp
    ·cases hp
   ·cases hg
  ·cases hg
end
mutual
theorem Vo:∀ (p:PV) (x:p.ty.den) (cs:List TV),oJ g p x=ajn cs->jF cs=ajp
 |.d T,x,cs,hp=>(kA PT.leaf 40 T x cs hp).2
 |.ptr i q,x,cs,hp=>by simp only[oJ,aa] at hp;subst hp;rfl
 |.csl i q z,x,cs,hp=>by simp only[oJ,aa] at hp;subst hp;rfl
 |.clo q i z,x,cs,hp=>by simp only[oJ,aa] at hp;subst hp;rfl
 |.row i,x,cs,hp=>by simp only[oJ,aa] at hp;subst hp;rfl
 |.mp i,x,cs,hp=>by simp only[oJ,aa] at hp;subst hp;rfl
 |.nil,x,cs,hp=>by simp only[oJ,aa] at hp;subst hp;rfl
 |.emp,x,cs,hp=>by simp only[oJ,aa] at hp;subst hp;rfl
 |.agg ps,x,cs,hp=>vH ps x cs hp
theorem vH:∀ (ps:List PV) (x:(PV.tyL ps).den) (cs:List TV),pJ g ps x=ajn cs->jF cs=ajp
 |[],x,cs,hp=>by simp only[pJ,aa] at hp;subst hp;rfl
 |p::ps,x,cs,hp=>by
  simp only[pJ] at hp;split at hp
  ·rename_i a ha;split at hp
   ·rename_i b hb;simp only[aa] at hp;subst hp;exact Qz (Vo p _ a ha) (vH ps _ b hb)
   ·cases hp
  ·cases hp
end
theorem aam (d:tZ H H') (hr:wz h' h) {p:PV} {v:TV} {x:p.ty.den} {m:Nat} {u:TV} {y M:AV} (hg:vX g h p v=ajn (x,m)) (hp:rI g p x=ajn u) (J:bU h v=ajn y) (I:bU h' u=ajn M) (Z:CH h H H' m):kG H H' y M:=by
 cases p with
 |d T=>
  simp only[rI,aa] at hp;subst hp;simp only[bU,aa] at I;subst I;exact (Nj d hg J Z).1
 |agg ps=>
  simp only[vX] at hg;split at hg
  ·cases hg
  ·rename_i hc;split at hg
   ·rename_i l hl;split at hg
    ·rename_i x1 m1 h1;simp only[aa,aw] at hg;obtain⟨rfl,rfl⟩:=hg;simp only[rI] at hp;split at hp
     ·rename_i cs hcs;simp only[aa] at hp;subst hp;simp only[bU] at I;split at I
      ·rename_i cs' hcs';simp only[aa] at I;subst I;obtain⟨e1,e2⟩:=Ly hl J;obtain⟨l1,l2,Y,U,q3⟩:=BK d hr ps l _ _ [] cs y.cs cs' h1 hcs e1 hcs' Z;simp only[cj,aa] at U;subst U;rw[kF] at Y;subst Y;have hcell:∀ x∈cs',x.isCell=ajp:=kB (rR hcs' (vH ps _ cs hcs));cases v with
       |agg q=>
        simp only[bU] at J;split at J
        ·simp only[aa] at J;subst J;exact kG.agg q3 hcell
        ·cases J
       |f S z=>
        simp only[bU,aa] at J;subst J;have ho:S.one=ajq:=by simpa[TV.isC] using hc
        rw[yE] at q3;rw[po S z ho];intro φ E w v hrep hrel;exact kG.agg q3 hcell φ E w v hrep (Le.aggF _ _ _ _ hrel)
       |tup q=>simp[TV.cs,TV.isC] at hl
       |undef=>simp[TV.cs,TV.isC] at hl
       |np=>simp[TV.isC] at hc
       |anyb=>simp[TV.cs,TV.isC] at hl
       |fel T xs j hj off=>simp[TV.isC] at hc
       |pel id sz j off=>simp[TV.isC] at hc
       |ptr id off=>simp[TV.isC] at hc
       |csl id off z=>simp[TV.isC] at hc
       |row id=>simp[TV.isC] at hc
       |emp=>simp[TV.isC] at hc
       |nil=>simp[TV.isC] at hc
       |mp id=>simp[TV.isC] at hc
       |rtl id jj=>cases hl
       |clo g l=>simp[TV.isC] at hc
      ·cases I
     ·cases hp
    ·cases hg
   ·cases hg
 |ptr i q=>
  simp only[rI,aa] at hp;subst hp;simp only[vX] at hg;split at hg
  ·rename_i h1;simp only[oq] at h1;split at h1
   ·rename_i e;simp only[gZ] at e;obtain⟨rfl,_⟩:=e;split at h1
    ·rename_i hb;simp only[aj] at hb;have e1:=ak hb.1;have e2:=ak hb.2;subst e1;subst e2;simp only[bU,aa] at J I;subst J;subst I;exact kG.refl d _
    ·cases h1
   ·cases h1
  ·cases hg
 |csl i q z=>
  simp only[rI,aa] at hp;subst hp;simp only[vX] at hg;split at hg
  ·rename_i h1;simp only[oq] at h1;split at h1
   ·rename_i e;simp only[gZ] at e;obtain⟨rfl,_⟩:=e;split at h1
    ·rename_i hb;simp only[aj] at hb;have e1:=ak hb.1.1;have e2:=ak hb.1.2;have e3:=ak hb.2;subst e1;subst e2;subst e3;simp only[bU,aa] at J I;subst J;subst I;exact kG.refl d _
    ·cases h1
   ·cases h1
  ·cases hg
 |clo q i z=>
  simp only[rI,aa] at hp;subst hp;simp only[vX] at hg;split at hg
  ·rename_i h1;simp only[oq] at h1;split at h1
   ·rename_i e;simp only[gZ] at e;obtain⟨rfl,_⟩:=e;split at h1
    ·rename_i hb;simp only[aj] at hb;have e1:=ak hb.1.1;have e2:=ak hb.1.2;have e3:=ak hb.2;subst e1;subst e2;subst e3;simp only[bU,cj,aa] at J I;subst J;subst I;exact kG.refl d _
    ·cases h1
   ·cases h1
  ·cases hg
 |row i=>
  simp only[rI,aa] at hp;subst hp;simp only[vX] at hg;split at hg
  ·rename_i h1;simp only[oq] at h1;split at h1
   ·rename_i e;simp only[gZ] at e;obtain⟨rfl,_⟩:=e;split at h1
    ·rename_i hb;have e1:=ak hb;subst e1;rw[N3 hr J I];exact kG.refl d _
    ·cases h1
   ·cases h1
  ·cases hg
 |mp i=>
  simp only[rI,aa] at hp;subst hp;simp only[vX] at hg;split at hg
  ·rename_i h1;simp only[oq] at h1;split at h1
   ·rename_i e;simp only[gZ] at e;obtain⟨rfl,_⟩:=e;split at h1
    ·rename_i hb;have e1:=ak hb;subst e1;simp only[bU,aa] at J I;subst J;subst I;exact kG.refl d _
    ·cases h1
   ·cases h1
  ·cases hg
 |nil=>
  simp only[rI,aa] at hp;subst hp;simp only[vX] at hg;split at hg
  ·rename_i h1;simp only[oq] at h1;split at h1
   ·rename_i e;simp only[gZ] at e;obtain⟨rfl,_⟩:=e;simp only[bU,aa] at J I;subst J;subst I;exact kG.refl d _
   ·cases h1
  ·cases hg
 |emp=>
  simp only[rI,aa] at hp;subst hp;simp only[vX] at hg;split at hg
  ·rename_i h1;simp only[oq] at h1;split at h1
   ·rename_i e;simp only[gZ] at e;obtain⟨rfl,_⟩:=e;simp only[bU,aa] at J I;subst J;subst I;exact Le.nilEmp.toH d
   ·rename_i e;simp only[gZ] at e;obtain⟨rfl,_⟩:=e;simp only[bU,aa] at J I;subst J;subst I;exact kG.refl d _
   ·cases h1
  ·cases hg
theorem BJ (d:tZ H H') (hr:wz h' h):∀ (ps:List PV) (vs:List TV) (x:(PV.tyL ps).den) (m:Nat) (us:List TV) (l J:List AV),wH g h ps vs=ajn (x,m)->oR g ps x=ajn us->cj h vs=ajn l->cj h' us=ajn J->CH h H H' m->gr H H' l J
 |[],[],x,m,us,l,J,hg,hp,hl,I,M=>by
  simp only[oR,aa] at hp;subst hp;simp only[cj,aa] at hl I;subst hl;subst I;trivial
 |[],_::_,x,m,us,l,J,hg,_,_,_,_=>by simp[wH] at hg
 |_::_,[],x,m,us,l,J,hg,_,_,_,_=>by simp[wH] at hg
 |p::ps,v::vs,x,m,us,l,J,hg,hp,hl,I,M=>by
  simp only[wH] at hg;split at hg
  ·rename_i x1 m1 h1;split at hg
   ·rename_i x2 m2 Z;simp only[aa,aw] at hg;obtain⟨rfl,rfl⟩:=hg;simp only[oR,rP,tF] at hp;split at hp
    ·rename_i a Y;split at hp
     ·rename_i b hb;simp only[aa] at hp;subst hp;obtain⟨y,l2,rfl,e1,e2⟩:=cB hl;obtain⟨y',U,rfl,e3,e4⟩:=cB I;obtain⟨ga,gb⟩:=M.or;exact⟨aam d hr h1 Y e1 e3 ga,BJ d hr ps vs _ _ b l2 U Z hb e2 e4 gb⟩
     ·cases hp
    ·cases hp
   ·cases hg
  ·cases hg
inductive BM (g:Nat->Nat) (h:aZ) (m:Nat):gC->gC->Prop
 |rows (ty:TypeId) (p:Bool) (T:Ty) (xs:List T.den):BM g h m (.rows ty p T xs) (.rows ty p T xs)
 |mp (K V:Ty) (es:List (K.den×V.den)):BM g h m (.mp K V es) (.mp K V es)
 |cells (ty:TypeId) (ps:List PV) (x:(PV.tyL ps).den) (l l2:List TV) (m':Nat) (hg:xD g h ps l=ajn (x,m',[])) (hp:pJ g ps x=ajn l2) (hm:∀ i,aG m' i=ajp->aG m i=ajp):BM g h m (.cells ty l) (.cells ty l2)
theorem BM.mono {m m2:Nat} (hm:∀ i,aG m i=ajp->aG m2 i=ajp) {b c:gC} (h1:BM g h m b c):BM g h m2 b c:=by
 cases h1 with
 |rows ty p T xs=>exact .rows ty p T xs
 |mp K V es=>exact .mp K V es
 |cells ty ps x l l2 m' hg hp I=>exact .cells ty ps x l l2 m' hg hp λi hi=>hm i (I i hi)
theorem aao {i:Nat} {b:PB} {x:b.ty.den} {m:Nat} {c:gC} (hg:Dl g h i b=ajn (x,m)) (hp:Bi g b x=ajn (ajn c)):∃ b0,h.get (g i)=ajn b0/\BM g h m b0 c:=by
 cases b with
 |rows ty p T=>
  simp only[Dl] at hg;split at hg
  ·rename_i ty' M S xs hb;split at hg
   ·rename_i hc;simp only[aj,beq_iff_eq] at hc;obtain⟨rfl,rfl⟩:=hc;split at hg
    ·rename_i z I;simp only[aa,aw] at hg;obtain⟨rfl,rfl⟩:=hg;obtain⟨e,rfl⟩:=io I;cases e;simp only[Bi,aa] at hp;subst hp;exact⟨_,hb,.rows _ _ _ _⟩
    ·cases hg
   ·cases hg
  ·cases hg
 |rowsP ty T=>
  simp only[Dl] at hg;split at hg
  ·rename_i ty' M S xs hb;split at hg
   ·rename_i hc;have hc:ty=ty':=by simpa using hc
    subst hc;split at hg
    ·rename_i z I;simp only[aa,aw] at hg;obtain⟨rfl,rfl⟩:=hg;obtain⟨e,rfl⟩:=io I;cases e;simp only[Bi,aa] at hp;subst hp;exact⟨_,hb,.rows _ _ _ _⟩
    ·cases hg
   ·cases hg
  ·cases hg
 |cells ty ps=>
  simp only[Dl] at hg;split at hg
  ·rename_i ty' l hb;split at hg
   ·rename_i hc;have hc:ty=ty':=by simpa using hc
    subst hc;split at hg
    ·rename_i z m1 I;simp only[aa,aw] at hg;obtain⟨rfl,rfl⟩:=hg;simp only[Bi] at hp;split at hp
     ·rename_i l2 J;simp only[aa] at hp;subst hp;exact⟨_,hb,.cells ty ps _ l l2 _ I J λ_ h=>h⟩
     ·cases hp
    ·cases hg
   ·cases hg
  ·cases hg
 |mp K V=>
  simp only[Dl] at hg;split at hg
  ·rename_i K' V' es hb;split at hg
   ·rename_i z I;simp only[aa,aw] at hg;obtain⟨rfl,rfl⟩:=hg;obtain⟨e,rfl⟩:=io I;cases e;simp only[Bi,aa] at hp;subst hp;exact⟨_,hb,.mp _ _ _⟩
   ·cases hg
  ·cases hg
 |gone=>simp[Bi] at hp
theorem HG:∀ (bs:List PB) (i:Nat) (x:(PB.tyL bs).den) (m:Nat) (I:List (Option gC)),ze g h i bs=ajn (x,m)->nk g bs x=ajn I->∀ (k:Nat) c,I[k]? =ajn (ajn c)->∃ b0,h.get (g (i+k))=ajn b0/\BM g h m b0 c
 |[],i,x,m,I,hg,hp,k,c,hk=>by
  simp only[nk,aa] at hp;subst hp;simp at hk
 |b::r,i,x,m,I,hg,hp,k,c,hk=>by
  simp only[ze] at hg;split at hg
  ·rename_i Y m1 h1;split at hg
   ·rename_i U m2 M;simp only[aa,aw] at hg;obtain⟨rfl,rfl⟩:=hg;simp only[nk,rP,tF] at hp;split at hp
    ·rename_i a J;split at hp
     ·rename_i q hq;simp only[aa] at hp;subst hp;cases k with
      |zero=>
       simp at hk;subst hk;obtain⟨b0,e1,e2⟩:=aao h1 J;exact⟨b0,e1,e2.mono λi hi=>by rw[bf,hi];rfl⟩
      |succ k=>
       obtain⟨b0,e1,e2⟩:=HG r (i+1) _ _ q M hq k c (by simpa using hk);rw[show i+1+k=i+(k+1) from by omega] at e1;exact⟨b0,e1,e2.mono λi hi=>by rw[bf,hi];simp⟩
     ·cases hp
    ·cases hp
   ·cases hg
  ·cases hg
end get
theorem O5 {σ:PT Nat} {i a:Nat} (h:σ.get i=ajn a):gq σ i=a:=by unfold gq;rw[h]
theorem Ua {σ:PT Nat}:∀ (n i acc sm:Nat),XK σ n i acc=ajn sm->
 (∀ k,k<n->aG acc (gq σ (i+k))=ajq)/\(∀ a b,a<n->b<n->gq σ (i+a)=gq σ (i+b)->a=b)/\∀ q,aG sm q=ajp↔aG acc q=ajp\/∃ k,k<n/\gq σ (i+k)=q
 |0,i,acc,sm,h=>by
  simp only[XK,aa] at h;subst h;exact⟨λk hk=>by omega,λa b J=>by omega,λq=>⟨.inl,λhq=>hq.elim id λ⟨k,hk,_⟩=>by omega⟩⟩
 |n+1,i,acc,sm,h=>by
  simp only[XK] at h;split at h
  ·rename_i a J;split at h
   ·cases h
   ·rename_i hna;have hna:aG acc a=ajq:=by simpa using hna
    have hga:=O5 J;obtain⟨h1,U,M⟩:=Ua n (i+1) (acc|||kg a) sm h;have hne:∀ k,k<n->gq σ (i+1+k)≠a/\aG acc (gq σ (i+1+k))=ajq:=λk hk=>by
     have:=h1 k hk;rw[bf,Bool.or_eq_false_iff] at this;refine ⟨λe=>?_,this.1⟩;have I:=this.2;rw[e] at I;rw[bK.2 rfl] at I;cases I
    refine ⟨λk hk=>?_,λx y Z Y hxy=>?_,λq=>?_⟩
    ·cases k with
     |zero=>rw[cN,hga];exact hna
     |succ k=>rw[show i+(k+1)=i+1+k from by omega];exact (hne k (by omega)).2
    ·cases x with
     |zero=>
      cases y with
      |zero=>rfl
      |succ y=>
       rw[cN,hga,show i+(y+1)=i+1+y from by omega] at hxy;exact absurd hxy.symm (hne y (by omega)).1
     |succ x=>
      cases y with
      |zero=>
       rw[show i+0=i from rfl,hga,show i+(x+1)=i+1+x from by omega] at hxy;exact absurd hxy (hne x (by omega)).1
      |succ y=>
       rw[show i+(x+1)=i+1+x from by omega,show i+(y+1)=i+1+y from by omega] at hxy;have:=U x y (by omega) (by omega) hxy;omega
    ·rw[M,bf,hP];constructor
     ·rintro ((hq|hq)|⟨k,hk,hq⟩)
      ·exact .inl hq
      ·exact .inr ⟨0,by omega,by rw[cN,hga];exact bK.1 hq⟩
      ·exact .inr ⟨k+1,by omega,by rw[show i+(k+1)=i+1+k from by omega];exact hq⟩
     ·rintro (hq|⟨k,hk,hq⟩)
      ·exact .inl (.inl hq)
      ·cases k with
       |zero=>rw[cN,hga] at hq;exact .inl (.inr (bK.2 hq))
       |succ k=>exact .inr ⟨k,by omega,by rw[show i+1+k=i+(k+1) from by omega];exact hq⟩
  ·cases h
theorem Pc {σ:PT Nat}:∀ (n:Nat),UH σ n=ajp->∀ i,i<n->gq σ i=i
 |0,_,i,hi=>by omega
 |n+1,h,i,hi=>by
  simp only[UH,aj] at h;by_cases e:i=n
  ·subst e;cases I:σ.get i with
   |none=>rw[I] at h;exact absurd h.1 (by simp)
   |some a=>rw[I] at h;rw[O5 I];exact ak h.1
  ·exact Pc n h.2 i (by omega)
structure Gb (np:Nat) (t:Tm) (vs:List TV) (h:aZ) (z:t.ty.den) (m:Nat) (σ:PT Nat) (sm:Nat):Prop where
 ex:∃ x m1 y m2,z=RF _ _ x y/\m=m1|||m2/\wH (gq σ) h t.vs vs=ajn (x,m1)/\ze (gq σ) h 0 t.bs=ajn (y,m2)
 inj:∀ a b,a<t.bs.length->b<t.bs.length->gq σ a=gq σ b->a=b
 sig:∀ q,aG sm q=ajp↔∃ k,k<t.bs.length/\gq σ k=q
 disj:∀ i,aG m i=ajp->aG sm i=ajq
 fix:∀ i,i<np->gq σ i=i
theorem uL {np:Nat} {t:Tm} {vs:List TV} {h:aZ} {z:t.ty.den} {m:Nat} {σ:PT Nat} {sm:Nat} (hm:CZ np t vs h=ajn ⟨z,m,σ,sm⟩):Gb np t vs h z m σ sm:=by
 unfold CZ at hm;rw[MG] at hm;split at hm
 ·rename_i sm' hs;split at hm
  ·rename_i x m1 h1;split at hm
   ·rename_i y m2 M;split at hm
    ·rename_i hc;simp only[aj] at hc;simp only[aa,adf.mk.injEq] at hm;obtain⟨rfl,rfl,rfl,rfl⟩:=hm;obtain⟨U,J,I⟩:=Ua _ _ _ _ hs;simp only[bz] at U J I;exact⟨⟨x,m1,y,m2,rfl,rfl,h1,M⟩,J,λq=>by rw[I];simp,λi hi=>wq hc.1 i hi,Pc np hc.2⟩
    ·cases hm
   ·cases hm
  ·cases hm
 ·cases hm
mutual
theorem xE {g:Nat->Nat} {h:aZ}:∀ (p:PV) (l:List TV) (x:p.ty.den) (m:Nat) (r:List TV),oq g h p l=ajn (x,m,r)->dl h m
 |.d T,l,x,m,r,hg=>tG 40 T l x m r hg
 |.ptr i q,l,x,m,r,hg=>by
  simp only[oq] at hg;split at hg
  ·split at hg
   ·simp only[aa,aw] at hg;obtain⟨_,rfl,_⟩:=hg;exact dl.zero h
   ·cases hg
  ·cases hg
 |.csl i q z,l,x,m,r,hg=>by
  simp only[oq] at hg;split at hg
  ·split at hg
   ·simp only[aa,aw] at hg;obtain⟨_,rfl,_⟩:=hg;exact dl.zero h
   ·cases hg
  ·cases hg
 |.clo q i z,l,x,m,r,hg=>by
  simp only[oq] at hg;split at hg
  ·split at hg
   ·simp only[aa,aw] at hg;obtain⟨_,rfl,_⟩:=hg;exact dl.zero h
   ·cases hg
  ·cases hg
 |.row i,l,x,m,r,hg=>by
  simp only[oq] at hg;split at hg
  ·split at hg
   ·simp only[aa,aw] at hg;obtain⟨_,rfl,_⟩:=hg;exact dl.zero h
   ·cases hg
  ·cases hg
 |.mp i,l,x,m,r,hg=>by
  simp only[oq] at hg;split at hg
  ·split at hg
   ·simp only[aa,aw] at hg;obtain⟨_,rfl,_⟩:=hg;exact dl.zero h
   ·cases hg
  ·cases hg
 |.nil,l,x,m,r,hg=>by
  simp only[oq] at hg;split at hg
  ·simp only[aa,aw] at hg;obtain⟨_,rfl,_⟩:=hg;exact dl.zero h
  ·cases hg
 |.emp,l,x,m,r,hg=>by
  simp only[oq] at hg;split at hg
  ·simp only[aa,aw] at hg;obtain⟨_,rfl,_⟩:=hg;exact dl.zero h
  ·simp only[aa,aw] at hg;obtain⟨_,rfl,_⟩:=hg;exact dl.zero h
  ·cases hg
 |.agg ps,l,x,m,r,hg=>F0 ps l x m r hg
theorem F0 {g:Nat->Nat} {h:aZ}:∀ (ps:List PV) (l:List TV) (x:(PV.tyL ps).den) (m:Nat) (r:List TV),xD g h ps l=ajn (x,m,r)->dl h m
 |[],l,x,m,r,hg=>by
  simp only[xD,aa,aw] at hg;obtain⟨_,rfl,_⟩:=hg;exact dl.zero h
 |p::ps,l,x,m,r,hg=>by
  simp only[xD] at hg;split at hg
  ·rename_i x1 m1 r1 h1;split at hg
   ·rename_i x2 m2 r2 h2;simp only[aa,aw] at hg;obtain⟨_,rfl,_⟩:=hg;exact (xE p l x1 m1 r1 h1).or (F0 ps r1 _ _ _ h2)
   ·cases hg
  ·cases hg
end
theorem ae6 {g:Nat->Nat} {h:aZ} {p:PV} {v:TV} {x:p.ty.den} {m:Nat} (hg:vX g h p v=ajn (x,m)):dl h m:=by
 cases p with
 |d T=>exact U1 hg
 |agg ps=>
  simp only[vX] at hg;split at hg
  ·cases hg
  ·split at hg
   ·split at hg
    ·rename_i I m1 h1;simp only[aa,aw] at hg;obtain⟨_,rfl⟩:=hg;exact F0 ps _ _ _ _ h1
    ·cases hg
   ·cases hg
 |ptr i q=>
  simp only[vX] at hg;split at hg
  ·rename_i h1;simp only[aa,aw] at hg;obtain⟨_,rfl⟩:=hg;exact xE _ _ _ _ _ h1
  ·cases hg
 |csl i q z=>
  simp only[vX] at hg;split at hg
  ·rename_i h1;simp only[aa,aw] at hg;obtain⟨_,rfl⟩:=hg;exact xE _ _ _ _ _ h1
  ·cases hg
 |clo q i z=>
  simp only[vX] at hg;split at hg
  ·rename_i h1;simp only[aa,aw] at hg;obtain⟨_,rfl⟩:=hg;exact xE _ _ _ _ _ h1
  ·cases hg
 |row i=>
  simp only[vX] at hg;split at hg
  ·rename_i h1;simp only[aa,aw] at hg;obtain⟨_,rfl⟩:=hg;exact xE _ _ _ _ _ h1
  ·cases hg
 |mp i=>
  simp only[vX] at hg;split at hg
  ·rename_i h1;simp only[aa,aw] at hg;obtain⟨_,rfl⟩:=hg;exact xE _ _ _ _ _ h1
  ·cases hg
 |nil=>
  simp only[vX] at hg;split at hg
  ·rename_i h1;simp only[aa,aw] at hg;obtain⟨_,rfl⟩:=hg;exact xE _ _ _ _ _ h1
  ·cases hg
 |emp=>
  simp only[vX] at hg;split at hg
  ·rename_i h1;simp only[aa,aw] at hg;obtain⟨_,rfl⟩:=hg;exact xE _ _ _ _ _ h1
  ·cases hg
theorem FZ {g:Nat->Nat} {h:aZ}:∀ (ps:List PV) (vs:List TV) (x:(PV.tyL ps).den) (m:Nat),wH g h ps vs=ajn (x,m)->dl h m
 |[],[],x,m,hg=>by simp only[wH,aa,aw] at hg;obtain⟨_,rfl⟩:=hg;exact dl.zero h
 |[],_::_,x,m,hg=>by simp[wH] at hg
 |_::_,[],x,m,hg=>by simp[wH] at hg
 |p::ps,v::vs,x,m,hg=>by
  simp only[wH] at hg;split at hg
  ·rename_i M m1 h1;split at hg
   ·rename_i I m2 J;simp only[aa,aw] at hg;obtain⟨_,rfl⟩:=hg;exact (ae6 h1).or (FZ ps vs I m2 J)
   ·cases hg
  ·cases hg
theorem ae7 {g:Nat->Nat} {h:aZ} {i:Nat} {b:PB} {x:b.ty.den} {m:Nat} (hg:Dl g h i b=ajn (x,m)):dl h m:=by
 cases b with
 |rows ty p T=>
  simp only[Dl] at hg;split at hg
  ·split at hg
   ·split at hg
    ·simp only[aa,aw] at hg;obtain⟨_,rfl⟩:=hg;exact dl.zero h
    ·cases hg
   ·cases hg
  ·cases hg
 |rowsP ty T=>
  simp only[Dl] at hg;split at hg
  ·split at hg
   ·split at hg
    ·simp only[aa,aw] at hg;obtain⟨_,rfl⟩:=hg;exact dl.zero h
    ·cases hg
   ·cases hg
  ·cases hg
 |cells ty ps=>
  simp only[Dl] at hg;split at hg
  ·split at hg
   ·split at hg
    ·rename_i h1;simp only[aa,aw] at hg;obtain⟨_,rfl⟩:=hg;exact F0 ps _ _ _ _ h1
    ·cases hg
   ·cases hg
  ·cases hg
 |mp K V=>
  simp only[Dl] at hg;split at hg
  ·split at hg
   ·simp only[aa,aw] at hg;obtain⟨_,rfl⟩:=hg;exact dl.zero h
   ·cases hg
  ·cases hg
 |gone=>simp only[Dl,aa,aw] at hg;obtain⟨_,rfl⟩:=hg;exact dl.zero h
theorem F1 {g:Nat->Nat} {h:aZ}:∀ (bs:List PB) (i:Nat) (x:(PB.tyL bs).den) (m:Nat),ze g h i bs=ajn (x,m)->dl h m
 |[],i,x,m,hg=>by simp only[ze,aa,aw] at hg;obtain⟨_,rfl⟩:=hg;exact dl.zero h
 |b::r,i,x,m,hg=>by
  simp only[ze] at hg;split at hg
  ·rename_i M m1 h1;split at hg
   ·rename_i I m2 J;simp only[aa,aw] at hg;obtain⟨_,rfl⟩:=hg;exact (ae7 h1).or (F1 r (i+1) I m2 J)
   ·cases hg
  ·cases hg
structure pA (t:Tm) (x:t.ty.den) (vs:List TV) (h1:aZ) (l1:List (Option gC)):Prop where
 pv:oR FY t.vs (MF _ _ x)=ajn vs
 pb:nk FY t.bs (Jx _ _ x)=ajn l1
 len:l1.length=t.bs.length
 at_:∀ i b,h1.get i=ajn b↔l1[i]? =ajn (ajn b)
 ok:jT h1 vs=ajp
 lt:qe t.bs.length vs=ajp
 cells:∀ i ty l,h1.get i=ajn (.cells ty l)->jT h1 l=ajp/\qe t.bs.length l=ajp
theorem Yc (l:List (Option gC)) (i:Nat) (b:gC):(yO FY 0 l PT.leaf).get i=ajn b↔l[i]? =ajn (ajn b):=by
 by_cases hi:i<l.length
 ·obtain⟨c,hc⟩:∃ c,l[i]? =ajn c:=⟨l[i],ar hi⟩
  have:=tJ FY l 0 PT.leaf (λa b _ _ e=>by simp only[FY] at e;omega) i c hc;rw[show FY (0+i)=i from by simp only[FY];omega] at this;rw[this,hc];cases c with
  |some b'=>simp
  |none=>simp[PT.get]
 ·rw[tI FY l 0 PT.leaf i (λk hk=>by simp only[FY];omega),bB (by omega)];simp[PT.get]
theorem uQ {t:Tm} {x:t.ty.den} {vs:List TV} {h1:aZ} (hi:Bw t x=ajn (vs,h1)):∃ l1,pA t x vs h1 l1:=by
 unfold Bw at hi;split at hi
 ·rename_i us hus;split at hi
  ·rename_i h hh;split at hi
   ·rename_i hc;simp only[aj] at hc;simp only[aa,aw] at hi;obtain⟨rfl,rfl⟩:=hi;unfold KL at hh;split at hh
    ·rename_i l1 I;simp only[aa] at hh;refine ⟨l1,hus,I,Bh _ _ _ _ I,λi b=>?_,hc.1.1,hc.1.2,λi ty l hil=>?_⟩
     ·rw[<- hh];exact Yc l1 i b
     ·have:=PT.get_all _ h 1 0 i _ hc.2 hil;simpa only[aj] using this
    ·cases hh
   ·cases hi
  ·cases hi
 ·cases hi
def Ui (nb:Nat) (n:Nat):Bool:=n%2==0&&fd (n/2) nb
theorem zQ {nb i:Nat}:Ui nb (nm i)=ajp↔i<nb:=by
 unfold Ui nm;rw[show 2*i%2=0 from by omega,show 2*i/2=i from by omega];simp only[beq_self_eq_true,oy];exact⟨λh=>aR h,λh=>bp h⟩
theorem XU {nb n:Nat} (h:Ui nb n=ajp):∃ i,i<nb/\n=nm i:=by
 unfold Ui at h;simp only[aj,beq_iff_eq] at h;exact⟨n/2,aR h.2,by unfold nm;omega⟩
mutual
theorem ae3 {nb:Nat} {h:aZ}:∀ (v:TV) (y:AV),JG nb v=ajp->bU h v=ajn y->y.all (Ui nb)=ajp
 |.f _ _,y,_,he=>by simp only[bU,aa] at he;subst he;rfl
 |.fel _ _ _ _ _,y,_,he=>by simp only[bU,aa] at he;subst he;rfl
 |.pel id _ _ _,y,hl,he=>by simp only[bU,aa] at he;subst he;exact zQ.2 (aR hl)
 |.ptr id _,y,hl,he=>by simp only[bU,aa] at he;subst he;exact zQ.2 (aR hl)
 |.csl id _ _,y,hl,he=>by simp only[bU,aa] at he;subst he;exact zQ.2 (aR hl)
 |.row id,y,hl,he=>by
  simp only[bU] at he;split at he
  ·simp only[aa] at he;subst he;unfold eo;split
   ·rfl
   ·exact zQ.2 (aR hl)
  ·cases he
 |.rtl id jj,y,hl,he=>by
  simp only[bU] at he;split at he
  ·simp only[aa] at he;subst he;exact zQ.2 (aR hl)
  ·cases he
 |.emp,y,_,he=>by simp only[bU,aa] at he;subst he;rfl
 |.nil,y,_,he=>by simp only[bU,aa] at he;subst he;rfl
 |.mp id,y,hl,he=>by simp only[bU,aa] at he;subst he;exact zQ.2 (aR hl)
 |.agg l,y,hl,he=>by
  simp only[bU] at he;split at he
  ·rename_i l' hl';simp only[aa] at he;subst he;exact rM l l' hl hl'
  ·cases he
 |.tup l,y,hl,he=>by
  simp only[bU] at he;split at he
  ·rename_i l' hl';simp only[aa] at he;subst he;exact rM l l' hl hl'
  ·cases he
 |.clo q l,y,hl,he=>by
  simp only[bU] at he;split at he
  ·rename_i l' hl';simp only[aa] at he;subst he;exact rM l l' hl hl'
  ·cases he
 |.undef,y,_,he=>by simp only[bU,aa] at he;subst he;rfl
 |.np,y,_,he=>by simp only[bU,aa] at he;subst he;rfl
 |.anyb,y,_,he=>by simp only[bU,aa] at he;subst he;rfl
theorem rM {nb:Nat} {h:aZ}:∀ (l:List TV) (l':List AV),qe nb l=ajp->cj h l=ajn l'->AV.allL (Ui nb) l'=ajp
 |[],l',_,he=>by simp only[cj,aa] at he;subst he;rfl
 |x::r,l',hl,he=>by
  obtain⟨y,l2,rfl,e1,e2⟩:=cB he;simp only[qe,aj] at hl;simp only[AV.allL,aj];exact⟨ae3 x y hl.1 e1,rM r l2 hl.2 e2⟩
end
theorem pA.blk_all {t:Tm} {x:t.ty.den} {vs:List TV} {h1:aZ} {l1:List (Option gC)} (I:pA t x vs h1 l1) {i:Nat} {b:gC} (hb:h1.get i=ajn b) {y:vy} (J:jR h1 b=ajn y):y.c.all (Ui t.bs.length)=ajp:=by
 cases b with
 |rows ty p T xs=>
  simp only[jR] at J;split at J
  ·cases J
  ·simp only[aa] at J;subst J;rfl
 |cells ty l=>
  simp only[jR] at J;split at J
  ·rename_i M hl;simp only[aa] at J;subst J;exact rM l M (I.cells i ty l hb).2 hl
  ·cases J
 |dead p sz n=>cases J
 |mp K V es=>
  simp only[jR,aa] at J;subst J;show BC.all _ (X8 K V es)=ajp;unfold X8;split
  ·rfl
  ·simp only[BC.all,yk];have key:∀ l:List (K.den×V.den),AV.allL (Ui t.bs.length) (l.map ((λx=>x.2)∘λp=>(oE K p.1,AV.f (fM V p.2))))=ajp:=λl=>by
    induction l with
    |nil=>rfl
    |cons e r U=>simp only[ff,AV.allL,aj];exact⟨rfl,U⟩
   exact key es
theorem pA.lt_len {t:Tm} {x:t.ty.den} {vs:List TV} {h1:aZ} {l1:List (Option gC)} (I:pA t x vs h1 l1) {i:Nat} {b:gC} (hb:h1.get i=ajn b):i<t.bs.length:=by
 rw[<- I.len];exact (a8.1 ((I.at_ i b).1 hb)).1
def φ1 (nb:Nat) (g:Nat->Nat) (φ:PM):PM:=λn=>if Ui nb n then φ (F3 g n) else ajo
theorem Xt {nb:Nat} {g:Nat->Nat} {φ:PM} {i:Nat} (hi:i<nb):φ1 nb g φ (nm i)=φ (nm (g i)):=by
 unfold φ1;rw[if_pos (zQ.2 hi),vZ]
theorem vD {nb:Nat} {g:Nat->Nat} {φ:PM} {n k:Nat} (h:φ1 nb g φ n=ajn k):∃ i,i<nb/\n=nm i/\φ (nm (g i))=ajn k:=by
 unfold φ1 at h;split at h
 ·rename_i hp;obtain⟨i,hi,rfl⟩:=XU hp;rw[vZ] at h;exact⟨i,hi,rfl,h⟩
 ·cases h
structure abl (t:Tm) (x:t.ty.den) (vs:List TV) (h1:aZ) (g:Nat->Nat) (φ:PM) (E E':Nat->Prop) (Hv:HF) (w:World):Prop where
 rep:pM (φ1 t.bs.length g φ) E' (bi h1) w
 val:∀ x v,x.all (Ui t.bs.length)=ajp->cq φ (tot E φ Hv) w (x.ren (F3 g)) v->cq (φ1 t.bs.length g φ) (tot E' (φ1 t.bs.length g φ) (bi h1)) w x v
 own_:∀ k,own (φ1 t.bs.length g φ) (bi h1) k->own φ Hv k
 tot_:∀ k,tot E' (φ1 t.bs.length g φ) (bi h1) k->tot E φ Hv k
theorem pM.toId {t:Tm} {x:t.ty.den} {vs:List TV} {h1:aZ} {l1:List (Option gC)} (I:pA t x vs h1 l1) {g:Nat->Nat} (inj:∀ a b,a<t.bs.length->b<t.bs.length->g a=g b->a=b) {φ:PM} {E E':Nat->Prop} {Hv:HF} {w:World} (r:pM φ E Hv w)
 (hat:∀ i b y,h1.get i=ajn b->jR h1 b=ajn y->Hv (nm (g i))=ajn (y.ren (F3 g)))
 (hE:∀ k,E' k->tot E φ Hv k) (hne:∀ i k b,i<t.bs.length->Hv (nm (g i))=ajn b->φ (nm (g i))=ajn k->¬E' k) (hel:∀ k,E' k->k<w.heap.size):abl t x vs h1 g φ E E' Hv w:=by
 have own1:∀ k,own (φ1 t.bs.length g φ) (bi h1) k->own φ Hv k:=by
  rintro k ⟨n,y,Z,h3⟩;obtain⟨i,hi,rfl,Y⟩:=vD h3;obtain⟨j,b,e,U,J⟩:=iG Z;have:=jU e;subst this;exact⟨nm (g i),_,hat i b y U J,Y⟩
 have tot1:∀ k,tot E' (φ1 t.bs.length g φ) (bi h1) k->tot E φ Hv k:=λk hk=>hk.elim (hE k) λh=>.inr (own1 k h)
 have val:∀ x v,x.all (Ui t.bs.length)=ajp->cq φ (tot E φ Hv) w (x.ren (F3 g)) v->cq (φ1 t.bs.length g φ) (tot E' (φ1 t.bs.length g φ) (bi h1)) w x v:=λx v hx hr=>by
  have Z:cq (φ1 t.bs.length g φ) (tot E φ Hv) w x v:=cq.renFrom (λi k hp hk=>by unfold φ1;rw[if_pos hp];exact hk) hr x hx rfl;exact Z.ext (λ_ _ h=>h) (Jj.refl _ w) λk _ hk=>tot1 k hk
 refine ⟨⟨λn n' b b' k g1 g2 g3 g4=>?_,λn y g1=>?_,hel,λg' cells hg=>(r.gl g' cells hg).ext (Jj.refl _ w) λk _ hk=>tot1 k hk⟩,val,own1,tot1⟩
 ·obtain⟨i,hi,rfl,Y⟩:=vD g3;obtain⟨j,hj,rfl,U⟩:=vD g4;obtain⟨i',c,e,J,M⟩:=iG g1;have:=jU e;subst this;obtain⟨j',c',e,h8,h9⟩:=iG g2;have:=jU e;subst this;have:=r.inj _ _ _ _ k (hat i c _ J M) (hat j c' _ h8 h9) Y U;rw[inj i j hi hj (jU this)]
 ·obtain⟨i,c,rfl,J,M⟩:=iG g1;have hi:=I.lt_len J;obtain⟨k,p1,p2,ob,p3,p4⟩:=r.at_ _ _ (hat i c y J M);exact⟨k,by rw[Xt hi];exact p1,hne i k _ hi (hat i c y J M) p1,ob,p3,iE.renFrom val (I.blk_all J M) p4⟩
theorem BM.view {g:Nat->Nat} {h hv:aZ} {H H':HF} {m:Nat} (d:tZ H H') (Y:CH h H H' m) (hr:wz hv h) {b0 c:gC} (hb:BM g h m b0 c) {y I:vy} (e0:jR h b0=ajn y) (e1:jR hv c=ajn I):jz H H' y I:=by
 cases hb with
 |rows ty p T xs=>
  simp only[jR] at e0 e1;rw[e0] at e1;cases e1;exact jz.refl d y
 |mp K V es=>
  simp only[jR] at e0 e1;rw[e0] at e1;cases e1;exact jz.refl d y
 |cells ty ps x l l2 m' hg hp hm=>
  simp only[jR] at e0 e1;split at e0
  ·rename_i U hl;simp only[aa] at e0;subst e0;split at e1
   ·rename_i cs' hc;simp only[aa] at e1;subst e1;obtain⟨l1,Z,M,J,q3⟩:=BK d hr ps l x m' [] l2 U cs' hg hp hl hc λi hi=>Y i (hm i hi)
    simp only[cj,aa] at J;subst J;rw[kF] at M;subst M;exact jz.cells rfl rfl q3 (kB (rR hc (vH ps x l2 hp)))
   ·cases e1
  ·cases e0
theorem BM.erB_some {g:Nat->Nat} {h hv:aZ} {nx m:Nat} (hinv:kU h nx) {i:Nat} {b0 c:gC} (h0:h.get i=ajn b0) (hb:BM g h m b0 c) {I:vy} (e1:jR hv c=ajn I):∃ y,jR h b0=ajn y:=by
 cases hb with
 |rows ty p T xs=>exact⟨I,e1⟩
 |mp K V es=>exact⟨I,e1⟩
 |cells ty ps x l l2 m' hg hp hm=>
  obtain⟨J,hl⟩:=eJ h l (hinv.cells i ty l h0);exact⟨_,by simp only[jR,hl];rfl⟩
theorem BM.row {g:Nat->Nat} {h:aZ} {m:Nat} {b0 c:gC} (hb:BM g h m b0 c):lE c=lE b0:=by
 cases hb<;>rfl
structure oH (P:Program) (f:FuncId) (c:bW):Prop where
 callable:CD P f
 calls:∀ x y,c.m x=ajn y->∀ vs hp l1 rs hq l2 la lr,pA c.pre x vs hp l1->pA c.post y rs hq l2->cj hp vs=ajn la->cj hq rs=ajn lr->
  ∀ (φ:PM) (E:Nat->Prop) (w:World) (us:List Value),pM φ E (bi hp) w->ji φ (tot E φ (bi hp)) w la us->(∀ n k,φ n=ajn k->ow n<c.pre.bs.length)->
  Calls P f us.toArray w λen w'=>∃ v φ',en= .returned v/\Jj (own φ (bi hp)) w w'/\(∀ k,k<w.heap.size->own φ' (bi hq) k->own φ (bi hp) k)/\(∀ i,i<c.pre.bs.length->φ' (nm i)=φ (nm i))/\pM φ' E (bi hq) w'/\cq φ' (tot E φ' (bi hq)) w' (CJ lr) v
theorem KQ {g:Nat->Nat}:∀ (bs:List PB) (x:(PB.tyL bs).den) (l:List (Option gC)),zZ bs=ajp->nk g bs x=ajn l->∀ (i:Nat) (c:Option gC),l[i]? =ajn c->∃ b,c=ajn b
 |[],x,l,_,hp,i,c,hc=>by simp only[nk,aa] at hp;subst hp;simp at hc
 |b::r,x,l,hn,hp,i,c,hc=>by
  simp only[nk] at hp;split at hp
  ·rename_i a I;split at hp
   ·rename_i q hq;simp only[aa] at hp;subst hp;cases i with
    |zero=>
     simp at hc;subst hc;cases b with
     |gone=>simp[zZ] at hn
     |rows ty p T=>simp only[Bi,aa] at I;exact⟨_,I.symm⟩
     |rowsP ty T=>simp only[Bi,aa] at I;exact⟨_,I.symm⟩
     |cells ty ps=>
      simp only[Bi] at I;split at I
      ·simp only[aa] at I;exact⟨_,I.symm⟩
      ·cases I
     |mp K V=>simp only[Bi,aa] at I;exact⟨_,I.symm⟩
    |succ i=>
     refine KQ r _ q ?_ hq i c (by simpa using hc);cases b<;>first|exact hn|simp[zZ] at hn
   ·cases hp
  ·cases hp
theorem DW {h I:aZ} {g:Nat->Nat}:∀ n,sh h I g n=ajp->∀ i,i<n->∀ r,dE h (g i)=ajn r->dE I (g i)=ajn r
 |0,_,i,hi,_,_=>by omega
 |n+1,hs,i,hi,r,hr=>by
  simp only[sh,aj] at hs;by_cases e:i=n
  ·subst e;obtain⟨p,s,k⟩:=r;have h1:=hs.1;rw[hr] at h1;cases J:dE I (g i) with
   |none=>rw[J] at h1;cases h1
   |some q=>
    obtain⟨M,s',U⟩:=q;rw[J] at h1;simp only[aj,beq_iff_eq] at h1;rw[h1.1.1,ak h1.1.2,ak h1.2]
  ·exact DW n hs.2 i (by omega) r hr
theorem ji.le {H H':HF} {φ:PM} {E:Nat->Prop} {w:World} (r:pM φ E H w):∀ {l I:List AV} {us:List Value},gr H H' l I->ji φ (tot E φ H) w l us->ji φ (tot E φ H') w I us
 |[],[],[],_,_=>trivial
 |[],[],_::_,_,h=>h.elim
 |_::_,_::_,[],_,h=>h.elim
 |[],_::_,_,h,_=>h.elim
 |_::_,[],_,h,_=>h.elim
 |_::_,_::_,_::_,hl,h=>⟨hl.1 _ _ _ _ r h.1,ji.le r hl.2 h.2⟩
theorem ji.toId {φ φ':PM} {O O':Nat->Prop} {w:World} {γ:Nat->Nat} {p:Nat->Bool} (hv:∀ x v,x.all p=ajp->cq φ O w (x.ren γ) v->cq φ' O' w x v):∀ {l:List AV} {us:List Value},AV.allL p l=ajp->ji φ O w (AV.renL γ l) us->ji φ' O' w l us
 |[],[],_,_=>trivial
 |[],_::_,_,h=>h.elim
 |_::_,[],_,h=>h.elim
 |_::_,_::_,hp,h=>by
  simp only[AV.allL,aj] at hp;exact⟨hv _ _ hp.1 h.1,ji.toId hv hp.2 h.2⟩
theorem Uf {h:aZ}:∀ {rs:List TV} {lr:List AV},cj h rs=ajn lr->bU h (N5 rs)=ajn (CJ lr)
 |[],lr,he=>by simp only[cj,aa] at he;subst he;rfl
 |[x],lr,he=>by
  obtain⟨y,l2,rfl,e1,e2⟩:=cB he;simp only[cj,aa] at e2;subst e2;exact e1
 |x::y::r,lr,he=>by
  obtain⟨J,l2,rfl,e1,e2⟩:=cB he;obtain⟨I,M,rfl,e3,U⟩:=cB e2;simp only[N5,bU,he,CJ]
theorem XC (γ:Nat->Nat):∀ l:List AV,CJ (AV.renL γ l)=(CJ l).ren γ
 |[]=>rfl
 |[x]=>rfl
 |x::y::r=>rfl
theorem XD {p:Nat->Bool}:∀ {l:List AV},AV.allL p l=ajp->(CJ l).all p=ajp
 |[],_=>rfl
 |[x],h=>by simp only[AV.allL,aj] at h;exact h.1
 |x::y::r,h=>h
theorem aa3 {nx I q:Nat}:aG (((1<<<I)-1)<<<nx) q=ajp↔nx<=q/\q<nx+I:=by
 rw[Nat.testBit_shiftLeft,Nat.one_shiftLeft,Nat.testBit_two_pow_sub_one];simp only[aj,decide_eq_true_eq];omega
theorem YY {P:Program} {o:Oper} {e:gU} {h:aZ} {nx:Nat} {f:FuncId} {c:bW} {l:List TV} (hinv:kU h nx) (sp:oH P f c) {x:c.pre.ty.den} {m:Nat} {σ:PT Nat} {sm:Nat} (M:Gb 0 c.pre l h x m σ sm) {vs:List TV} {hp:aZ} {l1:List (Option gC)} (I:pA c.pre x vs hp l1) (hng:zZ c.pre.bs=ajp) {y:c.post.ty.den} (hm:c.m x=ajn y) {rs:List TV} {hq:aZ} {l2:List (Option gC)} (J:pA c.post y rs hq l2) (hle:c.pre.bs.length<=c.post.bs.length)
 {g:Nat->Nat} (glo:∀ i,i<c.pre.bs.length->g i=gq σ i) (ghi:∀ i,c.pre.bs.length<=i->g i=nx+(i-c.pre.bs.length)) {U:aZ} (hh2:U=yO g 0 (l2.map (kD (kH g))) (dM m h)) (hsr:sh h U g c.pre.bs.length=ajp) {la:List AV} (hla:cj h l=ajn la)
 (hexec:∀ (φ:PM) (E:Nat->Prop) (h':HF) (w:World) (a:Act),(∀ t,.tmp t∈o.op.operands->∀ y,eP e h t=ajn y->cq φ (tot E φ h') w y (a.tmps.getD t undef))->pM φ E h' w->∃ us:List Value,(execOp a.eval o).run P w= .ok (.enter f us.toArray) w/\ji φ (tot E φ h') w la us):
 iy P o ajq e h nx (N5 (jH g rs)) (sm|||m) (sm|||m|||(((1<<<(c.post.bs.length-c.pre.bs.length))-1)<<<nx)) U (nx+(c.post.bs.length-c.pre.bs.length)):=by
 obtain⟨x1,m1,x2,m2,hx,hmm,gv,gb⟩:=M.ex;have hmr:dl h m:=by rw[hmm];exact (FZ _ _ _ _ gv).or (F1 _ _ _ _ gb)
 generalize hnp:c.pre.bs.length=np at*
 generalize hnq:c.post.bs.length=nq at*
 have pvg:oR (gq σ) c.pre.vs x1=ajn (jH (gq σ) vs):=by
  have Z:=rV (gq σ) c.pre.vs x1;have h4:=I.pv;rw[hx,rP] at h4;rw[Z,h4];rfl
 have pbg:nk (gq σ) c.pre.bs x2=ajn (l1.map (kD (kH (gq σ)))):=by
  have Z:=uD (gq σ) c.pre.bs x2;have h4:=I.pb;rw[hx,tF] at h4;rw[Z,h4];rfl
 have hl1:∀ i,i<np->∃ b,l1[i]? =ajn (ajn b):=λi hi=>by
  have hi':i<l1.length:=by rw[I.len,hnp];exact hi
  obtain⟨b,hb⟩:=KQ c.pre.bs _ l1 hng I.pb i l1[i] (ar hi');exact⟨b,by rw[ar hi',hb]⟩
 have hbm:∀ i b,l1[i]? =ajn (ajn b)->∃ b0,h.get (gq σ i)=ajn b0/\BM (gq σ) h m b0 (kH (gq σ) b):=λi b hb=>by
  obtain⟨b0,Y,q2⟩:=HG c.pre.bs 0 x2 m2 _ gb pbg i (kH (gq σ) b) (by rw[aU,hb];rfl);rw[bz] at Y;exact⟨b0,Y,q2.mono λj hj=>by rw[hmm,bf,hj];simp⟩
 have inj1:∀ a b,a<np->b<np->gq σ a=gq σ b->a=b:=λa b ha hb=>M.inj a b (by rw[hnp];exact ha) (by rw[hnp];exact hb)
 have sig:∀ q,aG sm q=ajp↔∃ k,k<np/\gq σ k=q:=λq=>by rw[M.sig,hnp]
 have gnx:∀ i,i<np->gq σ i<nx:=λi hi=>by
  obtain⟨b,hb⟩:=hl1 i hi;obtain⟨b0,Y,_⟩:=hbm i b hb;exact hinv.low _ _ Y
 have hmS:∀ i,i<np->aG m (gq σ i)=ajq:=λi hi=>by
  cases hx:aG m (gq σ i) with
  |false=>rfl
  |true=>have:=M.disj _ hx;rw[(sig _).2 ⟨i,hi,rfl⟩] at this;cases this
 have injg:∀ a b,a<nq->b<nq->g a=g b->a=b:=λa b ha hb hab=>by
  by_cases h1:a<np
  ·by_cases U:b<np
   ·rw[glo a h1,glo b U] at hab;exact inj1 a b h1 U hab
   ·rw[glo a h1,ghi b (by omega)] at hab;have:=gnx a h1;omega
  ·by_cases U:b<np
   ·rw[ghi a (by omega),glo b U] at hab;have:=gnx b U;omega
   ·rw[ghi a (by omega),ghi b (by omega)] at hab;omega
 let hv:aZ:=yO (gq σ) 0 (l1.map (kD (kH (gq σ)))) (dM m h)
 have hv_at:∀ i b,l1[i]? =ajn (ajn b)->hv.get (gq σ i)=ajn (kH (gq σ) b):=λi b hb=>by
  have:=tJ (gq σ) (l1.map (kD (kH (gq σ)))) 0 (dM m h) (λa b ha hb=>by
   simp only[bV,I.len,hnp] at ha hb;simp only[bz];exact inj1 a b ha hb) i (ajn (kH (gq σ) b)) (by rw[aU,hb];rfl)
  rw[bz] at this;exact this
 have hv_ne:∀ j,(∀ i,i<np->j≠gq σ i)->hv.get j=(dM m h).get j:=λj hj=>
  tI (gq σ) _ 0 _ j λk hk=>by
   simp only[bV,I.len,hnp] at hk;rw[bz];exact hj k hk
 have rows_in:wz hv h:=λj r hr=>by
  rw[bD] at hr ⊢;by_cases hj:∃ i,i<np/\j=gq σ i
  ·obtain⟨i,hi,rfl⟩:=hj;obtain⟨b,hb⟩:=hl1 i hi;obtain⟨b0,Y,q2⟩:=hbm i b hb;rw[hv_at i b hb] at hr;rw[Y];simp only[aA] at hr ⊢;rw[<- q2.row];exact hr
  ·rw[hv_ne j (λi hi e=>hj ⟨i,hi,e⟩),ib] at hr;split at hr
   ·rename_i ht;obtain⟨ty,p,T,xs,hb⟩:=hmr j ht;rw[hb] at hr ⊢;exact hr
   ·exact hr
 have rows_hp:∀ i r,dE hp i=ajn r->dE hv (gq σ i)=ajn r:=λi r hr=>by
  rw[bD] at hr ⊢;cases hb:hp.get i with
  |none=>rw[hb] at hr;cases hr
  |some b=>
   rw[hb] at hr;rw[hv_at i b ((I.at_ i b).1 hb)];simp only[aA,Gr] at hr ⊢;exact hr
 have dead_m:∀ i,aG m i=ajp->bi hv (nm i)=ajo:=λi hi=>by
  rw[bt,hv_ne i (λk hk e=>by rw[e,hmS k hk] at hi;cases hi)];obtain⟨p,sz,n,hd⟩:=r9 hmr hi;rw[hd];rfl
 have h2_at:∀ i cc,l2[i]? =ajn cc->U.get (g i)=(match cc with|some b=>ajn (kH g b)|none=>((dM m h).get (g i)).map tK):=λi cc hc=>by
  have:=tJ g (l2.map (kD (kH g))) 0 (dM m h) (λa b ha hb=>by
   simp only[bV,J.len,hnq] at ha hb;simp only[bz];exact injg a b ha hb) i (cc.map (kH g)) (by rw[aU,hc];rfl)
  rw[bz] at this;rw[hh2,this];cases cc<;>rfl
 have h2_ne:∀ j,(∀ i,i<nq->j≠g i)->U.get j=(dM m h).get j:=λj hj=>by
  rw[hh2];refine tI g _ 0 _ j λk hk=>?_
  simp only[bV,J.len,hnq] at hk;rw[bz];exact hj k hk
 have rows_hq:∀ i r,dE hq i=ajn r->dE U (g i)=ajn r:=λi r hr=>by
  rw[bD] at hr ⊢;cases hb:hq.get i with
  |none=>rw[hb] at hr;cases hr
  |some b=>
   rw[hb] at hr;rw[h2_at i _ ((J.at_ i b).1 hb)];simp only[aA,Gr] at hr ⊢;exact hr
 have rows2:bZ h U:=λj r hr=>by
  by_cases hj:∃ i,i<np/\j=gq σ i
  ·obtain⟨i,hi,rfl⟩:=hj;rw[<- glo i hi] at hr ⊢;exact DW np hsr i hi r hr
  ·have hjn:j<nx:=by
    rw[bD] at hr;cases hb:h.get j with
    |none=>rw[hb] at hr;cases hr
    |some b=>exact hinv.low j b hb
   have:=bZ.kill m h j r hr;rw[bD] at this ⊢;rw[h2_ne j (λi hi e=>?_)]
   ·exact this
   ·by_cases hip:i<np
    ·exact hj ⟨i,hip,by rw[e,glo i hip]⟩
    ·rw[ghi i (by omega)] at e;omega
 obtain⟨lr,hlr⟩:=eJ hq rs J.ok;obtain⟨lp,hlp⟩:=eJ hp vs I.ok;have er2:∀ i b yb,hq.get i=ajn b->jR hq b=ajn yb->bi U (nm (g i))=ajn (yb.ren (F3 g)):=λi b yb hb hyb=>by
  rw[bt,h2_at i _ ((J.at_ i b).1 hb)];exact BP rows_hq hyb
 have er2':∀ i,i<nq->∀ z,bi U (nm (g i))=ajn z->∃ b yb,hq.get i=ajn b/\jR hq b=ajn yb/\z=yb.ren (F3 g):=λi hi z hz=>by
  have hi':i<l2.length:=by rw[J.len,hnq];exact hi
  have hcc:=ar hi';cases hcv:l2[i] with
  |none=>
   rw[hcv] at hcc;rw[bt,h2_at i ajo hcc] at hz;simp only at hz;cases hkg:(dM m h).get (g i) with
   |none=>rw[hkg] at hz;cases hz
   |some b0=>rw[hkg] at hz;cases b0<;>simp[tK,jR] at hz
  |some b=>
   rw[hcv] at hcc;have hb:=(J.at_ i b).2 hcc;rw[bt,h2_at i (ajn b) hcc] at hz;have hyb:∃ yb,jR hq b=ajn yb:=by
    cases b with
    |rows ty p T xs=>simp only[aA,kH,jR] at hz ⊢;exact⟨z,hz⟩
    |cells ty q=>
     obtain⟨q',hq'⟩:=eJ hq q (J.cells i ty q hb).1;exact⟨_,by simp only[jR,hq'];rfl⟩
    |dead p sz n=>simp[kH,jR] at hz
    |mp K V es=>exact⟨_,rfl⟩
   obtain⟨yb,hyb⟩:=hyb;have:=BP rows_hq hyb;simp only[aA] at hz;rw[this] at hz;exact⟨b,yb,hb,hyb,by cases hz;rfl⟩
 have dead2:∀ i,aG m i=ajp->bi U (nm i)=ajo:=λi hi=>by
  have hlt:=hmr.lt hinv hi;rw[bt,h2_ne i (λk hk e=>?_)]
  ·obtain⟨p,sz,n,hd⟩:=r9 hmr hi;rw[hd];rfl
  ·by_cases hkp:k<np
   ·rw[e,glo k hkp,hmS k hkp] at hi;cases hi
   ·rw[ghi k (by omega)] at e;omega
 have inv2:kU U (nx+(nq-np)):=by
  refine ⟨λj ty q hj=>?_,λj b hj=>?_⟩
  ·by_cases hjg:∃ i,i<nq/\j=g i
   ·obtain⟨i,hi,rfl⟩:=hjg;have hi':i<l2.length:=by rw[J.len,hnq];exact hi
    have hcc:=ar hi';cases hcv:l2[i] with
    |none=>
     rw[hcv] at hcc;rw[h2_at i ajo hcc] at hj;simp only at hj;cases hkg:(dM m h).get (g i) with
     |none=>rw[hkg] at hj;cases hj
     |some b0=>rw[hkg] at hj;cases b0<;>simp[tK] at hj
    |some b=>
     rw[hcv] at hcc;have hb:=(J.at_ i b).2 hcc;rw[h2_at i (ajn b) hcc] at hj;simp only[aa] at hj;cases b with
     |cells ty' q'=>
      simp only[kH,gC.cells.injEq] at hj;obtain⟨_,rfl⟩:=hj;obtain⟨z,hz⟩:=eJ hq q' (J.cells i ty' q' hb).1;exact kz _ _ _ (pn rows_hq q' z hz)
     |rows _ _ _ _=>simp[kH] at hj
     |dead _ _ _=>simp[kH] at hj
     |mp _ _ _=>simp[kH] at hj
   ·rw[h2_ne j (λi hi e=>hjg ⟨i,hi,e⟩)] at hj;refine hX rows2 q ?_;have hkk:=(hinv.kill m).cells j ty q hj;rw[ib] at hj;split at hj
    ·rename_i ht;obtain⟨_,_,_,_,hb⟩:=hmr j ht;rw[hb] at hj;cases hj
    ·exact hinv.cells j ty q hj
  ·by_cases hjg:∃ i,i<nq/\j=g i
   ·obtain⟨i,hi,rfl⟩:=hjg;by_cases hip:i<np
    ·rw[glo i hip];have:=gnx i hip;omega
    ·rw[ghi i (by omega)];omega
   ·rw[h2_ne j (λi hi e=>hjg ⟨i,hi,e⟩)] at hj;have:=(hinv.kill m).low j b hj;omega
 let S:List Nat:=(eU np).map λi=>nm (gq σ i)
 have memS:∀ n,n∈S↔∃ i,i<np/\n=nm (gq σ i):=λn=>by
  simp only[S,cO,ml];exact⟨λ⟨i,h1,U⟩=>⟨i,h1,U.symm⟩,λ⟨i,h1,U⟩=>⟨i,h1,U.symm⟩⟩
 let NN:List Nat:=(eU (nq-np)).map λt=>nm (nx+t)
 have memN:∀ n,n∈NN↔∃ t,t<nq-np/\n=nm (nx+t):=λn=>by
  simp only[NN,cO,ml];exact⟨λ⟨i,h1,U⟩=>⟨i,h1,U.symm⟩,λ⟨i,h1,U⟩=>⟨i,h1,U.symm⟩⟩
 have memW:∀ n,n∈S++D6 m++NN↔(∃ i,i<nq/\n=nm (g i))\/n∈D6 m:=λn=>by
  rw[bE,bE,memS,memN];constructor
  ·rintro ((⟨i,hi,rfl⟩|hn)|⟨t,ht,rfl⟩)
   ·exact .inl ⟨i,by omega,by rw[glo i hi]⟩
   ·exact .inr hn
   ·exact .inl ⟨np+t,by omega,by rw[ghi _ (by omega),show np+t-np=t from by omega]⟩
  ·rintro (⟨i,hi,rfl⟩|hn)
   ·by_cases hip:i<np
    ·exact .inl (.inl ⟨i,hip,by rw[glo i hip]⟩)
    ·exact .inr ⟨i-np,by omega,by rw[ghi i (by omega)]⟩
   ·exact .inl (.inr hn)
 have hOpT:fO P o (eP e h) (bi h) ⟨CJ (AV.renL (F3 g) lr),S++D6 m,S++D6 m++NN,bi U,NN⟩:=by
  intro φ E h' w a hrd hwr hops hrep hN;have hS':∀ i,i<np->h' (nm (gq σ i))=bi h (nm (gq σ i)):=λi hi=>hrd _ (kc _ ((memS _).2 ⟨i,hi,rfl⟩))
  have hM':∀ i,aG m i=ajp->h' (nm i)=bi h (nm i):=λi hi=>hrd _ (mr _ (kq.2 hi))
  obtain⟨us,hrun,hrel⟩:=hexec φ E h' w a hops hrep
  let Hv:HF:=λn=>if n∈S++D6 m then bi hv n else h' n
  have Hv_in:∀ n,n∈S++D6 m->Hv n=bi hv n:=λn hn=>by simp only[Hv,hn,if_true]
  have Hv_out:∀ n,n∉S++D6 m->Hv n=h' n:=λn hn=>by simp only[Hv,hn,if_false]
  have blkS:∀ i,i<np->∀ z,bi hv (nm (gq σ i))=ajn z->∃ b0 b y0,h.get (gq σ i)=ajn b0/\l1[i]? =ajn (ajn b)/\BM (gq σ) h m b0 (kH (gq σ) b)/\jR h b0=ajn y0/\jR hv (kH (gq σ) b)=ajn z:=λi hi z hz=>by
   obtain⟨b,hb⟩:=hl1 i hi;obtain⟨b0,Y,q2⟩:=hbm i b hb;rw[bt,hv_at i b hb] at hz;simp only[aA] at hz;obtain⟨y0,hy0⟩:=BM.erB_some hinv Y q2 hz;exact⟨b0,b,y0,Y,hb,q2,hy0,hz⟩
  have hd:tZ h' Hv:=λn b hb=>by
   by_cases hn:n∈S++D6 m
   ·rw[Hv_in n hn] at hb;rcases bE.1 hn with hs|hs
    ·obtain⟨i,hi,rfl⟩:=(memS n).1 hs;obtain⟨b0,b1,y0,Y,q2,q3,q4,q5⟩:=blkS i hi b hb;exact⟨y0,by rw[hS' i hi,bt,Y];exact q4⟩
    ·obtain⟨i,rfl,hi⟩:=mG.1 hs;rw[dead_m i hi] at hb;cases hb
   ·rw[Hv_out n hn] at hb;exact⟨b,hb⟩
  have gvv:CH h h' Hv m:=λi hi=>⟨hM' i hi,by rw[Hv_in _ (mr _ (kq.2 hi)),dead_m i hi]⟩
  have V:I5 h' Hv:=⟨hd,λn b b' hb hb'=>by
   by_cases hn:n∈S++D6 m
   ·rw[Hv_in n hn] at hb';rcases bE.1 hn with hs|hs
    ·obtain⟨i,hi,rfl⟩:=(memS n).1 hs;obtain⟨b0,b1,y0,Y,q2,q3,q4,q5⟩:=blkS i hi b' hb';rw[hS' i hi,bt,Y] at hb;simp only[aA] at hb;exact BM.view hd gvv rows_in q3 hb q5
    ·obtain⟨i,rfl,hi⟩:=mG.1 hs;rw[dead_m i hi] at hb';cases hb'
   ·rw[Hv_out n hn,hb] at hb';cases hb';exact jz.refl hd b⟩
  have hrepv:=V.rep hrep;have hlpg:cj hv (jH (gq σ) vs)=ajn (AV.renL (F3 (gq σ)) lp):=pn rows_hp vs lp hlp;have hrel1:ji φ (tot E φ Hv) w (AV.renL (F3 (gq σ)) lp) us:=
   ji.le hrep (BJ hd rows_in c.pre.vs l x1 m1 _ la _ gv pvg hla hlpg (λi hi=>gvv i (by rw[hmm,bf,hi];rfl))) hrel
  let E':Nat->Prop:=λk=>E k\/∃ n b,Hv n=ajn b/\n∉S/\φ n=ajn k
  have T:abl c.pre x vs hp (gq σ) φ E E' Hv w:=by
   refine pM.toId I (λa b ha hb=>inj1 a b (by rw[<- hnp];exact ha) (by rw[<- hnp];exact hb)) hrepv (λi b yb hb hyb=>?_) ?_ ?_ ?_
   ·have hi:=I.lt_len hb;rw[hnp] at hi;rw[Hv_in _ (kc _ ((memS _).2 ⟨i,hi,rfl⟩)),bt,hv_at i b ((I.at_ i b).1 hb)];exact BP rows_hp hyb
   ·rintro k (hE|⟨n,b,h1,_,Z⟩)
    ·exact .inl hE
    ·exact .inr ⟨n,b,h1,Z⟩
   ·rintro i k b hi h1 Z (hE|⟨n,b',h4,h5,h6⟩)
    ·obtain⟨k',p1,p2,_⟩:=hrepv.at_ _ _ h1;rw[Z] at p1;cases p1;exact p2 hE
    ·have:=hrepv.inj _ _ _ _ k h1 h4 Z h6;exact h5 (by rw[<- this];exact (memS _).2 ⟨i,by rw[<- hnp];exact hi,rfl⟩)
   ·rintro k (hE|⟨n,b,h1,_,Z⟩)
    ·exact hrepv.el k hE
    ·obtain⟨k',Y,_,ob,q3,_⟩:=hrepv.at_ n b h1;rw[Z] at Y;cases Y;exact (b9.1 q3).1
  have hcalls:=sp.calls x y hm vs hp l1 rs hq l2 lp lr I J hlp hlr (φ1 c.pre.bs.length (gq σ) φ) E' w us T.rep (ji.toId T.val (rM vs lp I.lt hlp) hrel1) (λn k hk=>by
   obtain⟨i,hi,rfl,_⟩:=vD hk;rw[dz];exact hi)
  unfold FK;rw[hrun];refine Calls.mono hcalls ?_;rintro en w' ⟨v,φc',rfl,hext,hown,hnm,rp,rv'⟩
  let isN:Nat->Prop:=λn=>n∈NN
  let φ':PM:=λn=>if n∈NN then φc' (nm (np+(ow n-nx))) else φ n
  have φ'_new:∀ t,t<nq-np->φ' (nm (nx+t))=φc' (nm (np+t)):=λt ht=>by
   have:nm (nx+t)∈NN:=(memN _).2 ⟨t,ht,rfl⟩;simp only[φ',this,if_true,dz];rw[show nx+t-nx=t from by omega]
  have φ'_old:∀ n,n∉NN->φ' n=φ n:=λn hn=>by simp only[φ',hn,if_false]
  have loN:∀ i,i<nx->nm i∉NN:=λi hi hn=>by
   obtain⟨t,_,e⟩:=(memN _).1 hn;have:=jU e;omega
  have φ'_g:∀ i,i<nq->φ' (nm (g i))=φc' (nm i):=λi hi=>by
   by_cases hip:i<np
   ·rw[glo i hip,φ'_old _ (loN _ (gnx i hip)),hnm i (by rw[hnp];exact hip),Xt (by rw[hnp];exact hip)]
   ·rw[ghi i (by omega),φ'_new _ (by omega),show np+(i-np)=i from by omega]
  have hsub:∀ n k,φ n=ajn k->φ' n=ajn k:=λn k hk=>by
   by_cases hn:n∈NN
   ·rw[hN n hn] at hk;cases hk
   ·rw[φ'_old n hn];exact hk
  let F:HF:=dQ h' (S++D6 m++NN) (bi U)
  have F_g:∀ i,i<nq->F (nm (g i))=bi U (nm (g i)):=λi hi=>by
   simp only[F,dQ,(memW _).2 (.inl ⟨i,hi,rfl⟩),if_true]
  have F_out:∀ n,n∉S++D6 m++NN->F n=h' n:=λn hn=>by simp only[F,dQ,hn,if_false]
  have from_:∀ n b,F n=ajn b->(∃ i bq yb,i<nq/\n=nm (g i)/\hq.get i=ajn bq/\jR hq bq=ajn yb/\b=yb.ren (F3 g))\/(h' n=ajn b/\Hv n=ajn b/\n∉S/\n∉NN/\φ' n=φ n):=λn b hb=>by
   by_cases hn:n∈S++D6 m++NN
   ·rcases (memW n).1 hn with ⟨i,hi,rfl⟩|hs
    ·rw[F_g i hi] at hb;obtain⟨bq,yb,Y,q2,q3⟩:=er2' i hi b hb;exact .inl ⟨i,bq,yb,hi,rfl,Y,q2,q3⟩
    ·obtain⟨i,rfl,hi⟩:=mG.1 hs;have:F (nm i)=bi U (nm i):=by simp only[F,dQ,hn,if_true]
     rw[this,dead2 i hi] at hb;cases hb
   ·rw[F_out n hn] at hb;have h1:n∉S++D6 m:=λhh=>hn (kc _ hh)
    have Z:n∉NN:=λhh=>hn (mr _ hh)
    exact .inr ⟨hb,by rw[Hv_out n h1];exact hb,λhh=>h1 (kc _ hh),Z,φ'_old n Z⟩
  have own':∀ k,own φ' F k->own φc' (bi hq) k\/∃ n b,Hv n=ajn b/\n∉S/\φ n=ajn k:=by
   rintro k ⟨n,b,h1,Z⟩;rcases from_ n b h1 with ⟨i,bq,yb,hi,rfl,Y,q2,_⟩|⟨_,q2,q3,_,q5⟩
   ·rw[φ'_g i hi] at Z;exact .inl ⟨nm i,yb,by rw[bt,Y];exact q2,Z⟩
   ·exact .inr ⟨n,b,q2,q3,by rw[<- q5];exact Z⟩
  have mv:ie φ φ' h' F w w':=by
   refine ⟨hsub,hext.mono λk hk=>hd.own (T.own_ k hk),λk hk ho=>?_⟩;rcases own' k ho with h1|⟨n,b,h1,_,Z⟩
   ·exact hd.own (T.own_ k (hown k hk h1))
   ·exact hd.own ⟨n,b,h1,Z⟩
  have tot':∀ k,tot E φ' F k->tot E' φc' (bi hq) k:=by
   rintro k (h1|h1)
   ·exact .inl (.inl h1)
   ·rcases own' k h1 with Z|Z
    ·exact .inr Z
    ·exact .inl (.inr Z)
  let φr:PM:=λn=>if Ui nq n then φc' n else ajo
  have rel_r:∀ x v,x.all (Ui nq)=ajp->cq φc' (tot E' φc' (bi hq)) w' x v->cq φr (tot E φ' F) w' x v:=λx v hx hr=>
   hr.restrict (λi k hi hk=>by simp only[φr,hi,if_true];exact hk) tot' hx
  have rel_g:∀ x v,cq φr (tot E φ' F) w' x v->cq φ' (tot E φ' F) w' (x.ren (F3 g)) v:=λx v hr=>
   hr.renTo λn k hk=>by
    simp only[φr] at hk;split at hk
    ·rename_i hpn;obtain⟨i,hi,rfl⟩:=XU hpn;rw[vZ,φ'_g i hi];exact hk
    ·cases hk
  have hnqJ:=hnq;refine ⟨v,φ',rfl,mv,λn k hk=>?_,?_,?_⟩
  ·by_cases hn:n∈NN
   ·exact .inr hn
   ·rw[φ'_old n hn] at hk;exact .inl hk
  ·refine ⟨λn n' b b' k h1 Z h4 h5=>?_,λn b h1=>?_,λk hk=>cU (hrep.el k hk) mv.ext.size,λg' cells hg=>mv.keepF (hrep.gl g' cells hg)⟩
   ·rcases from_ n b h1 with ⟨i,bq,yb,hi,rfl,Y,q2,_⟩|⟨Y,q2,q3,_,q5⟩
    ·rw[φ'_g i hi] at h4;have hqi:bi hq (nm i)=ajn yb:=by rw[bt,Y];exact q2
     rcases from_ n' b' Z with ⟨j,bj,yj,hj,rfl,t1,t2,_⟩|⟨t1,t2,t3,_,t5⟩
     ·rw[φ'_g j hj] at h5;have:=rp.inj _ _ _ _ k hqi (by rw[bt,t1];exact t2) h4 h5;rw[jU this]
     ·exfalso;obtain⟨k',p1,p2,_⟩:=rp.at_ _ _ hqi;rw[h4] at p1;cases p1;exact p2 (.inr ⟨n',b',t2,t3,by rw[<- t5];exact h5⟩)
    ·rcases from_ n' b' Z with ⟨j,bj,yj,hj,rfl,t1,t2,_⟩|⟨t1,t2,t3,_,t5⟩
     ·exfalso;rw[φ'_g j hj] at h5;have hqj:bi hq (nm j)=ajn yj:=by rw[bt,t1];exact t2
      obtain⟨k',p1,p2,_⟩:=rp.at_ _ _ hqj;rw[h5] at p1;cases p1;exact p2 (.inr ⟨n,b,q2,q3,by rw[<- q5];exact h4⟩)
     ·exact hrep.inj n n' b b' k Y t1 (by rw[<- q5];exact h4) (by rw[<- t5];exact h5)
   ·rcases from_ n b h1 with ⟨i,bq,yb,hi,rfl,Y,q2,rfl⟩|⟨Y,q2,q3,_,q5⟩
    ·have hqi:bi hq (nm i)=ajn yb:=by rw[bt,Y];exact q2
     obtain⟨k,p1,p2,ob,p3,p4⟩:=rp.at_ _ _ hqi;have hall:=J.blk_all Y q2;rw[hnq] at hall;exact⟨k,by rw[φ'_g i hi];exact p1,λhE=>p2 (.inl hE),ob,p3,(p4.restrict rel_r hall).renTo rel_g⟩
    ·obtain⟨k,p1,p2,ob,p3,p4⟩:=hrep.at_ n b Y;have hk:k<w.heap.size:=(b9.1 p3).1;refine ⟨k,hsub n k p1,p2,ob,?_,p4.mono λx v hr=>mv.keep hr⟩;rw[hext.blk k hk ?_]
     ·exact p3
     ·rintro⟨n',y',t1,t2⟩;obtain⟨i,hi,rfl,t3⟩:=vD t2;obtain⟨j,bb,e,t4,t5⟩:=iG t1;have:=jU e;subst this;have hi':i<np:=by rw[<- hnp];exact hi
      have hvi:Hv (nm (gq σ i))=ajn (y'.ren (F3 (gq σ))):=by
       rw[Hv_in _ (kc _ ((memS _).2 ⟨i,hi',rfl⟩)),bt,hv_at i bb ((I.at_ i bb).1 t4)];exact BP rows_hp t5
      have:=hrepv.inj _ _ _ _ k hvi q2 t3 p1;exact q3 (by rw[<- this];exact (memS _).2 ⟨i,hi',rfl⟩)
  ·have hall:(CJ lr).all (Ui nq)=ajp:=XD (by have:=rM rs lr J.lt hlr;rwa [hnq] at this);show cq φ' (tot E φ' F) w' (CJ (AV.renL (F3 g) lr)) v;rw[XC];exact rel_g _ _ (rel_r _ _ hall rv')
 have hrsg:cj U (jH g rs)=ajn (AV.renL (F3 g) lr):=pn rows_hq rs lr hlr;refine ⟨⟨_,hOpT,λz hz=>?_,?_,λn hn=>?_,λn hn=>?_,λn hn=>?_⟩,rows2,inv2,by omega,λhs=>by cases hs⟩
 ·rw[Uf hrsg] at hz;cases hz;rfl
 ·funext n;unfold dQ;split
  ·rfl
  ·rename_i hn;refine (jQ hinv rows2 λi e=>?_).symm;subst e;rw[h2_ne i (λk hk e=>hn ((memW _).2 (.inl ⟨k,hk,by rw[e]⟩))),ib,if_neg];intro hb;exact hn ((memW _).2 (.inr (kq.2 hb)))
 ·rw[bf];rcases bE.1 hn with hs|hs
  ·obtain⟨i,hi,rfl⟩:=(memS n).1 hs;rw[dz,(sig _).2 ⟨i,hi,rfl⟩];rfl
  ·obtain⟨i,rfl,hi⟩:=mG.1 hs;rw[dz,hi];simp
 ·rw[bf,bf];rcases bE.1 hn with hs|hs
  ·rcases bE.1 hs with hs|hs
   ·obtain⟨i,hi,rfl⟩:=(memS n).1 hs;rw[dz,(sig _).2 ⟨i,hi,rfl⟩];rfl
   ·obtain⟨i,rfl,hi⟩:=mG.1 hs;rw[dz,hi];simp
  ·obtain⟨t,ht,rfl⟩:=(memN n).1 hs;rw[dz,aa3.2 ⟨by omega,by omega⟩];simp
 ·obtain⟨t,ht,rfl⟩:=(memN n).1 hn;rw[dz];omega
mutual
def FV.fl:FV->Bool
 |.raw _=>ajp
 |.agg l=>FV.flL l
 |.sl _ _=>ajq
 |.ptr _ _=>ajq
def FV.flL:List FV->Bool
 |[]=>ajp
 |x::r=>x.fl&&FV.flL r
end
theorem UG:∀ {l:List FV},FV.flL l=ajp->∀ x∈l,x.fl=ajp
 |[],_,x,I=>by cases I
 |y::l,h,x,I=>by
  simp only[FV.flL,aj] at h;rcases bc.1 I with rfl|I
  ·exact h.1
  ·exact UG h.2 x I
theorem YF:∀ {l:List FV},(∀ x∈l,x.fl=ajp)->FV.flL l=ajp
 |[],_=>rfl
 |y::l,h=>by simp only[FV.flL,aj];exact⟨h y (by simp),YF λx I=>h x (by simp[I])⟩
theorem mj.flat {O O':Nat->Prop} {w w':World} {x:FV} {v:Value} (h:mj O w x v):x.fl=ajp->mj O' w' x v:=by
 induction h with
 |raw v=>intro _;exact .raw v
 |nil a c hc=>intro h;cases h
 |sl cells n c b off us hn hc hO hb hcl hu hr I=>intro h;cases h
 |ptr cells o b off us hO hb hcl hu hr I=>intro h;cases h
 |agg cells vs hl hcl hr I=>intro h;exact .agg cells vs hl hcl λj x v J hv=>I j x v J hv (UG h x (aS J))
mutual
def AV.fl:AV->Bool
 |.f x=>x.fl
 |.emp=>ajp
 |.anyb=>ajp
 |.agg l=>AV.flL l
 |.tup l=>AV.flL l
 |.ptr _ _=>ajq
 |.sl _ _ _=>ajq
 |.row _ _ _=>ajq
 |.mp _=>ajq
 |.clo _ _=>ajq
def AV.flL:List AV->Bool
 |[]=>ajp
 |x::r=>x.fl&&AV.flL r
end
theorem I4:∀ {l:List AV},AV.flL l=ajp->∀ x∈l,x.fl=ajp
 |[],_,x,I=>by cases I
 |y::l,h,x,I=>by
  simp only[AV.flL,aj] at h;rcases bc.1 I with rfl|I
  ·exact h.1
  ·exact I4 h.2 x I
theorem U5:∀ {l:List AV},(∀ x∈l,x.fl=ajp)->AV.flL l=ajp
 |[],_=>rfl
 |y::l,h=>by simp only[AV.flL,aj];exact⟨h y (by simp),U5 λx I=>h x (by simp[I])⟩
theorem cq.flat {φ φ':PM} {O O':Nat->Prop} {w w':World} {x:AV} {v:Value} (h:cq φ O w x v):x.fl=ajp->cq φ' O' w' x v:=by
 induction h with
 |f h=>intro hf;exact .f (h.flat hf)
 |ptr h=>intro hf;cases hf
 |sl h hn hc=>intro hf;cases hf
 |row h hn hc hsh=>intro hf;cases hf
 |emp=>intro _;exact .emp
 |anyb=>intro _;exact .anyb
 |mp h=>intro hf;cases hf
 |agg hl hcl hr J=>intro hf;exact .agg hl hcl λj x v I hv=>J j x v I hv (I4 hf x (aS I))
 |tup hl hr J=>intro hf;exact .tup hl λj x v I hv=>J j x v I hv (I4 hf x (aS I))
 |clo hl hr J=>intro hf;cases hf
mutual
theorem ae8 (γ:Nat->Nat):∀ x:AV,x.fl=ajp->x.ren γ=x
 |.f x,_=>rfl
 |.emp,_=>rfl
 |.anyb,_=>rfl
 |.agg l,h=>by simp only[AV.ren];rw[F5 γ l h]
 |.tup l,h=>by simp only[AV.ren];rw[F5 γ l h]
 |.ptr _ _,h=>by cases h
 |.sl _ _ _,h=>by cases h
 |.row _ _ _,h=>by cases h
 |.mp _,h=>by cases h
 |.clo _ _,h=>by cases h
theorem F5 (γ:Nat->Nat):∀ l:List AV,AV.flL l=ajp->AV.renL γ l=l
 |[],_=>rfl
 |x::r,h=>by
  simp only[AV.flL,aj] at h;rw[AV.renL,ae8 γ x h.1,F5 γ r h.2]
end
theorem yD:∀ (T:Ty),T.flat=ajp->∀ x:T.den,∀ y∈bC T x,y.fl=ajp
 |.int _,_,x,y,I=>by simp only[bC,aF] at I;subst I;rfl
 |.bool,_,x,y,I=>by simp only[bC,aF] at I;subst I;rfl
 |.str,_,x,y,I=>by simp only[bC,aF] at I;subst I;rfl
 |.sl _,h,x,y,I=>by cases h
 |.st t,h,x,y,I=>yD t h x y I
 |.pr a b,h,x,y,I=>by
  simp only[Ty.flat,aj] at h;simp only[bC,bE] at I;exact I.elim (yD a h.1 x.1 y) (yD b h.2 x.2 y)
 |.un,_,x,y,I=>by simp[bC] at I
 |.ex,h,_,_,_=>by cases h
 |.sm,h,_,_,_=>by cases h
theorem aat (T:Ty) (h:T.flat=ajp) (x:T.den):(fM T x).fl=ajp:=by
 cases I:T.one with
 |true=>
  have:=yD T h x (fM T x) (by rw[(BS T x I).1];simp);exact this
 |false=>rw[po T x I];exact YF (yD T h x)
theorem NR (a b:Ty):(ZY a b).flat=(a.flat&&b.flat):=by
 cases a<;>cases b<;>simp[ZY,Fa,Ty.flat]
theorem G4 {n:Nat}:∀ {a b:List TV},qe n (a++b)=ajp->qe n a=ajp/\qe n b=ajp
 |[],b,h=>⟨rfl,h⟩
 |x::r,b,h=>by
  simp only[fg,qe,aj] at h ⊢;obtain⟨h1,I⟩:=G4 h.2;exact⟨⟨h.1,h1⟩,I⟩
mutual
theorem Z4 {g:Nat->Nat} {h:aZ}:∀ (p:PV) (x:p.ty.den) (cs:List TV) (l:List AV),p.ty.flat=ajp->oJ g p x=ajn cs->qe 0 cs=ajp->cj h cs=ajn l->∀ y∈l,y.fl=ajp
 |.d T,x,cs,l,hf,hp,_,hl,y,hy=>by
  have:=(kA h 40 T x cs hp).1;rw[hl] at this;cases this;obtain⟨q,hq,rfl⟩:=cO.1 hy;exact yD T hf x q hq
 |.ptr i q,x,cs,l,hf,hp,hlt,hl,y,hy=>by
  simp only[oJ,aa] at hp;subst hp;simp[qe,JG] at hlt
 |.csl i q z,x,cs,l,hf,hp,hlt,hl,y,hy=>by
  simp only[oJ,aa] at hp;subst hp;simp[qe,JG] at hlt
 |.clo q i z,x,cs,l,hf,hp,hlt,hl,y,hy=>by
  simp only[oJ,aa] at hp;subst hp;simp[qe,JG] at hlt
 |.row i,x,cs,l,hf,hp,hlt,hl,y,hy=>by
  simp only[oJ,aa] at hp;subst hp;simp[qe,JG] at hlt
 |.mp i,x,cs,l,hf,hp,hlt,hl,y,hy=>by
  simp only[oJ,aa] at hp;subst hp;simp[qe,JG] at hlt
 |.nil,x,cs,l,hf,hp,hlt,hl,y,hy=>by
  simp only[oJ,aa] at hp;subst hp;simp only[cj,bU,aa] at hl;subst hl;simp only[aF] at hy;subst hy;rfl
 |.emp,x,cs,l,hf,hp,hlt,hl,y,hy=>by
  simp only[oJ,aa] at hp;subst hp;simp only[cj,bU,aa] at hl;subst hl;simp only[aF] at hy;subst hy;rfl
 |.agg ps,x,cs,l,hf,hp,hlt,hl,y,hy=>Gx ps x cs l hf hp hlt hl y hy
theorem Gx {g:Nat->Nat} {h:aZ}:∀ (ps:List PV) (x:(PV.tyL ps).den) (cs:List TV) (l:List AV),(PV.tyL ps).flat=ajp->pJ g ps x=ajn cs->qe 0 cs=ajp->cj h cs=ajn l->∀ y∈l,y.fl=ajp
 |[],x,cs,l,hf,hp,hlt,hl,y,hy=>by
  simp only[pJ,aa] at hp;subst hp;simp only[cj,aa] at hl;subst hl;cases hy
 |p::ps,x,cs,l,hf,hp,hlt,hl,y,hy=>by
  simp only[PV.tyL] at hf;rw[NR,aj] at hf;simp only[pJ] at hp;split at hp
  ·rename_i a ha;split at hp
   ·rename_i b hb;simp only[aa] at hp;subst hp;obtain⟨a',b',rfl,e1,e2⟩:=At hl;have hsp:=G4 hlt;rcases bE.1 hy with hy|hy
    ·exact Z4 p _ a a' hf.1 ha hsp.1 e1 y hy
    ·exact Gx ps _ b b' hf.2 hb hsp.2 e2 y hy
   ·cases hp
  ·cases hp
end
theorem Z2 {g:Nat->Nat} {h:aZ} {p:PV} {x:p.ty.den} {u:TV} {y:AV} (hf:p.ty.flat=ajp) (hp:rI g p x=ajn u) (hlt:JG 0 u=ajp) (I:bU h u=ajn y):y.fl=ajp:=by
 cases p with
 |d T=>
  simp only[rI,aa] at hp;subst hp;simp only[bU,aa] at I;subst I;exact aat T hf x
 |agg ps=>
  simp only[rI] at hp;split at hp
  ·rename_i l hl;simp only[aa] at hp;subst hp;simp only[bU] at I;split at I
   ·rename_i M J;simp only[aa] at I;subst I;exact U5 (Gx ps _ l M hf hl hlt J)
   ·cases I
  ·cases hp
 |ptr i q=>simp only[rI,aa] at hp;subst hp;simp[JG] at hlt
 |csl i q z=>simp only[rI,aa] at hp;subst hp;simp[JG] at hlt
 |row i=>simp only[rI,aa] at hp;subst hp;simp[JG] at hlt
 |clo q i z=>simp only[rI,aa] at hp;subst hp;simp[JG,qe] at hlt
 |mp i=>simp only[rI,aa] at hp;subst hp;simp[JG] at hlt
 |nil=>simp only[rI,aa] at hp;subst hp;simp only[bU,aa] at I;subst I;rfl
 |emp=>simp only[rI,aa] at hp;subst hp;simp only[bU,aa] at I;subst I;rfl
theorem Oa {g:Nat->Nat} {h:aZ}:∀ (ps:List PV) (x:(PV.tyL ps).den) (us:List TV) (l:List AV),(PV.tyL ps).flat=ajp->oR g ps x=ajn us->qe 0 us=ajp->cj h us=ajn l->AV.flL l=ajp
 |[],x,us,l,hf,hp,hlt,hl=>by
  simp only[oR,aa] at hp;subst hp;simp only[cj,aa] at hl;subst hl;rfl
 |p::ps,x,us,l,hf,hp,hlt,hl=>by
  simp only[PV.tyL] at hf;rw[NR,aj] at hf;simp only[oR] at hp;split at hp
  ·rename_i a I;split at hp
   ·rename_i b hb;simp only[aa] at hp;subst hp;obtain⟨y,l2,rfl,e1,e2⟩:=cB hl;simp only[qe,aj] at hlt;simp only[AV.flL,aj];exact⟨Z2 hf.1 I hlt.1 e1,Oa ps _ b l2 hf.2 hb hlt.2 e2⟩
   ·cases hp
  ·cases hp
theorem ZV:∀ {l:List AV},AV.flL l=ajp->(CJ l).fl=ajp
 |[],_=>rfl
 |[x],h=>by simp only[AV.flL,aj] at h;exact h.1
 |x::y::r,h=>h
theorem ab6 {P:Program} {o:Oper} {e:gU} {h:aZ} {nx:Nat} {f:FuncId} {c:bW} {l:List TV} (hinv:kU h nx) (sp:oH P f c) {x:c.pre.ty.den} {m:Nat} {σ:PT Nat} {sm:Nat} (M:Gb 0 c.pre l h x m σ sm) {vs:List TV} {hp:aZ} {l1:List (Option gC)} (I:pA c.pre x vs hp l1) {y:c.post.ty.den} (hm:c.m x=ajn y) {rs:List TV} {hq:aZ} {l2:List (Option gC)} (J:pA c.post y rs hq l2) (hp0:c.pre.bs.length=0) (hq0:c.post.bs.length=0) (hfl:(PV.tyL c.post.vs).flat=ajp)
 (g:Nat->Nat) {la:List AV} (hla:cj h l=ajn la)
 (hexec:∀ (φ:PM) (E:Nat->Prop) (h':HF) (w:World) (a:Act),(∀ t,.tmp t∈o.op.operands->∀ y,eP e h t=ajn y->cq φ (tot E φ h') w y (a.tmps.getD t undef))->pM φ E h' w->∃ us:List Value,(execOp a.eval o).run P w= .ok (.enter f us.toArray) w/\ji φ (tot E φ h') w la us):
 iy P o ajq e h nx (N5 (jH g rs)) m 0 h nx:=by
 obtain⟨x1,m1,x2,m2,hx,hmm,gv,gb⟩:=M.ex;have hmr:dl h m:=by rw[hmm];exact (FZ _ _ _ _ gv).or (F1 _ _ _ _ gb)
 have pvg:oR (gq σ) c.pre.vs x1=ajn (jH (gq σ) vs):=by
  have U:=rV (gq σ) c.pre.vs x1;have h4:=I.pv;rw[hx,rP] at h4;rw[U,h4];rfl
 obtain⟨lr,hlr⟩:=eJ hq rs J.ok;obtain⟨lp,hlp⟩:=eJ hp vs I.ok;have hfl':AV.flL lr=ajp:=Oa c.post.vs _ rs lr hfl J.pv (by rw[<- hq0];exact J.lt) hlr;have hpe:∀ i,hp.get i=ajo:=λi=>by
  cases hb:hp.get i with
  |none=>rfl
  |some b=>have:=I.lt_len hb;omega
 have hqe:∀ i,hq.get i=ajo:=λi=>by
  cases hb:hq.get i with
  |none=>rfl
  |some b=>have:=J.lt_len hb;omega
 have rows_hp:∀ i r,dE hp i=ajn r->dE (dM m h) (gq σ i)=ajn r:=λi r hr=>by rw[bD,hpe] at hr;cases hr
 have rows_hq:∀ i r,dE hq i=ajn r->dE h (g i)=ajn r:=λi r hr=>by rw[bD,hqe] at hr;cases hr
 have rows_in:wz (dM m h) h:=λj r hr=>by
  rw[bD] at hr ⊢;rw[ib] at hr;split at hr
  ·rename_i ht;obtain⟨ty,p,T,xs,hb⟩:=hmr j ht;rw[hb] at hr ⊢;exact hr
  ·exact hr
 have hOpT:fO P o (eP e h) (bi h) ⟨CJ lr,D6 m,[],λ_=>ajo,[]⟩:=by
  intro φ E h' w a hrd hwr hops hrep hN;obtain⟨us,hrun,hrel⟩:=hexec φ E h' w a hops hrep
  let Hv:HF:=λn=>if n∈D6 m then ajo else h' n
  have Hv_in:∀ n,n∈D6 m->Hv n=ajo:=λn hn=>by simp only[Hv,hn,if_true]
  have Hv_out:∀ n,n∉D6 m->Hv n=h' n:=λn hn=>by simp only[Hv,hn,if_false]
  have hd:tZ h' Hv:=λn b hb=>by
   by_cases hn:n∈D6 m
   ·rw[Hv_in n hn] at hb;cases hb
   ·rw[Hv_out n hn] at hb;exact⟨b,hb⟩
  have gvv:CH h h' Hv m:=λi hi=>⟨hrd _ (kq.2 hi),Hv_in _ (kq.2 hi)⟩
  have V:I5 h' Hv:=⟨hd,λn b b' hb Y=>by
   by_cases hn:n∈D6 m
   ·rw[Hv_in n hn] at Y;cases Y
   ·rw[Hv_out n hn,hb] at Y;cases Y;exact jz.refl hd b⟩
  have hrepv:=V.rep hrep;have hlpg:cj (dM m h) (jH (gq σ) vs)=ajn (AV.renL (F3 (gq σ)) lp):=pn rows_hp vs lp hlp;have hrel1:ji φ (tot E φ Hv) w (AV.renL (F3 (gq σ)) lp) us:=
   ji.le hrep (BJ hd rows_in c.pre.vs l x1 m1 _ la _ gv pvg hla hlpg (λi hi=>gvv i (by rw[hmm,bf,hi];rfl))) hrel
  let E':Nat->Prop:=λk=>E k\/∃ n b,Hv n=ajn b/\φ n=ajn k
  have T:abl c.pre x vs hp (gq σ) φ E E' Hv w:=by
   refine pM.toId I (λa b ha=>by omega) hrepv (λi b yb hb=>by rw[hpe] at hb;cases hb) ?_ (λi k b hi=>by omega) ?_
   ·rintro k (hE|⟨n,b,h1,U⟩)
    ·exact .inl hE
    ·exact .inr ⟨n,b,h1,U⟩
   ·rintro k (hE|⟨n,b,h1,U⟩)
    ·exact hrepv.el k hE
    ·obtain⟨k',Z,_,ob,q3,_⟩:=hrepv.at_ n b h1;rw[U] at Z;cases Z;exact (b9.1 q3).1
  have hcalls:=sp.calls x y hm vs hp l1 rs hq l2 lp lr I J hlp hlr (φ1 c.pre.bs.length (gq σ) φ) E' w us T.rep (ji.toId T.val (rM vs lp I.lt hlp) hrel1) (λn k hk=>by
   obtain⟨i,hi,rfl,_⟩:=vD hk;rw[dz];exact hi)
  unfold FK;rw[hrun];refine Calls.mono hcalls ?_;rintro en w' ⟨v,φc',rfl,hext,hown,hnm,rp,rv'⟩;have hno:∀ k,¬own (φ1 c.pre.bs.length (gq σ) φ) (bi hp) k:=by
   rintro k ⟨n,b,h1,_⟩;obtain⟨i,bb,_,U,_⟩:=iG h1;rw[hpe] at U;cases U
  have mv:ie φ φ h' h' w w':=⟨λ_ _ h=>h,hext.mono λk hk=>absurd hk (hno k),λ_ _ h=>h⟩
  refine ⟨v,φ,rfl,?_,λ_ _ h=>.inl h,?_,?_⟩
  ·rw[sg];exact mv
  ·rw[sg];refine hrep.moved mv λk hk=>?_
   obtain⟨n,b,h1,U⟩:=hk;obtain⟨k',Z,_,ob,q3,_⟩:=hrep.at_ n b h1;rw[U] at Z;cases Z;exact hext.blk k (b9.1 q3).1 (hno k)
  ·exact rv'.flat (ZV hfl')
 have hrsg:cj h (jH g rs)=ajn (AV.renL (F3 g) lr):=pn rows_hq rs lr hlr;refine ⟨⟨_,hOpT,λz hz=>?_,?_,λn hn=>?_,by simp,by simp⟩,λ_ _ h=>h,hinv,bF _,λhs=>by cases hs⟩
 ·rw[Uf hrsg,F5 _ lr hfl'] at hz;cases hz;rfl
 ·exact sg _ _
 ·obtain⟨i,rfl,hi⟩:=mG.1 hn;rw[dz];exact hi
def bW.full (c:bW):bW:=⟨c.pre,⟨c.post.vs,c.pre.bs⟩,λx=>obind (c.m x) λy=>ajn (RF (PV.tyL c.post.vs) (PB.tyL c.pre.bs) (MF _ _ y) (Jx _ _ x))⟩
def aC (P:Program) (f:FuncId) (c:bW):Prop:=if dJ c.pre.bs.length c.post.bs.length=ajp then oH P f c else oH P f c.full
theorem oH.toC {P:Program} {f:FuncId} {c:bW} (h:oH P f c) (hb:dJ c.pre.bs.length c.post.bs.length=ajp):aC P f c:=by
 unfold aC;rw[if_pos hb];exact h
theorem aC.holds {P:Program} {f:FuncId} {c:bW} (h:aC P f c) (hb:dJ c.pre.bs.length c.post.bs.length=ajp):oH P f c:=by
 unfold aC at h;rw[if_pos hb] at h;exact h
theorem aa6 (a b:Ty) (z:(ZY a b).den):RF a b (MF a b z) (Jx a b z)=z:=by cases a<;>cases b<;>rfl
open Classical in
def roM {pre:Tm} {vs:List PV} (m:pre.ty.den->Option (Tm.ty ⟨vs,pre.bs⟩).den) (x:pre.ty.den):Option (Tm.ty ⟨vs,[]⟩).den:=
 obind (m x) λy=>if Jx (PV.tyL vs) (PB.tyL pre.bs) y=Jx _ _ x then ajn (RF (PV.tyL vs) (PB.tyL []) (MF (PV.tyL vs) (PB.tyL pre.bs) y) ()) else ajo
theorem aC.ro {P:Program} {f:FuncId} {pre:Tm} {vs:List PV} {m:pre.ty.den->Option (Tm.ty ⟨vs,pre.bs⟩).den} {m':pre.ty.den->Option (Tm.ty ⟨vs,[]⟩).den} (h:oH P f ⟨pre,⟨vs,pre.bs⟩,m⟩) (hb:dJ pre.bs.length 0=ajq) (hs:∀ x y,m' x=ajn y->roM m x=ajn y):aC P f ⟨pre,⟨vs,[]⟩,m'⟩:=by
 unfold aC;rw[if_neg (by show ¬dJ pre.bs.length 0=ajp;rw[hb];exact Bool.false_ne_true)];refine ⟨h.callable,λx y hxy=>?_⟩;refine h.calls x y ?_;have hxy:obind (m' x) (λy=>ajn (RF (PV.tyL vs) (PB.tyL pre.bs) (MF (PV.tyL vs) (PB.tyL []) y) (Jx _ _ x)))=ajn y:=hxy;obtain⟨z,U,hzy⟩:=c5 hxy;have h1:=hs x z U;unfold roM at h1;obtain⟨y0,M,J⟩:=c5 h1;split at J
 ·rename_i heq;have J:=jd J;have hzy:=jd hzy;subst J;have I:RF (PV.tyL vs) (PB.tyL pre.bs) (MF (PV.tyL vs) (PB.tyL pre.bs) y0) (Jx (PV.tyL pre.vs) (PB.tyL pre.bs) x)=y:=(congrArg (λq=>RF (PV.tyL vs) (PB.tyL pre.bs) q (Jx (PV.tyL pre.vs) (PB.tyL pre.bs) x)) (rP (PV.tyL vs) (PB.tyL []) _ ()).symm).trans hzy;rw[<- heq] at I;have:=(aa6 (PV.tyL vs) (PB.tyL pre.bs) y0).symm.trans I;exact M.trans (congrArg ajn this)
 ·cases J
theorem iy.drop {P:Program} {o:Oper} {e:gU} {h h':aZ} {nx nx':Nat} {v:TV} {rd wr W wr':Nat} (t:iy P o ajq e h nx v rd wr h' nx') (hW:∀ i,aG W i=ajp->bi h' (nm i)=bi h (nm i)/\aG rd i=ajp) (M:∀ i,aG wr i=ajp->aG W i=ajp\/aG wr' i=ajp):iy P o ajq e h nx v rd wr' h' nx':=by
 obtain⟨⟨f,h1,h2,J,h4,h5,Z⟩,r,i,g,st⟩:=t;have hs:∀ n,aG W (ow n)=ajp->bi h' n=bi h n:=λn hn=>by
  by_cases I:∃ i,n=nm i
  ·obtain⟨i,rfl⟩:=I;rw[dz] at hn;exact (hW i hn).1
  ·rw[uV h I,uV h' I]
 have hup:∀ H:HF,(∀ n∈f.wr,H n=bi h n)->dQ H (f.wr.filter λn=> !(aG W (ow n))) f.nw=dQ H f.wr f.nw:=λH Y=>by
  funext n;unfold dQ;by_cases hn:n∈f.wr
  ·by_cases hb:aG W (ow n)=ajp
   ·rw[if_neg (by simp[hb]),if_pos hn];have:=congrFun J n;unfold dQ at this;rw[if_pos hn,hs n hb] at this;rw[this,Y n hn]
   ·rw[if_pos (by simp[hn,hb]),if_pos hn]
  ·rw[if_neg (by simp[hn]),if_neg hn]
 refine ⟨⟨⟨f.val,f.rd++(f.wr.filter λn=>aG W (ow n)),f.wr.filter λn=> !(aG W (ow n)),f.nw,f.N⟩,?_,h2,?_,λn hn=>?_,λn hn=>?_,Z⟩,r,i,g,λhs=>by cases hs⟩
 ·intro φ E H w a hrd hwr hops hrep U;have k1:∀ i∈f.rd,H i=bi h i:=λi hi=>hrd i (kc _ hi)
  have k2:∀ i∈f.wr,H i=bi h i:=λi hi=>by
   cases hb:aG W (ow i) with
   |true=>exact hrd i (mr _ (by simp[hi,hb]))
   |false=>exact hwr i (by simp[hi,hb])
  have:=h1 φ E H w a k1 k2 hops hrep U;simp only[hup H k2];exact this
 ·simp only[hup (bi h) (λ_ _=>rfl)];exact J
 ·rcases bE.1 hn with hn|hn
  ·exact h4 n hn
  ·simp only[DU] at hn;exact (hW _ hn.2).2
 ·simp only[DU,dC] at hn;rcases M _ (h5 n hn.1) with hh|hh
  ·rw[hn.2] at hh;cases hh
  ·exact hh
mutual
theorem Yb {n n':Nat} (hle:n<=n'):∀ (v:TV),JG n v=ajp->JG n' v=ajp
 |.row id,h=>by simp only[JG,Nat.blt_eq] at h ⊢;omega
 |.rtl id _,h=>by simp only[JG,Nat.blt_eq] at h ⊢;omega
 |.pel id _ _ _,h=>by simp only[JG,Nat.blt_eq] at h ⊢;omega
 |.ptr id _,h=>by simp only[JG,Nat.blt_eq] at h ⊢;omega
 |.csl id _ _,h=>by simp only[JG,Nat.blt_eq] at h ⊢;omega
 |.mp id,h=>by simp only[JG,Nat.blt_eq] at h ⊢;omega
 |.agg l,h=>uO hle l h
 |.tup l,h=>uO hle l h
 |.clo _ l,h=>uO hle l h
 |.f _ _,_=>rfl
 |.fel _ _ _ _ _,_=>rfl
 |.emp,_=>rfl
 |.nil,_=>rfl
 |.undef,_=>rfl
 |.np,_=>rfl
 |.anyb,_=>rfl
theorem uO {n n':Nat} (hle:n<=n'):∀ (l:List TV),qe n l=ajp->qe n' l=ajp
 |[],_=>rfl
 |x::r,h=>by
  simp only[qe,aj] at h ⊢;exact⟨Yb hle x h.1,uO hle r h.2⟩
end
theorem K3 {g g':Nat->Nat} {h:aZ}:∀ (bs:List PB) (i:Nat) (x:(PB.tyL bs).den) (m:Nat),Ga bs=ajp->ze g h i bs=ajn (x,m)->∃ l,nk g' bs x=ajn l/\l.length=bs.length/\∀ j,j<bs.length->∃ ty p T xs,l[j]? =ajn (ajn (.rows ty p T xs))/\h.get (g (i+j))=ajn (.rows ty p T xs)
 |[],i,x,m,_,hg=>⟨[],rfl,rfl,λj hj=>by simp at hj⟩
 |.rows ty p T::r,i,x,m,I,hg=>by
  simp only[ze] at hg;split at hg
  ·rename_i M m1 h1;split at hg
   ·rename_i J m2 h2;simp only[aa,aw] at hg;obtain⟨rfl,rfl⟩:=hg;obtain⟨l,q1,Z,q3⟩:=K3 (g:=g) (g':=g') (h:=h) r (i+1) J m2 I h2;simp only[Dl] at h1;split at h1
    ·rename_i ty' p' S xs hb;split at h1
     ·rename_i hc;simp only[aj,beq_iff_eq] at hc;obtain⟨rfl,rfl⟩:=hc;split at h1
      ·rename_i z hz;simp only[aa] at h1;obtain⟨rfl,_⟩:=h1;obtain⟨es,ez⟩:=io hz;cases es;subst ez;refine ⟨ajn (.rows ty p T M)::l,?_,by simp[Z],λj hj=>?_⟩
       ·simp only[nk];rw[rP,tF,q1];rfl
       ·cases j with
        |zero=>exact⟨ty,p,T,_,rfl,hb⟩
        |succ j=>
         obtain⟨a,b,c,d,Y,U⟩:=q3 j (by simpa using hj);exact⟨a,b,c,d,by simpa using Y,by rw[show i+(j+1)=i+1+j from by omega];exact U⟩
      ·cases h1
     ·cases h1
    ·cases h1
   ·cases hg
  ·cases hg
 |.rowsP _ _::r,i,x,m,I,hg=>by cases I
 |.cells _ _::r,i,x,m,I,hg=>by cases I
 |.mp _ _::r,i,x,m,I,hg=>by cases I
 |.gone::r,i,x,m,I,hg=>by cases I
theorem D5:∀ {bs:List PB},Ga bs=ajp->zZ bs=ajp
 |[],_=>rfl
 |.rows _ _ _::r,h=>D5 (bs:=r) h
 |.rowsP _ _::r,h=>by cases h
 |.cells _ _::r,h=>by cases h
 |.mp _ _::r,h=>by cases h
 |.gone::r,h=>by cases h
theorem DX {h I:aZ} {g:Nat->Nat}:∀ (n:Nat),(∀ i,i<n->I.get (g i)=h.get (g i))->sh h I g n=ajp
 |0,_=>rfl
 |n+1,hs=>by
  simp only[sh,aj];refine ⟨?_,DX n λi hi=>hs i (by omega)⟩;have:dE I (g n)=dE h (g n):=by rw[bD,bD,hs n (by omega)]
  rw[this];cases dE h (g n) with
  |none=>rfl
  |some q=>obtain⟨p,s,k⟩:=q;simp
def Jl (P:Program) (con:FuncId->Option bW):Prop:=∀ f c,con f=ajn c->aC P f c
theorem UX {R:Type} {P:Program} {con:FuncId->Option bW} (hcon:Jl P con) {o:Oper} {e:gU} {h:aZ} {nx:Nat} {f:FuncId} {l:List TV} {K:KO R} {r:R} (hinv:kU h nx) (hk:UY con f l h nx K=ajn r) {la:List AV} (hla:cj h l=ajn la)
 (hexec:∀ (φ:PM) (E:Nat->Prop) (h':HF) (w:World) (a:Act),CD P f->(∀ t,.tmp t∈o.op.operands->∀ y,eP e h t=ajn y->cq φ (tot E φ h') w y (a.tmps.getD t undef))->pM φ E h' w->∃ us:List Value,(execOp a.eval o).run P w= .ok (.enter f us.toArray) w/\ji φ (tot E φ h') w la us):jS P o ajq e h nx K r:=by
 unfold UY at hk;split at hk
 ·rename_i c hc;have spc:=hcon f c hc;split at hk
  ·rename_i x m σ sm hM;split at hk
   ·rename_i q hq;obtain⟨vs,hp⟩:=q;obtain⟨l1,I⟩:=uQ hq;obtain⟨y,hy,hk⟩:=c5 hk;split at hk
    ·rename_i q2 hq2;obtain⟨rs1,Z⟩:=q2;obtain⟨l2,J⟩:=uQ hq2;split at hk
     ·rename_i hcond;simp only[aj] at hcond;have hle:=aR hcond.1;have sp:=spc.holds hcond.1;simp only at hk;split at hk
      ·rename_i rs hrs;have hrs':=hrs;rw[rV,J.pv] at hrs';simp only[bO,aa] at hrs';split at hk
       ·rename_i hb;simp only[aj] at hb;have hq0:=ak hb.1.2;refine ⟨_,_,_,_,_,hk,?_⟩;rw[<- hrs'];exact ab6 hinv sp (uL hM) I hy J (by omega) hq0 hb.2 _ hla λφ E h' w a=>hexec φ E h' w a sp.callable
       ·split at hk
        ·rename_i h2 U;obtain⟨hsr,hk⟩:=dA hk;refine ⟨_,_,_,_,_,hk,?_⟩;rw[<- hrs'];unfold KL at U;rw[uD,J.pb] at U;simp only[bO,aa] at U;exact YY hinv sp (uL hM) I hcond.2 hy J hle (λi hi=>by
          have:fd i c.pre.bs.length=ajp:=bp hi;simp only[this,if_true]) (λi hi=>by
          have:fd i c.pre.bs.length=ajq:=by
           cases hb:fd i c.pre.bs.length with
           |false=>rfl
           |true=>have:=aR hb;omega
          simp only[this];rfl) U.symm hsr hla λφ E h' w a=>hexec φ E h' w a sp.callable
        ·cases hk
      ·cases hk
     ·rename_i hcond;split at hk
      ·rename_i hro;simp only[aj] at hro;have hq0:=ak hro.1;have hng:=D5 hro.2;have sp:oH P f c.full:=by
        unfold aC at spc
        rwa [if_neg (λhb=>hcond (by rw[hb,hng];rfl))] at spc
       simp only at hk;split at hk
       ·rename_i rs hrs;split at hk
        ·rename_i h2 U;have hrs':=hrs;rw[rV,J.pv] at hrs';simp only[bO,aa] at hrs';refine ⟨_,_,_,_,_,hk,?_⟩;rw[<- hrs'];have M:=uL hM;unfold KL at U;rw[uD,I.pb] at U;simp only[bO,aa] at U;have hqe:∀ i,Z.get i=ajo:=λi=>by
          cases hb:Z.get i with
          |none=>rfl
          |some b=>have:=J.lt_len hb;omega
         have J':pA c.full.post (RF (PV.tyL c.post.vs) (PB.tyL c.pre.bs) (MF _ _ y) (Jx _ _ x)) rs1 hp l1:=
          ⟨by show oR FY c.post.vs (MF (PV.tyL c.post.vs) (PB.tyL c.pre.bs) _)=_;rw[rP];exact J.pv,by show nk FY c.pre.bs (Jx (PV.tyL c.post.vs) (PB.tyL c.pre.bs) _)=_;rw[tF];exact I.pb,I.len,I.at_,hX (λi r hr=>by rw[bD,hqe] at hr;cases hr) _ J.ok,uO (by omega) _ J.lt,I.cells⟩
         obtain⟨x1,m1,x2,m2,hx,hmm,gv,gb⟩:=M.ex;obtain⟨l,q1,q2,q3⟩:=K3 (g':=FY) c.pre.bs 0 x2 m2 hro.2 gb;have hl1:l1=l:=by
          have:=I.pb;rw[hx,tF,q1] at this;cases this;rfl
         subst hl1;have hgi:∀ i,i<c.pre.bs.length->(if fd i c.pre.bs.length then gq σ i else nx+(i-c.pre.bs.length))=gq σ i:=λi hi=>by
          have:fd i c.pre.bs.length=ajp:=bp hi;simp only[this,if_true]
         have hsame:∀ i,i<c.pre.bs.length->h2.get (gq σ i)=h.get (gq σ i):=λi hi=>by
          obtain⟨ty,p,T,xs,w1,Y⟩:=q3 i hi;rw[bz] at Y;have:=tJ (λi=>if fd i c.pre.bs.length then gq σ i else nx+(i-c.pre.bs.length)) (l1.map (kD (kH (λi=>if fd i c.pre.bs.length then gq σ i else nx+(i-c.pre.bs.length))))) 0 (dM m h) (λa b ha hb e=>by
           simp only[bV,q2] at ha hb;rw[bz,bz,hgi a ha,hgi b hb] at e;exact M.inj a b ha hb e) i (ajn (.rows ty p T xs)) (by rw[aU,w1];rfl)
          rw[bz,hgi i hi] at this;rw[<- U,this,Y]
         have t:=YY (o:=o) (e:=e) hinv sp M I hng (y:=RF (PV.tyL c.post.vs) (PB.tyL c.pre.bs) (MF _ _ y) (Jx _ _ x)) (by show obind (c.m x) _=_;rw[hy];rfl) J' (bF _) (g:=λi=>if fd i c.pre.bs.length then gq σ i else nx+(i-c.pre.bs.length)) hgi (λi hi=>by
          have:fd i c.pre.bs.length=ajq:=by
           cases hb:fd i c.pre.bs.length with
           |false=>rfl
           |true=>have:=aR hb;have hi:c.pre.bs.length<=i:=hi;omega
          simp only[this];rfl) U.symm (DX _ λi hi=>by rw[hgi i hi];exact hsame i hi) hla λφ E h' w a=>hexec φ E h' w a sp.callable
         have t':iy P o ajq e h nx (N5 (jH (λi=>if fd i c.pre.bs.length then gq σ i else nx+(i-c.pre.bs.length)) rs1)) (sm|||m) (sm|||m|||(((1<<<(c.pre.bs.length-c.pre.bs.length))-1)<<<nx)) h2 (nx+(c.pre.bs.length-c.pre.bs.length)):=t;rw[Nat.sub_self,cN] at t';refine t'.drop (W:=sm) (λi hi=>?_) (λi hi=>?_)
         ·refine ⟨?_,by rw[bf,hi];rfl⟩;obtain⟨k,hk,rfl⟩:=(M.sig i).1 hi;obtain⟨ty,p,T,xs,_,Y⟩:=q3 k hk;rw[bz] at Y;rw[bt,bt,hsame k hk,Y];rfl
         ·simp only[Nat.shiftLeft_zero,Nat.sub_self,Nat.zero_shiftLeft,Nat.or_zero,bf,hP] at hi;exact hi
        ·cases hk
       ·cases hk
      ·cases hk
    ·cases hk
   ·cases hk
  ·cases hk
 ·cases hk
theorem ads {R:Type} {P:Program} {con:FuncId->Option bW} (hcon:Jl P con) {bL:TypeId->Option Ty} {o:Oper} {e:gU} {h:aZ} {nx:Nat} {i:SI} {K:KO R} {r:R} (hinv:kU h nx) (hi:rT e h) (hc:wX P o.op=i) (hk:dj con bL i e h nx K=ajn r):jS P o i.still e h nx K r:=by
 have callOps:∀ (c:Call),o.op= .call c->∀ x,x∈c.operands->x∈o.op.operands:=λc I x J=>by rw[I];exact J
 cases i with
 |call f args=>
  simp only[dj] at hk;split at hk
  ·rename_i l hl;have I:∃ c:Call,o.op= .call c/\c.callee= .value (.func f)/\c.args.toList=args:=by
    unfold wX at hc;split at hc
    ·rename_i i hi;subst hc;unfold Nd at hi;split at hi
     ·rename_i c I;split at hi
      ·rename_i g hg;simp only[aa,SI.call.injEq] at hi;exact⟨c,I,by rw[hg,hi.1],hi.2⟩
      ·simp at hi
      ·cases hi
     ·cases hi
    ·split at hc<;>cases hc
   obtain⟨c,I,h1,M⟩:=I;obtain⟨la,g1,Z⟩:=xn hi hl;refine UX hcon hinv hk Z λφ E h' w a hcb hops hrep=>?_
   have hp:TQ φ E h' w a (Js e h) o:=λx y J Y=>rQ hrep (by rw[tR];exact hops) J Y
   refine ⟨args.map a.eval,?_,MM hp args la (λx J=>callOps c I x (by simp[dP,h1,<-M] at J ⊢;exact .inr J)) g1⟩;unfold execOp;rw[I];have hm:c.args.map a.eval=(args.map a.eval).toArray:=by rw[<- M];apply Jo;simp
   simp[resolve,h1,Act.eval,Deferred.ofValue,invoke,hm,vF hcb]
  ·cases hk
 |callv x args=>
  simp only[dj] at hk;split at hk
  ·rename_i f cap l J hl;have I:∃ c:Call,o.op= .call c/\c.callee= .value x/\c.args.toList=args:=by
    unfold wX at hc;split at hc
    ·rename_i i hi;subst hc;unfold Nd at hi;split at hi
     ·rename_i c I;split at hi
      ·simp at hi
      ·rename_i g hg;simp only[aa,SI.callv.injEq] at hi;exact⟨c,I,by rw[hg,hi.1],hi.2⟩
      ·cases hi
     ·cases hi
    ·split at hc<;>cases hc
   obtain⟨c,I,h1,M⟩:=I;obtain⟨la,g1,Z⟩:=xn hi hl;obtain⟨yx,g3,U⟩:=bu hi J;simp only[bU] at U;split at U
   ·rename_i lc hlc;simp only[aa] at U;subst U;refine UX hcon hinv hk (mg Z hlc) λφ E h' w a hcb hops hrep=>?_
    have hp:TQ φ E h' w a (Js e h) o:=λx y J Y=>rQ hrep (by rw[tR];exact hops) J Y
    have hxv:=hp x _ (callOps c I x (by simp[dP,h1])) g3;have hlv:=MM hp args la (λx J=>callOps c I x (by simp[dP,h1,<-M] at J ⊢;exact .inr J)) g1;generalize hz:a.eval x=z at hxv;cases hxv with
    |@clo _ _ vs hvl hvr=>
     refine ⟨args.map a.eval++vs,?_,hlv.append (ji.of hvl hvr)⟩;unfold execOp;rw[I];have hm:c.args.map a.eval=(args.map a.eval).toArray:=by rw[<- M];apply Jo;simp
     simp[resolve,h1,hz,Deferred.ofValue,invoke,hm,vF hcb]
   ·cases U
  ·cases hk
 |op s=>
  have hc:s= .bad\/cL P o.op=ajn s:=by
   unfold wX at hc;split at hc
   ·rename_i i hi;subst hc;unfold Nd at hi;split at hi
    ·split at hi<;>simp at hi
    ·cases hi
   ·split at hc
    ·rename_i q hq;simp only[SI.op.injEq] at hc;subst hc;exact .inr hq
    ·simp only[SI.op.injEq] at hc;exact .inl hc.symm
  rcases hc with rfl|hc
  ·simp[dj] at hk
  ·exact K_op hinv hi hc hk
def fm (am:Nat) (e e':gU):Prop:=∀ k,aG am k=ajq->∀ I,e'.get k=ajn I->∃ v,e.get k=ajn v/\(sJ v=ajp->I=v)
theorem fm.refl (am:Nat) (e:gU):fm am e e:=λ_ _ I h=>⟨I,h,λ_=>rfl⟩
theorem fm.trans {am:Nat} {a b c:gU} (h1:fm am a b) (M:fm am b c):fm am a c:=λk hk J hv=>by
 obtain⟨I,g1,Z⟩:=M k hk J hv;obtain⟨v,Y,U⟩:=h1 k hk I g1;refine ⟨v,Y,λhf=>?_⟩;have:=U hf;subst this;exact Z hf
theorem fm.mono {am am':Nat} {a b:gU} (h:fm am a b) (hm:∀ k,aG am k=ajp->aG am' k=ajp):fm am' a b:=λk hk=>h k (by
 cases I:aG am k with
 |false=>rfl
 |true=>rw[hm k I] at hk;cases hk)
structure Zj (P:Program) (ops:Array Oper) (rest:List Oper) (sl:List qU) (am:Nat) (s s':TS) (fs:List ZC) (l:List (Oper×zK)):Prop where
 ops_:l.map (·.1)=rest
 chain:yg P ops l (eP s.e s.h) (bi s.h) (eP s'.e s'.h) (bi s'.h)
 fsl:fs.length=l.length
 sll:sl.length=l.length
 fp:∀ (j:Nat) o f q,l[j]? =ajn (o,f)->fs[j]? =ajn q->(∀ n∈f.rd,aG q.rd (ow n)=ajp)/\∀ n∈f.wr,aG q.wr (ow n)=ajp
 still:∀ (j:Nat) o f so,l[j]? =ajn (o,f)->sl[j]? =ajn so->so.op.still=ajp->f.rd=[]/\f.wr=[]
 names:∀ (j:Nat) o f,l[j]? =ajn (o,f)->∀ n∈f.N,s.nx<=ow n/\ow n<s'.nx
 apart_:∀ (i j:Nat) oi fi oj fj,i<j->l[i]? =ajn (oi,fi)->l[j]? =ajn (oj,fj)->∀ n∈fi.N,n∉fj.N
 grows:s.nx<=s'.nx
 invH:kU s'.h s'.nx
 invE:rT s'.e s'.h
 keeps:fm am s.e s'.e
theorem Z3 {e:gU} {h h':aZ} (hi:rT e h) (hr:bZ h h') (d:Option Nat) {v:TV} {y:AV} (hv:bU h' v=ajn y):Bg (eP e h) d y=eP (CQ e d v) h':=by
 funext t;have old:(e.get t).bind (bU h)=(e.get t).bind (bU h'):=by
  cases ht:e.get t with
  |none=>rfl
  |some x=>
   obtain⟨z,I⟩:=oU h x (hi t x ht);simp only[aA,I,fE hr x z I]
 cases d with
 |none=>simp only[Bg,CQ,eP];rw[if_neg (by simp)];exact old
 |some d=>
  simp only[Bg,CQ,eP,PT.get_set,aa];by_cases hd:d=t
  ·subst hd;simp[hv]
  ·rw[if_neg hd,if_neg (λe=>hd e.symm)];exact old
theorem rT.put {e:gU} {h h':aZ} (hi:rT e h) (hr:bZ h h') (d:Option Nat) {v:TV} (hv:JE h' v=ajp):rT (CQ e d v) h':=λt x I=>by
 cases d with
 |none=>exact nl hr x (hi t x I)
 |some d=>
  simp only[CQ,PT.get_set] at I;split at I
  ·cases I;exact hv
  ·exact nl hr x (hi t x I)
theorem Ph {e:gU} {h:aZ} {t:Nat} {v:TV} (ht:e.get t=ajn v):eP (e.set t (ajn v)) h=eP e h:=by
 funext k;simp only[eP,PT.get_set];by_cases hk:k=t
 ·subst hk;simp[ht]
 ·rw[if_neg hk]
theorem rT.set {e:gU} {h:aZ} {t:Nat} {v:TV} (hi:rT e h) (ht:e.get t=ajn v):rT (e.set t (ajn v)) h:=λk x I=>by
 rw[PT.get_set] at I;split at I
 ·rename_i hk;subst hk;cases I;exact hi _ _ ht
 ·exact hi k x I
theorem Rg {R:Type} {e:gU} {g:Option (Nat×Bool)} {K:Bool->gU->Option R} {r:R} (h:Xw e g K=ajn r):
 (g=ajo/\K ajp e=ajn r)\/(∃ t want b,g=ajn (t,want)/\e.get t=ajn (.f .bool b)/\K (b==want) (e.set t (ajn (.f .bool b)))=ajn r)\/∃ t want,g=ajn (t,want)/\e.get t=ajn .undef/\K ajq e=ajn r:=by
 unfold Xw at h;split at h
 ·exact .inl ⟨rfl,h⟩
 ·rename_i t want;split at h
  ·rename_i b hb;refine .inr (.inl ⟨t,want,b,rfl,hb,?_⟩);cases want with
   |true=>rcases ov h with ⟨rfl,h⟩|⟨rfl,h⟩<;>exact h
   |false=>rcases ov h with ⟨rfl,h⟩|⟨rfl,h⟩<;>exact h
  ·rename_i hb;exact .inr (.inr ⟨t,want,rfl,hb,h⟩)
  ·cases h
theorem GA {R:Type} {P:Program} {con:FuncId->Option bW} (hcon:Jl P con) {bL:TypeId->Option Ty} {ops:Array Oper} {am:Nat} (ham:∀ (j:Nat) (o:Oper) (d:Nat),ops[j]? =ajn o->o.dst=ajn d->aG am d=ajp):
 ∀ (rest:List Oper) (sl:List qU) (s:TS) (fs:List ZC) (K:TS->List ZC->Option R) (r:R),(∀ o∈rest,∃ j:Nat,ops[j]? =ajn o)->qC P ops rest=ajn sl->JB con bL sl s fs K=ajn r->kU s.h s.nx->rT s.e s.h->∃ s' fs' l,K s' (fs.reverse++fs')=ajn r/\Zj P ops rest sl am s s' fs' l
 |[],sl,s,fs,K,r,hin,hc,hk,hH,Y=>by
  simp only[qC,aa] at hc;subst hc;simp only[JB] at hk;exact⟨s,[],[],by simpa using hk,rfl,.nil _ _,rfl,rfl,by simp,by simp,by simp,by simp,bF _,hH,Y,fm.refl _ _⟩
 |o::rest,sl,s,fs,K,r,hin,hc,hk,hH,Y=>by
  simp only[qC] at hc;split at hc
  ·rename_i sl' hsl';have hso:∃ g,sl=⟨o.dst,wX P o.op,g⟩::sl'/\((g=ajo/\o.guard=ajo)\/∃ j want t,g=ajn (t,want)/\o.guard=ajn (j,want)/\(ops[j]?).bind (·.dst)=ajn t):=by
    split at hc
    ·rename_i hg;simp only[aa] at hc;exact⟨ajo,hc.symm,.inl ⟨rfl,hg⟩⟩
    ·rename_i j want hg;split at hc
     ·rename_i t ht;simp only[aa] at hc;exact⟨ajn (t,want),hc.symm,.inr ⟨j,want,t,rfl,hg,ht⟩⟩
     ·cases hc
   obtain⟨g,rfl,hg⟩:=hso;simp only[JB] at hk;have hdst:∀ d,o.dst=ajn d->aG am d=ajp:=λd hd=>by
    obtain⟨j,hj⟩:=hin o (dg ..);exact ham j o d hj hd
   have hgs:∀ t want,g=ajn (t,want)->aG am t=ajp:=λt want hgt=>by
    rcases hg with ⟨h1,_⟩|⟨j,want',t',h1,_,J⟩
    ·rw[h1] at hgt;cases hgt
    ·rw[h1] at hgt;cases hgt;cases hj:ops[j]? with
     |none=>rw[hj] at J;cases J
     |some oj=>rw[hj] at J;exact ham j oj t hj J
   have kput:∀ (e:gU) (v:TV),fm am s.e e->fm am s.e (CQ e o.dst v):=λe v hke k hk v' hv=>by
    cases hd:o.dst with
    |none=>rw[hd] at hv;exact hke k hk v' hv
    |some d=>
     rw[hd] at hv;simp only[CQ,PT.get_set] at hv;split at hv
     ·rename_i e2;rw[e2,hdst d hd] at hk;cases hk
     ·exact hke k hk v' hv
   have done:∀ (f:zK) (v:TV) (h':aZ) (nx' rd wr:Nat) (e:gU),eP e s.h=eP s.e s.h->rT e s.h->fm am s.e e->I6 P ops o f (eP s.e s.h) (bi s.h)->(∃ y,bU h' v=ajn y/\f.val=y)->dQ (bi s.h) f.wr f.nw=bi h'->(∀ n∈f.rd,aG rd (ow n)=ajp)->(∀ n∈f.wr,aG wr (ow n)=ajp)->(∀ n∈f.N,s.nx<=ow n/\ow n<nx')->bZ s.h h'->kU h' nx'->s.nx<=nx'->((wX P o.op).still=ajp->f.rd=[]/\f.wr=[])->
    JB con bL sl' ⟨CQ e o.dst v,h',nx'⟩ (⟨rd,wr⟩::fs) K=ajn r->∃ s' fs' l,K s' (fs.reverse++fs')=ajn r/\Zj P ops (o::rest) (⟨o.dst,wX P o.op,g⟩::sl') am s s' fs' l:=by
    intro f v h' nx' rd wr e hee hiE hke hst hval hheap hrd hwr hN hrows hinv' hgr hstill hrun;obtain⟨y,Z,hy2⟩:=hval;obtain⟨s',fs',l,U,L⟩:=GA hcon ham rest sl' _ _ K r (λM ho'=>hin M (cA _ ho')) hsl' hrun hinv' (hiE.put hrows o.dst (Dq _ _ _ Z));have hg2:nx'<=s'.nx:=L.grows;refine ⟨s',⟨rd,wr⟩::fs',(o,f)::l,by simpa using U,by simp[L.ops_],.cons hst ?_,by simp[L.fsl],by simp[L.sll],?_,?_,?_,?_,cM hgr hg2,L.invH,L.invE,(kput e v hke).trans L.keeps⟩
    ·have e1:Bg (eP s.e s.h) o.dst f.val=eP (CQ e o.dst v) h':=by rw[<- hee,hy2];exact Z3 hiE hrows o.dst Z
     rw[e1,hheap];exact L.chain
    ·intro j M f' q' h1 I;cases j with
     |zero=>simp at h1 I;obtain⟨rfl,rfl⟩:=h1;subst I;exact⟨hrd,hwr⟩
     |succ j=>exact L.fp j M f' q' (by simpa using h1) (by simpa using I)
    ·intro j M f' so h1 I J;cases j with
     |zero=>simp at h1 I;obtain⟨rfl,rfl⟩:=h1;subst I;exact hstill J
     |succ j=>exact L.still j M f' so (by simpa using h1) (by simpa using I) J
    ·intro j M f' h1 n hn;cases j with
     |zero=>
      simp at h1;obtain⟨rfl,rfl⟩:=h1;have:=hN n hn;exact⟨this.1,by omega⟩
     |succ j=>
      have:=L.names j M f' (by simpa using h1) n hn;exact⟨cM hgr this.1,this.2⟩
    ·intro i j oi fi oj fj hij h1 I n hn hn';cases j with
     |zero=>omega
     |succ j=>
      have hj:=L.names j oj fj (by simpa using I) n hn';cases i with
      |zero=>
       simp at h1;obtain⟨rfl,rfl⟩:=h1;have J:=(hN n hn).2;have h4:nx'<=ow n:=hj.1;omega
      |succ i=>exact L.apart_ i j oi fi oj fj (by omega) (by simpa using h1) (by simpa using I) n hn hn'
   have runs:∀ (e:gU),eP e s.h=eP s.e s.h->rT e s.h->fm am s.e e->(∀ f,fO P o (eP s.e s.h) (bi s.h) f->I6 P ops o f (eP s.e s.h) (bi s.h))->dj con bL (wX P o.op) e s.h s.nx (λv rd wr h nx=>if JE h v then JB con bL sl' ⟨CQ e o.dst v,h,nx⟩ (⟨rd,wr⟩::fs) K else ajo)=ajn r->∃ s' fs' l,K s' (fs.reverse++fs')=ajn r/\Zj P ops (o::rest) (⟨o.dst,wX P o.op,g⟩::sl') am s s' fs' l:=by
    intro e hee hiE hke hstep hk;obtain⟨v,rd,wr,h',nx',U,T⟩:=ads hcon hH hiE rfl hk;simp only[] at U;split at U
    ·rename_i hok;obtain⟨f,t1,t2,t3,t4,t5,t6⟩:=T.ex;rw[hee] at t1;obtain⟨y,hy⟩:=oU h' v hok;refine done f v h' nx' rd wr e hee hiE hke (hstep f t1) ⟨y,hy,t2 y hy⟩ t3 t4 t5 t6 T.rows T.inv T.grows (λhs=>?_) U;obtain⟨r0,w0⟩:=T.st hs;subst r0;subst w0;constructor
     ·cases hl:f.rd with
      |nil=>rfl
      |cons n q=>have:=t4 n (by rw[hl];simp);simp at this
     ·cases hl:f.wr with
      |nil=>rfl
      |cons n q=>have:=t5 n (by rw[hl];simp);simp at this
    ·cases U
   have skips:∀ (e:gU),eP e s.h=eP s.e s.h->rT e s.h->fm am s.e e->I6 P ops o qu (eP s.e s.h) (bi s.h)->JB con bL sl' ⟨CQ e o.dst .undef,s.h,s.nx⟩ (⟨0,0⟩::fs) K=ajn r->∃ s' fs' l,K s' (fs.reverse++fs')=ajn r/\Zj P ops (o::rest) (⟨o.dst,wX P o.op,g⟩::sl') am s s' fs' l:=by
    intro e hee hiE hke hstep hk;exact done qu .undef s.h s.nx 0 0 e hee hiE hke hstep ⟨_,rfl,rfl⟩ (by funext i;simp[dQ,qu]) (by simp[qu]) (by simp[qu]) (by simp[qu]) (bZ.refl _) hH (bF _) (λ_=>⟨rfl,rfl⟩) hk
   rcases Rg hk with ⟨h1,hk⟩|⟨t,want,b,h1,hb,hk⟩|⟨t,want,h1,hb,hk⟩
   ·refine runs s.e rfl Y (fm.refl _ _) (λf hf=>?_) hk;rcases hg with ⟨_,hg⟩|⟨j,want,t,I,_,_⟩
    ·exact .run hg hf
    ·rw[h1] at I;cases I
   ·rcases hg with ⟨I,_⟩|⟨j,want',t',I,J,h4⟩
    ·rw[h1] at I;cases I
    ·rw[h1] at I;cases I;have hgt:=hgs t want h1;have heb:eP s.e s.h t=ajn (.f (.raw (.bool b))):=by simp only[eP,hb,aA,bU];rfl
     have hke:fm am s.e (s.e.set t (ajn (.f .bool b))):=λk hk v' hv=>by
      rw[PT.get_set] at hv;split at hv
      ·rename_i ek;rw[ek,hgt] at hk;cases hk
      ·exact⟨v',hv,λ_=>rfl⟩
     cases hbw:(b==want) with
     |true=>
      rw[hbw] at hk;have:b=want:=by simpa using hbw
      subst this;exact runs _ (Ph hb) (Y.set hb) hke (λf hf=>.runG j t b J h4 heb hf) hk
     |false=>
      rw[hbw] at hk;refine skips _ (Ph hb) (Y.set hb) hke (.skip j t want J h4 (.bool b) heb ?_ rfl) hk;intro hv;cases hv;simp at hbw
   ·rcases hg with ⟨I,_⟩|⟨j,want',t',I,J,h4⟩
    ·rw[h1] at I;cases I
    ·rw[h1] at I;cases I;exact skips _ rfl Y (fm.refl _ _) (.skip j t want J h4 undef (by simp only[eP,hb,aA,bU]) (by unfold undef;simp) rfl) hk
  ·cases hc
theorem aa2 {P:Program} {ops:Array Oper} {sl:List qU} {am:Nat} {s s':TS} {fs:List ZC} {l:List (Oper×zK)} {prs:List (Nat×Nat)} (hl:Zj P ops ops.toList sl am s s' fs l) (hp:KM ops sl=ajn prs) (hok:DZ fs prs=ajp):NIP ops l:=by
 unfold KM at hp;simp only[] at hp;split at hp
 ·rename_i hall;simp only[fh,ml,aj] at hall;simp only[aa] at hp;have hop:∀ (j:Nat) o f,l[j]? =ajn (o,f)->ops[j]? =ajn o:=λj o f hj=>by
   have h1:(l.map (·.1))[j]? =ajn o:=by rw[aU,hj];rfl
   rw[hl.ops_] at h1;simpa using h1
  have hsize:∀ (j:Nat) o,ops[j]? =ajn o->j<ops.size:=λj o h=>(b9.1 h).1
  have hprs:∀ i j,(i,j)∈prs->∃ a b,fs[i]? =ajn a/\fs[j]? =ajn b/\Ce a.wr b.rd=ajp/\Ce a.wr b.wr=ajp/\Ce b.wr a.rd=ajp:=by
   clear hp hall;induction prs with
   |nil=>intro i j h;cases h
   |cons p prs ih=>
    obtain⟨i0,j0⟩:=p;simp only[DZ,aj,UE] at hok;intro i j hm;rcases bc.1 hm with h|h
    ·cases h;have h1:=hok.1;split at h1
     ·rename_i a b Z hb;simp only[aj] at h1;exact⟨a,b,Z,hb,h1.1.1,h1.1.2,h1.2⟩
     ·cases h1
    ·exact ih hok.2 i j h
  refine ⟨λj o ho e he hb=>?_,λi j oi fi oj fj hij hi hj=>?_,hl.apart_⟩
  ·have:=(hall j (hsize j o ho)).1;rw[ho] at this;simp only[Option.all_some,fh] at this;have:=this e (by simpa using he);simp[hb] at this;exact this
  ·have h1:=hop i oi fi hi;have h2:=hop j oj fj hj;have hcase:=(hall j (hsize j oj h2)).2 i hij;rw[h1,h2] at hcase;simp only[hP] at hcase;by_cases M:aG ((IW ops.toList []).getD j 0) i=ajp
   ·left;rw[au] at M;cases I:(IW ops.toList [])[j]? with
    |none=>rw[I] at M;simp at M
    |some B=>
     rw[I] at M;exact LA (ops:=ops) ops.toList [] (λj o hj=>by simpa using hj) (λj B hj=>by simp at hj) j B I i (by simpa using M)
   ·right;have hap:=hcase.resolve_left M;refine ⟨hap,?_⟩;have hil:i<l.length:=(a8.1 hi).1;have hjl:j<l.length:=(a8.1 hj).1;have hsi:=ar (show i<sl.length by rw[hl.sll];exact hil);have hsj:=ar (show j<sl.length by rw[hl.sll];exact hjl);by_cases hst:(sl[i]'(by rw[hl.sll];exact hil)).op.still=ajp
    ·obtain⟨Y,U⟩:=hl.still i oi fi _ hi hsi hst;rw[Y,U];exact⟨(λx I=>by cases I),(λx _ I=>by cases I)⟩
    ·by_cases hst2:(sl[j]'(by rw[hl.sll];exact hjl)).op.still=ajp
     ·obtain⟨Y,U⟩:=hl.still j oj fj _ hj hsj hst2;rw[Y,U];exact⟨(λx I=>⟨(by simp),(by simp)⟩),(λx I=>by cases I)⟩
     ·have hmem:(i,j)∈prs:=by
       rw[<- hp,tw];refine ⟨j,ml.2 (hsize j oj h2),?_⟩;rw[List.mem_filterMap];refine ⟨i,ml.2 hij,?_⟩;rw[if_neg];rw[hsi,hsj];simp only[hP,not_or];exact⟨M,hst,hst2⟩
      obtain⟨a,b,Z,hb,d1,d2,d3⟩:=hprs i j hmem;obtain⟨f1,f2⟩:=hl.fp i oi fi a hi Z;obtain⟨g1,g2⟩:=hl.fp j oj fj b hj hb;refine ⟨λx I=>⟨λJ=>?_,λJ=>?_⟩,λx I J=>?_⟩
      ·have:=wq d1 (ow x) (f2 x I);rw[g1 x J] at this;cases this
      ·have:=wq d2 (ow x) (f2 x I);rw[g2 x J] at this;cases this
      ·have:=wq d3 (ow x) (g2 x I);rw[f1 x J] at this;cases this
 ·cases hp
structure nD (P:Program) (E:Nat->Prop) (nt np:Nat) (φ:PM) (s:TS) (a:Act) (w:World):Prop where
 rep:pM φ E (bi s.h) w
 env:LH φ (tot E φ (bi s.h)) w (eP s.e s.h) a
 dom:∀ n k,φ n=ajn k->ow n<s.nx
 low:np<=s.nx
 invH:kU s.h s.nx
 invE:rT s.e s.h
 inert:∀ d∈a.defers,ZA P d
 size:a.tmps.size=nt
structure AK (np:Nat) (φ φ':PM) (H H':HF) (w w':World):Prop where
 ext:Jj (own φ H) w w'
 own_:∀ k,k<w.heap.size->own φ' H' k->own φ H k
 par:∀ i,i<np->φ' (nm i)=φ (nm i)
theorem AK.refl (np:Nat) (φ:PM) (H:HF) (w:World):AK np φ φ H H w w:=⟨Jj.refl _ _,λ_ _ h=>h,λ_ _=>rfl⟩
theorem AK.trans {np:Nat} {φ φ' φ'':PM} {H H' H'':HF} {w w' w'':World} (a:AK np φ φ' H H' w w') (b:AK np φ' φ'' H' H'' w' w''):AK np φ φ'' H H'' w w'' where
 ext:=⟨b.ext.os.trans a.ext.os,b.ext.tape.trans a.ext.tape,b.ext.output.trans a.ext.output,cM a.ext.size b.ext.size,
  λk hk I=>(b.ext.blk k (cU hk a.ext.size) (λh=>I (a.own_ k hk h))).trans (a.ext.blk k hk I),
  λk hk=>(b.ext.shp k (cU hk a.ext.size)).trans (a.ext.shp k hk)⟩
 own_:=λk hk h=>a.own_ k hk (b.own_ k (cU hk a.ext.size) h)
 par:=λi hi=>(b.par i hi).trans (a.par i hi)
theorem XP {R:Type} {P:Program} {E:Nat->Prop} {nt np:Nat} {φ:PM} {s:TS} {a:Act} {w:World} {con:FuncId->Option bW} {bL:TypeId->Option Ty} (hm:P.follows .mixedOrders=ajp) (hcon:Jl P con) (c:nD P E nt np φ s a w) {id:Nat} {ops:Array Oper} {draw:Bool} {sl:List qU} {prs:List (Nat×Nat)} {am:Nat} (ham:∀ (j:Nat) (o:Oper) (d:Nat),ops[j]? =ajn o->o.dst=ajn d->aG am d=ajp)
 (hd:(ops.toList.all λo=>match o.dst with|some d=>decide (d<nt)|none=>ajp)=ajp) (hc:qC P ops ops.toList=ajn sl) (hp:KM ops sl=ajn prs) {K:TS->Option R} {r:R} (hr:JB con bL sl s [] (λs' fs=>if DZ fs prs then K s' else ajo)=ajn r) {Q:Exit->Act->World->Prop}
 (hQ:∀ a' w' s' φ',K s'=ajn r->nD P E nt np φ' s' a' w'->AK np φ φ' (bi s.h) (bi s'.h) w w'->fm am s.e s'.e->Q .normal a' w'):(Code.region id ops draw).wp P Q a w:=by
 obtain⟨s',fs',l,J,L⟩:=GA hcon ham ops.toList sl s [] _ r (λo U=>by
  obtain⟨j,hj⟩:=dW U;exact⟨j,by simpa using hj⟩) hc hr c.invH c.invE
 have J:(if DZ fs' prs then K s' else ajo)=ajn r:=J;by_cases hok:DZ fs' prs=ajp
 ·rw[if_pos hok] at J;refine N7 (φ0:=φ) (E:=E) hm L.ops_ L.chain (aa2 L hp hok) ?_ ?_ c.rep c.env ?_
  ·intro n hn;obtain⟨p,I,hn⟩:=tw.1 hn;obtain⟨j,hj⟩:=dW I;have:=L.names j p.1 p.2 hj n hn;cases M:φ n with
   |none=>rfl
   |some k=>have:=c.dom n k M;omega
  ·intro j o U d Y;have:=fh.1 hd o (by have:=Array.mem_of_getElem? U;simpa using this);rw[Y] at this;rw[c.size];simpa using this
  ·rintro a' w' ⟨φ',m',d',Z,en',df',sz'⟩;have hnm:∀ n k,φ' n=ajn k->φ n=ajn k\/(s.nx<=ow n/\ow n<s'.nx):=λn k hik=>by
    rcases d' n k hik with h|h
    ·exact .inl h
    ·obtain⟨p,I,hn⟩:=tw.1 h;obtain⟨j,hj⟩:=dW I;exact .inr (L.names j p.1 p.2 hj n hn)
   have hg:=L.grows;have hlow:=c.low;refine hQ a' w' s' φ' J ⟨Z,en',λn k hik=>?_,by omega,L.invH,L.invE,by rw[df'];exact c.inert,by rw[sz'];exact c.size⟩ ⟨m'.ext,m'.own_,λi hi=>?_⟩ L.keeps
   ·rcases hnm n k hik with h|h
    ·have:=c.dom n k h;omega
    ·exact h.2
   ·cases M:φ (nm i) with
    |some k=>exact m'.sub _ _ M
    |none=>
     cases hy:φ' (nm i) with
     |none=>rfl
     |some k=>
      rcases hnm (nm i) k hy with h|h
      ·rw[M] at h;cases h
      ·rw[dz] at h;omega
 ·rw[if_neg hok] at J;cases J
theorem yc:∀ (l:List qU) (acc:Nat),Nh l acc=acc|||Nh l 0
 |[],acc=>by simp[Nh]
 |o::r,acc=>by
  simp only[Nh];cases o.dst with
  |none=>exact yc r acc
  |some d=>simp only[];rw[yc r (acc|||kg d),yc r (0|||kg d),CE,jJ]
theorem yr:∀ (l:List Nat) (acc:Nat),JH l acc=acc|||JH l 0
 |[],acc=>by simp[JH]
 |k::r,acc=>by simp only[JH];rw[yr r (acc|||kg k),yr r (0|||kg k),CE,jJ]
theorem kT:∀ (l:List ZK) (acc:Nat),m8 l acc=acc|||m8 l 0
 |[],acc=>by simp[m8]
 |.nil k _ _::r,acc=>by simp only[m8];rw[kT r (acc|||kg k),kT r (0|||kg k),CE,jJ]
 |.cel _ _ _ _::r,acc=>by simp only[m8];exact kT r acc
 |.mpt _ _ _::r,acc=>by simp only[m8];exact kT r acc
 |.ren k _::r,acc=>by simp only[m8];rw[kT r (acc|||kg k),kT r (0|||kg k),CE,jJ]
 |.pk _ _ _::r,acc=>by simp only[m8];exact kT r acc
theorem gJ:∀ (c:TC) (acc:Nat),c.asg acc=acc|||c.asg 0
 |.reg ops _,acc=>yc ops acc
 |.seq a b,acc=>by simp only[TC.asg];rw[gJ b (a.asg acc),gJ b (a.asg 0),gJ a acc,jJ]
 |.jseq A a b,acc=>by simp only[TC.asg];rw[gJ b (a.asg _),gJ b (a.asg (JH A.ks 0)),gJ a (JH A.ks acc),gJ a (JH A.ks 0),yr A.ks acc,jJ,jJ,jJ]
 |.cond _ a b,acc=>by simp only[TC.asg];rw[gJ b (a.asg acc),gJ b (a.asg 0),gJ a acc,jJ]
 |.block _ b,acc=>gJ b acc
 |.jblock A _ b,acc=>by simp only[TC.asg];rw[gJ b (JH A.ks acc),gJ b (JH A.ks 0),yr A.ks acc,jJ]
 |.loop A b,acc=>by simp only[TC.asg];rw[gJ b (JH A.ks acc),gJ b (JH A.ks 0),yr A.ks acc,jJ]
 |.defer _ _ t,acc=>by simp[TC.asg]
 |.adj l c,acc=>by simp only[TC.asg];rw[gJ c (m8 l acc),gJ c (m8 l 0),kT l acc,jJ]
 |.split _ _ _ _ c,acc=>gJ c acc
 |.unl _ b,acc=>gJ b acc
 |.skip,acc=>by simp[TC.asg]
 |.exit _,acc=>by simp[TC.asg]
 |.ret,acc=>by simp[TC.asg]
 |.bad,acc=>by simp[TC.asg]
theorem tY {c:TC} {acc k:Nat} (h:aG (c.asg 0) k=ajp):aG (c.asg acc) k=ajp:=by rw[gJ,bf,h];simp
theorem jy {c:TC} {acc k:Nat} (h:aG acc k=ajp):aG (c.asg acc) k=ajp:=by rw[gJ,bf,h];rfl
theorem Ut:∀ {l:List Nat} {acc k:Nat},k∈l->aG (JH l acc) k=ajp
 |[],_,_,h=>by cases h
 |x::r,acc,k,h=>by
  simp only[JH];rcases bc.1 h with rfl|h
  ·rw[yr,bf,bf,bK.2 rfl];simp
  ·exact Ut h
theorem Qu:∀ {l:List qU} {acc:Nat} {o:qU} {d:Nat},o∈l->o.dst=ajn d->aG (Nh l acc) d=ajp
 |[],_,_,_,h,_=>by cases h
 |x::r,acc,o,d,h,hd=>by
  simp only[Nh];rcases bc.1 h with rfl|h
  ·rw[hd];simp only[];rw[yc,bf,bf,bK.2 rfl];simp
  ·exact Qu h hd
theorem UB:∀ {e:gU} {ks:List Nat} {vs:List TV},mL e ks=ajn vs->vs.length=ks.length/\∀ (j k:Nat),ks[j]? =ajn k->∃ v,vs[j]? =ajn v/\e.get k=ajn v
 |e,[],vs,h=>by simp only[mL,aa] at h;subst h;exact⟨rfl,by simp⟩
 |e,k::r,vs,h=>by
  simp only[mL] at h;split at h
  ·rename_i v hv;split at h
   ·rename_i l hl;simp only[aa] at h;subst h;obtain⟨h1,J⟩:=UB hl;refine ⟨by simp[h1],λj I hj=>?_⟩;cases j with
    |zero=>simp at hj;subst hj;exact⟨v,rfl,hv⟩
    |succ j=>simpa using J j I (by simpa using hj)
   ·cases h
  ·cases h
theorem GG {e:gU} {h:aZ} (hi:rT e h):∀ {ks:List Nat} {vs:List TV},mL e ks=ajn vs->jT h vs=ajp
 |[],vs,hg=>by simp only[mL,aa] at hg;subst hg;rfl
 |k::r,vs,hg=>by
  simp only[mL] at hg;split at hg
  ·rename_i v hv;split at hg
   ·rename_i l hl;simp only[aa] at hg;subst hg;simp only[jT,aj];exact⟨hi k v hv,GG hi hl⟩
   ·cases hg
  ·cases hg
theorem AX:∀ {e:gU} {ks:List Nat} {vs:List TV},vs.length=ks.length->∀ t v,(Vk e ks vs).get t=ajn v->(∃ j:Nat,ks[j]? =ajn t/\vs[j]? =ajn v)\/(t∉ks/\e.get t=ajn v)
 |e,[],[],_,t,v,h=>.inr ⟨by simp,h⟩
 |e,[],_::_,hl,t,v,h=>by simp at hl
 |e,_::_,[],hl,t,v,h=>by simp at hl
 |e,k::r,u::l,hl,t,v,h=>by
  simp only[Vk,PT.get_set] at h;split at h
  ·rename_i J;subst J;cases h;exact .inl ⟨0,rfl,rfl⟩
  ·rename_i J;rcases AX (by simpa using hl) t v h with ⟨j,h1,I⟩|⟨h1,I⟩
   ·exact .inl ⟨j+1,by simpa using h1,by simpa using I⟩
   ·exact .inr ⟨by simp[J,h1],I⟩
theorem rZ {am:Nat} {e:gU}:∀ {ks:List Nat} {k:Nat} {v:TV},(Bv am e ks).get k=ajn v->k∈ks/\e.get k=ajn v/\sJ v=ajp/\aG am k=ajq
 |[],k,v,h=>by simp[Bv,PT.get] at h
 |x::r,k,v,h=>by
  simp only[Bv] at h;split at h
  ·rename_i u hu;split at h
   ·rename_i hc;simp only[aj,dC] at hc;rw[PT.get_set] at h;split at h
    ·rename_i J;subst J;cases h;exact⟨by simp,hu,hc.1,hc.2⟩
    ·obtain⟨h1,I⟩:=rZ h;exact⟨by simp[h1],I⟩
   ·obtain⟨h1,I⟩:=rZ h;exact⟨by simp[h1],I⟩
  ·obtain⟨h1,I⟩:=rZ h;exact⟨by simp[h1],I⟩
theorem G9 {am:Nat} {e0 e:gU}:∀ {ks:List Nat},FX am e0 e ks=ajp->∀ k v,k∈ks->e0.get k=ajn v->sJ v=ajp->aG am k=ajq->∃ J,e.get k=ajn J
 |[],_,k,v,h,_,_,_=>by cases h
 |x::r,hc,k,v,h,hv,hf,I=>by
  simp only[FX,aj] at hc;rcases bc.1 h with rfl|h
  ·have h1:=hc.1;rw[hv] at h1;simp only[hf,I,aY,Bool.false_or] at h1;cases M:e.get k with
   |none=>rw[M] at h1;cases h1
   |some u=>exact⟨u,rfl⟩
  ·exact G9 hc.2 k v h hv hf I
section walk
variable {P:Program} {E:Nat->Prop} {nt np:Nat}
theorem Pe {h:aZ} {v:TV} {y:AV} (hn:aa9 v=ajp) (I:bU h v=ajn y):Le y .emp:=by
 cases v with
 |nil=>simp only[bU,aa] at I;subst I;exact Le.nilEmp
 |emp=>simp only[bU,aa] at I;subst I;exact Le.refl _
 |_=>cases hn
theorem U6 {φ:PM} {s:TS} {a:Act} {w:World} (c:nD P E nt np φ s a w) (ty:TypeId) (T:Ty):nD P E nt np φ ⟨s.e,s.h.set s.nx (ajn (.rows ty ajp T [])),s.nx+1⟩ a w/\bi (s.h.set s.nx (ajn (.rows ty ajp T [])))=bi s.h/\bZ s.h (s.h.set s.nx (ajn (.rows ty ajp T []))):=by
 have hfr:=c.invH.fresh;have hr:bZ s.h (s.h.set s.nx (ajn (.rows ty ajp T []))):=bZ.set λr hr=>by rw[bD,hfr] at hr;cases hr
 have J:bi (s.h.set s.nx (ajn (.rows ty ajp T [])))=bi s.h:=by
  funext n;by_cases hn:n=nm s.nx
  ·subst hn;rw[bt,bt,PT.get_set,if_pos rfl,hfr];rfl
  ·refine jQ c.invH hr λi e=>?_
   subst e;rw[PT.get_set,if_neg (λe=>hn (by rw[e]))]
 refine ⟨⟨by rw[J];exact c.rep,?_,λn k hk=>yi (c.dom n k hk),gF c.low,c.invH.set hr (AG _) (Nat.le_succ _) (λ_ _ he=>by cases he),?_,c.inert,c.size⟩,J,hr⟩
 ·intro t x I;rw[J];simp only[eP] at I;cases he:s.e.get t with
  |none=>rw[he] at I;cases I
  |some q=>
   rw[he] at I;obtain⟨z,M⟩:=oU s.h q (c.invE t q he);simp only[aA,fE hr q z M,aa] at I;subst I;exact c.env t _ (by simp only[eP,he,aA,M])
 ·intro t x I;exact nl hr x (c.invE t x I)
theorem xp {h:aZ}:∀ {a b:List TV},jT h a=ajp->jT h b=ajp->jT h (a++b)=ajp
 |[],_,_,hb=>hb
 |x::r,b,I,hb=>by
  simp only[jT,aj] at I;simp only[fg,jT,aj];exact⟨I.1,xp I.2 hb⟩
theorem KN {h:aZ}:∀ {a:List TV} (n:Nat),jT h a=ajp->jT h (a.take n)=ajp
 |[],n,_=>by simp[jT]
 |x::r,0,_=>rfl
 |x::r,n+1,I=>by
  simp only[jT,aj] at I;simp only[uw,jT,aj];exact⟨I.1,KN n I.2⟩
theorem KP {h:aZ}:∀ {a:List TV} (n:Nat),jT h a=ajp->jT h (a.drop n)=ajp
 |[],n,_=>by simp[jT]
 |x::r,0,I=>I
 |x::r,n+1,I=>by
  simp only[jT,aj] at I;simp only[ux];exact KP n I.2
theorem xj {α:Type} {l:List α} {j:Nat} {x:α} (h:l[j]? =ajn x):splice l j [x]=l:=by
 have hl:j<l.length:=by
  rcases bI j l.length with h'|h'
  ·exact h'
  ·rw[bB h'] at h;cases h
 rw[ar hl,aa] at h;unfold splice;subst h;simp
theorem Za {φ:PM} {s:TS} {a:Act} {w:World} (c:nD P E nt np φ s a w) {id cty j:Nat} {l:List TV} {v u:TV} (hb:s.h.get id=ajn (.cells cty l)) (hv:l[j]? =ajn v) (hn:aa9 v=ajp) (hu:bU s.h u=ajn .emp) (huo:JE s.h u=ajp):
 nD P E nt np φ ⟨s.e,s.h.set id (ajn (.cells cty (splice l j [u]))),s.nx⟩ a w/\AK np φ φ (bi s.h) (bi (s.h.set id (ajn (.cells cty (splice l j [u]))))) w w:=by
 have hr:bZ s.h (s.h.set id (ajn (.cells cty (splice l j [u])))):=bZ.set λr hr=>by rw[bD,hb] at hr;cases hr
 have hlo:=c.invH.cells id cty l hb;obtain⟨J,M⟩:=eJ s.h l hlo;have hsp:cj s.h (splice l j [u])=ajn (splice J j [.emp]):=tQ j M (by simp only[cj,hu]);have hsp':cj (s.h.set id (ajn (.cells cty (splice l j [u])))) (splice l j [u])=ajn (splice J j [.emp]):=ic hr _ _ hsp;obtain⟨y,hy,hey⟩:=kR M j v hv;have hold:bi s.h (nm id)=ajn ⟨cty,.mx J⟩:=by rw[bt,hb];simp only[aA,jR,M]
 have hnew:bi (s.h.set id (ajn (.cells cty (splice l j [u])))) (nm id)=ajn ⟨cty,.mx (splice J j [.emp])⟩:=by
  rw[bt,PT.get_set,if_pos rfl];simp only[aA,jR,hsp']
 have hoth:∀ n,n≠nm id->bi (s.h.set id (ajn (.cells cty (splice l j [u])))) n=bi s.h n:=λn Z=>by
  refine jQ c.invH hr λi e=>?_
  subst e;rw[PT.get_set,if_neg (λe=>Z (by rw[e]))]
 have hdom:tZ (bi s.h) (bi (s.h.set id (ajn (.cells cty (splice l j [u]))))):=λn b U=>by
  by_cases e:n=nm id
  ·subst e;exact⟨_,hold⟩
  ·rw[hoth n e] at U;exact⟨b,U⟩
 have hcell:∀ x∈J,x.isCell=ajp:=λx I=>by
  obtain⟨k,hk⟩:=dW I;obtain⟨q,_,_,hat⟩:=c.rep.at_ _ _ hold;unfold Vf at hat;obtain⟨ob,_,hob⟩:=hat;rw[oA rfl] at hob;obtain⟨arr,_,hca⟩:=hob;exact (hca.2 k x hk).1
 have hV:I5 (bi s.h) (bi (s.h.set id (ajn (.cells cty (splice l j [u]))))):=⟨hdom,λn b b' h1 Y=>by
  by_cases e:n=nm id
  ·subst e;rw[hold] at h1;cases h1;rw[hnew] at Y;cases Y;refine jz.cells rfl rfl ?_ λx I=>?_
   ·show gr _ _ J (splice J j [.emp]);have:=gr.splice j (gr.refl hdom J) (b:=[y]) (b':=[.emp]) ⟨(Pe hn hey).toH hdom,trivial⟩;rw[xj hy] at this;exact this
   ·have I:x∈splice J j [.emp]:=I;unfold splice at I;rw[bE,bE,aF] at I;rcases I with (I|I)|I
    ·exact hcell x (ir I)
    ·subst I;rfl
    ·exact hcell x (List.mem_of_mem_drop I)
  ·rw[hoth n e,h1] at Y;cases Y;exact jz.refl hdom b⟩
 refine ⟨⟨hV.rep c.rep,?_,c.dom,c.low,c.invH.set hr (c.invH.low id _ hb) (bF _) (λty l2 he=>?_),?_,c.inert,c.size⟩,⟨Jj.refl _ _,λk _ ho=>hdom.own ho,λ_ _=>rfl⟩⟩
 ·intro t x I;simp only[eP] at I;cases he:s.e.get t with
  |none=>rw[he] at I;cases I
  |some q=>
   rw[he] at I;obtain⟨z,hz⟩:=oU s.h q (c.invE t q he);simp only[aA,fE hr q z hz,aa] at I;subst I;exact (c.env t _ (by simp only[eP,he,aA,hz])).dom hdom
 ·simp only[gC.cells.injEq] at he;obtain⟨_,rfl⟩:=he;refine hX hr _ ?_;unfold splice;exact xp (xp (KN _ hlo) (by simp only[jT,huo,jM])) (KP _ hlo)
 ·intro t x I;exact nl hr x (c.invE t x I)
theorem nD.congr {φ:PM} {s s':TS} {a:Act} {w:World} (c:nD P E nt np φ s a w) (he:∀ t,s'.e.get t=s.e.get t) (hh:∀ i,s'.h.get i=s.h.get i) (hn:s'.nx=s.nx):nD P E nt np φ s' a w/\bi s'.h=bi s.h:=by
 have hr:bZ s.h s'.h:=λi r hi=>by rw[bD] at hi ⊢;rw[hh];exact hi
 have J:bi s'.h=bi s.h:=by funext n;exact jQ c.invH hr λi _=>hh i
 refine ⟨⟨by rw[J];exact c.rep,?_,by rw[hn];exact c.dom,by rw[hn];exact c.low,⟨λi ty l hg=>?_,λi b hg=>?_⟩,λt v hv=>?_,c.inert,c.size⟩,J⟩
 ·intro t x I;rw[J];simp only[eP,he] at I;cases hg:s.e.get t with
  |none=>rw[hg] at I;cases I
  |some v=>
   rw[hg] at I;obtain⟨z,M⟩:=oU s.h v (c.invE t v hg);simp only[aA,fE hr v z M,aa] at I;subst I;exact c.env t _ (by simp only[eP,hg,aA,M])
 ·rw[hh] at hg;exact hX hr l (c.invH.cells i ty l hg)
 ·rw[hh] at hg;rw[hn];exact c.invH.low i b hg
 ·rw[he] at hv;exact nl hr v (c.invE t v hv)
theorem NT {R:Type} {v:Int} {f:Nat->Option R} {r:R}:∀ {m i:Nat},spl v f i m=ajn r->∃ j,v=aJ j/\f j=ajn r
 |0,i,h=>by cases h
 |m+1,i,h=>by
  simp only[spl] at h;rcases ov h with ⟨h1,I⟩|⟨_,I⟩
  ·exact⟨i,of_decide_eq_true h1,I⟩
  ·exact NT I
theorem XM {φ:PM} {s s':TS} {a:Act} {w:World} (c:nD P E nt np φ s a w) {k off:Nat} {kd:IntKind} {v:Int} (h1:Yi s k off=ajn (kd,v)) (I:Rq s k off kd v=ajn s'):nD P E nt np φ s' a w/\bi s'.h=bi s.h/\∀ t,s'.e.get t=s.e.get t:=by
 unfold Yi at h1;unfold Rq at I;cases hk:s.e.get k with
 |none=>rw[hk] at h1;cases h1
 |some x=>
  rw[hk] at h1 I;cases x with
  |f T q=>
   cases T with
   |int kd'=>
    simp only[aa,aw] at h1;obtain⟨rfl,rfl⟩:=h1;simp only[aa] at I;subst I;have he:∀ t,(s.e.set k (ajn (.f (.int kd') q))).get t=s.e.get t:=λt=>by
     rw[PT.get_set];split
     ·rename_i e;subst e;exact hk.symm
     ·rfl
    obtain⟨M,J⟩:=c.congr (s':=⟨s.e.set k (ajn (.f (.int kd') q)),s.h,s.nx⟩) he (λ_=>rfl) rfl;exact⟨M,J,he⟩
   |_=>cases h1
  |ptr a0 o0=>
   simp only[] at h1 I;cases hb:s.h.get a0 with
   |none=>rw[hb] at h1;cases h1
   |some b=>
    rw[hb] at h1 I;cases b with
    |cells ty l=>
     simp only[] at h1 I;cases hl:l[o0+off]? with
     |none=>rw[hl] at h1;cases h1
     |some y=>
      rw[hl] at h1;cases y with
      |f T q=>
       cases T with
       |int kd'=>
        simp only[aa,aw] at h1;obtain⟨rfl,rfl⟩:=h1;simp only[aa] at I;subst I;have hh:∀ i,(s.h.set a0 (ajn (.cells ty (splice l (o0+off) [.f (.int kd') q])))).get i=s.h.get i:=λi=>by
         rw[PT.get_set];split
         ·rename_i e;subst e;rw[hb,xj hl]
         ·rfl
        obtain⟨M,J⟩:=c.congr (s':=⟨s.e,s.h.set a0 (ajn (.cells ty (splice l (o0+off) [.f (.int kd') q]))),s.nx⟩) (λ_=>rfl) hh rfl;exact⟨M,J,λ_=>rfl⟩
       |_=>cases h1
      |_=>cases h1
    |_=>cases h1
  |_=>cases h1
mutual
theorem KC (id sz n:Nat):∀ v:TV,sJ v=ajp->Jw id sz n v=v
 |.f _ _,_=>rfl
 |.fel _ _ _ _ _,_=>rfl
 |.emp,_=>rfl
 |.nil,_=>rfl
 |.undef,_=>rfl
 |.np,_=>rfl
 |.anyb,_=>rfl
 |.agg l,h=>by simp only[Jw];rw[zO id sz n l h]
 |.tup l,h=>by simp only[Jw];rw[zO id sz n l h]
 |.pel _ _ _ _,h=>by cases h
 |.ptr _ _,h=>by cases h
 |.csl _ _ _,h=>by cases h
 |.row _,h=>by cases h
 |.rtl _ _,h=>by cases h
 |.mp _,h=>by cases h
 |.clo _ _,h=>by cases h
theorem zO (id sz n:Nat):∀ l:List TV,ph l=ajp->AT id sz n l=l
 |[],_=>rfl
 |x::r,h=>by
  simp only[ph,aj] at h;simp only[AT];rw[KC id sz n x h.1,zO id sz n r h.2]
end
section subs
variable {id sz n:Nat} {h h':aZ}
mutual
theorem LV (hr:bZ h h') (hid:dE h' id=ajn (ajq,sz,n)):∀ (v:TV) (y:AV),bU h v=ajn y->bU h' (Jw id sz n v)=ajn y
 |.csl i s m,y,he=>by
  simp only[bU,aa] at he;subst he;simp only[Jw];split
  ·rename_i hq;simp only[aj] at hq;have e1:=ak hq.1.1;have e2:=ak hq.1.2;have e3:=ak hq.2;subst e1;subst e2;subst e3;simp only[bU,hid,eo,mn,b8,if_false]
  ·rfl
 |.agg l,y,he=>by
  simp only[bU] at he;cases hl:cj h l with
  |none=>rw[hl] at he;cases he
  |some l'=>rw[hl] at he;simp only[Jw,bU,uB hr hid l l' hl];exact he
 |.tup l,y,he=>by
  simp only[bU] at he;cases hl:cj h l with
  |none=>rw[hl] at he;cases he
  |some l'=>rw[hl] at he;simp only[Jw,bU,uB hr hid l l' hl];exact he
 |.clo g l,y,he=>by
  simp only[bU] at he;cases hl:cj h l with
  |none=>rw[hl] at he;cases he
  |some l'=>rw[hl] at he;simp only[Jw,bU,uB hr hid l l' hl];exact he
 |.f T v,y,he=>fE hr _ _ he
 |.fel T xs j hj off,y,he=>fE hr _ _ he
 |.pel _ _ _ _,y,he=>fE hr _ _ he
 |.ptr _ _,y,he=>fE hr _ _ he
 |.row _,y,he=>fE hr _ _ he
 |.rtl _ _,y,he=>fE hr _ _ he
 |.emp,y,he=>fE hr _ _ he
 |.nil,y,he=>fE hr _ _ he
 |.mp _,y,he=>fE hr _ _ he
 |.undef,y,he=>fE hr _ _ he
 |.np,y,he=>fE hr _ _ he
 |.anyb,y,he=>fE hr _ _ he
theorem uB (hr:bZ h h') (hid:dE h' id=ajn (ajq,sz,n)):∀ (l:List TV) (l':List AV),cj h l=ajn l'->cj h' (AT id sz n l)=ajn l'
 |[],l',he=>by simp only[cj,aa] at he;subst he;rfl
 |x::r,l',he=>by
  obtain⟨y,l2,rfl,h1,h2⟩:=cB he;simp only[AT];exact nQ (LV hr hid x y h1) (uB hr hid r l2 h2)
end
end subs
theorem ah0 {φ:PM} {s:TS} {a:Act} {w:World} (c:nD P E nt np φ s a w) {T:Ty} {id sz n:Nat} {s':TS} (hp:pkS s T id sz n=ajn s'):nD P E nt np φ s' a w/\AK np φ φ (bi s.h) (bi s'.h) w w/\fm 0 s.e s'.e:=by
 unfold pkS at hp;split at hp
 ·rename_i ty l hb;split at hp
  ·rename_i hs;have hs:=ak hs;subst hs;split at hp
   ·rename_i xs m hpk;split at hp
    ·cases hp
    ·rename_i hmid;simp only[aa] at hp;subst hp;have hm:dl s.h m:=L2 n l xs m hpk;obtain⟨l',hl⟩:=eJ s.h l (c.invH.cells id ty l hb);have hidlt:=c.invH.low id _ hb;have mL:∀ i,((PT.updI (λ_ b=>Vi id T.size n b) 1 0 (dM m s.h)).set id (ajn (.rows ty ajq T xs))).get i=if i=id then ajn (.rows ty ajq T xs) else if aG m i then (s.h.get i).map tK else (s.h.get i).map (Vi id T.size n):=λi=>by
      rw[PT.get_set];by_cases e:i=id
      ·rw[if_pos e,if_pos e]
      ·rw[if_neg e,if_neg e,PT.get_updI,ib];split
       ·cases hg:s.h.get i with
        |none=>rfl
        |some b=>cases b<;>rfl
       ·rfl
     generalize hH2:((PT.updI (λ_ b=>Vi id T.size n b) 1 0 (dM m s.h)).set id (ajn (.rows ty ajq T xs)))=h2 at mL ⊢;have hr:bZ s.h h2:=λi r hi=>by
      rw[bD] at hi ⊢;rw[mL];by_cases e:i=id
      ·subst e;rw[hb] at hi;cases hi
      ·rw[if_neg e];cases hg:s.h.get i with
       |none=>rw[hg] at hi;cases hi
       |some b=>
        rw[hg] at hi;split
        ·exact KJ hi
        ·cases b<;>first|exact hi|cases hi
     have hnone:∀ i,aG m i=ajp->bi h2 (nm i)=ajo:=λi hi=>by
      have e:i≠id:=λe=>by subst e;exact hmid hi
      obtain⟨ty',p',T',xs',J⟩:=hm i hi;rw[bt,mL,if_neg e,if_pos hi,J];rfl
     have hdom:tZ (bi s.h) (bi h2):=λq b hq=>by
      obtain⟨i,cc,rfl,I,h4⟩:=iG hq;rw[bt];rw[mL] at I;by_cases e:i=id
      ·subst e;rw[hb];simp only[aA,jR,hl];exact⟨_,rfl⟩
      ·rw[if_neg e] at I;cases hg:s.h.get i with
       |none=>rw[hg] at I;split at I<;>cases I
       |some b0=>
        rw[hg] at I;split at I
        ·simp only[bO,aa] at I;subst I;cases b0<;>simp[tK,jR] at h4
        ·simp only[bO,aa] at I;subst I;simp only[aA];cases b0 with
         |cells ty0 l0=>
          obtain⟨l0',U⟩:=eJ s.h l0 (c.invH.cells i ty0 l0 hg);exact⟨⟨ty0,.mx l0'⟩,by simp only[jR,U]⟩
         |rows=>exact⟨_,h4⟩
         |dead=>exact⟨_,h4⟩
         |mp=>exact⟨_,h4⟩
     have giv:CH s.h (bi s.h) (bi h2) m:=λi hi=>⟨rfl,hnone i hi⟩
     obtain⟨hle,hlen⟩:=Bj hdom n l xs m l' hpk hl giv;have hrow:dE h2 id=ajn (ajq,T.size,n):=by rw[bD,mL,if_pos rfl,<-hlen];rfl
     have hV:I5 (bi s.h) (bi h2):=⟨hdom,λq b b' I h4=>by
      obtain⟨i,cc,rfl,Z,h6⟩:=iG h4;rw[bt] at I;rw[mL] at Z;by_cases e:i=id
      ·subst e;rw[if_pos rfl] at Z;cases Z;rw[hb] at I;simp only[aA,jR,hl,aa] at I;subst I;simp only[jR,mn,b8,if_false,aa] at h6;subst h6;refine jz.cells rfl rfl hle λx J=>?_
       simp only[BC.toMx] at J;obtain⟨q,hq,rfl⟩:=cO.1 J;exact qj T _ q hq
      ·rw[if_neg e] at Z;cases hg:s.h.get i with
       |none=>rw[hg] at Z;split at Z<;>cases Z
       |some b0=>
        rw[hg] at Z I;split at Z
        ·simp only[bO,aa] at Z;subst Z;cases b0<;>simp[tK,jR] at h6
        ·simp only[bO,aa] at Z;subst Z;have:b=b':=by
          simp only[aA] at I;cases b0 with
          |cells ty0 l0=>
           obtain⟨l0',U⟩:=eJ s.h l0 (c.invH.cells i ty0 l0 hg);simp only[jR,U,aa] at I;simp only[Vi,jR,uB hr hrow l0 l0' U,aa] at h6;rw[<- I,<-h6]
          |rows ty1 p1 T1 xs1=>
           have h3':jR h2 (.rows ty1 p1 T1 xs1)=ajn b:=I;exact jd (h3'.symm.trans h6)
          |dead p1 s1 n1=>
           have h3':jR h2 (.dead p1 s1 n1)=ajn b:=I;exact jd (h3'.symm.trans h6)
          |mp K1 V1 es1=>
           have h3':jR h2 (.mp K1 V1 es1)=ajn b:=I;exact jd (h3'.symm.trans h6)
         subst this;exact jz.refl hdom b⟩
     refine ⟨⟨hV.rep c.rep,?_,c.dom,c.low,⟨λi ty' l2 hg=>?_,λi b hg=>?_⟩,?_,c.inert,c.size⟩,⟨Jj.refl _ _,λk _ hk=>hdom.own hk,λ_ _=>rfl⟩,?_⟩
     ·intro t x J;simp only[eP,PT.get_updI] at J;cases he:s.e.get t with
      |none=>rw[he] at J;cases J
      |some v=>
       rw[he] at J;obtain⟨z,hz⟩:=oU s.h v (c.invE t v he);simp only[bO,aA,LV hr hrow v z hz,aa] at J;subst J;exact (c.env t _ (by simp only[eP,he,aA,hz])).dom hdom
     ·rw[mL] at hg;by_cases e:i=id
      ·rw[if_pos e] at hg;cases hg
      ·rw[if_neg e] at hg;cases Y:s.h.get i with
       |none=>rw[Y] at hg;split at hg<;>cases hg
       |some b0=>
        rw[Y] at hg;split at hg
        ·simp only[bO,aa] at hg;cases b0<;>simp[tK] at hg
        ·simp only[bO,aa] at hg;cases b0 with
         |cells ty0 l0=>
          simp only[Vi,gC.cells.injEq] at hg;obtain⟨_,rfl⟩:=hg;obtain⟨l0',U⟩:=eJ s.h l0 (c.invH.cells i ty0 l0 Y);exact kz _ _ _ (uB hr hrow l0 l0' U)
         |_=>cases hg
     ·rw[mL] at hg;by_cases e:i=id
      ·subst e;exact hidlt
      ·rw[if_neg e] at hg;cases Y:s.h.get i with
       |none=>rw[Y] at hg;split at hg<;>cases hg
       |some b0=>exact c.invH.low i b0 Y
     ·intro t x J;simp only[PT.get_updI] at J;cases he:s.e.get t with
      |none=>rw[he] at J;cases J
      |some v=>
       rw[he] at J;simp only[bO,aa] at J;subst J;obtain⟨z,hz⟩:=oU s.h v (c.invE t v he);exact Dq _ _ _ (LV hr hrow v z hz)
     ·intro k _ v' M;simp only[PT.get_updI] at M;cases he:s.e.get k with
      |none=>rw[he] at M;cases M
      |some v=>
       rw[he] at M;simp only[bO,aa] at M;subst M;exact⟨v,rfl,λhf=>KC _ _ _ v hf⟩
   ·cases hp
  ·cases hp
 ·cases hp
theorem agv {φ:PM} {s:TS} {a:Act} {w:World} (c:nD P E nt np φ s a w) {k off:Nat} {s':TS} (h:Nl s (.ren k off)=ajn s'):∃ φ',nD P E nt np φ' s' a w/\AK np φ φ' (bi s.h) (bi s'.h) w w/\fm (m8 [.ren k off] 0) s.e s'.e:=by
 simp only[Nl] at h;split at h
 ·rename_i b o hk;split at h
  ·rename_i cty l hb;split at h
   ·rename_i id hv;split at h
    ·rename_i ty p T xs M;simp only[aa] at h;subst h;have hfr:=c.invH.fresh;have hidlt:=c.invH.low id _ M;have hblt:=c.invH.low b _ hb;have hbid:b≠id:=λe=>by rw[e,M] at hb;cases hb
     have hbn:b≠s.nx:=by omega
     have hin:id≠s.nx:=by omega
     generalize hh2:(((s.h.set id (ajn (.dead p T.size xs.length))).set s.nx (ajn (.rows ty p T xs))).set b (ajn (.cells cty (splice l (o+off) [.row s.nx]))))=J;have mL:∀ i,J.get i=if i=b then ajn (.cells cty (splice l (o+off) [.row s.nx])) else if i=s.nx then ajn (.rows ty p T xs) else if i=id then ajn (.dead p T.size xs.length) else s.h.get i:=λi=>by
      rw[<- hh2,PT.get_set,PT.get_set,PT.get_set]
     have hr:bZ s.h J:=λi r hi=>by
      rw[bD] at hi ⊢;rw[mL];by_cases e1:i=b
      ·subst e1;rw[hb] at hi;cases hi
      ·rw[if_neg e1];by_cases e2:i=s.nx
       ·subst e2;rw[hfr] at hi;cases hi
       ·rw[if_neg e2];by_cases e3:i=id
        ·subst e3;rw[if_pos rfl];rw[M] at hi;exact hi
        ·rw[if_neg e3];exact hi
     have hlo:=c.invH.cells b cty l hb;obtain⟨l',hl'⟩:=eJ s.h l hlo;have hrow:bU J (.row s.nx)=ajn (eo p s.nx T.size xs.length):=by
      simp only[bU,bD,mL];rw[if_neg hbn.symm];simp only[if_true,aA,lE]
     have hsp:cj J (splice l (o+off) [.row s.nx])=ajn (splice l' (o+off) [eo p s.nx T.size xs.length]):=tQ _ (ic hr _ _ hl') (by simp only[cj,hrow]);obtain⟨y,hy,hey⟩:=kR hl' _ _ hv;have hy0:y=eo p id T.size xs.length:=by
      simp only[bU,bD,M,aA,lE,aa] at hey;exact hey.symm
     subst hy0;have hold:bi s.h (nm b)=ajn ⟨cty,.mx l'⟩:=by rw[bt,hb];simp only[aA,jR,hl']
     have hnew:bi J (nm b)=ajn ⟨cty,.mx (splice l' (o+off) [eo p s.nx T.size xs.length])⟩:=by
      rw[bt,mL,if_pos rfl];simp only[aA,jR,hsp]
     have hdead:bi J (nm id)=ajo:=by rw[bt,mL,if_neg hbid.symm,if_neg hin,if_pos rfl];rfl
     have hnx2:bi J (nm s.nx)=if p&&xs.length==0 then ajo else ajn ⟨ty,.fz (xs.flatMap (bC T))⟩:=by rw[bt,mL,if_neg hbn.symm,if_pos rfl];rfl
     have hid0:bi s.h (nm id)=if p&&xs.length==0 then ajo else ajn ⟨ty,.fz (xs.flatMap (bC T))⟩:=by rw[bt,M];rfl
     have hoth:∀ n,n≠nm b->n≠nm s.nx->n≠nm id->bi J n=bi s.h n:=λn e1 e2 e3=>jQ c.invH hr λi e=>by
      subst e;rw[mL,if_neg (λe=>e1 (by rw[e])),if_neg (λe=>e2 (by rw[e])),if_neg (λe=>e3 (by rw[e]))]
     have hnb:nm b≠nm s.nx:=λe=>hbn (jU e)
     have hbi:nm b≠nm id:=λe=>hbid (jU e)
     have hni:nm s.nx≠nm id:=λe=>hin (jU e).symm
     have hinv:kU J (s.nx+1):=by
      refine ⟨λi ty2 l2 hil=>?_,λi q hiq=>?_⟩
      ·rw[mL] at hil;split at hil
       ·simp only[aa,gC.cells.injEq] at hil;obtain⟨_,rfl⟩:=hil;exact kz _ _ _ hsp
       ·split at hil
        ·cases hil
        ·split at hil
         ·cases hil
         ·exact hX hr l2 (c.invH.cells i ty2 l2 hil)
      ·rw[mL] at hiq;split at hiq
       ·omega
       ·split at hiq
        ·omega
        ·split at hiq
         ·omega
         ·have:=c.invH.low i q hiq;omega
     have hE:∀ t x,eP s.e J t=ajn x->eP s.e s.h t=ajn x:=λt x I=>by
      simp only[eP] at I ⊢;cases he:s.e.get t with
      |none=>rw[he] at I;cases I
      |some q=>
       rw[he] at I;obtain⟨z,hz⟩:=oU s.h q (c.invE t q he);simp only[aA,fE hr q z hz,aa] at I;subst I;simp only[aA,hz]
     by_cases hp:(p&&xs.length==0)=ajp
     ·
      have Z:bi J=bi s.h:=by
       funext n;by_cases e1:n=nm b
       ·subst e1;rw[hold,hnew];have:eo p s.nx T.size xs.length=eo p id T.size xs.length:=by unfold eo;rw[if_pos hp,if_pos hp]
        rw[this,xj hy]
       ·by_cases e2:n=nm s.nx
        ·subst e2;rw[hnx2,if_pos hp,bt,hfr];rfl
        ·by_cases e3:n=nm id
         ·subst e3;rw[hdead,hid0,if_pos hp]
         ·exact hoth n e1 e2 e3
      refine ⟨φ,⟨by rw[Z];exact c.rep,λt x I=>by rw[Z];exact c.env t x (hE t x I),λn q hq=>yi (c.dom n q hq),gF c.low,hinv,λt x I=>nl hr x (c.invE t x I),c.inert,c.size⟩,by rw[Z];exact AK.refl _ _ _ _,fm.refl _ _⟩
     ·have hid1:bi s.h (nm id)=ajn ⟨ty,.fz (xs.flatMap (bC T))⟩:=by rw[hid0,if_neg hp]
      obtain⟨kk,k1,k2,ob,k3,k4⟩:=c.rep.at_ _ _ hid1;have hφn:φ (nm s.nx)=ajo:=by
       cases hq:φ (nm s.nx) with
       |none=>rfl
       |some q=>have:=c.dom _ q hq;rw[dz] at this;omega
      let nw:HF:=λn=>if n=nm s.nx then ajn ⟨ty,.fz (xs.flatMap (bC T))⟩ else ajo
      have hsh:DL w w kk ob:=⟨rfl,rfl,rfl,rfl,k3,λ_ _=>rfl,λ_=>rfl⟩
      obtain⟨φ',p1,p2,p3,p4⟩:=c.rep.wren hid1 k1 hφn hsh k4 nw (by simp[nw]) (by simp only[nw];rw[if_neg hni.symm]);have hb1:dQ (bi s.h) [nm s.nx,nm id] nw (nm b)=ajn ⟨cty,.mx l'⟩:=by
       unfold dQ;rw[if_neg (by simp[hnb,hbi]),hold]
      obtain⟨kb,b1,b2,ob2,b3,b4⟩:=p4.at_ _ _ hb1;have hlt:o+off<l'.length:=by
       rcases bI (o+off) l'.length with h'|h'
       ·exact h'
       ·rw[bB h'] at hy;cases hy
      have hob:iE φ' (tot E φ' (dQ (bi s.h) [nm s.nx,nm id] nw)) w ⟨cty,.mx (splice l' (o+off) [eo p s.nx T.size xs.length])⟩ ob2:=by
       rw[oA rfl] at b4 ⊢;obtain⟨arr,a1,a2⟩:=b4;refine ⟨arr,a1,?_⟩;unfold t7 at a2 ⊢;refine ⟨by simp only[BC.len] at a2 ⊢;rw[nh (by simp;omega)];exact a2.1,λj x I=>?_⟩;simp only[BC.get] at I a2;rw[lD (by simp;omega)] at I;split at I
       ·exact a2.2 j x I
       ·split at I
        ·rename_i h3 U;simp only[fw] at U;have hj:j=o+off:=by omega
         subst hj;simp only[Nat.sub_self,pF,aa] at I;subst I;obtain⟨_,v,a3,a4⟩:=a2.2 _ _ hy;unfold eo at a4 ⊢;rw[if_neg hp] at a4 ⊢;refine ⟨rfl,v,a3,?_⟩;cases a4 with
         |@row _ _ _ cc q hφq hn hc hs2=>
          have:=p2.sub _ _ k1;rw[this,aa] at hφq;subst hφq;exact .row p1 hn hc hs2
        ·exact a2.2 j x I
      obtain⟨q1,q2⟩:=p4.wset hb1 b1 (⟨rfl,rfl,rfl,rfl,b3,λ_ _=>rfl,λ_=>rfl⟩:DL w w kb ob2) hob (λn=>if n=nm b then ajn ⟨cty,.mx (splice l' (o+off) [eo p s.nx T.size xs.length])⟩ else ajo) (by simp);have Z:dQ (dQ (bi s.h) [nm s.nx,nm id] nw) [nm b] (λn=>if n=nm b then ajn ⟨cty,.mx (splice l' (o+off) [eo p s.nx T.size xs.length])⟩ else ajo)=bi J:=by
       funext n;by_cases e1:n=nm b
       ·subst e1;rw[hnew];simp[dQ]
       ·by_cases e2:n=nm s.nx
        ·subst e2;rw[hnx2,if_neg hp];simp[dQ,nw,hnb.symm]
        ·by_cases e3:n=nm id
         ·subst e3;rw[hdead];simp[dQ,nw,hbi.symm,hni.symm]
         ·rw[hoth n e1 e2 e3];simp[dQ,e1,e2,e3]
      rw[Z] at q1 q2;have m:=p2.trans q1;refine ⟨φ',⟨q2,λt x I=>m.keep (c.env t x (hE t x I)),λn q hq=>?_,gF c.low,hinv,λt x I=>nl hr x (c.invE t x I),c.inert,c.size⟩,⟨Jj.refl _ _,m.own_,λi hi=>?_⟩,fm.refl _ _⟩
      ·rcases p3 n q hq with U|U
       ·exact yi (c.dom n q U)
       ·simp only[aF] at U;subst U;rw[dz];exact AG _
      ·cases hq:φ' (nm i) with
       |none=>
        cases hq2:φ (nm i) with
        |none=>rfl
        |some z=>rw[p2.sub _ _ hq2] at hq;cases hq
       |some z=>
        rcases p3 _ _ hq with U|U
        ·exact U.symm
        ·simp only[aF] at U;have:=jU U;have:=c.low;omega
    ·cases h
   ·cases h
  ·cases h
 ·rename_i id hk;split at h
  ·rename_i ty p T xs M;simp only[aa] at h;subst h;have hfr:=c.invH.fresh;have hidlt:=c.invH.low id _ M;have hin:id≠s.nx:=by omega
   generalize hh2:((s.h.set id (ajn (.dead p T.size xs.length))).set s.nx (ajn (.rows ty p T xs)))=J;have mL:∀ i,J.get i=if i=s.nx then ajn (.rows ty p T xs) else if i=id then ajn (.dead p T.size xs.length) else s.h.get i:=λi=>by
    rw[<- hh2,PT.get_set,PT.get_set]
   have hr:bZ s.h J:=λi r hi=>by
    rw[bD] at hi ⊢;rw[mL];by_cases e2:i=s.nx
    ·subst e2;rw[hfr] at hi;cases hi
    ·rw[if_neg e2];by_cases e3:i=id
     ·subst e3;rw[if_pos rfl];rw[M] at hi;exact hi
     ·rw[if_neg e3];exact hi
   have hrow:bU J (.row s.nx)=ajn (eo p s.nx T.size xs.length):=by
    simp only[bU,bD,mL,if_true,aA,lE]
   have hrow0:bU s.h (.row id)=ajn (eo p id T.size xs.length):=by
    simp only[bU,bD,M,aA,lE]
   have hdead:bi J (nm id)=ajo:=by rw[bt,mL,if_neg hin,if_pos rfl];rfl
   have hnx2:bi J (nm s.nx)=if p&&xs.length==0 then ajo else ajn ⟨ty,.fz (xs.flatMap (bC T))⟩:=by rw[bt,mL,if_pos rfl];rfl
   have hid0:bi s.h (nm id)=if p&&xs.length==0 then ajo else ajn ⟨ty,.fz (xs.flatMap (bC T))⟩:=by rw[bt,M];rfl
   have hoth:∀ n,n≠nm s.nx->n≠nm id->bi J n=bi s.h n:=λn e2 e3=>jQ c.invH hr λi e=>by
    subst e;rw[mL,if_neg (λe=>e2 (by rw[e])),if_neg (λe=>e3 (by rw[e]))]
   have hni:nm s.nx≠nm id:=λe=>hin (jU e).symm
   have hinv:kU J (s.nx+1):=by
    refine ⟨λi ty2 l2 hil=>?_,λi q hiq=>?_⟩
    ·rw[mL] at hil;split at hil
     ·cases hil
     ·split at hil
      ·cases hil
      ·exact hX hr l2 (c.invH.cells i ty2 l2 hil)
    ·rw[mL] at hiq;split at hiq
     ·omega
     ·split at hiq
      ·omega
      ·have:=c.invH.low i q hiq;omega
   have hE:∀ t x,t≠k->eP (s.e.set k (ajn (.row s.nx))) J t=ajn x->eP s.e s.h t=ajn x:=λt x ht I=>by
    simp only[eP,PT.get_set] at I ⊢;rw[if_neg ht] at I;cases he:s.e.get t with
    |none=>rw[he] at I;cases I
    |some q=>
     rw[he] at I;obtain⟨z,hz⟩:=oU s.h q (c.invE t q he);simp only[aA,fE hr q z hz,aa] at I;subst I;simp only[aA,hz]
   have hIE:rT (s.e.set k (ajn (.row s.nx))) J:=λt x I=>by
    simp only[PT.get_set] at I;split at I
    ·cases I;exact Dq _ _ _ hrow
    ·exact nl hr x (c.invE t x I)
   have hKp:fm (m8 [.ren k off] 0) s.e (s.e.set k (ajn (.row s.nx))):=λt ht v' hv'=>by
    simp only[PT.get_set] at hv';split at hv'
    ·rename_i et;subst et;simp only[m8] at ht;rw[bf,bK.2 rfl] at ht;simp at ht
    ·exact⟨v',hv',λ_=>rfl⟩
   have Y:=c.env k (eo p id T.size xs.length) (by simp only[eP,hk,aA,hrow0]);by_cases hp:(p&&xs.length==0)=ajp
   ·have Z:bi J=bi s.h:=by
     funext n;by_cases e2:n=nm s.nx
     ·subst e2;rw[hnx2,if_pos hp,bt,hfr];rfl
     ·by_cases e3:n=nm id
      ·subst e3;rw[hdead,hid0,if_pos hp]
      ·exact hoth n e2 e3
    have hsame:eo p s.nx T.size xs.length=eo p id T.size xs.length:=by unfold eo;rw[if_pos hp,if_pos hp]
    refine ⟨φ,⟨by rw[Z];exact c.rep,λt x I=>?_,λn q hq=>yi (c.dom n q hq),gF c.low,hinv,hIE,c.inert,c.size⟩,by rw[Z];exact AK.refl _ _ _ _,hKp⟩;rw[Z];by_cases ht:t=k
    ·subst ht;simp only[eP,PT.get_set,if_true,aA,hrow,aa] at I;subst I;rw[hsame];exact Y
    ·exact c.env t x (hE t x ht I)
   ·have hid1:bi s.h (nm id)=ajn ⟨ty,.fz (xs.flatMap (bC T))⟩:=by rw[hid0,if_neg hp]
    obtain⟨kk,k1,k2,ob,k3,k4⟩:=c.rep.at_ _ _ hid1;have hφn:φ (nm s.nx)=ajo:=by
     cases hq:φ (nm s.nx) with
     |none=>rfl
     |some q=>have:=c.dom _ q hq;rw[dz] at this;omega
    let nw:HF:=λn=>if n=nm s.nx then ajn ⟨ty,.fz (xs.flatMap (bC T))⟩ else ajo
    have hsh:DL w w kk ob:=⟨rfl,rfl,rfl,rfl,k3,λ_ _=>rfl,λ_=>rfl⟩
    obtain⟨φ',p1,p2,p3,p4⟩:=c.rep.wren hid1 k1 hφn hsh k4 nw (by simp[nw]) (by simp only[nw];rw[if_neg hni.symm]);have Z:dQ (bi s.h) [nm s.nx,nm id] nw=bi J:=by
     funext n;by_cases e2:n=nm s.nx
     ·subst e2;rw[hnx2,if_neg hp];simp[dQ,nw]
     ·by_cases e3:n=nm id
      ·subst e3;rw[hdead];simp[dQ,nw,hni.symm]
      ·rw[hoth n e2 e3];simp[dQ,e2,e3]
    rw[Z] at p2 p4;refine ⟨φ',⟨p4,λt x I=>?_,λn q hq=>?_,gF c.low,hinv,hIE,c.inert,c.size⟩,⟨Jj.refl _ _,p2.own_,λi hi=>?_⟩,hKp⟩
    ·by_cases ht:t=k
     ·subst ht;simp only[eP,PT.get_set,if_true,aA,hrow,aa] at I;subst I;unfold eo at Y ⊢;rw[if_neg hp] at Y ⊢;generalize a.tmps.getD t undef=z at Y;cases Y with
      |@row _ _ _ cc q hφq hn hc hs2=>
       rw[k1,aa] at hφq;subst hφq;exact .row p1 hn hc hs2
     ·exact p2.keep (c.env t x (hE t x ht I))
    ·rcases p3 n q hq with U|U
     ·exact yi (c.dom n q U)
     ·simp only[aF] at U;subst U;rw[dz];exact AG _
    ·cases hq:φ' (nm i) with
     |none=>
      cases hq2:φ (nm i) with
      |none=>rfl
      |some z=>rw[p2.sub _ _ hq2] at hq;cases hq
     |some z=>
      rcases p3 _ _ hq with U|U
      ·exact U.symm
      ·simp only[aF] at U;have:=jU U;have:=c.low;omega
  ·cases h
 ·cases h
theorem aeo {φ:PM} {s:TS} {a:Act} {w:World} (c:nD P E nt np φ s a w) {Z:ZK} {s':TS} (h:Nl s Z=ajn s') (hnr:∀ k off,Z≠ .ren k off):nD P E nt np φ s' a w/\AK np φ φ (bi s.h) (bi s'.h) w w/\fm (m8 [Z] 0) s.e s'.e:=by
 cases Z with
 |ren k off=>exact absurd rfl (hnr k off)
 |nil k ty T=>
  simp only[Nl] at h;split at h
  ·rename_i v hv;split at h
   ·rename_i hn;simp only[aa] at h;subst h;obtain⟨J,M,hr⟩:=U6 c ty T;refine ⟨⟨J.rep,?_,J.dom,J.low,J.invH,?_,J.inert,J.size⟩,by rw[M];exact AK.refl _ _ _ _,?_⟩
    ·intro t x I;simp only[eP,PT.get_set] at I;split at I
     ·rename_i et;subst et;simp only[aA,bU,bD,PT.get_set,if_true,lE,eo,je,beq_self_eq_true,jM,aa] at I;subst I;obtain⟨z,Y⟩:=oU s.h v (c.invE _ v hv);rw[M];exact Pe hn Y _ _ _ _ (c.env _ _ (by simp only[eP,hv,aA,Y]))
     ·exact J.env t x I
    ·intro t x I;simp only[PT.get_set] at I;split at I
     ·cases I;simp only[JE,bD,PT.get_set,if_true];rfl
     ·exact J.invE t x I
    ·intro t ht v' U;simp only[PT.get_set] at U;split at U
     ·rename_i et;subst et;simp only[m8] at ht;rw[bf,bK.2 rfl] at ht;simp at ht
     ·exact⟨v',U,λ_=>rfl⟩
   ·simp only[aa] at h;subst h;exact⟨c,AK.refl _ _ _ _,fm.refl _ _⟩
  ·cases h
 |cel k off ty T=>
  simp only[Nl] at h;split at h
  ·rename_i id o hk;split at h
   ·rename_i cty l hb;split at h
    ·rename_i v hv;split at h
     ·rename_i hn;simp only[aa] at h;subst h;obtain⟨J,M,hr⟩:=U6 c ty T;have hid:id≠s.nx:=λe=>by have:=c.invH.low id _ hb;omega
      obtain⟨c2,t2⟩:=Za J (id:=id) (cty:=cty) (l:=l) (v:=v) (u:=.row s.nx) (by show (s.h.set s.nx _).get id=_;rw[PT.get_set,if_neg hid];exact hb) hv hn (by simp only[bU,bD,PT.get_set,if_true,aA,lE,eo,je,beq_self_eq_true,jM]) (by simp only[JE,bD,PT.get_set,if_true];rfl);exact⟨c2,by rw[<- M];exact t2,fm.refl _ _⟩
     ·simp only[aa] at h;subst h;exact⟨c,AK.refl _ _ _ _,fm.refl _ _⟩
    ·cases h
   ·cases h
  ·cases h
 |mpt k K V=>
  simp only[Nl] at h;split at h
  ·rename_i id hk;split at h
   ·rename_i K' V' es hb;split at h
    ·rename_i hE;simp only[aa] at h;subst h;have hr:bZ s.h (s.h.set id (ajn (.mp K V []))):=bZ.set λr hr=>by rw[bD,hb] at hr;cases hr
     have M:bi (s.h.set id (ajn (.mp K V [])))=bi s.h:=by
      funext n;by_cases hn:n=nm id
      ·subst hn;rw[bt,bt,PT.get_set,if_pos rfl,hb];simp only[aA,jR,Ah (ae0 (s6.1 hE).1),Ah (s6.1 hE).2,RE (s6.1 hE).1,List.map_nil]
      ·refine jQ c.invH hr λi e=>?_
       subst e;rw[PT.get_set,if_neg (λe=>hn (by rw[e]))]
     refine ⟨⟨by rw[M];exact c.rep,?_,c.dom,c.low,c.invH.set hr (c.invH.low id _ hb) (bF _) (λ_ _ he=>by cases he),λt x I=>nl hr x (c.invE t x I),c.inert,c.size⟩,by rw[M];exact AK.refl _ _ _ _,fm.refl _ _⟩;intro t x I;rw[M];simp only[eP] at I;cases he:s.e.get t with
     |none=>rw[he] at I;cases I
     |some q=>
      rw[he] at I;obtain⟨z,Y⟩:=oU s.h q (c.invE t q he);simp only[aA,fE hr q z Y,aa] at I;subst I;exact c.env t _ (by simp only[eP,he,aA,Y])
    ·simp only[aa] at h;subst h;exact⟨c,AK.refl _ _ _ _,fm.refl _ _⟩
   ·cases h
  ·cases h
 |pk k off T=>
  simp only[Nl] at h;split at h
  ·obtain⟨h1,h2,h3⟩:=ah0 c h;exact⟨h1,h2,h3.mono λk hk=>by simp at hk⟩
  ·cases h
theorem aen {φ:PM} {s:TS} {a:Act} {w:World} (c:nD P E nt np φ s a w) {I:ZK} {s':TS} (h:Nl s I=ajn s'):∃ φ',nD P E nt np φ' s' a w/\AK np φ φ' (bi s.h) (bi s'.h) w w/\fm (m8 [I] 0) s.e s'.e:=by
 by_cases hn:∃ k off,I= .ren k off
 ·obtain⟨k,off,rfl⟩:=hn;exact agv c h
 ·exact⟨φ,aeo c h λk off e=>hn ⟨k,off,e⟩⟩
theorem TD {φ:PM} {a:Act} {w:World}:∀ {l:List ZK} {s s':TS},nD P E nt np φ s a w->Wx s l=ajn s'->∃ φ',nD P E nt np φ' s' a w/\AK np φ φ' (bi s.h) (bi s'.h) w w/\fm (m8 l 0) s.e s'.e
 |[],s,s',c,h=>by simp only[Wx,aa] at h;subst h;exact⟨φ,c,AK.refl _ _ _ _,fm.refl _ _⟩
 |I::r,s,s',c,h=>by
  simp only[Wx] at h;split at h
  ·rename_i s1 h1;obtain⟨φ1,U,t1,k1⟩:=aen c h1;obtain⟨φ2,M,J,k2⟩:=TD U h;refine ⟨φ2,M,t1.trans J,(k1.mono ?_).trans (k2.mono ?_)⟩
   ·intro k hk;cases I with
    |nil q ty T=>simp only[m8] at hk ⊢;rw[kT,bf,hk];rfl
    |cel q off ty T=>simp[m8] at hk
    |mpt q K V=>simp[m8] at hk
    |pk q off T=>simp[m8] at hk
    |ren q off=>simp only[m8] at hk ⊢;rw[kT,bf,hk];rfl
   ·intro k hk;cases I with
    |nil q ty T=>simp only[m8];rw[kT,bf,hk];simp
    |cel q off ty T=>simp only[m8];exact hk
    |mpt q K V=>simp only[m8];exact hk
    |pk q off T=>simp only[m8];exact hk
    |ren q off=>simp only[m8];rw[kT,bf,hk];simp
  ·cases h
mutual
theorem O6 {h:aZ}:∀ (v:TV) (y:AV),sJ v=ajp->bU h v=ajn y->y.all (λ_=>ajq)=ajp
 |.f _ _,y,_,he=>by simp only[bU,aa] at he;subst he;rfl
 |.fel _ _ _ _ _,y,_,he=>by simp only[bU,aa] at he;subst he;rfl
 |.emp,y,_,he=>by simp only[bU,aa] at he;subst he;rfl
 |.nil,y,_,he=>by simp only[bU,aa] at he;subst he;rfl
 |.undef,y,_,he=>by simp only[bU,aa] at he;subst he;rfl
 |.np,y,_,he=>by simp only[bU,aa] at he;subst he;rfl
 |.anyb,y,_,he=>by simp only[bU,aa] at he;subst he;rfl
 |.agg l,y,hl,he=>by
  simp only[bU] at he;split at he
  ·rename_i l' hl';simp only[aa] at he;subst he;exact Dn l l' hl hl'
  ·cases he
 |.tup l,y,hl,he=>by
  simp only[bU] at he;split at he
  ·rename_i l' hl';simp only[aa] at he;subst he;exact Dn l l' hl hl'
  ·cases he
 |.pel _ _ _ _,_,h,_=>by cases h
 |.ptr _ _,_,h,_=>by cases h
 |.csl _ _ _,_,h,_=>by cases h
 |.row _,_,h,_=>by cases h
 |.rtl _ _,_,h,_=>by cases h
 |.mp _,_,h,_=>by cases h
 |.clo _ _,_,h,_=>by cases h
theorem Dn {h:aZ}:∀ (l:List TV) (l':List AV),ph l=ajp->cj h l=ajn l'->AV.allL (λ_=>ajq) l'=ajp
 |[],l',_,he=>by simp only[cj,aa] at he;subst he;rfl
 |x::r,l',hl,he=>by
  obtain⟨y,l2,rfl,e1,e2⟩:=cB he;simp only[ph,aj] at hl;simp only[AV.allL,aj];exact⟨O6 x y hl.1 e1,Dn r l2 hl.2 e2⟩
end
mutual
theorem UD (h:aZ):∀ (v:TV),sJ v=ajp->JE h v=ajp
 |.f _ _,_=>rfl
 |.fel _ _ _ _ _,_=>rfl
 |.emp,_=>rfl
 |.nil,_=>rfl
 |.undef,_=>rfl
 |.np,_=>rfl
 |.anyb,_=>rfl
 |.agg l,hl=>HI h l hl
 |.tup l,hl=>HI h l hl
 |.pel _ _ _ _,h=>by cases h
 |.ptr _ _,h=>by cases h
 |.csl _ _ _,h=>by cases h
 |.row _,h=>by cases h
 |.rtl _ _,h=>by cases h
 |.mp _,h=>by cases h
 |.clo _ _,h=>by cases h
theorem HI (h:aZ):∀ (l:List TV),ph l=ajp->jT h l=ajp
 |[],_=>rfl
 |x::r,hl=>by
  simp only[ph,aj] at hl;simp only[jT,aj];exact⟨UD h x hl.1,HI h r hl.2⟩
end
structure Seen (np:Nat) (t:Tm) (x:t.ty.den) (us:List TV) (h1:aZ) (φ φ':PM) (H:HF) (E:Nat->Prop) (w:World) (la lu:List AV):Prop where
 rep:pM φ' E (bi h1) w
 val:∀ (j:Nat) y v,lu[j]? =ajn y->∃ z,la[j]? =ajn z/\(cq φ (tot E φ H) w z v->cq φ' (tot E φ' (bi h1)) w y v)
 len:lu.length=la.length
 tot_:∀ k,tot E φ' (bi h1) k->tot E φ H k
 own_:∀ k,own φ' (bi h1) k->own φ H k
 dom:∀ n k,φ' n=ajn k->ow n<t.bs.length
 par:∀ i,i<np->i<t.bs.length->φ' (nm i)=φ (nm i)
theorem Jz {t:Tm} {x:t.ty.den} {us:List TV} {h1:aZ} {l1:List (Option gC)} (I:pA t x us h1 l1) {h:aZ} {nx:Nat} (hinv:kU h nx) {vs:List TV} {m:Nat} {σ:PT Nat} {sm:Nat} (M:Gb np t vs h x m σ sm) {la:List AV} (hla:cj h vs=ajn la) {φ:PM} {w:World} (r:pM φ E (bi h) w):∃ φ' lu,cj h1 us=ajn lu/\Seen np t x us h1 φ φ' (bi h) E w la lu:=by
 obtain⟨x1,m1,x2,m2,hx,hmm,gv,gb⟩:=M.ex;have hmr:dl h m:=by rw[hmm];exact (FZ _ _ _ _ gv).or (F1 _ _ _ _ gb)
 have pvg:oR (gq σ) t.vs x1=ajn (jH (gq σ) us):=by
  have U:=rV (gq σ) t.vs x1;have J:=I.pv;rw[hx,rP] at J;rw[U,J];rfl
 have pbg:nk (gq σ) t.bs x2=ajn (l1.map (kD (kH (gq σ)))):=by
  have U:=uD (gq σ) t.bs x2;have J:=I.pb;rw[hx,tF] at J;rw[U,J];rfl
 have hbm:∀ i b,l1[i]? =ajn (ajn b)->∃ b0,h.get (gq σ i)=ajn b0/\BM (gq σ) h m b0 (kH (gq σ) b):=λi b hb=>by
  obtain⟨b0,Y,Z⟩:=HG t.bs 0 x2 m2 _ gb pbg i (kH (gq σ) b) (by rw[aU,hb];rfl);rw[bz] at Y;exact⟨b0,Y,Z.mono λj hj=>by rw[hmm,bf,hj];simp⟩
 let hv:aZ:=yO (gq σ) 0 (l1.map (kD (kH (gq σ)))) PT.leaf
 have hv_at:∀ i b,l1[i]? =ajn (ajn b)->hv.get (gq σ i)=ajn (kH (gq σ) b):=λi b hb=>by
  have:=tJ (gq σ) (l1.map (kD (kH (gq σ)))) 0 PT.leaf (λa b ha hb=>by
   simp only[bV,I.len] at ha hb;simp only[bz];exact M.inj a b ha hb) i (ajn (kH (gq σ) b)) (by rw[aU,hb];rfl)
  rw[bz] at this;exact this
 have hv_ex:∀ j c,hv.get j=ajn c->∃ i b,l1[i]? =ajn (ajn b)/\j=gq σ i/\c=kH (gq σ) b:=λj c hj=>by
  by_cases hex:∃ i,i<l1.length/\j=gq σ i
  ·obtain⟨i,hi,rfl⟩:=hex;have hcc:=ar hi;cases hcv:l1[i] with
   |some b=>rw[hcv] at hcc;rw[hv_at i b hcc] at hj;cases hj;exact⟨i,b,hcc,rfl,rfl⟩
   |none=>
    rw[hcv] at hcc;have:=tJ (gq σ) (l1.map (kD (kH (gq σ)))) 0 PT.leaf (λa b ha hb=>by
     simp only[bV,I.len] at ha hb;simp only[bz];exact M.inj a b ha hb) i ajo (by rw[aU,hcc];rfl)
    rw[bz] at this;have hj':(yO (gq σ) 0 (l1.map (kD (kH (gq σ)))) PT.leaf).get (gq σ i)=ajn c:=hj;rw[this] at hj';simp[PT.get] at hj'
  ·have:hv.get j=(PT.leaf:aZ).get j:=tI (gq σ) _ 0 _ j λk hk=>by
    simp only[bV] at hk;rw[bz];exact λe=>hex ⟨k,hk,e⟩
   rw[this] at hj;simp[PT.get] at hj
 have rows_in:wz hv h:=λj q hq=>by
  rw[bD] at hq ⊢;cases hc:hv.get j with
  |none=>rw[hc] at hq;cases hq
  |some c=>
   rw[hc] at hq;obtain⟨i,b,Y,rfl,rfl⟩:=hv_ex j c hc;obtain⟨b0,Z,q3⟩:=hbm i b Y;rw[Z];simp only[aA] at hq ⊢;rw[<- q3.row];exact hq
 have rows_h1:∀ i q,dE h1 i=ajn q->dE hv (gq σ i)=ajn q:=λi q hq=>by
  rw[bD] at hq ⊢;cases hb:h1.get i with
  |none=>rw[hb] at hq;cases hq
  |some b=>
   rw[hb] at hq;rw[hv_at i b ((I.at_ i b).1 hb)];simp only[aA,Gr] at hq ⊢;exact hq
 have hd:tZ (bi h) (bi hv):=λn y hy=>by
  obtain⟨j,c,rfl,U,J⟩:=iG hy;obtain⟨i,b,Y,rfl,rfl⟩:=hv_ex j c U;obtain⟨b0,Z,q3⟩:=hbm i b Y;obtain⟨y0,hy0⟩:=BM.erB_some hinv Z q3 J;exact⟨y0,by rw[bt,Z];exact hy0⟩
 have gvv:CH h (bi h) (bi hv) m:=λi hi=>⟨rfl,by
  cases hc:bi hv (nm i) with
  |none=>rfl
  |some y=>
   obtain⟨j,c,e,U,J⟩:=iG hc;have:=jU e;subst this;obtain⟨k,b,Y,rfl,rfl⟩:=hv_ex i c U;have hk:k<t.bs.length:=by rw[<- I.len];exact (a8.1 Y).1
   have h5:=M.disj _ hi;rw[(M.sig _).2 ⟨k,hk,rfl⟩] at h5;cases h5⟩
 have V:I5 (bi h) (bi hv):=⟨hd,λn b b' hb hb'=>by
  obtain⟨j,c,rfl,U,J⟩:=iG hb';obtain⟨i,bb,Y,rfl,rfl⟩:=hv_ex j c U;obtain⟨b0,Z,q3⟩:=hbm i bb Y;rw[bt,Z] at hb;exact BM.view hd gvv rows_in q3 hb J⟩
 have rv:=V.rep r;have T:abl t x us h1 (gq σ) φ E E (bi hv) w:=by
  refine pM.toId I M.inj rv (λi b yb hb hyb=>?_) (λk hk=>.inl hk) (λi k b hi U J hE=>?_) rv.el
  ·rw[bt,hv_at i b ((I.at_ i b).1 hb)];exact BP rows_h1 hyb
  ·obtain⟨k',p1,p2,_⟩:=rv.at_ _ _ U;rw[J] at p1;cases p1;exact p2 hE
 obtain⟨lu,hlu⟩:=eJ h1 us I.ok;have hlug:cj hv (jH (gq σ) us)=ajn (AV.renL (F3 (gq σ)) lu):=pn rows_h1 us lu hlu;have hle:=BJ hd rows_in t.vs vs x1 m1 _ la _ gv pvg hla hlug (λi hi=>gvv i (by rw[hmm,bf,hi];rfl));have hall:=rM us lu I.lt hlu;refine ⟨_,lu,hlu,T.rep,λj y v hy=>?_,?_,λk hk=>hd.tot (T.tot_ k hk),λk hk=>hd.own (T.own_ k hk),λn k hk=>?_,λi hi hb=>?_⟩
 ·rw[nj] at hle;obtain⟨z,hz,hlz⟩:=hle.get j (y.ren (F3 (gq σ))) (by rw[aU,hy];rfl);exact⟨z,hz,λhr=>T.val y v (kS hall y (aS hy)) (hlz _ _ _ _ r hr)⟩
 ·have:=hle.length;rw[nj,bV] at this;exact this
 ·obtain⟨i,hi,rfl,_⟩:=vD hk;rw[dz];exact hi
 ·rw[Xt hb,M.fix i hi]
theorem Mf {φ:PM} {s':TS} {a:Act} {w:World} (c:nD P E nt np φ s' a w) {A:Xq} {am:Nat} {s0 s1:TS} {x:A.D} (J:J4 np A am s0 s'=ajn x) (hs:Fb A am s0 x=ajn s1)
 (hk:∀ k,k∈A.keep->k∉A.ks->∀ v,s0.e.get k=ajn v->sJ v=ajp->aG am k=ajq->∀ Z,s'.e.get k=ajn Z->Z=v):∃ φ',nD P E nt np φ' s1 a w/\AK np φ φ' (bi s'.h) (bi s1.h) w w:=by
 unfold J4 at J;split at J
 ·rename_i hc;simp only[aj] at hc;have hnp:=aR hc.1;split at J
  ·rename_i s2 h2;obtain⟨φ2,c2,t2,_⟩:=TD c h2;split at J
   ·rename_i vs hvs;split at J
    ·rename_i z m σ sm hM;simp only[aa] at J;subst J;have M:=uL hM;unfold Fb at hs;split at hs
     ·rename_i us h1 hi;obtain⟨l1,I⟩:=uQ hi;split at hs
      ·rename_i hlen;have hlen:=ak hlen;simp only[aa] at hs;subst hs;obtain⟨g1,g2⟩:=UB hvs;have hvok:jT s2.h vs=ajp:=GG c2.invE hvs;obtain⟨la,hla⟩:=eJ s2.h vs hvok;obtain⟨φ',lu,hlu,S⟩:=Jz (E:=E) I c2.invH M hla c2.rep;refine ⟨φ',⟨S.rep,?_,S.dom,hnp,⟨λi ty l hl=>(I.cells i ty l hl).1,λi b hb=>I.lt_len hb⟩,?_,c.inert,c.size⟩,t2.trans ⟨Jj.refl _ _,λk _ h=>S.own_ k h,λi hi=>S.par i hi (by omega)⟩⟩
       ·intro t y U;simp only[eP] at U;cases ht:(Vk (Bv am s0.e A.keep) A.ks us).get t with
        |none=>rw[ht] at U;cases U
        |some v=>
         rw[ht] at U;simp only[aA] at U;rcases AX hlen t v ht with ⟨j,q1,Y⟩|⟨q1,Y⟩
         ·obtain⟨y',p1,p2⟩:=kR hlu j v Y;rw[U] at p2;cases p2;obtain⟨z,p3,p4⟩:=S.val j y (a.tmps.getD t undef) p1;refine p4 ?_;obtain⟨v0,p5,p6⟩:=g2 j t q1;obtain⟨z',p7,p8⟩:=kR hla j v0 p5;rw[p3] at p7;cases p7;exact c2.env t _ (by simp only[eP,p6,aA,p8])
         ·obtain⟨k1,k2,k3,k4⟩:=rZ Y;obtain⟨Z,k5⟩:=G9 hc.2 t v k1 k2 k3 k4;have:=hk t k1 q1 v k2 k3 k4 Z k5;subst this;have h3:=c.env t y (by simp only[eP,k5,aA];rw[Pf s'.h h1 Z k3];exact U);exact h3.restrict (p:=λ_=>ajq) (λi k hi _=>by cases hi) (λk hk=>by
           have h4:=S.tot_ k hk;rcases h4 with h4|h4
           ·exact .inl h4
           ·exact .inr (by
             have hkl:k<w.heap.size:=by
              obtain⟨n,b,e1,e2⟩:=h4;obtain⟨k',p1,_,ob,p3,_⟩:=c2.rep.at_ n b e1;rw[e2] at p1;cases p1;exact (b9.1 p3).1
             exact t2.own_ k hkl h4)) (O6 Z y k3 U)
       ·intro t v hv;rcases AX hlen t v hv with ⟨j,q1,Y⟩|⟨q1,Y⟩
        ·obtain⟨y',_,p2⟩:=kR hlu j v Y;exact Dq _ _ _ p2
        ·exact UD _ v (rZ Y).2.2.1
      ·cases hs
     ·cases hs
    ·cases J
   ·cases J
  ·cases J
 ·cases J
theorem CO {A:Xq} {am:Nat} {I s1:TS} {x:A.D} (hs:Fb A am I x=ajn s1):fm (JH A.ks 0) I.e s1.e/\∀ k,k∉A.ks->∀ v,s1.e.get k=ajn v->I.e.get k=ajn v:=by
 unfold Fb at hs;split at hs
 ·rename_i us h1 hi;split at hs
  ·rename_i hlen;have hlen:=ak hlen;simp only[aa] at hs;subst hs;have key:∀ k,k∉A.ks->∀ v,(Vk (Bv am I.e A.keep) A.ks us).get k=ajn v->I.e.get k=ajn v:=λk hk v hv=>by
    rcases AX hlen k v hv with ⟨j,U,_⟩|⟨_,M⟩
    ·exact absurd (aS U) hk
    ·exact (rZ M).2.1
   refine ⟨λk hk J hv=>?_,key⟩;have hnk:k∉A.ks:=λhm=>by rw[Ut hm] at hk;cases hk
   exact⟨J,key k hnk J hv,λ_=>rfl⟩
  ·cases hs
 ·cases hs
end walk
inductive Er:TC->SC->Prop
 |skip:Er .skip .skip
 |reg (ops:List qU) (prs:List (Nat×Nat)):Er (.reg ops prs) (.reg ops prs)
 |seq {a b:TC} {a' b':SC}:Er a a'->Er b b'->Er (.seq a b) (.seq a' b')
 |jseq (A:Xq) {a b:TC} {a' b':SC}:Er a a'->Er b b'->Er (.jseq A a b) (.seq a' b')
 |cond (c:Nat) {a b:TC} {a' b':SC}:Er a a'->Er b b'->Er (.cond c a b) (.cond c a' b')
 |block (id:Nat) {b:TC} {b':SC}:Er b b'->Er (.block id b) (.block id b')
 |jblock (A:Xq) (id:Nat) {b:TC} {b':SC}:Er b b'->Er (.jblock A id b) (.block id b')
 |loop (A:Xq) {b:TC} {b':SC}:Er b b'->Er (.loop A b) (.loop b')
 |exit (id:Nat):Er (.exit id) (.exit id)
 |ret:Er .ret .ret
 |defer (f:FuncId) (c:List Operand) (t:Nat):Er (.defer f c t) (.defer f c t)
 |adj (l:List ZK) {c:TC} {c':SC}:Er c c'->Er (.adj l c) c'
 |split (k off lo n:Nat) {c:TC} {c':SC}:Er c c'->Er (.split k off lo n c) c'
 |unl (n:Nat) {b:TC} {b':SC}:Er b b'->Er (.unl n b) (.loop b')
 |bad (c:SC):Er .bad c
theorem AM {H:PT ZB} {n:Nat} {c:TC} {c':SC} (h:Er c c'):Er (Gg H n c) c':=by
 unfold Gg;split
 ·exact .adj _ h
 ·exact .split _ _ _ _ h
 ·exact h
theorem wu (H:PT ZB):∀ (c:SC) (n:Nat),Er (Ch H c n).1 c
 |.skip,n=>AM .skip
 |.reg o p,n=>AM (.reg o p)
 |.seq a b,n=>by
  have h1:=wu H a (n+1);have I:=wu H b (Ch H a (n+1)).2;simp only[Ch];split
  ·exact .jseq _ h1 I
  ·exact .seq h1 I
 |.cond c a b,n=>by
  have h1:=wu H a (n+1);have I:=wu H b (Ch H a (n+1)).2;simp only[Ch];exact AM (.cond c h1 I)
 |.block id b,n=>by
  have h1:=wu H b (n+1);simp only[Ch];split
  ·exact .jblock _ id h1
  ·exact .block id h1
 |.loop b,n=>by
  have h1:=wu H b (n+1);simp only[Ch];split
  ·exact .loop _ h1
  ·exact .unl _ h1
  ·exact .bad _
 |.exit id,n=>AM (.exit id)
 |.ret,n=>AM .ret
 |.defer f c t,n=>.defer f c t
 |.bad,n=>.bad _
theorem Vx {σ R:Type} {step:σ->Option (σ⊕R)} {x:σ} {r:R} (h:iter step x=ajn r):∃ n,iterN step n x=ajn r:=by
 unfold iter at h;split at h
 ·exact⟨_,h⟩
 ·cases h
theorem Uw {α R:Type} {o:Option (R⊕α)} {k:α->Option R} {r:R} (h:jn o k=ajn r):(∃ x,o=ajn (.inr x)/\k x=ajn r)\/o=ajn (.inl r):=by
 unfold jn at h;split at h
 ·exact .inl ⟨_,rfl,h⟩
 ·cases h;exact .inr rfl
 ·cases h
section inv
variable {P:Program} {nt:Nat}
theorem xV (id:Nat) (ops:Array Oper) (I:Bool):bS P nt (.region id ops I)= .bad\/
 ((ops.toList.all λo=>match o.dst with|some d=>decide (d<nt)|none=>ajp)=ajp/\
   ((∃ f caps t,Cg ops I=ajn (f,caps,t)/\bS P nt (.region id ops I)= .defer f caps t)\/
    ∃ l prs,qC P ops ops.toList=ajn l/\KM ops l=ajn prs/\bS P nt (.region id ops I)= .reg l prs)):=by
 simp only[bS];split
 ·rename_i hd;split
  ·rename_i f caps t h;exact .inr ⟨hd,.inl ⟨f,caps,t,h,rfl⟩⟩
  ·split
   ·rename_i l hl;split
    ·rename_i prs hp;exact .inr ⟨hd,.inr ⟨l,prs,hl,hp,rfl⟩⟩
    ·exact .inl rfl
   ·exact .inl rfl
 ·exact .inl rfl
def CV:Code->Bool
 |.cond (.const (.bool _)) _ _=>ajq
 |_=>ajp
theorem jq (P:Program) (nt:Nat) (c:Code):∃ c',CV c'=ajp/\bS P nt c'=bS P nt c/\∀ Q a w,c'.wp P Q a w->c.wp P Q a w:=by
 have self:∀ c:Code,CV c=ajp->∃ c',CV c'=ajp/\bS P nt c'=bS P nt c/\∀ Q a w,c'.wp P Q a w->c.wp P Q a w:=λc h=>⟨c,h,rfl,λ_ _ _ h=>h⟩
 induction c with
 |cond o x y ihx ihy=>
  cases o with
  |const v=>
   cases v with
   |bool b=>
    cases b with
    |true=>
     obtain⟨c',h1,J,I⟩:=ihx;exact⟨c',h1,J,λQ a w h=>wp_cond_true rfl (I Q a w h)⟩
    |false=>
     obtain⟨c',h1,J,I⟩:=ihy;exact⟨c',h1,J,λQ a w h=>wp_cond_false rfl (I Q a w h)⟩
   |_=>exact self _ rfl
  |_=>exact self _ rfl
 |_=>exact self _ rfl
theorem D7 {α:Prop} {o:Operand} {x y:Code} {sc:SC} (hn:CV (.cond o x y)=ajp) (h:bS P nt (.cond o x y)=sc) (h1:sc≠ .bad) (I:∀ t a b,sc≠ .cond t a b):α:=by
 cases o with
 |tmp q=>exact (I _ _ _ h.symm).elim
 |const v=>cases v<;>first|exact (h1 h.symm).elim|cases hn
 |global g=>exact (h1 h.symm).elim
 |func f=>exact (h1 h.symm).elim
theorem aab {c:Code} {sl:List qU} {prs:List (Nat×Nat)} (hn:CV c=ajp) (h:bS P nt c= .reg sl prs):∃ id ops I,c= .region id ops I/\(ops.toList.all λo=>match o.dst with|some d=>decide (d<nt)|none=>ajp)=ajp/\qC P ops ops.toList=ajn sl/\KM ops sl=ajn prs:=by
 cases c with
 |region id ops I=>
  rcases xV (P:=P) (nt:=nt) id ops I with h1|⟨hd,⟨f,caps,t,_,h1⟩|⟨l,p,M,J,h1⟩⟩
  ·rw[h1] at h;cases h
  ·rw[h1] at h;cases h
  ·rw[h1] at h;cases h;exact⟨id,ops,I,rfl,hd,M,J⟩
 |cond o x y=>exact D7 hn h (by simp) (by simp)
 |_=>simp[bS] at h
theorem Vy {c:Code} {f:FuncId} {caps:List Operand} {t:Nat} (hn:CV c=ajp) (h:bS P nt c= .defer f caps t):∃ id ops I,c= .region id ops I/\(ops.toList.all λo=>match o.dst with|some d=>decide (d<nt)|none=>ajp)=ajp/\Cg ops I=ajn (f,caps,t):=by
 cases c with
 |region id ops I=>
  rcases xV (P:=P) (nt:=nt) id ops I with h1|⟨hd,⟨U,caps',t',J,h1⟩|⟨l,p,J,M,h1⟩⟩
  ·rw[h1] at h;cases h
  ·rw[h1] at h;cases h;exact⟨id,ops,I,rfl,hd,J⟩
  ·rw[h1] at h;cases h
 |cond o x y=>exact D7 hn h (by simp) (by simp)
 |_=>simp[bS] at h
theorem oc {c:Code} {sc:SC} (h:bS P nt c=sc) (h1:sc≠ .bad) (U:∀ a b,sc≠ .reg a b) (M:∀ a b t,sc≠ .defer a b t):∀ id ops J,c≠ .region id ops J:=by
 rintro id ops J rfl;rcases xV (P:=P) (nt:=nt) id ops J with I|⟨_,⟨f,caps,t,_,I⟩|⟨l,p,_,_,I⟩⟩<;>rw[I] at h
 ·exact h1 h.symm
 ·exact M _ _ _ h.symm
 ·exact U _ _ h.symm
theorem Yf {c:Code} (hn:CV c=ajp) (h:bS P nt c= .skip):c= .skip:=by
 have I:=oc h (by simp) (by simp) (by simp);cases c with
 |skip=>rfl
 |region id ops J=>exact absurd rfl (I id ops J)
 |cond o x y=>exact D7 hn h (by simp) (by simp)
 |_=>simp[bS] at h
theorem aaa {c:Code} (hn:CV c=ajp) (h:bS P nt c= .ret):c= .ret:=by
 have I:=oc h (by simp) (by simp) (by simp);cases c with
 |ret=>rfl
 |region id ops J=>exact absurd rfl (I id ops J)
 |cond o x y=>exact D7 hn h (by simp) (by simp)
 |_=>simp[bS] at h
theorem Yg {c:Code} {i:Nat} (hn:CV c=ajp) (h:bS P nt c= .exit i):c= .exit i:=by
 have I:=oc h (by simp) (by simp) (by simp);cases c with
 |exit id=>simp[bS] at h;rw[h]
 |region id ops J=>exact absurd rfl (I id ops J)
 |cond o x y=>exact D7 hn h (by simp) (by simp)
 |_=>simp[bS] at h
theorem Ux {c:Code} {a b:SC} (hn:CV c=ajp) (h:bS P nt c= .seq a b):∃ x y,c= .seq x y/\bS P nt x=a/\bS P nt y=b:=by
 have I:=oc h (by simp) (by simp) (by simp);cases c with
 |seq x y=>simp[bS] at h;exact⟨x,y,rfl,h.1,h.2⟩
 |region id ops J=>exact absurd rfl (I id ops J)
 |cond o x y=>exact D7 hn h (by simp) (by simp)
 |_=>simp[bS] at h
theorem Yh {c:Code} {t:Nat} {a b:SC} (hn:CV c=ajp) (h:bS P nt c= .cond t a b):∃ x y,c= .cond (.tmp t) x y/\bS P nt x=a/\bS P nt y=b:=by
 have I:=oc h (by simp) (by simp) (by simp);cases c with
 |cond o x y=>
  cases o with
  |tmp q=>simp[bS] at h;obtain⟨rfl,h1,J⟩:=h;exact⟨x,y,rfl,h1,J⟩
  |const v=>cases v<;>first|(simp [bS] at h;done)|cases hn
  |_=>simp[bS] at h
 |region id ops M=>exact absurd rfl (I id ops M)
 |_=>simp[bS] at h
theorem KZ {c:Code} {id:Nat} {b:SC} (hn:CV c=ajp) (h:bS P nt c= .block id b):∃ y,c= .block id y/\bS P nt y=b:=by
 have I:=oc h (by simp) (by simp) (by simp);cases c with
 |block i y=>simp[bS] at h;obtain⟨rfl,h1⟩:=h;exact⟨y,rfl,h1⟩
 |region id ops J=>exact absurd rfl (I id ops J)
 |cond o x y=>exact D7 hn h (by simp) (by simp)
 |_=>simp[bS] at h
theorem Oq {c:Code} {b:SC} (hn:CV c=ajp) (h:bS P nt c= .loop b):∃ y,c= .loop y/\bS P nt y=b:=by
 have I:=oc h (by simp) (by simp) (by simp);cases c with
 |loop y=>simp[bS] at h;exact⟨y,rfl,h⟩
 |region id ops J=>exact absurd rfl (I id ops J)
 |cond o x y=>exact D7 hn h (by simp) (by simp)
 |_=>simp[bS] at h
end inv
def adb {R:Type} (P:Program) (E:Nat->Prop) (nt np:Nat) (φ:PM) (s:TS) (w:World) (am:Nat) (K:Ex->TS->Option R) (r:R):Exit->Act->World->Prop:=
 λe a' w'=>∃ ex s' φ',e=ex.to/\K ex s'=ajn r/\nD P E nt np φ' s' a' w'/\AK np φ φ' (bi s.h) (bi s'.h) w w'/\fm am s.e s'.e
theorem nD.bool {P:Program} {E:Nat->Prop} {nt np:Nat} {φ:PM} {s:TS} {a:Act} {w:World} (c:nD P E nt np φ s a w) {t:Nat} {b:Bool} (ht:s.e.get t=ajn (.f .bool b)):a.eval (.tmp t)= .bool b:=
 ep (c.env t _ (by simp only[eP,ht,aA,bU];rfl))
theorem nD.anyb {P:Program} {E:Nat->Prop} {nt np:Nat} {φ:PM} {s:TS} {a:Act} {w:World} (c:nD P E nt np φ s a w) {t:Nat} (ht:s.e.get t=ajn .anyb):∃ b,a.eval (.tmp t)= .bool b:=by
 have:=c.env t .anyb (by simp only[eP,ht,aA,bU]);show ∃ b,a.tmps.getD t undef= .bool b;generalize a.tmps.getD t undef=z at this;cases this with
 |anyb=>exact⟨_,rfl⟩
theorem Wv {R:Type} {a b:Option R} {r:R} (h:DH a b=ajn r):a=ajn r/\b=ajn r:=by
 unfold DH at h;split at h
 ·rename_i e;exact⟨h,by rw[<- e];exact h⟩
 ·cases h
theorem adr {P:Program} {E:Nat->Prop} {nt np:Nat} {con:FuncId->Option bW} {bL:TypeId->Option Ty} {inert:FuncId->Bool} (hm:P.follows .mixedOrders=ajp) (hcon:Jl P con) (hin:Jg P inert):
 ∀ {tc:TC} {sc:SC},Er tc sc->∀ (c:Code),bS P nt c=sc->∀ (R:Type) (s:TS) (K:Ex->TS->Option R) (r:R),nV np con bL inert tc s K=ajn r->∀ (φ:PM) (a:Act) (w:World),nD P E nt np φ s a w->c.wp P (adb P E nt np φ s w (tc.asg 0) K r) a w:=by
 intro tc sc hE;induction hE with
 |skip=>
  intro c hc R s K r h φ a w g;obtain⟨c',hn,I,hsim⟩:=jq P nt c;refine hsim _ _ _ ?_;rw[<- I] at hc;rw[Yf hn hc];exact wp_skip ⟨.normal,s,φ,rfl,h,g,AK.refl _ _ _ _,fm.refl _ _⟩
 |reg ops prs=>
  intro c hc R s K r h φ a w g;obtain⟨c',hn,I,hsim⟩:=jq P nt c;refine hsim _ _ _ ?_;rw[<- I] at hc;obtain⟨id,os,dr,rfl,h1,h2,h3⟩:=aab hn hc;simp only[nV] at h;refine XP (K:=λs'=>K .normal s') hm hcon g (am:=Nh ops 0) (λj o d ho hd=>?_) h1 h2 h3 h λa' w' s' φ' Z J q3 q4=>⟨.normal,s',φ',rfl,Z,J,q3,q4⟩
  have hmem:o∈os.toList:=by have:=Array.mem_of_getElem? ho;simpa using this
  have key:∀ (rest:List Oper) (sl:List qU),qC P os rest=ajn sl->∀ o∈rest,∃ so∈sl,so.dst=o.dst:=by
   intro rest;induction rest with
   |nil=>intro sl _ o ho;cases ho
   |cons x rest ih=>
    intro sl hsl o ho;simp only[qC] at hsl;split at hsl
    ·rename_i l hl;have:∃ so,sl=so::l/\so.dst=x.dst:=by
      split at hsl
      ·simp only[aa] at hsl;exact⟨_,hsl.symm,rfl⟩
      ·split at hsl
       ·simp only[aa] at hsl;exact⟨_,hsl.symm,rfl⟩
       ·cases hsl
     obtain⟨so,rfl,hso⟩:=this;rcases bc.1 ho with rfl|ho
     ·exact⟨so,by simp,hso⟩
     ·obtain⟨q,hq,hq2⟩:=ih l hl o ho;exact⟨q,by simp[hq],hq2⟩
    ·cases hsl
  obtain⟨so,hso,hd2⟩:=key os.toList ops h2 o hmem;exact Qu hso (by rw[hd2];exact hd)
 |@seq x y x' y' _ _ ihx ihy=>
  intro c hc R s K r h φ a w g;obtain⟨c',hn,I,hsim⟩:=jq P nt c;refine hsim _ _ _ ?_;rw[<- I] at hc;obtain⟨cx,cy,rfl,h1,h2⟩:=Ux hn hc;simp only[nV] at h;refine wp_seq (wp_mono (ihx cx h1 R s _ r h φ a w g) ?_);rintro e a' w' ⟨ex,s',φ',rfl,hk,g',st,M⟩;have kp':fm ((TC.seq x y).asg 0) s.e s'.e:=M.mono λk hk=>by simp only[TC.asg];exact jy hk
  cases ex with
  |normal=>
   refine wp_mono (ihy cy h2 R s' K r hk φ' a' w' g') ?_;rintro e2 a2 w2 ⟨ex2,s2,φ2,rfl,hk2,g2,XJ,kp2⟩;exact⟨ex2,s2,φ2,rfl,hk2,g2,st.trans XJ,kp'.trans (kp2.mono λk hk=>by simp only[TC.asg];exact tY hk)⟩
  |exit id=>exact⟨.exit id,s',φ',rfl,hk,g',st,kp'⟩
  |ret=>exact⟨.ret,s',φ',rfl,hk,g',st,kp'⟩
 |@jseq A x y x' y' _ _ ihx ihy=>
  intro c hc R s K r h φ a w g;obtain⟨c',hn,I,hsim⟩:=jq P nt c;refine hsim _ _ _ ?_;rw[<- I] at hc;obtain⟨cx,cy,rfl,h1,h2⟩:=Ux hn hc;simp only[nV] at h;have sub1:∀ k,aG (x.asg 0) k=ajp->aG ((TC.jseq A x y).asg 0) k=ajp:=λk hk=>by simp only[TC.asg];exact jy (tY hk)
  have sub2:∀ k,aG (y.asg 0) k=ajp->aG ((TC.jseq A x y).asg 0) k=ajp:=λk hk=>by simp only[TC.asg];exact tY hk
  have sub3:∀ k,aG (JH A.ks 0) k=ajp->aG ((TC.jseq A x y).asg 0) k=ajp:=λk hk=>by simp only[TC.asg];exact jy (jy hk)
  rcases Uw h with ⟨d,h3,h4⟩|h3
  ·refine wp_seq (wp_mono (ihx cx h1 _ s _ _ h3 φ a w g) ?_);rintro e a' w' ⟨ex,s',φ',rfl,hk,g',st,M⟩;cases ex with
   |normal=>
    simp only[] at hk;obtain⟨d',Z,J⟩:=c5 hk;simp only[aa,Sum.inr.injEq] at J;subst J;split at h4
    ·rename_i s1 Y;obtain⟨φ1,g1,Gn⟩:=Mf g' Z Y λk _ _ v hv hf ha v' U=>by
      obtain⟨v0,e1,e2⟩:=M k ha v' U;rw[hv] at e1;cases e1;exact e2 hf
     refine wp_mono (ihy cy h2 R s1 K r h4 φ1 a' w' g1) ?_;rintro e2 a2 w2 ⟨ex2,s2,φ2,rfl,hk2,g2,XJ,kp2⟩;exact⟨ex2,s2,φ2,rfl,hk2,g2,(st.trans Gn).trans XJ,((CO Y).1.mono sub3).trans (kp2.mono sub2)⟩
    ·cases h4
   |exit id=>simp only[] at hk;obtain⟨_,_,J⟩:=c5 hk;simp at J
   |ret=>simp only[] at hk;obtain⟨_,_,J⟩:=c5 hk;simp at J
  ·refine wp_seq (wp_mono (ihx cx h1 _ s _ _ h3 φ a w g) ?_);rintro e a' w' ⟨ex,s',φ',rfl,hk,g',st,M⟩;cases ex with
   |normal=>simp only[] at hk;obtain⟨_,_,J⟩:=c5 hk;simp at J
   |exit id=>
    simp only[] at hk;obtain⟨r',Z,J⟩:=c5 hk;simp only[aa,Sum.inl.injEq] at J;subst J;exact⟨.exit id,s',φ',rfl,Z,g',st,M.mono sub1⟩
   |ret=>
    simp only[] at hk;obtain⟨r',Z,J⟩:=c5 hk;simp only[aa,Sum.inl.injEq] at J;subst J;exact⟨.ret,s',φ',rfl,Z,g',st,M.mono sub1⟩
 |@cond t x y x' y' _ _ ihx ihy=>
  intro c hc R s K r h φ a w g;obtain⟨c',hn,I,hsim⟩:=jq P nt c;refine hsim _ _ _ ?_;rw[<- I] at hc;obtain⟨cx,cy,rfl,h1,h2⟩:=Yh hn hc;simp only[nV] at h;split at h
  ·rename_i b hb;rcases ov h with ⟨rfl,h⟩|⟨rfl,h⟩
   ·refine wp_cond_true (g.bool hb) (wp_mono (ihx cx h1 R s K r h φ a w g) ?_);rintro e a' w' ⟨ex,s',φ',rfl,hk,g',st,M⟩;exact⟨ex,s',φ',rfl,hk,g',st,M.mono λk hk=>by simp only[TC.asg];exact jy hk⟩
   ·refine wp_cond_false (g.bool hb) (wp_mono (ihy cy h2 R s K r h φ a w g) ?_);rintro e a' w' ⟨ex,s',φ',rfl,hk,g',st,M⟩;exact⟨ex,s',φ',rfl,hk,g',st,M.mono λk hk=>by simp only[TC.asg];exact tY hk⟩
  ·rename_i hb;obtain⟨ha,hbb⟩:=Wv h;obtain⟨bv,hbv⟩:=g.anyb hb;cases bv with
   |true=>
    refine wp_cond_true hbv (wp_mono (ihx cx h1 R s K r ha φ a w g) ?_);rintro e a' w' ⟨ex,s',φ',rfl,hk,g',st,M⟩;exact⟨ex,s',φ',rfl,hk,g',st,M.mono λk hk=>by simp only[TC.asg];exact jy hk⟩
   |false=>
    refine wp_cond_false hbv (wp_mono (ihy cy h2 R s K r hbb φ a w g) ?_);rintro e a' w' ⟨ex,s',φ',rfl,hk,g',st,M⟩;exact⟨ex,s',φ',rfl,hk,g',st,M.mono λk hk=>by simp only[TC.asg];exact tY hk⟩
  ·cases h
 |@block id b b' _ ih=>
  intro c hc R s K r h φ a w g;obtain⟨c',hn,I,hsim⟩:=jq P nt c;refine hsim _ _ _ ?_;rw[<- I] at hc;obtain⟨cb,rfl,h1⟩:=KZ hn hc;simp only[nV] at h;refine wp_block (wp_mono (ih cb h1 R s _ r h φ a w g) ?_);rintro e a' w' ⟨ex,s',φ',rfl,hk,g',st,M⟩;cases ex with
  |normal=>exact⟨.normal,s',φ',rfl,hk,g',st,M⟩
  |ret=>exact⟨.ret,s',φ',rfl,hk,g',st,M⟩
  |exit i=>
   simp only[Ex.to,Exit.inBlock];simp only[] at hk;split at hk
   ·rename_i hb;rw[if_pos (ak hb)];exact⟨.normal,s',φ',rfl,hk,g',st,M⟩
   ·rename_i hb;rw[if_neg (λe=>hb (by rw[e];exact tu id))];exact⟨.exit i,s',φ',rfl,hk,g',st,M⟩
 |@jblock A id b b' _ ih=>
  intro c hc R s K r h φ a w g;obtain⟨c',hn,I,hsim⟩:=jq P nt c;refine hsim _ _ _ ?_;rw[<- I] at hc;obtain⟨cb,rfl,h1⟩:=KZ hn hc;simp only[nV] at h;have sub1:∀ k,aG (b.asg 0) k=ajp->aG ((TC.jblock A id b).asg 0) k=ajp:=λk hk=>by simp only[TC.asg];exact tY hk
  have sub3:∀ k,aG (JH A.ks 0) k=ajp->aG ((TC.jblock A id b).asg 0) k=ajp:=λk hk=>by simp only[TC.asg];exact jy hk
  rcases Uw h with ⟨d,h3,h4⟩|h3
  ·refine wp_block (wp_mono (ih cb h1 _ s _ _ h3 φ a w g) ?_);rintro e a' w' ⟨ex,s',φ',rfl,hk,g',st,M⟩;have fin:obind (J4 np A (b.asg 0) s s') (λx=>ajn (bM (α:=R) x))=ajn (bM d)->adb P E nt np φ s w ((TC.jblock A id b).asg 0) K r .normal a' w':=by
    intro hk;obtain⟨d',Z,J⟩:=c5 hk;simp only[aa,Sum.inr.injEq] at J;subst J;split at h4
    ·rename_i s1 Y;obtain⟨φ1,g1,Gn⟩:=Mf g' Z Y λk _ _ v hv hf ha v' U=>by
      obtain⟨v0,e1,e2⟩:=M k ha v' U;rw[hv] at e1;cases e1;exact e2 hf
     exact⟨.normal,s1,φ1,rfl,h4,g1,st.trans Gn,(CO Y).1.mono sub3⟩
    ·cases h4
   cases ex with
   |normal=>exact fin hk
   |ret=>simp only[] at hk;obtain⟨_,_,J⟩:=c5 hk;simp at J
   |exit i=>
    simp only[Ex.to,Exit.inBlock];simp only[] at hk;split at hk
    ·rename_i hb;rw[if_pos (ak hb)];exact fin hk
    ·obtain⟨_,_,J⟩:=c5 hk;simp at J
  ·refine wp_block (wp_mono (ih cb h1 _ s _ _ h3 φ a w g) ?_);rintro e a' w' ⟨ex,s',φ',rfl,hk,g',st,M⟩;cases ex with
   |normal=>simp only[] at hk;obtain⟨_,_,J⟩:=c5 hk;simp at J
   |ret=>
    simp only[] at hk;obtain⟨r',Z,J⟩:=c5 hk;simp only[aa,Sum.inl.injEq] at J;subst J;exact⟨.ret,s',φ',rfl,Z,g',st,M.mono sub1⟩
   |exit i=>
    simp only[Ex.to,Exit.inBlock];simp only[] at hk;split at hk
    ·obtain⟨_,_,J⟩:=c5 hk;simp at J
    ·rename_i hb;rw[if_neg (λe=>hb (by rw[e];exact tu id))];obtain⟨r',Z,J⟩:=c5 hk;simp only[aa,Sum.inl.injEq] at J;subst J;exact⟨.exit i,s',φ',rfl,Z,g',st,M.mono sub1⟩
 |@loop A b b' _ ih=>
  intro c hc R s K r h φ a w g;obtain⟨c',hn,I,hsim⟩:=jq P nt c;refine hsim _ _ _ ?_;rw[<- I] at hc;obtain⟨cb,rfl,h1⟩:=Oq hn hc;simp only[nV] at h;obtain⟨x0,hx0,h⟩:=c5 h;obtain⟨n,hn⟩:=Vx h;have sub1:∀ k,aG (b.asg 0) k=ajp->aG ((TC.loop A b).asg 0) k=ajp:=λk hk=>by simp only[TC.asg];exact tY hk
  have sub3:∀ k,aG (JH A.ks 0) k=ajp->aG ((TC.loop A b).asg 0) k=ajp:=λk hk=>by simp only[TC.asg];exact jy hk
  obtain⟨step,hstep⟩:∃ step:A.D->Option (A.D⊕R),step=λx=>(match Fb A (b.asg 0) s x with
   |some s'=>nV np con bL inert b s' λex s'=>(match ex with
    |.normal=>obind (J4 np A (b.asg 0) s s') λy=>ajn (nG y)
    |ex=>obind (K ex s') λr=>ajn (bM r))
   |none=>ajo):=⟨_,rfl⟩
  have hn:iterN step n x0=ajn r:=by rw[hstep];exact hn
  have stepEq:∀ x,step x=(match Fb A (b.asg 0) s x with
   |some s'=>nV np con bL inert b s' λex s'=>(match ex with
    |.normal=>obind (J4 np A (b.asg 0) s s') λy=>ajn (nG y)
    |ex=>obind (K ex s') λr=>ajn (bM r))
   |none=>ajo):=λx=>by rw[hstep]
  let Inv:Nat->Act->World->Prop:=λn a w'=>∃ x s1 φ1,iterN step n x=ajn r/\Fb A (b.asg 0) s x=ajn s1/\nD P E nt np φ1 s1 a w'/\AK np φ φ1 (bi s.h) (bi s1.h) w w'
  have head:∀ (n:Nat) (x:A.D),iterN step n x=ajn r->∃ s1,Fb A (b.asg 0) s x=ajn s1:=by
   intro n x hn;cases n with
   |zero=>cases hn
   |succ n=>
    simp only[iterN] at hn;cases hr:Fb A (b.asg 0) s x with
    |some s1=>exact⟨s1,rfl⟩
    |none=>rw[stepEq,hr] at hn;cases hn
  refine AO Inv ?_ (n:=n) ?_
  ·rintro n a1 w1 ⟨x,s1,φ1,hi,hr,g1,Gn⟩;cases n with
   |zero=>cases hi
   |succ n=>
    simp only[iterN] at hi;have hse:=stepEq x;rw[hr] at hse;simp only[] at hse;obtain⟨kp1,kp1'⟩:=CO hr;split at hi
    ·rename_i y hy;rw[hy] at hse;refine wp_mono (ih cb h1 _ s1 _ _ hse.symm φ1 a1 w1 g1) ?_;rintro e a' w' ⟨ex,s',φ',rfl,hk,g',st,M⟩;cases ex with
     |normal=>
      simp only[] at hk;obtain⟨d',Z,J⟩:=c5 hk;simp only[aa,Sum.inl.injEq] at J;subst J;obtain⟨s2,hs2⟩:=head n d' hi;obtain⟨φ2,g2,XJ⟩:=Mf g' Z hs2 λk hkk hks v hv hf ha v' U=>by
       obtain⟨v0,e1,e2⟩:=M k ha v' U;have:=kp1' k hks v0 e1;rw[hv] at this;cases this;exact e2 hf
      exact⟨n,by omega,d',s2,φ2,hi,hs2,g2,(Gn.trans st).trans XJ⟩
     |exit id=>simp only[] at hk;obtain⟨_,_,J⟩:=c5 hk;simp at J
     |ret=>simp only[] at hk;obtain⟨_,_,J⟩:=c5 hk;simp at J
    ·rename_i r' hy;cases hi;rw[hy] at hse;refine wp_mono (ih cb h1 _ s1 _ _ hse.symm φ1 a1 w1 g1) ?_;rintro e a' w' ⟨ex,s',φ',rfl,hk,g',st,M⟩;cases ex with
     |normal=>simp only[] at hk;obtain⟨_,_,J⟩:=c5 hk;simp at J
     |exit id=>
      simp only[] at hk;obtain⟨r',Z,J⟩:=c5 hk;simp only[aa,Sum.inr.injEq] at J;subst J;exact⟨.exit id,s',φ',rfl,Z,g',Gn.trans st,(kp1.mono sub3).trans (M.mono sub1)⟩
     |ret=>
      simp only[] at hk;obtain⟨r',Z,J⟩:=c5 hk;simp only[aa,Sum.inr.injEq] at J;subst J;exact⟨.ret,s',φ',rfl,Z,g',Gn.trans st,(kp1.mono sub3).trans (M.mono sub1)⟩
    ·cases hi
  ·obtain⟨s1,Y⟩:=head n x0 hn;obtain⟨φ1,g1,Gn⟩:=Mf g hx0 Y λk _ _ v hv _ _ v' U=>by rw[hv] at U;cases U;rfl
   exact⟨x0,s1,φ1,hn,Y,g1,Gn⟩
 |exit id=>
  intro c hc R s K r h φ a w g;obtain⟨c',hn,I,hsim⟩:=jq P nt c;refine hsim _ _ _ ?_;rw[<- I] at hc;rw[Yg hn hc];exact wp_exit ⟨.exit id,s,φ,rfl,h,g,AK.refl _ _ _ _,fm.refl _ _⟩
 |ret=>
  intro c hc R s K r h φ a w g;obtain⟨c',hn,I,hsim⟩:=jq P nt c;refine hsim _ _ _ ?_;rw[<- I] at hc;rw[aaa hn hc];exact wp_ret ⟨.ret,s,φ,rfl,h,g,AK.refl _ _ _ _,fm.refl _ _⟩
 |defer f caps t=>
  intro c hc R s K r h φ a w g;obtain⟨c',hn,I,hsim⟩:=jq P nt c;refine hsim _ _ _ ?_;rw[<- I] at hc;obtain⟨id,ops,dr,rfl,h1,h2⟩:=Vy hn hc;simp only[nV] at h;split at h
  ·rename_i l hl;split at h
   ·rename_i hi;obtain⟨l',e1,e2⟩:=xn g.invE hl;obtain⟨H,hH⟩:=iT s.h;have lowN:∀ n k,φ n=ajn k->n<2*s.nx+2:=λn k hk=>by have:=g.dom n k hk;unfold ow at this;omega
    have cfg:Cfg P ⟨2*s.nx+2,φ,E,bi s.h,w⟩ nt ⟨Js s.e s.h,H,2*s.nx+2,0⟩ a w:=by
     refine ⟨⟨φ,?_,?_,?_,lowN,λi k hk=>.inl hk⟩,bF _,g.inert,g.size⟩
     ·rw[hH];exact ie.refl _ _ _
     ·rw[hH];exact g.rep
     ·rw[hH,tR];exact g.env
    refine Pv hin cfg h1 h2 e1 hi λa' w' c'=>?_
    obtain⟨φ',m',r',en',dm',d0'⟩:=c'.ex;have hφ:φ'=φ:=by
     funext n;cases hx:φ n with
     |some k=>exact m'.sub n k hx
     |none=>
      cases hy:φ' n with
      |none=>rfl
      |some k=>
       rcases d0' n k hy with h3|h3
       ·have h3:φ n=ajn k:=h3;rw[hx] at h3;cases h3
       ·have h4:n<2*s.nx+2:=dm' n k hy;have h5:2*s.nx+2<=n:=h3;omega
    subst hφ;simp only[hH] at m' r' en';refine ⟨.normal,_,φ',rfl,h,⟨r',?_,g.dom,g.low,g.invH,?_,c'.inert,c'.size⟩,⟨m'.ext,m'.own_,λ_ _=>rfl⟩,?_⟩
    ·intro u x hx;refine en' u x ?_;simp only[eP,PT.get_set] at hx;simp only[yf.put,PT.get_set];split at hx
     ·rename_i eu;rw[if_pos eu];simp only[aA,bU,e2,aa] at hx;rw[hx]
     ·rename_i eu;rw[if_neg eu,tR];exact hx
    ·intro u x hx;simp only[PT.get_set] at hx;split at hx
     ·cases hx;simp only[JE];exact kz _ _ _ e2
     ·exact g.invE u x hx
    ·intro k hk v' U;simp only[PT.get_set] at U;split at U
     ·rename_i ek;subst ek;simp only[TC.asg] at hk;rw[bf,bK.2 rfl] at hk;simp at hk
     ·exact⟨v',U,λ_=>rfl⟩
   ·cases h
  ·cases h
 |@adj l tc' sc' _ ih=>
  intro c hc R s K r h φ a w g;obtain⟨c',hn,I,hsim⟩:=jq P nt c;refine hsim _ _ _ ?_;rw[<- I] at hc;simp only[nV] at h;split at h
  ·rename_i s1 Y;obtain⟨φ1,g1,Gn,kp1⟩:=TD g Y;refine wp_mono (ih c' hc R s1 K r h φ1 a w g1) ?_;rintro e a' w' ⟨ex,s',φ',rfl,hk,g',st,M⟩;exact⟨ex,s',φ',rfl,hk,g',Gn.trans st,(kp1.mono λk hk=>by simp only[TC.asg];exact jy hk).trans (M.mono λk hk=>by simp only[TC.asg];exact tY hk)⟩
  ·cases h
 |@split k off lo n tc' sc' _ ih=>
  intro c hc R s K r h φ a w g;obtain⟨c',hn,I,hsim⟩:=jq P nt c;refine hsim _ _ _ ?_;rw[<- I] at hc;simp only[nV] at h;split at h
  ·rename_i kd v hv;obtain⟨j,hj,h2⟩:=NT h;subst hj;split at h2
   ·rename_i s1 Y;obtain⟨g1,hH,he⟩:=XM g hv Y;refine wp_mono (ih c' hc R s1 K r h2 φ a w g1) ?_;rintro e a' w' ⟨ex,s',φ',rfl,hk,g',st,M⟩;exact⟨ex,s',φ',rfl,hk,g',by rw[<- hH];exact st,λk hk v' U=>by
     obtain⟨v,Z,J⟩:=M k hk v' U;exact⟨v,by rw[<- he];exact Z,J⟩⟩
   ·cases h2
  ·cases h
 |@unl n b b' _ ih=>
  intro c hc R s K r h φ a w g;obtain⟨c',hn,I,hsim⟩:=jq P nt c;refine hsim _ _ _ ?_;rw[<- I] at hc;obtain⟨cb,rfl,h1⟩:=Oq hn hc;simp only[nV] at h
  let Inv:Nat->Act->World->Prop:=λm a w'=>∃ s1 φ1,ZU (λs K=>nV np con bL inert b s K) m s1 K=ajn r/\nD P E nt np φ1 s1 a w'/\AK np φ φ1 (bi s.h) (bi s1.h) w w'/\fm (b.asg 0) s.e s1.e
  refine AO Inv ?_ (n:=n) ⟨s,φ,h,g,AK.refl _ _ _ _,fm.refl _ _⟩;rintro m a1 w1 ⟨s1,φ1,hi,g1,Gn,kp1⟩;cases m with
  |zero=>cases hi
  |succ m=>
   simp only[ZU] at hi;refine wp_mono (ih cb h1 R s1 _ r hi φ1 a1 w1 g1) ?_;rintro e a' w' ⟨ex,s',φ',rfl,hk,g',st,M⟩;cases ex with
   |normal=>exact⟨m,AG m,s',φ',hk,g',Gn.trans st,kp1.trans M⟩
   |exit id=>exact⟨.exit id,s',φ',rfl,hk,g',Gn.trans st,kp1.trans M⟩
   |ret=>exact⟨.ret,s',φ',rfl,hk,g',Gn.trans st,kp1.trans M⟩
 |bad sc'=>
  intro c hc R s K r h;simp[nV] at h
theorem LZ {P:Program} {φ:PM} {E:Nat->Prop} {s:TS} {a:Act} {w:World} (hinv:kU s.h s.nx) (hiE:rT s.e s.h) (r:pM φ E (bi s.h) w) (en:LH φ (tot E φ (bi s.h)) w (eP s.e s.h) a):∀ (rs:List ResultVar) (rvs:List RV) (l:List TV),tX P rs=ajn rvs->Rs s rvs=ajn l->
 ∃ la vs,cj s.h l=ajn la/\(rs.mapM (Vm a.tmps)).run P w= .ok vs w/\ji φ (tot E φ (bi s.h)) w la vs
 |[],rvs,l,hc,hr=>by
  simp only[tX,aa] at hc;subst hc;simp only[Rs,aa] at hr;subst hr;exact⟨[],[],rfl,by simp,trivial⟩
 |.tmp t::rs,rvs,l,hc,hr=>by
  simp only[tX] at hc;split at hc
  ·rename_i rvs' hrs;simp only[aa] at hc;subst hc;simp only[Rs] at hr;split at hr
   ·rename_i v hv;split at hr
    ·rename_i M I;simp only[aa] at hr;subst hr;obtain⟨la,vs,h0,h1,U⟩:=LZ hinv hiE r en rs rvs' M hrs I;simp only[rvT] at hv;obtain⟨y,Z⟩:=oU s.h v (hiE t v hv);refine ⟨y::la,a.tmps.getD t undef::vs,nQ Z h0,?_,en t y (by simp only[eP,hv,aA,Z]),U⟩;simp only[List.mapM_cons,dI,Vm,nH,ci];show ((rs.mapM (Vm a.tmps)).run P w).andThen _=_;rw[h1];rfl
    ·cases hr
   ·cases hr
  ·cases hc
 |.cell ad t::rs,rvs,l,hc,hr=>by
  simp only[tX] at hc;split at hc
  ·rename_i rvs' sz ag hrs hsz hag;simp only[aa] at hc;subst hc;simp only[Rs] at hr;split at hr
   ·rename_i v hv;split at hr
    ·rename_i M I;simp only[aa] at hr;subst hr;obtain⟨la,vs,h0,h1,U⟩:=LZ hinv hiE r en rs rvs' M hrs I;simp only[rvT] at hv;split at hv
     ·rename_i id off hp;split at hv
      ·rename_i ty q hb;obtain⟨q',J⟩:=eJ s.h q (hinv.cells id ty q hb);obtain⟨y,e1,e2⟩:=T7 J hv;obtain⟨H,hH⟩:=iT s.h;have hR:Cv H sz ag (.ptr (nm id) off)=ajn ⟨y,[nm id],[],[],[]⟩:=by
        have hg:H.get (nm id)=ajn ⟨ty,.mx q'⟩:=by rw[hH,bt,hb];simp only[aA,jR,J]
        simp only[Cv,hg,e2]
       obtain⟨_,_,_,h3⟩:=Qy (P:=P) hsz hag hR;obtain⟨qq,Y,h4,h5,h6⟩:=h3 φ E (bi s.h) w _ (λi _=>by rw[hH]) r (en ad _ (by simp only[eP,hp,aA,bU]));refine ⟨y::la,Y::vs,nQ e1 h0,?_,h6,U⟩;have hone:(Vm a.tmps (.cell ad t)).run P w= .ok Y w:=by
        simp only[Vm,dI,h4,asAddr,nH,ci,h5]
       rw[List.mapM_cons];simp only[dI,hone,ci,h1,nH]
      ·cases hv
     ·cases hv
    ·cases hr
   ·cases hr
  ·cases hc
theorem DJ:∀ (args:List TV) (k t:Nat) (x:TV),(I0 k args).get t=ajn x->k<=t/\args[t-k]? =ajn x
 |[],k,t,x,h=>by simp[I0,PT.get] at h
 |y::args,k,t,x,h=>by
  rw[I0,PT.get_set] at h;split at h
  ·rename_i hk;subst hk;cases h;exact⟨bF _,by simp⟩
  ·obtain⟨h1,I⟩:=DJ args (k+1) t x h;refine ⟨by omega,?_⟩;rw[show t-k=t-(k+1)+1 from by omega];simpa using I
theorem X1 {h:aZ} {l:List TV} (J:jT h l=ajp) {j:Nat} {v:TV} (hj:l[j]? =ajn v):JE h v=ajp:=by
 obtain⟨M,hl⟩:=eJ h l J;obtain⟨y,_,I⟩:=kR hl j v hj;exact Dq _ _ _ I
theorem Rk {P:Program} {con:FuncId->Option bW} {bL:TypeId->Option Ty} {inert:FuncId->Bool} (hm:P.follows .mixedOrders=ajp) (hcon:Jl P con) (hin:Jg P inert) {f:FuncId} {sf:SF} (hf:xW P f=ajn sf) (D:FT) (m:D.pre.ty.den->Option D.post.ty.den) (hmod:∀ x y,m x=ajn y->XG con bL inert (ajn sf) D x=ajn y):oH P f ⟨D.pre,D.post,m⟩:=by
 obtain⟨fn,c,hfn,hb,hnm,hcode,hres,hnt⟩:=Qk hf;refine ⟨⟨fn,hfn,by rw[hb];rfl,hnm⟩,λx y hxy vs hp l1 rs hq l2 la lr I J hla hlr φ E w us hrep hrel hdom=>?_⟩;have ht:=hmod x y hxy;unfold XG at ht;simp only[] at ht;split at ht
 ·rename_i args h hins;obtain⟨l1',I'⟩:=uQ hins;have e1:args=vs:=by have h1:=I.pv;have U:=I'.pv;rw[h1] at U;cases U;rfl
  have e2:l1'=l1:=by have h1:=I.pb;have U:=I'.pb;rw[h1] at U;cases U;rfl
  subst e1;subst e2;have hget:∀ i,h.get i=hp.get i:=λi=>by
   cases h3:hp.get i with
   |some b=>exact (I'.at_ i b).2 ((I.at_ i b).1 h3)
   |none=>
    cases h4:h.get i with
    |none=>rfl
    |some b=>have:=(I.at_ i b).2 ((I'.at_ i b).1 h4);rw[h3] at this;cases this
  have hrow:∀ i,dE h i=dE hp i:=λi=>by rw[bD,bD,hget]
  have herH:bi h=bi hp:=by
   funext n;by_cases hn:∃ i,n=nm i
   ·obtain⟨i,rfl⟩:=hn;rw[bt,bt,hget];cases h3:hp.get i with
    |none=>rfl
    |some b=>
     simp only[aA];refine HP (λi r hr=>by rw[hrow];exact hr) λty l e=>?_
     exact (I.cells i ty l (by rw[h3,e])).1
   ·rw[uV _ hn,uV _ hn]
  have hla':cj h args=ajn la:=ic (λi r hr=>by rw[hrow];exact hr) args la hla;split at ht
  ·rename_i hle;simp only[aj] at hle;have hle2:=aR hle.2;have hle:=aR hle.1;have hlen:=hrel.length;have hargl:args.length=la.length:=(iD hla).symm;refine calls_of_wp_defers hfn hb ?_;have hcfg:nD P E fn.ntmps D.pre.bs.length φ ⟨I0 0 args,h,D.pre.bs.length⟩ {tmps:=us.toArray++ng (fn.ntmps-us.toArray.size) undef,defers:=[]} w:=by
    refine ⟨by rw[herH];exact hrep,?_,hdom,bF _,⟨λi ty l hl=>(I'.cells i ty l hl).1,λi b hbb=>I'.lt_len hbb⟩,?_,by simp,by simp;omega⟩
    ·intro t z Y;simp only[eP] at Y;cases hx:(I0 0 args).get t with
     |none=>rw[hx] at Y;cases Y
     |some v0=>
      rw[hx] at Y;obtain⟨_,U⟩:=DJ args 0 t v0 hx;rw[Nat.sub_zero] at U;obtain⟨y0,q1,Z⟩:=kR hla' t v0 U;simp only[aA] at Y;rw[Y] at Z;cases Z;obtain⟨v,h3,h4⟩:=hrel.get t z q1;have hlt:t<us.length:=(a8.1 h3).1;have:(us.toArray++ng (fn.ntmps-us.toArray.size) undef).getD t undef=v:=by
       rw[fI,Array.getElem?_append];simp only[rF,hlt,if_true,jA,h3,tm]
      show cq φ _ w z ((us.toArray++ng (fn.ntmps-us.toArray.size) undef).getD t undef);rw[this,herH];exact h4
    ·intro t v0 hv0;obtain⟨_,U⟩:=DJ args 0 t v0 hv0;exact X1 I'.ok U
   refine wp_mono (adr (E:=E) hm hcon hin (wu D.hints sf.code 0) c hcode.symm _ _ _ _ ht φ _ w hcfg) ?_;rintro e a' w' ⟨ex,s',φ',rfl,hk,g',st,_⟩;have fin:(match Rs s' sf.res with
    |some l=>(match CZ D.pre.bs.length D.post l s'.h with
     |some ⟨y,_,_,_⟩=>(match Bw D.post y with|some _=>ajn y|none=>ajo)
     |none=>ajo)
    |none=>ajo)=ajn y->Leaves P fn a'.tmps (λen w'=>∃ v φ',en= .returned v/\Jj (own φ (bi hp)) w w'/\(∀ k,k<w.heap.size->own φ' (bi hq) k->own φ (bi hp) k)/\(∀ i,i<D.pre.bs.length->φ' (nm i)=φ (nm i))/\pM φ' E (bi hq) w'/\cq φ' (tot E φ' (bi hq)) w' (CJ lr) v) a'.defers .returning w':=by
    intro hk;split at hk
    ·rename_i l hl;split at hk
     ·rename_i y' m' σ sm hM;split at hk
      ·simp only[aa] at hk;subst hk;obtain⟨lo,rvs,q0,q1,Z⟩:=LZ g'.invH g'.invE g'.rep g'.env fn.results.toList sf.res l hres hl;have M:=uL hM;obtain⟨φ2,lu,hlu,S⟩:=Jz (np:=D.pre.bs.length) (E:=E) J g'.invH M q0 g'.rep;rw[hlr] at hlu;cases hlu;have hresults:(results fn a'.tmps).run P w'= .ok (if h:rvs.toArray.size=1 then rvs.toArray[0] else .tuple rvs.toArray) w':=by
        rw[Ru,Array.mapM_eq_mapM_toList];simp only[dI,Sem.run_map,q1,ci,nH]
       have hrl:ji φ2 (tot E φ2 (bi hq)) w' lr rvs:=by
        refine ji.of (by rw[Z.length,S.len]) λj z v Y hv=>?_
        obtain⟨z0,p1,p2⟩:=S.val j z v Y;obtain⟨v',p3,p4⟩:=Z.get j z0 p1;rw[hv] at p3;cases p3;exact p2 p4
       have hval:cq φ2 (tot E φ2 (bi hq)) w' (CJ lr) (if h:rvs.toArray.size=1 then rvs.toArray[0] else .tuple rvs.toArray):=by
        have hll:=hrl.length;clear hlr S;cases lr with
        |nil=>
         cases rvs with
         |nil=>exact cq.tup (vs:=[]) rfl (by intro j x v hx;simp at hx)
         |cons _ _=>exact hrl.elim
        |cons z lr=>
         cases rvs with
         |nil=>exact hrl.elim
         |cons v rvs=>
          cases lr with
          |nil=>
           cases rvs with
           |nil=>exact hrl.1
           |cons _ _=>exact hrl.2.elim
          |cons y l=>
           cases rvs with
           |nil=>exact hrl.2.elim
           |cons u rvs=>
            rw[dif_neg (by simp)];refine cq.tup (vs:=v::u::rvs) (by simpa using hll) λj x' v' hx hv=>?_
            obtain⟨v'',q1,Z⟩:=hrl.get j x' hx;rw[hv] at q1;cases q1;exact Z
       have st':AK D.pre.bs.length φ φ' (bi hp) (bi s'.h) w w':=by rw[<- herH];exact st
       refine Bq hresults ⟨_,φ2,rfl,st'.ext,λk hk ho=>st'.own_ k hk (S.own_ k ho),λi hi=>?_,S.rep,hval⟩ a'.defers g'.inert;rw[S.par i hi (cU hi hle2),st'.par i hi]
      ·cases hk
     ·cases hk
    ·cases hk
   cases ex with
   |normal=>exact fin hk
   |ret=>exact fin hk
   |exit id=>cases hk
  ·cases ht
 ·cases ht
def Tb:List (FuncId×bW)->FuncId->Option bW
 |[],_=>ajo
 |(g,c)::r,f=>if av g f then ajn c else Tb r f
def Rb (P:Program):List (FuncId×bW)->Prop
 |[]=>True
 |p::r=>aC P p.1 p.2/\Rb P r
theorem UT {P:Program}:∀ {l:List (FuncId×bW)},Rb P l->Jl P (Tb l)
 |[],_,f,c,h=>by simp[Tb] at h
 |(g,d)::r,I,f,c,h=>by
  simp only[Tb] at h;split at h
  ·rename_i hb;have:=ak hb;subst this;cases h;exact I.1
  ·exact UT I.2 f c h
theorem OX {P:Program} {inert:FuncId->Bool} (hm:P.follows .mixedOrders=ajp) (hin:Jg P inert) {l:List (FuncId×bW)} (I:Rb P l) {bL:TypeId->Option Ty} {f:FuncId} {D:FT} {m:D.pre.ty.den->Option D.post.ty.den} (hs:(xW P f).isSome=ajp) (he:∀ x,XG (Tb l) bL inert (xW P f) D x=m x):oH P f ⟨D.pre,D.post,m⟩:=by
 obtain⟨J,hf⟩:=gR.1 hs;exact Rk hm (UT I) hin hf D m λx y hxy=>by rw[<- hf,he];exact hxy
theorem oH.sub {P:Program} {f:FuncId} {pre post:Tm} {m m':pre.ty.den->Option post.ty.den} (h:oH P f ⟨pre,post,m⟩) (hs:∀ x y,m' x=ajn y->m x=ajn y):oH P f ⟨pre,post,m'⟩:=
 ⟨h.callable,λx y hxy=>h.calls x y (hs x y hxy)⟩
theorem aC.sub {P:Program} {f:FuncId} {pre post:Tm} {m m':pre.ty.den->Option post.ty.den} (h:aC P f ⟨pre,post,m⟩) (hb:dJ pre.bs.length post.bs.length=ajp) (hs:∀ x y,m' x=ajn y->m x=ajn y):aC P f ⟨pre,post,m'⟩:=
 ((h.holds hb).sub hs).toC hb
theorem qm {α:Type} {b:Nat}:∀ (x y:List α),chk (aT (af x) b) (λ_=>ajn x)=ajn y->bcase (av (af x) 0) (DH (ajn ([]:List α)) (chk (aT (af ([]:List α)+af x) b) λ_=>(ajn (([]:List α)++x)))) (chk (aT (af ([]:List α)+af x) b) λ_=>(ajn (([]:List α)++x)))=ajn y:=by
 intro x y h;rw[kE,je,bz,h];cases x with
 |nil=>
  obtain⟨_,h⟩:=dA h;cases h;show DH (ajn []) (ajn [])=_;unfold DH;rw[if_pos rfl]
 |cons a r=>rfl
theorem Sb {P:Program} {f:FuncId} {pre post:Tm} (hs:(xW P f).isSome=ajp):oH P f ⟨pre,post,λ_=>ajo⟩:=by
 obtain⟨I,hf⟩:=gR.1 hs;obtain⟨fn,c,hfn,hb,hnm,_⟩:=Qk hf;exact⟨⟨fn,hfn,by rw[hb];rfl,hnm⟩,λx y h=>by cases h⟩
theorem oH.orElse {P:Program} {f:FuncId} {pre post:Tm} {m m':pre.ty.den->Option post.ty.den} (h:oH P f ⟨pre,post,m⟩) (h':oH P f ⟨pre,post,m'⟩):oH P f ⟨pre,post,λx=>match m x with|some y=>ajn y|none=>m' x⟩:=
 ⟨h.callable,λx y hxy=>by
   cases hm:m x with
   |some z=>rw[show (bW.m ⟨pre,post,λx=>match m x with|some y=>ajn y|none=>m' x⟩ x)=ajn z by show (match m x with|some y=>ajn y|none=>m' x)=ajn z;rw[hm]] at hxy;cases hxy;exact h.calls x _ hm
   |none=>rw[show (bW.m ⟨pre,post,λx=>match m x with|some y=>ajn y|none=>m' x⟩ x)=m' x by show (match m x with|some y=>ajn y|none=>m' x)=m' x;rw[hm]] at hxy;exact h'.calls x y hxy⟩
theorem aC.orE {P:Program} {f:FuncId} {pre post:Tm} {m m':pre.ty.den->Option post.ty.den} (hb:dJ pre.bs.length post.bs.length=ajp) (h:aC P f ⟨pre,post,m⟩) (h':aC P f ⟨pre,post,m'⟩):aC P f ⟨pre,post,λx=>AI.orE (m x) (m' x)⟩:=by
 have e:(λx=>AI.orE (m x) (m' x))=λx=>match m x with|some y=>ajn y|none=>m' x:=by funext x;cases m x<;>rfl
 rw[e];exact ((h.holds hb).orElse (h'.holds hb)).toC hb
def XB (P:Program) (f:Ty->TypeId->Bool):List Field->Nat->Ty->Bool
 |[],_,.un=>ajp
 |[x],off,T=>av x.offset off&&f T x.type&&av (P.cellsOf x.type) T.size
 |x::y::r,off,.pr a b=>av x.offset off&&f a x.type&&av (P.cellsOf x.type) a.size&&XB P f (y::r) (off+a.size) b
 |_,_,_=>ajq
def Rj (P:Program) (f:Ty->TypeId->Bool) (e:TypeId):Nat->Ty->Bool
 |1,T=>f T e&&av (P.cellsOf e) T.size
 |m+2,.pr a b=>f a e&&av (P.cellsOf e) a.size&&Rj P f e (m+1) b
 |_,_=>ajq
def zM (P:Program):Nat->Ty->TypeId->Bool
 |0,_,_=>ajq
 |n+1,T,t=>match T,P.underlying t with
  |.int k,ajn (.int I)=>k==I
  |.bool,ajn .bool=>ajp
  |.str,ajn .string=>ajp
  |.sl U,ajn (.slice e)=>zM P n U e&&av (P.cellsOf e) U.size&&fd 0 U.size
  |.st U,ajn (.struct fs)=>XB P (zM P n) fs.toList 0 U&&av (P.cellsOf t) U.size
  |.st U,ajn (.array m e)=>Rj P (zM P n) e m U&&av (P.cellsOf t) U.size
  |_,_=>ajq
def T3:(T:Ty)->T.den->Prop
 |.int k,n=>(Lit.int k n).wf=ajp
 |.str,s=>af s<=maxLen
 |.sl U,xs=>af xs<=maxLen/\∀ x∈(xs:List U.den),T3 U x
 |.st t,v=>T3 t v
 |.pr a b,v=>T3 a v.1/\T3 b v.2
 |_,_=>True
def Ja (W:World) (T:Ty) (x:T.den) (cs:List Value):Prop:=cs.length=T.size/\∀ (j:Nat) y v,(bC T x)[j]? =ajn y->cs[j]? =ajn v->mj (λ_=>False) W y v
theorem IN {α:Type} (z:α) (P:Nat->α->Prop):∀ n:Nat,(∀ i,i<n->∃ a,P i a)->∃ l:List α,l.length=n/\∀ i x,l[i]? =ajn x->P i x
 |0,_=>⟨[],rfl,λi x h=>by simp at h⟩
 |n+1,h=>by
  obtain⟨l,hl,hp⟩:=IN z P n (λi hi=>h i (by omega));obtain⟨a,J⟩:=h n (by omega);refine ⟨l++[a],by simp[hl],λi x I=>?_⟩;by_cases hi:i<l.length
  ·rw[bA hi] at I;exact hp i x I
  ·rw[bJ (by omega)] at I;by_cases h0:i-l.length=0
   ·rw[h0] at I;simp at I;subst I;rw[show i=n from by omega];exact J
   ·rw[bB (by simp;omega)] at I;cases I
theorem Addr.add_plain {a:Addr} (h:a.spot=ajo) (n:Nat):a.add n=⟨a.block,a.off+n,ajo⟩:=by
 unfold Addr.add;split
 ·rename_i h0;subst h0;cases a;simp at h;subst h;rfl
 ·rfl
theorem Wr {w:World} {a:Addr} {v:Value} (h:w.cell? a=ajn v):a.spot=ajo:=by
 unfold LL at h;split at h
 ·split at h
  ·cases h
  ·rename_i hs;cases hh:a.spot with
   |none=>rfl
   |some _=>simp[hh] at hs
 ·cases h
theorem Ja.sub {W:World} {T:Ty} {x:T.den} {cs:List Value} {off n:Nat} (h:Ja W T x ((cs.drop off).take n)) (hn:n=T.size) (hl:off+n<=cs.length):∀ (j:Nat) y v,(bC T x)[j]? =ajn y->cs[off+j]? =ajn v->mj (λ_=>False) W y v:=λj y v I hv=>by
 refine h.2 j y v I ?_;have hj:j<T.size:=by have:=(a8.1 I).1;rwa [bl] at this
 rw[cr,if_pos (by omega),fZ];exact hv
section
variable {H:Type} {enc:TypeId×Value->H} {P:Program} {W:World} {base:Nat} {sp:Nat->Bool} {hd:Bool}
theorem Uk {f:Ty->TypeId->Bool} {m:Nat} (M:∀ (T:Ty) (t:TypeId) (cs:List Value) x,f T t=ajp->DataW.trod enc P W base sp hd m t cs=ajn x->∃ v,Ja W T v cs/\T3 T v) (cs:List Value) (ts:List (DataW H×List MemPlace)):
 ∀ (fs:List Field) (off k:Nat) (T:Ty),XB P f fs off T=ajp->off+T.size<=cs.length->(∀ (i:Nat) (fl:Field),fs[i]? =ajn fl->∃ z,DataW.trod enc P W base sp hd m fl.type ((cs.drop fl.offset).take (P.cellsOf fl.type))=ajn z)->
 ∃ v,(∀ (j:Nat) y u,(bC T v)[j]? =ajn y->cs[off+j]? =ajn u->mj (λ_=>False) W y u)/\T3 T v
 |[],off,k,.un,_,_,_=>⟨(),λj y u I=>by simp[bC] at I,trivial⟩
 |[x],off,k,T,h,hl,hg=>by
  simp only[XB,aj] at h;obtain⟨⟨h1,h2⟩,J⟩:=h;have h1:=ak h1;have J:=ak J;obtain⟨z,U⟩:=hg 0 x rfl;obtain⟨v,hv,Z⟩:=M T _ _ _ h2 U;rw[h1] at hv;exact⟨v,hv.sub J (by omega),Z⟩
 |x::x'::r,off,k,.pr a b,h,hl,hg=>by
  simp only[XB,aj] at h;obtain⟨⟨⟨h1,h2⟩,J⟩,h4⟩:=h;have h1:=ak h1;have J:=ak J;simp only[Ty.size] at hl;obtain⟨z,U⟩:=hg 0 x rfl;obtain⟨v,hv,Z⟩:=M a _ _ _ h2 U;rw[h1] at hv;have hv:=hv.sub J (by omega);obtain⟨v',hv',Y⟩:=Uk M cs ts (x'::r) (off+a.size) (k+1) b h4 (by omega) (λi fl hi=>hg (i+1) fl (by simpa using hi));refine ⟨(v,v'),λj y u I hu=>?_,Z,Y⟩;simp only[bC] at I;by_cases hj:j<a.size
  ·rw[bA (by rw[bl];exact hj)] at I;exact hv j y u I hu
  ·rw[bJ (by rw[bl];omega),bl] at I;exact hv' _ y u I (by rw[show off+a.size+(j-a.size)=off+j from by omega];exact hu)
theorem Ul {f:Ty->TypeId->Bool} {m:Nat} {e:TypeId} (J:∀ (T:Ty) (t:TypeId) (cs:List Value) x,f T t=ajp->DataW.trod enc P W base sp hd m t cs=ajn x->∃ v,Ja W T v cs/\T3 T v) (cs:List Value):
 ∀ (n i:Nat) (T:Ty),Rj P f e n T=ajp->i*P.cellsOf e+T.size<=cs.length->(∀ j,j<n->∃ z,DataW.trod enc P W base sp hd m e ((cs.drop ((i+j)*P.cellsOf e)).take (P.cellsOf e))=ajn z)->
 ∃ v,(∀ (j:Nat) y u,(bC T v)[j]? =ajn y->cs[i*P.cellsOf e+j]? =ajn u->mj (λ_=>False) W y u)/\T3 T v
 |0,i,T,h,_,_=>by unfold Rj at h;cases h
 |1,i,T,h,hl,hg=>by
  simp only[Rj,aj] at h;have h3:=ak h.2;obtain⟨z,M⟩:=hg 0 (by omega);obtain⟨v,hv,Y⟩:=J T _ _ _ h.1 M;rw[cN] at hv;exact⟨v,hv.sub h3 (by omega),Y⟩
 |n+2,i,T,h,hl,hg=>by
  cases T with
  |pr a b=>
   simp only[Rj,aj] at h;obtain⟨⟨h1,h2⟩,h4⟩:=h;have h3:=ak h2;simp only[Ty.size] at hl;obtain⟨z,M⟩:=hg 0 (by omega);obtain⟨v,hv,Y⟩:=J a _ _ _ h1 M;rw[cN] at hv;have hv:=hv.sub h3 (by omega);obtain⟨v',Z,U⟩:=Ul J cs (n+1) (i+1) b h4 (by rw[LN,Nat.one_mul];omega) (λj hj=>by have:=hg (j+1) (by omega);rwa [show i+(j+1)=i+1+j from by omega] at this);refine ⟨(v,v'),λj y u I hu=>?_,Y,U⟩;simp only[bC] at I;by_cases hj:j<a.size
   ·rw[bA (by rw[bl];exact hj)] at I;exact hv j y u I hu
   ·rw[bJ (by rw[bl];omega),bl] at I;exact Z _ y u I (by rw[LN,Nat.one_mul,show i*P.cellsOf e+P.cellsOf e+(j-a.size)=i*P.cellsOf e+j from by omega];exact hu)
  |_=>unfold Rj at h;cases h
theorem FR:∀ (n:Nat) (T:Ty) (t:TypeId) (fuel:Nat) (cs:List Value) x,zM P n T t=ajp->(∀ b,sp b=ajp)->DataW.trod enc P W base sp hd fuel t cs=ajn x->∃ v,Ja W T v cs/\T3 T v
 |0,_,_,_,_,_,h,_,_=>by unfold zM at h;cases h
 |n+1,T,t,fuel,cs,x,h,hsp,ht=>by
  unfold zM at h;split at h
  ·rename_i k k' hu;have hk:=eq_of_beq h;subst hk;obtain⟨m,rfl,_,M⟩:=DataW.trod_int hu ht;refine ⟨m,⟨rfl,λj y v I hv=>?_⟩,M⟩;cases j with
   |zero=>simp[bC] at I hv;subst I hv;exact .raw _
   |succ j=>simp[bC] at I
  ·rename_i hu;obtain⟨b,rfl,_⟩:=DataW.trod_bool hu ht;refine ⟨b,⟨rfl,λj y v I hv=>?_⟩,trivial⟩;cases j with
   |zero=>simp[bC] at I hv;subst I hv;exact .raw _
   |succ j=>simp[bC] at I
  ·rename_i hu;obtain⟨s,rfl,_,hs⟩:=DataW.trod_string hu ht;refine ⟨s.data.toList,⟨rfl,λj y v I hv=>?_⟩,by simpa[T3] using hs⟩;cases j with
   |zero=>simp[bC] at I hv;subst I hv;exact .raw _
   |succ j=>simp[bC] at I
  ·rename_i U e hu;simp only[aj] at h;obtain⟨⟨h1,J⟩,h3⟩:=h;have J:=ak J;have h3:0<U.size:=aR h3;rcases Go.Deep.open_slice hu ht with ⟨rfl,_⟩|⟨a,len,cap,m,k,D,Pl,rfl,hb,hl,hm,hmm,_,hi⟩
   ·refine ⟨[],⟨rfl,λj y v I hv=>?_⟩,by simp[T3]⟩;cases j with
    |zero=>simp[bC] at I hv;subst I hv;exact .nil _ _ (by unfold maxLen;omega)
    |succ j=>simp[bC] at I
   ·rw[hsp,if_pos rfl] at hmm;rw[J] at hi;obtain⟨xs,hx1,Z⟩:=IN U.zero (λi (v:U.den)=>∃ cs',W.cells? base (a.add (i*U.size)) U.size=ajn cs'/\Ja W U v cs'/\T3 U v) len (λi hil=>by
     obtain⟨cs',hc,htt⟩:=hi i (by omega);obtain⟨v,hv,M⟩:=FR n U e k cs' _ h1 hsp htt;exact⟨v,cs',hc,hv,M⟩)
    refine ⟨xs,⟨rfl,λj y v I hv=>?_⟩,by show af xs<=maxLen;omega,λy I=>?_⟩
    ·cases j with
     |succ j=>simp[bC] at I
     |zero=>
      simp[bC] at I hv;subst I hv;by_cases h0:len=0
      ·have:xs=[]:=fK.1 (by omega);subst this;subst h0;exact .nil _ _ hm
      ·obtain⟨x0,hx0⟩:∃ x0,xs[0]? =ajn x0:=⟨xs[0]'(by omega),ar (by omega)⟩
       obtain⟨cs0,hc0,_⟩:=Z 0 x0 hx0;obtain⟨_,hcl0,hat0⟩:=World.cells?_some hc0;have hca:=hat0 0 h3;rw[ar (by omega)] at hca;have hspot:a.spot=ajo:=by
        have:=Wr hca;simpa[Addr.add] using this
       have hblk:=World.block_lt_of_cell? W _ hca;rw[Nat.zero_mul,Addr.add_plain hspot,Addr.add_plain rfl] at hca hblk;have hcell:∀ (i j:Nat) x,xs[i]? =ajn x->j<U.size->∃ cs',W.cell? ⟨a.block,a.off+(i*U.size+j),ajo⟩=cs'[j]? /\j<cs'.length/\Ja W U x cs':=λi j x hx hj=>by
        obtain⟨cs',hc,hr,_⟩:=Z i x hx;obtain⟨_,hcl,hat⟩:=World.cells?_some hc;have:=hat j hj;rw[Addr.add_plain hspot,Addr.add_plain rfl,qX] at this;exact⟨cs',this,by omega,hr⟩
       have hflat:∀ j,j<xs.length*U.size->∃ x,xs[j/U.size]? =ajn x/\j%U.size<U.size/\j=j/U.size*U.size+j%U.size:=λj hj=>by
        have h5:j/U.size<xs.length:=Nat.div_lt_of_lt_mul (by rw[FL];exact hj);exact⟨xs[j/U.size],ar h5,Nat.mod_lt _ h3,by rw[FL];exact (Nat.div_add_mod j U.size).symm⟩
       have hlen:(List.flatMap (bC U) xs).length=xs.length*U.size:=eA (bl U) xs;obtain⟨ab,ao,az⟩:=a;cases hspot;rw[<- hx1];refine .sl (List.flatMap (bC U) xs) xs.length cap ab ao (λj=>(W.cell? ⟨ab,ao+j,ajo⟩).getD undef) (by omega) hm (λh=>h) hblk (qj U xs) (λj hj=>?_) (λj y I=>?_)
       ·obtain⟨x,hx,hjs,hje⟩:=hflat j (by omega);obtain⟨cs',g1,g2,_⟩:=hcell _ _ x hx hjs;rw[<- hje] at g1;simp only[g1,ar g2,tm]
       ·have hj:j<xs.length*U.size:=by rw[<- hlen];exact (a8.1 I).1
        obtain⟨x,hx,hjs,hje⟩:=hflat j hj;obtain⟨cs',g1,g2,g3⟩:=hcell _ _ x hx hjs;rw[<- hje] at g1;simp only[g1];rw[ar g2];refine g3.2 (j%U.size) y _ ?_ (ar g2);obtain⟨r,hr⟩:=Do (bl U) xs (j/U.size) x hx;have:((List.flatMap (bC U) xs).drop (j/U.size*U.size))[j%U.size]? =ajn y:=by rw[fZ,<-hje];exact I
        rw[hr,bA (by rw[bl];exact hjs)] at this;exact this
    ·obtain⟨i,Y⟩:=dW I;obtain⟨_,_,_,M⟩:=Z i y Y;exact M
  ·rename_i U fs hu;simp only[aj] at h;have J:=ak h.2;obtain⟨xs,m,rfl,_,hl,hxl,hg⟩:=DataW.trod_struct hu ht;obtain⟨v,hv,M⟩:=Uk (f:=zM P n) (m:=m) (λT t cs x h1 J=>FR n T t m cs x h1 hsp J) cs xs fs.toList 0 0 U h.1 (by omega) (λi fl hi=>by
    have Y:fs[i]? =ajn fl:=by simpa using hi
    have:=hg i fl Y;have hlt:i<xs.length:=by rw[hxl];exact (b9.1 Y).1
    rw[ar hlt] at this;exact⟨_,this⟩)
   exact⟨v,⟨by rw[hl,J];rfl,λj y u I hu=>hv j y u I (by rw[bz];exact hu)⟩,M⟩
  ·rename_i U m e hu;simp only[aj] at h;have J:=ak h.2;obtain⟨xs,q,rfl,_,hl,hxl,hg⟩:=DataW.trod_array hu ht;obtain⟨v,hv,M⟩:=Ul (f:=zM P n) (m:=q) (λT t cs x h1 J=>FR n T t q cs x h1 hsp J) cs m 0 U h.1 (by omega) (λj hj=>by
    have:=hg j hj;rw[ar (by omega)] at this;rw[bz];exact⟨_,this⟩)
   exact⟨v,⟨by rw[hl,J];rfl,λj y u I hu=>hv j y u I (by rw[Nat.zero_mul,bz];exact hu)⟩,M⟩
  ·cases h
theorem Og {n:Nat} {T:Ty} {t:TypeId} {v:Value} {r:Reach} {bs:Nat} (I:zM P n T t=ajp) (h1:T.one=ajp) (h:FI P W r bs t v):v.cells.toList=[v]:=by
 cases n with
 |zero=>unfold zM at I;cases I
 |succ n=>
  unfold zM at I;unfold FI at h;cases v with
  |agg cs=>
   exfalso;split at I<;>rename_i hu<;>first|(rw [hu] at h;simp only[] at h;unfold Cell.okWide at h;rw[hu] at h;unfold Cell.ok at h;rw[hu] at h;simp at h)|cases h1|cases I
  |_=>rfl
theorem Rw {n:Nat} {T:Ty} {t:TypeId} {v:Value} {r:Reach} {bs:Nat} (I:zM P n T t=ajp) (h1:T.one=ajq) (h:FI P W r bs t v):∃ cs,v= .agg cs:=by
 cases n with
 |zero=>unfold zM at I;cases I
 |succ n=>
  unfold zM at I;unfold FI at h;split at I<;>rename_i hu<;>first|(rw [hu] at h;obtain⟨cs,h,_⟩:=h;exact⟨cs,h⟩)|cases h1|cases I
theorem open_arg {n:Nat} {T:Ty} {t:TypeId} {v:Value} {d:DataW H} {ps:List MemPlace} {r:Reach} {bs:Nat} (J:zM P n T t=ajp) (hsp:∀ b,sp b=ajp) (hok:FI P W r bs t v) (h:DataW.Trod enc P W base sp hd t v d ps):∃ x,mj (λ_=>False) W (fM T x) v/\T3 T x:=by
 obtain⟨fuel,hf⟩:=h;obtain⟨x,I,U⟩:=FR n T t fuel _ _ J hsp hf;refine ⟨x,?_,U⟩;by_cases h1:T.one=ajp
 ·obtain⟨e1,e2⟩:=BS T x h1;exact I.2 0 _ v (by rw[e1];rfl) (by rw[Og J h1 hok];rfl)
 ·obtain⟨cs,rfl⟩:=Rw J (by simpa using h1) hok;rw[po T x (by simpa using h1)];have hl:cs.toList.length=(bC T x).length:=by rw[bl];exact I.1
  have:=mj.agg (O:=λ_=>False) (w:=W) (bC T x) cs.toList hl (mM T x) (λj y u M hu=>I.2 j y u M hu);simpa using this
end
theorem UZ {z:Int} (h:(Lit.int .u8 z).wf=ajp):0<=z/\z<=255:=⟨of_decide_eq_true (s6.1 h).1,of_decide_eq_true (s6.1 h).2⟩
theorem HBAgrees_law (x:List Int×List Int×List Int) (w:T3 (.st (.pr (.sl (.int .u8)) (.pr (.sl (.int .u8)) (.sl (.int .u8))))) x):kM x=ajn ajp:=by
 obtain⟨a,b,c⟩:=x;obtain⟨⟨l0,w0⟩,_,⟨l2,J⟩⟩:=w;obtain⟨y,h,rfl⟩:=Jh a b c l0 (λz I=>UZ (w0 z I)) l2 (λz I=>UZ (J z I)) Tz;exact h
def inert (f:FuncId):Bool:=av f 42
theorem Ou:∃ I,Tryz.prog.underlying 20=ajn (.interface I):=⟨#[],by kernel_rfl⟩
theorem Yk (w:World):(Op.equal 20 .nilIface .nilIface).run Tryz.prog w= .ok ajp w:=by
 obtain⟨I,hu⟩:=Ou;have key:∀ d,(Op.equalIn (d+1) 20 .nilIface .nilIface).run Tryz.prog w= .ok ajp w:=λd=>by simp[Op.equalIn,run_underlying hu]
 exact key 9999
theorem XY {P:Program} {ops:Array Oper} {Q:Exit->Act->List Frame->World->Prop} {i:Nat} {rest:List Nat} {a:Act} {cs:List Frame} {w w':World} {o:Oper} (J:ops[i]? =ajn o) (I:o.guard=ajo) (hr:(execOp a.eval o).run P w= .ok .recover w') (hn:recoverD cs=ajo) (h:wpOpsS P ops Q rest (a.put o.dst .nilIface) cs w'):wpOpsS P ops Q (i::rest) a cs w:=by
 have I:gQ o (yielded ops a.tmps)=ajp:=by unfold gQ;rw[I]
 simp only[wpOpsS,J,I,if_true,hr,hn];exact h
theorem XX {P:Program} {ops:Array Oper} {Q:Exit->Act->List Frame->World->Prop} {i:Nat} {rest:List Nat} {a:Act} {cs:List Frame} {w w':World} {o:Oper} {v:Value} (J:ops[i]? =ajn o) (I:o.guard=ajo) (hr:(execOp a.eval o).run P w= .ok (.value v) w') (h:wpOpsS P ops Q rest (a.put o.dst v) cs w'):wpOpsS P ops Q (i::rest) a cs w:=by
 have I:gQ o (yielded ops a.tmps)=ajp:=by unfold gQ;rw[I]
 simp only[wpOpsS,J,I,if_true,hr];exact h
theorem Ot:Jg Tryz.prog inert:=by
 intro f hf;have hf:f=42:=ak hf;subst hf;refine ⟨⟨Tryz.f42,Tryz.func42,by kernel_rfl,by kernel_rfl⟩,λargs w=>?_⟩;refine callsD_of_wpS Tryz.func42 rfl λc₀ cs hu=>?_
 refine wpS_seq (wpS_region ?_);generalize ht:(args++ng (Tryz.f42.ntmps-args.size) undef)=T;have hs:5<=T.size:=by
  rw[<- ht];simp only[Array.size_append,Array.size_replicate];have:Tryz.f42.ntmps=5:=rfl;omega
 have hr:recoverD (c₀::cs)=ajo:=by simp[recoverD,hu]
 refine XY (i:=0) (rest:=[1]) rfl rfl (w':=w) ?_ hr ?_
 ·simp[execOp,resolve,invoke,builtin]
 refine XX (v:=.bool ajq) rfl rfl (w':=w) ?_ ?_
 ·have hv:Act.eval (LO {tmps:=T,defers:=[]} (ajn 2) .nilIface) (.tmp 2)= .nilIface:=by
   simp[Act.eval,LO,show 2<T.size by omega]
  have I:=Yk w;have hcst:Act.eval (LO {tmps:=T,defers:=[]} (ajn 2) .nilIface) (.const .nilIface)= .nilIface:=rfl;show (execOp (Act.eval (LO {tmps:=T,defers:=[]} (ajn 2) .nilIface)) _).run _ w=_;simp[execOp,hv,hcst,eqGuard,binOp,I]
 show Exit.thenS _ _ .normal _ _ _;refine wpS_cond (t:=ajq) ?_ ?_
 ·simp[Act.eval,LO,show 3<T.size by omega]
 refine wpS_of_wp (wp_skip ?_);have hres:Tryz.f42.results=#[]:=rfl;exact⟨rfl,c₀.mode,rfl,.tuple #[],by simp[results,hres],⟨_,rfl⟩,hu,rfl⟩
def dh {α:Type}:List (Nat×α)->PT α
 |[]=>.leaf
 |p::r=>(dh r).set p.1 (ajn p.2)
noncomputable abbrev Pg:Program:=Tryz.prog
def cn (D:FT) (m:D.pre.ty.den->Option D.post.ty.den):bW:=⟨D.pre,D.post,m⟩
theorem ah9:Pg.follows .mixedOrders=ajp:=by kernel_rfl
theorem ac {f:FuncId} {c:bW} {l:List (FuncId×bW)} (h:aC Pg f c) (t:Rb Pg l):Rb Pg ((f,c)::l):=⟨h,t⟩
theorem an:Rb Pg []:=trivial
theorem mk {f:FuncId} (D:FT) (m:D.pre.ty.den->Option D.post.ty.den) {l:List (FuncId×bW)} (J:Rb Pg l) (I:TypeId->Option Ty) (he:∀ x,XG (Tb l) I inert (xW Pg f) D x=m x:=by intro x;kernel_rfl) (hs:(xW Pg f).isSome=ajp:=by kernel_rfl) (hb:dJ D.pre.bs.length D.post.bs.length=ajp:=by kernel_rfl):aC Pg f (cn D m):=(OX ah9 Ot J hs he).toC hb
theorem xd {f:FuncId} (D:FT) (m n:D.pre.ty.den->Option D.post.ty.den) (J:∀ x,bT (m x) (n x)) {l:List (FuncId×bW)} (M:Rb Pg l) (I:TypeId->Option Ty) (he:∀ x,XG (Tb l) I inert (xW Pg f) D x=n x:=by intro x;kernel_rfl) (hs:(xW Pg f).isSome=ajp:=by kernel_rfl) (hb:dJ D.pre.bs.length D.post.bs.length=ajp:=by kernel_rfl):aC Pg f (cn D m):=((OX ah9 Ot M hs he).sub J).toC hb
theorem Ol {f:FuncId} (D:FT) (hs:(xW Pg f).isSome=ajp:=by kernel_rfl) (hb:dJ D.pre.bs.length D.post.bs.length=ajp:=by kernel_rfl):aC Pg f (cn D λ_=>ajo):=(Sb hs).toC hb
abbrev tj:List PV:=[.d aH,.d aH,.d aH,.d aH,.d aH,.nil,.nil]
abbrev ut:List PV:=[.nil,.d aH,.nil,.nil,.nil,.nil,.nil]
abbrev adg:List PV:=[.ptr 1 0,.d aH,.d aH,.d .bool,.d .bool,.d .bool,.d .bool,.row 4]
abbrev adl:List PV:=[.d aH,.d aH,.d .str,.d .str,.nil,.d aH,.d aH,.d .str,.nil,.nil,.nil]
abbrev Zt:List PB:=[.cells 210 adg,.cells 101 [.d xc],.gone,.cells 216 adl,.rowsP 9 .str]
abbrev LF:List PV:=[.ptr 0 0,.ptr 1 0,.ptr 2 0,.ptr 3 0,.ptr 4 0,.ptr 5 0,.ptr 6 0,.ptr 7 0,.d .bool]
abbrev ZR:List PB:=[.cells 202 [.d (.sl jI),.d (.sl pI),.d (.sl kC),.d (.sl .str),.d (.sl .str),.d (.sl ne),.d (.sl .str),.row 2,.d aH,.d aH],.gone,.rows 206 ajp pG]
abbrev ZQ:List PB:=[.cells 202 [.d (.sl jI),.d (.sl pI),.d (.sl kC),.d (.sl .str),.d (.sl .str),.d (.sl ne),.d (.sl .str),.row 1,.d aH,.d aH],.rows 206 ajp pG]
abbrev Zs:List PV:=[.d aH,.row 11,.row 12,.d aH]
abbrev La7:List PB:=[.cells 160 [.nil,.nil],.cells 210 [.ptr 5 0,.d aH,.d aH,.d .bool,.d .bool,.d .bool,.d .bool,.row 6],.cells 160 [.d (.sl E8),.row 7],.rows 9 ajq .str,.cells 200 [.d .str,.d aH,.row 8,.row 9],.cells 101 [.d xc],.rowsP 9 .str,.rows 200 ajp rn,.rows 9 ajq .str,.rows 216 ajp .sm]
abbrev La8:List PB:=[.cells 241 [.d (.sl E8),.d (.sl rn),.d aH,.row 1,.row 6,.row 7],.rowsP 216 .sm,.gone,.gone,.cells 216 [.d .sm],.cells 160 [.d LG],.rows 9 ajp .str,.rows 9 ajp .str]
abbrev La9:List PV:=[.d (.sl dt),.d aH,.d oM,.d (.sl gm),.row 8,.row 9,.csl 10 4 4]
abbrev ac3:List PB:=[.cells 118 [.d (.sl dt),.d aH,.d oM,.d (.sl gm),.row 6,.row 7,.csl 8 4 4],.cells 163 [.d gV],.cells 118 ut,.cells 54 tj,.cells 54 [.d ip],.cells 193 [.d dR],.rows 2 ajp aH,.rows 2 ajp aH,.cells 193 [.d dR,.d dR,.d dR,.d dR]]
abbrev adh:List PV:=[.ptr 1 0,.d aH,.d aH,.d .bool,.d .bool,.d .bool,.d .bool,.row 2]
abbrev Ns:List PV:=[.d CA,.d aH]
abbrev TX:List PB:=[.cells 210 adh,.cells 101 Ns,.rowsP 9 .str]
abbrev Kv:List PV:=[.ptr 0 0,.ptr 1 0,.ptr 2 0,.ptr 3 0,.ptr 4 0,.ptr 5 0,.ptr 6 0,.ptr 7 0,.d aH]
abbrev afi:List PV:=[.d (.sl dt),.d aH,.d oM,.d (.sl gm),.row 8,.row 9,.csl 10 4 3]
abbrev ag2:List PB:=[.cells 123 [.d sZ],.cells 118 afi,.cells 163 [.d gV],.cells 118 ut,.cells 54 tj,.cells 54 [.d ip],.cells 193 Zs,.cells 206 [.d pG],.rows 2 ajp aH,.rows 2 ajp aH,.cells 193 [.d aH,.row 11,.row 12,.d aH,.d dR,.d dR],.rows 2 ajp aH,.rows 49 ajp (.sl aH)]
abbrev ag1:List PB:=[.cells 123 [.d sZ],.cells 118 afi,.cells 163 [.d gV],.cells 118 ut,.cells 54 tj,.cells 54 [.d ip],.cells 193 Zs,.cells 206 [.d pG],.rows 2 ajp aH,.rows 2 ajp aH,.cells 193 [.d dR,.d aH,.row 11,.row 12,.d aH,.d dR],.rows 2 ajp aH,.rows 49 ajp (.sl aH)]
abbrev ag0:List PB:=[.cells 123 [.d sZ],.cells 118 afi,.cells 163 [.d gV],.cells 118 ut,.cells 54 tj,.cells 54 [.d ip],.cells 193 Zs,.cells 206 [.d pG],.rows 2 ajp aH,.rows 2 ajp aH,.cells 193 [.d dR,.d dR,.d aH,.row 11,.row 12,.d aH],.rows 2 ajp aH,.rows 49 ajp (.sl aH)]
abbrev adk:List PV:=[.d (.sl dt),.d aH,.d oM,.d (.sl gm),.row 8,.row 9,.csl 10 4 2]
abbrev afz:List PB:=[.cells 123 [.d sZ],.cells 118 adk,.cells 163 [.d gV],.cells 118 ut,.cells 54 tj,.cells 54 [.d ip],.cells 193 Zs,.cells 206 [.d pG],.rows 2 ajp aH,.rows 2 ajp aH,.cells 193 [.d aH,.row 11,.row 12,.d aH,.d dR],.rows 2 ajp aH,.rows 49 ajp (.sl aH)]
abbrev afy:List PB:=[.cells 123 [.d sZ],.cells 118 adk,.cells 163 [.d gV],.cells 118 ut,.cells 54 tj,.cells 54 [.d ip],.cells 193 Zs,.cells 206 [.d pG],.rows 2 ajp aH,.rows 2 ajp aH,.cells 193 [.d dR,.d aH,.row 11,.row 12,.d aH],.rows 2 ajp aH,.rows 49 ajp (.sl aH)]
abbrev W5:List PB:=[.cells 241 [.d (.sl E8),.d (.sl rn),.d aH,.row 1,.row 4,.row 5],.rowsP 216 .sm,.gone,.gone,.rows 9 ajp .str,.rows 9 ajp .str]
abbrev Ku:List PV:=[.ptr 0 0,.ptr 1 0,.ptr 2 0,.ptr 3 0,.ptr 4 0,.ptr 5 0,.ptr 6 0,.d .bool]
abbrev gf:List PV:=[.ptr 0 0,.d .bool]
abbrev W3:List PB:=[.cells 241 [.d (.sl E8),.d (.sl rn),.d aH,.row 1,.row 2,.row 3],.rowsP 216 .sm,.rows 9 ajp .str,.rows 9 ajp .str]
abbrev afx:List PB:=[.cells 123 [.d sZ],.cells 118 [.d (.sl dt),.d aH,.d oM,.d (.sl gm),.row 8,.row 9,.csl 10 4 1],.cells 163 [.d gV],.cells 118 ut,.cells 54 tj,.cells 54 [.d ip],.cells 193 Zs,.cells 206 [.d pG],.rows 2 ajp aH,.rows 2 ajp aH,.cells 193 Zs,.rows 2 ajp aH,.rows 49 ajp (.sl aH)]
abbrev Kt:List PV:=[.ptr 0 0,.ptr 1 0,.ptr 2 0,.ptr 3 0,.ptr 4 0,.ptr 5 0,.ptr 6 0]
abbrev afw:List PB:=[.cells 123 [.d sZ],.cells 118 La9,.cells 163 [.d gV],.cells 118 ut,.cells 54 tj,.cells 54 [.d ip],.cells 193 Zs,.cells 206 [.d pG],.rows 2 ajp aH,.rows 2 ajp aH,.cells 193 [.d aH,.row 11,.row 12,.d aH,.d dR,.d dR,.d dR],.rows 2 ajp aH,.rows 49 ajp (.sl aH)]
abbrev afv:List PB:=[.cells 123 [.d sZ],.cells 118 La9,.cells 163 [.d gV],.cells 118 ut,.cells 54 tj,.cells 54 [.d ip],.cells 193 Zs,.cells 206 [.d pG],.rows 2 ajp aH,.rows 2 ajp aH,.cells 193 [.d dR,.d aH,.row 11,.row 12,.d aH,.d dR,.d dR],.rows 2 ajp aH,.rows 49 ajp (.sl aH)]
abbrev afu:List PB:=[.cells 123 [.d sZ],.cells 118 La9,.cells 163 [.d gV],.cells 118 ut,.cells 54 tj,.cells 54 [.d ip],.cells 193 Zs,.cells 206 [.d pG],.rows 2 ajp aH,.rows 2 ajp aH,.cells 193 [.d dR,.d dR,.d aH,.row 11,.row 12,.d aH,.d dR],.rows 2 ajp aH,.rows 49 ajp (.sl aH)]
abbrev aft:List PB:=[.cells 123 [.d sZ],.cells 118 La9,.cells 163 [.d gV],.cells 118 ut,.cells 54 tj,.cells 54 [.d ip],.cells 193 Zs,.cells 206 [.d pG],.rows 2 ajp aH,.rows 2 ajp aH,.cells 193 [.d dR,.d dR,.d dR,.d aH,.row 11,.row 12,.d aH],.rows 2 ajp aH,.rows 49 ajp (.sl aH)]
abbrev Jf:List PB:=[.cells 31 [.d mT],.cells 110 [.d gW],.cells 54 [.d ip],.cells 110 ut]
abbrev Ks:List PV:=[.ptr 0 0,.ptr 1 0,.ptr 2 0,.ptr 3 0,.ptr 4 0,.ptr 5 0]
abbrev afs:List PB:=[.cells 118 [.d (.sl dt),.d aH,.d oM,.d (.sl gm),.row 6,.row 7,.csl 8 4 3],.cells 163 [.d gV],.cells 118 ut,.cells 54 tj,.cells 54 [.d ip],.cells 193 [.d dR],.rows 2 ajp aH,.rows 2 ajp aH,.cells 193 [.d dR,.d dR,.d dR]]
abbrev QO:List PV:=[.d (.sl dt),.d aH,.d oM,.d (.sl gm),.row 7,.row 8,.csl 9 4 4]
abbrev qo:List PV:=[.ptr 0 0,.ptr 1 0,.d .bool]
abbrev ye:List PV:=[.ptr 0 0,.ptr 1 0,.ptr 2 0,.ptr 3 0,.d .bool]
abbrev abv:List PV:=[.nil,.nil,.nil,.nil,.nil,.nil]
abbrev afr:List PB:=[.cells 160 [.d LG],.cells 31 abv,.cells 31 [.row 4,.row 5,.row 6,.row 7,.nil,.nil],.cells 244 [.d E8],.rows 134 ajp jI,.rows 61 ajp pI,.rows 90 ajp kC,.rows 9 ajp .str]
abbrev W1:List PV:=[.nil,.nil,.nil,.nil,.nil,.nil,.nil]
abbrev aie:List PV:=[.d (.sl jI),.d (.sl pI),.d (.sl kC),.d (.sl .str),.d (.sl .str),.d (.sl ne),.row 5]
abbrev aiq:List PB:=[.cells 160 [.d LG],.cells 123 W1,.cells 123 aie,.cells 202 [.d (.sl jI),.d (.sl pI),.d (.sl kC),.d (.sl .str),.d (.sl .str),.d (.sl ne),.d (.sl .str),.row 6,.d aH,.d aH],.cells 189 [.d aH,.row 6],.rows 189 ajp vu,.rows 206 ajp pG]
abbrev FF:List PV:=[.row 0,.d aH,.row 1,.row 2]
abbrev afq:List PB:=[.cells 101 [.d xc],.cells 110 [.d gW],.cells 31 [.d mT],.rows 54 ajp ip,.cells 49 [.row 5,.row 6,.row 7,.row 8],.rows 3 ajp aH,.rows 3 ajp aH,.rows 3 ajp aH,.rows 3 ajp aH]
abbrev DO:List PV:=[.ptr 0 0,.ptr 1 0,.ptr 2 0,.d aH]
abbrev afp:List PB:=[.cells 101 [.d xc],.cells 110 [.d gW],.cells 31 [.d mT],.cells 49 [.row 4,.row 5,.row 6,.row 7],.rows 3 ajp aH,.rows 3 ajp aH,.rows 3 ajp aH,.rows 3 ajp aH]
abbrev Je:List PV:=[.d aH,.d (.sl aH),.d uu,.d aH]
abbrev W2:List PV:=[.d (.sl dt),.d aH,.d oM,.d (.sl gm),.row 7,.row 8,.csl 9 4 3]
abbrev Cz:List PV:=[.ptr 0 0,.ptr 1 0,.ptr 2 0,.d .bool]
abbrev tf:List PV:=[.ptr 0 0,.ptr 1 0,.d aH]
abbrev Jd:List PV:=[.d aH,.row 10,.row 11,.d aH]
abbrev abu:List PV:=[.d aH,.row 0,.row 1,.d aH]
abbrev Vd:List PV:=[.d aH,.nil,.nil,.d aH]
abbrev afo:List PB:=[.rows 2 ajp aH,.rows 49 ajp (.sl aH),.cells 206 [.d pG],.cells 193 abu,.cells 193 Vd]
abbrev afn:List PB:=[.cells 241 [.d (.sl E8),.d (.sl rn),.d aH,.row 4,.row 5,.row 6],.gone,.gone,.gone,.rowsP 216 .sm,.rows 9 ajp .str,.rows 9 ajp .str]
abbrev AE:List PV:=[.nil,.d aH,.nil,.nil]
abbrev afm:List PB:=[.cells 107 [.row 2,.d aH,.row 3,.row 4],.cells 107 AE,.rows 175 ajp dt,.rows 4 ajp .bool,.rows 177 ajp gm]
abbrev Jc:List PV:=[.ptr 0 0,.ptr 3 0,.d .bool]
abbrev aip:List PB:=[.cells 34 W1,.cells 101 [.d xc],.cells 34 aie,.cells 110 [.d gW],.rows 54 ajq ip,.rows 54 ajp ip]
abbrev aio:List PB:=[.cells 118 [.d (.sl dt),.d aH,.d oM,.d (.sl gm),.row 6,.row 7,.csl 8 4 2],.cells 163 [.d gV],.cells 118 ut,.cells 54 tj,.cells 54 [.d ip],.cells 193 [.d dR],.rows 2 ajp aH,.rows 2 ajp aH,.cells 193 [.d dR,.d dR]]
abbrev oL:List PB:=[.cells 31 [.d mT]]
abbrev ain:List PB:=[.cells 101 [.d xc],.cells 110 [.d gW],.cells 31 [.d mT],.rows 54 ajp ip,.cells 49 [.row 7,.row 8,.row 9,.row 10],.cells 54 [.d ip],.cells 110 [.d gW],.rows 3 ajp aH,.rows 3 ajp aH,.rows 3 ajp aH,.rows 3 ajp aH]
abbrev ac2:List PB:=[.cells 31 abv,.cells 31 [.row 2,.row 3,.row 4,.row 5,.row 6,.row 7],.rows 134 ajq jI,.rows 61 ajq pI,.rows 90 ajq kC,.rows 9 ajq .str,.rows 9 ajq .str,.rows 141 ajp ne]
abbrev vq:List PV:=[.ptr 0 0,.d aH]
abbrev Zr:List PV:=[.row 2,.row 3,.row 4,.row 5]
abbrev aim:List PB:=[.cells 101 [.d xc],.cells 49 Zr,.rows 3 ajp aH,.rows 3 ajp aH,.rows 3 ajp aH,.rows 3 ajp aH,.cells 54 tj,.cells 54 [.d aH,.d aH,.d aH,.d aH,.d aH,.d (.sl aH),.nil]]
abbrev ac1:List PV:=[.d (.sl dt),.d aH,.d oM,.d (.sl gm),.row 7,.row 8,.csl 9 4 2]
abbrev Kr:List PV:=[.d uv,.d ip,.d .bool]
abbrev ail:List PB:=[.cells 101 [.d xc],.cells 49 Zr,.rows 3 ajp aH,.rows 3 ajp aH,.rows 3 ajp aH,.rows 3 ajp aH,.cells 110 [.d gW],.cells 31 [.d mT],.cells 54 tj,.cells 54 tj]
abbrev aik:List PB:=[.cells 160 [.d LG],.cells 31 abv,.cells 31 [.row 3,.row 4,.row 5,.row 6,.nil,.nil],.rows 134 ajp jI,.rows 61 ajp pI,.rows 90 ajp kC,.rows 9 ajp .str]
abbrev afl:List PV:=[.d (.sl dt),.d aH,.d oM,.d (.sl gm),.row 3,.row 4,.row 5]
abbrev Kq:List PV:=[.d sZ,.d uv,.d gV]
abbrev afk:List PB:=[.rows 175 ajp dt,.rows 4 ajp .bool,.rows 177 ajp gm,.cells 107 FF,.rows 3 ajp aH]
abbrev Zu:List PV:=[.row 3,.d aH,.row 4,.row 5]
abbrev aij:List PB:=[.cells 31 [.d mT],.cells 107 Zu,.cells 107 AE,.rows 175 ajp dt,.rows 4 ajp .bool,.rows 177 ajp gm]
abbrev ur:List PV:=[.d aH,.d aH]
abbrev afj:List PB:=[.rows 54 ajp ip,.cells 123 [.d sZ],.cells 118 [.d uv],.cells 118 ut]
abbrev aii:List PB:=[.cells 189 [.d vu],.cells 193 [.d aH,.row 3,.row 4,.d aH],.cells 193 Vd,.rows 2 ajp aH,.rows 49 ajp (.sl aH)]
abbrev aih:List PB:=[.cells 210 adg,.cells 101 [.d xc],.gone,.rows 216 ajp .sm,.rowsP 9 .str]
abbrev afh:List PV:=[.ptr 1 0,.d aH,.d aH,.d .bool,.d .bool,.d .bool,.d .bool,.row 3]
abbrev aig:List PB:=[.cells 54 tj,.cells 193 [.d dR],.cells 206 [.d pG],.cells 54 [.d aH,.d aH,.d aH,.d aH,.d aH,.row 4,.nil],.rows 3 ajp aH]
abbrev Nr:List PB:=[.cells 216 [.d .sm]]
abbrev ac0:List PV:=[.agg [.agg FF,.row 3,.row 4,.csl 5 4 4]]
abbrev QN:List PB:=[.cells 160 [.d LG]]
abbrev afg:List PB:=[.cells 31 [.d mT],.cells 189 [.d vu],.cells 206 [.d pG]]
abbrev abz:List PB:=[.cells 160 [.d LG],.cells 200 [.d rn]]
abbrev aby:List PB:=[.cells 160 [.d LG],.cells 214 [.d .ex]]
abbrev aff:List PB:=[.cells 31 [.d mT],.rows 9 ajp .str,.cells 134 [.d jI]]
abbrev afe:List PB:=[.rows 175 ajp dt,.rows 4 ajp .bool,.rows 177 ajp gm]
abbrev abx:List PB:=[.cells 31 [.d mT],.cells 206 [.d pG]]
abbrev TW:List PB:=[.cells 31 [.d mT],.cells 107 [.d FG]]
abbrev abw:List PV:=[.ptr 0 0,.ptr 4 0,.ptr 5 0,.d .bool]
abbrev afd:List PV:=[.ptr 0 0,.ptr 1 0,.ptr 2 0,.ptr 3 0,.ptr 4 0,.d aH]
abbrev afc:List PB:=[.cells 101 [.d xc],.rows 3 ajp aH,.rows 3 ajp aH]
abbrev WZ:List PB:=[.cells 31 [.d mT],.rows 9 ajp .str]
abbrev afb:List PB:=[.cells 54 [.d ip],.cells 110 ut,.cells 110 afl,.rows 2 ajp aH,.rows 2 ajp aH,.rows 3 ajp aH]
abbrev aif:List PB:=[.cells 101 Ns,.cells 49 Zr,.rows 3 ajp aH,.rows 3 ajp aH,.rows 3 ajp aH,.rows 3 ajp aH]
abbrev QM:List PB:=[.cells 101 Ns]
abbrev Jb:List PV:=[.d (.sl aH),.d aH]
abbrev WY:List PB:=[.cells 101 [.d xc]]
abbrev Nq:List PV:=[.ptr 0 0,.row 1,.d aH]
abbrev WV:List PB:=[.cells 244 [.d E8]]
abbrev afa:List PV:=[.agg [.agg FF,.row 3,.row 4,.csl 5 4 3]]
abbrev Zz:List PB:=[.rows 2 ajp aH,.rows 49 ajp (.sl aH)]
abbrev Zy:List PB:=[.cells 123 [.d sZ],.cells 118 [.d uv]]
abbrev Zx:List PB:=[.cells 31 [.d mT],.cells 189 [.d vu]]
abbrev pN:List PV:=[.d (.sl aH)]
abbrev Zw:List PV:=[.ptr 0 0,.ptr 1 0,.ptr 2 0,.ptr 3 0]
abbrev adi:List PV:=[.d (.sl dt),.d aH,.d oM,.d (.sl gm),.row 7,.row 8,.csl 9 4 1]
abbrev Zv:List PB:=[.cells 107 [.d FG],.rows 3 ajp aH]
abbrev QP:List PV:=[.ptr 0 0,.d aH,.d aH]
def tyT:PT Ty:=dh [(2,aH),(3,aH),(4,.bool),(9,.str),(49,(.sl aH)),(54,ip),(59,gV),(61,pI),(66,gV),(90,kC),(104,oM),(134,jI),(141,ne),(163,gV),(175,dt),(177,gm),(189,vu),(193,dR),(200,rn),(206,pG),(214,.ex),(216,.sm),(244,E8)]
def bL (t:TypeId):Option Ty:=tyT.get t
def zo:FT:=⟨⟨[],[]⟩,⟨[.d (.sl .str)],[]⟩,.leaf⟩
def Ke:bW:=cn zo jC
def xM:FT:=⟨⟨[.d .str],[]⟩,⟨[.d .bool],[]⟩,dh [(8,(.j ⟨[0,3],[4],⟨[.d aH],[]⟩,[]⟩))]⟩
def IE:bW:=cn xM iM
def ES:FT:=⟨⟨[.d (.int .u8)],[]⟩,⟨[.d .bool],[]⟩,dh [(2,(.j ⟨[],[2],⟨[.d .bool],[]⟩,[]⟩))]⟩
def Qi:bW:=cn ES kj
def Il:FT:=⟨⟨[.d (.int .u8)],[]⟩,⟨[.d .bool],[]⟩,dh [(2,(.j ⟨[],[2],⟨[.d .bool],[]⟩,[]⟩))]⟩
def S9:bW:=cn Il pZ
def Ik:FT:=⟨⟨[.d (.int .u8)],[]⟩,⟨[.d .bool],[]⟩,dh [(2,(.j ⟨[],[2],⟨[.d .bool],[]⟩,[]⟩))]⟩
def S8:bW:=cn Ik ol
def EU:FT:=⟨⟨[.d .str],[]⟩,⟨[.d .bool],[]⟩,dh [(3,(.j ⟨[0],[21],⟨[.d .bool],[]⟩,[]⟩)),(14,(.j ⟨[0],[3],⟨[.d aH],[]⟩,[]⟩))]⟩
def Qj:bW:=cn EU ec
def If:FT:=⟨⟨[.d .bool],[]⟩,⟨[.d aH],[]⟩,.leaf⟩
def SU:bW:=cn If eQ
def Ig:FT:=⟨⟨ur,[]⟩,⟨[.d aH,.d .bool],[]⟩,.leaf⟩
def SX:bW:=cn Ig sC
def EO:FT:=⟨⟨[.d aH,.d aH,.d aH],[]⟩,⟨[.d aH,.d .bool],[]⟩,dh [(91,(.j ⟨[],[6,7],⟨[.d aH,.d .bool],[]⟩,[]⟩)),(97,(.j ⟨[],[6,7],⟨[.d aH,.d .bool],[]⟩,[]⟩))]⟩
def Qe:bW:=cn EO qK
def Ih:FT:=⟨⟨ur,[]⟩,⟨[.d aH],[]⟩,dh [(12,(.j ⟨[],[5],⟨[.d aH],[]⟩,[]⟩))]⟩
def S0:bW:=cn Ih pX
def zn:FT:=⟨⟨[.d aH],[]⟩,⟨[.d aH],[]⟩,dh [(4,(.j ⟨[0],[3],⟨[.d .bool],[]⟩,[]⟩)),(10,(.j ⟨[0],[10],⟨[.d .bool],[]⟩,[]⟩)),(16,(.j ⟨[],[17],⟨[.d .bool],[]⟩,[]⟩))]⟩
def Kd:bW:=cn zn kZ
def nS:FT:=⟨⟨[.d .ex],[]⟩,⟨[.d .bool],[]⟩,dh [(2,(.j ⟨[],[1,3],⟨gf,[.cells 214 [.d .ex]]⟩,[]⟩)),(5,(.j ⟨[],[1,50],⟨gf,[.cells 214 [.d .ex]]⟩,[]⟩)),(16,(.j ⟨[],[1,4],⟨vq,[.cells 214 [.d .ex]]⟩,[]⟩))]⟩
def Fu:bW:=cn nS ig
def Fh (n:Nat):bW:=cn nS (gj n)
def Ij:FT:=⟨⟨[.d .ex],[]⟩,⟨[.d .bool],[]⟩,dh [(2,(.j ⟨[],[2],⟨[.d .bool],[]⟩,[]⟩))]⟩
def S7:bW:=cn Ij oh
def rm:FT:=⟨⟨[.d .sm],[]⟩,⟨[.d .bool],[]⟩,dh [(3,(.j ⟨[],[1,13],⟨gf,Nr⟩,[]⟩)),(10,(.j ⟨[],[1,3],⟨gf,Nr⟩,[]⟩)),(13,(.j ⟨[],[1,47],⟨gf,Nr⟩,[]⟩)),(21,(.j ⟨[],[1,66],⟨gf,Nr⟩,[]⟩)),(29,(.j ⟨[],[1,95],⟨gf,Nr⟩,[]⟩)),(36,(.j ⟨[],[1,4],⟨gf,Nr⟩,[]⟩)),(39,(.j ⟨[],[1,130],⟨gf,Nr⟩,[]⟩)),(46,(.j ⟨[],[1,5],⟨gf,Nr⟩,[]⟩)),(49,(.j ⟨[],[1,157],⟨gf,Nr⟩,[]⟩)),(56,(.j ⟨[],[2],⟨[.d .bool],[]⟩,[]⟩))]⟩
def Fg (n:Nat):bW:=cn rm (dD n)
def mN:FT:=⟨⟨[.d (.sl .sm)],[]⟩,⟨[.d .bool],[]⟩,dh [(6,(.j ⟨[0],[3],⟨[.d aH],[]⟩,[]⟩))]⟩
def DA:bW:=cn mN mB
def C4 (n:Nat):bW:=cn mN (cX n)
def wO:FT:=⟨⟨[.d E8],[]⟩,⟨[.d .bool],[]⟩,dh [(3,(.j ⟨[],[1,31],⟨gf,WV⟩,[]⟩)),(11,(.j ⟨[],[1,50],⟨gf,WV⟩,[]⟩)),(18,(.j ⟨[],[2],⟨[.d .bool],[]⟩,[]⟩))]⟩
def Ft:bW:=cn wO jk
def ER:FT:=⟨⟨[.d LG],[]⟩,⟨[.d .bool],[]⟩,dh [(6,(.j ⟨[],[1,3],⟨vq,QN⟩,[]⟩)),(27,(.j ⟨[],[1,4],⟨vq,QN⟩,[]⟩)),(42,(.j ⟨[4],[1,5,6],⟨tf,abz⟩,[]⟩)),(59,(.j ⟨[4],[1,56],⟨gf,QN⟩,[]⟩))]⟩
def Qh:bW:=cn ER oD
def UQ:FT:=⟨⟨[.d (.sl .str),.d .str],[]⟩,⟨[.d aH],[]⟩,dh [(6,(.j ⟨[0,1],[5],⟨[.d aH],[]⟩,[]⟩))]⟩
def ab3:bW:=cn UQ hZ
def EQ:FT:=⟨⟨[.d (.sl E8),.d .str],[]⟩,⟨[.d aH],[]⟩,dh [(6,(.j ⟨[0,1],[5],⟨[.d aH],[]⟩,[]⟩))]⟩
def Qg:bW:=cn EQ gi
def zm:FT:=⟨⟨[.d (.sl rn),.d .str],[]⟩,⟨[.d aH],[]⟩,dh [(6,(.j ⟨[0,1],[5],⟨[.d aH],[]⟩,[]⟩))]⟩
def Kc:bW:=cn zm fP
def EP:FT:=⟨⟨[.d LG,.d aH,.d .str],[]⟩,⟨[.d aH],[]⟩,dh [(3,(.j ⟨[2],[3,27],⟨gf,QN⟩,[]⟩)),(52,(.j ⟨[7],[3,56],⟨gf,QN⟩,[]⟩))]⟩
def Qf:bW:=cn EP oC
def Lm:FT:=⟨⟨[.d LG,.d aH,.d .str,.d aH,.d aH],[]⟩,⟨[.d aH],[]⟩,dh [(13,(.j ⟨[],[25],⟨[.d .bool],[]⟩,[]⟩))]⟩
def Wh:bW:=cn Lm fD
def wj:FT:=⟨⟨[.d .ex],[]⟩,⟨ur,[]⟩,dh [(8,(.j ⟨[],[1,4,5,6],⟨[.ptr 0 0,.d aH,.d aH,.d aH],[.cells 214 [.d .ex]]⟩,[]⟩))]⟩
def S5:bW:=cn wj Af
def RJ (n:Nat):bW:=cn wj (me n)
def wh:FT:=⟨⟨[.d LG,.d aH,.d .ex],[]⟩,⟨[.d aH],[]⟩,dh [(7,(.j ⟨[1],[3,5,7],⟨tf,aby⟩,[]⟩)),(21,(.j ⟨[1],[3,5,7,8],⟨[.ptr 0 0,.ptr 1 0,.d aH,.d aH],aby⟩,[]⟩)),(23,(.j ⟨[1,7,8],[3,5,33],⟨qo,aby⟩,[]⟩))]⟩
def S1:bW:=cn wh Ae
def RI (n:Nat):bW:=cn wh (md n)
def Ln:FT:=⟨⟨[.d LG,.d aH,.d .ex],[]⟩,⟨[.d aH],[]⟩,dh [(13,(.j ⟨[1],[3,5,22],⟨qo,aby⟩,[]⟩))]⟩
def Wi:bW:=cn Ln kY
def B8:FT:=⟨⟨[.d .bool],[]⟩,⟨[.d aH],[]⟩,.leaf⟩
def M1:bW:=cn B8 cC
def UP:FT:=⟨⟨ur,[]⟩,⟨[.d aH],[]⟩,.leaf⟩
def ab2:bW:=cn UP hY
def vg:FT:=⟨⟨[.ptr 0 0,.d aH,.d aH,.d .str],W3⟩,⟨[.d .bool],W3⟩,dh [(6,(.j ⟨[1,2,3],[0,9],⟨vq,W3⟩,[]⟩)),(17,(.j ⟨[1,2,3,9],[0,46],⟨gf,W3⟩,[]⟩))]⟩
def Dz:bW:=cn vg di
def zl:FT:=⟨⟨[.ptr 0 0,.d .sm],W3⟩,⟨[.d aH],W5⟩,dh [(1,(.a [.ren 0 4,.ren 0 5])),(28,(.j ⟨[6,7,8,9,30],[0,3,5,67],⟨abw,La8⟩,[]⟩)),(41,(.j ⟨[],[4],⟨[.d aH],W5⟩,[]⟩)),(44,(.j ⟨[6,7,8,9,30],[0,3,5,91],⟨abw,La8⟩,[]⟩)),(51,(.j ⟨[],[4],⟨[.d aH],W5⟩,[]⟩)),(63,(.j ⟨[],[4],⟨[.d aH],W5⟩,[]⟩)),(66,(.j ⟨[6,7,8,9,30],[0,3,5,119],⟨abw,La8⟩,[]⟩)),(89,(.j ⟨[],[4],⟨[.d aH],W5⟩,[]⟩)),(108,(.j ⟨[],[0,3,187],⟨[.ptr 0 0,.ptr 4 0,.d .bool],[.cells 241 [.d (.sl E8),.d (.sl rn),.d aH,.row 1,.row 5,.row 6],.rowsP 216 .sm,.gone,.gone,.cells 216 [.d .sm],.rows 9 ajp .str,.rows 9 ajp .str]⟩,[]⟩)),(131,(.j ⟨[],[4],⟨[.d aH],W5⟩,[]⟩)),(137,(.j ⟨[6],[0,3,5,14],⟨[.ptr 0 0,.ptr 4 0,.ptr 5 0,.d aH],La8⟩,[]⟩)),(139,(.j ⟨[6],[0,3,5,14],⟨[.ptr 0 0,.ptr 4 0,.ptr 5 0,.d aH],La8⟩,[]⟩)),(140,(.j ⟨[6,14],[0,3,5,253],⟨abw,La8⟩,[]⟩))]⟩
def Ka:bW:=cn zl kX
def qB:FT:=⟨⟨[.ptr 0 0,.d (.sl .sm)],W3⟩,⟨ur,afn⟩,dh [(1,(.a [.ren 0 3,.ren 0 4,.ren 0 5])),(6,(.j ⟨[1],[0,6],⟨vq,afn⟩,[]⟩)),(19,(.j ⟨[1,6],[0,7,8],⟨[.ptr 0 0,.ptr 4 0,.d aH],[.cells 241 [.d (.sl E8),.d (.sl rn),.d aH,.row 5,.row 6,.row 7],.gone,.gone,.gone,.cells 216 [.d .sm],.rowsP 216 .sm,.rows 9 ajp .str,.rows 9 ajp .str]⟩,[]⟩)),(37,(.j ⟨[1,6],[0,8,9],⟨QP,afn⟩,[]⟩))]⟩
def Kb:bW:=cn qB uf
def JJ (n:Nat):bW:=cn qB (gI n)
def wn:FT:=⟨⟨[.d (.sl .sm)],[]⟩,⟨[.d aH],[]⟩,dh [(8,(.j ⟨[0],[3,4],⟨ur,[]⟩,[]⟩))]⟩
def S6:bW:=cn wn Ag
def RK (n:Nat):bW:=cn wn (mf n)
def Ii:FT:=⟨⟨[.d (.sl E8)],[]⟩,⟨ur,[]⟩,dh [(8,(.j ⟨[0],[4,5,6,7,8],⟨[.d aH,.d aH,.d aH,.d aH,.d aH],[]⟩,[]⟩)),(16,(.j ⟨[0,8],[4,5,6,7],⟨[.d aH,.d aH,.d aH,.d aH],[]⟩,[]⟩)),(38,(.j ⟨[0,8],[4,5,6,7,9],⟨[.d aH,.d aH,.d aH,.d aH,.ptr 0 0],WV⟩,[]⟩)),(39,(.j ⟨[0,4,5,6,7,8,36],[9,39],⟨gf,WV⟩,[]⟩)),(47,(.j ⟨[0,4,5,6,7,8,36],[9,47],⟨gf,WV⟩,[]⟩)),(61,(.j ⟨[0,4,5,6,7,8],[9,69],⟨gf,WV⟩,[]⟩))]⟩
def S4:bW:=cn Ii pY
def B7:FT:=⟨⟨[.d LG],[]⟩,⟨ur,[]⟩,dh [(6,(.j ⟨[],[1,4],⟨vq,QN⟩,[]⟩)),(17,(.j ⟨[4],[1,5,37],⟨qo,abz⟩,[]⟩)),(29,(.j ⟨[],[1,6],⟨vq,QN⟩,[]⟩)),(51,(.j ⟨[6],[1,7,8],⟨tf,abz⟩,[]⟩)),(62,(.j ⟨[6,8],[1,7,90],⟨qo,abz⟩,[]⟩))]⟩
def M0:bW:=cn B7 mA
def B9:FT:=⟨⟨[.d LG],[]⟩,⟨ur,[]⟩,dh [(44,(.j ⟨[],[1,8,9],⟨QP,QN⟩,[]⟩)),(67,(.a [.cel 10 3 216 .sm,.cel 10 4 9 .str,.cel 10 5 9 .str])),(69,(.j ⟨[],[1,10,11],⟨tf,[.cells 160 [.d LG],.cells 241 [.d (.sl E8),.d (.sl rn),.d aH,.row 2,.row 3,.row 4],.rowsP 216 .sm,.rows 9 ajp .str,.rows 9 ajp .str]⟩,[]⟩))]⟩
def M2:bW:=cn B9 eg
def wg:FT:=⟨⟨[.row 0,.d aH,.d aH,.d (.sl .sm)],[.rows 141 ajp ne]⟩,⟨[.row 1,.d aH],[.gone,.rows 141 ajp ne]⟩,dh [(1,(.a [.ren 0 0])),(6,(.j ⟨[1,3],[0,2,10],⟨[.row 1,.d aH,.d aH],[.gone,.rows 141 ajp ne]⟩,[]⟩)),(25,(.a [.nil 8 141 ne]))]⟩
def SE:bW:=cn wg GV
def RH (n:Nat):bW:=cn wg (ou n)
def EK:FT:=⟨⟨[.d (.sl pI),.d .str],[]⟩,⟨[.d aH],[]⟩,dh [(6,(.j ⟨[0,1],[5],⟨[.d aH],[]⟩,[]⟩))]⟩
def Qb:bW:=cn EK jt
def EM:FT:=⟨⟨[.d mT,.d .str],[]⟩,⟨[.d aH],[]⟩,dh [(6,(.j ⟨[1],[2,5],⟨vq,oL⟩,[]⟩))]⟩
def Qd:bW:=cn EM ki
def Id:FT:=⟨⟨[.d LG],[]⟩,⟨[.d mT],[]⟩,dh [(18,(.j ⟨[],[1,2,3,6],⟨DO,aik⟩,[.cel 3 0 134 jI,.cel 3 1 61 pI,.cel 3 2 90 kC,.cel 3 3 9 .str]⟩)),(31,(.j ⟨[6],[1,2,3],⟨[.ptr 0 0,.ptr 1 0,.ptr 2 0],aik⟩,[]⟩)),(32,(.j ⟨[6,31],[1,2,3,7,39],⟨ye,afr⟩,[]⟩)),(42,(.j ⟨[6],[1,2,3,7,8],⟨[.ptr 0 0,.ptr 1 0,.ptr 2 0,.ptr 3 0,.d aH],afr⟩,[]⟩)),(53,(.j ⟨[6,31],[1,2,3,7,65],⟨ye,afr⟩,[]⟩)),(69,(.a [.cel 3 5 141 ne])),(71,(.j ⟨[],[1,2,3,9],⟨DO,[.cells 160 [.d LG],.cells 31 abv,.cells 31 [.row 3,.row 4,.row 5,.row 6,.row 7,.row 8],.rows 134 ajp jI,.rows 61 ajp pI,.rows 90 ajp kC,.rows 9 ajp .str,.rows 9 ajp .str,.rows 141 ajp ne]⟩,[.cel 3 4 9 .str]⟩))]⟩
def SM:bW:=cn Id sB
def Ia:FT:=⟨⟨[.d mT],[]⟩,⟨[.d (.sl .str),.d .bool],[]⟩,dh [(8,(.j ⟨[],[1,4,5],⟨Nq,WZ⟩,[.nil 4 9 .str]⟩)),(15,(.j ⟨[],[1,4,5],⟨Nq,WZ⟩,[]⟩)),(37,(.j ⟨[5],[1,4,6,51],⟨[.ptr 0 0,.row 1,.ptr 2 0,.d .bool],aff⟩,[]⟩)),(48,(.j ⟨[5],[1,4,6,7],⟨[.ptr 0 0,.row 1,.ptr 2 0,.d aH],aff⟩,[]⟩)),(59,(.j ⟨[5,7],[1,4,6,93],⟨[.ptr 0 0,.row 1,.ptr 2 0,.d .bool],aff⟩,[]⟩)),(72,(.j ⟨[],[1,4,9],⟨Nq,WZ⟩,[]⟩)),(87,(.j ⟨[],[1,4,10],⟨Nq,WZ⟩,[]⟩))]⟩
def SH:bW:=cn Ia oe
def wN:FT:=⟨⟨[.d mT],[]⟩,⟨[.d .bool],[]⟩,dh [(3,(.j ⟨[],[1,49],⟨gf,oL⟩,[]⟩)),(24,(.j ⟨[3],[1,5],⟨vq,oL⟩,[]⟩)),(33,(.j ⟨[3,5],[1,79],⟨gf,oL⟩,[]⟩)),(45,(.j ⟨[],[1,6],⟨vq,oL⟩,[]⟩)),(56,(.j ⟨[6],[1,109],⟨gf,oL⟩,[]⟩)),(68,(.j ⟨[],[1,8],⟨vq,oL⟩,[]⟩)),(76,(.j ⟨[8],[1],⟨[.ptr 0 0],oL⟩,[]⟩)),(80,(.j ⟨[8],[1,9,132],⟨qo,[.cells 31 [.d mT],.cells 141 [.d ne]]⟩,[]⟩)),(87,(.j ⟨[8],[1,9,146],⟨qo,[.cells 31 [.d mT],.cells 141 [.d ne]]⟩,[]⟩)),(90,(.j ⟨[8],[1,165],⟨gf,oL⟩,[]⟩))]⟩
def Fs:bW:=cn wN gh
def xL:FT:=⟨⟨[.d pG],[]⟩,⟨pN,[]⟩,dh [(6,(.j ⟨[4],[1,5],⟨gf,[.cells 206 [.d pG]]⟩,[]⟩)),(24,(.j ⟨[4],[1,13],⟨gf,[.cells 206 [.d pG]]⟩,[]⟩)),(46,(.j ⟨[4],[1,37],⟨gf,[.cells 206 [.d pG]]⟩,[]⟩))]⟩
def ID:bW:=cn xL iL
def EL:FT:=⟨⟨[.d aH],[]⟩,⟨[.d .bool],[]⟩,dh [(2,(.j ⟨[],[2],⟨[.d .bool],[]⟩,[]⟩))]⟩
def Qc:bW:=cn EL oB
def Ib:FT:=⟨⟨[.d (.sl pG),.d aH],[]⟩,⟨[.d .bool],[]⟩,dh [(6,(.j ⟨[0],[1,5],⟨ur,[]⟩,[]⟩)),(14,(.j ⟨[0,5],[1],⟨[.d aH],[]⟩,[]⟩)),(16,(.j ⟨[0,1,5],[19],⟨[.d .bool],[]⟩,[]⟩))]⟩
def SJ:bW:=cn Ib og
def UO:FT:=⟨⟨ur,[]⟩,⟨[.d .bool],[]⟩,dh [(2,(.j ⟨[],[4],⟨[.d .bool],[]⟩,[]⟩))]⟩
def ab1:bW:=cn UO iu
def Ic:FT:=⟨⟨[.d mT,.d aH,.d aH],[]⟩,⟨[.d .bool],[]⟩,dh [(2,(.j ⟨[],[6],⟨[.d .bool],[]⟩,[]⟩))]⟩
def SK:bW:=cn Ic l9
def B4:FT:=⟨⟨[.d mT,.d pG],[]⟩,⟨[.d .bool],[]⟩,dh [(9,(.j ⟨[],[4],⟨[.d .bool],[]⟩,[]⟩)),(15,(.j ⟨[],[4],⟨[.d .bool],[]⟩,[]⟩)),(30,(.j ⟨[6],[2,3,59],⟨qo,abx⟩,[]⟩)),(37,(.j ⟨[],[4],⟨[.d .bool],[]⟩,[]⟩)),(40,(.j ⟨[6],[2,3,78],⟨qo,abx⟩,[]⟩)),(55,(.j ⟨[],[4],⟨[.d .bool],[]⟩,[]⟩)),(58,(.j ⟨[6],[2,3,98],⟨qo,abx⟩,[]⟩)),(72,(.j ⟨[6],[2,3,108],⟨qo,abx⟩,[]⟩)),(97,(.j ⟨[],[4],⟨[.d .bool],[]⟩,[]⟩)),(103,(.j ⟨[],[4],⟨[.d .bool],[]⟩,[]⟩))]⟩
def MX:bW:=cn B4 kr
def ve:FT:=⟨⟨[.d mT,.d aH,.d vu],[]⟩,⟨[.d .bool],[]⟩,dh [(5,(.j ⟨[1,7],[3,5,26],⟨qo,Zx⟩,[]⟩)),(16,(.j ⟨[1,7],[3,5,8],⟨tf,Zx⟩,[]⟩)),(28,(.j ⟨[1,7,8],[3,5,9,67],⟨Cz,afg⟩,[]⟩)),(36,(.j ⟨[1,7,8],[3,5,9,100],⟨Cz,afg⟩,[]⟩)),(44,(.j ⟨[1,7,8],[3,5,9,122],⟨Cz,afg⟩,[]⟩)),(56,(.j ⟨[1,7,8,10],[3,5,11],⟨tf,Zx⟩,[]⟩))]⟩
def Dy:bW:=cn ve gy
def Ie:FT:=⟨⟨[.d sZ],[]⟩,⟨[.d .bool],[]⟩,dh [(3,(.j ⟨[],[1,17],⟨gf,[.cells 123 [.d sZ]]⟩,[]⟩)),(14,(.j ⟨[],[1,3],⟨vq,[.cells 123 [.d sZ]]⟩,[]⟩))]⟩
def SS:bW:=cn Ie iK
def B5:FT:=⟨⟨[.ptr 0 0,.d pG],ZQ⟩,⟨[],ZR⟩,.leaf⟩
def MY:bW:=cn B5 b7
def pt:FT:=⟨⟨[.ptr 0 0,.d .ex,.d aH],ZQ⟩,⟨[],ZR⟩,dh [(2,(.j ⟨[],[],⟨[],ZR⟩,[]⟩))]⟩
def IB:bW:=cn pt gM
def G6 (n:Nat):bW:=cn pt (gO n)
def wM:FT:=⟨⟨[.ptr 0 0,.d .sm],ZQ⟩,⟨[],ZR⟩,.leaf⟩
def Fr:bW:=cn wM kK
def zk:FT:=⟨⟨[.ptr 0 0,.d .str],ZQ⟩,⟨[.d aH],ZQ⟩,dh [(6,(.j ⟨[1],[0,5],⟨vq,ZQ⟩,[]⟩))]⟩
def J9:bW:=cn zk iB
def pu:FT:=⟨⟨[.ptr 0 0,.d (.sl .sm)],ZQ⟩,⟨[],ZR⟩,dh [(1,(.a [.ren 0 7])),(3,(.j ⟨[1],[0,4],⟨vq,ZR⟩,[]⟩))]⟩
def IC:bW:=cn pu sA
def G7 (n:Nat):bW:=cn pu (c7 n)
def ul:FT:=⟨⟨[.ptr 0 0,.d .sm],ZQ⟩,⟨[],ZR⟩,dh [(1,(.a [.ren 0 7])),(10,(.j ⟨[],[],⟨[],ZR⟩,[]⟩)),(15,(.j ⟨[4,25],[0,3,31],⟨[.ptr 0 0,.ptr 2 0,.d .bool],[.cells 202 [.d (.sl jI),.d (.sl pI),.d (.sl kC),.d (.sl .str),.d (.sl .str),.d (.sl ne),.d (.sl .str),.row 3,.d aH,.d aH],.gone,.cells 216 [.d .sm],.rows 206 ajp pG]⟩,[]⟩))]⟩
def JI (n:Nat):bW:=cn ul (dN n)
def pw:FT:=⟨⟨[.ptr 0 0,.d .sm],ZQ⟩,⟨[],ZR⟩,.leaf⟩
def Bs (n:Nat):bW:=cn pw (cF n)
def rk:FT:=⟨⟨[.ptr 0 0,.d .sm,.d aH,.d aH,.d aH],ZQ⟩,⟨[],ZR⟩,.leaf⟩
def Ff (n:Nat):bW:=cn rk (cZ n)
def B6:FT:=⟨⟨[.d LG],[]⟩,⟨[.d sZ,.d aH,.d aH],[]⟩,dh [(20,(.j ⟨[],[1,2,7,8,9],⟨[.ptr 0 0,.ptr 1 0,.ptr 2 0,.d aH,.d aH],[.cells 160 [.d LG],.cells 123 W1,.cells 123 [.d (.sl jI),.d (.sl pI),.d (.sl kC),.d (.sl .str),.d (.sl .str),.d (.sl ne),.row 3],.rows 189 ajp vu]⟩,[.cel 7 6 189 vu]⟩)),(32,(.a [.cel 10 7 206 pG])),(45,(.j ⟨[8,9],[1,2,7,10,11,12],⟨afd,aiq⟩,[]⟩)),(59,(.j ⟨[8,9,12,13],[1,2,7,10,11,14],⟨afd,aiq⟩,[]⟩))]⟩
def MZ:bW:=cn B6 pa
def Pr:FT:=⟨⟨Jb,[]⟩,⟨[.d .bool],[]⟩,dh [(6,(.j ⟨[0,1],[5],⟨[.d aH],[]⟩,[]⟩))]⟩
def YO:bW:=cn Pr o9
def Pq:FT:=⟨⟨Jb,[]⟩,⟨pN,[]⟩,dh [(6,(.j ⟨[0,1],[5],⟨[.d aH],[]⟩,[]⟩)),(8,(.j ⟨[0,1,5],[18],⟨[.d .bool],[]⟩,[]⟩)),(16,(.j ⟨[0,1,5],[32],⟨[.d .bool],[]⟩,[]⟩))]⟩
def YN:bW:=cn Pq uJ
def H9:FT:=⟨⟨[.d (.sl aH),.d (.sl aH)],[]⟩,⟨pN,[]⟩,dh [(8,(.j ⟨[0,1],[5,6],⟨Jb,[]⟩,[]⟩)),(23,(.j ⟨[1],[5,7],⟨Jb,[]⟩,[]⟩))]⟩
def SD:bW:=cn H9 pW
def zj:FT:=⟨⟨[.d aH],[]⟩,⟨[.d aH],[]⟩,dh [(3,(.j ⟨[0],[8],⟨[.d .bool],[]⟩,[]⟩))]⟩
def J8:bW:=cn zj kW
def Ll:FT:=⟨⟨[.d dR],[]⟩,⟨[.agg abu],Zz⟩,dh [(8,(.j ⟨[],[1,2,3,4],⟨DO,[.cells 193 [.d dR],.cells 193 Vd,.cells 193 [.d aH,.row 3,.row 4,.d aH],.rows 2 ajp aH,.rows 49 ajp (.sl aH)]⟩,[.cel 3 2 49 (.sl aH)]⟩))]⟩
def Wg:bW:=cn Ll bR
def Lk:FT:=⟨⟨[.d pG,.agg abu],Zz⟩,⟨[.agg abu,.d .bool],Zz⟩,dh [(8,(.j ⟨[6],[2,3,4,7],⟨[.ptr 2 0,.ptr 3 0,.ptr 4 0,.d aH],afo⟩,[]⟩)),(17,(.j ⟨[6,7],[2,3,4,33],⟨[.ptr 2 0,.ptr 3 0,.ptr 4 0,.d .bool],afo⟩,[]⟩)),(32,(.j ⟨[],[2,3,4,8,9,10],⟨[.ptr 2 0,.ptr 3 0,.ptr 4 0,.d aH,.d .bool,.d (.sl aH)],afo⟩,[]⟩))]⟩
def Wf:bW:=cn Lk uI
def EJ:FT:=⟨⟨[.d vu,.d dR],[]⟩,⟨[.d dR,.d .bool],[]⟩,dh [(3,(.j ⟨[],[2,3,4,23],⟨Cz,[.cells 189 [.d vu],.cells 193 [.d dR],.cells 193 Vd]⟩,[]⟩)),(16,(.j ⟨[],[2,3,4,6],⟨DO,aii⟩,[]⟩)),(26,(.j ⟨[6],[2,3,4,44],⟨Cz,aii⟩,[]⟩))]⟩
def Qa:bW:=cn EJ l8
def H7:FT:=⟨⟨[.d mT],[]⟩,⟨[.d FG],[]⟩,dh [(8,(.j ⟨[],[1,2,3,4],⟨DO,[.cells 31 [.d mT],.cells 107 AE,.cells 107 [.row 3,.d aH,.nil,.nil],.rows 175 ajp dt]⟩,[.cel 3 0 175 dt]⟩)),(23,(.j ⟨[],[1,2,3,5],⟨DO,[.cells 31 [.d mT],.cells 107 AE,.cells 107 [.row 3,.d aH,.row 4,.nil],.rows 175 ajp dt,.rows 4 ajp .bool]⟩,[.cel 3 2 4 .bool]⟩)),(38,(.j ⟨[],[1,2,3,6],⟨DO,[.cells 31 [.d mT],.cells 107 AE,.cells 107 Zu,.rows 175 ajp dt,.rows 4 ajp .bool,.rows 177 ajp gm]⟩,[.cel 3 3 177 gm]⟩)),(49,(.j ⟨[6],[1,2,3,7],⟨Zw,[.cells 31 [.d mT],.cells 107 AE,.cells 107 [.row 4,.d aH,.row 5,.row 6],.cells 177 [.d gm],.rows 175 ajp dt,.rows 4 ajp .bool,.rows 177 ajp gm]⟩,[]⟩))]⟩
def Sz:bW:=cn H7 pU
def Li:FT:=⟨⟨[.d mT,.d FG],[]⟩,⟨[.d .bool],[]⟩,dh [(6,(.j ⟨[],[2,3,5],⟨tf,TW⟩,[]⟩)),(15,(.j ⟨[5],[2,3,31],⟨qo,TW⟩,[]⟩)),(23,(.j ⟨[],[4],⟨[.d .bool],[]⟩,[]⟩))]⟩
def Wd:bW:=cn Li pV
def UN:FT:=⟨⟨ur,[]⟩,⟨[.d .bool],[]⟩,dh [(2,(.j ⟨[],[4],⟨[.d .bool],[]⟩,[]⟩))]⟩
def ab0:bW:=cn UN o8
def H6:FT:=⟨⟨[.d mT,.d aH,.d aH],[]⟩,⟨[.d .bool],[]⟩,dh [(6,(.j ⟨[2,7],[3,8],⟨gf,oL⟩,[]⟩)),(36,(.j ⟨[2,7],[3,18],⟨gf,oL⟩,[]⟩)),(46,(.j ⟨[2,7],[3,26],⟨gf,oL⟩,[]⟩)),(53,(.j ⟨[],[6],⟨[.d .bool],[]⟩,[]⟩)),(56,(.j ⟨[2,7],[3,43],⟨gf,oL⟩,[]⟩)),(71,(.j ⟨[],[6],⟨[.d .bool],[]⟩,[]⟩)),(74,(.j ⟨[2,7],[3,61],⟨gf,oL⟩,[]⟩)),(92,(.j ⟨[2,7],[3,71],⟨gf,oL⟩,[]⟩)),(102,(.j ⟨[2],[3,79],⟨gf,oL⟩,[]⟩))]⟩
def Sy:bW:=cn H6 sx
def B3:FT:=⟨⟨[.d mT,.d FG,.d aH,.d aH,.d aH],[]⟩,⟨[.d .bool],[]⟩,dh [(3,(.j ⟨[2,3,4],[5,6,30],⟨qo,TW⟩,[]⟩)),(25,(.j ⟨[],[10],⟨[.d .bool],[]⟩,[]⟩)),(50,(.j ⟨[],[10],⟨[.d .bool],[]⟩,[]⟩)),(56,(.j ⟨[],[10],⟨[.d .bool],[]⟩,[]⟩)),(59,(.j ⟨[2,4,70],[5,6,11,119],⟨Cz,[.cells 31 [.d mT],.cells 107 [.d FG],.cells 177 [.d gm]]⟩,[]⟩)),(99,(.j ⟨[2,4,70],[5,6,160],⟨qo,TW⟩,[]⟩)),(116,(.j ⟨[],[10],⟨[.d .bool],[]⟩,[]⟩)),(122,(.j ⟨[],[10],⟨[.d .bool],[]⟩,[]⟩))]⟩
def MW:bW:=cn B3 js
def B2:FT:=⟨⟨[.d FG,.d aH],[]⟩,⟨pN,[]⟩,dh [(8,(.j ⟨[1],[2,5,6],⟨Nq,Zv⟩,[.nil 5 3 aH]⟩)),(16,(.j ⟨[1,6],[2,5],⟨[.ptr 0 0,.row 1],Zv⟩,[]⟩)),(17,(.j ⟨[1,6],[2,5,30],⟨[.ptr 0 0,.row 1,.d .bool],Zv⟩,[]⟩))]⟩
def MV:bW:=cn B2 mz
def B1:FT:=⟨⟨Jb,[]⟩,⟨pN,[]⟩,dh [(8,(.j ⟨[0,1],[5,6],⟨[.row 0,.d aH],[.rows 3 ajp aH]⟩,[.nil 5 3 aH]⟩)),(16,(.j ⟨[0,1,6],[5],⟨[.row 0],[.rows 3 ajp aH]⟩,[]⟩))]⟩
def MU:bW:=cn B1 o7
def Lj:FT:=⟨⟨[.d FG],[]⟩,⟨[.agg FF],afe⟩,dh [(8,(.j ⟨[],[1,2,3,4],⟨DO,[.cells 107 [.d FG],.cells 107 AE,.cells 107 Zu,.rows 175 ajp dt,.rows 4 ajp .bool,.rows 177 ajp gm]⟩,[.cel 3 0 175 dt]⟩))]⟩
def We:bW:=cn Lj gx
def li:FT:=⟨⟨[.agg FF,.d aH],afe⟩,⟨pN,afe⟩,dh [(8,(.j ⟨[1],[2,5,6],⟨[.ptr 3 0,.row 4,.d aH],afk⟩,[.nil 5 3 aH]⟩)),(16,(.j ⟨[1,6],[2,5],⟨[.ptr 3 0,.row 4],afk⟩,[]⟩)),(17,(.j ⟨[1,6],[2,5,30],⟨[.ptr 3 0,.row 4,.d .bool],afk⟩,[]⟩))]⟩
def J7:bW:=cn li kV
def IA:bW:=⟨li.pre,⟨li.post.vs,[]⟩,iJ⟩
def H8:FT:=⟨⟨[.d mT,.d FG,.d aH,.d aH,.d aH,.d aH],[]⟩,⟨[.d FG,.d aH,.d .bool],[]⟩,dh [(17,(.j ⟨[],[7,12,15],⟨tf,afm⟩,[]⟩)),(26,(.j ⟨[2,4,5,15,30],[6,7,12,45],⟨Cz,aij⟩,[]⟩)),(34,(.j ⟨[2,4,5,15,30],[6,7,12,54],⟨Cz,aij⟩,[]⟩)),(90,(.j ⟨[],[7,12,17],⟨tf,afm⟩,[]⟩)),(109,(.j ⟨[18],[7,12,19],⟨tf,afm⟩,[]⟩))]⟩
def SA:bW:=cn H8 od
def H5:FT:=⟨⟨[.d sZ],[]⟩,⟨[.d uv],[]⟩,dh [(16,(.j ⟨[],[1,2,3,4],⟨DO,[.cells 123 [.d sZ],.cells 118 ut,.cells 118 [.d (.sl dt),.d aH,.d oM,.d (.sl gm),.row 3,.nil,.nil],.rows 2 ajp aH]⟩,[.cel 3 4 2 aH]⟩)),(31,(.j ⟨[],[1,2,3,5],⟨DO,[.cells 123 [.d sZ],.cells 118 ut,.cells 118 [.d (.sl dt),.d aH,.d oM,.d (.sl gm),.row 3,.row 4,.nil],.rows 2 ajp aH,.rows 2 ajp aH]⟩,[.cel 3 5 2 aH]⟩)),(46,(.j ⟨[],[1,2,3,6],⟨DO,[.cells 123 [.d sZ],.cells 118 ut,.cells 118 afl,.rows 2 ajp aH,.rows 2 ajp aH,.rows 193 ajp dR]⟩,[.cel 3 6 193 dR]⟩))]⟩
def Sw:bW:=cn H5 sw
def Lh:FT:=⟨⟨[.d sZ,.d uv],[]⟩,⟨[.d .bool],[]⟩,dh [(3,(.j ⟨[],[2,3,46],⟨qo,Zy⟩,[]⟩)),(14,(.j ⟨[],[2,3,5],⟨tf,Zy⟩,[]⟩)),(25,(.j ⟨[5],[2,3,97],⟨qo,Zy⟩,[]⟩))]⟩
def Wb:bW:=cn Lh uH
def Lf:FT:=⟨⟨[.d aH],[]⟩,⟨[.d aH],[]⟩,dh [(5,(.j ⟨[0],[3,10],⟨[.row 0,.d .bool],[.rows 3 ajq aH]⟩,[]⟩))]⟩
def V9:bW:=cn Lf uF
def Ek:FT:=⟨⟨[.d pG,.d dR],[]⟩,⟨[.d aH],[]⟩,dh [(6,(.j ⟨[6],[2,3,7],⟨qo,[.cells 206 [.d pG],.cells 193 [.d dR]]⟩,[]⟩)),(28,(.j ⟨[],[2,40],⟨gf,[.cells 206 [.d pG]]⟩,[]⟩))]⟩
def PD:bW:=cn Ek qJ
def BZ:FT:=⟨⟨[.d sZ,.d uv,.d aH],[]⟩,⟨[.d ip,.d .bool],[]⟩,dh [(3,(.j ⟨[2],[3,4,6,25],⟨Cz,[.cells 123 [.d sZ],.cells 118 [.d uv],.cells 54 tj]⟩,[]⟩)),(54,(.j ⟨[],[6,8,9,10],⟨Zw,aig⟩,[.cel 10 5 3 aH]⟩)),(59,(.j ⟨[],[6,8,9,10,98],⟨ye,[.cells 54 tj,.cells 193 [.d dR],.cells 206 [.d pG],.cells 54 tj]⟩,[]⟩)),(68,(.j ⟨[],[6,10],⟨[.ptr 0 0,.ptr 1 0],[.cells 54 tj,.cells 54 [.d aH,.d aH,.d aH,.d aH,.d aH,.row 2,.row 3],.rows 3 ajp aH,.rows 3 ajp aH]⟩,[.cel 10 6 3 aH]⟩)),(69,(.j ⟨[],[6,8,9,10,123],⟨ye,aig⟩,[]⟩))]⟩
def MT:bW:=cn BZ my
def H3:FT:=⟨⟨[.d mT],[]⟩,⟨[.d gW],[]⟩,dh [(8,(.j ⟨[],[1,2,3,4],⟨DO,[.cells 31 [.d mT],.cells 110 ut,.cells 110 afl,.rows 2 ajp aH,.rows 2 ajq aH,.rows 3 ajq aH]⟩,[.cel 3 4 2 aH]⟩))]⟩
def Su:bW:=cn H3 lI
def Ld:FT:=⟨⟨[.d mT,.d gW],[]⟩,⟨[.d .bool],[]⟩,dh [(2,(.j ⟨[],[4],⟨[.d .bool],[]⟩,[]⟩))]⟩
def V8:bW:=cn Ld uE
def UM:FT:=⟨⟨ur,[]⟩,⟨[.d .bool],[]⟩,dh [(2,(.j ⟨[],[4],⟨[.d .bool],[]⟩,[]⟩))]⟩
def aaz:bW:=cn UM Bn
def BY:FT:=⟨⟨Jb,[]⟩,⟨[.d .bool],[]⟩,dh [(6,(.j ⟨[0,1],[5],⟨[.d aH],[]⟩,[]⟩)),(15,(.j ⟨[0,1,5],[40],⟨[.d .bool],[]⟩,[]⟩))]⟩
def MS:bW:=cn BY mw
def HZ:FT:=⟨⟨[.d gW,.d ip],[]⟩,⟨[.d .bool],[]⟩,dh [(21,(.j ⟨[],[4],⟨[.d .bool],[]⟩,[]⟩)),(24,(.j ⟨[7],[2,3,40],⟨qo,[.cells 110 [.d gW],.cells 54 [.d ip]]⟩,[]⟩)),(47,(.j ⟨[],[4],⟨[.d .bool],[]⟩,[]⟩))]⟩
def Ss:bW:=cn HZ sr
def Lc:FT:=⟨⟨[.d mT,.d gW,.d ip],[]⟩,⟨[.d gW,.d .bool],[]⟩,dh [(3,(.j ⟨[],[3,4,5,6,46],⟨ye,Jf⟩,[]⟩)),(10,(.j ⟨[],[3,4,5,6],⟨Zw,Jf⟩,[]⟩)),(11,(.j ⟨[],[3,4,5,6,55],⟨ye,Jf⟩,[]⟩)),(21,(.j ⟨[],[3,4,5,6,78],⟨ye,Jf⟩,[]⟩)),(28,(.j ⟨[],[3,4,5,6,8],⟨ye,Jf⟩,[]⟩)),(31,(.j ⟨[],[3,4,5,6,110],⟨ye,Jf⟩,[]⟩)),(39,(.j ⟨[],[3,4,5,6,125],⟨ye,Jf⟩,[]⟩)),(47,(.j ⟨[],[3,4,5,6,154],⟨ye,Jf⟩,[]⟩)),(58,(.j ⟨[],[3,4,5,6,9,10],⟨afd,[.cells 31 [.d mT],.cells 110 [.d gW],.cells 54 [.d ip],.cells 110 ut,.cells 110 [.nil,.d aH,.nil,.nil,.row 5,.row 6,.row 7],.rows 2 ajp aH,.rows 2 ajp aH,.rows 3 ajp aH]⟩,[]⟩)),(66,(.j ⟨[],[5,6,9],⟨[.ptr 0 0,.ptr 1 0,.ptr 2 0],afb⟩,[]⟩)),(72,(.j ⟨[],[5,6,9],⟨[.ptr 0 0,.ptr 1 0,.ptr 2 0],afb⟩,[]⟩))]⟩
def V7:bW:=cn Lc pT
def H0:FT:=⟨⟨[.d (.sl ip),.d aH,.d aH,.d (.sl aH)],[]⟩,⟨[.d .bool],[]⟩,dh [(6,(.j ⟨[0,1,2,3],[9],⟨[.d aH],[]⟩,[]⟩)),(23,(.j ⟨[0,1,2,3,9],[10,11,12],⟨[.d aH,.d .bool,.d aH],[]⟩,[]⟩)),(31,(.j ⟨[0,1,2,3,9,12],[10,11],⟨[.d aH,.d .bool],[]⟩,[]⟩)),(38,(.j ⟨[0,1,2,3,9,10,12],[11],⟨[.d .bool],[]⟩,[]⟩))]⟩
def St:bW:=cn H0 pS
def H4:FT:=⟨⟨[.d nE],[]⟩,⟨ur,[]⟩,dh [(24,(.j ⟨[],[1,4,5],⟨tf,[.cells 34 [.d nE],.cells 110 [.d gW]]⟩,[]⟩)),(38,(.j ⟨[5],[1,4,7,63],⟨Cz,[.cells 34 [.d nE],.cells 110 [.d gW],.cells 110 [.d gW]]⟩,[]⟩))]⟩
def Sv:bW:=cn H4 su
def EI:FT:=⟨⟨[.d uv],[]⟩,⟨[.agg [.agg FF,.row 3,.row 4,.csl 5 4 1]],[.rows 175 ajp dt,.rows 4 ajp .bool,.rows 177 ajp gm,.rows 2 ajp aH,.rows 2 ajp aH,.cells 193 [.d aH,.row 6,.row 7,.d aH],.rows 2 ajp aH,.rows 49 ajp (.sl aH)]⟩,dh [(8,(.u 2))]⟩
def P9:bW:=cn EI l7
def Ew:FT:=⟨⟨Kq,[]⟩,⟨Kr,[]⟩,dh [(27,(.s 5 0 0 1)),(37,(.j ⟨[],[3,4,5,6,7,9,14,15,16],⟨Kv,afx⟩,[]⟩)),(38,(.j ⟨[16,77],[3,4,5,6,7,9,14,15,78],⟨LF,afx⟩,[]⟩)),(83,(.j ⟨[16],[3,4,5,6,7,9,14],⟨Kt,[.cells 123 [.d sZ],.cells 118 adi,.cells 163 [.d gV],.cells 118 ut,.cells 54 tj,.cells 54 [.d ip],.cells 193 Jd,.rows 2 ajp aH,.rows 2 ajp aH,.cells 193 Jd,.rows 2 ajp aH,.rows 49 ajp (.sl aH)]⟩,[]⟩)),(84,(.j ⟨[16],[3,4,5,6,7,9,14,15,154],⟨LF,afx⟩,[]⟩)),(95,(.j ⟨[],[4,5,6,7,9,14],⟨Ks,[.cells 118 [.d (.sl dt),.d aH,.d oM,.d (.sl gm),.row 6,.row 7,.csl 8 4 1],.cells 163 [.d gV],.cells 118 ut,.cells 54 tj,.cells 54 [.d ip],.cells 193 [.d dR],.rows 2 ajp aH,.rows 2 ajp aH,.cells 193 [.d dR]]⟩,[]⟩)),(96,(.j ⟨[],[3,4,5,6,7,9,14,183],⟨Ku,[.cells 123 [.d sZ],.cells 118 adi,.cells 163 [.d gV],.cells 118 ut,.cells 54 tj,.cells 54 [.d ip],.cells 193 Je,.rows 2 ajp aH,.rows 2 ajp aH,.cells 193 Je]⟩,[]⟩)),(102,(.s 5 0 0 1)),(104,(.a [.pk 4 6 dR]))]⟩
def PR:bW:=cn Ew eW
def EH:FT:=⟨⟨[.d uv],[]⟩,⟨[.agg [.agg FF,.row 3,.row 4,.csl 5 4 2]],[.rows 175 ajp dt,.rows 4 ajp .bool,.rows 177 ajp gm,.rows 2 ajp aH,.rows 2 ajp aH,.cells 193 [.d aH,.row 6,.row 7,.d aH,.d dR],.rows 2 ajp aH,.rows 49 ajp (.sl aH)]⟩,dh [(8,(.u 3))]⟩
def P5:bW:=cn EH lZ
def Ev:FT:=⟨⟨Kq,[]⟩,⟨Kr,[]⟩,dh [(27,(.s 5 0 0 1)),(37,(.j ⟨[],[3,4,5,6,7,9,14,15,16],⟨Kv,afz⟩,[]⟩)),(38,(.j ⟨[16,77],[3,4,5,6,7,9,14,15,78],⟨LF,afz⟩,[]⟩)),(83,(.j ⟨[16],[3,4,5,6,7,9,14],⟨Kt,[.cells 123 [.d sZ],.cells 118 ac1,.cells 163 [.d gV],.cells 118 ut,.cells 54 tj,.cells 54 [.d ip],.cells 193 Jd,.rows 2 ajp aH,.rows 2 ajp aH,.cells 193 [.d aH,.row 10,.row 11,.d aH,.d dR],.rows 2 ajp aH,.rows 49 ajp (.sl aH)]⟩,[]⟩)),(84,(.j ⟨[16],[3,4,5,6,7,9,14,15,154],⟨LF,afz⟩,[]⟩)),(95,(.j ⟨[],[4,5,6,7,9,14],⟨Ks,aio⟩,[]⟩)),(96,(.j ⟨[],[3,4,5,6,7,9,14,183],⟨Ku,[.cells 123 [.d sZ],.cells 118 ac1,.cells 163 [.d gV],.cells 118 ut,.cells 54 tj,.cells 54 [.d ip],.cells 193 Je,.rows 2 ajp aH,.rows 2 ajp aH,.cells 193 [.d aH,.d (.sl aH),.d uu,.d aH,.d dR]]⟩,[]⟩)),(102,(.s 5 0 0 1)),(104,(.a [.pk 4 6 dR]))]⟩
def PQ:bW:=cn Ev fB
def EG:FT:=⟨⟨[.d uv],[]⟩,⟨[.agg [.agg FF,.row 3,.row 4,.csl 5 4 2]],[.rows 175 ajp dt,.rows 4 ajp .bool,.rows 177 ajp gm,.rows 2 ajp aH,.rows 2 ajp aH,.cells 193 [.d dR,.d aH,.row 6,.row 7,.d aH],.rows 2 ajp aH,.rows 49 ajp (.sl aH)]⟩,dh [(8,(.u 3))]⟩
def P4:bW:=cn EG lY
def Eu:FT:=⟨⟨Kq,[]⟩,⟨Kr,[]⟩,dh [(27,(.s 5 0 1 1)),(37,(.j ⟨[],[3,4,5,6,7,9,14,15,16],⟨Kv,afy⟩,[]⟩)),(38,(.j ⟨[16,77],[3,4,5,6,7,9,14,15,78],⟨LF,afy⟩,[]⟩)),(83,(.j ⟨[16],[3,4,5,6,7,9,14],⟨Kt,[.cells 123 [.d sZ],.cells 118 ac1,.cells 163 [.d gV],.cells 118 ut,.cells 54 tj,.cells 54 [.d ip],.cells 193 Jd,.rows 2 ajp aH,.rows 2 ajp aH,.cells 193 [.d dR,.d aH,.row 10,.row 11,.d aH],.rows 2 ajp aH,.rows 49 ajp (.sl aH)]⟩,[]⟩)),(84,(.j ⟨[16],[3,4,5,6,7,9,14,15,154],⟨LF,afy⟩,[]⟩)),(95,(.j ⟨[],[4,5,6,7,9,14],⟨Ks,aio⟩,[]⟩)),(96,(.j ⟨[],[3,4,5,6,7,9,14,183],⟨Ku,[.cells 123 [.d sZ],.cells 118 ac1,.cells 163 [.d gV],.cells 118 ut,.cells 54 tj,.cells 54 [.d ip],.cells 193 Je,.rows 2 ajp aH,.rows 2 ajp aH,.cells 193 [.d dR,.d aH,.d (.sl aH),.d uu,.d aH]]⟩,[]⟩)),(102,(.s 5 0 1 1)),(104,(.a [.pk 4 6 dR]))]⟩
def PP:bW:=cn Eu eV
def EE:FT:=⟨⟨[.d uv],[]⟩,⟨afa,[.rows 175 ajp dt,.rows 4 ajp .bool,.rows 177 ajp gm,.rows 2 ajp aH,.rows 2 ajp aH,.cells 193 [.d aH,.row 6,.row 7,.d aH,.d dR,.d dR],.rows 2 ajp aH,.rows 49 ajp (.sl aH)]⟩,dh [(8,(.u 4))]⟩
def P3:bW:=cn EE lX
def Et:FT:=⟨⟨Kq,[]⟩,⟨Kr,[]⟩,dh [(27,(.s 5 0 0 1)),(37,(.j ⟨[],[3,4,5,6,7,9,14,15,16],⟨Kv,ag2⟩,[]⟩)),(38,(.j ⟨[16,77],[3,4,5,6,7,9,14,15,78],⟨LF,ag2⟩,[]⟩)),(83,(.j ⟨[16],[3,4,5,6,7,9,14],⟨Kt,[.cells 123 [.d sZ],.cells 118 W2,.cells 163 [.d gV],.cells 118 ut,.cells 54 tj,.cells 54 [.d ip],.cells 193 Jd,.rows 2 ajp aH,.rows 2 ajp aH,.cells 193 [.d aH,.row 10,.row 11,.d aH,.d dR,.d dR],.rows 2 ajp aH,.rows 49 ajp (.sl aH)]⟩,[]⟩)),(84,(.j ⟨[16],[3,4,5,6,7,9,14,15,154],⟨LF,ag2⟩,[]⟩)),(95,(.j ⟨[],[4,5,6,7,9,14],⟨Ks,afs⟩,[]⟩)),(96,(.j ⟨[],[3,4,5,6,7,9,14,183],⟨Ku,[.cells 123 [.d sZ],.cells 118 W2,.cells 163 [.d gV],.cells 118 ut,.cells 54 tj,.cells 54 [.d ip],.cells 193 Je,.rows 2 ajp aH,.rows 2 ajp aH,.cells 193 [.d aH,.d (.sl aH),.d uu,.d aH,.d dR,.d dR]]⟩,[]⟩)),(102,(.s 5 0 0 1)),(104,(.a [.pk 4 6 dR]))]⟩
def PO:bW:=cn Et iz
def ED:FT:=⟨⟨[.d uv],[]⟩,⟨afa,[.rows 175 ajp dt,.rows 4 ajp .bool,.rows 177 ajp gm,.rows 2 ajp aH,.rows 2 ajp aH,.cells 193 [.d dR,.d aH,.row 6,.row 7,.d aH,.d dR],.rows 2 ajp aH,.rows 49 ajp (.sl aH)]⟩,dh [(8,(.u 4))]⟩
def P1:bW:=cn ED lV
def Es:FT:=⟨⟨Kq,[]⟩,⟨Kr,[]⟩,dh [(27,(.s 5 0 1 1)),(37,(.j ⟨[],[3,4,5,6,7,9,14,15,16],⟨Kv,ag1⟩,[]⟩)),(38,(.j ⟨[16,77],[3,4,5,6,7,9,14,15,78],⟨LF,ag1⟩,[]⟩)),(83,(.j ⟨[16],[3,4,5,6,7,9,14],⟨Kt,[.cells 123 [.d sZ],.cells 118 W2,.cells 163 [.d gV],.cells 118 ut,.cells 54 tj,.cells 54 [.d ip],.cells 193 Jd,.rows 2 ajp aH,.rows 2 ajp aH,.cells 193 [.d dR,.d aH,.row 10,.row 11,.d aH,.d dR],.rows 2 ajp aH,.rows 49 ajp (.sl aH)]⟩,[]⟩)),(84,(.j ⟨[16],[3,4,5,6,7,9,14,15,154],⟨LF,ag1⟩,[]⟩)),(95,(.j ⟨[],[4,5,6,7,9,14],⟨Ks,afs⟩,[]⟩)),(96,(.j ⟨[],[3,4,5,6,7,9,14,183],⟨Ku,[.cells 123 [.d sZ],.cells 118 W2,.cells 163 [.d gV],.cells 118 ut,.cells 54 tj,.cells 54 [.d ip],.cells 193 Je,.rows 2 ajp aH,.rows 2 ajp aH,.cells 193 [.d dR,.d aH,.d (.sl aH),.d uu,.d aH,.d dR]]⟩,[]⟩)),(102,(.s 5 0 1 1)),(104,(.a [.pk 4 6 dR]))]⟩
def PN:bW:=cn Es gL
def EC:FT:=⟨⟨[.d uv],[]⟩,⟨afa,[.rows 175 ajp dt,.rows 4 ajp .bool,.rows 177 ajp gm,.rows 2 ajp aH,.rows 2 ajp aH,.cells 193 [.d dR,.d dR,.d aH,.row 6,.row 7,.d aH],.rows 2 ajp aH,.rows 49 ajp (.sl aH)]⟩,dh [(8,(.u 4))]⟩
def P0:bW:=cn EC lU
def Ep:FT:=⟨⟨Kq,[]⟩,⟨Kr,[]⟩,dh [(27,(.s 5 0 2 1)),(37,(.j ⟨[],[3,4,5,6,7,9,14,15,16],⟨Kv,ag0⟩,[]⟩)),(38,(.j ⟨[16,77],[3,4,5,6,7,9,14,15,78],⟨LF,ag0⟩,[]⟩)),(83,(.j ⟨[16],[3,4,5,6,7,9,14],⟨Kt,[.cells 123 [.d sZ],.cells 118 W2,.cells 163 [.d gV],.cells 118 ut,.cells 54 tj,.cells 54 [.d ip],.cells 193 Jd,.rows 2 ajp aH,.rows 2 ajp aH,.cells 193 [.d dR,.d dR,.d aH,.row 10,.row 11,.d aH],.rows 2 ajp aH,.rows 49 ajp (.sl aH)]⟩,[]⟩)),(84,(.j ⟨[16],[3,4,5,6,7,9,14,15,154],⟨LF,ag0⟩,[]⟩)),(95,(.j ⟨[],[4,5,6,7,9,14],⟨Ks,afs⟩,[]⟩)),(96,(.j ⟨[],[3,4,5,6,7,9,14,183],⟨Ku,[.cells 123 [.d sZ],.cells 118 W2,.cells 163 [.d gV],.cells 118 ut,.cells 54 tj,.cells 54 [.d ip],.cells 193 Je,.rows 2 ajp aH,.rows 2 ajp aH,.cells 193 [.d dR,.d dR,.d aH,.d (.sl aH),.d uu,.d aH]]⟩,[]⟩)),(102,(.s 5 0 2 1)),(104,(.a [.pk 4 6 dR]))]⟩
def PL:bW:=cn Ep gg
def EB:FT:=⟨⟨[.d uv],[]⟩,⟨ac0,[.rows 175 ajp dt,.rows 4 ajp .bool,.rows 177 ajp gm,.rows 2 ajp aH,.rows 2 ajp aH,.cells 193 [.d aH,.row 6,.row 7,.d aH,.d dR,.d dR,.d dR],.rows 2 ajp aH,.rows 49 ajp (.sl aH)]⟩,dh [(8,(.u 5))]⟩
def PZ:bW:=cn EB lQ
def cW:FT:=⟨⟨Kq,[]⟩,⟨Kr,[]⟩,dh [(27,(.s 5 0 0 1)),(37,(.j ⟨[],[3,4,5,6,7,9,14,15,16],⟨Kv,afw⟩,[]⟩)),(38,(.j ⟨[16,77],[3,4,5,6,7,9,14,15,78],⟨LF,afw⟩,[]⟩)),(83,(.j ⟨[16],[3,4,5,6,7,9,14],⟨Kt,[.cells 123 [.d sZ],.cells 118 QO,.cells 163 [.d gV],.cells 118 ut,.cells 54 tj,.cells 54 [.d ip],.cells 193 Jd,.rows 2 ajp aH,.rows 2 ajp aH,.cells 193 [.d aH,.row 10,.row 11,.d aH,.d dR,.d dR,.d dR],.rows 2 ajp aH,.rows 49 ajp (.sl aH)]⟩,[]⟩)),(84,(.j ⟨[16],[3,4,5,6,7,9,14,15,154],⟨LF,afw⟩,[]⟩)),(95,(.j ⟨[],[4,5,6,7,9,14],⟨Ks,ac3⟩,[]⟩)),(96,(.j ⟨[],[3,4,5,6,7,9,14,183],⟨Ku,[.cells 123 [.d sZ],.cells 118 QO,.cells 163 [.d gV],.cells 118 ut,.cells 54 tj,.cells 54 [.d ip],.cells 193 Je,.rows 2 ajp aH,.rows 2 ajp aH,.cells 193 [.d aH,.d (.sl aH),.d uu,.d aH,.d dR,.d dR,.d dR]]⟩,[]⟩)),(102,(.s 5 0 0 1)),(104,(.a [.pk 4 6 dR]))]⟩
def PK:bW:=cn cW lK
def EA:FT:=⟨⟨[.d uv],[]⟩,⟨ac0,[.rows 175 ajp dt,.rows 4 ajp .bool,.rows 177 ajp gm,.rows 2 ajp aH,.rows 2 ajp aH,.cells 193 [.d dR,.d aH,.row 6,.row 7,.d aH,.d dR,.d dR],.rows 2 ajp aH,.rows 49 ajp (.sl aH)]⟩,dh [(8,(.u 5))]⟩
def PY:bW:=cn EA lP
def Eo:FT:=⟨⟨Kq,[]⟩,⟨Kr,[]⟩,dh [(27,(.s 5 0 1 1)),(37,(.j ⟨[],[3,4,5,6,7,9,14,15,16],⟨Kv,afv⟩,[]⟩)),(38,(.j ⟨[16,77],[3,4,5,6,7,9,14,15,78],⟨LF,afv⟩,[]⟩)),(83,(.j ⟨[16],[3,4,5,6,7,9,14],⟨Kt,[.cells 123 [.d sZ],.cells 118 QO,.cells 163 [.d gV],.cells 118 ut,.cells 54 tj,.cells 54 [.d ip],.cells 193 Jd,.rows 2 ajp aH,.rows 2 ajp aH,.cells 193 [.d dR,.d aH,.row 10,.row 11,.d aH,.d dR,.d dR],.rows 2 ajp aH,.rows 49 ajp (.sl aH)]⟩,[]⟩)),(84,(.j ⟨[16],[3,4,5,6,7,9,14,15,154],⟨LF,afv⟩,[]⟩)),(95,(.j ⟨[],[4,5,6,7,9,14],⟨Ks,ac3⟩,[]⟩)),(96,(.j ⟨[],[3,4,5,6,7,9,14,183],⟨Ku,[.cells 123 [.d sZ],.cells 118 QO,.cells 163 [.d gV],.cells 118 ut,.cells 54 tj,.cells 54 [.d ip],.cells 193 Je,.rows 2 ajp aH,.rows 2 ajp aH,.cells 193 [.d dR,.d aH,.d (.sl aH),.d uu,.d aH,.d dR,.d dR]]⟩,[]⟩)),(102,(.s 5 0 1 1)),(104,(.a [.pk 4 6 dR]))]⟩
def PI:bW:=cn Eo lJ
def Ez:FT:=⟨⟨[.d uv],[]⟩,⟨ac0,[.rows 175 ajp dt,.rows 4 ajp .bool,.rows 177 ajp gm,.rows 2 ajp aH,.rows 2 ajp aH,.cells 193 [.d dR,.d dR,.d aH,.row 6,.row 7,.d aH,.d dR],.rows 2 ajp aH,.rows 49 ajp (.sl aH)]⟩,dh [(8,(.u 5))]⟩
def PW:bW:=cn Ez lO
def Em:FT:=⟨⟨Kq,[]⟩,⟨Kr,[]⟩,dh [(27,(.s 5 0 2 1)),(37,(.j ⟨[],[3,4,5,6,7,9,14,15,16],⟨Kv,afu⟩,[]⟩)),(38,(.j ⟨[16,77],[3,4,5,6,7,9,14,15,78],⟨LF,afu⟩,[]⟩)),(83,(.j ⟨[16],[3,4,5,6,7,9,14],⟨Kt,[.cells 123 [.d sZ],.cells 118 QO,.cells 163 [.d gV],.cells 118 ut,.cells 54 tj,.cells 54 [.d ip],.cells 193 Jd,.rows 2 ajp aH,.rows 2 ajp aH,.cells 193 [.d dR,.d dR,.d aH,.row 10,.row 11,.d aH,.d dR],.rows 2 ajp aH,.rows 49 ajp (.sl aH)]⟩,[]⟩)),(84,(.j ⟨[16],[3,4,5,6,7,9,14,15,154],⟨LF,afu⟩,[]⟩)),(95,(.j ⟨[],[4,5,6,7,9,14],⟨Ks,ac3⟩,[]⟩)),(96,(.j ⟨[],[3,4,5,6,7,9,14,183],⟨Ku,[.cells 123 [.d sZ],.cells 118 QO,.cells 163 [.d gV],.cells 118 ut,.cells 54 tj,.cells 54 [.d ip],.cells 193 Je,.rows 2 ajp aH,.rows 2 ajp aH,.cells 193 [.d dR,.d dR,.d aH,.d (.sl aH),.d uu,.d aH,.d dR]]⟩,[]⟩)),(102,(.s 5 0 2 1)),(104,(.a [.pk 4 6 dR]))]⟩
def PH:bW:=cn Em kh
def Ey:FT:=⟨⟨[.d uv],[]⟩,⟨ac0,[.rows 175 ajp dt,.rows 4 ajp .bool,.rows 177 ajp gm,.rows 2 ajp aH,.rows 2 ajp aH,.cells 193 [.d dR,.d dR,.d dR,.d aH,.row 6,.row 7,.d aH],.rows 2 ajp aH,.rows 49 ajp (.sl aH)]⟩,dh [(8,(.u 5))]⟩
def PU:bW:=cn Ey lM
def El:FT:=⟨⟨Kq,[]⟩,⟨Kr,[]⟩,dh [(27,(.s 5 0 3 1)),(37,(.j ⟨[],[3,4,5,6,7,9,14,15,16],⟨Kv,aft⟩,[]⟩)),(38,(.j ⟨[16,77],[3,4,5,6,7,9,14,15,78],⟨LF,aft⟩,[]⟩)),(83,(.j ⟨[16],[3,4,5,6,7,9,14],⟨Kt,[.cells 123 [.d sZ],.cells 118 QO,.cells 163 [.d gV],.cells 118 ut,.cells 54 tj,.cells 54 [.d ip],.cells 193 Jd,.rows 2 ajp aH,.rows 2 ajp aH,.cells 193 [.d dR,.d dR,.d dR,.d aH,.row 10,.row 11,.d aH],.rows 2 ajp aH,.rows 49 ajp (.sl aH)]⟩,[]⟩)),(84,(.j ⟨[16],[3,4,5,6,7,9,14,15,154],⟨LF,aft⟩,[]⟩)),(95,(.j ⟨[],[4,5,6,7,9,14],⟨Ks,ac3⟩,[]⟩)),(96,(.j ⟨[],[3,4,5,6,7,9,14,183],⟨Ku,[.cells 123 [.d sZ],.cells 118 QO,.cells 163 [.d gV],.cells 118 ut,.cells 54 tj,.cells 54 [.d ip],.cells 193 Je,.rows 2 ajp aH,.rows 2 ajp aH,.cells 193 [.d dR,.d dR,.d dR,.d aH,.d (.sl aH),.d uu,.d aH]]⟩,[]⟩)),(102,(.s 5 0 3 1)),(104,(.a [.pk 4 6 dR]))]⟩
def PF:bW:=cn El jr
def Wc:bW:=cn cW yq
def Lg:FT:=⟨⟨[.d sZ,.d uv,.nil,.d (.sl gV)],[]⟩,⟨[.d (.sl ip),.d uv],[]⟩,dh [(1,(.a [.nil 2 54 ip])),(6,(.j ⟨[3],[2,4,5,9,10],⟨[.row 0,.ptr 1 0,.ptr 2 0,.ptr 3 0,.d aH],afj⟩,[]⟩)),(8,(.j ⟨[3,10],[2,4,5,9,22],⟨[.row 0,.ptr 1 0,.ptr 2 0,.ptr 3 0,.d .bool],afj⟩,[]⟩)),(14,(.j ⟨[3,10],[2,4,5,9],⟨[.row 0,.ptr 1 0,.ptr 2 0,.ptr 3 0],afj⟩,[]⟩))]⟩
def Wa:bW:=cn Lg uG
def Pp:FT:=⟨⟨[.d sZ,.d (.sl gV)],[]⟩,⟨[.d nE,.d uv],[]⟩,.leaf⟩
def YM:bW:=cn Pp xr
def wS:FT:=⟨⟨vq,QM⟩,⟨[.d aH],QM⟩,dh [(3,(.j ⟨[1],[0,18],⟨gf,WY⟩,[]⟩))]⟩
def Fy:bW:=cn wS bh
def Lo:FT:=⟨⟨[.d aH],[]⟩,⟨[.d .ex],[]⟩,.leaf⟩
def Wm:bW:=cn Lo qb
def Im:FT:=⟨⟨[.d .str],[]⟩,⟨[.d .ex],[]⟩,.leaf⟩
def Te:bW:=cn Im om
def Cb:FT:=⟨⟨[.d aH,.d .ex,.d .ex],[]⟩,⟨[.d .ex],[]⟩,.leaf⟩
def M6:bW:=cn Cb mC
def Cc:FT:=⟨⟨[.d .str,.d .ex],[]⟩,⟨[.d .sm],[]⟩,.leaf⟩
def M7:bW:=cn Cc iv
def EW:FT:=⟨⟨[],[]⟩,⟨[.d (.sl E8)],[]⟩,.leaf⟩
def Qn:bW:=cn EW qL
def zC:FT:=⟨⟨[.d CA],[]⟩,⟨[.d (.sl gV)],[]⟩,dh [(8,(.j ⟨[0],[3,4],⟨[.row 0,.d aH],[.rows 163 ajp gV]⟩,[.nil 3 163 gV]⟩))]⟩
def Kl:bW:=cn zC nB
def mO:FT:=⟨⟨vq,TX⟩,⟨[.d .ex],TX⟩,dh [(8,(.j ⟨[1,6],[0,4,5,14],⟨[.ptr 0 0,.ptr 3 0,.row 4,.d .bool],[.cells 210 adh,.cells 101 [.d xc],.rowsP 9 .str,.cells 214 [.d aH,.d aH,.d .str,.nil],.rows 9 ajq .str]⟩,[]⟩))]⟩
def DE:bW:=cn mO dZ
def C6 (n:Nat):bW:=cn mO (gA n)
def tV:FT:=⟨⟨[.ptr 0 0,.d .str],TX⟩,⟨[.d .bool],TX⟩,.leaf⟩
def Co:bW:=cn tV dL
def ly:FT:=⟨⟨QP,TX⟩,⟨[.row 4],[.cells 210 afh,.cells 101 Ns,.gone,.rowsP 9 .str,.rows 216 ajp .sm]⟩,dh [(1,(.a [.ren 0 7])),(8,(.j ⟨[1,2],[0,7,8],⟨[.ptr 0 0,.row 3,.d aH],aih⟩,[.nil 7 216 .sm]⟩)),(10,(.j ⟨[1,2,8],[0,7,22],⟨[.ptr 0 0,.row 3,.d .bool],aih⟩,[]⟩)),(21,(.a [.nil 6 216 .sm]))]⟩
def Cn:bW:=cn ly pd
def Bt (n:Nat):bW:=cn ly (c4 n)
def qk:FT:=⟨⟨vq,TX⟩,⟨[.d .sm],[.cells 210 afh,.cells 101 Ns,.gone,.rowsP 9 .str]⟩,dh [(1,(.a [.ren 0 7])),(6,(.j ⟨[1,5],[0,4,6],⟨Jc,Zt⟩,[]⟩)),(28,(.j ⟨[1,5,6],[0,4,74],⟨Jc,Zt⟩,[]⟩)),(33,(.j ⟨[],[4,7],⟨[.ptr 3 0,.ptr 4 0],[.cells 210 [.ptr 1 0,.d aH,.d aH,.d .bool,.d .bool,.d .bool,.d .bool,.row 5],.cells 101 [.d xc],.gone,.cells 216 adl,.cells 216 [.d aH,.d aH,.d .str,.d .str,.nil,.d aH,.d aH,.d .str,.d (.sl .ex),.row 6,.row 7],.rowsP 9 .str,.rows 216 ajp .sm,.rows 216 ajp .sm]⟩,[.cel 7 10 216 .sm]⟩)),(42,(.j ⟨[1,5,6],[0,4,100],⟨Jc,Zt⟩,[]⟩)),(56,(.j ⟨[1,5,6],[0,4,133],⟨Jc,Zt⟩,[]⟩)),(64,(.j ⟨[1,5,6],[0,4,165],⟨Jc,Zt⟩,[]⟩)),(70,(.j ⟨[1,5,6],[0,4,188],⟨Jc,Zt⟩,[]⟩)),(82,(.j ⟨[1,5,6],[0,4,210],⟨Jc,Zt⟩,[]⟩)),(94,(.j ⟨[5,6],[0,4,235],⟨Jc,Zt⟩,[]⟩)),(100,(.j ⟨[5],[0,4,258],⟨Jc,Zt⟩,[]⟩)),(106,(.j ⟨[5],[0,4,278],⟨Jc,Zt⟩,[]⟩)),(114,(.j ⟨[],[0,4,308],⟨Jc,Zt⟩,[]⟩))]⟩
def C5 (n:Nat):bW:=cn qk (dF n)
def px:FT:=⟨⟨[.ptr 0 0,.d .str,.d aH],TX⟩,⟨[.d (.sl .sm)],[.cells 210 afh,.cells 101 Ns,.gone,.rowsP 9 .str]⟩,.leaf⟩
def Bu (n:Nat):bW:=cn px (dk n)
def zB:FT:=⟨⟨[.d CA],[]⟩,⟨[.d LG],[]⟩,dh [(5,(.a [.cel 3 7 9 .str])),(14,(.j ⟨[5],[2,3,4,6,7],⟨[.ptr 0 0,.ptr 1 0,.ptr 2 0,.row 3,.d aH],[.cells 160 [.nil,.nil],.cells 210 [.ptr 4 0,.d aH,.d aH,.d .bool,.d .bool,.d .bool,.d .bool,.row 5],.cells 160 [.d (.sl E8),.row 6],.rows 9 ajq .str,.cells 101 [.d xc],.rowsP 9 .str,.rows 200 ajp rn]⟩,[.cel 4 1 200 rn]⟩)),(27,(.j ⟨[5,7],[2,3,4,6,8],⟨[.ptr 0 0,.ptr 1 0,.ptr 2 0,.row 3,.ptr 4 0],La7⟩,[.cel 8 3 216 .sm]⟩)),(34,(.j ⟨[5,7],[2,3,4,6,8,9],⟨[.ptr 0 0,.ptr 1 0,.ptr 2 0,.row 3,.ptr 4 0,.d aH],La7⟩,[.cel 8 3 216 .sm]⟩)),(48,(.j ⟨[5,7],[2,3,4,6,8],⟨[.ptr 0 0,.ptr 1 0,.ptr 2 0,.row 3,.ptr 4 0],La7⟩,[]⟩)),(49,(.j ⟨[5,7],[2,3,4,6,8,79],⟨[.ptr 0 0,.ptr 1 0,.ptr 2 0,.row 3,.ptr 4 0,.d .bool],La7⟩,[]⟩))]⟩
def Kk:bW:=cn zB nA
def In:FT:=⟨⟨[.d CA],[]⟩,⟨[.d sZ],[]⟩,.leaf⟩
def Tf:bW:=cn In vN
def EX:FT:=⟨⟨[.d CA,.d CA],[]⟩,⟨[.d nE],[]⟩,.leaf⟩
def Qo:bW:=cn EX qM
def BW:FT:=⟨⟨[],[]⟩,⟨[.d mT],[]⟩,dh [(8,(.j ⟨[21],[0,1,22],⟨tf,ac2⟩,[.cel 1 5 141 ne]⟩)),(22,(.j ⟨[2,21,22],[0,1,3],⟨tf,ac2⟩,[]⟩))]⟩
def MQ:bW:=cn BW mt
def xK:FT:=⟨⟨[.d gW],[]⟩,⟨pN,[]⟩,dh [(8,(.j ⟨[8,9],[3,10],⟨[.row 0,.d aH],[.rows 3 ajp aH]⟩,[.nil 3 3 aH]⟩)),(16,(.j ⟨[8,9,10],[3],⟨[.row 0],[.rows 3 ajp aH]⟩,[]⟩))]⟩
def Iz:bW:=cn xK jX
def BU:FT:=⟨⟨[],[]⟩,⟨pN,[]⟩,.leaf⟩
def MO:bW:=cn BU rJ
def zh:FT:=⟨⟨QP,QM⟩,⟨[.d aH],QM⟩,dh [(6,(.j ⟨[2,7],[0,8],⟨gf,WY⟩,[]⟩)),(16,(.j ⟨[2,7],[0,16],⟨gf,WY⟩,[]⟩)),(26,(.j ⟨[2,7],[0,21],⟨gf,WY⟩,[]⟩)),(44,(.j ⟨[2,7],[0,26],⟨gf,WY⟩,[]⟩)),(70,(.j ⟨[2],[0,33],⟨gf,WY⟩,[]⟩))]⟩
def J6:bW:=cn zh nv
def BT:FT:=⟨⟨[.ptr 0 0,.d gW,.d aH,.d aH],QM⟩,⟨[.d aH],QM⟩,dh [(18,(.j ⟨[10],[0,5,24],⟨qo,[.cells 101 [.d xc],.cells 110 [.d gW]]⟩,[]⟩))]⟩
def MN:bW:=cn BT oY
def Ei:FT:=⟨⟨[.ptr 0 0,.row 1],[.cells 101 Ns,.rows 3 ajp aH]⟩,⟨pN,[.cells 101 Ns,.rows 3 ajp aH]⟩,dh [(8,(.j ⟨[9],[0,1,5,8,10],⟨[.ptr 0 0,.row 1,.row 2,.row 1,.d aH],afc⟩,[.nil 5 3 aH]⟩)),(16,(.j ⟨[9,10],[0,1,5,8],⟨[.ptr 0 0,.row 1,.row 2,.row 1],afc⟩,[]⟩)),(19,(.j ⟨[7,9,10],[0,1,5,8,24],⟨[.ptr 0 0,.row 1,.row 2,.row 1,.d .bool],afc⟩,[]⟩))]⟩
def PA:bW:=cn Ei fA
def BV:FT:=⟨⟨[.ptr 0 0,.d gW,.d mT,.csl 1 1 4],aif⟩,⟨[.d ip],aif⟩,dh [(8,(.j ⟨[9],[0,3,5,6,8,11],⟨[.ptr 0 0,.csl 1 1 4,.ptr 6 0,.ptr 7 0,.ptr 8 0,.ptr 9 0],ail⟩,[]⟩)),(9,(.j ⟨[9],[0,3,5,6,8,11,36],⟨[.ptr 0 0,.csl 1 1 4,.ptr 6 0,.ptr 7 0,.ptr 8 0,.ptr 9 0,.d .bool],ail⟩,[]⟩)),(18,(.j ⟨[9],[0,3,8,11],⟨[.ptr 0 0,.csl 1 1 4,.ptr 6 0,.ptr 7 0],aim⟩,[]⟩)),(19,(.j ⟨[9],[0,3,8,11,74],⟨[.ptr 0 0,.csl 1 1 4,.ptr 6 0,.ptr 7 0,.d .bool],[.cells 101 [.d xc],.cells 49 Zr,.rows 3 ajp aH,.rows 3 ajp aH,.rows 3 ajp aH,.rows 3 ajp aH,.cells 54 tj,.cells 54 tj]⟩,[]⟩)),(22,(.s 9 0 0 4)),(24,(.j ⟨[],[8,11],⟨[.ptr 6 0,.ptr 7 0],[.cells 101 [.d xc],.cells 49 Zr,.rows 3 ajp aH,.rows 3 ajp aH,.rows 3 ajp aH,.rows 3 ajp aH,.cells 54 tj,.cells 54 [.d aH,.d aH,.d aH,.d aH,.d aH,.d (.sl aH),.d (.sl aH)]]⟩,[]⟩)),(25,(.j ⟨[9],[0,3,8,11,89],⟨[.ptr 0 0,.csl 1 1 4,.ptr 6 0,.ptr 7 0,.d .bool],aim⟩,[]⟩)),(28,(.s 9 0 0 4))]⟩
def MP:bW:=cn BV oZ
def Ej:FT:=⟨⟨[.ptr 0 0,.d gW,.d mT,.d aH,.d .bool],QM⟩,⟨[.d (.sl ip)],QM⟩,dh [(8,(.a [.cel 12 0 3 aH,.cel 12 1 3 aH,.cel 12 2 3 aH,.cel 12 3 3 aH])),(9,(.j ⟨[3,11],[0,6,7,12],⟨[.ptr 0 0,.ptr 1 0,.ptr 2 0,.csl 3 1 4],afp⟩,[]⟩)),(10,(.u 5)),(18,(.j ⟨[3,4,11,22,23],[0,6,7,12],⟨[.ptr 0 0,.ptr 1 0,.ptr 2 0,.csl 3 1 4],afp⟩,[]⟩)),(21,(.j ⟨[3,4,11,13,22,23],[0,6,7,12,39],⟨[.ptr 0 0,.ptr 1 0,.ptr 2 0,.csl 3 1 4,.d .bool],afp⟩,[]⟩)),(29,(.j ⟨[3],[0,6,7,11,12],⟨[.ptr 0 0,.ptr 1 0,.ptr 2 0,.row 3,.csl 4 1 4],afq⟩,[.nil 11 54 ip]⟩)),(31,(.j ⟨[3],[0,6,7,11,12,65],⟨[.ptr 0 0,.ptr 1 0,.ptr 2 0,.row 3,.csl 4 1 4,.d .bool],afq⟩,[]⟩)),(36,(.j ⟨[3],[0,6,7,11,12],⟨[.ptr 0 0,.ptr 1 0,.ptr 2 0,.row 3,.csl 4 1 4],afq⟩,[]⟩)),(47,(.j ⟨[3],[0,6,7,11,12,14,15],⟨[.ptr 0 0,.ptr 1 0,.ptr 2 0,.row 3,.csl 4 1 4,.ptr 5 0,.ptr 6 0],ain⟩,[]⟩)),(48,(.j ⟨[3],[0,6,7,11,12,14,15,87],⟨[.ptr 0 0,.ptr 1 0,.ptr 2 0,.row 3,.csl 4 1 4,.ptr 5 0,.ptr 6 0,.d .bool],ain⟩,[]⟩)),(51,(.s 14 0 0 4))]⟩
def PC:bW:=cn Ej qH
def BX:FT:=⟨⟨Ns,[]⟩,⟨[.d nE],[]⟩,dh [(2,(.j ⟨[1],[0,4],⟨[.d CA,.ptr 0 0],[.cells 34 W1]⟩,[]⟩)),(22,(.j ⟨[1,9],[4,5,6,7,8,10],⟨[.ptr 0 0,.ptr 1 0,.ptr 2 0,.ptr 3 0,.row 4,.d aH],[.cells 34 W1,.cells 101 [.d xc],.cells 34 [.d (.sl jI),.d (.sl pI),.d (.sl kC),.d (.sl .str),.d (.sl .str),.d (.sl ne),.nil],.cells 110 [.d gW],.rows 54 ajq ip]⟩,[]⟩)),(37,(.j ⟨[1,48],[4,5,6,7,47,49],⟨[.ptr 0 0,.ptr 1 0,.ptr 2 0,.ptr 3 0,.row 4,.d aH],aip⟩,[.cel 6 6 54 ip]⟩)),(45,(.j ⟨[1,48,49],[4,5,6,7,47],⟨[.ptr 0 0,.ptr 1 0,.ptr 2 0,.ptr 3 0,.row 4],aip⟩,[]⟩))]⟩
def MR:bW:=cn BX o6
def vb:FT:=⟨⟨[.d (.st (.pr CA (.pr CA CA))),.d aH],[]⟩,⟨[.d nE],[]⟩,.leaf⟩
def Dx:bW:=cn vb jY
theorem JS:aC Pg 171 Ke:=mk zo jC an bL
theorem Ho:aC Pg 144 IE:=mk xM iM (ac JS an) bL
theorem Eb:aC Pg 143 Qi:=mk ES kj an bL
theorem Sa:aC Pg 172 S9:=mk Il pZ an bL
theorem R9:aC Pg 145 S8:=mk Ik ol (ac Eb (ac Sa an)) bL
theorem qO:aC Pg 105 Qj:=mk EU ec (ac Eb (ac Ho (ac R9 an))) bL
theorem Hn:aC Pg 224 SU:=mk If eQ an bL
theorem R2:aC Pg 208 SX:=mk Ig sC (ac Hn an) bL
theorem OU:aC Pg 210 Qe:=mk EO qK (ac Hn an) bL
theorem R3:aC Pg 207 S0:=mk Ih pX an bL
theorem JR:aC Pg 231 Kd:=mk zn kZ an bL
theorem uS:∀ n:Nat,aC Pg 225 (Fh n)
 |0=>Ol nS
 |n+1=>mk nS (kQ (gj n)) (ac qO (ac (uS n) (ac JR an))) bL
theorem wE:aC Pg 225 Fu:=(uS fuel)
theorem R8:aC Pg 226 S7:=mk Ij oh an bL
theorem qg:∀ n:Nat,aC Pg 211 (Fg n)/\aC Pg 181 (C4 n)
 |0=>⟨Ol rm,Ol mN⟩
 |n+1=>⟨mk rm (jp (dD n) (cX n)) (ac qO (ac (qg n).2 (ac wE (ac R8 an)))) bL,mk mN (iF (dD n) (cX n)) (ac (qg n).1 an) bL⟩
theorem Df:aC Pg 181 DA:=(qg fuel).2
theorem Fk:aC Pg 180 Ft:=mk wO jk (ac qO an) bL
theorem OW:aC Pg 154 Qh:=mk ER oD (ac qO (ac Fk (ac Df an))) bL
theorem tN:aC Pg 106 ab3:=mk UQ hZ an bL
theorem tM:aC Pg 182 Qg:=mk EQ gi an bL
theorem ui:aC Pg 183 Kc:=mk zm fP an bL
theorem OV:aC Pg 227 Qf:=mk EP oC (ac tN (ac tM (ac ui an))) bL
theorem K0:aC Pg 214 Wh:=mk Lm fD (ac OV an) bL
theorem Ee:∀ n:Nat,aC Pg 228 (RJ n)
 |0=>Ol wj
 |n+1=>mk wj (sO (me n)) (ac (Ee n) an) bL
theorem R6:aC Pg 228 S5:=(Ee fuel)
theorem Ed:∀ n:Nat,aC Pg 229 (RI n)
 |0=>Ol wh
 |n+1=>mk wh (sN (md n)) (ac K0 (ac (Ed n) an)) bL
theorem R4:aC Pg 229 S1:=(Ed fuel)
theorem VN:aC Pg 215 Wi:=mk Ln kY (ac wE (ac R6 (ac R4 an))) bL
theorem Mw:aC Pg 216 M1:=mk B8 cC an bL
theorem aaf:aC Pg 213 ab2:=mk UP hY an bL
theorem De:aC Pg 212 Dz:=mk vg di an bL
theorem JP:aC Pg 184 Ka:=mk zl kX (ac tN (ac tM (ac ui (ac De (ac aaf (ac K0 (ac VN (ac Mw an)))))))) bL
theorem xA:∀ n:Nat,aC Pg 158 (JJ n)
 |0=>Ol qB
 |n+1=>mk qB (lh (gI n)) (ac (xA n) (ac JP an)) bL
theorem JQ:aC Pg 158 Kb:=(xA fuel)
theorem Ef:∀ n:Nat,aC Pg 157 (RK n)
 |0=>Ol wn
 |n+1=>mk wn (sP (mf n)) (ac (Ef n) an) bL
theorem R7:aC Pg 157 S6:=(Ef fuel)
theorem R5:aC Pg 155 S4:=mk Ii pY (ac tM an) bL
theorem Mv:aC Pg 156 M0:=mk B7 mA (ac tN (ac tM (ac ui an))) bL
theorem vT:aC Pg 121 M2:=mk B9 eg (ac OW (ac R5 (ac Mv (ac R7 (ac JQ an))))) bL
theorem Ec:∀ n:Nat,aC Pg 160 (RH n)
 |0=>Ol wg
 |n+1=>mk wg (vU (ou n)) (ac (Ec n) an) bL
theorem RW:aC Pg 160 SE:=(Ec fuel)
theorem D8:aC Pg 159 Qb:=mk EK jt an bL
theorem Ea:aC Pg 217 Qd:=mk EM ki an bL
theorem R1:aC Pg 122 SM:=mk Id sB (ac vT (ac D8 (ac RW an))) bL
theorem RX:aC Pg 104 SH:=mk Ia oe an bL
theorem wD:aC Pg 77 Fs:=mk wN gh (ac RX (ac qO (ac tN an))) bL
theorem sL:aC Pg 125 ID:=mk xL iL an bL
theorem D9:aC Pg 174 Qc:=mk EL oB an bL
theorem RY:aC Pg 149 SJ:=mk Ib og (ac D9 an) bL
theorem Mt:aC Pg 150 ab1:=mk UO iu an bL
theorem RZ:aC Pg 173 SK:=mk Ic l9 (ac Mt an) bL
theorem Ms:aC Pg 148 MX:=mk B4 kr (ac Mt (ac RZ an)) bL
theorem Dd:aC Pg 119 Dy:=mk ve gy (ac sL (ac Ms (ac RY (ac Mt an)))) bL
theorem Aq:aC Pg 87 SS:=mk Ie iK (ac wD (ac Dd an)) bL
theorem mI:aC Pg 124 MY:=mk B5 b7 an bL
theorem wG:∀ n:Nat,aC Pg 189 (G6 n)
 |0=>Ol pt
 |n+1=>mk pt (pj (gO n)) (ac tN (ac mI (ac (wG n) (ac Ea an)))) bL
theorem sK:aC Pg 189 IB:=(wG fuel)
theorem Fj:aC Pg 185 Fr:=mk wM kK (ac tN (ac mI (ac sK (ac Ea an)))) bL
theorem JO:aC Pg 188 J9:=mk zk iB an bL
theorem jm:∀ n:Nat,aC Pg 123 (G7 n)/\aC Pg 161 (JI n)/\aC Pg 186 (Bs n)/\aC Pg 187 (Ff n)
 |0=>⟨Ol pu,Ol ul,Ol pw,Ol rk⟩
 |n+1=>⟨mk pu (pl (c7 n) (dN n) (cF n) (cZ n)) (ac (jm n).2.1 an) bL,mk ul (qz (c7 n) (dN n) (cF n) (cZ n)) (ac tN (ac mI (ac D8 (ac Fj (ac (jm n).2.2.1 (ac (jm n).2.2.2 (ac JO (ac sK an)))))))) bL,mk pw (lm (c7 n) (dN n) (cF n) (cZ n)) (ac (jm n).1 (ac mI (ac sK an))) bL,mk rk (nP (c7 n) (dN n) (cF n) (cZ n)) (ac (jm n).1 (ac mI an)) bL⟩
theorem Hm:aC Pg 123 IC:=(jm fuel).1
theorem Mu:aC Pg 90 MZ:=mk B6 pa (ac vT (ac R1 (ac Hm (ac mI (ac sL an))))) bL
theorem Hl:aC Pg 110 YO:=mk Pr o9 an bL
theorem Yr:aC Pg 146 YN:=mk Pq uJ an bL
theorem Hk:aC Pg 113 SD:=mk H9 pW (ac Yr an) bL
theorem JN:aC Pg 209 J8:=mk zj kW an bL
theorem j7:aC Pg 178 Wg:=mk Ll bR an bL
theorem VM:aC Pg 179 Wf:=mk Lk uI (ac Hk (ac sL (ac R2 (ac JN (ac OU an))))) bL
theorem iC:aC Pg 153 Qa:=mk EJ l8 (ac D9 (ac j7 (ac VM an))) bL
theorem Hj:aC Pg 79 Sz:=mk H7 pU an bL
theorem Dc:aC Pg 107 Wd:=mk Li pV an bL
theorem Uz:aC Pg 108 ab0:=mk UN o8 an bL
theorem RU:aC Pg 109 Sy:=mk H6 sx (ac Uz an) bL
theorem By:aC Pg 82 MW:=mk B3 js (ac Dc (ac Uz (ac RU (ac Hl an)))) bL
theorem Mr:aC Pg 111 MV:=mk B2 mz an bL
theorem Mq:aC Pg 114 MU:=mk B1 o7 an bL
theorem j6:aC Pg 112 We:=mk Lj gx an bL
theorem JM:aC Pg 111 J7:=mk li kV an bL
theorem Hi:aC Pg 111 IA:= @aC.ro Pg 111 li.pre li.post.vs kV iJ (JM.holds rfl) rfl (λx _ h=>by rw[show iJ x=obind (kV x) λy=>same y.2 x.2 (ajn y.1) from rfl] at h;exact h)
theorem iO:aC Pg 85 SA:=mk H8 od (ac By (ac Hl (ac Hi (ac j6 (ac Hk (ac Mq an)))))) bL
theorem RQ:aC Pg 89 Sw:=mk H5 sw (ac Hj (ac Aq an)) bL
theorem VH:aC Pg 175 Wb:=mk Lh uH (ac Aq (ac Dc an)) bL
theorem VF:aC Pg 176 V9:=mk Lf uF an bL
theorem Ox:aC Pg 177 PD:=mk Ek qJ (ac R3 an) bL
theorem gH:aC Pg 151 MT:=mk BZ my (ac VH (ac VF (ac Ox an))) bL
theorem Hh:aC Pg 56 Su:=mk H3 lI (ac Hj an) bL
theorem VD:aC Pg 80 V8:=mk Ld uE (ac Dc an) bL
theorem aae:aC Pg 81 aaz:=mk UM Bn an bL
theorem Mp:aC Pg 83 MS:=mk BY mw an bL
theorem RN:aC Pg 84 Ss:=mk HZ sr (ac Hl (ac Mr an)) bL
theorem Db:aC Pg 58 V7:=mk Lc pT (ac VD (ac aae (ac By (ac Mp (ac RN (ac iO an)))))) bL
theorem RO:aC Pg 78 St:=mk H0 pS an bL
theorem RP:aC Pg 54 Sv:=mk H4 su (ac Hh (ac Db (ac wD (ac RO an)))) bL
def Kz (t:TypeId):Option Ty:=if av t 193 then ajn (.pr .un dR) else bL t
theorem OT:aC Pg 152 P9:=mk EI l7 (ac j6 (ac j7 an)) Kz
theorem OI:aC Pg 120 PR:=mk Ew eW (ac iO (ac gH (ac OT (ac iC an)))) Kz
theorem OR:aC Pg 152 P5:=mk EH lZ (ac j6 (ac j7 an)) Kz
theorem OH:aC Pg 120 PQ:=mk Ev fB (ac iO (ac gH (ac OR (ac iC an)))) Kz
theorem OQ:aC Pg 152 P4:=mk EG lY (ac j6 (ac j7 an)) Kz
theorem OG:aC Pg 120 PP:=mk Eu eV (ac iO (ac gH (ac OQ (ac iC an)))) Kz
theorem OP:aC Pg 152 P3:=mk EE lX (ac j6 (ac j7 an)) Kz
theorem OF:aC Pg 120 PO:=mk Et iz (ac iO (ac gH (ac OP (ac iC an)))) Kz
theorem OO:aC Pg 152 P1:=mk ED lV (ac j6 (ac j7 an)) Kz
theorem OE:aC Pg 120 PN:=mk Es gL (ac iO (ac gH (ac OO (ac iC an)))) Kz
theorem ON:aC Pg 152 P0:=mk EC lU (ac j6 (ac j7 an)) Kz
theorem OD:aC Pg 120 PL:=mk Ep gg (ac iO (ac gH (ac ON (ac iC an)))) Kz
theorem OM:aC Pg 152 PZ:=mk EB lQ (ac j6 (ac j7 an)) Kz
theorem OC:aC Pg 120 PK:=mk cW lK (ac iO (ac gH (ac OM (ac iC an)))) Kz
theorem OL:aC Pg 152 PY:=mk EA lP (ac j6 (ac j7 an)) Kz
theorem OA:aC Pg 120 PI:=mk Eo lJ (ac iO (ac gH (ac OL (ac iC an)))) Kz
theorem OK:aC Pg 152 PW:=mk Ez lO (ac j6 (ac j7 an)) Kz
theorem Oz:aC Pg 120 PH:=mk Em kh (ac iO (ac gH (ac OK (ac iC an)))) Kz
theorem OJ:aC Pg 152 PU:=mk Ey lM (ac j6 (ac j7 an)) Kz
theorem Oy:aC Pg 120 PF:=mk El jr (ac iO (ac gH (ac OJ (ac iC an)))) Kz
theorem VK:aC Pg 120 Wc:=(aC.orE (pre:=cW.pre) (post:=cW.post) (m:=lK) (m':=(λx=>orE (lJ x) ((λx=>orE (kh x) ((λx=>orE (jr x) ((λx=>orE (iz x) ((λx=>orE (gL x) ((λx=>orE (gg x) ((λx=>orE (fB x) ((λx=>orE (eV x) (eW x)) x)) x)) x)) x)) x)) x)) x))) rfl OC (aC.orE (pre:=cW.pre) (post:=cW.post) (m:=lJ) (m':=(λx=>orE (kh x) ((λx=>orE (jr x) ((λx=>orE (iz x) ((λx=>orE (gL x) ((λx=>orE (gg x) ((λx=>orE (fB x) ((λx=>orE (eV x) (eW x)) x)) x)) x)) x)) x)) x))) rfl OA (aC.orE (pre:=cW.pre) (post:=cW.post) (m:=kh) (m':=(λx=>orE (jr x) ((λx=>orE (iz x) ((λx=>orE (gL x) ((λx=>orE (gg x) ((λx=>orE (fB x) ((λx=>orE (eV x) (eW x)) x)) x)) x)) x)) x))) rfl Oz (aC.orE (pre:=cW.pre) (post:=cW.post) (m:=jr) (m':=(λx=>orE (iz x) ((λx=>orE (gL x) ((λx=>orE (gg x) ((λx=>orE (fB x) ((λx=>orE (eV x) (eW x)) x)) x)) x)) x))) rfl Oy (aC.orE (pre:=cW.pre) (post:=cW.post) (m:=iz) (m':=(λx=>orE (gL x) ((λx=>orE (gg x) ((λx=>orE (fB x) ((λx=>orE (eV x) (eW x)) x)) x)) x))) rfl OF (aC.orE (pre:=cW.pre) (post:=cW.post) (m:=gL) (m':=(λx=>orE (gg x) ((λx=>orE (fB x) ((λx=>orE (eV x) (eW x)) x)) x))) rfl OE (aC.orE (pre:=cW.pre) (post:=cW.post) (m:=gg) (m':=(λx=>orE (fB x) ((λx=>orE (eV x) (eW x)) x))) rfl OD (aC.orE (pre:=cW.pre) (post:=cW.post) (m:=fB) (m':=(λx=>orE (eV x) (eW x))) rfl OH (aC.orE (pre:=cW.pre) (post:=cW.post) (m:=eV) (m':=eW) rfl OG OI)))))))))
theorem VG:aC Pg 88 Wa:=mk Lg uG (ac VK an) bL
theorem Yq:aC Pg 60 YM:=mk Pp xr (ac Aq (ac VG (ac RQ an))) bL
theorem eB:aC Pg 57 Fy:=mk wS bh an bL
theorem Dh:aC Pg 129 Wm:=mk Lo qb an bL
theorem Hu:aC Pg 192 Te:=mk Im om an bL
theorem BF:aC Pg 191 M6:=mk Cb mC an bL
theorem BG:aC Pg 128 M7:=mk Cc iv an bL
theorem OY:aC Pg 126 Qn:=mk EW qL an bL
theorem JZ:aC Pg 62 Kl:=mk zC nB an bL
theorem tO:∀ n:Nat,aC Pg 190 (C6 n)
 |0=>Ol mO
 |n+1=>mk mO (mK (gA n)) (ac eB (ac Dh (ac (tO n) (ac BF (ac Hu an))))) bL
theorem Di:aC Pg 190 DE:=(tO fuel)
theorem BE:aC Pg 193 Co:=mk tV dL (ac tN an) bL
theorem iP:∀ n:Nat,aC Pg 127 (Bt n)/\aC Pg 162 (C5 n)/\aC Pg 194 (Bu n)
 |0=>⟨Ol ly,Ol qk,Ol px⟩
 |n+1=>⟨mk ly (lw (c4 n) (dF n) (dk n)) (ac (iP n).2.1 an) bL,mk qk (mJ (c4 n) (dF n) (dk n)) (ac eB (ac (iP n).1 (ac BG (ac Dh (ac Di (ac BF (ac Hu (ac BE (ac (iP n).2.2 an))))))))) bL,mk px (lx (c4 n) (dF n) (dk n)) (ac eB (ac (iP n).1 an)) bL⟩
theorem BD:aC Pg 127 Cn:=(iP fuel).1
theorem JY:aC Pg 91 Kk:=mk zB nA (ac eB (ac vT (ac OY (ac BD (ac BG (ac Dh an)))))) bL
theorem Sc:aC Pg 61 Tf:=mk In vN (ac Mu (ac JY an)) bL
theorem OZ:aC Pg 29 Qo:=mk EX qM (ac Yq (ac Sc (ac JZ an))) bL
theorem Mm:aC Pg 55 MQ:=mk BW mt an bL
theorem He:aC Pg 147 Iz:=mk xK jX an bL
theorem Mk:aC Pg 115 MO:=mk BU rJ an bL
theorem JL:aC Pg 116 J6:=mk zh nv (ac eB an) bL
theorem Mj:aC Pg 117 MN:=mk BT oY (ac eB (ac He an)) bL
theorem Ov:aC Pg 118 PA:=mk Ei fA (ac eB an) bL
theorem Ml:aC Pg 86 MP:=mk BV oZ (ac eB (ac Mk (ac JL (ac Mj (ac Ov an))))) bL
def tv1 (t:TypeId):Option Ty:=if av t 49 then ajn (.pr .un (.pr .un (.pr .un (.pr .un (.pr .un (.sl aH)))))) else bL t
theorem Ow:aC Pg 59 PC:=mk Ej qH (ac eB (ac Db (ac Ml an))) tv1
theorem Mn:aC Pg 28 MR:=mk BX o6 (ac RP (ac Mm (ac Hh (ac eB (ac Db (ac Ow an)))))) bL
theorem Da:aC Pg 11 Dx:=mk vb jY (ac Mn (ac OZ an)) bL
end
end Go.Proofs.YtkagidinekdnoaaGreatDoor.AI
