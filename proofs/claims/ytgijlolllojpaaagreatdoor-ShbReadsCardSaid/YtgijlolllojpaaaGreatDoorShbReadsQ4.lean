/-
  Texts of the proof, part 5 of 5: what is used to prove the statement. No condition.
-/
import Derived.Test.YtgijlolllojpaaaGreatDoorShbReadsQ3
import Derived.Deep.Slices
import Derived.OpenShut
import Derived.Below
import Derived.Test.YtgijlolllojpaaaGreatDoorProg
import Derived.KernelRfl
import Derived.Recover
import Derived.Test.YtgijlolllojpaaaGreatDoorRows
import Derived.LaidMore
namespace Go.Proofs.YtgijlolllojpaaaGreatDoor.AI
open Go.RowKit
set_option maxRecDepth 100000
set_option maxHeartbeats 4000000
set_option linter.unusedVariables false
set_option linter.unusedSimpArgs false
open Act renaming put→MP
open _root_.Array renaming replicate→oh
open _root_.Bool renaming true→ai,false→aj
open Call renaming operands→eK
open _root_.Int renaming ofNat_eq_natCast→au,ofNat→aO
open _root_.List renaming length→al,range→eS,cons_append→gh,length_singleton→gm,length_nil→jQ,nil_append→lE,getElem?_cons_zero→qC,take_succ_cons→vB
open _root_.Nat renaming beq→aB,testBit→aN,add_zero→dg,ble→eB,blt→gd
open Oper renaming wp→GW
open _root_.Option renaming some→af,none→ah,bind_some→aH,map_some→b_,map→lD,getD_some→uz
open _root_.Prod renaming p2→aV,p3→bg,p4→bp,q3→bL,p5→cw,q5→cO,q4→db,p6→dN,q6→eP,p7→jd,q7→mg,q8→nh,p8→uy,p10→wH,p9→wJ,p11→Dr,q11→Kk,q9→MM
open Region renaming wanted→iF
open Result renaming andThen_ok→cG
open Sem renaming run_bind→eA,run_pure→oF
open _root_.Sum renaming inr→bU,inl→oE
open Value renaming okWide→GU
open World renaming cell?→ML
noncomputable section
theorem Qj {σ:PT Nat} {i a:Nat} (h:σ.get i=af a):hZ σ i=a:=by unfold hZ;rw[h]
theorem U_ {σ:PT Nat}:∀ (n i acc sm:Nat),YJ σ n i acc=af sm->
 (∀ k,k<n->aN acc (hZ σ (i+k))=aj)/\(∀ a b,a<n->b<n->hZ σ (i+a)=hZ σ (i+b)->a=b)/\∀ q,aN sm q=ai↔aN acc q=ai\/∃ k,k<n/\hZ σ (i+k)=q
 |0,i,acc,sm,h=>by
  simp only[YJ,ak] at h;subst h;exact⟨λk hk=>by omega,λa b J=>by omega,λq=>⟨.inl,λhq=>hq.elim id λ⟨k,hk,_⟩=>by omega⟩⟩
 |n+1,i,acc,sm,h=>by
  simp only[YJ] at h;split at h
  .rename_i a J;split at h
   .cases h
   .rename_i hna;have hna:aN acc a=aj:=by simpa using hna
    have hga:=Qj J;obtain⟨h1,h2,M⟩:=U_ n (i+1) (acc|||kG a) sm h;have hne:∀ k,k<n->hZ σ (i+1+k)≠a/\aN acc (hZ σ (i+1+k))=aj:=λk hk=>by
     have:=h1 k hk;rw[bn,Bool.or_eq_false_iff] at this;refine ⟨λe=>?_,this.1⟩;have I:=this.2;rw[e] at I;rw[bX.2 rfl] at I;cases I
    refine ⟨λk hk=>?_,λx y Y U hxy=>?_,λq=>?_⟩
    .cases k with
     |zero=>rw[dg,hga];exact hna
     |succ k=>rw[show i+(k+1)=i+1+k from by omega];exact (hne k (by omega)).2
    .cases x with
     |zero=>
      cases y with
      |zero=>rfl
      |succ y=>
       rw[dg,hga,show i+(y+1)=i+1+y from by omega] at hxy;exact cU hxy.symm (hne y (by omega)).1
     |succ x=>
      cases y with
      |zero=>
       rw[show i+0=i from rfl,hga,show i+(x+1)=i+1+x from by omega] at hxy;exact cU hxy (hne x (by omega)).1
      |succ y=>
       rw[show i+(x+1)=i+1+x from by omega,show i+(y+1)=i+1+y from by omega] at hxy;have:=h2 x y (by omega) (by omega) hxy;omega
    .rw[M,bn,iP];constructor
     .rintro ((hq|hq)|⟨k,hk,hq⟩)
      .exact .inl hq
      .exact .inr ⟨0,by omega,by rw[dg,hga];exact bX.1 hq⟩
      .exact .inr ⟨k+1,by omega,by rw[show i+(k+1)=i+1+k from by omega];exact hq⟩
     .rintro (hq|⟨k,hk,hq⟩)
      .exact .inl (.inl hq)
      .cases k with
       |zero=>rw[dg,hga] at hq;exact .inl (.inr (bX.2 hq))
       |succ k=>exact .inr ⟨k,by omega,by rw[show i+1+k=i+(k+1) from by omega];exact hq⟩
  .cases h
theorem Qq {σ:PT Nat}:∀ (n:Nat),VR σ n=ai->∀ i,i<n->hZ σ i=i
 |0,_,i,hi=>by omega
 |n+1,h,i,hi=>by
  simp only[VR,av] at h;by_cases e:i=n
  .subst e;cases I:σ.get i with
   |none=>rw[I] at h;exact cU h.1 (by simp)
   |some a=>rw[I] at h;rw[Qj I];exact aw h.1
  .exact Qq n h.2 i (by omega)
structure Hl (np:Nat) (t:Tm) (vs:List TV) (h:bf) (z:t.ty.den) (m:Nat) (σ:PT Nat) (sm:Nat):Prop where
 ex:∃ x m1 y m2,z=S_ _ _ x y/\m=m1|||m2/\xF (hZ σ) h t.vs vs=af (x,m1)/\Am (hZ σ) h 0 t.bs=af (y,m2)
 inj:∀ a b,a<t.bs.length->b<t.bs.length->hZ σ a=hZ σ b->a=b
 sig:∀ q,aN sm q=ai↔∃ k,k<t.bs.length/\hZ σ k=q
 disj:∀ i,aN m i=ai->aN sm i=aj
 fix:∀ i,i<np->hZ σ i=i
theorem vR {np:Nat} {t:Tm} {vs:List TV} {h:bf} {z:t.ty.den} {m:Nat} {σ:PT Nat} {sm:Nat} (hm:DM np t vs h=af ⟨z,m,σ,sm⟩):Hl np t vs h z m σ sm:=by
 unfold DM at hm;rw[NK] at hm;split at hm
 .rename_i sm' hs;split at hm
  .rename_i x m1 h1;split at hm
   .rename_i y m2 h2;split at hm
    .rename_i hc;simp only[av] at hc;simp only[ak,afd.mk.injEq] at hm;obtain⟨rfl,rfl,rfl,rfl⟩:=hm;obtain⟨M,J,I⟩:=U_ _ _ _ _ hs;simp only[bN] at M J I;exact⟨⟨x,m1,y,m2,rfl,rfl,h1,h2⟩,J,λq=>by rw[I];simp,λi hi=>xp hc.1 i hi,Qq np hc.2⟩
    .cases hm
   .cases hm
  .cases hm
 .cases hm
mutual
theorem yM {g:Nat->Nat} {h:bf}:∀ (p:PV) (l:List TV) (x:p.ty.den) (m:Nat) (r:List TV),pf g h p l=af (x,m,r)->dK h m
 |.d T,l,x,m,r,hg=>uF 40 T l x m r hg
 |.ptr i q,l,x,m,r,hg=>by
  simp only[pf] at hg;split at hg
  .split at hg
   .simp only[ak,aD] at hg;obtain⟨_,rfl,_⟩:=hg;exact dK.zero h
   .cases hg
  .cases hg
 |.csl i q z,l,x,m,r,hg=>by
  simp only[pf] at hg;split at hg
  .split at hg
   .simp only[ak,aD] at hg;obtain⟨_,rfl,_⟩:=hg;exact dK.zero h
   .cases hg
  .cases hg
 |.clo q i z,l,x,m,r,hg=>by
  simp only[pf] at hg;split at hg
  .split at hg
   .simp only[ak,aD] at hg;obtain⟨_,rfl,_⟩:=hg;exact dK.zero h
   .cases hg
  .cases hg
 |.row i,l,x,m,r,hg=>by
  simp only[pf] at hg;split at hg
  .split at hg
   .simp only[ak,aD] at hg;obtain⟨_,rfl,_⟩:=hg;exact dK.zero h
   .cases hg
  .cases hg
 |.mp i,l,x,m,r,hg=>by
  simp only[pf] at hg;split at hg
  .split at hg
   .simp only[ak,aD] at hg;obtain⟨_,rfl,_⟩:=hg;exact dK.zero h
   .cases hg
  .cases hg
 |.nil,l,x,m,r,hg=>by
  simp only[pf] at hg;split at hg
  .simp only[ak,aD] at hg;obtain⟨_,rfl,_⟩:=hg;exact dK.zero h
  .cases hg
 |.emp,l,x,m,r,hg=>by
  simp only[pf] at hg;split at hg
  .simp only[ak,aD] at hg;obtain⟨_,rfl,_⟩:=hg;exact dK.zero h
  .simp only[ak,aD] at hg;obtain⟨_,rfl,_⟩:=hg;exact dK.zero h
  .cases hg
 |.agg ps,l,x,m,r,hg=>Hb ps l x m r hg
theorem Hb {g:Nat->Nat} {h:bf}:∀ (ps:List PV) (l:List TV) (x:(PV.tyL ps).den) (m:Nat) (r:List TV),yL g h ps l=af (x,m,r)->dK h m
 |[],l,x,m,r,hg=>by
  simp only[yL,ak,aD] at hg;obtain⟨_,rfl,_⟩:=hg;exact dK.zero h
 |p::ps,l,x,m,r,hg=>by
  simp only[yL] at hg;split at hg
  .rename_i x1 m1 r1 h1;split at hg
   .rename_i x2 m2 r2 h2;simp only[ak,aD] at hg;obtain⟨_,rfl,_⟩:=hg;exact (yM p l x1 m1 r1 h1).or (Hb ps r1 _ _ _ h2)
   .cases hg
  .cases hg
end
theorem ag5 {g:Nat->Nat} {h:bf} {p:PV} {v:TV} {x:p.ty.den} {m:Nat} (hg:xc g h p v=af (x,m)):dK h m:=by
 cases p with
 |d T=>exact Wg hg
 |agg ps=>
  simp only[xc] at hg;split at hg
  .cases hg
  .split at hg
   .split at hg
    .rename_i I m1 h1;simp only[ak,aD] at hg;obtain⟨_,rfl⟩:=hg;exact Hb ps _ _ _ _ h1
    .cases hg
   .cases hg
 |ptr i q=>
  simp only[xc] at hg;split at hg
  .rename_i h1;simp only[ak,aD] at hg;obtain⟨_,rfl⟩:=hg;exact yM _ _ _ _ _ h1
  .cases hg
 |csl i q z=>
  simp only[xc] at hg;split at hg
  .rename_i h1;simp only[ak,aD] at hg;obtain⟨_,rfl⟩:=hg;exact yM _ _ _ _ _ h1
  .cases hg
 |clo q i z=>
  simp only[xc] at hg;split at hg
  .rename_i h1;simp only[ak,aD] at hg;obtain⟨_,rfl⟩:=hg;exact yM _ _ _ _ _ h1
  .cases hg
 |row i=>
  simp only[xc] at hg;split at hg
  .rename_i h1;simp only[ak,aD] at hg;obtain⟨_,rfl⟩:=hg;exact yM _ _ _ _ _ h1
  .cases hg
 |mp i=>
  simp only[xc] at hg;split at hg
  .rename_i h1;simp only[ak,aD] at hg;obtain⟨_,rfl⟩:=hg;exact yM _ _ _ _ _ h1
  .cases hg
 |nil=>
  simp only[xc] at hg;split at hg
  .rename_i h1;simp only[ak,aD] at hg;obtain⟨_,rfl⟩:=hg;exact yM _ _ _ _ _ h1
  .cases hg
 |emp=>
  simp only[xc] at hg;split at hg
  .rename_i h1;simp only[ak,aD] at hg;obtain⟨_,rfl⟩:=hg;exact yM _ _ _ _ _ h1
  .cases hg
theorem Ha {g:Nat->Nat} {h:bf}:∀ (ps:List PV) (vs:List TV) (x:(PV.tyL ps).den) (m:Nat),xF g h ps vs=af (x,m)->dK h m
 |[],[],x,m,hg=>by simp only[xF,ak,aD] at hg;obtain⟨_,rfl⟩:=hg;exact dK.zero h
 |[],_::_,x,m,hg=>by simp[xF] at hg
 |_::_,[],x,m,hg=>by simp[xF] at hg
 |p::ps,v::vs,x,m,hg=>by
  simp only[xF] at hg;split at hg
  .rename_i J m1 h1;split at hg
   .rename_i I m2 h2;simp only[ak,aD] at hg;obtain⟨_,rfl⟩:=hg;exact (ag5 h1).or (Ha ps vs I m2 h2)
   .cases hg
  .cases hg
theorem ag6 {g:Nat->Nat} {h:bf} {i:Nat} {b:PB} {x:b.ty.den} {m:Nat} (hg:Eb g h i b=af (x,m)):dK h m:=by
 cases b with
 |rows ty p T=>
  simp only[Eb] at hg;split at hg
  .split at hg
   .split at hg
    .simp only[ak,aD] at hg;obtain⟨_,rfl⟩:=hg;exact dK.zero h
    .cases hg
   .cases hg
  .cases hg
 |rowsP ty T=>
  simp only[Eb] at hg;split at hg
  .split at hg
   .split at hg
    .simp only[ak,aD] at hg;obtain⟨_,rfl⟩:=hg;exact dK.zero h
    .cases hg
   .cases hg
  .cases hg
 |cells ty ps=>
  simp only[Eb] at hg;split at hg
  .split at hg
   .split at hg
    .rename_i h1;simp only[ak,aD] at hg;obtain⟨_,rfl⟩:=hg;exact Hb ps _ _ _ _ h1
    .cases hg
   .cases hg
  .cases hg
 |mp K V=>
  simp only[Eb] at hg;split at hg
  .split at hg
   .simp only[ak,aD] at hg;obtain⟨_,rfl⟩:=hg;exact dK.zero h
   .cases hg
  .cases hg
 |gone=>simp only[Eb,ak,aD] at hg;obtain⟨_,rfl⟩:=hg;exact dK.zero h
theorem Hc {g:Nat->Nat} {h:bf}:∀ (bs:List PB) (i:Nat) (x:(PB.tyL bs).den) (m:Nat),Am g h i bs=af (x,m)->dK h m
 |[],i,x,m,hg=>by simp only[Am,ak,aD] at hg;obtain⟨_,rfl⟩:=hg;exact dK.zero h
 |b::r,i,x,m,hg=>by
  simp only[Am] at hg;split at hg
  .rename_i J m1 h1;split at hg
   .rename_i I m2 h2;simp only[ak,aD] at hg;obtain⟨_,rfl⟩:=hg;exact (ag6 h1).or (Hc r (i+1) I m2 h2)
   .cases hg
  .cases hg
structure qx (t:Tm) (x:t.ty.den) (vs:List TV) (h1:bf) (l1:List (Option im)):Prop where
 pv:pK G_ t.vs (NJ _ _ x)=af vs
 pb:oo G_ t.bs (Ku _ _ x)=af l1
 len:l1.length=t.bs.length
 at_:∀ i b,h1.get i=af b↔l1[i]? =af (af b)
 ok:kJ h1 vs=ai
 lt:rf t.bs.length vs=ai
 cells:∀ i ty l,h1.get i=af (.cells ty l)->kJ h1 l=ai/\rf t.bs.length l=ai
theorem Zc (l:List (Option im)) (i:Nat) (b:im):(zZ G_ 0 l PT.leaf).get i=af b↔l[i]? =af (af b):=by
 by_cases hi:i<l.length
 .obtain⟨c,hc⟩:∃ c,l[i]? =af c:=⟨l[i],aA hi⟩
  have:=uI G_ l 0 PT.leaf (λa b _ _ e=>by simp only[G_] at e;omega) i c hc;rw[show G_ (0+i)=i from by simp only[G_];omega] at this;rw[this,hc];cases c with
  |some b'=>simp
  |none=>simp[PT.get]
 .rw[uH G_ l 0 PT.leaf i (λk hk=>by simp only[G_];omega),bO (by omega)];simp[PT.get]
theorem vX {t:Tm} {x:t.ty.den} {vs:List TV} {h1:bf} (hi:Cl t x=af (vs,h1)):∃ l1,qx t x vs h1 l1:=by
 unfold Cl at hi;split at hi
 .rename_i us hus;split at hi
  .rename_i h hh;split at hi
   .rename_i hc;simp only[av] at hc;simp only[ak,aD] at hi;obtain⟨rfl,rfl⟩:=hi;unfold LO at hh;split at hh
    .rename_i l1 I;simp only[ak] at hh;refine ⟨l1,hus,I,B6 _ _ _ _ I,λi b=>?_,hc.1.1,hc.1.2,λi ty l hil=>?_⟩
     .rw[<- hh];exact Zc l1 i b
     .have:=PT.get_all _ h 1 0 i _ hc.2 hil;simpa only[av] using this
    .cases hh
   .cases hi
  .cases hi
 .cases hi
def Vi (nb:Nat) (n:Nat):Bool:=n%2==0&&gd (n/2) nb
theorem AU {nb i:Nat}:Vi nb (nm i)=ai↔i<nb:=by
 unfold Vi nm;rw[show 2*i%2=0 from by omega,show 2*i/2=i from by omega];simp only[cQ,pl];exact⟨λh=>a8 h,λh=>bB h⟩
theorem YV {nb n:Nat} (h:Vi nb n=ai):∃ i,i<nb/\n=nm i:=by
 unfold Vi at h;simp only[av,cR] at h;exact⟨n/2,a8 h.2,by unfold nm;omega⟩
mutual
theorem ag1 {nb:Nat} {h:bf}:∀ (v:TV) (y:AV),KF nb v=ai->cj h v=af y->y.all (Vi nb)=ai
 |.f _ _,y,_,he=>by simp only[cj,ak] at he;subst he;rfl
 |.fel _ _ _ _ _,y,_,he=>by simp only[cj,ak] at he;subst he;rfl
 |.pel id _ _ _,y,hl,he=>by simp only[cj,ak] at he;subst he;exact AU.2 (a8 hl)
 |.ptr id _,y,hl,he=>by simp only[cj,ak] at he;subst he;exact AU.2 (a8 hl)
 |.csl id _ _,y,hl,he=>by simp only[cj,ak] at he;subst he;exact AU.2 (a8 hl)
 |.row id,y,hl,he=>by
  simp only[cj] at he;split at he
  .simp only[ak] at he;subst he;unfold fm;split
   .rfl
   .exact AU.2 (a8 hl)
  .cases he
 |.rtl id jj,y,hl,he=>by
  simp only[cj] at he;split at he
  .simp only[ak] at he;subst he;exact AU.2 (a8 hl)
  .cases he
 |.emp,y,_,he=>by simp only[cj,ak] at he;subst he;rfl
 |.nil,y,_,he=>by simp only[cj,ak] at he;subst he;rfl
 |.mp id,y,hl,he=>by simp only[cj,ak] at he;subst he;exact AU.2 (a8 hl)
 |.agg l,y,hl,he=>by
  simp only[cj] at he;split at he
  .rename_i l' hl';simp only[ak] at he;subst he;exact sV l l' hl hl'
  .cases he
 |.tup l,y,hl,he=>by
  simp only[cj] at he;split at he
  .rename_i l' hl';simp only[ak] at he;subst he;exact sV l l' hl hl'
  .cases he
 |.clo q l,y,hl,he=>by
  simp only[cj] at he;split at he
  .rename_i l' hl';simp only[ak] at he;subst he;exact sV l l' hl hl'
  .cases he
 |.undef,y,_,he=>by simp only[cj,ak] at he;subst he;rfl
 |.np,y,_,he=>by simp only[cj,ak] at he;subst he;rfl
 |.anyb,y,_,he=>by simp only[cj,ak] at he;subst he;rfl
theorem sV {nb:Nat} {h:bf}:∀ (l:List TV) (l':List AV),rf nb l=ai->cH h l=af l'->AV.allL (Vi nb) l'=ai
 |[],l',_,he=>by simp only[cH,ak] at he;subst he;rfl
 |x::r,l',hl,he=>by
  obtain⟨y,l2,rfl,e1,e2⟩:=cS he;simp only[rf,av] at hl;simp only[AV.allL,av];exact⟨ag1 x y hl.1 e1,sV r l2 hl.2 e2⟩
end
theorem qx.blk_all {t:Tm} {x:t.ty.den} {vs:List TV} {h1:bf} {l1:List (Option im)} (I:qx t x vs h1 l1) {i:Nat} {b:im} (hb:h1.get i=af b) {y:wG} (J:kr h1 b=af y):y.c.all (Vi t.bs.length)=ai:=by
 cases b with
 |rows ty p T xs=>
  simp only[kr] at J;split at J
  .cases J
  .simp only[ak] at J;subst J;rfl
 |cells ty l=>
  simp only[kr] at J;split at J
  .rename_i M hl;simp only[ak] at J;subst J;exact sV l M (I.cells i ty l hb).2 hl
  .cases J
 |dead p sz n=>cases J
 |mp K V es=>
  simp only[kr,ak] at J;subst J;show BC.all _ (Y9 K V es)=ai;unfold Y9;split
  .rfl
  .simp only[BC.all,zA];have key:∀ l:List (K.den×V.den),AV.allL (Vi t.bs.length) (l.map ((λx=>x.2)∘λp=>(px K p.1,AV.f (gC V p.2))))=ai:=λl=>by
    induction l with
    |nil=>rfl
    |cons e r U=>simp only[gg,AV.allL,av];exact⟨rfl,U⟩
   exact key es
theorem qx.lt_len {t:Tm} {x:t.ty.den} {vs:List TV} {h1:bf} {l1:List (Option im)} (I:qx t x vs h1 l1) {i:Nat} {b:im} (hb:h1.get i=af b):i<t.bs.length:=by
 rw[<- I.len];exact (bh.1 ((I.at_ i b).1 hb)).1
def φ1 (nb:Nat) (g:Nat->Nat) (φ:PM):PM:=λn=>if Vi nb n then φ (Hd g n) else ah
theorem Yu {nb:Nat} {g:Nat->Nat} {φ:PM} {i:Nat} (hi:i<nb):φ1 nb g φ (nm i)=φ (nm (g i)):=by
 unfold φ1;rw[aF (AU.2 hi),xf]
theorem wL {nb:Nat} {g:Nat->Nat} {φ:PM} {n k:Nat} (h:φ1 nb g φ n=af k):∃ i,i<nb/\n=nm i/\φ (nm (g i))=af k:=by
 unfold φ1 at h;split at h
 .rename_i hp;obtain⟨i,hi,rfl⟩:=YV hp;rw[xf] at h;exact⟨i,hi,rfl,h⟩
 .cases h
structure adk (t:Tm) (x:t.ty.den) (vs:List TV) (h1:bf) (g:Nat->Nat) (φ:PM) (E E':Nat->Prop) (Hv:HF) (w:World):Prop where
 rep:qL (φ1 t.bs.length g φ) E' (bz h1) w
 val:∀ x v,x.all (Vi t.bs.length)=ai->cI φ (tot E φ Hv) w (x.ren (Hd g)) v->cI (φ1 t.bs.length g φ) (tot E' (φ1 t.bs.length g φ) (bz h1)) w x v
 own_:∀ k,own (φ1 t.bs.length g φ) (bz h1) k->own φ Hv k
 tot_:∀ k,tot E' (φ1 t.bs.length g φ) (bz h1) k->tot E φ Hv k
theorem qL.toId {t:Tm} {x:t.ty.den} {vs:List TV} {h1:bf} {l1:List (Option im)} (I:qx t x vs h1 l1) {g:Nat->Nat} (inj:∀ a b,a<t.bs.length->b<t.bs.length->g a=g b->a=b) {φ:PM} {E E':Nat->Prop} {Hv:HF} {w:World} (r:qL φ E Hv w)
 (hat:∀ i b y,h1.get i=af b->kr h1 b=af y->Hv (nm (g i))=af (y.ren (Hd g)))
 (hE:∀ k,E' k->tot E φ Hv k) (hne:∀ i k b,i<t.bs.length->Hv (nm (g i))=af b->φ (nm (g i))=af k->¬E' k) (hel:∀ k,E' k->k<w.heap.size):adk t x vs h1 g φ E E' Hv w:=by
 have own1:∀ k,own (φ1 t.bs.length g φ) (bz h1) k->own φ Hv k:=by
  rintro k ⟨n,y,h2,h3⟩;obtain⟨i,hi,rfl,Y⟩:=wL h3;obtain⟨j,b,e,U,J⟩:=js h2;have:=kK e;subst this;exact⟨nm (g i),_,hat i b y U J,Y⟩
 have tot1:∀ k,tot E' (φ1 t.bs.length g φ) (bz h1) k->tot E φ Hv k:=λk hk=>hk.elim (hE k) λh=>.inr (own1 k h)
 have val:∀ x v,x.all (Vi t.bs.length)=ai->cI φ (tot E φ Hv) w (x.ren (Hd g)) v->cI (φ1 t.bs.length g φ) (tot E' (φ1 t.bs.length g φ) (bz h1)) w x v:=λx v hx hr=>by
  have h2:cI (φ1 t.bs.length g φ) (tot E φ Hv) w x v:=cI.renFrom (λi k hp hk=>by unfold φ1;rw[aF hp];exact hk) hr x hx rfl;exact h2.ext (λ_ _ h=>h) (Kh.refl _ w) λk _ hk=>tot1 k hk
 refine ⟨⟨λn n' b b' k Z g2 g3 g4=>?_,λn y Z=>?_,hel,λg' cells hg=>(r.gl g' cells hg).ext (Kh.refl _ w) λk _ hk=>tot1 k hk⟩,val,own1,tot1⟩
 .obtain⟨i,hi,rfl,Y⟩:=wL g3;obtain⟨j,hj,rfl,U⟩:=wL g4;obtain⟨i',c,e,J,M⟩:=js Z;have:=kK e;subst this;obtain⟨j',c',e,h8,h9⟩:=js g2;have:=kK e;subst this;have:=r.inj _ _ _ _ k (hat i c _ J M) (hat j c' _ h8 h9) Y U;rw[inj i j hi hj (kK this)]
 .obtain⟨i,c,rfl,J,M⟩:=js Z;have hi:=I.lt_len J;obtain⟨k,p1,p2,ob,p3,p4⟩:=r.at_ _ _ (hat i c y J M);exact⟨k,by rw[Yu hi];exact p1,hne i k _ hi (hat i c y J M) p1,ob,p3,jq.renFrom val (I.blk_all J M) p4⟩
theorem BM.view {g:Nat->Nat} {h hv:bf} {H H':HF} {m:Nat} (d:uY H H') (Y:Dv h H H' m) (hr:xw hv h) {b0 c:im} (hb:BM g h m b0 c) {y I:wG} (e0:kr h b0=af y) (e1:kr hv c=af I):jU H H' y I:=by
 cases hb with
 |rows ty p T xs=>
  simp only[kr] at e0 e1;rw[e0] at e1;cases e1;exact jU.refl d y
 |mp K V es=>
  simp only[kr] at e0 e1;rw[e0] at e1;cases e1;exact jU.refl d y
 |cells ty ps x l l2 m' hg hp hm=>
  simp only[kr] at e0 e1;split at e0
  .rename_i U hl;simp only[ak] at e0;subst e0;split at e1
   .rename_i cs' hc;simp only[ak] at e1;subst e1;obtain⟨l1,Z,M,J,q3⟩:=CC d hr ps l x m' [] l2 U cs' hg hp hl hc λi hi=>Y i (hm i hi)
    simp only[cH,ak] at J;subst J;rw[lG] at M;subst M;exact jU.cells rfl rfl q3 (lA (rM hc (wQ ps x l2 hp)))
   .cases e1
  .cases e0
theorem BM.erB_some {g:Nat->Nat} {h hv:bf} {nx m:Nat} (hinv:lZ h nx) {i:Nat} {b0 c:im} (h0:h.get i=af b0) (hb:BM g h m b0 c) {I:wG} (e1:kr hv c=af I):∃ y,kr h b0=af y:=by
 cases hb with
 |rows ty p T xs=>exact⟨I,e1⟩
 |mp K V es=>exact⟨I,e1⟩
 |cells ty ps x l l2 m' hg hp hm=>
  obtain⟨J,hl⟩:=fk h l (hinv.cells i ty l h0);exact⟨_,by simp only[kr,hl];rfl⟩
theorem BM.row {g:Nat->Nat} {h:bf} {m:Nat} {b0 c:im} (hb:BM g h m b0 c):mz c=mz b0:=by
 cases hb<;>rfl
structure pB (P:Program) (f:FuncId) (c:cu):Prop where
 callable:Dq P f
 calls:∀ x y,c.m x=af y->∀ vs hp l1 rs hq l2 la lr,qx c.pre x vs hp l1->qx c.post y rs hq l2->cH hp vs=af la->cH hq rs=af lr->
  ∀ (φ:PM) (E:Nat->Prop) (w:World) (us:List Value),qL φ E (bz hp) w->jT φ (tot E φ (bz hp)) w la us->(∀ n k,φ n=af k->ow n<c.pre.bs.length)->
  Calls P f us.toArray w λen w'=>∃ v φ',en= .returned v/\Kh (own φ (bz hp)) w w'/\(∀ k,k<w.heap.size->own φ' (bz hq) k->own φ (bz hp) k)/\(∀ i,i<c.pre.bs.length->φ' (nm i)=φ (nm i))/\qL φ' E (bz hq) w'/\cI φ' (tot E φ' (bz hq)) w' (Dx lr) v
theorem LS {g:Nat->Nat}:∀ (bs:List PB) (x:(PB.tyL bs).den) (l:List (Option im)),Bd bs=ai->oo g bs x=af l->∀ (i:Nat) (c:Option im),l[i]? =af c->∃ b,c=af b
 |[],x,l,_,hp,i,c,hc=>by simp only[oo,ak] at hp;subst hp;simp at hc
 |b::r,x,l,hn,hp,i,c,hc=>by
  simp only[oo] at hp;split at hp
  .rename_i a I;split at hp
   .rename_i q hq;simp only[ak] at hp;subst hp;cases i with
    |zero=>
     simp at hc;subst hc;cases b with
     |gone=>simp[Bd] at hn
     |rows ty p T=>simp only[B7,ak] at I;exact⟨_,I.symm⟩
     |rowsP ty T=>simp only[B7,ak] at I;exact⟨_,I.symm⟩
     |cells ty ps=>
      simp only[B7] at I;split at I
      .simp only[ak] at I;exact⟨_,I.symm⟩
      .cases I
     |mp K V=>simp only[B7,ak] at I;exact⟨_,I.symm⟩
    |succ i=>
     refine LS r _ q ?_ hq i c (by simpa using hc);cases b<;>first|exact hn|simp[Bd] at hn
   .cases hp
  .cases hp
theorem EY {h h2:bf} {g:Nat->Nat}:∀ n,tC h h2 g n=ai->∀ i,i<n->∀ r,eh h (g i)=af r->eh h2 (g i)=af r
 |0,_,i,hi,_,_=>by omega
 |n+1,hs,i,hi,r,hr=>by
  simp only[tC,av] at hs;by_cases e:i=n
  .subst e;obtain⟨p,s,k⟩:=r;have h1:=hs.1;rw[hr] at h1;cases I:eh h2 (g i) with
   |none=>rw[I] at h1;cases h1
   |some q=>
    obtain⟨J,s',k'⟩:=q;rw[I] at h1;simp only[av,cR] at h1;rw[h1.1.1,aw h1.1.2,aw h1.2]
  .exact EY n hs.2 i (by omega) r hr
theorem jT.le {H H':HF} {φ:PM} {E:Nat->Prop} {w:World} (r:qL φ E H w):∀ {l I:List AV} {us:List Value},ia H H' l I->jT φ (tot E φ H) w l us->jT φ (tot E φ H') w I us
 |[],[],[],_,_=>trivial
 |[],[],_::_,_,h=>h.elim
 |_::_,_::_,[],_,h=>h.elim
 |[],_::_,_,h,_=>h.elim
 |_::_,[],_,h,_=>h.elim
 |_::_,_::_,_::_,hl,h=>⟨hl.1 _ _ _ _ r h.1,jT.le r hl.2 h.2⟩
theorem jT.toId {φ φ':PM} {O O':Nat->Prop} {w:World} {γ:Nat->Nat} {p:Nat->Bool} (hv:∀ x v,x.all p=ai->cI φ O w (x.ren γ) v->cI φ' O' w x v):∀ {l:List AV} {us:List Value},AV.allL p l=ai->jT φ O w (AV.renL γ l) us->jT φ' O' w l us
 |[],[],_,_=>trivial
 |[],_::_,_,h=>h.elim
 |_::_,[],_,h=>h.elim
 |_::_,_::_,hp,h=>by
  simp only[AV.allL,av] at hp;exact⟨hv _ _ hp.1 h.1,jT.toId hv hp.2 h.2⟩
theorem Ve {h:bf}:∀ {rs:List TV} {lr:List AV},cH h rs=af lr->cj h (Pe rs)=af (Dx lr)
 |[],lr,he=>by simp only[cH,ak] at he;subst he;rfl
 |[x],lr,he=>by
  obtain⟨y,l2,rfl,e1,e2⟩:=cS he;simp only[cH,ak] at e2;subst e2;exact e1
 |x::y::r,lr,he=>by
  obtain⟨J,l2,rfl,e1,e2⟩:=cS he;obtain⟨I,M,rfl,e3,U⟩:=cS e2;simp only[Pe,cj,he,Dx]
theorem YC (γ:Nat->Nat):∀ l:List AV,Dx (AV.renL γ l)=(Dx l).ren γ
 |[]=>rfl
 |[x]=>rfl
 |x::y::r=>rfl
theorem YD {p:Nat->Bool}:∀ {l:List AV},AV.allL p l=ai->(Dx l).all p=ai
 |[],_=>rfl
 |[x],h=>by simp only[AV.allL,av] at h;exact h.1
 |x::y::r,h=>h
theorem aby {nx I q:Nat}:aN (((1<<<I)-1)<<<nx) q=ai↔nx<=q/\q<nx+I:=by
 rw[Nat.testBit_shiftLeft,Nat.one_shiftLeft,Nat.testBit_two_pow_sub_one];simp only[av,bP];omega
theorem Z0 {P:Program} {o:Oper} {e:iK} {h:bf} {nx:Nat} {f:FuncId} {c:cu} {l:List TV} (hinv:lZ h nx) (sp:pB P f c) {x:c.pre.ty.den} {m:Nat} {σ:PT Nat} {sm:Nat} (M:Hl 0 c.pre l h x m σ sm) {vs:List TV} {hp:bf} {l1:List (Option im)} (I:qx c.pre x vs hp l1) (hng:Bd c.pre.bs=ai) {y:c.post.ty.den} (hm:c.m x=af y) {rs:List TV} {hq:bf} {l2:List (Option im)} (J:qx c.post y rs hq l2) (hle:c.pre.bs.length<=c.post.bs.length)
 {g:Nat->Nat} (glo:∀ i,i<c.pre.bs.length->g i=hZ σ i) (ghi:∀ i,c.pre.bs.length<=i->g i=nx+(i-c.pre.bs.length)) {h2:bf} (hh2:h2=zZ g 0 (l2.map (lD (lH g))) (em m h)) (hsr:tC h h2 g c.pre.bs.length=ai) {la:List AV} (hla:cH h l=af la)
 (hexec:∀ (φ:PM) (E:Nat->Prop) (h':HF) (w:World) (a:Act),(∀ t,.tmp t∈o.op.operands->∀ y,fO e h t=af y->cI φ (tot E φ h') w y (a.tmps.getD t undef))->qL φ E h' w->∃ us:List Value,(execOp a.eval o).run P w= .ok (.enter f us.toArray) w/\jT φ (tot E φ h') w la us):
 jb P o aj e h nx (Pe (kq g rs)) (sm|||m) (sm|||m|||(((1<<<(c.post.bs.length-c.pre.bs.length))-1)<<<nx)) h2 (nx+(c.post.bs.length-c.pre.bs.length)):=by
 obtain⟨x1,m1,x2,m2,hx,hmm,gv,gb⟩:=M.ex;have hmr:dK h m:=by rw[hmm];exact (Ha _ _ _ _ gv).or (Hc _ _ _ _ gb)
 generalize hnp:c.pre.bs.length=np at*
 generalize hnq:c.post.bs.length=nq at*
 have pvg:pK (hZ σ) c.pre.vs x1=af (kq (hZ σ) vs):=by
  have Y:=s8 (hZ σ) c.pre.vs x1;have h4:=I.pv;rw[hx,sY] at h4;rw[Y,h4];rfl
 have pbg:oo (hZ σ) c.pre.bs x2=af (l1.map (lD (lH (hZ σ)))):=by
  have Y:=vJ (hZ σ) c.pre.bs x2;have h4:=I.pb;rw[hx,uE] at h4;rw[Y,h4];rfl
 have hl1:∀ i,i<np->∃ b,l1[i]? =af (af b):=λi hi=>by
  have hi':i<l1.length:=by rw[I.len,hnp];exact hi
  obtain⟨b,hb⟩:=LS c.pre.bs _ l1 hng I.pb i l1[i] (aA hi');exact⟨b,by rw[aA hi',hb]⟩
 have hbm:∀ i b,l1[i]? =af (af b)->∃ b0,h.get (hZ σ i)=af b0/\BM (hZ σ) h m b0 (lH (hZ σ) b):=λi b hb=>by
  obtain⟨b0,U,Z⟩:=IG c.pre.bs 0 x2 m2 _ gb pbg i (lH (hZ σ) b) (by rw[ba,hb];rfl);rw[bN] at U;exact⟨b0,U,Z.mono λj hj=>by rw[hmm,bn,hj];simp⟩
 have inj1:∀ a b,a<np->b<np->hZ σ a=hZ σ b->a=b:=λa b ha hb=>M.inj a b (by rw[hnp];exact ha) (by rw[hnp];exact hb)
 have sig:∀ q,aN sm q=ai↔∃ k,k<np/\hZ σ k=q:=λq=>by rw[M.sig,hnp]
 have gnx:∀ i,i<np->hZ σ i<nx:=λi hi=>by
  obtain⟨b,hb⟩:=hl1 i hi;obtain⟨b0,U,_⟩:=hbm i b hb;exact hinv.low _ _ U
 have hmS:∀ i,i<np->aN m (hZ σ i)=aj:=λi hi=>by
  cases hx:aN m (hZ σ i) with
  |false=>rfl
  |true=>have:=M.disj _ hx;rw[(sig _).2 ⟨i,hi,rfl⟩] at this;cases this
 have injg:∀ a b,a<nq->b<nq->g a=g b->a=b:=λa b ha hb hab=>by
  by_cases h1:a<np
  .by_cases h2:b<np
   .rw[glo a h1,glo b h2] at hab;exact inj1 a b h1 h2 hab
   .rw[glo a h1,ghi b (by omega)] at hab;have:=gnx a h1;omega
  .by_cases h2:b<np
   .rw[ghi a (by omega),glo b h2] at hab;have:=gnx b h2;omega
   .rw[ghi a (by omega),ghi b (by omega)] at hab;omega
 let hv:bf:=zZ (hZ σ) 0 (l1.map (lD (lH (hZ σ)))) (em m h)
 have hv_at:∀ i b,l1[i]? =af (af b)->hv.get (hZ σ i)=af (lH (hZ σ) b):=λi b hb=>by
  have:=uI (hZ σ) (l1.map (lD (lH (hZ σ)))) 0 (em m h) (λa b ha hb=>by
   simp only[bY,I.len,hnp] at ha hb;simp only[bN];exact inj1 a b ha hb) i (af (lH (hZ σ) b)) (by rw[ba,hb];rfl)
  rw[bN] at this;exact this
 have hv_ne:∀ j,(∀ i,i<np->j≠hZ σ i)->hv.get j=(em m h).get j:=λj hj=>
  uH (hZ σ) _ 0 _ j λk hk=>by
   simp only[bY,I.len,hnp] at hk;rw[bN];exact hj k hk
 have rows_in:xw hv h:=λj r hr=>by
  rw[bS] at hr ⊢;by_cases hj:∃ i,i<np/\j=hZ σ i
  .obtain⟨i,hi,rfl⟩:=hj;obtain⟨b,hb⟩:=hl1 i hi;obtain⟨b0,U,Z⟩:=hbm i b hb;rw[hv_at i b hb] at hr;rw[U];simp only[aH] at hr ⊢;rw[<- Z.row];exact hr
  .rw[hv_ne j (λi hi e=>hj ⟨i,hi,e⟩),iU] at hr;split at hr
   .rename_i ht;obtain⟨ty,p,T,xs,hb⟩:=hmr j ht;rw[hb] at hr ⊢;exact hr
   .exact hr
 have rows_hp:∀ i r,eh hp i=af r->eh hv (hZ σ i)=af r:=λi r hr=>by
  rw[bS] at hr ⊢;cases hb:hp.get i with
  |none=>rw[hb] at hr;cases hr
  |some b=>
   rw[hb] at hr;rw[hv_at i b ((I.at_ i b).1 hb)];simp only[aH,HC] at hr ⊢;exact hr
 have dead_m:∀ i,aN m i=ai->bz hv (nm i)=ah:=λi hi=>by
  rw[bI,hv_ne i (λk hk e=>by rw[e,hmS k hk] at hi;cases hi)];obtain⟨p,sz,n,hd⟩:=tm hmr hi;rw[hd];rfl
 have h2_at:∀ i cc,l2[i]? =af cc->h2.get (g i)=(match cc with|some b=>af (lH g b)|none=>((em m h).get (g i)).map uJ):=λi cc hc=>by
  have:=uI g (l2.map (lD (lH g))) 0 (em m h) (λa b ha hb=>by
   simp only[bY,J.len,hnq] at ha hb;simp only[bN];exact injg a b ha hb) i (cc.map (lH g)) (by rw[ba,hc];rfl)
  rw[bN] at this;rw[hh2,this];cases cc<;>rfl
 have h2_ne:∀ j,(∀ i,i<nq->j≠g i)->h2.get j=(em m h).get j:=λj hj=>by
  rw[hh2];refine uH g _ 0 _ j λk hk=>?_
  simp only[bY,J.len,hnq] at hk;rw[bN];exact hj k hk
 have rows_hq:∀ i r,eh hq i=af r->eh h2 (g i)=af r:=λi r hr=>by
  rw[bS] at hr ⊢;cases hb:hq.get i with
  |none=>rw[hb] at hr;cases hr
  |some b=>
   rw[hb] at hr;rw[h2_at i _ ((J.at_ i b).1 hb)];simp only[aH,HC] at hr ⊢;exact hr
 have rows2:ci h h2:=λj r hr=>by
  by_cases hj:∃ i,i<np/\j=hZ σ i
  .obtain⟨i,hi,rfl⟩:=hj;rw[<- glo i hi] at hr ⊢;exact EY np hsr i hi r hr
  .have hjn:j<nx:=by
    rw[bS] at hr;cases hb:h.get j with
    |none=>rw[hb] at hr;cases hr
    |some b=>exact hinv.low j b hb
   have:=ci.kill m h j r hr;rw[bS] at this ⊢;rw[h2_ne j (λi hi e=>?_)]
   .exact this
   .by_cases hip:i<np
    .exact hj ⟨i,hip,by rw[e,glo i hip]⟩
    .rw[ghi i (by omega)] at e;omega
 obtain⟨lr,hlr⟩:=fk hq rs J.ok;obtain⟨lp,hlp⟩:=fk hp vs I.ok;have er2:∀ i b yb,hq.get i=af b->kr hq b=af yb->bz h2 (nm (g i))=af (yb.ren (Hd g)):=λi b yb hb hyb=>by
  rw[bI,h2_at i _ ((J.at_ i b).1 hb)];exact CF rows_hq hyb
 have er2':∀ i,i<nq->∀ z,bz h2 (nm (g i))=af z->∃ b yb,hq.get i=af b/\kr hq b=af yb/\z=yb.ren (Hd g):=λi hi z hz=>by
  have hi':i<l2.length:=by rw[J.len,hnq];exact hi
  have hcc:=aA hi';cases hcv:l2[i] with
  |none=>
   rw[hcv] at hcc;rw[bI,h2_at i ah hcc] at hz;simp only at hz;cases hkg:(em m h).get (g i) with
   |none=>rw[hkg] at hz;cases hz
   |some b0=>rw[hkg] at hz;cases b0<;>simp[uJ,kr] at hz
  |some b=>
   rw[hcv] at hcc;have hb:=(J.at_ i b).2 hcc;rw[bI,h2_at i (af b) hcc] at hz;have hyb:∃ yb,kr hq b=af yb:=by
    cases b with
    |rows ty p T xs=>simp only[aH,lH,kr] at hz ⊢;exact⟨z,hz⟩
    |cells ty q=>
     obtain⟨q',hq'⟩:=fk hq q (J.cells i ty q hb).1;exact⟨_,by simp only[kr,hq'];rfl⟩
    |dead p sz n=>simp[lH,kr] at hz
    |mp K V es=>exact⟨_,rfl⟩
   obtain⟨yb,hyb⟩:=hyb;have:=CF rows_hq hyb;simp only[aH] at hz;rw[this] at hz;exact⟨b,yb,hb,hyb,by cases hz;rfl⟩
 have dead2:∀ i,aN m i=ai->bz h2 (nm i)=ah:=λi hi=>by
  have hlt:=hmr.lt hinv hi;rw[bI,h2_ne i (λk hk e=>?_)]
  .obtain⟨p,sz,n,hd⟩:=tm hmr hi;rw[hd];rfl
  .by_cases hkp:k<np
   .rw[e,glo k hkp,hmS k hkp] at hi;cases hi
   .rw[ghi k (by omega)] at e;omega
 have inv2:lZ h2 (nx+(nq-np)):=by
  refine ⟨λj ty q hj=>?_,λj b hj=>?_⟩
  .by_cases hjg:∃ i,i<nq/\j=g i
   .obtain⟨i,hi,rfl⟩:=hjg;have hi':i<l2.length:=by rw[J.len,hnq];exact hi
    have hcc:=aA hi';cases hcv:l2[i] with
    |none=>
     rw[hcv] at hcc;rw[h2_at i ah hcc] at hj;simp only at hj;cases hkg:(em m h).get (g i) with
     |none=>rw[hkg] at hj;cases hj
     |some b0=>rw[hkg] at hj;cases b0<;>simp[uJ] at hj
    |some b=>
     rw[hcv] at hcc;have hb:=(J.at_ i b).2 hcc;rw[h2_at i (af b) hcc] at hj;simp only[ak] at hj;cases b with
     |cells ty' q'=>
      simp only[lH,im.cells.injEq] at hj;obtain⟨_,rfl⟩:=hj;obtain⟨z,hz⟩:=fk hq q' (J.cells i ty' q' hb).1;exact kE _ _ _ (qi rows_hq q' z hz)
     |rows _ _ _ _=>simp[lH] at hj
     |dead _ _ _=>simp[lH] at hj
     |mp _ _ _=>simp[lH] at hj
   .rw[h2_ne j (λi hi e=>hjg ⟨i,hi,e⟩)] at hj;refine iQ rows2 q ?_;have hkk:=(hinv.kill m).cells j ty q hj;rw[iU] at hj;split at hj
    .rename_i ht;obtain⟨_,_,_,_,hb⟩:=hmr j ht;rw[hb] at hj;cases hj
    .exact hinv.cells j ty q hj
  .by_cases hjg:∃ i,i<nq/\j=g i
   .obtain⟨i,hi,rfl⟩:=hjg;by_cases hip:i<np
    .rw[glo i hip];have:=gnx i hip;omega
    .rw[ghi i (by omega)];omega
   .rw[h2_ne j (λi hi e=>hjg ⟨i,hi,e⟩)] at hj;have:=(hinv.kill m).low j b hj;omega
 let S:List Nat:=(eS np).map λi=>nm (hZ σ i)
 have memS:∀ n,n∈S↔∃ i,i<np/\n=nm (hZ σ i):=λn=>by
  simp only[S,dh,m6];exact⟨λ⟨i,h1,h2⟩=>⟨i,h1,h2.symm⟩,λ⟨i,h1,h2⟩=>⟨i,h1,h2.symm⟩⟩
 let NN:List Nat:=(eS (nq-np)).map λt=>nm (nx+t)
 have memN:∀ n,n∈NN↔∃ t,t<nq-np/\n=nm (nx+t):=λn=>by
  simp only[NN,dh,m6];exact⟨λ⟨i,h1,h2⟩=>⟨i,h1,h2.symm⟩,λ⟨i,h1,h2⟩=>⟨i,h1,h2.symm⟩⟩
 have memW:∀ n,n∈S++E7 m++NN↔(∃ i,i<nq/\n=nm (g i))\/n∈E7 m:=λn=>by
  rw[bW,bW,memS,memN];constructor
  .rintro ((⟨i,hi,rfl⟩|hn)|⟨t,ht,rfl⟩)
   .exact .inl ⟨i,by omega,by rw[glo i hi]⟩
   .exact .inr hn
   .exact .inl ⟨np+t,by omega,by rw[ghi _ (by omega),show np+t-np=t from by omega]⟩
  .rintro (⟨i,hi,rfl⟩|hn)
   .by_cases hip:i<np
    .exact .inl (.inl ⟨i,hip,by rw[glo i hip]⟩)
    .exact .inr ⟨i-np,by omega,by rw[ghi i (by omega)]⟩
   .exact .inl (.inr hn)
 have hOpT:gG P o (fO e h) (bz h) ⟨Dx (AV.renL (Hd g) lr),S++E7 m,S++E7 m++NN,bz h2,NN⟩:=by
  intro φ E h' w a hrd hwr hops hrep hN;have hS':∀ i,i<np->h' (nm (hZ σ i))=bz h (nm (hZ σ i)):=λi hi=>hrd _ (kW _ ((memS _).2 ⟨i,hi,rfl⟩))
  have hM':∀ i,aN m i=ai->h' (nm i)=bz h (nm i):=λi hi=>hrd _ (nj _ (ll.2 hi))
  obtain⟨us,hrun,hrel⟩:=hexec φ E h' w a hops hrep
  let Hv:HF:=λn=>if n∈S++E7 m then bz hv n else h' n
  have Hv_in:∀ n,n∈S++E7 m->Hv n=bz hv n:=λn hn=>by simp only[Hv,hn,bC]
  have Hv_out:∀ n,n∉S++E7 m->Hv n=h' n:=λn hn=>by simp only[Hv,hn,dV]
  have blkS:∀ i,i<np->∀ z,bz hv (nm (hZ σ i))=af z->∃ b0 b y0,h.get (hZ σ i)=af b0/\l1[i]? =af (af b)/\BM (hZ σ) h m b0 (lH (hZ σ) b)/\kr h b0=af y0/\kr hv (lH (hZ σ) b)=af z:=λi hi z hz=>by
   obtain⟨b,hb⟩:=hl1 i hi;obtain⟨b0,U,Z⟩:=hbm i b hb;rw[bI,hv_at i b hb] at hz;simp only[aH] at hz;obtain⟨y0,hy0⟩:=BM.erB_some hinv U Z hz;exact⟨b0,b,y0,U,hb,Z,hy0,hz⟩
  have hd:uY h' Hv:=λn b hb=>by
   by_cases hn:n∈S++E7 m
   .rw[Hv_in n hn] at hb;rcases bW.1 hn with hs|hs
    .obtain⟨i,hi,rfl⟩:=(memS n).1 hs;obtain⟨b0,b1,y0,U,Z,q3,q4,q5⟩:=blkS i hi b hb;exact⟨y0,by rw[hS' i hi,bI,U];exact q4⟩
    .obtain⟨i,rfl,hi⟩:=nH.1 hs;rw[dead_m i hi] at hb;cases hb
   .rw[Hv_out n hn] at hb;exact⟨b,hb⟩
  have gvv:Dv h h' Hv m:=λi hi=>⟨hM' i hi,by rw[Hv_in _ (nj _ (ll.2 hi)),dead_m i hi]⟩
  have V:J4 h' Hv:=⟨hd,λn b b' hb hb'=>by
   by_cases hn:n∈S++E7 m
   .rw[Hv_in n hn] at hb';rcases bW.1 hn with hs|hs
    .obtain⟨i,hi,rfl⟩:=(memS n).1 hs;obtain⟨b0,b1,y0,U,Z,q3,q4,q5⟩:=blkS i hi b' hb';rw[hS' i hi,bI,U] at hb;simp only[aH] at hb;exact BM.view hd gvv rows_in q3 hb q5
    .obtain⟨i,rfl,hi⟩:=nH.1 hs;rw[dead_m i hi] at hb';cases hb'
   .rw[Hv_out n hn,hb] at hb';cases hb';exact jU.refl hd b⟩
  have hrepv:=V.rep hrep;have hlpg:cH hv (kq (hZ σ) vs)=af (AV.renL (Hd (hZ σ)) lp):=qi rows_hp vs lp hlp;have hrel1:jT φ (tot E φ Hv) w (AV.renL (Hd (hZ σ)) lp) us:=
   jT.le hrep (Cz hd rows_in c.pre.vs l x1 m1 _ la _ gv pvg hla hlpg (λi hi=>gvv i (by rw[hmm,bn,hi];rfl))) hrel
  let E':Nat->Prop:=λk=>E k\/∃ n b,Hv n=af b/\n∉S/\φ n=af k
  have T:adk c.pre x vs hp (hZ σ) φ E E' Hv w:=by
   refine qL.toId I (λa b ha hb=>inj1 a b (by rw[<- hnp];exact ha) (by rw[<- hnp];exact hb)) hrepv (λi b yb hb hyb=>?_) ?_ ?_ ?_
   .have hi:=I.lt_len hb;rw[hnp] at hi;rw[Hv_in _ (kW _ ((memS _).2 ⟨i,hi,rfl⟩)),bI,hv_at i b ((I.at_ i b).1 hb)];exact CF rows_hp hyb
   .rintro k (hE|⟨n,b,h1,_,Y⟩)
    .exact .inl hE
    .exact .inr ⟨n,b,h1,Y⟩
   .rintro i k b hi h1 Y (hE|⟨n,b',h4,h5,h6⟩)
    .obtain⟨k',p1,p2,_⟩:=hrepv.at_ _ _ h1;rw[Y] at p1;cases p1;exact p2 hE
    .have:=hrepv.inj _ _ _ _ k h1 h4 Y h6;exact h5 (by rw[<- this];exact (memS _).2 ⟨i,by rw[<- hnp];exact hi,rfl⟩)
   .rintro k (hE|⟨n,b,h1,_,Y⟩)
    .exact hrepv.el k hE
    .obtain⟨k',U,_,ob,q3,_⟩:=hrepv.at_ n b h1;rw[Y] at U;cases U;exact (cC.1 q3).1
  have hcalls:=sp.calls x y hm vs hp l1 rs hq l2 lp lr I J hlp hlr (φ1 c.pre.bs.length (hZ σ) φ) E' w us T.rep (jT.toId T.val (sV vs lp I.lt hlp) hrel1) (λn k hk=>by
   obtain⟨i,hi,rfl,_⟩:=wL hk;rw[dU];exact hi)
  unfold GW;rw[hrun];refine Calls.mono hcalls ?_;rintro en w' ⟨v,φc',rfl,hext,hown,hnm,rp,rv'⟩
  let isN:Nat->Prop:=λn=>n∈NN
  let φ':PM:=λn=>if n∈NN then φc' (nm (np+(ow n-nx))) else φ n
  have φ'_new:∀ t,t<nq-np->φ' (nm (nx+t))=φc' (nm (np+t)):=λt ht=>by
   have:nm (nx+t)∈NN:=(memN _).2 ⟨t,ht,rfl⟩;simp only[φ',this,bC,dU];rw[show nx+t-nx=t from by omega]
  have φ'_old:∀ n,n∉NN->φ' n=φ n:=λn hn=>by simp only[φ',hn,dV]
  have loN:∀ i,i<nx->nm i∉NN:=λi hi hn=>by
   obtain⟨t,_,e⟩:=(memN _).1 hn;have:=kK e;omega
  have φ'_g:∀ i,i<nq->φ' (nm (g i))=φc' (nm i):=λi hi=>by
   by_cases hip:i<np
   .rw[glo i hip,φ'_old _ (loN _ (gnx i hip)),hnm i (by rw[hnp];exact hip),Yu (by rw[hnp];exact hip)]
   .rw[ghi i (by omega),φ'_new _ (by omega),show np+(i-np)=i from by omega]
  have hsub:∀ n k,φ n=af k->φ' n=af k:=λn k hk=>by
   by_cases hn:n∈NN
   .rw[hN n hn] at hk;cases hk
   .rw[φ'_old n hn];exact hk
  let F:HF:=eL h' (S++E7 m++NN) (bz h2)
  have F_g:∀ i,i<nq->F (nm (g i))=bz h2 (nm (g i)):=λi hi=>by
   simp only[F,eL,(memW _).2 (.inl ⟨i,hi,rfl⟩),bC]
  have F_out:∀ n,n∉S++E7 m++NN->F n=h' n:=λn hn=>by simp only[F,eL,hn,dV]
  have from_:∀ n b,F n=af b->(∃ i bq yb,i<nq/\n=nm (g i)/\hq.get i=af bq/\kr hq bq=af yb/\b=yb.ren (Hd g))\/(h' n=af b/\Hv n=af b/\n∉S/\n∉NN/\φ' n=φ n):=λn b hb=>by
   by_cases hn:n∈S++E7 m++NN
   .rcases (memW n).1 hn with ⟨i,hi,rfl⟩|hs
    .rw[F_g i hi] at hb;obtain⟨bq,yb,U,Z,q3⟩:=er2' i hi b hb;exact .inl ⟨i,bq,yb,hi,rfl,U,Z,q3⟩
    .obtain⟨i,rfl,hi⟩:=nH.1 hs;have:F (nm i)=bz h2 (nm i):=by simp only[F,eL,hn,bC]
     rw[this,dead2 i hi] at hb;cases hb
   .rw[F_out n hn] at hb;have h1:n∉S++E7 m:=λhh=>hn (kW _ hh)
    have Y:n∉NN:=λhh=>hn (nj _ hh)
    exact .inr ⟨hb,by rw[Hv_out n h1];exact hb,λhh=>h1 (kW _ hh),Y,φ'_old n Y⟩
  have own':∀ k,own φ' F k->own φc' (bz hq) k\/∃ n b,Hv n=af b/\n∉S/\φ n=af k:=by
   rintro k ⟨n,b,h1,Y⟩;rcases from_ n b h1 with ⟨i,bq,yb,hi,rfl,U,Z,_⟩|⟨_,Z,q3,_,q5⟩
   .rw[φ'_g i hi] at Y;exact .inl ⟨nm i,yb,by rw[bI,U];exact Z,Y⟩
   .exact .inr ⟨n,b,Z,q3,by rw[<- q5];exact Y⟩
  have mv:iV φ φ' h' F w w':=by
   refine ⟨hsub,hext.mono λk hk=>hd.own (T.own_ k hk),λk hk ho=>?_⟩;rcases own' k ho with h1|⟨n,b,h1,_,Y⟩
   .exact hd.own (T.own_ k (hown k hk h1))
   .exact hd.own ⟨n,b,h1,Y⟩
  have tot':∀ k,tot E φ' F k->tot E' φc' (bz hq) k:=by
   rintro k (h1|h1)
   .exact .inl (.inl h1)
   .rcases own' k h1 with Y|Y
    .exact .inr Y
    .exact .inl (.inr Y)
  let φr:PM:=λn=>if Vi nq n then φc' n else ah
  have rel_r:∀ x v,x.all (Vi nq)=ai->cI φc' (tot E' φc' (bz hq)) w' x v->cI φr (tot E φ' F) w' x v:=λx v hx hr=>
   hr.restrict (λi k hi hk=>by simp only[φr,hi,bC];exact hk) tot' hx
  have rel_g:∀ x v,cI φr (tot E φ' F) w' x v->cI φ' (tot E φ' F) w' (x.ren (Hd g)) v:=λx v hr=>
   hr.renTo λn k hk=>by
    simp only[φr] at hk;split at hk
    .rename_i hpn;obtain⟨i,hi,rfl⟩:=YV hpn;rw[xf,φ'_g i hi];exact hk
    .cases hk
  have hnqJ:=hnq;refine ⟨v,φ',rfl,mv,λn k hk=>?_,?_,?_⟩
  .by_cases hn:n∈NN
   .exact .inr hn
   .rw[φ'_old n hn] at hk;exact .inl hk
  .refine ⟨λn n' b b' k h1 Y h4 h5=>?_,λn b h1=>?_,λk hk=>dt (hrep.el k hk) mv.ext.size,λg' cells hg=>mv.keepF (hrep.gl g' cells hg)⟩
   .rcases from_ n b h1 with ⟨i,bq,yb,hi,rfl,U,Z,_⟩|⟨U,Z,q3,_,q5⟩
    .rw[φ'_g i hi] at h4;have hqi:bz hq (nm i)=af yb:=by rw[bI,U];exact Z
     rcases from_ n' b' Y with ⟨j,bj,yj,hj,rfl,t1,t2,_⟩|⟨t1,t2,t3,_,t5⟩
     .rw[φ'_g j hj] at h5;have:=rp.inj _ _ _ _ k hqi (by rw[bI,t1];exact t2) h4 h5;rw[kK this]
     .exfalso;obtain⟨k',p1,p2,_⟩:=rp.at_ _ _ hqi;rw[h4] at p1;cases p1;exact p2 (.inr ⟨n',b',t2,t3,by rw[<- t5];exact h5⟩)
    .rcases from_ n' b' Y with ⟨j,bj,yj,hj,rfl,t1,t2,_⟩|⟨t1,t2,t3,_,t5⟩
     .exfalso;rw[φ'_g j hj] at h5;have hqj:bz hq (nm j)=af yj:=by rw[bI,t1];exact t2
      obtain⟨k',p1,p2,_⟩:=rp.at_ _ _ hqj;rw[h5] at p1;cases p1;exact p2 (.inr ⟨n,b,Z,q3,by rw[<- q5];exact h4⟩)
     .exact hrep.inj n n' b b' k U t1 (by rw[<- q5];exact h4) (by rw[<- t5];exact h5)
   .rcases from_ n b h1 with ⟨i,bq,yb,hi,rfl,U,Z,rfl⟩|⟨U,Z,q3,_,q5⟩
    .have hqi:bz hq (nm i)=af yb:=by rw[bI,U];exact Z
     obtain⟨k,p1,p2,ob,p3,p4⟩:=rp.at_ _ _ hqi;have hall:=J.blk_all U Z;rw[hnq] at hall;exact⟨k,by rw[φ'_g i hi];exact p1,λhE=>p2 (.inl hE),ob,p3,(p4.restrict rel_r hall).renTo rel_g⟩
    .obtain⟨k,p1,p2,ob,p3,p4⟩:=hrep.at_ n b U;have hk:k<w.heap.size:=(cC.1 p3).1;refine ⟨k,hsub n k p1,p2,ob,?_,p4.mono λx v hr=>mv.keep hr⟩;rw[hext.blk k hk ?_]
     .exact p3
     .rintro⟨n',y',t1,t2⟩;obtain⟨i,hi,rfl,t3⟩:=wL t2;obtain⟨j,bb,e,t4,t5⟩:=js t1;have:=kK e;subst this;have hi':i<np:=by rw[<- hnp];exact hi
      have hvi:Hv (nm (hZ σ i))=af (y'.ren (Hd (hZ σ))):=by
       rw[Hv_in _ (kW _ ((memS _).2 ⟨i,hi',rfl⟩)),bI,hv_at i bb ((I.at_ i bb).1 t4)];exact CF rows_hp t5
      have:=hrepv.inj _ _ _ _ k hvi Z t3 p1;exact q3 (by rw[<- this];exact (memS _).2 ⟨i,hi',rfl⟩)
  .have hall:(Dx lr).all (Vi nq)=ai:=YD (by have:=sV rs lr J.lt hlr;rwa [hnq] at this);show cI φ' (tot E φ' F) w' (Dx (AV.renL (Hd g) lr)) v;rw[YC];exact rel_g _ _ (rel_r _ _ hall rv')
 have hrsg:cH h2 (kq g rs)=af (AV.renL (Hd g) lr):=qi rows_hq rs lr hlr;refine ⟨⟨_,hOpT,λz hz=>?_,?_,λn hn=>?_,λn hn=>?_,λn hn=>?_⟩,rows2,inv2,by omega,λhs=>by cases hs⟩
 .rw[Ve hrsg] at hz;cases hz;rfl
 .funext n;unfold eL;split
  .rfl
  .rename_i hn;refine (kF hinv rows2 λi e=>?_).symm;subst e;rw[h2_ne i (λk hk e=>hn ((memW _).2 (.inl ⟨k,hk,by rw[e]⟩))),iU,aC];intro hb;exact hn ((memW _).2 (.inr (ll.2 hb)))
 .rw[bn];rcases bW.1 hn with hs|hs
  .obtain⟨i,hi,rfl⟩:=(memS n).1 hs;rw[dU,(sig _).2 ⟨i,hi,rfl⟩];rfl
  .obtain⟨i,rfl,hi⟩:=nH.1 hs;rw[dU,hi];simp
 .rw[bn,bn];rcases bW.1 hn with hs|hs
  .rcases bW.1 hs with hs|hs
   .obtain⟨i,hi,rfl⟩:=(memS n).1 hs;rw[dU,(sig _).2 ⟨i,hi,rfl⟩];rfl
   .obtain⟨i,rfl,hi⟩:=nH.1 hs;rw[dU,hi];simp
  .obtain⟨t,ht,rfl⟩:=(memN n).1 hs;rw[dU,aby.2 ⟨by omega,by omega⟩];simp
 .obtain⟨t,ht,rfl⟩:=(memN n).1 hn;rw[dU];omega
mutual
def FV.fl:FV->Bool
 |.raw _=>ai
 |.agg l=>FV.flL l
 |.sl _ _=>aj
 |.ptr _ _=>aj
def FV.flL:List FV->Bool
 |[]=>ai
 |x::r=>x.fl&&FV.flL r
end
theorem VQ:∀ {l:List FV},FV.flL l=ai->∀ x∈l,x.fl=ai
 |[],_,x,I=>by cases I
 |y::l,h,x,I=>by
  simp only[FV.flL,av] at h;rcases bi.1 I with rfl|I
  .exact h.1
  .exact VQ h.2 x I
theorem ZI:∀ {l:List FV},(∀ x∈l,x.fl=ai)->FV.flL l=ai
 |[],_=>rfl
 |y::l,h=>by simp only[FV.flL,av];exact⟨h y (by simp),ZI λx I=>h x (by simp[I])⟩
theorem mZ.flat {O O':Nat->Prop} {w w':World} {x:FV} {v:Value} (h:mZ O w x v):x.fl=ai->mZ O' w' x v:=by
 induction h with
 |raw v=>intro _;exact .raw v
 |nil a c hc=>intro h;cases h
 |sl cells n c b off us hn hc hO hb hcl hu hr I=>intro h;cases h
 |ptr cells o b off us hO hb hcl hu hr I=>intro h;cases h
 |agg cells vs hl hcl hr I=>intro h;exact .agg cells vs hl hcl λj x v J hv=>I j x v J hv (VQ h x (a_ J))
mutual
def AV.fl:AV->Bool
 |.f x=>x.fl
 |.emp=>ai
 |.anyb=>ai
 |.agg l=>AV.flL l
 |.tup l=>AV.flL l
 |.ptr _ _=>aj
 |.sl _ _ _=>aj
 |.row _ _ _=>aj
 |.mp _=>aj
 |.clo _ _=>aj
def AV.flL:List AV->Bool
 |[]=>ai
 |x::r=>x.fl&&AV.flL r
end
theorem J3:∀ {l:List AV},AV.flL l=ai->∀ x∈l,x.fl=ai
 |[],_,x,I=>by cases I
 |y::l,h,x,I=>by
  simp only[AV.flL,av] at h;rcases bi.1 I with rfl|I
  .exact h.1
  .exact J3 h.2 x I
theorem Wk:∀ {l:List AV},(∀ x∈l,x.fl=ai)->AV.flL l=ai
 |[],_=>rfl
 |y::l,h=>by simp only[AV.flL,av];exact⟨h y (by simp),Wk λx I=>h x (by simp[I])⟩
theorem cI.flat {φ φ':PM} {O O':Nat->Prop} {w w':World} {x:AV} {v:Value} (h:cI φ O w x v):x.fl=ai->cI φ' O' w' x v:=by
 induction h with
 |f h=>intro hf;exact .f (h.flat hf)
 |ptr h=>intro hf;cases hf
 |sl h hn hc=>intro hf;cases hf
 |row h hn hc hsh=>intro hf;cases hf
 |emp=>intro _;exact .emp
 |anyb=>intro _;exact .anyb
 |mp h=>intro hf;cases hf
 |agg hl hcl hr J=>intro hf;exact .agg hl hcl λj x v I hv=>J j x v I hv (J3 hf x (a_ I))
 |tup hl hr J=>intro hf;exact .tup hl λj x v I hv=>J j x v I hv (J3 hf x (a_ I))
 |clo hl hr J=>intro hf;cases hf
mutual
theorem ag7 (γ:Nat->Nat):∀ x:AV,x.fl=ai->x.ren γ=x
 |.f x,_=>rfl
 |.emp,_=>rfl
 |.anyb,_=>rfl
 |.agg l,h=>by simp only[AV.ren];rw[Hf γ l h]
 |.tup l,h=>by simp only[AV.ren];rw[Hf γ l h]
 |.ptr _ _,h=>by cases h
 |.sl _ _ _,h=>by cases h
 |.row _ _ _,h=>by cases h
 |.mp _,h=>by cases h
 |.clo _ _,h=>by cases h
theorem Hf (γ:Nat->Nat):∀ l:List AV,AV.flL l=ai->AV.renL γ l=l
 |[],_=>rfl
 |x::r,h=>by
  simp only[AV.flL,av] at h;rw[AV.renL,ag7 γ x h.1,Hf γ r h.2]
end
theorem zN:∀ (T:Ty),T.flat=ai->∀ x:T.den,∀ y∈bQ T x,y.fl=ai
 |.int _,_,x,y,I=>by simp only[bQ,aL] at I;subst I;rfl
 |.bool,_,x,y,I=>by simp only[bQ,aL] at I;subst I;rfl
 |.str,_,x,y,I=>by simp only[bQ,aL] at I;subst I;rfl
 |.sl _,h,x,y,I=>by cases h
 |.st t,h,x,y,I=>zN t h x y I
 |.pr a b,h,x,y,I=>by
  simp only[Ty.flat,av] at h;simp only[bQ,bW] at I;exact I.elim (zN a h.1 x.1 y) (zN b h.2 x.2 y)
 |.un,_,x,y,I=>by simp[bQ] at I
 |.ex,h,_,_,_=>by cases h
 |.sm,h,_,_,_=>by cases h
theorem acq (T:Ty) (h:T.flat=ai) (x:T.den):(gC T x).fl=ai:=by
 cases I:T.one with
 |true=>
  have:=zN T h x (gC T x) (by rw[(CI T x I).1];simp);exact this
 |false=>rw[qj T x I];exact ZI (zN T h x)
theorem O4 (a b:Ty):(spr a b).flat=(a.flat&&b.flat):=by
 cases a<;>cases b<;>simp[spr,F9,Ty.flat]
theorem H8 {n:Nat}:∀ {a b:List TV},rf n (a++b)=ai->rf n a=ai/\rf n b=ai
 |[],b,h=>⟨rfl,h⟩
 |x::r,b,h=>by
  simp only[gh,rf,av] at h ⊢;obtain⟨h1,h2⟩:=H8 h.2;exact⟨⟨h.1,h1⟩,h2⟩
mutual
theorem abo {g:Nat->Nat} {h:bf}:∀ (p:PV) (x:p.ty.den) (cs:List TV) (l:List AV),p.ty.flat=ai->pE g p x=af cs->rf 0 cs=ai->cH h cs=af l->∀ y∈l,y.fl=ai
 |.d T,x,cs,l,hf,hp,_,hl,y,hy=>by
  have:=(lz h 40 T x cs hp).1;rw[hl] at this;cases this;obtain⟨q,hq,rfl⟩:=dh.1 hy;exact zN T hf x q hq
 |.ptr i q,x,cs,l,hf,hp,hlt,hl,y,hy=>by
  simp only[pE,ak] at hp;subst hp;simp[rf,KF] at hlt
 |.csl i q z,x,cs,l,hf,hp,hlt,hl,y,hy=>by
  simp only[pE,ak] at hp;subst hp;simp[rf,KF] at hlt
 |.clo q i z,x,cs,l,hf,hp,hlt,hl,y,hy=>by
  simp only[pE,ak] at hp;subst hp;simp[rf,KF] at hlt
 |.row i,x,cs,l,hf,hp,hlt,hl,y,hy=>by
  simp only[pE,ak] at hp;subst hp;simp[rf,KF] at hlt
 |.mp i,x,cs,l,hf,hp,hlt,hl,y,hy=>by
  simp only[pE,ak] at hp;subst hp;simp[rf,KF] at hlt
 |.nil,x,cs,l,hf,hp,hlt,hl,y,hy=>by
  simp only[pE,ak] at hp;subst hp;simp only[cH,cj,ak] at hl;subst hl;simp only[aL] at hy;subst hy;rfl
 |.emp,x,cs,l,hf,hp,hlt,hl,y,hy=>by
  simp only[pE,ak] at hp;subst hp;simp only[cH,cj,ak] at hl;subst hl;simp only[aL] at hy;subst hy;rfl
 |.agg ps,x,cs,l,hf,hp,hlt,hl,y,hy=>HK ps x cs l hf hp hlt hl y hy
theorem HK {g:Nat->Nat} {h:bf}:∀ (ps:List PV) (x:(PV.tyL ps).den) (cs:List TV) (l:List AV),(PV.tyL ps).flat=ai->qH g ps x=af cs->rf 0 cs=ai->cH h cs=af l->∀ y∈l,y.fl=ai
 |[],x,cs,l,hf,hp,hlt,hl,y,hy=>by
  simp only[qH,ak] at hp;subst hp;simp only[cH,ak] at hl;subst hl;cases hy
 |p::ps,x,cs,l,hf,hp,hlt,hl,y,hy=>by
  simp only[PV.tyL] at hf;rw[O4,av] at hf;simp only[qH] at hp;split at hp
  .rename_i a ha;split at hp
   .rename_i b hb;simp only[ak] at hp;subst hp;obtain⟨a',b',rfl,e1,e2⟩:=Bv hl;have hsp:=H8 hlt;rcases bW.1 hy with hy|hy
    .exact abo p _ a a' hf.1 ha hsp.1 e1 y hy
    .exact HK ps _ b b' hf.2 hb hsp.2 e2 y hy
   .cases hp
  .cases hp
end
theorem abm {g:Nat->Nat} {h:bf} {p:PV} {x:p.ty.den} {u:TV} {y:AV} (hf:p.ty.flat=ai) (hp:sQ g p x=af u) (hlt:KF 0 u=ai) (I:cj h u=af y):y.fl=ai:=by
 cases p with
 |d T=>
  simp only[sQ,ak] at hp;subst hp;simp only[cj,ak] at I;subst I;exact acq T hf x
 |agg ps=>
  simp only[sQ] at hp;split at hp
  .rename_i l hl;simp only[ak] at hp;subst hp;simp only[cj] at I;split at I
   .rename_i M J;simp only[ak] at I;subst I;exact Wk (HK ps _ l M hf hl hlt J)
   .cases I
  .cases hp
 |ptr i q=>simp only[sQ,ak] at hp;subst hp;simp[KF] at hlt
 |csl i q z=>simp only[sQ,ak] at hp;subst hp;simp[KF] at hlt
 |row i=>simp only[sQ,ak] at hp;subst hp;simp[KF] at hlt
 |clo q i z=>simp only[sQ,ak] at hp;subst hp;simp[KF,rf] at hlt
 |mp i=>simp only[sQ,ak] at hp;subst hp;simp[KF] at hlt
 |nil=>simp only[sQ,ak] at hp;subst hp;simp only[cj,ak] at I;subst I;rfl
 |emp=>simp only[sQ,ak] at hp;subst hp;simp only[cj,ak] at I;subst I;rfl
theorem Pm {g:Nat->Nat} {h:bf}:∀ (ps:List PV) (x:(PV.tyL ps).den) (us:List TV) (l:List AV),(PV.tyL ps).flat=ai->pK g ps x=af us->rf 0 us=ai->cH h us=af l->AV.flL l=ai
 |[],x,us,l,hf,hp,hlt,hl=>by
  simp only[pK,ak] at hp;subst hp;simp only[cH,ak] at hl;subst hl;rfl
 |p::ps,x,us,l,hf,hp,hlt,hl=>by
  simp only[PV.tyL] at hf;rw[O4,av] at hf;simp only[pK] at hp;split at hp
  .rename_i a I;split at hp
   .rename_i b hb;simp only[ak] at hp;subst hp;obtain⟨y,l2,rfl,e1,e2⟩:=cS hl;simp only[rf,av] at hlt;simp only[AV.flL,av];exact⟨abm hf.1 I hlt.1 e1,Pm ps _ b l2 hf.2 hb hlt.2 e2⟩
   .cases hp
  .cases hp
theorem abf:∀ {l:List AV},AV.flL l=ai->(Dx l).fl=ai
 |[],_=>rfl
 |[x],h=>by simp only[AV.flL,av] at h;exact h.1
 |x::y::r,h=>h
theorem ad2 {P:Program} {o:Oper} {e:iK} {h:bf} {nx:Nat} {f:FuncId} {c:cu} {l:List TV} (hinv:lZ h nx) (sp:pB P f c) {x:c.pre.ty.den} {m:Nat} {σ:PT Nat} {sm:Nat} (M:Hl 0 c.pre l h x m σ sm) {vs:List TV} {hp:bf} {l1:List (Option im)} (I:qx c.pre x vs hp l1) {y:c.post.ty.den} (hm:c.m x=af y) {rs:List TV} {hq:bf} {l2:List (Option im)} (J:qx c.post y rs hq l2) (hp0:c.pre.bs.length=0) (hq0:c.post.bs.length=0) (hfl:(PV.tyL c.post.vs).flat=ai)
 (g:Nat->Nat) {la:List AV} (hla:cH h l=af la)
 (hexec:∀ (φ:PM) (E:Nat->Prop) (h':HF) (w:World) (a:Act),(∀ t,.tmp t∈o.op.operands->∀ y,fO e h t=af y->cI φ (tot E φ h') w y (a.tmps.getD t undef))->qL φ E h' w->∃ us:List Value,(execOp a.eval o).run P w= .ok (.enter f us.toArray) w/\jT φ (tot E φ h') w la us):
 jb P o aj e h nx (Pe (kq g rs)) m 0 h nx:=by
 obtain⟨x1,m1,x2,m2,hx,hmm,gv,gb⟩:=M.ex;have hmr:dK h m:=by rw[hmm];exact (Ha _ _ _ _ gv).or (Hc _ _ _ _ gb)
 have pvg:pK (hZ σ) c.pre.vs x1=af (kq (hZ σ) vs):=by
  have U:=s8 (hZ σ) c.pre.vs x1;have h4:=I.pv;rw[hx,sY] at h4;rw[U,h4];rfl
 obtain⟨lr,hlr⟩:=fk hq rs J.ok;obtain⟨lp,hlp⟩:=fk hp vs I.ok;have hfl':AV.flL lr=ai:=Pm c.post.vs _ rs lr hfl J.pv (by rw[<- hq0];exact J.lt) hlr;have hpe:∀ i,hp.get i=ah:=λi=>by
  cases hb:hp.get i with
  |none=>rfl
  |some b=>have:=I.lt_len hb;omega
 have hqe:∀ i,hq.get i=ah:=λi=>by
  cases hb:hq.get i with
  |none=>rfl
  |some b=>have:=J.lt_len hb;omega
 have rows_hp:∀ i r,eh hp i=af r->eh (em m h) (hZ σ i)=af r:=λi r hr=>by rw[bS,hpe] at hr;cases hr
 have rows_hq:∀ i r,eh hq i=af r->eh h (g i)=af r:=λi r hr=>by rw[bS,hqe] at hr;cases hr
 have rows_in:xw (em m h) h:=λj r hr=>by
  rw[bS] at hr ⊢;rw[iU] at hr;split at hr
  .rename_i ht;obtain⟨ty,p,T,xs,hb⟩:=hmr j ht;rw[hb] at hr ⊢;exact hr
  .exact hr
 have hOpT:gG P o (fO e h) (bz h) ⟨Dx lr,E7 m,[],λ_=>ah,[]⟩:=by
  intro φ E h' w a hrd hwr hops hrep hN;obtain⟨us,hrun,hrel⟩:=hexec φ E h' w a hops hrep
  let Hv:HF:=λn=>if n∈E7 m then ah else h' n
  have Hv_in:∀ n,n∈E7 m->Hv n=ah:=λn hn=>by simp only[Hv,hn,bC]
  have Hv_out:∀ n,n∉E7 m->Hv n=h' n:=λn hn=>by simp only[Hv,hn,dV]
  have hd:uY h' Hv:=λn b hb=>by
   by_cases hn:n∈E7 m
   .rw[Hv_in n hn] at hb;cases hb
   .rw[Hv_out n hn] at hb;exact⟨b,hb⟩
  have gvv:Dv h h' Hv m:=λi hi=>⟨hrd _ (ll.2 hi),Hv_in _ (ll.2 hi)⟩
  have V:J4 h' Hv:=⟨hd,λn b b' hb Y=>by
   by_cases hn:n∈E7 m
   .rw[Hv_in n hn] at Y;cases Y
   .rw[Hv_out n hn,hb] at Y;cases Y;exact jU.refl hd b⟩
  have hrepv:=V.rep hrep;have hlpg:cH (em m h) (kq (hZ σ) vs)=af (AV.renL (Hd (hZ σ)) lp):=qi rows_hp vs lp hlp;have hrel1:jT φ (tot E φ Hv) w (AV.renL (Hd (hZ σ)) lp) us:=
   jT.le hrep (Cz hd rows_in c.pre.vs l x1 m1 _ la _ gv pvg hla hlpg (λi hi=>gvv i (by rw[hmm,bn,hi];rfl))) hrel
  let E':Nat->Prop:=λk=>E k\/∃ n b,Hv n=af b/\φ n=af k
  have T:adk c.pre x vs hp (hZ σ) φ E E' Hv w:=by
   refine qL.toId I (λa b ha=>by omega) hrepv (λi b yb hb=>by rw[hpe] at hb;cases hb) ?_ (λi k b hi=>by omega) ?_
   .rintro k (hE|⟨n,b,h1,U⟩)
    .exact .inl hE
    .exact .inr ⟨n,b,h1,U⟩
   .rintro k (hE|⟨n,b,h1,U⟩)
    .exact hrepv.el k hE
    .obtain⟨k',Z,_,ob,q3,_⟩:=hrepv.at_ n b h1;rw[U] at Z;cases Z;exact (cC.1 q3).1
  have hcalls:=sp.calls x y hm vs hp l1 rs hq l2 lp lr I J hlp hlr (φ1 c.pre.bs.length (hZ σ) φ) E' w us T.rep (jT.toId T.val (sV vs lp I.lt hlp) hrel1) (λn k hk=>by
   obtain⟨i,hi,rfl,_⟩:=wL hk;rw[dU];exact hi)
  unfold GW;rw[hrun];refine Calls.mono hcalls ?_;rintro en w' ⟨v,φc',rfl,hext,hown,hnm,rp,rv'⟩;have hno:∀ k,¬own (φ1 c.pre.bs.length (hZ σ) φ) (bz hp) k:=by
   rintro k ⟨n,b,h1,_⟩;obtain⟨i,bb,_,U,_⟩:=js h1;rw[hpe] at U;cases U
  have mv:iV φ φ h' h' w w':=⟨λ_ _ h=>h,hext.mono λk hk=>cU hk (hno k),λ_ _ h=>h⟩
  refine ⟨v,φ,rfl,?_,λ_ _ h=>.inl h,?_,?_⟩
  .rw[tB];exact mv
  .rw[tB];refine hrep.moved mv λk hk=>?_
   obtain⟨n,b,h1,U⟩:=hk;obtain⟨k',Z,_,ob,q3,_⟩:=hrep.at_ n b h1;rw[U] at Z;cases Z;exact hext.blk k (cC.1 q3).1 (hno k)
  .exact rv'.flat (abf hfl')
 have hrsg:cH h (kq g rs)=af (AV.renL (Hd g) lr):=qi rows_hq rs lr hlr;refine ⟨⟨_,hOpT,λz hz=>?_,?_,λn hn=>?_,by simp,by simp⟩,λ_ _ h=>h,hinv,bV _,λhs=>by cases hs⟩
 .rw[Ve hrsg,Hf _ lr hfl'] at hz;cases hz;rfl
 .exact tB _ _
 .obtain⟨i,rfl,hi⟩:=nH.1 hn;rw[dU];exact hi
def cu.full (c:cu):cu:=⟨c.pre,⟨c.post.vs,c.pre.bs⟩,λx=>obind (c.m x) λy=>af (S_ (PV.tyL c.post.vs) (PB.tyL c.pre.bs) (NJ _ _ y) (Ku _ _ x))⟩
def aI (P:Program) (f:FuncId) (c:cu):Prop:=if eB c.pre.bs.length c.post.bs.length=ai then pB P f c else pB P f c.full
theorem pB.toC {P:Program} {f:FuncId} {c:cu} (h:pB P f c) (hb:eB c.pre.bs.length c.post.bs.length=ai):aI P f c:=by
 unfold aI;rw[aF hb];exact h
theorem aI.holds {P:Program} {f:FuncId} {c:cu} (h:aI P f c) (hb:eB c.pre.bs.length c.post.bs.length=ai):pB P f c:=by
 unfold aI at h;rw[aF hb] at h;exact h
theorem ac1 (a b:Ty) (z:(spr a b).den):S_ a b (NJ a b z) (Ku a b z)=z:=by cases a<;>cases b<;>rfl
open Classical in
def roM {pre:Tm} {vs:List PV} (m:pre.ty.den->Option (Tm.ty ⟨vs,pre.bs⟩).den) (x:pre.ty.den):Option (Tm.ty ⟨vs,[]⟩).den:=
 obind (m x) λy=>if Ku (PV.tyL vs) (PB.tyL pre.bs) y=Ku _ _ x then af (S_ (PV.tyL vs) (PB.tyL []) (NJ (PV.tyL vs) (PB.tyL pre.bs) y) ()) else ah
theorem aI.ro {P:Program} {f:FuncId} {pre:Tm} {vs:List PV} {m:pre.ty.den->Option (Tm.ty ⟨vs,pre.bs⟩).den} {m':pre.ty.den->Option (Tm.ty ⟨vs,[]⟩).den} (h:pB P f ⟨pre,⟨vs,pre.bs⟩,m⟩) (hb:eB pre.bs.length 0=aj) (hs:∀ x y,m' x=af y->roM m x=af y):aI P f ⟨pre,⟨vs,[]⟩,m'⟩:=by
 unfold aI;rw[aC (by show ¬eB pre.bs.length 0=ai;rw[hb];exact Bool.false_ne_true)];refine ⟨h.callable,λx y hxy=>?_⟩;refine h.calls x y ?_;have hxy:obind (m' x) (λy=>af (S_ (PV.tyL vs) (PB.tyL pre.bs) (NJ (PV.tyL vs) (PB.tyL []) y) (Ku _ _ x)))=af y:=hxy;obtain⟨z,M,hzy⟩:=dD hxy;have h1:=hs x z M;unfold roM at h1;obtain⟨y0,J,h2⟩:=dD h1;split at h2
 .rename_i heq;have h2:=jP h2;have hzy:=jP hzy;subst h2;have I:S_ (PV.tyL vs) (PB.tyL pre.bs) (NJ (PV.tyL vs) (PB.tyL pre.bs) y0) (Ku (PV.tyL pre.vs) (PB.tyL pre.bs) x)=y:=(gE (λq=>S_ (PV.tyL vs) (PB.tyL pre.bs) q (Ku (PV.tyL pre.vs) (PB.tyL pre.bs) x)) (sY (PV.tyL vs) (PB.tyL []) _ ()).symm).trans hzy;rw[<- heq] at I;have:=(ac1 (PV.tyL vs) (PB.tyL pre.bs) y0).symm.trans I;exact J.trans (gE af this)
 .cases h2
theorem jb.drop {P:Program} {o:Oper} {e:iK} {h h':bf} {nx nx':Nat} {v:TV} {rd wr W wr':Nat} (t:jb P o aj e h nx v rd wr h' nx') (hW:∀ i,aN W i=ai->bz h' (nm i)=bz h (nm i)/\aN rd i=ai) (M:∀ i,aN wr i=ai->aN W i=ai\/aN wr' i=ai):jb P o aj e h nx v rd wr' h' nx':=by
 obtain⟨⟨f,h1,h2,J,h4,h5,Z⟩,r,i,g,st⟩:=t;have hs:∀ n,aN W (ow n)=ai->bz h' n=bz h n:=λn hn=>by
  by_cases I:∃ i,n=nm i
  .obtain⟨i,rfl⟩:=I;rw[dU] at hn;exact (hW i hn).1
  .rw[v8 h I,v8 h' I]
 have hup:∀ H:HF,(∀ n∈f.wr,H n=bz h n)->eL H (f.wr.filter λn=> !(aN W (ow n))) f.nw=eL H f.wr f.nw:=λH Y=>by
  funext n;unfold eL;by_cases hn:n∈f.wr
  .by_cases hb:aN W (ow n)=ai
   .rw[aC (by simp[hb]),aF hn];have:=congrFun J n;unfold eL at this;rw[aF hn,hs n hb] at this;rw[this,Y n hn]
   .rw[aF (by simp[hn,hb]),aF hn]
  .rw[aC (by simp[hn]),aC hn]
 refine ⟨⟨⟨f.val,f.rd++(f.wr.filter λn=>aN W (ow n)),f.wr.filter λn=> !(aN W (ow n)),f.nw,f.N⟩,?_,h2,?_,λn hn=>?_,λn hn=>?_,Z⟩,r,i,g,λhs=>by cases hs⟩
 .intro φ E H w a hrd hwr hops hrep U;have k1:∀ i∈f.rd,H i=bz h i:=λi hi=>hrd i (kW _ hi)
  have k2:∀ i∈f.wr,H i=bz h i:=λi hi=>by
   cases hb:aN W (ow i) with
   |true=>exact hrd i (nj _ (by simp[hi,hb]))
   |false=>exact hwr i (by simp[hi,hb])
  have:=h1 φ E H w a k1 k2 hops hrep U;simp only[hup H k2];exact this
 .simp only[hup (bz h) (λ_ _=>rfl)];exact J
 .rcases bW.1 hn with hn|hn
  .exact h4 n hn
  .simp only[ES] at hn;exact (hW _ hn.2).2
 .simp only[ES,ec] at hn;rcases M _ (h5 n hn.1) with hh|hh
  .rw[hn.2] at hh;cases hh
  .exact hh
mutual
theorem Za {n n':Nat} (hle:n<=n'):∀ (v:TV),KF n v=ai->KF n' v=ai
 |.row id,h=>by simp only[KF,Nat.blt_eq] at h ⊢;omega
 |.rtl id _,h=>by simp only[KF,Nat.blt_eq] at h ⊢;omega
 |.pel id _ _ _,h=>by simp only[KF,Nat.blt_eq] at h ⊢;omega
 |.ptr id _,h=>by simp only[KF,Nat.blt_eq] at h ⊢;omega
 |.csl id _ _,h=>by simp only[KF,Nat.blt_eq] at h ⊢;omega
 |.mp id,h=>by simp only[KF,Nat.blt_eq] at h ⊢;omega
 |.agg l,h=>vU hle l h
 |.tup l,h=>vU hle l h
 |.clo _ l,h=>vU hle l h
 |.f _ _,_=>rfl
 |.fel _ _ _ _ _,_=>rfl
 |.emp,_=>rfl
 |.nil,_=>rfl
 |.undef,_=>rfl
 |.np,_=>rfl
 |.anyb,_=>rfl
theorem vU {n n':Nat} (hle:n<=n'):∀ (l:List TV),rf n l=ai->rf n' l=ai
 |[],_=>rfl
 |x::r,h=>by
  simp only[rf,av] at h ⊢;exact⟨Za hle x h.1,vU hle r h.2⟩
end
theorem L5 {g g':Nat->Nat} {h:bf}:∀ (bs:List PB) (i:Nat) (x:(PB.tyL bs).den) (m:Nat),Hk bs=ai->Am g h i bs=af (x,m)->∃ l,oo g' bs x=af l/\l.length=bs.length/\∀ j,j<bs.length->∃ ty p T xs,l[j]? =af (af (.rows ty p T xs))/\h.get (g (i+j))=af (.rows ty p T xs)
 |[],i,x,m,_,hg=>⟨[],rfl,rfl,λj hj=>by simp at hj⟩
 |.rows ty p T::r,i,x,m,I,hg=>by
  simp only[Am] at hg;split at hg
  .rename_i M m1 h1;split at hg
   .rename_i J m2 h2;simp only[ak,aD] at hg;obtain⟨rfl,rfl⟩:=hg;obtain⟨l,q1,Z,q3⟩:=L5 (g:=g) (g':=g') (h:=h) r (i+1) J m2 I h2;simp only[Eb] at h1;split at h1
    .rename_i ty' p' S xs hb;split at h1
     .rename_i hc;simp only[av,cR] at hc;obtain⟨rfl,rfl⟩:=hc;split at h1
      .rename_i z hz;simp only[ak] at h1;obtain⟨rfl,_⟩:=h1;obtain⟨es,ez⟩:=ja hz;cases es;subst ez;refine ⟨af (.rows ty p T M)::l,?_,by simp[Z],λj hj=>?_⟩
       .simp only[oo];rw[sY,uE,q1];rfl
       .cases j with
        |zero=>exact⟨ty,p,T,_,rfl,hb⟩
        |succ j=>
         obtain⟨a,b,c,d,Y,U⟩:=q3 j (by simpa using hj);exact⟨a,b,c,d,by simpa using Y,by rw[show i+(j+1)=i+1+j from by omega];exact U⟩
      .cases h1
     .cases h1
    .cases h1
   .cases hg
  .cases hg
 |.rowsP _ _::r,i,x,m,I,hg=>by cases I
 |.cells _ _::r,i,x,m,I,hg=>by cases I
 |.mp _ _::r,i,x,m,I,hg=>by cases I
 |.gone::r,i,x,m,I,hg=>by cases I
theorem E6:∀ {bs:List PB},Hk bs=ai->Bd bs=ai
 |[],_=>rfl
 |.rows _ _ _::r,h=>E6 (bs:=r) h
 |.rowsP _ _::r,h=>by cases h
 |.cells _ _::r,h=>by cases h
 |.mp _ _::r,h=>by cases h
 |.gone::r,h=>by cases h
theorem EZ {h h2:bf} {g:Nat->Nat}:∀ (n:Nat),(∀ i,i<n->h2.get (g i)=h.get (g i))->tC h h2 g n=ai
 |0,_=>rfl
 |n+1,hs=>by
  simp only[tC,av];refine ⟨?_,EZ n λi hi=>hs i (by omega)⟩;have:eh h2 (g n)=eh h (g n):=by rw[bS,bS,hs n (by omega)]
  rw[this];cases eh h (g n) with
  |none=>rfl
  |some q=>obtain⟨p,s,k⟩:=q;simp
def Kj (P:Program) (con:FuncId->Option cu):Prop:=∀ f c,con f=af c->aI P f c
theorem Wb {R:Type} {P:Program} {con:FuncId->Option cu} (hcon:Kj P con) {o:Oper} {e:iK} {h:bf} {nx:Nat} {f:FuncId} {l:List TV} {K:KO R} {r:R} (hinv:lZ h nx) (hk:Wc con f l h nx K=af r) {la:List AV} (hla:cH h l=af la)
 (hexec:∀ (φ:PM) (E:Nat->Prop) (h':HF) (w:World) (a:Act),Dq P f->(∀ t,.tmp t∈o.op.operands->∀ y,fO e h t=af y->cI φ (tot E φ h') w y (a.tmps.getD t undef))->qL φ E h' w->∃ us:List Value,(execOp a.eval o).run P w= .ok (.enter f us.toArray) w/\jT φ (tot E φ h') w la us):kH P o aj e h nx K r:=by
 unfold Wc at hk;split at hk
 .rename_i c hc;have spc:=hcon f c hc;split at hk
  .rename_i x m σ sm hM;split at hk
   .rename_i q hq;obtain⟨vs,hp⟩:=q;obtain⟨l1,I⟩:=vX hq;obtain⟨y,hy,hk⟩:=dD hk;split at hk
    .rename_i q2 hq2;obtain⟨rs1,Z⟩:=q2;obtain⟨l2,J⟩:=vX hq2;split at hk
     .rename_i hcond;simp only[av] at hcond;have hle:=a8 hcond.1;have sp:=spc.holds hcond.1;simp only at hk;split at hk
      .rename_i rs hrs;have hrs':=hrs;rw[s8,J.pv] at hrs';simp only[b_,ak] at hrs';split at hk
       .rename_i hb;simp only[av] at hb;have hq0:=aw hb.1.2;refine ⟨_,_,_,_,_,hk,?_⟩;rw[<- hrs'];exact ad2 hinv sp (vR hM) I hy J (by omega) hq0 hb.2 _ hla λφ E h' w a=>hexec φ E h' w a sp.callable
       .split at hk
        .rename_i h2 U;obtain⟨hsr,hk⟩:=dR hk;refine ⟨_,_,_,_,_,hk,?_⟩;rw[<- hrs'];unfold LO at U;rw[vJ,J.pb] at U;simp only[b_,ak] at U;exact Z0 hinv sp (vR hM) I hcond.2 hy J hle (λi hi=>by
          have:gd i c.pre.bs.length=ai:=bB hi;simp only[this,bC]) (λi hi=>by
          have:gd i c.pre.bs.length=aj:=by
           cases hb:gd i c.pre.bs.length with
           |false=>rfl
           |true=>have:=a8 hb;omega
          simp only[this];rfl) U.symm hsr hla λφ E h' w a=>hexec φ E h' w a sp.callable
        .cases hk
      .cases hk
     .rename_i hcond;split at hk
      .rename_i hro;simp only[av] at hro;have hq0:=aw hro.1;have hng:=E6 hro.2;have sp:pB P f c.full:=by
        unfold aI at spc
        rwa [aC (λhb=>hcond (by rw[hb,hng];rfl))] at spc
       simp only at hk;split at hk
       .rename_i rs hrs;split at hk
        .rename_i h2 U;have hrs':=hrs;rw[s8,J.pv] at hrs';simp only[b_,ak] at hrs';refine ⟨_,_,_,_,_,hk,?_⟩;rw[<- hrs'];have M:=vR hM;unfold LO at U;rw[vJ,I.pb] at U;simp only[b_,ak] at U;have hqe:∀ i,Z.get i=ah:=λi=>by
          cases hb:Z.get i with
          |none=>rfl
          |some b=>have:=J.lt_len hb;omega
         have J':qx c.full.post (S_ (PV.tyL c.post.vs) (PB.tyL c.pre.bs) (NJ _ _ y) (Ku _ _ x)) rs1 hp l1:=
          ⟨by show pK G_ c.post.vs (NJ (PV.tyL c.post.vs) (PB.tyL c.pre.bs) _)=_;rw[sY];exact J.pv,by show oo G_ c.pre.bs (Ku (PV.tyL c.post.vs) (PB.tyL c.pre.bs) _)=_;rw[uE];exact I.pb,I.len,I.at_,iQ (λi r hr=>by rw[bS,hqe] at hr;cases hr) _ J.ok,vU (by omega) _ J.lt,I.cells⟩
         obtain⟨x1,m1,x2,m2,hx,hmm,gv,gb⟩:=M.ex;obtain⟨l,q1,q2,q3⟩:=L5 (g':=G_) c.pre.bs 0 x2 m2 hro.2 gb;have hl1:l1=l:=by
          have:=I.pb;rw[hx,uE,q1] at this;cases this;rfl
         subst hl1;have hgi:∀ i,i<c.pre.bs.length->(if gd i c.pre.bs.length then hZ σ i else nx+(i-c.pre.bs.length))=hZ σ i:=λi hi=>by
          have:gd i c.pre.bs.length=ai:=bB hi;simp only[this,bC]
         have hsame:∀ i,i<c.pre.bs.length->h2.get (hZ σ i)=h.get (hZ σ i):=λi hi=>by
          obtain⟨ty,p,T,xs,w1,Y⟩:=q3 i hi;rw[bN] at Y;have:=uI (λi=>if gd i c.pre.bs.length then hZ σ i else nx+(i-c.pre.bs.length)) (l1.map (lD (lH (λi=>if gd i c.pre.bs.length then hZ σ i else nx+(i-c.pre.bs.length))))) 0 (em m h) (λa b ha hb e=>by
           simp only[bY,q2] at ha hb;rw[bN,bN,hgi a ha,hgi b hb] at e;exact M.inj a b ha hb e) i (af (.rows ty p T xs)) (by rw[ba,w1];rfl)
          rw[bN,hgi i hi] at this;rw[<- U,this,Y]
         have t:=Z0 (o:=o) (e:=e) hinv sp M I hng (y:=S_ (PV.tyL c.post.vs) (PB.tyL c.pre.bs) (NJ _ _ y) (Ku _ _ x)) (by show obind (c.m x) _=_;rw[hy];rfl) J' (bV _) (g:=λi=>if gd i c.pre.bs.length then hZ σ i else nx+(i-c.pre.bs.length)) hgi (λi hi=>by
          have:gd i c.pre.bs.length=aj:=by
           cases hb:gd i c.pre.bs.length with
           |false=>rfl
           |true=>have:=a8 hb;have hi:c.pre.bs.length<=i:=hi;omega
          simp only[this];rfl) U.symm (EZ _ λi hi=>by rw[hgi i hi];exact hsame i hi) hla λφ E h' w a=>hexec φ E h' w a sp.callable
         have t':jb P o aj e h nx (Pe (kq (λi=>if gd i c.pre.bs.length then hZ σ i else nx+(i-c.pre.bs.length)) rs1)) (sm|||m) (sm|||m|||(((1<<<(c.pre.bs.length-c.pre.bs.length))-1)<<<nx)) h2 (nx+(c.pre.bs.length-c.pre.bs.length)):=t;rw[GY,dg] at t';refine t'.drop (W:=sm) (λi hi=>?_) (λi hi=>?_)
         .refine ⟨?_,by rw[bn,hi];rfl⟩;obtain⟨k,hk,rfl⟩:=(M.sig i).1 hi;obtain⟨ty,p,T,xs,_,Y⟩:=q3 k hk;rw[bN] at Y;rw[bI,bI,hsame k hk,Y];rfl
         .simp only[Nat.shiftLeft_zero,GY,Nat.zero_shiftLeft,Nat.or_zero,bn,iP] at hi;exact hi
        .cases hk
       .cases hk
      .cases hk
    .cases hk
   .cases hk
  .cases hk
 .cases hk
theorem afp {R:Type} {P:Program} {con:FuncId->Option cu} (hcon:Kj P con) {b9:TypeId->Option Ty} {o:Oper} {e:iK} {h:bf} {nx:Nat} {i:SI} {K:KO R} {r:R} (hinv:lZ h nx) (hi:s6 e h) (hc:xV P o.op=i) (hk:dO con b9 i e h nx K=af r):kH P o i.still e h nx K r:=by
 have callOps:∀ (c:Call),o.op= .call c->∀ x,x∈c.operands->x∈o.op.operands:=λc I x J=>by rw[I];exact J
 cases i with
 |call f args=>
  simp only[dO] at hk;split at hk
  .rename_i l hl;have I:∃ c:Call,o.op= .call c/\c.callee= .value (.func f)/\c.args.toList=args:=by
    unfold xV at hc;split at hc
    .rename_i i hi;subst hc;unfold Oo at hi;split at hi
     .rename_i c I;split at hi
      .rename_i g hg;simp only[ak,SI.call.injEq] at hi;exact⟨c,I,by rw[hg,hi.1],hi.2⟩
      .simp at hi
      .cases hi
     .cases hi
    .split at hc<;>cases hc
   obtain⟨c,I,h1,h2⟩:=I;obtain⟨la,Z,Y⟩:=yo hi hl;refine Wb hcon hinv hk Y λφ E h' w a hcb hops hrep=>?_
   have hp:UV φ E h' w a (IV e h) o:=λx y J U=>sZ hrep (by rw[uQ];exact hops) J U
   refine ⟨args.map a.eval,?_,NS hp args la (λx J=>callOps c I x (by simp[eK,h1,<-h2] at J ⊢;exact .inr J)) Z⟩;unfold execOp;rw[I];have hm:c.args.map a.eval=(args.map a.eval).toArray:=by rw[<- h2];apply Kn;simp
   simp[resolve,h1,Act.eval,Deferred.ofValue,invoke,hm,wO hcb]
  .cases hk
 |callv x args=>
  simp only[dO] at hk;split at hk
  .rename_i f cap l J hl;have I:∃ c:Call,o.op= .call c/\c.callee= .value x/\c.args.toList=args:=by
    unfold xV at hc;split at hc
    .rename_i i hi;subst hc;unfold Oo at hi;split at hi
     .rename_i c I;split at hi
      .simp at hi
      .rename_i g hg;simp only[ak,SI.callv.injEq] at hi;exact⟨c,I,by rw[hg,hi.1],hi.2⟩
      .cases hi
     .cases hi
    .split at hc<;>cases hc
   obtain⟨c,I,h1,h2⟩:=I;obtain⟨la,Z,Y⟩:=yo hi hl;obtain⟨yx,g3,M⟩:=bM hi J;simp only[cj] at M;split at M
   .rename_i lc hlc;simp only[ak] at M;subst M;refine Wb hcon hinv hk (mW Y hlc) λφ E h' w a hcb hops hrep=>?_
    have hp:UV φ E h' w a (IV e h) o:=λx y J U=>sZ hrep (by rw[uQ];exact hops) J U
    have hxv:=hp x _ (callOps c I x (by simp[eK,h1])) g3;have hlv:=NS hp args la (λx J=>callOps c I x (by simp[eK,h1,<-h2] at J ⊢;exact .inr J)) Z;generalize hz:a.eval x=z at hxv;cases hxv with
    |@clo _ _ vs hvl hvr=>
     refine ⟨args.map a.eval++vs,?_,hlv.append (jT.of hvl hvr)⟩;unfold execOp;rw[I];have hm:c.args.map a.eval=(args.map a.eval).toArray:=by rw[<- h2];apply Kn;simp
     simp[resolve,h1,hz,Deferred.ofValue,invoke,hm,wO hcb]
   .cases M
  .cases hk
 |op s=>
  have hc:s= .bad\/c_ P o.op=af s:=by
   unfold xV at hc;split at hc
   .rename_i i hi;subst hc;unfold Oo at hi;split at hi
    .split at hi<;>simp at hi
    .cases hi
   .split at hc
    .rename_i q hq;simp only[SI.op.injEq] at hc;subst hc;exact .inr hq
    .simp only[SI.op.injEq] at hc;exact .inl hc.symm
  rcases hc with rfl|hc
  .simp[dO] at hk
  .exact K_op hinv hi hc hk
def gj (am:Nat) (e e':iK):Prop:=∀ k,aN am k=aj->∀ I,e'.get k=af I->∃ v,e.get k=af v/\(tW v=ai->I=v)
theorem gj.refl (am:Nat) (e:iK):gj am e e:=λ_ _ I h=>⟨I,h,λ_=>rfl⟩
theorem gj.trans {am:Nat} {a b c:iK} (h1:gj am a b) (h2:gj am b c):gj am a c:=λk hk J hv=>by
 obtain⟨I,Z,Y⟩:=h2 k hk J hv;obtain⟨v,U,M⟩:=h1 k hk I Z;refine ⟨v,U,λhf=>?_⟩;have:=M hf;subst this;exact Y hf
theorem gj.mono {am am':Nat} {a b:iK} (h:gj am a b) (hm:∀ k,aN am k=ai->aN am' k=ai):gj am' a b:=λk hk=>h k (by
 cases I:aN am k with
 |false=>rfl
 |true=>rw[hm k I] at hk;cases hk)
structure aa8 (P:Program) (ops:Array Oper) (rest:List Oper) (sl:List r_) (am:Nat) (s s':TS) (fs:List FPm) (l:List (Oper×AL)):Prop where
 ops_:l.map (·.1)=rest
 chain:zq P ops l (fO s.e s.h) (bz s.h) (fO s'.e s'.h) (bz s'.h)
 fsl:fs.length=l.length
 sll:sl.length=l.length
 fp:∀ (j:Nat) o f q,l[j]? =af (o,f)->fs[j]? =af q->(∀ n∈f.rd,aN q.rd (ow n)=ai)/\∀ n∈f.wr,aN q.wr (ow n)=ai
 still:∀ (j:Nat) o f so,l[j]? =af (o,f)->sl[j]? =af so->so.op.still=ai->f.rd=[]/\f.wr=[]
 names:∀ (j:Nat) o f,l[j]? =af (o,f)->∀ n∈f.N,s.nx<=ow n/\ow n<s'.nx
 apart_:∀ (i j:Nat) oi fi oj fj,i<j->l[i]? =af (oi,fi)->l[j]? =af (oj,fj)->∀ n∈fi.N,n∉fj.N
 grows:s.nx<=s'.nx
 invH:lZ s'.h s'.nx
 invE:s6 s'.e s'.h
 keeps:gj am s.e s'.e
theorem abn {e:iK} {h h':bf} (hi:s6 e h) (hr:ci h h') (d:Option Nat) {v:TV} {y:AV} (hv:cj h' v=af y):B5 (fO e h) d y=fO (DE e d v) h':=by
 funext t;have old:(e.get t).bind (cj h)=(e.get t).bind (cj h'):=by
  cases ht:e.get t with
  |none=>rfl
  |some x=>
   obtain⟨z,I⟩:=pN h x (hi t x ht);simp only[aH,I,gw hr x z I]
 cases d with
 |none=>simp only[B5,DE,fO];rw[aC (by simp)];exact old
 |some d=>
  simp only[B5,DE,fO,PT.get_set,ak];by_cases hd:d=t
  .subst hd;simp[hv]
  .rw[aC hd,aC (λe=>hd e.symm)];exact old
theorem s6.put {e:iK} {h h':bf} (hi:s6 e h) (hr:ci h h') (d:Option Nat) {v:TV} (hv:KC h' v=ai):s6 (DE e d v) h':=λt x I=>by
 cases d with
 |none=>exact oq hr x (hi t x I)
 |some d=>
  simp only[DE,PT.get_set] at I;split at I
  .cases I;exact hv
  .exact oq hr x (hi t x I)
theorem Qv {e:iK} {h:bf} {t:Nat} {v:TV} (ht:e.get t=af v):fO (e.set t (af v)) h=fO e h:=by
 funext k;simp only[fO,PT.get_set];by_cases hk:k=t
 .subst hk;simp[ht]
 .rw[aC hk]
theorem s6.set {e:iK} {h:bf} {t:Nat} {v:TV} (hi:s6 e h) (ht:e.get t=af v):s6 (e.set t (af v)) h:=λk x I=>by
 rw[PT.get_set] at I;split at I
 .rename_i hk;subst hk;cases I;exact hi _ _ ht
 .exact hi k x I
theorem Sp {R:Type} {e:iK} {g:Option (Nat×Bool)} {K:Bool->iK->Option R} {r:R} (h:Yx e g K=af r):
 (g=ah/\K ai e=af r)\/(∃ t want b,g=af (t,want)/\e.get t=af (.f .bool b)/\K (b==want) (e.set t (af (.f .bool b)))=af r)\/∃ t want,g=af (t,want)/\e.get t=af .undef/\K aj e=af r:=by
 unfold Yx at h;split at h
 .exact .inl ⟨rfl,h⟩
 .rename_i t want;split at h
  .rename_i b hb;refine .inr (.inl ⟨t,want,b,rfl,hb,?_⟩);cases want with
   |true=>rcases ph h with ⟨rfl,h⟩|⟨rfl,h⟩<;>exact h
   |false=>rcases ph h with ⟨rfl,h⟩|⟨rfl,h⟩<;>exact h
  .rename_i hb;exact .inr (.inr ⟨t,want,rfl,hb,h⟩)
  .cases h
theorem HN {R:Type} {P:Program} {con:FuncId->Option cu} (hcon:Kj P con) {b9:TypeId->Option Ty} {ops:Array Oper} {am:Nat} (ham:∀ (j:Nat) (o:Oper) (d:Nat),ops[j]? =af o->o.dst=af d->aN am d=ai):
 ∀ (rest:List Oper) (sl:List r_) (s:TS) (fs:List FPm) (K:TS->List FPm->Option R) (r:R),(∀ o∈rest,∃ j:Nat,ops[j]? =af o)->rK P ops rest=af sl->Kz con b9 sl s fs K=af r->lZ s.h s.nx->s6 s.e s.h->∃ s' fs' l,K s' (fs.reverse++fs')=af r/\aa8 P ops rest sl am s s' fs' l
 |[],sl,s,fs,K,r,hin,hc,hk,hH,M=>by
  simp only[rK,ak] at hc;subst hc;simp only[Kz] at hk;exact⟨s,[],[],by simpa using hk,rfl,.nil _ _,rfl,rfl,by simp,by simp,by simp,by simp,bV _,hH,M,gj.refl _ _⟩
 |o::rest,sl,s,fs,K,r,hin,hc,hk,hH,M=>by
  simp only[rK] at hc;split at hc
  .rename_i sl' hsl';have hso:∃ g,sl=⟨o.dst,xV P o.op,g⟩::sl'/\((g=ah/\o.guard=ah)\/∃ j want t,g=af (t,want)/\o.guard=af (j,want)/\(ops[j]?).bind (·.dst)=af t):=by
    split at hc
    .rename_i hg;simp only[ak] at hc;exact⟨ah,hc.symm,.inl ⟨rfl,hg⟩⟩
    .rename_i j want hg;split at hc
     .rename_i t ht;simp only[ak] at hc;exact⟨af (t,want),hc.symm,.inr ⟨j,want,t,rfl,hg,ht⟩⟩
     .cases hc
   obtain⟨g,rfl,hg⟩:=hso;simp only[Kz] at hk;have hdst:∀ d,o.dst=af d->aN am d=ai:=λd hd=>by
    obtain⟨j,hj⟩:=hin o (dv ..);exact ham j o d hj hd
   have hgs:∀ t want,g=af (t,want)->aN am t=ai:=λt want hgt=>by
    rcases hg with ⟨h1,_⟩|⟨j,want',t',h1,_,I⟩
    .rw[h1] at hgt;cases hgt
    .rw[h1] at hgt;cases hgt;cases hj:ops[j]? with
     |none=>rw[hj] at I;cases I
     |some oj=>rw[hj] at I;exact ham j oj t hj I
   have kput:∀ (e:iK) (v:TV),gj am s.e e->gj am s.e (DE e o.dst v):=λe v hke k hk v' hv=>by
    cases hd:o.dst with
    |none=>rw[hd] at hv;exact hke k hk v' hv
    |some d=>
     rw[hd] at hv;simp only[DE,PT.get_set] at hv;split at hv
     .rename_i e2;rw[e2,hdst d hd] at hk;cases hk
     .exact hke k hk v' hv
   have done:∀ (f:AL) (v:TV) (h':bf) (nx' rd wr:Nat) (e:iK),fO e s.h=fO s.e s.h->s6 e s.h->gj am s.e e->J5 P ops o f (fO s.e s.h) (bz s.h)->(∃ y,cj h' v=af y/\f.val=y)->eL (bz s.h) f.wr f.nw=bz h'->(∀ n∈f.rd,aN rd (ow n)=ai)->(∀ n∈f.wr,aN wr (ow n)=ai)->(∀ n∈f.N,s.nx<=ow n/\ow n<nx')->ci s.h h'->lZ h' nx'->s.nx<=nx'->((xV P o.op).still=ai->f.rd=[]/\f.wr=[])->
    Kz con b9 sl' ⟨DE e o.dst v,h',nx'⟩ (⟨rd,wr⟩::fs) K=af r->∃ s' fs' l,K s' (fs.reverse++fs')=af r/\aa8 P ops (o::rest) (⟨o.dst,xV P o.op,g⟩::sl') am s s' fs' l:=by
    intro f v h' nx' rd wr e hee hiE hke hst hval hheap hrd hwr hN hrows hinv' hgr hstill hrun;obtain⟨y,U,hy2⟩:=hval;obtain⟨s',fs',l,J,L⟩:=HN hcon ham rest sl' _ _ K r (λo' ho'=>hin o' (cL _ ho')) hsl' hrun hinv' (hiE.put hrows o.dst (Eg _ _ _ U));have hg2:nx'<=s'.nx:=L.grows;refine ⟨s',⟨rd,wr⟩::fs',(o,f)::l,by simpa using J,by simp[L.ops_],.cons hst ?_,by simp[L.fsl],by simp[L.sll],?_,?_,?_,?_,dc hgr hg2,L.invH,L.invE,(kput e v hke).trans L.keeps⟩
    .have e1:B5 (fO s.e s.h) o.dst f.val=fO (DE e o.dst v) h':=by rw[<- hee,hy2];exact abn hiE hrows o.dst U
     rw[e1,hheap];exact L.chain
    .intro j o' f' q' h1 h2;cases j with
     |zero=>simp at h1 h2;obtain⟨rfl,rfl⟩:=h1;subst h2;exact⟨hrd,hwr⟩
     |succ j=>exact L.fp j o' f' q' (by simpa using h1) (by simpa using h2)
    .intro j o' f' so h1 h2 I;cases j with
     |zero=>simp at h1 h2;obtain⟨rfl,rfl⟩:=h1;subst h2;exact hstill I
     |succ j=>exact L.still j o' f' so (by simpa using h1) (by simpa using h2) I
    .intro j o' f' h1 n hn;cases j with
     |zero=>
      simp at h1;obtain⟨rfl,rfl⟩:=h1;have:=hN n hn;exact⟨this.1,by omega⟩
     |succ j=>
      have:=L.names j o' f' (by simpa using h1) n hn;exact⟨dc hgr this.1,this.2⟩
    .intro i j oi fi oj fj hij h1 h2 n hn Y;cases j with
     |zero=>omega
     |succ j=>
      have hj:=L.names j oj fj (by simpa using h2) n Y;cases i with
      |zero=>
       simp at h1;obtain⟨rfl,rfl⟩:=h1;have I:=(hN n hn).2;have Z:nx'<=ow n:=hj.1;omega
      |succ i=>exact L.apart_ i j oi fi oj fj (by omega) (by simpa using h1) (by simpa using h2) n hn Y
   have runs:∀ (e:iK),fO e s.h=fO s.e s.h->s6 e s.h->gj am s.e e->(∀ f,gG P o (fO s.e s.h) (bz s.h) f->J5 P ops o f (fO s.e s.h) (bz s.h))->dO con b9 (xV P o.op) e s.h s.nx (λv rd wr h nx=>if KC h v then Kz con b9 sl' ⟨DE e o.dst v,h,nx⟩ (⟨rd,wr⟩::fs) K else ah)=af r->∃ s' fs' l,K s' (fs.reverse++fs')=af r/\aa8 P ops (o::rest) (⟨o.dst,xV P o.op,g⟩::sl') am s s' fs' l:=by
    intro e hee hiE hke hstep hk;obtain⟨v,rd,wr,h',nx',J,T⟩:=afp hcon hH hiE rfl hk;simp only[] at J;split at J
    .rename_i hok;obtain⟨f,t1,t2,t3,t4,t5,t6⟩:=T.ex;rw[hee] at t1;obtain⟨y,hy⟩:=pN h' v hok;refine done f v h' nx' rd wr e hee hiE hke (hstep f t1) ⟨y,hy,t2 y hy⟩ t3 t4 t5 t6 T.rows T.inv T.grows (λhs=>?_) J;obtain⟨r0,w0⟩:=T.st hs;subst r0;subst w0;constructor
     .cases hl:f.rd with
      |nil=>rfl
      |cons n q=>have:=t4 n (by rw[hl];simp);simp at this
     .cases hl:f.wr with
      |nil=>rfl
      |cons n q=>have:=t5 n (by rw[hl];simp);simp at this
    .cases J
   have skips:∀ (e:iK),fO e s.h=fO s.e s.h->s6 e s.h->gj am s.e e->J5 P ops o rC (fO s.e s.h) (bz s.h)->Kz con b9 sl' ⟨DE e o.dst .undef,s.h,s.nx⟩ (⟨0,0⟩::fs) K=af r->∃ s' fs' l,K s' (fs.reverse++fs')=af r/\aa8 P ops (o::rest) (⟨o.dst,xV P o.op,g⟩::sl') am s s' fs' l:=by
    intro e hee hiE hke hstep hk;exact done rC .undef s.h s.nx 0 0 e hee hiE hke hstep ⟨_,rfl,rfl⟩ (by funext i;simp[eL,rC]) (by simp[rC]) (by simp[rC]) (by simp[rC]) (ci.refl _) hH (bV _) (λ_=>⟨rfl,rfl⟩) hk
   rcases Sp hk with ⟨h1,hk⟩|⟨t,want,b,h1,hb,hk⟩|⟨t,want,h1,hb,hk⟩
   .refine runs s.e rfl M (gj.refl _ _) (λf hf=>?_) hk;rcases hg with ⟨_,hg⟩|⟨j,want,t,h2,_,_⟩
    .exact .run hg hf
    .rw[h1] at h2;cases h2
   .rcases hg with ⟨h2,_⟩|⟨j,want',t',h2,I,Z⟩
    .rw[h1] at h2;cases h2
    .rw[h1] at h2;cases h2;have hgt:=hgs t want h1;have heb:fO s.e s.h t=af (.f (.raw (.bool b))):=by simp only[fO,hb,aH,cj];rfl
     have hke:gj am s.e (s.e.set t (af (.f .bool b))):=λk hk v' hv=>by
      rw[PT.get_set] at hv;split at hv
      .rename_i ek;rw[ek,hgt] at hk;cases hk
      .exact⟨v',hv,λ_=>rfl⟩
     cases hbw:(b==want) with
     |true=>
      rw[hbw] at hk;have:b=want:=by simpa using hbw
      subst this;exact runs _ (Qv hb) (M.set hb) hke (λf hf=>.runG j t b I Z heb hf) hk
     |false=>
      rw[hbw] at hk;refine skips _ (Qv hb) (M.set hb) hke (.skip j t want I Z (.bool b) heb ?_ rfl) hk;intro hv;cases hv;simp at hbw
   .rcases hg with ⟨h2,_⟩|⟨j,want',t',h2,I,Z⟩
    .rw[h1] at h2;cases h2
    .rw[h1] at h2;cases h2;exact skips _ rfl M (gj.refl _ _) (.skip j t want I Z undef (by simp only[fO,hb,aH,cj]) (by unfold undef;simp) rfl) hk
  .cases hc
theorem abx {P:Program} {ops:Array Oper} {sl:List r_} {am:Nat} {s s':TS} {fs:List FPm} {l:List (Oper×AL)} {prs:List (Nat×Nat)} (hl:aa8 P ops ops.toList sl am s s' fs l) (hp:LP ops sl=af prs) (hok:E3 fs prs=ai):NIP ops l:=by
 unfold LP at hp;simp only[] at hp;split at hp
 .rename_i hall;simp only[gi,m6,av] at hall;simp only[ak] at hp;have hop:∀ (j:Nat) o f,l[j]? =af (o,f)->ops[j]? =af o:=λj o f hj=>by
   have h1:(l.map (·.1))[j]? =af o:=by rw[ba,hj];rfl
   rw[hl.ops_] at h1;simpa using h1
  have hsize:∀ (j:Nat) o,ops[j]? =af o->j<ops.size:=λj o h=>(cC.1 h).1
  have hprs:∀ i j,(i,j)∈prs->∃ a b,fs[i]? =af a/\fs[j]? =af b/\C7 a.wr b.rd=ai/\C7 a.wr b.wr=ai/\C7 b.wr a.rd=ai:=by
   clear hp hall;induction prs with
   |nil=>intro i j h;cases h
   |cons p prs ih=>
    obtain⟨i0,j0⟩:=p;simp only[E3,av,VO] at hok;intro i j hm;rcases bi.1 hm with h|h
    .cases h;have h1:=hok.1;split at h1
     .rename_i a b Z hb;simp only[av] at h1;exact⟨a,b,Z,hb,h1.1.1,h1.1.2,h1.2⟩
     .cases h1
    .exact ih hok.2 i j h
  refine ⟨λj o ho e he hb=>?_,λi j oi fi oj fj hij hi hj=>?_,hl.apart_⟩
  .have:=(hall j (hsize j o ho)).1;rw[ho] at this;simp only[Option.all_some,gi] at this;have:=this e (by simpa using he);simp[hb] at this;exact this
  .have h1:=hop i oi fi hi;have h2:=hop j oj fj hj;have hcase:=(hall j (hsize j oj h2)).2 i hij;rw[h1,h2] at hcase;simp only[iP] at hcase;by_cases M:aN ((JV ops.toList []).getD j 0) i=ai
   .left;rw[ay] at M;cases I:(JV ops.toList [])[j]? with
    |none=>rw[I] at M;simp at M
    |some B=>
     rw[I] at M;exact My (ops:=ops) ops.toList [] (λj o hj=>by simpa using hj) (λj B hj=>by simp at hj) j B I i (by simpa using M)
   .right;have hap:=hcase.resolve_left M;refine ⟨hap,?_⟩;have hil:i<l.length:=(bh.1 hi).1;have hjl:j<l.length:=(bh.1 hj).1;have hsi:=aA (show i<sl.length by rw[hl.sll];exact hil);have hsj:=aA (show j<sl.length by rw[hl.sll];exact hjl);by_cases hst:(sl[i]'(by rw[hl.sll];exact hil)).op.still=ai
    .obtain⟨Y,U⟩:=hl.still i oi fi _ hi hsi hst;rw[Y,U];exact⟨(λx I=>by cases I),(λx _ I=>by cases I)⟩
    .by_cases hst2:(sl[j]'(by rw[hl.sll];exact hjl)).op.still=ai
     .obtain⟨Y,U⟩:=hl.still j oj fj _ hj hsj hst2;rw[Y,U];exact⟨(λx I=>⟨(by simp),(by simp)⟩),(λx I=>by cases I)⟩
     .have hmem:(i,j)∈prs:=by
       rw[<- hp,uA];refine ⟨j,m6.2 (hsize j oj h2),?_⟩;rw[List.mem_filterMap];refine ⟨i,m6.2 hij,?_⟩;rw[aC];rw[hsi,hsj];simp only[iP,not_or];exact⟨M,hst,hst2⟩
      obtain⟨a,b,Z,hb,d1,d2,d3⟩:=hprs i j hmem;obtain⟨f1,f2⟩:=hl.fp i oi fi a hi Z;obtain⟨g1,g2⟩:=hl.fp j oj fj b hj hb;refine ⟨λx I=>⟨λJ=>?_,λJ=>?_⟩,λx I J=>?_⟩
      .have:=xp d1 (ow x) (f2 x I);rw[g1 x J] at this;cases this
      .have:=xp d2 (ow x) (f2 x I);rw[g2 x J] at this;cases this
      .have:=xp d3 (ow x) (g2 x I);rw[f1 x J] at this;cases this
 .cases hp
structure oC (P:Program) (E:Nat->Prop) (nt np:Nat) (φ:PM) (s:TS) (a:Act) (w:World):Prop where
 rep:qL φ E (bz s.h) w
 env:MG φ (tot E φ (bz s.h)) w (fO s.e s.h) a
 dom:∀ n k,φ n=af k->ow n<s.nx
 low:np<=s.nx
 invH:lZ s.h s.nx
 invE:s6 s.e s.h
 inert:∀ d∈a.defers,aaq P d
 size:a.tmps.size=nt
structure BL (np:Nat) (φ φ':PM) (H H':HF) (w w':World):Prop where
 ext:Kh (own φ H) w w'
 own_:∀ k,k<w.heap.size->own φ' H' k->own φ H k
 par:∀ i,i<np->φ' (nm i)=φ (nm i)
theorem BL.refl (np:Nat) (φ:PM) (H:HF) (w:World):BL np φ φ H H w w:=⟨Kh.refl _ _,λ_ _ h=>h,λ_ _=>rfl⟩
theorem BL.trans {np:Nat} {φ φ' φ'':PM} {H H' H'':HF} {w w' w'':World} (a:BL np φ φ' H H' w w') (b:BL np φ' φ'' H' H'' w' w''):BL np φ φ'' H H'' w w'' where
 ext:=⟨b.ext.os.trans a.ext.os,b.ext.tape.trans a.ext.tape,b.ext.output.trans a.ext.output,dc a.ext.size b.ext.size,
  λk hk I=>(b.ext.blk k (dt hk a.ext.size) (λh=>I (a.own_ k hk h))).trans (a.ext.blk k hk I),
  λk hk=>(b.ext.shp k (dt hk a.ext.size)).trans (a.ext.shp k hk)⟩
 own_:=λk hk h=>a.own_ k hk (b.own_ k (dt hk a.ext.size) h)
 par:=λi hi=>(b.par i hi).trans (a.par i hi)
theorem YQ {R:Type} {P:Program} {E:Nat->Prop} {nt np:Nat} {φ:PM} {s:TS} {a:Act} {w:World} {con:FuncId->Option cu} {b9:TypeId->Option Ty} (hm:P.follows .mixedOrders=ai) (hcon:Kj P con) (c:oC P E nt np φ s a w) {id:Nat} {ops:Array Oper} {draw:Bool} {sl:List r_} {prs:List (Nat×Nat)} {am:Nat} (ham:∀ (j:Nat) (o:Oper) (d:Nat),ops[j]? =af o->o.dst=af d->aN am d=ai)
 (hd:(ops.toList.all λo=>match o.dst with|some d=>decide (d<nt)|none=>ai)=ai) (hc:rK P ops ops.toList=af sl) (hp:LP ops sl=af prs) {K:TS->Option R} {r:R} (hr:Kz con b9 sl s [] (λs' fs=>if E3 fs prs then K s' else ah)=af r) {Q:Exit->Act->World->Prop}
 (hQ:∀ a' w' s' φ',K s'=af r->oC P E nt np φ' s' a' w'->BL np φ φ' (bz s.h) (bz s'.h) w w'->gj am s.e s'.e->Q .normal a' w'):(Code.region id ops draw).wp P Q a w:=by
 obtain⟨s',fs',l,J,L⟩:=HN hcon ham ops.toList sl s [] _ r (λo U=>by
  obtain⟨j,hj⟩:=eX U;exact⟨j,by simpa using hj⟩) hc hr c.invH c.invE
 have J:(if E3 fs' prs then K s' else ah)=af r:=J;by_cases hok:E3 fs' prs=ai
 .rw[aF hok] at J;refine Ph (φ0:=φ) (E:=E) hm L.ops_ L.chain (abx L hp hok) ?_ ?_ c.rep c.env ?_
  .intro n hn;obtain⟨p,I,hn⟩:=uA.1 hn;obtain⟨j,hj⟩:=eX I;have:=L.names j p.1 p.2 hj n hn;cases M:φ n with
   |none=>rfl
   |some k=>have:=c.dom n k M;omega
  .intro j o U d Y;have:=gi.1 hd o (by have:=Array.mem_of_getElem? U;simpa using this);rw[Y] at this;rw[c.size];simpa using this
  .rintro a' w' ⟨φ',m',d',Z,en',df',sz'⟩;have hnm:∀ n k,φ' n=af k->φ n=af k\/(s.nx<=ow n/\ow n<s'.nx):=λn k hik=>by
    rcases d' n k hik with h|h
    .exact .inl h
    .obtain⟨p,I,hn⟩:=uA.1 h;obtain⟨j,hj⟩:=eX I;exact .inr (L.names j p.1 p.2 hj n hn)
   have hg:=L.grows;have hlow:=c.low;refine hQ a' w' s' φ' J ⟨Z,en',λn k hik=>?_,by omega,L.invH,L.invE,by rw[df'];exact c.inert,by rw[sz'];exact c.size⟩ ⟨m'.ext,m'.own_,λi hi=>?_⟩ L.keeps
   .rcases hnm n k hik with h|h
    .have:=c.dom n k h;omega
    .exact h.2
   .cases M:φ (nm i) with
    |some k=>exact m'.sub _ _ M
    |none=>
     cases hy:φ' (nm i) with
     |none=>rfl
     |some k=>
      rcases hnm (nm i) k hy with h|h
      .rw[M] at h;cases h
      .rw[dU] at h;omega
 .rw[aC hok] at J;cases J
theorem zl:∀ (l:List r_) (acc:Nat),Ou l acc=acc|||Ou l 0
 |[],acc=>by simp[Ou]
 |o::r,acc=>by
  simp only[Ou];cases o.dst with
  |none=>exact zl r acc
  |some d=>simp only[];rw[zl r (acc|||kG d),zl r (0|||kG d),xX,kx]
theorem zH:∀ (l:List Nat) (acc:Nat),KH l acc=acc|||KH l 0
 |[],acc=>by simp[KH]
 |k::r,acc=>by simp only[KH];rw[zH r (acc|||kG k),zH r (0|||kG k),xX,kx]
theorem lX:∀ (l:List Adj) (acc:Nat),od l acc=acc|||od l 0
 |[],acc=>by simp[od]
 |.nil k _ _::r,acc=>by simp only[od];rw[lX r (acc|||kG k),lX r (0|||kG k),xX,kx]
 |.cel _ _ _ _::r,acc=>by simp only[od];exact lX r acc
 |.mpt _ _ _::r,acc=>by simp only[od];exact lX r acc
 |.ren k _::r,acc=>by simp only[od];rw[lX r (acc|||kG k),lX r (0|||kG k),xX,kx]
 |.pk _ _ _::r,acc=>by simp only[od];exact lX r acc
theorem iy:∀ (c:TC) (acc:Nat),c.asg acc=acc|||c.asg 0
 |.reg ops _,acc=>zl ops acc
 |.seq a b,acc=>by simp only[TC.asg];rw[iy b (a.asg acc),iy b (a.asg 0),iy a acc,kx]
 |.jseq A a b,acc=>by simp only[TC.asg];rw[iy b (a.asg _),iy b (a.asg (KH A.ks 0)),iy a (KH A.ks acc),iy a (KH A.ks 0),zH A.ks acc,kx,kx,kx]
 |.cond _ a b,acc=>by simp only[TC.asg];rw[iy b (a.asg acc),iy b (a.asg 0),iy a acc,kx]
 |.block _ b,acc=>iy b acc
 |.jblock A _ b,acc=>by simp only[TC.asg];rw[iy b (KH A.ks acc),iy b (KH A.ks 0),zH A.ks acc,kx]
 |.loop A b,acc=>by simp only[TC.asg];rw[iy b (KH A.ks acc),iy b (KH A.ks 0),zH A.ks acc,kx]
 |.defer _ _ t,acc=>by simp[TC.asg]
 |.adj l c,acc=>by simp only[TC.asg];rw[iy c (od l acc),iy c (od l 0),lX l acc,kx]
 |.split _ _ _ _ c,acc=>iy c acc
 |.unl _ b,acc=>iy b acc
 |.skip,acc=>by simp[TC.asg]
 |.exit _,acc=>by simp[TC.asg]
 |.ret,acc=>by simp[TC.asg]
 |.bad,acc=>by simp[TC.asg]
theorem uX {c:TC} {acc k:Nat} (h:aN (c.asg 0) k=ai):aN (c.asg acc) k=ai:=by rw[iy,bn,h];simp
theorem kf {c:TC} {acc k:Nat} (h:aN acc k=ai):aN (c.asg acc) k=ai:=by rw[iy,bn,h];rfl
theorem Vx:∀ {l:List Nat} {acc k:Nat},k∈l->aN (KH l acc) k=ai
 |[],_,_,h=>by cases h
 |x::r,acc,k,h=>by
  simp only[KH];rcases bi.1 h with rfl|h
  .rw[zH,bn,bn,bX.2 rfl];simp
  .exact Vx h
theorem RD:∀ {l:List r_} {acc:Nat} {o:r_} {d:Nat},o∈l->o.dst=af d->aN (Ou l acc) d=ai
 |[],_,_,_,h,_=>by cases h
 |x::r,acc,o,d,h,hd=>by
  simp only[Ou];rcases bi.1 h with rfl|h
  .rw[hd];simp only[];rw[zl,bn,bn,bX.2 rfl];simp
  .exact RD h hd
theorem VK:∀ {e:iK} {ks:List Nat} {vs:List TV},nM e ks=af vs->vs.length=ks.length/\∀ (j k:Nat),ks[j]? =af k->∃ v,vs[j]? =af v/\e.get k=af v
 |e,[],vs,h=>by simp only[nM,ak] at h;subst h;exact⟨rfl,by simp⟩
 |e,k::r,vs,h=>by
  simp only[nM] at h;split at h
  .rename_i v hv;split at h
   .rename_i l hl;simp only[ak] at h;subst h;obtain⟨h1,h2⟩:=VK hl;refine ⟨by simp[h1],λj k' hj=>?_⟩;cases j with
    |zero=>simp at hj;subst hj;exact⟨v,rfl,hv⟩
    |succ j=>simpa using h2 j k' (by simpa using hj)
   .cases h
  .cases h
theorem HQ {e:iK} {h:bf} (hi:s6 e h):∀ {ks:List Nat} {vs:List TV},nM e ks=af vs->kJ h vs=ai
 |[],vs,hg=>by simp only[nM,ak] at hg;subst hg;rfl
 |k::r,vs,hg=>by
  simp only[nM] at hg;split at hg
  .rename_i v hv;split at hg
   .rename_i l hl;simp only[ak] at hg;subst hg;simp only[kJ,av];exact⟨hi k v hv,HQ hi hl⟩
   .cases hg
  .cases hg
theorem BV:∀ {e:iK} {ks:List Nat} {vs:List TV},vs.length=ks.length->∀ t v,(WD e ks vs).get t=af v->(∃ j:Nat,ks[j]? =af t/\vs[j]? =af v)\/(t∉ks/\e.get t=af v)
 |e,[],[],_,t,v,h=>.inr ⟨by simp,h⟩
 |e,[],_::_,hl,t,v,h=>by simp at hl
 |e,_::_,[],hl,t,v,h=>by simp at hl
 |e,k::r,u::l,hl,t,v,h=>by
  simp only[WD,PT.get_set] at h;split at h
  .rename_i I;subst I;cases h;exact .inl ⟨0,rfl,rfl⟩
  .rename_i I;rcases BV (by simpa using hl) t v h with ⟨j,h1,h2⟩|⟨h1,h2⟩
   .exact .inl ⟨j+1,by simpa using h1,by simpa using h2⟩
   .exact .inr ⟨by simp[I,h1],h2⟩
theorem tf {am:Nat} {e:iK}:∀ {ks:List Nat} {k:Nat} {v:TV},(Cj am e ks).get k=af v->k∈ks/\e.get k=af v/\tW v=ai/\aN am k=aj
 |[],k,v,h=>by simp[Cj,PT.get] at h
 |x::r,k,v,h=>by
  simp only[Cj] at h;split at h
  .rename_i u hu;split at h
   .rename_i hc;simp only[av,ec] at hc;rw[PT.get_set] at h;split at h
    .rename_i I;subst I;cases h;exact⟨by simp,hu,hc.1,hc.2⟩
    .obtain⟨h1,h2⟩:=tf h;exact⟨by simp[h1],h2⟩
   .obtain⟨h1,h2⟩:=tf h;exact⟨by simp[h1],h2⟩
  .obtain⟨h1,h2⟩:=tf h;exact⟨by simp[h1],h2⟩
theorem Ic {am:Nat} {e0 e:iK}:∀ {ks:List Nat},G9 am e0 e ks=ai->∀ k v,k∈ks->e0.get k=af v->tW v=ai->aN am k=aj->∃ J,e.get k=af J
 |[],_,k,v,h,_,_,_=>by cases h
 |x::r,hc,k,v,h,hv,hf,I=>by
  simp only[G9,av] at hc;rcases bi.1 h with rfl|h
  .have h1:=hc.1;rw[hv] at h1;simp only[hf,I,Bool.not_true,Bool.false_or] at h1;cases M:e.get k with
   |none=>rw[M] at h1;cases h1
   |some u=>exact⟨u,rfl⟩
  .exact Ic hc.2 k v h hv hf I
section walk
variable {P:Program} {E:Nat->Prop} {nt np:Nat}
theorem Qt {h:bf} {v:TV} {y:AV} (hn:ac5 v=ai) (I:cj h v=af y):Le y .emp:=by
 cases v with
 |nil=>simp only[cj,ak] at I;subst I;exact Le.nilEmp
 |emp=>simp only[cj,ak] at I;subst I;exact Le.refl _
 |_=>cases hn
theorem Wl {φ:PM} {s:TS} {a:Act} {w:World} (c:oC P E nt np φ s a w) (ty:TypeId) (T:Ty):oC P E nt np φ ⟨s.e,s.h.set s.nx (af (.rows ty ai T [])),s.nx+1⟩ a w/\bz (s.h.set s.nx (af (.rows ty ai T [])))=bz s.h/\ci s.h (s.h.set s.nx (af (.rows ty ai T []))):=by
 have hfr:=c.invH.fresh;have hr:ci s.h (s.h.set s.nx (af (.rows ty ai T []))):=ci.set λr hr=>by rw[bS,hfr] at hr;cases hr
 have J:bz (s.h.set s.nx (af (.rows ty ai T [])))=bz s.h:=by
  funext n;by_cases hn:n=nm s.nx
  .subst hn;rw[bI,bI,PT.get_set,aF rfl,hfr];rfl
  .refine kF c.invH hr λi e=>?_
   subst e;rw[PT.get_set,aC (λe=>hn (by rw[e]))]
 refine ⟨⟨by rw[J];exact c.rep,?_,λn k hk=>zw (c.dom n k hk),ir c.low,c.invH.set hr (qA _) (Nat.le_succ _) (λ_ _ he=>by cases he),?_,c.inert,c.size⟩,J,hr⟩
 .intro t x I;rw[J];simp only[fO] at I;cases he:s.e.get t with
  |none=>rw[he] at I;cases I
  |some q=>
   rw[he] at I;obtain⟨z,M⟩:=pN s.h q (c.invE t q he);simp only[aH,gw hr q z M,ak] at I;subst I;exact c.env t _ (by simp only[fO,he,aH,M])
 .intro t x I;exact oq hr x (c.invE t x I)
theorem yq {h:bf}:∀ {a b:List TV},kJ h a=ai->kJ h b=ai->kJ h (a++b)=ai
 |[],_,_,hb=>hb
 |x::r,b,I,hb=>by
  simp only[kJ,av] at I;simp only[gh,kJ,av];exact⟨I.1,yq I.2 hb⟩
theorem LQ {h:bf}:∀ {a:List TV} (n:Nat),kJ h a=ai->kJ h (a.take n)=ai
 |[],n,_=>by simp[kJ]
 |x::r,0,_=>rfl
 |x::r,n+1,I=>by
  simp only[kJ,av] at I;simp only[vB,kJ,av];exact⟨I.1,LQ n I.2⟩
theorem LR {h:bf}:∀ {a:List TV} (n:Nat),kJ h a=ai->kJ h (a.drop n)=ai
 |[],n,_=>by simp[kJ]
 |x::r,0,I=>I
 |x::r,n+1,I=>by
  simp only[kJ,av] at I;simp only[vC];exact LR n I.2
theorem yk {α:Type} {l:List α} {j:Nat} {x:α} (h:l[j]? =af x):splice l j [x]=l:=by
 have hl:j<l.length:=by
  rcases b7 j l.length with h'|h'
  .exact h'
  .rw[bO h'] at h;cases h
 rw[aA hl,ak] at h;unfold splice;subst h;simp
theorem aa0 {φ:PM} {s:TS} {a:Act} {w:World} (c:oC P E nt np φ s a w) {id cty j:Nat} {l:List TV} {v u:TV} (hb:s.h.get id=af (.cells cty l)) (hv:l[j]? =af v) (hn:ac5 v=ai) (hu:cj s.h u=af .emp) (huo:KC s.h u=ai):
 oC P E nt np φ ⟨s.e,s.h.set id (af (.cells cty (splice l j [u]))),s.nx⟩ a w/\BL np φ φ (bz s.h) (bz (s.h.set id (af (.cells cty (splice l j [u]))))) w w:=by
 have hr:ci s.h (s.h.set id (af (.cells cty (splice l j [u])))):=ci.set λr hr=>by rw[bS,hb] at hr;cases hr
 have hlo:=c.invH.cells id cty l hb;obtain⟨J,M⟩:=fk s.h l hlo;have hsp:cH s.h (splice l j [u])=af (splice J j [.emp]):=rY j M (by simp only[cH,hu]);have hsp':cH (s.h.set id (af (.cells cty (splice l j [u])))) (splice l j [u])=af (splice J j [.emp]):=gU hr _ _ hsp;obtain⟨y,hy,hey⟩:=lU M j v hv;have hold:bz s.h (nm id)=af ⟨cty,.mx J⟩:=by rw[bI,hb];simp only[aH,kr,M]
 have hnew:bz (s.h.set id (af (.cells cty (splice l j [u])))) (nm id)=af ⟨cty,.mx (splice J j [.emp])⟩:=by
  rw[bI,PT.get_set,aF rfl];simp only[aH,kr,hsp']
 have hoth:∀ n,n≠nm id->bz (s.h.set id (af (.cells cty (splice l j [u])))) n=bz s.h n:=λn Y=>by
  refine kF c.invH hr λi e=>?_
  subst e;rw[PT.get_set,aC (λe=>Y (by rw[e]))]
 have hdom:uY (bz s.h) (bz (s.h.set id (af (.cells cty (splice l j [u]))))):=λn b U=>by
  by_cases e:n=nm id
  .subst e;exact⟨_,hold⟩
  .rw[hoth n e] at U;exact⟨b,U⟩
 have hcell:∀ x∈J,x.isCell=ai:=λx I=>by
  obtain⟨k,hk⟩:=eX I;obtain⟨q,_,_,hat⟩:=c.rep.at_ _ _ hold;unfold Ww at hat;obtain⟨ob,_,hob⟩:=hat;rw[pm rfl] at hob;obtain⟨arr,_,hca⟩:=hob;exact (hca.2 k x hk).1
 have hV:J4 (bz s.h) (bz (s.h.set id (af (.cells cty (splice l j [u]))))):=⟨hdom,λn b b' h1 h2=>by
  by_cases e:n=nm id
  .subst e;rw[hold] at h1;cases h1;rw[hnew] at h2;cases h2;refine jU.cells rfl rfl ?_ λx I=>?_
   .show ia _ _ J (splice J j [.emp]);have:=ia.splice j (ia.refl hdom J) (b:=[y]) (b':=[.emp]) ⟨(Qt hn hey).toH hdom,trivial⟩;rw[yk hy] at this;exact this
   .have I:x∈splice J j [.emp]:=I;unfold splice at I;rw[bW,bW,aL] at I;rcases I with (I|I)|I
    .exact hcell x (gP I)
    .subst I;rfl
    .exact hcell x (List.mem_of_mem_drop I)
  .rw[hoth n e,h1] at h2;cases h2;exact jU.refl hdom b⟩
 refine ⟨⟨hV.rep c.rep,?_,c.dom,c.low,c.invH.set hr (c.invH.low id _ hb) (bV _) (λty l2 he=>?_),?_,c.inert,c.size⟩,⟨Kh.refl _ _,λk _ ho=>hdom.own ho,λ_ _=>rfl⟩⟩
 .intro t x I;simp only[fO] at I;cases he:s.e.get t with
  |none=>rw[he] at I;cases I
  |some q=>
   rw[he] at I;obtain⟨z,Z⟩:=pN s.h q (c.invE t q he);simp only[aH,gw hr q z Z,ak] at I;subst I;exact (c.env t _ (by simp only[fO,he,aH,Z])).dom hdom
 .simp only[im.cells.injEq] at he;obtain⟨_,rfl⟩:=he;refine iQ hr _ ?_;unfold splice;exact yq (yq (LQ _ hlo) (by simp only[kJ,huo,iH])) (LR _ hlo)
 .intro t x I;exact oq hr x (c.invE t x I)
theorem oC.congr {φ:PM} {s s':TS} {a:Act} {w:World} (c:oC P E nt np φ s a w) (he:∀ t,s'.e.get t=s.e.get t) (hh:∀ i,s'.h.get i=s.h.get i) (hn:s'.nx=s.nx):oC P E nt np φ s' a w/\bz s'.h=bz s.h:=by
 have hr:ci s.h s'.h:=λi r hi=>by rw[bS] at hi ⊢;rw[hh];exact hi
 have J:bz s'.h=bz s.h:=by funext n;exact kF c.invH hr λi _=>hh i
 refine ⟨⟨by rw[J];exact c.rep,?_,by rw[hn];exact c.dom,by rw[hn];exact c.low,⟨λi ty l hg=>?_,λi b hg=>?_⟩,λt v hv=>?_,c.inert,c.size⟩,J⟩
 .intro t x I;rw[J];simp only[fO,he] at I;cases hg:s.e.get t with
  |none=>rw[hg] at I;cases I
  |some v=>
   rw[hg] at I;obtain⟨z,M⟩:=pN s.h v (c.invE t v hg);simp only[aH,gw hr v z M,ak] at I;subst I;exact c.env t _ (by simp only[fO,hg,aH,M])
 .rw[hh] at hg;exact iQ hr l (c.invH.cells i ty l hg)
 .rw[hh] at hg;rw[hn];exact c.invH.low i b hg
 .rw[he] at hv;exact oq hr v (c.invE t v hv)
theorem O6 {R:Type} {v:Int} {f:Nat->Option R} {r:R}:∀ {m i:Nat},spl v f i m=af r->∃ j,v=aO j/\f j=af r
 |0,i,h=>by cases h
 |m+1,i,h=>by
  simp only[spl] at h;rcases ph h with ⟨h1,h2⟩|⟨_,h2⟩
  .exact⟨i,bt h1,h2⟩
  .exact O6 h2
theorem YM {φ:PM} {s s':TS} {a:Act} {w:World} (c:oC P E nt np φ s a w) {k off:Nat} {kd:IntKind} {v:Int} (h1:Zi s k off=af (kd,v)) (h2:SD s k off kd v=af s'):oC P E nt np φ s' a w/\bz s'.h=bz s.h/\∀ t,s'.e.get t=s.e.get t:=by
 unfold Zi at h1;unfold SD at h2;cases hk:s.e.get k with
 |none=>rw[hk] at h1;cases h1
 |some x=>
  rw[hk] at h1 h2;cases x with
  |f T q=>
   cases T with
   |int kd'=>
    simp only[ak,aD] at h1;obtain⟨rfl,rfl⟩:=h1;simp only[ak] at h2;subst h2;have he:∀ t,(s.e.set k (af (.f (.int kd') q))).get t=s.e.get t:=λt=>by
     rw[PT.get_set];split
     .rename_i e;subst e;exact hk.symm
     .rfl
    obtain⟨J,I⟩:=c.congr (s':=⟨s.e.set k (af (.f (.int kd') q)),s.h,s.nx⟩) he (λ_=>rfl) rfl;exact⟨J,I,he⟩
   |_=>cases h1
  |ptr a0 o0=>
   simp only[] at h1 h2;cases hb:s.h.get a0 with
   |none=>rw[hb] at h1;cases h1
   |some b=>
    rw[hb] at h1 h2;cases b with
    |cells ty l=>
     simp only[] at h1 h2;cases hl:l[o0+off]? with
     |none=>rw[hl] at h1;cases h1
     |some y=>
      rw[hl] at h1;cases y with
      |f T q=>
       cases T with
       |int kd'=>
        simp only[ak,aD] at h1;obtain⟨rfl,rfl⟩:=h1;simp only[ak] at h2;subst h2;have hh:∀ i,(s.h.set a0 (af (.cells ty (splice l (o0+off) [.f (.int kd') q])))).get i=s.h.get i:=λi=>by
         rw[PT.get_set];split
         .rename_i e;subst e;rw[hb,yk hl]
         .rfl
        obtain⟨J,I⟩:=c.congr (s':=⟨s.e,s.h.set a0 (af (.cells ty (splice l (o0+off) [.f (.int kd') q]))),s.nx⟩) (λ_=>rfl) hh rfl;exact⟨J,I,λ_=>rfl⟩
       |_=>cases h1
      |_=>cases h1
    |_=>cases h1
  |_=>cases h1
mutual
theorem LI (id sz n:Nat):∀ v:TV,tW v=ai->Kt id sz n v=v
 |.f _ _,_=>rfl
 |.fel _ _ _ _ _,_=>rfl
 |.emp,_=>rfl
 |.nil,_=>rfl
 |.undef,_=>rfl
 |.np,_=>rfl
 |.anyb,_=>rfl
 |.agg l,h=>by simp only[Kt];rw[AT id sz n l h]
 |.tup l,h=>by simp only[Kt];rw[AT id sz n l h]
 |.pel _ _ _ _,h=>by cases h
 |.ptr _ _,h=>by cases h
 |.csl _ _ _,h=>by cases h
 |.row _,h=>by cases h
 |.rtl _ _,h=>by cases h
 |.mp _,h=>by cases h
 |.clo _ _,h=>by cases h
theorem AT (id sz n:Nat):∀ l:List TV,qc l=ai->BS id sz n l=l
 |[],_=>rfl
 |x::r,h=>by
  simp only[qc,av] at h;simp only[BS];rw[LI id sz n x h.1,AT id sz n r h.2]
end
section subs
variable {id sz n:Nat} {h h':bf}
mutual
theorem MZ (hr:ci h h') (hid:eh h' id=af (aj,sz,n)):∀ (v:TV) (y:AV),cj h v=af y->cj h' (Kt id sz n v)=af y
 |.csl i s m,y,he=>by
  simp only[cj,ak] at he;subst he;simp only[Kt];split
  .rename_i hq;simp only[av] at hq;have e1:=aw hq.1.1;have e2:=aw hq.1.2;have e3:=aw hq.2;subst e1;subst e2;subst e3;simp only[cj,hid,fm,m8,ct,dV]
  .rfl
 |.agg l,y,he=>by
  simp only[cj] at he;cases hl:cH h l with
  |none=>rw[hl] at he;cases he
  |some l'=>rw[hl] at he;simp only[Kt,cj,vH hr hid l l' hl];exact he
 |.tup l,y,he=>by
  simp only[cj] at he;cases hl:cH h l with
  |none=>rw[hl] at he;cases he
  |some l'=>rw[hl] at he;simp only[Kt,cj,vH hr hid l l' hl];exact he
 |.clo g l,y,he=>by
  simp only[cj] at he;cases hl:cH h l with
  |none=>rw[hl] at he;cases he
  |some l'=>rw[hl] at he;simp only[Kt,cj,vH hr hid l l' hl];exact he
 |.f T v,y,he=>gw hr _ _ he
 |.fel T xs j hj off,y,he=>gw hr _ _ he
 |.pel _ _ _ _,y,he=>gw hr _ _ he
 |.ptr _ _,y,he=>gw hr _ _ he
 |.row _,y,he=>gw hr _ _ he
 |.rtl _ _,y,he=>gw hr _ _ he
 |.emp,y,he=>gw hr _ _ he
 |.nil,y,he=>gw hr _ _ he
 |.mp _,y,he=>gw hr _ _ he
 |.undef,y,he=>gw hr _ _ he
 |.np,y,he=>gw hr _ _ he
 |.anyb,y,he=>gw hr _ _ he
theorem vH (hr:ci h h') (hid:eh h' id=af (aj,sz,n)):∀ (l:List TV) (l':List AV),cH h l=af l'->cH h' (BS id sz n l)=af l'
 |[],l',he=>by simp only[cH,ak] at he;subst he;rfl
 |x::r,l',he=>by
  obtain⟨y,l2,rfl,h1,h2⟩:=cS he;simp only[BS];exact oN (MZ hr hid x y h1) (vH hr hid r l2 h2)
end
end subs
theorem aj3 {φ:PM} {s:TS} {a:Act} {w:World} (c:oC P E nt np φ s a w) {T:Ty} {id sz n:Nat} {s':TS} (hp:pkS s T id sz n=af s'):oC P E nt np φ s' a w/\BL np φ φ (bz s.h) (bz s'.h) w w/\gj 0 s.e s'.e:=by
 unfold pkS at hp;split at hp
 .rename_i ty l hb;split at hp
  .rename_i hs;have hs:=aw hs;subst hs;split at hp
   .rename_i xs m hpk;split at hp
    .cases hp
    .rename_i hmid;simp only[ak] at hp;subst hp;have hm:dK s.h m:=M8 n l xs m hpk;obtain⟨l',hl⟩:=fk s.h l (c.invH.cells id ty l hb);have hidlt:=c.invH.low id _ hb;have nM:∀ i,((PT.updI (λ_ b=>WA id T.size n b) 1 0 (em m s.h)).set id (af (.rows ty aj T xs))).get i=if i=id then af (.rows ty aj T xs) else if aN m i then (s.h.get i).map uJ else (s.h.get i).map (WA id T.size n):=λi=>by
      rw[PT.get_set];by_cases e:i=id
      .rw[aF e,aF e]
      .rw[aC e,aC e,PT.get_updI,iU];split
       .cases hg:s.h.get i with
        |none=>rfl
        |some b=>cases b<;>rfl
       .rfl
     generalize hH2:((PT.updI (λ_ b=>WA id T.size n b) 1 0 (em m s.h)).set id (af (.rows ty aj T xs)))=h2 at nM ⊢;have hr:ci s.h h2:=λi r hi=>by
      rw[bS] at hi ⊢;rw[nM];by_cases e:i=id
      .subst e;rw[hb] at hi;cases hi
      .rw[aC e];cases hg:s.h.get i with
       |none=>rw[hg] at hi;cases hi
       |some b=>
        rw[hg] at hi;split
        .exact LM hi
        .cases b<;>first|exact hi|cases hi
     have hnone:∀ i,aN m i=ai->bz h2 (nm i)=ah:=λi hi=>by
      have e:i≠id:=λe=>by subst e;exact hmid hi
      obtain⟨ty',p',T',xs',J⟩:=hm i hi;rw[bI,nM,aC e,aF hi,J];rfl
     have hdom:uY (bz s.h) (bz h2):=λq b hq=>by
      obtain⟨i,cc,rfl,I,h4⟩:=js hq;rw[bI];rw[nM] at I;by_cases e:i=id
      .subst e;rw[hb];simp only[aH,kr,hl];exact⟨_,rfl⟩
      .rw[aC e] at I;cases hg:s.h.get i with
       |none=>rw[hg] at I;split at I<;>cases I
       |some b0=>
        rw[hg] at I;split at I
        .simp only[b_,ak] at I;subst I;cases b0<;>simp[uJ,kr] at h4
        .simp only[b_,ak] at I;subst I;simp only[aH];cases b0 with
         |cells ty0 l0=>
          obtain⟨l0',U⟩:=fk s.h l0 (c.invH.cells i ty0 l0 hg);exact⟨⟨ty0,.mx l0'⟩,by simp only[kr,U]⟩
         |rows=>exact⟨_,h4⟩
         |dead=>exact⟨_,h4⟩
         |mp=>exact⟨_,h4⟩
     have giv:Dv s.h (bz s.h) (bz h2) m:=λi hi=>⟨rfl,hnone i hi⟩
     obtain⟨hle,hlen⟩:=B8 hdom n l xs m l' hpk hl giv;have hrow:eh h2 id=af (aj,T.size,n):=by rw[bS,nM,aF rfl,<-hlen];rfl
     have hV:J4 (bz s.h) (bz h2):=⟨hdom,λq b b' I h4=>by
      obtain⟨i,cc,rfl,Z,h6⟩:=js h4;rw[bI] at I;rw[nM] at Z;by_cases e:i=id
      .subst e;rw[aF rfl] at Z;cases Z;rw[hb] at I;simp only[aH,kr,hl,ak] at I;subst I;simp only[kr,m8,ct,dV,ak] at h6;subst h6;refine jU.cells rfl rfl hle λx J=>?_
       simp only[BC.toMx] at J;obtain⟨q,hq,rfl⟩:=dh.1 J;exact rm T _ q hq
      .rw[aC e] at Z;cases hg:s.h.get i with
       |none=>rw[hg] at Z;split at Z<;>cases Z
       |some b0=>
        rw[hg] at Z I;split at Z
        .simp only[b_,ak] at Z;subst Z;cases b0<;>simp[uJ,kr] at h6
        .simp only[b_,ak] at Z;subst Z;have:b=b':=by
          simp only[aH] at I;cases b0 with
          |cells ty0 l0=>
           obtain⟨l0',U⟩:=fk s.h l0 (c.invH.cells i ty0 l0 hg);simp only[kr,U,ak] at I;simp only[WA,kr,vH hr hrow l0 l0' U,ak] at h6;rw[<- I,<-h6]
          |rows ty1 p1 T1 xs1=>
           have h3':kr h2 (.rows ty1 p1 T1 xs1)=af b:=I;exact jP (h3'.symm.trans h6)
          |dead p1 s1 n1=>
           have h3':kr h2 (.dead p1 s1 n1)=af b:=I;exact jP (h3'.symm.trans h6)
          |mp K1 V1 es1=>
           have h3':kr h2 (.mp K1 V1 es1)=af b:=I;exact jP (h3'.symm.trans h6)
         subst this;exact jU.refl hdom b⟩
     refine ⟨⟨hV.rep c.rep,?_,c.dom,c.low,⟨λi ty' l2 hg=>?_,λi b hg=>?_⟩,?_,c.inert,c.size⟩,⟨Kh.refl _ _,λk _ hk=>hdom.own hk,λ_ _=>rfl⟩,?_⟩
     .intro t x J;simp only[fO,PT.get_updI] at J;cases he:s.e.get t with
      |none=>rw[he] at J;cases J
      |some v=>
       rw[he] at J;obtain⟨z,hz⟩:=pN s.h v (c.invE t v he);simp only[b_,aH,MZ hr hrow v z hz,ak] at J;subst J;exact (c.env t _ (by simp only[fO,he,aH,hz])).dom hdom
     .rw[nM] at hg;by_cases e:i=id
      .rw[aF e] at hg;cases hg
      .rw[aC e] at hg;cases Y:s.h.get i with
       |none=>rw[Y] at hg;split at hg<;>cases hg
       |some b0=>
        rw[Y] at hg;split at hg
        .simp only[b_,ak] at hg;cases b0<;>simp[uJ] at hg
        .simp only[b_,ak] at hg;cases b0 with
         |cells ty0 l0=>
          simp only[WA,im.cells.injEq] at hg;obtain⟨_,rfl⟩:=hg;obtain⟨l0',U⟩:=fk s.h l0 (c.invH.cells i ty0 l0 Y);exact kE _ _ _ (vH hr hrow l0 l0' U)
         |_=>cases hg
     .rw[nM] at hg;by_cases e:i=id
      .subst e;exact hidlt
      .rw[aC e] at hg;cases Y:s.h.get i with
       |none=>rw[Y] at hg;split at hg<;>cases hg
       |some b0=>exact c.invH.low i b0 Y
     .intro t x J;simp only[PT.get_updI] at J;cases he:s.e.get t with
      |none=>rw[he] at J;cases J
      |some v=>
       rw[he] at J;simp only[b_,ak] at J;subst J;obtain⟨z,hz⟩:=pN s.h v (c.invE t v he);exact Eg _ _ _ (MZ hr hrow v z hz)
     .intro k _ v' M;simp only[PT.get_updI] at M;cases he:s.e.get k with
      |none=>rw[he] at M;cases M
      |some v=>
       rw[he] at M;simp only[b_,ak] at M;subst M;exact⟨v,rfl,λhf=>LI _ _ _ v hf⟩
   .cases hp
  .cases hp
 .cases hp
theorem aiy {φ:PM} {s:TS} {a:Act} {w:World} (c:oC P E nt np φ s a w) {k off:Nat} {s':TS} (h:Oy s (.ren k off)=af s'):∃ φ',oC P E nt np φ' s' a w/\BL np φ φ' (bz s.h) (bz s'.h) w w/\gj (od [.ren k off] 0) s.e s'.e:=by
 simp only[Oy] at h;split at h
 .rename_i b o hk;split at h
  .rename_i cty l hb;split at h
   .rename_i id hv;split at h
    .rename_i ty p T xs J;simp only[ak] at h;subst h;have hfr:=c.invH.fresh;have hidlt:=c.invH.low id _ J;have hblt:=c.invH.low b _ hb;have hbid:b≠id:=λe=>by rw[e,J] at hb;cases hb
     have hbn:b≠s.nx:=by omega
     have hin:id≠s.nx:=by omega
     generalize hh2:(((s.h.set id (af (.dead p T.size xs.length))).set s.nx (af (.rows ty p T xs))).set b (af (.cells cty (splice l (o+off) [.row s.nx]))))=h2;have nM:∀ i,h2.get i=if i=b then af (.cells cty (splice l (o+off) [.row s.nx])) else if i=s.nx then af (.rows ty p T xs) else if i=id then af (.dead p T.size xs.length) else s.h.get i:=λi=>by
      rw[<- hh2,PT.get_set,PT.get_set,PT.get_set]
     have hr:ci s.h h2:=λi r hi=>by
      rw[bS] at hi ⊢;rw[nM];by_cases e1:i=b
      .subst e1;rw[hb] at hi;cases hi
      .rw[aC e1];by_cases e2:i=s.nx
       .subst e2;rw[hfr] at hi;cases hi
       .rw[aC e2];by_cases e3:i=id
        .subst e3;rw[aF rfl];rw[J] at hi;exact hi
        .rw[aC e3];exact hi
     have hlo:=c.invH.cells b cty l hb;obtain⟨Z,hl'⟩:=fk s.h l hlo;have hrow:cj h2 (.row s.nx)=af (fm p s.nx T.size xs.length):=by
      simp only[cj,bS,nM];rw[aC hbn.symm];simp only[bC,aH,mz]
     have hsp:cH h2 (splice l (o+off) [.row s.nx])=af (splice Z (o+off) [fm p s.nx T.size xs.length]):=rY _ (gU hr _ _ hl') (by simp only[cH,hrow]);obtain⟨y,hy,hey⟩:=lU hl' _ _ hv;have hy0:y=fm p id T.size xs.length:=by
      simp only[cj,bS,J,aH,mz,ak] at hey;exact hey.symm
     subst hy0;have hold:bz s.h (nm b)=af ⟨cty,.mx Z⟩:=by rw[bI,hb];simp only[aH,kr,hl']
     have hnew:bz h2 (nm b)=af ⟨cty,.mx (splice Z (o+off) [fm p s.nx T.size xs.length])⟩:=by
      rw[bI,nM,aF rfl];simp only[aH,kr,hsp]
     have hdead:bz h2 (nm id)=ah:=by rw[bI,nM,aC hbid.symm,aC hin,aF rfl];rfl
     have hnx2:bz h2 (nm s.nx)=if p&&xs.length==0 then ah else af ⟨ty,.fz (xs.flatMap (bQ T))⟩:=by rw[bI,nM,aC hbn.symm,aF rfl];rfl
     have hid0:bz s.h (nm id)=if p&&xs.length==0 then ah else af ⟨ty,.fz (xs.flatMap (bQ T))⟩:=by rw[bI,J];rfl
     have hoth:∀ n,n≠nm b->n≠nm s.nx->n≠nm id->bz h2 n=bz s.h n:=λn e1 e2 e3=>kF c.invH hr λi e=>by
      subst e;rw[nM,aC (λe=>e1 (by rw[e])),aC (λe=>e2 (by rw[e])),aC (λe=>e3 (by rw[e]))]
     have hnb:nm b≠nm s.nx:=λe=>hbn (kK e)
     have hbi:nm b≠nm id:=λe=>hbid (kK e)
     have hni:nm s.nx≠nm id:=λe=>hin (kK e).symm
     have hinv:lZ h2 (s.nx+1):=by
      refine ⟨λi ty2 l2 hil=>?_,λi q hiq=>?_⟩
      .rw[nM] at hil;split at hil
       .simp only[ak,im.cells.injEq] at hil;obtain⟨_,rfl⟩:=hil;exact kE _ _ _ hsp
       .split at hil
        .cases hil
        .split at hil
         .cases hil
         .exact iQ hr l2 (c.invH.cells i ty2 l2 hil)
      .rw[nM] at hiq;split at hiq
       .omega
       .split at hiq
        .omega
        .split at hiq
         .omega
         .have:=c.invH.low i q hiq;omega
     have hE:∀ t x,fO s.e h2 t=af x->fO s.e s.h t=af x:=λt x I=>by
      simp only[fO] at I ⊢;cases he:s.e.get t with
      |none=>rw[he] at I;cases I
      |some q=>
       rw[he] at I;obtain⟨z,hz⟩:=pN s.h q (c.invE t q he);simp only[aH,gw hr q z hz,ak] at I;subst I;simp only[aH,hz]
     by_cases hp:(p&&xs.length==0)=ai
     ·
      have Y:bz h2=bz s.h:=by
       funext n;by_cases e1:n=nm b
       .subst e1;rw[hold,hnew];have:fm p s.nx T.size xs.length=fm p id T.size xs.length:=by unfold fm;rw[aF hp,aF hp]
        rw[this,yk hy]
       .by_cases e2:n=nm s.nx
        .subst e2;rw[hnx2,aF hp,bI,hfr];rfl
        .by_cases e3:n=nm id
         .subst e3;rw[hdead,hid0,aF hp]
         .exact hoth n e1 e2 e3
      refine ⟨φ,⟨by rw[Y];exact c.rep,λt x I=>by rw[Y];exact c.env t x (hE t x I),λn q hq=>zw (c.dom n q hq),ir c.low,hinv,λt x I=>oq hr x (c.invE t x I),c.inert,c.size⟩,by rw[Y];exact BL.refl _ _ _ _,gj.refl _ _⟩
     .have hid1:bz s.h (nm id)=af ⟨ty,.fz (xs.flatMap (bQ T))⟩:=by rw[hid0,aC hp]
      obtain⟨kk,k1,k2,ob,k3,k4⟩:=c.rep.at_ _ _ hid1;have hφn:φ (nm s.nx)=ah:=by
       cases hq:φ (nm s.nx) with
       |none=>rfl
       |some q=>have:=c.dom _ q hq;rw[dU] at this;omega
      let nw:HF:=λn=>if n=nm s.nx then af ⟨ty,.fz (xs.flatMap (bQ T))⟩ else ah
      have hsh:EH w w kk ob:=⟨rfl,rfl,rfl,rfl,k3,λ_ _=>rfl,λ_=>rfl⟩
      obtain⟨φ',p1,p2,p3,p4⟩:=c.rep.wren hid1 k1 hφn hsh k4 nw (by simp[nw]) (by simp only[nw];rw[aC hni.symm]);have hb1:eL (bz s.h) [nm s.nx,nm id] nw (nm b)=af ⟨cty,.mx Z⟩:=by
       unfold eL;rw[aC (by simp[hnb,hbi]),hold]
      obtain⟨kb,b1,b2,ob2,b3,b4⟩:=p4.at_ _ _ hb1;have hlt:o+off<Z.length:=by
       rcases b7 (o+off) Z.length with h'|h'
       .exact h'
       .rw[bO h'] at hy;cases hy
      have hob:jq φ' (tot E φ' (eL (bz s.h) [nm s.nx,nm id] nw)) w ⟨cty,.mx (splice Z (o+off) [fm p s.nx T.size xs.length])⟩ ob2:=by
       rw[pm rfl] at b4 ⊢;obtain⟨arr,a1,a2⟩:=b4;refine ⟨arr,a1,?_⟩;unfold uZ at a2 ⊢;refine ⟨by simp only[BC.len] at a2 ⊢;rw[ol (by simp;omega)];exact a2.1,λj x I=>?_⟩;simp only[BC.get] at I a2;rw[my (by simp;omega)] at I;split at I
       .exact a2.2 j x I
       .split at I
        .rename_i h3 M;simp only[gm] at M;have hj:j=o+off:=by omega
         subst hj;simp only[GY,qC,ak] at I;subst I;obtain⟨_,v,a3,a4⟩:=a2.2 _ _ hy;unfold fm at a4 ⊢;rw[aC hp] at a4 ⊢;refine ⟨rfl,v,a3,?_⟩;cases a4 with
         |@row _ _ _ cc q hφq hn hc hs2=>
          have:=p2.sub _ _ k1;rw[this,ak] at hφq;subst hφq;exact .row p1 hn hc hs2
        .exact a2.2 j x I
      obtain⟨q1,q2⟩:=p4.wset hb1 b1 (⟨rfl,rfl,rfl,rfl,b3,λ_ _=>rfl,λ_=>rfl⟩:EH w w kb ob2) hob (λn=>if n=nm b then af ⟨cty,.mx (splice Z (o+off) [fm p s.nx T.size xs.length])⟩ else ah) (by simp);have Y:eL (eL (bz s.h) [nm s.nx,nm id] nw) [nm b] (λn=>if n=nm b then af ⟨cty,.mx (splice Z (o+off) [fm p s.nx T.size xs.length])⟩ else ah)=bz h2:=by
       funext n;by_cases e1:n=nm b
       .subst e1;rw[hnew];simp[eL]
       .by_cases e2:n=nm s.nx
        .subst e2;rw[hnx2,aC hp];simp[eL,nw,hnb.symm]
        .by_cases e3:n=nm id
         .subst e3;rw[hdead];simp[eL,nw,hbi.symm,hni.symm]
         .rw[hoth n e1 e2 e3];simp[eL,e1,e2,e3]
      rw[Y] at q1 q2;have m:=p2.trans q1;refine ⟨φ',⟨q2,λt x I=>m.keep (c.env t x (hE t x I)),λn q hq=>?_,ir c.low,hinv,λt x I=>oq hr x (c.invE t x I),c.inert,c.size⟩,⟨Kh.refl _ _,m.own_,λi hi=>?_⟩,gj.refl _ _⟩
      .rcases p3 n q hq with M|M
       .exact zw (c.dom n q M)
       .simp only[aL] at M;subst M;rw[dU];exact qA _
      .cases hq:φ' (nm i) with
       |none=>
        cases hq2:φ (nm i) with
        |none=>rfl
        |some z=>rw[p2.sub _ _ hq2] at hq;cases hq
       |some z=>
        rcases p3 _ _ hq with M|M
        .exact M.symm
        .simp only[aL] at M;have:=kK M;have:=c.low;omega
    .cases h
   .cases h
  .cases h
 .rename_i id hk;split at h
  .rename_i ty p T xs J;simp only[ak] at h;subst h;have hfr:=c.invH.fresh;have hidlt:=c.invH.low id _ J;have hin:id≠s.nx:=by omega
   generalize hh2:((s.h.set id (af (.dead p T.size xs.length))).set s.nx (af (.rows ty p T xs)))=h2;have nM:∀ i,h2.get i=if i=s.nx then af (.rows ty p T xs) else if i=id then af (.dead p T.size xs.length) else s.h.get i:=λi=>by
    rw[<- hh2,PT.get_set,PT.get_set]
   have hr:ci s.h h2:=λi r hi=>by
    rw[bS] at hi ⊢;rw[nM];by_cases e2:i=s.nx
    .subst e2;rw[hfr] at hi;cases hi
    .rw[aC e2];by_cases e3:i=id
     .subst e3;rw[aF rfl];rw[J] at hi;exact hi
     .rw[aC e3];exact hi
   have hrow:cj h2 (.row s.nx)=af (fm p s.nx T.size xs.length):=by
    simp only[cj,bS,nM,bC,aH,mz]
   have hrow0:cj s.h (.row id)=af (fm p id T.size xs.length):=by
    simp only[cj,bS,J,aH,mz]
   have hdead:bz h2 (nm id)=ah:=by rw[bI,nM,aC hin,aF rfl];rfl
   have hnx2:bz h2 (nm s.nx)=if p&&xs.length==0 then ah else af ⟨ty,.fz (xs.flatMap (bQ T))⟩:=by rw[bI,nM,aF rfl];rfl
   have hid0:bz s.h (nm id)=if p&&xs.length==0 then ah else af ⟨ty,.fz (xs.flatMap (bQ T))⟩:=by rw[bI,J];rfl
   have hoth:∀ n,n≠nm s.nx->n≠nm id->bz h2 n=bz s.h n:=λn e2 e3=>kF c.invH hr λi e=>by
    subst e;rw[nM,aC (λe=>e2 (by rw[e])),aC (λe=>e3 (by rw[e]))]
   have hni:nm s.nx≠nm id:=λe=>hin (kK e).symm
   have hinv:lZ h2 (s.nx+1):=by
    refine ⟨λi ty2 l2 hil=>?_,λi q hiq=>?_⟩
    .rw[nM] at hil;split at hil
     .cases hil
     .split at hil
      .cases hil
      .exact iQ hr l2 (c.invH.cells i ty2 l2 hil)
    .rw[nM] at hiq;split at hiq
     .omega
     .split at hiq
      .omega
      .have:=c.invH.low i q hiq;omega
   have hE:∀ t x,t≠k->fO (s.e.set k (af (.row s.nx))) h2 t=af x->fO s.e s.h t=af x:=λt x ht I=>by
    simp only[fO,PT.get_set] at I ⊢;rw[aC ht] at I;cases he:s.e.get t with
    |none=>rw[he] at I;cases I
    |some q=>
     rw[he] at I;obtain⟨z,hz⟩:=pN s.h q (c.invE t q he);simp only[aH,gw hr q z hz,ak] at I;subst I;simp only[aH,hz]
   have hIE:s6 (s.e.set k (af (.row s.nx))) h2:=λt x I=>by
    simp only[PT.get_set] at I;split at I
    .cases I;exact Eg _ _ _ hrow
    .exact oq hr x (c.invE t x I)
   have hKp:gj (od [.ren k off] 0) s.e (s.e.set k (af (.row s.nx))):=λt ht v' hv'=>by
    simp only[PT.get_set] at hv';split at hv'
    .rename_i et;subst et;simp only[od] at ht;rw[bn,bX.2 rfl] at ht;simp at ht
    .exact⟨v',hv',λ_=>rfl⟩
   have U:=c.env k (fm p id T.size xs.length) (by simp only[fO,hk,aH,hrow0]);by_cases hp:(p&&xs.length==0)=ai
   .have Y:bz h2=bz s.h:=by
     funext n;by_cases e2:n=nm s.nx
     .subst e2;rw[hnx2,aF hp,bI,hfr];rfl
     .by_cases e3:n=nm id
      .subst e3;rw[hdead,hid0,aF hp]
      .exact hoth n e2 e3
    have hsame:fm p s.nx T.size xs.length=fm p id T.size xs.length:=by unfold fm;rw[aF hp,aF hp]
    refine ⟨φ,⟨by rw[Y];exact c.rep,λt x I=>?_,λn q hq=>zw (c.dom n q hq),ir c.low,hinv,hIE,c.inert,c.size⟩,by rw[Y];exact BL.refl _ _ _ _,hKp⟩;rw[Y];by_cases ht:t=k
    .subst ht;simp only[fO,PT.get_set,bC,aH,hrow,ak] at I;subst I;rw[hsame];exact U
    .exact c.env t x (hE t x ht I)
   .have hid1:bz s.h (nm id)=af ⟨ty,.fz (xs.flatMap (bQ T))⟩:=by rw[hid0,aC hp]
    obtain⟨kk,k1,k2,ob,k3,k4⟩:=c.rep.at_ _ _ hid1;have hφn:φ (nm s.nx)=ah:=by
     cases hq:φ (nm s.nx) with
     |none=>rfl
     |some q=>have:=c.dom _ q hq;rw[dU] at this;omega
    let nw:HF:=λn=>if n=nm s.nx then af ⟨ty,.fz (xs.flatMap (bQ T))⟩ else ah
    have hsh:EH w w kk ob:=⟨rfl,rfl,rfl,rfl,k3,λ_ _=>rfl,λ_=>rfl⟩
    obtain⟨φ',p1,p2,p3,p4⟩:=c.rep.wren hid1 k1 hφn hsh k4 nw (by simp[nw]) (by simp only[nw];rw[aC hni.symm]);have Y:eL (bz s.h) [nm s.nx,nm id] nw=bz h2:=by
     funext n;by_cases e2:n=nm s.nx
     .subst e2;rw[hnx2,aC hp];simp[eL,nw]
     .by_cases e3:n=nm id
      .subst e3;rw[hdead];simp[eL,nw,hni.symm]
      .rw[hoth n e2 e3];simp[eL,e2,e3]
    rw[Y] at p2 p4;refine ⟨φ',⟨p4,λt x I=>?_,λn q hq=>?_,ir c.low,hinv,hIE,c.inert,c.size⟩,⟨Kh.refl _ _,p2.own_,λi hi=>?_⟩,hKp⟩
    .by_cases ht:t=k
     .subst ht;simp only[fO,PT.get_set,bC,aH,hrow,ak] at I;subst I;unfold fm at U ⊢;rw[aC hp] at U ⊢;generalize a.tmps.getD t undef=z at U;cases U with
      |@row _ _ _ cc q hφq hn hc hs2=>
       rw[k1,ak] at hφq;subst hφq;exact .row p1 hn hc hs2
     .exact p2.keep (c.env t x (hE t x ht I))
    .rcases p3 n q hq with M|M
     .exact zw (c.dom n q M)
     .simp only[aL] at M;subst M;rw[dU];exact qA _
    .cases hq:φ' (nm i) with
     |none=>
      cases hq2:φ (nm i) with
      |none=>rfl
      |some z=>rw[p2.sub _ _ hq2] at hq;cases hq
     |some z=>
      rcases p3 _ _ hq with M|M
      .exact M.symm
      .simp only[aL] at M;have:=kK M;have:=c.low;omega
  .cases h
 .cases h
theorem ago {φ:PM} {s:TS} {a:Act} {w:World} (c:oC P E nt np φ s a w) {Z:Adj} {s':TS} (h:Oy s Z=af s') (hnr:∀ k off,Z≠ .ren k off):oC P E nt np φ s' a w/\BL np φ φ (bz s.h) (bz s'.h) w w/\gj (od [Z] 0) s.e s'.e:=by
 cases Z with
 |ren k off=>exact cU rfl (hnr k off)
 |nil k ty T=>
  simp only[Oy] at h;split at h
  .rename_i v hv;split at h
   .rename_i hn;simp only[ak] at h;subst h;obtain⟨J,M,hr⟩:=Wl c ty T;refine ⟨⟨J.rep,?_,J.dom,J.low,J.invH,?_,J.inert,J.size⟩,by rw[M];exact BL.refl _ _ _ _,?_⟩
    .intro t x I;simp only[fO,PT.get_set] at I;split at I
     .rename_i et;subst et;simp only[aH,cj,bS,PT.get_set,bC,mz,fm,jQ,cQ,iH,ak] at I;subst I;obtain⟨z,Y⟩:=pN s.h v (c.invE _ v hv);rw[M];exact Qt hn Y _ _ _ _ (c.env _ _ (by simp only[fO,hv,aH,Y]))
     .exact J.env t x I
    .intro t x I;simp only[PT.get_set] at I;split at I
     .cases I;simp only[KC,bS,PT.get_set,bC];rfl
     .exact J.invE t x I
    .intro t ht v' U;simp only[PT.get_set] at U;split at U
     .rename_i et;subst et;simp only[od] at ht;rw[bn,bX.2 rfl] at ht;simp at ht
     .exact⟨v',U,λ_=>rfl⟩
   .simp only[ak] at h;subst h;exact⟨c,BL.refl _ _ _ _,gj.refl _ _⟩
  .cases h
 |cel k off ty T=>
  simp only[Oy] at h;split at h
  .rename_i id o hk;split at h
   .rename_i cty l hb;split at h
    .rename_i v hv;split at h
     .rename_i hn;simp only[ak] at h;subst h;obtain⟨J,M,hr⟩:=Wl c ty T;have hid:id≠s.nx:=λe=>by have:=c.invH.low id _ hb;omega
      obtain⟨c2,t2⟩:=aa0 J (id:=id) (cty:=cty) (l:=l) (v:=v) (u:=.row s.nx) (by show (s.h.set s.nx _).get id=_;rw[PT.get_set,aC hid];exact hb) hv hn (by simp only[cj,bS,PT.get_set,bC,aH,mz,fm,jQ,cQ,iH]) (by simp only[KC,bS,PT.get_set,bC];rfl);exact⟨c2,by rw[<- M];exact t2,gj.refl _ _⟩
     .simp only[ak] at h;subst h;exact⟨c,BL.refl _ _ _ _,gj.refl _ _⟩
    .cases h
   .cases h
  .cases h
 |mpt k K V=>
  simp only[Oy] at h;split at h
  .rename_i id hk;split at h
   .rename_i K' V' es hb;split at h
    .rename_i hE;simp only[ak] at h;subst h;have hr:ci s.h (s.h.set id (af (.mp K V []))):=ci.set λr hr=>by rw[bS,hb] at hr;cases hr
     have M:bz (s.h.set id (af (.mp K V [])))=bz s.h:=by
      funext n;by_cases hn:n=nm id
      .subst hn;rw[bI,bI,PT.get_set,aF rfl,hb];simp only[aH,kr,Bk (afy (ul.1 hE).1),Bk (ul.1 hE).2,S9 (ul.1 hE).1,List.map_nil]
      .refine kF c.invH hr λi e=>?_
       subst e;rw[PT.get_set,aC (λe=>hn (by rw[e]))]
     refine ⟨⟨by rw[M];exact c.rep,?_,c.dom,c.low,c.invH.set hr (c.invH.low id _ hb) (bV _) (λ_ _ he=>by cases he),λt x I=>oq hr x (c.invE t x I),c.inert,c.size⟩,by rw[M];exact BL.refl _ _ _ _,gj.refl _ _⟩;intro t x I;rw[M];simp only[fO] at I;cases he:s.e.get t with
     |none=>rw[he] at I;cases I
     |some q=>
      rw[he] at I;obtain⟨z,Y⟩:=pN s.h q (c.invE t q he);simp only[aH,gw hr q z Y,ak] at I;subst I;exact c.env t _ (by simp only[fO,he,aH,Y])
    .simp only[ak] at h;subst h;exact⟨c,BL.refl _ _ _ _,gj.refl _ _⟩
   .cases h
  .cases h
 |pk k off T=>
  simp only[Oy] at h;split at h
  .obtain⟨h1,h2,h3⟩:=aj3 c h;exact⟨h1,h2,h3.mono λk hk=>by simp at hk⟩
  .cases h
theorem agn {φ:PM} {s:TS} {a:Act} {w:World} (c:oC P E nt np φ s a w) {I:Adj} {s':TS} (h:Oy s I=af s'):∃ φ',oC P E nt np φ' s' a w/\BL np φ φ' (bz s.h) (bz s'.h) w w/\gj (od [I] 0) s.e s'.e:=by
 by_cases hn:∃ k off,I= .ren k off
 .obtain⟨k,off,rfl⟩:=hn;exact aiy c h
 .exact⟨φ,ago c h λk off e=>hn ⟨k,off,e⟩⟩
theorem UO {φ:PM} {a:Act} {w:World}:∀ {l:List Adj} {s s':TS},oC P E nt np φ s a w->XN s l=af s'->∃ φ',oC P E nt np φ' s' a w/\BL np φ φ' (bz s.h) (bz s'.h) w w/\gj (od l 0) s.e s'.e
 |[],s,s',c,h=>by simp only[XN,ak] at h;subst h;exact⟨φ,c,BL.refl _ _ _ _,gj.refl _ _⟩
 |I::r,s,s',c,h=>by
  simp only[XN] at h;split at h
  .rename_i s1 h1;obtain⟨φ1,U,t1,k1⟩:=agn c h1;obtain⟨φ2,M,J,k2⟩:=UO U h;refine ⟨φ2,M,t1.trans J,(k1.mono ?_).trans (k2.mono ?_)⟩
   .intro k hk;cases I with
    |nil q ty T=>simp only[od] at hk ⊢;rw[lX,bn,hk];rfl
    |cel q off ty T=>simp[od] at hk
    |mpt q K V=>simp[od] at hk
    |pk q off T=>simp[od] at hk
    |ren q off=>simp only[od] at hk ⊢;rw[lX,bn,hk];rfl
   .intro k hk;cases I with
    |nil q ty T=>simp only[od];rw[lX,bn,hk];simp
    |cel q off ty T=>simp only[od];exact hk
    |mpt q K V=>simp only[od];exact hk
    |pk q off T=>simp only[od];exact hk
    |ren q off=>simp only[od];rw[lX,bn,hk];simp
  .cases h
mutual
theorem Qk {h:bf}:∀ (v:TV) (y:AV),tW v=ai->cj h v=af y->y.all (λ_=>aj)=ai
 |.f _ _,y,_,he=>by simp only[cj,ak] at he;subst he;rfl
 |.fel _ _ _ _ _,y,_,he=>by simp only[cj,ak] at he;subst he;rfl
 |.emp,y,_,he=>by simp only[cj,ak] at he;subst he;rfl
 |.nil,y,_,he=>by simp only[cj,ak] at he;subst he;rfl
 |.undef,y,_,he=>by simp only[cj,ak] at he;subst he;rfl
 |.np,y,_,he=>by simp only[cj,ak] at he;subst he;rfl
 |.anyb,y,_,he=>by simp only[cj,ak] at he;subst he;rfl
 |.agg l,y,hl,he=>by
  simp only[cj] at he;split at he
  .rename_i l' hl';simp only[ak] at he;subst he;exact Ed l l' hl hl'
  .cases he
 |.tup l,y,hl,he=>by
  simp only[cj] at he;split at he
  .rename_i l' hl';simp only[ak] at he;subst he;exact Ed l l' hl hl'
  .cases he
 |.pel _ _ _ _,_,h,_=>by cases h
 |.ptr _ _,_,h,_=>by cases h
 |.csl _ _ _,_,h,_=>by cases h
 |.row _,_,h,_=>by cases h
 |.rtl _ _,_,h,_=>by cases h
 |.mp _,_,h,_=>by cases h
 |.clo _ _,_,h,_=>by cases h
theorem Ed {h:bf}:∀ (l:List TV) (l':List AV),qc l=ai->cH h l=af l'->AV.allL (λ_=>aj) l'=ai
 |[],l',_,he=>by simp only[cH,ak] at he;subst he;rfl
 |x::r,l',hl,he=>by
  obtain⟨y,l2,rfl,e1,e2⟩:=cS he;simp only[qc,av] at hl;simp only[AV.allL,av];exact⟨Qk x y hl.1 e1,Ed r l2 hl.2 e2⟩
end
mutual
theorem VN (h:bf):∀ (v:TV),tW v=ai->KC h v=ai
 |.f _ _,_=>rfl
 |.fel _ _ _ _ _,_=>rfl
 |.emp,_=>rfl
 |.nil,_=>rfl
 |.undef,_=>rfl
 |.np,_=>rfl
 |.anyb,_=>rfl
 |.agg l,hl=>II h l hl
 |.tup l,hl=>II h l hl
 |.pel _ _ _ _,h=>by cases h
 |.ptr _ _,h=>by cases h
 |.csl _ _ _,h=>by cases h
 |.row _,h=>by cases h
 |.rtl _ _,h=>by cases h
 |.mp _,h=>by cases h
 |.clo _ _,h=>by cases h
theorem II (h:bf):∀ (l:List TV),qc l=ai->kJ h l=ai
 |[],_=>rfl
 |x::r,hl=>by
  simp only[qc,av] at hl;simp only[kJ,av];exact⟨VN h x hl.1,II h r hl.2⟩
end
structure Seen (np:Nat) (t:Tm) (x:t.ty.den) (us:List TV) (h1:bf) (φ φ':PM) (H:HF) (E:Nat->Prop) (w:World) (la lu:List AV):Prop where
 rep:qL φ' E (bz h1) w
 val:∀ (j:Nat) y v,lu[j]? =af y->∃ z,la[j]? =af z/\(cI φ (tot E φ H) w z v->cI φ' (tot E φ' (bz h1)) w y v)
 len:lu.length=la.length
 tot_:∀ k,tot E φ' (bz h1) k->tot E φ H k
 own_:∀ k,own φ' (bz h1) k->own φ H k
 dom:∀ n k,φ' n=af k->ow n<t.bs.length
 par:∀ i,i<np->i<t.bs.length->φ' (nm i)=φ (nm i)
theorem Kw {t:Tm} {x:t.ty.den} {us:List TV} {h1:bf} {l1:List (Option im)} (I:qx t x us h1 l1) {h:bf} {nx:Nat} (hinv:lZ h nx) {vs:List TV} {m:Nat} {σ:PT Nat} {sm:Nat} (M:Hl np t vs h x m σ sm) {la:List AV} (hla:cH h vs=af la) {φ:PM} {w:World} (r:qL φ E (bz h) w):∃ φ' lu,cH h1 us=af lu/\Seen np t x us h1 φ φ' (bz h) E w la lu:=by
 obtain⟨x1,m1,x2,m2,hx,hmm,gv,gb⟩:=M.ex;have hmr:dK h m:=by rw[hmm];exact (Ha _ _ _ _ gv).or (Hc _ _ _ _ gb)
 have pvg:pK (hZ σ) t.vs x1=af (kq (hZ σ) us):=by
  have U:=s8 (hZ σ) t.vs x1;have J:=I.pv;rw[hx,sY] at J;rw[U,J];rfl
 have pbg:oo (hZ σ) t.bs x2=af (l1.map (lD (lH (hZ σ)))):=by
  have U:=vJ (hZ σ) t.bs x2;have J:=I.pb;rw[hx,uE] at J;rw[U,J];rfl
 have hbm:∀ i b,l1[i]? =af (af b)->∃ b0,h.get (hZ σ i)=af b0/\BM (hZ σ) h m b0 (lH (hZ σ) b):=λi b hb=>by
  obtain⟨b0,Y,Z⟩:=IG t.bs 0 x2 m2 _ gb pbg i (lH (hZ σ) b) (by rw[ba,hb];rfl);rw[bN] at Y;exact⟨b0,Y,Z.mono λj hj=>by rw[hmm,bn,hj];simp⟩
 let hv:bf:=zZ (hZ σ) 0 (l1.map (lD (lH (hZ σ)))) PT.leaf
 have hv_at:∀ i b,l1[i]? =af (af b)->hv.get (hZ σ i)=af (lH (hZ σ) b):=λi b hb=>by
  have:=uI (hZ σ) (l1.map (lD (lH (hZ σ)))) 0 PT.leaf (λa b ha hb=>by
   simp only[bY,I.len] at ha hb;simp only[bN];exact M.inj a b ha hb) i (af (lH (hZ σ) b)) (by rw[ba,hb];rfl)
  rw[bN] at this;exact this
 have hv_ex:∀ j c,hv.get j=af c->∃ i b,l1[i]? =af (af b)/\j=hZ σ i/\c=lH (hZ σ) b:=λj c hj=>by
  by_cases hex:∃ i,i<l1.length/\j=hZ σ i
  .obtain⟨i,hi,rfl⟩:=hex;have hcc:=aA hi;cases hcv:l1[i] with
   |some b=>rw[hcv] at hcc;rw[hv_at i b hcc] at hj;cases hj;exact⟨i,b,hcc,rfl,rfl⟩
   |none=>
    rw[hcv] at hcc;have:=uI (hZ σ) (l1.map (lD (lH (hZ σ)))) 0 PT.leaf (λa b ha hb=>by
     simp only[bY,I.len] at ha hb;simp only[bN];exact M.inj a b ha hb) i ah (by rw[ba,hcc];rfl)
    rw[bN] at this;have hj':(zZ (hZ σ) 0 (l1.map (lD (lH (hZ σ)))) PT.leaf).get (hZ σ i)=af c:=hj;rw[this] at hj';simp[PT.get] at hj'
  .have:hv.get j=(PT.leaf:bf).get j:=uH (hZ σ) _ 0 _ j λk hk=>by
    simp only[bY] at hk;rw[bN];exact λe=>hex ⟨k,hk,e⟩
   rw[this] at hj;simp[PT.get] at hj
 have rows_in:xw hv h:=λj q hq=>by
  rw[bS] at hq ⊢;cases hc:hv.get j with
  |none=>rw[hc] at hq;cases hq
  |some c=>
   rw[hc] at hq;obtain⟨i,b,Y,rfl,rfl⟩:=hv_ex j c hc;obtain⟨b0,Z,q3⟩:=hbm i b Y;rw[Z];simp only[aH] at hq ⊢;rw[<- q3.row];exact hq
 have rows_h1:∀ i q,eh h1 i=af q->eh hv (hZ σ i)=af q:=λi q hq=>by
  rw[bS] at hq ⊢;cases hb:h1.get i with
  |none=>rw[hb] at hq;cases hq
  |some b=>
   rw[hb] at hq;rw[hv_at i b ((I.at_ i b).1 hb)];simp only[aH,HC] at hq ⊢;exact hq
 have hd:uY (bz h) (bz hv):=λn y hy=>by
  obtain⟨j,c,rfl,U,J⟩:=js hy;obtain⟨i,b,Y,rfl,rfl⟩:=hv_ex j c U;obtain⟨b0,Z,q3⟩:=hbm i b Y;obtain⟨y0,hy0⟩:=BM.erB_some hinv Z q3 J;exact⟨y0,by rw[bI,Z];exact hy0⟩
 have gvv:Dv h (bz h) (bz hv) m:=λi hi=>⟨rfl,by
  cases hc:bz hv (nm i) with
  |none=>rfl
  |some y=>
   obtain⟨j,c,e,U,J⟩:=js hc;have:=kK e;subst this;obtain⟨k,b,Y,rfl,rfl⟩:=hv_ex i c U;have hk:k<t.bs.length:=by rw[<- I.len];exact (bh.1 Y).1
   have h5:=M.disj _ hi;rw[(M.sig _).2 ⟨k,hk,rfl⟩] at h5;cases h5⟩
 have V:J4 (bz h) (bz hv):=⟨hd,λn b b' hb hb'=>by
  obtain⟨j,c,rfl,U,J⟩:=js hb';obtain⟨i,bb,Y,rfl,rfl⟩:=hv_ex j c U;obtain⟨b0,Z,q3⟩:=hbm i bb Y;rw[bI,Z] at hb;exact BM.view hd gvv rows_in q3 hb J⟩
 have rv:=V.rep r;have T:adk t x us h1 (hZ σ) φ E E (bz hv) w:=by
  refine qL.toId I M.inj rv (λi b yb hb hyb=>?_) (λk hk=>.inl hk) (λi k b hi U J hE=>?_) rv.el
  .rw[bI,hv_at i b ((I.at_ i b).1 hb)];exact CF rows_h1 hyb
  .obtain⟨k',p1,p2,_⟩:=rv.at_ _ _ U;rw[J] at p1;cases p1;exact p2 hE
 obtain⟨lu,hlu⟩:=fk h1 us I.ok;have hlug:cH hv (kq (hZ σ) us)=af (AV.renL (Hd (hZ σ)) lu):=qi rows_h1 us lu hlu;have hle:=Cz hd rows_in t.vs vs x1 m1 _ la _ gv pvg hla hlug (λi hi=>gvv i (by rw[hmm,bn,hi];rfl));have hall:=sV us lu I.lt hlu;refine ⟨_,lu,hlu,T.rep,λj y v hy=>?_,?_,λk hk=>hd.tot (T.tot_ k hk),λk hk=>hd.own (T.own_ k hk),λn k hk=>?_,λi hi hb=>?_⟩
 .rw[om] at hle;obtain⟨z,hz,hlz⟩:=hle.get j (y.ren (Hd (hZ σ))) (by rw[ba,hy];rfl);exact⟨z,hz,λhr=>T.val y v (lV hall y (a_ hy)) (hlz _ _ _ _ r hr)⟩
 .have:=hle.length;rw[om,bY] at this;exact this
 .obtain⟨i,hi,rfl,_⟩:=wL hk;rw[dU];exact hi
 .rw[Yu hb,M.fix i hi]
theorem Nk {φ:PM} {s':TS} {a:Act} {w:World} (c:oC P E nt np φ s' a w) {A:Yr} {am:Nat} {s0 s1:TS} {x:A.D} (J:K9 np A am s0 s'=af x) (hs:F_ A am s0 x=af s1)
 (hk:∀ k,k∈A.keep->k∉A.ks->∀ v,s0.e.get k=af v->tW v=ai->aN am k=aj->∀ Z,s'.e.get k=af Z->Z=v):∃ φ',oC P E nt np φ' s1 a w/\BL np φ φ' (bz s'.h) (bz s1.h) w w:=by
 unfold K9 at J;split at J
 .rename_i hc;simp only[av] at hc;have hnp:=a8 hc.1;split at J
  .rename_i s2 h2;obtain⟨φ2,c2,t2,_⟩:=UO c h2;split at J
   .rename_i vs hvs;split at J
    .rename_i z m σ sm hM;simp only[ak] at J;subst J;have M:=vR hM;unfold F_ at hs;split at hs
     .rename_i us h1 hi;obtain⟨l1,I⟩:=vX hi;split at hs
      .rename_i hlen;have hlen:=aw hlen;simp only[ak] at hs;subst hs;obtain⟨g1,g2⟩:=VK hvs;have hvok:kJ s2.h vs=ai:=HQ c2.invE hvs;obtain⟨la,hla⟩:=fk s2.h vs hvok;obtain⟨φ',lu,hlu,S⟩:=Kw (E:=E) I c2.invH M hla c2.rep;refine ⟨φ',⟨S.rep,?_,S.dom,hnp,⟨λi ty l hl=>(I.cells i ty l hl).1,λi b hb=>I.lt_len hb⟩,?_,c.inert,c.size⟩,t2.trans ⟨Kh.refl _ _,λk _ h=>S.own_ k h,λi hi=>S.par i hi (by omega)⟩⟩
       .intro t y U;simp only[fO] at U;cases ht:(WD (Cj am s0.e A.keep) A.ks us).get t with
        |none=>rw[ht] at U;cases U
        |some v=>
         rw[ht] at U;simp only[aH] at U;rcases BV hlen t v ht with ⟨j,q1,Y⟩|⟨q1,Y⟩
         .obtain⟨y',p1,p2⟩:=lU hlu j v Y;rw[U] at p2;cases p2;obtain⟨z,p3,p4⟩:=S.val j y (a.tmps.getD t undef) p1;refine p4 ?_;obtain⟨v0,p5,p6⟩:=g2 j t q1;obtain⟨z',p7,p8⟩:=lU hla j v0 p5;rw[p3] at p7;cases p7;exact c2.env t _ (by simp only[fO,p6,aH,p8])
         .obtain⟨k1,k2,k3,k4⟩:=tf Y;obtain⟨Z,k5⟩:=Ic hc.2 t v k1 k2 k3 k4;have:=hk t k1 q1 v k2 k3 k4 Z k5;subst this;have h3:=c.env t y (by simp only[fO,k5,aH];rw[Qu s'.h h1 Z k3];exact U);exact h3.restrict (p:=λ_=>aj) (λi k hi _=>by cases hi) (λk hk=>by
           have h4:=S.tot_ k hk;rcases h4 with h4|h4
           .exact .inl h4
           .exact .inr (by
             have hkl:k<w.heap.size:=by
              obtain⟨n,b,e1,e2⟩:=h4;obtain⟨k',p1,_,ob,p3,_⟩:=c2.rep.at_ n b e1;rw[e2] at p1;cases p1;exact (cC.1 p3).1
             exact t2.own_ k hkl h4)) (Qk Z y k3 U)
       .intro t v hv;rcases BV hlen t v hv with ⟨j,q1,Y⟩|⟨q1,Y⟩
        .obtain⟨y',_,p2⟩:=lU hlu j v Y;exact Eg _ _ _ p2
        .exact VN _ v (tf Y).2.2.1
      .cases hs
     .cases hs
    .cases J
   .cases J
  .cases J
 .cases J
theorem DB {A:Yr} {am:Nat} {I s1:TS} {x:A.D} (hs:F_ A am I x=af s1):gj (KH A.ks 0) I.e s1.e/\∀ k,k∉A.ks->∀ v,s1.e.get k=af v->I.e.get k=af v:=by
 unfold F_ at hs;split at hs
 .rename_i us h1 hi;split at hs
  .rename_i hlen;have hlen:=aw hlen;simp only[ak] at hs;subst hs;have key:∀ k,k∉A.ks->∀ v,(WD (Cj am I.e A.keep) A.ks us).get k=af v->I.e.get k=af v:=λk hk v hv=>by
    rcases BV hlen k v hv with ⟨j,U,_⟩|⟨_,M⟩
    .exact cU (a_ U) hk
    .exact (tf M).2.1
   refine ⟨λk hk J hv=>?_,key⟩;have hnk:k∉A.ks:=λhm=>by rw[Vx hm] at hk;cases hk
   exact⟨J,key k hnk J hv,λ_=>rfl⟩
  .cases hs
 .cases hs
end walk
inductive Er:TC->SC->Prop
 |skip:Er .skip .skip
 |reg (ops:List r_) (prs:List (Nat×Nat)):Er (.reg ops prs) (.reg ops prs)
 |seq {a b:TC} {a' b':SC}:Er a a'->Er b b'->Er (.seq a b) (.seq a' b')
 |jseq (A:Yr) {a b:TC} {a' b':SC}:Er a a'->Er b b'->Er (.jseq A a b) (.seq a' b')
 |cond (c:Nat) {a b:TC} {a' b':SC}:Er a a'->Er b b'->Er (.cond c a b) (.cond c a' b')
 |block (id:Nat) {b:TC} {b':SC}:Er b b'->Er (.block id b) (.block id b')
 |jblock (A:Yr) (id:Nat) {b:TC} {b':SC}:Er b b'->Er (.jblock A id b) (.block id b')
 |loop (A:Yr) {b:TC} {b':SC}:Er b b'->Er (.loop A b) (.loop b')
 |exit (id:Nat):Er (.exit id) (.exit id)
 |ret:Er .ret .ret
 |defer (f:FuncId) (c:List Operand) (t:Nat):Er (.defer f c t) (.defer f c t)
 |adj (l:List Adj) {c:TC} {c':SC}:Er c c'->Er (.adj l c) c'
 |split (k off lo n:Nat) {c:TC} {c':SC}:Er c c'->Er (.split k off lo n c) c'
 |unl (n:Nat) {b:TC} {b':SC}:Er b b'->Er (.unl n b) (.loop b')
 |bad (c:SC):Er .bad c
theorem BO {H:PT aar} {n:Nat} {c:TC} {c':SC} (h:Er c c'):Er (Hp H n c) c':=by
 unfold Hp;split
 .exact .adj _ h
 .exact .split _ _ _ _ h
 .exact h
theorem xq (H:PT aar):∀ (c:SC) (n:Nat),Er (C9 H c n).1 c
 |.skip,n=>BO .skip
 |.reg o p,n=>BO (.reg o p)
 |.seq a b,n=>by
  have h1:=xq H a (n+1);have h2:=xq H b (C9 H a (n+1)).2;simp only[C9];split
  .exact .jseq _ h1 h2
  .exact .seq h1 h2
 |.cond c a b,n=>by
  have h1:=xq H a (n+1);have h2:=xq H b (C9 H a (n+1)).2;simp only[C9];exact BO (.cond c h1 h2)
 |.block id b,n=>by
  have h1:=xq H b (n+1);simp only[C9];split
  .exact .jblock _ id h1
  .exact .block id h1
 |.loop b,n=>by
  have h1:=xq H b (n+1);simp only[C9];split
  .exact .loop _ h1
  .exact .unl _ h1
  .exact .bad _
 |.exit id,n=>BO (.exit id)
 |.ret,n=>BO .ret
 |.defer f c t,n=>.defer f c t
 |.bad,n=>.bad _
theorem WU {σ R:Type} {step:σ->Option (σ⊕R)} {x:σ} {r:R} (h:iter step x=af r):∃ n,iterN step n x=af r:=by
 unfold iter at h;split at h
 .exact⟨_,h⟩
 .cases h
theorem VB {α R:Type} {o:Option (R⊕α)} {k:α->Option R} {r:R} (h:jn o k=af r):(∃ x,o=af (.inr x)/\k x=af r)\/o=af (.inl r):=by
 unfold jn at h;split at h
 .exact .inl ⟨_,rfl,h⟩
 .cases h;exact .inr rfl
 .cases h
section inv
variable {P:Program} {nt:Nat}
theorem ze (id:Nat) (ops:Array Oper) (I:Bool):co P nt (.region id ops I)= .bad\/
 ((ops.toList.all λo=>match o.dst with|some d=>decide (d<nt)|none=>ai)=ai/\
   ((∃ f caps t,C8 ops I=af (f,caps,t)/\co P nt (.region id ops I)= .defer f caps t)\/
    ∃ l prs,rK P ops ops.toList=af l/\LP ops l=af prs/\co P nt (.region id ops I)= .reg l prs)):=by
 simp only[co];split
 .rename_i hd;split
  .rename_i f caps t h;exact .inr ⟨hd,.inl ⟨f,caps,t,h,rfl⟩⟩
  .split
   .rename_i l hl;split
    .rename_i prs hp;exact .inr ⟨hd,.inr ⟨l,prs,hl,hp,rfl⟩⟩
    .exact .inl rfl
   .exact .inl rfl
 .exact .inl rfl
def DI:Code->Bool
 |.cond (.const (.bool _)) _ _=>aj
 |_=>ai
theorem jY (P:Program) (nt:Nat) (c:Code):∃ c',DI c'=ai/\co P nt c'=co P nt c/\∀ Q a w,c'.wp P Q a w->c.wp P Q a w:=by
 have self:∀ c:Code,DI c=ai->∃ c',DI c'=ai/\co P nt c'=co P nt c/\∀ Q a w,c'.wp P Q a w->c.wp P Q a w:=λc h=>⟨c,h,rfl,λ_ _ _ h=>h⟩
 induction c with
 |cond o x y ihx ihy=>
  cases o with
  |const v=>
   cases v with
   |bool b=>
    cases b with
    |true=>
     obtain⟨c',h1,h2,I⟩:=ihx;exact⟨c',h1,h2,λQ a w h=>wp_cond_true rfl (I Q a w h)⟩
    |false=>
     obtain⟨c',h1,h2,I⟩:=ihy;exact⟨c',h1,h2,λQ a w h=>wp_cond_false rfl (I Q a w h)⟩
   |_=>exact self _ rfl
  |_=>exact self _ rfl
 |_=>exact self _ rfl
theorem E9 {α:Prop} {o:Operand} {x y:Code} {sc:SC} (hn:DI (.cond o x y)=ai) (h:co P nt (.cond o x y)=sc) (h1:sc≠ .bad) (h2:∀ t a b,sc≠ .cond t a b):α:=by
 cases o with
 |tmp q=>exact (h2 _ _ _ h.symm).elim
 |const v=>cases v<;>first|exact (h1 h.symm).elim|cases hn
 |global g=>exact (h1 h.symm).elim
 |func f=>exact (h1 h.symm).elim
theorem ac7 {c:Code} {sl:List r_} {prs:List (Nat×Nat)} (hn:DI c=ai) (h:co P nt c= .reg sl prs):∃ id ops I,c= .region id ops I/\(ops.toList.all λo=>match o.dst with|some d=>decide (d<nt)|none=>ai)=ai/\rK P ops ops.toList=af sl/\LP ops sl=af prs:=by
 cases c with
 |region id ops I=>
  rcases ze (P:=P) (nt:=nt) id ops I with h1|⟨hd,⟨f,caps,t,_,h1⟩|⟨l,p,h2,J,h1⟩⟩
  .rw[h1] at h;cases h
  .rw[h1] at h;cases h
  .rw[h1] at h;cases h;exact⟨id,ops,I,rfl,hd,h2,J⟩
 |cond o x y=>exact E9 hn h (by simp) (by simp)
 |_=>simp[co] at h
theorem WV {c:Code} {f:FuncId} {caps:List Operand} {t:Nat} (hn:DI c=ai) (h:co P nt c= .defer f caps t):∃ id ops I,c= .region id ops I/\(ops.toList.all λo=>match o.dst with|some d=>decide (d<nt)|none=>ai)=ai/\C8 ops I=af (f,caps,t):=by
 cases c with
 |region id ops I=>
  rcases ze (P:=P) (nt:=nt) id ops I with h1|⟨hd,⟨f',caps',t',h2,h1⟩|⟨l,p,h2,J,h1⟩⟩
  .rw[h1] at h;cases h
  .rw[h1] at h;cases h;exact⟨id,ops,I,rfl,hd,h2⟩
  .rw[h1] at h;cases h
 |cond o x y=>exact E9 hn h (by simp) (by simp)
 |_=>simp[co] at h
theorem oZ {c:Code} {sc:SC} (h:co P nt c=sc) (h1:sc≠ .bad) (h2:∀ a b,sc≠ .reg a b) (M:∀ a b t,sc≠ .defer a b t):∀ id ops J,c≠ .region id ops J:=by
 rintro id ops J rfl;rcases ze (P:=P) (nt:=nt) id ops J with I|⟨_,⟨f,caps,t,_,I⟩|⟨l,p,_,_,I⟩⟩<;>rw[I] at h
 .exact h1 h.symm
 .exact M _ _ _ h.symm
 .exact h2 _ _ h.symm
theorem Zf {c:Code} (hn:DI c=ai) (h:co P nt c= .skip):c= .skip:=by
 have I:=oZ h (by simp) (by simp) (by simp);cases c with
 |skip=>rfl
 |region id ops J=>exact cU rfl (I id ops J)
 |cond o x y=>exact E9 hn h (by simp) (by simp)
 |_=>simp[co] at h
theorem ac6 {c:Code} (hn:DI c=ai) (h:co P nt c= .ret):c= .ret:=by
 have I:=oZ h (by simp) (by simp) (by simp);cases c with
 |ret=>rfl
 |region id ops J=>exact cU rfl (I id ops J)
 |cond o x y=>exact E9 hn h (by simp) (by simp)
 |_=>simp[co] at h
theorem Zg {c:Code} {i:Nat} (hn:DI c=ai) (h:co P nt c= .exit i):c= .exit i:=by
 have I:=oZ h (by simp) (by simp) (by simp);cases c with
 |exit id=>simp[co] at h;rw[h]
 |region id ops J=>exact cU rfl (I id ops J)
 |cond o x y=>exact E9 hn h (by simp) (by simp)
 |_=>simp[co] at h
theorem VD {c:Code} {a b:SC} (hn:DI c=ai) (h:co P nt c= .seq a b):∃ x y,c= .seq x y/\co P nt x=a/\co P nt y=b:=by
 have I:=oZ h (by simp) (by simp) (by simp);cases c with
 |seq x y=>simp[co] at h;exact⟨x,y,rfl,h.1,h.2⟩
 |region id ops J=>exact cU rfl (I id ops J)
 |cond o x y=>exact E9 hn h (by simp) (by simp)
 |_=>simp[co] at h
theorem Zh {c:Code} {t:Nat} {a b:SC} (hn:DI c=ai) (h:co P nt c= .cond t a b):∃ x y,c= .cond (.tmp t) x y/\co P nt x=a/\co P nt y=b:=by
 have I:=oZ h (by simp) (by simp) (by simp);cases c with
 |cond o x y=>
  cases o with
  |tmp q=>simp[co] at h;obtain⟨rfl,h1,h2⟩:=h;exact⟨x,y,rfl,h1,h2⟩
  |const v=>cases v<;>first|(simp [co] at h;done)|cases hn
  |_=>simp[co] at h
 |region id ops J=>exact cU rfl (I id ops J)
 |_=>simp[co] at h
theorem L1 {c:Code} {id:Nat} {b:SC} (hn:DI c=ai) (h:co P nt c= .block id b):∃ y,c= .block id y/\co P nt y=b:=by
 have I:=oZ h (by simp) (by simp) (by simp);cases c with
 |block i y=>simp[co] at h;obtain⟨rfl,h1⟩:=h;exact⟨y,rfl,h1⟩
 |region id ops J=>exact cU rfl (I id ops J)
 |cond o x y=>exact E9 hn h (by simp) (by simp)
 |_=>simp[co] at h
theorem PA {c:Code} {b:SC} (hn:DI c=ai) (h:co P nt c= .loop b):∃ y,c= .loop y/\co P nt y=b:=by
 have I:=oZ h (by simp) (by simp) (by simp);cases c with
 |loop y=>simp[co] at h;exact⟨y,rfl,h⟩
 |region id ops J=>exact cU rfl (I id ops J)
 |cond o x y=>exact E9 hn h (by simp) (by simp)
 |_=>simp[co] at h
end inv
def af9 {R:Type} (P:Program) (E:Nat->Prop) (nt np:Nat) (φ:PM) (s:TS) (w:World) (am:Nat) (K:Ex->TS->Option R) (r:R):Exit->Act->World->Prop:=
 λe a' w'=>∃ ex s' φ',e=ex.to/\K ex s'=af r/\oC P E nt np φ' s' a' w'/\BL np φ φ' (bz s.h) (bz s'.h) w w'/\gj am s.e s'.e
theorem oC.bool {P:Program} {E:Nat->Prop} {nt np:Nat} {φ:PM} {s:TS} {a:Act} {w:World} (c:oC P E nt np φ s a w) {t:Nat} {b:Bool} (ht:s.e.get t=af (.f .bool b)):a.eval (.tmp t)= .bool b:=
 fo (c.env t _ (by simp only[fO,ht,aH,cj];rfl))
theorem oC.anyb {P:Program} {E:Nat->Prop} {nt np:Nat} {φ:PM} {s:TS} {a:Act} {w:World} (c:oC P E nt np φ s a w) {t:Nat} (ht:s.e.get t=af .anyb):∃ b,a.eval (.tmp t)= .bool b:=by
 have:=c.env t .anyb (by simp only[fO,ht,aH,cj]);show ∃ b,a.tmps.getD t undef= .bool b;generalize a.tmps.getD t undef=z at this;cases this with
 |anyb=>exact⟨_,rfl⟩
theorem XL {R:Type} {a b:Option R} {r:R} (h:EB a b=af r):a=af r/\b=af r:=by
 unfold EB at h;split at h
 .rename_i e;exact⟨h,by rw[<- e];exact h⟩
 .cases h
theorem afo {P:Program} {E:Nat->Prop} {nt np:Nat} {con:FuncId->Option cu} {b9:TypeId->Option Ty} {inert:FuncId->Bool} (hm:P.follows .mixedOrders=ai) (hcon:Kj P con) (hin:Kf P inert):
 ∀ {tc:TC} {sc:SC},Er tc sc->∀ (c:Code),co P nt c=sc->∀ (R:Type) (s:TS) (K:Ex->TS->Option R) (r:R),oS np con b9 inert tc s K=af r->∀ (φ:PM) (a:Act) (w:World),oC P E nt np φ s a w->c.wp P (af9 P E nt np φ s w (tc.asg 0) K r) a w:=by
 intro tc sc hE;induction hE with
 |skip=>
  intro c hc R s K r h φ a w g;obtain⟨c',hn,I,hsim⟩:=jY P nt c;refine hsim _ _ _ ?_;rw[<- I] at hc;rw[Zf hn hc];exact wp_skip ⟨.normal,s,φ,rfl,h,g,BL.refl _ _ _ _,gj.refl _ _⟩
 |reg ops prs=>
  intro c hc R s K r h φ a w g;obtain⟨c',hn,I,hsim⟩:=jY P nt c;refine hsim _ _ _ ?_;rw[<- I] at hc;obtain⟨id,os,dr,rfl,h1,h2,h3⟩:=ac7 hn hc;simp only[oS] at h;refine YQ (K:=λs'=>K .normal s') hm hcon g (am:=Ou ops 0) (λj o d ho hd=>?_) h1 h2 h3 h λa' w' s' φ' Z J q3 q4=>⟨.normal,s',φ',rfl,Z,J,q3,q4⟩
  have hmem:o∈os.toList:=by have:=Array.mem_of_getElem? ho;simpa using this
  have key:∀ (rest:List Oper) (sl:List r_),rK P os rest=af sl->∀ o∈rest,∃ so∈sl,so.dst=o.dst:=by
   intro rest;induction rest with
   |nil=>intro sl _ o ho;cases ho
   |cons x rest ih=>
    intro sl hsl o ho;simp only[rK] at hsl;split at hsl
    .rename_i l hl;have:∃ so,sl=so::l/\so.dst=x.dst:=by
      split at hsl
      .simp only[ak] at hsl;exact⟨_,hsl.symm,rfl⟩
      .split at hsl
       .simp only[ak] at hsl;exact⟨_,hsl.symm,rfl⟩
       .cases hsl
     obtain⟨so,rfl,hso⟩:=this;rcases bi.1 ho with rfl|ho
     .exact⟨so,by simp,hso⟩
     .obtain⟨q,hq,hq2⟩:=ih l hl o ho;exact⟨q,by simp[hq],hq2⟩
    .cases hsl
  obtain⟨so,hso,hd2⟩:=key os.toList ops h2 o hmem;exact RD hso (by rw[hd2];exact hd)
 |@seq x y x' y' _ _ ihx ihy=>
  intro c hc R s K r h φ a w g;obtain⟨c',hn,I,hsim⟩:=jY P nt c;refine hsim _ _ _ ?_;rw[<- I] at hc;obtain⟨cx,cy,rfl,h1,h2⟩:=VD hn hc;simp only[oS] at h;refine wp_seq (wp_mono (ihx cx h1 R s _ r h φ a w g) ?_);rintro e a' w' ⟨ex,s',φ',rfl,hk,g',st,M⟩;have kp':gj ((TC.seq x y).asg 0) s.e s'.e:=M.mono λk hk=>by simp only[TC.asg];exact kf hk
  cases ex with
  |normal=>
   refine wp_mono (ihy cy h2 R s' K r hk φ' a' w' g') ?_;rintro e2 a2 w2 ⟨ex2,s2,φ2,rfl,hk2,g2,YI,kp2⟩;exact⟨ex2,s2,φ2,rfl,hk2,g2,st.trans YI,kp'.trans (kp2.mono λk hk=>by simp only[TC.asg];exact uX hk)⟩
  |exit id=>exact⟨.exit id,s',φ',rfl,hk,g',st,kp'⟩
  |ret=>exact⟨.ret,s',φ',rfl,hk,g',st,kp'⟩
 |@jseq A x y x' y' _ _ ihx ihy=>
  intro c hc R s K r h φ a w g;obtain⟨c',hn,I,hsim⟩:=jY P nt c;refine hsim _ _ _ ?_;rw[<- I] at hc;obtain⟨cx,cy,rfl,h1,h2⟩:=VD hn hc;simp only[oS] at h;have sub1:∀ k,aN (x.asg 0) k=ai->aN ((TC.jseq A x y).asg 0) k=ai:=λk hk=>by simp only[TC.asg];exact kf (uX hk)
  have sub2:∀ k,aN (y.asg 0) k=ai->aN ((TC.jseq A x y).asg 0) k=ai:=λk hk=>by simp only[TC.asg];exact uX hk
  have sub3:∀ k,aN (KH A.ks 0) k=ai->aN ((TC.jseq A x y).asg 0) k=ai:=λk hk=>by simp only[TC.asg];exact kf (kf hk)
  rcases VB h with ⟨d,h3,h4⟩|h3
  .refine wp_seq (wp_mono (ihx cx h1 _ s _ _ h3 φ a w g) ?_);rintro e a' w' ⟨ex,s',φ',rfl,hk,g',st,M⟩;cases ex with
   |normal=>
    simp only[] at hk;obtain⟨d',Z,J⟩:=dD hk;simp only[ak,Sum.inr.injEq] at J;subst J;split at h4
    .rename_i s1 Y;obtain⟨φ1,g1,Hx⟩:=Nk g' Z Y λk _ _ v hv hf ha v' U=>by
      obtain⟨v0,e1,e2⟩:=M k ha v' U;rw[hv] at e1;cases e1;exact e2 hf
     refine wp_mono (ihy cy h2 R s1 K r h4 φ1 a' w' g1) ?_;rintro e2 a2 w2 ⟨ex2,s2,φ2,rfl,hk2,g2,YI,kp2⟩;exact⟨ex2,s2,φ2,rfl,hk2,g2,(st.trans Hx).trans YI,((DB Y).1.mono sub3).trans (kp2.mono sub2)⟩
    .cases h4
   |exit id=>simp only[] at hk;obtain⟨_,_,J⟩:=dD hk;simp at J
   |ret=>simp only[] at hk;obtain⟨_,_,J⟩:=dD hk;simp at J
  .refine wp_seq (wp_mono (ihx cx h1 _ s _ _ h3 φ a w g) ?_);rintro e a' w' ⟨ex,s',φ',rfl,hk,g',st,M⟩;cases ex with
   |normal=>simp only[] at hk;obtain⟨_,_,J⟩:=dD hk;simp at J
   |exit id=>
    simp only[] at hk;obtain⟨r',Z,J⟩:=dD hk;simp only[ak,Sum.inl.injEq] at J;subst J;exact⟨.exit id,s',φ',rfl,Z,g',st,M.mono sub1⟩
   |ret=>
    simp only[] at hk;obtain⟨r',Z,J⟩:=dD hk;simp only[ak,Sum.inl.injEq] at J;subst J;exact⟨.ret,s',φ',rfl,Z,g',st,M.mono sub1⟩
 |@cond t x y x' y' _ _ ihx ihy=>
  intro c hc R s K r h φ a w g;obtain⟨c',hn,I,hsim⟩:=jY P nt c;refine hsim _ _ _ ?_;rw[<- I] at hc;obtain⟨cx,cy,rfl,h1,h2⟩:=Zh hn hc;simp only[oS] at h;split at h
  .rename_i b hb;rcases ph h with ⟨rfl,h⟩|⟨rfl,h⟩
   .refine wp_cond_true (g.bool hb) (wp_mono (ihx cx h1 R s K r h φ a w g) ?_);rintro e a' w' ⟨ex,s',φ',rfl,hk,g',st,M⟩;exact⟨ex,s',φ',rfl,hk,g',st,M.mono λk hk=>by simp only[TC.asg];exact kf hk⟩
   .refine wp_cond_false (g.bool hb) (wp_mono (ihy cy h2 R s K r h φ a w g) ?_);rintro e a' w' ⟨ex,s',φ',rfl,hk,g',st,M⟩;exact⟨ex,s',φ',rfl,hk,g',st,M.mono λk hk=>by simp only[TC.asg];exact uX hk⟩
  .rename_i hb;obtain⟨ha,hbb⟩:=XL h;obtain⟨bv,hbv⟩:=g.anyb hb;cases bv with
   |true=>
    refine wp_cond_true hbv (wp_mono (ihx cx h1 R s K r ha φ a w g) ?_);rintro e a' w' ⟨ex,s',φ',rfl,hk,g',st,M⟩;exact⟨ex,s',φ',rfl,hk,g',st,M.mono λk hk=>by simp only[TC.asg];exact kf hk⟩
   |false=>
    refine wp_cond_false hbv (wp_mono (ihy cy h2 R s K r hbb φ a w g) ?_);rintro e a' w' ⟨ex,s',φ',rfl,hk,g',st,M⟩;exact⟨ex,s',φ',rfl,hk,g',st,M.mono λk hk=>by simp only[TC.asg];exact uX hk⟩
  .cases h
 |@block id b b' _ ih=>
  intro c hc R s K r h φ a w g;obtain⟨c',hn,I,hsim⟩:=jY P nt c;refine hsim _ _ _ ?_;rw[<- I] at hc;obtain⟨cb,rfl,h1⟩:=L1 hn hc;simp only[oS] at h;refine wp_block (wp_mono (ih cb h1 R s _ r h φ a w g) ?_);rintro e a' w' ⟨ex,s',φ',rfl,hk,g',st,M⟩;cases ex with
  |normal=>exact⟨.normal,s',φ',rfl,hk,g',st,M⟩
  |ret=>exact⟨.ret,s',φ',rfl,hk,g',st,M⟩
  |exit i=>
   simp only[Ex.to,Exit.inBlock];simp only[] at hk;split at hk
   .rename_i hb;rw[aF (aw hb)];exact⟨.normal,s',φ',rfl,hk,g',st,M⟩
   .rename_i hb;rw[aC (λe=>hb (by rw[e];exact rA id))];exact⟨.exit i,s',φ',rfl,hk,g',st,M⟩
 |@jblock A id b b' _ ih=>
  intro c hc R s K r h φ a w g;obtain⟨c',hn,I,hsim⟩:=jY P nt c;refine hsim _ _ _ ?_;rw[<- I] at hc;obtain⟨cb,rfl,h1⟩:=L1 hn hc;simp only[oS] at h;have sub1:∀ k,aN (b.asg 0) k=ai->aN ((TC.jblock A id b).asg 0) k=ai:=λk hk=>by simp only[TC.asg];exact uX hk
  have sub3:∀ k,aN (KH A.ks 0) k=ai->aN ((TC.jblock A id b).asg 0) k=ai:=λk hk=>by simp only[TC.asg];exact kf hk
  rcases VB h with ⟨d,h3,h4⟩|h3
  .refine wp_block (wp_mono (ih cb h1 _ s _ _ h3 φ a w g) ?_);rintro e a' w' ⟨ex,s',φ',rfl,hk,g',st,M⟩;have fin:obind (K9 np A (b.asg 0) s s') (λx=>af (bU (α:=R) x))=af (bU d)->af9 P E nt np φ s w ((TC.jblock A id b).asg 0) K r .normal a' w':=by
    intro hk;obtain⟨d',Z,J⟩:=dD hk;simp only[ak,Sum.inr.injEq] at J;subst J;split at h4
    .rename_i s1 Y;obtain⟨φ1,g1,Hx⟩:=Nk g' Z Y λk _ _ v hv hf ha v' U=>by
      obtain⟨v0,e1,e2⟩:=M k ha v' U;rw[hv] at e1;cases e1;exact e2 hf
     exact⟨.normal,s1,φ1,rfl,h4,g1,st.trans Hx,(DB Y).1.mono sub3⟩
    .cases h4
   cases ex with
   |normal=>exact fin hk
   |ret=>simp only[] at hk;obtain⟨_,_,J⟩:=dD hk;simp at J
   |exit i=>
    simp only[Ex.to,Exit.inBlock];simp only[] at hk;split at hk
    .rename_i hb;rw[aF (aw hb)];exact fin hk
    .obtain⟨_,_,J⟩:=dD hk;simp at J
  .refine wp_block (wp_mono (ih cb h1 _ s _ _ h3 φ a w g) ?_);rintro e a' w' ⟨ex,s',φ',rfl,hk,g',st,M⟩;cases ex with
   |normal=>simp only[] at hk;obtain⟨_,_,J⟩:=dD hk;simp at J
   |ret=>
    simp only[] at hk;obtain⟨r',Z,J⟩:=dD hk;simp only[ak,Sum.inl.injEq] at J;subst J;exact⟨.ret,s',φ',rfl,Z,g',st,M.mono sub1⟩
   |exit i=>
    simp only[Ex.to,Exit.inBlock];simp only[] at hk;split at hk
    .obtain⟨_,_,J⟩:=dD hk;simp at J
    .rename_i hb;rw[aC (λe=>hb (by rw[e];exact rA id))];obtain⟨r',Z,J⟩:=dD hk;simp only[ak,Sum.inl.injEq] at J;subst J;exact⟨.exit i,s',φ',rfl,Z,g',st,M.mono sub1⟩
 |@loop A b b' _ ih=>
  intro c hc R s K r h φ a w g;obtain⟨c',hn,I,hsim⟩:=jY P nt c;refine hsim _ _ _ ?_;rw[<- I] at hc;obtain⟨cb,rfl,h1⟩:=PA hn hc;simp only[oS] at h;obtain⟨x0,hx0,h⟩:=dD h;obtain⟨n,hn⟩:=WU h;have sub1:∀ k,aN (b.asg 0) k=ai->aN ((TC.loop A b).asg 0) k=ai:=λk hk=>by simp only[TC.asg];exact uX hk
  have sub3:∀ k,aN (KH A.ks 0) k=ai->aN ((TC.loop A b).asg 0) k=ai:=λk hk=>by simp only[TC.asg];exact kf hk
  obtain⟨step,hstep⟩:∃ step:A.D->Option (A.D⊕R),step=λx=>(match F_ A (b.asg 0) s x with
   |some s'=>oS np con b9 inert b s' λex s'=>(match ex with
    |.normal=>obind (K9 np A (b.asg 0) s s') λy=>af (oE y)
    |ex=>obind (K ex s') λr=>af (bU r))
   |none=>ah):=⟨_,rfl⟩
  have hn:iterN step n x0=af r:=by rw[hstep];exact hn
  have stepEq:∀ x,step x=(match F_ A (b.asg 0) s x with
   |some s'=>oS np con b9 inert b s' λex s'=>(match ex with
    |.normal=>obind (K9 np A (b.asg 0) s s') λy=>af (oE y)
    |ex=>obind (K ex s') λr=>af (bU r))
   |none=>ah):=λx=>by rw[hstep]
  let Inv:Nat->Act->World->Prop:=λn a w'=>∃ x s1 φ1,iterN step n x=af r/\F_ A (b.asg 0) s x=af s1/\oC P E nt np φ1 s1 a w'/\BL np φ φ1 (bz s.h) (bz s1.h) w w'
  have head:∀ (n:Nat) (x:A.D),iterN step n x=af r->∃ s1,F_ A (b.asg 0) s x=af s1:=by
   intro n x hn;cases n with
   |zero=>cases hn
   |succ n=>
    simp only[iterN] at hn;cases hr:F_ A (b.asg 0) s x with
    |some s1=>exact⟨s1,rfl⟩
    |none=>rw[stepEq,hr] at hn;cases hn
  refine BP Inv ?_ (n:=n) ?_
  .rintro n a1 w1 ⟨x,s1,φ1,hi,hr,g1,Hx⟩;cases n with
   |zero=>cases hi
   |succ n=>
    simp only[iterN] at hi;have hse:=stepEq x;rw[hr] at hse;simp only[] at hse;obtain⟨kp1,kp1'⟩:=DB hr;split at hi
    .rename_i y hy;rw[hy] at hse;refine wp_mono (ih cb h1 _ s1 _ _ hse.symm φ1 a1 w1 g1) ?_;rintro e a' w' ⟨ex,s',φ',rfl,hk,g',st,M⟩;cases ex with
     |normal=>
      simp only[] at hk;obtain⟨d',Z,J⟩:=dD hk;simp only[ak,Sum.inl.injEq] at J;subst J;obtain⟨s2,hs2⟩:=head n d' hi;obtain⟨φ2,g2,YI⟩:=Nk g' Z hs2 λk hkk hks v hv hf ha v' U=>by
       obtain⟨v0,e1,e2⟩:=M k ha v' U;have:=kp1' k hks v0 e1;rw[hv] at this;cases this;exact e2 hf
      exact⟨n,by omega,d',s2,φ2,hi,hs2,g2,(Hx.trans st).trans YI⟩
     |exit id=>simp only[] at hk;obtain⟨_,_,J⟩:=dD hk;simp at J
     |ret=>simp only[] at hk;obtain⟨_,_,J⟩:=dD hk;simp at J
    .rename_i r' hy;cases hi;rw[hy] at hse;refine wp_mono (ih cb h1 _ s1 _ _ hse.symm φ1 a1 w1 g1) ?_;rintro e a' w' ⟨ex,s',φ',rfl,hk,g',st,M⟩;cases ex with
     |normal=>simp only[] at hk;obtain⟨_,_,J⟩:=dD hk;simp at J
     |exit id=>
      simp only[] at hk;obtain⟨r',Z,J⟩:=dD hk;simp only[ak,Sum.inr.injEq] at J;subst J;exact⟨.exit id,s',φ',rfl,Z,g',Hx.trans st,(kp1.mono sub3).trans (M.mono sub1)⟩
     |ret=>
      simp only[] at hk;obtain⟨r',Z,J⟩:=dD hk;simp only[ak,Sum.inr.injEq] at J;subst J;exact⟨.ret,s',φ',rfl,Z,g',Hx.trans st,(kp1.mono sub3).trans (M.mono sub1)⟩
    .cases hi
  .obtain⟨s1,Y⟩:=head n x0 hn;obtain⟨φ1,g1,Hx⟩:=Nk g hx0 Y λk _ _ v hv _ _ v' U=>by rw[hv] at U;cases U;rfl
   exact⟨x0,s1,φ1,hn,Y,g1,Hx⟩
 |exit id=>
  intro c hc R s K r h φ a w g;obtain⟨c',hn,I,hsim⟩:=jY P nt c;refine hsim _ _ _ ?_;rw[<- I] at hc;rw[Zg hn hc];exact wp_exit ⟨.exit id,s,φ,rfl,h,g,BL.refl _ _ _ _,gj.refl _ _⟩
 |ret=>
  intro c hc R s K r h φ a w g;obtain⟨c',hn,I,hsim⟩:=jY P nt c;refine hsim _ _ _ ?_;rw[<- I] at hc;rw[ac6 hn hc];exact wp_ret ⟨.ret,s,φ,rfl,h,g,BL.refl _ _ _ _,gj.refl _ _⟩
 |defer f caps t=>
  intro c hc R s K r h φ a w g;obtain⟨c',hn,I,hsim⟩:=jY P nt c;refine hsim _ _ _ ?_;rw[<- I] at hc;obtain⟨id,ops,dr,rfl,h1,h2⟩:=WV hn hc;simp only[oS] at h;split at h
  .rename_i l hl;split at h
   .rename_i hi;obtain⟨l',e1,e2⟩:=yo g.invE hl;obtain⟨H,hH⟩:=jG s.h;have lowN:∀ n k,φ n=af k->n<2*s.nx+2:=λn k hk=>by have:=g.dom n k hk;unfold ow at this;omega
    have cfg:Cfg P ⟨2*s.nx+2,φ,E,bz s.h,w⟩ nt ⟨IV s.e s.h,H,2*s.nx+2,0⟩ a w:=by
     refine ⟨⟨φ,?_,?_,?_,lowN,λi k hk=>.inl hk⟩,bV _,g.inert,g.size⟩
     .rw[hH];exact iV.refl _ _ _
     .rw[hH];exact g.rep
     .rw[hH,uQ];exact g.env
    refine QO hin cfg h1 h2 e1 hi λa' w' c'=>?_
    obtain⟨φ',m',r',en',dm',d0'⟩:=c'.ex;have hφ:φ'=φ:=by
     funext n;cases hx:φ n with
     |some k=>exact m'.sub n k hx
     |none=>
      cases hy:φ' n with
      |none=>rfl
      |some k=>
       rcases d0' n k hy with h3|h3
       .have h3:φ n=af k:=h3;rw[hx] at h3;cases h3
       .have h4:n<2*s.nx+2:=dm' n k hy;have h5:2*s.nx+2<=n:=h3;omega
    subst hφ;simp only[hH] at m' r' en';refine ⟨.normal,_,φ',rfl,h,⟨r',?_,g.dom,g.low,g.invH,?_,c'.inert,c'.size⟩,⟨m'.ext,m'.own_,λ_ _=>rfl⟩,?_⟩
    .intro u x hx;refine en' u x ?_;simp only[fO,PT.get_set] at hx;simp only[zo.put,PT.get_set];split at hx
     .rename_i eu;rw[aF eu];simp only[aH,cj,e2,ak] at hx;rw[hx]
     .rename_i eu;rw[aC eu,uQ];exact hx
    .intro u x hx;simp only[PT.get_set] at hx;split at hx
     .cases hx;simp only[KC];exact kE _ _ _ e2
     .exact g.invE u x hx
    .intro k hk v' U;simp only[PT.get_set] at U;split at U
     .rename_i ek;subst ek;simp only[TC.asg] at hk;rw[bn,bX.2 rfl] at hk;simp at hk
     .exact⟨v',U,λ_=>rfl⟩
   .cases h
  .cases h
 |@adj l tc' sc' _ ih=>
  intro c hc R s K r h φ a w g;obtain⟨c',hn,I,hsim⟩:=jY P nt c;refine hsim _ _ _ ?_;rw[<- I] at hc;simp only[oS] at h;split at h
  .rename_i s1 Y;obtain⟨φ1,g1,Hx,kp1⟩:=UO g Y;refine wp_mono (ih c' hc R s1 K r h φ1 a w g1) ?_;rintro e a' w' ⟨ex,s',φ',rfl,hk,g',st,M⟩;exact⟨ex,s',φ',rfl,hk,g',Hx.trans st,(kp1.mono λk hk=>by simp only[TC.asg];exact kf hk).trans (M.mono λk hk=>by simp only[TC.asg];exact uX hk)⟩
  .cases h
 |@split k off lo n tc' sc' _ ih=>
  intro c hc R s K r h φ a w g;obtain⟨c',hn,I,hsim⟩:=jY P nt c;refine hsim _ _ _ ?_;rw[<- I] at hc;simp only[oS] at h;split at h
  .rename_i kd v hv;obtain⟨j,hj,h2⟩:=O6 h;subst hj;split at h2
   .rename_i s1 Y;obtain⟨g1,hH,he⟩:=YM g hv Y;refine wp_mono (ih c' hc R s1 K r h2 φ a w g1) ?_;rintro e a' w' ⟨ex,s',φ',rfl,hk,g',st,M⟩;exact⟨ex,s',φ',rfl,hk,g',by rw[<- hH];exact st,λk hk v' U=>by
     obtain⟨v,Z,J⟩:=M k hk v' U;exact⟨v,by rw[<- he];exact Z,J⟩⟩
   .cases h2
  .cases h
 |@unl n b b' _ ih=>
  intro c hc R s K r h φ a w g;obtain⟨c',hn,I,hsim⟩:=jY P nt c;refine hsim _ _ _ ?_;rw[<- I] at hc;obtain⟨cb,rfl,h1⟩:=PA hn hc;simp only[oS] at h
  let Inv:Nat->Act->World->Prop:=λm a w'=>∃ s1 φ1,abe (λs K=>oS np con b9 inert b s K) m s1 K=af r/\oC P E nt np φ1 s1 a w'/\BL np φ φ1 (bz s.h) (bz s1.h) w w'/\gj (b.asg 0) s.e s1.e
  refine BP Inv ?_ (n:=n) ⟨s,φ,h,g,BL.refl _ _ _ _,gj.refl _ _⟩;rintro m a1 w1 ⟨s1,φ1,hi,g1,Hx,kp1⟩;cases m with
  |zero=>cases hi
  |succ m=>
   simp only[abe] at hi;refine wp_mono (ih cb h1 R s1 _ r hi φ1 a1 w1 g1) ?_;rintro e a' w' ⟨ex,s',φ',rfl,hk,g',st,M⟩;cases ex with
   |normal=>exact⟨m,qA m,s',φ',hk,g',Hx.trans st,kp1.trans M⟩
   |exit id=>exact⟨.exit id,s',φ',rfl,hk,g',Hx.trans st,kp1.trans M⟩
   |ret=>exact⟨.ret,s',φ',rfl,hk,g',Hx.trans st,kp1.trans M⟩
 |bad sc'=>
  intro c hc R s K r h;simp[oS] at h
theorem M5 {P:Program} {φ:PM} {E:Nat->Prop} {s:TS} {a:Act} {w:World} (hinv:lZ s.h s.nx) (hiE:s6 s.e s.h) (r:qL φ E (bz s.h) w) (en:MG φ (tot E φ (bz s.h)) w (fO s.e s.h) a):∀ (rs:List ResultVar) (rvs:List RV) (l:List TV),uW P rs=af rvs->SH s rvs=af l->
 ∃ la vs,cH s.h l=af la/\(rs.mapM (WF a.tmps)).run P w= .ok vs w/\jT φ (tot E φ (bz s.h)) w la vs
 |[],rvs,l,hc,hr=>by
  simp only[uW,ak] at hc;subst hc;simp only[SH,ak] at hr;subst hr;exact⟨[],[],rfl,by simp,trivial⟩
 |.tmp t::rs,rvs,l,hc,hr=>by
  simp only[uW] at hc;split at hc
  .rename_i rvs' hrs;simp only[ak] at hc;subst hc;simp only[SH] at hr;split at hr
   .rename_i v hv;split at hr
    .rename_i M I;simp only[ak] at hr;subst hr;obtain⟨la,vs,h0,h1,h2⟩:=M5 hinv hiE r en rs rvs' M hrs I;simp only[rvT] at hv;obtain⟨y,Y⟩:=pN s.h v (hiE t v hv);refine ⟨y::la,a.tmps.getD t undef::vs,oN Y h0,?_,en t y (by simp only[fO,hv,aH,Y]),h2⟩;simp only[List.mapM_cons,eA,WF,oF,cG];show ((rs.mapM (WF a.tmps)).run P w).andThen _=_;rw[h1];rfl
    .cases hr
   .cases hr
  .cases hc
 |.cell ad t::rs,rvs,l,hc,hr=>by
  simp only[uW] at hc;split at hc
  .rename_i rvs' sz ag hrs hsz hag;simp only[ak] at hc;subst hc;simp only[SH] at hr;split at hr
   .rename_i v hv;split at hr
    .rename_i M I;simp only[ak] at hr;subst hr;obtain⟨la,vs,h0,h1,h2⟩:=M5 hinv hiE r en rs rvs' M hrs I;simp only[rvT] at hv;split at hv
     .rename_i id off hp;split at hv
      .rename_i ty q hb;obtain⟨q',J⟩:=fk s.h q (hinv.cells id ty q hb);obtain⟨y,e1,e2⟩:=U8 J hv;obtain⟨H,Z⟩:=jG s.h;have hR:Dj H sz ag (.ptr (nm id) off)=af ⟨y,[nm id],[],[],[]⟩:=by
        have hg:H.get (nm id)=af ⟨ty,.mx q'⟩:=by rw[Z,bI,hb];simp only[aH,kr,J]
        simp only[Dj,hg,e2]
       obtain⟨_,_,_,h3⟩:=RH (P:=P) hsz hag hR;obtain⟨qq,U,h4,h5,h6⟩:=h3 φ E (bz s.h) w _ (λi _=>by rw[Z]) r (en ad _ (by simp only[fO,hp,aH,cj]));refine ⟨y::la,U::vs,oN e1 h0,?_,h6,h2⟩;have hone:(WF a.tmps (.cell ad t)).run P w= .ok U w:=by
        simp only[WF,eA,h4,asAddr,oF,cG,h5]
       rw[List.mapM_cons];simp only[eA,hone,cG,h1,oF]
      .cases hv
     .cases hv
    .cases hr
   .cases hr
  .cases hc
theorem ED:∀ (args:List TV) (k t:Nat) (x:TV),(J0 k args).get t=af x->k<=t/\args[t-k]? =af x
 |[],k,t,x,h=>by simp[J0,PT.get] at h
 |y::args,k,t,x,h=>by
  rw[J0,PT.get_set] at h;split at h
  .rename_i hk;subst hk;cases h;exact⟨bV _,by simp⟩
  .obtain⟨h1,h2⟩:=ED args (k+1) t x h;refine ⟨by omega,?_⟩;rw[show t-k=t-(k+1)+1 from by omega];simpa using h2
theorem Y2 {h:bf} {l:List TV} (J:kJ h l=ai) {j:Nat} {v:TV} (hj:l[j]? =af v):KC h v=ai:=by
 obtain⟨M,hl⟩:=fk h l J;obtain⟨y,_,I⟩:=lU hl j v hj;exact Eg _ _ _ I
theorem St {P:Program} {con:FuncId->Option cu} {b9:TypeId->Option Ty} {inert:FuncId->Bool} (hm:P.follows .mixedOrders=ai) (hcon:Kj P con) (hin:Kf P inert) {f:FuncId} {sf:SF} (hf:zf P f=af sf) (D:FT) (m:D.pre.ty.den->Option D.post.ty.den) (hmod:∀ x y,m x=af y->YF con b9 inert (af sf) D x=af y):pB P f ⟨D.pre,D.post,m⟩:=by
 obtain⟨fn,c,hfn,hb,hnm,hcode,hres,hnt⟩:=Rt hf;refine ⟨⟨fn,hfn,by rw[hb];rfl,hnm⟩,λx y hxy vs hp l1 rs hq l2 la lr I J hla hlr φ E w us hrep hrel hdom=>?_⟩;have ht:=hmod x y hxy;unfold YF at ht;simp only[] at ht;split at ht
 .rename_i args h hins;obtain⟨l1',I'⟩:=vX hins;have e1:args=vs:=by have h1:=I.pv;have h2:=I'.pv;rw[h1] at h2;cases h2;rfl
  have e2:l1'=l1:=by have h1:=I.pb;have h2:=I'.pb;rw[h1] at h2;cases h2;rfl
  subst e1;subst e2;have hget:∀ i,h.get i=hp.get i:=λi=>by
   cases h3:hp.get i with
   |some b=>exact (I'.at_ i b).2 ((I.at_ i b).1 h3)
   |none=>
    cases h4:h.get i with
    |none=>rfl
    |some b=>have:=(I.at_ i b).2 ((I'.at_ i b).1 h4);rw[h3] at this;cases this
  have hrow:∀ i,eh h i=eh hp i:=λi=>by rw[bS,bS,hget]
  have herH:bz h=bz hp:=by
   funext n;by_cases hn:∃ i,n=nm i
   .obtain⟨i,rfl⟩:=hn;rw[bI,bI,hget];cases h3:hp.get i with
    |none=>rfl
    |some b=>
     simp only[aH];refine IW (λi r hr=>by rw[hrow];exact hr) λty l e=>?_
     exact (I.cells i ty l (by rw[h3,e])).1
   .rw[v8 _ hn,v8 _ hn]
  have hla':cH h args=af la:=gU (λi r hr=>by rw[hrow];exact hr) args la hla;split at ht
  .rename_i hle;simp only[av] at hle;have hle2:=a8 hle.2;have hle:=a8 hle.1;have hlen:=hrel.length;have hargl:args.length=la.length:=(hP hla).symm;refine calls_of_wp_defers hfn hb ?_;have hcfg:oC P E fn.ntmps D.pre.bs.length φ ⟨J0 0 args,h,D.pre.bs.length⟩ {tmps:=us.toArray++oh (fn.ntmps-us.toArray.size) undef,defers:=[]} w:=by
    refine ⟨by rw[herH];exact hrep,?_,hdom,bV _,⟨λi ty l hl=>(I'.cells i ty l hl).1,λi b hbb=>I'.lt_len hbb⟩,?_,by simp,by simp;omega⟩
    .intro t z U;simp only[fO] at U;cases Z:(J0 0 args).get t with
     |none=>rw[Z] at U;cases U
     |some v0=>
      rw[Z] at U;obtain⟨_,h2⟩:=ED args 0 t v0 Z;rw[Nat.sub_zero] at h2;obtain⟨y0,q1,Y⟩:=lU hla' t v0 h2;simp only[aH] at U;rw[U] at Y;cases Y;obtain⟨v,h3,h4⟩:=hrel.get t z q1;have hlt:t<us.length:=(bh.1 h3).1;have:(us.toArray++oh (fn.ntmps-us.toArray.size) undef).getD t undef=v:=by
       rw[gA,Array.getElem?_append];simp only[sO,hlt,bC,kg,h3,uz]
      show cI φ _ w z ((us.toArray++oh (fn.ntmps-us.toArray.size) undef).getD t undef);rw[this,herH];exact h4
    .intro t v0 hv0;obtain⟨_,h2⟩:=ED args 0 t v0 hv0;exact Y2 I'.ok h2
   refine wp_mono (afo (E:=E) hm hcon hin (xq D.hints sf.code 0) c hcode.symm _ _ _ _ ht φ _ w hcfg) ?_;rintro e a' w' ⟨ex,s',φ',rfl,hk,g',st,_⟩;have fin:(match SH s' sf.res with
    |some l=>(match DM D.pre.bs.length D.post l s'.h with
     |some ⟨y,_,_,_⟩=>(match Cl D.post y with|some _=>af y|none=>ah)
     |none=>ah)
    |none=>ah)=af y->Leaves P fn a'.tmps (λen w'=>∃ v φ',en= .returned v/\Kh (own φ (bz hp)) w w'/\(∀ k,k<w.heap.size->own φ' (bz hq) k->own φ (bz hp) k)/\(∀ i,i<D.pre.bs.length->φ' (nm i)=φ (nm i))/\qL φ' E (bz hq) w'/\cI φ' (tot E φ' (bz hq)) w' (Dx lr) v) a'.defers .returning w':=by
    intro hk;split at hk
    .rename_i l hl;split at hk
     .rename_i y' m' σ sm hM;split at hk
      .simp only[ak] at hk;subst hk;obtain⟨lo,rvs,q0,q1,Y⟩:=M5 g'.invH g'.invE g'.rep g'.env fn.results.toList sf.res l hres hl;have M:=vR hM;obtain⟨φ2,lu,hlu,S⟩:=Kw (np:=D.pre.bs.length) (E:=E) J g'.invH M q0 g'.rep;rw[hlr] at hlu;cases hlu;have hresults:(results fn a'.tmps).run P w'= .ok (if h:rvs.toArray.size=1 then rvs.toArray[0] else .tuple rvs.toArray) w':=by
        rw[SM,Array.mapM_eq_mapM_toList];simp only[eA,Sem.run_map,q1,cG,oF]
       have hrl:jT φ2 (tot E φ2 (bz hq)) w' lr rvs:=by
        refine jT.of (by rw[Y.length,S.len]) λj z v U hv=>?_
        obtain⟨z0,p1,p2⟩:=S.val j z v U;obtain⟨v',p3,p4⟩:=Y.get j z0 p1;rw[hv] at p3;cases p3;exact p2 p4
       have hval:cI φ2 (tot E φ2 (bz hq)) w' (Dx lr) (if h:rvs.toArray.size=1 then rvs.toArray[0] else .tuple rvs.toArray):=by
        have hll:=hrl.length;clear hlr S;cases lr with
        |nil=>
         cases rvs with
         |nil=>exact cI.tup (vs:=[]) rfl (by intro j x v Z;simp at Z)
         |cons _ _=>exact hrl.elim
        |cons z lr=>
         cases rvs with
         |nil=>exact hrl.elim
         |cons v rvs=>
          cases lr with
          |nil=>
           cases rvs with
           |nil=>exact hrl.1
           |cons _ _=>exact hrl.2.elim
          |cons y l=>
           cases rvs with
           |nil=>exact hrl.2.elim
           |cons u rvs=>
            rw[dif_neg (by simp)];refine cI.tup (vs:=v::u::rvs) (by simpa using hll) λj x' v' Z hv=>?_
            obtain⟨v'',q1,Y⟩:=hrl.get j x' Z;rw[hv] at q1;cases q1;exact Y
       have st':BL D.pre.bs.length φ φ' (bz hp) (bz s'.h) w w':=by rw[<- herH];exact st
       refine Ce hresults ⟨_,φ2,rfl,st'.ext,λk hk ho=>st'.own_ k hk (S.own_ k ho),λi hi=>?_,S.rep,hval⟩ a'.defers g'.inert;rw[S.par i hi (dt hi hle2),st'.par i hi]
      .cases hk
     .cases hk
    .cases hk
   cases ex with
   |normal=>exact fin hk
   |ret=>exact fin hk
   |exit id=>cases hk
  .cases ht
 .cases ht
def Uu:List (FuncId×cu)->FuncId->Option cu
 |[],_=>ah
 |(g,c)::r,f=>if aB g f then af c else Uu r f
def Sj (P:Program):List (FuncId×cu)->Prop
 |[]=>True
 |p::r=>aI P p.1 p.2/\Sj P r
theorem V6 {P:Program}:∀ {l:List (FuncId×cu)},Sj P l->Kj P (Uu l)
 |[],_,f,c,h=>by simp[Uu] at h
 |(g,d)::r,I,f,c,h=>by
  simp only[Uu] at h;split at h
  .rename_i hb;have:=aw hb;subst this;cases h;exact I.1
  .exact V6 I.2 f c h
theorem Qf {P:Program} {inert:FuncId->Bool} (hm:P.follows .mixedOrders=ai) (hin:Kf P inert) {l:List (FuncId×cu)} (I:Sj P l) {b9:TypeId->Option Ty} {f:FuncId} {D:FT} {m:D.pre.ty.den->Option D.post.ty.den} (hs:(zf P f).isSome=ai) (he:∀ x,YF (Uu l) b9 inert (zf P f) D x=m x):pB P f ⟨D.pre,D.post,m⟩:=by
 obtain⟨J,hf⟩:=iG.1 hs;exact St hm (V6 I) hin hf D m λx y hxy=>by rw[<- hf,he];exact hxy
theorem pB.sub {P:Program} {f:FuncId} {pre post:Tm} {m m':pre.ty.den->Option post.ty.den} (h:pB P f ⟨pre,post,m⟩) (hs:∀ x y,m' x=af y->m x=af y):pB P f ⟨pre,post,m'⟩:=
 ⟨h.callable,λx y hxy=>h.calls x y (hs x y hxy)⟩
theorem aI.sub {P:Program} {f:FuncId} {pre post:Tm} {m m':pre.ty.den->Option post.ty.den} (h:aI P f ⟨pre,post,m⟩) (hb:eB pre.bs.length post.bs.length=ai) (hs:∀ x y,m' x=af y->m x=af y):aI P f ⟨pre,post,m'⟩:=
 ((h.holds hb).sub hs).toC hb
theorem ru {α:Type} {b:Nat}:∀ (x y:List α),chk (bc (al x) b) (λ_=>af x)=af y->bcase (aB (al x) 0) (EB (af ([]:List α)) (chk (bc (al ([]:List α)+al x) b) λ_=>(af (([]:List α)++x)))) (chk (bc (al ([]:List α)+al x) b) λ_=>(af (([]:List α)++x)))=af y:=by
 intro x y h;rw[lE,jQ,bN,h];cases x with
 |nil=>
  obtain⟨_,h⟩:=dR h;cases h;show EB (af []) (af [])=_;unfold EB;rw[aF rfl]
 |cons a r=>rfl
theorem TI {P:Program} {f:FuncId} {pre post:Tm} (hs:(zf P f).isSome=ai):pB P f ⟨pre,post,λ_=>ah⟩:=by
 obtain⟨I,hf⟩:=iG.1 hs;obtain⟨fn,c,hfn,hb,hnm,_⟩:=Rt hf;exact⟨⟨fn,hfn,by rw[hb];rfl,hnm⟩,λx y h=>by cases h⟩
theorem pB.orElse {P:Program} {f:FuncId} {pre post:Tm} {m m':pre.ty.den->Option post.ty.den} (h:pB P f ⟨pre,post,m⟩) (h':pB P f ⟨pre,post,m'⟩):pB P f ⟨pre,post,λx=>match m x with|some y=>af y|none=>m' x⟩:=
 ⟨h.callable,λx y hxy=>by
   cases hm:m x with
   |some z=>rw[show (cu.m ⟨pre,post,λx=>match m x with|some y=>af y|none=>m' x⟩ x)=af z by show (match m x with|some y=>af y|none=>m' x)=af z;rw[hm]] at hxy;cases hxy;exact h.calls x _ hm
   |none=>rw[show (cu.m ⟨pre,post,λx=>match m x with|some y=>af y|none=>m' x⟩ x)=m' x by show (match m x with|some y=>af y|none=>m' x)=m' x;rw[hm]] at hxy;exact h'.calls x y hxy⟩
theorem aI.orE {P:Program} {f:FuncId} {pre post:Tm} {m m':pre.ty.den->Option post.ty.den} (hb:eB pre.bs.length post.bs.length=ai) (h:aI P f ⟨pre,post,m⟩) (h':aI P f ⟨pre,post,m'⟩):aI P f ⟨pre,post,λx=>AI.orE (m x) (m' x)⟩:=by
 have e:(λx=>AI.orE (m x) (m' x))=λx=>match m x with|some y=>af y|none=>m' x:=by funext x;cases m x<;>rfl
 rw[e];exact ((h.holds hb).orElse (h'.holds hb)).toC hb
def YB (P:Program) (f:Ty->TypeId->Bool):List Field->Nat->Ty->Bool
 |[],_,.un=>ai
 |[x],off,T=>aB x.offset off&&f T x.type&&aB (P.cellsOf x.type) T.size
 |x::y::r,off,.pr a b=>aB x.offset off&&f a x.type&&aB (P.cellsOf x.type) a.size&&YB P f (y::r) (off+a.size) b
 |_,_,_=>aj
def Ss (P:Program) (f:Ty->TypeId->Bool) (e:TypeId):Nat->Ty->Bool
 |1,T=>f T e&&aB (P.cellsOf e) T.size
 |m+2,.pr a b=>f a e&&aB (P.cellsOf e) a.size&&Ss P f e (m+1) b
 |_,_=>aj
def AQ (P:Program):Nat->Ty->TypeId->Bool
 |0,_,_=>aj
 |n+1,T,t=>match T,P.underlying t with
  |.int k,af (.int k')=>k==k'
  |.bool,af .bool=>ai
  |.str,af .string=>ai
  |.sl U,af (.slice e)=>AQ P n U e&&aB (P.cellsOf e) U.size&&gd 0 U.size
  |.st U,af (.struct fs)=>YB P (AQ P n) fs.toList 0 U&&aB (P.cellsOf t) U.size
  |.st U,af (.array m e)=>Ss P (AQ P n) e m U&&aB (P.cellsOf t) U.size
  |_,_=>aj
def U4:(T:Ty)->T.den->Prop
 |.int k,n=>(Lit.int k n).wf=ai
 |.str,s=>al s<=maxLen
 |.sl U,xs=>al xs<=maxLen/\∀ x∈(xs:List U.den),U4 U x
 |.st t,v=>U4 t v
 |.pr a b,v=>U4 a v.1/\U4 b v.2
 |_,_=>True
def J_ (W:World) (T:Ty) (x:T.den) (cs:List Value):Prop:=cs.length=T.size/\∀ (j:Nat) y v,(bQ T x)[j]? =af y->cs[j]? =af v->mZ (λ_=>False) W y v
theorem JO {α:Type} (z:α) (P:Nat->α->Prop):∀ n:Nat,(∀ i,i<n->∃ a,P i a)->∃ l:List α,l.length=n/\∀ i x,l[i]? =af x->P i x
 |0,_=>⟨[],rfl,λi x h=>by simp at h⟩
 |n+1,h=>by
  obtain⟨l,hl,hp⟩:=JO z P n (λi hi=>h i (by omega));obtain⟨a,J⟩:=h n (by omega);refine ⟨l++[a],by simp[hl],λi x I=>?_⟩;by_cases hi:i<l.length
  .rw[bG hi] at I;exact hp i x I
  .rw[bT (by omega)] at I;by_cases h0:i-l.length=0
   .rw[h0] at I;simp at I;subst I;rw[show i=n from by omega];exact J
   .rw[bO (by simp;omega)] at I;cases I
theorem Addr.add_plain {a:Addr} (h:a.spot=ah) (n:Nat):a.add n=⟨a.block,a.off+n,ah⟩:=by
 unfold Addr.add;split
 .rename_i h0;subst h0;cases a;simp at h;subst h;rfl
 .rfl
theorem XH {w:World} {a:Addr} {v:Value} (h:w.cell? a=af v):a.spot=ah:=by
 unfold ML at h;split at h
 .split at h
  .cases h
  .rename_i hs;cases hh:a.spot with
   |none=>rfl
   |some _=>simp[hh] at hs
 .cases h
theorem J_.sub {W:World} {T:Ty} {x:T.den} {cs:List Value} {off n:Nat} (h:J_ W T x ((cs.drop off).take n)) (hn:n=T.size) (hl:off+n<=cs.length):∀ (j:Nat) y v,(bQ T x)[j]? =af y->cs[off+j]? =af v->mZ (λ_=>False) W y v:=λj y v I hv=>by
 refine h.2 j y v I ?_;have hj:j<T.size:=by have:=(bh.1 I).1;rwa [bA] at this
 rw[cM,aF (by omega),gQ];exact hv
section
variable {H:Type} {enc:TypeId×Value->H} {P:Program} {W:World} {base:Nat} {sp:Nat->Bool} {hd:Bool}
theorem Vk {f:Ty->TypeId->Bool} {m:Nat} (M:∀ (T:Ty) (t:TypeId) (cs:List Value) x,f T t=ai->DataW.trod enc P W base sp hd m t cs=af x->∃ v,J_ W T v cs/\U4 T v) (cs:List Value) (ts:List (DataW H×List MemPlace)):
 ∀ (fs:List Field) (off k:Nat) (T:Ty),YB P f fs off T=ai->off+T.size<=cs.length->(∀ (i:Nat) (fl:Field),fs[i]? =af fl->∃ z,DataW.trod enc P W base sp hd m fl.type ((cs.drop fl.offset).take (P.cellsOf fl.type))=af z)->
 ∃ v,(∀ (j:Nat) y u,(bQ T v)[j]? =af y->cs[off+j]? =af u->mZ (λ_=>False) W y u)/\U4 T v
 |[],off,k,.un,_,_,_=>⟨(),λj y u I=>by simp[bQ] at I,trivial⟩
 |[x],off,k,T,h,hl,hg=>by
  simp only[YB,av] at h;obtain⟨⟨h1,h2⟩,J⟩:=h;have h1:=aw h1;have J:=aw J;obtain⟨z,U⟩:=hg 0 x rfl;obtain⟨v,hv,Z⟩:=M T _ _ _ h2 U;rw[h1] at hv;exact⟨v,hv.sub J (by omega),Z⟩
 |x::x'::r,off,k,.pr a b,h,hl,hg=>by
  simp only[YB,av] at h;obtain⟨⟨⟨h1,h2⟩,J⟩,h4⟩:=h;have h1:=aw h1;have J:=aw J;simp only[Ty.size] at hl;obtain⟨z,U⟩:=hg 0 x rfl;obtain⟨v,hv,Z⟩:=M a _ _ _ h2 U;rw[h1] at hv;have hv:=hv.sub J (by omega);obtain⟨v',hv',Y⟩:=Vk M cs ts (x'::r) (off+a.size) (k+1) b h4 (by omega) (λi fl hi=>hg (i+1) fl (by simpa using hi));refine ⟨(v,v'),λj y u I hu=>?_,Z,Y⟩;simp only[bQ] at I;by_cases hj:j<a.size
  .rw[bG (by rw[bA];exact hj)] at I;exact hv j y u I hu
  .rw[bT (by rw[bA];omega),bA] at I;exact hv' _ y u I (by rw[show off+a.size+(j-a.size)=off+j from by omega];exact hu)
theorem Vl {f:Ty->TypeId->Bool} {m:Nat} {e:TypeId} (J:∀ (T:Ty) (t:TypeId) (cs:List Value) x,f T t=ai->DataW.trod enc P W base sp hd m t cs=af x->∃ v,J_ W T v cs/\U4 T v) (cs:List Value):
 ∀ (n i:Nat) (T:Ty),Ss P f e n T=ai->i*P.cellsOf e+T.size<=cs.length->(∀ j,j<n->∃ z,DataW.trod enc P W base sp hd m e ((cs.drop ((i+j)*P.cellsOf e)).take (P.cellsOf e))=af z)->
 ∃ v,(∀ (j:Nat) y u,(bQ T v)[j]? =af y->cs[i*P.cellsOf e+j]? =af u->mZ (λ_=>False) W y u)/\U4 T v
 |0,i,T,h,_,_=>by unfold Ss at h;cases h
 |1,i,T,h,hl,hg=>by
  simp only[Ss,av] at h;have h3:=aw h.2;obtain⟨z,M⟩:=hg 0 (by omega);obtain⟨v,hv,Y⟩:=J T _ _ _ h.1 M;rw[dg] at hv;exact⟨v,hv.sub h3 (by omega),Y⟩
 |n+2,i,T,h,hl,hg=>by
  cases T with
  |pr a b=>
   simp only[Ss,av] at h;obtain⟨⟨h1,h2⟩,h4⟩:=h;have h3:=aw h2;simp only[Ty.size] at hl;obtain⟨z,M⟩:=hg 0 (by omega);obtain⟨v,hv,Y⟩:=J a _ _ _ h1 M;rw[dg] at hv;have hv:=hv.sub h3 (by omega);obtain⟨v',Z,U⟩:=Vl J cs (n+1) (i+1) b h4 (by rw[MO,Nat.one_mul];omega) (λj hj=>by have:=hg (j+1) (by omega);rwa [show i+(j+1)=i+1+j from by omega] at this);refine ⟨(v,v'),λj y u I hu=>?_,Y,U⟩;simp only[bQ] at I;by_cases hj:j<a.size
   .rw[bG (by rw[bA];exact hj)] at I;exact hv j y u I hu
   .rw[bT (by rw[bA];omega),bA] at I;exact Z _ y u I (by rw[MO,Nat.one_mul,show i*P.cellsOf e+P.cellsOf e+(j-a.size)=i*P.cellsOf e+j from by omega];exact hu)
  |_=>unfold Ss at h;cases h
theorem G6:∀ (n:Nat) (T:Ty) (t:TypeId) (fuel:Nat) (cs:List Value) x,AQ P n T t=ai->(∀ b,sp b=ai)->DataW.trod enc P W base sp hd fuel t cs=af x->∃ v,J_ W T v cs/\U4 T v
 |0,_,_,_,_,_,h,_,_=>by unfold AQ at h;cases h
 |n+1,T,t,fuel,cs,x,h,hsp,ht=>by
  unfold AQ at h;split at h
  .rename_i k k' hu;have hk:=eq_of_beq h;subst hk;obtain⟨m,rfl,_,J⟩:=DataW.trod_int hu ht;refine ⟨m,⟨rfl,λj y v I hv=>?_⟩,J⟩;cases j with
   |zero=>simp[bQ] at I hv;subst I hv;exact .raw _
   |succ j=>simp[bQ] at I
  .rename_i hu;obtain⟨b,rfl,_⟩:=DataW.trod_bool hu ht;refine ⟨b,⟨rfl,λj y v I hv=>?_⟩,trivial⟩;cases j with
   |zero=>simp[bQ] at I hv;subst I hv;exact .raw _
   |succ j=>simp[bQ] at I
  .rename_i hu;obtain⟨s,rfl,_,hs⟩:=DataW.trod_string hu ht;refine ⟨s.data.toList,⟨rfl,λj y v I hv=>?_⟩,by simpa[U4] using hs⟩;cases j with
   |zero=>simp[bQ] at I hv;subst I hv;exact .raw _
   |succ j=>simp[bQ] at I
  .rename_i U e hu;simp only[av] at h;obtain⟨⟨h1,h2⟩,h3⟩:=h;have h2:=aw h2;have h3:0<U.size:=a8 h3;rcases Go.Deep.open_slice hu ht with ⟨rfl,_⟩|⟨a,len,cap,m,k,D,Pl,rfl,hb,hl,hm,hmm,_,hi⟩
   .refine ⟨[],⟨rfl,λj y v I hv=>?_⟩,by simp[U4]⟩;cases j with
    |zero=>simp[bQ] at I hv;subst I hv;exact .nil _ _ (by unfold maxLen;omega)
    |succ j=>simp[bQ] at I
   .rw[hsp,aF rfl] at hmm;rw[h2] at hi;obtain⟨xs,hx1,Y⟩:=JO U.zero (λi (v:U.den)=>∃ cs',W.cells? base (a.add (i*U.size)) U.size=af cs'/\J_ W U v cs'/\U4 U v) len (λi hil=>by
     obtain⟨cs',hc,htt⟩:=hi i (by omega);obtain⟨v,hv,J⟩:=G6 n U e k cs' _ h1 hsp htt;exact⟨v,cs',hc,hv,J⟩)
    refine ⟨xs,⟨rfl,λj y v I hv=>?_⟩,by show al xs<=maxLen;omega,λy I=>?_⟩
    .cases j with
     |succ j=>simp[bQ] at I
     |zero=>
      simp[bQ] at I hv;subst I hv;by_cases h0:len=0
      .have:xs=[]:=gD.1 (by omega);subst this;subst h0;exact .nil _ _ hm
      .obtain⟨x0,hx0⟩:∃ x0,xs[0]? =af x0:=⟨xs[0]'(by omega),aA (by omega)⟩
       obtain⟨cs0,hc0,_⟩:=Y 0 x0 hx0;obtain⟨_,hcl0,hat0⟩:=World.cells?_some hc0;have hca:=hat0 0 h3;rw[aA (by omega)] at hca;have hspot:a.spot=ah:=by
        have:=XH hca;simpa[Addr.add] using this
       have hblk:=World.block_lt_of_cell? W _ hca;rw[Nat.zero_mul,Addr.add_plain hspot,Addr.add_plain rfl] at hca hblk;have hcell:∀ (i j:Nat) x,xs[i]? =af x->j<U.size->∃ cs',W.cell? ⟨a.block,a.off+(i*U.size+j),ah⟩=cs'[j]? /\j<cs'.length/\J_ W U x cs':=λi j x Z hj=>by
        obtain⟨cs',hc,hr,_⟩:=Y i x Z;obtain⟨_,hcl,hat⟩:=World.cells?_some hc;have:=hat j hj;rw[Addr.add_plain hspot,Addr.add_plain rfl,sg] at this;exact⟨cs',this,by omega,hr⟩
       have hflat:∀ j,j<xs.length*U.size->∃ x,xs[j/U.size]? =af x/\j%U.size<U.size/\j=j/U.size*U.size+j%U.size:=λj hj=>by
        have h5:j/U.size<xs.length:=Nat.div_lt_of_lt_mul (by rw[GZ];exact hj);exact⟨xs[j/U.size],aA h5,Nat.mod_lt _ h3,by rw[GZ];exact (Nat.div_add_mod j U.size).symm⟩
       have hlen:(List.flatMap (bQ U) xs).length=xs.length*U.size:=fA (bA U) xs;obtain⟨ab,ao,az⟩:=a;cases hspot;rw[<- hx1];refine .sl (List.flatMap (bQ U) xs) xs.length cap ab ao (λj=>(W.cell? ⟨ab,ao+j,ah⟩).getD undef) (by omega) hm (λh=>h) hblk (rm U xs) (λj hj=>?_) (λj y I=>?_)
       .obtain⟨x,Z,hjs,hje⟩:=hflat j (by omega);obtain⟨cs',g1,g2,_⟩:=hcell _ _ x Z hjs;rw[<- hje] at g1;simp only[g1,aA g2,uz]
       .have hj:j<xs.length*U.size:=by rw[<- hlen];exact (bh.1 I).1
        obtain⟨x,Z,hjs,hje⟩:=hflat j hj;obtain⟨cs',g1,g2,g3⟩:=hcell _ _ x Z hjs;rw[<- hje] at g1;simp only[g1];rw[aA g2];refine g3.2 (j%U.size) y _ ?_ (aA g2);obtain⟨r,hr⟩:=Ee (bA U) xs (j/U.size) x Z;have:((List.flatMap (bQ U) xs).drop (j/U.size*U.size))[j%U.size]? =af y:=by rw[gQ,<-hje];exact I
        rw[hr,bG (by rw[bA];exact hjs)] at this;exact this
    .obtain⟨i,M⟩:=eX I;obtain⟨_,_,_,J⟩:=Y i y M;exact J
  .rename_i U fs hu;simp only[av] at h;have h2:=aw h.2;obtain⟨xs,m,rfl,_,hl,hxl,hg⟩:=DataW.trod_struct hu ht;obtain⟨v,hv,J⟩:=Vk (f:=AQ P n) (m:=m) (λT t cs x h1 h2=>G6 n T t m cs x h1 hsp h2) cs xs fs.toList 0 0 U h.1 (by omega) (λi fl hi=>by
    have M:fs[i]? =af fl:=by simpa using hi
    have:=hg i fl M;have hlt:i<xs.length:=by rw[hxl];exact (cC.1 M).1
    rw[aA hlt] at this;exact⟨_,this⟩)
   exact⟨v,⟨by rw[hl,h2];rfl,λj y u I hu=>hv j y u I (by rw[bN];exact hu)⟩,J⟩
  .rename_i U m e hu;simp only[av] at h;have h2:=aw h.2;obtain⟨xs,q,rfl,_,hl,hxl,hg⟩:=DataW.trod_array hu ht;obtain⟨v,hv,J⟩:=Vl (f:=AQ P n) (m:=q) (λT t cs x h1 h2=>G6 n T t q cs x h1 hsp h2) cs m 0 U h.1 (by omega) (λj hj=>by
    have:=hg j hj;rw[aA (by omega)] at this;rw[bN];exact⟨_,this⟩)
   exact⟨v,⟨by rw[hl,h2];rfl,λj y u I hu=>hv j y u I (by rw[Nat.zero_mul,bN];exact hu)⟩,J⟩
  .cases h
theorem Pt {n:Nat} {T:Ty} {t:TypeId} {v:Value} {r:Reach} {bs:Nat} (I:AQ P n T t=ai) (h1:T.one=ai) (h:GU P W r bs t v):v.cells.toList=[v]:=by
 cases n with
 |zero=>unfold AQ at I;cases I
 |succ n=>
  unfold AQ at I;unfold GU at h;cases v with
  |agg cs=>
   exfalso;split at I<;>rename_i hu<;>first|(rw [hu] at h;simp only[] at h;unfold Cell.okWide at h;rw[hu] at h;unfold Cell.ok at h;rw[hu] at h;simp at h)|cases h1|cases I
  |_=>rfl
theorem S0 {n:Nat} {T:Ty} {t:TypeId} {v:Value} {r:Reach} {bs:Nat} (I:AQ P n T t=ai) (h1:T.one=aj) (h:GU P W r bs t v):∃ cs,v= .agg cs:=by
 cases n with
 |zero=>unfold AQ at I;cases I
 |succ n=>
  unfold AQ at I;unfold GU at h;split at I<;>rename_i hu<;>first|(rw [hu] at h;obtain⟨cs,h,_⟩:=h;exact⟨cs,h⟩)|cases h1|cases I
theorem open_arg {n:Nat} {T:Ty} {t:TypeId} {v:Value} {d:DataW H} {ps:List MemPlace} {r:Reach} {bs:Nat} (J:AQ P n T t=ai) (hsp:∀ b,sp b=ai) (hok:GU P W r bs t v) (h:DataW.Trod enc P W base sp hd t v d ps):∃ x,mZ (λ_=>False) W (gC T x) v/\U4 T x:=by
 obtain⟨fuel,hf⟩:=h;obtain⟨x,I,U⟩:=G6 n T t fuel _ _ J hsp hf;refine ⟨x,?_,U⟩;by_cases h1:T.one=ai
 .obtain⟨e1,e2⟩:=CI T x h1;exact I.2 0 _ v (by rw[e1];rfl) (by rw[Pt J h1 hok];rfl)
 .obtain⟨cs,rfl⟩:=S0 J (by simpa using h1) hok;rw[qj T x (by simpa using h1)];have hl:cs.toList.length=(bQ T x).length:=by rw[bA];exact I.1
  have:=mZ.agg (O:=λ_=>False) (w:=W) (bQ T x) cs.toList hl (nN T x) (λj y u M hu=>I.2 j y u M hu);simpa using this
end
theorem Wd {z:Int} (h:(Lit.int .u8 z).wf=ai):0<=z/\z<=255:=⟨bt (ul.1 h).1,bt (ul.1 h).2⟩
theorem V8 {l:List ET} {cl:Nat->List Int} {i:Nat} (h:i<l.length):aJ (T:=.sl (.int .i64)) ((eS l.length).map cl) (i:Int)=cl i:=by
 rw[mf,ay,ba,F7 h];rfl
theorem J8 (a b c:List Int) (Z:a.length<=9223372036854775807) (Y:∀ z∈a,0<=z/\z<=255) (hc:c.length<=9223372036854775807) (U:∀ z∈c,0<=z/\z<=255):Ok (lM (a,b,c)) λy=>y=ai:=by
 unfold lM bg bp bx jN iI bK aX cK aE cB;refine ax (P:=TR) (OA a b c 40 (by omega) (by omega) Z Y hc U) ?_;rintro⟨w,l⟩ tr;have hl:=tr.len;dsimp only at hl;have C:=aly w l;refine aU (O9 tr) (aY (λx=>x=(aj,w,l)) (fE (ar ?_)) ?_)
 .dsimp only;rw[bY,jI,aQ rfl];rfl
 rintro x rfl;refine fE (ch l.length (λj x=>x=((j:Int),w,l)) ?_ ?_ rfl)
 .rintro j x hj rfl;have et:=Qs tr hj;have M:(eN l j).2.1=((eZ l j).k:Int):=et.k;refine dC (cD (aT ?_));refine aY (λx=>x=(w,l)) ?_ ?_
  .by_cases J:(eZ l j).k=3
   .have oj:(eN l j).2.2.1=((eZ l j).ob:Int):=et.ob (by rw[J];decide);refine ch j (λm x=>x=((j:Int)-1-m,(w,l),eN l j)/\Gb l (eZ l j).ob (j-m)=Gb l (eZ l j).ob j) ?_ ?_ ⟨?_,by rw[Nat.sub_zero]⟩
    .rintro m x hm ⟨rfl,el⟩;rw[show (j:Int)-1-m=((j-m-1:Nat):Int) by omega];have hk:j-m-1<l.length:=by omega
     have ekk:=Qs tr hk;have kk:(eN l (j-m-1)).2.1=((eZ l (j-m-1)).k:Int):=ekk.k;refine aY (λx=>x=(ai,(w,l),eN l j)) (fw (λ_=>ar ?_) λg=>by dsimp only at g;omega) ?_
     .show (decide ((eN l j).2.1=3),(w,l),eN l j)=_;rw[M,J];rfl
     rintro x rfl;refine Vs (aY (λx=>x.2=((w,l),eN l j)/\(x.1=aj↔(eZ l (j-m-1)).k=4/\(eZ l (j-m-1)).ob=(eZ l j).ob)) ?_ ?_)
     .refine cD (aT (b8 (λI=>ar ⟨rfl,?_⟩) λI=>cD (aT (ar ⟨rfl,?_⟩))))
      .have I:¬(eN l (j-m-1)).2.1=4:=I;exact⟨λq=>(by cases q),λq=>by omega⟩
      .have I:(eN l (j-m-1)).2.1=4:=I;have I:(eZ l (j-m-1)).k=4:=by omega
       have ob:(eN l (j-m-1)).2.2.1=((eZ l (j-m-1)).ob:Int):=ekk.ob (by rw[I];decide);change (!decide ((eN l (j-m-1)).2.2.1=(eN l j).2.2.1))=aj↔_;rw[ob,oj,Bool.not_eq_false',bP];omega
     rintro⟨x,y⟩ ⟨e,h⟩;dsimp only at e h;subst e;have e2:Gb l (eZ l j).ob (j-m)=if (eZ l (j-m-1)).k=4/\(eZ l (j-m-1)).ob=(eZ l j).ob then ((j-m-1:Nat):Int) else Gb l (eZ l j).ob (j-m-1):=by
      rw[show j-m=j-m-1+1 by omega,Gb,Nat.add_sub_cancel]
     refine aP (λhb=>ar ?_) λhb=>?_
     .rw[aC (λq=>by have:=h.2 q;rw[show x=ai from hb] at this;cases this),el] at e2;refine ⟨by dsimp only;rw[ic (by omega) (by omega)];congr 1;omega,?_⟩;rw[e2];congr 1
     .rw[aF (h.1 hb),el] at e2;have rd:WH l j:=⟨J,by omega⟩
      have er:SK l j=j-m-1:=by unfold SK;omega
      have e9:vE w l j=jl (Hz w l j) (vE w l (SK l j)):=by rw[HA,aF rd]
      have le:LE (vE w l (j-m-1)) (vE w l j):=by rw[e9,er];exact al4 _ _
      refine aR (by dsimp only;omega) (by dsimp only;rw[bY,jI];omega) (aT (aR (by dsimp only;omega) (by dsimp only;rw[bY,jI];omega) (aT ?_)));dsimp only;rw[V8 hk,V8 hj];exact aU (ah5 _ _ (Oj tr C hk).lb (Oj tr C hj).lb le.2) (fE (ar rfl))
    .rintro x ⟨rfl,el⟩;refine aY (λx=>x=(aj,(w,l),eN l j)) (fw (λg=>by dsimp only at g;omega) λ_=>ar rfl) ?_;rintro x rfl;exact fE (ar rfl)
    .dsimp only;rw[ic (by omega) (by omega)];congr 1;omega
   .refine ch 0 (λ_ x=>x=(bl .i64 ((j:Int)-1),(w,l),eN l j)) (λi x hi=>by omega) ?_ rfl;rintro x rfl;refine aY (λx=>x=(aj,(w,l),eN l j)) (fw (λ_=>ar ?_) λ_=>ar rfl) ?_
    .show (decide ((eN l j).2.1=3),(w,l),eN l j)=_;rw[M,bF (by omega)]
    rintro x rfl;exact fE (ar rfl)
  rintro x rfl;refine ar ?_;dsimp only;rw[gW (by omega)]
 .rintro x rfl;exact dx (aU (x:=ai) (by rw[adc];rfl) (ar rfl))
theorem ShbReads_law (x:List Int×List Int×List Int) (w:U4 (.st (.pr (.sl (.int .u8)) (.pr (.sl (.int .u8)) (.sl (.int .u8))))) x):lM x=af ai:=by
 obtain⟨a,b,c⟩:=x;obtain⟨⟨l0,w0⟩,_,⟨l2,J⟩⟩:=w;obtain⟨y,h,rfl⟩:=J8 a b c l0 (λz I=>Wd (w0 z I)) l2 (λz I=>Wd (J z I));exact h
def inert (f:FuncId):Bool:=aB f 51
theorem PD:∃ I,Tryz.prog.underlying 20=af (.interface I):=⟨#[],by kernel_rfl⟩
theorem Zk (w:World):(Op.equal 20 .nilIface .nilIface).run Tryz.prog w= .ok ai w:=by
 obtain⟨I,hu⟩:=PD;have key:∀ d,(Op.equalIn (d+1) 20 .nilIface .nilIface).run Tryz.prog w= .ok ai w:=λd=>by simp[Op.equalIn,run_underlying hu]
 exact key 9999
theorem Y0 {P:Program} {ops:Array Oper} {Q:Exit->Act->List Frame->World->Prop} {i:Nat} {rest:List Nat} {a:Act} {cs:List Frame} {w w':World} {o:Oper} (J:ops[i]? =af o) (I:o.guard=ah) (hr:(execOp a.eval o).run P w= .ok .recover w') (hn:recoverD cs=ah) (h:wpOpsS P ops Q rest (a.put o.dst .nilIface) cs w'):wpOpsS P ops Q (i::rest) a cs w:=by
 have I:iF o (yielded ops a.tmps)=ai:=by unfold iF;rw[I]
 simp only[wpOpsS,J,I,bC,hr,hn];exact h
theorem YZ {P:Program} {ops:Array Oper} {Q:Exit->Act->List Frame->World->Prop} {i:Nat} {rest:List Nat} {a:Act} {cs:List Frame} {w w':World} {o:Oper} {v:Value} (J:ops[i]? =af o) (I:o.guard=ah) (hr:(execOp a.eval o).run P w= .ok (.value v) w') (h:wpOpsS P ops Q rest (a.put o.dst v) cs w'):wpOpsS P ops Q (i::rest) a cs w:=by
 have I:iF o (yielded ops a.tmps)=ai:=by unfold iF;rw[I]
 simp only[wpOpsS,J,I,bC,hr];exact h
theorem PC:Kf Tryz.prog inert:=by
 intro f hf;have hf:f=51:=aw hf;subst hf;refine ⟨⟨Tryz.f51,Tryz.func51,by kernel_rfl,by kernel_rfl⟩,λargs w=>?_⟩;refine callsD_of_wpS Tryz.func51 rfl λc₀ cs hu=>?_
 refine wpS_seq (wpS_region ?_);generalize ht:(args++oh (Tryz.f51.ntmps-args.size) undef)=T;have hs:5<=T.size:=by
  rw[<- ht];simp only[Array.size_append,Array.size_replicate];have:Tryz.f51.ntmps=5:=rfl;omega
 have hr:recoverD (c₀::cs)=ah:=by simp[recoverD,hu]
 refine Y0 (i:=0) (rest:=[1]) rfl rfl (w':=w) ?_ hr ?_
 .simp[execOp,resolve,invoke,builtin]
 refine YZ (v:=.bool aj) rfl rfl (w':=w) ?_ ?_
 .have hv:Act.eval (MP {tmps:=T,defers:=[]} (af 2) .nilIface) (.tmp 2)= .nilIface:=by
   simp[Act.eval,MP,show 2<T.size by omega]
  have h2:=Zk w;have hcst:Act.eval (MP {tmps:=T,defers:=[]} (af 2) .nilIface) (.const .nilIface)= .nilIface:=rfl;show (execOp (Act.eval (MP {tmps:=T,defers:=[]} (af 2) .nilIface)) _).run _ w=_;simp[execOp,hv,hcst,eqGuard,binOp,h2]
 show Exit.thenS _ _ .normal _ _ _;refine wpS_cond (t:=aj) ?_ ?_
 .simp[Act.eval,MP,show 3<T.size by omega]
 refine wpS_of_wp (wp_skip ?_);have hres:Tryz.f51.results=#[]:=rfl;exact⟨rfl,c₀.mode,rfl,.tuple #[],by simp[results,hres],⟨_,rfl⟩,hu,rfl⟩
def dP {α:Type}:List (Nat×α)->PT α
 |[]=>.leaf
 |p::r=>(dP r).set p.1 (af p.2)
noncomputable abbrev Pg:Program:=Tryz.prog
def cn (D:FT) (m:D.pre.ty.den->Option D.post.ty.den):cu:=⟨D.pre,D.post,m⟩
theorem aje:Pg.follows .mixedOrders=ai:=by kernel_rfl
theorem ac {f:FuncId} {c:cu} {l:List (FuncId×cu)} (h:aI Pg f c) (t:Sj Pg l):Sj Pg ((f,c)::l):=⟨h,t⟩
theorem an:Sj Pg []:=trivial
inductive OI {R:Type}:Option R->Option R->Prop where
 |rfl {a:Option R}:OI a a
 |chk {b:Bool} {k k':Option R} (h:kT k k'):OI (chk b λ_=>k) (chk b λ_=>k')
 |bcase {b:Bool} {t f t' f':Option R} (h1:kT t t') (h2:kT f f'):OI (bcase b t f) (bcase b t' f')
 |lt {α:Type} {x:α} {k k':α->Option R} (h:∀ y,kT (k y) (k' y)):OI (lt x k) (lt x k')
 |jn {α:Type} {o o':Option (R⊕α)} {k k':α->Option R} (h:kT o o') (hk:∀ x,kT (k x) (k' x)):OI (jn o k) (jn o' k')
 |obind {α:Type} {o o':Option α} {k k':α->Option R} (h:kT o o') (hk:∀ x,kT (k x) (k' x)):OI (obind o k) (obind o' k')
 |iter {σ:Type} {f g:σ->Option (σ⊕R)} {x:σ} (h:∀ x,kT (f x) (g x)):OI (fX f x) (iter g x)
theorem OI.o {R:Type} {a b:Option R} (h:OI a b):kT a b:=by
 cases h with
 |rfl=>exact kT.rfl
 |chk h=>exact kT.chk h
 |bcase h g=>exact kT.bcase h g
 |lt h=>exact kT.lt h
 |jn h g=>exact kT.jn h g
 |obind h g=>exact kT.obind h g
 |iter h=>exact kT.iter h
theorem mk {f:FuncId} (D:FT) (m:D.pre.ty.den->Option D.post.ty.den) {l:List (FuncId×cu)} (J:Sj Pg l) (I:TypeId->Option Ty) (he:∀ x,YF (Uu l) I inert (zf Pg f) D x=m x:=by intro x;kernel_rfl) (hs:(zf Pg f).isSome=ai:=by kernel_rfl) (hb:eB D.pre.bs.length D.post.bs.length=ai:=by kernel_rfl):aI Pg f (cn D m):=(Qf aje PC J hs he).toC hb
theorem xZ {f:FuncId} (D:FT) (m n:D.pre.ty.den->Option D.post.ty.den) (J:∀ x,kT (m x) (n x)) {l:List (FuncId×cu)} (M:Sj Pg l) (I:TypeId->Option Ty) (he:∀ x,YF (Uu l) I inert (zf Pg f) D x=n x:=by intro x;kernel_rfl) (hs:(zf Pg f).isSome=ai:=by kernel_rfl) (hb:eB D.pre.bs.length D.post.bs.length=ai:=by kernel_rfl):aI Pg f (cn D m):=((Qf aje PC M hs he).sub J).toC hb
theorem Px {f:FuncId} (D:FT) (hs:(zf Pg f).isSome=ai:=by kernel_rfl) (hb:eB D.pre.bs.length D.post.bs.length=ai:=by kernel_rfl):aI Pg f (cn D λ_=>ah):=(TI hs).toC hb
abbrev ux:List PV:=[.d aM,.d aM,.d aM,.d aM,.d aM,.nil,.nil]
abbrev vz:List PV:=[.nil,.d aM,.nil,.nil,.nil,.nil,.nil]
abbrev afe:List PV:=[.ptr 1 0,.d aM,.d aM,.d .bool,.d .bool,.d .bool,.d .bool,.row 4]
abbrev afi:List PV:=[.d aM,.d aM,.d .str,.d .str,.nil,.d aM,.d aM,.d .str,.nil,.nil,.nil]
abbrev La2:List PB:=[.cells 205 afe,.cells 89 [.d yd],.gone,.cells 211 afi,.rowsP 9 .str]
abbrev MD:List PV:=[.ptr 0 0,.ptr 1 0,.ptr 2 0,.ptr 3 0,.ptr 4 0,.ptr 5 0,.ptr 6 0,.ptr 7 0,.d .bool]
abbrev La4:List PB:=[.cells 197 [.d (.sl kw),.d (.sl ry),.d (.sl lY),.d (.sl .str),.d (.sl .str),.d (.sl oD),.d (.sl .str),.row 2,.d aM,.d aM],.gone,.rows 201 ai qD]
abbrev La5:List PB:=[.cells 197 [.d (.sl kw),.d (.sl ry),.d (.sl lY),.d (.sl .str),.d (.sl .str),.d (.sl oD),.d (.sl .str),.row 1,.d aM,.d aM],.rows 201 ai qD]
abbrev La6:List PV:=[.d aM,.row 11,.row 12,.d aM]
abbrev La7:List PB:=[.cells 151 [.nil,.nil],.cells 205 [.ptr 5 0,.d aM,.d aM,.d .bool,.d .bool,.d .bool,.d .bool,.row 6],.cells 151 [.d (.sl F6),.row 7],.rows 9 aj .str,.cells 195 [.d .str,.d aM,.row 8,.row 9],.cells 89 [.d yd],.rowsP 9 .str,.rows 195 ai sB,.rows 9 aj .str,.rows 211 ai .sm]
abbrev La8:List PB:=[.cells 236 [.d (.sl F6),.d (.sl sB),.d aM,.row 1,.row 6,.row 7],.rowsP 211 .sm,.gone,.gone,.cells 211 [.d .sm],.cells 151 [.d MF],.rows 9 ai .str,.rows 9 ai .str]
abbrev La9:List PV:=[.d (.sl dS),.d aM,.d pH,.d (.sl hX),.row 8,.row 9,.csl 10 4 4]
abbrev ady:List PB:=[.cells 105 [.d (.sl dS),.d aM,.d pH,.d (.sl hX),.row 6,.row 7,.csl 8 4 4],.cells 154 [.d iE],.cells 105 vz,.cells 52 ux,.cells 52 [.d jM],.cells 188 [.d eO],.rows 2 ai aM,.rows 2 ai aM,.cells 188 [.d eO,.d eO,.d eO,.d eO]]
abbrev aff:List PV:=[.ptr 1 0,.d aM,.d aM,.d .bool,.d .bool,.d .bool,.d .bool,.row 2]
abbrev OF:List PV:=[.d Dn,.d aM]
abbrev U0:List PB:=[.cells 205 aff,.cells 89 OF,.rowsP 9 .str]
abbrev LA:List PV:=[.ptr 0 0,.ptr 1 0,.ptr 2 0,.ptr 3 0,.ptr 4 0,.ptr 5 0,.ptr 6 0,.ptr 7 0,.d aM]
abbrev ahh:List PV:=[.d (.sl dS),.d aM,.d pH,.d (.sl hX),.row 8,.row 9,.csl 10 4 3]
abbrev ai1:List PB:=[.cells 110 [.d uj],.cells 105 ahh,.cells 154 [.d iE],.cells 105 vz,.cells 52 ux,.cells 52 [.d jM],.cells 188 La6,.cells 201 [.d qD],.rows 2 ai aM,.rows 2 ai aM,.cells 188 [.d aM,.row 11,.row 12,.d aM,.d eO,.d eO],.rows 2 ai aM,.rows 50 ai (.sl aM)]
abbrev ai0:List PB:=[.cells 110 [.d uj],.cells 105 ahh,.cells 154 [.d iE],.cells 105 vz,.cells 52 ux,.cells 52 [.d jM],.cells 188 La6,.cells 201 [.d qD],.rows 2 ai aM,.rows 2 ai aM,.cells 188 [.d eO,.d aM,.row 11,.row 12,.d aM,.d eO],.rows 2 ai aM,.rows 50 ai (.sl aM)]
abbrev ahz:List PB:=[.cells 110 [.d uj],.cells 105 ahh,.cells 154 [.d iE],.cells 105 vz,.cells 52 ux,.cells 52 [.d jM],.cells 188 La6,.cells 201 [.d qD],.rows 2 ai aM,.rows 2 ai aM,.cells 188 [.d eO,.d eO,.d aM,.row 11,.row 12,.d aM],.rows 2 ai aM,.rows 50 ai (.sl aM)]
abbrev afh:List PV:=[.d (.sl dS),.d aM,.d pH,.d (.sl hX),.row 8,.row 9,.csl 10 4 2]
abbrev ahy:List PB:=[.cells 110 [.d uj],.cells 105 afh,.cells 154 [.d iE],.cells 105 vz,.cells 52 ux,.cells 52 [.d jM],.cells 188 La6,.cells 201 [.d qD],.rows 2 ai aM,.rows 2 ai aM,.cells 188 [.d aM,.row 11,.row 12,.d aM,.d eO],.rows 2 ai aM,.rows 50 ai (.sl aM)]
abbrev ahx:List PB:=[.cells 110 [.d uj],.cells 105 afh,.cells 154 [.d iE],.cells 105 vz,.cells 52 ux,.cells 52 [.d jM],.cells 188 La6,.cells 201 [.d qD],.rows 2 ai aM,.rows 2 ai aM,.cells 188 [.d eO,.d aM,.row 11,.row 12,.d aM],.rows 2 ai aM,.rows 50 ai (.sl aM)]
abbrev X':List PB:=[.cells 236 [.d (.sl F6),.d (.sl sB),.d aM,.row 1,.row 4,.row 5],.rowsP 211 .sm,.gone,.gone,.rows 9 ai .str,.rows 9 ai .str]
abbrev Lz:List PV:=[.ptr 0 0,.ptr 1 0,.ptr 2 0,.ptr 3 0,.ptr 4 0,.ptr 5 0,.ptr 6 0,.d .bool]
abbrev gV:List PV:=[.ptr 0 0,.d .bool]
abbrev X_:List PB:=[.cells 236 [.d (.sl F6),.d (.sl sB),.d aM,.row 1,.row 2,.row 3],.rowsP 211 .sm,.rows 9 ai .str,.rows 9 ai .str]
abbrev ahw:List PB:=[.cells 110 [.d uj],.cells 105 [.d (.sl dS),.d aM,.d pH,.d (.sl hX),.row 8,.row 9,.csl 10 4 1],.cells 154 [.d iE],.cells 105 vz,.cells 52 ux,.cells 52 [.d jM],.cells 188 La6,.cells 201 [.d qD],.rows 2 ai aM,.rows 2 ai aM,.cells 188 La6,.rows 2 ai aM,.rows 50 ai (.sl aM)]
abbrev Ly:List PV:=[.ptr 0 0,.ptr 1 0,.ptr 2 0,.ptr 3 0,.ptr 4 0,.ptr 5 0,.ptr 6 0]
abbrev ahv:List PB:=[.cells 110 [.d uj],.cells 105 La9,.cells 154 [.d iE],.cells 105 vz,.cells 52 ux,.cells 52 [.d jM],.cells 188 La6,.cells 201 [.d qD],.rows 2 ai aM,.rows 2 ai aM,.cells 188 [.d aM,.row 11,.row 12,.d aM,.d eO,.d eO,.d eO],.rows 2 ai aM,.rows 50 ai (.sl aM)]
abbrev ahu:List PB:=[.cells 110 [.d uj],.cells 105 La9,.cells 154 [.d iE],.cells 105 vz,.cells 52 ux,.cells 52 [.d jM],.cells 188 La6,.cells 201 [.d qD],.rows 2 ai aM,.rows 2 ai aM,.cells 188 [.d eO,.d aM,.row 11,.row 12,.d aM,.d eO,.d eO],.rows 2 ai aM,.rows 50 ai (.sl aM)]
abbrev aht:List PB:=[.cells 110 [.d uj],.cells 105 La9,.cells 154 [.d iE],.cells 105 vz,.cells 52 ux,.cells 52 [.d jM],.cells 188 La6,.cells 201 [.d qD],.rows 2 ai aM,.rows 2 ai aM,.cells 188 [.d eO,.d eO,.d aM,.row 11,.row 12,.d aM,.d eO],.rows 2 ai aM,.rows 50 ai (.sl aM)]
abbrev ahs:List PB:=[.cells 110 [.d uj],.cells 105 La9,.cells 154 [.d iE],.cells 105 vz,.cells 52 ux,.cells 52 [.d jM],.cells 188 La6,.cells 201 [.d qD],.rows 2 ai aM,.rows 2 ai aM,.cells 188 [.d eO,.d eO,.d eO,.d aM,.row 11,.row 12,.d aM],.rows 2 ai aM,.rows 50 ai (.sl aM)]
abbrev Ke:List PB:=[.cells 31 [.d ne],.cells 97 [.d iL],.cells 52 [.d jM],.cells 97 vz]
abbrev Lx:List PV:=[.ptr 0 0,.ptr 1 0,.ptr 2 0,.ptr 3 0,.ptr 4 0,.ptr 5 0]
abbrev ahr:List PB:=[.cells 105 [.d (.sl dS),.d aM,.d pH,.d (.sl hX),.row 6,.row 7,.csl 8 4 3],.cells 154 [.d iE],.cells 105 vz,.cells 52 ux,.cells 52 [.d jM],.cells 188 [.d eO],.rows 2 ai aM,.rows 2 ai aM,.cells 188 [.d eO,.d eO,.d eO]]
abbrev RZ:List PV:=[.d (.sl dS),.d aM,.d pH,.d (.sl hX),.row 7,.row 8,.csl 9 4 4]
abbrev qF:List PV:=[.ptr 0 0,.ptr 1 0,.d .bool]
abbrev zn:List PV:=[.ptr 0 0,.ptr 1 0,.ptr 2 0,.ptr 3 0,.d .bool]
abbrev adq:List PV:=[.nil,.nil,.nil,.nil,.nil,.nil]
abbrev ahq:List PB:=[.cells 151 [.d MF],.cells 31 adq,.cells 31 [.row 4,.row 5,.row 6,.row 7,.nil,.nil],.cells 239 [.d F6],.rows 123 ai kw,.rows 125 ai ry,.rows 116 ai lY,.rows 9 ai .str]
abbrev aag:List PV:=[.nil,.nil,.nil,.nil,.nil,.nil,.nil]
abbrev akr:List PV:=[.d (.sl kw),.d (.sl ry),.d (.sl lY),.d (.sl .str),.d (.sl .str),.d (.sl oD),.row 5]
abbrev al3:List PB:=[.cells 151 [.d MF],.cells 110 aag,.cells 110 akr,.cells 197 [.d (.sl kw),.d (.sl ry),.d (.sl lY),.d (.sl .str),.d (.sl .str),.d (.sl oD),.d (.sl .str),.row 6,.d aM,.d aM],.cells 184 [.d aM,.row 6],.rows 184 ai wD,.rows 201 ai qD]
abbrev GM:List PV:=[.row 0,.d aM,.row 1,.row 2]
abbrev ahp:List PB:=[.cells 89 [.d yd],.cells 97 [.d iL],.cells 31 [.d ne],.rows 52 ai jM,.cells 50 [.row 5,.row 6,.row 7,.row 8],.rows 3 ai aM,.rows 3 ai aM,.rows 3 ai aM,.rows 3 ai aM]
abbrev EL:List PV:=[.ptr 0 0,.ptr 1 0,.ptr 2 0,.d aM]
abbrev Kd:List PV:=[.d aM,.d (.sl aM),.d ku,.d aM]
abbrev X9:List PV:=[.d (.sl dS),.d aM,.d pH,.d (.sl hX),.row 7,.row 8,.csl 9 4 3]
abbrev aho:List PB:=[.cells 89 [.d yd],.cells 97 [.d iL],.cells 31 [.d ne],.cells 50 [.row 4,.row 5,.row 6,.row 7],.rows 3 ai aM,.rows 3 ai aM,.rows 3 ai aM,.rows 3 ai aM]
abbrev EK:List PV:=[.ptr 0 0,.ptr 1 0,.ptr 2 0,.d .bool]
abbrev uw:List PV:=[.ptr 0 0,.ptr 1 0,.d aM]
abbrev Kc:List PV:=[.d aM,.row 10,.row 11,.d aM]
abbrev adp:List PV:=[.d aM,.row 0,.row 1,.d aM]
abbrev Ws:List PV:=[.d aM,.nil,.nil,.d aM]
abbrev ahn:List PB:=[.rows 2 ai aM,.rows 50 ai (.sl aM),.cells 201 [.d qD],.cells 188 adp,.cells 188 Ws]
abbrev ahm:List PB:=[.cells 236 [.d (.sl F6),.d (.sl sB),.d aM,.row 4,.row 5,.row 6],.gone,.gone,.gone,.rowsP 211 .sm,.rows 9 ai .str,.rows 9 ai .str]
abbrev BH:List PV:=[.nil,.d aM,.nil,.nil]
abbrev ahl:List PB:=[.cells 94 [.row 2,.d aM,.row 3,.row 4],.cells 94 BH,.rows 167 ai dS,.rows 4 ai .bool,.rows 169 ai hX]
abbrev Kb:List PV:=[.ptr 0 0,.ptr 3 0,.d .bool]
abbrev al2:List PB:=[.cells 105 [.d (.sl dS),.d aM,.d pH,.d (.sl hX),.row 6,.row 7,.csl 8 4 2],.cells 154 [.d iE],.cells 105 vz,.cells 52 ux,.cells 52 [.d jM],.cells 188 [.d eO],.rows 2 ai aM,.rows 2 ai aM,.cells 188 [.d eO,.d eO]]
abbrev al1:List PB:=[.cells 34 aag,.cells 89 [.d yd],.cells 34 akr,.cells 97 [.d iL],.rows 52 aj jM,.rows 52 ai jM]
abbrev pG:List PB:=[.cells 31 [.d ne]]
abbrev al0:List PB:=[.cells 89 [.d yd],.cells 97 [.d iL],.cells 31 [.d ne],.rows 52 ai jM,.cells 50 [.row 7,.row 8,.row 9,.row 10],.cells 52 [.d jM],.cells 97 [.d iL],.rows 3 ai aM,.rows 3 ai aM,.rows 3 ai aM,.rows 3 ai aM]
abbrev adx:List PB:=[.cells 31 adq,.cells 31 [.row 2,.row 3,.row 4,.row 5,.row 6,.row 7],.rows 123 aj kw,.rows 125 aj ry,.rows 116 aj lY,.rows 9 aj .str,.rows 9 aj .str,.rows 127 ai oD]
abbrev vy:List PV:=[.ptr 0 0,.d aM]
abbrev aaf:List PV:=[.row 2,.row 3,.row 4,.row 5]
abbrev akz:List PB:=[.cells 89 [.d yd],.cells 50 aaf,.rows 3 ai aM,.rows 3 ai aM,.rows 3 ai aM,.rows 3 ai aM,.cells 52 ux,.cells 52 [.d aM,.d aM,.d aM,.d aM,.d aM,.d (.sl aM),.nil]]
abbrev adw:List PV:=[.d (.sl dS),.d aM,.d pH,.d (.sl hX),.row 7,.row 8,.csl 9 4 2]
abbrev Lw:List PV:=[.d vA,.d jM,.d .bool]
abbrev aky:List PB:=[.cells 89 [.d yd],.cells 50 aaf,.rows 3 ai aM,.rows 3 ai aM,.rows 3 ai aM,.rows 3 ai aM,.cells 97 [.d iL],.cells 31 [.d ne],.cells 52 ux,.cells 52 ux]
abbrev akx:List PB:=[.cells 151 [.d MF],.cells 31 adq,.cells 31 [.row 3,.row 4,.row 5,.row 6,.nil,.nil],.rows 123 ai kw,.rows 125 ai ry,.rows 116 ai lY,.rows 9 ai .str]
abbrev ahk:List PV:=[.d (.sl dS),.d aM,.d pH,.d (.sl hX),.row 3,.row 4,.row 5]
abbrev Lv:List PV:=[.d uj,.d vA,.d iE]
abbrev ahj:List PB:=[.rows 167 ai dS,.rows 4 ai .bool,.rows 169 ai hX,.cells 94 GM,.rows 3 ai aM]
abbrev aaj:List PV:=[.row 3,.d aM,.row 4,.row 5]
abbrev akw:List PB:=[.cells 31 [.d ne],.cells 94 aaj,.cells 94 BH,.rows 167 ai dS,.rows 4 ai .bool,.rows 169 ai hX]
abbrev vx:List PV:=[.d aM,.d aM]
abbrev ahi:List PB:=[.rows 52 ai jM,.cells 110 [.d uj],.cells 105 [.d vA],.cells 105 vz]
abbrev akv:List PB:=[.cells 184 [.d wD],.cells 188 [.d aM,.row 3,.row 4,.d aM],.cells 188 Ws,.rows 2 ai aM,.rows 50 ai (.sl aM)]
abbrev aku:List PB:=[.cells 205 afe,.cells 89 [.d yd],.gone,.rows 211 ai .sm,.rowsP 9 .str]
abbrev ahg:List PV:=[.ptr 1 0,.d aM,.d aM,.d .bool,.d .bool,.d .bool,.d .bool,.row 3]
abbrev akt:List PB:=[.cells 52 ux,.cells 188 [.d eO],.cells 201 [.d qD],.cells 52 [.d aM,.d aM,.d aM,.d aM,.d aM,.row 4,.nil],.rows 3 ai aM]
abbrev OE:List PB:=[.cells 211 [.d .sm]]
abbrev adv:List PV:=[.agg [.agg GM,.row 3,.row 4,.csl 5 4 4]]
abbrev RY:List PB:=[.cells 151 [.d MF]]
abbrev ahf:List PB:=[.cells 31 [.d ne],.cells 184 [.d wD],.cells 201 [.d qD]]
abbrev adu:List PB:=[.cells 151 [.d MF],.cells 195 [.d sB]]
abbrev adt:List PB:=[.cells 151 [.d MF],.cells 209 [.d .ex]]
abbrev ahe:List PB:=[.cells 31 [.d ne],.rows 9 ai .str,.cells 123 [.d kw]]
abbrev ahd:List PB:=[.rows 167 ai dS,.rows 4 ai .bool,.rows 169 ai hX]
abbrev ads:List PB:=[.cells 31 [.d ne],.cells 201 [.d qD]]
abbrev adr:List PV:=[.ptr 0 0,.ptr 4 0,.ptr 5 0,.d .bool]
abbrev ahc:List PV:=[.ptr 0 0,.ptr 1 0,.ptr 2 0,.ptr 3 0,.ptr 4 0,.d aM]
abbrev UZ:List PB:=[.cells 31 [.d ne],.cells 94 [.d GP]]
abbrev ahb:List PB:=[.cells 89 [.d yd],.rows 3 ai aM,.rows 3 ai aM]
abbrev X8:List PB:=[.cells 31 [.d ne],.rows 9 ai .str]
abbrev aha:List PB:=[.cells 52 [.d jM],.cells 97 vz,.cells 97 ahk,.rows 2 ai aM,.rows 2 ai aM,.rows 3 ai aM]
abbrev aks:List PB:=[.cells 89 OF,.cells 50 aaf,.rows 3 ai aM,.rows 3 ai aM,.rows 3 ai aM,.rows 3 ai aM]
abbrev Ka:List PV:=[.d (.sl aM),.d aM]
abbrev UY:List PV:=[.ptr 0 0,.row 1,.d aM]
abbrev X7:List PB:=[.cells 239 [.d F6]]
abbrev X6:List PB:=[.cells 89 [.d yd]]
abbrev ah9:List PV:=[.agg [.agg GM,.row 3,.row 4,.csl 5 4 3]]
abbrev RX:List PB:=[.cells 89 OF]
abbrev aao:List PB:=[.rows 2 ai aM,.rows 50 ai (.sl aM)]
abbrev aan:List PB:=[.cells 110 [.d uj],.cells 105 [.d vA]]
abbrev aam:List PB:=[.cells 31 [.d ne],.cells 184 [.d wD]]
abbrev qw:List PV:=[.d (.sl aM)]
abbrev aal:List PV:=[.ptr 0 0,.ptr 1 0,.ptr 2 0,.ptr 3 0]
abbrev afg:List PV:=[.d (.sl dS),.d aM,.d pH,.d (.sl hX),.row 7,.row 8,.csl 9 4 1]
abbrev aak:List PB:=[.cells 94 [.d GP],.rows 3 ai aM]
abbrev R1:List PV:=[.ptr 0 0,.d aM,.d aM]
def tyT:PT Ty:=dP [(2,aM),(3,aM),(4,.bool),(9,.str),(50,(.sl aM)),(52,jM),(57,iE),(77,iE),(91,pH),(116,lY),(123,kw),(125,ry),(127,oD),(154,iE),(167,dS),(169,hX),(184,wD),(188,eO),(195,sB),(201,qD),(209,.ex),(211,.sm),(239,F6)]
def b9 (t:TypeId):Option Ty:=tyT.get t
def Av:FT:=⟨⟨[],[]⟩,⟨[.d (.sl .str)],[]⟩,.leaf⟩
def Lj:cu:=cn Av ki
def yU:FT:=⟨⟨[.d .str],[]⟩,⟨[.d .bool],[]⟩,dP [(8,(.j ⟨[0,3],[4],⟨[.d aM],[]⟩,[]⟩))]⟩
def JF:cu:=cn yU jz
def FR:FT:=⟨⟨[.d (.int .u8)],[]⟩,⟨[.d .bool],[]⟩,dP [(2,(.j ⟨[],[2],⟨[.d .bool],[]⟩,[]⟩))]⟩
def Rr:cu:=cn FR k9
def Jn:FT:=⟨⟨[.d (.int .u8)],[]⟩,⟨[.d .bool],[]⟩,dP [(2,(.j ⟨[],[2],⟨[.d .bool],[]⟩,[]⟩))]⟩
def Us:cu:=cn Jn qX
def Jm:FT:=⟨⟨[.d (.int .u8)],[]⟩,⟨[.d .bool],[]⟩,dP [(2,(.j ⟨[],[2],⟨[.d .bool],[]⟩,[]⟩))]⟩
def Ur:cu:=cn Jm o_
def FU:FT:=⟨⟨[.d .str],[]⟩,⟨[.d .bool],[]⟩,dP [(3,(.j ⟨[0],[21],⟨[.d .bool],[]⟩,[]⟩)),(14,(.j ⟨[0],[3],⟨[.d aM],[]⟩,[]⟩))]⟩
def Rs:cu:=cn FU e_
def Jh:FT:=⟨⟨[.d .bool],[]⟩,⟨[.d aM],[]⟩,.leaf⟩
def Uj:cu:=cn Jh fQ
def Ji:FT:=⟨⟨vx,[]⟩,⟨[.d aM,.d .bool],[]⟩,.leaf⟩
def Uk:cu:=cn Ji tP
def FM:FT:=⟨⟨[.d aM,.d aM,.d aM],[]⟩,⟨[.d aM,.d .bool],[]⟩,dP [(91,(.j ⟨[],[6,7],⟨[.d aM,.d .bool],[]⟩,[]⟩)),(97,(.j ⟨[],[6,7],⟨[.d aM,.d .bool],[]⟩,[]⟩))]⟩
def Rn:cu:=cn FM rS
def Jj:FT:=⟨⟨vx,[]⟩,⟨[.d aM],[]⟩,dP [(12,(.j ⟨[],[5],⟨[.d aM],[]⟩,[]⟩))]⟩
def Ul:cu:=cn Jj qV
def Au:FT:=⟨⟨[.d aM],[]⟩,⟨[.d aM],[]⟩,dP [(4,(.j ⟨[0],[3],⟨[.d .bool],[]⟩,[]⟩)),(10,(.j ⟨[0],[10],⟨[.d .bool],[]⟩,[]⟩)),(16,(.j ⟨[],[17],⟨[.d .bool],[]⟩,[]⟩))]⟩
def Li:cu:=cn Au ma
def oP:FT:=⟨⟨[.d .ex],[]⟩,⟨[.d .bool],[]⟩,dP [(2,(.j ⟨[],[1,3],⟨gV,[.cells 209 [.d .ex]]⟩,[]⟩)),(5,(.j ⟨[],[1,50],⟨gV,[.cells 209 [.d .ex]]⟩,[]⟩)),(16,(.j ⟨[],[1,4],⟨vy,[.cells 209 [.d .ex]]⟩,[]⟩))]⟩
def Gu:cu:=cn oP iW
def Gg (n:Nat):cu:=cn oP (g_ n)
def Jl:FT:=⟨⟨[.d .ex],[]⟩,⟨[.d .bool],[]⟩,dP [(2,(.j ⟨[],[2],⟨[.d .bool],[]⟩,[]⟩))]⟩
def Uq:cu:=cn Jl o9
def sA:FT:=⟨⟨[.d .sm],[]⟩,⟨[.d .bool],[]⟩,dP [(3,(.j ⟨[],[1,13],⟨gV,OE⟩,[]⟩)),(10,(.j ⟨[],[1,3],⟨gV,OE⟩,[]⟩)),(13,(.j ⟨[],[1,47],⟨gV,OE⟩,[]⟩)),(21,(.j ⟨[],[1,66],⟨gV,OE⟩,[]⟩)),(29,(.j ⟨[],[1,95],⟨gV,OE⟩,[]⟩)),(36,(.j ⟨[],[1,4],⟨gV,OE⟩,[]⟩)),(39,(.j ⟨[],[1,130],⟨gV,OE⟩,[]⟩)),(46,(.j ⟨[],[1,5],⟨gV,OE⟩,[]⟩)),(49,(.j ⟨[],[1,157],⟨gV,OE⟩,[]⟩)),(56,(.j ⟨[],[2],⟨[.d .bool],[]⟩,[]⟩))]⟩
def Gf (n:Nat):cu:=cn sA (ef n)
def nO:FT:=⟨⟨[.d (.sl .sm)],[]⟩,⟨[.d .bool],[]⟩,dP [(6,(.j ⟨[0],[3],⟨[.d aM],[]⟩,[]⟩))]⟩
def Eu:cu:=cn nO nC
def DQ (n:Nat):cu:=cn nO (dz n)
def xM:FT:=⟨⟨[.d F6],[]⟩,⟨[.d .bool],[]⟩,dP [(3,(.j ⟨[],[1,31],⟨gV,X7⟩,[]⟩)),(11,(.j ⟨[],[1,50],⟨gV,X7⟩,[]⟩)),(18,(.j ⟨[],[2],⟨[.d .bool],[]⟩,[]⟩))]⟩
def Gt:cu:=cn xM jV
def FP:FT:=⟨⟨[.d MF],[]⟩,⟨[.d .bool],[]⟩,dP [(6,(.j ⟨[],[1,3],⟨vy,RY⟩,[]⟩)),(27,(.j ⟨[],[1,4],⟨vy,RY⟩,[]⟩)),(42,(.j ⟨[4],[1,5,6],⟨uw,adu⟩,[]⟩)),(59,(.j ⟨[4],[1,56],⟨gV,RY⟩,[]⟩))]⟩
def Rq:cu:=cn FP pq
def V3:FT:=⟨⟨[.d (.sl .str),.d .str],[]⟩,⟨[.d aM],[]⟩,dP [(6,(.j ⟨[0,1],[5],⟨[.d aM],[]⟩,[]⟩))]⟩
def acz:cu:=cn V3 iS
def FO:FT:=⟨⟨[.d (.sl F6),.d .str],[]⟩,⟨[.d aM],[]⟩,dP [(6,(.j ⟨[0,1],[5],⟨[.d aM],[]⟩,[]⟩))]⟩
def Rp:cu:=cn FO gZ
def At:FT:=⟨⟨[.d (.sl sB),.d .str],[]⟩,⟨[.d aM],[]⟩,dP [(6,(.j ⟨[0,1],[5],⟨[.d aM],[]⟩,[]⟩))]⟩
def Lh:cu:=cn At gH
def FN:FT:=⟨⟨[.d MF,.d aM,.d .str],[]⟩,⟨[.d aM],[]⟩,dP [(3,(.j ⟨[2],[3,27],⟨gV,RY⟩,[]⟩)),(52,(.j ⟨[7],[3,56],⟨gV,RY⟩,[]⟩))]⟩
def Ro:cu:=cn FN po
def Mk:FT:=⟨⟨[.d MF,.d aM,.d .str,.d aM,.d aM],[]⟩,⟨[.d aM],[]⟩,dP [(13,(.j ⟨[],[25],⟨[.d .bool],[]⟩,[]⟩))]⟩
def Xy:cu:=cn Mk gu
def xn:FT:=⟨⟨[.d .ex],[]⟩,⟨vx,[]⟩,dP [(8,(.j ⟨[],[1,4,5,6],⟨[.ptr 0 0,.d aM,.d aM,.d aM],[.cells 209 [.d .ex]]⟩,[]⟩))]⟩
def Uo:cu:=cn xn Bi
def Td (n:Nat):cu:=cn xn (mU n)
def xm:FT:=⟨⟨[.d MF,.d aM,.d .ex],[]⟩,⟨[.d aM],[]⟩,dP [(7,(.j ⟨[1],[3,5,7],⟨uw,adt⟩,[]⟩)),(21,(.j ⟨[1],[3,5,7,8],⟨[.ptr 0 0,.ptr 1 0,.d aM,.d aM],adt⟩,[]⟩)),(23,(.j ⟨[1,7,8],[3,5,33],⟨qF,adt⟩,[]⟩))]⟩
def Um:cu:=cn xm Bh
def Tc (n:Nat):cu:=cn xm (mT n)
def Ml:FT:=⟨⟨[.d MF,.d aM,.d .ex],[]⟩,⟨[.d aM],[]⟩,dP [(13,(.j ⟨[1],[3,5,22],⟨qF,adt⟩,[]⟩))]⟩
def Xz:cu:=cn Ml l_
def C1:FT:=⟨⟨[.d .bool],[]⟩,⟨[.d aM],[]⟩,.leaf⟩
def Oa:cu:=cn C1 cX
def V2:FT:=⟨⟨vx,[]⟩,⟨[.d aM],[]⟩,.leaf⟩
def acy:cu:=cn V2 iR
def wq:FT:=⟨⟨[.ptr 0 0,.d aM,.d aM,.d .str],X_⟩,⟨[.d .bool],X_⟩,dP [(6,(.j ⟨[1,2,3],[0,9],⟨vy,X_⟩,[]⟩)),(17,(.j ⟨[1,2,3,9],[0,46],⟨gV,X_⟩,[]⟩))]⟩
def Et:cu:=cn wq dM
def As:FT:=⟨⟨[.ptr 0 0,.d .sm],X_⟩,⟨[.d aM],X'⟩,dP [(1,(.a [.ren 0 4,.ren 0 5])),(28,(.j ⟨[6,7,8,9,30],[0,3,5,67],⟨adr,La8⟩,[]⟩)),(41,(.j ⟨[],[4],⟨[.d aM],X'⟩,[]⟩)),(44,(.j ⟨[6,7,8,9,30],[0,3,5,91],⟨adr,La8⟩,[]⟩)),(51,(.j ⟨[],[4],⟨[.d aM],X'⟩,[]⟩)),(63,(.j ⟨[],[4],⟨[.d aM],X'⟩,[]⟩)),(66,(.j ⟨[6,7,8,9,30],[0,3,5,119],⟨adr,La8⟩,[]⟩)),(89,(.j ⟨[],[4],⟨[.d aM],X'⟩,[]⟩)),(108,(.j ⟨[],[0,3,187],⟨[.ptr 0 0,.ptr 4 0,.d .bool],[.cells 236 [.d (.sl F6),.d (.sl sB),.d aM,.row 1,.row 5,.row 6],.rowsP 211 .sm,.gone,.gone,.cells 211 [.d .sm],.rows 9 ai .str,.rows 9 ai .str]⟩,[]⟩)),(131,(.j ⟨[],[4],⟨[.d aM],X'⟩,[]⟩)),(137,(.j ⟨[6],[0,3,5,14],⟨[.ptr 0 0,.ptr 4 0,.ptr 5 0,.d aM],La8⟩,[]⟩)),(139,(.j ⟨[6],[0,3,5,14],⟨[.ptr 0 0,.ptr 4 0,.ptr 5 0,.d aM],La8⟩,[]⟩)),(140,(.j ⟨[6,14],[0,3,5,253],⟨adr,La8⟩,[]⟩))]⟩
def Lf:cu:=cn As l9
def rJ:FT:=⟨⟨[.ptr 0 0,.d (.sl .sm)],X_⟩,⟨vx,ahm⟩,dP [(1,(.a [.ren 0 3,.ren 0 4,.ren 0 5])),(6,(.j ⟨[1],[0,6],⟨vy,ahm⟩,[]⟩)),(19,(.j ⟨[1,6],[0,7,8],⟨[.ptr 0 0,.ptr 4 0,.d aM],[.cells 236 [.d (.sl F6),.d (.sl sB),.d aM,.row 5,.row 6,.row 7],.gone,.gone,.gone,.cells 211 [.d .sm],.rowsP 211 .sm,.rows 9 ai .str,.rows 9 ai .str]⟩,[]⟩)),(37,(.j ⟨[1,6],[0,8,9],⟨R1,ahm⟩,[]⟩))]⟩
def Lg:cu:=cn rJ vj
def KJ (n:Nat):cu:=cn rJ (iw n)
def xo:FT:=⟨⟨[.d (.sl .sm)],[]⟩,⟨[.d aM],[]⟩,dP [(8,(.j ⟨[0],[3,4],⟨vx,[]⟩,[]⟩))]⟩
def Up:cu:=cn xo Bj
def Te (n:Nat):cu:=cn xo (mV n)
def Jk:FT:=⟨⟨[.d (.sl F6)],[]⟩,⟨vx,[]⟩,dP [(8,(.j ⟨[0],[4,5,6,7,8],⟨[.d aM,.d aM,.d aM,.d aM,.d aM],[]⟩,[]⟩)),(16,(.j ⟨[0,8],[4,5,6,7],⟨[.d aM,.d aM,.d aM,.d aM],[]⟩,[]⟩)),(38,(.j ⟨[0,8],[4,5,6,7,9],⟨[.d aM,.d aM,.d aM,.d aM,.ptr 0 0],X7⟩,[]⟩)),(39,(.j ⟨[0,4,5,6,7,8,36],[9,39],⟨gV,X7⟩,[]⟩)),(47,(.j ⟨[0,4,5,6,7,8,36],[9,47],⟨gV,X7⟩,[]⟩)),(61,(.j ⟨[0,4,5,6,7,8],[9,69],⟨gV,X7⟩,[]⟩))]⟩
def Un:cu:=cn Jk qW
def CZ:FT:=⟨⟨[.d MF],[]⟩,⟨vx,[]⟩,dP [(6,(.j ⟨[],[1,4],⟨vy,RY⟩,[]⟩)),(17,(.j ⟨[4],[1,5,37],⟨qF,adu⟩,[]⟩)),(29,(.j ⟨[],[1,6],⟨vy,RY⟩,[]⟩)),(51,(.j ⟨[6],[1,7,8],⟨uw,adu⟩,[]⟩)),(62,(.j ⟨[6,8],[1,7,90],⟨qF,adu⟩,[]⟩))]⟩
def N':cu:=cn CZ nB
def C2:FT:=⟨⟨[.d MF],[]⟩,⟨vx,[]⟩,dP [(44,(.j ⟨[],[1,8,9],⟨R1,RY⟩,[]⟩)),(67,(.a [.cel 10 3 211 .sm,.cel 10 4 9 .str,.cel 10 5 9 .str])),(69,(.j ⟨[],[1,10,11],⟨uw,[.cells 151 [.d MF],.cells 236 [.d (.sl F6),.d (.sl sB),.d aM,.row 2,.row 3,.row 4],.rowsP 211 .sm,.rows 9 ai .str,.rows 9 ai .str]⟩,[]⟩))]⟩
def Ob:cu:=cn C2 fd
def xl:FT:=⟨⟨[.row 0,.d aM,.d aM,.d (.sl .sm)],[.rows 127 ai oD]⟩,⟨[.row 1,.d aM],[.gone,.rows 127 ai oD]⟩,dP [(1,(.a [.ren 0 0])),(6,(.j ⟨[1,3],[0,2,10],⟨[.row 1,.d aM,.d aM],[.gone,.rows 127 ai oD]⟩,[]⟩)),(25,(.a [.nil 8 127 oD]))]⟩
def Ud:cu:=cn xl HY
def Tb (n:Nat):cu:=cn xl (pg n)
def FJ:FT:=⟨⟨[.d (.sl ry),.d .str],[]⟩,⟨[.d aM],[]⟩,dP [(6,(.j ⟨[0,1],[5],⟨[.d aM],[]⟩,[]⟩))]⟩
def Rk:cu:=cn FJ j7
def FL:FT:=⟨⟨[.d ne,.d .str],[]⟩,⟨[.d aM],[]⟩,dP [(6,(.j ⟨[1],[2,5],⟨vy,pG⟩,[]⟩))]⟩
def Rm:cu:=cn FL kZ
def Jf:FT:=⟨⟨[.d MF],[]⟩,⟨[.d ne],[]⟩,dP [(18,(.j ⟨[],[1,2,3,6],⟨EL,akx⟩,[.cel 3 0 123 kw,.cel 3 1 125 ry,.cel 3 2 116 lY,.cel 3 3 9 .str]⟩)),(31,(.j ⟨[6],[1,2,3],⟨[.ptr 0 0,.ptr 1 0,.ptr 2 0],akx⟩,[]⟩)),(32,(.j ⟨[6,31],[1,2,3,7,39],⟨zn,ahq⟩,[]⟩)),(42,(.j ⟨[6],[1,2,3,7,8],⟨[.ptr 0 0,.ptr 1 0,.ptr 2 0,.ptr 3 0,.d aM],ahq⟩,[]⟩)),(53,(.j ⟨[6,31],[1,2,3,7,65],⟨zn,ahq⟩,[]⟩)),(69,(.a [.cel 3 5 127 oD])),(71,(.j ⟨[],[1,2,3,9],⟨EL,[.cells 151 [.d MF],.cells 31 adq,.cells 31 [.row 3,.row 4,.row 5,.row 6,.row 7,.row 8],.rows 123 ai kw,.rows 125 ai ry,.rows 116 ai lY,.rows 9 ai .str,.rows 9 ai .str,.rows 127 ai oD]⟩,[.cel 3 4 9 .str]⟩))]⟩
def Uh:cu:=cn Jf tO
def Jc:FT:=⟨⟨[.d ne],[]⟩,⟨[.d (.sl .str),.d .bool],[]⟩,dP [(8,(.j ⟨[],[1,4,5],⟨UY,X8⟩,[.nil 4 9 .str]⟩)),(15,(.j ⟨[],[1,4,5],⟨UY,X8⟩,[]⟩)),(37,(.j ⟨[5],[1,4,6,51],⟨[.ptr 0 0,.row 1,.ptr 2 0,.d .bool],ahe⟩,[]⟩)),(48,(.j ⟨[5],[1,4,6,7],⟨[.ptr 0 0,.row 1,.ptr 2 0,.d aM],ahe⟩,[]⟩)),(59,(.j ⟨[5,7],[1,4,6,93],⟨[.ptr 0 0,.row 1,.ptr 2 0,.d .bool],ahe⟩,[]⟩)),(72,(.j ⟨[],[1,4,9],⟨UY,X8⟩,[]⟩)),(87,(.j ⟨[],[1,4,10],⟨UY,X8⟩,[]⟩))]⟩
def Ue:cu:=cn Jc o7
def xL:FT:=⟨⟨[.d ne],[]⟩,⟨[.d .bool],[]⟩,dP [(3,(.j ⟨[],[1,49],⟨gV,pG⟩,[]⟩)),(24,(.j ⟨[3],[1,5],⟨vy,pG⟩,[]⟩)),(33,(.j ⟨[3,5],[1,79],⟨gV,pG⟩,[]⟩)),(45,(.j ⟨[],[1,6],⟨vy,pG⟩,[]⟩)),(56,(.j ⟨[6],[1,109],⟨gV,pG⟩,[]⟩)),(68,(.j ⟨[],[1,8],⟨vy,pG⟩,[]⟩)),(76,(.j ⟨[8],[1],⟨[.ptr 0 0],pG⟩,[]⟩)),(80,(.j ⟨[8],[1,9,132],⟨qF,[.cells 31 [.d ne],.cells 127 [.d oD]]⟩,[]⟩)),(87,(.j ⟨[8],[1,9,146],⟨qF,[.cells 31 [.d ne],.cells 127 [.d oD]]⟩,[]⟩)),(90,(.j ⟨[8],[1,165],⟨gV,pG⟩,[]⟩))]⟩
def Gs:cu:=cn xL gY
def yT:FT:=⟨⟨[.d qD],[]⟩,⟨qw,[]⟩,dP [(6,(.j ⟨[4],[1,5],⟨gV,[.cells 201 [.d qD]]⟩,[]⟩)),(24,(.j ⟨[4],[1,13],⟨gV,[.cells 201 [.d qD]]⟩,[]⟩)),(46,(.j ⟨[4],[1,37],⟨gV,[.cells 201 [.d qD]]⟩,[]⟩))]⟩
def JE:cu:=cn yT jy
def FK:FT:=⟨⟨[.d aM],[]⟩,⟨[.d .bool],[]⟩,dP [(2,(.j ⟨[],[2],⟨[.d .bool],[]⟩,[]⟩))]⟩
def Rl:cu:=cn FK pn
def Jd:FT:=⟨⟨[.d (.sl qD),.d aM],[]⟩,⟨[.d .bool],[]⟩,dP [(6,(.j ⟨[0],[1,5],⟨vx,[]⟩,[]⟩)),(14,(.j ⟨[0,5],[1],⟨[.d aM],[]⟩,[]⟩)),(16,(.j ⟨[0,1,5],[19],⟨[.d .bool],[]⟩,[]⟩))]⟩
def Uf:cu:=cn Jd o8
def V0:FT:=⟨⟨vx,[]⟩,⟨[.d .bool],[]⟩,dP [(2,(.j ⟨[],[4],⟨[.d .bool],[]⟩,[]⟩))]⟩
def acx:cu:=cn V0 jf
def Je:FT:=⟨⟨[.d ne,.d aM,.d aM],[]⟩,⟨[.d .bool],[]⟩,dP [(2,(.j ⟨[],[6],⟨[.d .bool],[]⟩,[]⟩))]⟩
def Ug:cu:=cn Je mQ
def CW:FT:=⟨⟨[.d ne,.d qD],[]⟩,⟨[.d .bool],[]⟩,dP [(9,(.j ⟨[],[4],⟨[.d .bool],[]⟩,[]⟩)),(15,(.j ⟨[],[4],⟨[.d .bool],[]⟩,[]⟩)),(30,(.j ⟨[6],[2,3,59],⟨qF,ads⟩,[]⟩)),(37,(.j ⟨[],[4],⟨[.d .bool],[]⟩,[]⟩)),(40,(.j ⟨[6],[2,3,78],⟨qF,ads⟩,[]⟩)),(55,(.j ⟨[],[4],⟨[.d .bool],[]⟩,[]⟩)),(58,(.j ⟨[6],[2,3,98],⟨qF,ads⟩,[]⟩)),(72,(.j ⟨[6],[2,3,108],⟨qF,ads⟩,[]⟩)),(97,(.j ⟨[],[4],⟨[.d .bool],[]⟩,[]⟩)),(103,(.j ⟨[],[4],⟨[.d .bool],[]⟩,[]⟩))]⟩
def N8:cu:=cn CW lm
def wn:FT:=⟨⟨[.d ne,.d aM,.d wD],[]⟩,⟨[.d .bool],[]⟩,dP [(5,(.j ⟨[1,7],[3,5,26],⟨qF,aam⟩,[]⟩)),(16,(.j ⟨[1,7],[3,5,8],⟨uw,aam⟩,[]⟩)),(28,(.j ⟨[1,7,8],[3,5,9,67],⟨EK,ahf⟩,[]⟩)),(36,(.j ⟨[1,7,8],[3,5,9,100],⟨EK,ahf⟩,[]⟩)),(44,(.j ⟨[1,7,8],[3,5,9,122],⟨EK,ahf⟩,[]⟩)),(56,(.j ⟨[1,7,8,10],[3,5,11],⟨uw,aam⟩,[]⟩))]⟩
def Es:cu:=cn wn ii
def Jg:FT:=⟨⟨[.d uj],[]⟩,⟨[.d .bool],[]⟩,dP [(3,(.j ⟨[],[1,17],⟨gV,[.cells 110 [.d uj]]⟩,[]⟩)),(14,(.j ⟨[],[1,3],⟨vy,[.cells 110 [.d uj]]⟩,[]⟩))]⟩
def Ui:cu:=cn Jg jx
def CX:FT:=⟨⟨[.ptr 0 0,.d qD],La5⟩,⟨[],La4⟩,.leaf⟩
def N9:cu:=cn CX cz
def qm:FT:=⟨⟨[.ptr 0 0,.d .ex,.d aM],La5⟩,⟨[],La4⟩,dP [(2,(.j ⟨[],[],⟨[],La4⟩,[]⟩))]⟩
def JB:cu:=cn qm iB
def H_ (n:Nat):cu:=cn qm (iC n)
def xK:FT:=⟨⟨[.ptr 0 0,.d .sm],La5⟩,⟨[],La4⟩,.leaf⟩
def Gr:cu:=cn xK lJ
def Ar:FT:=⟨⟨[.ptr 0 0,.d .str],La5⟩,⟨[.d aM],La5⟩,dP [(6,(.j ⟨[1],[0,5],⟨vy,La5⟩,[]⟩))]⟩
def Ld:cu:=cn Ar jk
def qn:FT:=⟨⟨[.ptr 0 0,.d (.sl .sm)],La5⟩,⟨[],La4⟩,dP [(1,(.a [.ren 0 7])),(3,(.j ⟨[1],[0,4],⟨vy,La4⟩,[]⟩))]⟩
def JD:cu:=cn qn tN
def Ia (n:Nat):cu:=cn qn (dF n)
def vq:FT:=⟨⟨[.ptr 0 0,.d .sm],La5⟩,⟨[],La4⟩,dP [(1,(.a [.ren 0 7])),(10,(.j ⟨[],[],⟨[],La4⟩,[]⟩)),(15,(.j ⟨[4,25],[0,3,31],⟨[.ptr 0 0,.ptr 2 0,.d .bool],[.cells 197 [.d (.sl kw),.d (.sl ry),.d (.sl lY),.d (.sl .str),.d (.sl .str),.d (.sl oD),.d (.sl .str),.row 3,.d aM,.d aM],.gone,.cells 211 [.d .sm],.rows 201 ai qD]⟩,[]⟩))]⟩
def KI (n:Nat):cu:=cn vq (eE n)
def qp:FT:=⟨⟨[.ptr 0 0,.d .sm],La5⟩,⟨[],La4⟩,.leaf⟩
def Cg (n:Nat):cu:=cn qp (c4 n)
def sx:FT:=⟨⟨[.ptr 0 0,.d .sm,.d aM,.d aM,.d aM],La5⟩,⟨[],La4⟩,.leaf⟩
def Ge (n:Nat):cu:=cn sx (dA n)
def CY:FT:=⟨⟨[.d MF],[]⟩,⟨[.d uj,.d aM,.d aM],[]⟩,dP [(20,(.j ⟨[],[1,2,7,8,9],⟨[.ptr 0 0,.ptr 1 0,.ptr 2 0,.d aM,.d aM],[.cells 151 [.d MF],.cells 110 aag,.cells 110 [.d (.sl kw),.d (.sl ry),.d (.sl lY),.d (.sl .str),.d (.sl .str),.d (.sl oD),.row 3],.rows 184 ai wD]⟩,[.cel 7 6 184 wD]⟩)),(32,(.a [.cel 10 7 201 qD])),(45,(.j ⟨[8,9],[1,2,7,10,11,12],⟨ahc,al3⟩,[]⟩)),(59,(.j ⟨[8,9,12,13],[1,2,7,10,11,14],⟨ahc,al3⟩,[]⟩))]⟩
def N_:cu:=cn CY p_
def QK:FT:=⟨⟨Ka,[]⟩,⟨[.d .bool],[]⟩,dP [(6,(.j ⟨[0,1],[5],⟨[.d aM],[]⟩,[]⟩))]⟩
def ZP:cu:=cn QK pZ
def QJ:FT:=⟨⟨Ka,[]⟩,⟨qw,[]⟩,dP [(6,(.j ⟨[0,1],[5],⟨[.d aM],[]⟩,[]⟩)),(8,(.j ⟨[0,1,5],[18],⟨[.d .bool],[]⟩,[]⟩)),(16,(.j ⟨[0,1,5],[32],⟨[.d .bool],[]⟩,[]⟩))]⟩
def ZO:cu:=cn QJ vP
def Jb:FT:=⟨⟨[.d (.sl aM),.d (.sl aM)],[]⟩,⟨qw,[]⟩,dP [(8,(.j ⟨[0,1],[5,6],⟨Ka,[]⟩,[]⟩)),(23,(.j ⟨[1],[5,7],⟨Ka,[]⟩,[]⟩))]⟩
def Uc:cu:=cn Jb qU
def Aq:FT:=⟨⟨[.d aM],[]⟩,⟨[.d aM],[]⟩,dP [(3,(.j ⟨[0],[8],⟨[.d .bool],[]⟩,[]⟩))]⟩
def Lc:cu:=cn Aq l8
def Mj:FT:=⟨⟨[.d eO],[]⟩,⟨[.agg adp],aao⟩,dP [(8,(.j ⟨[],[1,2,3,4],⟨EL,[.cells 188 [.d eO],.cells 188 Ws,.cells 188 [.d aM,.row 3,.row 4,.d aM],.rows 2 ai aM,.rows 50 ai (.sl aM)]⟩,[.cel 3 2 50 (.sl aM)]⟩))]⟩
def Xx:cu:=cn Mj cg
def Mi:FT:=⟨⟨[.d qD,.agg adp],aao⟩,⟨[.agg adp,.d .bool],aao⟩,dP [(8,(.j ⟨[6],[2,3,4,7],⟨[.ptr 2 0,.ptr 3 0,.ptr 4 0,.d aM],ahn⟩,[]⟩)),(17,(.j ⟨[6,7],[2,3,4,33],⟨[.ptr 2 0,.ptr 3 0,.ptr 4 0,.d .bool],ahn⟩,[]⟩)),(32,(.j ⟨[],[2,3,4,8,9,10],⟨[.ptr 2 0,.ptr 3 0,.ptr 4 0,.d aM,.d .bool,.d (.sl aM)],ahn⟩,[]⟩))]⟩
def Xw:cu:=cn Mi vO
def FI:FT:=⟨⟨[.d wD,.d eO],[]⟩,⟨[.d eO,.d .bool],[]⟩,dP [(3,(.j ⟨[],[2,3,4,23],⟨EK,[.cells 184 [.d wD],.cells 188 [.d eO],.cells 188 Ws]⟩,[]⟩)),(16,(.j ⟨[],[2,3,4,6],⟨EL,akv⟩,[]⟩)),(26,(.j ⟨[6],[2,3,4,44],⟨EK,akv⟩,[]⟩))]⟩
def Rj:cu:=cn FI mP
def I_:FT:=⟨⟨[.d ne],[]⟩,⟨[.d GP],[]⟩,dP [(8,(.j ⟨[],[1,2,3,4],⟨EL,[.cells 31 [.d ne],.cells 94 BH,.cells 94 [.row 3,.d aM,.nil,.nil],.rows 167 ai dS]⟩,[.cel 3 0 167 dS]⟩)),(23,(.j ⟨[],[1,2,3,5],⟨EL,[.cells 31 [.d ne],.cells 94 BH,.cells 94 [.row 3,.d aM,.row 4,.nil],.rows 167 ai dS,.rows 4 ai .bool]⟩,[.cel 3 2 4 .bool]⟩)),(38,(.j ⟨[],[1,2,3,6],⟨EL,[.cells 31 [.d ne],.cells 94 BH,.cells 94 aaj,.rows 167 ai dS,.rows 4 ai .bool,.rows 169 ai hX]⟩,[.cel 3 3 169 hX]⟩)),(49,(.j ⟨[6],[1,2,3,7],⟨aal,[.cells 31 [.d ne],.cells 94 BH,.cells 94 [.row 4,.d aM,.row 5,.row 6],.cells 169 [.d hX],.rows 167 ai dS,.rows 4 ai .bool,.rows 169 ai hX]⟩,[]⟩))]⟩
def Ua:cu:=cn I_ qS
def Mg:FT:=⟨⟨[.d ne,.d GP],[]⟩,⟨[.d .bool],[]⟩,dP [(6,(.j ⟨[],[2,3,5],⟨uw,UZ⟩,[]⟩)),(15,(.j ⟨[5],[2,3,31],⟨qF,UZ⟩,[]⟩)),(23,(.j ⟨[],[4],⟨[.d .bool],[]⟩,[]⟩))]⟩
def Xu:cu:=cn Mg qT
def VZ:FT:=⟨⟨vx,[]⟩,⟨[.d .bool],[]⟩,dP [(2,(.j ⟨[],[4],⟨[.d .bool],[]⟩,[]⟩))]⟩
def acw:cu:=cn VZ pY
def I9:FT:=⟨⟨[.d ne,.d aM,.d aM],[]⟩,⟨[.d .bool],[]⟩,dP [(6,(.j ⟨[2,7],[3,8],⟨gV,pG⟩,[]⟩)),(36,(.j ⟨[2,7],[3,18],⟨gV,pG⟩,[]⟩)),(46,(.j ⟨[2,7],[3,26],⟨gV,pG⟩,[]⟩)),(53,(.j ⟨[],[6],⟨[.d .bool],[]⟩,[]⟩)),(56,(.j ⟨[2,7],[3,43],⟨gV,pG⟩,[]⟩)),(71,(.j ⟨[],[6],⟨[.d .bool],[]⟩,[]⟩)),(74,(.j ⟨[2,7],[3,61],⟨gV,pG⟩,[]⟩)),(92,(.j ⟨[2,7],[3,71],⟨gV,pG⟩,[]⟩)),(102,(.j ⟨[2],[3,79],⟨gV,pG⟩,[]⟩))]⟩
def T_:cu:=cn I9 tM
def CV:FT:=⟨⟨[.d ne,.d GP,.d aM,.d aM,.d aM],[]⟩,⟨[.d .bool],[]⟩,dP [(3,(.j ⟨[2,3,4],[5,6,30],⟨qF,UZ⟩,[]⟩)),(25,(.j ⟨[],[10],⟨[.d .bool],[]⟩,[]⟩)),(50,(.j ⟨[],[10],⟨[.d .bool],[]⟩,[]⟩)),(56,(.j ⟨[],[10],⟨[.d .bool],[]⟩,[]⟩)),(59,(.j ⟨[2,4,70],[5,6,11,119],⟨EK,[.cells 31 [.d ne],.cells 94 [.d GP],.cells 169 [.d hX]]⟩,[]⟩)),(99,(.j ⟨[2,4,70],[5,6,160],⟨qF,UZ⟩,[]⟩)),(116,(.j ⟨[],[10],⟨[.d .bool],[]⟩,[]⟩)),(122,(.j ⟨[],[10],⟨[.d .bool],[]⟩,[]⟩))]⟩
def N7:cu:=cn CV j6
def CU:FT:=⟨⟨[.d GP,.d aM],[]⟩,⟨qw,[]⟩,dP [(8,(.j ⟨[1],[2,5,6],⟨UY,aak⟩,[.nil 5 3 aM]⟩)),(16,(.j ⟨[1,6],[2,5],⟨[.ptr 0 0,.row 1],aak⟩,[]⟩)),(17,(.j ⟨[1,6],[2,5,30],⟨[.ptr 0 0,.row 1,.d .bool],aak⟩,[]⟩))]⟩
def N6:cu:=cn CU nA
def CS:FT:=⟨⟨Ka,[]⟩,⟨qw,[]⟩,dP [(8,(.j ⟨[0,1],[5,6],⟨[.row 0,.d aM],[.rows 3 ai aM]⟩,[.nil 5 3 aM]⟩)),(16,(.j ⟨[0,1,6],[5],⟨[.row 0],[.rows 3 ai aM]⟩,[]⟩))]⟩
def N5:cu:=cn CS pW
def Mh:FT:=⟨⟨[.d GP],[]⟩,⟨[.agg GM],ahd⟩,dP [(8,(.j ⟨[],[1,2,3,4],⟨EL,[.cells 94 [.d GP],.cells 94 BH,.cells 94 aaj,.rows 167 ai dS,.rows 4 ai .bool,.rows 169 ai hX]⟩,[.cel 3 0 167 dS]⟩))]⟩
def Xv:cu:=cn Mh ig
def md:FT:=⟨⟨[.agg GM,.d aM],ahd⟩,⟨qw,ahd⟩,dP [(8,(.j ⟨[1],[2,5,6],⟨[.ptr 3 0,.row 4,.d aM],ahj⟩,[.nil 5 3 aM]⟩)),(16,(.j ⟨[1,6],[2,5],⟨[.ptr 3 0,.row 4],ahj⟩,[]⟩)),(17,(.j ⟨[1,6],[2,5,30],⟨[.ptr 3 0,.row 4,.d .bool],ahj⟩,[]⟩))]⟩
def Lb:cu:=cn md l7
def JA:cu:=⟨md.pre,⟨md.post.vs,[]⟩,jw⟩
def Ja:FT:=⟨⟨[.d ne,.d GP,.d aM,.d aM,.d aM,.d aM],[]⟩,⟨[.d GP,.d aM,.d .bool],[]⟩,dP [(17,(.j ⟨[],[7,12,15],⟨uw,ahl⟩,[]⟩)),(26,(.j ⟨[2,4,5,15,30],[6,7,12,45],⟨EK,akw⟩,[]⟩)),(34,(.j ⟨[2,4,5,15,30],[6,7,12,54],⟨EK,akw⟩,[]⟩)),(90,(.j ⟨[],[7,12,17],⟨uw,ahl⟩,[]⟩)),(109,(.j ⟨[18],[7,12,19],⟨uw,ahl⟩,[]⟩))]⟩
def Ub:cu:=cn Ja o6
def I8:FT:=⟨⟨[.d uj],[]⟩,⟨[.d vA],[]⟩,dP [(16,(.j ⟨[],[1,2,3,4],⟨EL,[.cells 110 [.d uj],.cells 105 vz,.cells 105 [.d (.sl dS),.d aM,.d pH,.d (.sl hX),.row 3,.nil,.nil],.rows 2 ai aM]⟩,[.cel 3 4 2 aM]⟩)),(31,(.j ⟨[],[1,2,3,5],⟨EL,[.cells 110 [.d uj],.cells 105 vz,.cells 105 [.d (.sl dS),.d aM,.d pH,.d (.sl hX),.row 3,.row 4,.nil],.rows 2 ai aM,.rows 2 ai aM]⟩,[.cel 3 5 2 aM]⟩)),(46,(.j ⟨[],[1,2,3,6],⟨EL,[.cells 110 [.d uj],.cells 105 vz,.cells 105 ahk,.rows 2 ai aM,.rows 2 ai aM,.rows 188 ai eO]⟩,[.cel 3 6 188 eO]⟩))]⟩
def T9:cu:=cn I8 tL
def Mf:FT:=⟨⟨[.d uj,.d vA],[]⟩,⟨[.d .bool],[]⟩,dP [(3,(.j ⟨[],[2,3,46],⟨qF,aan⟩,[]⟩)),(14,(.j ⟨[],[2,3,5],⟨uw,aan⟩,[]⟩)),(25,(.j ⟨[5],[2,3,97],⟨qF,aan⟩,[]⟩))]⟩
def Xs:cu:=cn Mf vN
def Md:FT:=⟨⟨[.d aM],[]⟩,⟨[.d aM],[]⟩,dP [(5,(.j ⟨[0],[3,10],⟨[.row 0,.d .bool],[.rows 3 aj aM]⟩,[]⟩))]⟩
def Xq:cu:=cn Md vL
def Fo:FT:=⟨⟨[.d qD,.d eO],[]⟩,⟨[.d aM],[]⟩,dP [(6,(.j ⟨[6],[2,3,7],⟨qF,[.cells 201 [.d qD],.cells 188 [.d eO]]⟩,[]⟩)),(28,(.j ⟨[],[2,40],⟨gV,[.cells 201 [.d qD]]⟩,[]⟩))]⟩
def QY:cu:=cn Fo rR
def CR:FT:=⟨⟨[.d uj,.d vA,.d aM],[]⟩,⟨[.d jM,.d .bool],[]⟩,dP [(3,(.j ⟨[2],[3,4,6,25],⟨EK,[.cells 110 [.d uj],.cells 105 [.d vA],.cells 52 ux]⟩,[]⟩)),(54,(.j ⟨[],[6,8,9,10],⟨aal,akt⟩,[.cel 10 5 3 aM]⟩)),(59,(.j ⟨[],[6,8,9,10,98],⟨zn,[.cells 52 ux,.cells 188 [.d eO],.cells 201 [.d qD],.cells 52 ux]⟩,[]⟩)),(68,(.j ⟨[],[6,10],⟨[.ptr 0 0,.ptr 1 0],[.cells 52 ux,.cells 52 [.d aM,.d aM,.d aM,.d aM,.d aM,.row 2,.row 3],.rows 3 ai aM,.rows 3 ai aM]⟩,[.cel 10 6 3 aM]⟩)),(69,(.j ⟨[],[6,8,9,10,123],⟨zn,akt⟩,[]⟩))]⟩
def N3:cu:=cn CR nz
def I6:FT:=⟨⟨[.d ne],[]⟩,⟨[.d iL],[]⟩,dP [(8,(.j ⟨[],[1,2,3,4],⟨EL,[.cells 31 [.d ne],.cells 97 vz,.cells 97 ahk,.rows 2 ai aM,.rows 2 aj aM,.rows 3 aj aM]⟩,[.cel 3 4 2 aM]⟩))]⟩
def T7:cu:=cn I6 mC
def Mc:FT:=⟨⟨[.d ne,.d iL],[]⟩,⟨[.d .bool],[]⟩,dP [(2,(.j ⟨[],[4],⟨[.d .bool],[]⟩,[]⟩))]⟩
def Xo:cu:=cn Mc vK
def VY:FT:=⟨⟨vx,[]⟩,⟨[.d .bool],[]⟩,dP [(2,(.j ⟨[],[4],⟨[.d .bool],[]⟩,[]⟩))]⟩
def acv:cu:=cn VY Cb
def CQ:FT:=⟨⟨Ka,[]⟩,⟨[.d .bool],[]⟩,dP [(6,(.j ⟨[0,1],[5],⟨[.d aM],[]⟩,[]⟩)),(15,(.j ⟨[0,1,5],[40],⟨[.d .bool],[]⟩,[]⟩))]⟩
def N2:cu:=cn CQ ny
def I4:FT:=⟨⟨[.d iL,.d jM],[]⟩,⟨[.d .bool],[]⟩,dP [(21,(.j ⟨[],[4],⟨[.d .bool],[]⟩,[]⟩)),(24,(.j ⟨[7],[2,3,40],⟨qF,[.cells 97 [.d iL],.cells 52 [.d jM]]⟩,[]⟩)),(47,(.j ⟨[],[4],⟨[.d .bool],[]⟩,[]⟩))]⟩
def T5:cu:=cn I4 tJ
def Mb:FT:=⟨⟨[.d ne,.d iL,.d jM],[]⟩,⟨[.d iL,.d .bool],[]⟩,dP [(3,(.j ⟨[],[3,4,5,6,46],⟨zn,Ke⟩,[]⟩)),(10,(.j ⟨[],[3,4,5,6],⟨aal,Ke⟩,[]⟩)),(11,(.j ⟨[],[3,4,5,6,55],⟨zn,Ke⟩,[]⟩)),(21,(.j ⟨[],[3,4,5,6,78],⟨zn,Ke⟩,[]⟩)),(28,(.j ⟨[],[3,4,5,6,8],⟨zn,Ke⟩,[]⟩)),(31,(.j ⟨[],[3,4,5,6,110],⟨zn,Ke⟩,[]⟩)),(39,(.j ⟨[],[3,4,5,6,125],⟨zn,Ke⟩,[]⟩)),(47,(.j ⟨[],[3,4,5,6,154],⟨zn,Ke⟩,[]⟩)),(58,(.j ⟨[],[3,4,5,6,9,10],⟨ahc,[.cells 31 [.d ne],.cells 97 [.d iL],.cells 52 [.d jM],.cells 97 vz,.cells 97 [.nil,.d aM,.nil,.nil,.row 5,.row 6,.row 7],.rows 2 ai aM,.rows 2 ai aM,.rows 3 ai aM]⟩,[]⟩)),(66,(.j ⟨[],[5,6,9],⟨[.ptr 0 0,.ptr 1 0,.ptr 2 0],aha⟩,[]⟩)),(72,(.j ⟨[],[5,6,9],⟨[.ptr 0 0,.ptr 1 0,.ptr 2 0],aha⟩,[]⟩))]⟩
def Xn:cu:=cn Mb qR
def I5:FT:=⟨⟨[.d (.sl jM),.d aM,.d aM,.d (.sl aM)],[]⟩,⟨[.d .bool],[]⟩,dP [(6,(.j ⟨[0,1,2,3],[9],⟨[.d aM],[]⟩,[]⟩)),(23,(.j ⟨[0,1,2,3,9],[10,11,12],⟨[.d aM,.d .bool,.d aM],[]⟩,[]⟩)),(31,(.j ⟨[0,1,2,3,9,12],[10,11],⟨[.d aM,.d .bool],[]⟩,[]⟩)),(38,(.j ⟨[0,1,2,3,9,10,12],[11],⟨[.d .bool],[]⟩,[]⟩))]⟩
def T6:cu:=cn I5 qQ
def I7:FT:=⟨⟨[.d oe],[]⟩,⟨vx,[]⟩,dP [(24,(.j ⟨[],[1,4,5],⟨uw,[.cells 34 [.d oe],.cells 97 [.d iL]]⟩,[]⟩)),(38,(.j ⟨[5],[1,4,7,63],⟨EK,[.cells 34 [.d oe],.cells 97 [.d iL],.cells 97 [.d iL]]⟩,[]⟩))]⟩
def T8:cu:=cn I7 tK
def FH:FT:=⟨⟨[.d vA],[]⟩,⟨[.agg [.agg GM,.row 3,.row 4,.csl 5 4 1]],[.rows 167 ai dS,.rows 4 ai .bool,.rows 169 ai hX,.rows 2 ai aM,.rows 2 ai aM,.cells 188 [.d aM,.row 6,.row 7,.d aM],.rows 2 ai aM,.rows 50 ai (.sl aM)]⟩,dP [(8,(.u 2))]⟩
def Ri:cu:=cn FH mO
def Fx:FT:=⟨⟨Lv,[]⟩,⟨Lw,[]⟩,dP [(27,(.s 5 0 0 1)),(37,(.j ⟨[],[3,4,5,6,7,9,14,15,16],⟨LA,ahw⟩,[]⟩)),(38,(.j ⟨[16,77],[3,4,5,6,7,9,14,15,78],⟨MD,ahw⟩,[]⟩)),(83,(.j ⟨[16],[3,4,5,6,7,9,14],⟨Ly,[.cells 110 [.d uj],.cells 105 afg,.cells 154 [.d iE],.cells 105 vz,.cells 52 ux,.cells 52 [.d jM],.cells 188 Kc,.rows 2 ai aM,.rows 2 ai aM,.cells 188 Kc,.rows 2 ai aM,.rows 50 ai (.sl aM)]⟩,[]⟩)),(84,(.j ⟨[16],[3,4,5,6,7,9,14,15,154],⟨MD,ahw⟩,[]⟩)),(95,(.j ⟨[],[4,5,6,7,9,14],⟨Lx,[.cells 105 [.d (.sl dS),.d aM,.d pH,.d (.sl hX),.row 6,.row 7,.csl 8 4 1],.cells 154 [.d iE],.cells 105 vz,.cells 52 ux,.cells 52 [.d jM],.cells 188 [.d eO],.rows 2 ai aM,.rows 2 ai aM,.cells 188 [.d eO]]⟩,[]⟩)),(96,(.j ⟨[],[3,4,5,6,7,9,14,183],⟨Lz,[.cells 110 [.d uj],.cells 105 afg,.cells 154 [.d iE],.cells 105 vz,.cells 52 ux,.cells 52 [.d jM],.cells 188 Kd,.rows 2 ai aM,.rows 2 ai aM,.cells 188 Kd]⟩,[]⟩)),(102,(.s 5 0 0 1)),(104,(.a [.pk 4 6 eO]))]⟩
def Q9:cu:=cn Fx fV
def FG:FT:=⟨⟨[.d vA],[]⟩,⟨[.agg [.agg GM,.row 3,.row 4,.csl 5 4 2]],[.rows 167 ai dS,.rows 4 ai .bool,.rows 169 ai hX,.rows 2 ai aM,.rows 2 ai aM,.cells 188 [.d aM,.row 6,.row 7,.d aM,.d eO],.rows 2 ai aM,.rows 50 ai (.sl aM)]⟩,dP [(8,(.u 3))]⟩
def Rh:cu:=cn FG mN
def Fw:FT:=⟨⟨Lv,[]⟩,⟨Lw,[]⟩,dP [(27,(.s 5 0 0 1)),(37,(.j ⟨[],[3,4,5,6,7,9,14,15,16],⟨LA,ahy⟩,[]⟩)),(38,(.j ⟨[16,77],[3,4,5,6,7,9,14,15,78],⟨MD,ahy⟩,[]⟩)),(83,(.j ⟨[16],[3,4,5,6,7,9,14],⟨Ly,[.cells 110 [.d uj],.cells 105 adw,.cells 154 [.d iE],.cells 105 vz,.cells 52 ux,.cells 52 [.d jM],.cells 188 Kc,.rows 2 ai aM,.rows 2 ai aM,.cells 188 [.d aM,.row 10,.row 11,.d aM,.d eO],.rows 2 ai aM,.rows 50 ai (.sl aM)]⟩,[]⟩)),(84,(.j ⟨[16],[3,4,5,6,7,9,14,15,154],⟨MD,ahy⟩,[]⟩)),(95,(.j ⟨[],[4,5,6,7,9,14],⟨Lx,al2⟩,[]⟩)),(96,(.j ⟨[],[3,4,5,6,7,9,14,183],⟨Lz,[.cells 110 [.d uj],.cells 105 adw,.cells 154 [.d iE],.cells 105 vz,.cells 52 ux,.cells 52 [.d jM],.cells 188 Kd,.rows 2 ai aM,.rows 2 ai aM,.cells 188 [.d aM,.d (.sl aM),.d ku,.d aM,.d eO]]⟩,[]⟩)),(102,(.s 5 0 0 1)),(104,(.a [.pk 4 6 eO]))]⟩
def Q7:cu:=cn Fw gr
def FF:FT:=⟨⟨[.d vA],[]⟩,⟨[.agg [.agg GM,.row 3,.row 4,.csl 5 4 2]],[.rows 167 ai dS,.rows 4 ai .bool,.rows 169 ai hX,.rows 2 ai aM,.rows 2 ai aM,.cells 188 [.d eO,.d aM,.row 6,.row 7,.d aM],.rows 2 ai aM,.rows 50 ai (.sl aM)]⟩,dP [(8,(.u 3))]⟩
def Rg:cu:=cn FF mM
def Fv:FT:=⟨⟨Lv,[]⟩,⟨Lw,[]⟩,dP [(27,(.s 5 0 1 1)),(37,(.j ⟨[],[3,4,5,6,7,9,14,15,16],⟨LA,ahx⟩,[]⟩)),(38,(.j ⟨[16,77],[3,4,5,6,7,9,14,15,78],⟨MD,ahx⟩,[]⟩)),(83,(.j ⟨[16],[3,4,5,6,7,9,14],⟨Ly,[.cells 110 [.d uj],.cells 105 adw,.cells 154 [.d iE],.cells 105 vz,.cells 52 ux,.cells 52 [.d jM],.cells 188 Kc,.rows 2 ai aM,.rows 2 ai aM,.cells 188 [.d eO,.d aM,.row 10,.row 11,.d aM],.rows 2 ai aM,.rows 50 ai (.sl aM)]⟩,[]⟩)),(84,(.j ⟨[16],[3,4,5,6,7,9,14,15,154],⟨MD,ahx⟩,[]⟩)),(95,(.j ⟨[],[4,5,6,7,9,14],⟨Lx,al2⟩,[]⟩)),(96,(.j ⟨[],[3,4,5,6,7,9,14,183],⟨Lz,[.cells 110 [.d uj],.cells 105 adw,.cells 154 [.d iE],.cells 105 vz,.cells 52 ux,.cells 52 [.d jM],.cells 188 Kd,.rows 2 ai aM,.rows 2 ai aM,.cells 188 [.d eO,.d aM,.d (.sl aM),.d ku,.d aM]]⟩,[]⟩)),(102,(.s 5 0 1 1)),(104,(.a [.pk 4 6 eO]))]⟩
def Q6:cu:=cn Fv fU
def FE:FT:=⟨⟨[.d vA],[]⟩,⟨ah9,[.rows 167 ai dS,.rows 4 ai .bool,.rows 169 ai hX,.rows 2 ai aM,.rows 2 ai aM,.cells 188 [.d aM,.row 6,.row 7,.d aM,.d eO,.d eO],.rows 2 ai aM,.rows 50 ai (.sl aM)]⟩,dP [(8,(.u 4))]⟩
def Rf:cu:=cn FE mL
def Fu:FT:=⟨⟨Lv,[]⟩,⟨Lw,[]⟩,dP [(27,(.s 5 0 0 1)),(37,(.j ⟨[],[3,4,5,6,7,9,14,15,16],⟨LA,ai1⟩,[]⟩)),(38,(.j ⟨[16,77],[3,4,5,6,7,9,14,15,78],⟨MD,ai1⟩,[]⟩)),(83,(.j ⟨[16],[3,4,5,6,7,9,14],⟨Ly,[.cells 110 [.d uj],.cells 105 X9,.cells 154 [.d iE],.cells 105 vz,.cells 52 ux,.cells 52 [.d jM],.cells 188 Kc,.rows 2 ai aM,.rows 2 ai aM,.cells 188 [.d aM,.row 10,.row 11,.d aM,.d eO,.d eO],.rows 2 ai aM,.rows 50 ai (.sl aM)]⟩,[]⟩)),(84,(.j ⟨[16],[3,4,5,6,7,9,14,15,154],⟨MD,ai1⟩,[]⟩)),(95,(.j ⟨[],[4,5,6,7,9,14],⟨Lx,ahr⟩,[]⟩)),(96,(.j ⟨[],[3,4,5,6,7,9,14,183],⟨Lz,[.cells 110 [.d uj],.cells 105 X9,.cells 154 [.d iE],.cells 105 vz,.cells 52 ux,.cells 52 [.d jM],.cells 188 Kd,.rows 2 ai aM,.rows 2 ai aM,.cells 188 [.d aM,.d (.sl aM),.d ku,.d aM,.d eO,.d eO]]⟩,[]⟩)),(102,(.s 5 0 0 1)),(104,(.a [.pk 4 6 eO]))]⟩
def Q5:cu:=cn Fu ji
def FD:FT:=⟨⟨[.d vA],[]⟩,⟨ah9,[.rows 167 ai dS,.rows 4 ai .bool,.rows 169 ai hX,.rows 2 ai aM,.rows 2 ai aM,.cells 188 [.d eO,.d aM,.row 6,.row 7,.d aM,.d eO],.rows 2 ai aM,.rows 50 ai (.sl aM)]⟩,dP [(8,(.u 4))]⟩
def Re:cu:=cn FD mK
def Ft:FT:=⟨⟨Lv,[]⟩,⟨Lw,[]⟩,dP [(27,(.s 5 0 1 1)),(37,(.j ⟨[],[3,4,5,6,7,9,14,15,16],⟨LA,ai0⟩,[]⟩)),(38,(.j ⟨[16,77],[3,4,5,6,7,9,14,15,78],⟨MD,ai0⟩,[]⟩)),(83,(.j ⟨[16],[3,4,5,6,7,9,14],⟨Ly,[.cells 110 [.d uj],.cells 105 X9,.cells 154 [.d iE],.cells 105 vz,.cells 52 ux,.cells 52 [.d jM],.cells 188 Kc,.rows 2 ai aM,.rows 2 ai aM,.cells 188 [.d eO,.d aM,.row 10,.row 11,.d aM,.d eO],.rows 2 ai aM,.rows 50 ai (.sl aM)]⟩,[]⟩)),(84,(.j ⟨[16],[3,4,5,6,7,9,14,15,154],⟨MD,ai0⟩,[]⟩)),(95,(.j ⟨[],[4,5,6,7,9,14],⟨Lx,ahr⟩,[]⟩)),(96,(.j ⟨[],[3,4,5,6,7,9,14,183],⟨Lz,[.cells 110 [.d uj],.cells 105 X9,.cells 154 [.d iE],.cells 105 vz,.cells 52 ux,.cells 52 [.d jM],.cells 188 Kd,.rows 2 ai aM,.rows 2 ai aM,.cells 188 [.d eO,.d aM,.d (.sl aM),.d ku,.d aM,.d eO]]⟩,[]⟩)),(102,(.s 5 0 1 1)),(104,(.a [.pk 4 6 eO]))]⟩
def Q4:cu:=cn Ft iz
def FC:FT:=⟨⟨[.d vA],[]⟩,⟨ah9,[.rows 167 ai dS,.rows 4 ai .bool,.rows 169 ai hX,.rows 2 ai aM,.rows 2 ai aM,.cells 188 [.d eO,.d eO,.d aM,.row 6,.row 7,.d aM],.rows 2 ai aM,.rows 50 ai (.sl aM)]⟩,dP [(8,(.u 4))]⟩
def Rd:cu:=cn FC mJ
def Fs:FT:=⟨⟨Lv,[]⟩,⟨Lw,[]⟩,dP [(27,(.s 5 0 2 1)),(37,(.j ⟨[],[3,4,5,6,7,9,14,15,16],⟨LA,ahz⟩,[]⟩)),(38,(.j ⟨[16,77],[3,4,5,6,7,9,14,15,78],⟨MD,ahz⟩,[]⟩)),(83,(.j ⟨[16],[3,4,5,6,7,9,14],⟨Ly,[.cells 110 [.d uj],.cells 105 X9,.cells 154 [.d iE],.cells 105 vz,.cells 52 ux,.cells 52 [.d jM],.cells 188 Kc,.rows 2 ai aM,.rows 2 ai aM,.cells 188 [.d eO,.d eO,.d aM,.row 10,.row 11,.d aM],.rows 2 ai aM,.rows 50 ai (.sl aM)]⟩,[]⟩)),(84,(.j ⟨[16],[3,4,5,6,7,9,14,15,154],⟨MD,ahz⟩,[]⟩)),(95,(.j ⟨[],[4,5,6,7,9,14],⟨Lx,ahr⟩,[]⟩)),(96,(.j ⟨[],[3,4,5,6,7,9,14,183],⟨Lz,[.cells 110 [.d uj],.cells 105 X9,.cells 154 [.d iE],.cells 105 vz,.cells 52 ux,.cells 52 [.d jM],.cells 188 Kd,.rows 2 ai aM,.rows 2 ai aM,.cells 188 [.d eO,.d eO,.d aM,.d (.sl aM),.d ku,.d aM]]⟩,[]⟩)),(102,(.s 5 0 2 1)),(104,(.a [.pk 4 6 eO]))]⟩
def Q3:cu:=cn Fs gX
def FB:FT:=⟨⟨[.d vA],[]⟩,⟨adv,[.rows 167 ai dS,.rows 4 ai .bool,.rows 169 ai hX,.rows 2 ai aM,.rows 2 ai aM,.cells 188 [.d aM,.row 6,.row 7,.d aM,.d eO,.d eO,.d eO],.rows 2 ai aM,.rows 50 ai (.sl aM)]⟩,dP [(8,(.u 5))]⟩
def Rc:cu:=cn FB mI
def dy:FT:=⟨⟨Lv,[]⟩,⟨Lw,[]⟩,dP [(27,(.s 5 0 0 1)),(37,(.j ⟨[],[3,4,5,6,7,9,14,15,16],⟨LA,ahv⟩,[]⟩)),(38,(.j ⟨[16,77],[3,4,5,6,7,9,14,15,78],⟨MD,ahv⟩,[]⟩)),(83,(.j ⟨[16],[3,4,5,6,7,9,14],⟨Ly,[.cells 110 [.d uj],.cells 105 RZ,.cells 154 [.d iE],.cells 105 vz,.cells 52 ux,.cells 52 [.d jM],.cells 188 Kc,.rows 2 ai aM,.rows 2 ai aM,.cells 188 [.d aM,.row 10,.row 11,.d aM,.d eO,.d eO,.d eO],.rows 2 ai aM,.rows 50 ai (.sl aM)]⟩,[]⟩)),(84,(.j ⟨[16],[3,4,5,6,7,9,14,15,154],⟨MD,ahv⟩,[]⟩)),(95,(.j ⟨[],[4,5,6,7,9,14],⟨Lx,ady⟩,[]⟩)),(96,(.j ⟨[],[3,4,5,6,7,9,14,183],⟨Lz,[.cells 110 [.d uj],.cells 105 RZ,.cells 154 [.d iE],.cells 105 vz,.cells 52 ux,.cells 52 [.d jM],.cells 188 Kd,.rows 2 ai aM,.rows 2 ai aM,.cells 188 [.d aM,.d (.sl aM),.d ku,.d aM,.d eO,.d eO,.d eO]]⟩,[]⟩)),(102,(.s 5 0 0 1)),(104,(.a [.pk 4 6 eO]))]⟩
def Q2:cu:=cn dy mE
def FA:FT:=⟨⟨[.d vA],[]⟩,⟨adv,[.rows 167 ai dS,.rows 4 ai .bool,.rows 169 ai hX,.rows 2 ai aM,.rows 2 ai aM,.cells 188 [.d eO,.d aM,.row 6,.row 7,.d aM,.d eO,.d eO],.rows 2 ai aM,.rows 50 ai (.sl aM)]⟩,dP [(8,(.u 5))]⟩
def Rb:cu:=cn FA mH
def Fr:FT:=⟨⟨Lv,[]⟩,⟨Lw,[]⟩,dP [(27,(.s 5 0 1 1)),(37,(.j ⟨[],[3,4,5,6,7,9,14,15,16],⟨LA,ahu⟩,[]⟩)),(38,(.j ⟨[16,77],[3,4,5,6,7,9,14,15,78],⟨MD,ahu⟩,[]⟩)),(83,(.j ⟨[16],[3,4,5,6,7,9,14],⟨Ly,[.cells 110 [.d uj],.cells 105 RZ,.cells 154 [.d iE],.cells 105 vz,.cells 52 ux,.cells 52 [.d jM],.cells 188 Kc,.rows 2 ai aM,.rows 2 ai aM,.cells 188 [.d eO,.d aM,.row 10,.row 11,.d aM,.d eO,.d eO],.rows 2 ai aM,.rows 50 ai (.sl aM)]⟩,[]⟩)),(84,(.j ⟨[16],[3,4,5,6,7,9,14,15,154],⟨MD,ahu⟩,[]⟩)),(95,(.j ⟨[],[4,5,6,7,9,14],⟨Lx,ady⟩,[]⟩)),(96,(.j ⟨[],[3,4,5,6,7,9,14,183],⟨Lz,[.cells 110 [.d uj],.cells 105 RZ,.cells 154 [.d iE],.cells 105 vz,.cells 52 ux,.cells 52 [.d jM],.cells 188 Kd,.rows 2 ai aM,.rows 2 ai aM,.cells 188 [.d eO,.d aM,.d (.sl aM),.d ku,.d aM,.d eO,.d eO]]⟩,[]⟩)),(102,(.s 5 0 1 1)),(104,(.a [.pk 4 6 eO]))]⟩
def Q1:cu:=cn Fr mD
def Fz:FT:=⟨⟨[.d vA],[]⟩,⟨adv,[.rows 167 ai dS,.rows 4 ai .bool,.rows 169 ai hX,.rows 2 ai aM,.rows 2 ai aM,.cells 188 [.d eO,.d eO,.d aM,.row 6,.row 7,.d aM,.d eO],.rows 2 ai aM,.rows 50 ai (.sl aM)]⟩,dP [(8,(.u 5))]⟩
def Ra:cu:=cn Fz mG
def Fq:FT:=⟨⟨Lv,[]⟩,⟨Lw,[]⟩,dP [(27,(.s 5 0 2 1)),(37,(.j ⟨[],[3,4,5,6,7,9,14,15,16],⟨LA,aht⟩,[]⟩)),(38,(.j ⟨[16,77],[3,4,5,6,7,9,14,15,78],⟨MD,aht⟩,[]⟩)),(83,(.j ⟨[16],[3,4,5,6,7,9,14],⟨Ly,[.cells 110 [.d uj],.cells 105 RZ,.cells 154 [.d iE],.cells 105 vz,.cells 52 ux,.cells 52 [.d jM],.cells 188 Kc,.rows 2 ai aM,.rows 2 ai aM,.cells 188 [.d eO,.d eO,.d aM,.row 10,.row 11,.d aM,.d eO],.rows 2 ai aM,.rows 50 ai (.sl aM)]⟩,[]⟩)),(84,(.j ⟨[16],[3,4,5,6,7,9,14,15,154],⟨MD,aht⟩,[]⟩)),(95,(.j ⟨[],[4,5,6,7,9,14],⟨Lx,ady⟩,[]⟩)),(96,(.j ⟨[],[3,4,5,6,7,9,14,183],⟨Lz,[.cells 110 [.d uj],.cells 105 RZ,.cells 154 [.d iE],.cells 105 vz,.cells 52 ux,.cells 52 [.d jM],.cells 188 Kd,.rows 2 ai aM,.rows 2 ai aM,.cells 188 [.d eO,.d eO,.d aM,.d (.sl aM),.d ku,.d aM,.d eO]]⟩,[]⟩)),(102,(.s 5 0 2 1)),(104,(.a [.pk 4 6 eO]))]⟩
def Q0:cu:=cn Fq kY
def Fy:FT:=⟨⟨[.d vA],[]⟩,⟨adv,[.rows 167 ai dS,.rows 4 ai .bool,.rows 169 ai hX,.rows 2 ai aM,.rows 2 ai aM,.cells 188 [.d eO,.d eO,.d eO,.d aM,.row 6,.row 7,.d aM],.rows 2 ai aM,.rows 50 ai (.sl aM)]⟩,dP [(8,(.u 5))]⟩
def Q_:cu:=cn Fy mF
def Fp:FT:=⟨⟨Lv,[]⟩,⟨Lw,[]⟩,dP [(27,(.s 5 0 3 1)),(37,(.j ⟨[],[3,4,5,6,7,9,14,15,16],⟨LA,ahs⟩,[]⟩)),(38,(.j ⟨[16,77],[3,4,5,6,7,9,14,15,78],⟨MD,ahs⟩,[]⟩)),(83,(.j ⟨[16],[3,4,5,6,7,9,14],⟨Ly,[.cells 110 [.d uj],.cells 105 RZ,.cells 154 [.d iE],.cells 105 vz,.cells 52 ux,.cells 52 [.d jM],.cells 188 Kc,.rows 2 ai aM,.rows 2 ai aM,.cells 188 [.d eO,.d eO,.d eO,.d aM,.row 10,.row 11,.d aM],.rows 2 ai aM,.rows 50 ai (.sl aM)]⟩,[]⟩)),(84,(.j ⟨[16],[3,4,5,6,7,9,14,15,154],⟨MD,ahs⟩,[]⟩)),(95,(.j ⟨[],[4,5,6,7,9,14],⟨Lx,ady⟩,[]⟩)),(96,(.j ⟨[],[3,4,5,6,7,9,14,183],⟨Lz,[.cells 110 [.d uj],.cells 105 RZ,.cells 154 [.d iE],.cells 105 vz,.cells 52 ux,.cells 52 [.d jM],.cells 188 Kd,.rows 2 ai aM,.rows 2 ai aM,.cells 188 [.d eO,.d eO,.d eO,.d aM,.d (.sl aM),.d ku,.d aM]]⟩,[]⟩)),(102,(.s 5 0 3 1)),(104,(.a [.pk 4 6 eO]))]⟩
def QZ:cu:=cn Fp jZ
def Xt:cu:=cn dy zG
def Me:FT:=⟨⟨[.d uj,.d vA,.nil,.d (.sl iE)],[]⟩,⟨[.d (.sl jM),.d vA],[]⟩,dP [(1,(.a [.nil 2 52 jM])),(6,(.j ⟨[3],[2,4,5,9,10],⟨[.row 0,.ptr 1 0,.ptr 2 0,.ptr 3 0,.d aM],ahi⟩,[]⟩)),(8,(.j ⟨[3,10],[2,4,5,9,22],⟨[.row 0,.ptr 1 0,.ptr 2 0,.ptr 3 0,.d .bool],ahi⟩,[]⟩)),(14,(.j ⟨[3,10],[2,4,5,9],⟨[.row 0,.ptr 1 0,.ptr 2 0,.ptr 3 0],ahi⟩,[]⟩))]⟩
def Xr:cu:=cn Me vM
def QI:FT:=⟨⟨[.d uj,.d (.sl iE)],[]⟩,⟨[.d oe,.d vA],[]⟩,.leaf⟩
def ZN:cu:=cn QI yz
def xQ:FT:=⟨⟨vy,RX⟩,⟨[.d aM],RX⟩,dP [(3,(.j ⟨[1],[0,18],⟨gV,X6⟩,[]⟩))]⟩
def Gy:cu:=cn xQ bw
def Mm:FT:=⟨⟨[.d aM],[]⟩,⟨[.d .ex],[]⟩,.leaf⟩
def XC:cu:=cn Mm qZ
def Jo:FT:=⟨⟨[.d .str],[]⟩,⟨[.d .ex],[]⟩,.leaf⟩
def Uw:cu:=cn Jo pa
def C4:FT:=⟨⟨[.d aM,.d .ex,.d .ex],[]⟩,⟨[.d .ex],[]⟩,.leaf⟩
def Og:cu:=cn C4 nD
def C5:FT:=⟨⟨[.d .str,.d .ex],[]⟩,⟨[.d .sm],[]⟩,.leaf⟩
def Oh:cu:=cn C5 jg
def FW:FT:=⟨⟨[],[]⟩,⟨[.d (.sl F6)],[]⟩,.leaf⟩
def Rw:cu:=cn FW rT
def AB:FT:=⟨⟨[.d Dn],[]⟩,⟨[.d (.sl iE)],[]⟩,dP [(8,(.j ⟨[0],[3,4],⟨[.row 0,.d aM],[.rows 154 ai iE]⟩,[.nil 3 154 iE]⟩))]⟩
def Lq:cu:=cn AB oA
def nP:FT:=⟨⟨vy,U0⟩,⟨[.d .ex],U0⟩,dP [(8,(.j ⟨[1,6],[0,4,5,14],⟨[.ptr 0 0,.ptr 3 0,.row 4,.d .bool],[.cells 205 aff,.cells 89 [.d yd],.rowsP 9 .str,.cells 209 [.d aM,.d aM,.d .str,.nil],.rows 9 aj .str]⟩,[]⟩))]⟩
def Ey:cu:=cn nP eY
def DS (n:Nat):cu:=cn nP (ik n)
def uU:FT:=⟨⟨[.ptr 0 0,.d .str],U0⟩,⟨[.d .bool],U0⟩,.leaf⟩
def De:cu:=cn uU eD
def mo:FT:=⟨⟨R1,U0⟩,⟨[.row 4],[.cells 205 ahg,.cells 89 OF,.gone,.rowsP 9 .str,.rows 211 ai .sm]⟩,dP [(1,(.a [.ren 0 7])),(8,(.j ⟨[1,2],[0,7,8],⟨[.ptr 0 0,.row 3,.d aM],aku⟩,[.nil 7 211 .sm]⟩)),(10,(.j ⟨[1,2,8],[0,7,22],⟨[.ptr 0 0,.row 3,.d .bool],aku⟩,[]⟩)),(21,(.a [.nil 6 211 .sm]))]⟩
def Dd:cu:=cn mo qa
def Ch (n:Nat):cu:=cn mo (dB n)
def rn:FT:=⟨⟨vy,U0⟩,⟨[.d .sm],[.cells 205 ahg,.cells 89 OF,.gone,.rowsP 9 .str]⟩,dP [(1,(.a [.ren 0 7])),(6,(.j ⟨[1,5],[0,4,6],⟨Kb,La2⟩,[]⟩)),(28,(.j ⟨[1,5,6],[0,4,74],⟨Kb,La2⟩,[]⟩)),(33,(.j ⟨[],[4,7],⟨[.ptr 3 0,.ptr 4 0],[.cells 205 [.ptr 1 0,.d aM,.d aM,.d .bool,.d .bool,.d .bool,.d .bool,.row 5],.cells 89 [.d yd],.gone,.cells 211 afi,.cells 211 [.d aM,.d aM,.d .str,.d .str,.nil,.d aM,.d aM,.d .str,.d (.sl .ex),.row 6,.row 7],.rowsP 9 .str,.rows 211 ai .sm,.rows 211 ai .sm]⟩,[.cel 7 10 211 .sm]⟩)),(42,(.j ⟨[1,5,6],[0,4,100],⟨Kb,La2⟩,[]⟩)),(56,(.j ⟨[1,5,6],[0,4,133],⟨Kb,La2⟩,[]⟩)),(64,(.j ⟨[1,5,6],[0,4,165],⟨Kb,La2⟩,[]⟩)),(70,(.j ⟨[1,5,6],[0,4,188],⟨Kb,La2⟩,[]⟩)),(82,(.j ⟨[1,5,6],[0,4,210],⟨Kb,La2⟩,[]⟩)),(94,(.j ⟨[5,6],[0,4,235],⟨Kb,La2⟩,[]⟩)),(100,(.j ⟨[5],[0,4,258],⟨Kb,La2⟩,[]⟩)),(106,(.j ⟨[5],[0,4,278],⟨Kb,La2⟩,[]⟩)),(114,(.j ⟨[],[0,4,308],⟨Kb,La2⟩,[]⟩))]⟩
def DR (n:Nat):cu:=cn rn (eo n)
def qr:FT:=⟨⟨[.ptr 0 0,.d .str,.d aM],U0⟩,⟨[.d (.sl .sm)],[.cells 205 ahg,.cells 89 OF,.gone,.rowsP 9 .str]⟩,.leaf⟩
def Ci (n:Nat):cu:=cn qr (dQ n)
def AA:FT:=⟨⟨[.d Dn],[]⟩,⟨[.d MF],[]⟩,dP [(5,(.a [.cel 3 7 9 .str])),(14,(.j ⟨[5],[2,3,4,6,7],⟨[.ptr 0 0,.ptr 1 0,.ptr 2 0,.row 3,.d aM],[.cells 151 [.nil,.nil],.cells 205 [.ptr 4 0,.d aM,.d aM,.d .bool,.d .bool,.d .bool,.d .bool,.row 5],.cells 151 [.d (.sl F6),.row 6],.rows 9 aj .str,.cells 89 [.d yd],.rowsP 9 .str,.rows 195 ai sB]⟩,[.cel 4 1 195 sB]⟩)),(27,(.j ⟨[5,7],[2,3,4,6,8],⟨[.ptr 0 0,.ptr 1 0,.ptr 2 0,.row 3,.ptr 4 0],La7⟩,[.cel 8 3 211 .sm]⟩)),(34,(.j ⟨[5,7],[2,3,4,6,8,9],⟨[.ptr 0 0,.ptr 1 0,.ptr 2 0,.row 3,.ptr 4 0,.d aM],La7⟩,[.cel 8 3 211 .sm]⟩)),(48,(.j ⟨[5,7],[2,3,4,6,8],⟨[.ptr 0 0,.ptr 1 0,.ptr 2 0,.row 3,.ptr 4 0],La7⟩,[]⟩)),(49,(.j ⟨[5,7],[2,3,4,6,8,79],⟨[.ptr 0 0,.ptr 1 0,.ptr 2 0,.row 3,.ptr 4 0,.d .bool],La7⟩,[]⟩))]⟩
def Lp:cu:=cn AA oz
def Jp:FT:=⟨⟨[.d Dn],[]⟩,⟨[.d uj],[]⟩,.leaf⟩
def Ux:cu:=cn Jp wW
def FX:FT:=⟨⟨[.d Dn,.d Dn],[]⟩,⟨[.d oe],[]⟩,.leaf⟩
def Rx:cu:=cn FX rU
def CO:FT:=⟨⟨[],[]⟩,⟨[.d ne],[]⟩,dP [(8,(.j ⟨[21],[0,1,22],⟨uw,adx⟩,[.cel 1 5 127 oD]⟩)),(22,(.j ⟨[2,21,22],[0,1,3],⟨uw,adx⟩,[]⟩))]⟩
def NZ:cu:=cn CO nu
def yS:FT:=⟨⟨[.d iL],[]⟩,⟨qw,[]⟩,dP [(8,(.j ⟨[8,9],[3,10],⟨[.row 0,.d aM],[.rows 3 ai aM]⟩,[.nil 3 3 aM]⟩)),(16,(.j ⟨[8,9,10],[3],⟨[.row 0],[.rows 3 ai aM]⟩,[]⟩))]⟩
def Jy:cu:=cn yS kN
def CK:FT:=⟨⟨[],[]⟩,⟨qw,[]⟩,.leaf⟩
def NX:cu:=cn CK sR
def Ap:FT:=⟨⟨R1,RX⟩,⟨[.d aM],RX⟩,dP [(6,(.j ⟨[2,7],[0,8],⟨gV,X6⟩,[]⟩)),(16,(.j ⟨[2,7],[0,16],⟨gV,X6⟩,[]⟩)),(26,(.j ⟨[2,7],[0,21],⟨gV,X6⟩,[]⟩)),(44,(.j ⟨[2,7],[0,26],⟨gV,X6⟩,[]⟩)),(70,(.j ⟨[2],[0,33],⟨gV,X6⟩,[]⟩))]⟩
def La:cu:=cn Ap ov
def CJ:FT:=⟨⟨[.ptr 0 0,.d iL,.d aM,.d aM],RX⟩,⟨[.d aM],RX⟩,dP [(18,(.j ⟨[10],[0,5,24],⟨qF,[.cells 89 [.d yd],.cells 97 [.d iL]]⟩,[]⟩))]⟩
def NU:cu:=cn CJ pR
def Fm:FT:=⟨⟨[.ptr 0 0,.row 1],[.cells 89 OF,.rows 3 ai aM]⟩,⟨qw,[.cells 89 OF,.rows 3 ai aM]⟩,dP [(8,(.j ⟨[9],[0,1,5,8,10],⟨[.ptr 0 0,.row 1,.row 2,.row 1,.d aM],ahb⟩,[.nil 5 3 aM]⟩)),(16,(.j ⟨[9,10],[0,1,5,8],⟨[.ptr 0 0,.row 1,.row 2,.row 1],ahb⟩,[]⟩)),(19,(.j ⟨[7,9,10],[0,1,5,8,24],⟨[.ptr 0 0,.row 1,.row 2,.row 1,.d .bool],ahb⟩,[]⟩))]⟩
def QW:cu:=cn Fm gq
def CM:FT:=⟨⟨[.ptr 0 0,.d iL,.d ne,.csl 1 1 4],aks⟩,⟨[.d jM],aks⟩,dP [(8,(.j ⟨[9],[0,3,5,6,8,11],⟨[.ptr 0 0,.csl 1 1 4,.ptr 6 0,.ptr 7 0,.ptr 8 0,.ptr 9 0],aky⟩,[]⟩)),(9,(.j ⟨[9],[0,3,5,6,8,11,36],⟨[.ptr 0 0,.csl 1 1 4,.ptr 6 0,.ptr 7 0,.ptr 8 0,.ptr 9 0,.d .bool],aky⟩,[]⟩)),(18,(.j ⟨[9],[0,3,8,11],⟨[.ptr 0 0,.csl 1 1 4,.ptr 6 0,.ptr 7 0],akz⟩,[]⟩)),(19,(.j ⟨[9],[0,3,8,11,74],⟨[.ptr 0 0,.csl 1 1 4,.ptr 6 0,.ptr 7 0,.d .bool],[.cells 89 [.d yd],.cells 50 aaf,.rows 3 ai aM,.rows 3 ai aM,.rows 3 ai aM,.rows 3 ai aM,.cells 52 ux,.cells 52 ux]⟩,[]⟩)),(22,(.s 9 0 0 4)),(24,(.j ⟨[],[8,11],⟨[.ptr 6 0,.ptr 7 0],[.cells 89 [.d yd],.cells 50 aaf,.rows 3 ai aM,.rows 3 ai aM,.rows 3 ai aM,.rows 3 ai aM,.cells 52 ux,.cells 52 [.d aM,.d aM,.d aM,.d aM,.d aM,.d (.sl aM),.d (.sl aM)]]⟩,[]⟩)),(25,(.j ⟨[9],[0,3,8,11,89],⟨[.ptr 0 0,.csl 1 1 4,.ptr 6 0,.ptr 7 0,.d .bool],akz⟩,[]⟩)),(28,(.s 9 0 0 4))]⟩
def NY:cu:=cn CM pU
def Fn:FT:=⟨⟨[.ptr 0 0,.d iL,.d ne,.d aM,.d .bool],RX⟩,⟨[.d (.sl jM)],RX⟩,dP [(8,(.a [.cel 12 0 3 aM,.cel 12 1 3 aM,.cel 12 2 3 aM,.cel 12 3 3 aM])),(9,(.j ⟨[3,11],[0,6,7,12],⟨[.ptr 0 0,.ptr 1 0,.ptr 2 0,.csl 3 1 4],aho⟩,[]⟩)),(10,(.u 5)),(18,(.j ⟨[3,4,11,22,23],[0,6,7,12],⟨[.ptr 0 0,.ptr 1 0,.ptr 2 0,.csl 3 1 4],aho⟩,[]⟩)),(21,(.j ⟨[3,4,11,13,22,23],[0,6,7,12,39],⟨[.ptr 0 0,.ptr 1 0,.ptr 2 0,.csl 3 1 4,.d .bool],aho⟩,[]⟩)),(29,(.j ⟨[3],[0,6,7,11,12],⟨[.ptr 0 0,.ptr 1 0,.ptr 2 0,.row 3,.csl 4 1 4],ahp⟩,[.nil 11 52 jM]⟩)),(31,(.j ⟨[3],[0,6,7,11,12,65],⟨[.ptr 0 0,.ptr 1 0,.ptr 2 0,.row 3,.csl 4 1 4,.d .bool],ahp⟩,[]⟩)),(36,(.j ⟨[3],[0,6,7,11,12],⟨[.ptr 0 0,.ptr 1 0,.ptr 2 0,.row 3,.csl 4 1 4],ahp⟩,[]⟩)),(47,(.j ⟨[3],[0,6,7,11,12,14,15],⟨[.ptr 0 0,.ptr 1 0,.ptr 2 0,.row 3,.csl 4 1 4,.ptr 5 0,.ptr 6 0],al0⟩,[]⟩)),(48,(.j ⟨[3],[0,6,7,11,12,14,15,87],⟨[.ptr 0 0,.ptr 1 0,.ptr 2 0,.row 3,.csl 4 1 4,.ptr 5 0,.ptr 6 0,.d .bool],al0⟩,[]⟩)),(51,(.s 14 0 0 4))]⟩
def QX:cu:=cn Fn rQ
def CP:FT:=⟨⟨OF,[]⟩,⟨[.d oe],[]⟩,dP [(2,(.j ⟨[1],[0,4],⟨[.d Dn,.ptr 0 0],[.cells 34 aag]⟩,[]⟩)),(22,(.j ⟨[1,9],[4,5,6,7,8,10],⟨[.ptr 0 0,.ptr 1 0,.ptr 2 0,.ptr 3 0,.row 4,.d aM],[.cells 34 aag,.cells 89 [.d yd],.cells 34 [.d (.sl kw),.d (.sl ry),.d (.sl lY),.d (.sl .str),.d (.sl .str),.d (.sl oD),.nil],.cells 97 [.d iL],.rows 52 aj jM]⟩,[]⟩)),(37,(.j ⟨[1,48],[4,5,6,7,47,49],⟨[.ptr 0 0,.ptr 1 0,.ptr 2 0,.ptr 3 0,.row 4,.d aM],al1⟩,[.cel 6 6 52 jM]⟩)),(45,(.j ⟨[1,48,49],[4,5,6,7,47],⟨[.ptr 0 0,.ptr 1 0,.ptr 2 0,.ptr 3 0,.row 4],al1⟩,[]⟩))]⟩
def N0:cu:=cn CP pV
def wj:FT:=⟨⟨[.d (.st (.pr Dn (.pr Dn Dn))),.d aM],[]⟩,⟨[.d oe],[]⟩,.leaf⟩
def Ep:cu:=cn wj kO
theorem KW:aI Pg 167 Lj:=mk Av ki an b9
theorem Ir:aI Pg 142 JF:=mk yU jz (ac KW an) b9
theorem Fd:aI Pg 141 Rr:=mk FR k9 an b9
theorem TE:aI Pg 168 Us:=mk Jn qX an b9
theorem TD:aI Pg 143 Ur:=mk Jm o_ (ac Fd (ac TE an)) b9
theorem rW:aI Pg 113 Rs:=mk FU e_ (ac Fd (ac Ir (ac TD an))) b9
theorem Iq:aI Pg 220 Uj:=mk Jh fQ an b9
theorem Tu:aI Pg 204 Uk:=mk Ji tP (ac Iq an) b9
theorem Qc:aI Pg 206 Rn:=mk FM rS (ac Iq an) b9
theorem Tv:aI Pg 203 Ul:=mk Jj qV an b9
theorem KV:aI Pg 227 Li:=mk Au ma an b9
theorem vY:∀ n:Nat,aI Pg 221 (Gg n)
 |0=>Px oP
 |n+1=>mk oP (lQ (g_ n)) (ac rW (ac (vY n) (ac KV an))) b9
theorem xC:aI Pg 221 Gu:=(vY fuel)
theorem TB:aI Pg 222 Uq:=mk Jl o9 an b9
theorem ri:∀ n:Nat,aI Pg 207 (Gf n)/\aI Pg 177 (DQ n)
 |0=>⟨Px sA,Px nO⟩
 |n+1=>⟨mk sA (jX (ef n) (dz n)) (ac rW (ac (ri n).2 (ac xC (ac TB an)))) b9,mk nO (jr (ef n) (dz n)) (ac (ri n).1 an) b9⟩
theorem D7:aI Pg 177 Eu:=(ri fuel).2
theorem Gj:aI Pg 176 Gt:=mk xM jV (ac rW an) b9
theorem Qe:aI Pg 150 Rq:=mk FP pq (ac rW (ac Gj (ac D7 an))) b9
theorem uM:aI Pg 114 acz:=mk V3 iS an b9
theorem uL:aI Pg 178 Rp:=mk FO gZ an b9
theorem vn:aI Pg 179 Lh:=mk At gH an b9
theorem Qd:aI Pg 223 Ro:=mk FN po (ac uM (ac uL (ac vn an))) b9
theorem L2:aI Pg 210 Xy:=mk Mk gu (ac Qd an) b9
theorem Fg:∀ n:Nat,aI Pg 224 (Td n)
 |0=>Px xn
 |n+1=>mk xn (t8 (mU n)) (ac (Fg n) an) b9
theorem Tz:aI Pg 224 Uo:=(Fg fuel)
theorem Ff:∀ n:Nat,aI Pg 225 (Tc n)
 |0=>Px xm
 |n+1=>mk xm (t7 (mT n)) (ac L2 (ac (Ff n) an)) b9
theorem Tw:aI Pg 225 Um:=(Ff fuel)
theorem W7:aI Pg 211 Xz:=mk Ml l_ (ac xC (ac Tz (ac Tw an))) b9
theorem NA:aI Pg 212 Oa:=mk C1 cX an b9
theorem acb:aI Pg 209 acy:=mk V2 iR an b9
theorem D6:aI Pg 208 Et:=mk wq dM an b9
theorem KQ:aI Pg 180 Lf:=mk As l9 (ac uM (ac uL (ac vn (ac D6 (ac acb (ac L2 (ac W7 (ac NA an)))))))) b9
theorem yH:∀ n:Nat,aI Pg 154 (KJ n)
 |0=>Px rJ
 |n+1=>mk rJ (mc (iw n)) (ac (yH n) (ac KQ an)) b9
theorem KU:aI Pg 154 Lg:=(yH fuel)
theorem Fh:∀ n:Nat,aI Pg 153 (Te n)
 |0=>Px xo
 |n+1=>mk xo (t_ (mV n)) (ac (Fh n) an) b9
theorem TA:aI Pg 153 Up:=(Fh fuel)
theorem Tx:aI Pg 151 Un:=mk Jk qW (ac uL an) b9
theorem Nz:aI Pg 152 N':=mk CZ nB (ac uM (ac uL (ac vn an))) b9
theorem w7:aI Pg 117 Ob:=mk C2 fd (ac Qe (ac Tx (ac Nz (ac TA (ac KU an))))) b9
theorem Fe:∀ n:Nat,aI Pg 156 (Tb n)
 |0=>Px xl
 |n+1=>mk xl (w9 (pg n)) (ac (Fe n) an) b9
theorem Tp:aI Pg 156 Ud:=(Fe fuel)
theorem Fa:aI Pg 155 Rk:=mk FJ j7 an b9
theorem Fc:aI Pg 213 Rm:=mk FL kZ an b9
theorem Tt:aI Pg 118 Uh:=mk Jf tO (ac w7 (ac Fa (ac Tp an))) b9
theorem Tq:aI Pg 112 Ue:=mk Jc o7 an b9
theorem xB:aI Pg 77 Gs:=mk xL gY (ac Tq (ac rW (ac uM an))) b9
theorem tY:aI Pg 121 JE:=mk yT jy an b9
theorem Fb:aI Pg 170 Rl:=mk FK pn an b9
theorem Tr:aI Pg 145 Uf:=mk Jd o8 (ac Fb an) b9
theorem Nx:aI Pg 146 acx:=mk V0 jf an b9
theorem Ts:aI Pg 169 Ug:=mk Je mQ (ac Nx an) b9
theorem Nw:aI Pg 144 N8:=mk CW lm (ac Nx (ac Ts an)) b9
theorem D5:aI Pg 115 Es:=mk wn ii (ac tY (ac Nw (ac Tr (ac Nx an)))) b9
theorem Bs:aI Pg 79 Ui:=mk Jg jx (ac xB (ac D5 an)) b9
theorem nJ:aI Pg 120 N9:=mk CX cz an b9
theorem xE:∀ n:Nat,aI Pg 185 (H_ n)
 |0=>Px qm
 |n+1=>mk qm (qe (iC n)) (ac uM (ac nJ (ac (xE n) (ac Fc an)))) b9
theorem tX:aI Pg 185 JB:=(xE fuel)
theorem Gi:aI Pg 181 Gr:=mk xK lJ (ac uM (ac nJ (ac tX (ac Fc an)))) b9
theorem KP:aI Pg 184 Ld:=mk Ar jk an b9
theorem jW:∀ n:Nat,aI Pg 119 (Ia n)/\aI Pg 157 (KI n)/\aI Pg 182 (Cg n)/\aI Pg 183 (Ge n)
 |0=>⟨Px qn,Px vq,Px qp,Px sx⟩
 |n+1=>⟨mk qn (qf (dF n) (eE n) (c4 n) (dA n)) (ac (jW n).2.1 an) b9,mk vq (rH (dF n) (eE n) (c4 n) (dA n)) (ac uM (ac nJ (ac Fa (ac Gi (ac (jW n).2.2.1 (ac (jW n).2.2.2 (ac KP (ac tX an)))))))) b9,mk qp (mj (dF n) (eE n) (c4 n) (dA n)) (ac (jW n).1 (ac nJ (ac tX an))) b9,mk sx (oM (dF n) (eE n) (c4 n) (dA n)) (ac (jW n).1 (ac nJ an)) b9⟩
theorem Ip:aI Pg 119 JD:=(jW fuel).1
theorem Ny:aI Pg 82 N_:=mk CY p_ (ac w7 (ac Tt (ac Ip (ac nJ (ac tY an))))) b9
theorem Io:aI Pg 103 ZP:=mk QK pZ an b9
theorem Zs:aI Pg 139 ZO:=mk QJ vP an b9
theorem In:aI Pg 106 Uc:=mk Jb qU (ac Zs an) b9
theorem KN:aI Pg 205 Lc:=mk Aq l8 an b9
theorem kR:aI Pg 174 Xx:=mk Mj cg an b9
theorem W6:aI Pg 175 Xw:=mk Mi vO (ac In (ac tY (ac Tu (ac KN (ac Qc an))))) b9
theorem jp:aI Pg 149 Rj:=mk FI mP (ac Fb (ac kR (ac W6 an))) b9
theorem Im:aI Pg 69 Ua:=mk I_ qS an b9
theorem D3:aI Pg 100 Xu:=mk Mg qT an b9
theorem VG:aI Pg 101 acw:=mk VZ pY an b9
theorem To:aI Pg 102 T_:=mk I9 tM (ac VG an) b9
theorem Co:aI Pg 72 N7:=mk CV j6 (ac D3 (ac VG (ac To (ac Io an)))) b9
theorem Nv:aI Pg 104 N6:=mk CU nA an b9
theorem Nu:aI Pg 107 N5:=mk CS pW an b9
theorem kQ:aI Pg 105 Xv:=mk Mh ig an b9
theorem KM:aI Pg 104 Lb:=mk md l7 an b9
theorem Il:aI Pg 104 JA:= @aI.ro Pg 104 md.pre md.post.vs l7 jw (KM.holds rfl) rfl (λx _ h=>by rw[show jw x=obind (l7 x) λy=>same y.2 x.2 (af y.1) from rfl] at h;exact h)
theorem jB:aI Pg 75 Ub:=mk Ja o6 (ac Co (ac Io (ac Il (ac kQ (ac In (ac Nu an)))))) b9
theorem Tn:aI Pg 81 T9:=mk I8 tL (ac Im (ac Bs an)) b9
theorem W3:aI Pg 171 Xs:=mk Mf vN (ac Bs (ac D3 an)) b9
theorem W1:aI Pg 172 Xq:=mk Md vL an b9
theorem PK:aI Pg 173 QY:=mk Fo rR (ac Tv an) b9
theorem iv:aI Pg 147 N3:=mk CR nz (ac W3 (ac W1 (ac PK an))) b9
theorem Ik:aI Pg 43 T7:=mk I6 mC (ac Im an) b9
theorem WZ:aI Pg 70 Xo:=mk Mc vK (ac D3 an) b9
theorem aca:aI Pg 71 acv:=mk VY Cb an b9
theorem Nt:aI Pg 73 N2:=mk CQ ny an b9
theorem Tj:aI Pg 74 T5:=mk I4 tJ (ac Io (ac Nv an)) b9
theorem D2:aI Pg 45 Xn:=mk Mb qR (ac WZ (ac aca (ac Co (ac Nt (ac Tj (ac jB an)))))) b9
theorem Tk:aI Pg 78 T6:=mk I5 qQ an b9
theorem Tl:aI Pg 47 T8:=mk I7 tK (ac Ik (ac D2 (ac xB (ac Tk an)))) b9
def LF (t:TypeId):Option Ty:=if aB t 188 then af (.pr .un eO) else b9 t
theorem Qb:aI Pg 148 Ri:=mk FH mO (ac kQ (ac kR an)) LF
theorem PZ:aI Pg 116 Q9:=mk Fx fV (ac jB (ac iv (ac Qb (ac jp an)))) LF
theorem Qa:aI Pg 148 Rh:=mk FG mN (ac kQ (ac kR an)) LF
theorem PY:aI Pg 116 Q7:=mk Fw gr (ac jB (ac iv (ac Qa (ac jp an)))) LF
theorem P':aI Pg 148 Rg:=mk FF mM (ac kQ (ac kR an)) LF
theorem PW:aI Pg 116 Q6:=mk Fv fU (ac jB (ac iv (ac P' (ac jp an)))) LF
theorem P_:aI Pg 148 Rf:=mk FE mL (ac kQ (ac kR an)) LF
theorem PU:aI Pg 116 Q5:=mk Fu ji (ac jB (ac iv (ac P_ (ac jp an)))) LF
theorem P9:aI Pg 148 Re:=mk FD mK (ac kQ (ac kR an)) LF
theorem PR:aI Pg 116 Q4:=mk Ft iz (ac jB (ac iv (ac P9 (ac jp an)))) LF
theorem P5:aI Pg 148 Rd:=mk FC mJ (ac kQ (ac kR an)) LF
theorem PQ:aI Pg 116 Q3:=mk Fs gX (ac jB (ac iv (ac P5 (ac jp an)))) LF
theorem P4:aI Pg 148 Rc:=mk FB mI (ac kQ (ac kR an)) LF
theorem PP:aI Pg 116 Q2:=mk dy mE (ac jB (ac iv (ac P4 (ac jp an)))) LF
theorem P3:aI Pg 148 Rb:=mk FA mH (ac kQ (ac kR an)) LF
theorem PO:aI Pg 116 Q1:=mk Fr mD (ac jB (ac iv (ac P3 (ac jp an)))) LF
theorem P1:aI Pg 148 Ra:=mk Fz mG (ac kQ (ac kR an)) LF
theorem PN:aI Pg 116 Q0:=mk Fq kY (ac jB (ac iv (ac P1 (ac jp an)))) LF
theorem P0:aI Pg 148 Q_:=mk Fy mF (ac kQ (ac kR an)) LF
theorem PL:aI Pg 116 QZ:=mk Fp jZ (ac jB (ac iv (ac P0 (ac jp an)))) LF
theorem W5:aI Pg 116 Xt:=(aI.orE (pre:=dy.pre) (post:=dy.post) (m:=mE) (m':=(λx=>orE (mD x) ((λx=>orE (kY x) ((λx=>orE (jZ x) ((λx=>orE (ji x) ((λx=>orE (iz x) ((λx=>orE (gX x) ((λx=>orE (gr x) ((λx=>orE (fU x) (fV x)) x)) x)) x)) x)) x)) x)) x))) rfl PP (aI.orE (pre:=dy.pre) (post:=dy.post) (m:=mD) (m':=(λx=>orE (kY x) ((λx=>orE (jZ x) ((λx=>orE (ji x) ((λx=>orE (iz x) ((λx=>orE (gX x) ((λx=>orE (gr x) ((λx=>orE (fU x) (fV x)) x)) x)) x)) x)) x)) x))) rfl PO (aI.orE (pre:=dy.pre) (post:=dy.post) (m:=kY) (m':=(λx=>orE (jZ x) ((λx=>orE (ji x) ((λx=>orE (iz x) ((λx=>orE (gX x) ((λx=>orE (gr x) ((λx=>orE (fU x) (fV x)) x)) x)) x)) x)) x))) rfl PN (aI.orE (pre:=dy.pre) (post:=dy.post) (m:=jZ) (m':=(λx=>orE (ji x) ((λx=>orE (iz x) ((λx=>orE (gX x) ((λx=>orE (gr x) ((λx=>orE (fU x) (fV x)) x)) x)) x)) x))) rfl PL (aI.orE (pre:=dy.pre) (post:=dy.post) (m:=ji) (m':=(λx=>orE (iz x) ((λx=>orE (gX x) ((λx=>orE (gr x) ((λx=>orE (fU x) (fV x)) x)) x)) x))) rfl PU (aI.orE (pre:=dy.pre) (post:=dy.post) (m:=iz) (m':=(λx=>orE (gX x) ((λx=>orE (gr x) ((λx=>orE (fU x) (fV x)) x)) x))) rfl PR (aI.orE (pre:=dy.pre) (post:=dy.post) (m:=gX) (m':=(λx=>orE (gr x) ((λx=>orE (fU x) (fV x)) x))) rfl PQ (aI.orE (pre:=dy.pre) (post:=dy.post) (m:=gr) (m':=(λx=>orE (fU x) (fV x))) rfl PY (aI.orE (pre:=dy.pre) (post:=dy.post) (m:=fU) (m':=fV) rfl PW PZ)))))))))
theorem W2:aI Pg 80 Xr:=mk Me vM (ac W5 an) b9
theorem Zr:aI Pg 48 ZN:=mk QI yz (ac Bs (ac W2 (ac Tn an))) b9
theorem fB:aI Pg 44 Gy:=mk xQ bw an b9
theorem D9:aI Pg 125 XC:=mk Mm qZ an b9
theorem Ix:aI Pg 188 Uw:=mk Jo pa an b9
theorem Cv:aI Pg 187 Og:=mk C4 nD an b9
theorem Cw:aI Pg 124 Oh:=mk C5 jg an b9
theorem Qg:aI Pg 122 Rw:=mk FW rT an b9
theorem K3:aI Pg 50 Lq:=mk AB oA an b9
theorem uN:∀ n:Nat,aI Pg 186 (DS n)
 |0=>Px nP
 |n+1=>mk nP (nL (ik n)) (ac fB (ac D9 (ac (uN n) (ac Cv (ac Ix an))))) b9
theorem D_:aI Pg 186 Ey:=(uN fuel)
theorem Cu:aI Pg 189 De:=mk uU eD (ac uM an) b9
theorem jC:∀ n:Nat,aI Pg 123 (Ch n)/\aI Pg 158 (DR n)/\aI Pg 190 (Ci n)
 |0=>⟨Px mo,Px rn,Px qr⟩
 |n+1=>⟨mk mo (mm (dB n) (eo n) (dQ n)) (ac (jC n).2.1 an) b9,mk rn (nK (dB n) (eo n) (dQ n)) (ac fB (ac (jC n).1 (ac Cw (ac D9 (ac D_ (ac Cv (ac Ix (ac Cu (ac (jC n).2.2 an))))))))) b9,mk qr (mn (dB n) (eo n) (dQ n)) (ac fB (ac (jC n).1 an)) b9⟩
theorem Ct:aI Pg 123 Dd:=(jC fuel).1
theorem K2:aI Pg 83 Lp:=mk AA oz (ac fB (ac w7 (ac Qg (ac Ct (ac Cw (ac D9 an)))))) b9
theorem TJ:aI Pg 49 Ux:=mk Jp wW (ac Ny (ac K2 an)) b9
theorem Qh:aI Pg 22 Rx:=mk FX rU (ac Zr (ac TJ (ac K3 an))) b9
theorem Nr:aI Pg 32 NZ:=mk CO nu an b9
theorem Ih:aI Pg 140 Jy:=mk yS kN an b9
theorem Np:aI Pg 108 NX:=mk CK sR an b9
theorem KL:aI Pg 109 La:=mk Ap ov (ac fB an) b9
theorem No:aI Pg 110 NU:=mk CJ pR (ac fB (ac Ih an)) b9
theorem PF:aI Pg 111 QW:=mk Fm gq (ac fB an) b9
theorem Nq:aI Pg 76 NY:=mk CM pU (ac fB (ac Np (ac KL (ac No (ac PF an))))) b9
def tv1 (t:TypeId):Option Ty:=if aB t 50 then af (.pr .un (.pr .un (.pr .un (.pr .un (.pr .un (.sl aM)))))) else b9 t
theorem PH:aI Pg 46 QX:=mk Fn rQ (ac fB (ac D2 (ac Nq an))) tv1
theorem Ns:aI Pg 21 N0:=mk CP pV (ac Nr (ac Ik (ac fB (ac D2 (ac PH (ac Tl an)))))) b9
theorem DZ:aI Pg 8 Ep:=mk wj kO (ac Ns (ac Qh an)) b9
abbrev ah8:List PV:=[.row 1,.row 2,.row 3,.row 4,.row 5,.row 6,.d (.sl aM),.row 7,.row 8]
abbrev Ld0:List PB:=[.cells 62 ah8,.rows 50 aj (.sl aM),.rows 50 aj (.sl aM),.rows 50 aj (.sl aM),.rows 50 aj (.sl aM),.rows 50 aj (.sl aM),.rows 50 aj (.sl aM),.rows 50 aj (.sl aM),.rows 3 ai aM,.rows 3 aj aM]
abbrev Ld4:List PV:=[.d aM,.d aM,.d aM,.d aM,.d aM,.d (.sl aM),.d (.sl aM)]
abbrev Ld3:List PV:=[.d (.sl kw),.d (.sl ry),.d (.sl lY),.d (.sl .str),.d (.sl .str),.d (.sl oD)]
abbrev Ld1:List PB:=[.cells 52 Ld4,.cells 62 [.row 3,.row 4,.row 5,.row 6,.row 7,.row 8,.d (.sl aM),.row 9,.row 10],.cells 31 Ld3,.rows 50 aj (.sl aM),.rows 50 aj (.sl aM),.rows 50 aj (.sl aM),.rows 50 aj (.sl aM),.rows 50 aj (.sl aM),.rows 50 aj (.sl aM),.rows 50 aj (.sl aM),.rows 3 ai aM]
abbrev Ld2:List PB:=[.cells 62 ah8,.rows 50 aj (.sl aM),.rows 50 aj (.sl aM),.rows 50 aj (.sl aM),.rows 50 aj (.sl aM),.rows 50 aj (.sl aM),.rows 50 aj (.sl aM),.rows 50 aj (.sl aM),.rows 3 ai aM,.rows 3 aj aM,.cells 52 Ld4]
abbrev Ld5:List PB:=[.rows 167 aj dS,.rows 4 ai .bool,.rows 169 ai hX,.cells 94 GM]
abbrev Ld6:List PB:=[.rows 167 aj dS,.rows 4 ai .bool,.rows 169 ai hX]
abbrev Wr:List PB:=[.rows 3 ai aM]
abbrev Ld8:List PB:=[.cells 97 [.d iL],.cells 52 [.d jM],.cells 216 [.d Kd1]]
abbrev Ld9:List PB:=[.rows 3 ai aM,.cells 3 [.d aM]]
abbrev akp:List PB:=[.cells 31 [.d ne],.cells 94 [.row 4,.d aM,.row 5,.row 6],.cells 3 [.d aM],.cells 94 BH,.rows 167 aj dS,.rows 4 ai .bool,.rows 169 ai hX]
abbrev OD:List PB:=[.rows 3 aj aM]
abbrev ako:List PB:=[.cells 94 BH,.cells 94 [.row 2,.d aM,.row 3,.row 4],.rows 167 aj dS,.rows 4 aj .bool,.rows 169 aj hX]
abbrev RW:List PV:=[.row 0,.d aM]
abbrev aae:List PB:=[.rows 50 aj (.sl aM)]
abbrev ah7:List PB:=[.rows 50 aj (.sl aM),.rows 3 aj aM]
abbrev X5:List PB:=[.cells 52 [.d jM]]
abbrev akn:List PV:=[.d (.sl aM),.d (.sl aM)]
abbrev ah6:List PV:=[.ptr 0 0,.ptr 1 0,.ptr 2 0]
def Mr:FT:=⟨⟨Ka,[]⟩,⟨[.d aM],[]⟩,dP [(3,(.j ⟨[0,1],[12],⟨[.d .bool],[]⟩,[]⟩))]⟩
def XJ:cu:=cn Mr iT
def FZ:FT:=⟨⟨akn,[]⟩,⟨qw,[]⟩,dP [(8,(.j ⟨[0,1,14],[5,15],⟨RW,OD⟩,[]⟩))]⟩
def RB:cu:=cn FZ jm
def VX:FT:=⟨⟨Ka,[]⟩,⟨[.d aM],[]⟩,dP [(3,(.j ⟨[0,1],[12],⟨[.d .bool],[]⟩,[]⟩))]⟩
def acu:cu:=cn VX Ca
def V5:FT:=⟨⟨qw,[]⟩,⟨qw,[]⟩,.leaf⟩
def Dg:cu:=cn V5 Ni
def agf:cu:=⟨Dg.pre,Dg.post,wX⟩
def Jr:FT:=⟨⟨[.d ku],[]⟩,⟨[.row 0],aae⟩,dP [(8,(.j ⟨[9,10],[3,11],⟨RW,aae⟩,[]⟩))]⟩
def Uz:cu:=cn Jr ij
def QR:FT:=⟨⟨qw,[]⟩,⟨[.row 0],Wr⟩,dP [(8,(.a [.nil 2 3 aM])),(12,(.a [.nil 2 3 aM]))]⟩
def zh:cu:=cn QR H5
def ad7:cu:=⟨zh.pre,zh.post,oL⟩
def Js:FT:=⟨⟨[.d Kd0],[]⟩,⟨[.agg [.row 0,.row 1,.row 2,.row 3,.row 4,.row 5,.d (.sl aM),.row 6,.row 7]],[.rows 50 aj (.sl aM),.rows 50 aj (.sl aM),.rows 50 aj (.sl aM),.rows 50 aj (.sl aM),.rows 50 aj (.sl aM),.rows 50 aj (.sl aM),.rows 50 aj (.sl aM),.rows 3 ai aM]⟩,.leaf⟩
def UA:cu:=cn Js q_
def Mn:FT:=⟨⟨RW,aae⟩,⟨qw,aae⟩,dP [(3,(.j ⟨[1],[0,12],⟨[.row 0,.d .bool],aae⟩,[]⟩))]⟩
def XD:cu:=cn Mn s_
def Jt:FT:=⟨⟨ah6,Ld1⟩,⟨[.d ku],Ld1⟩,dP [(18,(.j ⟨[6],[0,1,2,25],⟨EK,Ld1⟩,[]⟩))]⟩
def UB:cu:=cn Jt rc
def Mq:FT:=⟨⟨[.d ne],[]⟩,⟨[.d Kd0],[]⟩,dP [(8,(.j ⟨[40],[2,3,41],⟨uw,[.cells 62 [.nil,.nil,.nil,.nil,.nil,.nil,.nil,.nil,.nil],.cells 62 [.row 2,.row 3,.row 4,.row 5,.row 6,.row 7,.nil,.row 8,.row 9],.rows 50 aj (.sl aM),.rows 50 aj (.sl aM),.rows 50 aj (.sl aM),.rows 50 aj (.sl aM),.rows 50 aj (.sl aM),.rows 50 aj (.sl aM),.rows 50 aj (.sl aM),.rows 3 aj aM]⟩,[]⟩))]⟩
def XG:cu:=cn Mq nG
def FY:FT:=⟨⟨Ka,[]⟩,⟨[.row 0],OD⟩,dP [(4,(.j ⟨[0,1,5],[6],⟨[.d .bool],[]⟩,[]⟩)),(6,(.j ⟨[0,1,6],[5],⟨[.d aM],[]⟩,[]⟩)),(16,(.j ⟨[],[7],⟨[.row 0],OD⟩,[]⟩)),(17,(.j ⟨[1],[7,33],⟨[.row 0,.d .bool],OD⟩,[]⟩))]⟩
def RA:cu:=cn FY pw
def wv:FT:=⟨⟨[.row 0],OD⟩,⟨qw,OD⟩,.leaf⟩
def Z2:cu:=cn wv vT
def ad6:cu:=⟨wv.pre,⟨wv.post.vs,[]⟩,uG⟩
def zP:FT:=⟨⟨[.d (.sl aM),.row 0],OD⟩,⟨qw,OD⟩,dP [(8,(.j ⟨[0,14],[1,5,15],⟨[.row 0,.row 1,.d aM],[.rows 3 aj aM,.rows 3 aj aM]⟩,[]⟩))]⟩
def ad4:cu:=cn zP sU
def age:cu:=⟨zP.pre,⟨zP.post.vs,[]⟩,Bl⟩
def Jq:FT:=⟨⟨[.row 0,.d aM,.row 1],ah7⟩,⟨[],ah7⟩,dP [(0,(.j ⟨[1],[0,2,13],⟨[.row 0,.row 1,.d .bool],ah7⟩,[]⟩))]⟩
def Uy:cu:=cn Jq lq
def QL:FT:=⟨⟨[.ptr 0 0,.d aM,.row 9],Ld0⟩,⟨[],Ld0⟩,.leaf⟩
def ZX:cu:=cn QL vQ
def Mo:FT:=⟨⟨[.d ne,.ptr 0 0,.d jM,.row 9],Ld0⟩,⟨[],Ld0⟩,dP [(6,(.j ⟨[],[],⟨[],Ld0⟩,[]⟩)),(11,(.j ⟨[20],[1,3,4,6,32],⟨[.ptr 0 0,.row 9,.ptr 10 0,.ptr 11 0,.d .bool],[.cells 62 ah8,.rows 50 aj (.sl aM),.rows 50 aj (.sl aM),.rows 50 aj (.sl aM),.rows 50 aj (.sl aM),.rows 50 aj (.sl aM),.rows 50 aj (.sl aM),.rows 50 aj (.sl aM),.rows 3 ai aM,.rows 3 aj aM,.cells 31 Ld3,.cells 52 Ld4]⟩,[]⟩)),(48,(.j ⟨[],[1,3,6,129],⟨[.ptr 0 0,.row 9,.ptr 10 0,.d .bool],Ld2⟩,[]⟩)),(59,(.j ⟨[141],[1,3,6,140,142],⟨[.ptr 0 0,.row 9,.ptr 10 0,.row 8,.d aM],Ld2⟩,[]⟩)),(67,(.j ⟨[141,142],[1,3,6,140],⟨[.ptr 0 0,.row 9,.ptr 10 0,.row 8],Ld2⟩,[]⟩))]⟩
def XE:cu:=cn Mo pt
def QM:FT:=⟨⟨[.d ne,.d Kd0,.d jM],[]⟩,⟨[.d Kd0,.row 0],OD⟩,dP [(14,(.j ⟨[22,23],[3,5,6,7,24],⟨[.ptr 0 0,.ptr 1 0,.ptr 2 0,.ptr 3 0,.d aM],[.cells 31 Ld3,.cells 52 Ld4,.cells 62 [.row 4,.row 5,.row 6,.row 7,.row 8,.row 9,.d (.sl aM),.row 10,.row 11],.cells 50 qw,.rows 50 aj (.sl aM),.rows 50 aj (.sl aM),.rows 50 aj (.sl aM),.rows 50 aj (.sl aM),.rows 50 aj (.sl aM),.rows 50 aj (.sl aM),.rows 50 aj (.sl aM),.rows 3 ai aM]⟩,[]⟩))]⟩
def ZY:cu:=cn QM rV
def QH:FT:=⟨⟨akn,[]⟩,⟨[.d .bool],[]⟩,dP [(6,(.j ⟨[0,1],[5],⟨[.d aM],[]⟩,[]⟩))]⟩
def ZM:cu:=cn QH tI
def wg:FT:=⟨⟨[.d .str],[]⟩,⟨[.d .bool],[]⟩,dP [(6,(.j ⟨[0,5],[6],⟨[.d aM],[]⟩,[]⟩))]⟩
def Em:cu:=cn wg kM
def Ao:FT:=⟨⟨[.d .str],[]⟩,⟨[.d .bool],[]⟩,dP [(3,(.j ⟨[0],[16],⟨[.d .bool],[]⟩,[]⟩)),(14,(.j ⟨[],[18],⟨[.ptr 0 0],[.mp lY .un]⟩,[]⟩)),(24,(.j ⟨[],[18],⟨[.ptr 0 0],[.mp lY .un]⟩,[]⟩)),(25,(.j ⟨[3,4],[18,23],⟨gV,[.mp lY .un]⟩,[]⟩)),(29,(.j ⟨[],[18,38],⟨gV,[.mp lY .un]⟩,[]⟩))]⟩
def K_:cu:=cn Ao ou
def Jv:FT:=⟨⟨Ka,[]⟩,⟨[.d aM],[]⟩,dP [(6,(.j ⟨[0,1,7],[8],⟨[.d aM],[]⟩,[]⟩))]⟩
def UG:cu:=cn Jv re
def AE:FT:=⟨⟨Ka,[]⟩,⟨[.d .bool],[]⟩,.leaf⟩
def Lt:cu:=cn AE km
def AD:FT:=⟨⟨[.d (.sl aM),.d iE],[]⟩,⟨[.d .bool],[]⟩,.leaf⟩
def Ls:cu:=cn AD vm
def xS:FT:=⟨⟨vx,[]⟩,⟨[.d .bool],[]⟩,dP [(2,(.j ⟨[],[4],⟨[.d .bool],[]⟩,[]⟩))]⟩
def GA:cu:=cn xS sj
def xT:FT:=⟨⟨[.d ne,.d aM,.d .bool],[]⟩,⟨[.d .bool],[]⟩,dP [(2,(.j ⟨[],[6],⟨[.d .bool],[]⟩,[]⟩))]⟩
def GD:cu:=cn xT sk
def sM:FT:=⟨⟨[.d (.sl kw)],[]⟩,⟨[.d (.sl .str),.d .bool],[]⟩,dP [(8,(.j ⟨[0],[4,5],⟨RW,[.rows 9 ai .str]⟩,[.nil 4 9 .str]⟩)),(15,(.j ⟨[0],[4,5],⟨RW,[.rows 9 ai .str]⟩,[]⟩)),(37,(.j ⟨[0,5],[4,6,49],⟨[.row 0,.ptr 1 0,.d .bool],[.rows 9 ai .str,.cells 123 [.d kw]]⟩,[]⟩)),(48,(.j ⟨[0,5,51],[4,6,52],⟨[.row 0,.ptr 1 0,.d aM],[.rows 9 ai .str,.cells 123 [.d kw]]⟩,[]⟩))]⟩
def Ah:cu:=cn sM gR
def sL:FT:=⟨⟨[.d ne,.d (.sl .str)],[]⟩,⟨[.d .bool],[]⟩,dP [(10,(.j ⟨[17,18],[2,5,19],⟨UY,X8⟩,[]⟩)),(27,(.j ⟨[30,31],[2,5,32],⟨UY,X8⟩,[]⟩)),(50,(.j ⟨[52],[10,51,53],⟨[.mp 0,.row 1,.d aM],[.mp .str .bool,.rows 9 ai .str]⟩,[.mpt 10 .str .bool]⟩)),(62,(.j ⟨[12,52,53],[10,51,64],⟨[.mp 0,.row 1,.d .bool],[.mp .str .bool,.rows 9 ai .str]⟩,[.mpt 10 .str .bool]⟩))]⟩
def Ag:cu:=cn sL dI
def sJ:FT:=⟨⟨[.d ne],[]⟩,⟨[.d .bool],[]⟩,dP [(8,(.j ⟨[8,9],[1,3,4,10],⟨[.ptr 0 0,.d aM,.d aM,.d aM],pG⟩,[]⟩)),(20,(.j ⟨[3,4,8,9,10],[1,6,25],⟨qF,[.cells 31 [.d ne],.cells 127 [.d oD]]⟩,[]⟩)),(27,(.j ⟨[8,9,10],[1,3,4,6],⟨[.ptr 0 0,.d aM,.d aM,.ptr 1 0],[.cells 31 [.d ne],.cells 127 [.d oD]]⟩,[]⟩))]⟩
def Af:cu:=cn sJ fR
def sN:FT:=⟨⟨[.d ne],[]⟩,⟨[.d .bool],[]⟩,dP [(3,(.j ⟨[],[1,34],⟨gV,pG⟩,[]⟩)),(11,(.j ⟨[],[1,44],⟨gV,pG⟩,[]⟩)),(21,(.j ⟨[],[1,58],⟨gV,pG⟩,[]⟩)),(32,(.j ⟨[60,61],[1,62],⟨vy,pG⟩,[]⟩))]⟩
def Ai:cu:=cn sN dJ
def Az:FT:=⟨⟨[.d ne],[]⟩,⟨[.d GP],[]⟩,dP [(8,(.j ⟨[20],[2,3,21],⟨uw,ako⟩,[]⟩)),(21,(.j ⟨[],[2,3],⟨[.ptr 0 0,.ptr 1 0],ako⟩,[]⟩))]⟩
def Ln:cu:=cn Az oy
def uS:FT:=⟨⟨[.d ne],[]⟩,⟨[.d iL],[]⟩,dP [(8,(.j ⟨[22,23],[2,3,24],⟨uw,[.cells 97 vz,.cells 97 [.d (.sl dS),.d aM,.d pH,.d (.sl hX),.row 2,.row 3,.row 4],.rows 2 aj aM,.rows 2 aj aM,.rows 3 aj aM]⟩,[]⟩))]⟩
def C':cu:=cn uS c8
def r8:FT:=⟨⟨[.d pH,.d jM],[]⟩,⟨[.d .bool],[]⟩,dP [(6,(.j ⟨[0,13],[14],⟨[.d aM],[]⟩,[]⟩)),(20,(.j ⟨[0,13,14,17,18],[19],⟨[.d aM],[]⟩,[]⟩)),(31,(.j ⟨[0,13,14,17,18,19],[37],⟨[.d .bool],[]⟩,[]⟩))]⟩
def zd:cu:=cn r8 cf
def yV:FT:=⟨⟨vx,[]⟩,⟨[.d .bool],[]⟩,dP [(2,(.j ⟨[],[4],⟨[.d .bool],[]⟩,[]⟩))]⟩
def JG:cu:=cn yV eU
def xN:FT:=⟨⟨[.d ne,.d aM,.d aM],[]⟩,⟨[.d .bool],[]⟩,dP [(6,(.j ⟨[2,7],[3,8],⟨gV,pG⟩,[]⟩)),(36,(.j ⟨[2,7],[3,18],⟨gV,pG⟩,[]⟩)),(46,(.j ⟨[2,7],[3,26],⟨gV,pG⟩,[]⟩)),(53,(.j ⟨[],[6],⟨[.d .bool],[]⟩,[]⟩)),(56,(.j ⟨[2,7],[3,43],⟨gV,pG⟩,[]⟩)),(71,(.j ⟨[],[6],⟨[.d .bool],[]⟩,[]⟩)),(74,(.j ⟨[2,7],[3,61],⟨gV,pG⟩,[]⟩)),(92,(.j ⟨[2,7],[3,71],⟨gV,pG⟩,[]⟩)),(102,(.j ⟨[2],[3,79],⟨gV,pG⟩,[]⟩))]⟩
def Gv:cu:=cn xN lK
def C3:FT:=⟨⟨[.d ne,.d GP],[]⟩,⟨[.d .bool],[]⟩,dP [(3,(.j ⟨[],[2,31],⟨gV,pG⟩,[]⟩)),(14,(.j ⟨[33,34],[2,35],⟨vy,pG⟩,[]⟩))]⟩
def Oc:cu:=cn C3 j8
def Ax:FT:=⟨⟨[.d ne,.d GP,.d aM,.d aM,.d aM],[]⟩,⟨[.d .bool],[]⟩,dP [(15,(.j ⟨[],[10],⟨[.d .bool],[]⟩,[]⟩)),(21,(.j ⟨[],[10],⟨[.d .bool],[]⟩,[]⟩)),(24,(.j ⟨[2,4,11],[5,6,60],⟨qF,UZ⟩,[]⟩)),(64,(.j ⟨[2,4,11],[5,6,109],⟨qF,UZ⟩,[]⟩)),(81,(.j ⟨[],[10],⟨[.d .bool],[]⟩,[]⟩)),(87,(.j ⟨[],[10],⟨[.d .bool],[]⟩,[]⟩))]⟩
def Ll:cu:=cn Ax ox
def xO:FT:=⟨⟨[.d ne,.d GP,.d aM,.d aM,.d aM],[]⟩,⟨[.d .bool],[]⟩,dP [(3,(.j ⟨[2,3,4],[5,6,30],⟨qF,UZ⟩,[]⟩)),(25,(.j ⟨[],[10],⟨[.d .bool],[]⟩,[]⟩)),(29,(.j ⟨[],[10],⟨[.d .bool],[]⟩,[]⟩))]⟩
def Gw:cu:=cn xO iX
def v_:FT:=⟨⟨[.d ne,.d iL],[]⟩,⟨[.d .bool],[]⟩,dP [(2,(.j ⟨[],[4],⟨[.d .bool],[]⟩,[]⟩))]⟩
def Ek:cu:=cn v_ kL
def uf:FT:=⟨⟨[.d ne,.d jM],[]⟩,⟨[.d .bool],[]⟩,dP [(3,(.j ⟨[],[2,3,12],⟨qF,[.cells 31 [.d ne],.cells 52 [.d jM]]⟩,[]⟩)),(10,(.j ⟨[],[4],⟨[.d .bool],[]⟩,[]⟩))]⟩
def By:cu:=cn uf jv
def ql:FT:=⟨⟨[.d ne,.d iL,.d jM],[]⟩,⟨[.d .bool],[]⟩,dP [(2,(.j ⟨[],[4,5,7],⟨qF,[.cells 97 [.d iL],.cells 52 [.d jM]]⟩,[]⟩)),(4,(.j ⟨[],[4,5,8],⟨ah6,Ld8⟩,[]⟩)),(10,(.j ⟨[51],[4,5,8,52],⟨EL,Ld8⟩,[]⟩)),(22,(.j ⟨[10,51,52],[4,5,8,64],⟨EK,Ld8⟩,[]⟩)),(34,(.j ⟨[51,52,65,66],[4,5,8,11,67],⟨[.ptr 0 0,.ptr 1 0,.ptr 2 0,.d aM,.d aM],Ld8⟩,[]⟩)),(46,(.j ⟨[13,51,52,65,66,67],[4,5,8,83],⟨EK,Ld8⟩,[]⟩))]⟩
def xr:cu:=cn ql eQ
def ue:FT:=⟨⟨[.d iL,.d jM],[]⟩,⟨[.d .bool],[]⟩,dP [(21,(.j ⟨[],[4],⟨[.d .bool],[]⟩,[]⟩)),(24,(.j ⟨[13],[2,3,46],⟨qF,[.cells 97 [.d iL],.cells 52 [.d jM]]⟩,[]⟩)),(43,(.j ⟨[53,54],[3,5,6,55],⟨[.ptr 0 0,.d aM,.d .bool,.d aM],X5⟩,[]⟩)),(51,(.j ⟨[53,54,55],[3,5,6],⟨[.ptr 0 0,.d aM,.d .bool],X5⟩,[]⟩)),(54,(.j ⟨[5,6,7,53,54,55],[3,69],⟨gV,X5⟩,[]⟩)),(62,(.j ⟨[],[4],⟨[.d .bool],[]⟩,[]⟩)),(74,(.j ⟨[94,95],[3,9,96],⟨R1,X5⟩,[]⟩)),(82,(.j ⟨[94,95,96],[3,9],⟨vy,X5⟩,[]⟩)),(85,(.j ⟨[9,94,95,96],[3,109],⟨gV,X5⟩,[]⟩))]⟩
def Bx:cu:=cn ue gk
def Aw:FT:=⟨⟨[.d hX,.d aM],[]⟩,⟨[.d .bool],[]⟩,dP [(2,(.j ⟨[],[4],⟨[.d .bool],[]⟩,[]⟩))]⟩
def Lk:cu:=cn Aw mb
def QU:FT:=⟨⟨[.d pH],[]⟩,⟨[.d pH],[]⟩,.leaf⟩
def zj:cu:=cn QU H7
def ad8:cu:=⟨zj.pre,zj.post,Nh⟩
def Mv:FT:=⟨⟨[.d pH],[]⟩,⟨[.row 0],[.rows 4 ai .bool]⟩,dP [(8,(.a [.nil 2 4 .bool])),(12,(.a [.nil 2 4 .bool]))]⟩
def wB:cu:=cn Mv DP
def Z4:cu:=⟨wB.pre,wB.post,H6⟩
def QQ:FT:=⟨⟨[.d (.sl hX)],[]⟩,⟨[.d (.sl hX)],[]⟩,.leaf⟩
def zg:cu:=cn QQ H4
def ad5:cu:=⟨zg.pre,zg.post,Ng⟩
def Mt:FT:=⟨⟨[.d (.sl hX)],[]⟩,⟨[.row 0],[.rows 169 ai hX]⟩,dP [(8,(.a [.nil 2 169 hX])),(12,(.a [.nil 2 169 hX]))]⟩
def wz:cu:=cn Mt DN
def Z1:cu:=⟨wz.pre,wz.post,H3⟩
def Mu:FT:=⟨⟨qw,[]⟩,⟨[.row 0],[.rows 2 ai aM]⟩,dP [(8,(.a [.nil 2 2 aM])),(12,(.a [.nil 2 2 aM]))]⟩
def wA:cu:=cn Mu DO
def Z3:cu:=⟨wA.pre,wA.post,yB⟩
def Ay:FT:=⟨⟨[.d GP],[]⟩,⟨[.agg GM],Ld6⟩,dP [(8,(.j ⟨[11,12],[1,2,3,13],⟨[.ptr 0 0,.ptr 1 0,.row 2,.d aM],[.cells 94 [.d GP],.cells 94 BH,.rows 167 aj dS]⟩,[]⟩))]⟩
def Lm:cu:=cn Ay kl
def yW:FT:=⟨⟨[.agg GM,.d aM,.d aM],Ld6⟩,⟨[.d aM],Ld6⟩,dP [(8,(.j ⟨[1,2,12],[3,7,11,13],⟨[.ptr 3 0,.d aM,.row 2,.d aM],Ld5⟩,[]⟩)),(16,(.j ⟨[1,2,12,13],[3,7,11],⟨[.ptr 3 0,.d aM,.row 2],Ld5⟩,[]⟩)),(19,(.j ⟨[1,2,7,8,12,13],[3,11,29],⟨[.ptr 3 0,.row 2,.d .bool],Ld5⟩,[]⟩)),(25,(.j ⟨[7],[],⟨[],Ld6⟩,[]⟩))]⟩
def JH:cu:=cn yW jA
def uT:FT:=⟨⟨[.agg GM,.d aM],Ld6⟩,⟨[.d aM],Ld6⟩,dP [(8,(.j ⟨[1,10],[2,5,9,11],⟨[.ptr 3 0,.d aM,.row 2,.d aM],Ld5⟩,[]⟩)),(16,(.j ⟨[1,10,11],[2,5,9],⟨[.ptr 3 0,.d aM,.row 2],Ld5⟩,[]⟩))]⟩
def Dc:cu:=cn uT gK
def y_:FT:=⟨⟨[.d aM],[]⟩,⟨[.d .bool],[]⟩,.leaf⟩
def JR:cu:=cn y_ qb
def AC:FT:=⟨⟨vx,[]⟩,⟨[.d .bool],[]⟩,dP [(2,(.j ⟨[],[4],⟨[.d .bool],[]⟩,[]⟩))]⟩
def Lr:cu:=cn AC vk
def wu:FT:=⟨⟨[.d (.int .u64)],[]⟩,⟨[.d aM],[]⟩,.leaf⟩
def Ew:cu:=cn wu qY
def yZ:FT:=⟨⟨[.d (.int .u64)],[]⟩,⟨[.d aM],[]⟩,.leaf⟩
def JM:cu:=cn yZ tQ
def nU:FT:=⟨⟨[.row 0,.d aM,.d aM],Wr⟩,⟨[],Wr⟩,dP [(3,(.j ⟨[1,2],[0,6],⟨RW,Wr⟩,[]⟩)),(15,(.j ⟨[1,2,6],[0,7],⟨RW,Wr⟩,[]⟩)),(17,(.j ⟨[1,2,6,7],[0,30],⟨[.row 0,.d .bool],Wr⟩,[]⟩))]⟩
def ut:cu:=cn nU fM
def sI:FT:=⟨⟨[.row 0,.d aM,.d aM,.d aM],Wr⟩,⟨[],Wr⟩,dP [(5,(.j ⟨[],[0,1,2,3,8,9],⟨[.row 0,.d aM,.d aM,.d aM,.d .bool,.d .bool],Wr⟩,[]⟩))]⟩
def Ae:cu:=cn sI i_
def Ms:FT:=⟨⟨[.row 0],Wr⟩,⟨[],Wr⟩,.leaf⟩
def XK:cu:=cn Ms vS
def C_:FT:=⟨⟨[.row 0],Wr⟩,⟨[.row 0],Wr⟩,dP [(14,(.j ⟨[],[0,3],⟨RW,Wr⟩,[]⟩))]⟩
def Oq:cu:=cn C_ lw
def xP:FT:=⟨⟨[.d aM,.ptr 0 0],[.cells 3 [.d aM]]⟩,⟨[.d .bool],[.cells 3 [.d aM]]⟩,.leaf⟩
def Gx:cu:=cn xP oK
def za:FT:=⟨⟨[.row 0,.clo 136 1 0],Ld9⟩,⟨[.d aM],Ld9⟩,dP [(6,(.j ⟨[7],[0,1,8],⟨[.row 0,.clo 136 1 0,.d aM],Ld9⟩,[]⟩))]⟩
def JS:cu:=cn za mS
def xU:FT:=⟨⟨[.row 0,.clo 136 1 0],Ld9⟩,⟨[.row 2],[.gone,.cells 3 [.d aM],.rows 3 aj aM]⟩,dP [(16,(.j ⟨[],[0,1,5,6],⟨[.row 0,.clo 136 1 0,.d aM,.d aM],Ld9⟩,[]⟩)),(24,(.j ⟨[6],[0,1,5],⟨[.row 0,.clo 136 1 0,.d aM],Ld9⟩,[]⟩))]⟩
def GF:cu:=cn xU iY
def mX:FT:=⟨⟨[.d ne,.d GP,.d aM,.d aM,.d aM,.d aM],[]⟩,⟨[.d GP,.d aM,.d .bool],[]⟩,dP [(17,(.j ⟨[],[7,12,15],⟨uw,[.cells 94 [.row 2,.d aM,.row 3,.row 4],.cells 94 BH,.rows 167 aj dS,.rows 4 ai .bool,.rows 169 ai hX]⟩,[]⟩)),(26,(.j ⟨[4,5,15,27],[6,7,8,12,42],⟨zn,akp⟩,[]⟩)),(34,(.j ⟨[4,5,15,27],[6,7,8,12,51],⟨zn,akp⟩,[]⟩))]⟩
def JK:cu:=cn mX gL
def yX:FT:=⟨⟨[.d GP],[]⟩,⟨[.agg [.csl 0 2 3,.d aM,.d pH,.d (.sl hX)]],[.cells 167 [.d aM,.row 1,.d aM,.row 2,.d aM,.row 3],.rows 3 ai aM,.rows 3 ai aM,.rows 3 ai aM]⟩,dP [(7,(.j ⟨[],[1,2,3],⟨[.ptr 0 0,.ptr 1 0,.csl 2 2 3],[.cells 94 [.d GP],.cells 94 BH,.cells 167 [.d aM,.row 3,.d aM,.row 4,.d aM,.row 5],.rows 3 ai aM,.rows 3 ai aM,.rows 3 ai aM]⟩,[.cel 3 1 3 aM,.cel 3 3 3 aM,.cel 3 5 3 aM]⟩)),(8,(.u 4))]⟩
def JI:cu:=cn yX mR
def yY:FT:=⟨⟨[.d ne,.d GP,.d aM,.d aM,.d aM,.d aM],[]⟩,⟨[.d GP,.d aM,.d .bool],[]⟩,dP [(17,(.j ⟨[],[7,12,15],⟨uw,[.cells 94 [.csl 2 2 3,.d aM,.d pH,.d (.sl hX)],.cells 94 BH,.cells 167 [.d dS,.d dS,.d aM,.row 3],.rowsP 3 aM]⟩,[]⟩)),(26,(.j ⟨[4,5,15,27],[6,7,8,12,42],⟨zn,[.cells 31 [.d ne],.cells 94 [.csl 4 2 3,.d aM,.d pH,.d (.sl hX)],.cells 3 [.d aM],.cells 94 BH,.cells 167 [.d aM,.row 5,.d aM,.row 6,.d aM,.row 7],.rows 3 ai aM,.rows 3 ai aM,.rows 3 ai aM]⟩,[]⟩)),(33,(.s 4 0 0 0)),(34,(.j ⟨[4,5,15,27],[6,7,8,12,51],⟨zn,[.cells 31 [.d ne],.cells 94 [.csl 4 2 3,.d aM,.d pH,.d (.sl hX)],.cells 3 [.d aM],.cells 94 BH,.cells 167 [.d aM,.d (.sl aM),.d aM,.d (.sl aM),.d aM,.row 5],.rows 3 ai aM]⟩,[]⟩)),(41,(.s 4 0 0 0)),(46,(.s 4 0 0 3)),(53,(.s 4 0 0 3)),(74,(.s 4 0 0 0)),(80,(.s 4 0 0 0)),(100,(.a [.pk 7 0 dS]))]⟩
def JJ:cu:=cn yY kP
def Lo:cu:=cn mX rE
def wa:FT:=⟨⟨[.d ne,.d iL,.d jM],[]⟩,⟨[.d iL,.d .bool],[]⟩,dP [(3,(.j ⟨[],[3,4,5,6,39],⟨zn,Ke⟩,[]⟩)),(11,(.j ⟨[],[3,4,5,6,70],⟨zn,Ke⟩,[]⟩)),(20,(.j ⟨[],[3,4,5,6,8],⟨[.ptr 0 0,.ptr 1 0,.ptr 2 0,.ptr 3 0,.d aM],Ke⟩,[]⟩)),(41,(.j ⟨[],[5,6,12],⟨ah6,aha⟩,[]⟩))]⟩
def El:cu:=cn wa fJ
def ui:FT:=⟨⟨[.d oe],[]⟩,⟨vx,[]⟩,dP [(26,(.j ⟨[27,28],[1,4,5,29],⟨[.ptr 0 0,.ptr 1 0,.csl 2 1 1,.d aM],[.cells 34 [.d oe],.cells 97 [.d iL],.cells 91 [.row 3],.rows 4 ai .bool]⟩,[.cel 5 0 4 .bool]⟩)),(40,(.j ⟨[6,27,28,29],[1,4,5,7,8,53],⟨[.ptr 0 0,.ptr 1 0,.csl 2 1 1,.ptr 3 0,.ptr 4 0,.d .bool],[.cells 34 [.d oe],.cells 97 [.d iL],.cells 91 [.row 5],.cells 52 [.d jM],.cells 97 [.d iL],.rows 4 ai .bool]⟩,[]⟩)),(41,(.s 7 0 0 1)),(47,(.j ⟨[27,28,29],[1,4,5,8],⟨[.ptr 0 0,.ptr 1 0,.csl 2 1 1,.ptr 3 0],[.cells 34 [.d oe],.cells 97 [.d iL],.cells 91 [.row 4],.cells 97 [.d iL],.rows 4 ai .bool]⟩,[]⟩)),(48,(.s 7 0 0 1))]⟩
def BD:cu:=cn ui dY
def uh:FT:=⟨⟨[.d oe],[]⟩,⟨vx,[]⟩,dP [(26,(.j ⟨[27,28],[1,4,5,29],⟨[.ptr 0 0,.ptr 1 0,.csl 2 1 2,.d aM],[.cells 34 [.d oe],.cells 97 [.d iL],.cells 91 [.row 3,.row 4],.rows 4 ai .bool,.rows 4 ai .bool]⟩,[.cel 5 0 4 .bool,.cel 5 1 4 .bool]⟩)),(40,(.j ⟨[6,27,28,29],[1,4,5,7,8,53],⟨[.ptr 0 0,.ptr 1 0,.csl 2 1 2,.ptr 3 0,.ptr 4 0,.d .bool],[.cells 34 [.d oe],.cells 97 [.d iL],.cells 91 [.row 5,.row 6],.cells 52 [.d jM],.cells 97 [.d iL],.rows 4 ai .bool,.rows 4 ai .bool]⟩,[]⟩)),(41,(.s 7 0 0 2)),(47,(.j ⟨[27,28,29],[1,4,5,8],⟨[.ptr 0 0,.ptr 1 0,.csl 2 1 2,.ptr 3 0],[.cells 34 [.d oe],.cells 97 [.d iL],.cells 91 [.row 4,.row 5],.cells 97 [.d iL],.rows 4 ai .bool,.rows 4 ai .bool]⟩,[]⟩)),(48,(.s 7 0 0 2))]⟩
def BB:cu:=cn uh c9
def ug:FT:=⟨⟨[.d oe],[]⟩,⟨vx,[]⟩,dP [(26,(.j ⟨[27,28],[1,4,5,29],⟨[.ptr 0 0,.ptr 1 0,.csl 2 1 3,.d aM],[.cells 34 [.d oe],.cells 97 [.d iL],.cells 91 [.row 3,.row 4,.row 5],.rows 4 ai .bool,.rows 4 ai .bool,.rows 4 ai .bool]⟩,[.cel 5 0 4 .bool,.cel 5 1 4 .bool,.cel 5 2 4 .bool]⟩)),(40,(.j ⟨[6,27,28,29],[1,4,5,7,8,53],⟨[.ptr 0 0,.ptr 1 0,.csl 2 1 3,.ptr 3 0,.ptr 4 0,.d .bool],[.cells 34 [.d oe],.cells 97 [.d iL],.cells 91 [.row 5,.row 6,.row 7],.cells 52 [.d jM],.cells 97 [.d iL],.rows 4 ai .bool,.rows 4 ai .bool,.rows 4 ai .bool]⟩,[]⟩)),(41,(.s 7 0 0 3)),(47,(.j ⟨[27,28,29],[1,4,5,8],⟨[.ptr 0 0,.ptr 1 0,.csl 2 1 3,.ptr 3 0],[.cells 34 [.d oe],.cells 97 [.d iL],.cells 91 [.row 4,.row 5,.row 6],.cells 97 [.d iL],.rows 4 ai .bool,.rows 4 ai .bool,.rows 4 ai .bool]⟩,[]⟩)),(48,(.s 7 0 0 3))]⟩
def BA:cu:=cn ug dE
def eR:FT:=⟨⟨[.d oe],[]⟩,⟨vx,[]⟩,dP [(26,(.j ⟨[27,28],[1,4,5,29],⟨[.ptr 0 0,.ptr 1 0,.csl 2 1 4,.d aM],[.cells 34 [.d oe],.cells 97 [.d iL],.cells 91 [.row 3,.row 4,.row 5,.row 6],.rows 4 ai .bool,.rows 4 ai .bool,.rows 4 ai .bool,.rows 4 ai .bool]⟩,[.cel 5 0 4 .bool,.cel 5 1 4 .bool,.cel 5 2 4 .bool,.cel 5 3 4 .bool]⟩)),(40,(.j ⟨[6,27,28,29],[1,4,5,7,8,53],⟨[.ptr 0 0,.ptr 1 0,.csl 2 1 4,.ptr 3 0,.ptr 4 0,.d .bool],[.cells 34 [.d oe],.cells 97 [.d iL],.cells 91 [.row 5,.row 6,.row 7,.row 8],.cells 52 [.d jM],.cells 97 [.d iL],.rows 4 ai .bool,.rows 4 ai .bool,.rows 4 ai .bool,.rows 4 ai .bool]⟩,[]⟩)),(41,(.s 7 0 0 4)),(47,(.j ⟨[27,28,29],[1,4,5,8],⟨[.ptr 0 0,.ptr 1 0,.csl 2 1 4,.ptr 3 0],[.cells 34 [.d oe],.cells 97 [.d iL],.cells 91 [.row 4,.row 5,.row 6,.row 7],.cells 97 [.d iL],.rows 4 ai .bool,.rows 4 ai .bool,.rows 4 ai .bool,.rows 4 ai .bool]⟩,[]⟩)),(48,(.s 7 0 0 4))]⟩
def Bz:cu:=cn eR dX
def Da:cu:=cn eR mh
def Ju:FT:=⟨⟨[.d oe],[]⟩,⟨[.d ku,.d aM],[]⟩,dP [(20,(.j ⟨[25,26],[1,6,7,27],⟨[.ptr 0 0,.ptr 1 0,.row 2,.d aM],[.cells 34 [.d oe],.cells 62 [.d Kd0],.rows 50 aj (.sl aM)]⟩,[]⟩))]⟩
def UC:cu:=cn Ju pe
def V4:FT:=⟨⟨[],[]⟩,⟨[.d ne],[]⟩,dP [(8,(.j ⟨[21],[0,1,22],⟨uw,adx⟩,[.cel 1 5 127 oD]⟩)),(22,(.j ⟨[2,21,22],[0,1,3],⟨uw,adx⟩,[]⟩))]⟩
def ad3:cu:=cn V4 Cd
theorem D':aI Pg 57 XJ:=mk Mr iT an b9
theorem Pu x:kT (jm x) (yw x):=by
 unfold jm yw uP ck bx bE aX cK aE cB;with_reducible repeat' first|(refine OI.o ?_;constructor)|intro _
theorem yI:aI Pg 26 RB:=xZ FZ jm yw Pu (ac D' an) b9
theorem ac9:aI Pg 39 acu:=mk VX Ca an b9
theorem ach:aI Pg 25 Dg:=mk V5 Ni an b9
theorem TU:aI Pg 25 agf:= @aI.sub Pg 25 Dg.pre Dg.post Ni wX ach rfl (λx y h=>ru (b:=8) x y h)
theorem S1 x:kT (ij x) (Be x):=by
 unfold ij Be w_ ck bx ve bE aX cK aE cB;with_reducible repeat' first|(refine OI.o ?_;constructor)|intro _
theorem TN:aI Pg 84 Uz:=xZ Jr ij Be S1 (ac TU an) b9
theorem Zz:aI Pg 25 zh:=mk QR H5 an b9
theorem NF:aI Pg 25 ad7:= @aI.sub Pg 25 zh.pre zh.post H5 oL Zz rfl (λx y h=>ru (b:=8) x y h)
theorem Iy:aI Pg 52 UA:=mk Js q_ (ac NF (ac TN an)) b9
theorem W9:aI Pg 54 XD:=mk Mn s_ an b9
theorem Iz:aI Pg 53 UB:=mk Jt rc (ac W9 an) b9
theorem WN x:kT (nG x) (DL x):=by
 unfold nG DL zL aV bg bp cw dN jd nh ck bx bE aX cK aE cB;with_reducible repeat' first|(refine OI.o ?_;constructor)|intro _
theorem L4:aI Pg 23 XG:=xZ Mq nG DL WN an b9
theorem Fi:aI Pg 55 RA:=mk FY pw an b9
theorem Zy:aI Pg 25 Z2:=mk wv vT an b9
theorem VH:aI Pg 25 ad6:= @aI.ro Pg 25 wv.pre wv.post.vs vT uG (Zy.holds rfl) rfl (λx _ h=>by rw[show uG x=obind (vT x) λy=>same y.2 x (af y.1) from gE (obind _) (funext λ_=>Pa ..)] at h;exact h)
theorem abv x:kT (sU x) (Nd x):=by
 unfold sU Nd He ck bx bE aX cK aE cB;with_reducible repeat' first|(refine OI.o ?_;constructor)|intro _
theorem ace:aI Pg 26 ad4:=xZ zP sU Nd abv (ac D' an) b9
theorem Zv:aI Pg 26 age:= @aI.ro Pg 26 zP.pre zP.post.vs sU Bl (ace.holds rfl) rfl (λx _ h=>by rw[show Bl x=obind (sU x) λy=>same y.2 x.2 (af y.1) from gE (obind _) (funext λ_=>Pa ..)] at h;exact h)
theorem TK:aI Pg 85 Uy:=mk Jq lq (ac Zv an) b9
theorem Zt:aI Pg 86 ZX:=mk QL vQ (ac VH an) b9
theorem WL x:kT (pt x) (DJ x):=by
 unfold pt DJ zJ wH Dr Prod.p12 Prod.p13 Prod.p14 Prod.p15 Prod.p16 Prod.p17 aV bg bp cw dN jd uy wJ Prod.q10 Prod.q16 Prod.q17 Prod.q18 cO mg MM ck be bx jN ve bE aX cK aE cB;with_reducible repeat' first|(refine OI.o ?_;constructor)|intro _
theorem L3:aI Pg 56 XE:=xZ Mo pt DJ WL (ac VH (ac Zv (ac TK (ac Zt an)))) b9
theorem Y3 x:kT (rV x) (HX x):=by
 unfold rV HX Cy wH Dr aV bg bp cw dN jd uy wJ Kk Prod.q12 cO eP nh MM ck bx ve bE aX cK cB;with_reducible repeat' first|(refine OI.o ?_;constructor)|intro _
theorem Zu:aI Pg 24 ZY:=xZ QM rV HX Y3 (ac yI (ac Iy (ac Iz (ac Fi (ac L3 an))))) b9
theorem YY x:kT (tI x) (HW x):=by
 unfold tI HW Cx bx aX cK aE cB;with_reducible repeat' first|(refine OI.o ?_;constructor)|intro _
theorem Zq:aI Pg 16 ZM:=xZ QH tI HW YY (ac ac9 an) b9
theorem DH x:kT (kM x) (qP x):=by
 unfold kM qP rj wH Dr Prod.p12 Prod.p13 Prod.p14 Prod.p15 Prod.p16 Prod.p17 Prod.p18 Prod.p19 aV Prod.p20 bg bp cw dN jd uy wJ Prod.q21 bx bE cK aE cB;with_reducible repeat' first|(refine OI.o ?_;constructor)|intro _
theorem DX:aI Pg 159 Em:=xZ wg kM qP DH an b9
theorem Ky x:kT (ou x) (vg x):=by
 unfold ou vg vo be bx jN bE aX cK aE;with_reducible repeat' first|(refine OI.o ?_;constructor)|intro _
theorem KK:aI Pg 126 K_:=xZ Ao ou vg Ky (ac DX an) b9
theorem S6 x:kT (re x) (Bg x):=by
 unfold re Bg xg be bx bK aX cK aE cB;with_reducible repeat' first|(refine OI.o ?_;constructor)|intro _
theorem TQ:aI Pg 191 UG:=xZ Jv re Bg S6 an b9
theorem K6:aI Pg 160 Lt:=mk AE km (ac TQ an) b9
theorem K5:aI Pg 34 Ls:=mk AD vm (ac D' an) b9
theorem Gl:aI Pg 127 GA:=mk xS sj an b9
theorem Gm:aI Pg 90 GD:=mk xT sk (ac Gl an) b9
theorem zX x:kT (gR x) (nY x):=by
 unfold gR nY oc aV bg bp cw db eP be bx iI bE bK aX cK aE cB;with_reducible repeat' first|(refine OI.o ?_;constructor)|intro _
theorem Ac:aI Pg 88 Ah:=xZ sM gR nY zX an b9
theorem zW x:kT (dI x) (nX x):=by
 unfold dI nX oa aV bg bp bx bE bK kA aX cK aE cB;with_reducible repeat' first|(refine OI.o ?_;constructor)|intro _
theorem Ab:aI Pg 89 Ag:=xZ sL dI nX zW (ac KK an) b9
theorem zV x:kT (fR x) (nW x):=by
 unfold fR nW kC aV bg cw cO bx iI bK aX cK aE cB;with_reducible repeat' first|(refine OI.o ?_;constructor)|intro _
theorem Aa:aI Pg 91 Af:=xZ sJ fR nW zV an b9
theorem zY x:kT (dJ x) (nZ x):=by
 unfold dJ nZ kD aV bg cw cO bx bK aX cK aE cB;with_reducible repeat' first|(refine OI.o ?_;constructor)|intro _
theorem kB:aI Pg 64 Ai:=xZ sN dJ nZ zY (ac Ac (ac Ab (ac Gm (ac Aa an)))) b9
theorem KB x:kT (oy x) (vi x):=by
 unfold oy vi vp aV bg bp bL db cO ck bx bE aX cK aE cB;with_reducible repeat' first|(refine OI.o ?_;constructor)|intro _
theorem KZ:aI Pg 92 Ln:=xZ Az oy vi KB an b9
theorem B9 x:kT (c8 x) (pP x):=by
 unfold c8 pP qd aV bg bp db bx bE bK aX cK aE cB;with_reducible repeat' first|(refine OI.o ?_;constructor)|intro _
theorem mi:aI Pg 65 C':=xZ uS c8 pP B9 (ac KZ an) b9
theorem yn x:kT (cf x) (mB x):=by
 unfold cf mB ka dN mg bx jN bE bK aX cK aE cB;with_reducible repeat' first|(refine OI.o ?_;constructor)|intro _
theorem j_:aI Pg 67 zd:=xZ r8 cf mB yn an b9
theorem tZ:aI Pg 129 JG:=mk yV eU an b9
theorem Gk:aI Pg 130 Gv:=mk xN lK (ac tZ an) b9
theorem M9 x:kT (j8 x) (wU x):=by
 unfold j8 wU sX aV bg bp db bx iI bK aX cK aE cB;with_reducible repeat' first|(refine OI.o ?_;constructor)|intro _
theorem Cr:aI Pg 128 Oc:=xZ C3 j8 wU M9 (ac tZ an) b9
theorem KX:aI Pg 131 Ll:=mk Ax ox (ac K6 an) b9
theorem sq:aI Pg 94 Gw:=mk xO iX (ac Cr (ac tZ (ac Gk (ac KX an)))) b9
theorem DW:aI Pg 93 Ek:=mk v_ kL (ac Cr an) b9
theorem Bn:aI Pg 95 By:=mk uf jv an b9
theorem wT x:kT (eQ x) (lj x):=by
 unfold eQ lj jh aV bg bp cw bL db eP be bx jN bE bK aX cK aE cB;with_reducible repeat' first|(refine OI.o ?_;constructor)|intro _
theorem wZ:aI Pg 96 xr:=xZ ql eQ lj wT an b9
theorem AX x:kT (gk x) (oU x):=by
 unfold gk oU lx aV bg bp cw bL be bx bK aX cK aE cB;with_reducible repeat' first|(refine OI.o ?_;constructor)|intro _
theorem Bm:aI Pg 97 Bx:=xZ ue gk oU AX an b9
theorem Al:aI Pg 166 Lk:=mk Aw mb an b9
theorem ZC:aI Pg 161 zj:=mk QU H7 an b9
theorem acg:aI Pg 161 ad8:= @aI.sub Pg 161 zj.pre zj.post H7 Nh ZC rfl (λx y h=>ru (b:=1) x y h)
theorem Xd:aI Pg 161 wB:=mk Mv DP an b9
theorem ZB:aI Pg 161 Z4:= @aI.sub Pg 161 wB.pre wB.post DP H6 Xd rfl (λx y h=>ru (b:=1) x y h)
theorem Zx:aI Pg 162 zg:=mk QQ H4 an b9
theorem acf:aI Pg 162 ad5:= @aI.sub Pg 162 zg.pre zg.post H4 Ng Zx rfl (λx y h=>ru (b:=24) x y h)
theorem Xb:aI Pg 162 wz:=mk Mt DN an b9
theorem Zw:aI Pg 162 Z1:= @aI.sub Pg 162 wz.pre wz.post DN H3 Xb rfl (λx y h=>ru (b:=24) x y h)
theorem Xc:aI Pg 99 wA:=mk Mu DO an b9
theorem ZA:aI Pg 99 Z3:= @aI.sub Pg 99 wA.pre wA.post DO yB Xc rfl (λx y h=>ru (b:=8) x y h)
theorem KA x:kT (kl x) (vh x):=by
 unfold kl vh rI aV bL ck bx bE bK aX cK cB;with_reducible repeat' first|(refine OI.o ?_;constructor)|intro _
theorem KY:aI Pg 132 Lm:=xZ Ay kl vh KA (ac TU (ac ZB (ac Zw an))) b9
theorem HP x:kT (jA x) (tF x):=by
 unfold jA tF qg aV bg bL ck bx jN kA aX cK aE cB;with_reducible repeat' first|(refine OI.o ?_;constructor)|intro _
theorem Is:aI Pg 137 JH:=xZ yW jA tF HP (ac Al an) b9
theorem B_ x:kT (gK x) (pQ x):=by
 unfold gK pQ ml aV bg bL db ck bx kA aX cK aE cB;with_reducible repeat' first|(refine OI.o ?_;constructor)|intro _
theorem Cq:aI Pg 138 Dc:=xZ uT gK pQ B_ (ac Al an) b9
theorem IA:aI Pg 219 JR:=mk y_ qb an b9
theorem K4:aI Pg 198 Lr:=mk AC vk (ac IA an) b9
theorem D8:aI Pg 202 Ew:=mk wu qY an b9
theorem Iw:aI Pg 164 JM:=mk yZ tQ (ac D8 an) b9
theorem uo x:kT (fM x) (jR x):=by
 unfold fM jR jS ck bx kA cK aE cB;with_reducible repeat' first|(refine OI.o ?_;constructor)|intro _
theorem uq:aI Pg 192 ut:=xZ nU fM jR uo (ac K4 an) b9
theorem zU x:kT (i_ x) (nV x):=by
 unfold i_ nV n_ aV bg be jN bE aE;with_reducible repeat' first|(refine OI.o ?_;constructor)|intro _
theorem z_:aI Pg 163 Ae:=xZ sI i_ nV zU (ac uq an) b9
theorem Xa:aI Pg 133 XK:=mk Ms vS (ac z_ (ac Iw an)) b9
theorem Na x:kT (lw x) (wV x):=by
 unfold lw wV xh be bx bE kA aX cK aE cB;with_reducible repeat' first|(refine OI.o ?_;constructor)|intro _
theorem ND:aI Pg 134 Oq:=xZ C_ lw wV Na an b9
theorem xD:aI Pg 136 Gx:=mk xP oK an b9
theorem HU x:kT (mS x) (tG x):=by
 unfold mS tG uc bx kA aX cK aE cB;with_reducible repeat' first|(refine OI.o ?_;constructor)|intro _
theorem IB:aI Pg 165 JS:=xZ za mS tG HU (ac xD an) b9
theorem F' x:kT (iY x) (sh x):=by
 unfold iY sh su ck be bx bE kA aX cK aE cB;with_reducible repeat' first|(refine OI.o ?_;constructor)|intro _
theorem Gn:aI Pg 135 GF:=xZ xU iY sh F' (ac xD (ac IB an)) b9
theorem Iv:aI Pg 98 JK:=mk mX gL (ac sq (ac KY (ac Is (ac Cq an)))) b9
def tv2 (t:TypeId):Option Ty:=if aB t 167 then af (.pr .un (.pr .un (.pr .un (.pr .un dS)))) else b9 t
theorem It:aI Pg 132 JI:=mk yX mR (ac NF (ac acg (ac acf an))) tv2
theorem Iu:aI Pg 98 JJ:=mk yY kP (ac sq (ac It (ac Xa (ac ND (ac Gn an))))) tv2
theorem K0:aI Pg 98 Lo:=(aI.orE (pre:=mX.pre) (post:=mX.post) (m:=gL) (m':=kP) rfl Iv Iu)
theorem nI:aI Pg 66 El:=mk wa fJ (ac NF (ac DW (ac sq (ac Bn (ac wZ (ac Bm (ac K0 (ac ZA an)))))))) b9
def tv3 (t:TypeId):Option Ty:=if aB t 91 then af (.pr .un (.pr .un pH)) else b9 t
theorem Ba x:kT (dY x) (oY x):=by
 unfold dY oY ly aV bg bp bL cO be bx bE bK aX cK aE cB;with_reducible repeat' first|(refine OI.o ?_;constructor)|intro _
theorem Br:aI Pg 40 BD:=xZ ui dY oY Ba (ac kB (ac mi (ac nI (ac j_ an)))) tv3
def tv4 (t:TypeId):Option Ty:=if aB t 91 then af (.pr .un (.pr .un (.pr .un pH))) else b9 t
theorem A_ x:kT (c9 x) (oX x):=by
 unfold c9 oX jF aV bg bp cw bL db eP be bx bE bK aX cK aE cB;with_reducible repeat' first|(refine OI.o ?_;constructor)|intro _
theorem Bq:aI Pg 40 BB:=xZ uh c9 oX A_ (ac kB (ac mi (ac nI (ac j_ an)))) tv4
def tv5 (t:TypeId):Option Ty:=if aB t 91 then af (.pr .un (.pr .un (.pr .un (.pr .un pH)))) else b9 t
theorem AZ x:kT (dE x) (oW x):=by
 unfold dE oW jE aV bg bp cw dN bL cO eP mg be bx bE bK aX cK aE cB;with_reducible repeat' first|(refine OI.o ?_;constructor)|intro _
theorem Bp:aI Pg 40 BA:=xZ ug dE oW AZ (ac kB (ac mi (ac nI (ac j_ an)))) tv5
def tv6 (t:TypeId):Option Ty:=if aB t 91 then af (.pr .un (.pr .un (.pr .un (.pr .un (.pr .un pH))))) else b9 t
theorem AY x:kT (dX x) (oV x):=by
 unfold dX oV jD aV bg bp cw dN jd bL eP mg nh be bx bE bK aX cK aE cB;with_reducible repeat' first|(refine OI.o ?_;constructor)|intro _
theorem Bo:aI Pg 40 Bz:=xZ eR dX oV AY (ac kB (ac mi (ac nI (ac j_ an)))) tv6
theorem Cm:aI Pg 40 Da:=(aI.orE (pre:=eR.pre) (post:=eR.post) (m:=dX) (m':=(λx=>orE (dE x) ((λx=>orE (c9 x) (dY x)) x))) rfl Bo (aI.orE (pre:=eR.pre) (post:=eR.post) (m:=dE) (m':=(λx=>orE (c9 x) (dY x))) rfl Bp (aI.orE (pre:=eR.pre) (post:=eR.post) (m:=c9) (m':=dY) rfl Bq Br)))
theorem S4 x:kT (pe x) (Bf x):=by
 unfold pe Bf xa aV bL ck bx iI bE bK aX cK aE cB;with_reducible repeat' first|(refine OI.o ?_;constructor)|intro _
theorem TO:aI Pg 17 UC:=xZ Ju pe Bf S4 (ac L4 (ac Zu (ac Cm an))) b9
theorem abu x:kT (Cd x) (Nc x):=by
 unfold Cd Nc NI aV bg bp cw eP bx bE cK aE cB;with_reducible repeat' first|(refine OI.o ?_;constructor)|intro _
theorem acd:aI Pg 32 ad3:=xZ V4 Cd Nc abu an b9
abbrev Lf1:List PB:=[.cells 34 [.d oe],.cells 74 [.d Kf0],.rows 77 aj iE,.rows 57 ai iE,.cells 52 [.d jM]]
abbrev Lf4:List PB:=[.cells 34 [.d oe]]
abbrev Lf5:List PV:=[.ptr 0 0,.ptr 1 0,.row 2,.row 3,.ptr 4 0]
abbrev Lf6:List PB:=[.cells 34 [.d oe],.cells 74 [.d Kf0],.rows 77 aj iE,.rows 57 ai iE]
abbrev Lf7:List PB:=[.cells 34 [.d oe],.cells 52 [.d jM]]
abbrev Lf8:List PV:=[.ptr 0 0,.ptr 1 0,.row 2,.row 3,.ptr 4 0,.d .bool]
def Mp:FT:=⟨⟨[.d ne,.d Kd0,.d jM],[]⟩,⟨[.agg [.row 1,.d ku,.d ku,.d ku,.d ku,.d ku,.d (.sl aM),.d ku,.d (.sl aM)],.row 0],[.rows 3 aj aM,.rows 50 aj (.sl aM)]⟩,dP [(14,(.j ⟨[22,23],[3,5,6,7,24],⟨[.ptr 0 0,.ptr 1 0,.ptr 2 0,.ptr 3 0,.d aM],[.cells 31 Ld3,.cells 52 Ld4,.cells 62 [.row 4,.row 5,.row 6,.row 7,.row 8,.row 9,.d (.sl aM),.row 10,.row 11],.cells 50 qw,.rows 50 aj (.sl aM),.rows 50 aj (.sl aM),.rows 50 aj (.sl aM),.rows 50 aj (.sl aM),.rows 50 aj (.sl aM),.rows 50 aj (.sl aM),.rows 50 aj (.sl aM),.rows 3 ai aM]⟩,[]⟩))]⟩
def XF:cu:=cn Mp pu
def wh:FT:=⟨⟨[.d ne,.d jM],[]⟩,⟨[.d .bool],[]⟩,dP [(2,(.j ⟨[],[4],⟨[.d .bool],[]⟩,[]⟩))]⟩
def Eo:cu:=cn wh nl
def Fl:FT:=⟨⟨[.d oe],[]⟩,⟨[.d ku,.d ku,.d aM],[]⟩,dP [(24,(.j ⟨[34,35],[1,2,3,7,8,36],⟨[.ptr 0 0,.row 1,.row 2,.ptr 3 0,.mp 4,.d aM],[.cells 34 [.d oe],.rows 50 aj (.sl aM),.rows 50 aj (.sl aM),.cells 62 [.d ku,.d ku,.d ku,.d ku,.d ku,.d ku,.d (.sl aM),.d ku,.d (.sl aM)],.mp aM aM]⟩,[.mpt 8 aM aM]⟩)),(41,(.j ⟨[34,35,36],[1,2,3,7,8],⟨[.ptr 0 0,.row 1,.row 2,.ptr 3 0,.mp 4],[.cells 34 [.d oe],.rows 50 aj (.sl aM),.rows 50 aj (.sl aM),.cells 62 [.row 5,.d ku,.d ku,.d ku,.d ku,.d ku,.d (.sl aM),.d ku,.d (.sl aM)],.mp aM aM,.rows 50 aj (.sl aM)]⟩,[.mpt 8 aM aM]⟩))]⟩
def QV:cu:=cn Fl kX
def I3:FT:=⟨⟨[.d oe],[]⟩,⟨[.d (.sl iE),.d aM],[]⟩,dP [(22,(.j ⟨[4,29,30],[1,7,8,9,31],⟨[.ptr 0 0,.ptr 1 0,.row 2,.row 3,.d aM],Lf6⟩,[.nil 9 57 iE]⟩)),(30,(.j ⟨[4,29,30,31],[1,7,8,9],⟨[.ptr 0 0,.ptr 1 0,.row 2,.row 3],Lf6⟩,[]⟩)),(33,(.j ⟨[4,10,29,30,31],[1,7,8,9,11],⟨Lf5,Lf1⟩,[]⟩)),(34,(.s 11 0 0 4)),(35,(.j ⟨[4,10,29,30,31],[1,7,8,9,11],⟨Lf5,Lf1⟩,[]⟩)),(36,(.s 11 0 0 4)),(46,(.j ⟨[4,10,29,30,31,60,61],[1,7,8,9,11,62],⟨[.ptr 0 0,.ptr 1 0,.row 2,.row 3,.ptr 4 0,.d aM],Lf1⟩,[]⟩)),(54,(.j ⟨[4,10,29,30,31,60,61,62],[1,7,8,9,11],⟨Lf5,Lf1⟩,[]⟩)),(57,(.j ⟨[4,10,12,29,30,31,60,61,62],[1,7,8,9,11,14],⟨Lf8,Lf1⟩,[]⟩)),(59,(.j ⟨[4,10,12,29,30,31,60,61,62],[1,7,8,9,11,107],⟨Lf8,Lf1⟩,[]⟩))]⟩
def T3:cu:=cn I3 tH
def C6:FT:=⟨⟨[],[]⟩,⟨[.d .bool],[]⟩,dP [(6,(.j ⟨[],[0],⟨[.d .bool],[]⟩,[]⟩))]⟩
def Oi:cu:=cn C6 sS
def xR:FT:=⟨⟨[.d Kf1],[]⟩,⟨[.d .bool],[]⟩,dP [(7,(.j ⟨[5],[3,27],⟨gV,Lf4⟩,[]⟩)),(18,(.j ⟨[5,29,30],[3,31],⟨vy,Lf4⟩,[]⟩)),(31,(.j ⟨[5,29,30,31],[3],⟨[.ptr 0 0],Lf4⟩,[]⟩)),(32,(.j ⟨[5,7,29,30,31],[3,8,9],⟨uw,Lf7⟩,[]⟩)),(34,(.j ⟨[5,7,9,29,30,31],[3,8,44],⟨qF,Lf7⟩,[]⟩)),(42,(.j ⟨[5,7,9,29,30,31],[3,8,64],⟨qF,Lf7⟩,[]⟩))]⟩
def Gz:cu:=cn xR lM
theorem WM x:kT (pu x) (DK x):=by
 unfold pu DK zK wH Dr aV bg bp cw dN jd uy wJ Kk Prod.q12 cO eP nh MM ck bx ve bE aX cK cB;with_reducible repeat' first|(refine OI.o ?_;constructor)|intro _
theorem W_:aI Pg 24 XF:=xZ Mp pu DK WM (ac yI (ac Iy (ac Iz (ac Fi (ac L3 an))))) b9
theorem DY:aI Pg 33 Eo:=mk wh nl an b9
theorem Pq x:kT (kX x) (yr x):=by
 unfold kX yr uO aV bg bp cO ck be bx iI bK kA aX cK aE cB;with_reducible repeat' first|(refine OI.o ?_;constructor)|intro _
theorem E_:aI Pg 9 QV:=xZ Fl kX yr Pq (ac TO (ac L4 (ac W_ (ac TU (ac yI an))))) b9
theorem SX x:kT (tH x) (Bc x):=by
 unfold tH Bc Bt aV bg bp cw dN jd bL db cO ck be bx iI bE bK kA aX cK aE cB;with_reducible repeat' first|(refine OI.o ?_;constructor)|intro _
theorem Th:aI Pg 13 T3:=xZ I3 tH Bc SX (ac E_ (ac DY (ac K5 an))) b9
theorem NC:aI Pg 12 Oi:=mk C6 sS (ac Th (ac acd an)) b9
theorem hlaw25_ShbReads:aI Pg 5 Gz:=mk xR lM (ac DZ (ac E_ (ac NC (ac Zq an)))) b9
theorem run_law {P:Program} {f:FuncId} {pre:Tm} {m:pre.ty.den->Option (Tm.ty ⟨[.d .bool],[]⟩).den} (sp:pB P f ⟨pre,⟨[.d .bool],[]⟩,m⟩) (h0:pre.bs.length=0) {x:pre.ty.den} (M:m x=af ai) {vs:List TV} {hp:bf} (hi:Cl pre x=af (vs,hp)) {la:List AV} (hla:cH hp vs=af la)
 {W:World} {us:List Value} (hg:∀ g cells,G g=af cells->mZ (λ_=>False) W (.ptr cells 0) (.pointer (af ⟨g,0,ah⟩))) (hrel:jT (λ_=>ah) (λ_=>False) W la us):
 Calls P f us.toArray W λe w'=>e= .returned (.bool ai)/\Below W.heap.size W w':=by
 obtain⟨l1,I⟩:=vX hi;obtain⟨l2,J⟩:=vX (t:=⟨[.d .bool],[]⟩) (x:=ai) (vs:=[.f .bool ai]) (h1:=PT.leaf) rfl;have hn:bz hp=λ_=>ah:=by
  funext n;cases hb:bz hp n with
  |none=>rfl
  |some b=>
   obtain⟨i,c,rfl,h1,_⟩:=js hb;have:=I.lt_len h1;omega
 have own0:∀ (φ:PM) k,¬own φ (bz hp) k:=by rintro φ k ⟨i,b,h1,_⟩;rw[hn] at h1;cases h1
 have htot:tot (λ_=>False) (λ_=>ah) (bz hp)=λ_=>False:=by
  funext k;exact propext ⟨λh=>h.elim id λh=>cU h (own0 _ k),λh=>h.elim⟩
 refine Calls.mono (sp.calls x ai M vs hp l1 _ PT.leaf l2 la _ I J hla rfl (λ_=>ah) (λ_=>False) W us ⟨(λi j b b' k h1=>by rw[hn] at h1;cases h1),(λi b h1=>by rw[hn] at h1;cases h1),(λk h=>h.elim),(λg cells h=>by rw[htot];exact hg g cells h)⟩ (by rw[htot];exact hrel) (λn k h=>by cases h)) ?_;rintro en w' ⟨v,φ',rfl,he,_,_,_,hv⟩;refine ⟨?_,⟨he.os,he.tape,he.output,he.size,λk hk=>he.blk k hk (own0 _ k)⟩⟩;have hv:cI φ' _ w' (.f (.raw (.bool ai))) v:=hv;cases hv with
 |f h=>cases h;rfl
theorem gKw:Tryz.prog.globalNamed "interleave/token.keywords" =af 0:=by kernel_rfl
theorem tKw:(Tryz.prog.globals[0]?).map (·.type)=af 269:=by kernel_rfl
theorem kw_of_laid {W:World} (h:laidMetH Tryz.prog [("interleave/token.keywords",Rows.laid_interleave_token_keywords)] W):∀ g cells,G g=af cells→mZ (λ_=>False) W (.ptr cells 0) (.pointer (af ⟨g,0,ah⟩)):=by
 intro g cells U;unfold G at U;split at U
 .rename_i hg;have hg:=eq_of_beq hg;subst hg;cases U;rw[MakeChecks.laidMetH_plain _ _ _ (by kernel_rfl)] at h;obtain⟨ps,⟨g0,t0,cs0,f0,p0,q0,M,Z,Y,hd0,_,_⟩,_,_⟩:=h;obtain rfl:=jP (gKw.symm.trans M);obtain rfl:=jP (tKw.symm.trans Z);obtain⟨xs,m1,rfl,J,hlen,hn,hel⟩:=DataW.trod_array Tryz.underlying269 hd0;have c1:Tryz.prog.cellsOf 9=1:=by kernel_rfl
  have c22:Tryz.prog.cellsOf 269=22:=by kernel_rfl
  rw[c22] at hlen;simp only[aD,Rows.laid_interleave_token_keywords,DataW.agg.injEq] at J;have hxs:=J.1;have hcell:∀ j,j<22→∃ l,(xs.map (·.1))[j]? =af (.lit (.string l))∧W.cell? ⟨0,j,ah⟩=af (.string ⟨l.toArray⟩):=λj hj=>by
   have h1:=hel j hj;rw[c1,Nat.mul_one] at h1;rw[aA (by omega)] at h1;obtain⟨s,e1,e2,_⟩:=DataW.trod_string Tryz.underlying9 h1;refine ⟨s.data.toList,?_,?_⟩
   .rw[ba,aA (by omega),b_,e2]
   .have:=World.var?_cell M Y j;rw[this];have h2:cs0.toList[j]? =af (.string s):=by
     have:((cs0.toList.drop j).take 1)[0]? =af (.string s):=by rw[e1];rfl
     rw[cM,aF (by omega),gQ] at this;simpa using this
    rw[← cF,h2]
  have hb:0<W.heap.size:=by
   obtain⟨l,_,h2⟩:=hcell 0 (by omega);exact World.block_lt_of_cell? W _ h2
  refine .ptr Cf 0 0 0 (λj=>(W.cell? ⟨0,j,ah⟩).getD undef) (λh=>h) hb (λx I=>?_) (λj hj=>?_) (λj x I=>?_)
  .simp only[Cf,bi,cr,fY] at I;rcases I with rfl|rfl|rfl|rfl|rfl|rfl|rfl|rfl|rfl|rfl|rfl|rfl|rfl|rfl|rfl|rfl|rfl|rfl|rfl|rfl|rfl|rfl<;>rfl
  .obtain⟨l,_,h2⟩:=hcell j hj;rw[bN,h2];rfl
  .have hj:j<22:=(bh.1 I).1;obtain⟨l,h1,h2⟩:=hcell j hj;rw[← hxs] at h1;have:x= .raw (.string ⟨l.toArray⟩):=by
    rcases j with _|_|_|_|_|_|_|_|_|_|_|_|_|_|_|_|_|_|_|_|_|_|j;all_goals first|(simp only[qC,List.getElem?_cons_succ,ak,DataW.lit.injEq,Lit.string.injEq,Cf] at h1 I;subst h1;subst I;rfl)|omega
   rw[this,h2];exact .raw _
 .cases U
end
end Go.Proofs.YtgijlolllojpaaaGreatDoor.AI
