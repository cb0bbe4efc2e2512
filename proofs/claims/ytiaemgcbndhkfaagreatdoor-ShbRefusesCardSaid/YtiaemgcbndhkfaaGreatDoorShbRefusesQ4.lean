/-
  Texts of the proof, part 5 of 6: what is used to prove the statement. No condition.
-/
import Derived.Test.YtiaemgcbndhkfaaGreatDoorShbRefusesQ3
import Derived.Deep.Slices
import Derived.OpenShut
import Derived.Below
import Derived.KernelRfl
import Derived.Test.YtiaemgcbndhkfaaGreatDoorProg
import Derived.Recover
namespace Go.Proofs.YtiaemgcbndhkfaaGreatDoor.AI
open Go.RowKit
set_option maxRecDepth 100000
set_option maxHeartbeats 4000000
set_option linter.unusedVariables false
set_option linter.unusedSimpArgs false
open Act renaming put→M2
open _root_.Array renaming replicate→om
open _root_.Bool renaming true→M,false→aa
open Call renaming operands→dO
open _root_.Int renaming ofNat_eq_natCast→aj,toNat→aP,ofNat→aU,tmod→bp,toNat_natCast→cO
open _root_.List renaming length→ah,replicate→aA,take→cM,length_singleton→cS,range→fm,cons_append→gZ,length_nil→jX,getElem?_cons_zero→lG,nil_append→oh,replicate_succ→pU,take_succ_cons→vb
open _root_.Nat renaming beq→aw,testBit→aO,add_zero→dh,ble→dN,blt→eS
open Oper renaming wp→G0
open _root_.Option renaming some→Z,none→U,bind_some→aD,map_some→bU,map→l7,getD_some→uo
open _root_.Prod renaming p2→aV,p3→ba,p4→bk,q3→bn,p5→bO,q5→ci,q4→cC,p6→cU,q6→dx,p7→fM,q7→gI,q8→lB,p8→ry,p10→ub,p9→um,p11→ze,q9→GZ,q11→Kj
open Region renaming wanted→iJ
open Result renaming andThen_ok→cJ
open Sem renaming run_bind→eA,run_pure→oM
open _root_.Sum renaming inr→bZ,inl→oL
open Value renaming okWide→GW
open World renaming cell?→M0
noncomputable section
theorem Qn {σ:PT Nat} {i a:Nat} (h:σ.get i=Z a):hZ σ i=a:=by unfold hZ;rw[h]
theorem U5 {σ:PT Nat}:∀(n i acc sm:Nat),YD σ n i acc=Z sm->
 (∀k,k<n->aO acc (hZ σ (i+k))=aa)/\(∀a b,a<n->b<n->hZ σ (i+a)=hZ σ (i+b)->a=b)/\∀q,aO sm q=M↔aO acc q=M\/∃k,k<n/\hZ σ (i+k)=q
 |0,i,acc,sm,h=>by
  simp only[YD,af]at h;subst h;exact⟨λk hk=>by omega,λa b s=>by omega,λq=>⟨.inl,λhq=>hq.elim id λ⟨k,hk,_⟩=>by omega⟩⟩
 |n+1,i,acc,sm,h=>by
  simp only[YD]at h;split at h
  .rename_i a s;split at h
   .cases h
   .rename_i hna;have hna:aO acc a=aa:=by simpa using hna
    have hga:=Qn s;obtain⟨h1,h2,z⟩:=U5 n (i+1) (acc|||ku a) sm h;have hne:∀k,k<n->hZ σ (i+1+k)≠a/\aO acc (hZ σ (i+1+k))=aa:=λk hk=>by
     have:=h1 k hk;rw[bw,Bool.or_eq_false_iff]at this;refine ⟨λe=>?_,this.1⟩;have d:=this.2;rw[e]at d;rw[bW.2 rfl]at d;cases d
    refine ⟨λk hk=>?_,λx y D A hxy=>?_,λq=>?_⟩
    .cases k with
     |zero=>rw[dh,hga];exact hna
     |succ k=>rw[show i+(k+1)=i+1+k from by omega];exact (hne k (by omega)).2
    .cases x with
     |zero=>
      cases y with
      |zero=>rfl
      |succ y=>
       rw[dh,hga,show i+(y+1)=i+1+y from by omega]at hxy;exact dP hxy.symm (hne y (by omega)).1
     |succ x=>
      cases y with
      |zero=>
       rw[show i+0=i from rfl,hga,show i+(x+1)=i+1+x from by omega]at hxy;exact dP hxy (hne x (by omega)).1
      |succ y=>
       rw[show i+(x+1)=i+1+x from by omega,show i+(y+1)=i+1+y from by omega]at hxy;have:=h2 x y (by omega) (by omega) hxy;omega
    .rw[z,bw,iQ];constructor
     .rintro ((hq|hq)|⟨k,hk,hq⟩)
      .exact .inl hq
      .exact .inr ⟨0,by omega,by rw[dh,hga];exact bW.1 hq⟩
      .exact .inr ⟨k+1,by omega,by rw[show i+(k+1)=i+1+k from by omega];exact hq⟩
     .rintro (hq|⟨k,hk,hq⟩)
      .exact .inl (.inl hq)
      .cases k with
       |zero=>rw[dh,hga]at hq;exact .inl (.inr (bW.2 hq))
       |succ k=>exact .inr ⟨k,by omega,by rw[show i+1+k=i+(k+1) from by omega];exact hq⟩
  .cases h
theorem Qu {σ:PT Nat}:∀(n:Nat),Vt σ n=M->∀i,i<n->hZ σ i=i
 |0,_,i,hi=>by omega
 |n+1,h,i,hi=>by
  simp only[Vt,ak]at h;by_cases e:i=n
  .subst e;cases d:σ.get i with
   |none=>rw[d]at h;exact dP h.1 (by simp)
   |some a=>rw[d]at h;rw[Qn d];exact au h.1
  .exact Qu n h.2 i (by omega)
structure Hp (np:Nat) (t:Tm) (vs:List TV) (h:bl) (z:t.ty.den) (m:Nat) (σ:PT Nat) (sm:Nat):Prop where
 ex:∃x m1 y m2,z=S6 _ _ x y/\m=m1|||m2/\xm (hZ σ) h t.vs vs=Z (x,m1)/\Ad (hZ σ) h 0 t.bs=Z (y,m2)
 inj:∀a b,a<t.bs.length->b<t.bs.length->hZ σ a=hZ σ b->a=b
 sig:∀q,aO sm q=M↔∃k,k<t.bs.length/\hZ σ k=q
 disj:∀i,aO m i=M->aO sm i=aa
 fix:∀i,i<np->hZ σ i=i
theorem vy {np:Nat} {t:Tm} {vs:Y TV} {h:bl} {z:t.ty.den} {m:Nat} {σ:PT Nat} {sm:Nat} (hm:Dv np t vs h=Z ⟨z,m,σ,sm⟩):Hp np t vs h z m σ sm:=by
 unfold Dv at hm;rw[NU]at hm;split at hm
 .rename_i sm' hs;split at hm
  .rename_i x m1 h1;split at hm
   .rename_i y m2 h2;split at hm
    .rename_i hc;simp only[ak]at hc;simp only[af,af1.mk.injEq]at hm;obtain⟨rfl,rfl,rfl,rfl⟩:=hm;obtain⟨A,s,d⟩:=U5 _ _ _ _ hs;simp only[bL]at A s d;exact⟨⟨x,m1,y,m2,rfl,rfl,h1,h2⟩,s,λq=>by rw[d];simp,λi hi=>wS hc.1 i hi,Qu np hc.2⟩
    .cases hm
   .cases hm
  .cases hm
 .cases hm
mutual
theorem yC {g:Nat->Nat} {h:bl}:∀(p:PV) (l:Y TV) (x:p.ty.den) (m:Nat) (r:Y TV),px g h p l=Z (x,m,r)->dK h m
 |.d T,l,x,m,r,hg=>uw 40 T l x m r hg
 |.ptr i q,l,x,m,r,hg=>by
  simp only[px]at hg;split at hg
  .split at hg
   .simp only[af,aC]at hg;obtain⟨_,rfl,_⟩:=hg;exact dK.zero h
   .cases hg
  .cases hg
 |.csl i q z,l,x,m,r,hg=>by
  simp only[px]at hg;split at hg
  .split at hg
   .simp only[af,aC]at hg;obtain⟨_,rfl,_⟩:=hg;exact dK.zero h
   .cases hg
  .cases hg
 |.clo q i z,l,x,m,r,hg=>by
  simp only[px]at hg;split at hg
  .split at hg
   .simp only[af,aC]at hg;obtain⟨_,rfl,_⟩:=hg;exact dK.zero h
   .cases hg
  .cases hg
 |.row i,l,x,m,r,hg=>by
  simp only[px]at hg;split at hg
  .split at hg
   .simp only[af,aC]at hg;obtain⟨_,rfl,_⟩:=hg;exact dK.zero h
   .cases hg
  .cases hg
 |.mp i,l,x,m,r,hg=>by
  simp only[px]at hg;split at hg
  .split at hg
   .simp only[af,aC]at hg;obtain⟨_,rfl,_⟩:=hg;exact dK.zero h
   .cases hg
  .cases hg
 |.nil,l,x,m,r,hg=>by
  simp only[px]at hg;split at hg
  .simp only[af,aC]at hg;obtain⟨_,rfl,_⟩:=hg;exact dK.zero h
  .cases hg
 |.emp,l,x,m,r,hg=>by
  simp only[px]at hg;split at hg
  .simp only[af,aC]at hg;obtain⟨_,rfl,_⟩:=hg;exact dK.zero h
  .simp only[af,aC]at hg;obtain⟨_,rfl,_⟩:=hg;exact dK.zero h
  .cases hg
 |.agg ps,l,x,m,r,hg=>Hf ps l x m r hg
theorem Hf {g:Nat->Nat} {h:bl}:∀(ps:Y PV) (l:Y TV) (x:(PV.tyL ps).den) (m:Nat) (r:Y TV),yB g h ps l=Z (x,m,r)->dK h m
 |[],l,x,m,r,hg=>by
  simp only[yB,af,aC]at hg;obtain⟨_,rfl,_⟩:=hg;exact dK.zero h
 |p::ps,l,x,m,r,hg=>by
  simp only[yB]at hg;split at hg
  .rename_i x1 m1 r1 h1;split at hg
   .rename_i x2 m2 r2 h2;simp only[af,aC]at hg;obtain⟨_,rfl,_⟩:=hg;exact (yC p l x1 m1 r1 h1).or (Hf ps r1 _ _ _ h2)
   .cases hg
  .cases hg
end
theorem afl {g:Nat->Nat} {h:bl} {p:PV} {v:TV} {x:p.ty.den} {m:Nat} (hg:wG g h p v=Z (x,m)):dK h m:=by
 cases p with
 |d T=>exact VU hg
 |agg ps=>
  simp only[wG]at hg;split at hg
  .cases hg
  .split at hg
   .split at hg
    .rename_i x1 m1 h1;simp only[af,aC]at hg;obtain⟨_,rfl⟩:=hg;exact Hf ps _ _ _ _ h1
    .cases hg
   .cases hg
 |ptr i q=>
  simp only[wG]at hg;split at hg
  .rename_i h1;simp only[af,aC]at hg;obtain⟨_,rfl⟩:=hg;exact yC _ _ _ _ _ h1
  .cases hg
 |csl i q z=>
  simp only[wG]at hg;split at hg
  .rename_i h1;simp only[af,aC]at hg;obtain⟨_,rfl⟩:=hg;exact yC _ _ _ _ _ h1
  .cases hg
 |clo q i z=>
  simp only[wG]at hg;split at hg
  .rename_i h1;simp only[af,aC]at hg;obtain⟨_,rfl⟩:=hg;exact yC _ _ _ _ _ h1
  .cases hg
 |row i=>
  simp only[wG]at hg;split at hg
  .rename_i h1;simp only[af,aC]at hg;obtain⟨_,rfl⟩:=hg;exact yC _ _ _ _ _ h1
  .cases hg
 |mp i=>
  simp only[wG]at hg;split at hg
  .rename_i h1;simp only[af,aC]at hg;obtain⟨_,rfl⟩:=hg;exact yC _ _ _ _ _ h1
  .cases hg
 |nil=>
  simp only[wG]at hg;split at hg
  .rename_i h1;simp only[af,aC]at hg;obtain⟨_,rfl⟩:=hg;exact yC _ _ _ _ _ h1
  .cases hg
 |emp=>
  simp only[wG]at hg;split at hg
  .rename_i h1;simp only[af,aC]at hg;obtain⟨_,rfl⟩:=hg;exact yC _ _ _ _ _ h1
  .cases hg
theorem He {g:Nat->Nat} {h:bl}:∀(ps:Y PV) (vs:Y TV) (x:(PV.tyL ps).den) (m:Nat),xm g h ps vs=Z (x,m)->dK h m
 |[],[],x,m,hg=>by simp only[xm,af,aC]at hg;obtain⟨_,rfl⟩:=hg;exact dK.zero h
 |[],_::_,x,m,hg=>by simp[xm]at hg
 |_::_,[],x,m,hg=>by simp[xm]at hg
 |p::ps,v::vs,x,m,hg=>by
  simp only[xm]at hg;split at hg
  .rename_i x1 m1 h1;split at hg
   .rename_i x2 m2 h2;simp only[af,aC]at hg;obtain⟨_,rfl⟩:=hg;exact (afl h1).or (He ps vs x2 m2 h2)
   .cases hg
  .cases hg
theorem afm {g:Nat->Nat} {h:bl} {i:Nat} {b:PB} {x:b.ty.den} {m:Nat} (hg:DW g h i b=Z (x,m)):dK h m:=by
 cases b with
 |rows ty p T=>
  simp only[DW]at hg;split at hg
  .split at hg
   .split at hg
    .simp only[af,aC]at hg;obtain⟨_,rfl⟩:=hg;exact dK.zero h
    .cases hg
   .cases hg
  .cases hg
 |rowsP ty T=>
  simp only[DW]at hg;split at hg
  .split at hg
   .split at hg
    .simp only[af,aC]at hg;obtain⟨_,rfl⟩:=hg;exact dK.zero h
    .cases hg
   .cases hg
  .cases hg
 |cells ty ps=>
  simp only[DW]at hg;split at hg
  .split at hg
   .split at hg
    .rename_i h1;simp only[af,aC]at hg;obtain⟨_,rfl⟩:=hg;exact Hf ps _ _ _ _ h1
    .cases hg
   .cases hg
  .cases hg
 |mp K V=>
  simp only[DW]at hg;split at hg
  .split at hg
   .simp only[af,aC]at hg;obtain⟨_,rfl⟩:=hg;exact dK.zero h
   .cases hg
  .cases hg
 |gone=>simp only[DW,af,aC]at hg;obtain⟨_,rfl⟩:=hg;exact dK.zero h
theorem Hg {g:Nat->Nat} {h:bl}:∀(bs:Y PB) (i:Nat) (x:(PB.tyL bs).den) (m:Nat),Ad g h i bs=Z (x,m)->dK h m
 |[],i,x,m,hg=>by simp only[Ad,af,aC]at hg;obtain⟨_,rfl⟩:=hg;exact dK.zero h
 |b::r,i,x,m,hg=>by
  simp only[Ad]at hg;split at hg
  .rename_i x1 m1 h1;split at hg
   .rename_i x2 m2 h2;simp only[af,aC]at hg;obtain⟨_,rfl⟩:=hg;exact (afm h1).or (Hg r (i+1) x2 m2 h2)
   .cases hg
  .cases hg
structure qD (t:Tm) (x:t.ty.den) (vs:List TV) (h1:bl) (l1:List (Option ia)):Prop where
 pv:pY Ha t.vs (NT _ _ x)=Z vs
 pb:ou Ha t.bs (Kx _ _ x)=Z l1
 len:l1.length=t.bs.length
 at_:∀i b,h1.get i=Z b↔l1[i]? =Z (Z b)
 ok:kU h1 vs=M
 lt:rf t.bs.length vs=M
 cells:∀i ty l,h1.get i=Z (.cells ty l)->kU h1 l=M/\rf t.bs.length l=M
theorem Y8 (l:Y (J ia)) (i:Nat) (b:ia):(zN Ha 0 l PT.leaf).get i=Z b↔l[i]? =Z (Z b):=by
 by_cases hi:i<l.length
 .obtain⟨c,hc⟩:∃c,l[i]? =Z c:=⟨l[i],ax hi⟩
  have:=uz Ha l 0 PT.leaf (λa b _ _ e=>by simp only[Ha]at e;omega) i c hc;rw[show Ha (0+i)=i from by simp only[Ha];omega]at this;rw[this,hc];cases c with
  |some b'=>simp
  |none=>simp[PT.get]
 .rw[uy Ha l 0 PT.leaf i (λk hk=>by simp only[Ha];omega),bJ (by omega)];simp[PT.get]
theorem vD {t:Tm} {x:t.ty.den} {vs:Y TV} {h1:bl} (hi:B6 t x=Z (vs,h1)):∃l1,qD t x vs h1 l1:=by
 unfold B6 at hi;split at hi
 .rename_i us hus;split at hi
  .rename_i h hh;split at hi
   .rename_i hc;simp only[ak]at hc;simp only[af,aC]at hi;obtain⟨rfl,rfl⟩:=hi;unfold LX at hh;split at hh
    .rename_i l1 d;simp only[af]at hh;refine ⟨l1,hus,d,BP _ _ _ _ d,λi b=>?_,hc.1.1,hc.1.2,λi ty l hil=>?_⟩
     .rw[<- hh];exact Y8 l1 i b
     .have:=PT.get_all _ h 1 0 i _ hc.2 hil;simpa only[ak] using this
    .cases hh
   .cases hi
  .cases hi
 .cases hi
def Va (nb:Nat) (n:Nat):Bool:=n%2==0&&eS (n/2) nb
theorem AF {nb i:Nat}:Va nb (nm i)=M↔i<nb:=by
 unfold Va nm;rw[show 2*i%2=0 from by omega,show 2*i/2=i from by omega];simp only[cQ,kO];exact⟨λh=>a_ h,λh=>bt h⟩
theorem YO {nb n:Nat} (h:Va nb n=M):∃i,i<nb/\n=nm i:=by
 unfold Va at h;simp only[ak,cR]at h;exact⟨n/2,a_ h.2,by unfold nm;omega⟩
mutual
theorem afh {nb:Nat} {h:bl}:∀(v:TV) (y:AV),KJ nb v=M->b_ h v=Z y->y.all (Va nb)=M
 |.f _ _,y,_,he=>by simp only[b_,af]at he;subst he;rfl
 |.fel _ _ _ _ _,y,_,he=>by simp only[b_,af]at he;subst he;rfl
 |.pel id _ _ _,y,hl,he=>by simp only[b_,af]at he;subst he;exact AF.2 (a_ hl)
 |.ptr id _,y,hl,he=>by simp only[b_,af]at he;subst he;exact AF.2 (a_ hl)
 |.csl id _ _,y,hl,he=>by simp only[b_,af]at he;subst he;exact AF.2 (a_ hl)
 |.row id,y,hl,he=>by
  simp only[b_]at he;split at he
  .simp only[af]at he;subst he;unfold fd;split
   .rfl
   .exact AF.2 (a_ hl)
  .cases he
 |.rtl id jj,y,hl,he=>by
  simp only[b_]at he;split at he
  .simp only[af]at he;subst he;exact AF.2 (a_ hl)
  .cases he
 |.emp,y,_,he=>by simp only[b_,af]at he;subst he;rfl
 |.nil,y,_,he=>by simp only[b_,af]at he;subst he;rfl
 |.mp id,y,hl,he=>by simp only[b_,af]at he;subst he;exact AF.2 (a_ hl)
 |.agg l,y,hl,he=>by
  simp only[b_]at he;split at he
  .rename_i l' hl';simp only[af]at he;subst he;exact rG l l' hl hl'
  .cases he
 |.tup l,y,hl,he=>by
  simp only[b_]at he;split at he
  .rename_i l' hl';simp only[af]at he;subst he;exact rG l l' hl hl'
  .cases he
 |.clo q l,y,hl,he=>by
  simp only[b_]at he;split at he
  .rename_i l' hl';simp only[af]at he;subst he;exact rG l l' hl hl'
  .cases he
 |.undef,y,_,he=>by simp only[b_,af]at he;subst he;rfl
 |.np,y,_,he=>by simp only[b_,af]at he;subst he;rfl
 |.anyb,y,_,he=>by simp only[b_,af]at he;subst he;rfl
 |.ful _ _,y,_,he=>by simp only[b_,af]at he;subst he;rfl
theorem rG {nb:Nat} {h:bl}:∀(l:Y TV) (l':Y AV),rf nb l=M->cD h l=Z l'->AV.allL (Va nb) l'=M
 |[],l',_,he=>by simp only[cD,af]at he;subst he;rfl
 |x::r,l',hl,he=>by
  obtain⟨y,l2,rfl,e1,e2⟩:=cW he;simp only[rf,ak]at hl;simp only[AV.allL,ak];exact⟨afh x y hl.1 e1,rG r l2 hl.2 e2⟩
end
theorem qD.blk_all {t:Tm} {x:t.ty.den} {vs:Y TV} {h1:bl} {l1:Y (J ia)} (I:qD t x vs h1 l1) {i:Nat} {b:ia} (hb:h1.get i=Z b) {y:u_} (d:jB h1 b=Z y):y.c.all (Va t.bs.length)=M:=by
 cases b with
 |rows ty p T xs=>
  simp only[jB]at d;split at d
  .cases d
  .simp only[af]at d;subst d;rfl
 |cells ty l=>
  cases ty with
  |some ty=>
   simp only[jB]at d;split at d
   .rename_i q hl;simp only[af]at d;subst d;exact rG l q (I.cells i _ l hb).2 hl
   .cases d
  |none=>
   simp only[jB]at d;split at d
   .rename_i q hl;simp only[af]at d;subst d;show AV.allL _ ((oG 0 q).map (·.2))=M;rw[L_];exact rG l q (I.cells i _ l hb).2 hl
   .cases d
 |dead p sz n=>cases d
 |mp K V es=>
  simp only[jB,af]at d;subst d;show BC.all _ (Y1 K V es)=M;unfold Y1;split
  .rfl
  .simp only[BC.all,G2];have key:∀l:Y (K.den×V.den),AV.allL (Va t.bs.length) (l.map ((λx=>x.2)∘λp=>(pK K p.1,AV.f (gh V p.2))))=M:=λl=>by
    induction l with
    |nil=>rfl
    |cons e r s=>simp only[fb,AV.allL,ak];exact⟨rfl,s⟩
   exact key es
theorem qD.lt_len {t:Tm} {x:t.ty.den} {vs:Y TV} {h1:bl} {l1:Y (J ia)} (I:qD t x vs h1 l1) {i:Nat} {b:ia} (hb:h1.get i=Z b):i<t.bs.length:=by
 rw[<- I.len];exact (bm.1 ((I.at_ i b).1 hb)).1
def φ1 (nb:Nat) (g:Nat->Nat) (φ:PM):PM:=λn=>if Va nb n then φ (Hh g n) else U
theorem Yo {nb:Nat} {g:Nat->Nat} {φ:PM} {i:Nat} (hi:i<nb):φ1 nb g φ (nm i)=φ (nm (g i)):=by
 unfold φ1;rw[aT (AF.2 hi),wI]
theorem wg {nb:Nat} {g:Nat->Nat} {φ:PM} {n k:Nat} (h:φ1 nb g φ n=Z k):∃i,i<nb/\n=nm i/\φ (nm (g i))=Z k:=by
 unfold φ1 at h;split at h
 .rename_i hp;obtain⟨i,hi,rfl⟩:=YO hp;rw[wI]at h;exact⟨i,hi,rfl,h⟩
 .cases h
structure ade (t:Tm) (x:t.ty.den) (vs:List TV) (h1:bl) (g:Nat->Nat) (φ:PM) (E E':Nat->Prop) (Hv:HF) (w:World):Prop where
 rep:qO (φ1 t.bs.length g φ) E' (bB h1) w
 val:∀x v,x.all (Va t.bs.length)=M->cH φ (tot E φ Hv) w (x.ren (Hh g)) v->cH (φ1 t.bs.length g φ) (tot E' (φ1 t.bs.length g φ) (bB h1)) w x v
 own_:∀k,own (φ1 t.bs.length g φ) (bB h1) k->own φ Hv k
 tot_:∀k,tot E' (φ1 t.bs.length g φ) (bB h1) k->tot E φ Hv k
theorem qO.toId {t:Tm} {x:t.ty.den} {vs:Y TV} {h1:bl} {l1:Y (J ia)} (I:qD t x vs h1 l1) {g:Nat->Nat} (inj:∀a b,a<t.bs.length->b<t.bs.length->g a=g b->a=b) {φ:PM} {E E':Nat->Prop} {Hv:HF} {w:World} (r:qO φ E Hv w)
 (hat:∀i b y,h1.get i=Z b->jB h1 b=Z y->Hv (nm (g i))=Z (y.ren (Hh g)))
 (F:∀k,E' k->tot E φ Hv k) (hne:∀i k b,i<t.bs.length->Hv (nm (g i))=Z b->φ (nm (g i))=Z k->¬E' k) (hel:∀k,E' k->k<w.heap.size):ade t x vs h1 g φ E E' Hv w:=by
 have own1:∀k,own (φ1 t.bs.length g φ) (bB h1) k->own φ Hv k:=by
  rintro k ⟨n,y,h2,h3⟩;obtain⟨i,hi,rfl,z⟩:=wg h3;obtain⟨j,b,e,s,d⟩:=jA h2;have:=kV e;subst this;exact⟨nm (g i),_,hat i b y s d,z⟩
 have tot1:∀k,tot E' (φ1 t.bs.length g φ) (bB h1) k->tot E φ Hv k:=λk hk=>hk.elim (F k) λh=>.inr (own1 k h)
 have val:∀x v,x.all (Va t.bs.length)=M->cH φ (tot E φ Hv) w (x.ren (Hh g)) v->cH (φ1 t.bs.length g φ) (tot E' (φ1 t.bs.length g φ) (bB h1)) w x v:=λx v D hr=>by
  have h2:cH (φ1 t.bs.length g φ) (tot E φ Hv) w x v:=cH.renFrom (λi k hp hk=>by unfold φ1;rw[aT hp];exact hk) hr x D rfl;exact h2.ext (λ_ _ h=>h) (GU.refl _ w) λk _ hk=>tot1 k hk
 refine ⟨⟨λn n' b b' k A g2 g3 g4=>?_,λn y A=>?_,hel,λg' cells hg=>(r.gl g' cells hg).ext (GU.refl _ w) λk _ hk=>tot1 k hk⟩,val,own1,tot1⟩
 .obtain⟨i,hi,rfl,z⟩:=wg g3;obtain⟨j,hj,rfl,s⟩:=wg g4;obtain⟨i',c,e,d,q⟩:=jA A;have:=kV e;subst this;obtain⟨j',c',e,h8,L⟩:=jA g2;have:=kV e;subst this;have:=r.inj _ _ _ _ k (hat i c _ d q) (hat j c' _ h8 L) z s;rw[inj i j hi hj (kV this)]
 .obtain⟨i,c,rfl,d,q⟩:=jA A;have hi:=I.lt_len d;obtain⟨k,p1,p2,ob,p3,p4⟩:=r.at_ _ _ (hat i c y d q);exact⟨k,by rw[Yo hi];exact p1,hne i k _ hi (hat i c y d q) p1,ob,p3,iV.renFrom val (I.blk_all d q) p4⟩
theorem BM.view {g:Nat->Nat} {h hv:bl} {H H':HF} {m:Nat} (d:ul H H') (z:Dh h H H' m) (hr:w_ hv h) {b0 c:ia} (hb:BM g h m b0 c) {y s:u_} (e0:jB h b0=Z y) (e1:jB hv c=Z s):ip H H' y s:=by
 cases hb with
 |rows ty p T xs=>
  simp only[jB]at e0 e1;rw[e0]at e1;cases e1;exact ip.refl d y
 |mp K V es=>
  simp only[jB]at e0 e1;rw[e0]at e1;cases e1;exact ip.refl d y
 |cells ty ps x l l2 m' hg hp hm=>
  have key:∀q cs',cD h l=Z q->cD hv l2=Z cs'->gT H H' q cs'/\∀x∈cs',x.isCell=M:=λq cs' hl hc=>by
   obtain⟨l1,A,q1,q2,q3⟩:=Ci d hr ps l x m' [] l2 q cs' hg hp hl hc λi hi=>z i (hm i hi)
   simp only[cD,af]at q2;subst q2;rw[ol]at q1;subst q1;exact⟨q3,lY (rR hc (wj ps x l2 hp))⟩
  cases ty with
  |some ty=>
   simp only[jB]at e0 e1;split at e0
   .rename_i q hl;simp only[af]at e0;subst e0;split at e1
    .rename_i cs' hc;simp only[af]at e1;subst e1;exact ip.cells rfl rfl (key _ _ hl hc).1 (key _ _ hl hc).2
    .cases e1
   .cases e0
  |none=>
   simp only[jB]at e0 e1;split at e0
   .rename_i q hl;simp only[af]at e0;subst e0;split at e1
    .rename_i cs' hc;simp only[af]at e1;subst e1;exact ip.told (key _ _ hl hc).1
    .cases e1
   .cases e0
theorem BM.erB_some {g:Nat->Nat} {h hv:bl} {nx m:Nat} (hinv:mh h nx) {i:Nat} {b0 c:ia} (h0:h.get i=Z b0) (hb:BM g h m b0 c) {d:u_} (e1:jB hv c=Z d):∃y,jB h b0=Z y:=by
 cases hb with
 |rows ty p T xs=>exact⟨d,e1⟩
 |mp K V es=>exact⟨d,e1⟩
 |cells ty ps x l l2 m' hg hp hm=>
  obtain⟨q,hl⟩:=eY h l (hinv.cells i _ l h0);cases ty<;>exact⟨_,by simp only[jB,hl];rfl⟩
theorem BM.row {g:Nat->Nat} {h:bl} {m:Nat} {b0 c:ia} (hb:BM g h m b0 c):mM c=mM b0:=by
 cases hb<;>rfl
structure pO (P:Program) (f:FuncId) (c:cr):Prop where
 callable:Db P f
 calls:∀x y,c.m x=Z y->∀vs hp l1 rs hq l2 la lr,qD c.pre x vs hp l1->qD c.post y rs hq l2->cD hp vs=Z la->cD hq rs=Z lr->
  ∀(φ:PM) (E:Nat->Prop) (w:World) (us:ξ),qO φ E (bB hp) w->j6 φ (tot E φ (bB hp)) w la us->(∀n k,φ n=Z k->ow n<c.pre.bs.length)->
  Calls P f us.toArray w λen w'=>∃v φ',en= .returned v/\GU (own φ (bB hp)) w w'/\(∀k,k<w.heap.size->own φ' (bB hq) k->own φ (bB hp) k)/\(∀i,i<c.pre.bs.length->φ' (nm i)=φ (nm i))/\qO φ' E (bB hq) w'/\cH φ' (tot E φ' (bB hq)) w' (Di lr) v
theorem L3 {g:Nat->Nat}:∀(bs:Y PB) (x:(PB.tyL bs).den) (l:Y (J ia)),AQ bs=M->ou g bs x=Z l->∀(i:Nat) (c:J ia),l[i]? =Z c->∃b,c=Z b
 |[],x,l,_,hp,i,c,hc=>by simp only[ou,af]at hp;subst hp;simp at hc
 |b::r,x,l,hn,hp,i,c,hc=>by
  simp only[ou]at hp;split at hp
  .rename_i a d;split at hp
   .rename_i q hq;simp only[af]at hp;subst hp;cases i with
    |zero=>
     simp at hc;subst hc;cases b with
     |gone=>simp[AQ]at hn
     |rows ty p T=>simp only[BQ,af]at d;exact⟨_,d.symm⟩
     |rowsP ty T=>simp only[BQ,af]at d;exact⟨_,d.symm⟩
     |cells ty ps=>
      simp only[BQ]at d;split at d
      .simp only[af]at d;exact⟨_,d.symm⟩
      .cases d
     |mp K V=>simp only[BQ,af]at d;exact⟨_,d.symm⟩
    |succ i=>
     refine L3 r _ q ?_ hq i c (by simpa using hc);cases b<;>first|exact hn|simp[AQ]at hn
   .cases hp
  .cases hp
theorem EM {h h2:bl} {g:Nat->Nat}:∀n,tj h h2 g n=M->∀i,i<n->∀r,eh h (g i)=Z r->eh h2 (g i)=Z r
 |0,_,i,hi,_,_=>by omega
 |n+1,hs,i,hi,r,hr=>by
  simp only[tj,ak]at hs;by_cases e:i=n
  .subst e;obtain⟨p,s,k⟩:=r;have h1:=hs.1;rw[hr]at h1;cases d:eh h2 (g i) with
   |none=>rw[d]at h1;cases h1
   |some q=>
    obtain⟨z,s',k'⟩:=q;rw[d]at h1;simp only[ak,cR]at h1;rw[h1.1.1,au h1.1.2,au h1.2]
  .exact EM n hs.2 i (by omega) r hr
theorem j6.le {H H':HF} {φ:PM} {E:Nat->Prop} {w:World} (r:qO φ E H w):∀{l d:Y AV} {us:ξ},gT H H' l d->j6 φ (tot E φ H) w l us->j6 φ (tot E φ H') w d us
 |[],[],[],_,_=>trivial
 |[],[],_::_,_,h=>h.elim
 |_::_,_::_,[],_,h=>h.elim
 |[],_::_,_,h,_=>h.elim
 |_::_,[],_,h,_=>h.elim
 |_::_,_::_,_::_,hl,h=>⟨hl.1 _ _ _ _ r h.1,j6.le r hl.2 h.2⟩
theorem j6.toId {φ φ':PM} {O O':Nat->Prop} {w:World} {γ:Nat->Nat} {p:Nat->Bool} (hv:∀x v,x.all p=M->cH φ O w (x.ren γ) v->cH φ' O' w x v):∀{l:Y AV} {us:ξ},AV.allL p l=M->j6 φ O w (AV.renL γ l) us->j6 φ' O' w l us
 |[],[],_,_=>trivial
 |[],_::_,_,h=>h.elim
 |_::_,[],_,h=>h.elim
 |_::_,_::_,hp,h=>by
  simp only[AV.allL,ak]at hp;exact⟨hv _ _ hp.1 h.1,j6.toId hv hp.2 h.2⟩
theorem U9 {h:bl}:∀{rs:Y TV} {lr:Y AV},cD h rs=Z lr->b_ h (Pm rs)=Z (Di lr)
 |[],lr,he=>by simp only[cD,af]at he;subst he;rfl
 |[x],lr,he=>by
  obtain⟨y,l2,rfl,e1,e2⟩:=cW he;simp only[cD,af]at e2;subst e2;exact e1
 |x::y::r,lr,he=>by
  obtain⟨q,l2,rfl,e1,e2⟩:=cW he;obtain⟨d,s,rfl,e3,z⟩:=cW e2;simp only[Pm,b_,he,Di]
theorem Yx (γ:Nat->Nat):∀l:Y AV,Di (AV.renL γ l)=(Di l).ren γ
 |[]=>rfl
 |[x]=>rfl
 |x::y::r=>rfl
theorem Yy {p:Nat->Bool}:∀{l:Y AV},AV.allL p l=M->(Di l).all p=M
 |[],_=>rfl
 |[x],h=>by simp only[AV.allL,ak]at h;exact h.1
 |x::y::r,h=>h
theorem aby {nx d q:Nat}:aO (((1<<<d)-1)<<<nx) q=M↔nx<=q/\q<nx+d:=by
 rw[Nat.testBit_shiftLeft,Nat.one_shiftLeft,Nat.testBit_two_pow_sub_one];simp only[ak,bz];omega
theorem ZU {P:Program} {o:Oper} {e:iL} {h:bl} {nx:Nat} {f:FuncId} {c:cr} {l:Y TV} (hinv:mh h nx) (sp:pO P f c) {x:c.pre.ty.den} {m:Nat} {σ:PT Nat} {sm:Nat} (A:Hp 0 c.pre l h x m σ sm) {vs:Y TV} {hp:bl} {l1:Y (J ia)} (I:qD c.pre x vs hp l1) (hng:AQ c.pre.bs=M) {y:c.post.ty.den} (hm:c.m x=Z y) {rs:Y TV} {hq:bl} {l2:Y (J ia)} (B:qD c.post y rs hq l2) (hle:c.pre.bs.length<=c.post.bs.length)
 {g:Nat->Nat} (glo:∀i,i<c.pre.bs.length->g i=hZ σ i) (ghi:∀i,c.pre.bs.length<=i->g i=nx+(i-c.pre.bs.length)) {h2:bl} (hh2:h2=zN g 0 (l2.map (l7 (lJ g))) (d9 m h)) (hsr:tj h h2 g c.pre.bs.length=M) {la:Y AV} (hla:cD h l=Z la)
 (hexec:∀(φ:PM) (E:Nat->Prop) (h':HF) (w:World) (a:Act),(∀t,.tmp t∈o.op.operands->∀y,fw e h t=Z y->cH φ (tot E φ h') w y (a.tmps.getD t undef))->qO φ E h' w->∃us:ξ,(execOp a.eval o).run P w= .ok (.enter f us.toArray) w/\j6 φ (tot E φ h') w la us):
 iB P o aa e h nx (Pm (kK g rs)) (sm|||m) (sm|||m|||(((1<<<(c.post.bs.length-c.pre.bs.length))-1)<<<nx)) h2 (nx+(c.post.bs.length-c.pre.bs.length)):=by
 obtain⟨x1,m1,x2,m2,hx,hmm,gv,gb⟩:=A.ex;have hmr:dK h m:=by rw[hmm];exact (He _ _ _ _ gv).or (Hg _ _ _ _ gb)
 generalize hnp:c.pre.bs.length=np at*
 generalize hnq:c.post.bs.length=nq at*
 have pvg:pY (hZ σ) c.pre.vs x1=Z (kK (hZ σ) vs):=by
  have d:=s8 (hZ σ) c.pre.vs x1;have h4:=I.pv;rw[hx,sX]at h4;rw[d,h4];rfl
 have pbg:ou (hZ σ) c.pre.bs x2=Z (l1.map (l7 (lJ (hZ σ)))):=by
  have d:=vm (hZ σ) c.pre.bs x2;have h4:=I.pb;rw[hx,uu]at h4;rw[d,h4];rfl
 have hl1:∀i,i<np->∃b,l1[i]? =Z (Z b):=λi hi=>by
  have L:i<l1.length:=by rw[I.len,hnp];exact hi
  obtain⟨b,hb⟩:=L3 c.pre.bs _ l1 hng I.pb i l1[i] (ax L);exact⟨b,by rw[ax L,hb]⟩
 have hbm:∀i b,l1[i]? =Z (Z b)->∃b0,h.get (hZ σ i)=Z b0/\BM (hZ σ) h m b0 (lJ (hZ σ) b):=λi b hb=>by
  obtain⟨b0,q1,q2⟩:=IG c.pre.bs 0 x2 m2 _ gb pbg i (lJ (hZ σ) b) (by rw[bi,hb];rfl);rw[bL]at q1;exact⟨b0,q1,q2.mono λj hj=>by rw[hmm,bw,hj];simp⟩
 have inj1:∀a b,a<np->b<np->hZ σ a=hZ σ b->a=b:=λa b ha hb=>A.inj a b (by rw[hnp];exact ha) (by rw[hnp];exact hb)
 have sig:∀q,aO sm q=M↔∃k,k<np/\hZ σ k=q:=λq=>by rw[A.sig,hnp]
 have gnx:∀i,i<np->hZ σ i<nx:=λi hi=>by
  obtain⟨b,hb⟩:=hl1 i hi;obtain⟨b0,q1,_⟩:=hbm i b hb;exact hinv.low _ _ q1
 have hmS:∀i,i<np->aO m (hZ σ i)=aa:=λi hi=>by
  cases hx:aO m (hZ σ i) with
  |false=>rfl
  |true=>have:=A.disj _ hx;rw[(sig _).2 ⟨i,hi,rfl⟩]at this;cases this
 have injg:∀a b,a<nq->b<nq->g a=g b->a=b:=λa b ha hb hab=>by
  by_cases h1:a<np
  .by_cases h2:b<np
   .rw[glo a h1,glo b h2]at hab;exact inj1 a b h1 h2 hab
   .rw[glo a h1,ghi b (by omega)]at hab;have:=gnx a h1;omega
  .by_cases h2:b<np
   .rw[ghi a (by omega),glo b h2]at hab;have:=gnx b h2;omega
   .rw[ghi a (by omega),ghi b (by omega)]at hab;omega
 let hv:bl:=zN (hZ σ) 0 (l1.map (l7 (lJ (hZ σ)))) (d9 m h)
 have hv_at:∀i b,l1[i]? =Z (Z b)->hv.get (hZ σ i)=Z (lJ (hZ σ) b):=λi b hb=>by
  have:=uz (hZ σ) (l1.map (l7 (lJ (hZ σ)))) 0 (d9 m h) (λa b ha hb=>by
   simp only[ca,I.len,hnp]at ha hb;simp only[bL];exact inj1 a b ha hb) i (Z (lJ (hZ σ) b)) (by rw[bi,hb];rfl)
  rw[bL]at this;exact this
 have hv_ne:∀j,(∀i,i<np->j≠hZ σ i)->hv.get j=(d9 m h).get j:=λj hj=>
  uy (hZ σ) _ 0 _ j λk hk=>by
   simp only[ca,I.len,hnp]at hk;rw[bL];exact hj k hk
 have rows_in:w_ hv h:=λj r hr=>by
  rw[bR]at hr ⊢;by_cases hj:∃i,i<np/\j=hZ σ i
  .obtain⟨i,hi,rfl⟩:=hj;obtain⟨b,hb⟩:=hl1 i hi;obtain⟨b0,q1,q2⟩:=hbm i b hb;rw[hv_at i b hb]at hr;rw[q1];simp only[aD]at hr ⊢;rw[<- q2.row];exact hr
  .rw[hv_ne j (λi hi e=>hj ⟨i,hi,e⟩),iU]at hr;split at hr
   .rename_i ht;obtain⟨ty,p,T,xs,hb⟩:=hmr j ht;rw[hb]at hr ⊢;exact hr
   .exact hr
 have rows_hp:∀i r,eh hp i=Z r->eh hv (hZ σ i)=Z r:=λi r hr=>by
  rw[bR]at hr ⊢;cases hb:hp.get i with
  |none=>rw[hb]at hr;cases hr
  |some b=>
   rw[hb]at hr;rw[hv_at i b ((I.at_ i b).1 hb)];simp only[aD,HB]at hr ⊢;exact hr
 have dead_m:∀i,aO m i=M->bB hv (nm i)=U:=λi hi=>by
  rw[bK,hv_ne i (λk hk e=>by rw[e,hmS k hk]at hi;cases hi)];obtain⟨p,sz,n,hd⟩:=te hmr hi;rw[hd];rfl
 have h2_at:∀i cc,l2[i]? =Z cc->h2.get (g i)=(match cc with|some b=>Z (lJ g b)|none=>((d9 m h).get (g i)).map uA):=λi cc hc=>by
  have:=uz g (l2.map (l7 (lJ g))) 0 (d9 m h) (λa b ha hb=>by
   simp only[ca,B.len,hnq]at ha hb;simp only[bL];exact injg a b ha hb) i (cc.map (lJ g)) (by rw[bi,hc];rfl)
  rw[bL]at this;rw[hh2,this];cases cc<;>rfl
 have h2_ne:∀j,(∀i,i<nq->j≠g i)->h2.get j=(d9 m h).get j:=λj hj=>by
  rw[hh2];refine uy g _ 0 _ j λk hk=>?_
  simp only[ca,B.len,hnq]at hk;rw[bL];exact hj k hk
 have rows_hq:∀i r,eh hq i=Z r->eh h2 (g i)=Z r:=λi r hr=>by
  rw[bR]at hr ⊢;cases hb:hq.get i with
  |none=>rw[hb]at hr;cases hr
  |some b=>
   rw[hb]at hr;rw[h2_at i _ ((B.at_ i b).1 hb)];simp only[aD,HB]at hr ⊢;exact hr
 have rows2:b8 h h2:=λj r hr=>by
  by_cases hj:∃i,i<np/\j=hZ σ i
  .obtain⟨i,hi,rfl⟩:=hj;rw[<- glo i hi]at hr ⊢;exact EM np hsr i hi r hr
  .have hjn:j<nx:=by
    rw[bR]at hr;cases hb:h.get j with
    |none=>rw[hb]at hr;cases hr
    |some b=>exact hinv.low j b hb
   have:=b8.kill m h j r hr;rw[bR]at this ⊢;rw[h2_ne j (λi hi e=>?_)]
   .exact this
   .by_cases hip:i<np
    .exact hj ⟨i,hip,by rw[e,glo i hip]⟩
    .rw[ghi i (by omega)]at e;omega
 obtain⟨lr,hlr⟩:=eY hq rs B.ok;obtain⟨lp,hlp⟩:=eY hp vs I.ok;have er2:∀i b D,hq.get i=Z b->jB hq b=Z D->bB h2 (nm (g i))=Z (D.ren (Hh g)):=λi b D hb hyb=>by
  rw[bK,h2_at i _ ((B.at_ i b).1 hb)];exact Cm rows_hq hyb
 have er2':∀i,i<nq->∀z,bB h2 (nm (g i))=Z z->∃b D,hq.get i=Z b/\jB hq b=Z D/\z=D.ren (Hh g):=λi hi z s=>by
  have L:i<l2.length:=by rw[B.len,hnq];exact hi
  have hcc:=ax L;cases hcv:l2[i] with
  |none=>
   rw[hcv]at hcc;rw[bK,h2_at i U hcc]at s;simp only at s;cases hkg:(d9 m h).get (g i) with
   |none=>rw[hkg]at s;cases s
   |some b0=>rw[hkg]at s;cases b0<;>simp[uA,jB]at s
  |some b=>
   rw[hcv]at hcc;have hb:=(B.at_ i b).2 hcc;rw[bK,h2_at i (Z b) hcc]at s;have hyb:∃D,jB hq b=Z D:=by
    cases b with
    |rows ty p T xs=>simp only[aD,lJ,jB]at s ⊢;exact⟨z,s⟩
    |cells ty q=>
     obtain⟨q',hq'⟩:=eY hq q (B.cells i _ q hb).1;cases ty<;>exact⟨_,by simp only[jB,hq'];rfl⟩
    |dead p sz n=>simp[lJ,jB]at s
    |mp K V es=>exact⟨_,rfl⟩
   obtain⟨D,hyb⟩:=hyb;have:=Cm rows_hq hyb;simp only[aD]at s;rw[this]at s;exact⟨b,D,hb,hyb,by cases s;rfl⟩
 have dead2:∀i,aO m i=M->bB h2 (nm i)=U:=λi hi=>by
  have hlt:=hmr.lt hinv hi;rw[bK,h2_ne i (λk hk e=>?_)]
  .obtain⟨p,sz,n,hd⟩:=te hmr hi;rw[hd];rfl
  .by_cases hkp:k<np
   .rw[e,glo k hkp,hmS k hkp]at hi;cases hi
   .rw[ghi k (by omega)]at e;omega
 have inv2:mh h2 (nx+(nq-np)):=by
  refine ⟨λj ty q hj=>?_,λj b hj=>?_⟩
  .by_cases hjg:∃i,i<nq/\j=g i
   .obtain⟨i,hi,rfl⟩:=hjg;have L:i<l2.length:=by rw[B.len,hnq];exact hi
    have hcc:=ax L;cases hcv:l2[i] with
    |none=>
     rw[hcv]at hcc;rw[h2_at i U hcc]at hj;simp only at hj;cases hkg:(d9 m h).get (g i) with
     |none=>rw[hkg]at hj;cases hj
     |some b0=>rw[hkg]at hj;cases b0<;>simp[uA]at hj
    |some b=>
     rw[hcv]at hcc;have hb:=(B.at_ i b).2 hcc;rw[h2_at i (Z b) hcc]at hj;simp only[af]at hj;cases b with
     |cells ty' q'=>
      simp only[lJ,ia.cells.injEq]at hj;obtain⟨_,rfl⟩:=hj;obtain⟨z,s⟩:=eY hq q' (B.cells i _ q' hb).1;exact jV _ _ _ (o7 rows_hq q' z s)
     |rows _ _ _ _=>simp[lJ]at hj
     |dead _ _ _=>simp[lJ]at hj
     |mp _ _ _=>simp[lJ]at hj
   .rw[h2_ne j (λi hi e=>hjg ⟨i,hi,e⟩)]at hj;refine iR rows2 q ?_;have hkk:=(hinv.kill m).cells j _ q hj;rw[iU]at hj;split at hj
    .rename_i ht;obtain⟨_,_,_,_,hb⟩:=hmr j ht;rw[hb]at hj;cases hj
    .exact hinv.cells j _ q hj
  .by_cases hjg:∃i,i<nq/\j=g i
   .obtain⟨i,hi,rfl⟩:=hjg;by_cases hip:i<np
    .rw[glo i hip];have:=gnx i hip;omega
    .rw[ghi i (by omega)];omega
   .rw[h2_ne j (λi hi e=>hjg ⟨i,hi,e⟩)]at hj;have:=(hinv.kill m).low j b hj;omega
 let S:ι:=(fm np).map λi=>nm (hZ σ i)
 have memS:∀n,n∈S↔∃i,i<np/\n=nm (hZ σ i):=λn=>by
  simp only[S,c7,nA];exact⟨λ⟨i,h1,h2⟩=>⟨i,h1,h2.symm⟩,λ⟨i,h1,h2⟩=>⟨i,h1,h2.symm⟩⟩
 let NN:ι:=(fm (nq-np)).map λt=>nm (nx+t)
 have memN:∀n,n∈NN↔∃t,t<nq-np/\n=nm (nx+t):=λn=>by
  simp only[NN,c7,nA];exact⟨λ⟨i,h1,h2⟩=>⟨i,h1,h2.symm⟩,λ⟨i,h1,h2⟩=>⟨i,h1,h2.symm⟩⟩
 have memW:∀n,n∈S++EW m++NN↔(∃i,i<nq/\n=nm (g i))\/n∈EW m:=λn=>by
  rw[bN,bN,memS,memN];constructor
  .rintro ((⟨i,hi,rfl⟩|hn)|⟨t,ht,rfl⟩)
   .exact .inl ⟨i,by omega,by rw[glo i hi]⟩
   .exact .inr hn
   .exact .inl ⟨np+t,by omega,by rw[ghi _ (by omega),show np+t-np=t from by omega]⟩
  .rintro (⟨i,hi,rfl⟩|hn)
   .by_cases hip:i<np
    .exact .inl (.inl ⟨i,hip,by rw[glo i hip]⟩)
    .exact .inr ⟨i-np,by omega,by rw[ghi i (by omega)]⟩
   .exact .inl (.inr hn)
 have hOpT:gB P o (fw e h) (bB h) ⟨Di (AV.renL (Hh g) lr),S++EW m,S++EW m++NN,bB h2,NN⟩:=by
  intro φ E h' w a hrd hwr hops hrep hN;have hS':∀i,i<np->h' (nm (hZ σ i))=bB h (nm (hZ σ i)):=λi hi=>hrd _ (jh _ ((memS _).2 ⟨i,hi,rfl⟩))
  have hM':∀i,aO m i=M->h' (nm i)=bB h (nm i):=λi hi=>hrd _ (kx _ (lO.2 hi))
  obtain⟨us,hrun,hrel⟩:=hexec φ E h' w a hops hrep
  let Hv:HF:=λn=>if n∈S++EW m then bB hv n else h' n
  have Hv_in:∀n,n∈S++EW m->Hv n=bB hv n:=λn hn=>by simp only[Hv,hn,bE]
  have Hv_out:∀n,n∉S++EW m->Hv n=h' n:=λn hn=>by simp only[Hv,hn,du]
  have blkS:∀i,i<np->∀z,bB hv (nm (hZ σ i))=Z z->∃b0 b y0,h.get (hZ σ i)=Z b0/\l1[i]? =Z (Z b)/\BM (hZ σ) h m b0 (lJ (hZ σ) b)/\jB h b0=Z y0/\jB hv (lJ (hZ σ) b)=Z z:=λi hi z s=>by
   obtain⟨b,hb⟩:=hl1 i hi;obtain⟨b0,q1,q2⟩:=hbm i b hb;rw[bK,hv_at i b hb]at s;simp only[aD]at s;obtain⟨y0,hy0⟩:=BM.erB_some hinv q1 q2 s;exact⟨b0,b,y0,q1,hb,q2,hy0,s⟩
  have hd:ul h' Hv:=λn b hb=>by
   by_cases hn:n∈S++EW m
   .rw[Hv_in n hn]at hb;rcases bN.1 hn with hs|hs
    .obtain⟨i,hi,rfl⟩:=(memS n).1 hs;obtain⟨b0,b1,y0,q1,q2,q3,q4,q5⟩:=blkS i hi b hb;exact⟨y0,by rw[hS' i hi,bK,q1];exact q4⟩
    .obtain⟨i,rfl,hi⟩:=nM.1 hs;rw[dead_m i hi]at hb;cases hb
   .rw[Hv_out n hn]at hb;exact⟨b,hb⟩
  have gvv:Dh h h' Hv m:=λi hi=>⟨hM' i hi,by rw[Hv_in _ (kx _ (lO.2 hi)),dead_m i hi]⟩
  have V:GP h' Hv:=⟨hd,λn b b' hb hb'=>by
   by_cases hn:n∈S++EW m
   .rw[Hv_in n hn]at hb';rcases bN.1 hn with hs|hs
    .obtain⟨i,hi,rfl⟩:=(memS n).1 hs;obtain⟨b0,b1,y0,q1,q2,q3,q4,q5⟩:=blkS i hi b' hb';rw[hS' i hi,bK,q1]at hb;simp only[aD]at hb;exact BM.view hd gvv rows_in q3 hb q5
    .obtain⟨i,rfl,hi⟩:=nM.1 hs;rw[dead_m i hi]at hb';cases hb'
   .rw[Hv_out n hn,hb]at hb';cases hb';exact ip.refl hd b⟩
  have hrepv:=V.rep hrep;have hlpg:cD hv (kK (hZ σ) vs)=Z (AV.renL (Hh (hZ σ)) lp):=o7 rows_hp vs lp hlp;have hrel1:j6 φ (tot E φ Hv) w (AV.renL (Hh (hZ σ)) lp) us:=
   j6.le hrep (Cg hd rows_in c.pre.vs l x1 m1 _ la _ gv pvg hla hlpg (λi hi=>gvv i (by rw[hmm,bw,hi];rfl))) hrel
  let E':Nat->Prop:=λk=>E k\/∃n b,Hv n=Z b/\n∉S/\φ n=Z k
  have T:ade c.pre x vs hp (hZ σ) φ E E' Hv w:=by
   refine qO.toId I (λa b ha hb=>inj1 a b (by rw[<- hnp];exact ha) (by rw[<- hnp];exact hb)) hrepv (λi b D hb hyb=>?_) ?_ ?_ ?_
   .have hi:=I.lt_len hb;rw[hnp]at hi;rw[Hv_in _ (jh _ ((memS _).2 ⟨i,hi,rfl⟩)),bK,hv_at i b ((I.at_ i b).1 hb)];exact Cm rows_hp hyb
   .rintro k (hE|⟨n,b,h1,_,d⟩)
    .exact .inl hE
    .exact .inr ⟨n,b,h1,d⟩
   .rintro i k b hi h1 d (hE|⟨n,b',h4,h5,h6⟩)
    .obtain⟨k',p1,p2,_⟩:=hrepv.at_ _ _ h1;rw[d]at p1;cases p1;exact p2 hE
    .have:=hrepv.inj _ _ _ _ k h1 h4 d h6;exact h5 (by rw[<- this];exact (memS _).2 ⟨i,by rw[<- hnp];exact hi,rfl⟩)
   .rintro k (hE|⟨n,b,h1,_,d⟩)
    .exact hrepv.el k hE
    .obtain⟨k',q1,_,ob,q3,_⟩:=hrepv.at_ n b h1;rw[d]at q1;cases q1;exact (ct.1 q3).1
  have hcalls:=sp.calls x y hm vs hp l1 rs hq l2 lp lr I B hlp hlr (φ1 c.pre.bs.length (hZ σ) φ) E' w us T.rep (j6.toId T.val (rG vs lp I.lt hlp) hrel1) (λn k hk=>by
   obtain⟨i,hi,rfl,_⟩:=wg hk;rw[dQ];exact hi)
  unfold G0;rw[hrun];refine Calls.mono hcalls ?_;rintro en w' ⟨v,φc',rfl,hext,hown,hnm,rp,rv'⟩
  let isN:Nat->Prop:=λn=>n∈NN
  let φ':PM:=λn=>if n∈NN then φc' (nm (np+(ow n-nx))) else φ n
  have φ'_new:∀t,t<nq-np->φ' (nm (nx+t))=φc' (nm (np+t)):=λt ht=>by
   have:nm (nx+t)∈NN:=(memN _).2 ⟨t,ht,rfl⟩;simp only[φ',this,bE,dQ];rw[show nx+t-nx=t from by omega]
  have φ'_old:∀n,n∉NN->φ' n=φ n:=λn hn=>by simp only[φ',hn,du]
  have loN:∀i,i<nx->nm i∉NN:=λi hi hn=>by
   obtain⟨t,_,e⟩:=(memN _).1 hn;have:=kV e;omega
  have φ'_g:∀i,i<nq->φ' (nm (g i))=φc' (nm i):=λi hi=>by
   by_cases hip:i<np
   .rw[glo i hip,φ'_old _ (loN _ (gnx i hip)),hnm i (by rw[hnp];exact hip),Yo (by rw[hnp];exact hip)]
   .rw[ghi i (by omega),φ'_new _ (by omega),show np+(i-np)=i from by omega]
  have hsub:∀n k,φ n=Z k->φ' n=Z k:=λn k hk=>by
   by_cases hn:n∈NN
   .rw[hN n hn]at hk;cases hk
   .rw[φ'_old n hn];exact hk
  let F:HF:=eF h' (S++EW m++NN) (bB h2)
  have F_g:∀i,i<nq->F (nm (g i))=bB h2 (nm (g i)):=λi hi=>by
   simp only[F,eF,(memW _).2 (.inl ⟨i,hi,rfl⟩),bE]
  have F_out:∀n,n∉S++EW m++NN->F n=h' n:=λn hn=>by simp only[F,eF,hn,du]
  have from_:∀n b,F n=Z b->(∃i bq D,i<nq/\n=nm (g i)/\hq.get i=Z bq/\jB hq bq=Z D/\b=D.ren (Hh g))\/(h' n=Z b/\Hv n=Z b/\n∉S/\n∉NN/\φ' n=φ n):=λn b hb=>by
   by_cases hn:n∈S++EW m++NN
   .rcases (memW n).1 hn with ⟨i,hi,rfl⟩|hs
    .rw[F_g i hi]at hb;obtain⟨bq,D,q1,q2,q3⟩:=er2' i hi b hb;exact .inl ⟨i,bq,D,hi,rfl,q1,q2,q3⟩
    .obtain⟨i,rfl,hi⟩:=nM.1 hs;have:F (nm i)=bB h2 (nm i):=by simp only[F,eF,hn,bE]
     rw[this,dead2 i hi]at hb;cases hb
   .rw[F_out n hn]at hb;have h1:n∉S++EW m:=λhh=>hn (jh _ hh)
    have d:n∉NN:=λhh=>hn (kx _ hh)
    exact .inr ⟨hb,by rw[Hv_out n h1];exact hb,λhh=>h1 (jh _ hh),d,φ'_old n d⟩
  have own':∀k,own φ' F k->own φc' (bB hq) k\/∃n b,Hv n=Z b/\n∉S/\φ n=Z k:=by
   rintro k ⟨n,b,h1,d⟩;rcases from_ n b h1 with ⟨i,bq,D,hi,rfl,q1,q2,_⟩|⟨_,q2,q3,_,q5⟩
   .rw[φ'_g i hi]at d;exact .inl ⟨nm i,D,by rw[bK,q1];exact q2,d⟩
   .exact .inr ⟨n,b,q2,q3,by rw[<- q5];exact d⟩
  have mv:iW φ φ' h' F w w':=by
   refine ⟨hsub,hext.mono λk hk=>hd.own (T.own_ k hk),λk hk ho=>?_⟩;rcases own' k ho with h1|⟨n,b,h1,_,d⟩
   .exact hd.own (T.own_ k (hown k hk h1))
   .exact hd.own ⟨n,b,h1,d⟩
  have tot':∀k,tot E φ' F k->tot E' φc' (bB hq) k:=by
   rintro k (h1|h1)
   .exact .inl (.inl h1)
   .rcases own' k h1 with d|d
    .exact .inr d
    .exact .inl (.inr d)
  let φr:PM:=λn=>if Va nq n then φc' n else U
  have rel_r:∀x v,x.all (Va nq)=M->cH φc' (tot E' φc' (bB hq)) w' x v->cH φr (tot E φ' F) w' x v:=λx v hx hr=>
   hr.restrict (λi k hi hk=>by simp only[φr,hi,bE];exact hk) tot' hx
  have rel_g:∀x v,cH φr (tot E φ' F) w' x v->cH φ' (tot E φ' F) w' (x.ren (Hh g)) v:=λx v hr=>
   hr.renTo λn k hk=>by
    simp only[φr]at hk;split at hk
    .rename_i hpn;obtain⟨i,hi,rfl⟩:=YO hpn;rw[wI,φ'_g i hi];exact hk
    .cases hk
  have hnqJ:=hnq;refine ⟨v,φ',rfl,mv,λn k hk=>?_,?_,?_⟩
  .by_cases hn:n∈NN
   .exact .inr hn
   .rw[φ'_old n hn]at hk;exact .inl hk
  .refine ⟨λn n' b b' k h1 d h4 h5=>?_,λn b h1=>?_,λk hk=>dz (hrep.el k hk) mv.ext.size,λg' cells hg=>mv.keepF (hrep.gl g' cells hg)⟩
   .rcases from_ n b h1 with ⟨i,bq,D,hi,rfl,q1,q2,_⟩|⟨q1,q2,q3,_,q5⟩
    .rw[φ'_g i hi]at h4;have hqi:bB hq (nm i)=Z D:=by rw[bK,q1];exact q2
     rcases from_ n' b' d with ⟨j,bj,yj,hj,rfl,t1,t2,_⟩|⟨t1,t2,t3,_,t5⟩
     .rw[φ'_g j hj]at h5;have:=rp.inj _ _ _ _ k hqi (by rw[bK,t1];exact t2) h4 h5;rw[kV this]
     .exfalso;obtain⟨k',p1,p2,_⟩:=rp.at_ _ _ hqi;rw[h4]at p1;cases p1;exact p2 (.inr ⟨n',b',t2,t3,by rw[<- t5];exact h5⟩)
    .rcases from_ n' b' d with ⟨j,bj,yj,hj,rfl,t1,t2,_⟩|⟨t1,t2,t3,_,t5⟩
     .exfalso;rw[φ'_g j hj]at h5;have hqj:bB hq (nm j)=Z yj:=by rw[bK,t1];exact t2
      obtain⟨k',p1,p2,_⟩:=rp.at_ _ _ hqj;rw[h5]at p1;cases p1;exact p2 (.inr ⟨n,b,q2,q3,by rw[<- q5];exact h4⟩)
     .exact hrep.inj n n' b b' k q1 t1 (by rw[<- q5];exact h4) (by rw[<- t5];exact h5)
   .rcases from_ n b h1 with ⟨i,bq,D,hi,rfl,q1,q2,rfl⟩|⟨q1,q2,q3,_,q5⟩
    .have hqi:bB hq (nm i)=Z D:=by rw[bK,q1];exact q2
     obtain⟨k,p1,p2,ob,p3,p4⟩:=rp.at_ _ _ hqi;have hall:=B.blk_all q1 q2;rw[hnq]at hall;exact⟨k,by rw[φ'_g i hi];exact p1,λhE=>p2 (.inl hE),ob,p3,(p4.restrict rel_r hall).renTo rel_g⟩
    .obtain⟨k,p1,p2,ob,p3,p4⟩:=hrep.at_ n b q1;have hk:k<w.heap.size:=(ct.1 p3).1;refine ⟨k,hsub n k p1,p2,ob,?_,p4.mono λx v hr=>mv.keep hr⟩;rw[hext.blk k hk ?_]
     .exact p3
     .rintro⟨n',y',t1,t2⟩;obtain⟨i,hi,rfl,t3⟩:=wg t2;obtain⟨j,bb,e,t4,t5⟩:=jA t1;have:=kV e;subst this;have L:i<np:=by rw[<- hnp];exact hi
      have hvi:Hv (nm (hZ σ i))=Z (y'.ren (Hh (hZ σ))):=by
       rw[Hv_in _ (jh _ ((memS _).2 ⟨i,L,rfl⟩)),bK,hv_at i bb ((I.at_ i bb).1 t4)];exact Cm rows_hp t5
      have:=hrepv.inj _ _ _ _ k hvi q2 t3 p1;exact q3 (by rw[<- this];exact (memS _).2 ⟨i,L,rfl⟩)
  .have hall:(Di lr).all (Va nq)=M:=Yy (by have:=rG rs lr B.lt hlr;rwa [hnq]at this);show cH φ' (tot E φ' F) w' (Di (AV.renL (Hh g) lr)) v;rw[Yx];exact rel_g _ _ (rel_r _ _ hall rv')
 have hrsg:cD h2 (kK g rs)=Z (AV.renL (Hh g) lr):=o7 rows_hq rs lr hlr;refine ⟨⟨_,hOpT,λz s=>?_,?_,λn hn=>?_,λn hn=>?_,λn hn=>?_⟩,rows2,inv2,by omega,λhs=>by cases hs⟩
 .rw[U9 hrsg]at s;cases s;rfl
 .funext n;unfold eF;split
  .rfl
  .rename_i hn;refine (kr hinv rows2 λi e=>?_).symm;subst e;rw[h2_ne i (λk hk e=>hn ((memW _).2 (.inl ⟨k,hk,by rw[e]⟩))),iU,aL];intro hb;exact hn ((memW _).2 (.inr (lO.2 hb)))
 .rw[bw];rcases bN.1 hn with hs|hs
  .obtain⟨i,hi,rfl⟩:=(memS n).1 hs;rw[dQ,(sig _).2 ⟨i,hi,rfl⟩];rfl
  .obtain⟨i,rfl,hi⟩:=nM.1 hs;rw[dQ,hi];simp
 .rw[bw,bw];rcases bN.1 hn with hs|hs
  .rcases bN.1 hs with hs|hs
   .obtain⟨i,hi,rfl⟩:=(memS n).1 hs;rw[dQ,(sig _).2 ⟨i,hi,rfl⟩];rfl
   .obtain⟨i,rfl,hi⟩:=nM.1 hs;rw[dQ,hi];simp
  .obtain⟨t,ht,rfl⟩:=(memN n).1 hs;rw[dQ,aby.2 ⟨by omega,by omega⟩];simp
 .obtain⟨t,ht,rfl⟩:=(memN n).1 hn;rw[dQ];omega
mutual
def FV.fl:FV->Bool
 |.raw _=>M
 |.agg l=>FV.flL l
 |.sl _ _=>aa
 |.ptr _ _=>aa
def FV.flL:Y FV->Bool
 |[]=>M
 |x::r=>x.fl&&FV.flL r
end
theorem Vs:∀{l:Y FV},FV.flL l=M->∀x∈l,x.fl=M
 |[],_,x,d=>by cases d
 |y::l,h,x,d=>by
  simp only[FV.flL,ak]at h;rcases bu.1 d with rfl|d
  .exact h.1
  .exact Vs h.2 x d
theorem ZA:∀{l:Y FV},(∀x∈l,x.fl=M)->FV.flL l=M
 |[],_=>rfl
 |y::l,h=>by simp only[FV.flL,ak];exact⟨h y (by simp),ZA λx d=>h x (by simp[d])⟩
theorem mw.flat {O O':Nat->Prop} {w w':World} {x:FV} {v:Value} (h:mw O w x v):x.fl=M->mw O' w' x v:=by
 induction h with
 |raw v=>intro _;exact .raw v
 |nil a c hc=>intro h;cases h
 |sl cells n c b off us hn hc hO hb hcl hu hr d=>intro h;cases h
 |ptr cells o b off us hO hb hcl hu hr d=>intro h;cases h
 |agg cells vs hl hcl hr d=>intro h;exact .agg cells vs hl hcl λj x v q hv=>d j x v q hv (Vs h x (bh q))
mutual
def AV.fl:AV->Bool
 |.f x=>x.fl
 |.emp=>M
 |.anyb=>M
 |.agg l=>AV.flL l
 |.tup l=>AV.flL l
 |.ptr _ _=>aa
 |.sl _ _ _=>aa
 |.row _ _ _=>aa
 |.mp _=>aa
 |.clo _ _=>aa
 |.ful _ _=>aa
def AV.flL:Y AV->Bool
 |[]=>M
 |x::r=>x.fl&&AV.flL r
end
theorem J1:∀{l:Y AV},AV.flL l=M->∀x∈l,x.fl=M
 |[],_,x,d=>by cases d
 |y::l,h,x,d=>by
  simp only[AV.flL,ak]at h;rcases bu.1 d with rfl|d
  .exact h.1
  .exact J1 h.2 x d
theorem VY:∀{l:Y AV},(∀x∈l,x.fl=M)->AV.flL l=M
 |[],_=>rfl
 |y::l,h=>by simp only[AV.flL,ak];exact⟨h y (by simp),VY λx d=>h x (by simp[d])⟩
theorem cH.flat {φ φ':PM} {O O':Nat->Prop} {w w':World} {x:AV} {v:Value} (h:cH φ O w x v):x.fl=M->cH φ' O' w' x v:=by
 induction h with
 |f h=>intro hf;exact .f (h.flat hf)
 |ptr h=>intro hf;cases hf
 |sl h hn hc=>intro hf;cases hf
 |row h hn hc hsh=>intro hf;cases hf
 |emp=>intro _;exact .emp
 |anyb=>intro _;exact .anyb
 |mp h=>intro hf;cases hf
 |agg hl hcl hr q=>intro hf;exact .agg hl hcl λj x v d hv=>q j x v d hv (J1 hf x (bh d))
 |tup hl hr q=>intro hf;exact .tup hl λj x v d hv=>q j x v d hv (J1 hf x (bh d))
 |clo hl hr q=>intro hf;cases hf
 |ful h=>intro hf;cases hf
mutual
theorem afn (γ:Nat->Nat):∀x:AV,x.fl=M->x.ren γ=x
 |.f x,_=>rfl
 |.emp,_=>rfl
 |.anyb,_=>rfl
 |.agg l,h=>by simp only[AV.ren];rw[Hj γ l h]
 |.tup l,h=>by simp only[AV.ren];rw[Hj γ l h]
 |.ptr _ _,h=>by cases h
 |.sl _ _ _,h=>by cases h
 |.ful _ _,h=>by cases h
 |.row _ _ _,h=>by cases h
 |.mp _,h=>by cases h
 |.clo _ _,h=>by cases h
theorem Hj (γ:Nat->Nat):∀l:Y AV,AV.flL l=M->AV.renL γ l=l
 |[],_=>rfl
 |x::r,h=>by
  simp only[AV.flL,ak]at h;rw[AV.renL,afn γ x h.1,Hj γ r h.2]
end
theorem zD:∀(T:Ty),T.flat=M->∀x:T.den,∀y∈bP T x,y.fl=M
 |.int _,_,x,y,d=>by simp only[bP,aJ]at d;subst d;rfl
 |.bool,_,x,y,d=>by simp only[bP,aJ]at d;subst d;rfl
 |.str,_,x,y,d=>by simp only[bP,aJ]at d;subst d;rfl
 |.sl _,h,x,y,d=>by cases h
 |.st t,h,x,y,d=>zD t h x y d
 |.pr a b,h,x,y,d=>by
  simp only[Ty.flat,ak]at h;simp only[bP,bN]at d;exact d.elim (zD a h.1 x.1 y) (zD b h.2 x.2 y)
 |.un,_,x,y,d=>by simp[bP]at d
 |.ex,h,_,_,_=>by cases h
 |.sm,h,_,_,_=>by cases h
theorem aco (T:Ty) (h:T.flat=M) (x:T.den):(gh T x).fl=M:=by
 cases d:T.one with
 |true=>
  have:=zD T h x (gh T x) (by rw[(Cq T x d).1];simp);exact this
 |false=>rw[qv T x d];exact ZA (zD T h x)
theorem O8 (a b:Ty):(spr a b).flat=(a.flat&&b.flat):=by
 cases a<;>cases b<;>simp[spr,FW,Ty.flat]
theorem H_ {n:Nat}:∀{a b:Y TV},rf n (a++b)=M->rf n a=M/\rf n b=M
 |[],b,h=>⟨rfl,h⟩
 |x::r,b,h=>by
  simp only[gZ,rf,ak]at h ⊢;obtain⟨h1,h2⟩:=H_ h.2;exact⟨⟨h.1,h1⟩,h2⟩
mutual
theorem abp {g:Nat->Nat} {h:bl}:∀(p:PV) (x:p.ty.den) (cs:Y TV) (l:Y AV),p.ty.flat=M->pQ g p x=Z cs->rf 0 cs=M->cD h cs=Z l->∀y∈l,y.fl=M
 |.d T,x,cs,l,hf,hp,_,hl,y,hy=>by
  have:=(lV h 40 T x cs hp).1;rw[hl]at this;cases this;obtain⟨q,hq,rfl⟩:=c7.1 hy;exact zD T hf x q hq
 |.ptr i q,x,cs,l,hf,hp,hlt,hl,y,hy=>by
  simp only[pQ,af]at hp;subst hp;simp[rf,KJ]at hlt
 |.csl i q z,x,cs,l,hf,hp,hlt,hl,y,hy=>by
  simp only[pQ,af]at hp;subst hp;simp[rf,KJ]at hlt
 |.clo q i z,x,cs,l,hf,hp,hlt,hl,y,hy=>by
  simp only[pQ,af]at hp;subst hp;simp[rf,KJ]at hlt
 |.row i,x,cs,l,hf,hp,hlt,hl,y,hy=>by
  simp only[pQ,af]at hp;subst hp;simp[rf,KJ]at hlt
 |.mp i,x,cs,l,hf,hp,hlt,hl,y,hy=>by
  simp only[pQ,af]at hp;subst hp;simp[rf,KJ]at hlt
 |.nil,x,cs,l,hf,hp,hlt,hl,y,hy=>by
  simp only[pQ,af]at hp;subst hp;simp only[cD,b_,af]at hl;subst hl;simp only[aJ]at hy;subst hy;rfl
 |.emp,x,cs,l,hf,hp,hlt,hl,y,hy=>by
  simp only[pQ,af]at hp;subst hp;simp only[cD,b_,af]at hl;subst hl;simp only[aJ]at hy;subst hy;rfl
 |.agg ps,x,cs,l,hf,hp,hlt,hl,y,hy=>HJ ps x cs l hf hp hlt hl y hy
theorem HJ {g:Nat->Nat} {h:bl}:∀(ps:Y PV) (x:(PV.tyL ps).den) (cs:Y TV) (l:Y AV),(PV.tyL ps).flat=M->qL g ps x=Z cs->rf 0 cs=M->cD h cs=Z l->∀y∈l,y.fl=M
 |[],x,cs,l,hf,hp,hlt,hl,y,hy=>by
  simp only[qL,af]at hp;subst hp;simp only[cD,af]at hl;subst hl;cases hy
 |p::ps,x,cs,l,hf,hp,hlt,hl,y,hy=>by
  simp only[PV.tyL]at hf;rw[O8,ak]at hf;simp only[qL]at hp;split at hp
  .rename_i a ha;split at hp
   .rename_i b hb;simp only[af]at hp;subst hp;obtain⟨a',b',rfl,e1,e2⟩:=Be hl;have hsp:=H_ hlt;rcases bN.1 hy with hy|hy
    .exact abp p _ a a' hf.1 ha hsp.1 e1 y hy
    .exact HJ ps _ b b' hf.2 hb hsp.2 e2 y hy
   .cases hp
  .cases hp
end
theorem abn {g:Nat->Nat} {h:bl} {p:PV} {x:p.ty.den} {u:TV} {y:AV} (hf:p.ty.flat=M) (hp:sR g p x=Z u) (hlt:KJ 0 u=M) (s:b_ h u=Z y):y.fl=M:=by
 cases p with
 |d T=>
  simp only[sR,af]at hp;subst hp;simp only[b_,af]at s;subst s;exact aco T hf x
 |agg ps=>
  simp only[sR]at hp;split at hp
  .rename_i l hl;simp only[af]at hp;subst hp;simp only[b_]at s;split at s
   .rename_i D A;simp only[af]at s;subst s;exact VY (HJ ps _ l D hf hl hlt A)
   .cases s
  .cases hp
 |ptr i q=>simp only[sR,af]at hp;subst hp;simp[KJ]at hlt
 |csl i q z=>simp only[sR,af]at hp;subst hp;simp[KJ]at hlt
 |row i=>simp only[sR,af]at hp;subst hp;simp[KJ]at hlt
 |clo q i z=>simp only[sR,af]at hp;subst hp;simp[KJ,rf]at hlt
 |mp i=>simp only[sR,af]at hp;subst hp;simp[KJ]at hlt
 |nil=>simp only[sR,af]at hp;subst hp;simp only[b_,af]at s;subst s;rfl
 |emp=>simp only[sR,af]at hp;subst hp;simp only[b_,af]at s;subst s;rfl
theorem Pq {g:Nat->Nat} {h:bl}:∀(ps:Y PV) (x:(PV.tyL ps).den) (us:Y TV) (l:Y AV),(PV.tyL ps).flat=M->pY g ps x=Z us->rf 0 us=M->cD h us=Z l->AV.flL l=M
 |[],x,us,l,hf,hp,hlt,hl=>by
  simp only[pY,af]at hp;subst hp;simp only[cD,af]at hl;subst hl;rfl
 |p::ps,x,us,l,hf,hp,hlt,hl=>by
  simp only[PV.tyL]at hf;rw[O8,ak]at hf;simp only[pY]at hp;split at hp
  .rename_i a d;split at hp
   .rename_i b hb;simp only[af]at hp;subst hp;obtain⟨y,l2,rfl,e1,e2⟩:=cW hl;simp only[rf,ak]at hlt;simp only[AV.flL,ak];exact⟨abn hf.1 d hlt.1 e1,Pq ps _ b l2 hf.2 hb hlt.2 e2⟩
   .cases hp
  .cases hp
theorem abc:∀{l:Y AV},AV.flL l=M->(Di l).fl=M
 |[],_=>rfl
 |[x],h=>by simp only[AV.flL,ak]at h;exact h.1
 |x::y::r,h=>h
theorem acz {P:Program} {o:Oper} {e:iL} {h:bl} {nx:Nat} {f:FuncId} {c:cr} {l:Y TV} (hinv:mh h nx) (sp:pO P f c) {x:c.pre.ty.den} {m:Nat} {σ:PT Nat} {sm:Nat} (A:Hp 0 c.pre l h x m σ sm) {vs:Y TV} {hp:bl} {l1:Y (J ia)} (I:qD c.pre x vs hp l1) {y:c.post.ty.den} (hm:c.m x=Z y) {rs:Y TV} {hq:bl} {l2:Y (J ia)} (B:qD c.post y rs hq l2) (hp0:c.pre.bs.length=0) (D:c.post.bs.length=0) (hfl:(PV.tyL c.post.vs).flat=M)
 (g:Nat->Nat) {la:Y AV} (hla:cD h l=Z la)
 (hexec:∀(φ:PM) (E:Nat->Prop) (h':HF) (w:World) (a:Act),(∀t,.tmp t∈o.op.operands->∀y,fw e h t=Z y->cH φ (tot E φ h') w y (a.tmps.getD t undef))->qO φ E h' w->∃us:ξ,(execOp a.eval o).run P w= .ok (.enter f us.toArray) w/\j6 φ (tot E φ h') w la us):
 iB P o aa e h nx (Pm (kK g rs)) m 0 h nx:=by
 obtain⟨x1,m1,x2,m2,hx,hmm,gv,gb⟩:=A.ex;have hmr:dK h m:=by rw[hmm];exact (He _ _ _ _ gv).or (Hg _ _ _ _ gb)
 have pvg:pY (hZ σ) c.pre.vs x1=Z (kK (hZ σ) vs):=by
  have d:=s8 (hZ σ) c.pre.vs x1;have h4:=I.pv;rw[hx,sX]at h4;rw[d,h4];rfl
 obtain⟨lr,hlr⟩:=eY hq rs B.ok;obtain⟨s,hlp⟩:=eY hp vs I.ok;have hfl':AV.flL lr=M:=Pq c.post.vs _ rs lr hfl B.pv (by rw[<- D];exact B.lt) hlr;have hpe:∀i,hp.get i=U:=λi=>by
  cases hb:hp.get i with
  |none=>rfl
  |some b=>have:=I.lt_len hb;omega
 have hqe:∀i,hq.get i=U:=λi=>by
  cases hb:hq.get i with
  |none=>rfl
  |some b=>have:=B.lt_len hb;omega
 have rows_hp:∀i r,eh hp i=Z r->eh (d9 m h) (hZ σ i)=Z r:=λi r hr=>by rw[bR,hpe]at hr;cases hr
 have rows_hq:∀i r,eh hq i=Z r->eh h (g i)=Z r:=λi r hr=>by rw[bR,hqe]at hr;cases hr
 have rows_in:w_ (d9 m h) h:=λj r hr=>by
  rw[bR]at hr ⊢;rw[iU]at hr;split at hr
  .rename_i ht;obtain⟨ty,p,T,xs,hb⟩:=hmr j ht;rw[hb]at hr ⊢;exact hr
  .exact hr
 have hOpT:gB P o (fw e h) (bB h) ⟨Di lr,EW m,[],λ_=>U,[]⟩:=by
  intro φ E h' w a hrd hwr hops hrep hN;obtain⟨us,hrun,hrel⟩:=hexec φ E h' w a hops hrep
  let Hv:HF:=λn=>if n∈EW m then U else h' n
  have Hv_in:∀n,n∈EW m->Hv n=U:=λn hn=>by simp only[Hv,hn,bE]
  have Hv_out:∀n,n∉EW m->Hv n=h' n:=λn hn=>by simp only[Hv,hn,du]
  have hd:ul h' Hv:=λn b hb=>by
   by_cases hn:n∈EW m
   .rw[Hv_in n hn]at hb;cases hb
   .rw[Hv_out n hn]at hb;exact⟨b,hb⟩
  have gvv:Dh h h' Hv m:=λi hi=>⟨hrd _ (lO.2 hi),Hv_in _ (lO.2 hi)⟩
  have V:GP h' Hv:=⟨hd,λn b b' hb q=>by
   by_cases hn:n∈EW m
   .rw[Hv_in n hn]at q;cases q
   .rw[Hv_out n hn,hb]at q;cases q;exact ip.refl hd b⟩
  have hrepv:=V.rep hrep;have hlpg:cD (d9 m h) (kK (hZ σ) vs)=Z (AV.renL (Hh (hZ σ)) s):=o7 rows_hp vs s hlp;have hrel1:j6 φ (tot E φ Hv) w (AV.renL (Hh (hZ σ)) s) us:=
   j6.le hrep (Cg hd rows_in c.pre.vs l x1 m1 _ la _ gv pvg hla hlpg (λi hi=>gvv i (by rw[hmm,bw,hi];rfl))) hrel
  let E':Nat->Prop:=λk=>E k\/∃n b,Hv n=Z b/\φ n=Z k
  have T:ade c.pre x vs hp (hZ σ) φ E E' Hv w:=by
   refine qO.toId I (λa b ha=>by omega) hrepv (λi b yb hb=>by rw[hpe]at hb;cases hb) ?_ (λi k b hi=>by omega) ?_
   .rintro k (F|⟨n,b,h1,d⟩)
    .exact .inl F
    .exact .inr ⟨n,b,h1,d⟩
   .rintro k (F|⟨n,b,h1,d⟩)
    .exact hrepv.el k F
    .obtain⟨k',q1,_,ob,q3,_⟩:=hrepv.at_ n b h1;rw[d]at q1;cases q1;exact (ct.1 q3).1
  have hcalls:=sp.calls x y hm vs hp l1 rs hq l2 s lr I B hlp hlr (φ1 c.pre.bs.length (hZ σ) φ) E' w us T.rep (j6.toId T.val (rG vs s I.lt hlp) hrel1) (λn k hk=>by
   obtain⟨i,hi,rfl,_⟩:=wg hk;rw[dQ];exact hi)
  unfold G0;rw[hrun];refine Calls.mono hcalls ?_;rintro en w' ⟨v,φc',rfl,hext,hown,hnm,rp,rv'⟩;have hno:∀k,¬own (φ1 c.pre.bs.length (hZ σ) φ) (bB hp) k:=by
   rintro k ⟨n,b,h1,_⟩;obtain⟨i,bb,_,d,_⟩:=jA h1;rw[hpe]at d;cases d
  have mv:iW φ φ h' h' w w':=⟨λ_ _ h=>h,hext.mono λk hk=>dP hk (hno k),λ_ _ h=>h⟩
  refine ⟨v,φ,rfl,?_,λ_ _ h=>.inl h,?_,?_⟩
  .rw[tg];exact mv
  .rw[tg];refine hrep.moved mv λk hk=>?_
   obtain⟨n,b,h1,d⟩:=hk;obtain⟨k',q1,_,ob,q3,_⟩:=hrep.at_ n b h1;rw[d]at q1;cases q1;exact hext.blk k (ct.1 q3).1 (hno k)
  .exact rv'.flat (abc hfl')
 have hrsg:cD h (kK g rs)=Z (AV.renL (Hh g) lr):=o7 rows_hq rs lr hlr;refine ⟨⟨_,hOpT,λz L=>?_,?_,λn hn=>?_,by simp,by simp⟩,λ_ _ h=>h,hinv,cF _,λhs=>by cases hs⟩
 .rw[U9 hrsg,Hj _ lr hfl']at L;cases L;rfl
 .exact tg _ _
 .obtain⟨i,rfl,hi⟩:=nM.1 hn;rw[dQ];exact hi
def cr.full (c:cr):cr:=⟨c.pre,⟨c.post.vs,c.pre.bs⟩,λx=>av (c.m x) λy=>Z (S6 (PV.tyL c.post.vs) (PB.tyL c.pre.bs) (NT _ _ y) (Kx _ _ x))⟩
def aI (P:Program) (f:FuncId) (c:cr):Prop:=if dN c.pre.bs.length c.post.bs.length=M then pO P f c else pO P f c.full
theorem pO.toC {P:Program} {f:FuncId} {c:cr} (h:pO P f c) (hb:dN c.pre.bs.length c.post.bs.length=M):aI P f c:=by
 unfold aI;rw[aT hb];exact h
theorem aI.holds {P:Program} {f:FuncId} {c:cr} (h:aI P f c) (hb:dN c.pre.bs.length c.post.bs.length=M):pO P f c:=by
 unfold aI at h;rw[aT hb]at h;exact h
theorem ac2 (a b:Ty) (z:(spr a b).den):S6 a b (NT a b z) (Kx a b z)=z:=by cases a<;>cases b<;>rfl
open Classical in
def roM {pre:Tm} {vs:Y PV} (m:pre.ty.den->J (Tm.ty ⟨vs,pre.bs⟩).den) (x:pre.ty.den):J (Tm.ty ⟨vs,[]⟩).den:=
 av (m x) λy=>if Kx (PV.tyL vs) (PB.tyL pre.bs) y=Kx _ _ x then Z (S6 (PV.tyL vs) (PB.tyL []) (NT (PV.tyL vs) (PB.tyL pre.bs) y) ()) else U
theorem aI.ro {P:Program} {f:FuncId} {pre:Tm} {vs:Y PV} {m:pre.ty.den->J (Tm.ty ⟨vs,pre.bs⟩).den} {m':pre.ty.den->J (Tm.ty ⟨vs,[]⟩).den} (h:pO P f ⟨pre,⟨vs,pre.bs⟩,m⟩) (hb:dN pre.bs.length 0=aa) (hs:∀x y,m' x=Z y->roM m x=Z y):aI P f ⟨pre,⟨vs,[]⟩,m'⟩:=by
 unfold aI;rw[aL (by show ¬dN pre.bs.length 0=M;rw[hb];exact Bool.false_ne_true)];refine ⟨h.callable,λx y hxy=>?_⟩;refine h.calls x y ?_;have hxy:av (m' x) (λy=>Z (S6 (PV.tyL vs) (PB.tyL pre.bs) (NT (PV.tyL vs) (PB.tyL []) y) (Kx _ _ x)))=Z y:=hxy;obtain⟨z,A,hzy⟩:=dF hxy;have h1:=hs x z A;unfold roM at h1;obtain⟨y0,s,h2⟩:=dF h1;split at h2
 .rename_i heq;have h2:=jW h2;have hzy:=jW hzy;subst h2;have d:S6 (PV.tyL vs) (PB.tyL pre.bs) (NT (PV.tyL vs) (PB.tyL pre.bs) y0) (Kx (PV.tyL pre.vs) (PB.tyL pre.bs) x)=y:=(iX (λq=>S6 (PV.tyL vs) (PB.tyL pre.bs) q (Kx (PV.tyL pre.vs) (PB.tyL pre.bs) x)) (sX (PV.tyL vs) (PB.tyL []) _ ()).symm).trans hzy;rw[<- heq]at d;have:=(ac2 (PV.tyL vs) (PB.tyL pre.bs) y0).symm.trans d;exact s.trans (iX Z this)
 .cases h2
theorem iB.drop {P:Program} {o:Oper} {e:iL} {h h':bl} {nx nx':Nat} {v:TV} {rd wr W wr':Nat} (t:iB P o aa e h nx v rd wr h' nx') (hW:∀i,aO W i=M->bB h' (nm i)=bB h (nm i)/\aO rd i=M) (s:∀i,aO wr i=M->aO W i=M\/aO wr' i=M):iB P o aa e h nx v rd wr' h' nx':=by
 obtain⟨⟨f,h1,h2,q,I,F,D⟩,r,i,g,st⟩:=t;have hs:∀n,aO W (ow n)=M->bB h' n=bB h n:=λn hn=>by
  by_cases d:∃i,n=nm i
  .obtain⟨i,rfl⟩:=d;rw[dQ]at hn;exact (hW i hn).1
  .rw[vI h d,vI h' d]
 have hup:∀H:HF,(∀n∈f.wr,H n=bB h n)->eF H (f.wr.filter λn=> !(aO W (ow n))) f.nw=eF H f.wr f.nw:=λH A=>by
  funext n;unfold eF;by_cases hn:n∈f.wr
  .by_cases hb:aO W (ow n)=M
   .rw[aL (by simp[hb]),aT hn];have:=congrFun q n;unfold eF at this;rw[aT hn,hs n hb]at this;rw[this,A n hn]
   .rw[aT (by simp[hn,hb]),aT hn]
  .rw[aL (by simp[hn]),aL hn]
 refine ⟨⟨⟨f.val,f.rd++(f.wr.filter λn=>aO W (ow n)),f.wr.filter λn=> !(aO W (ow n)),f.nw,f.N⟩,?_,h2,?_,λn hn=>?_,λn hn=>?_,D⟩,r,i,g,λhs=>by cases hs⟩
 .intro φ E H w a hrd hwr hops hrep z;have k1:∀i∈f.rd,H i=bB h i:=λi hi=>hrd i (jh _ hi)
  have k2:∀i∈f.wr,H i=bB h i:=λi hi=>by
   cases hb:aO W (ow i) with
   |true=>exact hrd i (kx _ (by simp[hi,hb]))
   |false=>exact hwr i (by simp[hi,hb])
  have:=h1 φ E H w a k1 k2 hops hrep z;simp only[hup H k2];exact this
 .simp only[hup (bB h) (λ_ _=>rfl)];exact q
 .rcases bN.1 hn with hn|hn
  .exact I n hn
  .simp only[Ez]at hn;exact (hW _ hn.2).2
 .simp only[Ez,d_]at hn;rcases s _ (F n hn.1) with hh|hh
  .rw[hn.2]at hh;cases hh
  .exact hh
mutual
theorem Y6 {n n':Nat} (hle:n<=n'):∀(v:TV),KJ n v=M->KJ n' v=M
 |.row id,h=>by simp only[KJ,Nat.blt_eq]at h ⊢;omega
 |.rtl id _,h=>by simp only[KJ,Nat.blt_eq]at h ⊢;omega
 |.pel id _ _ _,h=>by simp only[KJ,Nat.blt_eq]at h ⊢;omega
 |.ptr id _,h=>by simp only[KJ,Nat.blt_eq]at h ⊢;omega
 |.csl id _ _,h=>by simp only[KJ,Nat.blt_eq]at h ⊢;omega
 |.mp id,h=>by simp only[KJ,Nat.blt_eq]at h ⊢;omega
 |.agg l,h=>vA hle l h
 |.tup l,h=>vA hle l h
 |.clo _ l,h=>vA hle l h
 |.f _ _,_=>rfl
 |.fel _ _ _ _ _,_=>rfl
 |.emp,_=>rfl
 |.nil,_=>rfl
 |.undef,_=>rfl
 |.np,_=>rfl
 |.anyb,_=>rfl
 |.ful _ _,_=>rfl
theorem vA {n n':Nat} (hle:n<=n'):∀(l:Y TV),rf n l=M->rf n' l=M
 |[],_=>rfl
 |x::r,h=>by
  simp only[rf,ak]at h ⊢;exact⟨Y6 hle x h.1,vA hle r h.2⟩
end
theorem Mh {g g':Nat->Nat} {h:bl}:∀(bs:Y PB) (i:Nat) (x:(PB.tyL bs).den) (m:Nat),Ho bs=M->Ad g h i bs=Z (x,m)->∃l,ou g' bs x=Z l/\l.length=bs.length/\∀j,j<bs.length->∃ty p T xs,l[j]? =Z (Z (.rows ty p T xs))/\h.get (g (i+j))=Z (.rows ty p T xs)
 |[],i,x,m,_,hg=>⟨[],rfl,rfl,λj hj=>by simp at hj⟩
 |.rows ty p T::r,i,x,m,q,hg=>by
  simp only[Ad]at hg;split at hg
  .rename_i x1 m1 h1;split at hg
   .rename_i x2 m2 h2;simp only[af,aC]at hg;obtain⟨rfl,rfl⟩:=hg;obtain⟨l,q1,q2,q3⟩:=Mh (g:=g) (g':=g') (h:=h) r (i+1) x2 m2 q h2;simp only[DW]at h1;split at h1
    .rename_i ty' D S xs hb;split at h1
     .rename_i hc;simp only[ak,cR]at hc;obtain⟨rfl,rfl⟩:=hc;split at h1
      .rename_i z s;simp only[af]at h1;obtain⟨rfl,_⟩:=h1;obtain⟨es,A⟩:=gO s;cases es;subst A;refine ⟨Z (.rows ty p T x1)::l,?_,by simp[q2],λj hj=>?_⟩
       .simp only[ou];rw[sX,uu,q1];rfl
       .cases j with
        |zero=>exact⟨ty,p,T,_,rfl,hb⟩
        |succ j=>
         obtain⟨a,b,c,d,w1,w2⟩:=q3 j (by simpa using hj);exact⟨a,b,c,d,by simpa using w1,by rw[show i+(j+1)=i+1+j from by omega];exact w2⟩
      .cases h1
     .cases h1
    .cases h1
   .cases hg
  .cases hg
 |.rowsP _ _::r,i,x,m,q,hg=>by cases q
 |.cells _ _::r,i,x,m,q,hg=>by cases q
 |.mp _ _::r,i,x,m,q,hg=>by cases q
 |.gone::r,i,x,m,q,hg=>by cases q
theorem EU:∀{bs:Y PB},Ho bs=M->AQ bs=M
 |[],_=>rfl
 |.rows _ _ _::r,h=>EU (bs:=r) h
 |.rowsP _ _::r,h=>by cases h
 |.cells _ _::r,h=>by cases h
 |.mp _ _::r,h=>by cases h
 |.gone::r,h=>by cases h
theorem EO {h h2:bl} {g:Nat->Nat}:∀(n:Nat),(∀i,i<n->h2.get (g i)=h.get (g i))->tj h h2 g n=M
 |0,_=>rfl
 |n+1,hs=>by
  simp only[tj,ak];refine ⟨?_,EO n λi hi=>hs i (by omega)⟩;have:eh h2 (g n)=eh h (g n):=by rw[bR,bR,hs n (by omega)]
  rw[this];cases eh h (g n) with
  |none=>rfl
  |some q=>obtain⟨p,s,k⟩:=q;simp
def Kh (P:Program) (con:FuncId->J cr):Prop:=∀f c,con f=Z c->aI P f c
theorem VQ {R:Type} {P:Program} {con:FuncId->J cr} (hcon:Kh P con) {o:Oper} {e:iL} {h:bl} {nx:Nat} {f:FuncId} {l:Y TV} {K:KO R} {r:R} (hinv:mh h nx) (hk:VR con f l h nx K=Z r) {la:Y AV} (hla:cD h l=Z la)
 (hexec:∀(φ:PM) (E:Nat->Prop) (h':HF) (w:World) (a:Act),Db P f->(∀t,.tmp t∈o.op.operands->∀y,fw e h t=Z y->cH φ (tot E φ h') w y (a.tmps.getD t undef))->qO φ E h' w->∃us:ξ,(execOp a.eval o).run P w= .ok (.enter f us.toArray) w/\j6 φ (tot E φ h') w la us):kL P o aa e h nx K r:=by
 unfold VR at hk;split at hk
 .rename_i c hc;have spc:=hcon f c hc;split at hk
  .rename_i x m σ sm hM;split at hk
   .rename_i q hq;obtain⟨vs,hp⟩:=q;obtain⟨l1,I⟩:=vD hq;obtain⟨y,D,hk⟩:=dF hk;split at hk
    .rename_i q2 F;obtain⟨rs1,s⟩:=q2;obtain⟨l2,A⟩:=vD F;split at hk
     .rename_i hcond;simp only[ak]at hcond;have hle:=a_ hcond.1;have sp:=spc.holds hcond.1;simp only at hk;split at hk
      .rename_i rs hrs;have hrs':=hrs;rw[s8,A.pv]at hrs';simp only[bU,af]at hrs';split at hk
       .rename_i hb;simp only[ak]at hb;have z:=au hb.1.2;refine ⟨_,_,_,_,_,hk,?_⟩;rw[<- hrs'];exact acz hinv sp (vy hM) I D A (by omega) z hb.2 _ hla λφ E h' w a=>hexec φ E h' w a sp.callable
       .split at hk
        .rename_i h2 d;obtain⟨hsr,hk⟩:=dM hk;refine ⟨_,_,_,_,_,hk,?_⟩;rw[<- hrs'];unfold LX at d;rw[vm,A.pb]at d;simp only[bU,af]at d;exact ZU hinv sp (vy hM) I hcond.2 D A hle (λi hi=>by
          have:eS i c.pre.bs.length=M:=bt hi;simp only[this,bE]) (λi hi=>by
          have:eS i c.pre.bs.length=aa:=by
           cases hb:eS i c.pre.bs.length with
           |false=>rfl
           |true=>have:=a_ hb;omega
          simp only[this];rfl) d.symm hsr hla λφ E h' w a=>hexec φ E h' w a sp.callable
        .cases hk
      .cases hk
     .rename_i hcond;split at hk
      .rename_i hro;simp only[ak]at hro;have z:=au hro.1;have hng:=EU hro.2;have sp:pO P f c.full:=by
        unfold aI at spc
        rwa [aL (λhb=>hcond (by rw[hb,hng];rfl))]at spc
       simp only at hk;split at hk
       .rename_i rs hrs;split at hk
        .rename_i h2 d;have hrs':=hrs;rw[s8,A.pv]at hrs';simp only[bU,af]at hrs';refine ⟨_,_,_,_,_,hk,?_⟩;rw[<- hrs'];have B:=vy hM;unfold LX at d;rw[vm,I.pb]at d;simp only[bU,af]at d;have hqe:∀i,s.get i=U:=λi=>by
          cases hb:s.get i with
          |none=>rfl
          |some b=>have:=A.lt_len hb;omega
         have J':qD c.full.post (S6 (PV.tyL c.post.vs) (PB.tyL c.pre.bs) (NT _ _ y) (Kx _ _ x)) rs1 hp l1:=
          ⟨by show pY Ha c.post.vs (NT (PV.tyL c.post.vs) (PB.tyL c.pre.bs) _)=_;rw[sX];exact A.pv,by show ou Ha c.pre.bs (Kx (PV.tyL c.post.vs) (PB.tyL c.pre.bs) _)=_;rw[uu];exact I.pb,I.len,I.at_,iR (λi r hr=>by rw[bR,hqe]at hr;cases hr) _ A.ok,vA (by omega) _ A.lt,I.cells⟩
         obtain⟨x1,m1,x2,m2,hx,hmm,gv,gb⟩:=B.ex;obtain⟨l,q1,q2,q3⟩:=Mh (g':=Ha) c.pre.bs 0 x2 m2 hro.2 gb;have L:l1=l:=by
          have:=I.pb;rw[hx,uu,q1]at this;cases this;rfl
         subst L;have hgi:∀i,i<c.pre.bs.length->(if eS i c.pre.bs.length then hZ σ i else nx+(i-c.pre.bs.length))=hZ σ i:=λi hi=>by
          have:eS i c.pre.bs.length=M:=bt hi;simp only[this,bE]
         have hsame:∀i,i<c.pre.bs.length->h2.get (hZ σ i)=h.get (hZ σ i):=λi hi=>by
          obtain⟨ty,p,T,xs,w1,w2⟩:=q3 i hi;rw[bL]at w2;have:=uz (λi=>if eS i c.pre.bs.length then hZ σ i else nx+(i-c.pre.bs.length)) (l1.map (l7 (lJ (λi=>if eS i c.pre.bs.length then hZ σ i else nx+(i-c.pre.bs.length))))) 0 (d9 m h) (λa b ha hb e=>by
           simp only[ca,q2]at ha hb;rw[bL,bL,hgi a ha,hgi b hb]at e;exact B.inj a b ha hb e) i (Z (.rows ty p T xs)) (by rw[bi,w1];rfl)
          rw[bL,hgi i hi]at this;rw[<- d,this,w2]
         have t:=ZU (o:=o) (e:=e) hinv sp B I hng (y:=S6 (PV.tyL c.post.vs) (PB.tyL c.pre.bs) (NT _ _ y) (Kx _ _ x)) (by show av (c.m x) _=_;rw[D];rfl) J' (cF _) (g:=λi=>if eS i c.pre.bs.length then hZ σ i else nx+(i-c.pre.bs.length)) hgi (λi hi=>by
          have:eS i c.pre.bs.length=aa:=by
           cases hb:eS i c.pre.bs.length with
           |false=>rfl
           |true=>have:=a_ hb;have hi:c.pre.bs.length<=i:=hi;omega
          simp only[this];rfl) d.symm (EO _ λi hi=>by rw[hgi i hi];exact hsame i hi) hla λφ E h' w a=>hexec φ E h' w a sp.callable
         have t':iB P o aa e h nx (Pm (kK (λi=>if eS i c.pre.bs.length then hZ σ i else nx+(i-c.pre.bs.length)) rs1)) (sm|||m) (sm|||m|||(((1<<<(c.pre.bs.length-c.pre.bs.length))-1)<<<nx)) h2 (nx+(c.pre.bs.length-c.pre.bs.length)):=t;rw[up,dh]at t';refine t'.drop (W:=sm) (λi hi=>?_) (λi hi=>?_)
         .refine ⟨?_,by rw[bw,hi];rfl⟩;obtain⟨k,hk,rfl⟩:=(B.sig i).1 hi;obtain⟨ty,p,T,xs,_,w2⟩:=q3 k hk;rw[bL]at w2;rw[bK,bK,hsame k hk,w2];rfl
         .simp only[Nat.shiftLeft_zero,up,Nat.zero_shiftLeft,Nat.or_zero,bw,iQ]at hi;exact hi
        .cases hk
       .cases hk
      .cases hk
    .cases hk
   .cases hk
  .cases hk
 .cases hk
theorem afc {R:Type} {P:Program} {con:FuncId->J cr} (hcon:Kh P con) {b9:TypeId->J Ty} {o:Oper} {e:iL} {h:bl} {nx:Nat} {i:SI} {K:KO R} {r:R} (hinv:mh h nx) (hi:s6 e h) (hc:xI P o.op=i) (hk:dS con b9 i e h nx K=Z r):kL P o i.still e h nx K r:=by
 have callOps:∀(c:Call),o.op= .call c->∀x,x∈c.operands->x∈o.op.operands:=λc d x A=>by rw[d];exact A
 cases i with
 |call f args=>
  simp only[dS]at hk;split at hk
  .rename_i l hl;have d:∃c:Call,o.op= .call c/\c.callee= .value (.func f)/\c.args.toList=args:=by
    unfold xI at hc;split at hc
    .rename_i i hi;subst hc;unfold Ow at hi;split at hi
     .rename_i c d;split at hi
      .rename_i g hg;simp only[af,SI.call.injEq]at hi;exact⟨c,d,by rw[hg,hi.1],hi.2⟩
      .simp at hi
      .cases hi
     .cases hi
    .split at hc<;>cases hc
   obtain⟨c,d,h1,h2⟩:=d;obtain⟨la,L,I⟩:=yd hi hl;refine VQ hcon hinv hk I λφ E h' w a hcb hops hrep=>?_
   have hp:Sm φ E h' w a (IU e h) o:=λx y A F=>rN hrep (by rw[uG];exact hops) A F
   refine ⟨args.map a.eval,?_,N0 hp args la (λx A=>callOps c d x (by simp[dO,h1,<-h2]at A ⊢;exact .inr A)) L⟩;unfold execOp;rw[d];have hm:c.args.map a.eval=(args.map a.eval).toArray:=by rw[<- h2];apply Kl;simp
   simp[resolve,h1,Act.eval,Deferred.ofValue,invoke,hm,wh hcb]
  .cases hk
 |callv x args=>
  simp only[dS]at hk;split at hk
  .rename_i f cap l A hl;have d:∃c:Call,o.op= .call c/\c.callee= .value x/\c.args.toList=args:=by
    unfold xI at hc;split at hc
    .rename_i i hi;subst hc;unfold Ow at hi;split at hi
     .rename_i c d;split at hi
      .simp at hi
      .rename_i g hg;simp only[af,SI.callv.injEq]at hi;exact⟨c,d,by rw[hg,hi.1],hi.2⟩
      .cases hi
     .cases hi
    .split at hc<;>cases hc
   obtain⟨c,d,h1,h2⟩:=d;obtain⟨la,L,I⟩:=yd hi hl;obtain⟨yx,g3,D⟩:=bI hi A;simp only[b_]at D;split at D
   .rename_i lc hlc;simp only[af]at D;subst D;refine VQ hcon hinv hk (ny I hlc) λφ E h' w a hcb hops hrep=>?_
    have hp:Sm φ E h' w a (IU e h) o:=λx y A F=>rN hrep (by rw[uG];exact hops) A F
    have hxv:=hp x _ (callOps c d x (by simp[dO,h1])) g3;have hlv:=N0 hp args la (λx A=>callOps c d x (by simp[dO,h1,<-h2]at A ⊢;exact .inr A)) L;generalize hz:a.eval x=z at hxv;cases hxv with
    |@clo _ _ vs hvl hvr=>
     refine ⟨args.map a.eval++vs,?_,hlv.append (j6.of hvl hvr)⟩;unfold execOp;rw[d];have hm:c.args.map a.eval=(args.map a.eval).toArray:=by rw[<- h2];apply Kl;simp
     simp[resolve,h1,hz,Deferred.ofValue,invoke,hm,wh hcb]
   .cases D
  .cases hk
 |op s=>
  have hc:s= .bad\/dq P o.op=Z s:=by
   unfold xI at hc;split at hc
   .rename_i i hi;subst hc;unfold Ow at hi;split at hi
    .split at hi<;>simp at hi
    .cases hi
   .split at hc
    .rename_i q hq;simp only[SI.op.injEq]at hc;subst hc;exact .inr hq
    .simp only[SI.op.injEq]at hc;exact .inl hc.symm
  rcases hc with rfl|hc
  .simp[dS]at hk
  .exact K_op hinv hi hc hk
def fU (am:Nat) (e e':iL):Prop:=∀k,aO am k=aa->∀d,e'.get k=Z d->∃v,e.get k=Z v/\(tK v=M->d=v)
theorem fU.refl (am:Nat) (e:iL):fU am e e:=λ_ _ d h=>⟨d,h,λ_=>rfl⟩
theorem fU.trans {am:Nat} {a b c:iL} (h1:fU am a b) (h2:fU am b c):fU am a c:=λk hk d hv=>by
 obtain⟨v1,A,z⟩:=h2 k hk d hv;obtain⟨v,s,q⟩:=h1 k hk v1 A;refine ⟨v,s,λhf=>?_⟩;have:=q hf;subst this;exact z hf
theorem fU.mono {am am':Nat} {a b:iL} (h:fU am a b) (hm:∀k,aO am k=M->aO am' k=M):fU am' a b:=λk hk=>h k (by
 cases d:aO am k with
 |false=>rfl
 |true=>rw[hm k d]at hk;cases hk)
structure aa3 (P:Program) (ops:Array Oper) (rest:List Oper) (sl:List sj) (am:Nat) (s s':TS) (fs:List FPm) (l:List (Oper×AA)):Prop where
 ops_:l.map (·.1)=rest
 chain:za P ops l (fw s.e s.h) (bB s.h) (fw s'.e s'.h) (bB s'.h)
 fsl:fs.length=l.length
 sll:sl.length=l.length
 fp:∀(j:Nat) o f q,l[j]? =Z (o,f)->fs[j]? =Z q->(∀n∈f.rd,aO q.rd (ow n)=M)/\∀n∈f.wr,aO q.wr (ow n)=M
 still:∀(j:Nat) o f so,l[j]? =Z (o,f)->sl[j]? =Z so->so.op.still=M->f.rd=[]/\f.wr=[]
 names:∀(j:Nat) o f,l[j]? =Z (o,f)->∀n∈f.N,s.nx<=ow n/\ow n<s'.nx
 apart_:∀(i j:Nat) oi fi oj fj,i<j->l[i]? =Z (oi,fi)->l[j]? =Z (oj,fj)->∀n∈fi.N,n∉fj.N
 grows:s.nx<=s'.nx
 invH:mh s'.h s'.nx
 invE:s6 s'.e s'.h
 keeps:fU am s.e s'.e
theorem abo {e:iL} {h h':bl} (hi:s6 e h) (hr:b8 h h') (d:J Nat) {v:TV} {y:AV} (hv:b_ h' v=Z y):BO (fw e h) d y=fw (Dn e d v) h':=by
 funext t;have old:(e.get t).bind (b_ h)=(e.get t).bind (b_ h'):=by
  cases ht:e.get t with
  |none=>rfl
  |some x=>
   obtain⟨z,q⟩:=pd h x (hi t x ht);simp only[aD,q,fE hr x z q]
 cases d with
 |none=>simp only[BO,Dn,fw];rw[aL (by simp)];exact old
 |some d=>
  simp only[BO,Dn,fw,PT.get_set,af];by_cases hd:d=t
  .subst hd;simp[hv]
  .rw[aL hd,aL (λe=>hd e.symm)];exact old
theorem s6.put {e:iL} {h h':bl} (hi:s6 e h) (hr:b8 h h') (d:J Nat) {v:TV} (hv:KH h' v=M):s6 (Dn e d v) h':=λt x q=>by
 cases d with
 |none=>exact mS hr x (hi t x q)
 |some d=>
  simp only[Dn,PT.get_set]at q;split at q
  .cases q;exact hv
  .exact mS hr x (hi t x q)
theorem Qy {e:iL} {h:bl} {t:Nat} {v:TV} (ht:e.get t=Z v):fw (e.set t (Z v)) h=fw e h:=by
 funext k;simp only[fw,PT.get_set];by_cases hk:k=t
 .subst hk;simp[ht]
 .rw[aL hk]
theorem s6.set {e:iL} {h:bl} {t:Nat} {v:TV} (hi:s6 e h) (ht:e.get t=Z v):s6 (e.set t (Z v)) h:=λk x d=>by
 rw[PT.get_set]at d;split at d
 .rename_i hk;subst hk;cases d;exact hi _ _ ht
 .exact hi k x d
theorem Sp {R:Type} {e:iL} {g:J (Nat×Bool)} {K:Bool->iL->J R} {r:R} (h:Yr e g K=Z r):
 (g=U/\K M e=Z r)\/(∃t want b,g=Z (t,want)/\e.get t=Z (.f .bool b)/\K (b==want) (e.set t (Z (.f .bool b)))=Z r)\/∃t want,g=Z (t,want)/\e.get t=Z .undef/\K aa e=Z r:=by
 unfold Yr at h;split at h
 .exact .inl ⟨rfl,h⟩
 .rename_i t want;split at h
  .rename_i b hb;refine .inr (.inl ⟨t,want,b,rfl,hb,?_⟩);cases want with
   |true=>rcases lX h with ⟨rfl,h⟩|⟨rfl,h⟩<;>exact h
   |false=>rcases lX h with ⟨rfl,h⟩|⟨rfl,h⟩<;>exact h
  .rename_i hb;exact .inr (.inr ⟨t,want,rfl,hb,h⟩)
  .cases h
theorem HM {R:Type} {P:Program} {con:FuncId->J cr} (hcon:Kh P con) {b9:TypeId->J Ty} {ops:Array Oper} {am:Nat} (ham:∀(j:Nat) (o:Oper) (d:Nat),ops[j]? =Z o->o.dst=Z d->aO am d=M):
 ∀(rest:Y Oper) (sl:Y sj) (s:TS) (fs:Y FPm) (K:TS->Y FPm->J R) (r:R),(∀o∈rest,∃j:Nat,ops[j]? =Z o)->rP P ops rest=Z sl->KC con b9 sl s fs K=Z r->mh s.h s.nx->s6 s.e s.h->∃s' fs' l,K s' (fs.reverse++fs')=Z r/\aa3 P ops rest sl am s s' fs' l
 |[],sl,s,fs,K,r,hin,hc,hk,hH,D=>by
  simp only[rP,af]at hc;subst hc;simp only[KC]at hk;exact⟨s,[],[],by simpa using hk,rfl,.nil _ _,rfl,rfl,by simp,by simp,by simp,by simp,cF _,hH,D,fU.refl _ _⟩
 |o::rest,sl,s,fs,K,r,hin,hc,hk,hH,D=>by
  simp only[rP]at hc;split at hc
  .rename_i sl' hsl';have hso:∃g,sl=⟨o.dst,xI P o.op,g⟩::sl'/\((g=U/\o.guard=U)\/∃j want t,g=Z (t,want)/\o.guard=Z (j,want)/\(ops[j]?).bind (·.dst)=Z t):=by
    split at hc
    .rename_i hg;simp only[af]at hc;exact⟨U,hc.symm,.inl ⟨rfl,hg⟩⟩
    .rename_i j want hg;split at hc
     .rename_i t ht;simp only[af]at hc;exact⟨Z (t,want),hc.symm,.inr ⟨j,want,t,rfl,hg,ht⟩⟩
     .cases hc
   obtain⟨g,rfl,hg⟩:=hso;simp only[KC]at hk;have hdst:∀d,o.dst=Z d->aO am d=M:=λd hd=>by
    obtain⟨j,hj⟩:=hin o (eo ..);exact ham j o d hj hd
   have hgs:∀t want,g=Z (t,want)->aO am t=M:=λt want hgt=>by
    rcases hg with ⟨h1,_⟩|⟨j,want',t',h1,_,z⟩
    .rw[h1]at hgt;cases hgt
    .rw[h1]at hgt;cases hgt;cases hj:ops[j]? with
     |none=>rw[hj]at z;cases z
     |some oj=>rw[hj]at z;exact ham j oj t hj z
   have kput:∀(e:iL) (v:TV),fU am s.e e->fU am s.e (Dn e o.dst v):=λe v hke k hk v' hv=>by
    cases hd:o.dst with
    |none=>rw[hd]at hv;exact hke k hk v' hv
    |some d=>
     rw[hd]at hv;simp only[Dn,PT.get_set]at hv;split at hv
     .rename_i e2;rw[e2,hdst d hd]at hk;cases hk
     .exact hke k hk v' hv
   have done:∀(f:AA) (v:TV) (h':bl) (nx' rd wr:Nat) (e:iL),fw e s.h=fw s.e s.h->s6 e s.h->fU am s.e e->J4 P ops o f (fw s.e s.h) (bB s.h)->(∃y,b_ h' v=Z y/\f.val=y)->eF (bB s.h) f.wr f.nw=bB h'->(∀n∈f.rd,aO rd (ow n)=M)->(∀n∈f.wr,aO wr (ow n)=M)->(∀n∈f.N,s.nx<=ow n/\ow n<nx')->b8 s.h h'->mh h' nx'->s.nx<=nx'->((xI P o.op).still=M->f.rd=[]/\f.wr=[])->
    KC con b9 sl' ⟨Dn e o.dst v,h',nx'⟩ (⟨rd,wr⟩::fs) K=Z r->∃s' fs' l,K s' (fs.reverse++fs')=Z r/\aa3 P ops (o::rest) (⟨o.dst,xI P o.op,g⟩::sl') am s s' fs' l:=by
    intro f v h' nx' rd wr e hee hiE hke hst hval hheap hrd hwr hN hrows hinv' hgr hstill hrun;obtain⟨y,F,hy2⟩:=hval;obtain⟨s',fs',l,A,L⟩:=HM hcon ham rest sl' _ _ K r (λo' ho'=>hin o' (dk _ ho')) hsl' hrun hinv' (hiE.put hrows o.dst (D6 _ _ _ F));have hg2:nx'<=s'.nx:=L.grows;refine ⟨s',⟨rd,wr⟩::fs',(o,f)::l,by simpa using A,by simp[L.ops_],.cons hst ?_,by simp[L.fsl],by simp[L.sll],?_,?_,?_,?_,c6 hgr hg2,L.invH,L.invE,(kput e v hke).trans L.keeps⟩
    .have e1:BO (fw s.e s.h) o.dst f.val=fw (Dn e o.dst v) h':=by rw[<- hee,hy2];exact abo hiE hrows o.dst F
     rw[e1,hheap];exact L.chain
    .intro j o' f' q' h1 h2;cases j with
     |zero=>simp at h1 h2;obtain⟨rfl,rfl⟩:=h1;subst h2;exact⟨hrd,hwr⟩
     |succ j=>exact L.fp j o' f' q' (by simpa using h1) (by simpa using h2)
    .intro j o' f' so h1 h2 z;cases j with
     |zero=>simp at h1 h2;obtain⟨rfl,rfl⟩:=h1;subst h2;exact hstill z
     |succ j=>exact L.still j o' f' so (by simpa using h1) (by simpa using h2) z
    .intro j o' f' h1 n hn;cases j with
     |zero=>
      simp at h1;obtain⟨rfl,rfl⟩:=h1;have:=hN n hn;exact⟨this.1,by omega⟩
     |succ j=>
      have:=L.names j o' f' (by simpa using h1) n hn;exact⟨c6 hgr this.1,this.2⟩
    .intro i j oi fi oj fj hij h1 h2 n hn I;cases j with
     |zero=>omega
     |succ j=>
      have hj:=L.names j oj fj (by simpa using h2) n I;cases i with
      |zero=>
       simp at h1;obtain⟨rfl,rfl⟩:=h1;have z:=(hN n hn).2;have h4:nx'<=ow n:=hj.1;omega
      |succ i=>exact L.apart_ i j oi fi oj fj (by omega) (by simpa using h1) (by simpa using h2) n hn I
   have runs:∀(e:iL),fw e s.h=fw s.e s.h->s6 e s.h->fU am s.e e->(∀f,gB P o (fw s.e s.h) (bB s.h) f->J4 P ops o f (fw s.e s.h) (bB s.h))->dS con b9 (xI P o.op) e s.h s.nx (λv rd wr h nx=>if KH h v then KC con b9 sl' ⟨Dn e o.dst v,h,nx⟩ (⟨rd,wr⟩::fs) K else U)=Z r->∃s' fs' l,K s' (fs.reverse++fs')=Z r/\aa3 P ops (o::rest) (⟨o.dst,xI P o.op,g⟩::sl') am s s' fs' l:=by
    intro e hee hiE hke hstep hk;obtain⟨v,rd,wr,h',nx',A,T⟩:=afc hcon hH hiE rfl hk;simp only[]at A;split at A
    .rename_i hok;obtain⟨f,t1,t2,t3,t4,t5,t6⟩:=T.ex;rw[hee]at t1;obtain⟨y,hy⟩:=pd h' v hok;refine done f v h' nx' rd wr e hee hiE hke (hstep f t1) ⟨y,hy,t2 y hy⟩ t3 t4 t5 t6 T.rows T.inv T.grows (λhs=>?_) A;obtain⟨r0,w0⟩:=T.st hs;subst r0;subst w0;constructor
     .cases hl:f.rd with
      |nil=>rfl
      |cons n q=>have:=t4 n (by rw[hl];simp);simp at this
     .cases hl:f.wr with
      |nil=>rfl
      |cons n q=>have:=t5 n (by rw[hl];simp);simp at this
    .cases A
   have skips:∀(e:iL),fw e s.h=fw s.e s.h->s6 e s.h->fU am s.e e->J4 P ops o rC (fw s.e s.h) (bB s.h)->KC con b9 sl' ⟨Dn e o.dst .undef,s.h,s.nx⟩ (⟨0,0⟩::fs) K=Z r->∃s' fs' l,K s' (fs.reverse++fs')=Z r/\aa3 P ops (o::rest) (⟨o.dst,xI P o.op,g⟩::sl') am s s' fs' l:=by
    intro e hee hiE hke hstep hk;exact done rC .undef s.h s.nx 0 0 e hee hiE hke hstep ⟨_,rfl,rfl⟩ (by funext i;simp[eF,rC]) (by simp[rC]) (by simp[rC]) (by simp[rC]) (b8.refl _) hH (cF _) (λ_=>⟨rfl,rfl⟩) hk
   rcases Sp hk with ⟨h1,hk⟩|⟨t,want,b,h1,hb,hk⟩|⟨t,want,h1,hb,hk⟩
   .refine runs s.e rfl D (fU.refl _ _) (λf hf=>?_) hk;rcases hg with ⟨_,hg⟩|⟨j,want,t,h2,_,_⟩
    .exact .run hg hf
    .rw[h1]at h2;cases h2
   .rcases hg with ⟨h2,_⟩|⟨j,want',t',h2,z,h4⟩
    .rw[h1]at h2;cases h2
    .rw[h1]at h2;cases h2;have hgt:=hgs t want h1;have heb:fw s.e s.h t=Z (.f (.raw (.bool b))):=by simp only[fw,hb,aD,b_];rfl
     have hke:fU am s.e (s.e.set t (Z (.f .bool b))):=λk hk v' hv=>by
      rw[PT.get_set]at hv;split at hv
      .rename_i ek;rw[ek,hgt]at hk;cases hk
      .exact⟨v',hv,λ_=>rfl⟩
     cases hbw:(b==want) with
     |true=>
      rw[hbw]at hk;have:b=want:=by simpa using hbw
      subst this;exact runs _ (Qy hb) (D.set hb) hke (λf hf=>.runG j t b z h4 heb hf) hk
     |false=>
      rw[hbw]at hk;refine skips _ (Qy hb) (D.set hb) hke (.skip j t want z h4 (.bool b) heb ?_ rfl) hk;intro hv;cases hv;simp at hbw
   .rcases hg with ⟨h2,_⟩|⟨j,want',t',h2,z,h4⟩
    .rw[h1]at h2;cases h2
    .rw[h1]at h2;cases h2;exact skips _ rfl D (fU.refl _ _) (.skip j t want z h4 undef (by simp only[fw,hb,aD,b_]) (by unfold undef;simp) rfl) hk
  .cases hc
theorem abx {P:Program} {ops:Array Oper} {sl:Y sj} {am:Nat} {s s':TS} {fs:Y FPm} {l:Y (Oper×AA)} {prs:Y (Nat×Nat)} (hl:aa3 P ops ops.toList sl am s s' fs l) (hp:LY ops sl=Z prs) (hok:EQ fs prs=M):NIP ops l:=by
 unfold LY at hp;simp only[]at hp;split at hp
 .rename_i hall;simp only[gk,nA,ak]at hall;simp only[af]at hp;have hop:∀(j:Nat) o f,l[j]? =Z (o,f)->ops[j]? =Z o:=λj o f hj=>by
   have h1:(l.map (·.1))[j]? =Z o:=by rw[bi,hj];rfl
   rw[hl.ops_]at h1;simpa using h1
  have hsize:∀(j:Nat) o,ops[j]? =Z o->j<ops.size:=λj o h=>(ct.1 h).1
  have hprs:∀i j,(i,j)∈prs->∃a b,fs[i]? =Z a/\fs[j]? =Z b/\CP a.wr b.rd=M/\CP a.wr b.wr=M/\CP b.wr a.rd=M:=by
   clear hp hall;induction prs with
   |nil=>intro i j h;cases h
   |cons p prs L=>
    obtain⟨i0,j0⟩:=p;simp only[EQ,ak,Vr]at hok;intro i j hm;rcases bu.1 hm with h|h
    .cases h;have h1:=hok.1;split at h1
     .rename_i a b A hb;simp only[ak]at h1;exact⟨a,b,A,hb,h1.1.1,h1.1.2,h1.2⟩
     .cases h1
    .exact L hok.2 i j h
  refine ⟨λj o D e he hb=>?_,λi j oi fi oj fj hij hi hj=>?_,hl.apart_⟩
  .have:=(hall j (hsize j o D)).1;rw[D]at this;simp only[Option.all_some,gk]at this;have:=this e (by simpa using he);simp[hb]at this;exact this
  .have h1:=hop i oi fi hi;have h2:=hop j oj fj hj;have hcase:=(hall j (hsize j oj h2)).2 i hij;rw[h1,h2]at hcase;simp only[iQ]at hcase;by_cases z:aO ((JS ops.toList []).getD j 0) i=M
   .left;rw[ay]at z;cases d:(JS ops.toList [])[j]? with
    |none=>rw[d]at z;simp at z
    |some B=>
     rw[d]at z;exact MO (ops:=ops) ops.toList [] (λj o hj=>by simpa using hj) (λj B hj=>by simp at hj) j B d i (by simpa using z)
   .right;have hap:=hcase.resolve_left z;refine ⟨hap,?_⟩;have hil:i<l.length:=(bm.1 hi).1;have hjl:j<l.length:=(bm.1 hj).1;have hsi:=ax (show i<sl.length by rw[hl.sll];exact hil);have hsj:=ax (show j<sl.length by rw[hl.sll];exact hjl);by_cases hst:(sl[i]'(by rw[hl.sll];exact hil)).op.still=M
    .obtain⟨q1,q2⟩:=hl.still i oi fi _ hi hsi hst;rw[q1,q2];exact⟨(λx d=>by cases d),(λx _ d=>by cases d)⟩
    .by_cases hst2:(sl[j]'(by rw[hl.sll];exact hjl)).op.still=M
     .obtain⟨q1,q2⟩:=hl.still j oj fj _ hj hsj hst2;rw[q1,q2];exact⟨(λx d=>⟨(by simp),(by simp)⟩),(λx d=>by cases d)⟩
     .have hmem:(i,j)∈prs:=by
       rw[<- hp,uq];refine ⟨j,nA.2 (hsize j oj h2),?_⟩;rw[List.mem_filterMap];refine ⟨i,nA.2 hij,?_⟩;rw[aL];rw[hsi,hsj];simp only[iQ,not_or];exact⟨z,hst,hst2⟩
      obtain⟨a,b,A,hb,d1,d2,d3⟩:=hprs i j hmem;obtain⟨f1,I⟩:=hl.fp i oi fi a hi A;obtain⟨g1,F⟩:=hl.fp j oj fj b hj hb;refine ⟨λx d=>⟨λq=>?_,λq=>?_⟩,λx d q=>?_⟩
      .have:=wS d1 (ow x) (I x d);rw[g1 x q]at this;cases this
      .have:=wS d2 (ow x) (I x d);rw[F x q]at this;cases this
      .have:=wS d3 (ow x) (F x d);rw[f1 x q]at this;cases this
 .cases hp
structure oI (P:Program) (E:Nat->Prop) (nt np:Nat) (φ:PM) (s:TS) (a:Act) (w:World):Prop where
 rep:qO φ E (bB s.h) w
 env:MW φ (tot E φ (bB s.h)) w (fw s.e s.h) a
 dom:∀n k,φ n=Z k->ow n<s.nx
 low:np<=s.nx
 invH:mh s.h s.nx
 invE:s6 s.e s.h
 inert:∀d∈a.defers,aao P d
 size:a.tmps.size=nt
structure Bn (np:Nat) (φ φ':PM) (H H':HF) (w w':World):Prop where
 ext:GU (own φ H) w w'
 own_:∀k,k<w.heap.size->own φ' H' k->own φ H k
 par:∀i,i<np->φ' (nm i)=φ (nm i)
theorem Bn.refl (np:Nat) (φ:PM) (H:HF) (w:World):Bn np φ φ H H w w:=⟨GU.refl _ _,λ_ _ h=>h,λ_ _=>rfl⟩
theorem Bn.trans {np:Nat} {φ φ' φ'':PM} {H H' H'':HF} {w w' w'':World} (a:Bn np φ φ' H H' w w') (b:Bn np φ' φ'' H' H'' w' w''):Bn np φ φ'' H H'' w w'' where
 ext:=⟨b.ext.os.trans a.ext.os,b.ext.tape.trans a.ext.tape,b.ext.output.trans a.ext.output,c6 a.ext.size b.ext.size,
  λk hk d=>(b.ext.blk k (dz hk a.ext.size) (λh=>d (a.own_ k hk h))).trans (a.ext.blk k hk d),
  λk hk=>(b.ext.shp k (dz hk a.ext.size)).trans (a.ext.shp k hk)⟩
 own_:=λk hk h=>a.own_ k hk (b.own_ k (dz hk a.ext.size) h)
 par:=λi hi=>(b.par i hi).trans (a.par i hi)
theorem YJ {R:Type} {P:Program} {E:Nat->Prop} {nt np:Nat} {φ:PM} {s:TS} {a:Act} {w:World} {con:FuncId->J cr} {b9:TypeId->J Ty} (hm:P.follows .mixedOrders=M) (hcon:Kh P con) (c:oI P E nt np φ s a w) {id:Nat} {ops:Array Oper} {draw:Bool} {sl:Y sj} {prs:Y (Nat×Nat)} {am:Nat} (ham:∀(j:Nat) (o:Oper) (d:Nat),ops[j]? =Z o->o.dst=Z d->aO am d=M)
 (hd:(ops.toList.all λo=>match o.dst with|some d=>decide (d<nt)|none=>M)=M) (hc:rP P ops ops.toList=Z sl) (hp:LY ops sl=Z prs) {K:TS->J R} {r:R} (hr:KC con b9 sl s [] (λs' fs=>if EQ fs prs then K s' else U)=Z r) {Q:Exit->Act->World->Prop}
 (hQ:∀a' w' s' φ',K s'=Z r->oI P E nt np φ' s' a' w'->Bn np φ φ' (bB s.h) (bB s'.h) w w'->fU am s.e s'.e->Q .normal a' w'):(Code.region id ops draw).wp P Q a w:=by
 obtain⟨s',fs',l,z,L⟩:=HM hcon ham ops.toList sl s [] _ r (λo D=>by
  obtain⟨j,hj⟩:=eW D;exact⟨j,by simpa using hj⟩) hc hr c.invH c.invE
 have z:(if EQ fs' prs then K s' else U)=Z r:=z;by_cases hok:EQ fs' prs=M
 .rw[aT hok]at z;refine Po (φ0:=φ) (E:=E) hm L.ops_ L.chain (abx L hp hok) ?_ ?_ c.rep c.env ?_
  .intro n hn;obtain⟨p,q,hn⟩:=uq.1 hn;obtain⟨j,hj⟩:=eW q;have:=L.names j p.1 p.2 hj n hn;cases A:φ n with
   |none=>rfl
   |some k=>have:=c.dom n k A;omega
  .intro j o D d F;have:=gk.1 hd o (by have:=Array.mem_of_getElem? D;simpa using this);rw[F]at this;rw[c.size];simpa using this
  .rintro a' w' ⟨φ',m',d',I,en',df',sz'⟩;have hnm:∀n k,φ' n=Z k->φ n=Z k\/(s.nx<=ow n/\ow n<s'.nx):=λn k hik=>by
    rcases d' n k hik with h|h
    .exact .inl h
    .obtain⟨p,q,hn⟩:=uq.1 h;obtain⟨j,hj⟩:=eW q;exact .inr (L.names j p.1 p.2 hj n hn)
   have hg:=L.grows;have hlow:=c.low;refine hQ a' w' s' φ' z ⟨I,en',λn k hik=>?_,by omega,L.invH,L.invE,by rw[df'];exact c.inert,by rw[sz'];exact c.size⟩ ⟨m'.ext,m'.own_,λi hi=>?_⟩ L.keeps
   .rcases hnm n k hik with h|h
    .have:=c.dom n k h;omega
    .exact h.2
   .cases A:φ (nm i) with
    |some k=>exact m'.sub _ _ A
    |none=>
     cases hy:φ' (nm i) with
     |none=>rfl
     |some k=>
      rcases hnm (nm i) k hy with h|h
      .rw[A]at h;cases h
      .rw[dQ]at h;omega
 .rw[aL hok]at z;cases z
theorem yZ:∀(l:Y sj) (acc:Nat),OA l acc=acc|||OA l 0
 |[],acc=>by simp[OA]
 |o::r,acc=>by
  simp only[OA];cases o.dst with
  |none=>exact yZ r acc
  |some d=>simp only[];rw[yZ r (acc|||ku d),yZ r (0|||ku d),xK,jR]
theorem zq:∀(l:ι) (acc:Nat),KK l acc=acc|||KK l 0
 |[],acc=>by simp[KK]
 |k::r,acc=>by simp only[KK];rw[zq r (acc|||ku k),zq r (0|||ku k),xK,jR]
theorem li:∀(l:Y Adj) (acc:Nat),mq l acc=acc|||mq l 0
 |[],acc=>by simp[mq]
 |.nil k _ _::r,acc=>by simp only[mq];rw[li r (acc|||ku k),li r (0|||ku k),xK,jR]
 |.cel _ _ _ _::r,acc=>by simp only[mq];exact li r acc
 |.mpt _ _ _::r,acc=>by simp only[mq];exact li r acc
 |.mz _ _::r,acc=>by simp only[mq];exact li r acc
 |.ren k _::r,acc=>by simp only[mq];rw[li r (acc|||ku k),li r (0|||ku k),xK,jR]
 |.pk _ _ _::r,acc=>by simp only[mq];exact li r acc
theorem gE:∀(c:TC) (acc:Nat),c.asg acc=acc|||c.asg 0
 |.reg ops _,acc=>yZ ops acc
 |.seq a b,acc=>by simp only[TC.asg];rw[gE b (a.asg acc),gE b (a.asg 0),gE a acc,jR]
 |.jseq A a b,acc=>by simp only[TC.asg];rw[gE b (a.asg _),gE b (a.asg (KK A.ks 0)),gE a (KK A.ks acc),gE a (KK A.ks 0),zq A.ks acc,jR,jR,jR]
 |.cond _ a b,acc=>by simp only[TC.asg];rw[gE b (a.asg acc),gE b (a.asg 0),gE a acc,jR]
 |.block _ b,acc=>gE b acc
 |.jblock A _ b,acc=>by simp only[TC.asg];rw[gE b (KK A.ks acc),gE b (KK A.ks 0),zq A.ks acc,jR]
 |.loop A b,acc=>by simp only[TC.asg];rw[gE b (KK A.ks acc),gE b (KK A.ks 0),zq A.ks acc,jR]
 |.defer _ _ t,acc=>by simp[TC.asg]
 |.adj l c,acc=>by simp only[TC.asg];rw[gE c (mq l acc),gE c (mq l 0),li l acc,jR]
 |.split _ _ _ _ c,acc=>gE c acc
 |.bsp _ a b,acc=>by simp only[TC.asg];rw[gE b (a.asg acc),gE b (a.asg 0),gE a acc,jR]
 |.unl _ b,acc=>gE b acc
 |.skip,acc=>by simp[TC.asg]
 |.exit _,acc=>by simp[TC.asg]
 |.ret,acc=>by simp[TC.asg]
 |.bad,acc=>by simp[TC.asg]
theorem sZ {c:TC} {acc k:Nat} (h:aO (c.asg 0) k=M):aO (c.asg acc) k=M:=by rw[gE,bw,h];simp
theorem jy {c:TC} {acc k:Nat} (h:aO acc k=M):aO (c.asg acc) k=M:=by rw[gE,bw,h];rfl
theorem Vg:∀{l:ι} {acc k:Nat},k∈l->aO (KK l acc) k=M
 |[],_,_,h=>by cases h
 |x::r,acc,k,h=>by
  simp only[KK];rcases bu.1 h with rfl|h
  .rw[zq,bw,bw,bW.2 rfl];simp
  .exact Vg h
theorem RE:∀{l:Y sj} {acc:Nat} {o:sj} {d:Nat},o∈l->o.dst=Z d->aO (OA l acc) d=M
 |[],_,_,_,h,_=>by cases h
 |x::r,acc,o,d,h,hd=>by
  simp only[OA];rcases bu.1 h with rfl|h
  .rw[hd];simp only[];rw[yZ,bw,bw,bW.2 rfl];simp
  .exact RE h hd
theorem Vo:∀{e:iL} {ks:ι} {vs:Y TV},nT e ks=Z vs->vs.length=ks.length/\∀(j k:Nat),ks[j]? =Z k->∃v,vs[j]? =Z v/\e.get k=Z v
 |e,[],vs,h=>by simp only[nT,af]at h;subst h;exact⟨rfl,by simp⟩
 |e,k::r,vs,h=>by
  simp only[nT]at h;split at h
  .rename_i v hv;split at h
   .rename_i l hl;simp only[af]at h;subst h;obtain⟨h1,h2⟩:=Vo hl;refine ⟨by simp[h1],λj k' hj=>?_⟩;cases j with
    |zero=>simp at hj;subst hj;exact⟨v,rfl,hv⟩
    |succ j=>simpa using h2 j k' (by simpa using hj)
   .cases h
  .cases h
theorem HQ {e:iL} {h:bl} (hi:s6 e h):∀{ks:ι} {vs:Y TV},nT e ks=Z vs->kU h vs=M
 |[],vs,hg=>by simp only[nT,af]at hg;subst hg;rfl
 |k::r,vs,hg=>by
  simp only[nT]at hg;split at hg
  .rename_i v hv;split at hg
   .rename_i l hl;simp only[af]at hg;subst hg;simp only[kU,ak];exact⟨hi k v hv,HQ hi hl⟩
   .cases hg
  .cases hg
theorem BF:∀{e:iL} {ks:ι} {vs:Y TV},vs.length=ks.length->∀t v,(Wi e ks vs).get t=Z v->(∃j:Nat,ks[j]? =Z t/\vs[j]? =Z v)\/(t∉ks/\e.get t=Z v)
 |e,[],[],_,t,v,h=>.inr ⟨by simp,h⟩
 |e,[],_::_,hl,t,v,h=>by simp at hl
 |e,_::_,[],hl,t,v,h=>by simp at hl
 |e,k::r,u::l,hl,t,v,h=>by
  simp only[Wi,PT.get_set]at h;split at h
  .rename_i d;subst d;cases h;exact .inl ⟨0,rfl,rfl⟩
  .rename_i d;rcases BF (by simpa using hl) t v h with ⟨j,h1,h2⟩|⟨h1,h2⟩
   .exact .inl ⟨j+1,by simpa using h1,by simpa using h2⟩
   .exact .inr ⟨by simp[d,h1],h2⟩
theorem tb {am:Nat} {e:iL}:∀{ks:ι} {k:Nat} {v:TV},(B5 am e ks).get k=Z v->k∈ks/\e.get k=Z v/\tK v=M/\aO am k=aa
 |[],k,v,h=>by simp[B5,PT.get]at h
 |x::r,k,v,h=>by
  simp only[B5]at h;split at h
  .rename_i u hu;split at h
   .rename_i hc;simp only[ak,d_]at hc;rw[PT.get_set]at h;split at h
    .rename_i d;subst d;cases h;exact⟨by simp,hu,hc.1,hc.2⟩
    .obtain⟨h1,h2⟩:=tb h;exact⟨by simp[h1],h2⟩
   .obtain⟨h1,h2⟩:=tb h;exact⟨by simp[h1],h2⟩
  .obtain⟨h1,h2⟩:=tb h;exact⟨by simp[h1],h2⟩
theorem Ie {am:Nat} {e0 e:iL}:∀{ks:ι},G_ am e0 e ks=M->∀k v,k∈ks->e0.get k=Z v->tK v=M->aO am k=aa->∃q,e.get k=Z q
 |[],_,k,v,h,_,_,_=>by cases h
 |x::r,hc,k,v,h,hv,hf,d=>by
  simp only[G_,ak]at hc;rcases bu.1 h with rfl|h
  .have h1:=hc.1;rw[hv]at h1;simp only[hf,d,Bool.not_true,Bool.false_or]at h1;cases s:e.get k with
   |none=>rw[s]at h1;cases h1
   |some u=>exact⟨u,rfl⟩
  .exact Ie hc.2 k v h hv hf d
section walk
variable {P:Program} {E:Nat->Prop} {nt np:Nat}
theorem Qw {h:bl} {v:TV} {y:AV} (hn:ac6 v=M) (d:b_ h v=Z y):Le y .emp:=by
 cases v with
 |nil=>simp only[b_,af]at d;subst d;exact Le.nilEmp
 |emp=>simp only[b_,af]at d;subst d;exact Le.refl _
 |_=>cases hn
theorem VZ {φ:PM} {s:TS} {a:Act} {w:World} (c:oI P E nt np φ s a w) (ty:TypeId) (T:Ty):oI P E nt np φ ⟨s.e,s.h.set s.nx (Z (.rows ty M T [])),s.nx+1⟩ a w/\bB (s.h.set s.nx (Z (.rows ty M T [])))=bB s.h/\b8 s.h (s.h.set s.nx (Z (.rows ty M T []))):=by
 have hfr:=c.invH.fresh;have hr:b8 s.h (s.h.set s.nx (Z (.rows ty M T []))):=b8.set λr hr=>by rw[bR,hfr]at hr;cases hr
 have A:bB (s.h.set s.nx (Z (.rows ty M T [])))=bB s.h:=by
  funext n;by_cases hn:n=nm s.nx
  .subst hn;rw[bK,bK,PT.get_set,aT rfl,hfr];rfl
  .refine kr c.invH hr λi e=>?_
   subst e;rw[PT.get_set,aL (λe=>hn (by rw[e]))]
 refine ⟨⟨by rw[A];exact c.rep,?_,λn k hk=>zf (c.dom n k hk),iu c.low,c.invH.set hr (kH _) (Nat.le_succ _) (λ_ _ he=>by cases he),?_,c.inert,c.size⟩,A,hr⟩
 .intro t x d;rw[A];simp only[fw]at d;cases he:s.e.get t with
  |none=>rw[he]at d;cases d
  |some q=>
   rw[he]at d;obtain⟨z,D⟩:=pd s.h q (c.invE t q he);simp only[aD,fE hr q z D,af]at d;subst d;exact c.env t _ (by simp only[fw,he,aD,D])
 .intro t x d;exact mS hr x (c.invE t x d)
theorem ye {h:bl}:∀{a b:Y TV},kU h a=M->kU h b=M->kU h (a++b)=M
 |[],_,_,hb=>hb
 |x::r,b,d,hb=>by
  simp only[kU,ak]at d;simp only[gZ,kU,ak];exact⟨d.1,ye d.2 hb⟩
theorem L1 {h:bl}:∀{a:Y TV} (n:Nat),kU h a=M->kU h (a.take n)=M
 |[],n,_=>by simp[kU]
 |x::r,0,_=>rfl
 |x::r,n+1,d=>by
  simp only[kU,ak]at d;simp only[vb,kU,ak];exact⟨d.1,L1 n d.2⟩
theorem L2 {h:bl}:∀{a:Y TV} (n:Nat),kU h a=M->kU h (a.drop n)=M
 |[],n,_=>by simp[kU]
 |x::r,0,d=>d
 |x::r,n+1,d=>by
  simp only[kU,ak]at d;simp only[vh];exact L2 n d.2
theorem xY {α:Type} {l:Y α} {j:Nat} {x:α} (h:l[j]? =Z x):splice l j [x]=l:=by
 have hl:j<l.length:=by
  rcases bM j l.length with h'|h'
  .exact h'
  .rw[bJ h']at h;cases h
 rw[ax hl,af]at h;unfold splice;subst h;simp
theorem Z9 {φ:PM} {s:TS} {a:Act} {w:World} (c:oI P E nt np φ s a w) {id j:Nat} {cty:J TypeId} {l:Y TV} {v u:TV} (hb:s.h.get id=Z (.cells cty l)) (hv:l[j]? =Z v) (hn:ac6 v=M) (hu:b_ s.h u=Z .emp) (huo:KH s.h u=M):
 oI P E nt np φ ⟨s.e,s.h.set id (Z (.cells cty (splice l j [u]))),s.nx⟩ a w/\Bn np φ φ (bB s.h) (bB (s.h.set id (Z (.cells cty (splice l j [u]))))) w w:=by
 have hr:b8 s.h (s.h.set id (Z (.cells cty (splice l j [u])))):=b8.set λr hr=>by rw[bR,hb]at hr;cases hr
 have hlo:=c.invH.cells id _ l hb;obtain⟨A,D⟩:=eY s.h l hlo;have hsp:cD s.h (splice l j [u])=Z (splice A j [.emp]):=pL j D (by simp only[cD,hu]);have hsp':cD (s.h.set id (Z (.cells cty (splice l j [u])))) (splice l j [u])=Z (splice A j [.emp]):=fY hr _ _ hsp;obtain⟨y,hy,hey⟩:=lh D j v hv;have hold:bB s.h (nm id)=Z (VP cty A):=by rw[bK,hb];cases cty<;>(simp only[aD,jB,D];rfl)
 have hnew:bB (s.h.set id (Z (.cells cty (splice l j [u])))) (nm id)=Z (VP cty (splice A j [.emp])):=by
  rw[bK,PT.get_set,aT rfl];cases cty<;>(simp only[aD,jB,hsp'];rfl)
 have hoth:∀n,n≠nm id->bB (s.h.set id (Z (.cells cty (splice l j [u])))) n=bB s.h n:=λn I=>by
  refine kr c.invH hr λi e=>?_
  subst e;rw[PT.get_set,aL (λe=>I (by rw[e]))]
 have hdom:ul (bB s.h) (bB (s.h.set id (Z (.cells cty (splice l j [u]))))):=λn b F=>by
  by_cases e:n=nm id
  .subst e;exact⟨_,hold⟩
  .rw[hoth n e]at F;exact⟨b,F⟩
 have hcell:∀ty,cty=Z ty->∀x∈A,x.isCell=M:=λty hty x d=>by
  subst hty;obtain⟨k,hk⟩:=eW d;obtain⟨q,_,_,hat⟩:=c.rep.at_ _ _ hold;unfold Wc at hat;obtain⟨ob,_,hob⟩:=hat;rw[show VP (Z ty) A=⟨ty,.mx A⟩ from rfl,pF rfl]at hob;obtain⟨arr,_,hca⟩:=hob;exact (hca.2 k x hk).1
 have hV:GP (bB s.h) (bB (s.h.set id (Z (.cells cty (splice l j [u]))))):=⟨hdom,λn b b' h1 h2=>by
  by_cases e:n=nm id
  .subst e;rw[hold]at h1;cases h1;rw[hnew]at h2;cases h2;have hle:gT (bB s.h) (bB (s.h.set id (Z (.cells cty (splice l j [u]))))) A (splice A j [.emp]):=by
    have:=gT.splice j (gT.refl hdom A) (b:=[y]) (b':=[.emp]) ⟨(Qw hn hey).toH hdom,trivial⟩;rw[xY hy]at this;exact this
   cases cty with
   |none=>exact ip.told hle
   |some ty=>
    refine ip.cells rfl rfl hle λx d=>?_
    have d:x∈splice A j [.emp]:=d;unfold splice at d;rw[bN,bN,aJ]at d;rcases d with (d|d)|d
    .exact hcell ty rfl x (eV d)
    .subst d;rfl
    .exact hcell ty rfl x (List.mem_of_mem_drop d)
  .rw[hoth n e,h1]at h2;cases h2;exact ip.refl hdom b⟩
 refine ⟨⟨hV.rep c.rep,?_,c.dom,c.low,c.invH.set hr (c.invH.low id _ hb) (cF _) (λty l2 he=>?_),?_,c.inert,c.size⟩,⟨GU.refl _ _,λk _ ho=>hdom.own ho,λ_ _=>rfl⟩⟩
 .intro t x d;simp only[fw]at d;cases he:s.e.get t with
  |none=>rw[he]at d;cases d
  |some q=>
   rw[he]at d;obtain⟨z,L⟩:=pd s.h q (c.invE t q he);simp only[aD,fE hr q z L,af]at d;subst d;exact (c.env t _ (by simp only[fw,he,aD,L])).dom hdom
 .simp only[ia.cells.injEq]at he;obtain⟨_,rfl⟩:=he;refine iR hr _ ?_;unfold splice;exact ye (ye (L1 _ hlo) (by simp only[kU,huo,gR])) (L2 _ hlo)
 .intro t x d;exact mS hr x (c.invE t x d)
theorem oI.congr {φ:PM} {s s':TS} {a:Act} {w:World} (c:oI P E nt np φ s a w) (he:∀t,s'.e.get t=s.e.get t) (hh:∀i,s'.h.get i=s.h.get i) (hn:s'.nx=s.nx):oI P E nt np φ s' a w/\bB s'.h=bB s.h:=by
 have hr:b8 s.h s'.h:=λi r hi=>by rw[bR]at hi ⊢;rw[hh];exact hi
 have q:bB s'.h=bB s.h:=by funext n;exact kr c.invH hr λi _=>hh i
 refine ⟨⟨by rw[q];exact c.rep,?_,by rw[hn];exact c.dom,by rw[hn];exact c.low,⟨λi ty l hg=>?_,λi b hg=>?_⟩,λt v hv=>?_,c.inert,c.size⟩,q⟩
 .intro t x d;rw[q];simp only[fw,he]at d;cases hg:s.e.get t with
  |none=>rw[hg]at d;cases d
  |some v=>
   rw[hg]at d;obtain⟨z,A⟩:=pd s.h v (c.invE t v hg);simp only[aD,fE hr v z A,af]at d;subst d;exact c.env t _ (by simp only[fw,hg,aD,A])
 .rw[hh]at hg;exact iR hr l (c.invH.cells i _ l hg)
 .rw[hh]at hg;rw[hn];exact c.invH.low i b hg
 .rw[he]at hv;exact mS hr v (c.invE t v hv)
theorem O_ {R:Type} {v:Int} {f:Nat->J R} {r:R}:∀{m i:Nat},spl v f i m=Z r->∃j,v=aU j/\f j=Z r
 |0,i,h=>by cases h
 |m+1,i,h=>by
  simp only[spl]at h;rcases lX h with ⟨h1,h2⟩|⟨_,h2⟩
  .exact⟨i,bg h1,h2⟩
  .exact O_ h2
theorem YG {φ:PM} {s s':TS} {a:Act} {w:World} (c:oI P E nt np φ s a w) {k off:Nat} {kd:IntKind} {v:Int} (h1:Zc s k off=Z (kd,v)) (h2:SJ s k off kd v=Z s'):oI P E nt np φ s' a w/\bB s'.h=bB s.h/\∀t,s'.e.get t=s.e.get t:=by
 unfold Zc at h1;unfold SJ at h2;cases hk:s.e.get k with
 |none=>rw[hk]at h1;cases h1
 |some x=>
  rw[hk]at h1 h2;cases x with
  |f T q=>
   cases T with
   |int kd'=>
    simp only[af,aC]at h1;obtain⟨rfl,rfl⟩:=h1;simp only[af]at h2;subst h2;have he:∀t,(s.e.set k (Z (.f (.int kd') q))).get t=s.e.get t:=λt=>by
     rw[PT.get_set];split
     .rename_i e;subst e;exact hk.symm
     .rfl
    obtain⟨A,z⟩:=c.congr (s':=⟨s.e.set k (Z (.f (.int kd') q)),s.h,s.nx⟩) he (λ_=>rfl) rfl;exact⟨A,z,he⟩
   |_=>cases h1
  |ptr a0 d=>
   simp only[]at h1 h2;cases hb:s.h.get a0 with
   |none=>rw[hb]at h1;cases h1
   |some b=>
    rw[hb]at h1 h2;cases b with
    |cells ty l=>
     cases ty with
     |none=>cases h1
     |some ty=>
     simp only[]at h1 h2;cases hl:l[d+off]? with
     |none=>rw[hl]at h1;cases h1
     |some y=>
      rw[hl]at h1;cases y with
      |f T q=>
       cases T with
       |int kd'=>
        simp only[af,aC]at h1;obtain⟨rfl,rfl⟩:=h1;simp only[af]at h2;subst h2;have hh:∀i,(s.h.set a0 (Z (.cells (Z ty) (splice l (d+off) [.f (.int kd') q])))).get i=s.h.get i:=λi=>by
         rw[PT.get_set];split
         .rename_i e;subst e;rw[hb,xY hl]
         .rfl
        obtain⟨A,z⟩:=c.congr (s':=⟨s.e,s.h.set a0 (Z (.cells (Z ty) (splice l (d+off) [.f (.int kd') q]))),s.nx⟩) (λ_=>rfl) hh rfl;exact⟨A,z,λ_=>rfl⟩
       |_=>cases h1
      |_=>cases h1
    |_=>cases h1
  |_=>cases h1
mutual
theorem LO (id sz n:Nat):∀v:TV,tK v=M->Ku id sz n v=v
 |.f _ _,_=>rfl
 |.fel _ _ _ _ _,_=>rfl
 |.emp,_=>rfl
 |.nil,_=>rfl
 |.undef,_=>rfl
 |.np,_=>rfl
 |.anyb,_=>rfl
 |.agg l,h=>by simp only[Ku];rw[AE id sz n l h]
 |.tup l,h=>by simp only[Ku];rw[AE id sz n l h]
 |.pel _ _ _ _,h=>by cases h
 |.ptr _ _,h=>by cases h
 |.csl _ _ _,h=>by cases h
 |.row _,h=>by cases h
 |.rtl _ _,h=>by cases h
 |.mp _,h=>by cases h
 |.ful _ _,h=>by cases h
 |.clo _ _,h=>by cases h
theorem AE (id sz n:Nat):∀l:Y TV,qm l=M->BB id sz n l=l
 |[],_=>rfl
 |x::r,h=>by
  simp only[qm,ak]at h;simp only[BB];rw[LO id sz n x h.1,AE id sz n r h.2]
end
section subs
variable {id sz n:Nat} {h h':bl}
mutual
theorem M' (hr:b8 h h') (hid:eh h' id=Z (aa,sz,n)):∀(v:TV) (y:AV),b_ h v=Z y->b_ h' (Ku id sz n v)=Z y
 |.csl i s m,y,he=>by
  simp only[b_,af]at he;subst he;simp only[Ku];split
  .rename_i hq;simp only[ak]at hq;have e1:=au hq.1.1;have e2:=au hq.1.2;have e3:=au hq.2;subst e1;subst e2;subst e3;simp only[b_,hid,fd,jT,bF,du]
  .rfl
 |.agg l,y,he=>by
  simp only[b_]at he;cases hl:cD h l with
  |none=>rw[hl]at he;cases he
  |some l'=>rw[hl]at he;simp only[Ku,b_,vj hr hid l l' hl];exact he
 |.tup l,y,he=>by
  simp only[b_]at he;cases hl:cD h l with
  |none=>rw[hl]at he;cases he
  |some l'=>rw[hl]at he;simp only[Ku,b_,vj hr hid l l' hl];exact he
 |.clo g l,y,he=>by
  simp only[b_]at he;cases hl:cD h l with
  |none=>rw[hl]at he;cases he
  |some l'=>rw[hl]at he;simp only[Ku,b_,vj hr hid l l' hl];exact he
 |.f T v,y,he=>fE hr _ _ he
 |.fel T xs j hj off,y,he=>fE hr _ _ he
 |.pel _ _ _ _,y,he=>fE hr _ _ he
 |.ptr _ _,y,he=>fE hr _ _ he
 |.row _,y,he=>fE hr _ _ he
 |.rtl _ _,y,he=>fE hr _ _ he
 |.emp,y,he=>fE hr _ _ he
 |.nil,y,he=>fE hr _ _ he
 |.mp _,y,he=>fE hr _ _ he
 |.undef,y,he=>fE hr _ _ he
 |.np,y,he=>fE hr _ _ he
 |.anyb,y,he=>fE hr _ _ he
 |.ful _ _,y,he=>fE hr _ _ he
theorem vj (hr:b8 h h') (hid:eh h' id=Z (aa,sz,n)):∀(l:Y TV) (l':Y AV),cD h l=Z l'->cD h' (BB id sz n l)=Z l'
 |[],l',he=>by simp only[cD,af]at he;subst he;rfl
 |x::r,l',he=>by
  obtain⟨y,l2,rfl,h1,h2⟩:=cW he;simp only[BB];exact o8 (M' hr hid x y h1) (vj hr hid r l2 h2)
end
end subs
theorem aii {φ:PM} {s:TS} {a:Act} {w:World} (c:oI P E nt np φ s a w) {T:Ty} {id sz n:Nat} {s':TS} (hp:pkS s T id sz n=Z s'):oI P E nt np φ s' a w/\Bn np φ φ (bB s.h) (bB s'.h) w w/\fU 0 s.e s'.e:=by
 unfold pkS at hp;split at hp
 .rename_i ty l hb;split at hp
  .rename_i hs;have hs:=au hs;subst hs;split at hp
   .rename_i xs m hpk;split at hp
    .cases hp
    .rename_i hmid;simp only[af]at hp;subst hp;have hm:dK s.h m:=Nk n l xs m hpk;obtain⟨l',hl⟩:=eY s.h l (c.invH.cells id _ l hb);have hidlt:=c.invH.low id _ hb;have nT:∀i,((PT.updI (λ_ b=>Wf id T.size n b) 1 0 (d9 m s.h)).set id (Z (.rows ty aa T xs))).get i=if i=id then Z (.rows ty aa T xs) else if aO m i then (s.h.get i).map uA else (s.h.get i).map (Wf id T.size n):=λi=>by
      rw[PT.get_set];by_cases e:i=id
      .rw[aT e,aT e]
      .rw[aL e,aL e,PT.get_updI,iU];split
       .cases hg:s.h.get i with
        |none=>rfl
        |some b=>cases b<;>rfl
       .rfl
     generalize hH2:((PT.updI (λ_ b=>Wf id T.size n b) 1 0 (d9 m s.h)).set id (Z (.rows ty aa T xs)))=h2 at nT ⊢;have hr:b8 s.h h2:=λi r hi=>by
      rw[bR]at hi ⊢;rw[nT];by_cases e:i=id
      .subst e;rw[hb]at hi;cases hi
      .rw[aL e];cases hg:s.h.get i with
       |none=>rw[hg]at hi;cases hi
       |some b=>
        rw[hg]at hi;split
        .exact LU hi
        .cases b<;>first|exact hi|cases hi
     have hnone:∀i,aO m i=M->bB h2 (nm i)=U:=λi hi=>by
      have e:i≠id:=λe=>by subst e;exact hmid hi
      obtain⟨ty',p',T',xs',A⟩:=hm i hi;rw[bK,nT,aL e,aT hi,A];rfl
     have hdom:ul (bB s.h) (bB h2):=λq b hq=>by
      obtain⟨i,cc,rfl,d,h4⟩:=jA hq;rw[bK];rw[nT]at d;by_cases e:i=id
      .subst e;rw[hb];simp only[aD,jB,hl];exact⟨_,rfl⟩
      .rw[aL e]at d;cases hg:s.h.get i with
       |none=>rw[hg]at d;split at d<;>cases d
       |some b0=>
        rw[hg]at d;split at d
        .simp only[bU,af]at d;subst d;cases b0<;>simp[uA,jB]at h4
        .simp only[bU,af]at d;subst d;simp only[aD];cases b0 with
         |cells ty0 l0=>
          obtain⟨l0',F⟩:=eY s.h l0 (c.invH.cells i _ l0 hg);exact⟨VP ty0 l0',by cases ty0<;>(simp only[jB,F];rfl)⟩
         |rows=>exact⟨_,h4⟩
         |dead=>exact⟨_,h4⟩
         |mp=>exact⟨_,h4⟩
     have giv:Dh s.h (bB s.h) (bB h2) m:=λi hi=>⟨rfl,hnone i hi⟩
     obtain⟨hle,hlen⟩:=BR hdom n l xs m l' hpk hl giv;have hrow:eh h2 id=Z (aa,T.size,n):=by rw[bR,nT,aT rfl,<-hlen];rfl
     have hV:GP (bB s.h) (bB h2):=⟨hdom,λq b b' d h4=>by
      obtain⟨i,cc,rfl,L,h6⟩:=jA h4;rw[bK]at d;rw[nT]at L;by_cases e:i=id
      .subst e;rw[aT rfl]at L;cases L;rw[hb]at d;simp only[aD,jB,hl,af]at d;subst d;simp only[jB,jT,bF,du,af]at h6;subst h6;refine ip.cells rfl rfl hle λx A=>?_
       simp only[BC.toMx]at A;obtain⟨q,hq,rfl⟩:=c7.1 A;exact rj T _ q hq
      .rw[aL e]at L;cases hg:s.h.get i with
       |none=>rw[hg]at L;split at L<;>cases L
       |some b0=>
        rw[hg]at L d;split at L
        .simp only[bU,af]at L;subst L;cases b0<;>simp[uA,jB]at h6
        .simp only[bU,af]at L;subst L;have:b=b':=by
          simp only[aD]at d;cases b0 with
          |cells ty0 l0=>
           obtain⟨l0',F⟩:=eY s.h l0 (c.invH.cells i _ l0 hg);cases ty0<;>
            (simp only[jB,F,af]at d
             simp only[Wf,jB,vj hr hrow l0 l0' F,af]at h6;rw[<- d,<-h6])
          |rows ty1 p1 T1 xs1=>
           have h3':jB h2 (.rows ty1 p1 T1 xs1)=Z b:=d;exact jW (h3'.symm.trans h6)
          |dead p1 s1 n1=>
           have h3':jB h2 (.dead p1 s1 n1)=Z b:=d;exact jW (h3'.symm.trans h6)
          |mp K1 V1 es1=>
           have h3':jB h2 (.mp K1 V1 es1)=Z b:=d;exact jW (h3'.symm.trans h6)
         subst this;exact ip.refl hdom b⟩
     refine ⟨⟨hV.rep c.rep,?_,c.dom,c.low,⟨λi ty' l2 hg=>?_,λi b hg=>?_⟩,?_,c.inert,c.size⟩,⟨GU.refl _ _,λk _ hk=>hdom.own hk,λ_ _=>rfl⟩,?_⟩
     .intro t x A;simp only[fw,PT.get_updI]at A;cases he:s.e.get t with
      |none=>rw[he]at A;cases A
      |some v=>
       rw[he]at A;obtain⟨z,hz⟩:=pd s.h v (c.invE t v he);simp only[bU,aD,M' hr hrow v z hz,af]at A;subst A;exact (c.env t _ (by simp only[fw,he,aD,hz])).dom hdom
     .rw[nT]at hg;by_cases e:i=id
      .rw[aT e]at hg;cases hg
      .rw[aL e]at hg;cases I:s.h.get i with
       |none=>rw[I]at hg;split at hg<;>cases hg
       |some b0=>
        rw[I]at hg;split at hg
        .simp only[bU,af]at hg;cases b0<;>simp[uA]at hg
        .simp only[bU,af]at hg;cases b0 with
         |cells ty0 l0=>
          simp only[Wf,ia.cells.injEq]at hg;obtain⟨_,rfl⟩:=hg;obtain⟨l0',F⟩:=eY s.h l0 (c.invH.cells i _ l0 I);exact jV _ _ _ (vj hr hrow l0 l0' F)
         |_=>cases hg
     .rw[nT]at hg;by_cases e:i=id
      .subst e;exact hidlt
      .rw[aL e]at hg;cases I:s.h.get i with
       |none=>rw[I]at hg;split at hg<;>cases hg
       |some b0=>exact c.invH.low i b0 I
     .intro t x A;simp only[PT.get_updI]at A;cases he:s.e.get t with
      |none=>rw[he]at A;cases A
      |some v=>
       rw[he]at A;simp only[bU,af]at A;subst A;obtain⟨z,hz⟩:=pd s.h v (c.invE t v he);exact D6 _ _ _ (M' hr hrow v z hz)
     .intro k _ v' D;simp only[PT.get_updI]at D;cases he:s.e.get k with
      |none=>rw[he]at D;cases D
      |some v=>
       rw[he]at D;simp only[bU,af]at D;subst D;exact⟨v,rfl,λhf=>LO _ _ _ v hf⟩
   .cases hp
  .cases hp
 .cases hp
theorem aid {φ:PM} {s:TS} {a:Act} {w:World} (c:oI P E nt np φ s a w) {k off:Nat} {s':TS} (h:Ly s (.ren k off)=Z s'):∃φ',oI P E nt np φ' s' a w/\Bn np φ φ' (bB s.h) (bB s'.h) w w/\fU (mq [.ren k off] 0) s.e s'.e:=by
 simp only[Ly]at h;split at h
 .rename_i b o hk;split at h
  .rename_i cty l hb;split at h
   .rename_i id hv;split at h
    .rename_i ty p T xs A;simp only[af]at h;subst h;have hfr:=c.invH.fresh;have hidlt:=c.invH.low id _ A;have hblt:=c.invH.low b _ hb;have hbid:b≠id:=λe=>by rw[e,A]at hb;cases hb
     have hbn:b≠s.nx:=by omega
     have hin:id≠s.nx:=by omega
     generalize hh2:(((s.h.set id (Z (.dead p T.size xs.length))).set s.nx (Z (.rows ty p T xs))).set b (Z (.cells (Z cty) (splice l (o+off) [.row s.nx]))))=h2;have nT:∀i,h2.get i=if i=b then Z (.cells (Z cty) (splice l (o+off) [.row s.nx])) else if i=s.nx then Z (.rows ty p T xs) else if i=id then Z (.dead p T.size xs.length) else s.h.get i:=λi=>by
      rw[<- hh2,PT.get_set,PT.get_set,PT.get_set]
     have hr:b8 s.h h2:=λi r hi=>by
      rw[bR]at hi ⊢;rw[nT];by_cases e1:i=b
      .subst e1;rw[hb]at hi;cases hi
      .rw[aL e1];by_cases e2:i=s.nx
       .subst e2;rw[hfr]at hi;cases hi
       .rw[aL e2];by_cases e3:i=id
        .subst e3;rw[aT rfl];rw[A]at hi;exact hi
        .rw[aL e3];exact hi
     have hlo:=c.invH.cells b _ l hb;obtain⟨L,hl'⟩:=eY s.h l hlo;have hrow:b_ h2 (.row s.nx)=Z (fd p s.nx T.size xs.length):=by
      simp only[b_,bR,nT];rw[aL hbn.symm];simp only[bE,aD,mM]
     have hsp:cD h2 (splice l (o+off) [.row s.nx])=Z (splice L (o+off) [fd p s.nx T.size xs.length]):=pL _ (fY hr _ _ hl') (by simp only[cD,hrow]);obtain⟨y,hy,hey⟩:=lh hl' _ _ hv;have hy0:y=fd p id T.size xs.length:=by
      simp only[b_,bR,A,aD,mM,af]at hey;exact hey.symm
     subst hy0;have hold:bB s.h (nm b)=Z ⟨cty,.mx L⟩:=by rw[bK,hb];simp only[aD,jB,hl']
     have hnew:bB h2 (nm b)=Z ⟨cty,.mx (splice L (o+off) [fd p s.nx T.size xs.length])⟩:=by
      rw[bK,nT,aT rfl];simp only[aD,jB,hsp]
     have hdead:bB h2 (nm id)=U:=by rw[bK,nT,aL hbid.symm,aL hin,aT rfl];rfl
     have hnx2:bB h2 (nm s.nx)=if p&&xs.length==0 then U else Z ⟨ty,.fz (xs.flatMap (bP T))⟩:=by rw[bK,nT,aL hbn.symm,aT rfl];rfl
     have hid0:bB s.h (nm id)=if p&&xs.length==0 then U else Z ⟨ty,.fz (xs.flatMap (bP T))⟩:=by rw[bK,A];rfl
     have hoth:∀n,n≠nm b->n≠nm s.nx->n≠nm id->bB h2 n=bB s.h n:=λn e1 e2 e3=>kr c.invH hr λi e=>by
      subst e;rw[nT,aL (λe=>e1 (by rw[e])),aL (λe=>e2 (by rw[e])),aL (λe=>e3 (by rw[e]))]
     have hnb:nm b≠nm s.nx:=λe=>hbn (kV e)
     have hbi:nm b≠nm id:=λe=>hbid (kV e)
     have hni:nm s.nx≠nm id:=λe=>hin (kV e).symm
     have hinv:mh h2 (s.nx+1):=by
      refine ⟨λi ty2 l2 hil=>?_,λi q hiq=>?_⟩
      .rw[nT]at hil;split at hil
       .simp only[af,ia.cells.injEq]at hil;obtain⟨_,rfl⟩:=hil;exact jV _ _ _ hsp
       .split at hil
        .cases hil
        .split at hil
         .cases hil
         .exact iR hr l2 (c.invH.cells i _ l2 hil)
      .rw[nT]at hiq;split at hiq
       .omega
       .split at hiq
        .omega
        .split at hiq
         .omega
         .have:=c.invH.low i q hiq;omega
     have hE:∀t x,fw s.e h2 t=Z x->fw s.e s.h t=Z x:=λt x d=>by
      simp only[fw]at d ⊢;cases he:s.e.get t with
      |none=>rw[he]at d;cases d
      |some q=>
       rw[he]at d;obtain⟨z,hz⟩:=pd s.h q (c.invE t q he);simp only[aD,fE hr q z hz,af]at d;subst d;simp only[aD,hz]
     by_cases hp:(p&&xs.length==0)=M
     ·
      have I:bB h2=bB s.h:=by
       funext n;by_cases e1:n=nm b
       .subst e1;rw[hold,hnew];have:fd p s.nx T.size xs.length=fd p id T.size xs.length:=by unfold fd;rw[aT hp,aT hp]
        rw[this,xY hy]
       .by_cases e2:n=nm s.nx
        .subst e2;rw[hnx2,aT hp,bK,hfr];rfl
        .by_cases e3:n=nm id
         .subst e3;rw[hdead,hid0,aT hp]
         .exact hoth n e1 e2 e3
      refine ⟨φ,⟨by rw[I];exact c.rep,λt x d=>by rw[I];exact c.env t x (hE t x d),λn q hq=>zf (c.dom n q hq),iu c.low,hinv,λt x d=>mS hr x (c.invE t x d),c.inert,c.size⟩,by rw[I];exact Bn.refl _ _ _ _,fU.refl _ _⟩
     .have hid1:bB s.h (nm id)=Z ⟨ty,.fz (xs.flatMap (bP T))⟩:=by rw[hid0,aL hp]
      obtain⟨kk,k1,k2,ob,k3,k4⟩:=c.rep.at_ _ _ hid1;have hφn:φ (nm s.nx)=U:=by
       cases hq:φ (nm s.nx) with
       |none=>rfl
       |some q=>have:=c.dom _ q hq;rw[dQ]at this;omega
      let nw:HF:=λn=>if n=nm s.nx then Z ⟨ty,.fz (xs.flatMap (bP T))⟩ else U
      have hsh:Es w w kk ob:=⟨rfl,rfl,rfl,rfl,k3,λ_ _=>rfl,λ_=>rfl⟩
      obtain⟨φ',p1,p2,p3,p4⟩:=c.rep.wren hid1 k1 hφn hsh k4 nw (by simp[nw]) (by simp only[nw];rw[aL hni.symm]);have hb1:eF (bB s.h) [nm s.nx,nm id] nw (nm b)=Z ⟨cty,.mx L⟩:=by
       unfold eF;rw[aL (by simp[hnb,hbi]),hold]
      obtain⟨kb,b1,b2,ob2,b3,b4⟩:=p4.at_ _ _ hb1;have hlt:o+off<L.length:=by
       rcases bM (o+off) L.length with h'|h'
       .exact h'
       .rw[bJ h']at hy;cases hy
      have hob:iV φ' (tot E φ' (eF (bB s.h) [nm s.nx,nm id] nw)) w ⟨cty,.mx (splice L (o+off) [fd p s.nx T.size xs.length])⟩ ob2:=by
       rw[pF rfl]at b4 ⊢;obtain⟨arr,a1,a2⟩:=b4;refine ⟨arr,a1,?_⟩;unfold uO at a2 ⊢;refine ⟨by simp only[BC.len]at a2 ⊢;rw[oo (by simp;omega)];exact a2.1,λj x d=>?_⟩;simp only[BC.get]at d a2;rw[mP (by simp;omega)]at d;split at d
       .exact a2.2 j x d
       .split at d
        .rename_i h3 D;simp only[cS]at D;have hj:j=o+off:=by omega
         subst hj;simp only[up,lG,af]at d;subst d;obtain⟨_,v,a3,a4⟩:=a2.2 _ _ hy;unfold fd at a4 ⊢;rw[aL hp]at a4 ⊢;refine ⟨rfl,v,a3,?_⟩;cases a4 with
         |@row _ _ _ cc q hφq hn hc hs2=>
          have:=p2.sub _ _ k1;rw[this,af]at hφq;subst hφq;exact .row p1 hn hc hs2
        .exact a2.2 j x d
      obtain⟨q1,q2⟩:=p4.wset hb1 b1 (⟨rfl,rfl,rfl,rfl,b3,λ_ _=>rfl,λ_=>rfl⟩:Es w w kb ob2) hob (λn=>if n=nm b then Z ⟨cty,.mx (splice L (o+off) [fd p s.nx T.size xs.length])⟩ else U) (by simp);have I:eF (eF (bB s.h) [nm s.nx,nm id] nw) [nm b] (λn=>if n=nm b then Z ⟨cty,.mx (splice L (o+off) [fd p s.nx T.size xs.length])⟩ else U)=bB h2:=by
       funext n;by_cases e1:n=nm b
       .subst e1;rw[hnew];simp[eF]
       .by_cases e2:n=nm s.nx
        .subst e2;rw[hnx2,aL hp];simp[eF,nw,hnb.symm]
        .by_cases e3:n=nm id
         .subst e3;rw[hdead];simp[eF,nw,hbi.symm,hni.symm]
         .rw[hoth n e1 e2 e3];simp[eF,e1,e2,e3]
      rw[I]at q1 q2;have m:=p2.trans q1;refine ⟨φ',⟨q2,λt x d=>m.keep (c.env t x (hE t x d)),λn q hq=>?_,iu c.low,hinv,λt x d=>mS hr x (c.invE t x d),c.inert,c.size⟩,⟨GU.refl _ _,m.own_,λi hi=>?_⟩,fU.refl _ _⟩
      .rcases p3 n q hq with D|D
       .exact zf (c.dom n q D)
       .simp only[aJ]at D;subst D;rw[dQ];exact kH _
      .cases hq:φ' (nm i) with
       |none=>
        cases hq2:φ (nm i) with
        |none=>rfl
        |some z=>rw[p2.sub _ _ hq2]at hq;cases hq
       |some z=>
        rcases p3 _ _ hq with D|D
        .exact D.symm
        .simp only[aJ]at D;have:=kV D;have:=c.low;omega
    .cases h
   .cases h
  .cases h
 .rename_i id hk;split at h
  .rename_i ty p T xs A;simp only[af]at h;subst h;have hfr:=c.invH.fresh;have hidlt:=c.invH.low id _ A;have hin:id≠s.nx:=by omega
   generalize hh2:((s.h.set id (Z (.dead p T.size xs.length))).set s.nx (Z (.rows ty p T xs)))=h2;have nT:∀i,h2.get i=if i=s.nx then Z (.rows ty p T xs) else if i=id then Z (.dead p T.size xs.length) else s.h.get i:=λi=>by
    rw[<- hh2,PT.get_set,PT.get_set]
   have hr:b8 s.h h2:=λi r hi=>by
    rw[bR]at hi ⊢;rw[nT];by_cases e2:i=s.nx
    .subst e2;rw[hfr]at hi;cases hi
    .rw[aL e2];by_cases e3:i=id
     .subst e3;rw[aT rfl];rw[A]at hi;exact hi
     .rw[aL e3];exact hi
   have hrow:b_ h2 (.row s.nx)=Z (fd p s.nx T.size xs.length):=by
    simp only[b_,bR,nT,bE,aD,mM]
   have hrow0:b_ s.h (.row id)=Z (fd p id T.size xs.length):=by
    simp only[b_,bR,A,aD,mM]
   have hdead:bB h2 (nm id)=U:=by rw[bK,nT,aL hin,aT rfl];rfl
   have hnx2:bB h2 (nm s.nx)=if p&&xs.length==0 then U else Z ⟨ty,.fz (xs.flatMap (bP T))⟩:=by rw[bK,nT,aT rfl];rfl
   have hid0:bB s.h (nm id)=if p&&xs.length==0 then U else Z ⟨ty,.fz (xs.flatMap (bP T))⟩:=by rw[bK,A];rfl
   have hoth:∀n,n≠nm s.nx->n≠nm id->bB h2 n=bB s.h n:=λn e2 e3=>kr c.invH hr λi e=>by
    subst e;rw[nT,aL (λe=>e2 (by rw[e])),aL (λe=>e3 (by rw[e]))]
   have hni:nm s.nx≠nm id:=λe=>hin (kV e).symm
   have hinv:mh h2 (s.nx+1):=by
    refine ⟨λi ty2 l2 hil=>?_,λi q hiq=>?_⟩
    .rw[nT]at hil;split at hil
     .cases hil
     .split at hil
      .cases hil
      .exact iR hr l2 (c.invH.cells i _ l2 hil)
    .rw[nT]at hiq;split at hiq
     .omega
     .split at hiq
      .omega
      .have:=c.invH.low i q hiq;omega
   have hE:∀t x,t≠k->fw (s.e.set k (Z (.row s.nx))) h2 t=Z x->fw s.e s.h t=Z x:=λt x ht d=>by
    simp only[fw,PT.get_set]at d ⊢;rw[aL ht]at d;cases he:s.e.get t with
    |none=>rw[he]at d;cases d
    |some q=>
     rw[he]at d;obtain⟨z,hz⟩:=pd s.h q (c.invE t q he);simp only[aD,fE hr q z hz,af]at d;subst d;simp only[aD,hz]
   have hIE:s6 (s.e.set k (Z (.row s.nx))) h2:=λt x d=>by
    simp only[PT.get_set]at d;split at d
    .cases d;exact D6 _ _ _ hrow
    .exact mS hr x (c.invE t x d)
   have hKp:fU (mq [.ren k off] 0) s.e (s.e.set k (Z (.row s.nx))):=λt ht v' hv'=>by
    simp only[PT.get_set]at hv';split at hv'
    .rename_i et;subst et;simp only[mq]at ht;rw[bw,bW.2 rfl]at ht;simp at ht
    .exact⟨v',hv',λ_=>rfl⟩
   have F:=c.env k (fd p id T.size xs.length) (by simp only[fw,hk,aD,hrow0]);by_cases hp:(p&&xs.length==0)=M
   .have I:bB h2=bB s.h:=by
     funext n;by_cases e2:n=nm s.nx
     .subst e2;rw[hnx2,aT hp,bK,hfr];rfl
     .by_cases e3:n=nm id
      .subst e3;rw[hdead,hid0,aT hp]
      .exact hoth n e2 e3
    have hsame:fd p s.nx T.size xs.length=fd p id T.size xs.length:=by unfold fd;rw[aT hp,aT hp]
    refine ⟨φ,⟨by rw[I];exact c.rep,λt x d=>?_,λn q hq=>zf (c.dom n q hq),iu c.low,hinv,hIE,c.inert,c.size⟩,by rw[I];exact Bn.refl _ _ _ _,hKp⟩;rw[I];by_cases ht:t=k
    .subst ht;simp only[fw,PT.get_set,bE,aD,hrow,af]at d;subst d;rw[hsame];exact F
    .exact c.env t x (hE t x ht d)
   .have hid1:bB s.h (nm id)=Z ⟨ty,.fz (xs.flatMap (bP T))⟩:=by rw[hid0,aL hp]
    obtain⟨kk,k1,k2,ob,k3,k4⟩:=c.rep.at_ _ _ hid1;have hφn:φ (nm s.nx)=U:=by
     cases hq:φ (nm s.nx) with
     |none=>rfl
     |some q=>have:=c.dom _ q hq;rw[dQ]at this;omega
    let nw:HF:=λn=>if n=nm s.nx then Z ⟨ty,.fz (xs.flatMap (bP T))⟩ else U
    have hsh:Es w w kk ob:=⟨rfl,rfl,rfl,rfl,k3,λ_ _=>rfl,λ_=>rfl⟩
    obtain⟨φ',p1,p2,p3,p4⟩:=c.rep.wren hid1 k1 hφn hsh k4 nw (by simp[nw]) (by simp only[nw];rw[aL hni.symm]);have I:eF (bB s.h) [nm s.nx,nm id] nw=bB h2:=by
     funext n;by_cases e2:n=nm s.nx
     .subst e2;rw[hnx2,aL hp];simp[eF,nw]
     .by_cases e3:n=nm id
      .subst e3;rw[hdead];simp[eF,nw,hni.symm]
      .rw[hoth n e2 e3];simp[eF,e2,e3]
    rw[I]at p2 p4;refine ⟨φ',⟨p4,λt x d=>?_,λn q hq=>?_,iu c.low,hinv,hIE,c.inert,c.size⟩,⟨GU.refl _ _,p2.own_,λi hi=>?_⟩,hKp⟩
    .by_cases ht:t=k
     .subst ht;simp only[fw,PT.get_set,bE,aD,hrow,af]at d;subst d;unfold fd at F ⊢;rw[aL hp]at F ⊢;generalize a.tmps.getD t undef=z at F;cases F with
      |@row _ _ _ cc q hφq hn hc hs2=>
       rw[k1,af]at hφq;subst hφq;exact .row p1 hn hc hs2
     .exact p2.keep (c.env t x (hE t x ht d))
    .rcases p3 n q hq with D|D
     .exact zf (c.dom n q D)
     .simp only[aJ]at D;subst D;rw[dQ];exact kH _
    .cases hq:φ' (nm i) with
     |none=>
      cases hq2:φ (nm i) with
      |none=>rfl
      |some z=>rw[p2.sub _ _ hq2]at hq;cases hq
     |some z=>
      rcases p3 _ _ hq with D|D
      .exact D.symm
      .simp only[aJ]at D;have:=kV D;have:=c.low;omega
  .cases h
 .cases h
theorem ag0 {φ:PM} {s:TS} {a:Act} {w:World} (c:oI P E nt np φ s a w) {ad:Adj} {s':TS} (h:Ly s ad=Z s') (hnr:∀k off,ad≠ .ren k off):oI P E nt np φ s' a w/\Bn np φ φ (bB s.h) (bB s'.h) w w/\fU (mq [ad] 0) s.e s'.e:=by
 cases ad with
 |ren k off=>exact dP rfl (hnr k off)
 |nil k ty T=>
  simp only[Ly]at h;split at h
  .rename_i v hv;split at h
   .rename_i hn;simp only[af]at h;subst h;obtain⟨A,F,hr⟩:=VZ c ty T;refine ⟨⟨A.rep,?_,A.dom,A.low,A.invH,?_,A.inert,A.size⟩,by rw[F];exact Bn.refl _ _ _ _,?_⟩
    .intro t x d;simp only[fw,PT.get_set]at d;split at d
     .rename_i et;subst et;simp only[aD,b_,bR,PT.get_set,bE,mM,fd,jX,cQ,gR,af]at d;subst d;obtain⟨z,D⟩:=pd s.h v (c.invE _ v hv);rw[F];exact Qw hn D _ _ _ _ (c.env _ _ (by simp only[fw,hv,aD,D]))
     .exact A.env t x d
    .intro t x d;simp only[PT.get_set]at d;split at d
     .cases d;simp only[KH,bR,PT.get_set,bE];rfl
     .exact A.invE t x d
    .intro t ht v' I;simp only[PT.get_set]at I;split at I
     .rename_i et;subst et;simp only[mq]at ht;rw[bw,bW.2 rfl]at ht;simp at ht
     .exact⟨v',I,λ_=>rfl⟩
   .simp only[af]at h;subst h;exact⟨c,Bn.refl _ _ _ _,fU.refl _ _⟩
  .cases h
 |cel k off ty T=>
  simp only[Ly]at h;split at h
  .rename_i id o hk;split at h
   .rename_i cty l hb;split at h
    .rename_i v hv;split at h
     .rename_i hn;simp only[af]at h;subst h;obtain⟨A,F,hr⟩:=VZ c ty T;have hid:id≠s.nx:=λe=>by have:=c.invH.low id _ hb;omega
      obtain⟨c2,t2⟩:=Z9 A (id:=id) (cty:=cty) (l:=l) (v:=v) (u:=.row s.nx) (by show (s.h.set s.nx _).get id=_;rw[PT.get_set,aL hid];exact hb) hv hn (by simp only[b_,bR,PT.get_set,bE,aD,mM,fd,jX,cQ,gR]) (by simp only[KH,bR,PT.get_set,bE];rfl);exact⟨c2,by rw[<- F];exact t2,fU.refl _ _⟩
     .simp only[af]at h;subst h;exact⟨c,Bn.refl _ _ _ _,fU.refl _ _⟩
    .cases h
   .cases h
  .cases h
 |mpt k K V=>
  simp only[Ly]at h;split at h
  .rename_i id hk;split at h
   .rename_i K' V' es hb;split at h
    .rename_i L;simp only[af]at h;subst h;have hr:b8 s.h (s.h.set id (Z (.mp K V []))):=b8.set λr hr=>by rw[bR,hb]at hr;cases hr
     have F:bB (s.h.set id (Z (.mp K V [])))=bB s.h:=by
      funext n;by_cases hn:n=nm id
      .subst hn;rw[bK,bK,PT.get_set,aT rfl,hb];simp only[aD,jB,yi (Y0 (ud.1 L).1),yi (ud.1 L).2,Ns (ud.1 L).1,List.map_nil]
      .refine kr c.invH hr λi e=>?_
       subst e;rw[PT.get_set,aL (λe=>hn (by rw[e]))]
     refine ⟨⟨by rw[F];exact c.rep,?_,c.dom,c.low,c.invH.set hr (c.invH.low id _ hb) (cF _) (λ_ _ he=>by cases he),λt x d=>mS hr x (c.invE t x d),c.inert,c.size⟩,by rw[F];exact Bn.refl _ _ _ _,fU.refl _ _⟩;intro t x d;rw[F];simp only[fw]at d;cases he:s.e.get t with
     |none=>rw[he]at d;cases d
     |some q=>
      rw[he]at d;obtain⟨z,D⟩:=pd s.h q (c.invE t q he);simp only[aD,fE hr q z D,af]at d;subst d;exact c.env t _ (by simp only[fw,he,aD,D])
    .simp only[af]at h;subst h;exact⟨c,Bn.refl _ _ _ _,fU.refl _ _⟩
   .cases h
  .cases h
 |mz k n=>
  simp only[Ly]at h;split at h
  .rename_i id hk;split at h
   .rename_i K' V' es hb;split at h
    .rename_i L;simp only[af]at h;subst h;have hr:b8 s.h (s.h.set id (Z (.cells U (aA n .nil)))):=b8.set λr hr=>by rw[bR,hb]at hr;cases hr
     have hold:bB s.h (nm id)=Z ⟨0,.mp []⟩:=by rw[bK,hb];simp only[aD,jB,yi (Y0 L),Ns L,List.map_nil]
     have hvs:∀(h:bl) m,cD h (aA m .nil)=Z (aA m (.f (.raw (.slice U 0 0)))):=λh m=>by
      induction m with
      |zero=>rfl
      |succ m ih=>rw[pU,pU];simp only[cD,b_,ih]
     have hnew:bB (s.h.set id (Z (.cells U (aA n .nil)))) (nm id)=Z ⟨1,.mp (oG 0 (aA n (.f (.raw (.slice U 0 0)))))⟩:=by
      rw[bK,PT.get_set,aT rfl];simp only[aD,jB,hvs]
     have hoth:∀q,q≠nm id->bB (s.h.set id (Z (.cells U (aA n .nil)))) q=bB s.h q:=λq hn'=>kr c.invH hr λi e=>by
      subst e;rw[PT.get_set,aL (λe=>hn' (by rw[e]))]
     have hdom:ul (bB s.h) (bB (s.h.set id (Z (.cells U (aA n .nil))))):=λq b hb'=>by
      by_cases e:q=nm id
      .subst e;exact⟨_,hold⟩
      .rw[hoth q e]at hb';exact⟨b,hb'⟩
     have hV:GP (bB s.h) (bB (s.h.set id (Z (.cells U (aA n .nil))))):=⟨hdom,λq b b' h1 h2=>by
      by_cases e:q=nm id
      .subst e;rw[hold]at h1;cases h1;rw[hnew]at h2;cases h2;exact ip.lay n
      .rw[hoth q e,h1]at h2;cases h2;exact ip.refl hdom b⟩
     refine ⟨⟨hV.rep c.rep,?_,c.dom,c.low,c.invH.set hr (c.invH.low id _ hb) (cF _) (λty l2 he=>?_),λt x d=>mS hr x (c.invE t x d),c.inert,c.size⟩,⟨GU.refl _ _,λk _ ho=>hdom.own ho,λ_ _=>rfl⟩,fU.refl _ _⟩
     .intro t x d;simp only[fw]at d;cases he:s.e.get t with
      |none=>rw[he]at d;cases d
      |some q=>
       rw[he]at d;obtain⟨z,D⟩:=pd s.h q (c.invE t q he);simp only[aD,fE hr q z D,af]at d;subst d;exact (c.env t _ (by simp only[fw,he,aD,D])).dom hdom
     .simp only[ia.cells.injEq]at he;obtain⟨_,rfl⟩:=he;exact jV _ _ _ (hvs _ n)
    .cases h
   .simp only[af]at h;subst h;exact⟨c,Bn.refl _ _ _ _,fU.refl _ _⟩
  .cases h
 |pk k off T=>
  simp only[Ly]at h;split at h
  .obtain⟨h1,h2,h3⟩:=aii c h;exact⟨h1,h2,h3.mono λk hk=>by simp at hk⟩
  .cases h
theorem afz {φ:PM} {s:TS} {a:Act} {w:World} (c:oI P E nt np φ s a w) {d:Adj} {s':TS} (h:Ly s d=Z s'):∃φ',oI P E nt np φ' s' a w/\Bn np φ φ' (bB s.h) (bB s'.h) w w/\fU (mq [d] 0) s.e s'.e:=by
 by_cases hn:∃k off,d= .ren k off
 .obtain⟨k,off,rfl⟩:=hn;exact aid c h
 .exact⟨φ,ag0 c h λk off e=>hn ⟨k,off,e⟩⟩
theorem UG {φ:PM} {a:Act} {w:World}:∀{l:Y Adj} {s s':TS},oI P E nt np φ s a w->Xu s l=Z s'->∃φ',oI P E nt np φ' s' a w/\Bn np φ φ' (bB s.h) (bB s'.h) w w/\fU (mq l 0) s.e s'.e
 |[],s,s',c,h=>by simp only[Xu,af]at h;subst h;exact⟨φ,c,Bn.refl _ _ _ _,fU.refl _ _⟩
 |d::r,s,s',c,h=>by
  simp only[Xu]at h;split at h
  .rename_i s1 h1;obtain⟨φ1,D,t1,k1⟩:=afz c h1;obtain⟨φ2,A,z,k2⟩:=UG D h;refine ⟨φ2,A,t1.trans z,(k1.mono ?_).trans (k2.mono ?_)⟩
   .intro k hk;cases d with
    |nil q ty T=>simp only[mq]at hk ⊢;rw[li,bw,hk];rfl
    |cel q off ty T=>simp[mq]at hk
    |mpt q K V=>simp[mq]at hk
    |mz q n=>simp[mq]at hk
    |pk q off T=>simp[mq]at hk
    |ren q off=>simp only[mq]at hk ⊢;rw[li,bw,hk];rfl
   .intro k hk;cases d with
    |nil q ty T=>simp only[mq];rw[li,bw,hk];simp
    |cel q off ty T=>simp only[mq];exact hk
    |mpt q K V=>simp only[mq];exact hk
    |mz q n=>simp only[mq];exact hk
    |pk q off T=>simp only[mq];exact hk
    |ren q off=>simp only[mq];rw[li,bw,hk];simp
  .cases h
mutual
theorem Qo {h:bl}:∀(v:TV) (y:AV),tK v=M->b_ h v=Z y->y.all (λ_=>aa)=M
 |.f _ _,y,_,he=>by simp only[b_,af]at he;subst he;rfl
 |.fel _ _ _ _ _,y,_,he=>by simp only[b_,af]at he;subst he;rfl
 |.emp,y,_,he=>by simp only[b_,af]at he;subst he;rfl
 |.nil,y,_,he=>by simp only[b_,af]at he;subst he;rfl
 |.undef,y,_,he=>by simp only[b_,af]at he;subst he;rfl
 |.np,y,_,he=>by simp only[b_,af]at he;subst he;rfl
 |.anyb,y,_,he=>by simp only[b_,af]at he;subst he;rfl
 |.agg l,y,hl,he=>by
  simp only[b_]at he;split at he
  .rename_i l' hl';simp only[af]at he;subst he;exact DY l l' hl hl'
  .cases he
 |.tup l,y,hl,he=>by
  simp only[b_]at he;split at he
  .rename_i l' hl';simp only[af]at he;subst he;exact DY l l' hl hl'
  .cases he
 |.pel _ _ _ _,_,h,_=>by cases h
 |.ptr _ _,_,h,_=>by cases h
 |.csl _ _ _,_,h,_=>by cases h
 |.row _,_,h,_=>by cases h
 |.rtl _ _,_,h,_=>by cases h
 |.mp _,_,h,_=>by cases h
 |.ful _ _,_,h,_=>by cases h
 |.clo _ _,_,h,_=>by cases h
theorem DY {h:bl}:∀(l:Y TV) (l':Y AV),qm l=M->cD h l=Z l'->AV.allL (λ_=>aa) l'=M
 |[],l',_,he=>by simp only[cD,af]at he;subst he;rfl
 |x::r,l',hl,he=>by
  obtain⟨y,l2,rfl,e1,e2⟩:=cW he;simp only[qm,ak]at hl;simp only[AV.allL,ak];exact⟨Qo x y hl.1 e1,DY r l2 hl.2 e2⟩
end
mutual
theorem Vq (h:bl):∀(v:TV),tK v=M->KH h v=M
 |.f _ _,_=>rfl
 |.fel _ _ _ _ _,_=>rfl
 |.emp,_=>rfl
 |.nil,_=>rfl
 |.undef,_=>rfl
 |.np,_=>rfl
 |.anyb,_=>rfl
 |.agg l,hl=>II h l hl
 |.tup l,hl=>II h l hl
 |.pel _ _ _ _,h=>by cases h
 |.ptr _ _,h=>by cases h
 |.csl _ _ _,h=>by cases h
 |.row _,h=>by cases h
 |.rtl _ _,h=>by cases h
 |.mp _,h=>by cases h
 |.ful _ _,h=>by cases h
 |.clo _ _,h=>by cases h
theorem II (h:bl):∀(l:Y TV),qm l=M->kU h l=M
 |[],_=>rfl
 |x::r,hl=>by
  simp only[qm,ak]at hl;simp only[kU,ak];exact⟨Vq h x hl.1,II h r hl.2⟩
end
structure Seen (np:Nat) (t:Tm) (x:t.ty.den) (us:List TV) (h1:bl) (φ φ':PM) (H:HF) (E:Nat->Prop) (w:World) (la lu:List AV):Prop where
 rep:qO φ' E (bB h1) w
 val:∀(j:Nat) y v,lu[j]? =Z y->∃z,la[j]? =Z z/\(cH φ (tot E φ H) w z v->cH φ' (tot E φ' (bB h1)) w y v)
 len:lu.length=la.length
 tot_:∀k,tot E φ' (bB h1) k->tot E φ H k
 own_:∀k,own φ' (bB h1) k->own φ H k
 dom:∀n k,φ' n=Z k->ow n<t.bs.length
 par:∀i,i<np->i<t.bs.length->φ' (nm i)=φ (nm i)
theorem Kz {t:Tm} {x:t.ty.den} {us:Y TV} {h1:bl} {l1:Y (J ia)} (I:qD t x us h1 l1) {h:bl} {nx:Nat} (hinv:mh h nx) {vs:Y TV} {m:Nat} {σ:PT Nat} {sm:Nat} (g:Hp np t vs h x m σ sm) {la:Y AV} (hla:cD h vs=Z la) {φ:PM} {w:World} (r:qO φ E (bB h) w):∃φ' lu,cD h1 us=Z lu/\Seen np t x us h1 φ φ' (bB h) E w la lu:=by
 obtain⟨x1,m1,x2,m2,hx,hmm,gv,gb⟩:=g.ex;have hmr:dK h m:=by rw[hmm];exact (He _ _ _ _ gv).or (Hg _ _ _ _ gb)
 have pvg:pY (hZ σ) t.vs x1=Z (kK (hZ σ) us):=by
  have s:=s8 (hZ σ) t.vs x1;have d:=I.pv;rw[hx,sX]at d;rw[s,d];rfl
 have pbg:ou (hZ σ) t.bs x2=Z (l1.map (l7 (lJ (hZ σ)))):=by
  have s:=vm (hZ σ) t.bs x2;have d:=I.pb;rw[hx,uu]at d;rw[s,d];rfl
 have hbm:∀i b,l1[i]? =Z (Z b)->∃b0,h.get (hZ σ i)=Z b0/\BM (hZ σ) h m b0 (lJ (hZ σ) b):=λi b hb=>by
  obtain⟨b0,q1,q2⟩:=IG t.bs 0 x2 m2 _ gb pbg i (lJ (hZ σ) b) (by rw[bi,hb];rfl);rw[bL]at q1;exact⟨b0,q1,q2.mono λj hj=>by rw[hmm,bw,hj];simp⟩
 let hv:bl:=zN (hZ σ) 0 (l1.map (l7 (lJ (hZ σ)))) PT.leaf
 have hv_at:∀i b,l1[i]? =Z (Z b)->hv.get (hZ σ i)=Z (lJ (hZ σ) b):=λi b hb=>by
  have:=uz (hZ σ) (l1.map (l7 (lJ (hZ σ)))) 0 PT.leaf (λa b D hb=>by
   simp only[ca,I.len]at D hb;simp only[bL];exact g.inj a b D hb) i (Z (lJ (hZ σ) b)) (by rw[bi,hb];rfl)
  rw[bL]at this;exact this
 have hv_ex:∀j c,hv.get j=Z c->∃i b,l1[i]? =Z (Z b)/\j=hZ σ i/\c=lJ (hZ σ) b:=λj c hj=>by
  by_cases hex:∃i,i<l1.length/\j=hZ σ i
  .obtain⟨i,hi,rfl⟩:=hex;have hcc:=ax hi;cases hcv:l1[i] with
   |some b=>rw[hcv]at hcc;rw[hv_at i b hcc]at hj;cases hj;exact⟨i,b,hcc,rfl,rfl⟩
   |none=>
    rw[hcv]at hcc;have:=uz (hZ σ) (l1.map (l7 (lJ (hZ σ)))) 0 PT.leaf (λa b D hb=>by
     simp only[ca,I.len]at D hb;simp only[bL];exact g.inj a b D hb) i U (by rw[bi,hcc];rfl)
    rw[bL]at this;have A:(zN (hZ σ) 0 (l1.map (l7 (lJ (hZ σ)))) PT.leaf).get (hZ σ i)=Z c:=hj;rw[this]at A;simp[PT.get]at A
  .have:hv.get j=(PT.leaf:bl).get j:=uy (hZ σ) _ 0 _ j λk hk=>by
    simp only[ca]at hk;rw[bL];exact λe=>hex ⟨k,hk,e⟩
   rw[this]at hj;simp[PT.get]at hj
 have rows_in:w_ hv h:=λj q hq=>by
  rw[bR]at hq ⊢;cases hc:hv.get j with
  |none=>rw[hc]at hq;cases hq
  |some c=>
   rw[hc]at hq;obtain⟨i,b,q1,rfl,rfl⟩:=hv_ex j c hc;obtain⟨b0,q2,q3⟩:=hbm i b q1;rw[q2];simp only[aD]at hq ⊢;rw[<- q3.row];exact hq
 have rows_h1:∀i q,eh h1 i=Z q->eh hv (hZ σ i)=Z q:=λi q hq=>by
  rw[bR]at hq ⊢;cases hb:h1.get i with
  |none=>rw[hb]at hq;cases hq
  |some b=>
   rw[hb]at hq;rw[hv_at i b ((I.at_ i b).1 hb)];simp only[aD,HB]at hq ⊢;exact hq
 have hd:ul (bB h) (bB hv):=λn y F=>by
  obtain⟨j,c,rfl,s,d⟩:=jA F;obtain⟨i,b,q1,rfl,rfl⟩:=hv_ex j c s;obtain⟨b0,q2,q3⟩:=hbm i b q1;obtain⟨y0,L⟩:=BM.erB_some hinv q2 q3 d;exact⟨y0,by rw[bK,q2];exact L⟩
 have gvv:Dh h (bB h) (bB hv) m:=λi hi=>⟨rfl,by
  cases hc:bB hv (nm i) with
  |none=>rfl
  |some y=>
   obtain⟨j,c,e,s,d⟩:=jA hc;have:=kV e;subst this;obtain⟨k,b,q1,rfl,rfl⟩:=hv_ex i c s;have hk:k<t.bs.length:=by rw[<- I.len];exact (bm.1 q1).1
   have h5:=g.disj _ hi;rw[(g.sig _).2 ⟨k,hk,rfl⟩]at h5;cases h5⟩
 have V:GP (bB h) (bB hv):=⟨hd,λn b b' hb hb'=>by
  obtain⟨j,c,rfl,s,d⟩:=jA hb';obtain⟨i,bb,q1,rfl,rfl⟩:=hv_ex j c s;obtain⟨b0,q2,q3⟩:=hbm i bb q1;rw[bK,q2]at hb;exact BM.view hd gvv rows_in q3 hb d⟩
 have rv:=V.rep r;have T:ade t x us h1 (hZ σ) φ E E (bB hv) w:=by
  refine qO.toId I g.inj rv (λi b yb hb hyb=>?_) (λk hk=>.inl hk) (λi k b hi s d hE=>?_) rv.el
  .rw[bK,hv_at i b ((I.at_ i b).1 hb)];exact Cm rows_h1 hyb
  .obtain⟨k',p1,p2,_⟩:=rv.at_ _ _ s;rw[d]at p1;cases p1;exact p2 hE
 obtain⟨lu,hlu⟩:=eY h1 us I.ok;have hlug:cD hv (kK (hZ σ) us)=Z (AV.renL (Hh (hZ σ)) lu):=o7 rows_h1 us lu hlu;have hle:=Cg hd rows_in t.vs vs x1 m1 _ la _ gv pvg hla hlug (λi hi=>gvv i (by rw[hmm,bw,hi];rfl));have hall:=rG us lu I.lt hlu;refine ⟨_,lu,hlu,T.rep,λj y v F=>?_,?_,λk hk=>hd.tot (T.tot_ k hk),λk hk=>hd.own (T.own_ k hk),λn k hk=>?_,λi hi hb=>?_⟩
 .rw[mR]at hle;obtain⟨z,hz,hlz⟩:=hle.get j (y.ren (Hh (hZ σ))) (by rw[bi,F];rfl);exact⟨z,hz,λhr=>T.val y v (mf hall y (bh F)) (hlz _ _ _ _ r hr)⟩
 .have:=hle.length;rw[mR,ca]at this;exact this
 .obtain⟨i,hi,rfl,_⟩:=wg hk;rw[dQ];exact hi
 .rw[Yo hb,g.fix i hi]
theorem Nw {φ:PM} {s':TS} {a:Act} {w:World} (c:oI P E nt np φ s' a w) {A:Yh} {am:Nat} {s0 s1:TS} {x:A.D} (d:Lb np A am s0 s'=Z x) (hs:FX A am s0 x=Z s1)
 (hk:∀k,k∈A.keep->k∉A.ks->∀v,s0.e.get k=Z v->tK v=M->aO am k=aa->∀s,s'.e.get k=Z s->s=v):∃φ',oI P E nt np φ' s1 a w/\Bn np φ φ' (bB s'.h) (bB s1.h) w w:=by
 unfold Lb at d;split at d
 .rename_i hc;simp only[ak]at hc;have hnp:=a_ hc.1;split at d
  .rename_i s2 h2;obtain⟨φ2,L,t2,_⟩:=UG c h2;split at d
   .rename_i vs hvs;split at d
    .rename_i z m σ sm hM;simp only[af]at d;subst d;have g:=vy hM;unfold FX at hs;split at hs
     .rename_i us h1 hi;obtain⟨l1,I⟩:=vD hi;split at hs
      .rename_i hlen;have hlen:=au hlen;simp only[af]at hs;subst hs;obtain⟨g1,g2⟩:=Vo hvs;have hvok:kU s2.h vs=M:=HQ L.invE hvs;obtain⟨la,hla⟩:=eY s2.h vs hvok;obtain⟨φ',lu,hlu,S⟩:=Kz (E:=E) I L.invH g hla L.rep;refine ⟨φ',⟨S.rep,?_,S.dom,hnp,⟨λi ty l hl=>(I.cells i _ l hl).1,λi b hb=>I.lt_len hb⟩,?_,c.inert,c.size⟩,t2.trans ⟨GU.refl _ _,λk _ h=>S.own_ k h,λi hi=>S.par i hi (by omega)⟩⟩
       .intro t y q;simp only[fw]at q;cases ht:(Wi (B5 am s0.e A.keep) A.ks us).get t with
        |none=>rw[ht]at q;cases q
        |some v=>
         rw[ht]at q;simp only[aD]at q;rcases BF hlen t v ht with ⟨j,q1,q2⟩|⟨q1,q2⟩
         .obtain⟨y',p1,p2⟩:=lh hlu j v q2;rw[q]at p2;cases p2;obtain⟨z,p3,p4⟩:=S.val j y (a.tmps.getD t undef) p1;refine p4 ?_;obtain⟨v0,p5,p6⟩:=g2 j t q1;obtain⟨z',p7,p8⟩:=lh hla j v0 p5;rw[p3]at p7;cases p7;exact L.env t _ (by simp only[fw,p6,aD,p8])
         .obtain⟨k1,k2,k3,k4⟩:=tb q2;obtain⟨s,k5⟩:=Ie hc.2 t v k1 k2 k3 k4;have:=hk t k1 q1 v k2 k3 k4 s k5;subst this;have h3:=c.env t y (by simp only[fw,k5,aD];rw[Qx s'.h h1 s k3];exact q);exact h3.restrict (p:=λ_=>aa) (λi k hi _=>by cases hi) (λk hk=>by
           have F:=S.tot_ k hk;rcases F with F|F
           .exact .inl F
           .exact .inr (by
             have hkl:k<w.heap.size:=by
              obtain⟨n,b,e1,e2⟩:=F;obtain⟨k',p1,_,ob,p3,_⟩:=L.rep.at_ n b e1;rw[e2]at p1;cases p1;exact (ct.1 p3).1
             exact t2.own_ k hkl F)) (Qo s y k3 q)
       .intro t v hv;rcases BF hlen t v hv with ⟨j,q1,q2⟩|⟨q1,q2⟩
        .obtain⟨y',_,p2⟩:=lh hlu j v q2;exact D6 _ _ _ p2
        .exact Vq _ v (tb q2).2.2.1
      .cases hs
     .cases hs
    .cases d
   .cases d
  .cases d
 .cases d
theorem Dm {A:Yh} {am:Nat} {d s1:TS} {x:A.D} (hs:FX A am d x=Z s1):fU (KK A.ks 0) d.e s1.e/\∀k,k∉A.ks->∀v,s1.e.get k=Z v->d.e.get k=Z v:=by
 unfold FX at hs;split at hs
 .rename_i us h1 hi;split at hs
  .rename_i hlen;have hlen:=au hlen;simp only[af]at hs;subst hs;have key:∀k,k∉A.ks->∀v,(Wi (B5 am d.e A.keep) A.ks us).get k=Z v->d.e.get k=Z v:=λk hk v hv=>by
    rcases BF hlen k v hv with ⟨j,q1,_⟩|⟨_,q2⟩
    .exact dP (bh q1) hk
    .exact (tb q2).2.1
   refine ⟨λk hk q hv=>?_,key⟩;have hnk:k∉A.ks:=λhm=>by rw[Vg hm]at hk;cases hk
   exact⟨q,key k hnk q hv,λ_=>rfl⟩
  .cases hs
 .cases hs
end walk
inductive Er:TC->SC->Prop
 |skip:Er .skip .skip
 |reg (ops:List sj) (prs:List (Nat×Nat)):Er (.reg ops prs) (.reg ops prs)
 |seq {a b:TC} {a' b':SC}:Er a a'->Er b b'->Er (.seq a b) (.seq a' b')
 |jseq (A:Yh) {a b:TC} {a' b':SC}:Er a a'->Er b b'->Er (.jseq A a b) (.seq a' b')
 |cond (c:Nat) {a b:TC} {a' b':SC}:Er a a'->Er b b'->Er (.cond c a b) (.cond c a' b')
 |block (id:Nat) {b:TC} {b':SC}:Er b b'->Er (.block id b) (.block id b')
 |jblock (A:Yh) (id:Nat) {b:TC} {b':SC}:Er b b'->Er (.jblock A id b) (.block id b')
 |loop (A:Yh) {b:TC} {b':SC}:Er b b'->Er (.loop A b) (.loop b')
 |exit (id:Nat):Er (.exit id) (.exit id)
 |ret:Er .ret .ret
 |defer (f:FuncId) (c:List Operand) (t:Nat):Er (.defer f c t) (.defer f c t)
 |adj (l:List Adj) {c:TC} {c':SC}:Er c c'->Er (.adj l c) c'
 |split (k off lo n:Nat) {c:TC} {c':SC}:Er c c'->Er (.split k off lo n c) c'
 |bsp (t:Nat) {a b:TC} {c':SC}:Er a c'->Er b c'->Er (.bsp t a b) c'
 |unl (n:Nat) {b:TC} {b':SC}:Er b b'->Er (.unl n b) (.loop b')
 |bad (c:SC):Er .bad c
theorem Bw {H:PT aap} {n:Nat} {c:TC} {c':SC} (h:Er c c'):Er (Hs H n c) c':=by
 unfold Hs;split
 .exact .adj _ h
 .exact .split _ _ _ _ h
 .exact .bsp _ (.split _ _ _ _ h) h
 .exact h
theorem wT (H:PT aap):∀(c:SC) (n:Nat),Er (CR H c n).1 c
 |.skip,n=>Bw .skip
 |.reg o p,n=>Bw (.reg o p)
 |.seq a b,n=>by
  have h1:=wT H a (n+1);have h2:=wT H b (CR H a (n+1)).2;simp only[CR];split
  .exact .jseq _ h1 h2
  .exact .seq h1 h2
 |.cond c a b,n=>by
  have h1:=wT H a (n+1);have h2:=wT H b (CR H a (n+1)).2;simp only[CR];exact Bw (.cond c h1 h2)
 |.block id b,n=>by
  have h1:=wT H b (n+1);simp only[CR];split
  .exact .jblock _ id h1
  .exact .block id h1
 |.loop b,n=>by
  have h1:=wT H b (n+1);simp only[CR];split
  .exact .loop _ h1
  .exact .unl _ h1
  .exact .bad _
 |.exit id,n=>Bw (.exit id)
 |.ret,n=>Bw .ret
 |.defer f c t,n=>.defer f c t
 |.bad,n=>.bad _
theorem Ww {σ R:Type} {step:σ->J (σ⊕R)} {x:σ} {r:R} (h:iter step x=Z r):∃n,iterN step n x=Z r:=by
 unfold iter at h;split at h
 .exact⟨_,h⟩
 .cases h
theorem Vj {α R:Type} {o:J (R⊕α)} {k:α->J R} {r:R} (h:jn o k=Z r):(∃x,o=Z (.inr x)/\k x=Z r)\/o=Z (.inl r):=by
 unfold jn at h;split at h
 .exact .inl ⟨_,rfl,h⟩
 .cases h;exact .inr rfl
 .cases h
section inv
variable {P:Program} {nt:Nat}
theorem yT (id:Nat) (ops:Array Oper) (q:Bool):co P nt (.region id ops q)= .bad\/
 ((ops.toList.all λo=>match o.dst with|some d=>decide (d<nt)|none=>M)=M/\
   ((∃f caps t,CQ ops q=Z (f,caps,t)/\co P nt (.region id ops q)= .defer f caps t)\/
    ∃l prs,rP P ops ops.toList=Z l/\LY ops l=Z prs/\co P nt (.region id ops q)= .reg l prs)):=by
 simp only[co];split
 .rename_i hd;split
  .rename_i f caps t h;exact .inr ⟨hd,.inl ⟨f,caps,t,h,rfl⟩⟩
  .split
   .rename_i l hl;split
    .rename_i prs hp;exact .inr ⟨hd,.inr ⟨l,prs,hl,hp,rfl⟩⟩
    .exact .inl rfl
   .exact .inl rfl
 .exact .inl rfl
def Dr:Code->Bool
 |.cond (.const (.bool _)) _ _=>aa
 |_=>M
theorem kf (P:Program) (nt:Nat) (c:Code):∃c',Dr c'=M/\co P nt c'=co P nt c/\∀Q a w,c'.wp P Q a w->c.wp P Q a w:=by
 have self:∀c:Code,Dr c=M->∃c',Dr c'=M/\co P nt c'=co P nt c/\∀Q a w,c'.wp P Q a w->c.wp P Q a w:=λc h=>⟨c,h,rfl,λ_ _ _ h=>h⟩
 induction c with
 |cond o x y ihx ihy=>
  cases o with
  |const v=>
   cases v with
   |bool b=>
    cases b with
    |true=>
     obtain⟨c',h1,h2,d⟩:=ihx;exact⟨c',h1,h2,λQ a w h=>wp_cond_true rfl (d Q a w h)⟩
    |false=>
     obtain⟨c',h1,h2,d⟩:=ihy;exact⟨c',h1,h2,λQ a w h=>wp_cond_false rfl (d Q a w h)⟩
   |_=>exact self _ rfl
  |_=>exact self _ rfl
 |_=>exact self _ rfl
theorem EX {α:Prop} {o:Operand} {x y:Code} {sc:SC} (hn:Dr (.cond o x y)=M) (h:co P nt (.cond o x y)=sc) (h1:sc≠ .bad) (h2:∀t a b,sc≠ .cond t a b):α:=by
 cases o with
 |tmp q=>exact (h2 _ _ _ h.symm).elim
 |const v=>cases v<;>first|exact (h1 h.symm).elim|cases hn
 |global g=>exact (h1 h.symm).elim
 |func f=>exact (h1 h.symm).elim
theorem ac8 {c:Code} {sl:Y sj} {prs:Y (Nat×Nat)} (hn:Dr c=M) (h:co P nt c= .reg sl prs):∃id ops q,c= .region id ops q/\(ops.toList.all λo=>match o.dst with|some d=>decide (d<nt)|none=>M)=M/\rP P ops ops.toList=Z sl/\LY ops sl=Z prs:=by
 cases c with
 |region id ops q=>
  rcases yT (P:=P) (nt:=nt) id ops q with h1|⟨hd,⟨f,caps,t,_,h1⟩|⟨l,p,h2,s,h1⟩⟩
  .rw[h1]at h;cases h
  .rw[h1]at h;cases h
  .rw[h1]at h;cases h;exact⟨id,ops,q,rfl,hd,h2,s⟩
 |cond o x y=>exact EX hn h (by simp) (by simp)
 |_=>simp[co]at h
theorem Wx {c:Code} {f:FuncId} {caps:Y Operand} {t:Nat} (hn:Dr c=M) (h:co P nt c= .defer f caps t):∃id ops q,c= .region id ops q/\(ops.toList.all λo=>match o.dst with|some d=>decide (d<nt)|none=>M)=M/\CQ ops q=Z (f,caps,t):=by
 cases c with
 |region id ops q=>
  rcases yT (P:=P) (nt:=nt) id ops q with h1|⟨hd,⟨f',caps',t',h2,h1⟩|⟨l,p,h2,s,h1⟩⟩
  .rw[h1]at h;cases h
  .rw[h1]at h;cases h;exact⟨id,ops,q,rfl,hd,h2⟩
  .rw[h1]at h;cases h
 |cond o x y=>exact EX hn h (by simp) (by simp)
 |_=>simp[co]at h
theorem pj {c:Code} {sc:SC} (h:co P nt c=sc) (h1:sc≠ .bad) (h2:∀a b,sc≠ .reg a b) (s:∀a b t,sc≠ .defer a b t):∀id ops q,c≠ .region id ops q:=by
 rintro id ops q rfl;rcases yT (P:=P) (nt:=nt) id ops q with d|⟨_,⟨f,caps,t,_,d⟩|⟨l,p,_,_,d⟩⟩<;>rw[d]at h
 .exact h1 h.symm
 .exact s _ _ _ h.symm
 .exact h2 _ _ h.symm
theorem Y' {c:Code} (hn:Dr c=M) (h:co P nt c= .skip):c= .skip:=by
 have d:=pj h (by simp) (by simp) (by simp);cases c with
 |skip=>rfl
 |region id ops q=>exact dP rfl (d id ops q)
 |cond o x y=>exact EX hn h (by simp) (by simp)
 |_=>simp[co]at h
theorem ac7 {c:Code} (hn:Dr c=M) (h:co P nt c= .ret):c= .ret:=by
 have d:=pj h (by simp) (by simp) (by simp);cases c with
 |ret=>rfl
 |region id ops q=>exact dP rfl (d id ops q)
 |cond o x y=>exact EX hn h (by simp) (by simp)
 |_=>simp[co]at h
theorem Za {c:Code} {i:Nat} (hn:Dr c=M) (h:co P nt c= .exit i):c= .exit i:=by
 have d:=pj h (by simp) (by simp) (by simp);cases c with
 |exit id=>simp[co]at h;rw[h]
 |region id ops q=>exact dP rfl (d id ops q)
 |cond o x y=>exact EX hn h (by simp) (by simp)
 |_=>simp[co]at h
theorem Vk {c:Code} {a b:SC} (hn:Dr c=M) (h:co P nt c= .seq a b):∃x y,c= .seq x y/\co P nt x=a/\co P nt y=b:=by
 have d:=pj h (by simp) (by simp) (by simp);cases c with
 |seq x y=>simp[co]at h;exact⟨x,y,rfl,h.1,h.2⟩
 |region id ops q=>exact dP rfl (d id ops q)
 |cond o x y=>exact EX hn h (by simp) (by simp)
 |_=>simp[co]at h
theorem Zb {c:Code} {t:Nat} {a b:SC} (hn:Dr c=M) (h:co P nt c= .cond t a b):∃x y,c= .cond (.tmp t) x y/\co P nt x=a/\co P nt y=b:=by
 have d:=pj h (by simp) (by simp) (by simp);cases c with
 |cond o x y=>
  cases o with
  |tmp q=>simp[co]at h;obtain⟨rfl,h1,h2⟩:=h;exact⟨x,y,rfl,h1,h2⟩
  |const v=>cases v<;>first|(simp [co]at h;done)|cases hn
  |_=>simp[co]at h
 |region id ops s=>exact dP rfl (d id ops s)
 |_=>simp[co]at h
theorem Mc {c:Code} {id:Nat} {b:SC} (hn:Dr c=M) (h:co P nt c= .block id b):∃y,c= .block id y/\co P nt y=b:=by
 have d:=pj h (by simp) (by simp) (by simp);cases c with
 |block i y=>simp[co]at h;obtain⟨rfl,h1⟩:=h;exact⟨y,rfl,h1⟩
 |region id ops q=>exact dP rfl (d id ops q)
 |cond o x y=>exact EX hn h (by simp) (by simp)
 |_=>simp[co]at h
theorem PH {c:Code} {b:SC} (hn:Dr c=M) (h:co P nt c= .loop b):∃y,c= .loop y/\co P nt y=b:=by
 have d:=pj h (by simp) (by simp) (by simp);cases c with
 |loop y=>simp[co]at h;exact⟨y,rfl,h⟩
 |region id ops q=>exact dP rfl (d id ops q)
 |cond o x y=>exact EX hn h (by simp) (by simp)
 |_=>simp[co]at h
end inv
def aex {R:Type} (P:Program) (E:Nat->Prop) (nt np:Nat) (φ:PM) (s:TS) (w:World) (am:Nat) (K:Ex->TS->J R) (r:R):Exit->Act->World->Prop:=
 λe a' w'=>∃ex s' φ',e=ex.to/\K ex s'=Z r/\oI P E nt np φ' s' a' w'/\Bn np φ φ' (bB s.h) (bB s'.h) w w'/\fU am s.e s'.e
theorem oI.bool {P:Program} {E:Nat->Prop} {nt np:Nat} {φ:PM} {s:TS} {a:Act} {w:World} (c:oI P E nt np φ s a w) {t:Nat} {b:Bool} (ht:s.e.get t=Z (.f .bool b)):a.eval (.tmp t)= .bool b:=
 eJ (c.env t _ (by simp only[fw,ht,aD,b_];rfl))
theorem oI.anyb {P:Program} {E:Nat->Prop} {nt np:Nat} {φ:PM} {s:TS} {a:Act} {w:World} (c:oI P E nt np φ s a w) {t:Nat} (ht:s.e.get t=Z .anyb):∃b,a.eval (.tmp t)= .bool b:=by
 have:=c.env t .anyb (by simp only[fw,ht,aD,b_]);show ∃b,a.tmps.getD t undef= .bool b;generalize a.tmps.getD t undef=z at this;cases this with
 |anyb=>exact⟨_,rfl⟩
theorem Xs {R:Type} {a b:J R} {r:R} (h:El a b=Z r):a=Z r/\b=Z r:=by
 unfold El at h;split at h
 .rename_i e;exact⟨h,by rw[<- e];exact h⟩
 .cases h
theorem afb {P:Program} {E:Nat->Prop} {nt np:Nat} {con:FuncId->J cr} {b9:TypeId->J Ty} {inert:FuncId->Bool} (hm:P.follows .mixedOrders=M) (hcon:Kh P con) (hin:Kd P inert):
 ∀{tc:TC} {sc:SC},Er tc sc->∀(c:Code),co P nt c=sc->∀(R:Type) (s:TS) (K:Ex->TS->J R) (r:R),nC np con b9 inert tc s K=Z r->∀(φ:PM) (a:Act) (w:World),oI P E nt np φ s a w->c.wp P (aex P E nt np φ s w (tc.asg 0) K r) a w:=by
 intro tc sc hE;induction hE with
 |skip=>
  intro c hc R s K r h φ a w g;obtain⟨c',hn,z,hsim⟩:=kf P nt c;refine hsim _ _ _ ?_;rw[<- z]at hc;rw[Y' hn hc];exact wp_skip ⟨.normal,s,φ,rfl,h,g,Bn.refl _ _ _ _,fU.refl _ _⟩
 |reg ops prs=>
  intro c hc R s K r h φ a w g;obtain⟨c',hn,z,hsim⟩:=kf P nt c;refine hsim _ _ _ ?_;rw[<- z]at hc;obtain⟨id,os,dr,rfl,h1,h2,h3⟩:=ac8 hn hc;simp only[nC]at h;refine YJ (K:=λs'=>K .normal s') hm hcon g (am:=OA ops 0) (λj o d ho hd=>?_) h1 h2 h3 h λa' w' s' φ' q1 q2 q3 q4=>⟨.normal,s',φ',rfl,q1,q2,q3,q4⟩
  have hmem:o∈os.toList:=by have:=Array.mem_of_getElem? ho;simpa using this
  have key:∀(rest:Y Oper) (sl:Y sj),rP P os rest=Z sl->∀o∈rest,∃so∈sl,so.dst=o.dst:=by
   intro rest;induction rest with
   |nil=>intro sl _ o ho;cases ho
   |cons x rest ih=>
    intro sl hsl o ho;simp only[rP]at hsl;split at hsl
    .rename_i l hl;have:∃so,sl=so::l/\so.dst=x.dst:=by
      split at hsl
      .simp only[af]at hsl;exact⟨_,hsl.symm,rfl⟩
      .split at hsl
       .simp only[af]at hsl;exact⟨_,hsl.symm,rfl⟩
       .cases hsl
     obtain⟨so,rfl,hso⟩:=this;rcases bu.1 ho with rfl|ho
     .exact⟨so,by simp,hso⟩
     .obtain⟨q,hq,hq2⟩:=ih l hl o ho;exact⟨q,by simp[hq],hq2⟩
    .cases hsl
  obtain⟨so,hso,hd2⟩:=key os.toList ops h2 o hmem;exact RE hso (by rw[hd2];exact hd)
 |@seq x y x' y' _ _ ihx ihy=>
  intro c hc R s K r h φ a w g;obtain⟨c',hn,z,hsim⟩:=kf P nt c;refine hsim _ _ _ ?_;rw[<- z]at hc;obtain⟨cx,cy,rfl,h1,h2⟩:=Vk hn hc;simp only[nC]at h;refine wp_seq (wp_mono (ihx cx h1 R s _ r h φ a w g) ?_);rintro e a' w' ⟨ex,s',φ',rfl,hk,g',st,F⟩;have kp':fU ((TC.seq x y).asg 0) s.e s'.e:=F.mono λk hk=>by simp only[TC.asg];exact jy hk
  cases ex with
  |normal=>
   refine wp_mono (ihy cy h2 R s' K r hk φ' a' w' g') ?_;rintro e2 a2 w2 ⟨ex2,s2,φ2,rfl,hk2,g2,st2,kp2⟩;exact⟨ex2,s2,φ2,rfl,hk2,g2,st.trans st2,kp'.trans (kp2.mono λk hk=>by simp only[TC.asg];exact sZ hk)⟩
  |exit id=>exact⟨.exit id,s',φ',rfl,hk,g',st,kp'⟩
  |ret=>exact⟨.ret,s',φ',rfl,hk,g',st,kp'⟩
 |@jseq A x y x' y' _ _ ihx ihy=>
  intro c hc R s K r h φ a w g;obtain⟨c',hn,z,hsim⟩:=kf P nt c;refine hsim _ _ _ ?_;rw[<- z]at hc;obtain⟨cx,cy,rfl,h1,h2⟩:=Vk hn hc;simp only[nC]at h;have sub1:∀k,aO (x.asg 0) k=M->aO ((TC.jseq A x y).asg 0) k=M:=λk hk=>by simp only[TC.asg];exact jy (sZ hk)
  have sub2:∀k,aO (y.asg 0) k=M->aO ((TC.jseq A x y).asg 0) k=M:=λk hk=>by simp only[TC.asg];exact sZ hk
  have sub3:∀k,aO (KK A.ks 0) k=M->aO ((TC.jseq A x y).asg 0) k=M:=λk hk=>by simp only[TC.asg];exact jy (jy hk)
  rcases Vj h with ⟨d,h3,h4⟩|h3
  .refine wp_seq (wp_mono (ihx cx h1 _ s _ _ h3 φ a w g) ?_);rintro e a' w' ⟨ex,s',φ',rfl,hk,g',st,F⟩;cases ex with
   |normal=>
    simp only[]at hk;obtain⟨d',q1,q2⟩:=dF hk;simp only[af,Sum.inr.injEq]at q2;subst q2;split at h4
    .rename_i s1 L;obtain⟨φ1,g1,st1⟩:=Nw g' q1 L λk _ _ v hv hf ha v' I=>by
      obtain⟨v0,e1,e2⟩:=F k ha v' I;rw[hv]at e1;cases e1;exact e2 hf
     refine wp_mono (ihy cy h2 R s1 K r h4 φ1 a' w' g1) ?_;rintro e2 a2 w2 ⟨ex2,s2,φ2,rfl,hk2,g2,st2,kp2⟩;exact⟨ex2,s2,φ2,rfl,hk2,g2,(st.trans st1).trans st2,((Dm L).1.mono sub3).trans (kp2.mono sub2)⟩
    .cases h4
   |exit id=>simp only[]at hk;obtain⟨_,_,q2⟩:=dF hk;simp at q2
   |ret=>simp only[]at hk;obtain⟨_,_,q2⟩:=dF hk;simp at q2
  .refine wp_seq (wp_mono (ihx cx h1 _ s _ _ h3 φ a w g) ?_);rintro e a' w' ⟨ex,s',φ',rfl,hk,g',st,F⟩;cases ex with
   |normal=>simp only[]at hk;obtain⟨_,_,q2⟩:=dF hk;simp at q2
   |exit id=>
    simp only[]at hk;obtain⟨r',q1,q2⟩:=dF hk;simp only[af,Sum.inl.injEq]at q2;subst q2;exact⟨.exit id,s',φ',rfl,q1,g',st,F.mono sub1⟩
   |ret=>
    simp only[]at hk;obtain⟨r',q1,q2⟩:=dF hk;simp only[af,Sum.inl.injEq]at q2;subst q2;exact⟨.ret,s',φ',rfl,q1,g',st,F.mono sub1⟩
 |@cond t x y x' y' _ _ ihx ihy=>
  intro c hc R s K r h φ a w g;obtain⟨c',hn,z,hsim⟩:=kf P nt c;refine hsim _ _ _ ?_;rw[<- z]at hc;obtain⟨cx,cy,rfl,h1,h2⟩:=Zb hn hc;simp only[nC]at h;split at h
  .rename_i b hb;rcases lX h with ⟨rfl,h⟩|⟨rfl,h⟩
   .refine wp_cond_true (g.bool hb) (wp_mono (ihx cx h1 R s K r h φ a w g) ?_);rintro e a' w' ⟨ex,s',φ',rfl,hk,g',st,F⟩;exact⟨ex,s',φ',rfl,hk,g',st,F.mono λk hk=>by simp only[TC.asg];exact jy hk⟩
   .refine wp_cond_false (g.bool hb) (wp_mono (ihy cy h2 R s K r h φ a w g) ?_);rintro e a' w' ⟨ex,s',φ',rfl,hk,g',st,F⟩;exact⟨ex,s',φ',rfl,hk,g',st,F.mono λk hk=>by simp only[TC.asg];exact sZ hk⟩
  .rename_i hb;obtain⟨ha,hbb⟩:=Xs h;obtain⟨bv,hbv⟩:=g.anyb hb;cases bv with
   |true=>
    refine wp_cond_true hbv (wp_mono (ihx cx h1 R s K r ha φ a w g) ?_);rintro e a' w' ⟨ex,s',φ',rfl,hk,g',st,F⟩;exact⟨ex,s',φ',rfl,hk,g',st,F.mono λk hk=>by simp only[TC.asg];exact jy hk⟩
   |false=>
    refine wp_cond_false hbv (wp_mono (ihy cy h2 R s K r hbb φ a w g) ?_);rintro e a' w' ⟨ex,s',φ',rfl,hk,g',st,F⟩;exact⟨ex,s',φ',rfl,hk,g',st,F.mono λk hk=>by simp only[TC.asg];exact sZ hk⟩
  .cases h
 |@block id b b' _ ih=>
  intro c hc R s K r h φ a w g;obtain⟨c',hn,z,hsim⟩:=kf P nt c;refine hsim _ _ _ ?_;rw[<- z]at hc;obtain⟨cb,rfl,h1⟩:=Mc hn hc;simp only[nC]at h;refine wp_block (wp_mono (ih cb h1 R s _ r h φ a w g) ?_);rintro e a' w' ⟨ex,s',φ',rfl,hk,g',st,F⟩;cases ex with
  |normal=>exact⟨.normal,s',φ',rfl,hk,g',st,F⟩
  |ret=>exact⟨.ret,s',φ',rfl,hk,g',st,F⟩
  |exit i=>
   simp only[Ex.to,Exit.inBlock];simp only[]at hk;split at hk
   .rename_i hb;rw[aT (au hb)];exact⟨.normal,s',φ',rfl,hk,g',st,F⟩
   .rename_i hb;rw[aL (λe=>hb (by rw[e];exact rA id))];exact⟨.exit i,s',φ',rfl,hk,g',st,F⟩
 |@jblock A id b b' _ ih=>
  intro c hc R s K r h φ a w g;obtain⟨c',hn,z,hsim⟩:=kf P nt c;refine hsim _ _ _ ?_;rw[<- z]at hc;obtain⟨cb,rfl,h1⟩:=Mc hn hc;simp only[nC]at h;have sub1:∀k,aO (b.asg 0) k=M->aO ((TC.jblock A id b).asg 0) k=M:=λk hk=>by simp only[TC.asg];exact sZ hk
  have sub3:∀k,aO (KK A.ks 0) k=M->aO ((TC.jblock A id b).asg 0) k=M:=λk hk=>by simp only[TC.asg];exact jy hk
  rcases Vj h with ⟨d,h3,h4⟩|h3
  .refine wp_block (wp_mono (ih cb h1 _ s _ _ h3 φ a w g) ?_);rintro e a' w' ⟨ex,s',φ',rfl,hk,g',st,F⟩;have fin:av (Lb np A (b.asg 0) s s') (λx=>Z (bZ (α:=R) x))=Z (bZ d)->aex P E nt np φ s w ((TC.jblock A id b).asg 0) K r .normal a' w':=by
    intro hk;obtain⟨d',q1,q2⟩:=dF hk;simp only[af,Sum.inr.injEq]at q2;subst q2;split at h4
    .rename_i s1 L;obtain⟨φ1,g1,st1⟩:=Nw g' q1 L λk _ _ v hv hf ha v' I=>by
      obtain⟨v0,e1,e2⟩:=F k ha v' I;rw[hv]at e1;cases e1;exact e2 hf
     exact⟨.normal,s1,φ1,rfl,h4,g1,st.trans st1,(Dm L).1.mono sub3⟩
    .cases h4
   cases ex with
   |normal=>exact fin hk
   |ret=>simp only[]at hk;obtain⟨_,_,q2⟩:=dF hk;simp at q2
   |exit i=>
    simp only[Ex.to,Exit.inBlock];simp only[]at hk;split at hk
    .rename_i hb;rw[aT (au hb)];exact fin hk
    .obtain⟨_,_,q2⟩:=dF hk;simp at q2
  .refine wp_block (wp_mono (ih cb h1 _ s _ _ h3 φ a w g) ?_);rintro e a' w' ⟨ex,s',φ',rfl,hk,g',st,F⟩;cases ex with
   |normal=>simp only[]at hk;obtain⟨_,_,q2⟩:=dF hk;simp at q2
   |ret=>
    simp only[]at hk;obtain⟨r',q1,q2⟩:=dF hk;simp only[af,Sum.inl.injEq]at q2;subst q2;exact⟨.ret,s',φ',rfl,q1,g',st,F.mono sub1⟩
   |exit i=>
    simp only[Ex.to,Exit.inBlock];simp only[]at hk;split at hk
    .obtain⟨_,_,q2⟩:=dF hk;simp at q2
    .rename_i hb;rw[aL (λe=>hb (by rw[e];exact rA id))];obtain⟨r',q1,q2⟩:=dF hk;simp only[af,Sum.inl.injEq]at q2;subst q2;exact⟨.exit i,s',φ',rfl,q1,g',st,F.mono sub1⟩
 |@loop A b b' _ ih=>
  intro c hc R s K r h φ a w g;obtain⟨c',hn,z,hsim⟩:=kf P nt c;refine hsim _ _ _ ?_;rw[<- z]at hc;obtain⟨cb,rfl,h1⟩:=PH hn hc;simp only[nC]at h;obtain⟨x0,hx0,h⟩:=dF h;obtain⟨n,hn⟩:=Ww h;have sub1:∀k,aO (b.asg 0) k=M->aO ((TC.loop A b).asg 0) k=M:=λk hk=>by simp only[TC.asg];exact sZ hk
  have sub3:∀k,aO (KK A.ks 0) k=M->aO ((TC.loop A b).asg 0) k=M:=λk hk=>by simp only[TC.asg];exact jy hk
  obtain⟨step,hstep⟩:∃step:A.D->J (A.D⊕R),step=λx=>(match FX A (b.asg 0) s x with
   |some s'=>nC np con b9 inert b s' λex s'=>(match ex with
    |.normal=>av (Lb np A (b.asg 0) s s') λy=>Z (oL y)
    |ex=>av (K ex s') λr=>Z (bZ r))
   |none=>U):=⟨_,rfl⟩
  have hn:iterN step n x0=Z r:=by rw[hstep];exact hn
  have stepEq:∀x,step x=(match FX A (b.asg 0) s x with
   |some s'=>nC np con b9 inert b s' λex s'=>(match ex with
    |.normal=>av (Lb np A (b.asg 0) s s') λy=>Z (oL y)
    |ex=>av (K ex s') λr=>Z (bZ r))
   |none=>U):=λx=>by rw[hstep]
  let Inv:Nat->Act->World->Prop:=λn a w'=>∃x s1 φ1,iterN step n x=Z r/\FX A (b.asg 0) s x=Z s1/\oI P E nt np φ1 s1 a w'/\Bn np φ φ1 (bB s.h) (bB s1.h) w w'
  have head:∀(n:Nat) (x:A.D),iterN step n x=Z r->∃s1,FX A (b.asg 0) s x=Z s1:=by
   intro n x hn;cases n with
   |zero=>cases hn
   |succ n=>
    simp only[iterN]at hn;cases hr:FX A (b.asg 0) s x with
    |some s1=>exact⟨s1,rfl⟩
    |none=>rw[stepEq,hr]at hn;cases hn
  refine Bx Inv ?_ (n:=n) ?_
  .rintro n a1 w1 ⟨x,s1,φ1,hi,hr,g1,st1⟩;cases n with
   |zero=>cases hi
   |succ n=>
    simp only[iterN]at hi;have hse:=stepEq x;rw[hr]at hse;simp only[]at hse;obtain⟨kp1,kp1'⟩:=Dm hr;split at hi
    .rename_i y hy;rw[hy]at hse;refine wp_mono (ih cb h1 _ s1 _ _ hse.symm φ1 a1 w1 g1) ?_;rintro e a' w' ⟨ex,s',φ',rfl,hk,g',st,F⟩;cases ex with
     |normal=>
      simp only[]at hk;obtain⟨d',q1,q2⟩:=dF hk;simp only[af,Sum.inl.injEq]at q2;subst q2;obtain⟨s2,hs2⟩:=head n d' hi;obtain⟨φ2,g2,st2⟩:=Nw g' q1 hs2 λk hkk hks v hv hf ha v' I=>by
       obtain⟨v0,e1,e2⟩:=F k ha v' I;have:=kp1' k hks v0 e1;rw[hv]at this;cases this;exact e2 hf
      exact⟨n,by omega,d',s2,φ2,hi,hs2,g2,(st1.trans st).trans st2⟩
     |exit id=>simp only[]at hk;obtain⟨_,_,q2⟩:=dF hk;simp at q2
     |ret=>simp only[]at hk;obtain⟨_,_,q2⟩:=dF hk;simp at q2
    .rename_i r' hy;cases hi;rw[hy]at hse;refine wp_mono (ih cb h1 _ s1 _ _ hse.symm φ1 a1 w1 g1) ?_;rintro e a' w' ⟨ex,s',φ',rfl,hk,g',st,F⟩;cases ex with
     |normal=>simp only[]at hk;obtain⟨_,_,q2⟩:=dF hk;simp at q2
     |exit id=>
      simp only[]at hk;obtain⟨r',q1,q2⟩:=dF hk;simp only[af,Sum.inr.injEq]at q2;subst q2;exact⟨.exit id,s',φ',rfl,q1,g',st1.trans st,(kp1.mono sub3).trans (F.mono sub1)⟩
     |ret=>
      simp only[]at hk;obtain⟨r',q1,q2⟩:=dF hk;simp only[af,Sum.inr.injEq]at q2;subst q2;exact⟨.ret,s',φ',rfl,q1,g',st1.trans st,(kp1.mono sub3).trans (F.mono sub1)⟩
    .cases hi
  .obtain⟨s1,L⟩:=head n x0 hn;obtain⟨φ1,g1,st1⟩:=Nw g hx0 L λk _ _ v hv _ _ v' I=>by rw[hv]at I;cases I;rfl
   exact⟨x0,s1,φ1,hn,L,g1,st1⟩
 |exit id=>
  intro c hc R s K r h φ a w g;obtain⟨c',hn,z,hsim⟩:=kf P nt c;refine hsim _ _ _ ?_;rw[<- z]at hc;rw[Za hn hc];exact wp_exit ⟨.exit id,s,φ,rfl,h,g,Bn.refl _ _ _ _,fU.refl _ _⟩
 |ret=>
  intro c hc R s K r h φ a w g;obtain⟨c',hn,z,hsim⟩:=kf P nt c;refine hsim _ _ _ ?_;rw[<- z]at hc;rw[ac7 hn hc];exact wp_ret ⟨.ret,s,φ,rfl,h,g,Bn.refl _ _ _ _,fU.refl _ _⟩
 |defer f caps t=>
  intro c hc R s K r h φ a w g;obtain⟨c',hn,z,hsim⟩:=kf P nt c;refine hsim _ _ _ ?_;rw[<- z]at hc;obtain⟨id,ops,dr,rfl,h1,h2⟩:=Wx hn hc;simp only[nC]at h;split at h
  .rename_i l hl;split at h
   .rename_i hi;obtain⟨l',e1,e2⟩:=yd g.invE hl;obtain⟨H,hH⟩:=jO s.h;have lowN:∀n k,φ n=Z k->n<2*s.nx+2:=λn k hk=>by have:=g.dom n k hk;unfold ow at this;omega
    have cfg:Cfg P ⟨2*s.nx+2,φ,E,bB s.h,w⟩ nt ⟨IU s.e s.h,H,2*s.nx+2,0⟩ a w:=by
     refine ⟨⟨φ,?_,?_,?_,lowN,λi k hk=>.inl hk⟩,cF _,g.inert,g.size⟩
     .rw[hH];exact iW.refl _ _ _
     .rw[hH];exact g.rep
     .rw[hH,uG];exact g.env
    refine QP hin cfg h1 h2 e1 hi λa' w' c'=>?_
    obtain⟨φ',m',r',en',dm',d0'⟩:=c'.ex;have hφ:φ'=φ:=by
     funext n;cases hx:φ n with
     |some k=>exact m'.sub n k hx
     |none=>
      cases hy:φ' n with
      |none=>rfl
      |some k=>
       rcases d0' n k hy with h3|h3
       .have h3:φ n=Z k:=h3;rw[hx]at h3;cases h3
       .have h4:n<2*s.nx+2:=dm' n k hy;have h5:2*s.nx+2<=n:=h3;omega
    subst hφ;simp only[hH]at m' r' en';refine ⟨.normal,_,φ',rfl,h,⟨r',?_,g.dom,g.low,g.invH,?_,c'.inert,c'.size⟩,⟨m'.ext,m'.own_,λ_ _=>rfl⟩,?_⟩
    .intro u x hx;refine en' u x ?_;simp only[fw,PT.get_set]at hx;simp only[y_.put,PT.get_set];split at hx
     .rename_i eu;rw[aT eu];simp only[aD,b_,e2,af]at hx;rw[hx]
     .rename_i eu;rw[aL eu,uG];exact hx
    .intro u x hx;simp only[PT.get_set]at hx;split at hx
     .cases hx;simp only[KH];exact jV _ _ _ e2
     .exact g.invE u x hx
    .intro k hk v' I;simp only[PT.get_set]at I;split at I
     .rename_i ek;subst ek;simp only[TC.asg]at hk;rw[bw,bW.2 rfl]at hk;simp at hk
     .exact⟨v',I,λ_=>rfl⟩
   .cases h
  .cases h
 |@adj l tc' sc' _ ih=>
  intro c hc R s K r h φ a w g;obtain⟨c',hn,z,hsim⟩:=kf P nt c;refine hsim _ _ _ ?_;rw[<- z]at hc;simp only[nC]at h;split at h
  .rename_i s1 L;obtain⟨φ1,g1,st1,kp1⟩:=UG g L;refine wp_mono (ih c' hc R s1 K r h φ1 a w g1) ?_;rintro e a' w' ⟨ex,s',φ',rfl,hk,g',st,F⟩;exact⟨ex,s',φ',rfl,hk,g',st1.trans st,(kp1.mono λk hk=>by simp only[TC.asg];exact jy hk).trans (F.mono λk hk=>by simp only[TC.asg];exact sZ hk)⟩
  .cases h
 |@split k off lo n tc' sc' _ ih=>
  intro c hc R s K r h φ a w g;obtain⟨c',hn,z,hsim⟩:=kf P nt c;refine hsim _ _ _ ?_;rw[<- z]at hc;simp only[nC]at h;split at h
  .rename_i kd v hv;obtain⟨j,hj,h2⟩:=O_ h;subst hj;split at h2
   .rename_i s1 L;obtain⟨g1,hH,he⟩:=YG g hv L;refine wp_mono (ih c' hc R s1 K r h2 φ a w g1) ?_;rintro e a' w' ⟨ex,s',φ',rfl,hk,g',st,F⟩;exact⟨ex,s',φ',rfl,hk,g',by rw[<- hH];exact st,λk hk v' I=>by
     obtain⟨v,q1,q2⟩:=F k hk v' I;exact⟨v,by rw[<- he];exact q1,q2⟩⟩
   .cases h2
  .cases h
 |@bsp t x y sc' _ _ ihx ihy=>
  intro c hc R s K r h φ a w g;simp only[nC]at h;split at h
  .rename_i v hv;rcases lX h with ⟨rfl,h⟩|⟨rfl,h⟩
   .have he:∀q,(s.e.set t (Z (.f .bool M))).get q=s.e.get q:=λq=>by
     rw[PT.get_set];split
     .rename_i e;subst e;exact hv.symm
     .rfl
    obtain⟨g1,hH⟩:=g.congr (s':=⟨s.e.set t (Z (.f .bool M)),s.h,s.nx⟩) he (λ_=>rfl) rfl;refine wp_mono (ihx c hc R _ K r h φ a w g1) ?_;rintro e a' w' ⟨ex,s',φ',rfl,hk,g',st,F⟩;exact⟨ex,s',φ',rfl,hk,g',by rw[<- hH];exact st,λk hk v' I=>by
     obtain⟨v,q1,q2⟩:=(F.mono λk hk=>by simp only[TC.asg];exact jy hk) k hk v' I;exact⟨v,by rw[<- he];exact q1,q2⟩⟩
   .have he:∀q,(s.e.set t (Z (.f .bool aa))).get q=s.e.get q:=λq=>by
     rw[PT.get_set];split
     .rename_i e;subst e;exact hv.symm
     .rfl
    obtain⟨g1,hH⟩:=g.congr (s':=⟨s.e.set t (Z (.f .bool aa)),s.h,s.nx⟩) he (λ_=>rfl) rfl;refine wp_mono (ihy c hc R _ K r h φ a w g1) ?_;rintro e a' w' ⟨ex,s',φ',rfl,hk,g',st,F⟩;exact⟨ex,s',φ',rfl,hk,g',by rw[<- hH];exact st,λk hk v' I=>by
     obtain⟨v,q1,q2⟩:=(F.mono λk hk=>by simp only[TC.asg];exact sZ hk) k hk v' I;exact⟨v,by rw[<- he];exact q1,q2⟩⟩
  .cases h
 |@unl n b b' _ ih=>
  intro c hc R s K r h φ a w g;obtain⟨c',hn,z,hsim⟩:=kf P nt c;refine hsim _ _ _ ?_;rw[<- z]at hc;obtain⟨cb,rfl,h1⟩:=PH hn hc;simp only[nC]at h
  let Inv:Nat->Act->World->Prop:=λm a w'=>∃s1 φ1,abb (λs K=>nC np con b9 inert b s K) m s1 K=Z r/\oI P E nt np φ1 s1 a w'/\Bn np φ φ1 (bB s.h) (bB s1.h) w w'/\fU (b.asg 0) s.e s1.e
  refine Bx Inv ?_ (n:=n) ⟨s,φ,h,g,Bn.refl _ _ _ _,fU.refl _ _⟩;rintro m a1 w1 ⟨s1,φ1,hi,g1,st1,kp1⟩;cases m with
  |zero=>cases hi
  |succ m=>
   simp only[abb]at hi;refine wp_mono (ih cb h1 R s1 _ r hi φ1 a1 w1 g1) ?_;rintro e a' w' ⟨ex,s',φ',rfl,hk,g',st,F⟩;cases ex with
   |normal=>exact⟨m,kH m,s',φ',hk,g',st1.trans st,kp1.trans F⟩
   |exit id=>exact⟨.exit id,s',φ',rfl,hk,g',st1.trans st,kp1.trans F⟩
   |ret=>exact⟨.ret,s',φ',rfl,hk,g',st1.trans st,kp1.trans F⟩
 |bad sc'=>
  intro c hc R s K r h;simp[nC]at h
theorem Ng {P:Program} {φ:PM} {E:Nat->Prop} {s:TS} {a:Act} {w:World} (hinv:mh s.h s.nx) (hiE:s6 s.e s.h) (r:qO φ E (bB s.h) w) (en:MW φ (tot E φ (bB s.h)) w (fw s.e s.h) a):∀(rs:Y ResultVar) (rvs:Y RV) (l:Y TV),uN P rs=Z rvs->SL s rvs=Z l->
 ∃la vs,cD s.h l=Z la/\(rs.mapM (Wj a.tmps)).run P w= .ok vs w/\j6 φ (tot E φ (bB s.h)) w la vs
 |[],rvs,l,hc,hr=>by
  simp only[uN,af]at hc;subst hc;simp only[SL,af]at hr;subst hr;exact⟨[],[],rfl,by simp,trivial⟩
 |.tmp t::rs,rvs,l,hc,hr=>by
  simp only[uN]at hc;split at hc
  .rename_i rvs' hrs;simp only[af]at hc;subst hc;simp only[SL]at hr;split at hr
   .rename_i v hv;split at hr
    .rename_i A d;simp only[af]at hr;subst hr;obtain⟨la,vs,h0,h1,h2⟩:=Ng hinv hiE r en rs rvs' A hrs d;simp only[rvT]at hv;obtain⟨y,F⟩:=pd s.h v (hiE t v hv);refine ⟨y::la,a.tmps.getD t undef::vs,o8 F h0,?_,en t y (by simp only[fw,hv,aD,F]),h2⟩;simp only[List.mapM_cons,eA,Wj,oM,cJ];show ((rs.mapM (Wj a.tmps)).run P w).andThen _=_;rw[h1];rfl
    .cases hr
   .cases hr
  .cases hc
 |.cell L t::rs,rvs,l,hc,hr=>by
  simp only[uN]at hc;split at hc
  .rename_i rvs' sz ag hrs hsz hag;simp only[af]at hc;subst hc;simp only[SL]at hr;split at hr
   .rename_i v hv;split at hr
    .rename_i A d;simp only[af]at hr;subst hr;obtain⟨la,vs,h0,h1,h2⟩:=Ng hinv hiE r en rs rvs' A hrs d;simp only[rvT]at hv;split at hv
     .rename_i id off hp;split at hv
      .rename_i ty q hb;obtain⟨q',z⟩:=eY s.h q (hinv.cells id _ q hb);obtain⟨y,e1,e2⟩:=U2 z hv;obtain⟨H,I⟩:=jO s.h;have hR:C4 H sz ag (.ptr (nm id) off)=Z ⟨y,[nm id],[],[],[]⟩:=by
        have hg:H.get (nm id)=Z ⟨ty,.mx q'⟩:=by rw[I,bK,hb];simp only[aD,jB,z]
        simp only[C4,hg,e2]
       obtain⟨_,_,_,h3⟩:=RG (P:=P) hsz hag hR;obtain⟨qq,D,h4,h5,h6⟩:=h3 φ E (bB s.h) w _ (λi _=>by rw[I]) r (en L _ (by simp only[fw,hp,aD,b_]));refine ⟨y::la,D::vs,o8 e1 h0,?_,h6,h2⟩;have hone:(Wj a.tmps (.cell L t)).run P w= .ok D w:=by
        simp only[Wj,eA,h4,asAddr,oM,cJ,h5]
       rw[List.mapM_cons];simp only[eA,hone,cJ,h1,oM]
      .cases hv
     .cases hv
    .cases hr
   .cases hr
  .cases hc
theorem Eo:∀(args:Y TV) (k t:Nat) (x:TV),(JW k args).get t=Z x->k<=t/\args[t-k]? =Z x
 |[],k,t,x,h=>by simp[JW,PT.get]at h
 |y::args,k,t,x,h=>by
  rw[JW,PT.get_set]at h;split at h
  .rename_i hk;subst hk;cases h;exact⟨cF _,by simp⟩
  .obtain⟨h1,h2⟩:=Eo args (k+1) t x h;refine ⟨by omega,?_⟩;rw[show t-k=t-(k+1)+1 from by omega];simpa using h2
theorem YV {h:bl} {l:Y TV} (q:kU h l=M) {j:Nat} {v:TV} (hj:l[j]? =Z v):KH h v=M:=by
 obtain⟨s,hl⟩:=eY h l q;obtain⟨y,_,d⟩:=lh hl j v hj;exact D6 _ _ _ d
theorem Sv {P:Program} {con:FuncId->J cr} {b9:TypeId->J Ty} {inert:FuncId->Bool} (hm:P.follows .mixedOrders=M) (hcon:Kh P con) (hin:Kd P inert) {f:FuncId} {A:SF} (hf:yU P f=Z A) (D:FT) (m:D.pre.ty.den->J D.post.ty.den) (hmod:∀x y,m x=Z y->YA con b9 inert (Z A) D x=Z y):pO P f ⟨D.pre,D.post,m⟩:=by
 obtain⟨fn,c,hfn,hb,hnm,hcode,hres,hnt⟩:=Ru hf;refine ⟨⟨fn,hfn,by rw[hb];rfl,hnm⟩,λx y hxy vs hp l1 rs hq l2 la lr I o hla hlr φ E w us hrep hrel hdom=>?_⟩;have ht:=hmod x y hxy;unfold YA at ht;simp only[]at ht;split at ht
 .rename_i args h hins;obtain⟨F,I'⟩:=vD hins;have e1:args=vs:=by have h1:=I.pv;have h2:=I'.pv;rw[h1]at h2;cases h2;rfl
  have e2:F=l1:=by have h1:=I.pb;have h2:=I'.pb;rw[h1]at h2;cases h2;rfl
  subst e1;subst e2;have hget:∀i,h.get i=hp.get i:=λi=>by
   cases s:hp.get i with
   |some b=>exact (I'.at_ i b).2 ((I.at_ i b).1 s)
   |none=>
    cases h4:h.get i with
    |none=>rfl
    |some b=>have:=(I.at_ i b).2 ((I'.at_ i b).1 h4);rw[s]at this;cases this
  have hrow:∀i,eh h i=eh hp i:=λi=>by rw[bR,bR,hget]
  have herH:bB h=bB hp:=by
   funext n;by_cases hn:∃i,n=nm i
   .obtain⟨i,rfl⟩:=hn;rw[bK,bK,hget];cases s:hp.get i with
    |none=>rfl
    |some b=>
     simp only[aD];refine IV (λi r hr=>by rw[hrow];exact hr) λty l e=>?_
     exact (I.cells i _ l (by rw[s,e])).1
   .rw[vI _ hn,vI _ hn]
  have hla':cD h args=Z la:=fY (λi r hr=>by rw[hrow];exact hr) args la hla;split at ht
  .rename_i hle;simp only[ak]at hle;have hle2:=a_ hle.2;have hle:=a_ hle.1;have hlen:=hrel.length;have hargl:args.length=la.length:=(gz hla).symm;refine calls_of_wp_defers hfn hb ?_;have hcfg:oI P E fn.ntmps D.pre.bs.length φ ⟨JW 0 args,h,D.pre.bs.length⟩ {tmps:=us.toArray++om (fn.ntmps-us.toArray.size) undef,defers:=[]} w:=by
    refine ⟨by rw[herH];exact hrep,?_,hdom,cF _,⟨λi ty l hl=>(I'.cells i _ l hl).1,λi b hbb=>I'.lt_len hbb⟩,?_,by simp,by simp;omega⟩
    .intro t z d;simp only[fw]at d;cases q:(JW 0 args).get t with
     |none=>rw[q]at d;cases d
     |some v0=>
      rw[q]at d;obtain⟨_,h2⟩:=Eo args 0 t v0 q;rw[Nat.sub_zero]at h2;obtain⟨y0,q1,q2⟩:=lh hla' t v0 h2;simp only[aD]at d;rw[d]at q2;cases q2;obtain⟨v,s,h4⟩:=hrel.get t z q1;have hlt:t<us.length:=(bm.1 s).1;have:(us.toArray++om (fn.ntmps-us.toArray.size) undef).getD t undef=v:=by
       rw[gD,Array.getElem?_append];simp only[sN,hlt,bE,ky,s,uo]
      show cH φ _ w z ((us.toArray++om (fn.ntmps-us.toArray.size) undef).getD t undef);rw[this,herH];exact h4
    .intro t v0 L;obtain⟨_,h2⟩:=Eo args 0 t v0 L;exact YV I'.ok h2
   refine wp_mono (afb (E:=E) hm hcon hin (wT D.hints A.code 0) c hcode.symm _ _ _ _ ht φ _ w hcfg) ?_;rintro e a' w' ⟨ex,s',φ',rfl,hk,g',st,_⟩;have fin:(match SL s' A.res with
    |some l=>(match Dv D.pre.bs.length D.post l s'.h with
     |some ⟨y,_,_,_⟩=>(match B6 D.post y with|some _=>Z y|none=>U)
     |none=>U)
    |none=>U)=Z y->Leaves P fn a'.tmps (λen w'=>∃v φ',en= .returned v/\GU (own φ (bB hp)) w w'/\(∀k,k<w.heap.size->own φ' (bB hq) k->own φ (bB hp) k)/\(∀i,i<D.pre.bs.length->φ' (nm i)=φ (nm i))/\qO φ' E (bB hq) w'/\cH φ' (tot E φ' (bB hq)) w' (Di lr) v) a'.defers .returning w':=by
    intro hk;split at hk
    .rename_i l hl;split at hk
     .rename_i y' m' σ sm hM;split at hk
      .simp only[af]at hk;subst hk;obtain⟨lo,rvs,q0,q1,q2⟩:=Ng g'.invH g'.invE g'.rep g'.env fn.results.toList A.res l hres hl;have g:=vy hM;obtain⟨φ2,lu,hlu,S⟩:=Kz (np:=D.pre.bs.length) (E:=E) o g'.invH g q0 g'.rep;rw[hlr]at hlu;cases hlu;have hresults:(results fn a'.tmps).run P w'= .ok (if h:rvs.toArray.size=1 then rvs.toArray[0] else .tuple rvs.toArray) w':=by
        rw[SO,Array.mapM_eq_mapM_toList];simp only[eA,Sem.run_map,q1,cJ,oM]
       have hrl:j6 φ2 (tot E φ2 (bB hq)) w' lr rvs:=by
        refine j6.of (by rw[q2.length,S.len]) λj z v d hv=>?_
        obtain⟨z0,p1,p2⟩:=S.val j z v d;obtain⟨v',p3,p4⟩:=q2.get j z0 p1;rw[hv]at p3;cases p3;exact p2 p4
       have hval:cH φ2 (tot E φ2 (bB hq)) w' (Di lr) (if h:rvs.toArray.size=1 then rvs.toArray[0] else .tuple rvs.toArray):=by
        have hll:=hrl.length;clear hlr S;cases lr with
        |nil=>
         cases rvs with
         |nil=>exact cH.tup (vs:=[]) rfl (by intro j x v q;simp at q)
         |cons _ _=>exact hrl.elim
        |cons z lr=>
         cases rvs with
         |nil=>exact hrl.elim
         |cons v rvs=>
          cases lr with
          |nil=>
           cases rvs with
           |nil=>exact hrl.1
           |cons _ _=>exact hrl.2.elim
          |cons y l=>
           cases rvs with
           |nil=>exact hrl.2.elim
           |cons u rvs=>
            rw[dif_neg (by simp)];refine cH.tup (vs:=v::u::rvs) (by simpa using hll) λj x' v' q hv=>?_
            obtain⟨v'',q1,q2⟩:=hrl.get j x' q;rw[hv]at q1;cases q1;exact q2
       have st':Bn D.pre.bs.length φ φ' (bB hp) (bB s'.h) w w':=by rw[<- herH];exact st
       refine BY hresults ⟨_,φ2,rfl,st'.ext,λk hk ho=>st'.own_ k hk (S.own_ k ho),λi hi=>?_,S.rep,hval⟩ a'.defers g'.inert;rw[S.par i hi (dz hi hle2),st'.par i hi]
      .cases hk
     .cases hk
    .cases hk
   cases ex with
   |normal=>exact fin hk
   |ret=>exact fin hk
   |exit id=>cases hk
  .cases ht
 .cases ht
def Un:Y (FuncId×cr)->FuncId->J cr
 |[],_=>U
 |(g,c)::r,f=>if aw g f then Z c else Un r f
def Sh (P:Program):Y (FuncId×cr)->Prop
 |[]=>True
 |p::r=>aI P p.1 p.2/\Sh P r
theorem VJ {P:Program}:∀{l:Y (FuncId×cr)},Sh P l->Kh P (Un l)
 |[],_,f,c,h=>by simp[Un]at h
 |(g,d)::r,q,f,c,h=>by
  simp only[Un]at h;split at h
  .rename_i hb;have:=au hb;subst this;cases h;exact q.1
  .exact VJ q.2 f c h
theorem Qj {P:Program} {inert:FuncId->Bool} (hm:P.follows .mixedOrders=M) (hin:Kd P inert) {l:Y (FuncId×cr)} (d:Sh P l) {b9:TypeId->J Ty} {f:FuncId} {D:FT} {m:D.pre.ty.den->J D.post.ty.den} (hs:(yU P f).isSome=M) (he:∀x,YA (Un l) b9 inert (yU P f) D x=m x):pO P f ⟨D.pre,D.post,m⟩:=by
 obtain⟨q,hf⟩:=iK.1 hs;exact Sv hm (VJ d) hin hf D m λx y hxy=>by rw[<- hf,he];exact hxy
theorem pO.sub {P:Program} {f:FuncId} {pre post:Tm} {m m':pre.ty.den->J post.ty.den} (h:pO P f ⟨pre,post,m⟩) (hs:∀x y,m' x=Z y->m x=Z y):pO P f ⟨pre,post,m'⟩:=
 ⟨h.callable,λx y hxy=>h.calls x y (hs x y hxy)⟩
theorem aI.sub {P:Program} {f:FuncId} {pre post:Tm} {m m':pre.ty.den->J post.ty.den} (h:aI P f ⟨pre,post,m⟩) (hb:dN pre.bs.length post.bs.length=M) (hs:∀x y,m' x=Z y->m x=Z y):aI P f ⟨pre,post,m'⟩:=
 ((h.holds hb).sub hs).toC hb
theorem rq {α:Type} {b:Nat}:∀(x y:Y α),chk (bc (ah x) b) (λ_=>Z x)=Z y->aF (aw (ah x) 0) (El (Z ([]:Y α)) (chk (bc (ah ([]:Y α)+ah x) b) λ_=>(Z (([]:Y α)++x)))) (chk (bc (ah ([]:Y α)+ah x) b) λ_=>(Z (([]:Y α)++x)))=Z y:=by
 intro x y h;rw[oh,jX,bL,h];cases x with
 |nil=>
  obtain⟨_,h⟩:=dM h;cases h;show El (Z []) (Z [])=_;unfold El;rw[aT rfl]
 |cons a r=>rfl
theorem Tx {P:Program} {f:FuncId} {pre post:Tm} (hs:(yU P f).isSome=M):pO P f ⟨pre,post,λ_=>U⟩:=by
 obtain⟨d,hf⟩:=iK.1 hs;obtain⟨fn,c,hfn,hb,hnm,_⟩:=Ru hf;exact⟨⟨fn,hfn,by rw[hb];rfl,hnm⟩,λx y h=>by cases h⟩
theorem pO.orElse {P:Program} {f:FuncId} {pre post:Tm} {m m':pre.ty.den->J post.ty.den} (h:pO P f ⟨pre,post,m⟩) (h':pO P f ⟨pre,post,m'⟩):pO P f ⟨pre,post,λx=>match m x with|some y=>Z y|none=>m' x⟩:=
 ⟨h.callable,λx y hxy=>by
   cases hm:m x with
   |some z=>rw[show (cr.m ⟨pre,post,λx=>match m x with|some y=>Z y|none=>m' x⟩ x)=Z z by show (match m x with|some y=>Z y|none=>m' x)=Z z;rw[hm]]at hxy;cases hxy;exact h.calls x _ hm
   |none=>rw[show (cr.m ⟨pre,post,λx=>match m x with|some y=>Z y|none=>m' x⟩ x)=m' x by show (match m x with|some y=>Z y|none=>m' x)=m' x;rw[hm]]at hxy;exact h'.calls x y hxy⟩
theorem aI.orE {P:Program} {f:FuncId} {pre post:Tm} {m m':pre.ty.den->J post.ty.den} (hb:dN pre.bs.length post.bs.length=M) (h:aI P f ⟨pre,post,m⟩) (h':aI P f ⟨pre,post,m'⟩):aI P f ⟨pre,post,λx=>AI.orE (m x) (m' x)⟩:=by
 have e:(λx=>AI.orE (m x) (m' x))=λx=>match m x with|some y=>Z y|none=>m' x:=by funext x;cases m x<;>rfl
 rw[e];exact ((h.holds hb).orElse (h'.holds hb)).toC hb
def Yw (P:Program) (f:Ty->TypeId->Bool):Y Field->Nat->Ty->Bool
 |[],_,.un=>M
 |[x],off,T=>aw x.offset off&&f T x.type&&aw (P.cellsOf x.type) T.size
 |x::y::r,off,.pr a b=>aw x.offset off&&f a x.type&&aw (P.cellsOf x.type) a.size&&Yw P f (y::r) (off+a.size) b
 |_,_,_=>aa
def Su (P:Program) (f:Ty->TypeId->Bool) (e:TypeId):Nat->Ty->Bool
 |1,T=>f T e&&aw (P.cellsOf e) T.size
 |m+2,.pr a b=>f a e&&aw (P.cellsOf e) a.size&&Su P f e (m+1) b
 |_,_=>aa
def AD (P:Program):Nat->Ty->TypeId->Bool
 |0,_,_=>aa
 |n+1,T,t=>match T,P.underlying t with
  |.int k,Z (.int k')=>k==k'
  |.bool,Z .bool=>M
  |.str,Z .string=>M
  |.sl g,Z (.slice e)=>AD P n g e&&aw (P.cellsOf e) g.size&&eS 0 g.size
  |.st g,Z (.struct fs)=>Yw P (AD P n) fs.toList 0 g&&aw (P.cellsOf t) g.size
  |.st g,Z (.array m e)=>Su P (AD P n) e m g&&aw (P.cellsOf t) g.size
  |_,_=>aa
def UX:(T:Ty)->T.den->Prop
 |.int k,n=>(Lit.int k n).wf=M
 |.str,s=>ah s<=maxLen
 |.sl g,xs=>ah xs<=maxLen/\∀x∈(xs:Y g.den),UX g x
 |.st t,v=>UX t v
 |.pr a b,v=>UX a v.1/\UX b v.2
 |_,_=>True
def J9 (W:World) (T:Ty) (x:T.den) (cs:ξ):Prop:=cs.length=T.size/\∀(j:Nat) y v,(bP T x)[j]? =Z y->cs[j]? =Z v->mw (λ_=>False) W y v
theorem JM {α:Type} (z:α) (P:Nat->α->Prop):∀n:Nat,(∀i,i<n->∃a,P i a)->∃l:Y α,l.length=n/\∀i x,l[i]? =Z x->P i x
 |0,_=>⟨[],rfl,λi x h=>by simp at h⟩
 |n+1,h=>by
  obtain⟨l,hl,hp⟩:=JM z P n (λi hi=>h i (by omega));obtain⟨a,q⟩:=h n (by omega);refine ⟨l++[a],by simp[hl],λi x d=>?_⟩;by_cases hi:i<l.length
  .rw[bQ hi]at d;exact hp i x d
  .rw[bX (by omega)]at d;by_cases h0:i-l.length=0
   .rw[h0]at d;simp at d;subst d;rw[show i=n from by omega];exact q
   .rw[bJ (by simp;omega)]at d;cases d
theorem Addr.add_plain {a:Addr} (h:a.spot=U) (n:Nat):a.add n=⟨a.block,a.off+n,U⟩:=by
 unfold Addr.add;split
 .rename_i h0;subst h0;cases a;simp at h;subst h;rfl
 .rfl
theorem Xo {w:World} {a:Addr} {v:Value} (h:w.cell? a=Z v):a.spot=U:=by
 unfold M0 at h;split at h
 .split at h
  .cases h
  .rename_i hs;cases hh:a.spot with
   |none=>rfl
   |some _=>simp[hh]at hs
 .cases h
theorem J9.sub {W:World} {T:Ty} {x:T.den} {cs:ξ} {off n:Nat} (h:J9 W T x ((cs.drop off).take n)) (hn:n=T.size) (hl:off+n<=cs.length):∀(j:Nat) y v,(bP T x)[j]? =Z y->cs[off+j]? =Z v->mw (λ_=>False) W y v:=λj y v d hv=>by
 refine h.2 j y v d ?_;have hj:j<T.size:=by have:=(bm.1 d).1;rwa [bA]at this
 rw[cA,aT (by omega),gP];exact hv
section
variable {H:Type} {enc:TypeId×Value->H} {P:Program} {W:World} {base:Nat} {sp:Nat->Bool} {hd:Bool}
theorem Vc {f:Ty->TypeId->Bool} {m:Nat} (s:∀(T:Ty) (t:TypeId) (cs:ξ) x,f T t=M->DataW.trod enc P W base sp hd m t cs=Z x->∃v,J9 W T v cs/\UX T v) (cs:ξ) (ts:Y (DataW H×Y MemPlace)):
 ∀(fs:Y Field) (off k:Nat) (T:Ty),Yw P f fs off T=M->off+T.size<=cs.length->(∀(i:Nat) (fl:Field),fs[i]? =Z fl->∃z,DataW.trod enc P W base sp hd m fl.type ((cs.drop fl.offset).take (P.cellsOf fl.type))=Z z)->
 ∃v,(∀(j:Nat) y u,(bP T v)[j]? =Z y->cs[off+j]? =Z u->mw (λ_=>False) W y u)/\UX T v
 |[],off,k,.un,_,_,_=>⟨(),λj y u d=>by simp[bP]at d,trivial⟩
 |[x],off,k,T,h,hl,hg=>by
  simp only[Yw,ak]at h;obtain⟨⟨h1,h2⟩,q⟩:=h;have h1:=au h1;have q:=au q;obtain⟨z,A⟩:=hg 0 x rfl;obtain⟨v,hv,F⟩:=s T _ _ _ h2 A;rw[h1]at hv;exact⟨v,hv.sub q (by omega),F⟩
 |x::L::r,off,k,.pr a b,h,hl,hg=>by
  simp only[Yw,ak]at h;obtain⟨⟨⟨h1,h2⟩,q⟩,h4⟩:=h;have h1:=au h1;have q:=au q;simp only[Ty.size]at hl;obtain⟨z,A⟩:=hg 0 x rfl;obtain⟨v,hv,F⟩:=s a _ _ _ h2 A;rw[h1]at hv;have hv:=hv.sub q (by omega);obtain⟨v',I,D⟩:=Vc s cs ts (L::r) (off+a.size) (k+1) b h4 (by omega) (λi fl hi=>hg (i+1) fl (by simpa using hi));refine ⟨(v,v'),λj y u d hu=>?_,F,D⟩;simp only[bP]at d;by_cases hj:j<a.size
  .rw[bQ (by rw[bA];exact hj)]at d;exact hv j y u d hu
  .rw[bX (by rw[bA];omega),bA]at d;exact I _ y u d (by rw[show off+a.size+(j-a.size)=off+j from by omega];exact hu)
theorem Vd {f:Ty->TypeId->Bool} {m:Nat} {e:TypeId} (q:∀(T:Ty) (t:TypeId) (cs:ξ) x,f T t=M->DataW.trod enc P W base sp hd m t cs=Z x->∃v,J9 W T v cs/\UX T v) (cs:ξ):
 ∀(n i:Nat) (T:Ty),Su P f e n T=M->i*P.cellsOf e+T.size<=cs.length->(∀j,j<n->∃z,DataW.trod enc P W base sp hd m e ((cs.drop ((i+j)*P.cellsOf e)).take (P.cellsOf e))=Z z)->
 ∃v,(∀(j:Nat) y u,(bP T v)[j]? =Z y->cs[i*P.cellsOf e+j]? =Z u->mw (λ_=>False) W y u)/\UX T v
 |0,i,T,h,_,_=>by unfold Su at h;cases h
 |1,i,T,h,hl,hg=>by
  simp only[Su,ak]at h;have I:=au h.2;obtain⟨z,s⟩:=hg 0 (by omega);obtain⟨v,hv,D⟩:=q T _ _ _ h.1 s;rw[dh]at hv;exact⟨v,hv.sub I (by omega),D⟩
 |n+2,i,T,h,hl,hg=>by
  cases T with
  |pr a b=>
   simp only[Su,ak]at h;obtain⟨⟨h1,h2⟩,h4⟩:=h;have I:=au h2;simp only[Ty.size]at hl;obtain⟨z,s⟩:=hg 0 (by omega);obtain⟨v,hv,D⟩:=q a _ _ _ h1 s;rw[dh]at hv;have hv:=hv.sub I (by omega);obtain⟨L,F,A⟩:=Vd q cs (n+1) (i+1) b h4 (by rw[M1,Nat.one_mul];omega) (λj hj=>by have:=hg (j+1) (by omega);rwa [show i+(j+1)=i+1+j from by omega]at this);refine ⟨(v,L),λj y u d hu=>?_,D,A⟩;simp only[bP]at d;by_cases hj:j<a.size
   .rw[bQ (by rw[bA];exact hj)]at d;exact hv j y u d hu
   .rw[bX (by rw[bA];omega),bA]at d;exact F _ y u d (by rw[M1,Nat.one_mul,show i*P.cellsOf e+P.cellsOf e+(j-a.size)=i*P.cellsOf e+j from by omega];exact hu)
  |_=>unfold Su at h;cases h
theorem G7:∀(n:Nat) (T:Ty) (t:TypeId) (fuel:Nat) (cs:ξ) x,AD P n T t=M->(∀b,sp b=M)->DataW.trod enc P W base sp hd fuel t cs=Z x->∃v,J9 W T v cs/\UX T v
 |0,_,_,_,_,_,h,_,_=>by unfold AD at h;cases h
 |n+1,T,t,fuel,cs,x,h,hsp,ht=>by
  unfold AD at h;split at h
  .rename_i k k' hu;have hk:=eq_of_beq h;subst hk;obtain⟨m,rfl,_,z⟩:=DataW.trod_int hu ht;refine ⟨m,⟨rfl,λj y v d hv=>?_⟩,z⟩;cases j with
   |zero=>simp[bP]at d hv;subst d hv;exact .raw _
   |succ j=>simp[bP]at d
  .rename_i hu;obtain⟨b,rfl,_⟩:=DataW.trod_bool hu ht;refine ⟨b,⟨rfl,λj y v d hv=>?_⟩,trivial⟩;cases j with
   |zero=>simp[bP]at d hv;subst d hv;exact .raw _
   |succ j=>simp[bP]at d
  .rename_i hu;obtain⟨s,rfl,_,hs⟩:=DataW.trod_string hu ht;refine ⟨s.data.toList,⟨rfl,λj y v d hv=>?_⟩,by simpa[UX] using hs⟩;cases j with
   |zero=>simp[bP]at d hv;subst d hv;exact .raw _
   |succ j=>simp[bP]at d
  .rename_i g e hu;simp only[ak]at h;obtain⟨⟨h1,h2⟩,h3⟩:=h;have h2:=au h2;have h3:0<g.size:=a_ h3;rcases Go.Deep.open_slice hu ht with ⟨rfl,_⟩|⟨a,len,cap,m,k,D,Pl,rfl,hb,hl,hm,hmm,_,hi⟩
   .refine ⟨[],⟨rfl,λj y v d hv=>?_⟩,by simp[UX]⟩;cases j with
    |zero=>simp[bP]at d hv;subst d hv;exact .nil _ _ (by unfold maxLen;omega)
    |succ j=>simp[bP]at d
   .rw[hsp,aT rfl]at hmm;rw[h2]at hi;obtain⟨xs,hx1,F⟩:=JM g.zero (λi (v:g.den)=>∃cs',W.cells? base (a.add (i*g.size)) g.size=Z cs'/\J9 W g v cs'/\UX g v) len (λi hil=>by
     obtain⟨cs',hc,htt⟩:=hi i (by omega);obtain⟨v,hv,z⟩:=G7 n g e k cs' _ h1 hsp htt;exact⟨v,cs',hc,hv,z⟩)
    refine ⟨xs,⟨rfl,λj y v d hv=>?_⟩,by show ah xs<=maxLen;omega,λy d=>?_⟩
    .cases j with
     |succ j=>simp[bP]at d
     |zero=>
      simp[bP]at d hv;subst d hv;by_cases h0:len=0
      .have:xs=[]:=ji.1 (by omega);subst this;subst h0;exact .nil _ _ hm
      .obtain⟨x0,hx0⟩:∃x0,xs[0]? =Z x0:=⟨xs[0]'(by omega),ax (by omega)⟩
       obtain⟨cs0,hc0,_⟩:=F 0 x0 hx0;obtain⟨_,hcl0,hat0⟩:=World.cells?_some hc0;have hca:=hat0 0 h3;rw[ax (by omega)]at hca;have hspot:a.spot=U:=by
        have:=Xo hca;simpa[Addr.add] using this
       have hblk:=World.block_lt_of_cell? W _ hca;rw[Nat.zero_mul,Addr.add_plain hspot,Addr.add_plain rfl]at hca hblk;have hcell:∀(i j:Nat) x,xs[i]? =Z x->j<g.size->∃cs',W.cell? ⟨a.block,a.off+(i*g.size+j),U⟩=cs'[j]? /\j<cs'.length/\J9 W g x cs':=λi j x I hj=>by
        obtain⟨cs',hc,hr,_⟩:=F i x I;obtain⟨_,hcl,hat⟩:=World.cells?_some hc;have:=hat j hj;rw[Addr.add_plain hspot,Addr.add_plain rfl,v_]at this;exact⟨cs',this,by omega,hr⟩
       have hflat:∀j,j<xs.length*g.size->∃x,xs[j/g.size]? =Z x/\j%g.size<g.size/\j=j/g.size*g.size+j%g.size:=λj hj=>by
        have h5:j/g.size<xs.length:=Nat.div_lt_of_lt_mul (by rw[G1];exact hj);exact⟨xs[j/g.size],ax h5,Nat.mod_lt _ h3,by rw[G1];exact (Nat.div_add_mod j g.size).symm⟩
       have hlen:(List.flatMap (bP g) xs).length=xs.length*g.size:=eH (bA g) xs;obtain⟨ab,ao,az⟩:=a;cases hspot;rw[<- hx1];refine .sl (List.flatMap (bP g) xs) xs.length cap ab ao (λj=>(W.cell? ⟨ab,ao+j,U⟩).getD undef) (by omega) hm (λh=>h) hblk (rj g xs) (λj hj=>?_) (λj y d=>?_)
       .obtain⟨x,I,hjs,hje⟩:=hflat j (by omega);obtain⟨cs',L,g2,_⟩:=hcell _ _ x I hjs;rw[<- hje]at L;simp only[L,ax g2,uo]
       .have hj:j<xs.length*g.size:=by rw[<- hlen];exact (bm.1 d).1
        obtain⟨x,I,hjs,hje⟩:=hflat j hj;obtain⟨cs',L,g2,g3⟩:=hcell _ _ x I hjs;rw[<- hje]at L;simp only[L];rw[ax g2];refine g3.2 (j%g.size) y _ ?_ (ax g2);obtain⟨r,hr⟩:=DZ (bA g) xs (j/g.size) x I;have:((List.flatMap (bP g) xs).drop (j/g.size*g.size))[j%g.size]? =Z y:=by rw[gP,<-hje];exact d
        rw[hr,bQ (by rw[bA];exact hjs)]at this;exact this
    .obtain⟨i,A⟩:=eW d;obtain⟨_,_,_,z⟩:=F i y A;exact z
  .rename_i g fs hu;simp only[ak]at h;have h2:=au h.2;obtain⟨xs,m,rfl,_,hl,hxl,hg⟩:=DataW.trod_struct hu ht;obtain⟨v,hv,z⟩:=Vc (f:=AD P n) (m:=m) (λT t cs x h1 h2=>G7 n T t m cs x h1 hsp h2) cs xs fs.toList 0 0 g h.1 (by omega) (λi fl hi=>by
    have A:fs[i]? =Z fl:=by simpa using hi
    have:=hg i fl A;have hlt:i<xs.length:=by rw[hxl];exact (ct.1 A).1
    rw[ax hlt]at this;exact⟨_,this⟩)
   exact⟨v,⟨by rw[hl,h2];rfl,λj y u d hu=>hv j y u d (by rw[bL];exact hu)⟩,z⟩
  .rename_i g m e hu;simp only[ak]at h;have h2:=au h.2;obtain⟨xs,q,rfl,_,hl,hxl,hg⟩:=DataW.trod_array hu ht;obtain⟨v,hv,z⟩:=Vd (f:=AD P n) (m:=q) (λT t cs x h1 h2=>G7 n T t q cs x h1 hsp h2) cs m 0 g h.1 (by omega) (λj hj=>by
    have:=hg j hj;rw[ax (by omega)]at this;rw[bL];exact⟨_,this⟩)
   exact⟨v,⟨by rw[hl,h2];rfl,λj y u d hu=>hv j y u d (by rw[Nat.zero_mul,bL];exact hu)⟩,z⟩
  .cases h
theorem Pv {n:Nat} {T:Ty} {t:TypeId} {v:Value} {r:Reach} {bs:Nat} (d:AD P n T t=M) (h1:T.one=M) (h:GW P W r bs t v):v.cells.toList=[v]:=by
 cases n with
 |zero=>unfold AD at d;cases d
 |succ n=>
  unfold AD at d;unfold GW at h;cases v with
  |agg cs=>
   exfalso;split at d<;>rename_i hu<;>first|(rw [hu]at h;simp only[]at h;unfold Cell.okWide at h;rw[hu]at h;unfold Cell.ok at h;rw[hu]at h;simp at h)|cases h1|cases d
  |_=>rfl
theorem SW {n:Nat} {T:Ty} {t:TypeId} {v:Value} {r:Reach} {bs:Nat} (d:AD P n T t=M) (h1:T.one=aa) (h:GW P W r bs t v):∃cs,v= .agg cs:=by
 cases n with
 |zero=>unfold AD at d;cases d
 |succ n=>
  unfold AD at d;unfold GW at h;split at d<;>rename_i hu<;>first|(rw [hu]at h;obtain⟨cs,h,_⟩:=h;exact⟨cs,h⟩)|cases h1|cases d
theorem open_arg {n:Nat} {T:Ty} {t:TypeId} {v:Value} {d:DataW H} {ps:Y MemPlace} {r:Reach} {bs:Nat} (s:AD P n T t=M) (hsp:∀b,sp b=M) (hok:GW P W r bs t v) (h:DataW.Trod enc P W base sp hd t v d ps):∃x,mw (λ_=>False) W (gh T x) v/\UX T x:=by
 obtain⟨fuel,hf⟩:=h;obtain⟨x,q,A⟩:=G7 n T t fuel _ _ s hsp hf;refine ⟨x,?_,A⟩;by_cases h1:T.one=M
 .obtain⟨e1,e2⟩:=Cq T x h1;exact q.2 0 _ v (by rw[e1];rfl) (by rw[Pv s h1 hok];rfl)
 .obtain⟨cs,rfl⟩:=SW s (by simpa using h1) hok;rw[qv T x (by simpa using h1)];have hl:cs.toList.length=(bP T x).length:=by rw[bA];exact q.1
  have:=mw.agg (O:=λ_=>False) (w:=W) (bP T x) cs.toList hl (nU T x) (λj y u z hu=>q.2 j y u z hu);simpa using this
end
theorem X8 {w:WT} {l:Y ET} (h:¬ue (w,l)):lQ (w,l)=Z ([],12):=by
 obtain⟨⟨a,b⟩,e,hq⟩:=aaw w l;have hb:¬b=0:=λg=>h (hq.1 g)
 refine bY ?_;unfold lQ tP aV bn ck bx ir bo bG aY cI aB cu;exact aQ e (bV (λ_=>ai rfl) λg=>(hb g).elim)
theorem aay (a b c:η) (at_ fi n:Int) (I:a.length<=9223372036854775807) (F:∀z∈a,0<=z/\z<=255) (hc:c.length<=9223372036854775807) (D:∀z∈c,0<=z/\z<=255) (h0:0<=at_/\at_<=255) (m:Int) (A:0<=m) (m1:m<=1000000):Ok (l_ ((a,b,c),m,at_,fi,n)) λ_=>True:=by
 unfold l_ aV ba bk bO cU cC ci dx gI bf l8 bo bG aY aB;refine ar (OF a b c m A m1 I F hc D) ?_;rintro⟨w,l⟩ tr;have hl:=tr.len;dsimp only at hl;refine aE (λ_=>ai trivial) λs=>?_
 have s:¬(l.length:Int)=0:=s;have hj:0<=bp (a9 .i64 at_) (aU l.length)/\bp (a9 .i64 at_) (aU l.length)<(l.length:Int):=by
  rw[gJ (by omega) (by omega)];exact⟨Int.tmod_nonneg _ h0.1,Int.tmod_lt_of_pos _ (by dsimp only[aj];omega)⟩
 dsimp only at hj ⊢;generalize bp (a9 .i64 at_) (aU l.length)=j at hj ⊢;obtain⟨d,q⟩:=hj;have hls:=tr.ls _ (bH (T:=tE) (xs:=l) (j:=j) d q);obtain⟨ls1,ls2⟩:=hls;refine aZ (by omega) (by omega) (vn s (aH d q ?_));refine aX (λ_=>True) ?_ λ_ _=>ai trivial
 refine aE (λ_=>aH d q (ai trivial)) λ_=>aE (λ_=>aH d q (ai trivial)) λ_=>aE (λ_=>aH d q (ai trivial)) λ_=>aE (λ_=>aH d q (ai trivial)) λ_=>aE (λ_=>aH d q (ai trivial)) λ_=>aE (λ_=>aH d q (aW ?_)) λ_=>aE (λ_=>aH d q (aW ?_)) λ_=>?_
 .exact aZ (by omega) (by omega) (aZ (by rw[cS];omega) (by omega) (aH d q (ai trivial)))
 .exact aZ (by omega) (by omega) (aZ (by rw[cS];omega) (by omega) (aH d q (ai trivial)))
 refine aX (λx=>x.2.2.2.2.2.2.2=l) (ai rfl) ?_;rintro⟨x1,x2,x3,x4,x5,x6,x7,L⟩ e;dsimp only at e;subst e;refine aK (λ_=>?_) λ_=>ai trivial
 have w1:a9 .i64 (j+1)=j+1:=gJ (by omega) (by omega);dsimp only;rw[w1];refine cK (cK (Nn rfl (cY d (cY (by omega) (cK (cY (by omega) (cY (by omega) (aZ ?_ (by omega) (aK (λ_=>ai trivial) λ_=>ai trivial)))))))));rw[b7,kI];omega
theorem Oz {z:Int} (h:(Lit.int .u8 z).wf=M):0<=z/\z<=255:=⟨bg (ud.1 h).1,bg (ud.1 h).2⟩
def Kp (w:WT) (l:Y ET) (cl:Nat->η):Nat->HS
 |0=>HS.zero w
 |i+1=>pC w (Kp w l cl i) (mN l i) (cl i)
abbrev chC (w:WT) (l:Y ET) (cl:Nat->η) (i:Nat):η:=wV w (Kp w l cl i) (mN l i)
def CL (w:WT) (l:Y ET) (cl:Nat->η):Prop:=∀i,i<l.length->cl i=chC w l cl i\/∃s,s<i/\cl i=jl (chC w l cl i) (cl s)
theorem CL.le {w:WT} {l:Y ET} {cl:Nat->η} (C:CL w l cl) {i:Nat} (h:i<l.length):LE (chC w l cl i) (cl i):=by
 rcases C i h with e|⟨s,_,e⟩
 .rw[e];exact LE.refl _
 .rw[e];exact ahf _ _
theorem Hb {w:WT} {l:Y ET} {cl:Nat->η} (tr:ue (w,l)) (C:CL w l cl):∀i:Nat,i<=l.length->OX (i:Int) (Kp w l cl i)/\Wa w (Kp w l cl i)/\∀k,k<i->En (i:Int) (cl k)
 |0,_=>by
  have wb:=tr.wb;dsimp only at wb;exact⟨HS.zero_ok (by have:=wb.c;omega) (by have:=wb.l;omega) (by have:=wb.f;omega) (by have:=wb.t;omega),Wa.zero w,λk hk=>by omega⟩
 |i+1,h=>by
  obtain⟨o,d,en⟩:=Hb tr C i (by omega);have hl:=tr.len;dsimp only at hl;have ok:=N5 (tr.ev _ (Bf (l:=l) (i:=i) (by omega))) tr.wb d;have h1:En ((i:Int)+1) (chC w l cl i):=JK o ok.th4;have h2:En ((i:Int)+1) (cl i):=by
   rcases C i (by omega) with e|⟨s,hs,e⟩
   .rw[e];exact h1
   .rw[e];exact h1.jl ((en s hs).mono (by omega))
  refine ⟨Vx o (by omega) h2,d.ent _ _,λk hk=>?_⟩;by_cases e:k=i
  .subst e;exact h2
  .exact (en k (by omega)).mono (by omega)
section
variable {w:WT} {l:Y ET} {cl:Nat->η} (tr:ue (w,l)) (C:CL w l cl) {i:Nat} (h:i<l.length)
include tr C h
theorem Zk:OX (i:Int) (Kp w l cl i):=(Hb tr C i (by omega)).1
theorem afj:Wa w (Kp w l cl i):=(Hb tr C i (by omega)).2.1
theorem TJ:EOK w (Kp w l cl i) (mN l i):=N5 (tr.ev _ (Bf h)) tr.wb (afj tr C h)
theorem ZP:En ((i:Int)+1) (cl i):=(Hb tr C (i+1) h).2.2 i (by omega)
theorem aft:En ((i:Int)+1) (chC w l cl i):=JK (Zk tr C h) (TJ tr C h).th4
end
def Cn (l:Y ET) (i:Nat) (x:η):Prop:=∀u,x.getD u 0<=(JI l u i:Int)
theorem Cn.jl {l:Y ET} {i:Nat} (a b:η) (d:Cn l i a) (hb:Cn l i b):Cn l i (jl a b):=λu=>by rw[AX,vE];have:=d u;have:=hb u;omega
theorem Cn.mono {l:Y ET} {i j:Nat} {x:η} (h:Cn l i x) (g:i<=j):Cn l j x:=λu=>by have:=h u;have:=Om l u g;omega
def L9 (l:Y ET) (o:Nat):Nat->Int
 |0=> -1
 |i+1=>if (mN l i).k=4/\(mN l i).ob=o then (i:Int) else L9 l o i
theorem Y7 (l:Y ET) (o:Nat):∀i:Nat,-1<=L9 l o i/\L9 l o i<i
 |0=>⟨gp _,by show (-1:Int)<0;omega⟩
 |i+1=>by have:=Y7 l o i;rw[L9];split<;>omega
def Yj (l:Y ET) (i:Nat):Prop:=(mN l i).k=3/\0<=L9 l (mN l i).ob i
instance (l:Y ET) (i:Nat):Decidable (Yj l i):=by unfold Yj;exact inferInstance
def Yi (l:Y ET) (i:Nat):Nat:=(L9 l (mN l i).ob i).toNat
theorem Ni {l:Y ET} {i:Nat} (h:Yj l i):Yi l i<i:=by have:=Y7 l (mN l i).ob i;have:=h.2;unfold Yi;omega
def SD (w:WT) (l:Y ET):Nat->HS×Y η
 |0=>(HS.zero w,[])
 |i+1=>
  let c:=if Yj l i then jl (wV w (SD w l i).1 (mN l i)) ((SD w l i).2.getD (Yi l i) []) else wV w (SD w l i).1 (mN l i)
  (pC w (SD w l i).1 (mN l i) c,(SD w l i).2++[c])
def xg (w:WT) (l:Y ET) (i:Nat):η:=(SD w l (i+1)).2.getD i []
theorem G5 (w:WT) (l:Y ET):∀i,(SD w l i).2.length=i
 |0=>rfl
 |i+1=>by rw[SD];simp[G5 w l i]
theorem Nc (w:WT) (l:Y ET) {k:Nat}:∀i,k<i->(SD w l i).2.getD k []=xg w l k
 |i+1,h=>by
  by_cases e:k=i
  .subst e;rfl
  .rw[<- Nc w l i (by omega),SD];dsimp only;rw[ay,bQ (by rw[G5];omega),ay]
theorem U7 (w:WT) (l:Y ET) (i:Nat):xg w l i=if Yj l i then jl (wV w (SD w l i).1 (mN l i)) (xg w l (Yi l i)) else wV w (SD w l i).1 (mN l i):=by
 unfold xg;rw[SD];dsimp only;rw[ay,bX (by rw[G5];omega),G5,up];show (if Yj l i then _ else _)=_;by_cases h:Yj l i
 .rw[aT h,aT h,Nc w l i (Ni h)];rfl
 .rw[aL h,aL h]
theorem YF (w:WT) (l:Y ET):∀i,(SD w l i).1=Kp w l (xg w l) i
 |0=>rfl
 |i+1=>by
  rw[Kp,U7,<-YF w l i,SD];dsimp only;by_cases h:Yj l i
  .rw[aT h,aT h,Nc w l i (Ni h)]
  .rw[aL h,aL h]
abbrev Ko (w:WT) (l:Y ET) (i:Nat):η:=chC w l (xg w l) i
theorem Nd (w:WT) (l:Y ET) (i:Nat):xg w l i=if Yj l i then jl (Ko w l i) (xg w l (Yi l i)) else Ko w l i:=by
 rw[U7,YF]
theorem CL_S (w:WT) (l:Y ET):CL w l (xg w l):=λi _=>by
 rw[Nd];by_cases h:Yj l i
 .rw[aT h];exact .inr ⟨_,Ni h,rfl⟩
 .rw[aL h];exact .inl rfl
theorem aed {w:WT} {l:Y ET} {i:Nat} (h:¬(mN l i).k=3):xg w l i=Ko w l i:=by rw[Nd,aL λq=>h q.1]
abbrev Kf0:Ty:=(.st (.pr aM (.pr aM (.pr aM aM))))
abbrev Yf0:=((Y η)×(Y η)×(Y η)×(Y η)×(Y η)×(η)×(Y η)×η)
abbrev Yf1:=(π)
abbrev Yf2:=((Y η)×(Y η)×Int)
def zB (it:xT) (x:eP×V0×Int×Int×Int×Int×Int×(η)×η):J (Yf0×(η)×Y η):=
 (av (q_ (x.2.1.1,x.2.1.2.1,x.2.1.p2,x.2.1.p3,x.2.1.p4,x.2.1.p5,x.2.1.p6,x.2.1.p7,x.2.1.q8)) λz=>(ck (e9 x.p2 (ah z.2.1)) (av (rc ((x.p2,x.p3,x.p4,x.p5,x.p6,x.p7,x.q8),z.1,(x.1.1,x.1.2.1,x.1.p2,x.1.p3,x.1.p4,x.1.q5),z.2.1,z.p2,z.p3,z.p4,z.p5,z.p6,z.p7,z.q8)) λq=>(bo (aw (ah z.q8) (ah q.q11)&&(aw (ah z.p7) (ah q.p10)&&(aw (ah z.p6) (ah q.p9)&&(aw (ah z.p5) (ah q.p8)&&(aw (ah z.p4) (ah q.p7)&&(aw (ah z.p3) (ah q.p6)&&(aw (ah z.p2) (ah q.p5)&&(aw (ah z.2.1) (ah q.p4)&&M)))))))) (it (Int×eP×jD×(η)×(η)×(Y η)×(Y η)×(Y η)×(Y η)×(Y η)×(Y η)×(Y η)×η) _ (λd=>(bx d.1 (aY q.1) (l8 d.1 q.1 (av (jv (d.p4,(aG (T:=(.sl aM)) q.1 d.1))) λD=>(cI ((cu d.1),(d.2.1.1,d.2.1.2.1,d.2.1.p2,d.2.1.p3,d.2.1.p4,d.2.1.q5),(d.p2.1,d.p2.2.1,d.p2.p2,d.p2.p3,d.p2.p4,d.p2.p5,d.p2.q6),d.p3,D,d.p5,d.p6,d.p7,d.p8,d.p9,d.p10,d.p11,d.q12)))) (av (av (pJ (d.p4,d.p2.1)) λA=>(av (pH (((d.2.1.1,d.2.1.2.1,d.2.1.p2,d.2.1.p3,d.2.1.p4,d.2.1.q5),d.p2.1,d.p2.2.1,d.p2.p2,d.p2.p3,d.p2.p4,d.p2.p5,d.p2.q6),d.p3,d.p5,d.p6,d.p7,d.p8,d.p9,d.p10,d.p11,d.q12,A)) λs=>(bo (aw (ah A) (ah s.q9)&&(aw (ah d.q12) (ah s.p8)&&(aw (ah d.p11) (ah s.p7)&&(aw (ah d.p10) (ah s.p6)&&(aw (ah d.p9) (ah s.p5)&&(aw (ah d.p8) (ah s.p4)&&(aw (ah d.p7) (ah s.p3)&&(aw (ah d.p6) (ah s.p2)&&(aw (ah d.p5) (ah s.2.1)&&M))))))))) (Z ((s.p2,s.p3,s.p4,s.p5,s.p6,s.1,s.p7,s.p8),s.q9,s.2.1))))) λr=>Z (bZ r)))) (0,(q.p3.1,q.p3.2.1,q.p3.p2,q.p3.p3,q.p3.p4,q.p3.q5),(q.2.1.1,q.2.1.2.1,q.2.1.p2,q.2.1.p3,q.2.1.p4,q.2.1.p5,q.2.1.q6),q.p2,(aG (T:=(.sl aM)) z.2.1 x.p2),q.p4,q.p5,q.p6,q.p7,q.p8,q.p9,q.p10,q.q11))))))
def Dt (x:eP×V0×Int×Int×Int×Int×Int×(η)×η):J (Yf0×(η)×Y η):=zB @iter x
def pI (x:eP×V0×Int×Int×Int×Int×Int×(η)×η):J (Yf0×(η)×Y η):=zB @fR x
def jz (x:eP×Int×Int×Int×Int×Int×(η)×η):J (Bool):=
 (jn (bf x.p2 3 (bG kG x.1.1 x.p3 λq=>(aB (!q.2.2.2.1))) (bf x.p2 4 (bG kG x.1.1 x.p3 λd=>(aB (!d.2.2.2.1))) (aB aa))) λx1=>(Z x1))
def r_ (it:xT) (x:eP×Y jD):J Yf2:=
 (av (lQ x) λy1=>(ir y1.2 0 (Z (([]:Y η),([]:Y η),y1.2)) (av (nL x.1) λy2=>(ck (cP 0 (aY x.2)&&cP (aY x.2) (aY x.2)&&bc (aP (aY x.2)) 24) (it (Int×(eP×Y jD)×(Y η)×(Y η)×V0×Y Γ) _ (λd=>(bx d.1 (aY x.2) (bG gG x.2 d.1 λs=>(av (pI (d.2.1.1,d.p4,s)) λq=>(ck (e9 d.1 (ah d.p2)) (j7 (.sl aM) (cj d.p2 d.1 q.2.1) d.1 λz6=>(av (wy z6) λz=>(ck (e9 d.1 (ah d.p3)) (jn (bf s.2.1 3 (aF (Nt (K:=aM) (V:=aM) s.p2 d.q5) (j7 (.sl aM) (cj d.p2 d.1 q.2.1) d.1 λz9=>(j7 (.sl aM) (cj d.p3 d.1 z) (yl (K:=aM) (V:=aM) s.p2 d.q5 0) λI=>(av (jv (z9,I)) λD=>(ck (e9 d.1 (ah (cj d.p3 d.1 z))) (j7 (.sl aM) (cj (cj d.p3 d.1 z) d.1 D) d.1 λF=>(av (wy F) λL=>(ck (e9 s.1 (ah q.2.2)) (aB (d.2.1,(cj d.p2 d.1 q.2.1),(cj (cj d.p3 d.1 z) d.1 D),q.1,d.q5,(cj q.2.2 s.1 L)))))))))) (aB (d.2.1,(cj d.p2 d.1 q.2.1),(cj d.p3 d.1 z),q.1,d.q5,q.2.2))) (bf s.2.1 4 (aB (d.2.1,(cj d.p2 d.1 q.2.1),(cj d.p3 d.1 z),q.1,(AU (K:=aM) (V:=aM) s.p2 d.1 d.q5),q.2.2)) (aB (d.2.1,(cj d.p2 d.1 q.2.1),(cj d.p3 d.1 z),q.1,d.q5,q.2.2)))) λA=>(cI ((cu d.1),A.1,A.2.1,A.p2,(A.q5,A.p3),A.p4))))))))) (aB (d.p2,d.p3,0)))) (0,x,(aA (aP (aY x.2)) ([]:η)),(aA (aP (aY x.2)) ([]:η)),y2,([]:Y Γ)))))))
def yf (x:eP×Y jD):J Yf2:=r_ @iter x
def js (x:eP×Y jD):J Yf2:=r_ @fR x
def tO (it:xT) (x:eP×Y jD):J (Xv×Int):=
 (av (js x) λy1=>(ir y1.2.2 0 (Z (([]:Y Γ),y1.2.2)) (bo (cP 0 (aY x.2)&&cP (aY x.2) (aY x.2)&&bc (aP (aY x.2)) 16) (it (Int×(eP×Y jD)×Yf1×Xv×Y Γ) _ (λx2=>(bx x2.1 (aY x.2) (jn (α:=(eP×Y jD)×Yf1×Xv×Y Γ) (bG gG x.2 x2.1 λF=>(jn (α:=(eP×Y jD)×Yf1×Xv×Xv×Int×Int×Int×Int×Int×(η)×η) (bf F.1 0 (aB (x2.2.1,((cu x2.p2.1),x2.p2.2),x2.p3,x2.q4,0,F.2)) (bf F.1 1 (aB (x2.2.1,(x2.p2.1,(cu x2.p2.2.1),x2.p2.2.2),x2.p3,x2.q4,1,F.2)) (bf F.1 2 (aB (x2.2.1,(x2.p2.1,x2.p2.2.1,(cu x2.p2.p2),x2.p2.q3),x2.p3,x2.q4,2,F.2)) (bf F.1 3 (aB (x2.2.1,(x2.p2.1,x2.p2.2.1,x2.p2.p2,(cu x2.p2.q3)),x2.p3,x2.q4,3,F.2)) U)))) λd=>(jn (α:=(eP×Y jD)×Yf1×Xv×Xv×Int×Int×Int×Int×Int×(η)×η) (bf d.p4 0 (ck (e9 x2.1 (ah d.p2)) (aB (d.1,d.2.1,(cj d.p2 x2.1 (d.2.1.1,0)),d.p3,0,d.q5))) (bf d.p4 1 (ck (e9 x2.1 (ah d.p2)) (aB (d.1,d.2.1,(cj d.p2 x2.1 (d.2.1.2.1,1)),d.p3,1,d.q5))) (bf d.p4 2 (ck (e9 x2.1 (ah d.p2)) (aB (d.1,d.2.1,(cj d.p2 x2.1 (d.2.1.p2,2)),d.p3,2,d.q5))) (bf d.p4 3 (ck (e9 x2.1 (ah d.p2)) (aB (d.1,d.2.1,(cj d.p2 x2.1 (d.2.1.q3,3)),d.p3,3,d.q5))) U)))) λz=>(av (jz (z.1.1,z.q4)) λy7=>(aF (!y7) (aB (z.1,z.2.1,z.p2,z.p3)) (bo (cP 0 x2.1&&cP x2.1 (ah z.1.2)) (it (Int×(eP×Y jD)×Yf1×Xv×Xv×Int×Int×Int×Int×Int×(η)×η) _ (λq=>(bx q.1 (aU (ah (cM (aP x2.1) z.1.2))) (jn (α:=(eP×Y jD)×Yf1×Xv×Xv×Int×Int×Int×Int×Int×(η)×η) (bG gG (cM (aP x2.1) z.1.2) q.1 λA=>(jn (av (jz (q.2.1.1,A)) λy12=>(aF y12 (bf A.p2 q.p7 (ir A.1 q.p5 (bf A.2.1 4 (aB (M,q.2)) (aB ((decide ((q.p6:Int)=4)),q.2))) (aB (aa,q.2))) (aB (aa,q.2))) (aB (aa,q.2)))) λD=>(jn (aF D.1 (bG (.sl aM) y1.1 x2.1 λL=>(j7 im D.p3 q.1 λI=>(av (oF (L,I)) λy16=>(aB ((!y16),D.2))))) (aB (aa,D.2))) λs=>(aF s.1 (bo (bc (ah s.p4+ah ([(q.1,x2.1)])) 16) (aB (s.2.1,s.p2,s.p3,(s.p4++([(q.1,x2.1)])),s.q5))) (aB s.2))))) λx9=>(cI ((cu q.1),x9))) (aB (bZ (q.2.1,q.p2,q.p3,q.p4))))) (0,z)))))))) λx3=>(cI ((cu x2.1),x3))) (aB (x2.q4,0)))) (0,x,(0,0,0,0),(aA (aP (aY x.2)) ((0,0):Γ)),([]:Y Γ))))))
def AO (x:eP×Y jD):J (Xv×Int):=tO @iter x
def kB (x:eP×Y jD):J (Xv×Int):=tO @fR x
def qk (x:Unit):J (Bool):=
 (av (BX ()) λs=>(av (kB (s,[(0,1,(-1),0,(-1),([]:η),([]:η)),(0,20,1,0,0,([]:η),([]:η)),(1,1,(-1),0,(-1),([]:η),([]:η)),(0,4,0,5,0,([]:η),([]:η)),(0,4,1,6,0,([]:η),([]:η)),(1,3,1,6,6,([]:η),([]:η)),(1,3,0,5,6,([]:η),([]:η))])) λd=>(jn (α:=Bool) (bf d.2 0 (bf (aY d.1) 1 (bG im d.1 0 λq=>(aB (Mo (.pr aM (.pr aM .un)) (q.1,q.2,()) (4,5,()) !=aa))) (aB aa)) (aB aa)) λz=>(Z z))))
def kZ (x:eP×Y jD):J (Bool):=
 (av (mW x) λs=>(av (js x) λd=>(av (kB x) λq=>(bf s.2 0 (jn (bf d.2.2 0 (bf q.2 0 (bf (aY d.1) (aY x.2) (aB (decide (((aY d.2.1):Int)=(aY d.1)))) (aB aa)) (aB aa)) (aB aa)) λA=>(Z A)) (jn (bf d.2.2 12 (bf q.2 12 (aB (decide (((a9 .i64 ((a9 .i64 ((aY d.1)+(aY d.2.1)))+(aY q.1))):Int)=0))) (aB aa)) (aB aa)) λz=>(Z z))))))
def km (x:(eP×Y jD)×(η×(η)×η)×Int×Int×Int):J (Bool):=
 (jn (bx 60 (aY x.1.2) (aB (M,x)) (bx 60 (a9 .i64 ((a9 .i64 ((a9 .i64 ((a9 .i64 ((aY x.1.1.1)+(aY x.1.1.2.1)))+(aY x.1.1.p2)))+(aY x.1.1.p3)))+(aY x.1.1.p4))) (aB (M,x)) (aB ((fK 300 (aY x.1.1.q5)),x)))) λx1=>(aF x1.1 (av (qk ()) λA=>(Z A)) (jn (α:=Bool) (av (kZ x1.2.1) λz=>(aF z (av (l_ (x1.p2,30,x1.q3)) λs=>(av (kZ s) λq=>(aF q (av (qk ()) λd=>(aB d)) (aB aa)))) (aB aa))) λD=>(Z D))))
def HS.tS (h:HS):Y η×Y η×Y η×Y η×Y η×η×Y η×η:=(h.S,h.L,h.R,h.C,h.F,h.X,h.N,h.W)
theorem aa4 {n:Int} {w:Bv} {h:HS} (o:OX n h) (hn:n+1<=1000000) {e:EV} (ok:EOK w h e) {x:ETp} (A:EvT e x):pI (w,h.t,x)=Z ((EI w h e).1.tS,(EI w h e).2,(EI w h e).1.T):=by
 have s2:=RO o ok A;have hce:En (n+1) (wV w h e):=JK o ok.th4;have en:=QE o hn ok A hce;have D:=MM h.t o.GH;have sE:=Na (w:=w) o e;have sl:=EJ w h e;have hlen:=uH w h e (wV w h e);obtain⟨x1,x2,x3,x4,x5,x6,I⟩:=x;obtain⟨w1,w2,z,s,q,d⟩:=w;have t1:=A.th;simp only at t1;subst t1;unfold HS.t at D;simp only[]at D;have fT:e9 (e.th:Int) h.T.length=M:=cZ ok.th;unfold pI zB HS.t ub ze aV ba bk bO cU fM ry um Kj Prod.q12 ci dx lB GZ ck bx l8 bo aY cI cu;simp only[];rw[D,dc];simp only[];rw[cw fT,cw fT,s2,dc];simp only[];rw[cw (by simp only[UC rfl,gR])];refine DE (xX (w1,w2,z,s,q,d) h e).length (by omega) (λi=>((i:Int),(w1,w2,z,s,q,d),((e.th:Int),x2,x3,x4,x5,x6,I),h.X,((xX (w1,w2,z,s,q,d) h e).take i).foldl jl (h.T.getD e.th []),h.T,h.S,h.L,h.R,h.C,h.F,h.N,h.W)) ?_ ?_ ?_
 .simp only[nv,List.take_zero,List.foldl_nil];rfl
 .intro i hi;simp only[];rw[uB (by simp;omega),dE,cw (cZ hi),nv,(wL _ _ (o.T e.th) (λy hy=>sE y (eV hy))).join (sE _ (Ch hi)),dc,pE hi (by omega),IJ _ _ _ hi]
 .simp only[];rw[xh (by simp),dU,eU (cF _)];have hl:=ZO (w:=(w1,w2,z,s,q,d)) o e e.th;rw[V2 _ e.th (wL _ _ (o.T e.th) sE).lb ok.th4 hl.1 hl.2,dc];unfold HS.e at en;unfold wV at en hlen;rw[en,dc];simp only[];rw[cw (by rw[hlen.1,hlen.2.1,hlen.2.2.1,hlen.2.2.2.1,hlen.2.2.2.2.1,hlen.2.2.2.2.2.1,hlen.2.2.2.2.2.2.1,hlen.2.2.2.2.2.2.2];simp only[UC rfl,gR])];rfl
theorem YC {w:WT} {l:Y ET} {cl:Nat->η} (tr:ue (w,l)) (C:CL w l cl) {i:Nat} (hi:i<l.length):pI (w,(Kp w l cl i).t,eN l i)=Z ((pC w (Kp w l cl i) (mN l i) (chC w l cl i)).tS,chC w l cl i,(pC w (Kp w l cl i) (mN l i) (chC w l cl i)).T):=by
 have hl:=tr.len;dsimp only at hl;exact aa4 (Zk tr C hi) (by omega) (TJ tr C hi) (ZD tr hi)
theorem QF (w:Bv) (h:HS) {e:EV} (k:e.k=3) (c:η):pC w h e c={h with T:=h.T.set e.th c}:=by
 unfold pC;simp only[];repeat' split
 all_goals first|rfl|omega
theorem M_ {n:Nat} {f:Nat->η} {i k:Nat} (h:k<i) (g:k<n):aG (T:=.sl (.int .i64)) (tA n f [] i) (k:Int)=f k:=by
 rw[nv];unfold tA;rw[ay,bi,vg g];simp[h]
abbrev mgI (u:Int) (m:Y Γ):J Int:=mA (K:=.int .i64) (V:=.int .i64) u m
theorem Vf {u v:Int} {m:Y Γ} (h:mgI u m=Z v):Nt (K:=.int .i64) (V:=.int .i64) u m=M/\yl (K:=.int .i64) (V:=.int .i64) u m 0=v:=by
 have h:mA (K:=.int .i64) (V:=.int .i64) u m=Z v:=h;unfold Nt yl;rw[h];exact⟨rfl,rfl⟩
theorem ac3 {u:Int} {m:Y Γ} (h:mgI u m=U):Nt (K:=.int .i64) (V:=.int .i64) u m=aa:=by
 have h:mA (K:=.int .i64) (V:=.int .i64) u m=U:=h;unfold Nt;rw[h]
theorem EL {w:WT} {l:Y ET} (tr:ue (w,l)):js (w,l)=Z ((fm l.length).map (Ko w l),(fm l.length).map (xg w l),0):=by
 have hl:=tr.len;dsimp only at hl;have C:=CL_S w l;refine bY ?_;unfold js r_ aV ba bk ci ck bf bx ir bG j7 aY cI aB cu;refine aQ (X9 tr) (gw (aQ (O5 tr) ?_));refine cK (cK (cY (by dsimp only[aj];omega) (cY (by omega) (aZ (by simp;omega) (by omega) ?_))));refine cK (cK (cY (by dsimp only[aj];omega) (cY (by omega) (aZ (by simp;omega) (by omega) ?_))));refine dZ l.length (by omega) (λi x=>x.1=(i:Int)/\x.2.1=(w,l)/\x.2.2.1=tA l.length (Ko w l) [] i/\x.2.2.2.1=tA l.length (xg w l) [] i/\x.2.2.2.2.1=(Kp w l (xg w l) i).t/\∀u:Nat,mgI (u:Int) x.2.2.2.2.2=if 0<=L9 l u i then Z (L9 l u i) else U) ?_ ?_ ?_
 .rintro i ⟨x,y,a,b,h,m⟩ hi ⟨e1,e2,e3,F,D,hm⟩;dsimp only at e1 e2 e3 F D hm;subst e1;subst e2;subst e3;subst F;subst D;have k1:∀{R α:Type} {f:Nat->α} {z:α} {j:Nat} {k:J R} {Q:R->Prop},Ok k Q->Ok (chk (e9 (i:Int) (tA l.length f z j).length) λ_=>k) Q:=λh=>aH (by omega) (by rw[M9];omega) h
  have s1:cj (tA l.length (Ko w l) [] i) (i:Int) (Ko w l i)=tA l.length (Ko w l) [] (i+1):=by rw[eG,M8 hi]
  have kb:=(aft tr C hi).lb;have kc:=(ZP tr C hi).lb;have et:=ZD tr hi;have hz:(eN l i).2.1=((mN l i).k:Int):=et.k;refine iC (dV (aW (aQ (YC tr C hi) ?_)));dsimp only;rw[s1];refine k1 (k1 (k1 (k1 (aW ?_))));rw[M_ (kH i) hi];refine aQ (Da _ kb) (k1 (k1 ?_));refine aX (λx=>x.1=(w,l)/\x.2.1=tA l.length (Ko w l) [] (i+1)/\x.2.2.1=tA l.length (xg w l) [] (i+1)/\(x.2.2.2.2.2,x.2.2.2.1)=((Kp w l (xg w l) (i+1)).T,(Kp w l (xg w l) (i+1)).tS)/\∀u:Nat,mgI (u:Int) x.2.2.2.2.1=if 0<=L9 l u (i+1) then Z (L9 l u (i+1)) else U) ?_ ?_
  .have sK:xg w l i=Ko w l i->cj (tA l.length (xg w l) [] i) (i:Int) (Ko w l i)=tA l.length (xg w l) [] (i+1):=λe=>by rw[<- e,eG,M8 hi]
   have L:xg w l i=Ko w l i->((pC w (Kp w l (xg w l) i) (mN l i) (Ko w l i)).T,(pC w (Kp w l (xg w l) i) (mN l i) (Ko w l i)).tS)=((Kp w l (xg w l) (i+1)).T,(Kp w l (xg w l) (i+1)).tS):=λe=>by rw[Kp,e]
   have hls:¬(mN l i).k=4->∀u,L9 l u (i+1)=L9 l u i:=λk u=>by rw[L9,aL λq=>k q.1]
   refine aE (λd=>?_) λd=>aE (λA=>ai ?_) λA=>ai ?_
   .have d:(eN l i).2.1=3:=d;have d:(mN l i).k=3:=by omega
    have ob:(eN l i).2.2.1=((mN l i).ob:Int):=et.ob (by rw[d];decide);change Ok (aF (Nt (K:=.int .i64) (V:=.int .i64) (eN l i).2.2.1 m) _ _) _;have hmo:=hm (mN l i).ob;by_cases q:0<=L9 l (mN l i).ob i
    .have rd:Yj l i:=⟨d,q⟩
     have hs:=Ni rd;have hsl:Yi l i<l.length:=by omega
     have er:L9 l (mN l i).ob i=(Yi l i:Int):=by unfold Yi;omega
     rw[aT q,er]at hmo;rw[<- ob]at hmo;refine eO (Vf hmo).1 ?_;have D:aG (T:=.sl (.int .i64)) (cj (tA l.length (xg w l) [] i) (i:Int) (Ko w l i)) (Yi l i:Int)=xg w l (Yi l i):=by
      rw[eG,nv,IF,aL λq=>by omega];have:=M_ (f:=xg w l) hs hsl;rw[nv]at this;exact this
     have s:xg w l i=jl (Ko w l i) (xg w l (Yi l i)):=by rw[Nd,aT rd]
     have e7:cj (cj (tA l.length (xg w l) [] i) (i:Int) (Ko w l i)) (i:Int) (jl (Ko w l i) (xg w l (Yi l i)))=tA l.length (xg w l) [] (i+1):=by rw[<- s,eG,eG,List.set_set,M8 hi]
     have I:(cj (tA l.length (xg w l) [] i) (i:Int) (Ko w l i)).length=l.length:=by rw[cL,M9]
     have kd:=(ZP tr C hsl).lb;refine k1 (k1 (aW ?_));rw[(Vf hmo).2];refine aH (by omega) (by rw[I];omega) (aH (by omega) (by rw[I];omega) (aW ?_));rw[D];refine aQ (V_ _ _ kb kd) (aH (by omega) (by rw[I];omega) (aH (by omega) (by rw[I];omega) ?_));rw[e7];refine k1 (k1 (aW ?_));rw[M_ (kH i) hi];have et1:(eN l i).1=((mN l i).th:Int):=et.th;have hth:(mN l i).th<(pC w (Kp w l (xg w l) i) (mN l i) (chC w l (xg w l) i)).T.length:=by rw[(uH ..).1];exact (TJ tr C hi).th
     refine aQ (Da _ kc) (aH (j:=(eN l i).1) (by omega) (by omega) (aH (j:=(eN l i).1) (by omega) (by omega) (ai ⟨rfl,rfl,rfl,?_,λu=>?_⟩)))
     .dsimp only;rw[show (aG (T:=tE) l (i:Int)).1=((mN l i).th:Int) from et1,eG,Kp,QF _ _ d,QF _ _ d];simp only[List.set_set];rfl
     .rw[hls (by omega)];exact hm u
    .rw[aL q,<-ob]at hmo;have nr:¬Yj l i:=λr=>q r.2
     have s:xg w l i=Ko w l i:=by rw[Nd,aL nr]
     refine jr (ac3 hmo) (ai ⟨rfl,rfl,sK s,L s,λu=>?_⟩);rw[hls (by omega)];exact hm u
   .have A:(eN l i).2.1=4:=A;have A:(mN l i).k=4:=by omega
    have s:xg w l i=Ko w l i:=aed (by omega);have ob:(aG (T:=tE) l (i:Int)).2.2.1=((mN l i).ob:Int):=et.ob (by rw[A];decide);refine ⟨rfl,rfl,sK s,L s,λu=>?_⟩;dsimp only;rw[ob];unfold mgI;rw[L6];by_cases q:(mN l i).ob=u
    .have e:L9 l u (i+1)=i:=by rw[L9,aT ⟨A,q⟩]
     rw[e,aT (by omega),aT (by omega)]
    .have e:L9 l u (i+1)=L9 l u i:=by rw[L9,aL λr=>q r.2]
     rw[e,aL (by omega)];exact hm u
   .have A:¬(eN l i).2.1=4:=A;have d:¬(eN l i).2.1=3:=d;have s:xg w l i=Ko w l i:=aed (by omega);exact⟨rfl,rfl,sK s,L s,λu=>by rw[hls (by omega)];exact hm u⟩
  rintro⟨x1,x2,x3,x4,x5,x6⟩ ⟨f1,f2,f3,f4,f5⟩;dsimp only at f1 f2 f3 f4 f5;subst f1;subst f2;subst f3;obtain⟨rfl,rfl⟩:=aC .. ▸f4;exact ai ⟨fx (by omega),rfl,rfl,rfl,rfl,f5⟩
 .rintro⟨x,y,a,b,h,m⟩ ⟨e1,e2,e3,F,D,hm⟩;dsimp only at e1 e2 e3 F D hm;subst e1;subst e2;subst e3;subst F;refine hX (ai ?_);dsimp only;rw[Sw,Sw]
 .refine ⟨rfl,rfl,?_,?_,rfl,λu=>rfl⟩
  .dsimp only;rw[M7];rfl
  .dsimp only;rw[M7];rfl
theorem VS:qk ()=Z M:=by kernel_rfl
theorem EK {w:WT} {l:Y ET} (h:¬ue (w,l)):js (w,l)=Z ([],[],12):=by
 refine bY ?_;unfold js r_ aV ba bk ci ck bf bx ir bG j7 aY cI aB cu;exact aQ (X8 h) (eO rfl (ai rfl))
theorem LZ {w:WT} {e:ET} (h:Ym w e):Ok (jz (w,e)) λ_=>True:=by
 unfold jz aV ba bf bG aB;refine aX (λ_=>True) ?_ λ_ _=>ai trivial
 refine aE (λg=>?_) λ_=>aE (λg=>?_) λ_=>ai trivial
 .have hc:=h.nm.ce (.inl g);exact aH hc.1 hc.2 (aW (ai trivial))
 .have hc:=h.nm.ce (.inr g);exact aH hc.1 hc.2 (aW (ai trivial))
theorem UU (c:η) (a t:Int):Ok (oF (c,a,t)) λ_=>True:=by
 unfold oF iS bx l8 aY aB;refine ar (P:=λ_=>True) ?_ λ_ _=>ai trivial
 refine aX (λb=>b=aa->0<=t/\t<c.length) (aR (λ_=>ai λh=>(by cases h)) λg=>ai λh=>⟨g,?_⟩) ?_
 .rw[ko]at h;exact h
 intro b hb;exact aK (λ_=>ai trivial) λh=>aH (hb h).1 (hb h).2 (ai trivial)
set_option maxRecDepth 10000 in
theorem Pc {w:WT} {l:Y ET} (tr:ue (w,l)):Ok (kB (w,l)) λy=>y.2=0:=by
 have hl:=tr.len;have ht:=tr.wb.t;dsimp only at hl ht;unfold kB tO aV ba bk bO cU fM bn cC ci ck bf bx ir bo bG j7 aY cI aB cu;refine aQ (EL tr) (gw ?_);refine cK (cK (cY (by dsimp only[aj];omega) (cY (by omega) (aZ (by simp;omega) (by omega) ?_))));refine dZ l.length (by omega) (λb x=>(x.1=(b:Int)/\x.2.1=(w,l)/\x.2.2.2.1.length=l.length)/\x.2.2.2.2.length<=b*400) ?_ ?_ ⟨⟨rfl,rfl,by simp⟩,by simp⟩
 .rintro b ⟨x1,x2,cn,ep,r⟩ hb ⟨⟨e1,e2,e3⟩,hr⟩;dsimp only at e1 e2 e3 hr;subst e1;subst e2;have hev:Ym w (eN l b):=tr.ev _ (Bf hb);have t0:=hev.t0;have t1:=hev.t1;have hg:aG (T:=tE) l (b:Int)=eN l b:=rfl;refine iC ?_;refine aX (λx=>(x.1=(w,l)/\x.2.2.1.length=l.length)/\x.2.2.2.length<=(b+1)*400) ?_ ?_
  .refine dV (aW ?_);dsimp only;rw[hg];refine aX (λx=>x.1=(w,l)/\(x.2.2.1.length=l.length/\x.2.2.2.1.length<=b*400)/\(x.2.2.2.2.1=(eN l b).1/\x.2.2.2.2.2=(eN l b).2)) ?_ ?_
   .refine aE (λg=>ai ⟨rfl,⟨e3,hr⟩,g.symm,rfl⟩) λg0=>aE (λg=>ai ⟨rfl,⟨e3,hr⟩,g.symm,rfl⟩) λg1=>aE (λg=>ai ⟨rfl,⟨e3,hr⟩,g.symm,rfl⟩) λg2=>aE (λg=>ai ⟨rfl,⟨e3,hr⟩,g.symm,rfl⟩) λg3=>?_
    have g0:¬(eN l b).1=0:=g0;have g1:¬(eN l b).1=1:=g1;have g2:¬(eN l b).1=2:=g2;have g3:¬(eN l b).1=3:=g3;omega
   rintro⟨y1,y2,y3,y4,y5,y6⟩ ⟨f1,⟨f2,f3⟩,f4,f5⟩;dsimp only at f1 f2 f3 f4 f5;subst f1;subst f4;subst f5;refine aX (λx=>(x.1=(w,l)/\x.2.2.1.length=l.length)/\x.2.2.2.1.length<=b*400/\(x.2.2.2.2.1,x.2.2.2.2.2)=eN l b) ?_ ?_
   .have kk:∀{R:Type} {k:J R} {Q:R->Prop},Ok k Q->Ok (chk (e9 (b:Int) y3.length) λ_=>chk (e9 (b:Int) y3.length) λ_=>k) Q:=λh=>aH (by omega) (by omega) (aH (by omega) (by omega) h)
    have sl:∀z:Γ,(cj y3 (b:Int) z).length=l.length:=λz=>by rw[cL];exact f2
    refine aE (λg=>kk (ai ⟨⟨rfl,sl _⟩,f3,?_⟩)) λg0=>aE (λg=>kk (ai ⟨⟨rfl,sl _⟩,f3,?_⟩)) λg1=>aE (λg=>kk (ai ⟨⟨rfl,sl _⟩,f3,?_⟩)) λg2=>aE (λg=>kk (ai ⟨⟨rfl,sl _⟩,f3,?_⟩)) λg3=>?_
    .have g:(eN l b).1=0:=g;exact Prod.ext g.symm rfl
    .have g:(eN l b).1=1:=g;exact Prod.ext g.symm rfl
    .have g:(eN l b).1=2:=g;exact Prod.ext g.symm rfl
    .have g:(eN l b).1=3:=g;exact Prod.ext g.symm rfl
    .have g0:¬(eN l b).1=0:=g0;have g1:¬(eN l b).1=1:=g1;have g2:¬(eN l b).1=2:=g2;have g3:¬(eN l b).1=3:=g3;omega
   rintro⟨z1,z2,z3,z4,z5,z6⟩ ⟨⟨k1,k2⟩,k3,k4⟩;dsimp only at k1 k2 k3;subst k1;have k4:(z5,z6)=eN l b:=k4;dsimp only;rw[k4];refine ar (LZ hev) λc _=>cX (λ_=>ai ⟨⟨rfl,k2⟩,by dsimp only;omega⟩) λ_=>?_
   refine cK (cY (by omega) (cY (by omega) ?_));have htk:(cM (aP (b:Int)) l).length=b:=by rw[b7,cO];omega
   refine dZ b (by omega) (λj x=>(x.1=(j:Int)/\x.2.1=(w,l)/\x.2.2.2.1.length=l.length)/\x.2.2.2.2.1.length<=b*400+j) ?_ ?_ ⟨⟨rfl,rfl,k2⟩,by dsimp only;omega⟩
   .rintro j ⟨x1,x2,cn,ep,r,x6⟩ hj ⟨⟨e1,e2,e3⟩,hr⟩;dsimp only at e1 e2 e3 hr;subst e1;subst e2;refine aR (λ_=>?_) λg=>(by dsimp only[aj]at g;omega)
    have hgj:aG (T:=tE) (cM (aP (b:Int)) l) (j:Int)=eN l j:=by
     rw[cO];show aG (T:=tE) (cM b l) (j:Int)=aG (T:=tE) l (j:Int);rw[K_,K_,ay,ay,List.getElem?_take_of_lt hj]
    refine aX (λx=>(x.1=(w,l)/\x.2.2.1.length=l.length)/\x.2.2.2.1.length<=b*400+(j+1)) ?_ ?_
    .refine dV (aW ?_) (by omega) (by show (j:Int)<((cM (aP (b:Int)) l).length:Int);omega);have hgj':aG (T:=gG) (cM (aP (b:Int)) l) (j:Int)=eN l j:=hgj;dsimp only;rw[hgj'];refine aX (λx=>x.2=((w,l),cn,ep,r,x6)) ?_ ?_
     .refine ar (LZ (tr.ev _ (Bf (show j<l.length by omega)))) λc _=>aK (λ_=>aE (λ_=>bV (λ_=>aE (λ_=>ai rfl) λ_=>ai rfl) λ_=>ai rfl) λ_=>ai rfl) λ_=>ai rfl
     rintro⟨c,x⟩ e;dsimp only at e;subst e;refine aX (λx=>x.2=((w,l),cn,ep,r,x6)) ?_ ?_
     .refine aK (λ_=>?_) λ_=>ai rfl
      refine aH (by omega) (by rw[ca,lD];omega) (aW (aH (by first|omega|(dsimp only;omega)) (by first|omega|(dsimp only;omega)) (aH (by first|omega|(dsimp only;omega)) (by first|omega|(dsimp only;omega)) (aW (ar (UU _ _ _) λ_ _=>ai rfl)))))
     rintro⟨c2,x⟩ e;dsimp only at e;subst e;refine aK (λ_=>aZ ?_ (by omega) (ai ⟨⟨rfl,e3⟩,?_⟩)) λ_=>ai ⟨⟨rfl,e3⟩,by dsimp only;omega⟩
     .dsimp only;rw[cS];omega
     .dsimp only;rw[b6,cS];omega
    rintro⟨y1,y2,y3,y4,y5⟩ ⟨⟨q1,q2⟩,q3⟩;dsimp only at q1 q2 q3;subst q1;exact ai ⟨⟨fx (by omega),rfl,q2⟩,q3⟩
   .rintro⟨x1,x2,cn,ep,r,x6⟩ ⟨⟨e1,e2,e3⟩,hr⟩;dsimp only at e1 e2 e3 hr;subst e1;subst e2;refine aR (λg=>(by dsimp only[aj]at g;omega)) λ_=>ai ⟨⟨rfl,e3⟩,by dsimp only;omega⟩
  .rintro⟨y1,y2,y3,y4⟩ ⟨⟨f1,f2⟩,f4⟩;dsimp only at f1 f2 f4;subst f1;exact ai ⟨⟨fx (by omega),rfl,f2⟩,f4⟩
 .rintro⟨x1,x2,cn,ep,r⟩ ⟨⟨e1,e2,e3⟩,hr⟩;dsimp only at e1 e2 e3 hr;subst e1;subst e2;exact hX (ai rfl)
theorem SE {w:WT} {l:Y ET} (h:¬ue (w,l)):kB (w,l)=Z ([],12):=by
 refine bY ?_;unfold kB tO aV ba bk bO cU fM bn cC ci ck bf bx ir bo bG j7 aY cI aB cu;exact aQ (EK h) (eO rfl (ai rfl))
theorem LW (w:WT) (l:Y ET):kZ (w,l)=Z M:=by
 refine bY ?_;unfold kZ bf aY aB;refine ar (aax w l) λy d=>?_
 by_cases h:ue (w,l)
 .refine aQ (EL h) (ar (Pc h) λz q=>aE (λ_=>fO (rU (aE (λ_=>aE (λ_=>ai (ai (be ?_))) λg=>(g ?_).elim) λg=>(g q).elim))) λg=>(g (d.2 h)).elim)
  .dsimp only;rw[ca,ca]
  .dsimp only;rw[ca,lD]
 .exact aQ (EK h) (aQ (SE h) (aE (λg=>(h (d.1 g)).elim) λ_=>fO (rU (rU (ai (ai rfl))))))
theorem Et (t:WT×Y ET) (a b c:η) (at_ fi n:Int) (A:a.length<=9223372036854775807) (s:∀z∈a,0<=z/\z<=255) (hc:c.length<=9223372036854775807) (d:∀z∈c,0<=z/\z<=255) (h0:0<=at_/\at_<=255):Ok (km (t,(a,b,c),at_,fi,n)) λy=>y=M:=by
 obtain⟨w,l⟩:=t;unfold km aV ba bk bn ci bx aY aB;refine aX (λx=>x.2=((w,l),(a,b,c),at_,fi,n)) (aR (λ_=>ai rfl) λ_=>aR (λ_=>ai rfl) λ_=>ai rfl) ?_;rintro⟨q,x⟩ e;dsimp only at e;subst e;refine aK (λ_=>aQ VS (ai rfl)) λ_=>?_
 refine fO (aQ (LW w l) (rU (ar (aay a b c at_ fi n A s hc d h0 30 (by omega) (by omega)) ?_)));rintro⟨w1,l1⟩ _;exact aQ (LW w1 l1) (rU (aQ VS (ai (ai rfl))))
theorem ShbRefuses_law (x:(WT×Y ET)×(η×η×η)×Int×Int×Int) (w:UX (.pr (.st (.pr mO (.sl gG))) (.pr (.st (.pr (.sl (.int .u8)) (.pr (.sl (.int .u8)) (.sl (.int .u8))))) (.st (.pr (.int .u8) (.pr (.int .u8) (.int .i8)))))) x):km x=Z M:=by
 obtain⟨t,⟨a,b,c⟩,at_,fi,n⟩:=x;obtain⟨_,⟨⟨l0,w0⟩,_,⟨l2,w2⟩⟩,q1,_⟩:=w;obtain⟨y,h,rfl⟩:=Et t a b c at_ fi n l0 (λz d=>Oz (w0 z d)) l2 (λz d=>Oz (w2 z d)) (Oz q1);exact h
def inert (f:FuncId):Bool:=aw f 62
theorem PK:∃d,Tryz.prog.underlying 20=Z (.interface d):=⟨#[],by kernel_rfl⟩
theorem Zf (w:World):(Op.equal 20 .nilIface .nilIface).run Tryz.prog w= .ok M w:=by
 obtain⟨q,hu⟩:=PK;have key:∀d,(Op.equalIn (d+1) 20 .nilIface .nilIface).run Tryz.prog w= .ok M w:=λd=>by simp[Op.equalIn,run_underlying hu]
 exact key 9999
theorem YS {P:Program} {ops:Array Oper} {Q:Exit->Act->Y Frame->World->Prop} {i:Nat} {rest:ι} {a:Act} {cs:Y Frame} {w w':World} {o:Oper} (q:ops[i]? =Z o) (d:o.guard=U) (hr:(execOp a.eval o).run P w= .ok .recover w') (hn:recoverD cs=U) (h:wpOpsS P ops Q rest (a.put o.dst .nilIface) cs w'):wpOpsS P ops Q (i::rest) a cs w:=by
 have d:iJ o (yielded ops a.tmps)=M:=by unfold iJ;rw[d]
 simp only[wpOpsS,q,d,bE,hr,hn];exact h
theorem YR {P:Program} {ops:Array Oper} {Q:Exit->Act->Y Frame->World->Prop} {i:Nat} {rest:ι} {a:Act} {cs:Y Frame} {w w':World} {o:Oper} {v:Value} (q:ops[i]? =Z o) (d:o.guard=U) (hr:(execOp a.eval o).run P w= .ok (.value v) w') (h:wpOpsS P ops Q rest (a.put o.dst v) cs w'):wpOpsS P ops Q (i::rest) a cs w:=by
 have d:iJ o (yielded ops a.tmps)=M:=by unfold iJ;rw[d]
 simp only[wpOpsS,q,d,bE,hr];exact h
theorem PI:Kd Tryz.prog inert:=by
 intro f hf;have hf:f=62:=au hf;subst hf;refine ⟨⟨Tryz.f62,Tryz.func62,by kernel_rfl,by kernel_rfl⟩,λargs w=>?_⟩;refine callsD_of_wpS Tryz.func62 rfl λc₀ cs hu=>?_
 refine wpS_seq (wpS_region ?_);generalize ht:(args++om (Tryz.f62.ntmps-args.size) undef)=T;have hs:5<=T.size:=by
  rw[<- ht];simp only[Array.size_append,Array.size_replicate];have:Tryz.f62.ntmps=5:=rfl;omega
 have hr:recoverD (c₀::cs)=U:=by simp[recoverD,hu]
 refine YS (i:=0) (rest:=[1]) rfl rfl (w':=w) ?_ hr ?_
 .simp[execOp,resolve,invoke,builtin]
 refine YR (v:=.bool aa) rfl rfl (w':=w) ?_ ?_
 .have hv:Act.eval (M2 {tmps:=T,defers:=[]} (Z 2) .nilIface) (.tmp 2)= .nilIface:=by
   simp[Act.eval,M2,show 2<T.size by omega]
  have h2:=Zf w;have hcst:Act.eval (M2 {tmps:=T,defers:=[]} (Z 2) .nilIface) (.const .nilIface)= .nilIface:=rfl;show (execOp (Act.eval (M2 {tmps:=T,defers:=[]} (Z 2) .nilIface)) _).run _ w=_;simp[execOp,hv,hcst,eqGuard,binOp,h2]
 show Exit.thenS _ _ .normal _ _ _;refine wpS_cond (t:=aa) ?_ ?_
 .simp[Act.eval,M2,show 3<T.size by omega]
 refine wpS_of_wp (wp_skip ?_);have hres:Tryz.f62.results=#[]:=rfl;exact⟨rfl,c₀.mode,rfl,.tuple #[],by simp[results,hres],⟨_,rfl⟩,hu,rfl⟩
def dL {α:Type}:Y (Nat×α)->PT α
 |[]=>.leaf
 |p::r=>(dL r).set p.1 (Z p.2)
noncomputable abbrev Pg:Program:=Tryz.prog
def cn (D:FT) (m:D.pre.ty.den->J D.post.ty.den):cr:=⟨D.pre,D.post,m⟩
theorem aip:Pg.follows .mixedOrders=M:=by kernel_rfl
theorem ac {f:FuncId} {c:cr} {l:Y (FuncId×cr)} (h:aI Pg f c) (t:Sh Pg l):Sh Pg ((f,c)::l):=⟨h,t⟩
theorem an:Sh Pg []:=trivial
inductive OI {R:Type}:Option R->Option R->Prop where
 |rfl {a:Option R}:OI a a
 |chk {b:Bool} {k k':Option R} (h:lm k k'):OI (chk b λ_=>k) (chk b λ_=>k')
 |aF {b:Bool} {t f t' f':Option R} (h1:lm t t') (h2:lm f f'):OI (aF b t f) (aF b t' f')
 |lt {α:Type} {x:α} {k k':α->Option R} (h:∀y,lm (k y) (k' y)):OI (lt x k) (lt x k')
 |jn {α:Type} {o o':Option (R⊕α)} {k k':α->Option R} (h:lm o o') (hk:∀x,lm (k x) (k' x)):OI (jn o k) (jn o' k')
 |av {α:Type} {o o':Option α} {k k':α->Option R} (h:lm o o') (hk:∀x,lm (k x) (k' x)):OI (av o k) (av o' k')
 |iter {σ:Type} {f g:σ->Option (σ⊕R)} {x:σ} (h:∀x,lm (f x) (g x)):OI (fR f x) (iter g x)
theorem OI.o {R:Type} {a b:J R} (h:OI a b):lm a b:=by
 cases h with
 |rfl=>exact lm.rfl
 |chk h=>exact lm.chk h
 |aF h g=>exact lm.bcase h g
 |lt h=>exact lm.lt h
 |jn h g=>exact lm.jn h g
 |av h g=>exact lm.obind h g
 |iter h=>exact lm.iter h
theorem mk {f:FuncId} (D:FT) (m:D.pre.ty.den->J D.post.ty.den) {l:Y (FuncId×cr)} (q:Sh Pg l) (d:TypeId->J Ty) (he:∀x,YA (Un l) d inert (yU Pg f) D x=m x:=by intro x;kernel_rfl) (hs:(yU Pg f).isSome=M:=by kernel_rfl) (hb:dN D.pre.bs.length D.post.bs.length=M:=by kernel_rfl):aI Pg f (cn D m):=(Qj aip PI q hs he).toC hb
theorem xS {f:FuncId} (D:FT) (m n:D.pre.ty.den->J D.post.ty.den) (q:∀x,lm (m x) (n x)) {l:Y (FuncId×cr)} (s:Sh Pg l) (d:TypeId->J Ty) (he:∀x,YA (Un l) d inert (yU Pg f) D x=n x:=by intro x;kernel_rfl) (hs:(yU Pg f).isSome=M:=by kernel_rfl) (hb:dN D.pre.bs.length D.post.bs.length=M:=by kernel_rfl):aI Pg f (cn D m):=((Qj aip PI s hs he).sub q).toC hb
theorem L5 {f:FuncId} (D:FT) (hs:(yU Pg f).isSome=M:=by kernel_rfl) (hb:dN D.pre.bs.length D.post.bs.length=M:=by kernel_rfl):aI Pg f (cn D λ_=>U):=(Tx hs).toC hb
abbrev uk:Y PV:=[.d aM,.d aM,.d aM,.d aM,.d aM,.nil,.nil]
abbrev uZ:Y PV:=[.nil,.d aM,.nil,.nil,.nil,.nil,.nil]
abbrev af2:Y PV:=[.ptr 1 0,.d aM,.d aM,.d .bool,.d .bool,.d .bool,.d .bool,.row 4]
abbrev af6:Y PV:=[.d aM,.d aM,.d .str,.d .str,.nil,.d aM,.d aM,.d .str,.nil,.nil,.nil]
abbrev La2:Y PB:=[.cells 222 af2,.cells 140 [.d xQ],.gone,.cells 228 af6,.rowsP 9 .str]
abbrev MU:Y PV:=[.ptr 0 0,.ptr 1 0,.ptr 2 0,.ptr 3 0,.ptr 4 0,.ptr 5 0,.ptr 6 0,.ptr 7 0,.d .bool]
abbrev La4:Y PB:=[.cells 214 [.d (.sl kG),.d (.sl qK),.d (.sl lZ),.d (.sl .str),.d (.sl .str),.d (.sl og),.d (.sl .str),.row 2,.d aM,.d aM],.gone,.rows 218 M qH]
abbrev La5:Y PB:=[.cells 214 [.d (.sl kG),.d (.sl qK),.d (.sl lZ),.d (.sl .str),.d (.sl .str),.d (.sl og),.d (.sl .str),.row 1,.d aM,.d aM],.rows 218 M qH]
abbrev La6:Y PV:=[.d aM,.row 11,.row 12,.d aM]
abbrev La7:Y PB:=[.cells 183 [.nil,.nil],.cells 222 [.ptr 5 0,.d aM,.d aM,.d .bool,.d .bool,.d .bool,.d .bool,.row 6],.cells 183 [.d (.sl FP),.row 7],.rows 9 aa .str,.cells 212 [.d .str,.d aM,.row 8,.row 9],.cells 140 [.d xQ],.rowsP 9 .str,.rows 212 M sB,.rows 9 aa .str,.rows 228 M .sm]
abbrev La8:Y PB:=[.cells 252 [.d (.sl FP),.d (.sl sB),.d aM,.row 1,.row 6,.row 7],.rowsP 228 .sm,.gone,.gone,.cells 228 [.d .sm],.cells 183 [.d MV],.rows 9 M .str,.rows 9 M .str]
abbrev La9:Y PV:=[.d (.sl dt),.d aM,.d mg,.d (.sl gF),.row 8,.row 9,.csl 10 4 4]
abbrev adu:Y PB:=[.cells 145 [.d (.sl dt),.d aM,.d mg,.d (.sl gF),.row 6,.row 7,.csl 8 4 4],.cells 186 [.d im],.cells 145 uZ,.cells 60 uk,.cells 60 [.d gG],.cells 205 [.d eI],.rows 2 M aM,.rows 2 M aM,.cells 205 [.d eI,.d eI,.d eI,.d eI]]
abbrev af3:Y PV:=[.ptr 1 0,.d aM,.d aM,.d .bool,.d .bool,.d .bool,.d .bool,.row 2]
abbrev OK:Y PV:=[.d C',.d aM]
abbrev UQ:Y PB:=[.cells 222 af3,.cells 140 OK,.rowsP 9 .str]
abbrev LH:Y PV:=[.ptr 0 0,.ptr 1 0,.ptr 2 0,.ptr 3 0,.ptr 4 0,.ptr 5 0,.ptr 6 0,.ptr 7 0,.d aM]
abbrev agu:Y PV:=[.d (.sl dt),.d aM,.d mg,.d (.sl gF),.row 8,.row 9,.csl 10 4 3]
abbrev ahe:Y PB:=[.cells 150 [.d ua],.cells 145 agu,.cells 186 [.d im],.cells 145 uZ,.cells 60 uk,.cells 60 [.d gG],.cells 205 La6,.cells 218 [.d qH],.rows 2 M aM,.rows 2 M aM,.cells 205 [.d aM,.row 11,.row 12,.d aM,.d eI,.d eI],.rows 2 M aM,.rows 58 M (.sl aM)]
abbrev ahd:Y PB:=[.cells 150 [.d ua],.cells 145 agu,.cells 186 [.d im],.cells 145 uZ,.cells 60 uk,.cells 60 [.d gG],.cells 205 La6,.cells 218 [.d qH],.rows 2 M aM,.rows 2 M aM,.cells 205 [.d eI,.d aM,.row 11,.row 12,.d aM,.d eI],.rows 2 M aM,.rows 58 M (.sl aM)]
abbrev ahc:Y PB:=[.cells 150 [.d ua],.cells 145 agu,.cells 186 [.d im],.cells 145 uZ,.cells 60 uk,.cells 60 [.d gG],.cells 205 La6,.cells 218 [.d qH],.rows 2 M aM,.rows 2 M aM,.cells 205 [.d eI,.d eI,.d aM,.row 11,.row 12,.d aM],.rows 2 M aM,.rows 58 M (.sl aM)]
abbrev af5:Y PV:=[.d (.sl dt),.d aM,.d mg,.d (.sl gF),.row 8,.row 9,.csl 10 4 2]
abbrev ahb:Y PB:=[.cells 150 [.d ua],.cells 145 af5,.cells 186 [.d im],.cells 145 uZ,.cells 60 uk,.cells 60 [.d gG],.cells 205 La6,.cells 218 [.d qH],.rows 2 M aM,.rows 2 M aM,.cells 205 [.d aM,.row 11,.row 12,.d aM,.d eI],.rows 2 M aM,.rows 58 M (.sl aM)]
abbrev aha:Y PB:=[.cells 150 [.d ua],.cells 145 af5,.cells 186 [.d im],.cells 145 uZ,.cells 60 uk,.cells 60 [.d gG],.cells 205 La6,.cells 218 [.d qH],.rows 2 M aM,.rows 2 M aM,.cells 205 [.d eI,.d aM,.row 11,.row 12,.d aM],.rows 2 M aM,.rows 58 M (.sl aM)]
abbrev XU:Y PB:=[.cells 252 [.d (.sl FP),.d (.sl sB),.d aM,.row 1,.row 4,.row 5],.rowsP 228 .sm,.gone,.gone,.rows 9 M .str,.rows 9 M .str]
abbrev LG:Y PV:=[.ptr 0 0,.ptr 1 0,.ptr 2 0,.ptr 3 0,.ptr 4 0,.ptr 5 0,.ptr 6 0,.d .bool]
abbrev gX:Y PV:=[.ptr 0 0,.d .bool]
abbrev XT:Y PB:=[.cells 252 [.d (.sl FP),.d (.sl sB),.d aM,.row 1,.row 2,.row 3],.rowsP 228 .sm,.rows 9 M .str,.rows 9 M .str]
abbrev ah9:Y PB:=[.cells 150 [.d ua],.cells 145 [.d (.sl dt),.d aM,.d mg,.d (.sl gF),.row 8,.row 9,.csl 10 4 1],.cells 186 [.d im],.cells 145 uZ,.cells 60 uk,.cells 60 [.d gG],.cells 205 La6,.cells 218 [.d qH],.rows 2 M aM,.rows 2 M aM,.cells 205 La6,.rows 2 M aM,.rows 58 M (.sl aM)]
abbrev LF:Y PV:=[.ptr 0 0,.ptr 1 0,.ptr 2 0,.ptr 3 0,.ptr 4 0,.ptr 5 0,.ptr 6 0]
abbrev ah8:Y PB:=[.cells 150 [.d ua],.cells 145 La9,.cells 186 [.d im],.cells 145 uZ,.cells 60 uk,.cells 60 [.d gG],.cells 205 La6,.cells 218 [.d qH],.rows 2 M aM,.rows 2 M aM,.cells 205 [.d aM,.row 11,.row 12,.d aM,.d eI,.d eI,.d eI],.rows 2 M aM,.rows 58 M (.sl aM)]
abbrev ah7:Y PB:=[.cells 150 [.d ua],.cells 145 La9,.cells 186 [.d im],.cells 145 uZ,.cells 60 uk,.cells 60 [.d gG],.cells 205 La6,.cells 218 [.d qH],.rows 2 M aM,.rows 2 M aM,.cells 205 [.d eI,.d aM,.row 11,.row 12,.d aM,.d eI,.d eI],.rows 2 M aM,.rows 58 M (.sl aM)]
abbrev ah6:Y PB:=[.cells 150 [.d ua],.cells 145 La9,.cells 186 [.d im],.cells 145 uZ,.cells 60 uk,.cells 60 [.d gG],.cells 205 La6,.cells 218 [.d qH],.rows 2 M aM,.rows 2 M aM,.cells 205 [.d eI,.d eI,.d aM,.row 11,.row 12,.d aM,.d eI],.rows 2 M aM,.rows 58 M (.sl aM)]
abbrev ah5:Y PB:=[.cells 150 [.d ua],.cells 145 La9,.cells 186 [.d im],.cells 145 uZ,.cells 60 uk,.cells 60 [.d gG],.cells 205 La6,.cells 218 [.d qH],.rows 2 M aM,.rows 2 M aM,.cells 205 [.d eI,.d eI,.d eI,.d aM,.row 11,.row 12,.d aM],.rows 2 M aM,.rows 58 M (.sl aM)]
abbrev Kc:Y PB:=[.cells 28 [.d mO],.cells 87 [.d iM],.cells 60 [.d gG],.cells 87 uZ]
abbrev LD:Y PV:=[.ptr 0 0,.ptr 1 0,.ptr 2 0,.ptr 3 0,.ptr 4 0,.ptr 5 0]
abbrev ah4:Y PB:=[.cells 145 [.d (.sl dt),.d aM,.d mg,.d (.sl gF),.row 6,.row 7,.csl 8 4 3],.cells 186 [.d im],.cells 145 uZ,.cells 60 uk,.cells 60 [.d gG],.cells 205 [.d eI],.rows 2 M aM,.rows 2 M aM,.cells 205 [.d eI,.d eI,.d eI]]
abbrev RY:Y PV:=[.d (.sl dt),.d aM,.d mg,.d (.sl gF),.row 7,.row 8,.csl 9 4 4]
abbrev ru:Y PV:=[.ptr 0 0,.ptr 1 0,.d .bool]
abbrev t_:Y PV:=[.ptr 0 0,.ptr 1 0,.ptr 2 0,.ptr 3 0,.d .bool]
abbrev adm:Y PV:=[.nil,.nil,.nil,.nil,.nil,.nil]
abbrev ah3:Y PB:=[.cells 183 [.d MV],.cells 28 adm,.cells 28 [.row 4,.row 5,.row 6,.row 7,.nil,.nil],.cells 255 [.d FP],.rows 100 M kG,.rows 102 M qK,.rows 104 M lZ,.rows 9 M .str]
abbrev XR:Y PV:=[.nil,.nil,.nil,.nil,.nil,.nil,.nil]
abbrev aju:Y PV:=[.d (.sl kG),.d (.sl qK),.d (.sl lZ),.d (.sl .str),.d (.sl .str),.d (.sl og),.row 5]
abbrev ak6:Y PB:=[.cells 183 [.d MV],.cells 150 XR,.cells 150 aju,.cells 214 [.d (.sl kG),.d (.sl qK),.d (.sl lZ),.d (.sl .str),.d (.sl .str),.d (.sl og),.d (.sl .str),.row 6,.d aM,.d aM],.cells 201 [.d aM,.row 6],.rows 201 M v7,.rows 218 M qH]
abbrev GR:Y PV:=[.row 0,.d aM,.row 1,.row 2]
abbrev ah2:Y PB:=[.cells 140 [.d xQ],.cells 87 [.d iM],.cells 28 [.d mO],.rows 60 M gG,.cells 58 [.row 5,.row 6,.row 7,.row 8],.rows 3 M aM,.rows 3 M aM,.rows 3 M aM,.rows 3 M aM]
abbrev Eu:Y PV:=[.ptr 0 0,.ptr 1 0,.ptr 2 0,.d aM]
abbrev Kb:Y PV:=[.d aM,.d (.sl aM),.d kM,.d aM]
abbrev XS:Y PV:=[.d (.sl dt),.d aM,.d mg,.d (.sl gF),.row 7,.row 8,.csl 9 4 3]
abbrev ah1:Y PB:=[.cells 140 [.d xQ],.cells 87 [.d iM],.cells 28 [.d mO],.cells 58 [.row 4,.row 5,.row 6,.row 7],.rows 3 M aM,.rows 3 M aM,.rows 3 M aM,.rows 3 M aM]
abbrev C9:Y PV:=[.ptr 0 0,.ptr 1 0,.ptr 2 0,.d .bool]
abbrev s5:Y PV:=[.ptr 0 0,.ptr 1 0,.d aM]
abbrev Ka:Y PV:=[.d aM,.row 10,.row 11,.d aM]
abbrev adl:Y PV:=[.d aM,.row 0,.row 1,.d aM]
abbrev V9:Y PV:=[.d aM,.nil,.nil,.d aM]
abbrev ah0:Y PB:=[.rows 2 M aM,.rows 58 M (.sl aM),.cells 218 [.d qH],.cells 205 adl,.cells 205 V9]
abbrev agz:Y PB:=[.cells 252 [.d (.sl FP),.d (.sl sB),.d aM,.row 4,.row 5,.row 6],.gone,.gone,.gone,.rowsP 228 .sm,.rows 9 M .str,.rows 9 M .str]
abbrev t8:Y PV:=[.nil,.d aM,.nil,.nil]
abbrev agy:Y PB:=[.cells 84 [.row 2,.d aM,.row 3,.row 4],.cells 84 t8,.rows 157 M dt,.rows 4 M .bool,.rows 159 M gF]
abbrev J_:Y PV:=[.ptr 0 0,.ptr 3 0,.d .bool]
abbrev ak5:Y PB:=[.cells 145 [.d (.sl dt),.d aM,.d mg,.d (.sl gF),.row 6,.row 7,.csl 8 4 2],.cells 186 [.d im],.cells 145 uZ,.cells 60 uk,.cells 60 [.d gG],.cells 205 [.d eI],.rows 2 M aM,.rows 2 M aM,.cells 205 [.d eI,.d eI]]
abbrev ak4:Y PB:=[.cells 31 XR,.cells 140 [.d xQ],.cells 31 aju,.cells 87 [.d iM],.rows 60 aa gG,.rows 60 M gG]
abbrev pS:Y PB:=[.cells 28 [.d mO]]
abbrev ak3:Y PB:=[.cells 140 [.d xQ],.cells 87 [.d iM],.cells 28 [.d mO],.rows 60 M gG,.cells 58 [.row 7,.row 8,.row 9,.row 10],.cells 60 [.d gG],.cells 87 [.d iM],.rows 3 M aM,.rows 3 M aM,.rows 3 M aM,.rows 3 M aM]
abbrev adt:Y PB:=[.cells 28 adm,.cells 28 [.row 2,.row 3,.row 4,.row 5,.row 6,.row 7],.rows 100 aa kG,.rows 102 aa qK,.rows 104 aa lZ,.rows 9 aa .str,.rows 9 aa .str,.rows 106 M og]
abbrev vZ:Y PV:=[.ptr 0 0,.d aM]
abbrev aae:Y PV:=[.row 2,.row 3,.row 4,.row 5]
abbrev ak2:Y PB:=[.cells 140 [.d xQ],.cells 58 aae,.rows 3 M aM,.rows 3 M aM,.rows 3 M aM,.rows 3 M aM,.cells 60 uk,.cells 60 [.d aM,.d aM,.d aM,.d aM,.d aM,.d (.sl aM),.nil]]
abbrev ads:Y PV:=[.d (.sl dt),.d aM,.d mg,.d (.sl gF),.row 7,.row 8,.csl 9 4 2]
abbrev LC:Y PV:=[.d u0,.d gG,.d .bool]
abbrev ak1:Y PB:=[.cells 140 [.d xQ],.cells 58 aae,.rows 3 M aM,.rows 3 M aM,.rows 3 M aM,.rows 3 M aM,.cells 87 [.d iM],.cells 28 [.d mO],.cells 60 uk,.cells 60 uk]
abbrev ak0:Y PB:=[.cells 183 [.d MV],.cells 28 adm,.cells 28 [.row 3,.row 4,.row 5,.row 6,.nil,.nil],.rows 100 M kG,.rows 102 M qK,.rows 104 M lZ,.rows 9 M .str]
abbrev agx:Y PV:=[.d (.sl dt),.d aM,.d mg,.d (.sl gF),.row 3,.row 4,.row 5]
abbrev LB:Y PV:=[.d ua,.d u0,.d im]
abbrev agw:Y PB:=[.rows 157 M dt,.rows 4 M .bool,.rows 159 M gF,.cells 84 GR,.rows 3 M aM]
abbrev aah:Y PV:=[.row 3,.d aM,.row 4,.row 5]
abbrev ajz:Y PB:=[.cells 28 [.d mO],.cells 84 aah,.cells 84 t8,.rows 157 M dt,.rows 4 M .bool,.rows 159 M gF]
abbrev uY:Y PV:=[.d aM,.d aM]
abbrev agv:Y PB:=[.rows 60 M gG,.cells 150 [.d ua],.cells 145 [.d u0],.cells 145 uZ]
abbrev ajy:Y PB:=[.cells 201 [.d v7],.cells 205 [.d aM,.row 3,.row 4,.d aM],.cells 205 V9,.rows 2 M aM,.rows 58 M (.sl aM)]
abbrev ajx:Y PB:=[.cells 222 af2,.cells 140 [.d xQ],.gone,.rows 228 M .sm,.rowsP 9 .str]
abbrev agt:Y PV:=[.ptr 1 0,.d aM,.d aM,.d .bool,.d .bool,.d .bool,.d .bool,.row 3]
abbrev ajw:Y PB:=[.cells 60 uk,.cells 205 [.d eI],.cells 218 [.d qH],.cells 60 [.d aM,.d aM,.d aM,.d aM,.d aM,.row 4,.nil],.rows 3 M aM]
abbrev OJ:Y PB:=[.cells 228 [.d .sm]]
abbrev adr:Y PV:=[.agg [.agg GR,.row 3,.row 4,.csl 5 4 4]]
abbrev RX:Y PB:=[.cells 183 [.d MV]]
abbrev ags:Y PB:=[.cells 28 [.d mO],.cells 201 [.d v7],.cells 218 [.d qH]]
abbrev adq:Y PB:=[.cells 183 [.d MV],.cells 212 [.d sB]]
abbrev adp:Y PB:=[.cells 183 [.d MV],.cells 226 [.d .ex]]
abbrev agr:Y PB:=[.cells 28 [.d mO],.rows 9 M .str,.cells 100 [.d kG]]
abbrev agq:Y PB:=[.rows 157 M dt,.rows 4 M .bool,.rows 159 M gF]
abbrev ado:Y PB:=[.cells 28 [.d mO],.cells 218 [.d qH]]
abbrev adn:Y PV:=[.ptr 0 0,.ptr 4 0,.ptr 5 0,.d .bool]
abbrev agp:Y PV:=[.ptr 0 0,.ptr 1 0,.ptr 2 0,.ptr 3 0,.ptr 4 0,.d aM]
abbrev UP:Y PB:=[.cells 28 [.d mO],.cells 84 [.d C_]]
abbrev ago:Y PB:=[.cells 140 [.d xQ],.rows 3 M aM,.rows 3 M aM]
abbrev XQ:Y PB:=[.cells 28 [.d mO],.rows 9 M .str]
abbrev agn:Y PB:=[.cells 60 [.d gG],.cells 87 uZ,.cells 87 agx,.rows 2 M aM,.rows 2 M aM,.rows 3 M aM]
abbrev ajv:Y PB:=[.cells 140 OK,.cells 58 aae,.rows 3 M aM,.rows 3 M aM,.rows 3 M aM,.rows 3 M aM]
abbrev RW:Y PB:=[.cells 140 OK]
abbrev LA:Y PV:=[.d (.sl aM),.d aM]
abbrev XP:Y PB:=[.cells 140 [.d xQ]]
abbrev UO:Y PV:=[.ptr 0 0,.row 1,.d aM]
abbrev XO:Y PB:=[.cells 255 [.d FP]]
abbrev agm:Y PV:=[.agg [.agg GR,.row 3,.row 4,.csl 5 4 3]]
abbrev aam:Y PB:=[.rows 2 M aM,.rows 58 M (.sl aM)]
abbrev aal:Y PB:=[.cells 150 [.d ua],.cells 145 [.d u0]]
abbrev aak:Y PB:=[.cells 28 [.d mO],.cells 201 [.d v7]]
abbrev qC:Y PV:=[.d (.sl aM)]
abbrev aaj:Y PV:=[.ptr 0 0,.ptr 1 0,.ptr 2 0,.ptr 3 0]
abbrev af4:Y PV:=[.d (.sl dt),.d aM,.d mg,.d (.sl gF),.row 7,.row 8,.csl 9 4 1]
abbrev aai:Y PB:=[.cells 84 [.d C_],.rows 3 M aM]
abbrev RZ:Y PV:=[.ptr 0 0,.d aM,.d aM]
def tyT:PT Ty:=dL [(2,aM),(3,aM),(4,.bool),(9,.str),(50,im),(58,(.sl aM)),(60,gG),(65,im),(67,(.st (.pr im (.pr im (.sl aM))))),(81,mg),(100,kG),(102,qK),(104,lZ),(106,og),(157,dt),(159,gF),(186,im),(201,v7),(205,eI),(212,sB),(218,qH),(226,.ex),(228,.sm),(255,FP)]
def b9 (t:TypeId):J Ty:=tyT.get t
def Am:FT:=⟨⟨[],[]⟩,⟨[.d (.sl .str)],[]⟩,.leaf⟩
def Ln:cr:=cn Am oA
def yL:FT:=⟨⟨[.d .str],[]⟩,⟨[.d .bool],[]⟩,dL [(8,(.j ⟨[0,3],[4],⟨[.d aM],[]⟩,[]⟩))]⟩
def JE:cr:=cn yL jH
def FE:FT:=⟨⟨[.d (.int .u8)],[]⟩,⟨[.d .bool],[]⟩,dL [(2,(.j ⟨[],[2],⟨[.d .bool],[]⟩,[]⟩))]⟩
def Rs:cr:=cn FE lA
def Jm:FT:=⟨⟨[.d (.int .u8)],[]⟩,⟨[.d .bool],[]⟩,dL [(2,(.j ⟨[],[2],⟨[.d .bool],[]⟩,[]⟩))]⟩
def Ul:cr:=cn Jm tI
def Jl:FT:=⟨⟨[.d (.int .u8)],[]⟩,⟨[.d .bool],[]⟩,dL [(2,(.j ⟨[],[2],⟨[.d .bool],[]⟩,[]⟩))]⟩
def Uk:cr:=cn Jl pu
def FF:FT:=⟨⟨[.d .str],[]⟩,⟨[.d .bool],[]⟩,dL [(3,(.j ⟨[0],[21],⟨[.d .bool],[]⟩,[]⟩)),(14,(.j ⟨[0],[3],⟨[.d aM],[]⟩,[]⟩))]⟩
def Rt:cr:=cn FF fh
def Jg:FT:=⟨⟨[.d .bool],[]⟩,⟨[.d aM],[]⟩,.leaf⟩
def Uc:cr:=cn Jg fG
def Jh:FT:=⟨⟨uY,[]⟩,⟨[.d aM,.d .bool],[]⟩,.leaf⟩
def Ud:cr:=cn Jh tG
def FA:FT:=⟨⟨[.d aM,.d aM,.d aM],[]⟩,⟨[.d aM,.d .bool],[]⟩,dL [(91,(.j ⟨[],[6,7],⟨[.d aM,.d .bool],[]⟩,[]⟩)),(97,(.j ⟨[],[6,7],⟨[.d aM,.d .bool],[]⟩,[]⟩))]⟩
def Ro:cr:=cn FA rX
def Ji:FT:=⟨⟨uY,[]⟩,⟨[.d aM],[]⟩,dL [(12,(.j ⟨[],[5],⟨[.d aM],[]⟩,[]⟩))]⟩
def Ue:cr:=cn Ji qV
def Al:FT:=⟨⟨[.d aM],[]⟩,⟨[.d aM],[]⟩,dL [(4,(.j ⟨[0],[3],⟨[.d .bool],[]⟩,[]⟩)),(10,(.j ⟨[0],[10],⟨[.d .bool],[]⟩,[]⟩)),(16,(.j ⟨[],[17],⟨[.d .bool],[]⟩,[]⟩))]⟩
def Lm:cr:=cn Al oz
def o_:FT:=⟨⟨[.d .ex],[]⟩,⟨[.d .bool],[]⟩,dL [(2,(.j ⟨[],[1,3],⟨gX,[.cells 226 [.d .ex]]⟩,[]⟩)),(5,(.j ⟨[],[1,50],⟨gX,[.cells 226 [.d .ex]]⟩,[]⟩)),(16,(.j ⟨[],[1,4],⟨vZ,[.cells 226 [.d .ex]]⟩,[]⟩))]⟩
def Gt:cr:=cn o_ j8
def F2 (n:Nat):cr:=cn o_ (je n)
def Jk:FT:=⟨⟨[.d .ex],[]⟩,⟨[.d .bool],[]⟩,dL [(2,(.j ⟨[],[2],⟨[.d .bool],[]⟩,[]⟩))]⟩
def Uj:cr:=cn Jk qW
def sx:FT:=⟨⟨[.d .sm],[]⟩,⟨[.d .bool],[]⟩,dL [(3,(.j ⟨[],[1,13],⟨gX,OJ⟩,[]⟩)),(10,(.j ⟨[],[1,3],⟨gX,OJ⟩,[]⟩)),(13,(.j ⟨[],[1,47],⟨gX,OJ⟩,[]⟩)),(21,(.j ⟨[],[1,66],⟨gX,OJ⟩,[]⟩)),(29,(.j ⟨[],[1,95],⟨gX,OJ⟩,[]⟩)),(36,(.j ⟨[],[1,4],⟨gX,OJ⟩,[]⟩)),(39,(.j ⟨[],[1,130],⟨gX,OJ⟩,[]⟩)),(46,(.j ⟨[],[1,5],⟨gX,OJ⟩,[]⟩)),(49,(.j ⟨[],[1,157],⟨gX,OJ⟩,[]⟩)),(56,(.j ⟨[],[2],⟨[.d .bool],[]⟩,[]⟩))]⟩
def F1 (n:Nat):cr:=cn sx (gW n)
def nV:FT:=⟨⟨[.d (.sl .sm)],[]⟩,⟨[.d .bool],[]⟩,dL [(6,(.j ⟨[0],[3],⟨[.d aM],[]⟩,[]⟩))]⟩
def Ef:cr:=cn nV qX
def Dz (n:Nat):cr:=cn nV (fA n)
def xr:FT:=⟨⟨[.d FP],[]⟩,⟨[.d .bool],[]⟩,dL [(3,(.j ⟨[],[1,31],⟨gX,XO⟩,[]⟩)),(11,(.j ⟨[],[1,50],⟨gX,XO⟩,[]⟩)),(18,(.j ⟨[],[2],⟨[.d .bool],[]⟩,[]⟩))]⟩
def Gs:cr:=cn xr mb
def FD:FT:=⟨⟨[.d MV],[]⟩,⟨[.d .bool],[]⟩,dL [(6,(.j ⟨[],[1,3],⟨vZ,RX⟩,[]⟩)),(27,(.j ⟨[],[1,4],⟨vZ,RX⟩,[]⟩)),(42,(.j ⟨[4],[1,5,6],⟨s5,adq⟩,[]⟩)),(59,(.j ⟨[4],[1,56],⟨gX,RX⟩,[]⟩))]⟩
def Rr:cr:=cn FD rZ
def VF:FT:=⟨⟨[.d (.sl .str),.d .str],[]⟩,⟨[.d aM],[]⟩,dL [(6,(.j ⟨[0,1],[5],⟨[.d aM],[]⟩,[]⟩))]⟩
def acw:cr:=cn VF jU
def FC:FT:=⟨⟨[.d (.sl FP),.d .str],[]⟩,⟨[.d aM],[]⟩,dL [(6,(.j ⟨[0,1],[5],⟨[.d aM],[]⟩,[]⟩))]⟩
def Rq:cr:=cn FC iF
def Ak:FT:=⟨⟨[.d (.sl sB),.d .str],[]⟩,⟨[.d aM],[]⟩,dL [(6,(.j ⟨[0,1],[5],⟨[.d aM],[]⟩,[]⟩))]⟩
def Ll:cr:=cn Ak iy
def FB:FT:=⟨⟨[.d MV,.d aM,.d .str],[]⟩,⟨[.d aM],[]⟩,dL [(3,(.j ⟨[2],[3,27],⟨gX,RX⟩,[]⟩)),(52,(.j ⟨[7],[3,56],⟨gX,RX⟩,[]⟩))]⟩
def Rp:cr:=cn FB rY
def My:FT:=⟨⟨[.d MV,.d aM,.d .str,.d aM,.d aM],[]⟩,⟨[.d aM],[]⟩,dL [(13,(.j ⟨[],[25],⟨[.d .bool],[]⟩,[]⟩))]⟩
def W9:cr:=cn My gQ
def wQ:FT:=⟨⟨[.d .ex],[]⟩,⟨uY,[]⟩,dL [(8,(.j ⟨[],[1,4,5,6],⟨[.ptr 0 0,.d aM,.d aM,.d aM],[.cells 226 [.d .ex]]⟩,[]⟩))]⟩
def Uh:cr:=cn wQ H0
def S_ (n:Nat):cr:=cn wQ (pA n)
def wP:FT:=⟨⟨[.d MV,.d aM,.d .ex],[]⟩,⟨[.d aM],[]⟩,dL [(7,(.j ⟨[1],[3,5,7],⟨s5,adp⟩,[]⟩)),(21,(.j ⟨[1],[3,5,7,8],⟨[.ptr 0 0,.ptr 1 0,.d aM,.d aM],adp⟩,[]⟩)),(23,(.j ⟨[1,7,8],[3,5,33],⟨ru,adp⟩,[]⟩))]⟩
def Uf:cr:=cn wP HZ
def S9 (n:Nat):cr:=cn wP (pz n)
def Mz:FT:=⟨⟨[.d MV,.d aM,.d .ex],[]⟩,⟨[.d aM],[]⟩,dL [(13,(.j ⟨[1],[3,5,22],⟨ru,adp⟩,[]⟩))]⟩
def W_:cr:=cn Mz nI
def CH:FT:=⟨⟨[.d .bool],[]⟩,⟨[.d aM],[]⟩,.leaf⟩
def Oi:cr:=cn CH dg
def VD:FT:=⟨⟨uY,[]⟩,⟨[.d aM],[]⟩,.leaf⟩
def acv:cr:=cn VD jp
def vQ:FT:=⟨⟨[.ptr 0 0,.d aM,.d aM,.d .str],XT⟩,⟨[.d .bool],XT⟩,dL [(6,(.j ⟨[1,2,3],[0,9],⟨vZ,XT⟩,[]⟩)),(17,(.j ⟨[1,2,3,9],[0,46],⟨gX,XT⟩,[]⟩))]⟩
def Ee:cr:=cn vQ ej
def Aj:FT:=⟨⟨[.ptr 0 0,.d .sm],XT⟩,⟨[.d aM],XU⟩,dL [(1,(.a [.ren 0 4,.ren 0 5])),(28,(.j ⟨[6,7,8,9,30],[0,3,5,67],⟨adn,La8⟩,[]⟩)),(41,(.j ⟨[],[4],⟨[.d aM],XU⟩,[]⟩)),(44,(.j ⟨[6,7,8,9,30],[0,3,5,91],⟨adn,La8⟩,[]⟩)),(51,(.j ⟨[],[4],⟨[.d aM],XU⟩,[]⟩)),(63,(.j ⟨[],[4],⟨[.d aM],XU⟩,[]⟩)),(66,(.j ⟨[6,7,8,9,30],[0,3,5,119],⟨adn,La8⟩,[]⟩)),(89,(.j ⟨[],[4],⟨[.d aM],XU⟩,[]⟩)),(108,(.j ⟨[],[0,3,187],⟨[.ptr 0 0,.ptr 4 0,.d .bool],[.cells 252 [.d (.sl FP),.d (.sl sB),.d aM,.row 1,.row 5,.row 6],.rowsP 228 .sm,.gone,.gone,.cells 228 [.d .sm],.rows 9 M .str,.rows 9 M .str]⟩,[]⟩)),(131,(.j ⟨[],[4],⟨[.d aM],XU⟩,[]⟩)),(137,(.j ⟨[6],[0,3,5,14],⟨[.ptr 0 0,.ptr 4 0,.ptr 5 0,.d aM],La8⟩,[]⟩)),(139,(.j ⟨[6],[0,3,5,14],⟨[.ptr 0 0,.ptr 4 0,.ptr 5 0,.d aM],La8⟩,[]⟩)),(140,(.j ⟨[6,14],[0,3,5,253],⟨adn,La8⟩,[]⟩))]⟩
def Lj:cr:=cn Aj oy
def rO:FT:=⟨⟨[.ptr 0 0,.d (.sl .sm)],XT⟩,⟨uY,agz⟩,dL [(1,(.a [.ren 0 3,.ren 0 4,.ren 0 5])),(6,(.j ⟨[1],[0,6],⟨vZ,agz⟩,[]⟩)),(19,(.j ⟨[1,6],[0,7,8],⟨[.ptr 0 0,.ptr 4 0,.d aM],[.cells 252 [.d (.sl FP),.d (.sl sB),.d aM,.row 5,.row 6,.row 7],.gone,.gone,.gone,.cells 228 [.d .sm],.rowsP 228 .sm,.rows 9 M .str,.rows 9 M .str]⟩,[]⟩)),(37,(.j ⟨[1,6],[0,8,9],⟨RZ,agz⟩,[]⟩))]⟩
def Lk:cr:=cn rO Ab
def KM (n:Nat):cr:=cn rO (mm n)
def wR:FT:=⟨⟨[.d (.sl .sm)],[]⟩,⟨[.d aM],[]⟩,dL [(8,(.j ⟨[0],[3,4],⟨uY,[]⟩,[]⟩))]⟩
def Ui:cr:=cn wR H3
def Ta (n:Nat):cr:=cn wR (pB n)
def Jj:FT:=⟨⟨[.d (.sl FP)],[]⟩,⟨uY,[]⟩,dL [(8,(.j ⟨[0],[4,5,6,7,8],⟨[.d aM,.d aM,.d aM,.d aM,.d aM],[]⟩,[]⟩)),(16,(.j ⟨[0,8],[4,5,6,7],⟨[.d aM,.d aM,.d aM,.d aM],[]⟩,[]⟩)),(38,(.j ⟨[0,8],[4,5,6,7,9],⟨[.d aM,.d aM,.d aM,.d aM,.ptr 0 0],XO⟩,[]⟩)),(39,(.j ⟨[0,4,5,6,7,8,36],[9,39],⟨gX,XO⟩,[]⟩)),(47,(.j ⟨[0,4,5,6,7,8,36],[9,47],⟨gX,XO⟩,[]⟩)),(61,(.j ⟨[0,4,5,6,7,8],[9,69],⟨gX,XO⟩,[]⟩))]⟩
def Ug:cr:=cn Jj tH
def CG:FT:=⟨⟨[.d MV],[]⟩,⟨uY,[]⟩,dL [(6,(.j ⟨[],[1,4],⟨vZ,RX⟩,[]⟩)),(17,(.j ⟨[4],[1,5,37],⟨ru,adq⟩,[]⟩)),(29,(.j ⟨[],[1,6],⟨vZ,RX⟩,[]⟩)),(51,(.j ⟨[6],[1,7,8],⟨s5,adq⟩,[]⟩)),(62,(.j ⟨[6,8],[1,7,90],⟨ru,adq⟩,[]⟩))]⟩
def Oh:cr:=cn CG qi
def CI:FT:=⟨⟨[.d MV],[]⟩,⟨uY,[]⟩,dL [(44,(.j ⟨[],[1,8,9],⟨RZ,RX⟩,[]⟩)),(67,(.a [.cel 10 3 228 .sm,.cel 10 4 9 .str,.cel 10 5 9 .str])),(69,(.j ⟨[],[1,10,11],⟨s5,[.cells 183 [.d MV],.cells 252 [.d (.sl FP),.d (.sl sB),.d aM,.row 2,.row 3,.row 4],.rowsP 228 .sm,.rows 9 M .str,.rows 9 M .str]⟩,[]⟩))]⟩
def Oj:cr:=cn CI kl
def wO:FT:=⟨⟨[.row 0,.d aM,.d aM,.d (.sl .sm)],[.rows 106 M og]⟩,⟨[.row 1,.d aM],[.gone,.rows 106 M og]⟩,dL [(1,(.a [.ren 0 0])),(6,(.j ⟨[1,3],[0,2,10],⟨[.row 1,.d aM,.d aM],[.gone,.rows 106 M og]⟩,[]⟩)),(25,(.a [.nil 8 106 og]))]⟩
def T7:cr:=cn wO HY
def S8 (n:Nat):cr:=cn wO (py n)
def Fx:FT:=⟨⟨[.d (.sl qK),.d .str],[]⟩,⟨[.d aM],[]⟩,dL [(6,(.j ⟨[0,1],[5],⟨[.d aM],[]⟩,[]⟩))]⟩
def Rl:cr:=cn Fx ly
def Fz:FT:=⟨⟨[.d mO,.d .str],[]⟩,⟨[.d aM],[]⟩,dL [(6,(.j ⟨[1],[2,5],⟨vZ,pS⟩,[]⟩))]⟩
def Rn:cr:=cn Fz lz
def Je:FT:=⟨⟨[.d MV],[]⟩,⟨[.d mO],[]⟩,dL [(18,(.j ⟨[],[1,2,3,6],⟨Eu,ak0⟩,[.cel 3 0 100 kG,.cel 3 1 102 qK,.cel 3 2 104 lZ,.cel 3 3 9 .str]⟩)),(31,(.j ⟨[6],[1,2,3],⟨[.ptr 0 0,.ptr 1 0,.ptr 2 0],ak0⟩,[]⟩)),(32,(.j ⟨[6,31],[1,2,3,7,39],⟨t_,ah3⟩,[]⟩)),(42,(.j ⟨[6],[1,2,3,7,8],⟨[.ptr 0 0,.ptr 1 0,.ptr 2 0,.ptr 3 0,.d aM],ah3⟩,[]⟩)),(53,(.j ⟨[6,31],[1,2,3,7,65],⟨t_,ah3⟩,[]⟩)),(69,(.a [.cel 3 5 106 og])),(71,(.j ⟨[],[1,2,3,9],⟨Eu,[.cells 183 [.d MV],.cells 28 adm,.cells 28 [.row 3,.row 4,.row 5,.row 6,.row 7,.row 8],.rows 100 M kG,.rows 102 M qK,.rows 104 M lZ,.rows 9 M .str,.rows 9 M .str,.rows 106 M og]⟩,[.cel 3 4 9 .str]⟩))]⟩
def Ua:cr:=cn Je tF
def Jb:FT:=⟨⟨[.d mO],[]⟩,⟨[.d (.sl .str),.d .bool],[]⟩,dL [(8,(.j ⟨[],[1,4,5],⟨UO,XQ⟩,[.nil 4 9 .str]⟩)),(15,(.j ⟨[],[1,4,5],⟨UO,XQ⟩,[]⟩)),(37,(.j ⟨[5],[1,4,6,51],⟨[.ptr 0 0,.row 1,.ptr 2 0,.d .bool],agr⟩,[]⟩)),(48,(.j ⟨[5],[1,4,6,7],⟨[.ptr 0 0,.row 1,.ptr 2 0,.d aM],agr⟩,[]⟩)),(59,(.j ⟨[5,7],[1,4,6,93],⟨[.ptr 0 0,.row 1,.ptr 2 0,.d .bool],agr⟩,[]⟩)),(72,(.j ⟨[],[1,4,9],⟨UO,XQ⟩,[]⟩)),(87,(.j ⟨[],[1,4,10],⟨UO,XQ⟩,[]⟩))]⟩
def T8:cr:=cn Jb pq
def xq:FT:=⟨⟨[.d mO],[]⟩,⟨[.d .bool],[]⟩,dL [(3,(.j ⟨[],[1,49],⟨gX,pS⟩,[]⟩)),(24,(.j ⟨[3],[1,5],⟨vZ,pS⟩,[]⟩)),(33,(.j ⟨[3,5],[1,79],⟨gX,pS⟩,[]⟩)),(45,(.j ⟨[],[1,6],⟨vZ,pS⟩,[]⟩)),(56,(.j ⟨[6],[1,109],⟨gX,pS⟩,[]⟩)),(68,(.j ⟨[],[1,8],⟨vZ,pS⟩,[]⟩)),(76,(.j ⟨[8],[1],⟨[.ptr 0 0],pS⟩,[]⟩)),(80,(.j ⟨[8],[1,9,132],⟨ru,[.cells 28 [.d mO],.cells 106 [.d og]]⟩,[]⟩)),(87,(.j ⟨[8],[1,9,146],⟨ru,[.cells 28 [.d mO],.cells 106 [.d og]]⟩,[]⟩)),(90,(.j ⟨[8],[1,165],⟨gX,pS⟩,[]⟩))]⟩
def Gr:cr:=cn xq gV
def yK:FT:=⟨⟨[.d qH],[]⟩,⟨qC,[]⟩,dL [(6,(.j ⟨[4],[1,5],⟨gX,[.cells 218 [.d qH]]⟩,[]⟩)),(24,(.j ⟨[4],[1,13],⟨gX,[.cells 218 [.d qH]]⟩,[]⟩)),(46,(.j ⟨[4],[1,37],⟨gX,[.cells 218 [.d qH]]⟩,[]⟩))]⟩
def JD:cr:=cn yK jG
def Fy:FT:=⟨⟨[.d aM],[]⟩,⟨[.d .bool],[]⟩,dL [(2,(.j ⟨[],[2],⟨[.d .bool],[]⟩,[]⟩))]⟩
def Rm:cr:=cn Fy pG
def Jc:FT:=⟨⟨[.d (.sl qH),.d aM],[]⟩,⟨[.d .bool],[]⟩,dL [(6,(.j ⟨[0],[1,5],⟨uY,[]⟩,[]⟩)),(14,(.j ⟨[0,5],[1],⟨[.d aM],[]⟩,[]⟩)),(16,(.j ⟨[0,1,5],[19],⟨[.d .bool],[]⟩,[]⟩))]⟩
def T9:cr:=cn Jc tC
def VB:FT:=⟨⟨uY,[]⟩,⟨[.d .bool],[]⟩,dL [(2,(.j ⟨[],[4],⟨[.d .bool],[]⟩,[]⟩))]⟩
def acu:cr:=cn VB jm
def Jd:FT:=⟨⟨[.d mO,.d aM,.d aM],[]⟩,⟨[.d .bool],[]⟩,dL [(2,(.j ⟨[],[6],⟨[.d .bool],[]⟩,[]⟩))]⟩
def T_:cr:=cn Jd qU
def CD:FT:=⟨⟨[.d mO,.d qH],[]⟩,⟨[.d .bool],[]⟩,dL [(9,(.j ⟨[],[4],⟨[.d .bool],[]⟩,[]⟩)),(15,(.j ⟨[],[4],⟨[.d .bool],[]⟩,[]⟩)),(30,(.j ⟨[6],[2,3,59],⟨ru,ado⟩,[]⟩)),(37,(.j ⟨[],[4],⟨[.d .bool],[]⟩,[]⟩)),(40,(.j ⟨[6],[2,3,78],⟨ru,ado⟩,[]⟩)),(55,(.j ⟨[],[4],⟨[.d .bool],[]⟩,[]⟩)),(58,(.j ⟨[6],[2,3,98],⟨ru,ado⟩,[]⟩)),(72,(.j ⟨[6],[2,3,108],⟨ru,ado⟩,[]⟩)),(97,(.j ⟨[],[4],⟨[.d .bool],[]⟩,[]⟩)),(103,(.j ⟨[],[4],⟨[.d .bool],[]⟩,[]⟩))]⟩
def Oe:cr:=cn CD qg
def vP:FT:=⟨⟨[.d mO,.d aM,.d v7],[]⟩,⟨[.d .bool],[]⟩,dL [(5,(.j ⟨[1,7],[3,5,26],⟨ru,aak⟩,[]⟩)),(16,(.j ⟨[1,7],[3,5,8],⟨s5,aak⟩,[]⟩)),(28,(.j ⟨[1,7,8],[3,5,9,67],⟨C9,ags⟩,[]⟩)),(36,(.j ⟨[1,7,8],[3,5,9,100],⟨C9,ags⟩,[]⟩)),(44,(.j ⟨[1,7,8],[3,5,9,122],⟨C9,ags⟩,[]⟩)),(56,(.j ⟨[1,7,8,10],[3,5,11],⟨s5,aak⟩,[]⟩))]⟩
def Ed:cr:=cn vP kY
def Jf:FT:=⟨⟨[.d ua],[]⟩,⟨[.d .bool],[]⟩,dL [(3,(.j ⟨[],[1,17],⟨gX,[.cells 150 [.d ua]]⟩,[]⟩)),(14,(.j ⟨[],[1,3],⟨vZ,[.cells 150 [.d ua]]⟩,[]⟩))]⟩
def Ub:cr:=cn Jf pt
def CE:FT:=⟨⟨[.ptr 0 0,.d qH],La5⟩,⟨[],La4⟩,.leaf⟩
def Of:cr:=cn CE cB
def qx:FT:=⟨⟨[.ptr 0 0,.d .ex,.d aM],La5⟩,⟨[],La4⟩,dL [(2,(.j ⟨[],[],⟨[],La4⟩,[]⟩))]⟩
def JB:cr:=cn qx iE
def Ib (n:Nat):cr:=cn qx (iH n)
def xp:FT:=⟨⟨[.ptr 0 0,.d .sm],La5⟩,⟨[],La4⟩,.leaf⟩
def Gq:cr:=cn xp ma
def Ai:FT:=⟨⟨[.ptr 0 0,.d .str],La5⟩,⟨[.d aM],La5⟩,dL [(6,(.j ⟨[1],[0,5],⟨vZ,La5⟩,[]⟩))]⟩
def Li:cr:=cn Ai ju
def qy:FT:=⟨⟨[.ptr 0 0,.d (.sl .sm)],La5⟩,⟨[],La4⟩,dL [(1,(.a [.ren 0 7])),(3,(.j ⟨[1],[0,4],⟨vZ,La4⟩,[]⟩))]⟩
def JC:cr:=cn qy tD
def Ic (n:Nat):cr:=cn qy (dH n)
def uW:FT:=⟨⟨[.ptr 0 0,.d .sm],La5⟩,⟨[],La4⟩,dL [(1,(.a [.ren 0 7])),(10,(.j ⟨[],[],⟨[],La4⟩,[]⟩)),(15,(.j ⟨[4,25],[0,3,31],⟨[.ptr 0 0,.ptr 2 0,.d .bool],[.cells 214 [.d (.sl kG),.d (.sl qK),.d (.sl lZ),.d (.sl .str),.d (.sl .str),.d (.sl og),.d (.sl .str),.row 3,.d aM,.d aM],.gone,.cells 228 [.d .sm],.rows 218 M qH]⟩,[]⟩))]⟩
def KL (n:Nat):cr:=cn uW (eD n)
def qz:FT:=⟨⟨[.ptr 0 0,.d .sm],La5⟩,⟨[],La4⟩,.leaf⟩
def B1 (n:Nat):cr:=cn qz (c8 n)
def sw:FT:=⟨⟨[.ptr 0 0,.d .sm,.d aM,.d aM,.d aM],La5⟩,⟨[],La4⟩,.leaf⟩
def F0 (n:Nat):cr:=cn sw (dC n)
def CF:FT:=⟨⟨[.d MV],[]⟩,⟨[.d ua,.d aM,.d aM],[]⟩,dL [(20,(.j ⟨[],[1,2,7,8,9],⟨[.ptr 0 0,.ptr 1 0,.ptr 2 0,.d aM,.d aM],[.cells 183 [.d MV],.cells 150 XR,.cells 150 [.d (.sl kG),.d (.sl qK),.d (.sl lZ),.d (.sl .str),.d (.sl .str),.d (.sl og),.row 3],.rows 201 M v7]⟩,[.cel 7 6 201 v7]⟩)),(32,(.a [.cel 10 7 218 qH])),(45,(.j ⟨[8,9],[1,2,7,10,11,12],⟨agp,ak6⟩,[]⟩)),(59,(.j ⟨[8,9,12,13],[1,2,7,10,11,14],⟨agp,ak6⟩,[]⟩))]⟩
def Og:cr:=cn CF qh
def QL:FT:=⟨⟨LA,[]⟩,⟨[.d .bool],[]⟩,dL [(6,(.j ⟨[0,1],[5],⟨[.d aM],[]⟩,[]⟩))]⟩
def ZJ:cr:=cn QL ox
def QK:FT:=⟨⟨LA,[]⟩,⟨qC,[]⟩,dL [(6,(.j ⟨[0,1],[5],⟨[.d aM],[]⟩,[]⟩)),(8,(.j ⟨[0,1,5],[18],⟨[.d .bool],[]⟩,[]⟩)),(16,(.j ⟨[0,1,5],[32],⟨[.d .bool],[]⟩,[]⟩))]⟩
def ZI:cr:=cn QK vu
def Ja:FT:=⟨⟨[.d (.sl aM),.d (.sl aM)],[]⟩,⟨qC,[]⟩,dL [(8,(.j ⟨[0,1],[5,6],⟨LA,[]⟩,[]⟩)),(23,(.j ⟨[1],[5,7],⟨LA,[]⟩,[]⟩))]⟩
def T6:cr:=cn Ja qT
def Ah:FT:=⟨⟨[.d aM],[]⟩,⟨[.d aM],[]⟩,dL [(3,(.j ⟨[0],[8],⟨[.d .bool],[]⟩,[]⟩))]⟩
def Lh:cr:=cn Ah mj
def Mx:FT:=⟨⟨[.d eI],[]⟩,⟨[.agg adl],aam⟩,dL [(8,(.j ⟨[],[1,2,3,4],⟨Eu,[.cells 205 [.d eI],.cells 205 V9,.cells 205 [.d aM,.row 3,.row 4,.d aM],.rows 2 M aM,.rows 58 M (.sl aM)]⟩,[.cel 3 2 58 (.sl aM)]⟩))]⟩
def W8:cr:=cn Mx ch
def Mw:FT:=⟨⟨[.d qH,.agg adl],aam⟩,⟨[.agg adl,.d .bool],aam⟩,dL [(8,(.j ⟨[6],[2,3,4,7],⟨[.ptr 2 0,.ptr 3 0,.ptr 4 0,.d aM],ah0⟩,[]⟩)),(17,(.j ⟨[6,7],[2,3,4,33],⟨[.ptr 2 0,.ptr 3 0,.ptr 4 0,.d .bool],ah0⟩,[]⟩)),(32,(.j ⟨[],[2,3,4,8,9,10],⟨[.ptr 2 0,.ptr 3 0,.ptr 4 0,.d aM,.d .bool,.d (.sl aM)],ah0⟩,[]⟩))]⟩
def W7:cr:=cn Mw vr
def Fw:FT:=⟨⟨[.d v7,.d eI],[]⟩,⟨[.d eI,.d .bool],[]⟩,dL [(3,(.j ⟨[],[2,3,4,23],⟨C9,[.cells 201 [.d v7],.cells 205 [.d eI],.cells 205 V9]⟩,[]⟩)),(16,(.j ⟨[],[2,3,4,6],⟨Eu,ajy⟩,[]⟩)),(26,(.j ⟨[6],[2,3,4,44],⟨C9,ajy⟩,[]⟩))]⟩
def Rk:cr:=cn Fw nl
def I9:FT:=⟨⟨[.d mO],[]⟩,⟨[.d C_],[]⟩,dL [(8,(.j ⟨[],[1,2,3,4],⟨Eu,[.cells 28 [.d mO],.cells 84 t8,.cells 84 [.row 3,.d aM,.nil,.nil],.rows 157 M dt]⟩,[.cel 3 0 157 dt]⟩)),(23,(.j ⟨[],[1,2,3,5],⟨Eu,[.cells 28 [.d mO],.cells 84 t8,.cells 84 [.row 3,.d aM,.row 4,.nil],.rows 157 M dt,.rows 4 M .bool]⟩,[.cel 3 2 4 .bool]⟩)),(38,(.j ⟨[],[1,2,3,6],⟨Eu,[.cells 28 [.d mO],.cells 84 t8,.cells 84 aah,.rows 157 M dt,.rows 4 M .bool,.rows 159 M gF]⟩,[.cel 3 3 159 gF]⟩)),(49,(.j ⟨[6],[1,2,3,7],⟨aaj,[.cells 28 [.d mO],.cells 84 t8,.cells 84 [.row 4,.d aM,.row 5,.row 6],.cells 159 [.d gF],.rows 157 M dt,.rows 4 M .bool,.rows 159 M gF]⟩,[]⟩))]⟩
def T4:cr:=cn I9 pn
def Mu:FT:=⟨⟨[.d mO,.d C_],[]⟩,⟨[.d .bool],[]⟩,dL [(6,(.j ⟨[],[2,3,5],⟨s5,UP⟩,[]⟩)),(15,(.j ⟨[5],[2,3,31],⟨ru,UP⟩,[]⟩)),(23,(.j ⟨[],[4],⟨[.d .bool],[]⟩,[]⟩))]⟩
def W5:cr:=cn Mu nH
def Vz:FT:=⟨⟨uY,[]⟩,⟨[.d .bool],[]⟩,dL [(2,(.j ⟨[],[4],⟨[.d .bool],[]⟩,[]⟩))]⟩
def act:cr:=cn Vz qf
def I8:FT:=⟨⟨[.d mO,.d aM,.d aM],[]⟩,⟨[.d .bool],[]⟩,dL [(6,(.j ⟨[2,7],[3,8],⟨gX,pS⟩,[]⟩)),(36,(.j ⟨[2,7],[3,18],⟨gX,pS⟩,[]⟩)),(46,(.j ⟨[2,7],[3,26],⟨gX,pS⟩,[]⟩)),(53,(.j ⟨[],[6],⟨[.d .bool],[]⟩,[]⟩)),(56,(.j ⟨[2,7],[3,43],⟨gX,pS⟩,[]⟩)),(71,(.j ⟨[],[6],⟨[.d .bool],[]⟩,[]⟩)),(74,(.j ⟨[2,7],[3,61],⟨gX,pS⟩,[]⟩)),(92,(.j ⟨[2,7],[3,71],⟨gX,pS⟩,[]⟩)),(102,(.j ⟨[2],[3,79],⟨gX,pS⟩,[]⟩))]⟩
def T3:cr:=cn I8 pm
def CC:FT:=⟨⟨[.d mO,.d C_,.d aM,.d aM,.d aM],[]⟩,⟨[.d .bool],[]⟩,dL [(3,(.j ⟨[2,3,4],[5,6,30],⟨ru,UP⟩,[]⟩)),(25,(.j ⟨[],[10],⟨[.d .bool],[]⟩,[]⟩)),(50,(.j ⟨[],[10],⟨[.d .bool],[]⟩,[]⟩)),(56,(.j ⟨[],[10],⟨[.d .bool],[]⟩,[]⟩)),(59,(.j ⟨[2,4,70],[5,6,11,119],⟨C9,[.cells 28 [.d mO],.cells 84 [.d C_],.cells 159 [.d gF]]⟩,[]⟩)),(99,(.j ⟨[2,4,70],[5,6,160],⟨ru,UP⟩,[]⟩)),(116,(.j ⟨[],[10],⟨[.d .bool],[]⟩,[]⟩)),(122,(.j ⟨[],[10],⟨[.d .bool],[]⟩,[]⟩))]⟩
def Od:cr:=cn CC iw
def CA:FT:=⟨⟨[.d C_,.d aM],[]⟩,⟨qC,[]⟩,dL [(8,(.j ⟨[1],[2,5,6],⟨UO,aai⟩,[.nil 5 3 aM]⟩)),(16,(.j ⟨[1,6],[2,5],⟨[.ptr 0 0,.row 1],aai⟩,[]⟩)),(17,(.j ⟨[1,6],[2,5,30],⟨[.ptr 0 0,.row 1,.d .bool],aai⟩,[]⟩))]⟩
def Oc:cr:=cn CA nG
def Cz:FT:=⟨⟨LA,[]⟩,⟨qC,[]⟩,dL [(8,(.j ⟨[0,1],[5,6],⟨[.row 0,.d aM],[.rows 3 M aM]⟩,[.nil 5 3 aM]⟩)),(16,(.j ⟨[0,1,6],[5],⟨[.row 0],[.rows 3 M aM]⟩,[]⟩))]⟩
def Ob:cr:=cn Cz qe
def Mv:FT:=⟨⟨[.d C_],[]⟩,⟨[.agg GR],agq⟩,dL [(8,(.j ⟨[],[1,2,3,4],⟨Eu,[.cells 84 [.d C_],.cells 84 t8,.cells 84 aah,.rows 157 M dt,.rows 4 M .bool,.rows 159 M gF]⟩,[.cel 3 0 157 dt]⟩))]⟩
def W6:cr:=cn Mv ii
def mn:FT:=⟨⟨[.agg GR,.d aM],agq⟩,⟨qC,agq⟩,dL [(8,(.j ⟨[1],[2,5,6],⟨[.ptr 3 0,.row 4,.d aM],agw⟩,[.nil 5 3 aM]⟩)),(16,(.j ⟨[1,6],[2,5],⟨[.ptr 3 0,.row 4],agw⟩,[]⟩)),(17,(.j ⟨[1,6],[2,5,30],⟨[.ptr 3 0,.row 4,.d .bool],agw⟩,[]⟩))]⟩
def Lg:cr:=cn mn mi
def JA:cr:=⟨mn.pre,⟨mn.post.vs,[]⟩,jF⟩
def I_:FT:=⟨⟨[.d mO,.d C_,.d aM,.d aM,.d aM,.d aM],[]⟩,⟨[.d C_,.d aM,.d .bool],[]⟩,dL [(17,(.j ⟨[],[7,12,15],⟨s5,agy⟩,[]⟩)),(26,(.j ⟨[2,4,5,15,30],[6,7,12,45],⟨C9,ajz⟩,[]⟩)),(34,(.j ⟨[2,4,5,15,30],[6,7,12,54],⟨C9,ajz⟩,[]⟩)),(90,(.j ⟨[],[7,12,17],⟨s5,agy⟩,[]⟩)),(109,(.j ⟨[18],[7,12,19],⟨s5,agy⟩,[]⟩))]⟩
def T5:cr:=cn I_ po
def I7:FT:=⟨⟨[.d ua],[]⟩,⟨[.d u0],[]⟩,dL [(16,(.j ⟨[],[1,2,3,4],⟨Eu,[.cells 150 [.d ua],.cells 145 uZ,.cells 145 [.d (.sl dt),.d aM,.d mg,.d (.sl gF),.row 3,.nil,.nil],.rows 2 M aM]⟩,[.cel 3 4 2 aM]⟩)),(31,(.j ⟨[],[1,2,3,5],⟨Eu,[.cells 150 [.d ua],.cells 145 uZ,.cells 145 [.d (.sl dt),.d aM,.d mg,.d (.sl gF),.row 3,.row 4,.nil],.rows 2 M aM,.rows 2 M aM]⟩,[.cel 3 5 2 aM]⟩)),(46,(.j ⟨[],[1,2,3,6],⟨Eu,[.cells 150 [.d ua],.cells 145 uZ,.cells 145 agx,.rows 2 M aM,.rows 2 M aM,.rows 205 M eI]⟩,[.cel 3 6 205 eI]⟩))]⟩
def T2:cr:=cn I7 tB
def Mt:FT:=⟨⟨[.d ua,.d u0],[]⟩,⟨[.d .bool],[]⟩,dL [(3,(.j ⟨[],[2,3,46],⟨ru,aal⟩,[]⟩)),(14,(.j ⟨[],[2,3,5],⟨s5,aal⟩,[]⟩)),(25,(.j ⟨[5],[2,3,97],⟨ru,aal⟩,[]⟩))]⟩
def W3:cr:=cn Mt vq
def Mr:FT:=⟨⟨[.d aM],[]⟩,⟨[.d aM],[]⟩,dL [(5,(.j ⟨[0],[3,10],⟨[.row 0,.d .bool],[.rows 3 aa aM]⟩,[]⟩))]⟩
def W1:cr:=cn Mr vo
def Fc:FT:=⟨⟨[.d qH,.d eI],[]⟩,⟨[.d aM],[]⟩,dL [(6,(.j ⟨[6],[2,3,7],⟨ru,[.cells 218 [.d qH],.cells 205 [.d eI]]⟩,[]⟩)),(28,(.j ⟨[],[2,40],⟨gX,[.cells 218 [.d qH]]⟩,[]⟩))]⟩
def QZ:cr:=cn Fc rW
def Cy:FT:=⟨⟨[.d ua,.d u0,.d aM],[]⟩,⟨[.d gG,.d .bool],[]⟩,dL [(3,(.j ⟨[2],[3,4,6,25],⟨C9,[.cells 150 [.d ua],.cells 145 [.d u0],.cells 60 uk]⟩,[]⟩)),(54,(.j ⟨[],[6,8,9,10],⟨aaj,ajw⟩,[.cel 10 5 3 aM]⟩)),(59,(.j ⟨[],[6,8,9,10,98],⟨t_,[.cells 60 uk,.cells 205 [.d eI],.cells 218 [.d qH],.cells 60 uk]⟩,[]⟩)),(68,(.j ⟨[],[6,10],⟨[.ptr 0 0,.ptr 1 0],[.cells 60 uk,.cells 60 [.d aM,.d aM,.d aM,.d aM,.d aM,.row 2,.row 3],.rows 3 M aM,.rows 3 M aM]⟩,[.cel 10 6 3 aM]⟩)),(69,(.j ⟨[],[6,8,9,10,123],⟨t_,ajw⟩,[]⟩))]⟩
def Oa:cr:=cn Cy nF
def I5:FT:=⟨⟨[.d mO],[]⟩,⟨[.d iM],[]⟩,dL [(8,(.j ⟨[],[1,2,3,4],⟨Eu,[.cells 28 [.d mO],.cells 87 uZ,.cells 87 agx,.rows 2 M aM,.rows 2 aa aM,.rows 3 aa aM]⟩,[.cel 3 4 2 aM]⟩))]⟩
def TY:cr:=cn I5 mV
def Mq:FT:=⟨⟨[.d mO,.d iM],[]⟩,⟨[.d .bool],[]⟩,dL [(2,(.j ⟨[],[4],⟨[.d .bool],[]⟩,[]⟩))]⟩
def WZ:cr:=cn Mq qS
def Vy:FT:=⟨⟨uY,[]⟩,⟨[.d .bool],[]⟩,dL [(2,(.j ⟨[],[4],⟨[.d .bool],[]⟩,[]⟩))]⟩
def acs:cr:=cn Vy BV
def Cx:FT:=⟨⟨LA,[]⟩,⟨[.d .bool],[]⟩,dL [(6,(.j ⟨[0,1],[5],⟨[.d aM],[]⟩,[]⟩)),(15,(.j ⟨[0,1,5],[40],⟨[.d .bool],[]⟩,[]⟩))]⟩
def N':cr:=cn Cx ki
def I3:FT:=⟨⟨[.d iM,.d gG],[]⟩,⟨[.d .bool],[]⟩,dL [(21,(.j ⟨[],[4],⟨[.d .bool],[]⟩,[]⟩)),(24,(.j ⟨[7],[2,3,40],⟨ru,[.cells 87 [.d iM],.cells 60 [.d gG]]⟩,[]⟩)),(47,(.j ⟨[],[4],⟨[.d .bool],[]⟩,[]⟩))]⟩
def TW:cr:=cn I3 pl
def Mp:FT:=⟨⟨[.d mO,.d iM,.d gG],[]⟩,⟨[.d iM,.d .bool],[]⟩,dL [(3,(.j ⟨[],[3,4,5,6,46],⟨t_,Kc⟩,[]⟩)),(10,(.j ⟨[],[3,4,5,6],⟨aaj,Kc⟩,[]⟩)),(11,(.j ⟨[],[3,4,5,6,55],⟨t_,Kc⟩,[]⟩)),(21,(.j ⟨[],[3,4,5,6,78],⟨t_,Kc⟩,[]⟩)),(28,(.j ⟨[],[3,4,5,6,8],⟨t_,Kc⟩,[]⟩)),(31,(.j ⟨[],[3,4,5,6,110],⟨t_,Kc⟩,[]⟩)),(39,(.j ⟨[],[3,4,5,6,125],⟨t_,Kc⟩,[]⟩)),(47,(.j ⟨[],[3,4,5,6,154],⟨t_,Kc⟩,[]⟩)),(58,(.j ⟨[],[3,4,5,6,9,10],⟨agp,[.cells 28 [.d mO],.cells 87 [.d iM],.cells 60 [.d gG],.cells 87 uZ,.cells 87 [.nil,.d aM,.nil,.nil,.row 5,.row 6,.row 7],.rows 2 M aM,.rows 2 M aM,.rows 3 M aM]⟩,[]⟩)),(66,(.j ⟨[],[5,6,9],⟨[.ptr 0 0,.ptr 1 0,.ptr 2 0],agn⟩,[]⟩)),(72,(.j ⟨[],[5,6,9],⟨[.ptr 0 0,.ptr 1 0,.ptr 2 0],agn⟩,[]⟩))]⟩
def WY:cr:=cn Mp nE
def I4:FT:=⟨⟨[.d (.sl gG),.d aM,.d aM,.d (.sl aM)],[]⟩,⟨[.d .bool],[]⟩,dL [(6,(.j ⟨[0,1,2,3],[9],⟨[.d aM],[]⟩,[]⟩)),(23,(.j ⟨[0,1,2,3,9],[10,11,12],⟨[.d aM,.d .bool,.d aM],[]⟩,[]⟩)),(31,(.j ⟨[0,1,2,3,9,12],[10,11],⟨[.d aM,.d .bool],[]⟩,[]⟩)),(38,(.j ⟨[0,1,2,3,9,10,12],[11],⟨[.d .bool],[]⟩,[]⟩))]⟩
def TX:cr:=cn I4 mU
def I6:FT:=⟨⟨[.d Ka24],[]⟩,⟨uY,[]⟩,dL [(24,(.j ⟨[],[1,4,5],⟨s5,[.cells 31 [.d Ka24],.cells 87 [.d iM]]⟩,[]⟩)),(38,(.j ⟨[5],[1,4,7,63],⟨C9,[.cells 31 [.d Ka24],.cells 87 [.d iM],.cells 87 [.d iM]]⟩,[]⟩))]⟩
def TZ:cr:=cn I6 mW
def Fv:FT:=⟨⟨[.d u0],[]⟩,⟨[.agg [.agg GR,.row 3,.row 4,.csl 5 4 1]],[.rows 157 M dt,.rows 4 M .bool,.rows 159 M gF,.rows 2 M aM,.rows 2 M aM,.cells 205 [.d aM,.row 6,.row 7,.d aM],.rows 2 M aM,.rows 58 M (.sl aM)]⟩,dL [(8,(.u 2))]⟩
def Rj:cr:=cn Fv nk
def Fl:FT:=⟨⟨LB,[]⟩,⟨LC,[]⟩,dL [(27,(.s 5 0 0 1)),(37,(.j ⟨[],[3,4,5,6,7,9,14,15,16],⟨LH,ah9⟩,[]⟩)),(38,(.j ⟨[16,77],[3,4,5,6,7,9,14,15,78],⟨MU,ah9⟩,[]⟩)),(83,(.j ⟨[16],[3,4,5,6,7,9,14],⟨LF,[.cells 150 [.d ua],.cells 145 af4,.cells 186 [.d im],.cells 145 uZ,.cells 60 uk,.cells 60 [.d gG],.cells 205 Ka,.rows 2 M aM,.rows 2 M aM,.cells 205 Ka,.rows 2 M aM,.rows 58 M (.sl aM)]⟩,[]⟩)),(84,(.j ⟨[16],[3,4,5,6,7,9,14,15,154],⟨MU,ah9⟩,[]⟩)),(95,(.j ⟨[],[4,5,6,7,9,14],⟨LD,[.cells 145 [.d (.sl dt),.d aM,.d mg,.d (.sl gF),.row 6,.row 7,.csl 8 4 1],.cells 186 [.d im],.cells 145 uZ,.cells 60 uk,.cells 60 [.d gG],.cells 205 [.d eI],.rows 2 M aM,.rows 2 M aM,.cells 205 [.d eI]]⟩,[]⟩)),(96,(.j ⟨[],[3,4,5,6,7,9,14,183],⟨LG,[.cells 150 [.d ua],.cells 145 af4,.cells 186 [.d im],.cells 145 uZ,.cells 60 uk,.cells 60 [.d gG],.cells 205 Kb,.rows 2 M aM,.rows 2 M aM,.cells 205 Kb]⟩,[]⟩)),(102,(.s 5 0 0 1)),(104,(.a [.pk 4 6 eI]))]⟩
def Q_:cr:=cn Fl fQ
def Fu:FT:=⟨⟨[.d u0],[]⟩,⟨[.agg [.agg GR,.row 3,.row 4,.csl 5 4 2]],[.rows 157 M dt,.rows 4 M .bool,.rows 159 M gF,.rows 2 M aM,.rows 2 M aM,.cells 205 [.d aM,.row 6,.row 7,.d aM,.d eI],.rows 2 M aM,.rows 58 M (.sl aM)]⟩,dL [(8,(.u 3))]⟩
def Ri:cr:=cn Fu nj
def Fk:FT:=⟨⟨LB,[]⟩,⟨LC,[]⟩,dL [(27,(.s 5 0 0 1)),(37,(.j ⟨[],[3,4,5,6,7,9,14,15,16],⟨LH,ahb⟩,[]⟩)),(38,(.j ⟨[16,77],[3,4,5,6,7,9,14,15,78],⟨MU,ahb⟩,[]⟩)),(83,(.j ⟨[16],[3,4,5,6,7,9,14],⟨LF,[.cells 150 [.d ua],.cells 145 ads,.cells 186 [.d im],.cells 145 uZ,.cells 60 uk,.cells 60 [.d gG],.cells 205 Ka,.rows 2 M aM,.rows 2 M aM,.cells 205 [.d aM,.row 10,.row 11,.d aM,.d eI],.rows 2 M aM,.rows 58 M (.sl aM)]⟩,[]⟩)),(84,(.j ⟨[16],[3,4,5,6,7,9,14,15,154],⟨MU,ahb⟩,[]⟩)),(95,(.j ⟨[],[4,5,6,7,9,14],⟨LD,ak5⟩,[]⟩)),(96,(.j ⟨[],[3,4,5,6,7,9,14,183],⟨LG,[.cells 150 [.d ua],.cells 145 ads,.cells 186 [.d im],.cells 145 uZ,.cells 60 uk,.cells 60 [.d gG],.cells 205 Kb,.rows 2 M aM,.rows 2 M aM,.cells 205 [.d aM,.d (.sl aM),.d kM,.d aM,.d eI]]⟩,[]⟩)),(102,(.s 5 0 0 1)),(104,(.a [.pk 4 6 eI]))]⟩
def Q9:cr:=cn Fk gy
def Ft:FT:=⟨⟨[.d u0],[]⟩,⟨[.agg [.agg GR,.row 3,.row 4,.csl 5 4 2]],[.rows 157 M dt,.rows 4 M .bool,.rows 159 M gF,.rows 2 M aM,.rows 2 M aM,.cells 205 [.d eI,.d aM,.row 6,.row 7,.d aM],.rows 2 M aM,.rows 58 M (.sl aM)]⟩,dL [(8,(.u 3))]⟩
def Rh:cr:=cn Ft nh
def Fj:FT:=⟨⟨LB,[]⟩,⟨LC,[]⟩,dL [(27,(.s 5 0 1 1)),(37,(.j ⟨[],[3,4,5,6,7,9,14,15,16],⟨LH,aha⟩,[]⟩)),(38,(.j ⟨[16,77],[3,4,5,6,7,9,14,15,78],⟨MU,aha⟩,[]⟩)),(83,(.j ⟨[16],[3,4,5,6,7,9,14],⟨LF,[.cells 150 [.d ua],.cells 145 ads,.cells 186 [.d im],.cells 145 uZ,.cells 60 uk,.cells 60 [.d gG],.cells 205 Ka,.rows 2 M aM,.rows 2 M aM,.cells 205 [.d eI,.d aM,.row 10,.row 11,.d aM],.rows 2 M aM,.rows 58 M (.sl aM)]⟩,[]⟩)),(84,(.j ⟨[16],[3,4,5,6,7,9,14,15,154],⟨MU,aha⟩,[]⟩)),(95,(.j ⟨[],[4,5,6,7,9,14],⟨LD,ak5⟩,[]⟩)),(96,(.j ⟨[],[3,4,5,6,7,9,14,183],⟨LG,[.cells 150 [.d ua],.cells 145 ads,.cells 186 [.d im],.cells 145 uZ,.cells 60 uk,.cells 60 [.d gG],.cells 205 Kb,.rows 2 M aM,.rows 2 M aM,.cells 205 [.d eI,.d aM,.d (.sl aM),.d kM,.d aM]]⟩,[]⟩)),(102,(.s 5 0 1 1)),(104,(.a [.pk 4 6 eI]))]⟩
def Q7:cr:=cn Fj fP
def Fs:FT:=⟨⟨[.d u0],[]⟩,⟨agm,[.rows 157 M dt,.rows 4 M .bool,.rows 159 M gF,.rows 2 M aM,.rows 2 M aM,.cells 205 [.d aM,.row 6,.row 7,.d aM,.d eI,.d eI],.rows 2 M aM,.rows 58 M (.sl aM)]⟩,dL [(8,(.u 4))]⟩
def Rg:cr:=cn Fs ng
def Fi:FT:=⟨⟨LB,[]⟩,⟨LC,[]⟩,dL [(27,(.s 5 0 0 1)),(37,(.j ⟨[],[3,4,5,6,7,9,14,15,16],⟨LH,ahe⟩,[]⟩)),(38,(.j ⟨[16,77],[3,4,5,6,7,9,14,15,78],⟨MU,ahe⟩,[]⟩)),(83,(.j ⟨[16],[3,4,5,6,7,9,14],⟨LF,[.cells 150 [.d ua],.cells 145 XS,.cells 186 [.d im],.cells 145 uZ,.cells 60 uk,.cells 60 [.d gG],.cells 205 Ka,.rows 2 M aM,.rows 2 M aM,.cells 205 [.d aM,.row 10,.row 11,.d aM,.d eI,.d eI],.rows 2 M aM,.rows 58 M (.sl aM)]⟩,[]⟩)),(84,(.j ⟨[16],[3,4,5,6,7,9,14,15,154],⟨MU,ahe⟩,[]⟩)),(95,(.j ⟨[],[4,5,6,7,9,14],⟨LD,ah4⟩,[]⟩)),(96,(.j ⟨[],[3,4,5,6,7,9,14,183],⟨LG,[.cells 150 [.d ua],.cells 145 XS,.cells 186 [.d im],.cells 145 uZ,.cells 60 uk,.cells 60 [.d gG],.cells 205 Kb,.rows 2 M aM,.rows 2 M aM,.cells 205 [.d aM,.d (.sl aM),.d kM,.d aM,.d eI,.d eI]]⟩,[]⟩)),(102,(.s 5 0 0 1)),(104,(.a [.pk 4 6 eI]))]⟩
def Q6:cr:=cn Fi jt
def Fr:FT:=⟨⟨[.d u0],[]⟩,⟨agm,[.rows 157 M dt,.rows 4 M .bool,.rows 159 M gF,.rows 2 M aM,.rows 2 M aM,.cells 205 [.d eI,.d aM,.row 6,.row 7,.d aM,.d eI],.rows 2 M aM,.rows 58 M (.sl aM)]⟩,dL [(8,(.u 4))]⟩
def Rf:cr:=cn Fr ne
def Fh:FT:=⟨⟨LB,[]⟩,⟨LC,[]⟩,dL [(27,(.s 5 0 1 1)),(37,(.j ⟨[],[3,4,5,6,7,9,14,15,16],⟨LH,ahd⟩,[]⟩)),(38,(.j ⟨[16,77],[3,4,5,6,7,9,14,15,78],⟨MU,ahd⟩,[]⟩)),(83,(.j ⟨[16],[3,4,5,6,7,9,14],⟨LF,[.cells 150 [.d ua],.cells 145 XS,.cells 186 [.d im],.cells 145 uZ,.cells 60 uk,.cells 60 [.d gG],.cells 205 Ka,.rows 2 M aM,.rows 2 M aM,.cells 205 [.d eI,.d aM,.row 10,.row 11,.d aM,.d eI],.rows 2 M aM,.rows 58 M (.sl aM)]⟩,[]⟩)),(84,(.j ⟨[16],[3,4,5,6,7,9,14,15,154],⟨MU,ahd⟩,[]⟩)),(95,(.j ⟨[],[4,5,6,7,9,14],⟨LD,ah4⟩,[]⟩)),(96,(.j ⟨[],[3,4,5,6,7,9,14,183],⟨LG,[.cells 150 [.d ua],.cells 145 XS,.cells 186 [.d im],.cells 145 uZ,.cells 60 uk,.cells 60 [.d gG],.cells 205 Kb,.rows 2 M aM,.rows 2 M aM,.cells 205 [.d eI,.d aM,.d (.sl aM),.d kM,.d aM,.d eI]]⟩,[]⟩)),(102,(.s 5 0 1 1)),(104,(.a [.pk 4 6 eI]))]⟩
def Q5:cr:=cn Fh iD
def Fq:FT:=⟨⟨[.d u0],[]⟩,⟨agm,[.rows 157 M dt,.rows 4 M .bool,.rows 159 M gF,.rows 2 M aM,.rows 2 M aM,.cells 205 [.d eI,.d eI,.d aM,.row 6,.row 7,.d aM],.rows 2 M aM,.rows 58 M (.sl aM)]⟩,dL [(8,(.u 4))]⟩
def Re:cr:=cn Fq m_
def Fg:FT:=⟨⟨LB,[]⟩,⟨LC,[]⟩,dL [(27,(.s 5 0 2 1)),(37,(.j ⟨[],[3,4,5,6,7,9,14,15,16],⟨LH,ahc⟩,[]⟩)),(38,(.j ⟨[16,77],[3,4,5,6,7,9,14,15,78],⟨MU,ahc⟩,[]⟩)),(83,(.j ⟨[16],[3,4,5,6,7,9,14],⟨LF,[.cells 150 [.d ua],.cells 145 XS,.cells 186 [.d im],.cells 145 uZ,.cells 60 uk,.cells 60 [.d gG],.cells 205 Ka,.rows 2 M aM,.rows 2 M aM,.cells 205 [.d eI,.d eI,.d aM,.row 10,.row 11,.d aM],.rows 2 M aM,.rows 58 M (.sl aM)]⟩,[]⟩)),(84,(.j ⟨[16],[3,4,5,6,7,9,14,15,154],⟨MU,ahc⟩,[]⟩)),(95,(.j ⟨[],[4,5,6,7,9,14],⟨LD,ah4⟩,[]⟩)),(96,(.j ⟨[],[3,4,5,6,7,9,14,183],⟨LG,[.cells 150 [.d ua],.cells 145 XS,.cells 186 [.d im],.cells 145 uZ,.cells 60 uk,.cells 60 [.d gG],.cells 205 Kb,.rows 2 M aM,.rows 2 M aM,.cells 205 [.d eI,.d eI,.d aM,.d (.sl aM),.d kM,.d aM]]⟩,[]⟩)),(102,(.s 5 0 2 1)),(104,(.a [.pk 4 6 eI]))]⟩
def Q4:cr:=cn Fg gU
def Fp:FT:=⟨⟨[.d u0],[]⟩,⟨adr,[.rows 157 M dt,.rows 4 M .bool,.rows 159 M gF,.rows 2 M aM,.rows 2 M aM,.cells 205 [.d aM,.row 6,.row 7,.d aM,.d eI,.d eI,.d eI],.rows 2 M aM,.rows 58 M (.sl aM)]⟩,dL [(8,(.u 5))]⟩
def Rd:cr:=cn Fp m8
def dB:FT:=⟨⟨LB,[]⟩,⟨LC,[]⟩,dL [(27,(.s 5 0 0 1)),(37,(.j ⟨[],[3,4,5,6,7,9,14,15,16],⟨LH,ah8⟩,[]⟩)),(38,(.j ⟨[16,77],[3,4,5,6,7,9,14,15,78],⟨MU,ah8⟩,[]⟩)),(83,(.j ⟨[16],[3,4,5,6,7,9,14],⟨LF,[.cells 150 [.d ua],.cells 145 RY,.cells 186 [.d im],.cells 145 uZ,.cells 60 uk,.cells 60 [.d gG],.cells 205 Ka,.rows 2 M aM,.rows 2 M aM,.cells 205 [.d aM,.row 10,.row 11,.d aM,.d eI,.d eI,.d eI],.rows 2 M aM,.rows 58 M (.sl aM)]⟩,[]⟩)),(84,(.j ⟨[16],[3,4,5,6,7,9,14,15,154],⟨MU,ah8⟩,[]⟩)),(95,(.j ⟨[],[4,5,6,7,9,14],⟨LD,adu⟩,[]⟩)),(96,(.j ⟨[],[3,4,5,6,7,9,14,183],⟨LG,[.cells 150 [.d ua],.cells 145 RY,.cells 186 [.d im],.cells 145 uZ,.cells 60 uk,.cells 60 [.d gG],.cells 205 Kb,.rows 2 M aM,.rows 2 M aM,.cells 205 [.d aM,.d (.sl aM),.d kM,.d aM,.d eI,.d eI,.d eI]]⟩,[]⟩)),(102,(.s 5 0 0 1)),(104,(.a [.pk 4 6 eI]))]⟩
def Q3:cr:=cn dB mY
def Fo:FT:=⟨⟨[.d u0],[]⟩,⟨adr,[.rows 157 M dt,.rows 4 M .bool,.rows 159 M gF,.rows 2 M aM,.rows 2 M aM,.cells 205 [.d eI,.d aM,.row 6,.row 7,.d aM,.d eI,.d eI],.rows 2 M aM,.rows 58 M (.sl aM)]⟩,dL [(8,(.u 5))]⟩
def Rc:cr:=cn Fo m7
def Ff:FT:=⟨⟨LB,[]⟩,⟨LC,[]⟩,dL [(27,(.s 5 0 1 1)),(37,(.j ⟨[],[3,4,5,6,7,9,14,15,16],⟨LH,ah7⟩,[]⟩)),(38,(.j ⟨[16,77],[3,4,5,6,7,9,14,15,78],⟨MU,ah7⟩,[]⟩)),(83,(.j ⟨[16],[3,4,5,6,7,9,14],⟨LF,[.cells 150 [.d ua],.cells 145 RY,.cells 186 [.d im],.cells 145 uZ,.cells 60 uk,.cells 60 [.d gG],.cells 205 Ka,.rows 2 M aM,.rows 2 M aM,.cells 205 [.d eI,.d aM,.row 10,.row 11,.d aM,.d eI,.d eI],.rows 2 M aM,.rows 58 M (.sl aM)]⟩,[]⟩)),(84,(.j ⟨[16],[3,4,5,6,7,9,14,15,154],⟨MU,ah7⟩,[]⟩)),(95,(.j ⟨[],[4,5,6,7,9,14],⟨LD,adu⟩,[]⟩)),(96,(.j ⟨[],[3,4,5,6,7,9,14,183],⟨LG,[.cells 150 [.d ua],.cells 145 RY,.cells 186 [.d im],.cells 145 uZ,.cells 60 uk,.cells 60 [.d gG],.cells 205 Kb,.rows 2 M aM,.rows 2 M aM,.cells 205 [.d eI,.d aM,.d (.sl aM),.d kM,.d aM,.d eI,.d eI]]⟩,[]⟩)),(102,(.s 5 0 1 1)),(104,(.a [.pk 4 6 eI]))]⟩
def Q2:cr:=cn Ff mX
def Fn:FT:=⟨⟨[.d u0],[]⟩,⟨adr,[.rows 157 M dt,.rows 4 M .bool,.rows 159 M gF,.rows 2 M aM,.rows 2 M aM,.cells 205 [.d eI,.d eI,.d aM,.row 6,.row 7,.d aM,.d eI],.rows 2 M aM,.rows 58 M (.sl aM)]⟩,dL [(8,(.u 5))]⟩
def Rb:cr:=cn Fn m6
def Fe:FT:=⟨⟨LB,[]⟩,⟨LC,[]⟩,dL [(27,(.s 5 0 2 1)),(37,(.j ⟨[],[3,4,5,6,7,9,14,15,16],⟨LH,ah6⟩,[]⟩)),(38,(.j ⟨[16,77],[3,4,5,6,7,9,14,15,78],⟨MU,ah6⟩,[]⟩)),(83,(.j ⟨[16],[3,4,5,6,7,9,14],⟨LF,[.cells 150 [.d ua],.cells 145 RY,.cells 186 [.d im],.cells 145 uZ,.cells 60 uk,.cells 60 [.d gG],.cells 205 Ka,.rows 2 M aM,.rows 2 M aM,.cells 205 [.d eI,.d eI,.d aM,.row 10,.row 11,.d aM,.d eI],.rows 2 M aM,.rows 58 M (.sl aM)]⟩,[]⟩)),(84,(.j ⟨[16],[3,4,5,6,7,9,14,15,154],⟨MU,ah6⟩,[]⟩)),(95,(.j ⟨[],[4,5,6,7,9,14],⟨LD,adu⟩,[]⟩)),(96,(.j ⟨[],[3,4,5,6,7,9,14,183],⟨LG,[.cells 150 [.d ua],.cells 145 RY,.cells 186 [.d im],.cells 145 uZ,.cells 60 uk,.cells 60 [.d gG],.cells 205 Kb,.rows 2 M aM,.rows 2 M aM,.cells 205 [.d eI,.d eI,.d aM,.d (.sl aM),.d kM,.d aM,.d eI]]⟩,[]⟩)),(102,(.s 5 0 2 1)),(104,(.a [.pk 4 6 eI]))]⟩
def Q1:cr:=cn Fe lx
def Fm:FT:=⟨⟨[.d u0],[]⟩,⟨adr,[.rows 157 M dt,.rows 4 M .bool,.rows 159 M gF,.rows 2 M aM,.rows 2 M aM,.cells 205 [.d eI,.d eI,.d eI,.d aM,.row 6,.row 7,.d aM],.rows 2 M aM,.rows 58 M (.sl aM)]⟩,dL [(8,(.u 5))]⟩
def Ra:cr:=cn Fm mZ
def Fd:FT:=⟨⟨LB,[]⟩,⟨LC,[]⟩,dL [(27,(.s 5 0 3 1)),(37,(.j ⟨[],[3,4,5,6,7,9,14,15,16],⟨LH,ah5⟩,[]⟩)),(38,(.j ⟨[16,77],[3,4,5,6,7,9,14,15,78],⟨MU,ah5⟩,[]⟩)),(83,(.j ⟨[16],[3,4,5,6,7,9,14],⟨LF,[.cells 150 [.d ua],.cells 145 RY,.cells 186 [.d im],.cells 145 uZ,.cells 60 uk,.cells 60 [.d gG],.cells 205 Ka,.rows 2 M aM,.rows 2 M aM,.cells 205 [.d eI,.d eI,.d eI,.d aM,.row 10,.row 11,.d aM],.rows 2 M aM,.rows 58 M (.sl aM)]⟩,[]⟩)),(84,(.j ⟨[16],[3,4,5,6,7,9,14,15,154],⟨MU,ah5⟩,[]⟩)),(95,(.j ⟨[],[4,5,6,7,9,14],⟨LD,adu⟩,[]⟩)),(96,(.j ⟨[],[3,4,5,6,7,9,14,183],⟨LG,[.cells 150 [.d ua],.cells 145 RY,.cells 186 [.d im],.cells 145 uZ,.cells 60 uk,.cells 60 [.d gG],.cells 205 Kb,.rows 2 M aM,.rows 2 M aM,.cells 205 [.d eI,.d eI,.d eI,.d aM,.d (.sl aM),.d kM,.d aM]]⟩,[]⟩)),(102,(.s 5 0 3 1)),(104,(.a [.pk 4 6 eI]))]⟩
def Q0:cr:=cn Fd kj
def W4:cr:=cn dB zm
def Ms:FT:=⟨⟨[.d ua,.d u0,.nil,.d (.sl im)],[]⟩,⟨[.d (.sl gG),.d u0],[]⟩,dL [(1,(.a [.nil 2 60 gG])),(6,(.j ⟨[3],[2,4,5,9,10],⟨[.row 0,.ptr 1 0,.ptr 2 0,.ptr 3 0,.d aM],agv⟩,[]⟩)),(8,(.j ⟨[3,10],[2,4,5,9,22],⟨[.row 0,.ptr 1 0,.ptr 2 0,.ptr 3 0,.d .bool],agv⟩,[]⟩)),(14,(.j ⟨[3,10],[2,4,5,9],⟨[.row 0,.ptr 1 0,.ptr 2 0,.ptr 3 0],agv⟩,[]⟩))]⟩
def W2:cr:=cn Ms vp
def QJ:FT:=⟨⟨[.d ua,.d (.sl im)],[]⟩,⟨[.d Ka24,.d u0],[]⟩,.leaf⟩
def ZH:cr:=cn QJ yh
def xE:FT:=⟨⟨vZ,RW⟩,⟨[.d aM],RW⟩,dL [(3,(.j ⟨[1],[0,18],⟨gX,XP⟩,[]⟩))]⟩
def GI:cr:=cn xE bC
def MA:FT:=⟨⟨[.d aM],[]⟩,⟨[.d .ex],[]⟩,.leaf⟩
def Xc:cr:=cn MA qZ
def Jn:FT:=⟨⟨[.d .str],[]⟩,⟨[.d .ex],[]⟩,.leaf⟩
def Uo:cr:=cn Jn pw
def CK:FT:=⟨⟨[.d aM,.d .ex,.d .ex],[]⟩,⟨[.d .ex],[]⟩,.leaf⟩
def On:cr:=cn CK nJ
def CM:FT:=⟨⟨[.d .str,.d .ex],[]⟩,⟨[.d .sm],[]⟩,.leaf⟩
def Oo:cr:=cn CM jq
def FG:FT:=⟨⟨[],[]⟩,⟨[.d (.sl FP)],[]⟩,.leaf⟩
def Rx:cr:=cn FG r4
def As:FT:=⟨⟨[.d C'],[]⟩,⟨[.d (.sl im)],[]⟩,dL [(8,(.j ⟨[0],[3,4],⟨[.row 0,.d aM],[.rows 186 M im]⟩,[.nil 3 186 im]⟩))]⟩
def Lu:cr:=cn As oC
def nW:FT:=⟨⟨vZ,UQ⟩,⟨[.d .ex],UQ⟩,dL [(8,(.j ⟨[1,6],[0,4,5,14],⟨[.ptr 0 0,.ptr 3 0,.row 4,.d .bool],[.cells 222 af3,.cells 140 [.d xQ],.rowsP 9 .str,.cells 226 [.d aM,.d aM,.d .str,.nil],.rows 9 aa .str]⟩,[]⟩))]⟩
def Ei:cr:=cn nW eZ
def DB (n:Nat):cr:=cn nW (ik n)
def uK:FT:=⟨⟨[.ptr 0 0,.d .str],UQ⟩,⟨[.d .bool],UQ⟩,.leaf⟩
def CZ:cr:=cn uK eC
def mJ:FT:=⟨⟨RZ,UQ⟩,⟨[.row 4],[.cells 222 agt,.cells 140 OK,.gone,.rowsP 9 .str,.rows 228 M .sm]⟩,dL [(1,(.a [.ren 0 7])),(8,(.j ⟨[1,2],[0,7,8],⟨[.ptr 0 0,.row 3,.d aM],ajx⟩,[.nil 7 228 .sm]⟩)),(10,(.j ⟨[1,2,8],[0,7,22],⟨[.ptr 0 0,.row 3,.d .bool],ajx⟩,[]⟩)),(21,(.a [.nil 6 228 .sm]))]⟩
def CY:cr:=cn mJ qj
def B2 (n:Nat):cr:=cn mJ (dD n)
def rk:FT:=⟨⟨vZ,UQ⟩,⟨[.d .sm],[.cells 222 agt,.cells 140 OK,.gone,.rowsP 9 .str]⟩,dL [(1,(.a [.ren 0 7])),(6,(.j ⟨[1,5],[0,4,6],⟨J_,La2⟩,[]⟩)),(28,(.j ⟨[1,5,6],[0,4,74],⟨J_,La2⟩,[]⟩)),(33,(.j ⟨[],[4,7],⟨[.ptr 3 0,.ptr 4 0],[.cells 222 [.ptr 1 0,.d aM,.d aM,.d .bool,.d .bool,.d .bool,.d .bool,.row 5],.cells 140 [.d xQ],.gone,.cells 228 af6,.cells 228 [.d aM,.d aM,.d .str,.d .str,.nil,.d aM,.d aM,.d .str,.d (.sl .ex),.row 6,.row 7],.rowsP 9 .str,.rows 228 M .sm,.rows 228 M .sm]⟩,[.cel 7 10 228 .sm]⟩)),(42,(.j ⟨[1,5,6],[0,4,100],⟨J_,La2⟩,[]⟩)),(56,(.j ⟨[1,5,6],[0,4,133],⟨J_,La2⟩,[]⟩)),(64,(.j ⟨[1,5,6],[0,4,165],⟨J_,La2⟩,[]⟩)),(70,(.j ⟨[1,5,6],[0,4,188],⟨J_,La2⟩,[]⟩)),(82,(.j ⟨[1,5,6],[0,4,210],⟨J_,La2⟩,[]⟩)),(94,(.j ⟨[5,6],[0,4,235],⟨J_,La2⟩,[]⟩)),(100,(.j ⟨[5],[0,4,258],⟨J_,La2⟩,[]⟩)),(106,(.j ⟨[5],[0,4,278],⟨J_,La2⟩,[]⟩)),(114,(.j ⟨[],[0,4,308],⟨J_,La2⟩,[]⟩))]⟩
def DA (n:Nat):cr:=cn rk (em n)
def qA:FT:=⟨⟨[.ptr 0 0,.d .str,.d aM],UQ⟩,⟨[.d (.sl .sm)],[.cells 222 agt,.cells 140 OK,.gone,.rowsP 9 .str]⟩,.leaf⟩
def B3 (n:Nat):cr:=cn qA (dT n)
def Ar:FT:=⟨⟨[.d C'],[]⟩,⟨[.d MV],[]⟩,dL [(5,(.a [.cel 3 7 9 .str])),(14,(.j ⟨[5],[2,3,4,6,7],⟨[.ptr 0 0,.ptr 1 0,.ptr 2 0,.row 3,.d aM],[.cells 183 [.nil,.nil],.cells 222 [.ptr 4 0,.d aM,.d aM,.d .bool,.d .bool,.d .bool,.d .bool,.row 5],.cells 183 [.d (.sl FP),.row 6],.rows 9 aa .str,.cells 140 [.d xQ],.rowsP 9 .str,.rows 212 M sB]⟩,[.cel 4 1 212 sB]⟩)),(27,(.j ⟨[5,7],[2,3,4,6,8],⟨[.ptr 0 0,.ptr 1 0,.ptr 2 0,.row 3,.ptr 4 0],La7⟩,[.cel 8 3 228 .sm]⟩)),(34,(.j ⟨[5,7],[2,3,4,6,8,9],⟨[.ptr 0 0,.ptr 1 0,.ptr 2 0,.row 3,.ptr 4 0,.d aM],La7⟩,[.cel 8 3 228 .sm]⟩)),(48,(.j ⟨[5,7],[2,3,4,6,8],⟨[.ptr 0 0,.ptr 1 0,.ptr 2 0,.row 3,.ptr 4 0],La7⟩,[]⟩)),(49,(.j ⟨[5,7],[2,3,4,6,8,79],⟨[.ptr 0 0,.ptr 1 0,.ptr 2 0,.row 3,.ptr 4 0,.d .bool],La7⟩,[]⟩))]⟩
def Lt:cr:=cn Ar oB
def Jo:FT:=⟨⟨[.d C'],[]⟩,⟨[.d ua],[]⟩,.leaf⟩
def Up:cr:=cn Jo wx
def FH:FT:=⟨⟨[.d C',.d C'],[]⟩,⟨[.d Ka24],[]⟩,.leaf⟩
def Ry:cr:=cn FH r7
def Cv:FT:=⟨⟨[],[]⟩,⟨[.d mO],[]⟩,dL [(8,(.j ⟨[21],[0,1,22],⟨s5,adt⟩,[.cel 1 5 106 og]⟩)),(22,(.j ⟨[2,21,22],[0,1,3],⟨s5,adt⟩,[]⟩))]⟩
def N9:cr:=cn Cv nD
def yJ:FT:=⟨⟨[.d iM],[]⟩,⟨qC,[]⟩,dL [(8,(.j ⟨[8,9],[3,10],⟨[.row 0,.d aM],[.rows 3 M aM]⟩,[.nil 3 3 aM]⟩)),(16,(.j ⟨[8,9,10],[3],⟨[.row 0],[.rows 3 M aM]⟩,[]⟩))]⟩
def Jy:cr:=cn yJ kW
def Ct:FT:=⟨⟨[],[]⟩,⟨qC,[]⟩,.leaf⟩
def N7:cr:=cn Ct sS
def Ag:FT:=⟨⟨RZ,RW⟩,⟨[.d aM],RW⟩,dL [(6,(.j ⟨[2,7],[0,8],⟨gX,XP⟩,[]⟩)),(16,(.j ⟨[2,7],[0,16],⟨gX,XP⟩,[]⟩)),(26,(.j ⟨[2,7],[0,21],⟨gX,XP⟩,[]⟩)),(44,(.j ⟨[2,7],[0,26],⟨gX,XP⟩,[]⟩)),(70,(.j ⟨[2],[0,33],⟨gX,XP⟩,[]⟩))]⟩
def Lf:cr:=cn Ag ov
def Cr:FT:=⟨⟨[.ptr 0 0,.d iM,.d aM,.d aM],RW⟩,⟨[.d aM],RW⟩,dL [(18,(.j ⟨[10],[0,5,24],⟨ru,[.cells 140 [.d xQ],.cells 87 [.d iM]]⟩,[]⟩))]⟩
def N6:cr:=cn Cr qb
def Fa:FT:=⟨⟨[.ptr 0 0,.row 1],[.cells 140 OK,.rows 3 M aM]⟩,⟨qC,[.cells 140 OK,.rows 3 M aM]⟩,dL [(8,(.j ⟨[9],[0,1,5,8,10],⟨[.ptr 0 0,.row 1,.row 2,.row 1,.d aM],ago⟩,[.nil 5 3 aM]⟩)),(16,(.j ⟨[9,10],[0,1,5,8],⟨[.ptr 0 0,.row 1,.row 2,.row 1],ago⟩,[]⟩)),(19,(.j ⟨[7,9,10],[0,1,5,8,24],⟨[.ptr 0 0,.row 1,.row 2,.row 1,.d .bool],ago⟩,[]⟩))]⟩
def QX:cr:=cn Fa gx
def Cu:FT:=⟨⟨[.ptr 0 0,.d iM,.d mO,.csl 1 1 4],ajv⟩,⟨[.d gG],ajv⟩,dL [(8,(.j ⟨[9],[0,3,5,6,8,11],⟨[.ptr 0 0,.csl 1 1 4,.ptr 6 0,.ptr 7 0,.ptr 8 0,.ptr 9 0],ak1⟩,[]⟩)),(9,(.j ⟨[9],[0,3,5,6,8,11,36],⟨[.ptr 0 0,.csl 1 1 4,.ptr 6 0,.ptr 7 0,.ptr 8 0,.ptr 9 0,.d .bool],ak1⟩,[]⟩)),(18,(.j ⟨[9],[0,3,8,11],⟨[.ptr 0 0,.csl 1 1 4,.ptr 6 0,.ptr 7 0],ak2⟩,[]⟩)),(19,(.j ⟨[9],[0,3,8,11,74],⟨[.ptr 0 0,.csl 1 1 4,.ptr 6 0,.ptr 7 0,.d .bool],[.cells 140 [.d xQ],.cells 58 aae,.rows 3 M aM,.rows 3 M aM,.rows 3 M aM,.rows 3 M aM,.cells 60 uk,.cells 60 uk]⟩,[]⟩)),(22,(.s 9 0 0 4)),(24,(.j ⟨[],[8,11],⟨[.ptr 6 0,.ptr 7 0],[.cells 140 [.d xQ],.cells 58 aae,.rows 3 M aM,.rows 3 M aM,.rows 3 M aM,.rows 3 M aM,.cells 60 uk,.cells 60 [.d aM,.d aM,.d aM,.d aM,.d aM,.d (.sl aM),.d (.sl aM)]]⟩,[]⟩)),(25,(.j ⟨[9],[0,3,8,11,89],⟨[.ptr 0 0,.csl 1 1 4,.ptr 6 0,.ptr 7 0,.d .bool],ak2⟩,[]⟩)),(28,(.s 9 0 0 4))]⟩
def N8:cr:=cn Cu qc
def Fb:FT:=⟨⟨[.ptr 0 0,.d iM,.d mO,.d aM,.d .bool],RW⟩,⟨[.d (.sl gG)],RW⟩,dL [(8,(.a [.cel 12 0 3 aM,.cel 12 1 3 aM,.cel 12 2 3 aM,.cel 12 3 3 aM])),(9,(.j ⟨[3,11],[0,6,7,12],⟨[.ptr 0 0,.ptr 1 0,.ptr 2 0,.csl 3 1 4],ah1⟩,[]⟩)),(10,(.u 5)),(18,(.j ⟨[3,4,11,22,23],[0,6,7,12],⟨[.ptr 0 0,.ptr 1 0,.ptr 2 0,.csl 3 1 4],ah1⟩,[]⟩)),(21,(.j ⟨[3,4,11,13,22,23],[0,6,7,12,39],⟨[.ptr 0 0,.ptr 1 0,.ptr 2 0,.csl 3 1 4,.d .bool],ah1⟩,[]⟩)),(29,(.j ⟨[3],[0,6,7,11,12],⟨[.ptr 0 0,.ptr 1 0,.ptr 2 0,.row 3,.csl 4 1 4],ah2⟩,[.nil 11 60 gG]⟩)),(31,(.j ⟨[3],[0,6,7,11,12,65],⟨[.ptr 0 0,.ptr 1 0,.ptr 2 0,.row 3,.csl 4 1 4,.d .bool],ah2⟩,[]⟩)),(36,(.j ⟨[3],[0,6,7,11,12],⟨[.ptr 0 0,.ptr 1 0,.ptr 2 0,.row 3,.csl 4 1 4],ah2⟩,[]⟩)),(47,(.j ⟨[3],[0,6,7,11,12,14,15],⟨[.ptr 0 0,.ptr 1 0,.ptr 2 0,.row 3,.csl 4 1 4,.ptr 5 0,.ptr 6 0],ak3⟩,[]⟩)),(48,(.j ⟨[3],[0,6,7,11,12,14,15,87],⟨[.ptr 0 0,.ptr 1 0,.ptr 2 0,.row 3,.csl 4 1 4,.ptr 5 0,.ptr 6 0,.d .bool],ak3⟩,[]⟩)),(51,(.s 14 0 0 4))]⟩
def QY:cr:=cn Fb rV
def Cw:FT:=⟨⟨OK,[]⟩,⟨[.d Ka24],[]⟩,dL [(2,(.j ⟨[1],[0,4],⟨[.d C',.ptr 0 0],[.cells 31 XR]⟩,[]⟩)),(22,(.j ⟨[1,9],[4,5,6,7,8,10],⟨[.ptr 0 0,.ptr 1 0,.ptr 2 0,.ptr 3 0,.row 4,.d aM],[.cells 31 XR,.cells 140 [.d xQ],.cells 31 [.d (.sl kG),.d (.sl qK),.d (.sl lZ),.d (.sl .str),.d (.sl .str),.d (.sl og),.nil],.cells 87 [.d iM],.rows 60 aa gG]⟩,[]⟩)),(37,(.j ⟨[1,48],[4,5,6,7,47,49],⟨[.ptr 0 0,.ptr 1 0,.ptr 2 0,.ptr 3 0,.row 4,.d aM],ak4⟩,[.cel 6 6 60 gG]⟩)),(45,(.j ⟨[1,48,49],[4,5,6,7,47],⟨[.ptr 0 0,.ptr 1 0,.ptr 2 0,.ptr 3 0,.row 4],ak4⟩,[]⟩))]⟩
def N_:cr:=cn Cw qd
def vO:FT:=⟨⟨[.d (.st (.pr C' (.pr C' C'))),.d aM],[]⟩,⟨[.d Ka24],[]⟩,.leaf⟩
def Ec:cr:=cn vO kX
theorem KZ:aI Pg 106 Ln:=mk Am oA an b9
theorem Iu:aI Pg 75 JE:=mk yL jH (ac KZ an) b9
theorem E3:aI Pg 74 Rs:=mk FE lA an b9
theorem Tw:aI Pg 107 Ul:=mk Jm tI an b9
theorem Tv:aI Pg 76 Uk:=mk Jl pu (ac E3 (ac Tw an)) b9
theorem r9:aI Pg 49 Rt:=mk FF fh (ac E3 (ac Iu (ac Tv an))) b9
theorem It:aI Pg 213 Uc:=mk Jg fG an b9
theorem To:aI Pg 202 Ud:=mk Jh tG (ac It an) b9
theorem Qg:aI Pg 204 Ro:=mk FA rX (ac It an) b9
theorem Tp:aI Pg 201 Ue:=mk Ji qV an b9
theorem KY:aI Pg 219 Lm:=mk Al oz an b9
theorem vF:∀n:Nat,aI Pg 214 (F2 n)
 |0=>L5 o_
 |n+1=>mk o_ (o6 (je n)) (ac r9 (ac (vF n) (ac KY an))) b9
theorem xj:aI Pg 214 Gt:=(vF fuel)
theorem Tu:aI Pg 215 Uj:=mk Jk qW an b9
theorem ri:∀n:Nat,aI Pg 205 (F1 n)/\aI Pg 181 (Dz n)
 |0=>⟨L5 sx,L5 nV⟩
 |n+1=>⟨mk sx (oZ (gW n) (fA n)) (ac r9 (ac (ri n).2 (ac xj (ac Tu an)))) b9,mk nV (nQ (gW n) (fA n)) (ac (ri n).1 an) b9⟩
theorem DP:aI Pg 181 Ef:=(ri fuel).2
theorem F7:aI Pg 180 Gs:=mk xr mb (ac r9 an) b9
theorem Qi:aI Pg 152 Rr:=mk FD rZ (ac r9 (ac F7 (ac DP an))) b9
theorem uD:aI Pg 50 acw:=mk VF jU an b9
theorem uC:aI Pg 182 Rq:=mk FC iF an b9
theorem uV:aI Pg 183 Ll:=mk Ak iy an b9
theorem Qh:aI Pg 216 Rp:=mk FB rY (ac uD (ac uC (ac uV an))) b9
theorem Md:aI Pg 208 W9:=mk My gQ (ac Qh an) b9
theorem E6:∀n:Nat,aI Pg 217 (S_ n)
 |0=>L5 wQ
 |n+1=>mk wQ (wD (pA n)) (ac (E6 n) an) b9
theorem Ts:aI Pg 217 Uh:=(E6 fuel)
theorem E5:∀n:Nat,aI Pg 218 (S9 n)
 |0=>L5 wP
 |n+1=>mk wP (wC (pz n)) (ac Md (ac (E5 n) an)) b9
theorem Tq:aI Pg 218 Uf:=(E5 fuel)
theorem WG:aI Pg 209 W_:=mk Mz nI (ac xj (ac Ts (ac Tq an))) b9
theorem NP:aI Pg 210 Oi:=mk CH dg an b9
theorem acb:aI Pg 207 acv:=mk VD jp an b9
theorem DO:aI Pg 206 Ee:=mk vQ ej an b9
theorem KW:aI Pg 184 Lj:=mk Aj oy (ac uD (ac uC (ac uV (ac DO (ac acb (ac Md (ac WG (ac NP an)))))))) b9
theorem yw:∀n:Nat,aI Pg 156 (KM n)
 |0=>L5 rO
 |n+1=>mk rO (rK (mm n)) (ac (yw n) (ac KW an)) b9
theorem KX:aI Pg 156 Lk:=(yw fuel)
theorem E7:∀n:Nat,aI Pg 155 (Ta n)
 |0=>L5 wR
 |n+1=>mk wR (wE (pB n)) (ac (E7 n) an) b9
theorem Tt:aI Pg 155 Ui:=(E7 fuel)
theorem Tr:aI Pg 153 Ug:=mk Jj tH (ac uC an) b9
theorem NO:aI Pg 154 Oh:=mk CG qi (ac uD (ac uC (ac uV an))) b9
theorem wA:aI Pg 128 Oj:=mk CI kl (ac Qi (ac Tr (ac NO (ac Tt (ac KX an))))) b9
theorem E4:∀n:Nat,aI Pg 158 (S8 n)
 |0=>L5 wO
 |n+1=>mk wO (wB (py n)) (ac (E4 n) an) b9
theorem Ti:aI Pg 158 T7:=(E4 fuel)
theorem EZ:aI Pg 157 Rl:=mk Fx ly an b9
theorem E2:aI Pg 211 Rn:=mk Fz lz an b9
theorem Tn:aI Pg 129 Ua:=mk Je tF (ac wA (ac EZ (ac Ti an))) b9
theorem Tj:aI Pg 48 T8:=mk Jb pq an b9
theorem xi:aI Pg 30 Gr:=mk xq gV (ac Tj (ac r9 (ac uD an))) b9
theorem tM:aI Pg 132 JD:=mk yK jG an b9
theorem E0:aI Pg 174 Rm:=mk Fy pG an b9
theorem Tk:aI Pg 147 T9:=mk Jc tC (ac E0 an) b9
theorem NK:aI Pg 148 acu:=mk VB jm an b9
theorem Tl:aI Pg 173 T_:=mk Jd qU (ac NK an) b9
theorem NJ:aI Pg 146 Oe:=mk CD qg (ac NK (ac Tl an)) b9
theorem DN:aI Pg 126 Ed:=mk vP kY (ac tM (ac NJ (ac Tk (ac NK an)))) b9
theorem Bd:aI Pg 101 Ub:=mk Jf pt (ac xi (ac DN an)) b9
theorem nO:aI Pg 131 Of:=mk CE cB an b9
theorem xl:∀n:Nat,aI Pg 189 (Ib n)
 |0=>L5 qx
 |n+1=>mk qx (qn (iH n)) (ac uD (ac nO (ac (xl n) (ac E2 an)))) b9
theorem tL:aI Pg 189 JB:=(xl fuel)
theorem F6:aI Pg 185 Gq:=mk xp ma (ac uD (ac nO (ac tL (ac E2 an)))) b9
theorem KV:aI Pg 188 Li:=mk Ai ju an b9
theorem j_:∀n:Nat,aI Pg 130 (Ic n)/\aI Pg 159 (KL n)/\aI Pg 186 (B1 n)/\aI Pg 187 (F0 n)
 |0=>⟨L5 qy,L5 uW,L5 qz,L5 sw⟩
 |n+1=>⟨mk qy (qo (dH n) (eD n) (c8 n) (dC n)) (ac (j_ n).2.1 an) b9,mk uW (rJ (dH n) (eD n) (c8 n) (dC n)) (ac uD (ac nO (ac EZ (ac F6 (ac (j_ n).2.2.1 (ac (j_ n).2.2.2 (ac KV (ac tL an)))))))) b9,mk qz (mE (dH n) (eD n) (c8 n) (dC n)) (ac (j_ n).1 (ac nO (ac tL an))) b9,mk sw (oY (dH n) (eD n) (c8 n) (dC n)) (ac (j_ n).1 (ac nO an)) b9⟩
theorem Is:aI Pg 130 JC:=(j_ fuel).1
theorem NL:aI Pg 104 Og:=mk CF qh (ac wA (ac Tn (ac Is (ac nO (ac tM an))))) b9
theorem Ir:aI Pg 80 ZJ:=mk QL ox an b9
theorem Zm:aI Pg 108 ZI:=mk QK vu an b9
theorem Iq:aI Pg 83 T6:=mk Ja qT (ac Zm an) b9
theorem KU:aI Pg 203 Lh:=mk Ah mj an b9
theorem k_:aI Pg 178 W8:=mk Mx ch an b9
theorem WF:aI Pg 179 W7:=mk Mw vr (ac Iq (ac tM (ac To (ac KU (ac Qg an))))) b9
theorem jx:aI Pg 151 Rk:=mk Fw nl (ac E0 (ac k_ (ac WF an))) b9
theorem Ip:aI Pg 51 T4:=mk I9 pn an b9
theorem DM:aI Pg 77 W5:=mk Mu nH an b9
theorem Vm:aI Pg 78 act:=mk Vz qf an b9
theorem Th:aI Pg 79 T3:=mk I8 pm (ac Vm an) b9
theorem B9:aI Pg 54 Od:=mk CC iw (ac DM (ac Vm (ac Th (ac Ir an)))) b9
theorem NI:aI Pg 81 Oc:=mk CA nG an b9
theorem NH:aI Pg 84 Ob:=mk Cz qe an b9
theorem k9:aI Pg 82 W6:=mk Mv ii an b9
theorem KQ:aI Pg 81 Lg:=mk mn mi an b9
theorem Io:aI Pg 81 JA:= @aI.ro Pg 81 mn.pre mn.post.vs mi jF (KQ.holds rfl) rfl (λx _ h=>by rw[show jF x=av (mi x) λy=>same y.2 x.2 (Z y.1) from rfl]at h;exact h)
theorem jJ:aI Pg 57 T5:=mk I_ po (ac B9 (ac Ir (ac Io (ac k9 (ac Iq (ac NH an)))))) b9
theorem Tg:aI Pg 103 T2:=mk I7 tB (ac Ip (ac Bd an)) b9
theorem WD:aI Pg 175 W3:=mk Mt vq (ac DM (ac Bd an)) b9
theorem WA:aI Pg 176 W1:=mk Mr vo an b9
theorem PQ:aI Pg 177 QZ:=mk Fc rW (ac Tp an) b9
theorem iA:aI Pg 149 Oa:=mk Cy nF (ac WD (ac WA (ac PQ an))) b9
theorem Im:aI Pg 31 TY:=mk I5 mV (ac Ip an) b9
theorem Wz:aI Pg 52 WZ:=mk Mq qS (ac DM an) b9
theorem aca:aI Pg 53 acs:=mk Vy BV an b9
theorem NG:aI Pg 55 N':=mk Cx ki an b9
theorem Te:aI Pg 56 TW:=mk I3 pl (ac Ir (ac NI an)) b9
theorem DL:aI Pg 32 WY:=mk Mp nE (ac Wz (ac aca (ac B9 (ac NG (ac Te (ac jJ an)))))) b9
theorem Tf:aI Pg 33 TX:=mk I4 mU an b9
theorem In:aI Pg 15 TZ:=mk I6 mW (ac xi (ac Im (ac DL (ac Tf an)))) b9
def LL (t:TypeId):J Ty:=if aw t 205 then Z (.pr .un eI) else b9 t
theorem Qf:aI Pg 150 Rj:=mk Fv nk (ac k9 (ac k_ an)) LL
theorem P4:aI Pg 127 Q_:=mk Fl fQ (ac jJ (ac iA (ac Qf (ac jx an)))) LL
theorem Qe:aI Pg 150 Ri:=mk Fu nj (ac k9 (ac k_ an)) LL
theorem P3:aI Pg 127 Q9:=mk Fk gy (ac jJ (ac iA (ac Qe (ac jx an)))) LL
theorem Qd:aI Pg 150 Rh:=mk Ft nh (ac k9 (ac k_ an)) LL
theorem P1:aI Pg 127 Q7:=mk Fj fP (ac jJ (ac iA (ac Qd (ac jx an)))) LL
theorem Qc:aI Pg 150 Rg:=mk Fs ng (ac k9 (ac k_ an)) LL
theorem P0:aI Pg 127 Q6:=mk Fi jt (ac jJ (ac iA (ac Qc (ac jx an)))) LL
theorem Qb:aI Pg 150 Rf:=mk Fr ne (ac k9 (ac k_ an)) LL
theorem PZ:aI Pg 127 Q5:=mk Fh iD (ac jJ (ac iA (ac Qb (ac jx an)))) LL
theorem Qa:aI Pg 150 Re:=mk Fq m_ (ac k9 (ac k_ an)) LL
theorem PY:aI Pg 127 Q4:=mk Fg gU (ac jJ (ac iA (ac Qa (ac jx an)))) LL
theorem P':aI Pg 150 Rd:=mk Fp m8 (ac k9 (ac k_ an)) LL
theorem PW:aI Pg 127 Q3:=mk dB mY (ac jJ (ac iA (ac P' (ac jx an)))) LL
theorem P_:aI Pg 150 Rc:=mk Fo m7 (ac k9 (ac k_ an)) LL
theorem PU:aI Pg 127 Q2:=mk Ff mX (ac jJ (ac iA (ac P_ (ac jx an)))) LL
theorem P9:aI Pg 150 Rb:=mk Fn m6 (ac k9 (ac k_ an)) LL
theorem PS:aI Pg 127 Q1:=mk Fe lx (ac jJ (ac iA (ac P9 (ac jx an)))) LL
theorem P5:aI Pg 150 Ra:=mk Fm mZ (ac k9 (ac k_ an)) LL
theorem PR:aI Pg 127 Q0:=mk Fd kj (ac jJ (ac iA (ac P5 (ac jx an)))) LL
theorem WE:aI Pg 127 W4:=(aI.orE (pre:=dB.pre) (post:=dB.post) (m:=mY) (m':=(λx=>orE (mX x) ((λx=>orE (lx x) ((λx=>orE (kj x) ((λx=>orE (jt x) ((λx=>orE (iD x) ((λx=>orE (gU x) ((λx=>orE (gy x) ((λx=>orE (fP x) (fQ x)) x)) x)) x)) x)) x)) x)) x))) rfl PW (aI.orE (pre:=dB.pre) (post:=dB.post) (m:=mX) (m':=(λx=>orE (lx x) ((λx=>orE (kj x) ((λx=>orE (jt x) ((λx=>orE (iD x) ((λx=>orE (gU x) ((λx=>orE (gy x) ((λx=>orE (fP x) (fQ x)) x)) x)) x)) x)) x)) x))) rfl PU (aI.orE (pre:=dB.pre) (post:=dB.post) (m:=lx) (m':=(λx=>orE (kj x) ((λx=>orE (jt x) ((λx=>orE (iD x) ((λx=>orE (gU x) ((λx=>orE (gy x) ((λx=>orE (fP x) (fQ x)) x)) x)) x)) x)) x))) rfl PS (aI.orE (pre:=dB.pre) (post:=dB.post) (m:=kj) (m':=(λx=>orE (jt x) ((λx=>orE (iD x) ((λx=>orE (gU x) ((λx=>orE (gy x) ((λx=>orE (fP x) (fQ x)) x)) x)) x)) x))) rfl PR (aI.orE (pre:=dB.pre) (post:=dB.post) (m:=jt) (m':=(λx=>orE (iD x) ((λx=>orE (gU x) ((λx=>orE (gy x) ((λx=>orE (fP x) (fQ x)) x)) x)) x))) rfl P0 (aI.orE (pre:=dB.pre) (post:=dB.post) (m:=iD) (m':=(λx=>orE (gU x) ((λx=>orE (gy x) ((λx=>orE (fP x) (fQ x)) x)) x))) rfl PZ (aI.orE (pre:=dB.pre) (post:=dB.post) (m:=gU) (m':=(λx=>orE (gy x) ((λx=>orE (fP x) (fQ x)) x))) rfl PY (aI.orE (pre:=dB.pre) (post:=dB.post) (m:=gy) (m':=(λx=>orE (fP x) (fQ x))) rfl P3 (aI.orE (pre:=dB.pre) (post:=dB.post) (m:=fP) (m':=fQ) rfl P1 P4)))))))))
theorem WC:aI Pg 102 W2:=mk Ms vp (ac WE an) b9
theorem Zl:aI Pg 70 ZH:=mk QJ yh (ac Bd (ac WC (ac Tg an))) b9
theorem fq:aI Pg 68 GI:=mk xE bC an b9
theorem DR:aI Pg 136 Xc:=mk MA qZ an b9
theorem Iy:aI Pg 192 Uo:=mk Jn pw an b9
theorem Cd:aI Pg 191 On:=mk CK nJ an b9
theorem Ce:aI Pg 135 Oo:=mk CM jq an b9
theorem Qk:aI Pg 133 Rx:=mk FG r4 an b9
theorem K6:aI Pg 72 Lu:=mk As oC an b9
theorem uE:∀n:Nat,aI Pg 190 (DB n)
 |0=>L5 nW
 |n+1=>mk nW (nS (ik n)) (ac fq (ac DR (ac (uE n) (ac Cd (ac Iy an))))) b9
theorem DS:aI Pg 190 Ei:=(uE fuel)
theorem Cc:aI Pg 193 CZ:=mk uK eC (ac uD an) b9
theorem jK:∀n:Nat,aI Pg 134 (B2 n)/\aI Pg 160 (DA n)/\aI Pg 194 (B3 n)
 |0=>⟨L5 mJ,L5 rk,L5 qA⟩
 |n+1=>⟨mk mJ (mG (dD n) (em n) (dT n)) (ac (jK n).2.1 an) b9,mk rk (nR (dD n) (em n) (dT n)) (ac fq (ac (jK n).1 (ac Ce (ac DR (ac DS (ac Cd (ac Iy (ac Cc (ac (jK n).2.2 an))))))))) b9,mk qA (mH (dD n) (em n) (dT n)) (ac fq (ac (jK n).1 an)) b9⟩
theorem Cb:aI Pg 134 CY:=(jK fuel).1
theorem K5:aI Pg 105 Lt:=mk Ar oB (ac fq (ac wA (ac Qk (ac Cb (ac Ce (ac DR an)))))) b9
theorem Tz:aI Pg 71 Up:=mk Jo wx (ac NL (ac K5 an)) b9
theorem Ql:aI Pg 38 Ry:=mk FH r7 (ac Zl (ac Tz (ac K6 an))) b9
theorem ND:aI Pg 19 N9:=mk Cv nD an b9
theorem Ij:aI Pg 145 Jy:=mk yJ kW an b9
theorem NA:aI Pg 122 N7:=mk Ct sS an b9
theorem KP:aI Pg 123 Lf:=mk Ag ov (ac fq an) b9
theorem Nz:aI Pg 124 N6:=mk Cr qb (ac fq (ac Ij an)) b9
theorem PN:aI Pg 125 QX:=mk Fa gx (ac fq an) b9
theorem NC:aI Pg 100 N8:=mk Cu qc (ac fq (ac NA (ac KP (ac Nz (ac PN an))))) b9
def tv1 (t:TypeId):J Ty:=if aw t 58 then Z (.pr .un (.pr .un (.pr .un (.pr .un (.pr .un (.sl aM)))))) else b9 t
theorem PO:aI Pg 69 QY:=mk Fb rV (ac DL (ac fq (ac NC an))) tv1
theorem NF:aI Pg 37 N_:=mk Cw qd (ac In (ac ND (ac Im (ac DL (ac fq (ac PO an)))))) b9
theorem DK:aI Pg 18 Ec:=mk vO kX (ac NF (ac Ql an)) b9
abbrev agl:Y PV:=[.row 1,.row 2,.row 3,.row 4,.row 5,.row 6,.d (.sl aM),.row 7,.row 8]
abbrev Ld0:Y PB:=[.cells 93 agl,.rows 58 aa (.sl aM),.rows 58 aa (.sl aM),.rows 58 aa (.sl aM),.rows 58 aa (.sl aM),.rows 58 aa (.sl aM),.rows 58 aa (.sl aM),.rows 58 aa (.sl aM),.rows 3 M aM,.rows 3 aa aM]
abbrev Ld9:Y PV:=[.d aM,.d aM,.d aM,.d aM,.d aM,.d (.sl aM),.d (.sl aM)]
abbrev adk:Y PV:=[.d (.sl kG),.d (.sl qK),.d (.sl lZ),.d (.sl .str),.d (.sl .str),.d (.sl og)]
abbrev Ld1:Y PB:=[.cells 60 Ld9,.cells 93 [.row 3,.row 4,.row 5,.row 6,.row 7,.row 8,.d (.sl aM),.row 9,.row 10],.cells 28 adk,.rows 58 aa (.sl aM),.rows 58 aa (.sl aM),.rows 58 aa (.sl aM),.rows 58 aa (.sl aM),.rows 58 aa (.sl aM),.rows 58 aa (.sl aM),.rows 58 aa (.sl aM),.rows 3 M aM]
abbrev Ld2:Y PB:=[.cells 93 agl,.rows 58 aa (.sl aM),.rows 58 aa (.sl aM),.rows 58 aa (.sl aM),.rows 58 aa (.sl aM),.rows 58 aa (.sl aM),.rows 58 aa (.sl aM),.rows 58 aa (.sl aM),.rows 3 M aM,.rows 3 aa aM,.cells 60 Ld9]
abbrev Ld3:Y PB:=[.rows 157 aa dt,.rows 4 M .bool,.rows 159 M gF,.cells 84 GR]
abbrev Ld4:Y PB:=[.rows 157 aa dt,.rows 4 M .bool,.rows 159 M gF]
abbrev Ld5:Y PB:=[.cells 28 [.d mO],.cells 84 [.csl 4 2 4,.d aM,.d mg,.d (.sl gF)],.cells 3 [.d aM],.cells 84 t8,.cells 157 [.d aM,.row 5,.d aM,.row 6,.d aM,.row 7,.d aM,.row 8],.rows 3 M aM,.rows 3 M aM,.rows 3 M aM,.rows 3 M aM]
abbrev Ld6:Y PB:=[.cells 87 [.d iM],.cells 60 [.d gG],.cells 189 [.d Kd1]]
abbrev Ld7:Y PB:=[.cells 28 [.d mO],.cells 84 [.csl 4 2 3,.d aM,.d mg,.d (.sl gF)],.cells 3 [.d aM],.cells 84 t8,.cells 157 [.d aM,.row 5,.d aM,.row 6,.d aM,.row 7],.rows 3 M aM,.rows 3 M aM,.rows 3 M aM]
abbrev V8:Y PB:=[.rows 3 M aM]
abbrev ajs:Y PB:=[.cells 28 [.d mO],.cells 84 [.csl 4 2 2,.d aM,.d mg,.d (.sl gF)],.cells 3 [.d aM],.cells 84 t8,.cells 157 [.d aM,.row 5,.d aM,.row 6],.rows 3 M aM,.rows 3 M aM]
abbrev aad:Y PV:=[.d mO,.d C_,.d aM,.d aM,.d aM,.d aM]
abbrev XN:Y PB:=[.rows 3 M aM,.cells 3 [.d aM]]
abbrev ajr:Y PB:=[.cells 28 [.d mO],.cells 84 [.row 4,.d aM,.row 5,.row 6],.cells 3 [.d aM],.cells 84 t8,.rows 157 aa dt,.rows 4 M .bool,.rows 159 M gF]
abbrev ajq:Y PB:=[.cells 28 [.d mO],.cells 84 [.csl 4 2 1,.d aM,.d mg,.d (.sl gF)],.cells 3 [.d aM],.cells 84 t8,.cells 157 [.d aM,.row 5],.rows 3 M aM]
abbrev OH:Y PB:=[.rows 3 aa aM]
abbrev ajp:Y PB:=[.cells 84 t8,.cells 84 [.row 2,.d aM,.row 3,.row 4],.rows 157 aa dt,.rows 4 aa .bool,.rows 159 aa gF]
abbrev aac:Y PB:=[.rows 58 aa (.sl aM)]
abbrev aab:Y PV:=[.d C_,.d aM,.d .bool]
abbrev RU:Y PV:=[.row 0,.d aM]
abbrev agk:Y PB:=[.rows 58 aa (.sl aM),.rows 3 aa aM]
abbrev XM:Y PB:=[.cells 60 [.d gG]]
abbrev agj:Y PV:=[.ptr 0 0,.ptr 1 0,.ptr 2 0]
def MG:FT:=⟨⟨LA,[]⟩,⟨[.d aM],[]⟩,dL [(3,(.j ⟨[0,1],[12],⟨[.d .bool],[]⟩,[]⟩))]⟩
def Xq:cr:=cn MG iS
def FJ:FT:=⟨⟨[.d (.sl aM),.d (.sl aM)],[]⟩,⟨qC,[]⟩,dL [(8,(.j ⟨[0,1,14],[5,15],⟨RU,OH⟩,[]⟩))]⟩
def RC:cr:=cn FJ jv
def VH:FT:=⟨⟨qC,[]⟩,⟨qC,[]⟩,.leaf⟩
def C2:cr:=cn VH Nu
def afv:cr:=⟨C2.pre,C2.post,wy⟩
def Jq:FT:=⟨⟨[.d kM],[]⟩,⟨[.row 0],aac⟩,dL [(8,(.j ⟨[9,10],[3,11],⟨RU,aac⟩,[]⟩))]⟩
def Ur:cr:=cn Jq ij
def QU:FT:=⟨⟨qC,[]⟩,⟨[.row 0],V8⟩,dL [(8,(.a [.nil 2 3 aM])),(12,(.a [.nil 2 3 aM]))]⟩
def yW:cr:=cn QU H7
def ad4:cr:=⟨yW.pre,yW.post,gg⟩
def Jr:FT:=⟨⟨[.d Kd0],[]⟩,⟨[.agg [.row 0,.row 1,.row 2,.row 3,.row 4,.row 5,.d (.sl aM),.row 6,.row 7]],[.rows 58 aa (.sl aM),.rows 58 aa (.sl aM),.rows 58 aa (.sl aM),.rows 58 aa (.sl aM),.rows 58 aa (.sl aM),.rows 58 aa (.sl aM),.rows 58 aa (.sl aM),.rows 3 M aM]⟩,.leaf⟩
def Us:cr:=cn Jr q_
def MB:FT:=⟨⟨RU,aac⟩,⟨qC,aac⟩,dL [(3,(.j ⟨[1],[0,12],⟨[.row 0,.d .bool],aac⟩,[]⟩))]⟩
def Xk:cr:=cn MB s_
def Js:FT:=⟨⟨agj,Ld1⟩,⟨[.d kM],Ld1⟩,dL [(18,(.j ⟨[6],[0,1,2,25],⟨C9,Ld1⟩,[]⟩))]⟩
def Ut:cr:=cn Js rc
def MF:FT:=⟨⟨[.d mO],[]⟩,⟨[.d Kd0],[]⟩,dL [(8,(.j ⟨[40],[2,3,41],⟨s5,[.cells 93 [.nil,.nil,.nil,.nil,.nil,.nil,.nil,.nil,.nil],.cells 93 [.row 2,.row 3,.row 4,.row 5,.row 6,.row 7,.nil,.row 8,.row 9],.rows 58 aa (.sl aM),.rows 58 aa (.sl aM),.rows 58 aa (.sl aM),.rows 58 aa (.sl aM),.rows 58 aa (.sl aM),.rows 58 aa (.sl aM),.rows 58 aa (.sl aM),.rows 3 aa aM]⟩,[]⟩))]⟩
def Xn:cr:=cn MF nL
def FI:FT:=⟨⟨LA,[]⟩,⟨[.row 0],OH⟩,dL [(4,(.j ⟨[0,1,5],[6],⟨[.d .bool],[]⟩,[]⟩)),(6,(.j ⟨[0,1,6],[5],⟨[.d aM],[]⟩,[]⟩)),(16,(.j ⟨[],[7],⟨[.row 0],OH⟩,[]⟩)),(17,(.j ⟨[1],[7,33],⟨[.row 0,.d .bool],OH⟩,[]⟩))]⟩
def RB:cr:=cn FI pJ
def vS:FT:=⟨⟨[.row 0],OH⟩,⟨qC,OH⟩,.leaf⟩
def ZW:cr:=cn vS vz
def ad3:cr:=⟨vS.pre,⟨vS.post.vs,[]⟩,ux⟩
def zF:FT:=⟨⟨[.d (.sl aM),.row 0],OH⟩,⟨qC,OH⟩,dL [(8,(.j ⟨[0,14],[1,5,15],⟨[.row 0,.row 1,.d aM],[.rows 3 aa aM,.rows 3 aa aM]⟩,[]⟩))]⟩
def ad1:cr:=cn zF sU
def afu:cr:=⟨zF.pre,⟨zF.post.vs,[]⟩,AW⟩
def Jp:FT:=⟨⟨[.row 0,.d aM,.row 1],agk⟩,⟨[],agk⟩,dL [(0,(.j ⟨[1],[0,2,13],⟨[.row 0,.row 1,.d .bool],agk⟩,[]⟩))]⟩
def Uq:cr:=cn Jp lP
def QM:FT:=⟨⟨[.ptr 0 0,.d aM,.row 9],Ld0⟩,⟨[],Ld0⟩,.leaf⟩
def ZR:cr:=cn QM vx
def MC:FT:=⟨⟨[.d mO,.ptr 0 0,.d gG,.row 9],Ld0⟩,⟨[],Ld0⟩,dL [(6,(.j ⟨[],[],⟨[],Ld0⟩,[]⟩)),(11,(.j ⟨[20],[1,3,4,6,32],⟨[.ptr 0 0,.row 9,.ptr 10 0,.ptr 11 0,.d .bool],[.cells 93 agl,.rows 58 aa (.sl aM),.rows 58 aa (.sl aM),.rows 58 aa (.sl aM),.rows 58 aa (.sl aM),.rows 58 aa (.sl aM),.rows 58 aa (.sl aM),.rows 58 aa (.sl aM),.rows 3 M aM,.rows 3 aa aM,.cells 28 adk,.cells 60 Ld9]⟩,[]⟩)),(48,(.j ⟨[],[1,3,6,129],⟨[.ptr 0 0,.row 9,.ptr 10 0,.d .bool],Ld2⟩,[]⟩)),(59,(.j ⟨[141],[1,3,6,140,142],⟨[.ptr 0 0,.row 9,.ptr 10 0,.row 8,.d aM],Ld2⟩,[]⟩)),(67,(.j ⟨[141,142],[1,3,6,140],⟨[.ptr 0 0,.row 9,.ptr 10 0,.row 8],Ld2⟩,[]⟩))]⟩
def Xl:cr:=cn MC pH
def QN:FT:=⟨⟨[.d mO,.d Kd0,.d gG],[]⟩,⟨[.d Kd0,.row 0],OH⟩,dL [(14,(.j ⟨[22,23],[3,5,6,7,24],⟨[.ptr 0 0,.ptr 1 0,.ptr 2 0,.ptr 3 0,.d aM],[.cells 28 adk,.cells 60 Ld9,.cells 93 [.row 4,.row 5,.row 6,.row 7,.row 8,.row 9,.d (.sl aM),.row 10,.row 11],.cells 58 qC,.rows 58 aa (.sl aM),.rows 58 aa (.sl aM),.rows 58 aa (.sl aM),.rows 58 aa (.sl aM),.rows 58 aa (.sl aM),.rows 58 aa (.sl aM),.rows 58 aa (.sl aM),.rows 3 M aM]⟩,[]⟩))]⟩
def ZS:cr:=cn QN r8
def vM:FT:=⟨⟨[.d .str],[]⟩,⟨[.d .bool],[]⟩,dL [(6,(.j ⟨[0,5],[6],⟨[.d aM],[]⟩,[]⟩))]⟩
def Ea:cr:=cn vM ig
def Af:FT:=⟨⟨[.d .str],[]⟩,⟨[.d .bool],[]⟩,dL [(3,(.j ⟨[0],[16],⟨[.d .bool],[]⟩,[]⟩)),(14,(.j ⟨[],[18],⟨[.ptr 0 0],[.mp lZ .un]⟩,[]⟩)),(24,(.j ⟨[],[18],⟨[.ptr 0 0],[.mp lZ .un]⟩,[]⟩)),(25,(.j ⟨[3,4],[18,23],⟨gX,[.mp lZ .un]⟩,[]⟩)),(29,(.j ⟨[],[18,38],⟨gX,[.mp lZ .un]⟩,[]⟩))]⟩
def Ld:cr:=cn Af kA
def Jv:FT:=⟨⟨LA,[]⟩,⟨[.d aM],[]⟩,dL [(6,(.j ⟨[0,1,7],[8],⟨[.d aM],[]⟩,[]⟩))]⟩
def Uy:cr:=cn Jv re
def Av:FT:=⟨⟨LA,[]⟩,⟨[.d .bool],[]⟩,.leaf⟩
def Lx:cr:=cn Av jw
def Au:FT:=⟨⟨[.d (.sl aM),.d im],[]⟩,⟨[.d .bool],[]⟩,.leaf⟩
def Lw:cr:=cn Au oF
def xF:FT:=⟨⟨uY,[]⟩,⟨[.d .bool],[]⟩,dL [(2,(.j ⟨[],[4],⟨[.d .bool],[]⟩,[]⟩))]⟩
def GJ:cr:=cn xF md
def xG:FT:=⟨⟨[.d mO,.d aM,.d .bool],[]⟩,⟨[.d .bool],[]⟩,dL [(2,(.j ⟨[],[6],⟨[.d .bool],[]⟩,[]⟩))]⟩
def GM:cr:=cn xG oV
def sJ:FT:=⟨⟨[.d (.sl kG)],[]⟩,⟨[.d (.sl .str),.d .bool],[]⟩,dL [(8,(.j ⟨[0],[4,5],⟨RU,[.rows 9 M .str]⟩,[.nil 4 9 .str]⟩)),(15,(.j ⟨[0],[4,5],⟨RU,[.rows 9 M .str]⟩,[]⟩)),(37,(.j ⟨[0,5],[4,6,49],⟨[.row 0,.ptr 1 0,.d .bool],[.rows 9 M .str,.cells 100 [.d kG]]⟩,[]⟩)),(48,(.j ⟨[0,5,51],[4,6,52],⟨[.row 0,.ptr 1 0,.d aM],[.rows 9 M .str,.cells 100 [.d kG]]⟩,[]⟩))]⟩
def zX:cr:=cn sJ fJ
def sI:FT:=⟨⟨[.d mO,.d (.sl .str)],[]⟩,⟨[.d .bool],[]⟩,dL [(10,(.j ⟨[17,18],[2,5,19],⟨UO,XQ⟩,[]⟩)),(27,(.j ⟨[30,31],[2,5,32],⟨UO,XQ⟩,[]⟩)),(50,(.j ⟨[52],[10,51,53],⟨[.mp 0,.row 1,.d aM],[.mp .str .bool,.rows 9 M .str]⟩,[.mpt 10 .str .bool]⟩)),(62,(.j ⟨[12,52,53],[10,51,64],⟨[.mp 0,.row 1,.d .bool],[.mp .str .bool,.rows 9 M .str]⟩,[.mpt 10 .str .bool]⟩))]⟩
def zW:cr:=cn sI fI
def sH:FT:=⟨⟨[.d mO],[]⟩,⟨[.d .bool],[]⟩,dL [(8,(.j ⟨[8,9],[1,3,4,10],⟨[.ptr 0 0,.d aM,.d aM,.d aM],pS⟩,[]⟩)),(20,(.j ⟨[3,4,8,9,10],[1,6,25],⟨ru,[.cells 28 [.d mO],.cells 106 [.d og]]⟩,[]⟩)),(27,(.j ⟨[8,9,10],[1,3,4,6],⟨[.ptr 0 0,.d aM,.d aM,.ptr 1 0],[.cells 28 [.d mO],.cells 106 [.d og]]⟩,[]⟩))]⟩
def zV:cr:=cn sH fH
def sL:FT:=⟨⟨[.d mO],[]⟩,⟨[.d .bool],[]⟩,dL [(3,(.j ⟨[],[1,34],⟨gX,pS⟩,[]⟩)),(11,(.j ⟨[],[1,44],⟨gX,pS⟩,[]⟩)),(21,(.j ⟨[],[1,58],⟨gX,pS⟩,[]⟩)),(32,(.j ⟨[60,61],[1,62],⟨vZ,pS⟩,[]⟩))]⟩
def zY:cr:=cn sL dw
def Aq:FT:=⟨⟨[.d mO],[]⟩,⟨[.d C_],[]⟩,dL [(8,(.j ⟨[20],[2,3,21],⟨s5,ajp⟩,[]⟩)),(21,(.j ⟨[],[2,3],⟨[.ptr 0 0,.ptr 1 0],ajp⟩,[]⟩))]⟩
def Lr:cr:=cn Aq kE
def uI:FT:=⟨⟨[.d mO],[]⟩,⟨[.d iM],[]⟩,dL [(8,(.j ⟨[22,23],[2,3,24],⟨s5,[.cells 87 uZ,.cells 87 [.d (.sl dt),.d aM,.d mg,.d (.sl gF),.row 2,.row 3,.row 4],.rows 2 aa aM,.rows 2 aa aM,.rows 3 aa aM]⟩,[]⟩))]⟩
def CU:cr:=cn uI eB
def sg:FT:=⟨⟨[.d mg,.d gG],[]⟩,⟨[.d .bool],[]⟩,dL [(6,(.j ⟨[0,13],[14],⟨[.d aM],[]⟩,[]⟩)),(20,(.j ⟨[0,13,14,17,18],[19],⟨[.d aM],[]⟩,[]⟩)),(31,(.j ⟨[0,13,14,17,18,19],[37],⟨[.d .bool],[]⟩,[]⟩))]⟩
def yS:cr:=cn sg bT
def yM:FT:=⟨⟨uY,[]⟩,⟨[.d .bool],[]⟩,dL [(2,(.j ⟨[],[4],⟨[.d .bool],[]⟩,[]⟩))]⟩
def JF:cr:=cn yM eQ
def xx:FT:=⟨⟨[.d mO,.d aM,.d aM],[]⟩,⟨[.d .bool],[]⟩,dL [(6,(.j ⟨[2,7],[3,8],⟨gX,pS⟩,[]⟩)),(36,(.j ⟨[2,7],[3,18],⟨gX,pS⟩,[]⟩)),(46,(.j ⟨[2,7],[3,26],⟨gX,pS⟩,[]⟩)),(53,(.j ⟨[],[6],⟨[.d .bool],[]⟩,[]⟩)),(56,(.j ⟨[2,7],[3,43],⟨gX,pS⟩,[]⟩)),(71,(.j ⟨[],[6],⟨[.d .bool],[]⟩,[]⟩)),(74,(.j ⟨[2,7],[3,61],⟨gX,pS⟩,[]⟩)),(92,(.j ⟨[2,7],[3,71],⟨gX,pS⟩,[]⟩)),(102,(.j ⟨[2],[3,79],⟨gX,pS⟩,[]⟩))]⟩
def Gy:cr:=cn xx ja
def CJ:FT:=⟨⟨[.d mO,.d C_],[]⟩,⟨[.d .bool],[]⟩,dL [(3,(.j ⟨[],[2,31],⟨gX,pS⟩,[]⟩)),(14,(.j ⟨[33,34],[2,35],⟨vZ,pS⟩,[]⟩))]⟩
def Ol:cr:=cn CJ iz
def Ao:FT:=⟨⟨[.d mO,.d C_,.d aM,.d aM,.d aM],[]⟩,⟨[.d .bool],[]⟩,dL [(15,(.j ⟨[],[10],⟨[.d .bool],[]⟩,[]⟩)),(21,(.j ⟨[],[10],⟨[.d .bool],[]⟩,[]⟩)),(24,(.j ⟨[2,4,11],[5,6,60],⟨ru,UP⟩,[]⟩)),(64,(.j ⟨[2,4,11],[5,6,109],⟨ru,UP⟩,[]⟩)),(81,(.j ⟨[],[10],⟨[.d .bool],[]⟩,[]⟩)),(87,(.j ⟨[],[10],⟨[.d .bool],[]⟩,[]⟩))]⟩
def Lp:cr:=cn Ao kC
def xy:FT:=⟨⟨[.d mO,.d C_,.d aM,.d aM,.d aM],[]⟩,⟨[.d .bool],[]⟩,dL [(3,(.j ⟨[2,3,4],[5,6,30],⟨ru,UP⟩,[]⟩)),(25,(.j ⟨[],[10],⟨[.d .bool],[]⟩,[]⟩)),(29,(.j ⟨[],[10],⟨[.d .bool],[]⟩,[]⟩))]⟩
def Gz:cr:=cn xy eg
def vK:FT:=⟨⟨[.d mO,.d iM],[]⟩,⟨[.d .bool],[]⟩,dL [(2,(.j ⟨[],[4],⟨[.d .bool],[]⟩,[]⟩))]⟩
def D_:cr:=cn vK ie
def tV:FT:=⟨⟨[.d mO,.d gG],[]⟩,⟨[.d .bool],[]⟩,dL [(3,(.j ⟨[],[2,3,12],⟨ru,[.cells 28 [.d mO],.cells 60 [.d gG]]⟩,[]⟩)),(10,(.j ⟨[],[4],⟨[.d .bool],[]⟩,[]⟩))]⟩
def Bh:cr:=cn tV gr
def qw:FT:=⟨⟨[.d mO,.d iM,.d gG],[]⟩,⟨[.d .bool],[]⟩,dL [(2,(.j ⟨[],[4,5,7],⟨ru,[.cells 87 [.d iM],.cells 60 [.d gG]]⟩,[]⟩)),(4,(.j ⟨[],[4,5,8],⟨agj,Ld6⟩,[]⟩)),(10,(.j ⟨[51],[4,5,8,52],⟨Eu,Ld6⟩,[]⟩)),(22,(.j ⟨[10,51,52],[4,5,8,64],⟨C9,Ld6⟩,[]⟩)),(34,(.j ⟨[51,52,65,66],[4,5,8,11,67],⟨[.ptr 0 0,.ptr 1 0,.ptr 2 0,.d aM,.d aM],Ld6⟩,[]⟩)),(46,(.j ⟨[13,51,52,65,66,67],[4,5,8,83],⟨C9,Ld6⟩,[]⟩))]⟩
def wU:cr:=cn qw dy
def tU:FT:=⟨⟨[.d iM,.d gG],[]⟩,⟨[.d .bool],[]⟩,dL [(21,(.j ⟨[],[4],⟨[.d .bool],[]⟩,[]⟩)),(24,(.j ⟨[13],[2,3,46],⟨ru,[.cells 87 [.d iM],.cells 60 [.d gG]]⟩,[]⟩)),(43,(.j ⟨[53,54],[3,5,6,55],⟨[.ptr 0 0,.d aM,.d .bool,.d aM],XM⟩,[]⟩)),(51,(.j ⟨[53,54,55],[3,5,6],⟨[.ptr 0 0,.d aM,.d .bool],XM⟩,[]⟩)),(54,(.j ⟨[5,6,7,53,54,55],[3,69],⟨gX,XM⟩,[]⟩)),(62,(.j ⟨[],[4],⟨[.d .bool],[]⟩,[]⟩)),(74,(.j ⟨[94,95],[3,9,96],⟨RZ,XM⟩,[]⟩)),(82,(.j ⟨[94,95,96],[3,9],⟨vZ,XM⟩,[]⟩)),(85,(.j ⟨[9,94,95,96],[3,109],⟨gX,XM⟩,[]⟩))]⟩
def Bg:cr:=cn tU eK
def An:FT:=⟨⟨[.d gF,.d aM],[]⟩,⟨[.d .bool],[]⟩,dL [(2,(.j ⟨[],[4],⟨[.d .bool],[]⟩,[]⟩))]⟩
def Lo:cr:=cn An ml
def QV:FT:=⟨⟨[.d mg],[]⟩,⟨[.d mg],[]⟩,.leaf⟩
def yX:cr:=cn QV H9
def ad5:cr:=⟨yX.pre,yX.post,zo⟩
def ML:FT:=⟨⟨[.d mg],[]⟩,⟨[.row 0],[.rows 4 M .bool]⟩,dL [(8,(.a [.nil 2 4 .bool])),(12,(.a [.nil 2 4 .bool]))]⟩
def vV:cr:=cn ML Dy
def ZY:cr:=⟨vV.pre,vV.post,H8⟩
def QR:FT:=⟨⟨[.d (.sl gF)],[]⟩,⟨[.d (.sl gF)],[]⟩,.leaf⟩
def yV:cr:=cn QR H6
def ad2:cr:=⟨yV.pre,yV.post,zn⟩
def MI:FT:=⟨⟨[.d (.sl gF)],[]⟩,⟨[.row 0],[.rows 159 M gF]⟩,dL [(8,(.a [.nil 2 159 gF])),(12,(.a [.nil 2 159 gF]))]⟩
def vT:cr:=cn MI Dw
def ZV:cr:=⟨vT.pre,vT.post,H5⟩
def MJ:FT:=⟨⟨qC,[]⟩,⟨[.row 0],[.rows 2 M aM]⟩,dL [(8,(.a [.nil 2 2 aM])),(12,(.a [.nil 2 2 aM]))]⟩
def vU:cr:=cn MJ Dx
def ZX:cr:=⟨vU.pre,vU.post,yn⟩
def Ap:FT:=⟨⟨[.d C_],[]⟩,⟨[.agg GR],Ld4⟩,dL [(8,(.j ⟨[11,12],[1,2,3,13],⟨[.ptr 0 0,.ptr 1 0,.row 2,.d aM],[.cells 84 [.d C_],.cells 84 t8,.rows 157 aa dt]⟩,[]⟩))]⟩
def Lq:cr:=cn Ap kD
def yN:FT:=⟨⟨[.agg GR,.d aM,.d aM],Ld4⟩,⟨[.d aM],Ld4⟩,dL [(8,(.j ⟨[1,2,12],[3,7,11,13],⟨[.ptr 3 0,.d aM,.row 2,.d aM],Ld3⟩,[]⟩)),(16,(.j ⟨[1,2,12,13],[3,7,11],⟨[.ptr 3 0,.d aM,.row 2],Ld3⟩,[]⟩)),(19,(.j ⟨[1,2,7,8,12,13],[3,11,29],⟨[.ptr 3 0,.row 2,.d .bool],Ld3⟩,[]⟩)),(25,(.j ⟨[7],[],⟨[],Ld4⟩,[]⟩))]⟩
def JG:cr:=cn yN jI
def uJ:FT:=⟨⟨[.agg GR,.d aM],Ld4⟩,⟨[.d aM],Ld4⟩,dL [(8,(.j ⟨[1,10],[2,5,9,11],⟨[.ptr 3 0,.d aM,.row 2,.d aM],Ld3⟩,[]⟩)),(16,(.j ⟨[1,10,11],[2,5,9],⟨[.ptr 3 0,.d aM,.row 2],Ld3⟩,[]⟩))]⟩
def CX:cr:=cn uJ gL
def yQ:FT:=⟨⟨[.d aM],[]⟩,⟨[.d .bool],[]⟩,.leaf⟩
def JP:cr:=cn yQ ql
def At:FT:=⟨⟨uY,[]⟩,⟨[.d .bool],[]⟩,dL [(2,(.j ⟨[],[4],⟨[.d .bool],[]⟩,[]⟩))]⟩
def Lv:cr:=cn At uU
def vR:FT:=⟨⟨[.d (.int .u64)],[]⟩,⟨[.d aM],[]⟩,.leaf⟩
def Eh:cr:=cn vR qY
def yO:FT:=⟨⟨[.d (.int .u64)],[]⟩,⟨[.d aM],[]⟩,.leaf⟩
def JJ:cr:=cn yO tJ
def nZ:FT:=⟨⟨[.row 0,.d aM,.d aM],V8⟩,⟨[],V8⟩,dL [(3,(.j ⟨[1,2],[0,6],⟨RU,V8⟩,[]⟩)),(15,(.j ⟨[1,2,6],[0,7],⟨RU,V8⟩,[]⟩)),(17,(.j ⟨[1,2,6,7],[0,30],⟨[.row 0,.d .bool],V8⟩,[]⟩))]⟩
def ui:cr:=cn nZ fB
def sG:FT:=⟨⟨[.row 0,.d aM,.d aM,.d aM],V8⟩,⟨[],V8⟩,dL [(5,(.j ⟨[],[0,1,2,3,8,9],⟨[.row 0,.d aM,.d aM,.d aM,.d .bool,.d .bool],V8⟩,[]⟩))]⟩
def zU:cr:=cn sG jg
def MH:FT:=⟨⟨[.row 0],V8⟩,⟨[],V8⟩,.leaf⟩
def Xr:cr:=cn MH iT
def CS:FT:=⟨⟨[.row 0],V8⟩,⟨[.row 0],V8⟩,dL [(14,(.j ⟨[],[0,3],⟨RU,V8⟩,[]⟩))]⟩
def Ox:cr:=cn CS ec
def xz:FT:=⟨⟨[.d aM,.ptr 0 0],[.cells 3 [.d aM]]⟩,⟨[.d .bool],[.cells 3 [.d aM]]⟩,.leaf⟩
def GA:cr:=cn xz oU
def yR:FT:=⟨⟨[.row 0,.clo 119 1 0],XN⟩,⟨[.d aM],XN⟩,dL [(6,(.j ⟨[7],[0,1,8],⟨[.row 0,.clo 119 1 0,.d aM],XN⟩,[]⟩))]⟩
def JQ:cr:=cn yR nu
def xH:FT:=⟨⟨[.row 0,.clo 119 1 0],XN⟩,⟨[.row 2],[.gone,.cells 3 [.d aM],.rows 3 aa aM]⟩,dL [(16,(.j ⟨[],[0,1,5,6],⟨[.row 0,.clo 119 1 0,.d aM,.d aM],XN⟩,[]⟩)),(24,(.j ⟨[6],[0,1,5],⟨[.row 0,.clo 119 1 0,.d aM],XN⟩,[]⟩))]⟩
def GO:cr:=cn xH db
def fk:FT:=⟨⟨aad,[]⟩,⟨aab,[]⟩,dL [(17,(.j ⟨[],[7,12,15],⟨s5,[.cells 84 [.row 2,.d aM,.row 3,.row 4],.cells 84 t8,.rows 157 aa dt,.rows 4 M .bool,.rows 159 M gF]⟩,[]⟩)),(26,(.j ⟨[4,5,15,27],[6,7,8,12,42],⟨t_,ajr⟩,[]⟩)),(34,(.j ⟨[4,5,15,27],[6,7,8,12,51],⟨t_,ajr⟩,[]⟩))]⟩
def JH:cr:=cn fk gM
def xw:FT:=⟨⟨[.d C_],[]⟩,⟨[.agg [.csl 0 2 1,.d aM,.d mg,.d (.sl gF)]],[.cells 157 [.d aM,.row 1],.rows 3 M aM]⟩,dL [(7,(.j ⟨[],[1,2,3],⟨[.ptr 0 0,.ptr 1 0,.csl 2 2 1],[.cells 84 [.d C_],.cells 84 t8,.cells 157 [.d aM,.row 3],.rows 3 M aM]⟩,[.cel 3 1 3 aM]⟩)),(8,(.u 2))]⟩
def Gx:cr:=cn xw i_
def xD:FT:=⟨⟨aad,[]⟩,⟨aab,[]⟩,dL [(17,(.j ⟨[],[7,12,15],⟨s5,[.cells 84 [.csl 2 2 1,.d aM,.d mg,.d (.sl gF)],.cells 84 t8,.cells 157 [.d aM,.d (.sl aM)]]⟩,[]⟩)),(26,(.j ⟨[4,5,15,27],[6,7,8,12,42],⟨t_,ajq⟩,[]⟩)),(33,(.s 4 0 0 0)),(34,(.j ⟨[4,5,15,27],[6,7,8,12,51],⟨t_,ajq⟩,[]⟩)),(41,(.s 4 0 0 0)),(46,(.s 4 0 0 1)),(53,(.s 4 0 0 1)),(74,(.s 4 0 0 0)),(80,(.s 4 0 0 0)),(100,(.a [.pk 7 0 dt]))]⟩
def GG:cr:=cn xD gf
def xv:FT:=⟨⟨[.d C_],[]⟩,⟨[.agg [.csl 0 2 2,.d aM,.d mg,.d (.sl gF)]],[.cells 157 [.d aM,.row 1,.d aM,.row 2],.rows 3 M aM,.rows 3 M aM]⟩,dL [(7,(.j ⟨[],[1,2,3],⟨[.ptr 0 0,.ptr 1 0,.csl 2 2 2],[.cells 84 [.d C_],.cells 84 t8,.cells 157 [.d aM,.row 3,.d aM,.row 4],.rows 3 M aM,.rows 3 M aM]⟩,[.cel 3 1 3 aM,.cel 3 3 3 aM]⟩)),(8,(.u 3))]⟩
def Gw:cr:=cn xv iZ
def xC:FT:=⟨⟨aad,[]⟩,⟨aab,[]⟩,dL [(17,(.j ⟨[],[7,12,15],⟨s5,[.cells 84 [.csl 2 2 2,.d aM,.d mg,.d (.sl gF)],.cells 84 t8,.cells 157 [.d aM,.d (.sl aM),.d aM,.d (.sl aM)]]⟩,[]⟩)),(26,(.j ⟨[4,5,15,27],[6,7,8,12,42],⟨t_,ajs⟩,[]⟩)),(33,(.s 4 0 0 0)),(34,(.j ⟨[4,5,15,27],[6,7,8,12,51],⟨t_,ajs⟩,[]⟩)),(41,(.s 4 0 0 0)),(46,(.s 4 0 0 2)),(53,(.s 4 0 0 2)),(74,(.s 4 0 0 0)),(80,(.s 4 0 0 0)),(100,(.a [.pk 7 0 dt]))]⟩
def GF:cr:=cn xC fo
def xu:FT:=⟨⟨[.d C_],[]⟩,⟨[.agg [.csl 0 2 3,.d aM,.d mg,.d (.sl gF)]],[.cells 157 [.d aM,.row 1,.d aM,.row 2,.d aM,.row 3],.rows 3 M aM,.rows 3 M aM,.rows 3 M aM]⟩,dL [(7,(.j ⟨[],[1,2,3],⟨[.ptr 0 0,.ptr 1 0,.csl 2 2 3],[.cells 84 [.d C_],.cells 84 t8,.cells 157 [.d aM,.row 3,.d aM,.row 4,.d aM,.row 5],.rows 3 M aM,.rows 3 M aM,.rows 3 M aM]⟩,[.cel 3 1 3 aM,.cel 3 3 3 aM,.cel 3 5 3 aM]⟩)),(8,(.u 4))]⟩
def Gv:cr:=cn xu iY
def xB:FT:=⟨⟨aad,[]⟩,⟨aab,[]⟩,dL [(17,(.j ⟨[],[7,12,15],⟨s5,[.cells 84 [.csl 2 2 3,.d aM,.d mg,.d (.sl gF)],.cells 84 t8,.cells 157 [.d aM,.d (.sl aM),.d aM,.d (.sl aM),.d aM,.d (.sl aM)]]⟩,[]⟩)),(26,(.j ⟨[4,5,15,27],[6,7,8,12,42],⟨t_,Ld7⟩,[]⟩)),(33,(.s 4 0 0 0)),(34,(.j ⟨[4,5,15,27],[6,7,8,12,51],⟨t_,Ld7⟩,[]⟩)),(41,(.s 4 0 0 0)),(46,(.s 4 0 0 3)),(53,(.s 4 0 0 3)),(74,(.s 4 0 0 0)),(80,(.s 4 0 0 0)),(100,(.a [.pk 7 0 dt]))]⟩
def GD:cr:=cn xB eR
def xt:FT:=⟨⟨[.d C_],[]⟩,⟨[.agg [.csl 0 2 4,.d aM,.d mg,.d (.sl gF)]],[.cells 157 [.d aM,.row 1,.d aM,.row 2,.d aM,.row 3,.d aM,.row 4],.rows 3 M aM,.rows 3 M aM,.rows 3 M aM,.rows 3 M aM]⟩,dL [(7,(.j ⟨[],[1,2,3],⟨[.ptr 0 0,.ptr 1 0,.csl 2 2 4],[.cells 84 [.d C_],.cells 84 t8,.cells 157 [.d aM,.row 3,.d aM,.row 4,.d aM,.row 5,.d aM,.row 6],.rows 3 M aM,.rows 3 M aM,.rows 3 M aM,.rows 3 M aM]⟩,[.cel 3 1 3 aM,.cel 3 3 3 aM,.cel 3 5 3 aM,.cel 3 7 3 aM]⟩)),(8,(.u 5))]⟩
def Gu:cr:=cn xt mc
def xA:FT:=⟨⟨aad,[]⟩,⟨aab,[]⟩,dL [(17,(.j ⟨[],[7,12,15],⟨s5,[.cells 84 [.csl 2 2 4,.d aM,.d mg,.d (.sl gF)],.cells 84 t8,.cells 157 [.d aM,.d (.sl aM),.d aM,.d (.sl aM),.d aM,.d (.sl aM),.d aM,.d (.sl aM)]]⟩,[]⟩)),(26,(.j ⟨[4,5,15,27],[6,7,8,12,42],⟨t_,Ld5⟩,[]⟩)),(33,(.s 4 0 0 0)),(34,(.j ⟨[4,5,15,27],[6,7,8,12,51],⟨t_,Ld5⟩,[]⟩)),(41,(.s 4 0 0 0)),(46,(.s 4 0 0 4)),(53,(.s 4 0 0 4)),(74,(.s 4 0 0 0)),(80,(.s 4 0 0 0)),(100,(.a [.pk 7 0 dt]))]⟩
def GC:cr:=cn xA gd
def Ls:cr:=cn fk rF
def vL:FT:=⟨⟨[.d mO,.d iM,.d gG],[]⟩,⟨[.d iM,.d .bool],[]⟩,dL [(3,(.j ⟨[],[3,4,5,6,39],⟨t_,Kc⟩,[]⟩)),(11,(.j ⟨[],[3,4,5,6,70],⟨t_,Kc⟩,[]⟩)),(20,(.j ⟨[],[3,4,5,6,8],⟨[.ptr 0 0,.ptr 1 0,.ptr 2 0,.ptr 3 0,.d aM],Kc⟩,[]⟩)),(41,(.j ⟨[],[5,6,12],⟨agj,agn⟩,[]⟩))]⟩
def D':cr:=cn vL dR
def tY:FT:=⟨⟨[.d Ka24],[]⟩,⟨uY,[]⟩,dL [(26,(.j ⟨[27,28],[1,4,5,29],⟨[.ptr 0 0,.ptr 1 0,.csl 2 1 1,.d aM],[.cells 31 [.d Ka24],.cells 87 [.d iM],.cells 81 [.row 3],.rows 4 M .bool]⟩,[.cel 5 0 4 .bool]⟩)),(40,(.j ⟨[6,27,28,29],[1,4,5,7,8,53],⟨[.ptr 0 0,.ptr 1 0,.csl 2 1 1,.ptr 3 0,.ptr 4 0,.d .bool],[.cells 31 [.d Ka24],.cells 87 [.d iM],.cells 81 [.row 5],.cells 60 [.d gG],.cells 87 [.d iM],.rows 4 M .bool]⟩,[]⟩)),(41,(.b 9 7 0 0 1)),(47,(.j ⟨[27,28,29],[1,4,5,8],⟨[.ptr 0 0,.ptr 1 0,.csl 2 1 1,.ptr 3 0],[.cells 31 [.d Ka24],.cells 87 [.d iM],.cells 81 [.row 4],.cells 87 [.d iM],.rows 4 M .bool]⟩,[]⟩)),(48,(.s 7 0 0 1))]⟩
def Bl:cr:=cn tY dY
def tX:FT:=⟨⟨[.d Ka24],[]⟩,⟨uY,[]⟩,dL [(26,(.j ⟨[27,28],[1,4,5,29],⟨[.ptr 0 0,.ptr 1 0,.csl 2 1 2,.d aM],[.cells 31 [.d Ka24],.cells 87 [.d iM],.cells 81 [.row 3,.row 4],.rows 4 M .bool,.rows 4 M .bool]⟩,[.cel 5 0 4 .bool,.cel 5 1 4 .bool]⟩)),(40,(.j ⟨[6,27,28,29],[1,4,5,7,8,53],⟨[.ptr 0 0,.ptr 1 0,.csl 2 1 2,.ptr 3 0,.ptr 4 0,.d .bool],[.cells 31 [.d Ka24],.cells 87 [.d iM],.cells 81 [.row 5,.row 6],.cells 60 [.d gG],.cells 87 [.d iM],.rows 4 M .bool,.rows 4 M .bool]⟩,[]⟩)),(41,(.b 9 7 0 0 2)),(47,(.j ⟨[27,28,29],[1,4,5,8],⟨[.ptr 0 0,.ptr 1 0,.csl 2 1 2,.ptr 3 0],[.cells 31 [.d Ka24],.cells 87 [.d iM],.cells 81 [.row 4,.row 5],.cells 87 [.d iM],.rows 4 M .bool,.rows 4 M .bool]⟩,[]⟩)),(48,(.s 7 0 0 2))]⟩
def Bk:cr:=cn tX dl
def tW:FT:=⟨⟨[.d Ka24],[]⟩,⟨uY,[]⟩,dL [(26,(.j ⟨[27,28],[1,4,5,29],⟨[.ptr 0 0,.ptr 1 0,.csl 2 1 3,.d aM],[.cells 31 [.d Ka24],.cells 87 [.d iM],.cells 81 [.row 3,.row 4,.row 5],.rows 4 M .bool,.rows 4 M .bool,.rows 4 M .bool]⟩,[.cel 5 0 4 .bool,.cel 5 1 4 .bool,.cel 5 2 4 .bool]⟩)),(40,(.j ⟨[6,27,28,29],[1,4,5,7,8,53],⟨[.ptr 0 0,.ptr 1 0,.csl 2 1 3,.ptr 3 0,.ptr 4 0,.d .bool],[.cells 31 [.d Ka24],.cells 87 [.d iM],.cells 81 [.row 5,.row 6,.row 7],.cells 60 [.d gG],.cells 87 [.d iM],.rows 4 M .bool,.rows 4 M .bool,.rows 4 M .bool]⟩,[]⟩)),(41,(.b 9 7 0 0 3)),(47,(.j ⟨[27,28,29],[1,4,5,8],⟨[.ptr 0 0,.ptr 1 0,.csl 2 1 3,.ptr 3 0],[.cells 31 [.d Ka24],.cells 87 [.d iM],.cells 81 [.row 4,.row 5,.row 6],.cells 87 [.d iM],.rows 4 M .bool,.rows 4 M .bool,.rows 4 M .bool]⟩,[]⟩)),(48,(.s 7 0 0 3))]⟩
def Bj:cr:=cn tW dG
def eL:FT:=⟨⟨[.d Ka24],[]⟩,⟨uY,[]⟩,dL [(26,(.j ⟨[27,28],[1,4,5,29],⟨[.ptr 0 0,.ptr 1 0,.csl 2 1 4,.d aM],[.cells 31 [.d Ka24],.cells 87 [.d iM],.cells 81 [.row 3,.row 4,.row 5,.row 6],.rows 4 M .bool,.rows 4 M .bool,.rows 4 M .bool,.rows 4 M .bool]⟩,[.cel 5 0 4 .bool,.cel 5 1 4 .bool,.cel 5 2 4 .bool,.cel 5 3 4 .bool]⟩)),(40,(.j ⟨[6,27,28,29],[1,4,5,7,8,53],⟨[.ptr 0 0,.ptr 1 0,.csl 2 1 4,.ptr 3 0,.ptr 4 0,.d .bool],[.cells 31 [.d Ka24],.cells 87 [.d iM],.cells 81 [.row 5,.row 6,.row 7,.row 8],.cells 60 [.d gG],.cells 87 [.d iM],.rows 4 M .bool,.rows 4 M .bool,.rows 4 M .bool,.rows 4 M .bool]⟩,[]⟩)),(41,(.b 9 7 0 0 4)),(47,(.j ⟨[27,28,29],[1,4,5,8],⟨[.ptr 0 0,.ptr 1 0,.csl 2 1 4,.ptr 3 0],[.cells 31 [.d Ka24],.cells 87 [.d iM],.cells 81 [.row 4,.row 5,.row 6,.row 7],.cells 87 [.d iM],.rows 4 M .bool,.rows 4 M .bool,.rows 4 M .bool,.rows 4 M .bool]⟩,[]⟩)),(48,(.s 7 0 0 4))]⟩
def Bi:cr:=cn eL cV
def CV:cr:=cn eL kh
def Jt:FT:=⟨⟨[.d Ka24],[]⟩,⟨[.d kM,.d aM],[]⟩,dL [(20,(.j ⟨[25,26],[1,6,7,27],⟨[.ptr 0 0,.ptr 1 0,.row 2,.d aM],[.cells 31 [.d Ka24],.cells 93 [.d Kd0],.rows 58 aa (.sl aM)]⟩,[]⟩))]⟩
def Uu:cr:=cn Jt lQ
def VG:FT:=⟨⟨[],[]⟩,⟨[.d mO],[]⟩,dL [(8,(.j ⟨[21],[0,1,22],⟨s5,adt⟩,[.cel 1 5 106 og]⟩)),(22,(.j ⟨[2,21,22],[0,1,3],⟨s5,adt⟩,[]⟩))]⟩
def ad0:cr:=cn VG BX
theorem DU:aI Pg 43 Xq:=mk MG iS an b9
theorem Pw x:lm (jv x) (yg x):=by
 unfold jv yg uF ck bx bo aY cI aB cu;with_reducible repeat' first|(refine OI.o ?_;constructor)|intro _
theorem yz:aI Pg 41 RC:=xS FJ jv yg Pw (ac DU an) b9
theorem acf:aI Pg 40 C2:=mk VH Nu an b9
theorem TG:aI Pg 40 afv:= @aI.sub Pg 40 C2.pre C2.post Nu wy acf rfl (λx y h=>rq (b:=8) x y h)
theorem SX x:lm (ij x) (AR x):=by
 unfold ij AR wF ck bx l8 bo aY cI aB cu;with_reducible repeat' first|(refine OI.o ?_;constructor)|intro _
theorem TB:aI Pg 97 Ur:=xS Jq ij AR SX (ac TG an) b9
theorem Zt:aI Pg 40 yW:=mk QU H7 an b9
theorem zw:aI Pg 40 ad4:= @aI.sub Pg 40 yW.pre yW.post H7 gg Zt rfl (λx y h=>rq (b:=8) x y h)
theorem IA:aI Pg 63 Us:=mk Jr q_ (ac zw (ac TB an)) b9
theorem WH:aI Pg 65 Xk:=mk MB s_ an b9
theorem IB:aI Pg 64 Ut:=mk Js rc (ac WH an) b9
theorem Wq x:lm (nL x) (Du x):=by
 unfold nL Du zC aV ba bk bO cU fM lB ck bx bo aY cI aB cu;with_reducible repeat' first|(refine OI.o ?_;constructor)|intro _
theorem Mf:aI Pg 35 Xn:=xS MF nL Du Wq an b9
end
end Go.Proofs.YtiaemgcbndhkfaaGreatDoor.AI
