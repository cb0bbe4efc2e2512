/-
  Texts of the proof, part 5 of 6: what is used to prove the statement. No condition.
-/
import Derived.Test.YtiaemgcbndhkfaaGreatDoorEpochRefusesQ3
import Derived.Deep.Slices
import Derived.OpenShut
import Derived.Below
import Derived.Test.YtiaemgcbndhkfaaGreatDoorProg
import Derived.KernelRfl
import Derived.Recover
namespace Go.Proofs.YtiaemgcbndhkfaaGreatDoor.AI
open Go.RowKit
set_option maxRecDepth 100000
set_option maxHeartbeats 4000000
set_option linter.unusedVariables false
set_option linter.unusedSimpArgs false
open Act renaming put→MY
open _root_.Array renaming replicate→og
open _root_.Bool renaming true→M,false→aa
open Call renaming operands→dQ
open _root_.Int renaming ofNat_eq_natCast→aj,toNat→aO,ofNat→aT,tmod→bu
open _root_.List renaming length→ah,replicate→aA,length_singleton→c9,range→gx,cons_append→ia,length_nil→j6,getElem?_cons_zero→lD,nil_append→od,replicate_succ→pN,take_succ_cons→vb
open _root_.Nat renaming beq→ax,testBit→aP,add_zero→dc,ble→dP,blt→eQ
open Oper renaming wp→GY
open _root_.Option renaming some→Z,none→U,bind_some→aD,map_some→bW,map→l7,getD_some→uo
open _root_.Prod renaming p2→aX,p3→bh,p4→bm,q3→bp,p5→bT,q5→cD,q4→cI,p6→cX,q6→dC,q7→gd,p7→gN,q8→lz,p8→rn,p10→ua,p9→um,p11→yZ,q10→De,q9→GW,q11→Kj,p12→Kk
open Region renaming wanted→iL
open Result renaming andThen_ok→cL
open Sem renaming run_bind→eA,run_pure→oI
open _root_.Sum renaming inr→bZ,inl→pM
open Value renaming okWide→GU
open World renaming cell?→MW
noncomputable section
theorem Qb {σ:PT Nat} {i a:Nat} (h:σ.get i=Z a):ie σ i=a:=by unfold ie;rw[h]
theorem UT {σ:PT Nat}:∀(n i acc sm:Nat),Yp σ n i acc=Z sm->
 (∀k,k<n->aP acc (ie σ (i+k))=aa)/\(∀a b,a<n->b<n->ie σ (i+a)=ie σ (i+b)->a=b)/\∀q,aP sm q=M↔aP acc q=M\/∃k,k<n/\ie σ (i+k)=q
 |0,i,acc,sm,h=>by
  simp only[Yp,af]at h;subst h;exact⟨λk hk=>by omega,λa b s=>by omega,λq=>⟨.inl,λhq=>hq.elim id λ⟨k,hk,_⟩=>by omega⟩⟩
 |n+1,i,acc,sm,h=>by
  simp only[Yp]at h;split at h
  .rename_i a s;split at h
   .cases h
   .rename_i hna;have hna:aP acc a=aa:=by simpa using hna
    have hga:=Qb s;obtain⟨h1,h2,z⟩:=UT n (i+1) (acc|||ku a) sm h;have hne:∀k,k<n->ie σ (i+1+k)≠a/\aP acc (ie σ (i+1+k))=aa:=λk hk=>by
     have:=h1 k hk;rw[bz,Bool.or_eq_false_iff]at this;refine ⟨λe=>?_,this.1⟩;have d:=this.2;rw[e]at d;rw[bX.2 rfl]at d;cases d
    refine ⟨λk hk=>?_,λx y D A hxy=>?_,λq=>?_⟩
    .cases k with
     |zero=>rw[dc,hga];exact hna
     |succ k=>rw[show i+(k+1)=i+1+k from by omega];exact (hne k (by omega)).2
    .cases x with
     |zero=>
      cases y with
      |zero=>rfl
      |succ y=>
       rw[dc,hga,show i+(y+1)=i+1+y from by omega]at hxy;exact dR hxy.symm (hne y (by omega)).1
     |succ x=>
      cases y with
      |zero=>
       rw[show i+0=i from rfl,hga,show i+(x+1)=i+1+x from by omega]at hxy;exact dR hxy (hne x (by omega)).1
      |succ y=>
       rw[show i+(x+1)=i+1+x from by omega,show i+(y+1)=i+1+y from by omega]at hxy;have:=h2 x y (by omega) (by omega) hxy;omega
    .rw[z,bz,iS];constructor
     .rintro ((hq|hq)|⟨k,hk,hq⟩)
      .exact .inl hq
      .exact .inr ⟨0,by omega,by rw[dc,hga];exact bX.1 hq⟩
      .exact .inr ⟨k+1,by omega,by rw[show i+(k+1)=i+1+k from by omega];exact hq⟩
     .rintro (hq|⟨k,hk,hq⟩)
      .exact .inl (.inl hq)
      .cases k with
       |zero=>rw[dc,hga]at hq;exact .inl (.inr (bX.2 hq))
       |succ k=>exact .inr ⟨k,by omega,by rw[show i+1+k=i+(k+1) from by omega];exact hq⟩
  .cases h
theorem Qi {σ:PT Nat}:∀(n:Nat),Vf σ n=M->∀i,i<n->ie σ i=i
 |0,_,i,hi=>by omega
 |n+1,h,i,hi=>by
  simp only[Vf,ak]at h;by_cases e:i=n
  .subst e;cases d:σ.get i with
   |none=>rw[d]at h;exact dR h.1 (by simp)
   |some a=>rw[d]at h;rw[Qb d];exact au h.1
  .exact Qi n h.2 i (by omega)
structure Hm (np:Nat) (t:Tm) (vs:List TV) (h:bn) (z:t.ty.den) (m:Nat) (σ:PT Nat) (sm:Nat):Prop where
 ex:∃x m1 y m2,z=SJ _ _ x y/\m=m1|||m2/\xm (ie σ) h t.vs vs=Z (x,m1)/\Ag (ie σ) h 0 t.bs=Z (y,m2)
 inj:∀a b,a<t.bs.length->b<t.bs.length->ie σ a=ie σ b->a=b
 sig:∀q,aP sm q=M↔∃k,k<t.bs.length/\ie σ k=q
 disj:∀i,aP m i=M->aP sm i=aa
 fix:∀i,i<np->ie σ i=i
theorem vA {np:Nat} {t:Tm} {vs:Y TV} {h:bn} {z:t.ty.den} {m:Nat} {σ:PT Nat} {sm:Nat} (hm:Dz np t vs h=Z ⟨z,m,σ,sm⟩):Hm np t vs h z m σ sm:=by
 unfold Dz at hm;rw[NF]at hm;split at hm
 .rename_i sm' hs;split at hm
  .rename_i x m1 h1;split at hm
   .rename_i y m2 h2;split at hm
    .rename_i hc;simp only[ak]at hc;simp only[af,aes.mk.injEq]at hm;obtain⟨rfl,rfl,rfl,rfl⟩:=hm;obtain⟨A,s,d⟩:=UT _ _ _ _ hs;simp only[bM]at A s d;exact⟨⟨x,m1,y,m2,rfl,rfl,h1,h2⟩,s,λq=>by rw[d];simp,λi hi=>wV hc.1 i hi,Qi np hc.2⟩
    .cases hm
   .cases hm
  .cases hm
 .cases hm
mutual
theorem yr {g:Nat->Nat} {h:bn}:∀(p:PV) (l:Y TV) (x:p.ty.den) (m:Nat) (r:Y TV),pq g h p l=Z (x,m,r)->dN h m
 |.d T,l,x,m,r,hg=>uw 40 T l x m r hg
 |.ptr i q,l,x,m,r,hg=>by
  simp only[pq]at hg;split at hg
  .split at hg
   .simp only[af,aC]at hg;obtain⟨_,rfl,_⟩:=hg;exact dN.zero h
   .cases hg
  .cases hg
 |.csl i q z,l,x,m,r,hg=>by
  simp only[pq]at hg;split at hg
  .split at hg
   .simp only[af,aC]at hg;obtain⟨_,rfl,_⟩:=hg;exact dN.zero h
   .cases hg
  .cases hg
 |.clo q i z,l,x,m,r,hg=>by
  simp only[pq]at hg;split at hg
  .split at hg
   .simp only[af,aC]at hg;obtain⟨_,rfl,_⟩:=hg;exact dN.zero h
   .cases hg
  .cases hg
 |.row i,l,x,m,r,hg=>by
  simp only[pq]at hg;split at hg
  .split at hg
   .simp only[af,aC]at hg;obtain⟨_,rfl,_⟩:=hg;exact dN.zero h
   .cases hg
  .cases hg
 |.mp i,l,x,m,r,hg=>by
  simp only[pq]at hg;split at hg
  .split at hg
   .simp only[af,aC]at hg;obtain⟨_,rfl,_⟩:=hg;exact dN.zero h
   .cases hg
  .cases hg
 |.nil,l,x,m,r,hg=>by
  simp only[pq]at hg;split at hg
  .simp only[af,aC]at hg;obtain⟨_,rfl,_⟩:=hg;exact dN.zero h
  .cases hg
 |.emp,l,x,m,r,hg=>by
  simp only[pq]at hg;split at hg
  .simp only[af,aC]at hg;obtain⟨_,rfl,_⟩:=hg;exact dN.zero h
  .simp only[af,aC]at hg;obtain⟨_,rfl,_⟩:=hg;exact dN.zero h
  .cases hg
 |.agg ps,l,x,m,r,hg=>Hc ps l x m r hg
theorem Hc {g:Nat->Nat} {h:bn}:∀(ps:Y PV) (l:Y TV) (x:(PV.tyL ps).den) (m:Nat) (r:Y TV),yq g h ps l=Z (x,m,r)->dN h m
 |[],l,x,m,r,hg=>by
  simp only[yq,af,aC]at hg;obtain⟨_,rfl,_⟩:=hg;exact dN.zero h
 |p::ps,l,x,m,r,hg=>by
  simp only[yq]at hg;split at hg
  .rename_i x1 m1 r1 h1;split at hg
   .rename_i x2 m2 r2 h2;simp only[af,aC]at hg;obtain⟨_,rfl,_⟩:=hg;exact (yr p l x1 m1 r1 h1).or (Hc ps r1 _ _ _ h2)
   .cases hg
  .cases hg
end
theorem afe {g:Nat->Nat} {h:bn} {p:PV} {v:TV} {x:p.ty.den} {m:Nat} (hg:wJ g h p v=Z (x,m)):dN h m:=by
 cases p with
 |d T=>exact Vz hg
 |agg ps=>
  simp only[wJ]at hg;split at hg
  .cases hg
  .split at hg
   .split at hg
    .rename_i x1 m1 h1;simp only[af,aC]at hg;obtain⟨_,rfl⟩:=hg;exact Hc ps _ _ _ _ h1
    .cases hg
   .cases hg
 |ptr i q=>
  simp only[wJ]at hg;split at hg
  .rename_i h1;simp only[af,aC]at hg;obtain⟨_,rfl⟩:=hg;exact yr _ _ _ _ _ h1
  .cases hg
 |csl i q z=>
  simp only[wJ]at hg;split at hg
  .rename_i h1;simp only[af,aC]at hg;obtain⟨_,rfl⟩:=hg;exact yr _ _ _ _ _ h1
  .cases hg
 |clo q i z=>
  simp only[wJ]at hg;split at hg
  .rename_i h1;simp only[af,aC]at hg;obtain⟨_,rfl⟩:=hg;exact yr _ _ _ _ _ h1
  .cases hg
 |row i=>
  simp only[wJ]at hg;split at hg
  .rename_i h1;simp only[af,aC]at hg;obtain⟨_,rfl⟩:=hg;exact yr _ _ _ _ _ h1
  .cases hg
 |mp i=>
  simp only[wJ]at hg;split at hg
  .rename_i h1;simp only[af,aC]at hg;obtain⟨_,rfl⟩:=hg;exact yr _ _ _ _ _ h1
  .cases hg
 |nil=>
  simp only[wJ]at hg;split at hg
  .rename_i h1;simp only[af,aC]at hg;obtain⟨_,rfl⟩:=hg;exact yr _ _ _ _ _ h1
  .cases hg
 |emp=>
  simp only[wJ]at hg;split at hg
  .rename_i h1;simp only[af,aC]at hg;obtain⟨_,rfl⟩:=hg;exact yr _ _ _ _ _ h1
  .cases hg
theorem Hb {g:Nat->Nat} {h:bn}:∀(ps:Y PV) (vs:Y TV) (x:(PV.tyL ps).den) (m:Nat),xm g h ps vs=Z (x,m)->dN h m
 |[],[],x,m,hg=>by simp only[xm,af,aC]at hg;obtain⟨_,rfl⟩:=hg;exact dN.zero h
 |[],_::_,x,m,hg=>by simp[xm]at hg
 |_::_,[],x,m,hg=>by simp[xm]at hg
 |p::ps,v::vs,x,m,hg=>by
  simp only[xm]at hg;split at hg
  .rename_i x1 m1 h1;split at hg
   .rename_i x2 m2 h2;simp only[af,aC]at hg;obtain⟨_,rfl⟩:=hg;exact (afe h1).or (Hb ps vs x2 m2 h2)
   .cases hg
  .cases hg
theorem aff {g:Nat->Nat} {h:bn} {i:Nat} {b:PB} {x:b.ty.den} {m:Nat} (hg:DY g h i b=Z (x,m)):dN h m:=by
 cases b with
 |rows ty p T=>
  simp only[DY]at hg;split at hg
  .split at hg
   .split at hg
    .simp only[af,aC]at hg;obtain⟨_,rfl⟩:=hg;exact dN.zero h
    .cases hg
   .cases hg
  .cases hg
 |rowsP ty T=>
  simp only[DY]at hg;split at hg
  .split at hg
   .split at hg
    .simp only[af,aC]at hg;obtain⟨_,rfl⟩:=hg;exact dN.zero h
    .cases hg
   .cases hg
  .cases hg
 |cells ty ps=>
  simp only[DY]at hg;split at hg
  .split at hg
   .split at hg
    .rename_i h1;simp only[af,aC]at hg;obtain⟨_,rfl⟩:=hg;exact Hc ps _ _ _ _ h1
    .cases hg
   .cases hg
  .cases hg
 |mp K V=>
  simp only[DY]at hg;split at hg
  .split at hg
   .simp only[af,aC]at hg;obtain⟨_,rfl⟩:=hg;exact dN.zero h
   .cases hg
  .cases hg
 |gone=>simp only[DY,af,aC]at hg;obtain⟨_,rfl⟩:=hg;exact dN.zero h
theorem Hd {g:Nat->Nat} {h:bn}:∀(bs:Y PB) (i:Nat) (x:(PB.tyL bs).den) (m:Nat),Ag g h i bs=Z (x,m)->dN h m
 |[],i,x,m,hg=>by simp only[Ag,af,aC]at hg;obtain⟨_,rfl⟩:=hg;exact dN.zero h
 |b::r,i,x,m,hg=>by
  simp only[Ag]at hg;split at hg
  .rename_i x1 m1 h1;split at hg
   .rename_i x2 m2 h2;simp only[af,aC]at hg;obtain⟨_,rfl⟩:=hg;exact (aff h1).or (Hd r (i+1) x2 m2 h2)
   .cases hg
  .cases hg
structure qw (t:Tm) (x:t.ty.den) (vs:List TV) (h1:bn) (l1:List (Option ii)):Prop where
 pv:pQ G_ t.vs (ND _ _ x)=Z vs
 pb:om G_ t.bs (Kx _ _ x)=Z l1
 len:l1.length=t.bs.length
 at_:∀i b,h1.get i=Z b↔l1[i]? =Z (Z b)
 ok:kS h1 vs=M
 lt:qZ t.bs.length vs=M
 cells:∀i ty l,h1.get i=Z (.cells ty l)->kS h1 l=M/\qZ t.bs.length l=M
theorem YT (l:Y (J ii)) (i:Nat) (b:ii):(zM G_ 0 l PT.leaf).get i=Z b↔l[i]? =Z (Z b):=by
 by_cases hi:i<l.length
 .obtain⟨c,hc⟩:∃c,l[i]? =Z c:=⟨l[i],aw hi⟩
  have:=uB G_ l 0 PT.leaf (λa b _ _ e=>by simp only[G_]at e;omega) i c hc;rw[show G_ (0+i)=i from by simp only[G_];omega]at this;rw[this,hc];cases c with
  |some b'=>simp
  |none=>simp[PT.get]
 .rw[uA G_ l 0 PT.leaf i (λk hk=>by simp only[G_];omega),bK (by omega)];simp[PT.get]
theorem vF {t:Tm} {x:t.ty.den} {vs:Y TV} {h1:bn} (hi:B_ t x=Z (vs,h1)):∃l1,qw t x vs h1 l1:=by
 unfold B_ at hi;split at hi
 .rename_i us hus;split at hi
  .rename_i h hh;split at hi
   .rename_i hc;simp only[ak]at hc;simp only[af,aC]at hi;obtain⟨rfl,rfl⟩:=hi;unfold LY at hh;split at hh
    .rename_i l1 d;simp only[af]at hh;refine ⟨l1,hus,d,BU _ _ _ _ d,λi b=>?_,hc.1.1,hc.1.2,λi ty l hil=>?_⟩
     .rw[<- hh];exact YT l1 i b
     .have:=PT.get_all _ h 1 0 i _ hc.2 hil;simpa only[ak] using this
    .cases hh
   .cases hi
  .cases hi
 .cases hi
def UZ (nb:Nat) (n:Nat):Bool:=n%2==0&&eQ (n/2) nb
theorem AO {nb i:Nat}:UZ nb (nm i)=M↔i<nb:=by
 unfold UZ nm;rw[show 2*i%2=0 from by omega,show 2*i/2=i from by omega];simp only[cP,kL];exact⟨λh=>bc h,λh=>bw h⟩
theorem Yz {nb n:Nat} (h:UZ nb n=M):∃i,i<nb/\n=nm i:=by
 unfold UZ at h;simp only[ak,cQ]at h;exact⟨n/2,bc h.2,by unfold nm;omega⟩
mutual
theorem afb {nb:Nat} {h:bn}:∀(v:TV) (y:AV),KJ nb v=M->cf h v=Z y->y.all (UZ nb)=M
 |.f _ _,y,_,he=>by simp only[cf,af]at he;subst he;rfl
 |.fel _ _ _ _ _,y,_,he=>by simp only[cf,af]at he;subst he;rfl
 |.pel id _ _ _,y,hl,he=>by simp only[cf,af]at he;subst he;exact AO.2 (bc hl)
 |.ptr id _,y,hl,he=>by simp only[cf,af]at he;subst he;exact AO.2 (bc hl)
 |.csl id _ _,y,hl,he=>by simp only[cf,af]at he;subst he;exact AO.2 (bc hl)
 |.row id,y,hl,he=>by
  simp only[cf]at he;split at he
  .simp only[af]at he;subst he;unfold e_;split
   .rfl
   .exact AO.2 (bc hl)
  .cases he
 |.rtl id jj,y,hl,he=>by
  simp only[cf]at he;split at he
  .simp only[af]at he;subst he;exact AO.2 (bc hl)
  .cases he
 |.emp,y,_,he=>by simp only[cf,af]at he;subst he;rfl
 |.nil,y,_,he=>by simp only[cf,af]at he;subst he;rfl
 |.mp id,y,hl,he=>by simp only[cf,af]at he;subst he;exact AO.2 (bc hl)
 |.agg l,y,hl,he=>by
  simp only[cf]at he;split at he
  .rename_i l' hl';simp only[af]at he;subst he;exact rC l l' hl hl'
  .cases he
 |.tup l,y,hl,he=>by
  simp only[cf]at he;split at he
  .rename_i l' hl';simp only[af]at he;subst he;exact rC l l' hl hl'
  .cases he
 |.clo q l,y,hl,he=>by
  simp only[cf]at he;split at he
  .rename_i l' hl';simp only[af]at he;subst he;exact rC l l' hl hl'
  .cases he
 |.undef,y,_,he=>by simp only[cf,af]at he;subst he;rfl
 |.np,y,_,he=>by simp only[cf,af]at he;subst he;rfl
 |.anyb,y,_,he=>by simp only[cf,af]at he;subst he;rfl
 |.ful _ _,y,_,he=>by simp only[cf,af]at he;subst he;rfl
theorem rC {nb:Nat} {h:bn}:∀(l:Y TV) (l':Y AV),qZ nb l=M->cF h l=Z l'->AV.allL (UZ nb) l'=M
 |[],l',_,he=>by simp only[cF,af]at he;subst he;rfl
 |x::r,l',hl,he=>by
  obtain⟨y,l2,rfl,e1,e2⟩:=cU he;simp only[qZ,ak]at hl;simp only[AV.allL,ak];exact⟨afb x y hl.1 e1,rC r l2 hl.2 e2⟩
end
theorem qw.blk_all {t:Tm} {x:t.ty.den} {vs:Y TV} {h1:bn} {l1:Y (J ii)} (I:qw t x vs h1 l1) {i:Nat} {b:ii} (hb:h1.get i=Z b) {y:u_} (d:jC h1 b=Z y):y.c.all (UZ t.bs.length)=M:=by
 cases b with
 |rows ty p T xs=>
  simp only[jC]at d;split at d
  .cases d
  .simp only[af]at d;subst d;rfl
 |cells ty l=>
  cases ty with
  |some ty=>
   simp only[jC]at d;split at d
   .rename_i q hl;simp only[af]at d;subst d;exact rC l q (I.cells i _ l hb).2 hl
   .cases d
  |none=>
   simp only[jC]at d;split at d
   .rename_i q hl;simp only[af]at d;subst d;show AV.allL _ ((oC 0 q).map (·.2))=M;rw[L8];exact rC l q (I.cells i _ l hb).2 hl
   .cases d
 |dead p sz n=>cases d
 |mp K V es=>
  simp only[jC,af]at d;subst d;show BC.all _ (YN K V es)=M;unfold YN;split
  .rfl
  .simp only[BC.all,G0];have key:∀l:Y (K.den×V.den),AV.allL (UZ t.bs.length) (l.map ((λx=>x.2)∘λp=>(pC K p.1,AV.f (gi V p.2))))=M:=λl=>by
    induction l with
    |nil=>rfl
    |cons e r s=>simp only[eY,AV.allL,ak];exact⟨rfl,s⟩
   exact key es
theorem qw.lt_len {t:Tm} {x:t.ty.den} {vs:Y TV} {h1:bn} {l1:Y (J ii)} (I:qw t x vs h1 l1) {i:Nat} {b:ii} (hb:h1.get i=Z b):i<t.bs.length:=by
 rw[<- I.len];exact (bo.1 ((I.at_ i b).1 hb)).1
def φ1 (nb:Nat) (g:Nat->Nat) (φ:PM):PM:=λn=>if UZ nb n then φ (He g n) else U
theorem X' {nb:Nat} {g:Nat->Nat} {φ:PM} {i:Nat} (hi:i<nb):φ1 nb g φ (nm i)=φ (nm (g i)):=by
 unfold φ1;rw[aW (AO.2 hi),wM]
theorem wn {nb:Nat} {g:Nat->Nat} {φ:PM} {n k:Nat} (h:φ1 nb g φ n=Z k):∃i,i<nb/\n=nm i/\φ (nm (g i))=Z k:=by
 unfold φ1 at h;split at h
 .rename_i hp;obtain⟨i,hi,rfl⟩:=Yz hp;rw[wM]at h;exact⟨i,hi,rfl,h⟩
 .cases h
structure ad4 (t:Tm) (x:t.ty.den) (vs:List TV) (h1:bn) (g:Nat->Nat) (φ:PM) (E E':Nat->Prop) (Hv:HF) (w:World):Prop where
 rep:qI (φ1 t.bs.length g φ) E' (bD h1) w
 val:∀x v,x.all (UZ t.bs.length)=M->cK φ (tot E φ Hv) w (x.ren (He g)) v->cK (φ1 t.bs.length g φ) (tot E' (φ1 t.bs.length g φ) (bD h1)) w x v
 own_:∀k,own (φ1 t.bs.length g φ) (bD h1) k->own φ Hv k
 tot_:∀k,tot E' (φ1 t.bs.length g φ) (bD h1) k->tot E φ Hv k
theorem qI.toId {t:Tm} {x:t.ty.den} {vs:Y TV} {h1:bn} {l1:Y (J ii)} (I:qw t x vs h1 l1) {g:Nat->Nat} (inj:∀a b,a<t.bs.length->b<t.bs.length->g a=g b->a=b) {φ:PM} {E E':Nat->Prop} {Hv:HF} {w:World} (r:qI φ E Hv w)
 (hat:∀i b y,h1.get i=Z b->jC h1 b=Z y->Hv (nm (g i))=Z (y.ren (He g)))
 (F:∀k,E' k->tot E φ Hv k) (hne:∀i k b,i<t.bs.length->Hv (nm (g i))=Z b->φ (nm (g i))=Z k->¬E' k) (hel:∀k,E' k->k<w.heap.size):ad4 t x vs h1 g φ E E' Hv w:=by
 have own1:∀k,own (φ1 t.bs.length g φ) (bD h1) k->own φ Hv k:=by
  rintro k ⟨n,y,h2,h3⟩;obtain⟨i,hi,rfl,z⟩:=wn h3;obtain⟨j,b,e,s,d⟩:=jB h2;have:=kT e;subst this;exact⟨nm (g i),_,hat i b y s d,z⟩
 have tot1:∀k,tot E' (φ1 t.bs.length g φ) (bD h1) k->tot E φ Hv k:=λk hk=>hk.elim (F k) λh=>.inr (own1 k h)
 have val:∀x v,x.all (UZ t.bs.length)=M->cK φ (tot E φ Hv) w (x.ren (He g)) v->cK (φ1 t.bs.length g φ) (tot E' (φ1 t.bs.length g φ) (bD h1)) w x v:=λx v D hr=>by
  have h2:cK (φ1 t.bs.length g φ) (tot E φ Hv) w x v:=cK.renFrom (λi k hp hk=>by unfold φ1;rw[aW hp];exact hk) hr x D rfl;exact h2.ext (λ_ _ h=>h) (GP.refl _ w) λk _ hk=>tot1 k hk
 refine ⟨⟨λn n' b b' k A g2 g3 g4=>?_,λn y A=>?_,hel,λg' cells hg=>(r.gl g' cells hg).ext (GP.refl _ w) λk _ hk=>tot1 k hk⟩,val,own1,tot1⟩
 .obtain⟨i,hi,rfl,z⟩:=wn g3;obtain⟨j,hj,rfl,s⟩:=wn g4;obtain⟨i',c,e,d,q⟩:=jB A;have:=kT e;subst this;obtain⟨j',c',e,h8,L⟩:=jB g2;have:=kT e;subst this;have:=r.inj _ _ _ _ k (hat i c _ d q) (hat j c' _ h8 L) z s;rw[inj i j hi hj (kT this)]
 .obtain⟨i,c,rfl,d,q⟩:=jB A;have hi:=I.lt_len d;obtain⟨k,p1,p2,ob,p3,p4⟩:=r.at_ _ _ (hat i c y d q);exact⟨k,by rw[X' hi];exact p1,hne i k _ hi (hat i c y d q) p1,ob,p3,iY.renFrom val (I.blk_all d q) p4⟩
theorem BM.view {g:Nat->Nat} {h hv:bn} {H H':HF} {m:Nat} (d:ul H H') (z:Dl h H H' m) (hr:xc hv h) {b0 c:ii} (hb:BM g h m b0 c) {y s:u_} (e0:jC h b0=Z y) (e1:jC hv c=Z s):iv H H' y s:=by
 cases hb with
 |rows ty p T xs=>
  simp only[jC]at e0 e1;rw[e0]at e1;cases e1;exact iv.refl d y
 |mp K V es=>
  simp only[jC]at e0 e1;rw[e0]at e1;cases e1;exact iv.refl d y
 |cells ty ps x l l2 m' hg hp hm=>
  have key:∀q cs',cF h l=Z q->cF hv l2=Z cs'->gY H H' q cs'/\∀x∈cs',x.isCell=M:=λq cs' hl hc=>by
   obtain⟨l1,A,q1,q2,q3⟩:=Cm d hr ps l x m' [] l2 q cs' hg hp hl hc λi hi=>z i (hm i hi)
   simp only[cF,af]at q2;subst q2;rw[oe]at q1;subst q1;exact⟨q3,lY (rN hc (wv ps x l2 hp))⟩
  cases ty with
  |some ty=>
   simp only[jC]at e0 e1;split at e0
   .rename_i q hl;simp only[af]at e0;subst e0;split at e1
    .rename_i cs' hc;simp only[af]at e1;subst e1;exact iv.cells rfl rfl (key _ _ hl hc).1 (key _ _ hl hc).2
    .cases e1
   .cases e0
  |none=>
   simp only[jC]at e0 e1;split at e0
   .rename_i q hl;simp only[af]at e0;subst e0;split at e1
    .rename_i cs' hc;simp only[af]at e1;subst e1;exact iv.told (key _ _ hl hc).1
    .cases e1
   .cases e0
theorem BM.erB_some {g:Nat->Nat} {h hv:bn} {nx m:Nat} (hinv:mg h nx) {i:Nat} {b0 c:ii} (h0:h.get i=Z b0) (hb:BM g h m b0 c) {d:u_} (e1:jC hv c=Z d):∃y,jC h b0=Z y:=by
 cases hb with
 |rows ty p T xs=>exact⟨d,e1⟩
 |mp K V es=>exact⟨d,e1⟩
 |cells ty ps x l l2 m' hg hp hm=>
  obtain⟨q,hl⟩:=eU h l (hinv.cells i _ l h0);cases ty<;>exact⟨_,by simp only[jC,hl];rfl⟩
theorem BM.row {g:Nat->Nat} {h:bn} {m:Nat} {b0 c:ii} (hb:BM g h m b0 c):mN c=mN b0:=by
 cases hb<;>rfl
structure pG (P:Program) (f:FuncId) (c:cj):Prop where
 callable:Dd P f
 calls:∀x y,c.m x=Z y->∀vs hp l1 rs hq l2 la lr,qw c.pre x vs hp l1->qw c.post y rs hq l2->cF hp vs=Z la->cF hq rs=Z lr->
  ∀(φ:PM) (E:Nat->Prop) (w:World) (us:ξ),qI φ E (bD hp) w->j9 φ (tot E φ (bD hp)) w la us->(∀n k,φ n=Z k->ow n<c.pre.bs.length)->
  Calls P f us.toArray w λen w'=>∃v φ',en= .returned v/\GP (own φ (bD hp)) w w'/\(∀k,k<w.heap.size->own φ' (bD hq) k->own φ (bD hp) k)/\(∀i,i<c.pre.bs.length->φ' (nm i)=φ (nm i))/\qI φ' E (bD hq) w'/\cK φ' (tot E φ' (bD hq)) w' (Dm lr) v
theorem L3 {g:Nat->Nat}:∀(bs:Y PB) (x:(PB.tyL bs).den) (l:Y (J ii)),AX bs=M->om g bs x=Z l->∀(i:Nat) (c:J ii),l[i]? =Z c->∃b,c=Z b
 |[],x,l,_,hp,i,c,hc=>by simp only[om,af]at hp;subst hp;simp at hc
 |b::r,x,l,hn,hp,i,c,hc=>by
  simp only[om]at hp;split at hp
  .rename_i a d;split at hp
   .rename_i q hq;simp only[af]at hp;subst hp;cases i with
    |zero=>
     simp at hc;subst hc;cases b with
     |gone=>simp[AX]at hn
     |rows ty p T=>simp only[BV,af]at d;exact⟨_,d.symm⟩
     |rowsP ty T=>simp only[BV,af]at d;exact⟨_,d.symm⟩
     |cells ty ps=>
      simp only[BV]at d;split at d
      .simp only[af]at d;exact⟨_,d.symm⟩
      .cases d
     |mp K V=>simp only[BV,af]at d;exact⟨_,d.symm⟩
    |succ i=>
     refine L3 r _ q ?_ hq i c (by simpa using hc);cases b<;>first|exact hn|simp[AX]at hn
   .cases hp
  .cases hp
theorem EI {h h2:bn} {g:Nat->Nat}:∀n,tg h h2 g n=M->∀i,i<n->∀r,ej h (g i)=Z r->ej h2 (g i)=Z r
 |0,_,i,hi,_,_=>by omega
 |n+1,hs,i,hi,r,hr=>by
  simp only[tg,ak]at hs;by_cases e:i=n
  .subst e;obtain⟨p,s,k⟩:=r;have h1:=hs.1;rw[hr]at h1;cases d:ej h2 (g i) with
   |none=>rw[d]at h1;cases h1
   |some q=>
    obtain⟨z,s',k'⟩:=q;rw[d]at h1;simp only[ak,cQ]at h1;rw[h1.1.1,au h1.1.2,au h1.2]
  .exact EI n hs.2 i (by omega) r hr
theorem j9.le {H H':HF} {φ:PM} {E:Nat->Prop} {w:World} (r:qI φ E H w):∀{l d:Y AV} {us:ξ},gY H H' l d->j9 φ (tot E φ H) w l us->j9 φ (tot E φ H') w d us
 |[],[],[],_,_=>trivial
 |[],[],_::_,_,h=>h.elim
 |_::_,_::_,[],_,h=>h.elim
 |[],_::_,_,h,_=>h.elim
 |_::_,[],_,h,_=>h.elim
 |_::_,_::_,_::_,hl,h=>⟨hl.1 _ _ _ _ r h.1,j9.le r hl.2 h.2⟩
theorem j9.toId {φ φ':PM} {O O':Nat->Prop} {w:World} {γ:Nat->Nat} {p:Nat->Bool} (hv:∀x v,x.all p=M->cK φ O w (x.ren γ) v->cK φ' O' w x v):∀{l:Y AV} {us:ξ},AV.allL p l=M->j9 φ O w (AV.renL γ l) us->j9 φ' O' w l us
 |[],[],_,_=>trivial
 |[],_::_,_,h=>h.elim
 |_::_,[],_,h=>h.elim
 |_::_,_::_,hp,h=>by
  simp only[AV.allL,ak]at hp;exact⟨hv _ _ hp.1 h.1,j9.toId hv hp.2 h.2⟩
theorem UW {h:bn}:∀{rs:Y TV} {lr:Y AV},cF h rs=Z lr->cf h (O5 rs)=Z (Dm lr)
 |[],lr,he=>by simp only[cF,af]at he;subst he;rfl
 |[x],lr,he=>by
  obtain⟨y,l2,rfl,e1,e2⟩:=cU he;simp only[cF,af]at e2;subst e2;exact e1
 |x::y::r,lr,he=>by
  obtain⟨q,l2,rfl,e1,e2⟩:=cU he;obtain⟨d,s,rfl,e3,z⟩:=cU e2;simp only[O5,cf,he,Dm]
theorem Yi (γ:Nat->Nat):∀l:Y AV,Dm (AV.renL γ l)=(Dm l).ren γ
 |[]=>rfl
 |[x]=>rfl
 |x::y::r=>rfl
theorem Yj {p:Nat->Bool}:∀{l:Y AV},AV.allL p l=M->(Dm l).all p=M
 |[],_=>rfl
 |[x],h=>by simp only[AV.allL,ak]at h;exact h.1
 |x::y::r,h=>h
theorem abn {nx d q:Nat}:aP (((1<<<d)-1)<<<nx) q=M↔nx<=q/\q<nx+d:=by
 rw[Nat.testBit_shiftLeft,Nat.one_shiftLeft,Nat.testBit_two_pow_sub_one];simp only[ak,bB];omega
theorem ZG {P:Program} {o:Oper} {e:iN} {h:bn} {nx:Nat} {f:FuncId} {c:cj} {l:Y TV} (hinv:mg h nx) (sp:pG P f c) {x:c.pre.ty.den} {m:Nat} {σ:PT Nat} {sm:Nat} (A:Hm 0 c.pre l h x m σ sm) {vs:Y TV} {hp:bn} {l1:Y (J ii)} (I:qw c.pre x vs hp l1) (hng:AX c.pre.bs=M) {y:c.post.ty.den} (hm:c.m x=Z y) {rs:Y TV} {hq:bn} {l2:Y (J ii)} (B:qw c.post y rs hq l2) (hle:c.pre.bs.length<=c.post.bs.length)
 {g:Nat->Nat} (glo:∀i,i<c.pre.bs.length->g i=ie σ i) (ghi:∀i,c.pre.bs.length<=i->g i=nx+(i-c.pre.bs.length)) {h2:bn} (hh2:h2=zM g 0 (l2.map (l7 (lH g))) (d_ m h)) (hsr:tg h h2 g c.pre.bs.length=M) {la:Y AV} (hla:cF h l=Z la)
 (hexec:∀(φ:PM) (E:Nat->Prop) (h':HF) (w:World) (a:Act),(∀t,.tmp t∈o.op.operands->∀y,fq e h t=Z y->cK φ (tot E φ h') w y (a.tmps.getD t undef))->qI φ E h' w->∃us:ξ,(execOp a.eval o).run P w= .ok (.enter f us.toArray) w/\j9 φ (tot E φ h') w la us):
 iE P o aa e h nx (O5 (kH g rs)) (sm|||m) (sm|||m|||(((1<<<(c.post.bs.length-c.pre.bs.length))-1)<<<nx)) h2 (nx+(c.post.bs.length-c.pre.bs.length)):=by
 obtain⟨x1,m1,x2,m2,hx,hmm,gv,gb⟩:=A.ex;have hmr:dN h m:=by rw[hmm];exact (Hb _ _ _ _ gv).or (Hd _ _ _ _ gb)
 generalize hnp:c.pre.bs.length=np at*
 generalize hnq:c.post.bs.length=nq at*
 have pvg:pQ (ie σ) c.pre.vs x1=Z (kH (ie σ) vs):=by
  have d:=sZ (ie σ) c.pre.vs x1;have h4:=I.pv;rw[hx,sU]at h4;rw[d,h4];rfl
 have pbg:om (ie σ) c.pre.bs x2=Z (l1.map (l7 (lH (ie σ)))):=by
  have d:=vn (ie σ) c.pre.bs x2;have h4:=I.pb;rw[hx,uu]at h4;rw[d,h4];rfl
 have hl1:∀i,i<np->∃b,l1[i]? =Z (Z b):=λi hi=>by
  have L:i<l1.length:=by rw[I.len,hnp];exact hi
  obtain⟨b,hb⟩:=L3 c.pre.bs _ l1 hng I.pb i l1[i] (aw L);exact⟨b,by rw[aw L,hb]⟩
 have hbm:∀i b,l1[i]? =Z (Z b)->∃b0,h.get (ie σ i)=Z b0/\BM (ie σ) h m b0 (lH (ie σ) b):=λi b hb=>by
  obtain⟨b0,q1,q2⟩:=IE c.pre.bs 0 x2 m2 _ gb pbg i (lH (ie σ) b) (by rw[bk,hb];rfl);rw[bM]at q1;exact⟨b0,q1,q2.mono λj hj=>by rw[hmm,bz,hj];simp⟩
 have inj1:∀a b,a<np->b<np->ie σ a=ie σ b->a=b:=λa b ha hb=>A.inj a b (by rw[hnp];exact ha) (by rw[hnp];exact hb)
 have sig:∀q,aP sm q=M↔∃k,k<np/\ie σ k=q:=λq=>by rw[A.sig,hnp]
 have gnx:∀i,i<np->ie σ i<nx:=λi hi=>by
  obtain⟨b,hb⟩:=hl1 i hi;obtain⟨b0,q1,_⟩:=hbm i b hb;exact hinv.low _ _ q1
 have hmS:∀i,i<np->aP m (ie σ i)=aa:=λi hi=>by
  cases hx:aP m (ie σ i) with
  |false=>rfl
  |true=>have:=A.disj _ hx;rw[(sig _).2 ⟨i,hi,rfl⟩]at this;cases this
 have injg:∀a b,a<nq->b<nq->g a=g b->a=b:=λa b ha hb hab=>by
  by_cases h1:a<np
  .by_cases h2:b<np
   .rw[glo a h1,glo b h2]at hab;exact inj1 a b h1 h2 hab
   .rw[glo a h1,ghi b (by omega)]at hab;have:=gnx a h1;omega
  .by_cases h2:b<np
   .rw[ghi a (by omega),glo b h2]at hab;have:=gnx b h2;omega
   .rw[ghi a (by omega),ghi b (by omega)]at hab;omega
 let hv:bn:=zM (ie σ) 0 (l1.map (l7 (lH (ie σ)))) (d_ m h)
 have hv_at:∀i b,l1[i]? =Z (Z b)->hv.get (ie σ i)=Z (lH (ie σ) b):=λi b hb=>by
  have:=uB (ie σ) (l1.map (l7 (lH (ie σ)))) 0 (d_ m h) (λa b ha hb=>by
   simp only[cz,I.len,hnp]at ha hb;simp only[bM];exact inj1 a b ha hb) i (Z (lH (ie σ) b)) (by rw[bk,hb];rfl)
  rw[bM]at this;exact this
 have hv_ne:∀j,(∀i,i<np->j≠ie σ i)->hv.get j=(d_ m h).get j:=λj hj=>
  uA (ie σ) _ 0 _ j λk hk=>by
   simp only[cz,I.len,hnp]at hk;rw[bM];exact hj k hk
 have rows_in:xc hv h:=λj r hr=>by
  rw[bR]at hr ⊢;by_cases hj:∃i,i<np/\j=ie σ i
  .obtain⟨i,hi,rfl⟩:=hj;obtain⟨b,hb⟩:=hl1 i hi;obtain⟨b0,q1,q2⟩:=hbm i b hb;rw[hv_at i b hb]at hr;rw[q1];simp only[aD]at hr ⊢;rw[<- q2.row];exact hr
  .rw[hv_ne j (λi hi e=>hj ⟨i,hi,e⟩),iX]at hr;split at hr
   .rename_i ht;obtain⟨ty,p,T,xs,hb⟩:=hmr j ht;rw[hb]at hr ⊢;exact hr
   .exact hr
 have rows_hp:∀i r,ej hp i=Z r->ej hv (ie σ i)=Z r:=λi r hr=>by
  rw[bR]at hr ⊢;cases hb:hp.get i with
  |none=>rw[hb]at hr;cases hr
  |some b=>
   rw[hb]at hr;rw[hv_at i b ((I.at_ i b).1 hb)];simp only[aD,Hy]at hr ⊢;exact hr
 have dead_m:∀i,aP m i=M->bD hv (nm i)=U:=λi hi=>by
  rw[bL,hv_ne i (λk hk e=>by rw[e,hmS k hk]at hi;cases hi)];obtain⟨p,sz,n,hd⟩:=tb hmr hi;rw[hd];rfl
 have h2_at:∀i cc,l2[i]? =Z cc->h2.get (g i)=(match cc with|some b=>Z (lH g b)|none=>((d_ m h).get (g i)).map uC):=λi cc hc=>by
  have:=uB g (l2.map (l7 (lH g))) 0 (d_ m h) (λa b ha hb=>by
   simp only[cz,B.len,hnq]at ha hb;simp only[bM];exact injg a b ha hb) i (cc.map (lH g)) (by rw[bk,hc];rfl)
  rw[bM]at this;rw[hh2,this];cases cc<;>rfl
 have h2_ne:∀j,(∀i,i<nq->j≠g i)->h2.get j=(d_ m h).get j:=λj hj=>by
  rw[hh2];refine uA g _ 0 _ j λk hk=>?_
  simp only[cz,B.len,hnq]at hk;rw[bM];exact hj k hk
 have rows_hq:∀i r,ej hq i=Z r->ej h2 (g i)=Z r:=λi r hr=>by
  rw[bR]at hr ⊢;cases hb:hq.get i with
  |none=>rw[hb]at hr;cases hr
  |some b=>
   rw[hb]at hr;rw[h2_at i _ ((B.at_ i b).1 hb)];simp only[aD,Hy]at hr ⊢;exact hr
 have rows2:b_ h h2:=λj r hr=>by
  by_cases hj:∃i,i<np/\j=ie σ i
  .obtain⟨i,hi,rfl⟩:=hj;rw[<- glo i hi]at hr ⊢;exact EI np hsr i hi r hr
  .have hjn:j<nx:=by
    rw[bR]at hr;cases hb:h.get j with
    |none=>rw[hb]at hr;cases hr
    |some b=>exact hinv.low j b hb
   have:=b_.kill m h j r hr;rw[bR]at this ⊢;rw[h2_ne j (λi hi e=>?_)]
   .exact this
   .by_cases hip:i<np
    .exact hj ⟨i,hip,by rw[e,glo i hip]⟩
    .rw[ghi i (by omega)]at e;omega
 obtain⟨lr,hlr⟩:=eU hq rs B.ok;obtain⟨lp,hlp⟩:=eU hp vs I.ok;have er2:∀i b D,hq.get i=Z b->jC hq b=Z D->bD h2 (nm (g i))=Z (D.ren (He g)):=λi b D hb hyb=>by
  rw[bL,h2_at i _ ((B.at_ i b).1 hb)];exact Cr rows_hq hyb
 have er2':∀i,i<nq->∀z,bD h2 (nm (g i))=Z z->∃b D,hq.get i=Z b/\jC hq b=Z D/\z=D.ren (He g):=λi hi z s=>by
  have L:i<l2.length:=by rw[B.len,hnq];exact hi
  have hcc:=aw L;cases hcv:l2[i] with
  |none=>
   rw[hcv]at hcc;rw[bL,h2_at i U hcc]at s;simp only at s;cases hkg:(d_ m h).get (g i) with
   |none=>rw[hkg]at s;cases s
   |some b0=>rw[hkg]at s;cases b0<;>simp[uC,jC]at s
  |some b=>
   rw[hcv]at hcc;have hb:=(B.at_ i b).2 hcc;rw[bL,h2_at i (Z b) hcc]at s;have hyb:∃D,jC hq b=Z D:=by
    cases b with
    |rows ty p T xs=>simp only[aD,lH,jC]at s ⊢;exact⟨z,s⟩
    |cells ty q=>
     obtain⟨q',hq'⟩:=eU hq q (B.cells i _ q hb).1;cases ty<;>exact⟨_,by simp only[jC,hq'];rfl⟩
    |dead p sz n=>simp[lH,jC]at s
    |mp K V es=>exact⟨_,rfl⟩
   obtain⟨D,hyb⟩:=hyb;have:=Cr rows_hq hyb;simp only[aD]at s;rw[this]at s;exact⟨b,D,hb,hyb,by cases s;rfl⟩
 have dead2:∀i,aP m i=M->bD h2 (nm i)=U:=λi hi=>by
  have hlt:=hmr.lt hinv hi;rw[bL,h2_ne i (λk hk e=>?_)]
  .obtain⟨p,sz,n,hd⟩:=tb hmr hi;rw[hd];rfl
  .by_cases hkp:k<np
   .rw[e,glo k hkp,hmS k hkp]at hi;cases hi
   .rw[ghi k (by omega)]at e;omega
 have inv2:mg h2 (nx+(nq-np)):=by
  refine ⟨λj ty q hj=>?_,λj b hj=>?_⟩
  .by_cases hjg:∃i,i<nq/\j=g i
   .obtain⟨i,hi,rfl⟩:=hjg;have L:i<l2.length:=by rw[B.len,hnq];exact hi
    have hcc:=aw L;cases hcv:l2[i] with
    |none=>
     rw[hcv]at hcc;rw[h2_at i U hcc]at hj;simp only at hj;cases hkg:(d_ m h).get (g i) with
     |none=>rw[hkg]at hj;cases hj
     |some b0=>rw[hkg]at hj;cases b0<;>simp[uC]at hj
    |some b=>
     rw[hcv]at hcc;have hb:=(B.at_ i b).2 hcc;rw[h2_at i (Z b) hcc]at hj;simp only[af]at hj;cases b with
     |cells ty' q'=>
      simp only[lH,ii.cells.injEq]at hj;obtain⟨_,rfl⟩:=hj;obtain⟨z,s⟩:=eU hq q' (B.cells i _ q' hb).1;exact jX _ _ _ (oW rows_hq q' z s)
     |rows _ _ _ _=>simp[lH]at hj
     |dead _ _ _=>simp[lH]at hj
     |mp _ _ _=>simp[lH]at hj
   .rw[h2_ne j (λi hi e=>hjg ⟨i,hi,e⟩)]at hj;refine iU rows2 q ?_;have hkk:=(hinv.kill m).cells j _ q hj;rw[iX]at hj;split at hj
    .rename_i ht;obtain⟨_,_,_,_,hb⟩:=hmr j ht;rw[hb]at hj;cases hj
    .exact hinv.cells j _ q hj
  .by_cases hjg:∃i,i<nq/\j=g i
   .obtain⟨i,hi,rfl⟩:=hjg;by_cases hip:i<np
    .rw[glo i hip];have:=gnx i hip;omega
    .rw[ghi i (by omega)];omega
   .rw[h2_ne j (λi hi e=>hjg ⟨i,hi,e⟩)]at hj;have:=(hinv.kill m).low j b hj;omega
 let S:ι:=(gx np).map λi=>nm (ie σ i)
 have memS:∀n,n∈S↔∃i,i<np/\n=nm (ie σ i):=λn=>by
  simp only[S,cZ,nz];exact⟨λ⟨i,h1,h2⟩=>⟨i,h1,h2.symm⟩,λ⟨i,h1,h2⟩=>⟨i,h1,h2.symm⟩⟩
 let NN:ι:=(gx (nq-np)).map λt=>nm (nx+t)
 have memN:∀n,n∈NN↔∃t,t<nq-np/\n=nm (nx+t):=λn=>by
  simp only[NN,cZ,nz];exact⟨λ⟨i,h1,h2⟩=>⟨i,h1,h2.symm⟩,λ⟨i,h1,h2⟩=>⟨i,h1,h2.symm⟩⟩
 have memW:∀n,n∈S++EQ m++NN↔(∃i,i<nq/\n=nm (g i))\/n∈EQ m:=λn=>by
  rw[bP,bP,memS,memN];constructor
  .rintro ((⟨i,hi,rfl⟩|hn)|⟨t,ht,rfl⟩)
   .exact .inl ⟨i,by omega,by rw[glo i hi]⟩
   .exact .inr hn
   .exact .inl ⟨np+t,by omega,by rw[ghi _ (by omega),show np+t-np=t from by omega]⟩
  .rintro (⟨i,hi,rfl⟩|hn)
   .by_cases hip:i<np
    .exact .inl (.inl ⟨i,hip,by rw[glo i hip]⟩)
    .exact .inr ⟨i-np,by omega,by rw[ghi i (by omega)]⟩
   .exact .inl (.inr hn)
 have hOpT:gD P o (fq e h) (bD h) ⟨Dm (AV.renL (He g) lr),S++EQ m,S++EQ m++NN,bD h2,NN⟩:=by
  intro φ E h' w a hrd hwr hops hrep hN;have hS':∀i,i<np->h' (nm (ie σ i))=bD h (nm (ie σ i)):=λi hi=>hrd _ (jp _ ((memS _).2 ⟨i,hi,rfl⟩))
  have hM':∀i,aP m i=M->h' (nm i)=bD h (nm i):=λi hi=>hrd _ (kx _ (lK.2 hi))
  obtain⟨us,hrun,hrel⟩:=hexec φ E h' w a hops hrep
  let Hv:HF:=λn=>if n∈S++EQ m then bD hv n else h' n
  have Hv_in:∀n,n∈S++EQ m->Hv n=bD hv n:=λn hn=>by simp only[Hv,hn,bH]
  have Hv_out:∀n,n∉S++EQ m->Hv n=h' n:=λn hn=>by simp only[Hv,hn,dx]
  have blkS:∀i,i<np->∀z,bD hv (nm (ie σ i))=Z z->∃b0 b y0,h.get (ie σ i)=Z b0/\l1[i]? =Z (Z b)/\BM (ie σ) h m b0 (lH (ie σ) b)/\jC h b0=Z y0/\jC hv (lH (ie σ) b)=Z z:=λi hi z s=>by
   obtain⟨b,hb⟩:=hl1 i hi;obtain⟨b0,q1,q2⟩:=hbm i b hb;rw[bL,hv_at i b hb]at s;simp only[aD]at s;obtain⟨y0,hy0⟩:=BM.erB_some hinv q1 q2 s;exact⟨b0,b,y0,q1,hb,q2,hy0,s⟩
  have hd:ul h' Hv:=λn b hb=>by
   by_cases hn:n∈S++EQ m
   .rw[Hv_in n hn]at hb;rcases bP.1 hn with hs|hs
    .obtain⟨i,hi,rfl⟩:=(memS n).1 hs;obtain⟨b0,b1,y0,q1,q2,q3,q4,q5⟩:=blkS i hi b hb;exact⟨y0,by rw[hS' i hi,bL,q1];exact q4⟩
    .obtain⟨i,rfl,hi⟩:=nK.1 hs;rw[dead_m i hi]at hb;cases hb
   .rw[Hv_out n hn]at hb;exact⟨b,hb⟩
  have gvv:Dl h h' Hv m:=λi hi=>⟨hM' i hi,by rw[Hv_in _ (kx _ (lK.2 hi)),dead_m i hi]⟩
  have V:GJ h' Hv:=⟨hd,λn b b' hb hb'=>by
   by_cases hn:n∈S++EQ m
   .rw[Hv_in n hn]at hb';rcases bP.1 hn with hs|hs
    .obtain⟨i,hi,rfl⟩:=(memS n).1 hs;obtain⟨b0,b1,y0,q1,q2,q3,q4,q5⟩:=blkS i hi b' hb';rw[hS' i hi,bL,q1]at hb;simp only[aD]at hb;exact BM.view hd gvv rows_in q3 hb q5
    .obtain⟨i,rfl,hi⟩:=nK.1 hs;rw[dead_m i hi]at hb';cases hb'
   .rw[Hv_out n hn,hb]at hb';cases hb';exact iv.refl hd b⟩
  have hrepv:=V.rep hrep;have hlpg:cF hv (kH (ie σ) vs)=Z (AV.renL (He (ie σ)) lp):=oW rows_hp vs lp hlp;have hrel1:j9 φ (tot E φ Hv) w (AV.renL (He (ie σ)) lp) us:=
   j9.le hrep (Cl hd rows_in c.pre.vs l x1 m1 _ la _ gv pvg hla hlpg (λi hi=>gvv i (by rw[hmm,bz,hi];rfl))) hrel
  let E':Nat->Prop:=λk=>E k\/∃n b,Hv n=Z b/\n∉S/\φ n=Z k
  have T:ad4 c.pre x vs hp (ie σ) φ E E' Hv w:=by
   refine qI.toId I (λa b ha hb=>inj1 a b (by rw[<- hnp];exact ha) (by rw[<- hnp];exact hb)) hrepv (λi b D hb hyb=>?_) ?_ ?_ ?_
   .have hi:=I.lt_len hb;rw[hnp]at hi;rw[Hv_in _ (jp _ ((memS _).2 ⟨i,hi,rfl⟩)),bL,hv_at i b ((I.at_ i b).1 hb)];exact Cr rows_hp hyb
   .rintro k (hE|⟨n,b,h1,_,d⟩)
    .exact .inl hE
    .exact .inr ⟨n,b,h1,d⟩
   .rintro i k b hi h1 d (hE|⟨n,b',h4,h5,h6⟩)
    .obtain⟨k',p1,p2,_⟩:=hrepv.at_ _ _ h1;rw[d]at p1;cases p1;exact p2 hE
    .have:=hrepv.inj _ _ _ _ k h1 h4 d h6;exact h5 (by rw[<- this];exact (memS _).2 ⟨i,by rw[<- hnp];exact hi,rfl⟩)
   .rintro k (hE|⟨n,b,h1,_,d⟩)
    .exact hrepv.el k hE
    .obtain⟨k',q1,_,ob,q3,_⟩:=hrepv.at_ n b h1;rw[d]at q1;cases q1;exact (cr.1 q3).1
  have hcalls:=sp.calls x y hm vs hp l1 rs hq l2 lp lr I B hlp hlr (φ1 c.pre.bs.length (ie σ) φ) E' w us T.rep (j9.toId T.val (rC vs lp I.lt hlp) hrel1) (λn k hk=>by
   obtain⟨i,hi,rfl,_⟩:=wn hk;rw[dS];exact hi)
  unfold GY;rw[hrun];refine Calls.mono hcalls ?_;rintro en w' ⟨v,φc',rfl,hext,hown,hnm,rp,rv'⟩
  let isN:Nat->Prop:=λn=>n∈NN
  let φ':PM:=λn=>if n∈NN then φc' (nm (np+(ow n-nx))) else φ n
  have φ'_new:∀t,t<nq-np->φ' (nm (nx+t))=φc' (nm (np+t)):=λt ht=>by
   have:nm (nx+t)∈NN:=(memN _).2 ⟨t,ht,rfl⟩;simp only[φ',this,bH,dS];rw[show nx+t-nx=t from by omega]
  have φ'_old:∀n,n∉NN->φ' n=φ n:=λn hn=>by simp only[φ',hn,dx]
  have loN:∀i,i<nx->nm i∉NN:=λi hi hn=>by
   obtain⟨t,_,e⟩:=(memN _).1 hn;have:=kT e;omega
  have φ'_g:∀i,i<nq->φ' (nm (g i))=φc' (nm i):=λi hi=>by
   by_cases hip:i<np
   .rw[glo i hip,φ'_old _ (loN _ (gnx i hip)),hnm i (by rw[hnp];exact hip),X' (by rw[hnp];exact hip)]
   .rw[ghi i (by omega),φ'_new _ (by omega),show np+(i-np)=i from by omega]
  have hsub:∀n k,φ n=Z k->φ' n=Z k:=λn k hk=>by
   by_cases hn:n∈NN
   .rw[hN n hn]at hk;cases hk
   .rw[φ'_old n hn];exact hk
  let F:HF:=eG h' (S++EQ m++NN) (bD h2)
  have F_g:∀i,i<nq->F (nm (g i))=bD h2 (nm (g i)):=λi hi=>by
   simp only[F,eG,(memW _).2 (.inl ⟨i,hi,rfl⟩),bH]
  have F_out:∀n,n∉S++EQ m++NN->F n=h' n:=λn hn=>by simp only[F,eG,hn,dx]
  have from_:∀n b,F n=Z b->(∃i bq D,i<nq/\n=nm (g i)/\hq.get i=Z bq/\jC hq bq=Z D/\b=D.ren (He g))\/(h' n=Z b/\Hv n=Z b/\n∉S/\n∉NN/\φ' n=φ n):=λn b hb=>by
   by_cases hn:n∈S++EQ m++NN
   .rcases (memW n).1 hn with ⟨i,hi,rfl⟩|hs
    .rw[F_g i hi]at hb;obtain⟨bq,D,q1,q2,q3⟩:=er2' i hi b hb;exact .inl ⟨i,bq,D,hi,rfl,q1,q2,q3⟩
    .obtain⟨i,rfl,hi⟩:=nK.1 hs;have:F (nm i)=bD h2 (nm i):=by simp only[F,eG,hn,bH]
     rw[this,dead2 i hi]at hb;cases hb
   .rw[F_out n hn]at hb;have h1:n∉S++EQ m:=λhh=>hn (jp _ hh)
    have d:n∉NN:=λhh=>hn (kx _ hh)
    exact .inr ⟨hb,by rw[Hv_out n h1];exact hb,λhh=>h1 (jp _ hh),d,φ'_old n d⟩
  have own':∀k,own φ' F k->own φc' (bD hq) k\/∃n b,Hv n=Z b/\n∉S/\φ n=Z k:=by
   rintro k ⟨n,b,h1,d⟩;rcases from_ n b h1 with ⟨i,bq,D,hi,rfl,q1,q2,_⟩|⟨_,q2,q3,_,q5⟩
   .rw[φ'_g i hi]at d;exact .inl ⟨nm i,D,by rw[bL,q1];exact q2,d⟩
   .exact .inr ⟨n,b,q2,q3,by rw[<- q5];exact d⟩
  have mv:iZ φ φ' h' F w w':=by
   refine ⟨hsub,hext.mono λk hk=>hd.own (T.own_ k hk),λk hk ho=>?_⟩;rcases own' k ho with h1|⟨n,b,h1,_,d⟩
   .exact hd.own (T.own_ k (hown k hk h1))
   .exact hd.own ⟨n,b,h1,d⟩
  have tot':∀k,tot E φ' F k->tot E' φc' (bD hq) k:=by
   rintro k (h1|h1)
   .exact .inl (.inl h1)
   .rcases own' k h1 with d|d
    .exact .inr d
    .exact .inl (.inr d)
  let φr:PM:=λn=>if UZ nq n then φc' n else U
  have rel_r:∀x v,x.all (UZ nq)=M->cK φc' (tot E' φc' (bD hq)) w' x v->cK φr (tot E φ' F) w' x v:=λx v hx hr=>
   hr.restrict (λi k hi hk=>by simp only[φr,hi,bH];exact hk) tot' hx
  have rel_g:∀x v,cK φr (tot E φ' F) w' x v->cK φ' (tot E φ' F) w' (x.ren (He g)) v:=λx v hr=>
   hr.renTo λn k hk=>by
    simp only[φr]at hk;split at hk
    .rename_i hpn;obtain⟨i,hi,rfl⟩:=Yz hpn;rw[wM,φ'_g i hi];exact hk
    .cases hk
  have hnqJ:=hnq;refine ⟨v,φ',rfl,mv,λn k hk=>?_,?_,?_⟩
  .by_cases hn:n∈NN
   .exact .inr hn
   .rw[φ'_old n hn]at hk;exact .inl hk
  .refine ⟨λn n' b b' k h1 d h4 h5=>?_,λn b h1=>?_,λk hk=>dz (hrep.el k hk) mv.ext.size,λg' cells hg=>mv.keepF (hrep.gl g' cells hg)⟩
   .rcases from_ n b h1 with ⟨i,bq,D,hi,rfl,q1,q2,_⟩|⟨q1,q2,q3,_,q5⟩
    .rw[φ'_g i hi]at h4;have hqi:bD hq (nm i)=Z D:=by rw[bL,q1];exact q2
     rcases from_ n' b' d with ⟨j,bj,yj,hj,rfl,t1,t2,_⟩|⟨t1,t2,t3,_,t5⟩
     .rw[φ'_g j hj]at h5;have:=rp.inj _ _ _ _ k hqi (by rw[bL,t1];exact t2) h4 h5;rw[kT this]
     .exfalso;obtain⟨k',p1,p2,_⟩:=rp.at_ _ _ hqi;rw[h4]at p1;cases p1;exact p2 (.inr ⟨n',b',t2,t3,by rw[<- t5];exact h5⟩)
    .rcases from_ n' b' d with ⟨j,bj,yj,hj,rfl,t1,t2,_⟩|⟨t1,t2,t3,_,t5⟩
     .exfalso;rw[φ'_g j hj]at h5;have hqj:bD hq (nm j)=Z yj:=by rw[bL,t1];exact t2
      obtain⟨k',p1,p2,_⟩:=rp.at_ _ _ hqj;rw[h5]at p1;cases p1;exact p2 (.inr ⟨n,b,q2,q3,by rw[<- q5];exact h4⟩)
     .exact hrep.inj n n' b b' k q1 t1 (by rw[<- q5];exact h4) (by rw[<- t5];exact h5)
   .rcases from_ n b h1 with ⟨i,bq,D,hi,rfl,q1,q2,rfl⟩|⟨q1,q2,q3,_,q5⟩
    .have hqi:bD hq (nm i)=Z D:=by rw[bL,q1];exact q2
     obtain⟨k,p1,p2,ob,p3,p4⟩:=rp.at_ _ _ hqi;have hall:=B.blk_all q1 q2;rw[hnq]at hall;exact⟨k,by rw[φ'_g i hi];exact p1,λhE=>p2 (.inl hE),ob,p3,(p4.restrict rel_r hall).renTo rel_g⟩
    .obtain⟨k,p1,p2,ob,p3,p4⟩:=hrep.at_ n b q1;have hk:k<w.heap.size:=(cr.1 p3).1;refine ⟨k,hsub n k p1,p2,ob,?_,p4.mono λx v hr=>mv.keep hr⟩;rw[hext.blk k hk ?_]
     .exact p3
     .rintro⟨n',y',t1,t2⟩;obtain⟨i,hi,rfl,t3⟩:=wn t2;obtain⟨j,bb,e,t4,t5⟩:=jB t1;have:=kT e;subst this;have L:i<np:=by rw[<- hnp];exact hi
      have hvi:Hv (nm (ie σ i))=Z (y'.ren (He (ie σ))):=by
       rw[Hv_in _ (jp _ ((memS _).2 ⟨i,L,rfl⟩)),bL,hv_at i bb ((I.at_ i bb).1 t4)];exact Cr rows_hp t5
      have:=hrepv.inj _ _ _ _ k hvi q2 t3 p1;exact q3 (by rw[<- this];exact (memS _).2 ⟨i,L,rfl⟩)
  .have hall:(Dm lr).all (UZ nq)=M:=Yj (by have:=rC rs lr B.lt hlr;rwa [hnq]at this);show cK φ' (tot E φ' F) w' (Dm (AV.renL (He g) lr)) v;rw[Yi];exact rel_g _ _ (rel_r _ _ hall rv')
 have hrsg:cF h2 (kH g rs)=Z (AV.renL (He g) lr):=oW rows_hq rs lr hlr;refine ⟨⟨_,hOpT,λz s=>?_,?_,λn hn=>?_,λn hn=>?_,λn hn=>?_⟩,rows2,inv2,by omega,λhs=>by cases hs⟩
 .rw[UW hrsg]at s;cases s;rfl
 .funext n;unfold eG;split
  .rfl
  .rename_i hn;refine (kr hinv rows2 λi e=>?_).symm;subst e;rw[h2_ne i (λk hk e=>hn ((memW _).2 (.inl ⟨k,hk,by rw[e]⟩))),iX,aM];intro hb;exact hn ((memW _).2 (.inr (lK.2 hb)))
 .rw[bz];rcases bP.1 hn with hs|hs
  .obtain⟨i,hi,rfl⟩:=(memS n).1 hs;rw[dS,(sig _).2 ⟨i,hi,rfl⟩];rfl
  .obtain⟨i,rfl,hi⟩:=nK.1 hs;rw[dS,hi];simp
 .rw[bz,bz];rcases bP.1 hn with hs|hs
  .rcases bP.1 hs with hs|hs
   .obtain⟨i,hi,rfl⟩:=(memS n).1 hs;rw[dS,(sig _).2 ⟨i,hi,rfl⟩];rfl
   .obtain⟨i,rfl,hi⟩:=nK.1 hs;rw[dS,hi];simp
  .obtain⟨t,ht,rfl⟩:=(memN n).1 hs;rw[dS,abn.2 ⟨by omega,by omega⟩];simp
 .obtain⟨t,ht,rfl⟩:=(memN n).1 hn;rw[dS];omega
mutual
def FV.fl:FV->Bool
 |.raw _=>M
 |.agg l=>FV.flL l
 |.sl _ _=>aa
 |.ptr _ _=>aa
def FV.flL:Y FV->Bool
 |[]=>M
 |x::r=>x.fl&&FV.flL r
end
theorem Ve:∀{l:Y FV},FV.flL l=M->∀x∈l,x.fl=M
 |[],_,x,d=>by cases d
 |y::l,h,x,d=>by
  simp only[FV.flL,ak]at h;rcases bx.1 d with rfl|d
  .exact h.1
  .exact Ve h.2 x d
theorem Zm:∀{l:Y FV},(∀x∈l,x.fl=M)->FV.flL l=M
 |[],_=>rfl
 |y::l,h=>by simp only[FV.flL,ak];exact⟨h y (by simp),Zm λx d=>h x (by simp[d])⟩
theorem mA.flat {O O':Nat->Prop} {w w':World} {x:FV} {v:Value} (h:mA O w x v):x.fl=M->mA O' w' x v:=by
 induction h with
 |raw v=>intro _;exact .raw v
 |nil a c hc=>intro h;cases h
 |sl cells n c b off us hn hc hO hb hcl hu hr d=>intro h;cases h
 |ptr cells o b off us hO hb hcl hu hr d=>intro h;cases h
 |agg cells vs hl hcl hr d=>intro h;exact .agg cells vs hl hcl λj x v q hv=>d j x v q hv (Ve h x (bi q))
mutual
def AV.fl:AV->Bool
 |.f x=>x.fl
 |.emp=>M
 |.anyb=>M
 |.agg l=>AV.flL l
 |.tup l=>AV.flL l
 |.ptr _ _=>aa
 |.sl _ _ _=>aa
 |.row _ _ _=>aa
 |.mp _=>aa
 |.clo _ _=>aa
 |.ful _ _=>aa
def AV.flL:Y AV->Bool
 |[]=>M
 |x::r=>x.fl&&AV.flL r
end
theorem JZ:∀{l:Y AV},AV.flL l=M->∀x∈l,x.fl=M
 |[],_,x,d=>by cases d
 |y::l,h,x,d=>by
  simp only[AV.flL,ak]at h;rcases bx.1 d with rfl|d
  .exact h.1
  .exact JZ h.2 x d
theorem VG:∀{l:Y AV},(∀x∈l,x.fl=M)->AV.flL l=M
 |[],_=>rfl
 |y::l,h=>by simp only[AV.flL,ak];exact⟨h y (by simp),VG λx d=>h x (by simp[d])⟩
theorem cK.flat {φ φ':PM} {O O':Nat->Prop} {w w':World} {x:AV} {v:Value} (h:cK φ O w x v):x.fl=M->cK φ' O' w' x v:=by
 induction h with
 |f h=>intro hf;exact .f (h.flat hf)
 |ptr h=>intro hf;cases hf
 |sl h hn hc=>intro hf;cases hf
 |row h hn hc hsh=>intro hf;cases hf
 |emp=>intro _;exact .emp
 |anyb=>intro _;exact .anyb
 |mp h=>intro hf;cases hf
 |agg hl hcl hr q=>intro hf;exact .agg hl hcl λj x v d hv=>q j x v d hv (JZ hf x (bi d))
 |tup hl hr q=>intro hf;exact .tup hl λj x v d hv=>q j x v d hv (JZ hf x (bi d))
 |clo hl hr q=>intro hf;cases hf
 |ful h=>intro hf;cases hf
mutual
theorem afg (γ:Nat->Nat):∀x:AV,x.fl=M->x.ren γ=x
 |.f x,_=>rfl
 |.emp,_=>rfl
 |.anyb,_=>rfl
 |.agg l,h=>by simp only[AV.ren];rw[Hg γ l h]
 |.tup l,h=>by simp only[AV.ren];rw[Hg γ l h]
 |.ptr _ _,h=>by cases h
 |.sl _ _ _,h=>by cases h
 |.ful _ _,h=>by cases h
 |.row _ _ _,h=>by cases h
 |.mp _,h=>by cases h
 |.clo _ _,h=>by cases h
theorem Hg (γ:Nat->Nat):∀l:Y AV,AV.flL l=M->AV.renL γ l=l
 |[],_=>rfl
 |x::r,h=>by
  simp only[AV.flL,ak]at h;rw[AV.renL,afg γ x h.1,Hg γ r h.2]
end
theorem zA:∀(T:Ty),T.flat=M->∀x:T.den,∀y∈bQ T x,y.fl=M
 |.int _,_,x,y,d=>by simp only[bQ,aI]at d;subst d;rfl
 |.bool,_,x,y,d=>by simp only[bQ,aI]at d;subst d;rfl
 |.str,_,x,y,d=>by simp only[bQ,aI]at d;subst d;rfl
 |.sl _,h,x,y,d=>by cases h
 |.st t,h,x,y,d=>zA t h x y d
 |.pr a b,h,x,y,d=>by
  simp only[Ty.flat,ak]at h;simp only[bQ,bP]at d;exact d.elim (zA a h.1 x.1 y) (zA b h.2 x.2 y)
 |.un,_,x,y,d=>by simp[bQ]at d
 |.ex,h,_,_,_=>by cases h
 |.sm,h,_,_,_=>by cases h
theorem acd (T:Ty) (h:T.flat=M) (x:T.den):(gi T x).fl=M:=by
 cases d:T.one with
 |true=>
  have:=zA T h x (gi T x) (by rw[(Cv T x d).1];simp);exact this
 |false=>rw[ql T x d];exact Zm (zA T h x)
theorem OU (a b:Ty):(spr a b).flat=(a.flat&&b.flat):=by
 cases a<;>cases b<;>simp[spr,FQ,Ty.flat]
theorem H9 {n:Nat}:∀{a b:Y TV},qZ n (a++b)=M->qZ n a=M/\qZ n b=M
 |[],b,h=>⟨rfl,h⟩
 |x::r,b,h=>by
  simp only[ia,qZ,ak]at h ⊢;obtain⟨h1,h2⟩:=H9 h.2;exact⟨⟨h.1,h1⟩,h2⟩
mutual
theorem abf {g:Nat->Nat} {h:bn}:∀(p:PV) (x:p.ty.den) (cs:Y TV) (l:Y AV),p.ty.flat=M->pI g p x=Z cs->qZ 0 cs=M->cF h cs=Z l->∀y∈l,y.fl=M
 |.d T,x,cs,l,hf,hp,_,hl,y,hy=>by
  have:=(lV h 40 T x cs hp).1;rw[hl]at this;cases this;obtain⟨q,hq,rfl⟩:=cZ.1 hy;exact zA T hf x q hq
 |.ptr i q,x,cs,l,hf,hp,hlt,hl,y,hy=>by
  simp only[pI,af]at hp;subst hp;simp[qZ,KJ]at hlt
 |.csl i q z,x,cs,l,hf,hp,hlt,hl,y,hy=>by
  simp only[pI,af]at hp;subst hp;simp[qZ,KJ]at hlt
 |.clo q i z,x,cs,l,hf,hp,hlt,hl,y,hy=>by
  simp only[pI,af]at hp;subst hp;simp[qZ,KJ]at hlt
 |.row i,x,cs,l,hf,hp,hlt,hl,y,hy=>by
  simp only[pI,af]at hp;subst hp;simp[qZ,KJ]at hlt
 |.mp i,x,cs,l,hf,hp,hlt,hl,y,hy=>by
  simp only[pI,af]at hp;subst hp;simp[qZ,KJ]at hlt
 |.nil,x,cs,l,hf,hp,hlt,hl,y,hy=>by
  simp only[pI,af]at hp;subst hp;simp only[cF,cf,af]at hl;subst hl;simp only[aI]at hy;subst hy;rfl
 |.emp,x,cs,l,hf,hp,hlt,hl,y,hy=>by
  simp only[pI,af]at hp;subst hp;simp only[cF,cf,af]at hl;subst hl;simp only[aI]at hy;subst hy;rfl
 |.agg ps,x,cs,l,hf,hp,hlt,hl,y,hy=>HG ps x cs l hf hp hlt hl y hy
theorem HG {g:Nat->Nat} {h:bn}:∀(ps:Y PV) (x:(PV.tyL ps).den) (cs:Y TV) (l:Y AV),(PV.tyL ps).flat=M->qF g ps x=Z cs->qZ 0 cs=M->cF h cs=Z l->∀y∈l,y.fl=M
 |[],x,cs,l,hf,hp,hlt,hl,y,hy=>by
  simp only[qF,af]at hp;subst hp;simp only[cF,af]at hl;subst hl;cases hy
 |p::ps,x,cs,l,hf,hp,hlt,hl,y,hy=>by
  simp only[PV.tyL]at hf;rw[OU,ak]at hf;simp only[qF]at hp;split at hp
  .rename_i a ha;split at hp
   .rename_i b hb;simp only[af]at hp;subst hp;obtain⟨a',b',rfl,e1,e2⟩:=Bk hl;have hsp:=H9 hlt;rcases bP.1 hy with hy|hy
    .exact abf p _ a a' hf.1 ha hsp.1 e1 y hy
    .exact HG ps _ b b' hf.2 hb hsp.2 e2 y hy
   .cases hp
  .cases hp
end
theorem abd {g:Nat->Nat} {h:bn} {p:PV} {x:p.ty.den} {u:TV} {y:AV} (hf:p.ty.flat=M) (hp:sN g p x=Z u) (hlt:KJ 0 u=M) (s:cf h u=Z y):y.fl=M:=by
 cases p with
 |d T=>
  simp only[sN,af]at hp;subst hp;simp only[cf,af]at s;subst s;exact acd T hf x
 |agg ps=>
  simp only[sN]at hp;split at hp
  .rename_i l hl;simp only[af]at hp;subst hp;simp only[cf]at s;split at s
   .rename_i D A;simp only[af]at s;subst s;exact VG (HG ps _ l D hf hl hlt A)
   .cases s
  .cases hp
 |ptr i q=>simp only[sN,af]at hp;subst hp;simp[KJ]at hlt
 |csl i q z=>simp only[sN,af]at hp;subst hp;simp[KJ]at hlt
 |row i=>simp only[sN,af]at hp;subst hp;simp[KJ]at hlt
 |clo q i z=>simp only[sN,af]at hp;subst hp;simp[KJ,qZ]at hlt
 |mp i=>simp only[sN,af]at hp;subst hp;simp[KJ]at hlt
 |nil=>simp only[sN,af]at hp;subst hp;simp only[cf,af]at s;subst s;rfl
 |emp=>simp only[sN,af]at hp;subst hp;simp only[cf,af]at s;subst s;rfl
theorem O9 {g:Nat->Nat} {h:bn}:∀(ps:Y PV) (x:(PV.tyL ps).den) (us:Y TV) (l:Y AV),(PV.tyL ps).flat=M->pQ g ps x=Z us->qZ 0 us=M->cF h us=Z l->AV.flL l=M
 |[],x,us,l,hf,hp,hlt,hl=>by
  simp only[pQ,af]at hp;subst hp;simp only[cF,af]at hl;subst hl;rfl
 |p::ps,x,us,l,hf,hp,hlt,hl=>by
  simp only[PV.tyL]at hf;rw[OU,ak]at hf;simp only[pQ]at hp;split at hp
  .rename_i a d;split at hp
   .rename_i b hb;simp only[af]at hp;subst hp;obtain⟨y,l2,rfl,e1,e2⟩:=cU hl;simp only[qZ,ak]at hlt;simp only[AV.flL,ak];exact⟨abd hf.1 d hlt.1 e1,O9 ps _ b l2 hf.2 hb hlt.2 e2⟩
   .cases hp
  .cases hp
theorem ab1:∀{l:Y AV},AV.flL l=M->(Dm l).fl=M
 |[],_=>rfl
 |[x],h=>by simp only[AV.flL,ak]at h;exact h.1
 |x::y::r,h=>h
theorem acr {P:Program} {o:Oper} {e:iN} {h:bn} {nx:Nat} {f:FuncId} {c:cj} {l:Y TV} (hinv:mg h nx) (sp:pG P f c) {x:c.pre.ty.den} {m:Nat} {σ:PT Nat} {sm:Nat} (A:Hm 0 c.pre l h x m σ sm) {vs:Y TV} {hp:bn} {l1:Y (J ii)} (I:qw c.pre x vs hp l1) {y:c.post.ty.den} (hm:c.m x=Z y) {rs:Y TV} {hq:bn} {l2:Y (J ii)} (B:qw c.post y rs hq l2) (hp0:c.pre.bs.length=0) (D:c.post.bs.length=0) (hfl:(PV.tyL c.post.vs).flat=M)
 (g:Nat->Nat) {la:Y AV} (hla:cF h l=Z la)
 (hexec:∀(φ:PM) (E:Nat->Prop) (h':HF) (w:World) (a:Act),(∀t,.tmp t∈o.op.operands->∀y,fq e h t=Z y->cK φ (tot E φ h') w y (a.tmps.getD t undef))->qI φ E h' w->∃us:ξ,(execOp a.eval o).run P w= .ok (.enter f us.toArray) w/\j9 φ (tot E φ h') w la us):
 iE P o aa e h nx (O5 (kH g rs)) m 0 h nx:=by
 obtain⟨x1,m1,x2,m2,hx,hmm,gv,gb⟩:=A.ex;have hmr:dN h m:=by rw[hmm];exact (Hb _ _ _ _ gv).or (Hd _ _ _ _ gb)
 have pvg:pQ (ie σ) c.pre.vs x1=Z (kH (ie σ) vs):=by
  have d:=sZ (ie σ) c.pre.vs x1;have h4:=I.pv;rw[hx,sU]at h4;rw[d,h4];rfl
 obtain⟨lr,hlr⟩:=eU hq rs B.ok;obtain⟨s,hlp⟩:=eU hp vs I.ok;have hfl':AV.flL lr=M:=O9 c.post.vs _ rs lr hfl B.pv (by rw[<- D];exact B.lt) hlr;have hpe:∀i,hp.get i=U:=λi=>by
  cases hb:hp.get i with
  |none=>rfl
  |some b=>have:=I.lt_len hb;omega
 have hqe:∀i,hq.get i=U:=λi=>by
  cases hb:hq.get i with
  |none=>rfl
  |some b=>have:=B.lt_len hb;omega
 have rows_hp:∀i r,ej hp i=Z r->ej (d_ m h) (ie σ i)=Z r:=λi r hr=>by rw[bR,hpe]at hr;cases hr
 have rows_hq:∀i r,ej hq i=Z r->ej h (g i)=Z r:=λi r hr=>by rw[bR,hqe]at hr;cases hr
 have rows_in:xc (d_ m h) h:=λj r hr=>by
  rw[bR]at hr ⊢;rw[iX]at hr;split at hr
  .rename_i ht;obtain⟨ty,p,T,xs,hb⟩:=hmr j ht;rw[hb]at hr ⊢;exact hr
  .exact hr
 have hOpT:gD P o (fq e h) (bD h) ⟨Dm lr,EQ m,[],λ_=>U,[]⟩:=by
  intro φ E h' w a hrd hwr hops hrep hN;obtain⟨us,hrun,hrel⟩:=hexec φ E h' w a hops hrep
  let Hv:HF:=λn=>if n∈EQ m then U else h' n
  have Hv_in:∀n,n∈EQ m->Hv n=U:=λn hn=>by simp only[Hv,hn,bH]
  have Hv_out:∀n,n∉EQ m->Hv n=h' n:=λn hn=>by simp only[Hv,hn,dx]
  have hd:ul h' Hv:=λn b hb=>by
   by_cases hn:n∈EQ m
   .rw[Hv_in n hn]at hb;cases hb
   .rw[Hv_out n hn]at hb;exact⟨b,hb⟩
  have gvv:Dl h h' Hv m:=λi hi=>⟨hrd _ (lK.2 hi),Hv_in _ (lK.2 hi)⟩
  have V:GJ h' Hv:=⟨hd,λn b b' hb q=>by
   by_cases hn:n∈EQ m
   .rw[Hv_in n hn]at q;cases q
   .rw[Hv_out n hn,hb]at q;cases q;exact iv.refl hd b⟩
  have hrepv:=V.rep hrep;have hlpg:cF (d_ m h) (kH (ie σ) vs)=Z (AV.renL (He (ie σ)) s):=oW rows_hp vs s hlp;have hrel1:j9 φ (tot E φ Hv) w (AV.renL (He (ie σ)) s) us:=
   j9.le hrep (Cl hd rows_in c.pre.vs l x1 m1 _ la _ gv pvg hla hlpg (λi hi=>gvv i (by rw[hmm,bz,hi];rfl))) hrel
  let E':Nat->Prop:=λk=>E k\/∃n b,Hv n=Z b/\φ n=Z k
  have T:ad4 c.pre x vs hp (ie σ) φ E E' Hv w:=by
   refine qI.toId I (λa b ha=>by omega) hrepv (λi b yb hb=>by rw[hpe]at hb;cases hb) ?_ (λi k b hi=>by omega) ?_
   .rintro k (F|⟨n,b,h1,d⟩)
    .exact .inl F
    .exact .inr ⟨n,b,h1,d⟩
   .rintro k (F|⟨n,b,h1,d⟩)
    .exact hrepv.el k F
    .obtain⟨k',q1,_,ob,q3,_⟩:=hrepv.at_ n b h1;rw[d]at q1;cases q1;exact (cr.1 q3).1
  have hcalls:=sp.calls x y hm vs hp l1 rs hq l2 s lr I B hlp hlr (φ1 c.pre.bs.length (ie σ) φ) E' w us T.rep (j9.toId T.val (rC vs s I.lt hlp) hrel1) (λn k hk=>by
   obtain⟨i,hi,rfl,_⟩:=wn hk;rw[dS];exact hi)
  unfold GY;rw[hrun];refine Calls.mono hcalls ?_;rintro en w' ⟨v,φc',rfl,hext,hown,hnm,rp,rv'⟩;have hno:∀k,¬own (φ1 c.pre.bs.length (ie σ) φ) (bD hp) k:=by
   rintro k ⟨n,b,h1,_⟩;obtain⟨i,bb,_,d,_⟩:=jB h1;rw[hpe]at d;cases d
  have mv:iZ φ φ h' h' w w':=⟨λ_ _ h=>h,hext.mono λk hk=>dR hk (hno k),λ_ _ h=>h⟩
  refine ⟨v,φ,rfl,?_,λ_ _ h=>.inl h,?_,?_⟩
  .rw[te];exact mv
  .rw[te];refine hrep.moved mv λk hk=>?_
   obtain⟨n,b,h1,d⟩:=hk;obtain⟨k',q1,_,ob,q3,_⟩:=hrep.at_ n b h1;rw[d]at q1;cases q1;exact hext.blk k (cr.1 q3).1 (hno k)
  .exact rv'.flat (ab1 hfl')
 have hrsg:cF h (kH g rs)=Z (AV.renL (He g) lr):=oW rows_hq rs lr hlr;refine ⟨⟨_,hOpT,λz L=>?_,?_,λn hn=>?_,by simp,by simp⟩,λ_ _ h=>h,hinv,cN _,λhs=>by cases hs⟩
 .rw[UW hrsg,Hg _ lr hfl']at L;cases L;rfl
 .exact te _ _
 .obtain⟨i,rfl,hi⟩:=nK.1 hn;rw[dS];exact hi
def cj.full (c:cj):cj:=⟨c.pre,⟨c.post.vs,c.pre.bs⟩,λx=>av (c.m x) λy=>Z (SJ (PV.tyL c.post.vs) (PB.tyL c.pre.bs) (ND _ _ y) (Kx _ _ x))⟩
def aG (P:Program) (f:FuncId) (c:cj):Prop:=if dP c.pre.bs.length c.post.bs.length=M then pG P f c else pG P f c.full
theorem pG.toC {P:Program} {f:FuncId} {c:cj} (h:pG P f c) (hb:dP c.pre.bs.length c.post.bs.length=M):aG P f c:=by
 unfold aG;rw[aW hb];exact h
theorem aG.holds {P:Program} {f:FuncId} {c:cj} (h:aG P f c) (hb:dP c.pre.bs.length c.post.bs.length=M):pG P f c:=by
 unfold aG at h;rw[aW hb]at h;exact h
theorem abr (a b:Ty) (z:(spr a b).den):SJ a b (ND a b z) (Kx a b z)=z:=by cases a<;>cases b<;>rfl
open Classical in
def roM {pre:Tm} {vs:Y PV} (m:pre.ty.den->J (Tm.ty ⟨vs,pre.bs⟩).den) (x:pre.ty.den):J (Tm.ty ⟨vs,[]⟩).den:=
 av (m x) λy=>if Kx (PV.tyL vs) (PB.tyL pre.bs) y=Kx _ _ x then Z (SJ (PV.tyL vs) (PB.tyL []) (ND (PV.tyL vs) (PB.tyL pre.bs) y) ()) else U
theorem aG.ro {P:Program} {f:FuncId} {pre:Tm} {vs:Y PV} {m:pre.ty.den->J (Tm.ty ⟨vs,pre.bs⟩).den} {m':pre.ty.den->J (Tm.ty ⟨vs,[]⟩).den} (h:pG P f ⟨pre,⟨vs,pre.bs⟩,m⟩) (hb:dP pre.bs.length 0=aa) (hs:∀x y,m' x=Z y->roM m x=Z y):aG P f ⟨pre,⟨vs,[]⟩,m'⟩:=by
 unfold aG;rw[aM (by show ¬dP pre.bs.length 0=M;rw[hb];exact Bool.false_ne_true)];refine ⟨h.callable,λx y hxy=>?_⟩;refine h.calls x y ?_;have hxy:av (m' x) (λy=>Z (SJ (PV.tyL vs) (PB.tyL pre.bs) (ND (PV.tyL vs) (PB.tyL []) y) (Kx _ _ x)))=Z y:=hxy;obtain⟨z,A,hzy⟩:=dG hxy;have h1:=hs x z A;unfold roM at h1;obtain⟨y0,s,h2⟩:=dG h1;split at h2
 .rename_i heq;have h2:=jZ h2;have hzy:=jZ hzy;subst h2;have d:SJ (PV.tyL vs) (PB.tyL pre.bs) (ND (PV.tyL vs) (PB.tyL pre.bs) y0) (Kx (PV.tyL pre.vs) (PB.tyL pre.bs) x)=y:=(i_ (λq=>SJ (PV.tyL vs) (PB.tyL pre.bs) q (Kx (PV.tyL pre.vs) (PB.tyL pre.bs) x)) (sU (PV.tyL vs) (PB.tyL []) _ ()).symm).trans hzy;rw[<- heq]at d;have:=(abr (PV.tyL vs) (PB.tyL pre.bs) y0).symm.trans d;exact s.trans (i_ Z this)
 .cases h2
theorem iE.drop {P:Program} {o:Oper} {e:iN} {h h':bn} {nx nx':Nat} {v:TV} {rd wr W wr':Nat} (t:iE P o aa e h nx v rd wr h' nx') (hW:∀i,aP W i=M->bD h' (nm i)=bD h (nm i)/\aP rd i=M) (s:∀i,aP wr i=M->aP W i=M\/aP wr' i=M):iE P o aa e h nx v rd wr' h' nx':=by
 obtain⟨⟨f,h1,h2,q,I,F,D⟩,r,i,g,st⟩:=t;have hs:∀n,aP W (ow n)=M->bD h' n=bD h n:=λn hn=>by
  by_cases d:∃i,n=nm i
  .obtain⟨i,rfl⟩:=d;rw[dS]at hn;exact (hW i hn).1
  .rw[vL h d,vL h' d]
 have hup:∀H:HF,(∀n∈f.wr,H n=bD h n)->eG H (f.wr.filter λn=> !(aP W (ow n))) f.nw=eG H f.wr f.nw:=λH A=>by
  funext n;unfold eG;by_cases hn:n∈f.wr
  .by_cases hb:aP W (ow n)=M
   .rw[aM (by simp[hb]),aW hn];have:=congrFun q n;unfold eG at this;rw[aW hn,hs n hb]at this;rw[this,A n hn]
   .rw[aW (by simp[hn,hb]),aW hn]
  .rw[aM (by simp[hn]),aM hn]
 refine ⟨⟨⟨f.val,f.rd++(f.wr.filter λn=>aP W (ow n)),f.wr.filter λn=> !(aP W (ow n)),f.nw,f.N⟩,?_,h2,?_,λn hn=>?_,λn hn=>?_,D⟩,r,i,g,λhs=>by cases hs⟩
 .intro φ E H w a hrd hwr hops hrep z;have k1:∀i∈f.rd,H i=bD h i:=λi hi=>hrd i (jp _ hi)
  have k2:∀i∈f.wr,H i=bD h i:=λi hi=>by
   cases hb:aP W (ow i) with
   |true=>exact hrd i (kx _ (by simp[hi,hb]))
   |false=>exact hwr i (by simp[hi,hb])
  have:=h1 φ E H w a k1 k2 hops hrep z;simp only[hup H k2];exact this
 .simp only[hup (bD h) (λ_ _=>rfl)];exact q
 .rcases bP.1 hn with hn|hn
  .exact I n hn
  .simp only[Ez]at hn;exact (hW _ hn.2).2
 .simp only[Ez,ec]at hn;rcases s _ (F n hn.1) with hh|hh
  .rw[hn.2]at hh;cases hh
  .exact hh
mutual
theorem YS {n n':Nat} (hle:n<=n'):∀(v:TV),KJ n v=M->KJ n' v=M
 |.row id,h=>by simp only[KJ,Nat.blt_eq]at h ⊢;omega
 |.rtl id _,h=>by simp only[KJ,Nat.blt_eq]at h ⊢;omega
 |.pel id _ _ _,h=>by simp only[KJ,Nat.blt_eq]at h ⊢;omega
 |.ptr id _,h=>by simp only[KJ,Nat.blt_eq]at h ⊢;omega
 |.csl id _ _,h=>by simp only[KJ,Nat.blt_eq]at h ⊢;omega
 |.mp id,h=>by simp only[KJ,Nat.blt_eq]at h ⊢;omega
 |.agg l,h=>vC hle l h
 |.tup l,h=>vC hle l h
 |.clo _ l,h=>vC hle l h
 |.f _ _,_=>rfl
 |.fel _ _ _ _ _,_=>rfl
 |.emp,_=>rfl
 |.nil,_=>rfl
 |.undef,_=>rfl
 |.np,_=>rfl
 |.anyb,_=>rfl
 |.ful _ _,_=>rfl
theorem vC {n n':Nat} (hle:n<=n'):∀(l:Y TV),qZ n l=M->qZ n' l=M
 |[],_=>rfl
 |x::r,h=>by
  simp only[qZ,ak]at h ⊢;exact⟨YS hle x h.1,vC hle r h.2⟩
end
theorem Me {g g':Nat->Nat} {h:bn}:∀(bs:Y PB) (i:Nat) (x:(PB.tyL bs).den) (m:Nat),Hl bs=M->Ag g h i bs=Z (x,m)->∃l,om g' bs x=Z l/\l.length=bs.length/\∀j,j<bs.length->∃ty p T xs,l[j]? =Z (Z (.rows ty p T xs))/\h.get (g (i+j))=Z (.rows ty p T xs)
 |[],i,x,m,_,hg=>⟨[],rfl,rfl,λj hj=>by simp at hj⟩
 |.rows ty p T::r,i,x,m,q,hg=>by
  simp only[Ag]at hg;split at hg
  .rename_i x1 m1 h1;split at hg
   .rename_i x2 m2 h2;simp only[af,aC]at hg;obtain⟨rfl,rfl⟩:=hg;obtain⟨l,q1,q2,q3⟩:=Me (g:=g) (g':=g') (h:=h) r (i+1) x2 m2 q h2;simp only[DY]at h1;split at h1
    .rename_i ty' D S xs hb;split at h1
     .rename_i hc;simp only[ak,cQ]at hc;obtain⟨rfl,rfl⟩:=hc;split at h1
      .rename_i z s;simp only[af]at h1;obtain⟨rfl,_⟩:=h1;obtain⟨es,A⟩:=gT s;cases es;subst A;refine ⟨Z (.rows ty p T x1)::l,?_,by simp[q2],λj hj=>?_⟩
       .simp only[om];rw[sU,uu,q1];rfl
       .cases j with
        |zero=>exact⟨ty,p,T,_,rfl,hb⟩
        |succ j=>
         obtain⟨a,b,c,d,w1,w2⟩:=q3 j (by simpa using hj);exact⟨a,b,c,d,by simpa using w1,by rw[show i+(j+1)=i+1+j from by omega];exact w2⟩
      .cases h1
     .cases h1
    .cases h1
   .cases hg
  .cases hg
 |.rowsP _ _::r,i,x,m,q,hg=>by cases q
 |.cells _ _::r,i,x,m,q,hg=>by cases q
 |.mp _ _::r,i,x,m,q,hg=>by cases q
 |.gone::r,i,x,m,q,hg=>by cases q
theorem EP:∀{bs:Y PB},Hl bs=M->AX bs=M
 |[],_=>rfl
 |.rows _ _ _::r,h=>EP (bs:=r) h
 |.rowsP _ _::r,h=>by cases h
 |.cells _ _::r,h=>by cases h
 |.mp _ _::r,h=>by cases h
 |.gone::r,h=>by cases h
theorem EJ {h h2:bn} {g:Nat->Nat}:∀(n:Nat),(∀i,i<n->h2.get (g i)=h.get (g i))->tg h h2 g n=M
 |0,_=>rfl
 |n+1,hs=>by
  simp only[tg,ak];refine ⟨?_,EJ n λi hi=>hs i (by omega)⟩;have:ej h2 (g n)=ej h (g n):=by rw[bR,bR,hs n (by omega)]
  rw[this];cases ej h (g n) with
  |none=>rfl
  |some q=>obtain⟨p,s,k⟩:=q;simp
def Kf (P:Program) (con:FuncId->J cj):Prop:=∀f c,con f=Z c->aG P f c
theorem Vw {R:Type} {P:Program} {con:FuncId->J cj} (hcon:Kf P con) {o:Oper} {e:iN} {h:bn} {nx:Nat} {f:FuncId} {l:Y TV} {K:KO R} {r:R} (hinv:mg h nx) (hk:Vx con f l h nx K=Z r) {la:Y AV} (hla:cF h l=Z la)
 (hexec:∀(φ:PM) (E:Nat->Prop) (h':HF) (w:World) (a:Act),Dd P f->(∀t,.tmp t∈o.op.operands->∀y,fq e h t=Z y->cK φ (tot E φ h') w y (a.tmps.getD t undef))->qI φ E h' w->∃us:ξ,(execOp a.eval o).run P w= .ok (.enter f us.toArray) w/\j9 φ (tot E φ h') w la us):kI P o aa e h nx K r:=by
 unfold Vx at hk;split at hk
 .rename_i c hc;have spc:=hcon f c hc;split at hk
  .rename_i x m σ sm hM;split at hk
   .rename_i q hq;obtain⟨vs,hp⟩:=q;obtain⟨l1,I⟩:=vF hq;obtain⟨y,D,hk⟩:=dG hk;split at hk
    .rename_i q2 F;obtain⟨rs1,s⟩:=q2;obtain⟨l2,A⟩:=vF F;split at hk
     .rename_i hcond;simp only[ak]at hcond;have hle:=bc hcond.1;have sp:=spc.holds hcond.1;simp only at hk;split at hk
      .rename_i rs hrs;have hrs':=hrs;rw[sZ,A.pv]at hrs';simp only[bW,af]at hrs';split at hk
       .rename_i hb;simp only[ak]at hb;have z:=au hb.1.2;refine ⟨_,_,_,_,_,hk,?_⟩;rw[<- hrs'];exact acr hinv sp (vA hM) I D A (by omega) z hb.2 _ hla λφ E h' w a=>hexec φ E h' w a sp.callable
       .split at hk
        .rename_i h2 d;obtain⟨hsr,hk⟩:=dO hk;refine ⟨_,_,_,_,_,hk,?_⟩;rw[<- hrs'];unfold LY at d;rw[vn,A.pb]at d;simp only[bW,af]at d;exact ZG hinv sp (vA hM) I hcond.2 D A hle (λi hi=>by
          have:eQ i c.pre.bs.length=M:=bw hi;simp only[this,bH]) (λi hi=>by
          have:eQ i c.pre.bs.length=aa:=by
           cases hb:eQ i c.pre.bs.length with
           |false=>rfl
           |true=>have:=bc hb;omega
          simp only[this];rfl) d.symm hsr hla λφ E h' w a=>hexec φ E h' w a sp.callable
        .cases hk
      .cases hk
     .rename_i hcond;split at hk
      .rename_i hro;simp only[ak]at hro;have z:=au hro.1;have hng:=EP hro.2;have sp:pG P f c.full:=by
        unfold aG at spc
        rwa [aM (λhb=>hcond (by rw[hb,hng];rfl))]at spc
       simp only at hk;split at hk
       .rename_i rs hrs;split at hk
        .rename_i h2 d;have hrs':=hrs;rw[sZ,A.pv]at hrs';simp only[bW,af]at hrs';refine ⟨_,_,_,_,_,hk,?_⟩;rw[<- hrs'];have B:=vA hM;unfold LY at d;rw[vn,I.pb]at d;simp only[bW,af]at d;have hqe:∀i,s.get i=U:=λi=>by
          cases hb:s.get i with
          |none=>rfl
          |some b=>have:=A.lt_len hb;omega
         have J':qw c.full.post (SJ (PV.tyL c.post.vs) (PB.tyL c.pre.bs) (ND _ _ y) (Kx _ _ x)) rs1 hp l1:=
          ⟨by show pQ G_ c.post.vs (ND (PV.tyL c.post.vs) (PB.tyL c.pre.bs) _)=_;rw[sU];exact A.pv,by show om G_ c.pre.bs (Kx (PV.tyL c.post.vs) (PB.tyL c.pre.bs) _)=_;rw[uu];exact I.pb,I.len,I.at_,iU (λi r hr=>by rw[bR,hqe]at hr;cases hr) _ A.ok,vC (by omega) _ A.lt,I.cells⟩
         obtain⟨x1,m1,x2,m2,hx,hmm,gv,gb⟩:=B.ex;obtain⟨l,q1,q2,q3⟩:=Me (g':=G_) c.pre.bs 0 x2 m2 hro.2 gb;have L:l1=l:=by
          have:=I.pb;rw[hx,uu,q1]at this;cases this;rfl
         subst L;have hgi:∀i,i<c.pre.bs.length->(if eQ i c.pre.bs.length then ie σ i else nx+(i-c.pre.bs.length))=ie σ i:=λi hi=>by
          have:eQ i c.pre.bs.length=M:=bw hi;simp only[this,bH]
         have hsame:∀i,i<c.pre.bs.length->h2.get (ie σ i)=h.get (ie σ i):=λi hi=>by
          obtain⟨ty,p,T,xs,w1,w2⟩:=q3 i hi;rw[bM]at w2;have:=uB (λi=>if eQ i c.pre.bs.length then ie σ i else nx+(i-c.pre.bs.length)) (l1.map (l7 (lH (λi=>if eQ i c.pre.bs.length then ie σ i else nx+(i-c.pre.bs.length))))) 0 (d_ m h) (λa b ha hb e=>by
           simp only[cz,q2]at ha hb;rw[bM,bM,hgi a ha,hgi b hb]at e;exact B.inj a b ha hb e) i (Z (.rows ty p T xs)) (by rw[bk,w1];rfl)
          rw[bM,hgi i hi]at this;rw[<- d,this,w2]
         have t:=ZG (o:=o) (e:=e) hinv sp B I hng (y:=SJ (PV.tyL c.post.vs) (PB.tyL c.pre.bs) (ND _ _ y) (Kx _ _ x)) (by show av (c.m x) _=_;rw[D];rfl) J' (cN _) (g:=λi=>if eQ i c.pre.bs.length then ie σ i else nx+(i-c.pre.bs.length)) hgi (λi hi=>by
          have:eQ i c.pre.bs.length=aa:=by
           cases hb:eQ i c.pre.bs.length with
           |false=>rfl
           |true=>have:=bc hb;have hi:c.pre.bs.length<=i:=hi;omega
          simp only[this];rfl) d.symm (EJ _ λi hi=>by rw[hgi i hi];exact hsame i hi) hla λφ E h' w a=>hexec φ E h' w a sp.callable
         have t':iE P o aa e h nx (O5 (kH (λi=>if eQ i c.pre.bs.length then ie σ i else nx+(i-c.pre.bs.length)) rs1)) (sm|||m) (sm|||m|||(((1<<<(c.pre.bs.length-c.pre.bs.length))-1)<<<nx)) h2 (nx+(c.pre.bs.length-c.pre.bs.length)):=t;rw[y_,dc]at t';refine t'.drop (W:=sm) (λi hi=>?_) (λi hi=>?_)
         .refine ⟨?_,by rw[bz,hi];rfl⟩;obtain⟨k,hk,rfl⟩:=(B.sig i).1 hi;obtain⟨ty,p,T,xs,_,w2⟩:=q3 k hk;rw[bM]at w2;rw[bL,bL,hsame k hk,w2];rfl
         .simp only[Nat.shiftLeft_zero,y_,Nat.zero_shiftLeft,Nat.or_zero,bz,iS]at hi;exact hi
        .cases hk
       .cases hk
      .cases hk
    .cases hk
   .cases hk
  .cases hk
 .cases hk
theorem af3 {R:Type} {P:Program} {con:FuncId->J cj} (hcon:Kf P con) {b8:TypeId->J Ty} {o:Oper} {e:iN} {h:bn} {nx:Nat} {i:SI} {K:KO R} {r:R} (hinv:mg h nx) (hi:sX e h) (hc:xI P o.op=i) (hk:dU con b8 i e h nx K=Z r):kI P o i.still e h nx K r:=by
 have callOps:∀(c:Call),o.op= .call c->∀x,x∈c.operands->x∈o.op.operands:=λc d x A=>by rw[d];exact A
 cases i with
 |call f args=>
  simp only[dU]at hk;split at hk
  .rename_i l hl;have d:∃c:Call,o.op= .call c/\c.callee= .value (.func f)/\c.args.toList=args:=by
    unfold xI at hc;split at hc
    .rename_i i hi;subst hc;unfold Of at hi;split at hi
     .rename_i c d;split at hi
      .rename_i g hg;simp only[af,SI.call.injEq]at hi;exact⟨c,d,by rw[hg,hi.1],hi.2⟩
      .simp at hi
      .cases hi
     .cases hi
    .split at hc<;>cases hc
   obtain⟨c,d,h1,h2⟩:=d;obtain⟨la,L,I⟩:=ya hi hl;refine Vw hcon hinv hk I λφ E h' w a hcb hops hrep=>?_
   have hp:R9 φ E h' w a (IP e h) o:=λx y A F=>rJ hrep (by rw[uH];exact hops) A F
   refine ⟨args.map a.eval,?_,NK hp args la (λx A=>callOps c d x (by simp[dQ,h1,<-h2]at A ⊢;exact .inr A)) L⟩;unfold execOp;rw[d];have hm:c.args.map a.eval=(args.map a.eval).toArray:=by rw[<- h2];apply Km;simp
   simp[resolve,h1,Act.eval,Deferred.ofValue,invoke,hm,wq hcb]
  .cases hk
 |callv x args=>
  simp only[dU]at hk;split at hk
  .rename_i f cap l A hl;have d:∃c:Call,o.op= .call c/\c.callee= .value x/\c.args.toList=args:=by
    unfold xI at hc;split at hc
    .rename_i i hi;subst hc;unfold Of at hi;split at hi
     .rename_i c d;split at hi
      .simp at hi
      .rename_i g hg;simp only[af,SI.callv.injEq]at hi;exact⟨c,d,by rw[hg,hi.1],hi.2⟩
      .cases hi
     .cases hi
    .split at hc<;>cases hc
   obtain⟨c,d,h1,h2⟩:=d;obtain⟨la,L,I⟩:=ya hi hl;obtain⟨yx,g3,D⟩:=bI hi A;simp only[cf]at D;split at D
   .rename_i lc hlc;simp only[af]at D;subst D;refine Vw hcon hinv hk (nv I hlc) λφ E h' w a hcb hops hrep=>?_
    have hp:R9 φ E h' w a (IP e h) o:=λx y A F=>rJ hrep (by rw[uH];exact hops) A F
    have hxv:=hp x _ (callOps c d x (by simp[dQ,h1])) g3;have hlv:=NK hp args la (λx A=>callOps c d x (by simp[dQ,h1,<-h2]at A ⊢;exact .inr A)) L;generalize hz:a.eval x=z at hxv;cases hxv with
    |@clo _ _ vs hvl hvr=>
     refine ⟨args.map a.eval++vs,?_,hlv.append (j9.of hvl hvr)⟩;unfold execOp;rw[d];have hm:c.args.map a.eval=(args.map a.eval).toArray:=by rw[<- h2];apply Km;simp
     simp[resolve,h1,hz,Deferred.ofValue,invoke,hm,wq hcb]
   .cases D
  .cases hk
 |op s=>
  have hc:s= .bad\/dq P o.op=Z s:=by
   unfold xI at hc;split at hc
   .rename_i i hi;subst hc;unfold Of at hi;split at hi
    .split at hi<;>simp at hi
    .cases hi
   .split at hc
    .rename_i q hq;simp only[SI.op.injEq]at hc;subst hc;exact .inr hq
    .simp only[SI.op.injEq]at hc;exact .inl hc.symm
  rcases hc with rfl|hc
  .simp[dU]at hk
  .exact K_op hinv hi hc hk
def fU (am:Nat) (e e':iN):Prop:=∀k,aP am k=aa->∀d,e'.get k=Z d->∃v,e.get k=Z v/\(tL v=M->d=v)
theorem fU.refl (am:Nat) (e:iN):fU am e e:=λ_ _ d h=>⟨d,h,λ_=>rfl⟩
theorem fU.trans {am:Nat} {a b c:iN} (h1:fU am a b) (h2:fU am b c):fU am a c:=λk hk d hv=>by
 obtain⟨v1,A,z⟩:=h2 k hk d hv;obtain⟨v,s,q⟩:=h1 k hk v1 A;refine ⟨v,s,λhf=>?_⟩;have:=q hf;subst this;exact z hf
theorem fU.mono {am am':Nat} {a b:iN} (h:fU am a b) (hm:∀k,aP am k=M->aP am' k=M):fU am' a b:=λk hk=>h k (by
 cases d:aP am k with
 |false=>rfl
 |true=>rw[hm k d]at hk;cases hk)
structure Z2 (P:Program) (ops:Array Oper) (rest:List Oper) (sl:List r_) (am:Nat) (s s':TS) (fs:List FPm) (l:List (Oper×AF)):Prop where
 ops_:l.map (·.1)=rest
 chain:yX P ops l (fq s.e s.h) (bD s.h) (fq s'.e s'.h) (bD s'.h)
 fsl:fs.length=l.length
 sll:sl.length=l.length
 fp:∀(j:Nat) o f q,l[j]? =Z (o,f)->fs[j]? =Z q->(∀n∈f.rd,aP q.rd (ow n)=M)/\∀n∈f.wr,aP q.wr (ow n)=M
 still:∀(j:Nat) o f so,l[j]? =Z (o,f)->sl[j]? =Z so->so.op.still=M->f.rd=[]/\f.wr=[]
 names:∀(j:Nat) o f,l[j]? =Z (o,f)->∀n∈f.N,s.nx<=ow n/\ow n<s'.nx
 apart_:∀(i j:Nat) oi fi oj fj,i<j->l[i]? =Z (oi,fi)->l[j]? =Z (oj,fj)->∀n∈fi.N,n∉fj.N
 grows:s.nx<=s'.nx
 invH:mg s'.h s'.nx
 invE:sX s'.e s'.h
 keeps:fU am s.e s'.e
theorem abe {e:iN} {h h':bn} (hi:sX e h) (hr:b_ h h') (d:J Nat) {v:TV} {y:AV} (hv:cf h' v=Z y):BT (fq e h) d y=fq (Dr e d v) h':=by
 funext t;have old:(e.get t).bind (cf h)=(e.get t).bind (cf h'):=by
  cases ht:e.get t with
  |none=>rfl
  |some x=>
   obtain⟨z,q⟩:=o6 h x (hi t x ht);simp only[aD,q,fG hr x z q]
 cases d with
 |none=>simp only[BT,Dr,fq];rw[aM (by simp)];exact old
 |some d=>
  simp only[BT,Dr,fq,PT.get_set,af];by_cases hd:d=t
  .subst hd;simp[hv]
  .rw[aM hd,aM (λe=>hd e.symm)];exact old
theorem sX.put {e:iN} {h h':bn} (hi:sX e h) (hr:b_ h h') (d:J Nat) {v:TV} (hv:KH h' v=M):sX (Dr e d v) h':=λt x q=>by
 cases d with
 |none=>exact mR hr x (hi t x q)
 |some d=>
  simp only[Dr,PT.get_set]at q;split at q
  .cases q;exact hv
  .exact mR hr x (hi t x q)
theorem Qm {e:iN} {h:bn} {t:Nat} {v:TV} (ht:e.get t=Z v):fq (e.set t (Z v)) h=fq e h:=by
 funext k;simp only[fq,PT.get_set];by_cases hk:k=t
 .subst hk;simp[ht]
 .rw[aM hk]
theorem sX.set {e:iN} {h:bn} {t:Nat} {v:TV} (hi:sX e h) (ht:e.get t=Z v):sX (e.set t (Z v)) h:=λk x d=>by
 rw[PT.get_set]at d;split at d
 .rename_i hk;subst hk;cases d;exact hi _ _ ht
 .exact hi k x d
theorem Sb {R:Type} {e:iN} {g:J (Nat×Bool)} {K:Bool->iN->J R} {r:R} (h:Yc e g K=Z r):
 (g=U/\K M e=Z r)\/(∃t want b,g=Z (t,want)/\e.get t=Z (.f .bool b)/\K (b==want) (e.set t (Z (.f .bool b)))=Z r)\/∃t want,g=Z (t,want)/\e.get t=Z .undef/\K aa e=Z r:=by
 unfold Yc at h;split at h
 .exact .inl ⟨rfl,h⟩
 .rename_i t want;split at h
  .rename_i b hb;refine .inr (.inl ⟨t,want,b,rfl,hb,?_⟩);cases want with
   |true=>rcases lX h with ⟨rfl,h⟩|⟨rfl,h⟩<;>exact h
   |false=>rcases lX h with ⟨rfl,h⟩|⟨rfl,h⟩<;>exact h
  .rename_i hb;exact .inr (.inr ⟨t,want,rfl,hb,h⟩)
  .cases h
theorem HJ {R:Type} {P:Program} {con:FuncId->J cj} (hcon:Kf P con) {b8:TypeId->J Ty} {ops:Array Oper} {am:Nat} (ham:∀(j:Nat) (o:Oper) (d:Nat),ops[j]? =Z o->o.dst=Z d->aP am d=M):
 ∀(rest:Y Oper) (sl:Y r_) (s:TS) (fs:Y FPm) (K:TS->Y FPm->J R) (r:R),(∀o∈rest,∃j:Nat,ops[j]? =Z o)->rL P ops rest=Z sl->KC con b8 sl s fs K=Z r->mg s.h s.nx->sX s.e s.h->∃s' fs' l,K s' (fs.reverse++fs')=Z r/\Z2 P ops rest sl am s s' fs' l
 |[],sl,s,fs,K,r,hin,hc,hk,hH,D=>by
  simp only[rL,af]at hc;subst hc;simp only[KC]at hk;exact⟨s,[],[],by simpa using hk,rfl,.nil _ _,rfl,rfl,by simp,by simp,by simp,by simp,cN _,hH,D,fU.refl _ _⟩
 |o::rest,sl,s,fs,K,r,hin,hc,hk,hH,D=>by
  simp only[rL]at hc;split at hc
  .rename_i sl' hsl';have hso:∃g,sl=⟨o.dst,xI P o.op,g⟩::sl'/\((g=U/\o.guard=U)\/∃j want t,g=Z (t,want)/\o.guard=Z (j,want)/\(ops[j]?).bind (·.dst)=Z t):=by
    split at hc
    .rename_i hg;simp only[af]at hc;exact⟨U,hc.symm,.inl ⟨rfl,hg⟩⟩
    .rename_i j want hg;split at hc
     .rename_i t ht;simp only[af]at hc;exact⟨Z (t,want),hc.symm,.inr ⟨j,want,t,rfl,hg,ht⟩⟩
     .cases hc
   obtain⟨g,rfl,hg⟩:=hso;simp only[KC]at hk;have hdst:∀d,o.dst=Z d->aP am d=M:=λd hd=>by
    obtain⟨j,hj⟩:=hin o (ep ..);exact ham j o d hj hd
   have hgs:∀t want,g=Z (t,want)->aP am t=M:=λt want hgt=>by
    rcases hg with ⟨h1,_⟩|⟨j,want',t',h1,_,z⟩
    .rw[h1]at hgt;cases hgt
    .rw[h1]at hgt;cases hgt;cases hj:ops[j]? with
     |none=>rw[hj]at z;cases z
     |some oj=>rw[hj]at z;exact ham j oj t hj z
   have kput:∀(e:iN) (v:TV),fU am s.e e->fU am s.e (Dr e o.dst v):=λe v hke k hk v' hv=>by
    cases hd:o.dst with
    |none=>rw[hd]at hv;exact hke k hk v' hv
    |some d=>
     rw[hd]at hv;simp only[Dr,PT.get_set]at hv;split at hv
     .rename_i e2;rw[e2,hdst d hd]at hk;cases hk
     .exact hke k hk v' hv
   have done:∀(f:AF) (v:TV) (h':bn) (nx' rd wr:Nat) (e:iN),fq e s.h=fq s.e s.h->sX e s.h->fU am s.e e->J2 P ops o f (fq s.e s.h) (bD s.h)->(∃y,cf h' v=Z y/\f.val=y)->eG (bD s.h) f.wr f.nw=bD h'->(∀n∈f.rd,aP rd (ow n)=M)->(∀n∈f.wr,aP wr (ow n)=M)->(∀n∈f.N,s.nx<=ow n/\ow n<nx')->b_ s.h h'->mg h' nx'->s.nx<=nx'->((xI P o.op).still=M->f.rd=[]/\f.wr=[])->
    KC con b8 sl' ⟨Dr e o.dst v,h',nx'⟩ (⟨rd,wr⟩::fs) K=Z r->∃s' fs' l,K s' (fs.reverse++fs')=Z r/\Z2 P ops (o::rest) (⟨o.dst,xI P o.op,g⟩::sl') am s s' fs' l:=by
    intro f v h' nx' rd wr e hee hiE hke hst hval hheap hrd hwr hN hrows hinv' hgr hstill hrun;obtain⟨y,F,hy2⟩:=hval;obtain⟨s',fs',l,A,L⟩:=HJ hcon ham rest sl' _ _ K r (λo' ho'=>hin o' (dk _ ho')) hsl' hrun hinv' (hiE.put hrows o.dst (D8 _ _ _ F));have hg2:nx'<=s'.nx:=L.grows;refine ⟨s',⟨rd,wr⟩::fs',(o,f)::l,by simpa using A,by simp[L.ops_],.cons hst ?_,by simp[L.fsl],by simp[L.sll],?_,?_,?_,?_,cY hgr hg2,L.invH,L.invE,(kput e v hke).trans L.keeps⟩
    .have e1:BT (fq s.e s.h) o.dst f.val=fq (Dr e o.dst v) h':=by rw[<- hee,hy2];exact abe hiE hrows o.dst F
     rw[e1,hheap];exact L.chain
    .intro j o' f' q' h1 h2;cases j with
     |zero=>simp at h1 h2;obtain⟨rfl,rfl⟩:=h1;subst h2;exact⟨hrd,hwr⟩
     |succ j=>exact L.fp j o' f' q' (by simpa using h1) (by simpa using h2)
    .intro j o' f' so h1 h2 z;cases j with
     |zero=>simp at h1 h2;obtain⟨rfl,rfl⟩:=h1;subst h2;exact hstill z
     |succ j=>exact L.still j o' f' so (by simpa using h1) (by simpa using h2) z
    .intro j o' f' h1 n hn;cases j with
     |zero=>
      simp at h1;obtain⟨rfl,rfl⟩:=h1;have:=hN n hn;exact⟨this.1,by omega⟩
     |succ j=>
      have:=L.names j o' f' (by simpa using h1) n hn;exact⟨cY hgr this.1,this.2⟩
    .intro i j oi fi oj fj hij h1 h2 n hn I;cases j with
     |zero=>omega
     |succ j=>
      have hj:=L.names j oj fj (by simpa using h2) n I;cases i with
      |zero=>
       simp at h1;obtain⟨rfl,rfl⟩:=h1;have z:=(hN n hn).2;have h4:nx'<=ow n:=hj.1;omega
      |succ i=>exact L.apart_ i j oi fi oj fj (by omega) (by simpa using h1) (by simpa using h2) n hn I
   have runs:∀(e:iN),fq e s.h=fq s.e s.h->sX e s.h->fU am s.e e->(∀f,gD P o (fq s.e s.h) (bD s.h) f->J2 P ops o f (fq s.e s.h) (bD s.h))->dU con b8 (xI P o.op) e s.h s.nx (λv rd wr h nx=>if KH h v then KC con b8 sl' ⟨Dr e o.dst v,h,nx⟩ (⟨rd,wr⟩::fs) K else U)=Z r->∃s' fs' l,K s' (fs.reverse++fs')=Z r/\Z2 P ops (o::rest) (⟨o.dst,xI P o.op,g⟩::sl') am s s' fs' l:=by
    intro e hee hiE hke hstep hk;obtain⟨v,rd,wr,h',nx',A,T⟩:=af3 hcon hH hiE rfl hk;simp only[]at A;split at A
    .rename_i hok;obtain⟨f,t1,t2,t3,t4,t5,t6⟩:=T.ex;rw[hee]at t1;obtain⟨y,hy⟩:=o6 h' v hok;refine done f v h' nx' rd wr e hee hiE hke (hstep f t1) ⟨y,hy,t2 y hy⟩ t3 t4 t5 t6 T.rows T.inv T.grows (λhs=>?_) A;obtain⟨r0,w0⟩:=T.st hs;subst r0;subst w0;constructor
     .cases hl:f.rd with
      |nil=>rfl
      |cons n q=>have:=t4 n (by rw[hl];simp);simp at this
     .cases hl:f.wr with
      |nil=>rfl
      |cons n q=>have:=t5 n (by rw[hl];simp);simp at this
    .cases A
   have skips:∀(e:iN),fq e s.h=fq s.e s.h->sX e s.h->fU am s.e e->J2 P ops o ry (fq s.e s.h) (bD s.h)->KC con b8 sl' ⟨Dr e o.dst .undef,s.h,s.nx⟩ (⟨0,0⟩::fs) K=Z r->∃s' fs' l,K s' (fs.reverse++fs')=Z r/\Z2 P ops (o::rest) (⟨o.dst,xI P o.op,g⟩::sl') am s s' fs' l:=by
    intro e hee hiE hke hstep hk;exact done ry .undef s.h s.nx 0 0 e hee hiE hke hstep ⟨_,rfl,rfl⟩ (by funext i;simp[eG,ry]) (by simp[ry]) (by simp[ry]) (by simp[ry]) (b_.refl _) hH (cN _) (λ_=>⟨rfl,rfl⟩) hk
   rcases Sb hk with ⟨h1,hk⟩|⟨t,want,b,h1,hb,hk⟩|⟨t,want,h1,hb,hk⟩
   .refine runs s.e rfl D (fU.refl _ _) (λf hf=>?_) hk;rcases hg with ⟨_,hg⟩|⟨j,want,t,h2,_,_⟩
    .exact .run hg hf
    .rw[h1]at h2;cases h2
   .rcases hg with ⟨h2,_⟩|⟨j,want',t',h2,z,h4⟩
    .rw[h1]at h2;cases h2
    .rw[h1]at h2;cases h2;have hgt:=hgs t want h1;have heb:fq s.e s.h t=Z (.f (.raw (.bool b))):=by simp only[fq,hb,aD,cf];rfl
     have hke:fU am s.e (s.e.set t (Z (.f .bool b))):=λk hk v' hv=>by
      rw[PT.get_set]at hv;split at hv
      .rename_i ek;rw[ek,hgt]at hk;cases hk
      .exact⟨v',hv,λ_=>rfl⟩
     cases hbw:(b==want) with
     |true=>
      rw[hbw]at hk;have:b=want:=by simpa using hbw
      subst this;exact runs _ (Qm hb) (D.set hb) hke (λf hf=>.runG j t b z h4 heb hf) hk
     |false=>
      rw[hbw]at hk;refine skips _ (Qm hb) (D.set hb) hke (.skip j t want z h4 (.bool b) heb ?_ rfl) hk;intro hv;cases hv;simp at hbw
   .rcases hg with ⟨h2,_⟩|⟨j,want',t',h2,z,h4⟩
    .rw[h1]at h2;cases h2
    .rw[h1]at h2;cases h2;exact skips _ rfl D (fU.refl _ _) (.skip j t want z h4 undef (by simp only[fq,hb,aD,cf]) (by unfold undef;simp) rfl) hk
  .cases hc
theorem abm {P:Program} {ops:Array Oper} {sl:Y r_} {am:Nat} {s s':TS} {fs:Y FPm} {l:Y (Oper×AF)} {prs:Y (Nat×Nat)} (hl:Z2 P ops ops.toList sl am s s' fs l) (hp:LZ ops sl=Z prs) (hok:EL fs prs=M):NIP ops l:=by
 unfold LZ at hp;simp only[]at hp;split at hp
 .rename_i hall;simp only[gm,nz,ak]at hall;simp only[af]at hp;have hop:∀(j:Nat) o f,l[j]? =Z (o,f)->ops[j]? =Z o:=λj o f hj=>by
   have h1:(l.map (·.1))[j]? =Z o:=by rw[bk,hj];rfl
   rw[hl.ops_]at h1;simpa using h1
  have hsize:∀(j:Nat) o,ops[j]? =Z o->j<ops.size:=λj o h=>(cr.1 h).1
  have hprs:∀i j,(i,j)∈prs->∃a b,fs[i]? =Z a/\fs[j]? =Z b/\CS a.wr b.rd=M/\CS a.wr b.wr=M/\CS b.wr a.rd=M:=by
   clear hp hall;induction prs with
   |nil=>intro i j h;cases h
   |cons p prs L=>
    obtain⟨i0,j0⟩:=p;simp only[EL,ak,Vd]at hok;intro i j hm;rcases bx.1 hm with h|h
    .cases h;have h1:=hok.1;split at h1
     .rename_i a b A hb;simp only[ak]at h1;exact⟨a,b,A,hb,h1.1.1,h1.1.2,h1.2⟩
     .cases h1
    .exact L hok.2 i j h
  refine ⟨λj o D e he hb=>?_,λi j oi fi oj fj hij hi hj=>?_,hl.apart_⟩
  .have:=(hall j (hsize j o D)).1;rw[D]at this;simp only[Option.all_some,gm]at this;have:=this e (by simpa using he);simp[hb]at this;exact this
  .have h1:=hop i oi fi hi;have h2:=hop j oj fj hj;have hcase:=(hall j (hsize j oj h2)).2 i hij;rw[h1,h2]at hcase;simp only[iS]at hcase;by_cases z:aP ((JQ ops.toList []).getD j 0) i=M
   .left;rw[ay]at z;cases d:(JQ ops.toList [])[j]? with
    |none=>rw[d]at z;simp at z
    |some B=>
     rw[d]at z;exact MJ (ops:=ops) ops.toList [] (λj o hj=>by simpa using hj) (λj B hj=>by simp at hj) j B d i (by simpa using z)
   .right;have hap:=hcase.resolve_left z;refine ⟨hap,?_⟩;have hil:i<l.length:=(bo.1 hi).1;have hjl:j<l.length:=(bo.1 hj).1;have hsi:=aw (show i<sl.length by rw[hl.sll];exact hil);have hsj:=aw (show j<sl.length by rw[hl.sll];exact hjl);by_cases hst:(sl[i]'(by rw[hl.sll];exact hil)).op.still=M
    .obtain⟨q1,q2⟩:=hl.still i oi fi _ hi hsi hst;rw[q1,q2];exact⟨(λx d=>by cases d),(λx _ d=>by cases d)⟩
    .by_cases hst2:(sl[j]'(by rw[hl.sll];exact hjl)).op.still=M
     .obtain⟨q1,q2⟩:=hl.still j oj fj _ hj hsj hst2;rw[q1,q2];exact⟨(λx d=>⟨(by simp),(by simp)⟩),(λx d=>by cases d)⟩
     .have hmem:(i,j)∈prs:=by
       rw[<- hp,uq];refine ⟨j,nz.2 (hsize j oj h2),?_⟩;rw[List.mem_filterMap];refine ⟨i,nz.2 hij,?_⟩;rw[aM];rw[hsi,hsj];simp only[iS,not_or];exact⟨z,hst,hst2⟩
      obtain⟨a,b,A,hb,d1,d2,d3⟩:=hprs i j hmem;obtain⟨f1,I⟩:=hl.fp i oi fi a hi A;obtain⟨g1,F⟩:=hl.fp j oj fj b hj hb;refine ⟨λx d=>⟨λq=>?_,λq=>?_⟩,λx d q=>?_⟩
      .have:=wV d1 (ow x) (I x d);rw[g1 x q]at this;cases this
      .have:=wV d2 (ow x) (I x d);rw[F x q]at this;cases this
      .have:=wV d3 (ow x) (F x d);rw[f1 x q]at this;cases this
 .cases hp
structure oE (P:Program) (E:Nat->Prop) (nt np:Nat) (φ:PM) (s:TS) (a:Act) (w:World):Prop where
 rep:qI φ E (bD s.h) w
 env:MS φ (tot E φ (bD s.h)) w (fq s.e s.h) a
 dom:∀n k,φ n=Z k->ow n<s.nx
 low:np<=s.nx
 invH:mg s.h s.nx
 invE:sX s.e s.h
 inert:∀d∈a.defers,aac P d
 size:a.tmps.size=nt
structure Bs (np:Nat) (φ φ':PM) (H H':HF) (w w':World):Prop where
 ext:GP (own φ H) w w'
 own_:∀k,k<w.heap.size->own φ' H' k->own φ H k
 par:∀i,i<np->φ' (nm i)=φ (nm i)
theorem Bs.refl (np:Nat) (φ:PM) (H:HF) (w:World):Bs np φ φ H H w w:=⟨GP.refl _ _,λ_ _ h=>h,λ_ _=>rfl⟩
theorem Bs.trans {np:Nat} {φ φ' φ'':PM} {H H' H'':HF} {w w' w'':World} (a:Bs np φ φ' H H' w w') (b:Bs np φ' φ'' H' H'' w' w''):Bs np φ φ'' H H'' w w'' where
 ext:=⟨b.ext.os.trans a.ext.os,b.ext.tape.trans a.ext.tape,b.ext.output.trans a.ext.output,cY a.ext.size b.ext.size,
  λk hk d=>(b.ext.blk k (dz hk a.ext.size) (λh=>d (a.own_ k hk h))).trans (a.ext.blk k hk d),
  λk hk=>(b.ext.shp k (dz hk a.ext.size)).trans (a.ext.shp k hk)⟩
 own_:=λk hk h=>a.own_ k hk (b.own_ k (dz hk a.ext.size) h)
 par:=λi hi=>(b.par i hi).trans (a.par i hi)
theorem Yu {R:Type} {P:Program} {E:Nat->Prop} {nt np:Nat} {φ:PM} {s:TS} {a:Act} {w:World} {con:FuncId->J cj} {b8:TypeId->J Ty} (hm:P.follows .mixedOrders=M) (hcon:Kf P con) (c:oE P E nt np φ s a w) {id:Nat} {ops:Array Oper} {draw:Bool} {sl:Y r_} {prs:Y (Nat×Nat)} {am:Nat} (ham:∀(j:Nat) (o:Oper) (d:Nat),ops[j]? =Z o->o.dst=Z d->aP am d=M)
 (hd:(ops.toList.all λo=>match o.dst with|some d=>decide (d<nt)|none=>M)=M) (hc:rL P ops ops.toList=Z sl) (hp:LZ ops sl=Z prs) {K:TS->J R} {r:R} (hr:KC con b8 sl s [] (λs' fs=>if EL fs prs then K s' else U)=Z r) {Q:Exit->Act->World->Prop}
 (hQ:∀a' w' s' φ',K s'=Z r->oE P E nt np φ' s' a' w'->Bs np φ φ' (bD s.h) (bD s'.h) w w'->fU am s.e s'.e->Q .normal a' w'):(Code.region id ops draw).wp P Q a w:=by
 obtain⟨s',fs',l,z,L⟩:=HJ hcon ham ops.toList sl s [] _ r (λo D=>by
  obtain⟨j,hj⟩:=eS D;exact⟨j,by simpa using hj⟩) hc hr c.invH c.invE
 have z:(if EL fs' prs then K s' else U)=Z r:=z;by_cases hok:EL fs' prs=M
 .rw[aW hok]at z;refine O7 (φ0:=φ) (E:=E) hm L.ops_ L.chain (abm L hp hok) ?_ ?_ c.rep c.env ?_
  .intro n hn;obtain⟨p,q,hn⟩:=uq.1 hn;obtain⟨j,hj⟩:=eS q;have:=L.names j p.1 p.2 hj n hn;cases A:φ n with
   |none=>rfl
   |some k=>have:=c.dom n k A;omega
  .intro j o D d F;have:=gm.1 hd o (by have:=Array.mem_of_getElem? D;simpa using this);rw[F]at this;rw[c.size];simpa using this
  .rintro a' w' ⟨φ',m',d',I,en',df',sz'⟩;have hnm:∀n k,φ' n=Z k->φ n=Z k\/(s.nx<=ow n/\ow n<s'.nx):=λn k hik=>by
    rcases d' n k hik with h|h
    .exact .inl h
    .obtain⟨p,q,hn⟩:=uq.1 h;obtain⟨j,hj⟩:=eS q;exact .inr (L.names j p.1 p.2 hj n hn)
   have hg:=L.grows;have hlow:=c.low;refine hQ a' w' s' φ' z ⟨I,en',λn k hik=>?_,by omega,L.invH,L.invE,by rw[df'];exact c.inert,by rw[sz'];exact c.size⟩ ⟨m'.ext,m'.own_,λi hi=>?_⟩ L.keeps
   .rcases hnm n k hik with h|h
    .have:=c.dom n k h;omega
    .exact h.2
   .cases A:φ (nm i) with
    |some k=>exact m'.sub _ _ A
    |none=>
     cases hy:φ' (nm i) with
     |none=>rfl
     |some k=>
      rcases hnm (nm i) k hy with h|h
      .rw[A]at h;cases h
      .rw[dS]at h;omega
 .rw[aM hok]at z;cases z
theorem yV:∀(l:Y r_) (acc:Nat),Oj l acc=acc|||Oj l 0
 |[],acc=>by simp[Oj]
 |o::r,acc=>by
  simp only[Oj];cases o.dst with
  |none=>exact yV r acc
  |some d=>simp only[];rw[yV r (acc|||ku d),yV r (0|||ku d),xK,jT]
theorem zo:∀(l:ι) (acc:Nat),KK l acc=acc|||KK l 0
 |[],acc=>by simp[KK]
 |k::r,acc=>by simp only[KK];rw[zo r (acc|||ku k),zo r (0|||ku k),xK,jT]
theorem k_:∀(l:Y Adj) (acc:Nat),mw l acc=acc|||mw l 0
 |[],acc=>by simp[mw]
 |.nil k _ _::r,acc=>by simp only[mw];rw[k_ r (acc|||ku k),k_ r (0|||ku k),xK,jT]
 |.cel _ _ _ _::r,acc=>by simp only[mw];exact k_ r acc
 |.mpt _ _ _::r,acc=>by simp only[mw];exact k_ r acc
 |.mz _ _::r,acc=>by simp only[mw];exact k_ r acc
 |.ren k _::r,acc=>by simp only[mw];rw[k_ r (acc|||ku k),k_ r (0|||ku k),xK,jT]
 |.pk _ _ _::r,acc=>by simp only[mw];exact k_ r acc
theorem gG:∀(c:TC) (acc:Nat),c.asg acc=acc|||c.asg 0
 |.reg ops _,acc=>yV ops acc
 |.seq a b,acc=>by simp only[TC.asg];rw[gG b (a.asg acc),gG b (a.asg 0),gG a acc,jT]
 |.jseq A a b,acc=>by simp only[TC.asg];rw[gG b (a.asg _),gG b (a.asg (KK A.ks 0)),gG a (KK A.ks acc),gG a (KK A.ks 0),zo A.ks acc,jT,jT,jT]
 |.cond _ a b,acc=>by simp only[TC.asg];rw[gG b (a.asg acc),gG b (a.asg 0),gG a acc,jT]
 |.block _ b,acc=>gG b acc
 |.jblock A _ b,acc=>by simp only[TC.asg];rw[gG b (KK A.ks acc),gG b (KK A.ks 0),zo A.ks acc,jT]
 |.loop A b,acc=>by simp only[TC.asg];rw[gG b (KK A.ks acc),gG b (KK A.ks 0),zo A.ks acc,jT]
 |.defer _ _ t,acc=>by simp[TC.asg]
 |.adj l c,acc=>by simp only[TC.asg];rw[gG c (mw l acc),gG c (mw l 0),k_ l acc,jT]
 |.split _ _ _ _ c,acc=>gG c acc
 |.bsp _ a b,acc=>by simp only[TC.asg];rw[gG b (a.asg acc),gG b (a.asg 0),gG a acc,jT]
 |.unl _ b,acc=>gG b acc
 |.skip,acc=>by simp[TC.asg]
 |.exit _,acc=>by simp[TC.asg]
 |.ret,acc=>by simp[TC.asg]
 |.bad,acc=>by simp[TC.asg]
theorem sW {c:TC} {acc k:Nat} (h:aP (c.asg 0) k=M):aP (c.asg acc) k=M:=by rw[gG,bz,h];simp
theorem jA {c:TC} {acc k:Nat} (h:aP acc k=M):aP (c.asg acc) k=M:=by rw[gG,bz,h];rfl
theorem U4:∀{l:ι} {acc k:Nat},k∈l->aP (KK l acc) k=M
 |[],_,_,h=>by cases h
 |x::r,acc,k,h=>by
  simp only[KK];rcases bx.1 h with rfl|h
  .rw[zo,bz,bz,bX.2 rfl];simp
  .exact U4 h
theorem Rr:∀{l:Y r_} {acc:Nat} {o:r_} {d:Nat},o∈l->o.dst=Z d->aP (Oj l acc) d=M
 |[],_,_,_,h,_=>by cases h
 |x::r,acc,o,d,h,hd=>by
  simp only[Oj];rcases bx.1 h with rfl|h
  .rw[hd];simp only[];rw[yV,bz,bz,bX.2 rfl];simp
  .exact Rr h hd
theorem Va:∀{e:iN} {ks:ι} {vs:Y TV},nR e ks=Z vs->vs.length=ks.length/\∀(j k:Nat),ks[j]? =Z k->∃v,vs[j]? =Z v/\e.get k=Z v
 |e,[],vs,h=>by simp only[nR,af]at h;subst h;exact⟨rfl,by simp⟩
 |e,k::r,vs,h=>by
  simp only[nR]at h;split at h
  .rename_i v hv;split at h
   .rename_i l hl;simp only[af]at h;subst h;obtain⟨h1,h2⟩:=Va hl;refine ⟨by simp[h1],λj k' hj=>?_⟩;cases j with
    |zero=>simp at hj;subst hj;exact⟨v,rfl,hv⟩
    |succ j=>simpa using h2 j k' (by simpa using hj)
   .cases h
  .cases h
theorem HN {e:iN} {h:bn} (hi:sX e h):∀{ks:ι} {vs:Y TV},nR e ks=Z vs->kS h vs=M
 |[],vs,hg=>by simp only[nR,af]at hg;subst hg;rfl
 |k::r,vs,hg=>by
  simp only[nR]at hg;split at hg
  .rename_i v hv;split at hg
   .rename_i l hl;simp only[af]at hg;subst hg;simp only[kS,ak];exact⟨hi k v hv,HN hi hl⟩
   .cases hg
  .cases hg
theorem BL:∀{e:iN} {ks:ι} {vs:Y TV},vs.length=ks.length->∀t v,(V0 e ks vs).get t=Z v->(∃j:Nat,ks[j]? =Z t/\vs[j]? =Z v)\/(t∉ks/\e.get t=Z v)
 |e,[],[],_,t,v,h=>.inr ⟨by simp,h⟩
 |e,[],_::_,hl,t,v,h=>by simp at hl
 |e,_::_,[],hl,t,v,h=>by simp at hl
 |e,k::r,u::l,hl,t,v,h=>by
  simp only[V0,PT.get_set]at h;split at h
  .rename_i d;subst d;cases h;exact .inl ⟨0,rfl,rfl⟩
  .rename_i d;rcases BL (by simpa using hl) t v h with ⟨j,h1,h2⟩|⟨h1,h2⟩
   .exact .inl ⟨j+1,by simpa using h1,by simpa using h2⟩
   .exact .inr ⟨by simp[d,h1],h2⟩
theorem s8 {am:Nat} {e:iN}:∀{ks:ι} {k:Nat} {v:TV},(B9 am e ks).get k=Z v->k∈ks/\e.get k=Z v/\tL v=M/\aP am k=aa
 |[],k,v,h=>by simp[B9,PT.get]at h
 |x::r,k,v,h=>by
  simp only[B9]at h;split at h
  .rename_i u hu;split at h
   .rename_i hc;simp only[ak,ec]at hc;rw[PT.get_set]at h;split at h
    .rename_i d;subst d;cases h;exact⟨by simp,hu,hc.1,hc.2⟩
    .obtain⟨h1,h2⟩:=s8 h;exact⟨by simp[h1],h2⟩
   .obtain⟨h1,h2⟩:=s8 h;exact⟨by simp[h1],h2⟩
  .obtain⟨h1,h2⟩:=s8 h;exact⟨by simp[h1],h2⟩
theorem Ic {am:Nat} {e0 e:iN}:∀{ks:ι},G8 am e0 e ks=M->∀k v,k∈ks->e0.get k=Z v->tL v=M->aP am k=aa->∃q,e.get k=Z q
 |[],_,k,v,h,_,_,_=>by cases h
 |x::r,hc,k,v,h,hv,hf,d=>by
  simp only[G8,ak]at hc;rcases bx.1 h with rfl|h
  .have h1:=hc.1;rw[hv]at h1;simp only[hf,d,Bool.not_true,Bool.false_or]at h1;cases s:e.get k with
   |none=>rw[s]at h1;cases h1
   |some u=>exact⟨u,rfl⟩
  .exact Ic hc.2 k v h hv hf d
section walk
variable {P:Program} {E:Nat->Prop} {nt np:Nat}
theorem Qk {h:bn} {v:TV} {y:AV} (hn:abu v=M) (d:cf h v=Z y):Le y .emp:=by
 cases v with
 |nil=>simp only[cf,af]at d;subst d;exact Le.nilEmp
 |emp=>simp only[cf,af]at d;subst d;exact Le.refl _
 |_=>cases hn
theorem VH {φ:PM} {s:TS} {a:Act} {w:World} (c:oE P E nt np φ s a w) (ty:TypeId) (T:Ty):oE P E nt np φ ⟨s.e,s.h.set s.nx (Z (.rows ty M T [])),s.nx+1⟩ a w/\bD (s.h.set s.nx (Z (.rows ty M T [])))=bD s.h/\b_ s.h (s.h.set s.nx (Z (.rows ty M T []))):=by
 have hfr:=c.invH.fresh;have hr:b_ s.h (s.h.set s.nx (Z (.rows ty M T []))):=b_.set λr hr=>by rw[bR,hfr]at hr;cases hr
 have A:bD (s.h.set s.nx (Z (.rows ty M T [])))=bD s.h:=by
  funext n;by_cases hn:n=nm s.nx
  .subst hn;rw[bL,bL,PT.get_set,aW rfl,hfr];rfl
  .refine kr c.invH hr λi e=>?_
   subst e;rw[PT.get_set,aM (λe=>hn (by rw[e]))]
 refine ⟨⟨by rw[A];exact c.rep,?_,λn k hk=>za (c.dom n k hk),iy c.low,c.invH.set hr (qy _) (Nat.le_succ _) (λ_ _ he=>by cases he),?_,c.inert,c.size⟩,A,hr⟩
 .intro t x d;rw[A];simp only[fq]at d;cases he:s.e.get t with
  |none=>rw[he]at d;cases d
  |some q=>
   rw[he]at d;obtain⟨z,D⟩:=o6 s.h q (c.invE t q he);simp only[aD,fG hr q z D,af]at d;subst d;exact c.env t _ (by simp only[fq,he,aD,D])
 .intro t x d;exact mR hr x (c.invE t x d)
theorem yc {h:bn}:∀{a b:Y TV},kS h a=M->kS h b=M->kS h (a++b)=M
 |[],_,_,hb=>hb
 |x::r,b,d,hb=>by
  simp only[kS,ak]at d;simp only[ia,kS,ak];exact⟨d.1,yc d.2 hb⟩
theorem L1 {h:bn}:∀{a:Y TV} (n:Nat),kS h a=M->kS h (a.take n)=M
 |[],n,_=>by simp[kS]
 |x::r,0,_=>rfl
 |x::r,n+1,d=>by
  simp only[kS,ak]at d;simp only[vb,kS,ak];exact⟨d.1,L1 n d.2⟩
theorem L2 {h:bn}:∀{a:Y TV} (n:Nat),kS h a=M->kS h (a.drop n)=M
 |[],n,_=>by simp[kS]
 |x::r,0,d=>d
 |x::r,n+1,d=>by
  simp only[kS,ak]at d;simp only[vh];exact L2 n d.2
theorem xV {α:Type} {l:Y α} {j:Nat} {x:α} (h:l[j]? =Z x):splice l j [x]=l:=by
 have hl:j<l.length:=by
  rcases bN j l.length with h'|h'
  .exact h'
  .rw[bK h']at h;cases h
 rw[aw hl,af]at h;unfold splice;subst h;simp
theorem ZW {φ:PM} {s:TS} {a:Act} {w:World} (c:oE P E nt np φ s a w) {id j:Nat} {cty:J TypeId} {l:Y TV} {v u:TV} (hb:s.h.get id=Z (.cells cty l)) (hv:l[j]? =Z v) (hn:abu v=M) (hu:cf s.h u=Z .emp) (huo:KH s.h u=M):
 oE P E nt np φ ⟨s.e,s.h.set id (Z (.cells cty (splice l j [u]))),s.nx⟩ a w/\Bs np φ φ (bD s.h) (bD (s.h.set id (Z (.cells cty (splice l j [u]))))) w w:=by
 have hr:b_ s.h (s.h.set id (Z (.cells cty (splice l j [u])))):=b_.set λr hr=>by rw[bR,hb]at hr;cases hr
 have hlo:=c.invH.cells id _ l hb;obtain⟨A,D⟩:=eU s.h l hlo;have hsp:cF s.h (splice l j [u])=Z (splice A j [.emp]):=pD j D (by simp only[cF,hu]);have hsp':cF (s.h.set id (Z (.cells cty (splice l j [u])))) (splice l j [u])=Z (splice A j [.emp]):=fY hr _ _ hsp;obtain⟨y,hy,hey⟩:=k9 D j v hv;have hold:bD s.h (nm id)=Z (Vv cty A):=by rw[bL,hb];cases cty<;>(simp only[aD,jC,D];rfl)
 have hnew:bD (s.h.set id (Z (.cells cty (splice l j [u])))) (nm id)=Z (Vv cty (splice A j [.emp])):=by
  rw[bL,PT.get_set,aW rfl];cases cty<;>(simp only[aD,jC,hsp'];rfl)
 have hoth:∀n,n≠nm id->bD (s.h.set id (Z (.cells cty (splice l j [u])))) n=bD s.h n:=λn I=>by
  refine kr c.invH hr λi e=>?_
  subst e;rw[PT.get_set,aM (λe=>I (by rw[e]))]
 have hdom:ul (bD s.h) (bD (s.h.set id (Z (.cells cty (splice l j [u]))))):=λn b F=>by
  by_cases e:n=nm id
  .subst e;exact⟨_,hold⟩
  .rw[hoth n e]at F;exact⟨b,F⟩
 have hcell:∀ty,cty=Z ty->∀x∈A,x.isCell=M:=λty hty x d=>by
  subst hty;obtain⟨k,hk⟩:=eS d;obtain⟨q,_,_,hat⟩:=c.rep.at_ _ _ hold;unfold VU at hat;obtain⟨ob,_,hob⟩:=hat;rw[show Vv (Z ty) A=⟨ty,.mx A⟩ from rfl,pz rfl]at hob;obtain⟨arr,_,hca⟩:=hob;exact (hca.2 k x hk).1
 have hV:GJ (bD s.h) (bD (s.h.set id (Z (.cells cty (splice l j [u]))))):=⟨hdom,λn b b' h1 h2=>by
  by_cases e:n=nm id
  .subst e;rw[hold]at h1;cases h1;rw[hnew]at h2;cases h2;have hle:gY (bD s.h) (bD (s.h.set id (Z (.cells cty (splice l j [u]))))) A (splice A j [.emp]):=by
    have:=gY.splice j (gY.refl hdom A) (b:=[y]) (b':=[.emp]) ⟨(Qk hn hey).toH hdom,trivial⟩;rw[xV hy]at this;exact this
   cases cty with
   |none=>exact iv.told hle
   |some ty=>
    refine iv.cells rfl rfl hle λx d=>?_
    have d:x∈splice A j [.emp]:=d;unfold splice at d;rw[bP,bP,aI]at d;rcases d with (d|d)|d
    .exact hcell ty rfl x (fH d)
    .subst d;rfl
    .exact hcell ty rfl x (List.mem_of_mem_drop d)
  .rw[hoth n e,h1]at h2;cases h2;exact iv.refl hdom b⟩
 refine ⟨⟨hV.rep c.rep,?_,c.dom,c.low,c.invH.set hr (c.invH.low id _ hb) (cN _) (λty l2 he=>?_),?_,c.inert,c.size⟩,⟨GP.refl _ _,λk _ ho=>hdom.own ho,λ_ _=>rfl⟩⟩
 .intro t x d;simp only[fq]at d;cases he:s.e.get t with
  |none=>rw[he]at d;cases d
  |some q=>
   rw[he]at d;obtain⟨z,L⟩:=o6 s.h q (c.invE t q he);simp only[aD,fG hr q z L,af]at d;subst d;exact (c.env t _ (by simp only[fq,he,aD,L])).dom hdom
 .simp only[ii.cells.injEq]at he;obtain⟨_,rfl⟩:=he;refine iU hr _ ?_;unfold splice;exact yc (yc (L1 _ hlo) (by simp only[kS,huo,jE])) (L2 _ hlo)
 .intro t x d;exact mR hr x (c.invE t x d)
theorem oE.congr {φ:PM} {s s':TS} {a:Act} {w:World} (c:oE P E nt np φ s a w) (he:∀t,s'.e.get t=s.e.get t) (hh:∀i,s'.h.get i=s.h.get i) (hn:s'.nx=s.nx):oE P E nt np φ s' a w/\bD s'.h=bD s.h:=by
 have hr:b_ s.h s'.h:=λi r hi=>by rw[bR]at hi ⊢;rw[hh];exact hi
 have q:bD s'.h=bD s.h:=by funext n;exact kr c.invH hr λi _=>hh i
 refine ⟨⟨by rw[q];exact c.rep,?_,by rw[hn];exact c.dom,by rw[hn];exact c.low,⟨λi ty l hg=>?_,λi b hg=>?_⟩,λt v hv=>?_,c.inert,c.size⟩,q⟩
 .intro t x d;rw[q];simp only[fq,he]at d;cases hg:s.e.get t with
  |none=>rw[hg]at d;cases d
  |some v=>
   rw[hg]at d;obtain⟨z,A⟩:=o6 s.h v (c.invE t v hg);simp only[aD,fG hr v z A,af]at d;subst d;exact c.env t _ (by simp only[fq,hg,aD,A])
 .rw[hh]at hg;exact iU hr l (c.invH.cells i _ l hg)
 .rw[hh]at hg;rw[hn];exact c.invH.low i b hg
 .rw[he]at hv;exact mR hr v (c.invE t v hv)
theorem OW {R:Type} {v:Int} {f:Nat->J R} {r:R}:∀{m i:Nat},spl v f i m=Z r->∃j,v=aT j/\f j=Z r
 |0,i,h=>by cases h
 |m+1,i,h=>by
  simp only[spl]at h;rcases lX h with ⟨h1,h2⟩|⟨_,h2⟩
  .exact⟨i,bf h1,h2⟩
  .exact OW h2
theorem Yr {φ:PM} {s s':TS} {a:Act} {w:World} (c:oE P E nt np φ s a w) {k off:Nat} {kd:IntKind} {v:Int} (h1:YZ s k off=Z (kd,v)) (h2:Sn s k off kd v=Z s'):oE P E nt np φ s' a w/\bD s'.h=bD s.h/\∀t,s'.e.get t=s.e.get t:=by
 unfold YZ at h1;unfold Sn at h2;cases hk:s.e.get k with
 |none=>rw[hk]at h1;cases h1
 |some x=>
  rw[hk]at h1 h2;cases x with
  |f T q=>
   cases T with
   |int kd'=>
    simp only[af,aC]at h1;obtain⟨rfl,rfl⟩:=h1;simp only[af]at h2;subst h2;have he:∀t,(s.e.set k (Z (.f (.int kd') q))).get t=s.e.get t:=λt=>by
     rw[PT.get_set];split
     .rename_i e;subst e;exact hk.symm
     .rfl
    obtain⟨A,z⟩:=c.congr (s':=⟨s.e.set k (Z (.f (.int kd') q)),s.h,s.nx⟩) he (λ_=>rfl) rfl;exact⟨A,z,he⟩
   |_=>cases h1
  |ptr a0 d=>
   simp only[]at h1 h2;cases hb:s.h.get a0 with
   |none=>rw[hb]at h1;cases h1
   |some b=>
    rw[hb]at h1 h2;cases b with
    |cells ty l=>
     cases ty with
     |none=>cases h1
     |some ty=>
     simp only[]at h1 h2;cases hl:l[d+off]? with
     |none=>rw[hl]at h1;cases h1
     |some y=>
      rw[hl]at h1;cases y with
      |f T q=>
       cases T with
       |int kd'=>
        simp only[af,aC]at h1;obtain⟨rfl,rfl⟩:=h1;simp only[af]at h2;subst h2;have hh:∀i,(s.h.set a0 (Z (.cells (Z ty) (splice l (d+off) [.f (.int kd') q])))).get i=s.h.get i:=λi=>by
         rw[PT.get_set];split
         .rename_i e;subst e;rw[hb,xV hl]
         .rfl
        obtain⟨A,z⟩:=c.congr (s':=⟨s.e,s.h.set a0 (Z (.cells (Z ty) (splice l (d+off) [.f (.int kd') q]))),s.nx⟩) (λ_=>rfl) hh rfl;exact⟨A,z,λ_=>rfl⟩
       |_=>cases h1
      |_=>cases h1
    |_=>cases h1
  |_=>cases h1
mutual
theorem LP (id sz n:Nat):∀v:TV,tL v=M->Ku id sz n v=v
 |.f _ _,_=>rfl
 |.fel _ _ _ _ _,_=>rfl
 |.emp,_=>rfl
 |.nil,_=>rfl
 |.undef,_=>rfl
 |.np,_=>rfl
 |.anyb,_=>rfl
 |.agg l,h=>by simp only[Ku];rw[AK id sz n l h]
 |.tup l,h=>by simp only[Ku];rw[AK id sz n l h]
 |.pel _ _ _ _,h=>by cases h
 |.ptr _ _,h=>by cases h
 |.csl _ _ _,h=>by cases h
 |.row _,h=>by cases h
 |.rtl _ _,h=>by cases h
 |.mp _,h=>by cases h
 |.ful _ _,h=>by cases h
 |.clo _ _,h=>by cases h
theorem AK (id sz n:Nat):∀l:Y TV,qf l=M->BI id sz n l=l
 |[],_=>rfl
 |x::r,h=>by
  simp only[qf,ak]at h;simp only[BI];rw[LP id sz n x h.1,AK id sz n r h.2]
end
section subs
variable {id sz n:Nat} {h h':bn}
mutual
theorem M3 (hr:b_ h h') (hid:ej h' id=Z (aa,sz,n)):∀(v:TV) (y:AV),cf h v=Z y->cf h' (Ku id sz n v)=Z y
 |.csl i s m,y,he=>by
  simp only[cf,af]at he;subst he;simp only[Ku];split
  .rename_i hq;simp only[ak]at hq;have e1:=au hq.1.1;have e2:=au hq.1.2;have e3:=au hq.2;subst e1;subst e2;subst e3;simp only[cf,hid,e_,jV,bO,dx]
  .rfl
 |.agg l,y,he=>by
  simp only[cf]at he;cases hl:cF h l with
  |none=>rw[hl]at he;cases he
  |some l'=>rw[hl]at he;simp only[Ku,cf,vk hr hid l l' hl];exact he
 |.tup l,y,he=>by
  simp only[cf]at he;cases hl:cF h l with
  |none=>rw[hl]at he;cases he
  |some l'=>rw[hl]at he;simp only[Ku,cf,vk hr hid l l' hl];exact he
 |.clo g l,y,he=>by
  simp only[cf]at he;cases hl:cF h l with
  |none=>rw[hl]at he;cases he
  |some l'=>rw[hl]at he;simp only[Ku,cf,vk hr hid l l' hl];exact he
 |.f T v,y,he=>fG hr _ _ he
 |.fel T xs j hj off,y,he=>fG hr _ _ he
 |.pel _ _ _ _,y,he=>fG hr _ _ he
 |.ptr _ _,y,he=>fG hr _ _ he
 |.row _,y,he=>fG hr _ _ he
 |.rtl _ _,y,he=>fG hr _ _ he
 |.emp,y,he=>fG hr _ _ he
 |.nil,y,he=>fG hr _ _ he
 |.mp _,y,he=>fG hr _ _ he
 |.undef,y,he=>fG hr _ _ he
 |.np,y,he=>fG hr _ _ he
 |.anyb,y,he=>fG hr _ _ he
 |.ful _ _,y,he=>fG hr _ _ he
theorem vk (hr:b_ h h') (hid:ej h' id=Z (aa,sz,n)):∀(l:Y TV) (l':Y AV),cF h l=Z l'->cF h' (BI id sz n l)=Z l'
 |[],l',he=>by simp only[cF,af]at he;subst he;rfl
 |x::r,l',he=>by
  obtain⟨y,l2,rfl,h1,h2⟩:=cU he;simp only[BI];exact oX (M3 hr hid x y h1) (vk hr hid r l2 h2)
end
end subs
theorem ai8 {φ:PM} {s:TS} {a:Act} {w:World} (c:oE P E nt np φ s a w) {T:Ty} {id sz n:Nat} {s':TS} (hp:pkS s T id sz n=Z s'):oE P E nt np φ s' a w/\Bs np φ φ (bD s.h) (bD s'.h) w w/\fU 0 s.e s'.e:=by
 unfold pkS at hp;split at hp
 .rename_i ty l hb;split at hp
  .rename_i hs;have hs:=au hs;subst hs;split at hp
   .rename_i xs m hpk;split at hp
    .cases hp
    .rename_i hmid;simp only[af]at hp;subst hp;have hm:dN s.h m:=M9 n l xs m hpk;obtain⟨l',hl⟩:=eU s.h l (c.invH.cells id _ l hb);have hidlt:=c.invH.low id _ hb;have nR:∀i,((PT.updI (λ_ b=>VX id T.size n b) 1 0 (d_ m s.h)).set id (Z (.rows ty aa T xs))).get i=if i=id then Z (.rows ty aa T xs) else if aP m i then (s.h.get i).map uC else (s.h.get i).map (VX id T.size n):=λi=>by
      rw[PT.get_set];by_cases e:i=id
      .rw[aW e,aW e]
      .rw[aM e,aM e,PT.get_updI,iX];split
       .cases hg:s.h.get i with
        |none=>rfl
        |some b=>cases b<;>rfl
       .rfl
     generalize hH2:((PT.updI (λ_ b=>VX id T.size n b) 1 0 (d_ m s.h)).set id (Z (.rows ty aa T xs)))=h2 at nR ⊢;have hr:b_ s.h h2:=λi r hi=>by
      rw[bR]at hi ⊢;rw[nR];by_cases e:i=id
      .subst e;rw[hb]at hi;cases hi
      .rw[aM e];cases hg:s.h.get i with
       |none=>rw[hg]at hi;cases hi
       |some b=>
        rw[hg]at hi;split
        .exact LV hi
        .cases b<;>first|exact hi|cases hi
     have hnone:∀i,aP m i=M->bD h2 (nm i)=U:=λi hi=>by
      have e:i≠id:=λe=>by subst e;exact hmid hi
      obtain⟨ty',p',T',xs',A⟩:=hm i hi;rw[bL,nR,aM e,aW hi,A];rfl
     have hdom:ul (bD s.h) (bD h2):=λq b hq=>by
      obtain⟨i,cc,rfl,d,h4⟩:=jB hq;rw[bL];rw[nR]at d;by_cases e:i=id
      .subst e;rw[hb];simp only[aD,jC,hl];exact⟨_,rfl⟩
      .rw[aM e]at d;cases hg:s.h.get i with
       |none=>rw[hg]at d;split at d<;>cases d
       |some b0=>
        rw[hg]at d;split at d
        .simp only[bW,af]at d;subst d;cases b0<;>simp[uC,jC]at h4
        .simp only[bW,af]at d;subst d;simp only[aD];cases b0 with
         |cells ty0 l0=>
          obtain⟨l0',F⟩:=eU s.h l0 (c.invH.cells i _ l0 hg);exact⟨Vv ty0 l0',by cases ty0<;>(simp only[jC,F];rfl)⟩
         |rows=>exact⟨_,h4⟩
         |dead=>exact⟨_,h4⟩
         |mp=>exact⟨_,h4⟩
     have giv:Dl s.h (bD s.h) (bD h2) m:=λi hi=>⟨rfl,hnone i hi⟩
     obtain⟨hle,hlen⟩:=BW hdom n l xs m l' hpk hl giv;have hrow:ej h2 id=Z (aa,T.size,n):=by rw[bR,nR,aW rfl,<-hlen];rfl
     have hV:GJ (bD s.h) (bD h2):=⟨hdom,λq b b' d h4=>by
      obtain⟨i,cc,rfl,L,h6⟩:=jB h4;rw[bL]at d;rw[nR]at L;by_cases e:i=id
      .subst e;rw[aW rfl]at L;cases L;rw[hb]at d;simp only[aD,jC,hl,af]at d;subst d;simp only[jC,jV,bO,dx,af]at h6;subst h6;refine iv.cells rfl rfl hle λx A=>?_
       simp only[BC.toMx]at A;obtain⟨q,hq,rfl⟩:=cZ.1 A;exact rf T _ q hq
      .rw[aM e]at L;cases hg:s.h.get i with
       |none=>rw[hg]at L;split at L<;>cases L
       |some b0=>
        rw[hg]at L d;split at L
        .simp only[bW,af]at L;subst L;cases b0<;>simp[uC,jC]at h6
        .simp only[bW,af]at L;subst L;have:b=b':=by
          simp only[aD]at d;cases b0 with
          |cells ty0 l0=>
           obtain⟨l0',F⟩:=eU s.h l0 (c.invH.cells i _ l0 hg);cases ty0<;>
            (simp only[jC,F,af]at d
             simp only[VX,jC,vk hr hrow l0 l0' F,af]at h6;rw[<- d,<-h6])
          |rows ty1 p1 T1 xs1=>
           have h3':jC h2 (.rows ty1 p1 T1 xs1)=Z b:=d;exact jZ (h3'.symm.trans h6)
          |dead p1 s1 n1=>
           have h3':jC h2 (.dead p1 s1 n1)=Z b:=d;exact jZ (h3'.symm.trans h6)
          |mp K1 V1 es1=>
           have h3':jC h2 (.mp K1 V1 es1)=Z b:=d;exact jZ (h3'.symm.trans h6)
         subst this;exact iv.refl hdom b⟩
     refine ⟨⟨hV.rep c.rep,?_,c.dom,c.low,⟨λi ty' l2 hg=>?_,λi b hg=>?_⟩,?_,c.inert,c.size⟩,⟨GP.refl _ _,λk _ hk=>hdom.own hk,λ_ _=>rfl⟩,?_⟩
     .intro t x A;simp only[fq,PT.get_updI]at A;cases he:s.e.get t with
      |none=>rw[he]at A;cases A
      |some v=>
       rw[he]at A;obtain⟨z,hz⟩:=o6 s.h v (c.invE t v he);simp only[bW,aD,M3 hr hrow v z hz,af]at A;subst A;exact (c.env t _ (by simp only[fq,he,aD,hz])).dom hdom
     .rw[nR]at hg;by_cases e:i=id
      .rw[aW e]at hg;cases hg
      .rw[aM e]at hg;cases I:s.h.get i with
       |none=>rw[I]at hg;split at hg<;>cases hg
       |some b0=>
        rw[I]at hg;split at hg
        .simp only[bW,af]at hg;cases b0<;>simp[uC]at hg
        .simp only[bW,af]at hg;cases b0 with
         |cells ty0 l0=>
          simp only[VX,ii.cells.injEq]at hg;obtain⟨_,rfl⟩:=hg;obtain⟨l0',F⟩:=eU s.h l0 (c.invH.cells i _ l0 I);exact jX _ _ _ (vk hr hrow l0 l0' F)
         |_=>cases hg
     .rw[nR]at hg;by_cases e:i=id
      .subst e;exact hidlt
      .rw[aM e]at hg;cases I:s.h.get i with
       |none=>rw[I]at hg;split at hg<;>cases hg
       |some b0=>exact c.invH.low i b0 I
     .intro t x A;simp only[PT.get_updI]at A;cases he:s.e.get t with
      |none=>rw[he]at A;cases A
      |some v=>
       rw[he]at A;simp only[bW,af]at A;subst A;obtain⟨z,hz⟩:=o6 s.h v (c.invE t v he);exact D8 _ _ _ (M3 hr hrow v z hz)
     .intro k _ v' D;simp only[PT.get_updI]at D;cases he:s.e.get k with
      |none=>rw[he]at D;cases D
      |some v=>
       rw[he]at D;simp only[bW,af]at D;subst D;exact⟨v,rfl,λhf=>LP _ _ _ v hf⟩
   .cases hp
  .cases hp
 .cases hp
theorem ai3 {φ:PM} {s:TS} {a:Act} {w:World} (c:oE P E nt np φ s a w) {k off:Nat} {s':TS} (h:LA s (.ren k off)=Z s'):∃φ',oE P E nt np φ' s' a w/\Bs np φ φ' (bD s.h) (bD s'.h) w w/\fU (mw [.ren k off] 0) s.e s'.e:=by
 simp only[LA]at h;split at h
 .rename_i b o hk;split at h
  .rename_i cty l hb;split at h
   .rename_i id hv;split at h
    .rename_i ty p T xs A;simp only[af]at h;subst h;have hfr:=c.invH.fresh;have hidlt:=c.invH.low id _ A;have hblt:=c.invH.low b _ hb;have hbid:b≠id:=λe=>by rw[e,A]at hb;cases hb
     have hbn:b≠s.nx:=by omega
     have hin:id≠s.nx:=by omega
     generalize hh2:(((s.h.set id (Z (.dead p T.size xs.length))).set s.nx (Z (.rows ty p T xs))).set b (Z (.cells (Z cty) (splice l (o+off) [.row s.nx]))))=h2;have nR:∀i,h2.get i=if i=b then Z (.cells (Z cty) (splice l (o+off) [.row s.nx])) else if i=s.nx then Z (.rows ty p T xs) else if i=id then Z (.dead p T.size xs.length) else s.h.get i:=λi=>by
      rw[<- hh2,PT.get_set,PT.get_set,PT.get_set]
     have hr:b_ s.h h2:=λi r hi=>by
      rw[bR]at hi ⊢;rw[nR];by_cases e1:i=b
      .subst e1;rw[hb]at hi;cases hi
      .rw[aM e1];by_cases e2:i=s.nx
       .subst e2;rw[hfr]at hi;cases hi
       .rw[aM e2];by_cases e3:i=id
        .subst e3;rw[aW rfl];rw[A]at hi;exact hi
        .rw[aM e3];exact hi
     have hlo:=c.invH.cells b _ l hb;obtain⟨L,hl'⟩:=eU s.h l hlo;have hrow:cf h2 (.row s.nx)=Z (e_ p s.nx T.size xs.length):=by
      simp only[cf,bR,nR];rw[aM hbn.symm];simp only[bH,aD,mN]
     have hsp:cF h2 (splice l (o+off) [.row s.nx])=Z (splice L (o+off) [e_ p s.nx T.size xs.length]):=pD _ (fY hr _ _ hl') (by simp only[cF,hrow]);obtain⟨y,hy,hey⟩:=k9 hl' _ _ hv;have hy0:y=e_ p id T.size xs.length:=by
      simp only[cf,bR,A,aD,mN,af]at hey;exact hey.symm
     subst hy0;have hold:bD s.h (nm b)=Z ⟨cty,.mx L⟩:=by rw[bL,hb];simp only[aD,jC,hl']
     have hnew:bD h2 (nm b)=Z ⟨cty,.mx (splice L (o+off) [e_ p s.nx T.size xs.length])⟩:=by
      rw[bL,nR,aW rfl];simp only[aD,jC,hsp]
     have hdead:bD h2 (nm id)=U:=by rw[bL,nR,aM hbid.symm,aM hin,aW rfl];rfl
     have hnx2:bD h2 (nm s.nx)=if p&&xs.length==0 then U else Z ⟨ty,.fz (xs.flatMap (bQ T))⟩:=by rw[bL,nR,aM hbn.symm,aW rfl];rfl
     have hid0:bD s.h (nm id)=if p&&xs.length==0 then U else Z ⟨ty,.fz (xs.flatMap (bQ T))⟩:=by rw[bL,A];rfl
     have hoth:∀n,n≠nm b->n≠nm s.nx->n≠nm id->bD h2 n=bD s.h n:=λn e1 e2 e3=>kr c.invH hr λi e=>by
      subst e;rw[nR,aM (λe=>e1 (by rw[e])),aM (λe=>e2 (by rw[e])),aM (λe=>e3 (by rw[e]))]
     have hnb:nm b≠nm s.nx:=λe=>hbn (kT e)
     have hbi:nm b≠nm id:=λe=>hbid (kT e)
     have hni:nm s.nx≠nm id:=λe=>hin (kT e).symm
     have hinv:mg h2 (s.nx+1):=by
      refine ⟨λi ty2 l2 hil=>?_,λi q hiq=>?_⟩
      .rw[nR]at hil;split at hil
       .simp only[af,ii.cells.injEq]at hil;obtain⟨_,rfl⟩:=hil;exact jX _ _ _ hsp
       .split at hil
        .cases hil
        .split at hil
         .cases hil
         .exact iU hr l2 (c.invH.cells i _ l2 hil)
      .rw[nR]at hiq;split at hiq
       .omega
       .split at hiq
        .omega
        .split at hiq
         .omega
         .have:=c.invH.low i q hiq;omega
     have hE:∀t x,fq s.e h2 t=Z x->fq s.e s.h t=Z x:=λt x d=>by
      simp only[fq]at d ⊢;cases he:s.e.get t with
      |none=>rw[he]at d;cases d
      |some q=>
       rw[he]at d;obtain⟨z,hz⟩:=o6 s.h q (c.invE t q he);simp only[aD,fG hr q z hz,af]at d;subst d;simp only[aD,hz]
     by_cases hp:(p&&xs.length==0)=M
     ·
      have I:bD h2=bD s.h:=by
       funext n;by_cases e1:n=nm b
       .subst e1;rw[hold,hnew];have:e_ p s.nx T.size xs.length=e_ p id T.size xs.length:=by unfold e_;rw[aW hp,aW hp]
        rw[this,xV hy]
       .by_cases e2:n=nm s.nx
        .subst e2;rw[hnx2,aW hp,bL,hfr];rfl
        .by_cases e3:n=nm id
         .subst e3;rw[hdead,hid0,aW hp]
         .exact hoth n e1 e2 e3
      refine ⟨φ,⟨by rw[I];exact c.rep,λt x d=>by rw[I];exact c.env t x (hE t x d),λn q hq=>za (c.dom n q hq),iy c.low,hinv,λt x d=>mR hr x (c.invE t x d),c.inert,c.size⟩,by rw[I];exact Bs.refl _ _ _ _,fU.refl _ _⟩
     .have hid1:bD s.h (nm id)=Z ⟨ty,.fz (xs.flatMap (bQ T))⟩:=by rw[hid0,aM hp]
      obtain⟨kk,k1,k2,ob,k3,k4⟩:=c.rep.at_ _ _ hid1;have hφn:φ (nm s.nx)=U:=by
       cases hq:φ (nm s.nx) with
       |none=>rfl
       |some q=>have:=c.dom _ q hq;rw[dS]at this;omega
      let nw:HF:=λn=>if n=nm s.nx then Z ⟨ty,.fz (xs.flatMap (bQ T))⟩ else U
      have hsh:Et w w kk ob:=⟨rfl,rfl,rfl,rfl,k3,λ_ _=>rfl,λ_=>rfl⟩
      obtain⟨φ',p1,p2,p3,p4⟩:=c.rep.wren hid1 k1 hφn hsh k4 nw (by simp[nw]) (by simp only[nw];rw[aM hni.symm]);have hb1:eG (bD s.h) [nm s.nx,nm id] nw (nm b)=Z ⟨cty,.mx L⟩:=by
       unfold eG;rw[aM (by simp[hnb,hbi]),hold]
      obtain⟨kb,b1,b2,ob2,b3,b4⟩:=p4.at_ _ _ hb1;have hlt:o+off<L.length:=by
       rcases bN (o+off) L.length with h'|h'
       .exact h'
       .rw[bK h']at hy;cases hy
      have hob:iY φ' (tot E φ' (eG (bD s.h) [nm s.nx,nm id] nw)) w ⟨cty,.mx (splice L (o+off) [e_ p s.nx T.size xs.length])⟩ ob2:=by
       rw[pz rfl]at b4 ⊢;obtain⟨arr,a1,a2⟩:=b4;refine ⟨arr,a1,?_⟩;unfold uN at a2 ⊢;refine ⟨by simp only[BC.len]at a2 ⊢;rw[oh (by simp;omega)];exact a2.1,λj x d=>?_⟩;simp only[BC.get]at d a2;rw[mO (by simp;omega)]at d;split at d
       .exact a2.2 j x d
       .split at d
        .rename_i h3 D;simp only[c9]at D;have hj:j=o+off:=by omega
         subst hj;simp only[y_,lD,af]at d;subst d;obtain⟨_,v,a3,a4⟩:=a2.2 _ _ hy;unfold e_ at a4 ⊢;rw[aM hp]at a4 ⊢;refine ⟨rfl,v,a3,?_⟩;cases a4 with
         |@row _ _ _ cc q hφq hn hc hs2=>
          have:=p2.sub _ _ k1;rw[this,af]at hφq;subst hφq;exact .row p1 hn hc hs2
        .exact a2.2 j x d
      obtain⟨q1,q2⟩:=p4.wset hb1 b1 (⟨rfl,rfl,rfl,rfl,b3,λ_ _=>rfl,λ_=>rfl⟩:Et w w kb ob2) hob (λn=>if n=nm b then Z ⟨cty,.mx (splice L (o+off) [e_ p s.nx T.size xs.length])⟩ else U) (by simp);have I:eG (eG (bD s.h) [nm s.nx,nm id] nw) [nm b] (λn=>if n=nm b then Z ⟨cty,.mx (splice L (o+off) [e_ p s.nx T.size xs.length])⟩ else U)=bD h2:=by
       funext n;by_cases e1:n=nm b
       .subst e1;rw[hnew];simp[eG]
       .by_cases e2:n=nm s.nx
        .subst e2;rw[hnx2,aM hp];simp[eG,nw,hnb.symm]
        .by_cases e3:n=nm id
         .subst e3;rw[hdead];simp[eG,nw,hbi.symm,hni.symm]
         .rw[hoth n e1 e2 e3];simp[eG,e1,e2,e3]
      rw[I]at q1 q2;have m:=p2.trans q1;refine ⟨φ',⟨q2,λt x d=>m.keep (c.env t x (hE t x d)),λn q hq=>?_,iy c.low,hinv,λt x d=>mR hr x (c.invE t x d),c.inert,c.size⟩,⟨GP.refl _ _,m.own_,λi hi=>?_⟩,fU.refl _ _⟩
      .rcases p3 n q hq with D|D
       .exact za (c.dom n q D)
       .simp only[aI]at D;subst D;rw[dS];exact qy _
      .cases hq:φ' (nm i) with
       |none=>
        cases hq2:φ (nm i) with
        |none=>rfl
        |some z=>rw[p2.sub _ _ hq2]at hq;cases hq
       |some z=>
        rcases p3 _ _ hq with D|D
        .exact D.symm
        .simp only[aI]at D;have:=kT D;have:=c.low;omega
    .cases h
   .cases h
  .cases h
 .rename_i id hk;split at h
  .rename_i ty p T xs A;simp only[af]at h;subst h;have hfr:=c.invH.fresh;have hidlt:=c.invH.low id _ A;have hin:id≠s.nx:=by omega
   generalize hh2:((s.h.set id (Z (.dead p T.size xs.length))).set s.nx (Z (.rows ty p T xs)))=h2;have nR:∀i,h2.get i=if i=s.nx then Z (.rows ty p T xs) else if i=id then Z (.dead p T.size xs.length) else s.h.get i:=λi=>by
    rw[<- hh2,PT.get_set,PT.get_set]
   have hr:b_ s.h h2:=λi r hi=>by
    rw[bR]at hi ⊢;rw[nR];by_cases e2:i=s.nx
    .subst e2;rw[hfr]at hi;cases hi
    .rw[aM e2];by_cases e3:i=id
     .subst e3;rw[aW rfl];rw[A]at hi;exact hi
     .rw[aM e3];exact hi
   have hrow:cf h2 (.row s.nx)=Z (e_ p s.nx T.size xs.length):=by
    simp only[cf,bR,nR,bH,aD,mN]
   have hrow0:cf s.h (.row id)=Z (e_ p id T.size xs.length):=by
    simp only[cf,bR,A,aD,mN]
   have hdead:bD h2 (nm id)=U:=by rw[bL,nR,aM hin,aW rfl];rfl
   have hnx2:bD h2 (nm s.nx)=if p&&xs.length==0 then U else Z ⟨ty,.fz (xs.flatMap (bQ T))⟩:=by rw[bL,nR,aW rfl];rfl
   have hid0:bD s.h (nm id)=if p&&xs.length==0 then U else Z ⟨ty,.fz (xs.flatMap (bQ T))⟩:=by rw[bL,A];rfl
   have hoth:∀n,n≠nm s.nx->n≠nm id->bD h2 n=bD s.h n:=λn e2 e3=>kr c.invH hr λi e=>by
    subst e;rw[nR,aM (λe=>e2 (by rw[e])),aM (λe=>e3 (by rw[e]))]
   have hni:nm s.nx≠nm id:=λe=>hin (kT e).symm
   have hinv:mg h2 (s.nx+1):=by
    refine ⟨λi ty2 l2 hil=>?_,λi q hiq=>?_⟩
    .rw[nR]at hil;split at hil
     .cases hil
     .split at hil
      .cases hil
      .exact iU hr l2 (c.invH.cells i _ l2 hil)
    .rw[nR]at hiq;split at hiq
     .omega
     .split at hiq
      .omega
      .have:=c.invH.low i q hiq;omega
   have hE:∀t x,t≠k->fq (s.e.set k (Z (.row s.nx))) h2 t=Z x->fq s.e s.h t=Z x:=λt x ht d=>by
    simp only[fq,PT.get_set]at d ⊢;rw[aM ht]at d;cases he:s.e.get t with
    |none=>rw[he]at d;cases d
    |some q=>
     rw[he]at d;obtain⟨z,hz⟩:=o6 s.h q (c.invE t q he);simp only[aD,fG hr q z hz,af]at d;subst d;simp only[aD,hz]
   have hIE:sX (s.e.set k (Z (.row s.nx))) h2:=λt x d=>by
    simp only[PT.get_set]at d;split at d
    .cases d;exact D8 _ _ _ hrow
    .exact mR hr x (c.invE t x d)
   have hKp:fU (mw [.ren k off] 0) s.e (s.e.set k (Z (.row s.nx))):=λt ht v' hv'=>by
    simp only[PT.get_set]at hv';split at hv'
    .rename_i et;subst et;simp only[mw]at ht;rw[bz,bX.2 rfl]at ht;simp at ht
    .exact⟨v',hv',λ_=>rfl⟩
   have F:=c.env k (e_ p id T.size xs.length) (by simp only[fq,hk,aD,hrow0]);by_cases hp:(p&&xs.length==0)=M
   .have I:bD h2=bD s.h:=by
     funext n;by_cases e2:n=nm s.nx
     .subst e2;rw[hnx2,aW hp,bL,hfr];rfl
     .by_cases e3:n=nm id
      .subst e3;rw[hdead,hid0,aW hp]
      .exact hoth n e2 e3
    have hsame:e_ p s.nx T.size xs.length=e_ p id T.size xs.length:=by unfold e_;rw[aW hp,aW hp]
    refine ⟨φ,⟨by rw[I];exact c.rep,λt x d=>?_,λn q hq=>za (c.dom n q hq),iy c.low,hinv,hIE,c.inert,c.size⟩,by rw[I];exact Bs.refl _ _ _ _,hKp⟩;rw[I];by_cases ht:t=k
    .subst ht;simp only[fq,PT.get_set,bH,aD,hrow,af]at d;subst d;rw[hsame];exact F
    .exact c.env t x (hE t x ht d)
   .have hid1:bD s.h (nm id)=Z ⟨ty,.fz (xs.flatMap (bQ T))⟩:=by rw[hid0,aM hp]
    obtain⟨kk,k1,k2,ob,k3,k4⟩:=c.rep.at_ _ _ hid1;have hφn:φ (nm s.nx)=U:=by
     cases hq:φ (nm s.nx) with
     |none=>rfl
     |some q=>have:=c.dom _ q hq;rw[dS]at this;omega
    let nw:HF:=λn=>if n=nm s.nx then Z ⟨ty,.fz (xs.flatMap (bQ T))⟩ else U
    have hsh:Et w w kk ob:=⟨rfl,rfl,rfl,rfl,k3,λ_ _=>rfl,λ_=>rfl⟩
    obtain⟨φ',p1,p2,p3,p4⟩:=c.rep.wren hid1 k1 hφn hsh k4 nw (by simp[nw]) (by simp only[nw];rw[aM hni.symm]);have I:eG (bD s.h) [nm s.nx,nm id] nw=bD h2:=by
     funext n;by_cases e2:n=nm s.nx
     .subst e2;rw[hnx2,aM hp];simp[eG,nw]
     .by_cases e3:n=nm id
      .subst e3;rw[hdead];simp[eG,nw,hni.symm]
      .rw[hoth n e2 e3];simp[eG,e2,e3]
    rw[I]at p2 p4;refine ⟨φ',⟨p4,λt x d=>?_,λn q hq=>?_,iy c.low,hinv,hIE,c.inert,c.size⟩,⟨GP.refl _ _,p2.own_,λi hi=>?_⟩,hKp⟩
    .by_cases ht:t=k
     .subst ht;simp only[fq,PT.get_set,bH,aD,hrow,af]at d;subst d;unfold e_ at F ⊢;rw[aM hp]at F ⊢;generalize a.tmps.getD t undef=z at F;cases F with
      |@row _ _ _ cc q hφq hn hc hs2=>
       rw[k1,af]at hφq;subst hφq;exact .row p1 hn hc hs2
     .exact p2.keep (c.env t x (hE t x ht d))
    .rcases p3 n q hq with D|D
     .exact za (c.dom n q D)
     .simp only[aI]at D;subst D;rw[dS];exact qy _
    .cases hq:φ' (nm i) with
     |none=>
      cases hq2:φ (nm i) with
      |none=>rfl
      |some z=>rw[p2.sub _ _ hq2]at hq;cases hq
     |some z=>
      rcases p3 _ _ hq with D|D
      .exact D.symm
      .simp only[aI]at D;have:=kT D;have:=c.low;omega
  .cases h
 .cases h
theorem afu {φ:PM} {s:TS} {a:Act} {w:World} (c:oE P E nt np φ s a w) {ad:Adj} {s':TS} (h:LA s ad=Z s') (hnr:∀k off,ad≠ .ren k off):oE P E nt np φ s' a w/\Bs np φ φ (bD s.h) (bD s'.h) w w/\fU (mw [ad] 0) s.e s'.e:=by
 cases ad with
 |ren k off=>exact dR rfl (hnr k off)
 |nil k ty T=>
  simp only[LA]at h;split at h
  .rename_i v hv;split at h
   .rename_i hn;simp only[af]at h;subst h;obtain⟨A,F,hr⟩:=VH c ty T;refine ⟨⟨A.rep,?_,A.dom,A.low,A.invH,?_,A.inert,A.size⟩,by rw[F];exact Bs.refl _ _ _ _,?_⟩
    .intro t x d;simp only[fq,PT.get_set]at d;split at d
     .rename_i et;subst et;simp only[aD,cf,bR,PT.get_set,bH,mN,e_,j6,cP,jE,af]at d;subst d;obtain⟨z,D⟩:=o6 s.h v (c.invE _ v hv);rw[F];exact Qk hn D _ _ _ _ (c.env _ _ (by simp only[fq,hv,aD,D]))
     .exact A.env t x d
    .intro t x d;simp only[PT.get_set]at d;split at d
     .cases d;simp only[KH,bR,PT.get_set,bH];rfl
     .exact A.invE t x d
    .intro t ht v' I;simp only[PT.get_set]at I;split at I
     .rename_i et;subst et;simp only[mw]at ht;rw[bz,bX.2 rfl]at ht;simp at ht
     .exact⟨v',I,λ_=>rfl⟩
   .simp only[af]at h;subst h;exact⟨c,Bs.refl _ _ _ _,fU.refl _ _⟩
  .cases h
 |cel k off ty T=>
  simp only[LA]at h;split at h
  .rename_i id o hk;split at h
   .rename_i cty l hb;split at h
    .rename_i v hv;split at h
     .rename_i hn;simp only[af]at h;subst h;obtain⟨A,F,hr⟩:=VH c ty T;have hid:id≠s.nx:=λe=>by have:=c.invH.low id _ hb;omega
      obtain⟨c2,t2⟩:=ZW A (id:=id) (cty:=cty) (l:=l) (v:=v) (u:=.row s.nx) (by show (s.h.set s.nx _).get id=_;rw[PT.get_set,aM hid];exact hb) hv hn (by simp only[cf,bR,PT.get_set,bH,aD,mN,e_,j6,cP,jE]) (by simp only[KH,bR,PT.get_set,bH];rfl);exact⟨c2,by rw[<- F];exact t2,fU.refl _ _⟩
     .simp only[af]at h;subst h;exact⟨c,Bs.refl _ _ _ _,fU.refl _ _⟩
    .cases h
   .cases h
  .cases h
 |mpt k K V=>
  simp only[LA]at h;split at h
  .rename_i id hk;split at h
   .rename_i K' V' es hb;split at h
    .rename_i L;simp only[af]at h;subst h;have hr:b_ s.h (s.h.set id (Z (.mp K V []))):=b_.set λr hr=>by rw[bR,hb]at hr;cases hr
     have F:bD (s.h.set id (Z (.mp K V [])))=bD s.h:=by
      funext n;by_cases hn:n=nm id
      .subst hn;rw[bL,bL,PT.get_set,aW rfl,hb];simp only[aD,jC,yf (YM (uc.1 L).1),yf (uc.1 L).2,Nf (uc.1 L).1,List.map_nil]
      .refine kr c.invH hr λi e=>?_
       subst e;rw[PT.get_set,aM (λe=>hn (by rw[e]))]
     refine ⟨⟨by rw[F];exact c.rep,?_,c.dom,c.low,c.invH.set hr (c.invH.low id _ hb) (cN _) (λ_ _ he=>by cases he),λt x d=>mR hr x (c.invE t x d),c.inert,c.size⟩,by rw[F];exact Bs.refl _ _ _ _,fU.refl _ _⟩;intro t x d;rw[F];simp only[fq]at d;cases he:s.e.get t with
     |none=>rw[he]at d;cases d
     |some q=>
      rw[he]at d;obtain⟨z,D⟩:=o6 s.h q (c.invE t q he);simp only[aD,fG hr q z D,af]at d;subst d;exact c.env t _ (by simp only[fq,he,aD,D])
    .simp only[af]at h;subst h;exact⟨c,Bs.refl _ _ _ _,fU.refl _ _⟩
   .cases h
  .cases h
 |mz k n=>
  simp only[LA]at h;split at h
  .rename_i id hk;split at h
   .rename_i K' V' es hb;split at h
    .rename_i L;simp only[af]at h;subst h;have hr:b_ s.h (s.h.set id (Z (.cells U (aA n .nil)))):=b_.set λr hr=>by rw[bR,hb]at hr;cases hr
     have hold:bD s.h (nm id)=Z ⟨0,.mp []⟩:=by rw[bL,hb];simp only[aD,jC,yf (YM L),Nf L,List.map_nil]
     have hvs:∀(h:bn) m,cF h (aA m .nil)=Z (aA m (.f (.raw (.slice U 0 0)))):=λh m=>by
      induction m with
      |zero=>rfl
      |succ m ih=>rw[pN,pN];simp only[cF,cf,ih]
     have hnew:bD (s.h.set id (Z (.cells U (aA n .nil)))) (nm id)=Z ⟨1,.mp (oC 0 (aA n (.f (.raw (.slice U 0 0)))))⟩:=by
      rw[bL,PT.get_set,aW rfl];simp only[aD,jC,hvs]
     have hoth:∀q,q≠nm id->bD (s.h.set id (Z (.cells U (aA n .nil)))) q=bD s.h q:=λq hn'=>kr c.invH hr λi e=>by
      subst e;rw[PT.get_set,aM (λe=>hn' (by rw[e]))]
     have hdom:ul (bD s.h) (bD (s.h.set id (Z (.cells U (aA n .nil))))):=λq b hb'=>by
      by_cases e:q=nm id
      .subst e;exact⟨_,hold⟩
      .rw[hoth q e]at hb';exact⟨b,hb'⟩
     have hV:GJ (bD s.h) (bD (s.h.set id (Z (.cells U (aA n .nil))))):=⟨hdom,λq b b' h1 h2=>by
      by_cases e:q=nm id
      .subst e;rw[hold]at h1;cases h1;rw[hnew]at h2;cases h2;exact iv.lay n
      .rw[hoth q e,h1]at h2;cases h2;exact iv.refl hdom b⟩
     refine ⟨⟨hV.rep c.rep,?_,c.dom,c.low,c.invH.set hr (c.invH.low id _ hb) (cN _) (λty l2 he=>?_),λt x d=>mR hr x (c.invE t x d),c.inert,c.size⟩,⟨GP.refl _ _,λk _ ho=>hdom.own ho,λ_ _=>rfl⟩,fU.refl _ _⟩
     .intro t x d;simp only[fq]at d;cases he:s.e.get t with
      |none=>rw[he]at d;cases d
      |some q=>
       rw[he]at d;obtain⟨z,D⟩:=o6 s.h q (c.invE t q he);simp only[aD,fG hr q z D,af]at d;subst d;exact (c.env t _ (by simp only[fq,he,aD,D])).dom hdom
     .simp only[ii.cells.injEq]at he;obtain⟨_,rfl⟩:=he;exact jX _ _ _ (hvs _ n)
    .cases h
   .simp only[af]at h;subst h;exact⟨c,Bs.refl _ _ _ _,fU.refl _ _⟩
  .cases h
 |pk k off T=>
  simp only[LA]at h;split at h
  .obtain⟨h1,h2,h3⟩:=ai8 c h;exact⟨h1,h2,h3.mono λk hk=>by simp at hk⟩
  .cases h
theorem aft {φ:PM} {s:TS} {a:Act} {w:World} (c:oE P E nt np φ s a w) {d:Adj} {s':TS} (h:LA s d=Z s'):∃φ',oE P E nt np φ' s' a w/\Bs np φ φ' (bD s.h) (bD s'.h) w w/\fU (mw [d] 0) s.e s'.e:=by
 by_cases hn:∃k off,d= .ren k off
 .obtain⟨k,off,rfl⟩:=hn;exact ai3 c h
 .exact⟨φ,afu c h λk off e=>hn ⟨k,off,e⟩⟩
theorem Uu {φ:PM} {a:Act} {w:World}:∀{l:Y Adj} {s s':TS},oE P E nt np φ s a w->Xe s l=Z s'->∃φ',oE P E nt np φ' s' a w/\Bs np φ φ' (bD s.h) (bD s'.h) w w/\fU (mw l 0) s.e s'.e
 |[],s,s',c,h=>by simp only[Xe,af]at h;subst h;exact⟨φ,c,Bs.refl _ _ _ _,fU.refl _ _⟩
 |d::r,s,s',c,h=>by
  simp only[Xe]at h;split at h
  .rename_i s1 h1;obtain⟨φ1,D,t1,k1⟩:=aft c h1;obtain⟨φ2,A,z,k2⟩:=Uu D h;refine ⟨φ2,A,t1.trans z,(k1.mono ?_).trans (k2.mono ?_)⟩
   .intro k hk;cases d with
    |nil q ty T=>simp only[mw]at hk ⊢;rw[k_,bz,hk];rfl
    |cel q off ty T=>simp[mw]at hk
    |mpt q K V=>simp[mw]at hk
    |mz q n=>simp[mw]at hk
    |pk q off T=>simp[mw]at hk
    |ren q off=>simp only[mw]at hk ⊢;rw[k_,bz,hk];rfl
   .intro k hk;cases d with
    |nil q ty T=>simp only[mw];rw[k_,bz,hk];simp
    |cel q off ty T=>simp only[mw];exact hk
    |mpt q K V=>simp only[mw];exact hk
    |mz q n=>simp only[mw];exact hk
    |pk q off T=>simp only[mw];exact hk
    |ren q off=>simp only[mw];rw[k_,bz,hk];simp
  .cases h
mutual
theorem Qc {h:bn}:∀(v:TV) (y:AV),tL v=M->cf h v=Z y->y.all (λ_=>aa)=M
 |.f _ _,y,_,he=>by simp only[cf,af]at he;subst he;rfl
 |.fel _ _ _ _ _,y,_,he=>by simp only[cf,af]at he;subst he;rfl
 |.emp,y,_,he=>by simp only[cf,af]at he;subst he;rfl
 |.nil,y,_,he=>by simp only[cf,af]at he;subst he;rfl
 |.undef,y,_,he=>by simp only[cf,af]at he;subst he;rfl
 |.np,y,_,he=>by simp only[cf,af]at he;subst he;rfl
 |.anyb,y,_,he=>by simp only[cf,af]at he;subst he;rfl
 |.agg l,y,hl,he=>by
  simp only[cf]at he;split at he
  .rename_i l' hl';simp only[af]at he;subst he;exact D2 l l' hl hl'
  .cases he
 |.tup l,y,hl,he=>by
  simp only[cf]at he;split at he
  .rename_i l' hl';simp only[af]at he;subst he;exact D2 l l' hl hl'
  .cases he
 |.pel _ _ _ _,_,h,_=>by cases h
 |.ptr _ _,_,h,_=>by cases h
 |.csl _ _ _,_,h,_=>by cases h
 |.row _,_,h,_=>by cases h
 |.rtl _ _,_,h,_=>by cases h
 |.mp _,_,h,_=>by cases h
 |.ful _ _,_,h,_=>by cases h
 |.clo _ _,_,h,_=>by cases h
theorem D2 {h:bn}:∀(l:Y TV) (l':Y AV),qf l=M->cF h l=Z l'->AV.allL (λ_=>aa) l'=M
 |[],l',_,he=>by simp only[cF,af]at he;subst he;rfl
 |x::r,l',hl,he=>by
  obtain⟨y,l2,rfl,e1,e2⟩:=cU he;simp only[qf,ak]at hl;simp only[AV.allL,ak];exact⟨Qc x y hl.1 e1,D2 r l2 hl.2 e2⟩
end
mutual
theorem Vc (h:bn):∀(v:TV),tL v=M->KH h v=M
 |.f _ _,_=>rfl
 |.fel _ _ _ _ _,_=>rfl
 |.emp,_=>rfl
 |.nil,_=>rfl
 |.undef,_=>rfl
 |.np,_=>rfl
 |.anyb,_=>rfl
 |.agg l,hl=>IG h l hl
 |.tup l,hl=>IG h l hl
 |.pel _ _ _ _,h=>by cases h
 |.ptr _ _,h=>by cases h
 |.csl _ _ _,h=>by cases h
 |.row _,h=>by cases h
 |.rtl _ _,h=>by cases h
 |.mp _,h=>by cases h
 |.ful _ _,h=>by cases h
 |.clo _ _,h=>by cases h
theorem IG (h:bn):∀(l:Y TV),qf l=M->kS h l=M
 |[],_=>rfl
 |x::r,hl=>by
  simp only[qf,ak]at hl;simp only[kS,ak];exact⟨Vc h x hl.1,IG h r hl.2⟩
end
structure Seen (np:Nat) (t:Tm) (x:t.ty.den) (us:List TV) (h1:bn) (φ φ':PM) (H:HF) (E:Nat->Prop) (w:World) (la lu:List AV):Prop where
 rep:qI φ' E (bD h1) w
 val:∀(j:Nat) y v,lu[j]? =Z y->∃z,la[j]? =Z z/\(cK φ (tot E φ H) w z v->cK φ' (tot E φ' (bD h1)) w y v)
 len:lu.length=la.length
 tot_:∀k,tot E φ' (bD h1) k->tot E φ H k
 own_:∀k,own φ' (bD h1) k->own φ H k
 dom:∀n k,φ' n=Z k->ow n<t.bs.length
 par:∀i,i<np->i<t.bs.length->φ' (nm i)=φ (nm i)
theorem Kz {t:Tm} {x:t.ty.den} {us:Y TV} {h1:bn} {l1:Y (J ii)} (I:qw t x us h1 l1) {h:bn} {nx:Nat} (hinv:mg h nx) {vs:Y TV} {m:Nat} {σ:PT Nat} {sm:Nat} (g:Hm np t vs h x m σ sm) {la:Y AV} (hla:cF h vs=Z la) {φ:PM} {w:World} (r:qI φ E (bD h) w):∃φ' lu,cF h1 us=Z lu/\Seen np t x us h1 φ φ' (bD h) E w la lu:=by
 obtain⟨x1,m1,x2,m2,hx,hmm,gv,gb⟩:=g.ex;have hmr:dN h m:=by rw[hmm];exact (Hb _ _ _ _ gv).or (Hd _ _ _ _ gb)
 have pvg:pQ (ie σ) t.vs x1=Z (kH (ie σ) us):=by
  have s:=sZ (ie σ) t.vs x1;have d:=I.pv;rw[hx,sU]at d;rw[s,d];rfl
 have pbg:om (ie σ) t.bs x2=Z (l1.map (l7 (lH (ie σ)))):=by
  have s:=vn (ie σ) t.bs x2;have d:=I.pb;rw[hx,uu]at d;rw[s,d];rfl
 have hbm:∀i b,l1[i]? =Z (Z b)->∃b0,h.get (ie σ i)=Z b0/\BM (ie σ) h m b0 (lH (ie σ) b):=λi b hb=>by
  obtain⟨b0,q1,q2⟩:=IE t.bs 0 x2 m2 _ gb pbg i (lH (ie σ) b) (by rw[bk,hb];rfl);rw[bM]at q1;exact⟨b0,q1,q2.mono λj hj=>by rw[hmm,bz,hj];simp⟩
 let hv:bn:=zM (ie σ) 0 (l1.map (l7 (lH (ie σ)))) PT.leaf
 have hv_at:∀i b,l1[i]? =Z (Z b)->hv.get (ie σ i)=Z (lH (ie σ) b):=λi b hb=>by
  have:=uB (ie σ) (l1.map (l7 (lH (ie σ)))) 0 PT.leaf (λa b D hb=>by
   simp only[cz,I.len]at D hb;simp only[bM];exact g.inj a b D hb) i (Z (lH (ie σ) b)) (by rw[bk,hb];rfl)
  rw[bM]at this;exact this
 have hv_ex:∀j c,hv.get j=Z c->∃i b,l1[i]? =Z (Z b)/\j=ie σ i/\c=lH (ie σ) b:=λj c hj=>by
  by_cases hex:∃i,i<l1.length/\j=ie σ i
  .obtain⟨i,hi,rfl⟩:=hex;have hcc:=aw hi;cases hcv:l1[i] with
   |some b=>rw[hcv]at hcc;rw[hv_at i b hcc]at hj;cases hj;exact⟨i,b,hcc,rfl,rfl⟩
   |none=>
    rw[hcv]at hcc;have:=uB (ie σ) (l1.map (l7 (lH (ie σ)))) 0 PT.leaf (λa b D hb=>by
     simp only[cz,I.len]at D hb;simp only[bM];exact g.inj a b D hb) i U (by rw[bk,hcc];rfl)
    rw[bM]at this;have A:(zM (ie σ) 0 (l1.map (l7 (lH (ie σ)))) PT.leaf).get (ie σ i)=Z c:=hj;rw[this]at A;simp[PT.get]at A
  .have:hv.get j=(PT.leaf:bn).get j:=uA (ie σ) _ 0 _ j λk hk=>by
    simp only[cz]at hk;rw[bM];exact λe=>hex ⟨k,hk,e⟩
   rw[this]at hj;simp[PT.get]at hj
 have rows_in:xc hv h:=λj q hq=>by
  rw[bR]at hq ⊢;cases hc:hv.get j with
  |none=>rw[hc]at hq;cases hq
  |some c=>
   rw[hc]at hq;obtain⟨i,b,q1,rfl,rfl⟩:=hv_ex j c hc;obtain⟨b0,q2,q3⟩:=hbm i b q1;rw[q2];simp only[aD]at hq ⊢;rw[<- q3.row];exact hq
 have rows_h1:∀i q,ej h1 i=Z q->ej hv (ie σ i)=Z q:=λi q hq=>by
  rw[bR]at hq ⊢;cases hb:h1.get i with
  |none=>rw[hb]at hq;cases hq
  |some b=>
   rw[hb]at hq;rw[hv_at i b ((I.at_ i b).1 hb)];simp only[aD,Hy]at hq ⊢;exact hq
 have hd:ul (bD h) (bD hv):=λn y F=>by
  obtain⟨j,c,rfl,s,d⟩:=jB F;obtain⟨i,b,q1,rfl,rfl⟩:=hv_ex j c s;obtain⟨b0,q2,q3⟩:=hbm i b q1;obtain⟨y0,L⟩:=BM.erB_some hinv q2 q3 d;exact⟨y0,by rw[bL,q2];exact L⟩
 have gvv:Dl h (bD h) (bD hv) m:=λi hi=>⟨rfl,by
  cases hc:bD hv (nm i) with
  |none=>rfl
  |some y=>
   obtain⟨j,c,e,s,d⟩:=jB hc;have:=kT e;subst this;obtain⟨k,b,q1,rfl,rfl⟩:=hv_ex i c s;have hk:k<t.bs.length:=by rw[<- I.len];exact (bo.1 q1).1
   have h5:=g.disj _ hi;rw[(g.sig _).2 ⟨k,hk,rfl⟩]at h5;cases h5⟩
 have V:GJ (bD h) (bD hv):=⟨hd,λn b b' hb hb'=>by
  obtain⟨j,c,rfl,s,d⟩:=jB hb';obtain⟨i,bb,q1,rfl,rfl⟩:=hv_ex j c s;obtain⟨b0,q2,q3⟩:=hbm i bb q1;rw[bL,q2]at hb;exact BM.view hd gvv rows_in q3 hb d⟩
 have rv:=V.rep r;have T:ad4 t x us h1 (ie σ) φ E E (bD hv) w:=by
  refine qI.toId I g.inj rv (λi b yb hb hyb=>?_) (λk hk=>.inl hk) (λi k b hi s d hE=>?_) rv.el
  .rw[bL,hv_at i b ((I.at_ i b).1 hb)];exact Cr rows_h1 hyb
  .obtain⟨k',p1,p2,_⟩:=rv.at_ _ _ s;rw[d]at p1;cases p1;exact p2 hE
 obtain⟨lu,hlu⟩:=eU h1 us I.ok;have hlug:cF hv (kH (ie σ) us)=Z (AV.renL (He (ie σ)) lu):=oW rows_h1 us lu hlu;have hle:=Cl hd rows_in t.vs vs x1 m1 _ la _ gv pvg hla hlug (λi hi=>gvv i (by rw[hmm,bz,hi];rfl));have hall:=rC us lu I.lt hlu;refine ⟨_,lu,hlu,T.rep,λj y v F=>?_,?_,λk hk=>hd.tot (T.tot_ k hk),λk hk=>hd.own (T.own_ k hk),λn k hk=>?_,λi hi hb=>?_⟩
 .rw[mQ]at hle;obtain⟨z,hz,hlz⟩:=hle.get j (y.ren (He (ie σ))) (by rw[bk,F];rfl);exact⟨z,hz,λhr=>T.val y v (me hall y (bi F)) (hlz _ _ _ _ r hr)⟩
 .have:=hle.length;rw[mQ,cz]at this;exact this
 .obtain⟨i,hi,rfl,_⟩:=wn hk;rw[dS];exact hi
 .rw[X' hb,g.fix i hi]
theorem Ni {φ:PM} {s':TS} {a:Act} {w:World} (c:oE P E nt np φ s' a w) {A:X5} {am:Nat} {s0 s1:TS} {x:A.D} (d:K_ np A am s0 s'=Z x) (hs:FR A am s0 x=Z s1)
 (hk:∀k,k∈A.keep->k∉A.ks->∀v,s0.e.get k=Z v->tL v=M->aP am k=aa->∀s,s'.e.get k=Z s->s=v):∃φ',oE P E nt np φ' s1 a w/\Bs np φ φ' (bD s'.h) (bD s1.h) w w:=by
 unfold K_ at d;split at d
 .rename_i hc;simp only[ak]at hc;have hnp:=bc hc.1;split at d
  .rename_i s2 h2;obtain⟨φ2,L,t2,_⟩:=Uu c h2;split at d
   .rename_i vs hvs;split at d
    .rename_i z m σ sm hM;simp only[af]at d;subst d;have g:=vA hM;unfold FR at hs;split at hs
     .rename_i us h1 hi;obtain⟨l1,I⟩:=vF hi;split at hs
      .rename_i hlen;have hlen:=au hlen;simp only[af]at hs;subst hs;obtain⟨g1,g2⟩:=Va hvs;have hvok:kS s2.h vs=M:=HN L.invE hvs;obtain⟨la,hla⟩:=eU s2.h vs hvok;obtain⟨φ',lu,hlu,S⟩:=Kz (E:=E) I L.invH g hla L.rep;refine ⟨φ',⟨S.rep,?_,S.dom,hnp,⟨λi ty l hl=>(I.cells i _ l hl).1,λi b hb=>I.lt_len hb⟩,?_,c.inert,c.size⟩,t2.trans ⟨GP.refl _ _,λk _ h=>S.own_ k h,λi hi=>S.par i hi (by omega)⟩⟩
       .intro t y q;simp only[fq]at q;cases ht:(V0 (B9 am s0.e A.keep) A.ks us).get t with
        |none=>rw[ht]at q;cases q
        |some v=>
         rw[ht]at q;simp only[aD]at q;rcases BL hlen t v ht with ⟨j,q1,q2⟩|⟨q1,q2⟩
         .obtain⟨y',p1,p2⟩:=k9 hlu j v q2;rw[q]at p2;cases p2;obtain⟨z,p3,p4⟩:=S.val j y (a.tmps.getD t undef) p1;refine p4 ?_;obtain⟨v0,p5,p6⟩:=g2 j t q1;obtain⟨z',p7,p8⟩:=k9 hla j v0 p5;rw[p3]at p7;cases p7;exact L.env t _ (by simp only[fq,p6,aD,p8])
         .obtain⟨k1,k2,k3,k4⟩:=s8 q2;obtain⟨s,k5⟩:=Ic hc.2 t v k1 k2 k3 k4;have:=hk t k1 q1 v k2 k3 k4 s k5;subst this;have h3:=c.env t y (by simp only[fq,k5,aD];rw[Ql s'.h h1 s k3];exact q);exact h3.restrict (p:=λ_=>aa) (λi k hi _=>by cases hi) (λk hk=>by
           have F:=S.tot_ k hk;rcases F with F|F
           .exact .inl F
           .exact .inr (by
             have hkl:k<w.heap.size:=by
              obtain⟨n,b,e1,e2⟩:=F;obtain⟨k',p1,_,ob,p3,_⟩:=L.rep.at_ n b e1;rw[e2]at p1;cases p1;exact (cr.1 p3).1
             exact t2.own_ k hkl F)) (Qc s y k3 q)
       .intro t v hv;rcases BL hlen t v hv with ⟨j,q1,q2⟩|⟨q1,q2⟩
        .obtain⟨y',_,p2⟩:=k9 hlu j v q2;exact D8 _ _ _ p2
        .exact Vc _ v (s8 q2).2.2.1
      .cases hs
     .cases hs
    .cases d
   .cases d
  .cases d
 .cases d
theorem Dq {A:X5} {am:Nat} {d s1:TS} {x:A.D} (hs:FR A am d x=Z s1):fU (KK A.ks 0) d.e s1.e/\∀k,k∉A.ks->∀v,s1.e.get k=Z v->d.e.get k=Z v:=by
 unfold FR at hs;split at hs
 .rename_i us h1 hi;split at hs
  .rename_i hlen;have hlen:=au hlen;simp only[af]at hs;subst hs;have key:∀k,k∉A.ks->∀v,(V0 (B9 am d.e A.keep) A.ks us).get k=Z v->d.e.get k=Z v:=λk hk v hv=>by
    rcases BL hlen k v hv with ⟨j,q1,_⟩|⟨_,q2⟩
    .exact dR (bi q1) hk
    .exact (s8 q2).2.1
   refine ⟨λk hk q hv=>?_,key⟩;have hnk:k∉A.ks:=λhm=>by rw[U4 hm]at hk;cases hk
   exact⟨q,key k hnk q hv,λ_=>rfl⟩
  .cases hs
 .cases hs
end walk
inductive Er:TC->SC->Prop
 |skip:Er .skip .skip
 |reg (ops:List r_) (prs:List (Nat×Nat)):Er (.reg ops prs) (.reg ops prs)
 |seq {a b:TC} {a' b':SC}:Er a a'->Er b b'->Er (.seq a b) (.seq a' b')
 |jseq (A:X5) {a b:TC} {a' b':SC}:Er a a'->Er b b'->Er (.jseq A a b) (.seq a' b')
 |cond (c:Nat) {a b:TC} {a' b':SC}:Er a a'->Er b b'->Er (.cond c a b) (.cond c a' b')
 |block (id:Nat) {b:TC} {b':SC}:Er b b'->Er (.block id b) (.block id b')
 |jblock (A:X5) (id:Nat) {b:TC} {b':SC}:Er b b'->Er (.jblock A id b) (.block id b')
 |loop (A:X5) {b:TC} {b':SC}:Er b b'->Er (.loop A b) (.loop b')
 |exit (id:Nat):Er (.exit id) (.exit id)
 |ret:Er .ret .ret
 |defer (f:FuncId) (c:List Operand) (t:Nat):Er (.defer f c t) (.defer f c t)
 |adj (l:List Adj) {c:TC} {c':SC}:Er c c'->Er (.adj l c) c'
 |split (k off lo n:Nat) {c:TC} {c':SC}:Er c c'->Er (.split k off lo n c) c'
 |bsp (t:Nat) {a b:TC} {c':SC}:Er a c'->Er b c'->Er (.bsp t a b) c'
 |unl (n:Nat) {b:TC} {b':SC}:Er b b'->Er (.unl n b) (.loop b')
 |bad (c:SC):Er .bad c
theorem BD {H:PT aad} {n:Nat} {c:TC} {c':SC} (h:Er c c'):Er (Hp H n c) c':=by
 unfold Hp;split
 .exact .adj _ h
 .exact .split _ _ _ _ h
 .exact .bsp _ (.split _ _ _ _ h) h
 .exact h
theorem wW (H:PT aad):∀(c:SC) (n:Nat),Er (CX H c n).1 c
 |.skip,n=>BD .skip
 |.reg o p,n=>BD (.reg o p)
 |.seq a b,n=>by
  have h1:=wW H a (n+1);have h2:=wW H b (CX H a (n+1)).2;simp only[CX];split
  .exact .jseq _ h1 h2
  .exact .seq h1 h2
 |.cond c a b,n=>by
  have h1:=wW H a (n+1);have h2:=wW H b (CX H a (n+1)).2;simp only[CX];exact BD (.cond c h1 h2)
 |.block id b,n=>by
  have h1:=wW H b (n+1);simp only[CX];split
  .exact .jblock _ id h1
  .exact .block id h1
 |.loop b,n=>by
  have h1:=wW H b (n+1);simp only[CX];split
  .exact .loop _ h1
  .exact .unl _ h1
  .exact .bad _
 |.exit id,n=>BD (.exit id)
 |.ret,n=>BD .ret
 |.defer f c t,n=>.defer f c t
 |.bad,n=>.bad _
theorem Wd {σ R:Type} {step:σ->J (σ⊕R)} {x:σ} {r:R} (h:iter step x=Z r):∃n,iterN step n x=Z r:=by
 unfold iter at h;split at h
 .exact⟨_,h⟩
 .cases h
theorem U7 {α R:Type} {o:J (R⊕α)} {k:α->J R} {r:R} (h:jn o k=Z r):(∃x,o=Z (.inr x)/\k x=Z r)\/o=Z (.inl r):=by
 unfold jn at h;split at h
 .exact .inl ⟨_,rfl,h⟩
 .cases h;exact .inr rfl
 .cases h
section inv
variable {P:Program} {nt:Nat}
theorem yP (id:Nat) (ops:Array Oper) (q:Bool):co P nt (.region id ops q)= .bad\/
 ((ops.toList.all λo=>match o.dst with|some d=>decide (d<nt)|none=>M)=M/\
   ((∃f caps t,CW ops q=Z (f,caps,t)/\co P nt (.region id ops q)= .defer f caps t)\/
    ∃l prs,rL P ops ops.toList=Z l/\LZ ops l=Z prs/\co P nt (.region id ops q)= .reg l prs)):=by
 simp only[co];split
 .rename_i hd;split
  .rename_i f caps t h;exact .inr ⟨hd,.inl ⟨f,caps,t,h,rfl⟩⟩
  .split
   .rename_i l hl;split
    .rename_i prs hp;exact .inr ⟨hd,.inr ⟨l,prs,hl,hp,rfl⟩⟩
    .exact .inl rfl
   .exact .inl rfl
 .exact .inl rfl
def Dv:Code->Bool
 |.cond (.const (.bool _)) _ _=>aa
 |_=>M
theorem kh (P:Program) (nt:Nat) (c:Code):∃c',Dv c'=M/\co P nt c'=co P nt c/\∀Q a w,c'.wp P Q a w->c.wp P Q a w:=by
 have self:∀c:Code,Dv c=M->∃c',Dv c'=M/\co P nt c'=co P nt c/\∀Q a w,c'.wp P Q a w->c.wp P Q a w:=λc h=>⟨c,h,rfl,λ_ _ _ h=>h⟩
 induction c with
 |cond o x y ihx ihy=>
  cases o with
  |const v=>
   cases v with
   |bool b=>
    cases b with
    |true=>
     obtain⟨c',h1,h2,d⟩:=ihx;exact⟨c',h1,h2,λQ a w h=>wp_cond_true rfl (d Q a w h)⟩
    |false=>
     obtain⟨c',h1,h2,d⟩:=ihy;exact⟨c',h1,h2,λQ a w h=>wp_cond_false rfl (d Q a w h)⟩
   |_=>exact self _ rfl
  |_=>exact self _ rfl
 |_=>exact self _ rfl
theorem ES {α:Prop} {o:Operand} {x y:Code} {sc:SC} (hn:Dv (.cond o x y)=M) (h:co P nt (.cond o x y)=sc) (h1:sc≠ .bad) (h2:∀t a b,sc≠ .cond t a b):α:=by
 cases o with
 |tmp q=>exact (h2 _ _ _ h.symm).elim
 |const v=>cases v<;>first|exact (h1 h.symm).elim|cases hn
 |global g=>exact (h1 h.symm).elim
 |func f=>exact (h1 h.symm).elim
theorem abw {c:Code} {sl:Y r_} {prs:Y (Nat×Nat)} (hn:Dv c=M) (h:co P nt c= .reg sl prs):∃id ops q,c= .region id ops q/\(ops.toList.all λo=>match o.dst with|some d=>decide (d<nt)|none=>M)=M/\rL P ops ops.toList=Z sl/\LZ ops sl=Z prs:=by
 cases c with
 |region id ops q=>
  rcases yP (P:=P) (nt:=nt) id ops q with h1|⟨hd,⟨f,caps,t,_,h1⟩|⟨l,p,h2,s,h1⟩⟩
  .rw[h1]at h;cases h
  .rw[h1]at h;cases h
  .rw[h1]at h;cases h;exact⟨id,ops,q,rfl,hd,h2,s⟩
 |cond o x y=>exact ES hn h (by simp) (by simp)
 |_=>simp[co]at h
theorem We {c:Code} {f:FuncId} {caps:Y Operand} {t:Nat} (hn:Dv c=M) (h:co P nt c= .defer f caps t):∃id ops q,c= .region id ops q/\(ops.toList.all λo=>match o.dst with|some d=>decide (d<nt)|none=>M)=M/\CW ops q=Z (f,caps,t):=by
 cases c with
 |region id ops q=>
  rcases yP (P:=P) (nt:=nt) id ops q with h1|⟨hd,⟨f',caps',t',h2,h1⟩|⟨l,p,h2,s,h1⟩⟩
  .rw[h1]at h;cases h
  .rw[h1]at h;cases h;exact⟨id,ops,q,rfl,hd,h2⟩
  .rw[h1]at h;cases h
 |cond o x y=>exact ES hn h (by simp) (by simp)
 |_=>simp[co]at h
theorem pe {c:Code} {sc:SC} (h:co P nt c=sc) (h1:sc≠ .bad) (h2:∀a b,sc≠ .reg a b) (s:∀a b t,sc≠ .defer a b t):∀id ops q,c≠ .region id ops q:=by
 rintro id ops q rfl;rcases yP (P:=P) (nt:=nt) id ops q with d|⟨_,⟨f,caps,t,_,d⟩|⟨l,p,_,_,d⟩⟩<;>rw[d]at h
 .exact h1 h.symm
 .exact s _ _ _ h.symm
 .exact h2 _ _ h.symm
theorem YW {c:Code} (hn:Dv c=M) (h:co P nt c= .skip):c= .skip:=by
 have d:=pe h (by simp) (by simp) (by simp);cases c with
 |skip=>rfl
 |region id ops q=>exact dR rfl (d id ops q)
 |cond o x y=>exact ES hn h (by simp) (by simp)
 |_=>simp[co]at h
theorem abv {c:Code} (hn:Dv c=M) (h:co P nt c= .ret):c= .ret:=by
 have d:=pe h (by simp) (by simp) (by simp);cases c with
 |ret=>rfl
 |region id ops q=>exact dR rfl (d id ops q)
 |cond o x y=>exact ES hn h (by simp) (by simp)
 |_=>simp[co]at h
theorem YX {c:Code} {i:Nat} (hn:Dv c=M) (h:co P nt c= .exit i):c= .exit i:=by
 have d:=pe h (by simp) (by simp) (by simp);cases c with
 |exit id=>simp[co]at h;rw[h]
 |region id ops q=>exact dR rfl (d id ops q)
 |cond o x y=>exact ES hn h (by simp) (by simp)
 |_=>simp[co]at h
theorem U8 {c:Code} {a b:SC} (hn:Dv c=M) (h:co P nt c= .seq a b):∃x y,c= .seq x y/\co P nt x=a/\co P nt y=b:=by
 have d:=pe h (by simp) (by simp) (by simp);cases c with
 |seq x y=>simp[co]at h;exact⟨x,y,rfl,h.1,h.2⟩
 |region id ops q=>exact dR rfl (d id ops q)
 |cond o x y=>exact ES hn h (by simp) (by simp)
 |_=>simp[co]at h
theorem YY {c:Code} {t:Nat} {a b:SC} (hn:Dv c=M) (h:co P nt c= .cond t a b):∃x y,c= .cond (.tmp t) x y/\co P nt x=a/\co P nt y=b:=by
 have d:=pe h (by simp) (by simp) (by simp);cases c with
 |cond o x y=>
  cases o with
  |tmp q=>simp[co]at h;obtain⟨rfl,h1,h2⟩:=h;exact⟨x,y,rfl,h1,h2⟩
  |const v=>cases v<;>first|(simp [co]at h;done)|cases hn
  |_=>simp[co]at h
 |region id ops s=>exact dR rfl (d id ops s)
 |_=>simp[co]at h
theorem Mb {c:Code} {id:Nat} {b:SC} (hn:Dv c=M) (h:co P nt c= .block id b):∃y,c= .block id y/\co P nt y=b:=by
 have d:=pe h (by simp) (by simp) (by simp);cases c with
 |block i y=>simp[co]at h;obtain⟨rfl,h1⟩:=h;exact⟨y,rfl,h1⟩
 |region id ops q=>exact dR rfl (d id ops q)
 |cond o x y=>exact ES hn h (by simp) (by simp)
 |_=>simp[co]at h
theorem Po {c:Code} {b:SC} (hn:Dv c=M) (h:co P nt c= .loop b):∃y,c= .loop y/\co P nt y=b:=by
 have d:=pe h (by simp) (by simp) (by simp);cases c with
 |loop y=>simp[co]at h;exact⟨y,rfl,h⟩
 |region id ops q=>exact dR rfl (d id ops q)
 |cond o x y=>exact ES hn h (by simp) (by simp)
 |_=>simp[co]at h
end inv
def aeo {R:Type} (P:Program) (E:Nat->Prop) (nt np:Nat) (φ:PM) (s:TS) (w:World) (am:Nat) (K:Ex->TS->J R) (r:R):Exit->Act->World->Prop:=
 λe a' w'=>∃ex s' φ',e=ex.to/\K ex s'=Z r/\oE P E nt np φ' s' a' w'/\Bs np φ φ' (bD s.h) (bD s'.h) w w'/\fU am s.e s'.e
theorem oE.bool {P:Program} {E:Nat->Prop} {nt np:Nat} {φ:PM} {s:TS} {a:Act} {w:World} (c:oE P E nt np φ s a w) {t:Nat} {b:Bool} (ht:s.e.get t=Z (.f .bool b)):a.eval (.tmp t)= .bool b:=
 eJ (c.env t _ (by simp only[fq,ht,aD,cf];rfl))
theorem oE.anyb {P:Program} {E:Nat->Prop} {nt np:Nat} {φ:PM} {s:TS} {a:Act} {w:World} (c:oE P E nt np φ s a w) {t:Nat} (ht:s.e.get t=Z .anyb):∃b,a.eval (.tmp t)= .bool b:=by
 have:=c.env t .anyb (by simp only[fq,ht,aD,cf]);show ∃b,a.tmps.getD t undef= .bool b;generalize a.tmps.getD t undef=z at this;cases this with
 |anyb=>exact⟨_,rfl⟩
theorem Xc {R:Type} {a b:J R} {r:R} (h:Em a b=Z r):a=Z r/\b=Z r:=by
 unfold Em at h;split at h
 .rename_i e;exact⟨h,by rw[<- e];exact h⟩
 .cases h
theorem af2 {P:Program} {E:Nat->Prop} {nt np:Nat} {con:FuncId->J cj} {b8:TypeId->J Ty} {inert:FuncId->Bool} (hm:P.follows .mixedOrders=M) (hcon:Kf P con) (hin:Kb P inert):
 ∀{tc:TC} {sc:SC},Er tc sc->∀(c:Code),co P nt c=sc->∀(R:Type) (s:TS) (K:Ex->TS->J R) (r:R),nB np con b8 inert tc s K=Z r->∀(φ:PM) (a:Act) (w:World),oE P E nt np φ s a w->c.wp P (aeo P E nt np φ s w (tc.asg 0) K r) a w:=by
 intro tc sc hE;induction hE with
 |skip=>
  intro c hc R s K r h φ a w g;obtain⟨c',hn,z,hsim⟩:=kh P nt c;refine hsim _ _ _ ?_;rw[<- z]at hc;rw[YW hn hc];exact wp_skip ⟨.normal,s,φ,rfl,h,g,Bs.refl _ _ _ _,fU.refl _ _⟩
 |reg ops prs=>
  intro c hc R s K r h φ a w g;obtain⟨c',hn,z,hsim⟩:=kh P nt c;refine hsim _ _ _ ?_;rw[<- z]at hc;obtain⟨id,os,dr,rfl,h1,h2,h3⟩:=abw hn hc;simp only[nB]at h;refine Yu (K:=λs'=>K .normal s') hm hcon g (am:=Oj ops 0) (λj o d ho hd=>?_) h1 h2 h3 h λa' w' s' φ' q1 q2 q3 q4=>⟨.normal,s',φ',rfl,q1,q2,q3,q4⟩
  have hmem:o∈os.toList:=by have:=Array.mem_of_getElem? ho;simpa using this
  have key:∀(rest:Y Oper) (sl:Y r_),rL P os rest=Z sl->∀o∈rest,∃so∈sl,so.dst=o.dst:=by
   intro rest;induction rest with
   |nil=>intro sl _ o ho;cases ho
   |cons x rest ih=>
    intro sl hsl o ho;simp only[rL]at hsl;split at hsl
    .rename_i l hl;have:∃so,sl=so::l/\so.dst=x.dst:=by
      split at hsl
      .simp only[af]at hsl;exact⟨_,hsl.symm,rfl⟩
      .split at hsl
       .simp only[af]at hsl;exact⟨_,hsl.symm,rfl⟩
       .cases hsl
     obtain⟨so,rfl,hso⟩:=this;rcases bx.1 ho with rfl|ho
     .exact⟨so,by simp,hso⟩
     .obtain⟨q,hq,hq2⟩:=ih l hl o ho;exact⟨q,by simp[hq],hq2⟩
    .cases hsl
  obtain⟨so,hso,hd2⟩:=key os.toList ops h2 o hmem;exact Rr hso (by rw[hd2];exact hd)
 |@seq x y x' y' _ _ ihx ihy=>
  intro c hc R s K r h φ a w g;obtain⟨c',hn,z,hsim⟩:=kh P nt c;refine hsim _ _ _ ?_;rw[<- z]at hc;obtain⟨cx,cy,rfl,h1,h2⟩:=U8 hn hc;simp only[nB]at h;refine wp_seq (wp_mono (ihx cx h1 R s _ r h φ a w g) ?_);rintro e a' w' ⟨ex,s',φ',rfl,hk,g',st,F⟩;have kp':fU ((TC.seq x y).asg 0) s.e s'.e:=F.mono λk hk=>by simp only[TC.asg];exact jA hk
  cases ex with
  |normal=>
   refine wp_mono (ihy cy h2 R s' K r hk φ' a' w' g') ?_;rintro e2 a2 w2 ⟨ex2,s2,φ2,rfl,hk2,g2,st2,kp2⟩;exact⟨ex2,s2,φ2,rfl,hk2,g2,st.trans st2,kp'.trans (kp2.mono λk hk=>by simp only[TC.asg];exact sW hk)⟩
  |exit id=>exact⟨.exit id,s',φ',rfl,hk,g',st,kp'⟩
  |ret=>exact⟨.ret,s',φ',rfl,hk,g',st,kp'⟩
 |@jseq A x y x' y' _ _ ihx ihy=>
  intro c hc R s K r h φ a w g;obtain⟨c',hn,z,hsim⟩:=kh P nt c;refine hsim _ _ _ ?_;rw[<- z]at hc;obtain⟨cx,cy,rfl,h1,h2⟩:=U8 hn hc;simp only[nB]at h;have sub1:∀k,aP (x.asg 0) k=M->aP ((TC.jseq A x y).asg 0) k=M:=λk hk=>by simp only[TC.asg];exact jA (sW hk)
  have sub2:∀k,aP (y.asg 0) k=M->aP ((TC.jseq A x y).asg 0) k=M:=λk hk=>by simp only[TC.asg];exact sW hk
  have sub3:∀k,aP (KK A.ks 0) k=M->aP ((TC.jseq A x y).asg 0) k=M:=λk hk=>by simp only[TC.asg];exact jA (jA hk)
  rcases U7 h with ⟨d,h3,h4⟩|h3
  .refine wp_seq (wp_mono (ihx cx h1 _ s _ _ h3 φ a w g) ?_);rintro e a' w' ⟨ex,s',φ',rfl,hk,g',st,F⟩;cases ex with
   |normal=>
    simp only[]at hk;obtain⟨d',q1,q2⟩:=dG hk;simp only[af,Sum.inr.injEq]at q2;subst q2;split at h4
    .rename_i s1 L;obtain⟨φ1,g1,st1⟩:=Ni g' q1 L λk _ _ v hv hf ha v' I=>by
      obtain⟨v0,e1,e2⟩:=F k ha v' I;rw[hv]at e1;cases e1;exact e2 hf
     refine wp_mono (ihy cy h2 R s1 K r h4 φ1 a' w' g1) ?_;rintro e2 a2 w2 ⟨ex2,s2,φ2,rfl,hk2,g2,st2,kp2⟩;exact⟨ex2,s2,φ2,rfl,hk2,g2,(st.trans st1).trans st2,((Dq L).1.mono sub3).trans (kp2.mono sub2)⟩
    .cases h4
   |exit id=>simp only[]at hk;obtain⟨_,_,q2⟩:=dG hk;simp at q2
   |ret=>simp only[]at hk;obtain⟨_,_,q2⟩:=dG hk;simp at q2
  .refine wp_seq (wp_mono (ihx cx h1 _ s _ _ h3 φ a w g) ?_);rintro e a' w' ⟨ex,s',φ',rfl,hk,g',st,F⟩;cases ex with
   |normal=>simp only[]at hk;obtain⟨_,_,q2⟩:=dG hk;simp at q2
   |exit id=>
    simp only[]at hk;obtain⟨r',q1,q2⟩:=dG hk;simp only[af,Sum.inl.injEq]at q2;subst q2;exact⟨.exit id,s',φ',rfl,q1,g',st,F.mono sub1⟩
   |ret=>
    simp only[]at hk;obtain⟨r',q1,q2⟩:=dG hk;simp only[af,Sum.inl.injEq]at q2;subst q2;exact⟨.ret,s',φ',rfl,q1,g',st,F.mono sub1⟩
 |@cond t x y x' y' _ _ ihx ihy=>
  intro c hc R s K r h φ a w g;obtain⟨c',hn,z,hsim⟩:=kh P nt c;refine hsim _ _ _ ?_;rw[<- z]at hc;obtain⟨cx,cy,rfl,h1,h2⟩:=YY hn hc;simp only[nB]at h;split at h
  .rename_i b hb;rcases lX h with ⟨rfl,h⟩|⟨rfl,h⟩
   .refine wp_cond_true (g.bool hb) (wp_mono (ihx cx h1 R s K r h φ a w g) ?_);rintro e a' w' ⟨ex,s',φ',rfl,hk,g',st,F⟩;exact⟨ex,s',φ',rfl,hk,g',st,F.mono λk hk=>by simp only[TC.asg];exact jA hk⟩
   .refine wp_cond_false (g.bool hb) (wp_mono (ihy cy h2 R s K r h φ a w g) ?_);rintro e a' w' ⟨ex,s',φ',rfl,hk,g',st,F⟩;exact⟨ex,s',φ',rfl,hk,g',st,F.mono λk hk=>by simp only[TC.asg];exact sW hk⟩
  .rename_i hb;obtain⟨ha,hbb⟩:=Xc h;obtain⟨bv,hbv⟩:=g.anyb hb;cases bv with
   |true=>
    refine wp_cond_true hbv (wp_mono (ihx cx h1 R s K r ha φ a w g) ?_);rintro e a' w' ⟨ex,s',φ',rfl,hk,g',st,F⟩;exact⟨ex,s',φ',rfl,hk,g',st,F.mono λk hk=>by simp only[TC.asg];exact jA hk⟩
   |false=>
    refine wp_cond_false hbv (wp_mono (ihy cy h2 R s K r hbb φ a w g) ?_);rintro e a' w' ⟨ex,s',φ',rfl,hk,g',st,F⟩;exact⟨ex,s',φ',rfl,hk,g',st,F.mono λk hk=>by simp only[TC.asg];exact sW hk⟩
  .cases h
 |@block id b b' _ ih=>
  intro c hc R s K r h φ a w g;obtain⟨c',hn,z,hsim⟩:=kh P nt c;refine hsim _ _ _ ?_;rw[<- z]at hc;obtain⟨cb,rfl,h1⟩:=Mb hn hc;simp only[nB]at h;refine wp_block (wp_mono (ih cb h1 R s _ r h φ a w g) ?_);rintro e a' w' ⟨ex,s',φ',rfl,hk,g',st,F⟩;cases ex with
  |normal=>exact⟨.normal,s',φ',rfl,hk,g',st,F⟩
  |ret=>exact⟨.ret,s',φ',rfl,hk,g',st,F⟩
  |exit i=>
   simp only[Ex.to,Exit.inBlock];simp only[]at hk;split at hk
   .rename_i hb;rw[aW (au hb)];exact⟨.normal,s',φ',rfl,hk,g',st,F⟩
   .rename_i hb;rw[aM (λe=>hb (by rw[e];exact ru id))];exact⟨.exit i,s',φ',rfl,hk,g',st,F⟩
 |@jblock A id b b' _ ih=>
  intro c hc R s K r h φ a w g;obtain⟨c',hn,z,hsim⟩:=kh P nt c;refine hsim _ _ _ ?_;rw[<- z]at hc;obtain⟨cb,rfl,h1⟩:=Mb hn hc;simp only[nB]at h;have sub1:∀k,aP (b.asg 0) k=M->aP ((TC.jblock A id b).asg 0) k=M:=λk hk=>by simp only[TC.asg];exact sW hk
  have sub3:∀k,aP (KK A.ks 0) k=M->aP ((TC.jblock A id b).asg 0) k=M:=λk hk=>by simp only[TC.asg];exact jA hk
  rcases U7 h with ⟨d,h3,h4⟩|h3
  .refine wp_block (wp_mono (ih cb h1 _ s _ _ h3 φ a w g) ?_);rintro e a' w' ⟨ex,s',φ',rfl,hk,g',st,F⟩;have fin:av (K_ np A (b.asg 0) s s') (λx=>Z (bZ (α:=R) x))=Z (bZ d)->aeo P E nt np φ s w ((TC.jblock A id b).asg 0) K r .normal a' w':=by
    intro hk;obtain⟨d',q1,q2⟩:=dG hk;simp only[af,Sum.inr.injEq]at q2;subst q2;split at h4
    .rename_i s1 L;obtain⟨φ1,g1,st1⟩:=Ni g' q1 L λk _ _ v hv hf ha v' I=>by
      obtain⟨v0,e1,e2⟩:=F k ha v' I;rw[hv]at e1;cases e1;exact e2 hf
     exact⟨.normal,s1,φ1,rfl,h4,g1,st.trans st1,(Dq L).1.mono sub3⟩
    .cases h4
   cases ex with
   |normal=>exact fin hk
   |ret=>simp only[]at hk;obtain⟨_,_,q2⟩:=dG hk;simp at q2
   |exit i=>
    simp only[Ex.to,Exit.inBlock];simp only[]at hk;split at hk
    .rename_i hb;rw[aW (au hb)];exact fin hk
    .obtain⟨_,_,q2⟩:=dG hk;simp at q2
  .refine wp_block (wp_mono (ih cb h1 _ s _ _ h3 φ a w g) ?_);rintro e a' w' ⟨ex,s',φ',rfl,hk,g',st,F⟩;cases ex with
   |normal=>simp only[]at hk;obtain⟨_,_,q2⟩:=dG hk;simp at q2
   |ret=>
    simp only[]at hk;obtain⟨r',q1,q2⟩:=dG hk;simp only[af,Sum.inl.injEq]at q2;subst q2;exact⟨.ret,s',φ',rfl,q1,g',st,F.mono sub1⟩
   |exit i=>
    simp only[Ex.to,Exit.inBlock];simp only[]at hk;split at hk
    .obtain⟨_,_,q2⟩:=dG hk;simp at q2
    .rename_i hb;rw[aM (λe=>hb (by rw[e];exact ru id))];obtain⟨r',q1,q2⟩:=dG hk;simp only[af,Sum.inl.injEq]at q2;subst q2;exact⟨.exit i,s',φ',rfl,q1,g',st,F.mono sub1⟩
 |@loop A b b' _ ih=>
  intro c hc R s K r h φ a w g;obtain⟨c',hn,z,hsim⟩:=kh P nt c;refine hsim _ _ _ ?_;rw[<- z]at hc;obtain⟨cb,rfl,h1⟩:=Po hn hc;simp only[nB]at h;obtain⟨x0,hx0,h⟩:=dG h;obtain⟨n,hn⟩:=Wd h;have sub1:∀k,aP (b.asg 0) k=M->aP ((TC.loop A b).asg 0) k=M:=λk hk=>by simp only[TC.asg];exact sW hk
  have sub3:∀k,aP (KK A.ks 0) k=M->aP ((TC.loop A b).asg 0) k=M:=λk hk=>by simp only[TC.asg];exact jA hk
  obtain⟨step,hstep⟩:∃step:A.D->J (A.D⊕R),step=λx=>(match FR A (b.asg 0) s x with
   |some s'=>nB np con b8 inert b s' λex s'=>(match ex with
    |.normal=>av (K_ np A (b.asg 0) s s') λy=>Z (pM y)
    |ex=>av (K ex s') λr=>Z (bZ r))
   |none=>U):=⟨_,rfl⟩
  have hn:iterN step n x0=Z r:=by rw[hstep];exact hn
  have stepEq:∀x,step x=(match FR A (b.asg 0) s x with
   |some s'=>nB np con b8 inert b s' λex s'=>(match ex with
    |.normal=>av (K_ np A (b.asg 0) s s') λy=>Z (pM y)
    |ex=>av (K ex s') λr=>Z (bZ r))
   |none=>U):=λx=>by rw[hstep]
  let Inv:Nat->Act->World->Prop:=λn a w'=>∃x s1 φ1,iterN step n x=Z r/\FR A (b.asg 0) s x=Z s1/\oE P E nt np φ1 s1 a w'/\Bs np φ φ1 (bD s.h) (bD s1.h) w w'
  have head:∀(n:Nat) (x:A.D),iterN step n x=Z r->∃s1,FR A (b.asg 0) s x=Z s1:=by
   intro n x hn;cases n with
   |zero=>cases hn
   |succ n=>
    simp only[iterN]at hn;cases hr:FR A (b.asg 0) s x with
    |some s1=>exact⟨s1,rfl⟩
    |none=>rw[stepEq,hr]at hn;cases hn
  refine BE Inv ?_ (n:=n) ?_
  .rintro n a1 w1 ⟨x,s1,φ1,hi,hr,g1,st1⟩;cases n with
   |zero=>cases hi
   |succ n=>
    simp only[iterN]at hi;have hse:=stepEq x;rw[hr]at hse;simp only[]at hse;obtain⟨kp1,kp1'⟩:=Dq hr;split at hi
    .rename_i y hy;rw[hy]at hse;refine wp_mono (ih cb h1 _ s1 _ _ hse.symm φ1 a1 w1 g1) ?_;rintro e a' w' ⟨ex,s',φ',rfl,hk,g',st,F⟩;cases ex with
     |normal=>
      simp only[]at hk;obtain⟨d',q1,q2⟩:=dG hk;simp only[af,Sum.inl.injEq]at q2;subst q2;obtain⟨s2,hs2⟩:=head n d' hi;obtain⟨φ2,g2,st2⟩:=Ni g' q1 hs2 λk hkk hks v hv hf ha v' I=>by
       obtain⟨v0,e1,e2⟩:=F k ha v' I;have:=kp1' k hks v0 e1;rw[hv]at this;cases this;exact e2 hf
      exact⟨n,by omega,d',s2,φ2,hi,hs2,g2,(st1.trans st).trans st2⟩
     |exit id=>simp only[]at hk;obtain⟨_,_,q2⟩:=dG hk;simp at q2
     |ret=>simp only[]at hk;obtain⟨_,_,q2⟩:=dG hk;simp at q2
    .rename_i r' hy;cases hi;rw[hy]at hse;refine wp_mono (ih cb h1 _ s1 _ _ hse.symm φ1 a1 w1 g1) ?_;rintro e a' w' ⟨ex,s',φ',rfl,hk,g',st,F⟩;cases ex with
     |normal=>simp only[]at hk;obtain⟨_,_,q2⟩:=dG hk;simp at q2
     |exit id=>
      simp only[]at hk;obtain⟨r',q1,q2⟩:=dG hk;simp only[af,Sum.inr.injEq]at q2;subst q2;exact⟨.exit id,s',φ',rfl,q1,g',st1.trans st,(kp1.mono sub3).trans (F.mono sub1)⟩
     |ret=>
      simp only[]at hk;obtain⟨r',q1,q2⟩:=dG hk;simp only[af,Sum.inr.injEq]at q2;subst q2;exact⟨.ret,s',φ',rfl,q1,g',st1.trans st,(kp1.mono sub3).trans (F.mono sub1)⟩
    .cases hi
  .obtain⟨s1,L⟩:=head n x0 hn;obtain⟨φ1,g1,st1⟩:=Ni g hx0 L λk _ _ v hv _ _ v' I=>by rw[hv]at I;cases I;rfl
   exact⟨x0,s1,φ1,hn,L,g1,st1⟩
 |exit id=>
  intro c hc R s K r h φ a w g;obtain⟨c',hn,z,hsim⟩:=kh P nt c;refine hsim _ _ _ ?_;rw[<- z]at hc;rw[YX hn hc];exact wp_exit ⟨.exit id,s,φ,rfl,h,g,Bs.refl _ _ _ _,fU.refl _ _⟩
 |ret=>
  intro c hc R s K r h φ a w g;obtain⟨c',hn,z,hsim⟩:=kh P nt c;refine hsim _ _ _ ?_;rw[<- z]at hc;rw[abv hn hc];exact wp_ret ⟨.ret,s,φ,rfl,h,g,Bs.refl _ _ _ _,fU.refl _ _⟩
 |defer f caps t=>
  intro c hc R s K r h φ a w g;obtain⟨c',hn,z,hsim⟩:=kh P nt c;refine hsim _ _ _ ?_;rw[<- z]at hc;obtain⟨id,ops,dr,rfl,h1,h2⟩:=We hn hc;simp only[nB]at h;split at h
  .rename_i l hl;split at h
   .rename_i hi;obtain⟨l',e1,e2⟩:=ya g.invE hl;obtain⟨H,hH⟩:=jQ s.h;have lowN:∀n k,φ n=Z k->n<2*s.nx+2:=λn k hk=>by have:=g.dom n k hk;unfold ow at this;omega
    have cfg:Cfg P ⟨2*s.nx+2,φ,E,bD s.h,w⟩ nt ⟨IP s.e s.h,H,2*s.nx+2,0⟩ a w:=by
     refine ⟨⟨φ,?_,?_,?_,lowN,λi k hk=>.inl hk⟩,cN _,g.inert,g.size⟩
     .rw[hH];exact iZ.refl _ _ _
     .rw[hH];exact g.rep
     .rw[hH,uH];exact g.env
    refine Qz hin cfg h1 h2 e1 hi λa' w' c'=>?_
    obtain⟨φ',m',r',en',dm',d0'⟩:=c'.ex;have hφ:φ'=φ:=by
     funext n;cases hx:φ n with
     |some k=>exact m'.sub n k hx
     |none=>
      cases hy:φ' n with
      |none=>rfl
      |some k=>
       rcases d0' n k hy with h3|h3
       .have h3:φ n=Z k:=h3;rw[hx]at h3;cases h3
       .have h4:n<2*s.nx+2:=dm' n k hy;have h5:2*s.nx+2<=n:=h3;omega
    subst hφ;simp only[hH]at m' r' en';refine ⟨.normal,_,φ',rfl,h,⟨r',?_,g.dom,g.low,g.invH,?_,c'.inert,c'.size⟩,⟨m'.ext,m'.own_,λ_ _=>rfl⟩,?_⟩
    .intro u x hx;refine en' u x ?_;simp only[fq,PT.get_set]at hx;simp only[yW.put,PT.get_set];split at hx
     .rename_i eu;rw[aW eu];simp only[aD,cf,e2,af]at hx;rw[hx]
     .rename_i eu;rw[aM eu,uH];exact hx
    .intro u x hx;simp only[PT.get_set]at hx;split at hx
     .cases hx;simp only[KH];exact jX _ _ _ e2
     .exact g.invE u x hx
    .intro k hk v' I;simp only[PT.get_set]at I;split at I
     .rename_i ek;subst ek;simp only[TC.asg]at hk;rw[bz,bX.2 rfl]at hk;simp at hk
     .exact⟨v',I,λ_=>rfl⟩
   .cases h
  .cases h
 |@adj l tc' sc' _ ih=>
  intro c hc R s K r h φ a w g;obtain⟨c',hn,z,hsim⟩:=kh P nt c;refine hsim _ _ _ ?_;rw[<- z]at hc;simp only[nB]at h;split at h
  .rename_i s1 L;obtain⟨φ1,g1,st1,kp1⟩:=Uu g L;refine wp_mono (ih c' hc R s1 K r h φ1 a w g1) ?_;rintro e a' w' ⟨ex,s',φ',rfl,hk,g',st,F⟩;exact⟨ex,s',φ',rfl,hk,g',st1.trans st,(kp1.mono λk hk=>by simp only[TC.asg];exact jA hk).trans (F.mono λk hk=>by simp only[TC.asg];exact sW hk)⟩
  .cases h
 |@split k off lo n tc' sc' _ ih=>
  intro c hc R s K r h φ a w g;obtain⟨c',hn,z,hsim⟩:=kh P nt c;refine hsim _ _ _ ?_;rw[<- z]at hc;simp only[nB]at h;split at h
  .rename_i kd v hv;obtain⟨j,hj,h2⟩:=OW h;subst hj;split at h2
   .rename_i s1 L;obtain⟨g1,hH,he⟩:=Yr g hv L;refine wp_mono (ih c' hc R s1 K r h2 φ a w g1) ?_;rintro e a' w' ⟨ex,s',φ',rfl,hk,g',st,F⟩;exact⟨ex,s',φ',rfl,hk,g',by rw[<- hH];exact st,λk hk v' I=>by
     obtain⟨v,q1,q2⟩:=F k hk v' I;exact⟨v,by rw[<- he];exact q1,q2⟩⟩
   .cases h2
  .cases h
 |@bsp t x y sc' _ _ ihx ihy=>
  intro c hc R s K r h φ a w g;simp only[nB]at h;split at h
  .rename_i v hv;rcases lX h with ⟨rfl,h⟩|⟨rfl,h⟩
   .have he:∀q,(s.e.set t (Z (.f .bool M))).get q=s.e.get q:=λq=>by
     rw[PT.get_set];split
     .rename_i e;subst e;exact hv.symm
     .rfl
    obtain⟨g1,hH⟩:=g.congr (s':=⟨s.e.set t (Z (.f .bool M)),s.h,s.nx⟩) he (λ_=>rfl) rfl;refine wp_mono (ihx c hc R _ K r h φ a w g1) ?_;rintro e a' w' ⟨ex,s',φ',rfl,hk,g',st,F⟩;exact⟨ex,s',φ',rfl,hk,g',by rw[<- hH];exact st,λk hk v' I=>by
     obtain⟨v,q1,q2⟩:=(F.mono λk hk=>by simp only[TC.asg];exact jA hk) k hk v' I;exact⟨v,by rw[<- he];exact q1,q2⟩⟩
   .have he:∀q,(s.e.set t (Z (.f .bool aa))).get q=s.e.get q:=λq=>by
     rw[PT.get_set];split
     .rename_i e;subst e;exact hv.symm
     .rfl
    obtain⟨g1,hH⟩:=g.congr (s':=⟨s.e.set t (Z (.f .bool aa)),s.h,s.nx⟩) he (λ_=>rfl) rfl;refine wp_mono (ihy c hc R _ K r h φ a w g1) ?_;rintro e a' w' ⟨ex,s',φ',rfl,hk,g',st,F⟩;exact⟨ex,s',φ',rfl,hk,g',by rw[<- hH];exact st,λk hk v' I=>by
     obtain⟨v,q1,q2⟩:=(F.mono λk hk=>by simp only[TC.asg];exact sW hk) k hk v' I;exact⟨v,by rw[<- he];exact q1,q2⟩⟩
  .cases h
 |@unl n b b' _ ih=>
  intro c hc R s K r h φ a w g;obtain⟨c',hn,z,hsim⟩:=kh P nt c;refine hsim _ _ _ ?_;rw[<- z]at hc;obtain⟨cb,rfl,h1⟩:=Po hn hc;simp only[nB]at h
  let Inv:Nat->Act->World->Prop:=λm a w'=>∃s1 φ1,ab0 (λs K=>nB np con b8 inert b s K) m s1 K=Z r/\oE P E nt np φ1 s1 a w'/\Bs np φ φ1 (bD s.h) (bD s1.h) w w'/\fU (b.asg 0) s.e s1.e
  refine BE Inv ?_ (n:=n) ⟨s,φ,h,g,Bs.refl _ _ _ _,fU.refl _ _⟩;rintro m a1 w1 ⟨s1,φ1,hi,g1,st1,kp1⟩;cases m with
  |zero=>cases hi
  |succ m=>
   simp only[ab0]at hi;refine wp_mono (ih cb h1 R s1 _ r hi φ1 a1 w1 g1) ?_;rintro e a' w' ⟨ex,s',φ',rfl,hk,g',st,F⟩;cases ex with
   |normal=>exact⟨m,qy m,s',φ',hk,g',st1.trans st,kp1.trans F⟩
   |exit id=>exact⟨.exit id,s',φ',rfl,hk,g',st1.trans st,kp1.trans F⟩
   |ret=>exact⟨.ret,s',φ',rfl,hk,g',st1.trans st,kp1.trans F⟩
 |bad sc'=>
  intro c hc R s K r h;simp[nB]at h
theorem M6 {P:Program} {φ:PM} {E:Nat->Prop} {s:TS} {a:Act} {w:World} (hinv:mg s.h s.nx) (hiE:sX s.e s.h) (r:qI φ E (bD s.h) w) (en:MS φ (tot E φ (bD s.h)) w (fq s.e s.h) a):∀(rs:Y ResultVar) (rvs:Y RV) (l:Y TV),uM P rs=Z rvs->Sp s rvs=Z l->
 ∃la vs,cF s.h l=Z la/\(rs.mapM (V2 a.tmps)).run P w= .ok vs w/\j9 φ (tot E φ (bD s.h)) w la vs
 |[],rvs,l,hc,hr=>by
  simp only[uM,af]at hc;subst hc;simp only[Sp,af]at hr;subst hr;exact⟨[],[],rfl,by simp,trivial⟩
 |.tmp t::rs,rvs,l,hc,hr=>by
  simp only[uM]at hc;split at hc
  .rename_i rvs' hrs;simp only[af]at hc;subst hc;simp only[Sp]at hr;split at hr
   .rename_i v hv;split at hr
    .rename_i A d;simp only[af]at hr;subst hr;obtain⟨la,vs,h0,h1,h2⟩:=M6 hinv hiE r en rs rvs' A hrs d;simp only[rvT]at hv;obtain⟨y,F⟩:=o6 s.h v (hiE t v hv);refine ⟨y::la,a.tmps.getD t undef::vs,oX F h0,?_,en t y (by simp only[fq,hv,aD,F]),h2⟩;simp only[List.mapM_cons,eA,V2,oI,cL];show ((rs.mapM (V2 a.tmps)).run P w).andThen _=_;rw[h1];rfl
    .cases hr
   .cases hr
  .cases hc
 |.cell L t::rs,rvs,l,hc,hr=>by
  simp only[uM]at hc;split at hc
  .rename_i rvs' sz ag hrs hsz hag;simp only[af]at hc;subst hc;simp only[Sp]at hr;split at hr
   .rename_i v hv;split at hr
    .rename_i A d;simp only[af]at hr;subst hr;obtain⟨la,vs,h0,h1,h2⟩:=M6 hinv hiE r en rs rvs' A hrs d;simp only[rvT]at hv;split at hv
     .rename_i id off hp;split at hv
      .rename_i ty q hb;obtain⟨q',z⟩:=eU s.h q (hinv.cells id _ q hb);obtain⟨y,e1,e2⟩:=UQ z hv;obtain⟨H,I⟩:=jQ s.h;have hR:C8 H sz ag (.ptr (nm id) off)=Z ⟨y,[nm id],[],[],[]⟩:=by
        have hg:H.get (nm id)=Z ⟨ty,.mx q'⟩:=by rw[I,bL,hb];simp only[aD,jC,z]
        simp only[C8,hg,e2]
       obtain⟨_,_,_,h3⟩:=Rt (P:=P) hsz hag hR;obtain⟨qq,D,h4,h5,h6⟩:=h3 φ E (bD s.h) w _ (λi _=>by rw[I]) r (en L _ (by simp only[fq,hp,aD,cf]));refine ⟨y::la,D::vs,oX e1 h0,?_,h6,h2⟩;have hone:(V2 a.tmps (.cell L t)).run P w= .ok D w:=by
        simp only[V2,eA,h4,asAddr,oI,cL,h5]
       rw[List.mapM_cons];simp only[eA,hone,cL,h1,oI]
      .cases hv
     .cases hv
    .cases hr
   .cases hr
  .cases hc
theorem Ep:∀(args:Y TV) (k t:Nat) (x:TV),(JU k args).get t=Z x->k<=t/\args[t-k]? =Z x
 |[],k,t,x,h=>by simp[JU,PT.get]at h
 |y::args,k,t,x,h=>by
  rw[JU,PT.get_set]at h;split at h
  .rename_i hk;subst hk;cases h;exact⟨cN _,by simp⟩
  .obtain⟨h1,h2⟩:=Ep args (k+1) t x h;refine ⟨by omega,?_⟩;rw[show t-k=t-(k+1)+1 from by omega];simpa using h2
theorem YH {h:bn} {l:Y TV} (q:kS h l=M) {j:Nat} {v:TV} (hj:l[j]? =Z v):KH h v=M:=by
 obtain⟨s,hl⟩:=eU h l q;obtain⟨y,_,d⟩:=k9 hl j v hj;exact D8 _ _ _ d
theorem Sh {P:Program} {con:FuncId->J cj} {b8:TypeId->J Ty} {inert:FuncId->Bool} (hm:P.follows .mixedOrders=M) (hcon:Kf P con) (hin:Kb P inert) {f:FuncId} {A:SF} (hf:yQ P f=Z A) (D:FT) (m:D.pre.ty.den->J D.post.ty.den) (hmod:∀x y,m x=Z y->Yl con b8 inert (Z A) D x=Z y):pG P f ⟨D.pre,D.post,m⟩:=by
 obtain⟨fn,c,hfn,hb,hnm,hcode,hres,hnt⟩:=Rg hf;refine ⟨⟨fn,hfn,by rw[hb];rfl,hnm⟩,λx y hxy vs hp l1 rs hq l2 la lr I o hla hlr φ E w us hrep hrel hdom=>?_⟩;have ht:=hmod x y hxy;unfold Yl at ht;simp only[]at ht;split at ht
 .rename_i args h hins;obtain⟨F,I'⟩:=vF hins;have e1:args=vs:=by have h1:=I.pv;have h2:=I'.pv;rw[h1]at h2;cases h2;rfl
  have e2:F=l1:=by have h1:=I.pb;have h2:=I'.pb;rw[h1]at h2;cases h2;rfl
  subst e1;subst e2;have hget:∀i,h.get i=hp.get i:=λi=>by
   cases s:hp.get i with
   |some b=>exact (I'.at_ i b).2 ((I.at_ i b).1 s)
   |none=>
    cases h4:h.get i with
    |none=>rfl
    |some b=>have:=(I.at_ i b).2 ((I'.at_ i b).1 h4);rw[s]at this;cases this
  have hrow:∀i,ej h i=ej hp i:=λi=>by rw[bR,bR,hget]
  have herH:bD h=bD hp:=by
   funext n;by_cases hn:∃i,n=nm i
   .obtain⟨i,rfl⟩:=hn;rw[bL,bL,hget];cases s:hp.get i with
    |none=>rfl
    |some b=>
     simp only[aD];refine IQ (λi r hr=>by rw[hrow];exact hr) λty l e=>?_
     exact (I.cells i _ l (by rw[s,e])).1
   .rw[vL _ hn,vL _ hn]
  have hla':cF h args=Z la:=fY (λi r hr=>by rw[hrow];exact hr) args la hla;split at ht
  .rename_i hle;simp only[ak]at hle;have hle2:=bc hle.2;have hle:=bc hle.1;have hlen:=hrel.length;have hargl:args.length=la.length:=(gB hla).symm;refine calls_of_wp_defers hfn hb ?_;have hcfg:oE P E fn.ntmps D.pre.bs.length φ ⟨JU 0 args,h,D.pre.bs.length⟩ {tmps:=us.toArray++og (fn.ntmps-us.toArray.size) undef,defers:=[]} w:=by
    refine ⟨by rw[herH];exact hrep,?_,hdom,cN _,⟨λi ty l hl=>(I'.cells i _ l hl).1,λi b hbb=>I'.lt_len hbb⟩,?_,by simp,by simp;omega⟩
    .intro t z d;simp only[fq]at d;cases q:(JU 0 args).get t with
     |none=>rw[q]at d;cases d
     |some v0=>
      rw[q]at d;obtain⟨_,h2⟩:=Ep args 0 t v0 q;rw[Nat.sub_zero]at h2;obtain⟨y0,q1,q2⟩:=k9 hla' t v0 h2;simp only[aD]at d;rw[d]at q2;cases q2;obtain⟨v,s,h4⟩:=hrel.get t z q1;have hlt:t<us.length:=(bo.1 s).1;have:(us.toArray++og (fn.ntmps-us.toArray.size) undef).getD t undef=v:=by
       rw[gF,Array.getElem?_append];simp only[sJ,hlt,bH,ky,s,uo]
      show cK φ _ w z ((us.toArray++og (fn.ntmps-us.toArray.size) undef).getD t undef);rw[this,herH];exact h4
    .intro t v0 L;obtain⟨_,h2⟩:=Ep args 0 t v0 L;exact YH I'.ok h2
   refine wp_mono (af2 (E:=E) hm hcon hin (wW D.hints A.code 0) c hcode.symm _ _ _ _ ht φ _ w hcfg) ?_;rintro e a' w' ⟨ex,s',φ',rfl,hk,g',st,_⟩;have fin:(match Sp s' A.res with
    |some l=>(match Dz D.pre.bs.length D.post l s'.h with
     |some ⟨y,_,_,_⟩=>(match B_ D.post y with|some _=>Z y|none=>U)
     |none=>U)
    |none=>U)=Z y->Leaves P fn a'.tmps (λen w'=>∃v φ',en= .returned v/\GP (own φ (bD hp)) w w'/\(∀k,k<w.heap.size->own φ' (bD hq) k->own φ (bD hp) k)/\(∀i,i<D.pre.bs.length->φ' (nm i)=φ (nm i))/\qI φ' E (bD hq) w'/\cK φ' (tot E φ' (bD hq)) w' (Dm lr) v) a'.defers .returning w':=by
    intro hk;split at hk
    .rename_i l hl;split at hk
     .rename_i y' m' σ sm hM;split at hk
      .simp only[af]at hk;subst hk;obtain⟨lo,rvs,q0,q1,q2⟩:=M6 g'.invH g'.invE g'.rep g'.env fn.results.toList A.res l hres hl;have g:=vA hM;obtain⟨φ2,lu,hlu,S⟩:=Kz (np:=D.pre.bs.length) (E:=E) o g'.invH g q0 g'.rep;rw[hlr]at hlu;cases hlu;have hresults:(results fn a'.tmps).run P w'= .ok (if h:rvs.toArray.size=1 then rvs.toArray[0] else .tuple rvs.toArray) w':=by
        rw[Sr,Array.mapM_eq_mapM_toList];simp only[eA,Sem.run_map,q1,cL,oI]
       have hrl:j9 φ2 (tot E φ2 (bD hq)) w' lr rvs:=by
        refine j9.of (by rw[q2.length,S.len]) λj z v d hv=>?_
        obtain⟨z0,p1,p2⟩:=S.val j z v d;obtain⟨v',p3,p4⟩:=q2.get j z0 p1;rw[hv]at p3;cases p3;exact p2 p4
       have hval:cK φ2 (tot E φ2 (bD hq)) w' (Dm lr) (if h:rvs.toArray.size=1 then rvs.toArray[0] else .tuple rvs.toArray):=by
        have hll:=hrl.length;clear hlr S;cases lr with
        |nil=>
         cases rvs with
         |nil=>exact cK.tup (vs:=[]) rfl (by intro j x v q;simp at q)
         |cons _ _=>exact hrl.elim
        |cons z lr=>
         cases rvs with
         |nil=>exact hrl.elim
         |cons v rvs=>
          cases lr with
          |nil=>
           cases rvs with
           |nil=>exact hrl.1
           |cons _ _=>exact hrl.2.elim
          |cons y l=>
           cases rvs with
           |nil=>exact hrl.2.elim
           |cons u rvs=>
            rw[dif_neg (by simp)];refine cK.tup (vs:=v::u::rvs) (by simpa using hll) λj x' v' q hv=>?_
            obtain⟨v'',q1,q2⟩:=hrl.get j x' q;rw[hv]at q1;cases q1;exact q2
       have st':Bs D.pre.bs.length φ φ' (bD hp) (bD s'.h) w w':=by rw[<- herH];exact st
       refine B3 hresults ⟨_,φ2,rfl,st'.ext,λk hk ho=>st'.own_ k hk (S.own_ k ho),λi hi=>?_,S.rep,hval⟩ a'.defers g'.inert;rw[S.par i hi (dz hi hle2),st'.par i hi]
      .cases hk
     .cases hk
    .cases hk
   cases ex with
   |normal=>exact fin hk
   |ret=>exact fin hk
   |exit id=>cases hk
  .cases ht
 .cases ht
def T_:Y (FuncId×cj)->FuncId->J cj
 |[],_=>U
 |(g,c)::r,f=>if ax g f then Z c else T_ r f
def R5 (P:Program):Y (FuncId×cj)->Prop
 |[]=>True
 |p::r=>aG P p.1 p.2/\R5 P r
theorem Vq {P:Program}:∀{l:Y (FuncId×cj)},R5 P l->Kf P (T_ l)
 |[],_,f,c,h=>by simp[T_]at h
 |(g,d)::r,q,f,c,h=>by
  simp only[T_]at h;split at h
  .rename_i hb;have:=au hb;subst this;cases h;exact q.1
  .exact Vq q.2 f c h
theorem P1 {P:Program} {inert:FuncId->Bool} (hm:P.follows .mixedOrders=M) (hin:Kb P inert) {l:Y (FuncId×cj)} (d:R5 P l) {b8:TypeId->J Ty} {f:FuncId} {D:FT} {m:D.pre.ty.den->J D.post.ty.den} (hs:(yQ P f).isSome=M) (he:∀x,Yl (T_ l) b8 inert (yQ P f) D x=m x):pG P f ⟨D.pre,D.post,m⟩:=by
 obtain⟨q,hf⟩:=iM.1 hs;exact Sh hm (Vq d) hin hf D m λx y hxy=>by rw[<- hf,he];exact hxy
theorem pG.sub {P:Program} {f:FuncId} {pre post:Tm} {m m':pre.ty.den->J post.ty.den} (h:pG P f ⟨pre,post,m⟩) (hs:∀x y,m' x=Z y->m x=Z y):pG P f ⟨pre,post,m'⟩:=
 ⟨h.callable,λx y hxy=>h.calls x y (hs x y hxy)⟩
theorem aG.sub {P:Program} {f:FuncId} {pre post:Tm} {m m':pre.ty.den->J post.ty.den} (h:aG P f ⟨pre,post,m⟩) (hb:dP pre.bs.length post.bs.length=M) (hs:∀x y,m' x=Z y->m x=Z y):aG P f ⟨pre,post,m'⟩:=
 ((h.holds hb).sub hs).toC hb
theorem rj {α:Type} {b:Nat}:∀(x y:Y α),chk (be (ah x) b) (λ_=>Z x)=Z y->aF (ax (ah x) 0) (Em (Z ([]:Y α)) (chk (be (ah ([]:Y α)+ah x) b) λ_=>(Z (([]:Y α)++x)))) (chk (be (ah ([]:Y α)+ah x) b) λ_=>(Z (([]:Y α)++x)))=Z y:=by
 intro x y h;rw[od,j6,bM,h];cases x with
 |nil=>
  obtain⟨_,h⟩:=dO h;cases h;show Em (Z []) (Z [])=_;unfold Em;rw[aW rfl]
 |cons a r=>rfl
theorem Tf {P:Program} {f:FuncId} {pre post:Tm} (hs:(yQ P f).isSome=M):pG P f ⟨pre,post,λ_=>U⟩:=by
 obtain⟨d,hf⟩:=iM.1 hs;obtain⟨fn,c,hfn,hb,hnm,_⟩:=Rg hf;exact⟨⟨fn,hfn,by rw[hb];rfl,hnm⟩,λx y h=>by cases h⟩
theorem pG.orElse {P:Program} {f:FuncId} {pre post:Tm} {m m':pre.ty.den->J post.ty.den} (h:pG P f ⟨pre,post,m⟩) (h':pG P f ⟨pre,post,m'⟩):pG P f ⟨pre,post,λx=>match m x with|some y=>Z y|none=>m' x⟩:=
 ⟨h.callable,λx y hxy=>by
   cases hm:m x with
   |some z=>rw[show (cj.m ⟨pre,post,λx=>match m x with|some y=>Z y|none=>m' x⟩ x)=Z z by show (match m x with|some y=>Z y|none=>m' x)=Z z;rw[hm]]at hxy;cases hxy;exact h.calls x _ hm
   |none=>rw[show (cj.m ⟨pre,post,λx=>match m x with|some y=>Z y|none=>m' x⟩ x)=m' x by show (match m x with|some y=>Z y|none=>m' x)=m' x;rw[hm]]at hxy;exact h'.calls x y hxy⟩
theorem aG.orE {P:Program} {f:FuncId} {pre post:Tm} {m m':pre.ty.den->J post.ty.den} (hb:dP pre.bs.length post.bs.length=M) (h:aG P f ⟨pre,post,m⟩) (h':aG P f ⟨pre,post,m'⟩):aG P f ⟨pre,post,λx=>AI.orE (m x) (m' x)⟩:=by
 have e:(λx=>AI.orE (m x) (m' x))=λx=>match m x with|some y=>Z y|none=>m' x:=by funext x;cases m x<;>rfl
 rw[e];exact ((h.holds hb).orElse (h'.holds hb)).toC hb
def Yh (P:Program) (f:Ty->TypeId->Bool):Y Field->Nat->Ty->Bool
 |[],_,.un=>M
 |[x],off,T=>ax x.offset off&&f T x.type&&ax (P.cellsOf x.type) T.size
 |x::y::r,off,.pr a b=>ax x.offset off&&f a x.type&&ax (P.cellsOf x.type) a.size&&Yh P f (y::r) (off+a.size) b
 |_,_,_=>aa
def Sg (P:Program) (f:Ty->TypeId->Bool) (e:TypeId):Nat->Ty->Bool
 |1,T=>f T e&&ax (P.cellsOf e) T.size
 |m+2,.pr a b=>f a e&&ax (P.cellsOf e) a.size&&Sg P f e (m+1) b
 |_,_=>aa
def AJ (P:Program):Nat->Ty->TypeId->Bool
 |0,_,_=>aa
 |n+1,T,t=>match T,P.underlying t with
  |.int k,Z (.int k')=>k==k'
  |.bool,Z .bool=>M
  |.str,Z .string=>M
  |.sl g,Z (.slice e)=>AJ P n g e&&ax (P.cellsOf e) g.size&&eQ 0 g.size
  |.st g,Z (.struct fs)=>Yh P (AJ P n) fs.toList 0 g&&ax (P.cellsOf t) g.size
  |.st g,Z (.array m e)=>Sg P (AJ P n) e m g&&ax (P.cellsOf t) g.size
  |_,_=>aa
def UL:(T:Ty)->T.den->Prop
 |.int k,n=>(Lit.int k n).wf=M
 |.str,s=>ah s<=maxLen
 |.sl g,xs=>ah xs<=maxLen/\∀x∈(xs:Y g.den),UL g x
 |.st t,v=>UL t v
 |.pr a b,v=>UL a v.1/\UL b v.2
 |_,_=>True
def J7 (W:World) (T:Ty) (x:T.den) (cs:ξ):Prop:=cs.length=T.size/\∀(j:Nat) y v,(bQ T x)[j]? =Z y->cs[j]? =Z v->mA (λ_=>False) W y v
theorem JJ {α:Type} (z:α) (P:Nat->α->Prop):∀n:Nat,(∀i,i<n->∃a,P i a)->∃l:Y α,l.length=n/\∀i x,l[i]? =Z x->P i x
 |0,_=>⟨[],rfl,λi x h=>by simp at h⟩
 |n+1,h=>by
  obtain⟨l,hl,hp⟩:=JJ z P n (λi hi=>h i (by omega));obtain⟨a,q⟩:=h n (by omega);refine ⟨l++[a],by simp[hl],λi x d=>?_⟩;by_cases hi:i<l.length
  .rw[bV hi]at d;exact hp i x d
  .rw[ca (by omega)]at d;by_cases h0:i-l.length=0
   .rw[h0]at d;simp at d;subst d;rw[show i=n from by omega];exact q
   .rw[bK (by simp;omega)]at d;cases d
theorem Addr.add_plain {a:Addr} (h:a.spot=U) (n:Nat):a.add n=⟨a.block,a.off+n,U⟩:=by
 unfold Addr.add;split
 .rename_i h0;subst h0;cases a;simp at h;subst h;rfl
 .rfl
theorem W_ {w:World} {a:Addr} {v:Value} (h:w.cell? a=Z v):a.spot=U:=by
 unfold MW at h;split at h
 .split at h
  .cases h
  .rename_i hs;cases hh:a.spot with
   |none=>rfl
   |some _=>simp[hh]at hs
 .cases h
theorem J7.sub {W:World} {T:Ty} {x:T.den} {cs:ξ} {off n:Nat} (h:J7 W T x ((cs.drop off).take n)) (hn:n=T.size) (hl:off+n<=cs.length):∀(j:Nat) y v,(bQ T x)[j]? =Z y->cs[off+j]? =Z v->mA (λ_=>False) W y v:=λj y v d hv=>by
 refine h.2 j y v d ?_;have hj:j<T.size:=by have:=(bo.1 d).1;rwa [bC]at this
 rw[cC,aW (by omega),gW];exact hv
section
variable {H:Type} {enc:TypeId×Value->H} {P:Program} {W:World} {base:Nat} {sp:Nat->Bool} {hd:Bool}
theorem U1 {f:Ty->TypeId->Bool} {m:Nat} (s:∀(T:Ty) (t:TypeId) (cs:ξ) x,f T t=M->DataW.trod enc P W base sp hd m t cs=Z x->∃v,J7 W T v cs/\UL T v) (cs:ξ) (ts:Y (DataW H×Y MemPlace)):
 ∀(fs:Y Field) (off k:Nat) (T:Ty),Yh P f fs off T=M->off+T.size<=cs.length->(∀(i:Nat) (fl:Field),fs[i]? =Z fl->∃z,DataW.trod enc P W base sp hd m fl.type ((cs.drop fl.offset).take (P.cellsOf fl.type))=Z z)->
 ∃v,(∀(j:Nat) y u,(bQ T v)[j]? =Z y->cs[off+j]? =Z u->mA (λ_=>False) W y u)/\UL T v
 |[],off,k,.un,_,_,_=>⟨(),λj y u d=>by simp[bQ]at d,trivial⟩
 |[x],off,k,T,h,hl,hg=>by
  simp only[Yh,ak]at h;obtain⟨⟨h1,h2⟩,q⟩:=h;have h1:=au h1;have q:=au q;obtain⟨z,A⟩:=hg 0 x rfl;obtain⟨v,hv,F⟩:=s T _ _ _ h2 A;rw[h1]at hv;exact⟨v,hv.sub q (by omega),F⟩
 |x::L::r,off,k,.pr a b,h,hl,hg=>by
  simp only[Yh,ak]at h;obtain⟨⟨⟨h1,h2⟩,q⟩,h4⟩:=h;have h1:=au h1;have q:=au q;simp only[Ty.size]at hl;obtain⟨z,A⟩:=hg 0 x rfl;obtain⟨v,hv,F⟩:=s a _ _ _ h2 A;rw[h1]at hv;have hv:=hv.sub q (by omega);obtain⟨v',I,D⟩:=U1 s cs ts (L::r) (off+a.size) (k+1) b h4 (by omega) (λi fl hi=>hg (i+1) fl (by simpa using hi));refine ⟨(v,v'),λj y u d hu=>?_,F,D⟩;simp only[bQ]at d;by_cases hj:j<a.size
  .rw[bV (by rw[bC];exact hj)]at d;exact hv j y u d hu
  .rw[ca (by rw[bC];omega),bC]at d;exact I _ y u d (by rw[show off+a.size+(j-a.size)=off+j from by omega];exact hu)
theorem U2 {f:Ty->TypeId->Bool} {m:Nat} {e:TypeId} (q:∀(T:Ty) (t:TypeId) (cs:ξ) x,f T t=M->DataW.trod enc P W base sp hd m t cs=Z x->∃v,J7 W T v cs/\UL T v) (cs:ξ):
 ∀(n i:Nat) (T:Ty),Sg P f e n T=M->i*P.cellsOf e+T.size<=cs.length->(∀j,j<n->∃z,DataW.trod enc P W base sp hd m e ((cs.drop ((i+j)*P.cellsOf e)).take (P.cellsOf e))=Z z)->
 ∃v,(∀(j:Nat) y u,(bQ T v)[j]? =Z y->cs[i*P.cellsOf e+j]? =Z u->mA (λ_=>False) W y u)/\UL T v
 |0,i,T,h,_,_=>by unfold Sg at h;cases h
 |1,i,T,h,hl,hg=>by
  simp only[Sg,ak]at h;have I:=au h.2;obtain⟨z,s⟩:=hg 0 (by omega);obtain⟨v,hv,D⟩:=q T _ _ _ h.1 s;rw[dc]at hv;exact⟨v,hv.sub I (by omega),D⟩
 |n+2,i,T,h,hl,hg=>by
  cases T with
  |pr a b=>
   simp only[Sg,ak]at h;obtain⟨⟨h1,h2⟩,h4⟩:=h;have I:=au h2;simp only[Ty.size]at hl;obtain⟨z,s⟩:=hg 0 (by omega);obtain⟨v,hv,D⟩:=q a _ _ _ h1 s;rw[dc]at hv;have hv:=hv.sub I (by omega);obtain⟨L,F,A⟩:=U2 q cs (n+1) (i+1) b h4 (by rw[MX,Nat.one_mul];omega) (λj hj=>by have:=hg (j+1) (by omega);rwa [show i+(j+1)=i+1+j from by omega]at this);refine ⟨(v,L),λj y u d hu=>?_,D,A⟩;simp only[bQ]at d;by_cases hj:j<a.size
   .rw[bV (by rw[bC];exact hj)]at d;exact hv j y u d hu
   .rw[ca (by rw[bC];omega),bC]at d;exact F _ y u d (by rw[MX,Nat.one_mul,show i*P.cellsOf e+P.cellsOf e+(j-a.size)=i*P.cellsOf e+j from by omega];exact hu)
  |_=>unfold Sg at h;cases h
theorem G4:∀(n:Nat) (T:Ty) (t:TypeId) (fuel:Nat) (cs:ξ) x,AJ P n T t=M->(∀b,sp b=M)->DataW.trod enc P W base sp hd fuel t cs=Z x->∃v,J7 W T v cs/\UL T v
 |0,_,_,_,_,_,h,_,_=>by unfold AJ at h;cases h
 |n+1,T,t,fuel,cs,x,h,hsp,ht=>by
  unfold AJ at h;split at h
  .rename_i k k' hu;have hk:=eq_of_beq h;subst hk;obtain⟨m,rfl,_,z⟩:=DataW.trod_int hu ht;refine ⟨m,⟨rfl,λj y v d hv=>?_⟩,z⟩;cases j with
   |zero=>simp[bQ]at d hv;subst d hv;exact .raw _
   |succ j=>simp[bQ]at d
  .rename_i hu;obtain⟨b,rfl,_⟩:=DataW.trod_bool hu ht;refine ⟨b,⟨rfl,λj y v d hv=>?_⟩,trivial⟩;cases j with
   |zero=>simp[bQ]at d hv;subst d hv;exact .raw _
   |succ j=>simp[bQ]at d
  .rename_i hu;obtain⟨s,rfl,_,hs⟩:=DataW.trod_string hu ht;refine ⟨s.data.toList,⟨rfl,λj y v d hv=>?_⟩,by simpa[UL] using hs⟩;cases j with
   |zero=>simp[bQ]at d hv;subst d hv;exact .raw _
   |succ j=>simp[bQ]at d
  .rename_i g e hu;simp only[ak]at h;obtain⟨⟨h1,h2⟩,h3⟩:=h;have h2:=au h2;have h3:0<g.size:=bc h3;rcases Go.Deep.open_slice hu ht with ⟨rfl,_⟩|⟨a,len,cap,m,k,D,Pl,rfl,hb,hl,hm,hmm,_,hi⟩
   .refine ⟨[],⟨rfl,λj y v d hv=>?_⟩,by simp[UL]⟩;cases j with
    |zero=>simp[bQ]at d hv;subst d hv;exact .nil _ _ (by unfold maxLen;omega)
    |succ j=>simp[bQ]at d
   .rw[hsp,aW rfl]at hmm;rw[h2]at hi;obtain⟨xs,hx1,F⟩:=JJ g.zero (λi (v:g.den)=>∃cs',W.cells? base (a.add (i*g.size)) g.size=Z cs'/\J7 W g v cs'/\UL g v) len (λi hil=>by
     obtain⟨cs',hc,htt⟩:=hi i (by omega);obtain⟨v,hv,z⟩:=G4 n g e k cs' _ h1 hsp htt;exact⟨v,cs',hc,hv,z⟩)
    refine ⟨xs,⟨rfl,λj y v d hv=>?_⟩,by show ah xs<=maxLen;omega,λy d=>?_⟩
    .cases j with
     |succ j=>simp[bQ]at d
     |zero=>
      simp[bQ]at d hv;subst d hv;by_cases h0:len=0
      .have:xs=[]:=jq.1 (by omega);subst this;subst h0;exact .nil _ _ hm
      .obtain⟨x0,hx0⟩:∃x0,xs[0]? =Z x0:=⟨xs[0]'(by omega),aw (by omega)⟩
       obtain⟨cs0,hc0,_⟩:=F 0 x0 hx0;obtain⟨_,hcl0,hat0⟩:=World.cells?_some hc0;have hca:=hat0 0 h3;rw[aw (by omega)]at hca;have hspot:a.spot=U:=by
        have:=W_ hca;simpa[Addr.add] using this
       have hblk:=World.block_lt_of_cell? W _ hca;rw[Nat.zero_mul,Addr.add_plain hspot,Addr.add_plain rfl]at hca hblk;have hcell:∀(i j:Nat) x,xs[i]? =Z x->j<g.size->∃cs',W.cell? ⟨a.block,a.off+(i*g.size+j),U⟩=cs'[j]? /\j<cs'.length/\J7 W g x cs':=λi j x I hj=>by
        obtain⟨cs',hc,hr,_⟩:=F i x I;obtain⟨_,hcl,hat⟩:=World.cells?_some hc;have:=hat j hj;rw[Addr.add_plain hspot,Addr.add_plain rfl,wg]at this;exact⟨cs',this,by omega,hr⟩
       have hflat:∀j,j<xs.length*g.size->∃x,xs[j/g.size]? =Z x/\j%g.size<g.size/\j=j/g.size*g.size+j%g.size:=λj hj=>by
        have h5:j/g.size<xs.length:=Nat.div_lt_of_lt_mul (by rw[GZ];exact hj);exact⟨xs[j/g.size],aw h5,Nat.mod_lt _ h3,by rw[GZ];exact (Nat.div_add_mod j g.size).symm⟩
       have hlen:(List.flatMap (bQ g) xs).length=xs.length*g.size:=eH (bC g) xs;obtain⟨ab,ao,az⟩:=a;cases hspot;rw[<- hx1];refine .sl (List.flatMap (bQ g) xs) xs.length cap ab ao (λj=>(W.cell? ⟨ab,ao+j,U⟩).getD undef) (by omega) hm (λh=>h) hblk (rf g xs) (λj hj=>?_) (λj y d=>?_)
       .obtain⟨x,I,hjs,hje⟩:=hflat j (by omega);obtain⟨cs',L,g2,_⟩:=hcell _ _ x I hjs;rw[<- hje]at L;simp only[L,aw g2,uo]
       .have hj:j<xs.length*g.size:=by rw[<- hlen];exact (bo.1 d).1
        obtain⟨x,I,hjs,hje⟩:=hflat j hj;obtain⟨cs',L,g2,g3⟩:=hcell _ _ x I hjs;rw[<- hje]at L;simp only[L];rw[aw g2];refine g3.2 (j%g.size) y _ ?_ (aw g2);obtain⟨r,hr⟩:=D3 (bC g) xs (j/g.size) x I;have:((List.flatMap (bQ g) xs).drop (j/g.size*g.size))[j%g.size]? =Z y:=by rw[gW,<-hje];exact d
        rw[hr,bV (by rw[bC];exact hjs)]at this;exact this
    .obtain⟨i,A⟩:=eS d;obtain⟨_,_,_,z⟩:=F i y A;exact z
  .rename_i g fs hu;simp only[ak]at h;have h2:=au h.2;obtain⟨xs,m,rfl,_,hl,hxl,hg⟩:=DataW.trod_struct hu ht;obtain⟨v,hv,z⟩:=U1 (f:=AJ P n) (m:=m) (λT t cs x h1 h2=>G4 n T t m cs x h1 hsp h2) cs xs fs.toList 0 0 g h.1 (by omega) (λi fl hi=>by
    have A:fs[i]? =Z fl:=by simpa using hi
    have:=hg i fl A;have hlt:i<xs.length:=by rw[hxl];exact (cr.1 A).1
    rw[aw hlt]at this;exact⟨_,this⟩)
   exact⟨v,⟨by rw[hl,h2];rfl,λj y u d hu=>hv j y u d (by rw[bM];exact hu)⟩,z⟩
  .rename_i g m e hu;simp only[ak]at h;have h2:=au h.2;obtain⟨xs,q,rfl,_,hl,hxl,hg⟩:=DataW.trod_array hu ht;obtain⟨v,hv,z⟩:=U2 (f:=AJ P n) (m:=q) (λT t cs x h1 h2=>G4 n T t q cs x h1 hsp h2) cs m 0 g h.1 (by omega) (λj hj=>by
    have:=hg j hj;rw[aw (by omega)]at this;rw[bM];exact⟨_,this⟩)
   exact⟨v,⟨by rw[hl,h2];rfl,λj y u d hu=>hv j y u d (by rw[Nat.zero_mul,bM];exact hu)⟩,z⟩
  .cases h
theorem Pc {n:Nat} {T:Ty} {t:TypeId} {v:Value} {r:Reach} {bs:Nat} (d:AJ P n T t=M) (h1:T.one=M) (h:GU P W r bs t v):v.cells.toList=[v]:=by
 cases n with
 |zero=>unfold AJ at d;cases d
 |succ n=>
  unfold AJ at d;unfold GU at h;cases v with
  |agg cs=>
   exfalso;split at d<;>rename_i hu<;>first|(rw [hu]at h;simp only[]at h;unfold Cell.okWide at h;rw[hu]at h;unfold Cell.ok at h;rw[hu]at h;simp at h)|cases h1|cases d
  |_=>rfl
theorem Su {n:Nat} {T:Ty} {t:TypeId} {v:Value} {r:Reach} {bs:Nat} (d:AJ P n T t=M) (h1:T.one=aa) (h:GU P W r bs t v):∃cs,v= .agg cs:=by
 cases n with
 |zero=>unfold AJ at d;cases d
 |succ n=>
  unfold AJ at d;unfold GU at h;split at d<;>rename_i hu<;>first|(rw [hu]at h;obtain⟨cs,h,_⟩:=h;exact⟨cs,h⟩)|cases h1|cases d
theorem open_arg {n:Nat} {T:Ty} {t:TypeId} {v:Value} {d:DataW H} {ps:Y MemPlace} {r:Reach} {bs:Nat} (s:AJ P n T t=M) (hsp:∀b,sp b=M) (hok:GU P W r bs t v) (h:DataW.Trod enc P W base sp hd t v d ps):∃x,mA (λ_=>False) W (gi T x) v/\UL T x:=by
 obtain⟨fuel,hf⟩:=h;obtain⟨x,q,A⟩:=G4 n T t fuel _ _ s hsp hf;refine ⟨x,?_,A⟩;by_cases h1:T.one=M
 .obtain⟨e1,e2⟩:=Cv T x h1;exact q.2 0 _ v (by rw[e1];rfl) (by rw[Pc s h1 hok];rfl)
 .obtain⟨cs,rfl⟩:=Su s (by simpa using h1) hok;rw[ql T x (by simpa using h1)];have hl:cs.toList.length=(bQ T x).length:=by rw[bC];exact q.1
  have:=mA.agg (O:=λ_=>False) (w:=W) (bQ T x) cs.toList hl (nS T x) (λj y u z hu=>q.2 j y u z hu);simpa using this
end
theorem XU {w:WT} {l:Y ET} (h:¬vi (w,l)):lO (w,l)=Z ([],12):=by
 obtain⟨⟨a,b⟩,e,hq⟩:=aal w l;have hb:¬b=0:=λg=>h (hq.1 g)
 refine b6 ?_;unfold lO tP aX bp ck bA iT bt bJ aY cM aB cw;exact aS e (bY (λ_=>ai rfl) λg=>(hb g).elim)
theorem aan (a b c:η) (at_ fi n:Int) (L:a.length<=9223372036854775807) (I:∀z∈a,0<=z/\z<=255) (hc:c.length<=9223372036854775807) (F:∀z∈c,0<=z/\z<=255) (h0:0<=at_/\at_<=255) (m:Int) (D:0<=m) (m1:m<=1000000):Ok (l9 ((a,b,c),m,at_,fi,n)) λ_=>True:=by
 unfold l9 aX bh bm bT cX cI cD dC gd bg mq bt bJ aY aB;refine ar (Oq a b c m D m1 L I hc F) ?_;rintro⟨w,l⟩ A;have hl:=A.len;dsimp only at hl;refine aE (λ_=>ai trivial) λs=>?_
 have s:¬(l.length:Int)=0:=s;have hj:0<=bu (ba .i64 at_) (aT l.length)/\bu (ba .i64 at_) (aT l.length)<(l.length:Int):=by
  rw[gI (by omega) (by omega)];exact⟨Int.tmod_nonneg _ h0.1,Int.tmod_lt_of_pos _ (by dsimp only[aj];omega)⟩
 dsimp only at hj ⊢;generalize bu (ba .i64 at_) (aT l.length)=j at hj ⊢;obtain⟨d,q⟩:=hj;have hls:=A.ls _ (bG (T:=tE) (xs:=l) (j:=j) d q);obtain⟨ls1,ls2⟩:=hls;refine aZ (by omega) (by omega) (vo s (aK d q ?_));refine aU (λ_=>True) ?_ λ_ _=>ai trivial
 refine aE (λ_=>aK d q (ai trivial)) λ_=>aE (λ_=>aK d q (ai trivial)) λ_=>aE (λ_=>aK d q (ai trivial)) λ_=>aE (λ_=>aK d q (ai trivial)) λ_=>aE (λ_=>aK d q (ai trivial)) λ_=>aE (λ_=>aK d q (aV ?_)) λ_=>aE (λ_=>aK d q (aV ?_)) λ_=>?_
 .exact aZ (by omega) (by omega) (aZ (by rw[c9];omega) (by omega) (aK d q (ai trivial)))
 .exact aZ (by omega) (by omega) (aZ (by rw[c9];omega) (by omega) (aK d q (ai trivial)))
 refine aU (λx=>x.2.2.2.2.2.2.2=l) (ai rfl) ?_;rintro⟨x1,x2,x3,x4,x5,x6,x7,x8⟩ e;dsimp only at e;subst e;refine aJ (λ_=>?_) λ_=>ai trivial
 have w1:ba .i64 (j+1)=j+1:=gI (by omega) (by omega);dsimp only;rw[w1];refine cR (cR (Na rfl (dv d (dv (by omega) (cR (dv (by omega) (dv (by omega) (aZ ?_ (by omega) (aJ (λ_=>ai trivial) λ_=>ai trivial)))))))));rw[cg,kF];omega
theorem Oi {z:Int} (h:(Lit.int .u8 z).wf=M):0<=z/\z<=255:=⟨bf (uc.1 h).1,bf (uc.1 h).2⟩
abbrev VR:Ty:=(.st (.pr ju (.pr ju (.sl aL))))
abbrev Yg0:=(η×(η)×(η)×(η)×(η)×(η)×(η)×(η)×(η)×(η)×(η)×η)
abbrev Xf:=(Γ×(Γ)×η)
def wL (it:zE) (x:η×η):J (Bool):=
 (it (Int) _ (λx1=>(bA x1 (gJ (aY x.1) (aY x.2)) (av (fy (x.1,x1)) λq=>(av (fy (x.2,x1)) λd=>(bA d q (aB aa) (cM (cw x1))))) (aB M))) 0)
def A_ (x:η×η):J (Bool):=wL @iter x
def po (x:η×η):J (Bool):=wL @gp x
def gL (x:Int):J (Bool):=
 (jn (ji 0 x (aB (fE x 4)) (aB aa)) λx1=>(Z x1))
def nl (x:Xf×(η)×Int):J (Xf×Bool):=
 (jn (α:=Bool×Xf×Int×Int×Int×Int) (av (gL x.2.2) λL=>(aF (!L) (aB (M,x.1,0,0,0,0)) (av (gL x.1.1.2) λI=>(aF (!I) (aB (M,x.1,0,0,0,0)) (av (gL x.1.2.1.2) λF=>(aB ((!F),x.1,0,0,0,0))))))) λx1=>(aF x1.1 (Z (((0,0),(0,0),([]:η)),aa)) (av (fy x.2) λq=>(bA 0 (aY x1.2.1.2.2) (bt (cO 0 (gJ (aY x1.2.1.2.2) (cw x.2.2))&&cO (gJ (aY x1.2.1.2.2) (cw x.2.2)) (gJ (aY x1.2.1.2.2) (cw x.2.2))&&be (aO (gJ (aY x1.2.1.2.2) (cw x.2.2))) 8) (ck (eZ x.2.2 (ah (Lm (aA (aO (gJ (aY x1.2.1.2.2) (cw x.2.2))) (0:Int)) x1.2.1.2.2))) (av (gM (x.2.1,x1.2.1.1)) λD=>(Z ((x1.2.1.1,x1.2.1.2.1,(ct (Lm (aA (aO (gJ (aY x1.2.1.2.2) (cw x.2.2))) (0:Int)) x1.2.1.2.2) x.2.2 q)),(!D)))))) (jn (bg x1.2.1.2.1.1 0 (aB (M,x1.2.1,x1.2.2,x1.2.1.1.1,x1.2.1.1.2,x1.2.1.2.1)) (av (gM (x.2.1,x1.2.1.2.1)) λA=>(aB (A,x1.2.1,x1.2.2,x1.2.1.1.1,x1.2.1.1.2,x1.2.1.2.1)))) λd=>(aF d.1 (av (gM (x.2.1,d.2.1.1)) λz=>(Z (((d.p3,d.p4),(q,x.2.2),([]:η)),(!z)))) (bt (cO 0 (ba .i64 ((gJ d.2.1.2.1.2 x.2.2)+1))&&cO (ba .i64 ((gJ d.2.1.2.1.2 x.2.2)+1)) (ba .i64 ((gJ d.2.1.2.1.2 x.2.2)+1))&&be (aO (ba .i64 ((gJ d.2.1.2.1.2 x.2.2)+1))) 8) (ck (eZ d.2.1.2.1.2 (ah (aA (aO (ba .i64 ((gJ d.2.1.2.1.2 x.2.2)+1))) (0:Int)))) (ck (eZ x.2.2 (ah (ct (aA (aO (ba .i64 ((gJ d.2.1.2.1.2 x.2.2)+1))) (0:Int)) d.2.1.2.1.2 d.2.1.2.1.1))) (av (gM (x.2.1,d.2.1.1)) λs=>(Z (((d.p3,d.p4),(0,0),(ct (ct (aA (aO (ba .i64 ((gJ d.2.1.2.1.2 x.2.2)+1))) (0:Int)) d.2.1.2.1.2 d.2.1.2.1.1) x.2.2 q)),(!s)))))))))))))
def lP (x:Xf×(η)×Int):J (Xf×Bool):=
 (jn (α:=Bool×Xf×Int×Int×Int×Int) (av (gL x.2.2) λF=>(aF (!F) (aB (M,x.1,0,0,0,0)) (av (gL x.1.1.2) λD=>(aF (!D) (aB (M,x.1,0,0,0,0)) (av (gL x.1.2.1.2) λA=>(aB ((!A),x.1,0,0,0,0))))))) λx1=>(aF x1.1 (Z (((0,0),(0,0),([]:η)),aa)) (jn (av (gM (x.2.1,x1.2.1.1)) λz=>(aF z (av (gM (x.2.1,x1.2.1.2.1)) λs=>(aF s (av (po (x1.2.1.2.2,x.2.1)) λq=>(aB (q,x1.2.2))) (aB (aa,x1.2.2)))) (aB (aa,x1.2.2)))) λI=>(av (fy x.2) λd=>(Z (((d,x.2.2),(0,0),([]:η)),(!I.1)))))))
def jx (x:fc×Y jY):J (η×(Y Xf)×Int):=
 (av (lO x) λy1=>(iT y1.2 0 (Z (([]:η),([]:Y Xf),y1.2)) (jn (α:=(fc×Y jY)×(η)×(η)×(η)×(η)×(η)×(η)×(η)×(η)×(η)×(η)×(η)×η) (iter (σ:=Int×(fc×Y jY)×(η)×(η)×(η)×(η)×(η)×(η)×(η)×(η)×(η)×(η)×(η)×η) (λz=>(bA z.1 (aY x.2) (jn (α:=(fc×Y jY)×(η)×(η)×(η)×(η)×(η)×(η)×(η)×(η)×(η)×(η)×(η)×η) (bJ gV x.2 z.1 λz5=>(jn (bg z5.2.1 3 (aB (M,z.2.1,z5,z.2.2)) (aB ((decide ((z5.2.1:Int)=4)),z.2.1,z5,z.2.2))) λd=>(aF d.1 (bg d.p2.p2 0 (bt (be (ah d.p3+ah ([z.1])) 8) (aB (d.2.1,(d.p3++([z.1])),d.q4))) (bg d.p2.p2 1 (bt (be (ah d.p4+ah ([z.1])) 8) (aB (d.2.1,d.p3,(d.p4++([z.1])),d.q5))) (bg d.p2.p2 2 (bt (be (ah d.p5+ah ([z.1])) 8) (aB (d.2.1,d.p3,d.p4,(d.p5++([z.1])),d.q6))) (bg d.p2.p2 3 (bt (be (ah d.p6+ah ([z.1])) 8) (aB (d.2.1,d.p3,d.p4,d.p5,(d.p6++([z.1])),d.q7))) (bg d.p2.p2 4 (bt (be (ah d.p7+ah ([z.1])) 8) (aB (d.2.1,d.p3,d.p4,d.p5,d.p6,(d.p7++([z.1])),d.q8))) (bg d.p2.p2 5 (bt (be (ah d.p8+ah ([z.1])) 8) (aB (d.2.1,d.p3,d.p4,d.p5,d.p6,d.p7,(d.p8++([z.1])),d.q9))) (bg d.p2.p2 6 (bt (be (ah d.p9+ah ([z.1])) 8) (aB (d.2.1,d.p3,d.p4,d.p5,d.p6,d.p7,d.p8,(d.p9++([z.1])),d.q10))) (bg d.p2.p2 7 (bt (be (ah d.p10+ah ([z.1])) 8) (aB (d.2.1,d.p3,d.p4,d.p5,d.p6,d.p7,d.p8,d.p9,(d.p10++([z.1])),d.q11))) (bg d.p2.p2 8 (bt (be (ah d.p11+ah ([z.1])) 8) (aB (d.2.1,d.p3,d.p4,d.p5,d.p6,d.p7,d.p8,d.p9,d.p10,(d.p11++([z.1])),d.q12))) (bg d.p2.p2 9 (bt (be (ah d.p12+ah ([z.1])) 8) (aB (d.2.1,d.p3,d.p4,d.p5,d.p6,d.p7,d.p8,d.p9,d.p10,d.p11,(d.p12++([z.1])),d.q13))) (bg d.p2.p2 10 (bt (be (ah d.p13+ah ([z.1])) 8) (aB (d.2.1,d.p3,d.p4,d.p5,d.p6,d.p7,d.p8,d.p9,d.p10,d.p11,d.p12,(d.p13++([z.1])),d.q14))) (bg d.p2.p2 11 (bt (be (ah d.q14+ah ([z.1])) 8) (aB (d.2.1,d.p3,d.p4,d.p5,d.p6,d.p7,d.p8,d.p9,d.p10,d.p11,d.p12,d.p13,(d.q14++([z.1]))))) U)))))))))))) (aB (d.2.1,d.q3))))) λx4=>(cM ((cw z.1),x4))) (aB (bZ z.2)))) (0,x,([]:η),([]:η),([]:η),([]:η),([]:η),([]:η),([]:η),([]:η),([]:η),([]:η),([]:η),([]:η))) λx2=>(bt (cO 0 (aY x2.1.1.1)&&cO (aY x2.1.1.1) (aY x2.1.1.1)&&be (aO (aY x2.1.1.1)) 8) (bt (cO 0 (aY x2.1.1.1)&&cO (aY x2.1.1.1) (aY x2.1.1.1)&&be (aO (aY x2.1.1.1)) 56) (iter (σ:=Int×(fc×Y jY)×Yg0×(η)×Y Xf) (λq=>(bA q.1 (aY x2.1.1.1) (jn (α:=(fc×Y jY)×Yg0×(η)×Y Xf) (bJ kJ x2.1.1.1 q.1 λz9=>(ck (eZ q.1 (ah q.p3)) (aF z9.p3 (aB (q.2.1,q.p2,(ct q.p3 q.1 (-1)),q.q4)) (jn (α:=(η×Int×Int)×(fc×Y jY)×Yg0×(η)×Y Xf) (bg q.1 0 (aB ((q.p2.1,(aY q.p2.1),0),q.2.1,q.p2,(ct q.p3 q.1 (-1)),q.q4)) (bg q.1 1 (aB ((q.p2.2.1,(aY q.p2.2.1),0),q.2.1,q.p2,(ct q.p3 q.1 (-1)),q.q4)) (bg q.1 2 (aB ((q.p2.p2,(aY q.p2.p2),0),q.2.1,q.p2,(ct q.p3 q.1 (-1)),q.q4)) (bg q.1 3 (aB ((q.p2.p3,(aY q.p2.p3),0),q.2.1,q.p2,(ct q.p3 q.1 (-1)),q.q4)) (bg q.1 4 (aB ((q.p2.p4,(aY q.p2.p4),0),q.2.1,q.p2,(ct q.p3 q.1 (-1)),q.q4)) (bg q.1 5 (aB ((q.p2.p5,(aY q.p2.p5),0),q.2.1,q.p2,(ct q.p3 q.1 (-1)),q.q4)) (bg q.1 6 (aB ((q.p2.p6,(aY q.p2.p6),0),q.2.1,q.p2,(ct q.p3 q.1 (-1)),q.q4)) (bg q.1 7 (aB ((q.p2.p7,(aY q.p2.p7),0),q.2.1,q.p2,(ct q.p3 q.1 (-1)),q.q4)) (bg q.1 8 (aB ((q.p2.p8,(aY q.p2.p8),0),q.2.1,q.p2,(ct q.p3 q.1 (-1)),q.q4)) (bg q.1 9 (aB ((q.p2.p9,(aY q.p2.p9),0),q.2.1,q.p2,(ct q.p3 q.1 (-1)),q.q4)) (bg q.1 10 (aB ((q.p2.p10,(aY q.p2.p10),0),q.2.1,q.p2,(ct q.p3 q.1 (-1)),q.q4)) (bg q.1 11 (aB ((q.p2.q11,(aY q.p2.q11),0),q.2.1,q.p2,(ct q.p3 q.1 (-1)),q.q4)) U)))))))))))) λI=>(iter (σ:=Int×(fc×Y jY)×Yg0×(η)×Y Xf) (λs=>(bA s.1 I.1.2.1 (jn (bJ aL I.1.1 s.1 λD=>(jn (bJ gV s.2.1.2 D λL=>(bg L.2.1 3 (kM VR s.q4 q.1 λz16=>(bJ (.sl aL) y1.1 D λz17=>(av (nl (z16,z17,L.1)) λy18=>(ck (eZ q.1 (ah s.q4)) (aB (y18.2,s.2.1,s.p2,s.p3,(ct s.q4 q.1 y18.1))))))) (kM VR s.q4 q.1 λz19=>(bJ (.sl aL) y1.1 D λz20=>(av (lP (z19,z20,L.1)) λy21=>(ck (eZ q.1 (ah s.q4)) (aB (y21.2,s.2.1,s.p2,s.p3,(ct s.q4 q.1 y21.1))))))))) λF=>(jn (aF F.1 (kM aL F.p3 q.1 λz23=>(aB ((fE z23 0),F.2))) (aB (aa,F.2))) λA=>(aF A.1 (ck (eZ q.1 (ah A.p3)) (aB (A.2.1,A.p2,(ct A.p3 q.1 D),A.q4))) (aB A.2))))) λx12=>(cM ((cw s.1),x12))) (aB (bZ s.2)))) (I.1.2.2,I.2)))))) λx8=>(cM ((cw q.1),x8))) (aB (q.p3,q.q4,0)))) (0,x2.1,x2.2,(aA (aO (aY x2.1.1.1)) (0:Int)),(aA (aO (aY x2.1.1.1)) (((0,0),((0,0),[])):Γ×(Γ)×η)))))))))
def sP (x:fc×Y jY):J gU:=
 (av (jx x) λd=>(Z (d.1,d.2.2)))
def qd (x:fc×Y jY):J ((Y Xf)×Int):=
 (av (jx x) λd=>(Z d.2))
def qc (x:Unit):J (Bool):=
 (av (nl (((0,0),(0,0),([]:η)),[0,3],1)) λq=>(av (nl (q.1,[2,0],0)) λd=>(av (lP (d.1,[3,2],0)) λA=>(av (lP (d.1,[3,3],0)) λz=>(jn (α:=Bool) (aF (!q.2) (aF (!d.2) (aF A.2 (aF (!z.2) (aF (Ml (.pr aL (.pr aL .un)) (q.1.2.1.1,q.1.2.1.2,()) (3,1,()) !=aa) (av (Dy (d.1.2.2,[2,3])) λs=>(aF s (aB (decide (((aY d.1.2.2):Int)=2))) (aB aa))) (aB aa)) (aB aa)) (aB aa)) (aB aa)) (aB aa)) λD=>(Z D))))))
def kX (x:fc×Y jY):J (Bool):=
 (av (mV x) λs=>(av (sP x) λd=>(av (qd x) λq=>(bg s.2 0 (jn (bg d.2 0 (bg q.2 0 (aB (decide (((aY d.1):Int)=(aY x.1.1)))) (aB aa)) (aB aa)) λA=>(Z A)) (jn (bg d.2 12 (bg q.2 12 (bg (aY d.1) 0 (aB (decide (((aY q.1):Int)=0))) (aB aa)) (aB aa)) (aB aa)) λz=>(Z z))))))
def jm (x:(fc×Y jY)×(η×(η)×η)×Int×Int×Int):J (Bool):=
 (jn (bA 60 (aY x.1.2) (aB (M,x)) (bA 60 (ba .i64 ((ba .i64 ((ba .i64 ((ba .i64 ((aY x.1.1.1)+(aY x.1.1.2.1)))+(aY x.1.1.p2)))+(aY x.1.1.p3)))+(aY x.1.1.p4))) (aB (M,x)) (aB ((fE 300 (aY x.1.1.q5)),x)))) λx1=>(aF x1.1 (av (qc ()) λA=>(Z A)) (jn (α:=Bool) (av (kX x1.2.1) λz=>(aF z (av (l9 (x1.p2,30,x1.q3)) λs=>(av (kX s) λq=>(aF q (av (qc ()) λd=>(aB d)) (aB aa)))) (aB aa))) λD=>(Z D))))
abbrev ShT:Type:=(Γ)×(Γ)×η
structure X7 (s:ShT):Prop where
 a0:0<=s.1.2
 a1:s.1.2<4
 b0:0<=s.2.1.2
 b1:s.2.1.2<4
 len:s.2.2.length<=4
theorem qM (t:Int):Ok (gL t) λb=>b=M↔0<=t/\t<4:=by
 unfold gL ji aB;refine aU (λb=>b=M↔0<=t/\t<4) (dV (λg=>ai ?_) λg=>ai ⟨λh=>(by cases h),λh=>(by omega)⟩) λ_ h=>ai h
 exact lQ.trans ⟨λh=>⟨g,h⟩,λh=>h.2⟩
theorem Kg (c:η) (t:Int):Ok (fy (c,t)) λ_=>True:=by
 unfold fy bA mq aY aB;refine aU (λb=>b=aa->0<=t/\t<c.length) (aQ (λ_=>ai λh=>(by cases h)) λg=>ai λh=>⟨g,?_⟩) ?_
 .rw[ko]at h;exact h
 intro b hb;exact aJ (λ_=>ai trivial) λh=>aK (hb h).1 (hb h).2 (ai trivial)
theorem zF (c:η) (e:Γ):Ok (gM (c,e)) λ_=>True:=by
 unfold gM;exact ar (Kg _ _) λ_ _=>ai trivial
theorem ada (a c:η) (d:a.length<=1000) (hc:c.length<=1000):Ok (po (a,c)) λ_=>True:=by
 unfold po wL bA aY cM aB cw;refine eB (max a.length c.length) (by omega) (λi x=>x=(i:Int)) ?_ ?_ rfl
 .rintro i x hi rfl;simp only[tK];exact ic (ar (Kg _ _) λ_ _=>ar (Kg _ _) λ_ _=>aQ (λ_=>ai trivial) λ_=>ai (fo (by omega)))
 .rintro x rfl;simp only[tK];exact gP (ai trivial)
theorem imx {a b:Int} {n:Int} (d:0<=a/\a<=n) (hb:0<=b/\b<=n):0<=gJ a b/\gJ a b<=n/\a<=gJ a b/\b<=gJ a b:=by
 rw[vG];omega
theorem mks {R:Type} {m:Int} {b:Nat} {k:J R} {Q:R->Prop} (h0:0<=m) (h1:m<=1000) (hb:b<=1024) (hk:Ok k Q):Ok (chk (cO 0 m&&cO m m&&be (aO m) b) λ_=>k) Q:=
 cR (cR (dv h0 (dv (fb _) (aZ (by omega) hb hk))))
theorem aco (a b:η):(Lm a b).length=a.length:=by unfold Lm;simp;omega
theorem Z9 {s:ShT} (h:X7 s) (c:η) {t:Int} (t0:0<=t) (D:t<4):Ok (nl (s,c,t)) λy=>X7 y.1:=by
 obtain⟨⟨s1,s2⟩,⟨z,s4⟩,d⟩:=s;obtain⟨h1,h2,q,A,h5⟩:=h;dsimp only at h1 h2 q A h5;unfold nl bh bm ck bg bA bt aY aB cw;refine aU (λx=>x.1=aa/\x.2.1=((s1,s2),(z,s4),d)) ?_ ?_
 .refine ar (qM _) λb1 g1=>?_
  rw[show b1=M from g1.2 ⟨t0,D⟩];refine fw (ar (qM _) λb2 g2=>?_);rw[show b2=M from g2.2 ⟨h1,h2⟩];refine fw (ar (qM _) λb3 g3=>?_);rw[show b3=M from g3.2 ⟨q,A⟩];exact ai ⟨rfl,rfl⟩
 rintro⟨x1,x2,I⟩ ⟨e1,e2⟩;dsimp only at e1 e2;subst e1;subst e2;refine fw (ar (Kg _ _) λy5 _=>aQ (λg=>?_) λg=>?_)
 .dsimp only[aj]at g ⊢;have L:ba .i64 (t+1)=t+1:=gI (by omega) (by omega);have hi:=imx (a:=(d.length:Int)) (b:=t+1) (n:=4) ⟨by omega,by omega⟩ ⟨by omega,by omega⟩;rw[L];generalize gJ (d.length:Int) (t+1)=m at hi ⊢;refine mks hi.1 (by omega) (by omega) ?_;have hln:(Lm (aA (aO m) (0:Int)) d).length=aO m:=by rw[aco,cB]
  refine aK t0 (by rw[hln];omega) (aK t0 (by rw[hln];omega) (ar (zF _ _) λ_ _=>ai ⟨h1,h2,q,A,?_⟩));dsimp only;rw[cu,hln];omega
 .refine aU (λx=>x.2.1=((s1,s2),(z,s4),d)/\x.2.2.2=(s1,s2,z,s4)) ?_ ?_
  .exact aE (λ_=>ai ⟨rfl,rfl⟩) λ_=>ar (zF _ _) λ_ _=>ai ⟨rfl,rfl⟩
  rintro⟨x1,x2,I,x4⟩ ⟨e1,e2⟩;dsimp only at e1 e2;subst e1;subst e2;refine aJ (λ_=>ar (zF _ _) λ_ _=>ai ⟨h1,h2,t0,D,by simp⟩) λ_=>?_
  have hi:=imx (a:=s4) (b:=t) (n:=3) ⟨q,by omega⟩ ⟨t0,by omega⟩;dsimp only;generalize gJ s4 t=m at hi ⊢;rw[gI (n:=m+1) (by omega) (by omega)];refine mks (by omega) (by omega) (by omega) ?_;have hk:∀{R:Type} {k:J R} {Q:R->Prop} {l:η} {j:Int},l.length=aO (m+1)->0<=j->j<=m->Ok k Q->Ok (chk (eZ j l.length) λ_=>chk (eZ j l.length) λ_=>k) Q:=λhl F j1 h=>aK F (by omega) (aK F (by omega) h)
  refine hk (by simp) q hi.2.2.1 (hk (by rw[cu];simp) t0 hi.2.2.2 (ar (zF _ _) λ_ _=>ai ⟨h1,h2,fb 0,(show (0:Int)<4 by decide),?_⟩));dsimp only;rw[cu,cu,cB];omega
theorem Xi {s:ShT} (h:X7 s) (c:η) (hc:c.length<=1000) {t:Int} (t0:0<=t) (d:t<4):Ok (lP (s,c,t)) λy=>X7 y.1:=by
 obtain⟨⟨s1,s2⟩,⟨D,s4⟩,A⟩:=s;obtain⟨h1,h2,z,q,F⟩:=h;dsimp only at h1 h2 z q F;unfold lP aB;refine aU (λx=>x.1=aa/\x.2.1=((s1,s2),(D,s4),A)) ?_ ?_
 .refine ar (qM _) λb1 g1=>?_
  rw[show b1=M from g1.2 ⟨t0,d⟩];refine fw (ar (qM _) λb2 L=>?_);rw[show b2=M from L.2 ⟨h1,h2⟩];refine fw (ar (qM _) λb3 I=>?_);rw[show b3=M from I.2 ⟨z,q⟩];exact ai ⟨rfl,rfl⟩
 rintro⟨x1,x2,x3⟩ ⟨e1,e2⟩;dsimp only at e1 e2;subst e1;subst e2;refine fw (aU (λ_=>True) ?_ λ_ _=>ar (Kg _ _) λ_ _=>ai ⟨t0,d,fb 0,(show (0:Int)<4 by decide),by simp⟩);exact ar (zF _ _) λ_ _=>aJ (λ_=>ar (zF _ _) λ_ _=>aJ (λ_=>ar (ada _ _ (by dsimp only;omega) hc) λ_ _=>ai trivial) λ_=>ai trivial) λ_=>ai trivial
def AL (i:Nat) (a:η):Prop:=a.length<=i/\∀z∈a,0<=z/\z<(i:Int)
theorem AL.nil (i:Nat):AL i []:=⟨mM _,λz d=>(by cases d)⟩
theorem AL.up {i:Nat} {a:η} (h:AL i a):AL (i+1) a:=⟨by have:=h.1;omega,λz d=>⟨(h.2 z d).1,by have:=(h.2 z d).2;omega⟩⟩
theorem AL.put {i:Nat} {a:η} (h:AL i a):AL (i+1) (a++[(i:Int)]):=⟨by rw[b7];have:=h.1;simp;omega,λz d=>by
 rcases bP.1 d with d|d
 .exact h.up.2 z d
 .rw[aI]at d;subst d;exact⟨by omega,by omega⟩⟩
abbrev T12:Type:=η×η×η×η×η×η×η×η×η×η×η×η
def Ki (i:Nat) (t:T12):Prop:=AL i t.1/\AL i t.2.1/\AL i t.2.2.1/\AL i t.2.2.2.1/\AL i t.2.2.2.2.1/\AL i t.2.2.2.2.2.1/\AL i t.2.2.2.2.2.2.1/\AL i t.2.2.2.2.2.2.2.1/\AL i t.2.2.2.2.2.2.2.2.1/\AL i t.2.2.2.2.2.2.2.2.2.1/\AL i t.2.2.2.2.2.2.2.2.2.2.1/\AL i t.2.2.2.2.2.2.2.2.2.2.2
set_option maxHeartbeats 1000000 in
theorem Tq {w:WT} {l:Y ET} (tr:vi (w,l)):Ok (jx (w,l)) λy=>y.1.length=w.1.length/\y.2.2=0:=by
 have hl:=tr.len;have hc12:=tr.wb.c;dsimp only at hl hc12;unfold jx ua yZ Kk Prod.p13 aX bh bm bT cX gN rn um De Kj Prod.q12 Prod.q13 Prod.q14 bp cI cD dC gd lz GW ck bg bA iT bt bJ kM aY cM aB cw;refine aS (XV tr) (fw (aU (λx=>x.1=(w,l)/\Ki l.length x.2) ?_ ?_))
 .refine b9 l.length (λi x=>(x.1=(i:Int)/\x.2.1=(w,l))/\Ki i x.2.2) ?_ ?_ ⟨⟨rfl,rfl⟩,AL.nil _,AL.nil _,AL.nil _,AL.nil _,AL.nil _,AL.nil _,AL.nil _,AL.nil _,AL.nil _,AL.nil _,AL.nil _,AL.nil _⟩
  .rintro i ⟨x1,x2,a0,a1,a2,a3,a4,a5,a6,a7,a8,a9,a10,a11⟩ hi ⟨⟨e1,e2⟩,h0,h1,h2,h3,h4,h5,h6,h7,h8,h9,h10,h11⟩;dsimp only at e1 e2 h0 h1 h2 h3 h4 h5 h6 h7 h8 h9 h10 h11;subst e1;subst e2;have hev:X9 w (eN l i):=tr.ev _ (IZ hi);refine ic (aU (λx=>x.1=(w,l)/\Ki (i+1) x.2) (dW (aV ?_)) ?_)
   .have hg:aH (T:=tE) l (i:Int)=eN l i:=rfl;dsimp only;rw[hg];refine aU (λx=>x.2=((w,l),eN l i,a0,a1,a2,a3,a4,a5,a6,a7,a8,a9,a10,a11)/\(x.1=M->(eN l i).2.1=3\/(eN l i).2.1=4)) (aE (λg=>ai ⟨rfl,λ_=>.inl g⟩) λ_=>ai ⟨rfl,λg=>.inr (bf g)⟩) ?_;rintro⟨b,x⟩ ⟨e,hb⟩;dsimp only at e hb;subst e;refine aJ (λh=>?_) λ_=>ai ⟨rfl,h0.up,h1.up,h2.up,h3.up,h4.up,h5.up,h6.up,h7.up,h8.up,h9.up,h10.up,h11.up⟩
    have hc:=hev.nm.ce (hb h);generalize (eN l i).2.2.1=o at hc;have rm:∀a:η,AL i a->a.length+[(i:Int)].length<=1073741824:=λa h=>by have:=h.1;rw[c9];omega
    refine aE (λ_=>aZ (rm _ h0) (by omega) (ai ⟨rfl,h0.put,h1.up,h2.up,h3.up,h4.up,h5.up,h6.up,h7.up,h8.up,h9.up,h10.up,h11.up⟩)) λg0=>aE (λ_=>aZ (rm _ h1) (by omega) (ai ⟨rfl,h0.up,h1.put,h2.up,h3.up,h4.up,h5.up,h6.up,h7.up,h8.up,h9.up,h10.up,h11.up⟩)) λg1=>aE (λ_=>aZ (rm _ h2) (by omega) (ai ⟨rfl,h0.up,h1.up,h2.put,h3.up,h4.up,h5.up,h6.up,h7.up,h8.up,h9.up,h10.up,h11.up⟩)) λg2=>aE (λ_=>aZ (rm _ h3) (by omega) (ai ⟨rfl,h0.up,h1.up,h2.up,h3.put,h4.up,h5.up,h6.up,h7.up,h8.up,h9.up,h10.up,h11.up⟩)) λg3=>aE (λ_=>aZ (rm _ h4) (by omega) (ai ⟨rfl,h0.up,h1.up,h2.up,h3.up,h4.put,h5.up,h6.up,h7.up,h8.up,h9.up,h10.up,h11.up⟩)) λg4=>aE (λ_=>aZ (rm _ h5) (by omega) (ai ⟨rfl,h0.up,h1.up,h2.up,h3.up,h4.up,h5.put,h6.up,h7.up,h8.up,h9.up,h10.up,h11.up⟩)) λg5=>aE (λ_=>aZ (rm _ h6) (by omega) (ai ⟨rfl,h0.up,h1.up,h2.up,h3.up,h4.up,h5.up,h6.put,h7.up,h8.up,h9.up,h10.up,h11.up⟩)) λg6=>aE (λ_=>aZ (rm _ h7) (by omega) (ai ⟨rfl,h0.up,h1.up,h2.up,h3.up,h4.up,h5.up,h6.up,h7.put,h8.up,h9.up,h10.up,h11.up⟩)) λg7=>aE (λ_=>aZ (rm _ h8) (by omega) (ai ⟨rfl,h0.up,h1.up,h2.up,h3.up,h4.up,h5.up,h6.up,h7.up,h8.put,h9.up,h10.up,h11.up⟩)) λg8=>aE (λ_=>aZ (rm _ h9) (by omega) (ai ⟨rfl,h0.up,h1.up,h2.up,h3.up,h4.up,h5.up,h6.up,h7.up,h8.up,h9.put,h10.up,h11.up⟩)) λg9=>aE (λ_=>aZ (rm _ h10) (by omega) (ai ⟨rfl,h0.up,h1.up,h2.up,h3.up,h4.up,h5.up,h6.up,h7.up,h8.up,h9.up,h10.put,h11.up⟩)) λg10=>aE (λ_=>aZ (rm _ h11) (by omega) (ai ⟨rfl,h0.up,h1.up,h2.up,h3.up,h4.up,h5.up,h6.up,h7.up,h8.up,h9.up,h10.up,h11.put⟩)) λg11=>?_
    have g0:¬o=0:=g0;have g1:¬o=1:=g1;have g2:¬o=2:=g2;have g3:¬o=3:=g3;have g4:¬o=4:=g4;have g5:¬o=5:=g5;have g6:¬o=6:=g6;have g7:¬o=7:=g7;have g8:¬o=8:=g8;have g9:¬o=9:=g9;have g10:¬o=10:=g10;have g11:¬o=11:=g11;omega
   .rintro⟨x1,x2⟩ ⟨e1,h⟩;dsimp only at e1 h;subst e1;exact ai ⟨⟨fo (by omega),rfl⟩,h⟩
  .rintro⟨x1,x2,x3⟩ ⟨⟨e1,e2⟩,h⟩;dsimp only at e1 e2 h;subst e1;subst e2;exact gP (ai ⟨rfl,h⟩)
 rintro⟨x1,a0,a1,a2,a3,a4,a5,a6,a7,a8,a9,a10,a11⟩ ⟨e1,h0,h1,h2,h3,h4,h5,h6,h7,h8,h9,h10,h11⟩;dsimp only at e1 h0 h1 h2 h3 h4 h5 h6 h7 h8 h9 h10 h11;subst e1;refine mks (by dsimp only[aj];omega) (by dsimp only[aj];omega) (by omega) (mks (by dsimp only[aj];omega) (by dsimp only[aj];omega) (by omega) ?_);refine b9 w.1.length (λk x=>(x.1=(k:Int)/\x.2.1=(w,l)/\x.2.2.1=(a0,a1,a2,a3,a4,a5,a6,a7,a8,a9,a10,a11))/\(x.2.2.2.1.length=w.1.length/\x.2.2.2.2.length=w.1.length)/\∀s∈x.2.2.2.2,X7 s) ?_ ?_ ⟨⟨rfl,rfl,rfl⟩,⟨by simp,by simp⟩,λs hs=>by rw[wh hs];exact⟨by decide,by decide,by decide,by decide,by simp⟩⟩
 .rintro k ⟨x1,x2,x3,fi,sh⟩ hk ⟨⟨e1,e2,e3⟩,⟨q1,q2⟩,q3⟩;dsimp only at e1 e2 e3 q1 q2 q3;subst e1;subst e2;subst e3;have kk:∀{R T:Type} {m:J R} {Q:R->Prop} {y:Y T},y.length=w.1.length->Ok m Q->Ok (chk (eZ (k:Int) y.length) λ_=>chk (eZ (k:Int) y.length) λ_=>m) Q:=λe h=>aK (by omega) (by omega) (aK (by omega) (by omega) h)
  refine ic (aU (λx=>(x.1=(w,l)/\x.2.1=(a0,a1,a2,a3,a4,a5,a6,a7,a8,a9,a10,a11))/\(x.2.2.1.length=w.1.length/\x.2.2.2.length=w.1.length)/\∀s∈x.2.2.2,X7 s) ?_ ?_)
  .refine dW (aV (kk q1 (aJ (λ_=>ai ⟨⟨rfl,rfl⟩,⟨by dsimp only;rw[cu];exact q1,q2⟩,q3⟩) λ_=>?_)));refine aU (λx=>(∃a,x.1=(a,aT a.length,0)/\AL l.length a)/\x.2.1=(w,l)/\x.2.2.1=(a0,a1,a2,a3,a4,a5,a6,a7,a8,a9,a10,a11)/\x.2.2.2.1.length=w.1.length/\x.2.2.2.2=sh) ?_ ?_
   .have sl:(ct fi (k:Int) (-1)).length=w.1.length:=by rw[cu];exact q1
    refine aE (λ_=>ai ⟨⟨_,rfl,h0⟩,rfl,rfl,sl,rfl⟩) λg0=>aE (λ_=>ai ⟨⟨_,rfl,h1⟩,rfl,rfl,sl,rfl⟩) λg1=>aE (λ_=>ai ⟨⟨_,rfl,h2⟩,rfl,rfl,sl,rfl⟩) λg2=>aE (λ_=>ai ⟨⟨_,rfl,h3⟩,rfl,rfl,sl,rfl⟩) λg3=>aE (λ_=>ai ⟨⟨_,rfl,h4⟩,rfl,rfl,sl,rfl⟩) λg4=>aE (λ_=>ai ⟨⟨_,rfl,h5⟩,rfl,rfl,sl,rfl⟩) λg5=>aE (λ_=>ai ⟨⟨_,rfl,h6⟩,rfl,rfl,sl,rfl⟩) λg6=>aE (λ_=>ai ⟨⟨_,rfl,h7⟩,rfl,rfl,sl,rfl⟩) λg7=>aE (λ_=>ai ⟨⟨_,rfl,h8⟩,rfl,rfl,sl,rfl⟩) λg8=>aE (λ_=>ai ⟨⟨_,rfl,h9⟩,rfl,rfl,sl,rfl⟩) λg9=>aE (λ_=>ai ⟨⟨_,rfl,h10⟩,rfl,rfl,sl,rfl⟩) λg10=>aE (λ_=>ai ⟨⟨_,rfl,h11⟩,rfl,rfl,sl,rfl⟩) λg11=>?_
    have hk12:k<12:=by omega
    have g0:¬(k:Int)=0:=g0;have g1:¬(k:Int)=1:=g1;have g2:¬(k:Int)=2:=g2;have g3:¬(k:Int)=3:=g3;have g4:¬(k:Int)=4:=g4;have g5:¬(k:Int)=5:=g5;have g6:¬(k:Int)=6:=g6;have g7:¬(k:Int)=7:=g7;have g8:¬(k:Int)=8:=g8;have g9:¬(k:Int)=9:=g9;have g10:¬(k:Int)=10:=g10;have g11:¬(k:Int)=11:=g11;omega
   rintro⟨y1,y2,y3,y4,y5⟩ ⟨⟨a,e,ha⟩,f1,f2,f3,f4⟩;dsimp only at e f1 f2 f3 f4;subst e;subst f1;subst f2;subst f4;refine b9 a.length (λj x=>(x.1=(j:Int)/\x.2.1=(w,l)/\x.2.2.1=(a0,a1,a2,a3,a4,a5,a6,a7,a8,a9,a10,a11))/\(x.2.2.2.1.length=w.1.length/\x.2.2.2.2.length=w.1.length)/\∀s∈x.2.2.2.2,X7 s) ?_ ?_ ⟨⟨rfl,rfl,rfl⟩,⟨f3,q2⟩,q3⟩
   .rintro j ⟨x1,x2,x3,fi,sh⟩ hj ⟨⟨e1,e2,e3⟩,⟨r1,r2⟩,r3⟩;dsimp only at e1 e2 e3 r1 r2 r3;subst e1;subst e2;subst e3;have hz:=ha.2 _ (bG (T:=.int .i64) (xs:=a) (j:=(j:Int)) (by omega) (by omega));have haj:=ha.1;refine ic (aU (λx=>(x.1=(w,l)/\x.2.1=(a0,a1,a2,a3,a4,a5,a6,a7,a8,a9,a10,a11))/\(x.2.2.1.length=w.1.length/\x.2.2.2.length=w.1.length)/\∀s∈x.2.2.2,X7 s) ?_ ?_)
    .refine dW (aV ?_);obtain⟨z,hz'⟩:∃z:Int,aH (T:=.int .i64) a (j:Int)=z:=⟨_,rfl⟩
     have hz'':aH (T:=aL) a (j:Int)=z:=hz';dsimp only;rw[hz''];rw[hz']at hz;obtain⟨z,rfl⟩:∃n:Nat,z=(n:Int):=⟨z.toNat,(mi hz.1).symm⟩
     have hzl:z<l.length:=by have:=hz.2;omega
     have hev:X9 w (eN l z):=tr.ev _ (IZ hzl);have ht:=tr.wb.t;dsimp only at ht;have t0:=hev.t0;have t4:(eN l z).1<4:=by have:=hev.t1;omega
     refine aU (λx=>(x.2.1=(w,l)/\x.2.2.1=(a0,a1,a2,a3,a4,a5,a6,a7,a8,a9,a10,a11))/\(x.2.2.2.1.length=w.1.length/\x.2.2.2.2.length=w.1.length)/\∀s∈x.2.2.2.2,X7 s) ?_ ?_
     .refine dW (aV ?_);have hg:aH (T:=tE) l (z:Int)=eN l z:=rfl;have hg':aH (T:=gV) l (z:Int)=eN l z:=hg;try dsimp only
      rw[hg'];have hsh:X7 (aH (T:=VR) sh (k:Int)):=r3 _ (bG (T:=VR) (xs:=sh) (j:=(k:Int)) (by omega) (by omega));have hcl:(aH (T:=.sl (.int .i64)) (csN w l) (z:Int)).length<=1000:=by rw[Zs hzl];have:=(afn tr hzl).1;omega
      have upd:∀s,X7 s->∀q∈ct sh (k:Int) s,X7 q:=λs hs q hq=>by
       rcases xX hq with hq|rfl
       .exact r3 q hq
       .exact hs
      refine aE (λ_=>?_) λ_=>?_
      .refine kk r2 (aV (aK (by omega) (by rw[cz,lA];omega) (aV (ar (Z9 hsh _ t0 t4) λy hy=>kk r2 (ai ⟨⟨rfl,rfl⟩,⟨r1,?_⟩,upd _ hy⟩)))));dsimp only;rw[cu];exact r2
      .refine kk r2 (aV (aK (by omega) (by rw[cz,lA];omega) (aV (ar (Xi hsh _ hcl t0 t4) λy hy=>kk r2 (ai ⟨⟨rfl,rfl⟩,⟨r1,?_⟩,upd _ hy⟩)))));dsimp only;rw[cu];exact r2
     rintro⟨b,x2,x3,fi,sh⟩ ⟨⟨e2,e3⟩,⟨r1,r2⟩,r3⟩;dsimp only at e2 e3 r1 r2 r3;subst e2;subst e3;refine aU (λx=>x.2=((w,l),(a0,a1,a2,a3,a4,a5,a6,a7,a8,a9,a10,a11),fi,sh)) (aJ (λ_=>kk r1 (aV (ai rfl))) λ_=>ai rfl) ?_;rintro⟨b2,x⟩ e;dsimp only at e;subst e;refine aJ (λ_=>kk r1 (ai ⟨⟨rfl,rfl⟩,⟨by dsimp only;rw[cu];exact r1,r2⟩,r3⟩)) λ_=>ai ⟨⟨rfl,rfl⟩,⟨r1,r2⟩,r3⟩
    rintro⟨x2,x3,fi,sh⟩ ⟨⟨e2,e3⟩,hr⟩;dsimp only at e2 e3 hr;subst e2;subst e3;exact ai ⟨⟨fo (by omega),rfl,rfl⟩,hr⟩
   .rintro⟨x1,x2,x3,fi,sh⟩ ⟨⟨e1,e2,e3⟩,hr⟩;dsimp only at e1 e2 e3 hr;subst e1;subst e2;subst e3;exact gP (ai ⟨⟨rfl,rfl⟩,hr⟩)
  .rintro⟨x2,x3,fi,sh⟩ ⟨⟨e2,e3⟩,hr⟩;dsimp only at e2 e3 hr;subst e2;subst e3;exact ai ⟨⟨fo (by omega),rfl,rfl⟩,hr⟩
 .rintro⟨x1,x2,x3,fi,sh⟩ ⟨⟨e1,e2,e3⟩,hr⟩;dsimp only at e1 e2 e3 hr;subst e1;subst e2;subst e3;exact gP (ai ⟨hr.1.1,rfl⟩)
theorem Wy {w:WT} {l:Y ET} (h:¬vi (w,l)):jx (w,l)=Z ([],[],12):=by
 refine b6 ?_;unfold jx ua yZ Kk Prod.p13 aX bh bm bT cX gN rn um De Kj Prod.q12 Prod.q13 Prod.q14 bp cI cD dC gd lz GW ck bg bA iT bt bJ kM aY cM aB cw;exact aS (XU h) (eW rfl (ai rfl))
theorem LX (w:WT) (l:Y ET):kX (w,l)=Z M:=by
 refine b6 ?_;unfold kX sP qd bg aY aB;refine ar (aam w l) λy s=>?_
 by_cases h:vi (w,l)
 .obtain⟨z,e,q,d⟩:=Tq h;refine aS (x:=(z.1,z.2.2)) (by rw[e];rfl) (aS (x:=z.2) (by rw[e];rfl) (aE (λ_=>fP (aE (λ_=>aE (λ_=>ai (ai (bl ?_))) λg=>(g d).elim) λg=>(g d).elim)) λg=>(g (s.2 h)).elim));dsimp only;rw[q]
 .have e:=Wy h;exact aS (x:=([],12)) (by rw[e];rfl) (aS (x:=([],12)) (by rw[e];rfl) (aE (λg=>(h (s.1 g)).elim) λ_=>fP (aE (λ_=>aE (λ_=>aE (λ_=>ai (ai rfl)) λg=>(g rfl).elim) λg=>(g rfl).elim) λg=>(g rfl).elim)))
theorem Vy:qc ()=Z M:=by kernel_rfl
theorem Bw (t:WT×Y ET) (a b c:η) (at_ fi n:Int) (A:a.length<=9223372036854775807) (s:∀z∈a,0<=z/\z<=255) (hc:c.length<=9223372036854775807) (d:∀z∈c,0<=z/\z<=255) (h0:0<=at_/\at_<=255):Ok (jm (t,(a,b,c),at_,fi,n)) λy=>y=M:=by
 obtain⟨w,l⟩:=t;unfold jm aX bh bm bp cD bA aY aB;refine aU (λx=>x.2=((w,l),(a,b,c),at_,fi,n)) (aQ (λ_=>ai rfl) λ_=>aQ (λ_=>ai rfl) λ_=>ai rfl) ?_;rintro⟨q,x⟩ e;dsimp only at e;subst e;refine aJ (λ_=>aS Vy (ai rfl)) λ_=>?_
 refine fP (aS (LX w l) (ux (ar (aan a b c at_ fi n A s hc d h0 30 (by omega) (by omega)) ?_)));rintro⟨w1,l1⟩ _;exact aS (LX w1 l1) (ux (aS Vy (ai (ai rfl))))
theorem EpochRefuses_law (x:(WT×Y ET)×(η×η×η)×Int×Int×Int) (w:UL (.pr (.st (.pr nV (.sl gV))) (.pr (.st (.pr (.sl (.int .u8)) (.pr (.sl (.int .u8)) (.sl (.int .u8))))) (.st (.pr (.int .u8) (.pr (.int .u8) (.int .i8)))))) x):jm x=Z M:=by
 obtain⟨t,⟨a,b,c⟩,at_,fi,n⟩:=x;obtain⟨_,⟨⟨l0,w0⟩,_,⟨l2,w2⟩⟩,q1,_⟩:=w;obtain⟨y,h,rfl⟩:=Bw t a b c at_ fi n l0 (λz d=>Oi (w0 z d)) l2 (λz d=>Oi (w2 z d)) (Oi q1);exact h
def inert (f:FuncId):Bool:=ax f 62
theorem Pq:∃d,Tryz.prog.underlying 20=Z (.interface d):=⟨#[],by kernel_rfl⟩
theorem Y2 (w:World):(Op.equal 20 .nilIface .nilIface).run Tryz.prog w= .ok M w:=by
 obtain⟨q,hu⟩:=Pq;have key:∀d,(Op.equalIn (d+1) 20 .nilIface .nilIface).run Tryz.prog w= .ok M w:=λd=>by simp[Op.equalIn,run_underlying hu]
 exact key 9999
theorem YE {P:Program} {ops:Array Oper} {Q:Exit->Act->Y Frame->World->Prop} {i:Nat} {rest:ι} {a:Act} {cs:Y Frame} {w w':World} {o:Oper} (q:ops[i]? =Z o) (d:o.guard=U) (hr:(execOp a.eval o).run P w= .ok .recover w') (hn:recoverD cs=U) (h:wpOpsS P ops Q rest (a.put o.dst .nilIface) cs w'):wpOpsS P ops Q (i::rest) a cs w:=by
 have d:iL o (yielded ops a.tmps)=M:=by unfold iL;rw[d]
 simp only[wpOpsS,q,d,bH,hr,hn];exact h
theorem YD {P:Program} {ops:Array Oper} {Q:Exit->Act->Y Frame->World->Prop} {i:Nat} {rest:ι} {a:Act} {cs:Y Frame} {w w':World} {o:Oper} {v:Value} (q:ops[i]? =Z o) (d:o.guard=U) (hr:(execOp a.eval o).run P w= .ok (.value v) w') (h:wpOpsS P ops Q rest (a.put o.dst v) cs w'):wpOpsS P ops Q (i::rest) a cs w:=by
 have d:iL o (yielded ops a.tmps)=M:=by unfold iL;rw[d]
 simp only[wpOpsS,q,d,bH,hr];exact h
theorem Pp:Kb Tryz.prog inert:=by
 intro f hf;have hf:f=62:=au hf;subst hf;refine ⟨⟨Tryz.f62,Tryz.func62,by kernel_rfl,by kernel_rfl⟩,λargs w=>?_⟩;refine callsD_of_wpS Tryz.func62 rfl λc₀ cs hu=>?_
 refine wpS_seq (wpS_region ?_);generalize ht:(args++og (Tryz.f62.ntmps-args.size) undef)=T;have hs:5<=T.size:=by
  rw[<- ht];simp only[Array.size_append,Array.size_replicate];have:Tryz.f62.ntmps=5:=rfl;omega
 have hr:recoverD (c₀::cs)=U:=by simp[recoverD,hu]
 refine YE (i:=0) (rest:=[1]) rfl rfl (w':=w) ?_ hr ?_
 .simp[execOp,resolve,invoke,builtin]
 refine YD (v:=.bool aa) rfl rfl (w':=w) ?_ ?_
 .have hv:Act.eval (MY {tmps:=T,defers:=[]} (Z 2) .nilIface) (.tmp 2)= .nilIface:=by
   simp[Act.eval,MY,show 2<T.size by omega]
  have h2:=Y2 w;have hcst:Act.eval (MY {tmps:=T,defers:=[]} (Z 2) .nilIface) (.const .nilIface)= .nilIface:=rfl;show (execOp (Act.eval (MY {tmps:=T,defers:=[]} (Z 2) .nilIface)) _).run _ w=_;simp[execOp,hv,hcst,eqGuard,binOp,h2]
 show Exit.thenS _ _ .normal _ _ _;refine wpS_cond (t:=aa) ?_ ?_
 .simp[Act.eval,MY,show 3<T.size by omega]
 refine wpS_of_wp (wp_skip ?_);have hres:Tryz.f62.results=#[]:=rfl;exact⟨rfl,c₀.mode,rfl,.tuple #[],by simp[results,hres],⟨_,rfl⟩,hu,rfl⟩
def dM {α:Type}:Y (Nat×α)->PT α
 |[]=>.leaf
 |p::r=>(dM r).set p.1 (Z p.2)
noncomputable abbrev Pg:Program:=Tryz.prog
def cn (D:FT) (m:D.pre.ty.den->J D.post.ty.den):cj:=⟨D.pre,D.post,m⟩
theorem aie:Pg.follows .mixedOrders=M:=by kernel_rfl
theorem ac {f:FuncId} {c:cj} {l:Y (FuncId×cj)} (h:aG Pg f c) (t:R5 Pg l):R5 Pg ((f,c)::l):=⟨h,t⟩
theorem an:R5 Pg []:=trivial
inductive OI {R:Type}:Option R->Option R->Prop where
 |rfl {a:Option R}:OI a a
 |chk {b:Bool} {k k':Option R} (h:ly k k'):OI (chk b λ_=>k) (chk b λ_=>k')
 |aF {b:Bool} {t f t' f':Option R} (h1:ly t t') (h2:ly f f'):OI (aF b t f) (aF b t' f')
 |lt {α:Type} {x:α} {k k':α->Option R} (h:∀y,ly (k y) (k' y)):OI (lt x k) (lt x k')
 |jn {α:Type} {o o':Option (R⊕α)} {k k':α->Option R} (h:ly o o') (hk:∀x,ly (k x) (k' x)):OI (jn o k) (jn o' k')
 |av {α:Type} {o o':Option α} {k k':α->Option R} (h:ly o o') (hk:∀x,ly (k x) (k' x)):OI (av o k) (av o' k')
 |iter {σ:Type} {f g:σ->Option (σ⊕R)} {x:σ} (h:∀x,ly (f x) (g x)):OI (gp f x) (iter g x)
theorem OI.o {R:Type} {a b:J R} (h:OI a b):ly a b:=by
 cases h with
 |rfl=>exact ly.rfl
 |chk h=>exact ly.chk h
 |aF h g=>exact ly.bcase h g
 |lt h=>exact ly.lt h
 |jn h g=>exact ly.jn h g
 |av h g=>exact ly.obind h g
 |iter h=>exact ly.iter h
theorem mk {f:FuncId} (D:FT) (m:D.pre.ty.den->J D.post.ty.den) {l:Y (FuncId×cj)} (q:R5 Pg l) (d:TypeId->J Ty) (he:∀x,Yl (T_ l) d inert (yQ Pg f) D x=m x:=by intro x;kernel_rfl) (hs:(yQ Pg f).isSome=M:=by kernel_rfl) (hb:dP D.pre.bs.length D.post.bs.length=M:=by kernel_rfl):aG Pg f (cn D m):=(P1 aie Pp q hs he).toC hb
theorem zk {f:FuncId} (D:FT) (m n:D.pre.ty.den->J D.post.ty.den) (q:∀x,ly (m x) (n x)) {l:Y (FuncId×cj)} (s:R5 Pg l) (d:TypeId->J Ty) (he:∀x,Yl (T_ l) d inert (yQ Pg f) D x=n x:=by intro x;kernel_rfl) (hs:(yQ Pg f).isSome=M:=by kernel_rfl) (hb:dP D.pre.bs.length D.post.bs.length=M:=by kernel_rfl):aG Pg f (cn D m):=((P1 aie Pp s hs he).sub q).toC hb
theorem L5 {f:FuncId} (D:FT) (hs:(yQ Pg f).isSome=M:=by kernel_rfl) (hb:dP D.pre.bs.length D.post.bs.length=M:=by kernel_rfl):aG Pg f (cn D λ_=>U):=(Tf hs).toC hb
abbrev uk:Y PV:=[.d aL,.d aL,.d aL,.d aL,.d aL,.nil,.nil]
abbrev uY:Y PV:=[.nil,.d aL,.nil,.nil,.nil,.nil,.nil]
abbrev aet:Y PV:=[.ptr 1 0,.d aL,.d aL,.d .bool,.d .bool,.d .bool,.d .bool,.row 4]
abbrev aex:Y PV:=[.d aL,.d aL,.d .str,.d .str,.nil,.d aL,.d aL,.d .str,.nil,.nil,.nil]
abbrev La2:Y PB:=[.cells 222 aet,.cells 140 [.d xQ],.gone,.cells 228 aex,.rowsP 9 .str]
abbrev MQ:Y PV:=[.ptr 0 0,.ptr 1 0,.ptr 2 0,.ptr 3 0,.ptr 4 0,.ptr 5 0,.ptr 6 0,.ptr 7 0,.d .bool]
abbrev La4:Y PB:=[.cells 214 [.d (.sl kJ),.d (.sl qE),.d (.sl lZ),.d (.sl .str),.d (.sl .str),.d (.sl oF),.d (.sl .str),.row 2,.d aL,.d aL],.gone,.rows 218 M qB]
abbrev La5:Y PB:=[.cells 214 [.d (.sl kJ),.d (.sl qE),.d (.sl lZ),.d (.sl .str),.d (.sl .str),.d (.sl oF),.d (.sl .str),.row 1,.d aL,.d aL],.rows 218 M qB]
abbrev La6:Y PV:=[.d aL,.row 11,.row 12,.d aL]
abbrev La7:Y PB:=[.cells 183 [.nil,.nil],.cells 222 [.ptr 5 0,.d aL,.d aL,.d .bool,.d .bool,.d .bool,.d .bool,.row 6],.cells 183 [.d (.sl FM),.row 7],.rows 9 aa .str,.cells 212 [.d .str,.d aL,.row 8,.row 9],.cells 140 [.d xQ],.rowsP 9 .str,.rows 212 M sv,.rows 9 aa .str,.rows 228 M .sm]
abbrev La8:Y PB:=[.cells 252 [.d (.sl FM),.d (.sl sv),.d aL,.row 1,.row 6,.row 7],.rowsP 228 .sm,.gone,.gone,.cells 228 [.d .sm],.cells 183 [.d MR],.rows 9 M .str,.rows 9 M .str]
abbrev La9:Y PV:=[.d (.sl dt),.d aL,.d mf,.d (.sl gH),.row 8,.row 9,.csl 10 4 4]
abbrev adl:Y PB:=[.cells 145 [.d (.sl dt),.d aL,.d mf,.d (.sl gH),.row 6,.row 7,.csl 8 4 4],.cells 186 [.d ju],.cells 145 uY,.cells 60 uk,.cells 60 [.d gV],.cells 205 [.d eI],.rows 2 M aL,.rows 2 M aL,.cells 205 [.d eI,.d eI,.d eI,.d eI]]
abbrev aeu:Y PV:=[.ptr 1 0,.d aL,.d aL,.d .bool,.d .bool,.d .bool,.d .bool,.row 2]
abbrev Ow:Y PV:=[.d Dc,.d aL]
abbrev UE:Y PB:=[.cells 222 aeu,.cells 140 Ow,.rowsP 9 .str]
abbrev LI:Y PV:=[.ptr 0 0,.ptr 1 0,.ptr 2 0,.ptr 3 0,.ptr 4 0,.ptr 5 0,.ptr 6 0,.ptr 7 0,.d aL]
abbrev agq:Y PV:=[.d (.sl dt),.d aL,.d mf,.d (.sl gH),.row 8,.row 9,.csl 10 4 3]
abbrev aha:Y PB:=[.cells 150 [.d t_],.cells 145 agq,.cells 186 [.d ju],.cells 145 uY,.cells 60 uk,.cells 60 [.d gV],.cells 205 La6,.cells 218 [.d qB],.rows 2 M aL,.rows 2 M aL,.cells 205 [.d aL,.row 11,.row 12,.d aL,.d eI,.d eI],.rows 2 M aL,.rows 58 M (.sl aL)]
abbrev ah9:Y PB:=[.cells 150 [.d t_],.cells 145 agq,.cells 186 [.d ju],.cells 145 uY,.cells 60 uk,.cells 60 [.d gV],.cells 205 La6,.cells 218 [.d qB],.rows 2 M aL,.rows 2 M aL,.cells 205 [.d eI,.d aL,.row 11,.row 12,.d aL,.d eI],.rows 2 M aL,.rows 58 M (.sl aL)]
abbrev ah8:Y PB:=[.cells 150 [.d t_],.cells 145 agq,.cells 186 [.d ju],.cells 145 uY,.cells 60 uk,.cells 60 [.d gV],.cells 205 La6,.cells 218 [.d qB],.rows 2 M aL,.rows 2 M aL,.cells 205 [.d eI,.d eI,.d aL,.row 11,.row 12,.d aL],.rows 2 M aL,.rows 58 M (.sl aL)]
abbrev aew:Y PV:=[.d (.sl dt),.d aL,.d mf,.d (.sl gH),.row 8,.row 9,.csl 10 4 2]
abbrev ah7:Y PB:=[.cells 150 [.d t_],.cells 145 aew,.cells 186 [.d ju],.cells 145 uY,.cells 60 uk,.cells 60 [.d gV],.cells 205 La6,.cells 218 [.d qB],.rows 2 M aL,.rows 2 M aL,.cells 205 [.d aL,.row 11,.row 12,.d aL,.d eI],.rows 2 M aL,.rows 58 M (.sl aL)]
abbrev ah6:Y PB:=[.cells 150 [.d t_],.cells 145 aew,.cells 186 [.d ju],.cells 145 uY,.cells 60 uk,.cells 60 [.d gV],.cells 205 La6,.cells 218 [.d qB],.rows 2 M aL,.rows 2 M aL,.cells 205 [.d eI,.d aL,.row 11,.row 12,.d aL],.rows 2 M aL,.rows 58 M (.sl aL)]
abbrev XG:Y PB:=[.cells 252 [.d (.sl FM),.d (.sl sv),.d aL,.row 1,.row 4,.row 5],.rowsP 228 .sm,.gone,.gone,.rows 9 M .str,.rows 9 M .str]
abbrev LH:Y PV:=[.ptr 0 0,.ptr 1 0,.ptr 2 0,.ptr 3 0,.ptr 4 0,.ptr 5 0,.ptr 6 0,.d .bool]
abbrev gZ:Y PV:=[.ptr 0 0,.d .bool]
abbrev XF:Y PB:=[.cells 252 [.d (.sl FM),.d (.sl sv),.d aL,.row 1,.row 2,.row 3],.rowsP 228 .sm,.rows 9 M .str,.rows 9 M .str]
abbrev ah5:Y PB:=[.cells 150 [.d t_],.cells 145 [.d (.sl dt),.d aL,.d mf,.d (.sl gH),.row 8,.row 9,.csl 10 4 1],.cells 186 [.d ju],.cells 145 uY,.cells 60 uk,.cells 60 [.d gV],.cells 205 La6,.cells 218 [.d qB],.rows 2 M aL,.rows 2 M aL,.cells 205 La6,.rows 2 M aL,.rows 58 M (.sl aL)]
abbrev LG:Y PV:=[.ptr 0 0,.ptr 1 0,.ptr 2 0,.ptr 3 0,.ptr 4 0,.ptr 5 0,.ptr 6 0]
abbrev ah4:Y PB:=[.cells 150 [.d t_],.cells 145 La9,.cells 186 [.d ju],.cells 145 uY,.cells 60 uk,.cells 60 [.d gV],.cells 205 La6,.cells 218 [.d qB],.rows 2 M aL,.rows 2 M aL,.cells 205 [.d aL,.row 11,.row 12,.d aL,.d eI,.d eI,.d eI],.rows 2 M aL,.rows 58 M (.sl aL)]
abbrev ah3:Y PB:=[.cells 150 [.d t_],.cells 145 La9,.cells 186 [.d ju],.cells 145 uY,.cells 60 uk,.cells 60 [.d gV],.cells 205 La6,.cells 218 [.d qB],.rows 2 M aL,.rows 2 M aL,.cells 205 [.d eI,.d aL,.row 11,.row 12,.d aL,.d eI,.d eI],.rows 2 M aL,.rows 58 M (.sl aL)]
abbrev ah2:Y PB:=[.cells 150 [.d t_],.cells 145 La9,.cells 186 [.d ju],.cells 145 uY,.cells 60 uk,.cells 60 [.d gV],.cells 205 La6,.cells 218 [.d qB],.rows 2 M aL,.rows 2 M aL,.cells 205 [.d eI,.d eI,.d aL,.row 11,.row 12,.d aL,.d eI],.rows 2 M aL,.rows 58 M (.sl aL)]
abbrev ah1:Y PB:=[.cells 150 [.d t_],.cells 145 La9,.cells 186 [.d ju],.cells 145 uY,.cells 60 uk,.cells 60 [.d gV],.cells 205 La6,.cells 218 [.d qB],.rows 2 M aL,.rows 2 M aL,.cells 205 [.d eI,.d eI,.d eI,.d aL,.row 11,.row 12,.d aL],.rows 2 M aL,.rows 58 M (.sl aL)]
abbrev Ka:Y PB:=[.cells 28 [.d nV],.cells 87 [.d iO],.cells 60 [.d gV],.cells 87 uY]
abbrev LF:Y PV:=[.ptr 0 0,.ptr 1 0,.ptr 2 0,.ptr 3 0,.ptr 4 0,.ptr 5 0]
abbrev ah0:Y PB:=[.cells 145 [.d (.sl dt),.d aL,.d mf,.d (.sl gH),.row 6,.row 7,.csl 8 4 3],.cells 186 [.d ju],.cells 145 uY,.cells 60 uk,.cells 60 [.d gV],.cells 205 [.d eI],.rows 2 M aL,.rows 2 M aL,.cells 205 [.d eI,.d eI,.d eI]]
abbrev RG:Y PV:=[.d (.sl dt),.d aL,.d mf,.d (.sl gH),.row 7,.row 8,.csl 9 4 4]
abbrev qv:Y PV:=[.ptr 0 0,.ptr 1 0,.d .bool]
abbrev t8:Y PV:=[.ptr 0 0,.ptr 1 0,.ptr 2 0,.ptr 3 0,.d .bool]
abbrev adc:Y PV:=[.nil,.nil,.nil,.nil,.nil,.nil]
abbrev agz:Y PB:=[.cells 183 [.d MR],.cells 28 adc,.cells 28 [.row 4,.row 5,.row 6,.row 7,.nil,.nil],.cells 255 [.d FM],.rows 100 M kJ,.rows 102 M qE,.rows 104 M lZ,.rows 9 M .str]
abbrev XD:Y PV:=[.nil,.nil,.nil,.nil,.nil,.nil,.nil]
abbrev ajk:Y PV:=[.d (.sl kJ),.d (.sl qE),.d (.sl lZ),.d (.sl .str),.d (.sl .str),.d (.sl oF),.row 5]
abbrev ajx:Y PB:=[.cells 183 [.d MR],.cells 150 XD,.cells 150 ajk,.cells 214 [.d (.sl kJ),.d (.sl qE),.d (.sl lZ),.d (.sl .str),.d (.sl .str),.d (.sl oF),.d (.sl .str),.row 6,.d aL,.d aL],.cells 201 [.d aL,.row 6],.rows 201 M v9,.rows 218 M qB]
abbrev GO:Y PV:=[.row 0,.d aL,.row 1,.row 2]
abbrev agy:Y PB:=[.cells 140 [.d xQ],.cells 87 [.d iO],.cells 28 [.d nV],.rows 60 M gV,.cells 58 [.row 5,.row 6,.row 7,.row 8],.rows 3 M aL,.rows 3 M aL,.rows 3 M aL,.rows 3 M aL]
abbrev Eu:Y PV:=[.ptr 0 0,.ptr 1 0,.ptr 2 0,.d aL]
abbrev J_:Y PV:=[.d aL,.d (.sl aL),.d uZ,.d aL]
abbrev XE:Y PV:=[.d (.sl dt),.d aL,.d mf,.d (.sl gH),.row 7,.row 8,.csl 9 4 3]
abbrev agx:Y PB:=[.cells 140 [.d xQ],.cells 87 [.d iO],.cells 28 [.d nV],.cells 58 [.row 4,.row 5,.row 6,.row 7],.rows 3 M aL,.rows 3 M aL,.rows 3 M aL,.rows 3 M aL]
abbrev Bu:Y PV:=[.ptr 0 0,.ptr 1 0,.ptr 2 0,.d .bool]
abbrev uj:Y PV:=[.ptr 0 0,.ptr 1 0,.d aL]
abbrev J9:Y PV:=[.d aL,.row 10,.row 11,.d aL]
abbrev adb:Y PV:=[.d aL,.row 0,.row 1,.d aL]
abbrev VQ:Y PV:=[.d aL,.nil,.nil,.d aL]
abbrev agw:Y PB:=[.rows 2 M aL,.rows 58 M (.sl aL),.cells 218 [.d qB],.cells 205 adb,.cells 205 VQ]
abbrev agv:Y PB:=[.cells 252 [.d (.sl FM),.d (.sl sv),.d aL,.row 4,.row 5,.row 6],.gone,.gone,.gone,.rowsP 228 .sm,.rows 9 M .str,.rows 9 M .str]
abbrev t7:Y PV:=[.nil,.d aL,.nil,.nil]
abbrev agu:Y PB:=[.cells 84 [.row 2,.d aL,.row 3,.row 4],.cells 84 t7,.rows 157 M dt,.rows 4 M .bool,.rows 159 M gH]
abbrev J8:Y PV:=[.ptr 0 0,.ptr 3 0,.d .bool]
abbrev ajw:Y PB:=[.cells 145 [.d (.sl dt),.d aL,.d mf,.d (.sl gH),.row 6,.row 7,.csl 8 4 2],.cells 186 [.d ju],.cells 145 uY,.cells 60 uk,.cells 60 [.d gV],.cells 205 [.d eI],.rows 2 M aL,.rows 2 M aL,.cells 205 [.d eI,.d eI]]
abbrev ajv:Y PB:=[.cells 31 XD,.cells 140 [.d xQ],.cells 31 ajk,.cells 87 [.d iO],.rows 60 aa gV,.rows 60 M gV]
abbrev pK:Y PB:=[.cells 28 [.d nV]]
abbrev aju:Y PB:=[.cells 140 [.d xQ],.cells 87 [.d iO],.cells 28 [.d nV],.rows 60 M gV,.cells 58 [.row 7,.row 8,.row 9,.row 10],.cells 60 [.d gV],.cells 87 [.d iO],.rows 3 M aL,.rows 3 M aL,.rows 3 M aL,.rows 3 M aL]
abbrev ajt:Y PB:=[.cells 28 adc,.cells 28 [.row 2,.row 3,.row 4,.row 5,.row 6,.row 7],.rows 100 aa kJ,.rows 102 aa qE,.rows 104 aa lZ,.rows 9 aa .str,.rows 9 aa .str,.rows 106 M oF]
abbrev v8:Y PV:=[.ptr 0 0,.d aL]
abbrev aa2:Y PV:=[.row 2,.row 3,.row 4,.row 5]
abbrev ajs:Y PB:=[.cells 140 [.d xQ],.cells 58 aa2,.rows 3 M aL,.rows 3 M aL,.rows 3 M aL,.rows 3 M aL,.cells 60 uk,.cells 60 [.d aL,.d aL,.d aL,.d aL,.d aL,.d (.sl aL),.nil]]
abbrev adk:Y PV:=[.d (.sl dt),.d aL,.d mf,.d (.sl gH),.row 7,.row 8,.csl 9 4 2]
abbrev LD:Y PV:=[.d u0,.d gV,.d .bool]
abbrev ajr:Y PB:=[.cells 140 [.d xQ],.cells 58 aa2,.rows 3 M aL,.rows 3 M aL,.rows 3 M aL,.rows 3 M aL,.cells 87 [.d iO],.cells 28 [.d nV],.cells 60 uk,.cells 60 uk]
abbrev ajq:Y PB:=[.cells 183 [.d MR],.cells 28 adc,.cells 28 [.row 3,.row 4,.row 5,.row 6,.nil,.nil],.rows 100 M kJ,.rows 102 M qE,.rows 104 M lZ,.rows 9 M .str]
abbrev agt:Y PV:=[.d (.sl dt),.d aL,.d mf,.d (.sl gH),.row 3,.row 4,.row 5]
abbrev LC:Y PV:=[.d t_,.d u0,.d ju]
abbrev ags:Y PB:=[.rows 157 M dt,.rows 4 M .bool,.rows 159 M gH,.cells 84 GO,.rows 3 M aL]
abbrev aa5:Y PV:=[.row 3,.d aL,.row 4,.row 5]
abbrev ajp:Y PB:=[.cells 28 [.d nV],.cells 84 aa5,.cells 84 t7,.rows 157 M dt,.rows 4 M .bool,.rows 159 M gH]
abbrev uX:Y PV:=[.d aL,.d aL]
abbrev agr:Y PB:=[.rows 60 M gV,.cells 150 [.d t_],.cells 145 [.d u0],.cells 145 uY]
abbrev ajo:Y PB:=[.cells 201 [.d v9],.cells 205 [.d aL,.row 3,.row 4,.d aL],.cells 205 VQ,.rows 2 M aL,.rows 58 M (.sl aL)]
abbrev ajn:Y PB:=[.cells 222 aet,.cells 140 [.d xQ],.gone,.rows 228 M .sm,.rowsP 9 .str]
abbrev agp:Y PV:=[.ptr 1 0,.d aL,.d aL,.d .bool,.d .bool,.d .bool,.d .bool,.row 3]
abbrev ajm:Y PB:=[.cells 60 uk,.cells 205 [.d eI],.cells 218 [.d qB],.cells 60 [.d aL,.d aL,.d aL,.d aL,.d aL,.row 4,.nil],.rows 3 M aL]
abbrev Ov:Y PB:=[.cells 228 [.d .sm]]
abbrev adi:Y PV:=[.agg [.agg GO,.row 3,.row 4,.csl 5 4 4]]
abbrev RF:Y PB:=[.cells 183 [.d MR]]
abbrev ago:Y PB:=[.cells 28 [.d nV],.cells 201 [.d v9],.cells 218 [.d qB]]
abbrev adh:Y PB:=[.cells 183 [.d MR],.cells 212 [.d sv]]
abbrev adg:Y PB:=[.cells 183 [.d MR],.cells 226 [.d .ex]]
abbrev agn:Y PB:=[.cells 28 [.d nV],.rows 9 M .str,.cells 100 [.d kJ]]
abbrev agm:Y PB:=[.rows 157 M dt,.rows 4 M .bool,.rows 159 M gH]
abbrev adf:Y PB:=[.cells 28 [.d nV],.cells 218 [.d qB]]
abbrev ade:Y PV:=[.ptr 0 0,.ptr 4 0,.ptr 5 0,.d .bool]
abbrev agl:Y PV:=[.ptr 0 0,.ptr 1 0,.ptr 2 0,.ptr 3 0,.ptr 4 0,.d aL]
abbrev UD:Y PB:=[.cells 28 [.d nV],.cells 84 [.d Db]]
abbrev agk:Y PB:=[.cells 140 [.d xQ],.rows 3 M aL,.rows 3 M aL]
abbrev XC:Y PB:=[.cells 28 [.d nV],.rows 9 M .str]
abbrev agj:Y PB:=[.cells 60 [.d gV],.cells 87 uY,.cells 87 agt,.rows 2 M aL,.rows 2 M aL,.rows 3 M aL]
abbrev ajl:Y PB:=[.cells 140 Ow,.cells 58 aa2,.rows 3 M aL,.rows 3 M aL,.rows 3 M aL,.rows 3 M aL]
abbrev RE:Y PB:=[.cells 140 Ow]
abbrev GM:Y PV:=[.d (.sl aL),.d aL]
abbrev XB:Y PB:=[.cells 140 [.d xQ]]
abbrev UC:Y PV:=[.ptr 0 0,.row 1,.d aL]
abbrev XA:Y PB:=[.cells 255 [.d FM]]
abbrev agi:Y PV:=[.agg [.agg GO,.row 3,.row 4,.csl 5 4 3]]
abbrev aaa:Y PB:=[.rows 2 M aL,.rows 58 M (.sl aL)]
abbrev aa9:Y PB:=[.cells 150 [.d t_],.cells 145 [.d u0]]
abbrev aa8:Y PB:=[.cells 28 [.d nV],.cells 201 [.d v9]]
abbrev qJ:Y PV:=[.d (.sl aL)]
abbrev aa7:Y PV:=[.ptr 0 0,.ptr 1 0,.ptr 2 0,.ptr 3 0]
abbrev aev:Y PV:=[.d (.sl dt),.d aL,.d mf,.d (.sl gH),.row 7,.row 8,.csl 9 4 1]
abbrev aa6:Y PB:=[.cells 84 [.d Db],.rows 3 M aL]
abbrev RH:Y PV:=[.ptr 0 0,.d aL,.d aL]
def tyT:PT Ty:=dM [(2,aL),(3,aL),(4,.bool),(9,.str),(50,ju),(58,(.sl aL)),(60,gV),(65,ju),(67,(.st (.pr ju (.pr ju (.sl aL))))),(81,mf),(100,kJ),(102,qE),(104,lZ),(106,oF),(157,dt),(159,gH),(186,ju),(201,v9),(205,eI),(212,sv),(218,qB),(226,.ex),(228,.sm),(255,FM)]
def b8 (t:TypeId):J Ty:=tyT.get t
def Ap:FT:=⟨⟨[],[]⟩,⟨[.d (.sl .str)],[]⟩,.leaf⟩
def Ll:cj:=cn Ap ox
def yG:FT:=⟨⟨[.d .str],[]⟩,⟨[.d .bool],[]⟩,dM [(8,(.j ⟨[0,3],[4],⟨[.d aL],[]⟩,[]⟩))]⟩
def JC:cj:=cn yG jJ
def FA:FT:=⟨⟨[.d (.int .u8)],[]⟩,⟨[.d .bool],[]⟩,dM [(2,(.j ⟨[],[2],⟨[.d .bool],[]⟩,[]⟩))]⟩
def Re:cj:=cn FA lw
def Jj:FT:=⟨⟨[.d (.int .u8)],[]⟩,⟨[.d .bool],[]⟩,dM [(2,(.j ⟨[],[2],⟨[.d .bool],[]⟩,[]⟩))]⟩
def T8:cj:=cn Jj tG
def Ji:FT:=⟨⟨[.d (.int .u8)],[]⟩,⟨[.d .bool],[]⟩,dM [(2,(.j ⟨[],[2],⟨[.d .bool],[]⟩,[]⟩))]⟩
def T7:cj:=cn Ji pm
def FB:FT:=⟨⟨[.d .str],[]⟩,⟨[.d .bool],[]⟩,dM [(3,(.j ⟨[0],[21],⟨[.d .bool],[]⟩,[]⟩)),(14,(.j ⟨[0],[3],⟨[.d aL],[]⟩,[]⟩))]⟩
def Rf:cj:=cn FB fg
def Jd:FT:=⟨⟨[.d .bool],[]⟩,⟨[.d aL],[]⟩,.leaf⟩
def TX:cj:=cn Jd fI
def Je:FT:=⟨⟨uX,[]⟩,⟨[.d aL,.d .bool],[]⟩,.leaf⟩
def TY:cj:=cn Je tD
def Fw:FT:=⟨⟨[.d aL,.d aL,.d aL],[]⟩,⟨[.d aL,.d .bool],[]⟩,dM [(91,(.j ⟨[],[6,7],⟨[.d aL,.d .bool],[]⟩,[]⟩)),(97,(.j ⟨[],[6,7],⟨[.d aL,.d .bool],[]⟩,[]⟩))]⟩
def Ra:cj:=cn Fw rS
def Jf:FT:=⟨⟨uX,[]⟩,⟨[.d aL],[]⟩,dM [(12,(.j ⟨[],[5],⟨[.d aL],[]⟩,[]⟩))]⟩
def TZ:cj:=cn Jf qS
def Ao:FT:=⟨⟨[.d aL],[]⟩,⟨[.d aL],[]⟩,dM [(4,(.j ⟨[0],[3],⟨[.d .bool],[]⟩,[]⟩)),(10,(.j ⟨[0],[10],⟨[.d .bool],[]⟩,[]⟩)),(16,(.j ⟨[],[17],⟨[.d .bool],[]⟩,[]⟩))]⟩
def Lk:cj:=cn Ao ov
def oZ:FT:=⟨⟨[.d .ex],[]⟩,⟨[.d .bool],[]⟩,dM [(2,(.j ⟨[],[1,3],⟨gZ,[.cells 226 [.d .ex]]⟩,[]⟩)),(5,(.j ⟨[],[1,50],⟨gZ,[.cells 226 [.d .ex]]⟩,[]⟩)),(16,(.j ⟨[],[1,4],⟨v8,[.cells 226 [.d .ex]]⟩,[]⟩))]⟩
def Gq:cj:=cn oZ j_
def FZ (n:Nat):cj:=cn oZ (jh n)
def Jh:FT:=⟨⟨[.d .ex],[]⟩,⟨[.d .bool],[]⟩,dM [(2,(.j ⟨[],[2],⟨[.d .bool],[]⟩,[]⟩))]⟩
def T6:cj:=cn Jh qT
def sr:FT:=⟨⟨[.d .sm],[]⟩,⟨[.d .bool],[]⟩,dM [(3,(.j ⟨[],[1,13],⟨gZ,Ov⟩,[]⟩)),(10,(.j ⟨[],[1,3],⟨gZ,Ov⟩,[]⟩)),(13,(.j ⟨[],[1,47],⟨gZ,Ov⟩,[]⟩)),(21,(.j ⟨[],[1,66],⟨gZ,Ov⟩,[]⟩)),(29,(.j ⟨[],[1,95],⟨gZ,Ov⟩,[]⟩)),(36,(.j ⟨[],[1,4],⟨gZ,Ov⟩,[]⟩)),(39,(.j ⟨[],[1,130],⟨gZ,Ov⟩,[]⟩)),(46,(.j ⟨[],[1,5],⟨gZ,Ov⟩,[]⟩)),(49,(.j ⟨[],[1,157],⟨gZ,Ov⟩,[]⟩)),(56,(.j ⟨[],[2],⟨[.d .bool],[]⟩,[]⟩))]⟩
def FY (n:Nat):cj:=cn sr (hZ n)
def nT:FT:=⟨⟨[.d (.sl .sm)],[]⟩,⟨[.d .bool],[]⟩,dM [(6,(.j ⟨[0],[3],⟨[.d aL],[]⟩,[]⟩))]⟩
def Eg:cj:=cn nT qU
def DE (n:Nat):cj:=cn nT (fA n)
def xr:FT:=⟨⟨[.d FM],[]⟩,⟨[.d .bool],[]⟩,dM [(3,(.j ⟨[],[1,31],⟨gZ,XA⟩,[]⟩)),(11,(.j ⟨[],[1,50],⟨gZ,XA⟩,[]⟩)),(18,(.j ⟨[],[2],⟨[.d .bool],[]⟩,[]⟩))]⟩
def Gp:cj:=cn xr ma
def Fz:FT:=⟨⟨[.d MR],[]⟩,⟨[.d .bool],[]⟩,dM [(6,(.j ⟨[],[1,3],⟨v8,RF⟩,[]⟩)),(27,(.j ⟨[],[1,4],⟨v8,RF⟩,[]⟩)),(42,(.j ⟨[4],[1,5,6],⟨uj,adh⟩,[]⟩)),(59,(.j ⟨[4],[1,56],⟨gZ,RF⟩,[]⟩))]⟩
def Rd:cj:=cn Fz rU
def Vo:FT:=⟨⟨[.d (.sl .str),.d .str],[]⟩,⟨[.d aL],[]⟩,dM [(6,(.j ⟨[0,1],[5],⟨[.d aL],[]⟩,[]⟩))]⟩
def acn:cj:=cn Vo jW
def Fy:FT:=⟨⟨[.d (.sl FM),.d .str],[]⟩,⟨[.d aL],[]⟩,dM [(6,(.j ⟨[0,1],[5],⟨[.d aL],[]⟩,[]⟩))]⟩
def Rc:cj:=cn Fy iH
def An:FT:=⟨⟨[.d (.sl sv),.d .str],[]⟩,⟨[.d aL],[]⟩,dM [(6,(.j ⟨[0,1],[5],⟨[.d aL],[]⟩,[]⟩))]⟩
def Lj:cj:=cn An iB
def Fx:FT:=⟨⟨[.d MR,.d aL,.d .str],[]⟩,⟨[.d aL],[]⟩,dM [(3,(.j ⟨[2],[3,27],⟨gZ,RF⟩,[]⟩)),(52,(.j ⟨[7],[3,56],⟨gZ,RF⟩,[]⟩))]⟩
def Rb:cj:=cn Fx rT
def Mw:FT:=⟨⟨[.d MR,.d aL,.d .str,.d aL,.d aL],[]⟩,⟨[.d aL],[]⟩,dM [(13,(.j ⟨[],[25],⟨[.d .bool],[]⟩,[]⟩))]⟩
def WR:cj:=cn Mw gX
def wT:FT:=⟨⟨[.d .ex],[]⟩,⟨uX,[]⟩,dM [(8,(.j ⟨[],[1,4,5,6],⟨[.ptr 0 0,.d aL,.d aL,.d aL],[.cells 226 [.d .ex]]⟩,[]⟩))]⟩
def T4:cj:=cn wT HY
def SO (n:Nat):cj:=cn wT (pw n)
def wS:FT:=⟨⟨[.d MR,.d aL,.d .ex],[]⟩,⟨[.d aL],[]⟩,dM [(7,(.j ⟨[1],[3,5,7],⟨uj,adg⟩,[]⟩)),(21,(.j ⟨[1],[3,5,7,8],⟨[.ptr 0 0,.ptr 1 0,.d aL,.d aL],adg⟩,[]⟩)),(23,(.j ⟨[1,7,8],[3,5,33],⟨qv,adg⟩,[]⟩))]⟩
def T2:cj:=cn wS HX
def SM (n:Nat):cj:=cn wS (pu n)
def Mx:FT:=⟨⟨[.d MR,.d aL,.d .ex],[]⟩,⟨[.d aL],[]⟩,dM [(13,(.j ⟨[1],[3,5,22],⟨qv,adg⟩,[]⟩))]⟩
def WS:cj:=cn Mx nH
def CL:FT:=⟨⟨[.d .bool],[]⟩,⟨[.d aL],[]⟩,.leaf⟩
def N6:cj:=cn CL da
def Vn:FT:=⟨⟨uX,[]⟩,⟨[.d aL],[]⟩,.leaf⟩
def acm:cj:=cn Vn js
def vS:FT:=⟨⟨[.ptr 0 0,.d aL,.d aL,.d .str],XF⟩,⟨[.d .bool],XF⟩,dM [(6,(.j ⟨[1,2,3],[0,9],⟨v8,XF⟩,[]⟩)),(17,(.j ⟨[1,2,3,9],[0,46],⟨gZ,XF⟩,[]⟩))]⟩
def Ef:cj:=cn vS em
def Am:FT:=⟨⟨[.ptr 0 0,.d .sm],XF⟩,⟨[.d aL],XG⟩,dM [(1,(.a [.ren 0 4,.ren 0 5])),(28,(.j ⟨[6,7,8,9,30],[0,3,5,67],⟨ade,La8⟩,[]⟩)),(41,(.j ⟨[],[4],⟨[.d aL],XG⟩,[]⟩)),(44,(.j ⟨[6,7,8,9,30],[0,3,5,91],⟨ade,La8⟩,[]⟩)),(51,(.j ⟨[],[4],⟨[.d aL],XG⟩,[]⟩)),(63,(.j ⟨[],[4],⟨[.d aL],XG⟩,[]⟩)),(66,(.j ⟨[6,7,8,9,30],[0,3,5,119],⟨ade,La8⟩,[]⟩)),(89,(.j ⟨[],[4],⟨[.d aL],XG⟩,[]⟩)),(108,(.j ⟨[],[0,3,187],⟨[.ptr 0 0,.ptr 4 0,.d .bool],[.cells 252 [.d (.sl FM),.d (.sl sv),.d aL,.row 1,.row 5,.row 6],.rowsP 228 .sm,.gone,.gone,.cells 228 [.d .sm],.rows 9 M .str,.rows 9 M .str]⟩,[]⟩)),(131,(.j ⟨[],[4],⟨[.d aL],XG⟩,[]⟩)),(137,(.j ⟨[6],[0,3,5,14],⟨[.ptr 0 0,.ptr 4 0,.ptr 5 0,.d aL],La8⟩,[]⟩)),(139,(.j ⟨[6],[0,3,5,14],⟨[.ptr 0 0,.ptr 4 0,.ptr 5 0,.d aL],La8⟩,[]⟩)),(140,(.j ⟨[6,14],[0,3,5,253],⟨ade,La8⟩,[]⟩))]⟩
def Lh:cj:=cn Am ou
def rK:FT:=⟨⟨[.ptr 0 0,.d (.sl .sm)],XF⟩,⟨uX,agv⟩,dM [(1,(.a [.ren 0 3,.ren 0 4,.ren 0 5])),(6,(.j ⟨[1],[0,6],⟨v8,agv⟩,[]⟩)),(19,(.j ⟨[1,6],[0,7,8],⟨[.ptr 0 0,.ptr 4 0,.d aL],[.cells 252 [.d (.sl FM),.d (.sl sv),.d aL,.row 5,.row 6,.row 7],.gone,.gone,.gone,.cells 228 [.d .sm],.rowsP 228 .sm,.rows 9 M .str,.rows 9 M .str]⟩,[]⟩)),(37,(.j ⟨[1,6],[0,8,9],⟨RH,agv⟩,[]⟩))]⟩
def Li:cj:=cn rK Ab
def KM (n:Nat):cj:=cn rK (mn n)
def wU:FT:=⟨⟨[.d (.sl .sm)],[]⟩,⟨[.d aL],[]⟩,dM [(8,(.j ⟨[0],[3,4],⟨uX,[]⟩,[]⟩))]⟩
def T5:cj:=cn wU HZ
def SR (n:Nat):cj:=cn wU (px n)
def Jg:FT:=⟨⟨[.d (.sl FM)],[]⟩,⟨uX,[]⟩,dM [(8,(.j ⟨[0],[4,5,6,7,8],⟨[.d aL,.d aL,.d aL,.d aL,.d aL],[]⟩,[]⟩)),(16,(.j ⟨[0,8],[4,5,6,7],⟨[.d aL,.d aL,.d aL,.d aL],[]⟩,[]⟩)),(38,(.j ⟨[0,8],[4,5,6,7,9],⟨[.d aL,.d aL,.d aL,.d aL,.ptr 0 0],XA⟩,[]⟩)),(39,(.j ⟨[0,4,5,6,7,8,36],[9,39],⟨gZ,XA⟩,[]⟩)),(47,(.j ⟨[0,4,5,6,7,8,36],[9,47],⟨gZ,XA⟩,[]⟩)),(61,(.j ⟨[0,4,5,6,7,8],[9,69],⟨gZ,XA⟩,[]⟩))]⟩
def T3:cj:=cn Jg tF
def CK:FT:=⟨⟨[.d MR],[]⟩,⟨uX,[]⟩,dM [(6,(.j ⟨[],[1,4],⟨v8,RF⟩,[]⟩)),(17,(.j ⟨[4],[1,5,37],⟨qv,adh⟩,[]⟩)),(29,(.j ⟨[],[1,6],⟨v8,RF⟩,[]⟩)),(51,(.j ⟨[6],[1,7,8],⟨uj,adh⟩,[]⟩)),(62,(.j ⟨[6,8],[1,7,90],⟨qv,adh⟩,[]⟩))]⟩
def N5:cj:=cn CK qa
def CM:FT:=⟨⟨[.d MR],[]⟩,⟨uX,[]⟩,dM [(44,(.j ⟨[],[1,8,9],⟨RH,RF⟩,[]⟩)),(67,(.a [.cel 10 3 228 .sm,.cel 10 4 9 .str,.cel 10 5 9 .str])),(69,(.j ⟨[],[1,10,11],⟨uj,[.cells 183 [.d MR],.cells 252 [.d (.sl FM),.d (.sl sv),.d aL,.row 2,.row 3,.row 4],.rowsP 228 .sm,.rows 9 M .str,.rows 9 M .str]⟩,[]⟩))]⟩
def N7:cj:=cn CM km
def wR:FT:=⟨⟨[.row 0,.d aL,.d aL,.d (.sl .sm)],[.rows 106 M oF]⟩,⟨[.row 1,.d aL],[.gone,.rows 106 M oF]⟩,dM [(1,(.a [.ren 0 0])),(6,(.j ⟨[1,3],[0,2,10],⟨[.row 1,.d aL,.d aL],[.gone,.rows 106 M oF]⟩,[]⟩)),(25,(.a [.nil 8 106 oF]))]⟩
def TK:cj:=cn wR HW
def SL (n:Nat):cj:=cn wR (pt n)
def Ft:FT:=⟨⟨[.d (.sl qE),.d .str],[]⟩,⟨[.d aL],[]⟩,dM [(6,(.j ⟨[0,1],[5],⟨[.d aL],[]⟩,[]⟩))]⟩
def Q7:cj:=cn Ft lm
def Fv:FT:=⟨⟨[.d nV,.d .str],[]⟩,⟨[.d aL],[]⟩,dM [(6,(.j ⟨[1],[2,5],⟨v8,pK⟩,[]⟩))]⟩
def Q_:cj:=cn Fv lq
def Jb:FT:=⟨⟨[.d MR],[]⟩,⟨[.d nV],[]⟩,dM [(18,(.j ⟨[],[1,2,3,6],⟨Eu,ajq⟩,[.cel 3 0 100 kJ,.cel 3 1 102 qE,.cel 3 2 104 lZ,.cel 3 3 9 .str]⟩)),(31,(.j ⟨[6],[1,2,3],⟨[.ptr 0 0,.ptr 1 0,.ptr 2 0],ajq⟩,[]⟩)),(32,(.j ⟨[6,31],[1,2,3,7,39],⟨t8,agz⟩,[]⟩)),(42,(.j ⟨[6],[1,2,3,7,8],⟨[.ptr 0 0,.ptr 1 0,.ptr 2 0,.ptr 3 0,.d aL],agz⟩,[]⟩)),(53,(.j ⟨[6,31],[1,2,3,7,65],⟨t8,agz⟩,[]⟩)),(69,(.a [.cel 3 5 106 oF])),(71,(.j ⟨[],[1,2,3,9],⟨Eu,[.cells 183 [.d MR],.cells 28 adc,.cells 28 [.row 3,.row 4,.row 5,.row 6,.row 7,.row 8],.rows 100 M kJ,.rows 102 M qE,.rows 104 M lZ,.rows 9 M .str,.rows 9 M .str,.rows 106 M oF]⟩,[.cel 3 4 9 .str]⟩))]⟩
def TU:cj:=cn Jb tC
def I9:FT:=⟨⟨[.d nV],[]⟩,⟨[.d (.sl .str),.d .bool],[]⟩,dM [(8,(.j ⟨[],[1,4,5],⟨UC,XC⟩,[.nil 4 9 .str]⟩)),(15,(.j ⟨[],[1,4,5],⟨UC,XC⟩,[]⟩)),(37,(.j ⟨[5],[1,4,6,51],⟨[.ptr 0 0,.row 1,.ptr 2 0,.d .bool],agn⟩,[]⟩)),(48,(.j ⟨[5],[1,4,6,7],⟨[.ptr 0 0,.row 1,.ptr 2 0,.d aL],agn⟩,[]⟩)),(59,(.j ⟨[5,7],[1,4,6,93],⟨[.ptr 0 0,.row 1,.ptr 2 0,.d .bool],agn⟩,[]⟩)),(72,(.j ⟨[],[1,4,9],⟨UC,XC⟩,[]⟩)),(87,(.j ⟨[],[1,4,10],⟨UC,XC⟩,[]⟩))]⟩
def TN:cj:=cn I9 pj
def xq:FT:=⟨⟨[.d nV],[]⟩,⟨[.d .bool],[]⟩,dM [(3,(.j ⟨[],[1,49],⟨gZ,pK⟩,[]⟩)),(24,(.j ⟨[3],[1,5],⟨v8,pK⟩,[]⟩)),(33,(.j ⟨[3,5],[1,79],⟨gZ,pK⟩,[]⟩)),(45,(.j ⟨[],[1,6],⟨v8,pK⟩,[]⟩)),(56,(.j ⟨[6],[1,109],⟨gZ,pK⟩,[]⟩)),(68,(.j ⟨[],[1,8],⟨v8,pK⟩,[]⟩)),(76,(.j ⟨[8],[1],⟨[.ptr 0 0],pK⟩,[]⟩)),(80,(.j ⟨[8],[1,9,132],⟨qv,[.cells 28 [.d nV],.cells 106 [.d oF]]⟩,[]⟩)),(87,(.j ⟨[8],[1,9,146],⟨qv,[.cells 28 [.d nV],.cells 106 [.d oF]]⟩,[]⟩)),(90,(.j ⟨[8],[1,165],⟨gZ,pK⟩,[]⟩))]⟩
def Gn:cj:=cn xq hX
def yF:FT:=⟨⟨[.d qB],[]⟩,⟨qJ,[]⟩,dM [(6,(.j ⟨[4],[1,5],⟨gZ,[.cells 218 [.d qB]]⟩,[]⟩)),(24,(.j ⟨[4],[1,13],⟨gZ,[.cells 218 [.d qB]]⟩,[]⟩)),(46,(.j ⟨[4],[1,37],⟨gZ,[.cells 218 [.d qB]]⟩,[]⟩))]⟩
def JB:cj:=cn yF jI
def Fu:FT:=⟨⟨[.d aL],[]⟩,⟨[.d .bool],[]⟩,dM [(2,(.j ⟨[],[2],⟨[.d .bool],[]⟩,[]⟩))]⟩
def Q9:cj:=cn Fu pA
def I_:FT:=⟨⟨[.d (.sl qB),.d aL],[]⟩,⟨[.d .bool],[]⟩,dM [(6,(.j ⟨[0],[1,5],⟨uX,[]⟩,[]⟩)),(14,(.j ⟨[0,5],[1],⟨[.d aL],[]⟩,[]⟩)),(16,(.j ⟨[0,1,5],[19],⟨[.d .bool],[]⟩,[]⟩))]⟩
def TO:cj:=cn I_ tw
def Vm:FT:=⟨⟨uX,[]⟩,⟨[.d .bool],[]⟩,dM [(2,(.j ⟨[],[4],⟨[.d .bool],[]⟩,[]⟩))]⟩
def acl:cj:=cn Vm jr
def Ja:FT:=⟨⟨[.d nV,.d aL,.d aL],[]⟩,⟨[.d .bool],[]⟩,dM [(2,(.j ⟨[],[6],⟨[.d .bool],[]⟩,[]⟩))]⟩
def TQ:cj:=cn Ja qR
def CH:FT:=⟨⟨[.d nV,.d qB],[]⟩,⟨[.d .bool],[]⟩,dM [(9,(.j ⟨[],[4],⟨[.d .bool],[]⟩,[]⟩)),(15,(.j ⟨[],[4],⟨[.d .bool],[]⟩,[]⟩)),(30,(.j ⟨[6],[2,3,59],⟨qv,adf⟩,[]⟩)),(37,(.j ⟨[],[4],⟨[.d .bool],[]⟩,[]⟩)),(40,(.j ⟨[6],[2,3,78],⟨qv,adf⟩,[]⟩)),(55,(.j ⟨[],[4],⟨[.d .bool],[]⟩,[]⟩)),(58,(.j ⟨[6],[2,3,98],⟨qv,adf⟩,[]⟩)),(72,(.j ⟨[6],[2,3,108],⟨qv,adf⟩,[]⟩)),(97,(.j ⟨[],[4],⟨[.d .bool],[]⟩,[]⟩)),(103,(.j ⟨[],[4],⟨[.d .bool],[]⟩,[]⟩))]⟩
def NY:cj:=cn CH pZ
def vR:FT:=⟨⟨[.d nV,.d aL,.d v9],[]⟩,⟨[.d .bool],[]⟩,dM [(5,(.j ⟨[1,7],[3,5,26],⟨qv,aa8⟩,[]⟩)),(16,(.j ⟨[1,7],[3,5,8],⟨uj,aa8⟩,[]⟩)),(28,(.j ⟨[1,7,8],[3,5,9,67],⟨Bu,ago⟩,[]⟩)),(36,(.j ⟨[1,7,8],[3,5,9,100],⟨Bu,ago⟩,[]⟩)),(44,(.j ⟨[1,7,8],[3,5,9,122],⟨Bu,ago⟩,[]⟩)),(56,(.j ⟨[1,7,8,10],[3,5,11],⟨uj,aa8⟩,[]⟩))]⟩
def Ee:cj:=cn vR kW
def Jc:FT:=⟨⟨[.d t_],[]⟩,⟨[.d .bool],[]⟩,dM [(3,(.j ⟨[],[1,17],⟨gZ,[.cells 150 [.d t_]]⟩,[]⟩)),(14,(.j ⟨[],[1,3],⟨v8,[.cells 150 [.d t_]]⟩,[]⟩))]⟩
def TW:cj:=cn Jc pl
def CI:FT:=⟨⟨[.ptr 0 0,.d qB],La5⟩,⟨[],La4⟩,.leaf⟩
def NZ:cj:=cn CI cE
def qn:FT:=⟨⟨[.ptr 0 0,.d .ex,.d aL],La5⟩,⟨[],La4⟩,dM [(2,(.j ⟨[],[],⟨[],La4⟩,[]⟩))]⟩
def Jz:cj:=cn qn iG
def Ia (n:Nat):cj:=cn qn (iJ n)
def xp:FT:=⟨⟨[.ptr 0 0,.d .sm],La5⟩,⟨[],La4⟩,.leaf⟩
def Gm:cj:=cn xp l_
def Al:FT:=⟨⟨[.ptr 0 0,.d .str],La5⟩,⟨[.d aL],La5⟩,dM [(6,(.j ⟨[1],[0,5],⟨v8,La5⟩,[]⟩))]⟩
def Lg:cj:=cn Al jw
def qo:FT:=⟨⟨[.ptr 0 0,.d (.sl .sm)],La5⟩,⟨[],La4⟩,dM [(1,(.a [.ren 0 7])),(3,(.j ⟨[1],[0,4],⟨v8,La4⟩,[]⟩))]⟩
def JA:cj:=cn qo tB
def Ib (n:Nat):cj:=cn qo (dI n)
def uV:FT:=⟨⟨[.ptr 0 0,.d .sm],La5⟩,⟨[],La4⟩,dM [(1,(.a [.ren 0 7])),(10,(.j ⟨[],[],⟨[],La4⟩,[]⟩)),(15,(.j ⟨[4,25],[0,3,31],⟨[.ptr 0 0,.ptr 2 0,.d .bool],[.cells 214 [.d (.sl kJ),.d (.sl qE),.d (.sl lZ),.d (.sl .str),.d (.sl .str),.d (.sl oF),.d (.sl .str),.row 3,.d aL,.d aL],.gone,.cells 228 [.d .sm],.rows 218 M qB]⟩,[]⟩))]⟩
def KL (n:Nat):cj:=cn uV (eE n)
def qp:FT:=⟨⟨[.ptr 0 0,.d .sm],La5⟩,⟨[],La4⟩,.leaf⟩
def B5 (n:Nat):cj:=cn qp (c6 n)
def sq:FT:=⟨⟨[.ptr 0 0,.d .sm,.d aL,.d aL,.d aL],La5⟩,⟨[],La4⟩,.leaf⟩
def FX (n:Nat):cj:=cn sq (dE n)
def CJ:FT:=⟨⟨[.d MR],[]⟩,⟨[.d t_,.d aL,.d aL],[]⟩,dM [(20,(.j ⟨[],[1,2,7,8,9],⟨[.ptr 0 0,.ptr 1 0,.ptr 2 0,.d aL,.d aL],[.cells 183 [.d MR],.cells 150 XD,.cells 150 [.d (.sl kJ),.d (.sl qE),.d (.sl lZ),.d (.sl .str),.d (.sl .str),.d (.sl oF),.row 3],.rows 201 M v9]⟩,[.cel 7 6 201 v9]⟩)),(32,(.a [.cel 10 7 218 qB])),(45,(.j ⟨[8,9],[1,2,7,10,11,12],⟨agl,ajx⟩,[]⟩)),(59,(.j ⟨[8,9,12,13],[1,2,7,10,11,14],⟨agl,ajx⟩,[]⟩))]⟩
def N0:cj:=cn CJ p_
def Qv:FT:=⟨⟨GM,[]⟩,⟨[.d .bool],[]⟩,dM [(6,(.j ⟨[0,1],[5],⟨[.d aL],[]⟩,[]⟩))]⟩
def Zw:cj:=cn Qv oq
def Qu:FT:=⟨⟨GM,[]⟩,⟨qJ,[]⟩,dM [(6,(.j ⟨[0,1],[5],⟨[.d aL],[]⟩,[]⟩)),(8,(.j ⟨[0,1,5],[18],⟨[.d .bool],[]⟩,[]⟩)),(16,(.j ⟨[0,1,5],[32],⟨[.d .bool],[]⟩,[]⟩))]⟩
def Zv:cj:=cn Qu vy
def I8:FT:=⟨⟨[.d (.sl aL),.d (.sl aL)],[]⟩,⟨qJ,[]⟩,dM [(8,(.j ⟨[0,1],[5,6],⟨GM,[]⟩,[]⟩)),(23,(.j ⟨[1],[5,7],⟨GM,[]⟩,[]⟩))]⟩
def TJ:cj:=cn I8 qQ
def Ak:FT:=⟨⟨[.d aL],[]⟩,⟨[.d aL],[]⟩,dM [(3,(.j ⟨[0],[8],⟨[.d .bool],[]⟩,[]⟩))]⟩
def Lf:cj:=cn Ak ml
def Mv:FT:=⟨⟨[.d eI],[]⟩,⟨[.agg adb],aaa⟩,dM [(8,(.j ⟨[],[1,2,3,4],⟨Eu,[.cells 205 [.d eI],.cells 205 VQ,.cells 205 [.d aL,.row 3,.row 4,.d aL],.rows 2 M aL,.rows 58 M (.sl aL)]⟩,[.cel 3 2 58 (.sl aL)]⟩))]⟩
def WP:cj:=cn Mv ci
def Mu:FT:=⟨⟨[.d qB,.agg adb],aaa⟩,⟨[.agg adb,.d .bool],aaa⟩,dM [(8,(.j ⟨[6],[2,3,4,7],⟨[.ptr 2 0,.ptr 3 0,.ptr 4 0,.d aL],agw⟩,[]⟩)),(17,(.j ⟨[6,7],[2,3,4,33],⟨[.ptr 2 0,.ptr 3 0,.ptr 4 0,.d .bool],agw⟩,[]⟩)),(32,(.j ⟨[],[2,3,4,8,9,10],⟨[.ptr 2 0,.ptr 3 0,.ptr 4 0,.d aL,.d .bool,.d (.sl aL)],agw⟩,[]⟩))]⟩
def WO:cj:=cn Mu vx
def Fs:FT:=⟨⟨[.d v9,.d eI],[]⟩,⟨[.d eI,.d .bool],[]⟩,dM [(3,(.j ⟨[],[2,3,4,23],⟨Bu,[.cells 201 [.d v9],.cells 205 [.d eI],.cells 205 VQ]⟩,[]⟩)),(16,(.j ⟨[],[2,3,4,6],⟨Eu,ajo⟩,[]⟩)),(26,(.j ⟨[6],[2,3,4,44],⟨Bu,ajo⟩,[]⟩))]⟩
def Q6:cj:=cn Fs nk
def I6:FT:=⟨⟨[.d nV],[]⟩,⟨[.d Db],[]⟩,dM [(8,(.j ⟨[],[1,2,3,4],⟨Eu,[.cells 28 [.d nV],.cells 84 t7,.cells 84 [.row 3,.d aL,.nil,.nil],.rows 157 M dt]⟩,[.cel 3 0 157 dt]⟩)),(23,(.j ⟨[],[1,2,3,5],⟨Eu,[.cells 28 [.d nV],.cells 84 t7,.cells 84 [.row 3,.d aL,.row 4,.nil],.rows 157 M dt,.rows 4 M .bool]⟩,[.cel 3 2 4 .bool]⟩)),(38,(.j ⟨[],[1,2,3,6],⟨Eu,[.cells 28 [.d nV],.cells 84 t7,.cells 84 aa5,.rows 157 M dt,.rows 4 M .bool,.rows 159 M gH]⟩,[.cel 3 3 159 gH]⟩)),(49,(.j ⟨[6],[1,2,3,7],⟨aa7,[.cells 28 [.d nV],.cells 84 t7,.cells 84 [.row 4,.d aL,.row 5,.row 6],.cells 159 [.d gH],.rows 157 M dt,.rows 4 M .bool,.rows 159 M gH]⟩,[]⟩))]⟩
def TG:cj:=cn I6 ph
def Ms:FT:=⟨⟨[.d nV,.d Db],[]⟩,⟨[.d .bool],[]⟩,dM [(6,(.j ⟨[],[2,3,5],⟨uj,UD⟩,[]⟩)),(15,(.j ⟨[5],[2,3,31],⟨qv,UD⟩,[]⟩)),(23,(.j ⟨[],[4],⟨[.d .bool],[]⟩,[]⟩))]⟩
def WM:cj:=cn Ms nG
def Vl:FT:=⟨⟨uX,[]⟩,⟨[.d .bool],[]⟩,dM [(2,(.j ⟨[],[4],⟨[.d .bool],[]⟩,[]⟩))]⟩
def ack:cj:=cn Vl pY
def I5:FT:=⟨⟨[.d nV,.d aL,.d aL],[]⟩,⟨[.d .bool],[]⟩,dM [(6,(.j ⟨[2,7],[3,8],⟨gZ,pK⟩,[]⟩)),(36,(.j ⟨[2,7],[3,18],⟨gZ,pK⟩,[]⟩)),(46,(.j ⟨[2,7],[3,26],⟨gZ,pK⟩,[]⟩)),(53,(.j ⟨[],[6],⟨[.d .bool],[]⟩,[]⟩)),(56,(.j ⟨[2,7],[3,43],⟨gZ,pK⟩,[]⟩)),(71,(.j ⟨[],[6],⟨[.d .bool],[]⟩,[]⟩)),(74,(.j ⟨[2,7],[3,61],⟨gZ,pK⟩,[]⟩)),(92,(.j ⟨[2,7],[3,71],⟨gZ,pK⟩,[]⟩)),(102,(.j ⟨[2],[3,79],⟨gZ,pK⟩,[]⟩))]⟩
def TE:cj:=cn I5 pg
def CG:FT:=⟨⟨[.d nV,.d Db,.d aL,.d aL,.d aL],[]⟩,⟨[.d .bool],[]⟩,dM [(3,(.j ⟨[2,3,4],[5,6,30],⟨qv,UD⟩,[]⟩)),(25,(.j ⟨[],[10],⟨[.d .bool],[]⟩,[]⟩)),(50,(.j ⟨[],[10],⟨[.d .bool],[]⟩,[]⟩)),(56,(.j ⟨[],[10],⟨[.d .bool],[]⟩,[]⟩)),(59,(.j ⟨[2,4,70],[5,6,11,119],⟨Bu,[.cells 28 [.d nV],.cells 84 [.d Db],.cells 159 [.d gH]]⟩,[]⟩)),(99,(.j ⟨[2,4,70],[5,6,160],⟨qv,UD⟩,[]⟩)),(116,(.j ⟨[],[10],⟨[.d .bool],[]⟩,[]⟩)),(122,(.j ⟨[],[10],⟨[.d .bool],[]⟩,[]⟩))]⟩
def NX:cj:=cn CG iA
def CF:FT:=⟨⟨[.d Db,.d aL],[]⟩,⟨qJ,[]⟩,dM [(8,(.j ⟨[1],[2,5,6],⟨UC,aa6⟩,[.nil 5 3 aL]⟩)),(16,(.j ⟨[1,6],[2,5],⟨[.ptr 0 0,.row 1],aa6⟩,[]⟩)),(17,(.j ⟨[1,6],[2,5,30],⟨[.ptr 0 0,.row 1,.d .bool],aa6⟩,[]⟩))]⟩
def NV:cj:=cn CF nF
def CE:FT:=⟨⟨GM,[]⟩,⟨qJ,[]⟩,dM [(8,(.j ⟨[0,1],[5,6],⟨[.row 0,.d aL],[.rows 3 M aL]⟩,[.nil 5 3 aL]⟩)),(16,(.j ⟨[0,1,6],[5],⟨[.row 0],[.rows 3 M aL]⟩,[]⟩))]⟩
def NU:cj:=cn CE pX
def Mt:FT:=⟨⟨[.d Db],[]⟩,⟨[.agg GO],agm⟩,dM [(8,(.j ⟨[],[1,2,3,4],⟨Eu,[.cells 84 [.d Db],.cells 84 t7,.cells 84 aa5,.rows 157 M dt,.rows 4 M .bool,.rows 159 M gH]⟩,[.cel 3 0 157 dt]⟩))]⟩
def WN:cj:=cn Mt io
def mo:FT:=⟨⟨[.agg GO,.d aL],agm⟩,⟨qJ,agm⟩,dM [(8,(.j ⟨[1],[2,5,6],⟨[.ptr 3 0,.row 4,.d aL],ags⟩,[.nil 5 3 aL]⟩)),(16,(.j ⟨[1,6],[2,5],⟨[.ptr 3 0,.row 4],ags⟩,[]⟩)),(17,(.j ⟨[1,6],[2,5,30],⟨[.ptr 3 0,.row 4,.d .bool],ags⟩,[]⟩))]⟩
def Ld:cj:=cn mo mj
def Jy:cj:=⟨mo.pre,⟨mo.post.vs,[]⟩,jH⟩
def I7:FT:=⟨⟨[.d nV,.d Db,.d aL,.d aL,.d aL,.d aL],[]⟩,⟨[.d Db,.d aL,.d .bool],[]⟩,dM [(17,(.j ⟨[],[7,12,15],⟨uj,agu⟩,[]⟩)),(26,(.j ⟨[2,4,5,15,30],[6,7,12,45],⟨Bu,ajp⟩,[]⟩)),(34,(.j ⟨[2,4,5,15,30],[6,7,12,54],⟨Bu,ajp⟩,[]⟩)),(90,(.j ⟨[],[7,12,17],⟨uj,agu⟩,[]⟩)),(109,(.j ⟨[18],[7,12,19],⟨uj,agu⟩,[]⟩))]⟩
def TI:cj:=cn I7 pi
def I4:FT:=⟨⟨[.d t_],[]⟩,⟨[.d u0],[]⟩,dM [(16,(.j ⟨[],[1,2,3,4],⟨Eu,[.cells 150 [.d t_],.cells 145 uY,.cells 145 [.d (.sl dt),.d aL,.d mf,.d (.sl gH),.row 3,.nil,.nil],.rows 2 M aL]⟩,[.cel 3 4 2 aL]⟩)),(31,(.j ⟨[],[1,2,3,5],⟨Eu,[.cells 150 [.d t_],.cells 145 uY,.cells 145 [.d (.sl dt),.d aL,.d mf,.d (.sl gH),.row 3,.row 4,.nil],.rows 2 M aL,.rows 2 M aL]⟩,[.cel 3 5 2 aL]⟩)),(46,(.j ⟨[],[1,2,3,6],⟨Eu,[.cells 150 [.d t_],.cells 145 uY,.cells 145 agt,.rows 2 M aL,.rows 2 M aL,.rows 205 M eI]⟩,[.cel 3 6 205 eI]⟩))]⟩
def TD:cj:=cn I4 tu
def Mr:FT:=⟨⟨[.d t_,.d u0],[]⟩,⟨[.d .bool],[]⟩,dM [(3,(.j ⟨[],[2,3,46],⟨qv,aa9⟩,[]⟩)),(14,(.j ⟨[],[2,3,5],⟨uj,aa9⟩,[]⟩)),(25,(.j ⟨[5],[2,3,97],⟨qv,aa9⟩,[]⟩))]⟩
def WJ:cj:=cn Mr vu
def Mp:FT:=⟨⟨[.d aL],[]⟩,⟨[.d aL],[]⟩,dM [(5,(.j ⟨[0],[3,10],⟨[.row 0,.d .bool],[.rows 3 aa aL]⟩,[]⟩))]⟩
def WH:cj:=cn Mp vq
def E9:FT:=⟨⟨[.d qB,.d eI],[]⟩,⟨[.d aL],[]⟩,dM [(6,(.j ⟨[6],[2,3,7],⟨qv,[.cells 218 [.d qB],.cells 205 [.d eI]]⟩,[]⟩)),(28,(.j ⟨[],[2,40],⟨gZ,[.cells 218 [.d qB]]⟩,[]⟩))]⟩
def QJ:cj:=cn E9 rR
def CD:FT:=⟨⟨[.d t_,.d u0,.d aL],[]⟩,⟨[.d gV,.d .bool],[]⟩,dM [(3,(.j ⟨[2],[3,4,6,25],⟨Bu,[.cells 150 [.d t_],.cells 145 [.d u0],.cells 60 uk]⟩,[]⟩)),(54,(.j ⟨[],[6,8,9,10],⟨aa7,ajm⟩,[.cel 10 5 3 aL]⟩)),(59,(.j ⟨[],[6,8,9,10,98],⟨t8,[.cells 60 uk,.cells 205 [.d eI],.cells 218 [.d qB],.cells 60 uk]⟩,[]⟩)),(68,(.j ⟨[],[6,10],⟨[.ptr 0 0,.ptr 1 0],[.cells 60 uk,.cells 60 [.d aL,.d aL,.d aL,.d aL,.d aL,.row 2,.row 3],.rows 3 M aL,.rows 3 M aL]⟩,[.cel 10 6 3 aL]⟩)),(69,(.j ⟨[],[6,8,9,10,123],⟨t8,ajm⟩,[]⟩))]⟩
def NT:cj:=cn CD nE
def I2:FT:=⟨⟨[.d nV],[]⟩,⟨[.d iO],[]⟩,dM [(8,(.j ⟨[],[1,2,3,4],⟨Eu,[.cells 28 [.d nV],.cells 87 uY,.cells 87 agt,.rows 2 M aL,.rows 2 aa aL,.rows 3 aa aL]⟩,[.cel 3 4 2 aL]⟩))]⟩
def TA:cj:=cn I2 mU
def Mo:FT:=⟨⟨[.d nV,.d iO],[]⟩,⟨[.d .bool],[]⟩,dM [(2,(.j ⟨[],[4],⟨[.d .bool],[]⟩,[]⟩))]⟩
def WG:cj:=cn Mo qP
def Vk:FT:=⟨⟨uX,[]⟩,⟨[.d .bool],[]⟩,dM [(2,(.j ⟨[],[4],⟨[.d .bool],[]⟩,[]⟩))]⟩
def acj:cj:=cn Vk B1
def CC:FT:=⟨⟨GM,[]⟩,⟨[.d .bool],[]⟩,dM [(6,(.j ⟨[0,1],[5],⟨[.d aL],[]⟩,[]⟩)),(15,(.j ⟨[0,1,5],[40],⟨[.d .bool],[]⟩,[]⟩))]⟩
def NS:cj:=cn CC kj
def I0:FT:=⟨⟨[.d iO,.d gV],[]⟩,⟨[.d .bool],[]⟩,dM [(21,(.j ⟨[],[4],⟨[.d .bool],[]⟩,[]⟩)),(24,(.j ⟨[7],[2,3,40],⟨qv,[.cells 87 [.d iO],.cells 60 [.d gV]]⟩,[]⟩)),(47,(.j ⟨[],[4],⟨[.d .bool],[]⟩,[]⟩))]⟩
def Tx:cj:=cn I0 pf
def Mn:FT:=⟨⟨[.d nV,.d iO,.d gV],[]⟩,⟨[.d iO,.d .bool],[]⟩,dM [(3,(.j ⟨[],[3,4,5,6,46],⟨t8,Ka⟩,[]⟩)),(10,(.j ⟨[],[3,4,5,6],⟨aa7,Ka⟩,[]⟩)),(11,(.j ⟨[],[3,4,5,6,55],⟨t8,Ka⟩,[]⟩)),(21,(.j ⟨[],[3,4,5,6,78],⟨t8,Ka⟩,[]⟩)),(28,(.j ⟨[],[3,4,5,6,8],⟨t8,Ka⟩,[]⟩)),(31,(.j ⟨[],[3,4,5,6,110],⟨t8,Ka⟩,[]⟩)),(39,(.j ⟨[],[3,4,5,6,125],⟨t8,Ka⟩,[]⟩)),(47,(.j ⟨[],[3,4,5,6,154],⟨t8,Ka⟩,[]⟩)),(58,(.j ⟨[],[3,4,5,6,9,10],⟨agl,[.cells 28 [.d nV],.cells 87 [.d iO],.cells 60 [.d gV],.cells 87 uY,.cells 87 [.nil,.d aL,.nil,.nil,.row 5,.row 6,.row 7],.rows 2 M aL,.rows 2 M aL,.rows 3 M aL]⟩,[]⟩)),(66,(.j ⟨[],[5,6,9],⟨[.ptr 0 0,.ptr 1 0,.ptr 2 0],agj⟩,[]⟩)),(72,(.j ⟨[],[5,6,9],⟨[.ptr 0 0,.ptr 1 0,.ptr 2 0],agj⟩,[]⟩))]⟩
def WF:cj:=cn Mn nD
def I1:FT:=⟨⟨[.d (.sl gV),.d aL,.d aL,.d (.sl aL)],[]⟩,⟨[.d .bool],[]⟩,dM [(6,(.j ⟨[0,1,2,3],[9],⟨[.d aL],[]⟩,[]⟩)),(23,(.j ⟨[0,1,2,3,9],[10,11,12],⟨[.d aL,.d .bool,.d aL],[]⟩,[]⟩)),(31,(.j ⟨[0,1,2,3,9,12],[10,11],⟨[.d aL,.d .bool],[]⟩,[]⟩)),(38,(.j ⟨[0,1,2,3,9,10,12],[11],⟨[.d .bool],[]⟩,[]⟩))]⟩
def Tz:cj:=cn I1 mT
def I3:FT:=⟨⟨[.d Ka24],[]⟩,⟨uX,[]⟩,dM [(24,(.j ⟨[],[1,4,5],⟨uj,[.cells 31 [.d Ka24],.cells 87 [.d iO]]⟩,[]⟩)),(38,(.j ⟨[5],[1,4,7,63],⟨Bu,[.cells 31 [.d Ka24],.cells 87 [.d iO],.cells 87 [.d iO]]⟩,[]⟩))]⟩
def TB:cj:=cn I3 mV
def Fr:FT:=⟨⟨[.d u0],[]⟩,⟨[.agg [.agg GO,.row 3,.row 4,.csl 5 4 1]],[.rows 157 M dt,.rows 4 M .bool,.rows 159 M gH,.rows 2 M aL,.rows 2 M aL,.cells 205 [.d aL,.row 6,.row 7,.d aL],.rows 2 M aL,.rows 58 M (.sl aL)]⟩,dM [(8,(.u 2))]⟩
def Q5:cj:=cn Fr nj
def Fh:FT:=⟨⟨LC,[]⟩,⟨LD,[]⟩,dM [(27,(.s 5 0 0 1)),(37,(.j ⟨[],[3,4,5,6,7,9,14,15,16],⟨LI,ah5⟩,[]⟩)),(38,(.j ⟨[16,77],[3,4,5,6,7,9,14,15,78],⟨MQ,ah5⟩,[]⟩)),(83,(.j ⟨[16],[3,4,5,6,7,9,14],⟨LG,[.cells 150 [.d t_],.cells 145 aev,.cells 186 [.d ju],.cells 145 uY,.cells 60 uk,.cells 60 [.d gV],.cells 205 J9,.rows 2 M aL,.rows 2 M aL,.cells 205 J9,.rows 2 M aL,.rows 58 M (.sl aL)]⟩,[]⟩)),(84,(.j ⟨[16],[3,4,5,6,7,9,14,15,154],⟨MQ,ah5⟩,[]⟩)),(95,(.j ⟨[],[4,5,6,7,9,14],⟨LF,[.cells 145 [.d (.sl dt),.d aL,.d mf,.d (.sl gH),.row 6,.row 7,.csl 8 4 1],.cells 186 [.d ju],.cells 145 uY,.cells 60 uk,.cells 60 [.d gV],.cells 205 [.d eI],.rows 2 M aL,.rows 2 M aL,.cells 205 [.d eI]]⟩,[]⟩)),(96,(.j ⟨[],[3,4,5,6,7,9,14,183],⟨LH,[.cells 150 [.d t_],.cells 145 aev,.cells 186 [.d ju],.cells 145 uY,.cells 60 uk,.cells 60 [.d gV],.cells 205 J_,.rows 2 M aL,.rows 2 M aL,.cells 205 J_]⟩,[]⟩)),(102,(.s 5 0 0 1)),(104,(.a [.pk 4 6 eI]))]⟩
def QV:cj:=cn Fh fR
def Fq:FT:=⟨⟨[.d u0],[]⟩,⟨[.agg [.agg GO,.row 3,.row 4,.csl 5 4 2]],[.rows 157 M dt,.rows 4 M .bool,.rows 159 M gH,.rows 2 M aL,.rows 2 M aL,.cells 205 [.d aL,.row 6,.row 7,.d aL,.d eI],.rows 2 M aL,.rows 58 M (.sl aL)]⟩,dM [(8,(.u 3))]⟩
def Q4:cj:=cn Fq nh
def Fg:FT:=⟨⟨LC,[]⟩,⟨LD,[]⟩,dM [(27,(.s 5 0 0 1)),(37,(.j ⟨[],[3,4,5,6,7,9,14,15,16],⟨LI,ah7⟩,[]⟩)),(38,(.j ⟨[16,77],[3,4,5,6,7,9,14,15,78],⟨MQ,ah7⟩,[]⟩)),(83,(.j ⟨[16],[3,4,5,6,7,9,14],⟨LG,[.cells 150 [.d t_],.cells 145 adk,.cells 186 [.d ju],.cells 145 uY,.cells 60 uk,.cells 60 [.d gV],.cells 205 J9,.rows 2 M aL,.rows 2 M aL,.cells 205 [.d aL,.row 10,.row 11,.d aL,.d eI],.rows 2 M aL,.rows 58 M (.sl aL)]⟩,[]⟩)),(84,(.j ⟨[16],[3,4,5,6,7,9,14,15,154],⟨MQ,ah7⟩,[]⟩)),(95,(.j ⟨[],[4,5,6,7,9,14],⟨LF,ajw⟩,[]⟩)),(96,(.j ⟨[],[3,4,5,6,7,9,14,183],⟨LH,[.cells 150 [.d t_],.cells 145 adk,.cells 186 [.d ju],.cells 145 uY,.cells 60 uk,.cells 60 [.d gV],.cells 205 J_,.rows 2 M aL,.rows 2 M aL,.cells 205 [.d aL,.d (.sl aL),.d uZ,.d aL,.d eI]]⟩,[]⟩)),(102,(.s 5 0 0 1)),(104,(.a [.pk 4 6 eI]))]⟩
def QU:cj:=cn Fg gA
def Fp:FT:=⟨⟨[.d u0],[]⟩,⟨[.agg [.agg GO,.row 3,.row 4,.csl 5 4 2]],[.rows 157 M dt,.rows 4 M .bool,.rows 159 M gH,.rows 2 M aL,.rows 2 M aL,.cells 205 [.d eI,.d aL,.row 6,.row 7,.d aL],.rows 2 M aL,.rows 58 M (.sl aL)]⟩,dM [(8,(.u 3))]⟩
def Q3:cj:=cn Fp ng
def Ff:FT:=⟨⟨LC,[]⟩,⟨LD,[]⟩,dM [(27,(.s 5 0 1 1)),(37,(.j ⟨[],[3,4,5,6,7,9,14,15,16],⟨LI,ah6⟩,[]⟩)),(38,(.j ⟨[16,77],[3,4,5,6,7,9,14,15,78],⟨MQ,ah6⟩,[]⟩)),(83,(.j ⟨[16],[3,4,5,6,7,9,14],⟨LG,[.cells 150 [.d t_],.cells 145 adk,.cells 186 [.d ju],.cells 145 uY,.cells 60 uk,.cells 60 [.d gV],.cells 205 J9,.rows 2 M aL,.rows 2 M aL,.cells 205 [.d eI,.d aL,.row 10,.row 11,.d aL],.rows 2 M aL,.rows 58 M (.sl aL)]⟩,[]⟩)),(84,(.j ⟨[16],[3,4,5,6,7,9,14,15,154],⟨MQ,ah6⟩,[]⟩)),(95,(.j ⟨[],[4,5,6,7,9,14],⟨LF,ajw⟩,[]⟩)),(96,(.j ⟨[],[3,4,5,6,7,9,14,183],⟨LH,[.cells 150 [.d t_],.cells 145 adk,.cells 186 [.d ju],.cells 145 uY,.cells 60 uk,.cells 60 [.d gV],.cells 205 J_,.rows 2 M aL,.rows 2 M aL,.cells 205 [.d eI,.d aL,.d (.sl aL),.d uZ,.d aL]]⟩,[]⟩)),(102,(.s 5 0 1 1)),(104,(.a [.pk 4 6 eI]))]⟩
def QR:cj:=cn Ff fQ
def Fo:FT:=⟨⟨[.d u0],[]⟩,⟨agi,[.rows 157 M dt,.rows 4 M .bool,.rows 159 M gH,.rows 2 M aL,.rows 2 M aL,.cells 205 [.d aL,.row 6,.row 7,.d aL,.d eI,.d eI],.rows 2 M aL,.rows 58 M (.sl aL)]⟩,dM [(8,(.u 4))]⟩
def Q2:cj:=cn Fo ne
def Fe:FT:=⟨⟨LC,[]⟩,⟨LD,[]⟩,dM [(27,(.s 5 0 0 1)),(37,(.j ⟨[],[3,4,5,6,7,9,14,15,16],⟨LI,aha⟩,[]⟩)),(38,(.j ⟨[16,77],[3,4,5,6,7,9,14,15,78],⟨MQ,aha⟩,[]⟩)),(83,(.j ⟨[16],[3,4,5,6,7,9,14],⟨LG,[.cells 150 [.d t_],.cells 145 XE,.cells 186 [.d ju],.cells 145 uY,.cells 60 uk,.cells 60 [.d gV],.cells 205 J9,.rows 2 M aL,.rows 2 M aL,.cells 205 [.d aL,.row 10,.row 11,.d aL,.d eI,.d eI],.rows 2 M aL,.rows 58 M (.sl aL)]⟩,[]⟩)),(84,(.j ⟨[16],[3,4,5,6,7,9,14,15,154],⟨MQ,aha⟩,[]⟩)),(95,(.j ⟨[],[4,5,6,7,9,14],⟨LF,ah0⟩,[]⟩)),(96,(.j ⟨[],[3,4,5,6,7,9,14,183],⟨LH,[.cells 150 [.d t_],.cells 145 XE,.cells 186 [.d ju],.cells 145 uY,.cells 60 uk,.cells 60 [.d gV],.cells 205 J_,.rows 2 M aL,.rows 2 M aL,.cells 205 [.d aL,.d (.sl aL),.d uZ,.d aL,.d eI,.d eI]]⟩,[]⟩)),(102,(.s 5 0 0 1)),(104,(.a [.pk 4 6 eI]))]⟩
def QQ:cj:=cn Fe jv
def Fn:FT:=⟨⟨[.d u0],[]⟩,⟨agi,[.rows 157 M dt,.rows 4 M .bool,.rows 159 M gH,.rows 2 M aL,.rows 2 M aL,.cells 205 [.d eI,.d aL,.row 6,.row 7,.d aL,.d eI],.rows 2 M aL,.rows 58 M (.sl aL)]⟩,dM [(8,(.u 4))]⟩
def Q1:cj:=cn Fn m_
def Fd:FT:=⟨⟨LC,[]⟩,⟨LD,[]⟩,dM [(27,(.s 5 0 1 1)),(37,(.j ⟨[],[3,4,5,6,7,9,14,15,16],⟨LI,ah9⟩,[]⟩)),(38,(.j ⟨[16,77],[3,4,5,6,7,9,14,15,78],⟨MQ,ah9⟩,[]⟩)),(83,(.j ⟨[16],[3,4,5,6,7,9,14],⟨LG,[.cells 150 [.d t_],.cells 145 XE,.cells 186 [.d ju],.cells 145 uY,.cells 60 uk,.cells 60 [.d gV],.cells 205 J9,.rows 2 M aL,.rows 2 M aL,.cells 205 [.d eI,.d aL,.row 10,.row 11,.d aL,.d eI],.rows 2 M aL,.rows 58 M (.sl aL)]⟩,[]⟩)),(84,(.j ⟨[16],[3,4,5,6,7,9,14,15,154],⟨MQ,ah9⟩,[]⟩)),(95,(.j ⟨[],[4,5,6,7,9,14],⟨LF,ah0⟩,[]⟩)),(96,(.j ⟨[],[3,4,5,6,7,9,14,183],⟨LH,[.cells 150 [.d t_],.cells 145 XE,.cells 186 [.d ju],.cells 145 uY,.cells 60 uk,.cells 60 [.d gV],.cells 205 J_,.rows 2 M aL,.rows 2 M aL,.cells 205 [.d eI,.d aL,.d (.sl aL),.d uZ,.d aL,.d eI]]⟩,[]⟩)),(102,(.s 5 0 1 1)),(104,(.a [.pk 4 6 eI]))]⟩
def QP:cj:=cn Fd iF
def Fm:FT:=⟨⟨[.d u0],[]⟩,⟨agi,[.rows 157 M dt,.rows 4 M .bool,.rows 159 M gH,.rows 2 M aL,.rows 2 M aL,.cells 205 [.d eI,.d eI,.d aL,.row 6,.row 7,.d aL],.rows 2 M aL,.rows 58 M (.sl aL)]⟩,dM [(8,(.u 4))]⟩
def Q0:cj:=cn Fm m8
def Fc:FT:=⟨⟨LC,[]⟩,⟨LD,[]⟩,dM [(27,(.s 5 0 2 1)),(37,(.j ⟨[],[3,4,5,6,7,9,14,15,16],⟨LI,ah8⟩,[]⟩)),(38,(.j ⟨[16,77],[3,4,5,6,7,9,14,15,78],⟨MQ,ah8⟩,[]⟩)),(83,(.j ⟨[16],[3,4,5,6,7,9,14],⟨LG,[.cells 150 [.d t_],.cells 145 XE,.cells 186 [.d ju],.cells 145 uY,.cells 60 uk,.cells 60 [.d gV],.cells 205 J9,.rows 2 M aL,.rows 2 M aL,.cells 205 [.d eI,.d eI,.d aL,.row 10,.row 11,.d aL],.rows 2 M aL,.rows 58 M (.sl aL)]⟩,[]⟩)),(84,(.j ⟨[16],[3,4,5,6,7,9,14,15,154],⟨MQ,ah8⟩,[]⟩)),(95,(.j ⟨[],[4,5,6,7,9,14],⟨LF,ah0⟩,[]⟩)),(96,(.j ⟨[],[3,4,5,6,7,9,14,183],⟨LH,[.cells 150 [.d t_],.cells 145 XE,.cells 186 [.d ju],.cells 145 uY,.cells 60 uk,.cells 60 [.d gV],.cells 205 J_,.rows 2 M aL,.rows 2 M aL,.cells 205 [.d eI,.d eI,.d aL,.d (.sl aL),.d uZ,.d aL]]⟩,[]⟩)),(102,(.s 5 0 2 1)),(104,(.a [.pk 4 6 eI]))]⟩
def QO:cj:=cn Fc g_
def Fl:FT:=⟨⟨[.d u0],[]⟩,⟨adi,[.rows 157 M dt,.rows 4 M .bool,.rows 159 M gH,.rows 2 M aL,.rows 2 M aL,.cells 205 [.d aL,.row 6,.row 7,.d aL,.d eI,.d eI,.d eI],.rows 2 M aL,.rows 58 M (.sl aL)]⟩,dM [(8,(.u 5))]⟩
def QZ:cj:=cn Fl m7
def dB:FT:=⟨⟨LC,[]⟩,⟨LD,[]⟩,dM [(27,(.s 5 0 0 1)),(37,(.j ⟨[],[3,4,5,6,7,9,14,15,16],⟨LI,ah4⟩,[]⟩)),(38,(.j ⟨[16,77],[3,4,5,6,7,9,14,15,78],⟨MQ,ah4⟩,[]⟩)),(83,(.j ⟨[16],[3,4,5,6,7,9,14],⟨LG,[.cells 150 [.d t_],.cells 145 RG,.cells 186 [.d ju],.cells 145 uY,.cells 60 uk,.cells 60 [.d gV],.cells 205 J9,.rows 2 M aL,.rows 2 M aL,.cells 205 [.d aL,.row 10,.row 11,.d aL,.d eI,.d eI,.d eI],.rows 2 M aL,.rows 58 M (.sl aL)]⟩,[]⟩)),(84,(.j ⟨[16],[3,4,5,6,7,9,14,15,154],⟨MQ,ah4⟩,[]⟩)),(95,(.j ⟨[],[4,5,6,7,9,14],⟨LF,adl⟩,[]⟩)),(96,(.j ⟨[],[3,4,5,6,7,9,14,183],⟨LH,[.cells 150 [.d t_],.cells 145 RG,.cells 186 [.d ju],.cells 145 uY,.cells 60 uk,.cells 60 [.d gV],.cells 205 J_,.rows 2 M aL,.rows 2 M aL,.cells 205 [.d aL,.d (.sl aL),.d uZ,.d aL,.d eI,.d eI,.d eI]]⟩,[]⟩)),(102,(.s 5 0 0 1)),(104,(.a [.pk 4 6 eI]))]⟩
def QN:cj:=cn dB mX
def Fk:FT:=⟨⟨[.d u0],[]⟩,⟨adi,[.rows 157 M dt,.rows 4 M .bool,.rows 159 M gH,.rows 2 M aL,.rows 2 M aL,.cells 205 [.d eI,.d aL,.row 6,.row 7,.d aL,.d eI,.d eI],.rows 2 M aL,.rows 58 M (.sl aL)]⟩,dM [(8,(.u 5))]⟩
def QY:cj:=cn Fk m6
def Fb:FT:=⟨⟨LC,[]⟩,⟨LD,[]⟩,dM [(27,(.s 5 0 1 1)),(37,(.j ⟨[],[3,4,5,6,7,9,14,15,16],⟨LI,ah3⟩,[]⟩)),(38,(.j ⟨[16,77],[3,4,5,6,7,9,14,15,78],⟨MQ,ah3⟩,[]⟩)),(83,(.j ⟨[16],[3,4,5,6,7,9,14],⟨LG,[.cells 150 [.d t_],.cells 145 RG,.cells 186 [.d ju],.cells 145 uY,.cells 60 uk,.cells 60 [.d gV],.cells 205 J9,.rows 2 M aL,.rows 2 M aL,.cells 205 [.d eI,.d aL,.row 10,.row 11,.d aL,.d eI,.d eI],.rows 2 M aL,.rows 58 M (.sl aL)]⟩,[]⟩)),(84,(.j ⟨[16],[3,4,5,6,7,9,14,15,154],⟨MQ,ah3⟩,[]⟩)),(95,(.j ⟨[],[4,5,6,7,9,14],⟨LF,adl⟩,[]⟩)),(96,(.j ⟨[],[3,4,5,6,7,9,14,183],⟨LH,[.cells 150 [.d t_],.cells 145 RG,.cells 186 [.d ju],.cells 145 uY,.cells 60 uk,.cells 60 [.d gV],.cells 205 J_,.rows 2 M aL,.rows 2 M aL,.cells 205 [.d eI,.d aL,.d (.sl aL),.d uZ,.d aL,.d eI,.d eI]]⟩,[]⟩)),(102,(.s 5 0 1 1)),(104,(.a [.pk 4 6 eI]))]⟩
def QM:cj:=cn Fb mW
def Fj:FT:=⟨⟨[.d u0],[]⟩,⟨adi,[.rows 157 M dt,.rows 4 M .bool,.rows 159 M gH,.rows 2 M aL,.rows 2 M aL,.cells 205 [.d eI,.d eI,.d aL,.row 6,.row 7,.d aL,.d eI],.rows 2 M aL,.rows 58 M (.sl aL)]⟩,dM [(8,(.u 5))]⟩
def QX:cj:=cn Fj mZ
def Fa:FT:=⟨⟨LC,[]⟩,⟨LD,[]⟩,dM [(27,(.s 5 0 2 1)),(37,(.j ⟨[],[3,4,5,6,7,9,14,15,16],⟨LI,ah2⟩,[]⟩)),(38,(.j ⟨[16,77],[3,4,5,6,7,9,14,15,78],⟨MQ,ah2⟩,[]⟩)),(83,(.j ⟨[16],[3,4,5,6,7,9,14],⟨LG,[.cells 150 [.d t_],.cells 145 RG,.cells 186 [.d ju],.cells 145 uY,.cells 60 uk,.cells 60 [.d gV],.cells 205 J9,.rows 2 M aL,.rows 2 M aL,.cells 205 [.d eI,.d eI,.d aL,.row 10,.row 11,.d aL,.d eI],.rows 2 M aL,.rows 58 M (.sl aL)]⟩,[]⟩)),(84,(.j ⟨[16],[3,4,5,6,7,9,14,15,154],⟨MQ,ah2⟩,[]⟩)),(95,(.j ⟨[],[4,5,6,7,9,14],⟨LF,adl⟩,[]⟩)),(96,(.j ⟨[],[3,4,5,6,7,9,14,183],⟨LH,[.cells 150 [.d t_],.cells 145 RG,.cells 186 [.d ju],.cells 145 uY,.cells 60 uk,.cells 60 [.d gV],.cells 205 J_,.rows 2 M aL,.rows 2 M aL,.cells 205 [.d eI,.d eI,.d aL,.d (.sl aL),.d uZ,.d aL,.d eI]]⟩,[]⟩)),(102,(.s 5 0 2 1)),(104,(.a [.pk 4 6 eI]))]⟩
def QL:cj:=cn Fa ll
def Fi:FT:=⟨⟨[.d u0],[]⟩,⟨adi,[.rows 157 M dt,.rows 4 M .bool,.rows 159 M gH,.rows 2 M aL,.rows 2 M aL,.cells 205 [.d eI,.d eI,.d eI,.d aL,.row 6,.row 7,.d aL],.rows 2 M aL,.rows 58 M (.sl aL)]⟩,dM [(8,(.u 5))]⟩
def QW:cj:=cn Fi mY
def E_:FT:=⟨⟨LC,[]⟩,⟨LD,[]⟩,dM [(27,(.s 5 0 3 1)),(37,(.j ⟨[],[3,4,5,6,7,9,14,15,16],⟨LI,ah1⟩,[]⟩)),(38,(.j ⟨[16,77],[3,4,5,6,7,9,14,15,78],⟨MQ,ah1⟩,[]⟩)),(83,(.j ⟨[16],[3,4,5,6,7,9,14],⟨LG,[.cells 150 [.d t_],.cells 145 RG,.cells 186 [.d ju],.cells 145 uY,.cells 60 uk,.cells 60 [.d gV],.cells 205 J9,.rows 2 M aL,.rows 2 M aL,.cells 205 [.d eI,.d eI,.d eI,.d aL,.row 10,.row 11,.d aL],.rows 2 M aL,.rows 58 M (.sl aL)]⟩,[]⟩)),(84,(.j ⟨[16],[3,4,5,6,7,9,14,15,154],⟨MQ,ah1⟩,[]⟩)),(95,(.j ⟨[],[4,5,6,7,9,14],⟨LF,adl⟩,[]⟩)),(96,(.j ⟨[],[3,4,5,6,7,9,14,183],⟨LH,[.cells 150 [.d t_],.cells 145 RG,.cells 186 [.d ju],.cells 145 uY,.cells 60 uk,.cells 60 [.d gV],.cells 205 J_,.rows 2 M aL,.rows 2 M aL,.cells 205 [.d eI,.d eI,.d eI,.d aL,.d (.sl aL),.d uZ,.d aL]]⟩,[]⟩)),(102,(.s 5 0 3 1)),(104,(.a [.pk 4 6 eI]))]⟩
def QK:cj:=cn E_ kl
def WL:cj:=cn dB zj
def Mq:FT:=⟨⟨[.d t_,.d u0,.nil,.d (.sl ju)],[]⟩,⟨[.d (.sl gV),.d u0],[]⟩,dM [(1,(.a [.nil 2 60 gV])),(6,(.j ⟨[3],[2,4,5,9,10],⟨[.row 0,.ptr 1 0,.ptr 2 0,.ptr 3 0,.d aL],agr⟩,[]⟩)),(8,(.j ⟨[3,10],[2,4,5,9,22],⟨[.row 0,.ptr 1 0,.ptr 2 0,.ptr 3 0,.d .bool],agr⟩,[]⟩)),(14,(.j ⟨[3,10],[2,4,5,9],⟨[.row 0,.ptr 1 0,.ptr 2 0,.ptr 3 0],agr⟩,[]⟩))]⟩
def WI:cj:=cn Mq vr
def Qt:FT:=⟨⟨[.d t_,.d (.sl ju)],[]⟩,⟨[.d Ka24,.d u0],[]⟩,.leaf⟩
def Zu:cj:=cn Qt ye
def xE:FT:=⟨⟨v8,RE⟩,⟨[.d aL],RE⟩,dM [(3,(.j ⟨[1],[0,18],⟨gZ,XB⟩,[]⟩))]⟩
def GD:cj:=cn xE bE
def My:FT:=⟨⟨[.d aL],[]⟩,⟨[.d .ex],[]⟩,.leaf⟩
def WY:cj:=cn My qW
def Jk:FT:=⟨⟨[.d .str],[]⟩,⟨[.d .ex],[]⟩,.leaf⟩
def Ub:cj:=cn Jk pn
def CP:FT:=⟨⟨[.d aL,.d .ex,.d .ex],[]⟩,⟨[.d .ex],[]⟩,.leaf⟩
def N9:cj:=cn CP nI
def CQ:FT:=⟨⟨[.d .str,.d .ex],[]⟩,⟨[.d .sm],[]⟩,.leaf⟩
def N_:cj:=cn CQ jt
def FC:FT:=⟨⟨[],[]⟩,⟨[.d (.sl FM)],[]⟩,.leaf⟩
def Rj:cj:=cn FC rV
def Av:FT:=⟨⟨[.d Dc],[]⟩,⟨[.d (.sl ju)],[]⟩,dM [(8,(.j ⟨[0],[3,4],⟨[.row 0,.d aL],[.rows 186 M ju]⟩,[.nil 3 186 ju]⟩))]⟩
def Lt:cj:=cn Av oz
def nU:FT:=⟨⟨v8,UE⟩,⟨[.d .ex],UE⟩,dM [(8,(.j ⟨[1,6],[0,4,5,14],⟨[.ptr 0 0,.ptr 3 0,.row 4,.d .bool],[.cells 222 aeu,.cells 140 [.d xQ],.rowsP 9 .str,.cells 226 [.d aL,.d aL,.d .str,.nil],.rows 9 aa .str]⟩,[]⟩))]⟩
def Ej:cj:=cn nU eV
def DG (n:Nat):cj:=cn nU (iq n)
def uK:FT:=⟨⟨[.ptr 0 0,.d .str],UE⟩,⟨[.d .bool],UE⟩,.leaf⟩
def C4:cj:=cn uK eD
def mJ:FT:=⟨⟨RH,UE⟩,⟨[.row 4],[.cells 222 agp,.cells 140 Ow,.gone,.rowsP 9 .str,.rows 228 M .sm]⟩,dM [(1,(.a [.ren 0 7])),(8,(.j ⟨[1,2],[0,7,8],⟨[.ptr 0 0,.row 3,.d aL],ajn⟩,[.nil 7 228 .sm]⟩)),(10,(.j ⟨[1,2,8],[0,7,22],⟨[.ptr 0 0,.row 3,.d .bool],ajn⟩,[]⟩)),(21,(.a [.nil 6 228 .sm]))]⟩
def C3:cj:=cn mJ qb
def B6 (n:Nat):cj:=cn mJ (dF n)
def rh:FT:=⟨⟨v8,UE⟩,⟨[.d .sm],[.cells 222 agp,.cells 140 Ow,.gone,.rowsP 9 .str]⟩,dM [(1,(.a [.ren 0 7])),(6,(.j ⟨[1,5],[0,4,6],⟨J8,La2⟩,[]⟩)),(28,(.j ⟨[1,5,6],[0,4,74],⟨J8,La2⟩,[]⟩)),(33,(.j ⟨[],[4,7],⟨[.ptr 3 0,.ptr 4 0],[.cells 222 [.ptr 1 0,.d aL,.d aL,.d .bool,.d .bool,.d .bool,.d .bool,.row 5],.cells 140 [.d xQ],.gone,.cells 228 aex,.cells 228 [.d aL,.d aL,.d .str,.d .str,.nil,.d aL,.d aL,.d .str,.d (.sl .ex),.row 6,.row 7],.rowsP 9 .str,.rows 228 M .sm,.rows 228 M .sm]⟩,[.cel 7 10 228 .sm]⟩)),(42,(.j ⟨[1,5,6],[0,4,100],⟨J8,La2⟩,[]⟩)),(56,(.j ⟨[1,5,6],[0,4,133],⟨J8,La2⟩,[]⟩)),(64,(.j ⟨[1,5,6],[0,4,165],⟨J8,La2⟩,[]⟩)),(70,(.j ⟨[1,5,6],[0,4,188],⟨J8,La2⟩,[]⟩)),(82,(.j ⟨[1,5,6],[0,4,210],⟨J8,La2⟩,[]⟩)),(94,(.j ⟨[5,6],[0,4,235],⟨J8,La2⟩,[]⟩)),(100,(.j ⟨[5],[0,4,258],⟨J8,La2⟩,[]⟩)),(106,(.j ⟨[5],[0,4,278],⟨J8,La2⟩,[]⟩)),(114,(.j ⟨[],[0,4,308],⟨J8,La2⟩,[]⟩))]⟩
def DF (n:Nat):cj:=cn rh (eo n)
def qr:FT:=⟨⟨[.ptr 0 0,.d .str,.d aL],UE⟩,⟨[.d (.sl .sm)],[.cells 222 agp,.cells 140 Ow,.gone,.rowsP 9 .str]⟩,.leaf⟩
def B7 (n:Nat):cj:=cn qr (dX n)
def Au:FT:=⟨⟨[.d Dc],[]⟩,⟨[.d MR],[]⟩,dM [(5,(.a [.cel 3 7 9 .str])),(14,(.j ⟨[5],[2,3,4,6,7],⟨[.ptr 0 0,.ptr 1 0,.ptr 2 0,.row 3,.d aL],[.cells 183 [.nil,.nil],.cells 222 [.ptr 4 0,.d aL,.d aL,.d .bool,.d .bool,.d .bool,.d .bool,.row 5],.cells 183 [.d (.sl FM),.row 6],.rows 9 aa .str,.cells 140 [.d xQ],.rowsP 9 .str,.rows 212 M sv]⟩,[.cel 4 1 212 sv]⟩)),(27,(.j ⟨[5,7],[2,3,4,6,8],⟨[.ptr 0 0,.ptr 1 0,.ptr 2 0,.row 3,.ptr 4 0],La7⟩,[.cel 8 3 228 .sm]⟩)),(34,(.j ⟨[5,7],[2,3,4,6,8,9],⟨[.ptr 0 0,.ptr 1 0,.ptr 2 0,.row 3,.ptr 4 0,.d aL],La7⟩,[.cel 8 3 228 .sm]⟩)),(48,(.j ⟨[5,7],[2,3,4,6,8],⟨[.ptr 0 0,.ptr 1 0,.ptr 2 0,.row 3,.ptr 4 0],La7⟩,[]⟩)),(49,(.j ⟨[5,7],[2,3,4,6,8,79],⟨[.ptr 0 0,.ptr 1 0,.ptr 2 0,.row 3,.ptr 4 0,.d .bool],La7⟩,[]⟩))]⟩
def Ls:cj:=cn Au oy
def Jl:FT:=⟨⟨[.d Dc],[]⟩,⟨[.d t_],[]⟩,.leaf⟩
def Uc:cj:=cn Jl wB
def FD:FT:=⟨⟨[.d Dc,.d Dc],[]⟩,⟨[.d Ka24],[]⟩,.leaf⟩
def Rk:cj:=cn FD rW
def Cz:FT:=⟨⟨[],[]⟩,⟨[.d nV],[]⟩,dM [(8,(.j ⟨[21],[0,1,22],⟨uj,ajt⟩,[.cel 1 5 106 oF]⟩)),(22,(.j ⟨[2,21,22],[0,1,3],⟨uj,ajt⟩,[]⟩))]⟩
def NQ:cj:=cn Cz nC
def yE:FT:=⟨⟨[.d iO],[]⟩,⟨qJ,[]⟩,dM [(8,(.j ⟨[8,9],[3,10],⟨[.row 0,.d aL],[.rows 3 M aL]⟩,[.nil 3 3 aL]⟩)),(16,(.j ⟨[8,9,10],[3],⟨[.row 0],[.rows 3 M aL]⟩,[]⟩))]⟩
def Jw:cj:=cn yE kU
def Cx:FT:=⟨⟨[],[]⟩,⟨qJ,[]⟩,.leaf⟩
def NO:cj:=cn Cx sO
def Aj:FT:=⟨⟨RH,RE⟩,⟨[.d aL],RE⟩,dM [(6,(.j ⟨[2,7],[0,8],⟨gZ,XB⟩,[]⟩)),(16,(.j ⟨[2,7],[0,16],⟨gZ,XB⟩,[]⟩)),(26,(.j ⟨[2,7],[0,21],⟨gZ,XB⟩,[]⟩)),(44,(.j ⟨[2,7],[0,26],⟨gZ,XB⟩,[]⟩)),(70,(.j ⟨[2],[0,33],⟨gZ,XB⟩,[]⟩))]⟩
def Lc:cj:=cn Aj oo
def Cw:FT:=⟨⟨[.ptr 0 0,.d iO,.d aL,.d aL],RE⟩,⟨[.d aL],RE⟩,dM [(18,(.j ⟨[10],[0,5,24],⟨qv,[.cells 140 [.d xQ],.cells 87 [.d iO]]⟩,[]⟩))]⟩
def NL:cj:=cn Cw pU
def E7:FT:=⟨⟨[.ptr 0 0,.row 1],[.cells 140 Ow,.rows 3 M aL]⟩,⟨qJ,[.cells 140 Ow,.rows 3 M aL]⟩,dM [(8,(.j ⟨[9],[0,1,5,8,10],⟨[.ptr 0 0,.row 1,.row 2,.row 1,.d aL],agk⟩,[.nil 5 3 aL]⟩)),(16,(.j ⟨[9,10],[0,1,5,8],⟨[.ptr 0 0,.row 1,.row 2,.row 1],agk⟩,[]⟩)),(19,(.j ⟨[7,9,10],[0,1,5,8,24],⟨[.ptr 0 0,.row 1,.row 2,.row 1,.d .bool],agk⟩,[]⟩))]⟩
def QH:cj:=cn E7 gz
def Cy:FT:=⟨⟨[.ptr 0 0,.d iO,.d nV,.csl 1 1 4],ajl⟩,⟨[.d gV],ajl⟩,dM [(8,(.j ⟨[9],[0,3,5,6,8,11],⟨[.ptr 0 0,.csl 1 1 4,.ptr 6 0,.ptr 7 0,.ptr 8 0,.ptr 9 0],ajr⟩,[]⟩)),(9,(.j ⟨[9],[0,3,5,6,8,11,36],⟨[.ptr 0 0,.csl 1 1 4,.ptr 6 0,.ptr 7 0,.ptr 8 0,.ptr 9 0,.d .bool],ajr⟩,[]⟩)),(18,(.j ⟨[9],[0,3,8,11],⟨[.ptr 0 0,.csl 1 1 4,.ptr 6 0,.ptr 7 0],ajs⟩,[]⟩)),(19,(.j ⟨[9],[0,3,8,11,74],⟨[.ptr 0 0,.csl 1 1 4,.ptr 6 0,.ptr 7 0,.d .bool],[.cells 140 [.d xQ],.cells 58 aa2,.rows 3 M aL,.rows 3 M aL,.rows 3 M aL,.rows 3 M aL,.cells 60 uk,.cells 60 uk]⟩,[]⟩)),(22,(.s 9 0 0 4)),(24,(.j ⟨[],[8,11],⟨[.ptr 6 0,.ptr 7 0],[.cells 140 [.d xQ],.cells 58 aa2,.rows 3 M aL,.rows 3 M aL,.rows 3 M aL,.rows 3 M aL,.cells 60 uk,.cells 60 [.d aL,.d aL,.d aL,.d aL,.d aL,.d (.sl aL),.d (.sl aL)]]⟩,[]⟩)),(25,(.j ⟨[9],[0,3,8,11,89],⟨[.ptr 0 0,.csl 1 1 4,.ptr 6 0,.ptr 7 0,.d .bool],ajs⟩,[]⟩)),(28,(.s 9 0 0 4))]⟩
def NP:cj:=cn Cy pV
def E8:FT:=⟨⟨[.ptr 0 0,.d iO,.d nV,.d aL,.d .bool],RE⟩,⟨[.d (.sl gV)],RE⟩,dM [(8,(.a [.cel 12 0 3 aL,.cel 12 1 3 aL,.cel 12 2 3 aL,.cel 12 3 3 aL])),(9,(.j ⟨[3,11],[0,6,7,12],⟨[.ptr 0 0,.ptr 1 0,.ptr 2 0,.csl 3 1 4],agx⟩,[]⟩)),(10,(.u 5)),(18,(.j ⟨[3,4,11,22,23],[0,6,7,12],⟨[.ptr 0 0,.ptr 1 0,.ptr 2 0,.csl 3 1 4],agx⟩,[]⟩)),(21,(.j ⟨[3,4,11,13,22,23],[0,6,7,12,39],⟨[.ptr 0 0,.ptr 1 0,.ptr 2 0,.csl 3 1 4,.d .bool],agx⟩,[]⟩)),(29,(.j ⟨[3],[0,6,7,11,12],⟨[.ptr 0 0,.ptr 1 0,.ptr 2 0,.row 3,.csl 4 1 4],agy⟩,[.nil 11 60 gV]⟩)),(31,(.j ⟨[3],[0,6,7,11,12,65],⟨[.ptr 0 0,.ptr 1 0,.ptr 2 0,.row 3,.csl 4 1 4,.d .bool],agy⟩,[]⟩)),(36,(.j ⟨[3],[0,6,7,11,12],⟨[.ptr 0 0,.ptr 1 0,.ptr 2 0,.row 3,.csl 4 1 4],agy⟩,[]⟩)),(47,(.j ⟨[3],[0,6,7,11,12,14,15],⟨[.ptr 0 0,.ptr 1 0,.ptr 2 0,.row 3,.csl 4 1 4,.ptr 5 0,.ptr 6 0],aju⟩,[]⟩)),(48,(.j ⟨[3],[0,6,7,11,12,14,15,87],⟨[.ptr 0 0,.ptr 1 0,.ptr 2 0,.row 3,.csl 4 1 4,.ptr 5 0,.ptr 6 0,.d .bool],aju⟩,[]⟩)),(51,(.s 14 0 0 4))]⟩
def QI:cj:=cn E8 rQ
def CA:FT:=⟨⟨Ow,[]⟩,⟨[.d Ka24],[]⟩,dM [(2,(.j ⟨[1],[0,4],⟨[.d Dc,.ptr 0 0],[.cells 31 XD]⟩,[]⟩)),(22,(.j ⟨[1,9],[4,5,6,7,8,10],⟨[.ptr 0 0,.ptr 1 0,.ptr 2 0,.ptr 3 0,.row 4,.d aL],[.cells 31 XD,.cells 140 [.d xQ],.cells 31 [.d (.sl kJ),.d (.sl qE),.d (.sl lZ),.d (.sl .str),.d (.sl .str),.d (.sl oF),.nil],.cells 87 [.d iO],.rows 60 aa gV]⟩,[]⟩)),(37,(.j ⟨[1,48],[4,5,6,7,47,49],⟨[.ptr 0 0,.ptr 1 0,.ptr 2 0,.ptr 3 0,.row 4,.d aL],ajv⟩,[.cel 6 6 60 gV]⟩)),(45,(.j ⟨[1,48,49],[4,5,6,7,47],⟨[.ptr 0 0,.ptr 1 0,.ptr 2 0,.ptr 3 0,.row 4],ajv⟩,[]⟩))]⟩
def NR:cj:=cn CA pW
def vQ:FT:=⟨⟨[.d (.st (.pr Dc (.pr Dc Dc))),.d aL],[]⟩,⟨[.d Ka24],[]⟩,.leaf⟩
def Ed:cj:=cn vQ kV
theorem KZ:aG Pg 106 Ll:=mk Ap ox an b8
theorem Is:aG Pg 75 JC:=mk yG jJ (ac KZ an) b8
theorem EY:aG Pg 74 Re:=mk FA lw an b8
theorem Te:aG Pg 107 T8:=mk Jj tG an b8
theorem Td:aG Pg 76 T7:=mk Ji pm (ac EY (ac Te an)) b8
theorem rZ:aG Pg 49 Rf:=mk FB fg (ac EY (ac Is (ac Td an))) b8
theorem Ir:aG Pg 213 TX:=mk Jd fI an b8
theorem S7:aG Pg 202 TY:=mk Je tD (ac Ir an) b8
theorem PY:aG Pg 204 Ra:=mk Fw rS (ac Ir an) b8
theorem S8:aG Pg 201 TZ:=mk Jf qS an b8
theorem KY:aG Pg 219 Lk:=mk Ao ov an b8
theorem vI:∀n:Nat,aG Pg 214 (FZ n)
 |0=>L5 oZ
 |n+1=>mk oZ (oV (jh n)) (ac rZ (ac (vI n) (ac KY an))) b8
theorem xj:aG Pg 214 Gq:=(vI fuel)
theorem Tc:aG Pg 215 T6:=mk Jh qT an b8
theorem rc:∀n:Nat,aG Pg 205 (FY n)/\aG Pg 181 (DE n)
 |0=>⟨L5 sr,L5 nT⟩
 |n+1=>⟨mk sr (oU (hZ n) (fA n)) (ac rZ (ac (rc n).2 (ac xj (ac Tc an)))) b8,mk nT (nO (hZ n) (fA n)) (ac (rc n).1 an) b8⟩
theorem DS:aG Pg 181 Eg:=(rc fuel).2
theorem F4:aG Pg 180 Gp:=mk xr ma (ac rZ an) b8
theorem P0:aG Pg 152 Rd:=mk Fz rU (ac rZ (ac F4 (ac DS an))) b8
theorem uE:aG Pg 50 acn:=mk Vo jW an b8
theorem uD:aG Pg 182 Rc:=mk Fy iH an b8
theorem uU:aG Pg 183 Lj:=mk An iB an b8
theorem PZ:aG Pg 216 Rb:=mk Fx rT (ac uE (ac uD (ac uU an))) b8
theorem Mc:aG Pg 208 WR:=mk Mw gX (ac PZ an) b8
theorem E2:∀n:Nat,aG Pg 217 (SO n)
 |0=>L5 wT
 |n+1=>mk wT (wG (pw n)) (ac (E2 n) an) b8
theorem Ta:aG Pg 217 T4:=(E2 fuel)
theorem E0:∀n:Nat,aG Pg 218 (SM n)
 |0=>L5 wS
 |n+1=>mk wS (wF (pu n)) (ac Mc (ac (E0 n) an)) b8
theorem S9:aG Pg 218 T2:=(E0 fuel)
theorem Wn:aG Pg 209 WS:=mk Mx nH (ac xj (ac Ta (ac S9 an))) b8
theorem Ny:aG Pg 210 N6:=mk CL da an b8
theorem ac0:aG Pg 207 acm:=mk Vn js an b8
theorem DR:aG Pg 206 Ef:=mk vS em an b8
theorem KW:aG Pg 184 Lh:=mk Am ou (ac uE (ac uD (ac uU (ac DR (ac ac0 (ac Mc (ac Wn (ac Ny an)))))))) b8
theorem yo:∀n:Nat,aG Pg 156 (KM n)
 |0=>L5 rK
 |n+1=>mk rK (rG (mn n)) (ac (yo n) (ac KW an)) b8
theorem KX:aG Pg 156 Li:=(yo fuel)
theorem E3:∀n:Nat,aG Pg 155 (SR n)
 |0=>L5 wU
 |n+1=>mk wU (wH (px n)) (ac (E3 n) an) b8
theorem Tb:aG Pg 155 T5:=(E3 fuel)
theorem S_:aG Pg 153 T3:=mk Jg tF (ac uD an) b8
theorem Nx:aG Pg 154 N5:=mk CK qa (ac uE (ac uD (ac uU an))) b8
theorem wD:aG Pg 128 N7:=mk CM km (ac P0 (ac S_ (ac Nx (ac Tb (ac KX an))))) b8
theorem EZ:∀n:Nat,aG Pg 158 (SL n)
 |0=>L5 wR
 |n+1=>mk wR (wE (pt n)) (ac (EZ n) an) b8
theorem S2:aG Pg 158 TK:=(EZ fuel)
theorem EU:aG Pg 157 Q7:=mk Ft lm an b8
theorem EX:aG Pg 211 Q_:=mk Fv lq an b8
theorem S6:aG Pg 129 TU:=mk Jb tC (ac wD (ac EU (ac S2 an))) b8
theorem S3:aG Pg 48 TN:=mk I9 pj an b8
theorem xi:aG Pg 30 Gn:=mk xq hX (ac S3 (ac rZ (ac uE an))) b8
theorem tN:aG Pg 132 JB:=mk yF jI an b8
theorem EW:aG Pg 174 Q9:=mk Fu pA an b8
theorem S4:aG Pg 147 TO:=mk I_ tw (ac EW an) b8
theorem Nv:aG Pg 148 acl:=mk Vm jr an b8
theorem S5:aG Pg 173 TQ:=mk Ja qR (ac Nv an) b8
theorem Nu:aG Pg 146 NY:=mk CH pZ (ac Nv (ac S5 an)) b8
theorem DQ:aG Pg 126 Ee:=mk vR kW (ac tN (ac Nu (ac S4 (ac Nv an)))) b8
theorem Bj:aG Pg 101 TW:=mk Jc pl (ac xi (ac DQ an)) b8
theorem nM:aG Pg 131 NZ:=mk CI cE an b8
theorem xl:∀n:Nat,aG Pg 189 (Ia n)
 |0=>L5 qn
 |n+1=>mk qn (qg (iJ n)) (ac uE (ac nM (ac (xl n) (ac EX an)))) b8
theorem tM:aG Pg 189 Jz:=(xl fuel)
theorem F3:aG Pg 185 Gm:=mk xp l_ (ac uE (ac nM (ac tM (ac EX an)))) b8
theorem KV:aG Pg 188 Lg:=mk Al jw an b8
theorem kc:∀n:Nat,aG Pg 130 (Ib n)/\aG Pg 159 (KL n)/\aG Pg 186 (B5 n)/\aG Pg 187 (FX n)
 |0=>⟨L5 qo,L5 uV,L5 qp,L5 sq⟩
 |n+1=>⟨mk qo (qh (dI n) (eE n) (c6 n) (dE n)) (ac (kc n).2.1 an) b8,mk uV (rF (dI n) (eE n) (c6 n) (dE n)) (ac uE (ac nM (ac EU (ac F3 (ac (kc n).2.2.1 (ac (kc n).2.2.2 (ac KV (ac tM an)))))))) b8,mk qp (mE (dI n) (eE n) (c6 n) (dE n)) (ac (kc n).1 (ac nM (ac tM an))) b8,mk sq (oS (dI n) (eE n) (c6 n) (dE n)) (ac (kc n).1 (ac nM an)) b8⟩
theorem Iq:aG Pg 130 JA:=(kc fuel).1
theorem Nw:aG Pg 104 N0:=mk CJ p_ (ac wD (ac S6 (ac Iq (ac nM (ac tN an))))) b8
theorem Ip:aG Pg 80 Zw:=mk Qv oq an b8
theorem Y9:aG Pg 108 Zv:=mk Qu vy an b8
theorem Io:aG Pg 83 TJ:=mk I8 qQ (ac Y9 an) b8
theorem KU:aG Pg 203 Lf:=mk Ak ml an b8
theorem kZ:aG Pg 178 WP:=mk Mv ci an b8
theorem Wm:aG Pg 179 WO:=mk Mu vx (ac Io (ac tN (ac S7 (ac KU (ac PY an))))) b8
theorem jz:aG Pg 151 Q6:=mk Fs nk (ac EW (ac kZ (ac Wm an))) b8
theorem In:aG Pg 51 TG:=mk I6 ph an b8
theorem DP:aG Pg 77 WM:=mk Ms nG an b8
theorem U_:aG Pg 78 ack:=mk Vl pY an b8
theorem S1:aG Pg 79 TE:=mk I5 pg (ac U_ an) b8
theorem Cb:aG Pg 54 NX:=mk CG iA (ac DP (ac U_ (ac S1 (ac Ip an)))) b8
theorem Nt:aG Pg 81 NV:=mk CF nF an b8
theorem Ns:aG Pg 84 NU:=mk CE pX an b8
theorem kY:aG Pg 82 WN:=mk Mt io an b8
theorem KQ:aG Pg 81 Ld:=mk mo mj an b8
theorem Im:aG Pg 81 Jy:= @aG.ro Pg 81 mo.pre mo.post.vs mj jH (KQ.holds rfl) rfl (λx _ h=>by rw[show jH x=av (mj x) λy=>same y.2 x.2 (Z y.1) from rfl]at h;exact h)
theorem jL:aG Pg 57 TI:=mk I7 pi (ac Cb (ac Ip (ac Im (ac kY (ac Io (ac Ns an)))))) b8
theorem S0:aG Pg 103 TD:=mk I4 tu (ac In (ac Bj an)) b8
theorem Wk:aG Pg 175 WJ:=mk Mr vu (ac DP (ac Bj an)) b8
theorem Wi:aG Pg 176 WH:=mk Mp vq an b8
theorem Pv:aG Pg 177 QJ:=mk E9 rR (ac S8 an) b8
theorem iD:aG Pg 149 NT:=mk CD nE (ac Wk (ac Wi (ac Pv an))) b8
theorem Ik:aG Pg 31 TA:=mk I2 mU (ac In an) b8
theorem Wh:aG Pg 52 WG:=mk Mo qP (ac DP an) b8
theorem abz:aG Pg 53 acj:=mk Vk B1 an b8
theorem Nr:aG Pg 55 NS:=mk CC kj an b8
theorem SW:aG Pg 56 Tx:=mk I0 pf (ac Ip (ac Nt an)) b8
theorem DO:aG Pg 32 WF:=mk Mn nD (ac Wh (ac abz (ac Cb (ac Nr (ac SW (ac jL an)))))) b8
theorem SX:aG Pg 33 Tz:=mk I1 mT an b8
theorem Il:aG Pg 15 TB:=mk I3 mV (ac xi (ac Ik (ac DO (ac SX an)))) b8
def LM (t:TypeId):J Ty:=if ax t 205 then Z (.pr .un eI) else b8 t
theorem PW:aG Pg 150 Q5:=mk Fr nj (ac kY (ac kZ an)) LM
theorem PI:aG Pg 127 QV:=mk Fh fR (ac jL (ac iD (ac PW (ac jz an)))) LM
theorem PU:aG Pg 150 Q4:=mk Fq nh (ac kY (ac kZ an)) LM
theorem PH:aG Pg 127 QU:=mk Fg gA (ac jL (ac iD (ac PU (ac jz an)))) LM
theorem PS:aG Pg 150 Q3:=mk Fp ng (ac kY (ac kZ an)) LM
theorem PF:aG Pg 127 QR:=mk Ff fQ (ac jL (ac iD (ac PS (ac jz an)))) LM
theorem PR:aG Pg 150 Q2:=mk Fo ne (ac kY (ac kZ an)) LM
theorem PD:aG Pg 127 QQ:=mk Fe jv (ac jL (ac iD (ac PR (ac jz an)))) LM
theorem PQ:aG Pg 150 Q1:=mk Fn m_ (ac kY (ac kZ an)) LM
theorem PC:aG Pg 127 QP:=mk Fd iF (ac jL (ac iD (ac PQ (ac jz an)))) LM
theorem PP:aG Pg 150 Q0:=mk Fm m8 (ac kY (ac kZ an)) LM
theorem PA:aG Pg 127 QO:=mk Fc g_ (ac jL (ac iD (ac PP (ac jz an)))) LM
theorem PO:aG Pg 150 QZ:=mk Fl m7 (ac kY (ac kZ an)) LM
theorem Pz:aG Pg 127 QN:=mk dB mX (ac jL (ac iD (ac PO (ac jz an)))) LM
theorem PN:aG Pg 150 QY:=mk Fk m6 (ac kY (ac kZ an)) LM
theorem Py:aG Pg 127 QM:=mk Fb mW (ac jL (ac iD (ac PN (ac jz an)))) LM
theorem PL:aG Pg 150 QX:=mk Fj mZ (ac kY (ac kZ an)) LM
theorem Px:aG Pg 127 QL:=mk Fa ll (ac jL (ac iD (ac PL (ac jz an)))) LM
theorem PK:aG Pg 150 QW:=mk Fi mY (ac kY (ac kZ an)) LM
theorem Pw:aG Pg 127 QK:=mk E_ kl (ac jL (ac iD (ac PK (ac jz an)))) LM
theorem Wl:aG Pg 127 WL:=(aG.orE (pre:=dB.pre) (post:=dB.post) (m:=mX) (m':=(λx=>orE (mW x) ((λx=>orE (ll x) ((λx=>orE (kl x) ((λx=>orE (jv x) ((λx=>orE (iF x) ((λx=>orE (g_ x) ((λx=>orE (gA x) ((λx=>orE (fQ x) (fR x)) x)) x)) x)) x)) x)) x)) x))) rfl Pz (aG.orE (pre:=dB.pre) (post:=dB.post) (m:=mW) (m':=(λx=>orE (ll x) ((λx=>orE (kl x) ((λx=>orE (jv x) ((λx=>orE (iF x) ((λx=>orE (g_ x) ((λx=>orE (gA x) ((λx=>orE (fQ x) (fR x)) x)) x)) x)) x)) x)) x))) rfl Py (aG.orE (pre:=dB.pre) (post:=dB.post) (m:=ll) (m':=(λx=>orE (kl x) ((λx=>orE (jv x) ((λx=>orE (iF x) ((λx=>orE (g_ x) ((λx=>orE (gA x) ((λx=>orE (fQ x) (fR x)) x)) x)) x)) x)) x))) rfl Px (aG.orE (pre:=dB.pre) (post:=dB.post) (m:=kl) (m':=(λx=>orE (jv x) ((λx=>orE (iF x) ((λx=>orE (g_ x) ((λx=>orE (gA x) ((λx=>orE (fQ x) (fR x)) x)) x)) x)) x))) rfl Pw (aG.orE (pre:=dB.pre) (post:=dB.post) (m:=jv) (m':=(λx=>orE (iF x) ((λx=>orE (g_ x) ((λx=>orE (gA x) ((λx=>orE (fQ x) (fR x)) x)) x)) x))) rfl PD (aG.orE (pre:=dB.pre) (post:=dB.post) (m:=iF) (m':=(λx=>orE (g_ x) ((λx=>orE (gA x) ((λx=>orE (fQ x) (fR x)) x)) x))) rfl PC (aG.orE (pre:=dB.pre) (post:=dB.post) (m:=g_) (m':=(λx=>orE (gA x) ((λx=>orE (fQ x) (fR x)) x))) rfl PA (aG.orE (pre:=dB.pre) (post:=dB.post) (m:=gA) (m':=(λx=>orE (fQ x) (fR x))) rfl PH (aG.orE (pre:=dB.pre) (post:=dB.post) (m:=fQ) (m':=fR) rfl PF PI)))))))))
theorem Wj:aG Pg 102 WI:=mk Mq vr (ac Wl an) b8
theorem Y8:aG Pg 70 Zu:=mk Qt ye (ac Bj (ac Wj (ac S0 an))) b8
theorem fm:aG Pg 68 GD:=mk xE bE an b8
theorem DV:aG Pg 136 WY:=mk My qW an b8
theorem Iw:aG Pg 192 Ub:=mk Jk pn an b8
theorem Ch:aG Pg 191 N9:=mk CP nI an b8
theorem Ci:aG Pg 135 N_:=mk CQ jt an b8
theorem P3:aG Pg 133 Rj:=mk FC rV an b8
theorem K6:aG Pg 72 Lt:=mk Av oz an b8
theorem uF:∀n:Nat,aG Pg 190 (DG n)
 |0=>L5 nU
 |n+1=>mk nU (nQ (iq n)) (ac fm (ac DV (ac (uF n) (ac Ch (ac Iw an))))) b8
theorem DW:aG Pg 190 Ej:=(uF fuel)
theorem Cg:aG Pg 193 C4:=mk uK eD (ac uE an) b8
theorem jM:∀n:Nat,aG Pg 134 (B6 n)/\aG Pg 160 (DF n)/\aG Pg 194 (B7 n)
 |0=>⟨L5 mJ,L5 rh,L5 qr⟩
 |n+1=>⟨mk mJ (mG (dF n) (eo n) (dX n)) (ac (jM n).2.1 an) b8,mk rh (nP (dF n) (eo n) (dX n)) (ac fm (ac (jM n).1 (ac Ci (ac DV (ac DW (ac Ch (ac Iw (ac Cg (ac (jM n).2.2 an))))))))) b8,mk qr (mH (dF n) (eo n) (dX n)) (ac fm (ac (jM n).1 an)) b8⟩
theorem Cf:aG Pg 134 C3:=(jM fuel).1
theorem K5:aG Pg 105 Ls:=mk Au oy (ac fm (ac wD (ac P3 (ac Cf (ac Ci (ac DV an)))))) b8
theorem Tg:aG Pg 71 Uc:=mk Jl wB (ac Nw (ac K5 an)) b8
theorem P4:aG Pg 38 Rk:=mk FD rW (ac Y8 (ac Tg (ac K6 an))) b8
theorem No:aG Pg 19 NQ:=mk Cz nC an b8
theorem Ih:aG Pg 145 Jw:=mk yE kU an b8
theorem Nm:aG Pg 122 NO:=mk Cx sO an b8
theorem KP:aG Pg 123 Lc:=mk Aj oo (ac fm an) b8
theorem Nl:aG Pg 124 NL:=mk Cw pU (ac fm (ac Ih an)) b8
theorem Ps:aG Pg 125 QH:=mk E7 gz (ac fm an) b8
theorem Nn:aG Pg 100 NP:=mk Cy pV (ac fm (ac Nm (ac KP (ac Nl (ac Ps an))))) b8
def tv1 (t:TypeId):J Ty:=if ax t 58 then Z (.pr .un (.pr .un (.pr .un (.pr .un (.pr .un (.sl aL)))))) else b8 t
theorem Pt:aG Pg 69 QI:=mk E8 rQ (ac DO (ac fm (ac Nn an))) tv1
theorem Np:aG Pg 37 NR:=mk CA pW (ac Il (ac No (ac Ik (ac DO (ac fm (ac Pt an)))))) b8
theorem DN:aG Pg 18 Ed:=mk vQ kV (ac Np (ac P4 an)) b8
abbrev agf:Y PV:=[.row 1,.row 2,.row 3,.row 4,.row 5,.row 6,.d (.sl aL),.row 7,.row 8]
abbrev Ld0:Y PB:=[.cells 93 agf,.rows 58 aa (.sl aL),.rows 58 aa (.sl aL),.rows 58 aa (.sl aL),.rows 58 aa (.sl aL),.rows 58 aa (.sl aL),.rows 58 aa (.sl aL),.rows 58 aa (.sl aL),.rows 3 M aL,.rows 3 aa aL]
abbrev Ld9:Y PV:=[.d aL,.d aL,.d aL,.d aL,.d aL,.d (.sl aL),.d (.sl aL)]
abbrev agh:Y PV:=[.d (.sl kJ),.d (.sl qE),.d (.sl lZ),.d (.sl .str),.d (.sl .str),.d (.sl oF)]
abbrev Ld1:Y PB:=[.cells 60 Ld9,.cells 93 [.row 3,.row 4,.row 5,.row 6,.row 7,.row 8,.d (.sl aL),.row 9,.row 10],.cells 28 agh,.rows 58 aa (.sl aL),.rows 58 aa (.sl aL),.rows 58 aa (.sl aL),.rows 58 aa (.sl aL),.rows 58 aa (.sl aL),.rows 58 aa (.sl aL),.rows 58 aa (.sl aL),.rows 3 M aL]
abbrev Ld2:Y PB:=[.cells 93 agf,.rows 58 aa (.sl aL),.rows 58 aa (.sl aL),.rows 58 aa (.sl aL),.rows 58 aa (.sl aL),.rows 58 aa (.sl aL),.rows 58 aa (.sl aL),.rows 58 aa (.sl aL),.rows 3 M aL,.rows 3 aa aL,.cells 60 Ld9]
abbrev Ld3:Y PB:=[.rows 157 aa dt,.rows 4 M .bool,.rows 159 M gH,.cells 84 GO]
abbrev Ld4:Y PB:=[.rows 157 aa dt,.rows 4 M .bool,.rows 159 M gH]
abbrev Ld5:Y PB:=[.cells 28 [.d nV],.cells 84 [.csl 4 2 4,.d aL,.d mf,.d (.sl gH)],.cells 3 [.d aL],.cells 84 t7,.cells 157 [.d aL,.row 5,.d aL,.row 6,.d aL,.row 7,.d aL,.row 8],.rows 3 M aL,.rows 3 M aL,.rows 3 M aL,.rows 3 M aL]
abbrev Ld6:Y PB:=[.cells 87 [.d iO],.cells 60 [.d gV],.cells 189 [.d Kd1]]
abbrev Ld7:Y PB:=[.cells 28 [.d nV],.cells 84 [.csl 4 2 3,.d aL,.d mf,.d (.sl gH)],.cells 3 [.d aL],.cells 84 t7,.cells 157 [.d aL,.row 5,.d aL,.row 6,.d aL,.row 7],.rows 3 M aL,.rows 3 M aL,.rows 3 M aL]
abbrev VP:Y PB:=[.rows 3 M aL]
abbrev aji:Y PB:=[.cells 28 [.d nV],.cells 84 [.csl 4 2 2,.d aL,.d mf,.d (.sl gH)],.cells 3 [.d aL],.cells 84 t7,.cells 157 [.d aL,.row 5,.d aL,.row 6],.rows 3 M aL,.rows 3 M aL]
abbrev aa1:Y PV:=[.d nV,.d Db,.d aL,.d aL,.d aL,.d aL]
abbrev Xz:Y PB:=[.rows 3 M aL,.cells 3 [.d aL]]
abbrev ajh:Y PB:=[.cells 28 [.d nV],.cells 84 [.row 4,.d aL,.row 5,.row 6],.cells 3 [.d aL],.cells 84 t7,.rows 157 aa dt,.rows 4 M .bool,.rows 159 M gH]
abbrev ajg:Y PB:=[.cells 28 [.d nV],.cells 84 [.csl 4 2 1,.d aL,.d mf,.d (.sl gH)],.cells 3 [.d aL],.cells 84 t7,.cells 157 [.d aL,.row 5],.rows 3 M aL]
abbrev Ou:Y PB:=[.rows 3 aa aL]
abbrev ajf:Y PB:=[.cells 84 t7,.cells 84 [.row 2,.d aL,.row 3,.row 4],.rows 157 aa dt,.rows 4 aa .bool,.rows 159 aa gH]
abbrev aa0:Y PB:=[.rows 58 aa (.sl aL)]
abbrev Z':Y PV:=[.d Db,.d aL,.d .bool]
abbrev RD:Y PV:=[.row 0,.d aL]
abbrev age:Y PB:=[.rows 58 aa (.sl aL),.rows 3 aa aL]
abbrev Xy:Y PB:=[.cells 60 [.d gV]]
abbrev agd:Y PV:=[.ptr 0 0,.ptr 1 0,.ptr 2 0]
def MC:FT:=⟨⟨GM,[]⟩,⟨[.d aL],[]⟩,dM [(3,(.j ⟨[0,1],[12],⟨[.d .bool],[]⟩,[]⟩))]⟩
def Xa:cj:=cn MC fy
def FG:FT:=⟨⟨[.d (.sl aL),.d (.sl aL)],[]⟩,⟨qJ,[]⟩,dM [(8,(.j ⟨[0,1,14],[5,15],⟨RD,Ou⟩,[]⟩))]⟩
def Rp:cj:=cn FG lx
def Vj:FT:=⟨⟨GM,[]⟩,⟨[.d aL],[]⟩,dM [(3,(.j ⟨[0,1],[12],⟨[.d .bool],[]⟩,[]⟩))]⟩
def aci:cj:=cn Vj G7
def Vp:FT:=⟨⟨qJ,[]⟩,⟨qJ,[]⟩,.leaf⟩
def C6:cj:=cn Vp Ng
def afp:cj:=⟨C6.pre,C6.post,Bc⟩
def Jn:FT:=⟨⟨[.d uZ],[]⟩,⟨[.row 0],aa0⟩,dM [(8,(.j ⟨[9,10],[3,11],⟨RD,aa0⟩,[]⟩))]⟩
def Uf:cj:=cn Jn ip
def QE:FT:=⟨⟨qJ,[]⟩,⟨[.row 0],VP⟩,dM [(8,(.a [.nil 2 3 aL])),(12,(.a [.nil 2 3 aL]))]⟩
def yS:cj:=cn QE H6
def acv:cj:=⟨yS.pre,yS.post,gh⟩
def Jo:FT:=⟨⟨[.d Kd0],[]⟩,⟨[.agg [.row 0,.row 1,.row 2,.row 3,.row 4,.row 5,.d (.sl aL),.row 6,.row 7]],[.rows 58 aa (.sl aL),.rows 58 aa (.sl aL),.rows 58 aa (.sl aL),.rows 58 aa (.sl aL),.rows 58 aa (.sl aL),.rows 58 aa (.sl aL),.rows 58 aa (.sl aL),.rows 3 M aL]⟩,.leaf⟩
def Ug:cj:=cn Jo tI
def Mz:FT:=⟨⟨RD,aa0⟩,⟨qJ,aa0⟩,dM [(3,(.j ⟨[1],[0,12],⟨[.row 0,.d .bool],aa0⟩,[]⟩))]⟩
def W7:cj:=cn Mz s7
def Jp:FT:=⟨⟨agd,Ld1⟩,⟨[.d uZ],Ld1⟩,dM [(18,(.j ⟨[6],[0,1,2,25],⟨Bu,Ld1⟩,[]⟩))]⟩
def Uh:cj:=cn Jp tJ
def MB:FT:=⟨⟨[.d nV],[]⟩,⟨[.d Kd0],[]⟩,dM [(8,(.j ⟨[40],[2,3,41],⟨uj,[.cells 93 [.nil,.nil,.nil,.nil,.nil,.nil,.nil,.nil,.nil],.cells 93 [.row 2,.row 3,.row 4,.row 5,.row 6,.row 7,.nil,.row 8,.row 9],.rows 58 aa (.sl aL),.rows 58 aa (.sl aL),.rows 58 aa (.sl aL),.rows 58 aa (.sl aL),.rows 58 aa (.sl aL),.rows 58 aa (.sl aL),.rows 58 aa (.sl aL),.rows 3 aa aL]⟩,[]⟩))]⟩
def W9:cj:=cn MB pB
def FF:FT:=⟨⟨GM,[]⟩,⟨[.row 0],Ou⟩,dM [(4,(.j ⟨[0,1,5],[6],⟨[.d .bool],[]⟩,[]⟩)),(6,(.j ⟨[0,1,6],[5],⟨[.d aL],[]⟩,[]⟩)),(16,(.j ⟨[],[7],⟨[.row 0],Ou⟩,[]⟩)),(17,(.j ⟨[1],[7,33],⟨[.row 0,.d .bool],Ou⟩,[]⟩))]⟩
def Ro:cj:=cn FF rY
def vU:FT:=⟨⟨[.row 0],Ou⟩,⟨qJ,Ou⟩,.leaf⟩
def ZI:cj:=cn vU vB
def acu:cj:=⟨vU.pre,⟨vU.post.vs,[]⟩,uz⟩
def zC:FT:=⟨⟨[.d (.sl aL),.row 0],Ou⟩,⟨qJ,Ou⟩,dM [(8,(.j ⟨[0,14],[1,5,15],⟨[.row 0,.row 1,.d aL],[.rows 3 aa aL,.rows 3 aa aL]⟩,[]⟩))]⟩
def acs:cj:=cn zC sR
def afo:cj:=⟨zC.pre,⟨zC.post.vs,[]⟩,Bb⟩
def Jm:FT:=⟨⟨[.row 0,.d aL,.row 1],age⟩,⟨[],age⟩,dM [(0,(.j ⟨[1],[0,2,13],⟨[.row 0,.row 1,.d .bool],age⟩,[]⟩))]⟩
def Ue:cj:=cn Jm lM
def Qw:FT:=⟨⟨[.ptr 0 0,.d aL,.row 9],Ld0⟩,⟨[],Ld0⟩,.leaf⟩
def ZC:cj:=cn Qw vz
def MA:FT:=⟨⟨[.d nV,.ptr 0 0,.d gV,.row 9],Ld0⟩,⟨[],Ld0⟩,dM [(6,(.j ⟨[],[],⟨[],Ld0⟩,[]⟩)),(11,(.j ⟨[20],[1,3,4,6,32],⟨[.ptr 0 0,.row 9,.ptr 10 0,.ptr 11 0,.d .bool],[.cells 93 agf,.rows 58 aa (.sl aL),.rows 58 aa (.sl aL),.rows 58 aa (.sl aL),.rows 58 aa (.sl aL),.rows 58 aa (.sl aL),.rows 58 aa (.sl aL),.rows 58 aa (.sl aL),.rows 3 M aL,.rows 3 aa aL,.cells 28 agh,.cells 60 Ld9]⟩,[]⟩)),(48,(.j ⟨[],[1,3,6,129],⟨[.ptr 0 0,.row 9,.ptr 10 0,.d .bool],Ld2⟩,[]⟩)),(59,(.j ⟨[141],[1,3,6,140,142],⟨[.ptr 0 0,.row 9,.ptr 10 0,.row 8,.d aL],Ld2⟩,[]⟩)),(67,(.j ⟨[141,142],[1,3,6,140],⟨[.ptr 0 0,.row 9,.ptr 10 0,.row 8],Ld2⟩,[]⟩))]⟩
def W8:cj:=cn MA qX
def Qx:FT:=⟨⟨[.d nV,.d Kd0,.d gV],[]⟩,⟨[.d Kd0,.row 0],Ou⟩,dM [(14,(.j ⟨[22,23],[3,5,6,7,24],⟨[.ptr 0 0,.ptr 1 0,.ptr 2 0,.ptr 3 0,.d aL],[.cells 28 agh,.cells 60 Ld9,.cells 93 [.row 4,.row 5,.row 6,.row 7,.row 8,.row 9,.d (.sl aL),.row 10,.row 11],.cells 58 qJ,.rows 58 aa (.sl aL),.rows 58 aa (.sl aL),.rows 58 aa (.sl aL),.rows 58 aa (.sl aL),.rows 58 aa (.sl aL),.rows 58 aa (.sl aL),.rows 58 aa (.sl aL),.rows 3 M aL]⟩,[]⟩))]⟩
def ZD:cj:=cn Qx rX
def Qs:FT:=⟨⟨[.d (.sl aL),.d (.sl aL)],[]⟩,⟨[.d .bool],[]⟩,dM [(6,(.j ⟨[0,1],[5],⟨[.d aL],[]⟩,[]⟩))]⟩
def Zt:cj:=cn Qs vp
def Mm:FT:=⟨⟨[.d (.sl aL),.d (.sl aL)],[]⟩,⟨[.d .bool],[]⟩,dM [(2,(.j ⟨[],[4],⟨[.d .bool],[]⟩,[]⟩))]⟩
def WE:cj:=cn Mm Dy
def vP:FT:=⟨⟨[.d .str],[]⟩,⟨[.d .bool],[]⟩,dM [(6,(.j ⟨[0,5],[6],⟨[.d aL],[]⟩,[]⟩))]⟩
def Ec:cj:=cn vP im
def Ai:FT:=⟨⟨[.d .str],[]⟩,⟨[.d .bool],[]⟩,dM [(3,(.j ⟨[0],[16],⟨[.d .bool],[]⟩,[]⟩)),(14,(.j ⟨[],[18],⟨[.ptr 0 0],[.mp lZ .un]⟩,[]⟩)),(24,(.j ⟨[],[18],⟨[.ptr 0 0],[.mp lZ .un]⟩,[]⟩)),(25,(.j ⟨[3,4],[18,23],⟨gZ,[.mp lZ .un]⟩,[]⟩)),(29,(.j ⟨[],[18,38],⟨gZ,[.mp lZ .un]⟩,[]⟩))]⟩
def Lb:cj:=cn Ai kA
def Jt:FT:=⟨⟨GM,[]⟩,⟨[.d aL],[]⟩,dM [(6,(.j ⟨[0,1,7],[8],⟨[.d aL],[]⟩,[]⟩))]⟩
def Un:cj:=cn Jt qY
def AA:FT:=⟨⟨GM,[]⟩,⟨[.d .bool],[]⟩,.leaf⟩
def Lz:cj:=cn AA jy
def Az:FT:=⟨⟨[.d (.sl aL),.d ju],[]⟩,⟨[.d .bool],[]⟩,.leaf⟩
def Ly:cj:=cn Az gM
def xF:FT:=⟨⟨uX,[]⟩,⟨[.d .bool],[]⟩,dM [(2,(.j ⟨[],[4],⟨[.d .bool],[]⟩,[]⟩))]⟩
def GF:cj:=cn xF mc
def xG:FT:=⟨⟨[.d nV,.d aL,.d .bool],[]⟩,⟨[.d .bool],[]⟩,dM [(2,(.j ⟨[],[6],⟨[.d .bool],[]⟩,[]⟩))]⟩
def GG:cj:=cn xG oP
def sG:FT:=⟨⟨[.d (.sl kJ)],[]⟩,⟨[.d (.sl .str),.d .bool],[]⟩,dM [(8,(.j ⟨[0],[4,5],⟨RD,[.rows 9 M .str]⟩,[.nil 4 9 .str]⟩)),(15,(.j ⟨[0],[4,5],⟨RD,[.rows 9 M .str]⟩,[]⟩)),(37,(.j ⟨[0,5],[4,6,49],⟨[.row 0,.ptr 1 0,.d .bool],[.rows 9 M .str,.cells 100 [.d kJ]]⟩,[]⟩)),(48,(.j ⟨[0,5,51],[4,6,52],⟨[.row 0,.ptr 1 0,.d aL],[.rows 9 M .str,.cells 100 [.d kJ]]⟩,[]⟩))]⟩
def zX:cj:=cn sG fM
def sF:FT:=⟨⟨[.d nV,.d (.sl .str)],[]⟩,⟨[.d .bool],[]⟩,dM [(10,(.j ⟨[17,18],[2,5,19],⟨UC,XC⟩,[]⟩)),(27,(.j ⟨[30,31],[2,5,32],⟨UC,XC⟩,[]⟩)),(50,(.j ⟨[52],[10,51,53],⟨[.mp 0,.row 1,.d aL],[.mp .str .bool,.rows 9 M .str]⟩,[.mpt 10 .str .bool]⟩)),(62,(.j ⟨[12,52,53],[10,51,64],⟨[.mp 0,.row 1,.d .bool],[.mp .str .bool,.rows 9 M .str]⟩,[.mpt 10 .str .bool]⟩))]⟩
def zW:cj:=cn sF fK
def sD:FT:=⟨⟨[.d nV],[]⟩,⟨[.d .bool],[]⟩,dM [(8,(.j ⟨[8,9],[1,3,4,10],⟨[.ptr 0 0,.d aL,.d aL,.d aL],pK⟩,[]⟩)),(20,(.j ⟨[3,4,8,9,10],[1,6,25],⟨qv,[.cells 28 [.d nV],.cells 106 [.d oF]]⟩,[]⟩)),(27,(.j ⟨[8,9,10],[1,3,4,6],⟨[.ptr 0 0,.d aL,.d aL,.ptr 1 0],[.cells 28 [.d nV],.cells 106 [.d oF]]⟩,[]⟩))]⟩
def zV:cj:=cn sD fJ
def sH:FT:=⟨⟨[.d nV],[]⟩,⟨[.d .bool],[]⟩,dM [(3,(.j ⟨[],[1,34],⟨gZ,pK⟩,[]⟩)),(11,(.j ⟨[],[1,44],⟨gZ,pK⟩,[]⟩)),(21,(.j ⟨[],[1,58],⟨gZ,pK⟩,[]⟩)),(32,(.j ⟨[60,61],[1,62],⟨v8,pK⟩,[]⟩))]⟩
def zY:cj:=cn sH dw
def At:FT:=⟨⟨[.d nV],[]⟩,⟨[.d Db],[]⟩,dM [(8,(.j ⟨[20],[2,3,21],⟨uj,ajf⟩,[]⟩)),(21,(.j ⟨[],[2,3],⟨[.ptr 0 0,.ptr 1 0],ajf⟩,[]⟩))]⟩
def Lq:cj:=cn At kD
def uI:FT:=⟨⟨[.d nV],[]⟩,⟨[.d iO],[]⟩,dM [(8,(.j ⟨[22,23],[2,3,24],⟨uj,[.cells 87 uY,.cells 87 [.d (.sl dt),.d aL,.d mf,.d (.sl gH),.row 2,.row 3,.row 4],.rows 2 aa aL,.rows 2 aa aL,.rows 3 aa aL]⟩,[]⟩))]⟩
def CZ:cj:=cn uI eC
def r8:FT:=⟨⟨[.d mf,.d gV],[]⟩,⟨[.d .bool],[]⟩,dM [(6,(.j ⟨[0,13],[14],⟨[.d aL],[]⟩,[]⟩)),(20,(.j ⟨[0,13,14,17,18],[19],⟨[.d aL],[]⟩,[]⟩)),(31,(.j ⟨[0,13,14,17,18,19],[37],⟨[.d .bool],[]⟩,[]⟩))]⟩
def yO:cj:=cn r8 bU
def yH:FT:=⟨⟨uX,[]⟩,⟨[.d .bool],[]⟩,dM [(2,(.j ⟨[],[4],⟨[.d .bool],[]⟩,[]⟩))]⟩
def JD:cj:=cn yH eO
def xx:FT:=⟨⟨[.d nV,.d aL,.d aL],[]⟩,⟨[.d .bool],[]⟩,dM [(6,(.j ⟨[2,7],[3,8],⟨gZ,pK⟩,[]⟩)),(36,(.j ⟨[2,7],[3,18],⟨gZ,pK⟩,[]⟩)),(46,(.j ⟨[2,7],[3,26],⟨gZ,pK⟩,[]⟩)),(53,(.j ⟨[],[6],⟨[.d .bool],[]⟩,[]⟩)),(56,(.j ⟨[2,7],[3,43],⟨gZ,pK⟩,[]⟩)),(71,(.j ⟨[],[6],⟨[.d .bool],[]⟩,[]⟩)),(74,(.j ⟨[2,7],[3,61],⟨gZ,pK⟩,[]⟩)),(92,(.j ⟨[2,7],[3,71],⟨gZ,pK⟩,[]⟩)),(102,(.j ⟨[2],[3,79],⟨gZ,pK⟩,[]⟩))]⟩
def Gv:cj:=cn xx jf
def CO:FT:=⟨⟨[.d nV,.d Db],[]⟩,⟨[.d .bool],[]⟩,dM [(3,(.j ⟨[],[2,31],⟨gZ,pK⟩,[]⟩)),(14,(.j ⟨[33,34],[2,35],⟨v8,pK⟩,[]⟩))]⟩
def N8:cj:=cn CO iC
def Ar:FT:=⟨⟨[.d nV,.d Db,.d aL,.d aL,.d aL],[]⟩,⟨[.d .bool],[]⟩,dM [(15,(.j ⟨[],[10],⟨[.d .bool],[]⟩,[]⟩)),(21,(.j ⟨[],[10],⟨[.d .bool],[]⟩,[]⟩)),(24,(.j ⟨[2,4,11],[5,6,60],⟨qv,UD⟩,[]⟩)),(64,(.j ⟨[2,4,11],[5,6,109],⟨qv,UD⟩,[]⟩)),(81,(.j ⟨[],[10],⟨[.d .bool],[]⟩,[]⟩)),(87,(.j ⟨[],[10],⟨[.d .bool],[]⟩,[]⟩))]⟩
def Lo:cj:=cn Ar kB
def xy:FT:=⟨⟨[.d nV,.d Db,.d aL,.d aL,.d aL],[]⟩,⟨[.d .bool],[]⟩,dM [(3,(.j ⟨[2,3,4],[5,6,30],⟨qv,UD⟩,[]⟩)),(25,(.j ⟨[],[10],⟨[.d .bool],[]⟩,[]⟩)),(29,(.j ⟨[],[10],⟨[.d .bool],[]⟩,[]⟩))]⟩
def Gw:cj:=cn xy eh
def vN:FT:=⟨⟨[.d nV,.d iO],[]⟩,⟨[.d .bool],[]⟩,dM [(2,(.j ⟨[],[4],⟨[.d .bool],[]⟩,[]⟩))]⟩
def Ea:cj:=cn vN il
def tU:FT:=⟨⟨[.d nV,.d gV],[]⟩,⟨[.d .bool],[]⟩,dM [(3,(.j ⟨[],[2,3,12],⟨qv,[.cells 28 [.d nV],.cells 60 [.d gV]]⟩,[]⟩)),(10,(.j ⟨[],[4],⟨[.d .bool],[]⟩,[]⟩))]⟩
def Bm:cj:=cn tU gu
def qm:FT:=⟨⟨[.d nV,.d iO,.d gV],[]⟩,⟨[.d .bool],[]⟩,dM [(2,(.j ⟨[],[4,5,7],⟨qv,[.cells 87 [.d iO],.cells 60 [.d gV]]⟩,[]⟩)),(4,(.j ⟨[],[4,5,8],⟨agd,Ld6⟩,[]⟩)),(10,(.j ⟨[51],[4,5,8,52],⟨Eu,Ld6⟩,[]⟩)),(22,(.j ⟨[10,51,52],[4,5,8,64],⟨Bu,Ld6⟩,[]⟩)),(34,(.j ⟨[51,52,65,66],[4,5,8,11,67],⟨[.ptr 0 0,.ptr 1 0,.ptr 2 0,.d aL,.d aL],Ld6⟩,[]⟩)),(46,(.j ⟨[13,51,52,65,66,67],[4,5,8,83],⟨Bu,Ld6⟩,[]⟩))]⟩
def wX:cj:=cn qm dy
def tT:FT:=⟨⟨[.d iO,.d gV],[]⟩,⟨[.d .bool],[]⟩,dM [(21,(.j ⟨[],[4],⟨[.d .bool],[]⟩,[]⟩)),(24,(.j ⟨[13],[2,3,46],⟨qv,[.cells 87 [.d iO],.cells 60 [.d gV]]⟩,[]⟩)),(43,(.j ⟨[53,54],[3,5,6,55],⟨[.ptr 0 0,.d aL,.d .bool,.d aL],Xy⟩,[]⟩)),(51,(.j ⟨[53,54,55],[3,5,6],⟨[.ptr 0 0,.d aL,.d .bool],Xy⟩,[]⟩)),(54,(.j ⟨[5,6,7,53,54,55],[3,69],⟨gZ,Xy⟩,[]⟩)),(62,(.j ⟨[],[4],⟨[.d .bool],[]⟩,[]⟩)),(74,(.j ⟨[94,95],[3,9,96],⟨RH,Xy⟩,[]⟩)),(82,(.j ⟨[94,95,96],[3,9],⟨v8,Xy⟩,[]⟩)),(85,(.j ⟨[9,94,95,96],[3,109],⟨gZ,Xy⟩,[]⟩))]⟩
def Bl:cj:=cn tT eK
def Aq:FT:=⟨⟨[.d gH,.d aL],[]⟩,⟨[.d .bool],[]⟩,dM [(2,(.j ⟨[],[4],⟨[.d .bool],[]⟩,[]⟩))]⟩
def Ln:cj:=cn Aq mm
def QF:FT:=⟨⟨[.d mf],[]⟩,⟨[.d mf],[]⟩,.leaf⟩
def yT:cj:=cn QF H8
def acw:cj:=⟨yT.pre,yT.post,zm⟩
def MH:FT:=⟨⟨[.d mf],[]⟩,⟨[.row 0],[.rows 4 M .bool]⟩,dM [(8,(.a [.nil 2 4 .bool])),(12,(.a [.nil 2 4 .bool]))]⟩
def vX:cj:=cn MH DC
def ZK:cj:=⟨vX.pre,vX.post,H7⟩
def QD:FT:=⟨⟨[.d (.sl gH)],[]⟩,⟨[.d (.sl gH)],[]⟩,.leaf⟩
def yR:cj:=cn QD H5
def act:cj:=⟨yR.pre,yR.post,zl⟩
def MF:FT:=⟨⟨[.d (.sl gH)],[]⟩,⟨[.row 0],[.rows 159 M gH]⟩,dM [(8,(.a [.nil 2 159 gH])),(12,(.a [.nil 2 159 gH]))]⟩
def vV:cj:=cn MF DA
def ZH:cj:=⟨vV.pre,vV.post,H4⟩
def MG:FT:=⟨⟨qJ,[]⟩,⟨[.row 0],[.rows 2 M aL]⟩,dM [(8,(.a [.nil 2 2 aL])),(12,(.a [.nil 2 2 aL]))]⟩
def vW:cj:=cn MG DB
def ZJ:cj:=⟨vW.pre,vW.post,yi⟩
def As:FT:=⟨⟨[.d Db],[]⟩,⟨[.agg GO],Ld4⟩,dM [(8,(.j ⟨[11,12],[1,2,3,13],⟨[.ptr 0 0,.ptr 1 0,.row 2,.d aL],[.cells 84 [.d Db],.cells 84 t7,.rows 157 aa dt]⟩,[]⟩))]⟩
def Lp:cj:=cn As kC
def yI:FT:=⟨⟨[.agg GO,.d aL,.d aL],Ld4⟩,⟨[.d aL],Ld4⟩,dM [(8,(.j ⟨[1,2,12],[3,7,11,13],⟨[.ptr 3 0,.d aL,.row 2,.d aL],Ld3⟩,[]⟩)),(16,(.j ⟨[1,2,12,13],[3,7,11],⟨[.ptr 3 0,.d aL,.row 2],Ld3⟩,[]⟩)),(19,(.j ⟨[1,2,7,8,12,13],[3,11,29],⟨[.ptr 3 0,.row 2,.d .bool],Ld3⟩,[]⟩)),(25,(.j ⟨[7],[],⟨[],Ld4⟩,[]⟩))]⟩
def JE:cj:=cn yI jK
def uJ:FT:=⟨⟨[.agg GO,.d aL],Ld4⟩,⟨[.d aL],Ld4⟩,dM [(8,(.j ⟨[1,10],[2,5,9,11],⟨[.ptr 3 0,.d aL,.row 2,.d aL],Ld3⟩,[]⟩)),(16,(.j ⟨[1,10,11],[2,5,9],⟨[.ptr 3 0,.d aL,.row 2],Ld3⟩,[]⟩))]⟩
def C2:cj:=cn uJ gQ
def yM:FT:=⟨⟨[.d aL],[]⟩,⟨[.d .bool],[]⟩,.leaf⟩
def JN:cj:=cn yM qe
def Ay:FT:=⟨⟨uX,[]⟩,⟨[.d .bool],[]⟩,dM [(2,(.j ⟨[],[4],⟨[.d .bool],[]⟩,[]⟩))]⟩
def Lx:cj:=cn Ay uT
def vT:FT:=⟨⟨[.d (.int .u64)],[]⟩,⟨[.d aL],[]⟩,.leaf⟩
def Ei:cj:=cn vT qV
def yJ:FT:=⟨⟨[.d (.int .u64)],[]⟩,⟨[.d aL],[]⟩,.leaf⟩
def JG:cj:=cn yJ tH
def nX:FT:=⟨⟨[.row 0,.d aL,.d aL],VP⟩,⟨[],VP⟩,dM [(3,(.j ⟨[1,2],[0,6],⟨RD,VP⟩,[]⟩)),(15,(.j ⟨[1,2,6],[0,7],⟨RD,VP⟩,[]⟩)),(17,(.j ⟨[1,2,6,7],[0,30],⟨[.row 0,.d .bool],VP⟩,[]⟩))]⟩
def uh:cj:=cn nX fB
def sB:FT:=⟨⟨[.row 0,.d aL,.d aL,.d aL],VP⟩,⟨[],VP⟩,dM [(5,(.j ⟨[],[0,1,2,3,8,9],⟨[.row 0,.d aL,.d aL,.d aL,.d .bool,.d .bool],VP⟩,[]⟩))]⟩
def zS:cj:=cn sB jk
def MD:FT:=⟨⟨[.row 0],VP⟩,⟨[],VP⟩,.leaf⟩
def Xb:cj:=cn MD iW
def CY:FT:=⟨⟨[.row 0],VP⟩,⟨[.row 0],VP⟩,dM [(14,(.j ⟨[],[0,3],⟨RD,VP⟩,[]⟩))]⟩
def Og:cj:=cn CY ef
def xz:FT:=⟨⟨[.d aL,.ptr 0 0],[.cells 3 [.d aL]]⟩,⟨[.d .bool],[.cells 3 [.d aL]]⟩,.leaf⟩
def Gx:cj:=cn xz oO
def yN:FT:=⟨⟨[.row 0,.clo 119 1 0],Xz⟩,⟨[.d aL],Xz⟩,dM [(6,(.j ⟨[7],[0,1,8],⟨[.row 0,.clo 119 1 0,.d aL],Xz⟩,[]⟩))]⟩
def JO:cj:=cn yN nu
def xH:FT:=⟨⟨[.row 0,.clo 119 1 0],Xz⟩,⟨[.row 2],[.gone,.cells 3 [.d aL],.rows 3 aa aL]⟩,dM [(16,(.j ⟨[],[0,1,5,6],⟨[.row 0,.clo 119 1 0,.d aL,.d aL],Xz⟩,[]⟩)),(24,(.j ⟨[6],[0,1,5],⟨[.row 0,.clo 119 1 0,.d aL],Xz⟩,[]⟩))]⟩
def GI:cj:=cn xH c_
def fh:FT:=⟨⟨aa1,[]⟩,⟨Z',[]⟩,dM [(17,(.j ⟨[],[7,12,15],⟨uj,[.cells 84 [.row 2,.d aL,.row 3,.row 4],.cells 84 t7,.rows 157 aa dt,.rows 4 M .bool,.rows 159 M gH]⟩,[]⟩)),(26,(.j ⟨[4,5,15,27],[6,7,8,12,42],⟨t8,ajh⟩,[]⟩)),(34,(.j ⟨[4,5,15,27],[6,7,8,12,51],⟨t8,ajh⟩,[]⟩))]⟩
def JF:cj:=cn fh gR
def xw:FT:=⟨⟨[.d Db],[]⟩,⟨[.agg [.csl 0 2 1,.d aL,.d mf,.d (.sl gH)]],[.cells 157 [.d aL,.row 1],.rows 3 M aL]⟩,dM [(7,(.j ⟨[],[1,2,3],⟨[.ptr 0 0,.ptr 1 0,.csl 2 2 1],[.cells 84 [.d Db],.cells 84 t7,.cells 157 [.d aL,.row 3],.rows 3 M aL]⟩,[.cel 3 1 3 aL]⟩)),(8,(.u 2))]⟩
def Gu:cj:=cn xw je
def xD:FT:=⟨⟨aa1,[]⟩,⟨Z',[]⟩,dM [(17,(.j ⟨[],[7,12,15],⟨uj,[.cells 84 [.csl 2 2 1,.d aL,.d mf,.d (.sl gH)],.cells 84 t7,.cells 157 [.d aL,.d (.sl aL)]]⟩,[]⟩)),(26,(.j ⟨[4,5,15,27],[6,7,8,12,42],⟨t8,ajg⟩,[]⟩)),(33,(.s 4 0 0 0)),(34,(.j ⟨[4,5,15,27],[6,7,8,12,51],⟨t8,ajg⟩,[]⟩)),(41,(.s 4 0 0 0)),(46,(.s 4 0 0 1)),(53,(.s 4 0 0 1)),(74,(.s 4 0 0 0)),(80,(.s 4 0 0 0)),(100,(.a [.pk 7 0 dt]))]⟩
def GC:cj:=cn xD gg
def xv:FT:=⟨⟨[.d Db],[]⟩,⟨[.agg [.csl 0 2 2,.d aL,.d mf,.d (.sl gH)]],[.cells 157 [.d aL,.row 1,.d aL,.row 2],.rows 3 M aL,.rows 3 M aL]⟩,dM [(7,(.j ⟨[],[1,2,3],⟨[.ptr 0 0,.ptr 1 0,.csl 2 2 2],[.cells 84 [.d Db],.cells 84 t7,.cells 157 [.d aL,.row 3,.d aL,.row 4],.rows 3 M aL,.rows 3 M aL]⟩,[.cel 3 1 3 aL,.cel 3 3 3 aL]⟩)),(8,(.u 3))]⟩
def Gt:cj:=cn xv jd
def xC:FT:=⟨⟨aa1,[]⟩,⟨Z',[]⟩,dM [(17,(.j ⟨[],[7,12,15],⟨uj,[.cells 84 [.csl 2 2 2,.d aL,.d mf,.d (.sl gH)],.cells 84 t7,.cells 157 [.d aL,.d (.sl aL),.d aL,.d (.sl aL)]]⟩,[]⟩)),(26,(.j ⟨[4,5,15,27],[6,7,8,12,42],⟨t8,aji⟩,[]⟩)),(33,(.s 4 0 0 0)),(34,(.j ⟨[4,5,15,27],[6,7,8,12,51],⟨t8,aji⟩,[]⟩)),(41,(.s 4 0 0 0)),(46,(.s 4 0 0 2)),(53,(.s 4 0 0 2)),(74,(.s 4 0 0 0)),(80,(.s 4 0 0 0)),(100,(.a [.pk 7 0 dt]))]⟩
def GA:cj:=cn xC fk
def xu:FT:=⟨⟨[.d Db],[]⟩,⟨[.agg [.csl 0 2 3,.d aL,.d mf,.d (.sl gH)]],[.cells 157 [.d aL,.row 1,.d aL,.row 2,.d aL,.row 3],.rows 3 M aL,.rows 3 M aL,.rows 3 M aL]⟩,dM [(7,(.j ⟨[],[1,2,3],⟨[.ptr 0 0,.ptr 1 0,.csl 2 2 3],[.cells 84 [.d Db],.cells 84 t7,.cells 157 [.d aL,.row 3,.d aL,.row 4,.d aL,.row 5],.rows 3 M aL,.rows 3 M aL,.rows 3 M aL]⟩,[.cel 3 1 3 aL,.cel 3 3 3 aL,.cel 3 5 3 aL]⟩)),(8,(.u 4))]⟩
def Gs:cj:=cn xu ja
def xB:FT:=⟨⟨aa1,[]⟩,⟨Z',[]⟩,dM [(17,(.j ⟨[],[7,12,15],⟨uj,[.cells 84 [.csl 2 2 3,.d aL,.d mf,.d (.sl gH)],.cells 84 t7,.cells 157 [.d aL,.d (.sl aL),.d aL,.d (.sl aL),.d aL,.d (.sl aL)]]⟩,[]⟩)),(26,(.j ⟨[4,5,15,27],[6,7,8,12,42],⟨t8,Ld7⟩,[]⟩)),(33,(.s 4 0 0 0)),(34,(.j ⟨[4,5,15,27],[6,7,8,12,51],⟨t8,Ld7⟩,[]⟩)),(41,(.s 4 0 0 0)),(46,(.s 4 0 0 3)),(53,(.s 4 0 0 3)),(74,(.s 4 0 0 0)),(80,(.s 4 0 0 0)),(100,(.a [.pk 7 0 dt]))]⟩
def Gz:cj:=cn xB eP
def xt:FT:=⟨⟨[.d Db],[]⟩,⟨[.agg [.csl 0 2 4,.d aL,.d mf,.d (.sl gH)]],[.cells 157 [.d aL,.row 1,.d aL,.row 2,.d aL,.row 3,.d aL,.row 4],.rows 3 M aL,.rows 3 M aL,.rows 3 M aL,.rows 3 M aL]⟩,dM [(7,(.j ⟨[],[1,2,3],⟨[.ptr 0 0,.ptr 1 0,.csl 2 2 4],[.cells 84 [.d Db],.cells 84 t7,.cells 157 [.d aL,.row 3,.d aL,.row 4,.d aL,.row 5,.d aL,.row 6],.rows 3 M aL,.rows 3 M aL,.rows 3 M aL,.rows 3 M aL]⟩,[.cel 3 1 3 aL,.cel 3 3 3 aL,.cel 3 5 3 aL,.cel 3 7 3 aL]⟩)),(8,(.u 5))]⟩
def Gr:cj:=cn xt mb
def xA:FT:=⟨⟨aa1,[]⟩,⟨Z',[]⟩,dM [(17,(.j ⟨[],[7,12,15],⟨uj,[.cells 84 [.csl 2 2 4,.d aL,.d mf,.d (.sl gH)],.cells 84 t7,.cells 157 [.d aL,.d (.sl aL),.d aL,.d (.sl aL),.d aL,.d (.sl aL),.d aL,.d (.sl aL)]]⟩,[]⟩)),(26,(.j ⟨[4,5,15,27],[6,7,8,12,42],⟨t8,Ld5⟩,[]⟩)),(33,(.s 4 0 0 0)),(34,(.j ⟨[4,5,15,27],[6,7,8,12,51],⟨t8,Ld5⟩,[]⟩)),(41,(.s 4 0 0 0)),(46,(.s 4 0 0 4)),(53,(.s 4 0 0 4)),(74,(.s 4 0 0 0)),(80,(.s 4 0 0 0)),(100,(.a [.pk 7 0 dt]))]⟩
def Gy:cj:=cn xA gf
def Lr:cj:=cn fh rB
def vO:FT:=⟨⟨[.d nV,.d iO,.d gV],[]⟩,⟨[.d iO,.d .bool],[]⟩,dM [(3,(.j ⟨[],[3,4,5,6,39],⟨t8,Ka⟩,[]⟩)),(11,(.j ⟨[],[3,4,5,6,70],⟨t8,Ka⟩,[]⟩)),(20,(.j ⟨[],[3,4,5,6,8],⟨[.ptr 0 0,.ptr 1 0,.ptr 2 0,.ptr 3 0,.d aL],Ka⟩,[]⟩)),(41,(.j ⟨[],[5,6,12],⟨agd,agj⟩,[]⟩))]⟩
def Eb:cj:=cn vO dT
def tX:FT:=⟨⟨[.d Ka24],[]⟩,⟨uX,[]⟩,dM [(26,(.j ⟨[27,28],[1,4,5,29],⟨[.ptr 0 0,.ptr 1 0,.csl 2 1 1,.d aL],[.cells 31 [.d Ka24],.cells 87 [.d iO],.cells 81 [.row 3],.rows 4 M .bool]⟩,[.cel 5 0 4 .bool]⟩)),(40,(.j ⟨[6,27,28,29],[1,4,5,7,8,53],⟨[.ptr 0 0,.ptr 1 0,.csl 2 1 1,.ptr 3 0,.ptr 4 0,.d .bool],[.cells 31 [.d Ka24],.cells 87 [.d iO],.cells 81 [.row 5],.cells 60 [.d gV],.cells 87 [.d iO],.rows 4 M .bool]⟩,[]⟩)),(41,(.b 9 7 0 0 1)),(47,(.j ⟨[27,28,29],[1,4,5,8],⟨[.ptr 0 0,.ptr 1 0,.csl 2 1 1,.ptr 3 0],[.cells 31 [.d Ka24],.cells 87 [.d iO],.cells 81 [.row 4],.cells 87 [.d iO],.rows 4 M .bool]⟩,[]⟩)),(48,(.s 7 0 0 1))]⟩
def Bq:cj:=cn tX dZ
def tW:FT:=⟨⟨[.d Ka24],[]⟩,⟨uX,[]⟩,dM [(26,(.j ⟨[27,28],[1,4,5,29],⟨[.ptr 0 0,.ptr 1 0,.csl 2 1 2,.d aL],[.cells 31 [.d Ka24],.cells 87 [.d iO],.cells 81 [.row 3,.row 4],.rows 4 M .bool,.rows 4 M .bool]⟩,[.cel 5 0 4 .bool,.cel 5 1 4 .bool]⟩)),(40,(.j ⟨[6,27,28,29],[1,4,5,7,8,53],⟨[.ptr 0 0,.ptr 1 0,.csl 2 1 2,.ptr 3 0,.ptr 4 0,.d .bool],[.cells 31 [.d Ka24],.cells 87 [.d iO],.cells 81 [.row 5,.row 6],.cells 60 [.d gV],.cells 87 [.d iO],.rows 4 M .bool,.rows 4 M .bool]⟩,[]⟩)),(41,(.b 9 7 0 0 2)),(47,(.j ⟨[27,28,29],[1,4,5,8],⟨[.ptr 0 0,.ptr 1 0,.csl 2 1 2,.ptr 3 0],[.cells 31 [.d Ka24],.cells 87 [.d iO],.cells 81 [.row 4,.row 5],.cells 87 [.d iO],.rows 4 M .bool,.rows 4 M .bool]⟩,[]⟩)),(48,(.s 7 0 0 2))]⟩
def Bp:cj:=cn tW dl
def tV:FT:=⟨⟨[.d Ka24],[]⟩,⟨uX,[]⟩,dM [(26,(.j ⟨[27,28],[1,4,5,29],⟨[.ptr 0 0,.ptr 1 0,.csl 2 1 3,.d aL],[.cells 31 [.d Ka24],.cells 87 [.d iO],.cells 81 [.row 3,.row 4,.row 5],.rows 4 M .bool,.rows 4 M .bool,.rows 4 M .bool]⟩,[.cel 5 0 4 .bool,.cel 5 1 4 .bool,.cel 5 2 4 .bool]⟩)),(40,(.j ⟨[6,27,28,29],[1,4,5,7,8,53],⟨[.ptr 0 0,.ptr 1 0,.csl 2 1 3,.ptr 3 0,.ptr 4 0,.d .bool],[.cells 31 [.d Ka24],.cells 87 [.d iO],.cells 81 [.row 5,.row 6,.row 7],.cells 60 [.d gV],.cells 87 [.d iO],.rows 4 M .bool,.rows 4 M .bool,.rows 4 M .bool]⟩,[]⟩)),(41,(.b 9 7 0 0 3)),(47,(.j ⟨[27,28,29],[1,4,5,8],⟨[.ptr 0 0,.ptr 1 0,.csl 2 1 3,.ptr 3 0],[.cells 31 [.d Ka24],.cells 87 [.d iO],.cells 81 [.row 4,.row 5,.row 6],.cells 87 [.d iO],.rows 4 M .bool,.rows 4 M .bool,.rows 4 M .bool]⟩,[]⟩)),(48,(.s 7 0 0 3))]⟩
def Bo:cj:=cn tV dH
def eL:FT:=⟨⟨[.d Ka24],[]⟩,⟨uX,[]⟩,dM [(26,(.j ⟨[27,28],[1,4,5,29],⟨[.ptr 0 0,.ptr 1 0,.csl 2 1 4,.d aL],[.cells 31 [.d Ka24],.cells 87 [.d iO],.cells 81 [.row 3,.row 4,.row 5,.row 6],.rows 4 M .bool,.rows 4 M .bool,.rows 4 M .bool,.rows 4 M .bool]⟩,[.cel 5 0 4 .bool,.cel 5 1 4 .bool,.cel 5 2 4 .bool,.cel 5 3 4 .bool]⟩)),(40,(.j ⟨[6,27,28,29],[1,4,5,7,8,53],⟨[.ptr 0 0,.ptr 1 0,.csl 2 1 4,.ptr 3 0,.ptr 4 0,.d .bool],[.cells 31 [.d Ka24],.cells 87 [.d iO],.cells 81 [.row 5,.row 6,.row 7,.row 8],.cells 60 [.d gV],.cells 87 [.d iO],.rows 4 M .bool,.rows 4 M .bool,.rows 4 M .bool,.rows 4 M .bool]⟩,[]⟩)),(41,(.b 9 7 0 0 4)),(47,(.j ⟨[27,28,29],[1,4,5,8],⟨[.ptr 0 0,.ptr 1 0,.csl 2 1 4,.ptr 3 0],[.cells 31 [.d Ka24],.cells 87 [.d iO],.cells 81 [.row 4,.row 5,.row 6,.row 7],.cells 87 [.d iO],.rows 4 M .bool,.rows 4 M .bool,.rows 4 M .bool,.rows 4 M .bool]⟩,[]⟩)),(48,(.s 7 0 0 4))]⟩
def Bn:cj:=cn eL cS
def C0:cj:=cn eL ki
def Jq:FT:=⟨⟨[.d Ka24],[]⟩,⟨[.d uZ,.d aL],[]⟩,dM [(20,(.j ⟨[25,26],[1,6,7,27],⟨[.ptr 0 0,.ptr 1 0,.row 2,.d aL],[.cells 31 [.d Ka24],.cells 93 [.d Kd0],.rows 58 aa (.sl aL)]⟩,[]⟩))]⟩
def Ui:cj:=cn Jq lO
theorem s_:aG Pg 43 Xa:=mk MC fy an b8
theorem Pd x:ly (lx x) (yd x):=by
 unfold lx yd uG ck bA bt aY cM aB cw;with_reducible repeat' first|(refine OI.o ?_;constructor)|intro _
theorem P9:aG Pg 41 Rp:=zk FG lx yd Pd (ac s_ an) b8
theorem aby:aG Pg 73 aci:=mk Vj G7 an b8
theorem ac2:aG Pg 40 C6:=mk Vp Ng an b8
theorem Zi:aG Pg 40 afp:= @aG.sub Pg 40 C6.pre C6.post Ng Bc ac2 rfl (λx y h=>rj (b:=8) x y h)
theorem Sv x:ly (ip x) (AY x):=by
 unfold ip AY wI ck bA mq bt aY cM aB cw;with_reducible repeat' first|(refine OI.o ?_;constructor)|intro _
theorem Ti:aG Pg 97 Uf:=zk Jn ip AY Sv (ac Zi an) b8
theorem Ze:aG Pg 40 yS:=mk QE H6 an b8
theorem zr:aG Pg 40 acv:= @aG.sub Pg 40 yS.pre yS.post H6 gh Ze rfl (λx y h=>rj (b:=8) x y h)
theorem Tj:aG Pg 63 Ug:=mk Jo tI (ac zr (ac Ti an)) b8
theorem Wo:aG Pg 65 W7:=mk Mz s7 an b8
theorem Tk:aG Pg 64 Uh:=mk Jp tJ (ac Wo an) b8
theorem V8 x:ly (pB x) (Dx x):=by
 unfold pB Dx zw aX bh bm bT cX gN lz ck bA bt aY cM aB cw;with_reducible repeat' first|(refine OI.o ?_;constructor)|intro _
theorem Wq:aG Pg 35 W9:=zk MB pB Dx V8 an b8
theorem P5:aG Pg 66 Ro:=mk FF rY an b8
theorem Zd:aG Pg 40 ZI:=mk vU vB an b8
theorem U':aG Pg 40 acu:= @aG.ro Pg 40 vU.pre vU.post.vs vB uz (Zd.holds rfl) rfl (λx _ h=>by rw[show uz x=av (vB x) λy=>same y.2 x (Z y.1) from i_ (av _) (funext λ_=>O1 ..)]at h;exact h)
theorem abk x:ly (sR x) (Nd x):=by
 unfold sR Nd Hf ck bA bt aY cM aB cw;with_reducible repeat' first|(refine OI.o ?_;constructor)|intro _
theorem ac1:aG Pg 41 acs:=zk zC sR Nd abk (ac s_ an) b8
theorem Za:aG Pg 41 afo:= @aG.ro Pg 41 zC.pre zC.post.vs sR Bb (ac1.holds rfl) rfl (λx _ h=>by rw[show Bb x=av (sR x) λy=>same y.2 x.2 (Z y.1) from i_ (av _) (funext λ_=>O1 ..)]at h;exact h)
theorem Th:aG Pg 98 Ue:=mk Jm lM (ac Za an) b8
theorem Y_:aG Pg 99 ZC:=mk Qw vz (ac U' an) b8
theorem V7 x:ly (qX x) (Dw x):=by
 unfold qX Dw zu ua yZ Kk Prod.p13 Prod.p14 Prod.p15 Prod.p16 Prod.p17 aX bh bm bT cX gN rn um De Prod.q16 Prod.q17 Prod.q18 cD gd GW ck bg bA ji mq bt aY cM aB cw;with_reducible repeat' first|(refine OI.o ?_;constructor)|intro _
theorem Wp:aG Pg 67 W8:=zk MA qX Dw V7 (ac U' (ac Za (ac Th (ac Y_ an)))) b8
end
end Go.Proofs.YtiaemgcbndhkfaaGreatDoor.AI
