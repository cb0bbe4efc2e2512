/-
  Texts of the proof, part 5 of 5: what is used to prove the statement. No condition.
-/
import Derived.Test.YtiaemgcbndhkfaaGreatDoorHBRefusesQ3
import Derived.Deep.Slices
import Derived.OpenShut
import Derived.Below
import Derived.Test.YtiaemgcbndhkfaaGreatDoorProg
import Derived.KernelRfl
import Derived.Recover
import Derived.Test.YtiaemgcbndhkfaaGreatDoorRows
import Derived.LaidMore
namespace Go.Proofs.YtiaemgcbndhkfaaGreatDoor.AI
open Go.RowKit
set_option maxRecDepth 100000
set_option maxHeartbeats 4000000
set_option linter.unusedVariables false
set_option linter.unusedSimpArgs false
open Act renaming put→MF
open _root_.Array renaming replicate→oa
open _root_.Bool renaming true→M,false→aa
open Call renaming operands→dO
open _root_.Int renaming ofNat_eq_natCast→aj,ofNat→aT,tmod→bo
open _root_.List renaming length→ah,replicate→aA,length_singleton→cP,range→fd,cons_append→gX,length_nil→jW,getElem?_cons_zero→lA,nil_append→n7,replicate_succ→pJ,take_succ_cons→uU
open _root_.Nat renaming beq→ax,testBit→aO,add_zero→db,ble→dN,blt→eP
open Oper renaming wp→Gy
open _root_.Option renaming some→Z,none→U,bind_some→aD,map_some→bU,map→lQ,getD_some→uh
open _root_.Prod renaming p2→aX,p3→bh,p4→bk,q3→bn,p5→bS,q5→cC,q4→cI,p6→da,q6→dI,q7→gG,p7→ip,q8→nl,p8→ug,p9→yR,p10→yS,p11→J2
open Region renaming wanted→iH
open Result renaming andThen_ok→cF
open Sem renaming run_bind→ey,run_pure→oE
open _root_.Sum renaming inr→b7,inl→nk
open Value renaming okWide→Gw
open World renaming cell?→MC
noncomputable section
theorem PQ {σ:PT Nat} {i a:Nat} (h:σ.get i=Z a):gZ σ i=a:=by unfold gZ;rw[h]
theorem UI {σ:PT Nat}:∀(n i acc sm:Nat),X_ σ n i acc=Z sm->
 (∀k,k<n->aO acc (gZ σ (i+k))=aa)/\(∀a b,a<n->b<n->gZ σ (i+a)=gZ σ (i+b)->a=b)/\∀q,aO sm q=M↔aO acc q=M\/∃k,k<n/\gZ σ (i+k)=q
 |0,i,acc,sm,h=>by
  simp only[X_,af]at h;subst h;exact⟨λk hk=>by omega,λa b d=>by omega,λq=>⟨.inl,λhq=>hq.elim id λ⟨k,hk,_⟩=>by omega⟩⟩
 |n+1,i,acc,sm,h=>by
  simp only[X_]at h;split at h
  .rename_i a d;split at h
   .cases h
   .rename_i hna;have hna:aO acc a=aa:=by simpa using hna
    have hga:=PQ d;obtain⟨h1,h2,h3⟩:=UI n (i+1) (acc|||kn a) sm h;have hne:∀k,k<n->gZ σ (i+1+k)≠a/\aO acc (gZ σ (i+1+k))=aa:=λk hk=>by
     have:=h1 k hk;rw[bw,Bool.or_eq_false_iff]at this;refine ⟨λe=>?_,this.1⟩;have h4:=this.2;rw[e]at h4;rw[bV.2 rfl]at h4;cases h4
    refine ⟨λk hk=>?_,λx y z s hxy=>?_,λq=>?_⟩
    .cases k with
     |zero=>rw[db,hga];exact hna
     |succ k=>rw[show i+(k+1)=i+1+k from by omega];exact (hne k (by omega)).2
    .cases x with
     |zero=>
      cases y with
      |zero=>rfl
      |succ y=>
       rw[db,hga,show i+(y+1)=i+1+y from by omega]at hxy;exact dP hxy.symm (hne y (by omega)).1
     |succ x=>
      cases y with
      |zero=>
       rw[show i+0=i from rfl,hga,show i+(x+1)=i+1+x from by omega]at hxy;exact dP hxy (hne x (by omega)).1
      |succ y=>
       rw[show i+(x+1)=i+1+x from by omega,show i+(y+1)=i+1+y from by omega]at hxy;have:=h2 x y (by omega) (by omega) hxy;omega
    .rw[h3,bw,iO];constructor
     .rintro ((hq|hq)|⟨k,hk,hq⟩)
      .exact .inl hq
      .exact .inr ⟨0,by omega,by rw[db,hga];exact bV.1 hq⟩
      .exact .inr ⟨k+1,by omega,by rw[show i+(k+1)=i+1+k from by omega];exact hq⟩
     .rintro (hq|⟨k,hk,hq⟩)
      .exact .inl (.inl hq)
      .cases k with
       |zero=>rw[db,hga]at hq;exact .inl (.inr (bV.2 hq))
       |succ k=>exact .inr ⟨k,by omega,by rw[show i+1+k=i+(k+1) from by omega];exact hq⟩
  .cases h
theorem P0 {σ:PT Nat}:∀(n:Nat),U6 σ n=M->∀i,i<n->gZ σ i=i
 |0,_,i,hi=>by omega
 |n+1,h,i,hi=>by
  simp only[U6,ak]at h;by_cases e:i=n
  .subst e;cases d:σ.get i with
   |none=>rw[d]at h;exact dP h.1 (by simp)
   |some a=>rw[d]at h;rw[PQ d];exact au h.1
  .exact P0 n h.2 i (by omega)
structure G7 (np:Nat) (t:Tm) (vs:List TV) (h:bl) (z:t.ty.den) (m:Nat) (σ:PT Nat) (sm:Nat):Prop where
 ex:∃x m1 y m2,z=So _ _ x y/\m=m1|||m2/\w_ (gZ σ) h t.vs vs=Z (x,m1)/\zU (gZ σ) h 0 t.bs=Z (y,m2)
 inj:∀a b,a<t.bs.length->b<t.bs.length->gZ σ a=gZ σ b->a=b
 sig:∀q,aO sm q=M↔∃k,k<t.bs.length/\gZ σ k=q
 disj:∀i,aO m i=M->aO sm i=aa
 fix:∀i,i<np->gZ σ i=i
theorem vk {np:Nat} {t:Tm} {vs:Y TV} {h:bl} {z:t.ty.den} {m:Nat} {σ:PT Nat} {sm:Nat} (hm:Dk np t vs h=Z ⟨z,m,σ,sm⟩):G7 np t vs h z m σ sm:=by
 unfold Dk at hm;rw[No]at hm;split at hm
 .rename_i sm' hs;split at hm
  .rename_i x m1 h1;split at hm
   .rename_i y m2 h2;split at hm
    .rename_i hc;simp only[ak]at hc;simp only[af,aec.mk.injEq]at hm;obtain⟨rfl,rfl,rfl,rfl⟩:=hm;obtain⟨A,s,d⟩:=UI _ _ _ _ hs;simp only[bL]at A s d;exact⟨⟨x,m1,y,m2,rfl,rfl,h1,h2⟩,s,λq=>by rw[d];simp,λi hi=>wK hc.1 i hi,P0 np hc.2⟩
    .cases hm
   .cases hm
  .cases hm
 .cases hm
mutual
theorem yi {g:Nat->Nat} {h:bl}:∀(p:PV) (l:Y TV) (x:p.ty.den) (m:Nat) (r:Y TV),pl g h p l=Z (x,m,r)->dK h m
 |.d T,l,x,m,r,hg=>uo 40 T l x m r hg
 |.ptr i q,l,x,m,r,hg=>by
  simp only[pl]at hg;split at hg
  .split at hg
   .simp only[af,aC]at hg;obtain⟨_,rfl,_⟩:=hg;exact dK.zero h
   .cases hg
  .cases hg
 |.csl i q z,l,x,m,r,hg=>by
  simp only[pl]at hg;split at hg
  .split at hg
   .simp only[af,aC]at hg;obtain⟨_,rfl,_⟩:=hg;exact dK.zero h
   .cases hg
  .cases hg
 |.clo q i z,l,x,m,r,hg=>by
  simp only[pl]at hg;split at hg
  .split at hg
   .simp only[af,aC]at hg;obtain⟨_,rfl,_⟩:=hg;exact dK.zero h
   .cases hg
  .cases hg
 |.row i,l,x,m,r,hg=>by
  simp only[pl]at hg;split at hg
  .split at hg
   .simp only[af,aC]at hg;obtain⟨_,rfl,_⟩:=hg;exact dK.zero h
   .cases hg
  .cases hg
 |.mp i,l,x,m,r,hg=>by
  simp only[pl]at hg;split at hg
  .split at hg
   .simp only[af,aC]at hg;obtain⟨_,rfl,_⟩:=hg;exact dK.zero h
   .cases hg
  .cases hg
 |.nil,l,x,m,r,hg=>by
  simp only[pl]at hg;split at hg
  .simp only[af,aC]at hg;obtain⟨_,rfl,_⟩:=hg;exact dK.zero h
  .cases hg
 |.emp,l,x,m,r,hg=>by
  simp only[pl]at hg;split at hg
  .simp only[af,aC]at hg;obtain⟨_,rfl,_⟩:=hg;exact dK.zero h
  .simp only[af,aC]at hg;obtain⟨_,rfl,_⟩:=hg;exact dK.zero h
  .cases hg
 |.agg ps,l,x,m,r,hg=>GW ps l x m r hg
theorem GW {g:Nat->Nat} {h:bl}:∀(ps:Y PV) (l:Y TV) (x:(PV.tyL ps).den) (m:Nat) (r:Y TV),yh g h ps l=Z (x,m,r)->dK h m
 |[],l,x,m,r,hg=>by
  simp only[yh,af,aC]at hg;obtain⟨_,rfl,_⟩:=hg;exact dK.zero h
 |p::ps,l,x,m,r,hg=>by
  simp only[yh]at hg;split at hg
  .rename_i x1 m1 r1 h1;split at hg
   .rename_i x2 m2 r2 h2;simp only[af,aC]at hg;obtain⟨_,rfl,_⟩:=hg;exact (yi p l x1 m1 r1 h1).or (GW ps r1 _ _ _ h2)
   .cases hg
  .cases hg
end
theorem aew {g:Nat->Nat} {h:bl} {p:PV} {v:TV} {x:p.ty.den} {m:Nat} (hg:wz g h p v=Z (x,m)):dK h m:=by
 cases p with
 |d T=>exact Vn hg
 |agg ps=>
  simp only[wz]at hg;split at hg
  .cases hg
  .split at hg
   .split at hg
    .rename_i x1 m1 h1;simp only[af,aC]at hg;obtain⟨_,rfl⟩:=hg;exact GW ps _ _ _ _ h1
    .cases hg
   .cases hg
 |ptr i q=>
  simp only[wz]at hg;split at hg
  .rename_i h1;simp only[af,aC]at hg;obtain⟨_,rfl⟩:=hg;exact yi _ _ _ _ _ h1
  .cases hg
 |csl i q z=>
  simp only[wz]at hg;split at hg
  .rename_i h1;simp only[af,aC]at hg;obtain⟨_,rfl⟩:=hg;exact yi _ _ _ _ _ h1
  .cases hg
 |clo q i z=>
  simp only[wz]at hg;split at hg
  .rename_i h1;simp only[af,aC]at hg;obtain⟨_,rfl⟩:=hg;exact yi _ _ _ _ _ h1
  .cases hg
 |row i=>
  simp only[wz]at hg;split at hg
  .rename_i h1;simp only[af,aC]at hg;obtain⟨_,rfl⟩:=hg;exact yi _ _ _ _ _ h1
  .cases hg
 |mp i=>
  simp only[wz]at hg;split at hg
  .rename_i h1;simp only[af,aC]at hg;obtain⟨_,rfl⟩:=hg;exact yi _ _ _ _ _ h1
  .cases hg
 |nil=>
  simp only[wz]at hg;split at hg
  .rename_i h1;simp only[af,aC]at hg;obtain⟨_,rfl⟩:=hg;exact yi _ _ _ _ _ h1
  .cases hg
 |emp=>
  simp only[wz]at hg;split at hg
  .rename_i h1;simp only[af,aC]at hg;obtain⟨_,rfl⟩:=hg;exact yi _ _ _ _ _ h1
  .cases hg
theorem GV {g:Nat->Nat} {h:bl}:∀(ps:Y PV) (vs:Y TV) (x:(PV.tyL ps).den) (m:Nat),w_ g h ps vs=Z (x,m)->dK h m
 |[],[],x,m,hg=>by simp only[w_,af,aC]at hg;obtain⟨_,rfl⟩:=hg;exact dK.zero h
 |[],_::_,x,m,hg=>by simp[w_]at hg
 |_::_,[],x,m,hg=>by simp[w_]at hg
 |p::ps,v::vs,x,m,hg=>by
  simp only[w_]at hg;split at hg
  .rename_i x1 m1 h1;split at hg
   .rename_i x2 m2 h2;simp only[af,aC]at hg;obtain⟨_,rfl⟩:=hg;exact (aew h1).or (GV ps vs x2 m2 h2)
   .cases hg
  .cases hg
theorem aex {g:Nat->Nat} {h:bl} {i:Nat} {b:PB} {x:b.ty.den} {m:Nat} (hg:DJ g h i b=Z (x,m)):dK h m:=by
 cases b with
 |rows ty p T=>
  simp only[DJ]at hg;split at hg
  .split at hg
   .split at hg
    .simp only[af,aC]at hg;obtain⟨_,rfl⟩:=hg;exact dK.zero h
    .cases hg
   .cases hg
  .cases hg
 |rowsP ty T=>
  simp only[DJ]at hg;split at hg
  .split at hg
   .split at hg
    .simp only[af,aC]at hg;obtain⟨_,rfl⟩:=hg;exact dK.zero h
    .cases hg
   .cases hg
  .cases hg
 |cells ty ps=>
  simp only[DJ]at hg;split at hg
  .split at hg
   .split at hg
    .rename_i h1;simp only[af,aC]at hg;obtain⟨_,rfl⟩:=hg;exact GW ps _ _ _ _ h1
    .cases hg
   .cases hg
  .cases hg
 |mp K V=>
  simp only[DJ]at hg;split at hg
  .split at hg
   .simp only[af,aC]at hg;obtain⟨_,rfl⟩:=hg;exact dK.zero h
   .cases hg
  .cases hg
 |gone=>simp only[DJ,af,aC]at hg;obtain⟨_,rfl⟩:=hg;exact dK.zero h
theorem GY {g:Nat->Nat} {h:bl}:∀(bs:Y PB) (i:Nat) (x:(PB.tyL bs).den) (m:Nat),zU g h i bs=Z (x,m)->dK h m
 |[],i,x,m,hg=>by simp only[zU,af,aC]at hg;obtain⟨_,rfl⟩:=hg;exact dK.zero h
 |b::r,i,x,m,hg=>by
  simp only[zU]at hg;split at hg
  .rename_i x1 m1 h1;split at hg
   .rename_i x2 m2 h2;simp only[af,aC]at hg;obtain⟨_,rfl⟩:=hg;exact (aex h1).or (GY r (i+1) x2 m2 h2)
   .cases hg
  .cases hg
structure qu (t:Tm) (x:t.ty.den) (vs:List TV) (h1:bl) (l1:List (Option hX)):Prop where
 pv:pO GP t.vs (Nn _ _ x)=Z vs
 pb:oe GP t.bs (Ke _ _ x)=Z l1
 len:l1.length=t.bs.length
 at_:∀i b,h1.get i=Z b↔l1[i]? =Z (Z b)
 ok:kO h1 vs=M
 lt:qX t.bs.length vs=M
 cells:∀i ty l,h1.get i=Z (.cells ty l)->kO h1 l=M/\qX t.bs.length l=M
theorem YB (l:Y (J hX)) (i:Nat) (b:hX):(zC GP 0 l PT.leaf).get i=Z b↔l[i]? =Z (Z b):=by
 by_cases hi:i<l.length
 .obtain⟨c,hc⟩:∃c,l[i]? =Z c:=⟨l[i],aw hi⟩
  have:=ur GP l 0 PT.leaf (λa b _ _ e=>by simp only[GP]at e;omega) i c hc;rw[show GP (0+i)=i from by simp only[GP];omega]at this;rw[this,hc];cases c with
  |some b'=>simp
  |none=>simp[PT.get]
 .rw[uq GP l 0 PT.leaf i (λk hk=>by simp only[GP];omega),bJ (by omega)];simp[PT.get]
theorem vq {t:Tm} {x:t.ty.den} {vs:Y TV} {h1:bl} (hi:BV t x=Z (vs,h1)):∃l1,qu t x vs h1 l1:=by
 unfold BV at hi;split at hi
 .rename_i us hus;split at hi
  .rename_i h hh;split at hi
   .rename_i hc;simp only[ak]at hc;simp only[af,aC]at hi;obtain⟨rfl,rfl⟩:=hi;unfold Lz at hh;split at hh
    .rename_i l1 d;simp only[af]at hh;refine ⟨l1,hus,d,BE _ _ _ _ d,λi b=>?_,hc.1.1,hc.1.2,λi ty l hil=>?_⟩
     .rw[<- hh];exact YB l1 i b
     .have:=PT.get_all _ h 1 0 i _ hc.2 hil;simpa only[ak] using this
    .cases hh
   .cases hi
  .cases hi
 .cases hi
def UO (nb:Nat) (n:Nat):Bool:=n%2==0&&eP (n/2) nb
theorem Aw {nb i:Nat}:UO nb (nm i)=M↔i<nb:=by
 unfold UO nm;rw[show 2*i%2=0 from by omega,show 2*i/2=i from by omega];simp only[cN,kI];exact⟨λh=>a9 h,λh=>bt h⟩
theorem Yi {nb n:Nat} (h:UO nb n=M):∃i,i<nb/\n=nm i:=by
 unfold UO at h;simp only[ak,cO]at h;exact⟨n/2,a9 h.2,by unfold nm;omega⟩
mutual
theorem aet {nb:Nat} {h:bl}:∀(v:TV) (y:AV),Ko nb v=M->b9 h v=Z y->y.all (UO nb)=M
 |.f _ _,y,_,he=>by simp only[b9,af]at he;subst he;rfl
 |.fel _ _ _ _ _,y,_,he=>by simp only[b9,af]at he;subst he;rfl
 |.pel id _ _ _,y,hl,he=>by simp only[b9,af]at he;subst he;exact Aw.2 (a9 hl)
 |.ptr id _,y,hl,he=>by simp only[b9,af]at he;subst he;exact Aw.2 (a9 hl)
 |.csl id _ _,y,hl,he=>by simp only[b9,af]at he;subst he;exact Aw.2 (a9 hl)
 |.row id,y,hl,he=>by
  simp only[b9]at he;split at he
  .simp only[af]at he;subst he;unfold eZ;split
   .rfl
   .exact Aw.2 (a9 hl)
  .cases he
 |.rtl id jj,y,hl,he=>by
  simp only[b9]at he;split at he
  .simp only[af]at he;subst he;exact Aw.2 (a9 hl)
  .cases he
 |.emp,y,_,he=>by simp only[b9,af]at he;subst he;rfl
 |.nil,y,_,he=>by simp only[b9,af]at he;subst he;rfl
 |.mp id,y,hl,he=>by simp only[b9,af]at he;subst he;exact Aw.2 (a9 hl)
 |.agg l,y,hl,he=>by
  simp only[b9]at he;split at he
  .rename_i l' hl';simp only[af]at he;subst he;exact rz l l' hl hl'
  .cases he
 |.tup l,y,hl,he=>by
  simp only[b9]at he;split at he
  .rename_i l' hl';simp only[af]at he;subst he;exact rz l l' hl hl'
  .cases he
 |.clo q l,y,hl,he=>by
  simp only[b9]at he;split at he
  .rename_i l' hl';simp only[af]at he;subst he;exact rz l l' hl hl'
  .cases he
 |.undef,y,_,he=>by simp only[b9,af]at he;subst he;rfl
 |.np,y,_,he=>by simp only[b9,af]at he;subst he;rfl
 |.anyb,y,_,he=>by simp only[b9,af]at he;subst he;rfl
 |.ful _ _,y,_,he=>by simp only[b9,af]at he;subst he;rfl
theorem rz {nb:Nat} {h:bl}:∀(l:Y TV) (l':Y AV),qX nb l=M->cz h l=Z l'->AV.allL (UO nb) l'=M
 |[],l',_,he=>by simp only[cz,af]at he;subst he;rfl
 |x::r,l',hl,he=>by
  obtain⟨y,l2,rfl,e1,e2⟩:=cU he;simp only[qX,ak]at hl;simp only[AV.allL,ak];exact⟨aet x y hl.1 e1,rz r l2 hl.2 e2⟩
end
theorem qu.blk_all {t:Tm} {x:t.ty.den} {vs:Y TV} {h1:bl} {l1:Y (J hX)} (I:qu t x vs h1 l1) {i:Nat} {b:hX} (hb:h1.get i=Z b) {y:uT} (d:jv h1 b=Z y):y.c.all (UO t.bs.length)=M:=by
 cases b with
 |rows ty p T xs=>
  simp only[jv]at d;split at d
  .cases d
  .simp only[af]at d;subst d;rfl
 |cells ty l=>
  cases ty with
  |some ty=>
   simp only[jv]at d;split at d
   .rename_i q hl;simp only[af]at d;subst d;exact rz l q (I.cells i _ l hb).2 hl
   .cases d
  |none=>
   simp only[jv]at d;split at d
   .rename_i q hl;simp only[af]at d;subst d;show AV.allL _ ((oz 0 q).map (·.2))=M;rw[LL];exact rz l q (I.cells i _ l hb).2 hl
   .cases d
 |dead p sz n=>cases d
 |mp K V es=>
  simp only[jv,af]at d;subst d;show BC.all _ (Yv K V es)=M;unfold Yv;split
  .rfl
  .simp only[BC.all,GA];have key:∀l:Y (K.den×V.den),AV.allL (UO t.bs.length) (l.map ((λx=>x.2)∘λp=>(pz K p.1,AV.f (gg V p.2))))=M:=λl=>by
    induction l with
    |nil=>rfl
    |cons e r s=>simp only[eW,AV.allL,ak];exact⟨rfl,s⟩
   exact key es
theorem qu.lt_len {t:Tm} {x:t.ty.den} {vs:Y TV} {h1:bl} {l1:Y (J hX)} (I:qu t x vs h1 l1) {i:Nat} {b:hX} (hb:h1.get i=Z b):i<t.bs.length:=by
 rw[<- I.len];exact (bm.1 ((I.at_ i b).1 hb)).1
def φ1 (nb:Nat) (g:Nat->Nat) (φ:PM):PM:=λn=>if UO nb n then φ (GZ g n) else U
theorem XT {nb:Nat} {g:Nat->Nat} {φ:PM} {i:Nat} (hi:i<nb):φ1 nb g φ (nm i)=φ (nm (g i)):=by
 unfold φ1;rw[aU (Aw.2 hi),wB]
theorem vX {nb:Nat} {g:Nat->Nat} {φ:PM} {n k:Nat} (h:φ1 nb g φ n=Z k):∃i,i<nb/\n=nm i/\φ (nm (g i))=Z k:=by
 unfold φ1 at h;split at h
 .rename_i hp;obtain⟨i,hi,rfl⟩:=Yi hp;rw[wB]at h;exact⟨i,hi,rfl,h⟩
 .cases h
structure acm (t:Tm) (x:t.ty.den) (vs:List TV) (h1:bl) (g:Nat->Nat) (φ:PM) (E E':Nat->Prop) (Hv:HF) (w:World):Prop where
 rep:qG (φ1 t.bs.length g φ) E' (bB h1) w
 val:∀x v,x.all (UO t.bs.length)=M->cE φ (tot E φ Hv) w (x.ren (GZ g)) v->cE (φ1 t.bs.length g φ) (tot E' (φ1 t.bs.length g φ) (bB h1)) w x v
 own_:∀k,own (φ1 t.bs.length g φ) (bB h1) k->own φ Hv k
 tot_:∀k,tot E' (φ1 t.bs.length g φ) (bB h1) k->tot E φ Hv k
theorem qG.toId {t:Tm} {x:t.ty.den} {vs:Y TV} {h1:bl} {l1:Y (J hX)} (I:qu t x vs h1 l1) {g:Nat->Nat} (inj:∀a b,a<t.bs.length->b<t.bs.length->g a=g b->a=b) {φ:PM} {E E':Nat->Prop} {Hv:HF} {w:World} (r:qG φ E Hv w)
 (hat:∀i b y,h1.get i=Z b->jv h1 b=Z y->Hv (nm (g i))=Z (y.ren (GZ g)))
 (D:∀k,E' k->tot E φ Hv k) (hne:∀i k b,i<t.bs.length->Hv (nm (g i))=Z b->φ (nm (g i))=Z k->¬E' k) (hel:∀k,E' k->k<w.heap.size):acm t x vs h1 g φ E E' Hv w:=by
 have own1:∀k,own (φ1 t.bs.length g φ) (bB h1) k->own φ Hv k:=by
  rintro k ⟨n,y,h2,h3⟩;obtain⟨i,hi,rfl,h4⟩:=vX h3;obtain⟨j,b,e,s,d⟩:=ju h2;have:=kP e;subst this;exact⟨nm (g i),_,hat i b y s d,h4⟩
 have tot1:∀k,tot E' (φ1 t.bs.length g φ) (bB h1) k->tot E φ Hv k:=λk hk=>hk.elim (D k) λh=>.inr (own1 k h)
 have val:∀x v,x.all (UO t.bs.length)=M->cE φ (tot E φ Hv) w (x.ren (GZ g)) v->cE (φ1 t.bs.length g φ) (tot E' (φ1 t.bs.length g φ) (bB h1)) w x v:=λx v A hr=>by
  have h2:cE (φ1 t.bs.length g φ) (tot E φ Hv) w x v:=cE.renFrom (λi k hp hk=>by unfold φ1;rw[aU hp];exact hk) hr x A rfl;exact h2.ext (λ_ _ h=>h) (Gu.refl _ w) λk _ hk=>tot1 k hk
 refine ⟨⟨λn n' b b' k z g2 g3 g4=>?_,λn y z=>?_,hel,λg' cells hg=>(r.gl g' cells hg).ext (Gu.refl _ w) λk _ hk=>tot1 k hk⟩,val,own1,tot1⟩
 .obtain⟨i,hi,rfl,h4⟩:=vX g3;obtain⟨j,hj,rfl,s⟩:=vX g4;obtain⟨i',c,e,d,q⟩:=ju z;have:=kP e;subst this;obtain⟨j',c',e,L,F⟩:=ju g2;have:=kP e;subst this;have:=r.inj _ _ _ _ k (hat i c _ d q) (hat j c' _ L F) h4 s;rw[inj i j hi hj (kP this)]
 .obtain⟨i,c,rfl,d,q⟩:=ju z;have hi:=I.lt_len d;obtain⟨k,p1,p2,ob,p3,p4⟩:=r.at_ _ _ (hat i c y d q);exact⟨k,by rw[XT hi];exact p1,hne i k _ hi (hat i c y d q) p1,ob,p3,iS.renFrom val (I.blk_all d q) p4⟩
theorem BM.view {g:Nat->Nat} {h hv:bl} {H H':HF} {m:Nat} (d:uf H H') (z:C7 h H H' m) (hr:wT hv h) {b0 c:hX} (hb:BM g h m b0 c) {y s:uT} (e0:jv h b0=Z y) (e1:jv hv c=Z s):il H H' y s:=by
 cases hb with
 |rows ty p T xs=>
  simp only[jv]at e0 e1;rw[e0]at e1;cases e1;exact il.refl d y
 |mp K V es=>
  simp only[jv]at e0 e1;rw[e0]at e1;cases e1;exact il.refl d y
 |cells ty ps x l l2 m' hg hp hm=>
  have key:∀q cs',cz h l=Z q->cz hv l2=Z cs'->gQ H H' q cs'/\∀x∈cs',x.isCell=M:=λq cs' hl hc=>by
   obtain⟨l1,A,q1,q2,q3⟩:=B9 d hr ps l x m' [] l2 q cs' hg hp hl hc λi hi=>z i (hm i hi)
   simp only[cz,af]at q2;subst q2;rw[n_]at q1;subst q1;exact⟨q3,lP (rK hc (v7 ps x l2 hp))⟩
  cases ty with
  |some ty=>
   simp only[jv]at e0 e1;split at e0
   .rename_i q hl;simp only[af]at e0;subst e0;split at e1
    .rename_i cs' hc;simp only[af]at e1;subst e1;exact il.cells rfl rfl (key _ _ hl hc).1 (key _ _ hl hc).2
    .cases e1
   .cases e0
  |none=>
   simp only[jv]at e0 e1;split at e0
   .rename_i q hl;simp only[af]at e0;subst e0;split at e1
    .rename_i cs' hc;simp only[af]at e1;subst e1;exact il.told (key _ _ hl hc).1
    .cases e1
   .cases e0
theorem BM.erB_some {g:Nat->Nat} {h hv:bl} {nx m:Nat} (hinv:l_ h nx) {i:Nat} {b0 c:hX} (h0:h.get i=Z b0) (hb:BM g h m b0 c) {d:uT} (e1:jv hv c=Z d):∃y,jv h b0=Z y:=by
 cases hb with
 |rows ty p T xs=>exact⟨d,e1⟩
 |mp K V es=>exact⟨d,e1⟩
 |cells ty ps x l l2 m' hg hp hm=>
  obtain⟨q,hl⟩:=eT h l (hinv.cells i _ l h0);cases ty<;>exact⟨_,by simp only[jv,hl];rfl⟩
theorem BM.row {g:Nat->Nat} {h:bl} {m:Nat} {b0 c:hX} (hb:BM g h m b0 c):mE c=mE b0:=by
 cases hb<;>rfl
structure pD (P:Program) (f:FuncId) (c:ch):Prop where
 callable:CZ P f
 calls:∀x y,c.m x=Z y->∀vs hp l1 rs hq l2 la lr,qu c.pre x vs hp l1->qu c.post y rs hq l2->cz hp vs=Z la->cz hq rs=Z lr->
  ∀(φ:PM) (E:Nat->Prop) (w:World) (us:ξ),qG φ E (bB hp) w->jZ φ (tot E φ (bB hp)) w la us->(∀n k,φ n=Z k->ow n<c.pre.bs.length)->
  Calls P f us.toArray w λen w'=>∃v φ',en= .returned v/\Gu (own φ (bB hp)) w w'/\(∀k,k<w.heap.size->own φ' (bB hq) k->own φ (bB hp) k)/\(∀i,i<c.pre.bs.length->φ' (nm i)=φ (nm i))/\qG φ' E (bB hq) w'/\cE φ' (tot E φ' (bB hq)) w' (C8 lr) v
theorem LD {g:Nat->Nat}:∀(bs:Y PB) (x:(PB.tyL bs).den) (l:Y (J hX)),AD bs=M->oe g bs x=Z l->∀(i:Nat) (c:J hX),l[i]? =Z c->∃b,c=Z b
 |[],x,l,_,hp,i,c,hc=>by simp only[oe,af]at hp;subst hp;simp at hc
 |b::r,x,l,hn,hp,i,c,hc=>by
  simp only[oe]at hp;split at hp
  .rename_i a d;split at hp
   .rename_i q hq;simp only[af]at hp;subst hp;cases i with
    |zero=>
     simp at hc;subst hc;cases b with
     |gone=>simp[AD]at hn
     |rows ty p T=>simp only[BF,af]at d;exact⟨_,d.symm⟩
     |rowsP ty T=>simp only[BF,af]at d;exact⟨_,d.symm⟩
     |cells ty ps=>
      simp only[BF]at d;split at d
      .simp only[af]at d;exact⟨_,d.symm⟩
      .cases d
     |mp K V=>simp only[BF,af]at d;exact⟨_,d.symm⟩
    |succ i=>
     refine LD r _ q ?_ hq i c (by simpa using hc);cases b<;>first|exact hn|simp[AD]at hn
   .cases hp
  .cases hp
theorem Eu {h h2:bl} {g:Nat->Nat}:∀n,s_ h h2 g n=M->∀i,i<n->∀r,eh h (g i)=Z r->eh h2 (g i)=Z r
 |0,_,i,hi,_,_=>by omega
 |n+1,hs,i,hi,r,hr=>by
  simp only[s_,ak]at hs;by_cases e:i=n
  .subst e;obtain⟨p,s,k⟩:=r;have h1:=hs.1;rw[hr]at h1;cases h3:eh h2 (g i) with
   |none=>rw[h3]at h1;cases h1
   |some q=>
    obtain⟨d,s',k'⟩:=q;rw[h3]at h1;simp only[ak,cO]at h1;rw[h1.1.1,au h1.1.2,au h1.2]
  .exact Eu n hs.2 i (by omega) r hr
theorem jZ.le {H H':HF} {φ:PM} {E:Nat->Prop} {w:World} (r:qG φ E H w):∀{l d:Y AV} {us:ξ},gQ H H' l d->jZ φ (tot E φ H) w l us->jZ φ (tot E φ H') w d us
 |[],[],[],_,_=>trivial
 |[],[],_::_,_,h=>h.elim
 |_::_,_::_,[],_,h=>h.elim
 |[],_::_,_,h,_=>h.elim
 |_::_,[],_,h,_=>h.elim
 |_::_,_::_,_::_,hl,h=>⟨hl.1 _ _ _ _ r h.1,jZ.le r hl.2 h.2⟩
theorem jZ.toId {φ φ':PM} {O O':Nat->Prop} {w:World} {γ:Nat->Nat} {p:Nat->Bool} (hv:∀x v,x.all p=M->cE φ O w (x.ren γ) v->cE φ' O' w x v):∀{l:Y AV} {us:ξ},AV.allL p l=M->jZ φ O w (AV.renL γ l) us->jZ φ' O' w l us
 |[],[],_,_=>trivial
 |[],_::_,_,h=>h.elim
 |_::_,[],_,h=>h.elim
 |_::_,_::_,hp,h=>by
  simp only[AV.allL,ak]at hp;exact⟨hv _ _ hp.1 h.1,jZ.toId hv hp.2 h.2⟩
theorem UL {h:bl}:∀{rs:Y TV} {lr:Y AV},cz h rs=Z lr->b9 h (OP rs)=Z (C8 lr)
 |[],lr,he=>by simp only[cz,af]at he;subst he;rfl
 |[x],lr,he=>by
  obtain⟨y,l2,rfl,e1,e2⟩:=cU he;simp only[cz,af]at e2;subst e2;exact e1
 |x::y::r,lr,he=>by
  obtain⟨q,l2,rfl,e1,e2⟩:=cU he;obtain⟨d,s,rfl,e3,e4⟩:=cU e2;simp only[OP,b9,he,C8]
theorem X2 (γ:Nat->Nat):∀l:Y AV,C8 (AV.renL γ l)=(C8 l).ren γ
 |[]=>rfl
 |[x]=>rfl
 |x::y::r=>rfl
theorem X3 {p:Nat->Bool}:∀{l:Y AV},AV.allL p l=M->(C8 l).all p=M
 |[],_=>rfl
 |[x],h=>by simp only[AV.allL,ak]at h;exact h.1
 |x::y::r,h=>h
theorem ab6 {nx d q:Nat}:aO (((1<<<d)-1)<<<nx) q=M↔nx<=q/\q<nx+d:=by
 rw[Nat.testBit_shiftLeft,Nat.one_shiftLeft,Nat.testBit_two_pow_sub_one];simp only[ak,bz];omega
theorem Zo {P:Program} {o:Oper} {e:iJ} {h:bl} {nx:Nat} {f:FuncId} {c:ch} {l:Y TV} (hinv:l_ h nx) (sp:pD P f c) {x:c.pre.ty.den} {m:Nat} {σ:PT Nat} {sm:Nat} (A:G7 0 c.pre l h x m σ sm) {vs:Y TV} {hp:bl} {l1:Y (J hX)} (I:qu c.pre x vs hp l1) (hng:AD c.pre.bs=M) {y:c.post.ty.den} (hm:c.m x=Z y) {rs:Y TV} {hq:bl} {l2:Y (J hX)} (B:qu c.post y rs hq l2) (hle:c.pre.bs.length<=c.post.bs.length)
 {g:Nat->Nat} (glo:∀i,i<c.pre.bs.length->g i=gZ σ i) (ghi:∀i,c.pre.bs.length<=i->g i=nx+(i-c.pre.bs.length)) {h2:bl} (hh2:h2=zC g 0 (l2.map (lQ (lE g))) (d9 m h)) (hsr:s_ h h2 g c.pre.bs.length=M) {la:Y AV} (hla:cz h l=Z la)
 (hexec:∀(φ:PM) (E:Nat->Prop) (h':HF) (w:World) (a:Act),(∀t,.tmp t∈o.op.operands->∀y,fh e h t=Z y->cE φ (tot E φ h') w y (a.tmps.getD t undef))->qG φ E h' w->∃us:ξ,(execOp a.eval o).run P w= .ok (.enter f us.toArray) w/\jZ φ (tot E φ h') w la us):
 iz P o aa e h nx (OP (kE g rs)) (sm|||m) (sm|||m|||(((1<<<(c.post.bs.length-c.pre.bs.length))-1)<<<nx)) h2 (nx+(c.post.bs.length-c.pre.bs.length)):=by
 obtain⟨x1,m1,x2,m2,hx,hmm,gv,gb⟩:=A.ex;have hmr:dK h m:=by rw[hmm];exact (GV _ _ _ _ gv).or (GY _ _ _ _ gb)
 generalize hnp:c.pre.bs.length=np at*
 generalize hnq:c.post.bs.length=L at*
 have pvg:pO (gZ σ) c.pre.vs x1=Z (kE (gZ σ) vs):=by
  have h3:=sW (gZ σ) c.pre.vs x1;have h4:=I.pv;rw[hx,sQ]at h4;rw[h3,h4];rfl
 have pbg:oe (gZ σ) c.pre.bs x2=Z (l1.map (lQ (lE (gZ σ)))):=by
  have h3:=u0 (gZ σ) c.pre.bs x2;have h4:=I.pb;rw[hx,ul]at h4;rw[h3,h4];rfl
 have hl1:∀i,i<np->∃b,l1[i]? =Z (Z b):=λi hi=>by
  have D:i<l1.length:=by rw[I.len,hnp];exact hi
  obtain⟨b,hb⟩:=LD c.pre.bs _ l1 hng I.pb i l1[i] (aw D);exact⟨b,by rw[aw D,hb]⟩
 have hbm:∀i b,l1[i]? =Z (Z b)->∃b0,h.get (gZ σ i)=Z b0/\BM (gZ σ) h m b0 (lE (gZ σ) b):=λi b hb=>by
  obtain⟨b0,q1,q2⟩:=Ik c.pre.bs 0 x2 m2 _ gb pbg i (lE (gZ σ) b) (by rw[bf,hb];rfl);rw[bL]at q1;exact⟨b0,q1,q2.mono λj hj=>by rw[hmm,bw,hj];simp⟩
 have inj1:∀a b,a<np->b<np->gZ σ a=gZ σ b->a=b:=λa b ha hb=>A.inj a b (by rw[hnp];exact ha) (by rw[hnp];exact hb)
 have sig:∀q,aO sm q=M↔∃k,k<np/\gZ σ k=q:=λq=>by rw[A.sig,hnp]
 have gnx:∀i,i<np->gZ σ i<nx:=λi hi=>by
  obtain⟨b,hb⟩:=hl1 i hi;obtain⟨b0,q1,_⟩:=hbm i b hb;exact hinv.low _ _ q1
 have hmS:∀i,i<np->aO m (gZ σ i)=aa:=λi hi=>by
  cases hx:aO m (gZ σ i) with
  |false=>rfl
  |true=>have:=A.disj _ hx;rw[(sig _).2 ⟨i,hi,rfl⟩]at this;cases this
 have injg:∀a b,a<L->b<L->g a=g b->a=b:=λa b ha hb hab=>by
  by_cases h1:a<np
  .by_cases h2:b<np
   .rw[glo a h1,glo b h2]at hab;exact inj1 a b h1 h2 hab
   .rw[glo a h1,ghi b (by omega)]at hab;have:=gnx a h1;omega
  .by_cases h2:b<np
   .rw[ghi a (by omega),glo b h2]at hab;have:=gnx b h2;omega
   .rw[ghi a (by omega),ghi b (by omega)]at hab;omega
 let hv:bl:=zC (gZ σ) 0 (l1.map (lQ (lE (gZ σ)))) (d9 m h)
 have hv_at:∀i b,l1[i]? =Z (Z b)->hv.get (gZ σ i)=Z (lE (gZ σ) b):=λi b hb=>by
  have:=ur (gZ σ) (l1.map (lQ (lE (gZ σ)))) 0 (d9 m h) (λa b ha hb=>by
   simp only[co,I.len,hnp]at ha hb;simp only[bL];exact inj1 a b ha hb) i (Z (lE (gZ σ) b)) (by rw[bf,hb];rfl)
  rw[bL]at this;exact this
 have hv_ne:∀j,(∀i,i<np->j≠gZ σ i)->hv.get j=(d9 m h).get j:=λj hj=>
  uq (gZ σ) _ 0 _ j λk hk=>by
   simp only[co,I.len,hnp]at hk;rw[bL];exact hj k hk
 have rows_in:wT hv h:=λj r hr=>by
  rw[bP]at hr ⊢;by_cases hj:∃i,i<np/\j=gZ σ i
  .obtain⟨i,hi,rfl⟩:=hj;obtain⟨b,hb⟩:=hl1 i hi;obtain⟨b0,q1,q2⟩:=hbm i b hb;rw[hv_at i b hb]at hr;rw[q1];simp only[aD]at hr ⊢;rw[<- q2.row];exact hr
  .rw[hv_ne j (λi hi e=>hj ⟨i,hi,e⟩),iR]at hr;split at hr
   .rename_i ht;obtain⟨ty,p,T,xs,hb⟩:=hmr j ht;rw[hb]at hr ⊢;exact hr
   .exact hr
 have rows_hp:∀i r,eh hp i=Z r->eh hv (gZ σ i)=Z r:=λi r hr=>by
  rw[bP]at hr ⊢;cases hb:hp.get i with
  |none=>rw[hb]at hr;cases hr
  |some b=>
   rw[hb]at hr;rw[hv_at i b ((I.at_ i b).1 hb)];simp only[aD,Hg]at hr ⊢;exact hr
 have dead_m:∀i,aO m i=M->bB hv (nm i)=U:=λi hi=>by
  rw[bK,hv_ne i (λk hk e=>by rw[e,hmS k hk]at hi;cases hi)];obtain⟨p,sz,n,hd⟩:=s6 hmr hi;rw[hd];rfl
 have h2_at:∀i cc,l2[i]? =Z cc->h2.get (g i)=(match cc with|some b=>Z (lE g b)|none=>((d9 m h).get (g i)).map ut):=λi cc hc=>by
  have:=ur g (l2.map (lQ (lE g))) 0 (d9 m h) (λa b ha hb=>by
   simp only[co,B.len,hnq]at ha hb;simp only[bL];exact injg a b ha hb) i (cc.map (lE g)) (by rw[bf,hc];rfl)
  rw[bL]at this;rw[hh2,this];cases cc<;>rfl
 have h2_ne:∀j,(∀i,i<L->j≠g i)->h2.get j=(d9 m h).get j:=λj hj=>by
  rw[hh2];refine uq g _ 0 _ j λk hk=>?_
  simp only[co,B.len,hnq]at hk;rw[bL];exact hj k hk
 have rows_hq:∀i r,eh hq i=Z r->eh h2 (g i)=Z r:=λi r hr=>by
  rw[bP]at hr ⊢;cases hb:hq.get i with
  |none=>rw[hb]at hr;cases hr
  |some b=>
   rw[hb]at hr;rw[h2_at i _ ((B.at_ i b).1 hb)];simp only[aD,Hg]at hr ⊢;exact hr
 have rows2:b6 h h2:=λj r hr=>by
  by_cases hj:∃i,i<np/\j=gZ σ i
  .obtain⟨i,hi,rfl⟩:=hj;rw[<- glo i hi]at hr ⊢;exact Eu np hsr i hi r hr
  .have hjn:j<nx:=by
    rw[bP]at hr;cases hb:h.get j with
    |none=>rw[hb]at hr;cases hr
    |some b=>exact hinv.low j b hb
   have:=b6.kill m h j r hr;rw[bP]at this ⊢;rw[h2_ne j (λi hi e=>?_)]
   .exact this
   .by_cases hip:i<np
    .exact hj ⟨i,hip,by rw[e,glo i hip]⟩
    .rw[ghi i (by omega)]at e;omega
 obtain⟨lr,hlr⟩:=eT hq rs B.ok;obtain⟨lp,hlp⟩:=eT hp vs I.ok;have er2:∀i b s,hq.get i=Z b->jv hq b=Z s->bB h2 (nm (g i))=Z (s.ren (GZ g)):=λi b s hb hyb=>by
  rw[bK,h2_at i _ ((B.at_ i b).1 hb)];exact Cc rows_hq hyb
 have er2':∀i,i<L->∀z,bB h2 (nm (g i))=Z z->∃b s,hq.get i=Z b/\jv hq b=Z s/\z=s.ren (GZ g):=λi hi z d=>by
  have D:i<l2.length:=by rw[B.len,hnq];exact hi
  have hcc:=aw D;cases hcv:l2[i] with
  |none=>
   rw[hcv]at hcc;rw[bK,h2_at i U hcc]at d;simp only at d;cases hkg:(d9 m h).get (g i) with
   |none=>rw[hkg]at d;cases d
   |some b0=>rw[hkg]at d;cases b0<;>simp[ut,jv]at d
  |some b=>
   rw[hcv]at hcc;have hb:=(B.at_ i b).2 hcc;rw[bK,h2_at i (Z b) hcc]at d;have hyb:∃s,jv hq b=Z s:=by
    cases b with
    |rows ty p T xs=>simp only[aD,lE,jv]at d ⊢;exact⟨z,d⟩
    |cells ty q=>
     obtain⟨q',hq'⟩:=eT hq q (B.cells i _ q hb).1;cases ty<;>exact⟨_,by simp only[jv,hq'];rfl⟩
    |dead p sz n=>simp[lE,jv]at d
    |mp K V es=>exact⟨_,rfl⟩
   obtain⟨s,hyb⟩:=hyb;have:=Cc rows_hq hyb;simp only[aD]at d;rw[this]at d;exact⟨b,s,hb,hyb,by cases d;rfl⟩
 have dead2:∀i,aO m i=M->bB h2 (nm i)=U:=λi hi=>by
  have hlt:=hmr.lt hinv hi;rw[bK,h2_ne i (λk hk e=>?_)]
  .obtain⟨p,sz,n,hd⟩:=s6 hmr hi;rw[hd];rfl
  .by_cases hkp:k<np
   .rw[e,glo k hkp,hmS k hkp]at hi;cases hi
   .rw[ghi k (by omega)]at e;omega
 have inv2:l_ h2 (nx+(L-np)):=by
  refine ⟨λj ty q hj=>?_,λj b hj=>?_⟩
  .by_cases hjg:∃i,i<L/\j=g i
   .obtain⟨i,hi,rfl⟩:=hjg;have D:i<l2.length:=by rw[B.len,hnq];exact hi
    have hcc:=aw D;cases hcv:l2[i] with
    |none=>
     rw[hcv]at hcc;rw[h2_at i U hcc]at hj;simp only at hj;cases hkg:(d9 m h).get (g i) with
     |none=>rw[hkg]at hj;cases hj
     |some b0=>rw[hkg]at hj;cases b0<;>simp[ut]at hj
    |some b=>
     rw[hcv]at hcc;have hb:=(B.at_ i b).2 hcc;rw[h2_at i (Z b) hcc]at hj;simp only[af]at hj;cases b with
     |cells ty' q'=>
      simp only[lE,hX.cells.injEq]at hj;obtain⟨_,rfl⟩:=hj;obtain⟨z,d⟩:=eT hq q' (B.cells i _ q' hb).1;exact jU _ _ _ (oS rows_hq q' z d)
     |rows _ _ _ _=>simp[lE]at hj
     |dead _ _ _=>simp[lE]at hj
     |mp _ _ _=>simp[lE]at hj
   .rw[h2_ne j (λi hi e=>hjg ⟨i,hi,e⟩)]at hj;refine iP rows2 q ?_;have hkk:=(hinv.kill m).cells j _ q hj;rw[iR]at hj;split at hj
    .rename_i ht;obtain⟨_,_,_,_,hb⟩:=hmr j ht;rw[hb]at hj;cases hj
    .exact hinv.cells j _ q hj
  .by_cases hjg:∃i,i<L/\j=g i
   .obtain⟨i,hi,rfl⟩:=hjg;by_cases hip:i<np
    .rw[glo i hip];have:=gnx i hip;omega
    .rw[ghi i (by omega)];omega
   .rw[h2_ne j (λi hi e=>hjg ⟨i,hi,e⟩)]at hj;have:=(hinv.kill m).low j b hj;omega
 let S:ι:=(fd np).map λi=>nm (gZ σ i)
 have memS:∀n,n∈S↔∃i,i<np/\n=nm (gZ σ i):=λn=>by
  simp only[S,cX,ng];exact⟨λ⟨i,h1,h2⟩=>⟨i,h1,h2.symm⟩,λ⟨i,h1,h2⟩=>⟨i,h1,h2.symm⟩⟩
 let NN:ι:=(fd (L-np)).map λt=>nm (nx+t)
 have memN:∀n,n∈NN↔∃t,t<L-np/\n=nm (nx+t):=λn=>by
  simp only[NN,cX,ng];exact⟨λ⟨i,h1,h2⟩=>⟨i,h1,h2.symm⟩,λ⟨i,h1,h2⟩=>⟨i,h1,h2.symm⟩⟩
 have memW:∀n,n∈S++EC m++NN↔(∃i,i<L/\n=nm (g i))\/n∈EC m:=λn=>by
  rw[bN,bN,memS,memN];constructor
  .rintro ((⟨i,hi,rfl⟩|hn)|⟨t,ht,rfl⟩)
   .exact .inl ⟨i,by omega,by rw[glo i hi]⟩
   .exact .inr hn
   .exact .inl ⟨np+t,by omega,by rw[ghi _ (by omega),show np+t-np=t from by omega]⟩
  .rintro (⟨i,hi,rfl⟩|hn)
   .by_cases hip:i<np
    .exact .inl (.inl ⟨i,hip,by rw[glo i hip]⟩)
    .exact .inr ⟨i-np,by omega,by rw[ghi i (by omega)]⟩
   .exact .inl (.inr hn)
 have hOpT:gy P o (fh e h) (bB h) ⟨C8 (AV.renL (GZ g) lr),S++EC m,S++EC m++NN,bB h2,NN⟩:=by
  intro φ E h' w a hrd hwr hops hrep hN;have hS':∀i,i<np->h' (nm (gZ σ i))=bB h (nm (gZ σ i)):=λi hi=>hrd _ (jf _ ((memS _).2 ⟨i,hi,rfl⟩))
  have hM':∀i,aO m i=M->h' (nm i)=bB h (nm i):=λi hi=>hrd _ (ko _ (lI.2 hi))
  obtain⟨us,hrun,hrel⟩:=hexec φ E h' w a hops hrep
  let Hv:HF:=λn=>if n∈S++EC m then bB hv n else h' n
  have Hv_in:∀n,n∈S++EC m->Hv n=bB hv n:=λn hn=>by simp only[Hv,hn,bE]
  have Hv_out:∀n,n∉S++EC m->Hv n=h' n:=λn hn=>by simp only[Hv,hn,dq]
  have blkS:∀i,i<np->∀z,bB hv (nm (gZ σ i))=Z z->∃b0 b y0,h.get (gZ σ i)=Z b0/\l1[i]? =Z (Z b)/\BM (gZ σ) h m b0 (lE (gZ σ) b)/\jv h b0=Z y0/\jv hv (lE (gZ σ) b)=Z z:=λi hi z d=>by
   obtain⟨b,hb⟩:=hl1 i hi;obtain⟨b0,q1,q2⟩:=hbm i b hb;rw[bK,hv_at i b hb]at d;simp only[aD]at d;obtain⟨y0,hy0⟩:=BM.erB_some hinv q1 q2 d;exact⟨b0,b,y0,q1,hb,q2,hy0,d⟩
  have hd:uf h' Hv:=λn b hb=>by
   by_cases hn:n∈S++EC m
   .rw[Hv_in n hn]at hb;rcases bN.1 hn with hs|hs
    .obtain⟨i,hi,rfl⟩:=(memS n).1 hs;obtain⟨b0,b1,y0,q1,q2,q3,q4,q5⟩:=blkS i hi b hb;exact⟨y0,by rw[hS' i hi,bK,q1];exact q4⟩
    .obtain⟨i,rfl,hi⟩:=nF.1 hs;rw[dead_m i hi]at hb;cases hb
   .rw[Hv_out n hn]at hb;exact⟨b,hb⟩
  have gvv:C7 h h' Hv m:=λi hi=>⟨hM' i hi,by rw[Hv_in _ (ko _ (lI.2 hi)),dead_m i hi]⟩
  have V:Gr h' Hv:=⟨hd,λn b b' hb hb'=>by
   by_cases hn:n∈S++EC m
   .rw[Hv_in n hn]at hb';rcases bN.1 hn with hs|hs
    .obtain⟨i,hi,rfl⟩:=(memS n).1 hs;obtain⟨b0,b1,y0,q1,q2,q3,q4,q5⟩:=blkS i hi b' hb';rw[hS' i hi,bK,q1]at hb;simp only[aD]at hb;exact BM.view hd gvv rows_in q3 hb q5
    .obtain⟨i,rfl,hi⟩:=nF.1 hs;rw[dead_m i hi]at hb';cases hb'
   .rw[Hv_out n hn,hb]at hb';cases hb';exact il.refl hd b⟩
  have hrepv:=V.rep hrep;have hlpg:cz hv (kE (gZ σ) vs)=Z (AV.renL (GZ (gZ σ)) lp):=oS rows_hp vs lp hlp;have hrel1:jZ φ (tot E φ Hv) w (AV.renL (GZ (gZ σ)) lp) us:=
   jZ.le hrep (B8 hd rows_in c.pre.vs l x1 m1 _ la _ gv pvg hla hlpg (λi hi=>gvv i (by rw[hmm,bw,hi];rfl))) hrel
  let E':Nat->Prop:=λk=>E k\/∃n b,Hv n=Z b/\n∉S/\φ n=Z k
  have T:acm c.pre x vs hp (gZ σ) φ E E' Hv w:=by
   refine qG.toId I (λa b ha hb=>inj1 a b (by rw[<- hnp];exact ha) (by rw[<- hnp];exact hb)) hrepv (λi b s hb hyb=>?_) ?_ ?_ ?_
   .have hi:=I.lt_len hb;rw[hnp]at hi;rw[Hv_in _ (jf _ ((memS _).2 ⟨i,hi,rfl⟩)),bK,hv_at i b ((I.at_ i b).1 hb)];exact Cc rows_hp hyb
   .rintro k (hE|⟨n,b,h1,_,h3⟩)
    .exact .inl hE
    .exact .inr ⟨n,b,h1,h3⟩
   .rintro i k b hi h1 h3 (hE|⟨n,b',h4,h5,h6⟩)
    .obtain⟨k',p1,p2,_⟩:=hrepv.at_ _ _ h1;rw[h3]at p1;cases p1;exact p2 hE
    .have:=hrepv.inj _ _ _ _ k h1 h4 h3 h6;exact h5 (by rw[<- this];exact (memS _).2 ⟨i,by rw[<- hnp];exact hi,rfl⟩)
   .rintro k (hE|⟨n,b,h1,_,h3⟩)
    .exact hrepv.el k hE
    .obtain⟨k',q1,_,ob,q3,_⟩:=hrepv.at_ n b h1;rw[h3]at q1;cases q1;exact (cq.1 q3).1
  have hcalls:=sp.calls x y hm vs hp l1 rs hq l2 lp lr I B hlp hlr (φ1 c.pre.bs.length (gZ σ) φ) E' w us T.rep (jZ.toId T.val (rz vs lp I.lt hlp) hrel1) (λn k hk=>by
   obtain⟨i,hi,rfl,_⟩:=vX hk;rw[dQ];exact hi)
  unfold Gy;rw[hrun];refine Calls.mono hcalls ?_;rintro en w' ⟨v,φc',rfl,hext,hown,hnm,rp,rv'⟩
  let isN:Nat->Prop:=λn=>n∈NN
  let φ':PM:=λn=>if n∈NN then φc' (nm (np+(ow n-nx))) else φ n
  have φ'_new:∀t,t<L-np->φ' (nm (nx+t))=φc' (nm (np+t)):=λt ht=>by
   have:nm (nx+t)∈NN:=(memN _).2 ⟨t,ht,rfl⟩;simp only[φ',this,bE,dQ];rw[show nx+t-nx=t from by omega]
  have φ'_old:∀n,n∉NN->φ' n=φ n:=λn hn=>by simp only[φ',hn,dq]
  have loN:∀i,i<nx->nm i∉NN:=λi hi hn=>by
   obtain⟨t,_,e⟩:=(memN _).1 hn;have:=kP e;omega
  have φ'_g:∀i,i<L->φ' (nm (g i))=φc' (nm i):=λi hi=>by
   by_cases hip:i<np
   .rw[glo i hip,φ'_old _ (loN _ (gnx i hip)),hnm i (by rw[hnp];exact hip),XT (by rw[hnp];exact hip)]
   .rw[ghi i (by omega),φ'_new _ (by omega),show np+(i-np)=i from by omega]
  have hsub:∀n k,φ n=Z k->φ' n=Z k:=λn k hk=>by
   by_cases hn:n∈NN
   .rw[hN n hn]at hk;cases hk
   .rw[φ'_old n hn];exact hk
  let F:HF:=eE h' (S++EC m++NN) (bB h2)
  have F_g:∀i,i<L->F (nm (g i))=bB h2 (nm (g i)):=λi hi=>by
   simp only[F,eE,(memW _).2 (.inl ⟨i,hi,rfl⟩),bE]
  have F_out:∀n,n∉S++EC m++NN->F n=h' n:=λn hn=>by simp only[F,eE,hn,dq]
  have from_:∀n b,F n=Z b->(∃i bq s,i<L/\n=nm (g i)/\hq.get i=Z bq/\jv hq bq=Z s/\b=s.ren (GZ g))\/(h' n=Z b/\Hv n=Z b/\n∉S/\n∉NN/\φ' n=φ n):=λn b hb=>by
   by_cases hn:n∈S++EC m++NN
   .rcases (memW n).1 hn with ⟨i,hi,rfl⟩|hs
    .rw[F_g i hi]at hb;obtain⟨bq,s,q1,q2,q3⟩:=er2' i hi b hb;exact .inl ⟨i,bq,s,hi,rfl,q1,q2,q3⟩
    .obtain⟨i,rfl,hi⟩:=nF.1 hs;have:F (nm i)=bB h2 (nm i):=by simp only[F,eE,hn,bE]
     rw[this,dead2 i hi]at hb;cases hb
   .rw[F_out n hn]at hb;have h1:n∉S++EC m:=λhh=>hn (jf _ hh)
    have h3:n∉NN:=λhh=>hn (ko _ hh)
    exact .inr ⟨hb,by rw[Hv_out n h1];exact hb,λhh=>h1 (jf _ hh),h3,φ'_old n h3⟩
  have own':∀k,own φ' F k->own φc' (bB hq) k\/∃n b,Hv n=Z b/\n∉S/\φ n=Z k:=by
   rintro k ⟨n,b,h1,h3⟩;rcases from_ n b h1 with ⟨i,bq,s,hi,rfl,q1,q2,_⟩|⟨_,q2,q3,_,q5⟩
   .rw[φ'_g i hi]at h3;exact .inl ⟨nm i,s,by rw[bK,q1];exact q2,h3⟩
   .exact .inr ⟨n,b,q2,q3,by rw[<- q5];exact h3⟩
  have mv:iT φ φ' h' F w w':=by
   refine ⟨hsub,hext.mono λk hk=>hd.own (T.own_ k hk),λk hk ho=>?_⟩;rcases own' k ho with h1|⟨n,b,h1,_,h3⟩
   .exact hd.own (T.own_ k (hown k hk h1))
   .exact hd.own ⟨n,b,h1,h3⟩
  have tot':∀k,tot E φ' F k->tot E' φc' (bB hq) k:=by
   rintro k (h1|h1)
   .exact .inl (.inl h1)
   .rcases own' k h1 with h3|h3
    .exact .inr h3
    .exact .inl (.inr h3)
  let φr:PM:=λn=>if UO L n then φc' n else U
  have rel_r:∀x v,x.all (UO L)=M->cE φc' (tot E' φc' (bB hq)) w' x v->cE φr (tot E φ' F) w' x v:=λx v hx hr=>
   hr.restrict (λi k hi hk=>by simp only[φr,hi,bE];exact hk) tot' hx
  have rel_g:∀x v,cE φr (tot E φ' F) w' x v->cE φ' (tot E φ' F) w' (x.ren (GZ g)) v:=λx v hr=>
   hr.renTo λn k hk=>by
    simp only[φr]at hk;split at hk
    .rename_i hpn;obtain⟨i,hi,rfl⟩:=Yi hpn;rw[wB,φ'_g i hi];exact hk
    .cases hk
  have hnqJ:=hnq;refine ⟨v,φ',rfl,mv,λn k hk=>?_,?_,?_⟩
  .by_cases hn:n∈NN
   .exact .inr hn
   .rw[φ'_old n hn]at hk;exact .inl hk
  .refine ⟨λn n' b b' k h1 h3 h4 h5=>?_,λn b h1=>?_,λk hk=>dx (hrep.el k hk) mv.ext.size,λg' cells hg=>mv.keepF (hrep.gl g' cells hg)⟩
   .rcases from_ n b h1 with ⟨i,bq,s,hi,rfl,q1,q2,_⟩|⟨q1,q2,q3,_,q5⟩
    .rw[φ'_g i hi]at h4;have hqi:bB hq (nm i)=Z s:=by rw[bK,q1];exact q2
     rcases from_ n' b' h3 with ⟨j,bj,yj,hj,rfl,t1,t2,_⟩|⟨t1,t2,t3,_,t5⟩
     .rw[φ'_g j hj]at h5;have:=rp.inj _ _ _ _ k hqi (by rw[bK,t1];exact t2) h4 h5;rw[kP this]
     .exfalso;obtain⟨k',p1,p2,_⟩:=rp.at_ _ _ hqi;rw[h4]at p1;cases p1;exact p2 (.inr ⟨n',b',t2,t3,by rw[<- t5];exact h5⟩)
    .rcases from_ n' b' h3 with ⟨j,bj,yj,hj,rfl,t1,t2,_⟩|⟨t1,t2,t3,_,t5⟩
     .exfalso;rw[φ'_g j hj]at h5;have hqj:bB hq (nm j)=Z yj:=by rw[bK,t1];exact t2
      obtain⟨k',p1,p2,_⟩:=rp.at_ _ _ hqj;rw[h5]at p1;cases p1;exact p2 (.inr ⟨n,b,q2,q3,by rw[<- q5];exact h4⟩)
     .exact hrep.inj n n' b b' k q1 t1 (by rw[<- q5];exact h4) (by rw[<- t5];exact h5)
   .rcases from_ n b h1 with ⟨i,bq,s,hi,rfl,q1,q2,rfl⟩|⟨q1,q2,q3,_,q5⟩
    .have hqi:bB hq (nm i)=Z s:=by rw[bK,q1];exact q2
     obtain⟨k,p1,p2,ob,p3,p4⟩:=rp.at_ _ _ hqi;have hall:=B.blk_all q1 q2;rw[hnq]at hall;exact⟨k,by rw[φ'_g i hi];exact p1,λhE=>p2 (.inl hE),ob,p3,(p4.restrict rel_r hall).renTo rel_g⟩
    .obtain⟨k,p1,p2,ob,p3,p4⟩:=hrep.at_ n b q1;have hk:k<w.heap.size:=(cq.1 p3).1;refine ⟨k,hsub n k p1,p2,ob,?_,p4.mono λx v hr=>mv.keep hr⟩;rw[hext.blk k hk ?_]
     .exact p3
     .rintro⟨n',y',t1,t2⟩;obtain⟨i,hi,rfl,t3⟩:=vX t2;obtain⟨j,bb,e,t4,t5⟩:=ju t1;have:=kP e;subst this;have D:i<np:=by rw[<- hnp];exact hi
      have hvi:Hv (nm (gZ σ i))=Z (y'.ren (GZ (gZ σ))):=by
       rw[Hv_in _ (jf _ ((memS _).2 ⟨i,D,rfl⟩)),bK,hv_at i bb ((I.at_ i bb).1 t4)];exact Cc rows_hp t5
      have:=hrepv.inj _ _ _ _ k hvi q2 t3 p1;exact q3 (by rw[<- this];exact (memS _).2 ⟨i,D,rfl⟩)
  .have hall:(C8 lr).all (UO L)=M:=X3 (by have:=rz rs lr B.lt hlr;rwa [hnq]at this);show cE φ' (tot E φ' F) w' (C8 (AV.renL (GZ g) lr)) v;rw[X2];exact rel_g _ _ (rel_r _ _ hall rv')
 have hrsg:cz h2 (kE g rs)=Z (AV.renL (GZ g) lr):=oS rows_hq rs lr hlr;refine ⟨⟨_,hOpT,λz d=>?_,?_,λn hn=>?_,λn hn=>?_,λn hn=>?_⟩,rows2,inv2,by omega,λhs=>by cases hs⟩
 .rw[UL hrsg]at d;cases d;rfl
 .funext n;unfold eE;split
  .rfl
  .rename_i hn;refine (km hinv rows2 λi e=>?_).symm;subst e;rw[h2_ne i (λk hk e=>hn ((memW _).2 (.inl ⟨k,hk,by rw[e]⟩))),iR,aL];intro hb;exact hn ((memW _).2 (.inr (lI.2 hb)))
 .rw[bw];rcases bN.1 hn with hs|hs
  .obtain⟨i,hi,rfl⟩:=(memS n).1 hs;rw[dQ,(sig _).2 ⟨i,hi,rfl⟩];rfl
  .obtain⟨i,rfl,hi⟩:=nF.1 hs;rw[dQ,hi];simp
 .rw[bw,bw];rcases bN.1 hn with hs|hs
  .rcases bN.1 hs with hs|hs
   .obtain⟨i,hi,rfl⟩:=(memS n).1 hs;rw[dQ,(sig _).2 ⟨i,hi,rfl⟩];rfl
   .obtain⟨i,rfl,hi⟩:=nF.1 hs;rw[dQ,hi];simp
  .obtain⟨t,ht,rfl⟩:=(memN n).1 hs;rw[dQ,ab6.2 ⟨by omega,by omega⟩];simp
 .obtain⟨t,ht,rfl⟩:=(memN n).1 hn;rw[dQ];omega
mutual
def FV.fl:FV->Bool
 |.raw _=>M
 |.agg l=>FV.flL l
 |.sl _ _=>aa
 |.ptr _ _=>aa
def FV.flL:Y FV->Bool
 |[]=>M
 |x::r=>x.fl&&FV.flL r
end
theorem U5:∀{l:Y FV},FV.flL l=M->∀x∈l,x.fl=M
 |[],_,x,d=>by cases d
 |y::l,h,x,d=>by
  simp only[FV.flL,ak]at h;rcases bu.1 d with rfl|d
  .exact h.1
  .exact U5 h.2 x d
theorem Y5:∀{l:Y FV},(∀x∈l,x.fl=M)->FV.flL l=M
 |[],_=>rfl
 |y::l,h=>by simp only[FV.flL,ak];exact⟨h y (by simp),Y5 λx d=>h x (by simp[d])⟩
theorem mj.flat {O O':Nat->Prop} {w w':World} {x:FV} {v:Value} (h:mj O w x v):x.fl=M->mj O' w' x v:=by
 induction h with
 |raw v=>intro _;exact .raw v
 |nil a c hc=>intro h;cases h
 |sl cells n c b off us hn hc hO hb hcl hu hr d=>intro h;cases h
 |ptr cells o b off us hO hb hcl hu hr d=>intro h;cases h
 |agg cells vs hl hcl hr d=>intro h;exact .agg cells vs hl hcl λj x v q hv=>d j x v q hv (U5 h x (bg q))
mutual
def AV.fl:AV->Bool
 |.f x=>x.fl
 |.emp=>M
 |.anyb=>M
 |.agg l=>AV.flL l
 |.tup l=>AV.flL l
 |.ptr _ _=>aa
 |.sl _ _ _=>aa
 |.row _ _ _=>aa
 |.mp _=>aa
 |.clo _ _=>aa
 |.ful _ _=>aa
def AV.flL:Y AV->Bool
 |[]=>M
 |x::r=>x.fl&&AV.flL r
end
theorem JI:∀{l:Y AV},AV.flL l=M->∀x∈l,x.fl=M
 |[],_,x,d=>by cases d
 |y::l,h,x,d=>by
  simp only[AV.flL,ak]at h;rcases bu.1 d with rfl|d
  .exact h.1
  .exact JI h.2 x d
theorem Vr:∀{l:Y AV},(∀x∈l,x.fl=M)->AV.flL l=M
 |[],_=>rfl
 |y::l,h=>by simp only[AV.flL,ak];exact⟨h y (by simp),Vr λx d=>h x (by simp[d])⟩
theorem cE.flat {φ φ':PM} {O O':Nat->Prop} {w w':World} {x:AV} {v:Value} (h:cE φ O w x v):x.fl=M->cE φ' O' w' x v:=by
 induction h with
 |f h=>intro hf;exact .f (h.flat hf)
 |ptr h=>intro hf;cases hf
 |sl h hn hc=>intro hf;cases hf
 |row h hn hc hsh=>intro hf;cases hf
 |emp=>intro _;exact .emp
 |anyb=>intro _;exact .anyb
 |mp h=>intro hf;cases hf
 |agg hl hcl hr q=>intro hf;exact .agg hl hcl λj x v d hv=>q j x v d hv (JI hf x (bg d))
 |tup hl hr q=>intro hf;exact .tup hl λj x v d hv=>q j x v d hv (JI hf x (bg d))
 |clo hl hr q=>intro hf;cases hf
 |ful h=>intro hf;cases hf
mutual
theorem aey (γ:Nat->Nat):∀x:AV,x.fl=M->x.ren γ=x
 |.f x,_=>rfl
 |.emp,_=>rfl
 |.anyb,_=>rfl
 |.agg l,h=>by simp only[AV.ren];rw[G1 γ l h]
 |.tup l,h=>by simp only[AV.ren];rw[G1 γ l h]
 |.ptr _ _,h=>by cases h
 |.sl _ _ _,h=>by cases h
 |.ful _ _,h=>by cases h
 |.row _ _ _,h=>by cases h
 |.mp _,h=>by cases h
 |.clo _ _,h=>by cases h
theorem G1 (γ:Nat->Nat):∀l:Y AV,AV.flL l=M->AV.renL γ l=l
 |[],_=>rfl
 |x::r,h=>by
  simp only[AV.flL,ak]at h;rw[AV.renL,aey γ x h.1,G1 γ r h.2]
end
theorem zm:∀(T:Ty),T.flat=M->∀x:T.den,∀y∈bO T x,y.fl=M
 |.int _,_,x,y,d=>by simp only[bO,aI]at d;subst d;rfl
 |.bool,_,x,y,d=>by simp only[bO,aI]at d;subst d;rfl
 |.str,_,x,y,d=>by simp only[bO,aI]at d;subst d;rfl
 |.sl _,h,x,y,d=>by cases h
 |.st t,h,x,y,d=>zm t h x y d
 |.pr a b,h,x,y,d=>by
  simp only[Ty.flat,ak]at h;simp only[bO,bN]at d;exact d.elim (zm a h.1 x.1 y) (zm b h.2 x.2 y)
 |.un,_,x,y,d=>by simp[bO]at d
 |.ex,h,_,_,_=>by cases h
 |.sm,h,_,_,_=>by cases h
theorem abv (T:Ty) (h:T.flat=M) (x:T.den):(gg T x).fl=M:=by
 cases d:T.one with
 |true=>
  have:=zm T h x (gg T x) (by rw[(Cf T x d).1];simp);exact this
 |false=>rw[qj T x d];exact Y5 (zm T h x)
theorem OD (a b:Ty):(spr a b).flat=(a.flat&&b.flat):=by
 cases a<;>cases b<;>simp[spr,FB,Ty.flat]
theorem HM {n:Nat}:∀{a b:Y TV},qX n (a++b)=M->qX n a=M/\qX n b=M
 |[],b,h=>⟨rfl,h⟩
 |x::r,b,h=>by
  simp only[gX,qX,ak]at h ⊢;obtain⟨h1,h2⟩:=HM h.2;exact⟨⟨h.1,h1⟩,h2⟩
mutual
theorem aax {g:Nat->Nat} {h:bl}:∀(p:PV) (x:p.ty.den) (cs:Y TV) (l:Y AV),p.ty.flat=M->pF g p x=Z cs->qX 0 cs=M->cz h cs=Z l->∀y∈l,y.fl=M
 |.d T,x,cs,l,hf,hp,_,hl,y,hy=>by
  have:=(lM h 40 T x cs hp).1;rw[hl]at this;cases this;obtain⟨q,hq,rfl⟩:=cX.1 hy;exact zm T hf x q hq
 |.ptr i q,x,cs,l,hf,hp,hlt,hl,y,hy=>by
  simp only[pF,af]at hp;subst hp;simp[qX,Ko]at hlt
 |.csl i q z,x,cs,l,hf,hp,hlt,hl,y,hy=>by
  simp only[pF,af]at hp;subst hp;simp[qX,Ko]at hlt
 |.clo q i z,x,cs,l,hf,hp,hlt,hl,y,hy=>by
  simp only[pF,af]at hp;subst hp;simp[qX,Ko]at hlt
 |.row i,x,cs,l,hf,hp,hlt,hl,y,hy=>by
  simp only[pF,af]at hp;subst hp;simp[qX,Ko]at hlt
 |.mp i,x,cs,l,hf,hp,hlt,hl,y,hy=>by
  simp only[pF,af]at hp;subst hp;simp[qX,Ko]at hlt
 |.nil,x,cs,l,hf,hp,hlt,hl,y,hy=>by
  simp only[pF,af]at hp;subst hp;simp only[cz,b9,af]at hl;subst hl;simp only[aI]at hy;subst hy;rfl
 |.emp,x,cs,l,hf,hp,hlt,hl,y,hy=>by
  simp only[pF,af]at hp;subst hp;simp only[cz,b9,af]at hl;subst hl;simp only[aI]at hy;subst hy;rfl
 |.agg ps,x,cs,l,hf,hp,hlt,hl,y,hy=>Hm ps x cs l hf hp hlt hl y hy
theorem Hm {g:Nat->Nat} {h:bl}:∀(ps:Y PV) (x:(PV.tyL ps).den) (cs:Y TV) (l:Y AV),(PV.tyL ps).flat=M->qD g ps x=Z cs->qX 0 cs=M->cz h cs=Z l->∀y∈l,y.fl=M
 |[],x,cs,l,hf,hp,hlt,hl,y,hy=>by
  simp only[qD,af]at hp;subst hp;simp only[cz,af]at hl;subst hl;cases hy
 |p::ps,x,cs,l,hf,hp,hlt,hl,y,hy=>by
  simp only[PV.tyL]at hf;rw[OD,ak]at hf;simp only[qD]at hp;split at hp
  .rename_i a ha;split at hp
   .rename_i b hb;simp only[af]at hp;subst hp;obtain⟨a',b',rfl,e1,e2⟩:=AW hl;have hsp:=HM hlt;rcases bN.1 hy with hy|hy
    .exact aax p _ a a' hf.1 ha hsp.1 e1 y hy
    .exact Hm ps _ b b' hf.2 hb hsp.2 e2 y hy
   .cases hp
  .cases hp
end
theorem aav {g:Nat->Nat} {h:bl} {p:PV} {x:p.ty.den} {u:TV} {y:AV} (hf:p.ty.flat=M) (hp:sK g p x=Z u) (hlt:Ko 0 u=M) (s:b9 h u=Z y):y.fl=M:=by
 cases p with
 |d T=>
  simp only[sK,af]at hp;subst hp;simp only[b9,af]at s;subst s;exact abv T hf x
 |agg ps=>
  simp only[sK]at hp;split at hp
  .rename_i l hl;simp only[af]at hp;subst hp;simp only[b9]at s;split at s
   .rename_i D A;simp only[af]at s;subst s;exact Vr (Hm ps _ l D hf hl hlt A)
   .cases s
  .cases hp
 |ptr i q=>simp only[sK,af]at hp;subst hp;simp[Ko]at hlt
 |csl i q z=>simp only[sK,af]at hp;subst hp;simp[Ko]at hlt
 |row i=>simp only[sK,af]at hp;subst hp;simp[Ko]at hlt
 |clo q i z=>simp only[sK,af]at hp;subst hp;simp[Ko,qX]at hlt
 |mp i=>simp only[sK,af]at hp;subst hp;simp[Ko]at hlt
 |nil=>simp only[sK,af]at hp;subst hp;simp only[b9,af]at s;subst s;rfl
 |emp=>simp only[sK,af]at hp;subst hp;simp only[b9,af]at s;subst s;rfl
theorem OU {g:Nat->Nat} {h:bl}:∀(ps:Y PV) (x:(PV.tyL ps).den) (us:Y TV) (l:Y AV),(PV.tyL ps).flat=M->pO g ps x=Z us->qX 0 us=M->cz h us=Z l->AV.flL l=M
 |[],x,us,l,hf,hp,hlt,hl=>by
  simp only[pO,af]at hp;subst hp;simp only[cz,af]at hl;subst hl;rfl
 |p::ps,x,us,l,hf,hp,hlt,hl=>by
  simp only[PV.tyL]at hf;rw[OD,ak]at hf;simp only[pO]at hp;split at hp
  .rename_i a d;split at hp
   .rename_i b hb;simp only[af]at hp;subst hp;obtain⟨y,l2,rfl,e1,e2⟩:=cU hl;simp only[qX,ak]at hlt;simp only[AV.flL,ak];exact⟨aav hf.1 d hlt.1 e1,OU ps _ b l2 hf.2 hb hlt.2 e2⟩
   .cases hp
  .cases hp
theorem aak:∀{l:Y AV},AV.flL l=M->(C8 l).fl=M
 |[],_=>rfl
 |[x],h=>by simp only[AV.flL,ak]at h;exact h.1
 |x::y::r,h=>h
theorem ac7 {P:Program} {o:Oper} {e:iJ} {h:bl} {nx:Nat} {f:FuncId} {c:ch} {l:Y TV} (hinv:l_ h nx) (sp:pD P f c) {x:c.pre.ty.den} {m:Nat} {σ:PT Nat} {sm:Nat} (A:G7 0 c.pre l h x m σ sm) {vs:Y TV} {hp:bl} {l1:Y (J hX)} (I:qu c.pre x vs hp l1) {y:c.post.ty.den} (hm:c.m x=Z y) {rs:Y TV} {hq:bl} {l2:Y (J hX)} (B:qu c.post y rs hq l2) (hp0:c.pre.bs.length=0) (s:c.post.bs.length=0) (hfl:(PV.tyL c.post.vs).flat=M)
 (g:Nat->Nat) {la:Y AV} (hla:cz h l=Z la)
 (hexec:∀(φ:PM) (E:Nat->Prop) (h':HF) (w:World) (a:Act),(∀t,.tmp t∈o.op.operands->∀y,fh e h t=Z y->cE φ (tot E φ h') w y (a.tmps.getD t undef))->qG φ E h' w->∃us:ξ,(execOp a.eval o).run P w= .ok (.enter f us.toArray) w/\jZ φ (tot E φ h') w la us):
 iz P o aa e h nx (OP (kE g rs)) m 0 h nx:=by
 obtain⟨x1,m1,x2,m2,hx,hmm,L,gb⟩:=A.ex;have hmr:dK h m:=by rw[hmm];exact (GV _ _ _ _ L).or (GY _ _ _ _ gb)
 have pvg:pO (gZ σ) c.pre.vs x1=Z (kE (gZ σ) vs):=by
  have h3:=sW (gZ σ) c.pre.vs x1;have h4:=I.pv;rw[hx,sQ]at h4;rw[h3,h4];rfl
 obtain⟨lr,hlr⟩:=eT hq rs B.ok;obtain⟨q,hlp⟩:=eT hp vs I.ok;have hfl':AV.flL lr=M:=OU c.post.vs _ rs lr hfl B.pv (by rw[<- s];exact B.lt) hlr;have hpe:∀i,hp.get i=U:=λi=>by
  cases hb:hp.get i with
  |none=>rfl
  |some b=>have:=I.lt_len hb;omega
 have hqe:∀i,hq.get i=U:=λi=>by
  cases hb:hq.get i with
  |none=>rfl
  |some b=>have:=B.lt_len hb;omega
 have rows_hp:∀i r,eh hp i=Z r->eh (d9 m h) (gZ σ i)=Z r:=λi r hr=>by rw[bP,hpe]at hr;cases hr
 have rows_hq:∀i r,eh hq i=Z r->eh h (g i)=Z r:=λi r hr=>by rw[bP,hqe]at hr;cases hr
 have rows_in:wT (d9 m h) h:=λj r hr=>by
  rw[bP]at hr ⊢;rw[iR]at hr;split at hr
  .rename_i ht;obtain⟨ty,p,T,xs,hb⟩:=hmr j ht;rw[hb]at hr ⊢;exact hr
  .exact hr
 have hOpT:gy P o (fh e h) (bB h) ⟨C8 lr,EC m,[],λ_=>U,[]⟩:=by
  intro φ E h' w a hrd hwr hops hrep hN;obtain⟨us,hrun,hrel⟩:=hexec φ E h' w a hops hrep
  let Hv:HF:=λn=>if n∈EC m then U else h' n
  have Hv_in:∀n,n∈EC m->Hv n=U:=λn hn=>by simp only[Hv,hn,bE]
  have Hv_out:∀n,n∉EC m->Hv n=h' n:=λn hn=>by simp only[Hv,hn,dq]
  have hd:uf h' Hv:=λn b hb=>by
   by_cases hn:n∈EC m
   .rw[Hv_in n hn]at hb;cases hb
   .rw[Hv_out n hn]at hb;exact⟨b,hb⟩
  have gvv:C7 h h' Hv m:=λi hi=>⟨hrd _ (lI.2 hi),Hv_in _ (lI.2 hi)⟩
  have V:Gr h' Hv:=⟨hd,λn b b' hb d=>by
   by_cases hn:n∈EC m
   .rw[Hv_in n hn]at d;cases d
   .rw[Hv_out n hn,hb]at d;cases d;exact il.refl hd b⟩
  have hrepv:=V.rep hrep;have hlpg:cz (d9 m h) (kE (gZ σ) vs)=Z (AV.renL (GZ (gZ σ)) q):=oS rows_hp vs q hlp;have hrel1:jZ φ (tot E φ Hv) w (AV.renL (GZ (gZ σ)) q) us:=
   jZ.le hrep (B8 hd rows_in c.pre.vs l x1 m1 _ la _ L pvg hla hlpg (λi hi=>gvv i (by rw[hmm,bw,hi];rfl))) hrel
  let E':Nat->Prop:=λk=>E k\/∃n b,Hv n=Z b/\φ n=Z k
  have T:acm c.pre x vs hp (gZ σ) φ E E' Hv w:=by
   refine qG.toId I (λa b ha=>by omega) hrepv (λi b yb hb=>by rw[hpe]at hb;cases hb) ?_ (λi k b hi=>by omega) ?_
   .rintro k (D|⟨n,b,h1,h3⟩)
    .exact .inl D
    .exact .inr ⟨n,b,h1,h3⟩
   .rintro k (D|⟨n,b,h1,h3⟩)
    .exact hrepv.el k D
    .obtain⟨k',q1,_,ob,q3,_⟩:=hrepv.at_ n b h1;rw[h3]at q1;cases q1;exact (cq.1 q3).1
  have hcalls:=sp.calls x y hm vs hp l1 rs hq l2 q lr I B hlp hlr (φ1 c.pre.bs.length (gZ σ) φ) E' w us T.rep (jZ.toId T.val (rz vs q I.lt hlp) hrel1) (λn k hk=>by
   obtain⟨i,hi,rfl,_⟩:=vX hk;rw[dQ];exact hi)
  unfold Gy;rw[hrun];refine Calls.mono hcalls ?_;rintro en w' ⟨v,φc',rfl,hext,hown,hnm,rp,rv'⟩;have hno:∀k,¬own (φ1 c.pre.bs.length (gZ σ) φ) (bB hp) k:=by
   rintro k ⟨n,b,h1,_⟩;obtain⟨i,bb,_,h3,_⟩:=ju h1;rw[hpe]at h3;cases h3
  have mv:iT φ φ h' h' w w':=⟨λ_ _ h=>h,hext.mono λk hk=>dP hk (hno k),λ_ _ h=>h⟩
  refine ⟨v,φ,rfl,?_,λ_ _ h=>.inl h,?_,?_⟩
  .rw[s8];exact mv
  .rw[s8];refine hrep.moved mv λk hk=>?_
   obtain⟨n,b,h1,h3⟩:=hk;obtain⟨k',q1,_,ob,q3,_⟩:=hrep.at_ n b h1;rw[h3]at q1;cases q1;exact hext.blk k (cq.1 q3).1 (hno k)
  .exact rv'.flat (aak hfl')
 have hrsg:cz h (kE g rs)=Z (AV.renL (GZ g) lr):=oS rows_hq rs lr hlr;refine ⟨⟨_,hOpT,λz F=>?_,?_,λn hn=>?_,by simp,by simp⟩,λ_ _ h=>h,hinv,cB _,λhs=>by cases hs⟩
 .rw[UL hrsg,G1 _ lr hfl']at F;cases F;rfl
 .exact s8 _ _
 .obtain⟨i,rfl,hi⟩:=nF.1 hn;rw[dQ];exact hi
def ch.full (c:ch):ch:=⟨c.pre,⟨c.post.vs,c.pre.bs⟩,λx=>av (c.m x) λy=>Z (So (PV.tyL c.post.vs) (PB.tyL c.pre.bs) (Nn _ _ y) (Ke _ _ x))⟩
def aG (P:Program) (f:FuncId) (c:ch):Prop:=if dN c.pre.bs.length c.post.bs.length=M then pD P f c else pD P f c.full
theorem pD.toC {P:Program} {f:FuncId} {c:ch} (h:pD P f c) (hb:dN c.pre.bs.length c.post.bs.length=M):aG P f c:=by
 unfold aG;rw[aU hb];exact h
theorem aG.holds {P:Program} {f:FuncId} {c:ch} (h:aG P f c) (hb:dN c.pre.bs.length c.post.bs.length=M):pD P f c:=by
 unfold aG at h;rw[aU hb]at h;exact h
theorem aba (a b:Ty) (z:(spr a b).den):So a b (Nn a b z) (Ke a b z)=z:=by cases a<;>cases b<;>rfl
open Classical in
def roM {pre:Tm} {vs:Y PV} (m:pre.ty.den->J (Tm.ty ⟨vs,pre.bs⟩).den) (x:pre.ty.den):J (Tm.ty ⟨vs,[]⟩).den:=
 av (m x) λy=>if Ke (PV.tyL vs) (PB.tyL pre.bs) y=Ke _ _ x then Z (So (PV.tyL vs) (PB.tyL []) (Nn (PV.tyL vs) (PB.tyL pre.bs) y) ()) else U
theorem aG.ro {P:Program} {f:FuncId} {pre:Tm} {vs:Y PV} {m:pre.ty.den->J (Tm.ty ⟨vs,pre.bs⟩).den} {m':pre.ty.den->J (Tm.ty ⟨vs,[]⟩).den} (h:pD P f ⟨pre,⟨vs,pre.bs⟩,m⟩) (hb:dN pre.bs.length 0=aa) (hs:∀x y,m' x=Z y->roM m x=Z y):aG P f ⟨pre,⟨vs,[]⟩,m'⟩:=by
 unfold aG;rw[aL (by show ¬dN pre.bs.length 0=M;rw[hb];exact Bool.false_ne_true)];refine ⟨h.callable,λx y hxy=>?_⟩;refine h.calls x y ?_;have hxy:av (m' x) (λy=>Z (So (PV.tyL vs) (PB.tyL pre.bs) (Nn (PV.tyL vs) (PB.tyL []) y) (Ke _ _ x)))=Z y:=hxy;obtain⟨z,A,hzy⟩:=dD hxy;have h1:=hs x z A;unfold roM at h1;obtain⟨y0,s,h2⟩:=dD h1;split at h2
 .rename_i heq;have h2:=jV h2;have hzy:=jV hzy;subst h2;have d:So (PV.tyL vs) (PB.tyL pre.bs) (Nn (PV.tyL vs) (PB.tyL pre.bs) y0) (Ke (PV.tyL pre.vs) (PB.tyL pre.bs) x)=y:=(iU (λq=>So (PV.tyL vs) (PB.tyL pre.bs) q (Ke (PV.tyL pre.vs) (PB.tyL pre.bs) x)) (sQ (PV.tyL vs) (PB.tyL []) _ ()).symm).trans hzy;rw[<- heq]at d;have:=(aba (PV.tyL vs) (PB.tyL pre.bs) y0).symm.trans d;exact s.trans (iU Z this)
 .cases h2
theorem iz.drop {P:Program} {o:Oper} {e:iJ} {h h':bl} {nx nx':Nat} {v:TV} {rd wr W wr':Nat} (t:iz P o aa e h nx v rd wr h' nx') (hW:∀i,aO W i=M->bB h' (nm i)=bB h (nm i)/\aO rd i=M) (q:∀i,aO wr i=M->aO W i=M\/aO wr' i=M):iz P o aa e h nx v rd wr' h' nx':=by
 obtain⟨⟨f,h1,h2,h3,h4,D,A⟩,r,i,g,st⟩:=t;have hs:∀n,aO W (ow n)=M->bB h' n=bB h n:=λn hn=>by
  by_cases d:∃i,n=nm i
  .obtain⟨i,rfl⟩:=d;rw[dQ]at hn;exact (hW i hn).1
  .rw[vA h d,vA h' d]
 have hup:∀H:HF,(∀n∈f.wr,H n=bB h n)->eE H (f.wr.filter λn=> !(aO W (ow n))) f.nw=eE H f.wr f.nw:=λH z=>by
  funext n;unfold eE;by_cases hn:n∈f.wr
  .by_cases hb:aO W (ow n)=M
   .rw[aL (by simp[hb]),aU hn];have:=congrFun h3 n;unfold eE at this;rw[aU hn,hs n hb]at this;rw[this,z n hn]
   .rw[aU (by simp[hn,hb]),aU hn]
  .rw[aL (by simp[hn]),aL hn]
 refine ⟨⟨⟨f.val,f.rd++(f.wr.filter λn=>aO W (ow n)),f.wr.filter λn=> !(aO W (ow n)),f.nw,f.N⟩,?_,h2,?_,λn hn=>?_,λn hn=>?_,A⟩,r,i,g,λhs=>by cases hs⟩
 .intro φ E H w a hrd hwr hops hrep s;have k1:∀i∈f.rd,H i=bB h i:=λi hi=>hrd i (jf _ hi)
  have k2:∀i∈f.wr,H i=bB h i:=λi hi=>by
   cases hb:aO W (ow i) with
   |true=>exact hrd i (ko _ (by simp[hi,hb]))
   |false=>exact hwr i (by simp[hi,hb])
  have:=h1 φ E H w a k1 k2 hops hrep s;simp only[hup H k2];exact this
 .simp only[hup (bB h) (λ_ _=>rfl)];exact h3
 .rcases bN.1 hn with hn|hn
  .exact h4 n hn
  .simp only[Ej]at hn;exact (hW _ hn.2).2
 .simp only[Ej,d_]at hn;rcases q _ (D n hn.1) with hh|hh
  .rw[hn.2]at hh;cases hh
  .exact hh
mutual
theorem YA {n n':Nat} (hle:n<=n'):∀(v:TV),Ko n v=M->Ko n' v=M
 |.row id,h=>by simp only[Ko,Nat.blt_eq]at h ⊢;omega
 |.rtl id _,h=>by simp only[Ko,Nat.blt_eq]at h ⊢;omega
 |.pel id _ _ _,h=>by simp only[Ko,Nat.blt_eq]at h ⊢;omega
 |.ptr id _,h=>by simp only[Ko,Nat.blt_eq]at h ⊢;omega
 |.csl id _ _,h=>by simp only[Ko,Nat.blt_eq]at h ⊢;omega
 |.mp id,h=>by simp only[Ko,Nat.blt_eq]at h ⊢;omega
 |.agg l,h=>vn hle l h
 |.tup l,h=>vn hle l h
 |.clo _ l,h=>vn hle l h
 |.f _ _,_=>rfl
 |.fel _ _ _ _ _,_=>rfl
 |.emp,_=>rfl
 |.nil,_=>rfl
 |.undef,_=>rfl
 |.np,_=>rfl
 |.anyb,_=>rfl
 |.ful _ _,_=>rfl
theorem vn {n n':Nat} (hle:n<=n'):∀(l:Y TV),qX n l=M->qX n' l=M
 |[],_=>rfl
 |x::r,h=>by
  simp only[qX,ak]at h ⊢;exact⟨YA hle x h.1,vn hle r h.2⟩
end
theorem LU {g g':Nat->Nat} {h:bl}:∀(bs:Y PB) (i:Nat) (x:(PB.tyL bs).den) (m:Nat),G6 bs=M->zU g h i bs=Z (x,m)->∃l,oe g' bs x=Z l/\l.length=bs.length/\∀j,j<bs.length->∃ty p T xs,l[j]? =Z (Z (.rows ty p T xs))/\h.get (g (i+j))=Z (.rows ty p T xs)
 |[],i,x,m,_,hg=>⟨[],rfl,rfl,λj hj=>by simp at hj⟩
 |.rows ty p T::r,i,x,m,q,hg=>by
  simp only[zU]at hg;split at hg
  .rename_i x1 m1 h1;split at hg
   .rename_i x2 m2 h2;simp only[af,aC]at hg;obtain⟨rfl,rfl⟩:=hg;obtain⟨l,q1,q2,q3⟩:=LU (g:=g) (g':=g') (h:=h) r (i+1) x2 m2 q h2;simp only[DJ]at h1;split at h1
    .rename_i ty' D S xs hb;split at h1
     .rename_i hc;simp only[ak,cO]at hc;obtain⟨rfl,rfl⟩:=hc;split at h1
      .rename_i z s;simp only[af]at h1;obtain⟨rfl,_⟩:=h1;obtain⟨es,A⟩:=gL s;cases es;subst A;refine ⟨Z (.rows ty p T x1)::l,?_,by simp[q2],λj hj=>?_⟩
       .simp only[oe];rw[sQ,ul,q1];rfl
       .cases j with
        |zero=>exact⟨ty,p,T,_,rfl,hb⟩
        |succ j=>
         obtain⟨a,b,c,d,w1,w2⟩:=q3 j (by simpa using hj);exact⟨a,b,c,d,by simpa using w1,by rw[show i+(j+1)=i+1+j from by omega];exact w2⟩
      .cases h1
     .cases h1
    .cases h1
   .cases hg
  .cases hg
 |.rowsP _ _::r,i,x,m,q,hg=>by cases q
 |.cells _ _::r,i,x,m,q,hg=>by cases q
 |.mp _ _::r,i,x,m,q,hg=>by cases q
 |.gone::r,i,x,m,q,hg=>by cases q
theorem EB:∀{bs:Y PB},G6 bs=M->AD bs=M
 |[],_=>rfl
 |.rows _ _ _::r,h=>EB (bs:=r) h
 |.rowsP _ _::r,h=>by cases h
 |.cells _ _::r,h=>by cases h
 |.mp _ _::r,h=>by cases h
 |.gone::r,h=>by cases h
theorem Ev {h h2:bl} {g:Nat->Nat}:∀(n:Nat),(∀i,i<n->h2.get (g i)=h.get (g i))->s_ h h2 g n=M
 |0,_=>rfl
 |n+1,hs=>by
  simp only[s_,ak];refine ⟨?_,Ev n λi hi=>hs i (by omega)⟩;have:eh h2 (g n)=eh h (g n):=by rw[bP,bP,hs n (by omega)]
  rw[this];cases eh h (g n) with
  |none=>rfl
  |some q=>obtain⟨p,s,k⟩:=q;simp
def JZ (P:Program) (con:FuncId->J ch):Prop:=∀f c,con f=Z c->aG P f c
theorem Vl {R:Type} {P:Program} {con:FuncId->J ch} (hcon:JZ P con) {o:Oper} {e:iJ} {h:bl} {nx:Nat} {f:FuncId} {l:Y TV} {K:KO R} {r:R} (hinv:l_ h nx) (hk:Vm con f l h nx K=Z r) {la:Y AV} (hla:cz h l=Z la)
 (hexec:∀(φ:PM) (E:Nat->Prop) (h':HF) (w:World) (a:Act),CZ P f->(∀t,.tmp t∈o.op.operands->∀y,fh e h t=Z y->cE φ (tot E φ h') w y (a.tmps.getD t undef))->qG φ E h' w->∃us:ξ,(execOp a.eval o).run P w= .ok (.enter f us.toArray) w/\jZ φ (tot E φ h') w la us):kG P o aa e h nx K r:=by
 unfold Vm at hk;split at hk
 .rename_i c hc;have spc:=hcon f c hc;split at hk
  .rename_i x m σ sm hM;split at hk
   .rename_i q hq;obtain⟨vs,hp⟩:=q;obtain⟨l1,I⟩:=vq hq;obtain⟨y,D,hk⟩:=dD hk;split at hk
    .rename_i q2 F;obtain⟨rs1,s⟩:=q2;obtain⟨l2,A⟩:=vq F;split at hk
     .rename_i hcond;simp only[ak]at hcond;have hle:=a9 hcond.1;have sp:=spc.holds hcond.1;simp only at hk;split at hk
      .rename_i rs hrs;have hrs':=hrs;rw[sW,A.pv]at hrs';simp only[bU,af]at hrs';split at hk
       .rename_i hb;simp only[ak]at hb;have z:=au hb.1.2;refine ⟨_,_,_,_,_,hk,?_⟩;rw[<- hrs'];exact ac7 hinv sp (vk hM) I D A (by omega) z hb.2 _ hla λφ E h' w a=>hexec φ E h' w a sp.callable
       .split at hk
        .rename_i h2 d;obtain⟨hsr,hk⟩:=dM hk;refine ⟨_,_,_,_,_,hk,?_⟩;rw[<- hrs'];unfold Lz at d;rw[u0,A.pb]at d;simp only[bU,af]at d;exact Zo hinv sp (vk hM) I hcond.2 D A hle (λi hi=>by
          have:eP i c.pre.bs.length=M:=bt hi;simp only[this,bE]) (λi hi=>by
          have:eP i c.pre.bs.length=aa:=by
           cases hb:eP i c.pre.bs.length with
           |false=>rfl
           |true=>have:=a9 hb;omega
          simp only[this];rfl) d.symm hsr hla λφ E h' w a=>hexec φ E h' w a sp.callable
        .cases hk
      .cases hk
     .rename_i hcond;split at hk
      .rename_i hro;simp only[ak]at hro;have z:=au hro.1;have hng:=EB hro.2;have sp:pD P f c.full:=by
        unfold aG at spc
        rwa [aL (λhb=>hcond (by rw[hb,hng];rfl))]at spc
       simp only at hk;split at hk
       .rename_i rs hrs;split at hk
        .rename_i h2 d;have hrs':=hrs;rw[sW,A.pv]at hrs';simp only[bU,af]at hrs';refine ⟨_,_,_,_,_,hk,?_⟩;rw[<- hrs'];have B:=vk hM;unfold Lz at d;rw[u0,I.pb]at d;simp only[bU,af]at d;have hqe:∀i,s.get i=U:=λi=>by
          cases hb:s.get i with
          |none=>rfl
          |some b=>have:=A.lt_len hb;omega
         have J':qu c.full.post (So (PV.tyL c.post.vs) (PB.tyL c.pre.bs) (Nn _ _ y) (Ke _ _ x)) rs1 hp l1:=
          ⟨by show pO GP c.post.vs (Nn (PV.tyL c.post.vs) (PB.tyL c.pre.bs) _)=_;rw[sQ];exact A.pv,by show oe GP c.pre.bs (Ke (PV.tyL c.post.vs) (PB.tyL c.pre.bs) _)=_;rw[ul];exact I.pb,I.len,I.at_,iP (λi r hr=>by rw[bP,hqe]at hr;cases hr) _ A.ok,vn (by omega) _ A.lt,I.cells⟩
         obtain⟨x1,m1,x2,m2,hx,hmm,gv,gb⟩:=B.ex;obtain⟨l,q1,q2,q3⟩:=LU (g':=GP) c.pre.bs 0 x2 m2 hro.2 gb;have L:l1=l:=by
          have:=I.pb;rw[hx,ul,q1]at this;cases this;rfl
         subst L;have hgi:∀i,i<c.pre.bs.length->(if eP i c.pre.bs.length then gZ σ i else nx+(i-c.pre.bs.length))=gZ σ i:=λi hi=>by
          have:eP i c.pre.bs.length=M:=bt hi;simp only[this,bE]
         have hsame:∀i,i<c.pre.bs.length->h2.get (gZ σ i)=h.get (gZ σ i):=λi hi=>by
          obtain⟨ty,p,T,xs,w1,w2⟩:=q3 i hi;rw[bL]at w2;have:=ur (λi=>if eP i c.pre.bs.length then gZ σ i else nx+(i-c.pre.bs.length)) (l1.map (lQ (lE (λi=>if eP i c.pre.bs.length then gZ σ i else nx+(i-c.pre.bs.length))))) 0 (d9 m h) (λa b ha hb e=>by
           simp only[co,q2]at ha hb;rw[bL,bL,hgi a ha,hgi b hb]at e;exact B.inj a b ha hb e) i (Z (.rows ty p T xs)) (by rw[bf,w1];rfl)
          rw[bL,hgi i hi]at this;rw[<- d,this,w2]
         have t:=Zo (o:=o) (e:=e) hinv sp B I hng (y:=So (PV.tyL c.post.vs) (PB.tyL c.pre.bs) (Nn _ _ y) (Ke _ _ x)) (by show av (c.m x) _=_;rw[D];rfl) J' (cB _) (g:=λi=>if eP i c.pre.bs.length then gZ σ i else nx+(i-c.pre.bs.length)) hgi (λi hi=>by
          have:eP i c.pre.bs.length=aa:=by
           cases hb:eP i c.pre.bs.length with
           |false=>rfl
           |true=>have:=a9 hb;have hi:c.pre.bs.length<=i:=hi;omega
          simp only[this];rfl) d.symm (Ev _ λi hi=>by rw[hgi i hi];exact hsame i hi) hla λφ E h' w a=>hexec φ E h' w a sp.callable
         have t':iz P o aa e h nx (OP (kE (λi=>if eP i c.pre.bs.length then gZ σ i else nx+(i-c.pre.bs.length)) rs1)) (sm|||m) (sm|||m|||(((1<<<(c.pre.bs.length-c.pre.bs.length))-1)<<<nx)) h2 (nx+(c.pre.bs.length-c.pre.bs.length)):=t;rw[yT,db]at t';refine t'.drop (W:=sm) (λi hi=>?_) (λi hi=>?_)
         .refine ⟨?_,by rw[bw,hi];rfl⟩;obtain⟨k,hk,rfl⟩:=(B.sig i).1 hi;obtain⟨ty,p,T,xs,_,w2⟩:=q3 k hk;rw[bL]at w2;rw[bK,bK,hsame k hk,w2];rfl
         .simp only[Nat.shiftLeft_zero,yT,Nat.zero_shiftLeft,Nat.or_zero,bw,iO]at hi;exact hi
        .cases hk
       .cases hk
      .cases hk
    .cases hk
   .cases hk
  .cases hk
 .cases hk
theorem aen {R:Type} {P:Program} {con:FuncId->J ch} (hcon:JZ P con) {bZ:TypeId->J Ty} {o:Oper} {e:iJ} {h:bl} {nx:Nat} {i:SI} {K:KO R} {r:R} (hinv:l_ h nx) (hi:sU e h) (hc:xx P o.op=i) (hk:dS con bZ i e h nx K=Z r):kG P o i.still e h nx K r:=by
 have callOps:∀(c:Call),o.op= .call c->∀x,x∈c.operands->x∈o.op.operands:=λc d x A=>by rw[d];exact A
 cases i with
 |call f args=>
  simp only[dS]at hk;split at hk
  .rename_i l hl;have d:∃c:Call,o.op= .call c/\c.callee= .value (.func f)/\c.args.toList=args:=by
    unfold xx at hc;split at hc
    .rename_i i hi;subst hc;unfold NY at hi;split at hi
     .rename_i c d;split at hi
      .rename_i g hg;simp only[af,SI.call.injEq]at hi;exact⟨c,d,by rw[hg,hi.1],hi.2⟩
      .simp at hi
      .cases hi
     .cases hi
    .split at hc<;>cases hc
   obtain⟨c,d,h1,h2⟩:=d;obtain⟨la,L,I⟩:=xP hi hl;refine Vl hcon hinv hk I λφ E h' w a hcb hops hrep=>?_
   have hp:RP φ E h' w a (It e h) o:=λx y A F=>rG hrep (by rw[uy];exact hops) A F
   refine ⟨args.map a.eval,?_,Nt hp args la (λx A=>callOps c d x (by simp[dO,h1,<-h2]at A ⊢;exact .inr A)) L⟩;unfold execOp;rw[d];have hm:c.args.map a.eval=(args.map a.eval).toArray:=by rw[<- h2];apply J4;simp
   simp[resolve,h1,Act.eval,Deferred.ofValue,invoke,hm,vY hcb]
  .cases hk
 |callv x args=>
  simp only[dS]at hk;split at hk
  .rename_i f cap l A hl;have d:∃c:Call,o.op= .call c/\c.callee= .value x/\c.args.toList=args:=by
    unfold xx at hc;split at hc
    .rename_i i hi;subst hc;unfold NY at hi;split at hi
     .rename_i c d;split at hi
      .simp at hi
      .rename_i g hg;simp only[af,SI.callv.injEq]at hi;exact⟨c,d,by rw[hg,hi.1],hi.2⟩
      .cases hi
     .cases hi
    .split at hc<;>cases hc
   obtain⟨c,d,h1,h2⟩:=d;obtain⟨la,L,I⟩:=xP hi hl;obtain⟨yx,g3,D⟩:=bI hi A;simp only[b9]at D;split at D
   .rename_i lc hlc;simp only[af]at D;subst D;refine Vl hcon hinv hk (m_ I hlc) λφ E h' w a hcb hops hrep=>?_
    have hp:RP φ E h' w a (It e h) o:=λx y A F=>rG hrep (by rw[uy];exact hops) A F
    have hxv:=hp x _ (callOps c d x (by simp[dO,h1])) g3;have hlv:=Nt hp args la (λx A=>callOps c d x (by simp[dO,h1,<-h2]at A ⊢;exact .inr A)) L;generalize hz:a.eval x=z at hxv;cases hxv with
    |@clo _ _ vs hvl hvr=>
     refine ⟨args.map a.eval++vs,?_,hlv.append (jZ.of hvl hvr)⟩;unfold execOp;rw[d];have hm:c.args.map a.eval=(args.map a.eval).toArray:=by rw[<- h2];apply J4;simp
     simp[resolve,h1,hz,Deferred.ofValue,invoke,hm,vY hcb]
   .cases D
  .cases hk
 |op s=>
  have hc:s= .bad\/dk P o.op=Z s:=by
   unfold xx at hc;split at hc
   .rename_i i hi;subst hc;unfold NY at hi;split at hi
    .split at hi<;>simp at hi
    .cases hi
   .split at hc
    .rename_i q hq;simp only[SI.op.injEq]at hc;subst hc;exact .inr hq
    .simp only[SI.op.injEq]at hc;exact .inl hc.symm
  rcases hc with rfl|hc
  .simp[dS]at hk
  .exact K_op hinv hi hc hk
def fO (am:Nat) (e e':iJ):Prop:=∀k,aO am k=aa->∀d,e'.get k=Z d->∃v,e.get k=Z v/\(tG v=M->d=v)
theorem fO.refl (am:Nat) (e:iJ):fO am e e:=λ_ _ d h=>⟨d,h,λ_=>rfl⟩
theorem fO.trans {am:Nat} {a b c:iJ} (h1:fO am a b) (h2:fO am b c):fO am a c:=λk hk d hv=>by
 obtain⟨v1,A,z⟩:=h2 k hk d hv;obtain⟨v,s,q⟩:=h1 k hk v1 A;refine ⟨v,s,λhf=>?_⟩;have:=q hf;subst this;exact z hf
theorem fO.mono {am am':Nat} {a b:iJ} (h:fO am a b) (hm:∀k,aO am k=M->aO am' k=M):fO am' a b:=λk hk=>h k (by
 cases d:aO am k with
 |false=>rfl
 |true=>rw[hm k d]at hk;cases hk)
structure ZL (P:Program) (ops:Array Oper) (rest:List Oper) (sl:List r8) (am:Nat) (s s':TS) (fs:List Z_) (l:List (Oper×Aq)):Prop where
 ops_:l.map (·.1)=rest
 chain:yP P ops l (fh s.e s.h) (bB s.h) (fh s'.e s'.h) (bB s'.h)
 fsl:fs.length=l.length
 sll:sl.length=l.length
 fp:∀(j:Nat) o f q,l[j]? =Z (o,f)->fs[j]? =Z q->(∀n∈f.rd,aO q.rd (ow n)=M)/\∀n∈f.wr,aO q.wr (ow n)=M
 still:∀(j:Nat) o f so,l[j]? =Z (o,f)->sl[j]? =Z so->so.op.still=M->f.rd=[]/\f.wr=[]
 names:∀(j:Nat) o f,l[j]? =Z (o,f)->∀n∈f.N,s.nx<=ow n/\ow n<s'.nx
 apart_:∀(i j:Nat) oi fi oj fj,i<j->l[i]? =Z (oi,fi)->l[j]? =Z (oj,fj)->∀n∈fi.N,n∉fj.N
 grows:s.nx<=s'.nx
 invH:l_ s'.h s'.nx
 invE:sU s'.e s'.h
 keeps:fO am s.e s'.e
theorem aaw {e:iJ} {h h':bl} (hi:sU e h) (hr:b6 h h') (d:J Nat) {v:TV} {y:AV} (hv:b9 h' v=Z y):BD (fh e h) d y=fh (Dc e d v) h':=by
 funext t;have old:(e.get t).bind (b9 h)=(e.get t).bind (b9 h'):=by
  cases ht:e.get t with
  |none=>rfl
  |some x=>
   obtain⟨z,q⟩:=oX h x (hi t x ht);simp only[aD,q,fA hr x z q]
 cases d with
 |none=>simp only[BD,Dc,fh];rw[aL (by simp)];exact old
 |some d=>
  simp only[BD,Dc,fh,PT.get_set,af];by_cases hd:d=t
  .subst hd;simp[hv]
  .rw[aL hd,aL (λe=>hd e.symm)];exact old
theorem sU.put {e:iJ} {h h':bl} (hi:sU e h) (hr:b6 h h') (d:J Nat) {v:TV} (hv:Km h' v=M):sU (Dc e d v) h':=λt x q=>by
 cases d with
 |none=>exact mJ hr x (hi t x q)
 |some d=>
  simp only[Dc,PT.get_set]at q;split at q
  .cases q;exact hv
  .exact mJ hr x (hi t x q)
theorem P5 {e:iJ} {h:bl} {t:Nat} {v:TV} (ht:e.get t=Z v):fh (e.set t (Z v)) h=fh e h:=by
 funext k;simp only[fh,PT.get_set];by_cases hk:k=t
 .subst hk;simp[ht]
 .rw[aL hk]
theorem sU.set {e:iJ} {h:bl} {t:Nat} {v:TV} (hi:sU e h) (ht:e.get t=Z v):sU (e.set t (Z v)) h:=λk x d=>by
 rw[PT.get_set]at d;split at d
 .rename_i hk;subst hk;cases d;exact hi _ _ ht
 .exact hi k x d
theorem RW {R:Type} {e:iJ} {g:J (Nat×Bool)} {K:Bool->iJ->J R} {r:R} (h:XW e g K=Z r):
 (g=U/\K M e=Z r)\/(∃t want b,g=Z (t,want)/\e.get t=Z (.f .bool b)/\K (b==want) (e.set t (Z (.f .bool b)))=Z r)\/∃t want,g=Z (t,want)/\e.get t=Z .undef/\K aa e=Z r:=by
 unfold XW at h;split at h
 .exact .inl ⟨rfl,h⟩
 .rename_i t want;split at h
  .rename_i b hb;refine .inr (.inl ⟨t,want,b,rfl,hb,?_⟩);cases want with
   |true=>rcases lO h with ⟨rfl,h⟩|⟨rfl,h⟩<;>exact h
   |false=>rcases lO h with ⟨rfl,h⟩|⟨rfl,h⟩<;>exact h
  .rename_i hb;exact .inr (.inr ⟨t,want,rfl,hb,h⟩)
  .cases h
theorem Hp {R:Type} {P:Program} {con:FuncId->J ch} (hcon:JZ P con) {bZ:TypeId->J Ty} {ops:Array Oper} {am:Nat} (ham:∀(j:Nat) (o:Oper) (d:Nat),ops[j]? =Z o->o.dst=Z d->aO am d=M):
 ∀(rest:Y Oper) (sl:Y r8) (s:TS) (fs:Y Z_) (K:TS->Y Z_->J R) (r:R),(∀o∈rest,∃j:Nat,ops[j]? =Z o)->rI P ops rest=Z sl->Kj con bZ sl s fs K=Z r->l_ s.h s.nx->sU s.e s.h->∃s' fs' l,K s' (fs.reverse++fs')=Z r/\ZL P ops rest sl am s s' fs' l
 |[],sl,s,fs,K,r,hin,hc,hk,hH,A=>by
  simp only[rI,af]at hc;subst hc;simp only[Kj]at hk;exact⟨s,[],[],by simpa using hk,rfl,.nil _ _,rfl,rfl,by simp,by simp,by simp,by simp,cB _,hH,A,fO.refl _ _⟩
 |o::rest,sl,s,fs,K,r,hin,hc,hk,hH,A=>by
  simp only[rI]at hc;split at hc
  .rename_i sl' hsl';have hso:∃g,sl=⟨o.dst,xx P o.op,g⟩::sl'/\((g=U/\o.guard=U)\/∃j want t,g=Z (t,want)/\o.guard=Z (j,want)/\(ops[j]?).bind (·.dst)=Z t):=by
    split at hc
    .rename_i hg;simp only[af]at hc;exact⟨U,hc.symm,.inl ⟨rfl,hg⟩⟩
    .rename_i j want hg;split at hc
     .rename_i t ht;simp only[af]at hc;exact⟨Z (t,want),hc.symm,.inr ⟨j,want,t,rfl,hg,ht⟩⟩
     .cases hc
   obtain⟨g,rfl,hg⟩:=hso;simp only[Kj]at hk;have hdst:∀d,o.dst=Z d->aO am d=M:=λd hd=>by
    obtain⟨j,hj⟩:=hin o (eo ..);exact ham j o d hj hd
   have hgs:∀t want,g=Z (t,want)->aO am t=M:=λt want hgt=>by
    rcases hg with ⟨h1,_⟩|⟨j,want',t',h1,_,h3⟩
    .rw[h1]at hgt;cases hgt
    .rw[h1]at hgt;cases hgt;cases hj:ops[j]? with
     |none=>rw[hj]at h3;cases h3
     |some oj=>rw[hj]at h3;exact ham j oj t hj h3
   have kput:∀(e:iJ) (v:TV),fO am s.e e->fO am s.e (Dc e o.dst v):=λe v hke k hk I hv=>by
    cases hd:o.dst with
    |none=>rw[hd]at hv;exact hke k hk I hv
    |some d=>
     rw[hd]at hv;simp only[Dc,PT.get_set]at hv;split at hv
     .rename_i e2;rw[e2,hdst d hd]at hk;cases hk
     .exact hke k hk I hv
   have done:∀(f:Aq) (v:TV) (h':bl) (nx' rd wr:Nat) (e:iJ),fh e s.h=fh s.e s.h->sU e s.h->fO am s.e e->JM P ops o f (fh s.e s.h) (bB s.h)->(∃y,b9 h' v=Z y/\f.val=y)->eE (bB s.h) f.wr f.nw=bB h'->(∀n∈f.rd,aO rd (ow n)=M)->(∀n∈f.wr,aO wr (ow n)=M)->(∀n∈f.N,s.nx<=ow n/\ow n<nx')->b6 s.h h'->l_ h' nx'->s.nx<=nx'->((xx P o.op).still=M->f.rd=[]/\f.wr=[])->
    Kj con bZ sl' ⟨Dc e o.dst v,h',nx'⟩ (⟨rd,wr⟩::fs) K=Z r->∃s' fs' l,K s' (fs.reverse++fs')=Z r/\ZL P ops (o::rest) (⟨o.dst,xx P o.op,g⟩::sl') am s s' fs' l:=by
    intro f v h' nx' rd wr e hee hiE hke hst hval hheap hrd hwr hN hrows hinv' hgr hstill hrun;obtain⟨y,D,hy2⟩:=hval;obtain⟨s',fs',l,z,L⟩:=Hp hcon ham rest sl' _ _ K r (λo' ho'=>hin o' (di _ ho')) hsl' hrun hinv' (hiE.put hrows o.dst (DQ _ _ _ D));have hg2:nx'<=s'.nx:=L.grows;refine ⟨s',⟨rd,wr⟩::fs',(o,f)::l,by simpa using z,by simp[L.ops_],.cons hst ?_,by simp[L.fsl],by simp[L.sll],?_,?_,?_,?_,cW hgr hg2,L.invH,L.invE,(kput e v hke).trans L.keeps⟩
    .have e1:BD (fh s.e s.h) o.dst f.val=fh (Dc e o.dst v) h':=by rw[<- hee,hy2];exact aaw hiE hrows o.dst D
     rw[e1,hheap];exact L.chain
    .intro j o' f' q' h1 h2;cases j with
     |zero=>simp at h1 h2;obtain⟨rfl,rfl⟩:=h1;subst h2;exact⟨hrd,hwr⟩
     |succ j=>exact L.fp j o' f' q' (by simpa using h1) (by simpa using h2)
    .intro j o' f' so h1 h2 h3;cases j with
     |zero=>simp at h1 h2;obtain⟨rfl,rfl⟩:=h1;subst h2;exact hstill h3
     |succ j=>exact L.still j o' f' so (by simpa using h1) (by simpa using h2) h3
    .intro j o' f' h1 n hn;cases j with
     |zero=>
      simp at h1;obtain⟨rfl,rfl⟩:=h1;have:=hN n hn;exact⟨this.1,by omega⟩
     |succ j=>
      have:=L.names j o' f' (by simpa using h1) n hn;exact⟨cW hgr this.1,this.2⟩
    .intro i j oi fi oj fj hij h1 h2 n hn F;cases j with
     |zero=>omega
     |succ j=>
      have hj:=L.names j oj fj (by simpa using h2) n F;cases i with
      |zero=>
       simp at h1;obtain⟨rfl,rfl⟩:=h1;have h3:=(hN n hn).2;have h4:nx'<=ow n:=hj.1;omega
      |succ i=>exact L.apart_ i j oi fi oj fj (by omega) (by simpa using h1) (by simpa using h2) n hn F
   have runs:∀(e:iJ),fh e s.h=fh s.e s.h->sU e s.h->fO am s.e e->(∀f,gy P o (fh s.e s.h) (bB s.h) f->JM P ops o f (fh s.e s.h) (bB s.h))->dS con bZ (xx P o.op) e s.h s.nx (λv rd wr h nx=>if Km h v then Kj con bZ sl' ⟨Dc e o.dst v,h,nx⟩ (⟨rd,wr⟩::fs) K else U)=Z r->∃s' fs' l,K s' (fs.reverse++fs')=Z r/\ZL P ops (o::rest) (⟨o.dst,xx P o.op,g⟩::sl') am s s' fs' l:=by
    intro e hee hiE hke hstep hk;obtain⟨v,rd,wr,h',nx',z,T⟩:=aen hcon hH hiE rfl hk;simp only[]at z;split at z
    .rename_i hok;obtain⟨f,t1,t2,t3,t4,t5,t6⟩:=T.ex;rw[hee]at t1;obtain⟨y,hy⟩:=oX h' v hok;refine done f v h' nx' rd wr e hee hiE hke (hstep f t1) ⟨y,hy,t2 y hy⟩ t3 t4 t5 t6 T.rows T.inv T.grows (λhs=>?_) z;obtain⟨r0,w0⟩:=T.st hs;subst r0;subst w0;constructor
     .cases hl:f.rd with
      |nil=>rfl
      |cons n q=>have:=t4 n (by rw[hl];simp);simp at this
     .cases hl:f.wr with
      |nil=>rfl
      |cons n q=>have:=t5 n (by rw[hl];simp);simp at this
    .cases z
   have skips:∀(e:iJ),fh e s.h=fh s.e s.h->sU e s.h->fO am s.e e->JM P ops o rq (fh s.e s.h) (bB s.h)->Kj con bZ sl' ⟨Dc e o.dst .undef,s.h,s.nx⟩ (⟨0,0⟩::fs) K=Z r->∃s' fs' l,K s' (fs.reverse++fs')=Z r/\ZL P ops (o::rest) (⟨o.dst,xx P o.op,g⟩::sl') am s s' fs' l:=by
    intro e hee hiE hke hstep hk;exact done rq .undef s.h s.nx 0 0 e hee hiE hke hstep ⟨_,rfl,rfl⟩ (by funext i;simp[eE,rq]) (by simp[rq]) (by simp[rq]) (by simp[rq]) (b6.refl _) hH (cB _) (λ_=>⟨rfl,rfl⟩) hk
   rcases RW hk with ⟨h1,hk⟩|⟨t,want,b,h1,hb,hk⟩|⟨t,want,h1,hb,hk⟩
   .refine runs s.e rfl A (fO.refl _ _) (λf hf=>?_) hk;rcases hg with ⟨_,hg⟩|⟨j,want,t,h2,_,_⟩
    .exact .run hg hf
    .rw[h1]at h2;cases h2
   .rcases hg with ⟨h2,_⟩|⟨j,want',t',h2,h3,h4⟩
    .rw[h1]at h2;cases h2
    .rw[h1]at h2;cases h2;have hgt:=hgs t want h1;have heb:fh s.e s.h t=Z (.f (.raw (.bool b))):=by simp only[fh,hb,aD,b9];rfl
     have hke:fO am s.e (s.e.set t (Z (.f .bool b))):=λk hk I hv=>by
      rw[PT.get_set]at hv;split at hv
      .rename_i ek;rw[ek,hgt]at hk;cases hk
      .exact⟨I,hv,λ_=>rfl⟩
     cases hbw:(b==want) with
     |true=>
      rw[hbw]at hk;have:b=want:=by simpa using hbw
      subst this;exact runs _ (P5 hb) (A.set hb) hke (λf hf=>.runG j t b h3 h4 heb hf) hk
     |false=>
      rw[hbw]at hk;refine skips _ (P5 hb) (A.set hb) hke (.skip j t want h3 h4 (.bool b) heb ?_ rfl) hk;intro hv;cases hv;simp at hbw
   .rcases hg with ⟨h2,_⟩|⟨j,want',t',h2,h3,h4⟩
    .rw[h1]at h2;cases h2
    .rw[h1]at h2;cases h2;exact skips _ rfl A (fO.refl _ _) (.skip j t want h3 h4 undef (by simp only[fh,hb,aD,b9]) (by unfold undef;simp) rfl) hk
  .cases hc
theorem ab5 {P:Program} {ops:Array Oper} {sl:Y r8} {am:Nat} {s s':TS} {fs:Y Z_} {l:Y (Oper×Aq)} {prs:Y (Nat×Nat)} (hl:ZL P ops ops.toList sl am s s' fs l) (hp:LA ops sl=Z prs) (hok:Ey fs prs=M):NIP ops l:=by
 unfold LA at hp;simp only[]at hp;split at hp
 .rename_i hall;simp only[gj,ng,ak]at hall;simp only[af]at hp;have hop:∀(j:Nat) o f,l[j]? =Z (o,f)->ops[j]? =Z o:=λj o f hj=>by
   have h1:(l.map (·.1))[j]? =Z o:=by rw[bf,hj];rfl
   rw[hl.ops_]at h1;simpa using h1
  have hsize:∀(j:Nat) o,ops[j]? =Z o->j<ops.size:=λj o h=>(cq.1 h).1
  have hprs:∀i j,(i,j)∈prs->∃a b,fs[i]? =Z a/\fs[j]? =Z b/\CC a.wr b.rd=M/\CC a.wr b.wr=M/\CC b.wr a.rd=M:=by
   clear hp hall;induction prs with
   |nil=>intro i j h;cases h
   |cons p prs L=>
    obtain⟨i0,j0⟩:=p;simp only[Ey,ak,U4]at hok;intro i j hm;rcases bu.1 hm with h|h
    .cases h;have h1:=hok.1;split at h1
     .rename_i a b A hb;simp only[ak]at h1;exact⟨a,b,A,hb,h1.1.1,h1.1.2,h1.2⟩
     .cases h1
    .exact L hok.2 i j h
  refine ⟨λj o D e he hb=>?_,λi j oi fi oj fj hij hi hj=>?_,hl.apart_⟩
  .have:=(hall j (hsize j o D)).1;rw[D]at this;simp only[Option.all_some,gj]at this;have:=this e (by simpa using he);simp[hb]at this;exact this
  .have h1:=hop i oi fi hi;have h2:=hop j oj fj hj;have hcase:=(hall j (hsize j oj h2)).2 i hij;rw[h1,h2]at hcase;simp only[iO]at hcase;by_cases z:aO ((Jy ops.toList []).getD j 0) i=M
   .left;rw[ay]at z;cases d:(Jy ops.toList [])[j]? with
    |none=>rw[d]at z;simp at z
    |some B=>
     rw[d]at z;exact Mp (ops:=ops) ops.toList [] (λj o hj=>by simpa using hj) (λj B hj=>by simp at hj) j B d i (by simpa using z)
   .right;have hap:=hcase.resolve_left z;refine ⟨hap,?_⟩;have hil:i<l.length:=(bm.1 hi).1;have hjl:j<l.length:=(bm.1 hj).1;have hsi:=aw (show i<sl.length by rw[hl.sll];exact hil);have hsj:=aw (show j<sl.length by rw[hl.sll];exact hjl);by_cases hst:(sl[i]'(by rw[hl.sll];exact hil)).op.still=M
    .obtain⟨q1,q2⟩:=hl.still i oi fi _ hi hsi hst;rw[q1,q2];exact⟨(λx d=>by cases d),(λx _ d=>by cases d)⟩
    .by_cases hst2:(sl[j]'(by rw[hl.sll];exact hjl)).op.still=M
     .obtain⟨q1,q2⟩:=hl.still j oj fj _ hj hsj hst2;rw[q1,q2];exact⟨(λx d=>⟨(by simp),(by simp)⟩),(λx d=>by cases d)⟩
     .have hmem:(i,j)∈prs:=by
       rw[<- hp,ui];refine ⟨j,ng.2 (hsize j oj h2),?_⟩;rw[List.mem_filterMap];refine ⟨i,ng.2 hij,?_⟩;rw[aL];rw[hsi,hsj];simp only[iO,not_or];exact⟨z,hst,hst2⟩
      obtain⟨a,b,A,hb,d1,d2,d3⟩:=hprs i j hmem;obtain⟨f1,I⟩:=hl.fp i oi fi a hi A;obtain⟨g1,F⟩:=hl.fp j oj fj b hj hb;refine ⟨λx d=>⟨λq=>?_,λq=>?_⟩,λx d q=>?_⟩
      .have:=wK d1 (ow x) (I x d);rw[g1 x q]at this;cases this
      .have:=wK d2 (ow x) (I x d);rw[F x q]at this;cases this
      .have:=wK d3 (ow x) (F x d);rw[f1 x q]at this;cases this
 .cases hp
structure oB (P:Program) (E:Nat->Prop) (nt np:Nat) (φ:PM) (s:TS) (a:Act) (w:World):Prop where
 rep:qG φ E (bB s.h) w
 env:Mx φ (tot E φ (bB s.h)) w (fh s.e s.h) a
 dom:∀n k,φ n=Z k->ow n<s.nx
 low:np<=s.nx
 invH:l_ s.h s.nx
 invE:sU s.e s.h
 inert:∀d∈a.defers,Z7 P d
 size:a.tmps.size=nt
structure Bd (np:Nat) (φ φ':PM) (H H':HF) (w w':World):Prop where
 ext:Gu (own φ H) w w'
 own_:∀k,k<w.heap.size->own φ' H' k->own φ H k
 par:∀i,i<np->φ' (nm i)=φ (nm i)
theorem Bd.refl (np:Nat) (φ:PM) (H:HF) (w:World):Bd np φ φ H H w w:=⟨Gu.refl _ _,λ_ _ h=>h,λ_ _=>rfl⟩
theorem Bd.trans {np:Nat} {φ φ' φ'':PM} {H H' H'':HF} {w w' w'':World} (a:Bd np φ φ' H H' w w') (b:Bd np φ' φ'' H' H'' w' w''):Bd np φ φ'' H H'' w w'' where
 ext:=⟨b.ext.os.trans a.ext.os,b.ext.tape.trans a.ext.tape,b.ext.output.trans a.ext.output,cW a.ext.size b.ext.size,
  λk hk d=>(b.ext.blk k (dx hk a.ext.size) (λh=>d (a.own_ k hk h))).trans (a.ext.blk k hk d),
  λk hk=>(b.ext.shp k (dx hk a.ext.size)).trans (a.ext.shp k hk)⟩
 own_:=λk hk h=>a.own_ k hk (b.own_ k (dx hk a.ext.size) h)
 par:=λi hi=>(b.par i hi).trans (a.par i hi)
theorem Yd {R:Type} {P:Program} {E:Nat->Prop} {nt np:Nat} {φ:PM} {s:TS} {a:Act} {w:World} {con:FuncId->J ch} {bZ:TypeId->J Ty} (hm:P.follows .mixedOrders=M) (hcon:JZ P con) (c:oB P E nt np φ s a w) {id:Nat} {ops:Array Oper} {draw:Bool} {sl:Y r8} {prs:Y (Nat×Nat)} {am:Nat} (ham:∀(j:Nat) (o:Oper) (d:Nat),ops[j]? =Z o->o.dst=Z d->aO am d=M)
 (hd:(ops.toList.all λo=>match o.dst with|some d=>decide (d<nt)|none=>M)=M) (hc:rI P ops ops.toList=Z sl) (hp:LA ops sl=Z prs) {K:TS->J R} {r:R} (hr:Kj con bZ sl s [] (λs' fs=>if Ey fs prs then K s' else U)=Z r) {Q:Exit->Act->World->Prop}
 (hQ:∀a' w' s' φ',K s'=Z r->oB P E nt np φ' s' a' w'->Bd np φ φ' (bB s.h) (bB s'.h) w w'->fO am s.e s'.e->Q .normal a' w'):(Code.region id ops draw).wp P Q a w:=by
 obtain⟨s',fs',l,z,L⟩:=Hp hcon ham ops.toList sl s [] _ r (λo D=>by
  obtain⟨j,hj⟩:=eR D;exact⟨j,by simpa using hj⟩) hc hr c.invH c.invE
 have z:(if Ey fs' prs then K s' else U)=Z r:=z;by_cases hok:Ey fs' prs=M
 .rw[aU hok]at z;refine OR (φ0:=φ) (E:=E) hm L.ops_ L.chain (ab5 L hp hok) ?_ ?_ c.rep c.env ?_
  .intro n hn;obtain⟨p,q,hn⟩:=ui.1 hn;obtain⟨j,hj⟩:=eR q;have:=L.names j p.1 p.2 hj n hn;cases A:φ n with
   |none=>rfl
   |some k=>have:=c.dom n k A;omega
  .intro j o D d F;have:=gj.1 hd o (by have:=Array.mem_of_getElem? D;simpa using this);rw[F]at this;rw[c.size];simpa using this
  .rintro a' w' ⟨φ',m',d',I,en',df',sz'⟩;have hnm:∀n k,φ' n=Z k->φ n=Z k\/(s.nx<=ow n/\ow n<s'.nx):=λn k hik=>by
    rcases d' n k hik with h|h
    .exact .inl h
    .obtain⟨p,q,hn⟩:=ui.1 h;obtain⟨j,hj⟩:=eR q;exact .inr (L.names j p.1 p.2 hj n hn)
   have hg:=L.grows;have hlow:=c.low;refine hQ a' w' s' φ' z ⟨I,en',λn k hik=>?_,by omega,L.invH,L.invE,by rw[df'];exact c.inert,by rw[sz'];exact c.size⟩ ⟨m'.ext,m'.own_,λi hi=>?_⟩ L.keeps
   .rcases hnm n k hik with h|h
    .have:=c.dom n k h;omega
    .exact h.2
   .cases A:φ (nm i) with
    |some k=>exact m'.sub _ _ A
    |none=>
     cases hy:φ' (nm i) with
     |none=>rfl
     |some k=>
      rcases hnm (nm i) k hy with h|h
      .rw[A]at h;cases h
      .rw[dQ]at h;omega
 .rw[aL hok]at z;cases z
theorem yM:∀(l:Y r8) (acc:Nat),N6 l acc=acc|||N6 l 0
 |[],acc=>by simp[N6]
 |o::r,acc=>by
  simp only[N6];cases o.dst with
  |none=>exact yM r acc
  |some d=>simp only[];rw[yM r (acc|||kn d),yM r (0|||kn d),xz,jP]
theorem zg:∀(l:ι) (acc:Nat),Kp l acc=acc|||Kp l 0
 |[],acc=>by simp[Kp]
 |k::r,acc=>by simp only[Kp];rw[zg r (acc|||kn k),zg r (0|||kn k),xz,jP]
theorem kZ:∀(l:Y Adj) (acc:Nat),mh l acc=acc|||mh l 0
 |[],acc=>by simp[mh]
 |.nil k _ _::r,acc=>by simp only[mh];rw[kZ r (acc|||kn k),kZ r (0|||kn k),xz,jP]
 |.cel _ _ _ _::r,acc=>by simp only[mh];exact kZ r acc
 |.mpt _ _ _::r,acc=>by simp only[mh];exact kZ r acc
 |.mz _ _::r,acc=>by simp only[mh];exact kZ r acc
 |.ren k _::r,acc=>by simp only[mh];rw[kZ r (acc|||kn k),kZ r (0|||kn k),xz,jP]
 |.pk _ _ _::r,acc=>by simp only[mh];exact kZ r acc
theorem gB:∀(c:TC) (acc:Nat),c.asg acc=acc|||c.asg 0
 |.reg ops _,acc=>yM ops acc
 |.seq a b,acc=>by simp only[TC.asg];rw[gB b (a.asg acc),gB b (a.asg 0),gB a acc,jP]
 |.jseq A a b,acc=>by simp only[TC.asg];rw[gB b (a.asg _),gB b (a.asg (Kp A.ks 0)),gB a (Kp A.ks acc),gB a (Kp A.ks 0),zg A.ks acc,jP,jP,jP]
 |.cond _ a b,acc=>by simp only[TC.asg];rw[gB b (a.asg acc),gB b (a.asg 0),gB a acc,jP]
 |.block _ b,acc=>gB b acc
 |.jblock A _ b,acc=>by simp only[TC.asg];rw[gB b (Kp A.ks acc),gB b (Kp A.ks 0),zg A.ks acc,jP]
 |.loop A b,acc=>by simp only[TC.asg];rw[gB b (Kp A.ks acc),gB b (Kp A.ks 0),zg A.ks acc,jP]
 |.defer _ _ t,acc=>by simp[TC.asg]
 |.adj l c,acc=>by simp only[TC.asg];rw[gB c (mh l acc),gB c (mh l 0),kZ l acc,jP]
 |.split _ _ _ _ c,acc=>gB c acc
 |.bsp _ a b,acc=>by simp only[TC.asg];rw[gB b (a.asg acc),gB b (a.asg 0),gB a acc,jP]
 |.unl _ b,acc=>gB b acc
 |.skip,acc=>by simp[TC.asg]
 |.exit _,acc=>by simp[TC.asg]
 |.ret,acc=>by simp[TC.asg]
 |.bad,acc=>by simp[TC.asg]
theorem sS {c:TC} {acc k:Nat} (h:aO (c.asg 0) k=M):aO (c.asg acc) k=M:=by rw[gB,bw,h];simp
theorem js {c:TC} {acc k:Nat} (h:aO acc k=M):aO (c.asg acc) k=M:=by rw[gB,bw,h];rfl
theorem UT:∀{l:ι} {acc k:Nat},k∈l->aO (Kp l acc) k=M
 |[],_,_,h=>by cases h
 |x::r,acc,k,h=>by
  simp only[Kp];rcases bu.1 h with rfl|h
  .rw[zg,bw,bw,bV.2 rfl];simp
  .exact UT h
theorem Ra:∀{l:Y r8} {acc:Nat} {o:r8} {d:Nat},o∈l->o.dst=Z d->aO (N6 l acc) d=M
 |[],_,_,_,h,_=>by cases h
 |x::r,acc,o,d,h,hd=>by
  simp only[N6];rcases bu.1 h with rfl|h
  .rw[hd];simp only[];rw[yM,bw,bw,bV.2 rfl];simp
  .exact Ra h hd
theorem U1:∀{e:iJ} {ks:ι} {vs:Y TV},nM e ks=Z vs->vs.length=ks.length/\∀(j k:Nat),ks[j]? =Z k->∃v,vs[j]? =Z v/\e.get k=Z v
 |e,[],vs,h=>by simp only[nM,af]at h;subst h;exact⟨rfl,by simp⟩
 |e,k::r,vs,h=>by
  simp only[nM]at h;split at h
  .rename_i v hv;split at h
   .rename_i l hl;simp only[af]at h;subst h;obtain⟨h1,h2⟩:=U1 hl;refine ⟨by simp[h1],λj k' hj=>?_⟩;cases j with
    |zero=>simp at hj;subst hj;exact⟨v,rfl,hv⟩
    |succ j=>simpa using h2 j k' (by simpa using hj)
   .cases h
  .cases h
theorem Ht {e:iJ} {h:bl} (hi:sU e h):∀{ks:ι} {vs:Y TV},nM e ks=Z vs->kO h vs=M
 |[],vs,hg=>by simp only[nM,af]at hg;subst hg;rfl
 |k::r,vs,hg=>by
  simp only[nM]at hg;split at hg
  .rename_i v hv;split at hg
   .rename_i l hl;simp only[af]at hg;subst hg;simp only[kO,ak];exact⟨hi k v hv,Ht hi hl⟩
   .cases hg
  .cases hg
theorem Bu:∀{e:iJ} {ks:ι} {vs:Y TV},vs.length=ks.length->∀t v,(VM e ks vs).get t=Z v->(∃j:Nat,ks[j]? =Z t/\vs[j]? =Z v)\/(t∉ks/\e.get t=Z v)
 |e,[],[],_,t,v,h=>.inr ⟨by simp,h⟩
 |e,[],_::_,hl,t,v,h=>by simp at hl
 |e,_::_,[],hl,t,v,h=>by simp at hl
 |e,k::r,u::l,hl,t,v,h=>by
  simp only[VM,PT.get_set]at h;split at h
  .rename_i d;subst d;cases h;exact .inl ⟨0,rfl,rfl⟩
  .rename_i d;rcases Bu (by simpa using hl) t v h with ⟨j,h1,h2⟩|⟨h1,h2⟩
   .exact .inl ⟨j+1,by simpa using h1,by simpa using h2⟩
   .exact .inr ⟨by simp[d,h1],h2⟩
theorem sZ {am:Nat} {e:iJ}:∀{ks:ι} {k:Nat} {v:TV},(BU am e ks).get k=Z v->k∈ks/\e.get k=Z v/\tG v=M/\aO am k=aa
 |[],k,v,h=>by simp[BU,PT.get]at h
 |x::r,k,v,h=>by
  simp only[BU]at h;split at h
  .rename_i u hu;split at h
   .rename_i hc;simp only[ak,d_]at hc;rw[PT.get_set]at h;split at h
    .rename_i d;subst d;cases h;exact⟨by simp,hu,hc.1,hc.2⟩
    .obtain⟨h1,h2⟩:=sZ h;exact⟨by simp[h1],h2⟩
   .obtain⟨h1,h2⟩:=sZ h;exact⟨by simp[h1],h2⟩
  .obtain⟨h1,h2⟩:=sZ h;exact⟨by simp[h1],h2⟩
theorem HQ {am:Nat} {e0 e:iJ}:∀{ks:ι},GM am e0 e ks=M->∀k v,k∈ks->e0.get k=Z v->tG v=M->aO am k=aa->∃q,e.get k=Z q
 |[],_,k,v,h,_,_,_=>by cases h
 |x::r,hc,k,v,h,hv,hf,d=>by
  simp only[GM,ak]at hc;rcases bu.1 h with rfl|h
  .have h1:=hc.1;rw[hv]at h1;simp only[hf,d,Bool.not_true,Bool.false_or]at h1;cases s:e.get k with
   |none=>rw[s]at h1;cases h1
   |some u=>exact⟨u,rfl⟩
  .exact HQ hc.2 k v h hv hf d
section walk
variable {P:Program} {E:Nat->Prop} {nt np:Nat}
theorem P3 {h:bl} {v:TV} {y:AV} (hn:abd v=M) (d:b9 h v=Z y):Le y .emp:=by
 cases v with
 |nil=>simp only[b9,af]at d;subst d;exact Le.nilEmp
 |emp=>simp only[b9,af]at d;subst d;exact Le.refl _
 |_=>cases hn
theorem Vs {φ:PM} {s:TS} {a:Act} {w:World} (c:oB P E nt np φ s a w) (ty:TypeId) (T:Ty):oB P E nt np φ ⟨s.e,s.h.set s.nx (Z (.rows ty M T [])),s.nx+1⟩ a w/\bB (s.h.set s.nx (Z (.rows ty M T [])))=bB s.h/\b6 s.h (s.h.set s.nx (Z (.rows ty M T []))):=by
 have hfr:=c.invH.fresh;have hr:b6 s.h (s.h.set s.nx (Z (.rows ty M T []))):=b6.set λr hr=>by rw[bP,hfr]at hr;cases hr
 have A:bB (s.h.set s.nx (Z (.rows ty M T [])))=bB s.h:=by
  funext n;by_cases hn:n=nm s.nx
  .subst hn;rw[bK,bK,PT.get_set,aU rfl,hfr];rfl
  .refine km c.invH hr λi e=>?_
   subst e;rw[PT.get_set,aL (λe=>hn (by rw[e]))]
 refine ⟨⟨by rw[A];exact c.rep,?_,λn k hk=>yU (c.dom n k hk),iq c.low,c.invH.set hr (qw _) (Nat.le_succ _) (λ_ _ he=>by cases he),?_,c.inert,c.size⟩,A,hr⟩
 .intro t x d;rw[A];simp only[fh]at d;cases he:s.e.get t with
  |none=>rw[he]at d;cases d
  |some q=>
   rw[he]at d;obtain⟨z,D⟩:=oX s.h q (c.invE t q he);simp only[aD,fA hr q z D,af]at d;subst d;exact c.env t _ (by simp only[fh,he,aD,D])
 .intro t x d;exact mJ hr x (c.invE t x d)
theorem xQ {h:bl}:∀{a b:Y TV},kO h a=M->kO h b=M->kO h (a++b)=M
 |[],_,_,hb=>hb
 |x::r,b,d,hb=>by
  simp only[kO,ak]at d;simp only[gX,kO,ak];exact⟨d.1,xQ d.2 hb⟩
theorem LB {h:bl}:∀{a:Y TV} (n:Nat),kO h a=M->kO h (a.take n)=M
 |[],n,_=>by simp[kO]
 |x::r,0,_=>rfl
 |x::r,n+1,d=>by
  simp only[kO,ak]at d;simp only[uU,kO,ak];exact⟨d.1,LB n d.2⟩
theorem LC {h:bl}:∀{a:Y TV} (n:Nat),kO h a=M->kO h (a.drop n)=M
 |[],n,_=>by simp[kO]
 |x::r,0,d=>d
 |x::r,n+1,d=>by
  simp only[kO,ak]at d;simp only[uW];exact LC n d.2
theorem xK {α:Type} {l:Y α} {j:Nat} {x:α} (h:l[j]? =Z x):splice l j [x]=l:=by
 have hl:j<l.length:=by
  rcases bM j l.length with h'|h'
  .exact h'
  .rw[bJ h']at h;cases h
 rw[aw hl,af]at h;unfold splice;subst h;simp
theorem ZF {φ:PM} {s:TS} {a:Act} {w:World} (c:oB P E nt np φ s a w) {id j:Nat} {cty:J TypeId} {l:Y TV} {v u:TV} (hb:s.h.get id=Z (.cells cty l)) (hv:l[j]? =Z v) (hn:abd v=M) (hu:b9 s.h u=Z .emp) (huo:Km s.h u=M):
 oB P E nt np φ ⟨s.e,s.h.set id (Z (.cells cty (splice l j [u]))),s.nx⟩ a w/\Bd np φ φ (bB s.h) (bB (s.h.set id (Z (.cells cty (splice l j [u]))))) w w:=by
 have hr:b6 s.h (s.h.set id (Z (.cells cty (splice l j [u])))):=b6.set λr hr=>by rw[bP,hb]at hr;cases hr
 have hlo:=c.invH.cells id _ l hb;obtain⟨A,D⟩:=eT s.h l hlo;have hsp:cz s.h (splice l j [u])=Z (splice A j [.emp]):=pA j D (by simp only[cz,hu]);have hsp':cz (s.h.set id (Z (.cells cty (splice l j [u])))) (splice l j [u])=Z (splice A j [.emp]):=fR hr _ _ hsp;obtain⟨y,hy,hey⟩:=kY D j v hv;have hold:bB s.h (nm id)=Z (Vk cty A):=by rw[bK,hb];cases cty<;>(simp only[aD,jv,D];rfl)
 have hnew:bB (s.h.set id (Z (.cells cty (splice l j [u])))) (nm id)=Z (Vk cty (splice A j [.emp])):=by
  rw[bK,PT.get_set,aU rfl];cases cty<;>(simp only[aD,jv,hsp'];rfl)
 have hoth:∀n,n≠nm id->bB (s.h.set id (Z (.cells cty (splice l j [u])))) n=bB s.h n:=λn I=>by
  refine km c.invH hr λi e=>?_
  subst e;rw[PT.get_set,aL (λe=>I (by rw[e]))]
 have hdom:uf (bB s.h) (bB (s.h.set id (Z (.cells cty (splice l j [u]))))):=λn b F=>by
  by_cases e:n=nm id
  .subst e;exact⟨_,hold⟩
  .rw[hoth n e]at F;exact⟨b,F⟩
 have hcell:∀ty,cty=Z ty->∀x∈A,x.isCell=M:=λty hty x d=>by
  subst hty;obtain⟨k,hk⟩:=eR d;obtain⟨q,_,_,hat⟩:=c.rep.at_ _ _ hold;unfold VD at hat;obtain⟨ob,_,hob⟩:=hat;rw[show Vk (Z ty) A=⟨ty,.mx A⟩ from rfl,pw rfl]at hob;obtain⟨arr,_,hca⟩:=hob;exact (hca.2 k x hk).1
 have hV:Gr (bB s.h) (bB (s.h.set id (Z (.cells cty (splice l j [u]))))):=⟨hdom,λn b b' h1 h2=>by
  by_cases e:n=nm id
  .subst e;rw[hold]at h1;cases h1;rw[hnew]at h2;cases h2;have hle:gQ (bB s.h) (bB (s.h.set id (Z (.cells cty (splice l j [u]))))) A (splice A j [.emp]):=by
    have:=gQ.splice j (gQ.refl hdom A) (b:=[y]) (b':=[.emp]) ⟨(P3 hn hey).toH hdom,trivial⟩;rw[xK hy]at this;exact this
   cases cty with
   |none=>exact il.told hle
   |some ty=>
    refine il.cells rfl rfl hle λx d=>?_
    have d:x∈splice A j [.emp]:=d;unfold splice at d;rw[bN,bN,aI]at d;rcases d with (d|d)|d
    .exact hcell ty rfl x (fB d)
    .subst d;rfl
    .exact hcell ty rfl x (List.mem_of_mem_drop d)
  .rw[hoth n e,h1]at h2;cases h2;exact il.refl hdom b⟩
 refine ⟨⟨hV.rep c.rep,?_,c.dom,c.low,c.invH.set hr (c.invH.low id _ hb) (cB _) (λty l2 he=>?_),?_,c.inert,c.size⟩,⟨Gu.refl _ _,λk _ ho=>hdom.own ho,λ_ _=>rfl⟩⟩
 .intro t x d;simp only[fh]at d;cases he:s.e.get t with
  |none=>rw[he]at d;cases d
  |some q=>
   rw[he]at d;obtain⟨z,L⟩:=oX s.h q (c.invE t q he);simp only[aD,fA hr q z L,af]at d;subst d;exact (c.env t _ (by simp only[fh,he,aD,L])).dom hdom
 .simp only[hX.cells.injEq]at he;obtain⟨_,rfl⟩:=he;refine iP hr _ ?_;unfold splice;exact xQ (xQ (LB _ hlo) (by simp only[kO,huo,jx])) (LC _ hlo)
 .intro t x d;exact mJ hr x (c.invE t x d)
theorem oB.congr {φ:PM} {s s':TS} {a:Act} {w:World} (c:oB P E nt np φ s a w) (he:∀t,s'.e.get t=s.e.get t) (hh:∀i,s'.h.get i=s.h.get i) (hn:s'.nx=s.nx):oB P E nt np φ s' a w/\bB s'.h=bB s.h:=by
 have hr:b6 s.h s'.h:=λi r hi=>by rw[bP]at hi ⊢;rw[hh];exact hi
 have q:bB s'.h=bB s.h:=by funext n;exact km c.invH hr λi _=>hh i
 refine ⟨⟨by rw[q];exact c.rep,?_,by rw[hn];exact c.dom,by rw[hn];exact c.low,⟨λi ty l hg=>?_,λi b hg=>?_⟩,λt v hv=>?_,c.inert,c.size⟩,q⟩
 .intro t x d;rw[q];simp only[fh,he]at d;cases hg:s.e.get t with
  |none=>rw[hg]at d;cases d
  |some v=>
   rw[hg]at d;obtain⟨z,A⟩:=oX s.h v (c.invE t v hg);simp only[aD,fA hr v z A,af]at d;subst d;exact c.env t _ (by simp only[fh,hg,aD,A])
 .rw[hh]at hg;exact iP hr l (c.invH.cells i _ l hg)
 .rw[hh]at hg;rw[hn];exact c.invH.low i b hg
 .rw[he]at hv;exact mJ hr v (c.invE t v hv)
theorem OF {R:Type} {v:Int} {f:Nat->J R} {r:R}:∀{m i:Nat},spl v f i m=Z r->∃j,v=aT j/\f j=Z r
 |0,i,h=>by cases h
 |m+1,i,h=>by
  simp only[spl]at h;rcases lO h with ⟨h1,h2⟩|⟨_,h2⟩
  .exact⟨i,ba h1,h2⟩
  .exact OF h2
theorem Ya {φ:PM} {s s':TS} {a:Act} {w:World} (c:oB P E nt np φ s a w) {k off:Nat} {kd:IntKind} {v:Int} (h1:YH s k off=Z (kd,v)) (h2:R9 s k off kd v=Z s'):oB P E nt np φ s' a w/\bB s'.h=bB s.h/\∀t,s'.e.get t=s.e.get t:=by
 unfold YH at h1;unfold R9 at h2;cases hk:s.e.get k with
 |none=>rw[hk]at h1;cases h1
 |some x=>
  rw[hk]at h1 h2;cases x with
  |f T q=>
   cases T with
   |int kd'=>
    simp only[af,aC]at h1;obtain⟨rfl,rfl⟩:=h1;simp only[af]at h2;subst h2;have he:∀t,(s.e.set k (Z (.f (.int kd') q))).get t=s.e.get t:=λt=>by
     rw[PT.get_set];split
     .rename_i e;subst e;exact hk.symm
     .rfl
    obtain⟨A,z⟩:=c.congr (s':=⟨s.e.set k (Z (.f (.int kd') q)),s.h,s.nx⟩) he (λ_=>rfl) rfl;exact⟨A,z,he⟩
   |_=>cases h1
  |ptr a0 d=>
   simp only[]at h1 h2;cases hb:s.h.get a0 with
   |none=>rw[hb]at h1;cases h1
   |some b=>
    rw[hb]at h1 h2;cases b with
    |cells ty l=>
     cases ty with
     |none=>cases h1
     |some ty=>
     simp only[]at h1 h2;cases hl:l[d+off]? with
     |none=>rw[hl]at h1;cases h1
     |some y=>
      rw[hl]at h1;cases y with
      |f T q=>
       cases T with
       |int kd'=>
        simp only[af,aC]at h1;obtain⟨rfl,rfl⟩:=h1;simp only[af]at h2;subst h2;have hh:∀i,(s.h.set a0 (Z (.cells (Z ty) (splice l (d+off) [.f (.int kd') q])))).get i=s.h.get i:=λi=>by
         rw[PT.get_set];split
         .rename_i e;subst e;rw[hb,xK hl]
         .rfl
        obtain⟨A,z⟩:=c.congr (s':=⟨s.e,s.h.set a0 (Z (.cells (Z ty) (splice l (d+off) [.f (.int kd') q]))),s.nx⟩) (λ_=>rfl) hh rfl;exact⟨A,z,λ_=>rfl⟩
       |_=>cases h1
      |_=>cases h1
    |_=>cases h1
  |_=>cases h1
mutual
theorem Ls (id sz n:Nat):∀v:TV,tG v=M->Kb id sz n v=v
 |.f _ _,_=>rfl
 |.fel _ _ _ _ _,_=>rfl
 |.emp,_=>rfl
 |.nil,_=>rfl
 |.undef,_=>rfl
 |.np,_=>rfl
 |.anyb,_=>rfl
 |.agg l,h=>by simp only[Kb];rw[Au id sz n l h]
 |.tup l,h=>by simp only[Kb];rw[Au id sz n l h]
 |.pel _ _ _ _,h=>by cases h
 |.ptr _ _,h=>by cases h
 |.csl _ _ _,h=>by cases h
 |.row _,h=>by cases h
 |.rtl _ _,h=>by cases h
 |.mp _,h=>by cases h
 |.ful _ _,h=>by cases h
 |.clo _ _,h=>by cases h
theorem Au (id sz n:Nat):∀l:Y TV,qd l=M->Br id sz n l=l
 |[],_=>rfl
 |x::r,h=>by
  simp only[qd,ak]at h;simp only[Br];rw[Ls id sz n x h.1,Au id sz n r h.2]
end
section subs
variable {id sz n:Nat} {h h':bl}
mutual
theorem MM (hr:b6 h h') (hid:eh h' id=Z (aa,sz,n)):∀(v:TV) (y:AV),b9 h v=Z y->b9 h' (Kb id sz n v)=Z y
 |.csl i s m,y,he=>by
  simp only[b9,af]at he;subst he;simp only[Kb];split
  .rename_i hq;simp only[ak]at hq;have e1:=au hq.1.1;have e2:=au hq.1.2;have e3:=au hq.2;subst e1;subst e2;subst e3;simp only[b9,hid,eZ,jS,bG,dq]
  .rfl
 |.agg l,y,he=>by
  simp only[b9]at he;cases hl:cz h l with
  |none=>rw[hl]at he;cases he
  |some l'=>rw[hl]at he;simp only[Kb,b9,uY hr hid l l' hl];exact he
 |.tup l,y,he=>by
  simp only[b9]at he;cases hl:cz h l with
  |none=>rw[hl]at he;cases he
  |some l'=>rw[hl]at he;simp only[Kb,b9,uY hr hid l l' hl];exact he
 |.clo g l,y,he=>by
  simp only[b9]at he;cases hl:cz h l with
  |none=>rw[hl]at he;cases he
  |some l'=>rw[hl]at he;simp only[Kb,b9,uY hr hid l l' hl];exact he
 |.f T v,y,he=>fA hr _ _ he
 |.fel T xs j hj off,y,he=>fA hr _ _ he
 |.pel _ _ _ _,y,he=>fA hr _ _ he
 |.ptr _ _,y,he=>fA hr _ _ he
 |.row _,y,he=>fA hr _ _ he
 |.rtl _ _,y,he=>fA hr _ _ he
 |.emp,y,he=>fA hr _ _ he
 |.nil,y,he=>fA hr _ _ he
 |.mp _,y,he=>fA hr _ _ he
 |.undef,y,he=>fA hr _ _ he
 |.np,y,he=>fA hr _ _ he
 |.anyb,y,he=>fA hr _ _ he
 |.ful _ _,y,he=>fA hr _ _ he
theorem uY (hr:b6 h h') (hid:eh h' id=Z (aa,sz,n)):∀(l:Y TV) (l':Y AV),cz h l=Z l'->cz h' (Br id sz n l)=Z l'
 |[],l',he=>by simp only[cz,af]at he;subst he;rfl
 |x::r,l',he=>by
  obtain⟨y,l2,rfl,h1,h2⟩:=cU he;simp only[Br];exact oU (MM hr hid x y h1) (uY hr hid r l2 h2)
end
end subs
theorem ahp {φ:PM} {s:TS} {a:Act} {w:World} (c:oB P E nt np φ s a w) {T:Ty} {id sz n:Nat} {s':TS} (hp:pkS s T id sz n=Z s'):oB P E nt np φ s' a w/\Bd np φ φ (bB s.h) (bB s'.h) w w/\fO 0 s.e s'.e:=by
 unfold pkS at hp;split at hp
 .rename_i ty l hb;split at hp
  .rename_i hs;have hs:=au hs;subst hs;split at hp
   .rename_i xs m hpk;split at hp
    .cases hp
    .rename_i hmid;simp only[af]at hp;subst hp;have hm:dK s.h m:=MS n l xs m hpk;obtain⟨l',hl⟩:=eT s.h l (c.invH.cells id _ l hb);have hidlt:=c.invH.low id _ hb;have nM:∀i,((PT.updI (λ_ b=>VH id T.size n b) 1 0 (d9 m s.h)).set id (Z (.rows ty aa T xs))).get i=if i=id then Z (.rows ty aa T xs) else if aO m i then (s.h.get i).map ut else (s.h.get i).map (VH id T.size n):=λi=>by
      rw[PT.get_set];by_cases e:i=id
      .rw[aU e,aU e]
      .rw[aL e,aL e,PT.get_updI,iR];split
       .cases hg:s.h.get i with
        |none=>rfl
        |some b=>cases b<;>rfl
       .rfl
     generalize hH2:((PT.updI (λ_ b=>VH id T.size n b) 1 0 (d9 m s.h)).set id (Z (.rows ty aa T xs)))=h2 at nM ⊢;have hr:b6 s.h h2:=λi r hi=>by
      rw[bP]at hi ⊢;rw[nM];by_cases e:i=id
      .subst e;rw[hb]at hi;cases hi
      .rw[aL e];cases hg:s.h.get i with
       |none=>rw[hg]at hi;cases hi
       |some b=>
        rw[hg]at hi;split
        .exact Lx hi
        .cases b<;>first|exact hi|cases hi
     have hnone:∀i,aO m i=M->bB h2 (nm i)=U:=λi hi=>by
      have e:i≠id:=λe=>by subst e;exact hmid hi
      obtain⟨ty',p',T',xs',d⟩:=hm i hi;rw[bK,nM,aL e,aU hi,d];rfl
     have hdom:uf (bB s.h) (bB h2):=λq b hq=>by
      obtain⟨i,cc,rfl,h3,h4⟩:=ju hq;rw[bK];rw[nM]at h3;by_cases e:i=id
      .subst e;rw[hb];simp only[aD,jv,hl];exact⟨_,rfl⟩
      .rw[aL e]at h3;cases hg:s.h.get i with
       |none=>rw[hg]at h3;split at h3<;>cases h3
       |some b0=>
        rw[hg]at h3;split at h3
        .simp only[bU,af]at h3;subst h3;cases b0<;>simp[ut,jv]at h4
        .simp only[bU,af]at h3;subst h3;simp only[aD];cases b0 with
         |cells ty0 l0=>
          obtain⟨L,D⟩:=eT s.h l0 (c.invH.cells i _ l0 hg);exact⟨Vk ty0 L,by cases ty0<;>(simp only[jv,D];rfl)⟩
         |rows=>exact⟨_,h4⟩
         |dead=>exact⟨_,h4⟩
         |mp=>exact⟨_,h4⟩
     have giv:C7 s.h (bB s.h) (bB h2) m:=λi hi=>⟨rfl,hnone i hi⟩
     obtain⟨hle,hlen⟩:=BG hdom n l xs m l' hpk hl giv;have hrow:eh h2 id=Z (aa,T.size,n):=by rw[bP,nM,aU rfl,<-hlen];rfl
     have hV:Gr (bB s.h) (bB h2):=⟨hdom,λq b b' h3 h4=>by
      obtain⟨i,cc,rfl,I,h6⟩:=ju h4;rw[bK]at h3;rw[nM]at I;by_cases e:i=id
      .subst e;rw[aU rfl]at I;cases I;rw[hb]at h3;simp only[aD,jv,hl,af]at h3;subst h3;simp only[jv,jS,bG,dq,af]at h6;subst h6;refine il.cells rfl rfl hle λx d=>?_
       simp only[BC.toMx]at d;obtain⟨q,hq,rfl⟩:=cX.1 d;exact rc T _ q hq
      .rw[aL e]at I;cases hg:s.h.get i with
       |none=>rw[hg]at I;split at I<;>cases I
       |some b0=>
        rw[hg]at I h3;split at I
        .simp only[bU,af]at I;subst I;cases b0<;>simp[ut,jv]at h6
        .simp only[bU,af]at I;subst I;have:b=b':=by
          simp only[aD]at h3;cases b0 with
          |cells ty0 l0=>
           obtain⟨L,D⟩:=eT s.h l0 (c.invH.cells i _ l0 hg);cases ty0<;>
            (simp only[jv,D,af]at h3
             simp only[VH,jv,uY hr hrow l0 L D,af]at h6;rw[<- h3,<-h6])
          |rows ty1 p1 T1 xs1=>
           have h3':jv h2 (.rows ty1 p1 T1 xs1)=Z b:=h3;exact jV (h3'.symm.trans h6)
          |dead p1 s1 n1=>
           have h3':jv h2 (.dead p1 s1 n1)=Z b:=h3;exact jV (h3'.symm.trans h6)
          |mp K1 V1 es1=>
           have h3':jv h2 (.mp K1 V1 es1)=Z b:=h3;exact jV (h3'.symm.trans h6)
         subst this;exact il.refl hdom b⟩
     refine ⟨⟨hV.rep c.rep,?_,c.dom,c.low,⟨λi ty' l2 hg=>?_,λi b hg=>?_⟩,?_,c.inert,c.size⟩,⟨Gu.refl _ _,λk _ hk=>hdom.own hk,λ_ _=>rfl⟩,?_⟩
     .intro t x d;simp only[fh,PT.get_updI]at d;cases he:s.e.get t with
      |none=>rw[he]at d;cases d
      |some v=>
       rw[he]at d;obtain⟨z,hz⟩:=oX s.h v (c.invE t v he);simp only[bU,aD,MM hr hrow v z hz,af]at d;subst d;exact (c.env t _ (by simp only[fh,he,aD,hz])).dom hdom
     .rw[nM]at hg;by_cases e:i=id
      .rw[aU e]at hg;cases hg
      .rw[aL e]at hg;cases F:s.h.get i with
       |none=>rw[F]at hg;split at hg<;>cases hg
       |some b0=>
        rw[F]at hg;split at hg
        .simp only[bU,af]at hg;cases b0<;>simp[ut]at hg
        .simp only[bU,af]at hg;cases b0 with
         |cells ty0 l0=>
          simp only[VH,hX.cells.injEq]at hg;obtain⟨_,rfl⟩:=hg;obtain⟨L,D⟩:=eT s.h l0 (c.invH.cells i _ l0 F);exact jU _ _ _ (uY hr hrow l0 L D)
         |_=>cases hg
     .rw[nM]at hg;by_cases e:i=id
      .subst e;exact hidlt
      .rw[aL e]at hg;cases F:s.h.get i with
       |none=>rw[F]at hg;split at hg<;>cases hg
       |some b0=>exact c.invH.low i b0 F
     .intro t x d;simp only[PT.get_updI]at d;cases he:s.e.get t with
      |none=>rw[he]at d;cases d
      |some v=>
       rw[he]at d;simp only[bU,af]at d;subst d;obtain⟨z,hz⟩:=oX s.h v (c.invE t v he);exact DQ _ _ _ (MM hr hrow v z hz)
     .intro k _ v' A;simp only[PT.get_updI]at A;cases he:s.e.get k with
      |none=>rw[he]at A;cases A
      |some v=>
       rw[he]at A;simp only[bU,af]at A;subst A;exact⟨v,rfl,λhf=>Ls _ _ _ v hf⟩
   .cases hp
  .cases hp
 .cases hp
theorem ahk {φ:PM} {s:TS} {a:Act} {w:World} (c:oB P E nt np φ s a w) {k off:Nat} {s':TS} (h:Lc s (.ren k off)=Z s'):∃φ',oB P E nt np φ' s' a w/\Bd np φ φ' (bB s.h) (bB s'.h) w w/\fO (mh [.ren k off] 0) s.e s'.e:=by
 simp only[Lc]at h;split at h
 .rename_i b o hk;split at h
  .rename_i cty l hb;split at h
   .rename_i id hv;split at h
    .rename_i ty p T xs A;simp only[af]at h;subst h;have hfr:=c.invH.fresh;have hidlt:=c.invH.low id _ A;have hblt:=c.invH.low b _ hb;have hbid:b≠id:=λe=>by rw[e,A]at hb;cases hb
     have hbn:b≠s.nx:=by omega
     have hin:id≠s.nx:=by omega
     generalize hh2:(((s.h.set id (Z (.dead p T.size xs.length))).set s.nx (Z (.rows ty p T xs))).set b (Z (.cells (Z cty) (splice l (o+off) [.row s.nx]))))=h2;have nM:∀i,h2.get i=if i=b then Z (.cells (Z cty) (splice l (o+off) [.row s.nx])) else if i=s.nx then Z (.rows ty p T xs) else if i=id then Z (.dead p T.size xs.length) else s.h.get i:=λi=>by
      rw[<- hh2,PT.get_set,PT.get_set,PT.get_set]
     have hr:b6 s.h h2:=λi r hi=>by
      rw[bP]at hi ⊢;rw[nM];by_cases e1:i=b
      .subst e1;rw[hb]at hi;cases hi
      .rw[aL e1];by_cases e2:i=s.nx
       .subst e2;rw[hfr]at hi;cases hi
       .rw[aL e2];by_cases e3:i=id
        .subst e3;rw[aU rfl];rw[A]at hi;exact hi
        .rw[aL e3];exact hi
     have hlo:=c.invH.cells b _ l hb;obtain⟨I,hl'⟩:=eT s.h l hlo;have hrow:b9 h2 (.row s.nx)=Z (eZ p s.nx T.size xs.length):=by
      simp only[b9,bP,nM];rw[aL hbn.symm];simp only[bE,aD,mE]
     have hsp:cz h2 (splice l (o+off) [.row s.nx])=Z (splice I (o+off) [eZ p s.nx T.size xs.length]):=pA _ (fR hr _ _ hl') (by simp only[cz,hrow]);obtain⟨y,hy,hey⟩:=kY hl' _ _ hv;have hy0:y=eZ p id T.size xs.length:=by
      simp only[b9,bP,A,aD,mE,af]at hey;exact hey.symm
     subst hy0;have hold:bB s.h (nm b)=Z ⟨cty,.mx I⟩:=by rw[bK,hb];simp only[aD,jv,hl']
     have hnew:bB h2 (nm b)=Z ⟨cty,.mx (splice I (o+off) [eZ p s.nx T.size xs.length])⟩:=by
      rw[bK,nM,aU rfl];simp only[aD,jv,hsp]
     have hdead:bB h2 (nm id)=U:=by rw[bK,nM,aL hbid.symm,aL hin,aU rfl];rfl
     have hnx2:bB h2 (nm s.nx)=if p&&xs.length==0 then U else Z ⟨ty,.fz (xs.flatMap (bO T))⟩:=by rw[bK,nM,aL hbn.symm,aU rfl];rfl
     have hid0:bB s.h (nm id)=if p&&xs.length==0 then U else Z ⟨ty,.fz (xs.flatMap (bO T))⟩:=by rw[bK,A];rfl
     have hoth:∀n,n≠nm b->n≠nm s.nx->n≠nm id->bB h2 n=bB s.h n:=λn e1 e2 e3=>km c.invH hr λi e=>by
      subst e;rw[nM,aL (λe=>e1 (by rw[e])),aL (λe=>e2 (by rw[e])),aL (λe=>e3 (by rw[e]))]
     have hnb:nm b≠nm s.nx:=λe=>hbn (kP e)
     have hbi:nm b≠nm id:=λe=>hbid (kP e)
     have hni:nm s.nx≠nm id:=λe=>hin (kP e).symm
     have hinv:l_ h2 (s.nx+1):=by
      refine ⟨λi ty2 l2 hil=>?_,λi q hiq=>?_⟩
      .rw[nM]at hil;split at hil
       .simp only[af,hX.cells.injEq]at hil;obtain⟨_,rfl⟩:=hil;exact jU _ _ _ hsp
       .split at hil
        .cases hil
        .split at hil
         .cases hil
         .exact iP hr l2 (c.invH.cells i _ l2 hil)
      .rw[nM]at hiq;split at hiq
       .omega
       .split at hiq
        .omega
        .split at hiq
         .omega
         .have:=c.invH.low i q hiq;omega
     have hE:∀t x,fh s.e h2 t=Z x->fh s.e s.h t=Z x:=λt x d=>by
      simp only[fh]at d ⊢;cases he:s.e.get t with
      |none=>rw[he]at d;cases d
      |some q=>
       rw[he]at d;obtain⟨z,hz⟩:=oX s.h q (c.invE t q he);simp only[aD,fA hr q z hz,af]at d;subst d;simp only[aD,hz]
     by_cases hp:(p&&xs.length==0)=M
     ·
      have F:bB h2=bB s.h:=by
       funext n;by_cases e1:n=nm b
       .subst e1;rw[hold,hnew];have:eZ p s.nx T.size xs.length=eZ p id T.size xs.length:=by unfold eZ;rw[aU hp,aU hp]
        rw[this,xK hy]
       .by_cases e2:n=nm s.nx
        .subst e2;rw[hnx2,aU hp,bK,hfr];rfl
        .by_cases e3:n=nm id
         .subst e3;rw[hdead,hid0,aU hp]
         .exact hoth n e1 e2 e3
      refine ⟨φ,⟨by rw[F];exact c.rep,λt x d=>by rw[F];exact c.env t x (hE t x d),λn q hq=>yU (c.dom n q hq),iq c.low,hinv,λt x d=>mJ hr x (c.invE t x d),c.inert,c.size⟩,by rw[F];exact Bd.refl _ _ _ _,fO.refl _ _⟩
     .have hid1:bB s.h (nm id)=Z ⟨ty,.fz (xs.flatMap (bO T))⟩:=by rw[hid0,aL hp]
      obtain⟨kk,k1,k2,ob,k3,k4⟩:=c.rep.at_ _ _ hid1;have hφn:φ (nm s.nx)=U:=by
       cases hq:φ (nm s.nx) with
       |none=>rfl
       |some q=>have:=c.dom _ q hq;rw[dQ]at this;omega
      let nw:HF:=λn=>if n=nm s.nx then Z ⟨ty,.fz (xs.flatMap (bO T))⟩ else U
      have hsh:Ed w w kk ob:=⟨rfl,rfl,rfl,rfl,k3,λ_ _=>rfl,λ_=>rfl⟩
      obtain⟨φ',p1,p2,p3,p4⟩:=c.rep.wren hid1 k1 hφn hsh k4 nw (by simp[nw]) (by simp only[nw];rw[aL hni.symm]);have hb1:eE (bB s.h) [nm s.nx,nm id] nw (nm b)=Z ⟨cty,.mx I⟩:=by
       unfold eE;rw[aL (by simp[hnb,hbi]),hold]
      obtain⟨kb,b1,b2,ob2,b3,b4⟩:=p4.at_ _ _ hb1;have hlt:o+off<I.length:=by
       rcases bM (o+off) I.length with h'|h'
       .exact h'
       .rw[bJ h']at hy;cases hy
      have hob:iS φ' (tot E φ' (eE (bB s.h) [nm s.nx,nm id] nw)) w ⟨cty,.mx (splice I (o+off) [eZ p s.nx T.size xs.length])⟩ ob2:=by
       rw[pw rfl]at b4 ⊢;obtain⟨arr,a1,a2⟩:=b4;refine ⟨arr,a1,?_⟩;unfold uF at a2 ⊢;refine ⟨by simp only[BC.len]at a2 ⊢;rw[oc (by simp;omega)];exact a2.1,λj x d=>?_⟩;simp only[BC.get]at d a2;rw[mG (by simp;omega)]at d;split at d
       .exact a2.2 j x d
       .split at d
        .rename_i h3 h4;simp only[cP]at h4;have hj:j=o+off:=by omega
         subst hj;simp only[yT,lA,af]at d;subst d;obtain⟨_,v,a3,a4⟩:=a2.2 _ _ hy;unfold eZ at a4 ⊢;rw[aL hp]at a4 ⊢;refine ⟨rfl,v,a3,?_⟩;cases a4 with
         |@row _ _ _ cc q hφq hn hc hs2=>
          have:=p2.sub _ _ k1;rw[this,af]at hφq;subst hφq;exact .row p1 hn hc hs2
        .exact a2.2 j x d
      obtain⟨q1,q2⟩:=p4.wset hb1 b1 (⟨rfl,rfl,rfl,rfl,b3,λ_ _=>rfl,λ_=>rfl⟩:Ed w w kb ob2) hob (λn=>if n=nm b then Z ⟨cty,.mx (splice I (o+off) [eZ p s.nx T.size xs.length])⟩ else U) (by simp);have F:eE (eE (bB s.h) [nm s.nx,nm id] nw) [nm b] (λn=>if n=nm b then Z ⟨cty,.mx (splice I (o+off) [eZ p s.nx T.size xs.length])⟩ else U)=bB h2:=by
       funext n;by_cases e1:n=nm b
       .subst e1;rw[hnew];simp[eE]
       .by_cases e2:n=nm s.nx
        .subst e2;rw[hnx2,aL hp];simp[eE,nw,hnb.symm]
        .by_cases e3:n=nm id
         .subst e3;rw[hdead];simp[eE,nw,hbi.symm,hni.symm]
         .rw[hoth n e1 e2 e3];simp[eE,e1,e2,e3]
      rw[F]at q1 q2;have m:=p2.trans q1;refine ⟨φ',⟨q2,λt x d=>m.keep (c.env t x (hE t x d)),λn q hq=>?_,iq c.low,hinv,λt x d=>mJ hr x (c.invE t x d),c.inert,c.size⟩,⟨Gu.refl _ _,m.own_,λi hi=>?_⟩,fO.refl _ _⟩
      .rcases p3 n q hq with h4|h4
       .exact yU (c.dom n q h4)
       .simp only[aI]at h4;subst h4;rw[dQ];exact qw _
      .cases hq:φ' (nm i) with
       |none=>
        cases hq2:φ (nm i) with
        |none=>rfl
        |some z=>rw[p2.sub _ _ hq2]at hq;cases hq
       |some z=>
        rcases p3 _ _ hq with h4|h4
        .exact h4.symm
        .simp only[aI]at h4;have:=kP h4;have:=c.low;omega
    .cases h
   .cases h
  .cases h
 .rename_i id hk;split at h
  .rename_i ty p T xs A;simp only[af]at h;subst h;have hfr:=c.invH.fresh;have hidlt:=c.invH.low id _ A;have hin:id≠s.nx:=by omega
   generalize hh2:((s.h.set id (Z (.dead p T.size xs.length))).set s.nx (Z (.rows ty p T xs)))=h2;have nM:∀i,h2.get i=if i=s.nx then Z (.rows ty p T xs) else if i=id then Z (.dead p T.size xs.length) else s.h.get i:=λi=>by
    rw[<- hh2,PT.get_set,PT.get_set]
   have hr:b6 s.h h2:=λi r hi=>by
    rw[bP]at hi ⊢;rw[nM];by_cases e2:i=s.nx
    .subst e2;rw[hfr]at hi;cases hi
    .rw[aL e2];by_cases e3:i=id
     .subst e3;rw[aU rfl];rw[A]at hi;exact hi
     .rw[aL e3];exact hi
   have hrow:b9 h2 (.row s.nx)=Z (eZ p s.nx T.size xs.length):=by
    simp only[b9,bP,nM,bE,aD,mE]
   have hrow0:b9 s.h (.row id)=Z (eZ p id T.size xs.length):=by
    simp only[b9,bP,A,aD,mE]
   have hdead:bB h2 (nm id)=U:=by rw[bK,nM,aL hin,aU rfl];rfl
   have hnx2:bB h2 (nm s.nx)=if p&&xs.length==0 then U else Z ⟨ty,.fz (xs.flatMap (bO T))⟩:=by rw[bK,nM,aU rfl];rfl
   have hid0:bB s.h (nm id)=if p&&xs.length==0 then U else Z ⟨ty,.fz (xs.flatMap (bO T))⟩:=by rw[bK,A];rfl
   have hoth:∀n,n≠nm s.nx->n≠nm id->bB h2 n=bB s.h n:=λn e2 e3=>km c.invH hr λi e=>by
    subst e;rw[nM,aL (λe=>e2 (by rw[e])),aL (λe=>e3 (by rw[e]))]
   have hni:nm s.nx≠nm id:=λe=>hin (kP e).symm
   have hinv:l_ h2 (s.nx+1):=by
    refine ⟨λi ty2 l2 hil=>?_,λi q hiq=>?_⟩
    .rw[nM]at hil;split at hil
     .cases hil
     .split at hil
      .cases hil
      .exact iP hr l2 (c.invH.cells i _ l2 hil)
    .rw[nM]at hiq;split at hiq
     .omega
     .split at hiq
      .omega
      .have:=c.invH.low i q hiq;omega
   have hE:∀t x,t≠k->fh (s.e.set k (Z (.row s.nx))) h2 t=Z x->fh s.e s.h t=Z x:=λt x ht d=>by
    simp only[fh,PT.get_set]at d ⊢;rw[aL ht]at d;cases he:s.e.get t with
    |none=>rw[he]at d;cases d
    |some q=>
     rw[he]at d;obtain⟨z,hz⟩:=oX s.h q (c.invE t q he);simp only[aD,fA hr q z hz,af]at d;subst d;simp only[aD,hz]
   have hIE:sU (s.e.set k (Z (.row s.nx))) h2:=λt x d=>by
    simp only[PT.get_set]at d;split at d
    .cases d;exact DQ _ _ _ hrow
    .exact mJ hr x (c.invE t x d)
   have hKp:fO (mh [.ren k off] 0) s.e (s.e.set k (Z (.row s.nx))):=λt ht v' L=>by
    simp only[PT.get_set]at L;split at L
    .rename_i et;subst et;simp only[mh]at ht;rw[bw,bV.2 rfl]at ht;simp at ht
    .exact⟨v',L,λ_=>rfl⟩
   have D:=c.env k (eZ p id T.size xs.length) (by simp only[fh,hk,aD,hrow0]);by_cases hp:(p&&xs.length==0)=M
   .have F:bB h2=bB s.h:=by
     funext n;by_cases e2:n=nm s.nx
     .subst e2;rw[hnx2,aU hp,bK,hfr];rfl
     .by_cases e3:n=nm id
      .subst e3;rw[hdead,hid0,aU hp]
      .exact hoth n e2 e3
    have hsame:eZ p s.nx T.size xs.length=eZ p id T.size xs.length:=by unfold eZ;rw[aU hp,aU hp]
    refine ⟨φ,⟨by rw[F];exact c.rep,λt x d=>?_,λn q hq=>yU (c.dom n q hq),iq c.low,hinv,hIE,c.inert,c.size⟩,by rw[F];exact Bd.refl _ _ _ _,hKp⟩;rw[F];by_cases ht:t=k
    .subst ht;simp only[fh,PT.get_set,bE,aD,hrow,af]at d;subst d;rw[hsame];exact D
    .exact c.env t x (hE t x ht d)
   .have hid1:bB s.h (nm id)=Z ⟨ty,.fz (xs.flatMap (bO T))⟩:=by rw[hid0,aL hp]
    obtain⟨kk,k1,k2,ob,k3,k4⟩:=c.rep.at_ _ _ hid1;have hφn:φ (nm s.nx)=U:=by
     cases hq:φ (nm s.nx) with
     |none=>rfl
     |some q=>have:=c.dom _ q hq;rw[dQ]at this;omega
    let nw:HF:=λn=>if n=nm s.nx then Z ⟨ty,.fz (xs.flatMap (bO T))⟩ else U
    have hsh:Ed w w kk ob:=⟨rfl,rfl,rfl,rfl,k3,λ_ _=>rfl,λ_=>rfl⟩
    obtain⟨φ',p1,p2,p3,p4⟩:=c.rep.wren hid1 k1 hφn hsh k4 nw (by simp[nw]) (by simp only[nw];rw[aL hni.symm]);have F:eE (bB s.h) [nm s.nx,nm id] nw=bB h2:=by
     funext n;by_cases e2:n=nm s.nx
     .subst e2;rw[hnx2,aL hp];simp[eE,nw]
     .by_cases e3:n=nm id
      .subst e3;rw[hdead];simp[eE,nw,hni.symm]
      .rw[hoth n e2 e3];simp[eE,e2,e3]
    rw[F]at p2 p4;refine ⟨φ',⟨p4,λt x d=>?_,λn q hq=>?_,iq c.low,hinv,hIE,c.inert,c.size⟩,⟨Gu.refl _ _,p2.own_,λi hi=>?_⟩,hKp⟩
    .by_cases ht:t=k
     .subst ht;simp only[fh,PT.get_set,bE,aD,hrow,af]at d;subst d;unfold eZ at D ⊢;rw[aL hp]at D ⊢;generalize a.tmps.getD t undef=z at D;cases D with
      |@row _ _ _ cc q hφq hn hc hs2=>
       rw[k1,af]at hφq;subst hφq;exact .row p1 hn hc hs2
     .exact p2.keep (c.env t x (hE t x ht d))
    .rcases p3 n q hq with h4|h4
     .exact yU (c.dom n q h4)
     .simp only[aI]at h4;subst h4;rw[dQ];exact qw _
    .cases hq:φ' (nm i) with
     |none=>
      cases hq2:φ (nm i) with
      |none=>rfl
      |some z=>rw[p2.sub _ _ hq2]at hq;cases hq
     |some z=>
      rcases p3 _ _ hq with h4|h4
      .exact h4.symm
      .simp only[aI]at h4;have:=kP h4;have:=c.low;omega
  .cases h
 .cases h
theorem afb {φ:PM} {s:TS} {a:Act} {w:World} (c:oB P E nt np φ s a w) {ad:Adj} {s':TS} (h:Lc s ad=Z s') (hnr:∀k off,ad≠ .ren k off):oB P E nt np φ s' a w/\Bd np φ φ (bB s.h) (bB s'.h) w w/\fO (mh [ad] 0) s.e s'.e:=by
 cases ad with
 |ren k off=>exact dP rfl (hnr k off)
 |nil k ty T=>
  simp only[Lc]at h;split at h
  .rename_i v hv;split at h
   .rename_i hn;simp only[af]at h;subst h;obtain⟨A,F,hr⟩:=Vs c ty T;refine ⟨⟨A.rep,?_,A.dom,A.low,A.invH,?_,A.inert,A.size⟩,by rw[F];exact Bd.refl _ _ _ _,?_⟩
    .intro t x d;simp only[fh,PT.get_set]at d;split at d
     .rename_i et;subst et;simp only[aD,b9,bP,PT.get_set,bE,mE,eZ,jW,cN,jx,af]at d;subst d;obtain⟨z,D⟩:=oX s.h v (c.invE _ v hv);rw[F];exact P3 hn D _ _ _ _ (c.env _ _ (by simp only[fh,hv,aD,D]))
     .exact A.env t x d
    .intro t x d;simp only[PT.get_set]at d;split at d
     .cases d;simp only[Km,bP,PT.get_set,bE];rfl
     .exact A.invE t x d
    .intro t ht v' I;simp only[PT.get_set]at I;split at I
     .rename_i et;subst et;simp only[mh]at ht;rw[bw,bV.2 rfl]at ht;simp at ht
     .exact⟨v',I,λ_=>rfl⟩
   .simp only[af]at h;subst h;exact⟨c,Bd.refl _ _ _ _,fO.refl _ _⟩
  .cases h
 |cel k off ty T=>
  simp only[Lc]at h;split at h
  .rename_i id o hk;split at h
   .rename_i cty l hb;split at h
    .rename_i v hv;split at h
     .rename_i hn;simp only[af]at h;subst h;obtain⟨A,F,hr⟩:=Vs c ty T;have hid:id≠s.nx:=λe=>by have:=c.invH.low id _ hb;omega
      obtain⟨c2,t2⟩:=ZF A (id:=id) (cty:=cty) (l:=l) (v:=v) (u:=.row s.nx) (by show (s.h.set s.nx _).get id=_;rw[PT.get_set,aL hid];exact hb) hv hn (by simp only[b9,bP,PT.get_set,bE,aD,mE,eZ,jW,cN,jx]) (by simp only[Km,bP,PT.get_set,bE];rfl);exact⟨c2,by rw[<- F];exact t2,fO.refl _ _⟩
     .simp only[af]at h;subst h;exact⟨c,Bd.refl _ _ _ _,fO.refl _ _⟩
    .cases h
   .cases h
  .cases h
 |mpt k K V=>
  simp only[Lc]at h;split at h
  .rename_i id hk;split at h
   .rename_i K' V' es hb;split at h
    .rename_i L;simp only[af]at h;subst h;have hr:b6 s.h (s.h.set id (Z (.mp K V []))):=b6.set λr hr=>by rw[bP,hb]at hr;cases hr
     have F:bB (s.h.set id (Z (.mp K V [])))=bB s.h:=by
      funext n;by_cases hn:n=nm id
      .subst hn;rw[bK,bK,PT.get_set,aU rfl,hb];simp only[aD,jv,xU (Yu (t7.1 L).1),xU (t7.1 L).2,M0 (t7.1 L).1,List.map_nil]
      .refine km c.invH hr λi e=>?_
       subst e;rw[PT.get_set,aL (λe=>hn (by rw[e]))]
     refine ⟨⟨by rw[F];exact c.rep,?_,c.dom,c.low,c.invH.set hr (c.invH.low id _ hb) (cB _) (λ_ _ he=>by cases he),λt x d=>mJ hr x (c.invE t x d),c.inert,c.size⟩,by rw[F];exact Bd.refl _ _ _ _,fO.refl _ _⟩;intro t x d;rw[F];simp only[fh]at d;cases he:s.e.get t with
     |none=>rw[he]at d;cases d
     |some q=>
      rw[he]at d;obtain⟨z,D⟩:=oX s.h q (c.invE t q he);simp only[aD,fA hr q z D,af]at d;subst d;exact c.env t _ (by simp only[fh,he,aD,D])
    .simp only[af]at h;subst h;exact⟨c,Bd.refl _ _ _ _,fO.refl _ _⟩
   .cases h
  .cases h
 |mz k n=>
  simp only[Lc]at h;split at h
  .rename_i id hk;split at h
   .rename_i K' V' es hb;split at h
    .rename_i L;simp only[af]at h;subst h;have hr:b6 s.h (s.h.set id (Z (.cells U (aA n .nil)))):=b6.set λr hr=>by rw[bP,hb]at hr;cases hr
     have hold:bB s.h (nm id)=Z ⟨0,.mp []⟩:=by rw[bK,hb];simp only[aD,jv,xU (Yu L),M0 L,List.map_nil]
     have hvs:∀(h:bl) m,cz h (aA m .nil)=Z (aA m (.f (.raw (.slice U 0 0)))):=λh m=>by
      induction m with
      |zero=>rfl
      |succ m ih=>rw[pJ,pJ];simp only[cz,b9,ih]
     have hnew:bB (s.h.set id (Z (.cells U (aA n .nil)))) (nm id)=Z ⟨1,.mp (oz 0 (aA n (.f (.raw (.slice U 0 0)))))⟩:=by
      rw[bK,PT.get_set,aU rfl];simp only[aD,jv,hvs]
     have hoth:∀q,q≠nm id->bB (s.h.set id (Z (.cells U (aA n .nil)))) q=bB s.h q:=λq hn'=>km c.invH hr λi e=>by
      subst e;rw[PT.get_set,aL (λe=>hn' (by rw[e]))]
     have hdom:uf (bB s.h) (bB (s.h.set id (Z (.cells U (aA n .nil))))):=λq b hb'=>by
      by_cases e:q=nm id
      .subst e;exact⟨_,hold⟩
      .rw[hoth q e]at hb';exact⟨b,hb'⟩
     have hV:Gr (bB s.h) (bB (s.h.set id (Z (.cells U (aA n .nil))))):=⟨hdom,λq b b' h1 h2=>by
      by_cases e:q=nm id
      .subst e;rw[hold]at h1;cases h1;rw[hnew]at h2;cases h2;exact il.lay n
      .rw[hoth q e,h1]at h2;cases h2;exact il.refl hdom b⟩
     refine ⟨⟨hV.rep c.rep,?_,c.dom,c.low,c.invH.set hr (c.invH.low id _ hb) (cB _) (λty l2 he=>?_),λt x d=>mJ hr x (c.invE t x d),c.inert,c.size⟩,⟨Gu.refl _ _,λk _ ho=>hdom.own ho,λ_ _=>rfl⟩,fO.refl _ _⟩
     .intro t x d;simp only[fh]at d;cases he:s.e.get t with
      |none=>rw[he]at d;cases d
      |some q=>
       rw[he]at d;obtain⟨z,D⟩:=oX s.h q (c.invE t q he);simp only[aD,fA hr q z D,af]at d;subst d;exact (c.env t _ (by simp only[fh,he,aD,D])).dom hdom
     .simp only[hX.cells.injEq]at he;obtain⟨_,rfl⟩:=he;exact jU _ _ _ (hvs _ n)
    .cases h
   .simp only[af]at h;subst h;exact⟨c,Bd.refl _ _ _ _,fO.refl _ _⟩
  .cases h
 |pk k off T=>
  simp only[Lc]at h;split at h
  .obtain⟨h1,h2,h3⟩:=ahp c h;exact⟨h1,h2,h3.mono λk hk=>by simp at hk⟩
  .cases h
theorem afa {φ:PM} {s:TS} {a:Act} {w:World} (c:oB P E nt np φ s a w) {d:Adj} {s':TS} (h:Lc s d=Z s'):∃φ',oB P E nt np φ' s' a w/\Bd np φ φ' (bB s.h) (bB s'.h) w w/\fO (mh [d] 0) s.e s'.e:=by
 by_cases hn:∃k off,d= .ren k off
 .obtain⟨k,off,rfl⟩:=hn;exact ahk c h
 .exact⟨φ,afb c h λk off e=>hn ⟨k,off,e⟩⟩
theorem Uh {φ:PM} {a:Act} {w:World}:∀{l:Y Adj} {s s':TS},oB P E nt np φ s a w->W2 s l=Z s'->∃φ',oB P E nt np φ' s' a w/\Bd np φ φ' (bB s.h) (bB s'.h) w w/\fO (mh l 0) s.e s'.e
 |[],s,s',c,h=>by simp only[W2,af]at h;subst h;exact⟨φ,c,Bd.refl _ _ _ _,fO.refl _ _⟩
 |d::r,s,s',c,h=>by
  simp only[W2]at h;split at h
  .rename_i s1 h1;obtain⟨φ1,D,t1,k1⟩:=afa c h1;obtain⟨φ2,A,z,k2⟩:=Uh D h;refine ⟨φ2,A,t1.trans z,(k1.mono ?_).trans (k2.mono ?_)⟩
   .intro k hk;cases d with
    |nil q ty T=>simp only[mh]at hk ⊢;rw[kZ,bw,hk];rfl
    |cel q off ty T=>simp[mh]at hk
    |mpt q K V=>simp[mh]at hk
    |mz q n=>simp[mh]at hk
    |pk q off T=>simp[mh]at hk
    |ren q off=>simp only[mh]at hk ⊢;rw[kZ,bw,hk];rfl
   .intro k hk;cases d with
    |nil q ty T=>simp only[mh];rw[kZ,bw,hk];simp
    |cel q off ty T=>simp only[mh];exact hk
    |mpt q K V=>simp only[mh];exact hk
    |mz q n=>simp only[mh];exact hk
    |pk q off T=>simp only[mh];exact hk
    |ren q off=>simp only[mh];rw[kZ,bw,hk];simp
  .cases h
mutual
theorem PR {h:bl}:∀(v:TV) (y:AV),tG v=M->b9 h v=Z y->y.all (λ_=>aa)=M
 |.f _ _,y,_,he=>by simp only[b9,af]at he;subst he;rfl
 |.fel _ _ _ _ _,y,_,he=>by simp only[b9,af]at he;subst he;rfl
 |.emp,y,_,he=>by simp only[b9,af]at he;subst he;rfl
 |.nil,y,_,he=>by simp only[b9,af]at he;subst he;rfl
 |.undef,y,_,he=>by simp only[b9,af]at he;subst he;rfl
 |.np,y,_,he=>by simp only[b9,af]at he;subst he;rfl
 |.anyb,y,_,he=>by simp only[b9,af]at he;subst he;rfl
 |.agg l,y,hl,he=>by
  simp only[b9]at he;split at he
  .rename_i l' hl';simp only[af]at he;subst he;exact DL l l' hl hl'
  .cases he
 |.tup l,y,hl,he=>by
  simp only[b9]at he;split at he
  .rename_i l' hl';simp only[af]at he;subst he;exact DL l l' hl hl'
  .cases he
 |.pel _ _ _ _,_,h,_=>by cases h
 |.ptr _ _,_,h,_=>by cases h
 |.csl _ _ _,_,h,_=>by cases h
 |.row _,_,h,_=>by cases h
 |.rtl _ _,_,h,_=>by cases h
 |.mp _,_,h,_=>by cases h
 |.ful _ _,_,h,_=>by cases h
 |.clo _ _,_,h,_=>by cases h
theorem DL {h:bl}:∀(l:Y TV) (l':Y AV),qd l=M->cz h l=Z l'->AV.allL (λ_=>aa) l'=M
 |[],l',_,he=>by simp only[cz,af]at he;subst he;rfl
 |x::r,l',hl,he=>by
  obtain⟨y,l2,rfl,e1,e2⟩:=cU he;simp only[qd,ak]at hl;simp only[AV.allL,ak];exact⟨PR x y hl.1 e1,DL r l2 hl.2 e2⟩
end
mutual
theorem U3 (h:bl):∀(v:TV),tG v=M->Km h v=M
 |.f _ _,_=>rfl
 |.fel _ _ _ _ _,_=>rfl
 |.emp,_=>rfl
 |.nil,_=>rfl
 |.undef,_=>rfl
 |.np,_=>rfl
 |.anyb,_=>rfl
 |.agg l,hl=>Im h l hl
 |.tup l,hl=>Im h l hl
 |.pel _ _ _ _,h=>by cases h
 |.ptr _ _,h=>by cases h
 |.csl _ _ _,h=>by cases h
 |.row _,h=>by cases h
 |.rtl _ _,h=>by cases h
 |.mp _,h=>by cases h
 |.ful _ _,h=>by cases h
 |.clo _ _,h=>by cases h
theorem Im (h:bl):∀(l:Y TV),qd l=M->kO h l=M
 |[],_=>rfl
 |x::r,hl=>by
  simp only[qd,ak]at hl;simp only[kO,ak];exact⟨U3 h x hl.1,Im h r hl.2⟩
end
structure Seen (np:Nat) (t:Tm) (x:t.ty.den) (us:List TV) (h1:bl) (φ φ':PM) (H:HF) (E:Nat->Prop) (w:World) (la lu:List AV):Prop where
 rep:qG φ' E (bB h1) w
 val:∀(j:Nat) y v,lu[j]? =Z y->∃z,la[j]? =Z z/\(cE φ (tot E φ H) w z v->cE φ' (tot E φ' (bB h1)) w y v)
 len:lu.length=la.length
 tot_:∀k,tot E φ' (bB h1) k->tot E φ H k
 own_:∀k,own φ' (bB h1) k->own φ H k
 dom:∀n k,φ' n=Z k->ow n<t.bs.length
 par:∀i,i<np->i<t.bs.length->φ' (nm i)=φ (nm i)
theorem Kg {t:Tm} {x:t.ty.den} {us:Y TV} {h1:bl} {l1:Y (J hX)} (I:qu t x us h1 l1) {h:bl} {nx:Nat} (hinv:l_ h nx) {vs:Y TV} {m:Nat} {σ:PT Nat} {sm:Nat} (g:G7 np t vs h x m σ sm) {la:Y AV} (hla:cz h vs=Z la) {φ:PM} {w:World} (r:qG φ E (bB h) w):∃φ' lu,cz h1 us=Z lu/\Seen np t x us h1 φ φ' (bB h) E w la lu:=by
 obtain⟨x1,m1,x2,m2,L,hmm,gv,gb⟩:=g.ex;have hmr:dK h m:=by rw[hmm];exact (GV _ _ _ _ gv).or (GY _ _ _ _ gb)
 have pvg:pO (gZ σ) t.vs x1=Z (kE (gZ σ) us):=by
  have h3:=sW (gZ σ) t.vs x1;have h4:=I.pv;rw[L,sQ]at h4;rw[h3,h4];rfl
 have pbg:oe (gZ σ) t.bs x2=Z (l1.map (lQ (lE (gZ σ)))):=by
  have h3:=u0 (gZ σ) t.bs x2;have h4:=I.pb;rw[L,ul]at h4;rw[h3,h4];rfl
 have hbm:∀i b,l1[i]? =Z (Z b)->∃b0,h.get (gZ σ i)=Z b0/\BM (gZ σ) h m b0 (lE (gZ σ) b):=λi b hb=>by
  obtain⟨b0,q1,q2⟩:=Ik t.bs 0 x2 m2 _ gb pbg i (lE (gZ σ) b) (by rw[bf,hb];rfl);rw[bL]at q1;exact⟨b0,q1,q2.mono λj hj=>by rw[hmm,bw,hj];simp⟩
 let hv:bl:=zC (gZ σ) 0 (l1.map (lQ (lE (gZ σ)))) PT.leaf
 have hv_at:∀i b,l1[i]? =Z (Z b)->hv.get (gZ σ i)=Z (lE (gZ σ) b):=λi b hb=>by
  have:=ur (gZ σ) (l1.map (lQ (lE (gZ σ)))) 0 PT.leaf (λa b s hb=>by
   simp only[co,I.len]at s hb;simp only[bL];exact g.inj a b s hb) i (Z (lE (gZ σ) b)) (by rw[bf,hb];rfl)
  rw[bL]at this;exact this
 have hv_ex:∀j c,hv.get j=Z c->∃i b,l1[i]? =Z (Z b)/\j=gZ σ i/\c=lE (gZ σ) b:=λj c hj=>by
  by_cases hex:∃i,i<l1.length/\j=gZ σ i
  .obtain⟨i,hi,rfl⟩:=hex;have hcc:=aw hi;cases hcv:l1[i] with
   |some b=>rw[hcv]at hcc;rw[hv_at i b hcc]at hj;cases hj;exact⟨i,b,hcc,rfl,rfl⟩
   |none=>
    rw[hcv]at hcc;have:=ur (gZ σ) (l1.map (lQ (lE (gZ σ)))) 0 PT.leaf (λa b s hb=>by
     simp only[co,I.len]at s hb;simp only[bL];exact g.inj a b s hb) i U (by rw[bf,hcc];rfl)
    rw[bL]at this;have d:(zC (gZ σ) 0 (l1.map (lQ (lE (gZ σ)))) PT.leaf).get (gZ σ i)=Z c:=hj;rw[this]at d;simp[PT.get]at d
  .have:hv.get j=(PT.leaf:bl).get j:=uq (gZ σ) _ 0 _ j λk hk=>by
    simp only[co]at hk;rw[bL];exact λe=>hex ⟨k,hk,e⟩
   rw[this]at hj;simp[PT.get]at hj
 have rows_in:wT hv h:=λj q hq=>by
  rw[bP]at hq ⊢;cases hc:hv.get j with
  |none=>rw[hc]at hq;cases hq
  |some c=>
   rw[hc]at hq;obtain⟨i,b,q1,rfl,rfl⟩:=hv_ex j c hc;obtain⟨b0,q2,q3⟩:=hbm i b q1;rw[q2];simp only[aD]at hq ⊢;rw[<- q3.row];exact hq
 have rows_h1:∀i q,eh h1 i=Z q->eh hv (gZ σ i)=Z q:=λi q hq=>by
  rw[bP]at hq ⊢;cases hb:h1.get i with
  |none=>rw[hb]at hq;cases hq
  |some b=>
   rw[hb]at hq;rw[hv_at i b ((I.at_ i b).1 hb)];simp only[aD,Hg]at hq ⊢;exact hq
 have hd:uf (bB h) (bB hv):=λn y A=>by
  obtain⟨j,c,rfl,h3,h4⟩:=ju A;obtain⟨i,b,q1,rfl,rfl⟩:=hv_ex j c h3;obtain⟨b0,q2,q3⟩:=hbm i b q1;obtain⟨y0,D⟩:=BM.erB_some hinv q2 q3 h4;exact⟨y0,by rw[bK,q2];exact D⟩
 have gvv:C7 h (bB h) (bB hv) m:=λi hi=>⟨rfl,by
  cases hc:bB hv (nm i) with
  |none=>rfl
  |some y=>
   obtain⟨j,c,e,h3,h4⟩:=ju hc;have:=kP e;subst this;obtain⟨k,b,q1,rfl,rfl⟩:=hv_ex i c h3;have hk:k<t.bs.length:=by rw[<- I.len];exact (bm.1 q1).1
   have h5:=g.disj _ hi;rw[(g.sig _).2 ⟨k,hk,rfl⟩]at h5;cases h5⟩
 have V:Gr (bB h) (bB hv):=⟨hd,λn b b' hb F=>by
  obtain⟨j,c,rfl,h3,h4⟩:=ju F;obtain⟨i,bb,q1,rfl,rfl⟩:=hv_ex j c h3;obtain⟨b0,q2,q3⟩:=hbm i bb q1;rw[bK,q2]at hb;exact BM.view hd gvv rows_in q3 hb h4⟩
 have rv:=V.rep r;have T:acm t x us h1 (gZ σ) φ E E (bB hv) w:=by
  refine qG.toId I g.inj rv (λi b yb hb hyb=>?_) (λk hk=>.inl hk) (λi k b hi h3 h4 hE=>?_) rv.el
  .rw[bK,hv_at i b ((I.at_ i b).1 hb)];exact Cc rows_h1 hyb
  .obtain⟨k',p1,p2,_⟩:=rv.at_ _ _ h3;rw[h4]at p1;cases p1;exact p2 hE
 obtain⟨lu,hlu⟩:=eT h1 us I.ok;have hlug:cz hv (kE (gZ σ) us)=Z (AV.renL (GZ (gZ σ)) lu):=oS rows_h1 us lu hlu;have hle:=B8 hd rows_in t.vs vs x1 m1 _ la _ gv pvg hla hlug (λi hi=>gvv i (by rw[hmm,bw,hi];rfl));have hall:=rz us lu I.lt hlu;refine ⟨_,lu,hlu,T.rep,λj y v A=>?_,?_,λk hk=>hd.tot (T.tot_ k hk),λk hk=>hd.own (T.own_ k hk),λn k hk=>?_,λi hi hb=>?_⟩
 .rw[mI]at hle;obtain⟨z,hz,hlz⟩:=hle.get j (y.ren (GZ (gZ σ))) (by rw[bf,A];rfl);exact⟨z,hz,λhr=>T.val y v (l8 hall y (bg A)) (hlz _ _ _ _ r hr)⟩
 .have:=hle.length;rw[mI,co]at this;exact this
 .obtain⟨i,hi,rfl,_⟩:=vX hk;rw[dQ];exact hi
 .rw[XT hb,g.fix i hi]
theorem M3 {φ:PM} {s':TS} {a:Act} {w:World} (c:oB P E nt np φ s' a w) {A:XP} {am:Nat} {L s1:TS} {x:A.D} (d:KM np A am L s'=Z x) (hs:FC A am L x=Z s1)
 (hk:∀k,k∈A.keep->k∉A.ks->∀v,L.e.get k=Z v->tG v=M->aO am k=aa->∀s,s'.e.get k=Z s->s=v):∃φ',oB P E nt np φ' s1 a w/\Bd np φ φ' (bB s'.h) (bB s1.h) w w:=by
 unfold KM at d;split at d
 .rename_i hc;simp only[ak]at hc;have hnp:=a9 hc.1;split at d
  .rename_i s2 h2;obtain⟨φ2,F,t2,_⟩:=Uh c h2;split at d
   .rename_i vs hvs;split at d
    .rename_i z m σ sm hM;simp only[af]at d;subst d;have g:=vk hM;unfold FC at hs;split at hs
     .rename_i us h1 hi;obtain⟨l1,I⟩:=vq hi;split at hs
      .rename_i hlen;have hlen:=au hlen;simp only[af]at hs;subst hs;obtain⟨g1,g2⟩:=U1 hvs;have hvok:kO s2.h vs=M:=Ht F.invE hvs;obtain⟨la,hla⟩:=eT s2.h vs hvok;obtain⟨φ',lu,hlu,S⟩:=Kg (E:=E) I F.invH g hla F.rep;refine ⟨φ',⟨S.rep,?_,S.dom,hnp,⟨λi ty l hl=>(I.cells i _ l hl).1,λi b hb=>I.lt_len hb⟩,?_,c.inert,c.size⟩,t2.trans ⟨Gu.refl _ _,λk _ h=>S.own_ k h,λi hi=>S.par i hi (by omega)⟩⟩
       .intro t y q;simp only[fh]at q;cases ht:(VM (BU am L.e A.keep) A.ks us).get t with
        |none=>rw[ht]at q;cases q
        |some v=>
         rw[ht]at q;simp only[aD]at q;rcases Bu hlen t v ht with ⟨j,q1,q2⟩|⟨q1,q2⟩
         .obtain⟨y',p1,p2⟩:=kY hlu j v q2;rw[q]at p2;cases p2;obtain⟨z,p3,p4⟩:=S.val j y (a.tmps.getD t undef) p1;refine p4 ?_;obtain⟨v0,p5,p6⟩:=g2 j t q1;obtain⟨z',p7,p8⟩:=kY hla j v0 p5;rw[p3]at p7;cases p7;exact F.env t _ (by simp only[fh,p6,aD,p8])
         .obtain⟨k1,k2,k3,k4⟩:=sZ q2;obtain⟨s,k5⟩:=HQ hc.2 t v k1 k2 k3 k4;have:=hk t k1 q1 v k2 k3 k4 s k5;subst this;have h3:=c.env t y (by simp only[fh,k5,aD];rw[P4 s'.h h1 s k3];exact q);exact h3.restrict (p:=λ_=>aa) (λi k hi _=>by cases hi) (λk hk=>by
           have h4:=S.tot_ k hk;rcases h4 with h4|h4
           .exact .inl h4
           .exact .inr (by
             have hkl:k<w.heap.size:=by
              obtain⟨n,b,e1,e2⟩:=h4;obtain⟨k',p1,_,ob,p3,_⟩:=F.rep.at_ n b e1;rw[e2]at p1;cases p1;exact (cq.1 p3).1
             exact t2.own_ k hkl h4)) (PR s y k3 q)
       .intro t v hv;rcases Bu hlen t v hv with ⟨j,q1,q2⟩|⟨q1,q2⟩
        .obtain⟨y',_,p2⟩:=kY hlu j v q2;exact DQ _ _ _ p2
        .exact U3 _ v (sZ q2).2.2.1
      .cases hs
     .cases hs
    .cases d
   .cases d
  .cases d
 .cases d
theorem Da {A:XP} {am:Nat} {d s1:TS} {x:A.D} (hs:FC A am d x=Z s1):fO (Kp A.ks 0) d.e s1.e/\∀k,k∉A.ks->∀v,s1.e.get k=Z v->d.e.get k=Z v:=by
 unfold FC at hs;split at hs
 .rename_i us h1 hi;split at hs
  .rename_i hlen;have hlen:=au hlen;simp only[af]at hs;subst hs;have key:∀k,k∉A.ks->∀v,(VM (BU am d.e A.keep) A.ks us).get k=Z v->d.e.get k=Z v:=λk hk v hv=>by
    rcases Bu hlen k v hv with ⟨j,q1,_⟩|⟨_,q2⟩
    .exact dP (bg q1) hk
    .exact (sZ q2).2.1
   refine ⟨λk hk q hv=>?_,key⟩;have hnk:k∉A.ks:=λhm=>by rw[UT hm]at hk;cases hk
   exact⟨q,key k hnk q hv,λ_=>rfl⟩
  .cases hs
 .cases hs
end walk
inductive Er:TC->SC->Prop
 |skip:Er .skip .skip
 |reg (ops:List r8) (prs:List (Nat×Nat)):Er (.reg ops prs) (.reg ops prs)
 |seq {a b:TC} {a' b':SC}:Er a a'->Er b b'->Er (.seq a b) (.seq a' b')
 |jseq (A:XP) {a b:TC} {a' b':SC}:Er a a'->Er b b'->Er (.jseq A a b) (.seq a' b')
 |cond (c:Nat) {a b:TC} {a' b':SC}:Er a a'->Er b b'->Er (.cond c a b) (.cond c a' b')
 |block (id:Nat) {b:TC} {b':SC}:Er b b'->Er (.block id b) (.block id b')
 |jblock (A:XP) (id:Nat) {b:TC} {b':SC}:Er b b'->Er (.jblock A id b) (.block id b')
 |loop (A:XP) {b:TC} {b':SC}:Er b b'->Er (.loop A b) (.loop b')
 |exit (id:Nat):Er (.exit id) (.exit id)
 |ret:Er .ret .ret
 |defer (f:FuncId) (c:List Operand) (t:Nat):Er (.defer f c t) (.defer f c t)
 |adj (l:List Adj) {c:TC} {c':SC}:Er c c'->Er (.adj l c) c'
 |split (k off lo n:Nat) {c:TC} {c':SC}:Er c c'->Er (.split k off lo n c) c'
 |bsp (t:Nat) {a b:TC} {c':SC}:Er a c'->Er b c'->Er (.bsp t a b) c'
 |unl (n:Nat) {b:TC} {b':SC}:Er b b'->Er (.unl n b) (.loop b')
 |bad (c:SC):Er .bad c
theorem Bm {H:PT Z8} {n:Nat} {c:TC} {c':SC} (h:Er c c'):Er (G_ H n c) c':=by
 unfold G_;split
 .exact .adj _ h
 .exact .split _ _ _ _ h
 .exact .bsp _ (.split _ _ _ _ h) h
 .exact h
theorem wL (H:PT Z8):∀(c:SC) (n:Nat),Er (CF H c n).1 c
 |.skip,n=>Bm .skip
 |.reg o p,n=>Bm (.reg o p)
 |.seq a b,n=>by
  have h1:=wL H a (n+1);have h2:=wL H b (CF H a (n+1)).2;simp only[CF];split
  .exact .jseq _ h1 h2
  .exact .seq h1 h2
 |.cond c a b,n=>by
  have h1:=wL H a (n+1);have h2:=wL H b (CF H a (n+1)).2;simp only[CF];exact Bm (.cond c h1 h2)
 |.block id b,n=>by
  have h1:=wL H b (n+1);simp only[CF];split
  .exact .jblock _ id h1
  .exact .block id h1
 |.loop b,n=>by
  have h1:=wL H b (n+1);simp only[CF];split
  .exact .loop _ h1
  .exact .unl _ h1
  .exact .bad _
 |.exit id,n=>Bm (.exit id)
 |.ret,n=>Bm .ret
 |.defer f c t,n=>.defer f c t
 |.bad,n=>.bad _
theorem V2 {σ R:Type} {step:σ->J (σ⊕R)} {x:σ} {r:R} (h:iter step x=Z r):∃n,iterN step n x=Z r:=by
 unfold iter at h;split at h
 .exact⟨_,h⟩
 .cases h
theorem UW {α R:Type} {o:J (R⊕α)} {k:α->J R} {r:R} (h:jn o k=Z r):(∃x,o=Z (.inr x)/\k x=Z r)\/o=Z (.inl r):=by
 unfold jn at h;split at h
 .exact .inl ⟨_,rfl,h⟩
 .cases h;exact .inr rfl
 .cases h
section inv
variable {P:Program} {nt:Nat}
theorem yG (id:Nat) (ops:Array Oper) (q:Bool):ci P nt (.region id ops q)= .bad\/
 ((ops.toList.all λo=>match o.dst with|some d=>decide (d<nt)|none=>M)=M/\
   ((∃f caps t,CE ops q=Z (f,caps,t)/\ci P nt (.region id ops q)= .defer f caps t)\/
    ∃l prs,rI P ops ops.toList=Z l/\LA ops l=Z prs/\ci P nt (.region id ops q)= .reg l prs)):=by
 simp only[ci];split
 .rename_i hd;split
  .rename_i f caps t h;exact .inr ⟨hd,.inl ⟨f,caps,t,h,rfl⟩⟩
  .split
   .rename_i l hl;split
    .rename_i prs hp;exact .inr ⟨hd,.inr ⟨l,prs,hl,hp,rfl⟩⟩
    .exact .inl rfl
   .exact .inl rfl
 .exact .inl rfl
def Dg:Code->Bool
 |.cond (.const (.bool _)) _ _=>aa
 |_=>M
theorem ka (P:Program) (nt:Nat) (c:Code):∃c',Dg c'=M/\ci P nt c'=ci P nt c/\∀Q a w,c'.wp P Q a w->c.wp P Q a w:=by
 have self:∀c:Code,Dg c=M->∃c',Dg c'=M/\ci P nt c'=ci P nt c/\∀Q a w,c'.wp P Q a w->c.wp P Q a w:=λc h=>⟨c,h,rfl,λ_ _ _ h=>h⟩
 induction c with
 |cond o x y ihx ihy=>
  cases o with
  |const v=>
   cases v with
   |bool b=>
    cases b with
    |true=>
     obtain⟨c',h1,h2,h3⟩:=ihx;exact⟨c',h1,h2,λQ a w h=>wp_cond_true rfl (h3 Q a w h)⟩
    |false=>
     obtain⟨c',h1,h2,h3⟩:=ihy;exact⟨c',h1,h2,λQ a w h=>wp_cond_false rfl (h3 Q a w h)⟩
   |_=>exact self _ rfl
  |_=>exact self _ rfl
 |_=>exact self _ rfl
theorem ED {α:Prop} {o:Operand} {x y:Code} {sc:SC} (hn:Dg (.cond o x y)=M) (h:ci P nt (.cond o x y)=sc) (h1:sc≠ .bad) (h2:∀t a b,sc≠ .cond t a b):α:=by
 cases o with
 |tmp q=>exact (h2 _ _ _ h.symm).elim
 |const v=>cases v<;>first|exact (h1 h.symm).elim|cases hn
 |global g=>exact (h1 h.symm).elim
 |func f=>exact (h1 h.symm).elim
theorem abf {c:Code} {sl:Y r8} {prs:Y (Nat×Nat)} (hn:Dg c=M) (h:ci P nt c= .reg sl prs):∃id ops q,c= .region id ops q/\(ops.toList.all λo=>match o.dst with|some d=>decide (d<nt)|none=>M)=M/\rI P ops ops.toList=Z sl/\LA ops sl=Z prs:=by
 cases c with
 |region id ops q=>
  rcases yG (P:=P) (nt:=nt) id ops q with h1|⟨hd,⟨f,caps,t,_,h1⟩|⟨l,p,h2,h3,h1⟩⟩
  .rw[h1]at h;cases h
  .rw[h1]at h;cases h
  .rw[h1]at h;cases h;exact⟨id,ops,q,rfl,hd,h2,h3⟩
 |cond o x y=>exact ED hn h (by simp) (by simp)
 |_=>simp[ci]at h
theorem V3 {c:Code} {f:FuncId} {caps:Y Operand} {t:Nat} (hn:Dg c=M) (h:ci P nt c= .defer f caps t):∃id ops q,c= .region id ops q/\(ops.toList.all λo=>match o.dst with|some d=>decide (d<nt)|none=>M)=M/\CE ops q=Z (f,caps,t):=by
 cases c with
 |region id ops q=>
  rcases yG (P:=P) (nt:=nt) id ops q with h1|⟨hd,⟨f',caps',t',h2,h1⟩|⟨l,p,h2,h3,h1⟩⟩
  .rw[h1]at h;cases h
  .rw[h1]at h;cases h;exact⟨id,ops,q,rfl,hd,h2⟩
  .rw[h1]at h;cases h
 |cond o x y=>exact ED hn h (by simp) (by simp)
 |_=>simp[ci]at h
theorem o9 {c:Code} {sc:SC} (h:ci P nt c=sc) (h1:sc≠ .bad) (h2:∀a b,sc≠ .reg a b) (h3:∀a b t,sc≠ .defer a b t):∀id ops d,c≠ .region id ops d:=by
 rintro id ops d rfl;rcases yG (P:=P) (nt:=nt) id ops d with h4|⟨_,⟨f,caps,t,_,h4⟩|⟨l,p,_,_,h4⟩⟩<;>rw[h4]at h
 .exact h1 h.symm
 .exact h3 _ _ _ h.symm
 .exact h2 _ _ h.symm
theorem YE {c:Code} (hn:Dg c=M) (h:ci P nt c= .skip):c= .skip:=by
 have d:=o9 h (by simp) (by simp) (by simp);cases c with
 |skip=>rfl
 |region id ops q=>exact dP rfl (d id ops q)
 |cond o x y=>exact ED hn h (by simp) (by simp)
 |_=>simp[ci]at h
theorem abe {c:Code} (hn:Dg c=M) (h:ci P nt c= .ret):c= .ret:=by
 have d:=o9 h (by simp) (by simp) (by simp);cases c with
 |ret=>rfl
 |region id ops q=>exact dP rfl (d id ops q)
 |cond o x y=>exact ED hn h (by simp) (by simp)
 |_=>simp[ci]at h
theorem YF {c:Code} {i:Nat} (hn:Dg c=M) (h:ci P nt c= .exit i):c= .exit i:=by
 have d:=o9 h (by simp) (by simp) (by simp);cases c with
 |exit id=>simp[ci]at h;rw[h]
 |region id ops q=>exact dP rfl (d id ops q)
 |cond o x y=>exact ED hn h (by simp) (by simp)
 |_=>simp[ci]at h
theorem UX {c:Code} {a b:SC} (hn:Dg c=M) (h:ci P nt c= .seq a b):∃x y,c= .seq x y/\ci P nt x=a/\ci P nt y=b:=by
 have d:=o9 h (by simp) (by simp) (by simp);cases c with
 |seq x y=>simp[ci]at h;exact⟨x,y,rfl,h.1,h.2⟩
 |region id ops q=>exact dP rfl (d id ops q)
 |cond o x y=>exact ED hn h (by simp) (by simp)
 |_=>simp[ci]at h
theorem YG {c:Code} {t:Nat} {a b:SC} (hn:Dg c=M) (h:ci P nt c= .cond t a b):∃x y,c= .cond (.tmp t) x y/\ci P nt x=a/\ci P nt y=b:=by
 have d:=o9 h (by simp) (by simp) (by simp);cases c with
 |cond o x y=>
  cases o with
  |tmp q=>simp[ci]at h;obtain⟨rfl,h1,h2⟩:=h;exact⟨x,y,rfl,h1,h2⟩
  |const v=>cases v<;>first|(simp [ci]at h;done)|cases hn
  |_=>simp[ci]at h
 |region id ops s=>exact dP rfl (d id ops s)
 |_=>simp[ci]at h
theorem LP {c:Code} {id:Nat} {b:SC} (hn:Dg c=M) (h:ci P nt c= .block id b):∃y,c= .block id y/\ci P nt y=b:=by
 have d:=o9 h (by simp) (by simp) (by simp);cases c with
 |block i y=>simp[ci]at h;obtain⟨rfl,h1⟩:=h;exact⟨y,rfl,h1⟩
 |region id ops q=>exact dP rfl (d id ops q)
 |cond o x y=>exact ED hn h (by simp) (by simp)
 |_=>simp[ci]at h
theorem O7 {c:Code} {b:SC} (hn:Dg c=M) (h:ci P nt c= .loop b):∃y,c= .loop y/\ci P nt y=b:=by
 have d:=o9 h (by simp) (by simp) (by simp);cases c with
 |loop y=>simp[ci]at h;exact⟨y,rfl,h⟩
 |region id ops q=>exact dP rfl (d id ops q)
 |cond o x y=>exact ED hn h (by simp) (by simp)
 |_=>simp[ci]at h
end inv
def ae8 {R:Type} (P:Program) (E:Nat->Prop) (nt np:Nat) (φ:PM) (s:TS) (w:World) (am:Nat) (K:Ex->TS->J R) (r:R):Exit->Act->World->Prop:=
 λe a' w'=>∃ex s' φ',e=ex.to/\K ex s'=Z r/\oB P E nt np φ' s' a' w'/\Bd np φ φ' (bB s.h) (bB s'.h) w w'/\fO am s.e s'.e
theorem oB.bool {P:Program} {E:Nat->Prop} {nt np:Nat} {φ:PM} {s:TS} {a:Act} {w:World} (c:oB P E nt np φ s a w) {t:Nat} {b:Bool} (ht:s.e.get t=Z (.f .bool b)):a.eval (.tmp t)= .bool b:=
 eH (c.env t _ (by simp only[fh,ht,aD,b9];rfl))
theorem oB.anyb {P:Program} {E:Nat->Prop} {nt np:Nat} {φ:PM} {s:TS} {a:Act} {w:World} (c:oB P E nt np φ s a w) {t:Nat} (ht:s.e.get t=Z .anyb):∃b,a.eval (.tmp t)= .bool b:=by
 have:=c.env t .anyb (by simp only[fh,ht,aD,b9]);show ∃b,a.tmps.getD t undef= .bool b;generalize a.tmps.getD t undef=z at this;cases this with
 |anyb=>exact⟨_,rfl⟩
theorem WZ {R:Type} {a b:J R} {r:R} (h:D' a b=Z r):a=Z r/\b=Z r:=by
 unfold D' at h;split at h
 .rename_i e;exact⟨h,by rw[<- e];exact h⟩
 .cases h
theorem aem {P:Program} {E:Nat->Prop} {nt np:Nat} {con:FuncId->J ch} {bZ:TypeId->J Ty} {inert:FuncId->Bool} (hm:P.follows .mixedOrders=M) (hcon:JZ P con) (hin:JV P inert):
 ∀{tc:TC} {sc:SC},Er tc sc->∀(c:Code),ci P nt c=sc->∀(R:Type) (s:TS) (K:Ex->TS->J R) (r:R),nu np con bZ inert tc s K=Z r->∀(φ:PM) (a:Act) (w:World),oB P E nt np φ s a w->c.wp P (ae8 P E nt np φ s w (tc.asg 0) K r) a w:=by
 intro tc sc hE;induction hE with
 |skip=>
  intro c hc R s K r h φ a w g;obtain⟨c',hn,z,hsim⟩:=ka P nt c;refine hsim _ _ _ ?_;rw[<- z]at hc;rw[YE hn hc];exact wp_skip ⟨.normal,s,φ,rfl,h,g,Bd.refl _ _ _ _,fO.refl _ _⟩
 |reg ops prs=>
  intro c hc R s K r h φ a w g;obtain⟨c',hn,z,hsim⟩:=ka P nt c;refine hsim _ _ _ ?_;rw[<- z]at hc;obtain⟨id,os,dr,rfl,h1,h2,h3⟩:=abf hn hc;simp only[nu]at h;refine Yd (K:=λs'=>K .normal s') hm hcon g (am:=N6 ops 0) (λj o d ho hd=>?_) h1 h2 h3 h λa' w' s' φ' q1 q2 q3 q4=>⟨.normal,s',φ',rfl,q1,q2,q3,q4⟩
  have hmem:o∈os.toList:=by have:=Array.mem_of_getElem? ho;simpa using this
  have key:∀(rest:Y Oper) (sl:Y r8),rI P os rest=Z sl->∀o∈rest,∃so∈sl,so.dst=o.dst:=by
   intro rest;induction rest with
   |nil=>intro sl _ o ho;cases ho
   |cons x rest ih=>
    intro sl hsl o ho;simp only[rI]at hsl;split at hsl
    .rename_i l hl;have:∃so,sl=so::l/\so.dst=x.dst:=by
      split at hsl
      .simp only[af]at hsl;exact⟨_,hsl.symm,rfl⟩
      .split at hsl
       .simp only[af]at hsl;exact⟨_,hsl.symm,rfl⟩
       .cases hsl
     obtain⟨so,rfl,hso⟩:=this;rcases bu.1 ho with rfl|ho
     .exact⟨so,by simp,hso⟩
     .obtain⟨q,hq,hq2⟩:=ih l hl o ho;exact⟨q,by simp[hq],hq2⟩
    .cases hsl
  obtain⟨so,hso,hd2⟩:=key os.toList ops h2 o hmem;exact Ra hso (by rw[hd2];exact hd)
 |@seq x y x' y' _ _ ihx ihy=>
  intro c hc R s K r h φ a w g;obtain⟨c',hn,z,hsim⟩:=ka P nt c;refine hsim _ _ _ ?_;rw[<- z]at hc;obtain⟨cx,cy,rfl,h1,h2⟩:=UX hn hc;simp only[nu]at h;refine wp_seq (wp_mono (ihx cx h1 R s _ r h φ a w g) ?_);rintro e a' w' ⟨ex,s',φ',rfl,hk,g',st,F⟩;have kp':fO ((TC.seq x y).asg 0) s.e s'.e:=F.mono λk hk=>by simp only[TC.asg];exact js hk
  cases ex with
  |normal=>
   refine wp_mono (ihy cy h2 R s' K r hk φ' a' w' g') ?_;rintro e2 a2 w2 ⟨ex2,s2,φ2,rfl,hk2,g2,st2,kp2⟩;exact⟨ex2,s2,φ2,rfl,hk2,g2,st.trans st2,kp'.trans (kp2.mono λk hk=>by simp only[TC.asg];exact sS hk)⟩
  |exit id=>exact⟨.exit id,s',φ',rfl,hk,g',st,kp'⟩
  |ret=>exact⟨.ret,s',φ',rfl,hk,g',st,kp'⟩
 |@jseq A x y x' y' _ _ ihx ihy=>
  intro c hc R s K r h φ a w g;obtain⟨c',hn,z,hsim⟩:=ka P nt c;refine hsim _ _ _ ?_;rw[<- z]at hc;obtain⟨cx,cy,rfl,h1,h2⟩:=UX hn hc;simp only[nu]at h;have sub1:∀k,aO (x.asg 0) k=M->aO ((TC.jseq A x y).asg 0) k=M:=λk hk=>by simp only[TC.asg];exact js (sS hk)
  have sub2:∀k,aO (y.asg 0) k=M->aO ((TC.jseq A x y).asg 0) k=M:=λk hk=>by simp only[TC.asg];exact sS hk
  have sub3:∀k,aO (Kp A.ks 0) k=M->aO ((TC.jseq A x y).asg 0) k=M:=λk hk=>by simp only[TC.asg];exact js (js hk)
  rcases UW h with ⟨d,h3,h4⟩|h3
  .refine wp_seq (wp_mono (ihx cx h1 _ s _ _ h3 φ a w g) ?_);rintro e a' w' ⟨ex,s',φ',rfl,hk,g',st,F⟩;cases ex with
   |normal=>
    simp only[]at hk;obtain⟨d',q1,q2⟩:=dD hk;simp only[af,Sum.inr.injEq]at q2;subst q2;split at h4
    .rename_i s1 L;obtain⟨φ1,g1,st1⟩:=M3 g' q1 L λk _ _ v hv hf ha v' I=>by
      obtain⟨v0,e1,e2⟩:=F k ha v' I;rw[hv]at e1;cases e1;exact e2 hf
     refine wp_mono (ihy cy h2 R s1 K r h4 φ1 a' w' g1) ?_;rintro e2 a2 w2 ⟨ex2,s2,φ2,rfl,hk2,g2,st2,kp2⟩;exact⟨ex2,s2,φ2,rfl,hk2,g2,(st.trans st1).trans st2,((Da L).1.mono sub3).trans (kp2.mono sub2)⟩
    .cases h4
   |exit id=>simp only[]at hk;obtain⟨_,_,q2⟩:=dD hk;simp at q2
   |ret=>simp only[]at hk;obtain⟨_,_,q2⟩:=dD hk;simp at q2
  .refine wp_seq (wp_mono (ihx cx h1 _ s _ _ h3 φ a w g) ?_);rintro e a' w' ⟨ex,s',φ',rfl,hk,g',st,F⟩;cases ex with
   |normal=>simp only[]at hk;obtain⟨_,_,q2⟩:=dD hk;simp at q2
   |exit id=>
    simp only[]at hk;obtain⟨r',q1,q2⟩:=dD hk;simp only[af,Sum.inl.injEq]at q2;subst q2;exact⟨.exit id,s',φ',rfl,q1,g',st,F.mono sub1⟩
   |ret=>
    simp only[]at hk;obtain⟨r',q1,q2⟩:=dD hk;simp only[af,Sum.inl.injEq]at q2;subst q2;exact⟨.ret,s',φ',rfl,q1,g',st,F.mono sub1⟩
 |@cond t x y x' y' _ _ ihx ihy=>
  intro c hc R s K r h φ a w g;obtain⟨c',hn,z,hsim⟩:=ka P nt c;refine hsim _ _ _ ?_;rw[<- z]at hc;obtain⟨cx,cy,rfl,h1,h2⟩:=YG hn hc;simp only[nu]at h;split at h
  .rename_i b hb;rcases lO h with ⟨rfl,h⟩|⟨rfl,h⟩
   .refine wp_cond_true (g.bool hb) (wp_mono (ihx cx h1 R s K r h φ a w g) ?_);rintro e a' w' ⟨ex,s',φ',rfl,hk,g',st,F⟩;exact⟨ex,s',φ',rfl,hk,g',st,F.mono λk hk=>by simp only[TC.asg];exact js hk⟩
   .refine wp_cond_false (g.bool hb) (wp_mono (ihy cy h2 R s K r h φ a w g) ?_);rintro e a' w' ⟨ex,s',φ',rfl,hk,g',st,F⟩;exact⟨ex,s',φ',rfl,hk,g',st,F.mono λk hk=>by simp only[TC.asg];exact sS hk⟩
  .rename_i hb;obtain⟨ha,hbb⟩:=WZ h;obtain⟨bv,hbv⟩:=g.anyb hb;cases bv with
   |true=>
    refine wp_cond_true hbv (wp_mono (ihx cx h1 R s K r ha φ a w g) ?_);rintro e a' w' ⟨ex,s',φ',rfl,hk,g',st,F⟩;exact⟨ex,s',φ',rfl,hk,g',st,F.mono λk hk=>by simp only[TC.asg];exact js hk⟩
   |false=>
    refine wp_cond_false hbv (wp_mono (ihy cy h2 R s K r hbb φ a w g) ?_);rintro e a' w' ⟨ex,s',φ',rfl,hk,g',st,F⟩;exact⟨ex,s',φ',rfl,hk,g',st,F.mono λk hk=>by simp only[TC.asg];exact sS hk⟩
  .cases h
 |@block id b b' _ ih=>
  intro c hc R s K r h φ a w g;obtain⟨c',hn,z,hsim⟩:=ka P nt c;refine hsim _ _ _ ?_;rw[<- z]at hc;obtain⟨cb,rfl,h1⟩:=LP hn hc;simp only[nu]at h;refine wp_block (wp_mono (ih cb h1 R s _ r h φ a w g) ?_);rintro e a' w' ⟨ex,s',φ',rfl,hk,g',st,F⟩;cases ex with
  |normal=>exact⟨.normal,s',φ',rfl,hk,g',st,F⟩
  |ret=>exact⟨.ret,s',φ',rfl,hk,g',st,F⟩
  |exit i=>
   simp only[Ex.to,Exit.inBlock];simp only[]at hk;split at hk
   .rename_i hb;rw[aU (au hb)];exact⟨.normal,s',φ',rfl,hk,g',st,F⟩
   .rename_i hb;rw[aL (λe=>hb (by rw[e];exact rk id))];exact⟨.exit i,s',φ',rfl,hk,g',st,F⟩
 |@jblock A id b b' _ ih=>
  intro c hc R s K r h φ a w g;obtain⟨c',hn,z,hsim⟩:=ka P nt c;refine hsim _ _ _ ?_;rw[<- z]at hc;obtain⟨cb,rfl,h1⟩:=LP hn hc;simp only[nu]at h;have sub1:∀k,aO (b.asg 0) k=M->aO ((TC.jblock A id b).asg 0) k=M:=λk hk=>by simp only[TC.asg];exact sS hk
  have sub3:∀k,aO (Kp A.ks 0) k=M->aO ((TC.jblock A id b).asg 0) k=M:=λk hk=>by simp only[TC.asg];exact js hk
  rcases UW h with ⟨d,h3,h4⟩|h3
  .refine wp_block (wp_mono (ih cb h1 _ s _ _ h3 φ a w g) ?_);rintro e a' w' ⟨ex,s',φ',rfl,hk,g',st,F⟩;have fin:av (KM np A (b.asg 0) s s') (λx=>Z (b7 (α:=R) x))=Z (b7 d)->ae8 P E nt np φ s w ((TC.jblock A id b).asg 0) K r .normal a' w':=by
    intro hk;obtain⟨d',q1,q2⟩:=dD hk;simp only[af,Sum.inr.injEq]at q2;subst q2;split at h4
    .rename_i s1 L;obtain⟨φ1,g1,st1⟩:=M3 g' q1 L λk _ _ v hv hf ha v' I=>by
      obtain⟨v0,e1,e2⟩:=F k ha v' I;rw[hv]at e1;cases e1;exact e2 hf
     exact⟨.normal,s1,φ1,rfl,h4,g1,st.trans st1,(Da L).1.mono sub3⟩
    .cases h4
   cases ex with
   |normal=>exact fin hk
   |ret=>simp only[]at hk;obtain⟨_,_,q2⟩:=dD hk;simp at q2
   |exit i=>
    simp only[Ex.to,Exit.inBlock];simp only[]at hk;split at hk
    .rename_i hb;rw[aU (au hb)];exact fin hk
    .obtain⟨_,_,q2⟩:=dD hk;simp at q2
  .refine wp_block (wp_mono (ih cb h1 _ s _ _ h3 φ a w g) ?_);rintro e a' w' ⟨ex,s',φ',rfl,hk,g',st,F⟩;cases ex with
   |normal=>simp only[]at hk;obtain⟨_,_,q2⟩:=dD hk;simp at q2
   |ret=>
    simp only[]at hk;obtain⟨r',q1,q2⟩:=dD hk;simp only[af,Sum.inl.injEq]at q2;subst q2;exact⟨.ret,s',φ',rfl,q1,g',st,F.mono sub1⟩
   |exit i=>
    simp only[Ex.to,Exit.inBlock];simp only[]at hk;split at hk
    .obtain⟨_,_,q2⟩:=dD hk;simp at q2
    .rename_i hb;rw[aL (λe=>hb (by rw[e];exact rk id))];obtain⟨r',q1,q2⟩:=dD hk;simp only[af,Sum.inl.injEq]at q2;subst q2;exact⟨.exit i,s',φ',rfl,q1,g',st,F.mono sub1⟩
 |@loop A b b' _ ih=>
  intro c hc R s K r h φ a w g;obtain⟨c',hn,z,hsim⟩:=ka P nt c;refine hsim _ _ _ ?_;rw[<- z]at hc;obtain⟨cb,rfl,h1⟩:=O7 hn hc;simp only[nu]at h;obtain⟨x0,hx0,h⟩:=dD h;obtain⟨n,hn⟩:=V2 h;have sub1:∀k,aO (b.asg 0) k=M->aO ((TC.loop A b).asg 0) k=M:=λk hk=>by simp only[TC.asg];exact sS hk
  have sub3:∀k,aO (Kp A.ks 0) k=M->aO ((TC.loop A b).asg 0) k=M:=λk hk=>by simp only[TC.asg];exact js hk
  obtain⟨step,hstep⟩:∃step:A.D->J (A.D⊕R),step=λx=>(match FC A (b.asg 0) s x with
   |some s'=>nu np con bZ inert b s' λex s'=>(match ex with
    |.normal=>av (KM np A (b.asg 0) s s') λy=>Z (nk y)
    |ex=>av (K ex s') λr=>Z (b7 r))
   |none=>U):=⟨_,rfl⟩
  have hn:iterN step n x0=Z r:=by rw[hstep];exact hn
  have stepEq:∀x,step x=(match FC A (b.asg 0) s x with
   |some s'=>nu np con bZ inert b s' λex s'=>(match ex with
    |.normal=>av (KM np A (b.asg 0) s s') λy=>Z (nk y)
    |ex=>av (K ex s') λr=>Z (b7 r))
   |none=>U):=λx=>by rw[hstep]
  let Inv:Nat->Act->World->Prop:=λn a w'=>∃x s1 φ1,iterN step n x=Z r/\FC A (b.asg 0) s x=Z s1/\oB P E nt np φ1 s1 a w'/\Bd np φ φ1 (bB s.h) (bB s1.h) w w'
  have head:∀(n:Nat) (x:A.D),iterN step n x=Z r->∃s1,FC A (b.asg 0) s x=Z s1:=by
   intro n x hn;cases n with
   |zero=>cases hn
   |succ n=>
    simp only[iterN]at hn;cases hr:FC A (b.asg 0) s x with
    |some s1=>exact⟨s1,rfl⟩
    |none=>rw[stepEq,hr]at hn;cases hn
  refine Bn Inv ?_ (n:=n) ?_
  .rintro n a1 w1 ⟨x,s1,φ1,hi,hr,g1,st1⟩;cases n with
   |zero=>cases hi
   |succ n=>
    simp only[iterN]at hi;have hse:=stepEq x;rw[hr]at hse;simp only[]at hse;obtain⟨kp1,kp1'⟩:=Da hr;split at hi
    .rename_i y hy;rw[hy]at hse;refine wp_mono (ih cb h1 _ s1 _ _ hse.symm φ1 a1 w1 g1) ?_;rintro e a' w' ⟨ex,s',φ',rfl,hk,g',st,F⟩;cases ex with
     |normal=>
      simp only[]at hk;obtain⟨d',q1,q2⟩:=dD hk;simp only[af,Sum.inl.injEq]at q2;subst q2;obtain⟨s2,hs2⟩:=head n d' hi;obtain⟨φ2,g2,st2⟩:=M3 g' q1 hs2 λk hkk hks v hv hf ha v' I=>by
       obtain⟨v0,e1,e2⟩:=F k ha v' I;have:=kp1' k hks v0 e1;rw[hv]at this;cases this;exact e2 hf
      exact⟨n,by omega,d',s2,φ2,hi,hs2,g2,(st1.trans st).trans st2⟩
     |exit id=>simp only[]at hk;obtain⟨_,_,q2⟩:=dD hk;simp at q2
     |ret=>simp only[]at hk;obtain⟨_,_,q2⟩:=dD hk;simp at q2
    .rename_i r' hy;cases hi;rw[hy]at hse;refine wp_mono (ih cb h1 _ s1 _ _ hse.symm φ1 a1 w1 g1) ?_;rintro e a' w' ⟨ex,s',φ',rfl,hk,g',st,F⟩;cases ex with
     |normal=>simp only[]at hk;obtain⟨_,_,q2⟩:=dD hk;simp at q2
     |exit id=>
      simp only[]at hk;obtain⟨r',q1,q2⟩:=dD hk;simp only[af,Sum.inr.injEq]at q2;subst q2;exact⟨.exit id,s',φ',rfl,q1,g',st1.trans st,(kp1.mono sub3).trans (F.mono sub1)⟩
     |ret=>
      simp only[]at hk;obtain⟨r',q1,q2⟩:=dD hk;simp only[af,Sum.inr.injEq]at q2;subst q2;exact⟨.ret,s',φ',rfl,q1,g',st1.trans st,(kp1.mono sub3).trans (F.mono sub1)⟩
    .cases hi
  .obtain⟨s1,L⟩:=head n x0 hn;obtain⟨φ1,g1,st1⟩:=M3 g hx0 L λk _ _ v hv _ _ v' I=>by rw[hv]at I;cases I;rfl
   exact⟨x0,s1,φ1,hn,L,g1,st1⟩
 |exit id=>
  intro c hc R s K r h φ a w g;obtain⟨c',hn,z,hsim⟩:=ka P nt c;refine hsim _ _ _ ?_;rw[<- z]at hc;rw[YF hn hc];exact wp_exit ⟨.exit id,s,φ,rfl,h,g,Bd.refl _ _ _ _,fO.refl _ _⟩
 |ret=>
  intro c hc R s K r h φ a w g;obtain⟨c',hn,z,hsim⟩:=ka P nt c;refine hsim _ _ _ ?_;rw[<- z]at hc;rw[abe hn hc];exact wp_ret ⟨.ret,s,φ,rfl,h,g,Bd.refl _ _ _ _,fO.refl _ _⟩
 |defer f caps t=>
  intro c hc R s K r h φ a w g;obtain⟨c',hn,z,hsim⟩:=ka P nt c;refine hsim _ _ _ ?_;rw[<- z]at hc;obtain⟨id,ops,dr,rfl,h1,h2⟩:=V3 hn hc;simp only[nu]at h;split at h
  .rename_i l hl;split at h
   .rename_i hi;obtain⟨l',e1,e2⟩:=xP g.invE hl;obtain⟨H,hH⟩:=jL s.h;have lowN:∀n k,φ n=Z k->n<2*s.nx+2:=λn k hk=>by have:=g.dom n k hk;unfold ow at this;omega
    have cfg:Cfg P ⟨2*s.nx+2,φ,E,bB s.h,w⟩ nt ⟨It s.e s.h,H,2*s.nx+2,0⟩ a w:=by
     refine ⟨⟨φ,?_,?_,?_,lowN,λi k hk=>.inl hk⟩,cB _,g.inert,g.size⟩
     .rw[hH];exact iT.refl _ _ _
     .rw[hH];exact g.rep
     .rw[hH,uy];exact g.env
    refine Qi hin cfg h1 h2 e1 hi λa' w' c'=>?_
    obtain⟨φ',m',r',en',dm',d0'⟩:=c'.ex;have hφ:φ'=φ:=by
     funext n;cases hx:φ n with
     |some k=>exact m'.sub n k hx
     |none=>
      cases hy:φ' n with
      |none=>rfl
      |some k=>
       rcases d0' n k hy with h3|h3
       .have h3:φ n=Z k:=h3;rw[hx]at h3;cases h3
       .have h4:n<2*s.nx+2:=dm' n k hy;have h5:2*s.nx+2<=n:=h3;omega
    subst hφ;simp only[hH]at m' r' en';refine ⟨.normal,_,φ',rfl,h,⟨r',?_,g.dom,g.low,g.invH,?_,c'.inert,c'.size⟩,⟨m'.ext,m'.own_,λ_ _=>rfl⟩,?_⟩
    .intro u x hx;refine en' u x ?_;simp only[fh,PT.get_set]at hx;simp only[yO.put,PT.get_set];split at hx
     .rename_i eu;rw[aU eu];simp only[aD,b9,e2,af]at hx;rw[hx]
     .rename_i eu;rw[aL eu,uy];exact hx
    .intro u x hx;simp only[PT.get_set]at hx;split at hx
     .cases hx;simp only[Km];exact jU _ _ _ e2
     .exact g.invE u x hx
    .intro k hk v' I;simp only[PT.get_set]at I;split at I
     .rename_i ek;subst ek;simp only[TC.asg]at hk;rw[bw,bV.2 rfl]at hk;simp at hk
     .exact⟨v',I,λ_=>rfl⟩
   .cases h
  .cases h
 |@adj l tc' sc' _ ih=>
  intro c hc R s K r h φ a w g;obtain⟨c',hn,z,hsim⟩:=ka P nt c;refine hsim _ _ _ ?_;rw[<- z]at hc;simp only[nu]at h;split at h
  .rename_i s1 L;obtain⟨φ1,g1,st1,kp1⟩:=Uh g L;refine wp_mono (ih c' hc R s1 K r h φ1 a w g1) ?_;rintro e a' w' ⟨ex,s',φ',rfl,hk,g',st,F⟩;exact⟨ex,s',φ',rfl,hk,g',st1.trans st,(kp1.mono λk hk=>by simp only[TC.asg];exact js hk).trans (F.mono λk hk=>by simp only[TC.asg];exact sS hk)⟩
  .cases h
 |@split k off lo n tc' sc' _ ih=>
  intro c hc R s K r h φ a w g;obtain⟨c',hn,z,hsim⟩:=ka P nt c;refine hsim _ _ _ ?_;rw[<- z]at hc;simp only[nu]at h;split at h
  .rename_i kd v hv;obtain⟨j,hj,h2⟩:=OF h;subst hj;split at h2
   .rename_i s1 L;obtain⟨g1,hH,he⟩:=Ya g hv L;refine wp_mono (ih c' hc R s1 K r h2 φ a w g1) ?_;rintro e a' w' ⟨ex,s',φ',rfl,hk,g',st,F⟩;exact⟨ex,s',φ',rfl,hk,g',by rw[<- hH];exact st,λk hk v' I=>by
     obtain⟨v,q1,q2⟩:=F k hk v' I;exact⟨v,by rw[<- he];exact q1,q2⟩⟩
   .cases h2
  .cases h
 |@bsp t x y sc' _ _ ihx ihy=>
  intro c hc R s K r h φ a w g;simp only[nu]at h;split at h
  .rename_i v hv;rcases lO h with ⟨rfl,h⟩|⟨rfl,h⟩
   .have he:∀q,(s.e.set t (Z (.f .bool M))).get q=s.e.get q:=λq=>by
     rw[PT.get_set];split
     .rename_i e;subst e;exact hv.symm
     .rfl
    obtain⟨g1,hH⟩:=g.congr (s':=⟨s.e.set t (Z (.f .bool M)),s.h,s.nx⟩) he (λ_=>rfl) rfl;refine wp_mono (ihx c hc R _ K r h φ a w g1) ?_;rintro e a' w' ⟨ex,s',φ',rfl,hk,g',st,F⟩;exact⟨ex,s',φ',rfl,hk,g',by rw[<- hH];exact st,λk hk v' I=>by
     obtain⟨v,q1,q2⟩:=(F.mono λk hk=>by simp only[TC.asg];exact js hk) k hk v' I;exact⟨v,by rw[<- he];exact q1,q2⟩⟩
   .have he:∀q,(s.e.set t (Z (.f .bool aa))).get q=s.e.get q:=λq=>by
     rw[PT.get_set];split
     .rename_i e;subst e;exact hv.symm
     .rfl
    obtain⟨g1,hH⟩:=g.congr (s':=⟨s.e.set t (Z (.f .bool aa)),s.h,s.nx⟩) he (λ_=>rfl) rfl;refine wp_mono (ihy c hc R _ K r h φ a w g1) ?_;rintro e a' w' ⟨ex,s',φ',rfl,hk,g',st,F⟩;exact⟨ex,s',φ',rfl,hk,g',by rw[<- hH];exact st,λk hk v' I=>by
     obtain⟨v,q1,q2⟩:=(F.mono λk hk=>by simp only[TC.asg];exact sS hk) k hk v' I;exact⟨v,by rw[<- he];exact q1,q2⟩⟩
  .cases h
 |@unl n b b' _ ih=>
  intro c hc R s K r h φ a w g;obtain⟨c',hn,z,hsim⟩:=ka P nt c;refine hsim _ _ _ ?_;rw[<- z]at hc;obtain⟨cb,rfl,h1⟩:=O7 hn hc;simp only[nu]at h
  let Inv:Nat->Act->World->Prop:=λm a w'=>∃s1 φ1,aaj (λs K=>nu np con bZ inert b s K) m s1 K=Z r/\oB P E nt np φ1 s1 a w'/\Bd np φ φ1 (bB s.h) (bB s1.h) w w'/\fO (b.asg 0) s.e s1.e
  refine Bn Inv ?_ (n:=n) ⟨s,φ,h,g,Bd.refl _ _ _ _,fO.refl _ _⟩;rintro m a1 w1 ⟨s1,φ1,hi,g1,st1,kp1⟩;cases m with
  |zero=>cases hi
  |succ m=>
   simp only[aaj]at hi;refine wp_mono (ih cb h1 R s1 _ r hi φ1 a1 w1 g1) ?_;rintro e a' w' ⟨ex,s',φ',rfl,hk,g',st,F⟩;cases ex with
   |normal=>exact⟨m,qw m,s',φ',hk,g',st1.trans st,kp1.trans F⟩
   |exit id=>exact⟨.exit id,s',φ',rfl,hk,g',st1.trans st,kp1.trans F⟩
   |ret=>exact⟨.ret,s',φ',rfl,hk,g',st1.trans st,kp1.trans F⟩
 |bad sc'=>
  intro c hc R s K r h;simp[nu]at h
theorem MP {P:Program} {φ:PM} {E:Nat->Prop} {s:TS} {a:Act} {w:World} (hinv:l_ s.h s.nx) (hiE:sU s.e s.h) (r:qG φ E (bB s.h) w) (en:Mx φ (tot E φ (bB s.h)) w (fh s.e s.h) a):∀(rs:Y ResultVar) (rvs:Y RV) (l:Y TV),uD P rs=Z rvs->Sa s rvs=Z l->
 ∃la vs,cz s.h l=Z la/\(rs.mapM (VN a.tmps)).run P w= .ok vs w/\jZ φ (tot E φ (bB s.h)) w la vs
 |[],rvs,l,hc,hr=>by
  simp only[uD,af]at hc;subst hc;simp only[Sa,af]at hr;subst hr;exact⟨[],[],rfl,by simp,trivial⟩
 |.tmp t::rs,rvs,l,hc,hr=>by
  simp only[uD]at hc;split at hc
  .rename_i rvs' hrs;simp only[af]at hc;subst hc;simp only[Sa]at hr;split at hr
   .rename_i v hv;split at hr
    .rename_i A d;simp only[af]at hr;subst hr;obtain⟨la,vs,h0,h1,h2⟩:=MP hinv hiE r en rs rvs' A hrs d;simp only[rvT]at hv;obtain⟨y,F⟩:=oX s.h v (hiE t v hv);refine ⟨y::la,a.tmps.getD t undef::vs,oU F h0,?_,en t y (by simp only[fh,hv,aD,F]),h2⟩;simp only[List.mapM_cons,ey,VN,oE,cF];show ((rs.mapM (VN a.tmps)).run P w).andThen _=_;rw[h1];rfl
    .cases hr
   .cases hr
  .cases hc
 |.cell L t::rs,rvs,l,hc,hr=>by
  simp only[uD]at hc;split at hc
  .rename_i rvs' sz ag hrs hsz hag;simp only[af]at hc;subst hc;simp only[Sa]at hr;split at hr
   .rename_i v hv;split at hr
    .rename_i A d;simp only[af]at hr;subst hr;obtain⟨la,vs,h0,h1,h2⟩:=MP hinv hiE r en rs rvs' A hrs d;simp only[rvT]at hv;split at hv
     .rename_i id off hp;split at hv
      .rename_i ty q hb;obtain⟨q',z⟩:=eT s.h q (hinv.cells id _ q hb);obtain⟨y,e1,e2⟩:=UF z hv;obtain⟨H,I⟩:=jL s.h;have hR:CR H sz ag (.ptr (nm id) off)=Z ⟨y,[nm id],[],[],[]⟩:=by
        have hg:H.get (nm id)=Z ⟨ty,.mx q'⟩:=by rw[I,bK,hb];simp only[aD,jv,z]
        simp only[CR,hg,e2]
       obtain⟨_,_,_,h3⟩:=Rc (P:=P) hsz hag hR;obtain⟨qq,D,h4,h5,h6⟩:=h3 φ E (bB s.h) w _ (λi _=>by rw[I]) r (en L _ (by simp only[fh,hp,aD,b9]));refine ⟨y::la,D::vs,oU e1 h0,?_,h6,h2⟩;have hone:(VN a.tmps (.cell L t)).run P w= .ok D w:=by
        simp only[VN,ey,h4,asAddr,oE,cF,h5]
       rw[List.mapM_cons];simp only[ey,hone,cF,h1,oE]
      .cases hv
     .cases hv
    .cases hr
   .cases hr
  .cases hc
theorem Eb:∀(args:Y TV) (k t:Nat) (x:TV),(JD k args).get t=Z x->k<=t/\args[t-k]? =Z x
 |[],k,t,x,h=>by simp[JD,PT.get]at h
 |y::args,k,t,x,h=>by
  rw[JD,PT.get_set]at h;split at h
  .rename_i hk;subst hk;cases h;exact⟨cB _,by simp⟩
  .obtain⟨h1,h2⟩:=Eb args (k+1) t x h;refine ⟨by omega,?_⟩;rw[show t-k=t-(k+1)+1 from by omega];simpa using h2
theorem Yp {h:bl} {l:Y TV} (q:kO h l=M) {j:Nat} {v:TV} (hj:l[j]? =Z v):Km h v=M:=by
 obtain⟨s,hl⟩:=eT h l q;obtain⟨y,_,d⟩:=kY hl j v hj;exact DQ _ _ _ d
theorem R3 {P:Program} {con:FuncId->J ch} {bZ:TypeId->J Ty} {inert:FuncId->Bool} (hm:P.follows .mixedOrders=M) (hcon:JZ P con) (hin:JV P inert) {f:FuncId} {s:SF} (hf:yH P f=Z s) (D:FT) (m:D.pre.ty.den->J D.post.ty.den) (hmod:∀x y,m x=Z y->X5 con bZ inert (Z s) D x=Z y):pD P f ⟨D.pre,D.post,m⟩:=by
 obtain⟨fn,c,hfn,hb,hnm,hcode,hres,hnt⟩:=QZ hf;refine ⟨⟨fn,hfn,by rw[hb];rfl,hnm⟩,λx y hxy vs hp l1 rs hq l2 la lr I o hla hlr φ E w us hrep hrel hdom=>?_⟩;have ht:=hmod x y hxy;unfold X5 at ht;simp only[]at ht;split at ht
 .rename_i args h hins;obtain⟨A,I'⟩:=vq hins;have e1:args=vs:=by have h1:=I.pv;have h2:=I'.pv;rw[h1]at h2;cases h2;rfl
  have e2:A=l1:=by have h1:=I.pb;have h2:=I'.pb;rw[h1]at h2;cases h2;rfl
  subst e1;subst e2;have hget:∀i,h.get i=hp.get i:=λi=>by
   cases h3:hp.get i with
   |some b=>exact (I'.at_ i b).2 ((I.at_ i b).1 h3)
   |none=>
    cases h4:h.get i with
    |none=>rfl
    |some b=>have:=(I.at_ i b).2 ((I'.at_ i b).1 h4);rw[h3]at this;cases this
  have hrow:∀i,eh h i=eh hp i:=λi=>by rw[bP,bP,hget]
  have herH:bB h=bB hp:=by
   funext n;by_cases hn:∃i,n=nm i
   .obtain⟨i,rfl⟩:=hn;rw[bK,bK,hget];cases h3:hp.get i with
    |none=>rfl
    |some b=>
     simp only[aD];refine Iu (λi r hr=>by rw[hrow];exact hr) λty l e=>?_
     exact (I.cells i _ l (by rw[h3,e])).1
   .rw[vA _ hn,vA _ hn]
  have hla':cz h args=Z la:=fR (λi r hr=>by rw[hrow];exact hr) args la hla;split at ht
  .rename_i hle;simp only[ak]at hle;have hle2:=a9 hle.2;have hle:=a9 hle.1;have hlen:=hrel.length;have hargl:args.length=la.length:=(gw hla).symm;refine calls_of_wp_defers hfn hb ?_;have hcfg:oB P E fn.ntmps D.pre.bs.length φ ⟨JD 0 args,h,D.pre.bs.length⟩ {tmps:=us.toArray++oa (fn.ntmps-us.toArray.size) undef,defers:=[]} w:=by
    refine ⟨by rw[herH];exact hrep,?_,hdom,cB _,⟨λi ty l hl=>(I'.cells i _ l hl).1,λi b hbb=>I'.lt_len hbb⟩,?_,by simp,by simp;omega⟩
    .intro t z d;simp only[fh]at d;cases q:(JD 0 args).get t with
     |none=>rw[q]at d;cases d
     |some v0=>
      rw[q]at d;obtain⟨_,h2⟩:=Eb args 0 t v0 q;rw[Nat.sub_zero]at h2;obtain⟨y0,q1,q2⟩:=kY hla' t v0 h2;simp only[aD]at d;rw[d]at q2;cases q2;obtain⟨v,h3,h4⟩:=hrel.get t z q1;have hlt:t<us.length:=(bm.1 h3).1;have:(us.toArray++oa (fn.ntmps-us.toArray.size) undef).getD t undef=v:=by
       rw[gA,Array.getElem?_append];simp only[sG,hlt,bE,kq,h3,uh]
      show cE φ _ w z ((us.toArray++oa (fn.ntmps-us.toArray.size) undef).getD t undef);rw[this,herH];exact h4
    .intro t v0 F;obtain⟨_,h2⟩:=Eb args 0 t v0 F;exact Yp I'.ok h2
   refine wp_mono (aem (E:=E) hm hcon hin (wL D.hints s.code 0) c hcode.symm _ _ _ _ ht φ _ w hcfg) ?_;rintro e a' w' ⟨ex,s',φ',rfl,hk,g',st,_⟩;have fin:(match Sa s' s.res with
    |some l=>(match Dk D.pre.bs.length D.post l s'.h with
     |some ⟨y,_,_,_⟩=>(match BV D.post y with|some _=>Z y|none=>U)
     |none=>U)
    |none=>U)=Z y->Leaves P fn a'.tmps (λen w'=>∃v φ',en= .returned v/\Gu (own φ (bB hp)) w w'/\(∀k,k<w.heap.size->own φ' (bB hq) k->own φ (bB hp) k)/\(∀i,i<D.pre.bs.length->φ' (nm i)=φ (nm i))/\qG φ' E (bB hq) w'/\cE φ' (tot E φ' (bB hq)) w' (C8 lr) v) a'.defers .returning w':=by
    intro hk;split at hk
    .rename_i l hl;split at hk
     .rename_i y' m' σ sm hM;split at hk
      .simp only[af]at hk;subst hk;obtain⟨lo,rvs,q0,q1,q2⟩:=MP g'.invH g'.invE g'.rep g'.env fn.results.toList s.res l hres hl;have g:=vk hM;obtain⟨φ2,lu,hlu,S⟩:=Kg (np:=D.pre.bs.length) (E:=E) o g'.invH g q0 g'.rep;rw[hlr]at hlu;cases hlu;have hresults:(results fn a'.tmps).run P w'= .ok (if h:rvs.toArray.size=1 then rvs.toArray[0] else .tuple rvs.toArray) w':=by
        rw[Sc,Array.mapM_eq_mapM_toList];simp only[ey,Sem.run_map,q1,cF,oE]
       have hrl:jZ φ2 (tot E φ2 (bB hq)) w' lr rvs:=by
        refine jZ.of (by rw[q2.length,S.len]) λj z v d hv=>?_
        obtain⟨L,p1,p2⟩:=S.val j z v d;obtain⟨v',p3,p4⟩:=q2.get j L p1;rw[hv]at p3;cases p3;exact p2 p4
       have hval:cE φ2 (tot E φ2 (bB hq)) w' (C8 lr) (if h:rvs.toArray.size=1 then rvs.toArray[0] else .tuple rvs.toArray):=by
        have hll:=hrl.length;clear hlr S;cases lr with
        |nil=>
         cases rvs with
         |nil=>exact cE.tup (vs:=[]) rfl (by intro j x v q;simp at q)
         |cons _ _=>exact hrl.elim
        |cons z lr=>
         cases rvs with
         |nil=>exact hrl.elim
         |cons v rvs=>
          cases lr with
          |nil=>
           cases rvs with
           |nil=>exact hrl.1
           |cons _ _=>exact hrl.2.elim
          |cons y l=>
           cases rvs with
           |nil=>exact hrl.2.elim
           |cons u rvs=>
            rw[dif_neg (by simp)];refine cE.tup (vs:=v::u::rvs) (by simpa using hll) λj x' v' q hv=>?_
            obtain⟨v'',q1,q2⟩:=hrl.get j x' q;rw[hv]at q1;cases q1;exact q2
       have st':Bd D.pre.bs.length φ φ' (bB hp) (bB s'.h) w w':=by rw[<- herH];exact st
       refine BO hresults ⟨_,φ2,rfl,st'.ext,λk hk ho=>st'.own_ k hk (S.own_ k ho),λi hi=>?_,S.rep,hval⟩ a'.defers g'.inert;rw[S.par i hi (dx hi hle2),st'.par i hi]
      .cases hk
     .cases hk
    .cases hk
   cases ex with
   |normal=>exact fin hk
   |ret=>exact fin hk
   |exit id=>cases hk
  .cases ht
 .cases ht
def TO:Y (FuncId×ch)->FuncId->J ch
 |[],_=>U
 |(g,c)::r,f=>if ax g f then Z c else TO r f
def RK (P:Program):Y (FuncId×ch)->Prop
 |[]=>True
 |p::r=>aG P p.1 p.2/\RK P r
theorem Vf {P:Program}:∀{l:Y (FuncId×ch)},RK P l->JZ P (TO l)
 |[],_,f,c,h=>by simp[TO]at h
 |(g,d)::r,q,f,c,h=>by
  simp only[TO]at h;split at h
  .rename_i hb;have:=au hb;subst this;cases h;exact q.1
  .exact Vf q.2 f c h
theorem PH {P:Program} {inert:FuncId->Bool} (hm:P.follows .mixedOrders=M) (hin:JV P inert) {l:Y (FuncId×ch)} (d:RK P l) {bZ:TypeId->J Ty} {f:FuncId} {D:FT} {m:D.pre.ty.den->J D.post.ty.den} (hs:(yH P f).isSome=M) (he:∀x,X5 (TO l) bZ inert (yH P f) D x=m x):pD P f ⟨D.pre,D.post,m⟩:=by
 obtain⟨q,hf⟩:=iI.1 hs;exact R3 hm (Vf d) hin hf D m λx y hxy=>by rw[<- hf,he];exact hxy
theorem pD.sub {P:Program} {f:FuncId} {pre post:Tm} {m m':pre.ty.den->J post.ty.den} (h:pD P f ⟨pre,post,m⟩) (hs:∀x y,m' x=Z y->m x=Z y):pD P f ⟨pre,post,m'⟩:=
 ⟨h.callable,λx y hxy=>h.calls x y (hs x y hxy)⟩
theorem aG.sub {P:Program} {f:FuncId} {pre post:Tm} {m m':pre.ty.den->J post.ty.den} (h:aG P f ⟨pre,post,m⟩) (hb:dN pre.bs.length post.bs.length=M) (hs:∀x y,m' x=Z y->m x=Z y):aG P f ⟨pre,post,m'⟩:=
 ((h.holds hb).sub hs).toC hb
theorem rh {α:Type} {b:Nat}:∀(x y:Y α),chk (be (ah x) b) (λ_=>Z x)=Z y->aE (ax (ah x) 0) (D' (Z ([]:Y α)) (chk (be (ah ([]:Y α)+ah x) b) λ_=>(Z (([]:Y α)++x)))) (chk (be (ah ([]:Y α)+ah x) b) λ_=>(Z (([]:Y α)++x)))=Z y:=by
 intro x y h;rw[n7,jW,bL,h];cases x with
 |nil=>
  obtain⟨_,h⟩:=dM h;cases h;show D' (Z []) (Z [])=_;unfold D';rw[aU rfl]
 |cons a r=>rfl
theorem S2 {P:Program} {f:FuncId} {pre post:Tm} (hs:(yH P f).isSome=M):pD P f ⟨pre,post,λ_=>U⟩:=by
 obtain⟨d,hf⟩:=iI.1 hs;obtain⟨fn,c,hfn,hb,hnm,_⟩:=QZ hf;exact⟨⟨fn,hfn,by rw[hb];rfl,hnm⟩,λx y h=>by cases h⟩
theorem pD.orElse {P:Program} {f:FuncId} {pre post:Tm} {m m':pre.ty.den->J post.ty.den} (h:pD P f ⟨pre,post,m⟩) (h':pD P f ⟨pre,post,m'⟩):pD P f ⟨pre,post,λx=>match m x with|some y=>Z y|none=>m' x⟩:=
 ⟨h.callable,λx y hxy=>by
   cases hm:m x with
   |some z=>rw[show (ch.m ⟨pre,post,λx=>match m x with|some y=>Z y|none=>m' x⟩ x)=Z z by show (match m x with|some y=>Z y|none=>m' x)=Z z;rw[hm]]at hxy;cases hxy;exact h.calls x _ hm
   |none=>rw[show (ch.m ⟨pre,post,λx=>match m x with|some y=>Z y|none=>m' x⟩ x)=m' x by show (match m x with|some y=>Z y|none=>m' x)=m' x;rw[hm]]at hxy;exact h'.calls x y hxy⟩
theorem aG.orE {P:Program} {f:FuncId} {pre post:Tm} {m m':pre.ty.den->J post.ty.den} (hb:dN pre.bs.length post.bs.length=M) (h:aG P f ⟨pre,post,m⟩) (h':aG P f ⟨pre,post,m'⟩):aG P f ⟨pre,post,λx=>AI.orE (m x) (m' x)⟩:=by
 have e:(λx=>AI.orE (m x) (m' x))=λx=>match m x with|some y=>Z y|none=>m' x:=by funext x;cases m x<;>rfl
 rw[e];exact ((h.holds hb).orElse (h'.holds hb)).toC hb
def X1 (P:Program) (f:Ty->TypeId->Bool):Y Field->Nat->Ty->Bool
 |[],_,.un=>M
 |[x],off,T=>ax x.offset off&&f T x.type&&ax (P.cellsOf x.type) T.size
 |x::y::r,off,.pr a b=>ax x.offset off&&f a x.type&&ax (P.cellsOf x.type) a.size&&X1 P f (y::r) (off+a.size) b
 |_,_,_=>aa
def R2 (P:Program) (f:Ty->TypeId->Bool) (e:TypeId):Nat->Ty->Bool
 |1,T=>f T e&&ax (P.cellsOf e) T.size
 |m+2,.pr a b=>f a e&&ax (P.cellsOf e) a.size&&R2 P f e (m+1) b
 |_,_=>aa
def At (P:Program):Nat->Ty->TypeId->Bool
 |0,_,_=>aa
 |n+1,T,t=>match T,P.underlying t with
  |.int k,Z (.int k')=>k==k'
  |.bool,Z .bool=>M
  |.str,Z .string=>M
  |.sl g,Z (.slice e)=>At P n g e&&ax (P.cellsOf e) g.size&&eP 0 g.size
  |.st g,Z (.struct fs)=>X1 P (At P n) fs.toList 0 g&&ax (P.cellsOf t) g.size
  |.st g,Z (.array m e)=>R2 P (At P n) e m g&&ax (P.cellsOf t) g.size
  |_,_=>aa
def Uz:(T:Ty)->T.den->Prop
 |.int k,n=>(Lit.int k n).wf=M
 |.str,s=>ah s<=maxLen
 |.sl g,xs=>ah xs<=maxLen/\∀x∈(xs:Y g.den),Uz g x
 |.st t,v=>Uz t v
 |.pr a b,v=>Uz a v.1/\Uz b v.2
 |_,_=>True
def JQ (W:World) (T:Ty) (x:T.den) (cs:ξ):Prop:=cs.length=T.size/\∀(j:Nat) y v,(bO T x)[j]? =Z y->cs[j]? =Z v->mj (λ_=>False) W y v
theorem Js {α:Type} (z:α) (P:Nat->α->Prop):∀n:Nat,(∀i,i<n->∃a,P i a)->∃l:Y α,l.length=n/\∀i x,l[i]? =Z x->P i x
 |0,_=>⟨[],rfl,λi x h=>by simp at h⟩
 |n+1,h=>by
  obtain⟨l,hl,hp⟩:=Js z P n (λi hi=>h i (by omega));obtain⟨a,q⟩:=h n (by omega);refine ⟨l++[a],by simp[hl],λi x d=>?_⟩;by_cases hi:i<l.length
  .rw[bT hi]at d;exact hp i x d
  .rw[b8 (by omega)]at d;by_cases h0:i-l.length=0
   .rw[h0]at d;simp at d;subst d;rw[show i=n from by omega];exact q
   .rw[bJ (by simp;omega)]at d;cases d
theorem Addr.add_plain {a:Addr} (h:a.spot=U) (n:Nat):a.add n=⟨a.block,a.off+n,U⟩:=by
 unfold Addr.add;split
 .rename_i h0;subst h0;cases a;simp at h;subst h;rfl
 .rfl
theorem WV {w:World} {a:Addr} {v:Value} (h:w.cell? a=Z v):a.spot=U:=by
 unfold MC at h;split at h
 .split at h
  .cases h
  .rename_i hs;cases hh:a.spot with
   |none=>rfl
   |some _=>simp[hh]at hs
 .cases h
theorem JQ.sub {W:World} {T:Ty} {x:T.den} {cs:ξ} {off n:Nat} (h:JQ W T x ((cs.drop off).take n)) (hn:n=T.size) (hl:off+n<=cs.length):∀(j:Nat) y v,(bO T x)[j]? =Z y->cs[off+j]? =Z v->mj (λ_=>False) W y v:=λj y v d hv=>by
 refine h.2 j y v d ?_;have hj:j<T.size:=by have:=(bm.1 d).1;rwa [bA]at this
 rw[cu,aU (by omega),gM];exact hv
section
variable {H:Type} {enc:TypeId×Value->H} {P:Program} {W:World} {base:Nat} {sp:Nat->Bool} {hd:Bool}
theorem UQ {f:Ty->TypeId->Bool} {m:Nat} (q:∀(T:Ty) (t:TypeId) (cs:ξ) x,f T t=M->DataW.trod enc P W base sp hd m t cs=Z x->∃v,JQ W T v cs/\Uz T v) (cs:ξ) (ts:Y (DataW H×Y MemPlace)):
 ∀(fs:Y Field) (off k:Nat) (T:Ty),X1 P f fs off T=M->off+T.size<=cs.length->(∀(i:Nat) (fl:Field),fs[i]? =Z fl->∃z,DataW.trod enc P W base sp hd m fl.type ((cs.drop fl.offset).take (P.cellsOf fl.type))=Z z)->
 ∃v,(∀(j:Nat) y u,(bO T v)[j]? =Z y->cs[off+j]? =Z u->mj (λ_=>False) W y u)/\Uz T v
 |[],off,k,.un,_,_,_=>⟨(),λj y u d=>by simp[bO]at d,trivial⟩
 |[x],off,k,T,h,hl,hg=>by
  simp only[X1,ak]at h;obtain⟨⟨h1,h2⟩,h3⟩:=h;have h1:=au h1;have h3:=au h3;obtain⟨z,s⟩:=hg 0 x rfl;obtain⟨v,hv,D⟩:=q T _ _ _ h2 s;rw[h1]at hv;exact⟨v,hv.sub h3 (by omega),D⟩
 |x::I::r,off,k,.pr a b,h,hl,hg=>by
  simp only[X1,ak]at h;obtain⟨⟨⟨h1,h2⟩,h3⟩,h4⟩:=h;have h1:=au h1;have h3:=au h3;simp only[Ty.size]at hl;obtain⟨z,s⟩:=hg 0 x rfl;obtain⟨v,hv,D⟩:=q a _ _ _ h2 s;rw[h1]at hv;have hv:=hv.sub h3 (by omega);obtain⟨L,F,A⟩:=UQ q cs ts (I::r) (off+a.size) (k+1) b h4 (by omega) (λi fl hi=>hg (i+1) fl (by simpa using hi));refine ⟨(v,L),λj y u d hu=>?_,D,A⟩;simp only[bO]at d;by_cases hj:j<a.size
  .rw[bT (by rw[bA];exact hj)]at d;exact hv j y u d hu
  .rw[b8 (by rw[bA];omega),bA]at d;exact F _ y u d (by rw[show off+a.size+(j-a.size)=off+j from by omega];exact hu)
theorem UR {f:Ty->TypeId->Bool} {m:Nat} {e:TypeId} (q:∀(T:Ty) (t:TypeId) (cs:ξ) x,f T t=M->DataW.trod enc P W base sp hd m t cs=Z x->∃v,JQ W T v cs/\Uz T v) (cs:ξ):
 ∀(n i:Nat) (T:Ty),R2 P f e n T=M->i*P.cellsOf e+T.size<=cs.length->(∀j,j<n->∃z,DataW.trod enc P W base sp hd m e ((cs.drop ((i+j)*P.cellsOf e)).take (P.cellsOf e))=Z z)->
 ∃v,(∀(j:Nat) y u,(bO T v)[j]? =Z y->cs[i*P.cellsOf e+j]? =Z u->mj (λ_=>False) W y u)/\Uz T v
 |0,i,T,h,_,_=>by unfold R2 at h;cases h
 |1,i,T,h,hl,hg=>by
  simp only[R2,ak]at h;have h3:=au h.2;obtain⟨z,s⟩:=hg 0 (by omega);obtain⟨v,hv,D⟩:=q T _ _ _ h.1 s;rw[db]at hv;exact⟨v,hv.sub h3 (by omega),D⟩
 |n+2,i,T,h,hl,hg=>by
  cases T with
  |pr a b=>
   simp only[R2,ak]at h;obtain⟨⟨h1,h2⟩,h4⟩:=h;have h3:=au h2;simp only[Ty.size]at hl;obtain⟨z,s⟩:=hg 0 (by omega);obtain⟨v,hv,D⟩:=q a _ _ _ h1 s;rw[db]at hv;have hv:=hv.sub h3 (by omega);obtain⟨I,F,A⟩:=UR q cs (n+1) (i+1) b h4 (by rw[MD,Nat.one_mul];omega) (λj hj=>by have:=hg (j+1) (by omega);rwa [show i+(j+1)=i+1+j from by omega]at this);refine ⟨(v,I),λj y u d hu=>?_,D,A⟩;simp only[bO]at d;by_cases hj:j<a.size
   .rw[bT (by rw[bA];exact hj)]at d;exact hv j y u d hu
   .rw[b8 (by rw[bA];omega),bA]at d;exact F _ y u d (by rw[MD,Nat.one_mul,show i*P.cellsOf e+P.cellsOf e+(j-a.size)=i*P.cellsOf e+j from by omega];exact hu)
  |_=>unfold R2 at h;cases h
theorem GG:∀(n:Nat) (T:Ty) (t:TypeId) (fuel:Nat) (cs:ξ) x,At P n T t=M->(∀b,sp b=M)->DataW.trod enc P W base sp hd fuel t cs=Z x->∃v,JQ W T v cs/\Uz T v
 |0,_,_,_,_,_,h,_,_=>by unfold At at h;cases h
 |n+1,T,t,fuel,cs,x,h,hsp,ht=>by
  unfold At at h;split at h
  .rename_i k k' hu;have hk:=eq_of_beq h;subst hk;obtain⟨m,rfl,_,z⟩:=DataW.trod_int hu ht;refine ⟨m,⟨rfl,λj y v d hv=>?_⟩,z⟩;cases j with
   |zero=>simp[bO]at d hv;subst d hv;exact .raw _
   |succ j=>simp[bO]at d
  .rename_i hu;obtain⟨b,rfl,_⟩:=DataW.trod_bool hu ht;refine ⟨b,⟨rfl,λj y v d hv=>?_⟩,trivial⟩;cases j with
   |zero=>simp[bO]at d hv;subst d hv;exact .raw _
   |succ j=>simp[bO]at d
  .rename_i hu;obtain⟨s,rfl,_,hs⟩:=DataW.trod_string hu ht;refine ⟨s.data.toList,⟨rfl,λj y v d hv=>?_⟩,by simpa[Uz] using hs⟩;cases j with
   |zero=>simp[bO]at d hv;subst d hv;exact .raw _
   |succ j=>simp[bO]at d
  .rename_i g e hu;simp only[ak]at h;obtain⟨⟨h1,h2⟩,h3⟩:=h;have h2:=au h2;have h3:0<g.size:=a9 h3;rcases Go.Deep.open_slice hu ht with ⟨rfl,_⟩|⟨a,len,cap,m,k,D,Pl,rfl,hb,hl,hm,hmm,_,hi⟩
   .refine ⟨[],⟨rfl,λj y v d hv=>?_⟩,by simp[Uz]⟩;cases j with
    |zero=>simp[bO]at d hv;subst d hv;exact .nil _ _ (by unfold maxLen;omega)
    |succ j=>simp[bO]at d
   .rw[hsp,aU rfl]at hmm;rw[h2]at hi;obtain⟨xs,hx1,F⟩:=Js g.zero (λi (v:g.den)=>∃cs',W.cells? base (a.add (i*g.size)) g.size=Z cs'/\JQ W g v cs'/\Uz g v) len (λi hil=>by
     obtain⟨cs',hc,htt⟩:=hi i (by omega);obtain⟨v,hv,z⟩:=GG n g e k cs' _ h1 hsp htt;exact⟨v,cs',hc,hv,z⟩)
    refine ⟨xs,⟨rfl,λj y v d hv=>?_⟩,by show ah xs<=maxLen;omega,λy d=>?_⟩
    .cases j with
     |succ j=>simp[bO]at d
     |zero=>
      simp[bO]at d hv;subst d hv;by_cases h0:len=0
      .have:xs=[]:=jg.1 (by omega);subst this;subst h0;exact .nil _ _ hm
      .obtain⟨x0,hx0⟩:∃x0,xs[0]? =Z x0:=⟨xs[0]'(by omega),aw (by omega)⟩
       obtain⟨cs0,hc0,_⟩:=F 0 x0 hx0;obtain⟨_,hcl0,hat0⟩:=World.cells?_some hc0;have hca:=hat0 0 h3;rw[aw (by omega)]at hca;have hspot:a.spot=U:=by
        have:=WV hca;simpa[Addr.add] using this
       have hblk:=World.block_lt_of_cell? W _ hca;rw[Nat.zero_mul,Addr.add_plain hspot,Addr.add_plain rfl]at hca hblk;have hcell:∀(i j:Nat) x,xs[i]? =Z x->j<g.size->∃cs',W.cell? ⟨a.block,a.off+(i*g.size+j),U⟩=cs'[j]? /\j<cs'.length/\JQ W g x cs':=λi j x I hj=>by
        obtain⟨cs',hc,hr,_⟩:=F i x I;obtain⟨_,hcl,hat⟩:=World.cells?_some hc;have:=hat j hj;rw[Addr.add_plain hspot,Addr.add_plain rfl,vV]at this;exact⟨cs',this,by omega,hr⟩
       have hflat:∀j,j<xs.length*g.size->∃x,xs[j/g.size]? =Z x/\j%g.size<g.size/\j=j/g.size*g.size+j%g.size:=λj hj=>by
        have h5:j/g.size<xs.length:=Nat.div_lt_of_lt_mul (by rw[Gz];exact hj);exact⟨xs[j/g.size],aw h5,Nat.mod_lt _ h3,by rw[Gz];exact (Nat.div_add_mod j g.size).symm⟩
       have hlen:(List.flatMap (bO g) xs).length=xs.length*g.size:=eF (bA g) xs;obtain⟨ab,ao,az⟩:=a;cases hspot;rw[<- hx1];refine .sl (List.flatMap (bO g) xs) xs.length cap ab ao (λj=>(W.cell? ⟨ab,ao+j,U⟩).getD undef) (by omega) hm (λh=>h) hblk (rc g xs) (λj hj=>?_) (λj y d=>?_)
       .obtain⟨x,I,hjs,hje⟩:=hflat j (by omega);obtain⟨cs',L,g2,_⟩:=hcell _ _ x I hjs;rw[<- hje]at L;simp only[L,aw g2,uh]
       .have hj:j<xs.length*g.size:=by rw[<- hlen];exact (bm.1 d).1
        obtain⟨x,I,hjs,hje⟩:=hflat j hj;obtain⟨cs',L,g2,g3⟩:=hcell _ _ x I hjs;rw[<- hje]at L;simp only[L];rw[aw g2];refine g3.2 (j%g.size) y _ ?_ (aw g2);obtain⟨r,hr⟩:=DM (bA g) xs (j/g.size) x I;have:((List.flatMap (bO g) xs).drop (j/g.size*g.size))[j%g.size]? =Z y:=by rw[gM,<-hje];exact d
        rw[hr,bT (by rw[bA];exact hjs)]at this;exact this
    .obtain⟨i,A⟩:=eR d;obtain⟨_,_,_,z⟩:=F i y A;exact z
  .rename_i g fs hu;simp only[ak]at h;have h2:=au h.2;obtain⟨xs,m,rfl,_,hl,hxl,hg⟩:=DataW.trod_struct hu ht;obtain⟨v,hv,z⟩:=UQ (f:=At P n) (m:=m) (λT t cs x h1 h2=>GG n T t m cs x h1 hsp h2) cs xs fs.toList 0 0 g h.1 (by omega) (λi fl hi=>by
    have A:fs[i]? =Z fl:=by simpa using hi
    have:=hg i fl A;have hlt:i<xs.length:=by rw[hxl];exact (cq.1 A).1
    rw[aw hlt]at this;exact⟨_,this⟩)
   exact⟨v,⟨by rw[hl,h2];rfl,λj y u d hu=>hv j y u d (by rw[bL];exact hu)⟩,z⟩
  .rename_i g m e hu;simp only[ak]at h;have h2:=au h.2;obtain⟨xs,q,rfl,_,hl,hxl,hg⟩:=DataW.trod_array hu ht;obtain⟨v,hv,z⟩:=UR (f:=At P n) (m:=q) (λT t cs x h1 h2=>GG n T t q cs x h1 hsp h2) cs m 0 g h.1 (by omega) (λj hj=>by
    have:=hg j hj;rw[aw (by omega)]at this;rw[bL];exact⟨_,this⟩)
   exact⟨v,⟨by rw[hl,h2];rfl,λj y u d hu=>hv j y u d (by rw[Nat.zero_mul,bL];exact hu)⟩,z⟩
  .cases h
theorem OY {n:Nat} {T:Ty} {t:TypeId} {v:Value} {r:Reach} {bs:Nat} (d:At P n T t=M) (h1:T.one=M) (h:Gw P W r bs t v):v.cells.toList=[v]:=by
 cases n with
 |zero=>unfold At at d;cases d
 |succ n=>
  unfold At at d;unfold Gw at h;cases v with
  |agg cs=>
   exfalso;split at d<;>rename_i hu<;>first|(rw [hu]at h;simp only[]at h;unfold Cell.okWide at h;rw[hu]at h;unfold Cell.ok at h;rw[hu]at h;simp at h)|cases h1|cases d
  |_=>rfl
theorem Sf {n:Nat} {T:Ty} {t:TypeId} {v:Value} {r:Reach} {bs:Nat} (d:At P n T t=M) (h1:T.one=aa) (h:Gw P W r bs t v):∃cs,v= .agg cs:=by
 cases n with
 |zero=>unfold At at d;cases d
 |succ n=>
  unfold At at d;unfold Gw at h;split at d<;>rename_i hu<;>first|(rw [hu]at h;obtain⟨cs,h,_⟩:=h;exact⟨cs,h⟩)|cases h1|cases d
theorem open_arg {n:Nat} {T:Ty} {t:TypeId} {v:Value} {d:DataW H} {ps:Y MemPlace} {r:Reach} {bs:Nat} (s:At P n T t=M) (hsp:∀b,sp b=M) (hok:Gw P W r bs t v) (h:DataW.Trod enc P W base sp hd t v d ps):∃x,mj (λ_=>False) W (gg T x) v/\Uz T x:=by
 obtain⟨fuel,hf⟩:=h;obtain⟨x,q,A⟩:=GG n T t fuel _ _ s hsp hf;refine ⟨x,?_,A⟩;by_cases h1:T.one=M
 .obtain⟨e1,e2⟩:=Cf T x h1;exact q.2 0 _ v (by rw[e1];rfl) (by rw[OY s h1 hok];rfl)
 .obtain⟨cs,rfl⟩:=Sf s (by simpa using h1) hok;rw[qj T x (by simpa using h1)];have hl:cs.toList.length=(bO T x).length:=by rw[bA];exact q.1
  have:=mj.agg (O:=λ_=>False) (w:=W) (bO T x) cs.toList hl (nN T x) (λj y u z hu=>q.2 j y u z hu);simpa using this
end
theorem Eg {w:WT} {l:Y ET} (h:¬uE (w,l)):jF (w,l)=Z ([],12):=by
 obtain⟨⟨a,b⟩,e,hq⟩:=aa4 w l;have hb:¬b=0:=λg=>h (hq.1 g)
 refine bX ?_;unfold jF tK aX bn ck bx iA bp bF aY cH aB ct;exact aQ e (bW (λ_=>ai rfl) λg=>(hb g).elim)
theorem JJ (e:ET):Ok (qV e) λb=>b=M->e.2.1=3\/e.2.1=4:=by
 unfold qV bi aB;exact fw (aF (λh=>ai (ai λ_=>.inl h)) λ_=>ai (ai λh=>.inr (ba h)))
theorem NO {w:WT} {l:Y ET} (s:uE (w,l)) {a b:Nat} (z:a<l.length) (hb:b<l.length):Ok (qb ((w,l),(a:Int),(b:Int))) λ_=>True:=by
 have hev:=s.ev _ (IB hb);unfold qb aX bh bn bi bF aB;refine dV (aV (dV (aV ?_)));refine aW (λx=>x.2=((w,l),eN l a,eN l b)) (aF (λ_=>ai rfl) λ_=>ai rfl) ?_;rintro⟨x,y⟩ e;dsimp only at e;subst e;refine aJ (λ_=>ai trivial) λF=>?_
 refine aW (λx=>x.2=(eN l a,eN l b)) ?_ ?_
 .refine ar (JJ _) λb1 h1=>cQ (λ_=>ai rfl) λD=>ar (JJ _) λI h2=>cQ (λ_=>ai rfl) λA=>?_
  have hc:=hev.nm.ce (h2 A);by_cases q:(eN l a).2.2.1=(eN l b).2.2.1
  .dsimp only;rw[q];exact aK hc.1 hc.2 (aV (ai rfl))
  .have d:=(s.ev _ (IB z)).nm.ce (h1 D);exact aK d.1 d.2 (aV (ai rfl))
 rintro⟨x,y⟩ e;dsimp only at e;subst e;exact aJ (λ_=>ai trivial) λ_=>aW (λ_=>True) (aF (λ_=>ai trivial) λ_=>ai trivial) λ_ _=>ai trivial
set_option maxRecDepth 10000 in
theorem Xi {w:WT} {l:Y ET} (tr:uE (w,l)):Ok (kU (w,l)) λy=>y.2=0:=by
 have hl:=tr.len;dsimp only at hl;unfold kU vx bx iA bp bF aY cH aB ct;refine aQ (MA tr) (gD (aQ (Wo tr) ?_));refine dY l.length (by omega) (λb x=>(x.1=(b:Int)/\x.2.1=(w,l))/\x.2.2.length<=b*400) ?_ ?_ ⟨⟨rfl,rfl⟩,by simp⟩
 .rintro b ⟨x1,x2,r⟩ hb ⟨⟨e1,e2⟩,hr⟩;dsimp only at e1 e2 hr;subst e1;subst e2;refine io ?_;refine dY b (by omega) (λi x=>(x.1=(i:Int)/\x.2.1=(w,l))/\x.2.2.length<=b*400+i) ?_ ?_ ⟨⟨rfl,rfl⟩,by dsimp only;omega⟩
  .rintro i ⟨x1,x2,r⟩ hi ⟨⟨e1,e2⟩,hr⟩;dsimp only at e1 e2 hr;subst e1;subst e2;refine io ?_;refine aW (λx=>x.1=(w,l)/\x.2.length<=b*400+(i+1)) ?_ ?_
   .refine aW (λx=>x.2=((w,l),r)) ?_ ?_
    .refine ar (NO tr (show i<l.length by omega) hb) λc _=>aJ (λ_=>?_) λ_=>ai rfl
     refine aK (by dsimp only;omega) (by dsimp only;rw[co,jQ];omega) (aV (aK (by dsimp only;omega) (by dsimp only;rw[co,jQ];omega) (aV ?_)));dsimp only;rw[Zb hb,Y' (show i<l.length by omega)];exact aQ (Uw _ _ _) (ai rfl)
    rintro⟨x,y⟩ e;dsimp only at e;subst e;refine aJ (λ_=>a_ ?_ (by omega) (ai ⟨rfl,?_⟩)) λ_=>ai ⟨rfl,by dsimp only;omega⟩
    .dsimp only;rw[cP];omega
    .dsimp only;rw[bY,cP];omega
   rintro⟨x,y⟩ ⟨e,h⟩;dsimp only at e h;subst e;exact ai ⟨⟨fk (by omega),rfl⟩,h⟩
  .rintro⟨x1,x2,r⟩ ⟨⟨e1,e2⟩,hr⟩;dsimp only at e1 e2 hr;subst e1;subst e2;exact gS (ai ⟨⟨fk (by omega),rfl⟩,by dsimp only;omega⟩)
 .rintro⟨x1,x2,r⟩ ⟨⟨e1,e2⟩,hr⟩;dsimp only at e1 e2 hr;subst e1;subst e2;exact gS (ai rfl)
theorem ZS {w:WT} {l:Y ET} (h:¬uE (w,l)):kU (w,l)=Z ([],12):=by
 refine bX ?_;unfold kU vx bx iA bp bF aY cH aB ct;exact aQ (Eg h) (eL rfl (ai rfl))
theorem XH {w:WT} {l:Y ET} (h:¬uE (w,l)) (i j:Int):tF ((w,l),i,j)=Z aa:=by
 refine bX ?_;unfold tF bx ja iA bF aY aB;refine aW (λx=>x.2=(w,l)) (aR (λ_=>ai rfl) λ_=>dT (λ_=>ai rfl) λ_=>ai rfl) ?_;rintro⟨b,x⟩ e;dsimp only at e;subst e;exact aJ (λ_=>ai rfl) λ_=>aQ (Eg h) (eL rfl (ai rfl))
theorem Db (w:WT) (l:Y ET) (i j:Int):jE ((w,l),i,j)=Z M:=by
 refine bX ?_;unfold jE bi aY aB;refine ar (aa5 w l) λy d=>?_
 by_cases h:uE (w,l)
 .refine aQ (MA h) (ar (Xi h) λz q=>aF (λ_=>fw (pu (aF (λ_=>ai (ai (bc ?_))) λg=>(g q).elim))) λg=>(g (d.2 h)).elim);dsimp only;rw[co,jQ]
 .refine aQ (Eg h) (aQ (ZS h) (aF (λg=>(h (d.1 g)).elim) λ_=>fw (pu (pu (pu (pu (aQ (XH h i j) (ai (ai rfl)))))))))
theorem RJ (a b c:η) (at_ fi n:Int) (L:a.length<=9223372036854775807) (I:∀z∈a,0<=z/\z<=255) (hc:c.length<=9223372036854775807) (F:∀z∈c,0<=z/\z<=255) (h0:0<=at_/\at_<=255) (m:Int) (D:0<=m) (m1:m<=1000000):Ok (j6 ((a,b,c),m,at_,fi,n)) λ_=>True:=by
 unfold j6 aX bh bk bS da cI cC dI gG bi mF bp bF aY aB;refine ar (N' a b c m D m1 L I hc F) ?_;rintro⟨w,l⟩ A;have hl:=A.len;dsimp only at hl;refine aF (λ_=>ai trivial) λs=>?_
 have s:¬(l.length:Int)=0:=s;have hj:0<=bo (aZ .i64 at_) (aT l.length)/\bo (aZ .i64 at_) (aT l.length)<(l.length:Int):=by
  rw[gF (by omega) (by omega)];exact⟨Int.tmod_nonneg _ h0.1,Int.tmod_lt_of_pos _ (by dsimp only[aj];omega)⟩
 dsimp only at hj ⊢;generalize bo (aZ .i64 at_) (aT l.length)=j at hj ⊢;obtain⟨d,q⟩:=hj;have hls:=A.ls _ (bH (T:=tE) (xs:=l) (j:=j) d q);obtain⟨ls1,ls2⟩:=hls;refine a_ (by omega) (by omega) (u_ s (aK d q ?_));refine aW (λ_=>True) ?_ λ_ _=>ai trivial
 refine aF (λ_=>aK d q (ai trivial)) λ_=>aF (λ_=>aK d q (ai trivial)) λ_=>aF (λ_=>aK d q (ai trivial)) λ_=>aF (λ_=>aK d q (ai trivial)) λ_=>aF (λ_=>aK d q (ai trivial)) λ_=>aF (λ_=>aK d q (aV ?_)) λ_=>aF (λ_=>aK d q (aV ?_)) λ_=>?_
 .exact a_ (by omega) (by omega) (a_ (by rw[cP];omega) (by omega) (aK d q (ai trivial)))
 .exact a_ (by omega) (by omega) (a_ (by rw[cP];omega) (by omega) (aK d q (ai trivial)))
 refine aW (λx=>x.2.2.2.2.2.2.2=l) (ai rfl) ?_;rintro⟨x1,x2,x3,x4,x5,x6,x7,x8⟩ e;dsimp only at e;subst e;refine aJ (λ_=>?_) λ_=>ai trivial
 have w1:aZ .i64 (j+1)=j+1:=gF (by omega) (by omega);dsimp only;rw[w1];refine cR (cR (MV rfl (du d (du (by omega) (cR (du (by omega) (du (by omega) (a_ ?_ (by omega) (aJ (λ_=>ai trivial) λ_=>ai trivial)))))))));rw[b_,kC];omega
theorem Gt (t:WT×Y ET) (a b c:η) (at_ fi n i j:Int) (A:a.length<=9223372036854775807) (s:∀z∈a,0<=z/\z<=255) (hc:c.length<=9223372036854775807) (d:∀z∈c,0<=z/\z<=255) (h0:0<=at_/\at_<=255):Ok (kT (t,(a,b,c),(at_,fi,n),i,j)) λy=>y=M:=by
 obtain⟨w,l⟩:=t;unfold kT aX bh bk bn cC bx aY aB;refine aW (λx=>x.2=((w,l),(a,b,c),at_,fi,n)) (aR (λ_=>ai rfl) λ_=>aR (λ_=>ai rfl) λ_=>ai rfl) ?_;rintro⟨q,x⟩ e;dsimp only at e;subst e;refine aJ (λ_=>aQ JA (ai rfl)) λ_=>?_
 refine fw (aQ (Db w l i j) (pu (ar (RJ a b c at_ fi n A s hc d h0 30 (by omega) (by omega)) ?_)));rintro⟨w1,l1⟩ _;refine aQ (Db w1 l1 i j) (pu (ar (RJ a b c at_ fi n A s hc d h0 30 (by omega) (by omega)) ?_));rintro⟨w2,l2⟩ _;exact aQ (Db w2 l2 0 1) (pu (aQ JA (ai (ai rfl))))
theorem N5 {z:Int} (h:(Lit.int .u8 z).wf=M):0<=z/\z<=255:=⟨ba (t7.1 h).1,ba (t7.1 h).2⟩
theorem HBRefuses_law (x:(WT×Y ET)×(η×η×η)×(ν)×Int×Int) (w:Uz (.pr (.st (.pr nj (.sl fZ))) (.pr (.st (.pr (.sl (.int .u8)) (.pr (.sl (.int .u8)) (.sl (.int .u8))))) (.pr (.st (.pr (.int .u8) (.pr (.int .u8) (.int .i8)))) (.pr (.int .i64) (.int .i64))))) x):kT x=Z M:=by
 obtain⟨t,⟨a,b,c⟩,⟨at_,fi,n⟩,i,j⟩:=x;obtain⟨_,⟨⟨l0,w0⟩,_,⟨l2,w2⟩⟩,⟨q1,_⟩,_⟩:=w;obtain⟨y,h,rfl⟩:=Gt t a b c at_ fi n i j l0 (λz d=>N5 (w0 z d)) l2 (λz d=>N5 (w2 z d)) (N5 q1);exact h
def inert (f:FuncId):Bool:=ax f 62
theorem O9:∃d,Tryz.prog.underlying 20=Z (.interface d):=⟨#[],by kernel_rfl⟩
theorem YK (w:World):(Op.equal 20 .nilIface .nilIface).run Tryz.prog w= .ok M w:=by
 obtain⟨q,hu⟩:=O9;have key:∀d,(Op.equalIn (d+1) 20 .nilIface .nilIface).run Tryz.prog w= .ok M w:=λd=>by simp[Op.equalIn,run_underlying hu]
 exact key 9999
theorem Ym {P:Program} {ops:Array Oper} {Q:Exit->Act->Y Frame->World->Prop} {i:Nat} {rest:ι} {a:Act} {cs:Y Frame} {w w':World} {o:Oper} (q:ops[i]? =Z o) (d:o.guard=U) (hr:(execOp a.eval o).run P w= .ok .recover w') (hn:recoverD cs=U) (h:wpOpsS P ops Q rest (a.put o.dst .nilIface) cs w'):wpOpsS P ops Q (i::rest) a cs w:=by
 have d:iH o (yielded ops a.tmps)=M:=by unfold iH;rw[d]
 simp only[wpOpsS,q,d,bE,hr,hn];exact h
theorem Yl {P:Program} {ops:Array Oper} {Q:Exit->Act->Y Frame->World->Prop} {i:Nat} {rest:ι} {a:Act} {cs:Y Frame} {w w':World} {o:Oper} {v:Value} (q:ops[i]? =Z o) (d:o.guard=U) (hr:(execOp a.eval o).run P w= .ok (.value v) w') (h:wpOpsS P ops Q rest (a.put o.dst v) cs w'):wpOpsS P ops Q (i::rest) a cs w:=by
 have d:iH o (yielded ops a.tmps)=M:=by unfold iH;rw[d]
 simp only[wpOpsS,q,d,bE,hr];exact h
theorem O8:JV Tryz.prog inert:=by
 intro f hf;have hf:f=62:=au hf;subst hf;refine ⟨⟨Tryz.f62,Tryz.func62,by kernel_rfl,by kernel_rfl⟩,λargs w=>?_⟩;refine callsD_of_wpS Tryz.func62 rfl λc₀ cs hu=>?_
 refine wpS_seq (wpS_region ?_);generalize ht:(args++oa (Tryz.f62.ntmps-args.size) undef)=T;have hs:5<=T.size:=by
  rw[<- ht];simp only[Array.size_append,Array.size_replicate];have:Tryz.f62.ntmps=5:=rfl;omega
 have hr:recoverD (c₀::cs)=U:=by simp[recoverD,hu]
 refine Ym (i:=0) (rest:=[1]) rfl rfl (w':=w) ?_ hr ?_
 .simp[execOp,resolve,invoke,builtin]
 refine Yl (v:=.bool aa) rfl rfl (w':=w) ?_ ?_
 .have hv:Act.eval (MF {tmps:=T,defers:=[]} (Z 2) .nilIface) (.tmp 2)= .nilIface:=by
   simp[Act.eval,MF,show 2<T.size by omega]
  have h2:=YK w;have hcst:Act.eval (MF {tmps:=T,defers:=[]} (Z 2) .nilIface) (.const .nilIface)= .nilIface:=rfl;show (execOp (Act.eval (MF {tmps:=T,defers:=[]} (Z 2) .nilIface)) _).run _ w=_;simp[execOp,hv,hcst,eqGuard,binOp,h2]
 show Exit.thenS _ _ .normal _ _ _;refine wpS_cond (t:=aa) ?_ ?_
 .simp[Act.eval,MF,show 3<T.size by omega]
 refine wpS_of_wp (wp_skip ?_);have hres:Tryz.f62.results=#[]:=rfl;exact⟨rfl,c₀.mode,rfl,.tuple #[],by simp[results,hres],⟨_,rfl⟩,hu,rfl⟩
def dL {α:Type}:Y (Nat×α)->PT α
 |[]=>.leaf
 |p::r=>(dL r).set p.1 (Z p.2)
noncomputable abbrev Pg:Program:=Tryz.prog
def cn (D:FT) (m:D.pre.ty.den->J D.post.ty.den):ch:=⟨D.pre,D.post,m⟩
theorem ahv:Pg.follows .mixedOrders=M:=by kernel_rfl
theorem ac {f:FuncId} {c:ch} {l:Y (FuncId×ch)} (h:aG Pg f c) (t:RK Pg l):RK Pg ((f,c)::l):=⟨h,t⟩
theorem an:RK Pg []:=trivial
inductive OI {R:Type}:Option R->Option R->Prop where
 |rfl {a:Option R}:OI a a
 |chk {b:Bool} {k k':Option R} (h:li k k'):OI (chk b λ_=>k) (chk b λ_=>k')
 |aE {b:Bool} {t f t' f':Option R} (h1:li t t') (h2:li f f'):OI (aE b t f) (aE b t' f')
 |lt {α:Type} {x:α} {k k':α->Option R} (h:∀y,li (k y) (k' y)):OI (lt x k) (lt x k')
 |jn {α:Type} {o o':Option (R⊕α)} {k k':α->Option R} (h:li o o') (hk:∀x,li (k x) (k' x)):OI (jn o k) (jn o' k')
 |av {α:Type} {o o':Option α} {k k':α->Option R} (h:li o o') (hk:∀x,li (k x) (k' x)):OI (av o k) (av o' k')
 |iter {σ:Type} {f g:σ->Option (σ⊕R)} {x:σ} (h:∀x,li (f x) (g x)):OI (fX f x) (iter g x)
theorem OI.o {R:Type} {a b:J R} (h:OI a b):li a b:=by
 cases h with
 |rfl=>exact li.rfl
 |chk h=>exact li.chk h
 |aE h g=>exact li.bcase h g
 |lt h=>exact li.lt h
 |jn h g=>exact li.jn h g
 |av h g=>exact li.obind h g
 |iter h=>exact li.iter h
theorem mk {f:FuncId} (D:FT) (m:D.pre.ty.den->J D.post.ty.den) {l:Y (FuncId×ch)} (q:RK Pg l) (d:TypeId->J Ty) (he:∀x,X5 (TO l) d inert (yH Pg f) D x=m x:=by intro x;kernel_rfl) (hs:(yH Pg f).isSome=M:=by kernel_rfl) (hb:dN D.pre.bs.length D.post.bs.length=M:=by kernel_rfl):aG Pg f (cn D m):=(PH ahv O8 q hs he).toC hb
theorem xV {f:FuncId} (D:FT) (m n:D.pre.ty.den->J D.post.ty.den) (q:∀x,li (m x) (n x)) {l:Y (FuncId×ch)} (s:RK Pg l) (d:TypeId->J Ty) (he:∀x,X5 (TO l) d inert (yH Pg f) D x=n x:=by intro x;kernel_rfl) (hs:(yH Pg f).isSome=M:=by kernel_rfl) (hb:dN D.pre.bs.length D.post.bs.length=M:=by kernel_rfl):aG Pg f (cn D m):=((PH ahv O8 s hs he).sub q).toC hb
theorem LG {f:FuncId} (D:FT) (hs:(yH Pg f).isSome=M:=by kernel_rfl) (hb:dN D.pre.bs.length D.post.bs.length=M:=by kernel_rfl):aG Pg f (cn D λ_=>U):=(S2 hs).toC hb
abbrev ue:Y PV:=[.d aM,.d aM,.d aM,.d aM,.d aM,.nil,.nil]
abbrev uQ:Y PV:=[.nil,.d aM,.nil,.nil,.nil,.nil,.nil]
abbrev aed:Y PV:=[.ptr 1 0,.d aM,.d aM,.d .bool,.d .bool,.d .bool,.d .bool,.row 4]
abbrev aeh:Y PV:=[.d aM,.d aM,.d .str,.d .str,.nil,.d aM,.d aM,.d .str,.nil,.nil,.nil]
abbrev ZZ:Y PB:=[.cells 222 aed,.cells 140 [.d xF],.gone,.cells 228 aeh,.rowsP 9 .str]
abbrev Mv:Y PV:=[.ptr 0 0,.ptr 1 0,.ptr 2 0,.ptr 3 0,.ptr 4 0,.ptr 5 0,.ptr 6 0,.ptr 7 0,.d .bool]
abbrev La4:Y PB:=[.cells 214 [.d (.sl kB),.d (.sl qr),.d (.sl ll),.d (.sl .str),.d (.sl .str),.d (.sl nQ),.d (.sl .str),.row 2,.d aM,.d aM],.gone,.rows 218 M qz]
abbrev La5:Y PB:=[.cells 214 [.d (.sl kB),.d (.sl qr),.d (.sl ll),.d (.sl .str),.d (.sl .str),.d (.sl nQ),.d (.sl .str),.row 1,.d aM,.d aM],.rows 218 M qz]
abbrev ZY:Y PV:=[.d aM,.row 11,.row 12,.d aM]
abbrev La7:Y PB:=[.cells 183 [.nil,.nil],.cells 222 [.ptr 5 0,.d aM,.d aM,.d .bool,.d .bool,.d .bool,.d .bool,.row 6],.cells 183 [.d (.sl Fx),.row 7],.rows 9 aa .str,.cells 212 [.d .str,.d aM,.row 8,.row 9],.cells 140 [.d xF],.rowsP 9 .str,.rows 212 M sq,.rows 9 aa .str,.rows 228 M .sm]
abbrev La8:Y PB:=[.cells 252 [.d (.sl Fx),.d (.sl sq),.d aM,.row 1,.row 6,.row 7],.rowsP 228 .sm,.gone,.gone,.cells 228 [.d .sm],.cells 183 [.d Mw],.rows 9 M .str,.rows 9 M .str]
abbrev La9:Y PV:=[.d (.sl dl),.d aM,.d l9,.d (.sl gC),.row 8,.row 9,.csl 10 4 4]
abbrev ad2:Y PB:=[.cells 145 [.d (.sl dl),.d aM,.d l9,.d (.sl gC),.row 6,.row 7,.csl 8 4 4],.cells 186 [.d ij],.cells 145 uQ,.cells 60 ue,.cells 60 [.d fZ],.cells 205 [.d eG],.rows 2 M aM,.rows 2 M aM,.cells 205 [.d eG,.d eG,.d eG,.d eG]]
abbrev aee:Y PV:=[.ptr 1 0,.d aM,.d aM,.d .bool,.d .bool,.d .bool,.d .bool,.row 2]
abbrev Oe:Y PV:=[.d CY,.d aM]
abbrev Ur:Y PB:=[.cells 222 aee,.cells 140 Oe,.rowsP 9 .str]
abbrev Ll:Y PV:=[.ptr 0 0,.ptr 1 0,.ptr 2 0,.ptr 3 0,.ptr 4 0,.ptr 5 0,.ptr 6 0,.ptr 7 0,.d aM]
abbrev ag6:Y PV:=[.d (.sl dl),.d aM,.d l9,.d (.sl gC),.row 8,.row 9,.csl 10 4 3]
abbrev agr:Y PB:=[.cells 150 [.d tY],.cells 145 ag6,.cells 186 [.d ij],.cells 145 uQ,.cells 60 ue,.cells 60 [.d fZ],.cells 205 ZY,.cells 218 [.d qz],.rows 2 M aM,.rows 2 M aM,.cells 205 [.d aM,.row 11,.row 12,.d aM,.d eG,.d eG],.rows 2 M aM,.rows 58 M (.sl aM)]
abbrev agq:Y PB:=[.cells 150 [.d tY],.cells 145 ag6,.cells 186 [.d ij],.cells 145 uQ,.cells 60 ue,.cells 60 [.d fZ],.cells 205 ZY,.cells 218 [.d qz],.rows 2 M aM,.rows 2 M aM,.cells 205 [.d eG,.d aM,.row 11,.row 12,.d aM,.d eG],.rows 2 M aM,.rows 58 M (.sl aM)]
abbrev agp:Y PB:=[.cells 150 [.d tY],.cells 145 ag6,.cells 186 [.d ij],.cells 145 uQ,.cells 60 ue,.cells 60 [.d fZ],.cells 205 ZY,.cells 218 [.d qz],.rows 2 M aM,.rows 2 M aM,.cells 205 [.d eG,.d eG,.d aM,.row 11,.row 12,.d aM],.rows 2 M aM,.rows 58 M (.sl aM)]
abbrev aeg:Y PV:=[.d (.sl dl),.d aM,.d l9,.d (.sl gC),.row 8,.row 9,.csl 10 4 2]
abbrev ago:Y PB:=[.cells 150 [.d tY],.cells 145 aeg,.cells 186 [.d ij],.cells 145 uQ,.cells 60 ue,.cells 60 [.d fZ],.cells 205 ZY,.cells 218 [.d qz],.rows 2 M aM,.rows 2 M aM,.cells 205 [.d aM,.row 11,.row 12,.d aM,.d eG],.rows 2 M aM,.rows 58 M (.sl aM)]
abbrev agn:Y PB:=[.cells 150 [.d tY],.cells 145 aeg,.cells 186 [.d ij],.cells 145 uQ,.cells 60 ue,.cells 60 [.d fZ],.cells 205 ZY,.cells 218 [.d qz],.rows 2 M aM,.rows 2 M aM,.cells 205 [.d eG,.d aM,.row 11,.row 12,.d aM],.rows 2 M aM,.rows 58 M (.sl aM)]
abbrev Xr:Y PB:=[.cells 252 [.d (.sl Fx),.d (.sl sq),.d aM,.row 1,.row 4,.row 5],.rowsP 228 .sm,.gone,.gone,.rows 9 M .str,.rows 9 M .str]
abbrev Lk:Y PV:=[.ptr 0 0,.ptr 1 0,.ptr 2 0,.ptr 3 0,.ptr 4 0,.ptr 5 0,.ptr 6 0,.d .bool]
abbrev gR:Y PV:=[.ptr 0 0,.d .bool]
abbrev Xq:Y PB:=[.cells 252 [.d (.sl Fx),.d (.sl sq),.d aM,.row 1,.row 2,.row 3],.rowsP 228 .sm,.rows 9 M .str,.rows 9 M .str]
abbrev agm:Y PB:=[.cells 150 [.d tY],.cells 145 [.d (.sl dl),.d aM,.d l9,.d (.sl gC),.row 8,.row 9,.csl 10 4 1],.cells 186 [.d ij],.cells 145 uQ,.cells 60 ue,.cells 60 [.d fZ],.cells 205 ZY,.cells 218 [.d qz],.rows 2 M aM,.rows 2 M aM,.cells 205 ZY,.rows 2 M aM,.rows 58 M (.sl aM)]
abbrev Lj:Y PV:=[.ptr 0 0,.ptr 1 0,.ptr 2 0,.ptr 3 0,.ptr 4 0,.ptr 5 0,.ptr 6 0]
abbrev agl:Y PB:=[.cells 150 [.d tY],.cells 145 La9,.cells 186 [.d ij],.cells 145 uQ,.cells 60 ue,.cells 60 [.d fZ],.cells 205 ZY,.cells 218 [.d qz],.rows 2 M aM,.rows 2 M aM,.cells 205 [.d aM,.row 11,.row 12,.d aM,.d eG,.d eG,.d eG],.rows 2 M aM,.rows 58 M (.sl aM)]
abbrev agk:Y PB:=[.cells 150 [.d tY],.cells 145 La9,.cells 186 [.d ij],.cells 145 uQ,.cells 60 ue,.cells 60 [.d fZ],.cells 205 ZY,.cells 218 [.d qz],.rows 2 M aM,.rows 2 M aM,.cells 205 [.d eG,.d aM,.row 11,.row 12,.d aM,.d eG,.d eG],.rows 2 M aM,.rows 58 M (.sl aM)]
abbrev agj:Y PB:=[.cells 150 [.d tY],.cells 145 La9,.cells 186 [.d ij],.cells 145 uQ,.cells 60 ue,.cells 60 [.d fZ],.cells 205 ZY,.cells 218 [.d qz],.rows 2 M aM,.rows 2 M aM,.cells 205 [.d eG,.d eG,.d aM,.row 11,.row 12,.d aM,.d eG],.rows 2 M aM,.rows 58 M (.sl aM)]
abbrev agi:Y PB:=[.cells 150 [.d tY],.cells 145 La9,.cells 186 [.d ij],.cells 145 uQ,.cells 60 ue,.cells 60 [.d fZ],.cells 205 ZY,.cells 218 [.d qz],.rows 2 M aM,.rows 2 M aM,.cells 205 [.d eG,.d eG,.d eG,.d aM,.row 11,.row 12,.d aM],.rows 2 M aM,.rows 58 M (.sl aM)]
abbrev JU:Y PB:=[.cells 28 [.d nj],.cells 87 [.d iK],.cells 60 [.d fZ],.cells 87 uQ]
abbrev Li:Y PV:=[.ptr 0 0,.ptr 1 0,.ptr 2 0,.ptr 3 0,.ptr 4 0,.ptr 5 0]
abbrev agh:Y PB:=[.cells 145 [.d (.sl dl),.d aM,.d l9,.d (.sl gC),.row 6,.row 7,.csl 8 4 3],.cells 186 [.d ij],.cells 145 uQ,.cells 60 ue,.cells 60 [.d fZ],.cells 205 [.d eG],.rows 2 M aM,.rows 2 M aM,.cells 205 [.d eG,.d eG,.d eG]]
abbrev Rp:Y PV:=[.d (.sl dl),.d aM,.d l9,.d (.sl gC),.row 7,.row 8,.csl 9 4 4]
abbrev qC:Y PV:=[.ptr 0 0,.ptr 1 0,.d .bool]
abbrev tX:Y PV:=[.ptr 0 0,.ptr 1 0,.ptr 2 0,.ptr 3 0,.d .bool]
abbrev acu:Y PV:=[.nil,.nil,.nil,.nil,.nil,.nil]
abbrev agf:Y PB:=[.cells 183 [.d Mw],.cells 28 acu,.cells 28 [.row 4,.row 5,.row 6,.row 7,.nil,.nil],.cells 255 [.d Fx],.rows 100 M kB,.rows 102 M qr,.rows 104 M ll,.rows 9 M .str]
abbrev Uq:Y PV:=[.nil,.nil,.nil,.nil,.nil,.nil,.nil]
abbrev aj0:Y PV:=[.d (.sl kB),.d (.sl qr),.d (.sl ll),.d (.sl .str),.d (.sl .str),.d (.sl nQ),.row 5]
abbrev ajc:Y PB:=[.cells 183 [.d Mw],.cells 150 Uq,.cells 150 aj0,.cells 214 [.d (.sl kB),.d (.sl qr),.d (.sl ll),.d (.sl .str),.d (.sl .str),.d (.sl nQ),.d (.sl .str),.row 6,.d aM,.d aM],.cells 201 [.d aM,.row 6],.rows 201 M vS,.rows 218 M qz]
abbrev Gs:Y PV:=[.row 0,.d aM,.row 1,.row 2]
abbrev age:Y PB:=[.cells 140 [.d xF],.cells 87 [.d iK],.cells 28 [.d nj],.rows 60 M fZ,.cells 58 [.row 5,.row 6,.row 7,.row 8],.rows 3 M aM,.rows 3 M aM,.rows 3 M aM,.rows 3 M aM]
abbrev Ee:Y PV:=[.ptr 0 0,.ptr 1 0,.ptr 2 0,.d aM]
abbrev JT:Y PV:=[.d aM,.d (.sl aM),.d uR,.d aM]
abbrev Xo:Y PV:=[.d (.sl dl),.d aM,.d l9,.d (.sl gC),.row 7,.row 8,.csl 9 4 3]
abbrev agd:Y PB:=[.cells 140 [.d xF],.cells 87 [.d iK],.cells 28 [.d nj],.cells 58 [.row 4,.row 5,.row 6,.row 7],.rows 3 M aM,.rows 3 M aM,.rows 3 M aM,.rows 3 M aM]
abbrev Bf:Y PV:=[.ptr 0 0,.ptr 1 0,.ptr 2 0,.d .bool]
abbrev sT:Y PV:=[.ptr 0 0,.ptr 1 0,.d aM]
abbrev JS:Y PV:=[.d aM,.row 10,.row 11,.d aM]
abbrev act:Y PV:=[.d aM,.row 0,.row 1,.d aM]
abbrev Vz:Y PV:=[.d aM,.nil,.nil,.d aM]
abbrev agc:Y PB:=[.rows 2 M aM,.rows 58 M (.sl aM),.cells 218 [.d qz],.cells 205 act,.cells 205 Vz]
abbrev agb:Y PB:=[.cells 252 [.d (.sl Fx),.d (.sl sq),.d aM,.row 4,.row 5,.row 6],.gone,.gone,.gone,.rowsP 228 .sm,.rows 9 M .str,.rows 9 M .str]
abbrev tW:Y PV:=[.nil,.d aM,.nil,.nil]
abbrev aga:Y PB:=[.cells 84 [.row 2,.d aM,.row 3,.row 4],.cells 84 tW,.rows 157 M dl,.rows 4 M .bool,.rows 159 M gC]
abbrev JR:Y PV:=[.ptr 0 0,.ptr 3 0,.d .bool]
abbrev ajb:Y PB:=[.cells 145 [.d (.sl dl),.d aM,.d l9,.d (.sl gC),.row 6,.row 7,.csl 8 4 2],.cells 186 [.d ij],.cells 145 uQ,.cells 60 ue,.cells 60 [.d fZ],.cells 205 [.d eG],.rows 2 M aM,.rows 2 M aM,.cells 205 [.d eG,.d eG]]
abbrev aja:Y PB:=[.cells 31 Uq,.cells 140 [.d xF],.cells 31 aj0,.cells 87 [.d iK],.rows 60 aa fZ,.rows 60 M fZ]
abbrev pH:Y PB:=[.cells 28 [.d nj]]
abbrev aj9:Y PB:=[.cells 140 [.d xF],.cells 87 [.d iK],.cells 28 [.d nj],.rows 60 M fZ,.cells 58 [.row 7,.row 8,.row 9,.row 10],.cells 60 [.d fZ],.cells 87 [.d iK],.rows 3 M aM,.rows 3 M aM,.rows 3 M aM,.rows 3 M aM]
abbrev ad1:Y PB:=[.cells 28 acu,.cells 28 [.row 2,.row 3,.row 4,.row 5,.row 6,.row 7],.rows 100 aa kB,.rows 102 aa qr,.rows 104 aa ll,.rows 9 aa .str,.rows 9 aa .str,.rows 106 M nQ]
abbrev vR:Y PV:=[.ptr 0 0,.d aM]
abbrev ZX:Y PV:=[.row 2,.row 3,.row 4,.row 5]
abbrev aj8:Y PB:=[.cells 140 [.d xF],.cells 58 ZX,.rows 3 M aM,.rows 3 M aM,.rows 3 M aM,.rows 3 M aM,.cells 60 ue,.cells 60 [.d aM,.d aM,.d aM,.d aM,.d aM,.d (.sl aM),.nil]]
abbrev ad0:Y PV:=[.d (.sl dl),.d aM,.d l9,.d (.sl gC),.row 7,.row 8,.csl 9 4 2]
abbrev Lh:Y PV:=[.d uS,.d fZ,.d .bool]
abbrev aj7:Y PB:=[.cells 140 [.d xF],.cells 58 ZX,.rows 3 M aM,.rows 3 M aM,.rows 3 M aM,.rows 3 M aM,.cells 87 [.d iK],.cells 28 [.d nj],.cells 60 ue,.cells 60 ue]
abbrev aj6:Y PB:=[.cells 183 [.d Mw],.cells 28 acu,.cells 28 [.row 3,.row 4,.row 5,.row 6,.nil,.nil],.rows 100 M kB,.rows 102 M qr,.rows 104 M ll,.rows 9 M .str]
abbrev ag9:Y PV:=[.d (.sl dl),.d aM,.d l9,.d (.sl gC),.row 3,.row 4,.row 5]
abbrev Lg:Y PV:=[.d tY,.d uS,.d ij]
abbrev ag8:Y PB:=[.rows 157 M dl,.rows 4 M .bool,.rows 159 M gC,.cells 84 Gs,.rows 3 M aM]
abbrev Z0:Y PV:=[.row 3,.d aM,.row 4,.row 5]
abbrev aj5:Y PB:=[.cells 28 [.d nj],.cells 84 Z0,.cells 84 tW,.rows 157 M dl,.rows 4 M .bool,.rows 159 M gC]
abbrev uP:Y PV:=[.d aM,.d aM]
abbrev ag7:Y PB:=[.rows 60 M fZ,.cells 150 [.d tY],.cells 145 [.d uS],.cells 145 uQ]
abbrev aj4:Y PB:=[.cells 201 [.d vS],.cells 205 [.d aM,.row 3,.row 4,.d aM],.cells 205 Vz,.rows 2 M aM,.rows 58 M (.sl aM)]
abbrev aj3:Y PB:=[.cells 222 aed,.cells 140 [.d xF],.gone,.rows 228 M .sm,.rowsP 9 .str]
abbrev ag5:Y PV:=[.ptr 1 0,.d aM,.d aM,.d .bool,.d .bool,.d .bool,.d .bool,.row 3]
abbrev aj2:Y PB:=[.cells 60 ue,.cells 205 [.d eG],.cells 218 [.d qz],.cells 60 [.d aM,.d aM,.d aM,.d aM,.d aM,.row 4,.nil],.rows 3 M aM]
abbrev Od:Y PB:=[.cells 228 [.d .sm]]
abbrev acz:Y PV:=[.agg [.agg Gs,.row 3,.row 4,.csl 5 4 4]]
abbrev Ro:Y PB:=[.cells 183 [.d Mw]]
abbrev ag4:Y PB:=[.cells 28 [.d nj],.cells 201 [.d vS],.cells 218 [.d qz]]
abbrev acy:Y PB:=[.cells 183 [.d Mw],.cells 212 [.d sq]]
abbrev acx:Y PB:=[.cells 183 [.d Mw],.cells 226 [.d .ex]]
abbrev ag3:Y PB:=[.cells 28 [.d nj],.rows 9 M .str,.cells 100 [.d kB]]
abbrev ag2:Y PB:=[.rows 157 M dl,.rows 4 M .bool,.rows 159 M gC]
abbrev acw:Y PB:=[.cells 28 [.d nj],.cells 218 [.d qz]]
abbrev acv:Y PV:=[.ptr 0 0,.ptr 4 0,.ptr 5 0,.d .bool]
abbrev ag1:Y PV:=[.ptr 0 0,.ptr 1 0,.ptr 2 0,.ptr 3 0,.ptr 4 0,.d aM]
abbrev Up:Y PB:=[.cells 28 [.d nj],.cells 84 [.d CX]]
abbrev ag0:Y PB:=[.cells 140 [.d xF],.rows 3 M aM,.rows 3 M aM]
abbrev Xn:Y PB:=[.cells 28 [.d nj],.rows 9 M .str]
abbrev afz:Y PB:=[.cells 60 [.d fZ],.cells 87 uQ,.cells 87 ag9,.rows 2 M aM,.rows 2 M aM,.rows 3 M aM]
abbrev aj1:Y PB:=[.cells 140 Oe,.cells 58 ZX,.rows 3 M aM,.rows 3 M aM,.rows 3 M aM,.rows 3 M aM]
abbrev Rn:Y PB:=[.cells 140 Oe]
abbrev Lf:Y PV:=[.d (.sl aM),.d aM]
abbrev Xm:Y PB:=[.cells 140 [.d xF]]
abbrev Oc:Y PV:=[.ptr 0 0,.row 1,.d aM]
abbrev Xl:Y PB:=[.cells 255 [.d Fx]]
abbrev afy:Y PV:=[.agg [.agg Gs,.row 3,.row 4,.csl 5 4 3]]
abbrev Z5:Y PB:=[.rows 2 M aM,.rows 58 M (.sl aM)]
abbrev Z4:Y PB:=[.cells 150 [.d tY],.cells 145 [.d uS]]
abbrev Z3:Y PB:=[.cells 28 [.d nj],.cells 201 [.d vS]]
abbrev qH:Y PV:=[.d (.sl aM)]
abbrev Z2:Y PV:=[.ptr 0 0,.ptr 1 0,.ptr 2 0,.ptr 3 0]
abbrev aef:Y PV:=[.d (.sl dl),.d aM,.d l9,.d (.sl gC),.row 7,.row 8,.csl 9 4 1]
abbrev Z1:Y PB:=[.cells 84 [.d CX],.rows 3 M aM]
abbrev Rq:Y PV:=[.ptr 0 0,.d aM,.d aM]
def tyT:PT Ty:=dL [(2,aM),(3,aM),(4,.bool),(9,.str),(50,ij),(58,(.sl aM)),(60,fZ),(65,ij),(67,(.st (.pr ij (.pr ij (.sl aM))))),(81,l9),(100,kB),(102,qr),(104,ll),(106,nQ),(157,dl),(159,gC),(186,ij),(201,vS),(205,eG),(212,sq),(218,qz),(226,.ex),(228,.sm),(255,Fx)]
def bZ (t:TypeId):J Ty:=tyT.get t
def Ac:FT:=⟨⟨[],[]⟩,⟨[.d (.sl .str)],[]⟩,.leaf⟩
def K2:ch:=cn Ac oo
def yw:FT:=⟨⟨[.d .str],[]⟩,⟨[.d .bool],[]⟩,dL [(8,(.j ⟨[0,3],[4],⟨[.d aM],[]⟩,[]⟩))]⟩
def Jl:ch:=cn yw jC
def Fm:FT:=⟨⟨[.d (.int .u8)],[]⟩,⟨[.d .bool],[]⟩,dL [(2,(.j ⟨[],[2],⟨[.d .bool],[]⟩,[]⟩))]⟩
def QX:ch:=cn Fm lx
def I0:FT:=⟨⟨[.d (.int .u8)],[]⟩,⟨[.d .bool],[]⟩,dL [(2,(.j ⟨[],[2],⟨[.d .bool],[]⟩,[]⟩))]⟩
def TK:ch:=cn I0 tw
def IZ:FT:=⟨⟨[.d (.int .u8)],[]⟩,⟨[.d .bool],[]⟩,dL [(2,(.j ⟨[],[2],⟨[.d .bool],[]⟩,[]⟩))]⟩
def TJ:ch:=cn IZ pi
def Fn:FT:=⟨⟨[.d .str],[]⟩,⟨[.d .bool],[]⟩,dL [(3,(.j ⟨[0],[21],⟨[.d .bool],[]⟩,[]⟩)),(14,(.j ⟨[0],[3],⟨[.d aM],[]⟩,[]⟩))]⟩
def QY:ch:=cn Fn fb
def IU:FT:=⟨⟨[.d .bool],[]⟩,⟨[.d aM],[]⟩,.leaf⟩
def Tx:ch:=cn IU fD
def IV:FT:=⟨⟨uP,[]⟩,⟨[.d aM,.d .bool],[]⟩,.leaf⟩
def Tz:ch:=cn IV tm
def Fi:FT:=⟨⟨[.d aM,.d aM,.d aM],[]⟩,⟨[.d aM,.d .bool],[]⟩,dL [(91,(.j ⟨[],[6,7],⟨[.d aM,.d .bool],[]⟩,[]⟩)),(97,(.j ⟨[],[6,7],⟨[.d aM,.d .bool],[]⟩,[]⟩))]⟩
def QR:ch:=cn Fi rP
def IW:FT:=⟨⟨uP,[]⟩,⟨[.d aM],[]⟩,dL [(12,(.j ⟨[],[5],⟨[.d aM],[]⟩,[]⟩))]⟩
def TA:ch:=cn IW qP
def Ab:FT:=⟨⟨[.d aM],[]⟩,⟨[.d aM],[]⟩,dL [(4,(.j ⟨[0],[3],⟨[.d .bool],[]⟩,[]⟩)),(10,(.j ⟨[0],[10],⟨[.d .bool],[]⟩,[]⟩)),(16,(.j ⟨[],[17],⟨[.d .bool],[]⟩,[]⟩))]⟩
def K0:ch:=cn Ab om
def oW:FT:=⟨⟨[.d .ex],[]⟩,⟨[.d .bool],[]⟩,dL [(2,(.j ⟨[],[1,3],⟨gR,[.cells 226 [.d .ex]]⟩,[]⟩)),(5,(.j ⟨[],[1,50],⟨gR,[.cells 226 [.d .ex]]⟩,[]⟩)),(16,(.j ⟨[],[1,4],⟨vR,[.cells 226 [.d .ex]]⟩,[]⟩))]⟩
def F_:ch:=cn oW j7
def FH (n:Nat):ch:=cn oW (i_ n)
def IY:FT:=⟨⟨[.d .ex],[]⟩,⟨[.d .bool],[]⟩,dL [(2,(.j ⟨[],[2],⟨[.d .bool],[]⟩,[]⟩))]⟩
def TI:ch:=cn IY qQ
def sk:FT:=⟨⟨[.d .sm],[]⟩,⟨[.d .bool],[]⟩,dL [(3,(.j ⟨[],[1,13],⟨gR,Od⟩,[]⟩)),(10,(.j ⟨[],[1,3],⟨gR,Od⟩,[]⟩)),(13,(.j ⟨[],[1,47],⟨gR,Od⟩,[]⟩)),(21,(.j ⟨[],[1,66],⟨gR,Od⟩,[]⟩)),(29,(.j ⟨[],[1,95],⟨gR,Od⟩,[]⟩)),(36,(.j ⟨[],[1,4],⟨gR,Od⟩,[]⟩)),(39,(.j ⟨[],[1,130],⟨gR,Od⟩,[]⟩)),(46,(.j ⟨[],[1,5],⟨gR,Od⟩,[]⟩)),(49,(.j ⟨[],[1,157],⟨gR,Od⟩,[]⟩)),(56,(.j ⟨[],[2],⟨[.d .bool],[]⟩,[]⟩))]⟩
def FG (n:Nat):ch:=cn sk (gV n)
def nO:FT:=⟨⟨[.d (.sl .sm)],[]⟩,⟨[.d .bool],[]⟩,dL [(6,(.j ⟨[0],[3],⟨[.d aM],[]⟩,[]⟩))]⟩
def D3:ch:=cn nO qR
def Do (n:Nat):ch:=cn nO (fq n)
def xg:FT:=⟨⟨[.d Fx],[]⟩,⟨[.d .bool],[]⟩,dL [(3,(.j ⟨[],[1,31],⟨gR,Xl⟩,[]⟩)),(11,(.j ⟨[],[1,50],⟨gR,Xl⟩,[]⟩)),(18,(.j ⟨[],[2],⟨[.d .bool],[]⟩,[]⟩))]⟩
def F9:ch:=cn xg lX
def Fl:FT:=⟨⟨[.d Mw],[]⟩,⟨[.d .bool],[]⟩,dL [(6,(.j ⟨[],[1,3],⟨vR,Ro⟩,[]⟩)),(27,(.j ⟨[],[1,4],⟨vR,Ro⟩,[]⟩)),(42,(.j ⟨[4],[1,5,6],⟨sT,acy⟩,[]⟩)),(59,(.j ⟨[4],[1,56],⟨gR,Ro⟩,[]⟩))]⟩
def QW:ch:=cn Fl rR
def Vc:FT:=⟨⟨[.d (.sl .str),.d .str],[]⟩,⟨[.d aM],[]⟩,dL [(6,(.j ⟨[0,1],[5],⟨[.d aM],[]⟩,[]⟩))]⟩
def ac4:ch:=cn Vc jT
def Fk:FT:=⟨⟨[.d (.sl Fx),.d .str],[]⟩,⟨[.d aM],[]⟩,dL [(6,(.j ⟨[0,1],[5],⟨[.d aM],[]⟩,[]⟩))]⟩
def QV:ch:=cn Fk iD
def Aa:FT:=⟨⟨[.d (.sl sq),.d .str],[]⟩,⟨[.d aM],[]⟩,dL [(6,(.j ⟨[0,1],[5],⟨[.d aM],[]⟩,[]⟩))]⟩
def KZ:ch:=cn Aa iv
def Fj:FT:=⟨⟨[.d Mw,.d aM,.d .str],[]⟩,⟨[.d aM],[]⟩,dL [(3,(.j ⟨[2],[3,27],⟨gR,Ro⟩,[]⟩)),(52,(.j ⟨[7],[3,56],⟨gR,Ro⟩,[]⟩))]⟩
def QU:ch:=cn Fj rQ
def Mb:FT:=⟨⟨[.d Mw,.d aM,.d .str,.d aM,.d aM],[]⟩,⟨[.d aM],[]⟩,dL [(13,(.j ⟨[],[25],⟨[.d .bool],[]⟩,[]⟩))]⟩
def WA:ch:=cn Mb gO
def wI:FT:=⟨⟨[.d .ex],[]⟩,⟨uP,[]⟩,dL [(8,(.j ⟨[],[1,4,5,6],⟨[.ptr 0 0,.d aM,.d aM,.d aM],[.cells 226 [.d .ex]]⟩,[]⟩))]⟩
def TE:ch:=cn wI HC
def Ss (n:Nat):ch:=cn wI (po n)
def wH:FT:=⟨⟨[.d Mw,.d aM,.d .ex],[]⟩,⟨[.d aM],[]⟩,dL [(7,(.j ⟨[1],[3,5,7],⟨sT,acx⟩,[]⟩)),(21,(.j ⟨[1],[3,5,7,8],⟨[.ptr 0 0,.ptr 1 0,.d aM,.d aM],acx⟩,[]⟩)),(23,(.j ⟨[1,7,8],[3,5,33],⟨qC,acx⟩,[]⟩))]⟩
def TB:ch:=cn wH HB
def Sr (n:Nat):ch:=cn wH (pn n)
def Mc:FT:=⟨⟨[.d Mw,.d aM,.d .ex],[]⟩,⟨[.d aM],[]⟩,dL [(13,(.j ⟨[1],[3,5,22],⟨qC,acx⟩,[]⟩))]⟩
def WC:ch:=cn Mc nC
def Cv:FT:=⟨⟨[.d .bool],[]⟩,⟨[.d aM],[]⟩,.leaf⟩
def NK:ch:=cn Cv c9
def Vb:FT:=⟨⟨uP,[]⟩,⟨[.d aM],[]⟩,.leaf⟩
def ac3:ch:=cn Vb ji
def vH:FT:=⟨⟨[.ptr 0 0,.d aM,.d aM,.d .str],Xq⟩,⟨[.d .bool],Xq⟩,dL [(6,(.j ⟨[1,2,3],[0,9],⟨vR,Xq⟩,[]⟩)),(17,(.j ⟨[1,2,3,9],[0,46],⟨gR,Xq⟩,[]⟩))]⟩
def D2:ch:=cn vH ej
def z_:FT:=⟨⟨[.ptr 0 0,.d .sm],Xq⟩,⟨[.d aM],Xr⟩,dL [(1,(.a [.ren 0 4,.ren 0 5])),(28,(.j ⟨[6,7,8,9,30],[0,3,5,67],⟨acv,La8⟩,[]⟩)),(41,(.j ⟨[],[4],⟨[.d aM],Xr⟩,[]⟩)),(44,(.j ⟨[6,7,8,9,30],[0,3,5,91],⟨acv,La8⟩,[]⟩)),(51,(.j ⟨[],[4],⟨[.d aM],Xr⟩,[]⟩)),(63,(.j ⟨[],[4],⟨[.d aM],Xr⟩,[]⟩)),(66,(.j ⟨[6,7,8,9,30],[0,3,5,119],⟨acv,La8⟩,[]⟩)),(89,(.j ⟨[],[4],⟨[.d aM],Xr⟩,[]⟩)),(108,(.j ⟨[],[0,3,187],⟨[.ptr 0 0,.ptr 4 0,.d .bool],[.cells 252 [.d (.sl Fx),.d (.sl sq),.d aM,.row 1,.row 5,.row 6],.rowsP 228 .sm,.gone,.gone,.cells 228 [.d .sm],.rows 9 M .str,.rows 9 M .str]⟩,[]⟩)),(131,(.j ⟨[],[4],⟨[.d aM],Xr⟩,[]⟩)),(137,(.j ⟨[6],[0,3,5,14],⟨[.ptr 0 0,.ptr 4 0,.ptr 5 0,.d aM],La8⟩,[]⟩)),(139,(.j ⟨[6],[0,3,5,14],⟨[.ptr 0 0,.ptr 4 0,.ptr 5 0,.d aM],La8⟩,[]⟩)),(140,(.j ⟨[6,14],[0,3,5,253],⟨acv,La8⟩,[]⟩))]⟩
def KX:ch:=cn z_ ol
def rH:FT:=⟨⟨[.ptr 0 0,.d (.sl .sm)],Xq⟩,⟨uP,agb⟩,dL [(1,(.a [.ren 0 3,.ren 0 4,.ren 0 5])),(6,(.j ⟨[1],[0,6],⟨vR,agb⟩,[]⟩)),(19,(.j ⟨[1,6],[0,7,8],⟨[.ptr 0 0,.ptr 4 0,.d aM],[.cells 252 [.d (.sl Fx),.d (.sl sq),.d aM,.row 5,.row 6,.row 7],.gone,.gone,.gone,.cells 228 [.d .sm],.rowsP 228 .sm,.rows 9 M .str,.rows 9 M .str]⟩,[]⟩)),(37,(.j ⟨[1,6],[0,8,9],⟨Rq,agb⟩,[]⟩))]⟩
def KY:ch:=cn rH zQ
def Kr (n:Nat):ch:=cn rH (me n)
def wJ:FT:=⟨⟨[.d (.sl .sm)],[]⟩,⟨[.d aM],[]⟩,dL [(8,(.j ⟨[0],[3,4],⟨uP,[]⟩,[]⟩))]⟩
def TG:ch:=cn wJ HE
def St (n:Nat):ch:=cn wJ (pq n)
def IX:FT:=⟨⟨[.d (.sl Fx)],[]⟩,⟨uP,[]⟩,dL [(8,(.j ⟨[0],[4,5,6,7,8],⟨[.d aM,.d aM,.d aM,.d aM,.d aM],[]⟩,[]⟩)),(16,(.j ⟨[0,8],[4,5,6,7],⟨[.d aM,.d aM,.d aM,.d aM],[]⟩,[]⟩)),(38,(.j ⟨[0,8],[4,5,6,7,9],⟨[.d aM,.d aM,.d aM,.d aM,.ptr 0 0],Xl⟩,[]⟩)),(39,(.j ⟨[0,4,5,6,7,8,36],[9,39],⟨gR,Xl⟩,[]⟩)),(47,(.j ⟨[0,4,5,6,7,8,36],[9,47],⟨gR,Xl⟩,[]⟩)),(61,(.j ⟨[0,4,5,6,7,8],[9,69],⟨gR,Xl⟩,[]⟩))]⟩
def TD:ch:=cn IX tu
def Cu:FT:=⟨⟨[.d Mw],[]⟩,⟨uP,[]⟩,dL [(6,(.j ⟨[],[1,4],⟨vR,Ro⟩,[]⟩)),(17,(.j ⟨[4],[1,5,37],⟨qC,acy⟩,[]⟩)),(29,(.j ⟨[],[1,6],⟨vR,Ro⟩,[]⟩)),(51,(.j ⟨[6],[1,7,8],⟨sT,acy⟩,[]⟩)),(62,(.j ⟨[6,8],[1,7,90],⟨qC,acy⟩,[]⟩))]⟩
def NJ:ch:=cn Cu pZ
def Cw:FT:=⟨⟨[.d Mw],[]⟩,⟨uP,[]⟩,dL [(44,(.j ⟨[],[1,8,9],⟨Rq,Ro⟩,[]⟩)),(67,(.a [.cel 10 3 228 .sm,.cel 10 4 9 .str,.cel 10 5 9 .str])),(69,(.j ⟨[],[1,10,11],⟨sT,[.cells 183 [.d Mw],.cells 252 [.d (.sl Fx),.d (.sl sq),.d aM,.row 2,.row 3,.row 4],.rowsP 228 .sm,.rows 9 M .str,.rows 9 M .str]⟩,[]⟩))]⟩
def NL:ch:=cn Cw ki
def wG:FT:=⟨⟨[.row 0,.d aM,.d aM,.d (.sl .sm)],[.rows 106 M nQ]⟩,⟨[.row 1,.d aM],[.gone,.rows 106 M nQ]⟩,dL [(1,(.a [.ren 0 0])),(6,(.j ⟨[1,3],[0,2,10],⟨[.row 1,.d aM,.d aM],[.gone,.rows 106 M nQ]⟩,[]⟩)),(25,(.a [.nil 8 106 nQ]))]⟩
def Tr:ch:=cn wG HA
def Sq (n:Nat):ch:=cn wG (pm n)
def Ff:FT:=⟨⟨[.d (.sl qr),.d .str],[]⟩,⟨[.d aM],[]⟩,dL [(6,(.j ⟨[0,1],[5],⟨[.d aM],[]⟩,[]⟩))]⟩
def QO:ch:=cn Ff lq
def Fh:FT:=⟨⟨[.d nj,.d .str],[]⟩,⟨[.d aM],[]⟩,dL [(6,(.j ⟨[1],[2,5],⟨vR,pH⟩,[]⟩))]⟩
def QQ:ch:=cn Fh lw
def IQ:FT:=⟨⟨[.d Mw],[]⟩,⟨[.d nj],[]⟩,dL [(18,(.j ⟨[],[1,2,3,6],⟨Ee,aj6⟩,[.cel 3 0 100 kB,.cel 3 1 102 qr,.cel 3 2 104 ll,.cel 3 3 9 .str]⟩)),(31,(.j ⟨[6],[1,2,3],⟨[.ptr 0 0,.ptr 1 0,.ptr 2 0],aj6⟩,[]⟩)),(32,(.j ⟨[6,31],[1,2,3,7,39],⟨tX,agf⟩,[]⟩)),(42,(.j ⟨[6],[1,2,3,7,8],⟨[.ptr 0 0,.ptr 1 0,.ptr 2 0,.ptr 3 0,.d aM],agf⟩,[]⟩)),(53,(.j ⟨[6,31],[1,2,3,7,65],⟨tX,agf⟩,[]⟩)),(69,(.a [.cel 3 5 106 nQ])),(71,(.j ⟨[],[1,2,3,9],⟨Ee,[.cells 183 [.d Mw],.cells 28 acu,.cells 28 [.row 3,.row 4,.row 5,.row 6,.row 7,.row 8],.rows 100 M kB,.rows 102 M qr,.rows 104 M ll,.rows 9 M .str,.rows 9 M .str,.rows 106 M nQ]⟩,[.cel 3 4 9 .str]⟩))]⟩
def Tv:ch:=cn IQ tj
def IL:FT:=⟨⟨[.d nj],[]⟩,⟨[.d (.sl .str),.d .bool],[]⟩,dL [(8,(.j ⟨[],[1,4,5],⟨Oc,Xn⟩,[.nil 4 9 .str]⟩)),(15,(.j ⟨[],[1,4,5],⟨Oc,Xn⟩,[]⟩)),(37,(.j ⟨[5],[1,4,6,51],⟨[.ptr 0 0,.row 1,.ptr 2 0,.d .bool],ag3⟩,[]⟩)),(48,(.j ⟨[5],[1,4,6,7],⟨[.ptr 0 0,.row 1,.ptr 2 0,.d aM],ag3⟩,[]⟩)),(59,(.j ⟨[5,7],[1,4,6,93],⟨[.ptr 0 0,.row 1,.ptr 2 0,.d .bool],ag3⟩,[]⟩)),(72,(.j ⟨[],[1,4,9],⟨Oc,Xn⟩,[]⟩)),(87,(.j ⟨[],[1,4,10],⟨Oc,Xn⟩,[]⟩))]⟩
def Ts:ch:=cn IL pg
def xf:FT:=⟨⟨[.d nj],[]⟩,⟨[.d .bool],[]⟩,dL [(3,(.j ⟨[],[1,49],⟨gR,pH⟩,[]⟩)),(24,(.j ⟨[3],[1,5],⟨vR,pH⟩,[]⟩)),(33,(.j ⟨[3,5],[1,79],⟨gR,pH⟩,[]⟩)),(45,(.j ⟨[],[1,6],⟨vR,pH⟩,[]⟩)),(56,(.j ⟨[6],[1,109],⟨gR,pH⟩,[]⟩)),(68,(.j ⟨[],[1,8],⟨vR,pH⟩,[]⟩)),(76,(.j ⟨[8],[1],⟨[.ptr 0 0],pH⟩,[]⟩)),(80,(.j ⟨[8],[1,9,132],⟨qC,[.cells 28 [.d nj],.cells 106 [.d nQ]]⟩,[]⟩)),(87,(.j ⟨[8],[1,9,146],⟨qC,[.cells 28 [.d nj],.cells 106 [.d nQ]]⟩,[]⟩)),(90,(.j ⟨[8],[1,165],⟨gR,pH⟩,[]⟩))]⟩
def F8:ch:=cn xf gU
def yr:FT:=⟨⟨[.d qz],[]⟩,⟨qH,[]⟩,dL [(6,(.j ⟨[4],[1,5],⟨gR,[.cells 218 [.d qz]]⟩,[]⟩)),(24,(.j ⟨[4],[1,13],⟨gR,[.cells 218 [.d qz]]⟩,[]⟩)),(46,(.j ⟨[4],[1,37],⟨gR,[.cells 218 [.d qz]]⟩,[]⟩))]⟩
def Jk:ch:=cn yr jB
def Fg:FT:=⟨⟨[.d aM],[]⟩,⟨[.d .bool],[]⟩,dL [(2,(.j ⟨[],[2],⟨[.d .bool],[]⟩,[]⟩))]⟩
def QP:ch:=cn Fg px
def IN:FT:=⟨⟨[.d (.sl qz),.d aM],[]⟩,⟨[.d .bool],[]⟩,dL [(6,(.j ⟨[0],[1,5],⟨uP,[]⟩,[]⟩)),(14,(.j ⟨[0,5],[1],⟨[.d aM],[]⟩,[]⟩)),(16,(.j ⟨[0,1,5],[19],⟨[.d .bool],[]⟩,[]⟩))]⟩
def Tt:ch:=cn IN tg
def Va:FT:=⟨⟨uP,[]⟩,⟨[.d .bool],[]⟩,dL [(2,(.j ⟨[],[4],⟨[.d .bool],[]⟩,[]⟩))]⟩
def ac2:ch:=cn Va jh
def IP:FT:=⟨⟨[.d nj,.d aM,.d aM],[]⟩,⟨[.d .bool],[]⟩,dL [(2,(.j ⟨[],[6],⟨[.d .bool],[]⟩,[]⟩))]⟩
def Tu:ch:=cn IP qO
def Cq:FT:=⟨⟨[.d nj,.d qz],[]⟩,⟨[.d .bool],[]⟩,dL [(9,(.j ⟨[],[4],⟨[.d .bool],[]⟩,[]⟩)),(15,(.j ⟨[],[4],⟨[.d .bool],[]⟩,[]⟩)),(30,(.j ⟨[6],[2,3,59],⟨qC,acw⟩,[]⟩)),(37,(.j ⟨[],[4],⟨[.d .bool],[]⟩,[]⟩)),(40,(.j ⟨[6],[2,3,78],⟨qC,acw⟩,[]⟩)),(55,(.j ⟨[],[4],⟨[.d .bool],[]⟩,[]⟩)),(58,(.j ⟨[6],[2,3,98],⟨qC,acw⟩,[]⟩)),(72,(.j ⟨[6],[2,3,108],⟨qC,acw⟩,[]⟩)),(97,(.j ⟨[],[4],⟨[.d .bool],[]⟩,[]⟩)),(103,(.j ⟨[],[4],⟨[.d .bool],[]⟩,[]⟩))]⟩
def NG:ch:=cn Cq pX
def vG:FT:=⟨⟨[.d nj,.d aM,.d vS],[]⟩,⟨[.d .bool],[]⟩,dL [(5,(.j ⟨[1,7],[3,5,26],⟨qC,Z3⟩,[]⟩)),(16,(.j ⟨[1,7],[3,5,8],⟨sT,Z3⟩,[]⟩)),(28,(.j ⟨[1,7,8],[3,5,9,67],⟨Bf,ag4⟩,[]⟩)),(36,(.j ⟨[1,7,8],[3,5,9,100],⟨Bf,ag4⟩,[]⟩)),(44,(.j ⟨[1,7,8],[3,5,9,122],⟨Bf,ag4⟩,[]⟩)),(56,(.j ⟨[1,7,8,10],[3,5,11],⟨sT,Z3⟩,[]⟩))]⟩
def DZ:ch:=cn vG kS
def IR:FT:=⟨⟨[.d tY],[]⟩,⟨[.d .bool],[]⟩,dL [(3,(.j ⟨[],[1,17],⟨gR,[.cells 150 [.d tY]]⟩,[]⟩)),(14,(.j ⟨[],[1,3],⟨vR,[.cells 150 [.d tY]]⟩,[]⟩))]⟩
def Tw:ch:=cn IR ph
def Cr:FT:=⟨⟨[.ptr 0 0,.d qz],La5⟩,⟨[],La4⟩,.leaf⟩
def NH:ch:=cn Cr cw
def ql:FT:=⟨⟨[.ptr 0 0,.d .ex,.d aM],La5⟩,⟨[],La4⟩,dL [(2,(.j ⟨[],[],⟨[],La4⟩,[]⟩))]⟩
def Ji:ch:=cn ql iC
def HO (n:Nat):ch:=cn ql (iF n)
def xd:FT:=⟨⟨[.ptr 0 0,.d .sm],La5⟩,⟨[],La4⟩,.leaf⟩
def F7:ch:=cn xd lV
def zZ:FT:=⟨⟨[.ptr 0 0,.d .str],La5⟩,⟨[.d aM],La5⟩,dL [(6,(.j ⟨[1],[0,5],⟨vR,La5⟩,[]⟩))]⟩
def KW:ch:=cn zZ jp
def qm:FT:=⟨⟨[.ptr 0 0,.d (.sl .sm)],La5⟩,⟨[],La4⟩,dL [(1,(.a [.ren 0 7])),(3,(.j ⟨[1],[0,4],⟨vR,La4⟩,[]⟩))]⟩
def Jj:ch:=cn qm ti
def HP (n:Nat):ch:=cn qm (dF n)
def uN:FT:=⟨⟨[.ptr 0 0,.d .sm],La5⟩,⟨[],La4⟩,dL [(1,(.a [.ren 0 7])),(10,(.j ⟨[],[],⟨[],La4⟩,[]⟩)),(15,(.j ⟨[4,25],[0,3,31],⟨[.ptr 0 0,.ptr 2 0,.d .bool],[.cells 214 [.d (.sl kB),.d (.sl qr),.d (.sl ll),.d (.sl .str),.d (.sl .str),.d (.sl nQ),.d (.sl .str),.row 3,.d aM,.d aM],.gone,.cells 228 [.d .sm],.rows 218 M qz]⟩,[]⟩))]⟩
def Kq (n:Nat):ch:=cn uN (eC n)
def qn:FT:=⟨⟨[.ptr 0 0,.d .sm],La5⟩,⟨[],La4⟩,.leaf⟩
def BQ (n:Nat):ch:=cn qn (cY n)
def sj:FT:=⟨⟨[.ptr 0 0,.d .sm,.d aM,.d aM,.d aM],La5⟩,⟨[],La4⟩,.leaf⟩
def FF (n:Nat):ch:=cn sj (dB n)
def Ct:FT:=⟨⟨[.d Mw],[]⟩,⟨[.d tY,.d aM,.d aM],[]⟩,dL [(20,(.j ⟨[],[1,2,7,8,9],⟨[.ptr 0 0,.ptr 1 0,.ptr 2 0,.d aM,.d aM],[.cells 183 [.d Mw],.cells 150 Uq,.cells 150 [.d (.sl kB),.d (.sl qr),.d (.sl ll),.d (.sl .str),.d (.sl .str),.d (.sl nQ),.row 3],.rows 201 M vS]⟩,[.cel 7 6 201 vS]⟩)),(32,(.a [.cel 10 7 218 qz])),(45,(.j ⟨[8,9],[1,2,7,10,11,12],⟨ag1,ajc⟩,[]⟩)),(59,(.j ⟨[8,9,12,13],[1,2,7,10,11,14],⟨ag1,ajc⟩,[]⟩))]⟩
def NI:ch:=cn Ct pY
def Qe:FT:=⟨⟨Lf,[]⟩,⟨[.d .bool],[]⟩,dL [(6,(.j ⟨[0,1],[5],⟨[.d aM],[]⟩,[]⟩))]⟩
def Ze:ch:=cn Qe oh
def Qd:FT:=⟨⟨Lf,[]⟩,⟨qH,[]⟩,dL [(6,(.j ⟨[0,1],[5],⟨[.d aM],[]⟩,[]⟩)),(8,(.j ⟨[0,1,5],[18],⟨[.d .bool],[]⟩,[]⟩)),(16,(.j ⟨[0,1,5],[32],⟨[.d .bool],[]⟩,[]⟩))]⟩
def Zd:ch:=cn Qd vi
def IK:FT:=⟨⟨[.d (.sl aM),.d (.sl aM)],[]⟩,⟨qH,[]⟩,dL [(8,(.j ⟨[0,1],[5,6],⟨Lf,[]⟩,[]⟩)),(23,(.j ⟨[1],[5,7],⟨Lf,[]⟩,[]⟩))]⟩
def Tq:ch:=cn IK qN
def zY:FT:=⟨⟨[.d aM],[]⟩,⟨[.d aM],[]⟩,dL [(3,(.j ⟨[0],[8],⟨[.d .bool],[]⟩,[]⟩))]⟩
def KV:ch:=cn zY mb
def Ma:FT:=⟨⟨[.d eG],[]⟩,⟨[.agg act],Z5⟩,dL [(8,(.j ⟨[],[1,2,3,4],⟨Ee,[.cells 205 [.d eG],.cells 205 Vz,.cells 205 [.d aM,.row 3,.row 4,.d aM],.rows 2 M aM,.rows 58 M (.sl aM)]⟩,[.cel 3 2 58 (.sl aM)]⟩))]⟩
def Wz:ch:=cn Ma cg
def L_:FT:=⟨⟨[.d qz,.agg act],Z5⟩,⟨[.agg act,.d .bool],Z5⟩,dL [(8,(.j ⟨[6],[2,3,4,7],⟨[.ptr 2 0,.ptr 3 0,.ptr 4 0,.d aM],agc⟩,[]⟩)),(17,(.j ⟨[6,7],[2,3,4,33],⟨[.ptr 2 0,.ptr 3 0,.ptr 4 0,.d .bool],agc⟩,[]⟩)),(32,(.j ⟨[],[2,3,4,8,9,10],⟨[.ptr 2 0,.ptr 3 0,.ptr 4 0,.d aM,.d .bool,.d (.sl aM)],agc⟩,[]⟩))]⟩
def Wy:ch:=cn L_ vh
def Fe:FT:=⟨⟨[.d vS,.d eG],[]⟩,⟨[.d eG,.d .bool],[]⟩,dL [(3,(.j ⟨[],[2,3,4,23],⟨Bf,[.cells 201 [.d vS],.cells 205 [.d eG],.cells 205 Vz]⟩,[]⟩)),(16,(.j ⟨[],[2,3,4,6],⟨Ee,aj4⟩,[]⟩)),(26,(.j ⟨[6],[2,3,4,44],⟨Bf,aj4⟩,[]⟩))]⟩
def QN:ch:=cn Fe m6
def II:FT:=⟨⟨[.d nj],[]⟩,⟨[.d CX],[]⟩,dL [(8,(.j ⟨[],[1,2,3,4],⟨Ee,[.cells 28 [.d nj],.cells 84 tW,.cells 84 [.row 3,.d aM,.nil,.nil],.rows 157 M dl]⟩,[.cel 3 0 157 dl]⟩)),(23,(.j ⟨[],[1,2,3,5],⟨Ee,[.cells 28 [.d nj],.cells 84 tW,.cells 84 [.row 3,.d aM,.row 4,.nil],.rows 157 M dl,.rows 4 M .bool]⟩,[.cel 3 2 4 .bool]⟩)),(38,(.j ⟨[],[1,2,3,6],⟨Ee,[.cells 28 [.d nj],.cells 84 tW,.cells 84 Z0,.rows 157 M dl,.rows 4 M .bool,.rows 159 M gC]⟩,[.cel 3 3 159 gC]⟩)),(49,(.j ⟨[6],[1,2,3,7],⟨Z2,[.cells 28 [.d nj],.cells 84 tW,.cells 84 [.row 4,.d aM,.row 5,.row 6],.cells 159 [.d gC],.rows 157 M dl,.rows 4 M .bool,.rows 159 M gC]⟩,[]⟩))]⟩
def To:ch:=cn II pe
def L8:FT:=⟨⟨[.d nj,.d CX],[]⟩,⟨[.d .bool],[]⟩,dL [(6,(.j ⟨[],[2,3,5],⟨sT,Up⟩,[]⟩)),(15,(.j ⟨[5],[2,3,31],⟨qC,Up⟩,[]⟩)),(23,(.j ⟨[],[4],⟨[.d .bool],[]⟩,[]⟩))]⟩
def Ww:ch:=cn L8 nB
def U':FT:=⟨⟨uP,[]⟩,⟨[.d .bool],[]⟩,dL [(2,(.j ⟨[],[4],⟨[.d .bool],[]⟩,[]⟩))]⟩
def ac1:ch:=cn U' pW
def IH:FT:=⟨⟨[.d nj,.d aM,.d aM],[]⟩,⟨[.d .bool],[]⟩,dL [(6,(.j ⟨[2,7],[3,8],⟨gR,pH⟩,[]⟩)),(36,(.j ⟨[2,7],[3,18],⟨gR,pH⟩,[]⟩)),(46,(.j ⟨[2,7],[3,26],⟨gR,pH⟩,[]⟩)),(53,(.j ⟨[],[6],⟨[.d .bool],[]⟩,[]⟩)),(56,(.j ⟨[2,7],[3,43],⟨gR,pH⟩,[]⟩)),(71,(.j ⟨[],[6],⟨[.d .bool],[]⟩,[]⟩)),(74,(.j ⟨[2,7],[3,61],⟨gR,pH⟩,[]⟩)),(92,(.j ⟨[2,7],[3,71],⟨gR,pH⟩,[]⟩)),(102,(.j ⟨[2],[3,79],⟨gR,pH⟩,[]⟩))]⟩
def Tn:ch:=cn IH pd
def Cp:FT:=⟨⟨[.d nj,.d CX,.d aM,.d aM,.d aM],[]⟩,⟨[.d .bool],[]⟩,dL [(3,(.j ⟨[2,3,4],[5,6,30],⟨qC,Up⟩,[]⟩)),(25,(.j ⟨[],[10],⟨[.d .bool],[]⟩,[]⟩)),(50,(.j ⟨[],[10],⟨[.d .bool],[]⟩,[]⟩)),(56,(.j ⟨[],[10],⟨[.d .bool],[]⟩,[]⟩)),(59,(.j ⟨[2,4,70],[5,6,11,119],⟨Bf,[.cells 28 [.d nj],.cells 84 [.d CX],.cells 159 [.d gC]]⟩,[]⟩)),(99,(.j ⟨[2,4,70],[5,6,160],⟨qC,Up⟩,[]⟩)),(116,(.j ⟨[],[10],⟨[.d .bool],[]⟩,[]⟩)),(122,(.j ⟨[],[10],⟨[.d .bool],[]⟩,[]⟩))]⟩
def NF:ch:=cn Cp iu
def Co:FT:=⟨⟨[.d CX,.d aM],[]⟩,⟨qH,[]⟩,dL [(8,(.j ⟨[1],[2,5,6],⟨Oc,Z1⟩,[.nil 5 3 aM]⟩)),(16,(.j ⟨[1,6],[2,5],⟨[.ptr 0 0,.row 1],Z1⟩,[]⟩)),(17,(.j ⟨[1,6],[2,5,30],⟨[.ptr 0 0,.row 1,.d .bool],Z1⟩,[]⟩))]⟩
def ND:ch:=cn Co nA
def Cn:FT:=⟨⟨Lf,[]⟩,⟨qH,[]⟩,dL [(8,(.j ⟨[0,1],[5,6],⟨[.row 0,.d aM],[.rows 3 M aM]⟩,[.nil 5 3 aM]⟩)),(16,(.j ⟨[0,1,6],[5],⟨[.row 0],[.rows 3 M aM]⟩,[]⟩))]⟩
def NC:ch:=cn Cn pV
def L9:FT:=⟨⟨[.d CX],[]⟩,⟨[.agg Gs],ag2⟩,dL [(8,(.j ⟨[],[1,2,3,4],⟨Ee,[.cells 84 [.d CX],.cells 84 tW,.cells 84 Z0,.rows 157 M dl,.rows 4 M .bool,.rows 159 M gC]⟩,[.cel 3 0 157 dl]⟩))]⟩
def Wx:ch:=cn L9 ic
def mf:FT:=⟨⟨[.agg Gs,.d aM],ag2⟩,⟨qH,ag2⟩,dL [(8,(.j ⟨[1],[2,5,6],⟨[.ptr 3 0,.row 4,.d aM],ag8⟩,[.nil 5 3 aM]⟩)),(16,(.j ⟨[1,6],[2,5],⟨[.ptr 3 0,.row 4],ag8⟩,[]⟩)),(17,(.j ⟨[1,6],[2,5,30],⟨[.ptr 3 0,.row 4,.d .bool],ag8⟩,[]⟩))]⟩
def KU:ch:=cn mf ma
def Jh:ch:=⟨mf.pre,⟨mf.post.vs,[]⟩,jA⟩
def IJ:FT:=⟨⟨[.d nj,.d CX,.d aM,.d aM,.d aM,.d aM],[]⟩,⟨[.d CX,.d aM,.d .bool],[]⟩,dL [(17,(.j ⟨[],[7,12,15],⟨sT,aga⟩,[]⟩)),(26,(.j ⟨[2,4,5,15,30],[6,7,12,45],⟨Bf,aj5⟩,[]⟩)),(34,(.j ⟨[2,4,5,15,30],[6,7,12,54],⟨Bf,aj5⟩,[]⟩)),(90,(.j ⟨[],[7,12,17],⟨sT,aga⟩,[]⟩)),(109,(.j ⟨[18],[7,12,19],⟨sT,aga⟩,[]⟩))]⟩
def Tp:ch:=cn IJ pf
def IG:FT:=⟨⟨[.d tY],[]⟩,⟨[.d uS],[]⟩,dL [(16,(.j ⟨[],[1,2,3,4],⟨Ee,[.cells 150 [.d tY],.cells 145 uQ,.cells 145 [.d (.sl dl),.d aM,.d l9,.d (.sl gC),.row 3,.nil,.nil],.rows 2 M aM]⟩,[.cel 3 4 2 aM]⟩)),(31,(.j ⟨[],[1,2,3,5],⟨Ee,[.cells 150 [.d tY],.cells 145 uQ,.cells 145 [.d (.sl dl),.d aM,.d l9,.d (.sl gC),.row 3,.row 4,.nil],.rows 2 M aM,.rows 2 M aM]⟩,[.cel 3 5 2 aM]⟩)),(46,(.j ⟨[],[1,2,3,6],⟨Ee,[.cells 150 [.d tY],.cells 145 uQ,.cells 145 ag9,.rows 2 M aM,.rows 2 M aM,.rows 205 M eG]⟩,[.cel 3 6 205 eG]⟩))]⟩
def Tl:ch:=cn IG tf
def L7:FT:=⟨⟨[.d tY,.d uS],[]⟩,⟨[.d .bool],[]⟩,dL [(3,(.j ⟨[],[2,3,46],⟨qC,Z4⟩,[]⟩)),(14,(.j ⟨[],[2,3,5],⟨sT,Z4⟩,[]⟩)),(25,(.j ⟨[5],[2,3,97],⟨qC,Z4⟩,[]⟩))]⟩
def Wu:ch:=cn L7 vg
def L5:FT:=⟨⟨[.d aM],[]⟩,⟨[.d aM],[]⟩,dL [(5,(.j ⟨[0],[3,10],⟨[.row 0,.d .bool],[.rows 3 aa aM]⟩,[]⟩))]⟩
def Ws:ch:=cn L5 vb
def ES:FT:=⟨⟨[.d qz,.d eG],[]⟩,⟨[.d aM],[]⟩,dL [(6,(.j ⟨[6],[2,3,7],⟨qC,[.cells 218 [.d qz],.cells 205 [.d eG]]⟩,[]⟩)),(28,(.j ⟨[],[2,40],⟨gR,[.cells 218 [.d qz]]⟩,[]⟩))]⟩
def Qp:ch:=cn ES rO
def Cm:FT:=⟨⟨[.d tY,.d uS,.d aM],[]⟩,⟨[.d fZ,.d .bool],[]⟩,dL [(3,(.j ⟨[2],[3,4,6,25],⟨Bf,[.cells 150 [.d tY],.cells 145 [.d uS],.cells 60 ue]⟩,[]⟩)),(54,(.j ⟨[],[6,8,9,10],⟨Z2,aj2⟩,[.cel 10 5 3 aM]⟩)),(59,(.j ⟨[],[6,8,9,10,98],⟨tX,[.cells 60 ue,.cells 205 [.d eG],.cells 218 [.d qz],.cells 60 ue]⟩,[]⟩)),(68,(.j ⟨[],[6,10],⟨[.ptr 0 0,.ptr 1 0],[.cells 60 ue,.cells 60 [.d aM,.d aM,.d aM,.d aM,.d aM,.row 2,.row 3],.rows 3 M aM,.rows 3 M aM]⟩,[.cel 10 6 3 aM]⟩)),(69,(.j ⟨[],[6,8,9,10,123],⟨tX,aj2⟩,[]⟩))]⟩
def NA:ch:=cn Cm nz
def IE:FT:=⟨⟨[.d nj],[]⟩,⟨[.d iK],[]⟩,dL [(8,(.j ⟨[],[1,2,3,4],⟨Ee,[.cells 28 [.d nj],.cells 87 uQ,.cells 87 ag9,.rows 2 M aM,.rows 2 aa aM,.rows 3 aa aM]⟩,[.cel 3 4 2 aM]⟩))]⟩
def Tj:ch:=cn IE mM
def L4:FT:=⟨⟨[.d nj,.d iK],[]⟩,⟨[.d .bool],[]⟩,dL [(2,(.j ⟨[],[4],⟨[.d .bool],[]⟩,[]⟩))]⟩
def Wr:ch:=cn L4 qM
def U_:FT:=⟨⟨uP,[]⟩,⟨[.d .bool],[]⟩,dL [(2,(.j ⟨[],[4],⟨[.d .bool],[]⟩,[]⟩))]⟩
def ac0:ch:=cn U_ BK
def Cl:FT:=⟨⟨Lf,[]⟩,⟨[.d .bool],[]⟩,dL [(6,(.j ⟨[0,1],[5],⟨[.d aM],[]⟩,[]⟩)),(15,(.j ⟨[0,1,5],[40],⟨[.d .bool],[]⟩,[]⟩))]⟩
def Nz:ch:=cn Cl kf
def IC:FT:=⟨⟨[.d iK,.d fZ],[]⟩,⟨[.d .bool],[]⟩,dL [(21,(.j ⟨[],[4],⟨[.d .bool],[]⟩,[]⟩)),(24,(.j ⟨[7],[2,3,40],⟨qC,[.cells 87 [.d iK],.cells 60 [.d fZ]]⟩,[]⟩)),(47,(.j ⟨[],[4],⟨[.d .bool],[]⟩,[]⟩))]⟩
def Th:ch:=cn IC o_
def L3:FT:=⟨⟨[.d nj,.d iK,.d fZ],[]⟩,⟨[.d iK,.d .bool],[]⟩,dL [(3,(.j ⟨[],[3,4,5,6,46],⟨tX,JU⟩,[]⟩)),(10,(.j ⟨[],[3,4,5,6],⟨Z2,JU⟩,[]⟩)),(11,(.j ⟨[],[3,4,5,6,55],⟨tX,JU⟩,[]⟩)),(21,(.j ⟨[],[3,4,5,6,78],⟨tX,JU⟩,[]⟩)),(28,(.j ⟨[],[3,4,5,6,8],⟨tX,JU⟩,[]⟩)),(31,(.j ⟨[],[3,4,5,6,110],⟨tX,JU⟩,[]⟩)),(39,(.j ⟨[],[3,4,5,6,125],⟨tX,JU⟩,[]⟩)),(47,(.j ⟨[],[3,4,5,6,154],⟨tX,JU⟩,[]⟩)),(58,(.j ⟨[],[3,4,5,6,9,10],⟨ag1,[.cells 28 [.d nj],.cells 87 [.d iK],.cells 60 [.d fZ],.cells 87 uQ,.cells 87 [.nil,.d aM,.nil,.nil,.row 5,.row 6,.row 7],.rows 2 M aM,.rows 2 M aM,.rows 3 M aM]⟩,[]⟩)),(66,(.j ⟨[],[5,6,9],⟨[.ptr 0 0,.ptr 1 0,.ptr 2 0],afz⟩,[]⟩)),(72,(.j ⟨[],[5,6,9],⟨[.ptr 0 0,.ptr 1 0,.ptr 2 0],afz⟩,[]⟩))]⟩
def Wq:ch:=cn L3 ny
def ID:FT:=⟨⟨[.d (.sl fZ),.d aM,.d aM,.d (.sl aM)],[]⟩,⟨[.d .bool],[]⟩,dL [(6,(.j ⟨[0,1,2,3],[9],⟨[.d aM],[]⟩,[]⟩)),(23,(.j ⟨[0,1,2,3,9],[10,11,12],⟨[.d aM,.d .bool,.d aM],[]⟩,[]⟩)),(31,(.j ⟨[0,1,2,3,9,12],[10,11],⟨[.d aM,.d .bool],[]⟩,[]⟩)),(38,(.j ⟨[0,1,2,3,9,10,12],[11],⟨[.d .bool],[]⟩,[]⟩))]⟩
def Ti:ch:=cn ID mL
def IF:FT:=⟨⟨[.d Ka24],[]⟩,⟨uP,[]⟩,dL [(24,(.j ⟨[],[1,4,5],⟨sT,[.cells 31 [.d Ka24],.cells 87 [.d iK]]⟩,[]⟩)),(38,(.j ⟨[5],[1,4,7,63],⟨Bf,[.cells 31 [.d Ka24],.cells 87 [.d iK],.cells 87 [.d iK]]⟩,[]⟩))]⟩
def Tk:ch:=cn IF mN
def Fd:FT:=⟨⟨[.d uS],[]⟩,⟨[.agg [.agg Gs,.row 3,.row 4,.csl 5 4 1]],[.rows 157 M dl,.rows 4 M .bool,.rows 159 M gC,.rows 2 M aM,.rows 2 M aM,.cells 205 [.d aM,.row 6,.row 7,.d aM],.rows 2 M aM,.rows 58 M (.sl aM)]⟩,dL [(8,(.u 2))]⟩
def QM:ch:=cn Fd mZ
def E4:FT:=⟨⟨Lg,[]⟩,⟨Lh,[]⟩,dL [(27,(.s 5 0 0 1)),(37,(.j ⟨[],[3,4,5,6,7,9,14,15,16],⟨Ll,agm⟩,[]⟩)),(38,(.j ⟨[16,77],[3,4,5,6,7,9,14,15,78],⟨Mv,agm⟩,[]⟩)),(83,(.j ⟨[16],[3,4,5,6,7,9,14],⟨Lj,[.cells 150 [.d tY],.cells 145 aef,.cells 186 [.d ij],.cells 145 uQ,.cells 60 ue,.cells 60 [.d fZ],.cells 205 JS,.rows 2 M aM,.rows 2 M aM,.cells 205 JS,.rows 2 M aM,.rows 58 M (.sl aM)]⟩,[]⟩)),(84,(.j ⟨[16],[3,4,5,6,7,9,14,15,154],⟨Mv,agm⟩,[]⟩)),(95,(.j ⟨[],[4,5,6,7,9,14],⟨Li,[.cells 145 [.d (.sl dl),.d aM,.d l9,.d (.sl gC),.row 6,.row 7,.csl 8 4 1],.cells 186 [.d ij],.cells 145 uQ,.cells 60 ue,.cells 60 [.d fZ],.cells 205 [.d eG],.rows 2 M aM,.rows 2 M aM,.cells 205 [.d eG]]⟩,[]⟩)),(96,(.j ⟨[],[3,4,5,6,7,9,14,183],⟨Lk,[.cells 150 [.d tY],.cells 145 aef,.cells 186 [.d ij],.cells 145 uQ,.cells 60 ue,.cells 60 [.d fZ],.cells 205 JT,.rows 2 M aM,.rows 2 M aM,.cells 205 JT]⟩,[]⟩)),(102,(.s 5 0 0 1)),(104,(.a [.pk 4 6 eG]))]⟩
def Qz:ch:=cn E4 fM
def Fc:FT:=⟨⟨[.d uS],[]⟩,⟨[.agg [.agg Gs,.row 3,.row 4,.csl 5 4 2]],[.rows 157 M dl,.rows 4 M .bool,.rows 159 M gC,.rows 2 M aM,.rows 2 M aM,.cells 205 [.d aM,.row 6,.row 7,.d aM,.d eG],.rows 2 M aM,.rows 58 M (.sl aM)]⟩,dL [(8,(.u 3))]⟩
def QL:ch:=cn Fc mY
def E3:FT:=⟨⟨Lg,[]⟩,⟨Lh,[]⟩,dL [(27,(.s 5 0 0 1)),(37,(.j ⟨[],[3,4,5,6,7,9,14,15,16],⟨Ll,ago⟩,[]⟩)),(38,(.j ⟨[16,77],[3,4,5,6,7,9,14,15,78],⟨Mv,ago⟩,[]⟩)),(83,(.j ⟨[16],[3,4,5,6,7,9,14],⟨Lj,[.cells 150 [.d tY],.cells 145 ad0,.cells 186 [.d ij],.cells 145 uQ,.cells 60 ue,.cells 60 [.d fZ],.cells 205 JS,.rows 2 M aM,.rows 2 M aM,.cells 205 [.d aM,.row 10,.row 11,.d aM,.d eG],.rows 2 M aM,.rows 58 M (.sl aM)]⟩,[]⟩)),(84,(.j ⟨[16],[3,4,5,6,7,9,14,15,154],⟨Mv,ago⟩,[]⟩)),(95,(.j ⟨[],[4,5,6,7,9,14],⟨Li,ajb⟩,[]⟩)),(96,(.j ⟨[],[3,4,5,6,7,9,14,183],⟨Lk,[.cells 150 [.d tY],.cells 145 ad0,.cells 186 [.d ij],.cells 145 uQ,.cells 60 ue,.cells 60 [.d fZ],.cells 205 JT,.rows 2 M aM,.rows 2 M aM,.cells 205 [.d aM,.d (.sl aM),.d uR,.d aM,.d eG]]⟩,[]⟩)),(102,(.s 5 0 0 1)),(104,(.a [.pk 4 6 eG]))]⟩
def Qy:ch:=cn E3 gu
def Fb:FT:=⟨⟨[.d uS],[]⟩,⟨[.agg [.agg Gs,.row 3,.row 4,.csl 5 4 2]],[.rows 157 M dl,.rows 4 M .bool,.rows 159 M gC,.rows 2 M aM,.rows 2 M aM,.cells 205 [.d eG,.d aM,.row 6,.row 7,.d aM],.rows 2 M aM,.rows 58 M (.sl aM)]⟩,dL [(8,(.u 3))]⟩
def QK:ch:=cn Fb mX
def E2:FT:=⟨⟨Lg,[]⟩,⟨Lh,[]⟩,dL [(27,(.s 5 0 1 1)),(37,(.j ⟨[],[3,4,5,6,7,9,14,15,16],⟨Ll,agn⟩,[]⟩)),(38,(.j ⟨[16,77],[3,4,5,6,7,9,14,15,78],⟨Mv,agn⟩,[]⟩)),(83,(.j ⟨[16],[3,4,5,6,7,9,14],⟨Lj,[.cells 150 [.d tY],.cells 145 ad0,.cells 186 [.d ij],.cells 145 uQ,.cells 60 ue,.cells 60 [.d fZ],.cells 205 JS,.rows 2 M aM,.rows 2 M aM,.cells 205 [.d eG,.d aM,.row 10,.row 11,.d aM],.rows 2 M aM,.rows 58 M (.sl aM)]⟩,[]⟩)),(84,(.j ⟨[16],[3,4,5,6,7,9,14,15,154],⟨Mv,agn⟩,[]⟩)),(95,(.j ⟨[],[4,5,6,7,9,14],⟨Li,ajb⟩,[]⟩)),(96,(.j ⟨[],[3,4,5,6,7,9,14,183],⟨Lk,[.cells 150 [.d tY],.cells 145 ad0,.cells 186 [.d ij],.cells 145 uQ,.cells 60 ue,.cells 60 [.d fZ],.cells 205 JT,.rows 2 M aM,.rows 2 M aM,.cells 205 [.d eG,.d aM,.d (.sl aM),.d uR,.d aM]]⟩,[]⟩)),(102,(.s 5 0 1 1)),(104,(.a [.pk 4 6 eG]))]⟩
def Qx:ch:=cn E2 fK
def Fa:FT:=⟨⟨[.d uS],[]⟩,⟨afy,[.rows 157 M dl,.rows 4 M .bool,.rows 159 M gC,.rows 2 M aM,.rows 2 M aM,.cells 205 [.d aM,.row 6,.row 7,.d aM,.d eG,.d eG],.rows 2 M aM,.rows 58 M (.sl aM)]⟩,dL [(8,(.u 4))]⟩
def QJ:ch:=cn Fa mW
def E0:FT:=⟨⟨Lg,[]⟩,⟨Lh,[]⟩,dL [(27,(.s 5 0 0 1)),(37,(.j ⟨[],[3,4,5,6,7,9,14,15,16],⟨Ll,agr⟩,[]⟩)),(38,(.j ⟨[16,77],[3,4,5,6,7,9,14,15,78],⟨Mv,agr⟩,[]⟩)),(83,(.j ⟨[16],[3,4,5,6,7,9,14],⟨Lj,[.cells 150 [.d tY],.cells 145 Xo,.cells 186 [.d ij],.cells 145 uQ,.cells 60 ue,.cells 60 [.d fZ],.cells 205 JS,.rows 2 M aM,.rows 2 M aM,.cells 205 [.d aM,.row 10,.row 11,.d aM,.d eG,.d eG],.rows 2 M aM,.rows 58 M (.sl aM)]⟩,[]⟩)),(84,(.j ⟨[16],[3,4,5,6,7,9,14,15,154],⟨Mv,agr⟩,[]⟩)),(95,(.j ⟨[],[4,5,6,7,9,14],⟨Li,agh⟩,[]⟩)),(96,(.j ⟨[],[3,4,5,6,7,9,14,183],⟨Lk,[.cells 150 [.d tY],.cells 145 Xo,.cells 186 [.d ij],.cells 145 uQ,.cells 60 ue,.cells 60 [.d fZ],.cells 205 JT,.rows 2 M aM,.rows 2 M aM,.cells 205 [.d aM,.d (.sl aM),.d uR,.d aM,.d eG,.d eG]]⟩,[]⟩)),(102,(.s 5 0 0 1)),(104,(.a [.pk 4 6 eG]))]⟩
def Qw:ch:=cn E0 jm
def E_:FT:=⟨⟨[.d uS],[]⟩,⟨afy,[.rows 157 M dl,.rows 4 M .bool,.rows 159 M gC,.rows 2 M aM,.rows 2 M aM,.cells 205 [.d eG,.d aM,.row 6,.row 7,.d aM,.d eG],.rows 2 M aM,.rows 58 M (.sl aM)]⟩,dL [(8,(.u 4))]⟩
def QI:ch:=cn E_ mV
def EZ:FT:=⟨⟨Lg,[]⟩,⟨Lh,[]⟩,dL [(27,(.s 5 0 1 1)),(37,(.j ⟨[],[3,4,5,6,7,9,14,15,16],⟨Ll,agq⟩,[]⟩)),(38,(.j ⟨[16,77],[3,4,5,6,7,9,14,15,78],⟨Mv,agq⟩,[]⟩)),(83,(.j ⟨[16],[3,4,5,6,7,9,14],⟨Lj,[.cells 150 [.d tY],.cells 145 Xo,.cells 186 [.d ij],.cells 145 uQ,.cells 60 ue,.cells 60 [.d fZ],.cells 205 JS,.rows 2 M aM,.rows 2 M aM,.cells 205 [.d eG,.d aM,.row 10,.row 11,.d aM,.d eG],.rows 2 M aM,.rows 58 M (.sl aM)]⟩,[]⟩)),(84,(.j ⟨[16],[3,4,5,6,7,9,14,15,154],⟨Mv,agq⟩,[]⟩)),(95,(.j ⟨[],[4,5,6,7,9,14],⟨Li,agh⟩,[]⟩)),(96,(.j ⟨[],[3,4,5,6,7,9,14,183],⟨Lk,[.cells 150 [.d tY],.cells 145 Xo,.cells 186 [.d ij],.cells 145 uQ,.cells 60 ue,.cells 60 [.d fZ],.cells 205 JT,.rows 2 M aM,.rows 2 M aM,.cells 205 [.d eG,.d aM,.d (.sl aM),.d uR,.d aM,.d eG]]⟩,[]⟩)),(102,(.s 5 0 1 1)),(104,(.a [.pk 4 6 eG]))]⟩
def Qv:ch:=cn EZ iB
def E9:FT:=⟨⟨[.d uS],[]⟩,⟨afy,[.rows 157 M dl,.rows 4 M .bool,.rows 159 M gC,.rows 2 M aM,.rows 2 M aM,.cells 205 [.d eG,.d eG,.d aM,.row 6,.row 7,.d aM],.rows 2 M aM,.rows 58 M (.sl aM)]⟩,dL [(8,(.u 4))]⟩
def QH:ch:=cn E9 mU
def EY:FT:=⟨⟨Lg,[]⟩,⟨Lh,[]⟩,dL [(27,(.s 5 0 2 1)),(37,(.j ⟨[],[3,4,5,6,7,9,14,15,16],⟨Ll,agp⟩,[]⟩)),(38,(.j ⟨[16,77],[3,4,5,6,7,9,14,15,78],⟨Mv,agp⟩,[]⟩)),(83,(.j ⟨[16],[3,4,5,6,7,9,14],⟨Lj,[.cells 150 [.d tY],.cells 145 Xo,.cells 186 [.d ij],.cells 145 uQ,.cells 60 ue,.cells 60 [.d fZ],.cells 205 JS,.rows 2 M aM,.rows 2 M aM,.cells 205 [.d eG,.d eG,.d aM,.row 10,.row 11,.d aM],.rows 2 M aM,.rows 58 M (.sl aM)]⟩,[]⟩)),(84,(.j ⟨[16],[3,4,5,6,7,9,14,15,154],⟨Mv,agp⟩,[]⟩)),(95,(.j ⟨[],[4,5,6,7,9,14],⟨Li,agh⟩,[]⟩)),(96,(.j ⟨[],[3,4,5,6,7,9,14,183],⟨Lk,[.cells 150 [.d tY],.cells 145 Xo,.cells 186 [.d ij],.cells 145 uQ,.cells 60 ue,.cells 60 [.d fZ],.cells 205 JT,.rows 2 M aM,.rows 2 M aM,.cells 205 [.d eG,.d eG,.d aM,.d (.sl aM),.d uR,.d aM]]⟩,[]⟩)),(102,(.s 5 0 2 1)),(104,(.a [.pk 4 6 eG]))]⟩
def Qu:ch:=cn EY gT
def E8:FT:=⟨⟨[.d uS],[]⟩,⟨acz,[.rows 157 M dl,.rows 4 M .bool,.rows 159 M gC,.rows 2 M aM,.rows 2 M aM,.cells 205 [.d aM,.row 6,.row 7,.d aM,.d eG,.d eG,.d eG],.rows 2 M aM,.rows 58 M (.sl aM)]⟩,dL [(8,(.u 5))]⟩
def QF:ch:=cn E8 mT
def dz:FT:=⟨⟨Lg,[]⟩,⟨Lh,[]⟩,dL [(27,(.s 5 0 0 1)),(37,(.j ⟨[],[3,4,5,6,7,9,14,15,16],⟨Ll,agl⟩,[]⟩)),(38,(.j ⟨[16,77],[3,4,5,6,7,9,14,15,78],⟨Mv,agl⟩,[]⟩)),(83,(.j ⟨[16],[3,4,5,6,7,9,14],⟨Lj,[.cells 150 [.d tY],.cells 145 Rp,.cells 186 [.d ij],.cells 145 uQ,.cells 60 ue,.cells 60 [.d fZ],.cells 205 JS,.rows 2 M aM,.rows 2 M aM,.cells 205 [.d aM,.row 10,.row 11,.d aM,.d eG,.d eG,.d eG],.rows 2 M aM,.rows 58 M (.sl aM)]⟩,[]⟩)),(84,(.j ⟨[16],[3,4,5,6,7,9,14,15,154],⟨Mv,agl⟩,[]⟩)),(95,(.j ⟨[],[4,5,6,7,9,14],⟨Li,ad2⟩,[]⟩)),(96,(.j ⟨[],[3,4,5,6,7,9,14,183],⟨Lk,[.cells 150 [.d tY],.cells 145 Rp,.cells 186 [.d ij],.cells 145 uQ,.cells 60 ue,.cells 60 [.d fZ],.cells 205 JT,.rows 2 M aM,.rows 2 M aM,.cells 205 [.d aM,.d (.sl aM),.d uR,.d aM,.d eG,.d eG,.d eG]]⟩,[]⟩)),(102,(.s 5 0 0 1)),(104,(.a [.pk 4 6 eG]))]⟩
def Qt:ch:=cn dz mP
def E7:FT:=⟨⟨[.d uS],[]⟩,⟨acz,[.rows 157 M dl,.rows 4 M .bool,.rows 159 M gC,.rows 2 M aM,.rows 2 M aM,.cells 205 [.d eG,.d aM,.row 6,.row 7,.d aM,.d eG,.d eG],.rows 2 M aM,.rows 58 M (.sl aM)]⟩,dL [(8,(.u 5))]⟩
def QE:ch:=cn E7 mS
def EX:FT:=⟨⟨Lg,[]⟩,⟨Lh,[]⟩,dL [(27,(.s 5 0 1 1)),(37,(.j ⟨[],[3,4,5,6,7,9,14,15,16],⟨Ll,agk⟩,[]⟩)),(38,(.j ⟨[16,77],[3,4,5,6,7,9,14,15,78],⟨Mv,agk⟩,[]⟩)),(83,(.j ⟨[16],[3,4,5,6,7,9,14],⟨Lj,[.cells 150 [.d tY],.cells 145 Rp,.cells 186 [.d ij],.cells 145 uQ,.cells 60 ue,.cells 60 [.d fZ],.cells 205 JS,.rows 2 M aM,.rows 2 M aM,.cells 205 [.d eG,.d aM,.row 10,.row 11,.d aM,.d eG,.d eG],.rows 2 M aM,.rows 58 M (.sl aM)]⟩,[]⟩)),(84,(.j ⟨[16],[3,4,5,6,7,9,14,15,154],⟨Mv,agk⟩,[]⟩)),(95,(.j ⟨[],[4,5,6,7,9,14],⟨Li,ad2⟩,[]⟩)),(96,(.j ⟨[],[3,4,5,6,7,9,14,183],⟨Lk,[.cells 150 [.d tY],.cells 145 Rp,.cells 186 [.d ij],.cells 145 uQ,.cells 60 ue,.cells 60 [.d fZ],.cells 205 JT,.rows 2 M aM,.rows 2 M aM,.cells 205 [.d eG,.d aM,.d (.sl aM),.d uR,.d aM,.d eG,.d eG]]⟩,[]⟩)),(102,(.s 5 0 1 1)),(104,(.a [.pk 4 6 eG]))]⟩
def Qs:ch:=cn EX mO
def E6:FT:=⟨⟨[.d uS],[]⟩,⟨acz,[.rows 157 M dl,.rows 4 M .bool,.rows 159 M gC,.rows 2 M aM,.rows 2 M aM,.cells 205 [.d eG,.d eG,.d aM,.row 6,.row 7,.d aM,.d eG],.rows 2 M aM,.rows 58 M (.sl aM)]⟩,dL [(8,(.u 5))]⟩
def QD:ch:=cn E6 mR
def EW:FT:=⟨⟨Lg,[]⟩,⟨Lh,[]⟩,dL [(27,(.s 5 0 2 1)),(37,(.j ⟨[],[3,4,5,6,7,9,14,15,16],⟨Ll,agj⟩,[]⟩)),(38,(.j ⟨[16,77],[3,4,5,6,7,9,14,15,78],⟨Mv,agj⟩,[]⟩)),(83,(.j ⟨[16],[3,4,5,6,7,9,14],⟨Lj,[.cells 150 [.d tY],.cells 145 Rp,.cells 186 [.d ij],.cells 145 uQ,.cells 60 ue,.cells 60 [.d fZ],.cells 205 JS,.rows 2 M aM,.rows 2 M aM,.cells 205 [.d eG,.d eG,.d aM,.row 10,.row 11,.d aM,.d eG],.rows 2 M aM,.rows 58 M (.sl aM)]⟩,[]⟩)),(84,(.j ⟨[16],[3,4,5,6,7,9,14,15,154],⟨Mv,agj⟩,[]⟩)),(95,(.j ⟨[],[4,5,6,7,9,14],⟨Li,ad2⟩,[]⟩)),(96,(.j ⟨[],[3,4,5,6,7,9,14,183],⟨Lk,[.cells 150 [.d tY],.cells 145 Rp,.cells 186 [.d ij],.cells 145 uQ,.cells 60 ue,.cells 60 [.d fZ],.cells 205 JT,.rows 2 M aM,.rows 2 M aM,.cells 205 [.d eG,.d eG,.d aM,.d (.sl aM),.d uR,.d aM,.d eG]]⟩,[]⟩)),(102,(.s 5 0 2 1)),(104,(.a [.pk 4 6 eG]))]⟩
def Qr:ch:=cn EW lm
def E5:FT:=⟨⟨[.d uS],[]⟩,⟨acz,[.rows 157 M dl,.rows 4 M .bool,.rows 159 M gC,.rows 2 M aM,.rows 2 M aM,.cells 205 [.d eG,.d eG,.d eG,.d aM,.row 6,.row 7,.d aM],.rows 2 M aM,.rows 58 M (.sl aM)]⟩,dL [(8,(.u 5))]⟩
def QC:ch:=cn E5 mQ
def EU:FT:=⟨⟨Lg,[]⟩,⟨Lh,[]⟩,dL [(27,(.s 5 0 3 1)),(37,(.j ⟨[],[3,4,5,6,7,9,14,15,16],⟨Ll,agi⟩,[]⟩)),(38,(.j ⟨[16,77],[3,4,5,6,7,9,14,15,78],⟨Mv,agi⟩,[]⟩)),(83,(.j ⟨[16],[3,4,5,6,7,9,14],⟨Lj,[.cells 150 [.d tY],.cells 145 Rp,.cells 186 [.d ij],.cells 145 uQ,.cells 60 ue,.cells 60 [.d fZ],.cells 205 JS,.rows 2 M aM,.rows 2 M aM,.cells 205 [.d eG,.d eG,.d eG,.d aM,.row 10,.row 11,.d aM],.rows 2 M aM,.rows 58 M (.sl aM)]⟩,[]⟩)),(84,(.j ⟨[16],[3,4,5,6,7,9,14,15,154],⟨Mv,agi⟩,[]⟩)),(95,(.j ⟨[],[4,5,6,7,9,14],⟨Li,ad2⟩,[]⟩)),(96,(.j ⟨[],[3,4,5,6,7,9,14,183],⟨Lk,[.cells 150 [.d tY],.cells 145 Rp,.cells 186 [.d ij],.cells 145 uQ,.cells 60 ue,.cells 60 [.d fZ],.cells 205 JT,.rows 2 M aM,.rows 2 M aM,.cells 205 [.d eG,.d eG,.d eG,.d aM,.d (.sl aM),.d uR,.d aM]]⟩,[]⟩)),(102,(.s 5 0 3 1)),(104,(.a [.pk 4 6 eG]))]⟩
def Qq:ch:=cn EU kh
def Wv:ch:=cn dz za
def L6:FT:=⟨⟨[.d tY,.d uS,.nil,.d (.sl ij)],[]⟩,⟨[.d (.sl fZ),.d uS],[]⟩,dL [(1,(.a [.nil 2 60 fZ])),(6,(.j ⟨[3],[2,4,5,9,10],⟨[.row 0,.ptr 1 0,.ptr 2 0,.ptr 3 0,.d aM],ag7⟩,[]⟩)),(8,(.j ⟨[3,10],[2,4,5,9,22],⟨[.row 0,.ptr 1 0,.ptr 2 0,.ptr 3 0,.d .bool],ag7⟩,[]⟩)),(14,(.j ⟨[3,10],[2,4,5,9],⟨[.row 0,.ptr 1 0,.ptr 2 0,.ptr 3 0],ag7⟩,[]⟩))]⟩
def Wt:ch:=cn L6 ve
def Qc:FT:=⟨⟨[.d tY,.d (.sl ij)],[]⟩,⟨[.d Ka24,.d uS],[]⟩,.leaf⟩
def Zc:ch:=cn Qc xS
def xt:FT:=⟨⟨vR,Rn⟩,⟨[.d aM],Rn⟩,dL [(3,(.j ⟨[1],[0,18],⟨gR,Xm⟩,[]⟩))]⟩
def Gm:ch:=cn xt bC
def Md:FT:=⟨⟨[.d aM],[]⟩,⟨[.d .ex],[]⟩,.leaf⟩
def WG:ch:=cn Md qT
def I1:FT:=⟨⟨[.d .str],[]⟩,⟨[.d .ex],[]⟩,.leaf⟩
def TU:ch:=cn I1 pj
def Cy:FT:=⟨⟨[.d aM,.d .ex,.d .ex],[]⟩,⟨[.d .ex],[]⟩,.leaf⟩
def NQ:ch:=cn Cy nD
def Cz:FT:=⟨⟨[.d .str,.d .ex],[]⟩,⟨[.d .sm],[]⟩,.leaf⟩
def NR:ch:=cn Cz jk
def Fo:FT:=⟨⟨[],[]⟩,⟨[.d (.sl Fx)],[]⟩,.leaf⟩
def Q3:ch:=cn Fo rS
def Ai:FT:=⟨⟨[.d CY],[]⟩,⟨[.d (.sl ij)],[]⟩,dL [(8,(.j ⟨[0],[3,4],⟨[.row 0,.d aM],[.rows 186 M ij]⟩,[.nil 3 186 ij]⟩))]⟩
def K9:ch:=cn Ai ou
def nP:FT:=⟨⟨vR,Ur⟩,⟨[.d .ex],Ur⟩,dL [(8,(.j ⟨[1,6],[0,4,5,14],⟨[.ptr 0 0,.ptr 3 0,.row 4,.d .bool],[.cells 222 aee,.cells 140 [.d xF],.rowsP 9 .str,.cells 226 [.d aM,.d aM,.d .str,.nil],.rows 9 aa .str]⟩,[]⟩))]⟩
def D7:ch:=cn nP eU
def Dq (n:Nat):ch:=cn nP (ig n)
def uB:FT:=⟨⟨[.ptr 0 0,.d .str],Ur⟩,⟨[.d .bool],Ur⟩,.leaf⟩
def CM:ch:=cn uB eB
def mB:FT:=⟨⟨Rq,Ur⟩,⟨[.row 4],[.cells 222 ag5,.cells 140 Oe,.gone,.rowsP 9 .str,.rows 228 M .sm]⟩,dL [(1,(.a [.ren 0 7])),(8,(.j ⟨[1,2],[0,7,8],⟨[.ptr 0 0,.row 3,.d aM],aj3⟩,[.nil 7 228 .sm]⟩)),(10,(.j ⟨[1,2,8],[0,7,22],⟨[.ptr 0 0,.row 3,.d .bool],aj3⟩,[]⟩)),(21,(.a [.nil 6 228 .sm]))]⟩
def CL:ch:=cn mB p_
def BR (n:Nat):ch:=cn mB (dC n)
def re:FT:=⟨⟨vR,Ur⟩,⟨[.d .sm],[.cells 222 ag5,.cells 140 Oe,.gone,.rowsP 9 .str]⟩,dL [(1,(.a [.ren 0 7])),(6,(.j ⟨[1,5],[0,4,6],⟨JR,ZZ⟩,[]⟩)),(28,(.j ⟨[1,5,6],[0,4,74],⟨JR,ZZ⟩,[]⟩)),(33,(.j ⟨[],[4,7],⟨[.ptr 3 0,.ptr 4 0],[.cells 222 [.ptr 1 0,.d aM,.d aM,.d .bool,.d .bool,.d .bool,.d .bool,.row 5],.cells 140 [.d xF],.gone,.cells 228 aeh,.cells 228 [.d aM,.d aM,.d .str,.d .str,.nil,.d aM,.d aM,.d .str,.d (.sl .ex),.row 6,.row 7],.rowsP 9 .str,.rows 228 M .sm,.rows 228 M .sm]⟩,[.cel 7 10 228 .sm]⟩)),(42,(.j ⟨[1,5,6],[0,4,100],⟨JR,ZZ⟩,[]⟩)),(56,(.j ⟨[1,5,6],[0,4,133],⟨JR,ZZ⟩,[]⟩)),(64,(.j ⟨[1,5,6],[0,4,165],⟨JR,ZZ⟩,[]⟩)),(70,(.j ⟨[1,5,6],[0,4,188],⟨JR,ZZ⟩,[]⟩)),(82,(.j ⟨[1,5,6],[0,4,210],⟨JR,ZZ⟩,[]⟩)),(94,(.j ⟨[5,6],[0,4,235],⟨JR,ZZ⟩,[]⟩)),(100,(.j ⟨[5],[0,4,258],⟨JR,ZZ⟩,[]⟩)),(106,(.j ⟨[5],[0,4,278],⟨JR,ZZ⟩,[]⟩)),(114,(.j ⟨[],[0,4,308],⟨JR,ZZ⟩,[]⟩))]⟩
def Dp (n:Nat):ch:=cn re (em n)
def qo:FT:=⟨⟨[.ptr 0 0,.d .str,.d aM],Ur⟩,⟨[.d (.sl .sm)],[.cells 222 ag5,.cells 140 Oe,.gone,.rowsP 9 .str]⟩,.leaf⟩
def BS (n:Nat):ch:=cn qo (dU n)
def Ah:FT:=⟨⟨[.d CY],[]⟩,⟨[.d Mw],[]⟩,dL [(5,(.a [.cel 3 7 9 .str])),(14,(.j ⟨[5],[2,3,4,6,7],⟨[.ptr 0 0,.ptr 1 0,.ptr 2 0,.row 3,.d aM],[.cells 183 [.nil,.nil],.cells 222 [.ptr 4 0,.d aM,.d aM,.d .bool,.d .bool,.d .bool,.d .bool,.row 5],.cells 183 [.d (.sl Fx),.row 6],.rows 9 aa .str,.cells 140 [.d xF],.rowsP 9 .str,.rows 212 M sq]⟩,[.cel 4 1 212 sq]⟩)),(27,(.j ⟨[5,7],[2,3,4,6,8],⟨[.ptr 0 0,.ptr 1 0,.ptr 2 0,.row 3,.ptr 4 0],La7⟩,[.cel 8 3 228 .sm]⟩)),(34,(.j ⟨[5,7],[2,3,4,6,8,9],⟨[.ptr 0 0,.ptr 1 0,.ptr 2 0,.row 3,.ptr 4 0,.d aM],La7⟩,[.cel 8 3 228 .sm]⟩)),(48,(.j ⟨[5,7],[2,3,4,6,8],⟨[.ptr 0 0,.ptr 1 0,.ptr 2 0,.row 3,.ptr 4 0],La7⟩,[]⟩)),(49,(.j ⟨[5,7],[2,3,4,6,8,79],⟨[.ptr 0 0,.ptr 1 0,.ptr 2 0,.row 3,.ptr 4 0,.d .bool],La7⟩,[]⟩))]⟩
def K8:ch:=cn Ah oq
def I2:FT:=⟨⟨[.d CY],[]⟩,⟨[.d tY],[]⟩,.leaf⟩
def TW:ch:=cn I2 wh
def Fp:FT:=⟨⟨[.d CY,.d CY],[]⟩,⟨[.d Ka24],[]⟩,.leaf⟩
def Q4:ch:=cn Fp rT
def Cj:FT:=⟨⟨[],[]⟩,⟨[.d nj],[]⟩,dL [(8,(.j ⟨[21],[0,1,22],⟨sT,ad1⟩,[.cel 1 5 106 nQ]⟩)),(22,(.j ⟨[2,21,22],[0,1,3],⟨sT,ad1⟩,[]⟩))]⟩
def Nx:ch:=cn Cj nv
def yq:FT:=⟨⟨[.d iK],[]⟩,⟨qH,[]⟩,dL [(8,(.j ⟨[8,9],[3,10],⟨[.row 0,.d aM],[.rows 3 M aM]⟩,[.nil 3 3 aM]⟩)),(16,(.j ⟨[8,9,10],[3],⟨[.row 0],[.rows 3 M aM]⟩,[]⟩))]⟩
def Jf:ch:=cn yq kQ
def Ch:FT:=⟨⟨[],[]⟩,⟨qH,[]⟩,.leaf⟩
def Nv:ch:=cn Ch sL
def zX:FT:=⟨⟨Rq,Rn⟩,⟨[.d aM],Rn⟩,dL [(6,(.j ⟨[2,7],[0,8],⟨gR,Xm⟩,[]⟩)),(16,(.j ⟨[2,7],[0,16],⟨gR,Xm⟩,[]⟩)),(26,(.j ⟨[2,7],[0,21],⟨gR,Xm⟩,[]⟩)),(44,(.j ⟨[2,7],[0,26],⟨gR,Xm⟩,[]⟩)),(70,(.j ⟨[2],[0,33],⟨gR,Xm⟩,[]⟩))]⟩
def KQ:ch:=cn zX og
def Cg:FT:=⟨⟨[.ptr 0 0,.d iK,.d aM,.d aM],Rn⟩,⟨[.d aM],Rn⟩,dL [(18,(.j ⟨[10],[0,5,24],⟨qC,[.cells 140 [.d xF],.cells 87 [.d iK]]⟩,[]⟩))]⟩
def Nu:ch:=cn Cg pS
def EQ:FT:=⟨⟨[.ptr 0 0,.row 1],[.cells 140 Oe,.rows 3 M aM]⟩,⟨qH,[.cells 140 Oe,.rows 3 M aM]⟩,dL [(8,(.j ⟨[9],[0,1,5,8,10],⟨[.ptr 0 0,.row 1,.row 2,.row 1,.d aM],ag0⟩,[.nil 5 3 aM]⟩)),(16,(.j ⟨[9,10],[0,1,5,8],⟨[.ptr 0 0,.row 1,.row 2,.row 1],ag0⟩,[]⟩)),(19,(.j ⟨[7,9,10],[0,1,5,8,24],⟨[.ptr 0 0,.row 1,.row 2,.row 1,.d .bool],ag0⟩,[]⟩))]⟩
def Qn:ch:=cn EQ gr
def Ci:FT:=⟨⟨[.ptr 0 0,.d iK,.d nj,.csl 1 1 4],aj1⟩,⟨[.d fZ],aj1⟩,dL [(8,(.j ⟨[9],[0,3,5,6,8,11],⟨[.ptr 0 0,.csl 1 1 4,.ptr 6 0,.ptr 7 0,.ptr 8 0,.ptr 9 0],aj7⟩,[]⟩)),(9,(.j ⟨[9],[0,3,5,6,8,11,36],⟨[.ptr 0 0,.csl 1 1 4,.ptr 6 0,.ptr 7 0,.ptr 8 0,.ptr 9 0,.d .bool],aj7⟩,[]⟩)),(18,(.j ⟨[9],[0,3,8,11],⟨[.ptr 0 0,.csl 1 1 4,.ptr 6 0,.ptr 7 0],aj8⟩,[]⟩)),(19,(.j ⟨[9],[0,3,8,11,74],⟨[.ptr 0 0,.csl 1 1 4,.ptr 6 0,.ptr 7 0,.d .bool],[.cells 140 [.d xF],.cells 58 ZX,.rows 3 M aM,.rows 3 M aM,.rows 3 M aM,.rows 3 M aM,.cells 60 ue,.cells 60 ue]⟩,[]⟩)),(22,(.s 9 0 0 4)),(24,(.j ⟨[],[8,11],⟨[.ptr 6 0,.ptr 7 0],[.cells 140 [.d xF],.cells 58 ZX,.rows 3 M aM,.rows 3 M aM,.rows 3 M aM,.rows 3 M aM,.cells 60 ue,.cells 60 [.d aM,.d aM,.d aM,.d aM,.d aM,.d (.sl aM),.d (.sl aM)]]⟩,[]⟩)),(25,(.j ⟨[9],[0,3,8,11,89],⟨[.ptr 0 0,.csl 1 1 4,.ptr 6 0,.ptr 7 0,.d .bool],aj8⟩,[]⟩)),(28,(.s 9 0 0 4))]⟩
def Nw:ch:=cn Ci pT
def ER:FT:=⟨⟨[.ptr 0 0,.d iK,.d nj,.d aM,.d .bool],Rn⟩,⟨[.d (.sl fZ)],Rn⟩,dL [(8,(.a [.cel 12 0 3 aM,.cel 12 1 3 aM,.cel 12 2 3 aM,.cel 12 3 3 aM])),(9,(.j ⟨[3,11],[0,6,7,12],⟨[.ptr 0 0,.ptr 1 0,.ptr 2 0,.csl 3 1 4],agd⟩,[]⟩)),(10,(.u 5)),(18,(.j ⟨[3,4,11,22,23],[0,6,7,12],⟨[.ptr 0 0,.ptr 1 0,.ptr 2 0,.csl 3 1 4],agd⟩,[]⟩)),(21,(.j ⟨[3,4,11,13,22,23],[0,6,7,12,39],⟨[.ptr 0 0,.ptr 1 0,.ptr 2 0,.csl 3 1 4,.d .bool],agd⟩,[]⟩)),(29,(.j ⟨[3],[0,6,7,11,12],⟨[.ptr 0 0,.ptr 1 0,.ptr 2 0,.row 3,.csl 4 1 4],age⟩,[.nil 11 60 fZ]⟩)),(31,(.j ⟨[3],[0,6,7,11,12,65],⟨[.ptr 0 0,.ptr 1 0,.ptr 2 0,.row 3,.csl 4 1 4,.d .bool],age⟩,[]⟩)),(36,(.j ⟨[3],[0,6,7,11,12],⟨[.ptr 0 0,.ptr 1 0,.ptr 2 0,.row 3,.csl 4 1 4],age⟩,[]⟩)),(47,(.j ⟨[3],[0,6,7,11,12,14,15],⟨[.ptr 0 0,.ptr 1 0,.ptr 2 0,.row 3,.csl 4 1 4,.ptr 5 0,.ptr 6 0],aj9⟩,[]⟩)),(48,(.j ⟨[3],[0,6,7,11,12,14,15,87],⟨[.ptr 0 0,.ptr 1 0,.ptr 2 0,.row 3,.csl 4 1 4,.ptr 5 0,.ptr 6 0,.d .bool],aj9⟩,[]⟩)),(51,(.s 14 0 0 4))]⟩
def Qo:ch:=cn ER rN
def Ck:FT:=⟨⟨Oe,[]⟩,⟨[.d Ka24],[]⟩,dL [(2,(.j ⟨[1],[0,4],⟨[.d CY,.ptr 0 0],[.cells 31 Uq]⟩,[]⟩)),(22,(.j ⟨[1,9],[4,5,6,7,8,10],⟨[.ptr 0 0,.ptr 1 0,.ptr 2 0,.ptr 3 0,.row 4,.d aM],[.cells 31 Uq,.cells 140 [.d xF],.cells 31 [.d (.sl kB),.d (.sl qr),.d (.sl ll),.d (.sl .str),.d (.sl .str),.d (.sl nQ),.nil],.cells 87 [.d iK],.rows 60 aa fZ]⟩,[]⟩)),(37,(.j ⟨[1,48],[4,5,6,7,47,49],⟨[.ptr 0 0,.ptr 1 0,.ptr 2 0,.ptr 3 0,.row 4,.d aM],aja⟩,[.cel 6 6 60 fZ]⟩)),(45,(.j ⟨[1,48,49],[4,5,6,7,47],⟨[.ptr 0 0,.ptr 1 0,.ptr 2 0,.ptr 3 0,.row 4],aja⟩,[]⟩))]⟩
def Ny:ch:=cn Ck pU
def vF:FT:=⟨⟨[.d (.st (.pr CY (.pr CY CY))),.d aM],[]⟩,⟨[.d Ka24],[]⟩,.leaf⟩
def DY:ch:=cn vF kR
theorem KA:aG Pg 106 K2:=mk Ac oo an bZ
theorem H9:aG Pg 75 Jl:=mk yw jC (ac KA an) bZ
theorem EI:aG Pg 74 QX:=mk Fm lx an bZ
theorem S1:aG Pg 107 TK:=mk I0 tw an bZ
theorem S0:aG Pg 76 TJ:=mk IZ pi (ac EI (ac S1 an)) bZ
theorem rW:aG Pg 49 QY:=mk Fn fb (ac EI (ac H9 (ac S0 an))) bZ
theorem H8:aG Pg 213 Tx:=mk IU fD an bZ
theorem SM:aG Pg 202 Tz:=mk IV tm (ac H8 an) bZ
theorem PC:aG Pg 204 QR:=mk Fi rP (ac H8 an) bZ
theorem SO:aG Pg 201 TA:=mk IW qP an bZ
theorem Kz:aG Pg 219 K0:=mk Ab om an bZ
theorem vu:∀n:Nat,aG Pg 214 (FH n)
 |0=>LG oW
 |n+1=>mk oW (oR (i_ n)) (ac rW (ac (vu n) (ac Kz an))) bZ
theorem wZ:aG Pg 214 F_:=(vu fuel)
theorem SX:aG Pg 215 TI:=mk IY qQ an bZ
theorem qZ:∀n:Nat,aG Pg 205 (FG n)/\aG Pg 181 (Do n)
 |0=>⟨LG sk,LG nO⟩
 |n+1=>⟨mk sk (oQ (gV n) (fq n)) (ac rW (ac (qZ n).2 (ac wZ (ac SX an)))) bZ,mk nO (nJ (gV n) (fq n)) (ac (qZ n).1 an) bZ⟩
theorem DC:aG Pg 181 D3:=(qZ fuel).2
theorem FM:aG Pg 180 F9:=mk xg lX (ac rW an) bZ
theorem PF:aG Pg 152 QW:=mk Fl rR (ac rW (ac FM (ac DC an))) bZ
theorem uv:aG Pg 50 ac4:=mk Vc jT an bZ
theorem uu:aG Pg 182 QV:=mk Fk iD an bZ
theorem uM:aG Pg 183 KZ:=mk Aa iv an bZ
theorem PD:aG Pg 216 QU:=mk Fj rQ (ac uv (ac uu (ac uM an))) bZ
theorem LQ:aG Pg 208 WA:=mk Mb gO (ac PD an) bZ
theorem EL:∀n:Nat,aG Pg 217 (Ss n)
 |0=>LG wI
 |n+1=>mk wI (wv (po n)) (ac (EL n) an) bZ
theorem SU:aG Pg 217 TE:=(EL fuel)
theorem EK:∀n:Nat,aG Pg 218 (Sr n)
 |0=>LG wH
 |n+1=>mk wH (wu (pn n)) (ac LQ (ac (EK n) an)) bZ
theorem SR:aG Pg 218 TB:=(EK fuel)
theorem Wa:aG Pg 209 WC:=mk Mc nC (ac wZ (ac SU (ac SR an))) bZ
theorem Nh:aG Pg 210 NK:=mk Cv c9 an bZ
theorem abi:aG Pg 207 ac3:=mk Vb ji an bZ
theorem DB:aG Pg 206 D2:=mk vH ej an bZ
theorem Kx:aG Pg 184 KX:=mk z_ ol (ac uv (ac uu (ac uM (ac DB (ac abi (ac LQ (ac Wa (ac Nh an)))))))) bZ
theorem yf:∀n:Nat,aG Pg 156 (Kr n)
 |0=>LG rH
 |n+1=>mk rH (rD (me n)) (ac (yf n) (ac Kx an)) bZ
theorem Ky:aG Pg 156 KY:=(yf fuel)
theorem EM:∀n:Nat,aG Pg 155 (St n)
 |0=>LG wJ
 |n+1=>mk wJ (ww (pq n)) (ac (EM n) an) bZ
theorem SW:aG Pg 155 TG:=(EM fuel)
theorem SS:aG Pg 153 TD:=mk IX tu (ac uu an) bZ
theorem Ng:aG Pg 154 NJ:=mk Cu pZ (ac uv (ac uu (ac uM an))) bZ
theorem wn:aG Pg 128 NL:=mk Cw ki (ac PF (ac SS (ac Ng (ac SW (ac Ky an))))) bZ
theorem EJ:∀n:Nat,aG Pg 158 (Sq n)
 |0=>LG wG
 |n+1=>mk wG (wq (pm n)) (ac (EJ n) an) bZ
theorem SE:aG Pg 158 Tr:=(EJ fuel)
theorem EE:aG Pg 157 QO:=mk Ff lq an bZ
theorem EH:aG Pg 211 QQ:=mk Fh lw an bZ
theorem SL:aG Pg 129 Tv:=mk IQ tj (ac wn (ac EE (ac SE an))) bZ
theorem SH:aG Pg 48 Ts:=mk IL pg an bZ
theorem wY:aG Pg 30 F8:=mk xf gU (ac SH (ac rW (ac uv an))) bZ
theorem tI:aG Pg 132 Jk:=mk yr jB an bZ
theorem EG:aG Pg 174 QP:=mk Fg px an bZ
theorem SJ:aG Pg 147 Tt:=mk IN tg (ac EG an) bZ
theorem Nd:aG Pg 148 ac2:=mk Va jh an bZ
theorem SK:aG Pg 173 Tu:=mk IP qO (ac Nd an) bZ
theorem Nc:aG Pg 146 NG:=mk Cq pX (ac Nd (ac SK an)) bZ
theorem DA:aG Pg 126 DZ:=mk vG kS (ac tI (ac Nc (ac SJ (ac Nd an)))) bZ
theorem AT:aG Pg 101 Tw:=mk IR ph (ac wY (ac DA an)) bZ
theorem nH:aG Pg 131 NH:=mk Cr cw an bZ
theorem w9:∀n:Nat,aG Pg 189 (HO n)
 |0=>LG ql
 |n+1=>mk ql (qe (iF n)) (ac uv (ac nH (ac (w9 n) (ac EH an)))) bZ
theorem tH:aG Pg 189 Ji:=(w9 fuel)
theorem FL:aG Pg 185 F7:=mk xd lV (ac uv (ac nH (ac tH (ac EH an)))) bZ
theorem Kw:aG Pg 188 KW:=mk zZ jp an bZ
theorem j9:∀n:Nat,aG Pg 130 (HP n)/\aG Pg 159 (Kq n)/\aG Pg 186 (BQ n)/\aG Pg 187 (FF n)
 |0=>⟨LG qm,LG uN,LG qn,LG sj⟩
 |n+1=>⟨mk qm (qf (dF n) (eC n) (cY n) (dB n)) (ac (j9 n).2.1 an) bZ,mk uN (rC (dF n) (eC n) (cY n) (dB n)) (ac uv (ac nH (ac EE (ac FL (ac (j9 n).2.2.1 (ac (j9 n).2.2.2 (ac Kw (ac tH an)))))))) bZ,mk qn (mq (dF n) (eC n) (cY n) (dB n)) (ac (j9 n).1 (ac nH (ac tH an))) bZ,mk sj (oP (dF n) (eC n) (cY n) (dB n)) (ac (j9 n).1 (ac nH an)) bZ⟩
theorem H7:aG Pg 130 Jj:=(j9 fuel).1
theorem Nf:aG Pg 104 NI:=mk Ct pY (ac wn (ac SL (ac H7 (ac nH (ac tI an))))) bZ
theorem H6:aG Pg 80 Ze:=mk Qe oh an bZ
theorem YQ:aG Pg 108 Zd:=mk Qd vi an bZ
theorem H5:aG Pg 83 Tq:=mk IK qN (ac YQ an) bZ
theorem Kv:aG Pg 203 KV:=mk zY mb an bZ
theorem kX:aG Pg 178 Wz:=mk Ma cg an bZ
theorem V_:aG Pg 179 Wy:=mk L_ vh (ac H5 (ac tI (ac SM (ac Kv (ac PC an))))) bZ
theorem jr:aG Pg 151 QN:=mk Fe m6 (ac EG (ac kX (ac V_ an))) bZ
theorem H4:aG Pg 51 To:=mk II pe an bZ
theorem Dz:aG Pg 77 Ww:=mk L8 nB an bZ
theorem UZ:aG Pg 78 ac1:=mk U' pW an bZ
theorem SD:aG Pg 79 Tn:=mk IH pd (ac UZ an) bZ
theorem BY:aG Pg 54 NF:=mk Cp iu (ac Dz (ac UZ (ac SD (ac H6 an)))) bZ
theorem Nb:aG Pg 81 ND:=mk Co nA an bZ
theorem Na:aG Pg 84 NC:=mk Cn pV an bZ
theorem kW:aG Pg 82 Wx:=mk L9 ic an bZ
theorem Ku:aG Pg 81 KU:=mk mf ma an bZ
theorem H3:aG Pg 81 Jh:= @aG.ro Pg 81 mf.pre mf.post.vs ma jA (Ku.holds rfl) rfl (λx _ h=>by rw[show jA x=av (ma x) λy=>same y.2 x.2 (Z y.1) from rfl]at h;exact h)
theorem jG:aG Pg 57 Tp:=mk IJ pf (ac BY (ac H6 (ac H3 (ac kW (ac H5 (ac Na an)))))) bZ
theorem SA:aG Pg 103 Tl:=mk IG tf (ac H4 (ac AT an)) bZ
theorem V8:aG Pg 175 Wu:=mk L7 vg (ac Dz (ac AT an)) bZ
theorem V6:aG Pg 176 Ws:=mk L5 vb an bZ
theorem Pd:aG Pg 177 Qp:=mk ES rO (ac SO an) bZ
theorem iy:aG Pg 149 NA:=mk Cm nz (ac V8 (ac V6 (ac Pd an))) bZ
theorem HZ:aG Pg 31 Tj:=mk IE mM (ac H4 an) bZ
theorem V5:aG Pg 52 Wr:=mk L4 qM (ac Dz an) bZ
theorem abh:aG Pg 53 ac0:=mk U_ BK an bZ
theorem M':aG Pg 55 Nz:=mk Cl kf an bZ
theorem Sy:aG Pg 56 Th:=mk IC o_ (ac H6 (ac Nb an)) bZ
theorem Dy:aG Pg 32 Wq:=mk L3 ny (ac V5 (ac abh (ac BY (ac M' (ac Sy (ac jG an)))))) bZ
theorem Sz:aG Pg 33 Ti:=mk ID mL an bZ
theorem H0:aG Pg 15 Tk:=mk IF mN (ac wY (ac HZ (ac Dy (ac Sz an)))) bZ
def Lp (t:TypeId):J Ty:=if ax t 205 then Z (.pr .un eG) else bZ t
theorem PA:aG Pg 150 QM:=mk Fd mZ (ac kW (ac kX an)) Lp
theorem Pq:aG Pg 127 Qz:=mk E4 fM (ac jG (ac iy (ac PA (ac jr an)))) Lp
theorem Pz:aG Pg 150 QL:=mk Fc mY (ac kW (ac kX an)) Lp
theorem Pp:aG Pg 127 Qy:=mk E3 gu (ac jG (ac iy (ac Pz (ac jr an)))) Lp
theorem Py:aG Pg 150 QK:=mk Fb mX (ac kW (ac kX an)) Lp
theorem Po:aG Pg 127 Qx:=mk E2 fK (ac jG (ac iy (ac Py (ac jr an)))) Lp
theorem Px:aG Pg 150 QJ:=mk Fa mW (ac kW (ac kX an)) Lp
theorem Pn:aG Pg 127 Qw:=mk E0 jm (ac jG (ac iy (ac Px (ac jr an)))) Lp
theorem Pw:aG Pg 150 QI:=mk E_ mV (ac kW (ac kX an)) Lp
theorem Pm:aG Pg 127 Qv:=mk EZ iB (ac jG (ac iy (ac Pw (ac jr an)))) Lp
theorem Pv:aG Pg 150 QH:=mk E9 mU (ac kW (ac kX an)) Lp
theorem Pk:aG Pg 127 Qu:=mk EY gT (ac jG (ac iy (ac Pv (ac jr an)))) Lp
theorem Pu:aG Pg 150 QF:=mk E8 mT (ac kW (ac kX an)) Lp
theorem Pj:aG Pg 127 Qt:=mk dz mP (ac jG (ac iy (ac Pu (ac jr an)))) Lp
theorem Pt:aG Pg 150 QE:=mk E7 mS (ac kW (ac kX an)) Lp
theorem Ph:aG Pg 127 Qs:=mk EX mO (ac jG (ac iy (ac Pt (ac jr an)))) Lp
theorem Ps:aG Pg 150 QD:=mk E6 mR (ac kW (ac kX an)) Lp
theorem Pf:aG Pg 127 Qr:=mk EW lm (ac jG (ac iy (ac Ps (ac jr an)))) Lp
theorem Pr:aG Pg 150 QC:=mk E5 mQ (ac kW (ac kX an)) Lp
theorem Pe:aG Pg 127 Qq:=mk EU kh (ac jG (ac iy (ac Pr (ac jr an)))) Lp
theorem V9:aG Pg 127 Wv:=(aG.orE (pre:=dz.pre) (post:=dz.post) (m:=mP) (m':=(λx=>orE (mO x) ((λx=>orE (lm x) ((λx=>orE (kh x) ((λx=>orE (jm x) ((λx=>orE (iB x) ((λx=>orE (gT x) ((λx=>orE (gu x) ((λx=>orE (fK x) (fM x)) x)) x)) x)) x)) x)) x)) x))) rfl Pj (aG.orE (pre:=dz.pre) (post:=dz.post) (m:=mO) (m':=(λx=>orE (lm x) ((λx=>orE (kh x) ((λx=>orE (jm x) ((λx=>orE (iB x) ((λx=>orE (gT x) ((λx=>orE (gu x) ((λx=>orE (fK x) (fM x)) x)) x)) x)) x)) x)) x))) rfl Ph (aG.orE (pre:=dz.pre) (post:=dz.post) (m:=lm) (m':=(λx=>orE (kh x) ((λx=>orE (jm x) ((λx=>orE (iB x) ((λx=>orE (gT x) ((λx=>orE (gu x) ((λx=>orE (fK x) (fM x)) x)) x)) x)) x)) x))) rfl Pf (aG.orE (pre:=dz.pre) (post:=dz.post) (m:=kh) (m':=(λx=>orE (jm x) ((λx=>orE (iB x) ((λx=>orE (gT x) ((λx=>orE (gu x) ((λx=>orE (fK x) (fM x)) x)) x)) x)) x))) rfl Pe (aG.orE (pre:=dz.pre) (post:=dz.post) (m:=jm) (m':=(λx=>orE (iB x) ((λx=>orE (gT x) ((λx=>orE (gu x) ((λx=>orE (fK x) (fM x)) x)) x)) x))) rfl Pn (aG.orE (pre:=dz.pre) (post:=dz.post) (m:=iB) (m':=(λx=>orE (gT x) ((λx=>orE (gu x) ((λx=>orE (fK x) (fM x)) x)) x))) rfl Pm (aG.orE (pre:=dz.pre) (post:=dz.post) (m:=gT) (m':=(λx=>orE (gu x) ((λx=>orE (fK x) (fM x)) x))) rfl Pk (aG.orE (pre:=dz.pre) (post:=dz.post) (m:=gu) (m':=(λx=>orE (fK x) (fM x))) rfl Pp (aG.orE (pre:=dz.pre) (post:=dz.post) (m:=fK) (m':=fM) rfl Po Pq)))))))))
theorem V7:aG Pg 102 Wt:=mk L6 ve (ac V9 an) bZ
theorem YP:aG Pg 70 Zc:=mk Qc xS (ac AT (ac V7 (ac SA an))) bZ
theorem fg:aG Pg 68 Gm:=mk xt bC an bZ
theorem DF:aG Pg 136 WG:=mk Md qT an bZ
theorem Ic:aG Pg 192 TU:=mk I1 pj an bZ
theorem B5:aG Pg 191 NQ:=mk Cy nD an bZ
theorem B6:aG Pg 135 NR:=mk Cz jk an bZ
theorem PI:aG Pg 133 Q3:=mk Fo rS an bZ
theorem KI:aG Pg 72 K9:=mk Ai ou an bZ
theorem uw:∀n:Nat,aG Pg 190 (Dq n)
 |0=>LG nP
 |n+1=>mk nP (nL (ig n)) (ac fg (ac DF (ac (uw n) (ac B5 (ac Ic an))))) bZ
theorem DG:aG Pg 190 D7:=(uw fuel)
theorem B4:aG Pg 193 CM:=mk uB eB (ac uv an) bZ
theorem jH:∀n:Nat,aG Pg 134 (BR n)/\aG Pg 160 (Dp n)/\aG Pg 194 (BS n)
 |0=>⟨LG mB,LG re,LG qo⟩
 |n+1=>⟨mk mB (mw (dC n) (em n) (dU n)) (ac (jH n).2.1 an) bZ,mk re (nK (dC n) (em n) (dU n)) (ac fg (ac (jH n).1 (ac B6 (ac DF (ac DG (ac B5 (ac Ic (ac B4 (ac (jH n).2.2 an))))))))) bZ,mk qo (my (dC n) (em n) (dU n)) (ac fg (ac (jH n).1 an)) bZ⟩
theorem B3:aG Pg 134 CL:=(jH fuel).1
theorem KH:aG Pg 105 K8:=mk Ah oq (ac fg (ac wn (ac PI (ac B3 (ac B6 (ac DF an)))))) bZ
theorem S3:aG Pg 71 TW:=mk I2 wh (ac Nf (ac KH an)) bZ
theorem PK:aG Pg 38 Q4:=mk Fp rT (ac YP (ac S3 (ac KI an))) bZ
theorem M9:aG Pg 19 Nx:=mk Cj nv an bZ
theorem HW:aG Pg 145 Jf:=mk yq kQ an bZ
theorem M7:aG Pg 122 Nv:=mk Ch sL an bZ
theorem Kt:aG Pg 123 KQ:=mk zX og (ac fg an) bZ
theorem M6:aG Pg 124 Nu:=mk Cg pS (ac fg (ac HW an)) bZ
theorem Pa:aG Pg 125 Qn:=mk EQ gr (ac fg an) bZ
theorem M8:aG Pg 100 Nw:=mk Ci pT (ac fg (ac M7 (ac Kt (ac M6 (ac Pa an))))) bZ
def tv1 (t:TypeId):J Ty:=if ax t 58 then Z (.pr .un (.pr .un (.pr .un (.pr .un (.pr .un (.sl aM)))))) else bZ t
theorem Pb:aG Pg 69 Qo:=mk ER rN (ac Dy (ac fg (ac M8 an))) tv1
theorem M_:aG Pg 37 Ny:=mk Ck pU (ac H0 (ac M9 (ac HZ (ac Dy (ac fg (ac Pb an)))))) bZ
theorem Dx:aG Pg 18 DY:=mk vF kR (ac M_ (ac PK an)) bZ
abbrev afw:Y PV:=[.row 1,.row 2,.row 3,.row 4,.row 5,.row 6,.d (.sl aM),.row 7,.row 8]
abbrev Ld0:Y PB:=[.cells 93 afw,.rows 58 aa (.sl aM),.rows 58 aa (.sl aM),.rows 58 aa (.sl aM),.rows 58 aa (.sl aM),.rows 58 aa (.sl aM),.rows 58 aa (.sl aM),.rows 58 aa (.sl aM),.rows 3 M aM,.rows 3 aa aM]
abbrev Ld9:Y PV:=[.d aM,.d aM,.d aM,.d aM,.d aM,.d (.sl aM),.d (.sl aM)]
abbrev afx:Y PV:=[.d (.sl kB),.d (.sl qr),.d (.sl ll),.d (.sl .str),.d (.sl .str),.d (.sl nQ)]
abbrev Ld1:Y PB:=[.cells 60 Ld9,.cells 93 [.row 3,.row 4,.row 5,.row 6,.row 7,.row 8,.d (.sl aM),.row 9,.row 10],.cells 28 afx,.rows 58 aa (.sl aM),.rows 58 aa (.sl aM),.rows 58 aa (.sl aM),.rows 58 aa (.sl aM),.rows 58 aa (.sl aM),.rows 58 aa (.sl aM),.rows 58 aa (.sl aM),.rows 3 M aM]
abbrev Ld2:Y PB:=[.cells 93 afw,.rows 58 aa (.sl aM),.rows 58 aa (.sl aM),.rows 58 aa (.sl aM),.rows 58 aa (.sl aM),.rows 58 aa (.sl aM),.rows 58 aa (.sl aM),.rows 58 aa (.sl aM),.rows 3 M aM,.rows 3 aa aM,.cells 60 Ld9]
abbrev Ld3:Y PB:=[.rows 157 aa dl,.rows 4 M .bool,.rows 159 M gC,.cells 84 Gs]
abbrev Ld4:Y PB:=[.rows 157 aa dl,.rows 4 M .bool,.rows 159 M gC]
abbrev Ld5:Y PB:=[.cells 28 [.d nj],.cells 84 [.csl 4 2 4,.d aM,.d l9,.d (.sl gC)],.cells 3 [.d aM],.cells 84 tW,.cells 157 [.d aM,.row 5,.d aM,.row 6,.d aM,.row 7,.d aM,.row 8],.rows 3 M aM,.rows 3 M aM,.rows 3 M aM,.rows 3 M aM]
abbrev Ld6:Y PB:=[.cells 87 [.d iK],.cells 60 [.d fZ],.cells 189 [.d Kd1]]
abbrev Ld7:Y PB:=[.cells 28 [.d nj],.cells 84 [.csl 4 2 3,.d aM,.d l9,.d (.sl gC)],.cells 3 [.d aM],.cells 84 tW,.cells 157 [.d aM,.row 5,.d aM,.row 6,.d aM,.row 7],.rows 3 M aM,.rows 3 M aM,.rows 3 M aM]
abbrev Vy:Y PB:=[.rows 3 M aM]
abbrev aiy:Y PB:=[.cells 28 [.d nj],.cells 84 [.csl 4 2 2,.d aM,.d l9,.d (.sl gC)],.cells 3 [.d aM],.cells 84 tW,.cells 157 [.d aM,.row 5,.d aM,.row 6],.rows 3 M aM,.rows 3 M aM]
abbrev ZW:Y PV:=[.d nj,.d CX,.d aM,.d aM,.d aM,.d aM]
abbrev Xk:Y PB:=[.rows 3 M aM,.cells 3 [.d aM]]
abbrev aiw:Y PB:=[.cells 28 [.d nj],.cells 84 [.row 4,.d aM,.row 5,.row 6],.cells 3 [.d aM],.cells 84 tW,.rows 157 aa dl,.rows 4 M .bool,.rows 159 M gC]
abbrev aiv:Y PB:=[.cells 28 [.d nj],.cells 84 [.csl 4 2 1,.d aM,.d l9,.d (.sl gC)],.cells 3 [.d aM],.cells 84 tW,.cells 157 [.d aM,.row 5],.rows 3 M aM]
abbrev Ob:Y PB:=[.rows 3 aa aM]
abbrev aiu:Y PB:=[.cells 84 tW,.cells 84 [.row 2,.d aM,.row 3,.row 4],.rows 157 aa dl,.rows 4 aa .bool,.rows 159 aa gC]
abbrev acs:Y PB:=[.cells 31 [.d Ka24],.rows 50 M ij]
abbrev ZV:Y PB:=[.rows 58 aa (.sl aM)]
abbrev ZU:Y PV:=[.d CX,.d aM,.d .bool]
abbrev Rm:Y PV:=[.row 0,.d aM]
abbrev afv:Y PB:=[.rows 58 aa (.sl aM),.rows 3 aa aM]
abbrev Xj:Y PB:=[.cells 60 [.d fZ]]
abbrev afu:Y PV:=[.ptr 0 0,.ptr 1 0,.ptr 2 0]
def Mi:FT:=⟨⟨Lf,[]⟩,⟨[.d aM],[]⟩,dL [(3,(.j ⟨[0,1],[12],⟨[.d .bool],[]⟩,[]⟩))]⟩
def WX:ch:=cn Mi jt
def Fr:FT:=⟨⟨[.d (.sl aM),.d (.sl aM)],[]⟩,⟨qH,[]⟩,dL [(8,(.j ⟨[0,1,14],[5,15],⟨Rm,Ob⟩,[]⟩))]⟩
def Q9:ch:=cn Fr ly
def Ve:FT:=⟨⟨qH,[]⟩,⟨qH,[]⟩,.leaf⟩
def CP:ch:=cn Ve M1
def af6:ch:=⟨CP.pre,CP.post,AK⟩
def I6:FT:=⟨⟨[.d uR],[]⟩,⟨[.row 0],ZV⟩,dL [(8,(.j ⟨[9,10],[3,11],⟨Rm,ZV⟩,[]⟩))]⟩
def T2:ch:=cn I6 ie
def Ql:FT:=⟨⟨qH,[]⟩,⟨[.row 0],Vy⟩,dL [(8,(.a [.nil 2 3 aM])),(12,(.a [.nil 2 3 aM]))]⟩
def yJ:ch:=cn Ql HJ
def acd:ch:=⟨yJ.pre,yJ.post,gf⟩
def I7:FT:=⟨⟨[.d Kd0],[]⟩,⟨[.agg [.row 0,.row 1,.row 2,.row 3,.row 4,.row 5,.d (.sl aM),.row 6,.row 7]],[.rows 58 aa (.sl aM),.rows 58 aa (.sl aM),.rows 58 aa (.sl aM),.rows 58 aa (.sl aM),.rows 58 aa (.sl aM),.rows 58 aa (.sl aM),.rows 58 aa (.sl aM),.rows 3 M aM]⟩,.leaf⟩
def T3:ch:=cn I7 tC
def Me:FT:=⟨⟨Rm,ZV⟩,⟨qH,ZV⟩,dL [(3,(.j ⟨[1],[0,12],⟨[.row 0,.d .bool],ZV⟩,[]⟩))]⟩
def WP:ch:=cn Me sY
def I9:FT:=⟨⟨afu,Ld1⟩,⟨[.d uR],Ld1⟩,dL [(18,(.j ⟨[6],[0,1,2,25],⟨Bf,Ld1⟩,[]⟩))]⟩
def T5:ch:=cn I9 tD
def Mg:FT:=⟨⟨[.d nj],[]⟩,⟨[.d Kd0],[]⟩,dL [(8,(.j ⟨[40],[2,3,41],⟨sT,[.cells 93 [.nil,.nil,.nil,.nil,.nil,.nil,.nil,.nil,.nil],.cells 93 [.row 2,.row 3,.row 4,.row 5,.row 6,.row 7,.nil,.row 8,.row 9],.rows 58 aa (.sl aM),.rows 58 aa (.sl aM),.rows 58 aa (.sl aM),.rows 58 aa (.sl aM),.rows 58 aa (.sl aM),.rows 58 aa (.sl aM),.rows 58 aa (.sl aM),.rows 3 aa aM]⟩,[]⟩))]⟩
def WS:ch:=cn Mg py
def Fq:FT:=⟨⟨Lf,[]⟩,⟨[.row 0],Ob⟩,dL [(4,(.j ⟨[0,1,5],[6],⟨[.d .bool],[]⟩,[]⟩)),(6,(.j ⟨[0,1,6],[5],⟨[.d aM],[]⟩,[]⟩)),(16,(.j ⟨[],[7],⟨[.row 0],Ob⟩,[]⟩)),(17,(.j ⟨[1],[7,33],⟨[.row 0,.d .bool],Ob⟩,[]⟩))]⟩
def Q7:ch:=cn Fq rV
def vK:FT:=⟨⟨[.row 0],Ob⟩,⟨qH,Ob⟩,.leaf⟩
def Zq:ch:=cn vK vm
def acb:ch:=⟨vK.pre,⟨vK.post.vs,[]⟩,up⟩
def zo:FT:=⟨⟨[.d (.sl aM),.row 0],Ob⟩,⟨qH,Ob⟩,dL [(8,(.j ⟨[0,14],[1,5,15],⟨[.row 0,.row 1,.d aM],[.rows 3 aa aM,.rows 3 aa aM]⟩,[]⟩))]⟩
def ac9:ch:=cn zo sN
def af5:ch:=⟨zo.pre,⟨zo.post.vs,[]⟩,AJ⟩
def I4:FT:=⟨⟨[.row 0,.d aM,.row 1],afv⟩,⟨[],afv⟩,dL [(0,(.j ⟨[1],[0,2,13],⟨[.row 0,.row 1,.d .bool],afv⟩,[]⟩))]⟩
def TY:ch:=cn I4 lJ
def Qf:FT:=⟨⟨[.ptr 0 0,.d aM,.row 9],Ld0⟩,⟨[],Ld0⟩,.leaf⟩
def Zl:ch:=cn Qf vj
def Mf:FT:=⟨⟨[.d nj,.ptr 0 0,.d fZ,.row 9],Ld0⟩,⟨[],Ld0⟩,dL [(6,(.j ⟨[],[],⟨[],Ld0⟩,[]⟩)),(11,(.j ⟨[20],[1,3,4,6,32],⟨[.ptr 0 0,.row 9,.ptr 10 0,.ptr 11 0,.d .bool],[.cells 93 afw,.rows 58 aa (.sl aM),.rows 58 aa (.sl aM),.rows 58 aa (.sl aM),.rows 58 aa (.sl aM),.rows 58 aa (.sl aM),.rows 58 aa (.sl aM),.rows 58 aa (.sl aM),.rows 3 M aM,.rows 3 aa aM,.cells 28 afx,.cells 60 Ld9]⟩,[]⟩)),(48,(.j ⟨[],[1,3,6,129],⟨[.ptr 0 0,.row 9,.ptr 10 0,.d .bool],Ld2⟩,[]⟩)),(59,(.j ⟨[141],[1,3,6,140,142],⟨[.ptr 0 0,.row 9,.ptr 10 0,.row 8,.d aM],Ld2⟩,[]⟩)),(67,(.j ⟨[141,142],[1,3,6,140],⟨[.ptr 0 0,.row 9,.ptr 10 0,.row 8],Ld2⟩,[]⟩))]⟩
def WR:ch:=cn Mf qU
def Qg:FT:=⟨⟨[.d nj,.d Kd0,.d fZ],[]⟩,⟨[.d Kd0,.row 0],Ob⟩,dL [(14,(.j ⟨[22,23],[3,5,6,7,24],⟨[.ptr 0 0,.ptr 1 0,.ptr 2 0,.ptr 3 0,.d aM],[.cells 28 afx,.cells 60 Ld9,.cells 93 [.row 4,.row 5,.row 6,.row 7,.row 8,.row 9,.d (.sl aM),.row 10,.row 11],.cells 58 qH,.rows 58 aa (.sl aM),.rows 58 aa (.sl aM),.rows 58 aa (.sl aM),.rows 58 aa (.sl aM),.rows 58 aa (.sl aM),.rows 58 aa (.sl aM),.rows 58 aa (.sl aM),.rows 3 M aM]⟩,[]⟩))]⟩
def Zm:ch:=cn Qg rU
def vE:FT:=⟨⟨[.d .str],[]⟩,⟨[.d .bool],[]⟩,dL [(6,(.j ⟨[0,5],[6],⟨[.d aM],[]⟩,[]⟩))]⟩
def DX:ch:=cn vE ib
def zW:FT:=⟨⟨[.d .str],[]⟩,⟨[.d .bool],[]⟩,dL [(3,(.j ⟨[0],[16],⟨[.d .bool],[]⟩,[]⟩)),(14,(.j ⟨[],[18],⟨[.ptr 0 0],[.mp ll .un]⟩,[]⟩)),(24,(.j ⟨[],[18],⟨[.ptr 0 0],[.mp ll .un]⟩,[]⟩)),(25,(.j ⟨[3,4],[18,23],⟨gR,[.mp ll .un]⟩,[]⟩)),(29,(.j ⟨[],[18,38],⟨gR,[.mp ll .un]⟩,[]⟩))]⟩
def KP:ch:=cn zW ku
def Jc:FT:=⟨⟨Lf,[]⟩,⟨[.d aM],[]⟩,dL [(6,(.j ⟨[0,1,7],[8],⟨[.d aM],[]⟩,[]⟩))]⟩
def Ua:ch:=cn Jc qW
def Al:FT:=⟨⟨Lf,[]⟩,⟨[.d .bool],[]⟩,.leaf⟩
def Lb:ch:=cn Al jq
def Ak:FT:=⟨⟨[.d (.sl aM),.d ij],[]⟩,⟨[.d .bool],[]⟩,.leaf⟩
def La:ch:=cn Ak md
def I8:FT:=⟨⟨[.d fZ],[]⟩,⟨[.d .bool],[]⟩,dL [(2,(.j ⟨[],[2],⟨[.d .bool],[]⟩,[]⟩))]⟩
def T4:ch:=cn I8 qV
def CD:FT:=⟨⟨[.d Ka24,.d aM,.d aM],[]⟩,⟨[.d .bool],[]⟩,dL [(5,(.j ⟨[],[3,7,8,30],⟨Bf,[.cells 31 [.d Ka24],.cells 60 [.d fZ],.cells 60 [.d fZ]]⟩,[]⟩)),(13,(.j ⟨[],[7,8,48],⟨qC,[.cells 60 [.d fZ],.cells 60 [.d fZ]]⟩,[]⟩)),(20,(.j ⟨[],[6],⟨[.d .bool],[]⟩,[]⟩))]⟩
def NU:ch:=cn CD qb
def I5:FT:=⟨⟨[.d (.sl fZ)],[]⟩,⟨[.d (.sl ij)],[]⟩,dL [(10,(.j ⟨[11,12],[3,4,13],⟨[.mp 0,.row 1,.d aM],[.mp aM aM,.rows 65 aa ij]⟩,[.mpt 3 aM aM]⟩))]⟩
def TZ:ch:=cn I5 m7
def xu:FT:=⟨⟨uP,[]⟩,⟨[.d .bool],[]⟩,dL [(2,(.j ⟨[],[4],⟨[.d .bool],[]⟩,[]⟩))]⟩
def Gn:ch:=cn xu lZ
def xv:FT:=⟨⟨[.d nj,.d aM,.d .bool],[]⟩,⟨[.d .bool],[]⟩,dL [(2,(.j ⟨[],[6],⟨[.d .bool],[]⟩,[]⟩))]⟩
def Gp:ch:=cn xv oM
def sC:FT:=⟨⟨[.d (.sl kB)],[]⟩,⟨[.d (.sl .str),.d .bool],[]⟩,dL [(8,(.j ⟨[0],[4,5],⟨Rm,[.rows 9 M .str]⟩,[.nil 4 9 .str]⟩)),(15,(.j ⟨[0],[4,5],⟨Rm,[.rows 9 M .str]⟩,[]⟩)),(37,(.j ⟨[0,5],[4,6,49],⟨[.row 0,.ptr 1 0,.d .bool],[.rows 9 M .str,.cells 100 [.d kB]]⟩,[]⟩)),(48,(.j ⟨[0,5,51],[4,6,52],⟨[.row 0,.ptr 1 0,.d aM],[.rows 9 M .str,.cells 100 [.d kB]]⟩,[]⟩))]⟩
def zL:ch:=cn sC fH
def sB:FT:=⟨⟨[.d nj,.d (.sl .str)],[]⟩,⟨[.d .bool],[]⟩,dL [(10,(.j ⟨[17,18],[2,5,19],⟨Oc,Xn⟩,[]⟩)),(27,(.j ⟨[30,31],[2,5,32],⟨Oc,Xn⟩,[]⟩)),(50,(.j ⟨[52],[10,51,53],⟨[.mp 0,.row 1,.d aM],[.mp .str .bool,.rows 9 M .str]⟩,[.mpt 10 .str .bool]⟩)),(62,(.j ⟨[12,52,53],[10,51,64],⟨[.mp 0,.row 1,.d .bool],[.mp .str .bool,.rows 9 M .str]⟩,[.mpt 10 .str .bool]⟩))]⟩
def zK:ch:=cn sB fG
def sA:FT:=⟨⟨[.d nj],[]⟩,⟨[.d .bool],[]⟩,dL [(8,(.j ⟨[8,9],[1,3,4,10],⟨[.ptr 0 0,.d aM,.d aM,.d aM],pH⟩,[]⟩)),(20,(.j ⟨[3,4,8,9,10],[1,6,25],⟨qC,[.cells 28 [.d nj],.cells 106 [.d nQ]]⟩,[]⟩)),(27,(.j ⟨[8,9,10],[1,3,4,6],⟨[.ptr 0 0,.d aM,.d aM,.ptr 1 0],[.cells 28 [.d nj],.cells 106 [.d nQ]]⟩,[]⟩))]⟩
def zJ:ch:=cn sA fE
def sD:FT:=⟨⟨[.d nj],[]⟩,⟨[.d .bool],[]⟩,dL [(3,(.j ⟨[],[1,34],⟨gR,pH⟩,[]⟩)),(11,(.j ⟨[],[1,44],⟨gR,pH⟩,[]⟩)),(21,(.j ⟨[],[1,58],⟨gR,pH⟩,[]⟩)),(32,(.j ⟨[60,61],[1,62],⟨vR,pH⟩,[]⟩))]⟩
def zM:ch:=cn sD dv
def Ag:FT:=⟨⟨[.d nj],[]⟩,⟨[.d CX],[]⟩,dL [(8,(.j ⟨[20],[2,3,21],⟨sT,aiu⟩,[]⟩)),(21,(.j ⟨[],[2,3],⟨[.ptr 0 0,.ptr 1 0],aiu⟩,[]⟩))]⟩
def K6:ch:=cn Ag kz
def uz:FT:=⟨⟨[.d nj],[]⟩,⟨[.d iK],[]⟩,dL [(8,(.j ⟨[22,23],[2,3,24],⟨sT,[.cells 87 uQ,.cells 87 [.d (.sl dl),.d aM,.d l9,.d (.sl gC),.row 2,.row 3,.row 4],.rows 2 aa aM,.rows 2 aa aM,.rows 3 aa aM]⟩,[]⟩))]⟩
def CH:ch:=cn uz eA
def rZ:FT:=⟨⟨[.d l9,.d fZ],[]⟩,⟨[.d .bool],[]⟩,dL [(6,(.j ⟨[0,13],[14],⟨[.d aM],[]⟩,[]⟩)),(20,(.j ⟨[0,13,14,17,18],[19],⟨[.d aM],[]⟩,[]⟩)),(31,(.j ⟨[0,13,14,17,18,19],[37],⟨[.d .bool],[]⟩,[]⟩))]⟩
def yF:ch:=cn rZ bR
def yz:FT:=⟨⟨uP,[]⟩,⟨[.d .bool],[]⟩,dL [(2,(.j ⟨[],[4],⟨[.d .bool],[]⟩,[]⟩))]⟩
def Jm:ch:=cn yz eM
def xl:FT:=⟨⟨[.d nj,.d aM,.d aM],[]⟩,⟨[.d .bool],[]⟩,dL [(6,(.j ⟨[2,7],[3,8],⟨gR,pH⟩,[]⟩)),(36,(.j ⟨[2,7],[3,18],⟨gR,pH⟩,[]⟩)),(46,(.j ⟨[2,7],[3,26],⟨gR,pH⟩,[]⟩)),(53,(.j ⟨[],[6],⟨[.d .bool],[]⟩,[]⟩)),(56,(.j ⟨[2,7],[3,43],⟨gR,pH⟩,[]⟩)),(71,(.j ⟨[],[6],⟨[.d .bool],[]⟩,[]⟩)),(74,(.j ⟨[2,7],[3,61],⟨gR,pH⟩,[]⟩)),(92,(.j ⟨[2,7],[3,71],⟨gR,pH⟩,[]⟩)),(102,(.j ⟨[2],[3,79],⟨gR,pH⟩,[]⟩))]⟩
def Gf:ch:=cn xl iY
def Cx:FT:=⟨⟨[.d nj,.d CX],[]⟩,⟨[.d .bool],[]⟩,dL [(3,(.j ⟨[],[2,31],⟨gR,pH⟩,[]⟩)),(14,(.j ⟨[33,34],[2,35],⟨vR,pH⟩,[]⟩))]⟩
def NP:ch:=cn Cx iw
def Ae:FT:=⟨⟨[.d nj,.d CX,.d aM,.d aM,.d aM],[]⟩,⟨[.d .bool],[]⟩,dL [(15,(.j ⟨[],[10],⟨[.d .bool],[]⟩,[]⟩)),(21,(.j ⟨[],[10],⟨[.d .bool],[]⟩,[]⟩)),(24,(.j ⟨[2,4,11],[5,6,60],⟨qC,Up⟩,[]⟩)),(64,(.j ⟨[2,4,11],[5,6,109],⟨qC,Up⟩,[]⟩)),(81,(.j ⟨[],[10],⟨[.d .bool],[]⟩,[]⟩)),(87,(.j ⟨[],[10],⟨[.d .bool],[]⟩,[]⟩))]⟩
def K4:ch:=cn Ae kx
def xm:FT:=⟨⟨[.d nj,.d CX,.d aM,.d aM,.d aM],[]⟩,⟨[.d .bool],[]⟩,dL [(3,(.j ⟨[2,3,4],[5,6,30],⟨qC,Up⟩,[]⟩)),(25,(.j ⟨[],[10],⟨[.d .bool],[]⟩,[]⟩)),(29,(.j ⟨[],[10],⟨[.d .bool],[]⟩,[]⟩))]⟩
def Gg:ch:=cn xm eg
def vC:FT:=⟨⟨[.d nj,.d iK],[]⟩,⟨[.d .bool],[]⟩,dL [(2,(.j ⟨[],[4],⟨[.d .bool],[]⟩,[]⟩))]⟩
def DV:ch:=cn vC ia
def tQ:FT:=⟨⟨[.d nj,.d fZ],[]⟩,⟨[.d .bool],[]⟩,dL [(3,(.j ⟨[],[2,3,12],⟨qC,[.cells 28 [.d nj],.cells 60 [.d fZ]]⟩,[]⟩)),(10,(.j ⟨[],[4],⟨[.d .bool],[]⟩,[]⟩))]⟩
def AY:ch:=cn tQ gm
def qk:FT:=⟨⟨[.d nj,.d iK,.d fZ],[]⟩,⟨[.d .bool],[]⟩,dL [(2,(.j ⟨[],[4,5,7],⟨qC,[.cells 87 [.d iK],.cells 60 [.d fZ]]⟩,[]⟩)),(4,(.j ⟨[],[4,5,8],⟨afu,Ld6⟩,[]⟩)),(10,(.j ⟨[51],[4,5,8,52],⟨Ee,Ld6⟩,[]⟩)),(22,(.j ⟨[10,51,52],[4,5,8,64],⟨Bf,Ld6⟩,[]⟩)),(34,(.j ⟨[51,52,65,66],[4,5,8,11,67],⟨[.ptr 0 0,.ptr 1 0,.ptr 2 0,.d aM,.d aM],Ld6⟩,[]⟩)),(46,(.j ⟨[13,51,52,65,66,67],[4,5,8,83],⟨Bf,Ld6⟩,[]⟩))]⟩
def wM:ch:=cn qk dw
def tP:FT:=⟨⟨[.d iK,.d fZ],[]⟩,⟨[.d .bool],[]⟩,dL [(21,(.j ⟨[],[4],⟨[.d .bool],[]⟩,[]⟩)),(24,(.j ⟨[13],[2,3,46],⟨qC,[.cells 87 [.d iK],.cells 60 [.d fZ]]⟩,[]⟩)),(43,(.j ⟨[53,54],[3,5,6,55],⟨[.ptr 0 0,.d aM,.d .bool,.d aM],Xj⟩,[]⟩)),(51,(.j ⟨[53,54,55],[3,5,6],⟨[.ptr 0 0,.d aM,.d .bool],Xj⟩,[]⟩)),(54,(.j ⟨[5,6,7,53,54,55],[3,69],⟨gR,Xj⟩,[]⟩)),(62,(.j ⟨[],[4],⟨[.d .bool],[]⟩,[]⟩)),(74,(.j ⟨[94,95],[3,9,96],⟨Rq,Xj⟩,[]⟩)),(82,(.j ⟨[94,95,96],[3,9],⟨vR,Xj⟩,[]⟩)),(85,(.j ⟨[9,94,95,96],[3,109],⟨gR,Xj⟩,[]⟩))]⟩
def AX:ch:=cn tP eI
def Ad:FT:=⟨⟨[.d gC,.d aM],[]⟩,⟨[.d .bool],[]⟩,dL [(2,(.j ⟨[],[4],⟨[.d .bool],[]⟩,[]⟩))]⟩
def K3:ch:=cn Ad mc
def Qm:FT:=⟨⟨[.d l9],[]⟩,⟨[.d l9],[]⟩,.leaf⟩
def yK:ch:=cn Qm HL
def ace:ch:=⟨yK.pre,yK.post,ze⟩
def Mm:FT:=⟨⟨[.d l9],[]⟩,⟨[.row 0],[.rows 4 M .bool]⟩,dL [(8,(.a [.nil 2 4 .bool])),(12,(.a [.nil 2 4 .bool]))]⟩
def vN:ch:=cn Mm Dn
def Zs:ch:=⟨vN.pre,vN.post,HK⟩
def Qk:FT:=⟨⟨[.d (.sl gC)],[]⟩,⟨[.d (.sl gC)],[]⟩,.leaf⟩
def yI:ch:=cn Qk HI
def aca:ch:=⟨yI.pre,yI.post,zd⟩
def Mk:FT:=⟨⟨[.d (.sl gC)],[]⟩,⟨[.row 0],[.rows 159 M gC]⟩,dL [(8,(.a [.nil 2 159 gC])),(12,(.a [.nil 2 159 gC]))]⟩
def vL:ch:=cn Mk Dl
def Zp:ch:=⟨vL.pre,vL.post,HH⟩
def Ml:FT:=⟨⟨qH,[]⟩,⟨[.row 0],[.rows 2 M aM]⟩,dL [(8,(.a [.nil 2 2 aM])),(12,(.a [.nil 2 2 aM]))]⟩
def vM:ch:=cn Ml Dm
def Zr:ch:=⟨vM.pre,vM.post,xY⟩
def Af:FT:=⟨⟨[.d CX],[]⟩,⟨[.agg Gs],Ld4⟩,dL [(8,(.j ⟨[11,12],[1,2,3,13],⟨[.ptr 0 0,.ptr 1 0,.row 2,.d aM],[.cells 84 [.d CX],.cells 84 tW,.rows 157 aa dl]⟩,[]⟩))]⟩
def K5:ch:=cn Af ky
def yA:FT:=⟨⟨[.agg Gs,.d aM,.d aM],Ld4⟩,⟨[.d aM],Ld4⟩,dL [(8,(.j ⟨[1,2,12],[3,7,11,13],⟨[.ptr 3 0,.d aM,.row 2,.d aM],Ld3⟩,[]⟩)),(16,(.j ⟨[1,2,12,13],[3,7,11],⟨[.ptr 3 0,.d aM,.row 2],Ld3⟩,[]⟩)),(19,(.j ⟨[1,2,7,8,12,13],[3,11,29],⟨[.ptr 3 0,.row 2,.d .bool],Ld3⟩,[]⟩)),(25,(.j ⟨[7],[],⟨[],Ld4⟩,[]⟩))]⟩
def Jn:ch:=cn yA jD
def uA:FT:=⟨⟨[.agg Gs,.d aM],Ld4⟩,⟨[.d aM],Ld4⟩,dL [(8,(.j ⟨[1,10],[2,5,9,11],⟨[.ptr 3 0,.d aM,.row 2,.d aM],Ld3⟩,[]⟩)),(16,(.j ⟨[1,10,11],[2,5,9],⟨[.ptr 3 0,.d aM,.row 2],Ld3⟩,[]⟩))]⟩
def CK:ch:=cn uA gI
def yD:FT:=⟨⟨[.d aM],[]⟩,⟨[.d .bool],[]⟩,.leaf⟩
def Jv:ch:=cn yD qc
def Aj:FT:=⟨⟨uP,[]⟩,⟨[.d .bool],[]⟩,dL [(2,(.j ⟨[],[4],⟨[.d .bool],[]⟩,[]⟩))]⟩
def K_:ch:=cn Aj uL
def vI:FT:=⟨⟨[.d (.int .u64)],[]⟩,⟨[.d aM],[]⟩,.leaf⟩
def D6:ch:=cn vI qS
def yB:FT:=⟨⟨[.d (.int .u64)],[]⟩,⟨[.d aM],[]⟩,.leaf⟩
def Jp:ch:=cn yB tB
def nT:FT:=⟨⟨[.row 0,.d aM,.d aM],Vy⟩,⟨[],Vy⟩,dL [(3,(.j ⟨[1,2],[0,6],⟨Rm,Vy⟩,[]⟩)),(15,(.j ⟨[1,2,6],[0,7],⟨Rm,Vy⟩,[]⟩)),(17,(.j ⟨[1,2,6,7],[0,30],⟨[.row 0,.d .bool],Vy⟩,[]⟩))]⟩
def uc:ch:=cn nT fx
def sx:FT:=⟨⟨[.row 0,.d aM,.d aM,.d aM],Vy⟩,⟨[],Vy⟩,dL [(5,(.j ⟨[],[0,1,2,3,8,9],⟨[.row 0,.d aM,.d aM,.d aM,.d .bool,.d .bool],Vy⟩,[]⟩))]⟩
def zI:ch:=cn sx je
def Mj:FT:=⟨⟨[.row 0],Vy⟩,⟨[],Vy⟩,.leaf⟩
def WY:ch:=cn Mj iQ
def CG:FT:=⟨⟨[.row 0],Vy⟩,⟨[.row 0],Vy⟩,dL [(14,(.j ⟨[],[0,3],⟨Rm,Vy⟩,[]⟩))]⟩
def NZ:ch:=cn CG ec
def xn:FT:=⟨⟨[.d aM,.ptr 0 0],[.cells 3 [.d aM]]⟩,⟨[.d .bool],[.cells 3 [.d aM]]⟩,.leaf⟩
def Gh:ch:=cn xn oL
def yE:FT:=⟨⟨[.row 0,.clo 119 1 0],Xk⟩,⟨[.d aM],Xk⟩,dL [(6,(.j ⟨[7],[0,1,8],⟨[.row 0,.clo 119 1 0,.d aM],Xk⟩,[]⟩))]⟩
def Jw:ch:=cn yE m8
def xw:FT:=⟨⟨[.row 0,.clo 119 1 0],Xk⟩,⟨[.row 2],[.gone,.cells 3 [.d aM],.rows 3 aa aM]⟩,dL [(16,(.j ⟨[],[0,1,5,6],⟨[.row 0,.clo 119 1 0,.d aM,.d aM],Xk⟩,[]⟩)),(24,(.j ⟨[6],[0,1,5],⟨[.row 0,.clo 119 1 0,.d aM],Xk⟩,[]⟩))]⟩
def Gq:ch:=cn xw c8
def fc:FT:=⟨⟨ZW,[]⟩,⟨ZU,[]⟩,dL [(17,(.j ⟨[],[7,12,15],⟨sT,[.cells 84 [.row 2,.d aM,.row 3,.row 4],.cells 84 tW,.rows 157 aa dl,.rows 4 M .bool,.rows 159 M gC]⟩,[]⟩)),(26,(.j ⟨[4,5,15,27],[6,7,8,12,42],⟨tX,aiw⟩,[]⟩)),(34,(.j ⟨[4,5,15,27],[6,7,8,12,51],⟨tX,aiw⟩,[]⟩))]⟩
def Jo:ch:=cn fc gJ
def xk:FT:=⟨⟨[.d CX],[]⟩,⟨[.agg [.csl 0 2 1,.d aM,.d l9,.d (.sl gC)]],[.cells 157 [.d aM,.row 1],.rows 3 M aM]⟩,dL [(7,(.j ⟨[],[1,2,3],⟨[.ptr 0 0,.ptr 1 0,.csl 2 2 1],[.cells 84 [.d CX],.cells 84 tW,.cells 157 [.d aM,.row 3],.rows 3 M aM]⟩,[.cel 3 1 3 aM]⟩)),(8,(.u 2))]⟩
def Ge:ch:=cn xk iX
def xr:FT:=⟨⟨ZW,[]⟩,⟨ZU,[]⟩,dL [(17,(.j ⟨[],[7,12,15],⟨sT,[.cells 84 [.csl 2 2 1,.d aM,.d l9,.d (.sl gC)],.cells 84 tW,.cells 157 [.d aM,.d (.sl aM)]]⟩,[]⟩)),(26,(.j ⟨[4,5,15,27],[6,7,8,12,42],⟨tX,aiv⟩,[]⟩)),(33,(.s 4 0 0 0)),(34,(.j ⟨[4,5,15,27],[6,7,8,12,51],⟨tX,aiv⟩,[]⟩)),(41,(.s 4 0 0 0)),(46,(.s 4 0 0 1)),(53,(.s 4 0 0 1)),(74,(.s 4 0 0 0)),(80,(.s 4 0 0 0)),(100,(.a [.pk 7 0 dl]))]⟩
def Gl:ch:=cn xr gd
def xj:FT:=⟨⟨[.d CX],[]⟩,⟨[.agg [.csl 0 2 2,.d aM,.d l9,.d (.sl gC)]],[.cells 157 [.d aM,.row 1,.d aM,.row 2],.rows 3 M aM,.rows 3 M aM]⟩,dL [(7,(.j ⟨[],[1,2,3],⟨[.ptr 0 0,.ptr 1 0,.csl 2 2 2],[.cells 84 [.d CX],.cells 84 tW,.cells 157 [.d aM,.row 3,.d aM,.row 4],.rows 3 M aM,.rows 3 M aM]⟩,[.cel 3 1 3 aM,.cel 3 3 3 aM]⟩)),(8,(.u 3))]⟩
def Gb:ch:=cn xj iW
def xq:FT:=⟨⟨ZW,[]⟩,⟨ZU,[]⟩,dL [(17,(.j ⟨[],[7,12,15],⟨sT,[.cells 84 [.csl 2 2 2,.d aM,.d l9,.d (.sl gC)],.cells 84 tW,.cells 157 [.d aM,.d (.sl aM),.d aM,.d (.sl aM)]]⟩,[]⟩)),(26,(.j ⟨[4,5,15,27],[6,7,8,12,42],⟨tX,aiy⟩,[]⟩)),(33,(.s 4 0 0 0)),(34,(.j ⟨[4,5,15,27],[6,7,8,12,51],⟨tX,aiy⟩,[]⟩)),(41,(.s 4 0 0 0)),(46,(.s 4 0 0 2)),(53,(.s 4 0 0 2)),(74,(.s 4 0 0 0)),(80,(.s 4 0 0 0)),(100,(.a [.pk 7 0 dl]))]⟩
def Gk:ch:=cn xq fe
def xi:FT:=⟨⟨[.d CX],[]⟩,⟨[.agg [.csl 0 2 3,.d aM,.d l9,.d (.sl gC)]],[.cells 157 [.d aM,.row 1,.d aM,.row 2,.d aM,.row 3],.rows 3 M aM,.rows 3 M aM,.rows 3 M aM]⟩,dL [(7,(.j ⟨[],[1,2,3],⟨[.ptr 0 0,.ptr 1 0,.csl 2 2 3],[.cells 84 [.d CX],.cells 84 tW,.cells 157 [.d aM,.row 3,.d aM,.row 4,.d aM,.row 5],.rows 3 M aM,.rows 3 M aM,.rows 3 M aM]⟩,[.cel 3 1 3 aM,.cel 3 3 3 aM,.cel 3 5 3 aM]⟩)),(8,(.u 4))]⟩
def Ga:ch:=cn xi iV
def xp:FT:=⟨⟨ZW,[]⟩,⟨ZU,[]⟩,dL [(17,(.j ⟨[],[7,12,15],⟨sT,[.cells 84 [.csl 2 2 3,.d aM,.d l9,.d (.sl gC)],.cells 84 tW,.cells 157 [.d aM,.d (.sl aM),.d aM,.d (.sl aM),.d aM,.d (.sl aM)]]⟩,[]⟩)),(26,(.j ⟨[4,5,15,27],[6,7,8,12,42],⟨tX,Ld7⟩,[]⟩)),(33,(.s 4 0 0 0)),(34,(.j ⟨[4,5,15,27],[6,7,8,12,51],⟨tX,Ld7⟩,[]⟩)),(41,(.s 4 0 0 0)),(46,(.s 4 0 0 3)),(53,(.s 4 0 0 3)),(74,(.s 4 0 0 0)),(80,(.s 4 0 0 0)),(100,(.a [.pk 7 0 dl]))]⟩
def Gj:ch:=cn xp eO
def xh:FT:=⟨⟨[.d CX],[]⟩,⟨[.agg [.csl 0 2 4,.d aM,.d l9,.d (.sl gC)]],[.cells 157 [.d aM,.row 1,.d aM,.row 2,.d aM,.row 3,.d aM,.row 4],.rows 3 M aM,.rows 3 M aM,.rows 3 M aM,.rows 3 M aM]⟩,dL [(7,(.j ⟨[],[1,2,3],⟨[.ptr 0 0,.ptr 1 0,.csl 2 2 4],[.cells 84 [.d CX],.cells 84 tW,.cells 157 [.d aM,.row 3,.d aM,.row 4,.d aM,.row 5,.d aM,.row 6],.rows 3 M aM,.rows 3 M aM,.rows 3 M aM,.rows 3 M aM]⟩,[.cel 3 1 3 aM,.cel 3 3 3 aM,.cel 3 5 3 aM,.cel 3 7 3 aM]⟩)),(8,(.u 5))]⟩
def F':ch:=cn xh lY
def xo:FT:=⟨⟨ZW,[]⟩,⟨ZU,[]⟩,dL [(17,(.j ⟨[],[7,12,15],⟨sT,[.cells 84 [.csl 2 2 4,.d aM,.d l9,.d (.sl gC)],.cells 84 tW,.cells 157 [.d aM,.d (.sl aM),.d aM,.d (.sl aM),.d aM,.d (.sl aM),.d aM,.d (.sl aM)]]⟩,[]⟩)),(26,(.j ⟨[4,5,15,27],[6,7,8,12,42],⟨tX,Ld5⟩,[]⟩)),(33,(.s 4 0 0 0)),(34,(.j ⟨[4,5,15,27],[6,7,8,12,51],⟨tX,Ld5⟩,[]⟩)),(41,(.s 4 0 0 0)),(46,(.s 4 0 0 4)),(53,(.s 4 0 0 4)),(74,(.s 4 0 0 0)),(80,(.s 4 0 0 0)),(100,(.a [.pk 7 0 dl]))]⟩
def Gi:ch:=cn xo f_
def K7:ch:=cn fc ry
def vD:FT:=⟨⟨[.d nj,.d iK,.d fZ],[]⟩,⟨[.d iK,.d .bool],[]⟩,dL [(3,(.j ⟨[],[3,4,5,6,39],⟨tX,JU⟩,[]⟩)),(11,(.j ⟨[],[3,4,5,6,70],⟨tX,JU⟩,[]⟩)),(20,(.j ⟨[],[3,4,5,6,8],⟨[.ptr 0 0,.ptr 1 0,.ptr 2 0,.ptr 3 0,.d aM],JU⟩,[]⟩)),(41,(.j ⟨[],[5,6,12],⟨afu,afz⟩,[]⟩))]⟩
def DW:ch:=cn vD dR
def tT:FT:=⟨⟨[.d Ka24],[]⟩,⟨uP,[]⟩,dL [(26,(.j ⟨[27,28],[1,4,5,29],⟨[.ptr 0 0,.ptr 1 0,.csl 2 1 1,.d aM],[.cells 31 [.d Ka24],.cells 87 [.d iK],.cells 81 [.row 3],.rows 4 M .bool]⟩,[.cel 5 0 4 .bool]⟩)),(40,(.j ⟨[6,27,28,29],[1,4,5,7,8,53],⟨[.ptr 0 0,.ptr 1 0,.csl 2 1 1,.ptr 3 0,.ptr 4 0,.d .bool],[.cells 31 [.d Ka24],.cells 87 [.d iK],.cells 81 [.row 5],.cells 60 [.d fZ],.cells 87 [.d iK],.rows 4 M .bool]⟩,[]⟩)),(41,(.b 9 7 0 0 1)),(47,(.j ⟨[27,28,29],[1,4,5,8],⟨[.ptr 0 0,.ptr 1 0,.csl 2 1 1,.ptr 3 0],[.cells 31 [.d Ka24],.cells 87 [.d iK],.cells 81 [.row 4],.cells 87 [.d iK],.rows 4 M .bool]⟩,[]⟩)),(48,(.s 7 0 0 1))]⟩
def Bb:ch:=cn tT dX
def tS:FT:=⟨⟨[.d Ka24],[]⟩,⟨uP,[]⟩,dL [(26,(.j ⟨[27,28],[1,4,5,29],⟨[.ptr 0 0,.ptr 1 0,.csl 2 1 2,.d aM],[.cells 31 [.d Ka24],.cells 87 [.d iK],.cells 81 [.row 3,.row 4],.rows 4 M .bool,.rows 4 M .bool]⟩,[.cel 5 0 4 .bool,.cel 5 1 4 .bool]⟩)),(40,(.j ⟨[6,27,28,29],[1,4,5,7,8,53],⟨[.ptr 0 0,.ptr 1 0,.csl 2 1 2,.ptr 3 0,.ptr 4 0,.d .bool],[.cells 31 [.d Ka24],.cells 87 [.d iK],.cells 81 [.row 5,.row 6],.cells 60 [.d fZ],.cells 87 [.d iK],.rows 4 M .bool,.rows 4 M .bool]⟩,[]⟩)),(41,(.b 9 7 0 0 2)),(47,(.j ⟨[27,28,29],[1,4,5,8],⟨[.ptr 0 0,.ptr 1 0,.csl 2 1 2,.ptr 3 0],[.cells 31 [.d Ka24],.cells 87 [.d iK],.cells 81 [.row 4,.row 5],.cells 87 [.d iK],.rows 4 M .bool,.rows 4 M .bool]⟩,[]⟩)),(48,(.s 7 0 0 2))]⟩
def Ba:ch:=cn tS dj
def tR:FT:=⟨⟨[.d Ka24],[]⟩,⟨uP,[]⟩,dL [(26,(.j ⟨[27,28],[1,4,5,29],⟨[.ptr 0 0,.ptr 1 0,.csl 2 1 3,.d aM],[.cells 31 [.d Ka24],.cells 87 [.d iK],.cells 81 [.row 3,.row 4,.row 5],.rows 4 M .bool,.rows 4 M .bool,.rows 4 M .bool]⟩,[.cel 5 0 4 .bool,.cel 5 1 4 .bool,.cel 5 2 4 .bool]⟩)),(40,(.j ⟨[6,27,28,29],[1,4,5,7,8,53],⟨[.ptr 0 0,.ptr 1 0,.csl 2 1 3,.ptr 3 0,.ptr 4 0,.d .bool],[.cells 31 [.d Ka24],.cells 87 [.d iK],.cells 81 [.row 5,.row 6,.row 7],.cells 60 [.d fZ],.cells 87 [.d iK],.rows 4 M .bool,.rows 4 M .bool,.rows 4 M .bool]⟩,[]⟩)),(41,(.b 9 7 0 0 3)),(47,(.j ⟨[27,28,29],[1,4,5,8],⟨[.ptr 0 0,.ptr 1 0,.csl 2 1 3,.ptr 3 0],[.cells 31 [.d Ka24],.cells 87 [.d iK],.cells 81 [.row 4,.row 5,.row 6],.cells 87 [.d iK],.rows 4 M .bool,.rows 4 M .bool,.rows 4 M .bool]⟩,[]⟩)),(48,(.s 7 0 0 3))]⟩
def A_:ch:=cn tR dE
def eJ:FT:=⟨⟨[.d Ka24],[]⟩,⟨uP,[]⟩,dL [(26,(.j ⟨[27,28],[1,4,5,29],⟨[.ptr 0 0,.ptr 1 0,.csl 2 1 4,.d aM],[.cells 31 [.d Ka24],.cells 87 [.d iK],.cells 81 [.row 3,.row 4,.row 5,.row 6],.rows 4 M .bool,.rows 4 M .bool,.rows 4 M .bool,.rows 4 M .bool]⟩,[.cel 5 0 4 .bool,.cel 5 1 4 .bool,.cel 5 2 4 .bool,.cel 5 3 4 .bool]⟩)),(40,(.j ⟨[6,27,28,29],[1,4,5,7,8,53],⟨[.ptr 0 0,.ptr 1 0,.csl 2 1 4,.ptr 3 0,.ptr 4 0,.d .bool],[.cells 31 [.d Ka24],.cells 87 [.d iK],.cells 81 [.row 5,.row 6,.row 7,.row 8],.cells 60 [.d fZ],.cells 87 [.d iK],.rows 4 M .bool,.rows 4 M .bool,.rows 4 M .bool,.rows 4 M .bool]⟩,[]⟩)),(41,(.b 9 7 0 0 4)),(47,(.j ⟨[27,28,29],[1,4,5,8],⟨[.ptr 0 0,.ptr 1 0,.csl 2 1 4,.ptr 3 0],[.cells 31 [.d Ka24],.cells 87 [.d iK],.cells 81 [.row 4,.row 5,.row 6,.row 7],.cells 87 [.d iK],.rows 4 M .bool,.rows 4 M .bool,.rows 4 M .bool,.rows 4 M .bool]⟩,[]⟩)),(48,(.s 7 0 0 4))]⟩
def AZ:ch:=cn eJ cS
def CI:ch:=cn eJ kc
def I_:FT:=⟨⟨[.d Ka24],[]⟩,⟨[.d uR,.d aM],[]⟩,dL [(20,(.j ⟨[25,26],[1,6,7,27],⟨[.ptr 0 0,.ptr 1 0,.row 2,.d aM],[.cells 31 [.d Ka24],.cells 93 [.d Kd0],.rows 58 aa (.sl aM)]⟩,[]⟩))]⟩
def T6:ch:=cn I_ jF
def Mh:FT:=⟨⟨[.d Ka24],[]⟩,⟨[.d (.sl ij),.d aM],[]⟩,dL [(20,(.j ⟨[4,6,23],[1,7,24],⟨Oc,acs⟩,[.nil 7 50 ij]⟩)),(34,(.j ⟨[4,6,8,23,24,27],[1,7,28],⟨Oc,acs⟩,[]⟩)),(42,(.j ⟨[4,6,8,23,24,27,28],[1,7],⟨[.ptr 0 0,.row 1],acs⟩,[]⟩)),(45,(.j ⟨[4,6,8,9,23,24,27,28],[1,7,46],⟨[.ptr 0 0,.row 1,.d .bool],acs⟩,[]⟩))]⟩
def WU:ch:=cn Mh kU
def Vd:FT:=⟨⟨[],[]⟩,⟨[.d nj],[]⟩,dL [(8,(.j ⟨[21],[0,1,22],⟨sT,ad1⟩,[.cel 1 5 106 nQ]⟩)),(22,(.j ⟨[2,21,22],[0,1,3],⟨sT,ad1⟩,[]⟩))]⟩
def ac8:ch:=cn Vd BN
def I3:FT:=⟨⟨[.d .bool],[]⟩,⟨[.d Ka24],[]⟩,dL [(6,(.j ⟨[],[2,3],⟨[.ptr 0 0,.ptr 1 0],[.cells 31 Uq,.cells 31 [.d (.sl kB),.d (.sl qr),.d (.sl ll),.d (.sl .str),.d (.sl .str),.d (.sl nQ),.row 2],.rows 60 aa fZ]⟩,[]⟩))]⟩
def TX:ch:=cn I3 wi
def CA:FT:=⟨⟨[],[]⟩,⟨[.d .bool],[]⟩,dL [(6,(.j ⟨[],[0],⟨[.d .bool],[]⟩,[]⟩))]⟩
def NS:ch:=cn CA qa
theorem DH:aG Pg 43 WX:=mk Mi jt an bZ
theorem OZ x:li (ly x) (xR x):=by
 unfold ly xR ux ck bx bp aY cH aB ct;with_reducible repeat' first|(refine OI.o ?_;constructor)|intro _
theorem PN:aG Pg 41 Q9:=xV Fr ly xR OZ (ac DH an) bZ
theorem abl:aG Pg 40 CP:=mk Ve M1 an bZ
theorem Y1:aG Pg 40 af6:= @aG.sub Pg 40 CP.pre CP.post M1 AK abl rfl (λx y h=>rh (b:=8) x y h)
theorem Sh x:li (ie x) (AF x):=by
 unfold ie AF wy ck bx mF bp aY cH aB ct;with_reducible repeat' first|(refine OI.o ?_;constructor)|intro _
theorem S6:aG Pg 97 T2:=xV I6 ie AF Sh (ac Y1 an) bZ
theorem YX:aG Pg 40 yJ:=mk Ql HJ an bZ
theorem zj:aG Pg 40 acd:= @aG.sub Pg 40 yJ.pre yJ.post HJ gf YX rfl (λx y h=>rh (b:=8) x y h)
theorem S7:aG Pg 63 T3:=mk I7 tC (ac zj (ac S6 an)) bZ
theorem Wb:aG Pg 65 WP:=mk Me sY an bZ
theorem S9:aG Pg 64 T5:=mk I9 tD (ac Wb an) bZ
theorem VU x:li (py x) (Di x):=by
 unfold py Di zl aX bh bk bS da ip nl ck bx bp aY cH aB ct;with_reducible repeat' first|(refine OI.o ?_;constructor)|intro _
theorem Wd:aG Pg 35 WS:=xV Mg py Di VU an bZ
theorem PL:aG Pg 66 Q7:=mk Fq rV an bZ
theorem YW:aG Pg 40 Zq:=mk vK vm an bZ
theorem U0:aG Pg 40 acb:= @aG.ro Pg 40 vK.pre vK.post.vs vm up (YW.holds rfl) rfl (λx _ h=>by rw[show up x=av (vm x) λy=>same y.2 x (Z y.1) from iU (av _) (funext λ_=>OL ..)]at h;exact h)
theorem ab3 x:li (sN x) (MZ x):=by
 unfold sN MZ G0 ck bx bp aY cH aB ct;with_reducible repeat' first|(refine OI.o ?_;constructor)|intro _
theorem abk:aG Pg 41 ac9:=xV zo sN MZ ab3 (ac DH an) bZ
theorem YT:aG Pg 41 af5:= @aG.ro Pg 41 zo.pre zo.post.vs sN AJ (abk.holds rfl) rfl (λx _ h=>by rw[show AJ x=av (sN x) λy=>same y.2 x.2 (Z y.1) from iU (av _) (funext λ_=>OL ..)]at h;exact h)
theorem S5:aG Pg 98 TY:=mk I4 lJ (ac YT an) bZ
theorem YR:aG Pg 99 Zl:=mk Qf vj (ac U0 an) bZ
theorem VS x:li (qU x) (Dh x):=by
 unfold qU Dh zk yS J2 Prod.p12 Prod.p13 Prod.p14 Prod.p15 Prod.p16 Prod.p17 aX bh bk bS da ip ug yR Prod.q10 Prod.q16 Prod.q17 Prod.q18 cC gG Prod.q9 ck bi bx ja mF bp aY cH aB ct;with_reducible repeat' first|(refine OI.o ?_;constructor)|intro _
theorem Wc:aG Pg 67 WR:=xV Mf qU Dh VS (ac U0 (ac YT (ac S5 (ac YR an)))) bZ
theorem Yq x:li (rU x) (Hz x):=by
 unfold rU Hz B7 yS J2 aX bh bk bS da ip ug yR Prod.q11 Prod.q12 cC dI nl Prod.q9 ck bx mF bp aY cH ct;with_reducible repeat' first|(refine OI.o ?_;constructor)|intro _
theorem YS:aG Pg 36 Zm:=xV Qg rU Hz Yq (ac PN (ac S7 (ac S9 (ac PL (ac Wc an))))) bZ
theorem Df x:li (ib x) (qL x):=by
 unfold ib qL nI yS J2 Prod.p12 Prod.p13 Prod.p14 Prod.p15 Prod.p16 Prod.p17 Prod.p18 Prod.p19 aX Prod.p20 bh bk bS da ip ug yR Prod.q21 bx bp cH aB ct;with_reducible repeat' first|(refine OI.o ?_;constructor)|intro _
theorem Dw:aG Pg 137 DX:=xV vE ib qL Df an bZ
theorem Ki x:li (ku x) (uI x):=by
 unfold ku uI rB bi bx ja aY cH aB;with_reducible repeat' first|(refine OI.o ?_;constructor)|intro _
theorem Ks:aG Pg 109 KP:=xV zW ku uI Ki (ac Dw an) bZ
theorem Sk x:li (qW x) (AH x):=by
 unfold qW AH wC bi bx bF aY cH aB ct;with_reducible repeat' first|(refine OI.o ?_;constructor)|intro _
theorem Ta:aG Pg 161 Ua:=xV Jc qW AH Sk an bZ
theorem KK:aG Pg 138 Lb:=mk Al jq (ac Ta an) bZ
theorem zS:aG Pg 29 La:=mk Ak md (ac DH an) bZ
theorem S8:aG Pg 47 T4:=mk I8 qV an bZ
theorem Nj:aG Pg 28 NU:=mk CD qb (ac S8 an) bZ
theorem Sg x:li (m7 x) (AE x):=by
 unfold m7 AE wx ck bx bp bF aY cH aB ct;with_reducible repeat' first|(refine OI.o ?_;constructor)|intro _
theorem If:aG Pg 27 TZ:=xV I5 m7 AE Sg an bZ
theorem FZ:aG Pg 110 Gn:=mk xu lZ an bZ
theorem F0:aG Pg 87 Gp:=mk xv oM (ac FZ an) bZ
theorem zA x:li (fH x) (nX x):=by
 unfold fH nX kM aX bh bk bS cI dI bi bx iA bp bF aY cH aB ct;with_reducible repeat' first|(refine OI.o ?_;constructor)|intro _
theorem zG:aG Pg 85 zL:=xV sC fH nX zA an bZ
theorem zw x:li (fG x) (nW x):=by
 unfold fG nW kL aX bh bk bx bp bF kF aY cH aB ct;with_reducible repeat' first|(refine OI.o ?_;constructor)|intro _
theorem zF:aG Pg 86 zK:=xV sB fG nW zw (ac Ks an) bZ
theorem zu x:li (fE x) (nV x):=by
 unfold fE nV kK aX bh bS cC bx iA bF aY cH aB ct;with_reducible repeat' first|(refine OI.o ?_;constructor)|intro _
theorem zE:aG Pg 88 zJ:=xV sA fE nV zu an bZ
theorem zB x:li (dv x) (nY x):=by
 unfold dv nY kN aX bh bS cC bx bF aY cH aB ct;with_reducible repeat' first|(refine OI.o ?_;constructor)|intro _
theorem kJ:aG Pg 58 zM:=xV sD dv nY zB (ac zG (ac zF (ac F0 (ac zE an)))) bZ
theorem Kl x:li (kz x) (uK x):=by
 unfold kz uK rF aX bh bk bn cI cC ck bx bp aY cH aB ct;with_reducible repeat' first|(refine OI.o ?_;constructor)|intro _
theorem KE:aG Pg 89 K6:=xV Ag kz uK Kl an bZ
theorem BH x:li (eA x) (pQ x):=by
 unfold eA pQ mo aX bh bk cI bx bp bF aY cH aB ct;with_reducible repeat' first|(refine OI.o ?_;constructor)|intro _
theorem mn:aG Pg 59 CH:=xV uz eA pQ BH (ac KE an) bZ
theorem xO x:li (bR x) (mK x):=by
 unfold bR mK iE da gG bx ja bp bF aY cH aB ct;with_reducible repeat' first|(refine OI.o ?_;constructor)|intro _
theorem kl:aG Pg 61 yF:=xV rZ bR mK xO an bZ
theorem tJ:aG Pg 112 Jm:=mk yz eM an bZ
theorem FR:aG Pg 113 Gf:=mk xl iY (ac tJ an) bZ
theorem MT x:li (iw x) (wa x):=by
 unfold iw wa qh aX bh bk cI bx iA bF aY cH aB ct;with_reducible repeat' first|(refine OI.o ?_;constructor)|intro _
theorem B2:aG Pg 111 NP:=xV Cx iw wa MT (ac tJ an) bZ
theorem KB:aG Pg 114 K4:=mk Ae kx (ac KK an) bZ
theorem j8:aG Pg 91 Gg:=mk xm eg (ac B2 (ac tJ (ac FR (ac KB an)))) bZ
theorem Dv:aG Pg 90 DV:=mk vC ia (ac B2 an) bZ
theorem AM:aG Pg 92 AY:=mk tQ gm an bZ
theorem v9 x:li (dw x) (lH x):=by
 unfold dw lH gK aX bh bk bS bn cI dI bi bx ja bp bF aY cH aB ct;with_reducible repeat' first|(refine OI.o ?_;constructor)|intro _
theorem wj:aG Pg 93 wM:=xV qk dw lH v9 an bZ
theorem Ay x:li (eI x) (oY x):=by
 unfold eI oY jI aX bh bk bS bn bi bx bF aY cH aB ct;with_reducible repeat' first|(refine OI.o ?_;constructor)|intro _
theorem AL:aG Pg 94 AX:=xV tP eI oY Ay an bZ
theorem zR:aG Pg 144 K3:=mk Ad mc an bZ
theorem Y0:aG Pg 139 yK:=mk Qm HL an bZ
theorem GU:aG Pg 139 ace:= @aG.sub Pg 139 yK.pre yK.post HL ze Y0 rfl (λx y h=>rh (b:=1) x y h)
theorem Wg:aG Pg 139 vN:=mk Mm Dn an bZ
theorem YZ:aG Pg 139 Zs:= @aG.sub Pg 139 vN.pre vN.post Dn HK Wg rfl (λx y h=>rh (b:=1) x y h)
theorem YV:aG Pg 140 yI:=mk Qk HI an bZ
theorem GR:aG Pg 140 aca:= @aG.sub Pg 140 yI.pre yI.post HI zd YV rfl (λx y h=>rh (b:=24) x y h)
theorem We:aG Pg 140 vL:=mk Mk Dl an bZ
theorem YU:aG Pg 140 Zp:= @aG.sub Pg 140 vL.pre vL.post Dl HH We rfl (λx y h=>rh (b:=24) x y h)
theorem Wf:aG Pg 96 vM:=mk Ml Dm an bZ
theorem YY:aG Pg 96 Zr:= @aG.sub Pg 96 vM.pre vM.post Dm xY Wf rfl (λx y h=>rh (b:=8) x y h)
theorem Kk x:li (ky x) (uJ x):=by
 unfold ky uJ rE aX bn ck bx bp bF aY cH ct;with_reducible repeat' first|(refine OI.o ?_;constructor)|intro _
theorem KC:aG Pg 115 K5:=xV Af ky uJ Kk (ac Y1 (ac YZ (ac YU an))) bZ
theorem Hr x:li (jD x) (td x):=by
 unfold jD td qg aX bh bn ck bx ja kF aY cH aB ct;with_reducible repeat' first|(refine OI.o ?_;constructor)|intro _
theorem H_:aG Pg 120 Jn:=xV yA jD td Hr (ac zR an) bZ
theorem BI x:li (gI x) (pR x):=by
 unfold gI pR mr aX bh bn cI ck bx kF aY cH aB ct;with_reducible repeat' first|(refine OI.o ?_;constructor)|intro _
theorem B1:aG Pg 121 CK:=xV uA gI pR BI (ac zR an) bZ
theorem Ig:aG Pg 200 Jv:=mk yD qc an bZ
theorem KJ:aG Pg 168 K_:=mk Aj uL (ac Ig an) bZ
theorem DE:aG Pg 172 D6:=mk vI qS an bZ
theorem Ib:aG Pg 142 Jp:=mk yB tB (ac DE an) bZ
theorem t8 x:li (fx x) (jX x):=by
 unfold fx jX jY ck bx kF cH aB ct;with_reducible repeat' first|(refine OI.o ?_;constructor)|intro _
theorem t_:aG Pg 162 uc:=xV nT fx jX t8 (ac KJ an) bZ
theorem zr x:li (je x) (nU x):=by
 unfold je nU nZ aX bh bi ja bp aB;with_reducible repeat' first|(refine OI.o ?_;constructor)|intro _
theorem zD:aG Pg 141 zI:=xV sx je nU zr (ac t_ an) bZ
theorem zi:aG Pg 116 WY:=mk Mj iQ (ac zD (ac Ib an)) bZ
theorem MW x:li (ec x) (wg x):=by
 unfold ec wg wD bi bx bp kF aY cH aB ct;with_reducible repeat' first|(refine OI.o ?_;constructor)|intro _
theorem sP:aG Pg 117 NZ:=xV CG ec wg MW an bZ
theorem w7:aG Pg 119 Gh:=mk xn oL an bZ
theorem Hw x:li (m8 x) (te x):=by
 unfold m8 te tN bx kF aY cH aB ct;with_reducible repeat' first|(refine OI.o ?_;constructor)|intro _
theorem Ih:aG Pg 143 Jw:=xV yE m8 te Hw (ac w7 an) bZ
theorem FD x:li (c8 x) (sa x):=by
 unfold c8 sa sg ck bi bx bp kF aY cH aB ct;with_reducible repeat' first|(refine OI.o ?_;constructor)|intro _
theorem oO:aG Pg 118 Gq:=xV xw c8 sa FD (ac w7 (ac Ih an)) bZ
theorem Ia:aG Pg 95 Jo:=mk fc gJ (ac j8 (ac KC (ac H_ (ac B1 an)))) bZ
def tv2 (t:TypeId):J Ty:=if ax t 157 then Z (.pr .un (.pr .un dl)) else bZ t
theorem FQ:aG Pg 115 Ge:=mk xk iX (ac zj (ac GU (ac GR an))) tv2
theorem FY:aG Pg 95 Gl:=mk xr gd (ac j8 (ac FQ (ac zi (ac sP (ac oO an))))) tv2
def tv3 (t:TypeId):J Ty:=if ax t 157 then Z (.pr .un (.pr .un (.pr .un dl))) else bZ t
theorem FP:aG Pg 115 Gb:=mk xj iW (ac zj (ac GU (ac GR an))) tv3
theorem FX:aG Pg 95 Gk:=mk xq fe (ac j8 (ac FP (ac zi (ac sP (ac oO an))))) tv3
def tv4 (t:TypeId):J Ty:=if ax t 157 then Z (.pr .un (.pr .un (.pr .un (.pr .un dl)))) else bZ t
theorem FO:aG Pg 115 Ga:=mk xi iV (ac zj (ac GU (ac GR an))) tv4
theorem FW:aG Pg 95 Gj:=mk xp eO (ac j8 (ac FO (ac zi (ac sP (ac oO an))))) tv4
def tv5 (t:TypeId):J Ty:=if ax t 157 then Z (.pr .un (.pr .un (.pr .un (.pr .un (.pr .un dl))))) else bZ t
theorem FN:aG Pg 115 F':=mk xh lY (ac zj (ac GU (ac GR an))) tv5
theorem FU:aG Pg 95 Gi:=mk xo f_ (ac j8 (ac FN (ac zi (ac sP (ac oO an))))) tv5
theorem KF:aG Pg 95 K7:=(aG.orE (pre:=fc.pre) (post:=fc.post) (m:=gJ) (m':=(λx=>orE (gd x) ((λx=>orE (fe x) ((λx=>orE (eO x) (f_ x)) x)) x))) rfl Ia (aG.orE (pre:=fc.pre) (post:=fc.post) (m:=gd) (m':=(λx=>orE (fe x) ((λx=>orE (eO x) (f_ x)) x))) rfl FY (aG.orE (pre:=fc.pre) (post:=fc.post) (m:=fe) (m':=(λx=>orE (eO x) (f_ x))) rfl FX (aG.orE (pre:=fc.pre) (post:=fc.post) (m:=eO) (m':=f_) rfl FW FU))))
theorem nG:aG Pg 60 DW:=mk vD dR (ac zj (ac Dv (ac j8 (ac AM (ac wj (ac AL (ac KF (ac YY an)))))))) bZ
def tv6 (t:TypeId):J Ty:=if ax t 81 then Z (.pr .un (.pr .un l9)) else bZ t
theorem AC x:li (dX x) (o8 x):=by
 unfold dX o8 lK aX bh bk bn cC bi bx bp bF aY cH aB ct;with_reducible repeat' first|(refine OI.o ?_;constructor)|intro _
theorem AS:aG Pg 34 Bb:=xV tT dX o8 AC (ac kJ (ac mn (ac nG (ac kl an)))) tv6
def tv7 (t:TypeId):J Ty:=if ax t 81 then Z (.pr .un (.pr .un (.pr .un l9))) else bZ t
theorem AB x:li (dj x) (o7 x):=by
 unfold dj o7 jK aX bh bk bS bn cI dI bi bx bp bF aY cH aB ct;with_reducible repeat' first|(refine OI.o ?_;constructor)|intro _
theorem AR:aG Pg 34 Ba:=xV tS dj o7 AB (ac kJ (ac mn (ac nG (ac kl an)))) tv7
def tv8 (t:TypeId):J Ty:=if ax t 81 then Z (.pr .un (.pr .un (.pr .un (.pr .un l9)))) else bZ t
theorem AA x:li (dE x) (o6 x):=by
 unfold dE o6 jJ aX bh bk bS da bn cC dI gG bi bx bp bF aY cH aB ct;with_reducible repeat' first|(refine OI.o ?_;constructor)|intro _
theorem AQ:aG Pg 34 A_:=xV tR dE o6 AA (ac kJ (ac mn (ac nG (ac kl an)))) tv8
def tv9 (t:TypeId):J Ty:=if ax t 81 then Z (.pr .un (.pr .un (.pr .un (.pr .un (.pr .un l9))))) else bZ t
theorem Az x:li (cS x) (oZ x):=by
 unfold cS oZ gp aX bh bk bS da ip bn dI gG nl bi bx bp bF aY cH aB ct;with_reducible repeat' first|(refine OI.o ?_;constructor)|intro _
theorem AO:aG Pg 34 AZ:=xV eJ cS oZ Az (ac kJ (ac mn (ac nG (ac kl an)))) tv9
theorem BX:aG Pg 34 CI:=(aG.orE (pre:=eJ.pre) (post:=eJ.post) (m:=cS) (m':=(λx=>orE (dE x) ((λx=>orE (dj x) (dX x)) x))) rfl AO (aG.orE (pre:=eJ.pre) (post:=eJ.post) (m:=dE) (m':=(λx=>orE (dj x) (dX x))) rfl AQ (aG.orE (pre:=eJ.pre) (post:=eJ.post) (m:=dj) (m':=dX) rfl AR AS)))
theorem Si x:li (jF x) (AG x):=by
 unfold jF AG tK aX bn ck bx iA bp bF aY cH aB ct;with_reducible repeat' first|(refine OI.o ?_;constructor)|intro _
theorem AU:aG Pg 16 T6:=xV I_ jF AG Si (ac BX (ac Wd (ac YS an))) bZ
theorem VV x:li (kU x) (Dj x):=by
 unfold kU Dj vx bx iA bp bF aY cH aB ct;with_reducible repeat' first|(refine OI.o ?_;constructor)|intro _
theorem LR:aG Pg 13 WU:=xV Mh kU Dj VV (ac AU (ac If (ac Nj (ac zS an)))) bZ
theorem ab2 x:li (BN x) (MY x):=by
 unfold BN MY Nm aX bh bk bS dI bx bp cH aB ct;with_reducible repeat' first|(refine OI.o ?_;constructor)|intro _
theorem abj:aG Pg 19 ac8:=xV Vd BN MY ab2 an bZ
theorem S4:aG Pg 14 TX:=mk I3 wi (ac abj an) bZ
theorem Ni:aG Pg 6 NS:=mk CA qa (ac LR (ac S4 an)) bZ
abbrev Le0:Y PB:=[.cells 31 Uq,.cells 31 [.d (.sl kB),.d (.sl qr),.d (.sl ll),.d (.sl .str),.d (.sl .str),.d (.sl nQ),.d (.sl fZ)]]
def Ja:FT:=⟨⟨[.d Ka24,.d aM,.d aM],[]⟩,⟨[.d .bool],[]⟩,dL [(3,(.j ⟨[1,2],[3,22],⟨gR,[.cells 31 [.d Ka24]]⟩,[]⟩))]⟩
def T7:ch:=cn Ja tF
def xc:FT:=⟨⟨[.d Ke1,.d aM,.d Ke0],[]⟩,⟨[.d Ka24],[]⟩,dL [(23,(.j ⟨[],[6,7],⟨[.ptr 0 0,.ptr 1 0],Le0⟩,[]⟩)),(52,(.j ⟨[8],[6,7,102],⟨qC,Le0⟩,[]⟩))]⟩
def F6:ch:=cn xc j6
def yC:FT:=⟨⟨[.d Ka24,.d aM,.d aM],[]⟩,⟨[.d .bool],[]⟩,dL [(12,(.j ⟨[],[6],⟨[.d .bool],[]⟩,[]⟩)),(16,(.j ⟨[],[6],⟨[.d .bool],[]⟩,[]⟩))]⟩
def Jr:ch:=cn yC jE
def vJ:FT:=⟨⟨[.d Ka24,.d Ke1,.d Ke0,.d aM,.d aM],[]⟩,⟨[.d .bool],[]⟩,dL [(3,(.j ⟨[3,4],[5,6,7,48],⟨Bf,[.cells 31 [.d Ka24],.cells 34 [.d Ke1],.cells 37 [.d Ke0]]⟩,[]⟩)),(10,(.j ⟨[],[10],⟨[.d .bool],[]⟩,[]⟩))]⟩
def D8:ch:=cn vJ kT
theorem S_:aG Pg 17 T7:=mk Ja tF (ac AU (ac If (ac zS an))) bZ
theorem FK:aG Pg 8 F6:=mk xc j6 (ac Dx an) bZ
theorem Ie:aG Pg 7 Jr:=mk yC jE (ac LR (ac H0 (ac AU (ac S_ an)))) bZ
theorem hlaw23_HBRefuses:aG Pg 3 D8:=mk vJ kT (ac Ni (ac Ie (ac FK an))) bZ
theorem run_law {P:Program} {f:FuncId} {pre:Tm} {m:pre.ty.den->J (Tm.ty ⟨[.d .bool],[]⟩).den} (sp:pD P f ⟨pre,⟨[.d .bool],[]⟩,m⟩) (h0:pre.bs.length=0) {x:pre.ty.den} (q:m x=Z M) {vs:Y TV} {hp:bl} (hi:BV pre x=Z (vs,hp)) {la:Y AV} (hla:cz hp vs=Z la)
 {W:World} {us:ξ} (hg:∀g cells,G g=Z cells->mj (λ_=>False) W (.ptr cells 0) (.pointer (Z ⟨g,0,U⟩))) (hrel:jZ (λ_=>U) (λ_=>False) W la us):
 Calls P f us.toArray W λe w'=>e= .returned (.bool M)/\Below W.heap.size W w':=by
 obtain⟨l1,I⟩:=vq hi;obtain⟨l2,o⟩:=vq (t:=⟨[.d .bool],[]⟩) (x:=M) (vs:=[.f .bool M]) (h1:=PT.leaf) rfl;have hn:bB hp=λ_=>U:=by
  funext n;cases hb:bB hp n with
  |none=>rfl
  |some b=>
   obtain⟨i,c,rfl,h1,_⟩:=ju hb;have:=I.lt_len h1;omega
 have own0:∀(φ:PM) k,¬own φ (bB hp) k:=by rintro φ k ⟨i,b,h1,_⟩;rw[hn]at h1;cases h1
 have htot:tot (λ_=>False) (λ_=>U) (bB hp)=λ_=>False:=by
  funext k;exact propext ⟨λh=>h.elim id λh=>dP h (own0 _ k),λh=>h.elim⟩
 refine Calls.mono (sp.calls x M q vs hp l1 _ PT.leaf l2 la _ I o hla rfl (λ_=>U) (λ_=>False) W us ⟨(λi j b b' k h1=>by rw[hn]at h1;cases h1),(λi b h1=>by rw[hn]at h1;cases h1),(λk h=>h.elim),(λg cells h=>by rw[htot];exact hg g cells h)⟩ (by rw[htot];exact hrel) (λn k h=>by cases h)) ?_;rintro en w' ⟨v,φ',rfl,he,_,_,_,hv⟩;refine ⟨?_,⟨he.os,he.tape,he.output,he.size,λk hk=>he.blk k hk (own0 _ k)⟩⟩;have hv:cE φ' _ w' (.f (.raw (.bool M))) v:=hv;cases hv with
 |f h=>cases h;rfl
theorem gKw:Tryz.prog.globalNamed "interleave/token.keywords" =Z 0:=by kernel_rfl
theorem tKw:(Tryz.prog.globals[0]?).map (·.type)=Z 261:=by kernel_rfl
theorem kw_of_laid {W:World} (h:laidMetH Tryz.prog [("interleave/token.keywords",Rows.laid_interleave_token_keywords)] W):∀g cells,G g=Z cells→mj (λ_=>False) W (.ptr cells 0) (.pointer (Z ⟨g,0,U⟩)):=by
 intro g cells A;unfold G at A;split at A
 .rename_i hg;have hg:=eq_of_beq hg;subst hg;cases A;rw[MakeChecks.laidMetH_plain _ _ _ (by kernel_rfl)]at h;obtain⟨ps,⟨g0,t0,cs0,f0,p0,q0,z,F,D,I,_,_⟩,_,_⟩:=h;obtain rfl:=jV (gKw.symm.trans z);obtain rfl:=jV (tKw.symm.trans F);obtain⟨xs,m1,rfl,q,hlen,hn,hel⟩:=DataW.trod_array Tryz.underlying261 I;have c1:Tryz.prog.cellsOf 9=1:=by kernel_rfl
  have L:Tryz.prog.cellsOf 261=22:=by kernel_rfl
  rw[L]at hlen;simp only[aC,Rows.laid_interleave_token_keywords,DataW.agg.injEq]at q;have hxs:=q.1;have hcell:∀j,j<22→∃l,(xs.map (·.1))[j]? =Z (.lit (.string l))∧W.cell? ⟨0,j,U⟩=Z (.string ⟨l.toArray⟩):=λj hj=>by
   have h1:=hel j hj;rw[c1,Nat.mul_one]at h1;rw[aw (by omega)]at h1;obtain⟨s,e1,e2,_⟩:=DataW.trod_string Tryz.underlying9 h1;refine ⟨s.data.toList,?_,?_⟩
   .rw[bf,aw (by omega),bU,e2]
   .have:=World.var?_cell z D j;rw[this];have h2:cs0.toList[j]? =Z (.string s):=by
     have:((cs0.toList.drop j).take 1)[0]? =Z (.string s):=by rw[e1];rfl
     rw[cu,aU (by omega),gM]at this;simpa using this
    rw[← cj,h2]
  have hb:0<W.heap.size:=by
   obtain⟨l,_,h2⟩:=hcell 0 (by omega);exact World.block_lt_of_cell? W _ h2
  refine .ptr BP 0 0 0 (λj=>(W.cell? ⟨0,j,U⟩).getD undef) (λh=>h) hb (λx d=>?_) (λj hj=>?_) (λj x d=>?_)
  .simp only[BP,bu,cA,gE]at d;rcases d with rfl|rfl|rfl|rfl|rfl|rfl|rfl|rfl|rfl|rfl|rfl|rfl|rfl|rfl|rfl|rfl|rfl|rfl|rfl|rfl|rfl|rfl<;>rfl
  .obtain⟨l,_,h2⟩:=hcell j hj;rw[bL,h2];rfl
  .have hj:j<22:=(bm.1 d).1;obtain⟨l,h1,h2⟩:=hcell j hj;rw[← hxs]at h1;have:x= .raw (.string ⟨l.toArray⟩):=by
    rcases j with _|_|_|_|_|_|_|_|_|_|_|_|_|_|_|_|_|_|_|_|_|_|j;all_goals first|(simp only[lA,List.getElem?_cons_succ,af,DataW.lit.injEq,Lit.string.injEq,BP]at h1 d;subst h1;subst d;rfl)|omega
   rw[this,h2];exact .raw _
 .cases A
end
end Go.Proofs.YtiaemgcbndhkfaaGreatDoor.AI
