/-
  Texts of the proof, part 5 of 6: what is used to prove the statement. No condition.
-/
import Derived.Test.YtkagidinekdnoaaGreatDoorHBClocksQ3
import Derived.Deep.Slices
import Derived.OpenShut
import Derived.Below
import Derived.Test.YtkagidinekdnoaaGreatDoorProg
import Derived.KernelRfl
import Derived.Recover
namespace Go.Proofs.YtkagidinekdnoaaGreatDoor.AI
open Go.RowKit
set_option maxRecDepth 100000
set_option maxHeartbeats 4000000
set_option linter.unusedVariables false
set_option linter.unusedSimpArgs false
open Act renaming put→Nw
open _root_.Array renaming replicate→oo
open _root_.Bool renaming true→ai,false→aj
open Call renaming operands→eR
open _root_.Int renaming ofNat_eq_natCast→au,ofNat→aO,toNat→aT,toNat_natCast→dQ
open _root_.List renaming length→al,replicate→aG,range→c4,take→dO,length_singleton→dR,cons_append→gm,length_nil→jS,toArray→kE,nil_append→lK,getElem?_cons_zero→qQ,take_succ_cons→vX
open _root_.Nat renaming beq→aC,testBit→aN,add_zero→dl,ble→eJ,blt→gi,min→iN
open Oper renaming wp→Ho
open _root_.Option renaming some→af,none→ah,bind_some→aI,map_some→cg,map→lJ,getD_some→uW
open Region renaming wanted→iG
open Result renaming andThen_ok→cM
open Sem renaming run_bind→eH,run_pure→oL
open _root_.Sum renaming inr→bQ,inl→mm
open Value renaming okWide→Hm
open Value.bool renaming injEq→Cd
open World renaming cell?→Nt
noncomputable section
theorem Ai {α:Type} {f:α->List FV} {n:Nat} (hf:∀ x,(f x).length=n):∀ (xs:List α) (j:Nat),(xs.take j).flatMap f=(xs.flatMap f).take (j*n)
 |[],j=>by simp
 |x::r,0=>by simp
 |x::r,j+1=>by
  rw[vX,fI,fI,Ai hf r j,show (j+1)*n=(f x).length+j*n from by rw[hf,iM];omega,List.take_length_add_append]
theorem Ji {α:Type} {f:α->List FV} {n:Nat} (hf:∀ x,(f x).length=n):∀ (xs:List α) (j:Nat),(xs.drop j).flatMap f=(xs.flatMap f).drop (j*n)
 |[],j=>by simp
 |x::r,0=>by simp
 |x::r,j+1=>by
  rw[vY,fI,Ji hf r j,show (j+1)*n=(f x).length+j*n from by rw[hf,iM];omega,List.drop_length_add_append]
theorem Qb {z:List Value}:∀ (n:Nat) (x:FV),x∈repl z n->∃ v∈z,x= .raw v
 |0,x,h=>by simp[repl] at h
 |n+1,x,h=>by
  rw[repl,bP] at h;rcases h with h|h
  .obtain⟨v,hv,rfl⟩:=c_.1 h;exact⟨v,hv,rfl⟩
  .exact Qb n x h
theorem Gw:∀ l:List FV,(∀ x∈l,x.isCell=ai)->gG (l.map .f)=ai
 |[],_=>rfl
 |z::r,h=>by simp only[gk,gG,av];exact⟨h z (by simp),Gw r λx I=>h x (by simp[I])⟩
section ops
variable {R:Type} {P:Program} {o:Oper} {e:iJ} {h:bh} {nx:Nat} {K:KO R} {r:R}
theorem ma.fresh (hinv:ma h nx):h.get nx=ah:=by
 cases hb:h.get nx with
 |none=>rfl
 |some b=>have:=hinv.low nx b hb;omega
theorem dX.lt (hinv:ma h nx) {m:Nat} (hm:dX h m) {i:Nat} (hi:aN m i=ai):i<nx:=by
 obtain⟨_,_,_,_,hb⟩:=hm i hi;exact hinv.low i _ hb
theorem jm.new {s:Zd} (hinv:ma h nx) (hc:dk P o.op=af s) {H:nV} (hH:H.get=bA h) {y0:AV} {rdl:List Nat} {b0:w_} (ha:eQ s (K2 e h) H (nm nx)=af ⟨y0,rdl,[nm nx],[(nm nx,b0)],[nm nx]⟩) {B:io} {v:TV} {m rd:Nat} (hm:dX h m)
 (hB:∀ ty l,B= .cells ty l->kO ((eM m h).set nx (af B)) l=ai)
 (hblk:∀ J I,vC J I->D9 h J I m->∀ b',kM ((eM m h).set nx (af B)) B=af b'->kl J I b0 b')
 (hval:∀ J I y,vC J I->D9 h J I m->cr ((eM m h).set nx (af B)) v=af y->lM J I y0 y)
 (hrd:∀ n∈rdl,aN rd (ow n)=ai):jm P o aj e h nx v rd (m|||k_ nx) ((eM m h).set nx (af B)) (nx+1):=by
 have hk:=hinv.kill m;have hr0:=cw.kill m h;have Y:cw (eM m h) ((eM m h).set nx (af B)):=cw.set λr hr=>by rw[bU,hk.fresh] at hr;cases hr
 have hr:=hr0.trans Y;have hgiv:∀ i,aN m i=ai->bA ((eM m h).set nx (af B)) (nm i)=ah:=λi hi=>by
  have hlt:=hm.lt hinv hi;obtain⟨p,sz,n,hd⟩:=tW hm hi;rw[bJ,PT.get_set,ay (by omega),hd];rfl
 refine jm.mk' hc hH ha (nm nx::FA m) (λi hi=>by simp only[aL] at hi;subst hi;simp) (λn hn=>?_) (λi hi b' Z=>?_) (λJ I d hw1 hw0 U=>?_) hrd ?_ ?_ hr (hk.set Y (by omega) (by omega) hB) (by omega)
 .refine kL hinv hr λi e=>?_
  subst e;rw[PT.get_set,ay (λe=>hn (by rw[e];simp)),iW,ay];intro hb;exact hn (cH _ (ly.2 hb))
 .rcases bm.1 hi with rfl|hi
  .exact⟨b0,by rw[aF (by simp),ie]⟩
  .obtain⟨j,rfl,hj⟩:=nL.1 hi;rw[hgiv j hj] at Z;cases Z
 .have g:D9 h J I m:=λi hi=>by
   have hlt:=hm.lt hinv hi;have hmem:nm i∈nm nx::FA m:=cH _ (ly.2 hi);exact⟨hw0 _ hmem (λhc=>by simp only[aL] at hc;have:=kP hc;omega),by rw[U _ hmem,hgiv i hi]⟩
  refine ⟨λi hi b b' hb M=>?_,λy hy=>hval J I y d g hy⟩;rcases bm.1 hi with rfl|hi'
  .rw[hw1 _ (by simp),ie] at hb;rw[U _ hi,bJ,PT.get_set,aF rfl] at M;simp only[ak] at hb;subst hb;exact hblk J I d g b' M
  .obtain⟨j,rfl,hj⟩:=nL.1 hi';rw[U _ hi,hgiv j hj] at M;cases M
 .intro n hn;rw[bp];rcases bm.1 hn with rfl|hn
  .rw[em,b8.2 rfl];simp
  .obtain⟨j,rfl,hj⟩:=nL.1 hn;rw[em,hj];rfl
 .intro n hn;simp only[aL] at hn;subst hn;rw[em];omega
theorem jm.wrt {s:Zd} (hinv:ma h nx) (hc:dk P o.op=af s) {H:nV} (hH:H.get=bA h) {id:Nat} {y0:AV} {rdl:List Nat} {b0:w_} {k:Nat} (ha:eQ s (K2 e h) H k=af ⟨y0,rdl,[nm id],[(nm id,b0)],[]⟩) {B0 B:io} (Z:h.get id=af B0) {v:TV} {m rd:Nat} (hm:dX h m) (hmid:aN m id=aj)
 (hrow:mF B=mF B0) (hB:∀ ty l,B= .cells ty l->kO ((eM m h).set id (af B)) l=ai)
 (hblk:∀ J I,vC J I->D9 h J I m->∀ b',kM ((eM m h).set id (af B)) B=af b'->kl J I b0 b')
 (hval:∀ J I y,vC J I->D9 h J I m->cr ((eM m h).set id (af B)) v=af y->lM J I y0 y)
 (hrd:∀ n∈rdl,aN rd (ow n)=ai):jm P o aj e h nx v rd (m|||k_ id) ((eM m h).set id (af B)) nx:=by
 have hk:=hinv.kill m;have hr0:=cw.kill m h;have hkid:(eM m h).get id=af B0:=by rw[iW,hmid];simpa using Z
 have Y:cw (eM m h) ((eM m h).set id (af B)):=cw.set λr hr=>by rw[bU,hkid] at hr;rw[hrow];exact hr
 have hr:=hr0.trans Y;have hgiv:∀ i,aN m i=ai->bA ((eM m h).set id (af B)) (nm i)=ah:=λi hi=>by
  have hne:i≠id:=λe=>by rw[e,hmid] at hi;cases hi
  obtain⟨p,sz,n,hd⟩:=tW hm hi;rw[bJ,PT.get_set,ay hne,hd];rfl
 refine jm.mk' hc hH ha (nm id::FA m) (λi hi=>by simp only[aL] at hi;subst hi;simp) (λn hn=>?_) (λi hi b' hb'=>?_) (λJ I d hw1 hw0 U=>?_) hrd ?_ (by simp) hr (hk.set Y (hinv.low id B0 Z) (by omega) hB) (by omega)
 .refine kL hinv hr λi e=>?_
  subst e;rw[PT.get_set,ay (λe=>hn (by rw[e];simp)),iW,ay];intro hb;exact hn (cH _ (ly.2 hb))
 .rcases bm.1 hi with rfl|hi
  .exact⟨b0,by rw[aF (by simp),ie]⟩
  .obtain⟨j,rfl,hj⟩:=nL.1 hi;rw[hgiv j hj] at hb';cases hb'
 .have g:D9 h J I m:=λi hi=>by
   have hne:i≠id:=λe=>by rw[e,hmid] at hi;cases hi
   have hmem:nm i∈nm id::FA m:=cH _ (ly.2 hi);exact⟨hw0 _ hmem (λhc=>by simp only[aL] at hc;exact hne (kP hc)),by rw[U _ hmem,hgiv i hi]⟩
  refine ⟨λi hi b b' hb M=>?_,λy hy=>hval J I y d g hy⟩;rcases bm.1 hi with rfl|hi'
  .rw[hw1 _ (by simp),ie] at hb;rw[U _ hi,bJ,PT.get_set,aF rfl] at M;simp only[ak] at hb;subst hb;exact hblk J I d g b' M
  .obtain⟨j,rfl,hj⟩:=nL.1 hi';rw[U _ hi,hgiv j hj] at M;cases M
 .intro n hn;rw[bp];rcases bm.1 hn with rfl|hn
  .rw[em,b8.2 rfl];simp
  .obtain⟨j,rfl,hj⟩:=nL.1 hn;rw[em,hj];rfl
theorem Mr (h:bh) {z:List Value} {I:List TV} (J:J7 z=af I):∀ len,cR h (aG len I).flatten=af ((repl z len).map .f)
 |0=>rfl
 |n+1=>by
  rw[List.replicate_succ,List.flatten_cons,repl,cA];refine m_ ?_ (Mr h J n);rw[(vz h J).1];simp only[zX];rfl
theorem Wn {H:nV} (Z:H.get=bA h) {T:Ty} {v:TV} {U:List T.den} {m:Nat} {y:AV} (I:DQ h (.sl T) v=af (U,m)) (J:cr h v=af y):∃ rd,y.row? H T.size=af ((U.flatMap (bS T)).map .f,U.length,rd)/\∀ n∈rd,∃ i,n=nm i/\aN m i=ai:=by
 have fl:=λM:List T.den=>fB (bC T) M
 have tk:∀ M:List T.den,(M.flatMap (bS T)).take (M.length*T.size)=M.flatMap (bS T):=λM=>by rw[<- fl,cP]
 cases v with
 |f S x=>
  simp only[DQ,iF] at I;split at I
  .rename_i z Y;simp only[ak,aD] at I;obtain⟨rfl,_⟩:=I;obtain⟨e,rfl⟩:=jg Y;subst e;simp only[cr,ak] at J;subst J;refine ⟨[],?_,by simp⟩;simp only[gJ,AV.row?];rw[aF (bI (by rw[fl x];exact bW _)),tk]
  .cases I
 |emp=>
  simp only[DQ,iF,ak,aD] at I;obtain⟨rfl,_⟩:=I;simp only[cr,ak] at J;subst J;exact⟨[],rfl,by simp⟩
 |nil=>
  simp only[DQ,iF,ak,aD] at I;obtain⟨rfl,_⟩:=I;simp only[cr,ak] at J;subst J;exact⟨[],rfl,by simp⟩
 |row id=>
  simp only[DQ,iF] at I;split at I
  .rename_i ty p S xs hb;split at I
   .rename_i z Y;simp only[ak,aD] at I;obtain⟨rfl,rfl⟩:=I;obtain⟨e,rfl⟩:=jg Y;cases e;simp only[cr,eC,hb,ak] at J;subst J;unfold fx;split
    .rename_i hp;simp only[av,cZ] at hp;have:xs=[]:=gH.1 hp.2;subst this;exact⟨[],rfl,by simp⟩
    .rename_i hp;have hg:H.get (nm id)=af ⟨ty,.fz (xs.flatMap (bS T))⟩:=by rw[Z,bJ,hb];simp only[aI,kM,ay hp]
     refine ⟨[nm id],?_,λn hn=>?_⟩
     .simp only[AV.row?,hg,c6,bG,BC.isCells,BC.len,pw];rw[aF (bI (by rw[fl xs];exact bW _))];simp only[BC.toMx,<-kF,tk]
     .simp only[aL] at hn;exact⟨id,hn,b8.2 rfl⟩
   .cases I
  .cases I
 |agg l=>simp[DQ,Ty.one] at I
 |fel T xs j hj off=>simp[DQ,iF] at I
 |pel id sz j off=>simp[DQ,iF] at I
 |ptr id off=>simp[DQ,iF] at I
 |csl id off z=>simp[DQ,iF] at I
 |mp id=>simp[DQ,iF] at I
 |rtl id jj=>simp[DQ,iF] at I
 |tup q=>simp[DQ,iF] at I
 |clo f q=>simp[DQ,iF] at I
 |undef=>simp[DQ,iF] at I
 |np=>simp[DQ,iF] at I
 |anyb=>simp[DQ,iF] at I
theorem Uh {v:TV} {y:AV} (I:cr h v=af y) (hc:v.isC=ai):gG y.cs=ai:=by
 rw[NR (N9 I hc)];simp only[gG,Bool.and_true];exact N9 I hc
theorem Ys (T:Ty) (x:T.den):gG ((bS T x).map .f)=ai:=by
 have:∀ l:List FV,(∀ x∈l,x.isCell=ai)->gG (l.map .f)=ai:=by
  intro l hl;induction l with
  |nil=>rfl
  |cons z r I=>simp only[gk,gG,av];exact⟨hl z (by simp),I λx J=>hl x (by simp[J])⟩
 exact this _ (nR T x)
theorem gU {T:Ty} {v:TV} {x:T.den} {m:Nat} {y:AV} (I:iF h T v=af (x,m)) (J:cr h v=af y):gG y.cs=ai:=by
 cases v with
 |f S v=>simp only[cr,ak] at J;subst J;rw[Ak];exact Ys S v
 |emp=>exact Uh J rfl
 |nil=>exact Uh J rfl
 |row id=>exact Uh J rfl
 |fel T xs j hj off=>simp[iF] at I
 |pel id sz j off=>simp[iF] at I
 |ptr id off=>simp[iF] at I
 |csl id off z=>simp[iF] at I
 |mp id=>simp[iF] at I
 |rtl id M=>simp[iF] at I
 |agg q=>simp[iF] at I
 |tup q=>simp[iF] at I
 |clo f q=>simp[iF] at I
 |undef=>simp[iF] at I
 |np=>simp[iF] at I
 |anyb=>simp[iF] at I
theorem HP {T:Ty} (M:T.one=ai) {v:TV} {x:T.den} {m:Nat} (I:iF h T v=af (x,m)):v.isC=ai:=by
 cases v with
 |f S v=>
  simp only[iF] at I;split at I
  .rename_i z J;obtain⟨e,_⟩:=jg J;subst e;exact M
  .cases I
 |emp=>rfl
 |nil=>rfl
 |row id=>rfl
 |fel T xs j hj off=>simp[iF] at I
 |pel id sz j off=>simp[iF] at I
 |ptr id off=>simp[iF] at I
 |csl id off z=>simp[iF] at I
 |mp id=>simp[iF] at I
 |rtl id U=>simp[iF] at I
 |agg q=>simp[iF] at I
 |tup q=>simp[iF] at I
 |clo f q=>simp[iF] at I
 |undef=>simp[iF] at I
 |np=>simp[iF] at I
 |anyb=>simp[iF] at I
theorem Sz {a b:List TV} (I:ku a=ai) (hb:ku b=ai):ku (a++b)=ai:=by
 induction a with
 |nil=>exact hb
 |cons z r J=>simp only[ku,av,gm] at I ⊢;exact⟨I.1,J I.2⟩
theorem tP:∀ (n:Nat) (T:Ty) (l:List TV) (x:T.den) (m:Nat) (r:List TV),eX h n T l=af (x,m,r)->∃ a,l=a++r/\ku a=ai
 |0,_,_,_,_,_,hp=>by simp[eX] at hp
 |n+1,.st t,l,x,m,r,hp=>tP n t l x m r hp
 |n+1,.pr a b,l,x,m,r,hp=>by
  simp only[eX] at hp;split at hp
  .rename_i I m1 r1 h1;split at hp
   .rename_i J m2 r2 h2;simp only[ak,aD] at hp;obtain⟨_,_,rfl⟩:=hp;obtain⟨a1,rfl,U⟩:=tP n a l I m1 r1 h1;obtain⟨a2,rfl,M⟩:=tP n b r1 J m2 r2 h2;exact⟨a1++a2,by simp,Sz U M⟩
   .cases hp
  .cases hp
 |n+1,.un,l,x,m,r,hp=>by
  simp only[eX,ak,aD] at hp;obtain⟨_,_,rfl⟩:=hp;exact⟨[],rfl,rfl⟩
 |n+1,.ex,l,x,m,r,hp=>by
  simp only[eX] at hp;split at hp
  .rename_i I m1 r1 h1;simp only[ak,aD] at hp;obtain⟨_,_,rfl⟩:=hp;exact tP n MO l I m1 r1 h1
  .cases hp
 |n+1,.sm,l,x,m,r,hp=>by
  simp only[eX] at hp;split at hp
  .rename_i I m1 r1 h1;simp only[ak,aD] at hp;obtain⟨_,_,rfl⟩:=hp;exact tP n Mo l I m1 r1 h1
  .cases hp
 |n+1,.int k,l,x,m,r,hp=>by
  simp only[eX] at hp;split at hp
  .rename_i c q;split at hp
   .rename_i I m1 h1;simp only[ak,aD] at hp;obtain⟨_,_,rfl⟩:=hp;exact⟨[c],rfl,by simp[ku,HP rfl h1]⟩
   .cases hp
  .cases hp
 |n+1,.bool,l,x,m,r,hp=>by
  simp only[eX] at hp;split at hp
  .rename_i c q;split at hp
   .rename_i I m1 h1;simp only[ak,aD] at hp;obtain⟨_,_,rfl⟩:=hp;exact⟨[c],rfl,by simp[ku,HP rfl h1]⟩
   .cases hp
  .cases hp
 |n+1,.str,l,x,m,r,hp=>by
  simp only[eX] at hp;split at hp
  .rename_i c q;split at hp
   .rename_i I m1 h1;simp only[ak,aD] at hp;obtain⟨_,_,rfl⟩:=hp;exact⟨[c],rfl,by simp[ku,HP rfl h1]⟩
   .cases hp
  .cases hp
 |n+1,.sl t,l,x,m,r,hp=>by
  simp only[eX] at hp;split at hp
  .rename_i c q;split at hp
   .rename_i I m1 h1;simp only[ak,aD] at hp;obtain⟨_,_,rfl⟩:=hp;exact⟨[c],rfl,by simp[ku,HP rfl h1]⟩
   .cases hp
  .cases hp
theorem Ks {T:Ty} {v:TV} {x:T.den} {m:Nat} {y:AV} (J:DQ h T v=af (x,m)) (I:cr h v=af y):gG y.cs=ai:=by
 cases v with
 |agg l=>
  simp only[DQ] at J;split at J
  .cases J
  .split at J
   .rename_i M m1 h1;obtain⟨a,e,Y⟩:=tP 40 T l M m1 [] h1;rw[iP] at e;subst e;simp only[cr] at I;split at I
    .rename_i Z hl;simp only[ak] at I;subst I;exact tJ hl Y
    .cases I
   .cases J
 |f S v=>exact gU (v:=.f S v) J I
 |fel T xs j hj off=>exact gU (v:=.fel T xs j hj off) J I
 |pel id sz j off=>exact gU (v:=.pel id sz j off) J I
 |ptr id off=>exact gU (v:=.ptr id off) J I
 |csl id off z=>exact gU (v:=.csl id off z) J I
 |row id=>exact gU (v:=.row id) J I
 |emp=>exact gU (v:=.emp) J I
 |nil=>exact gU (v:=.nil) J I
 |mp id=>exact gU (v:=.mp id) J I
 |rtl id U=>exact gU (v:=.rtl id U) J I
 |tup q=>exact gU (v:=.tup q) J I
 |clo g q=>exact gU (v:=.clo g q) J I
 |undef=>exact gU (v:=.undef) J I
 |np=>exact gU (v:=.np) J I
 |anyb=>exact gU (v:=.anyb) J I
theorem rc {u:TV} {y:AV} (I:cr h u=af y):∀ (n:Nat) (T:Ty) (v:T.den) (off sz:Nat) (z:T.den) (m:Nat),gP h u n T v off sz=af (z,m)->gG y.cs=ai
 |0,_,_,_,_,_,_,hg=>by simp[gP] at hg
 |n+1,.st t,v,off,sz,z,m,hg=>by
  simp only[gP] at hg;split at hg
  .rename_i q hq;split at hq
   .exact Ks hq I
   .cases hq
  .exact rc I n t v off sz z m hg
 |n+1,.pr a b,v,off,sz,z,m,hg=>by
  simp only[gP] at hg;split at hg
  .split at hg
   .rename_i J m1 h1;exact rc I n a v.1 off sz J m1 h1
   .cases hg
  .split at hg
   .rename_i J m1 h1;exact rc I n b v.2 _ sz J m1 h1
   .cases hg
 |n+1,.un,v,off,sz,z,m,hg=>by simp[gP] at hg
 |n+1,.ex,v,off,sz,z,m,hg=>by
  simp only[gP] at hg;split at hg
  .rename_i q hq;split at hq
   .exact Ks hq I
   .cases hq
  .split at hg
   .rename_i J m1 h1;exact rc I n MO _ off sz J m1 h1
   .cases hg
 |n+1,.sm,v,off,sz,z,m,hg=>by
  simp only[gP] at hg;split at hg
  .rename_i q hq;split at hq
   .exact Ks hq I
   .cases hq
  .split at hg
   .rename_i J m1 h1;exact rc I n Mo _ off sz J m1 h1
   .cases hg
 |n+1,.int k,v,off,sz,z,m,hg=>by
  simp only[gP] at hg;split at hg
  .exact gU hg I
  .cases hg
 |n+1,.bool,v,off,sz,z,m,hg=>by
  simp only[gP] at hg;split at hg
  .exact gU hg I
  .cases hg
 |n+1,.str,v,off,sz,z,m,hg=>by
  simp only[gP] at hg;split at hg
  .exact gU hg I
  .cases hg
 |n+1,.sl t,v,off,sz,z,m,hg=>by
  simp only[gP] at hg;split at hg
  .exact gU hg I
  .cases hg
theorem Kv (l:List FV):xS (l.map .f)=af l:=by
 induction l with
 |nil=>rfl
 |cons x r I=>simp only[gk,xS,I]
theorem CL (l:List FV):pl (l.map .f)= .fz l:=by unfold pl;rw[Kv]
theorem Gx:∀ {a b:List TV},ku a=ai->ku b=ai->ku (a++b)=ai
 |[],_,_,hb=>hb
 |x::r,b,I,hb=>by
  simp only[ku,av] at I;simp only[gm,ku,av];exact⟨I.1,Gx I.2 hb⟩
theorem Fj {I:List TV} (J:ku I=ai):∀ n,ku (aG n I).flatten=ai
 |0=>rfl
 |n+1=>by rw[List.replicate_succ,List.flatten_cons];exact Gx J (Fj J n)
theorem af1 {H:nV} (J:H.get=bA h) {id ty:Nat} {l:List TV} {I:List AV} (hb:h.get id=af (.cells ty l)) (hl:cR h l=af I) {n sz:Nat} (hn:l.length=n*sz):AV.row? H sz (.row (nm id) sz n)=af (I,n,[nm id]):=by
 have hg:H.get (nm id)=af ⟨ty,.mx I⟩:=by rw[J,bJ,hb];simp only[aI,kM,hl]
 have hln:=js hl;simp only[AV.row?,c6,bG,hg,BC.isCells,pw,BC.len,BC.toMx];rw[aF (bI (by omega)),fX (by omega)]
variable (hinv:ma h nx) (hi:tM e h)
include hinv hi
theorem akt {con:FuncId->Option cf} {bV:TypeId->Option Ty} {ty:TypeId} {sz len:Nat} {z:List Value} {parts:List (Nat×Nat×Operand)} (hcm:DJ (bV ty)=ah) (hc:dk P o.op=af (.bsl ty sz len z parts)) (hk:dV con bV (.op (.bsl ty sz len z parts)) e h nx K=af r):kN P o aj e h nx K r:=by
 obtain⟨H,hH⟩:=jJ h;simp only[dV,hcm] at hk;split at hk
 .rename_i T zc hT Z;split at hk
  .rename_i hs;have hs:=aw hs;subst hs;split at hk
   .rename_i cs hf;split at hk
    .rename_i xs m hp;obtain⟨cs',h1,h2,_⟩:=Da hi parts _ cs _ hf (Mr h Z len);have hm:=NL len cs xs m hp;refine ⟨_,_,_,_,_,hk,jm.new hinv hc hH (y0:=if len=0 then .emp else .row (nm nx) T.size len) (rdl:=[]) (b0:=⟨ty,pl cs'⟩) (by simp only[eQ,h1]) hm (λ_ _ he=>by cases he) (λH1 H2 d g b' I=>?_) (λH1 H2 y d g J=>?_) (by simp)⟩
     .simp only[kM] at I;split at I
      .cases I
      rw[ak] at I;subst I;obtain⟨Y,U⟩:=nK cs';refine kl.cells U rfl ?_ λx M=>?_
      .rw[Y];exact (CG d len cs xs m cs' hp h2 g).1
      .simp only[BC.toMx] at M;obtain⟨q,hq,rfl⟩:=c_.1 M;exact rG T _ q hq
     .simp only[cr,bU,PT.get_set,bG,aI,mF,fx,ak] at J;rw[(CG d len cs xs m cs' hp h2 g).2] at J;split at J
      .rename_i hq;simp only[av,cZ] at hq;subst J;rw[aF hq.2];exact lM.refl d _
      .rename_i hq;subst J;rw[ay (λh0=>hq (by subst h0;rfl))];exact lM.refl d _
    .cases hk
   .cases hk
  .cases hk
 .cases hk
theorem aku {con:FuncId->Option cf} {bV:TypeId->Option Ty} {ty:TypeId} {sz bytes:Nat} {s x:Operand} (hcm:DJ (bV ty)=ah) (hc:dk P o.op=af (.app ty sz bytes s x)) (hk:dV con bV (.op (.app ty sz bytes s x)) e h nx K=af r):kN P o aj e h nx K r:=by
 obtain⟨H,hH⟩:=jJ h;have hfr:=hinv.fresh;simp only[dV,hcm] at hk;split at hk
 .rename_i T b y hT hv hv2;split at hk
  .rename_i hs;have hs:=aw hs;subst hs;split at hk
   .rename_i J m hys;obtain⟨yb,h1,h2⟩:=bM hi hv;obtain⟨yy,h3,h4⟩:=bM hi hv2;obtain⟨rdl,h5,h6⟩:=Wn hH hys h4;have onEmp:∀ (rd':Nat),(∀ n∈rdl,aN rd' (ow n)=ai)->IH yb=ai->Le yb .emp->a_ (al J) bytes=ai->jm P o aj e h nx (.row nx) rd' (k_ nx) (h.set nx (af (.rows ty ai T J))) (nx+1):=by
     intro rd' hrd' he hle hroom;have hr1:cw h (h.set nx (af (.rows ty ai T J))):=cw.set λr hr=>by rw[bU,hfr] at hr;cases hr
     have hyb:∀ id sz' n,yb≠ .row id sz' n:=by rintro id sz' n rfl;cases he
     have I:eQ (.app ty T.size bytes s x) (K2 e h) H (nm nx)=if al J==0 then af ⟨yb,rdl,[],[],[]⟩ else af ⟨.row (nm nx) T.size (al J),rdl,[nm nx],[(nm nx,⟨ty,pl ((J.flatMap (bS T)).map .f)⟩)],[nm nx]⟩:=by
      simp only[eQ,h1,h3,h5];cases yb with
      |row id sz' n=>exact cV rfl (hyb id sz' n)
      |_=>simp only[he,hroom,kG,bG]
     by_cases hl:al J=0
     .rw[hl] at I;simp only[c6,bG] at I;have hnil:J=[]:=gH.1 hl;subst hnil;refine jm.mk' hc hH I [] (by simp) (λn _=>?_) (by simp) (λH1 H2 d _ _ _=>⟨by simp,λy M=>?_⟩) hrd' (by simp) (by simp) hr1 (hinv.set hr1 (by omega) (by omega) λ_ _ he=>by cases he) (by omega)
      .by_cases hn:n=nm nx
       .subst hn;rw[bJ,bJ,PT.get_set,aF rfl,hfr];rfl
       .refine kL hinv hr1 λi e=>?_
        subst e;rw[PT.get_set,ay (λe=>hn (by rw[e]))]
      .simp only[cr,bU,PT.get_set,bG,aI,mF,fx,jS,c6,kG,ak] at M;subst M;exact hle.toH d
     .rw[ay (by simpa using hl)] at I;rw[CL] at I;have key:=jm.new (m:=0) (rd:=rd') hinv hc hH I (B:=.rows ty ai T J) (v:=.row nx) (dX.zero h) (λ_ _ he=>by cases he) (λH1 H2 d g b' Z=>by
       simp only[kM] at Z;rw[ay (by simpa using hl)] at Z;simp only[ak] at Z;subst Z;exact kl.refl d _) (λH1 H2 y d g M=>by
       simp only[cr,bU,PT.get_set,bG,aI,mF,fx] at M;rw[ay (by simpa using hl)] at M;simp only[ak] at M;subst M;exact lM.refl d _) hrd'
      rw[D5] at key;exact key
    split at hk
    .rename_i id;split at hk
     .rename_i ty' p S xs0 hb;split at hk
      .rename_i xs hxs;obtain⟨ee,rfl⟩:=jg hxs;cases ee;split at hk
       .rename_i hcond;simp only[av,cZ,ey] at hcond;obtain⟨rfl,hmid⟩:=hcond;obtain⟨hroom,hk⟩:=eo hk;simp only[cr,eC,hb,ak] at h2;have hidlt:=hinv.low id _ hb;have hne:nx≠id:=by omega
        have hrd:∀ n∈rdl,aN (k_ id|||m) (ow n)=ai:=λn hn=>by
         obtain⟨i,rfl,hm⟩:=h6 n hn;rw[em,bp,hm];simp
        generalize hh':(h.set id (af (.dead p T.size (al xs0)))).set nx (af (.rows ty' p T (xs0++J)))=h' at hk;have hrA:cw h (h.set id (af (.dead p T.size (al xs0)))):=cw.set λr hr=>by rw[bU,hb] at hr;exact hr
        have hg2:∀ i,h'.get i=if i=nx then af (.rows ty' p T (xs0++J)) else if i=id then af (.dead p T.size (al xs0)) else h.get i:=λi=>by rw[<- hh',PT.get_set,PT.get_set]
        have hr:cw h h':=by
         rw[<- hh'];refine hrA.trans (cw.set λr hr=>?_);rw[bU,PT.get_set,ay hne,hfr] at hr;cases hr
        have hinv':ma h' (nx+1):=by
         refine ⟨λi ty l hil=>?_,λi c hic=>?_⟩
         .rw[hg2] at hil;split at hil
          .cases hil
          .split at hil
           .cases hil
           .exact iS hr l (hinv.cells i ty l hil)
         .rw[hg2] at hic;split at hic
          .omega
          .split at hic
           .omega
           .have:=hinv.low i c hic;omega
        have hsame:∀ n,n≠nm nx->n≠nm id->bA h' n=bA h n:=λn h1 h2=>kL hinv hr λi e=>by
         subst e;rw[hg2,ay (λe=>h1 (by rw[e])),ay (λe=>h2 (by rw[e]))]
        have hdead:bA h' (nm id)=ah:=by rw[bJ,hg2,ay (by omega),aF rfl];rfl
        have hnew:bA h' (nm nx)=if p&&(xs0++J).length==0 then ah else af ⟨ty',.fz ((xs0++J).flatMap (bS T))⟩:=by rw[bJ,hg2,aF rfl];rfl
        have hval:cr h' (.row nx)=af (fx p nx T.size (xs0++J).length):=by simp only[cr,bU,hg2,bG,aI,mF]
        have hwm:∀ n,n=nm nx\/n=nm id->aN (k_ id|||k_ nx) (ow n)=ai:=λn hn=>by
         rcases hn with rfl|rfl<;>rw[em,bp,b8.2 rfl]<;>simp
        refine ⟨_,_,_,_,_,hk,?_⟩;by_cases hp:(p&&xs0.length==0)=ai
        ·
         have hyb:yb= .emp:=by rw[<- h2];unfold fx;rw[aF hp]
         subst hyb;simp only[av,cZ] at hp;obtain⟨rfl,hl0⟩:=hp;have hnil:xs0=[]:=gH.1 hl0;subst hnil;have hroom':a_ (al J) bytes=ai:=by simpa using hroom
         have I:eQ (.app ty' T.size bytes s x) (K2 e h) H (nm nx)=if al J==0 then af ⟨.emp,rdl,[],[],[]⟩ else af ⟨.row (nm nx) T.size (al J),rdl,[nm nx],[(nm nx,⟨ty',pl ((J.flatMap (bS T)).map .f)⟩)],[nm nx]⟩:=by
          simp only[eQ,h1,h3,h5,IH,hroom',kG,bG]
         have hdead0:bA h (nm id)=ah:=by rw[bJ,hb];rfl
         by_cases hl:al J=0
         .rw[hl] at I;simp only[c6,bG] at I;have hnil:J=[]:=gH.1 hl;subst hnil;refine jm.mk' hc hH I [] (by simp) (λn _=>?_) (by simp) (λH1 H2 d _ _ _=>⟨by simp,λy M=>?_⟩) hrd (by simp) (by simp) hr hinv' (by omega)
          .by_cases hn:n=nm nx
           .subst hn;rw[hnew,bJ,hfr];rfl
           .by_cases hn2:n=nm id
            .subst hn2;rw[hdead,hdead0]
            .exact hsame n hn hn2
          .rw[hval] at M;simp only[fx,iP,jS,c6,kG,bG,ak] at M;subst M;exact lM.refl d _
         .rw[ay (by simpa using hl),CL] at I;refine jm.mk' hc hH I [nm nx] (λi hi=>hi) (λn hn=>?_) (λi hi b' _=>⟨_,by rw[aF hi];simp only[aL] at hi;subst hi;exact ie _ _⟩) (λH1 H2 d hw1 _ hw2=>⟨λi hi b b' Y U=>?_,λy M=>?_⟩) hrd (λn hn=>hwm n (.inl (by simpa using hn))) (λn hn=>by simp only[aL] at hn;subst hn;rw[em];omega) hr hinv' (by omega)
          .have hn1:n≠nm nx:=by simpa using hn
           by_cases hn2:n=nm id
           .subst hn2;rw[hdead,hdead0]
           .exact hsame n hn1 hn2
          .simp only[aL] at hi;subst hi;rw[hw1 _ (by simp),ie] at Y;rw[hw2 _ (by simp),hnew,ay (by simpa using hl)] at U;simp only[ak,lK] at Y U;subst Y;subst U;exact kl.refl d _
          .rw[hval] at M;simp only[fx,lK] at M;rw[ay (by simpa using hl)] at M;simp only[ak] at M;subst M;exact lM.refl d _
        .have hyb:yb= .row (nm id) T.size xs0.length:=by rw[<- h2];unfold fx;rw[ay hp]
         subst hyb;have hg:H.get (nm id)=af ⟨ty',.fz (xs0.flatMap (bS T))⟩:=by rw[hH,bJ,hb];simp only[aI,kM,ay hp]
         have fl:=fB (bC T) xs0;have tk:(xs0.flatMap (bS T)).take (xs0.length*T.size)=xs0.flatMap (bS T):=by rw[<- fl,cP]
         have hmem:XW (nm id) rdl=aj:=by
          cases hx:XW (nm id) rdl with
          |false=>rfl
          |true=>
           obtain⟨i,e,hm⟩:=h6 _ (aig.1 hx);rw[<- kP e,hmid] at hm;cases hm
         have I:eQ (.app ty' T.size bytes s x) (K2 e h) H (nm nx)=af ⟨.row (nm nx) T.size (xs0.length+J.length),nm id::rdl,[nm nx,nm id],[(nm nx,⟨ty',.fz ((xs0++J).flatMap (bS T))⟩)],[nm nx]⟩:=by
          have hcnd:(T.size==T.size&& !(XW (nm id) rdl)&&(BC.fz (xs0.flatMap (bS T))).isCells&&eJ (xs0.length*T.size) (BC.fz (xs0.flatMap (bS T))).len&&ty'==ty'&&a_ (xs0.length+J.length) bytes)=ai:=by
           have:eJ (xs0.length*T.size) (BC.fz (xs0.flatMap (bS T))).len=ai:=bI (by simp only[BC.len];omega);rw[this,hmem,hroom];simp[BC.isCells]
          simp only[eQ,h1,h3,h5,hg,hcnd,bG,BC.toMx,<-kF,tk,<-cA,CL,List.flatMap_append]
         have hne2:¬((p&&(xs0++J).length==0)=ai):=by
          simp only[av,cZ,bu] at hp ⊢;intro hh;exact hp ⟨hh.1,by omega⟩
         refine jm.mk' hc hH I [nm nx,nm id] (λi hi=>hi) (λn hn=>?_) (λi hi b' Z=>?_) (λH1 H2 d hw1 _ hw2=>⟨λi hi b b' Y U=>?_,λy M=>?_⟩) (λn hn=>?_) (λn hn=>hwm n (by simpa using hn)) (λn hn=>by simp only[aL] at hn;subst hn;rw[em];omega) hr hinv' (by omega)
         .simp only[bm,ct,f_,not_or] at hn;exact hsame n hn.1 hn.2
         .simp only[bm,ct,f_] at hi;rcases hi with rfl|rfl
          .exact⟨_,by rw[aF (by simp)];exact ie _ _⟩
          .rw[hdead] at Z;cases Z
         .simp only[bm,ct,f_] at hi;rcases hi with rfl|rfl
          .rw[hw1 _ (by simp),ie] at Y;rw[hw2 _ (by simp),hnew,ay hne2] at U;simp only[ak] at Y U;subst Y;subst U;exact kl.refl d _
          .rw[hw2 _ (by simp),hdead] at U;cases U
         .rw[hval] at M;simp only[fx] at M;rw[ay hne2] at M;simp only[bu,ak] at M;subst M;exact lM.refl d _
         .rcases bm.1 hn with rfl|hn
          .rw[em,bp,b8.2 rfl];rfl
          .exact hrd n hn
       .cases hk
      .cases hk
     .cases hk
    .obtain⟨hroom,hk⟩:=eo hk;simp only[cr,ak] at h2;subst h2;exact⟨_,_,_,_,_,hk,onEmp m (λn hn=>by obtain⟨i,rfl,hm⟩:=h6 n hn;rw[em];exact hm) rfl (Le.refl _) hroom⟩
    .obtain⟨hroom,hk⟩:=eo hk;simp only[cr,ak] at h2;subst h2;exact⟨_,_,_,_,_,hk,onEmp m (λn hn=>by obtain⟨i,rfl,hm⟩:=h6 n hn;rw[em];exact hm) rfl Le.nilEmp hroom⟩
    .cases hk
   .cases hk
  .cases hk
 .cases hk
theorem abn {T:Ty} (xs I:List T.den):(Ts xs I).flatMap (bS T)=AI.splice (xs.flatMap (bS T)) 0 ((I.flatMap (bS T)).take (iN I.length xs.length*T.size)):=by
 have _:=hinv;have _:=hi;have fl:=λJ:List T.den=>fB (bC T) J
 have tk:∀ (J:List T.den) n,(J.flatMap (bS T)).take (n*T.size)=(J.take n).flatMap (bS T):=by
  intro J;induction J with
  |nil=>intro n;simp
  |cons z r M=>
   intro n;cases n with
   |zero=>simp
   |succ n=>rw[fI,vX,fI,iM,List.take_append,bC,fX (by rw[bC];omega),show n*T.size+T.size-T.size=n*T.size from by omega,M n]
 have U:∀ (J:List T.den) n,(J.flatMap (bS T)).drop (n*T.size)=(J.drop n).flatMap (bS T):=by
  intro J;induction J with
  |nil=>intro n;simp
  |cons z r M=>
   intro n;cases n with
   |zero=>simp
   |succ n=>rw[fI,vY,iM,vb,bC,rM (by rw[bC];omega),show n*T.size+T.size-T.size=n*T.size from by omega,M n,lK]
 unfold Ts AI.splice;rw[tk,List.flatMap_append,fl,bE];have e1:I.take (iN I.length xs.length)=I.take xs.length:=by
  rcases Nat.le_total I.length xs.length with h|h
  .rw[show iN I.length xs.length=I.length from sD h,cP,fX h]
  .rw[show iN I.length xs.length=xs.length from Nat.min_eq_right h]
 rw[e1];have e2:min (iN I.length xs.length) I.length=iN I.length xs.length:=sD (Nat.min_le_left _ _);rw[e2];simp only[List.take_zero,lK,bN];rw[U];congr 1;rcases Nat.le_total I.length xs.length with h|h
 .rw[show iN I.length xs.length=I.length from sD h]
 .rw[show iN I.length xs.length=xs.length from Nat.min_eq_right h,List.drop_length,rM h]
theorem akr {con:FuncId->Option cf} {bV:TypeId->Option Ty} {sz:Nat} {d x:Operand} (hc:dk P o.op=af (.copy sz d x)) (hk:dV con bV (.op (.copy sz d x)) e h nx K=af r):kN P o aj e h nx K r:=by
 obtain⟨H,Z⟩:=jJ h;simp only[dV] at hk;split at hk
 .rename_i id y hv U;split at hk
  .rename_i ty p T xs hb;split at hk
   .rename_i hs;have hs:=aw hs;subst hs;split at hk
    .rename_i I m hys;split at hk
     .rename_i hcond;simp only[av,ey] at hcond;obtain⟨hmid,rfl⟩:=hcond;obtain⟨yb,h1,h2⟩:=bM hi hv;obtain⟨yy,h3,h4⟩:=bM hi U;obtain⟨rdl,h5,h6⟩:=Wn Z hys h4;simp only[cr,eC,hb,fx,nl,cD,eA,ak] at h2;subst h2;have fl:=fB (bC T) xs;have fl2:=fB (bC T) I;have hg:H.get (nm id)=af ⟨ty,.fz (xs.flatMap (bS T))⟩:=by rw[Z,bJ,hb];simp[kM]
      have hmem:XW (nm id) rdl=aj:=by
       cases J:XW (nm id) rdl with
       |false=>rfl
       |true=>
        obtain⟨i,e,hm⟩:=h6 _ (aig.1 J);rw[<- kP e,hmid] at hm;cases hm
      have hle:iN I.length xs.length*T.size<=xs.length*T.size:=cG _ (Nat.min_le_right _ _);have Y:eQ (.copy T.size d x) (K2 e h) H (nm nx)=af ⟨raw (.int .i64 (iN I.length xs.length)),nm id::rdl,[nm id],[(nm id,⟨ty,.fz ((Ts xs I).flatMap (bS T))⟩)],[]⟩:=by
       have hcnd:(T.size==T.size&& !(XW (nm id) rdl)&&eJ (xs.length*T.size) (BC.fz (xs.flatMap (bS T))).len)=ai:=by
        have:eJ (xs.length*T.size) (BC.fz (xs.flatMap (bS T))).len=ai:=bI (by simp only[BC.len];omega);rw[this,hmem];simp
       have hput:(BC.fz (xs.flatMap (bS T))).put 0 (((I.flatMap (bS T)).map .f).take (iN I.length xs.length*T.size))=af (.fz ((Ts xs I).flatMap (bS T))):=by
        rw[<- kF];unfold BC.put;rw[aF]
        .simp only[Kv];rw[abn hinv hi]
        .simp only[av];refine ⟨⟨rfl,bI ?_⟩,?_⟩
         .simp only[BC.len,bX,bE];omega
         .have:∀ l:List FV,(∀ x∈l,x.isCell=ai)->gG (l.map .f)=ai:=by
           intro l hl;induction l with
           |nil=>rfl
           |cons z r ih=>simp only[gk,gG,av];exact⟨hl z (by simp),ih λx J=>hl x (by simp[J])⟩
          exact this _ λx J=>rG T I x (gV J)
       simp only[eQ,h1,h3,hg,h5,hcnd,bG,hput]
      have hrow:mF (.rows ty aj T (Ts xs I))=mF (.rows ty aj T xs):=by
       have:(Ts xs I).length=xs.length:=by unfold Ts;rw[bu,bE,mB];omega
       simp only[mF,this]
      have key:=jm.wrt (m:=0) (v:=.f (.int .i64) (aO (iN (al I) (al xs)))) (rd:=k_ id|||m) hinv hc Z Y (B:=.rows ty aj T (Ts xs I)) hb (dX.zero h) (by simp) hrow (λ_ _ he=>by cases he) (λH1 H2 d g b' M=>by
       simp only[kM,nl,cD,eA,ak] at M;subst M;exact kl.refl d _) (λH1 H2 y d g hy=>by
       simp only[cr,ak] at hy;subst hy;exact lM.refl d _) (λn hn=>by
       rcases bm.1 hn with rfl|hn
       .rw[em,bp,b8.2 rfl];rfl
       .obtain⟨i,rfl,hm⟩:=h6 n hn;rw[em,bp,hm];simp)
      rw[D5] at key;exact⟨_,_,_,_,_,hk,key⟩
     .cases hk
    .cases hk
   .cases hk
  .cases hk
 .cases hk
theorem ag9 {con:FuncId->Option cf} {bV:TypeId->Option Ty} {sz:Nat} {x v:Operand} (hc:dk P o.op=af (.store sz x v)) (hk:dV con bV (.op (.store sz x v)) e h nx K=af r):kN P o aj e h nx K r:=by
 obtain⟨H,hH⟩:=jJ h;simp only[dV] at hk;split at hk
 .rename_i id off y hv Y;obtain⟨yb,h1,h2⟩:=bM hi hv;obtain⟨I,h3,h4⟩:=bM hi Y;simp only[cr,ak] at h2;subst h2;split at hk
  .rename_i ty l hb;split at hk
   .rename_i cs hcs;split at hk
    .rename_i hcond;simp only[av,cZ] at hcond;obtain⟨h5,h6⟩:=Ng hcs h4;obtain⟨l',hl⟩:=fK h l (hinv.cells id ty l hb);have hg:H.get (nm id)=af ⟨ty,.mx l'⟩:=by rw[hH,bJ,hb];simp only[aI,kM,hl]
     have hcell:=tJ h5 h6;have hlen:I.cs.length=sz:=by rw[js h5];exact hcond.1
     have hput:(BC.mx l').put off I.cs=af (.mx (splice l' off I.cs)):=by
      unfold BC.put;rw[aF]
      .rfl
      .simp only[av];exact⟨⟨rfl,by simp only[BC.len];rw[hlen,js hl];exact hcond.2⟩,hcell⟩
     have Z:eQ (.store sz x v) (K2 e h) H (nm nx)=af ⟨raw undef,[nm id],[nm id],[(nm id,⟨ty,.mx (splice l' off I.cs)⟩)],[]⟩:=by
      simp only[eQ,h1,h3,Pe,hg,hlen,c6,bG,hput]
     have hspl:∀ h',cw h h'->cR h' (splice l off cs)=af (splice l' off I.cs):=λh' hr=>vq off (iX hr l l' hl) (iX hr cs _ h5)
     have hr1:cw h (h.set id (af (.cells ty (splice l off cs)))):=cw.set λr hr=>by rw[bU,hb] at hr;cases hr
     have key:=jm.wrt (m:=0) (v:=.undef) (rd:=k_ id) hinv hc hH Z (B:=.cells ty (splice l off cs)) hb (dX.zero h) (by simp) rfl (λty' l2 he=>by cases he;exact lG _ _ _ (hspl _ hr1)) (λU M d g b' J=>by
      have:=hspl _ hr1;simp only[eM,uX,bG,kM,this,ak] at J;subst J;exact kl.refl d _) (λU M y d g hy=>by
      simp only[cr,ak] at hy;subst hy;exact lM.refl d _) (λn hn=>by simp only[aL] at hn;subst hn;rw[em];exact b8.2 rfl)
     rw[D5] at key;exact⟨_,_,_,_,_,hk,key⟩
    .cases hk
   .cases hk
  .cases hk
 .rename_i id sz' j off y hv Y;obtain⟨yb,h1,h2⟩:=bM hi hv;obtain⟨I,h3,h4⟩:=bM hi Y;simp only[cr,ak] at h2;subst h2;split at hk
  .rename_i ty p T xs hb;split at hk
   .rename_i hsz;have hsz:=aw hsz;subst hsz;obtain⟨hj,hk⟩:=eo hk;split at hk
    .rename_i z m hset;split at hk
     .cases hk
     .rename_i hmid;have hmid:aN m id=aj:=by simpa using hmid
      have hm:=zZ 40 T _ off sz z m hset;obtain⟨j0,j1,j2⟩:=II hj;have hne:¬((p&&xs.length==0)=ai):=by simp only[av,cZ];omega
      have hne2:¬((p&&(cQ xs j z).length==0)=ai):=by unfold cQ;rw[sF];exact hne
      have hg:H.get (nm id)=af ⟨ty,.fz (xs.flatMap (bS T))⟩:=by rw[hH,bJ,hb];simp only[aI,kM,ay hne]
      have fl:=fB (bC T) xs;have hx:xs[j.toNat]? =af (aJ xs j):=by
       unfold aJ;rw[aA,aB j2];rfl
      have hle:(j.toNat+1)*T.size<=xs.length*T.size:=cG _ j2;rw[iM] at hle;have hso:∀ U M,vC U M->D9 h U M m->Xz U M I T (aJ xs j) z off sz:=λU M d g=>v_ d h4 40 T _ off sz z m hset g
      have hshape:I.cs.length=sz/\off+sz<=T.size/\gG I.cs=ai:=by
       have d0:vC (bA h) (bA (eM m h)):=λi b hb=>by
        obtain⟨i',c,rfl,g1,g2⟩:=jv hb;rw[iW] at g1;by_cases ht:aN m i'=ai
        .obtain⟨pp,ss,nn,g3⟩:=tW hm ht;rw[iW] at g3;rw[g3] at g1;cases g1;cases g2
        .rw[ay ht] at g1;exact⟨b,by rw[bJ,g1];simp only[aI];rw[<- Jo (cw.kill m h) (λty l e=>hinv.cells i' ty l (by rw[g1,e]))];exact g2⟩
       obtain⟨fs,q1,q2,q3,q4,q5⟩:=hso _ _ d0 (λi hi=>⟨rfl,by
        obtain⟨pp,ss,nn,g3⟩:=tW hm hi;rw[bJ,g3];rfl⟩)
       refine ⟨by rw[<- q2,<-bX (f:=AV.f),q1.length],q3,?_⟩;exact rc h4 40 T _ off sz z m hset
      obtain⟨hlen,hoff,hcell⟩:=hshape;obtain⟨c',hput,hc1,hc2⟩:∃ c',(BC.fz (xs.flatMap (bS T))).put (j.toNat*T.size+off) I.cs=af c'/\c'.toMx=splice ((xs.flatMap (bS T)).map .f) (j.toNat*T.size+off) I.cs/\c'.isCells=ai:=by
       unfold BC.put;rw[aF]
       .split
        .rename_i l ys hl hys;simp only[BC.fz.injEq] at hl;subst hl;refine ⟨_,rfl,?_,rfl⟩;rw[pM hys];simp only[BC.toMx];unfold splice;simp[kF,List.map_drop]
        .exact⟨_,rfl,rfl,rfl⟩
       .simp only[av];exact⟨⟨rfl,bI (by simp only[BC.len];omega)⟩,hcell⟩
      have Z:eQ (.store sz x v) (K2 e h) H (nm nx)=af ⟨raw undef,[nm id],[nm id],[(nm id,⟨ty,c'⟩)],[]⟩:=by
       simp only[eQ,h1,h3,Pe,hg,hlen,c6,bG,hput]
      have hrow:mF (.rows ty p T (cQ xs j z))=mF (.rows ty p T xs):=by
       unfold cQ;simp only[mF,sF]
      refine ⟨_,_,_,_,_,hk,jm.wrt hinv hc hH Z (B:=.rows ty p T (cQ xs j z)) hb hm hmid hrow (λ_ _ he=>by cases he) (λU M d g b' J=>?_) (λU M y d g hy=>?_) (λn hn=>?_)⟩
      .simp only[kM,ay hne2,ak] at J;subst J;obtain⟨fs,q1,q2,q3,q4,q5⟩:=hso U M d g;have hfl:(cQ xs j z).flatMap (bS T)=AI.splice (xs.flatMap (bS T)) (j.toNat*T.size+off) fs:=Ri (bC T) xs j.toNat _ z hx off fs (by omega) q4;refine kl.cells hc2 rfl ?_ λx hx=>?_
       .rw[hc1];simp only[BC.toMx];rw[hfl];have:(AI.splice (xs.flatMap (bS T)) (j.toNat*T.size+off) fs).map AV.f=AI.splice ((xs.flatMap (bS T)).map .f) (j.toNat*T.size+off) (fs.map .f):=by unfold AI.splice;simp[kF,List.map_drop]
        rw[this];exact (ia.refl d _).splice _ q1
       .simp only[BC.toMx] at hx;obtain⟨q,hq,rfl⟩:=c_.1 hx;exact rG T _ q hq
      .simp only[cr,ak] at hy;subst hy;exact lM.refl d _
      .simp only[aL] at hn;subst hn;rw[em,bp,b8.2 rfl];simp
    .cases hk
   .cases hk
  .cases hk
 .cases hk
theorem akm {con:FuncId->Option cf} {bV:TypeId->Option Ty} {ty:TypeId} {sz bytes:Nat} {z:List Value} {l c:Operand} (hc:dk P o.op=af (.mksl ty sz bytes z l c)) (hk:dV con bV (.op (.mksl ty sz bytes z l c)) e h nx K=af r):kN P o aj e h nx K r:=by
 cases hcm:DJ (bV ty) with
 |none=>exact aga hinv hi hcm hc hk
 |some n=>
  obtain⟨H,hH⟩:=jJ h;simp only[dV,hcm] at hk;split at hk
  .rename_i zc k a k' b J hv M;obtain⟨hck,hk⟩:=eo hk;rw[av] at hck;obtain⟨hcond,hn⟩:=hck;have hn:=bt hn;obtain⟨y,h1,h2⟩:=bM hi hv;obtain⟨y2,h3,Y⟩:=bM hi M;simp only[cr,ak] at h2 Y;subst h2;subst Y;have han:aT a=n:=by rw[hn];rfl
   obtain⟨_,_,hzc⟩:=vz h J;refine ⟨_,_,_,_,_,hk,jm.new hinv hc hH (y0:=.row (nm nx) sz n) (rdl:=[]) (b0:=⟨ty,.fz (repl z n)⟩) (by simp only[eQ,h1,h3,gJ,hcond,bG,han]) (dX.zero h) (λty' l' he=>?_) (λH1 H2 d g b' I=>?_) (λH1 H2 y d g U=>?_) (by simp)⟩
   .cases he;exact lG _ _ _ (Mr _ J n)
   .simp only[kM,Mr _ J n,ak] at I;subst I;refine kl.cells rfl rfl (ia.refl d _) λx Z=>?_
    exact lI (tJ (Mr h J n) (Fj hzc n)) x Z
   .simp only[cr,ak] at U;subst U;exact lM.refl d _
  .cases hk
theorem ao6 {con:FuncId->Option cf} {bV:TypeId->Option Ty} {ty:TypeId} {sz len:Nat} {z:List Value} {parts:List (Nat×Nat×Operand)} (hc:dk P o.op=af (.bsl ty sz len z parts)) (hk:dV con bV (.op (.bsl ty sz len z parts)) e h nx K=af r):kN P o aj e h nx K r:=by
 cases hcm:DJ (bV ty) with
 |none=>exact akt hinv hi hcm hc hk
 |some n=>
  obtain⟨H,hH⟩:=jJ h;simp only[dV,hcm] at hk;split at hk
  .rename_i zc M;split at hk
   .rename_i cs hf;split at hk
    .cases hk
    .rename_i hl;have hl:len≠0:=λe=>hl (by rw[e];rfl)
     obtain⟨cs',h1,h2,h3⟩:=Da hi parts _ cs _ hf (Mr h M len);obtain⟨_,_,hzc⟩:=vz h M;have hcs:=h3 (Fj hzc len);have hr:cw h ((eM 0 h).set nx (af (.cells ty cs))):=(cw.kill 0 h).trans (cw.set λr hr=>by rw[bU,(hinv.kill 0).fresh] at hr;cases hr);have J:=iX hr _ _ h2;refine ⟨_,_,_,_,_,hk,jm.new hinv hc hH (y0:=.row (nm nx) sz len) (rdl:=[]) (b0:=⟨ty,pl cs'⟩) (by simp only[eQ,h1,ay hl]) (dX.zero h) (λty' l' he=>?_) (λH1 H2 d g b' I=>?_) (λH1 H2 y d g U=>?_) (by simp)⟩
     .cases he;exact lG _ _ _ J
     .simp only[kM,J,ak] at I;subst I;obtain⟨Z,Y⟩:=nK cs';refine kl.cells Y rfl ?_ λx hx=>?_
      .rw[Z];exact ia.refl d _
      .exact lI (tJ h2 hcs) x hx
     .simp only[cr,ak] at U;subst U;exact lM.refl d _
   .cases hk
  .cases hk
theorem ao9 {con:FuncId->Option cf} {bV:TypeId->Option Ty} {ty:TypeId} {sz bytes:Nat} {s x:Operand} (hc:dk P o.op=af (.app ty sz bytes s x)) (hk:dV con bV (.op (.app ty sz bytes s x)) e h nx K=af r):kN P o aj e h nx K r:=by
 cases hcm:DJ (bV ty) with
 |none=>exact aku hinv hi hcm hc hk
 |some n0=>
  obtain⟨H,hH⟩:=jJ h;have hfr:=hinv.fresh;simp only[dV,hcm] at hk;split at hk
  .rename_i b y hv hv2;obtain⟨yb,h1,h2⟩:=bM hi hv;obtain⟨yy,h3,h4⟩:=bM hi hv2;unfold ah7 at hk;split at hk
   .rename_i id2 sz2 m;simp only[cr,ak] at h4;subst h4;split at hk
    .rename_i ty2 l2 I;split at hk
     .rename_i hq;simp only[av,ey] at hq;obtain⟨⟨q1,q2⟩,q3⟩:=hq;have q1:=aw q1;have q2:=aw q2;have q3:m≠0:=λe=>by rw[e] at q3;cases q3
      subst q1;obtain⟨J,Z⟩:=fK h l2 (hinv.cells id2 ty2 l2 I);have hrow:=af1 hH I Z q2;split at hk
      .rename_i id sz1 n;simp only[cr,ak] at h2;subst h2;split at hk
       .rename_i ty1 l1 U;split at hk
        .rename_i hq;simp only[av,ey] at hq;obtain⟨⟨⟨p1,p2⟩,p3⟩,p4⟩:=hq;have p1:=aw p1;have p2:=eq_of_beq p2;have p3:=aw p3;have p4:id≠id2:=λe=>by rw[e,uX] at p4;cases p4
         subst p1;subst p2;obtain⟨hroom,hk⟩:=eo hk;obtain⟨M,hl1⟩:=fK h l1 (hinv.cells id _ l1 U);have hln:=js hl1;have hg:H.get (nm id)=af ⟨ty1,.mx M⟩:=by rw[hH,bJ,U];simp only[aI,kM,hl1]
         have hidlt:id<nx:=hinv.low id _ U;generalize hB:io.cells ty1 (l1++l2)=B at hk;have hd1:cw h (h.set id (af (.dead ai 0 0))):=cw.set λr hr=>by rw[bU,U] at hr;cases hr
         have hd2:cw (h.set id (af (.dead ai 0 0))) ((h.set id (af (.dead ai 0 0))).set nx (af B)):=cw.set λr hr=>by
          rw[bU,PT.get_set,ay (by omega),hfr] at hr;cases hr
         have hr:=hd1.trans hd2;have hsp:cR ((h.set id (af (.dead ai 0 0))).set nx (af B)) (l1++l2)=af (M++J):=iX hr _ _ (m_ hl1 Z);have Y:bA ((h.set id (af (.dead ai 0 0))).set nx (af B)) (nm nx)=af ⟨ty1,.mx (M++J)⟩:=by rw[bJ,PT.get_set,aF rfl,<-hB] at *;simp only[aI,kM,hsp]
         have hbd:bA ((h.set id (af (.dead ai 0 0))).set nx (af B)) (nm id)=ah:=by rw[bJ,PT.get_set,ay (by omega),PT.get_set,aF rfl];rfl
         have hinv1:ma (h.set id (af (.dead ai 0 0))) nx:=hinv.set hd1 hidlt (bW _) (λ_ _ he=>by cases he);have ha:eQ (.app ty1 sz1 bytes s x) (K2 e h) H (nm nx)=af ⟨.row (nm nx) sz1 (n+m),[nm id,nm id2],[nm nx,nm id],[(nm nx,⟨ty1,pl (M++J)⟩)],[nm nx]⟩:=by
          simp only[eQ,h1,h3,hrow,hg];rw[aF (by
           simp only[c6,pw,Bool.and_true,BC.isCells,BC.len,hroom,av,ey];refine ⟨?_,bI (by omega)⟩;simp only[XW,Bool.or_false];cases hq:aC (nm id2) (nm id) with
           |false=>rfl
           |true=>exact cV (kP (aw hq)).symm p4)]
          simp only[BC.toMx,fX (show M.length<=n*sz1 by omega)]
         refine ⟨_,_,_,_,_,hk,jm.mk' hc hH ha [nm nx,nm id] (λi hi=>hi) (λq hq=>?_) (λi hi b' hbb=>?_) (λH1 H2 d hw1 _ hw2=>⟨λi hi b b' hb I=>?_,λy hy=>?_⟩) (λq hq=>?_) (λq hq=>?_) (λq hq=>?_) hr (hinv1.set hd2 (by omega) (by omega) λty' l' he=>?_) (by omega)⟩
         .simp only[bm,ct,f_,not_or] at hq;refine kL hinv hr λi ei=>?_
          subst ei;rw[PT.get_set,ay (λe=>hq.1 (by rw[e])),PT.get_set,ay (λe=>hq.2 (by rw[e]))]
         .simp only[bm,ct,f_] at hi;rcases hi with rfl|rfl
          .rw[aF (by simp)];exact⟨_,ie _ _⟩
          .rw[hbd] at hbb;cases hbb
         .simp only[bm,ct,f_] at hi;rcases hi with rfl|rfl
          .rw[hw1 _ (by simp),ie] at hb;rw[hw2 _ (by simp),Y] at I;simp only[ak] at hb I;subst hb;subst I;obtain⟨m1,m2⟩:=nK (M++J);exact kl.eq d m2 rfl m1
          .rw[hw2 _ (by simp),hbd] at I;cases I
         .simp only[cr,ak] at hy;subst hy;exact lM.refl d _
         .simp only[bm,ct,f_] at hq;rw[bp,iQ];rcases hq with rfl|rfl
          .rw[em];exact .inl (b8.2 rfl)
          .rw[em];exact .inr (b8.2 rfl)
         .simp only[bm,ct,f_] at hq;rw[bp,iQ];rcases hq with rfl|rfl
          .rw[em];exact .inr (b8.2 rfl)
          .rw[em];exact .inl (b8.2 rfl)
         .simp only[aL] at hq;subst hq;rw[em];omega
         .rw[<- hB] at he;cases he;exact lG _ _ _ hsp
        .cases hk
       .cases hk
      .simp only[cr,ak] at h2;subst h2;obtain⟨hroom,hk⟩:=eo hk;have hr:cw h ((eM 0 h).set nx (af (.cells ty l2))):=(cw.kill 0 h).trans (cw.set λr hr=>by rw[bU,(hinv.kill 0).fresh] at hr;cases hr);have h2':=iX hr _ _ Z;refine ⟨_,_,_,_,_,hk,jm.new hinv hc hH (y0:=.row (nm nx) sz2 m) (rdl:=[nm id2]) (b0:=⟨ty,pl J⟩) (by simp only[eQ,h1,h3,hrow];simp[IH,Ae,hroom,q3]) (dX.zero h) (λty' l' he=>?_) (λH1 H2 d g b' Y=>?_) (λH1 H2 y d g hy=>?_) (λn hn=>?_)⟩
       .cases he;exact lG _ _ _ h2'
       .simp only[kM,h2',ak] at Y;subst Y;obtain⟨p1,p2⟩:=nK J;exact kl.eq d p2 rfl p1
       .simp only[cr,ak] at hy;subst hy;exact lM.refl d _
       .simp only[aL] at hn;subst hn;rw[em];exact b8.2 rfl
      .cases hk
     .cases hk
    .cases hk
   .cases hk
  .cases hk
theorem anm {con:FuncId->Option cf} {bV:TypeId->Option Ty} {sz:Nat} {x:Operand} {lo hi' mx:Option Operand} (hc:dk P o.op=af (.slc sz x lo hi' mx)) (hk:dV con bV (.op (.slc sz x lo hi' mx)) e h nx K=af r):kN P o aj e h nx K r:=by
 have hfr:=hinv.fresh;simp only[dV] at hk;split at hk
 .rename_i v hv;obtain⟨y,h1,h2⟩:=bM hi hv;split at hk
  .split at hk
   .rename_i hn;obtain⟨n,hn⟩:=iH.1 hn;have Y:=Qu hn h2;exact kN.q (k:=0) hinv hc (λH _=>by simp only[eQ,h1,Y,Option.isSome_some,bG]) (dt rfl) hk
   .cases hk
  .rename_i b;split at hk
   .rename_i T xs k j hb;obtain⟨y2,Y,U⟩:=bM hi hb;simp only[cr,ak] at h2 U;subst h2;subst U;split at hk
    .rename_i hs;have hs:=aw hs;subst hs;obtain⟨hj,hk⟩:=eo hk;have hfl:=fB (bC T) xs;have hcond:(c7 0 j&&c7 j (al xs)&&eJ (al xs*T.size) (xs.flatMap (bS T)).length)=ai:=by
      rw[hj,pw];exact bI (by omega)
     simp only[c7,av,be] at hj;have hlen:(xs.take j.toNat).length=j.toNat:=by rw[bE];omega
     exact kN.q (k:=0) (y0:=.f (.sl ((xs.flatMap (bS T)).take (j.toNat*T.size)) j.toNat)) hinv hc (λH _=>by simp only[eQ,h1,Y,gJ,hcond,bG]) (dt (by simp only[cr,gJ];rw[Ai (bC T),hlen])) hk
    .cases hk
   .rename_i id k j hb;obtain⟨y2,Y,U⟩:=bM hi hb;simp only[cr,ak] at U;subst U;split at hk
    .rename_i ty p T xs I;split at hk
     .rename_i hs;have hs:=aw hs;subst hs;obtain⟨hj,hk⟩:=eo hk;obtain⟨H,hH⟩:=jJ h;have hj0:=hj;simp only[c7,fO,av,be] at hj;have hp:¬((p&&xs.length==0)=ai):=by
       simp only[av,cZ];omega
      simp only[cr,bU,I,aI,mF,fx,ay hp,ak] at h2;subst h2;have hidlt:=hinv.low id _ I;have hne:nx≠id:=by omega
      have hg:H.get (nm id)=af ⟨ty,.fz (xs.flatMap (bS T))⟩:=by rw[hH,bJ,I];simp only[aI,kM,ay hp]
      have fl:=fB (bC T) xs;have hcond:(T.size==T.size&&c7 0 j&&c7 j (al xs))=ai:=by
       simp only[c7,av,be,c6,Bu];omega
      have hlen:(xs.take j.toNat).length=j.toNat:=by rw[bE];omega
      have ha0:eQ (.slc T.size x ah (af b) ah) (K2 e h) H (nm nx)=af ⟨.row (nm nx) T.size j.toNat,[nm id],[nm nx,nm id],[(nm nx,⟨ty,.fz ((xs.take j.toNat).flatMap (bS T))⟩)],[nm nx]⟩:=by
       have hc2:((BC.fz (xs.flatMap (bS T))).isCells&&eJ (al xs*T.size) (BC.fz (xs.flatMap (bS T))).len)=ai:=by
        simp only[BC.isCells,pw,BC.len];exact bI (by omega)
       simp only[eQ,h1,Y,gJ,hcond,bG,hg,hc2,BC.toMx,<-kF,CL,Ai (bC T)]
      generalize hh':(h.set id (af (.dead p T.size (al xs)))).set nx (af (.rows ty aj T (dO j.toNat xs)))=h' at hk;have hrA:cw h (h.set id (af (.dead p T.size (al xs)))):=cw.set λr hr=>by rw[bU,I] at hr;exact hr
      have J:∀ i,h'.get i=if i=nx then af (.rows ty aj T (dO j.toNat xs)) else if i=id then af (.dead p T.size (al xs)) else h.get i:=λi=>by rw[<- hh',PT.get_set,PT.get_set]
      have hr:cw h h':=by
       rw[<- hh'];refine hrA.trans (cw.set λr hr=>?_);rw[bU,PT.get_set,ay hne,hfr] at hr;cases hr
      have hinv':ma h' (nx+1):=by
       refine ⟨λi ty l hil=>?_,λi c hic=>?_⟩
       .rw[J] at hil;split at hil
        .cases hil
        .split at hil
         .cases hil
         .exact iS hr l (hinv.cells i ty l hil)
       .rw[J] at hic;split at hic
        .omega
        .split at hic
         .omega
         .have:=hinv.low i c hic;omega
      have hsame:∀ n,n≠nm nx->n≠nm id->bA h' n=bA h n:=λn h1 h2=>kL hinv hr λi e=>by
       subst e;rw[J,ay (λe=>h1 (by rw[e])),ay (λe=>h2 (by rw[e]))]
      have hdead:bA h' (nm id)=ah:=by rw[bJ,J,ay (by omega),aF rfl];rfl
      have hnew:bA h' (nm nx)=af ⟨ty,.fz ((xs.take j.toNat).flatMap (bS T))⟩:=by rw[bJ,J,aF rfl];rfl
      have hval:cr h' (.row nx)=af (.row (nm nx) T.size j.toNat):=by simp only[cr,bU,J,bG,aI,mF,fx,nl,cD,eA,hlen]
      refine ⟨_,_,_,_,_,hk,?_⟩;refine jm.mk' hc hH ha0 [nm nx,nm id] (λi hi=>hi) (λn hn=>?_) (λi hi b' hb'=>?_) (λH1 H2 d hw1 _ hw2=>⟨λi hi b b' Z M=>?_,λy hy=>?_⟩) (λn hn=>?_) (λn hn=>?_) (λn hn=>by simp only[aL] at hn;subst hn;rw[em];omega) hr hinv' (by omega)
      .simp only[bm,ct,f_,not_or] at hn;exact hsame n hn.1 hn.2
      .simp only[bm,ct,f_] at hi;rcases hi with rfl|rfl
       .exact⟨_,by rw[aF (by simp)];exact ie _ _⟩
       .rw[hdead] at hb';cases hb'
      .simp only[bm,ct,f_] at hi;rcases hi with rfl|rfl
       .rw[hw1 _ (by simp),ie] at Z;rw[hw2 _ (by simp),hnew] at M;simp only[ak] at Z M;subst Z;subst M;exact kl.refl d _
       .rw[hw2 _ (by simp),hdead] at M;cases M
      .rw[hval] at hy;simp only[ak] at hy;subst hy;exact lM.refl d _
      .simp only[aL] at hn;subst hn;rw[em];exact b8.2 rfl
      .simp only[bm,ct,f_] at hn;rcases hn with rfl|rfl<;>rw[em,bp,b8.2 rfl]<;>simp
     .cases hk
    .cases hk
   .cases hk
  .rename_i b;split at hk
   .rename_i T xs k j hb;obtain⟨y2,Y,U⟩:=bM hi hb;simp only[cr,ak] at h2 U;subst h2;subst U;split at hk
    .rename_i hs;have hs:=aw hs;subst hs;obtain⟨hj,hk⟩:=eo hk;have hfl:=fB (bC T) xs;have hcond:(c7 0 j&&c7 j (al xs)&&eJ (al xs*T.size) (xs.flatMap (bS T)).length)=ai:=by
      rw[hj,pw];exact bI (by omega)
     simp only[c7,av,be] at hj;have hlen:(xs.drop j.toNat).length=al xs-j.toNat:=by rw[mB]
     have htk:((xs.flatMap (bS T)).drop (j.toNat*T.size)).take ((al xs-j.toNat)*T.size)=(xs.flatMap (bS T)).drop (j.toNat*T.size):=by
      refine fX ?_;rw[mB,hfl,Nat.sub_mul];exact bW _
     exact kN.q (k:=0) (y0:=.f (.sl ((xs.flatMap (bS T)).drop (j.toNat*T.size)) (al xs-j.toNat))) hinv hc (λH _=>by simp only[eQ,h1,Y,gJ,hcond,bG,htk]) (dt (by simp only[cr,gJ];rw[Ji (bC T),hlen])) hk
    .cases hk
   .rename_i id k j hb;obtain⟨y2,Y,U⟩:=bM hi hb;simp only[cr,ak] at U;subst U;split at hk
    .rename_i ty p T xs I;split at hk
     .rename_i hs;have hs:=aw hs;subst hs;obtain⟨hj,hk⟩:=eo hk;have hcond:(T.size==T.size&&c7 0 j&&fO j (al xs))=ai:=by
       simp only[av] at hj;rw[hj.1,hj.2,c6];rfl
      simp only[c7,fO,av,be] at hj;have hp:¬((p&&xs.length==0)=ai):=by
       simp only[av,cZ];omega
      simp only[cr,bU,I,aI,mF,fx,ay hp,ak] at h2;subst h2;exact kN.q (k:=0) (y0:=.sl (nm id) (j.toNat*T.size) (al xs-j.toNat)) hinv hc (λH _=>by simp only[eQ,h1,Y,gJ,hcond,bG]) (dt (by simp only[cr,bU,I,aI,mF])) hk
     .cases hk
    .cases hk
   .cases hk
  .cases hk
 .cases hk
theorem ao5 {con:FuncId->Option cf} {bV:TypeId->Option Ty} {sz:Nat} {z:List Value} {x:Operand} (hc:dk P o.op=af (.clr sz z x)) (hk:dV con bV (.op (.clr sz z x)) e h nx K=af r):kN P o aj e h nx K r:=by
 obtain⟨H,hH⟩:=jJ h;simp only[dV] at hk;split at hk
 .rename_i id j hv;split at hk
  .rename_i ty p T xs hb;split at hk
   .rename_i hs;simp only[av] at hs;obtain⟨⟨hs,J⟩,hco⟩:=hs;have hs:=aw hs;have J:=Kp J;subst hs;subst J;obtain⟨hj,hk⟩:=eo hk;simp only[c7,fO,av,be] at hj;obtain⟨j0,j1⟩:=hj;obtain⟨y,h1,h2⟩:=bM hi hv;simp only[cr,bU,hb,aI,mF,ak] at h2;subst h2;have hp:¬((p&&xs.length==0)=ai):=by
     simp only[av,cZ];omega
    have fl:=fB (bC T) xs;have hg:H.get (nm id)=af ⟨ty,.fz (xs.flatMap (bS T))⟩:=by rw[hH,bJ,hb];simp only[aI,kM,ay hp]
    have hrl:(repl (sS T) (xs.length-j.toNat)).length=(xs.length-j.toNat)*T.size:=by
     have h9:=(Hu (H:=λ_=>ah) (H':=λ_=>ah) (λn b hb=>by cases hb) T (xs.length-j.toNat)).length;rw[bX,bX,fB (bC T),eK] at h9;exact h9.symm
    have hoff:j.toNat*T.size+(xs.length-j.toNat)*T.size=xs.length*T.size:=by rw[<- Nv];congr 1;omega
    have hput:(BC.fz (xs.flatMap (bS T))).put (j.toNat*T.size) ((repl (sS T) (xs.length-j.toNat)).map .f)=af (.fz (splice (xs.flatMap (bS T)) (j.toNat*T.size) (repl (sS T) (xs.length-j.toNat)))):=by
     unfold BC.put;rw[aF]
     .simp only[Kv]
     .simp only[av];refine ⟨⟨rfl,bI ?_⟩,Gw _ λq hq=>?_⟩
      .simp only[BC.len,bX];omega
      .obtain⟨v,hv,rfl⟩:=Qb _ q hq;exact gp.1 hco v hv
    have hblt:gi 0 (xs.length-j.toNat)=ai:=bI (by omega);have Y:eQ (.clr T.size (sS T) x) (K2 e h) H (nm nx)=af ⟨.tup [],[nm id],[nm id],[(nm id,⟨ty,.fz (splice (xs.flatMap (bS T)) (j.toNat*T.size) (repl (sS T) (xs.length-j.toNat)))⟩)],[]⟩:=by
     simp only[eQ,h1,hg,hblt,bG,hput]
    have hlen:(dO j.toNat xs++aG (al xs-j.toNat) T.zero).length=xs.length:=by
     rw[bu,bE,eK];omega
    have hrow:mF (.rows ty p T (dO j.toNat xs++aG (al xs-j.toNat) T.zero))=mF (.rows ty p T xs):=by simp only[mF,hlen]
    refine ⟨_,_,_,_,_,hk,jm.wrt (m:=0) (v:=.tup []) (rd:=k_ id) hinv hc hH Y hb (dX.zero h) (by simp) hrow (λ_ _ he=>by cases he) (λH1 H2 d g b' I=>?_) (λH1 H2 y d g Z=>?_) (λn hn=>?_)⟩
    .have U:¬((p&&(dO j.toNat xs++aG (al xs-j.toNat) T.zero).length==0)=ai):=by rw[hlen];exact hp
     simp only[kM,ay U,ak] at I;subst I;refine kl.cells rfl rfl ?_ λq hq=>?_
     .simp only[BC.toMx];unfold splice;rw[hrl,hoff,<-fl,List.drop_length,iP,List.flatMap_append,Ai (bC T),cA,cA];exact (ia.refl d _).append (Hu d T _)
     .simp only[BC.toMx] at hq;obtain⟨q',M,rfl⟩:=c_.1 hq;exact rG T _ q' M
    .simp only[cr,cR,ak] at Z;subst Z;exact lM.refl d _
    .simp only[aL] at hn;subst hn;rw[em];exact b8.2 rfl
   .cases hk
  .cases hk
 .cases hk
end ops
theorem Ua {K V:Ty} {es:List (K.den×V.den)} (I:mpE K V es=ai):es.map (λp=>(pI K p.1,AV.f (gJ V p.2)))=[]:=by
 unfold mpE at I;split at I
 .rfl
 .cases I
theorem aie {K V:Ty} {es:List (K.den×V.den)} (I:mpE K V es=ai):T_ K=ai:=by
 unfold mpE at I;split at I
 .rfl
 .cases I
theorem WH {str:Bool} {K:Ty} (I:XX str K=ai):T_ K=ai:=by
 cases K<;>cases str<;>first|rfl|cases I
theorem N6 {str:Bool} {K:Ty} (I:XX str K=ai) (k k':K.den):uT .eql (pI K k) (pI K k')=af (.bool (PD K k k'))/\yX str (pI K k)=ai/\gJ K k= .raw (pI K k):=by
 cases K<;>cases str<;>first|cases I|skip
 .exact⟨by simp only[uT,pI,PD,c6,bG,ak,Cd];exact Bool.beq_eq_decide_eq _ _,rfl,rfl⟩
 .exact⟨by simp only[uT,pI,PD,DP],rfl,rfl⟩
theorem Qs {str:Bool} {K V:Ty} (I:XX str K=ai) (k:K.den):∀ es:List (K.den×V.den),tw (pI K k) (es.map λp=>(pI K p.1,AV.f (gJ V p.2)))=af ((Qt k es).map λv=>AV.f (gJ V v))
 |[]=>rfl
 |(k',v)::r=>by
  simp only[gk,tw,(N6 I k k').1,Qt];cases hb:PD K k k' with
  |true=>rfl
  |false=>simp only[cD,eA];exact Qs I k r
theorem WF {str:Bool} {K V:Ty} (I:XX str K=ai) (k:K.den) (v:V.den):∀ es:List (K.den×V.den),yV (pI K k) (.f (gJ V v)) (es.map λp=>(pI K p.1,AV.f (gJ V p.2)))=af ((N0 k v es).map λp=>(pI K p.1,AV.f (gJ V p.2)))
 |[]=>rfl
 |(k',J)::r=>by
  simp only[gk,yV,(N6 I k k').1,N0];cases hb:PD K k k' with
  |true=>rfl
  |false=>simp only[WF I k v r,cD,eA,gk]
section ops
variable {R:Type} {P:Program} {o:Oper} {e:iJ} {h:bh} {nx:Nat} {K:KO R} {r:R}
theorem Le.aggOf {l:List FV} (hc:∀ x∈l,x.isCell=ai):Le (.agg (l.map .f)) (.f (.agg l)):=by
 intro φ O w v hr;cases hr with
 |@agg _ vs hl hcl hrr=>
  refine .f (.agg l vs (by simpa using hl) hc λj y u I hu=>?_);have:=hrr j (.f y) u (by rw[bc,I];rfl) hu;cases this with
  |f h=>exact h
def Qj (S:Ty) (l:List TV):Option (S.den×Nat×List TV):=match l with
 |c::r=>(match iF PT.leaf S c with|some (x,m)=>af (x,m,r)|none=>ah)
 |[]=>ah
theorem Mz:∀ {l I:List FV},l.map AV.f=I.map AV.f->l=I
 |[],[],_=>rfl
 |[],_::_,h=>by simp at h
 |_::_,[],h=>by simp at h
 |x::r,y::r',h=>by
  simp only[gk,iO,AV.f.injEq] at h;rw[h.1,Mz h.2]
theorem Ii (h:bh):∀ (ds:List TypeDesc) (T:Ty),qW ds=af T->∀ (n:Nat) (l:List TV) (x:T.den) (m:Nat) (r:List TV),eX PT.leaf n T l=af (x,m,r)->∀ J,cR h l=af J->∃ l2,cR h r=af l2/\J=(bS T x).map .f++l2
 |[],T,hd,n,l,x,m,r,hp,J,hl=>by
  simp only[qW,ak] at hd;subst hd;cases n with
  |zero=>simp[eX] at hp
  |succ n=>
   simp only[eX,ak,aD] at hp;obtain⟨_,_,rfl⟩:=hp;exact⟨J,hl,rfl⟩
 |d::ds,T,hd,n,l,x,m,r,hp,J,hl=>by
  have plain:∀ (S:Ty),S.one=ai->(∀ t,S≠ .sl t)->∀ (v:TV) (a:S.den) (m:Nat) (y:AV),iF PT.leaf S v=af (a,m)->cr h v=af y->y= .f (gJ S a):=by
   intro S Y hns v a m y I hy;cases v with
   |f Q q=>
    simp only[iF] at I;split at I
    .rename_i z hz;simp only[ak,aD] at I;obtain⟨rfl,_⟩:=I;obtain⟨e,rfl⟩:=jg hz;subst e;simp only[cr,ak] at hy;exact hy.symm
    .cases I
   |emp=>
    cases S with
    |sl t=>exact cV rfl (hns t)
    |_=>simp[iF] at I
   |nil=>
    cases S with
    |sl t=>exact cV rfl (hns t)
    |_=>simp[iF] at I
   |row id=>simp[iF,PT.get] at I
   |fel T xs j hj off=>simp[iF] at I
   |pel id sz j off=>simp[iF] at I
   |ptr id off=>simp[iF] at I
   |csl id off z=>simp[iF] at I
   |mp id=>simp[iF] at I
   |rtl id jj=>simp[iF] at I
   |agg q=>simp[iF] at I
   |tup q=>simp[iF] at I
   |clo f q=>simp[iF] at I
   |undef=>simp[iF] at I
   |np=>simp[iF] at I
   |anyb=>simp[iF] at I
  have one:∀ (S:Ty),S.one=ai->(∀ t,S≠ .sl t)->∀ (n:Nat) (l:List TV) (a:S.den) (m:Nat) (r:List TV),eX PT.leaf n S l=af (a,m,r)->∀ J,cR h l=af J->∃ l2,cR h r=af l2/\J=(bS S a).map .f++l2:=by
   intro S Y hns n l a m r hp J hl;cases n with
   |zero=>simp[eX] at hp
   |succ n=>
    cases l with
    |nil=>
     cases S with
     |int k=>cases hp
     |bool=>cases hp
     |str=>cases hp
     |sl t=>exact cV rfl (hns t)
     |_=>cases Y
    |cons c q=>
     have hpp:Qj S (c::q)=af (a,m,r):=by
      cases S with
      |int k=>simp only[eX] at hp;simp only[Qj];cases hq:iF PT.leaf (.int k) c with
       |none=>rw[hq] at hp;cases hp
       |some z=>rw[hq] at hp;exact hp
      |bool=>simp only[eX] at hp;simp only[Qj];cases hq:iF PT.leaf .bool c with
       |none=>rw[hq] at hp;cases hp
       |some z=>rw[hq] at hp;exact hp
      |str=>simp only[eX] at hp;simp only[Qj];cases hq:iF PT.leaf .str c with
       |none=>rw[hq] at hp;cases hp
       |some z=>rw[hq] at hp;exact hp
      |sl t=>exact cV rfl (hns t)
      |_=>cases Y
     simp only[Qj] at hpp;split at hpp
     .rename_i a1 m1 h1;simp only[ak,aD] at hpp;obtain⟨rfl,rfl,rfl⟩:=hpp;obtain⟨y,l2,rfl,g1,Z⟩:=c5 hl;have:=plain S Y hns c a1 m1 y h1 g1;subst this;exact⟨l2,Z,by rw[(Df S a1 Y).1];rfl⟩
     .cases hpp
  have two:∀ (S U:Ty),S.one=ai->(∀ t,S≠ .sl t)->qW ds=af U->T= .pr S U->∃ l2,cR h r=af l2/\J=(bS T x).map .f++l2:=by
   intro S U Y hns M e;subst e;cases n with
   |zero=>simp[eX] at hp
   |succ n=>
    simp only[eX] at hp;split at hp
    .rename_i x1 m1 r1 h1;split at hp
     .rename_i x2 m2 r2 h2;simp only[ak,aD] at hp;obtain⟨rfl,rfl,rfl⟩:=hp;obtain⟨l2,g1,Z⟩:=one S Y hns n l x1 m1 r1 h1 J hl;obtain⟨l3,g3,g4⟩:=Ii h ds U M n r1 x2 m2 r2 h2 l2 g1;exact⟨l3,g3,by rw[Z,g4,bS,cA,iv]⟩
     .cases hp
    .cases hp
  cases d with
  |int k=>
   simp only[qW] at hd;split at hd
   .rename_i U M;simp only[ak] at hd;exact two (.int k) U rfl (λt h=>by cases h) M hd.symm
   .cases hd
  |bool=>
   simp only[qW] at hd;split at hd
   .rename_i U M;simp only[ak] at hd;exact two .bool U rfl (λt h=>by cases h) M hd.symm
   .cases hd
  |string=>
   simp only[qW] at hd;split at hd
   .rename_i U M;simp only[ak] at hd;exact two .str U rfl (λt h=>by cases h) M hd.symm
   .cases hd
  |_=>simp[qW] at hd
theorem Dd:∀ (ds:List TypeDesc) (T:Ty),qW ds=af T->∀ a b:T.den,oX ds (bS T a) (bS T b)=af (PD T a b)
 |[],T,hd,a,b=>by simp only[qW,ak] at hd;subst hd;rfl
 |d::ds,T,hd,a,b=>by
  cases d with
  |int k=>
   simp only[qW] at hd;split at hd
   .rename_i U M;simp only[ak] at hd;subst hd;have J:=Dd ds U M a.2 b.2;simp only[bS,gm,lK,oX,xI,c6,bG,PD];cases he:((a.1:Int)==b.1) with
    |true=>have I:(a.1:Int)=b.1:=by simpa using he
           simp only[J,I,cI,pw]
    |false=>have I:¬(a.1:Int)=b.1:=by simpa using he
            simp only[I,cz,nl]
   .cases hd
  |bool=>
   simp only[qW] at hd;split at hd
   .rename_i U M;simp only[ak] at hd;subst hd;have J:=Dd ds U M a.2 b.2;simp only[bS,gm,lK,oX,xI,PD];cases he:((a.1:Bool)==b.1)<;>simp[he,J]
   .cases hd
  |string=>
   simp only[qW] at hd;split at hd
   .rename_i U M;simp only[ak] at hd;subst hd;have J:=Dd ds U M a.2 b.2;simp only[bS,gm,lK,oX,xI,PD,DP];cases he:decide ((a.1:List UInt8)=b.1) with
    |true=>simp only[J,pw]
    |false=>simp only[nl]
   .cases hd
  |_=>simp[qW] at hd
theorem Nk {u:TV} (hu:u.isC=aj) {lu:List TV} (hl:u.cs=af lu) {ds:List TypeDesc} {T:Ty} (hd:qW ds=af T) {a:T.den} {m:Nat} (hp:eX PT.leaf 40 T lu=af (a,m,[])) {y:AV} (I:cr h u=af y):Le y (.f (.agg (bS T a))):=by
 obtain⟨h1,_⟩:=Ng hl I;obtain⟨l2,h2,J⟩:=Ii h ds T hd 40 lu a m [] hp _ h1;simp only[cR,ak] at h2;subst h2;rw[iP] at J;cases u with
 |agg l=>
  simp only[cr] at I;split at I
  .rename_i M _;simp only[ak] at I;subst I;have:M=(bS T a).map .f:=J;rw[this];exact Le.aggOf (nR T a)
  .cases I
 |f S x=>
  simp only[cr,ak] at I;subst I;have U:S.one=aj:=hu;rw[Ak] at J;have:bS S x=bS T a:=Mz J;rw[qE S x U,this];exact Le.refl _
 |tup l=>simp[TV.cs,TV.isC] at hl
 |undef=>simp[TV.cs,TV.isC] at hl
 |np=>cases hu
 |anyb=>simp[TV.cs,TV.isC] at hl
 |fel T xs j hj off=>cases hu
 |pel id sz j off=>cases hu
 |ptr id off=>cases hu
 |csl id off z=>cases hu
 |row id=>cases hu
 |emp=>cases hu
 |nil=>cases hu
 |mp id=>cases hu
 |rtl id Y=>cases hl
 |clo g l=>cases hu
variable (hinv:ma h nx) (hi:tM e h)
include hinv hi
theorem ao3 {con:FuncId->Option cf} {bV:TypeId->Option Ty} {neg:Bool} {ds:List TypeDesc} {x y:Operand} {st:Bool} (hc:dk P o.op=af (.eqs neg ds x y)) (hk:dV con bV (.op (.eqs neg ds x y)) e h nx K=af r):kN P o st e h nx K r:=by
 obtain⟨H,hH⟩:=jJ h;simp only[dV] at hk;split at hk
 .rename_i T u v hd hu hv;split at hk
  .cases hk
  .rename_i hcc;simp only[iQ,not_or,Bool.not_eq_true] at hcc;split at hk
   .rename_i lu lv hlu hlv;split at hk
    .rename_i a m1 b m2 hpa hpb;obtain⟨yu,h1,h2⟩:=bM hi hu;obtain⟨yv,h3,h4⟩:=bM hi hv;obtain⟨⟨⟨U,M⟩,hc3⟩,Z⟩:=hcc;have l1:=Nk U hlu hd hpa h2;have l2:=Nk M hlv hd hpb h4;have tmp:∀ (z:Operand) (q:TV),fJ e z=af q->q.isC=aj->Ui z=aj->∃ t,z= .tmp t:=by
      intro z q I hq hg;cases z with
      |tmp t=>exact⟨t,rfl⟩
      |const c=>
       have I:cst c=af q:=by
        simp only[fJ,aip] at I;split at I
        .cases hg
        .exact I
       have:=(J8 h I).2.2;rw[hq] at this;cases this
      |func g=>simp only[fJ,ak] at I;subst I;cases hq
      |global g=>
       simp only[fJ] at I;split at I
       .cases I;cases hq
       .cases I
     obtain⟨t,rfl⟩:=tmp x u hu U hc3;obtain⟨t',rfl⟩:=tmp y v hv M Z;have same:t=t'->bS T a=bS T b:=by
      intro ht;subst ht;rw[hu] at hv;cases hv;rw[hlu] at hlv;cases hlv;rw[hpa] at hpb;cases hpb;rfl
     let J:zR:=((K2 e h).set t (af (.f (.agg (bS T a))))).set t' (af (.f (.agg (bS T b))))
     have e1:mC J (.tmp t)=af (.f (.agg (bS T a))):=by
      simp only[mC,J,PT.get_set];by_cases ht:t=t'
      .rw[aF ht,same ht]
      .rw[ay ht];simp
     have e2:mC J (.tmp t')=af (.f (.agg (bS T b))):=by simp only[mC,J,PT.get_set,bG]
     have ha:eQ (.eqs neg ds (.tmp t) (.tmp t')) J H 0=af ⟨raw (.bool (PD T a b !=neg)),[],[],[],[]⟩:=by
      simp only[eQ,e1,e2,Dd ds T hd a b];rfl
     have ht:=Ik hc ha;rw[hH] at ht;have Y:gL P o (fR e h) (bA h) _:=ht.envLe (e2:=fR e h) λs z _ I=>by
      simp only[J,PT.get_set] at I;rw[<- vu];simp only[mC] at h1 h3;split at I
      .rename_i es;subst es;cases I;exact⟨yv,h3,l2⟩
      .split at I
       .rename_i es;subst es;cases I;exact⟨yu,h1,l1⟩
       .exact⟨z,I,Le.refl _⟩
     refine ⟨_,0,0,h,nx,hk,⟨⟨_,Y,λy hy=>?_,by simp[Cb.eff,tZ],by simp[Cb.eff],by simp[Cb.eff],by simp[Cb.eff]⟩,λ_ _ h=>h,hinv,bW _,λ_=>⟨rfl,rfl⟩⟩⟩;simp only[cr,ak] at hy;exact hy
    .cases hk
   .cases hk
 .cases hk
theorem anr {con:FuncId->Option cf} {bV:TypeId->Option Ty} (hc:dk P o.op=af .mkm) (hk:dV con bV (.op .mkm) e h nx K=af r):kN P o aj e h nx K r:=by
 have _:=hi;obtain⟨H,M⟩:=jJ h;refine ⟨_,_,_,_,_,hk,jm.new hinv hc M (y0:=.mp (nm nx)) (rdl:=[]) (b0:=⟨0,.mp []⟩) rfl (dX.zero h) (λ_ _ he=>by cases he) (λY U d g b' I=>?_) (λY U y d g J=>?_) (by simp)⟩
 .cases I;exact kl.refl d _
 .simp only[cr,ak] at J;subst J;exact lM.refl d _
theorem akp {con:FuncId->Option cf} {bV:TypeId->Option Ty} {x:Operand} (hc:dk P o.op=af (.lenm x)) (hk:dV con bV (.op (.lenm x)) e h nx K=af r):kN P o aj e h nx K r:=by
 obtain⟨H,J⟩:=jJ h;simp only[dV] at hk;split at hk
 .rename_i id hv;split at hk
  .rename_i K' V es hb;obtain⟨y,h1,h2⟩:=bM hi hv;simp only[cr,ak] at h2;subst h2;split at hk
   case isFalse=>cases hk
   rename_i hO;have hg:H.get (nm id)=af ⟨0,.mp (es.map λp=>(pI K' p.1,.f (gJ V p.2)))⟩:=by rw[J,bJ,hb];show af (w_.mk 0 (mpC K' V es))=_;rw[BQ hO]
   exact⟨_,_,_,_,_,hk,jm.pure (k:=0) hinv hc J (y0:=raw (.int .i64 es.length)) (rdl:=[nm id]) (by simp only[eQ,h1,hg,bX]) (λy I=>by simp only[cr,ak] at I;subst I;exact Le.refl _) (λn hn=>by simp only[aL] at hn;subst hn;rw[em];exact b8.2 rfl) (λh=>by cases h)⟩
  .cases hk
 .cases hk
theorem anv {con:FuncId->Option cf} {bV:TypeId->Option Ty} {str:Bool} {z:Value} {x k:Operand} (hc:dk P o.op=af (.lku str z x k)) (hk:dV con bV (.op (.lku str z x k)) e h nx K=af r):kN P o aj e h nx K r:=by
 obtain⟨H,Y⟩:=jJ h;simp only[dV] at hk;split at hk
 .rename_i id KT kv hv U;split at hk
  .rename_i K' V es hb;split at hk
   .rename_i J;obtain⟨y,h1,h2⟩:=bM hi hv;obtain⟨y2,h3,h4⟩:=bM hi U;simp only[cr,ak] at h2 h4;subst h2;subst h4;simp only[av] at J;have hg:H.get (nm id)=af ⟨0,.mp (es.map λp=>(pI K' p.1,.f (gJ V p.2)))⟩:=by rw[Y,bJ,hb];show af (w_.mk 0 (mpC K' V es))=_;rw[BQ J.2]
    obtain⟨_,hok,henc⟩:=N6 J.1 kv kv;rw[henc] at h3;have hrd:∀ n∈[nm id],aN (k_ id) (ow n)=ai:=λn hn=>by simp only[aL] at hn;subst hn;rw[em];exact b8.2 rfl
    split at hk
    .rename_i hE;split at hk
     .rename_i v M;have hzz:=(J8 h M).1;exact⟨_,_,_,_,_,hk,jm.pure (k:=0) hinv hc Y (y0:=raw z) (rdl:=[nm id]) (by simp only[eQ,h1,h3,hg,hok,bG,Ua hE,tw]) (λy I=>by rw[hzz] at I;cases I;exact Le.refl _) hrd (λh=>by cases h)⟩
     .cases hk
    .split at hk
     .rename_i kv' Z zv hkv M;split at hk
      .rename_i zv' hzv;obtain⟨e1,e2⟩:=jg hkv;cases e1;subst e2;obtain⟨e3,e4⟩:=jg hzv;cases e3;subst e4;have hzz:=(J8 h M).1;simp only[cr,ak] at hzz;refine ⟨_,_,_,_,_,hk,jm.pure (k:=0) hinv hc Y (y0:=.f (gJ _ (It kv' es zv'))) (rdl:=[nm id]) ?_ (λy I=>by simp only[cr,ak] at I;subst I;exact Le.refl _) hrd (λh=>by cases h)⟩;simp only[eQ,h1,h3,hg,hok,bG,Qs J.1];unfold It;cases hf:Qt kv' es with
       |none=>simp only[Option.map_none];rw[hzz]
       |some v=>rfl
      .cases hk
     .cases hk
   .cases hk
  .cases hk
 .cases hk
theorem anq {con:FuncId->Option cf} {bV:TypeId->Option Ty} {str:Bool} {x k v:Operand} (hc:dk P o.op=af (.mup str x k v)) (hk:dV con bV (.op (.mup str x k v)) e h nx K=af r):kN P o aj e h nx K r:=by
 obtain⟨H,hH⟩:=jJ h;simp only[dV] at hk;split at hk
 .rename_i id KT U VT vv hv Z Y;split at hk
  .rename_i K' V es hb;split at hk
   .rename_i J;simp only[av] at J;obtain⟨y,h1,h2⟩:=bM hi hv;obtain⟨y2,h3,h4⟩:=bM hi Z;obtain⟨y3,h5,h6⟩:=bM hi Y;simp only[cr,ak] at h2 h4 h6;subst h2;subst h4;subst h6;have hg:H.get (nm id)=af ⟨0,.mp (es.map λp=>(pI K' p.1,.f (gJ V p.2)))⟩:=by rw[hH,bJ,hb];show af (w_.mk 0 (mpC K' V es))=_;rw[BQ J.2]
    obtain⟨_,hok,henc⟩:=N6 J.1.1 U U;rw[henc] at h3;have hrd:∀ n∈[nm id],aN (k_ id) (ow n)=ai:=λn hn=>by simp only[aL] at hn;subst hn;rw[em];exact b8.2 rfl
    split at hk
    .rename_i hE;exact⟨_,_,_,_,_,hk,jm.wrt (k:=0) (m:=0) (v:=.undef) (rd:=k_ id) hinv hc hH (y0:=raw undef) (b0:=⟨0,.mp [(pI KT U,.f (gJ VT vv))]⟩) (rdl:=[nm id]) (by simp only[eQ,h1,h3,h5,hg,hok,bG,Ua hE,yV]) (B:=.mp KT VT [(U,vv)]) hb (dX.zero h) (by simp) rfl (λty' l2 he=>by cases he) (λH1 H2 d g b' I=>by simp only[kM,BQ (WH J.1.1),ak] at I;subst I;exact kl.refl d _) (λH1 H2 y d g M=>by simp only[cr,ak] at M;subst M;exact lM.refl d _) hrd⟩
    .split at hk
     .rename_i kv' vv' hkv hvv;obtain⟨e1,e2⟩:=jg hkv;cases e1;subst e2;obtain⟨e3,e4⟩:=jg hvv;cases e3;subst e4;exact⟨_,_,_,_,_,hk,jm.wrt (k:=0) (m:=0) (v:=.undef) (rd:=k_ id) hinv hc hH (y0:=raw undef) (b0:=⟨0,.mp ((N0 kv' vv' es).map λp=>(pI _ p.1,.f (gJ _ p.2)))⟩) (rdl:=[nm id]) (by simp only[eQ,h1,h3,h5,hg,hok,bG,WF J.1.1]) (B:=.mp _ _ (N0 kv' vv' es)) hb (dX.zero h) (by simp) rfl (λty' l2 he=>by cases he) (λH1 H2 d g b' I=>by simp only[kM,BQ (WH J.1.1),ak] at I;subst I;exact kl.refl d _) (λH1 H2 y d g M=>by simp only[cr,ak] at M;subst M;exact lM.refl d _) hrd⟩
     .cases hk
   .cases hk
  .cases hk
 .cases hk
theorem ann {con:FuncId->Option cf} {bV:TypeId->Option Ty} {x:Operand} (hc:dk P o.op=af (.rng x)) (hk:dV con bV (.op (.rng x)) e h nx K=af r):kN P o aj e h nx K r:=by
 obtain⟨H,M⟩:=jJ h;simp only[dV] at hk;split at hk
 .rename_i s hv;obtain⟨y,h1,h2⟩:=bM hi hv;simp only[cr,ak] at h2;subst h2;refine ⟨_,_,_,_,_,hk,jm.new hinv hc M (y0:=.ptr (nm nx) 0) (rdl:=[]) (b0:=⟨0,.it ⟨kE s⟩ 0⟩) (by simp only[eQ,h1];rfl) (dX.zero h) (λ_ _ he=>by cases he) (λY U d g b' I=>?_) (λY U y d g J=>?_) (by simp)⟩
  .cases I;exact kl.refl d _
  .simp only[cr,ak] at J;subst J;exact lM.refl d _
 .cases hk
theorem ano {con:FuncId->Option cf} {bV:TypeId->Option Ty} {x:Operand} (hc:dk P o.op=af (.nxt x)) (hk:dV con bV (.op (.nxt x)) e h nx K=af r):kN P o aj e h nx K r:=by
 obtain⟨H,M⟩:=jJ h;simp only[dV] at hk;split at hk
 .rename_i id hv;split at hk
  .rename_i K' V es hb;split at hk
   .rename_i s p Z;obtain⟨y,h1,h2⟩:=bM hi hv;simp only[cr,ak] at h2;subst h2;have hg:H.get (nm id)=af ⟨0,.it ⟨kE s⟩ p⟩:=by rw[M,bJ,hb];show af (w_.mk 0 (mpC K' V es))=_;rw[aii Z]
    have hrd:∀ n∈[nm id],aN (k_ id) (ow n)=ai:=λn hn=>by simp only[aL] at hn;subst hn;rw[em];exact b8.2 rfl
    rcases po hk with ⟨hp,hk⟩|⟨hp,hk⟩
    .obtain⟨hj,hk⟩:=eo hk;have hp:=a8 hp;have e2:(⟨kE s⟩:ByteArray).data.toList[p]? =af (List.getD s p 0):=by
      show s[p]? =_;rw[aA,aB hp];rfl
     have e3:gi (List.getD s p 0).toNat 128=ai:=by
      have hj:(aO (List.getD s p 0).toNat:Int)<128:=bt hj;exact bI (Int.ofNat_lt.1 hj)
     exact⟨_,_,_,_,_,hk,jm.wrt (k:=0) (m:=0) (rd:=k_ id) hinv hc M (y0:=.tup [raw (.bool ai),raw (.int .i64 p),raw (.int .i32 (List.getD s p 0).toNat)]) (b0:=⟨0,.it ⟨kE s⟩ (p+1)⟩) (rdl:=[nm id]) (by simp only[eQ,h1,hg,e2,e3,bG]) (B:=.mp itK .un [((s,aO (p+1)),())]) hb (dX.zero h) (by simp) rfl (λty' l2 he=>by cases he) (λY U d g b' I=>by cases I;exact kl.refl d _) (λY U y d g J=>by cases J;exact lM.refl d _) hrd⟩
    .have hp:s.length<=p:=Nat.not_lt.1 λq=>by rw[show gi p s.length=ai from bI q] at hp;cases hp
     have e2:(⟨kE s⟩:ByteArray).data.toList[p]? =ah:=by
      show s[p]? =_;exact bR hp
     exact⟨_,_,_,_,_,hk,jm.wrt (k:=0) (m:=0) (rd:=k_ id) hinv hc M (y0:=.tup [raw (.bool aj)]) (b0:=⟨0,.it ⟨kE s⟩ p⟩) (rdl:=[nm id]) (by simp only[eQ,h1,hg,e2]) (B:=.mp itK .un [((s,aO p),())]) hb (dX.zero h) (by simp) rfl (λty' l2 he=>by cases he) (λY U d g b' I=>by cases I;exact kl.refl d _) (λY U y d g J=>by cases J;exact lM.refl d _) hrd⟩
   .cases hk
  .cases hk
 .cases hk
theorem K_op {con:FuncId->Option cf} {bV:TypeId->Option Ty} {s:Zd} (hc:dk P o.op=af s) (hk:dV con bV (.op s) e h nx K=af r):kN P o s.still e h nx K r:=by
 cases s with
 |mv x=>exact K_mv hinv hi hc hk
 |pick c a b=>exact akk hinv hi hc hk
 |alloc ty z=>exact agd hinv hi hc hk
 |box ty x=>exact ao7 hinv hi hc hk
 |build z parts=>exact agc hinv hi hc hk
 |bsl ty sz len z parts=>exact ao6 hinv hi hc hk
 |load sz ag x=>exact akn hinv hi hc hk
 |store sz x v=>exact ag9 hinv hi hc hk
 |nilc x=>exact akl hinv hi hc hk
 |bin op x y=>exact ao8 hinv hi hc hk
 |eqs neg ds x y=>exact ao3 hinv hi hc hk
 |eqb neg x y=>exact ao4 hinv hi hc hk
 |isnil neg x=>exact agb hinv hi hc hk
 |not x=>exact anp hinv hi hc hk
 |conv k x=>exact aks hinv hi hc hk
 |mksl ty sz bytes z l c=>exact akm hinv hi hc hk
 |slc sz x lo I mx=>exact anm hinv hi hc hk
 |fad off x=>exact ao1 hinv hi hc hk
 |fld off sz ag x=>exact ao0 hinv hi hc hk
 |iad sz x i=>exact anz hinv hi hc hk
 |idx n sz ag x i=>exact anx hinv hi hc hk
 |iada n sz x i=>exact akq hinv hi hc hk
 |ext x i=>exact ao2 hinv hi hc hk
 |len x=>exact anw hinv hi hc hk
 |lens x=>exact ako hinv hi hc hk
 |max x y=>exact anu hinv hi hc hk
 |min x y=>exact ant hinv hi hc hk
 |sidx x i=>exact akj hinv hi hc hk
 |app ty sz bytes s x=>exact ao9 hinv hi hc hk
 |copy sz d x=>exact akr hinv hi hc hk
 |clr sz z x=>exact ao5 hinv hi hc hk
 |mkf f caps=>exact ans hinv hi hc hk
 |mkm=>exact anr hinv hi hc hk
 |rng x=>exact ann hinv hi hc hk
 |nxt x=>exact ano hinv hi hc hk
 |lenm x=>exact akp hinv hi hc hk
 |lku str z x k=>exact anv hinv hi hc hk
 |mup str x k v=>exact anq hinv hi hc hk
 |_=>simp[dV] at hk
end ops
mutual
def AV.ren (g:Nat->Nat):AV->AV
 |.f x=>.f x
 |.ptr id off=>.ptr (g id) off
 |.sl id off n=>.sl (g id) off n
 |.row id sz n=>.row (g id) sz n
 |.mp id=>.mp (g id)
 |.emp=>.emp
 |.anyb=>.anyb
 |.agg l=>.agg (AV.renL g l)
 |.tup l=>.tup (AV.renL g l)
 |.clo q l=>.clo q (AV.renL g l)
def AV.renL (g:Nat->Nat):List AV->List AV
 |[]=>[]
 |x::r=>x.ren g::AV.renL g r
end
theorem ou (g:Nat->Nat):∀ l,AV.renL g l=l.map (AV.ren g)
 |[]=>rfl
 |x::r=>by rw[AV.renL,ou g r];rfl
theorem Cy (g:Nat->Nat) (x:AV):(x.ren g).isCell=x.isCell:=by cases x<;>rfl
theorem cW.renTo {φ φ':PM} {g:Nat->Nat} {O:Nat->Prop} {w:World} (hk:∀ i k,φ i=af k->φ' (g i)=af k) {x:AV} {v:Value} (h:cW φ O w x v):cW φ' O w (x.ren g) v:=by
 induction h with
 |f h=>exact .f h
 |ptr h=>exact .ptr (hk _ _ h)
 |sl h hn hc=>exact .sl (hk _ _ h) hn hc
 |row h hn hc hsh=>exact .row (hk _ _ h) hn hc hsh
 |emp=>exact .emp
 |anyb=>exact .anyb
 |mp h=>exact .mp (hk _ _ h)
 |agg hl hcl hr M=>
  simp only[AV.ren,ou];refine .agg (by simpa using hl) (λx I=>?_) λj x v I hv=>?_
  .obtain⟨y,J,rfl⟩:=c_.1 I;rw[Cy];exact hcl y J
  .rw[bc] at I;obtain⟨y,J,rfl⟩:=jK.1 I;exact M j y v J hv
 |tup hl hr M=>
  simp only[AV.ren,ou];refine .tup (by simpa using hl) λj x v I hv=>?_
  rw[bc] at I;obtain⟨y,J,rfl⟩:=jK.1 I;exact M j y v J hv
 |clo hl hr M=>
  simp only[AV.ren,ou];refine .clo (by simpa using hl) λj x v I hv=>?_
  rw[bc] at I;obtain⟨y,J,rfl⟩:=jK.1 I;exact M j y v J hv
theorem cW.renFrom {φ φ':PM} {g:Nat->Nat} {O:Nat->Prop} {w:World} {p:Nat->Bool} (hk:∀ i k,p i=ai->φ (g i)=af k->φ' i=af k) {z:AV} {v:Value} (h:cW φ O w z v):∀ x:AV,x.all p=ai->z=x.ren g->cW φ' O w x v:=by
 induction h with
 |f h=>intro x hp e;cases x<;>simp only[AV.ren,reduceCtorEq] at e;cases e;exact .f h
 |ptr h=>intro x hp e;cases x<;>simp only[AV.ren,reduceCtorEq] at e;cases e;exact .ptr (hk _ _ hp h)
 |sl h hn hc=>intro x hp e;cases x<;>simp only[AV.ren,reduceCtorEq] at e;cases e;exact .sl (hk _ _ hp h) hn hc
 |row h hn hc hsh=>intro x hp e;cases x<;>simp only[AV.ren,reduceCtorEq] at e;cases e;exact .row (hk _ _ hp h) hn hc hsh
 |emp=>intro x hp e;cases x<;>simp only[AV.ren,reduceCtorEq] at e;exact .emp
 |anyb=>intro x hp e;cases x<;>simp only[AV.ren,reduceCtorEq] at e;exact .anyb
 |mp h=>intro x hp e;cases x<;>simp only[AV.ren,reduceCtorEq] at e;cases e;exact .mp (hk _ _ hp h)
 |agg hl hcl hr J=>
  intro x hp e;cases x<;>simp only[AV.ren,reduceCtorEq] at e;rename_i l;cases e;rw[ou] at hl hcl hr J;refine .agg (by simpa using hl) (λx I=>?_) λj x v I hv=>?_
  .have:=hcl (x.ren g) (c_.2 ⟨x,I,rfl⟩);rwa [Cy] at this
  .exact J j (x.ren g) v (by rw[bc,I];rfl) hv x (l8 hp x (ba I)) rfl
 |tup hl hr J=>
  intro x hp e;cases x<;>simp only[AV.ren,reduceCtorEq] at e;rename_i l;cases e;rw[ou] at hl hr J;refine .tup (by simpa using hl) λj x v I hv=>?_
  exact J j (x.ren g) v (by rw[bc,I];rfl) hv x (l8 hp x (ba I)) rfl
 |clo hl hr J=>
  intro x hp e;cases x<;>simp only[AV.ren,reduceCtorEq] at e;rename_i l;cases e;rw[ou] at hl hr J;refine .clo (by simpa using hl) λj x v I hv=>?_
  exact J j (x.ren g) v (by rw[bc,I];rfl) hv x (l8 hp x (ba I)) rfl
def BC.ren (g:Nat->Nat):BC->BC
 |.fz l=>.fz l
 |.mx l=>.mx (l.map (AV.ren g))
 |.mp es=>.mp (es.map λp=>(p.1,p.2.ren g))
 |.it s p=>.it s p
def w_.ren (g:Nat->Nat) (b:w_):w_:=⟨b.ty,b.c.ren g⟩
theorem jt.renTo {φ φ':PM} {g:Nat->Nat} {O O':Nat->Prop} {w:World} (hk:∀ x v,cW φ O w x v->cW φ' O' w (x.ren g) v) {b:w_} {o:Obj} (h:jt φ O w b o):jt φ' O' w (b.ren g) o:=by
 obtain⟨ty,c⟩:=b;unfold jt at h ⊢;simp only[w_.ren];cases c with
 |fz l=>
  simp only[BC.ren];obtain⟨arr,h1,h2,J⟩:=h;refine ⟨arr,h1,h2,λj x I=>?_⟩;obtain⟨a,v,c,d⟩:=J j x I;simp only[BC.get] at I;obtain⟨q,_,rfl⟩:=jK.1 I;exact⟨a,v,c,hk _ _ d⟩
 |mx l=>
  simp only[BC.ren];obtain⟨arr,h1,h2,J⟩:=h;refine ⟨arr,h1,by simpa[BC.len] using h2,λj x I=>?_⟩;simp only[BC.get,bc] at I;obtain⟨q,hq,rfl⟩:=jK.1 I;obtain⟨a,v,c,d⟩:=J j q hq;exact⟨by rw[Cy];exact a,v,c,hk _ _ d⟩
 |mp es=>
  simp only[BC.ren];obtain⟨e,c,h1,h2,J⟩:=h;refine ⟨e,c,h1,by rw[h2,zX];rfl,λj x I=>?_⟩;rw[bc] at I;obtain⟨q,hq,rfl⟩:=jK.1 I;obtain⟨m,a,b⟩:=J j q hq;exact⟨m,a,hk _ _ b⟩
 |it s p=>exact h
theorem jt.renFrom {φ φ':PM} {g:Nat->Nat} {O O':Nat->Prop} {w:World} {p:Nat->Bool} (hk:∀ x v,x.all p=ai->cW φ O w (x.ren g) v->cW φ' O' w x v) {b:w_} (hb:b.c.all p=ai) {o:Obj} (h:jt φ O w (b.ren g) o):jt φ' O' w b o:=by
 obtain⟨ty,c⟩:=b;unfold jt at h ⊢;simp only[w_.ren] at h;cases c with
 |fz l=>
  simp only[BC.ren] at h;obtain⟨arr,h1,h2,J⟩:=h;refine ⟨arr,h1,h2,λj x I=>?_⟩;obtain⟨a,v,c,d⟩:=J j x I;simp only[BC.get] at I;obtain⟨q,_,rfl⟩:=jK.1 I;exact⟨a,v,c,hk _ _ rfl d⟩
 |mx l=>
  simp only[BC.ren] at h;obtain⟨arr,h1,h2,J⟩:=h;refine ⟨arr,h1,by simpa[BC.len] using h2,λj x I=>?_⟩;simp only[BC.get] at I;obtain⟨a,v,c,d⟩:=J j (x.ren g) (by simp only[BC.get,bc,I];rfl);rw[Cy] at a;exact⟨a,v,c,hk _ _ (l8 hb x (ba I)) d⟩
 |mp es=>
  simp only[BC.ren] at h;obtain⟨e,c,h1,h2,J⟩:=h;refine ⟨e,c,h1,by rw[h2,zX];rfl,λj x I=>?_⟩;obtain⟨m,a,b⟩:=J j (x.1,x.2.ren g) (by rw[bc,I];rfl);exact⟨m,a,hk _ _ (l8 hb x.2 (c_.2 ⟨x,ba I,rfl⟩)) b⟩
 |it s p=>exact h
mutual
def CA (g:Nat->Nat):TV->TV
 |.row i=>.row (g i)
 |.rtl i j=>.rtl (g i) j
 |.agg l=>.agg (ky g l)
 |.tup l=>.tup (ky g l)
 |.clo q l=>.clo q (ky g l)
 |.f T v=>.f T v
 |.fel T xs j h off=>.fel T xs j h off
 |.pel a b c d=>.pel (g a) b c d
 |.ptr a b=>.ptr (g a) b
 |.csl a b c=>.csl (g a) b c
 |.emp=>.emp
 |.nil=>.nil
 |.mp i=>.mp (g i)
 |.undef=>.undef
 |.np=>.np
 |.anyb=>.anyb
def ky (g:Nat->Nat):List TV->List TV
 |[]=>[]
 |x::r=>CA g x::ky g r
end
theorem z_ (g:Nat->Nat):∀ l,ky g l=l.map (CA g)
 |[]=>rfl
 |x::r=>by rw[ky,z_ g r];rfl
def lO (g:Nat->Nat):io->io
 |.cells ty l=>.cells ty (ky g l)
 |.rows ty p T xs=>.rows ty p T xs
 |.dead p sz n=>.dead p sz n
 |.mp K V es=>.mp K V es
theorem H_ (g:Nat->Nat) (b:io):mF (lO g b)=mF b:=by cases b<;>rfl
def HJ (g:Nat->Nat) (n:Nat):Nat:=nm (g (ow n))
theorem xF (g:Nat->Nat) (i:Nat):HJ g (nm i)=nm (g i):=by unfold HJ;rw[em]
mutual
theorem ain {g:Nat->Nat} {h1 h2:bh} (hrow:∀ i r,eC h1 i=af r->eC h2 (g i)=af r):∀ (v:TV) (y:AV),cr h1 v=af y->cr h2 (CA g v)=af (y.ren (HJ g))
 |.f _ _,y,he=>by simp only[cr,ak] at he;subst he;rfl
 |.fel _ _ _ _ _,y,he=>by simp only[cr,ak] at he;subst he;rfl
 |.pel _ _ _ _,y,he=>by simp only[cr,ak] at he;subst he;simp only[CA,cr,AV.ren,xF]
 |.ptr _ _,y,he=>by simp only[cr,ak] at he;subst he;simp only[CA,cr,AV.ren,xF]
 |.csl _ _ _,y,he=>by simp only[cr,ak] at he;subst he;simp only[CA,cr,AV.ren,xF]
 |.row id,y,he=>by
  simp only[cr] at he;split at he
  .rename_i p sz n hr;simp only[ak] at he;subst he;simp only[CA,cr,hrow id _ hr];unfold fx;split
   .rfl
   .simp only[AV.ren,xF]
  .cases he
 |.rtl id jj,y,he=>by
  simp only[cr] at he;split at he
  .rename_i p sz n hr;simp only[ak] at he;subst he;simp only[CA,cr,hrow id _ hr,AV.ren,xF]
  .cases he
 |.emp,y,he=>by simp only[cr,ak] at he;subst he;rfl
 |.nil,y,he=>by simp only[cr,ak] at he;subst he;rfl
 |.mp _,y,he=>by simp only[cr,ak] at he;subst he;simp only[CA,cr,AV.ren,xF]
 |.agg l,y,he=>by
  simp only[cr] at he;split at he
  .rename_i l' hl;simp only[ak] at he;subst he;simp only[CA,cr,qD hrow l l' hl,AV.ren]
  .cases he
 |.tup l,y,he=>by
  simp only[cr] at he;split at he
  .rename_i l' hl;simp only[ak] at he;subst he;simp only[CA,cr,qD hrow l l' hl,AV.ren]
  .cases he
 |.clo q l,y,he=>by
  simp only[cr] at he;split at he
  .rename_i l' hl;simp only[ak] at he;subst he;simp only[CA,cr,qD hrow l l' hl,AV.ren]
  .cases he
 |.undef,y,he=>by simp only[cr,ak] at he;subst he;rfl
 |.np,y,he=>by simp only[cr,ak] at he;subst he;rfl
 |.anyb,y,he=>by simp only[cr,ak] at he;subst he;rfl
theorem qD {g:Nat->Nat} {h1 h2:bh} (hrow:∀ i r,eC h1 i=af r->eC h2 (g i)=af r):∀ (l:List TV) (l':List AV),cR h1 l=af l'->cR h2 (ky g l)=af (AV.renL (HJ g) l')
 |[],l',he=>by simp only[cR,ak] at he;subst he;rfl
 |x::r,l',he=>by
  obtain⟨y,l2,rfl,e1,e2⟩:=c5 he;exact oW (ain hrow x y e1) (qD hrow r l2 e2)
end
theorem Dc {g:Nat->Nat} {h1 h2:bh} (hrow:∀ i r,eC h1 i=af r->eC h2 (g i)=af r) {b:io} {y:w_} (he:kM h1 b=af y):kM h2 (lO g b)=af (y.ren (HJ g)):=by
 cases b with
 |rows ty p T xs=>
  simp only[kM] at he;split at he
  .cases he
  .rename_i hc;simp only[ak] at he;subst he;simp only[lO,kM,ay hc];rfl
 |cells ty l=>
  simp only[kM] at he;split at he
  .rename_i I hl;simp only[ak] at he;subst he;simp only[lO,kM,qD hrow l I hl,ou];rfl
  .cases he
 |dead p sz n=>cases he
 |mp K V es=>
  simp only[kM,ak] at he;subst he;simp only[lO,kM,w_.ren,ak,w_.mk.injEq,Bu];unfold mpC;split
  .rfl
  .simp only[BC.ren,zX];rfl
theorem Cz (g:Nat->Nat) (a b:List TV):ky g (a++b)=ky g a++ky g b:=by
 rw[z_,z_,z_,cA]
theorem pK (g:Nat->Nat):∀ (n:Nat) (T:Ty) (v:T.den) (l:List TV),cellsOf n T v=af l->ky g l=l
 |0,_,_,_,he=>by simp[cellsOf] at he
 |n+1,.st t,v,l,he=>pK g n t v l he
 |n+1,.pr a b,v,l,he=>by
  simp only[cellsOf] at he;split at he
  .rename_i x y J I;simp only[ak] at he;subst he;rw[Cz,pK g n a v.1 x J,pK g n b v.2 y I]
  .cases he
 |n+1,.un,v,l,he=>by simp only[cellsOf,ak] at he;subst he;rfl
 |n+1,.ex,v,l,he=>pK g n MO (Nz v) l he
 |n+1,.sm,v,l,he=>pK g n Mo (Ny v) l he
 |n+1,.int k,v,l,he=>by simp only[cellsOf,ak] at he;subst he;rfl
 |n+1,.bool,v,l,he=>by simp only[cellsOf,ak] at he;subst he;rfl
 |n+1,.str,v,l,he=>by simp only[cellsOf,ak] at he;subst he;rfl
 |n+1,.sl t,v,l,he=>by simp only[cellsOf,ak] at he;subst he;rfl
abbrev HC:Nat->Nat:=λi=>i
mutual
theorem aa0 (g:Nat->Nat):∀ (p:PV) (x:p.ty.den),pP g p x=(pP HC p x).map (ky g)
 |.d T,x=>by
  simp only[pP];cases h:cellsOf 40 T x with
  |none=>rfl
  |some l=>simp only[cg,pK g 40 T x l h]
 |.ptr i o,x=>rfl
 |.csl i o z,x=>rfl
 |.clo q i o,x=>rfl
 |.row i,x=>rfl
 |.mp i,x=>rfl
 |.nil,x=>rfl
 |.emp,x=>rfl
 |.agg ps,x=>Aa g ps x
theorem Aa (g:Nat->Nat):∀ (ps:List PV) (x:(PV.tyL ps).den),qV g ps x=(qV HC ps x).map (ky g)
 |[],x=>rfl
 |p::r,x=>by
  simp only[qV];rw[aa0 g p,Aa g r];cases pP HC p (Oz p.ty (PV.tyL r) x) with
  |none=>rfl
  |some a=>
   cases qV HC r (K6 p.ty (PV.tyL r) x) with
   |none=>rfl
   |some b=>simp only[cg,Cz]
end
def aj2 (o:Option (List TV)):Option TV:=match o with|some l=>af (.agg l)|none=>ah
theorem ac7 (g:Nat->Nat) (o:Option (List TV)):aj2 (o.map (ky g))=(aj2 o).map (CA g):=by cases o<;>rfl
theorem Z_ (g:Nat->Nat) (p:PV) (x:p.ty.den):tj g p x=(tj HC p x).map (CA g):=by
 cases p with
 |agg ps=>exact (gI aj2 (Aa g ps x)).trans (ac7 g _)
 |_=>rfl
theorem tO (g:Nat->Nat):∀ (ps:List PV) (x:(PV.tyL ps).den),pY g ps x=(pY HC ps x).map (ky g)
 |[],x=>rfl
 |p::r,x=>by
  simp only[pY];rw[Z_ g p,tO g r];cases tj HC p (Oz p.ty (PV.tyL r) x) with
  |none=>rfl
  |some a=>
   cases pY HC r (K6 p.ty (PV.tyL r) x) with
   |none=>rfl
   |some b=>rfl
def VF (ty:TypeId) (o:Option (List TV)):Option (Option io):=match o with|some l=>af (af (.cells ty l))|none=>ah
theorem VD (g:Nat->Nat) (ty:TypeId) (o:Option (List TV)):VF ty (o.map (ky g))=(VF ty o).map (lJ (lO g)):=by cases o<;>rfl
theorem aa1 (g:Nat->Nat) (b:PB) (x:b.ty.den):CF g b x=(CF HC b x).map (lJ (lO g)):=by
 cases b with
 |cells ty ps=>exact (gI (VF ty) (Aa g ps x)).trans (VD g ty _)
 |_=>rfl
theorem wa (g:Nat->Nat):∀ (bs:List PB) (x:(PB.tyL bs).den),ov g bs x=(ov HC bs x).map (List.map (lJ (lO g)))
 |[],x=>rfl
 |b::r,x=>by
  simp only[ov];rw[aa1 g b,wa g r];cases CF HC b (Oz b.ty (PB.tyL r) x) with
  |none=>rfl
  |some a=>
   cases ov HC r (K6 b.ty (PB.tyL r) x) with
   |none=>rfl
   |some l=>rfl
theorem CE (g:Nat->Nat):∀ (bs:List PB) (x:(PB.tyL bs).den) (l:List (Option io)),ov g bs x=af l->l.length=bs.length
 |[],x,l,h=>by simp only[ov,ak] at h;subst h;rfl
 |b::r,x,l,h=>by
  simp only[ov] at h;split at h
  .split at h
   .rename_i q hq;simp only[ak] at h;subst h;simp[CE g r _ q hq]
   .cases h
  .cases h
theorem Jb (h:bh) (i j:Nat):(kill h i).get j=if j=i then (h.get i).map vk else h.get j:=by
 unfold kill;cases hb:h.get i with
 |none=>
  simp only[Option.map_none];split
  .rename_i e;rw[e,hb]
  .rfl
 |some b=>rw[PT.get_set];rfl
theorem vi (g:Nat->Nat):∀ (l:List (Option io)) (i:Nat) (h:bh) (j:Nat),(∀ k,k<l.length->j≠g (i+k))->(Av g i l h).get j=h.get j
 |[],i,h,j,_=>rfl
 |some c::r,i,h,j,hj=>by
  rw[Av,vi g r (i+1) _ j (λk hk=>by have:=hj (k+1) (by simpa using hk);rwa [show i+1+k=i+(k+1) from by omega]),PT.get_set,ay];exact hj 0 (by simp)
 |none::r,i,h,j,hj=>by
  rw[Av,vi g r (i+1) _ j (λk hk=>by have:=hj (k+1) (by simpa using hk);rwa [show i+1+k=i+(k+1) from by omega]),Jb,ay];exact hj 0 (by simp)
theorem vj (g:Nat->Nat):∀ (l:List (Option io)) (i:Nat) (h:bh),(∀ a b,a<l.length->b<l.length->g (i+a)=g (i+b)->a=b)->∀ (k:Nat) (c:Option io),l[k]? =af c->(Av g i l h).get (g (i+k))=(match c with|some b=>af b|none=>(h.get (g (i+k))).map vk)
 |[],i,h,_,k,c,hk=>by simp at hk
 |o::r,i,h,hinj,k,c,hk=>by
  have hinj':∀ a b,a<r.length->b<r.length->g (i+1+a)=g (i+1+b)->a=b:=λa b J hb e=>by
   have:=hinj (a+1) (b+1) (by simpa using J) (by simpa using hb) (by rw[show i+(a+1)=i+1+a from by omega,show i+(b+1)=i+1+b from by omega];exact e);omega
  cases k with
  |zero=>
   simp at hk;subst hk;have hne:∀ k,k<r.length->g (i+0)≠g (i+1+k):=λk hk e=>by
    have:=hinj 0 (k+1) (by simp) (by simpa using hk) (by rw[show i+(k+1)=i+1+k from by omega];exact e);omega
   cases o with
   |some b=>rw[Av,vi g r (i+1) _ _ hne];simp only[dl];rw[PT.get_set,aF rfl]
   |none=>rw[Av,vi g r (i+1) _ _ hne];simp only[dl];rw[Jb,aF rfl]
  |succ k=>
   have I:r[k]? =af c:=by simpa using hk
   have hkl:k<r.length:=(bl.1 I).1;have hne:g (i+(k+1))≠g i:=λe=>by
    have:=hinj (k+1) 0 (by simpa using hkl) (by simp) (by rw[e];rfl);omega
   rw[show i+(k+1)=i+1+k from by omega] at hne ⊢;cases o with
   |some b=>
    rw[Av,vj g r (i+1) _ hinj' k c I];cases c with
    |some _=>rfl
    |none=>simp only[PT.get_set,ay hne]
   |none=>
    rw[Av,vj g r (i+1) _ hinj' k c I];cases c with
    |some _=>rfl
    |none=>simp only[Jb,ay hne]
def xT (h' h:bh):Prop:=∀ i r,eC h' i=af r->eC h i=af r
section get
variable {h h':bh} {H H':HF} {g:Nat->Nat}
theorem lM.agg {l I:List AV} (hl:ia H H' l I) (hc:∀ x∈I,x.isCell=ai):lM H H' (.agg l) (.agg I):=by
 intro φ E w v hrep hr;cases hr with
 |@agg _ vs hlen hcl hrr=>
  refine .agg (by rw[hlen,<-hl.length]) hc λj y u J hu=>?_
  obtain⟨x,M,hle⟩:=hl.get j y J;exact hle φ E w u hrep (hrr j x u M hu)
theorem P' (hr:xT h' h) {i:Nat} {y M:AV} (J:cr h (.row i)=af y) (I:cr h' (.row i)=af M):M=y:=by
 simp only[cr] at J I;cases h1:eC h' i with
 |none=>rw[h1] at I;cases I
 |some r=>
  rw[h1] at I;rw[hr i r h1] at J;rw[J] at I;cases I;rfl
mutual
theorem aep (d:vC H H') (hr:xT h' h):∀ (p:PV) (l:List TV) (x:p.ty.den) (m:Nat) (r:List TV) (cs:List TV) (l' cs':List AV),pm g h p l=af (x,m,r)->pP g p x=af cs->cR h l=af l'->cR h' cs=af cs'->D9 h H H' m->∃ l1 l2,l'=l1++l2/\cR h r=af l2/\ia H H' l1 cs'
 |.d T,l,x,m,r,cs,l',cs',hg,hp,hl,hc,gv=>by
  obtain⟨l1,l2,e1,e2,e3⟩:=rZ d 40 T l x m r l' hg hl gv;have:=(lH h' 40 T x cs hp).1;rw[hc] at this;cases this;exact⟨l1,l2,e1,e2,e3⟩
 |.ptr i q,l,x,m,r,cs,l',cs',hg,hp,hl,hc,gv=>by
  simp only[pm] at hg;split at hg
  .rename_i i' o' r';split at hg
   .rename_i hb;simp only[av] at hb;have e1:=aw hb.1;have e2:=aw hb.2;subst e1;subst e2;simp only[ak,aD] at hg;obtain⟨_,_,rfl⟩:=hg;simp only[pP,ak] at hp;subst hp;obtain⟨y,l2,rfl,g1,g2⟩:=c5 hl;simp only[cr,ak] at g1;subst g1;simp only[cR,cr,ak] at hc;subst hc;exact⟨[_],l2,rfl,g2,lM.refl d _,trivial⟩
   .cases hg
  .cases hg
 |.csl i q z,l,x,m,r,cs,l',cs',hg,hp,hl,hc,gv=>by
  simp only[pm] at hg;split at hg
  .rename_i i' o' z' r';split at hg
   .rename_i hb;simp only[av] at hb;have e1:=aw hb.1.1;have e2:=aw hb.1.2;have e3:=aw hb.2;subst e1;subst e2;subst e3;simp only[ak,aD] at hg;obtain⟨_,_,rfl⟩:=hg;simp only[pP,ak] at hp;subst hp;obtain⟨y,l2,rfl,g1,g2⟩:=c5 hl;simp only[cr,ak] at g1;subst g1;simp only[cR,cr,ak] at hc;subst hc;exact⟨[_],l2,rfl,g2,lM.refl d _,trivial⟩
   .cases hg
  .cases hg
 |.clo q i z,l,x,m,r,cs,l',cs',hg,hp,hl,hc,gv=>by
  simp only[pm] at hg;split at hg
  .rename_i q' i' z' r';split at hg
   .rename_i hb;simp only[av] at hb;have e1:=aw hb.1.1;have e2:=aw hb.1.2;have e3:=aw hb.2;subst e1;subst e2;subst e3;simp only[ak,aD] at hg;obtain⟨_,_,rfl⟩:=hg;simp only[pP,ak] at hp;subst hp;obtain⟨y,l2,rfl,g1,g2⟩:=c5 hl;simp only[cr,cR,ak] at g1;subst g1;simp only[cR,cr,ak] at hc;subst hc;exact⟨[_],l2,rfl,g2,lM.refl d _,trivial⟩
   .cases hg
  .cases hg
 |.row i,l,x,m,r,cs,l',cs',hg,hp,hl,hc,gv=>by
  simp only[pm] at hg;split at hg
  .rename_i i' r';split at hg
   .rename_i hb;have e1:=aw hb;subst e1;simp only[ak,aD] at hg;obtain⟨_,_,rfl⟩:=hg;simp only[pP,ak] at hp;subst hp;obtain⟨y,l2,rfl,g1,g2⟩:=c5 hl;obtain⟨y',l3,rfl,g3,g4⟩:=c5 hc;simp only[cR,ak] at g4;subst g4;rw[P' hr g1 g3];exact⟨[_],l2,rfl,g2,lM.refl d _,trivial⟩
   .cases hg
  .cases hg
 |.mp i,l,x,m,r,cs,l',cs',hg,hp,hl,hc,gv=>by
  simp only[pm] at hg;split at hg
  .rename_i i' r';split at hg
   .rename_i hb;have e1:=aw hb;subst e1;simp only[ak,aD] at hg;obtain⟨_,_,rfl⟩:=hg;simp only[pP,ak] at hp;subst hp;obtain⟨y,l2,rfl,g1,g2⟩:=c5 hl;simp only[cr,ak] at g1;subst g1;simp only[cR,cr,ak] at hc;subst hc;exact⟨[_],l2,rfl,g2,lM.refl d _,trivial⟩
   .cases hg
  .cases hg
 |.nil,l,x,m,r,cs,l',cs',hg,hp,hl,hc,gv=>by
  simp only[pm] at hg;split at hg
  .simp only[ak,aD] at hg;obtain⟨_,_,rfl⟩:=hg;simp only[pP,ak] at hp;subst hp;obtain⟨y,l2,rfl,g1,g2⟩:=c5 hl;simp only[cr,ak] at g1;subst g1;simp only[cR,cr,ak] at hc;subst hc;exact⟨[_],l2,rfl,g2,lM.refl d _,trivial⟩
  .cases hg
 |.emp,l,x,m,r,cs,l',cs',hg,hp,hl,hc,gv=>by
  simp only[pm] at hg;split at hg
  .simp only[ak,aD] at hg;obtain⟨_,_,rfl⟩:=hg;simp only[pP,ak] at hp;subst hp;obtain⟨y,l2,rfl,g1,g2⟩:=c5 hl;simp only[cr,ak] at g1;subst g1;simp only[cR,cr,ak] at hc;subst hc;exact⟨[_],l2,rfl,g2,Le.nilEmp.toH d,trivial⟩
  .simp only[ak,aD] at hg;obtain⟨_,_,rfl⟩:=hg;simp only[pP,ak] at hp;subst hp;obtain⟨y,l2,rfl,g1,g2⟩:=c5 hl;simp only[cr,ak] at g1;subst g1;simp only[cR,cr,ak] at hc;subst hc;exact⟨[_],l2,rfl,g2,lM.refl d _,trivial⟩
  .cases hg
 |.agg ps,l,x,m,r,cs,l',cs',hg,hp,hl,hc,gv=>C_ d hr ps l x m r cs l' cs' hg hp hl hc gv
theorem C_ (d:vC H H') (hr:xT h' h):∀ (ps:List PV) (l:List TV) (x:(PV.tyL ps).den) (m:Nat) (r:List TV) (cs:List TV) (l' cs':List AV),zh g h ps l=af (x,m,r)->qV g ps x=af cs->cR h l=af l'->cR h' cs=af cs'->D9 h H H' m->∃ l1 l2,l'=l1++l2/\cR h r=af l2/\ia H H' l1 cs'
 |[],l,x,m,r,cs,l',cs',hg,hp,hl,hc,gv=>by
  simp only[zh,ak,aD] at hg;obtain⟨_,_,rfl⟩:=hg;simp only[qV,ak] at hp;subst hp;simp only[cR,ak] at hc;subst hc;exact⟨[],l',rfl,hl,trivial⟩
 |p::ps,l,x,m,r,cs,l',cs',hg,hp,hl,hc,gv=>by
  simp only[zh] at hg;split at hg
  .rename_i x1 m1 r1 h1;split at hg
   .rename_i x2 m2 r2 h2;simp only[ak,aD] at hg;obtain⟨rfl,rfl,rfl⟩:=hg;simp only[qV,tH,ve] at hp;split at hp
    .rename_i a ha;split at hp
     .rename_i b hb;simp only[ak] at hp;subst hp;obtain⟨a',b',rfl,ea,eb⟩:=B3 hc;obtain⟨ga,gb⟩:=gv.or;obtain⟨l1,l2,rfl,q1,q2⟩:=aep d hr p l _ _ _ a l' a' h1 ha hl ea ga;obtain⟨l3,l4,rfl,q3,q4⟩:=C_ d hr ps _ _ _ _ b l2 b' h2 hb q1 eb gb;exact⟨l1++l3,l4,by simp,q3,q2.append q4⟩
     .cases hp
    .cases hp
   .cases hg
  .cases hg
end
mutual
theorem XO:∀ (p:PV) (x:p.ty.den) (cs:List TV),pP g p x=af cs->ku cs=ai
 |.d T,x,cs,hp=>(lH PT.leaf 40 T x cs hp).2
 |.ptr i q,x,cs,hp=>by simp only[pP,ak] at hp;subst hp;rfl
 |.csl i q z,x,cs,hp=>by simp only[pP,ak] at hp;subst hp;rfl
 |.clo q i z,x,cs,hp=>by simp only[pP,ak] at hp;subst hp;rfl
 |.row i,x,cs,hp=>by simp only[pP,ak] at hp;subst hp;rfl
 |.mp i,x,cs,hp=>by simp only[pP,ak] at hp;subst hp;rfl
 |.nil,x,cs,hp=>by simp only[pP,ak] at hp;subst hp;rfl
 |.emp,x,cs,hp=>by simp only[pP,ak] at hp;subst hp;rfl
 |.agg ps,x,cs,hp=>xj ps x cs hp
theorem xj:∀ (ps:List PV) (x:(PV.tyL ps).den) (cs:List TV),qV g ps x=af cs->ku cs=ai
 |[],x,cs,hp=>by simp only[qV,ak] at hp;subst hp;rfl
 |p::ps,x,cs,hp=>by
  simp only[qV] at hp;split at hp
  .rename_i a ha;split at hp
   .rename_i b hb;simp only[ak] at hp;subst hp;exact Sz (XO p _ a ha) (xj ps _ b hb)
   .cases hp
  .cases hp
end
theorem aeo (d:vC H H') (hr:xT h' h) {p:PV} {v:TV} {x:p.ty.den} {m:Nat} {u:TV} {y M:AV} (hg:xD g h p v=af (x,m)) (hp:tj g p x=af u) (J:cr h v=af y) (I:cr h' u=af M) (Z:D9 h H H' m):lM H H' y M:=by
 cases p with
 |d T=>
  simp only[tj,ak] at hp;subst hp;simp only[cr,ak] at I;subst I;exact (Pj d hg J Z).1
 |agg ps=>
  simp only[xD] at hg;split at hg
  .cases hg
  .rename_i hc;split at hg
   .rename_i l hl;split at hg
    .rename_i x1 m1 h1;simp only[ak,aD] at hg;obtain⟨rfl,rfl⟩:=hg;simp only[tj] at hp;split at hp
     .rename_i cs hcs;simp only[ak] at hp;subst hp;simp only[cr] at I;split at I
      .rename_i cs' hcs';simp only[ak] at I;subst I;obtain⟨e1,e2⟩:=Ng hl J;obtain⟨l1,l2,Y,U,q3⟩:=C_ d hr ps l _ _ [] cs y.cs cs' h1 hcs e1 hcs' Z;simp only[cR,ak] at U;subst U;rw[iP] at Y;subst Y;have hcell:∀ x∈cs',x.isCell=ai:=lI (tJ hcs' (xj ps _ cs hcs));cases v with
       |agg q=>
        simp only[cr] at J;split at J
        .simp only[ak] at J;subst J;exact lM.agg q3 hcell
        .cases J
       |f S z=>
        simp only[cr,ak] at J;subst J;have ho:S.one=aj:=by simpa[TV.isC] using hc
        rw[Ak] at q3;rw[qE S z ho];intro φ E w v hrep hrel;exact lM.agg q3 hcell φ E w v hrep (Le.aggF _ _ _ _ hrel)
       |tup q=>simp[TV.cs,TV.isC] at hl
       |undef=>simp[TV.cs,TV.isC] at hl
       |np=>simp[TV.isC] at hc
       |anyb=>simp[TV.cs,TV.isC] at hl
       |fel T xs j hj off=>simp[TV.isC] at hc
       |pel id sz j off=>simp[TV.isC] at hc
       |ptr id off=>simp[TV.isC] at hc
       |csl id off z=>simp[TV.isC] at hc
       |row id=>simp[TV.isC] at hc
       |emp=>simp[TV.isC] at hc
       |nil=>simp[TV.isC] at hc
       |mp id=>simp[TV.isC] at hc
       |rtl id jj=>cases hl
       |clo g l=>simp[TV.isC] at hc
      .cases I
     .cases hp
    .cases hg
   .cases hg
 |ptr i q=>
  simp only[tj,ak] at hp;subst hp;simp only[xD] at hg;split at hg
  .rename_i h1;simp only[pm] at h1;split at h1
   .rename_i e;simp only[iO] at e;obtain⟨rfl,_⟩:=e;split at h1
    .rename_i hb;simp only[av] at hb;have e1:=aw hb.1;have e2:=aw hb.2;subst e1;subst e2;simp only[cr,ak] at J I;subst J;subst I;exact lM.refl d _
    .cases h1
   .cases h1
  .cases hg
 |csl i q z=>
  simp only[tj,ak] at hp;subst hp;simp only[xD] at hg;split at hg
  .rename_i h1;simp only[pm] at h1;split at h1
   .rename_i e;simp only[iO] at e;obtain⟨rfl,_⟩:=e;split at h1
    .rename_i hb;simp only[av] at hb;have e1:=aw hb.1.1;have e2:=aw hb.1.2;have e3:=aw hb.2;subst e1;subst e2;subst e3;simp only[cr,ak] at J I;subst J;subst I;exact lM.refl d _
    .cases h1
   .cases h1
  .cases hg
 |clo q i z=>
  simp only[tj,ak] at hp;subst hp;simp only[xD] at hg;split at hg
  .rename_i h1;simp only[pm] at h1;split at h1
   .rename_i e;simp only[iO] at e;obtain⟨rfl,_⟩:=e;split at h1
    .rename_i hb;simp only[av] at hb;have e1:=aw hb.1.1;have e2:=aw hb.1.2;have e3:=aw hb.2;subst e1;subst e2;subst e3;simp only[cr,cR,ak] at J I;subst J;subst I;exact lM.refl d _
    .cases h1
   .cases h1
  .cases hg
 |row i=>
  simp only[tj,ak] at hp;subst hp;simp only[xD] at hg;split at hg
  .rename_i h1;simp only[pm] at h1;split at h1
   .rename_i e;simp only[iO] at e;obtain⟨rfl,_⟩:=e;split at h1
    .rename_i hb;have e1:=aw hb;subst e1;rw[P' hr J I];exact lM.refl d _
    .cases h1
   .cases h1
  .cases hg
 |mp i=>
  simp only[tj,ak] at hp;subst hp;simp only[xD] at hg;split at hg
  .rename_i h1;simp only[pm] at h1;split at h1
   .rename_i e;simp only[iO] at e;obtain⟨rfl,_⟩:=e;split at h1
    .rename_i hb;have e1:=aw hb;subst e1;simp only[cr,ak] at J I;subst J;subst I;exact lM.refl d _
    .cases h1
   .cases h1
  .cases hg
 |nil=>
  simp only[tj,ak] at hp;subst hp;simp only[xD] at hg;split at hg
  .rename_i h1;simp only[pm] at h1;split at h1
   .rename_i e;simp only[iO] at e;obtain⟨rfl,_⟩:=e;simp only[cr,ak] at J I;subst J;subst I;exact lM.refl d _
   .cases h1
  .cases hg
 |emp=>
  simp only[tj,ak] at hp;subst hp;simp only[xD] at hg;split at hg
  .rename_i h1;simp only[pm] at h1;split at h1
   .rename_i e;simp only[iO] at e;obtain⟨rfl,_⟩:=e;simp only[cr,ak] at J I;subst J;subst I;exact Le.nilEmp.toH d
   .rename_i e;simp only[iO] at e;obtain⟨rfl,_⟩:=e;simp only[cr,ak] at J I;subst J;subst I;exact lM.refl d _
   .cases h1
  .cases hg
theorem C9 (d:vC H H') (hr:xT h' h):∀ (ps:List PV) (vs:List TV) (x:(PV.tyL ps).den) (m:Nat) (us:List TV) (l J:List AV),ye g h ps vs=af (x,m)->pY g ps x=af us->cR h vs=af l->cR h' us=af J->D9 h H H' m->ia H H' l J
 |[],[],x,m,us,l,J,hg,hp,hl,I,M=>by
  simp only[pY,ak] at hp;subst hp;simp only[cR,ak] at hl I;subst hl;subst I;trivial
 |[],_::_,x,m,us,l,J,hg,_,_,_,_=>by simp[ye] at hg
 |_::_,[],x,m,us,l,J,hg,_,_,_,_=>by simp[ye] at hg
 |p::ps,v::vs,x,m,us,l,J,hg,hp,hl,I,M=>by
  simp only[ye] at hg;split at hg
  .rename_i x1 m1 h1;split at hg
   .rename_i x2 m2 h2;simp only[ak,aD] at hg;obtain⟨rfl,rfl⟩:=hg;simp only[pY,tH,ve] at hp;split at hp
    .rename_i a Y;split at hp
     .rename_i b hb;simp only[ak] at hp;subst hp;obtain⟨y,l2,rfl,e1,e2⟩:=c5 hl;obtain⟨y',U,rfl,e3,e4⟩:=c5 I;obtain⟨ga,Z⟩:=M.or;exact⟨aeo d hr h1 Y e1 e3 ga,C9 d hr ps vs _ _ b l2 U h2 hb e2 e4 Z⟩
     .cases hp
    .cases hp
   .cases hg
  .cases hg
inductive BM (g:Nat->Nat) (h:bh) (m:Nat):io->io->Prop
 |rows (ty:TypeId) (p:Bool) (T:Ty) (xs:List T.den):BM g h m (.rows ty p T xs) (.rows ty p T xs)
 |mp (K V:Ty) (es:List (K.den×V.den)):BM g h m (.mp K V es) (.mp K V es)
 |cells (ty:TypeId) (ps:List PV) (x:(PV.tyL ps).den) (l l2:List TV) (m':Nat) (hg:zh g h ps l=af (x,m',[])) (hp:qV g ps x=af l2) (hm:∀ i,aN m' i=ai->aN m i=ai):BM g h m (.cells ty l) (.cells ty l2)
theorem BM.mono {m m2:Nat} (hm:∀ i,aN m i=ai->aN m2 i=ai) {b c:io} (h1:BM g h m b c):BM g h m2 b c:=by
 cases h1 with
 |rows ty p T xs=>exact .rows ty p T xs
 |mp K V es=>exact .mp K V es
 |cells ty ps x l l2 m' hg hp I=>exact .cells ty ps x l l2 m' hg hp λi hi=>hm i (I i hi)
theorem aeq {i:Nat} {b:PB} {x:b.ty.den} {m:Nat} {c:io} (hg:ER g h i b=af (x,m)) (hp:CF g b x=af (af c)):∃ b0,h.get (g i)=af b0/\BM g h m b0 c:=by
 cases b with
 |rows ty p T=>
  simp only[ER] at hg;split at hg
  .rename_i ty' M S xs hb;split at hg
   .rename_i hc;simp only[av,cZ] at hc;obtain⟨rfl,rfl⟩:=hc;split at hg
    .rename_i z I;simp only[ak,aD] at hg;obtain⟨rfl,rfl⟩:=hg;obtain⟨e,rfl⟩:=jg I;cases e;simp only[CF,ak] at hp;subst hp;exact⟨_,hb,.rows _ _ _ _⟩
    .cases hg
   .cases hg
  .cases hg
 |rowsP ty T=>
  simp only[ER] at hg;split at hg
  .rename_i ty' M S xs hb;split at hg
   .rename_i hc;have hc:ty=ty':=by simpa using hc
    subst hc;split at hg
    .rename_i z I;simp only[ak,aD] at hg;obtain⟨rfl,rfl⟩:=hg;obtain⟨e,rfl⟩:=jg I;cases e;simp only[CF,ak] at hp;subst hp;exact⟨_,hb,.rows _ _ _ _⟩
    .cases hg
   .cases hg
  .cases hg
 |cells ty ps=>
  simp only[ER] at hg;split at hg
  .rename_i ty' l hb;split at hg
   .rename_i hc;have hc:ty=ty':=by simpa using hc
    subst hc;split at hg
    .rename_i z m1 I;simp only[ak,aD] at hg;obtain⟨rfl,rfl⟩:=hg;simp only[CF] at hp;split at hp
     .rename_i l2 J;simp only[ak] at hp;subst hp;exact⟨_,hb,.cells ty ps _ l l2 _ I J λ_ h=>h⟩
     .cases hp
    .cases hg
   .cases hg
  .cases hg
 |mp K V=>
  simp only[ER] at hg;split at hg
  .rename_i K' V' es hb;split at hg
   .rename_i z I;simp only[ak,aD] at hg;obtain⟨rfl,rfl⟩:=hg;obtain⟨e,rfl⟩:=jg I;cases e;simp only[CF,ak] at hp;subst hp;exact⟨_,hb,.mp _ _ _⟩
   .cases hg
  .cases hg
 |gone=>simp[CF] at hp
theorem Jd:∀ (bs:List PB) (i:Nat) (x:(PB.tyL bs).den) (m:Nat) (I:List (Option io)),AM g h i bs=af (x,m)->ov g bs x=af I->∀ (k:Nat) c,I[k]? =af (af c)->∃ b0,h.get (g (i+k))=af b0/\BM g h m b0 c
 |[],i,x,m,I,hg,hp,k,c,hk=>by
  simp only[ov,ak] at hp;subst hp;simp at hk
 |b::r,i,x,m,I,hg,hp,k,c,hk=>by
  simp only[AM] at hg;split at hg
  .rename_i U m1 h1;split at hg
   .rename_i M m2 h2;simp only[ak,aD] at hg;obtain⟨rfl,rfl⟩:=hg;simp only[ov,tH,ve] at hp;split at hp
    .rename_i a J;split at hp
     .rename_i q hq;simp only[ak] at hp;subst hp;cases k with
      |zero=>
       simp at hk;subst hk;obtain⟨b0,e1,e2⟩:=aeq h1 J;exact⟨b0,e1,e2.mono λi hi=>by rw[bp,hi];rfl⟩
      |succ k=>
       obtain⟨b0,e1,e2⟩:=Jd r (i+1) _ _ q h2 hq k c (by simpa using hk);rw[show i+1+k=i+(k+1) from by omega] at e1;exact⟨b0,e1,e2.mono λi hi=>by rw[bp,hi];simp⟩
     .cases hp
    .cases hp
   .cases hg
  .cases hg
end get
theorem Rc {σ:PT Nat} {i a:Nat} (h:σ.get i=af a):h_ σ i=a:=by unfold h_;rw[h]
theorem Wj {σ:PT Nat}:∀ (n i acc sm:Nat),Z3 σ n i acc=af sm->
 (∀ k,k<n->aN acc (h_ σ (i+k))=aj)/\(∀ a b,a<n->b<n->h_ σ (i+a)=h_ σ (i+b)->a=b)/\∀ q,aN sm q=ai↔aN acc q=ai\/∃ k,k<n/\h_ σ (i+k)=q
 |0,i,acc,sm,h=>by
  simp only[Z3,ak] at h;subst h;exact⟨λk hk=>by omega,λa b J=>by omega,λq=>⟨.inl,λhq=>hq.elim id λ⟨k,hk,_⟩=>by omega⟩⟩
 |n+1,i,acc,sm,h=>by
  simp only[Z3] at h;split at h
  .rename_i a J;split at h
   .cases h
   .rename_i hna;have hna:aN acc a=aj:=by simpa using hna
    have hga:=Rc J;obtain⟨h1,h2,M⟩:=Wj n (i+1) (acc|||k_ a) sm h;have hne:∀ k,k<n->h_ σ (i+1+k)≠a/\aN acc (h_ σ (i+1+k))=aj:=λk hk=>by
     have:=h1 k hk;rw[bp,Bool.or_eq_false_iff] at this;refine ⟨λe=>?_,this.1⟩;have I:=this.2;rw[e] at I;rw[b8.2 rfl] at I;cases I
    refine ⟨λk hk=>?_,λx y Y U hxy=>?_,λq=>?_⟩
    .cases k with
     |zero=>rw[dl,hga];exact hna
     |succ k=>rw[show i+(k+1)=i+1+k from by omega];exact (hne k (by omega)).2
    .cases x with
     |zero=>
      cases y with
      |zero=>rfl
      |succ y=>
       rw[dl,hga,show i+(y+1)=i+1+y from by omega] at hxy;exact cV hxy.symm (hne y (by omega)).1
     |succ x=>
      cases y with
      |zero=>
       rw[show i+0=i from rfl,hga,show i+(x+1)=i+1+x from by omega] at hxy;exact cV hxy (hne x (by omega)).1
      |succ y=>
       rw[show i+(x+1)=i+1+x from by omega,show i+(y+1)=i+1+y from by omega] at hxy;have:=h2 x y (by omega) (by omega) hxy;omega
    .rw[M,bp,iQ];constructor
     .rintro ((hq|hq)|⟨k,hk,hq⟩)
      .exact .inl hq
      .exact .inr ⟨0,by omega,by rw[dl,hga];exact b8.1 hq⟩
      .exact .inr ⟨k+1,by omega,by rw[show i+(k+1)=i+1+k from by omega];exact hq⟩
     .rintro (hq|⟨k,hk,hq⟩)
      .exact .inl (.inl hq)
      .cases k with
       |zero=>rw[dl,hga] at hq;exact .inl (.inr (b8.2 hq))
       |succ k=>exact .inr ⟨k,by omega,by rw[show i+1+k=i+(k+1) from by omega];exact hq⟩
  .cases h
theorem Rj {σ:PT Nat}:∀ (n:Nat),W3 σ n=ai->∀ i,i<n->h_ σ i=i
 |0,_,i,hi=>by omega
 |n+1,h,i,hi=>by
  simp only[W3,av] at h;by_cases e:i=n
  .subst e;cases I:σ.get i with
   |none=>rw[I] at h;exact cV h.1 (by simp)
   |some a=>rw[I] at h;rw[Rc I];exact aw h.1
  .exact Rj n h.2 i (by omega)
structure HR (np:Nat) (t:Tm) (vs:List TV) (h:bh) (z:t.ty.den) (m:Nat) (σ:PT Nat) (sm:Nat):Prop where
 ex:∃ x m1 y m2,z=Ub _ _ x y/\m=m1|||m2/\ye (h_ σ) h t.vs vs=af (x,m1)/\AM (h_ σ) h 0 t.bs=af (y,m2)
 inj:∀ a b,a<t.bs.length->b<t.bs.length->h_ σ a=h_ σ b->a=b
 sig:∀ q,aN sm q=ai↔∃ k,k<t.bs.length/\h_ σ k=q
 disj:∀ i,aN m i=ai->aN sm i=aj
 fix:∀ i,i<np->h_ σ i=i
theorem wz {np:Nat} {t:Tm} {vs:List TV} {h:bh} {z:t.ty.den} {m:Nat} {σ:PT Nat} {sm:Nat} (hm:Es np t vs h=af ⟨z,m,σ,sm⟩):HR np t vs h z m σ sm:=by
 unfold Es at hm;rw[OA] at hm;split at hm
 .rename_i sm' hs;split at hm
  .rename_i x m1 h1;split at hm
   .rename_i y m2 h2;split at hm
    .rename_i hc;simp only[av] at hc;simp only[ak,ahn.mk.injEq] at hm;obtain⟨rfl,rfl,rfl,rfl⟩:=hm;obtain⟨M,J,I⟩:=Wj _ _ _ _ hs;simp only[bN] at M J I;exact⟨⟨x,m1,y,m2,rfl,rfl,h1,h2⟩,J,λq=>by rw[I];simp,λi hi=>xO hc.1 i hi,Rj np hc.2⟩
    .cases hm
   .cases hm
  .cases hm
 .cases hm
mutual
theorem zj {g:Nat->Nat} {h:bh}:∀ (p:PV) (l:List TV) (x:p.ty.den) (m:Nat) (r:List TV),pm g h p l=af (x,m,r)->dX h m
 |.d T,l,x,m,r,hg=>vg 40 T l x m r hg
 |.ptr i q,l,x,m,r,hg=>by
  simp only[pm] at hg;split at hg
  .split at hg
   .simp only[ak,aD] at hg;obtain⟨_,rfl,_⟩:=hg;exact dX.zero h
   .cases hg
  .cases hg
 |.csl i q z,l,x,m,r,hg=>by
  simp only[pm] at hg;split at hg
  .split at hg
   .simp only[ak,aD] at hg;obtain⟨_,rfl,_⟩:=hg;exact dX.zero h
   .cases hg
  .cases hg
 |.clo q i z,l,x,m,r,hg=>by
  simp only[pm] at hg;split at hg
  .split at hg
   .simp only[ak,aD] at hg;obtain⟨_,rfl,_⟩:=hg;exact dX.zero h
   .cases hg
  .cases hg
 |.row i,l,x,m,r,hg=>by
  simp only[pm] at hg;split at hg
  .split at hg
   .simp only[ak,aD] at hg;obtain⟨_,rfl,_⟩:=hg;exact dX.zero h
   .cases hg
  .cases hg
 |.mp i,l,x,m,r,hg=>by
  simp only[pm] at hg;split at hg
  .split at hg
   .simp only[ak,aD] at hg;obtain⟨_,rfl,_⟩:=hg;exact dX.zero h
   .cases hg
  .cases hg
 |.nil,l,x,m,r,hg=>by
  simp only[pm] at hg;split at hg
  .simp only[ak,aD] at hg;obtain⟨_,rfl,_⟩:=hg;exact dX.zero h
  .cases hg
 |.emp,l,x,m,r,hg=>by
  simp only[pm] at hg;split at hg
  .simp only[ak,aD] at hg;obtain⟨_,rfl,_⟩:=hg;exact dX.zero h
  .simp only[ak,aD] at hg;obtain⟨_,rfl,_⟩:=hg;exact dX.zero h
  .cases hg
 |.agg ps,l,x,m,r,hg=>HH ps l x m r hg
theorem HH {g:Nat->Nat} {h:bh}:∀ (ps:List PV) (l:List TV) (x:(PV.tyL ps).den) (m:Nat) (r:List TV),zh g h ps l=af (x,m,r)->dX h m
 |[],l,x,m,r,hg=>by
  simp only[zh,ak,aD] at hg;obtain⟨_,rfl,_⟩:=hg;exact dX.zero h
 |p::ps,l,x,m,r,hg=>by
  simp only[zh] at hg;split at hg
  .rename_i x1 m1 r1 h1;split at hg
   .rename_i x2 m2 r2 h2;simp only[ak,aD] at hg;obtain⟨_,rfl,_⟩:=hg;exact (zj p l x1 m1 r1 h1).or (HH ps r1 _ _ _ h2)
   .cases hg
  .cases hg
end
theorem aik {g:Nat->Nat} {h:bh} {p:PV} {v:TV} {x:p.ty.den} {m:Nat} (hg:xD g h p v=af (x,m)):dX h m:=by
 cases p with
 |d T=>exact Xr hg
 |agg ps=>
  simp only[xD] at hg;split at hg
  .cases hg
  .split at hg
   .split at hg
    .rename_i I m1 h1;simp only[ak,aD] at hg;obtain⟨_,rfl⟩:=hg;exact HH ps _ _ _ _ h1
    .cases hg
   .cases hg
 |ptr i q=>
  simp only[xD] at hg;split at hg
  .rename_i h1;simp only[ak,aD] at hg;obtain⟨_,rfl⟩:=hg;exact zj _ _ _ _ _ h1
  .cases hg
 |csl i q z=>
  simp only[xD] at hg;split at hg
  .rename_i h1;simp only[ak,aD] at hg;obtain⟨_,rfl⟩:=hg;exact zj _ _ _ _ _ h1
  .cases hg
 |clo q i z=>
  simp only[xD] at hg;split at hg
  .rename_i h1;simp only[ak,aD] at hg;obtain⟨_,rfl⟩:=hg;exact zj _ _ _ _ _ h1
  .cases hg
 |row i=>
  simp only[xD] at hg;split at hg
  .rename_i h1;simp only[ak,aD] at hg;obtain⟨_,rfl⟩:=hg;exact zj _ _ _ _ _ h1
  .cases hg
 |mp i=>
  simp only[xD] at hg;split at hg
  .rename_i h1;simp only[ak,aD] at hg;obtain⟨_,rfl⟩:=hg;exact zj _ _ _ _ _ h1
  .cases hg
 |nil=>
  simp only[xD] at hg;split at hg
  .rename_i h1;simp only[ak,aD] at hg;obtain⟨_,rfl⟩:=hg;exact zj _ _ _ _ _ h1
  .cases hg
 |emp=>
  simp only[xD] at hg;split at hg
  .rename_i h1;simp only[ak,aD] at hg;obtain⟨_,rfl⟩:=hg;exact zj _ _ _ _ _ h1
  .cases hg
theorem HG {g:Nat->Nat} {h:bh}:∀ (ps:List PV) (vs:List TV) (x:(PV.tyL ps).den) (m:Nat),ye g h ps vs=af (x,m)->dX h m
 |[],[],x,m,hg=>by simp only[ye,ak,aD] at hg;obtain⟨_,rfl⟩:=hg;exact dX.zero h
 |[],_::_,x,m,hg=>by simp[ye] at hg
 |_::_,[],x,m,hg=>by simp[ye] at hg
 |p::ps,v::vs,x,m,hg=>by
  simp only[ye] at hg;split at hg
  .rename_i J m1 h1;split at hg
   .rename_i I m2 h2;simp only[ak,aD] at hg;obtain⟨_,rfl⟩:=hg;exact (aik h1).or (HG ps vs I m2 h2)
   .cases hg
  .cases hg
theorem ail {g:Nat->Nat} {h:bh} {i:Nat} {b:PB} {x:b.ty.den} {m:Nat} (hg:ER g h i b=af (x,m)):dX h m:=by
 cases b with
 |rows ty p T=>
  simp only[ER] at hg;split at hg
  .split at hg
   .split at hg
    .simp only[ak,aD] at hg;obtain⟨_,rfl⟩:=hg;exact dX.zero h
    .cases hg
   .cases hg
  .cases hg
 |rowsP ty T=>
  simp only[ER] at hg;split at hg
  .split at hg
   .split at hg
    .simp only[ak,aD] at hg;obtain⟨_,rfl⟩:=hg;exact dX.zero h
    .cases hg
   .cases hg
  .cases hg
 |cells ty ps=>
  simp only[ER] at hg;split at hg
  .split at hg
   .split at hg
    .rename_i h1;simp only[ak,aD] at hg;obtain⟨_,rfl⟩:=hg;exact HH ps _ _ _ _ h1
    .cases hg
   .cases hg
  .cases hg
 |mp K V=>
  simp only[ER] at hg;split at hg
  .split at hg
   .simp only[ak,aD] at hg;obtain⟨_,rfl⟩:=hg;exact dX.zero h
   .cases hg
  .cases hg
 |gone=>simp only[ER,ak,aD] at hg;obtain⟨_,rfl⟩:=hg;exact dX.zero h
theorem HI {g:Nat->Nat} {h:bh}:∀ (bs:List PB) (i:Nat) (x:(PB.tyL bs).den) (m:Nat),AM g h i bs=af (x,m)->dX h m
 |[],i,x,m,hg=>by simp only[AM,ak,aD] at hg;obtain⟨_,rfl⟩:=hg;exact dX.zero h
 |b::r,i,x,m,hg=>by
  simp only[AM] at hg;split at hg
  .rename_i J m1 h1;split at hg
   .rename_i I m2 h2;simp only[ak,aD] at hg;obtain⟨_,rfl⟩:=hg;exact (ail h1).or (HI r (i+1) I m2 h2)
   .cases hg
  .cases hg
structure qM (t:Tm) (x:t.ty.den) (vs:List TV) (h1:bh) (l1:List (Option io)):Prop where
 pv:pY HC t.vs (Oz _ _ x)=af vs
 pb:ov HC t.bs (K6 _ _ x)=af l1
 len:l1.length=t.bs.length
 at_:∀ i b,h1.get i=af b↔l1[i]? =af (af b)
 ok:kO h1 vs=ai
 lt:rB t.bs.length vs=ai
 cells:∀ i ty l,h1.get i=af (.cells ty l)->kO h1 l=ai/\rB t.bs.length l=ai
theorem aaj (l:List (Option io)) (i:Nat) (b:io):(Av HC 0 l PT.leaf).get i=af b↔l[i]? =af (af b):=by
 by_cases hi:i<l.length
 .obtain⟨c,hc⟩:∃ c,l[i]? =af c:=⟨l[i],aB hi⟩
  have:=vj HC l 0 PT.leaf (λa b _ _ e=>by simp only[HC] at e;omega) i c hc;rw[show HC (0+i)=i from by simp only[HC];omega] at this;rw[this,hc];cases c with
  |some b'=>simp
  |none=>simp[PT.get]
 .rw[vi HC l 0 PT.leaf i (λk hk=>by simp only[HC];omega),bR (by omega)];simp[PT.get]
theorem wE {t:Tm} {x:t.ty.den} {vs:List TV} {h1:bh} (hi:CW t x=af (vs,h1)):∃ l1,qM t x vs h1 l1:=by
 unfold CW at hi;split at hi
 .rename_i us hus;split at hi
  .rename_i h hh;split at hi
   .rename_i hc;simp only[av] at hc;simp only[ak,aD] at hi;obtain⟨rfl,rfl⟩:=hi;unfold Ms at hh;split at hh
    .rename_i l1 I;simp only[ak] at hh;refine ⟨l1,hus,I,CE _ _ _ _ I,λi b=>?_,hc.1.1,hc.1.2,λi ty l hil=>?_⟩
     .rw[<- hh];exact aaj l1 i b
     .have:=PT.get_all _ h 1 0 i _ hc.2 hil;simpa only[av] using this
    .cases hh
   .cases hi
  .cases hi
 .cases hi
def Wt (nb:Nat) (n:Nat):Bool:=n%2==0&&gi (n/2) nb
theorem By {nb i:Nat}:Wt nb (nm i)=ai↔i<nb:=by
 unfold Wt nm;rw[show 2*i%2=0 from by omega,show 2*i/2=i from by omega];simp only[c6,pw];exact⟨λh=>a8 h,λh=>bI h⟩
theorem aa2 {nb n:Nat} (h:Wt nb n=ai):∃ i,i<nb/\n=nm i:=by
 unfold Wt at h;simp only[av,cZ] at h;exact⟨n/2,a8 h.2,by unfold nm;omega⟩
mutual
theorem aih {nb:Nat} {h:bh}:∀ (v:TV) (y:AV),Lg nb v=ai->cr h v=af y->y.all (Wt nb)=ai
 |.f _ _,y,_,he=>by simp only[cr,ak] at he;subst he;rfl
 |.fel _ _ _ _ _,y,_,he=>by simp only[cr,ak] at he;subst he;rfl
 |.pel id _ _ _,y,hl,he=>by simp only[cr,ak] at he;subst he;exact By.2 (a8 hl)
 |.ptr id _,y,hl,he=>by simp only[cr,ak] at he;subst he;exact By.2 (a8 hl)
 |.csl id _ _,y,hl,he=>by simp only[cr,ak] at he;subst he;exact By.2 (a8 hl)
 |.row id,y,hl,he=>by
  simp only[cr] at he;split at he
  .simp only[ak] at he;subst he;unfold fx;split
   .rfl
   .exact By.2 (a8 hl)
  .cases he
 |.rtl id jj,y,hl,he=>by
  simp only[cr] at he;split at he
  .simp only[ak] at he;subst he;exact By.2 (a8 hl)
  .cases he
 |.emp,y,_,he=>by simp only[cr,ak] at he;subst he;rfl
 |.nil,y,_,he=>by simp only[cr,ak] at he;subst he;rfl
 |.mp id,y,hl,he=>by simp only[cr,ak] at he;subst he;exact By.2 (a8 hl)
 |.agg l,y,hl,he=>by
  simp only[cr] at he;split at he
  .rename_i l' hl';simp only[ak] at he;subst he;exact tC l l' hl hl'
  .cases he
 |.tup l,y,hl,he=>by
  simp only[cr] at he;split at he
  .rename_i l' hl';simp only[ak] at he;subst he;exact tC l l' hl hl'
  .cases he
 |.clo q l,y,hl,he=>by
  simp only[cr] at he;split at he
  .rename_i l' hl';simp only[ak] at he;subst he;exact tC l l' hl hl'
  .cases he
 |.undef,y,_,he=>by simp only[cr,ak] at he;subst he;rfl
 |.np,y,_,he=>by simp only[cr,ak] at he;subst he;rfl
 |.anyb,y,_,he=>by simp only[cr,ak] at he;subst he;rfl
theorem tC {nb:Nat} {h:bh}:∀ (l:List TV) (l':List AV),rB nb l=ai->cR h l=af l'->AV.allL (Wt nb) l'=ai
 |[],l',_,he=>by simp only[cR,ak] at he;subst he;rfl
 |x::r,l',hl,he=>by
  obtain⟨y,l2,rfl,e1,e2⟩:=c5 he;simp only[rB,av] at hl;simp only[AV.allL,av];exact⟨aih x y hl.1 e1,tC r l2 hl.2 e2⟩
end
theorem qM.blk_all {t:Tm} {x:t.ty.den} {vs:List TV} {h1:bh} {l1:List (Option io)} (I:qM t x vs h1 l1) {i:Nat} {b:io} (hb:h1.get i=af b) {y:w_} (J:kM h1 b=af y):y.c.all (Wt t.bs.length)=ai:=by
 cases b with
 |rows ty p T xs=>
  simp only[kM] at J;split at J
  .cases J
  .simp only[ak] at J;subst J;rfl
 |cells ty l=>
  simp only[kM] at J;split at J
  .rename_i M hl;simp only[ak] at J;subst J;exact tC l M (I.cells i ty l hb).2 hl
  .cases J
 |dead p sz n=>cases J
 |mp K V es=>
  simp only[kM,ak] at J;subst J;show BC.all _ (mpC K V es)=ai;unfold mpC;split
  .rfl
  .simp only[BC.all,zX];have key:∀ l:List (K.den×V.den),AV.allL (Wt t.bs.length) (l.map ((λx=>x.2)∘λp=>(pI K p.1,AV.f (gJ V p.2))))=ai:=λl=>by
    induction l with
    |nil=>rfl
    |cons e r U=>simp only[gk,AV.allL,av];exact⟨rfl,U⟩
   exact key es
theorem qM.lt_len {t:Tm} {x:t.ty.den} {vs:List TV} {h1:bh} {l1:List (Option io)} (I:qM t x vs h1 l1) {i:Nat} {b:io} (hb:h1.get i=af b):i<t.bs.length:=by
 rw[<- I.len];exact (bl.1 ((I.at_ i b).1 hb)).1
def φ1 (nb:Nat) (g:Nat->Nat) (φ:PM):PM:=λn=>if Wt nb n then φ (HJ g n) else ah
theorem ZK {nb:Nat} {g:Nat->Nat} {φ:PM} {i:Nat} (hi:i<nb):φ1 nb g φ (nm i)=φ (nm (g i)):=by
 unfold φ1;rw[aF (By.2 hi),xF]
theorem xf {nb:Nat} {g:Nat->Nat} {φ:PM} {n k:Nat} (h:φ1 nb g φ n=af k):∃ i,i<nb/\n=nm i/\φ (nm (g i))=af k:=by
 unfold φ1 at h;split at h
 .rename_i hp;obtain⟨i,hi,rfl⟩:=aa2 hp;rw[xF] at h;exact⟨i,hi,rfl,h⟩
 .cases h
structure afp (t:Tm) (x:t.ty.den) (vs:List TV) (h1:bh) (g:Nat->Nat) (φ:PM) (E E':Nat->Prop) (Hv:HF) (w:World):Prop where
 rep:qY (φ1 t.bs.length g φ) E' (bA h1) w
 val:∀ x v,x.all (Wt t.bs.length)=ai->cW φ (tot E φ Hv) w (x.ren (HJ g)) v->cW (φ1 t.bs.length g φ) (tot E' (φ1 t.bs.length g φ) (bA h1)) w x v
 own_:∀ k,own (φ1 t.bs.length g φ) (bA h1) k->own φ Hv k
 tot_:∀ k,tot E' (φ1 t.bs.length g φ) (bA h1) k->tot E φ Hv k
theorem qY.toId {t:Tm} {x:t.ty.den} {vs:List TV} {h1:bh} {l1:List (Option io)} (I:qM t x vs h1 l1) {g:Nat->Nat} (inj:∀ a b,a<t.bs.length->b<t.bs.length->g a=g b->a=b) {φ:PM} {E E':Nat->Prop} {Hv:HF} {w:World} (r:qY φ E Hv w)
 (hat:∀ i b y,h1.get i=af b->kM h1 b=af y->Hv (nm (g i))=af (y.ren (HJ g)))
 (hE:∀ k,E' k->tot E φ Hv k) (hne:∀ i k b,i<t.bs.length->Hv (nm (g i))=af b->φ (nm (g i))=af k->¬E' k) (hel:∀ k,E' k->k<w.heap.size):afp t x vs h1 g φ E E' Hv w:=by
 have own1:∀ k,own (φ1 t.bs.length g φ) (bA h1) k->own φ Hv k:=by
  rintro k ⟨n,y,h2,h3⟩;obtain⟨i,hi,rfl,Y⟩:=xf h3;obtain⟨j,b,e,U,J⟩:=jv h2;have:=kP e;subst this;exact⟨nm (g i),_,hat i b y U J,Y⟩
 have tot1:∀ k,tot E' (φ1 t.bs.length g φ) (bA h1) k->tot E φ Hv k:=λk hk=>hk.elim (hE k) λh=>.inr (own1 k h)
 have val:∀ x v,x.all (Wt t.bs.length)=ai->cW φ (tot E φ Hv) w (x.ren (HJ g)) v->cW (φ1 t.bs.length g φ) (tot E' (φ1 t.bs.length g φ) (bA h1)) w x v:=λx v hx hr=>by
  have h2:cW (φ1 t.bs.length g φ) (tot E φ Hv) w x v:=cW.renFrom (λi k hp hk=>by unfold φ1;rw[aF hp];exact hk) hr x hx rfl;exact h2.ext (λ_ _ h=>h) (KP.refl _ w) λk _ hk=>tot1 k hk
 refine ⟨⟨λn n' b b' k Z g2 g3 g4=>?_,λn y Z=>?_,hel,λg' cells hg=>(r.gl g' cells hg).ext (KP.refl _ w) λk _ hk=>tot1 k hk⟩,val,own1,tot1⟩
 .obtain⟨i,hi,rfl,Y⟩:=xf g3;obtain⟨j,hj,rfl,U⟩:=xf g4;obtain⟨i',c,e,J,M⟩:=jv Z;have:=kP e;subst this;obtain⟨j',c',e,h8,h9⟩:=jv g2;have:=kP e;subst this;have:=r.inj _ _ _ _ k (hat i c _ J M) (hat j c' _ h8 h9) Y U;rw[inj i j hi hj (kP this)]
 .obtain⟨i,c,rfl,J,M⟩:=jv Z;have hi:=I.lt_len J;obtain⟨k,p1,p2,ob,p3,p4⟩:=r.at_ _ _ (hat i c y J M);exact⟨k,by rw[ZK hi];exact p1,hne i k _ hi (hat i c y J M) p1,ob,p3,jt.renFrom val (I.blk_all J M) p4⟩
theorem BM.view {g:Nat->Nat} {h hv:bh} {H H':HF} {m:Nat} (d:vC H H') (Y:D9 h H H' m) (hr:xT hv h) {b0 c:io} (hb:BM g h m b0 c) {y I:w_} (e0:kM h b0=af y) (e1:kM hv c=af I):kl H H' y I:=by
 cases hb with
 |rows ty p T xs=>
  simp only[kM] at e0 e1;rw[e0] at e1;cases e1;exact kl.refl d y
 |mp K V es=>
  simp only[kM] at e0 e1;rw[e0] at e1;cases e1;exact kl.refl d y
 |cells ty ps x l l2 m' hg hp hm=>
  simp only[kM] at e0 e1;split at e0
  .rename_i U hl;simp only[ak] at e0;subst e0;split at e1
   .rename_i cs' hc;simp only[ak] at e1;subst e1;obtain⟨l1,Z,M,J,q3⟩:=C_ d hr ps l x m' [] l2 U cs' hg hp hl hc λi hi=>Y i (hm i hi)
    simp only[cR,ak] at J;subst J;rw[iP] at M;subst M;exact kl.cells rfl rfl q3 (lI (tJ hc (xj ps x l2 hp)))
   .cases e1
  .cases e0
theorem BM.erB_some {g:Nat->Nat} {h hv:bh} {nx m:Nat} (hinv:ma h nx) {i:Nat} {b0 c:io} (h0:h.get i=af b0) (hb:BM g h m b0 c) {I:w_} (e1:kM hv c=af I):∃ y,kM h b0=af y:=by
 cases hb with
 |rows ty p T xs=>exact⟨I,e1⟩
 |mp K V es=>exact⟨I,e1⟩
 |cells ty ps x l l2 m' hg hp hm=>
  obtain⟨J,hl⟩:=fK h l (hinv.cells i ty l h0);exact⟨_,by simp only[kM,hl];rfl⟩
theorem BM.row {g:Nat->Nat} {h:bh} {m:Nat} {b0 c:io} (hb:BM g h m b0 c):mF c=mF b0:=by
 cases hb<;>rfl
structure pN (P:Program) (f:FuncId) (c:cf):Prop where
 callable:D2 P f
 calls:∀ x y,c.m x=af y->∀ vs hp l1 rs hq l2 la lr,qM c.pre x vs hp l1->qM c.post y rs hq l2->cR hp vs=af la->cR hq rs=af lr->
  ∀ (φ:PM) (E:Nat->Prop) (w:World) (us:List Value),qY φ E (bA hp) w->jW φ (tot E φ (bA hp)) w la us->(∀ n k,φ n=af k->ow n<c.pre.bs.length)->
  Calls P f us.toArray w λen w'=>∃ v φ',en= .returned v/\KP (own φ (bA hp)) w w'/\(∀ k,k<w.heap.size->own φ' (bA hq) k->own φ (bA hp) k)/\(∀ i,i<c.pre.bs.length->φ' (nm i)=φ (nm i))/\qY φ' E (bA hq) w'/\cW φ' (tot E φ' (bA hq)) w' (D' lr) v
theorem Mw {g:Nat->Nat}:∀ (bs:List PB) (x:(PB.tyL bs).den) (l:List (Option io)),BH bs=ai->ov g bs x=af l->∀ (i:Nat) (c:Option io),l[i]? =af c->∃ b,c=af b
 |[],x,l,_,hp,i,c,hc=>by simp only[ov,ak] at hp;subst hp;simp at hc
 |b::r,x,l,hn,hp,i,c,hc=>by
  simp only[ov] at hp;split at hp
  .rename_i a I;split at hp
   .rename_i q hq;simp only[ak] at hp;subst hp;cases i with
    |zero=>
     simp at hc;subst hc;cases b with
     |gone=>simp[BH] at hn
     |rows ty p T=>simp only[CF,ak] at I;exact⟨_,I.symm⟩
     |rowsP ty T=>simp only[CF,ak] at I;exact⟨_,I.symm⟩
     |cells ty ps=>
      simp only[CF] at I;split at I
      .simp only[ak] at I;exact⟨_,I.symm⟩
      .cases I
     |mp K V=>simp only[CF,ak] at I;exact⟨_,I.symm⟩
    |succ i=>
     refine Mw r _ q ?_ hq i c (by simpa using hc);cases b<;>first|exact hn|simp[BH] at hn
   .cases hp
  .cases hp
theorem Ft {h h2:bh} {g:Nat->Nat}:∀ n,t7 h h2 g n=ai->∀ i,i<n->∀ r,eC h (g i)=af r->eC h2 (g i)=af r
 |0,_,i,hi,_,_=>by omega
 |n+1,hs,i,hi,r,hr=>by
  simp only[t7,av] at hs;by_cases e:i=n
  .subst e;obtain⟨p,s,k⟩:=r;have h1:=hs.1;rw[hr] at h1;cases I:eC h2 (g i) with
   |none=>rw[I] at h1;cases h1
   |some q=>
    obtain⟨J,s',k'⟩:=q;rw[I] at h1;simp only[av,cZ] at h1;rw[h1.1.1,aw h1.1.2,aw h1.2]
  .exact Ft n hs.2 i (by omega) r hr
theorem jW.le {H H':HF} {φ:PM} {E:Nat->Prop} {w:World} (r:qY φ E H w):∀ {l I:List AV} {us:List Value},ia H H' l I->jW φ (tot E φ H) w l us->jW φ (tot E φ H') w I us
 |[],[],[],_,_=>trivial
 |[],[],_::_,_,h=>h.elim
 |_::_,_::_,[],_,h=>h.elim
 |[],_::_,_,h,_=>h.elim
 |_::_,[],_,h,_=>h.elim
 |_::_,_::_,_::_,hl,h=>⟨hl.1 _ _ _ _ r h.1,jW.le r hl.2 h.2⟩
theorem jW.toId {φ φ':PM} {O O':Nat->Prop} {w:World} {γ:Nat->Nat} {p:Nat->Bool} (hv:∀ x v,x.all p=ai->cW φ O w (x.ren γ) v->cW φ' O' w x v):∀ {l:List AV} {us:List Value},AV.allL p l=ai->jW φ O w (AV.renL γ l) us->jW φ' O' w l us
 |[],[],_,_=>trivial
 |[],_::_,_,h=>h.elim
 |_::_,[],_,h=>h.elim
 |_::_,_::_,hp,h=>by
  simp only[AV.allL,av] at hp;exact⟨hv _ _ hp.1 h.1,jW.toId hv hp.2 h.2⟩
theorem Wo {h:bh}:∀ {rs:List TV} {lr:List AV},cR h rs=af lr->cr h (Qa rs)=af (D' lr)
 |[],lr,he=>by simp only[cR,ak] at he;subst he;rfl
 |[x],lr,he=>by
  obtain⟨y,l2,rfl,e1,e2⟩:=c5 he;simp only[cR,ak] at e2;subst e2;exact e1
 |x::y::r,lr,he=>by
  obtain⟨J,l2,rfl,e1,e2⟩:=c5 he;obtain⟨I,M,rfl,e3,U⟩:=c5 e2;simp only[Qa,cr,he,D']
theorem ZU (γ:Nat->Nat):∀ l:List AV,D' (AV.renL γ l)=(D' l).ren γ
 |[]=>rfl
 |[x]=>rfl
 |x::y::r=>rfl
theorem ZV {p:Nat->Bool}:∀ {l:List AV},AV.allL p l=ai->(D' l).all p=ai
 |[],_=>rfl
 |[x],h=>by simp only[AV.allL,av] at h;exact h.1
 |x::y::r,h=>h
theorem ae7 {nx I q:Nat}:aN (((1<<<I)-1)<<<nx) q=ai↔nx<=q/\q<nx+I:=by
 rw[Nat.testBit_shiftLeft,Nat.one_shiftLeft,Nat.testBit_two_pow_sub_one];simp only[av,be];omega
theorem abv {P:Program} {o:Oper} {e:iJ} {h:bh} {nx:Nat} {f:FuncId} {c:cf} {l:List TV} (hinv:ma h nx) (sp:pN P f c) {x:c.pre.ty.den} {m:Nat} {σ:PT Nat} {sm:Nat} (M:HR 0 c.pre l h x m σ sm) {vs:List TV} {hp:bh} {l1:List (Option io)} (I:qM c.pre x vs hp l1) (hng:BH c.pre.bs=ai) {y:c.post.ty.den} (hm:c.m x=af y) {rs:List TV} {hq:bh} {l2:List (Option io)} (J:qM c.post y rs hq l2) (hle:c.pre.bs.length<=c.post.bs.length)
 {g:Nat->Nat} (glo:∀ i,i<c.pre.bs.length->g i=h_ σ i) (ghi:∀ i,c.pre.bs.length<=i->g i=nx+(i-c.pre.bs.length)) {h2:bh} (hh2:h2=Av g 0 (l2.map (lJ (lO g))) (eM m h)) (hsr:t7 h h2 g c.pre.bs.length=ai) {la:List AV} (hla:cR h l=af la)
 (hexec:∀ (φ:PM) (E:Nat->Prop) (h':HF) (w:World) (a:Act),(∀ t,.tmp t∈o.op.operands->∀ y,fR e h t=af y->cW φ (tot E φ h') w y (a.tmps.getD t undef))->qY φ E h' w->∃ us:List Value,(execOp a.eval o).run P w= .ok (.enter f us.toArray) w/\jW φ (tot E φ h') w la us):
 jm P o aj e h nx (Qa (ky g rs)) (sm|||m) (sm|||m|||(((1<<<(c.post.bs.length-c.pre.bs.length))-1)<<<nx)) h2 (nx+(c.post.bs.length-c.pre.bs.length)):=by
 obtain⟨x1,m1,x2,m2,hx,hmm,gv,gb⟩:=M.ex;have hmr:dX h m:=by rw[hmm];exact (HG _ _ _ _ gv).or (HI _ _ _ _ gb)
 generalize hnp:c.pre.bs.length=np at*
 generalize hnq:c.post.bs.length=nq at*
 have pvg:pY (h_ σ) c.pre.vs x1=af (ky (h_ σ) vs):=by
  have Y:=tO (h_ σ) c.pre.vs x1;have h4:=I.pv;rw[hx,tH] at h4;rw[Y,h4];rfl
 have pbg:ov (h_ σ) c.pre.bs x2=af (l1.map (lJ (lO (h_ σ)))):=by
  have Y:=wa (h_ σ) c.pre.bs x2;have h4:=I.pb;rw[hx,ve] at h4;rw[Y,h4];rfl
 have hl1:∀ i,i<np->∃ b,l1[i]? =af (af b):=λi hi=>by
  have hi':i<l1.length:=by rw[I.len,hnp];exact hi
  obtain⟨b,hb⟩:=Mw c.pre.bs _ l1 hng I.pb i l1[i] (aB hi');exact⟨b,by rw[aB hi',hb]⟩
 have hbm:∀ i b,l1[i]? =af (af b)->∃ b0,h.get (h_ σ i)=af b0/\BM (h_ σ) h m b0 (lO (h_ σ) b):=λi b hb=>by
  obtain⟨b0,U,Z⟩:=Jd c.pre.bs 0 x2 m2 _ gb pbg i (lO (h_ σ) b) (by rw[bc,hb];rfl);rw[bN] at U;exact⟨b0,U,Z.mono λj hj=>by rw[hmm,bp,hj];simp⟩
 have inj1:∀ a b,a<np->b<np->h_ σ a=h_ σ b->a=b:=λa b ha hb=>M.inj a b (by rw[hnp];exact ha) (by rw[hnp];exact hb)
 have sig:∀ q,aN sm q=ai↔∃ k,k<np/\h_ σ k=q:=λq=>by rw[M.sig,hnp]
 have gnx:∀ i,i<np->h_ σ i<nx:=λi hi=>by
  obtain⟨b,hb⟩:=hl1 i hi;obtain⟨b0,U,_⟩:=hbm i b hb;exact hinv.low _ _ U
 have hmS:∀ i,i<np->aN m (h_ σ i)=aj:=λi hi=>by
  cases hx:aN m (h_ σ i) with
  |false=>rfl
  |true=>have:=M.disj _ hx;rw[(sig _).2 ⟨i,hi,rfl⟩] at this;cases this
 have injg:∀ a b,a<nq->b<nq->g a=g b->a=b:=λa b ha hb hab=>by
  by_cases h1:a<np
  .by_cases h2:b<np
   .rw[glo a h1,glo b h2] at hab;exact inj1 a b h1 h2 hab
   .rw[glo a h1,ghi b (by omega)] at hab;have:=gnx a h1;omega
  .by_cases h2:b<np
   .rw[ghi a (by omega),glo b h2] at hab;have:=gnx b h2;omega
   .rw[ghi a (by omega),ghi b (by omega)] at hab;omega
 let hv:bh:=Av (h_ σ) 0 (l1.map (lJ (lO (h_ σ)))) (eM m h)
 have hv_at:∀ i b,l1[i]? =af (af b)->hv.get (h_ σ i)=af (lO (h_ σ) b):=λi b hb=>by
  have:=vj (h_ σ) (l1.map (lJ (lO (h_ σ)))) 0 (eM m h) (λa b ha hb=>by
   simp only[bX,I.len,hnp] at ha hb;simp only[bN];exact inj1 a b ha hb) i (af (lO (h_ σ) b)) (by rw[bc,hb];rfl)
  rw[bN] at this;exact this
 have hv_ne:∀ j,(∀ i,i<np->j≠h_ σ i)->hv.get j=(eM m h).get j:=λj hj=>
  vi (h_ σ) _ 0 _ j λk hk=>by
   simp only[bX,I.len,hnp] at hk;rw[bN];exact hj k hk
 have rows_in:xT hv h:=λj r hr=>by
  rw[bU] at hr ⊢;by_cases hj:∃ i,i<np/\j=h_ σ i
  .obtain⟨i,hi,rfl⟩:=hj;obtain⟨b,hb⟩:=hl1 i hi;obtain⟨b0,U,Z⟩:=hbm i b hb;rw[hv_at i b hb] at hr;rw[U];simp only[aI] at hr ⊢;rw[<- Z.row];exact hr
  .rw[hv_ne j (λi hi e=>hj ⟨i,hi,e⟩),iW] at hr;split at hr
   .rename_i ht;obtain⟨ty,p,T,xs,hb⟩:=hmr j ht;rw[hb] at hr ⊢;exact hr
   .exact hr
 have rows_hp:∀ i r,eC hp i=af r->eC hv (h_ σ i)=af r:=λi r hr=>by
  rw[bU] at hr ⊢;cases hb:hp.get i with
  |none=>rw[hb] at hr;cases hr
  |some b=>
   rw[hb] at hr;rw[hv_at i b ((I.at_ i b).1 hb)];simp only[aI,H_] at hr ⊢;exact hr
 have dead_m:∀ i,aN m i=ai->bA hv (nm i)=ah:=λi hi=>by
  rw[bJ,hv_ne i (λk hk e=>by rw[e,hmS k hk] at hi;cases hi)];obtain⟨p,sz,n,hd⟩:=tW hmr hi;rw[hd];rfl
 have h2_at:∀ i cc,l2[i]? =af cc->h2.get (g i)=(match cc with|some b=>af (lO g b)|none=>((eM m h).get (g i)).map vk):=λi cc hc=>by
  have:=vj g (l2.map (lJ (lO g))) 0 (eM m h) (λa b ha hb=>by
   simp only[bX,J.len,hnq] at ha hb;simp only[bN];exact injg a b ha hb) i (cc.map (lO g)) (by rw[bc,hc];rfl)
  rw[bN] at this;rw[hh2,this];cases cc<;>rfl
 have h2_ne:∀ j,(∀ i,i<nq->j≠g i)->h2.get j=(eM m h).get j:=λj hj=>by
  rw[hh2];refine vi g _ 0 _ j λk hk=>?_
  simp only[bX,J.len,hnq] at hk;rw[bN];exact hj k hk
 have rows_hq:∀ i r,eC hq i=af r->eC h2 (g i)=af r:=λi r hr=>by
  rw[bU] at hr ⊢;cases hb:hq.get i with
  |none=>rw[hb] at hr;cases hr
  |some b=>
   rw[hb] at hr;rw[h2_at i _ ((J.at_ i b).1 hb)];simp only[aI,H_] at hr ⊢;exact hr
 have rows2:cw h h2:=λj r hr=>by
  by_cases hj:∃ i,i<np/\j=h_ σ i
  .obtain⟨i,hi,rfl⟩:=hj;rw[<- glo i hi] at hr ⊢;exact Ft np hsr i hi r hr
  .have hjn:j<nx:=by
    rw[bU] at hr;cases hb:h.get j with
    |none=>rw[hb] at hr;cases hr
    |some b=>exact hinv.low j b hb
   have:=cw.kill m h j r hr;rw[bU] at this ⊢;rw[h2_ne j (λi hi e=>?_)]
   .exact this
   .by_cases hip:i<np
    .exact hj ⟨i,hip,by rw[e,glo i hip]⟩
    .rw[ghi i (by omega)] at e;omega
 obtain⟨lr,hlr⟩:=fK hq rs J.ok;obtain⟨lp,hlp⟩:=fK hp vs I.ok;have er2:∀ i b yb,hq.get i=af b->kM hq b=af yb->bA h2 (nm (g i))=af (yb.ren (HJ g)):=λi b yb hb hyb=>by
  rw[bJ,h2_at i _ ((J.at_ i b).1 hb)];exact Dc rows_hq hyb
 have er2':∀ i,i<nq->∀ z,bA h2 (nm (g i))=af z->∃ b yb,hq.get i=af b/\kM hq b=af yb/\z=yb.ren (HJ g):=λi hi z hz=>by
  have hi':i<l2.length:=by rw[J.len,hnq];exact hi
  have hcc:=aB hi';cases hcv:l2[i] with
  |none=>
   rw[hcv] at hcc;rw[bJ,h2_at i ah hcc] at hz;simp only at hz;cases hkg:(eM m h).get (g i) with
   |none=>rw[hkg] at hz;cases hz
   |some b0=>rw[hkg] at hz;cases b0<;>simp[vk,kM] at hz
  |some b=>
   rw[hcv] at hcc;have hb:=(J.at_ i b).2 hcc;rw[bJ,h2_at i (af b) hcc] at hz;have hyb:∃ yb,kM hq b=af yb:=by
    cases b with
    |rows ty p T xs=>simp only[aI,lO,kM] at hz ⊢;exact⟨z,hz⟩
    |cells ty q=>
     obtain⟨q',hq'⟩:=fK hq q (J.cells i ty q hb).1;exact⟨_,by simp only[kM,hq'];rfl⟩
    |dead p sz n=>simp[lO,kM] at hz
    |mp K V es=>exact⟨_,rfl⟩
   obtain⟨yb,hyb⟩:=hyb;have:=Dc rows_hq hyb;simp only[aI] at hz;rw[this] at hz;exact⟨b,yb,hb,hyb,by cases hz;rfl⟩
 have dead2:∀ i,aN m i=ai->bA h2 (nm i)=ah:=λi hi=>by
  have hlt:=hmr.lt hinv hi;rw[bJ,h2_ne i (λk hk e=>?_)]
  .obtain⟨p,sz,n,hd⟩:=tW hmr hi;rw[hd];rfl
  .by_cases hkp:k<np
   .rw[e,glo k hkp,hmS k hkp] at hi;cases hi
   .rw[ghi k (by omega)] at e;omega
 have inv2:ma h2 (nx+(nq-np)):=by
  refine ⟨λj ty q hj=>?_,λj b hj=>?_⟩
  .by_cases hjg:∃ i,i<nq/\j=g i
   .obtain⟨i,hi,rfl⟩:=hjg;have hi':i<l2.length:=by rw[J.len,hnq];exact hi
    have hcc:=aB hi';cases hcv:l2[i] with
    |none=>
     rw[hcv] at hcc;rw[h2_at i ah hcc] at hj;simp only at hj;cases hkg:(eM m h).get (g i) with
     |none=>rw[hkg] at hj;cases hj
     |some b0=>rw[hkg] at hj;cases b0<;>simp[vk] at hj
    |some b=>
     rw[hcv] at hcc;have hb:=(J.at_ i b).2 hcc;rw[h2_at i (af b) hcc] at hj;simp only[ak] at hj;cases b with
     |cells ty' q'=>
      simp only[lO,io.cells.injEq] at hj;obtain⟨_,rfl⟩:=hj;obtain⟨z,hz⟩:=fK hq q' (J.cells i ty' q' hb).1;exact lG _ _ _ (qD rows_hq q' z hz)
     |rows _ _ _ _=>simp[lO] at hj
     |dead _ _ _=>simp[lO] at hj
     |mp _ _ _=>simp[lO] at hj
   .rw[h2_ne j (λi hi e=>hjg ⟨i,hi,e⟩)] at hj;refine iS rows2 q ?_;have hkk:=(hinv.kill m).cells j ty q hj;rw[iW] at hj;split at hj
    .rename_i ht;obtain⟨_,_,_,_,hb⟩:=hmr j ht;rw[hb] at hj;cases hj
    .exact hinv.cells j ty q hj
  .by_cases hjg:∃ i,i<nq/\j=g i
   .obtain⟨i,hi,rfl⟩:=hjg;by_cases hip:i<np
    .rw[glo i hip];have:=gnx i hip;omega
    .rw[ghi i (by omega)];omega
   .rw[h2_ne j (λi hi e=>hjg ⟨i,hi,e⟩)] at hj;have:=(hinv.kill m).low j b hj;omega
 let S:List Nat:=(c4 np).map λi=>nm (h_ σ i)
 have memS:∀ n,n∈S↔∃ i,i<np/\n=nm (h_ σ i):=λn=>by
  simp only[S,c_,jL];exact⟨λ⟨i,h1,h2⟩=>⟨i,h1,h2.symm⟩,λ⟨i,h1,h2⟩=>⟨i,h1,h2.symm⟩⟩
 let NN:List Nat:=(c4 (nq-np)).map λt=>nm (nx+t)
 have memN:∀ n,n∈NN↔∃ t,t<nq-np/\n=nm (nx+t):=λn=>by
  simp only[NN,c_,jL];exact⟨λ⟨i,h1,h2⟩=>⟨i,h1,h2.symm⟩,λ⟨i,h1,h2⟩=>⟨i,h1,h2.symm⟩⟩
 have memW:∀ n,n∈S++FA m++NN↔(∃ i,i<nq/\n=nm (g i))\/n∈FA m:=λn=>by
  rw[bP,bP,memS,memN];constructor
  .rintro ((⟨i,hi,rfl⟩|hn)|⟨t,ht,rfl⟩)
   .exact .inl ⟨i,by omega,by rw[glo i hi]⟩
   .exact .inr hn
   .exact .inl ⟨np+t,by omega,by rw[ghi _ (by omega),show np+t-np=t from by omega]⟩
  .rintro (⟨i,hi,rfl⟩|hn)
   .by_cases hip:i<np
    .exact .inl (.inl ⟨i,hip,by rw[glo i hip]⟩)
    .exact .inr ⟨i-np,by omega,by rw[ghi i (by omega)]⟩
   .exact .inl (.inr hn)
 have hOpT:gL P o (fR e h) (bA h) ⟨D' (AV.renL (HJ g) lr),S++FA m,S++FA m++NN,bA h2,NN⟩:=by
  intro φ E h' w a hrd hwr hops hrep hN;have hS':∀ i,i<np->h' (nm (h_ σ i))=bA h (nm (h_ σ i)):=λi hi=>hrd _ (k9 _ ((memS _).2 ⟨i,hi,rfl⟩))
  have hM':∀ i,aN m i=ai->h' (nm i)=bA h (nm i):=λi hi=>hrd _ (nz _ (ly.2 hi))
  obtain⟨us,hrun,hrel⟩:=hexec φ E h' w a hops hrep
  let Hv:HF:=λn=>if n∈S++FA m then bA hv n else h' n
  have Hv_in:∀ n,n∈S++FA m->Hv n=bA hv n:=λn hn=>by simp only[Hv,hn,bG]
  have Hv_out:∀ n,n∉S++FA m->Hv n=h' n:=λn hn=>by simp only[Hv,hn,eA]
  have blkS:∀ i,i<np->∀ z,bA hv (nm (h_ σ i))=af z->∃ b0 b y0,h.get (h_ σ i)=af b0/\l1[i]? =af (af b)/\BM (h_ σ) h m b0 (lO (h_ σ) b)/\kM h b0=af y0/\kM hv (lO (h_ σ) b)=af z:=λi hi z hz=>by
   obtain⟨b,hb⟩:=hl1 i hi;obtain⟨b0,U,Z⟩:=hbm i b hb;rw[bJ,hv_at i b hb] at hz;simp only[aI] at hz;obtain⟨y0,hy0⟩:=BM.erB_some hinv U Z hz;exact⟨b0,b,y0,U,hb,Z,hy0,hz⟩
  have hd:vC h' Hv:=λn b hb=>by
   by_cases hn:n∈S++FA m
   .rw[Hv_in n hn] at hb;rcases bP.1 hn with hs|hs
    .obtain⟨i,hi,rfl⟩:=(memS n).1 hs;obtain⟨b0,b1,y0,U,Z,q3,q4,q5⟩:=blkS i hi b hb;exact⟨y0,by rw[hS' i hi,bJ,U];exact q4⟩
    .obtain⟨i,rfl,hi⟩:=nL.1 hs;rw[dead_m i hi] at hb;cases hb
   .rw[Hv_out n hn] at hb;exact⟨b,hb⟩
  have gvv:D9 h h' Hv m:=λi hi=>⟨hM' i hi,by rw[Hv_in _ (nz _ (ly.2 hi)),dead_m i hi]⟩
  have V:Ky h' Hv:=⟨hd,λn b b' hb hb'=>by
   by_cases hn:n∈S++FA m
   .rw[Hv_in n hn] at hb';rcases bP.1 hn with hs|hs
    .obtain⟨i,hi,rfl⟩:=(memS n).1 hs;obtain⟨b0,b1,y0,U,Z,q3,q4,q5⟩:=blkS i hi b' hb';rw[hS' i hi,bJ,U] at hb;simp only[aI] at hb;exact BM.view hd gvv rows_in q3 hb q5
    .obtain⟨i,rfl,hi⟩:=nL.1 hs;rw[dead_m i hi] at hb';cases hb'
   .rw[Hv_out n hn,hb] at hb';cases hb';exact kl.refl hd b⟩
  have hrepv:=V.rep hrep;have hlpg:cR hv (ky (h_ σ) vs)=af (AV.renL (HJ (h_ σ)) lp):=qD rows_hp vs lp hlp;have hrel1:jW φ (tot E φ Hv) w (AV.renL (HJ (h_ σ)) lp) us:=
   jW.le hrep (C9 hd rows_in c.pre.vs l x1 m1 _ la _ gv pvg hla hlpg (λi hi=>gvv i (by rw[hmm,bp,hi];rfl))) hrel
  let E':Nat->Prop:=λk=>E k\/∃ n b,Hv n=af b/\n∉S/\φ n=af k
  have T:afp c.pre x vs hp (h_ σ) φ E E' Hv w:=by
   refine qY.toId I (λa b ha hb=>inj1 a b (by rw[<- hnp];exact ha) (by rw[<- hnp];exact hb)) hrepv (λi b yb hb hyb=>?_) ?_ ?_ ?_
   .have hi:=I.lt_len hb;rw[hnp] at hi;rw[Hv_in _ (k9 _ ((memS _).2 ⟨i,hi,rfl⟩)),bJ,hv_at i b ((I.at_ i b).1 hb)];exact Dc rows_hp hyb
   .rintro k (hE|⟨n,b,h1,_,Y⟩)
    .exact .inl hE
    .exact .inr ⟨n,b,h1,Y⟩
   .rintro i k b hi h1 Y (hE|⟨n,b',h4,h5,h6⟩)
    .obtain⟨k',p1,p2,_⟩:=hrepv.at_ _ _ h1;rw[Y] at p1;cases p1;exact p2 hE
    .have:=hrepv.inj _ _ _ _ k h1 h4 Y h6;exact h5 (by rw[<- this];exact (memS _).2 ⟨i,by rw[<- hnp];exact hi,rfl⟩)
   .rintro k (hE|⟨n,b,h1,_,Y⟩)
    .exact hrepv.el k hE
    .obtain⟨k',U,_,ob,q3,_⟩:=hrepv.at_ n b h1;rw[Y] at U;cases U;exact (cF.1 q3).1
  have hcalls:=sp.calls x y hm vs hp l1 rs hq l2 lp lr I J hlp hlr (φ1 c.pre.bs.length (h_ σ) φ) E' w us T.rep (jW.toId T.val (tC vs lp I.lt hlp) hrel1) (λn k hk=>by
   obtain⟨i,hi,rfl,_⟩:=xf hk;rw[em];exact hi)
  unfold Ho;rw[hrun];refine Calls.mono hcalls ?_;rintro en w' ⟨v,φc',rfl,hext,hown,hnm,rp,rv'⟩
  let isN:Nat->Prop:=λn=>n∈NN
  let φ':PM:=λn=>if n∈NN then φc' (nm (np+(ow n-nx))) else φ n
  have φ'_new:∀ t,t<nq-np->φ' (nm (nx+t))=φc' (nm (np+t)):=λt ht=>by
   have:nm (nx+t)∈NN:=(memN _).2 ⟨t,ht,rfl⟩;simp only[φ',this,bG,em];rw[show nx+t-nx=t from by omega]
  have φ'_old:∀ n,n∉NN->φ' n=φ n:=λn hn=>by simp only[φ',hn,eA]
  have loN:∀ i,i<nx->nm i∉NN:=λi hi hn=>by
   obtain⟨t,_,e⟩:=(memN _).1 hn;have:=kP e;omega
  have φ'_g:∀ i,i<nq->φ' (nm (g i))=φc' (nm i):=λi hi=>by
   by_cases hip:i<np
   .rw[glo i hip,φ'_old _ (loN _ (gnx i hip)),hnm i (by rw[hnp];exact hip),ZK (by rw[hnp];exact hip)]
   .rw[ghi i (by omega),φ'_new _ (by omega),show np+(i-np)=i from by omega]
  have hsub:∀ n k,φ n=af k->φ' n=af k:=λn k hk=>by
   by_cases hn:n∈NN
   .rw[hN n hn] at hk;cases hk
   .rw[φ'_old n hn];exact hk
  let F:HF:=eS h' (S++FA m++NN) (bA h2)
  have F_g:∀ i,i<nq->F (nm (g i))=bA h2 (nm (g i)):=λi hi=>by
   simp only[F,eS,(memW _).2 (.inl ⟨i,hi,rfl⟩),bG]
  have F_out:∀ n,n∉S++FA m++NN->F n=h' n:=λn hn=>by simp only[F,eS,hn,eA]
  have from_:∀ n b,F n=af b->(∃ i bq yb,i<nq/\n=nm (g i)/\hq.get i=af bq/\kM hq bq=af yb/\b=yb.ren (HJ g))\/(h' n=af b/\Hv n=af b/\n∉S/\n∉NN/\φ' n=φ n):=λn b hb=>by
   by_cases hn:n∈S++FA m++NN
   .rcases (memW n).1 hn with ⟨i,hi,rfl⟩|hs
    .rw[F_g i hi] at hb;obtain⟨bq,yb,U,Z,q3⟩:=er2' i hi b hb;exact .inl ⟨i,bq,yb,hi,rfl,U,Z,q3⟩
    .obtain⟨i,rfl,hi⟩:=nL.1 hs;have:F (nm i)=bA h2 (nm i):=by simp only[F,eS,hn,bG]
     rw[this,dead2 i hi] at hb;cases hb
   .rw[F_out n hn] at hb;have h1:n∉S++FA m:=λhh=>hn (k9 _ hh)
    have Y:n∉NN:=λhh=>hn (nz _ hh)
    exact .inr ⟨hb,by rw[Hv_out n h1];exact hb,λhh=>h1 (k9 _ hh),Y,φ'_old n Y⟩
  have own':∀ k,own φ' F k->own φc' (bA hq) k\/∃ n b,Hv n=af b/\n∉S/\φ n=af k:=by
   rintro k ⟨n,b,h1,Y⟩;rcases from_ n b h1 with ⟨i,bq,yb,hi,rfl,U,Z,_⟩|⟨_,Z,q3,_,q5⟩
   .rw[φ'_g i hi] at Y;exact .inl ⟨nm i,yb,by rw[bJ,U];exact Z,Y⟩
   .exact .inr ⟨n,b,Z,q3,by rw[<- q5];exact Y⟩
  have mv:iY φ φ' h' F w w':=by
   refine ⟨hsub,hext.mono λk hk=>hd.own (T.own_ k hk),λk hk ho=>?_⟩;rcases own' k ho with h1|⟨n,b,h1,_,Y⟩
   .exact hd.own (T.own_ k (hown k hk h1))
   .exact hd.own ⟨n,b,h1,Y⟩
  have tot':∀ k,tot E φ' F k->tot E' φc' (bA hq) k:=by
   rintro k (h1|h1)
   .exact .inl (.inl h1)
   .rcases own' k h1 with Y|Y
    .exact .inr Y
    .exact .inl (.inr Y)
  let φr:PM:=λn=>if Wt nq n then φc' n else ah
  have rel_r:∀ x v,x.all (Wt nq)=ai->cW φc' (tot E' φc' (bA hq)) w' x v->cW φr (tot E φ' F) w' x v:=λx v hx hr=>
   hr.restrict (λi k hi hk=>by simp only[φr,hi,bG];exact hk) tot' hx
  have rel_g:∀ x v,cW φr (tot E φ' F) w' x v->cW φ' (tot E φ' F) w' (x.ren (HJ g)) v:=λx v hr=>
   hr.renTo λn k hk=>by
    simp only[φr] at hk;split at hk
    .rename_i hpn;obtain⟨i,hi,rfl⟩:=aa2 hpn;rw[xF,φ'_g i hi];exact hk
    .cases hk
  have hnqJ:=hnq;refine ⟨v,φ',rfl,mv,λn k hk=>?_,?_,?_⟩
  .by_cases hn:n∈NN
   .exact .inr hn
   .rw[φ'_old n hn] at hk;exact .inl hk
  .refine ⟨λn n' b b' k h1 Y h4 h5=>?_,λn b h1=>?_,λk hk=>dz (hrep.el k hk) mv.ext.size,λg' cells hg=>mv.keepF (hrep.gl g' cells hg)⟩
   .rcases from_ n b h1 with ⟨i,bq,yb,hi,rfl,U,Z,_⟩|⟨U,Z,q3,_,q5⟩
    .rw[φ'_g i hi] at h4;have hqi:bA hq (nm i)=af yb:=by rw[bJ,U];exact Z
     rcases from_ n' b' Y with ⟨j,bj,yj,hj,rfl,t1,t2,_⟩|⟨t1,t2,t3,_,t5⟩
     .rw[φ'_g j hj] at h5;have:=rp.inj _ _ _ _ k hqi (by rw[bJ,t1];exact t2) h4 h5;rw[kP this]
     .exfalso;obtain⟨k',p1,p2,_⟩:=rp.at_ _ _ hqi;rw[h4] at p1;cases p1;exact p2 (.inr ⟨n',b',t2,t3,by rw[<- t5];exact h5⟩)
    .rcases from_ n' b' Y with ⟨j,bj,yj,hj,rfl,t1,t2,_⟩|⟨t1,t2,t3,_,t5⟩
     .exfalso;rw[φ'_g j hj] at h5;have hqj:bA hq (nm j)=af yj:=by rw[bJ,t1];exact t2
      obtain⟨k',p1,p2,_⟩:=rp.at_ _ _ hqj;rw[h5] at p1;cases p1;exact p2 (.inr ⟨n,b,Z,q3,by rw[<- q5];exact h4⟩)
     .exact hrep.inj n n' b b' k U t1 (by rw[<- q5];exact h4) (by rw[<- t5];exact h5)
   .rcases from_ n b h1 with ⟨i,bq,yb,hi,rfl,U,Z,rfl⟩|⟨U,Z,q3,_,q5⟩
    .have hqi:bA hq (nm i)=af yb:=by rw[bJ,U];exact Z
     obtain⟨k,p1,p2,ob,p3,p4⟩:=rp.at_ _ _ hqi;have hall:=J.blk_all U Z;rw[hnq] at hall;exact⟨k,by rw[φ'_g i hi];exact p1,λhE=>p2 (.inl hE),ob,p3,(p4.restrict rel_r hall).renTo rel_g⟩
    .obtain⟨k,p1,p2,ob,p3,p4⟩:=hrep.at_ n b U;have hk:k<w.heap.size:=(cF.1 p3).1;refine ⟨k,hsub n k p1,p2,ob,?_,p4.mono λx v hr=>mv.keep hr⟩;rw[hext.blk k hk ?_]
     .exact p3
     .rintro⟨n',y',t1,t2⟩;obtain⟨i,hi,rfl,t3⟩:=xf t2;obtain⟨j,bb,e,t4,t5⟩:=jv t1;have:=kP e;subst this;have hi':i<np:=by rw[<- hnp];exact hi
      have hvi:Hv (nm (h_ σ i))=af (y'.ren (HJ (h_ σ))):=by
       rw[Hv_in _ (k9 _ ((memS _).2 ⟨i,hi',rfl⟩)),bJ,hv_at i bb ((I.at_ i bb).1 t4)];exact Dc rows_hp t5
      have:=hrepv.inj _ _ _ _ k hvi Z t3 p1;exact q3 (by rw[<- this];exact (memS _).2 ⟨i,hi',rfl⟩)
  .have hall:(D' lr).all (Wt nq)=ai:=ZV (by have:=tC rs lr J.lt hlr;rwa [hnq] at this);show cW φ' (tot E φ' F) w' (D' (AV.renL (HJ g) lr)) v;rw[ZU];exact rel_g _ _ (rel_r _ _ hall rv')
 have hrsg:cR h2 (ky g rs)=af (AV.renL (HJ g) lr):=qD rows_hq rs lr hlr;refine ⟨⟨_,hOpT,λz hz=>?_,?_,λn hn=>?_,λn hn=>?_,λn hn=>?_⟩,rows2,inv2,by omega,λhs=>by cases hs⟩
 .rw[Wo hrsg] at hz;cases hz;rfl
 .funext n;unfold eS;split
  .rfl
  .rename_i hn;refine (kL hinv rows2 λi e=>?_).symm;subst e;rw[h2_ne i (λk hk e=>hn ((memW _).2 (.inl ⟨k,hk,by rw[e]⟩))),iW,ay];intro hb;exact hn ((memW _).2 (.inr (ly.2 hb)))
 .rw[bp];rcases bP.1 hn with hs|hs
  .obtain⟨i,hi,rfl⟩:=(memS n).1 hs;rw[em,(sig _).2 ⟨i,hi,rfl⟩];rfl
  .obtain⟨i,rfl,hi⟩:=nL.1 hs;rw[em,hi];simp
 .rw[bp,bp];rcases bP.1 hn with hs|hs
  .rcases bP.1 hs with hs|hs
   .obtain⟨i,hi,rfl⟩:=(memS n).1 hs;rw[em,(sig _).2 ⟨i,hi,rfl⟩];rfl
   .obtain⟨i,rfl,hi⟩:=nL.1 hs;rw[em,hi];simp
  .obtain⟨t,ht,rfl⟩:=(memN n).1 hs;rw[em,ae7.2 ⟨by omega,by omega⟩];simp
 .obtain⟨t,ht,rfl⟩:=(memN n).1 hn;rw[em];omega
mutual
def FV.fl:FV->Bool
 |.raw _=>ai
 |.agg l=>FV.flL l
 |.sl _ _=>aj
 |.ptr _ _=>aj
def FV.flL:List FV->Bool
 |[]=>ai
 |x::r=>x.fl&&FV.flL r
end
theorem W2:∀ {l:List FV},FV.flL l=ai->∀ x∈l,x.fl=ai
 |[],_,x,I=>by cases I
 |y::l,h,x,I=>by
  simp only[FV.flL,av] at h;rcases bm.1 I with rfl|I
  .exact h.1
  .exact W2 h.2 x I
theorem abc:∀ {l:List FV},(∀ x∈l,x.fl=ai)->FV.flL l=ai
 |[],_=>rfl
 |y::l,h=>by simp only[FV.flL,av];exact⟨h y (by simp),abc λx I=>h x (by simp[I])⟩
theorem nh.flat {O O':Nat->Prop} {w w':World} {x:FV} {v:Value} (h:nh O w x v):x.fl=ai->nh O' w' x v:=by
 induction h with
 |raw v=>intro _;exact .raw v
 |nil a c hc=>intro h;cases h
 |sl cells n c b off us hn hc hO hb hcl hu hr I=>intro h;cases h
 |ptr cells o b off us hO hb hcl hu hr I=>intro h;cases h
 |agg cells vs hl hcl hr I=>intro h;exact .agg cells vs hl hcl λj x v J hv=>I j x v J hv (W2 h x (ba J))
mutual
def AV.fl:AV->Bool
 |.f x=>x.fl
 |.emp=>ai
 |.anyb=>ai
 |.agg l=>AV.flL l
 |.tup l=>AV.flL l
 |.ptr _ _=>aj
 |.sl _ _ _=>aj
 |.row _ _ _=>aj
 |.mp _=>aj
 |.clo _ _=>aj
def AV.flL:List AV->Bool
 |[]=>ai
 |x::r=>x.fl&&AV.flL r
end
theorem Kx:∀ {l:List AV},AV.flL l=ai->∀ x∈l,x.fl=ai
 |[],_,x,I=>by cases I
 |y::l,h,x,I=>by
  simp only[AV.flL,av] at h;rcases bm.1 I with rfl|I
  .exact h.1
  .exact Kx h.2 x I
theorem Xv:∀ {l:List AV},(∀ x∈l,x.fl=ai)->AV.flL l=ai
 |[],_=>rfl
 |y::l,h=>by simp only[AV.flL,av];exact⟨h y (by simp),Xv λx I=>h x (by simp[I])⟩
theorem cW.flat {φ φ':PM} {O O':Nat->Prop} {w w':World} {x:AV} {v:Value} (h:cW φ O w x v):x.fl=ai->cW φ' O' w' x v:=by
 induction h with
 |f h=>intro hf;exact .f (h.flat hf)
 |ptr h=>intro hf;cases hf
 |sl h hn hc=>intro hf;cases hf
 |row h hn hc hsh=>intro hf;cases hf
 |emp=>intro _;exact .emp
 |anyb=>intro _;exact .anyb
 |mp h=>intro hf;cases hf
 |agg hl hcl hr J=>intro hf;exact .agg hl hcl λj x v I hv=>J j x v I hv (Kx hf x (ba I))
 |tup hl hr J=>intro hf;exact .tup hl λj x v I hv=>J j x v I hv (Kx hf x (ba I))
 |clo hl hr J=>intro hf;cases hf
mutual
theorem aim (γ:Nat->Nat):∀ x:AV,x.fl=ai->x.ren γ=x
 |.f x,_=>rfl
 |.emp,_=>rfl
 |.anyb,_=>rfl
 |.agg l,h=>by simp only[AV.ren];rw[HL γ l h]
 |.tup l,h=>by simp only[AV.ren];rw[HL γ l h]
 |.ptr _ _,h=>by cases h
 |.sl _ _ _,h=>by cases h
 |.row _ _ _,h=>by cases h
 |.mp _,h=>by cases h
 |.clo _ _,h=>by cases h
theorem HL (γ:Nat->Nat):∀ l:List AV,AV.flL l=ai->AV.renL γ l=l
 |[],_=>rfl
 |x::r,h=>by
  simp only[AV.flL,av] at h;rw[AV.renL,aim γ x h.1,HL γ r h.2]
end
theorem Aj:∀ (T:Ty),T.flat=ai->∀ x:T.den,∀ y∈bS T x,y.fl=ai
 |.int _,_,x,y,I=>by simp only[bS,aL] at I;subst I;rfl
 |.bool,_,x,y,I=>by simp only[bS,aL] at I;subst I;rfl
 |.str,_,x,y,I=>by simp only[bS,aL] at I;subst I;rfl
 |.sl _,h,x,y,I=>by cases h
 |.st t,h,x,y,I=>Aj t h x y I
 |.pr a b,h,x,y,I=>by
  simp only[Ty.flat,av] at h;simp only[bS,bP] at I;exact I.elim (Aj a h.1 x.1 y) (Aj b h.2 x.2 y)
 |.un,_,x,y,I=>by simp[bS] at I
 |.ex,h,_,_,_=>by cases h
 |.sm,h,_,_,_=>by cases h
theorem aew (T:Ty) (h:T.flat=ai) (x:T.den):(gJ T x).fl=ai:=by
 cases I:T.one with
 |true=>
  have:=Aj T h x (gJ T x) (by rw[(Df T x I).1];simp);exact this
 |false=>rw[qE T x I];exact abc (Aj T h x)
theorem PY (a b:Ty):(spr a b).flat=(a.flat&&b.flat):=by
 cases a<;>cases b<;>simp[spr,GG,Ty.flat]
theorem IA {n:Nat}:∀ {a b:List TV},rB n (a++b)=ai->rB n a=ai/\rB n b=ai
 |[],b,h=>⟨rfl,h⟩
 |x::r,b,h=>by
  simp only[gm,rB,av] at h ⊢;obtain⟨h1,h2⟩:=IA h.2;exact⟨⟨h.1,h1⟩,h2⟩
mutual
theorem ady {g:Nat->Nat} {h:bh}:∀ (p:PV) (x:p.ty.den) (cs:List TV) (l:List AV),p.ty.flat=ai->pP g p x=af cs->rB 0 cs=ai->cR h cs=af l->∀ y∈l,y.fl=ai
 |.d T,x,cs,l,hf,hp,_,hl,y,hy=>by
  have:=(lH h 40 T x cs hp).1;rw[hl] at this;cases this;obtain⟨q,hq,rfl⟩:=c_.1 hy;exact Aj T hf x q hq
 |.ptr i q,x,cs,l,hf,hp,hlt,hl,y,hy=>by
  simp only[pP,ak] at hp;subst hp;simp[rB,Lg] at hlt
 |.csl i q z,x,cs,l,hf,hp,hlt,hl,y,hy=>by
  simp only[pP,ak] at hp;subst hp;simp[rB,Lg] at hlt
 |.clo q i z,x,cs,l,hf,hp,hlt,hl,y,hy=>by
  simp only[pP,ak] at hp;subst hp;simp[rB,Lg] at hlt
 |.row i,x,cs,l,hf,hp,hlt,hl,y,hy=>by
  simp only[pP,ak] at hp;subst hp;simp[rB,Lg] at hlt
 |.mp i,x,cs,l,hf,hp,hlt,hl,y,hy=>by
  simp only[pP,ak] at hp;subst hp;simp[rB,Lg] at hlt
 |.nil,x,cs,l,hf,hp,hlt,hl,y,hy=>by
  simp only[pP,ak] at hp;subst hp;simp only[cR,cr,ak] at hl;subst hl;simp only[aL] at hy;subst hy;rfl
 |.emp,x,cs,l,hf,hp,hlt,hl,y,hy=>by
  simp only[pP,ak] at hp;subst hp;simp only[cR,cr,ak] at hl;subst hl;simp only[aL] at hy;subst hy;rfl
 |.agg ps,x,cs,l,hf,hp,hlt,hl,y,hy=>Ig ps x cs l hf hp hlt hl y hy
theorem Ig {g:Nat->Nat} {h:bh}:∀ (ps:List PV) (x:(PV.tyL ps).den) (cs:List TV) (l:List AV),(PV.tyL ps).flat=ai->qV g ps x=af cs->rB 0 cs=ai->cR h cs=af l->∀ y∈l,y.fl=ai
 |[],x,cs,l,hf,hp,hlt,hl,y,hy=>by
  simp only[qV,ak] at hp;subst hp;simp only[cR,ak] at hl;subst hl;cases hy
 |p::ps,x,cs,l,hf,hp,hlt,hl,y,hy=>by
  simp only[PV.tyL] at hf;rw[PY,av] at hf;simp only[qV] at hp;split at hp
  .rename_i a ha;split at hp
   .rename_i b hb;simp only[ak] at hp;subst hp;obtain⟨a',b',rfl,e1,e2⟩:=B3 hl;have hsp:=IA hlt;rcases bP.1 hy with hy|hy
    .exact ady p _ a a' hf.1 ha hsp.1 e1 y hy
    .exact Ig ps _ b b' hf.2 hb hsp.2 e2 y hy
   .cases hp
  .cases hp
end
theorem adw {g:Nat->Nat} {h:bh} {p:PV} {x:p.ty.den} {u:TV} {y:AV} (hf:p.ty.flat=ai) (hp:tj g p x=af u) (hlt:Lg 0 u=ai) (I:cr h u=af y):y.fl=ai:=by
 cases p with
 |d T=>
  simp only[tj,ak] at hp;subst hp;simp only[cr,ak] at I;subst I;exact aew T hf x
 |agg ps=>
  simp only[tj] at hp;split at hp
  .rename_i l hl;simp only[ak] at hp;subst hp;simp only[cr] at I;split at I
   .rename_i M J;simp only[ak] at I;subst I;exact Xv (Ig ps _ l M hf hl hlt J)
   .cases I
  .cases hp
 |ptr i q=>simp only[tj,ak] at hp;subst hp;simp[Lg] at hlt
 |csl i q z=>simp only[tj,ak] at hp;subst hp;simp[Lg] at hlt
 |row i=>simp only[tj,ak] at hp;subst hp;simp[Lg] at hlt
 |clo q i z=>simp only[tj,ak] at hp;subst hp;simp[Lg,rB] at hlt
 |mp i=>simp only[tj,ak] at hp;subst hp;simp[Lg] at hlt
 |nil=>simp only[tj,ak] at hp;subst hp;simp only[cr,ak] at I;subst I;rfl
 |emp=>simp only[tj,ak] at hp;subst hp;simp only[cr,ak] at I;subst I;rfl
theorem Qg {g:Nat->Nat} {h:bh}:∀ (ps:List PV) (x:(PV.tyL ps).den) (us:List TV) (l:List AV),(PV.tyL ps).flat=ai->pY g ps x=af us->rB 0 us=ai->cR h us=af l->AV.flL l=ai
 |[],x,us,l,hf,hp,hlt,hl=>by
  simp only[pY,ak] at hp;subst hp;simp only[cR,ak] at hl;subst hl;rfl
 |p::ps,x,us,l,hf,hp,hlt,hl=>by
  simp only[PV.tyL] at hf;rw[PY,av] at hf;simp only[pY] at hp;split at hp
  .rename_i a I;split at hp
   .rename_i b hb;simp only[ak] at hp;subst hp;obtain⟨y,l2,rfl,e1,e2⟩:=c5 hl;simp only[rB,av] at hlt;simp only[AV.flL,av];exact⟨adw hf.1 I hlt.1 e1,Qg ps _ b l2 hf.2 hb hlt.2 e2⟩
   .cases hp
  .cases hp
theorem adn:∀ {l:List AV},AV.flL l=ai->(D' l).fl=ai
 |[],_=>rfl
 |[x],h=>by simp only[AV.flL,av] at h;exact h.1
 |x::y::r,h=>h
theorem afa {P:Program} {o:Oper} {e:iJ} {h:bh} {nx:Nat} {f:FuncId} {c:cf} {l:List TV} (hinv:ma h nx) (sp:pN P f c) {x:c.pre.ty.den} {m:Nat} {σ:PT Nat} {sm:Nat} (M:HR 0 c.pre l h x m σ sm) {vs:List TV} {hp:bh} {l1:List (Option io)} (I:qM c.pre x vs hp l1) {y:c.post.ty.den} (hm:c.m x=af y) {rs:List TV} {hq:bh} {l2:List (Option io)} (J:qM c.post y rs hq l2) (hp0:c.pre.bs.length=0) (hq0:c.post.bs.length=0) (hfl:(PV.tyL c.post.vs).flat=ai)
 (g:Nat->Nat) {la:List AV} (hla:cR h l=af la)
 (hexec:∀ (φ:PM) (E:Nat->Prop) (h':HF) (w:World) (a:Act),(∀ t,.tmp t∈o.op.operands->∀ y,fR e h t=af y->cW φ (tot E φ h') w y (a.tmps.getD t undef))->qY φ E h' w->∃ us:List Value,(execOp a.eval o).run P w= .ok (.enter f us.toArray) w/\jW φ (tot E φ h') w la us):
 jm P o aj e h nx (Qa (ky g rs)) m 0 h nx:=by
 obtain⟨x1,m1,x2,m2,hx,hmm,gv,gb⟩:=M.ex;have hmr:dX h m:=by rw[hmm];exact (HG _ _ _ _ gv).or (HI _ _ _ _ gb)
 have pvg:pY (h_ σ) c.pre.vs x1=af (ky (h_ σ) vs):=by
  have U:=tO (h_ σ) c.pre.vs x1;have h4:=I.pv;rw[hx,tH] at h4;rw[U,h4];rfl
 obtain⟨lr,hlr⟩:=fK hq rs J.ok;obtain⟨lp,hlp⟩:=fK hp vs I.ok;have hfl':AV.flL lr=ai:=Qg c.post.vs _ rs lr hfl J.pv (by rw[<- hq0];exact J.lt) hlr;have hpe:∀ i,hp.get i=ah:=λi=>by
  cases hb:hp.get i with
  |none=>rfl
  |some b=>have:=I.lt_len hb;omega
 have hqe:∀ i,hq.get i=ah:=λi=>by
  cases hb:hq.get i with
  |none=>rfl
  |some b=>have:=J.lt_len hb;omega
 have rows_hp:∀ i r,eC hp i=af r->eC (eM m h) (h_ σ i)=af r:=λi r hr=>by rw[bU,hpe] at hr;cases hr
 have rows_hq:∀ i r,eC hq i=af r->eC h (g i)=af r:=λi r hr=>by rw[bU,hqe] at hr;cases hr
 have rows_in:xT (eM m h) h:=λj r hr=>by
  rw[bU] at hr ⊢;rw[iW] at hr;split at hr
  .rename_i ht;obtain⟨ty,p,T,xs,hb⟩:=hmr j ht;rw[hb] at hr ⊢;exact hr
  .exact hr
 have hOpT:gL P o (fR e h) (bA h) ⟨D' lr,FA m,[],λ_=>ah,[]⟩:=by
  intro φ E h' w a hrd hwr hops hrep hN;obtain⟨us,hrun,hrel⟩:=hexec φ E h' w a hops hrep
  let Hv:HF:=λn=>if n∈FA m then ah else h' n
  have Hv_in:∀ n,n∈FA m->Hv n=ah:=λn hn=>by simp only[Hv,hn,bG]
  have Hv_out:∀ n,n∉FA m->Hv n=h' n:=λn hn=>by simp only[Hv,hn,eA]
  have hd:vC h' Hv:=λn b hb=>by
   by_cases hn:n∈FA m
   .rw[Hv_in n hn] at hb;cases hb
   .rw[Hv_out n hn] at hb;exact⟨b,hb⟩
  have gvv:D9 h h' Hv m:=λi hi=>⟨hrd _ (ly.2 hi),Hv_in _ (ly.2 hi)⟩
  have V:Ky h' Hv:=⟨hd,λn b b' hb Y=>by
   by_cases hn:n∈FA m
   .rw[Hv_in n hn] at Y;cases Y
   .rw[Hv_out n hn,hb] at Y;cases Y;exact kl.refl hd b⟩
  have hrepv:=V.rep hrep;have hlpg:cR (eM m h) (ky (h_ σ) vs)=af (AV.renL (HJ (h_ σ)) lp):=qD rows_hp vs lp hlp;have hrel1:jW φ (tot E φ Hv) w (AV.renL (HJ (h_ σ)) lp) us:=
   jW.le hrep (C9 hd rows_in c.pre.vs l x1 m1 _ la _ gv pvg hla hlpg (λi hi=>gvv i (by rw[hmm,bp,hi];rfl))) hrel
  let E':Nat->Prop:=λk=>E k\/∃ n b,Hv n=af b/\φ n=af k
  have T:afp c.pre x vs hp (h_ σ) φ E E' Hv w:=by
   refine qY.toId I (λa b ha=>by omega) hrepv (λi b yb hb=>by rw[hpe] at hb;cases hb) ?_ (λi k b hi=>by omega) ?_
   .rintro k (hE|⟨n,b,h1,U⟩)
    .exact .inl hE
    .exact .inr ⟨n,b,h1,U⟩
   .rintro k (hE|⟨n,b,h1,U⟩)
    .exact hrepv.el k hE
    .obtain⟨k',Z,_,ob,q3,_⟩:=hrepv.at_ n b h1;rw[U] at Z;cases Z;exact (cF.1 q3).1
  have hcalls:=sp.calls x y hm vs hp l1 rs hq l2 lp lr I J hlp hlr (φ1 c.pre.bs.length (h_ σ) φ) E' w us T.rep (jW.toId T.val (tC vs lp I.lt hlp) hrel1) (λn k hk=>by
   obtain⟨i,hi,rfl,_⟩:=xf hk;rw[em];exact hi)
  unfold Ho;rw[hrun];refine Calls.mono hcalls ?_;rintro en w' ⟨v,φc',rfl,hext,hown,hnm,rp,rv'⟩;have hno:∀ k,¬own (φ1 c.pre.bs.length (h_ σ) φ) (bA hp) k:=by
   rintro k ⟨n,b,h1,_⟩;obtain⟨i,bb,_,U,_⟩:=jv h1;rw[hpe] at U;cases U
  have mv:iY φ φ h' h' w w':=⟨λ_ _ h=>h,hext.mono λk hk=>cV hk (hno k),λ_ _ h=>h⟩
  refine ⟨v,φ,rfl,?_,λ_ _ h=>.inl h,?_,?_⟩
  .rw[tZ];exact mv
  .rw[tZ];refine hrep.moved mv λk hk=>?_
   obtain⟨n,b,h1,U⟩:=hk;obtain⟨k',Z,_,ob,q3,_⟩:=hrep.at_ n b h1;rw[U] at Z;cases Z;exact hext.blk k (cF.1 q3).1 (hno k)
  .exact rv'.flat (adn hfl')
 have hrsg:cR h (ky g rs)=af (AV.renL (HJ g) lr):=qD rows_hq rs lr hlr;refine ⟨⟨_,hOpT,λz hz=>?_,?_,λn hn=>?_,by simp,by simp⟩,λ_ _ h=>h,hinv,bW _,λhs=>by cases hs⟩
 .rw[Wo hrsg,HL _ lr hfl'] at hz;cases hz;rfl
 .exact tZ _ _
 .obtain⟨i,rfl,hi⟩:=nL.1 hn;rw[em];exact hi
def cf.full (c:cf):cf:=⟨c.pre,⟨c.post.vs,c.pre.bs⟩,λx=>obind (c.m x) λy=>af (Ub (PV.tyL c.post.vs) (PB.tyL c.pre.bs) (Oz _ _ y) (K6 _ _ x))⟩
def aH (P:Program) (f:FuncId) (c:cf):Prop:=if eJ c.pre.bs.length c.post.bs.length=ai then pN P f c else pN P f c.full
theorem pN.toC {P:Program} {f:FuncId} {c:cf} (h:pN P f c) (hb:eJ c.pre.bs.length c.post.bs.length=ai):aH P f c:=by
 unfold aH;rw[aF hb];exact h
theorem aH.holds {P:Program} {f:FuncId} {c:cf} (h:aH P f c) (hb:eJ c.pre.bs.length c.post.bs.length=ai):pN P f c:=by
 unfold aH at h;rw[aF hb] at h;exact h
theorem aea (a b:Ty) (z:(spr a b).den):Ub a b (Oz a b z) (K6 a b z)=z:=by cases a<;>cases b<;>rfl
open Classical in
def roM {pre:Tm} {vs:List PV} (m:pre.ty.den->Option (Tm.ty ⟨vs,pre.bs⟩).den) (x:pre.ty.den):Option (Tm.ty ⟨vs,[]⟩).den:=
 obind (m x) λy=>if K6 (PV.tyL vs) (PB.tyL pre.bs) y=K6 _ _ x then af (Ub (PV.tyL vs) (PB.tyL []) (Oz (PV.tyL vs) (PB.tyL pre.bs) y) ()) else ah
theorem aH.ro {P:Program} {f:FuncId} {pre:Tm} {vs:List PV} {m:pre.ty.den->Option (Tm.ty ⟨vs,pre.bs⟩).den} {m':pre.ty.den->Option (Tm.ty ⟨vs,[]⟩).den} (h:pN P f ⟨pre,⟨vs,pre.bs⟩,m⟩) (hb:eJ pre.bs.length 0=aj) (hs:∀ x y,m' x=af y->roM m x=af y):aH P f ⟨pre,⟨vs,[]⟩,m'⟩:=by
 unfold aH;rw[ay (by show ¬eJ pre.bs.length 0=ai;rw[hb];exact Bool.false_ne_true)];refine ⟨h.callable,λx y hxy=>?_⟩;refine h.calls x y ?_;have hxy:obind (m' x) (λy=>af (Ub (PV.tyL vs) (PB.tyL pre.bs) (Oz (PV.tyL vs) (PB.tyL []) y) (K6 _ _ x)))=af y:=hxy;obtain⟨z,M,hzy⟩:=dJ hxy;have h1:=hs x z M;unfold roM at h1;obtain⟨y0,J,h2⟩:=dJ h1;split at h2
 .rename_i heq;have h2:=jR h2;have hzy:=jR hzy;subst h2;have I:Ub (PV.tyL vs) (PB.tyL pre.bs) (Oz (PV.tyL vs) (PB.tyL pre.bs) y0) (K6 (PV.tyL pre.vs) (PB.tyL pre.bs) x)=y:=(gI (λq=>Ub (PV.tyL vs) (PB.tyL pre.bs) q (K6 (PV.tyL pre.vs) (PB.tyL pre.bs) x)) (tH (PV.tyL vs) (PB.tyL []) _ ()).symm).trans hzy;rw[<- heq] at I;have:=(aea (PV.tyL vs) (PB.tyL pre.bs) y0).symm.trans I;exact J.trans (gI af this)
 .cases h2
theorem jm.drop {P:Program} {o:Oper} {e:iJ} {h h':bh} {nx nx':Nat} {v:TV} {rd wr W wr':Nat} (t:jm P o aj e h nx v rd wr h' nx') (hW:∀ i,aN W i=ai->bA h' (nm i)=bA h (nm i)/\aN rd i=ai) (M:∀ i,aN wr i=ai->aN W i=ai\/aN wr' i=ai):jm P o aj e h nx v rd wr' h' nx':=by
 obtain⟨⟨f,h1,h2,J,h4,h5,Z⟩,r,i,g,st⟩:=t;have hs:∀ n,aN W (ow n)=ai->bA h' n=bA h n:=λn hn=>by
  by_cases I:∃ i,n=nm i
  .obtain⟨i,rfl⟩:=I;rw[em] at hn;exact (hW i hn).1
  .rw[wI h I,wI h' I]
 have hup:∀ H:HF,(∀ n∈f.wr,H n=bA h n)->eS H (f.wr.filter λn=> !(aN W (ow n))) f.nw=eS H f.wr f.nw:=λH Y=>by
  funext n;unfold eS;by_cases hn:n∈f.wr
  .by_cases hb:aN W (ow n)=ai
   .rw[ay (by simp[hb]),aF hn];have:=congrFun J n;unfold eS at this;rw[aF hn,hs n hb] at this;rw[this,Y n hn]
   .rw[aF (by simp[hn,hb]),aF hn]
  .rw[ay (by simp[hn]),ay hn]
 refine ⟨⟨⟨f.val,f.rd++(f.wr.filter λn=>aN W (ow n)),f.wr.filter λn=> !(aN W (ow n)),f.nw,f.N⟩,?_,h2,?_,λn hn=>?_,λn hn=>?_,Z⟩,r,i,g,λhs=>by cases hs⟩
 .intro φ E H w a hrd hwr hops hrep U;have k1:∀ i∈f.rd,H i=bA h i:=λi hi=>hrd i (k9 _ hi)
  have k2:∀ i∈f.wr,H i=bA h i:=λi hi=>by
   cases hb:aN W (ow i) with
   |true=>exact hrd i (nz _ (by simp[hi,hb]))
   |false=>exact hwr i (by simp[hi,hb])
  have:=h1 φ E H w a k1 k2 hops hrep U;simp only[hup H k2];exact this
 .simp only[hup (bA h) (λ_ _=>rfl)];exact J
 .rcases bP.1 hn with hn|hn
  .exact h4 n hn
  .simp only[xc] at hn;exact (hW _ hn.2).2
 .simp only[xc,ey] at hn;rcases M _ (h5 n hn.1) with hh|hh
  .rw[hn.2] at hh;cases hh
  .exact hh
mutual
theorem aai {n n':Nat} (hle:n<=n'):∀ (v:TV),Lg n v=ai->Lg n' v=ai
 |.row id,h=>by simp only[Lg,Nat.blt_eq] at h ⊢;omega
 |.rtl id _,h=>by simp only[Lg,Nat.blt_eq] at h ⊢;omega
 |.pel id _ _ _,h=>by simp only[Lg,Nat.blt_eq] at h ⊢;omega
 |.ptr id _,h=>by simp only[Lg,Nat.blt_eq] at h ⊢;omega
 |.csl id _ _,h=>by simp only[Lg,Nat.blt_eq] at h ⊢;omega
 |.mp id,h=>by simp only[Lg,Nat.blt_eq] at h ⊢;omega
 |.agg l,h=>wC hle l h
 |.tup l,h=>wC hle l h
 |.clo _ l,h=>wC hle l h
 |.f _ _,_=>rfl
 |.fel _ _ _ _ _,_=>rfl
 |.emp,_=>rfl
 |.nil,_=>rfl
 |.undef,_=>rfl
 |.np,_=>rfl
 |.anyb,_=>rfl
theorem wC {n n':Nat} (hle:n<=n'):∀ (l:List TV),rB n l=ai->rB n' l=ai
 |[],_=>rfl
 |x::r,h=>by
  simp only[rB,av] at h ⊢;exact⟨aai hle x h.1,wC hle r h.2⟩
end
theorem MH {g g':Nat->Nat} {h:bh}:∀ (bs:List PB) (i:Nat) (x:(PB.tyL bs).den) (m:Nat),HQ bs=ai->AM g h i bs=af (x,m)->∃ l,ov g' bs x=af l/\l.length=bs.length/\∀ j,j<bs.length->∃ ty p T xs,l[j]? =af (af (.rows ty p T xs))/\h.get (g (i+j))=af (.rows ty p T xs)
 |[],i,x,m,_,hg=>⟨[],rfl,rfl,λj hj=>by simp at hj⟩
 |.rows ty p T::r,i,x,m,I,hg=>by
  simp only[AM] at hg;split at hg
  .rename_i M m1 h1;split at hg
   .rename_i J m2 h2;simp only[ak,aD] at hg;obtain⟨rfl,rfl⟩:=hg;obtain⟨l,q1,Z,q3⟩:=MH (g:=g) (g':=g') (h:=h) r (i+1) J m2 I h2;simp only[ER] at h1;split at h1
    .rename_i ty' p' S xs hb;split at h1
     .rename_i hc;simp only[av,cZ] at hc;obtain⟨rfl,rfl⟩:=hc;split at h1
      .rename_i z hz;simp only[ak] at h1;obtain⟨rfl,_⟩:=h1;obtain⟨es,ez⟩:=jg hz;cases es;subst ez;refine ⟨af (.rows ty p T M)::l,?_,by simp[Z],λj hj=>?_⟩
       .simp only[ov];rw[tH,ve,q1];rfl
       .cases j with
        |zero=>exact⟨ty,p,T,_,rfl,hb⟩
        |succ j=>
         obtain⟨a,b,c,d,Y,U⟩:=q3 j (by simpa using hj);exact⟨a,b,c,d,by simpa using Y,by rw[show i+(j+1)=i+1+j from by omega];exact U⟩
      .cases h1
     .cases h1
    .cases h1
   .cases hg
  .cases hg
 |.rowsP _ _::r,i,x,m,I,hg=>by cases I
 |.cells _ _::r,i,x,m,I,hg=>by cases I
 |.mp _ _::r,i,x,m,I,hg=>by cases I
 |.gone::r,i,x,m,I,hg=>by cases I
theorem Fz:∀ {bs:List PB},HQ bs=ai->BH bs=ai
 |[],_=>rfl
 |.rows _ _ _::r,h=>Fz (bs:=r) h
 |.rowsP _ _::r,h=>by cases h
 |.cells _ _::r,h=>by cases h
 |.mp _ _::r,h=>by cases h
 |.gone::r,h=>by cases h
theorem Fu {h h2:bh} {g:Nat->Nat}:∀ (n:Nat),(∀ i,i<n->h2.get (g i)=h.get (g i))->t7 h h2 g n=ai
 |0,_=>rfl
 |n+1,hs=>by
  simp only[t7,av];refine ⟨?_,Fu n λi hi=>hs i (by omega)⟩;have:eC h2 (g n)=eC h (g n):=by rw[bU,bU,hs n (by omega)]
  rw[this];cases eC h (g n) with
  |none=>rfl
  |some q=>obtain⟨p,s,k⟩:=q;simp
def KU (P:Program) (con:FuncId->Option cf):Prop:=∀ f c,con f=af c->aH P f c
theorem Xl {R:Type} {P:Program} {con:FuncId->Option cf} (hcon:KU P con) {o:Oper} {e:iJ} {h:bh} {nx:Nat} {f:FuncId} {l:List TV} {K:KO R} {r:R} (hinv:ma h nx) (hk:Xm con f l h nx K=af r) {la:List AV} (hla:cR h l=af la)
 (hexec:∀ (φ:PM) (E:Nat->Prop) (h':HF) (w:World) (a:Act),D2 P f->(∀ t,.tmp t∈o.op.operands->∀ y,fR e h t=af y->cW φ (tot E φ h') w y (a.tmps.getD t undef))->qY φ E h' w->∃ us:List Value,(execOp a.eval o).run P w= .ok (.enter f us.toArray) w/\jW φ (tot E φ h') w la us):kN P o aj e h nx K r:=by
 unfold Xm at hk;split at hk
 .rename_i c hc;have spc:=hcon f c hc;split at hk
  .rename_i x m σ sm hM;split at hk
   .rename_i q hq;obtain⟨vs,hp⟩:=q;obtain⟨l1,I⟩:=wE hq;obtain⟨y,hy,hk⟩:=dJ hk;split at hk
    .rename_i q2 hq2;obtain⟨rs1,Z⟩:=q2;obtain⟨l2,J⟩:=wE hq2;split at hk
     .rename_i hcond;simp only[av] at hcond;have hle:=a8 hcond.1;have sp:=spc.holds hcond.1;simp only at hk;split at hk
      .rename_i rs hrs;have hrs':=hrs;rw[tO,J.pv] at hrs';simp only[cg,ak] at hrs';split at hk
       .rename_i hb;simp only[av] at hb;have hq0:=aw hb.1.2;refine ⟨_,_,_,_,_,hk,?_⟩;rw[<- hrs'];exact afa hinv sp (wz hM) I hy J (by omega) hq0 hb.2 _ hla λφ E h' w a=>hexec φ E h' w a sp.callable
       .split at hk
        .rename_i h2 U;obtain⟨hsr,hk⟩:=eo hk;refine ⟨_,_,_,_,_,hk,?_⟩;rw[<- hrs'];unfold Ms at U;rw[wa,J.pb] at U;simp only[cg,ak] at U;exact abv hinv sp (wz hM) I hcond.2 hy J hle (λi hi=>by
          have:gi i c.pre.bs.length=ai:=bI hi;simp only[this,bG]) (λi hi=>by
          have:gi i c.pre.bs.length=aj:=by
           cases hb:gi i c.pre.bs.length with
           |false=>rfl
           |true=>have:=a8 hb;omega
          simp only[this];rfl) U.symm hsr hla λφ E h' w a=>hexec φ E h' w a sp.callable
        .cases hk
      .cases hk
     .rename_i hcond;split at hk
      .rename_i hro;simp only[av] at hro;have hq0:=aw hro.1;have hng:=Fz hro.2;have sp:pN P f c.full:=by
        unfold aH at spc
        rwa [ay (λhb=>hcond (by rw[hb,hng];rfl))] at spc
       simp only at hk;split at hk
       .rename_i rs hrs;split at hk
        .rename_i h2 U;have hrs':=hrs;rw[tO,J.pv] at hrs';simp only[cg,ak] at hrs';refine ⟨_,_,_,_,_,hk,?_⟩;rw[<- hrs'];have M:=wz hM;unfold Ms at U;rw[wa,I.pb] at U;simp only[cg,ak] at U;have hqe:∀ i,Z.get i=ah:=λi=>by
          cases hb:Z.get i with
          |none=>rfl
          |some b=>have:=J.lt_len hb;omega
         have J':qM c.full.post (Ub (PV.tyL c.post.vs) (PB.tyL c.pre.bs) (Oz _ _ y) (K6 _ _ x)) rs1 hp l1:=
          ⟨by show pY HC c.post.vs (Oz (PV.tyL c.post.vs) (PB.tyL c.pre.bs) _)=_;rw[tH];exact J.pv,by show ov HC c.pre.bs (K6 (PV.tyL c.post.vs) (PB.tyL c.pre.bs) _)=_;rw[ve];exact I.pb,I.len,I.at_,iS (λi r hr=>by rw[bU,hqe] at hr;cases hr) _ J.ok,wC (by omega) _ J.lt,I.cells⟩
         obtain⟨x1,m1,x2,m2,hx,hmm,gv,gb⟩:=M.ex;obtain⟨l,q1,q2,q3⟩:=MH (g':=HC) c.pre.bs 0 x2 m2 hro.2 gb;have hl1:l1=l:=by
          have:=I.pb;rw[hx,ve,q1] at this;cases this;rfl
         subst hl1;have hgi:∀ i,i<c.pre.bs.length->(if gi i c.pre.bs.length then h_ σ i else nx+(i-c.pre.bs.length))=h_ σ i:=λi hi=>by
          have:gi i c.pre.bs.length=ai:=bI hi;simp only[this,bG]
         have hsame:∀ i,i<c.pre.bs.length->h2.get (h_ σ i)=h.get (h_ σ i):=λi hi=>by
          obtain⟨ty,p,T,xs,w1,Y⟩:=q3 i hi;rw[bN] at Y;have:=vj (λi=>if gi i c.pre.bs.length then h_ σ i else nx+(i-c.pre.bs.length)) (l1.map (lJ (lO (λi=>if gi i c.pre.bs.length then h_ σ i else nx+(i-c.pre.bs.length))))) 0 (eM m h) (λa b ha hb e=>by
           simp only[bX,q2] at ha hb;rw[bN,bN,hgi a ha,hgi b hb] at e;exact M.inj a b ha hb e) i (af (.rows ty p T xs)) (by rw[bc,w1];rfl)
          rw[bN,hgi i hi] at this;rw[<- U,this,Y]
         have t:=abv (o:=o) (e:=e) hinv sp M I hng (y:=Ub (PV.tyL c.post.vs) (PB.tyL c.pre.bs) (Oz _ _ y) (K6 _ _ x)) (by show obind (c.m x) _=_;rw[hy];rfl) J' (bW _) (g:=λi=>if gi i c.pre.bs.length then h_ σ i else nx+(i-c.pre.bs.length)) hgi (λi hi=>by
          have:gi i c.pre.bs.length=aj:=by
           cases hb:gi i c.pre.bs.length with
           |false=>rfl
           |true=>have:=a8 hb;have hi:c.pre.bs.length<=i:=hi;omega
          simp only[this];rfl) U.symm (Fu _ λi hi=>by rw[hgi i hi];exact hsame i hi) hla λφ E h' w a=>hexec φ E h' w a sp.callable
         have t':jm P o aj e h nx (Qa (ky (λi=>if gi i c.pre.bs.length then h_ σ i else nx+(i-c.pre.bs.length)) rs1)) (sm|||m) (sm|||m|||(((1<<<(c.pre.bs.length-c.pre.bs.length))-1)<<<nx)) h2 (nx+(c.pre.bs.length-c.pre.bs.length)):=t;rw[Hp,dl] at t';refine t'.drop (W:=sm) (λi hi=>?_) (λi hi=>?_)
         .refine ⟨?_,by rw[bp,hi];rfl⟩;obtain⟨k,hk,rfl⟩:=(M.sig i).1 hi;obtain⟨ty,p,T,xs,_,Y⟩:=q3 k hk;rw[bN] at Y;rw[bJ,bJ,hsame k hk,Y];rfl
         .simp only[Nat.shiftLeft_zero,Hp,Nat.zero_shiftLeft,Nat.or_zero,bp,iQ] at hi;exact hi
        .cases hk
       .cases hk
      .cases hk
    .cases hk
   .cases hk
  .cases hk
 .cases hk
theorem ai2 {R:Type} {P:Program} {con:FuncId->Option cf} (hcon:KU P con) {bV:TypeId->Option Ty} {o:Oper} {e:iJ} {h:bh} {nx:Nat} {i:SI} {K:KO R} {r:R} (hinv:ma h nx) (hi:tM e h) (hc:yB P o.op=i) (hk:dV con bV i e h nx K=af r):kN P o i.still e h nx K r:=by
 have callOps:∀ (c:Call),o.op= .call c->∀ x,x∈c.operands->x∈o.op.operands:=λc I x J=>by rw[I];exact J
 cases i with
 |call f args=>
  simp only[dV] at hk;split at hk
  .rename_i l hl;have I:∃ c:Call,o.op= .call c/\c.callee= .value (.func f)/\c.args.toList=args:=by
    unfold yB at hc;split at hc
    .rename_i i hi;subst hc;unfold Pb at hi;split at hi
     .rename_i c I;split at hi
      .rename_i g hg;simp only[ak,SI.call.injEq] at hi;exact⟨c,I,by rw[hg,hi.1],hi.2⟩
      .simp at hi
      .cases hi
     .cases hi
    .split at hc<;>cases hc
   obtain⟨c,I,h1,h2⟩:=I;obtain⟨la,Z,Y⟩:=yQ hi hl;refine Xl hcon hinv hk Y λφ E h' w a hcb hops hrep=>?_
   have hp:V0 φ E h' w a (K2 e h) o:=λx y J U=>tI hrep (by rw[vu];exact hops) J U
   refine ⟨args.map a.eval,?_,OG hp args la (λx J=>callOps c I x (by simp[eR,h1,<-h2] at J ⊢;exact .inr J)) Z⟩;unfold execOp;rw[I];have hm:c.args.map a.eval=(args.map a.eval).toArray:=by rw[<- h2];apply KX;simp
   simp[resolve,h1,Act.eval,Deferred.ofValue,invoke,hm,xi hcb]
  .cases hk
 |callv x args=>
  simp only[dV] at hk;split at hk
  .rename_i f cap l J hl;have I:∃ c:Call,o.op= .call c/\c.callee= .value x/\c.args.toList=args:=by
    unfold yB at hc;split at hc
    .rename_i i hi;subst hc;unfold Pb at hi;split at hi
     .rename_i c I;split at hi
      .simp at hi
      .rename_i g hg;simp only[ak,SI.callv.injEq] at hi;exact⟨c,I,by rw[hg,hi.1],hi.2⟩
      .cases hi
     .cases hi
    .split at hc<;>cases hc
   obtain⟨c,I,h1,h2⟩:=I;obtain⟨la,Z,Y⟩:=yQ hi hl;obtain⟨yx,g3,M⟩:=bM hi J;simp only[cr] at M;split at M
   .rename_i lc hlc;simp only[ak] at M;subst M;refine Xl hcon hinv hk (m_ Y hlc) λφ E h' w a hcb hops hrep=>?_
    have hp:V0 φ E h' w a (K2 e h) o:=λx y J U=>tI hrep (by rw[vu];exact hops) J U
    have hxv:=hp x _ (callOps c I x (by simp[eR,h1])) g3;have hlv:=OG hp args la (λx J=>callOps c I x (by simp[eR,h1,<-h2] at J ⊢;exact .inr J)) Z;generalize hz:a.eval x=z at hxv;cases hxv with
    |@clo _ _ vs hvl hvr=>
     refine ⟨args.map a.eval++vs,?_,hlv.append (jW.of hvl hvr)⟩;unfold execOp;rw[I];have hm:c.args.map a.eval=(args.map a.eval).toArray:=by rw[<- h2];apply KX;simp
     simp[resolve,h1,hz,Deferred.ofValue,invoke,hm,xi hcb]
   .cases M
  .cases hk
 |op s=>
  have hc:s= .bad\/dk P o.op=af s:=by
   unfold yB at hc;split at hc
   .rename_i i hi;subst hc;unfold Pb at hi;split at hi
    .split at hi<;>simp at hi
    .cases hi
   .split at hc
    .rename_i q hq;simp only[SI.op.injEq] at hc;subst hc;exact .inr hq
    .simp only[SI.op.injEq] at hc;exact .inl hc.symm
  rcases hc with rfl|hc
  .simp[dV] at hk
  .exact K_op hinv hi hc hk
def gq (am:Nat) (e e':iJ):Prop:=∀ k,aN am k=aj->∀ I,e'.get k=af I->∃ v,e.get k=af v/\(ut v=ai->I=v)
theorem gq.refl (am:Nat) (e:iJ):gq am e e:=λ_ _ I h=>⟨I,h,λ_=>rfl⟩
theorem gq.trans {am:Nat} {a b c:iJ} (h1:gq am a b) (h2:gq am b c):gq am a c:=λk hk J hv=>by
 obtain⟨I,Z,Y⟩:=h2 k hk J hv;obtain⟨v,U,M⟩:=h1 k hk I Z;refine ⟨v,U,λhf=>?_⟩;have:=M hf;subst this;exact Y hf
theorem gq.mono {am am':Nat} {a b:iJ} (h:gq am a b) (hm:∀ k,aN am k=ai->aN am' k=ai):gq am' a b:=λk hk=>h k (by
 cases I:aN am k with
 |false=>rfl
 |true=>rw[hm k I] at hk;cases hk)
structure aci (P:Program) (ops:Array Oper) (rest:List Oper) (sl:List sC) (am:Nat) (s s':TS) (fs:List FPm) (l:List (Oper×Br)):Prop where
 ops_:l.map (·.1)=rest
 chain:zS P ops l (fR s.e s.h) (bA s.h) (fR s'.e s'.h) (bA s'.h)
 fsl:fs.length=l.length
 sll:sl.length=l.length
 fp:∀ (j:Nat) o f q,l[j]? =af (o,f)->fs[j]? =af q->(∀ n∈f.rd,aN q.rd (ow n)=ai)/\∀ n∈f.wr,aN q.wr (ow n)=ai
 still:∀ (j:Nat) o f so,l[j]? =af (o,f)->sl[j]? =af so->so.op.still=ai->f.rd=[]/\f.wr=[]
 names:∀ (j:Nat) o f,l[j]? =af (o,f)->∀ n∈f.N,s.nx<=ow n/\ow n<s'.nx
 apart_:∀ (i j:Nat) oi fi oj fj,i<j->l[i]? =af (oi,fi)->l[j]? =af (oj,fj)->∀ n∈fi.N,n∉fj.N
 grows:s.nx<=s'.nx
 invH:ma s'.h s'.nx
 invE:tM s'.e s'.h
 keeps:gq am s.e s'.e
theorem adx {e:iJ} {h h':bh} (hi:tM e h) (hr:cw h h') (d:Option Nat) {v:TV} {y:AV} (hv:cr h' v=af y):CD (fR e h) d y=fR (Ef e d v) h':=by
 funext t;have old:(e.get t).bind (cr h)=(e.get t).bind (cr h'):=by
  cases ht:e.get t with
  |none=>rfl
  |some x=>
   obtain⟨z,I⟩:=p_ h x (hi t x ht);simp only[aI,I,gD hr x z I]
 cases d with
 |none=>simp only[CD,Ef,fR];rw[ay (by simp)];exact old
 |some d=>
  simp only[CD,Ef,fR,PT.get_set,ak];by_cases hd:d=t
  .subst hd;simp[hv]
  .rw[ay hd,ay (λe=>hd e.symm)];exact old
theorem tM.put {e:iJ} {h h':bh} (hi:tM e h) (hr:cw h h') (d:Option Nat) {v:TV} (hv:Ld h' v=ai):tM (Ef e d v) h':=λt x I=>by
 cases d with
 |none=>exact ox hr x (hi t x I)
 |some d=>
  simp only[Ef,PT.get_set] at I;split at I
  .cases I;exact hv
  .exact ox hr x (hi t x I)
theorem Rn {e:iJ} {h:bh} {t:Nat} {v:TV} (ht:e.get t=af v):fR (e.set t (af v)) h=fR e h:=by
 funext k;simp only[fR,PT.get_set];by_cases hk:k=t
 .subst hk;simp[ht]
 .rw[ay hk]
theorem tM.set {e:iJ} {h:bh} {t:Nat} {v:TV} (hi:tM e h) (ht:e.get t=af v):tM (e.set t (af v)) h:=λk x I=>by
 rw[PT.get_set] at I;split at I
 .rename_i hk;subst hk;cases I;exact hi _ _ ht
 .exact hi k x I
theorem Tw {R:Type} {e:iJ} {g:Option (Nat×Bool)} {K:Bool->iJ->Option R} {r:R} (h:ZP e g K=af r):
 (g=ah/\K ai e=af r)\/(∃ t want b,g=af (t,want)/\e.get t=af (.f .bool b)/\K (b==want) (e.set t (af (.f .bool b)))=af r)\/∃ t want,g=af (t,want)/\e.get t=af .undef/\K aj e=af r:=by
 unfold ZP at h;split at h
 .exact .inl ⟨rfl,h⟩
 .rename_i t want;split at h
  .rename_i b hb;refine .inr (.inl ⟨t,want,b,rfl,hb,?_⟩);cases want with
   |true=>rcases po h with ⟨rfl,h⟩|⟨rfl,h⟩<;>exact h
   |false=>rcases po h with ⟨rfl,h⟩|⟨rfl,h⟩<;>exact h
  .rename_i hb;exact .inr (.inr ⟨t,want,rfl,hb,h⟩)
  .cases h
theorem Ij {R:Type} {P:Program} {con:FuncId->Option cf} (hcon:KU P con) {bV:TypeId->Option Ty} {ops:Array Oper} {am:Nat} (ham:∀ (j:Nat) (o:Oper) (d:Nat),ops[j]? =af o->o.dst=af d->aN am d=ai):
 ∀ (rest:List Oper) (sl:List sC) (s:TS) (fs:List FPm) (K:TS->List FPm->Option R) (r:R),(∀ o∈rest,∃ j:Nat,ops[j]? =af o)->rV P ops rest=af sl->La con bV sl s fs K=af r->ma s.h s.nx->tM s.e s.h->∃ s' fs' l,K s' (fs.reverse++fs')=af r/\aci P ops rest sl am s s' fs' l
 |[],sl,s,fs,K,r,hin,hc,hk,hH,M=>by
  simp only[rV,ak] at hc;subst hc;simp only[La] at hk;exact⟨s,[],[],by simpa using hk,rfl,.nil _ _,rfl,rfl,by simp,by simp,by simp,by simp,bW _,hH,M,gq.refl _ _⟩
 |o::rest,sl,s,fs,K,r,hin,hc,hk,hH,M=>by
  simp only[rV] at hc;split at hc
  .rename_i sl' hsl';have hso:∃ g,sl=⟨o.dst,yB P o.op,g⟩::sl'/\((g=ah/\o.guard=ah)\/∃ j want t,g=af (t,want)/\o.guard=af (j,want)/\(ops[j]?).bind (·.dst)=af t):=by
    split at hc
    .rename_i hg;simp only[ak] at hc;exact⟨ah,hc.symm,.inl ⟨rfl,hg⟩⟩
    .rename_i j want hg;split at hc
     .rename_i t ht;simp only[ak] at hc;exact⟨af (t,want),hc.symm,.inr ⟨j,want,t,rfl,hg,ht⟩⟩
     .cases hc
   obtain⟨g,rfl,hg⟩:=hso;simp only[La] at hk;have hdst:∀ d,o.dst=af d->aN am d=ai:=λd hd=>by
    obtain⟨j,hj⟩:=hin o (dh ..);exact ham j o d hj hd
   have hgs:∀ t want,g=af (t,want)->aN am t=ai:=λt want hgt=>by
    rcases hg with ⟨h1,_⟩|⟨j,want',t',h1,_,I⟩
    .rw[h1] at hgt;cases hgt
    .rw[h1] at hgt;cases hgt;cases hj:ops[j]? with
     |none=>rw[hj] at I;cases I
     |some oj=>rw[hj] at I;exact ham j oj t hj I
   have kput:∀ (e:iJ) (v:TV),gq am s.e e->gq am s.e (Ef e o.dst v):=λe v hke k hk v' hv=>by
    cases hd:o.dst with
    |none=>rw[hd] at hv;exact hke k hk v' hv
    |some d=>
     rw[hd] at hv;simp only[Ef,PT.get_set] at hv;split at hv
     .rename_i e2;rw[e2,hdst d hd] at hk;cases hk
     .exact hke k hk v' hv
   have done:∀ (f:Br) (v:TV) (h':bh) (nx' rd wr:Nat) (e:iJ),fR e s.h=fR s.e s.h->tM e s.h->gq am s.e e->Kz P ops o f (fR s.e s.h) (bA s.h)->(∃ y,cr h' v=af y/\f.val=y)->eS (bA s.h) f.wr f.nw=bA h'->(∀ n∈f.rd,aN rd (ow n)=ai)->(∀ n∈f.wr,aN wr (ow n)=ai)->(∀ n∈f.N,s.nx<=ow n/\ow n<nx')->cw s.h h'->ma h' nx'->s.nx<=nx'->((yB P o.op).still=ai->f.rd=[]/\f.wr=[])->
    La con bV sl' ⟨Ef e o.dst v,h',nx'⟩ (⟨rd,wr⟩::fs) K=af r->∃ s' fs' l,K s' (fs.reverse++fs')=af r/\aci P ops (o::rest) (⟨o.dst,yB P o.op,g⟩::sl') am s s' fs' l:=by
    intro f v h' nx' rd wr e hee hiE hke hst hval hheap hrd hwr hN hrows hinv' hgr hstill hrun;obtain⟨y,U,hy2⟩:=hval;obtain⟨s',fs',l,J,L⟩:=Ij hcon ham rest sl' _ _ K r (λo' ho'=>hin o' (cH _ ho')) hsl' hrun hinv' (hiE.put hrows o.dst (EY _ _ _ U));have hg2:nx'<=s'.nx:=L.grows;refine ⟨s',⟨rd,wr⟩::fs',(o,f)::l,by simpa using J,by simp[L.ops_],.cons hst ?_,by simp[L.fsl],by simp[L.sll],?_,?_,?_,?_,dg hgr hg2,L.invH,L.invE,(kput e v hke).trans L.keeps⟩
    .have e1:CD (fR s.e s.h) o.dst f.val=fR (Ef e o.dst v) h':=by rw[<- hee,hy2];exact adx hiE hrows o.dst U
     rw[e1,hheap];exact L.chain
    .intro j o' f' q' h1 h2;cases j with
     |zero=>simp at h1 h2;obtain⟨rfl,rfl⟩:=h1;subst h2;exact⟨hrd,hwr⟩
     |succ j=>exact L.fp j o' f' q' (by simpa using h1) (by simpa using h2)
    .intro j o' f' so h1 h2 I;cases j with
     |zero=>simp at h1 h2;obtain⟨rfl,rfl⟩:=h1;subst h2;exact hstill I
     |succ j=>exact L.still j o' f' so (by simpa using h1) (by simpa using h2) I
    .intro j o' f' h1 n hn;cases j with
     |zero=>
      simp at h1;obtain⟨rfl,rfl⟩:=h1;have:=hN n hn;exact⟨this.1,by omega⟩
     |succ j=>
      have:=L.names j o' f' (by simpa using h1) n hn;exact⟨dg hgr this.1,this.2⟩
    .intro i j oi fi oj fj hij h1 h2 n hn Y;cases j with
     |zero=>omega
     |succ j=>
      have hj:=L.names j oj fj (by simpa using h2) n Y;cases i with
      |zero=>
       simp at h1;obtain⟨rfl,rfl⟩:=h1;have I:=(hN n hn).2;have Z:nx'<=ow n:=hj.1;omega
      |succ i=>exact L.apart_ i j oi fi oj fj (by omega) (by simpa using h1) (by simpa using h2) n hn Y
   have runs:∀ (e:iJ),fR e s.h=fR s.e s.h->tM e s.h->gq am s.e e->(∀ f,gL P o (fR s.e s.h) (bA s.h) f->Kz P ops o f (fR s.e s.h) (bA s.h))->dV con bV (yB P o.op) e s.h s.nx (λv rd wr h nx=>if Ld h v then La con bV sl' ⟨Ef e o.dst v,h,nx⟩ (⟨rd,wr⟩::fs) K else ah)=af r->∃ s' fs' l,K s' (fs.reverse++fs')=af r/\aci P ops (o::rest) (⟨o.dst,yB P o.op,g⟩::sl') am s s' fs' l:=by
    intro e hee hiE hke hstep hk;obtain⟨v,rd,wr,h',nx',J,T⟩:=ai2 hcon hH hiE rfl hk;simp only[] at J;split at J
    .rename_i hok;obtain⟨f,t1,t2,t3,t4,t5,t6⟩:=T.ex;rw[hee] at t1;obtain⟨y,hy⟩:=p_ h' v hok;refine done f v h' nx' rd wr e hee hiE hke (hstep f t1) ⟨y,hy,t2 y hy⟩ t3 t4 t5 t6 T.rows T.inv T.grows (λhs=>?_) J;obtain⟨r0,w0⟩:=T.st hs;subst r0;subst w0;constructor
     .cases hl:f.rd with
      |nil=>rfl
      |cons n q=>have:=t4 n (by rw[hl];simp);simp at this
     .cases hl:f.wr with
      |nil=>rfl
      |cons n q=>have:=t5 n (by rw[hl];simp);simp at this
    .cases J
   have skips:∀ (e:iJ),fR e s.h=fR s.e s.h->tM e s.h->gq am s.e e->Kz P ops o rN (fR s.e s.h) (bA s.h)->La con bV sl' ⟨Ef e o.dst .undef,s.h,s.nx⟩ (⟨0,0⟩::fs) K=af r->∃ s' fs' l,K s' (fs.reverse++fs')=af r/\aci P ops (o::rest) (⟨o.dst,yB P o.op,g⟩::sl') am s s' fs' l:=by
    intro e hee hiE hke hstep hk;exact done rN .undef s.h s.nx 0 0 e hee hiE hke hstep ⟨_,rfl,rfl⟩ (by funext i;simp[eS,rN]) (by simp[rN]) (by simp[rN]) (by simp[rN]) (cw.refl _) hH (bW _) (λ_=>⟨rfl,rfl⟩) hk
   rcases Tw hk with ⟨h1,hk⟩|⟨t,want,b,h1,hb,hk⟩|⟨t,want,h1,hb,hk⟩
   .refine runs s.e rfl M (gq.refl _ _) (λf hf=>?_) hk;rcases hg with ⟨_,hg⟩|⟨j,want,t,h2,_,_⟩
    .exact .run hg hf
    .rw[h1] at h2;cases h2
   .rcases hg with ⟨h2,_⟩|⟨j,want',t',h2,I,Z⟩
    .rw[h1] at h2;cases h2
    .rw[h1] at h2;cases h2;have hgt:=hgs t want h1;have heb:fR s.e s.h t=af (.f (.raw (.bool b))):=by simp only[fR,hb,aI,cr];rfl
     have hke:gq am s.e (s.e.set t (af (.f .bool b))):=λk hk v' hv=>by
      rw[PT.get_set] at hv;split at hv
      .rename_i ek;rw[ek,hgt] at hk;cases hk
      .exact⟨v',hv,λ_=>rfl⟩
     cases hbw:(b==want) with
     |true=>
      rw[hbw] at hk;have:b=want:=by simpa using hbw
      subst this;exact runs _ (Rn hb) (M.set hb) hke (λf hf=>.runG j t b I Z heb hf) hk
     |false=>
      rw[hbw] at hk;refine skips _ (Rn hb) (M.set hb) hke (.skip j t want I Z (.bool b) heb ?_ rfl) hk;intro hv;cases hv;simp at hbw
   .rcases hg with ⟨h2,_⟩|⟨j,want',t',h2,I,Z⟩
    .rw[h1] at h2;cases h2
    .rw[h1] at h2;cases h2;exact skips _ rfl M (gq.refl _ _) (.skip j t want I Z undef (by simp only[fR,hb,aI,cr]) (by unfold undef;simp) rfl) hk
  .cases hc
theorem ae6 {P:Program} {ops:Array Oper} {sl:List sC} {am:Nat} {s s':TS} {fs:List FPm} {l:List (Oper×Br)} {prs:List (Nat×Nat)} (hl:aci P ops ops.toList sl am s s' fs l) (hp:Mt ops sl=af prs) (hok:Fw fs prs=ai):NIP ops l:=by
 unfold Mt at hp;simp only[] at hp;split at hp
 .rename_i hall;simp only[gp,jL,av] at hall;simp only[ak] at hp;have hop:∀ (j:Nat) o f,l[j]? =af (o,f)->ops[j]? =af o:=λj o f hj=>by
   have h1:(l.map (·.1))[j]? =af o:=by rw[bc,hj];rfl
   rw[hl.ops_] at h1;simpa using h1
  have hsize:∀ (j:Nat) o,ops[j]? =af o->j<ops.size:=λj o h=>(cF.1 h).1
  have hprs:∀ i j,(i,j)∈prs->∃ a b,fs[i]? =af a/\fs[j]? =af b/\DB a.wr b.rd=ai/\DB a.wr b.wr=ai/\DB b.wr a.rd=ai:=by
   clear hp hall;induction prs with
   |nil=>intro i j h;cases h
   |cons p prs ih=>
    obtain⟨i0,j0⟩:=p;simp only[Fw,av,WY] at hok;intro i j hm;rcases bm.1 hm with h|h
    .cases h;have h1:=hok.1;split at h1
     .rename_i a b Z hb;simp only[av] at h1;exact⟨a,b,Z,hb,h1.1.1,h1.1.2,h1.2⟩
     .cases h1
    .exact ih hok.2 i j h
  refine ⟨λj o ho e he hb=>?_,λi j oi fi oj fj hij hi hj=>?_,hl.apart_⟩
  .have:=(hall j (hsize j o ho)).1;rw[ho] at this;simp only[Option.all_some,gp] at this;have:=this e (by simpa using he);simp[hb] at this;exact this
  .have h1:=hop i oi fi hi;have h2:=hop j oj fj hj;have hcase:=(hall j (hsize j oj h2)).2 i hij;rw[h1,h2] at hcase;simp only[iQ] at hcase;by_cases M:aN ((Kq ops.toList []).getD j 0) i=ai
   .left;rw[aA] at M;cases I:(Kq ops.toList [])[j]? with
    |none=>rw[I] at M;simp at M
    |some B=>
     rw[I] at M;exact Ni (ops:=ops) ops.toList [] (λj o hj=>by simpa using hj) (λj B hj=>by simp at hj) j B I i (by simpa using M)
   .right;have hap:=hcase.resolve_left M;refine ⟨hap,?_⟩;have hil:i<l.length:=(bl.1 hi).1;have hjl:j<l.length:=(bl.1 hj).1;have hsi:=aB (show i<sl.length by rw[hl.sll];exact hil);have hsj:=aB (show j<sl.length by rw[hl.sll];exact hjl);by_cases hst:(sl[i]'(by rw[hl.sll];exact hil)).op.still=ai
    .obtain⟨Y,U⟩:=hl.still i oi fi _ hi hsi hst;rw[Y,U];exact⟨(λx I=>by cases I),(λx _ I=>by cases I)⟩
    .by_cases hst2:(sl[j]'(by rw[hl.sll];exact hjl)).op.still=ai
     .obtain⟨Y,U⟩:=hl.still j oj fj _ hj hsj hst2;rw[Y,U];exact⟨(λx I=>⟨(by simp),(by simp)⟩),(λx I=>by cases I)⟩
     .have hmem:(i,j)∈prs:=by
       rw[<- hp,uY];refine ⟨j,jL.2 (hsize j oj h2),?_⟩;rw[List.mem_filterMap];refine ⟨i,jL.2 hij,?_⟩;rw[ay];rw[hsi,hsj];simp only[iQ,not_or];exact⟨M,hst,hst2⟩
      obtain⟨a,b,Z,hb,d1,d2,d3⟩:=hprs i j hmem;obtain⟨f1,f2⟩:=hl.fp i oi fi a hi Z;obtain⟨g1,g2⟩:=hl.fp j oj fj b hj hb;refine ⟨λx I=>⟨λJ=>?_,λJ=>?_⟩,λx I J=>?_⟩
      .have:=xO d1 (ow x) (f2 x I);rw[g1 x J] at this;cases this
      .have:=xO d2 (ow x) (f2 x I);rw[g2 x J] at this;cases this
      .have:=xO d3 (ow x) (g2 x I);rw[f1 x J] at this;cases this
 .cases hp
structure oJ (P:Program) (E:Nat->Prop) (nt np:Nat) (φ:PM) (s:TS) (a:Act) (w:World):Prop where
 rep:qY φ E (bA s.h) w
 env:Np φ (tot E φ (bA s.h)) w (fR s.e s.h) a
 dom:∀ n k,φ n=af k->ow n<s.nx
 low:np<=s.nx
 invH:ma s.h s.nx
 invE:tM s.e s.h
 inert:∀ d∈a.defers,acz P d
 size:a.tmps.size=nt
structure Ch (np:Nat) (φ φ':PM) (H H':HF) (w w':World):Prop where
 ext:KP (own φ H) w w'
 own_:∀ k,k<w.heap.size->own φ' H' k->own φ H k
 par:∀ i,i<np->φ' (nm i)=φ (nm i)
theorem Ch.refl (np:Nat) (φ:PM) (H:HF) (w:World):Ch np φ φ H H w w:=⟨KP.refl _ _,λ_ _ h=>h,λ_ _=>rfl⟩
theorem Ch.trans {np:Nat} {φ φ' φ'':PM} {H H' H'':HF} {w w' w'':World} (a:Ch np φ φ' H H' w w') (b:Ch np φ' φ'' H' H'' w' w''):Ch np φ φ'' H H'' w w'' where
 ext:=⟨b.ext.os.trans a.ext.os,b.ext.tape.trans a.ext.tape,b.ext.output.trans a.ext.output,dg a.ext.size b.ext.size,
  λk hk I=>(b.ext.blk k (dz hk a.ext.size) (λh=>I (a.own_ k hk h))).trans (a.ext.blk k hk I),
  λk hk=>(b.ext.shp k (dz hk a.ext.size)).trans (a.ext.shp k hk)⟩
 own_:=λk hk h=>a.own_ k hk (b.own_ k (dz hk a.ext.size) h)
 par:=λi hi=>(b.par i hi).trans (a.par i hi)
theorem Z9 {R:Type} {P:Program} {E:Nat->Prop} {nt np:Nat} {φ:PM} {s:TS} {a:Act} {w:World} {con:FuncId->Option cf} {bV:TypeId->Option Ty} (hm:P.follows .mixedOrders=ai) (hcon:KU P con) (c:oJ P E nt np φ s a w) {id:Nat} {ops:Array Oper} {draw:Bool} {sl:List sC} {prs:List (Nat×Nat)} {am:Nat} (ham:∀ (j:Nat) (o:Oper) (d:Nat),ops[j]? =af o->o.dst=af d->aN am d=ai)
 (hd:(ops.toList.all λo=>match o.dst with|some d=>decide (d<nt)|none=>ai)=ai) (hc:rV P ops ops.toList=af sl) (hp:Mt ops sl=af prs) {K:TS->Option R} {r:R} (hr:La con bV sl s [] (λs' fs=>if Fw fs prs then K s' else ah)=af r) {Q:Exit->Act->World->Prop}
 (hQ:∀ a' w' s' φ',K s'=af r->oJ P E nt np φ' s' a' w'->Ch np φ φ' (bA s.h) (bA s'.h) w w'->gq am s.e s'.e->Q .normal a' w'):(Code.region id ops draw).wp P Q a w:=by
 obtain⟨s',fs',l,J,L⟩:=Ij hcon ham ops.toList sl s [] _ r (λo U=>by
  obtain⟨j,hj⟩:=e9 U;exact⟨j,by simpa using hj⟩) hc hr c.invH c.invE
 have J:(if Fw fs' prs then K s' else ah)=af r:=J;by_cases hok:Fw fs' prs=ai
 .rw[aF hok] at J;refine Qc (φ0:=φ) (E:=E) hm L.ops_ L.chain (ae6 L hp hok) ?_ ?_ c.rep c.env ?_
  .intro n hn;obtain⟨p,I,hn⟩:=uY.1 hn;obtain⟨j,hj⟩:=e9 I;have:=L.names j p.1 p.2 hj n hn;cases M:φ n with
   |none=>rfl
   |some k=>have:=c.dom n k M;omega
  .intro j o U d Y;have:=gp.1 hd o (by have:=Array.mem_of_getElem? U;simpa using this);rw[Y] at this;rw[c.size];simpa using this
  .rintro a' w' ⟨φ',m',d',Z,en',df',sz'⟩;have hnm:∀ n k,φ' n=af k->φ n=af k\/(s.nx<=ow n/\ow n<s'.nx):=λn k hik=>by
    rcases d' n k hik with h|h
    .exact .inl h
    .obtain⟨p,I,hn⟩:=uY.1 h;obtain⟨j,hj⟩:=e9 I;exact .inr (L.names j p.1 p.2 hj n hn)
   have hg:=L.grows;have hlow:=c.low;refine hQ a' w' s' φ' J ⟨Z,en',λn k hik=>?_,by omega,L.invH,L.invE,by rw[df'];exact c.inert,by rw[sz'];exact c.size⟩ ⟨m'.ext,m'.own_,λi hi=>?_⟩ L.keeps
   .rcases hnm n k hik with h|h
    .have:=c.dom n k h;omega
    .exact h.2
   .cases M:φ (nm i) with
    |some k=>exact m'.sub _ _ M
    |none=>
     cases hy:φ' (nm i) with
     |none=>rfl
     |some k=>
      rcases hnm (nm i) k hy with h|h
      .rw[M] at h;cases h
      .rw[em] at h;omega
 .rw[ay hok] at J;cases J
theorem zO:∀ (l:List sC) (acc:Nat),Pf l acc=acc|||Pf l 0
 |[],acc=>by simp[Pf]
 |o::r,acc=>by
  simp only[Pf];cases o.dst with
  |none=>exact zO r acc
  |some d=>simp only[];rw[zO r (acc|||k_ d),zO r (0|||k_ d),D5,kD]
theorem Ad:∀ (l:List Nat) (acc:Nat),Lh l acc=acc|||Lh l 0
 |[],acc=>by simp[Lh]
 |k::r,acc=>by simp only[Lh];rw[Ad r (acc|||k_ k),Ad r (0|||k_ k),D5,kD]
theorem l9:∀ (l:List Adj) (acc:Nat),ol l acc=acc|||ol l 0
 |[],acc=>by simp[ol]
 |.nil k _ _::r,acc=>by simp only[ol];rw[l9 r (acc|||k_ k),l9 r (0|||k_ k),D5,kD]
 |.cel _ _ _ _::r,acc=>by simp only[ol];exact l9 r acc
 |.mpt _ _ _::r,acc=>by simp only[ol];exact l9 r acc
 |.ren k _::r,acc=>by simp only[ol];rw[l9 r (acc|||k_ k),l9 r (0|||k_ k),D5,kD]
 |.pk _ _ _::r,acc=>by simp only[ol];exact l9 r acc
theorem iB:∀ (c:TC) (acc:Nat),c.asg acc=acc|||c.asg 0
 |.reg ops _,acc=>zO ops acc
 |.seq a b,acc=>by simp only[TC.asg];rw[iB b (a.asg acc),iB b (a.asg 0),iB a acc,kD]
 |.jseq A a b,acc=>by simp only[TC.asg];rw[iB b (a.asg _),iB b (a.asg (Lh A.ks 0)),iB a (Lh A.ks acc),iB a (Lh A.ks 0),Ad A.ks acc,kD,kD,kD]
 |.cond _ a b,acc=>by simp only[TC.asg];rw[iB b (a.asg acc),iB b (a.asg 0),iB a acc,kD]
 |.block _ b,acc=>iB b acc
 |.jblock A _ b,acc=>by simp only[TC.asg];rw[iB b (Lh A.ks acc),iB b (Lh A.ks 0),Ad A.ks acc,kD]
 |.loop A b,acc=>by simp only[TC.asg];rw[iB b (Lh A.ks acc),iB b (Lh A.ks 0),Ad A.ks acc,kD]
 |.defer _ _ t,acc=>by simp[TC.asg]
 |.adj l c,acc=>by simp only[TC.asg];rw[iB c (ol l acc),iB c (ol l 0),l9 l acc,kD]
 |.split _ _ _ _ c,acc=>iB c acc
 |.unl _ b,acc=>iB b acc
 |.skip,acc=>by simp[TC.asg]
 |.exit _,acc=>by simp[TC.asg]
 |.ret,acc=>by simp[TC.asg]
 |.bad,acc=>by simp[TC.asg]
theorem vB {c:TC} {acc k:Nat} (h:aN (c.asg 0) k=ai):aN (c.asg acc) k=ai:=by rw[iB,bp,h];simp
theorem kh {c:TC} {acc k:Nat} (h:aN acc k=ai):aN (c.asg acc) k=ai:=by rw[iB,bp,h];rfl
theorem WG:∀ {l:List Nat} {acc k:Nat},k∈l->aN (Lh l acc) k=ai
 |[],_,_,h=>by cases h
 |x::r,acc,k,h=>by
  simp only[Lh];rcases bm.1 h with rfl|h
  .rw[Ad,bp,bp,b8.2 rfl];simp
  .exact WG h
theorem St:∀ {l:List sC} {acc:Nat} {o:sC} {d:Nat},o∈l->o.dst=af d->aN (Pf l acc) d=ai
 |[],_,_,_,h,_=>by cases h
 |x::r,acc,o,d,h,hd=>by
  simp only[Pf];rcases bm.1 h with rfl|h
  .rw[hd];simp only[];rw[zO,bp,bp,b8.2 rfl];simp
  .exact St h hd
theorem WS:∀ {e:iJ} {ks:List Nat} {vs:List TV},nQ e ks=af vs->vs.length=ks.length/\∀ (j k:Nat),ks[j]? =af k->∃ v,vs[j]? =af v/\e.get k=af v
 |e,[],vs,h=>by simp only[nQ,ak] at h;subst h;exact⟨rfl,by simp⟩
 |e,k::r,vs,h=>by
  simp only[nQ] at h;split at h
  .rename_i v hv;split at h
   .rename_i l hl;simp only[ak] at h;subst h;obtain⟨h1,h2⟩:=WS hl;refine ⟨by simp[h1],λj k' hj=>?_⟩;cases j with
    |zero=>simp at hj;subst hj;exact⟨v,rfl,hv⟩
    |succ j=>simpa using h2 j k' (by simpa using hj)
   .cases h
  .cases h
theorem Im {e:iJ} {h:bh} (hi:tM e h):∀ {ks:List Nat} {vs:List TV},nQ e ks=af vs->kO h vs=ai
 |[],vs,hg=>by simp only[nQ,ak] at hg;subst hg;rfl
 |k::r,vs,hg=>by
  simp only[nQ] at hg;split at hg
  .rename_i v hv;split at hg
   .rename_i l hl;simp only[ak] at hg;subst hg;simp only[kO,av];exact⟨hi k v hv,Im hi hl⟩
   .cases hg
  .cases hg
theorem Ct:∀ {e:iJ} {ks:List Nat} {vs:List TV},vs.length=ks.length->∀ t v,(XK e ks vs).get t=af v->(∃ j:Nat,ks[j]? =af t/\vs[j]? =af v)\/(t∉ks/\e.get t=af v)
 |e,[],[],_,t,v,h=>.inr ⟨by simp,h⟩
 |e,[],_::_,hl,t,v,h=>by simp at hl
 |e,_::_,[],hl,t,v,h=>by simp at hl
 |e,k::r,u::l,hl,t,v,h=>by
  simp only[XK,PT.get_set] at h;split at h
  .rename_i I;subst I;cases h;exact .inl ⟨0,rfl,rfl⟩
  .rename_i I;rcases Ct (by simpa using hl) t v h with ⟨j,h1,h2⟩|⟨h1,h2⟩
   .exact .inl ⟨j+1,by simpa using h1,by simpa using h2⟩
   .exact .inr ⟨by simp[I,h1],h2⟩
theorem tU {am:Nat} {e:iJ}:∀ {ks:List Nat} {k:Nat} {v:TV},(CU am e ks).get k=af v->k∈ks/\e.get k=af v/\ut v=ai/\aN am k=aj
 |[],k,v,h=>by simp[CU,PT.get] at h
 |x::r,k,v,h=>by
  simp only[CU] at h;split at h
  .rename_i u hu;split at h
   .rename_i hc;simp only[av,ey] at hc;rw[PT.get_set] at h;split at h
    .rename_i I;subst I;cases h;exact⟨by simp,hu,hc.1,hc.2⟩
    .obtain⟨h1,h2⟩:=tU h;exact⟨by simp[h1],h2⟩
   .obtain⟨h1,h2⟩:=tU h;exact⟨by simp[h1],h2⟩
  .obtain⟨h1,h2⟩:=tU h;exact⟨by simp[h1],h2⟩
theorem IF {am:Nat} {e0 e:iJ}:∀ {ks:List Nat},HB am e0 e ks=ai->∀ k v,k∈ks->e0.get k=af v->ut v=ai->aN am k=aj->∃ J,e.get k=af J
 |[],_,k,v,h,_,_,_=>by cases h
 |x::r,hc,k,v,h,hv,hf,I=>by
  simp only[HB,av] at hc;rcases bm.1 h with rfl|h
  .have h1:=hc.1;rw[hv] at h1;simp only[hf,I,Bool.not_true,Bool.false_or] at h1;cases M:e.get k with
   |none=>rw[M] at h1;cases h1
   |some u=>exact⟨u,rfl⟩
  .exact IF hc.2 k v h hv hf I
section walk
variable {P:Program} {E:Nat->Prop} {nt np:Nat}
theorem Rl {h:bh} {v:TV} {y:AV} (hn:aed v=ai) (I:cr h v=af y):Le y .emp:=by
 cases v with
 |nil=>simp only[cr,ak] at I;subst I;exact Le.nilEmp
 |emp=>simp only[cr,ak] at I;subst I;exact Le.refl _
 |_=>cases hn
theorem Xw {φ:PM} {s:TS} {a:Act} {w:World} (c:oJ P E nt np φ s a w) (ty:TypeId) (T:Ty):oJ P E nt np φ ⟨s.e,s.h.set s.nx (af (.rows ty ai T [])),s.nx+1⟩ a w/\bA (s.h.set s.nx (af (.rows ty ai T [])))=bA s.h/\cw s.h (s.h.set s.nx (af (.rows ty ai T []))):=by
 have hfr:=c.invH.fresh;have hr:cw s.h (s.h.set s.nx (af (.rows ty ai T []))):=cw.set λr hr=>by rw[bU,hfr] at hr;cases hr
 have J:bA (s.h.set s.nx (af (.rows ty ai T [])))=bA s.h:=by
  funext n;by_cases hn:n=nm s.nx
  .subst hn;rw[bJ,bJ,PT.get_set,aF rfl,hfr];rfl
  .refine kL c.invH hr λi e=>?_
   subst e;rw[PT.get_set,ay (λe=>hn (by rw[e]))]
 refine ⟨⟨by rw[J];exact c.rep,?_,λn k hk=>zW (c.dom n k hk),iu c.low,c.invH.set hr (Ce _) (Nat.le_succ _) (λ_ _ he=>by cases he),?_,c.inert,c.size⟩,J,hr⟩
 .intro t x I;rw[J];simp only[fR] at I;cases he:s.e.get t with
  |none=>rw[he] at I;cases I
  |some q=>
   rw[he] at I;obtain⟨z,M⟩:=p_ s.h q (c.invE t q he);simp only[aI,gD hr q z M,ak] at I;subst I;exact c.env t _ (by simp only[fR,he,aI,M])
 .intro t x I;exact ox hr x (c.invE t x I)
theorem yS {h:bh}:∀ {a b:List TV},kO h a=ai->kO h b=ai->kO h (a++b)=ai
 |[],_,_,hb=>hb
 |x::r,b,I,hb=>by
  simp only[kO,av] at I;simp only[gm,kO,av];exact⟨I.1,yS I.2 hb⟩
theorem Mu {h:bh}:∀ {a:List TV} (n:Nat),kO h a=ai->kO h (a.take n)=ai
 |[],n,_=>by simp[kO]
 |x::r,0,_=>rfl
 |x::r,n+1,I=>by
  simp only[kO,av] at I;simp only[vX,kO,av];exact⟨I.1,Mu n I.2⟩
theorem Mv {h:bh}:∀ {a:List TV} (n:Nat),kO h a=ai->kO h (a.drop n)=ai
 |[],n,_=>by simp[kO]
 |x::r,0,I=>I
 |x::r,n+1,I=>by
  simp only[kO,av] at I;simp only[vY];exact Mv n I.2
theorem yM {α:Type} {l:List α} {j:Nat} {x:α} (h:l[j]? =af x):splice l j [x]=l:=by
 have hl:j<l.length:=by
  rcases bZ j l.length with h'|h'
  .exact h'
  .rw[bR h'] at h;cases h
 rw[aB hl,ak] at h;unfold splice;subst h;simp
theorem ac8 {φ:PM} {s:TS} {a:Act} {w:World} (c:oJ P E nt np φ s a w) {id cty j:Nat} {l:List TV} {v u:TV} (hb:s.h.get id=af (.cells cty l)) (hv:l[j]? =af v) (hn:aed v=ai) (hu:cr s.h u=af .emp) (huo:Ld s.h u=ai):
 oJ P E nt np φ ⟨s.e,s.h.set id (af (.cells cty (splice l j [u]))),s.nx⟩ a w/\Ch np φ φ (bA s.h) (bA (s.h.set id (af (.cells cty (splice l j [u]))))) w w:=by
 have hr:cw s.h (s.h.set id (af (.cells cty (splice l j [u])))):=cw.set λr hr=>by rw[bU,hb] at hr;cases hr
 have hlo:=c.invH.cells id cty l hb;obtain⟨J,M⟩:=fK s.h l hlo;have hsp:cR s.h (splice l j [u])=af (splice J j [.emp]):=vq j M (by simp only[cR,hu]);have hsp':cR (s.h.set id (af (.cells cty (splice l j [u])))) (splice l j [u])=af (splice J j [.emp]):=iX hr _ _ hsp;obtain⟨y,hy,hey⟩:=l7 M j v hv;have hold:bA s.h (nm id)=af ⟨cty,.mx J⟩:=by rw[bJ,hb];simp only[aI,kM,M]
 have hnew:bA (s.h.set id (af (.cells cty (splice l j [u])))) (nm id)=af ⟨cty,.mx (splice J j [.emp])⟩:=by
  rw[bJ,PT.get_set,aF rfl];simp only[aI,kM,hsp']
 have hoth:∀ n,n≠nm id->bA (s.h.set id (af (.cells cty (splice l j [u])))) n=bA s.h n:=λn Y=>by
  refine kL c.invH hr λi e=>?_
  subst e;rw[PT.get_set,ay (λe=>Y (by rw[e]))]
 have hdom:vC (bA s.h) (bA (s.h.set id (af (.cells cty (splice l j [u]))))):=λn b U=>by
  by_cases e:n=nm id
  .subst e;exact⟨_,hold⟩
  .rw[hoth n e] at U;exact⟨b,U⟩
 have hcell:∀ x∈J,x.isCell=ai:=λx I=>by
  obtain⟨k,hk⟩:=e9 I;obtain⟨q,_,_,hat⟩:=c.rep.at_ _ _ hold;unfold XE at hat;obtain⟨ob,_,hob⟩:=hat;rw[px rfl] at hob;obtain⟨arr,_,hca⟩:=hob;exact (hca.2 k x hk).1
 have hV:Ky (bA s.h) (bA (s.h.set id (af (.cells cty (splice l j [u]))))):=⟨hdom,λn b b' h1 h2=>by
  by_cases e:n=nm id
  .subst e;rw[hold] at h1;cases h1;rw[hnew] at h2;cases h2;refine kl.cells rfl rfl ?_ λx I=>?_
   .show ia _ _ J (splice J j [.emp]);have:=ia.splice j (ia.refl hdom J) (b:=[y]) (b':=[.emp]) ⟨(Rl hn hey).toH hdom,trivial⟩;rw[yM hy] at this;exact this
   .have I:x∈splice J j [.emp]:=I;unfold splice at I;rw[bP,bP,aL] at I;rcases I with (I|I)|I
    .exact hcell x (gV I)
    .subst I;rfl
    .exact hcell x (List.mem_of_mem_drop I)
  .rw[hoth n e,h1] at h2;cases h2;exact kl.refl hdom b⟩
 refine ⟨⟨hV.rep c.rep,?_,c.dom,c.low,c.invH.set hr (c.invH.low id _ hb) (bW _) (λty l2 he=>?_),?_,c.inert,c.size⟩,⟨KP.refl _ _,λk _ ho=>hdom.own ho,λ_ _=>rfl⟩⟩
 .intro t x I;simp only[fR] at I;cases he:s.e.get t with
  |none=>rw[he] at I;cases I
  |some q=>
   rw[he] at I;obtain⟨z,Z⟩:=p_ s.h q (c.invE t q he);simp only[aI,gD hr q z Z,ak] at I;subst I;exact (c.env t _ (by simp only[fR,he,aI,Z])).dom hdom
 .simp only[io.cells.injEq] at he;obtain⟨_,rfl⟩:=he;refine iS hr _ ?_;unfold splice;exact yS (yS (Mu _ hlo) (by simp only[kO,huo,kG])) (Mv _ hlo)
 .intro t x I;exact ox hr x (c.invE t x I)
theorem oJ.congr {φ:PM} {s s':TS} {a:Act} {w:World} (c:oJ P E nt np φ s a w) (he:∀ t,s'.e.get t=s.e.get t) (hh:∀ i,s'.h.get i=s.h.get i) (hn:s'.nx=s.nx):oJ P E nt np φ s' a w/\bA s'.h=bA s.h:=by
 have hr:cw s.h s'.h:=λi r hi=>by rw[bU] at hi ⊢;rw[hh];exact hi
 have J:bA s'.h=bA s.h:=by funext n;exact kL c.invH hr λi _=>hh i
 refine ⟨⟨by rw[J];exact c.rep,?_,by rw[hn];exact c.dom,by rw[hn];exact c.low,⟨λi ty l hg=>?_,λi b hg=>?_⟩,λt v hv=>?_,c.inert,c.size⟩,J⟩
 .intro t x I;rw[J];simp only[fR,he] at I;cases hg:s.e.get t with
  |none=>rw[hg] at I;cases I
  |some v=>
   rw[hg] at I;obtain⟨z,M⟩:=p_ s.h v (c.invE t v hg);simp only[aI,gD hr v z M,ak] at I;subst I;exact c.env t _ (by simp only[fR,hg,aI,M])
 .rw[hh] at hg;exact iS hr l (c.invH.cells i ty l hg)
 .rw[hh] at hg;rw[hn];exact c.invH.low i b hg
 .rw[he] at hv;exact ox hr v (c.invE t v hv)
theorem P0 {R:Type} {v:Int} {f:Nat->Option R} {r:R}:∀ {m i:Nat},spl v f i m=af r->∃ j,v=aO j/\f j=af r
 |0,i,h=>by cases h
 |m+1,i,h=>by
  simp only[spl] at h;rcases po h with ⟨h1,h2⟩|⟨_,h2⟩
  .exact⟨i,bt h1,h2⟩
  .exact P0 h2
theorem Z5 {φ:PM} {s s':TS} {a:Act} {w:World} (c:oJ P E nt np φ s a w) {k off:Nat} {kd:IntKind} {v:Int} (h1:aap s k off=af (kd,v)) (h2:TN s k off kd v=af s'):oJ P E nt np φ s' a w/\bA s'.h=bA s.h/\∀ t,s'.e.get t=s.e.get t:=by
 unfold aap at h1;unfold TN at h2;cases hk:s.e.get k with
 |none=>rw[hk] at h1;cases h1
 |some x=>
  rw[hk] at h1 h2;cases x with
  |f T q=>
   cases T with
   |int kd'=>
    simp only[ak,aD] at h1;obtain⟨rfl,rfl⟩:=h1;simp only[ak] at h2;subst h2;have he:∀ t,(s.e.set k (af (.f (.int kd') q))).get t=s.e.get t:=λt=>by
     rw[PT.get_set];split
     .rename_i e;subst e;exact hk.symm
     .rfl
    obtain⟨J,I⟩:=c.congr (s':=⟨s.e.set k (af (.f (.int kd') q)),s.h,s.nx⟩) he (λ_=>rfl) rfl;exact⟨J,I,he⟩
   |_=>cases h1
  |ptr a0 o0=>
   simp only[] at h1 h2;cases hb:s.h.get a0 with
   |none=>rw[hb] at h1;cases h1
   |some b=>
    rw[hb] at h1 h2;cases b with
    |cells ty l=>
     simp only[] at h1 h2;cases hl:l[o0+off]? with
     |none=>rw[hl] at h1;cases h1
     |some y=>
      rw[hl] at h1;cases y with
      |f T q=>
       cases T with
       |int kd'=>
        simp only[ak,aD] at h1;obtain⟨rfl,rfl⟩:=h1;simp only[ak] at h2;subst h2;have hh:∀ i,(s.h.set a0 (af (.cells ty (splice l (o0+off) [.f (.int kd') q])))).get i=s.h.get i:=λi=>by
         rw[PT.get_set];split
         .rename_i e;subst e;rw[hb,yM hl]
         .rfl
        obtain⟨J,I⟩:=c.congr (s':=⟨s.e,s.h.set a0 (af (.cells ty (splice l (o0+off) [.f (.int kd') q]))),s.nx⟩) (λ_=>rfl) hh rfl;exact⟨J,I,λ_=>rfl⟩
       |_=>cases h1
      |_=>cases h1
    |_=>cases h1
  |_=>cases h1
mutual
theorem Ml (id sz n:Nat):∀ v:TV,ut v=ai->K5 id sz n v=v
 |.f _ _,_=>rfl
 |.fel _ _ _ _ _,_=>rfl
 |.emp,_=>rfl
 |.nil,_=>rfl
 |.undef,_=>rfl
 |.np,_=>rfl
 |.anyb,_=>rfl
 |.agg l,h=>by simp only[K5];rw[Bx id sz n l h]
 |.tup l,h=>by simp only[K5];rw[Bx id sz n l h]
 |.pel _ _ _ _,h=>by cases h
 |.ptr _ _,h=>by cases h
 |.csl _ _ _,h=>by cases h
 |.row _,h=>by cases h
 |.rtl _ _,h=>by cases h
 |.mp _,h=>by cases h
 |.clo _ _,h=>by cases h
theorem Bx (id sz n:Nat):∀ l:List TV,qu l=ai->Cp id sz n l=l
 |[],_=>rfl
 |x::r,h=>by
  simp only[qu,av] at h;simp only[Cp];rw[Ml id sz n x h.1,Bx id sz n r h.2]
end
section subs
variable {id sz n:Nat} {h h':bh}
mutual
theorem ND (hr:cw h h') (hid:eC h' id=af (aj,sz,n)):∀ (v:TV) (y:AV),cr h v=af y->cr h' (K5 id sz n v)=af y
 |.csl i s m,y,he=>by
  simp only[cr,ak] at he;subst he;simp only[K5];split
  .rename_i hq;simp only[av] at hq;have e1:=aw hq.1.1;have e2:=aw hq.1.2;have e3:=aw hq.2;subst e1;subst e2;subst e3;simp only[cr,hid,fx,nl,cD,eA]
  .rfl
 |.agg l,y,he=>by
  simp only[cr] at he;cases hl:cR h l with
  |none=>rw[hl] at he;cases he
  |some l'=>rw[hl] at he;simp only[K5,cr,v9 hr hid l l' hl];exact he
 |.tup l,y,he=>by
  simp only[cr] at he;cases hl:cR h l with
  |none=>rw[hl] at he;cases he
  |some l'=>rw[hl] at he;simp only[K5,cr,v9 hr hid l l' hl];exact he
 |.clo g l,y,he=>by
  simp only[cr] at he;cases hl:cR h l with
  |none=>rw[hl] at he;cases he
  |some l'=>rw[hl] at he;simp only[K5,cr,v9 hr hid l l' hl];exact he
 |.f T v,y,he=>gD hr _ _ he
 |.fel T xs j hj off,y,he=>gD hr _ _ he
 |.pel _ _ _ _,y,he=>gD hr _ _ he
 |.ptr _ _,y,he=>gD hr _ _ he
 |.row _,y,he=>gD hr _ _ he
 |.rtl _ _,y,he=>gD hr _ _ he
 |.emp,y,he=>gD hr _ _ he
 |.nil,y,he=>gD hr _ _ he
 |.mp _,y,he=>gD hr _ _ he
 |.undef,y,he=>gD hr _ _ he
 |.np,y,he=>gD hr _ _ he
 |.anyb,y,he=>gD hr _ _ he
theorem v9 (hr:cw h h') (hid:eC h' id=af (aj,sz,n)):∀ (l:List TV) (l':List AV),cR h l=af l'->cR h' (Cp id sz n l)=af l'
 |[],l',he=>by simp only[cR,ak] at he;subst he;rfl
 |x::r,l',he=>by
  obtain⟨y,l2,rfl,h1,h2⟩:=c5 he;simp only[Cp];exact oW (ND hr hid x y h1) (v9 hr hid r l2 h2)
end
end subs
theorem alk {φ:PM} {s:TS} {a:Act} {w:World} (c:oJ P E nt np φ s a w) {T:Ty} {id sz n:Nat} {s':TS} (hp:pkS s T id sz n=af s'):oJ P E nt np φ s' a w/\Ch np φ φ (bA s.h) (bA s'.h) w w/\gq 0 s.e s'.e:=by
 unfold pkS at hp;split at hp
 .rename_i ty l hb;split at hp
  .rename_i hs;have hs:=aw hs;subst hs;split at hp
   .rename_i xs m hpk;split at hp
    .cases hp
    .rename_i hmid;simp only[ak] at hp;subst hp;have hm:dX s.h m:=NL n l xs m hpk;obtain⟨l',hl⟩:=fK s.h l (c.invH.cells id ty l hb);have hidlt:=c.invH.low id _ hb;have nQ:∀ i,((PT.updI (λ_ b=>XI id T.size n b) 1 0 (eM m s.h)).set id (af (.rows ty aj T xs))).get i=if i=id then af (.rows ty aj T xs) else if aN m i then (s.h.get i).map vk else (s.h.get i).map (XI id T.size n):=λi=>by
      rw[PT.get_set];by_cases e:i=id
      .rw[aF e,aF e]
      .rw[ay e,ay e,PT.get_updI,iW];split
       .cases hg:s.h.get i with
        |none=>rfl
        |some b=>cases b<;>rfl
       .rfl
     generalize hH2:((PT.updI (λ_ b=>XI id T.size n b) 1 0 (eM m s.h)).set id (af (.rows ty aj T xs)))=h2 at nQ ⊢;have hr:cw s.h h2:=λi r hi=>by
      rw[bU] at hi ⊢;rw[nQ];by_cases e:i=id
      .subst e;rw[hb] at hi;cases hi
      .rw[ay e];cases hg:s.h.get i with
       |none=>rw[hg] at hi;cases hi
       |some b=>
        rw[hg] at hi;split
        .exact Mq hi
        .cases b<;>first|exact hi|cases hi
     have hnone:∀ i,aN m i=ai->bA h2 (nm i)=ah:=λi hi=>by
      have e:i≠id:=λe=>by subst e;exact hmid hi
      obtain⟨ty',p',T',xs',J⟩:=hm i hi;rw[bJ,nQ,ay e,aF hi,J];rfl
     have hdom:vC (bA s.h) (bA h2):=λq b hq=>by
      obtain⟨i,cc,rfl,I,h4⟩:=jv hq;rw[bJ];rw[nQ] at I;by_cases e:i=id
      .subst e;rw[hb];simp only[aI,kM,hl];exact⟨_,rfl⟩
      .rw[ay e] at I;cases hg:s.h.get i with
       |none=>rw[hg] at I;split at I<;>cases I
       |some b0=>
        rw[hg] at I;split at I
        .simp only[cg,ak] at I;subst I;cases b0<;>simp[vk,kM] at h4
        .simp only[cg,ak] at I;subst I;simp only[aI];cases b0 with
         |cells ty0 l0=>
          obtain⟨l0',U⟩:=fK s.h l0 (c.invH.cells i ty0 l0 hg);exact⟨⟨ty0,.mx l0'⟩,by simp only[kM,U]⟩
         |rows=>exact⟨_,h4⟩
         |dead=>exact⟨_,h4⟩
         |mp=>exact⟨_,h4⟩
     have giv:D9 s.h (bA s.h) (bA h2) m:=λi hi=>⟨rfl,hnone i hi⟩
     obtain⟨hle,hlen⟩:=CG hdom n l xs m l' hpk hl giv;have hrow:eC h2 id=af (aj,T.size,n):=by rw[bU,nQ,aF rfl,<-hlen];rfl
     have hV:Ky (bA s.h) (bA h2):=⟨hdom,λq b b' I h4=>by
      obtain⟨i,cc,rfl,Z,h6⟩:=jv h4;rw[bJ] at I;rw[nQ] at Z;by_cases e:i=id
      .subst e;rw[aF rfl] at Z;cases Z;rw[hb] at I;simp only[aI,kM,hl,ak] at I;subst I;simp only[kM,nl,cD,eA,ak] at h6;subst h6;refine kl.cells rfl rfl hle λx J=>?_
       simp only[BC.toMx] at J;obtain⟨q,hq,rfl⟩:=c_.1 J;exact rG T _ q hq
      .rw[ay e] at Z;cases hg:s.h.get i with
       |none=>rw[hg] at Z;split at Z<;>cases Z
       |some b0=>
        rw[hg] at Z I;split at Z
        .simp only[cg,ak] at Z;subst Z;cases b0<;>simp[vk,kM] at h6
        .simp only[cg,ak] at Z;subst Z;have:b=b':=by
          simp only[aI] at I;cases b0 with
          |cells ty0 l0=>
           obtain⟨l0',U⟩:=fK s.h l0 (c.invH.cells i ty0 l0 hg);simp only[kM,U,ak] at I;simp only[XI,kM,v9 hr hrow l0 l0' U,ak] at h6;rw[<- I,<-h6]
          |rows ty1 p1 T1 xs1=>
           have h3':kM h2 (.rows ty1 p1 T1 xs1)=af b:=I;exact jR (h3'.symm.trans h6)
          |dead p1 s1 n1=>
           have h3':kM h2 (.dead p1 s1 n1)=af b:=I;exact jR (h3'.symm.trans h6)
          |mp K1 V1 es1=>
           have h3':kM h2 (.mp K1 V1 es1)=af b:=I;exact jR (h3'.symm.trans h6)
         subst this;exact kl.refl hdom b⟩
     refine ⟨⟨hV.rep c.rep,?_,c.dom,c.low,⟨λi ty' l2 hg=>?_,λi b hg=>?_⟩,?_,c.inert,c.size⟩,⟨KP.refl _ _,λk _ hk=>hdom.own hk,λ_ _=>rfl⟩,?_⟩
     .intro t x J;simp only[fR,PT.get_updI] at J;cases he:s.e.get t with
      |none=>rw[he] at J;cases J
      |some v=>
       rw[he] at J;obtain⟨z,hz⟩:=p_ s.h v (c.invE t v he);simp only[cg,aI,ND hr hrow v z hz,ak] at J;subst J;exact (c.env t _ (by simp only[fR,he,aI,hz])).dom hdom
     .rw[nQ] at hg;by_cases e:i=id
      .rw[aF e] at hg;cases hg
      .rw[ay e] at hg;cases Y:s.h.get i with
       |none=>rw[Y] at hg;split at hg<;>cases hg
       |some b0=>
        rw[Y] at hg;split at hg
        .simp only[cg,ak] at hg;cases b0<;>simp[vk] at hg
        .simp only[cg,ak] at hg;cases b0 with
         |cells ty0 l0=>
          simp only[XI,io.cells.injEq] at hg;obtain⟨_,rfl⟩:=hg;obtain⟨l0',U⟩:=fK s.h l0 (c.invH.cells i ty0 l0 Y);exact lG _ _ _ (v9 hr hrow l0 l0' U)
         |_=>cases hg
     .rw[nQ] at hg;by_cases e:i=id
      .subst e;exact hidlt
      .rw[ay e] at hg;cases Y:s.h.get i with
       |none=>rw[Y] at hg;split at hg<;>cases hg
       |some b0=>exact c.invH.low i b0 Y
     .intro t x J;simp only[PT.get_updI] at J;cases he:s.e.get t with
      |none=>rw[he] at J;cases J
      |some v=>
       rw[he] at J;simp only[cg,ak] at J;subst J;obtain⟨z,hz⟩:=p_ s.h v (c.invE t v he);exact EY _ _ _ (ND hr hrow v z hz)
     .intro k _ v' M;simp only[PT.get_updI] at M;cases he:s.e.get k with
      |none=>rw[he] at M;cases M
      |some v=>
       rw[he] at M;simp only[cg,ak] at M;subst M;exact⟨v,rfl,λhf=>Ml _ _ _ v hf⟩
   .cases hp
  .cases hp
 .cases hp
theorem alf {φ:PM} {s:TS} {a:Act} {w:World} (c:oJ P E nt np φ s a w) {k off:Nat} {s':TS} (h:Pm s (.ren k off)=af s'):∃ φ',oJ P E nt np φ' s' a w/\Ch np φ φ' (bA s.h) (bA s'.h) w w/\gq (ol [.ren k off] 0) s.e s'.e:=by
 simp only[Pm] at h;split at h
 .rename_i b o hk;split at h
  .rename_i cty l hb;split at h
   .rename_i id hv;split at h
    .rename_i ty p T xs J;simp only[ak] at h;subst h;have hfr:=c.invH.fresh;have hidlt:=c.invH.low id _ J;have hblt:=c.invH.low b _ hb;have hbid:b≠id:=λe=>by rw[e,J] at hb;cases hb
     have hbn:b≠s.nx:=by omega
     have hin:id≠s.nx:=by omega
     generalize hh2:(((s.h.set id (af (.dead p T.size xs.length))).set s.nx (af (.rows ty p T xs))).set b (af (.cells cty (splice l (o+off) [.row s.nx]))))=h2;have nQ:∀ i,h2.get i=if i=b then af (.cells cty (splice l (o+off) [.row s.nx])) else if i=s.nx then af (.rows ty p T xs) else if i=id then af (.dead p T.size xs.length) else s.h.get i:=λi=>by
      rw[<- hh2,PT.get_set,PT.get_set,PT.get_set]
     have hr:cw s.h h2:=λi r hi=>by
      rw[bU] at hi ⊢;rw[nQ];by_cases e1:i=b
      .subst e1;rw[hb] at hi;cases hi
      .rw[ay e1];by_cases e2:i=s.nx
       .subst e2;rw[hfr] at hi;cases hi
       .rw[ay e2];by_cases e3:i=id
        .subst e3;rw[aF rfl];rw[J] at hi;exact hi
        .rw[ay e3];exact hi
     have hlo:=c.invH.cells b cty l hb;obtain⟨Z,hl'⟩:=fK s.h l hlo;have hrow:cr h2 (.row s.nx)=af (fx p s.nx T.size xs.length):=by
      simp only[cr,bU,nQ];rw[ay hbn.symm];simp only[bG,aI,mF]
     have hsp:cR h2 (splice l (o+off) [.row s.nx])=af (splice Z (o+off) [fx p s.nx T.size xs.length]):=vq _ (iX hr _ _ hl') (by simp only[cR,hrow]);obtain⟨y,hy,hey⟩:=l7 hl' _ _ hv;have hy0:y=fx p id T.size xs.length:=by
      simp only[cr,bU,J,aI,mF,ak] at hey;exact hey.symm
     subst hy0;have hold:bA s.h (nm b)=af ⟨cty,.mx Z⟩:=by rw[bJ,hb];simp only[aI,kM,hl']
     have hnew:bA h2 (nm b)=af ⟨cty,.mx (splice Z (o+off) [fx p s.nx T.size xs.length])⟩:=by
      rw[bJ,nQ,aF rfl];simp only[aI,kM,hsp]
     have hdead:bA h2 (nm id)=ah:=by rw[bJ,nQ,ay hbid.symm,ay hin,aF rfl];rfl
     have hnx2:bA h2 (nm s.nx)=if p&&xs.length==0 then ah else af ⟨ty,.fz (xs.flatMap (bS T))⟩:=by rw[bJ,nQ,ay hbn.symm,aF rfl];rfl
     have hid0:bA s.h (nm id)=if p&&xs.length==0 then ah else af ⟨ty,.fz (xs.flatMap (bS T))⟩:=by rw[bJ,J];rfl
     have hoth:∀ n,n≠nm b->n≠nm s.nx->n≠nm id->bA h2 n=bA s.h n:=λn e1 e2 e3=>kL c.invH hr λi e=>by
      subst e;rw[nQ,ay (λe=>e1 (by rw[e])),ay (λe=>e2 (by rw[e])),ay (λe=>e3 (by rw[e]))]
     have hnb:nm b≠nm s.nx:=λe=>hbn (kP e)
     have hbi:nm b≠nm id:=λe=>hbid (kP e)
     have hni:nm s.nx≠nm id:=λe=>hin (kP e).symm
     have hinv:ma h2 (s.nx+1):=by
      refine ⟨λi ty2 l2 hil=>?_,λi q hiq=>?_⟩
      .rw[nQ] at hil;split at hil
       .simp only[ak,io.cells.injEq] at hil;obtain⟨_,rfl⟩:=hil;exact lG _ _ _ hsp
       .split at hil
        .cases hil
        .split at hil
         .cases hil
         .exact iS hr l2 (c.invH.cells i ty2 l2 hil)
      .rw[nQ] at hiq;split at hiq
       .omega
       .split at hiq
        .omega
        .split at hiq
         .omega
         .have:=c.invH.low i q hiq;omega
     have hE:∀ t x,fR s.e h2 t=af x->fR s.e s.h t=af x:=λt x I=>by
      simp only[fR] at I ⊢;cases he:s.e.get t with
      |none=>rw[he] at I;cases I
      |some q=>
       rw[he] at I;obtain⟨z,hz⟩:=p_ s.h q (c.invE t q he);simp only[aI,gD hr q z hz,ak] at I;subst I;simp only[aI,hz]
     by_cases hp:(p&&xs.length==0)=ai
     ·
      have Y:bA h2=bA s.h:=by
       funext n;by_cases e1:n=nm b
       .subst e1;rw[hold,hnew];have:fx p s.nx T.size xs.length=fx p id T.size xs.length:=by unfold fx;rw[aF hp,aF hp]
        rw[this,yM hy]
       .by_cases e2:n=nm s.nx
        .subst e2;rw[hnx2,aF hp,bJ,hfr];rfl
        .by_cases e3:n=nm id
         .subst e3;rw[hdead,hid0,aF hp]
         .exact hoth n e1 e2 e3
      refine ⟨φ,⟨by rw[Y];exact c.rep,λt x I=>by rw[Y];exact c.env t x (hE t x I),λn q hq=>zW (c.dom n q hq),iu c.low,hinv,λt x I=>ox hr x (c.invE t x I),c.inert,c.size⟩,by rw[Y];exact Ch.refl _ _ _ _,gq.refl _ _⟩
     .have hid1:bA s.h (nm id)=af ⟨ty,.fz (xs.flatMap (bS T))⟩:=by rw[hid0,ay hp]
      obtain⟨kk,k1,k2,ob,k3,k4⟩:=c.rep.at_ _ _ hid1;have hφn:φ (nm s.nx)=ah:=by
       cases hq:φ (nm s.nx) with
       |none=>rfl
       |some q=>have:=c.dom _ q hq;rw[em] at this;omega
      let nw:HF:=λn=>if n=nm s.nx then af ⟨ty,.fz (xs.flatMap (bS T))⟩ else ah
      have hsh:Fk w w kk ob:=⟨rfl,rfl,rfl,rfl,k3,λ_ _=>rfl,λ_=>rfl⟩
      obtain⟨φ',p1,p2,p3,p4⟩:=c.rep.wren hid1 k1 hφn hsh k4 nw (by simp[nw]) (by simp only[nw];rw[ay hni.symm]);have hb1:eS (bA s.h) [nm s.nx,nm id] nw (nm b)=af ⟨cty,.mx Z⟩:=by
       unfold eS;rw[ay (by simp[hnb,hbi]),hold]
      obtain⟨kb,b1,b2,ob2,b3,b4⟩:=p4.at_ _ _ hb1;have hlt:o+off<Z.length:=by
       rcases bZ (o+off) Z.length with h'|h'
       .exact h'
       .rw[bR h'] at hy;cases hy
      have hob:jt φ' (tot E φ' (eS (bA s.h) [nm s.nx,nm id] nw)) w ⟨cty,.mx (splice Z (o+off) [fx p s.nx T.size xs.length])⟩ ob2:=by
       rw[px rfl] at b4 ⊢;obtain⟨arr,a1,a2⟩:=b4;refine ⟨arr,a1,?_⟩;unfold vD at a2 ⊢;refine ⟨by simp only[BC.len] at a2 ⊢;rw[oq (by simp;omega)];exact a2.1,λj x I=>?_⟩;simp only[BC.get] at I a2;rw[mE (by simp;omega)] at I;split at I
       .exact a2.2 j x I
       .split at I
        .rename_i h3 M;simp only[dR] at M;have hj:j=o+off:=by omega
         subst hj;simp only[Hp,qQ,ak] at I;subst I;obtain⟨_,v,a3,a4⟩:=a2.2 _ _ hy;unfold fx at a4 ⊢;rw[ay hp] at a4 ⊢;refine ⟨rfl,v,a3,?_⟩;cases a4 with
         |@row _ _ _ cc q hφq hn hc hs2=>
          have:=p2.sub _ _ k1;rw[this,ak] at hφq;subst hφq;exact .row p1 hn hc hs2
        .exact a2.2 j x I
      obtain⟨q1,q2⟩:=p4.wset hb1 b1 (⟨rfl,rfl,rfl,rfl,b3,λ_ _=>rfl,λ_=>rfl⟩:Fk w w kb ob2) hob (λn=>if n=nm b then af ⟨cty,.mx (splice Z (o+off) [fx p s.nx T.size xs.length])⟩ else ah) (by simp);have Y:eS (eS (bA s.h) [nm s.nx,nm id] nw) [nm b] (λn=>if n=nm b then af ⟨cty,.mx (splice Z (o+off) [fx p s.nx T.size xs.length])⟩ else ah)=bA h2:=by
       funext n;by_cases e1:n=nm b
       .subst e1;rw[hnew];simp[eS]
       .by_cases e2:n=nm s.nx
        .subst e2;rw[hnx2,ay hp];simp[eS,nw,hnb.symm]
        .by_cases e3:n=nm id
         .subst e3;rw[hdead];simp[eS,nw,hbi.symm,hni.symm]
         .rw[hoth n e1 e2 e3];simp[eS,e1,e2,e3]
      rw[Y] at q1 q2;have m:=p2.trans q1;refine ⟨φ',⟨q2,λt x I=>m.keep (c.env t x (hE t x I)),λn q hq=>?_,iu c.low,hinv,λt x I=>ox hr x (c.invE t x I),c.inert,c.size⟩,⟨KP.refl _ _,m.own_,λi hi=>?_⟩,gq.refl _ _⟩
      .rcases p3 n q hq with M|M
       .exact zW (c.dom n q M)
       .simp only[aL] at M;subst M;rw[em];exact Ce _
      .cases hq:φ' (nm i) with
       |none=>
        cases hq2:φ (nm i) with
        |none=>rfl
        |some z=>rw[p2.sub _ _ hq2] at hq;cases hq
       |some z=>
        rcases p3 _ _ hq with M|M
        .exact M.symm
        .simp only[aL] at M;have:=kP M;have:=c.low;omega
    .cases h
   .cases h
  .cases h
 .rename_i id hk;split at h
  .rename_i ty p T xs J;simp only[ak] at h;subst h;have hfr:=c.invH.fresh;have hidlt:=c.invH.low id _ J;have hin:id≠s.nx:=by omega
   generalize hh2:((s.h.set id (af (.dead p T.size xs.length))).set s.nx (af (.rows ty p T xs)))=h2;have nQ:∀ i,h2.get i=if i=s.nx then af (.rows ty p T xs) else if i=id then af (.dead p T.size xs.length) else s.h.get i:=λi=>by
    rw[<- hh2,PT.get_set,PT.get_set]
   have hr:cw s.h h2:=λi r hi=>by
    rw[bU] at hi ⊢;rw[nQ];by_cases e2:i=s.nx
    .subst e2;rw[hfr] at hi;cases hi
    .rw[ay e2];by_cases e3:i=id
     .subst e3;rw[aF rfl];rw[J] at hi;exact hi
     .rw[ay e3];exact hi
   have hrow:cr h2 (.row s.nx)=af (fx p s.nx T.size xs.length):=by
    simp only[cr,bU,nQ,bG,aI,mF]
   have hrow0:cr s.h (.row id)=af (fx p id T.size xs.length):=by
    simp only[cr,bU,J,aI,mF]
   have hdead:bA h2 (nm id)=ah:=by rw[bJ,nQ,ay hin,aF rfl];rfl
   have hnx2:bA h2 (nm s.nx)=if p&&xs.length==0 then ah else af ⟨ty,.fz (xs.flatMap (bS T))⟩:=by rw[bJ,nQ,aF rfl];rfl
   have hid0:bA s.h (nm id)=if p&&xs.length==0 then ah else af ⟨ty,.fz (xs.flatMap (bS T))⟩:=by rw[bJ,J];rfl
   have hoth:∀ n,n≠nm s.nx->n≠nm id->bA h2 n=bA s.h n:=λn e2 e3=>kL c.invH hr λi e=>by
    subst e;rw[nQ,ay (λe=>e2 (by rw[e])),ay (λe=>e3 (by rw[e]))]
   have hni:nm s.nx≠nm id:=λe=>hin (kP e).symm
   have hinv:ma h2 (s.nx+1):=by
    refine ⟨λi ty2 l2 hil=>?_,λi q hiq=>?_⟩
    .rw[nQ] at hil;split at hil
     .cases hil
     .split at hil
      .cases hil
      .exact iS hr l2 (c.invH.cells i ty2 l2 hil)
    .rw[nQ] at hiq;split at hiq
     .omega
     .split at hiq
      .omega
      .have:=c.invH.low i q hiq;omega
   have hE:∀ t x,t≠k->fR (s.e.set k (af (.row s.nx))) h2 t=af x->fR s.e s.h t=af x:=λt x ht I=>by
    simp only[fR,PT.get_set] at I ⊢;rw[ay ht] at I;cases he:s.e.get t with
    |none=>rw[he] at I;cases I
    |some q=>
     rw[he] at I;obtain⟨z,hz⟩:=p_ s.h q (c.invE t q he);simp only[aI,gD hr q z hz,ak] at I;subst I;simp only[aI,hz]
   have hIE:tM (s.e.set k (af (.row s.nx))) h2:=λt x I=>by
    simp only[PT.get_set] at I;split at I
    .cases I;exact EY _ _ _ hrow
    .exact ox hr x (c.invE t x I)
   have hKp:gq (ol [.ren k off] 0) s.e (s.e.set k (af (.row s.nx))):=λt ht v' hv'=>by
    simp only[PT.get_set] at hv';split at hv'
    .rename_i et;subst et;simp only[ol] at ht;rw[bp,b8.2 rfl] at ht;simp at ht
    .exact⟨v',hv',λ_=>rfl⟩
   have U:=c.env k (fx p id T.size xs.length) (by simp only[fR,hk,aI,hrow0]);by_cases hp:(p&&xs.length==0)=ai
   .have Y:bA h2=bA s.h:=by
     funext n;by_cases e2:n=nm s.nx
     .subst e2;rw[hnx2,aF hp,bJ,hfr];rfl
     .by_cases e3:n=nm id
      .subst e3;rw[hdead,hid0,aF hp]
      .exact hoth n e2 e3
    have hsame:fx p s.nx T.size xs.length=fx p id T.size xs.length:=by unfold fx;rw[aF hp,aF hp]
    refine ⟨φ,⟨by rw[Y];exact c.rep,λt x I=>?_,λn q hq=>zW (c.dom n q hq),iu c.low,hinv,hIE,c.inert,c.size⟩,by rw[Y];exact Ch.refl _ _ _ _,hKp⟩;rw[Y];by_cases ht:t=k
    .subst ht;simp only[fR,PT.get_set,bG,aI,hrow,ak] at I;subst I;rw[hsame];exact U
    .exact c.env t x (hE t x ht I)
   .have hid1:bA s.h (nm id)=af ⟨ty,.fz (xs.flatMap (bS T))⟩:=by rw[hid0,ay hp]
    obtain⟨kk,k1,k2,ob,k3,k4⟩:=c.rep.at_ _ _ hid1;have hφn:φ (nm s.nx)=ah:=by
     cases hq:φ (nm s.nx) with
     |none=>rfl
     |some q=>have:=c.dom _ q hq;rw[em] at this;omega
    let nw:HF:=λn=>if n=nm s.nx then af ⟨ty,.fz (xs.flatMap (bS T))⟩ else ah
    have hsh:Fk w w kk ob:=⟨rfl,rfl,rfl,rfl,k3,λ_ _=>rfl,λ_=>rfl⟩
    obtain⟨φ',p1,p2,p3,p4⟩:=c.rep.wren hid1 k1 hφn hsh k4 nw (by simp[nw]) (by simp only[nw];rw[ay hni.symm]);have Y:eS (bA s.h) [nm s.nx,nm id] nw=bA h2:=by
     funext n;by_cases e2:n=nm s.nx
     .subst e2;rw[hnx2,ay hp];simp[eS,nw]
     .by_cases e3:n=nm id
      .subst e3;rw[hdead];simp[eS,nw,hni.symm]
      .rw[hoth n e2 e3];simp[eS,e2,e3]
    rw[Y] at p2 p4;refine ⟨φ',⟨p4,λt x I=>?_,λn q hq=>?_,iu c.low,hinv,hIE,c.inert,c.size⟩,⟨KP.refl _ _,p2.own_,λi hi=>?_⟩,hKp⟩
    .by_cases ht:t=k
     .subst ht;simp only[fR,PT.get_set,bG,aI,hrow,ak] at I;subst I;unfold fx at U ⊢;rw[ay hp] at U ⊢;generalize a.tmps.getD t undef=z at U;cases U with
      |@row _ _ _ cc q hφq hn hc hs2=>
       rw[k1,ak] at hφq;subst hφq;exact .row p1 hn hc hs2
     .exact p2.keep (c.env t x (hE t x ht I))
    .rcases p3 n q hq with M|M
     .exact zW (c.dom n q M)
     .simp only[aL] at M;subst M;rw[em];exact Ce _
    .cases hq:φ' (nm i) with
     |none=>
      cases hq2:φ (nm i) with
      |none=>rfl
      |some z=>rw[p2.sub _ _ hq2] at hq;cases hq
     |some z=>
      rcases p3 _ _ hq with M|M
      .exact M.symm
      .simp only[aL] at M;have:=kP M;have:=c.low;omega
  .cases h
 .cases h
theorem aj4 {φ:PM} {s:TS} {a:Act} {w:World} (c:oJ P E nt np φ s a w) {Z:Adj} {s':TS} (h:Pm s Z=af s') (hnr:∀ k off,Z≠ .ren k off):oJ P E nt np φ s' a w/\Ch np φ φ (bA s.h) (bA s'.h) w w/\gq (ol [Z] 0) s.e s'.e:=by
 cases Z with
 |ren k off=>exact cV rfl (hnr k off)
 |nil k ty T=>
  simp only[Pm] at h;split at h
  .rename_i v hv;split at h
   .rename_i hn;simp only[ak] at h;subst h;obtain⟨J,M,hr⟩:=Xw c ty T;refine ⟨⟨J.rep,?_,J.dom,J.low,J.invH,?_,J.inert,J.size⟩,by rw[M];exact Ch.refl _ _ _ _,?_⟩
    .intro t x I;simp only[fR,PT.get_set] at I;split at I
     .rename_i et;subst et;simp only[aI,cr,bU,PT.get_set,bG,mF,fx,jS,c6,kG,ak] at I;subst I;obtain⟨z,Y⟩:=p_ s.h v (c.invE _ v hv);rw[M];exact Rl hn Y _ _ _ _ (c.env _ _ (by simp only[fR,hv,aI,Y]))
     .exact J.env t x I
    .intro t x I;simp only[PT.get_set] at I;split at I
     .cases I;simp only[Ld,bU,PT.get_set,bG];rfl
     .exact J.invE t x I
    .intro t ht v' U;simp only[PT.get_set] at U;split at U
     .rename_i et;subst et;simp only[ol] at ht;rw[bp,b8.2 rfl] at ht;simp at ht
     .exact⟨v',U,λ_=>rfl⟩
   .simp only[ak] at h;subst h;exact⟨c,Ch.refl _ _ _ _,gq.refl _ _⟩
  .cases h
 |cel k off ty T=>
  simp only[Pm] at h;split at h
  .rename_i id o hk;split at h
   .rename_i cty l hb;split at h
    .rename_i v hv;split at h
     .rename_i hn;simp only[ak] at h;subst h;obtain⟨J,M,hr⟩:=Xw c ty T;have hid:id≠s.nx:=λe=>by have:=c.invH.low id _ hb;omega
      obtain⟨c2,t2⟩:=ac8 J (id:=id) (cty:=cty) (l:=l) (v:=v) (u:=.row s.nx) (by show (s.h.set s.nx _).get id=_;rw[PT.get_set,ay hid];exact hb) hv hn (by simp only[cr,bU,PT.get_set,bG,aI,mF,fx,jS,c6,kG]) (by simp only[Ld,bU,PT.get_set,bG];rfl);exact⟨c2,by rw[<- M];exact t2,gq.refl _ _⟩
     .simp only[ak] at h;subst h;exact⟨c,Ch.refl _ _ _ _,gq.refl _ _⟩
    .cases h
   .cases h
  .cases h
 |mpt k K V=>
  simp only[Pm] at h;split at h
  .rename_i id hk;split at h
   .rename_i K' V' es hb;split at h
    .rename_i hE;simp only[ak] at h;subst h;have hr:cw s.h (s.h.set id (af (.mp K V []))):=cw.set λr hr=>by rw[bU,hb] at hr;cases hr
     have M:bA (s.h.set id (af (.mp K V [])))=bA s.h:=by
      funext n;by_cases hn:n=nm id
      .subst hn;rw[bJ,bJ,PT.get_set,aF rfl,hb];simp only[aI,kM,BQ (aie (oP.1 hE).1),BQ (oP.1 hE).2,Ua (oP.1 hE).1,List.map_nil]
      .refine kL c.invH hr λi e=>?_
       subst e;rw[PT.get_set,ay (λe=>hn (by rw[e]))]
     refine ⟨⟨by rw[M];exact c.rep,?_,c.dom,c.low,c.invH.set hr (c.invH.low id _ hb) (bW _) (λ_ _ he=>by cases he),λt x I=>ox hr x (c.invE t x I),c.inert,c.size⟩,by rw[M];exact Ch.refl _ _ _ _,gq.refl _ _⟩;intro t x I;rw[M];simp only[fR] at I;cases he:s.e.get t with
     |none=>rw[he] at I;cases I
     |some q=>
      rw[he] at I;obtain⟨z,Y⟩:=p_ s.h q (c.invE t q he);simp only[aI,gD hr q z Y,ak] at I;subst I;exact c.env t _ (by simp only[fR,he,aI,Y])
    .simp only[ak] at h;subst h;exact⟨c,Ch.refl _ _ _ _,gq.refl _ _⟩
   .cases h
  .cases h
 |pk k off T=>
  simp only[Pm] at h;split at h
  .obtain⟨h1,h2,h3⟩:=alk c h;exact⟨h1,h2,h3.mono λk hk=>by simp at hk⟩
  .cases h
theorem aj3 {φ:PM} {s:TS} {a:Act} {w:World} (c:oJ P E nt np φ s a w) {I:Adj} {s':TS} (h:Pm s I=af s'):∃ φ',oJ P E nt np φ' s' a w/\Ch np φ φ' (bA s.h) (bA s'.h) w w/\gq (ol [I] 0) s.e s'.e:=by
 by_cases hn:∃ k off,I= .ren k off
 .obtain⟨k,off,rfl⟩:=hn;exact alf c h
 .exact⟨φ,aj4 c h λk off e=>hn ⟨k,off,e⟩⟩
theorem VR {φ:PM} {a:Act} {w:World}:∀ {l:List Adj} {s s':TS},oJ P E nt np φ s a w->YY s l=af s'->∃ φ',oJ P E nt np φ' s' a w/\Ch np φ φ' (bA s.h) (bA s'.h) w w/\gq (ol l 0) s.e s'.e
 |[],s,s',c,h=>by simp only[YY,ak] at h;subst h;exact⟨φ,c,Ch.refl _ _ _ _,gq.refl _ _⟩
 |I::r,s,s',c,h=>by
  simp only[YY] at h;split at h
  .rename_i s1 h1;obtain⟨φ1,U,t1,k1⟩:=aj3 c h1;obtain⟨φ2,M,J,k2⟩:=VR U h;refine ⟨φ2,M,t1.trans J,(k1.mono ?_).trans (k2.mono ?_)⟩
   .intro k hk;cases I with
    |nil q ty T=>simp only[ol] at hk ⊢;rw[l9,bp,hk];rfl
    |cel q off ty T=>simp[ol] at hk
    |mpt q K V=>simp[ol] at hk
    |pk q off T=>simp[ol] at hk
    |ren q off=>simp only[ol] at hk ⊢;rw[l9,bp,hk];rfl
   .intro k hk;cases I with
    |nil q ty T=>simp only[ol];rw[l9,bp,hk];simp
    |cel q off ty T=>simp only[ol];exact hk
    |mpt q K V=>simp only[ol];exact hk
    |pk q off T=>simp only[ol];exact hk
    |ren q off=>simp only[ol];rw[l9,bp,hk];simp
  .cases h
mutual
theorem Rd {h:bh}:∀ (v:TV) (y:AV),ut v=ai->cr h v=af y->y.all (λ_=>aj)=ai
 |.f _ _,y,_,he=>by simp only[cr,ak] at he;subst he;rfl
 |.fel _ _ _ _ _,y,_,he=>by simp only[cr,ak] at he;subst he;rfl
 |.emp,y,_,he=>by simp only[cr,ak] at he;subst he;rfl
 |.nil,y,_,he=>by simp only[cr,ak] at he;subst he;rfl
 |.undef,y,_,he=>by simp only[cr,ak] at he;subst he;rfl
 |.np,y,_,he=>by simp only[cr,ak] at he;subst he;rfl
 |.anyb,y,_,he=>by simp only[cr,ak] at he;subst he;rfl
 |.agg l,y,hl,he=>by
  simp only[cr] at he;split at he
  .rename_i l' hl';simp only[ak] at he;subst he;exact EU l l' hl hl'
  .cases he
 |.tup l,y,hl,he=>by
  simp only[cr] at he;split at he
  .rename_i l' hl';simp only[ak] at he;subst he;exact EU l l' hl hl'
  .cases he
 |.pel _ _ _ _,_,h,_=>by cases h
 |.ptr _ _,_,h,_=>by cases h
 |.csl _ _ _,_,h,_=>by cases h
 |.row _,_,h,_=>by cases h
 |.rtl _ _,_,h,_=>by cases h
 |.mp _,_,h,_=>by cases h
 |.clo _ _,_,h,_=>by cases h
theorem EU {h:bh}:∀ (l:List TV) (l':List AV),qu l=ai->cR h l=af l'->AV.allL (λ_=>aj) l'=ai
 |[],l',_,he=>by simp only[cR,ak] at he;subst he;rfl
 |x::r,l',hl,he=>by
  obtain⟨y,l2,rfl,e1,e2⟩:=c5 he;simp only[qu,av] at hl;simp only[AV.allL,av];exact⟨Rd x y hl.1 e1,EU r l2 hl.2 e2⟩
end
mutual
theorem WV (h:bh):∀ (v:TV),ut v=ai->Ld h v=ai
 |.f _ _,_=>rfl
 |.fel _ _ _ _ _,_=>rfl
 |.emp,_=>rfl
 |.nil,_=>rfl
 |.undef,_=>rfl
 |.np,_=>rfl
 |.anyb,_=>rfl
 |.agg l,hl=>Jf h l hl
 |.tup l,hl=>Jf h l hl
 |.pel _ _ _ _,h=>by cases h
 |.ptr _ _,h=>by cases h
 |.csl _ _ _,h=>by cases h
 |.row _,h=>by cases h
 |.rtl _ _,h=>by cases h
 |.mp _,h=>by cases h
 |.clo _ _,h=>by cases h
theorem Jf (h:bh):∀ (l:List TV),qu l=ai->kO h l=ai
 |[],_=>rfl
 |x::r,hl=>by
  simp only[qu,av] at hl;simp only[kO,av];exact⟨WV h x hl.1,Jf h r hl.2⟩
end
structure Seen (np:Nat) (t:Tm) (x:t.ty.den) (us:List TV) (h1:bh) (φ φ':PM) (H:HF) (E:Nat->Prop) (w:World) (la lu:List AV):Prop where
 rep:qY φ' E (bA h1) w
 val:∀ (j:Nat) y v,lu[j]? =af y->∃ z,la[j]? =af z/\(cW φ (tot E φ H) w z v->cW φ' (tot E φ' (bA h1)) w y v)
 len:lu.length=la.length
 tot_:∀ k,tot E φ' (bA h1) k->tot E φ H k
 own_:∀ k,own φ' (bA h1) k->own φ H k
 dom:∀ n k,φ' n=af k->ow n<t.bs.length
 par:∀ i,i<np->i<t.bs.length->φ' (nm i)=φ (nm i)
theorem K9 {t:Tm} {x:t.ty.den} {us:List TV} {h1:bh} {l1:List (Option io)} (I:qM t x us h1 l1) {h:bh} {nx:Nat} (hinv:ma h nx) {vs:List TV} {m:Nat} {σ:PT Nat} {sm:Nat} (M:HR np t vs h x m σ sm) {la:List AV} (hla:cR h vs=af la) {φ:PM} {w:World} (r:qY φ E (bA h) w):∃ φ' lu,cR h1 us=af lu/\Seen np t x us h1 φ φ' (bA h) E w la lu:=by
 obtain⟨x1,m1,x2,m2,hx,hmm,gv,gb⟩:=M.ex;have hmr:dX h m:=by rw[hmm];exact (HG _ _ _ _ gv).or (HI _ _ _ _ gb)
 have pvg:pY (h_ σ) t.vs x1=af (ky (h_ σ) us):=by
  have U:=tO (h_ σ) t.vs x1;have J:=I.pv;rw[hx,tH] at J;rw[U,J];rfl
 have pbg:ov (h_ σ) t.bs x2=af (l1.map (lJ (lO (h_ σ)))):=by
  have U:=wa (h_ σ) t.bs x2;have J:=I.pb;rw[hx,ve] at J;rw[U,J];rfl
 have hbm:∀ i b,l1[i]? =af (af b)->∃ b0,h.get (h_ σ i)=af b0/\BM (h_ σ) h m b0 (lO (h_ σ) b):=λi b hb=>by
  obtain⟨b0,Y,Z⟩:=Jd t.bs 0 x2 m2 _ gb pbg i (lO (h_ σ) b) (by rw[bc,hb];rfl);rw[bN] at Y;exact⟨b0,Y,Z.mono λj hj=>by rw[hmm,bp,hj];simp⟩
 let hv:bh:=Av (h_ σ) 0 (l1.map (lJ (lO (h_ σ)))) PT.leaf
 have hv_at:∀ i b,l1[i]? =af (af b)->hv.get (h_ σ i)=af (lO (h_ σ) b):=λi b hb=>by
  have:=vj (h_ σ) (l1.map (lJ (lO (h_ σ)))) 0 PT.leaf (λa b ha hb=>by
   simp only[bX,I.len] at ha hb;simp only[bN];exact M.inj a b ha hb) i (af (lO (h_ σ) b)) (by rw[bc,hb];rfl)
  rw[bN] at this;exact this
 have hv_ex:∀ j c,hv.get j=af c->∃ i b,l1[i]? =af (af b)/\j=h_ σ i/\c=lO (h_ σ) b:=λj c hj=>by
  by_cases hex:∃ i,i<l1.length/\j=h_ σ i
  .obtain⟨i,hi,rfl⟩:=hex;have hcc:=aB hi;cases hcv:l1[i] with
   |some b=>rw[hcv] at hcc;rw[hv_at i b hcc] at hj;cases hj;exact⟨i,b,hcc,rfl,rfl⟩
   |none=>
    rw[hcv] at hcc;have:=vj (h_ σ) (l1.map (lJ (lO (h_ σ)))) 0 PT.leaf (λa b ha hb=>by
     simp only[bX,I.len] at ha hb;simp only[bN];exact M.inj a b ha hb) i ah (by rw[bc,hcc];rfl)
    rw[bN] at this;have hj':(Av (h_ σ) 0 (l1.map (lJ (lO (h_ σ)))) PT.leaf).get (h_ σ i)=af c:=hj;rw[this] at hj';simp[PT.get] at hj'
  .have:hv.get j=(PT.leaf:bh).get j:=vi (h_ σ) _ 0 _ j λk hk=>by
    simp only[bX] at hk;rw[bN];exact λe=>hex ⟨k,hk,e⟩
   rw[this] at hj;simp[PT.get] at hj
 have rows_in:xT hv h:=λj q hq=>by
  rw[bU] at hq ⊢;cases hc:hv.get j with
  |none=>rw[hc] at hq;cases hq
  |some c=>
   rw[hc] at hq;obtain⟨i,b,Y,rfl,rfl⟩:=hv_ex j c hc;obtain⟨b0,Z,q3⟩:=hbm i b Y;rw[Z];simp only[aI] at hq ⊢;rw[<- q3.row];exact hq
 have rows_h1:∀ i q,eC h1 i=af q->eC hv (h_ σ i)=af q:=λi q hq=>by
  rw[bU] at hq ⊢;cases hb:h1.get i with
  |none=>rw[hb] at hq;cases hq
  |some b=>
   rw[hb] at hq;rw[hv_at i b ((I.at_ i b).1 hb)];simp only[aI,H_] at hq ⊢;exact hq
 have hd:vC (bA h) (bA hv):=λn y hy=>by
  obtain⟨j,c,rfl,U,J⟩:=jv hy;obtain⟨i,b,Y,rfl,rfl⟩:=hv_ex j c U;obtain⟨b0,Z,q3⟩:=hbm i b Y;obtain⟨y0,hy0⟩:=BM.erB_some hinv Z q3 J;exact⟨y0,by rw[bJ,Z];exact hy0⟩
 have gvv:D9 h (bA h) (bA hv) m:=λi hi=>⟨rfl,by
  cases hc:bA hv (nm i) with
  |none=>rfl
  |some y=>
   obtain⟨j,c,e,U,J⟩:=jv hc;have:=kP e;subst this;obtain⟨k,b,Y,rfl,rfl⟩:=hv_ex i c U;have hk:k<t.bs.length:=by rw[<- I.len];exact (bl.1 Y).1
   have h5:=M.disj _ hi;rw[(M.sig _).2 ⟨k,hk,rfl⟩] at h5;cases h5⟩
 have V:Ky (bA h) (bA hv):=⟨hd,λn b b' hb hb'=>by
  obtain⟨j,c,rfl,U,J⟩:=jv hb';obtain⟨i,bb,Y,rfl,rfl⟩:=hv_ex j c U;obtain⟨b0,Z,q3⟩:=hbm i bb Y;rw[bJ,Z] at hb;exact BM.view hd gvv rows_in q3 hb J⟩
 have rv:=V.rep r;have T:afp t x us h1 (h_ σ) φ E E (bA hv) w:=by
  refine qY.toId I M.inj rv (λi b yb hb hyb=>?_) (λk hk=>.inl hk) (λi k b hi U J hE=>?_) rv.el
  .rw[bJ,hv_at i b ((I.at_ i b).1 hb)];exact Dc rows_h1 hyb
  .obtain⟨k',p1,p2,_⟩:=rv.at_ _ _ U;rw[J] at p1;cases p1;exact p2 hE
 obtain⟨lu,hlu⟩:=fK h1 us I.ok;have hlug:cR hv (ky (h_ σ) us)=af (AV.renL (HJ (h_ σ)) lu):=qD rows_h1 us lu hlu;have hle:=C9 hd rows_in t.vs vs x1 m1 _ la _ gv pvg hla hlug (λi hi=>gvv i (by rw[hmm,bp,hi];rfl));have hall:=tC us lu I.lt hlu;refine ⟨_,lu,hlu,T.rep,λj y v hy=>?_,?_,λk hk=>hd.tot (T.tot_ k hk),λk hk=>hd.own (T.own_ k hk),λn k hk=>?_,λi hi hb=>?_⟩
 .rw[ou] at hle;obtain⟨z,hz,hlz⟩:=hle.get j (y.ren (HJ (h_ σ))) (by rw[bc,hy];rfl);exact⟨z,hz,λhr=>T.val y v (l8 hall y (ba hy)) (hlz _ _ _ _ r hr)⟩
 .have:=hle.length;rw[ou,bX] at this;exact this
 .obtain⟨i,hi,rfl,_⟩:=xf hk;rw[em];exact hi
 .rw[ZK hb,M.fix i hi]
theorem N7 {φ:PM} {s':TS} {a:Act} {w:World} (c:oJ P E nt np φ s' a w) {A:ZF} {am:Nat} {s0 s1:TS} {x:A.D} (J:LH np A am s0 s'=af x) (hs:GJ A am s0 x=af s1)
 (hk:∀ k,k∈A.keep->k∉A.ks->∀ v,s0.e.get k=af v->ut v=ai->aN am k=aj->∀ Z,s'.e.get k=af Z->Z=v):∃ φ',oJ P E nt np φ' s1 a w/\Ch np φ φ' (bA s'.h) (bA s1.h) w w:=by
 unfold LH at J;split at J
 .rename_i hc;simp only[av] at hc;have hnp:=a8 hc.1;split at J
  .rename_i s2 h2;obtain⟨φ2,c2,t2,_⟩:=VR c h2;split at J
   .rename_i vs hvs;split at J
    .rename_i z m σ sm hM;simp only[ak] at J;subst J;have M:=wz hM;unfold GJ at hs;split at hs
     .rename_i us h1 hi;obtain⟨l1,I⟩:=wE hi;split at hs
      .rename_i hlen;have hlen:=aw hlen;simp only[ak] at hs;subst hs;obtain⟨g1,g2⟩:=WS hvs;have hvok:kO s2.h vs=ai:=Im c2.invE hvs;obtain⟨la,hla⟩:=fK s2.h vs hvok;obtain⟨φ',lu,hlu,S⟩:=K9 (E:=E) I c2.invH M hla c2.rep;refine ⟨φ',⟨S.rep,?_,S.dom,hnp,⟨λi ty l hl=>(I.cells i ty l hl).1,λi b hb=>I.lt_len hb⟩,?_,c.inert,c.size⟩,t2.trans ⟨KP.refl _ _,λk _ h=>S.own_ k h,λi hi=>S.par i hi (by omega)⟩⟩
       .intro t y U;simp only[fR] at U;cases ht:(XK (CU am s0.e A.keep) A.ks us).get t with
        |none=>rw[ht] at U;cases U
        |some v=>
         rw[ht] at U;simp only[aI] at U;rcases Ct hlen t v ht with ⟨j,q1,Y⟩|⟨q1,Y⟩
         .obtain⟨y',p1,p2⟩:=l7 hlu j v Y;rw[U] at p2;cases p2;obtain⟨z,p3,p4⟩:=S.val j y (a.tmps.getD t undef) p1;refine p4 ?_;obtain⟨v0,p5,p6⟩:=g2 j t q1;obtain⟨z',p7,p8⟩:=l7 hla j v0 p5;rw[p3] at p7;cases p7;exact c2.env t _ (by simp only[fR,p6,aI,p8])
         .obtain⟨k1,k2,k3,k4⟩:=tU Y;obtain⟨Z,k5⟩:=IF hc.2 t v k1 k2 k3 k4;have:=hk t k1 q1 v k2 k3 k4 Z k5;subst this;have h3:=c.env t y (by simp only[fR,k5,aI];rw[Rm s'.h h1 Z k3];exact U);exact h3.restrict (p:=λ_=>aj) (λi k hi _=>by cases hi) (λk hk=>by
           have h4:=S.tot_ k hk;rcases h4 with h4|h4
           .exact .inl h4
           .exact .inr (by
             have hkl:k<w.heap.size:=by
              obtain⟨n,b,e1,e2⟩:=h4;obtain⟨k',p1,_,ob,p3,_⟩:=c2.rep.at_ n b e1;rw[e2] at p1;cases p1;exact (cF.1 p3).1
             exact t2.own_ k hkl h4)) (Rd Z y k3 U)
       .intro t v hv;rcases Ct hlen t v hv with ⟨j,q1,Y⟩|⟨q1,Y⟩
        .obtain⟨y',_,p2⟩:=l7 hlu j v Y;exact EY _ _ _ p2
        .exact WV _ v (tU Y).2.2.1
      .cases hs
     .cases hs
    .cases J
   .cases J
  .cases J
 .cases J
theorem Ed {A:ZF} {am:Nat} {I s1:TS} {x:A.D} (hs:GJ A am I x=af s1):gq (Lh A.ks 0) I.e s1.e/\∀ k,k∉A.ks->∀ v,s1.e.get k=af v->I.e.get k=af v:=by
 unfold GJ at hs;split at hs
 .rename_i us h1 hi;split at hs
  .rename_i hlen;have hlen:=aw hlen;simp only[ak] at hs;subst hs;have key:∀ k,k∉A.ks->∀ v,(XK (CU am I.e A.keep) A.ks us).get k=af v->I.e.get k=af v:=λk hk v hv=>by
    rcases Ct hlen k v hv with ⟨j,U,_⟩|⟨_,M⟩
    .exact cV (ba U) hk
    .exact (tU M).2.1
   refine ⟨λk hk J hv=>?_,key⟩;have hnk:k∉A.ks:=λhm=>by rw[WG hm] at hk;cases hk
   exact⟨J,key k hnk J hv,λ_=>rfl⟩
  .cases hs
 .cases hs
end walk
inductive Er:TC->SC->Prop
 |skip:Er .skip .skip
 |reg (ops:List sC) (prs:List (Nat×Nat)):Er (.reg ops prs) (.reg ops prs)
 |seq {a b:TC} {a' b':SC}:Er a a'->Er b b'->Er (.seq a b) (.seq a' b')
 |jseq (A:ZF) {a b:TC} {a' b':SC}:Er a a'->Er b b'->Er (.jseq A a b) (.seq a' b')
 |cond (c:Nat) {a b:TC} {a' b':SC}:Er a a'->Er b b'->Er (.cond c a b) (.cond c a' b')
 |block (id:Nat) {b:TC} {b':SC}:Er b b'->Er (.block id b) (.block id b')
 |jblock (A:ZF) (id:Nat) {b:TC} {b':SC}:Er b b'->Er (.jblock A id b) (.block id b')
 |loop (A:ZF) {b:TC} {b':SC}:Er b b'->Er (.loop A b) (.loop b')
 |exit (id:Nat):Er (.exit id) (.exit id)
 |ret:Er .ret .ret
 |defer (f:FuncId) (c:List Operand) (t:Nat):Er (.defer f c t) (.defer f c t)
 |adj (l:List Adj) {c:TC} {c':SC}:Er c c'->Er (.adj l c) c'
 |split (k off lo n:Nat) {c:TC} {c':SC}:Er c c'->Er (.split k off lo n c) c'
 |unl (n:Nat) {b:TC} {b':SC}:Er b b'->Er (.unl n b) (.loop b')
 |bad (c:SC):Er .bad c
theorem Ck {H:PT ad0} {n:Nat} {c:TC} {c':SC} (h:Er c c'):Er (HX H n c) c':=by
 unfold HX;split
 .exact .adj _ h
 .exact .split _ _ _ _ h
 .exact h
theorem xP (H:PT ad0):∀ (c:SC) (n:Nat),Er (DF H c n).1 c
 |.skip,n=>Ck .skip
 |.reg o p,n=>Ck (.reg o p)
 |.seq a b,n=>by
  have h1:=xP H a (n+1);have h2:=xP H b (DF H a (n+1)).2;simp only[DF];split
  .exact .jseq _ h1 h2
  .exact .seq h1 h2
 |.cond c a b,n=>by
  have h1:=xP H a (n+1);have h2:=xP H b (DF H a (n+1)).2;simp only[DF];exact Ck (.cond c h1 h2)
 |.block id b,n=>by
  have h1:=xP H b (n+1);simp only[DF];split
  .exact .jblock _ id h1
  .exact .block id h1
 |.loop b,n=>by
  have h1:=xP H b (n+1);simp only[DF];split
  .exact .loop _ h1
  .exact .unl _ h1
  .exact .bad _
 |.exit id,n=>Ck (.exit id)
 |.ret,n=>Ck .ret
 |.defer f c t,n=>.defer f c t
 |.bad,n=>.bad _
theorem XY {σ R:Type} {step:σ->Option (σ⊕R)} {x:σ} {r:R} (h:iter step x=af r):∃ n,iterN step n x=af r:=by
 unfold iter at h;split at h
 .exact⟨_,h⟩
 .cases h
theorem WJ {α R:Type} {o:Option (R⊕α)} {k:α->Option R} {r:R} (h:jn o k=af r):(∃ x,o=af (.inr x)/\k x=af r)\/o=af (.inl r):=by
 unfold jn at h;split at h
 .exact .inl ⟨_,rfl,h⟩
 .cases h;exact .inr rfl
 .cases h
section inv
variable {P:Program} {nt:Nat}
theorem zI (id:Nat) (ops:Array Oper) (I:Bool):cq P nt (.region id ops I)= .bad\/
 ((ops.toList.all λo=>match o.dst with|some d=>decide (d<nt)|none=>ai)=ai/\
   ((∃ f caps t,DE ops I=af (f,caps,t)/\cq P nt (.region id ops I)= .defer f caps t)\/
    ∃ l prs,rV P ops ops.toList=af l/\Mt ops l=af prs/\cq P nt (.region id ops I)= .reg l prs)):=by
 simp only[cq];split
 .rename_i hd;split
  .rename_i f caps t h;exact .inr ⟨hd,.inl ⟨f,caps,t,h,rfl⟩⟩
  .split
   .rename_i l hl;split
    .rename_i prs hp;exact .inr ⟨hd,.inr ⟨l,prs,hl,hp,rfl⟩⟩
    .exact .inl rfl
   .exact .inl rfl
 .exact .inl rfl
def El:Code->Bool
 |.cond (.const (.bool _)) _ _=>aj
 |_=>ai
theorem j6 (P:Program) (nt:Nat) (c:Code):∃ c',El c'=ai/\cq P nt c'=cq P nt c/\∀ Q a w,c'.wp P Q a w->c.wp P Q a w:=by
 have self:∀ c:Code,El c=ai->∃ c',El c'=ai/\cq P nt c'=cq P nt c/\∀ Q a w,c'.wp P Q a w->c.wp P Q a w:=λc h=>⟨c,h,rfl,λ_ _ _ h=>h⟩
 induction c with
 |cond o x y ihx ihy=>
  cases o with
  |const v=>
   cases v with
   |bool b=>
    cases b with
    |true=>
     obtain⟨c',h1,h2,I⟩:=ihx;exact⟨c',h1,h2,λQ a w h=>wp_cond_true rfl (I Q a w h)⟩
    |false=>
     obtain⟨c',h1,h2,I⟩:=ihy;exact⟨c',h1,h2,λQ a w h=>wp_cond_false rfl (I Q a w h)⟩
   |_=>exact self _ rfl
  |_=>exact self _ rfl
 |_=>exact self _ rfl
theorem FB {α:Prop} {o:Operand} {x y:Code} {sc:SC} (hn:El (.cond o x y)=ai) (h:cq P nt (.cond o x y)=sc) (h1:sc≠ .bad) (h2:∀ t a b,sc≠ .cond t a b):α:=by
 cases o with
 |tmp q=>exact (h2 _ _ _ h.symm).elim
 |const v=>cases v<;>first|exact (h1 h.symm).elim|cases hn
 |global g=>exact (h1 h.symm).elim
 |func f=>exact (h1 h.symm).elim
theorem aef {c:Code} {sl:List sC} {prs:List (Nat×Nat)} (hn:El c=ai) (h:cq P nt c= .reg sl prs):∃ id ops I,c= .region id ops I/\(ops.toList.all λo=>match o.dst with|some d=>decide (d<nt)|none=>ai)=ai/\rV P ops ops.toList=af sl/\Mt ops sl=af prs:=by
 cases c with
 |region id ops I=>
  rcases zI (P:=P) (nt:=nt) id ops I with h1|⟨hd,⟨f,caps,t,_,h1⟩|⟨l,p,h2,J,h1⟩⟩
  .rw[h1] at h;cases h
  .rw[h1] at h;cases h
  .rw[h1] at h;cases h;exact⟨id,ops,I,rfl,hd,h2,J⟩
 |cond o x y=>exact FB hn h (by simp) (by simp)
 |_=>simp[cq] at h
theorem XZ {c:Code} {f:FuncId} {caps:List Operand} {t:Nat} (hn:El c=ai) (h:cq P nt c= .defer f caps t):∃ id ops I,c= .region id ops I/\(ops.toList.all λo=>match o.dst with|some d=>decide (d<nt)|none=>ai)=ai/\DE ops I=af (f,caps,t):=by
 cases c with
 |region id ops I=>
  rcases zI (P:=P) (nt:=nt) id ops I with h1|⟨hd,⟨f',caps',t',h2,h1⟩|⟨l,p,h2,J,h1⟩⟩
  .rw[h1] at h;cases h
  .rw[h1] at h;cases h;exact⟨id,ops,I,rfl,hd,h2⟩
  .rw[h1] at h;cases h
 |cond o x y=>exact FB hn h (by simp) (by simp)
 |_=>simp[cq] at h
theorem pd {c:Code} {sc:SC} (h:cq P nt c=sc) (h1:sc≠ .bad) (h2:∀ a b,sc≠ .reg a b) (M:∀ a b t,sc≠ .defer a b t):∀ id ops J,c≠ .region id ops J:=by
 rintro id ops J rfl;rcases zI (P:=P) (nt:=nt) id ops J with I|⟨_,⟨f,caps,t,_,I⟩|⟨l,p,_,_,I⟩⟩<;>rw[I] at h
 .exact h1 h.symm
 .exact M _ _ _ h.symm
 .exact h2 _ _ h.symm
theorem aam {c:Code} (hn:El c=ai) (h:cq P nt c= .skip):c= .skip:=by
 have I:=pd h (by simp) (by simp) (by simp);cases c with
 |skip=>rfl
 |region id ops J=>exact cV rfl (I id ops J)
 |cond o x y=>exact FB hn h (by simp) (by simp)
 |_=>simp[cq] at h
theorem aee {c:Code} (hn:El c=ai) (h:cq P nt c= .ret):c= .ret:=by
 have I:=pd h (by simp) (by simp) (by simp);cases c with
 |ret=>rfl
 |region id ops J=>exact cV rfl (I id ops J)
 |cond o x y=>exact FB hn h (by simp) (by simp)
 |_=>simp[cq] at h
theorem aan {c:Code} {i:Nat} (hn:El c=ai) (h:cq P nt c= .exit i):c= .exit i:=by
 have I:=pd h (by simp) (by simp) (by simp);cases c with
 |exit id=>simp[cq] at h;rw[h]
 |region id ops J=>exact cV rfl (I id ops J)
 |cond o x y=>exact FB hn h (by simp) (by simp)
 |_=>simp[cq] at h
theorem WM {c:Code} {a b:SC} (hn:El c=ai) (h:cq P nt c= .seq a b):∃ x y,c= .seq x y/\cq P nt x=a/\cq P nt y=b:=by
 have I:=pd h (by simp) (by simp) (by simp);cases c with
 |seq x y=>simp[cq] at h;exact⟨x,y,rfl,h.1,h.2⟩
 |region id ops J=>exact cV rfl (I id ops J)
 |cond o x y=>exact FB hn h (by simp) (by simp)
 |_=>simp[cq] at h
theorem aao {c:Code} {t:Nat} {a b:SC} (hn:El c=ai) (h:cq P nt c= .cond t a b):∃ x y,c= .cond (.tmp t) x y/\cq P nt x=a/\cq P nt y=b:=by
 have I:=pd h (by simp) (by simp) (by simp);cases c with
 |cond o x y=>
  cases o with
  |tmp q=>simp[cq] at h;obtain⟨rfl,h1,h2⟩:=h;exact⟨x,y,rfl,h1,h2⟩
  |const v=>cases v<;>first|(simp [cq] at h;done)|cases hn
  |_=>simp[cq] at h
 |region id ops J=>exact cV rfl (I id ops J)
 |_=>simp[cq] at h
theorem MD {c:Code} {id:Nat} {b:SC} (hn:El c=ai) (h:cq P nt c= .block id b):∃ y,c= .block id y/\cq P nt y=b:=by
 have I:=pd h (by simp) (by simp) (by simp);cases c with
 |block i y=>simp[cq] at h;obtain⟨rfl,h1⟩:=h;exact⟨y,rfl,h1⟩
 |region id ops J=>exact cV rfl (I id ops J)
 |cond o x y=>exact FB hn h (by simp) (by simp)
 |_=>simp[cq] at h
theorem Qv {c:Code} {b:SC} (hn:El c=ai) (h:cq P nt c= .loop b):∃ y,c= .loop y/\cq P nt y=b:=by
 have I:=pd h (by simp) (by simp) (by simp);cases c with
 |loop y=>simp[cq] at h;exact⟨y,rfl,h⟩
 |region id ops J=>exact cV rfl (I id ops J)
 |cond o x y=>exact FB hn h (by simp) (by simp)
 |_=>simp[cq] at h
end inv
def ahj {R:Type} (P:Program) (E:Nat->Prop) (nt np:Nat) (φ:PM) (s:TS) (w:World) (am:Nat) (K:Ex->TS->Option R) (r:R):Exit->Act->World->Prop:=
 λe a' w'=>∃ ex s' φ',e=ex.to/\K ex s'=af r/\oJ P E nt np φ' s' a' w'/\Ch np φ φ' (bA s.h) (bA s'.h) w w'/\gq am s.e s'.e
theorem oJ.bool {P:Program} {E:Nat->Prop} {nt np:Nat} {φ:PM} {s:TS} {a:Act} {w:World} (c:oJ P E nt np φ s a w) {t:Nat} {b:Bool} (ht:s.e.get t=af (.f .bool b)):a.eval (.tmp t)= .bool b:=
 fy (c.env t _ (by simp only[fR,ht,aI,cr];rfl))
theorem oJ.anyb {P:Program} {E:Nat->Prop} {nt np:Nat} {φ:PM} {s:TS} {a:Act} {w:World} (c:oJ P E nt np φ s a w) {t:Nat} (ht:s.e.get t=af .anyb):∃ b,a.eval (.tmp t)= .bool b:=by
 have:=c.env t .anyb (by simp only[fR,ht,aI,cr]);show ∃ b,a.tmps.getD t undef= .bool b;generalize a.tmps.getD t undef=z at this;cases this with
 |anyb=>exact⟨_,rfl⟩
theorem YW {R:Type} {a b:Option R} {r:R} (h:Ff a b=af r):a=af r/\b=af r:=by
 unfold Ff at h;split at h
 .rename_i e;exact⟨h,by rw[<- e];exact h⟩
 .cases h
theorem ai1 {P:Program} {E:Nat->Prop} {nt np:Nat} {con:FuncId->Option cf} {bV:TypeId->Option Ty} {inert:FuncId->Bool} (hm:P.follows .mixedOrders=ai) (hcon:KU P con) (hin:KL P inert):
 ∀ {tc:TC} {sc:SC},Er tc sc->∀ (c:Code),cq P nt c=sc->∀ (R:Type) (s:TS) (K:Ex->TS->Option R) (r:R),o6 np con bV inert tc s K=af r->∀ (φ:PM) (a:Act) (w:World),oJ P E nt np φ s a w->c.wp P (ahj P E nt np φ s w (tc.asg 0) K r) a w:=by
 intro tc sc hE;induction hE with
 |skip=>
  intro c hc R s K r h φ a w g;obtain⟨c',hn,I,hsim⟩:=j6 P nt c;refine hsim _ _ _ ?_;rw[<- I] at hc;rw[aam hn hc];exact wp_skip ⟨.normal,s,φ,rfl,h,g,Ch.refl _ _ _ _,gq.refl _ _⟩
 |reg ops prs=>
  intro c hc R s K r h φ a w g;obtain⟨c',hn,I,hsim⟩:=j6 P nt c;refine hsim _ _ _ ?_;rw[<- I] at hc;obtain⟨id,os,dr,rfl,h1,h2,h3⟩:=aef hn hc;simp only[o6] at h;refine Z9 (K:=λs'=>K .normal s') hm hcon g (am:=Pf ops 0) (λj o d ho hd=>?_) h1 h2 h3 h λa' w' s' φ' Z J q3 q4=>⟨.normal,s',φ',rfl,Z,J,q3,q4⟩
  have hmem:o∈os.toList:=by have:=Array.mem_of_getElem? ho;simpa using this
  have key:∀ (rest:List Oper) (sl:List sC),rV P os rest=af sl->∀ o∈rest,∃ so∈sl,so.dst=o.dst:=by
   intro rest;induction rest with
   |nil=>intro sl _ o ho;cases ho
   |cons x rest ih=>
    intro sl hsl o ho;simp only[rV] at hsl;split at hsl
    .rename_i l hl;have:∃ so,sl=so::l/\so.dst=x.dst:=by
      split at hsl
      .simp only[ak] at hsl;exact⟨_,hsl.symm,rfl⟩
      .split at hsl
       .simp only[ak] at hsl;exact⟨_,hsl.symm,rfl⟩
       .cases hsl
     obtain⟨so,rfl,hso⟩:=this;rcases bm.1 ho with rfl|ho
     .exact⟨so,by simp,hso⟩
     .obtain⟨q,hq,hq2⟩:=ih l hl o ho;exact⟨q,by simp[hq],hq2⟩
    .cases hsl
  obtain⟨so,hso,hd2⟩:=key os.toList ops h2 o hmem;exact St hso (by rw[hd2];exact hd)
 |@seq x y x' y' _ _ ihx ihy=>
  intro c hc R s K r h φ a w g;obtain⟨c',hn,I,hsim⟩:=j6 P nt c;refine hsim _ _ _ ?_;rw[<- I] at hc;obtain⟨cx,cy,rfl,h1,h2⟩:=WM hn hc;simp only[o6] at h;refine wp_seq (wp_mono (ihx cx h1 R s _ r h φ a w g) ?_);rintro e a' w' ⟨ex,s',φ',rfl,hk,g',st,M⟩;have kp':gq ((TC.seq x y).asg 0) s.e s'.e:=M.mono λk hk=>by simp only[TC.asg];exact kh hk
  cases ex with
  |normal=>
   refine wp_mono (ihy cy h2 R s' K r hk φ' a' w' g') ?_;rintro e2 a2 w2 ⟨ex2,s2,φ2,rfl,hk2,g2,Z2,kp2⟩;exact⟨ex2,s2,φ2,rfl,hk2,g2,st.trans Z2,kp'.trans (kp2.mono λk hk=>by simp only[TC.asg];exact vB hk)⟩
  |exit id=>exact⟨.exit id,s',φ',rfl,hk,g',st,kp'⟩
  |ret=>exact⟨.ret,s',φ',rfl,hk,g',st,kp'⟩
 |@jseq A x y x' y' _ _ ihx ihy=>
  intro c hc R s K r h φ a w g;obtain⟨c',hn,I,hsim⟩:=j6 P nt c;refine hsim _ _ _ ?_;rw[<- I] at hc;obtain⟨cx,cy,rfl,h1,h2⟩:=WM hn hc;simp only[o6] at h;have sub1:∀ k,aN (x.asg 0) k=ai->aN ((TC.jseq A x y).asg 0) k=ai:=λk hk=>by simp only[TC.asg];exact kh (vB hk)
  have sub2:∀ k,aN (y.asg 0) k=ai->aN ((TC.jseq A x y).asg 0) k=ai:=λk hk=>by simp only[TC.asg];exact vB hk
  have sub3:∀ k,aN (Lh A.ks 0) k=ai->aN ((TC.jseq A x y).asg 0) k=ai:=λk hk=>by simp only[TC.asg];exact kh (kh hk)
  rcases WJ h with ⟨d,h3,h4⟩|h3
  .refine wp_seq (wp_mono (ihx cx h1 _ s _ _ h3 φ a w g) ?_);rintro e a' w' ⟨ex,s',φ',rfl,hk,g',st,M⟩;cases ex with
   |normal=>
    simp only[] at hk;obtain⟨d',Z,J⟩:=dJ hk;simp only[ak,Sum.inr.injEq] at J;subst J;split at h4
    .rename_i s1 Y;obtain⟨φ1,g1,H7⟩:=N7 g' Z Y λk _ _ v hv hf ha v' U=>by
      obtain⟨v0,e1,e2⟩:=M k ha v' U;rw[hv] at e1;cases e1;exact e2 hf
     refine wp_mono (ihy cy h2 R s1 K r h4 φ1 a' w' g1) ?_;rintro e2 a2 w2 ⟨ex2,s2,φ2,rfl,hk2,g2,Z2,kp2⟩;exact⟨ex2,s2,φ2,rfl,hk2,g2,(st.trans H7).trans Z2,((Ed Y).1.mono sub3).trans (kp2.mono sub2)⟩
    .cases h4
   |exit id=>simp only[] at hk;obtain⟨_,_,J⟩:=dJ hk;simp at J
   |ret=>simp only[] at hk;obtain⟨_,_,J⟩:=dJ hk;simp at J
  .refine wp_seq (wp_mono (ihx cx h1 _ s _ _ h3 φ a w g) ?_);rintro e a' w' ⟨ex,s',φ',rfl,hk,g',st,M⟩;cases ex with
   |normal=>simp only[] at hk;obtain⟨_,_,J⟩:=dJ hk;simp at J
   |exit id=>
    simp only[] at hk;obtain⟨r',Z,J⟩:=dJ hk;simp only[ak,Sum.inl.injEq] at J;subst J;exact⟨.exit id,s',φ',rfl,Z,g',st,M.mono sub1⟩
   |ret=>
    simp only[] at hk;obtain⟨r',Z,J⟩:=dJ hk;simp only[ak,Sum.inl.injEq] at J;subst J;exact⟨.ret,s',φ',rfl,Z,g',st,M.mono sub1⟩
 |@cond t x y x' y' _ _ ihx ihy=>
  intro c hc R s K r h φ a w g;obtain⟨c',hn,I,hsim⟩:=j6 P nt c;refine hsim _ _ _ ?_;rw[<- I] at hc;obtain⟨cx,cy,rfl,h1,h2⟩:=aao hn hc;simp only[o6] at h;split at h
  .rename_i b hb;rcases po h with ⟨rfl,h⟩|⟨rfl,h⟩
   .refine wp_cond_true (g.bool hb) (wp_mono (ihx cx h1 R s K r h φ a w g) ?_);rintro e a' w' ⟨ex,s',φ',rfl,hk,g',st,M⟩;exact⟨ex,s',φ',rfl,hk,g',st,M.mono λk hk=>by simp only[TC.asg];exact kh hk⟩
   .refine wp_cond_false (g.bool hb) (wp_mono (ihy cy h2 R s K r h φ a w g) ?_);rintro e a' w' ⟨ex,s',φ',rfl,hk,g',st,M⟩;exact⟨ex,s',φ',rfl,hk,g',st,M.mono λk hk=>by simp only[TC.asg];exact vB hk⟩
  .rename_i hb;obtain⟨ha,hbb⟩:=YW h;obtain⟨bv,hbv⟩:=g.anyb hb;cases bv with
   |true=>
    refine wp_cond_true hbv (wp_mono (ihx cx h1 R s K r ha φ a w g) ?_);rintro e a' w' ⟨ex,s',φ',rfl,hk,g',st,M⟩;exact⟨ex,s',φ',rfl,hk,g',st,M.mono λk hk=>by simp only[TC.asg];exact kh hk⟩
   |false=>
    refine wp_cond_false hbv (wp_mono (ihy cy h2 R s K r hbb φ a w g) ?_);rintro e a' w' ⟨ex,s',φ',rfl,hk,g',st,M⟩;exact⟨ex,s',φ',rfl,hk,g',st,M.mono λk hk=>by simp only[TC.asg];exact vB hk⟩
  .cases h
 |@block id b b' _ ih=>
  intro c hc R s K r h φ a w g;obtain⟨c',hn,I,hsim⟩:=j6 P nt c;refine hsim _ _ _ ?_;rw[<- I] at hc;obtain⟨cb,rfl,h1⟩:=MD hn hc;simp only[o6] at h;refine wp_block (wp_mono (ih cb h1 R s _ r h φ a w g) ?_);rintro e a' w' ⟨ex,s',φ',rfl,hk,g',st,M⟩;cases ex with
  |normal=>exact⟨.normal,s',φ',rfl,hk,g',st,M⟩
  |ret=>exact⟨.ret,s',φ',rfl,hk,g',st,M⟩
  |exit i=>
   simp only[Ex.to,Exit.inBlock];simp only[] at hk;split at hk
   .rename_i hb;rw[aF (aw hb)];exact⟨.normal,s',φ',rfl,hk,g',st,M⟩
   .rename_i hb;rw[ay (λe=>hb (by rw[e];exact uX id))];exact⟨.exit i,s',φ',rfl,hk,g',st,M⟩
 |@jblock A id b b' _ ih=>
  intro c hc R s K r h φ a w g;obtain⟨c',hn,I,hsim⟩:=j6 P nt c;refine hsim _ _ _ ?_;rw[<- I] at hc;obtain⟨cb,rfl,h1⟩:=MD hn hc;simp only[o6] at h;have sub1:∀ k,aN (b.asg 0) k=ai->aN ((TC.jblock A id b).asg 0) k=ai:=λk hk=>by simp only[TC.asg];exact vB hk
  have sub3:∀ k,aN (Lh A.ks 0) k=ai->aN ((TC.jblock A id b).asg 0) k=ai:=λk hk=>by simp only[TC.asg];exact kh hk
  rcases WJ h with ⟨d,h3,h4⟩|h3
  .refine wp_block (wp_mono (ih cb h1 _ s _ _ h3 φ a w g) ?_);rintro e a' w' ⟨ex,s',φ',rfl,hk,g',st,M⟩;have fin:obind (LH np A (b.asg 0) s s') (λx=>af (bQ (α:=R) x))=af (bQ d)->ahj P E nt np φ s w ((TC.jblock A id b).asg 0) K r .normal a' w':=by
    intro hk;obtain⟨d',Z,J⟩:=dJ hk;simp only[ak,Sum.inr.injEq] at J;subst J;split at h4
    .rename_i s1 Y;obtain⟨φ1,g1,H7⟩:=N7 g' Z Y λk _ _ v hv hf ha v' U=>by
      obtain⟨v0,e1,e2⟩:=M k ha v' U;rw[hv] at e1;cases e1;exact e2 hf
     exact⟨.normal,s1,φ1,rfl,h4,g1,st.trans H7,(Ed Y).1.mono sub3⟩
    .cases h4
   cases ex with
   |normal=>exact fin hk
   |ret=>simp only[] at hk;obtain⟨_,_,J⟩:=dJ hk;simp at J
   |exit i=>
    simp only[Ex.to,Exit.inBlock];simp only[] at hk;split at hk
    .rename_i hb;rw[aF (aw hb)];exact fin hk
    .obtain⟨_,_,J⟩:=dJ hk;simp at J
  .refine wp_block (wp_mono (ih cb h1 _ s _ _ h3 φ a w g) ?_);rintro e a' w' ⟨ex,s',φ',rfl,hk,g',st,M⟩;cases ex with
   |normal=>simp only[] at hk;obtain⟨_,_,J⟩:=dJ hk;simp at J
   |ret=>
    simp only[] at hk;obtain⟨r',Z,J⟩:=dJ hk;simp only[ak,Sum.inl.injEq] at J;subst J;exact⟨.ret,s',φ',rfl,Z,g',st,M.mono sub1⟩
   |exit i=>
    simp only[Ex.to,Exit.inBlock];simp only[] at hk;split at hk
    .obtain⟨_,_,J⟩:=dJ hk;simp at J
    .rename_i hb;rw[ay (λe=>hb (by rw[e];exact uX id))];obtain⟨r',Z,J⟩:=dJ hk;simp only[ak,Sum.inl.injEq] at J;subst J;exact⟨.exit i,s',φ',rfl,Z,g',st,M.mono sub1⟩
 |@loop A b b' _ ih=>
  intro c hc R s K r h φ a w g;obtain⟨c',hn,I,hsim⟩:=j6 P nt c;refine hsim _ _ _ ?_;rw[<- I] at hc;obtain⟨cb,rfl,h1⟩:=Qv hn hc;simp only[o6] at h;obtain⟨x0,hx0,h⟩:=dJ h;obtain⟨n,hn⟩:=XY h;have sub1:∀ k,aN (b.asg 0) k=ai->aN ((TC.loop A b).asg 0) k=ai:=λk hk=>by simp only[TC.asg];exact vB hk
  have sub3:∀ k,aN (Lh A.ks 0) k=ai->aN ((TC.loop A b).asg 0) k=ai:=λk hk=>by simp only[TC.asg];exact kh hk
  obtain⟨step,hstep⟩:∃ step:A.D->Option (A.D⊕R),step=λx=>(match GJ A (b.asg 0) s x with
   |some s'=>o6 np con bV inert b s' λex s'=>(match ex with
    |.normal=>obind (LH np A (b.asg 0) s s') λy=>af (mm y)
    |ex=>obind (K ex s') λr=>af (bQ r))
   |none=>ah):=⟨_,rfl⟩
  have hn:iterN step n x0=af r:=by rw[hstep];exact hn
  have stepEq:∀ x,step x=(match GJ A (b.asg 0) s x with
   |some s'=>o6 np con bV inert b s' λex s'=>(match ex with
    |.normal=>obind (LH np A (b.asg 0) s s') λy=>af (mm y)
    |ex=>obind (K ex s') λr=>af (bQ r))
   |none=>ah):=λx=>by rw[hstep]
  let Inv:Nat->Act->World->Prop:=λn a w'=>∃ x s1 φ1,iterN step n x=af r/\GJ A (b.asg 0) s x=af s1/\oJ P E nt np φ1 s1 a w'/\Ch np φ φ1 (bA s.h) (bA s1.h) w w'
  have head:∀ (n:Nat) (x:A.D),iterN step n x=af r->∃ s1,GJ A (b.asg 0) s x=af s1:=by
   intro n x hn;cases n with
   |zero=>cases hn
   |succ n=>
    simp only[iterN] at hn;cases hr:GJ A (b.asg 0) s x with
    |some s1=>exact⟨s1,rfl⟩
    |none=>rw[stepEq,hr] at hn;cases hn
  refine Cl Inv ?_ (n:=n) ?_
  .rintro n a1 w1 ⟨x,s1,φ1,hi,hr,g1,H7⟩;cases n with
   |zero=>cases hi
   |succ n=>
    simp only[iterN] at hi;have hse:=stepEq x;rw[hr] at hse;simp only[] at hse;obtain⟨kp1,kp1'⟩:=Ed hr;split at hi
    .rename_i y hy;rw[hy] at hse;refine wp_mono (ih cb h1 _ s1 _ _ hse.symm φ1 a1 w1 g1) ?_;rintro e a' w' ⟨ex,s',φ',rfl,hk,g',st,M⟩;cases ex with
     |normal=>
      simp only[] at hk;obtain⟨d',Z,J⟩:=dJ hk;simp only[ak,Sum.inl.injEq] at J;subst J;obtain⟨s2,hs2⟩:=head n d' hi;obtain⟨φ2,g2,Z2⟩:=N7 g' Z hs2 λk hkk hks v hv hf ha v' U=>by
       obtain⟨v0,e1,e2⟩:=M k ha v' U;have:=kp1' k hks v0 e1;rw[hv] at this;cases this;exact e2 hf
      exact⟨n,by omega,d',s2,φ2,hi,hs2,g2,(H7.trans st).trans Z2⟩
     |exit id=>simp only[] at hk;obtain⟨_,_,J⟩:=dJ hk;simp at J
     |ret=>simp only[] at hk;obtain⟨_,_,J⟩:=dJ hk;simp at J
    .rename_i r' hy;cases hi;rw[hy] at hse;refine wp_mono (ih cb h1 _ s1 _ _ hse.symm φ1 a1 w1 g1) ?_;rintro e a' w' ⟨ex,s',φ',rfl,hk,g',st,M⟩;cases ex with
     |normal=>simp only[] at hk;obtain⟨_,_,J⟩:=dJ hk;simp at J
     |exit id=>
      simp only[] at hk;obtain⟨r',Z,J⟩:=dJ hk;simp only[ak,Sum.inr.injEq] at J;subst J;exact⟨.exit id,s',φ',rfl,Z,g',H7.trans st,(kp1.mono sub3).trans (M.mono sub1)⟩
     |ret=>
      simp only[] at hk;obtain⟨r',Z,J⟩:=dJ hk;simp only[ak,Sum.inr.injEq] at J;subst J;exact⟨.ret,s',φ',rfl,Z,g',H7.trans st,(kp1.mono sub3).trans (M.mono sub1)⟩
    .cases hi
  .obtain⟨s1,Y⟩:=head n x0 hn;obtain⟨φ1,g1,H7⟩:=N7 g hx0 Y λk _ _ v hv _ _ v' U=>by rw[hv] at U;cases U;rfl
   exact⟨x0,s1,φ1,hn,Y,g1,H7⟩
 |exit id=>
  intro c hc R s K r h φ a w g;obtain⟨c',hn,I,hsim⟩:=j6 P nt c;refine hsim _ _ _ ?_;rw[<- I] at hc;rw[aan hn hc];exact wp_exit ⟨.exit id,s,φ,rfl,h,g,Ch.refl _ _ _ _,gq.refl _ _⟩
 |ret=>
  intro c hc R s K r h φ a w g;obtain⟨c',hn,I,hsim⟩:=j6 P nt c;refine hsim _ _ _ ?_;rw[<- I] at hc;rw[aee hn hc];exact wp_ret ⟨.ret,s,φ,rfl,h,g,Ch.refl _ _ _ _,gq.refl _ _⟩
 |defer f caps t=>
  intro c hc R s K r h φ a w g;obtain⟨c',hn,I,hsim⟩:=j6 P nt c;refine hsim _ _ _ ?_;rw[<- I] at hc;obtain⟨id,ops,dr,rfl,h1,h2⟩:=XZ hn hc;simp only[o6] at h;split at h
  .rename_i l hl;split at h
   .rename_i hi;obtain⟨l',e1,e2⟩:=yQ g.invE hl;obtain⟨H,hH⟩:=jJ s.h;have lowN:∀ n k,φ n=af k->n<2*s.nx+2:=λn k hk=>by have:=g.dom n k hk;unfold ow at this;omega
    have cfg:Cfg P ⟨2*s.nx+2,φ,E,bA s.h,w⟩ nt ⟨K2 s.e s.h,H,2*s.nx+2,0⟩ a w:=by
     refine ⟨⟨φ,?_,?_,?_,lowN,λi k hk=>.inl hk⟩,bW _,g.inert,g.size⟩
     .rw[hH];exact iY.refl _ _ _
     .rw[hH];exact g.rep
     .rw[hH,vu];exact g.env
    refine RA hin cfg h1 h2 e1 hi λa' w' c'=>?_
    obtain⟨φ',m',r',en',dm',d0'⟩:=c'.ex;have hφ:φ'=φ:=by
     funext n;cases hx:φ n with
     |some k=>exact m'.sub n k hx
     |none=>
      cases hy:φ' n with
      |none=>rfl
      |some k=>
       rcases d0' n k hy with h3|h3
       .have h3:φ n=af k:=h3;rw[hx] at h3;cases h3
       .have h4:n<2*s.nx+2:=dm' n k hy;have h5:2*s.nx+2<=n:=h3;omega
    subst hφ;simp only[hH] at m' r' en';refine ⟨.normal,_,φ',rfl,h,⟨r',?_,g.dom,g.low,g.invH,?_,c'.inert,c'.size⟩,⟨m'.ext,m'.own_,λ_ _=>rfl⟩,?_⟩
    .intro u x hx;refine en' u x ?_;simp only[fR,PT.get_set] at hx;simp only[zR.put,PT.get_set];split at hx
     .rename_i eu;rw[aF eu];simp only[aI,cr,e2,ak] at hx;rw[hx]
     .rename_i eu;rw[ay eu,vu];exact hx
    .intro u x hx;simp only[PT.get_set] at hx;split at hx
     .cases hx;simp only[Ld];exact lG _ _ _ e2
     .exact g.invE u x hx
    .intro k hk v' U;simp only[PT.get_set] at U;split at U
     .rename_i ek;subst ek;simp only[TC.asg] at hk;rw[bp,b8.2 rfl] at hk;simp at hk
     .exact⟨v',U,λ_=>rfl⟩
   .cases h
  .cases h
 |@adj l tc' sc' _ ih=>
  intro c hc R s K r h φ a w g;obtain⟨c',hn,I,hsim⟩:=j6 P nt c;refine hsim _ _ _ ?_;rw[<- I] at hc;simp only[o6] at h;split at h
  .rename_i s1 Y;obtain⟨φ1,g1,H7,kp1⟩:=VR g Y;refine wp_mono (ih c' hc R s1 K r h φ1 a w g1) ?_;rintro e a' w' ⟨ex,s',φ',rfl,hk,g',st,M⟩;exact⟨ex,s',φ',rfl,hk,g',H7.trans st,(kp1.mono λk hk=>by simp only[TC.asg];exact kh hk).trans (M.mono λk hk=>by simp only[TC.asg];exact vB hk)⟩
  .cases h
 |@split k off lo n tc' sc' _ ih=>
  intro c hc R s K r h φ a w g;obtain⟨c',hn,I,hsim⟩:=j6 P nt c;refine hsim _ _ _ ?_;rw[<- I] at hc;simp only[o6] at h;split at h
  .rename_i kd v hv;obtain⟨j,hj,h2⟩:=P0 h;subst hj;split at h2
   .rename_i s1 Y;obtain⟨g1,hH,he⟩:=Z5 g hv Y;refine wp_mono (ih c' hc R s1 K r h2 φ a w g1) ?_;rintro e a' w' ⟨ex,s',φ',rfl,hk,g',st,M⟩;exact⟨ex,s',φ',rfl,hk,g',by rw[<- hH];exact st,λk hk v' U=>by
     obtain⟨v,Z,J⟩:=M k hk v' U;exact⟨v,by rw[<- he];exact Z,J⟩⟩
   .cases h2
  .cases h
 |@unl n b b' _ ih=>
  intro c hc R s K r h φ a w g;obtain⟨c',hn,I,hsim⟩:=j6 P nt c;refine hsim _ _ _ ?_;rw[<- I] at hc;obtain⟨cb,rfl,h1⟩:=Qv hn hc;simp only[o6] at h
  let Inv:Nat->Act->World->Prop:=λm a w'=>∃ s1 φ1,adm (λs K=>o6 np con bV inert b s K) m s1 K=af r/\oJ P E nt np φ1 s1 a w'/\Ch np φ φ1 (bA s.h) (bA s1.h) w w'/\gq (b.asg 0) s.e s1.e
  refine Cl Inv ?_ (n:=n) ⟨s,φ,h,g,Ch.refl _ _ _ _,gq.refl _ _⟩;rintro m a1 w1 ⟨s1,φ1,hi,g1,H7,kp1⟩;cases m with
  |zero=>cases hi
  |succ m=>
   simp only[adm] at hi;refine wp_mono (ih cb h1 R s1 _ r hi φ1 a1 w1 g1) ?_;rintro e a' w' ⟨ex,s',φ',rfl,hk,g',st,M⟩;cases ex with
   |normal=>exact⟨m,Ce m,s',φ',hk,g',H7.trans st,kp1.trans M⟩
   |exit id=>exact⟨.exit id,s',φ',rfl,hk,g',H7.trans st,kp1.trans M⟩
   |ret=>exact⟨.ret,s',φ',rfl,hk,g',H7.trans st,kp1.trans M⟩
 |bad sc'=>
  intro c hc R s K r h;simp[o6] at h
theorem NI {P:Program} {φ:PM} {E:Nat->Prop} {s:TS} {a:Act} {w:World} (hinv:ma s.h s.nx) (hiE:tM s.e s.h) (r:qY φ E (bA s.h) w) (en:Np φ (tot E φ (bA s.h)) w (fR s.e s.h) a):∀ (rs:List ResultVar) (rvs:List RV) (l:List TV),vA P rs=af rvs->TQ s rvs=af l->
 ∃ la vs,cR s.h l=af la/\(rs.mapM (XM a.tmps)).run P w= .ok vs w/\jW φ (tot E φ (bA s.h)) w la vs
 |[],rvs,l,hc,hr=>by
  simp only[vA,ak] at hc;subst hc;simp only[TQ,ak] at hr;subst hr;exact⟨[],[],rfl,by simp,trivial⟩
 |.tmp t::rs,rvs,l,hc,hr=>by
  simp only[vA] at hc;split at hc
  .rename_i rvs' hrs;simp only[ak] at hc;subst hc;simp only[TQ] at hr;split at hr
   .rename_i v hv;split at hr
    .rename_i M I;simp only[ak] at hr;subst hr;obtain⟨la,vs,h0,h1,h2⟩:=NI hinv hiE r en rs rvs' M hrs I;simp only[rvT] at hv;obtain⟨y,Y⟩:=p_ s.h v (hiE t v hv);refine ⟨y::la,a.tmps.getD t undef::vs,oW Y h0,?_,en t y (by simp only[fR,hv,aI,Y]),h2⟩;simp only[List.mapM_cons,eH,XM,oL,cM];show ((rs.mapM (XM a.tmps)).run P w).andThen _=_;rw[h1];rfl
    .cases hr
   .cases hr
  .cases hc
 |.cell ad t::rs,rvs,l,hc,hr=>by
  simp only[vA] at hc;split at hc
  .rename_i rvs' sz ag hrs hsz hag;simp only[ak] at hc;subst hc;simp only[TQ] at hr;split at hr
   .rename_i v hv;split at hr
    .rename_i M I;simp only[ak] at hr;subst hr;obtain⟨la,vs,h0,h1,h2⟩:=NI hinv hiE r en rs rvs' M hrs I;simp only[rvT] at hv;split at hv
     .rename_i id off hp;split at hv
      .rename_i ty q hb;obtain⟨q',J⟩:=fK s.h q (hinv.cells id ty q hb);obtain⟨y,e1,e2⟩:=Wh J hv;obtain⟨H,Z⟩:=jJ s.h;have hR:DR H sz ag (.ptr (nm id) off)=af ⟨y,[nm id],[],[],[]⟩:=by
        have hg:H.get (nm id)=af ⟨ty,.mx q'⟩:=by rw[Z,bJ,hb];simp only[aI,kM,J]
        simp only[DR,hg,e2]
       obtain⟨_,_,_,h3⟩:=Sy (P:=P) hsz hag hR;obtain⟨qq,U,h4,h5,h6⟩:=h3 φ E (bA s.h) w _ (λi _=>by rw[Z]) r (en ad _ (by simp only[fR,hp,aI,cr]));refine ⟨y::la,U::vs,oW e1 h0,?_,h6,h2⟩;have hone:(XM a.tmps (.cell ad t)).run P w= .ok U w:=by
        simp only[XM,eH,h4,asAddr,oL,cM,h5]
       rw[List.mapM_cons];simp only[eH,hone,cM,h1,oL]
      .cases hv
     .cases hv
    .cases hr
   .cases hr
  .cases hc
theorem Fh:∀ (args:List TV) (k t:Nat) (x:TV),(Ku k args).get t=af x->k<=t/\args[t-k]? =af x
 |[],k,t,x,h=>by simp[Ku,PT.get] at h
 |y::args,k,t,x,h=>by
  rw[Ku,PT.get_set] at h;split at h
  .rename_i hk;subst hk;cases h;exact⟨bW _,by simp⟩
  .obtain⟨h1,h2⟩:=Fh args (k+1) t x h;refine ⟨by omega,?_⟩;rw[show t-k=t-(k+1)+1 from by omega];simpa using h2
theorem aa8 {h:bh} {l:List TV} (J:kO h l=ai) {j:Nat} {v:TV} (hj:l[j]? =af v):Ld h v=ai:=by
 obtain⟨M,hl⟩:=fK h l J;obtain⟨y,_,I⟩:=l7 hl j v hj;exact EY _ _ _ I
theorem TB {P:Program} {con:FuncId->Option cf} {bV:TypeId->Option Ty} {inert:FuncId->Bool} (hm:P.follows .mixedOrders=ai) (hcon:KU P con) (hin:KL P inert) {f:FuncId} {sf:SF} (hf:zJ P f=af sf) (D:FT) (m:D.pre.ty.den->Option D.post.ty.den) (hmod:∀ x y,m x=af y->ZY con bV inert (af sf) D x=af y):pN P f ⟨D.pre,D.post,m⟩:=by
 obtain⟨fn,c,hfn,hb,hnm,hcode,hres,hnt⟩:=Sj hf;refine ⟨⟨fn,hfn,by rw[hb];rfl,hnm⟩,λx y hxy vs hp l1 rs hq l2 la lr I J hla hlr φ E w us hrep hrel hdom=>?_⟩;have ht:=hmod x y hxy;unfold ZY at ht;simp only[] at ht;split at ht
 .rename_i args h hins;obtain⟨l1',I'⟩:=wE hins;have e1:args=vs:=by have h1:=I.pv;have h2:=I'.pv;rw[h1] at h2;cases h2;rfl
  have e2:l1'=l1:=by have h1:=I.pb;have h2:=I'.pb;rw[h1] at h2;cases h2;rfl
  subst e1;subst e2;have hget:∀ i,h.get i=hp.get i:=λi=>by
   cases h3:hp.get i with
   |some b=>exact (I'.at_ i b).2 ((I.at_ i b).1 h3)
   |none=>
    cases h4:h.get i with
    |none=>rfl
    |some b=>have:=(I.at_ i b).2 ((I'.at_ i b).1 h4);rw[h3] at this;cases this
  have hrow:∀ i,eC h i=eC hp i:=λi=>by rw[bU,bU,hget]
  have herH:bA h=bA hp:=by
   funext n;by_cases hn:∃ i,n=nm i
   .obtain⟨i,rfl⟩:=hn;rw[bJ,bJ,hget];cases h3:hp.get i with
    |none=>rfl
    |some b=>
     simp only[aI];refine Jo (λi r hr=>by rw[hrow];exact hr) λty l e=>?_
     exact (I.cells i ty l (by rw[h3,e])).1
   .rw[wI _ hn,wI _ hn]
  have hla':cR h args=af la:=iX (λi r hr=>by rw[hrow];exact hr) args la hla;split at ht
  .rename_i hle;simp only[av] at hle;have hle2:=a8 hle.2;have hle:=a8 hle.1;have hlen:=hrel.length;have hargl:args.length=la.length:=(js hla).symm;refine calls_of_wp_defers hfn hb ?_;have hcfg:oJ P E fn.ntmps D.pre.bs.length φ ⟨Ku 0 args,h,D.pre.bs.length⟩ {tmps:=us.toArray++oo (fn.ntmps-us.toArray.size) undef,defers:=[]} w:=by
    refine ⟨by rw[herH];exact hrep,?_,hdom,bW _,⟨λi ty l hl=>(I'.cells i ty l hl).1,λi b hbb=>I'.lt_len hbb⟩,?_,by simp,by simp;omega⟩
    .intro t z U;simp only[fR] at U;cases Z:(Ku 0 args).get t with
     |none=>rw[Z] at U;cases U
     |some v0=>
      rw[Z] at U;obtain⟨_,h2⟩:=Fh args 0 t v0 Z;rw[Nat.sub_zero] at h2;obtain⟨y0,q1,Y⟩:=l7 hla' t v0 h2;simp only[aI] at U;rw[U] at Y;cases Y;obtain⟨v,h3,h4⟩:=hrel.get t z q1;have hlt:t<us.length:=(bl.1 h3).1;have:(us.toArray++oo (fn.ntmps-us.toArray.size) undef).getD t undef=v:=by
       rw[gF,Array.getElem?_append];simp only[s8,hlt,bG,km,h3,uW]
      show cW φ _ w z ((us.toArray++oo (fn.ntmps-us.toArray.size) undef).getD t undef);rw[this,herH];exact h4
    .intro t v0 hv0;obtain⟨_,h2⟩:=Fh args 0 t v0 hv0;exact aa8 I'.ok h2
   refine wp_mono (ai1 (E:=E) hm hcon hin (xP D.hints sf.code 0) c hcode.symm _ _ _ _ ht φ _ w hcfg) ?_;rintro e a' w' ⟨ex,s',φ',rfl,hk,g',st,_⟩;have fin:(match TQ s' sf.res with
    |some l=>(match Es D.pre.bs.length D.post l s'.h with
     |some ⟨y,_,_,_⟩=>(match CW D.post y with|some _=>af y|none=>ah)
     |none=>ah)
    |none=>ah)=af y->Leaves P fn a'.tmps (λen w'=>∃ v φ',en= .returned v/\KP (own φ (bA hp)) w w'/\(∀ k,k<w.heap.size->own φ' (bA hq) k->own φ (bA hp) k)/\(∀ i,i<D.pre.bs.length->φ' (nm i)=φ (nm i))/\qY φ' E (bA hq) w'/\cW φ' (tot E φ' (bA hq)) w' (D' lr) v) a'.defers .returning w':=by
    intro hk;split at hk
    .rename_i l hl;split at hk
     .rename_i y' m' σ sm hM;split at hk
      .simp only[ak] at hk;subst hk;obtain⟨lo,rvs,q0,q1,Y⟩:=NI g'.invH g'.invE g'.rep g'.env fn.results.toList sf.res l hres hl;have M:=wz hM;obtain⟨φ2,lu,hlu,S⟩:=K9 (np:=D.pre.bs.length) (E:=E) J g'.invH M q0 g'.rep;rw[hlr] at hlu;cases hlu;have hresults:(results fn a'.tmps).run P w'= .ok (if h:rvs.toArray.size=1 then rvs.toArray[0] else .tuple rvs.toArray) w':=by
        rw[TW,Array.mapM_eq_mapM_toList];simp only[eH,Sem.run_map,q1,cM,oL]
       have hrl:jW φ2 (tot E φ2 (bA hq)) w' lr rvs:=by
        refine jW.of (by rw[Y.length,S.len]) λj z v U hv=>?_
        obtain⟨z0,p1,p2⟩:=S.val j z v U;obtain⟨v',p3,p4⟩:=Y.get j z0 p1;rw[hv] at p3;cases p3;exact p2 p4
       have hval:cW φ2 (tot E φ2 (bA hq)) w' (D' lr) (if h:rvs.toArray.size=1 then rvs.toArray[0] else .tuple rvs.toArray):=by
        have hll:=hrl.length;clear hlr S;cases lr with
        |nil=>
         cases rvs with
         |nil=>exact cW.tup (vs:=[]) rfl (by intro j x v Z;simp at Z)
         |cons _ _=>exact hrl.elim
        |cons z lr=>
         cases rvs with
         |nil=>exact hrl.elim
         |cons v rvs=>
          cases lr with
          |nil=>
           cases rvs with
           |nil=>exact hrl.1
           |cons _ _=>exact hrl.2.elim
          |cons y l=>
           cases rvs with
           |nil=>exact hrl.2.elim
           |cons u rvs=>
            rw[dif_neg (by simp)];refine cW.tup (vs:=v::u::rvs) (by simpa using hll) λj x' v' Z hv=>?_
            obtain⟨v'',q1,Y⟩:=hrl.get j x' Z;rw[hv] at q1;cases q1;exact Y
       have st':Ch D.pre.bs.length φ φ' (bA hp) (bA s'.h) w w':=by rw[<- herH];exact st
       refine CO hresults ⟨_,φ2,rfl,st'.ext,λk hk ho=>st'.own_ k hk (S.own_ k ho),λi hi=>?_,S.rep,hval⟩ a'.defers g'.inert;rw[S.par i hi (dz hi hle2),st'.par i hi]
      .cases hk
     .cases hk
    .cases hk
   cases ex with
   |normal=>exact fin hk
   |ret=>exact fin hk
   |exit id=>cases hk
  .cases ht
 .cases ht
def Vn:List (FuncId×cf)->FuncId->Option cf
 |[],_=>ah
 |(g,c)::r,f=>if aC g f then af c else Vn r f
def Tp (P:Program):List (FuncId×cf)->Prop
 |[]=>True
 |p::r=>aH P p.1 p.2/\Tp P r
theorem Xg {P:Program}:∀ {l:List (FuncId×cf)},Tp P l->KU P (Vn l)
 |[],_,f,c,h=>by simp[Vn] at h
 |(g,d)::r,I,f,c,h=>by
  simp only[Vn] at h;split at h
  .rename_i hb;have:=aw hb;subst this;cases h;exact I.1
  .exact Xg I.2 f c h
theorem Q6 {P:Program} {inert:FuncId->Bool} (hm:P.follows .mixedOrders=ai) (hin:KL P inert) {l:List (FuncId×cf)} (I:Tp P l) {bV:TypeId->Option Ty} {f:FuncId} {D:FT} {m:D.pre.ty.den->Option D.post.ty.den} (hs:(zJ P f).isSome=ai) (he:∀ x,ZY (Vn l) bV inert (zJ P f) D x=m x):pN P f ⟨D.pre,D.post,m⟩:=by
 obtain⟨J,hf⟩:=iH.1 hs;exact TB hm (Xg I) hin hf D m λx y hxy=>by rw[<- hf,he];exact hxy
theorem pN.sub {P:Program} {f:FuncId} {pre post:Tm} {m m':pre.ty.den->Option post.ty.den} (h:pN P f ⟨pre,post,m⟩) (hs:∀ x y,m' x=af y->m x=af y):pN P f ⟨pre,post,m'⟩:=
 ⟨h.callable,λx y hxy=>h.calls x y (hs x y hxy)⟩
theorem aH.sub {P:Program} {f:FuncId} {pre post:Tm} {m m':pre.ty.den->Option post.ty.den} (h:aH P f ⟨pre,post,m⟩) (hb:eJ pre.bs.length post.bs.length=ai) (hs:∀ x y,m' x=af y->m x=af y):aH P f ⟨pre,post,m'⟩:=
 ((h.holds hb).sub hs).toC hb
theorem rJ {α:Type} {b:Nat}:∀ (x y:List α),chk (a_ (al x) b) (λ_=>af x)=af y->bcase (aC (al x) 0) (Ff (af ([]:List α)) (chk (a_ (al ([]:List α)+al x) b) λ_=>(af (([]:List α)++x)))) (chk (a_ (al ([]:List α)+al x) b) λ_=>(af (([]:List α)++x)))=af y:=by
 intro x y h;rw[lK,jS,bN,h];cases x with
 |nil=>
  obtain⟨_,h⟩:=eo h;cases h;show Ff (af []) (af [])=_;unfold Ff;rw[aF rfl]
 |cons a r=>rfl
theorem UG {P:Program} {f:FuncId} {pre post:Tm} (hs:(zJ P f).isSome=ai):pN P f ⟨pre,post,λ_=>ah⟩:=by
 obtain⟨I,hf⟩:=iH.1 hs;obtain⟨fn,c,hfn,hb,hnm,_⟩:=Sj hf;exact⟨⟨fn,hfn,by rw[hb];rfl,hnm⟩,λx y h=>by cases h⟩
theorem pN.orElse {P:Program} {f:FuncId} {pre post:Tm} {m m':pre.ty.den->Option post.ty.den} (h:pN P f ⟨pre,post,m⟩) (h':pN P f ⟨pre,post,m'⟩):pN P f ⟨pre,post,λx=>match m x with|some y=>af y|none=>m' x⟩:=
 ⟨h.callable,λx y hxy=>by
   cases hm:m x with
   |some z=>rw[show (cf.m ⟨pre,post,λx=>match m x with|some y=>af y|none=>m' x⟩ x)=af z by show (match m x with|some y=>af y|none=>m' x)=af z;rw[hm]] at hxy;cases hxy;exact h.calls x _ hm
   |none=>rw[show (cf.m ⟨pre,post,λx=>match m x with|some y=>af y|none=>m' x⟩ x)=m' x by show (match m x with|some y=>af y|none=>m' x)=m' x;rw[hm]] at hxy;exact h'.calls x y hxy⟩
theorem aH.orE {P:Program} {f:FuncId} {pre post:Tm} {m m':pre.ty.den->Option post.ty.den} (hb:eJ pre.bs.length post.bs.length=ai) (h:aH P f ⟨pre,post,m⟩) (h':aH P f ⟨pre,post,m'⟩):aH P f ⟨pre,post,λx=>AI.orE (m x) (m' x)⟩:=by
 have e:(λx=>AI.orE (m x) (m' x))=λx=>match m x with|some y=>af y|none=>m' x:=by funext x;cases m x<;>rfl
 rw[e];exact ((h.holds hb).orElse (h'.holds hb)).toC hb
def ZT (P:Program) (f:Ty->TypeId->Bool):List Field->Nat->Ty->Bool
 |[],_,.un=>ai
 |[x],off,T=>aC x.offset off&&f T x.type&&aC (P.cellsOf x.type) T.size
 |x::y::r,off,.pr a b=>aC x.offset off&&f a x.type&&aC (P.cellsOf x.type) a.size&&ZT P f (y::r) (off+a.size) b
 |_,_,_=>aj
def TA (P:Program) (f:Ty->TypeId->Bool) (e:TypeId):Nat->Ty->Bool
 |1,T=>f T e&&aC (P.cellsOf e) T.size
 |m+2,.pr a b=>f a e&&aC (P.cellsOf e) a.size&&TA P f e (m+1) b
 |_,_=>aj
def Bv (P:Program):Nat->Ty->TypeId->Bool
 |0,_,_=>aj
 |n+1,T,t=>match T,P.underlying t with
  |.int k,af (.int k')=>k==k'
  |.bool,af .bool=>ai
  |.str,af .string=>ai
  |.sl U,af (.slice e)=>Bv P n U e&&aC (P.cellsOf e) U.size&&gi 0 U.size
  |.st U,af (.struct fs)=>ZT P (Bv P n) fs.toList 0 U&&aC (P.cellsOf t) U.size
  |.st U,af (.array m e)=>TA P (Bv P n) e m U&&aC (P.cellsOf t) U.size
  |_,_=>aj
def Wd:(T:Ty)->T.den->Prop
 |.int k,n=>(Lit.int k n).wf=ai
 |.str,s=>al s<=maxLen
 |.sl U,xs=>al xs<=maxLen/\∀ x∈(xs:List U.den),Wd U x
 |.st t,v=>Wd t v
 |.pr a b,v=>Wd a v.1/\Wd b v.2
 |_,_=>True
def KE (W:World) (T:Ty) (x:T.den) (cs:List Value):Prop:=cs.length=T.size/\∀ (j:Nat) y v,(bS T x)[j]? =af y->cs[j]? =af v->nh (λ_=>False) W y v
theorem Kk {α:Type} (z:α) (P:Nat->α->Prop):∀ n:Nat,(∀ i,i<n->∃ a,P i a)->∃ l:List α,l.length=n/\∀ i x,l[i]? =af x->P i x
 |0,_=>⟨[],rfl,λi x h=>by simp at h⟩
 |n+1,h=>by
  obtain⟨l,hl,hp⟩:=Kk z P n (λi hi=>h i (by omega));obtain⟨a,J⟩:=h n (by omega);refine ⟨l++[a],by simp[hl],λi x I=>?_⟩;by_cases hi:i<l.length
  .rw[bO hi] at I;exact hp i x I
  .rw[b7 (by omega)] at I;by_cases h0:i-l.length=0
   .rw[h0] at I;simp at I;subst I;rw[show i=n from by omega];exact J
   .rw[bR (by simp;omega)] at I;cases I
theorem Addr.add_plain {a:Addr} (h:a.spot=ah) (n:Nat):a.add n=⟨a.block,a.off+n,ah⟩:=by
 unfold Addr.add;split
 .rename_i h0;subst h0;cases a;simp at h;subst h;rfl
 .rfl
theorem YS {w:World} {a:Addr} {v:Value} (h:w.cell? a=af v):a.spot=ah:=by
 unfold Nt at h;split at h
 .split at h
  .cases h
  .rename_i hs;cases hh:a.spot with
   |none=>rfl
   |some _=>simp[hh] at hs
 .cases h
theorem KE.sub {W:World} {T:Ty} {x:T.den} {cs:List Value} {off n:Nat} (h:KE W T x ((cs.drop off).take n)) (hn:n=T.size) (hl:off+n<=cs.length):∀ (j:Nat) y v,(bS T x)[j]? =af y->cs[off+j]? =af v->nh (λ_=>False) W y v:=λj y v I hv=>by
 refine h.2 j y v I ?_;have hj:j<T.size:=by have:=(bl.1 I).1;rwa [bC] at this
 rw[cX,aF (by omega),gW];exact hv
section
variable {H:Type} {enc:TypeId×Value->H} {P:Program} {W:World} {base:Nat} {sp:Nat->Bool} {hd:Bool}
theorem Wv {f:Ty->TypeId->Bool} {m:Nat} (M:∀ (T:Ty) (t:TypeId) (cs:List Value) x,f T t=ai->DataW.trod enc P W base sp hd m t cs=af x->∃ v,KE W T v cs/\Wd T v) (cs:List Value) (ts:List (DataW H×List MemPlace)):
 ∀ (fs:List Field) (off k:Nat) (T:Ty),ZT P f fs off T=ai->off+T.size<=cs.length->(∀ (i:Nat) (fl:Field),fs[i]? =af fl->∃ z,DataW.trod enc P W base sp hd m fl.type ((cs.drop fl.offset).take (P.cellsOf fl.type))=af z)->
 ∃ v,(∀ (j:Nat) y u,(bS T v)[j]? =af y->cs[off+j]? =af u->nh (λ_=>False) W y u)/\Wd T v
 |[],off,k,.un,_,_,_=>⟨(),λj y u I=>by simp[bS] at I,trivial⟩
 |[x],off,k,T,h,hl,hg=>by
  simp only[ZT,av] at h;obtain⟨⟨h1,h2⟩,J⟩:=h;have h1:=aw h1;have J:=aw J;obtain⟨z,U⟩:=hg 0 x rfl;obtain⟨v,hv,Z⟩:=M T _ _ _ h2 U;rw[h1] at hv;exact⟨v,hv.sub J (by omega),Z⟩
 |x::x'::r,off,k,.pr a b,h,hl,hg=>by
  simp only[ZT,av] at h;obtain⟨⟨⟨h1,h2⟩,J⟩,h4⟩:=h;have h1:=aw h1;have J:=aw J;simp only[Ty.size] at hl;obtain⟨z,U⟩:=hg 0 x rfl;obtain⟨v,hv,Z⟩:=M a _ _ _ h2 U;rw[h1] at hv;have hv:=hv.sub J (by omega);obtain⟨v',hv',Y⟩:=Wv M cs ts (x'::r) (off+a.size) (k+1) b h4 (by omega) (λi fl hi=>hg (i+1) fl (by simpa using hi));refine ⟨(v,v'),λj y u I hu=>?_,Z,Y⟩;simp only[bS] at I;by_cases hj:j<a.size
  .rw[bO (by rw[bC];exact hj)] at I;exact hv j y u I hu
  .rw[b7 (by rw[bC];omega),bC] at I;exact hv' _ y u I (by rw[show off+a.size+(j-a.size)=off+j from by omega];exact hu)
theorem Ww {f:Ty->TypeId->Bool} {m:Nat} {e:TypeId} (J:∀ (T:Ty) (t:TypeId) (cs:List Value) x,f T t=ai->DataW.trod enc P W base sp hd m t cs=af x->∃ v,KE W T v cs/\Wd T v) (cs:List Value):
 ∀ (n i:Nat) (T:Ty),TA P f e n T=ai->i*P.cellsOf e+T.size<=cs.length->(∀ j,j<n->∃ z,DataW.trod enc P W base sp hd m e ((cs.drop ((i+j)*P.cellsOf e)).take (P.cellsOf e))=af z)->
 ∃ v,(∀ (j:Nat) y u,(bS T v)[j]? =af y->cs[i*P.cellsOf e+j]? =af u->nh (λ_=>False) W y u)/\Wd T v
 |0,i,T,h,_,_=>by unfold TA at h;cases h
 |1,i,T,h,hl,hg=>by
  simp only[TA,av] at h;have h3:=aw h.2;obtain⟨z,M⟩:=hg 0 (by omega);obtain⟨v,hv,Y⟩:=J T _ _ _ h.1 M;rw[dl] at hv;exact⟨v,hv.sub h3 (by omega),Y⟩
 |n+2,i,T,h,hl,hg=>by
  cases T with
  |pr a b=>
   simp only[TA,av] at h;obtain⟨⟨h1,h2⟩,h4⟩:=h;have h3:=aw h2;simp only[Ty.size] at hl;obtain⟨z,M⟩:=hg 0 (by omega);obtain⟨v,hv,Y⟩:=J a _ _ _ h1 M;rw[dl] at hv;have hv:=hv.sub h3 (by omega);obtain⟨v',Z,U⟩:=Ww J cs (n+1) (i+1) b h4 (by rw[Nv,Nat.one_mul];omega) (λj hj=>by have:=hg (j+1) (by omega);rwa [show i+(j+1)=i+1+j from by omega] at this);refine ⟨(v,v'),λj y u I hu=>?_,Y,U⟩;simp only[bS] at I;by_cases hj:j<a.size
   .rw[bO (by rw[bC];exact hj)] at I;exact hv j y u I hu
   .rw[b7 (by rw[bC];omega),bC] at I;exact Z _ y u I (by rw[Nv,Nat.one_mul,show i*P.cellsOf e+P.cellsOf e+(j-a.size)=i*P.cellsOf e+j from by omega];exact hu)
  |_=>unfold TA at h;cases h
theorem Hx:∀ (n:Nat) (T:Ty) (t:TypeId) (fuel:Nat) (cs:List Value) x,Bv P n T t=ai->(∀ b,sp b=ai)->DataW.trod enc P W base sp hd fuel t cs=af x->∃ v,KE W T v cs/\Wd T v
 |0,_,_,_,_,_,h,_,_=>by unfold Bv at h;cases h
 |n+1,T,t,fuel,cs,x,h,hsp,ht=>by
  unfold Bv at h;split at h
  .rename_i k k' hu;have hk:=eq_of_beq h;subst hk;obtain⟨m,rfl,_,J⟩:=DataW.trod_int hu ht;refine ⟨m,⟨rfl,λj y v I hv=>?_⟩,J⟩;cases j with
   |zero=>simp[bS] at I hv;subst I hv;exact .raw _
   |succ j=>simp[bS] at I
  .rename_i hu;obtain⟨b,rfl,_⟩:=DataW.trod_bool hu ht;refine ⟨b,⟨rfl,λj y v I hv=>?_⟩,trivial⟩;cases j with
   |zero=>simp[bS] at I hv;subst I hv;exact .raw _
   |succ j=>simp[bS] at I
  .rename_i hu;obtain⟨s,rfl,_,hs⟩:=DataW.trod_string hu ht;refine ⟨s.data.toList,⟨rfl,λj y v I hv=>?_⟩,by simpa[Wd] using hs⟩;cases j with
   |zero=>simp[bS] at I hv;subst I hv;exact .raw _
   |succ j=>simp[bS] at I
  .rename_i U e hu;simp only[av] at h;obtain⟨⟨h1,h2⟩,h3⟩:=h;have h2:=aw h2;have h3:0<U.size:=a8 h3;rcases Go.Deep.open_slice hu ht with ⟨rfl,_⟩|⟨a,len,cap,m,k,D,Pl,rfl,hb,hl,hm,hmm,_,hi⟩
   .refine ⟨[],⟨rfl,λj y v I hv=>?_⟩,by simp[Wd]⟩;cases j with
    |zero=>simp[bS] at I hv;subst I hv;exact .nil _ _ (by unfold maxLen;omega)
    |succ j=>simp[bS] at I
   .rw[hsp,aF rfl] at hmm;rw[h2] at hi;obtain⟨xs,hx1,Y⟩:=Kk U.zero (λi (v:U.den)=>∃ cs',W.cells? base (a.add (i*U.size)) U.size=af cs'/\KE W U v cs'/\Wd U v) len (λi hil=>by
     obtain⟨cs',hc,htt⟩:=hi i (by omega);obtain⟨v,hv,J⟩:=Hx n U e k cs' _ h1 hsp htt;exact⟨v,cs',hc,hv,J⟩)
    refine ⟨xs,⟨rfl,λj y v I hv=>?_⟩,by show al xs<=maxLen;omega,λy I=>?_⟩
    .cases j with
     |succ j=>simp[bS] at I
     |zero=>
      simp[bS] at I hv;subst I hv;by_cases h0:len=0
      .have:xs=[]:=gH.1 (by omega);subst this;subst h0;exact .nil _ _ hm
      .obtain⟨x0,hx0⟩:∃ x0,xs[0]? =af x0:=⟨xs[0]'(by omega),aB (by omega)⟩
       obtain⟨cs0,hc0,_⟩:=Y 0 x0 hx0;obtain⟨_,hcl0,hat0⟩:=World.cells?_some hc0;have hca:=hat0 0 h3;rw[aB (by omega)] at hca;have hspot:a.spot=ah:=by
        have:=YS hca;simpa[Addr.add] using this
       have hblk:=World.block_lt_of_cell? W _ hca;rw[Nat.zero_mul,Addr.add_plain hspot,Addr.add_plain rfl] at hca hblk;have hcell:∀ (i j:Nat) x,xs[i]? =af x->j<U.size->∃ cs',W.cell? ⟨a.block,a.off+(i*U.size+j),ah⟩=cs'[j]? /\j<cs'.length/\KE W U x cs':=λi j x Z hj=>by
        obtain⟨cs',hc,hr,_⟩:=Y i x Z;obtain⟨_,hcl,hat⟩:=World.cells?_some hc;have:=hat j hj;rw[Addr.add_plain hspot,Addr.add_plain rfl,pq] at this;exact⟨cs',this,by omega,hr⟩
       have hflat:∀ j,j<xs.length*U.size->∃ x,xs[j/U.size]? =af x/\j%U.size<U.size/\j=j/U.size*U.size+j%U.size:=λj hj=>by
        have h5:j/U.size<xs.length:=Nat.div_lt_of_lt_mul (by rw[Hq];exact hj);exact⟨xs[j/U.size],aB h5,Nat.mod_lt _ h3,by rw[Hq];exact (Nat.div_add_mod j U.size).symm⟩
       have hlen:(List.flatMap (bS U) xs).length=xs.length*U.size:=fB (bC U) xs;obtain⟨ab,ao,az⟩:=a;cases hspot;rw[<- hx1];refine .sl (List.flatMap (bS U) xs) xs.length cap ab ao (λj=>(W.cell? ⟨ab,ao+j,ah⟩).getD undef) (by omega) hm (λh=>h) hblk (rG U xs) (λj hj=>?_) (λj y I=>?_)
       .obtain⟨x,Z,hjs,hje⟩:=hflat j (by omega);obtain⟨cs',g1,g2,_⟩:=hcell _ _ x Z hjs;rw[<- hje] at g1;simp only[g1,aB g2,uW]
       .have hj:j<xs.length*U.size:=by rw[<- hlen];exact (bl.1 I).1
        obtain⟨x,Z,hjs,hje⟩:=hflat j hj;obtain⟨cs',g1,g2,g3⟩:=hcell _ _ x Z hjs;rw[<- hje] at g1;simp only[g1];rw[aB g2];refine g3.2 (j%U.size) y _ ?_ (aB g2);obtain⟨r,hr⟩:=EW (bC U) xs (j/U.size) x Z;have:((List.flatMap (bS U) xs).drop (j/U.size*U.size))[j%U.size]? =af y:=by rw[gW,<-hje];exact I
        rw[hr,bO (by rw[bC];exact hjs)] at this;exact this
    .obtain⟨i,M⟩:=e9 I;obtain⟨_,_,_,J⟩:=Y i y M;exact J
  .rename_i U fs hu;simp only[av] at h;have h2:=aw h.2;obtain⟨xs,m,rfl,_,hl,hxl,hg⟩:=DataW.trod_struct hu ht;obtain⟨v,hv,J⟩:=Wv (f:=Bv P n) (m:=m) (λT t cs x h1 h2=>Hx n T t m cs x h1 hsp h2) cs xs fs.toList 0 0 U h.1 (by omega) (λi fl hi=>by
    have M:fs[i]? =af fl:=by simpa using hi
    have:=hg i fl M;have hlt:i<xs.length:=by rw[hxl];exact (cF.1 M).1
    rw[aB hlt] at this;exact⟨_,this⟩)
   exact⟨v,⟨by rw[hl,h2];rfl,λj y u I hu=>hv j y u I (by rw[bN];exact hu)⟩,J⟩
  .rename_i U m e hu;simp only[av] at h;have h2:=aw h.2;obtain⟨xs,q,rfl,_,hl,hxl,hg⟩:=DataW.trod_array hu ht;obtain⟨v,hv,J⟩:=Ww (f:=Bv P n) (m:=q) (λT t cs x h1 h2=>Hx n T t q cs x h1 hsp h2) cs m 0 U h.1 (by omega) (λj hj=>by
    have:=hg j hj;rw[aB (by omega)] at this;rw[bN];exact⟨_,this⟩)
   exact⟨v,⟨by rw[hl,h2];rfl,λj y u I hu=>hv j y u I (by rw[Nat.zero_mul,bN];exact hu)⟩,J⟩
  .cases h
theorem Qn {n:Nat} {T:Ty} {t:TypeId} {v:Value} {r:Reach} {bs:Nat} (I:Bv P n T t=ai) (h1:T.one=ai) (h:Hm P W r bs t v):v.cells.toList=[v]:=by
 cases n with
 |zero=>unfold Bv at I;cases I
 |succ n=>
  unfold Bv at I;unfold Hm at h;cases v with
  |agg cs=>
   exfalso;split at I<;>rename_i hu<;>first|(rw [hu] at h;simp only[] at h;unfold Cell.okWide at h;rw[hu] at h;unfold Cell.ok at h;rw[hu] at h;simp at h)|cases h1|cases I
  |_=>rfl
theorem T3 {n:Nat} {T:Ty} {t:TypeId} {v:Value} {r:Reach} {bs:Nat} (I:Bv P n T t=ai) (h1:T.one=aj) (h:Hm P W r bs t v):∃ cs,v= .agg cs:=by
 cases n with
 |zero=>unfold Bv at I;cases I
 |succ n=>
  unfold Bv at I;unfold Hm at h;split at I<;>rename_i hu<;>first|(rw [hu] at h;obtain⟨cs,h,_⟩:=h;exact⟨cs,h⟩)|cases h1|cases I
theorem open_arg {n:Nat} {T:Ty} {t:TypeId} {v:Value} {d:DataW H} {ps:List MemPlace} {r:Reach} {bs:Nat} (J:Bv P n T t=ai) (hsp:∀ b,sp b=ai) (hok:Hm P W r bs t v) (h:DataW.Trod enc P W base sp hd t v d ps):∃ x,nh (λ_=>False) W (gJ T x) v/\Wd T x:=by
 obtain⟨fuel,hf⟩:=h;obtain⟨x,I,U⟩:=Hx n T t fuel _ _ J hsp hf;refine ⟨x,?_,U⟩;by_cases h1:T.one=ai
 .obtain⟨e1,e2⟩:=Df T x h1;exact I.2 0 _ v (by rw[e1];rfl) (by rw[Qn J h1 hok];rfl)
 .obtain⟨cs,rfl⟩:=T3 J (by simpa using h1) hok;rw[qE T x (by simpa using h1)];have hl:cs.toList.length=(bS T x).length:=by rw[bC];exact I.1
  have:=nh.agg (O:=λ_=>False) (w:=W) (bS T x) cs.toList hl (nR T x) (λj y u M hu=>I.2 j y u M hu);simpa using this
end
theorem Xn {z:Int} (h:(Lit.int .u8 z).wf=ai):0<=z/\z<=255:=⟨bt (oP.1 h).1,bt (oP.1 h).2⟩
def fo (w:WT) (l:List ET) (c:List Int) (y:List Int):List Int:=y.foldl (λc k=>jl c (oH w l k.toNat)) c
theorem ML {w:WT} {l:List ET} (I:TR (w,l)) {j:Nat} (hj:j<=l.length):∀ (y:List Int) (c:List Int),En (j:Int) c->(∀ k∈y,0<=k/\k<j)->En (j:Int) (fo w l c y)
 |[],_,h,_=>h
 |k::r,c,h,g=>by
  obtain⟨M,k1⟩:=g k (dh ..);exact ML I hj r _ (h.jl ((O8 I (show k.toNat<l.length by omega)).mono (by omega))) λz J=>g z (cH _ J)
theorem aet {w:WT} {l:List ET} {c y:List Int} {i:Nat} (h:i<y.length):fo w l c (y.take (i+1))=jl (fo w l c (y.take i)) (oH w l (aJ (T:=.int .i64) y (i:Int)).toNat):=by
 rw[mD (T:=.int .i64) h];unfold fo;rw[dP];rfl
theorem ah2 {w:WT} {l:List ET} (I:TR (w,l)) {n:Int} {c:List Int} (hc:En n c) (p:Nat->Bool) (j:Nat):fo w l c (fL p j)=jl c (JC (oH w l) p j):=by
 rw[<- WZ hc j];unfold fo fL;rw[List.foldl_map];rfl
theorem RH {w:WT} {l:List ET} {j:Nat} {k:Int} (h0:0<=k) (h1:k<j):aJ (T:=.sl (.int .i64)) ((c4 j).map (oH w l)) k=oH w l k.toNat:=by
 obtain⟨k,rfl⟩:∃ i:Nat,k=i:=⟨k.toNat,by omega⟩
 rw[qA,dQ,aA,bc,List.getElem?_range (by omega)];rfl
theorem MB {w:WT} {l:List ET} (J:TR (w,l)) {j:Nat} (hj:j<=l.length) {c y:List Int} (hc:En (j:Int) c) (U:∀ k∈y,0<=k/\k<j) (hn:y.length<=1000) {R:Type} {B:(List Int×Int)×(WT×List ET)×List (List Int)->Option (((List Int×Int)×(WT×List ET)×List (List Int))⊕R)} {Q P:R->Prop} (hQ:∀ r,P r->Q r) (he:Ok (B ((fo w l c y,(y.length:Int)),(w,l),(c4 j).map (oH w l))) λr=>∃ z,r= .inr z/\P z):
 Ok (iter (λx=>bcase (fO x.1.2 (aO (al y))) (chk (fe x.1.2 (al y)) λ_=>lt (aJ (T:=.int .i64) y x.1.2) λI=>chk (fe I (al x.2.2)) λ_=>chk (fe I (al x.2.2)) λ_=>lt (aJ (T:=.sl (.int .i64)) x.2.2 I) λY=>obind (pA (x.1.1,Y)) λZ=>af (mm ((Z,bk .i64 (x.1.2+1)),x.2))) (B x)) ((c,0),(w,l),(c4 j).map (oH w l))) Q:=by
 refine b9 y.length (λi x=>x=((fo w l c (y.take i),(i:Int)),(w,l),(c4 j).map (oH w l))) ?_ ?_ (by rw[List.take_zero];rfl)
 .rintro i x hi rfl;have hm:=U _ (bH (T:=.int .i64) (xs:=y) (j:=(i:Int)) (by omega) (by omega));refine du ?_;refine ch (aS ?_);have M:(aJ (T:=.int .i64) y (i:Int):Int)<(((c4 j).map (oH w l)).length:Nat):=by rw[bX,jM];exact hm.2
  refine aR hm.1 M (aR hm.1 M (aS ?_));dsimp only;rw[RH hm.1 hm.2];have e1:=ML J hj (y.take i) c hc λk hk=>U k (gV hk)
  have h2:(aJ (T:=.int .i64) y (i:Int)).toNat<l.length:=by
   have h3:(aJ (T:=.int .i64) y (i:Int):Int)<(j:Int):=hm.2;have h4:(0:Int)<=aJ (T:=.int .i64) y (i:Int):=hm.1;omega
  have e2:=O8 J h2;refine aV (by rw[adv];exact XB _ _ e1.lb e2.lb) (ar ?_);rw[aet hi,gM (by omega)]
 .rintro x rfl;rw[cP];obtain⟨_,e,r,rfl,h⟩:=he;exact dv (agw e (hQ r h))
theorem Tu (l:List ET) (u:Nat):∀ i:Nat,Cm l u i<i
 |0=>by show (-1:Int)<0;omega
 |i+1=>by
  have:=Tu l u i;rw[Cm];split
  .omega
  .split
   .omega
   .split<;>omega
theorem amc {w:WT} {l:List ET} (I:TR (w,l)) {j:Nat} (hj:j<l.length) {c:List Int} (hc:En (j:Int) c) (e:c=if 0<=t8 l (cO l j).th j then oH w l (t8 l (cO l j).th j).toNat else []):tk (fo w l (fo w l c (Yf w l j)) (fL (dB (Pz w l j)) j)) (cO l j).th=oH w l j:=by
 rw[ait I hj,<-e];have h1:fo w l c (Yf w l j)=jl (jl c (JC (oH w l) (dB (HE w l j)) j)) (wkC w l j):=by
  have h2:=ah2 I hc (dB (HE w l j)) j;have J:=ML I (show j<=l.length by omega) (fL (dB (HE w l j)) j) c hc λk hk=>Jl hk
  rw[h2] at J;unfold Yf wkC;by_cases h:(cO l j).k=17
  .rw[aF h,aF h,<-h2];unfold fo;rw[dP];rfl
  .rw[ay h,ay h,iP,h2,ml J]
 have M:En (j:Int) (fo w l c (Yf w l j)):=by
  refine ML I (show j<=l.length by omega) _ c hc λk hk=>?_
  rcases bP.1 hk with hk|hk
  .exact Jl hk
  .split at hk
   .rename_i h;rw[aL.1 hk];exact⟨(ZN I hj h).2.2,Tu _ _ _⟩
   .cases hk
 rw[ah2 I M,h1]
theorem Tn {w:WT} {l:List ET} (I:TR (w,l)):r9 (w,l)=af (csN w l):=by
 have hl:=I.len;dsimp only at hl;refine cE ?_;unfold r9 bx iR bB bD kz aX cL aE cC;refine b9 l.length (λj x=>x=((j:Int),(w,l),(c4 j).map (oH w l))) ?_ ?_ rfl
 .rintro j x hj rfl;have hjl:j<=l.length:=by omega
  obtain⟨p0,p1⟩:=TZ l (cO l j).th j;refine du ?_;refine aZ (λx=>x=(if 0<=t8 l (cO l j).th j then oH w l (t8 l (cO l j).th j).toNat else [],(w,l),(c4 j).map (oH w l))) ?_ ?_
  .refine aV (Gz I hj) (eY (λh=>?_) λh=>ar ?_)
   .have q:t8 l (cO l j).th j<(((c4 j).map (oH w l)).length:Nat):=by rw[bX,jM];exact p1
    refine aR h q (aR h q (aS (ar ?_)));dsimp only;rw[RH h p1,aF h]
   .rw[ay (by omega)]
  rintro x rfl;have hc:En (j:Int) (if 0<=t8 l (cO l j).th j then oH w l (t8 l (cO l j).th j).toNat else []):=by
   split
   .exact (O8 I (by omega)).mono (by omega)
   .exact En.nil (by omega)
  have hhd:∀ k∈Yf w l j,0<=k/\k<j:=λk hk=>by
   rcases bP.1 hk with hk|hk
   .exact Jl hk
   .split at hk
    .rename_i h;rw[aL.1 hk];exact⟨(ZN I hj h).2.2,Tu _ _ _⟩
    .cases hk
  have hlen:(Yf w l j).length<=1000:=by
   have:=Jm (dB (HE w l j)) j;unfold Yf;rw[bu];split<;>simp<;>omega
  have hls:=Jm (dB (Pz w l j)) j;have hck:=amc I hj hc rfl;have M:=ML I hjl (Yf w l j) _ hc hhd;have J:=ML I hjl (fL (dB (Pz w l j)) j) _ M λk hk=>Jl hk
  generalize (if 0<=t8 l (cO l j).th j then oH w l (t8 l (cO l j).th j).toNat else [])=c at*
  refine aV (age I hj) ?_;refine MB I hjl hc hhd hlen (P:=λr=>r= .inl (((j+1:Nat):Int),(w,l),(c4 (j+1)).map (oH w l))) (λr h=>by subst h;rfl) ?_;refine ax (P:=λr=>r= .inl (((j+1:Nat):Int),(w,l),(c4 (j+1)).map (oH w l))) ?_ λr hr=>ar ⟨r,rfl,hr⟩
  refine aV (afu I hj) (MB I hjl M (λk hk=>Jl hk) (by omega) (P:=λr=>r= .inl (((j+1:Nat):Int),(w,l),(c4 (j+1)).map (oH w l))) (λr h=>h) ?_);refine ax (P:=λr=>r= .inl (((j+1:Nat):Int),(w,l),(c4 (j+1)).map (oH w l))) ?_ λr hr=>ar ⟨r,rfl,hr⟩
  have et:(eN l j).1=((cO l j).th:Int):=(qC I hj).th;have U:=J.2 (cO l j).th;refine ch (aS (aV (x:=oH w l j) ?_ (bg (by simp;omega) (by omega) (ar ?_))))
  .change py (fo w l (fo w l c (Yf w l j)) (fL (dB (Pz w l j)) j),(eN l j).1)=_;rw[et,<-hck];exact TY _ _ J.lb (uD I hj).th4 U.1 (by omega)
  .dsimp only;rw[gM (by omega),Fs,cA];rfl
 .rintro x rfl;exact dv (ar rfl)
theorem VZ {w:WT} {l:List ET} (I:TR (w,l)):j7 (csN w l,csN w l)=af ai:=by
 have hl:=I.len;dsimp only at hl;refine Po _ ⟨by simp[s7];omega,λc hc=>?_⟩;obtain⟨k,hk,rfl⟩:=c_.1 hc;exact (O8 I (jL.1 hk)).lb
theorem KM (a b c:List Int) (U:a.length<=9223372036854775807) (J:∀ z∈a,0<=z/\z<=255) (hc:c.length<=9223372036854775807) (M:∀ z∈c,0<=z/\z<=255):Ok (lV (a,b,c)) λy=>y=ai:=by
 unfold lV bd aE;refine ax (P:=TR) (Pp a b c 40 (by omega) (by omega) U J hc M) ?_;rintro⟨w,l⟩ I;refine aV (ZB I) (aZ (λx=>x=ai) ?_ λx J=>ar J);exact Qm (aV (Tn I) (aV (VZ I) (Qm (aV (x:=ai) VO (ar rfl)))))
theorem HBClocks_law (x:List Int×List Int×List Int) (w:Wd (.st (.pr (.sl (.int .u8)) (.pr (.sl (.int .u8)) (.sl (.int .u8))))) x):lV x=af ai:=by
 obtain⟨a,b,c⟩:=x;obtain⟨⟨l0,w0⟩,_,⟨l2,J⟩⟩:=w;obtain⟨y,h,rfl⟩:=KM a b c l0 (λz I=>Xn (w0 z I)) l2 (λz I=>Xn (J z I));exact h
def inert (f:FuncId):Bool:=aC f 42
theorem Qx:∃ I,Tryz.prog.underlying 20=af (.interface I):=⟨#[],by kernel_rfl⟩
theorem aar (w:World):(Op.equal 20 .nilIface .nilIface).run Tryz.prog w= .ok ai w:=by
 obtain⟨I,hu⟩:=Qx;have key:∀ d,(Op.equalIn (d+1) 20 .nilIface .nilIface).run Tryz.prog w= .ok ai w:=λd=>by simp[Op.equalIn,run_underlying hu]
 exact key 9999
theorem aa6 {P:Program} {ops:Array Oper} {Q:Exit->Act->List Frame->World->Prop} {i:Nat} {rest:List Nat} {a:Act} {cs:List Frame} {w w':World} {o:Oper} (J:ops[i]? =af o) (I:o.guard=ah) (hr:(execOp a.eval o).run P w= .ok .recover w') (hn:recoverD cs=ah) (h:wpOpsS P ops Q rest (a.put o.dst .nilIface) cs w'):wpOpsS P ops Q (i::rest) a cs w:=by
 have I:iG o (yielded ops a.tmps)=ai:=by unfold iG;rw[I]
 simp only[wpOpsS,J,I,bG,hr,hn];exact h
theorem aa5 {P:Program} {ops:Array Oper} {Q:Exit->Act->List Frame->World->Prop} {i:Nat} {rest:List Nat} {a:Act} {cs:List Frame} {w w':World} {o:Oper} {v:Value} (J:ops[i]? =af o) (I:o.guard=ah) (hr:(execOp a.eval o).run P w= .ok (.value v) w') (h:wpOpsS P ops Q rest (a.put o.dst v) cs w'):wpOpsS P ops Q (i::rest) a cs w:=by
 have I:iG o (yielded ops a.tmps)=ai:=by unfold iG;rw[I]
 simp only[wpOpsS,J,I,bG,hr];exact h
theorem Qw:KL Tryz.prog inert:=by
 intro f hf;have hf:f=42:=aw hf;subst hf;refine ⟨⟨Tryz.f42,Tryz.func42,by kernel_rfl,by kernel_rfl⟩,λargs w=>?_⟩;refine callsD_of_wpS Tryz.func42 rfl λc₀ cs hu=>?_
 refine wpS_seq (wpS_region ?_);generalize ht:(args++oo (Tryz.f42.ntmps-args.size) undef)=T;have hs:5<=T.size:=by
  rw[<- ht];simp only[Array.size_append,Array.size_replicate];have:Tryz.f42.ntmps=5:=rfl;omega
 have hr:recoverD (c₀::cs)=ah:=by simp[recoverD,hu]
 refine aa6 (i:=0) (rest:=[1]) rfl rfl (w':=w) ?_ hr ?_
 .simp[execOp,resolve,invoke,builtin]
 refine aa5 (v:=.bool aj) rfl rfl (w':=w) ?_ ?_
 .have hv:Act.eval (Nw {tmps:=T,defers:=[]} (af 2) .nilIface) (.tmp 2)= .nilIface:=by
   simp[Act.eval,Nw,show 2<T.size by omega]
  have h2:=aar w;have hcst:Act.eval (Nw {tmps:=T,defers:=[]} (af 2) .nilIface) (.const .nilIface)= .nilIface:=rfl;show (execOp (Act.eval (Nw {tmps:=T,defers:=[]} (af 2) .nilIface)) _).run _ w=_;simp[execOp,hv,hcst,eqGuard,binOp,h2]
 show Exit.thenS _ _ .normal _ _ _;refine wpS_cond (t:=aj) ?_ ?_
 .simp[Act.eval,Nw,show 3<T.size by omega]
 refine wpS_of_wp (wp_skip ?_);have hres:Tryz.f42.results=#[]:=rfl;exact⟨rfl,c₀.mode,rfl,.tuple #[],by simp[results,hres],⟨_,rfl⟩,hu,rfl⟩
def dE {α:Type}:List (Nat×α)->PT α
 |[]=>.leaf
 |p::r=>(dE r).set p.1 (af p.2)
noncomputable abbrev Pg:Program:=Tryz.prog
def cn (D:FT) (m:D.pre.ty.den->Option D.post.ty.den):cf:=⟨D.pre,D.post,m⟩
theorem alt:Pg.follows .mixedOrders=ai:=by kernel_rfl
theorem ac {f:FuncId} {c:cf} {l:List (FuncId×cf)} (h:aH Pg f c) (t:Tp Pg l):Tp Pg ((f,c)::l):=⟨h,t⟩
theorem an:Tp Pg []:=trivial
inductive OI {R:Type}:Option R->Option R->Prop where
 |rfl {a:Option R}:OI a a
 |chk {b:Bool} {k k':Option R} (h:kA k k'):OI (chk b λ_=>k) (chk b λ_=>k')
 |bcase {b:Bool} {t f t' f':Option R} (h1:kA t t') (h2:kA f f'):OI (bcase b t f) (bcase b t' f')
 |lt {α:Type} {x:α} {k k':α->Option R} (h:∀ y,kA (k y) (k' y)):OI (lt x k) (lt x k')
 |jn {α:Type} {o o':Option (R⊕α)} {k k':α->Option R} (h:kA o o') (hk:∀ x,kA (k x) (k' x)):OI (jn o k) (jn o' k')
 |obind {α:Type} {o o':Option α} {k k':α->Option R} (h:kA o o') (hk:∀ x,kA (k x) (k' x)):OI (obind o k) (obind o' k')
 |iter {σ:Type} {f g:σ->Option (σ⊕R)} {x:σ} (h:∀ x,kA (f x) (g x)):OI (fH f x) (iter g x)
theorem OI.o {R:Type} {a b:Option R} (h:OI a b):kA a b:=by
 cases h with
 |rfl=>exact kA.rfl
 |chk h=>exact kA.chk h
 |bcase h g=>exact kA.bcase h g
 |lt h=>exact kA.lt h
 |jn h g=>exact kA.jn h g
 |obind h g=>exact kA.obind h g
 |iter h=>exact kA.iter h
theorem mk {f:FuncId} (D:FT) (m:D.pre.ty.den->Option D.post.ty.den) {l:List (FuncId×cf)} (J:Tp Pg l) (I:TypeId->Option Ty) (he:∀ x,ZY (Vn l) I inert (zJ Pg f) D x=m x:=by intro x;kernel_rfl) (hs:(zJ Pg f).isSome=ai:=by kernel_rfl) (hb:eJ D.pre.bs.length D.post.bs.length=ai:=by kernel_rfl):aH Pg f (cn D m):=(Q6 alt Qw J hs he).toC hb
theorem xu {f:FuncId} (D:FT) (m n:D.pre.ty.den->Option D.post.ty.den) (J:∀ x,kA (m x) (n x)) {l:List (FuncId×cf)} (M:Tp Pg l) (I:TypeId->Option Ty) (he:∀ x,ZY (Vn l) I inert (zJ Pg f) D x=n x:=by intro x;kernel_rfl) (hs:(zJ Pg f).isSome=ai:=by kernel_rfl) (hb:eJ D.pre.bs.length D.post.bs.length=ai:=by kernel_rfl):aH Pg f (cn D m):=((Q6 alt Qw M hs he).sub J).toC hb
theorem Qr {f:FuncId} (D:FT) (hs:(zJ Pg f).isSome=ai:=by kernel_rfl) (hb:eJ D.pre.bs.length D.post.bs.length=ai:=by kernel_rfl):aH Pg f (cn D λ_=>ah):=(UG hs).toC hb
end
end Go.Proofs.YtkagidinekdnoaaGreatDoor.AI
