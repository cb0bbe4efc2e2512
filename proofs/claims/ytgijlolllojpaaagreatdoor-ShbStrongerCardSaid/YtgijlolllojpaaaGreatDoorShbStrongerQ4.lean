/-
  Texts of the proof, part 5 of 6: what is used to prove the statement. No condition.
-/
import Derived.Test.YtgijlolllojpaaaGreatDoorShbStrongerQ3
import Derived.Deep.Slices
import Derived.OpenShut
import Derived.Below
import Derived.Test.YtgijlolllojpaaaGreatDoorProg
import Derived.KernelRfl
import Derived.Recover
namespace Go.Proofs.YtgijlolllojpaaaGreatDoor.AI
open Go.RowKit
set_option maxRecDepth 100000
set_option maxHeartbeats 4000000
set_option linter.unusedVariables false
set_option linter.unusedSimpArgs false
open Act renaming put→NQ
open _root_.Array renaming replicate→oG
open _root_.Bool renaming true→ai,false→aj
open Call renaming operands→eV
open _root_.Int renaming ofNat_eq_natCast→au,ofNat→aQ
open _root_.List renaming length→al,range→dl,length_singleton→dV,cons_append→gr,length_nil→j6,toArray→kN,nil_append→lY,getElem?_cons_zero→qT,take_succ_cons→wj
open _root_.Nat renaming beq→aC,testBit→aN,add_zero→du,ble→eQ,blt→gk
open Oper renaming wp→HQ
open _root_.Option renaming some→af,none→ah,bind_some→aH,map_some→b_,map→lX,getD_some→vg
open Region renaming wanted→iQ
open Result renaming andThen_ok→cJ
open Sem renaming run_bind→eP,run_pure→oZ
open _root_.Sum renaming inr→bX,inl→oY
open Value renaming okWide→HO
open Value.bool renaming injEq→Cr
open World renaming cell?→NI
noncomputable section
theorem Up {K V:Ty} {es:List (K.den×V.den)} (I:mpE K V es=ai):es.map (λp=>(pU K p.1,AV.f (gO V p.2)))=[]:=by
 unfold mpE at I;split at I
 .rfl
 .cases I
theorem aiv {K V:Ty} {es:List (K.den×V.den)} (I:mpE K V es=ai):Uo K=ai:=by
 unfold mpE at I;split at I
 .rfl
 .cases I
theorem WR {str:Bool} {K:Ty} (I:X9 str K=ai):Uo K=ai:=by
 cases K<;>cases str<;>first|rfl|cases I
theorem Oq {str:Bool} {K:Ty} (I:X9 str K=ai) (k k':K.den):uY .eql (pU K k) (pU K k')=af (.bool (Lr K k k'))/\zn str (pU K k)=ai/\gO K k= .raw (pU K k):=by
 cases K<;>cases str<;>first|cases I|skip
 .exact⟨by simp only[uY,pU,Lr,cS,bG,ak,Cr];exact Bool.beq_eq_decide_eq _ _,rfl,rfl⟩
 .exact⟨by simp only[uY,pU,Lr,D_],rfl,rfl⟩
theorem QM {str:Bool} {K V:Ty} (I:X9 str K=ai) (k:K.den):∀ es:List (K.den×V.den),tM (pU K k) (es.map λp=>(pU K p.1,AV.f (gO V p.2)))=af ((tu k es).map λv=>AV.f (gO V v))
 |[]=>rfl
 |(k',v)::r=>by
  simp only[gq,tM,(Oq I k k').1,tu];cases hb:Lr K k k' with
  |true=>rfl
  |false=>simp only[cz,ep];exact QM I k r
theorem WM {str:Bool} {K V:Ty} (I:X9 str K=ai) (k:K.den) (v:V.den):∀ es:List (K.den×V.den),zl (pU K k) (.f (gO V v)) (es.map λp=>(pU K p.1,AV.f (gO V p.2)))=af ((C3 k v es).map λp=>(pU K p.1,AV.f (gO V p.2)))
 |[]=>rfl
 |(k',J)::r=>by
  simp only[gq,zl,(Oq I k k').1,C3];cases hb:Lr K k k' with
  |true=>rfl
  |false=>simp only[WM I k v r,cz,ep,gq]
theorem ahh {h:bk} {ok b:Bool} {v:TV} {y:AV} (hv:cj h v=af y):cj h (pkT ok v (.f .bool b))=af (pkV ok y b):=by
 cases ok with
 |false=>exact hv
 |true=>simp only[pkT,pkV,cj,cL,hv];rfl
section ops
variable {R:Type} {P:Program} {o:Oper} {e:iU} {h:bk} {nx:Nat} {K:KO R} {r:R}
theorem Le.aggOf {l:List FV} (hc:∀ x∈l,x.isCell=ai):Le (.agg (l.map .f)) (.f (.agg l)):=by
 intro φ O w v hr;cases hr with
 |@agg _ vs hl hcl hrr=>
  refine .f (.agg l vs (by simpa using hl) hc λj y u I hu=>?_);have:=hrr j (.f y) u (by rw[a8,I];rfl) hu;cases this with
  |f h=>exact h
def Qy (S:Ty) (l:List TV):Option (S.den×Nat×List TV):=match l with
 |c::r=>(match iP PT.leaf S c with|some (x,m)=>af (x,m,r)|none=>ah)
 |[]=>ah
theorem MP:∀ {l I:List FV},l.map AV.f=I.map AV.f->l=I
 |[],[],_=>rfl
 |[],_::_,h=>by simp at h
 |_::_,[],h=>by simp at h
 |x::r,y::r',h=>by
  simp only[gq,i_,AV.f.injEq] at h;rw[h.1,MP h.2]
theorem IF (h:bk):∀ (ds:List TypeDesc) (T:Ty),q_ ds=af T->∀ (n:Nat) (l:List TV) (x:T.den) (m:Nat) (r:List TV),fc PT.leaf n T l=af (x,m,r)->∀ J,cL h l=af J->∃ l2,cL h r=af l2/\J=(bS T x).map .f++l2
 |[],T,hd,n,l,x,m,r,hp,J,hl=>by
  simp only[q_,ak] at hd;subst hd;cases n with
  |zero=>simp[fc] at hp
  |succ n=>
   simp only[fc,ak,aD] at hp;obtain⟨_,_,rfl⟩:=hp;exact⟨J,hl,rfl⟩
 |d::ds,T,hd,n,l,x,m,r,hp,J,hl=>by
  have plain:∀ (S:Ty),S.one=ai->(∀ t,S≠ .sl t)->∀ (v:TV) (a:S.den) (m:Nat) (y:AV),iP PT.leaf S v=af (a,m)->cj h v=af y->y= .f (gO S a):=by
   intro S Y hns v a m y I hy;cases v with
   |f Q q=>
    simp only[iP] at I;split at I
    .rename_i z hz;simp only[ak,aD] at I;obtain⟨rfl,_⟩:=I;obtain⟨e,rfl⟩:=jr hz;subst e;simp only[cj,ak] at hy;exact hy.symm
    .cases I
   |emp=>
    cases S with
    |sl t=>exact cV rfl (hns t)
    |_=>simp[iP] at I
   |nil=>
    cases S with
    |sl t=>exact cV rfl (hns t)
    |_=>simp[iP] at I
   |row id=>simp[iP,PT.get] at I
   |fel T xs j hj off=>simp[iP] at I
   |pel id sz j off=>simp[iP] at I
   |ptr id off=>simp[iP] at I
   |csl id off z=>simp[iP] at I
   |mp id=>simp[iP] at I
   |rtl id jj=>simp[iP] at I
   |agg q=>simp[iP] at I
   |tup q=>simp[iP] at I
   |clo f q=>simp[iP] at I
   |undef=>simp[iP] at I
   |np=>simp[iP] at I
   |anyb=>simp[iP] at I
  have one:∀ (S:Ty),S.one=ai->(∀ t,S≠ .sl t)->∀ (n:Nat) (l:List TV) (a:S.den) (m:Nat) (r:List TV),fc PT.leaf n S l=af (a,m,r)->∀ J,cL h l=af J->∃ l2,cL h r=af l2/\J=(bS S a).map .f++l2:=by
   intro S Y hns n l a m r hp J hl;cases n with
   |zero=>simp[fc] at hp
   |succ n=>
    cases l with
    |nil=>
     cases S with
     |int k=>cases hp
     |bool=>cases hp
     |str=>cases hp
     |sl t=>exact cV rfl (hns t)
     |_=>cases Y
    |cons c q=>
     have hpp:Qy S (c::q)=af (a,m,r):=by
      cases S with
      |int k=>simp only[fc] at hp;simp only[Qy];cases hq:iP PT.leaf (.int k) c with
       |none=>rw[hq] at hp;cases hp
       |some z=>rw[hq] at hp;exact hp
      |bool=>simp only[fc] at hp;simp only[Qy];cases hq:iP PT.leaf .bool c with
       |none=>rw[hq] at hp;cases hp
       |some z=>rw[hq] at hp;exact hp
      |str=>simp only[fc] at hp;simp only[Qy];cases hq:iP PT.leaf .str c with
       |none=>rw[hq] at hp;cases hp
       |some z=>rw[hq] at hp;exact hp
      |sl t=>exact cV rfl (hns t)
      |_=>cases Y
     simp only[Qy] at hpp;split at hpp
     .rename_i a1 m1 h1;simp only[ak,aD] at hpp;obtain⟨rfl,rfl,rfl⟩:=hpp;obtain⟨y,l2,rfl,g1,Z⟩:=cY hl;have:=plain S Y hns c a1 m1 y h1 g1;subst this;exact⟨l2,Z,by rw[(Dw S a1 Y).1];rfl⟩
     .cases hpp
  have two:∀ (S U:Ty),S.one=ai->(∀ t,S≠ .sl t)->q_ ds=af U->T= .pr S U->∃ l2,cL h r=af l2/\J=(bS T x).map .f++l2:=by
   intro S U Y hns M e;subst e;cases n with
   |zero=>simp[fc] at hp
   |succ n=>
    simp only[fc] at hp;split at hp
    .rename_i x1 m1 r1 h1;split at hp
     .rename_i x2 m2 r2 h2;simp only[ak,aD] at hp;obtain⟨rfl,rfl,rfl⟩:=hp;obtain⟨l2,g1,Z⟩:=one S Y hns n l x1 m1 r1 h1 J hl;obtain⟨l3,g3,g4⟩:=IF h ds U M n r1 x2 m2 r2 h2 l2 g1;exact⟨l3,g3,by rw[Z,g4,bS,cP,gI]⟩
     .cases hp
    .cases hp
  cases d with
  |int k=>
   simp only[q_] at hd;split at hd
   .rename_i U M;simp only[ak] at hd;exact two (.int k) U rfl (λt h=>by cases h) M hd.symm
   .cases hd
  |bool=>
   simp only[q_] at hd;split at hd
   .rename_i U M;simp only[ak] at hd;exact two .bool U rfl (λt h=>by cases h) M hd.symm
   .cases hd
  |string=>
   simp only[q_] at hd;split at hd
   .rename_i U M;simp only[ak] at hd;exact two .str U rfl (λt h=>by cases h) M hd.symm
   .cases hd
  |_=>simp[q_] at hd
theorem Du:∀ (ds:List TypeDesc) (T:Ty),q_ ds=af T->∀ a b:T.den,pf ds (bS T a) (bS T b)=af (Lr T a b)
 |[],T,hd,a,b=>by simp only[q_,ak] at hd;subst hd;rfl
 |d::ds,T,hd,a,b=>by
  cases d with
  |int k=>
   simp only[q_] at hd;split at hd
   .rename_i U M;simp only[ak] at hd;subst hd;have J:=Du ds U M a.2 b.2;simp only[bS,gr,lY,pf,xV,cS,bG,Lr];cases he:((a.1:Int)==b.1) with
    |true=>have I:(a.1:Int)=b.1:=by simpa using he
           simp only[J,I,dY,kP]
    |false=>have I:¬(a.1:Int)=b.1:=by simpa using he
            simp only[I,dc,nF]
   .cases hd
  |bool=>
   simp only[q_] at hd;split at hd
   .rename_i U M;simp only[ak] at hd;subst hd;have J:=Du ds U M a.2 b.2;simp only[bS,gr,lY,pf,xV,Lr];cases he:((a.1:Bool)==b.1)<;>simp[he,J]
   .cases hd
  |string=>
   simp only[q_] at hd;split at hd
   .rename_i U M;simp only[ak] at hd;subst hd;have J:=Du ds U M a.2 b.2;simp only[bS,gr,lY,pf,xV,Lr,D_];cases he:decide ((a.1:List UInt8)=b.1) with
    |true=>simp only[J,kP]
    |false=>simp only[nF]
   .cases hd
  |_=>simp[q_] at hd
theorem Nx {u:TV} (hu:u.isC=aj) {lu:List TV} (hl:u.cs=af lu) {ds:List TypeDesc} {T:Ty} (hd:q_ ds=af T) {a:T.den} {m:Nat} (hp:fc PT.leaf 40 T lu=af (a,m,[])) {y:AV} (I:cj h u=af y):Le y (.f (.agg (bS T a))):=by
 obtain⟨h1,_⟩:=Ks hl I;obtain⟨l2,h2,J⟩:=IF h ds T hd 40 lu a m [] hp _ h1;simp only[cL,ak] at h2;subst h2;rw[ia] at J;cases u with
 |agg l=>
  simp only[cj] at I;split at I
  .rename_i M _;simp only[ak] at I;subst I;have:M=(bS T a).map .f:=J;rw[this];exact Le.aggOf (oe T a)
  .cases I
 |f S x=>
  simp only[cj,ak] at I;subst I;have U:S.one=aj:=hu;rw[Az] at J;have:bS S x=bS T a:=MP J;rw[qG S x U,this];exact Le.refl _
 |tup l=>simp[TV.cs,TV.isC] at hl
 |undef=>simp[TV.cs,TV.isC] at hl
 |np=>cases hu
 |anyb=>simp[TV.cs,TV.isC] at hl
 |fel T xs j hj off=>cases hu
 |pel id sz j off=>cases hu
 |ptr id off=>cases hu
 |csl id off z=>cases hu
 |row id=>cases hu
 |emp=>cases hu
 |nil=>cases hu
 |mp id=>cases hu
 |rtl id Y=>cases hl
 |clo g l=>cases hu
variable (hinv:mi h nx) (hi:tW e h)
include hinv hi
theorem aoq {con:FuncId->Option cr} {b8:TypeId->Option Ty} {neg:Bool} {ds:List TypeDesc} {x y:Operand} {st:Bool} (hc:dk P o.op=af (.eqs neg ds x y)) (hk:d_ con b8 (.op (.eqs neg ds x y)) e h nx K=af r):kW P o st e h nx K r:=by
 obtain⟨H,hH⟩:=jU h;simp only[d_] at hk;split at hk
 .rename_i T u v hd hu hv;split at hk
  .cases hk
  .rename_i hcc;simp only[ja,not_or,Bool.not_eq_true] at hcc;split at hk
   .rename_i lu lv hlu hlv;split at hk
    .rename_i a m1 b m2 hpa hpb;obtain⟨yu,h1,h2⟩:=bN hi hu;obtain⟨yv,h3,h4⟩:=bN hi hv;obtain⟨⟨⟨U,M⟩,hc3⟩,Z⟩:=hcc;have l1:=Nx U hlu hd hpa h2;have l2:=Nx M hlv hd hpb h4;have tmp:∀ (z:Operand) (q:TV),fP e z=af q->q.isC=aj->Ux z=aj->∃ t,z= .tmp t:=by
      intro z q I hq hg;cases z with
      |tmp t=>exact⟨t,rfl⟩
      |const c=>
       have I:cst c=af q:=by
        simp only[fP,aja] at I;split at I
        .cases hg
        .exact I
       have:=(Kq h I).2.2;rw[hq] at this;cases this
      |func g=>simp only[fP,ak] at I;subst I;cases hq
      |global g=>
       simp only[fP] at I;split at I
       .cases I;cases hq
       .cases I
     obtain⟨t,rfl⟩:=tmp x u hu U hc3;obtain⟨t',rfl⟩:=tmp y v hv M Z;have same:t=t'->bS T a=bS T b:=by
      intro ht;subst ht;rw[hu] at hv;cases hv;rw[hlu] at hlv;cases hlv;rw[hpa] at hpb;cases hpb;rfl
     let J:Af:=((JK e h).set t (af (.f (.agg (bS T a))))).set t' (af (.f (.agg (bS T b))))
     have e1:mM J (.tmp t)=af (.f (.agg (bS T a))):=by
      simp only[mM,J,PT.get_set];by_cases ht:t=t'
      .rw[aE ht,same ht]
      .rw[aA ht];simp
     have e2:mM J (.tmp t')=af (.f (.agg (bS T b))):=by simp only[mM,J,PT.get_set,bG]
     have ha:eU (.eqs neg ds (.tmp t) (.tmp t')) J H 0=af ⟨raw (.bool (Lr T a b !=neg)),[],[],[],[]⟩:=by
      simp only[eU,e1,e2,Du ds T hd a b];rfl
     have ht:=IH hc ha;rw[hH] at ht;have Y:gR P o (fV e h) (bC h) _:=ht.envLe (e2:=fV e h) λs z _ I=>by
      simp only[J,PT.get_set] at I;rw[<- vD];simp only[mM] at h1 h3;split at I
      .rename_i es;subst es;cases I;exact⟨yv,h3,l2⟩
      .split at I
       .rename_i es;subst es;cases I;exact⟨yu,h1,l1⟩
       .exact⟨z,I,Le.refl _⟩
     refine ⟨_,0,0,h,nx,hk,⟨⟨_,Y,λy hy=>?_,by simp[Co.eff,ue],by simp[Co.eff],by simp[Co.eff],by simp[Co.eff]⟩,λ_ _ h=>h,hinv,bT _,λ_=>⟨rfl,rfl⟩⟩⟩;simp only[cj,ak] at hy;exact hy
    .cases hk
   .cases hk
 .cases hk
theorem aoe {con:FuncId->Option cr} {b8:TypeId->Option Ty} (hc:dk P o.op=af .mkm) (hk:d_ con b8 (.op .mkm) e h nx K=af r):kW P o aj e h nx K r:=by
 have _:=hi;obtain⟨H,M⟩:=jU h;refine ⟨_,_,_,_,_,hk,js.new hinv hc M (y0:=.mp (nm nx)) (rdl:=[]) (b0:=⟨0,.mp []⟩) rfl (dX.zero h) (λ_ _ he=>by cases he) (λY U d g b' I=>?_) (λY U y d g J=>?_) (by simp)⟩
 .cases I;exact kf.refl d _
 .simp only[cj,ak] at J;subst J;exact lV.refl d _
theorem al9 {con:FuncId->Option cr} {b8:TypeId->Option Ty} {x:Operand} (hc:dk P o.op=af (.lenm x)) (hk:d_ con b8 (.op (.lenm x)) e h nx K=af r):kW P o aj e h nx K r:=by
 obtain⟨H,J⟩:=jU h;simp only[d_] at hk;split at hk
 .rename_i id hv;split at hk
  .rename_i K' V es hb;obtain⟨y,h1,h2⟩:=bN hi hv;simp only[cj,ak] at h2;subst h2;split at hk
   case isFalse=>cases hk
   rename_i hO;have hg:H.get (nm id)=af ⟨0,.mp (es.map λp=>(pU K' p.1,.f (gO V p.2)))⟩:=by rw[J,bM,hb];show af (xl.mk 0 (mpC K' V es))=_;rw[B2 hO]
   exact⟨_,_,_,_,_,hk,js.pure (k:=0) hinv hc J (y0:=raw (.int .i64 es.length)) (rdl:=[nm id]) (by simp only[eU,h1,hg,bP]) (λy I=>by simp only[cj,ak] at I;subst I;exact Le.refl _) (λn hn=>by simp only[aL] at hn;subst hn;rw[eo];exact bZ.2 rfl) (λh=>by cases h)⟩
  .cases hk
 .cases hk
theorem aoi {con:FuncId->Option cr} {b8:TypeId->Option Ty} {str ok:Bool} {z:Value} {x k:Operand} (hc:dk P o.op=af (.lku str ok z x k)) (hk:d_ con b8 (.op (.lku str ok z x k)) e h nx K=af r):kW P o aj e h nx K r:=by
 obtain⟨H,Y⟩:=jU h;simp only[d_] at hk;split at hk
 .rename_i id KT kv hv U;split at hk
  .rename_i K' V es hb;split at hk
   .rename_i J;obtain⟨y,h1,h2⟩:=bN hi hv;obtain⟨y2,h3,h4⟩:=bN hi U;simp only[cj,ak] at h2 h4;subst h2;subst h4;simp only[av] at J;have hg:H.get (nm id)=af ⟨0,.mp (es.map λp=>(pU K' p.1,.f (gO V p.2)))⟩:=by rw[Y,bM,hb];show af (xl.mk 0 (mpC K' V es))=_;rw[B2 J.2]
    obtain⟨_,hok,henc⟩:=Oq J.1 kv kv;rw[henc] at h3;have hrd:∀ n∈[nm id],aN (kV id) (ow n)=ai:=λn hn=>by simp only[aL] at hn;subst hn;rw[eo];exact bZ.2 rfl
    split at hk
    .rename_i hE;split at hk
     .rename_i v M;have hzz:=(Kq h M).1;exact⟨_,_,_,_,_,hk,js.pure (k:=0) hinv hc Y (y0:=pkV ok (raw z) aj) (rdl:=[nm id]) (by simp only[eU,h1,h3,hg,hok,bG,Up hE,tM]) (λy I=>by rw[ahh hzz] at I;cases I;exact Le.refl _) hrd (λh=>by cases h)⟩
     .cases hk
    .split at hk
     .rename_i kv' Z zv hkv M;split at hk
      .rename_i zv' hzv;obtain⟨e1,e2⟩:=jr hkv;cases e1;subst e2;obtain⟨e3,e4⟩:=jr hzv;cases e3;subst e4;have hzz:=(Kq h M).1;simp only[cj,ak] at hzz;refine ⟨_,_,_,_,_,hk,js.pure (k:=0) hinv hc Y (y0:=pkV ok (.f (gO _ (tm kv' es zv'))) (Ol kv' es)) (rdl:=[nm id]) ?_ (λy I=>by rw[ahh (y:=.f (gO _ (tm kv' es zv'))) rfl] at I;cases I;exact Le.refl _) hrd (λh=>by cases h)⟩;simp only[eU,h1,h3,hg,hok,bG,QM J.1];unfold tm Ol;cases hf:tu kv' es with
       |none=>simp only[Option.map_none];rw[hzz]
       |some v=>rfl
      .cases hk
     .cases hk
   .cases hk
  .cases hk
 .cases hk
theorem aod {con:FuncId->Option cr} {b8:TypeId->Option Ty} {str:Bool} {x k v:Operand} (hc:dk P o.op=af (.mup str x k v)) (hk:d_ con b8 (.op (.mup str x k v)) e h nx K=af r):kW P o aj e h nx K r:=by
 obtain⟨H,hH⟩:=jU h;simp only[d_] at hk;split at hk
 .rename_i id KT U VT vv hv Z Y;split at hk
  .rename_i K' V es hb;split at hk
   .rename_i J;simp only[av] at J;obtain⟨y,h1,h2⟩:=bN hi hv;obtain⟨y2,h3,h4⟩:=bN hi Z;obtain⟨y3,h5,h6⟩:=bN hi Y;simp only[cj,ak] at h2 h4 h6;subst h2;subst h4;subst h6;have hg:H.get (nm id)=af ⟨0,.mp (es.map λp=>(pU K' p.1,.f (gO V p.2)))⟩:=by rw[hH,bM,hb];show af (xl.mk 0 (mpC K' V es))=_;rw[B2 J.2]
    obtain⟨_,hok,henc⟩:=Oq J.1.1 U U;rw[henc] at h3;have hrd:∀ n∈[nm id],aN (kV id) (ow n)=ai:=λn hn=>by simp only[aL] at hn;subst hn;rw[eo];exact bZ.2 rfl
    split at hk
    .rename_i hE;exact⟨_,_,_,_,_,hk,js.wrt (k:=0) (m:=0) (v:=.undef) (rd:=kV id) hinv hc hH (y0:=raw undef) (b0:=⟨0,.mp [(pU KT U,.f (gO VT vv))]⟩) (rdl:=[nm id]) (by simp only[eU,h1,h3,h5,hg,hok,bG,Up hE,zl]) (B:=.mp KT VT [(U,vv)]) hb (dX.zero h) (by simp) rfl (λty' l2 he=>by cases he) (λH1 H2 d g b' I=>by simp only[kH,B2 (WR J.1.1),ak] at I;subst I;exact kf.refl d _) (λH1 H2 y d g M=>by simp only[cj,ak] at M;subst M;exact lV.refl d _) hrd⟩
    .split at hk
     .rename_i kv' vv' hkv hvv;obtain⟨e1,e2⟩:=jr hkv;cases e1;subst e2;obtain⟨e3,e4⟩:=jr hvv;cases e3;subst e4;exact⟨_,_,_,_,_,hk,js.wrt (k:=0) (m:=0) (v:=.undef) (rd:=kV id) hinv hc hH (y0:=raw undef) (b0:=⟨0,.mp ((C3 kv' vv' es).map λp=>(pU _ p.1,.f (gO _ p.2)))⟩) (rdl:=[nm id]) (by simp only[eU,h1,h3,h5,hg,hok,bG,WM J.1.1]) (B:=.mp _ _ (C3 kv' vv' es)) hb (dX.zero h) (by simp) rfl (λty' l2 he=>by cases he) (λH1 H2 d g b' I=>by simp only[kH,B2 (WR J.1.1),ak] at I;subst I;exact kf.refl d _) (λH1 H2 y d g M=>by simp only[cj,ak] at M;subst M;exact lV.refl d _) hrd⟩
     .cases hk
   .cases hk
  .cases hk
 .cases hk
theorem aoa {con:FuncId->Option cr} {b8:TypeId->Option Ty} {x:Operand} (hc:dk P o.op=af (.rng x)) (hk:d_ con b8 (.op (.rng x)) e h nx K=af r):kW P o aj e h nx K r:=by
 obtain⟨H,M⟩:=jU h;simp only[d_] at hk;split at hk
 .rename_i s hv;obtain⟨y,h1,h2⟩:=bN hi hv;simp only[cj,ak] at h2;subst h2;refine ⟨_,_,_,_,_,hk,js.new hinv hc M (y0:=.ptr (nm nx) 0) (rdl:=[]) (b0:=⟨0,.it ⟨kN s⟩ 0⟩) (by simp only[eU,h1];rfl) (dX.zero h) (λ_ _ he=>by cases he) (λY U d g b' I=>?_) (λY U y d g J=>?_) (by simp)⟩
  .cases I;exact kf.refl d _
  .simp only[cj,ak] at J;subst J;exact lV.refl d _
 .cases hk
theorem aob {con:FuncId->Option cr} {b8:TypeId->Option Ty} {x:Operand} (hc:dk P o.op=af (.nxt x)) (hk:d_ con b8 (.op (.nxt x)) e h nx K=af r):kW P o aj e h nx K r:=by
 obtain⟨H,M⟩:=jU h;simp only[d_] at hk;split at hk
 .rename_i id hv;split at hk
  .rename_i K' V es hb;split at hk
   .rename_i s p Z;obtain⟨y,h1,h2⟩:=bN hi hv;simp only[cj,ak] at h2;subst h2;have hg:H.get (nm id)=af ⟨0,.it ⟨kN s⟩ p⟩:=by rw[M,bM,hb];show af (xl.mk 0 (mpC K' V es))=_;rw[aj0 Z]
    have hrd:∀ n∈[nm id],aN (kV id) (ow n)=ai:=λn hn=>by simp only[aL] at hn;subst hn;rw[eo];exact bZ.2 rfl
    rcases pH hk with ⟨hp,hk⟩|⟨hp,hk⟩
    .obtain⟨hj,hk⟩:=ef hk;have hp:=a_ hp;have e2:(⟨kN s⟩:ByteArray).data.toList[p]? =af (List.getD s p 0):=by
      show s[p]? =_;rw[ax,aB hp];rfl
     have e3:gk (List.getD s p 0).toNat 128=ai:=by
      have hj:(aQ (List.getD s p 0).toNat:Int)<128:=bf hj;exact bE (Int.ofNat_lt.1 hj)
     exact⟨_,_,_,_,_,hk,js.wrt (k:=0) (m:=0) (rd:=kV id) hinv hc M (y0:=.tup [raw (.bool ai),raw (.int .i64 p),raw (.int .i32 (List.getD s p 0).toNat)]) (b0:=⟨0,.it ⟨kN s⟩ (p+1)⟩) (rdl:=[nm id]) (by simp only[eU,h1,hg,e2,e3,bG]) (B:=.mp itK .un [((s,aQ (p+1)),())]) hb (dX.zero h) (by simp) rfl (λty' l2 he=>by cases he) (λY U d g b' I=>by cases I;exact kf.refl d _) (λY U y d g J=>by cases J;exact lV.refl d _) hrd⟩
    .have hp:s.length<=p:=Nat.not_lt.1 λq=>by rw[show gk p s.length=ai from bE q] at hp;cases hp
     have e2:(⟨kN s⟩:ByteArray).data.toList[p]? =ah:=by
      show s[p]? =_;exact bR hp
     exact⟨_,_,_,_,_,hk,js.wrt (k:=0) (m:=0) (rd:=kV id) hinv hc M (y0:=.tup [raw (.bool aj)]) (b0:=⟨0,.it ⟨kN s⟩ p⟩) (rdl:=[nm id]) (by simp only[eU,h1,hg,e2]) (B:=.mp itK .un [((s,aQ p),())]) hb (dX.zero h) (by simp) rfl (λty' l2 he=>by cases he) (λY U d g b' I=>by cases I;exact kf.refl d _) (λY U y d g J=>by cases J;exact lV.refl d _) hrd⟩
   .cases hk
  .cases hk
 .cases hk
theorem K_op {con:FuncId->Option cr} {b8:TypeId->Option Ty} {s:Zi} (hc:dk P o.op=af s) (hk:d_ con b8 (.op s) e h nx K=af r):kW P o s.still e h nx K r:=by
 cases s with
 |mv x=>exact K_mv hinv hi hc hk
 |pick c a b=>exact al4 hinv hi hc hk
 |alloc ty z=>exact agx hinv hi hc hk
 |box ty x=>exact aou hinv hi hc hk
 |build z parts=>exact agw hinv hi hc hk
 |bsl ty sz len z parts=>exact aot hinv hi hc hk
 |load sz ag x=>exact al7 hinv hi hc hk
 |store sz x v=>exact agt hinv hi hc hk
 |nilc x=>exact al5 hinv hi hc hk
 |bin op x y=>exact aov hinv hi hc hk
 |eqs neg ds x y=>exact aoq hinv hi hc hk
 |eqb neg x y=>exact aor hinv hi hc hk
 |isnil neg x=>exact agv hinv hi hc hk
 |not x=>exact aoc hinv hi hc hk
 |conv k x=>exact alc hinv hi hc hk
 |mksl ty sz bytes z l c=>exact al6 hinv hi hc hk
 |slc sz x lo I mx=>exact ao9 hinv hi hc hk
 |fad off x=>exact aon hinv hi hc hk
 |fld off sz ag x=>exact aom hinv hi hc hk
 |iad sz x i=>exact aol hinv hi hc hk
 |idx n sz ag x i=>exact aok hinv hi hc hk
 |iada n sz x i=>exact ala hinv hi hc hk
 |ext x i=>exact aoo hinv hi hc hk
 |len x=>exact aoj hinv hi hc hk
 |lens x=>exact al8 hinv hi hc hk
 |max x y=>exact aoh hinv hi hc hk
 |min x y=>exact aog hinv hi hc hk
 |sidx x i=>exact al3 hinv hi hc hk
 |app ty sz bytes s x=>exact aow hinv hi hc hk
 |copy sz d x=>exact alb hinv hi hc hk
 |clr sz z x=>exact aos hinv hi hc hk
 |mkf f caps=>exact aof hinv hi hc hk
 |mkm=>exact aoe hinv hi hc hk
 |rng x=>exact aoa hinv hi hc hk
 |nxt x=>exact aob hinv hi hc hk
 |lenm x=>exact al9 hinv hi hc hk
 |lku str ok z x k=>exact aoi hinv hi hc hk
 |mup str x k v=>exact aod hinv hi hc hk
 |_=>simp[d_] at hk
end ops
mutual
def AV.ren (g:Nat->Nat):AV->AV
 |.f x=>.f x
 |.ptr id off=>.ptr (g id) off
 |.sl id off n=>.sl (g id) off n
 |.row id sz n=>.row (g id) sz n
 |.mp id=>.mp (g id)
 |.emp=>.emp
 |.anyb=>.anyb
 |.agg l=>.agg (AV.renL g l)
 |.tup l=>.tup (AV.renL g l)
 |.clo q l=>.clo q (AV.renL g l)
def AV.renL (g:Nat->Nat):List AV->List AV
 |[]=>[]
 |x::r=>x.ren g::AV.renL g r
end
theorem oI (g:Nat->Nat):∀ l,AV.renL g l=l.map (AV.ren g)
 |[]=>rfl
 |x::r=>by rw[AV.renL,oI g r];rfl
theorem CM (g:Nat->Nat) (x:AV):(x.ren g).isCell=x.isCell:=by cases x<;>rfl
theorem cM.renTo {φ φ':PM} {g:Nat->Nat} {O:Nat->Prop} {w:World} (hk:∀ i k,φ i=af k->φ' (g i)=af k) {x:AV} {v:Value} (h:cM φ O w x v):cM φ' O w (x.ren g) v:=by
 induction h with
 |f h=>exact .f h
 |ptr h=>exact .ptr (hk _ _ h)
 |sl h hn hc=>exact .sl (hk _ _ h) hn hc
 |row h hn hc hsh=>exact .row (hk _ _ h) hn hc hsh
 |emp=>exact .emp
 |anyb=>exact .anyb
 |mp h=>exact .mp (hk _ _ h)
 |agg hl hcl hr M=>
  simp only[AV.ren,oI];refine .agg (by simpa using hl) (λx I=>?_) λj x v I hv=>?_
  .obtain⟨y,J,rfl⟩:=dv.1 I;rw[CM];exact hcl y J
  .rw[a8] at I;obtain⟨y,J,rfl⟩:=jV.1 I;exact M j y v J hv
 |tup hl hr M=>
  simp only[AV.ren,oI];refine .tup (by simpa using hl) λj x v I hv=>?_
  rw[a8] at I;obtain⟨y,J,rfl⟩:=jV.1 I;exact M j y v J hv
 |clo hl hr M=>
  simp only[AV.ren,oI];refine .clo (by simpa using hl) λj x v I hv=>?_
  rw[a8] at I;obtain⟨y,J,rfl⟩:=jV.1 I;exact M j y v J hv
theorem cM.renFrom {φ φ':PM} {g:Nat->Nat} {O:Nat->Prop} {w:World} {p:Nat->Bool} (hk:∀ i k,p i=ai->φ (g i)=af k->φ' i=af k) {z:AV} {v:Value} (h:cM φ O w z v):∀ x:AV,x.all p=ai->z=x.ren g->cM φ' O w x v:=by
 induction h with
 |f h=>intro x hp e;cases x<;>simp only[AV.ren,reduceCtorEq] at e;cases e;exact .f h
 |ptr h=>intro x hp e;cases x<;>simp only[AV.ren,reduceCtorEq] at e;cases e;exact .ptr (hk _ _ hp h)
 |sl h hn hc=>intro x hp e;cases x<;>simp only[AV.ren,reduceCtorEq] at e;cases e;exact .sl (hk _ _ hp h) hn hc
 |row h hn hc hsh=>intro x hp e;cases x<;>simp only[AV.ren,reduceCtorEq] at e;cases e;exact .row (hk _ _ hp h) hn hc hsh
 |emp=>intro x hp e;cases x<;>simp only[AV.ren,reduceCtorEq] at e;exact .emp
 |anyb=>intro x hp e;cases x<;>simp only[AV.ren,reduceCtorEq] at e;exact .anyb
 |mp h=>intro x hp e;cases x<;>simp only[AV.ren,reduceCtorEq] at e;cases e;exact .mp (hk _ _ hp h)
 |agg hl hcl hr J=>
  intro x hp e;cases x<;>simp only[AV.ren,reduceCtorEq] at e;rename_i l;cases e;rw[oI] at hl hcl hr J;refine .agg (by simpa using hl) (λx I=>?_) λj x v I hv=>?_
  .have:=hcl (x.ren g) (dv.2 ⟨x,I,rfl⟩);rwa [CM] at this
  .exact J j (x.ren g) v (by rw[a8,I];rfl) hv x (mf hp x (ba I)) rfl
 |tup hl hr J=>
  intro x hp e;cases x<;>simp only[AV.ren,reduceCtorEq] at e;rename_i l;cases e;rw[oI] at hl hr J;refine .tup (by simpa using hl) λj x v I hv=>?_
  exact J j (x.ren g) v (by rw[a8,I];rfl) hv x (mf hp x (ba I)) rfl
 |clo hl hr J=>
  intro x hp e;cases x<;>simp only[AV.ren,reduceCtorEq] at e;rename_i l;cases e;rw[oI] at hl hr J;refine .clo (by simpa using hl) λj x v I hv=>?_
  exact J j (x.ren g) v (by rw[a8,I];rfl) hv x (mf hp x (ba I)) rfl
def BC.ren (g:Nat->Nat):BC->BC
 |.fz l=>.fz l
 |.mx l=>.mx (l.map (AV.ren g))
 |.mp es=>.mp (es.map λp=>(p.1,p.2.ren g))
 |.it s p=>.it s p
def xl.ren (g:Nat->Nat) (b:xl):xl:=⟨b.ty,b.c.ren g⟩
theorem jB.renTo {φ φ':PM} {g:Nat->Nat} {O O':Nat->Prop} {w:World} (hk:∀ x v,cM φ O w x v->cM φ' O' w (x.ren g) v) {b:xl} {o:Obj} (h:jB φ O w b o):jB φ' O' w (b.ren g) o:=by
 obtain⟨ty,c⟩:=b;unfold jB at h ⊢;simp only[xl.ren];cases c with
 |fz l=>
  simp only[BC.ren];obtain⟨arr,h1,h2,J⟩:=h;refine ⟨arr,h1,h2,λj x I=>?_⟩;obtain⟨a,v,c,d⟩:=J j x I;simp only[BC.get] at I;obtain⟨q,_,rfl⟩:=jV.1 I;exact⟨a,v,c,hk _ _ d⟩
 |mx l=>
  simp only[BC.ren];obtain⟨arr,h1,h2,J⟩:=h;refine ⟨arr,h1,by simpa[BC.len] using h2,λj x I=>?_⟩;simp only[BC.get,a8] at I;obtain⟨q,hq,rfl⟩:=jV.1 I;obtain⟨a,v,c,d⟩:=J j q hq;exact⟨by rw[CM];exact a,v,c,hk _ _ d⟩
 |mp es=>
  simp only[BC.ren];obtain⟨e,c,h1,h2,J⟩:=h;refine ⟨e,c,h1,by rw[h2,Aj];rfl,λj x I=>?_⟩;rw[a8] at I;obtain⟨q,hq,rfl⟩:=jV.1 I;obtain⟨m,a,b⟩:=J j q hq;exact⟨m,a,hk _ _ b⟩
 |it s p=>exact h
theorem jB.renFrom {φ φ':PM} {g:Nat->Nat} {O O':Nat->Prop} {w:World} {p:Nat->Bool} (hk:∀ x v,x.all p=ai->cM φ O w (x.ren g) v->cM φ' O' w x v) {b:xl} (hb:b.c.all p=ai) {o:Obj} (h:jB φ O w (b.ren g) o):jB φ' O' w b o:=by
 obtain⟨ty,c⟩:=b;unfold jB at h ⊢;simp only[xl.ren] at h;cases c with
 |fz l=>
  simp only[BC.ren] at h;obtain⟨arr,h1,h2,J⟩:=h;refine ⟨arr,h1,h2,λj x I=>?_⟩;obtain⟨a,v,c,d⟩:=J j x I;simp only[BC.get] at I;obtain⟨q,_,rfl⟩:=jV.1 I;exact⟨a,v,c,hk _ _ rfl d⟩
 |mx l=>
  simp only[BC.ren] at h;obtain⟨arr,h1,h2,J⟩:=h;refine ⟨arr,h1,by simpa[BC.len] using h2,λj x I=>?_⟩;simp only[BC.get] at I;obtain⟨a,v,c,d⟩:=J j (x.ren g) (by simp only[BC.get,a8,I];rfl);rw[CM] at a;exact⟨a,v,c,hk _ _ (mf hb x (ba I)) d⟩
 |mp es=>
  simp only[BC.ren] at h;obtain⟨e,c,h1,h2,J⟩:=h;refine ⟨e,c,h1,by rw[h2,Aj];rfl,λj x I=>?_⟩;obtain⟨m,a,b⟩:=J j (x.1,x.2.ren g) (by rw[a8,I];rfl);exact⟨m,a,hk _ _ (mf hb x.2 (dv.2 ⟨x,ba I,rfl⟩)) b⟩
 |it s p=>exact h
mutual
def CP (g:Nat->Nat):TV->TV
 |.row i=>.row (g i)
 |.rtl i j=>.rtl (g i) j
 |.agg l=>.agg (kG g l)
 |.tup l=>.tup (kG g l)
 |.clo q l=>.clo q (kG g l)
 |.f T v=>.f T v
 |.fel T xs j h off=>.fel T xs j h off
 |.pel a b c d=>.pel (g a) b c d
 |.ptr a b=>.ptr (g a) b
 |.csl a b c=>.csl (g a) b c
 |.emp=>.emp
 |.nil=>.nil
 |.mp i=>.mp (g i)
 |.undef=>.undef
 |.np=>.np
 |.anyb=>.anyb
def kG (g:Nat->Nat):List TV->List TV
 |[]=>[]
 |x::r=>CP g x::kG g r
end
theorem An (g:Nat->Nat):∀ l,kG g l=l.map (CP g)
 |[]=>rfl
 |x::r=>by rw[kG,An g r];rfl
def lZ (g:Nat->Nat):iD->iD
 |.cells ty l=>.cells ty (kG g l)
 |.rows ty p T xs=>.rows ty p T xs
 |.dead p sz n=>.dead p sz n
 |.mp K V es=>.mp K V es
theorem Iw (g:Nat->Nat) (b:iD):mO (lZ g b)=mO b:=by cases b<;>rfl
def Ib (g:Nat->Nat) (n:Nat):Nat:=nm (g (ow n))
theorem xR (g:Nat->Nat) (i:Nat):Ib g (nm i)=nm (g i):=by unfold Ib;rw[eo]
mutual
theorem aj8 {g:Nat->Nat} {h1 h2:bk} (hrow:∀ i r,eJ h1 i=af r->eJ h2 (g i)=af r):∀ (v:TV) (y:AV),cj h1 v=af y->cj h2 (CP g v)=af (y.ren (Ib g))
 |.f _ _,y,he=>by simp only[cj,ak] at he;subst he;rfl
 |.fel _ _ _ _ _,y,he=>by simp only[cj,ak] at he;subst he;rfl
 |.pel _ _ _ _,y,he=>by simp only[cj,ak] at he;subst he;simp only[CP,cj,AV.ren,xR]
 |.ptr _ _,y,he=>by simp only[cj,ak] at he;subst he;simp only[CP,cj,AV.ren,xR]
 |.csl _ _ _,y,he=>by simp only[cj,ak] at he;subst he;simp only[CP,cj,AV.ren,xR]
 |.row id,y,he=>by
  simp only[cj] at he;split at he
  .rename_i p sz n hr;simp only[ak] at he;subst he;simp only[CP,cj,hrow id _ hr];unfold fB;split
   .rfl
   .simp only[AV.ren,xR]
  .cases he
 |.rtl id jj,y,he=>by
  simp only[cj] at he;split at he
  .rename_i p sz n hr;simp only[ak] at he;subst he;simp only[CP,cj,hrow id _ hr,AV.ren,xR]
  .cases he
 |.emp,y,he=>by simp only[cj,ak] at he;subst he;rfl
 |.nil,y,he=>by simp only[cj,ak] at he;subst he;rfl
 |.mp _,y,he=>by simp only[cj,ak] at he;subst he;simp only[CP,cj,AV.ren,xR]
 |.agg l,y,he=>by
  simp only[cj] at he;split at he
  .rename_i l' hl;simp only[ak] at he;subst he;simp only[CP,cj,qF hrow l l' hl,AV.ren]
  .cases he
 |.tup l,y,he=>by
  simp only[cj] at he;split at he
  .rename_i l' hl;simp only[ak] at he;subst he;simp only[CP,cj,qF hrow l l' hl,AV.ren]
  .cases he
 |.clo q l,y,he=>by
  simp only[cj] at he;split at he
  .rename_i l' hl;simp only[ak] at he;subst he;simp only[CP,cj,qF hrow l l' hl,AV.ren]
  .cases he
 |.undef,y,he=>by simp only[cj,ak] at he;subst he;rfl
 |.np,y,he=>by simp only[cj,ak] at he;subst he;rfl
 |.anyb,y,he=>by simp only[cj,ak] at he;subst he;rfl
theorem qF {g:Nat->Nat} {h1 h2:bk} (hrow:∀ i r,eJ h1 i=af r->eJ h2 (g i)=af r):∀ (l:List TV) (l':List AV),cL h1 l=af l'->cL h2 (kG g l)=af (AV.renL (Ib g) l')
 |[],l',he=>by simp only[cL,ak] at he;subst he;rfl
 |x::r,l',he=>by
  obtain⟨y,l2,rfl,e1,e2⟩:=cY he;exact pe (aj8 hrow x y e1) (qF hrow r l2 e2)
end
theorem Dt {g:Nat->Nat} {h1 h2:bk} (hrow:∀ i r,eJ h1 i=af r->eJ h2 (g i)=af r) {b:iD} {y:xl} (he:kH h1 b=af y):kH h2 (lZ g b)=af (y.ren (Ib g)):=by
 cases b with
 |rows ty p T xs=>
  simp only[kH] at he;split at he
  .cases he
  .rename_i hc;simp only[ak] at he;subst he;simp only[lZ,kH,aA hc];rfl
 |cells ty l=>
  simp only[kH] at he;split at he
  .rename_i I hl;simp only[ak] at he;subst he;simp only[lZ,kH,qF hrow l I hl,oI];rfl
  .cases he
 |dead p sz n=>cases he
 |mp K V es=>
  simp only[kH,ak] at he;subst he;simp only[lZ,kH,xl.ren,ak,xl.mk.injEq,BD];unfold mpC;split
  .rfl
  .simp only[BC.ren,Aj];rfl
theorem CO (g:Nat->Nat) (a b:List TV):kG g (a++b)=kG g a++kG g b:=by
 rw[An,An,An,cP]
theorem pV (g:Nat->Nat):∀ (n:Nat) (T:Ty) (v:T.den) (l:List TV),cellsOf n T v=af l->kG g l=l
 |0,_,_,_,he=>by simp[cellsOf] at he
 |n+1,.st t,v,l,he=>pV g n t v l he
 |n+1,.pr a b,v,l,he=>by
  simp only[cellsOf] at he;split at he
  .rename_i x y J I;simp only[ak] at he;subst he;rw[CO,pV g n a v.1 x J,pV g n b v.2 y I]
  .cases he
 |n+1,.un,v,l,he=>by simp only[cellsOf,ak] at he;subst he;rfl
 |n+1,.ex,v,l,he=>pV g n M2 (NT v) l he
 |n+1,.sm,v,l,he=>pV g n MA (NS v) l he
 |n+1,.int k,v,l,he=>by simp only[cellsOf,ak] at he;subst he;rfl
 |n+1,.bool,v,l,he=>by simp only[cellsOf,ak] at he;subst he;rfl
 |n+1,.str,v,l,he=>by simp only[cellsOf,ak] at he;subst he;rfl
 |n+1,.sl t,v,l,he=>by simp only[cellsOf,ak] at he;subst he;rfl
abbrev H7:Nat->Nat:=λi=>i
mutual
theorem aa9 (g:Nat->Nat):∀ (p:PV) (x:p.ty.den),p_ g p x=(p_ H7 p x).map (kG g)
 |.d T,x=>by
  simp only[p_];cases h:cellsOf 40 T x with
  |none=>rfl
  |some l=>simp only[b_,pV g 40 T x l h]
 |.ptr i o,x=>rfl
 |.csl i o z,x=>rfl
 |.clo q i o,x=>rfl
 |.row i,x=>rfl
 |.mp i,x=>rfl
 |.nil,x=>rfl
 |.emp,x=>rfl
 |.agg ps,x=>Ao g ps x
theorem Ao (g:Nat->Nat):∀ (ps:List PV) (x:(PV.tyL ps).den),qX g ps x=(qX H7 ps x).map (kG g)
 |[],x=>rfl
 |p::r,x=>by
  simp only[qX];rw[aa9 g p,Ao g r];cases p_ H7 p (OW p.ty (PV.tyL r) x) with
  |none=>rfl
  |some a=>
   cases qX H7 r (Lu p.ty (PV.tyL r) x) with
   |none=>rfl
   |some b=>simp only[b_,CO]
end
def ajl (o:Option (List TV)):Option TV:=match o with|some l=>af (.agg l)|none=>ah
theorem aco (g:Nat->Nat) (o:Option (List TV)):ajl (o.map (kG g))=(ajl o).map (CP g):=by cases o<;>rfl
theorem aa7 (g:Nat->Nat) (p:PV) (x:p.ty.den):tJ g p x=(tJ H7 p x).map (CP g):=by
 cases p with
 |agg ps=>exact (gQ ajl (Ao g ps x)).trans (aco g _)
 |_=>rfl
theorem tY (g:Nat->Nat):∀ (ps:List PV) (x:(PV.tyL ps).den),qe g ps x=(qe H7 ps x).map (kG g)
 |[],x=>rfl
 |p::r,x=>by
  simp only[qe];rw[aa7 g p,tY g r];cases tJ H7 p (OW p.ty (PV.tyL r) x) with
  |none=>rfl
  |some a=>
   cases qe H7 r (Lu p.ty (PV.tyL r) x) with
   |none=>rfl
   |some b=>rfl
def VS (ty:TypeId) (o:Option (List TV)):Option (Option iD):=match o with|some l=>af (af (.cells ty l))|none=>ah
theorem VR (g:Nat->Nat) (ty:TypeId) (o:Option (List TV)):VS ty (o.map (kG g))=(VS ty o).map (lX (lZ g)):=by cases o<;>rfl
theorem aaa (g:Nat->Nat) (b:PB) (x:b.ty.den):CV g b x=(CV H7 b x).map (lX (lZ g)):=by
 cases b with
 |cells ty ps=>exact (gQ (VS ty) (Ao g ps x)).trans (VR g ty _)
 |_=>rfl
theorem wA (g:Nat->Nat):∀ (bs:List PB) (x:(PB.tyL bs).den),oJ g bs x=(oJ H7 bs x).map (List.map (lX (lZ g)))
 |[],x=>rfl
 |b::r,x=>by
  simp only[oJ];rw[aaa g b,wA g r];cases CV H7 b (OW b.ty (PB.tyL r) x) with
  |none=>rfl
  |some a=>
   cases oJ H7 r (Lu b.ty (PB.tyL r) x) with
   |none=>rfl
   |some l=>rfl
theorem CU (g:Nat->Nat):∀ (bs:List PB) (x:(PB.tyL bs).den) (l:List (Option iD)),oJ g bs x=af l->l.length=bs.length
 |[],x,l,h=>by simp only[oJ,ak] at h;subst h;rfl
 |b::r,x,l,h=>by
  simp only[oJ] at h;split at h
  .split at h
   .rename_i q hq;simp only[ak] at h;subst h;simp[CU g r _ q hq]
   .cases h
  .cases h
theorem Jy (h:bk) (i j:Nat):(kill h i).get j=if j=i then (h.get i).map vw else h.get j:=by
 unfold kill;cases hb:h.get i with
 |none=>
  simp only[Option.map_none];split
  .rename_i e;rw[e,hb]
  .rfl
 |some b=>rw[PT.get_set];rfl
theorem vq (g:Nat->Nat):∀ (l:List (Option iD)) (i:Nat) (h:bk) (j:Nat),(∀ k,k<l.length->j≠g (i+k))->(AK g i l h).get j=h.get j
 |[],i,h,j,_=>rfl
 |some c::r,i,h,j,hj=>by
  rw[AK,vq g r (i+1) _ j (λk hk=>by have:=hj (k+1) (by simpa using hk);rwa [show i+1+k=i+(k+1) from by omega]),PT.get_set,aA];exact hj 0 (by simp)
 |none::r,i,h,j,hj=>by
  rw[AK,vq g r (i+1) _ j (λk hk=>by have:=hj (k+1) (by simpa using hk);rwa [show i+1+k=i+(k+1) from by omega]),Jy,aA];exact hj 0 (by simp)
theorem vu (g:Nat->Nat):∀ (l:List (Option iD)) (i:Nat) (h:bk),(∀ a b,a<l.length->b<l.length->g (i+a)=g (i+b)->a=b)->∀ (k:Nat) (c:Option iD),l[k]? =af c->(AK g i l h).get (g (i+k))=(match c with|some b=>af b|none=>(h.get (g (i+k))).map vw)
 |[],i,h,_,k,c,hk=>by simp at hk
 |o::r,i,h,hinj,k,c,hk=>by
  have hinj':∀ a b,a<r.length->b<r.length->g (i+1+a)=g (i+1+b)->a=b:=λa b J hb e=>by
   have:=hinj (a+1) (b+1) (by simpa using J) (by simpa using hb) (by rw[show i+(a+1)=i+1+a from by omega,show i+(b+1)=i+1+b from by omega];exact e);omega
  cases k with
  |zero=>
   simp at hk;subst hk;have hne:∀ k,k<r.length->g (i+0)≠g (i+1+k):=λk hk e=>by
    have:=hinj 0 (k+1) (by simp) (by simpa using hk) (by rw[show i+(k+1)=i+1+k from by omega];exact e);omega
   cases o with
   |some b=>rw[AK,vq g r (i+1) _ _ hne];simp only[du];rw[PT.get_set,aE rfl]
   |none=>rw[AK,vq g r (i+1) _ _ hne];simp only[du];rw[Jy,aE rfl]
  |succ k=>
   have I:r[k]? =af c:=by simpa using hk
   have hkl:k<r.length:=(bg.1 I).1;have hne:g (i+(k+1))≠g i:=λe=>by
    have:=hinj (k+1) 0 (by simpa using hkl) (by simp) (by rw[e];rfl);omega
   rw[show i+(k+1)=i+1+k from by omega] at hne ⊢;cases o with
   |some b=>
    rw[AK,vu g r (i+1) _ hinj' k c I];cases c with
    |some _=>rfl
    |none=>simp only[PT.get_set,aA hne]
   |none=>
    rw[AK,vu g r (i+1) _ hinj' k c I];cases c with
    |some _=>rfl
    |none=>simp only[Jy,aA hne]
def yg (h' h:bk):Prop:=∀ i r,eJ h' i=af r->eJ h i=af r
section get
variable {h h':bk} {H H':HF} {g:Nat->Nat}
theorem lV.agg {l I:List AV} (hl:ip H H' l I) (hc:∀ x∈I,x.isCell=ai):lV H H' (.agg l) (.agg I):=by
 intro φ E w v hrep hr;cases hr with
 |@agg _ vs hlen hcl hrr=>
  refine .agg (by rw[hlen,<-hl.length]) hc λj y u J hu=>?_
  obtain⟨x,M,hle⟩:=hl.get j y J;exact hle φ E w u hrep (hrr j x u M hu)
theorem Qo (hr:yg h' h) {i:Nat} {y M:AV} (J:cj h (.row i)=af y) (I:cj h' (.row i)=af M):M=y:=by
 simp only[cj] at J I;cases h1:eJ h' i with
 |none=>rw[h1] at I;cases I
 |some r=>
  rw[h1] at I;rw[hr i r h1] at J;rw[J] at I;cases I;rfl
mutual
theorem afa (d:vM H H') (hr:yg h' h):∀ (p:PV) (l:List TV) (x:p.ty.den) (m:Nat) (r:List TV) (cs:List TV) (l' cs':List AV),pE g h p l=af (x,m,r)->p_ g p x=af cs->cL h l=af l'->cL h' cs=af cs'->Ep h H H' m->∃ l1 l2,l'=l1++l2/\cL h r=af l2/\ip H H' l1 cs'
 |.d T,l,x,m,r,cs,l',cs',hg,hp,hl,hc,gv=>by
  obtain⟨l1,l2,e1,e2,e3⟩:=su d 40 T l x m r l' hg hl gv;have:=(lQ h' 40 T x cs hp).1;rw[hc] at this;cases this;exact⟨l1,l2,e1,e2,e3⟩
 |.ptr i q,l,x,m,r,cs,l',cs',hg,hp,hl,hc,gv=>by
  simp only[pE] at hg;split at hg
  .rename_i i' o' r';split at hg
   .rename_i hb;simp only[av] at hb;have e1:=aw hb.1;have e2:=aw hb.2;subst e1;subst e2;simp only[ak,aD] at hg;obtain⟨_,_,rfl⟩:=hg;simp only[p_,ak] at hp;subst hp;obtain⟨y,l2,rfl,g1,g2⟩:=cY hl;simp only[cj,ak] at g1;subst g1;simp only[cL,cj,ak] at hc;subst hc;exact⟨[_],l2,rfl,g2,lV.refl d _,trivial⟩
   .cases hg
  .cases hg
 |.csl i q z,l,x,m,r,cs,l',cs',hg,hp,hl,hc,gv=>by
  simp only[pE] at hg;split at hg
  .rename_i i' o' z' r';split at hg
   .rename_i hb;simp only[av] at hb;have e1:=aw hb.1.1;have e2:=aw hb.1.2;have e3:=aw hb.2;subst e1;subst e2;subst e3;simp only[ak,aD] at hg;obtain⟨_,_,rfl⟩:=hg;simp only[p_,ak] at hp;subst hp;obtain⟨y,l2,rfl,g1,g2⟩:=cY hl;simp only[cj,ak] at g1;subst g1;simp only[cL,cj,ak] at hc;subst hc;exact⟨[_],l2,rfl,g2,lV.refl d _,trivial⟩
   .cases hg
  .cases hg
 |.clo q i z,l,x,m,r,cs,l',cs',hg,hp,hl,hc,gv=>by
  simp only[pE] at hg;split at hg
  .rename_i q' i' z' r';split at hg
   .rename_i hb;simp only[av] at hb;have e1:=aw hb.1.1;have e2:=aw hb.1.2;have e3:=aw hb.2;subst e1;subst e2;subst e3;simp only[ak,aD] at hg;obtain⟨_,_,rfl⟩:=hg;simp only[p_,ak] at hp;subst hp;obtain⟨y,l2,rfl,g1,g2⟩:=cY hl;simp only[cj,cL,ak] at g1;subst g1;simp only[cL,cj,ak] at hc;subst hc;exact⟨[_],l2,rfl,g2,lV.refl d _,trivial⟩
   .cases hg
  .cases hg
 |.row i,l,x,m,r,cs,l',cs',hg,hp,hl,hc,gv=>by
  simp only[pE] at hg;split at hg
  .rename_i i' r';split at hg
   .rename_i hb;have e1:=aw hb;subst e1;simp only[ak,aD] at hg;obtain⟨_,_,rfl⟩:=hg;simp only[p_,ak] at hp;subst hp;obtain⟨y,l2,rfl,g1,g2⟩:=cY hl;obtain⟨y',l3,rfl,g3,g4⟩:=cY hc;simp only[cL,ak] at g4;subst g4;rw[Qo hr g1 g3];exact⟨[_],l2,rfl,g2,lV.refl d _,trivial⟩
   .cases hg
  .cases hg
 |.mp i,l,x,m,r,cs,l',cs',hg,hp,hl,hc,gv=>by
  simp only[pE] at hg;split at hg
  .rename_i i' r';split at hg
   .rename_i hb;have e1:=aw hb;subst e1;simp only[ak,aD] at hg;obtain⟨_,_,rfl⟩:=hg;simp only[p_,ak] at hp;subst hp;obtain⟨y,l2,rfl,g1,g2⟩:=cY hl;simp only[cj,ak] at g1;subst g1;simp only[cL,cj,ak] at hc;subst hc;exact⟨[_],l2,rfl,g2,lV.refl d _,trivial⟩
   .cases hg
  .cases hg
 |.nil,l,x,m,r,cs,l',cs',hg,hp,hl,hc,gv=>by
  simp only[pE] at hg;split at hg
  .simp only[ak,aD] at hg;obtain⟨_,_,rfl⟩:=hg;simp only[p_,ak] at hp;subst hp;obtain⟨y,l2,rfl,g1,g2⟩:=cY hl;simp only[cj,ak] at g1;subst g1;simp only[cL,cj,ak] at hc;subst hc;exact⟨[_],l2,rfl,g2,lV.refl d _,trivial⟩
  .cases hg
 |.emp,l,x,m,r,cs,l',cs',hg,hp,hl,hc,gv=>by
  simp only[pE] at hg;split at hg
  .simp only[ak,aD] at hg;obtain⟨_,_,rfl⟩:=hg;simp only[p_,ak] at hp;subst hp;obtain⟨y,l2,rfl,g1,g2⟩:=cY hl;simp only[cj,ak] at g1;subst g1;simp only[cL,cj,ak] at hc;subst hc;exact⟨[_],l2,rfl,g2,Le.nilEmp.toH d,trivial⟩
  .simp only[ak,aD] at hg;obtain⟨_,_,rfl⟩:=hg;simp only[p_,ak] at hp;subst hp;obtain⟨y,l2,rfl,g1,g2⟩:=cY hl;simp only[cj,ak] at g1;subst g1;simp only[cL,cj,ak] at hc;subst hc;exact⟨[_],l2,rfl,g2,lV.refl d _,trivial⟩
  .cases hg
 |.agg ps,l,x,m,r,cs,l',cs',hg,hp,hl,hc,gv=>Dq d hr ps l x m r cs l' cs' hg hp hl hc gv
theorem Dq (d:vM H H') (hr:yg h' h):∀ (ps:List PV) (l:List TV) (x:(PV.tyL ps).den) (m:Nat) (r:List TV) (cs:List TV) (l' cs':List AV),zD g h ps l=af (x,m,r)->qX g ps x=af cs->cL h l=af l'->cL h' cs=af cs'->Ep h H H' m->∃ l1 l2,l'=l1++l2/\cL h r=af l2/\ip H H' l1 cs'
 |[],l,x,m,r,cs,l',cs',hg,hp,hl,hc,gv=>by
  simp only[zD,ak,aD] at hg;obtain⟨_,_,rfl⟩:=hg;simp only[qX,ak] at hp;subst hp;simp only[cL,ak] at hc;subst hc;exact⟨[],l',rfl,hl,trivial⟩
 |p::ps,l,x,m,r,cs,l',cs',hg,hp,hl,hc,gv=>by
  simp only[zD] at hg;split at hg
  .rename_i x1 m1 r1 h1;split at hg
   .rename_i x2 m2 r2 h2;simp only[ak,aD] at hg;obtain⟨rfl,rfl,rfl⟩:=hg;simp only[qX,tR,vm] at hp;split at hp
    .rename_i a ha;split at hp
     .rename_i b hb;simp only[ak] at hp;subst hp;obtain⟨a',b',rfl,ea,eb⟩:=Cc hc;obtain⟨ga,gb⟩:=gv.or;obtain⟨l1,l2,rfl,q1,q2⟩:=afa d hr p l _ _ _ a l' a' h1 ha hl ea ga;obtain⟨l3,l4,rfl,q3,q4⟩:=Dq d hr ps _ _ _ _ b l2 b' h2 hb q1 eb gb;exact⟨l1++l3,l4,by simp,q3,q2.append q4⟩
     .cases hp
    .cases hp
   .cases hg
  .cases hg
end
mutual
theorem X1:∀ (p:PV) (x:p.ty.den) (cs:List TV),p_ g p x=af cs->kD cs=ai
 |.d T,x,cs,hp=>(lQ PT.leaf 40 T x cs hp).2
 |.ptr i q,x,cs,hp=>by simp only[p_,ak] at hp;subst hp;rfl
 |.csl i q z,x,cs,hp=>by simp only[p_,ak] at hp;subst hp;rfl
 |.clo q i z,x,cs,hp=>by simp only[p_,ak] at hp;subst hp;rfl
 |.row i,x,cs,hp=>by simp only[p_,ak] at hp;subst hp;rfl
 |.mp i,x,cs,hp=>by simp only[p_,ak] at hp;subst hp;rfl
 |.nil,x,cs,hp=>by simp only[p_,ak] at hp;subst hp;rfl
 |.emp,x,cs,hp=>by simp only[p_,ak] at hp;subst hp;rfl
 |.agg ps,x,cs,hp=>xy ps x cs hp
theorem xy:∀ (ps:List PV) (x:(PV.tyL ps).den) (cs:List TV),qX g ps x=af cs->kD cs=ai
 |[],x,cs,hp=>by simp only[qX,ak] at hp;subst hp;rfl
 |p::ps,x,cs,hp=>by
  simp only[qX] at hp;split at hp
  .rename_i a ha;split at hp
   .rename_i b hb;simp only[ak] at hp;subst hp;exact S5 (X1 p _ a ha) (xy ps _ b hb)
   .cases hp
  .cases hp
end
theorem af9 (d:vM H H') (hr:yg h' h) {p:PV} {v:TV} {x:p.ty.den} {m:Nat} {u:TV} {y M:AV} (hg:xP g h p v=af (x,m)) (hp:tJ g p x=af u) (J:cj h v=af y) (I:cj h' u=af M) (Z:Ep h H H' m):lV H H' y M:=by
 cases p with
 |d T=>
  simp only[tJ,ak] at hp;subst hp;simp only[cj,ak] at I;subst I;exact (PF d hg J Z).1
 |agg ps=>
  simp only[xP] at hg;split at hg
  .cases hg
  .rename_i hc;split at hg
   .rename_i l hl;split at hg
    .rename_i x1 m1 h1;simp only[ak,aD] at hg;obtain⟨rfl,rfl⟩:=hg;simp only[tJ] at hp;split at hp
     .rename_i cs hcs;simp only[ak] at hp;subst hp;simp only[cj] at I;split at I
      .rename_i cs' hcs';simp only[ak] at I;subst I;obtain⟨e1,e2⟩:=Ks hl J;obtain⟨l1,l2,Y,U,q3⟩:=Dq d hr ps l _ _ [] cs y.cs cs' h1 hcs e1 hcs' Z;simp only[cL,ak] at U;subst U;rw[ia] at Y;subst Y;have hcell:∀ x∈cs',x.isCell=ai:=lU (sj hcs' (xy ps _ cs hcs));cases v with
       |agg q=>
        simp only[cj] at J;split at J
        .simp only[ak] at J;subst J;exact lV.agg q3 hcell
        .cases J
       |f S z=>
        simp only[cj,ak] at J;subst J;have ho:S.one=aj:=by simpa[TV.isC] using hc
        rw[Az] at q3;rw[qG S z ho];intro φ E w v hrep hrel;exact lV.agg q3 hcell φ E w v hrep (Le.aggF _ _ _ _ hrel)
       |tup q=>simp[TV.cs,TV.isC] at hl
       |undef=>simp[TV.cs,TV.isC] at hl
       |np=>simp[TV.isC] at hc
       |anyb=>simp[TV.cs,TV.isC] at hl
       |fel T xs j hj off=>simp[TV.isC] at hc
       |pel id sz j off=>simp[TV.isC] at hc
       |ptr id off=>simp[TV.isC] at hc
       |csl id off z=>simp[TV.isC] at hc
       |row id=>simp[TV.isC] at hc
       |emp=>simp[TV.isC] at hc
       |nil=>simp[TV.isC] at hc
       |mp id=>simp[TV.isC] at hc
       |rtl id jj=>cases hl
       |clo g l=>simp[TV.isC] at hc
      .cases I
     .cases hp
    .cases hg
   .cases hg
 |ptr i q=>
  simp only[tJ,ak] at hp;subst hp;simp only[xP] at hg;split at hg
  .rename_i h1;simp only[pE] at h1;split at h1
   .rename_i e;simp only[i_] at e;obtain⟨rfl,_⟩:=e;split at h1
    .rename_i hb;simp only[av] at hb;have e1:=aw hb.1;have e2:=aw hb.2;subst e1;subst e2;simp only[cj,ak] at J I;subst J;subst I;exact lV.refl d _
    .cases h1
   .cases h1
  .cases hg
 |csl i q z=>
  simp only[tJ,ak] at hp;subst hp;simp only[xP] at hg;split at hg
  .rename_i h1;simp only[pE] at h1;split at h1
   .rename_i e;simp only[i_] at e;obtain⟨rfl,_⟩:=e;split at h1
    .rename_i hb;simp only[av] at hb;have e1:=aw hb.1.1;have e2:=aw hb.1.2;have e3:=aw hb.2;subst e1;subst e2;subst e3;simp only[cj,ak] at J I;subst J;subst I;exact lV.refl d _
    .cases h1
   .cases h1
  .cases hg
 |clo q i z=>
  simp only[tJ,ak] at hp;subst hp;simp only[xP] at hg;split at hg
  .rename_i h1;simp only[pE] at h1;split at h1
   .rename_i e;simp only[i_] at e;obtain⟨rfl,_⟩:=e;split at h1
    .rename_i hb;simp only[av] at hb;have e1:=aw hb.1.1;have e2:=aw hb.1.2;have e3:=aw hb.2;subst e1;subst e2;subst e3;simp only[cj,cL,ak] at J I;subst J;subst I;exact lV.refl d _
    .cases h1
   .cases h1
  .cases hg
 |row i=>
  simp only[tJ,ak] at hp;subst hp;simp only[xP] at hg;split at hg
  .rename_i h1;simp only[pE] at h1;split at h1
   .rename_i e;simp only[i_] at e;obtain⟨rfl,_⟩:=e;split at h1
    .rename_i hb;have e1:=aw hb;subst e1;rw[Qo hr J I];exact lV.refl d _
    .cases h1
   .cases h1
  .cases hg
 |mp i=>
  simp only[tJ,ak] at hp;subst hp;simp only[xP] at hg;split at hg
  .rename_i h1;simp only[pE] at h1;split at h1
   .rename_i e;simp only[i_] at e;obtain⟨rfl,_⟩:=e;split at h1
    .rename_i hb;have e1:=aw hb;subst e1;simp only[cj,ak] at J I;subst J;subst I;exact lV.refl d _
    .cases h1
   .cases h1
  .cases hg
 |nil=>
  simp only[tJ,ak] at hp;subst hp;simp only[xP] at hg;split at hg
  .rename_i h1;simp only[pE] at h1;split at h1
   .rename_i e;simp only[i_] at e;obtain⟨rfl,_⟩:=e;simp only[cj,ak] at J I;subst J;subst I;exact lV.refl d _
   .cases h1
  .cases hg
 |emp=>
  simp only[tJ,ak] at hp;subst hp;simp only[xP] at hg;split at hg
  .rename_i h1;simp only[pE] at h1;split at h1
   .rename_i e;simp only[i_] at e;obtain⟨rfl,_⟩:=e;simp only[cj,ak] at J I;subst J;subst I;exact Le.nilEmp.toH d
   .rename_i e;simp only[i_] at e;obtain⟨rfl,_⟩:=e;simp only[cj,ak] at J I;subst J;subst I;exact lV.refl d _
   .cases h1
  .cases hg
theorem Do (d:vM H H') (hr:yg h' h):∀ (ps:List PV) (vs:List TV) (x:(PV.tyL ps).den) (m:Nat) (us:List TV) (l J:List AV),yr g h ps vs=af (x,m)->qe g ps x=af us->cL h vs=af l->cL h' us=af J->Ep h H H' m->ip H H' l J
 |[],[],x,m,us,l,J,hg,hp,hl,I,M=>by
  simp only[qe,ak] at hp;subst hp;simp only[cL,ak] at hl I;subst hl;subst I;trivial
 |[],_::_,x,m,us,l,J,hg,_,_,_,_=>by simp[yr] at hg
 |_::_,[],x,m,us,l,J,hg,_,_,_,_=>by simp[yr] at hg
 |p::ps,v::vs,x,m,us,l,J,hg,hp,hl,I,M=>by
  simp only[yr] at hg;split at hg
  .rename_i x1 m1 h1;split at hg
   .rename_i x2 m2 h2;simp only[ak,aD] at hg;obtain⟨rfl,rfl⟩:=hg;simp only[qe,tR,vm] at hp;split at hp
    .rename_i a Y;split at hp
     .rename_i b hb;simp only[ak] at hp;subst hp;obtain⟨y,l2,rfl,e1,e2⟩:=cY hl;obtain⟨y',U,rfl,e3,e4⟩:=cY I;obtain⟨ga,Z⟩:=M.or;exact⟨af9 d hr h1 Y e1 e3 ga,Do d hr ps vs _ _ b l2 U h2 hb e2 e4 Z⟩
     .cases hp
    .cases hp
   .cases hg
  .cases hg
inductive BM (g:Nat->Nat) (h:bk) (m:Nat):iD->iD->Prop
 |rows (ty:TypeId) (p:Bool) (T:Ty) (xs:List T.den):BM g h m (.rows ty p T xs) (.rows ty p T xs)
 |mp (K V:Ty) (es:List (K.den×V.den)):BM g h m (.mp K V es) (.mp K V es)
 |cells (ty:TypeId) (ps:List PV) (x:(PV.tyL ps).den) (l l2:List TV) (m':Nat) (hg:zD g h ps l=af (x,m',[])) (hp:qX g ps x=af l2) (hm:∀ i,aN m' i=ai->aN m i=ai):BM g h m (.cells ty l) (.cells ty l2)
theorem BM.mono {m m2:Nat} (hm:∀ i,aN m i=ai->aN m2 i=ai) {b c:iD} (h1:BM g h m b c):BM g h m2 b c:=by
 cases h1 with
 |rows ty p T xs=>exact .rows ty p T xs
 |mp K V es=>exact .mp K V es
 |cells ty ps x l l2 m' hg hp I=>exact .cells ty ps x l l2 m' hg hp λi hi=>hm i (I i hi)
theorem afb {i:Nat} {b:PB} {x:b.ty.den} {m:Nat} {c:iD} (hg:Fd g h i b=af (x,m)) (hp:CV g b x=af (af c)):∃ b0,h.get (g i)=af b0/\BM g h m b0 c:=by
 cases b with
 |rows ty p T=>
  simp only[Fd] at hg;split at hg
  .rename_i ty' M S xs hb;split at hg
   .rename_i hc;simp only[av,cU] at hc;obtain⟨rfl,rfl⟩:=hc;split at hg
    .rename_i z I;simp only[ak,aD] at hg;obtain⟨rfl,rfl⟩:=hg;obtain⟨e,rfl⟩:=jr I;cases e;simp only[CV,ak] at hp;subst hp;exact⟨_,hb,.rows _ _ _ _⟩
    .cases hg
   .cases hg
  .cases hg
 |rowsP ty T=>
  simp only[Fd] at hg;split at hg
  .rename_i ty' M S xs hb;split at hg
   .rename_i hc;have hc:ty=ty':=by simpa using hc
    subst hc;split at hg
    .rename_i z I;simp only[ak,aD] at hg;obtain⟨rfl,rfl⟩:=hg;obtain⟨e,rfl⟩:=jr I;cases e;simp only[CV,ak] at hp;subst hp;exact⟨_,hb,.rows _ _ _ _⟩
    .cases hg
   .cases hg
  .cases hg
 |cells ty ps=>
  simp only[Fd] at hg;split at hg
  .rename_i ty' l hb;split at hg
   .rename_i hc;have hc:ty=ty':=by simpa using hc
    subst hc;split at hg
    .rename_i z m1 I;simp only[ak,aD] at hg;obtain⟨rfl,rfl⟩:=hg;simp only[CV] at hp;split at hp
     .rename_i l2 J;simp only[ak] at hp;subst hp;exact⟨_,hb,.cells ty ps _ l l2 _ I J λ_ h=>h⟩
     .cases hp
    .cases hg
   .cases hg
  .cases hg
 |mp K V=>
  simp only[Fd] at hg;split at hg
  .rename_i K' V' es hb;split at hg
   .rename_i z I;simp only[ak,aD] at hg;obtain⟨rfl,rfl⟩:=hg;obtain⟨e,rfl⟩:=jr I;cases e;simp only[CV,ak] at hp;subst hp;exact⟨_,hb,.mp _ _ _⟩
   .cases hg
  .cases hg
 |gone=>simp[CV] at hp
theorem Jz:∀ (bs:List PB) (i:Nat) (x:(PB.tyL bs).den) (m:Nat) (I:List (Option iD)),Bc g h i bs=af (x,m)->oJ g bs x=af I->∀ (k:Nat) c,I[k]? =af (af c)->∃ b0,h.get (g (i+k))=af b0/\BM g h m b0 c
 |[],i,x,m,I,hg,hp,k,c,hk=>by
  simp only[oJ,ak] at hp;subst hp;simp at hk
 |b::r,i,x,m,I,hg,hp,k,c,hk=>by
  simp only[Bc] at hg;split at hg
  .rename_i U m1 h1;split at hg
   .rename_i M m2 h2;simp only[ak,aD] at hg;obtain⟨rfl,rfl⟩:=hg;simp only[oJ,tR,vm] at hp;split at hp
    .rename_i a J;split at hp
     .rename_i q hq;simp only[ak] at hp;subst hp;cases k with
      |zero=>
       simp at hk;subst hk;obtain⟨b0,e1,e2⟩:=afb h1 J;exact⟨b0,e1,e2.mono λi hi=>by rw[bu,hi];rfl⟩
      |succ k=>
       obtain⟨b0,e1,e2⟩:=Jz r (i+1) _ _ q h2 hq k c (by simpa using hk);rw[show i+1+k=i+(k+1) from by omega] at e1;exact⟨b0,e1,e2.mono λi hi=>by rw[bu,hi];simp⟩
     .cases hp
    .cases hp
   .cases hg
  .cases hg
end get
theorem Ro {σ:PT Nat} {i a:Nat} (h:σ.get i=af a):im σ i=a:=by unfold im;rw[h]
theorem Wo {σ:PT Nat}:∀ (n i acc sm:Nat),Z7 σ n i acc=af sm->
 (∀ k,k<n->aN acc (im σ (i+k))=aj)/\(∀ a b,a<n->b<n->im σ (i+a)=im σ (i+b)->a=b)/\∀ q,aN sm q=ai↔aN acc q=ai\/∃ k,k<n/\im σ (i+k)=q
 |0,i,acc,sm,h=>by
  simp only[Z7,ak] at h;subst h;exact⟨λk hk=>by omega,λa b J=>by omega,λq=>⟨.inl,λhq=>hq.elim id λ⟨k,hk,_⟩=>by omega⟩⟩
 |n+1,i,acc,sm,h=>by
  simp only[Z7] at h;split at h
  .rename_i a J;split at h
   .cases h
   .rename_i hna;have hna:aN acc a=aj:=by simpa using hna
    have hga:=Ro J;obtain⟨h1,h2,M⟩:=Wo n (i+1) (acc|||kV a) sm h;have hne:∀ k,k<n->im σ (i+1+k)≠a/\aN acc (im σ (i+1+k))=aj:=λk hk=>by
     have:=h1 k hk;rw[bu,Bool.or_eq_false_iff] at this;refine ⟨λe=>?_,this.1⟩;have I:=this.2;rw[e] at I;rw[bZ.2 rfl] at I;cases I
    refine ⟨λk hk=>?_,λx y Y U hxy=>?_,λq=>?_⟩
    .cases k with
     |zero=>rw[du,hga];exact hna
     |succ k=>rw[show i+(k+1)=i+1+k from by omega];exact (hne k (by omega)).2
    .cases x with
     |zero=>
      cases y with
      |zero=>rfl
      |succ y=>
       rw[du,hga,show i+(y+1)=i+1+y from by omega] at hxy;exact cV hxy.symm (hne y (by omega)).1
     |succ x=>
      cases y with
      |zero=>
       rw[show i+0=i from rfl,hga,show i+(x+1)=i+1+x from by omega] at hxy;exact cV hxy (hne x (by omega)).1
      |succ y=>
       rw[show i+(x+1)=i+1+x from by omega,show i+(y+1)=i+1+y from by omega] at hxy;have:=h2 x y (by omega) (by omega) hxy;omega
    .rw[M,bu,ja];constructor
     .rintro ((hq|hq)|⟨k,hk,hq⟩)
      .exact .inl hq
      .exact .inr ⟨0,by omega,by rw[du,hga];exact bZ.1 hq⟩
      .exact .inr ⟨k+1,by omega,by rw[show i+(k+1)=i+1+k from by omega];exact hq⟩
     .rintro (hq|⟨k,hk,hq⟩)
      .exact .inl (.inl hq)
      .cases k with
       |zero=>rw[du,hga] at hq;exact .inl (.inr (bZ.2 hq))
       |succ k=>exact .inr ⟨k,by omega,by rw[show i+1+k=i+(k+1) from by omega];exact hq⟩
  .cases h
theorem Rv {σ:PT Nat}:∀ (n:Nat),W_ σ n=ai->∀ i,i<n->im σ i=i
 |0,_,i,hi=>by omega
 |n+1,h,i,hi=>by
  simp only[W_,av] at h;by_cases e:i=n
  .subst e;cases I:σ.get i with
   |none=>rw[I] at h;exact cV h.1 (by simp)
   |some a=>rw[I] at h;rw[Ro I];exact aw h.1
  .exact Rv n h.2 i (by omega)
structure Ij (np:Nat) (t:Tm) (vs:List TV) (h:bk) (z:t.ty.den) (m:Nat) (σ:PT Nat) (sm:Nat):Prop where
 ex:∃ x m1 y m2,z=Uq _ _ x y/\m=m1|||m2/\yr (im σ) h t.vs vs=af (x,m1)/\Bc (im σ) h 0 t.bs=af (y,m2)
 inj:∀ a b,a<t.bs.length->b<t.bs.length->im σ a=im σ b->a=b
 sig:∀ q,aN sm q=ai↔∃ k,k<t.bs.length/\im σ k=q
 disj:∀ i,aN m i=ai->aN sm i=aj
 fix:∀ i,i<np->im σ i=i
theorem wI {np:Nat} {t:Tm} {vs:List TV} {h:bk} {z:t.ty.den} {m:Nat} {σ:PT Nat} {sm:Nat} (hm:EM np t vs h=af ⟨z,m,σ,sm⟩):Ij np t vs h z m σ sm:=by
 unfold EM at hm;rw[OX] at hm;split at hm
 .rename_i sm' hs;split at hm
  .rename_i x m1 h1;split at hm
   .rename_i y m2 h2;split at hm
    .rename_i hc;simp only[av] at hc;simp only[ak,ai8.mk.injEq] at hm;obtain⟨rfl,rfl,rfl,rfl⟩:=hm;obtain⟨M,J,I⟩:=Wo _ _ _ _ hs;simp only[bO] at M J I;exact⟨⟨x,m1,y,m2,rfl,rfl,h1,h2⟩,J,λq=>by rw[I];simp,λi hi=>ya hc.1 i hi,Rv np hc.2⟩
    .cases hm
   .cases hm
  .cases hm
 .cases hm
mutual
theorem zE {g:Nat->Nat} {h:bk}:∀ (p:PV) (l:List TV) (x:p.ty.den) (m:Nat) (r:List TV),pE g h p l=af (x,m,r)->dX h m
 |.d T,l,x,m,r,hg=>vn 40 T l x m r hg
 |.ptr i q,l,x,m,r,hg=>by
  simp only[pE] at hg;split at hg
  .split at hg
   .simp only[ak,aD] at hg;obtain⟨_,rfl,_⟩:=hg;exact dX.zero h
   .cases hg
  .cases hg
 |.csl i q z,l,x,m,r,hg=>by
  simp only[pE] at hg;split at hg
  .split at hg
   .simp only[ak,aD] at hg;obtain⟨_,rfl,_⟩:=hg;exact dX.zero h
   .cases hg
  .cases hg
 |.clo q i z,l,x,m,r,hg=>by
  simp only[pE] at hg;split at hg
  .split at hg
   .simp only[ak,aD] at hg;obtain⟨_,rfl,_⟩:=hg;exact dX.zero h
   .cases hg
  .cases hg
 |.row i,l,x,m,r,hg=>by
  simp only[pE] at hg;split at hg
  .split at hg
   .simp only[ak,aD] at hg;obtain⟨_,rfl,_⟩:=hg;exact dX.zero h
   .cases hg
  .cases hg
 |.mp i,l,x,m,r,hg=>by
  simp only[pE] at hg;split at hg
  .split at hg
   .simp only[ak,aD] at hg;obtain⟨_,rfl,_⟩:=hg;exact dX.zero h
   .cases hg
  .cases hg
 |.nil,l,x,m,r,hg=>by
  simp only[pE] at hg;split at hg
  .simp only[ak,aD] at hg;obtain⟨_,rfl,_⟩:=hg;exact dX.zero h
  .cases hg
 |.emp,l,x,m,r,hg=>by
  simp only[pE] at hg;split at hg
  .simp only[ak,aD] at hg;obtain⟨_,rfl,_⟩:=hg;exact dX.zero h
  .simp only[ak,aD] at hg;obtain⟨_,rfl,_⟩:=hg;exact dX.zero h
  .cases hg
 |.agg ps,l,x,m,r,hg=>H_ ps l x m r hg
theorem H_ {g:Nat->Nat} {h:bk}:∀ (ps:List PV) (l:List TV) (x:(PV.tyL ps).den) (m:Nat) (r:List TV),zD g h ps l=af (x,m,r)->dX h m
 |[],l,x,m,r,hg=>by
  simp only[zD,ak,aD] at hg;obtain⟨_,rfl,_⟩:=hg;exact dX.zero h
 |p::ps,l,x,m,r,hg=>by
  simp only[zD] at hg;split at hg
  .rename_i x1 m1 r1 h1;split at hg
   .rename_i x2 m2 r2 h2;simp only[ak,aD] at hg;obtain⟨_,rfl,_⟩:=hg;exact (zE p l x1 m1 r1 h1).or (H_ ps r1 _ _ _ h2)
   .cases hg
  .cases hg
end
theorem aj5 {g:Nat->Nat} {h:bk} {p:PV} {v:TV} {x:p.ty.den} {m:Nat} (hg:xP g h p v=af (x,m)):dX h m:=by
 cases p with
 |d T=>exact Xz hg
 |agg ps=>
  simp only[xP] at hg;split at hg
  .cases hg
  .split at hg
   .split at hg
    .rename_i I m1 h1;simp only[ak,aD] at hg;obtain⟨_,rfl⟩:=hg;exact H_ ps _ _ _ _ h1
    .cases hg
   .cases hg
 |ptr i q=>
  simp only[xP] at hg;split at hg
  .rename_i h1;simp only[ak,aD] at hg;obtain⟨_,rfl⟩:=hg;exact zE _ _ _ _ _ h1
  .cases hg
 |csl i q z=>
  simp only[xP] at hg;split at hg
  .rename_i h1;simp only[ak,aD] at hg;obtain⟨_,rfl⟩:=hg;exact zE _ _ _ _ _ h1
  .cases hg
 |clo q i z=>
  simp only[xP] at hg;split at hg
  .rename_i h1;simp only[ak,aD] at hg;obtain⟨_,rfl⟩:=hg;exact zE _ _ _ _ _ h1
  .cases hg
 |row i=>
  simp only[xP] at hg;split at hg
  .rename_i h1;simp only[ak,aD] at hg;obtain⟨_,rfl⟩:=hg;exact zE _ _ _ _ _ h1
  .cases hg
 |mp i=>
  simp only[xP] at hg;split at hg
  .rename_i h1;simp only[ak,aD] at hg;obtain⟨_,rfl⟩:=hg;exact zE _ _ _ _ _ h1
  .cases hg
 |nil=>
  simp only[xP] at hg;split at hg
  .rename_i h1;simp only[ak,aD] at hg;obtain⟨_,rfl⟩:=hg;exact zE _ _ _ _ _ h1
  .cases hg
 |emp=>
  simp only[xP] at hg;split at hg
  .rename_i h1;simp only[ak,aD] at hg;obtain⟨_,rfl⟩:=hg;exact zE _ _ _ _ _ h1
  .cases hg
theorem H9 {g:Nat->Nat} {h:bk}:∀ (ps:List PV) (vs:List TV) (x:(PV.tyL ps).den) (m:Nat),yr g h ps vs=af (x,m)->dX h m
 |[],[],x,m,hg=>by simp only[yr,ak,aD] at hg;obtain⟨_,rfl⟩:=hg;exact dX.zero h
 |[],_::_,x,m,hg=>by simp[yr] at hg
 |_::_,[],x,m,hg=>by simp[yr] at hg
 |p::ps,v::vs,x,m,hg=>by
  simp only[yr] at hg;split at hg
  .rename_i J m1 h1;split at hg
   .rename_i I m2 h2;simp only[ak,aD] at hg;obtain⟨_,rfl⟩:=hg;exact (aj5 h1).or (H9 ps vs I m2 h2)
   .cases hg
  .cases hg
theorem aj6 {g:Nat->Nat} {h:bk} {i:Nat} {b:PB} {x:b.ty.den} {m:Nat} (hg:Fd g h i b=af (x,m)):dX h m:=by
 cases b with
 |rows ty p T=>
  simp only[Fd] at hg;split at hg
  .split at hg
   .split at hg
    .simp only[ak,aD] at hg;obtain⟨_,rfl⟩:=hg;exact dX.zero h
    .cases hg
   .cases hg
  .cases hg
 |rowsP ty T=>
  simp only[Fd] at hg;split at hg
  .split at hg
   .split at hg
    .simp only[ak,aD] at hg;obtain⟨_,rfl⟩:=hg;exact dX.zero h
    .cases hg
   .cases hg
  .cases hg
 |cells ty ps=>
  simp only[Fd] at hg;split at hg
  .split at hg
   .split at hg
    .rename_i h1;simp only[ak,aD] at hg;obtain⟨_,rfl⟩:=hg;exact H_ ps _ _ _ _ h1
    .cases hg
   .cases hg
  .cases hg
 |mp K V=>
  simp only[Fd] at hg;split at hg
  .split at hg
   .simp only[ak,aD] at hg;obtain⟨_,rfl⟩:=hg;exact dX.zero h
   .cases hg
  .cases hg
 |gone=>simp only[Fd,ak,aD] at hg;obtain⟨_,rfl⟩:=hg;exact dX.zero h
theorem Ia {g:Nat->Nat} {h:bk}:∀ (bs:List PB) (i:Nat) (x:(PB.tyL bs).den) (m:Nat),Bc g h i bs=af (x,m)->dX h m
 |[],i,x,m,hg=>by simp only[Bc,ak,aD] at hg;obtain⟨_,rfl⟩:=hg;exact dX.zero h
 |b::r,i,x,m,hg=>by
  simp only[Bc] at hg;split at hg
  .rename_i J m1 h1;split at hg
   .rename_i I m2 h2;simp only[ak,aD] at hg;obtain⟨_,rfl⟩:=hg;exact (aj6 h1).or (Ia r (i+1) I m2 h2)
   .cases hg
  .cases hg
structure qO (t:Tm) (x:t.ty.den) (vs:List TV) (h1:bk) (l1:List (Option iD)):Prop where
 pv:qe H7 t.vs (OW _ _ x)=af vs
 pb:oJ H7 t.bs (Lu _ _ x)=af l1
 len:l1.length=t.bs.length
 at_:∀ i b,h1.get i=af b↔l1[i]? =af (af b)
 ok:kX h1 vs=ai
 lt:rG t.bs.length vs=ai
 cells:∀ i ty l,h1.get i=af (.cells ty l)->kX h1 l=ai/\rG t.bs.length l=ai
theorem aav (l:List (Option iD)) (i:Nat) (b:iD):(AK H7 0 l PT.leaf).get i=af b↔l[i]? =af (af b):=by
 by_cases hi:i<l.length
 .obtain⟨c,hc⟩:∃ c,l[i]? =af c:=⟨l[i],aB hi⟩
  have:=vu H7 l 0 PT.leaf (λa b _ _ e=>by simp only[H7] at e;omega) i c hc;rw[show H7 (0+i)=i from by simp only[H7];omega] at this;rw[this,hc];cases c with
  |some b'=>simp
  |none=>simp[PT.get]
 .rw[vq H7 l 0 PT.leaf i (λk hk=>by simp only[H7];omega),bR (by omega)];simp[PT.get]
theorem wO {t:Tm} {x:t.ty.den} {vs:List TV} {h1:bk} (hi:Db t x=af (vs,h1)):∃ l1,qO t x vs h1 l1:=by
 unfold Db at hi;split at hi
 .rename_i us hus;split at hi
  .rename_i h hh;split at hi
   .rename_i hc;simp only[av] at hc;simp only[ak,aD] at hi;obtain⟨rfl,rfl⟩:=hi;unfold MG at hh;split at hh
    .rename_i l1 I;simp only[ak] at hh;refine ⟨l1,hus,I,CU _ _ _ _ I,λi b=>?_,hc.1.1,hc.1.2,λi ty l hil=>?_⟩
     .rw[<- hh];exact aav l1 i b
     .have:=PT.get_all _ h 1 0 i _ hc.2 hil;simpa only[av] using this
    .cases hh
   .cases hi
  .cases hi
 .cases hi
def Wy (nb:Nat) (n:Nat):Bool:=n%2==0&&gk (n/2) nb
theorem BJ {nb i:Nat}:Wy nb (nm i)=ai↔i<nb:=by
 unfold Wy nm;rw[show 2*i%2=0 from by omega,show 2*i/2=i from by omega];simp only[cS,kP];exact⟨λh=>a_ h,λh=>bE h⟩
theorem aab {nb n:Nat} (h:Wy nb n=ai):∃ i,i<nb/\n=nm i:=by
 unfold Wy at h;simp only[av,cU] at h;exact⟨n/2,a_ h.2,by unfold nm;omega⟩
mutual
theorem aiz {nb:Nat} {h:bk}:∀ (v:TV) (y:AV),LD nb v=ai->cj h v=af y->y.all (Wy nb)=ai
 |.f _ _,y,_,he=>by simp only[cj,ak] at he;subst he;rfl
 |.fel _ _ _ _ _,y,_,he=>by simp only[cj,ak] at he;subst he;rfl
 |.pel id _ _ _,y,hl,he=>by simp only[cj,ak] at he;subst he;exact BJ.2 (a_ hl)
 |.ptr id _,y,hl,he=>by simp only[cj,ak] at he;subst he;exact BJ.2 (a_ hl)
 |.csl id _ _,y,hl,he=>by simp only[cj,ak] at he;subst he;exact BJ.2 (a_ hl)
 |.row id,y,hl,he=>by
  simp only[cj] at he;split at he
  .simp only[ak] at he;subst he;unfold fB;split
   .rfl
   .exact BJ.2 (a_ hl)
  .cases he
 |.rtl id jj,y,hl,he=>by
  simp only[cj] at he;split at he
  .simp only[ak] at he;subst he;exact BJ.2 (a_ hl)
  .cases he
 |.emp,y,_,he=>by simp only[cj,ak] at he;subst he;rfl
 |.nil,y,_,he=>by simp only[cj,ak] at he;subst he;rfl
 |.mp id,y,hl,he=>by simp only[cj,ak] at he;subst he;exact BJ.2 (a_ hl)
 |.agg l,y,hl,he=>by
  simp only[cj] at he;split at he
  .rename_i l' hl';simp only[ak] at he;subst he;exact tO l l' hl hl'
  .cases he
 |.tup l,y,hl,he=>by
  simp only[cj] at he;split at he
  .rename_i l' hl';simp only[ak] at he;subst he;exact tO l l' hl hl'
  .cases he
 |.clo q l,y,hl,he=>by
  simp only[cj] at he;split at he
  .rename_i l' hl';simp only[ak] at he;subst he;exact tO l l' hl hl'
  .cases he
 |.undef,y,_,he=>by simp only[cj,ak] at he;subst he;rfl
 |.np,y,_,he=>by simp only[cj,ak] at he;subst he;rfl
 |.anyb,y,_,he=>by simp only[cj,ak] at he;subst he;rfl
theorem tO {nb:Nat} {h:bk}:∀ (l:List TV) (l':List AV),rG nb l=ai->cL h l=af l'->AV.allL (Wy nb) l'=ai
 |[],l',_,he=>by simp only[cL,ak] at he;subst he;rfl
 |x::r,l',hl,he=>by
  obtain⟨y,l2,rfl,e1,e2⟩:=cY he;simp only[rG,av] at hl;simp only[AV.allL,av];exact⟨aiz x y hl.1 e1,tO r l2 hl.2 e2⟩
end
theorem qO.blk_all {t:Tm} {x:t.ty.den} {vs:List TV} {h1:bk} {l1:List (Option iD)} (I:qO t x vs h1 l1) {i:Nat} {b:iD} (hb:h1.get i=af b) {y:xl} (J:kH h1 b=af y):y.c.all (Wy t.bs.length)=ai:=by
 cases b with
 |rows ty p T xs=>
  simp only[kH] at J;split at J
  .cases J
  .simp only[ak] at J;subst J;rfl
 |cells ty l=>
  simp only[kH] at J;split at J
  .rename_i M hl;simp only[ak] at J;subst J;exact tO l M (I.cells i ty l hb).2 hl
  .cases J
 |dead p sz n=>cases J
 |mp K V es=>
  simp only[kH,ak] at J;subst J;show BC.all _ (mpC K V es)=ai;unfold mpC;split
  .rfl
  .simp only[BC.all,Aj];have key:∀ l:List (K.den×V.den),AV.allL (Wy t.bs.length) (l.map ((λx=>x.2)∘λp=>(pU K p.1,AV.f (gO V p.2))))=ai:=λl=>by
    induction l with
    |nil=>rfl
    |cons e r U=>simp only[gq,AV.allL,av];exact⟨rfl,U⟩
   exact key es
theorem qO.lt_len {t:Tm} {x:t.ty.den} {vs:List TV} {h1:bk} {l1:List (Option iD)} (I:qO t x vs h1 l1) {i:Nat} {b:iD} (hb:h1.get i=af b):i<t.bs.length:=by
 rw[<- I.len];exact (bg.1 ((I.at_ i b).1 hb)).1
def φ1 (nb:Nat) (g:Nat->Nat) (φ:PM):PM:=λn=>if Wy nb n then φ (Ib g n) else ah
theorem ZQ {nb:Nat} {g:Nat->Nat} {φ:PM} {i:Nat} (hi:i<nb):φ1 nb g φ (nm i)=φ (nm (g i)):=by
 unfold φ1;rw[aE (BJ.2 hi),xR]
theorem xq {nb:Nat} {g:Nat->Nat} {φ:PM} {n k:Nat} (h:φ1 nb g φ n=af k):∃ i,i<nb/\n=nm i/\φ (nm (g i))=af k:=by
 unfold φ1 at h;split at h
 .rename_i hp;obtain⟨i,hi,rfl⟩:=aab hp;rw[xR] at h;exact⟨i,hi,rfl,h⟩
 .cases h
structure agb (t:Tm) (x:t.ty.den) (vs:List TV) (h1:bk) (g:Nat->Nat) (φ:PM) (E E':Nat->Prop) (Hv:HF) (w:World):Prop where
 rep:re (φ1 t.bs.length g φ) E' (bC h1) w
 val:∀ x v,x.all (Wy t.bs.length)=ai->cM φ (tot E φ Hv) w (x.ren (Ib g)) v->cM (φ1 t.bs.length g φ) (tot E' (φ1 t.bs.length g φ) (bC h1)) w x v
 own_:∀ k,own (φ1 t.bs.length g φ) (bC h1) k->own φ Hv k
 tot_:∀ k,tot E' (φ1 t.bs.length g φ) (bC h1) k->tot E φ Hv k
theorem re.toId {t:Tm} {x:t.ty.den} {vs:List TV} {h1:bk} {l1:List (Option iD)} (I:qO t x vs h1 l1) {g:Nat->Nat} (inj:∀ a b,a<t.bs.length->b<t.bs.length->g a=g b->a=b) {φ:PM} {E E':Nat->Prop} {Hv:HF} {w:World} (r:re φ E Hv w)
 (hat:∀ i b y,h1.get i=af b->kH h1 b=af y->Hv (nm (g i))=af (y.ren (Ib g)))
 (hE:∀ k,E' k->tot E φ Hv k) (hne:∀ i k b,i<t.bs.length->Hv (nm (g i))=af b->φ (nm (g i))=af k->¬E' k) (hel:∀ k,E' k->k<w.heap.size):agb t x vs h1 g φ E E' Hv w:=by
 have own1:∀ k,own (φ1 t.bs.length g φ) (bC h1) k->own φ Hv k:=by
  rintro k ⟨n,y,h2,h3⟩;obtain⟨i,hi,rfl,Y⟩:=xq h3;obtain⟨j,b,e,U,J⟩:=jF h2;have:=kY e;subst this;exact⟨nm (g i),_,hat i b y U J,Y⟩
 have tot1:∀ k,tot E' (φ1 t.bs.length g φ) (bC h1) k->tot E φ Hv k:=λk hk=>hk.elim (hE k) λh=>.inr (own1 k h)
 have val:∀ x v,x.all (Wy t.bs.length)=ai->cM φ (tot E φ Hv) w (x.ren (Ib g)) v->cM (φ1 t.bs.length g φ) (tot E' (φ1 t.bs.length g φ) (bC h1)) w x v:=λx v hx hr=>by
  have h2:cM (φ1 t.bs.length g φ) (tot E φ Hv) w x v:=cM.renFrom (λi k hp hk=>by unfold φ1;rw[aE hp];exact hk) hr x hx rfl;exact h2.ext (λ_ _ h=>h) (Lf.refl _ w) λk _ hk=>tot1 k hk
 refine ⟨⟨λn n' b b' k Z g2 g3 g4=>?_,λn y Z=>?_,hel,λg' cells hg=>(r.gl g' cells hg).ext (Lf.refl _ w) λk _ hk=>tot1 k hk⟩,val,own1,tot1⟩
 .obtain⟨i,hi,rfl,Y⟩:=xq g3;obtain⟨j,hj,rfl,U⟩:=xq g4;obtain⟨i',c,e,J,M⟩:=jF Z;have:=kY e;subst this;obtain⟨j',c',e,h8,h9⟩:=jF g2;have:=kY e;subst this;have:=r.inj _ _ _ _ k (hat i c _ J M) (hat j c' _ h8 h9) Y U;rw[inj i j hi hj (kY this)]
 .obtain⟨i,c,rfl,J,M⟩:=jF Z;have hi:=I.lt_len J;obtain⟨k,p1,p2,ob,p3,p4⟩:=r.at_ _ _ (hat i c y J M);exact⟨k,by rw[ZQ hi];exact p1,hne i k _ hi (hat i c y J M) p1,ob,p3,jB.renFrom val (I.blk_all J M) p4⟩
theorem BM.view {g:Nat->Nat} {h hv:bk} {H H':HF} {m:Nat} (d:vM H H') (Y:Ep h H H' m) (hr:yg hv h) {b0 c:iD} (hb:BM g h m b0 c) {y I:xl} (e0:kH h b0=af y) (e1:kH hv c=af I):kf H H' y I:=by
 cases hb with
 |rows ty p T xs=>
  simp only[kH] at e0 e1;rw[e0] at e1;cases e1;exact kf.refl d y
 |mp K V es=>
  simp only[kH] at e0 e1;rw[e0] at e1;cases e1;exact kf.refl d y
 |cells ty ps x l l2 m' hg hp hm=>
  simp only[kH] at e0 e1;split at e0
  .rename_i U hl;simp only[ak] at e0;subst e0;split at e1
   .rename_i cs' hc;simp only[ak] at e1;subst e1;obtain⟨l1,Z,M,J,q3⟩:=Dq d hr ps l x m' [] l2 U cs' hg hp hl hc λi hi=>Y i (hm i hi)
    simp only[cL,ak] at J;subst J;rw[ia] at M;subst M;exact kf.cells rfl rfl q3 (lU (sj hc (xy ps x l2 hp)))
   .cases e1
  .cases e0
theorem BM.erB_some {g:Nat->Nat} {h hv:bk} {nx m:Nat} (hinv:mi h nx) {i:Nat} {b0 c:iD} (h0:h.get i=af b0) (hb:BM g h m b0 c) {I:xl} (e1:kH hv c=af I):∃ y,kH h b0=af y:=by
 cases hb with
 |rows ty p T xs=>exact⟨I,e1⟩
 |mp K V es=>exact⟨I,e1⟩
 |cells ty ps x l l2 m' hg hp hm=>
  obtain⟨J,hl⟩:=fA h l (hinv.cells i ty l h0);exact⟨_,by simp only[kH,hl];rfl⟩
theorem BM.row {g:Nat->Nat} {h:bk} {m:Nat} {b0 c:iD} (hb:BM g h m b0 c):mO c=mO b0:=by
 cases hb<;>rfl
structure pY (P:Program) (f:FuncId) (c:cr):Prop where
 callable:Ej P f
 calls:∀ x y,c.m x=af y->∀ vs hp l1 rs hq l2 la lr,qO c.pre x vs hp l1->qO c.post y rs hq l2->cL hp vs=af la->cL hq rs=af lr->
  ∀ (φ:PM) (E:Nat->Prop) (w:World) (us:List Value),re φ E (bC hp) w->j_ φ (tot E φ (bC hp)) w la us->(∀ n k,φ n=af k->ow n<c.pre.bs.length)->
  Calls P f us.toArray w λen w'=>∃ v φ',en= .returned v/\Lf (own φ (bC hp)) w w'/\(∀ k,k<w.heap.size->own φ' (bC hq) k->own φ (bC hp) k)/\(∀ i,i<c.pre.bs.length->φ' (nm i)=φ (nm i))/\re φ' E (bC hq) w'/\cM φ' (tot E φ' (bC hq)) w' (Et lr) v
theorem ML {g:Nat->Nat}:∀ (bs:List PB) (x:(PB.tyL bs).den) (l:List (Option iD)),BT bs=ai->oJ g bs x=af l->∀ (i:Nat) (c:Option iD),l[i]? =af c->∃ b,c=af b
 |[],x,l,_,hp,i,c,hc=>by simp only[oJ,ak] at hp;subst hp;simp at hc
 |b::r,x,l,hn,hp,i,c,hc=>by
  simp only[oJ] at hp;split at hp
  .rename_i a I;split at hp
   .rename_i q hq;simp only[ak] at hp;subst hp;cases i with
    |zero=>
     simp at hc;subst hc;cases b with
     |gone=>simp[BT] at hn
     |rows ty p T=>simp only[CV,ak] at I;exact⟨_,I.symm⟩
     |rowsP ty T=>simp only[CV,ak] at I;exact⟨_,I.symm⟩
     |cells ty ps=>
      simp only[CV] at I;split at I
      .simp only[ak] at I;exact⟨_,I.symm⟩
      .cases I
     |mp K V=>simp only[CV,ak] at I;exact⟨_,I.symm⟩
    |succ i=>
     refine ML r _ q ?_ hq i c (by simpa using hc);cases b<;>first|exact hn|simp[BT] at hn
   .cases hp
  .cases hp
theorem FY {h h2:bk} {g:Nat->Nat}:∀ n,uf h h2 g n=ai->∀ i,i<n->∀ r,eJ h (g i)=af r->eJ h2 (g i)=af r
 |0,_,i,hi,_,_=>by omega
 |n+1,hs,i,hi,r,hr=>by
  simp only[uf,av] at hs;by_cases e:i=n
  .subst e;obtain⟨p,s,k⟩:=r;have h1:=hs.1;rw[hr] at h1;cases I:eJ h2 (g i) with
   |none=>rw[I] at h1;cases h1
   |some q=>
    obtain⟨J,s',k'⟩:=q;rw[I] at h1;simp only[av,cU] at h1;rw[h1.1.1,aw h1.1.2,aw h1.2]
  .exact FY n hs.2 i (by omega) r hr
theorem j_.le {H H':HF} {φ:PM} {E:Nat->Prop} {w:World} (r:re φ E H w):∀ {l I:List AV} {us:List Value},ip H H' l I->j_ φ (tot E φ H) w l us->j_ φ (tot E φ H') w I us
 |[],[],[],_,_=>trivial
 |[],[],_::_,_,h=>h.elim
 |_::_,_::_,[],_,h=>h.elim
 |[],_::_,_,h,_=>h.elim
 |_::_,[],_,h,_=>h.elim
 |_::_,_::_,_::_,hl,h=>⟨hl.1 _ _ _ _ r h.1,j_.le r hl.2 h.2⟩
theorem j_.toId {φ φ':PM} {O O':Nat->Prop} {w:World} {γ:Nat->Nat} {p:Nat->Bool} (hv:∀ x v,x.all p=ai->cM φ O w (x.ren γ) v->cM φ' O' w x v):∀ {l:List AV} {us:List Value},AV.allL p l=ai->j_ φ O w (AV.renL γ l) us->j_ φ' O' w l us
 |[],[],_,_=>trivial
 |[],_::_,_,h=>h.elim
 |_::_,[],_,h=>h.elim
 |_::_,_::_,hp,h=>by
  simp only[AV.allL,av] at hp;exact⟨hv _ _ hp.1 h.1,j_.toId hv hp.2 h.2⟩
theorem Wu {h:bk}:∀ {rs:List TV} {lr:List AV},cL h rs=af lr->cj h (Qp rs)=af (Et lr)
 |[],lr,he=>by simp only[cL,ak] at he;subst he;rfl
 |[x],lr,he=>by
  obtain⟨y,l2,rfl,e1,e2⟩:=cY he;simp only[cL,ak] at e2;subst e2;exact e1
 |x::y::r,lr,he=>by
  obtain⟨J,l2,rfl,e1,e2⟩:=cY he;obtain⟨I,M,rfl,e3,U⟩:=cY e2;simp only[Qp,cj,he,Et]
theorem ZZ (γ:Nat->Nat):∀ l:List AV,Et (AV.renL γ l)=(Et l).ren γ
 |[]=>rfl
 |[x]=>rfl
 |x::y::r=>rfl
theorem Z0 {p:Nat->Bool}:∀ {l:List AV},AV.allL p l=ai->(Et l).all p=ai
 |[],_=>rfl
 |[x],h=>by simp only[AV.allL,av] at h;exact h.1
 |x::y::r,h=>h
theorem aeq {nx I q:Nat}:aN (((1<<<I)-1)<<<nx) q=ai↔nx<=q/\q<nx+I:=by
 rw[Nat.testBit_shiftLeft,Nat.one_shiftLeft,Nat.testBit_two_pow_sub_one];simp only[av,bt];omega
theorem acd {P:Program} {o:Oper} {e:iU} {h:bk} {nx:Nat} {f:FuncId} {c:cr} {l:List TV} (hinv:mi h nx) (sp:pY P f c) {x:c.pre.ty.den} {m:Nat} {σ:PT Nat} {sm:Nat} (M:Ij 0 c.pre l h x m σ sm) {vs:List TV} {hp:bk} {l1:List (Option iD)} (I:qO c.pre x vs hp l1) (hng:BT c.pre.bs=ai) {y:c.post.ty.den} (hm:c.m x=af y) {rs:List TV} {hq:bk} {l2:List (Option iD)} (J:qO c.post y rs hq l2) (hle:c.pre.bs.length<=c.post.bs.length)
 {g:Nat->Nat} (glo:∀ i,i<c.pre.bs.length->g i=im σ i) (ghi:∀ i,c.pre.bs.length<=i->g i=nx+(i-c.pre.bs.length)) {h2:bk} (hh2:h2=AK g 0 (l2.map (lX (lZ g))) (eK m h)) (hsr:uf h h2 g c.pre.bs.length=ai) {la:List AV} (hla:cL h l=af la)
 (hexec:∀ (φ:PM) (E:Nat->Prop) (h':HF) (w:World) (a:Act),(∀ t,.tmp t∈o.op.operands->∀ y,fV e h t=af y->cM φ (tot E φ h') w y (a.tmps.getD t undef))->re φ E h' w->∃ us:List Value,(execOp a.eval o).run P w= .ok (.enter f us.toArray) w/\j_ φ (tot E φ h') w la us):
 js P o aj e h nx (Qp (kG g rs)) (sm|||m) (sm|||m|||(((1<<<(c.post.bs.length-c.pre.bs.length))-1)<<<nx)) h2 (nx+(c.post.bs.length-c.pre.bs.length)):=by
 obtain⟨x1,m1,x2,m2,hx,hmm,gv,gb⟩:=M.ex;have hmr:dX h m:=by rw[hmm];exact (H9 _ _ _ _ gv).or (Ia _ _ _ _ gb)
 generalize hnp:c.pre.bs.length=np at*
 generalize hnq:c.post.bs.length=nq at*
 have pvg:qe (im σ) c.pre.vs x1=af (kG (im σ) vs):=by
  have Y:=tY (im σ) c.pre.vs x1;have h4:=I.pv;rw[hx,tR] at h4;rw[Y,h4];rfl
 have pbg:oJ (im σ) c.pre.bs x2=af (l1.map (lX (lZ (im σ)))):=by
  have Y:=wA (im σ) c.pre.bs x2;have h4:=I.pb;rw[hx,vm] at h4;rw[Y,h4];rfl
 have hl1:∀ i,i<np->∃ b,l1[i]? =af (af b):=λi hi=>by
  have hi':i<l1.length:=by rw[I.len,hnp];exact hi
  obtain⟨b,hb⟩:=ML c.pre.bs _ l1 hng I.pb i l1[i] (aB hi');exact⟨b,by rw[aB hi',hb]⟩
 have hbm:∀ i b,l1[i]? =af (af b)->∃ b0,h.get (im σ i)=af b0/\BM (im σ) h m b0 (lZ (im σ) b):=λi b hb=>by
  obtain⟨b0,U,Z⟩:=Jz c.pre.bs 0 x2 m2 _ gb pbg i (lZ (im σ) b) (by rw[a8,hb];rfl);rw[bO] at U;exact⟨b0,U,Z.mono λj hj=>by rw[hmm,bu,hj];simp⟩
 have inj1:∀ a b,a<np->b<np->im σ a=im σ b->a=b:=λa b ha hb=>M.inj a b (by rw[hnp];exact ha) (by rw[hnp];exact hb)
 have sig:∀ q,aN sm q=ai↔∃ k,k<np/\im σ k=q:=λq=>by rw[M.sig,hnp]
 have gnx:∀ i,i<np->im σ i<nx:=λi hi=>by
  obtain⟨b,hb⟩:=hl1 i hi;obtain⟨b0,U,_⟩:=hbm i b hb;exact hinv.low _ _ U
 have hmS:∀ i,i<np->aN m (im σ i)=aj:=λi hi=>by
  cases hx:aN m (im σ i) with
  |false=>rfl
  |true=>have:=M.disj _ hx;rw[(sig _).2 ⟨i,hi,rfl⟩] at this;cases this
 have injg:∀ a b,a<nq->b<nq->g a=g b->a=b:=λa b ha hb hab=>by
  by_cases h1:a<np
  .by_cases h2:b<np
   .rw[glo a h1,glo b h2] at hab;exact inj1 a b h1 h2 hab
   .rw[glo a h1,ghi b (by omega)] at hab;have:=gnx a h1;omega
  .by_cases h2:b<np
   .rw[ghi a (by omega),glo b h2] at hab;have:=gnx b h2;omega
   .rw[ghi a (by omega),ghi b (by omega)] at hab;omega
 let hv:bk:=AK (im σ) 0 (l1.map (lX (lZ (im σ)))) (eK m h)
 have hv_at:∀ i b,l1[i]? =af (af b)->hv.get (im σ i)=af (lZ (im σ) b):=λi b hb=>by
  have:=vu (im σ) (l1.map (lX (lZ (im σ)))) 0 (eK m h) (λa b ha hb=>by
   simp only[bP,I.len,hnp] at ha hb;simp only[bO];exact inj1 a b ha hb) i (af (lZ (im σ) b)) (by rw[a8,hb];rfl)
  rw[bO] at this;exact this
 have hv_ne:∀ j,(∀ i,i<np->j≠im σ i)->hv.get j=(eK m h).get j:=λj hj=>
  vq (im σ) _ 0 _ j λk hk=>by
   simp only[bP,I.len,hnp] at hk;rw[bO];exact hj k hk
 have rows_in:yg hv h:=λj r hr=>by
  rw[bV] at hr ⊢;by_cases hj:∃ i,i<np/\j=im σ i
  .obtain⟨i,hi,rfl⟩:=hj;obtain⟨b,hb⟩:=hl1 i hi;obtain⟨b0,U,Z⟩:=hbm i b hb;rw[hv_at i b hb] at hr;rw[U];simp only[aH] at hr ⊢;rw[<- Z.row];exact hr
  .rw[hv_ne j (λi hi e=>hj ⟨i,hi,e⟩),jg] at hr;split at hr
   .rename_i ht;obtain⟨ty,p,T,xs,hb⟩:=hmr j ht;rw[hb] at hr ⊢;exact hr
   .exact hr
 have rows_hp:∀ i r,eJ hp i=af r->eJ hv (im σ i)=af r:=λi r hr=>by
  rw[bV] at hr ⊢;cases hb:hp.get i with
  |none=>rw[hb] at hr;cases hr
  |some b=>
   rw[hb] at hr;rw[hv_at i b ((I.at_ i b).1 hb)];simp only[aH,Iw] at hr ⊢;exact hr
 have dead_m:∀ i,aN m i=ai->bC hv (nm i)=ah:=λi hi=>by
  rw[bM,hv_ne i (λk hk e=>by rw[e,hmS k hk] at hi;cases hi)];obtain⟨p,sz,n,hd⟩:=ub hmr hi;rw[hd];rfl
 have h2_at:∀ i cc,l2[i]? =af cc->h2.get (g i)=(match cc with|some b=>af (lZ g b)|none=>((eK m h).get (g i)).map vw):=λi cc hc=>by
  have:=vu g (l2.map (lX (lZ g))) 0 (eK m h) (λa b ha hb=>by
   simp only[bP,J.len,hnq] at ha hb;simp only[bO];exact injg a b ha hb) i (cc.map (lZ g)) (by rw[a8,hc];rfl)
  rw[bO] at this;rw[hh2,this];cases cc<;>rfl
 have h2_ne:∀ j,(∀ i,i<nq->j≠g i)->h2.get j=(eK m h).get j:=λj hj=>by
  rw[hh2];refine vq g _ 0 _ j λk hk=>?_
  simp only[bP,J.len,hnq] at hk;rw[bO];exact hj k hk
 have rows_hq:∀ i r,eJ hq i=af r->eJ h2 (g i)=af r:=λi r hr=>by
  rw[bV] at hr ⊢;cases hb:hq.get i with
  |none=>rw[hb] at hr;cases hr
  |some b=>
   rw[hb] at hr;rw[h2_at i _ ((J.at_ i b).1 hb)];simp only[aH,Iw] at hr ⊢;exact hr
 have rows2:ci h h2:=λj r hr=>by
  by_cases hj:∃ i,i<np/\j=im σ i
  .obtain⟨i,hi,rfl⟩:=hj;rw[<- glo i hi] at hr ⊢;exact FY np hsr i hi r hr
  .have hjn:j<nx:=by
    rw[bV] at hr;cases hb:h.get j with
    |none=>rw[hb] at hr;cases hr
    |some b=>exact hinv.low j b hb
   have:=ci.kill m h j r hr;rw[bV] at this ⊢;rw[h2_ne j (λi hi e=>?_)]
   .exact this
   .by_cases hip:i<np
    .exact hj ⟨i,hip,by rw[e,glo i hip]⟩
    .rw[ghi i (by omega)] at e;omega
 obtain⟨lr,hlr⟩:=fA hq rs J.ok;obtain⟨lp,hlp⟩:=fA hp vs I.ok;have er2:∀ i b yb,hq.get i=af b->kH hq b=af yb->bC h2 (nm (g i))=af (yb.ren (Ib g)):=λi b yb hb hyb=>by
  rw[bM,h2_at i _ ((J.at_ i b).1 hb)];exact Dt rows_hq hyb
 have er2':∀ i,i<nq->∀ z,bC h2 (nm (g i))=af z->∃ b yb,hq.get i=af b/\kH hq b=af yb/\z=yb.ren (Ib g):=λi hi z hz=>by
  have hi':i<l2.length:=by rw[J.len,hnq];exact hi
  have hcc:=aB hi';cases hcv:l2[i] with
  |none=>
   rw[hcv] at hcc;rw[bM,h2_at i ah hcc] at hz;simp only at hz;cases hkg:(eK m h).get (g i) with
   |none=>rw[hkg] at hz;cases hz
   |some b0=>rw[hkg] at hz;cases b0<;>simp[vw,kH] at hz
  |some b=>
   rw[hcv] at hcc;have hb:=(J.at_ i b).2 hcc;rw[bM,h2_at i (af b) hcc] at hz;have hyb:∃ yb,kH hq b=af yb:=by
    cases b with
    |rows ty p T xs=>simp only[aH,lZ,kH] at hz ⊢;exact⟨z,hz⟩
    |cells ty q=>
     obtain⟨q',hq'⟩:=fA hq q (J.cells i ty q hb).1;exact⟨_,by simp only[kH,hq'];rfl⟩
    |dead p sz n=>simp[lZ,kH] at hz
    |mp K V es=>exact⟨_,rfl⟩
   obtain⟨yb,hyb⟩:=hyb;have:=Dt rows_hq hyb;simp only[aH] at hz;rw[this] at hz;exact⟨b,yb,hb,hyb,by cases hz;rfl⟩
 have dead2:∀ i,aN m i=ai->bC h2 (nm i)=ah:=λi hi=>by
  have hlt:=hmr.lt hinv hi;rw[bM,h2_ne i (λk hk e=>?_)]
  .obtain⟨p,sz,n,hd⟩:=ub hmr hi;rw[hd];rfl
  .by_cases hkp:k<np
   .rw[e,glo k hkp,hmS k hkp] at hi;cases hi
   .rw[ghi k (by omega)] at e;omega
 have inv2:mi h2 (nx+(nq-np)):=by
  refine ⟨λj ty q hj=>?_,λj b hj=>?_⟩
  .by_cases hjg:∃ i,i<nq/\j=g i
   .obtain⟨i,hi,rfl⟩:=hjg;have hi':i<l2.length:=by rw[J.len,hnq];exact hi
    have hcc:=aB hi';cases hcv:l2[i] with
    |none=>
     rw[hcv] at hcc;rw[h2_at i ah hcc] at hj;simp only at hj;cases hkg:(eK m h).get (g i) with
     |none=>rw[hkg] at hj;cases hj
     |some b0=>rw[hkg] at hj;cases b0<;>simp[vw] at hj
    |some b=>
     rw[hcv] at hcc;have hb:=(J.at_ i b).2 hcc;rw[h2_at i (af b) hcc] at hj;simp only[ak] at hj;cases b with
     |cells ty' q'=>
      simp only[lZ,iD.cells.injEq] at hj;obtain⟨_,rfl⟩:=hj;obtain⟨z,hz⟩:=fA hq q' (J.cells i ty' q' hb).1;exact kT _ _ _ (qF rows_hq q' z hz)
     |rows _ _ _ _=>simp[lZ] at hj
     |dead _ _ _=>simp[lZ] at hj
     |mp _ _ _=>simp[lZ] at hj
   .rw[h2_ne j (λi hi e=>hjg ⟨i,hi,e⟩)] at hj;refine jb rows2 q ?_;have hkk:=(hinv.kill m).cells j ty q hj;rw[jg] at hj;split at hj
    .rename_i ht;obtain⟨_,_,_,_,hb⟩:=hmr j ht;rw[hb] at hj;cases hj
    .exact hinv.cells j ty q hj
  .by_cases hjg:∃ i,i<nq/\j=g i
   .obtain⟨i,hi,rfl⟩:=hjg;by_cases hip:i<np
    .rw[glo i hip];have:=gnx i hip;omega
    .rw[ghi i (by omega)];omega
   .rw[h2_ne j (λi hi e=>hjg ⟨i,hi,e⟩)] at hj;have:=(hinv.kill m).low j b hj;omega
 let S:List Nat:=(dl np).map λi=>nm (im σ i)
 have memS:∀ n,n∈S↔∃ i,i<np/\n=nm (im σ i):=λn=>by
  simp only[S,dv,nD];exact⟨λ⟨i,h1,h2⟩=>⟨i,h1,h2.symm⟩,λ⟨i,h1,h2⟩=>⟨i,h1,h2.symm⟩⟩
 let NN:List Nat:=(dl (nq-np)).map λt=>nm (nx+t)
 have memN:∀ n,n∈NN↔∃ t,t<nq-np/\n=nm (nx+t):=λn=>by
  simp only[NN,dv,nD];exact⟨λ⟨i,h1,h2⟩=>⟨i,h1,h2.symm⟩,λ⟨i,h1,h2⟩=>⟨i,h1,h2.symm⟩⟩
 have memW:∀ n,n∈S++F6 m++NN↔(∃ i,i<nq/\n=nm (g i))\/n∈F6 m:=λn=>by
  rw[bQ,bQ,memS,memN];constructor
  .rintro ((⟨i,hi,rfl⟩|hn)|⟨t,ht,rfl⟩)
   .exact .inl ⟨i,by omega,by rw[glo i hi]⟩
   .exact .inr hn
   .exact .inl ⟨np+t,by omega,by rw[ghi _ (by omega),show np+t-np=t from by omega]⟩
  .rintro (⟨i,hi,rfl⟩|hn)
   .by_cases hip:i<np
    .exact .inl (.inl ⟨i,hip,by rw[glo i hip]⟩)
    .exact .inr ⟨i-np,by omega,by rw[ghi i (by omega)]⟩
   .exact .inl (.inr hn)
 have hOpT:gR P o (fV e h) (bC h) ⟨Et (AV.renL (Ib g) lr),S++F6 m,S++F6 m++NN,bC h2,NN⟩:=by
  intro φ E h' w a hrd hwr hops hrep hN;have hS':∀ i,i<np->h' (nm (im σ i))=bC h (nm (im σ i)):=λi hi=>hrd _ (hX _ ((memS _).2 ⟨i,hi,rfl⟩))
  have hM':∀ i,aN m i=ai->h' (nm i)=bC h (nm i):=λi hi=>hrd _ (iL _ (lG.2 hi))
  obtain⟨us,hrun,hrel⟩:=hexec φ E h' w a hops hrep
  let Hv:HF:=λn=>if n∈S++F6 m then bC hv n else h' n
  have Hv_in:∀ n,n∈S++F6 m->Hv n=bC hv n:=λn hn=>by simp only[Hv,hn,bG]
  have Hv_out:∀ n,n∉S++F6 m->Hv n=h' n:=λn hn=>by simp only[Hv,hn,ep]
  have blkS:∀ i,i<np->∀ z,bC hv (nm (im σ i))=af z->∃ b0 b y0,h.get (im σ i)=af b0/\l1[i]? =af (af b)/\BM (im σ) h m b0 (lZ (im σ) b)/\kH h b0=af y0/\kH hv (lZ (im σ) b)=af z:=λi hi z hz=>by
   obtain⟨b,hb⟩:=hl1 i hi;obtain⟨b0,U,Z⟩:=hbm i b hb;rw[bM,hv_at i b hb] at hz;simp only[aH] at hz;obtain⟨y0,hy0⟩:=BM.erB_some hinv U Z hz;exact⟨b0,b,y0,U,hb,Z,hy0,hz⟩
  have hd:vM h' Hv:=λn b hb=>by
   by_cases hn:n∈S++F6 m
   .rw[Hv_in n hn] at hb;rcases bQ.1 hn with hs|hs
    .obtain⟨i,hi,rfl⟩:=(memS n).1 hs;obtain⟨b0,b1,y0,U,Z,q3,q4,q5⟩:=blkS i hi b hb;exact⟨y0,by rw[hS' i hi,bM,U];exact q4⟩
    .obtain⟨i,rfl,hi⟩:=nX.1 hs;rw[dead_m i hi] at hb;cases hb
   .rw[Hv_out n hn] at hb;exact⟨b,hb⟩
  have gvv:Ep h h' Hv m:=λi hi=>⟨hM' i hi,by rw[Hv_in _ (iL _ (lG.2 hi)),dead_m i hi]⟩
  have V:K0 h' Hv:=⟨hd,λn b b' hb hb'=>by
   by_cases hn:n∈S++F6 m
   .rw[Hv_in n hn] at hb';rcases bQ.1 hn with hs|hs
    .obtain⟨i,hi,rfl⟩:=(memS n).1 hs;obtain⟨b0,b1,y0,U,Z,q3,q4,q5⟩:=blkS i hi b' hb';rw[hS' i hi,bM,U] at hb;simp only[aH] at hb;exact BM.view hd gvv rows_in q3 hb q5
    .obtain⟨i,rfl,hi⟩:=nX.1 hs;rw[dead_m i hi] at hb';cases hb'
   .rw[Hv_out n hn,hb] at hb';cases hb';exact kf.refl hd b⟩
  have hrepv:=V.rep hrep;have hlpg:cL hv (kG (im σ) vs)=af (AV.renL (Ib (im σ)) lp):=qF rows_hp vs lp hlp;have hrel1:j_ φ (tot E φ Hv) w (AV.renL (Ib (im σ)) lp) us:=
   j_.le hrep (Do hd rows_in c.pre.vs l x1 m1 _ la _ gv pvg hla hlpg (λi hi=>gvv i (by rw[hmm,bu,hi];rfl))) hrel
  let E':Nat->Prop:=λk=>E k\/∃ n b,Hv n=af b/\n∉S/\φ n=af k
  have T:agb c.pre x vs hp (im σ) φ E E' Hv w:=by
   refine re.toId I (λa b ha hb=>inj1 a b (by rw[<- hnp];exact ha) (by rw[<- hnp];exact hb)) hrepv (λi b yb hb hyb=>?_) ?_ ?_ ?_
   .have hi:=I.lt_len hb;rw[hnp] at hi;rw[Hv_in _ (hX _ ((memS _).2 ⟨i,hi,rfl⟩)),bM,hv_at i b ((I.at_ i b).1 hb)];exact Dt rows_hp hyb
   .rintro k (hE|⟨n,b,h1,_,Y⟩)
    .exact .inl hE
    .exact .inr ⟨n,b,h1,Y⟩
   .rintro i k b hi h1 Y (hE|⟨n,b',h4,h5,h6⟩)
    .obtain⟨k',p1,p2,_⟩:=hrepv.at_ _ _ h1;rw[Y] at p1;cases p1;exact p2 hE
    .have:=hrepv.inj _ _ _ _ k h1 h4 Y h6;exact h5 (by rw[<- this];exact (memS _).2 ⟨i,by rw[<- hnp];exact hi,rfl⟩)
   .rintro k (hE|⟨n,b,h1,_,Y⟩)
    .exact hrepv.el k hE
    .obtain⟨k',U,_,ob,q3,_⟩:=hrepv.at_ n b h1;rw[Y] at U;cases U;exact (cF.1 q3).1
  have hcalls:=sp.calls x y hm vs hp l1 rs hq l2 lp lr I J hlp hlr (φ1 c.pre.bs.length (im σ) φ) E' w us T.rep (j_.toId T.val (tO vs lp I.lt hlp) hrel1) (λn k hk=>by
   obtain⟨i,hi,rfl,_⟩:=xq hk;rw[eo];exact hi)
  unfold HQ;rw[hrun];refine Calls.mono hcalls ?_;rintro en w' ⟨v,φc',rfl,hext,hown,hnm,rp,rv'⟩
  let isN:Nat->Prop:=λn=>n∈NN
  let φ':PM:=λn=>if n∈NN then φc' (nm (np+(ow n-nx))) else φ n
  have φ'_new:∀ t,t<nq-np->φ' (nm (nx+t))=φc' (nm (np+t)):=λt ht=>by
   have:nm (nx+t)∈NN:=(memN _).2 ⟨t,ht,rfl⟩;simp only[φ',this,bG,eo];rw[show nx+t-nx=t from by omega]
  have φ'_old:∀ n,n∉NN->φ' n=φ n:=λn hn=>by simp only[φ',hn,ep]
  have loN:∀ i,i<nx->nm i∉NN:=λi hi hn=>by
   obtain⟨t,_,e⟩:=(memN _).1 hn;have:=kY e;omega
  have φ'_g:∀ i,i<nq->φ' (nm (g i))=φc' (nm i):=λi hi=>by
   by_cases hip:i<np
   .rw[glo i hip,φ'_old _ (loN _ (gnx i hip)),hnm i (by rw[hnp];exact hip),ZQ (by rw[hnp];exact hip)]
   .rw[ghi i (by omega),φ'_new _ (by omega),show np+(i-np)=i from by omega]
  have hsub:∀ n k,φ n=af k->φ' n=af k:=λn k hk=>by
   by_cases hn:n∈NN
   .rw[hN n hn] at hk;cases hk
   .rw[φ'_old n hn];exact hk
  let F:HF:=eX h' (S++F6 m++NN) (bC h2)
  have F_g:∀ i,i<nq->F (nm (g i))=bC h2 (nm (g i)):=λi hi=>by
   simp only[F,eX,(memW _).2 (.inl ⟨i,hi,rfl⟩),bG]
  have F_out:∀ n,n∉S++F6 m++NN->F n=h' n:=λn hn=>by simp only[F,eX,hn,ep]
  have from_:∀ n b,F n=af b->(∃ i bq yb,i<nq/\n=nm (g i)/\hq.get i=af bq/\kH hq bq=af yb/\b=yb.ren (Ib g))\/(h' n=af b/\Hv n=af b/\n∉S/\n∉NN/\φ' n=φ n):=λn b hb=>by
   by_cases hn:n∈S++F6 m++NN
   .rcases (memW n).1 hn with ⟨i,hi,rfl⟩|hs
    .rw[F_g i hi] at hb;obtain⟨bq,yb,U,Z,q3⟩:=er2' i hi b hb;exact .inl ⟨i,bq,yb,hi,rfl,U,Z,q3⟩
    .obtain⟨i,rfl,hi⟩:=nX.1 hs;have:F (nm i)=bC h2 (nm i):=by simp only[F,eX,hn,bG]
     rw[this,dead2 i hi] at hb;cases hb
   .rw[F_out n hn] at hb;have h1:n∉S++F6 m:=λhh=>hn (hX _ hh)
    have Y:n∉NN:=λhh=>hn (iL _ hh)
    exact .inr ⟨hb,by rw[Hv_out n h1];exact hb,λhh=>h1 (hX _ hh),Y,φ'_old n Y⟩
  have own':∀ k,own φ' F k->own φc' (bC hq) k\/∃ n b,Hv n=af b/\n∉S/\φ n=af k:=by
   rintro k ⟨n,b,h1,Y⟩;rcases from_ n b h1 with ⟨i,bq,yb,hi,rfl,U,Z,_⟩|⟨_,Z,q3,_,q5⟩
   .rw[φ'_g i hi] at Y;exact .inl ⟨nm i,yb,by rw[bM,U];exact Z,Y⟩
   .exact .inr ⟨n,b,Z,q3,by rw[<- q5];exact Y⟩
  have mv:jh φ φ' h' F w w':=by
   refine ⟨hsub,hext.mono λk hk=>hd.own (T.own_ k hk),λk hk ho=>?_⟩;rcases own' k ho with h1|⟨n,b,h1,_,Y⟩
   .exact hd.own (T.own_ k (hown k hk h1))
   .exact hd.own ⟨n,b,h1,Y⟩
  have tot':∀ k,tot E φ' F k->tot E' φc' (bC hq) k:=by
   rintro k (h1|h1)
   .exact .inl (.inl h1)
   .rcases own' k h1 with Y|Y
    .exact .inr Y
    .exact .inl (.inr Y)
  let φr:PM:=λn=>if Wy nq n then φc' n else ah
  have rel_r:∀ x v,x.all (Wy nq)=ai->cM φc' (tot E' φc' (bC hq)) w' x v->cM φr (tot E φ' F) w' x v:=λx v hx hr=>
   hr.restrict (λi k hi hk=>by simp only[φr,hi,bG];exact hk) tot' hx
  have rel_g:∀ x v,cM φr (tot E φ' F) w' x v->cM φ' (tot E φ' F) w' (x.ren (Ib g)) v:=λx v hr=>
   hr.renTo λn k hk=>by
    simp only[φr] at hk;split at hk
    .rename_i hpn;obtain⟨i,hi,rfl⟩:=aab hpn;rw[xR,φ'_g i hi];exact hk
    .cases hk
  have hnqJ:=hnq;refine ⟨v,φ',rfl,mv,λn k hk=>?_,?_,?_⟩
  .by_cases hn:n∈NN
   .exact .inr hn
   .rw[φ'_old n hn] at hk;exact .inl hk
  .refine ⟨λn n' b b' k h1 Y h4 h5=>?_,λn b h1=>?_,λk hk=>dE (hrep.el k hk) mv.ext.size,λg' cells hg=>mv.keepF (hrep.gl g' cells hg)⟩
   .rcases from_ n b h1 with ⟨i,bq,yb,hi,rfl,U,Z,_⟩|⟨U,Z,q3,_,q5⟩
    .rw[φ'_g i hi] at h4;have hqi:bC hq (nm i)=af yb:=by rw[bM,U];exact Z
     rcases from_ n' b' Y with ⟨j,bj,yj,hj,rfl,t1,t2,_⟩|⟨t1,t2,t3,_,t5⟩
     .rw[φ'_g j hj] at h5;have:=rp.inj _ _ _ _ k hqi (by rw[bM,t1];exact t2) h4 h5;rw[kY this]
     .exfalso;obtain⟨k',p1,p2,_⟩:=rp.at_ _ _ hqi;rw[h4] at p1;cases p1;exact p2 (.inr ⟨n',b',t2,t3,by rw[<- t5];exact h5⟩)
    .rcases from_ n' b' Y with ⟨j,bj,yj,hj,rfl,t1,t2,_⟩|⟨t1,t2,t3,_,t5⟩
     .exfalso;rw[φ'_g j hj] at h5;have hqj:bC hq (nm j)=af yj:=by rw[bM,t1];exact t2
      obtain⟨k',p1,p2,_⟩:=rp.at_ _ _ hqj;rw[h5] at p1;cases p1;exact p2 (.inr ⟨n,b,Z,q3,by rw[<- q5];exact h4⟩)
     .exact hrep.inj n n' b b' k U t1 (by rw[<- q5];exact h4) (by rw[<- t5];exact h5)
   .rcases from_ n b h1 with ⟨i,bq,yb,hi,rfl,U,Z,rfl⟩|⟨U,Z,q3,_,q5⟩
    .have hqi:bC hq (nm i)=af yb:=by rw[bM,U];exact Z
     obtain⟨k,p1,p2,ob,p3,p4⟩:=rp.at_ _ _ hqi;have hall:=J.blk_all U Z;rw[hnq] at hall;exact⟨k,by rw[φ'_g i hi];exact p1,λhE=>p2 (.inl hE),ob,p3,(p4.restrict rel_r hall).renTo rel_g⟩
    .obtain⟨k,p1,p2,ob,p3,p4⟩:=hrep.at_ n b U;have hk:k<w.heap.size:=(cF.1 p3).1;refine ⟨k,hsub n k p1,p2,ob,?_,p4.mono λx v hr=>mv.keep hr⟩;rw[hext.blk k hk ?_]
     .exact p3
     .rintro⟨n',y',t1,t2⟩;obtain⟨i,hi,rfl,t3⟩:=xq t2;obtain⟨j,bb,e,t4,t5⟩:=jF t1;have:=kY e;subst this;have hi':i<np:=by rw[<- hnp];exact hi
      have hvi:Hv (nm (im σ i))=af (y'.ren (Ib (im σ))):=by
       rw[Hv_in _ (hX _ ((memS _).2 ⟨i,hi',rfl⟩)),bM,hv_at i bb ((I.at_ i bb).1 t4)];exact Dt rows_hp t5
      have:=hrepv.inj _ _ _ _ k hvi Z t3 p1;exact q3 (by rw[<- this];exact (memS _).2 ⟨i,hi',rfl⟩)
  .have hall:(Et lr).all (Wy nq)=ai:=Z0 (by have:=tO rs lr J.lt hlr;rwa [hnq] at this);show cM φ' (tot E φ' F) w' (Et (AV.renL (Ib g) lr)) v;rw[ZZ];exact rel_g _ _ (rel_r _ _ hall rv')
 have hrsg:cL h2 (kG g rs)=af (AV.renL (Ib g) lr):=qF rows_hq rs lr hlr;refine ⟨⟨_,hOpT,λz hz=>?_,?_,λn hn=>?_,λn hn=>?_,λn hn=>?_⟩,rows2,inv2,by omega,λhs=>by cases hs⟩
 .rw[Wu hrsg] at hz;cases hz;rfl
 .funext n;unfold eX;split
  .rfl
  .rename_i hn;refine (kU hinv rows2 λi e=>?_).symm;subst e;rw[h2_ne i (λk hk e=>hn ((memW _).2 (.inl ⟨k,hk,by rw[e]⟩))),jg,aA];intro hb;exact hn ((memW _).2 (.inr (lG.2 hb)))
 .rw[bu];rcases bQ.1 hn with hs|hs
  .obtain⟨i,hi,rfl⟩:=(memS n).1 hs;rw[eo,(sig _).2 ⟨i,hi,rfl⟩];rfl
  .obtain⟨i,rfl,hi⟩:=nX.1 hs;rw[eo,hi];simp
 .rw[bu,bu];rcases bQ.1 hn with hs|hs
  .rcases bQ.1 hs with hs|hs
   .obtain⟨i,hi,rfl⟩:=(memS n).1 hs;rw[eo,(sig _).2 ⟨i,hi,rfl⟩];rfl
   .obtain⟨i,rfl,hi⟩:=nX.1 hs;rw[eo,hi];simp
  .obtain⟨t,ht,rfl⟩:=(memN n).1 hs;rw[eo,aeq.2 ⟨by omega,by omega⟩];simp
 .obtain⟨t,ht,rfl⟩:=(memN n).1 hn;rw[eo];omega
mutual
def FV.fl:FV->Bool
 |.raw _=>ai
 |.agg l=>FV.flL l
 |.sl _ _=>aj
 |.ptr _ _=>aj
def FV.flL:List FV->Bool
 |[]=>ai
 |x::r=>x.fl&&FV.flL r
end
theorem W9:∀ {l:List FV},FV.flL l=ai->∀ x∈l,x.fl=ai
 |[],_,x,I=>by cases I
 |y::l,h,x,I=>by
  simp only[FV.flL,av] at h;rcases bl.1 I with rfl|I
  .exact h.1
  .exact W9 h.2 x I
theorem abo:∀ {l:List FV},(∀ x∈l,x.fl=ai)->FV.flL l=ai
 |[],_=>rfl
 |y::l,h=>by simp only[FV.flL,av];exact⟨h y (by simp),abo λx I=>h x (by simp[I])⟩
theorem nC.flat {O O':Nat->Prop} {w w':World} {x:FV} {v:Value} (h:nC O w x v):x.fl=ai->nC O' w' x v:=by
 induction h with
 |raw v=>intro _;exact .raw v
 |nil a c hc=>intro h;cases h
 |sl cells n c b off us hn hc hO hb hcl hu hr I=>intro h;cases h
 |ptr cells o b off us hO hb hcl hu hr I=>intro h;cases h
 |agg cells vs hl hcl hr I=>intro h;exact .agg cells vs hl hcl λj x v J hv=>I j x v J hv (W9 h x (ba J))
mutual
def AV.fl:AV->Bool
 |.f x=>x.fl
 |.emp=>ai
 |.anyb=>ai
 |.agg l=>AV.flL l
 |.tup l=>AV.flL l
 |.ptr _ _=>aj
 |.sl _ _ _=>aj
 |.row _ _ _=>aj
 |.mp _=>aj
 |.clo _ _=>aj
def AV.flL:List AV->Bool
 |[]=>ai
 |x::r=>x.fl&&AV.flL r
end
theorem KZ:∀ {l:List AV},AV.flL l=ai->∀ x∈l,x.fl=ai
 |[],_,x,I=>by cases I
 |y::l,h,x,I=>by
  simp only[AV.flL,av] at h;rcases bl.1 I with rfl|I
  .exact h.1
  .exact KZ h.2 x I
theorem XD:∀ {l:List AV},(∀ x∈l,x.fl=ai)->AV.flL l=ai
 |[],_=>rfl
 |y::l,h=>by simp only[AV.flL,av];exact⟨h y (by simp),XD λx I=>h x (by simp[I])⟩
theorem cM.flat {φ φ':PM} {O O':Nat->Prop} {w w':World} {x:AV} {v:Value} (h:cM φ O w x v):x.fl=ai->cM φ' O' w' x v:=by
 induction h with
 |f h=>intro hf;exact .f (h.flat hf)
 |ptr h=>intro hf;cases hf
 |sl h hn hc=>intro hf;cases hf
 |row h hn hc hsh=>intro hf;cases hf
 |emp=>intro _;exact .emp
 |anyb=>intro _;exact .anyb
 |mp h=>intro hf;cases hf
 |agg hl hcl hr J=>intro hf;exact .agg hl hcl λj x v I hv=>J j x v I hv (KZ hf x (ba I))
 |tup hl hr J=>intro hf;exact .tup hl λj x v I hv=>J j x v I hv (KZ hf x (ba I))
 |clo hl hr J=>intro hf;cases hf
mutual
theorem aj7 (γ:Nat->Nat):∀ x:AV,x.fl=ai->x.ren γ=x
 |.f x,_=>rfl
 |.emp,_=>rfl
 |.anyb,_=>rfl
 |.agg l,h=>by simp only[AV.ren];rw[Ie γ l h]
 |.tup l,h=>by simp only[AV.ren];rw[Ie γ l h]
 |.ptr _ _,h=>by cases h
 |.sl _ _ _,h=>by cases h
 |.row _ _ _,h=>by cases h
 |.mp _,h=>by cases h
 |.clo _ _,h=>by cases h
theorem Ie (γ:Nat->Nat):∀ l:List AV,AV.flL l=ai->AV.renL γ l=l
 |[],_=>rfl
 |x::r,h=>by
  simp only[AV.flL,av] at h;rw[AV.renL,aj7 γ x h.1,Ie γ r h.2]
end
theorem Ay:∀ (T:Ty),T.flat=ai->∀ x:T.den,∀ y∈bS T x,y.fl=ai
 |.int _,_,x,y,I=>by simp only[bS,aL] at I;subst I;rfl
 |.bool,_,x,y,I=>by simp only[bS,aL] at I;subst I;rfl
 |.str,_,x,y,I=>by simp only[bS,aL] at I;subst I;rfl
 |.sl _,h,x,y,I=>by cases h
 |.st t,h,x,y,I=>Ay t h x y I
 |.pr a b,h,x,y,I=>by
  simp only[Ty.flat,av] at h;simp only[bS,bQ] at I;exact I.elim (Ay a h.1 x.1 y) (Ay b h.2 x.2 y)
 |.un,_,x,y,I=>by simp[bS] at I
 |.ex,h,_,_,_=>by cases h
 |.sm,h,_,_,_=>by cases h
theorem afg (T:Ty) (h:T.flat=ai) (x:T.den):(gO T x).fl=ai:=by
 cases I:T.one with
 |true=>
  have:=Ay T h x (gO T x) (by rw[(Dw T x I).1];simp);exact this
 |false=>rw[qG T x I];exact abo (Ay T h x)
theorem Qf (a b:Ty):(spr a b).flat=(a.flat&&b.flat):=by
 cases a<;>cases b<;>simp[spr,Hf,Ty.flat]
theorem I1 {n:Nat}:∀ {a b:List TV},rG n (a++b)=ai->rG n a=ai/\rG n b=ai
 |[],b,h=>⟨rfl,h⟩
 |x::r,b,h=>by
  simp only[gr,rG,av] at h ⊢;obtain⟨h1,h2⟩:=I1 h.2;exact⟨⟨h.1,h1⟩,h2⟩
mutual
theorem aeg {g:Nat->Nat} {h:bk}:∀ (p:PV) (x:p.ty.den) (cs:List TV) (l:List AV),p.ty.flat=ai->p_ g p x=af cs->rG 0 cs=ai->cL h cs=af l->∀ y∈l,y.fl=ai
 |.d T,x,cs,l,hf,hp,_,hl,y,hy=>by
  have:=(lQ h 40 T x cs hp).1;rw[hl] at this;cases this;obtain⟨q,hq,rfl⟩:=dv.1 hy;exact Ay T hf x q hq
 |.ptr i q,x,cs,l,hf,hp,hlt,hl,y,hy=>by
  simp only[p_,ak] at hp;subst hp;simp[rG,LD] at hlt
 |.csl i q z,x,cs,l,hf,hp,hlt,hl,y,hy=>by
  simp only[p_,ak] at hp;subst hp;simp[rG,LD] at hlt
 |.clo q i z,x,cs,l,hf,hp,hlt,hl,y,hy=>by
  simp only[p_,ak] at hp;subst hp;simp[rG,LD] at hlt
 |.row i,x,cs,l,hf,hp,hlt,hl,y,hy=>by
  simp only[p_,ak] at hp;subst hp;simp[rG,LD] at hlt
 |.mp i,x,cs,l,hf,hp,hlt,hl,y,hy=>by
  simp only[p_,ak] at hp;subst hp;simp[rG,LD] at hlt
 |.nil,x,cs,l,hf,hp,hlt,hl,y,hy=>by
  simp only[p_,ak] at hp;subst hp;simp only[cL,cj,ak] at hl;subst hl;simp only[aL] at hy;subst hy;rfl
 |.emp,x,cs,l,hf,hp,hlt,hl,y,hy=>by
  simp only[p_,ak] at hp;subst hp;simp only[cL,cj,ak] at hl;subst hl;simp only[aL] at hy;subst hy;rfl
 |.agg ps,x,cs,l,hf,hp,hlt,hl,y,hy=>ID ps x cs l hf hp hlt hl y hy
theorem ID {g:Nat->Nat} {h:bk}:∀ (ps:List PV) (x:(PV.tyL ps).den) (cs:List TV) (l:List AV),(PV.tyL ps).flat=ai->qX g ps x=af cs->rG 0 cs=ai->cL h cs=af l->∀ y∈l,y.fl=ai
 |[],x,cs,l,hf,hp,hlt,hl,y,hy=>by
  simp only[qX,ak] at hp;subst hp;simp only[cL,ak] at hl;subst hl;cases hy
 |p::ps,x,cs,l,hf,hp,hlt,hl,y,hy=>by
  simp only[PV.tyL] at hf;rw[Qf,av] at hf;simp only[qX] at hp;split at hp
  .rename_i a ha;split at hp
   .rename_i b hb;simp only[ak] at hp;subst hp;obtain⟨a',b',rfl,e1,e2⟩:=Cc hl;have hsp:=I1 hlt;rcases bQ.1 hy with hy|hy
    .exact aeg p _ a a' hf.1 ha hsp.1 e1 y hy
    .exact ID ps _ b b' hf.2 hb hsp.2 e2 y hy
   .cases hp
  .cases hp
end
theorem aee {g:Nat->Nat} {h:bk} {p:PV} {x:p.ty.den} {u:TV} {y:AV} (hf:p.ty.flat=ai) (hp:tJ g p x=af u) (hlt:LD 0 u=ai) (I:cj h u=af y):y.fl=ai:=by
 cases p with
 |d T=>
  simp only[tJ,ak] at hp;subst hp;simp only[cj,ak] at I;subst I;exact afg T hf x
 |agg ps=>
  simp only[tJ] at hp;split at hp
  .rename_i l hl;simp only[ak] at hp;subst hp;simp only[cj] at I;split at I
   .rename_i M J;simp only[ak] at I;subst I;exact XD (ID ps _ l M hf hl hlt J)
   .cases I
  .cases hp
 |ptr i q=>simp only[tJ,ak] at hp;subst hp;simp[LD] at hlt
 |csl i q z=>simp only[tJ,ak] at hp;subst hp;simp[LD] at hlt
 |row i=>simp only[tJ,ak] at hp;subst hp;simp[LD] at hlt
 |clo q i z=>simp only[tJ,ak] at hp;subst hp;simp[LD,rG] at hlt
 |mp i=>simp only[tJ,ak] at hp;subst hp;simp[LD] at hlt
 |nil=>simp only[tJ,ak] at hp;subst hp;simp only[cj,ak] at I;subst I;rfl
 |emp=>simp only[tJ,ak] at hp;subst hp;simp only[cj,ak] at I;subst I;rfl
theorem Qu {g:Nat->Nat} {h:bk}:∀ (ps:List PV) (x:(PV.tyL ps).den) (us:List TV) (l:List AV),(PV.tyL ps).flat=ai->qe g ps x=af us->rG 0 us=ai->cL h us=af l->AV.flL l=ai
 |[],x,us,l,hf,hp,hlt,hl=>by
  simp only[qe,ak] at hp;subst hp;simp only[cL,ak] at hl;subst hl;rfl
 |p::ps,x,us,l,hf,hp,hlt,hl=>by
  simp only[PV.tyL] at hf;rw[Qf,av] at hf;simp only[qe] at hp;split at hp
  .rename_i a I;split at hp
   .rename_i b hb;simp only[ak] at hp;subst hp;obtain⟨y,l2,rfl,e1,e2⟩:=cY hl;simp only[rG,av] at hlt;simp only[AV.flL,av];exact⟨aee hf.1 I hlt.1 e1,Qu ps _ b l2 hf.2 hb hlt.2 e2⟩
   .cases hp
  .cases hp
theorem ae6:∀ {l:List AV},AV.flL l=ai->(Et l).fl=ai
 |[],_=>rfl
 |[x],h=>by simp only[AV.flL,av] at h;exact h.1
 |x::y::r,h=>h
theorem afv {P:Program} {o:Oper} {e:iU} {h:bk} {nx:Nat} {f:FuncId} {c:cr} {l:List TV} (hinv:mi h nx) (sp:pY P f c) {x:c.pre.ty.den} {m:Nat} {σ:PT Nat} {sm:Nat} (M:Ij 0 c.pre l h x m σ sm) {vs:List TV} {hp:bk} {l1:List (Option iD)} (I:qO c.pre x vs hp l1) {y:c.post.ty.den} (hm:c.m x=af y) {rs:List TV} {hq:bk} {l2:List (Option iD)} (J:qO c.post y rs hq l2) (hp0:c.pre.bs.length=0) (hq0:c.post.bs.length=0) (hfl:(PV.tyL c.post.vs).flat=ai)
 (g:Nat->Nat) {la:List AV} (hla:cL h l=af la)
 (hexec:∀ (φ:PM) (E:Nat->Prop) (h':HF) (w:World) (a:Act),(∀ t,.tmp t∈o.op.operands->∀ y,fV e h t=af y->cM φ (tot E φ h') w y (a.tmps.getD t undef))->re φ E h' w->∃ us:List Value,(execOp a.eval o).run P w= .ok (.enter f us.toArray) w/\j_ φ (tot E φ h') w la us):
 js P o aj e h nx (Qp (kG g rs)) m 0 h nx:=by
 obtain⟨x1,m1,x2,m2,hx,hmm,gv,gb⟩:=M.ex;have hmr:dX h m:=by rw[hmm];exact (H9 _ _ _ _ gv).or (Ia _ _ _ _ gb)
 have pvg:qe (im σ) c.pre.vs x1=af (kG (im σ) vs):=by
  have U:=tY (im σ) c.pre.vs x1;have h4:=I.pv;rw[hx,tR] at h4;rw[U,h4];rfl
 obtain⟨lr,hlr⟩:=fA hq rs J.ok;obtain⟨lp,hlp⟩:=fA hp vs I.ok;have hfl':AV.flL lr=ai:=Qu c.post.vs _ rs lr hfl J.pv (by rw[<- hq0];exact J.lt) hlr;have hpe:∀ i,hp.get i=ah:=λi=>by
  cases hb:hp.get i with
  |none=>rfl
  |some b=>have:=I.lt_len hb;omega
 have hqe:∀ i,hq.get i=ah:=λi=>by
  cases hb:hq.get i with
  |none=>rfl
  |some b=>have:=J.lt_len hb;omega
 have rows_hp:∀ i r,eJ hp i=af r->eJ (eK m h) (im σ i)=af r:=λi r hr=>by rw[bV,hpe] at hr;cases hr
 have rows_hq:∀ i r,eJ hq i=af r->eJ h (g i)=af r:=λi r hr=>by rw[bV,hqe] at hr;cases hr
 have rows_in:yg (eK m h) h:=λj r hr=>by
  rw[bV] at hr ⊢;rw[jg] at hr;split at hr
  .rename_i ht;obtain⟨ty,p,T,xs,hb⟩:=hmr j ht;rw[hb] at hr ⊢;exact hr
  .exact hr
 have hOpT:gR P o (fV e h) (bC h) ⟨Et lr,F6 m,[],λ_=>ah,[]⟩:=by
  intro φ E h' w a hrd hwr hops hrep hN;obtain⟨us,hrun,hrel⟩:=hexec φ E h' w a hops hrep
  let Hv:HF:=λn=>if n∈F6 m then ah else h' n
  have Hv_in:∀ n,n∈F6 m->Hv n=ah:=λn hn=>by simp only[Hv,hn,bG]
  have Hv_out:∀ n,n∉F6 m->Hv n=h' n:=λn hn=>by simp only[Hv,hn,ep]
  have hd:vM h' Hv:=λn b hb=>by
   by_cases hn:n∈F6 m
   .rw[Hv_in n hn] at hb;cases hb
   .rw[Hv_out n hn] at hb;exact⟨b,hb⟩
  have gvv:Ep h h' Hv m:=λi hi=>⟨hrd _ (lG.2 hi),Hv_in _ (lG.2 hi)⟩
  have V:K0 h' Hv:=⟨hd,λn b b' hb Y=>by
   by_cases hn:n∈F6 m
   .rw[Hv_in n hn] at Y;cases Y
   .rw[Hv_out n hn,hb] at Y;cases Y;exact kf.refl hd b⟩
  have hrepv:=V.rep hrep;have hlpg:cL (eK m h) (kG (im σ) vs)=af (AV.renL (Ib (im σ)) lp):=qF rows_hp vs lp hlp;have hrel1:j_ φ (tot E φ Hv) w (AV.renL (Ib (im σ)) lp) us:=
   j_.le hrep (Do hd rows_in c.pre.vs l x1 m1 _ la _ gv pvg hla hlpg (λi hi=>gvv i (by rw[hmm,bu,hi];rfl))) hrel
  let E':Nat->Prop:=λk=>E k\/∃ n b,Hv n=af b/\φ n=af k
  have T:agb c.pre x vs hp (im σ) φ E E' Hv w:=by
   refine re.toId I (λa b ha=>by omega) hrepv (λi b yb hb=>by rw[hpe] at hb;cases hb) ?_ (λi k b hi=>by omega) ?_
   .rintro k (hE|⟨n,b,h1,U⟩)
    .exact .inl hE
    .exact .inr ⟨n,b,h1,U⟩
   .rintro k (hE|⟨n,b,h1,U⟩)
    .exact hrepv.el k hE
    .obtain⟨k',Z,_,ob,q3,_⟩:=hrepv.at_ n b h1;rw[U] at Z;cases Z;exact (cF.1 q3).1
  have hcalls:=sp.calls x y hm vs hp l1 rs hq l2 lp lr I J hlp hlr (φ1 c.pre.bs.length (im σ) φ) E' w us T.rep (j_.toId T.val (tO vs lp I.lt hlp) hrel1) (λn k hk=>by
   obtain⟨i,hi,rfl,_⟩:=xq hk;rw[eo];exact hi)
  unfold HQ;rw[hrun];refine Calls.mono hcalls ?_;rintro en w' ⟨v,φc',rfl,hext,hown,hnm,rp,rv'⟩;have hno:∀ k,¬own (φ1 c.pre.bs.length (im σ) φ) (bC hp) k:=by
   rintro k ⟨n,b,h1,_⟩;obtain⟨i,bb,_,U,_⟩:=jF h1;rw[hpe] at U;cases U
  have mv:jh φ φ h' h' w w':=⟨λ_ _ h=>h,hext.mono λk hk=>cV hk (hno k),λ_ _ h=>h⟩
  refine ⟨v,φ,rfl,?_,λ_ _ h=>.inl h,?_,?_⟩
  .rw[ue];exact mv
  .rw[ue];refine hrep.moved mv λk hk=>?_
   obtain⟨n,b,h1,U⟩:=hk;obtain⟨k',Z,_,ob,q3,_⟩:=hrep.at_ n b h1;rw[U] at Z;cases Z;exact hext.blk k (cF.1 q3).1 (hno k)
  .exact rv'.flat (ae6 hfl')
 have hrsg:cL h (kG g rs)=af (AV.renL (Ib g) lr):=qF rows_hq rs lr hlr;refine ⟨⟨_,hOpT,λz hz=>?_,?_,λn hn=>?_,by simp,by simp⟩,λ_ _ h=>h,hinv,bT _,λhs=>by cases hs⟩
 .rw[Wu hrsg,Ie _ lr hfl'] at hz;cases hz;rfl
 .exact ue _ _
 .obtain⟨i,rfl,hi⟩:=nX.1 hn;rw[eo];exact hi
def cr.full (c:cr):cr:=⟨c.pre,⟨c.post.vs,c.pre.bs⟩,λx=>obind (c.m x) λy=>af (Uq (PV.tyL c.post.vs) (PB.tyL c.pre.bs) (OW _ _ y) (Lu _ _ x))⟩
def aI (P:Program) (f:FuncId) (c:cr):Prop:=if eQ c.pre.bs.length c.post.bs.length=ai then pY P f c else pY P f c.full
theorem pY.toC {P:Program} {f:FuncId} {c:cr} (h:pY P f c) (hb:eQ c.pre.bs.length c.post.bs.length=ai):aI P f c:=by
 unfold aI;rw[aE hb];exact h
theorem aI.holds {P:Program} {f:FuncId} {c:cr} (h:aI P f c) (hb:eQ c.pre.bs.length c.post.bs.length=ai):pY P f c:=by
 unfold aI at h;rw[aE hb] at h;exact h
theorem aet (a b:Ty) (z:(spr a b).den):Uq a b (OW a b z) (Lu a b z)=z:=by cases a<;>cases b<;>rfl
open Classical in
def roM {pre:Tm} {vs:List PV} (m:pre.ty.den->Option (Tm.ty ⟨vs,pre.bs⟩).den) (x:pre.ty.den):Option (Tm.ty ⟨vs,[]⟩).den:=
 obind (m x) λy=>if Lu (PV.tyL vs) (PB.tyL pre.bs) y=Lu _ _ x then af (Uq (PV.tyL vs) (PB.tyL []) (OW (PV.tyL vs) (PB.tyL pre.bs) y) ()) else ah
theorem aI.ro {P:Program} {f:FuncId} {pre:Tm} {vs:List PV} {m:pre.ty.den->Option (Tm.ty ⟨vs,pre.bs⟩).den} {m':pre.ty.den->Option (Tm.ty ⟨vs,[]⟩).den} (h:pY P f ⟨pre,⟨vs,pre.bs⟩,m⟩) (hb:eQ pre.bs.length 0=aj) (hs:∀ x y,m' x=af y->roM m x=af y):aI P f ⟨pre,⟨vs,[]⟩,m'⟩:=by
 unfold aI;rw[aA (by show ¬eQ pre.bs.length 0=ai;rw[hb];exact Bool.false_ne_true)];refine ⟨h.callable,λx y hxy=>?_⟩;refine h.calls x y ?_;have hxy:obind (m' x) (λy=>af (Uq (PV.tyL vs) (PB.tyL pre.bs) (OW (PV.tyL vs) (PB.tyL []) y) (Lu _ _ x)))=af y:=hxy;obtain⟨z,M,hzy⟩:=dN hxy;have h1:=hs x z M;unfold roM at h1;obtain⟨y0,J,h2⟩:=dN h1;split at h2
 .rename_i heq;have h2:=iX h2;have hzy:=iX hzy;subst h2;have I:Uq (PV.tyL vs) (PB.tyL pre.bs) (OW (PV.tyL vs) (PB.tyL pre.bs) y0) (Lu (PV.tyL pre.vs) (PB.tyL pre.bs) x)=y:=(gQ (λq=>Uq (PV.tyL vs) (PB.tyL pre.bs) q (Lu (PV.tyL pre.vs) (PB.tyL pre.bs) x)) (tR (PV.tyL vs) (PB.tyL []) _ ()).symm).trans hzy;rw[<- heq] at I;have:=(aet (PV.tyL vs) (PB.tyL pre.bs) y0).symm.trans I;exact J.trans (gQ af this)
 .cases h2
theorem js.drop {P:Program} {o:Oper} {e:iU} {h h':bk} {nx nx':Nat} {v:TV} {rd wr W wr':Nat} (t:js P o aj e h nx v rd wr h' nx') (hW:∀ i,aN W i=ai->bC h' (nm i)=bC h (nm i)/\aN rd i=ai) (M:∀ i,aN wr i=ai->aN W i=ai\/aN wr' i=ai):js P o aj e h nx v rd wr' h' nx':=by
 obtain⟨⟨f,h1,h2,J,h4,h5,Z⟩,r,i,g,st⟩:=t;have hs:∀ n,aN W (ow n)=ai->bC h' n=bC h n:=λn hn=>by
  by_cases I:∃ i,n=nm i
  .obtain⟨i,rfl⟩:=I;rw[eo] at hn;exact (hW i hn).1
  .rw[wS h I,wS h' I]
 have hup:∀ H:HF,(∀ n∈f.wr,H n=bC h n)->eX H (f.wr.filter λn=> !(aN W (ow n))) f.nw=eX H f.wr f.nw:=λH Y=>by
  funext n;unfold eX;by_cases hn:n∈f.wr
  .by_cases hb:aN W (ow n)=ai
   .rw[aA (by simp[hb]),aE hn];have:=congrFun J n;unfold eX at this;rw[aE hn,hs n hb] at this;rw[this,Y n hn]
   .rw[aE (by simp[hn,hb]),aE hn]
  .rw[aA (by simp[hn]),aA hn]
 refine ⟨⟨⟨f.val,f.rd++(f.wr.filter λn=>aN W (ow n)),f.wr.filter λn=> !(aN W (ow n)),f.nw,f.N⟩,?_,h2,?_,λn hn=>?_,λn hn=>?_,Z⟩,r,i,g,λhs=>by cases hs⟩
 .intro φ E H w a hrd hwr hops hrep U;have k1:∀ i∈f.rd,H i=bC h i:=λi hi=>hrd i (hX _ hi)
  have k2:∀ i∈f.wr,H i=bC h i:=λi hi=>by
   cases hb:aN W (ow i) with
   |true=>exact hrd i (iL _ (by simp[hi,hb]))
   |false=>exact hwr i (by simp[hi,hb])
  have:=h1 φ E H w a k1 k2 hops hrep U;simp only[hup H k2];exact this
 .simp only[hup (bC h) (λ_ _=>rfl)];exact J
 .rcases bQ.1 hn with hn|hn
  .exact h4 n hn
  .simp only[FR] at hn;exact (hW _ hn.2).2
 .simp only[FR,dC] at hn;rcases M _ (h5 n hn.1) with hh|hh
  .rw[hn.2] at hh;cases hh
  .exact hh
mutual
theorem aat {n n':Nat} (hle:n<=n'):∀ (v:TV),LD n v=ai->LD n' v=ai
 |.row id,h=>by simp only[LD,Nat.blt_eq] at h ⊢;omega
 |.rtl id _,h=>by simp only[LD,Nat.blt_eq] at h ⊢;omega
 |.pel id _ _ _,h=>by simp only[LD,Nat.blt_eq] at h ⊢;omega
 |.ptr id _,h=>by simp only[LD,Nat.blt_eq] at h ⊢;omega
 |.csl id _ _,h=>by simp only[LD,Nat.blt_eq] at h ⊢;omega
 |.mp id,h=>by simp only[LD,Nat.blt_eq] at h ⊢;omega
 |.agg l,h=>wL hle l h
 |.tup l,h=>wL hle l h
 |.clo _ l,h=>wL hle l h
 |.f _ _,_=>rfl
 |.fel _ _ _ _ _,_=>rfl
 |.emp,_=>rfl
 |.nil,_=>rfl
 |.undef,_=>rfl
 |.np,_=>rfl
 |.anyb,_=>rfl
theorem wL {n n':Nat} (hle:n<=n'):∀ (l:List TV),rG n l=ai->rG n' l=ai
 |[],_=>rfl
 |x::r,h=>by
  simp only[rG,av] at h ⊢;exact⟨aat hle x h.1,wL hle r h.2⟩
end
theorem MX {g g':Nat->Nat} {h:bk}:∀ (bs:List PB) (i:Nat) (x:(PB.tyL bs).den) (m:Nat),Ii bs=ai->Bc g h i bs=af (x,m)->∃ l,oJ g' bs x=af l/\l.length=bs.length/\∀ j,j<bs.length->∃ ty p T xs,l[j]? =af (af (.rows ty p T xs))/\h.get (g (i+j))=af (.rows ty p T xs)
 |[],i,x,m,_,hg=>⟨[],rfl,rfl,λj hj=>by simp at hj⟩
 |.rows ty p T::r,i,x,m,I,hg=>by
  simp only[Bc] at hg;split at hg
  .rename_i M m1 h1;split at hg
   .rename_i J m2 h2;simp only[ak,aD] at hg;obtain⟨rfl,rfl⟩:=hg;obtain⟨l,q1,Z,q3⟩:=MX (g:=g) (g':=g') (h:=h) r (i+1) J m2 I h2;simp only[Fd] at h1;split at h1
    .rename_i ty' p' S xs hb;split at h1
     .rename_i hc;simp only[av,cU] at hc;obtain⟨rfl,rfl⟩:=hc;split at h1
      .rename_i z hz;simp only[ak] at h1;obtain⟨rfl,_⟩:=h1;obtain⟨es,ez⟩:=jr hz;cases es;subst ez;refine ⟨af (.rows ty p T M)::l,?_,by simp[Z],λj hj=>?_⟩
       .simp only[oJ];rw[tR,vm,q1];rfl
       .cases j with
        |zero=>exact⟨ty,p,T,_,rfl,hb⟩
        |succ j=>
         obtain⟨a,b,c,d,Y,U⟩:=q3 j (by simpa using hj);exact⟨a,b,c,d,by simpa using Y,by rw[show i+(j+1)=i+1+j from by omega];exact U⟩
      .cases h1
     .cases h1
    .cases h1
   .cases hg
  .cases hg
 |.rowsP _ _::r,i,x,m,I,hg=>by cases I
 |.cells _ _::r,i,x,m,I,hg=>by cases I
 |.mp _ _::r,i,x,m,I,hg=>by cases I
 |.gone::r,i,x,m,I,hg=>by cases I
theorem F5:∀ {bs:List PB},Ii bs=ai->BT bs=ai
 |[],_=>rfl
 |.rows _ _ _::r,h=>F5 (bs:=r) h
 |.rowsP _ _::r,h=>by cases h
 |.cells _ _::r,h=>by cases h
 |.mp _ _::r,h=>by cases h
 |.gone::r,h=>by cases h
theorem FZ {h h2:bk} {g:Nat->Nat}:∀ (n:Nat),(∀ i,i<n->h2.get (g i)=h.get (g i))->uf h h2 g n=ai
 |0,_=>rfl
 |n+1,hs=>by
  simp only[uf,av];refine ⟨?_,FZ n λi hi=>hs i (by omega)⟩;have:eJ h2 (g n)=eJ h (g n):=by rw[bV,bV,hs n (by omega)]
  rw[this];cases eJ h (g n) with
  |none=>rfl
  |some q=>obtain⟨p,s,k⟩:=q;simp
def Li (P:Program) (con:FuncId->Option cr):Prop:=∀ f c,con f=af c->aI P f c
theorem Xt {R:Type} {P:Program} {con:FuncId->Option cr} (hcon:Li P con) {o:Oper} {e:iU} {h:bk} {nx:Nat} {f:FuncId} {l:List TV} {K:KO R} {r:R} (hinv:mi h nx) (hk:Xu con f l h nx K=af r) {la:List AV} (hla:cL h l=af la)
 (hexec:∀ (φ:PM) (E:Nat->Prop) (h':HF) (w:World) (a:Act),Ej P f->(∀ t,.tmp t∈o.op.operands->∀ y,fV e h t=af y->cM φ (tot E φ h') w y (a.tmps.getD t undef))->re φ E h' w->∃ us:List Value,(execOp a.eval o).run P w= .ok (.enter f us.toArray) w/\j_ φ (tot E φ h') w la us):kW P o aj e h nx K r:=by
 unfold Xu at hk;split at hk
 .rename_i c hc;have spc:=hcon f c hc;split at hk
  .rename_i x m σ sm hM;split at hk
   .rename_i q hq;obtain⟨vs,hp⟩:=q;obtain⟨l1,I⟩:=wO hq;obtain⟨y,hy,hk⟩:=dN hk;split at hk
    .rename_i q2 hq2;obtain⟨rs1,Z⟩:=q2;obtain⟨l2,J⟩:=wO hq2;split at hk
     .rename_i hcond;simp only[av] at hcond;have hle:=a_ hcond.1;have sp:=spc.holds hcond.1;simp only at hk;split at hk
      .rename_i rs hrs;have hrs':=hrs;rw[tY,J.pv] at hrs';simp only[b_,ak] at hrs';split at hk
       .rename_i hb;simp only[av] at hb;have hq0:=aw hb.1.2;refine ⟨_,_,_,_,_,hk,?_⟩;rw[<- hrs'];exact afv hinv sp (wI hM) I hy J (by omega) hq0 hb.2 _ hla λφ E h' w a=>hexec φ E h' w a sp.callable
       .split at hk
        .rename_i h2 U;obtain⟨hsr,hk⟩:=ef hk;refine ⟨_,_,_,_,_,hk,?_⟩;rw[<- hrs'];unfold MG at U;rw[wA,J.pb] at U;simp only[b_,ak] at U;exact acd hinv sp (wI hM) I hcond.2 hy J hle (λi hi=>by
          have:gk i c.pre.bs.length=ai:=bE hi;simp only[this,bG]) (λi hi=>by
          have:gk i c.pre.bs.length=aj:=by
           cases hb:gk i c.pre.bs.length with
           |false=>rfl
           |true=>have:=a_ hb;omega
          simp only[this];rfl) U.symm hsr hla λφ E h' w a=>hexec φ E h' w a sp.callable
        .cases hk
      .cases hk
     .rename_i hcond;split at hk
      .rename_i hro;simp only[av] at hro;have hq0:=aw hro.1;have hng:=F5 hro.2;have sp:pY P f c.full:=by
        unfold aI at spc
        rwa [aA (λhb=>hcond (by rw[hb,hng];rfl))] at spc
       simp only at hk;split at hk
       .rename_i rs hrs;split at hk
        .rename_i h2 U;have hrs':=hrs;rw[tY,J.pv] at hrs';simp only[b_,ak] at hrs';refine ⟨_,_,_,_,_,hk,?_⟩;rw[<- hrs'];have M:=wI hM;unfold MG at U;rw[wA,I.pb] at U;simp only[b_,ak] at U;have hqe:∀ i,Z.get i=ah:=λi=>by
          cases hb:Z.get i with
          |none=>rfl
          |some b=>have:=J.lt_len hb;omega
         have J':qO c.full.post (Uq (PV.tyL c.post.vs) (PB.tyL c.pre.bs) (OW _ _ y) (Lu _ _ x)) rs1 hp l1:=
          ⟨by show qe H7 c.post.vs (OW (PV.tyL c.post.vs) (PB.tyL c.pre.bs) _)=_;rw[tR];exact J.pv,by show oJ H7 c.pre.bs (Lu (PV.tyL c.post.vs) (PB.tyL c.pre.bs) _)=_;rw[vm];exact I.pb,I.len,I.at_,jb (λi r hr=>by rw[bV,hqe] at hr;cases hr) _ J.ok,wL (by omega) _ J.lt,I.cells⟩
         obtain⟨x1,m1,x2,m2,hx,hmm,gv,gb⟩:=M.ex;obtain⟨l,q1,q2,q3⟩:=MX (g':=H7) c.pre.bs 0 x2 m2 hro.2 gb;have hl1:l1=l:=by
          have:=I.pb;rw[hx,vm,q1] at this;cases this;rfl
         subst hl1;have hgi:∀ i,i<c.pre.bs.length->(if gk i c.pre.bs.length then im σ i else nx+(i-c.pre.bs.length))=im σ i:=λi hi=>by
          have:gk i c.pre.bs.length=ai:=bE hi;simp only[this,bG]
         have hsame:∀ i,i<c.pre.bs.length->h2.get (im σ i)=h.get (im σ i):=λi hi=>by
          obtain⟨ty,p,T,xs,w1,Y⟩:=q3 i hi;rw[bO] at Y;have:=vu (λi=>if gk i c.pre.bs.length then im σ i else nx+(i-c.pre.bs.length)) (l1.map (lX (lZ (λi=>if gk i c.pre.bs.length then im σ i else nx+(i-c.pre.bs.length))))) 0 (eK m h) (λa b ha hb e=>by
           simp only[bP,q2] at ha hb;rw[bO,bO,hgi a ha,hgi b hb] at e;exact M.inj a b ha hb e) i (af (.rows ty p T xs)) (by rw[a8,w1];rfl)
          rw[bO,hgi i hi] at this;rw[<- U,this,Y]
         have t:=acd (o:=o) (e:=e) hinv sp M I hng (y:=Uq (PV.tyL c.post.vs) (PB.tyL c.pre.bs) (OW _ _ y) (Lu _ _ x)) (by show obind (c.m x) _=_;rw[hy];rfl) J' (bT _) (g:=λi=>if gk i c.pre.bs.length then im σ i else nx+(i-c.pre.bs.length)) hgi (λi hi=>by
          have:gk i c.pre.bs.length=aj:=by
           cases hb:gk i c.pre.bs.length with
           |false=>rfl
           |true=>have:=a_ hb;have hi:c.pre.bs.length<=i:=hi;omega
          simp only[this];rfl) U.symm (FZ _ λi hi=>by rw[hgi i hi];exact hsame i hi) hla λφ E h' w a=>hexec φ E h' w a sp.callable
         have t':js P o aj e h nx (Qp (kG (λi=>if gk i c.pre.bs.length then im σ i else nx+(i-c.pre.bs.length)) rs1)) (sm|||m) (sm|||m|||(((1<<<(c.pre.bs.length-c.pre.bs.length))-1)<<<nx)) h2 (nx+(c.pre.bs.length-c.pre.bs.length)):=t;rw[HR,du] at t';refine t'.drop (W:=sm) (λi hi=>?_) (λi hi=>?_)
         .refine ⟨?_,by rw[bu,hi];rfl⟩;obtain⟨k,hk,rfl⟩:=(M.sig i).1 hi;obtain⟨ty,p,T,xs,_,Y⟩:=q3 k hk;rw[bO] at Y;rw[bM,bM,hsame k hk,Y];rfl
         .simp only[Nat.shiftLeft_zero,HR,Nat.zero_shiftLeft,Nat.or_zero,bu,ja] at hi;exact hi
        .cases hk
       .cases hk
      .cases hk
    .cases hk
   .cases hk
  .cases hk
 .cases hk
theorem ail {R:Type} {P:Program} {con:FuncId->Option cr} (hcon:Li P con) {b8:TypeId->Option Ty} {o:Oper} {e:iU} {h:bk} {nx:Nat} {i:SI} {K:KO R} {r:R} (hinv:mi h nx) (hi:tW e h) (hc:yM P o.op=i) (hk:d_ con b8 i e h nx K=af r):kW P o i.still e h nx K r:=by
 have callOps:∀ (c:Call),o.op= .call c->∀ x,x∈c.operands->x∈o.op.operands:=λc I x J=>by rw[I];exact J
 cases i with
 |call f args=>
  simp only[d_] at hk;split at hk
  .rename_i l hl;have I:∃ c:Call,o.op= .call c/\c.callee= .value (.func f)/\c.args.toList=args:=by
    unfold yM at hc;split at hc
    .rename_i i hi;subst hc;unfold Py at hi;split at hi
     .rename_i c I;split at hi
      .rename_i g hg;simp only[ak,SI.call.injEq] at hi;exact⟨c,I,by rw[hg,hi.1],hi.2⟩
      .simp at hi
      .cases hi
     .cases hi
    .split at hc<;>cases hc
   obtain⟨c,I,h1,h2⟩:=I;obtain⟨la,Z,Y⟩:=ze hi hl;refine Xt hcon hinv hk Y λφ E h' w a hcb hops hrep=>?_
   have hp:V_ φ E h' w a (JK e h) o:=λx y J U=>tU hrep (by rw[vD];exact hops) J U
   refine ⟨args.map a.eval,?_,O2 hp args la (λx J=>callOps c I x (by simp[eV,h1,<-h2] at J ⊢;exact .inr J)) Z⟩;unfold execOp;rw[I];have hm:c.args.map a.eval=(args.map a.eval).toArray:=by rw[<- h2];apply Lm;simp
   simp[resolve,h1,Act.eval,Deferred.ofValue,invoke,hm,xw hcb]
  .cases hk
 |callv x args=>
  simp only[d_] at hk;split at hk
  .rename_i f cap l J hl;have I:∃ c:Call,o.op= .call c/\c.callee= .value x/\c.args.toList=args:=by
    unfold yM at hc;split at hc
    .rename_i i hi;subst hc;unfold Py at hi;split at hi
     .rename_i c I;split at hi
      .simp at hi
      .rename_i g hg;simp only[ak,SI.callv.injEq] at hi;exact⟨c,I,by rw[hg,hi.1],hi.2⟩
      .cases hi
     .cases hi
    .split at hc<;>cases hc
   obtain⟨c,I,h1,h2⟩:=I;obtain⟨la,Z,Y⟩:=ze hi hl;obtain⟨yx,g3,M⟩:=bN hi J;simp only[cj] at M;split at M
   .rename_i lc hlc;simp only[ak] at M;subst M;refine Xt hcon hinv hk (nz Y hlc) λφ E h' w a hcb hops hrep=>?_
    have hp:V_ φ E h' w a (JK e h) o:=λx y J U=>tU hrep (by rw[vD];exact hops) J U
    have hxv:=hp x _ (callOps c I x (by simp[eV,h1])) g3;have hlv:=O2 hp args la (λx J=>callOps c I x (by simp[eV,h1,<-h2] at J ⊢;exact .inr J)) Z;generalize hz:a.eval x=z at hxv;cases hxv with
    |@clo _ _ vs hvl hvr=>
     refine ⟨args.map a.eval++vs,?_,hlv.append (j_.of hvl hvr)⟩;unfold execOp;rw[I];have hm:c.args.map a.eval=(args.map a.eval).toArray:=by rw[<- h2];apply Lm;simp
     simp[resolve,h1,hz,Deferred.ofValue,invoke,hm,xw hcb]
   .cases M
  .cases hk
 |op s=>
  have hc:s= .bad\/dk P o.op=af s:=by
   unfold yM at hc;split at hc
   .rename_i i hi;subst hc;unfold Py at hi;split at hi
    .split at hi<;>simp at hi
    .cases hi
   .split at hc
    .rename_i q hq;simp only[SI.op.injEq] at hc;subst hc;exact .inr hq
    .simp only[SI.op.injEq] at hc;exact .inl hc.symm
  rcases hc with rfl|hc
  .simp[d_] at hk
  .exact K_op hinv hi hc hk
def gw (am:Nat) (e e':iU):Prop:=∀ k,aN am k=aj->∀ I,e'.get k=af I->∃ v,e.get k=af v/\(uy v=ai->I=v)
theorem gw.refl (am:Nat) (e:iU):gw am e e:=λ_ _ I h=>⟨I,h,λ_=>rfl⟩
theorem gw.trans {am:Nat} {a b c:iU} (h1:gw am a b) (h2:gw am b c):gw am a c:=λk hk J hv=>by
 obtain⟨I,Z,Y⟩:=h2 k hk J hv;obtain⟨v,U,M⟩:=h1 k hk I Z;refine ⟨v,U,λhf=>?_⟩;have:=M hf;subst this;exact Y hf
theorem gw.mono {am am':Nat} {a b:iU} (h:gw am a b) (hm:∀ k,aN am k=ai->aN am' k=ai):gw am' a b:=λk hk=>h k (by
 cases I:aN am k with
 |false=>rfl
 |true=>rw[hm k I] at hk;cases hk)
structure acx (P:Program) (ops:Array Oper) (rest:List Oper) (sl:List sP) (am:Nat) (s s':TS) (fs:List FPm) (l:List (Oper×BA)):Prop where
 ops_:l.map (·.1)=rest
 chain:Ag P ops l (fV s.e s.h) (bC s.h) (fV s'.e s'.h) (bC s'.h)
 fsl:fs.length=l.length
 sll:sl.length=l.length
 fp:∀ (j:Nat) o f q,l[j]? =af (o,f)->fs[j]? =af q->(∀ n∈f.rd,aN q.rd (ow n)=ai)/\∀ n∈f.wr,aN q.wr (ow n)=ai
 still:∀ (j:Nat) o f so,l[j]? =af (o,f)->sl[j]? =af so->so.op.still=ai->f.rd=[]/\f.wr=[]
 names:∀ (j:Nat) o f,l[j]? =af (o,f)->∀ n∈f.N,s.nx<=ow n/\ow n<s'.nx
 apart_:∀ (i j:Nat) oi fi oj fj,i<j->l[i]? =af (oi,fi)->l[j]? =af (oj,fj)->∀ n∈fi.N,n∉fj.N
 grows:s.nx<=s'.nx
 invH:mi s'.h s'.nx
 invE:tW s'.e s'.h
 keeps:gw am s.e s'.e
theorem aef {e:iU} {h h':bk} (hi:tW e h) (hr:ci h h') (d:Option Nat) {v:TV} {y:AV} (hv:cj h' v=af y):CS (fV e h) d y=fV (EB e d v) h':=by
 funext t;have old:(e.get t).bind (cj h)=(e.get t).bind (cj h'):=by
  cases ht:e.get t with
  |none=>rfl
  |some x=>
   obtain⟨z,I⟩:=qg h x (hi t x ht);simp only[aH,I,gE hr x z I]
 cases d with
 |none=>simp only[CS,EB,fV];rw[aA (by simp)];exact old
 |some d=>
  simp only[CS,EB,fV,PT.get_set,ak];by_cases hd:d=t
  .subst hd;simp[hv]
  .rw[aA hd,aA (λe=>hd e.symm)];exact old
theorem tW.put {e:iU} {h h':bk} (hi:tW e h) (hr:ci h h') (d:Option Nat) {v:TV} (hv:LB h' v=ai):tW (EB e d v) h':=λt x I=>by
 cases d with
 |none=>exact oK hr x (hi t x I)
 |some d=>
  simp only[EB,PT.get_set] at I;split at I
  .cases I;exact hv
  .exact oK hr x (hi t x I)
theorem Rz {e:iU} {h:bk} {t:Nat} {v:TV} (ht:e.get t=af v):fV (e.set t (af v)) h=fV e h:=by
 funext k;simp only[fV,PT.get_set];by_cases hk:k=t
 .subst hk;simp[ht]
 .rw[aA hk]
theorem tW.set {e:iU} {h:bk} {t:Nat} {v:TV} (hi:tW e h) (ht:e.get t=af v):tW (e.set t (af v)) h:=λk x I=>by
 rw[PT.get_set] at I;split at I
 .rename_i hk;subst hk;cases I;exact hi _ _ ht
 .exact hi k x I
theorem TW {R:Type} {e:iU} {g:Option (Nat×Bool)} {K:Bool->iU->Option R} {r:R} (h:ZU e g K=af r):
 (g=ah/\K ai e=af r)\/(∃ t want b,g=af (t,want)/\e.get t=af (.f .bool b)/\K (b==want) (e.set t (af (.f .bool b)))=af r)\/∃ t want,g=af (t,want)/\e.get t=af .undef/\K aj e=af r:=by
 unfold ZU at h;split at h
 .exact .inl ⟨rfl,h⟩
 .rename_i t want;split at h
  .rename_i b hb;refine .inr (.inl ⟨t,want,b,rfl,hb,?_⟩);cases want with
   |true=>rcases pH h with ⟨rfl,h⟩|⟨rfl,h⟩<;>exact h
   |false=>rcases pH h with ⟨rfl,h⟩|⟨rfl,h⟩<;>exact h
  .rename_i hb;exact .inr (.inr ⟨t,want,rfl,hb,h⟩)
  .cases h
theorem IG {R:Type} {P:Program} {con:FuncId->Option cr} (hcon:Li P con) {b8:TypeId->Option Ty} {ops:Array Oper} {am:Nat} (ham:∀ (j:Nat) (o:Oper) (d:Nat),ops[j]? =af o->o.dst=af d->aN am d=ai):
 ∀ (rest:List Oper) (sl:List sP) (s:TS) (fs:List FPm) (K:TS->List FPm->Option R) (r:R),(∀ o∈rest,∃ j:Nat,ops[j]? =af o)->sg P ops rest=af sl->Ly con b8 sl s fs K=af r->mi s.h s.nx->tW s.e s.h->∃ s' fs' l,K s' (fs.reverse++fs')=af r/\acx P ops rest sl am s s' fs' l
 |[],sl,s,fs,K,r,hin,hc,hk,hH,M=>by
  simp only[sg,ak] at hc;subst hc;simp only[Ly] at hk;exact⟨s,[],[],by simpa using hk,rfl,.nil _ _,rfl,rfl,by simp,by simp,by simp,by simp,bT _,hH,M,gw.refl _ _⟩
 |o::rest,sl,s,fs,K,r,hin,hc,hk,hH,M=>by
  simp only[sg] at hc;split at hc
  .rename_i sl' hsl';have hso:∃ g,sl=⟨o.dst,yM P o.op,g⟩::sl'/\((g=ah/\o.guard=ah)\/∃ j want t,g=af (t,want)/\o.guard=af (j,want)/\(ops[j]?).bind (·.dst)=af t):=by
    split at hc
    .rename_i hg;simp only[ak] at hc;exact⟨ah,hc.symm,.inl ⟨rfl,hg⟩⟩
    .rename_i j want hg;split at hc
     .rename_i t ht;simp only[ak] at hc;exact⟨af (t,want),hc.symm,.inr ⟨j,want,t,rfl,hg,ht⟩⟩
     .cases hc
   obtain⟨g,rfl,hg⟩:=hso;simp only[Ly] at hk;have hdst:∀ d,o.dst=af d->aN am d=ai:=λd hd=>by
    obtain⟨j,hj⟩:=hin o (dG ..);exact ham j o d hj hd
   have hgs:∀ t want,g=af (t,want)->aN am t=ai:=λt want hgt=>by
    rcases hg with ⟨h1,_⟩|⟨j,want',t',h1,_,I⟩
    .rw[h1] at hgt;cases hgt
    .rw[h1] at hgt;cases hgt;cases hj:ops[j]? with
     |none=>rw[hj] at I;cases I
     |some oj=>rw[hj] at I;exact ham j oj t hj I
   have kput:∀ (e:iU) (v:TV),gw am s.e e->gw am s.e (EB e o.dst v):=λe v hke k hk v' hv=>by
    cases hd:o.dst with
    |none=>rw[hd] at hv;exact hke k hk v' hv
    |some d=>
     rw[hd] at hv;simp only[EB,PT.get_set] at hv;split at hv
     .rename_i e2;rw[e2,hdst d hd] at hk;cases hk
     .exact hke k hk v' hv
   have done:∀ (f:BA) (v:TV) (h':bk) (nx' rd wr:Nat) (e:iU),fV e s.h=fV s.e s.h->tW e s.h->gw am s.e e->K2 P ops o f (fV s.e s.h) (bC s.h)->(∃ y,cj h' v=af y/\f.val=y)->eX (bC s.h) f.wr f.nw=bC h'->(∀ n∈f.rd,aN rd (ow n)=ai)->(∀ n∈f.wr,aN wr (ow n)=ai)->(∀ n∈f.N,s.nx<=ow n/\ow n<nx')->ci s.h h'->mi h' nx'->s.nx<=nx'->((yM P o.op).still=ai->f.rd=[]/\f.wr=[])->
    Ly con b8 sl' ⟨EB e o.dst v,h',nx'⟩ (⟨rd,wr⟩::fs) K=af r->∃ s' fs' l,K s' (fs.reverse++fs')=af r/\acx P ops (o::rest) (⟨o.dst,yM P o.op,g⟩::sl') am s s' fs' l:=by
    intro f v h' nx' rd wr e hee hiE hke hst hval hheap hrd hwr hN hrows hinv' hgr hstill hrun;obtain⟨y,U,hy2⟩:=hval;obtain⟨s',fs',l,J,L⟩:=IG hcon ham rest sl' _ _ K r (λo' ho'=>hin o' (cO _ ho')) hsl' hrun hinv' (hiE.put hrows o.dst (Fj _ _ _ U));have hg2:nx'<=s'.nx:=L.grows;refine ⟨s',⟨rd,wr⟩::fs',(o,f)::l,by simpa using J,by simp[L.ops_],.cons hst ?_,by simp[L.fsl],by simp[L.sll],?_,?_,?_,?_,dt hgr hg2,L.invH,L.invE,(kput e v hke).trans L.keeps⟩
    .have e1:CS (fV s.e s.h) o.dst f.val=fV (EB e o.dst v) h':=by rw[<- hee,hy2];exact aef hiE hrows o.dst U
     rw[e1,hheap];exact L.chain
    .intro j o' f' q' h1 h2;cases j with
     |zero=>simp at h1 h2;obtain⟨rfl,rfl⟩:=h1;subst h2;exact⟨hrd,hwr⟩
     |succ j=>exact L.fp j o' f' q' (by simpa using h1) (by simpa using h2)
    .intro j o' f' so h1 h2 I;cases j with
     |zero=>simp at h1 h2;obtain⟨rfl,rfl⟩:=h1;subst h2;exact hstill I
     |succ j=>exact L.still j o' f' so (by simpa using h1) (by simpa using h2) I
    .intro j o' f' h1 n hn;cases j with
     |zero=>
      simp at h1;obtain⟨rfl,rfl⟩:=h1;have:=hN n hn;exact⟨this.1,by omega⟩
     |succ j=>
      have:=L.names j o' f' (by simpa using h1) n hn;exact⟨dt hgr this.1,this.2⟩
    .intro i j oi fi oj fj hij h1 h2 n hn Y;cases j with
     |zero=>omega
     |succ j=>
      have hj:=L.names j oj fj (by simpa using h2) n Y;cases i with
      |zero=>
       simp at h1;obtain⟨rfl,rfl⟩:=h1;have I:=(hN n hn).2;have Z:nx'<=ow n:=hj.1;omega
      |succ i=>exact L.apart_ i j oi fi oj fj (by omega) (by simpa using h1) (by simpa using h2) n hn Y
   have runs:∀ (e:iU),fV e s.h=fV s.e s.h->tW e s.h->gw am s.e e->(∀ f,gR P o (fV s.e s.h) (bC s.h) f->K2 P ops o f (fV s.e s.h) (bC s.h))->d_ con b8 (yM P o.op) e s.h s.nx (λv rd wr h nx=>if LB h v then Ly con b8 sl' ⟨EB e o.dst v,h,nx⟩ (⟨rd,wr⟩::fs) K else ah)=af r->∃ s' fs' l,K s' (fs.reverse++fs')=af r/\acx P ops (o::rest) (⟨o.dst,yM P o.op,g⟩::sl') am s s' fs' l:=by
    intro e hee hiE hke hstep hk;obtain⟨v,rd,wr,h',nx',J,T⟩:=ail hcon hH hiE rfl hk;simp only[] at J;split at J
    .rename_i hok;obtain⟨f,t1,t2,t3,t4,t5,t6⟩:=T.ex;rw[hee] at t1;obtain⟨y,hy⟩:=qg h' v hok;refine done f v h' nx' rd wr e hee hiE hke (hstep f t1) ⟨y,hy,t2 y hy⟩ t3 t4 t5 t6 T.rows T.inv T.grows (λhs=>?_) J;obtain⟨r0,w0⟩:=T.st hs;subst r0;subst w0;constructor
     .cases hl:f.rd with
      |nil=>rfl
      |cons n q=>have:=t4 n (by rw[hl];simp);simp at this
     .cases hl:f.wr with
      |nil=>rfl
      |cons n q=>have:=t5 n (by rw[hl];simp);simp at this
    .cases J
   have skips:∀ (e:iU),fV e s.h=fV s.e s.h->tW e s.h->gw am s.e e->K2 P ops o rY (fV s.e s.h) (bC s.h)->Ly con b8 sl' ⟨EB e o.dst .undef,s.h,s.nx⟩ (⟨0,0⟩::fs) K=af r->∃ s' fs' l,K s' (fs.reverse++fs')=af r/\acx P ops (o::rest) (⟨o.dst,yM P o.op,g⟩::sl') am s s' fs' l:=by
    intro e hee hiE hke hstep hk;exact done rY .undef s.h s.nx 0 0 e hee hiE hke hstep ⟨_,rfl,rfl⟩ (by funext i;simp[eX,rY]) (by simp[rY]) (by simp[rY]) (by simp[rY]) (ci.refl _) hH (bT _) (λ_=>⟨rfl,rfl⟩) hk
   rcases TW hk with ⟨h1,hk⟩|⟨t,want,b,h1,hb,hk⟩|⟨t,want,h1,hb,hk⟩
   .refine runs s.e rfl M (gw.refl _ _) (λf hf=>?_) hk;rcases hg with ⟨_,hg⟩|⟨j,want,t,h2,_,_⟩
    .exact .run hg hf
    .rw[h1] at h2;cases h2
   .rcases hg with ⟨h2,_⟩|⟨j,want',t',h2,I,Z⟩
    .rw[h1] at h2;cases h2
    .rw[h1] at h2;cases h2;have hgt:=hgs t want h1;have heb:fV s.e s.h t=af (.f (.raw (.bool b))):=by simp only[fV,hb,aH,cj];rfl
     have hke:gw am s.e (s.e.set t (af (.f .bool b))):=λk hk v' hv=>by
      rw[PT.get_set] at hv;split at hv
      .rename_i ek;rw[ek,hgt] at hk;cases hk
      .exact⟨v',hv,λ_=>rfl⟩
     cases hbw:(b==want) with
     |true=>
      rw[hbw] at hk;have:b=want:=by simpa using hbw
      subst this;exact runs _ (Rz hb) (M.set hb) hke (λf hf=>.runG j t b I Z heb hf) hk
     |false=>
      rw[hbw] at hk;refine skips _ (Rz hb) (M.set hb) hke (.skip j t want I Z (.bool b) heb ?_ rfl) hk;intro hv;cases hv;simp at hbw
   .rcases hg with ⟨h2,_⟩|⟨j,want',t',h2,I,Z⟩
    .rw[h1] at h2;cases h2
    .rw[h1] at h2;cases h2;exact skips _ rfl M (gw.refl _ _) (.skip j t want I Z undef (by simp only[fV,hb,aH,cj]) (by unfold undef;simp) rfl) hk
  .cases hc
theorem aep {P:Program} {ops:Array Oper} {sl:List sP} {am:Nat} {s s':TS} {fs:List FPm} {l:List (Oper×BA)} {prs:List (Nat×Nat)} (hl:acx P ops ops.toList sl am s s' fs l) (hp:MH ops sl=af prs) (hok:F1 fs prs=ai):NIP ops l:=by
 unfold MH at hp;simp only[] at hp;split at hp
 .rename_i hall;simp only[gu,nD,av] at hall;simp only[ak] at hp;have hop:∀ (j:Nat) o f,l[j]? =af (o,f)->ops[j]? =af o:=λj o f hj=>by
   have h1:(l.map (·.1))[j]? =af o:=by rw[a8,hj];rfl
   rw[hl.ops_] at h1;simpa using h1
  have hsize:∀ (j:Nat) o,ops[j]? =af o->j<ops.size:=λj o h=>(cF.1 h).1
  have hprs:∀ i j,(i,j)∈prs->∃ a b,fs[i]? =af a/\fs[j]? =af b/\DS a.wr b.rd=ai/\DS a.wr b.wr=ai/\DS b.wr a.rd=ai:=by
   clear hp hall;induction prs with
   |nil=>intro i j h;cases h
   |cons p prs ih=>
    obtain⟨i0,j0⟩:=p;simp only[F1,av,W6] at hok;intro i j hm;rcases bl.1 hm with h|h
    .cases h;have h1:=hok.1;split at h1
     .rename_i a b Z hb;simp only[av] at h1;exact⟨a,b,Z,hb,h1.1.1,h1.1.2,h1.2⟩
     .cases h1
    .exact ih hok.2 i j h
  refine ⟨λj o ho e he hb=>?_,λi j oi fi oj fj hij hi hj=>?_,hl.apart_⟩
  .have:=(hall j (hsize j o ho)).1;rw[ho] at this;simp only[Option.all_some,gu] at this;have:=this e (by simpa using he);simp[hb] at this;exact this
  .have h1:=hop i oi fi hi;have h2:=hop j oj fj hj;have hcase:=(hall j (hsize j oj h2)).2 i hij;rw[h1,h2] at hcase;simp only[ja] at hcase;by_cases M:aN ((KN ops.toList []).getD j 0) i=ai
   .left;rw[ax] at M;cases I:(KN ops.toList [])[j]? with
    |none=>rw[I] at M;simp at M
    |some B=>
     rw[I] at M;exact Nv (ops:=ops) ops.toList [] (λj o hj=>by simpa using hj) (λj B hj=>by simp at hj) j B I i (by simpa using M)
   .right;have hap:=hcase.resolve_left M;refine ⟨hap,?_⟩;have hil:i<l.length:=(bg.1 hi).1;have hjl:j<l.length:=(bg.1 hj).1;have hsi:=aB (show i<sl.length by rw[hl.sll];exact hil);have hsj:=aB (show j<sl.length by rw[hl.sll];exact hjl);by_cases hst:(sl[i]'(by rw[hl.sll];exact hil)).op.still=ai
    .obtain⟨Y,U⟩:=hl.still i oi fi _ hi hsi hst;rw[Y,U];exact⟨(λx I=>by cases I),(λx _ I=>by cases I)⟩
    .by_cases hst2:(sl[j]'(by rw[hl.sll];exact hjl)).op.still=ai
     .obtain⟨Y,U⟩:=hl.still j oj fj _ hj hsj hst2;rw[Y,U];exact⟨(λx I=>⟨(by simp),(by simp)⟩),(λx I=>by cases I)⟩
     .have hmem:(i,j)∈prs:=by
       rw[<- hp,vh];refine ⟨j,nD.2 (hsize j oj h2),?_⟩;rw[List.mem_filterMap];refine ⟨i,nD.2 hij,?_⟩;rw[aA];rw[hsi,hsj];simp only[ja,not_or];exact⟨M,hst,hst2⟩
      obtain⟨a,b,Z,hb,d1,d2,d3⟩:=hprs i j hmem;obtain⟨f1,f2⟩:=hl.fp i oi fi a hi Z;obtain⟨g1,g2⟩:=hl.fp j oj fj b hj hb;refine ⟨λx I=>⟨λJ=>?_,λJ=>?_⟩,λx I J=>?_⟩
      .have:=ya d1 (ow x) (f2 x I);rw[g1 x J] at this;cases this
      .have:=ya d2 (ow x) (f2 x I);rw[g2 x J] at this;cases this
      .have:=ya d3 (ow x) (g2 x I);rw[f1 x J] at this;cases this
 .cases hp
structure oW (P:Program) (E:Nat->Prop) (nt np:Nat) (φ:PM) (s:TS) (a:Act) (w:World):Prop where
 rep:re φ E (bC s.h) w
 env:ND φ (tot E φ (bC s.h)) w (fV s.e s.h) a
 dom:∀ n k,φ n=af k->ow n<s.nx
 low:np<=s.nx
 invH:mi s.h s.nx
 invE:tW s.e s.h
 inert:∀ d∈a.defers,adh P d
 size:a.tmps.size=nt
structure Cv (np:Nat) (φ φ':PM) (H H':HF) (w w':World):Prop where
 ext:Lf (own φ H) w w'
 own_:∀ k,k<w.heap.size->own φ' H' k->own φ H k
 par:∀ i,i<np->φ' (nm i)=φ (nm i)
theorem Cv.refl (np:Nat) (φ:PM) (H:HF) (w:World):Cv np φ φ H H w w:=⟨Lf.refl _ _,λ_ _ h=>h,λ_ _=>rfl⟩
theorem Cv.trans {np:Nat} {φ φ' φ'':PM} {H H' H'':HF} {w w' w'':World} (a:Cv np φ φ' H H' w w') (b:Cv np φ' φ'' H' H'' w' w''):Cv np φ φ'' H H'' w w'' where
 ext:=⟨b.ext.os.trans a.ext.os,b.ext.tape.trans a.ext.tape,b.ext.output.trans a.ext.output,dt a.ext.size b.ext.size,
  λk hk I=>(b.ext.blk k (dE hk a.ext.size) (λh=>I (a.own_ k hk h))).trans (a.ext.blk k hk I),
  λk hk=>(b.ext.shp k (dE hk a.ext.size)).trans (a.ext.shp k hk)⟩
 own_:=λk hk h=>a.own_ k hk (b.own_ k (dE hk a.ext.size) h)
 par:=λi hi=>(b.par i hi).trans (a.par i hi)
theorem aa3 {R:Type} {P:Program} {E:Nat->Prop} {nt np:Nat} {φ:PM} {s:TS} {a:Act} {w:World} {con:FuncId->Option cr} {b8:TypeId->Option Ty} (hm:P.follows .mixedOrders=ai) (hcon:Li P con) (c:oW P E nt np φ s a w) {id:Nat} {ops:Array Oper} {draw:Bool} {sl:List sP} {prs:List (Nat×Nat)} {am:Nat} (ham:∀ (j:Nat) (o:Oper) (d:Nat),ops[j]? =af o->o.dst=af d->aN am d=ai)
 (hd:(ops.toList.all λo=>match o.dst with|some d=>decide (d<nt)|none=>ai)=ai) (hc:sg P ops ops.toList=af sl) (hp:MH ops sl=af prs) {K:TS->Option R} {r:R} (hr:Ly con b8 sl s [] (λs' fs=>if F1 fs prs then K s' else ah)=af r) {Q:Exit->Act->World->Prop}
 (hQ:∀ a' w' s' φ',K s'=af r->oW P E nt np φ' s' a' w'->Cv np φ φ' (bC s.h) (bC s'.h) w w'->gw am s.e s'.e->Q .normal a' w'):(Code.region id ops draw).wp P Q a w:=by
 obtain⟨s',fs',l,J,L⟩:=IG hcon ham ops.toList sl s [] _ r (λo U=>by
  obtain⟨j,hj⟩:=eD U;exact⟨j,by simpa using hj⟩) hc hr c.invH c.invE
 have J:(if F1 fs' prs then K s' else ah)=af r:=J;by_cases hok:F1 fs' prs=ai
 .rw[aE hok] at J;refine Qr (φ0:=φ) (E:=E) hm L.ops_ L.chain (aep L hp hok) ?_ ?_ c.rep c.env ?_
  .intro n hn;obtain⟨p,I,hn⟩:=vh.1 hn;obtain⟨j,hj⟩:=eD I;have:=L.names j p.1 p.2 hj n hn;cases M:φ n with
   |none=>rfl
   |some k=>have:=c.dom n k M;omega
  .intro j o U d Y;have:=gu.1 hd o (by have:=Array.mem_of_getElem? U;simpa using this);rw[Y] at this;rw[c.size];simpa using this
  .rintro a' w' ⟨φ',m',d',Z,en',df',sz'⟩;have hnm:∀ n k,φ' n=af k->φ n=af k\/(s.nx<=ow n/\ow n<s'.nx):=λn k hik=>by
    rcases d' n k hik with h|h
    .exact .inl h
    .obtain⟨p,I,hn⟩:=vh.1 h;obtain⟨j,hj⟩:=eD I;exact .inr (L.names j p.1 p.2 hj n hn)
   have hg:=L.grows;have hlow:=c.low;refine hQ a' w' s' φ' J ⟨Z,en',λn k hik=>?_,by omega,L.invH,L.invE,by rw[df'];exact c.inert,by rw[sz'];exact c.size⟩ ⟨m'.ext,m'.own_,λi hi=>?_⟩ L.keeps
   .rcases hnm n k hik with h|h
    .have:=c.dom n k h;omega
    .exact h.2
   .cases M:φ (nm i) with
    |some k=>exact m'.sub _ _ M
    |none=>
     cases hy:φ' (nm i) with
     |none=>rfl
     |some k=>
      rcases hnm (nm i) k hy with h|h
      .rw[M] at h;cases h
      .rw[eo] at h;omega
 .rw[aA hok] at J;cases J
theorem Ab:∀ (l:List sP) (acc:Nat),PC l acc=acc|||PC l 0
 |[],acc=>by simp[PC]
 |o::r,acc=>by
  simp only[PC];cases o.dst with
  |none=>exact Ab r acc
  |some d=>simp only[];rw[Ab r (acc|||kV d),Ab r (0|||kV d),yO,kM]
theorem Ar:∀ (l:List Nat) (acc:Nat),LF l acc=acc|||LF l 0
 |[],acc=>by simp[LF]
 |k::r,acc=>by simp only[LF];rw[Ar r (acc|||kV k),Ar r (0|||kV k),yO,kM]
theorem mg:∀ (l:List Adj) (acc:Nat),oF l acc=acc|||oF l 0
 |[],acc=>by simp[oF]
 |.nil k _ _::r,acc=>by simp only[oF];rw[mg r (acc|||kV k),mg r (0|||kV k),yO,kM]
 |.cel _ _ _ _::r,acc=>by simp only[oF];exact mg r acc
 |.mpt _ _ _::r,acc=>by simp only[oF];exact mg r acc
 |.ren k _::r,acc=>by simp only[oF];rw[mg r (acc|||kV k),mg r (0|||kV k),yO,kM]
 |.pk _ _ _::r,acc=>by simp only[oF];exact mg r acc
theorem iK:∀ (c:TC) (acc:Nat),c.asg acc=acc|||c.asg 0
 |.reg ops _,acc=>Ab ops acc
 |.seq a b,acc=>by simp only[TC.asg];rw[iK b (a.asg acc),iK b (a.asg 0),iK a acc,kM]
 |.jseq A a b,acc=>by simp only[TC.asg];rw[iK b (a.asg _),iK b (a.asg (LF A.ks 0)),iK a (LF A.ks acc),iK a (LF A.ks 0),Ar A.ks acc,kM,kM,kM]
 |.cond _ a b,acc=>by simp only[TC.asg];rw[iK b (a.asg acc),iK b (a.asg 0),iK a acc,kM]
 |.block _ b,acc=>iK b acc
 |.jblock A _ b,acc=>by simp only[TC.asg];rw[iK b (LF A.ks acc),iK b (LF A.ks 0),Ar A.ks acc,kM]
 |.loop A b,acc=>by simp only[TC.asg];rw[iK b (LF A.ks acc),iK b (LF A.ks 0),Ar A.ks acc,kM]
 |.defer _ _ t,acc=>by simp[TC.asg]
 |.adj l c,acc=>by simp only[TC.asg];rw[iK c (oF l acc),iK c (oF l 0),mg l acc,kM]
 |.split _ _ _ _ c,acc=>iK c acc
 |.unl _ b,acc=>iK b acc
 |.skip,acc=>by simp[TC.asg]
 |.exit _,acc=>by simp[TC.asg]
 |.ret,acc=>by simp[TC.asg]
 |.bad,acc=>by simp[TC.asg]
theorem vK {c:TC} {acc k:Nat} (h:aN (c.asg 0) k=ai):aN (c.asg acc) k=ai:=by rw[iK,bu,h];simp
theorem kx {c:TC} {acc k:Nat} (h:aN acc k=ai):aN (c.asg acc) k=ai:=by rw[iK,bu,h];rfl
theorem WO:∀ {l:List Nat} {acc k:Nat},k∈l->aN (LF l acc) k=ai
 |[],_,_,h=>by cases h
 |x::r,acc,k,h=>by
  simp only[LF];rcases bl.1 h with rfl|h
  .rw[Ar,bu,bu,bZ.2 rfl];simp
  .exact WO h
theorem SU:∀ {l:List sP} {acc:Nat} {o:sP} {d:Nat},o∈l->o.dst=af d->aN (PC l acc) d=ai
 |[],_,_,_,h,_=>by cases h
 |x::r,acc,o,d,h,hd=>by
  simp only[PC];rcases bl.1 h with rfl|h
  .rw[hd];simp only[];rw[Ab,bu,bu,bZ.2 rfl];simp
  .exact SU h hd
theorem W2:∀ {e:iU} {ks:List Nat} {vs:List TV},od e ks=af vs->vs.length=ks.length/\∀ (j k:Nat),ks[j]? =af k->∃ v,vs[j]? =af v/\e.get k=af v
 |e,[],vs,h=>by simp only[od,ak] at h;subst h;exact⟨rfl,by simp⟩
 |e,k::r,vs,h=>by
  simp only[od] at h;split at h
  .rename_i v hv;split at h
   .rename_i l hl;simp only[ak] at h;subst h;obtain⟨h1,h2⟩:=W2 hl;refine ⟨by simp[h1],λj k' hj=>?_⟩;cases j with
    |zero=>simp at hj;subst hj;exact⟨v,rfl,hv⟩
    |succ j=>simpa using h2 j k' (by simpa using hj)
   .cases h
  .cases h
theorem IJ {e:iU} {h:bk} (hi:tW e h):∀ {ks:List Nat} {vs:List TV},od e ks=af vs->kX h vs=ai
 |[],vs,hg=>by simp only[od,ak] at hg;subst hg;rfl
 |k::r,vs,hg=>by
  simp only[od] at hg;split at hg
  .rename_i v hv;split at hg
   .rename_i l hl;simp only[ak] at hg;subst hg;simp only[kX,av];exact⟨hi k v hv,IJ hi hl⟩
   .cases hg
  .cases hg
theorem CG:∀ {e:iU} {ks:List Nat} {vs:List TV},vs.length=ks.length->∀ t v,(XX e ks vs).get t=af v->(∃ j:Nat,ks[j]? =af t/\vs[j]? =af v)\/(t∉ks/\e.get t=af v)
 |e,[],[],_,t,v,h=>.inr ⟨by simp,h⟩
 |e,[],_::_,hl,t,v,h=>by simp at hl
 |e,_::_,[],hl,t,v,h=>by simp at hl
 |e,k::r,u::l,hl,t,v,h=>by
  simp only[XX,PT.get_set] at h;split at h
  .rename_i I;subst I;cases h;exact .inl ⟨0,rfl,rfl⟩
  .rename_i I;rcases CG (by simpa using hl) t v h with ⟨j,h1,h2⟩|⟨h1,h2⟩
   .exact .inl ⟨j+1,by simpa using h1,by simpa using h2⟩
   .exact .inr ⟨by simp[I,h1],h2⟩
theorem t_ {am:Nat} {e:iU}:∀ {ks:List Nat} {k:Nat} {v:TV},(C' am e ks).get k=af v->k∈ks/\e.get k=af v/\uy v=ai/\aN am k=aj
 |[],k,v,h=>by simp[C',PT.get] at h
 |x::r,k,v,h=>by
  simp only[C'] at h;split at h
  .rename_i u hu;split at h
   .rename_i hc;simp only[av,dC] at hc;rw[PT.get_set] at h;split at h
    .rename_i I;subst I;cases h;exact⟨by simp,hu,hc.1,hc.2⟩
    .obtain⟨h1,h2⟩:=t_ h;exact⟨by simp[h1],h2⟩
   .obtain⟨h1,h2⟩:=t_ h;exact⟨by simp[h1],h2⟩
  .obtain⟨h1,h2⟩:=t_ h;exact⟨by simp[h1],h2⟩
theorem I6 {am:Nat} {e0 e:iU}:∀ {ks:List Nat},H6 am e0 e ks=ai->∀ k v,k∈ks->e0.get k=af v->uy v=ai->aN am k=aj->∃ J,e.get k=af J
 |[],_,k,v,h,_,_,_=>by cases h
 |x::r,hc,k,v,h,hv,hf,I=>by
  simp only[H6,av] at hc;rcases bl.1 h with rfl|h
  .have h1:=hc.1;rw[hv] at h1;simp only[hf,I,Bool.not_true,Bool.false_or] at h1;cases M:e.get k with
   |none=>rw[M] at h1;cases h1
   |some u=>exact⟨u,rfl⟩
  .exact I6 hc.2 k v h hv hf I
section walk
variable {P:Program} {E:Nat->Prop} {nt np:Nat}
theorem Rx {h:bk} {v:TV} {y:AV} (hn:aex v=ai) (I:cj h v=af y):Le y .emp:=by
 cases v with
 |nil=>simp only[cj,ak] at I;subst I;exact Le.nilEmp
 |emp=>simp only[cj,ak] at I;subst I;exact Le.refl _
 |_=>cases hn
theorem XE {φ:PM} {s:TS} {a:Act} {w:World} (c:oW P E nt np φ s a w) (ty:TypeId) (T:Ty):oW P E nt np φ ⟨s.e,s.h.set s.nx (af (.rows ty ai T [])),s.nx+1⟩ a w/\bC (s.h.set s.nx (af (.rows ty ai T [])))=bC s.h/\ci s.h (s.h.set s.nx (af (.rows ty ai T []))):=by
 have hfr:=c.invH.fresh;have hr:ci s.h (s.h.set s.nx (af (.rows ty ai T []))):=ci.set λr hr=>by rw[bV,hfr] at hr;cases hr
 have J:bC (s.h.set s.nx (af (.rows ty ai T [])))=bC s.h:=by
  funext n;by_cases hn:n=nm s.nx
  .subst hn;rw[bM,bM,PT.get_set,aE rfl,hfr];rfl
  .refine kU c.invH hr λi e=>?_
   subst e;rw[PT.get_set,aA (λe=>hn (by rw[e]))]
 refine ⟨⟨by rw[J];exact c.rep,?_,λn k hk=>Ai (c.dom n k hk),iG c.low,c.invH.set hr (qR _) (Nat.le_succ _) (λ_ _ he=>by cases he),?_,c.inert,c.size⟩,J,hr⟩
 .intro t x I;rw[J];simp only[fV] at I;cases he:s.e.get t with
  |none=>rw[he] at I;cases I
  |some q=>
   rw[he] at I;obtain⟨z,M⟩:=qg s.h q (c.invE t q he);simp only[aH,gE hr q z M,ak] at I;subst I;exact c.env t _ (by simp only[fV,he,aH,M])
 .intro t x I;exact oK hr x (c.invE t x I)
theorem zg {h:bk}:∀ {a b:List TV},kX h a=ai->kX h b=ai->kX h (a++b)=ai
 |[],_,_,hb=>hb
 |x::r,b,I,hb=>by
  simp only[kX,av] at I;simp only[gr,kX,av];exact⟨I.1,zg I.2 hb⟩
theorem MI {h:bk}:∀ {a:List TV} (n:Nat),kX h a=ai->kX h (a.take n)=ai
 |[],n,_=>by simp[kX]
 |x::r,0,_=>rfl
 |x::r,n+1,I=>by
  simp only[kX,av] at I;simp only[wj,kX,av];exact⟨I.1,MI n I.2⟩
theorem MJ {h:bk}:∀ {a:List TV} (n:Nat),kX h a=ai->kX h (a.drop n)=ai
 |[],n,_=>by simp[kX]
 |x::r,0,I=>I
 |x::r,n+1,I=>by
  simp only[kX,av] at I;simp only[wn];exact MJ n I.2
theorem yZ {α:Type} {l:List α} {j:Nat} {x:α} (h:l[j]? =af x):splice l j [x]=l:=by
 have hl:j<l.length:=by
  rcases b9 j l.length with h'|h'
  .exact h'
  .rw[bR h'] at h;cases h
 rw[aB hl,ak] at h;unfold splice;subst h;simp
theorem acp {φ:PM} {s:TS} {a:Act} {w:World} (c:oW P E nt np φ s a w) {id cty j:Nat} {l:List TV} {v u:TV} (hb:s.h.get id=af (.cells cty l)) (hv:l[j]? =af v) (hn:aex v=ai) (hu:cj s.h u=af .emp) (huo:LB s.h u=ai):
 oW P E nt np φ ⟨s.e,s.h.set id (af (.cells cty (splice l j [u]))),s.nx⟩ a w/\Cv np φ φ (bC s.h) (bC (s.h.set id (af (.cells cty (splice l j [u]))))) w w:=by
 have hr:ci s.h (s.h.set id (af (.cells cty (splice l j [u])))):=ci.set λr hr=>by rw[bV,hb] at hr;cases hr
 have hlo:=c.invH.cells id cty l hb;obtain⟨J,M⟩:=fA s.h l hlo;have hsp:cL s.h (splice l j [u])=af (splice J j [.emp]):=sI j M (by simp only[cL,hu]);have hsp':cL (s.h.set id (af (.cells cty (splice l j [u])))) (splice l j [u])=af (splice J j [.emp]):=h_ hr _ _ hsp;obtain⟨y,hy,hey⟩:=me M j v hv;have hold:bC s.h (nm id)=af ⟨cty,.mx J⟩:=by rw[bM,hb];simp only[aH,kH,M]
 have hnew:bC (s.h.set id (af (.cells cty (splice l j [u])))) (nm id)=af ⟨cty,.mx (splice J j [.emp])⟩:=by
  rw[bM,PT.get_set,aE rfl];simp only[aH,kH,hsp']
 have hoth:∀ n,n≠nm id->bC (s.h.set id (af (.cells cty (splice l j [u])))) n=bC s.h n:=λn Y=>by
  refine kU c.invH hr λi e=>?_
  subst e;rw[PT.get_set,aA (λe=>Y (by rw[e]))]
 have hdom:vM (bC s.h) (bC (s.h.set id (af (.cells cty (splice l j [u]))))):=λn b U=>by
  by_cases e:n=nm id
  .subst e;exact⟨_,hold⟩
  .rw[hoth n e] at U;exact⟨b,U⟩
 have hcell:∀ x∈J,x.isCell=ai:=λx I=>by
  obtain⟨k,hk⟩:=eD I;obtain⟨q,_,_,hat⟩:=c.rep.at_ _ _ hold;unfold XQ at hat;obtain⟨ob,_,hob⟩:=hat;rw[pK rfl] at hob;obtain⟨arr,_,hca⟩:=hob;exact (hca.2 k x hk).1
 have hV:K0 (bC s.h) (bC (s.h.set id (af (.cells cty (splice l j [u]))))):=⟨hdom,λn b b' h1 h2=>by
  by_cases e:n=nm id
  .subst e;rw[hold] at h1;cases h1;rw[hnew] at h2;cases h2;refine kf.cells rfl rfl ?_ λx I=>?_
   .show ip _ _ J (splice J j [.emp]);have:=ip.splice j (ip.refl hdom J) (b:=[y]) (b':=[.emp]) ⟨(Rx hn hey).toH hdom,trivial⟩;rw[yZ hy] at this;exact this
   .have I:x∈splice J j [.emp]:=I;unfold splice at I;rw[bQ,bQ,aL] at I;rcases I with (I|I)|I
    .exact hcell x (hP I)
    .subst I;rfl
    .exact hcell x (List.mem_of_mem_drop I)
  .rw[hoth n e,h1] at h2;cases h2;exact kf.refl hdom b⟩
 refine ⟨⟨hV.rep c.rep,?_,c.dom,c.low,c.invH.set hr (c.invH.low id _ hb) (bT _) (λty l2 he=>?_),?_,c.inert,c.size⟩,⟨Lf.refl _ _,λk _ ho=>hdom.own ho,λ_ _=>rfl⟩⟩
 .intro t x I;simp only[fV] at I;cases he:s.e.get t with
  |none=>rw[he] at I;cases I
  |some q=>
   rw[he] at I;obtain⟨z,Z⟩:=qg s.h q (c.invE t q he);simp only[aH,gE hr q z Z,ak] at I;subst I;exact (c.env t _ (by simp only[fV,he,aH,Z])).dom hdom
 .simp only[iD.cells.injEq] at he;obtain⟨_,rfl⟩:=he;refine jb hr _ ?_;unfold splice;exact zg (zg (MI _ hlo) (by simp only[kX,huo,iS])) (MJ _ hlo)
 .intro t x I;exact oK hr x (c.invE t x I)
theorem oW.congr {φ:PM} {s s':TS} {a:Act} {w:World} (c:oW P E nt np φ s a w) (he:∀ t,s'.e.get t=s.e.get t) (hh:∀ i,s'.h.get i=s.h.get i) (hn:s'.nx=s.nx):oW P E nt np φ s' a w/\bC s'.h=bC s.h:=by
 have hr:ci s.h s'.h:=λi r hi=>by rw[bV] at hi ⊢;rw[hh];exact hi
 have J:bC s'.h=bC s.h:=by funext n;exact kU c.invH hr λi _=>hh i
 refine ⟨⟨by rw[J];exact c.rep,?_,by rw[hn];exact c.dom,by rw[hn];exact c.low,⟨λi ty l hg=>?_,λi b hg=>?_⟩,λt v hv=>?_,c.inert,c.size⟩,J⟩
 .intro t x I;rw[J];simp only[fV,he] at I;cases hg:s.e.get t with
  |none=>rw[hg] at I;cases I
  |some v=>
   rw[hg] at I;obtain⟨z,M⟩:=qg s.h v (c.invE t v hg);simp only[aH,gE hr v z M,ak] at I;subst I;exact c.env t _ (by simp only[fV,hg,aH,M])
 .rw[hh] at hg;exact jb hr l (c.invH.cells i ty l hg)
 .rw[hh] at hg;rw[hn];exact c.invH.low i b hg
 .rw[he] at hv;exact oK hr v (c.invE t v hv)
theorem Qh {R:Type} {v:Int} {f:Nat->Option R} {r:R}:∀ {m i:Nat},spl v f i m=af r->∃ j,v=aQ j/\f j=af r
 |0,i,h=>by cases h
 |m+1,i,h=>by
  simp only[spl] at h;rcases pH h with ⟨h1,h2⟩|⟨_,h2⟩
  .exact⟨i,bf h1,h2⟩
  .exact Qh h2
theorem Z' {φ:PM} {s s':TS} {a:Act} {w:World} (c:oW P E nt np φ s a w) {k off:Nat} {kd:IntKind} {v:Int} (h1:ab1 s k off=af (kd,v)) (h2:T9 s k off kd v=af s'):oW P E nt np φ s' a w/\bC s'.h=bC s.h/\∀ t,s'.e.get t=s.e.get t:=by
 unfold ab1 at h1;unfold T9 at h2;cases hk:s.e.get k with
 |none=>rw[hk] at h1;cases h1
 |some x=>
  rw[hk] at h1 h2;cases x with
  |f T q=>
   cases T with
   |int kd'=>
    simp only[ak,aD] at h1;obtain⟨rfl,rfl⟩:=h1;simp only[ak] at h2;subst h2;have he:∀ t,(s.e.set k (af (.f (.int kd') q))).get t=s.e.get t:=λt=>by
     rw[PT.get_set];split
     .rename_i e;subst e;exact hk.symm
     .rfl
    obtain⟨J,I⟩:=c.congr (s':=⟨s.e.set k (af (.f (.int kd') q)),s.h,s.nx⟩) he (λ_=>rfl) rfl;exact⟨J,I,he⟩
   |_=>cases h1
  |ptr a0 o0=>
   simp only[] at h1 h2;cases hb:s.h.get a0 with
   |none=>rw[hb] at h1;cases h1
   |some b=>
    rw[hb] at h1 h2;cases b with
    |cells ty l=>
     simp only[] at h1 h2;cases hl:l[o0+off]? with
     |none=>rw[hl] at h1;cases h1
     |some y=>
      rw[hl] at h1;cases y with
      |f T q=>
       cases T with
       |int kd'=>
        simp only[ak,aD] at h1;obtain⟨rfl,rfl⟩:=h1;simp only[ak] at h2;subst h2;have hh:∀ i,(s.h.set a0 (af (.cells ty (splice l (o0+off) [.f (.int kd') q])))).get i=s.h.get i:=λi=>by
         rw[PT.get_set];split
         .rename_i e;subst e;rw[hb,yZ hl]
         .rfl
        obtain⟨J,I⟩:=c.congr (s':=⟨s.e,s.h.set a0 (af (.cells ty (splice l (o0+off) [.f (.int kd') q]))),s.nx⟩) (λ_=>rfl) hh rfl;exact⟨J,I,λ_=>rfl⟩
       |_=>cases h1
      |_=>cases h1
    |_=>cases h1
  |_=>cases h1
mutual
theorem My (id sz n:Nat):∀ v:TV,uy v=ai->Lt id sz n v=v
 |.f _ _,_=>rfl
 |.fel _ _ _ _ _,_=>rfl
 |.emp,_=>rfl
 |.nil,_=>rfl
 |.undef,_=>rfl
 |.np,_=>rfl
 |.anyb,_=>rfl
 |.agg l,h=>by simp only[Lt];rw[BI id sz n l h]
 |.tup l,h=>by simp only[Lt];rw[BI id sz n l h]
 |.pel _ _ _ _,h=>by cases h
 |.ptr _ _,h=>by cases h
 |.csl _ _ _,h=>by cases h
 |.row _,h=>by cases h
 |.rtl _ _,h=>by cases h
 |.mp _,h=>by cases h
 |.clo _ _,h=>by cases h
theorem BI (id sz n:Nat):∀ l:List TV,qA l=ai->CD id sz n l=l
 |[],_=>rfl
 |x::r,h=>by
  simp only[qA,av] at h;simp only[CD];rw[My id sz n x h.1,BI id sz n r h.2]
end
section subs
variable {id sz n:Nat} {h h':bk}
mutual
theorem N2 (hr:ci h h') (hid:eJ h' id=af (aj,sz,n)):∀ (v:TV) (y:AV),cj h v=af y->cj h' (Lt id sz n v)=af y
 |.csl i s m,y,he=>by
  simp only[cj,ak] at he;subst he;simp only[Lt];split
  .rename_i hq;simp only[av] at hq;have e1:=aw hq.1.1;have e2:=aw hq.1.2;have e3:=aw hq.2;subst e1;subst e2;subst e3;simp only[cj,hid,fB,nF,cz,ep]
  .rfl
 |.agg l,y,he=>by
  simp only[cj] at he;cases hl:cL h l with
  |none=>rw[hl] at he;cases he
  |some l'=>rw[hl] at he;simp only[Lt,cj,wy hr hid l l' hl];exact he
 |.tup l,y,he=>by
  simp only[cj] at he;cases hl:cL h l with
  |none=>rw[hl] at he;cases he
  |some l'=>rw[hl] at he;simp only[Lt,cj,wy hr hid l l' hl];exact he
 |.clo g l,y,he=>by
  simp only[cj] at he;cases hl:cL h l with
  |none=>rw[hl] at he;cases he
  |some l'=>rw[hl] at he;simp only[Lt,cj,wy hr hid l l' hl];exact he
 |.f T v,y,he=>gE hr _ _ he
 |.fel T xs j hj off,y,he=>gE hr _ _ he
 |.pel _ _ _ _,y,he=>gE hr _ _ he
 |.ptr _ _,y,he=>gE hr _ _ he
 |.row _,y,he=>gE hr _ _ he
 |.rtl _ _,y,he=>gE hr _ _ he
 |.emp,y,he=>gE hr _ _ he
 |.nil,y,he=>gE hr _ _ he
 |.mp _,y,he=>gE hr _ _ he
 |.undef,y,he=>gE hr _ _ he
 |.np,y,he=>gE hr _ _ he
 |.anyb,y,he=>gE hr _ _ he
theorem wy (hr:ci h h') (hid:eJ h' id=af (aj,sz,n)):∀ (l:List TV) (l':List AV),cL h l=af l'->cL h' (CD id sz n l)=af l'
 |[],l',he=>by simp only[cL,ak] at he;subst he;rfl
 |x::r,l',he=>by
  obtain⟨y,l2,rfl,h1,h2⟩:=cY he;simp only[CD];exact pe (N2 hr hid x y h1) (wy hr hid r l2 h2)
end
end subs
theorem am6 {φ:PM} {s:TS} {a:Act} {w:World} (c:oW P E nt np φ s a w) {T:Ty} {id sz n:Nat} {s':TS} (hp:pkS s T id sz n=af s'):oW P E nt np φ s' a w/\Cv np φ φ (bC s.h) (bC s'.h) w w/\gw 0 s.e s'.e:=by
 unfold pkS at hp;split at hp
 .rename_i ty l hb;split at hp
  .rename_i hs;have hs:=aw hs;subst hs;split at hp
   .rename_i xs m hpk;split at hp
    .cases hp
    .rename_i hmid;simp only[ak] at hp;subst hp;have hm:dX s.h m:=Oc n l xs m hpk;obtain⟨l',hl⟩:=fA s.h l (c.invH.cells id ty l hb);have hidlt:=c.invH.low id _ hb;have od:∀ i,((PT.updI (λ_ b=>XV id T.size n b) 1 0 (eK m s.h)).set id (af (.rows ty aj T xs))).get i=if i=id then af (.rows ty aj T xs) else if aN m i then (s.h.get i).map vw else (s.h.get i).map (XV id T.size n):=λi=>by
      rw[PT.get_set];by_cases e:i=id
      .rw[aE e,aE e]
      .rw[aA e,aA e,PT.get_updI,jg];split
       .cases hg:s.h.get i with
        |none=>rfl
        |some b=>cases b<;>rfl
       .rfl
     generalize hH2:((PT.updI (λ_ b=>XV id T.size n b) 1 0 (eK m s.h)).set id (af (.rows ty aj T xs)))=h2 at od ⊢;have hr:ci s.h h2:=λi r hi=>by
      rw[bV] at hi ⊢;rw[od];by_cases e:i=id
      .subst e;rw[hb] at hi;cases hi
      .rw[aA e];cases hg:s.h.get i with
       |none=>rw[hg] at hi;cases hi
       |some b=>
        rw[hg] at hi;split
        .exact MC hi
        .cases b<;>first|exact hi|cases hi
     have hnone:∀ i,aN m i=ai->bC h2 (nm i)=ah:=λi hi=>by
      have e:i≠id:=λe=>by subst e;exact hmid hi
      obtain⟨ty',p',T',xs',J⟩:=hm i hi;rw[bM,od,aA e,aE hi,J];rfl
     have hdom:vM (bC s.h) (bC h2):=λq b hq=>by
      obtain⟨i,cc,rfl,I,h4⟩:=jF hq;rw[bM];rw[od] at I;by_cases e:i=id
      .subst e;rw[hb];simp only[aH,kH,hl];exact⟨_,rfl⟩
      .rw[aA e] at I;cases hg:s.h.get i with
       |none=>rw[hg] at I;split at I<;>cases I
       |some b0=>
        rw[hg] at I;split at I
        .simp only[b_,ak] at I;subst I;cases b0<;>simp[vw,kH] at h4
        .simp only[b_,ak] at I;subst I;simp only[aH];cases b0 with
         |cells ty0 l0=>
          obtain⟨l0',U⟩:=fA s.h l0 (c.invH.cells i ty0 l0 hg);exact⟨⟨ty0,.mx l0'⟩,by simp only[kH,U]⟩
         |rows=>exact⟨_,h4⟩
         |dead=>exact⟨_,h4⟩
         |mp=>exact⟨_,h4⟩
     have giv:Ep s.h (bC s.h) (bC h2) m:=λi hi=>⟨rfl,hnone i hi⟩
     obtain⟨hle,hlen⟩:=CW hdom n l xs m l' hpk hl giv;have hrow:eJ h2 id=af (aj,T.size,n):=by rw[bV,od,aE rfl,<-hlen];rfl
     have hV:K0 (bC s.h) (bC h2):=⟨hdom,λq b b' I h4=>by
      obtain⟨i,cc,rfl,Z,h6⟩:=jF h4;rw[bM] at I;rw[od] at Z;by_cases e:i=id
      .subst e;rw[aE rfl] at Z;cases Z;rw[hb] at I;simp only[aH,kH,hl,ak] at I;subst I;simp only[kH,nF,cz,ep,ak] at h6;subst h6;refine kf.cells rfl rfl hle λx J=>?_
       simp only[BC.toMx] at J;obtain⟨q,hq,rfl⟩:=dv.1 J;exact rN T _ q hq
      .rw[aA e] at Z;cases hg:s.h.get i with
       |none=>rw[hg] at Z;split at Z<;>cases Z
       |some b0=>
        rw[hg] at Z I;split at Z
        .simp only[b_,ak] at Z;subst Z;cases b0<;>simp[vw,kH] at h6
        .simp only[b_,ak] at Z;subst Z;have:b=b':=by
          simp only[aH] at I;cases b0 with
          |cells ty0 l0=>
           obtain⟨l0',U⟩:=fA s.h l0 (c.invH.cells i ty0 l0 hg);simp only[kH,U,ak] at I;simp only[XV,kH,wy hr hrow l0 l0' U,ak] at h6;rw[<- I,<-h6]
          |rows ty1 p1 T1 xs1=>
           have h3':kH h2 (.rows ty1 p1 T1 xs1)=af b:=I;exact iX (h3'.symm.trans h6)
          |dead p1 s1 n1=>
           have h3':kH h2 (.dead p1 s1 n1)=af b:=I;exact iX (h3'.symm.trans h6)
          |mp K1 V1 es1=>
           have h3':kH h2 (.mp K1 V1 es1)=af b:=I;exact iX (h3'.symm.trans h6)
         subst this;exact kf.refl hdom b⟩
     refine ⟨⟨hV.rep c.rep,?_,c.dom,c.low,⟨λi ty' l2 hg=>?_,λi b hg=>?_⟩,?_,c.inert,c.size⟩,⟨Lf.refl _ _,λk _ hk=>hdom.own hk,λ_ _=>rfl⟩,?_⟩
     .intro t x J;simp only[fV,PT.get_updI] at J;cases he:s.e.get t with
      |none=>rw[he] at J;cases J
      |some v=>
       rw[he] at J;obtain⟨z,hz⟩:=qg s.h v (c.invE t v he);simp only[b_,aH,N2 hr hrow v z hz,ak] at J;subst J;exact (c.env t _ (by simp only[fV,he,aH,hz])).dom hdom
     .rw[od] at hg;by_cases e:i=id
      .rw[aE e] at hg;cases hg
      .rw[aA e] at hg;cases Y:s.h.get i with
       |none=>rw[Y] at hg;split at hg<;>cases hg
       |some b0=>
        rw[Y] at hg;split at hg
        .simp only[b_,ak] at hg;cases b0<;>simp[vw] at hg
        .simp only[b_,ak] at hg;cases b0 with
         |cells ty0 l0=>
          simp only[XV,iD.cells.injEq] at hg;obtain⟨_,rfl⟩:=hg;obtain⟨l0',U⟩:=fA s.h l0 (c.invH.cells i ty0 l0 Y);exact kT _ _ _ (wy hr hrow l0 l0' U)
         |_=>cases hg
     .rw[od] at hg;by_cases e:i=id
      .subst e;exact hidlt
      .rw[aA e] at hg;cases Y:s.h.get i with
       |none=>rw[Y] at hg;split at hg<;>cases hg
       |some b0=>exact c.invH.low i b0 Y
     .intro t x J;simp only[PT.get_updI] at J;cases he:s.e.get t with
      |none=>rw[he] at J;cases J
      |some v=>
       rw[he] at J;simp only[b_,ak] at J;subst J;obtain⟨z,hz⟩:=qg s.h v (c.invE t v he);exact Fj _ _ _ (N2 hr hrow v z hz)
     .intro k _ v' M;simp only[PT.get_updI] at M;cases he:s.e.get k with
      |none=>rw[he] at M;cases M
      |some v=>
       rw[he] at M;simp only[b_,ak] at M;subst M;exact⟨v,rfl,λhf=>My _ _ _ v hf⟩
   .cases hp
  .cases hp
 .cases hp
theorem am0 {φ:PM} {s:TS} {a:Act} {w:World} (c:oW P E nt np φ s a w) {k off:Nat} {s':TS} (h:PI s (.ren k off)=af s'):∃ φ',oW P E nt np φ' s' a w/\Cv np φ φ' (bC s.h) (bC s'.h) w w/\gw (oF [.ren k off] 0) s.e s'.e:=by
 simp only[PI] at h;split at h
 .rename_i b o hk;split at h
  .rename_i cty l hb;split at h
   .rename_i id hv;split at h
    .rename_i ty p T xs J;simp only[ak] at h;subst h;have hfr:=c.invH.fresh;have hidlt:=c.invH.low id _ J;have hblt:=c.invH.low b _ hb;have hbid:b≠id:=λe=>by rw[e,J] at hb;cases hb
     have hbn:b≠s.nx:=by omega
     have hin:id≠s.nx:=by omega
     generalize hh2:(((s.h.set id (af (.dead p T.size xs.length))).set s.nx (af (.rows ty p T xs))).set b (af (.cells cty (splice l (o+off) [.row s.nx]))))=h2;have od:∀ i,h2.get i=if i=b then af (.cells cty (splice l (o+off) [.row s.nx])) else if i=s.nx then af (.rows ty p T xs) else if i=id then af (.dead p T.size xs.length) else s.h.get i:=λi=>by
      rw[<- hh2,PT.get_set,PT.get_set,PT.get_set]
     have hr:ci s.h h2:=λi r hi=>by
      rw[bV] at hi ⊢;rw[od];by_cases e1:i=b
      .subst e1;rw[hb] at hi;cases hi
      .rw[aA e1];by_cases e2:i=s.nx
       .subst e2;rw[hfr] at hi;cases hi
       .rw[aA e2];by_cases e3:i=id
        .subst e3;rw[aE rfl];rw[J] at hi;exact hi
        .rw[aA e3];exact hi
     have hlo:=c.invH.cells b cty l hb;obtain⟨Z,hl'⟩:=fA s.h l hlo;have hrow:cj h2 (.row s.nx)=af (fB p s.nx T.size xs.length):=by
      simp only[cj,bV,od];rw[aA hbn.symm];simp only[bG,aH,mO]
     have hsp:cL h2 (splice l (o+off) [.row s.nx])=af (splice Z (o+off) [fB p s.nx T.size xs.length]):=sI _ (h_ hr _ _ hl') (by simp only[cL,hrow]);obtain⟨y,hy,hey⟩:=me hl' _ _ hv;have hy0:y=fB p id T.size xs.length:=by
      simp only[cj,bV,J,aH,mO,ak] at hey;exact hey.symm
     subst hy0;have hold:bC s.h (nm b)=af ⟨cty,.mx Z⟩:=by rw[bM,hb];simp only[aH,kH,hl']
     have hnew:bC h2 (nm b)=af ⟨cty,.mx (splice Z (o+off) [fB p s.nx T.size xs.length])⟩:=by
      rw[bM,od,aE rfl];simp only[aH,kH,hsp]
     have hdead:bC h2 (nm id)=ah:=by rw[bM,od,aA hbid.symm,aA hin,aE rfl];rfl
     have hnx2:bC h2 (nm s.nx)=if p&&xs.length==0 then ah else af ⟨ty,.fz (xs.flatMap (bS T))⟩:=by rw[bM,od,aA hbn.symm,aE rfl];rfl
     have hid0:bC s.h (nm id)=if p&&xs.length==0 then ah else af ⟨ty,.fz (xs.flatMap (bS T))⟩:=by rw[bM,J];rfl
     have hoth:∀ n,n≠nm b->n≠nm s.nx->n≠nm id->bC h2 n=bC s.h n:=λn e1 e2 e3=>kU c.invH hr λi e=>by
      subst e;rw[od,aA (λe=>e1 (by rw[e])),aA (λe=>e2 (by rw[e])),aA (λe=>e3 (by rw[e]))]
     have hnb:nm b≠nm s.nx:=λe=>hbn (kY e)
     have hbi:nm b≠nm id:=λe=>hbid (kY e)
     have hni:nm s.nx≠nm id:=λe=>hin (kY e).symm
     have hinv:mi h2 (s.nx+1):=by
      refine ⟨λi ty2 l2 hil=>?_,λi q hiq=>?_⟩
      .rw[od] at hil;split at hil
       .simp only[ak,iD.cells.injEq] at hil;obtain⟨_,rfl⟩:=hil;exact kT _ _ _ hsp
       .split at hil
        .cases hil
        .split at hil
         .cases hil
         .exact jb hr l2 (c.invH.cells i ty2 l2 hil)
      .rw[od] at hiq;split at hiq
       .omega
       .split at hiq
        .omega
        .split at hiq
         .omega
         .have:=c.invH.low i q hiq;omega
     have hE:∀ t x,fV s.e h2 t=af x->fV s.e s.h t=af x:=λt x I=>by
      simp only[fV] at I ⊢;cases he:s.e.get t with
      |none=>rw[he] at I;cases I
      |some q=>
       rw[he] at I;obtain⟨z,hz⟩:=qg s.h q (c.invE t q he);simp only[aH,gE hr q z hz,ak] at I;subst I;simp only[aH,hz]
     by_cases hp:(p&&xs.length==0)=ai
     ·
      have Y:bC h2=bC s.h:=by
       funext n;by_cases e1:n=nm b
       .subst e1;rw[hold,hnew];have:fB p s.nx T.size xs.length=fB p id T.size xs.length:=by unfold fB;rw[aE hp,aE hp]
        rw[this,yZ hy]
       .by_cases e2:n=nm s.nx
        .subst e2;rw[hnx2,aE hp,bM,hfr];rfl
        .by_cases e3:n=nm id
         .subst e3;rw[hdead,hid0,aE hp]
         .exact hoth n e1 e2 e3
      refine ⟨φ,⟨by rw[Y];exact c.rep,λt x I=>by rw[Y];exact c.env t x (hE t x I),λn q hq=>Ai (c.dom n q hq),iG c.low,hinv,λt x I=>oK hr x (c.invE t x I),c.inert,c.size⟩,by rw[Y];exact Cv.refl _ _ _ _,gw.refl _ _⟩
     .have hid1:bC s.h (nm id)=af ⟨ty,.fz (xs.flatMap (bS T))⟩:=by rw[hid0,aA hp]
      obtain⟨kk,k1,k2,ob,k3,k4⟩:=c.rep.at_ _ _ hid1;have hφn:φ (nm s.nx)=ah:=by
       cases hq:φ (nm s.nx) with
       |none=>rfl
       |some q=>have:=c.dom _ q hq;rw[eo] at this;omega
      let nw:HF:=λn=>if n=nm s.nx then af ⟨ty,.fz (xs.flatMap (bS T))⟩ else ah
      have hsh:FH w w kk ob:=⟨rfl,rfl,rfl,rfl,k3,λ_ _=>rfl,λ_=>rfl⟩
      obtain⟨φ',p1,p2,p3,p4⟩:=c.rep.wren hid1 k1 hφn hsh k4 nw (by simp[nw]) (by simp only[nw];rw[aA hni.symm]);have hb1:eX (bC s.h) [nm s.nx,nm id] nw (nm b)=af ⟨cty,.mx Z⟩:=by
       unfold eX;rw[aA (by simp[hnb,hbi]),hold]
      obtain⟨kb,b1,b2,ob2,b3,b4⟩:=p4.at_ _ _ hb1;have hlt:o+off<Z.length:=by
       rcases b9 (o+off) Z.length with h'|h'
       .exact h'
       .rw[bR h'] at hy;cases hy
      have hob:jB φ' (tot E φ' (eX (bC s.h) [nm s.nx,nm id] nw)) w ⟨cty,.mx (splice Z (o+off) [fB p s.nx T.size xs.length])⟩ ob2:=by
       rw[pK rfl] at b4 ⊢;obtain⟨arr,a1,a2⟩:=b4;refine ⟨arr,a1,?_⟩;unfold vN at a2 ⊢;refine ⟨by simp only[BC.len] at a2 ⊢;rw[oH (by simp;omega)];exact a2.1,λj x I=>?_⟩;simp only[BC.get] at I a2;rw[mN (by simp;omega)] at I;split at I
       .exact a2.2 j x I
       .split at I
        .rename_i h3 M;simp only[dV] at M;have hj:j=o+off:=by omega
         subst hj;simp only[HR,qT,ak] at I;subst I;obtain⟨_,v,a3,a4⟩:=a2.2 _ _ hy;unfold fB at a4 ⊢;rw[aA hp] at a4 ⊢;refine ⟨rfl,v,a3,?_⟩;cases a4 with
         |@row _ _ _ cc q hφq hn hc hs2=>
          have:=p2.sub _ _ k1;rw[this,ak] at hφq;subst hφq;exact .row p1 hn hc hs2
        .exact a2.2 j x I
      obtain⟨q1,q2⟩:=p4.wset hb1 b1 (⟨rfl,rfl,rfl,rfl,b3,λ_ _=>rfl,λ_=>rfl⟩:FH w w kb ob2) hob (λn=>if n=nm b then af ⟨cty,.mx (splice Z (o+off) [fB p s.nx T.size xs.length])⟩ else ah) (by simp);have Y:eX (eX (bC s.h) [nm s.nx,nm id] nw) [nm b] (λn=>if n=nm b then af ⟨cty,.mx (splice Z (o+off) [fB p s.nx T.size xs.length])⟩ else ah)=bC h2:=by
       funext n;by_cases e1:n=nm b
       .subst e1;rw[hnew];simp[eX]
       .by_cases e2:n=nm s.nx
        .subst e2;rw[hnx2,aA hp];simp[eX,nw,hnb.symm]
        .by_cases e3:n=nm id
         .subst e3;rw[hdead];simp[eX,nw,hbi.symm,hni.symm]
         .rw[hoth n e1 e2 e3];simp[eX,e1,e2,e3]
      rw[Y] at q1 q2;have m:=p2.trans q1;refine ⟨φ',⟨q2,λt x I=>m.keep (c.env t x (hE t x I)),λn q hq=>?_,iG c.low,hinv,λt x I=>oK hr x (c.invE t x I),c.inert,c.size⟩,⟨Lf.refl _ _,m.own_,λi hi=>?_⟩,gw.refl _ _⟩
      .rcases p3 n q hq with M|M
       .exact Ai (c.dom n q M)
       .simp only[aL] at M;subst M;rw[eo];exact qR _
      .cases hq:φ' (nm i) with
       |none=>
        cases hq2:φ (nm i) with
        |none=>rfl
        |some z=>rw[p2.sub _ _ hq2] at hq;cases hq
       |some z=>
        rcases p3 _ _ hq with M|M
        .exact M.symm
        .simp only[aL] at M;have:=kY M;have:=c.low;omega
    .cases h
   .cases h
  .cases h
 .rename_i id hk;split at h
  .rename_i ty p T xs J;simp only[ak] at h;subst h;have hfr:=c.invH.fresh;have hidlt:=c.invH.low id _ J;have hin:id≠s.nx:=by omega
   generalize hh2:((s.h.set id (af (.dead p T.size xs.length))).set s.nx (af (.rows ty p T xs)))=h2;have od:∀ i,h2.get i=if i=s.nx then af (.rows ty p T xs) else if i=id then af (.dead p T.size xs.length) else s.h.get i:=λi=>by
    rw[<- hh2,PT.get_set,PT.get_set]
   have hr:ci s.h h2:=λi r hi=>by
    rw[bV] at hi ⊢;rw[od];by_cases e2:i=s.nx
    .subst e2;rw[hfr] at hi;cases hi
    .rw[aA e2];by_cases e3:i=id
     .subst e3;rw[aE rfl];rw[J] at hi;exact hi
     .rw[aA e3];exact hi
   have hrow:cj h2 (.row s.nx)=af (fB p s.nx T.size xs.length):=by
    simp only[cj,bV,od,bG,aH,mO]
   have hrow0:cj s.h (.row id)=af (fB p id T.size xs.length):=by
    simp only[cj,bV,J,aH,mO]
   have hdead:bC h2 (nm id)=ah:=by rw[bM,od,aA hin,aE rfl];rfl
   have hnx2:bC h2 (nm s.nx)=if p&&xs.length==0 then ah else af ⟨ty,.fz (xs.flatMap (bS T))⟩:=by rw[bM,od,aE rfl];rfl
   have hid0:bC s.h (nm id)=if p&&xs.length==0 then ah else af ⟨ty,.fz (xs.flatMap (bS T))⟩:=by rw[bM,J];rfl
   have hoth:∀ n,n≠nm s.nx->n≠nm id->bC h2 n=bC s.h n:=λn e2 e3=>kU c.invH hr λi e=>by
    subst e;rw[od,aA (λe=>e2 (by rw[e])),aA (λe=>e3 (by rw[e]))]
   have hni:nm s.nx≠nm id:=λe=>hin (kY e).symm
   have hinv:mi h2 (s.nx+1):=by
    refine ⟨λi ty2 l2 hil=>?_,λi q hiq=>?_⟩
    .rw[od] at hil;split at hil
     .cases hil
     .split at hil
      .cases hil
      .exact jb hr l2 (c.invH.cells i ty2 l2 hil)
    .rw[od] at hiq;split at hiq
     .omega
     .split at hiq
      .omega
      .have:=c.invH.low i q hiq;omega
   have hE:∀ t x,t≠k->fV (s.e.set k (af (.row s.nx))) h2 t=af x->fV s.e s.h t=af x:=λt x ht I=>by
    simp only[fV,PT.get_set] at I ⊢;rw[aA ht] at I;cases he:s.e.get t with
    |none=>rw[he] at I;cases I
    |some q=>
     rw[he] at I;obtain⟨z,hz⟩:=qg s.h q (c.invE t q he);simp only[aH,gE hr q z hz,ak] at I;subst I;simp only[aH,hz]
   have hIE:tW (s.e.set k (af (.row s.nx))) h2:=λt x I=>by
    simp only[PT.get_set] at I;split at I
    .cases I;exact Fj _ _ _ hrow
    .exact oK hr x (c.invE t x I)
   have hKp:gw (oF [.ren k off] 0) s.e (s.e.set k (af (.row s.nx))):=λt ht v' hv'=>by
    simp only[PT.get_set] at hv';split at hv'
    .rename_i et;subst et;simp only[oF] at ht;rw[bu,bZ.2 rfl] at ht;simp at ht
    .exact⟨v',hv',λ_=>rfl⟩
   have U:=c.env k (fB p id T.size xs.length) (by simp only[fV,hk,aH,hrow0]);by_cases hp:(p&&xs.length==0)=ai
   .have Y:bC h2=bC s.h:=by
     funext n;by_cases e2:n=nm s.nx
     .subst e2;rw[hnx2,aE hp,bM,hfr];rfl
     .by_cases e3:n=nm id
      .subst e3;rw[hdead,hid0,aE hp]
      .exact hoth n e2 e3
    have hsame:fB p s.nx T.size xs.length=fB p id T.size xs.length:=by unfold fB;rw[aE hp,aE hp]
    refine ⟨φ,⟨by rw[Y];exact c.rep,λt x I=>?_,λn q hq=>Ai (c.dom n q hq),iG c.low,hinv,hIE,c.inert,c.size⟩,by rw[Y];exact Cv.refl _ _ _ _,hKp⟩;rw[Y];by_cases ht:t=k
    .subst ht;simp only[fV,PT.get_set,bG,aH,hrow,ak] at I;subst I;rw[hsame];exact U
    .exact c.env t x (hE t x ht I)
   .have hid1:bC s.h (nm id)=af ⟨ty,.fz (xs.flatMap (bS T))⟩:=by rw[hid0,aA hp]
    obtain⟨kk,k1,k2,ob,k3,k4⟩:=c.rep.at_ _ _ hid1;have hφn:φ (nm s.nx)=ah:=by
     cases hq:φ (nm s.nx) with
     |none=>rfl
     |some q=>have:=c.dom _ q hq;rw[eo] at this;omega
    let nw:HF:=λn=>if n=nm s.nx then af ⟨ty,.fz (xs.flatMap (bS T))⟩ else ah
    have hsh:FH w w kk ob:=⟨rfl,rfl,rfl,rfl,k3,λ_ _=>rfl,λ_=>rfl⟩
    obtain⟨φ',p1,p2,p3,p4⟩:=c.rep.wren hid1 k1 hφn hsh k4 nw (by simp[nw]) (by simp only[nw];rw[aA hni.symm]);have Y:eX (bC s.h) [nm s.nx,nm id] nw=bC h2:=by
     funext n;by_cases e2:n=nm s.nx
     .subst e2;rw[hnx2,aA hp];simp[eX,nw]
     .by_cases e3:n=nm id
      .subst e3;rw[hdead];simp[eX,nw,hni.symm]
      .rw[hoth n e2 e3];simp[eX,e2,e3]
    rw[Y] at p2 p4;refine ⟨φ',⟨p4,λt x I=>?_,λn q hq=>?_,iG c.low,hinv,hIE,c.inert,c.size⟩,⟨Lf.refl _ _,p2.own_,λi hi=>?_⟩,hKp⟩
    .by_cases ht:t=k
     .subst ht;simp only[fV,PT.get_set,bG,aH,hrow,ak] at I;subst I;unfold fB at U ⊢;rw[aA hp] at U ⊢;generalize a.tmps.getD t undef=z at U;cases U with
      |@row _ _ _ cc q hφq hn hc hs2=>
       rw[k1,ak] at hφq;subst hφq;exact .row p1 hn hc hs2
     .exact p2.keep (c.env t x (hE t x ht I))
    .rcases p3 n q hq with M|M
     .exact Ai (c.dom n q M)
     .simp only[aL] at M;subst M;rw[eo];exact qR _
    .cases hq:φ' (nm i) with
     |none=>
      cases hq2:φ (nm i) with
      |none=>rfl
      |some z=>rw[p2.sub _ _ hq2] at hq;cases hq
     |some z=>
      rcases p3 _ _ hq with M|M
      .exact M.symm
      .simp only[aL] at M;have:=kY M;have:=c.low;omega
  .cases h
 .cases h
theorem ajn {φ:PM} {s:TS} {a:Act} {w:World} (c:oW P E nt np φ s a w) {Z:Adj} {s':TS} (h:PI s Z=af s') (hnr:∀ k off,Z≠ .ren k off):oW P E nt np φ s' a w/\Cv np φ φ (bC s.h) (bC s'.h) w w/\gw (oF [Z] 0) s.e s'.e:=by
 cases Z with
 |ren k off=>exact cV rfl (hnr k off)
 |nil k ty T=>
  simp only[PI] at h;split at h
  .rename_i v hv;split at h
   .rename_i hn;simp only[ak] at h;subst h;obtain⟨J,M,hr⟩:=XE c ty T;refine ⟨⟨J.rep,?_,J.dom,J.low,J.invH,?_,J.inert,J.size⟩,by rw[M];exact Cv.refl _ _ _ _,?_⟩
    .intro t x I;simp only[fV,PT.get_set] at I;split at I
     .rename_i et;subst et;simp only[aH,cj,bV,PT.get_set,bG,mO,fB,j6,cS,iS,ak] at I;subst I;obtain⟨z,Y⟩:=qg s.h v (c.invE _ v hv);rw[M];exact Rx hn Y _ _ _ _ (c.env _ _ (by simp only[fV,hv,aH,Y]))
     .exact J.env t x I
    .intro t x I;simp only[PT.get_set] at I;split at I
     .cases I;simp only[LB,bV,PT.get_set,bG];rfl
     .exact J.invE t x I
    .intro t ht v' U;simp only[PT.get_set] at U;split at U
     .rename_i et;subst et;simp only[oF] at ht;rw[bu,bZ.2 rfl] at ht;simp at ht
     .exact⟨v',U,λ_=>rfl⟩
   .simp only[ak] at h;subst h;exact⟨c,Cv.refl _ _ _ _,gw.refl _ _⟩
  .cases h
 |cel k off ty T=>
  simp only[PI] at h;split at h
  .rename_i id o hk;split at h
   .rename_i cty l hb;split at h
    .rename_i v hv;split at h
     .rename_i hn;simp only[ak] at h;subst h;obtain⟨J,M,hr⟩:=XE c ty T;have hid:id≠s.nx:=λe=>by have:=c.invH.low id _ hb;omega
      obtain⟨c2,t2⟩:=acp J (id:=id) (cty:=cty) (l:=l) (v:=v) (u:=.row s.nx) (by show (s.h.set s.nx _).get id=_;rw[PT.get_set,aA hid];exact hb) hv hn (by simp only[cj,bV,PT.get_set,bG,aH,mO,fB,j6,cS,iS]) (by simp only[LB,bV,PT.get_set,bG];rfl);exact⟨c2,by rw[<- M];exact t2,gw.refl _ _⟩
     .simp only[ak] at h;subst h;exact⟨c,Cv.refl _ _ _ _,gw.refl _ _⟩
    .cases h
   .cases h
  .cases h
 |mpt k K V=>
  simp only[PI] at h;split at h
  .rename_i id hk;split at h
   .rename_i K' V' es hb;split at h
    .rename_i hE;simp only[ak] at h;subst h;have hr:ci s.h (s.h.set id (af (.mp K V []))):=ci.set λr hr=>by rw[bV,hb] at hr;cases hr
     have M:bC (s.h.set id (af (.mp K V [])))=bC s.h:=by
      funext n;by_cases hn:n=nm id
      .subst hn;rw[bM,bM,PT.get_set,aE rfl,hb];simp only[aH,kH,B2 (aiv (c8.1 hE).1),B2 (c8.1 hE).2,Up (c8.1 hE).1,List.map_nil]
      .refine kU c.invH hr λi e=>?_
       subst e;rw[PT.get_set,aA (λe=>hn (by rw[e]))]
     refine ⟨⟨by rw[M];exact c.rep,?_,c.dom,c.low,c.invH.set hr (c.invH.low id _ hb) (bT _) (λ_ _ he=>by cases he),λt x I=>oK hr x (c.invE t x I),c.inert,c.size⟩,by rw[M];exact Cv.refl _ _ _ _,gw.refl _ _⟩;intro t x I;rw[M];simp only[fV] at I;cases he:s.e.get t with
     |none=>rw[he] at I;cases I
     |some q=>
      rw[he] at I;obtain⟨z,Y⟩:=qg s.h q (c.invE t q he);simp only[aH,gE hr q z Y,ak] at I;subst I;exact c.env t _ (by simp only[fV,he,aH,Y])
    .simp only[ak] at h;subst h;exact⟨c,Cv.refl _ _ _ _,gw.refl _ _⟩
   .cases h
  .cases h
 |pk k off T=>
  simp only[PI] at h;split at h
  .obtain⟨h1,h2,h3⟩:=am6 c h;exact⟨h1,h2,h3.mono λk hk=>by simp at hk⟩
  .cases h
theorem ajm {φ:PM} {s:TS} {a:Act} {w:World} (c:oW P E nt np φ s a w) {I:Adj} {s':TS} (h:PI s I=af s'):∃ φ',oW P E nt np φ' s' a w/\Cv np φ φ' (bC s.h) (bC s'.h) w w/\gw (oF [I] 0) s.e s'.e:=by
 by_cases hn:∃ k off,I= .ren k off
 .obtain⟨k,off,rfl⟩:=hn;exact am0 c h
 .exact⟨φ,ajn c h λk off e=>hn ⟨k,off,e⟩⟩
theorem V3 {φ:PM} {a:Act} {w:World}:∀ {l:List Adj} {s s':TS},oW P E nt np φ s a w->Y2 s l=af s'->∃ φ',oW P E nt np φ' s' a w/\Cv np φ φ' (bC s.h) (bC s'.h) w w/\gw (oF l 0) s.e s'.e
 |[],s,s',c,h=>by simp only[Y2,ak] at h;subst h;exact⟨φ,c,Cv.refl _ _ _ _,gw.refl _ _⟩
 |I::r,s,s',c,h=>by
  simp only[Y2] at h;split at h
  .rename_i s1 h1;obtain⟨φ1,U,t1,k1⟩:=ajm c h1;obtain⟨φ2,M,J,k2⟩:=V3 U h;refine ⟨φ2,M,t1.trans J,(k1.mono ?_).trans (k2.mono ?_)⟩
   .intro k hk;cases I with
    |nil q ty T=>simp only[oF] at hk ⊢;rw[mg,bu,hk];rfl
    |cel q off ty T=>simp[oF] at hk
    |mpt q K V=>simp[oF] at hk
    |pk q off T=>simp[oF] at hk
    |ren q off=>simp only[oF] at hk ⊢;rw[mg,bu,hk];rfl
   .intro k hk;cases I with
    |nil q ty T=>simp only[oF];rw[mg,bu,hk];simp
    |cel q off ty T=>simp only[oF];exact hk
    |mpt q K V=>simp only[oF];exact hk
    |pk q off T=>simp only[oF];exact hk
    |ren q off=>simp only[oF];rw[mg,bu,hk];simp
  .cases h
mutual
theorem Rp {h:bk}:∀ (v:TV) (y:AV),uy v=ai->cj h v=af y->y.all (λ_=>aj)=ai
 |.f _ _,y,_,he=>by simp only[cj,ak] at he;subst he;rfl
 |.fel _ _ _ _ _,y,_,he=>by simp only[cj,ak] at he;subst he;rfl
 |.emp,y,_,he=>by simp only[cj,ak] at he;subst he;rfl
 |.nil,y,_,he=>by simp only[cj,ak] at he;subst he;rfl
 |.undef,y,_,he=>by simp only[cj,ak] at he;subst he;rfl
 |.np,y,_,he=>by simp only[cj,ak] at he;subst he;rfl
 |.anyb,y,_,he=>by simp only[cj,ak] at he;subst he;rfl
 |.agg l,y,hl,he=>by
  simp only[cj] at he;split at he
  .rename_i l' hl';simp only[ak] at he;subst he;exact Ff l l' hl hl'
  .cases he
 |.tup l,y,hl,he=>by
  simp only[cj] at he;split at he
  .rename_i l' hl';simp only[ak] at he;subst he;exact Ff l l' hl hl'
  .cases he
 |.pel _ _ _ _,_,h,_=>by cases h
 |.ptr _ _,_,h,_=>by cases h
 |.csl _ _ _,_,h,_=>by cases h
 |.row _,_,h,_=>by cases h
 |.rtl _ _,_,h,_=>by cases h
 |.mp _,_,h,_=>by cases h
 |.clo _ _,_,h,_=>by cases h
theorem Ff {h:bk}:∀ (l:List TV) (l':List AV),qA l=ai->cL h l=af l'->AV.allL (λ_=>aj) l'=ai
 |[],l',_,he=>by simp only[cL,ak] at he;subst he;rfl
 |x::r,l',hl,he=>by
  obtain⟨y,l2,rfl,e1,e2⟩:=cY he;simp only[qA,av] at hl;simp only[AV.allL,av];exact⟨Rp x y hl.1 e1,Ff r l2 hl.2 e2⟩
end
mutual
theorem W5 (h:bk):∀ (v:TV),uy v=ai->LB h v=ai
 |.f _ _,_=>rfl
 |.fel _ _ _ _ _,_=>rfl
 |.emp,_=>rfl
 |.nil,_=>rfl
 |.undef,_=>rfl
 |.np,_=>rfl
 |.anyb,_=>rfl
 |.agg l,hl=>JB h l hl
 |.tup l,hl=>JB h l hl
 |.pel _ _ _ _,h=>by cases h
 |.ptr _ _,h=>by cases h
 |.csl _ _ _,h=>by cases h
 |.row _,h=>by cases h
 |.rtl _ _,h=>by cases h
 |.mp _,h=>by cases h
 |.clo _ _,h=>by cases h
theorem JB (h:bk):∀ (l:List TV),qA l=ai->kX h l=ai
 |[],_=>rfl
 |x::r,hl=>by
  simp only[qA,av] at hl;simp only[kX,av];exact⟨W5 h x hl.1,JB h r hl.2⟩
end
structure Seen (np:Nat) (t:Tm) (x:t.ty.den) (us:List TV) (h1:bk) (φ φ':PM) (H:HF) (E:Nat->Prop) (w:World) (la lu:List AV):Prop where
 rep:re φ' E (bC h1) w
 val:∀ (j:Nat) y v,lu[j]? =af y->∃ z,la[j]? =af z/\(cM φ (tot E φ H) w z v->cM φ' (tot E φ' (bC h1)) w y v)
 len:lu.length=la.length
 tot_:∀ k,tot E φ' (bC h1) k->tot E φ H k
 own_:∀ k,own φ' (bC h1) k->own φ H k
 dom:∀ n k,φ' n=af k->ow n<t.bs.length
 par:∀ i,i<np->i<t.bs.length->φ' (nm i)=φ (nm i)
theorem Lw {t:Tm} {x:t.ty.den} {us:List TV} {h1:bk} {l1:List (Option iD)} (I:qO t x us h1 l1) {h:bk} {nx:Nat} (hinv:mi h nx) {vs:List TV} {m:Nat} {σ:PT Nat} {sm:Nat} (M:Ij np t vs h x m σ sm) {la:List AV} (hla:cL h vs=af la) {φ:PM} {w:World} (r:re φ E (bC h) w):∃ φ' lu,cL h1 us=af lu/\Seen np t x us h1 φ φ' (bC h) E w la lu:=by
 obtain⟨x1,m1,x2,m2,hx,hmm,gv,gb⟩:=M.ex;have hmr:dX h m:=by rw[hmm];exact (H9 _ _ _ _ gv).or (Ia _ _ _ _ gb)
 have pvg:qe (im σ) t.vs x1=af (kG (im σ) us):=by
  have U:=tY (im σ) t.vs x1;have J:=I.pv;rw[hx,tR] at J;rw[U,J];rfl
 have pbg:oJ (im σ) t.bs x2=af (l1.map (lX (lZ (im σ)))):=by
  have U:=wA (im σ) t.bs x2;have J:=I.pb;rw[hx,vm] at J;rw[U,J];rfl
 have hbm:∀ i b,l1[i]? =af (af b)->∃ b0,h.get (im σ i)=af b0/\BM (im σ) h m b0 (lZ (im σ) b):=λi b hb=>by
  obtain⟨b0,Y,Z⟩:=Jz t.bs 0 x2 m2 _ gb pbg i (lZ (im σ) b) (by rw[a8,hb];rfl);rw[bO] at Y;exact⟨b0,Y,Z.mono λj hj=>by rw[hmm,bu,hj];simp⟩
 let hv:bk:=AK (im σ) 0 (l1.map (lX (lZ (im σ)))) PT.leaf
 have hv_at:∀ i b,l1[i]? =af (af b)->hv.get (im σ i)=af (lZ (im σ) b):=λi b hb=>by
  have:=vu (im σ) (l1.map (lX (lZ (im σ)))) 0 PT.leaf (λa b ha hb=>by
   simp only[bP,I.len] at ha hb;simp only[bO];exact M.inj a b ha hb) i (af (lZ (im σ) b)) (by rw[a8,hb];rfl)
  rw[bO] at this;exact this
 have hv_ex:∀ j c,hv.get j=af c->∃ i b,l1[i]? =af (af b)/\j=im σ i/\c=lZ (im σ) b:=λj c hj=>by
  by_cases hex:∃ i,i<l1.length/\j=im σ i
  .obtain⟨i,hi,rfl⟩:=hex;have hcc:=aB hi;cases hcv:l1[i] with
   |some b=>rw[hcv] at hcc;rw[hv_at i b hcc] at hj;cases hj;exact⟨i,b,hcc,rfl,rfl⟩
   |none=>
    rw[hcv] at hcc;have:=vu (im σ) (l1.map (lX (lZ (im σ)))) 0 PT.leaf (λa b ha hb=>by
     simp only[bP,I.len] at ha hb;simp only[bO];exact M.inj a b ha hb) i ah (by rw[a8,hcc];rfl)
    rw[bO] at this;have hj':(AK (im σ) 0 (l1.map (lX (lZ (im σ)))) PT.leaf).get (im σ i)=af c:=hj;rw[this] at hj';simp[PT.get] at hj'
  .have:hv.get j=(PT.leaf:bk).get j:=vq (im σ) _ 0 _ j λk hk=>by
    simp only[bP] at hk;rw[bO];exact λe=>hex ⟨k,hk,e⟩
   rw[this] at hj;simp[PT.get] at hj
 have rows_in:yg hv h:=λj q hq=>by
  rw[bV] at hq ⊢;cases hc:hv.get j with
  |none=>rw[hc] at hq;cases hq
  |some c=>
   rw[hc] at hq;obtain⟨i,b,Y,rfl,rfl⟩:=hv_ex j c hc;obtain⟨b0,Z,q3⟩:=hbm i b Y;rw[Z];simp only[aH] at hq ⊢;rw[<- q3.row];exact hq
 have rows_h1:∀ i q,eJ h1 i=af q->eJ hv (im σ i)=af q:=λi q hq=>by
  rw[bV] at hq ⊢;cases hb:h1.get i with
  |none=>rw[hb] at hq;cases hq
  |some b=>
   rw[hb] at hq;rw[hv_at i b ((I.at_ i b).1 hb)];simp only[aH,Iw] at hq ⊢;exact hq
 have hd:vM (bC h) (bC hv):=λn y hy=>by
  obtain⟨j,c,rfl,U,J⟩:=jF hy;obtain⟨i,b,Y,rfl,rfl⟩:=hv_ex j c U;obtain⟨b0,Z,q3⟩:=hbm i b Y;obtain⟨y0,hy0⟩:=BM.erB_some hinv Z q3 J;exact⟨y0,by rw[bM,Z];exact hy0⟩
 have gvv:Ep h (bC h) (bC hv) m:=λi hi=>⟨rfl,by
  cases hc:bC hv (nm i) with
  |none=>rfl
  |some y=>
   obtain⟨j,c,e,U,J⟩:=jF hc;have:=kY e;subst this;obtain⟨k,b,Y,rfl,rfl⟩:=hv_ex i c U;have hk:k<t.bs.length:=by rw[<- I.len];exact (bg.1 Y).1
   have h5:=M.disj _ hi;rw[(M.sig _).2 ⟨k,hk,rfl⟩] at h5;cases h5⟩
 have V:K0 (bC h) (bC hv):=⟨hd,λn b b' hb hb'=>by
  obtain⟨j,c,rfl,U,J⟩:=jF hb';obtain⟨i,bb,Y,rfl,rfl⟩:=hv_ex j c U;obtain⟨b0,Z,q3⟩:=hbm i bb Y;rw[bM,Z] at hb;exact BM.view hd gvv rows_in q3 hb J⟩
 have rv:=V.rep r;have T:agb t x us h1 (im σ) φ E E (bC hv) w:=by
  refine re.toId I M.inj rv (λi b yb hb hyb=>?_) (λk hk=>.inl hk) (λi k b hi U J hE=>?_) rv.el
  .rw[bM,hv_at i b ((I.at_ i b).1 hb)];exact Dt rows_h1 hyb
  .obtain⟨k',p1,p2,_⟩:=rv.at_ _ _ U;rw[J] at p1;cases p1;exact p2 hE
 obtain⟨lu,hlu⟩:=fA h1 us I.ok;have hlug:cL hv (kG (im σ) us)=af (AV.renL (Ib (im σ)) lu):=qF rows_h1 us lu hlu;have hle:=Do hd rows_in t.vs vs x1 m1 _ la _ gv pvg hla hlug (λi hi=>gvv i (by rw[hmm,bu,hi];rfl));have hall:=tO us lu I.lt hlu;refine ⟨_,lu,hlu,T.rep,λj y v hy=>?_,?_,λk hk=>hd.tot (T.tot_ k hk),λk hk=>hd.own (T.own_ k hk),λn k hk=>?_,λi hi hb=>?_⟩
 .rw[oI] at hle;obtain⟨z,hz,hlz⟩:=hle.get j (y.ren (Ib (im σ))) (by rw[a8,hy];rfl);exact⟨z,hz,λhr=>T.val y v (mf hall y (ba hy)) (hlz _ _ _ _ r hr)⟩
 .have:=hle.length;rw[oI,bP] at this;exact this
 .obtain⟨i,hi,rfl,_⟩:=xq hk;rw[eo];exact hi
 .rw[ZQ hb,M.fix i hi]
theorem Ot {φ:PM} {s':TS} {a:Act} {w:World} (c:oW P E nt np φ s' a w) {A:ZI} {am:Nat} {s0 s1:TS} {x:A.D} (J:L2 np A am s0 s'=af x) (hs:Hg A am s0 x=af s1)
 (hk:∀ k,k∈A.keep->k∉A.ks->∀ v,s0.e.get k=af v->uy v=ai->aN am k=aj->∀ Z,s'.e.get k=af Z->Z=v):∃ φ',oW P E nt np φ' s1 a w/\Cv np φ φ' (bC s'.h) (bC s1.h) w w:=by
 unfold L2 at J;split at J
 .rename_i hc;simp only[av] at hc;have hnp:=a_ hc.1;split at J
  .rename_i s2 h2;obtain⟨φ2,c2,t2,_⟩:=V3 c h2;split at J
   .rename_i vs hvs;split at J
    .rename_i z m σ sm hM;simp only[ak] at J;subst J;have M:=wI hM;unfold Hg at hs;split at hs
     .rename_i us h1 hi;obtain⟨l1,I⟩:=wO hi;split at hs
      .rename_i hlen;have hlen:=aw hlen;simp only[ak] at hs;subst hs;obtain⟨g1,g2⟩:=W2 hvs;have hvok:kX s2.h vs=ai:=IJ c2.invE hvs;obtain⟨la,hla⟩:=fA s2.h vs hvok;obtain⟨φ',lu,hlu,S⟩:=Lw (E:=E) I c2.invH M hla c2.rep;refine ⟨φ',⟨S.rep,?_,S.dom,hnp,⟨λi ty l hl=>(I.cells i ty l hl).1,λi b hb=>I.lt_len hb⟩,?_,c.inert,c.size⟩,t2.trans ⟨Lf.refl _ _,λk _ h=>S.own_ k h,λi hi=>S.par i hi (by omega)⟩⟩
       .intro t y U;simp only[fV] at U;cases ht:(XX (C' am s0.e A.keep) A.ks us).get t with
        |none=>rw[ht] at U;cases U
        |some v=>
         rw[ht] at U;simp only[aH] at U;rcases CG hlen t v ht with ⟨j,q1,Y⟩|⟨q1,Y⟩
         .obtain⟨y',p1,p2⟩:=me hlu j v Y;rw[U] at p2;cases p2;obtain⟨z,p3,p4⟩:=S.val j y (a.tmps.getD t undef) p1;refine p4 ?_;obtain⟨v0,p5,p6⟩:=g2 j t q1;obtain⟨z',p7,p8⟩:=me hla j v0 p5;rw[p3] at p7;cases p7;exact c2.env t _ (by simp only[fV,p6,aH,p8])
         .obtain⟨k1,k2,k3,k4⟩:=t_ Y;obtain⟨Z,k5⟩:=I6 hc.2 t v k1 k2 k3 k4;have:=hk t k1 q1 v k2 k3 k4 Z k5;subst this;have h3:=c.env t y (by simp only[fV,k5,aH];rw[Ry s'.h h1 Z k3];exact U);exact h3.restrict (p:=λ_=>aj) (λi k hi _=>by cases hi) (λk hk=>by
           have h4:=S.tot_ k hk;rcases h4 with h4|h4
           .exact .inl h4
           .exact .inr (by
             have hkl:k<w.heap.size:=by
              obtain⟨n,b,e1,e2⟩:=h4;obtain⟨k',p1,_,ob,p3,_⟩:=c2.rep.at_ n b e1;rw[e2] at p1;cases p1;exact (cF.1 p3).1
             exact t2.own_ k hkl h4)) (Rp Z y k3 U)
       .intro t v hv;rcases CG hlen t v hv with ⟨j,q1,Y⟩|⟨q1,Y⟩
        .obtain⟨y',_,p2⟩:=me hlu j v Y;exact Fj _ _ _ p2
        .exact W5 _ v (t_ Y).2.2.1
      .cases hs
     .cases hs
    .cases J
   .cases J
  .cases J
 .cases J
theorem Ez {A:ZI} {am:Nat} {I s1:TS} {x:A.D} (hs:Hg A am I x=af s1):gw (LF A.ks 0) I.e s1.e/\∀ k,k∉A.ks->∀ v,s1.e.get k=af v->I.e.get k=af v:=by
 unfold Hg at hs;split at hs
 .rename_i us h1 hi;split at hs
  .rename_i hlen;have hlen:=aw hlen;simp only[ak] at hs;subst hs;have key:∀ k,k∉A.ks->∀ v,(XX (C' am I.e A.keep) A.ks us).get k=af v->I.e.get k=af v:=λk hk v hv=>by
    rcases CG hlen k v hv with ⟨j,U,_⟩|⟨_,M⟩
    .exact cV (ba U) hk
    .exact (t_ M).2.1
   refine ⟨λk hk J hv=>?_,key⟩;have hnk:k∉A.ks:=λhm=>by rw[WO hm] at hk;cases hk
   exact⟨J,key k hnk J hv,λ_=>rfl⟩
  .cases hs
 .cases hs
end walk
inductive Er:TC->SC->Prop
 |skip:Er .skip .skip
 |reg (ops:List sP) (prs:List (Nat×Nat)):Er (.reg ops prs) (.reg ops prs)
 |seq {a b:TC} {a' b':SC}:Er a a'->Er b b'->Er (.seq a b) (.seq a' b')
 |jseq (A:ZI) {a b:TC} {a' b':SC}:Er a a'->Er b b'->Er (.jseq A a b) (.seq a' b')
 |cond (c:Nat) {a b:TC} {a' b':SC}:Er a a'->Er b b'->Er (.cond c a b) (.cond c a' b')
 |block (id:Nat) {b:TC} {b':SC}:Er b b'->Er (.block id b) (.block id b')
 |jblock (A:ZI) (id:Nat) {b:TC} {b':SC}:Er b b'->Er (.jblock A id b) (.block id b')
 |loop (A:ZI) {b:TC} {b':SC}:Er b b'->Er (.loop A b) (.loop b')
 |exit (id:Nat):Er (.exit id) (.exit id)
 |ret:Er .ret .ret
 |defer (f:FuncId) (c:List Operand) (t:Nat):Er (.defer f c t) (.defer f c t)
 |adj (l:List Adj) {c:TC} {c':SC}:Er c c'->Er (.adj l c) c'
 |split (k off lo n:Nat) {c:TC} {c':SC}:Er c c'->Er (.split k off lo n c) c'
 |unl (n:Nat) {b:TC} {b':SC}:Er b b'->Er (.unl n b) (.loop b')
 |bad (c:SC):Er .bad c
theorem Cx {H:PT adi} {n:Nat} {c:TC} {c':SC} (h:Er c c'):Er (In H n c) c':=by
 unfold In;split
 .exact .adj _ h
 .exact .split _ _ _ _ h
 .exact h
theorem yc (H:PT adi):∀ (c:SC) (n:Nat),Er (DW H c n).1 c
 |.skip,n=>Cx .skip
 |.reg o p,n=>Cx (.reg o p)
 |.seq a b,n=>by
  have h1:=yc H a (n+1);have h2:=yc H b (DW H a (n+1)).2;simp only[DW];split
  .exact .jseq _ h1 h2
  .exact .seq h1 h2
 |.cond c a b,n=>by
  have h1:=yc H a (n+1);have h2:=yc H b (DW H a (n+1)).2;simp only[DW];exact Cx (.cond c h1 h2)
 |.block id b,n=>by
  have h1:=yc H b (n+1);simp only[DW];split
  .exact .jblock _ id h1
  .exact .block id h1
 |.loop b,n=>by
  have h1:=yc H b (n+1);simp only[DW];split
  .exact .loop _ h1
  .exact .unl _ h1
  .exact .bad _
 |.exit id,n=>Cx (.exit id)
 |.ret,n=>Cx .ret
 |.defer f c t,n=>.defer f c t
 |.bad,n=>.bad _
theorem X_ {σ R:Type} {step:σ->Option (σ⊕R)} {x:σ} {r:R} (h:iter step x=af r):∃ n,iterN step n x=af r:=by
 unfold iter at h;split at h
 .exact⟨_,h⟩
 .cases h
theorem WS {α R:Type} {o:Option (R⊕α)} {k:α->Option R} {r:R} (h:jn o k=af r):(∃ x,o=af (.inr x)/\k x=af r)\/o=af (.inl r):=by
 unfold jn at h;split at h
 .exact .inl ⟨_,rfl,h⟩
 .cases h;exact .inr rfl
 .cases h
section inv
variable {P:Program} {nt:Nat}
theorem zW (id:Nat) (ops:Array Oper) (I:Bool):cq P nt (.region id ops I)= .bad\/
 ((ops.toList.all λo=>match o.dst with|some d=>decide (d<nt)|none=>ai)=ai/\
   ((∃ f caps t,DV ops I=af (f,caps,t)/\cq P nt (.region id ops I)= .defer f caps t)\/
    ∃ l prs,sg P ops ops.toList=af l/\MH ops l=af prs/\cq P nt (.region id ops I)= .reg l prs)):=by
 simp only[cq];split
 .rename_i hd;split
  .rename_i f caps t h;exact .inr ⟨hd,.inl ⟨f,caps,t,h,rfl⟩⟩
  .split
   .rename_i l hl;split
    .rename_i prs hp;exact .inr ⟨hd,.inr ⟨l,prs,hl,hp,rfl⟩⟩
    .exact .inl rfl
   .exact .inl rfl
 .exact .inl rfl
def EG:Code->Bool
 |.cond (.const (.bool _)) _ _=>aj
 |_=>ai
theorem km (P:Program) (nt:Nat) (c:Code):∃ c',EG c'=ai/\cq P nt c'=cq P nt c/\∀ Q a w,c'.wp P Q a w->c.wp P Q a w:=by
 have self:∀ c:Code,EG c=ai->∃ c',EG c'=ai/\cq P nt c'=cq P nt c/\∀ Q a w,c'.wp P Q a w->c.wp P Q a w:=λc h=>⟨c,h,rfl,λ_ _ _ h=>h⟩
 induction c with
 |cond o x y ihx ihy=>
  cases o with
  |const v=>
   cases v with
   |bool b=>
    cases b with
    |true=>
     obtain⟨c',h1,h2,I⟩:=ihx;exact⟨c',h1,h2,λQ a w h=>wp_cond_true rfl (I Q a w h)⟩
    |false=>
     obtain⟨c',h1,h2,I⟩:=ihy;exact⟨c',h1,h2,λQ a w h=>wp_cond_false rfl (I Q a w h)⟩
   |_=>exact self _ rfl
  |_=>exact self _ rfl
 |_=>exact self _ rfl
theorem F7 {α:Prop} {o:Operand} {x y:Code} {sc:SC} (hn:EG (.cond o x y)=ai) (h:cq P nt (.cond o x y)=sc) (h1:sc≠ .bad) (h2:∀ t a b,sc≠ .cond t a b):α:=by
 cases o with
 |tmp q=>exact (h2 _ _ _ h.symm).elim
 |const v=>cases v<;>first|exact (h1 h.symm).elim|cases hn
 |global g=>exact (h1 h.symm).elim
 |func f=>exact (h1 h.symm).elim
theorem aez {c:Code} {sl:List sP} {prs:List (Nat×Nat)} (hn:EG c=ai) (h:cq P nt c= .reg sl prs):∃ id ops I,c= .region id ops I/\(ops.toList.all λo=>match o.dst with|some d=>decide (d<nt)|none=>ai)=ai/\sg P ops ops.toList=af sl/\MH ops sl=af prs:=by
 cases c with
 |region id ops I=>
  rcases zW (P:=P) (nt:=nt) id ops I with h1|⟨hd,⟨f,caps,t,_,h1⟩|⟨l,p,h2,J,h1⟩⟩
  .rw[h1] at h;cases h
  .rw[h1] at h;cases h
  .rw[h1] at h;cases h;exact⟨id,ops,I,rfl,hd,h2,J⟩
 |cond o x y=>exact F7 hn h (by simp) (by simp)
 |_=>simp[cq] at h
theorem X' {c:Code} {f:FuncId} {caps:List Operand} {t:Nat} (hn:EG c=ai) (h:cq P nt c= .defer f caps t):∃ id ops I,c= .region id ops I/\(ops.toList.all λo=>match o.dst with|some d=>decide (d<nt)|none=>ai)=ai/\DV ops I=af (f,caps,t):=by
 cases c with
 |region id ops I=>
  rcases zW (P:=P) (nt:=nt) id ops I with h1|⟨hd,⟨f',caps',t',h2,h1⟩|⟨l,p,h2,J,h1⟩⟩
  .rw[h1] at h;cases h
  .rw[h1] at h;cases h;exact⟨id,ops,I,rfl,hd,h2⟩
  .rw[h1] at h;cases h
 |cond o x y=>exact F7 hn h (by simp) (by simp)
 |_=>simp[cq] at h
theorem pq {c:Code} {sc:SC} (h:cq P nt c=sc) (h1:sc≠ .bad) (h2:∀ a b,sc≠ .reg a b) (M:∀ a b t,sc≠ .defer a b t):∀ id ops J,c≠ .region id ops J:=by
 rintro id ops J rfl;rcases zW (P:=P) (nt:=nt) id ops J with I|⟨_,⟨f,caps,t,_,I⟩|⟨l,p,_,_,I⟩⟩<;>rw[I] at h
 .exact h1 h.symm
 .exact M _ _ _ h.symm
 .exact h2 _ _ h.symm
theorem aay {c:Code} (hn:EG c=ai) (h:cq P nt c= .skip):c= .skip:=by
 have I:=pq h (by simp) (by simp) (by simp);cases c with
 |skip=>rfl
 |region id ops J=>exact cV rfl (I id ops J)
 |cond o x y=>exact F7 hn h (by simp) (by simp)
 |_=>simp[cq] at h
theorem aey {c:Code} (hn:EG c=ai) (h:cq P nt c= .ret):c= .ret:=by
 have I:=pq h (by simp) (by simp) (by simp);cases c with
 |ret=>rfl
 |region id ops J=>exact cV rfl (I id ops J)
 |cond o x y=>exact F7 hn h (by simp) (by simp)
 |_=>simp[cq] at h
theorem aaz {c:Code} {i:Nat} (hn:EG c=ai) (h:cq P nt c= .exit i):c= .exit i:=by
 have I:=pq h (by simp) (by simp) (by simp);cases c with
 |exit id=>simp[cq] at h;rw[h]
 |region id ops J=>exact cV rfl (I id ops J)
 |cond o x y=>exact F7 hn h (by simp) (by simp)
 |_=>simp[cq] at h
theorem WV {c:Code} {a b:SC} (hn:EG c=ai) (h:cq P nt c= .seq a b):∃ x y,c= .seq x y/\cq P nt x=a/\cq P nt y=b:=by
 have I:=pq h (by simp) (by simp) (by simp);cases c with
 |seq x y=>simp[cq] at h;exact⟨x,y,rfl,h.1,h.2⟩
 |region id ops J=>exact cV rfl (I id ops J)
 |cond o x y=>exact F7 hn h (by simp) (by simp)
 |_=>simp[cq] at h
theorem ab0 {c:Code} {t:Nat} {a b:SC} (hn:EG c=ai) (h:cq P nt c= .cond t a b):∃ x y,c= .cond (.tmp t) x y/\cq P nt x=a/\cq P nt y=b:=by
 have I:=pq h (by simp) (by simp) (by simp);cases c with
 |cond o x y=>
  cases o with
  |tmp q=>simp[cq] at h;obtain⟨rfl,h1,h2⟩:=h;exact⟨x,y,rfl,h1,h2⟩
  |const v=>cases v<;>first|(simp [cq] at h;done)|cases hn
  |_=>simp[cq] at h
 |region id ops J=>exact cV rfl (I id ops J)
 |_=>simp[cq] at h
theorem MS {c:Code} {id:Nat} {b:SC} (hn:EG c=ai) (h:cq P nt c= .block id b):∃ y,c= .block id y/\cq P nt y=b:=by
 have I:=pq h (by simp) (by simp) (by simp);cases c with
 |block i y=>simp[cq] at h;obtain⟨rfl,h1⟩:=h;exact⟨y,rfl,h1⟩
 |region id ops J=>exact cV rfl (I id ops J)
 |cond o x y=>exact F7 hn h (by simp) (by simp)
 |_=>simp[cq] at h
theorem QO {c:Code} {b:SC} (hn:EG c=ai) (h:cq P nt c= .loop b):∃ y,c= .loop y/\cq P nt y=b:=by
 have I:=pq h (by simp) (by simp) (by simp);cases c with
 |loop y=>simp[cq] at h;exact⟨y,rfl,h⟩
 |region id ops J=>exact cV rfl (I id ops J)
 |cond o x y=>exact F7 hn h (by simp) (by simp)
 |_=>simp[cq] at h
end inv
def ai4 {R:Type} (P:Program) (E:Nat->Prop) (nt np:Nat) (φ:PM) (s:TS) (w:World) (am:Nat) (K:Ex->TS->Option R) (r:R):Exit->Act->World->Prop:=
 λe a' w'=>∃ ex s' φ',e=ex.to/\K ex s'=af r/\oW P E nt np φ' s' a' w'/\Cv np φ φ' (bC s.h) (bC s'.h) w w'/\gw am s.e s'.e
theorem oW.bool {P:Program} {E:Nat->Prop} {nt np:Nat} {φ:PM} {s:TS} {a:Act} {w:World} (c:oW P E nt np φ s a w) {t:Nat} {b:Bool} (ht:s.e.get t=af (.f .bool b)):a.eval (.tmp t)= .bool b:=
 fD (c.env t _ (by simp only[fV,ht,aH,cj];rfl))
theorem oW.anyb {P:Program} {E:Nat->Prop} {nt np:Nat} {φ:PM} {s:TS} {a:Act} {w:World} (c:oW P E nt np φ s a w) {t:Nat} (ht:s.e.get t=af .anyb):∃ b,a.eval (.tmp t)= .bool b:=by
 have:=c.env t .anyb (by simp only[fV,ht,aH,cj]);show ∃ b,a.tmps.getD t undef= .bool b;generalize a.tmps.getD t undef=z at this;cases this with
 |anyb=>exact⟨_,rfl⟩
theorem Y0 {R:Type} {a b:Option R} {r:R} (h:FB a b=af r):a=af r/\b=af r:=by
 unfold FB at h;split at h
 .rename_i e;exact⟨h,by rw[<- e];exact h⟩
 .cases h
theorem aik {P:Program} {E:Nat->Prop} {nt np:Nat} {con:FuncId->Option cr} {b8:TypeId->Option Ty} {inert:FuncId->Bool} (hm:P.follows .mixedOrders=ai) (hcon:Li P con) (hin:Lc P inert):
 ∀ {tc:TC} {sc:SC},Er tc sc->∀ (c:Code),cq P nt c=sc->∀ (R:Type) (s:TS) (K:Ex->TS->Option R) (r:R),pi np con b8 inert tc s K=af r->∀ (φ:PM) (a:Act) (w:World),oW P E nt np φ s a w->c.wp P (ai4 P E nt np φ s w (tc.asg 0) K r) a w:=by
 intro tc sc hE;induction hE with
 |skip=>
  intro c hc R s K r h φ a w g;obtain⟨c',hn,I,hsim⟩:=km P nt c;refine hsim _ _ _ ?_;rw[<- I] at hc;rw[aay hn hc];exact wp_skip ⟨.normal,s,φ,rfl,h,g,Cv.refl _ _ _ _,gw.refl _ _⟩
 |reg ops prs=>
  intro c hc R s K r h φ a w g;obtain⟨c',hn,I,hsim⟩:=km P nt c;refine hsim _ _ _ ?_;rw[<- I] at hc;obtain⟨id,os,dr,rfl,h1,h2,h3⟩:=aez hn hc;simp only[pi] at h;refine aa3 (K:=λs'=>K .normal s') hm hcon g (am:=PC ops 0) (λj o d ho hd=>?_) h1 h2 h3 h λa' w' s' φ' Z J q3 q4=>⟨.normal,s',φ',rfl,Z,J,q3,q4⟩
  have hmem:o∈os.toList:=by have:=Array.mem_of_getElem? ho;simpa using this
  have key:∀ (rest:List Oper) (sl:List sP),sg P os rest=af sl->∀ o∈rest,∃ so∈sl,so.dst=o.dst:=by
   intro rest;induction rest with
   |nil=>intro sl _ o ho;cases ho
   |cons x rest ih=>
    intro sl hsl o ho;simp only[sg] at hsl;split at hsl
    .rename_i l hl;have:∃ so,sl=so::l/\so.dst=x.dst:=by
      split at hsl
      .simp only[ak] at hsl;exact⟨_,hsl.symm,rfl⟩
      .split at hsl
       .simp only[ak] at hsl;exact⟨_,hsl.symm,rfl⟩
       .cases hsl
     obtain⟨so,rfl,hso⟩:=this;rcases bl.1 ho with rfl|ho
     .exact⟨so,by simp,hso⟩
     .obtain⟨q,hq,hq2⟩:=ih l hl o ho;exact⟨q,by simp[hq],hq2⟩
    .cases hsl
  obtain⟨so,hso,hd2⟩:=key os.toList ops h2 o hmem;exact SU hso (by rw[hd2];exact hd)
 |@seq x y x' y' _ _ ihx ihy=>
  intro c hc R s K r h φ a w g;obtain⟨c',hn,I,hsim⟩:=km P nt c;refine hsim _ _ _ ?_;rw[<- I] at hc;obtain⟨cx,cy,rfl,h1,h2⟩:=WV hn hc;simp only[pi] at h;refine wp_seq (wp_mono (ihx cx h1 R s _ r h φ a w g) ?_);rintro e a' w' ⟨ex,s',φ',rfl,hk,g',st,M⟩;have kp':gw ((TC.seq x y).asg 0) s.e s'.e:=M.mono λk hk=>by simp only[TC.asg];exact kx hk
  cases ex with
  |normal=>
   refine wp_mono (ihy cy h2 R s' K r hk φ' a' w' g') ?_;rintro e2 a2 w2 ⟨ex2,s2,φ2,rfl,hk2,g2,Z6,kp2⟩;exact⟨ex2,s2,φ2,rfl,hk2,g2,st.trans Z6,kp'.trans (kp2.mono λk hk=>by simp only[TC.asg];exact vK hk)⟩
  |exit id=>exact⟨.exit id,s',φ',rfl,hk,g',st,kp'⟩
  |ret=>exact⟨.ret,s',φ',rfl,hk,g',st,kp'⟩
 |@jseq A x y x' y' _ _ ihx ihy=>
  intro c hc R s K r h φ a w g;obtain⟨c',hn,I,hsim⟩:=km P nt c;refine hsim _ _ _ ?_;rw[<- I] at hc;obtain⟨cx,cy,rfl,h1,h2⟩:=WV hn hc;simp only[pi] at h;have sub1:∀ k,aN (x.asg 0) k=ai->aN ((TC.jseq A x y).asg 0) k=ai:=λk hk=>by simp only[TC.asg];exact kx (vK hk)
  have sub2:∀ k,aN (y.asg 0) k=ai->aN ((TC.jseq A x y).asg 0) k=ai:=λk hk=>by simp only[TC.asg];exact vK hk
  have sub3:∀ k,aN (LF A.ks 0) k=ai->aN ((TC.jseq A x y).asg 0) k=ai:=λk hk=>by simp only[TC.asg];exact kx (kx hk)
  rcases WS h with ⟨d,h3,h4⟩|h3
  .refine wp_seq (wp_mono (ihx cx h1 _ s _ _ h3 φ a w g) ?_);rintro e a' w' ⟨ex,s',φ',rfl,hk,g',st,M⟩;cases ex with
   |normal=>
    simp only[] at hk;obtain⟨d',Z,J⟩:=dN hk;simp only[ak,Sum.inr.injEq] at J;subst J;split at h4
    .rename_i s1 Y;obtain⟨φ1,g1,It⟩:=Ot g' Z Y λk _ _ v hv hf ha v' U=>by
      obtain⟨v0,e1,e2⟩:=M k ha v' U;rw[hv] at e1;cases e1;exact e2 hf
     refine wp_mono (ihy cy h2 R s1 K r h4 φ1 a' w' g1) ?_;rintro e2 a2 w2 ⟨ex2,s2,φ2,rfl,hk2,g2,Z6,kp2⟩;exact⟨ex2,s2,φ2,rfl,hk2,g2,(st.trans It).trans Z6,((Ez Y).1.mono sub3).trans (kp2.mono sub2)⟩
    .cases h4
   |exit id=>simp only[] at hk;obtain⟨_,_,J⟩:=dN hk;simp at J
   |ret=>simp only[] at hk;obtain⟨_,_,J⟩:=dN hk;simp at J
  .refine wp_seq (wp_mono (ihx cx h1 _ s _ _ h3 φ a w g) ?_);rintro e a' w' ⟨ex,s',φ',rfl,hk,g',st,M⟩;cases ex with
   |normal=>simp only[] at hk;obtain⟨_,_,J⟩:=dN hk;simp at J
   |exit id=>
    simp only[] at hk;obtain⟨r',Z,J⟩:=dN hk;simp only[ak,Sum.inl.injEq] at J;subst J;exact⟨.exit id,s',φ',rfl,Z,g',st,M.mono sub1⟩
   |ret=>
    simp only[] at hk;obtain⟨r',Z,J⟩:=dN hk;simp only[ak,Sum.inl.injEq] at J;subst J;exact⟨.ret,s',φ',rfl,Z,g',st,M.mono sub1⟩
 |@cond t x y x' y' _ _ ihx ihy=>
  intro c hc R s K r h φ a w g;obtain⟨c',hn,I,hsim⟩:=km P nt c;refine hsim _ _ _ ?_;rw[<- I] at hc;obtain⟨cx,cy,rfl,h1,h2⟩:=ab0 hn hc;simp only[pi] at h;split at h
  .rename_i b hb;rcases pH h with ⟨rfl,h⟩|⟨rfl,h⟩
   .refine wp_cond_true (g.bool hb) (wp_mono (ihx cx h1 R s K r h φ a w g) ?_);rintro e a' w' ⟨ex,s',φ',rfl,hk,g',st,M⟩;exact⟨ex,s',φ',rfl,hk,g',st,M.mono λk hk=>by simp only[TC.asg];exact kx hk⟩
   .refine wp_cond_false (g.bool hb) (wp_mono (ihy cy h2 R s K r h φ a w g) ?_);rintro e a' w' ⟨ex,s',φ',rfl,hk,g',st,M⟩;exact⟨ex,s',φ',rfl,hk,g',st,M.mono λk hk=>by simp only[TC.asg];exact vK hk⟩
  .rename_i hb;obtain⟨ha,hbb⟩:=Y0 h;obtain⟨bv,hbv⟩:=g.anyb hb;cases bv with
   |true=>
    refine wp_cond_true hbv (wp_mono (ihx cx h1 R s K r ha φ a w g) ?_);rintro e a' w' ⟨ex,s',φ',rfl,hk,g',st,M⟩;exact⟨ex,s',φ',rfl,hk,g',st,M.mono λk hk=>by simp only[TC.asg];exact kx hk⟩
   |false=>
    refine wp_cond_false hbv (wp_mono (ihy cy h2 R s K r hbb φ a w g) ?_);rintro e a' w' ⟨ex,s',φ',rfl,hk,g',st,M⟩;exact⟨ex,s',φ',rfl,hk,g',st,M.mono λk hk=>by simp only[TC.asg];exact vK hk⟩
  .cases h
 |@block id b b' _ ih=>
  intro c hc R s K r h φ a w g;obtain⟨c',hn,I,hsim⟩:=km P nt c;refine hsim _ _ _ ?_;rw[<- I] at hc;obtain⟨cb,rfl,h1⟩:=MS hn hc;simp only[pi] at h;refine wp_block (wp_mono (ih cb h1 R s _ r h φ a w g) ?_);rintro e a' w' ⟨ex,s',φ',rfl,hk,g',st,M⟩;cases ex with
  |normal=>exact⟨.normal,s',φ',rfl,hk,g',st,M⟩
  |ret=>exact⟨.ret,s',φ',rfl,hk,g',st,M⟩
  |exit i=>
   simp only[Ex.to,Exit.inBlock];simp only[] at hk;split at hk
   .rename_i hb;rw[aE (aw hb)];exact⟨.normal,s',φ',rfl,hk,g',st,M⟩
   .rename_i hb;rw[aA (λe=>hb (by rw[e];exact rW id))];exact⟨.exit i,s',φ',rfl,hk,g',st,M⟩
 |@jblock A id b b' _ ih=>
  intro c hc R s K r h φ a w g;obtain⟨c',hn,I,hsim⟩:=km P nt c;refine hsim _ _ _ ?_;rw[<- I] at hc;obtain⟨cb,rfl,h1⟩:=MS hn hc;simp only[pi] at h;have sub1:∀ k,aN (b.asg 0) k=ai->aN ((TC.jblock A id b).asg 0) k=ai:=λk hk=>by simp only[TC.asg];exact vK hk
  have sub3:∀ k,aN (LF A.ks 0) k=ai->aN ((TC.jblock A id b).asg 0) k=ai:=λk hk=>by simp only[TC.asg];exact kx hk
  rcases WS h with ⟨d,h3,h4⟩|h3
  .refine wp_block (wp_mono (ih cb h1 _ s _ _ h3 φ a w g) ?_);rintro e a' w' ⟨ex,s',φ',rfl,hk,g',st,M⟩;have fin:obind (L2 np A (b.asg 0) s s') (λx=>af (bX (α:=R) x))=af (bX d)->ai4 P E nt np φ s w ((TC.jblock A id b).asg 0) K r .normal a' w':=by
    intro hk;obtain⟨d',Z,J⟩:=dN hk;simp only[ak,Sum.inr.injEq] at J;subst J;split at h4
    .rename_i s1 Y;obtain⟨φ1,g1,It⟩:=Ot g' Z Y λk _ _ v hv hf ha v' U=>by
      obtain⟨v0,e1,e2⟩:=M k ha v' U;rw[hv] at e1;cases e1;exact e2 hf
     exact⟨.normal,s1,φ1,rfl,h4,g1,st.trans It,(Ez Y).1.mono sub3⟩
    .cases h4
   cases ex with
   |normal=>exact fin hk
   |ret=>simp only[] at hk;obtain⟨_,_,J⟩:=dN hk;simp at J
   |exit i=>
    simp only[Ex.to,Exit.inBlock];simp only[] at hk;split at hk
    .rename_i hb;rw[aE (aw hb)];exact fin hk
    .obtain⟨_,_,J⟩:=dN hk;simp at J
  .refine wp_block (wp_mono (ih cb h1 _ s _ _ h3 φ a w g) ?_);rintro e a' w' ⟨ex,s',φ',rfl,hk,g',st,M⟩;cases ex with
   |normal=>simp only[] at hk;obtain⟨_,_,J⟩:=dN hk;simp at J
   |ret=>
    simp only[] at hk;obtain⟨r',Z,J⟩:=dN hk;simp only[ak,Sum.inl.injEq] at J;subst J;exact⟨.ret,s',φ',rfl,Z,g',st,M.mono sub1⟩
   |exit i=>
    simp only[Ex.to,Exit.inBlock];simp only[] at hk;split at hk
    .obtain⟨_,_,J⟩:=dN hk;simp at J
    .rename_i hb;rw[aA (λe=>hb (by rw[e];exact rW id))];obtain⟨r',Z,J⟩:=dN hk;simp only[ak,Sum.inl.injEq] at J;subst J;exact⟨.exit i,s',φ',rfl,Z,g',st,M.mono sub1⟩
 |@loop A b b' _ ih=>
  intro c hc R s K r h φ a w g;obtain⟨c',hn,I,hsim⟩:=km P nt c;refine hsim _ _ _ ?_;rw[<- I] at hc;obtain⟨cb,rfl,h1⟩:=QO hn hc;simp only[pi] at h;obtain⟨x0,hx0,h⟩:=dN h;obtain⟨n,hn⟩:=X_ h;have sub1:∀ k,aN (b.asg 0) k=ai->aN ((TC.loop A b).asg 0) k=ai:=λk hk=>by simp only[TC.asg];exact vK hk
  have sub3:∀ k,aN (LF A.ks 0) k=ai->aN ((TC.loop A b).asg 0) k=ai:=λk hk=>by simp only[TC.asg];exact kx hk
  obtain⟨step,hstep⟩:∃ step:A.D->Option (A.D⊕R),step=λx=>(match Hg A (b.asg 0) s x with
   |some s'=>pi np con b8 inert b s' λex s'=>(match ex with
    |.normal=>obind (L2 np A (b.asg 0) s s') λy=>af (oY y)
    |ex=>obind (K ex s') λr=>af (bX r))
   |none=>ah):=⟨_,rfl⟩
  have hn:iterN step n x0=af r:=by rw[hstep];exact hn
  have stepEq:∀ x,step x=(match Hg A (b.asg 0) s x with
   |some s'=>pi np con b8 inert b s' λex s'=>(match ex with
    |.normal=>obind (L2 np A (b.asg 0) s s') λy=>af (oY y)
    |ex=>obind (K ex s') λr=>af (bX r))
   |none=>ah):=λx=>by rw[hstep]
  let Inv:Nat->Act->World->Prop:=λn a w'=>∃ x s1 φ1,iterN step n x=af r/\Hg A (b.asg 0) s x=af s1/\oW P E nt np φ1 s1 a w'/\Cv np φ φ1 (bC s.h) (bC s1.h) w w'
  have head:∀ (n:Nat) (x:A.D),iterN step n x=af r->∃ s1,Hg A (b.asg 0) s x=af s1:=by
   intro n x hn;cases n with
   |zero=>cases hn
   |succ n=>
    simp only[iterN] at hn;cases hr:Hg A (b.asg 0) s x with
    |some s1=>exact⟨s1,rfl⟩
    |none=>rw[stepEq,hr] at hn;cases hn
  refine Cy Inv ?_ (n:=n) ?_
  .rintro n a1 w1 ⟨x,s1,φ1,hi,hr,g1,It⟩;cases n with
   |zero=>cases hi
   |succ n=>
    simp only[iterN] at hi;have hse:=stepEq x;rw[hr] at hse;simp only[] at hse;obtain⟨kp1,kp1'⟩:=Ez hr;split at hi
    .rename_i y hy;rw[hy] at hse;refine wp_mono (ih cb h1 _ s1 _ _ hse.symm φ1 a1 w1 g1) ?_;rintro e a' w' ⟨ex,s',φ',rfl,hk,g',st,M⟩;cases ex with
     |normal=>
      simp only[] at hk;obtain⟨d',Z,J⟩:=dN hk;simp only[ak,Sum.inl.injEq] at J;subst J;obtain⟨s2,hs2⟩:=head n d' hi;obtain⟨φ2,g2,Z6⟩:=Ot g' Z hs2 λk hkk hks v hv hf ha v' U=>by
       obtain⟨v0,e1,e2⟩:=M k ha v' U;have:=kp1' k hks v0 e1;rw[hv] at this;cases this;exact e2 hf
      exact⟨n,by omega,d',s2,φ2,hi,hs2,g2,(It.trans st).trans Z6⟩
     |exit id=>simp only[] at hk;obtain⟨_,_,J⟩:=dN hk;simp at J
     |ret=>simp only[] at hk;obtain⟨_,_,J⟩:=dN hk;simp at J
    .rename_i r' hy;cases hi;rw[hy] at hse;refine wp_mono (ih cb h1 _ s1 _ _ hse.symm φ1 a1 w1 g1) ?_;rintro e a' w' ⟨ex,s',φ',rfl,hk,g',st,M⟩;cases ex with
     |normal=>simp only[] at hk;obtain⟨_,_,J⟩:=dN hk;simp at J
     |exit id=>
      simp only[] at hk;obtain⟨r',Z,J⟩:=dN hk;simp only[ak,Sum.inr.injEq] at J;subst J;exact⟨.exit id,s',φ',rfl,Z,g',It.trans st,(kp1.mono sub3).trans (M.mono sub1)⟩
     |ret=>
      simp only[] at hk;obtain⟨r',Z,J⟩:=dN hk;simp only[ak,Sum.inr.injEq] at J;subst J;exact⟨.ret,s',φ',rfl,Z,g',It.trans st,(kp1.mono sub3).trans (M.mono sub1)⟩
    .cases hi
  .obtain⟨s1,Y⟩:=head n x0 hn;obtain⟨φ1,g1,It⟩:=Ot g hx0 Y λk _ _ v hv _ _ v' U=>by rw[hv] at U;cases U;rfl
   exact⟨x0,s1,φ1,hn,Y,g1,It⟩
 |exit id=>
  intro c hc R s K r h φ a w g;obtain⟨c',hn,I,hsim⟩:=km P nt c;refine hsim _ _ _ ?_;rw[<- I] at hc;rw[aaz hn hc];exact wp_exit ⟨.exit id,s,φ,rfl,h,g,Cv.refl _ _ _ _,gw.refl _ _⟩
 |ret=>
  intro c hc R s K r h φ a w g;obtain⟨c',hn,I,hsim⟩:=km P nt c;refine hsim _ _ _ ?_;rw[<- I] at hc;rw[aey hn hc];exact wp_ret ⟨.ret,s,φ,rfl,h,g,Cv.refl _ _ _ _,gw.refl _ _⟩
 |defer f caps t=>
  intro c hc R s K r h φ a w g;obtain⟨c',hn,I,hsim⟩:=km P nt c;refine hsim _ _ _ ?_;rw[<- I] at hc;obtain⟨id,ops,dr,rfl,h1,h2⟩:=X' hn hc;simp only[pi] at h;split at h
  .rename_i l hl;split at h
   .rename_i hi;obtain⟨l',e1,e2⟩:=ze g.invE hl;obtain⟨H,hH⟩:=jU s.h;have lowN:∀ n k,φ n=af k->n<2*s.nx+2:=λn k hk=>by have:=g.dom n k hk;unfold ow at this;omega
    have cfg:Cfg P ⟨2*s.nx+2,φ,E,bC s.h,w⟩ nt ⟨JK s.e s.h,H,2*s.nx+2,0⟩ a w:=by
     refine ⟨⟨φ,?_,?_,?_,lowN,λi k hk=>.inl hk⟩,bT _,g.inert,g.size⟩
     .rw[hH];exact jh.refl _ _ _
     .rw[hH];exact g.rep
     .rw[hH,vD];exact g.env
    refine RO hin cfg h1 h2 e1 hi λa' w' c'=>?_
    obtain⟨φ',m',r',en',dm',d0'⟩:=c'.ex;have hφ:φ'=φ:=by
     funext n;cases hx:φ n with
     |some k=>exact m'.sub n k hx
     |none=>
      cases hy:φ' n with
      |none=>rfl
      |some k=>
       rcases d0' n k hy with h3|h3
       .have h3:φ n=af k:=h3;rw[hx] at h3;cases h3
       .have h4:n<2*s.nx+2:=dm' n k hy;have h5:2*s.nx+2<=n:=h3;omega
    subst hφ;simp only[hH] at m' r' en';refine ⟨.normal,_,φ',rfl,h,⟨r',?_,g.dom,g.low,g.invH,?_,c'.inert,c'.size⟩,⟨m'.ext,m'.own_,λ_ _=>rfl⟩,?_⟩
    .intro u x hx;refine en' u x ?_;simp only[fV,PT.get_set] at hx;simp only[Af.put,PT.get_set];split at hx
     .rename_i eu;rw[aE eu];simp only[aH,cj,e2,ak] at hx;rw[hx]
     .rename_i eu;rw[aA eu,vD];exact hx
    .intro u x hx;simp only[PT.get_set] at hx;split at hx
     .cases hx;simp only[LB];exact kT _ _ _ e2
     .exact g.invE u x hx
    .intro k hk v' U;simp only[PT.get_set] at U;split at U
     .rename_i ek;subst ek;simp only[TC.asg] at hk;rw[bu,bZ.2 rfl] at hk;simp at hk
     .exact⟨v',U,λ_=>rfl⟩
   .cases h
  .cases h
 |@adj l tc' sc' _ ih=>
  intro c hc R s K r h φ a w g;obtain⟨c',hn,I,hsim⟩:=km P nt c;refine hsim _ _ _ ?_;rw[<- I] at hc;simp only[pi] at h;split at h
  .rename_i s1 Y;obtain⟨φ1,g1,It,kp1⟩:=V3 g Y;refine wp_mono (ih c' hc R s1 K r h φ1 a w g1) ?_;rintro e a' w' ⟨ex,s',φ',rfl,hk,g',st,M⟩;exact⟨ex,s',φ',rfl,hk,g',It.trans st,(kp1.mono λk hk=>by simp only[TC.asg];exact kx hk).trans (M.mono λk hk=>by simp only[TC.asg];exact vK hk)⟩
  .cases h
 |@split k off lo n tc' sc' _ ih=>
  intro c hc R s K r h φ a w g;obtain⟨c',hn,I,hsim⟩:=km P nt c;refine hsim _ _ _ ?_;rw[<- I] at hc;simp only[pi] at h;split at h
  .rename_i kd v hv;obtain⟨j,hj,h2⟩:=Qh h;subst hj;split at h2
   .rename_i s1 Y;obtain⟨g1,hH,he⟩:=Z' g hv Y;refine wp_mono (ih c' hc R s1 K r h2 φ a w g1) ?_;rintro e a' w' ⟨ex,s',φ',rfl,hk,g',st,M⟩;exact⟨ex,s',φ',rfl,hk,g',by rw[<- hH];exact st,λk hk v' U=>by
     obtain⟨v,Z,J⟩:=M k hk v' U;exact⟨v,by rw[<- he];exact Z,J⟩⟩
   .cases h2
  .cases h
 |@unl n b b' _ ih=>
  intro c hc R s K r h φ a w g;obtain⟨c',hn,I,hsim⟩:=km P nt c;refine hsim _ _ _ ?_;rw[<- I] at hc;obtain⟨cb,rfl,h1⟩:=QO hn hc;simp only[pi] at h
  let Inv:Nat->Act->World->Prop:=λm a w'=>∃ s1 φ1,ae5 (λs K=>pi np con b8 inert b s K) m s1 K=af r/\oW P E nt np φ1 s1 a w'/\Cv np φ φ1 (bC s.h) (bC s1.h) w w'/\gw (b.asg 0) s.e s1.e
  refine Cy Inv ?_ (n:=n) ⟨s,φ,h,g,Cv.refl _ _ _ _,gw.refl _ _⟩;rintro m a1 w1 ⟨s1,φ1,hi,g1,It,kp1⟩;cases m with
  |zero=>cases hi
  |succ m=>
   simp only[ae5] at hi;refine wp_mono (ih cb h1 R s1 _ r hi φ1 a1 w1 g1) ?_;rintro e a' w' ⟨ex,s',φ',rfl,hk,g',st,M⟩;cases ex with
   |normal=>exact⟨m,qR m,s',φ',hk,g',It.trans st,kp1.trans M⟩
   |exit id=>exact⟨.exit id,s',φ',rfl,hk,g',It.trans st,kp1.trans M⟩
   |ret=>exact⟨.ret,s',φ',rfl,hk,g',It.trans st,kp1.trans M⟩
 |bad sc'=>
  intro c hc R s K r h;simp[pi] at h
theorem N_ {P:Program} {φ:PM} {E:Nat->Prop} {s:TS} {a:Act} {w:World} (hinv:mi s.h s.nx) (hiE:tW s.e s.h) (r:re φ E (bC s.h) w) (en:ND φ (tot E φ (bC s.h)) w (fV s.e s.h) a):∀ (rs:List ResultVar) (rvs:List RV) (l:List TV),vJ P rs=af rvs->Ua s rvs=af l->
 ∃ la vs,cL s.h l=af la/\(rs.mapM (XZ a.tmps)).run P w= .ok vs w/\j_ φ (tot E φ (bC s.h)) w la vs
 |[],rvs,l,hc,hr=>by
  simp only[vJ,ak] at hc;subst hc;simp only[Ua,ak] at hr;subst hr;exact⟨[],[],rfl,by simp,trivial⟩
 |.tmp t::rs,rvs,l,hc,hr=>by
  simp only[vJ] at hc;split at hc
  .rename_i rvs' hrs;simp only[ak] at hc;subst hc;simp only[Ua] at hr;split at hr
   .rename_i v hv;split at hr
    .rename_i M I;simp only[ak] at hr;subst hr;obtain⟨la,vs,h0,h1,h2⟩:=N_ hinv hiE r en rs rvs' M hrs I;simp only[rvT] at hv;obtain⟨y,Y⟩:=qg s.h v (hiE t v hv);refine ⟨y::la,a.tmps.getD t undef::vs,pe Y h0,?_,en t y (by simp only[fV,hv,aH,Y]),h2⟩;simp only[List.mapM_cons,eP,XZ,oZ,cJ];show ((rs.mapM (XZ a.tmps)).run P w).andThen _=_;rw[h1];rfl
    .cases hr
   .cases hr
  .cases hc
 |.cell ad t::rs,rvs,l,hc,hr=>by
  simp only[vJ] at hc;split at hc
  .rename_i rvs' sz ag hrs hsz hag;simp only[ak] at hc;subst hc;simp only[Ua] at hr;split at hr
   .rename_i v hv;split at hr
    .rename_i M I;simp only[ak] at hr;subst hr;obtain⟨la,vs,h0,h1,h2⟩:=N_ hinv hiE r en rs rvs' M hrs I;simp only[rvT] at hv;split at hv
     .rename_i id off hp;split at hv
      .rename_i ty q hb;obtain⟨q',J⟩:=fA s.h q (hinv.cells id ty q hb);obtain⟨y,e1,e2⟩:=Wm J hv;obtain⟨H,Z⟩:=jU s.h;have hR:Ea H sz ag (.ptr (nm id) off)=af ⟨y,[nm id],[],[],[]⟩:=by
        have hg:H.get (nm id)=af ⟨ty,.mx q'⟩:=by rw[Z,bM,hb];simp only[aH,kH,J]
        simp only[Ea,hg,e2]
       obtain⟨_,_,_,h3⟩:=S4 (P:=P) hsz hag hR;obtain⟨qq,U,h4,h5,h6⟩:=h3 φ E (bC s.h) w _ (λi _=>by rw[Z]) r (en ad _ (by simp only[fV,hp,aH,cj]));refine ⟨y::la,U::vs,pe e1 h0,?_,h6,h2⟩;have hone:(XZ a.tmps (.cell ad t)).run P w= .ok U w:=by
        simp only[XZ,eP,h4,asAddr,oZ,cJ,h5]
       rw[List.mapM_cons];simp only[eP,hone,cJ,h1,oZ]
      .cases hv
     .cases hv
    .cases hr
   .cases hr
  .cases hc
theorem FD:∀ (args:List TV) (k t:Nat) (x:TV),(KW k args).get t=af x->k<=t/\args[t-k]? =af x
 |[],k,t,x,h=>by simp[KW,PT.get] at h
 |y::args,k,t,x,h=>by
  rw[KW,PT.get_set] at h;split at h
  .rename_i hk;subst hk;cases h;exact⟨bT _,by simp⟩
  .obtain⟨h1,h2⟩:=FD args (k+1) t x h;refine ⟨by omega,?_⟩;rw[show t-k=t-(k+1)+1 from by omega];simpa using h2
theorem aaj {h:bk} {l:List TV} (J:kX h l=ai) {j:Nat} {v:TV} (hj:l[j]? =af v):LB h v=ai:=by
 obtain⟨M,hl⟩:=fA h l J;obtain⟨y,_,I⟩:=me hl j v hj;exact Fj _ _ _ I
theorem T2 {P:Program} {con:FuncId->Option cr} {b8:TypeId->Option Ty} {inert:FuncId->Bool} (hm:P.follows .mixedOrders=ai) (hcon:Li P con) (hin:Lc P inert) {f:FuncId} {sf:SF} (hf:zX P f=af sf) (D:FT) (m:D.pre.ty.den->Option D.post.ty.den) (hmod:∀ x y,m x=af y->Z3 con b8 inert (af sf) D x=af y):pY P f ⟨D.pre,D.post,m⟩:=by
 obtain⟨fn,c,hfn,hb,hnm,hcode,hres,hnt⟩:=Sw hf;refine ⟨⟨fn,hfn,by rw[hb];rfl,hnm⟩,λx y hxy vs hp l1 rs hq l2 la lr I J hla hlr φ E w us hrep hrel hdom=>?_⟩;have ht:=hmod x y hxy;unfold Z3 at ht;simp only[] at ht;split at ht
 .rename_i args h hins;obtain⟨l1',I'⟩:=wO hins;have e1:args=vs:=by have h1:=I.pv;have h2:=I'.pv;rw[h1] at h2;cases h2;rfl
  have e2:l1'=l1:=by have h1:=I.pb;have h2:=I'.pb;rw[h1] at h2;cases h2;rfl
  subst e1;subst e2;have hget:∀ i,h.get i=hp.get i:=λi=>by
   cases h3:hp.get i with
   |some b=>exact (I'.at_ i b).2 ((I.at_ i b).1 h3)
   |none=>
    cases h4:h.get i with
    |none=>rfl
    |some b=>have:=(I.at_ i b).2 ((I'.at_ i b).1 h4);rw[h3] at this;cases this
  have hrow:∀ i,eJ h i=eJ hp i:=λi=>by rw[bV,bV,hget]
  have herH:bC h=bC hp:=by
   funext n;by_cases hn:∃ i,n=nm i
   .obtain⟨i,rfl⟩:=hn;rw[bM,bM,hget];cases h3:hp.get i with
    |none=>rfl
    |some b=>
     simp only[aH];refine JL (λi r hr=>by rw[hrow];exact hr) λty l e=>?_
     exact (I.cells i ty l (by rw[h3,e])).1
   .rw[wS _ hn,wS _ hn]
  have hla':cL h args=af la:=h_ (λi r hr=>by rw[hrow];exact hr) args la hla;split at ht
  .rename_i hle;simp only[av] at hle;have hle2:=a_ hle.2;have hle:=a_ hle.1;have hlen:=hrel.length;have hargl:args.length=la.length:=(ii hla).symm;refine calls_of_wp_defers hfn hb ?_;have hcfg:oW P E fn.ntmps D.pre.bs.length φ ⟨KW 0 args,h,D.pre.bs.length⟩ {tmps:=us.toArray++oG (fn.ntmps-us.toArray.size) undef,defers:=[]} w:=by
    refine ⟨by rw[herH];exact hrep,?_,hdom,bT _,⟨λi ty l hl=>(I'.cells i ty l hl).1,λi b hbb=>I'.lt_len hbb⟩,?_,by simp,by simp;omega⟩
    .intro t z U;simp only[fV] at U;cases Z:(KW 0 args).get t with
     |none=>rw[Z] at U;cases U
     |some v0=>
      rw[Z] at U;obtain⟨_,h2⟩:=FD args 0 t v0 Z;rw[Nat.sub_zero] at h2;obtain⟨y0,q1,Y⟩:=me hla' t v0 h2;simp only[aH] at U;rw[U] at Y;cases Y;obtain⟨v,h3,h4⟩:=hrel.get t z q1;have hlt:t<us.length:=(bg.1 h3).1;have:(us.toArray++oG (fn.ntmps-us.toArray.size) undef).getD t undef=v:=by
       rw[gJ,Array.getElem?_append];simp only[tH,hlt,bG,ky,h3,vg]
      show cM φ _ w z ((us.toArray++oG (fn.ntmps-us.toArray.size) undef).getD t undef);rw[this,herH];exact h4
    .intro t v0 hv0;obtain⟨_,h2⟩:=FD args 0 t v0 hv0;exact aaj I'.ok h2
   refine wp_mono (aik (E:=E) hm hcon hin (yc D.hints sf.code 0) c hcode.symm _ _ _ _ ht φ _ w hcfg) ?_;rintro e a' w' ⟨ex,s',φ',rfl,hk,g',st,_⟩;have fin:(match Ua s' sf.res with
    |some l=>(match EM D.pre.bs.length D.post l s'.h with
     |some ⟨y,_,_,_⟩=>(match Db D.post y with|some _=>af y|none=>ah)
     |none=>ah)
    |none=>ah)=af y->Leaves P fn a'.tmps (λen w'=>∃ v φ',en= .returned v/\Lf (own φ (bC hp)) w w'/\(∀ k,k<w.heap.size->own φ' (bC hq) k->own φ (bC hp) k)/\(∀ i,i<D.pre.bs.length->φ' (nm i)=φ (nm i))/\re φ' E (bC hq) w'/\cM φ' (tot E φ' (bC hq)) w' (Et lr) v) a'.defers .returning w':=by
    intro hk;split at hk
    .rename_i l hl;split at hk
     .rename_i y' m' σ sm hM;split at hk
      .simp only[ak] at hk;subst hk;obtain⟨lo,rvs,q0,q1,Y⟩:=N_ g'.invH g'.invE g'.rep g'.env fn.results.toList sf.res l hres hl;have M:=wI hM;obtain⟨φ2,lu,hlu,S⟩:=Lw (np:=D.pre.bs.length) (E:=E) J g'.invH M q0 g'.rep;rw[hlr] at hlu;cases hlu;have hresults:(results fn a'.tmps).run P w'= .ok (if h:rvs.toArray.size=1 then rvs.toArray[0] else .tuple rvs.toArray) w':=by
        rw[Uc,Array.mapM_eq_mapM_toList];simp only[eP,Sem.run_map,q1,cJ,oZ]
       have hrl:j_ φ2 (tot E φ2 (bC hq)) w' lr rvs:=by
        refine j_.of (by rw[Y.length,S.len]) λj z v U hv=>?_
        obtain⟨z0,p1,p2⟩:=S.val j z v U;obtain⟨v',p3,p4⟩:=Y.get j z0 p1;rw[hv] at p3;cases p3;exact p2 p4
       have hval:cM φ2 (tot E φ2 (bC hq)) w' (Et lr) (if h:rvs.toArray.size=1 then rvs.toArray[0] else .tuple rvs.toArray):=by
        have hll:=hrl.length;clear hlr S;cases lr with
        |nil=>
         cases rvs with
         |nil=>exact cM.tup (vs:=[]) rfl (by intro j x v Z;simp at Z)
         |cons _ _=>exact hrl.elim
        |cons z lr=>
         cases rvs with
         |nil=>exact hrl.elim
         |cons v rvs=>
          cases lr with
          |nil=>
           cases rvs with
           |nil=>exact hrl.1
           |cons _ _=>exact hrl.2.elim
          |cons y l=>
           cases rvs with
           |nil=>exact hrl.2.elim
           |cons u rvs=>
            rw[dif_neg (by simp)];refine cM.tup (vs:=v::u::rvs) (by simpa using hll) λj x' v' Z hv=>?_
            obtain⟨v'',q1,Y⟩:=hrl.get j x' Z;rw[hv] at q1;cases q1;exact Y
       have st':Cv D.pre.bs.length φ φ' (bC hp) (bC s'.h) w w':=by rw[<- herH];exact st
       refine C6 hresults ⟨_,φ2,rfl,st'.ext,λk hk ho=>st'.own_ k hk (S.own_ k ho),λi hi=>?_,S.rep,hval⟩ a'.defers g'.inert;rw[S.par i hi (dE hi hle2),st'.par i hi]
      .cases hk
     .cases hk
    .cases hk
   cases ex with
   |normal=>exact fin hk
   |ret=>exact fin hk
   |exit id=>cases hk
  .cases ht
 .cases ht
def Vx:List (FuncId×cr)->FuncId->Option cr
 |[],_=>ah
 |(g,c)::r,f=>if aC g f then af c else Vx r f
def TE (P:Program):List (FuncId×cr)->Prop
 |[]=>True
 |p::r=>aI P p.1 p.2/\TE P r
theorem Xn {P:Program}:∀ {l:List (FuncId×cr)},TE P l->Li P (Vx l)
 |[],_,f,c,h=>by simp[Vx] at h
 |(g,d)::r,I,f,c,h=>by
  simp only[Vx] at h;split at h
  .rename_i hb;have:=aw hb;subst this;cases h;exact I.1
  .exact Xn I.2 f c h
theorem Rk {P:Program} {inert:FuncId->Bool} (hm:P.follows .mixedOrders=ai) (hin:Lc P inert) {l:List (FuncId×cr)} (I:TE P l) {b8:TypeId->Option Ty} {f:FuncId} {D:FT} {m:D.pre.ty.den->Option D.post.ty.den} (hs:(zX P f).isSome=ai) (he:∀ x,Z3 (Vx l) b8 inert (zX P f) D x=m x):pY P f ⟨D.pre,D.post,m⟩:=by
 obtain⟨J,hf⟩:=iR.1 hs;exact T2 hm (Xn I) hin hf D m λx y hxy=>by rw[<- hf,he];exact hxy
theorem pY.sub {P:Program} {f:FuncId} {pre post:Tm} {m m':pre.ty.den->Option post.ty.den} (h:pY P f ⟨pre,post,m⟩) (hs:∀ x y,m' x=af y->m x=af y):pY P f ⟨pre,post,m'⟩:=
 ⟨h.callable,λx y hxy=>h.calls x y (hs x y hxy)⟩
theorem aI.sub {P:Program} {f:FuncId} {pre post:Tm} {m m':pre.ty.den->Option post.ty.den} (h:aI P f ⟨pre,post,m⟩) (hb:eQ pre.bs.length post.bs.length=ai) (hs:∀ x y,m' x=af y->m x=af y):aI P f ⟨pre,post,m'⟩:=
 ((h.holds hb).sub hs).toC hb
theorem rR {α:Type} {b:Nat}:∀ (x y:List α),chk (bc (al x) b) (λ_=>af x)=af y->bcase (aC (al x) 0) (FB (af ([]:List α)) (chk (bc (al ([]:List α)+al x) b) λ_=>(af (([]:List α)++x)))) (chk (bc (al ([]:List α)+al x) b) λ_=>(af (([]:List α)++x)))=af y:=by
 intro x y h;rw[lY,j6,bO,h];cases x with
 |nil=>
  obtain⟨_,h⟩:=ef h;cases h;show FB (af []) (af [])=_;unfold FB;rw[aE rfl]
 |cons a r=>rfl
theorem UU {P:Program} {f:FuncId} {pre post:Tm} (hs:(zX P f).isSome=ai):pY P f ⟨pre,post,λ_=>ah⟩:=by
 obtain⟨I,hf⟩:=iR.1 hs;obtain⟨fn,c,hfn,hb,hnm,_⟩:=Sw hf;exact⟨⟨fn,hfn,by rw[hb];rfl,hnm⟩,λx y h=>by cases h⟩
theorem pY.orElse {P:Program} {f:FuncId} {pre post:Tm} {m m':pre.ty.den->Option post.ty.den} (h:pY P f ⟨pre,post,m⟩) (h':pY P f ⟨pre,post,m'⟩):pY P f ⟨pre,post,λx=>match m x with|some y=>af y|none=>m' x⟩:=
 ⟨h.callable,λx y hxy=>by
   cases hm:m x with
   |some z=>rw[show (cr.m ⟨pre,post,λx=>match m x with|some y=>af y|none=>m' x⟩ x)=af z by show (match m x with|some y=>af y|none=>m' x)=af z;rw[hm]] at hxy;cases hxy;exact h.calls x _ hm
   |none=>rw[show (cr.m ⟨pre,post,λx=>match m x with|some y=>af y|none=>m' x⟩ x)=m' x by show (match m x with|some y=>af y|none=>m' x)=m' x;rw[hm]] at hxy;exact h'.calls x y hxy⟩
theorem aI.orE {P:Program} {f:FuncId} {pre post:Tm} {m m':pre.ty.den->Option post.ty.den} (hb:eQ pre.bs.length post.bs.length=ai) (h:aI P f ⟨pre,post,m⟩) (h':aI P f ⟨pre,post,m'⟩):aI P f ⟨pre,post,λx=>AI.orE (m x) (m' x)⟩:=by
 have e:(λx=>AI.orE (m x) (m' x))=λx=>match m x with|some y=>af y|none=>m' x:=by funext x;cases m x<;>rfl
 rw[e];exact ((h.holds hb).orElse (h'.holds hb)).toC hb
def ZY (P:Program) (f:Ty->TypeId->Bool):List Field->Nat->Ty->Bool
 |[],_,.un=>ai
 |[x],off,T=>aC x.offset off&&f T x.type&&aC (P.cellsOf x.type) T.size
 |x::y::r,off,.pr a b=>aC x.offset off&&f a x.type&&aC (P.cellsOf x.type) a.size&&ZY P f (y::r) (off+a.size) b
 |_,_,_=>aj
def TZ (P:Program) (f:Ty->TypeId->Bool) (e:TypeId):Nat->Ty->Bool
 |1,T=>f T e&&aC (P.cellsOf e) T.size
 |m+2,.pr a b=>f a e&&aC (P.cellsOf e) a.size&&TZ P f e (m+1) b
 |_,_=>aj
def BF (P:Program):Nat->Ty->TypeId->Bool
 |0,_,_=>aj
 |n+1,T,t=>match T,P.underlying t with
  |.int k,af (.int k')=>k==k'
  |.bool,af .bool=>ai
  |.str,af .string=>ai
  |.sl U,af (.slice e)=>BF P n U e&&aC (P.cellsOf e) U.size&&gk 0 U.size
  |.st U,af (.struct fs)=>ZY P (BF P n) fs.toList 0 U&&aC (P.cellsOf t) U.size
  |.st U,af (.array m e)=>TZ P (BF P n) e m U&&aC (P.cellsOf t) U.size
  |_,_=>aj
def Wi:(T:Ty)->T.den->Prop
 |.int k,n=>(Lit.int k n).wf=ai
 |.str,s=>al s<=maxLen
 |.sl U,xs=>al xs<=maxLen/\∀ x∈(xs:List U.den),Wi U x
 |.st t,v=>Wi t v
 |.pr a b,v=>Wi a v.1/\Wi b v.2
 |_,_=>True
def K6 (W:World) (T:Ty) (x:T.den) (cs:List Value):Prop:=cs.length=T.size/\∀ (j:Nat) y v,(bS T x)[j]? =af y->cs[j]? =af v->nC (λ_=>False) W y v
theorem KH {α:Type} (z:α) (P:Nat->α->Prop):∀ n:Nat,(∀ i,i<n->∃ a,P i a)->∃ l:List α,l.length=n/\∀ i x,l[i]? =af x->P i x
 |0,_=>⟨[],rfl,λi x h=>by simp at h⟩
 |n+1,h=>by
  obtain⟨l,hl,hp⟩:=KH z P n (λi hi=>h i (by omega));obtain⟨a,J⟩:=h n (by omega);refine ⟨l++[a],by simp[hl],λi x I=>?_⟩;by_cases hi:i<l.length
  .rw[bJ hi] at I;exact hp i x I
  .rw[bW (by omega)] at I;by_cases h0:i-l.length=0
   .rw[h0] at I;simp at I;subst I;rw[show i=n from by omega];exact J
   .rw[bR (by simp;omega)] at I;cases I
theorem Addr.add_plain {a:Addr} (h:a.spot=ah) (n:Nat):a.add n=⟨a.block,a.off+n,ah⟩:=by
 unfold Addr.add;split
 .rename_i h0;subst h0;cases a;simp at h;subst h;rfl
 .rfl
theorem YW {w:World} {a:Addr} {v:Value} (h:w.cell? a=af v):a.spot=ah:=by
 unfold NI at h;split at h
 .split at h
  .cases h
  .rename_i hs;cases hh:a.spot with
   |none=>rfl
   |some _=>simp[hh] at hs
 .cases h
theorem K6.sub {W:World} {T:Ty} {x:T.den} {cs:List Value} {off n:Nat} (h:K6 W T x ((cs.drop off).take n)) (hn:n=T.size) (hl:off+n<=cs.length):∀ (j:Nat) y v,(bS T x)[j]? =af y->cs[off+j]? =af v->nC (λ_=>False) W y v:=λj y v I hv=>by
 refine h.2 j y v I ?_;have hj:j<T.size:=by have:=(bg.1 I).1;rwa [bD] at this
 rw[cH,aE (by omega),hY];exact hv
section
variable {H:Type} {enc:TypeId×Value->H} {P:Program} {W:World} {base:Nat} {sp:Nat->Bool} {hd:Bool}
theorem WC {f:Ty->TypeId->Bool} {m:Nat} (M:∀ (T:Ty) (t:TypeId) (cs:List Value) x,f T t=ai->DataW.trod enc P W base sp hd m t cs=af x->∃ v,K6 W T v cs/\Wi T v) (cs:List Value) (ts:List (DataW H×List MemPlace)):
 ∀ (fs:List Field) (off k:Nat) (T:Ty),ZY P f fs off T=ai->off+T.size<=cs.length->(∀ (i:Nat) (fl:Field),fs[i]? =af fl->∃ z,DataW.trod enc P W base sp hd m fl.type ((cs.drop fl.offset).take (P.cellsOf fl.type))=af z)->
 ∃ v,(∀ (j:Nat) y u,(bS T v)[j]? =af y->cs[off+j]? =af u->nC (λ_=>False) W y u)/\Wi T v
 |[],off,k,.un,_,_,_=>⟨(),λj y u I=>by simp[bS] at I,trivial⟩
 |[x],off,k,T,h,hl,hg=>by
  simp only[ZY,av] at h;obtain⟨⟨h1,h2⟩,J⟩:=h;have h1:=aw h1;have J:=aw J;obtain⟨z,U⟩:=hg 0 x rfl;obtain⟨v,hv,Z⟩:=M T _ _ _ h2 U;rw[h1] at hv;exact⟨v,hv.sub J (by omega),Z⟩
 |x::x'::r,off,k,.pr a b,h,hl,hg=>by
  simp only[ZY,av] at h;obtain⟨⟨⟨h1,h2⟩,J⟩,h4⟩:=h;have h1:=aw h1;have J:=aw J;simp only[Ty.size] at hl;obtain⟨z,U⟩:=hg 0 x rfl;obtain⟨v,hv,Z⟩:=M a _ _ _ h2 U;rw[h1] at hv;have hv:=hv.sub J (by omega);obtain⟨v',hv',Y⟩:=WC M cs ts (x'::r) (off+a.size) (k+1) b h4 (by omega) (λi fl hi=>hg (i+1) fl (by simpa using hi));refine ⟨(v,v'),λj y u I hu=>?_,Z,Y⟩;simp only[bS] at I;by_cases hj:j<a.size
  .rw[bJ (by rw[bD];exact hj)] at I;exact hv j y u I hu
  .rw[bW (by rw[bD];omega),bD] at I;exact hv' _ y u I (by rw[show off+a.size+(j-a.size)=off+j from by omega];exact hu)
theorem WD {f:Ty->TypeId->Bool} {m:Nat} {e:TypeId} (J:∀ (T:Ty) (t:TypeId) (cs:List Value) x,f T t=ai->DataW.trod enc P W base sp hd m t cs=af x->∃ v,K6 W T v cs/\Wi T v) (cs:List Value):
 ∀ (n i:Nat) (T:Ty),TZ P f e n T=ai->i*P.cellsOf e+T.size<=cs.length->(∀ j,j<n->∃ z,DataW.trod enc P W base sp hd m e ((cs.drop ((i+j)*P.cellsOf e)).take (P.cellsOf e))=af z)->
 ∃ v,(∀ (j:Nat) y u,(bS T v)[j]? =af y->cs[i*P.cellsOf e+j]? =af u->nC (λ_=>False) W y u)/\Wi T v
 |0,i,T,h,_,_=>by unfold TZ at h;cases h
 |1,i,T,h,hl,hg=>by
  simp only[TZ,av] at h;have h3:=aw h.2;obtain⟨z,M⟩:=hg 0 (by omega);obtain⟨v,hv,Y⟩:=J T _ _ _ h.1 M;rw[du] at hv;exact⟨v,hv.sub h3 (by omega),Y⟩
 |n+2,i,T,h,hl,hg=>by
  cases T with
  |pr a b=>
   simp only[TZ,av] at h;obtain⟨⟨h1,h2⟩,h4⟩:=h;have h3:=aw h2;simp only[Ty.size] at hl;obtain⟨z,M⟩:=hg 0 (by omega);obtain⟨v,hv,Y⟩:=J a _ _ _ h1 M;rw[du] at hv;have hv:=hv.sub h3 (by omega);obtain⟨v',Z,U⟩:=WD J cs (n+1) (i+1) b h4 (by rw[NL,Nat.one_mul];omega) (λj hj=>by have:=hg (j+1) (by omega);rwa [show i+(j+1)=i+1+j from by omega] at this);refine ⟨(v,v'),λj y u I hu=>?_,Y,U⟩;simp only[bS] at I;by_cases hj:j<a.size
   .rw[bJ (by rw[bD];exact hj)] at I;exact hv j y u I hu
   .rw[bW (by rw[bD];omega),bD] at I;exact Z _ y u I (by rw[NL,Nat.one_mul,show i*P.cellsOf e+P.cellsOf e+(j-a.size)=i*P.cellsOf e+j from by omega];exact hu)
  |_=>unfold TZ at h;cases h
theorem H3:∀ (n:Nat) (T:Ty) (t:TypeId) (fuel:Nat) (cs:List Value) x,BF P n T t=ai->(∀ b,sp b=ai)->DataW.trod enc P W base sp hd fuel t cs=af x->∃ v,K6 W T v cs/\Wi T v
 |0,_,_,_,_,_,h,_,_=>by unfold BF at h;cases h
 |n+1,T,t,fuel,cs,x,h,hsp,ht=>by
  unfold BF at h;split at h
  .rename_i k k' hu;have hk:=eq_of_beq h;subst hk;obtain⟨m,rfl,_,J⟩:=DataW.trod_int hu ht;refine ⟨m,⟨rfl,λj y v I hv=>?_⟩,J⟩;cases j with
   |zero=>simp[bS] at I hv;subst I hv;exact .raw _
   |succ j=>simp[bS] at I
  .rename_i hu;obtain⟨b,rfl,_⟩:=DataW.trod_bool hu ht;refine ⟨b,⟨rfl,λj y v I hv=>?_⟩,trivial⟩;cases j with
   |zero=>simp[bS] at I hv;subst I hv;exact .raw _
   |succ j=>simp[bS] at I
  .rename_i hu;obtain⟨s,rfl,_,hs⟩:=DataW.trod_string hu ht;refine ⟨s.data.toList,⟨rfl,λj y v I hv=>?_⟩,by simpa[Wi] using hs⟩;cases j with
   |zero=>simp[bS] at I hv;subst I hv;exact .raw _
   |succ j=>simp[bS] at I
  .rename_i U e hu;simp only[av] at h;obtain⟨⟨h1,h2⟩,h3⟩:=h;have h2:=aw h2;have h3:0<U.size:=a_ h3;rcases Go.Deep.open_slice hu ht with ⟨rfl,_⟩|⟨a,len,cap,m,k,D,Pl,rfl,hb,hl,hm,hmm,_,hi⟩
   .refine ⟨[],⟨rfl,λj y v I hv=>?_⟩,by simp[Wi]⟩;cases j with
    |zero=>simp[bS] at I hv;subst I hv;exact .nil _ _ (by unfold maxLen;omega)
    |succ j=>simp[bS] at I
   .rw[hsp,aE rfl] at hmm;rw[h2] at hi;obtain⟨xs,hx1,Y⟩:=KH U.zero (λi (v:U.den)=>∃ cs',W.cells? base (a.add (i*U.size)) U.size=af cs'/\K6 W U v cs'/\Wi U v) len (λi hil=>by
     obtain⟨cs',hc,htt⟩:=hi i (by omega);obtain⟨v,hv,J⟩:=H3 n U e k cs' _ h1 hsp htt;exact⟨v,cs',hc,hv,J⟩)
    refine ⟨xs,⟨rfl,λj y v I hv=>?_⟩,by show al xs<=maxLen;omega,λy I=>?_⟩
    .cases j with
     |succ j=>simp[bS] at I
     |zero=>
      simp[bS] at I hv;subst I hv;by_cases h0:len=0
      .have:xs=[]:=gP.1 (by omega);subst this;subst h0;exact .nil _ _ hm
      .obtain⟨x0,hx0⟩:∃ x0,xs[0]? =af x0:=⟨xs[0]'(by omega),aB (by omega)⟩
       obtain⟨cs0,hc0,_⟩:=Y 0 x0 hx0;obtain⟨_,hcl0,hat0⟩:=World.cells?_some hc0;have hca:=hat0 0 h3;rw[aB (by omega)] at hca;have hspot:a.spot=ah:=by
        have:=YW hca;simpa[Addr.add] using this
       have hblk:=World.block_lt_of_cell? W _ hca;rw[Nat.zero_mul,Addr.add_plain hspot,Addr.add_plain rfl] at hca hblk;have hcell:∀ (i j:Nat) x,xs[i]? =af x->j<U.size->∃ cs',W.cell? ⟨a.block,a.off+(i*U.size+j),ah⟩=cs'[j]? /\j<cs'.length/\K6 W U x cs':=λi j x Z hj=>by
        obtain⟨cs',hc,hr,_⟩:=Y i x Z;obtain⟨_,hcl,hat⟩:=World.cells?_some hc;have:=hat j hj;rw[Addr.add_plain hspot,Addr.add_plain rfl,sT] at this;exact⟨cs',this,by omega,hr⟩
       have hflat:∀ j,j<xs.length*U.size->∃ x,xs[j/U.size]? =af x/\j%U.size<U.size/\j=j/U.size*U.size+j%U.size:=λj hj=>by
        have h5:j/U.size<xs.length:=Nat.div_lt_of_lt_mul (by rw[HU];exact hj);exact⟨xs[j/U.size],aB h5,Nat.mod_lt _ h3,by rw[HU];exact (Nat.div_add_mod j U.size).symm⟩
       have hlen:(List.flatMap (bS U) xs).length=xs.length*U.size:=fH (bD U) xs;obtain⟨ab,ao,az⟩:=a;cases hspot;rw[<- hx1];refine .sl (List.flatMap (bS U) xs) xs.length cap ab ao (λj=>(W.cell? ⟨ab,ao+j,ah⟩).getD undef) (by omega) hm (λh=>h) hblk (rN U xs) (λj hj=>?_) (λj y I=>?_)
       .obtain⟨x,Z,hjs,hje⟩:=hflat j (by omega);obtain⟨cs',g1,g2,_⟩:=hcell _ _ x Z hjs;rw[<- hje] at g1;simp only[g1,aB g2,vg]
       .have hj:j<xs.length*U.size:=by rw[<- hlen];exact (bg.1 I).1
        obtain⟨x,Z,hjs,hje⟩:=hflat j hj;obtain⟨cs',g1,g2,g3⟩:=hcell _ _ x Z hjs;rw[<- hje] at g1;simp only[g1];rw[aB g2];refine g3.2 (j%U.size) y _ ?_ (aB g2);obtain⟨r,hr⟩:=Fg (bD U) xs (j/U.size) x Z;have:((List.flatMap (bS U) xs).drop (j/U.size*U.size))[j%U.size]? =af y:=by rw[hY,<-hje];exact I
        rw[hr,bJ (by rw[bD];exact hjs)] at this;exact this
    .obtain⟨i,M⟩:=eD I;obtain⟨_,_,_,J⟩:=Y i y M;exact J
  .rename_i U fs hu;simp only[av] at h;have h2:=aw h.2;obtain⟨xs,m,rfl,_,hl,hxl,hg⟩:=DataW.trod_struct hu ht;obtain⟨v,hv,J⟩:=WC (f:=BF P n) (m:=m) (λT t cs x h1 h2=>H3 n T t m cs x h1 hsp h2) cs xs fs.toList 0 0 U h.1 (by omega) (λi fl hi=>by
    have M:fs[i]? =af fl:=by simpa using hi
    have:=hg i fl M;have hlt:i<xs.length:=by rw[hxl];exact (cF.1 M).1
    rw[aB hlt] at this;exact⟨_,this⟩)
   exact⟨v,⟨by rw[hl,h2];rfl,λj y u I hu=>hv j y u I (by rw[bO];exact hu)⟩,J⟩
  .rename_i U m e hu;simp only[av] at h;have h2:=aw h.2;obtain⟨xs,q,rfl,_,hl,hxl,hg⟩:=DataW.trod_array hu ht;obtain⟨v,hv,J⟩:=WD (f:=BF P n) (m:=q) (λT t cs x h1 h2=>H3 n T t q cs x h1 hsp h2) cs m 0 U h.1 (by omega) (λj hj=>by
    have:=hg j hj;rw[aB (by omega)] at this;rw[bO];exact⟨_,this⟩)
   exact⟨v,⟨by rw[hl,h2];rfl,λj y u I hu=>hv j y u I (by rw[Nat.zero_mul,bO];exact hu)⟩,J⟩
  .cases h
theorem QH {n:Nat} {T:Ty} {t:TypeId} {v:Value} {r:Reach} {bs:Nat} (I:BF P n T t=ai) (h1:T.one=ai) (h:HO P W r bs t v):v.cells.toList=[v]:=by
 cases n with
 |zero=>unfold BF at I;cases I
 |succ n=>
  unfold BF at I;unfold HO at h;cases v with
  |agg cs=>
   exfalso;split at I<;>rename_i hu<;>first|(rw [hu] at h;simp only[] at h;unfold Cell.okWide at h;rw[hu] at h;unfold Cell.ok at h;rw[hu] at h;simp at h)|cases h1|cases I
  |_=>rfl
theorem Uh {n:Nat} {T:Ty} {t:TypeId} {v:Value} {r:Reach} {bs:Nat} (I:BF P n T t=ai) (h1:T.one=aj) (h:HO P W r bs t v):∃ cs,v= .agg cs:=by
 cases n with
 |zero=>unfold BF at I;cases I
 |succ n=>
  unfold BF at I;unfold HO at h;split at I<;>rename_i hu<;>first|(rw [hu] at h;obtain⟨cs,h,_⟩:=h;exact⟨cs,h⟩)|cases h1|cases I
theorem open_arg {n:Nat} {T:Ty} {t:TypeId} {v:Value} {d:DataW H} {ps:List MemPlace} {r:Reach} {bs:Nat} (J:BF P n T t=ai) (hsp:∀ b,sp b=ai) (hok:HO P W r bs t v) (h:DataW.Trod enc P W base sp hd t v d ps):∃ x,nC (λ_=>False) W (gO T x) v/\Wi T x:=by
 obtain⟨fuel,hf⟩:=h;obtain⟨x,I,U⟩:=H3 n T t fuel _ _ J hsp hf;refine ⟨x,?_,U⟩;by_cases h1:T.one=ai
 .obtain⟨e1,e2⟩:=Dw T x h1;exact I.2 0 _ v (by rw[e1];rfl) (by rw[QH J h1 hok];rfl)
 .obtain⟨cs,rfl⟩:=Uh J (by simpa using h1) hok;rw[qG T x (by simpa using h1)];have hl:cs.toList.length=(bS T x).length:=by rw[bD];exact I.1
  have:=nC.agg (O:=λ_=>False) (w:=W) (bS T x) cs.toList hl (oe T x) (λj y u M hu=>I.2 j y u M hu);simpa using this
end
theorem Xw {z:Int} (h:(Lit.int .u8 z).wf=ai):0<=z/\z<=255:=⟨bf (c8.1 h).1,bf (c8.1 h).2⟩
theorem WA (z p:Int×Int):(Lr (.pr (.int .i64) (.pr (.int .i64) .un)) (z.1,z.2,()) (p.1,p.2,()) !=aj)=decide (z=p):=by
 obtain⟨(J:Int),(I:Int)⟩:=z;obtain⟨(p1:Int),(p2:Int)⟩:=p;by_cases h1:J=p1<;>by_cases h2:I=p2<;>simp[Lr,h1,h2]
theorem aj3 {r:List (Int×Int)} (hr:r.length<=1000000) {p:Int×Int} (h:p∈r):uu (r,p)=af ai:=by
 refine cE ?_;unfold uu bB bH aX cK aF cA;refine ch r.length (λk x=>x=((k:Int),p)/\∀ q,q<k->¬r[q]? =af p) ?_ ?_ ⟨rfl,λq hq=>by omega⟩
 .rintro k x hk ⟨rfl,hn⟩;refine dg (cD (aT ?_));have e:aJ (T:=.st (.pr (.int .i64) (.int .i64))) r (k:Int)=r[k]:=by rw[uW,ax,aB hk];rfl
  rw[e];have q:=WA r[k] p;refine aP (λg=>ar rfl) λg=>ar ⟨?_,λq hq=>?_⟩
  .dsimp only;rw[gM (by omega)]
  .have g:(Lr (.pr (.int .i64) (.pr (.int .i64) .un)) (r[k].1,r[k].2,()) (p.1,p.2,()) !=aj)=aj:=g;rw[WA] at g;by_cases e:q=k
   .subst e;rw[aB hk];exact λx=>BE g (iX x)
   .exact hn q (by omega)
 .rintro x ⟨rfl,hn⟩;obtain⟨q,hq⟩:=eD h;exact cV hq (hn q (bg.1 hq).1)
theorem ahg {w:WT} {l:List ET} {cl:Nat->List Int} {a b:Nat} (h:TN w l cl a b=ai):∀ i,a<i->((a:Int),(b:Int))∈rI w l cl b i
 |i+1,hi=>by
  rw[rI];by_cases e:a=i
  .subst e;rw[aE h];exact iL _ (aL.2 rfl)
  .have I:=ahg h i (by omega);split
   .exact hX _ I
   .exact I
theorem ahf {w:WT} {l:List ET} {cl:Nat->List Int} {a b:Nat} (h:TN w l cl a b=ai) (hab:a<b):∀ n,b<n->((a:Int),(b:Int))∈rO w l cl n
 |n+1,hn=>by
  rw[rO];by_cases e:b=n
  .subst e;exact iL _ (ahg h b hab)
  .exact hX _ (ahf h hab n (by omega))
theorem afu {l:List ET} {cl:Nat->List Int} {i:Nat} (h:i<l.length):aJ (T:=.sl (.int .i64)) ((dl l.length).map cl) (i:Int)=cl i:=Xm h
theorem am2 {w:WT} {l:List ET} (tr:TR (w,l)) {a b:Nat} (hb:b<l.length) (h:TN w l (sS w l) a b=ai):TN w l (wu w l) a b=ai:=by
 unfold TN at h ⊢;obtain⟨h1,h2⟩:=c8.1 h;obtain⟨h2,I⟩:=c8.1 h2;have le:=(Nt tr hb).2 (cQ l a).th;rw[h1,h2,kP,kP,dC,decide_eq_false_iff_not];rw[dC,decide_eq_false_iff_not] at I;intro q;exact I (Int.le_trans q le)
theorem Ed (a b c:List Int) (Y:a.length<=9223372036854775807) (U:∀ z∈a,0<=z/\z<=255) (hc:c.length<=9223372036854775807) (M:∀ z∈c,0<=z/\z<=255):Ok (jO (a,b,c)) λy=>y=ai:=by
 unfold jO bB il bH aX cK aF cA;refine ay (P:=TR) (PL a b c 30 (by omega) (by omega) Y U hc M) ?_;rintro⟨w,l⟩ tr;have hl:=tr.len;dsimp only at hl;have C:=adq w l;have r1:=Iy w l (sS w l) l.length (by omega);have r2:=Iy w l (wu w l) l.length (by omega);refine aU (FX tr) (aU (FN tr) (aU (T7 tr) (aU (ad2 tr) ?_)));refine aY (λx=>x=(aj,w,l)) (fd (fd (fd (fd (bY (λh=>?_) λ_=>ar ?_))))) ?_
 .exact cV (by simp) h
 .dsimp only;rw[bP,bP,aO rfl];rfl
 rintro x rfl;have hn:(csN w l).length=l.length:=by rw[bP,gH]
 refine fd (ch l.length (λi x=>x=((i:Int),w,l)) ?_ ?_ rfl)
 .rintro i x hi rfl;have I:∀ {R:Type} {cl:Nat->List Int} {k:List Int->Option R} {Q:R->Prop},Ok (k (cl i)) Q->Ok (chk (fm (i:Int) ((dl l.length).map cl).length) λ_=>lt (aJ (T:=.sl (.int .i64)) ((dl l.length).map cl) (i:Int)) k) Q:=λ{R cl k Q} h=>aR (by omega) (by rw[bP,gH];omega) (aT (by rw[afu hi];exact h))
  refine dg ?_ (by dsimp only[au];rw[hn];omega);have k1:=(ajd tr hi).lb;have k2:=(aca tr C hi).lb;have J:=(Pt tr C hi).lb;have ki:(eN l i).2.1=((cQ l i).k:Int):=(qZ tr hi).k;refine aY (λx=>x=(aj,w,l)) ?_ ?_
  .refine I (I (aU (PO _ _ k1 k2 (Nt tr hi).2) (fd (I (I (aU (PO _ _ k2 J (C.le hi).2) (fd (cD (aT (bY (λh=>I (I ?_)) λ_=>ar rfl))))))))));have h:¬(eN l i).2.1=3:=h;rw[Z_ (w:=w) (show ¬(cQ l i).k=3 by omega)];exact aU (Zh _ k2) (ar rfl)
  rintro x rfl;refine fd (ar ?_);dsimp only;rw[gM (by omega)]
 .rintro x rfl;refine db (ay (P:=λr=>r=ai) ?_ λr hr=>ar hr) (by dsimp only[au];rw[hn];omega);refine ch (rO w l (sS w l) l.length).length (λi x=>x=(i:Int)) ?_ ?_ rfl
  .rintro i x hi rfl;refine dg (cD (aT ?_));have hm:=bI (T:=.st (.pr (.int .i64) (.int .i64))) (xs:=rO w l (sS w l) l.length) (j:=(i:Int)) (by omega) (by omega);obtain⟨p,q,h1,h2,h3,Z⟩:=aa4 _ hm;refine aU (aj3 (by dsimp only;omega) (p:=aJ (T:=.st (.pr (.int .i64) (.int .i64))) (rO w l (sS w l) l.length) (i:Int)) (by rw[Z];exact ahf (am2 tr h2 h3) h1 _ h2)) (fd (ar (gM (by omega))))
  .rintro x rfl;exact db (aU (x:=ai) (by rw[ag5];rfl) (ar rfl))
theorem ShbStronger_law (x:List Int×List Int×List Int) (w:Wi (.st (.pr (.sl (.int .u8)) (.pr (.sl (.int .u8)) (.sl (.int .u8))))) x):jO x=af ai:=by
 obtain⟨a,b,c⟩:=x;obtain⟨⟨l0,w0⟩,_,⟨l2,J⟩⟩:=w;obtain⟨y,h,rfl⟩:=Ed a b c l0 (λz I=>Xw (w0 z I)) l2 (λz I=>Xw (J z I));exact h
def inert (f:FuncId):Bool:=aC f 51
theorem QQ:∃ I,Tryz.prog.underlying 20=af (.interface I):=⟨#[],by kernel_rfl⟩
theorem ab3 (w:World):(Op.equal 20 .nilIface .nilIface).run Tryz.prog w= .ok ai w:=by
 obtain⟨I,hu⟩:=QQ;have key:∀ d,(Op.equalIn (d+1) 20 .nilIface .nilIface).run Tryz.prog w= .ok ai w:=λd=>by simp[Op.equalIn,run_underlying hu]
 exact key 9999
theorem aag {P:Program} {ops:Array Oper} {Q:Exit->Act->List Frame->World->Prop} {i:Nat} {rest:List Nat} {a:Act} {cs:List Frame} {w w':World} {o:Oper} (J:ops[i]? =af o) (I:o.guard=ah) (hr:(execOp a.eval o).run P w= .ok .recover w') (hn:recoverD cs=ah) (h:wpOpsS P ops Q rest (a.put o.dst .nilIface) cs w'):wpOpsS P ops Q (i::rest) a cs w:=by
 have I:iQ o (yielded ops a.tmps)=ai:=by unfold iQ;rw[I]
 simp only[wpOpsS,J,I,bG,hr,hn];exact h
theorem aaf {P:Program} {ops:Array Oper} {Q:Exit->Act->List Frame->World->Prop} {i:Nat} {rest:List Nat} {a:Act} {cs:List Frame} {w w':World} {o:Oper} {v:Value} (J:ops[i]? =af o) (I:o.guard=ah) (hr:(execOp a.eval o).run P w= .ok (.value v) w') (h:wpOpsS P ops Q rest (a.put o.dst v) cs w'):wpOpsS P ops Q (i::rest) a cs w:=by
 have I:iQ o (yielded ops a.tmps)=ai:=by unfold iQ;rw[I]
 simp only[wpOpsS,J,I,bG,hr];exact h
theorem QP:Lc Tryz.prog inert:=by
 intro f hf;have hf:f=51:=aw hf;subst hf;refine ⟨⟨Tryz.f51,Tryz.func51,by kernel_rfl,by kernel_rfl⟩,λargs w=>?_⟩;refine callsD_of_wpS Tryz.func51 rfl λc₀ cs hu=>?_
 refine wpS_seq (wpS_region ?_);generalize ht:(args++oG (Tryz.f51.ntmps-args.size) undef)=T;have hs:5<=T.size:=by
  rw[<- ht];simp only[Array.size_append,Array.size_replicate];have:Tryz.f51.ntmps=5:=rfl;omega
 have hr:recoverD (c₀::cs)=ah:=by simp[recoverD,hu]
 refine aag (i:=0) (rest:=[1]) rfl rfl (w':=w) ?_ hr ?_
 .simp[execOp,resolve,invoke,builtin]
 refine aaf (v:=.bool aj) rfl rfl (w':=w) ?_ ?_
 .have hv:Act.eval (NQ {tmps:=T,defers:=[]} (af 2) .nilIface) (.tmp 2)= .nilIface:=by
   simp[Act.eval,NQ,show 2<T.size by omega]
  have h2:=ab3 w;have hcst:Act.eval (NQ {tmps:=T,defers:=[]} (af 2) .nilIface) (.const .nilIface)= .nilIface:=rfl;show (execOp (Act.eval (NQ {tmps:=T,defers:=[]} (af 2) .nilIface)) _).run _ w=_;simp[execOp,hv,hcst,eqGuard,binOp,h2]
 show Exit.thenS _ _ .normal _ _ _;refine wpS_cond (t:=aj) ?_ ?_
 .simp[Act.eval,NQ,show 3<T.size by omega]
 refine wpS_of_wp (wp_skip ?_);have hres:Tryz.f51.results=#[]:=rfl;exact⟨rfl,c₀.mode,rfl,.tuple #[],by simp[results,hres],⟨_,rfl⟩,hu,rfl⟩
def dT {α:Type}:List (Nat×α)->PT α
 |[]=>.leaf
 |p::r=>(dT r).set p.1 (af p.2)
noncomputable abbrev Pg:Program:=Tryz.prog
def cn (D:FT) (m:D.pre.ty.den->Option D.post.ty.den):cr:=⟨D.pre,D.post,m⟩
theorem amh:Pg.follows .mixedOrders=ai:=by kernel_rfl
theorem ac {f:FuncId} {c:cr} {l:List (FuncId×cr)} (h:aI Pg f c) (t:TE Pg l):TE Pg ((f,c)::l):=⟨h,t⟩
theorem an:TE Pg []:=trivial
inductive OI {R:Type}:Option R->Option R->Prop where
 |rfl {a:Option R}:OI a a
 |chk {b:Bool} {k k':Option R} (h:kK k k'):OI (chk b λ_=>k) (chk b λ_=>k')
 |bcase {b:Bool} {t f t' f':Option R} (h1:kK t t') (h2:kK f f'):OI (bcase b t f) (bcase b t' f')
 |lt {α:Type} {x:α} {k k':α->Option R} (h:∀ y,kK (k y) (k' y)):OI (lt x k) (lt x k')
 |jn {α:Type} {o o':Option (R⊕α)} {k k':α->Option R} (h:kK o o') (hk:∀ x,kK (k x) (k' x)):OI (jn o k) (jn o' k')
 |obind {α:Type} {o o':Option α} {k k':α->Option R} (h:kK o o') (hk:∀ x,kK (k x) (k' x)):OI (obind o k) (obind o' k')
 |iter {σ:Type} {f g:σ->Option (σ⊕R)} {x:σ} (h:∀ x,kK (f x) (g x)):OI (fK f x) (iter g x)
theorem OI.o {R:Type} {a b:Option R} (h:OI a b):kK a b:=by
 cases h with
 |rfl=>exact kK.rfl
 |chk h=>exact kK.chk h
 |bcase h g=>exact kK.bcase h g
 |lt h=>exact kK.lt h
 |jn h g=>exact kK.jn h g
 |obind h g=>exact kK.obind h g
 |iter h=>exact kK.iter h
theorem mk {f:FuncId} (D:FT) (m:D.pre.ty.den->Option D.post.ty.den) {l:List (FuncId×cr)} (J:TE Pg l) (I:TypeId->Option Ty) (he:∀ x,Z3 (Vx l) I inert (zX Pg f) D x=m x:=by intro x;kernel_rfl) (hs:(zX Pg f).isSome=ai:=by kernel_rfl) (hb:eQ D.pre.bs.length D.post.bs.length=ai:=by kernel_rfl):aI Pg f (cn D m):=(Rk amh QP J hs he).toC hb
theorem xF {f:FuncId} (D:FT) (m n:D.pre.ty.den->Option D.post.ty.den) (J:∀ x,kK (m x) (n x)) {l:List (FuncId×cr)} (M:TE Pg l) (I:TypeId->Option Ty) (he:∀ x,Z3 (Vx l) I inert (zX Pg f) D x=n x:=by intro x;kernel_rfl) (hs:(zX Pg f).isSome=ai:=by kernel_rfl) (hb:eQ D.pre.bs.length D.post.bs.length=ai:=by kernel_rfl):aI Pg f (cn D m):=((Rk amh QP M hs he).sub J).toC hb
theorem QL {f:FuncId} (D:FT) (hs:(zX Pg f).isSome=ai:=by kernel_rfl) (hb:eQ D.pre.bs.length D.post.bs.length=ai:=by kernel_rfl):aI Pg f (cn D λ_=>ah):=(UU hs).toC hb
abbrev vb:List PV:=[.d aM,.d aM,.d aM,.d aM,.d aM,.nil,.nil]
abbrev wg:List PV:=[.nil,.d aM,.nil,.nil,.nil,.nil,.nil]
abbrev ai9:List PV:=[.ptr 1 0,.d aM,.d aM,.d .bool,.d .bool,.d .bool,.d .bool,.row 4]
abbrev aid:List PV:=[.d aM,.d aM,.d .str,.d .str,.nil,.d aM,.d aM,.d .str,.nil,.nil,.nil]
abbrev La2:List PB:=[.cells 205 ai9,.cells 89 [.d yV],.gone,.cells 211 aid,.rowsP 9 .str]
abbrev NA:List PV:=[.ptr 0 0,.ptr 1 0,.ptr 2 0,.ptr 3 0,.ptr 4 0,.ptr 5 0,.ptr 6 0,.ptr 7 0,.d .bool]
abbrev La4:List PB:=[.cells 197 [.d (.sl kE),.d (.sl rU),.d (.sl mh),.d (.sl .str),.d (.sl .str),.d (.sl oX),.d (.sl .str),.row 2,.d aM,.d aM],.gone,.rows 201 ai qU]
abbrev La5:List PB:=[.cells 197 [.d (.sl kE),.d (.sl rU),.d (.sl mh),.d (.sl .str),.d (.sl .str),.d (.sl oX),.d (.sl .str),.row 1,.d aM,.d aM],.rows 201 ai qU]
abbrev La6:List PV:=[.d aM,.row 11,.row 12,.d aM]
abbrev La7:List PB:=[.cells 151 [.nil,.nil],.cells 205 [.ptr 5 0,.d aM,.d aM,.d .bool,.d .bool,.d .bool,.d .bool,.row 6],.cells 151 [.d (.sl Hd),.row 7],.rows 9 aj .str,.cells 195 [.d .str,.d aM,.row 8,.row 9],.cells 89 [.d yV],.rowsP 9 .str,.rows 195 ai s8,.rows 9 aj .str,.rows 211 ai .sm]
abbrev La8:List PB:=[.cells 236 [.d (.sl Hd),.d (.sl s8),.d aM,.row 1,.row 6,.row 7],.rowsP 211 .sm,.gone,.gone,.cells 211 [.d .sm],.cells 151 [.d NC],.rows 9 ai .str,.rows 9 ai .str]
abbrev La9:List PV:=[.d (.sl eh),.d aM,.d qb,.d (.sl ij),.row 8,.row 9,.csl 10 4 4]
abbrev ags:List PB:=[.cells 105 [.d (.sl eh),.d aM,.d qb,.d (.sl ij),.row 6,.row 7,.csl 8 4 4],.cells 154 [.d gp],.cells 105 wg,.cells 52 vb,.cells 52 [.d jt],.cells 188 [.d eY],.rows 2 ai aM,.rows 2 ai aM,.cells 188 [.d eY,.d eY,.d eY,.d eY]]
abbrev aia:List PV:=[.ptr 1 0,.d aM,.d aM,.d .bool,.d .bool,.d .bool,.d .bool,.row 2]
abbrev PU:List PV:=[.d Eg,.d aM]
abbrev Wd:List PB:=[.cells 205 aia,.cells 89 PU,.rowsP 9 .str]
abbrev Ms:List PV:=[.ptr 0 0,.ptr 1 0,.ptr 2 0,.ptr 3 0,.ptr 4 0,.ptr 5 0,.ptr 6 0,.ptr 7 0,.d aM]
abbrev akg:List PV:=[.d (.sl eh),.d aM,.d qb,.d (.sl ij),.row 8,.row 9,.csl 10 4 3]
abbrev al0:List PB:=[.cells 110 [.d uP],.cells 105 akg,.cells 154 [.d gp],.cells 105 wg,.cells 52 vb,.cells 52 [.d jt],.cells 188 La6,.cells 201 [.d qU],.rows 2 ai aM,.rows 2 ai aM,.cells 188 [.d aM,.row 11,.row 12,.d aM,.d eY,.d eY],.rows 2 ai aM,.rows 50 ai (.sl aM)]
abbrev akz:List PB:=[.cells 110 [.d uP],.cells 105 akg,.cells 154 [.d gp],.cells 105 wg,.cells 52 vb,.cells 52 [.d jt],.cells 188 La6,.cells 201 [.d qU],.rows 2 ai aM,.rows 2 ai aM,.cells 188 [.d eY,.d aM,.row 11,.row 12,.d aM,.d eY],.rows 2 ai aM,.rows 50 ai (.sl aM)]
abbrev aky:List PB:=[.cells 110 [.d uP],.cells 105 akg,.cells 154 [.d gp],.cells 105 wg,.cells 52 vb,.cells 52 [.d jt],.cells 188 La6,.cells 201 [.d qU],.rows 2 ai aM,.rows 2 ai aM,.cells 188 [.d eY,.d eY,.d aM,.row 11,.row 12,.d aM],.rows 2 ai aM,.rows 50 ai (.sl aM)]
abbrev aic:List PV:=[.d (.sl eh),.d aM,.d qb,.d (.sl ij),.row 8,.row 9,.csl 10 4 2]
abbrev akx:List PB:=[.cells 110 [.d uP],.cells 105 aic,.cells 154 [.d gp],.cells 105 wg,.cells 52 vb,.cells 52 [.d jt],.cells 188 La6,.cells 201 [.d qU],.rows 2 ai aM,.rows 2 ai aM,.cells 188 [.d aM,.row 11,.row 12,.d aM,.d eY],.rows 2 ai aM,.rows 50 ai (.sl aM)]
abbrev akw:List PB:=[.cells 110 [.d uP],.cells 105 aic,.cells 154 [.d gp],.cells 105 wg,.cells 52 vb,.cells 52 [.d jt],.cells 188 La6,.cells 201 [.d qU],.rows 2 ai aM,.rows 2 ai aM,.cells 188 [.d eY,.d aM,.row 11,.row 12,.d aM],.rows 2 ai aM,.rows 50 ai (.sl aM)]
abbrev Zq:List PB:=[.cells 236 [.d (.sl Hd),.d (.sl s8),.d aM,.row 1,.row 4,.row 5],.rowsP 211 .sm,.gone,.gone,.rows 9 ai .str,.rows 9 ai .str]
abbrev Mr:List PV:=[.ptr 0 0,.ptr 1 0,.ptr 2 0,.ptr 3 0,.ptr 4 0,.ptr 5 0,.ptr 6 0,.d .bool]
abbrev g_:List PV:=[.ptr 0 0,.d .bool]
abbrev Zp:List PB:=[.cells 236 [.d (.sl Hd),.d (.sl s8),.d aM,.row 1,.row 2,.row 3],.rowsP 211 .sm,.rows 9 ai .str,.rows 9 ai .str]
abbrev akv:List PB:=[.cells 110 [.d uP],.cells 105 [.d (.sl eh),.d aM,.d qb,.d (.sl ij),.row 8,.row 9,.csl 10 4 1],.cells 154 [.d gp],.cells 105 wg,.cells 52 vb,.cells 52 [.d jt],.cells 188 La6,.cells 201 [.d qU],.rows 2 ai aM,.rows 2 ai aM,.cells 188 La6,.rows 2 ai aM,.rows 50 ai (.sl aM)]
abbrev Mq:List PV:=[.ptr 0 0,.ptr 1 0,.ptr 2 0,.ptr 3 0,.ptr 4 0,.ptr 5 0,.ptr 6 0]
abbrev aku:List PB:=[.cells 110 [.d uP],.cells 105 La9,.cells 154 [.d gp],.cells 105 wg,.cells 52 vb,.cells 52 [.d jt],.cells 188 La6,.cells 201 [.d qU],.rows 2 ai aM,.rows 2 ai aM,.cells 188 [.d aM,.row 11,.row 12,.d aM,.d eY,.d eY,.d eY],.rows 2 ai aM,.rows 50 ai (.sl aM)]
abbrev akt:List PB:=[.cells 110 [.d uP],.cells 105 La9,.cells 154 [.d gp],.cells 105 wg,.cells 52 vb,.cells 52 [.d jt],.cells 188 La6,.cells 201 [.d qU],.rows 2 ai aM,.rows 2 ai aM,.cells 188 [.d eY,.d aM,.row 11,.row 12,.d aM,.d eY,.d eY],.rows 2 ai aM,.rows 50 ai (.sl aM)]
abbrev aks:List PB:=[.cells 110 [.d uP],.cells 105 La9,.cells 154 [.d gp],.cells 105 wg,.cells 52 vb,.cells 52 [.d jt],.cells 188 La6,.cells 201 [.d qU],.rows 2 ai aM,.rows 2 ai aM,.cells 188 [.d eY,.d eY,.d aM,.row 11,.row 12,.d aM,.d eY],.rows 2 ai aM,.rows 50 ai (.sl aM)]
abbrev akr:List PB:=[.cells 110 [.d uP],.cells 105 La9,.cells 154 [.d gp],.cells 105 wg,.cells 52 vb,.cells 52 [.d jt],.cells 188 La6,.cells 201 [.d qU],.rows 2 ai aM,.rows 2 ai aM,.cells 188 [.d eY,.d eY,.d eY,.d aM,.row 11,.row 12,.d aM],.rows 2 ai aM,.rows 50 ai (.sl aM)]
abbrev Lb:List PB:=[.cells 31 [.d nI],.cells 97 [.d iV],.cells 52 [.d jt],.cells 97 wg]
abbrev Mp:List PV:=[.ptr 0 0,.ptr 1 0,.ptr 2 0,.ptr 3 0,.ptr 4 0,.ptr 5 0]
abbrev akq:List PB:=[.cells 105 [.d (.sl eh),.d aM,.d qb,.d (.sl ij),.row 6,.row 7,.csl 8 4 3],.cells 154 [.d gp],.cells 105 wg,.cells 52 vb,.cells 52 [.d jt],.cells 188 [.d eY],.rows 2 ai aM,.rows 2 ai aM,.cells 188 [.d eY,.d eY,.d eY]]
abbrev Th:List PV:=[.d (.sl eh),.d aM,.d qb,.d (.sl ij),.row 7,.row 8,.csl 9 4 4]
abbrev rT:List PV:=[.ptr 0 0,.ptr 1 0,.d .bool]
abbrev Ae:List PV:=[.ptr 0 0,.ptr 1 0,.ptr 2 0,.ptr 3 0,.d .bool]
abbrev agk:List PV:=[.nil,.nil,.nil,.nil,.nil,.nil]
abbrev akp:List PB:=[.cells 151 [.d NC],.cells 31 agk,.cells 31 [.row 4,.row 5,.row 6,.row 7,.nil,.nil],.cells 239 [.d Hd],.rows 123 ai kE,.rows 125 ai rU,.rows 116 ai mh,.rows 9 ai .str]
abbrev ad6:List PV:=[.nil,.nil,.nil,.nil,.nil,.nil,.nil]
abbrev anv:List PV:=[.d (.sl kE),.d (.sl rU),.d (.sl mh),.d (.sl .str),.d (.sl .str),.d (.sl oX),.row 5]
abbrev ao8:List PB:=[.cells 151 [.d NC],.cells 110 ad6,.cells 110 anv,.cells 197 [.d (.sl kE),.d (.sl rU),.d (.sl mh),.d (.sl .str),.d (.sl .str),.d (.sl oX),.d (.sl .str),.row 6,.d aM,.d aM],.cells 184 [.d aM,.row 6],.rows 184 ai xi,.rows 201 ai qU]
abbrev HL:List PV:=[.row 0,.d aM,.row 1,.row 2]
abbrev ako:List PB:=[.cells 89 [.d yV],.cells 97 [.d iV],.cells 31 [.d nI],.rows 52 ai jt,.cells 50 [.row 5,.row 6,.row 7,.row 8],.rows 3 ai aM,.rows 3 ai aM,.rows 3 ai aM,.rows 3 ai aM]
abbrev FK:List PV:=[.ptr 0 0,.ptr 1 0,.ptr 2 0,.d aM]
abbrev La:List PV:=[.d aM,.d (.sl aM),.d kL,.d aM]
abbrev Zo:List PV:=[.d (.sl eh),.d aM,.d qb,.d (.sl ij),.row 7,.row 8,.csl 9 4 3]
abbrev akn:List PB:=[.cells 89 [.d yV],.cells 97 [.d iV],.cells 31 [.d nI],.cells 50 [.row 4,.row 5,.row 6,.row 7],.rows 3 ai aM,.rows 3 ai aM,.rows 3 ai aM,.rows 3 ai aM]
abbrev Ef:List PV:=[.ptr 0 0,.ptr 1 0,.ptr 2 0,.d .bool]
abbrev wa:List PV:=[.ptr 0 0,.ptr 1 0,.d aM]
abbrev K_:List PV:=[.d aM,.row 10,.row 11,.d aM]
abbrev agj:List PV:=[.d aM,.row 0,.row 1,.d aM]
abbrev XL:List PV:=[.d aM,.nil,.nil,.d aM]
abbrev akm:List PB:=[.rows 2 ai aM,.rows 50 ai (.sl aM),.cells 201 [.d qU],.cells 188 agj,.cells 188 XL]
abbrev akl:List PB:=[.cells 236 [.d (.sl Hd),.d (.sl s8),.d aM,.row 4,.row 5,.row 6],.gone,.gone,.gone,.rowsP 211 .sm,.rows 9 ai .str,.rows 9 ai .str]
abbrev Cp:List PV:=[.nil,.d aM,.nil,.nil]
abbrev akk:List PB:=[.cells 94 [.row 2,.d aM,.row 3,.row 4],.cells 94 Cp,.rows 167 ai eh,.rows 4 ai .bool,.rows 169 ai ij]
abbrev K9:List PV:=[.ptr 0 0,.ptr 3 0,.d .bool]
abbrev ao7:List PB:=[.cells 105 [.d (.sl eh),.d aM,.d qb,.d (.sl ij),.row 6,.row 7,.csl 8 4 2],.cells 154 [.d gp],.cells 105 wg,.cells 52 vb,.cells 52 [.d jt],.cells 188 [.d eY],.rows 2 ai aM,.rows 2 ai aM,.cells 188 [.d eY,.d eY]]
abbrev ao6:List PB:=[.cells 34 ad6,.cells 89 [.d yV],.cells 34 anv,.cells 97 [.d iV],.rows 52 aj jt,.rows 52 ai jt]
abbrev qa:List PB:=[.cells 31 [.d nI]]
abbrev ao5:List PB:=[.cells 89 [.d yV],.cells 97 [.d iV],.cells 31 [.d nI],.rows 52 ai jt,.cells 50 [.row 7,.row 8,.row 9,.row 10],.cells 52 [.d jt],.cells 97 [.d iV],.rows 3 ai aM,.rows 3 ai aM,.rows 3 ai aM,.rows 3 ai aM]
abbrev agr:List PB:=[.cells 31 agk,.cells 31 [.row 2,.row 3,.row 4,.row 5,.row 6,.row 7],.rows 123 aj kE,.rows 125 aj rU,.rows 116 aj mh,.rows 9 aj .str,.rows 9 aj .str,.rows 127 ai oX]
abbrev u_:List PV:=[.ptr 0 0,.d aM]
abbrev ad5:List PV:=[.row 2,.row 3,.row 4,.row 5]
abbrev ao4:List PB:=[.cells 89 [.d yV],.cells 50 ad5,.rows 3 ai aM,.rows 3 ai aM,.rows 3 ai aM,.rows 3 ai aM,.cells 52 vb,.cells 52 [.d aM,.d aM,.d aM,.d aM,.d aM,.d (.sl aM),.nil]]
abbrev agq:List PV:=[.d (.sl eh),.d aM,.d qb,.d (.sl ij),.row 7,.row 8,.csl 9 4 2]
abbrev Mo:List PV:=[.d wh,.d jt,.d .bool]
abbrev ao3:List PB:=[.cells 89 [.d yV],.cells 50 ad5,.rows 3 ai aM,.rows 3 ai aM,.rows 3 ai aM,.rows 3 ai aM,.cells 97 [.d iV],.cells 31 [.d nI],.cells 52 vb,.cells 52 vb]
abbrev ao2:List PB:=[.cells 151 [.d NC],.cells 31 agk,.cells 31 [.row 3,.row 4,.row 5,.row 6,.nil,.nil],.rows 123 ai kE,.rows 125 ai rU,.rows 116 ai mh,.rows 9 ai .str]
abbrev akj:List PV:=[.d (.sl eh),.d aM,.d qb,.d (.sl ij),.row 3,.row 4,.row 5]
abbrev Mn:List PV:=[.d uP,.d wh,.d gp]
abbrev aki:List PB:=[.rows 167 ai eh,.rows 4 ai .bool,.rows 169 ai ij,.cells 94 HL,.rows 3 ai aM]
abbrev ad9:List PV:=[.row 3,.d aM,.row 4,.row 5]
abbrev ao1:List PB:=[.cells 31 [.d nI],.cells 94 ad9,.cells 94 Cp,.rows 167 ai eh,.rows 4 ai .bool,.rows 169 ai ij]
abbrev v_:List PV:=[.d aM,.d aM]
abbrev akh:List PB:=[.rows 52 ai jt,.cells 110 [.d uP],.cells 105 [.d wh],.cells 105 wg]
abbrev ao0:List PB:=[.cells 184 [.d xi],.cells 188 [.d aM,.row 3,.row 4,.d aM],.cells 188 XL,.rows 2 ai aM,.rows 50 ai (.sl aM)]
abbrev anz:List PB:=[.cells 205 ai9,.cells 89 [.d yV],.gone,.rows 211 ai .sm,.rowsP 9 .str]
abbrev akf:List PV:=[.ptr 1 0,.d aM,.d aM,.d .bool,.d .bool,.d .bool,.d .bool,.row 3]
abbrev anx:List PB:=[.cells 52 vb,.cells 188 [.d eY],.cells 201 [.d qU],.cells 52 [.d aM,.d aM,.d aM,.d aM,.d aM,.row 4,.nil],.rows 3 ai aM]
abbrev PR:List PB:=[.cells 211 [.d .sm]]
abbrev agp:List PV:=[.agg [.agg HL,.row 3,.row 4,.csl 5 4 4]]
abbrev Tg:List PB:=[.cells 151 [.d NC]]
abbrev ake:List PB:=[.cells 31 [.d nI],.cells 184 [.d xi],.cells 201 [.d qU]]
abbrev ago:List PB:=[.cells 151 [.d NC],.cells 195 [.d s8]]
abbrev agn:List PB:=[.cells 151 [.d NC],.cells 209 [.d .ex]]
abbrev akd:List PB:=[.cells 31 [.d nI],.rows 9 ai .str,.cells 123 [.d kE]]
abbrev akc:List PB:=[.rows 167 ai eh,.rows 4 ai .bool,.rows 169 ai ij]
abbrev agm:List PB:=[.cells 31 [.d nI],.cells 201 [.d qU]]
abbrev agl:List PV:=[.ptr 0 0,.ptr 4 0,.ptr 5 0,.d .bool]
abbrev akb:List PV:=[.ptr 0 0,.ptr 1 0,.ptr 2 0,.ptr 3 0,.ptr 4 0,.d aM]
abbrev Wc:List PB:=[.cells 31 [.d nI],.cells 94 [.d HM]]
abbrev aka:List PB:=[.cells 89 [.d yV],.rows 3 ai aM,.rows 3 ai aM]
abbrev Zn:List PB:=[.cells 31 [.d nI],.rows 9 ai .str]
abbrev ak9:List PB:=[.cells 52 [.d jt],.cells 97 wg,.cells 97 akj,.rows 2 ai aM,.rows 2 ai aM,.rows 3 ai aM]
abbrev anw:List PB:=[.cells 89 PU,.cells 50 ad5,.rows 3 ai aM,.rows 3 ai aM,.rows 3 ai aM,.rows 3 ai aM]
abbrev K7:List PV:=[.d (.sl aM),.d aM]
abbrev PQ:List PV:=[.ptr 0 0,.row 1,.d aM]
abbrev Zm:List PB:=[.cells 239 [.d Hd]]
abbrev Zl:List PB:=[.cells 89 [.d yV]]
abbrev ak8:List PV:=[.agg [.agg HL,.row 3,.row 4,.csl 5 4 3]]
abbrev Tf:List PB:=[.cells 89 PU]
abbrev adf:List PB:=[.rows 2 ai aM,.rows 50 ai (.sl aM)]
abbrev ade:List PB:=[.cells 110 [.d uP],.cells 105 [.d wh]]
abbrev adc:List PB:=[.cells 31 [.d nI],.cells 184 [.d xi]]
abbrev qN:List PV:=[.d (.sl aM)]
abbrev adb:List PV:=[.ptr 0 0,.ptr 1 0,.ptr 2 0,.ptr 3 0]
abbrev aib:List PV:=[.d (.sl eh),.d aM,.d qb,.d (.sl ij),.row 7,.row 8,.csl 9 4 1]
abbrev ada:List PB:=[.cells 94 [.d HM],.rows 3 ai aM]
abbrev Ti:List PV:=[.ptr 0 0,.d aM,.d aM]
def tyT:PT Ty:=dT [(2,aM),(3,aM),(4,.bool),(9,.str),(50,(.sl aM)),(52,jt),(57,gp),(77,gp),(91,qb),(116,mh),(123,kE),(125,rU),(127,oX),(154,gp),(167,eh),(169,ij),(184,xi),(188,eY),(195,s8),(201,qU),(209,.ex),(211,.sm),(239,Hd)]
def b8 (t:TypeId):Option Ty:=tyT.get t
def Bl:FT:=⟨⟨[],[]⟩,⟨[.d (.sl .str)],[]⟩,.leaf⟩
def Mb:cr:=cn Bl kA
def zM:FT:=⟨⟨[.d .str],[]⟩,⟨[.d .bool],[]⟩,dT [(8,(.j ⟨[0,3],[4],⟨[.d aM],[]⟩,[]⟩))]⟩
def Kx:cr:=cn zM jM
def G3:FT:=⟨⟨[.d (.int .u8)],[]⟩,⟨[.d .bool],[]⟩,dT [(2,(.j ⟨[],[2],⟨[.d .bool],[]⟩,[]⟩))]⟩
def St:cr:=cn G3 lz
def Kd:FT:=⟨⟨[.d (.int .u8)],[]⟩,⟨[.d .bool],[]⟩,dT [(2,(.j ⟨[],[2],⟨[.d .bool],[]⟩,[]⟩))]⟩
def Vv:cr:=cn Kd rz
def Kc:FT:=⟨⟨[.d (.int .u8)],[]⟩,⟨[.d .bool],[]⟩,dT [(2,(.j ⟨[],[2],⟨[.d .bool],[]⟩,[]⟩))]⟩
def Vu:cr:=cn Kc py
def G4:FT:=⟨⟨[.d .str],[]⟩,⟨[.d .bool],[]⟩,dT [(3,(.j ⟨[0],[21],⟨[.d .bool],[]⟩,[]⟩)),(14,(.j ⟨[0],[3],⟨[.d aM],[]⟩,[]⟩))]⟩
def Su:cr:=cn G4 fk
def J8:FT:=⟨⟨[.d .bool],[]⟩,⟨[.d aM],[]⟩,.leaf⟩
def Vm:cr:=cn J8 fY
def J9:FT:=⟨⟨v_,[]⟩,⟨[.d aM,.d .bool],[]⟩,.leaf⟩
def Vn:cr:=cn J9 ur
def GZ:FT:=⟨⟨[.d aM,.d aM,.d aM],[]⟩,⟨[.d aM,.d .bool],[]⟩,dT [(91,(.j ⟨[],[6,7],⟨[.d aM,.d .bool],[]⟩,[]⟩)),(97,(.j ⟨[],[6,7],⟨[.d aM,.d .bool],[]⟩,[]⟩))]⟩
def Sp:cr:=cn GZ sA
def J_:FT:=⟨⟨v_,[]⟩,⟨[.d aM],[]⟩,dT [(12,(.j ⟨[],[5],⟨[.d aM],[]⟩,[]⟩))]⟩
def Vo:cr:=cn J_ rx
def Bk:FT:=⟨⟨[.d aM],[]⟩,⟨[.d aM],[]⟩,dT [(4,(.j ⟨[0],[3],⟨[.d .bool],[]⟩,[]⟩)),(10,(.j ⟨[0],[10],⟨[.d .bool],[]⟩,[]⟩)),(16,(.j ⟨[],[17],⟨[.d .bool],[]⟩,[]⟩))]⟩
def Ma:cr:=cn Bk mq
def pg:FT:=⟨⟨[.d .ex],[]⟩,⟨[.d .bool],[]⟩,dT [(2,(.j ⟨[],[1,3],⟨g_,[.cells 209 [.d .ex]]⟩,[]⟩)),(5,(.j ⟨[],[1,50],⟨g_,[.cells 209 [.d .ex]]⟩,[]⟩)),(16,(.j ⟨[],[1,4],⟨u_,[.cells 209 [.d .ex]]⟩,[]⟩))]⟩
def Hz:cr:=cn pg ji
def Hl (n:Nat):cr:=cn pg (ig n)
def Kb:FT:=⟨⟨[.d .ex],[]⟩,⟨[.d .bool],[]⟩,dT [(2,(.j ⟨[],[2],⟨[.d .bool],[]⟩,[]⟩))]⟩
def Vt:cr:=cn Kb px
def s7:FT:=⟨⟨[.d .sm],[]⟩,⟨[.d .bool],[]⟩,dT [(3,(.j ⟨[],[1,13],⟨g_,PR⟩,[]⟩)),(10,(.j ⟨[],[1,3],⟨g_,PR⟩,[]⟩)),(13,(.j ⟨[],[1,47],⟨g_,PR⟩,[]⟩)),(21,(.j ⟨[],[1,66],⟨g_,PR⟩,[]⟩)),(29,(.j ⟨[],[1,95],⟨g_,PR⟩,[]⟩)),(36,(.j ⟨[],[1,4],⟨g_,PR⟩,[]⟩)),(39,(.j ⟨[],[1,130],⟨g_,PR⟩,[]⟩)),(46,(.j ⟨[],[1,5],⟨g_,PR⟩,[]⟩)),(49,(.j ⟨[],[1,157],⟨g_,PR⟩,[]⟩)),(56,(.j ⟨[],[2],⟨[.d .bool],[]⟩,[]⟩))]⟩
def Hk (n:Nat):cr:=cn s7 (eH n)
def og:FT:=⟨⟨[.d (.sl .sm)],[]⟩,⟨[.d .bool],[]⟩,dT [(6,(.j ⟨[0],[3],⟨[.d aM],[]⟩,[]⟩))]⟩
def Fu:cr:=cn og nR
def ER (n:Nat):cr:=cn og (dK n)
def yE:FT:=⟨⟨[.d Hd],[]⟩,⟨[.d .bool],[]⟩,dT [(3,(.j ⟨[],[1,31],⟨g_,Zm⟩,[]⟩)),(11,(.j ⟨[],[1,50],⟨g_,Zm⟩,[]⟩)),(18,(.j ⟨[],[2],⟨[.d .bool],[]⟩,[]⟩))]⟩
def Hy:cr:=cn yE kg
def G2:FT:=⟨⟨[.d NC],[]⟩,⟨[.d .bool],[]⟩,dT [(6,(.j ⟨[],[1,3],⟨u_,Tg⟩,[]⟩)),(27,(.j ⟨[],[1,4],⟨u_,Tg⟩,[]⟩)),(42,(.j ⟨[4],[1,5,6],⟨wa,ago⟩,[]⟩)),(59,(.j ⟨[4],[1,56],⟨g_,Tg⟩,[]⟩))]⟩
def Ss:cr:=cn G2 pO
def Xj:FT:=⟨⟨[.d (.sl .str),.d .str],[]⟩,⟨[.d aM],[]⟩,dT [(6,(.j ⟨[0,1],[5],⟨[.d aM],[]⟩,[]⟩))]⟩
def afq:cr:=cn Xj je
def G1:FT:=⟨⟨[.d (.sl Hd),.d .str],[]⟩,⟨[.d aM],[]⟩,dT [(6,(.j ⟨[0,1],[5],⟨[.d aM],[]⟩,[]⟩))]⟩
def Sr:cr:=cn G1 ie
def Bj:FT:=⟨⟨[.d (.sl s8),.d .str],[]⟩,⟨[.d aM],[]⟩,dT [(6,(.j ⟨[0,1],[5],⟨[.d aM],[]⟩,[]⟩))]⟩
def L_:cr:=cn Bj gU
def G0:FT:=⟨⟨[.d NC,.d aM,.d .str],[]⟩,⟨[.d aM],[]⟩,dT [(3,(.j ⟨[2],[3,27],⟨g_,Tg⟩,[]⟩)),(52,(.j ⟨[7],[3,56],⟨g_,Tg⟩,[]⟩))]⟩
def Sq:cr:=cn G0 pN
def Nd:FT:=⟨⟨[.d NC,.d aM,.d .str,.d aM,.d aM],[]⟩,⟨[.d aM],[]⟩,dT [(13,(.j ⟨[],[25],⟨[.d .bool],[]⟩,[]⟩))]⟩
def YM:cr:=cn Nd gD
def xZ:FT:=⟨⟨[.d .ex],[]⟩,⟨v_,[]⟩,dT [(8,(.j ⟨[],[1,4,5,6],⟨[.ptr 0 0,.d aM,.d aM,.d aM],[.cells 209 [.d .ex]]⟩,[]⟩))]⟩
def Vr:cr:=cn xZ BZ
def Uu (n:Nat):cr:=cn xZ (nu n)
def xY:FT:=⟨⟨[.d NC,.d aM,.d .ex],[]⟩,⟨[.d aM],[]⟩,dT [(7,(.j ⟨[1],[3,5,7],⟨wa,agn⟩,[]⟩)),(21,(.j ⟨[1],[3,5,7,8],⟨[.ptr 0 0,.ptr 1 0,.d aM,.d aM],agn⟩,[]⟩)),(23,(.j ⟨[1,7,8],[3,5,33],⟨rT,agn⟩,[]⟩))]⟩
def Vp:cr:=cn xY BY
def Ut (n:Nat):cr:=cn xY (nl n)
def Nf:FT:=⟨⟨[.d NC,.d aM,.d .ex],[]⟩,⟨[.d aM],[]⟩,dT [(13,(.j ⟨[1],[3,5,22],⟨rT,agn⟩,[]⟩))]⟩
def YN:cr:=cn Nf mo
def DM:FT:=⟨⟨[.d .bool],[]⟩,⟨[.d aM],[]⟩,.leaf⟩
def Pj:cr:=cn DM c5
def Xi:FT:=⟨⟨v_,[]⟩,⟨[.d aM],[]⟩,.leaf⟩
def afp:cr:=cn Xi jd
def w7:FT:=⟨⟨[.ptr 0 0,.d aM,.d aM,.d .str],Zp⟩,⟨[.d .bool],Zp⟩,dT [(6,(.j ⟨[1,2,3],[0,9],⟨u_,Zp⟩,[]⟩)),(17,(.j ⟨[1,2,3,9],[0,46],⟨g_,Zp⟩,[]⟩))]⟩
def Ft:cr:=cn w7 dZ
def Bi:FT:=⟨⟨[.ptr 0 0,.d .sm],Zp⟩,⟨[.d aM],Zq⟩,dT [(1,(.a [.ren 0 4,.ren 0 5])),(28,(.j ⟨[6,7,8,9,30],[0,3,5,67],⟨agl,La8⟩,[]⟩)),(41,(.j ⟨[],[4],⟨[.d aM],Zq⟩,[]⟩)),(44,(.j ⟨[6,7,8,9,30],[0,3,5,91],⟨agl,La8⟩,[]⟩)),(51,(.j ⟨[],[4],⟨[.d aM],Zq⟩,[]⟩)),(63,(.j ⟨[],[4],⟨[.d aM],Zq⟩,[]⟩)),(66,(.j ⟨[6,7,8,9,30],[0,3,5,119],⟨agl,La8⟩,[]⟩)),(89,(.j ⟨[],[4],⟨[.d aM],Zq⟩,[]⟩)),(108,(.j ⟨[],[0,3,187],⟨[.ptr 0 0,.ptr 4 0,.d .bool],[.cells 236 [.d (.sl Hd),.d (.sl s8),.d aM,.row 1,.row 5,.row 6],.rowsP 211 .sm,.gone,.gone,.cells 211 [.d .sm],.rows 9 ai .str,.rows 9 ai .str]⟩,[]⟩)),(131,(.j ⟨[],[4],⟨[.d aM],Zq⟩,[]⟩)),(137,(.j ⟨[6],[0,3,5,14],⟨[.ptr 0 0,.ptr 4 0,.ptr 5 0,.d aM],La8⟩,[]⟩)),(139,(.j ⟨[6],[0,3,5,14],⟨[.ptr 0 0,.ptr 4 0,.ptr 5 0,.d aM],La8⟩,[]⟩)),(140,(.j ⟨[6,14],[0,3,5,253],⟨agl,La8⟩,[]⟩))]⟩
def L8:cr:=cn Bi mn
def sd:FT:=⟨⟨[.ptr 0 0,.d (.sl .sm)],Zp⟩,⟨v_,akl⟩,dT [(1,(.a [.ren 0 3,.ren 0 4,.ren 0 5])),(6,(.j ⟨[1],[0,6],⟨u_,akl⟩,[]⟩)),(19,(.j ⟨[1,6],[0,7,8],⟨[.ptr 0 0,.ptr 4 0,.d aM],[.cells 236 [.d (.sl Hd),.d (.sl s8),.d aM,.row 5,.row 6,.row 7],.gone,.gone,.gone,.cells 211 [.d .sm],.rowsP 211 .sm,.rows 9 ai .str,.rows 9 ai .str]⟩,[]⟩)),(37,(.j ⟨[1,6],[0,8,9],⟨Ti,akl⟩,[]⟩))]⟩
def L9:cr:=cn sd vU
def LH (n:Nat):cr:=cn sd (iJ n)
def x_:FT:=⟨⟨[.d (.sl .sm)],[]⟩,⟨[.d aM],[]⟩,dT [(8,(.j ⟨[0],[3,4],⟨v_,[]⟩,[]⟩))]⟩
def Vs:cr:=cn x_ B1
def Uv (n:Nat):cr:=cn x_ (ny n)
def Ka:FT:=⟨⟨[.d (.sl Hd)],[]⟩,⟨v_,[]⟩,dT [(8,(.j ⟨[0],[4,5,6,7,8],⟨[.d aM,.d aM,.d aM,.d aM,.d aM],[]⟩,[]⟩)),(16,(.j ⟨[0,8],[4,5,6,7],⟨[.d aM,.d aM,.d aM,.d aM],[]⟩,[]⟩)),(38,(.j ⟨[0,8],[4,5,6,7,9],⟨[.d aM,.d aM,.d aM,.d aM,.ptr 0 0],Zm⟩,[]⟩)),(39,(.j ⟨[0,4,5,6,7,8,36],[9,39],⟨g_,Zm⟩,[]⟩)),(47,(.j ⟨[0,4,5,6,7,8,36],[9,47],⟨g_,Zm⟩,[]⟩)),(61,(.j ⟨[0,4,5,6,7,8],[9,69],⟨g_,Zm⟩,[]⟩))]⟩
def Vq:cr:=cn Ka ry
def DL:FT:=⟨⟨[.d NC],[]⟩,⟨v_,[]⟩,dT [(6,(.j ⟨[],[1,4],⟨u_,Tg⟩,[]⟩)),(17,(.j ⟨[4],[1,5,37],⟨rT,ago⟩,[]⟩)),(29,(.j ⟨[],[1,6],⟨u_,Tg⟩,[]⟩)),(51,(.j ⟨[6],[1,7,8],⟨wa,ago⟩,[]⟩)),(62,(.j ⟨[6,8],[1,7,90],⟨rT,ago⟩,[]⟩))]⟩
def Ph:cr:=cn DL nQ
def DN:FT:=⟨⟨[.d NC],[]⟩,⟨v_,[]⟩,dT [(44,(.j ⟨[],[1,8,9],⟨Ti,Tg⟩,[]⟩)),(67,(.a [.cel 10 3 211 .sm,.cel 10 4 9 .str,.cel 10 5 9 .str])),(69,(.j ⟨[],[1,10,11],⟨wa,[.cells 151 [.d NC],.cells 236 [.d (.sl Hd),.d (.sl s8),.d aM,.row 2,.row 3,.row 4],.rowsP 211 .sm,.rows 9 ai .str,.rows 9 ai .str]⟩,[]⟩))]⟩
def Pk:cr:=cn DN fw
def xX:FT:=⟨⟨[.row 0,.d aM,.d aM,.d (.sl .sm)],[.rows 127 ai oX]⟩,⟨[.row 1,.d aM],[.gone,.rows 127 ai oX]⟩,dT [(1,(.a [.ren 0 0])),(6,(.j ⟨[1,3],[0,2,10],⟨[.row 1,.d aM,.d aM],[.gone,.rows 127 ai oX]⟩,[]⟩)),(25,(.a [.nil 8 127 oX]))]⟩
def Vg:cr:=cn xX IU
def Us (n:Nat):cr:=cn xX (pG n)
def GV:FT:=⟨⟨[.d (.sl rU),.d .str],[]⟩,⟨[.d aM],[]⟩,dT [(6,(.j ⟨[0,1],[5],⟨[.d aM],[]⟩,[]⟩))]⟩
def Sm:cr:=cn GV kq
def GY:FT:=⟨⟨[.d nI,.d .str],[]⟩,⟨[.d aM],[]⟩,dT [(6,(.j ⟨[1],[2,5],⟨u_,qa⟩,[]⟩))]⟩
def So:cr:=cn GY ly
def J6:FT:=⟨⟨[.d NC],[]⟩,⟨[.d nI],[]⟩,dT [(18,(.j ⟨[],[1,2,3,6],⟨FK,ao2⟩,[.cel 3 0 123 kE,.cel 3 1 125 rU,.cel 3 2 116 mh,.cel 3 3 9 .str]⟩)),(31,(.j ⟨[6],[1,2,3],⟨[.ptr 0 0,.ptr 1 0,.ptr 2 0],ao2⟩,[]⟩)),(32,(.j ⟨[6,31],[1,2,3,7,39],⟨Ae,akp⟩,[]⟩)),(42,(.j ⟨[6],[1,2,3,7,8],⟨[.ptr 0 0,.ptr 1 0,.ptr 2 0,.ptr 3 0,.d aM],akp⟩,[]⟩)),(53,(.j ⟨[6,31],[1,2,3,7,65],⟨Ae,akp⟩,[]⟩)),(69,(.a [.cel 3 5 127 oX])),(71,(.j ⟨[],[1,2,3,9],⟨FK,[.cells 151 [.d NC],.cells 31 agk,.cells 31 [.row 3,.row 4,.row 5,.row 6,.row 7,.row 8],.rows 123 ai kE,.rows 125 ai rU,.rows 116 ai mh,.rows 9 ai .str,.rows 9 ai .str,.rows 127 ai oX]⟩,[.cel 3 4 9 .str]⟩))]⟩
def Vk:cr:=cn J6 uq
def J3:FT:=⟨⟨[.d nI],[]⟩,⟨[.d (.sl .str),.d .bool],[]⟩,dT [(8,(.j ⟨[],[1,4,5],⟨PQ,Zn⟩,[.nil 4 9 .str]⟩)),(15,(.j ⟨[],[1,4,5],⟨PQ,Zn⟩,[]⟩)),(37,(.j ⟨[5],[1,4,6,51],⟨[.ptr 0 0,.row 1,.ptr 2 0,.d .bool],akd⟩,[]⟩)),(48,(.j ⟨[5],[1,4,6,7],⟨[.ptr 0 0,.row 1,.ptr 2 0,.d aM],akd⟩,[]⟩)),(59,(.j ⟨[5,7],[1,4,6,93],⟨[.ptr 0 0,.row 1,.ptr 2 0,.d .bool],akd⟩,[]⟩)),(72,(.j ⟨[],[1,4,9],⟨PQ,Zn⟩,[]⟩)),(87,(.j ⟨[],[1,4,10],⟨PQ,Zn⟩,[]⟩))]⟩
def Vh:cr:=cn J3 pu
def yD:FT:=⟨⟨[.d nI],[]⟩,⟨[.d .bool],[]⟩,dT [(3,(.j ⟨[],[1,49],⟨g_,qa⟩,[]⟩)),(24,(.j ⟨[3],[1,5],⟨u_,qa⟩,[]⟩)),(33,(.j ⟨[3,5],[1,79],⟨g_,qa⟩,[]⟩)),(45,(.j ⟨[],[1,6],⟨u_,qa⟩,[]⟩)),(56,(.j ⟨[6],[1,109],⟨g_,qa⟩,[]⟩)),(68,(.j ⟨[],[1,8],⟨u_,qa⟩,[]⟩)),(76,(.j ⟨[8],[1],⟨[.ptr 0 0],qa⟩,[]⟩)),(80,(.j ⟨[8],[1,9,132],⟨rT,[.cells 31 [.d nI],.cells 127 [.d oX]]⟩,[]⟩)),(87,(.j ⟨[8],[1,9,146],⟨rT,[.cells 31 [.d nI],.cells 127 [.d oX]]⟩,[]⟩)),(90,(.j ⟨[8],[1,165],⟨g_,qa⟩,[]⟩))]⟩
def Hx:cr:=cn yD ic
def zL:FT:=⟨⟨[.d qU],[]⟩,⟨qN,[]⟩,dT [(6,(.j ⟨[4],[1,5],⟨g_,[.cells 201 [.d qU]]⟩,[]⟩)),(24,(.j ⟨[4],[1,13],⟨g_,[.cells 201 [.d qU]]⟩,[]⟩)),(46,(.j ⟨[4],[1,37],⟨g_,[.cells 201 [.d qU]]⟩,[]⟩))]⟩
def Kw:cr:=cn zL jL
def GW:FT:=⟨⟨[.d aM],[]⟩,⟨[.d .bool],[]⟩,dT [(2,(.j ⟨[],[2],⟨[.d .bool],[]⟩,[]⟩))]⟩
def Sn:cr:=cn GW pM
def J4:FT:=⟨⟨[.d (.sl qU),.d aM],[]⟩,⟨[.d .bool],[]⟩,dT [(6,(.j ⟨[0],[1,5],⟨v_,[]⟩,[]⟩)),(14,(.j ⟨[0,5],[1],⟨[.d aM],[]⟩,[]⟩)),(16,(.j ⟨[0,1,5],[19],⟨[.d .bool],[]⟩,[]⟩))]⟩
def Vi:cr:=cn J4 pw
def Xh:FT:=⟨⟨v_,[]⟩,⟨[.d .bool],[]⟩,dT [(2,(.j ⟨[],[4],⟨[.d .bool],[]⟩,[]⟩))]⟩
def afo:cr:=cn Xh ju
def J5:FT:=⟨⟨[.d nI,.d aM,.d aM],[]⟩,⟨[.d .bool],[]⟩,dT [(2,(.j ⟨[],[6],⟨[.d .bool],[]⟩,[]⟩))]⟩
def Vj:cr:=cn J5 nh
def DI:FT:=⟨⟨[.d nI,.d qU],[]⟩,⟨[.d .bool],[]⟩,dT [(9,(.j ⟨[],[4],⟨[.d .bool],[]⟩,[]⟩)),(15,(.j ⟨[],[4],⟨[.d .bool],[]⟩,[]⟩)),(30,(.j ⟨[6],[2,3,59],⟨rT,agm⟩,[]⟩)),(37,(.j ⟨[],[4],⟨[.d .bool],[]⟩,[]⟩)),(40,(.j ⟨[6],[2,3,78],⟨rT,agm⟩,[]⟩)),(55,(.j ⟨[],[4],⟨[.d .bool],[]⟩,[]⟩)),(58,(.j ⟨[6],[2,3,98],⟨rT,agm⟩,[]⟩)),(72,(.j ⟨[6],[2,3,108],⟨rT,agm⟩,[]⟩)),(97,(.j ⟨[],[4],⟨[.d .bool],[]⟩,[]⟩)),(103,(.j ⟨[],[4],⟨[.d .bool],[]⟩,[]⟩))]⟩
def Pd:cr:=cn DI lH
def wZ:FT:=⟨⟨[.d nI,.d aM,.d xi],[]⟩,⟨[.d .bool],[]⟩,dT [(5,(.j ⟨[1,7],[3,5,26],⟨rT,adc⟩,[]⟩)),(16,(.j ⟨[1,7],[3,5,8],⟨wa,adc⟩,[]⟩)),(28,(.j ⟨[1,7,8],[3,5,9,67],⟨Ef,ake⟩,[]⟩)),(36,(.j ⟨[1,7,8],[3,5,9,100],⟨Ef,ake⟩,[]⟩)),(44,(.j ⟨[1,7,8],[3,5,9,122],⟨Ef,ake⟩,[]⟩)),(56,(.j ⟨[1,7,8,10],[3,5,11],⟨wa,adc⟩,[]⟩))]⟩
def Fs:cr:=cn wZ iy
def J7:FT:=⟨⟨[.d uP],[]⟩,⟨[.d .bool],[]⟩,dT [(3,(.j ⟨[],[1,17],⟨g_,[.cells 110 [.d uP]]⟩,[]⟩)),(14,(.j ⟨[],[1,3],⟨u_,[.cells 110 [.d uP]]⟩,[]⟩))]⟩
def Vl:cr:=cn J7 jK
def DJ:FT:=⟨⟨[.ptr 0 0,.d qU],La5⟩,⟨[],La4⟩,.leaf⟩
def Pe:cr:=cn DJ cB
def qI:FT:=⟨⟨[.ptr 0 0,.d .ex,.d aM],La5⟩,⟨[],La4⟩,dT [(2,(.j ⟨[],[],⟨[],La4⟩,[]⟩))]⟩
def Ku:cr:=cn qI iN
def I3 (n:Nat):cr:=cn qI (iO n)
def yC:FT:=⟨⟨[.ptr 0 0,.d .sm],La5⟩,⟨[],La4⟩,.leaf⟩
def Hw:cr:=cn yC l8
def Bh:FT:=⟨⟨[.ptr 0 0,.d .str],La5⟩,⟨[.d aM],La5⟩,dT [(6,(.j ⟨[1],[0,5],⟨u_,La5⟩,[]⟩))]⟩
def L7:cr:=cn Bh jy
def qJ:FT:=⟨⟨[.ptr 0 0,.d (.sl .sm)],La5⟩,⟨[],La4⟩,dT [(1,(.a [.ren 0 7])),(3,(.j ⟨[1],[0,4],⟨u_,La4⟩,[]⟩))]⟩
def Kv:cr:=cn qJ uo
def I4 (n:Nat):cr:=cn qJ (dP n)
def vZ:FT:=⟨⟨[.ptr 0 0,.d .sm],La5⟩,⟨[],La4⟩,dT [(1,(.a [.ren 0 7])),(10,(.j ⟨[],[],⟨[],La4⟩,[]⟩)),(15,(.j ⟨[4,25],[0,3,31],⟨[.ptr 0 0,.ptr 2 0,.d .bool],[.cells 197 [.d (.sl kE),.d (.sl rU),.d (.sl mh),.d (.sl .str),.d (.sl .str),.d (.sl oX),.d (.sl .str),.row 3,.d aM,.d aM],.gone,.cells 211 [.d .sm],.rows 201 ai qU]⟩,[]⟩))]⟩
def LG (n:Nat):cr:=cn vZ (eT n)
def qK:FT:=⟨⟨[.ptr 0 0,.d .sm],La5⟩,⟨[],La4⟩,.leaf⟩
def C8 (n:Nat):cr:=cn qK (c9 n)
def s6:FT:=⟨⟨[.ptr 0 0,.d .sm,.d aM,.d aM,.d aM],La5⟩,⟨[],La4⟩,.leaf⟩
def Hj (n:Nat):cr:=cn s6 (dL n)
def DK:FT:=⟨⟨[.d NC],[]⟩,⟨[.d uP,.d aM,.d aM],[]⟩,dT [(20,(.j ⟨[],[1,2,7,8,9],⟨[.ptr 0 0,.ptr 1 0,.ptr 2 0,.d aM,.d aM],[.cells 151 [.d NC],.cells 110 ad6,.cells 110 [.d (.sl kE),.d (.sl rU),.d (.sl mh),.d (.sl .str),.d (.sl .str),.d (.sl oX),.row 3],.rows 184 ai xi]⟩,[.cel 7 6 184 xi]⟩)),(32,(.a [.cel 10 7 201 qU])),(45,(.j ⟨[8,9],[1,2,7,10,11,12],⟨akb,ao8⟩,[]⟩)),(59,(.j ⟨[8,9,12,13],[1,2,7,10,11,14],⟨akb,ao8⟩,[]⟩))]⟩
def Pf:cr:=cn DK qw
def RK:FT:=⟨⟨K7,[]⟩,⟨[.d .bool],[]⟩,dT [(6,(.j ⟨[0,1],[5],⟨[.d aM],[]⟩,[]⟩))]⟩
def abx:cr:=cn RK qu
def RJ:FT:=⟨⟨K7,[]⟩,⟨qN,[]⟩,dT [(6,(.j ⟨[0,1],[5],⟨[.d aM],[]⟩,[]⟩)),(8,(.j ⟨[0,1,5],[18],⟨[.d .bool],[]⟩,[]⟩)),(16,(.j ⟨[0,1,5],[32],⟨[.d .bool],[]⟩,[]⟩))]⟩
def abw:cr:=cn RJ wG
def J2:FT:=⟨⟨[.d (.sl aM),.d (.sl aM)],[]⟩,⟨qN,[]⟩,dT [(8,(.j ⟨[0,1],[5,6],⟨K7,[]⟩,[]⟩)),(23,(.j ⟨[1],[5,7],⟨K7,[]⟩,[]⟩))]⟩
def Vf:cr:=cn J2 ru
def Bg:FT:=⟨⟨[.d aM],[]⟩,⟨[.d aM],[]⟩,dT [(3,(.j ⟨[0],[8],⟨[.d .bool],[]⟩,[]⟩))]⟩
def L6:cr:=cn Bg mm
def Nc:FT:=⟨⟨[.d eY],[]⟩,⟨[.agg agj],adf⟩,dT [(8,(.j ⟨[],[1,2,3,4],⟨FK,[.cells 188 [.d eY],.cells 188 XL,.cells 188 [.d aM,.row 3,.row 4,.d aM],.rows 2 ai aM,.rows 50 ai (.sl aM)]⟩,[.cel 3 2 50 (.sl aM)]⟩))]⟩
def YL:cr:=cn Nc cg
def Nb:FT:=⟨⟨[.d qU,.agg agj],adf⟩,⟨[.agg agj,.d .bool],adf⟩,dT [(8,(.j ⟨[6],[2,3,4,7],⟨[.ptr 2 0,.ptr 3 0,.ptr 4 0,.d aM],akm⟩,[]⟩)),(17,(.j ⟨[6,7],[2,3,4,33],⟨[.ptr 2 0,.ptr 3 0,.ptr 4 0,.d .bool],akm⟩,[]⟩)),(32,(.j ⟨[],[2,3,4,8,9,10],⟨[.ptr 2 0,.ptr 3 0,.ptr 4 0,.d aM,.d .bool,.d (.sl aM)],akm⟩,[]⟩))]⟩
def YK:cr:=cn Nb wF
def GU:FT:=⟨⟨[.d xi,.d eY],[]⟩,⟨[.d eY,.d .bool],[]⟩,dT [(3,(.j ⟨[],[2,3,4,23],⟨Ef,[.cells 184 [.d xi],.cells 188 [.d eY],.cells 188 XL]⟩,[]⟩)),(16,(.j ⟨[],[2,3,4,6],⟨FK,ao0⟩,[]⟩)),(26,(.j ⟨[6],[2,3,4,44],⟨Ef,ao0⟩,[]⟩))]⟩
def Sl:cr:=cn GU ng
def J0:FT:=⟨⟨[.d nI],[]⟩,⟨[.d HM],[]⟩,dT [(8,(.j ⟨[],[1,2,3,4],⟨FK,[.cells 31 [.d nI],.cells 94 Cp,.cells 94 [.row 3,.d aM,.nil,.nil],.rows 167 ai eh]⟩,[.cel 3 0 167 eh]⟩)),(23,(.j ⟨[],[1,2,3,5],⟨FK,[.cells 31 [.d nI],.cells 94 Cp,.cells 94 [.row 3,.d aM,.row 4,.nil],.rows 167 ai eh,.rows 4 ai .bool]⟩,[.cel 3 2 4 .bool]⟩)),(38,(.j ⟨[],[1,2,3,6],⟨FK,[.cells 31 [.d nI],.cells 94 Cp,.cells 94 ad9,.rows 167 ai eh,.rows 4 ai .bool,.rows 169 ai ij]⟩,[.cel 3 3 169 ij]⟩)),(49,(.j ⟨[6],[1,2,3,7],⟨adb,[.cells 31 [.d nI],.cells 94 Cp,.cells 94 [.row 4,.d aM,.row 5,.row 6],.cells 169 [.d ij],.rows 167 ai eh,.rows 4 ai .bool,.rows 169 ai ij]⟩,[]⟩))]⟩
def Vd:cr:=cn J0 rn
def M':FT:=⟨⟨[.d nI,.d HM],[]⟩,⟨[.d .bool],[]⟩,dT [(6,(.j ⟨[],[2,3,5],⟨wa,Wc⟩,[]⟩)),(15,(.j ⟨[5],[2,3,31],⟨rT,Wc⟩,[]⟩)),(23,(.j ⟨[],[4],⟨[.d .bool],[]⟩,[]⟩))]⟩
def YI:cr:=cn M' rq
def Xg:FT:=⟨⟨v_,[]⟩,⟨[.d .bool],[]⟩,dT [(2,(.j ⟨[],[4],⟨[.d .bool],[]⟩,[]⟩))]⟩
def afn:cr:=cn Xg qr
def JZ:FT:=⟨⟨[.d nI,.d aM,.d aM],[]⟩,⟨[.d .bool],[]⟩,dT [(6,(.j ⟨[2,7],[3,8],⟨g_,qa⟩,[]⟩)),(36,(.j ⟨[2,7],[3,18],⟨g_,qa⟩,[]⟩)),(46,(.j ⟨[2,7],[3,26],⟨g_,qa⟩,[]⟩)),(53,(.j ⟨[],[6],⟨[.d .bool],[]⟩,[]⟩)),(56,(.j ⟨[2,7],[3,43],⟨g_,qa⟩,[]⟩)),(71,(.j ⟨[],[6],⟨[.d .bool],[]⟩,[]⟩)),(74,(.j ⟨[2,7],[3,61],⟨g_,qa⟩,[]⟩)),(92,(.j ⟨[2,7],[3,71],⟨g_,qa⟩,[]⟩)),(102,(.j ⟨[2],[3,79],⟨g_,qa⟩,[]⟩))]⟩
def Vc:cr:=cn JZ um
def DH:FT:=⟨⟨[.d nI,.d HM,.d aM,.d aM,.d aM],[]⟩,⟨[.d .bool],[]⟩,dT [(3,(.j ⟨[2,3,4],[5,6,30],⟨rT,Wc⟩,[]⟩)),(25,(.j ⟨[],[10],⟨[.d .bool],[]⟩,[]⟩)),(50,(.j ⟨[],[10],⟨[.d .bool],[]⟩,[]⟩)),(56,(.j ⟨[],[10],⟨[.d .bool],[]⟩,[]⟩)),(59,(.j ⟨[2,4,70],[5,6,11,119],⟨Ef,[.cells 31 [.d nI],.cells 94 [.d HM],.cells 169 [.d ij]]⟩,[]⟩)),(99,(.j ⟨[2,4,70],[5,6,160],⟨rT,Wc⟩,[]⟩)),(116,(.j ⟨[],[10],⟨[.d .bool],[]⟩,[]⟩)),(122,(.j ⟨[],[10],⟨[.d .bool],[]⟩,[]⟩))]⟩
def Pc:cr:=cn DH ko
def DG:FT:=⟨⟨[.d HM,.d aM],[]⟩,⟨qN,[]⟩,dT [(8,(.j ⟨[1],[2,5,6],⟨PQ,ada⟩,[.nil 5 3 aM]⟩)),(16,(.j ⟨[1,6],[2,5],⟨[.ptr 0 0,.row 1],ada⟩,[]⟩)),(17,(.j ⟨[1,6],[2,5,30],⟨[.ptr 0 0,.row 1,.d .bool],ada⟩,[]⟩))]⟩
def Pb:cr:=cn DG nP
def DF:FT:=⟨⟨K7,[]⟩,⟨qN,[]⟩,dT [(8,(.j ⟨[0,1],[5,6],⟨[.row 0,.d aM],[.rows 3 ai aM]⟩,[.nil 5 3 aM]⟩)),(16,(.j ⟨[0,1,6],[5],⟨[.row 0],[.rows 3 ai aM]⟩,[]⟩))]⟩
def Pa:cr:=cn DF qp
def Na:FT:=⟨⟨[.d HM],[]⟩,⟨[.agg HL],akc⟩,dT [(8,(.j ⟨[],[1,2,3,4],⟨FK,[.cells 94 [.d HM],.cells 94 Cp,.cells 94 ad9,.rows 167 ai eh,.rows 4 ai .bool,.rows 169 ai ij]⟩,[.cel 3 0 167 eh]⟩))]⟩
def YJ:cr:=cn Na iw
def mA:FT:=⟨⟨[.agg HL,.d aM],akc⟩,⟨qN,akc⟩,dT [(8,(.j ⟨[1],[2,5,6],⟨[.ptr 3 0,.row 4,.d aM],aki⟩,[.nil 5 3 aM]⟩)),(16,(.j ⟨[1,6],[2,5],⟨[.ptr 3 0,.row 4],aki⟩,[]⟩)),(17,(.j ⟨[1,6],[2,5,30],⟨[.ptr 3 0,.row 4,.d .bool],aki⟩,[]⟩))]⟩
def L5:cr:=cn mA ml
def Kt:cr:=⟨mA.pre,⟨mA.post.vs,[]⟩,jJ⟩
def J1:FT:=⟨⟨[.d nI,.d HM,.d aM,.d aM,.d aM,.d aM],[]⟩,⟨[.d HM,.d aM,.d .bool],[]⟩,dT [(17,(.j ⟨[],[7,12,15],⟨wa,akk⟩,[]⟩)),(26,(.j ⟨[2,4,5,15,30],[6,7,12,45],⟨Ef,ao1⟩,[]⟩)),(34,(.j ⟨[2,4,5,15,30],[6,7,12,54],⟨Ef,ao1⟩,[]⟩)),(90,(.j ⟨[],[7,12,17],⟨wa,akk⟩,[]⟩)),(109,(.j ⟨[18],[7,12,19],⟨wa,akk⟩,[]⟩))]⟩
def Ve:cr:=cn J1 pt
def JY:FT:=⟨⟨[.d uP],[]⟩,⟨[.d wh],[]⟩,dT [(16,(.j ⟨[],[1,2,3,4],⟨FK,[.cells 110 [.d uP],.cells 105 wg,.cells 105 [.d (.sl eh),.d aM,.d qb,.d (.sl ij),.row 3,.nil,.nil],.rows 2 ai aM]⟩,[.cel 3 4 2 aM]⟩)),(31,(.j ⟨[],[1,2,3,5],⟨FK,[.cells 110 [.d uP],.cells 105 wg,.cells 105 [.d (.sl eh),.d aM,.d qb,.d (.sl ij),.row 3,.row 4,.nil],.rows 2 ai aM,.rows 2 ai aM]⟩,[.cel 3 5 2 aM]⟩)),(46,(.j ⟨[],[1,2,3,6],⟨FK,[.cells 110 [.d uP],.cells 105 wg,.cells 105 akj,.rows 2 ai aM,.rows 2 ai aM,.rows 188 ai eY]⟩,[.cel 3 6 188 eY]⟩))]⟩
def Vb:cr:=cn JY ul
def M_:FT:=⟨⟨[.d uP,.d wh],[]⟩,⟨[.d .bool],[]⟩,dT [(3,(.j ⟨[],[2,3,46],⟨rT,ade⟩,[]⟩)),(14,(.j ⟨[],[2,3,5],⟨wa,ade⟩,[]⟩)),(25,(.j ⟨[5],[2,3,97],⟨rT,ade⟩,[]⟩))]⟩
def YG:cr:=cn M_ wE
def M8:FT:=⟨⟨[.d aM],[]⟩,⟨[.d aM],[]⟩,dT [(5,(.j ⟨[0],[3,10],⟨[.row 0,.d .bool],[.rows 3 aj aM]⟩,[]⟩))]⟩
def YE:cr:=cn M8 wC
def Gn:FT:=⟨⟨[.d qU,.d eY],[]⟩,⟨[.d aM],[]⟩,dT [(6,(.j ⟨[6],[2,3,7],⟨rT,[.cells 201 [.d qU],.cells 188 [.d eY]]⟩,[]⟩)),(28,(.j ⟨[],[2,40],⟨g_,[.cells 201 [.d qU]]⟩,[]⟩))]⟩
def R1:cr:=cn Gn sx
def DE:FT:=⟨⟨[.d uP,.d wh,.d aM],[]⟩,⟨[.d jt,.d .bool],[]⟩,dT [(3,(.j ⟨[2],[3,4,6,25],⟨Ef,[.cells 110 [.d uP],.cells 105 [.d wh],.cells 52 vb]⟩,[]⟩)),(54,(.j ⟨[],[6,8,9,10],⟨adb,anx⟩,[.cel 10 5 3 aM]⟩)),(59,(.j ⟨[],[6,8,9,10,98],⟨Ae,[.cells 52 vb,.cells 188 [.d eY],.cells 201 [.d qU],.cells 52 vb]⟩,[]⟩)),(68,(.j ⟨[],[6,10],⟨[.ptr 0 0,.ptr 1 0],[.cells 52 vb,.cells 52 [.d aM,.d aM,.d aM,.d aM,.d aM,.row 2,.row 3],.rows 3 ai aM,.rows 3 ai aM]⟩,[.cel 10 6 3 aM]⟩)),(69,(.j ⟨[],[6,8,9,10,123],⟨Ae,anx⟩,[]⟩))]⟩
def O_:cr:=cn DE nO
def JW:FT:=⟨⟨[.d nI],[]⟩,⟨[.d iV],[]⟩,dT [(8,(.j ⟨[],[1,2,3,4],⟨FK,[.cells 31 [.d nI],.cells 97 wg,.cells 97 akj,.rows 2 ai aM,.rows 2 aj aM,.rows 3 aj aM]⟩,[.cel 3 4 2 aM]⟩))]⟩
def U':cr:=cn JW mS
def M7:FT:=⟨⟨[.d nI,.d iV],[]⟩,⟨[.d .bool],[]⟩,dT [(2,(.j ⟨[],[4],⟨[.d .bool],[]⟩,[]⟩))]⟩
def YD:cr:=cn M7 wB
def Xf:FT:=⟨⟨v_,[]⟩,⟨[.d .bool],[]⟩,dT [(2,(.j ⟨[],[4],⟨[.d .bool],[]⟩,[]⟩))]⟩
def afm:cr:=cn Xf C2
def DC:FT:=⟨⟨K7,[]⟩,⟨[.d .bool],[]⟩,dT [(6,(.j ⟨[0,1],[5],⟨[.d aM],[]⟩,[]⟩)),(15,(.j ⟨[0,1,5],[40],⟨[.d .bool],[]⟩,[]⟩))]⟩
def O9:cr:=cn DC nN
def JU:FT:=⟨⟨[.d iV,.d jt],[]⟩,⟨[.d .bool],[]⟩,dT [(21,(.j ⟨[],[4],⟨[.d .bool],[]⟩,[]⟩)),(24,(.j ⟨[7],[2,3,40],⟨rT,[.cells 97 [.d iV],.cells 52 [.d jt]]⟩,[]⟩)),(47,(.j ⟨[],[4],⟨[.d .bool],[]⟩,[]⟩))]⟩
def U9:cr:=cn JU uj
def M6:FT:=⟨⟨[.d nI,.d iV,.d jt],[]⟩,⟨[.d iV,.d .bool],[]⟩,dT [(3,(.j ⟨[],[3,4,5,6,46],⟨Ae,Lb⟩,[]⟩)),(10,(.j ⟨[],[3,4,5,6],⟨adb,Lb⟩,[]⟩)),(11,(.j ⟨[],[3,4,5,6,55],⟨Ae,Lb⟩,[]⟩)),(21,(.j ⟨[],[3,4,5,6,78],⟨Ae,Lb⟩,[]⟩)),(28,(.j ⟨[],[3,4,5,6,8],⟨Ae,Lb⟩,[]⟩)),(31,(.j ⟨[],[3,4,5,6,110],⟨Ae,Lb⟩,[]⟩)),(39,(.j ⟨[],[3,4,5,6,125],⟨Ae,Lb⟩,[]⟩)),(47,(.j ⟨[],[3,4,5,6,154],⟨Ae,Lb⟩,[]⟩)),(58,(.j ⟨[],[3,4,5,6,9,10],⟨akb,[.cells 31 [.d nI],.cells 97 [.d iV],.cells 52 [.d jt],.cells 97 wg,.cells 97 [.nil,.d aM,.nil,.nil,.row 5,.row 6,.row 7],.rows 2 ai aM,.rows 2 ai aM,.rows 3 ai aM]⟩,[]⟩)),(66,(.j ⟨[],[5,6,9],⟨[.ptr 0 0,.ptr 1 0,.ptr 2 0],ak9⟩,[]⟩)),(72,(.j ⟨[],[5,6,9],⟨[.ptr 0 0,.ptr 1 0,.ptr 2 0],ak9⟩,[]⟩))]⟩
def YC:cr:=cn M6 rm
def JV:FT:=⟨⟨[.d (.sl jt),.d aM,.d aM,.d (.sl aM)],[]⟩,⟨[.d .bool],[]⟩,dT [(6,(.j ⟨[0,1,2,3],[9],⟨[.d aM],[]⟩,[]⟩)),(23,(.j ⟨[0,1,2,3,9],[10,11,12],⟨[.d aM,.d .bool,.d aM],[]⟩,[]⟩)),(31,(.j ⟨[0,1,2,3,9,12],[10,11],⟨[.d aM,.d .bool],[]⟩,[]⟩)),(38,(.j ⟨[0,1,2,3,9,10,12],[11],⟨[.d .bool],[]⟩,[]⟩))]⟩
def U_:cr:=cn JV rk
def JX:FT:=⟨⟨[.d mK],[]⟩,⟨v_,[]⟩,dT [(24,(.j ⟨[],[1,4,5],⟨wa,[.cells 34 [.d mK],.cells 97 [.d iV]]⟩,[]⟩)),(38,(.j ⟨[5],[1,4,7,63],⟨Ef,[.cells 34 [.d mK],.cells 97 [.d iV],.cells 97 [.d iV]]⟩,[]⟩))]⟩
def Va:cr:=cn JX uk
def GR:FT:=⟨⟨[.d wh],[]⟩,⟨[.agg [.agg HL,.row 3,.row 4,.csl 5 4 1]],[.rows 167 ai eh,.rows 4 ai .bool,.rows 169 ai ij,.rows 2 ai aM,.rows 2 ai aM,.cells 188 [.d aM,.row 6,.row 7,.d aM],.rows 2 ai aM,.rows 50 ai (.sl aM)]⟩,dT [(8,(.u 2))]⟩
def Sk:cr:=cn GR ne
def Gx:FT:=⟨⟨Mn,[]⟩,⟨Mo,[]⟩,dT [(27,(.s 5 0 0 1)),(37,(.j ⟨[],[3,4,5,6,7,9,14,15,16],⟨Ms,akv⟩,[]⟩)),(38,(.j ⟨[16,77],[3,4,5,6,7,9,14,15,78],⟨NA,akv⟩,[]⟩)),(83,(.j ⟨[16],[3,4,5,6,7,9,14],⟨Mq,[.cells 110 [.d uP],.cells 105 aib,.cells 154 [.d gp],.cells 105 wg,.cells 52 vb,.cells 52 [.d jt],.cells 188 K_,.rows 2 ai aM,.rows 2 ai aM,.cells 188 K_,.rows 2 ai aM,.rows 50 ai (.sl aM)]⟩,[]⟩)),(84,(.j ⟨[16],[3,4,5,6,7,9,14,15,154],⟨NA,akv⟩,[]⟩)),(95,(.j ⟨[],[4,5,6,7,9,14],⟨Mp,[.cells 105 [.d (.sl eh),.d aM,.d qb,.d (.sl ij),.row 6,.row 7,.csl 8 4 1],.cells 154 [.d gp],.cells 105 wg,.cells 52 vb,.cells 52 [.d jt],.cells 188 [.d eY],.rows 2 ai aM,.rows 2 ai aM,.cells 188 [.d eY]]⟩,[]⟩)),(96,(.j ⟨[],[3,4,5,6,7,9,14,183],⟨Mr,[.cells 110 [.d uP],.cells 105 aib,.cells 154 [.d gp],.cells 105 wg,.cells 52 vb,.cells 52 [.d jt],.cells 188 La,.rows 2 ai aM,.rows 2 ai aM,.cells 188 La]⟩,[]⟩)),(102,(.s 5 0 0 1)),(104,(.a [.pk 4 6 eY]))]⟩
def Sa:cr:=cn Gx gd
def GP:FT:=⟨⟨[.d wh],[]⟩,⟨[.agg [.agg HL,.row 3,.row 4,.csl 5 4 2]],[.rows 167 ai eh,.rows 4 ai .bool,.rows 169 ai ij,.rows 2 ai aM,.rows 2 ai aM,.cells 188 [.d aM,.row 6,.row 7,.d aM,.d eY],.rows 2 ai aM,.rows 50 ai (.sl aM)]⟩,dT [(8,(.u 3))]⟩
def Sj:cr:=cn GP m_
def Gw:FT:=⟨⟨Mn,[]⟩,⟨Mo,[]⟩,dT [(27,(.s 5 0 0 1)),(37,(.j ⟨[],[3,4,5,6,7,9,14,15,16],⟨Ms,akx⟩,[]⟩)),(38,(.j ⟨[16,77],[3,4,5,6,7,9,14,15,78],⟨NA,akx⟩,[]⟩)),(83,(.j ⟨[16],[3,4,5,6,7,9,14],⟨Mq,[.cells 110 [.d uP],.cells 105 agq,.cells 154 [.d gp],.cells 105 wg,.cells 52 vb,.cells 52 [.d jt],.cells 188 K_,.rows 2 ai aM,.rows 2 ai aM,.cells 188 [.d aM,.row 10,.row 11,.d aM,.d eY],.rows 2 ai aM,.rows 50 ai (.sl aM)]⟩,[]⟩)),(84,(.j ⟨[16],[3,4,5,6,7,9,14,15,154],⟨NA,akx⟩,[]⟩)),(95,(.j ⟨[],[4,5,6,7,9,14],⟨Mp,ao7⟩,[]⟩)),(96,(.j ⟨[],[3,4,5,6,7,9,14,183],⟨Mr,[.cells 110 [.d uP],.cells 105 agq,.cells 154 [.d gp],.cells 105 wg,.cells 52 vb,.cells 52 [.d jt],.cells 188 La,.rows 2 ai aM,.rows 2 ai aM,.cells 188 [.d aM,.d (.sl aM),.d kL,.d aM,.d eY]]⟩,[]⟩)),(102,(.s 5 0 0 1)),(104,(.a [.pk 4 6 eY]))]⟩
def R_:cr:=cn Gw gC
def GM:FT:=⟨⟨[.d wh],[]⟩,⟨[.agg [.agg HL,.row 3,.row 4,.csl 5 4 2]],[.rows 167 ai eh,.rows 4 ai .bool,.rows 169 ai ij,.rows 2 ai aM,.rows 2 ai aM,.cells 188 [.d eY,.d aM,.row 6,.row 7,.d aM],.rows 2 ai aM,.rows 50 ai (.sl aM)]⟩,dT [(8,(.u 3))]⟩
def Si:cr:=cn GM m8
def Gv:FT:=⟨⟨Mn,[]⟩,⟨Mo,[]⟩,dT [(27,(.s 5 0 1 1)),(37,(.j ⟨[],[3,4,5,6,7,9,14,15,16],⟨Ms,akw⟩,[]⟩)),(38,(.j ⟨[16,77],[3,4,5,6,7,9,14,15,78],⟨NA,akw⟩,[]⟩)),(83,(.j ⟨[16],[3,4,5,6,7,9,14],⟨Mq,[.cells 110 [.d uP],.cells 105 agq,.cells 154 [.d gp],.cells 105 wg,.cells 52 vb,.cells 52 [.d jt],.cells 188 K_,.rows 2 ai aM,.rows 2 ai aM,.cells 188 [.d eY,.d aM,.row 10,.row 11,.d aM],.rows 2 ai aM,.rows 50 ai (.sl aM)]⟩,[]⟩)),(84,(.j ⟨[16],[3,4,5,6,7,9,14,15,154],⟨NA,akw⟩,[]⟩)),(95,(.j ⟨[],[4,5,6,7,9,14],⟨Mp,ao7⟩,[]⟩)),(96,(.j ⟨[],[3,4,5,6,7,9,14,183],⟨Mr,[.cells 110 [.d uP],.cells 105 agq,.cells 154 [.d gp],.cells 105 wg,.cells 52 vb,.cells 52 [.d jt],.cells 188 La,.rows 2 ai aM,.rows 2 ai aM,.cells 188 [.d eY,.d aM,.d (.sl aM),.d kL,.d aM]]⟩,[]⟩)),(102,(.s 5 0 1 1)),(104,(.a [.pk 4 6 eY]))]⟩
def R9:cr:=cn Gv f_
def GJ:FT:=⟨⟨[.d wh],[]⟩,⟨ak8,[.rows 167 ai eh,.rows 4 ai .bool,.rows 169 ai ij,.rows 2 ai aM,.rows 2 ai aM,.cells 188 [.d aM,.row 6,.row 7,.d aM,.d eY,.d eY],.rows 2 ai aM,.rows 50 ai (.sl aM)]⟩,dT [(8,(.u 4))]⟩
def Sh:cr:=cn GJ m7
def Gu:FT:=⟨⟨Mn,[]⟩,⟨Mo,[]⟩,dT [(27,(.s 5 0 0 1)),(37,(.j ⟨[],[3,4,5,6,7,9,14,15,16],⟨Ms,al0⟩,[]⟩)),(38,(.j ⟨[16,77],[3,4,5,6,7,9,14,15,78],⟨NA,al0⟩,[]⟩)),(83,(.j ⟨[16],[3,4,5,6,7,9,14],⟨Mq,[.cells 110 [.d uP],.cells 105 Zo,.cells 154 [.d gp],.cells 105 wg,.cells 52 vb,.cells 52 [.d jt],.cells 188 K_,.rows 2 ai aM,.rows 2 ai aM,.cells 188 [.d aM,.row 10,.row 11,.d aM,.d eY,.d eY],.rows 2 ai aM,.rows 50 ai (.sl aM)]⟩,[]⟩)),(84,(.j ⟨[16],[3,4,5,6,7,9,14,15,154],⟨NA,al0⟩,[]⟩)),(95,(.j ⟨[],[4,5,6,7,9,14],⟨Mp,akq⟩,[]⟩)),(96,(.j ⟨[],[3,4,5,6,7,9,14,183],⟨Mr,[.cells 110 [.d uP],.cells 105 Zo,.cells 154 [.d gp],.cells 105 wg,.cells 52 vb,.cells 52 [.d jt],.cells 188 La,.rows 2 ai aM,.rows 2 ai aM,.cells 188 [.d aM,.d (.sl aM),.d kL,.d aM,.d eY,.d eY]]⟩,[]⟩)),(102,(.s 5 0 0 1)),(104,(.a [.pk 4 6 eY]))]⟩
def R8:cr:=cn Gu jx
def GG:FT:=⟨⟨[.d wh],[]⟩,⟨ak8,[.rows 167 ai eh,.rows 4 ai .bool,.rows 169 ai ij,.rows 2 ai aM,.rows 2 ai aM,.cells 188 [.d eY,.d aM,.row 6,.row 7,.d aM,.d eY],.rows 2 ai aM,.rows 50 ai (.sl aM)]⟩,dT [(8,(.u 4))]⟩
def Sg:cr:=cn GG m6
def Gt:FT:=⟨⟨Mn,[]⟩,⟨Mo,[]⟩,dT [(27,(.s 5 0 1 1)),(37,(.j ⟨[],[3,4,5,6,7,9,14,15,16],⟨Ms,akz⟩,[]⟩)),(38,(.j ⟨[16,77],[3,4,5,6,7,9,14,15,78],⟨NA,akz⟩,[]⟩)),(83,(.j ⟨[16],[3,4,5,6,7,9,14],⟨Mq,[.cells 110 [.d uP],.cells 105 Zo,.cells 154 [.d gp],.cells 105 wg,.cells 52 vb,.cells 52 [.d jt],.cells 188 K_,.rows 2 ai aM,.rows 2 ai aM,.cells 188 [.d eY,.d aM,.row 10,.row 11,.d aM,.d eY],.rows 2 ai aM,.rows 50 ai (.sl aM)]⟩,[]⟩)),(84,(.j ⟨[16],[3,4,5,6,7,9,14,15,154],⟨NA,akz⟩,[]⟩)),(95,(.j ⟨[],[4,5,6,7,9,14],⟨Mp,akq⟩,[]⟩)),(96,(.j ⟨[],[3,4,5,6,7,9,14,183],⟨Mr,[.cells 110 [.d uP],.cells 105 Zo,.cells 154 [.d gp],.cells 105 wg,.cells 52 vb,.cells 52 [.d jt],.cells 188 La,.rows 2 ai aM,.rows 2 ai aM,.cells 188 [.d eY,.d aM,.d (.sl aM),.d kL,.d aM,.d eY]]⟩,[]⟩)),(102,(.s 5 0 1 1)),(104,(.a [.pk 4 6 eY]))]⟩
def R7:cr:=cn Gt iM
def GF:FT:=⟨⟨[.d wh],[]⟩,⟨ak8,[.rows 167 ai eh,.rows 4 ai .bool,.rows 169 ai ij,.rows 2 ai aM,.rows 2 ai aM,.cells 188 [.d eY,.d eY,.d aM,.row 6,.row 7,.d aM],.rows 2 ai aM,.rows 50 ai (.sl aM)]⟩,dT [(8,(.u 4))]⟩
def Sf:cr:=cn GF mZ
def Gs:FT:=⟨⟨Mn,[]⟩,⟨Mo,[]⟩,dT [(27,(.s 5 0 2 1)),(37,(.j ⟨[],[3,4,5,6,7,9,14,15,16],⟨Ms,aky⟩,[]⟩)),(38,(.j ⟨[16,77],[3,4,5,6,7,9,14,15,78],⟨NA,aky⟩,[]⟩)),(83,(.j ⟨[16],[3,4,5,6,7,9,14],⟨Mq,[.cells 110 [.d uP],.cells 105 Zo,.cells 154 [.d gp],.cells 105 wg,.cells 52 vb,.cells 52 [.d jt],.cells 188 K_,.rows 2 ai aM,.rows 2 ai aM,.cells 188 [.d eY,.d eY,.d aM,.row 10,.row 11,.d aM],.rows 2 ai aM,.rows 50 ai (.sl aM)]⟩,[]⟩)),(84,(.j ⟨[16],[3,4,5,6,7,9,14,15,154],⟨NA,aky⟩,[]⟩)),(95,(.j ⟨[],[4,5,6,7,9,14],⟨Mp,akq⟩,[]⟩)),(96,(.j ⟨[],[3,4,5,6,7,9,14,183],⟨Mr,[.cells 110 [.d uP],.cells 105 Zo,.cells 154 [.d gp],.cells 105 wg,.cells 52 vb,.cells 52 [.d jt],.cells 188 La,.rows 2 ai aM,.rows 2 ai aM,.cells 188 [.d eY,.d eY,.d aM,.d (.sl aM),.d kL,.d aM]]⟩,[]⟩)),(102,(.s 5 0 2 1)),(104,(.a [.pk 4 6 eY]))]⟩
def R6:cr:=cn Gs ib
def GD:FT:=⟨⟨[.d wh],[]⟩,⟨agp,[.rows 167 ai eh,.rows 4 ai .bool,.rows 169 ai ij,.rows 2 ai aM,.rows 2 ai aM,.cells 188 [.d aM,.row 6,.row 7,.d aM,.d eY,.d eY,.d eY],.rows 2 ai aM,.rows 50 ai (.sl aM)]⟩,dT [(8,(.u 5))]⟩
def Se:cr:=cn GD mY
def dI:FT:=⟨⟨Mn,[]⟩,⟨Mo,[]⟩,dT [(27,(.s 5 0 0 1)),(37,(.j ⟨[],[3,4,5,6,7,9,14,15,16],⟨Ms,aku⟩,[]⟩)),(38,(.j ⟨[16,77],[3,4,5,6,7,9,14,15,78],⟨NA,aku⟩,[]⟩)),(83,(.j ⟨[16],[3,4,5,6,7,9,14],⟨Mq,[.cells 110 [.d uP],.cells 105 Th,.cells 154 [.d gp],.cells 105 wg,.cells 52 vb,.cells 52 [.d jt],.cells 188 K_,.rows 2 ai aM,.rows 2 ai aM,.cells 188 [.d aM,.row 10,.row 11,.d aM,.d eY,.d eY,.d eY],.rows 2 ai aM,.rows 50 ai (.sl aM)]⟩,[]⟩)),(84,(.j ⟨[16],[3,4,5,6,7,9,14,15,154],⟨NA,aku⟩,[]⟩)),(95,(.j ⟨[],[4,5,6,7,9,14],⟨Mp,ags⟩,[]⟩)),(96,(.j ⟨[],[3,4,5,6,7,9,14,183],⟨Mr,[.cells 110 [.d uP],.cells 105 Th,.cells 154 [.d gp],.cells 105 wg,.cells 52 vb,.cells 52 [.d jt],.cells 188 La,.rows 2 ai aM,.rows 2 ai aM,.cells 188 [.d aM,.d (.sl aM),.d kL,.d aM,.d eY,.d eY,.d eY]]⟩,[]⟩)),(102,(.s 5 0 0 1)),(104,(.a [.pk 4 6 eY]))]⟩
def R5:cr:=cn dI mU
def GA:FT:=⟨⟨[.d wh],[]⟩,⟨agp,[.rows 167 ai eh,.rows 4 ai .bool,.rows 169 ai ij,.rows 2 ai aM,.rows 2 ai aM,.cells 188 [.d eY,.d aM,.row 6,.row 7,.d aM,.d eY,.d eY],.rows 2 ai aM,.rows 50 ai (.sl aM)]⟩,dT [(8,(.u 5))]⟩
def Sd:cr:=cn GA mX
def Gr:FT:=⟨⟨Mn,[]⟩,⟨Mo,[]⟩,dT [(27,(.s 5 0 1 1)),(37,(.j ⟨[],[3,4,5,6,7,9,14,15,16],⟨Ms,akt⟩,[]⟩)),(38,(.j ⟨[16,77],[3,4,5,6,7,9,14,15,78],⟨NA,akt⟩,[]⟩)),(83,(.j ⟨[16],[3,4,5,6,7,9,14],⟨Mq,[.cells 110 [.d uP],.cells 105 Th,.cells 154 [.d gp],.cells 105 wg,.cells 52 vb,.cells 52 [.d jt],.cells 188 K_,.rows 2 ai aM,.rows 2 ai aM,.cells 188 [.d eY,.d aM,.row 10,.row 11,.d aM,.d eY,.d eY],.rows 2 ai aM,.rows 50 ai (.sl aM)]⟩,[]⟩)),(84,(.j ⟨[16],[3,4,5,6,7,9,14,15,154],⟨NA,akt⟩,[]⟩)),(95,(.j ⟨[],[4,5,6,7,9,14],⟨Mp,ags⟩,[]⟩)),(96,(.j ⟨[],[3,4,5,6,7,9,14,183],⟨Mr,[.cells 110 [.d uP],.cells 105 Th,.cells 154 [.d gp],.cells 105 wg,.cells 52 vb,.cells 52 [.d jt],.cells 188 La,.rows 2 ai aM,.rows 2 ai aM,.cells 188 [.d eY,.d aM,.d (.sl aM),.d kL,.d aM,.d eY,.d eY]]⟩,[]⟩)),(102,(.s 5 0 1 1)),(104,(.a [.pk 4 6 eY]))]⟩
def R4:cr:=cn Gr mT
def Gz:FT:=⟨⟨[.d wh],[]⟩,⟨agp,[.rows 167 ai eh,.rows 4 ai .bool,.rows 169 ai ij,.rows 2 ai aM,.rows 2 ai aM,.cells 188 [.d eY,.d eY,.d aM,.row 6,.row 7,.d aM,.d eY],.rows 2 ai aM,.rows 50 ai (.sl aM)]⟩,dT [(8,(.u 5))]⟩
def Sc:cr:=cn Gz mW
def Gq:FT:=⟨⟨Mn,[]⟩,⟨Mo,[]⟩,dT [(27,(.s 5 0 2 1)),(37,(.j ⟨[],[3,4,5,6,7,9,14,15,16],⟨Ms,aks⟩,[]⟩)),(38,(.j ⟨[16,77],[3,4,5,6,7,9,14,15,78],⟨NA,aks⟩,[]⟩)),(83,(.j ⟨[16],[3,4,5,6,7,9,14],⟨Mq,[.cells 110 [.d uP],.cells 105 Th,.cells 154 [.d gp],.cells 105 wg,.cells 52 vb,.cells 52 [.d jt],.cells 188 K_,.rows 2 ai aM,.rows 2 ai aM,.cells 188 [.d eY,.d eY,.d aM,.row 10,.row 11,.d aM,.d eY],.rows 2 ai aM,.rows 50 ai (.sl aM)]⟩,[]⟩)),(84,(.j ⟨[16],[3,4,5,6,7,9,14,15,154],⟨NA,aks⟩,[]⟩)),(95,(.j ⟨[],[4,5,6,7,9,14],⟨Mp,ags⟩,[]⟩)),(96,(.j ⟨[],[3,4,5,6,7,9,14,183],⟨Mr,[.cells 110 [.d uP],.cells 105 Th,.cells 154 [.d gp],.cells 105 wg,.cells 52 vb,.cells 52 [.d jt],.cells 188 La,.rows 2 ai aM,.rows 2 ai aM,.cells 188 [.d eY,.d eY,.d aM,.d (.sl aM),.d kL,.d aM,.d eY]]⟩,[]⟩)),(102,(.s 5 0 2 1)),(104,(.a [.pk 4 6 eY]))]⟩
def R3:cr:=cn Gq lx
def Gy:FT:=⟨⟨[.d wh],[]⟩,⟨agp,[.rows 167 ai eh,.rows 4 ai .bool,.rows 169 ai ij,.rows 2 ai aM,.rows 2 ai aM,.cells 188 [.d eY,.d eY,.d eY,.d aM,.row 6,.row 7,.d aM],.rows 2 ai aM,.rows 50 ai (.sl aM)]⟩,dT [(8,(.u 5))]⟩
def Sb:cr:=cn Gy mV
def Gp:FT:=⟨⟨Mn,[]⟩,⟨Mo,[]⟩,dT [(27,(.s 5 0 3 1)),(37,(.j ⟨[],[3,4,5,6,7,9,14,15,16],⟨Ms,akr⟩,[]⟩)),(38,(.j ⟨[16,77],[3,4,5,6,7,9,14,15,78],⟨NA,akr⟩,[]⟩)),(83,(.j ⟨[16],[3,4,5,6,7,9,14],⟨Mq,[.cells 110 [.d uP],.cells 105 Th,.cells 154 [.d gp],.cells 105 wg,.cells 52 vb,.cells 52 [.d jt],.cells 188 K_,.rows 2 ai aM,.rows 2 ai aM,.cells 188 [.d eY,.d eY,.d eY,.d aM,.row 10,.row 11,.d aM],.rows 2 ai aM,.rows 50 ai (.sl aM)]⟩,[]⟩)),(84,(.j ⟨[16],[3,4,5,6,7,9,14,15,154],⟨NA,akr⟩,[]⟩)),(95,(.j ⟨[],[4,5,6,7,9,14],⟨Mp,ags⟩,[]⟩)),(96,(.j ⟨[],[3,4,5,6,7,9,14,183],⟨Mr,[.cells 110 [.d uP],.cells 105 Th,.cells 154 [.d gp],.cells 105 wg,.cells 52 vb,.cells 52 [.d jt],.cells 188 La,.rows 2 ai aM,.rows 2 ai aM,.cells 188 [.d eY,.d eY,.d eY,.d aM,.d (.sl aM),.d kL,.d aM]]⟩,[]⟩)),(102,(.s 5 0 3 1)),(104,(.a [.pk 4 6 eY]))]⟩
def R2:cr:=cn Gp kn
def YH:cr:=cn dI Aq
def M9:FT:=⟨⟨[.d uP,.d wh,.nil,.d (.sl gp)],[]⟩,⟨[.d (.sl jt),.d wh],[]⟩,dT [(1,(.a [.nil 2 52 jt])),(6,(.j ⟨[3],[2,4,5,9,10],⟨[.row 0,.ptr 1 0,.ptr 2 0,.ptr 3 0,.d aM],akh⟩,[]⟩)),(8,(.j ⟨[3,10],[2,4,5,9,22],⟨[.row 0,.ptr 1 0,.ptr 2 0,.ptr 3 0,.d .bool],akh⟩,[]⟩)),(14,(.j ⟨[3,10],[2,4,5,9],⟨[.row 0,.ptr 1 0,.ptr 2 0,.ptr 3 0],akh⟩,[]⟩))]⟩
def YF:cr:=cn M9 wD
def RI:FT:=⟨⟨[.d uP,.d (.sl gp)],[]⟩,⟨[.d mK,.d wh],[]⟩,.leaf⟩
def abv:cr:=cn RI zk
def yI:FT:=⟨⟨u_,Tf⟩,⟨[.d aM],Tf⟩,dT [(3,(.j ⟨[1],[0,18],⟨g_,Zl⟩,[]⟩))]⟩
def HE:cr:=cn yI bx
def Ng:FT:=⟨⟨[.d aM],[]⟩,⟨[.d .ex],[]⟩,.leaf⟩
def YQ:cr:=cn Ng rB
def Ke:FT:=⟨⟨[.d .str],[]⟩,⟨[.d .ex],[]⟩,.leaf⟩
def Vz:cr:=cn Ke pA
def DP:FT:=⟨⟨[.d aM,.d .ex,.d .ex],[]⟩,⟨[.d .ex],[]⟩,.leaf⟩
def Pq:cr:=cn DP nS
def DQ:FT:=⟨⟨[.d .str,.d .ex],[]⟩,⟨[.d .sm],[]⟩,.leaf⟩
def Pr:cr:=cn DQ jv
def G5:FT:=⟨⟨[],[]⟩,⟨[.d (.sl Hd)],[]⟩,.leaf⟩
def SA:cr:=cn G5 sB
def Br:FT:=⟨⟨[.d Eg],[]⟩,⟨[.d (.sl gp)],[]⟩,dT [(8,(.j ⟨[0],[3,4],⟨[.row 0,.d aM],[.rows 154 ai gp]⟩,[.nil 3 154 gp]⟩))]⟩
def Mi:cr:=cn Br oS
def oh:FT:=⟨⟨u_,Wd⟩,⟨[.d .ex],Wd⟩,dT [(8,(.j ⟨[1,6],[0,4,5,14],⟨[.ptr 0 0,.ptr 3 0,.row 4,.d .bool],[.cells 205 aia,.cells 89 [.d yV],.rowsP 9 .str,.cells 209 [.d aM,.d aM,.d .str,.nil],.rows 9 aj .str]⟩,[]⟩))]⟩
def Fx:cr:=cn oh fh
def EU (n:Nat):cr:=cn oh (iB n)
def vH:FT:=⟨⟨[.ptr 0 0,.d .str],Wd⟩,⟨[.d .bool],Wd⟩,.leaf⟩
def D7:cr:=cn vH eS
def mI:FT:=⟨⟨Ti,Wd⟩,⟨[.row 4],[.cells 205 akf,.cells 89 PU,.gone,.rowsP 9 .str,.rows 211 ai .sm]⟩,dT [(1,(.a [.ren 0 7])),(8,(.j ⟨[1,2],[0,7,8],⟨[.ptr 0 0,.row 3,.d aM],anz⟩,[.nil 7 211 .sm]⟩)),(10,(.j ⟨[1,2,8],[0,7,22],⟨[.ptr 0 0,.row 3,.d .bool],anz⟩,[]⟩)),(21,(.a [.nil 6 211 .sm]))]⟩
def D6:cr:=cn mI qx
def C9 (n:Nat):cr:=cn mI (dM n)
def rP:FT:=⟨⟨u_,Wd⟩,⟨[.d .sm],[.cells 205 akf,.cells 89 PU,.gone,.rowsP 9 .str]⟩,dT [(1,(.a [.ren 0 7])),(6,(.j ⟨[1,5],[0,4,6],⟨K9,La2⟩,[]⟩)),(28,(.j ⟨[1,5,6],[0,4,74],⟨K9,La2⟩,[]⟩)),(33,(.j ⟨[],[4,7],⟨[.ptr 3 0,.ptr 4 0],[.cells 205 [.ptr 1 0,.d aM,.d aM,.d .bool,.d .bool,.d .bool,.d .bool,.row 5],.cells 89 [.d yV],.gone,.cells 211 aid,.cells 211 [.d aM,.d aM,.d .str,.d .str,.nil,.d aM,.d aM,.d .str,.d (.sl .ex),.row 6,.row 7],.rowsP 9 .str,.rows 211 ai .sm,.rows 211 ai .sm]⟩,[.cel 7 10 211 .sm]⟩)),(42,(.j ⟨[1,5,6],[0,4,100],⟨K9,La2⟩,[]⟩)),(56,(.j ⟨[1,5,6],[0,4,133],⟨K9,La2⟩,[]⟩)),(64,(.j ⟨[1,5,6],[0,4,165],⟨K9,La2⟩,[]⟩)),(70,(.j ⟨[1,5,6],[0,4,188],⟨K9,La2⟩,[]⟩)),(82,(.j ⟨[1,5,6],[0,4,210],⟨K9,La2⟩,[]⟩)),(94,(.j ⟨[5,6],[0,4,235],⟨K9,La2⟩,[]⟩)),(100,(.j ⟨[5],[0,4,258],⟨K9,La2⟩,[]⟩)),(106,(.j ⟨[5],[0,4,278],⟨K9,La2⟩,[]⟩)),(114,(.j ⟨[],[0,4,308],⟨K9,La2⟩,[]⟩))]⟩
def ES (n:Nat):cr:=cn rP (eL n)
def qL:FT:=⟨⟨[.ptr 0 0,.d .str,.d aM],Wd⟩,⟨[.d (.sl .sm)],[.cells 205 akf,.cells 89 PU,.gone,.rowsP 9 .str]⟩,.leaf⟩
def C_ (n:Nat):cr:=cn qL (ec n)
def Bq:FT:=⟨⟨[.d Eg],[]⟩,⟨[.d NC],[]⟩,dT [(5,(.a [.cel 3 7 9 .str])),(14,(.j ⟨[5],[2,3,4,6,7],⟨[.ptr 0 0,.ptr 1 0,.ptr 2 0,.row 3,.d aM],[.cells 151 [.nil,.nil],.cells 205 [.ptr 4 0,.d aM,.d aM,.d .bool,.d .bool,.d .bool,.d .bool,.row 5],.cells 151 [.d (.sl Hd),.row 6],.rows 9 aj .str,.cells 89 [.d yV],.rowsP 9 .str,.rows 195 ai s8]⟩,[.cel 4 1 195 s8]⟩)),(27,(.j ⟨[5,7],[2,3,4,6,8],⟨[.ptr 0 0,.ptr 1 0,.ptr 2 0,.row 3,.ptr 4 0],La7⟩,[.cel 8 3 211 .sm]⟩)),(34,(.j ⟨[5,7],[2,3,4,6,8,9],⟨[.ptr 0 0,.ptr 1 0,.ptr 2 0,.row 3,.ptr 4 0,.d aM],La7⟩,[.cel 8 3 211 .sm]⟩)),(48,(.j ⟨[5,7],[2,3,4,6,8],⟨[.ptr 0 0,.ptr 1 0,.ptr 2 0,.row 3,.ptr 4 0],La7⟩,[]⟩)),(49,(.j ⟨[5,7],[2,3,4,6,8,79],⟨[.ptr 0 0,.ptr 1 0,.ptr 2 0,.row 3,.ptr 4 0,.d .bool],La7⟩,[]⟩))]⟩
def Mh:cr:=cn Bq oR
def Kf:FT:=⟨⟨[.d Eg],[]⟩,⟨[.d uP],[]⟩,.leaf⟩
def VB:cr:=cn Kf xE
def G6:FT:=⟨⟨[.d Eg,.d Eg],[]⟩,⟨[.d mK],[]⟩,.leaf⟩
def SD:cr:=cn G6 sC
def DA:FT:=⟨⟨[],[]⟩,⟨[.d nI],[]⟩,dT [(8,(.j ⟨[21],[0,1,22],⟨wa,agr⟩,[.cel 1 5 127 oX]⟩)),(22,(.j ⟨[2,21,22],[0,1,3],⟨wa,agr⟩,[]⟩))]⟩
def O7:cr:=cn DA nM
def zK:FT:=⟨⟨[.d iV],[]⟩,⟨qN,[]⟩,dT [(8,(.j ⟨[8,9],[3,10],⟨[.row 0,.d aM],[.rows 3 ai aM]⟩,[.nil 3 3 aM]⟩)),(16,(.j ⟨[8,9,10],[3],⟨[.row 0],[.rows 3 ai aM]⟩,[]⟩))]⟩
def Kr:cr:=cn zK k_
def Dy:FT:=⟨⟨[],[]⟩,⟨qN,[]⟩,.leaf⟩
def O5:cr:=cn Dy tK
def Bf:FT:=⟨⟨Ti,Tf⟩,⟨[.d aM],Tf⟩,dT [(6,(.j ⟨[2,7],[0,8],⟨g_,Zl⟩,[]⟩)),(16,(.j ⟨[2,7],[0,16],⟨g_,Zl⟩,[]⟩)),(26,(.j ⟨[2,7],[0,21],⟨g_,Zl⟩,[]⟩)),(44,(.j ⟨[2,7],[0,26],⟨g_,Zl⟩,[]⟩)),(70,(.j ⟨[2],[0,33],⟨g_,Zl⟩,[]⟩))]⟩
def L4:cr:=cn Bf oM
def Dx:FT:=⟨⟨[.ptr 0 0,.d iV,.d aM,.d aM],Tf⟩,⟨[.d aM],Tf⟩,dT [(18,(.j ⟨[10],[0,5,24],⟨rT,[.cells 89 [.d yV],.cells 97 [.d iV]]⟩,[]⟩))]⟩
def O4:cr:=cn Dx ql
def Gl:FT:=⟨⟨[.ptr 0 0,.row 1],[.cells 89 PU,.rows 3 ai aM]⟩,⟨qN,[.cells 89 PU,.rows 3 ai aM]⟩,dT [(8,(.j ⟨[9],[0,1,5,8,10],⟨[.ptr 0 0,.row 1,.row 2,.row 1,.d aM],aka⟩,[.nil 5 3 aM]⟩)),(16,(.j ⟨[9,10],[0,1,5,8],⟨[.ptr 0 0,.row 1,.row 2,.row 1],aka⟩,[]⟩)),(19,(.j ⟨[7,9,10],[0,1,5,8,24],⟨[.ptr 0 0,.row 1,.row 2,.row 1,.d .bool],aka⟩,[]⟩))]⟩
def RY:cr:=cn Gl gB
def Dz:FT:=⟨⟨[.ptr 0 0,.d iV,.d nI,.csl 1 1 4],anw⟩,⟨[.d jt],anw⟩,dT [(8,(.j ⟨[9],[0,3,5,6,8,11],⟨[.ptr 0 0,.csl 1 1 4,.ptr 6 0,.ptr 7 0,.ptr 8 0,.ptr 9 0],ao3⟩,[]⟩)),(9,(.j ⟨[9],[0,3,5,6,8,11,36],⟨[.ptr 0 0,.csl 1 1 4,.ptr 6 0,.ptr 7 0,.ptr 8 0,.ptr 9 0,.d .bool],ao3⟩,[]⟩)),(18,(.j ⟨[9],[0,3,8,11],⟨[.ptr 0 0,.csl 1 1 4,.ptr 6 0,.ptr 7 0],ao4⟩,[]⟩)),(19,(.j ⟨[9],[0,3,8,11,74],⟨[.ptr 0 0,.csl 1 1 4,.ptr 6 0,.ptr 7 0,.d .bool],[.cells 89 [.d yV],.cells 50 ad5,.rows 3 ai aM,.rows 3 ai aM,.rows 3 ai aM,.rows 3 ai aM,.cells 52 vb,.cells 52 vb]⟩,[]⟩)),(22,(.s 9 0 0 4)),(24,(.j ⟨[],[8,11],⟨[.ptr 6 0,.ptr 7 0],[.cells 89 [.d yV],.cells 50 ad5,.rows 3 ai aM,.rows 3 ai aM,.rows 3 ai aM,.rows 3 ai aM,.cells 52 vb,.cells 52 [.d aM,.d aM,.d aM,.d aM,.d aM,.d (.sl aM),.d (.sl aM)]]⟩,[]⟩)),(25,(.j ⟨[9],[0,3,8,11,89],⟨[.ptr 0 0,.csl 1 1 4,.ptr 6 0,.ptr 7 0,.d .bool],ao4⟩,[]⟩)),(28,(.s 9 0 0 4))]⟩
def O6:cr:=cn Dz qm
def Gm:FT:=⟨⟨[.ptr 0 0,.d iV,.d nI,.d aM,.d .bool],Tf⟩,⟨[.d (.sl jt)],Tf⟩,dT [(8,(.a [.cel 12 0 3 aM,.cel 12 1 3 aM,.cel 12 2 3 aM,.cel 12 3 3 aM])),(9,(.j ⟨[3,11],[0,6,7,12],⟨[.ptr 0 0,.ptr 1 0,.ptr 2 0,.csl 3 1 4],akn⟩,[]⟩)),(10,(.u 5)),(18,(.j ⟨[3,4,11,22,23],[0,6,7,12],⟨[.ptr 0 0,.ptr 1 0,.ptr 2 0,.csl 3 1 4],akn⟩,[]⟩)),(21,(.j ⟨[3,4,11,13,22,23],[0,6,7,12,39],⟨[.ptr 0 0,.ptr 1 0,.ptr 2 0,.csl 3 1 4,.d .bool],akn⟩,[]⟩)),(29,(.j ⟨[3],[0,6,7,11,12],⟨[.ptr 0 0,.ptr 1 0,.ptr 2 0,.row 3,.csl 4 1 4],ako⟩,[.nil 11 52 jt]⟩)),(31,(.j ⟨[3],[0,6,7,11,12,65],⟨[.ptr 0 0,.ptr 1 0,.ptr 2 0,.row 3,.csl 4 1 4,.d .bool],ako⟩,[]⟩)),(36,(.j ⟨[3],[0,6,7,11,12],⟨[.ptr 0 0,.ptr 1 0,.ptr 2 0,.row 3,.csl 4 1 4],ako⟩,[]⟩)),(47,(.j ⟨[3],[0,6,7,11,12,14,15],⟨[.ptr 0 0,.ptr 1 0,.ptr 2 0,.row 3,.csl 4 1 4,.ptr 5 0,.ptr 6 0],ao5⟩,[]⟩)),(48,(.j ⟨[3],[0,6,7,11,12,14,15,87],⟨[.ptr 0 0,.ptr 1 0,.ptr 2 0,.row 3,.csl 4 1 4,.ptr 5 0,.ptr 6 0,.d .bool],ao5⟩,[]⟩)),(51,(.s 14 0 0 4))]⟩
def RZ:cr:=cn Gm sw
def DB:FT:=⟨⟨PU,[]⟩,⟨[.d mK],[]⟩,dT [(2,(.j ⟨[1],[0,4],⟨[.d Eg,.ptr 0 0],[.cells 34 ad6]⟩,[]⟩)),(22,(.j ⟨[1,9],[4,5,6,7,8,10],⟨[.ptr 0 0,.ptr 1 0,.ptr 2 0,.ptr 3 0,.row 4,.d aM],[.cells 34 ad6,.cells 89 [.d yV],.cells 34 [.d (.sl kE),.d (.sl rU),.d (.sl mh),.d (.sl .str),.d (.sl .str),.d (.sl oX),.nil],.cells 97 [.d iV],.rows 52 aj jt]⟩,[]⟩)),(37,(.j ⟨[1,48],[4,5,6,7,47,49],⟨[.ptr 0 0,.ptr 1 0,.ptr 2 0,.ptr 3 0,.row 4,.d aM],ao6⟩,[.cel 6 6 52 jt]⟩)),(45,(.j ⟨[1,48,49],[4,5,6,7,47],⟨[.ptr 0 0,.ptr 1 0,.ptr 2 0,.ptr 3 0,.row 4],ao6⟩,[]⟩))]⟩
def O8:cr:=cn DB qn
def wY:FT:=⟨⟨[.d (.st (.pr Eg (.pr Eg Eg))),.d aM],[]⟩,⟨[.d mK],[]⟩,.leaf⟩
def Fr:cr:=cn wY lh
theorem LQ:aI Pg 167 Mb:=mk Bl kA an b8
theorem Jk:aI Pg 142 Kx:=mk zM jM (ac LQ an) b8
theorem Ga:aI Pg 141 St:=mk G3 lz an b8
theorem UT:aI Pg 168 Vv:=mk Kd rz an b8
theorem US:aI Pg 143 Vu:=mk Kc py (ac Ga (ac UT an)) b8
theorem sG:aI Pg 113 Su:=mk G4 fk (ac Ga (ac Jk (ac US an))) b8
theorem Jj:aI Pg 220 Vm:=mk J8 fY an b8
theorem UL:aI Pg 204 Vn:=mk J9 ur (ac Jj an) b8
theorem Rh:aI Pg 206 Sp:=mk GZ sA (ac Jj an) b8
theorem UM:aI Pg 203 Vo:=mk J_ rx an b8
theorem LP:aI Pg 227 Ma:=mk Bk mq an b8
theorem wP:∀ n:Nat,aI Pg 221 (Hl n)
 |0=>QL pg
 |n+1=>mk pg (md (ig n)) (ac sG (ac (wP n) (ac LP an))) b8
theorem yo:aI Pg 221 Hz:=(wP fuel)
theorem UR:aI Pg 222 Vt:=mk Kb px an b8
theorem rK:∀ n:Nat,aI Pg 207 (Hk n)/\aI Pg 177 (ER n)
 |0=>⟨QL s7,QL og⟩
 |n+1=>⟨mk s7 (kl (eH n) (dK n)) (ac sG (ac (rK n).2 (ac yo (ac UR an)))) b8,mk og (jE (eH n) (dK n)) (ac (rK n).1 an) b8⟩
theorem E8:aI Pg 177 Fu:=(rK fuel).2
theorem Ho:aI Pg 176 Hy:=mk yE kg (ac sG an) b8
theorem Rj:aI Pg 150 Ss:=mk G2 pO (ac sG (ac Ho (ac E8 an))) b8
theorem vz:aI Pg 114 afq:=mk Xj je an b8
theorem vy:aI Pg 178 Sr:=mk G1 ie an b8
theorem vW:aI Pg 179 L_:=mk Bj gU an b8
theorem Ri:aI Pg 223 Sq:=mk G0 pN (ac vz (ac vy (ac vW an))) b8
theorem MU:aI Pg 210 YM:=mk Nd gD (ac Ri an) b8
theorem Gf:∀ n:Nat,aI Pg 224 (Uu n)
 |0=>QL xZ
 |n+1=>mk xZ (uD (nu n)) (ac (Gf n) an) b8
theorem UP:aI Pg 224 Vr:=(Gf fuel)
theorem Ge:∀ n:Nat,aI Pg 225 (Ut n)
 |0=>QL xY
 |n+1=>mk xY (uC (nl n)) (ac MU (ac (Ge n) an)) b8
theorem UN:aI Pg 225 Vp:=(Ge fuel)
theorem Yi:aI Pg 211 YN:=mk Nf mo (ac yo (ac UP (ac UN an))) b8
theorem OM:aI Pg 212 Pj:=mk DM c5 an b8
theorem af3:aI Pg 209 afp:=mk Xi jd an b8
theorem E7:aI Pg 208 Ft:=mk w7 dZ an b8
theorem LN:aI Pg 180 L8:=mk Bi mn (ac vz (ac vy (ac vW (ac E7 (ac af3 (ac MU (ac Yi (ac OM an)))))))) b8
theorem zA:∀ n:Nat,aI Pg 154 (LH n)
 |0=>QL sd
 |n+1=>mk sd (mz (iJ n)) (ac (zA n) (ac LN an)) b8
theorem LO:aI Pg 154 L9:=(zA fuel)
theorem Gg:∀ n:Nat,aI Pg 153 (Uv n)
 |0=>QL x_
 |n+1=>mk x_ (uE (ny n)) (ac (Gg n) an) b8
theorem UQ:aI Pg 153 Vs:=(Gg fuel)
theorem UO:aI Pg 151 Vq:=mk Ka ry (ac vy an) b8
theorem OL:aI Pg 152 Ph:=mk DL nQ (ac vz (ac vy (ac vW an))) b8
theorem xJ:aI Pg 117 Pk:=mk DN fw (ac Rj (ac UO (ac OL (ac UQ (ac LO an))))) b8
theorem Gb:∀ n:Nat,aI Pg 156 (Us n)
 |0=>QL xX
 |n+1=>mk xX (xL (pG n)) (ac (Gb n) an) b8
theorem UG:aI Pg 156 Vg:=(Gb fuel)
theorem F9:aI Pg 155 Sm:=mk GV kq an b8
theorem F':aI Pg 213 So:=mk GY ly an b8
theorem UK:aI Pg 118 Vk:=mk J6 uq (ac xJ (ac F9 (ac UG an))) b8
theorem UH:aI Pg 112 Vh:=mk J3 pu an b8
theorem yn:aI Pg 77 Hx:=mk yD ic (ac UH (ac sG (ac vz an))) b8
theorem uA:aI Pg 121 Kw:=mk zL jL an b8
theorem F_:aI Pg 170 Sn:=mk GW pM an b8
theorem UI:aI Pg 145 Vi:=mk J4 pw (ac F_ an) b8
theorem OJ:aI Pg 146 afo:=mk Xh ju an b8
theorem UJ:aI Pg 169 Vj:=mk J5 nh (ac OJ an) b8
theorem OH:aI Pg 144 Pd:=mk DI lH (ac OJ (ac UJ an)) b8
theorem E6:aI Pg 115 Fs:=mk wZ iy (ac uA (ac OH (ac UI (ac OJ an)))) b8
theorem B_:aI Pg 79 Vl:=mk J7 jK (ac yn (ac E6 an)) b8
theorem nZ:aI Pg 120 Pe:=mk DJ cB an b8
theorem yq:∀ n:Nat,aI Pg 185 (I3 n)
 |0=>QL qI
 |n+1=>mk qI (qC (iO n)) (ac vz (ac nZ (ac (yq n) (ac F' an)))) b8
theorem uz:aI Pg 185 Ku:=(yq fuel)
theorem Hn:aI Pg 181 Hw:=mk yC l8 (ac vz (ac nZ (ac uz (ac F' an)))) b8
theorem LM:aI Pg 184 L7:=mk Bh jy an b8
theorem kh:∀ n:Nat,aI Pg 119 (I4 n)/\aI Pg 157 (LG n)/\aI Pg 182 (C8 n)/\aI Pg 183 (Hj n)
 |0=>⟨QL qJ,QL vZ,QL qK,QL s6⟩
 |n+1=>⟨mk qJ (qD (dP n) (eT n) (c9 n) (dL n)) (ac (kh n).2.1 an) b8,mk vZ (r_ (dP n) (eT n) (c9 n) (dL n)) (ac vz (ac nZ (ac F9 (ac Hn (ac (kh n).2.2.1 (ac (kh n).2.2.2 (ac LM (ac uz an)))))))) b8,mk qK (mE (dP n) (eT n) (c9 n) (dL n)) (ac (kh n).1 (ac nZ (ac uz an))) b8,mk s6 (pd (dP n) (eT n) (c9 n) (dL n)) (ac (kh n).1 (ac nZ an)) b8⟩
theorem Ji:aI Pg 119 Kv:=(kh fuel).1
theorem OK:aI Pg 82 Pf:=mk DK qw (ac xJ (ac UK (ac Ji (ac nZ (ac uA an))))) b8
theorem Jh:aI Pg 103 abx:=mk RK qu an b8
theorem aba:aI Pg 139 abw:=mk RJ wG an b8
theorem Jg:aI Pg 106 Vf:=mk J2 ru (ac aba an) b8
theorem LL:aI Pg 205 L6:=mk Bg mm an b8
theorem ll:aI Pg 174 YL:=mk Nc cg an b8
theorem Yh:aI Pg 175 YK:=mk Nb wF (ac Jg (ac uA (ac UL (ac LL (ac Rh an))))) b8
theorem jA:aI Pg 149 Sl:=mk GU ng (ac F_ (ac ll (ac Yh an))) b8
theorem Jf:aI Pg 69 Vd:=mk J0 rn an b8
theorem E5:aI Pg 100 YI:=mk M' rq an b8
theorem WZ:aI Pg 101 afn:=mk Xg qr an b8
theorem UF:aI Pg 102 Vc:=mk JZ um (ac WZ an) b8
theorem De:aI Pg 72 Pc:=mk DH ko (ac E5 (ac WZ (ac UF (ac Jh an)))) b8
theorem OG:aI Pg 104 Pb:=mk DG nP an b8
theorem OF:aI Pg 107 Pa:=mk DF qp an b8
theorem lj:aI Pg 105 YJ:=mk Na iw an b8
theorem LK:aI Pg 104 L5:=mk mA ml an b8
theorem Je:aI Pg 104 Kt:= @aI.ro Pg 104 mA.pre mA.post.vs ml jJ (LK.holds rfl) rfl (λx _ h=>by rw[show jJ x=obind (ml x) λy=>same y.2 x.2 (af y.1) from rfl] at h;exact h)
theorem jP:aI Pg 75 Ve:=mk J1 pt (ac De (ac Jh (ac Je (ac lj (ac Jg (ac OF an)))))) b8
theorem UE:aI Pg 81 Vb:=mk JY ul (ac Jf (ac B_ an)) b8
theorem Yf:aI Pg 171 YG:=mk M_ wE (ac B_ (ac E5 an)) b8
theorem Yd:aI Pg 172 YE:=mk M8 wC an b8
theorem QW:aI Pg 173 R1:=mk Gn sx (ac UM an) b8
theorem iI:aI Pg 147 O_:=mk DE nO (ac Yf (ac Yd (ac QW an))) b8
theorem Jd:aI Pg 43 U':=mk JW mS (ac Jf an) b8
theorem Yc:aI Pg 70 YD:=mk M7 wB (ac E5 an) b8
theorem af2:aI Pg 71 afm:=mk Xf C2 an b8
theorem OE:aI Pg 73 O9:=mk DC nN an b8
theorem UB:aI Pg 74 U9:=mk JU uj (ac Jh (ac OG an)) b8
theorem E4:aI Pg 45 YC:=mk M6 rm (ac Yc (ac af2 (ac De (ac OE (ac UB (ac jP an)))))) b8
theorem UC:aI Pg 78 U_:=mk JV rk an b8
theorem UD:aI Pg 47 Va:=mk JX uk (ac Jd (ac E4 (ac yn (ac UC an)))) b8
def Mw (t:TypeId):Option Ty:=if aC t 188 then af (.pr .un eY) else b8 t
theorem Rg:aI Pg 148 Sk:=mk GR ne (ac lj (ac ll an)) Mw
theorem Q6:aI Pg 116 Sa:=mk Gx gd (ac jP (ac iI (ac Rg (ac jA an)))) Mw
theorem Rf:aI Pg 148 Sj:=mk GP m_ (ac lj (ac ll an)) Mw
theorem Q5:aI Pg 116 R_:=mk Gw gC (ac jP (ac iI (ac Rf (ac jA an)))) Mw
theorem Re:aI Pg 148 Si:=mk GM m8 (ac lj (ac ll an)) Mw
theorem Q4:aI Pg 116 R9:=mk Gv f_ (ac jP (ac iI (ac Re (ac jA an)))) Mw
theorem Rd:aI Pg 148 Sh:=mk GJ m7 (ac lj (ac ll an)) Mw
theorem Q3:aI Pg 116 R8:=mk Gu jx (ac jP (ac iI (ac Rd (ac jA an)))) Mw
theorem Rc:aI Pg 148 Sg:=mk GG m6 (ac lj (ac ll an)) Mw
theorem Q2:aI Pg 116 R7:=mk Gt iM (ac jP (ac iI (ac Rc (ac jA an)))) Mw
theorem Rb:aI Pg 148 Sf:=mk GF mZ (ac lj (ac ll an)) Mw
theorem Q1:aI Pg 116 R6:=mk Gs ib (ac jP (ac iI (ac Rb (ac jA an)))) Mw
theorem Ra:aI Pg 148 Se:=mk GD mY (ac lj (ac ll an)) Mw
theorem Q0:aI Pg 116 R5:=mk dI mU (ac jP (ac iI (ac Ra (ac jA an)))) Mw
theorem Q_:aI Pg 148 Sd:=mk GA mX (ac lj (ac ll an)) Mw
theorem QZ:aI Pg 116 R4:=mk Gr mT (ac jP (ac iI (ac Q_ (ac jA an)))) Mw
theorem Q9:aI Pg 148 Sc:=mk Gz mW (ac lj (ac ll an)) Mw
theorem QY:aI Pg 116 R3:=mk Gq lx (ac jP (ac iI (ac Q9 (ac jA an)))) Mw
theorem Q7:aI Pg 148 Sb:=mk Gy mV (ac lj (ac ll an)) Mw
theorem QX:aI Pg 116 R2:=mk Gp kn (ac jP (ac iI (ac Q7 (ac jA an)))) Mw
theorem Yg:aI Pg 116 YH:=(aI.orE (pre:=dI.pre) (post:=dI.post) (m:=mU) (m':=(λx=>orE (mT x) ((λx=>orE (lx x) ((λx=>orE (kn x) ((λx=>orE (jx x) ((λx=>orE (iM x) ((λx=>orE (ib x) ((λx=>orE (gC x) ((λx=>orE (f_ x) (gd x)) x)) x)) x)) x)) x)) x)) x))) rfl Q0 (aI.orE (pre:=dI.pre) (post:=dI.post) (m:=mT) (m':=(λx=>orE (lx x) ((λx=>orE (kn x) ((λx=>orE (jx x) ((λx=>orE (iM x) ((λx=>orE (ib x) ((λx=>orE (gC x) ((λx=>orE (f_ x) (gd x)) x)) x)) x)) x)) x)) x))) rfl QZ (aI.orE (pre:=dI.pre) (post:=dI.post) (m:=lx) (m':=(λx=>orE (kn x) ((λx=>orE (jx x) ((λx=>orE (iM x) ((λx=>orE (ib x) ((λx=>orE (gC x) ((λx=>orE (f_ x) (gd x)) x)) x)) x)) x)) x))) rfl QY (aI.orE (pre:=dI.pre) (post:=dI.post) (m:=kn) (m':=(λx=>orE (jx x) ((λx=>orE (iM x) ((λx=>orE (ib x) ((λx=>orE (gC x) ((λx=>orE (f_ x) (gd x)) x)) x)) x)) x))) rfl QX (aI.orE (pre:=dI.pre) (post:=dI.post) (m:=jx) (m':=(λx=>orE (iM x) ((λx=>orE (ib x) ((λx=>orE (gC x) ((λx=>orE (f_ x) (gd x)) x)) x)) x))) rfl Q3 (aI.orE (pre:=dI.pre) (post:=dI.post) (m:=iM) (m':=(λx=>orE (ib x) ((λx=>orE (gC x) ((λx=>orE (f_ x) (gd x)) x)) x))) rfl Q2 (aI.orE (pre:=dI.pre) (post:=dI.post) (m:=ib) (m':=(λx=>orE (gC x) ((λx=>orE (f_ x) (gd x)) x))) rfl Q1 (aI.orE (pre:=dI.pre) (post:=dI.post) (m:=gC) (m':=(λx=>orE (f_ x) (gd x))) rfl Q5 (aI.orE (pre:=dI.pre) (post:=dI.post) (m:=f_) (m':=gd) rfl Q4 Q6)))))))))
theorem Ye:aI Pg 80 YF:=mk M9 wD (ac Yg an) b8
theorem ab9:aI Pg 48 abv:=mk RI zk (ac B_ (ac Ye (ac UE an))) b8
theorem fI:aI Pg 44 HE:=mk yI bx an b8
theorem E_:aI Pg 125 YQ:=mk Ng rB an b8
theorem Jq:aI Pg 188 Vz:=mk Ke pA an b8
theorem Dk:aI Pg 187 Pq:=mk DP nS an b8
theorem Dl:aI Pg 124 Pr:=mk DQ jv an b8
theorem Rl:aI Pg 122 SA:=mk G5 sB an b8
theorem LX:aI Pg 50 Mi:=mk Br oS an b8
theorem vA:∀ n:Nat,aI Pg 186 (EU n)
 |0=>QL oh
 |n+1=>mk oh (oc (iB n)) (ac fI (ac E_ (ac (vA n) (ac Dk (ac Jq an))))) b8
theorem Fa:aI Pg 186 Fx:=(vA fuel)
theorem Dj:aI Pg 189 D7:=mk vH eS (ac vz an) b8
theorem jQ:∀ n:Nat,aI Pg 123 (C9 n)/\aI Pg 158 (ES n)/\aI Pg 190 (C_ n)
 |0=>⟨QL mI,QL rP,QL qL⟩
 |n+1=>⟨mk mI (mG (dM n) (eL n) (ec n)) (ac (jQ n).2.1 an) b8,mk rP (n_ (dM n) (eL n) (ec n)) (ac fI (ac (jQ n).1 (ac Dl (ac E_ (ac Fa (ac Dk (ac Jq (ac Dj (ac (jQ n).2.2 an))))))))) b8,mk qL (mH (dM n) (eL n) (ec n)) (ac fI (ac (jQ n).1 an)) b8⟩
theorem Di:aI Pg 123 D6:=(jQ fuel).1
theorem LW:aI Pg 83 Mh:=mk Bq oR (ac fI (ac xJ (ac Rl (ac Di (ac Dl (ac E_ an)))))) b8
theorem UV:aI Pg 49 VB:=mk Kf xE (ac OK (ac LW an)) b8
theorem Rm:aI Pg 22 SD:=mk G6 sC (ac ab9 (ac UV (ac LX an))) b8
theorem OA:aI Pg 32 O7:=mk DA nM an b8
theorem Ja:aI Pg 140 Kr:=mk zK k_ an b8
theorem Oy:aI Pg 108 O5:=mk Dy tK an b8
theorem LJ:aI Pg 109 L4:=mk Bf oM (ac fI an) b8
theorem Ox:aI Pg 110 O4:=mk Dx ql (ac fI (ac Ja an)) b8
theorem QR:aI Pg 111 RY:=mk Gl gB (ac fI an) b8
theorem Oz:aI Pg 76 O6:=mk Dz qm (ac fI (ac Oy (ac LJ (ac Ox (ac QR an))))) b8
def tv1 (t:TypeId):Option Ty:=if aC t 50 then af (.pr .un (.pr .un (.pr .un (.pr .un (.pr .un (.sl aM)))))) else b8 t
theorem QU:aI Pg 46 RZ:=mk Gm sw (ac fI (ac E4 (ac Oz an))) tv1
theorem OC:aI Pg 21 O8:=mk DB qn (ac OA (ac Jd (ac fI (ac E4 (ac QU (ac UD an)))))) b8
theorem E3:aI Pg 8 Fr:=mk wY lh (ac OC (ac Rm an)) b8
end
end Go.Proofs.YtgijlolllojpaaaGreatDoor.AI
