/-
  Texts of the proof, part 5 of 6: what is used to prove the statement. No condition.
-/
import Derived.Test.YtgijlolllojpaaaGreatDoorShbFirstQ3
import Derived.Deep.Slices
import Derived.OpenShut
import Derived.Below
import Derived.Test.YtgijlolllojpaaaGreatDoorProg
import Derived.KernelRfl
import Derived.Recover
namespace Go.Proofs.YtgijlolllojpaaaGreatDoor.AI
open Go.RowKit
set_option maxRecDepth 100000
set_option maxHeartbeats 4000000
set_option linter.unusedVariables false
set_option linter.unusedSimpArgs false
open Act renaming put→ND
open _root_.Array renaming replicate→oB
open _root_.Bool renaming true→ai,false→aj
open Call renaming operands→eV
open _root_.Int renaming ofNat_eq_natCast→au,ofNat→aQ
open _root_.List renaming length→al,length_singleton→dR,range→dT,cons_append→gr,length_nil→jY,toArray→kJ,nil_append→lP,getElem?_cons_zero→qQ,take_succ_cons→vZ,getElem_of_mem→G2
open _root_.Nat renaming beq→aC,testBit→aN,add_zero→dl,ble→eQ,blt→gk
open Oper renaming wp→HE
open _root_.Option renaming some→af,none→ah,bind_some→aH,map_some→b_,map→lO,getD_some→uW
open Region renaming wanted→iO
open Result renaming andThen_ok→cJ
open Sem renaming run_bind→eP,run_pure→oU
open _root_.Sum renaming inr→bW,inl→oS
open Value renaming okWide→HB
open Value.bool renaming injEq→Cg
open World renaming cell?→Nx
noncomputable section
theorem Uh {K V:Ty} {es:List (K.den×V.den)} (I:mpE K V es=ai):es.map (λp=>(pO K p.1,AV.f (gL V p.2)))=[]:=by
 unfold mpE at I;split at I
 .rfl
 .cases I
theorem aia {K V:Ty} {es:List (K.den×V.den)} (I:mpE K V es=ai):Ug K=ai:=by
 unfold mpE at I;split at I
 .rfl
 .cases I
theorem WM {str:Bool} {K:Ty} (I:X3 str K=ai):Ug K=ai:=by
 cases K<;>cases str<;>first|rfl|cases I
theorem Og {str:Bool} {K:Ty} (I:X3 str K=ai) (k k':K.den):uS .eql (pO K k) (pO K k')=af (.bool (Lj K k k'))/\zh str (pO K k)=ai/\gL K k= .raw (pO K k):=by
 cases K<;>cases str<;>first|cases I|skip
 .exact⟨by simp only[uS,pO,Lj,cS,bG,ak,Cg];exact Bool.beq_eq_decide_eq _ _,rfl,rfl⟩
 .exact⟨by simp only[uS,pO,Lj,DV],rfl,rfl⟩
theorem QH {str:Bool} {K V:Ty} (I:X3 str K=ai) (k:K.den):∀ es:List (K.den×V.den),tI (pO K k) (es.map λp=>(pO K p.1,AV.f (gL V p.2)))=af ((s_ k es).map λv=>AV.f (gL V v))
 |[]=>rfl
 |(k',v)::r=>by
  simp only[gq,tI,(Og I k k').1,s_];cases hb:Lj K k k' with
  |true=>rfl
  |false=>simp only[cz,eo];exact QH I k r
theorem WF {str:Bool} {K V:Ty} (I:X3 str K=ai) (k:K.den) (v:V.den):∀ es:List (K.den×V.den),zf (pO K k) (.f (gL V v)) (es.map λp=>(pO K p.1,AV.f (gL V p.2)))=af ((CQ k v es).map λp=>(pO K p.1,AV.f (gL V p.2)))
 |[]=>rfl
 |(k',J)::r=>by
  simp only[gq,zf,(Og I k k').1,CQ];cases hb:Lj K k k' with
  |true=>rfl
  |false=>simp only[WF I k v r,cz,eo,gq]
theorem agv {h:bk} {ok b:Bool} {v:TV} {y:AV} (hv:ci h v=af y):ci h (pkT ok v (.f .bool b))=af (pkV ok y b):=by
 cases ok with
 |false=>exact hv
 |true=>simp only[pkT,pkV,ci,cL,hv];rfl
section ops
variable {R:Type} {P:Program} {o:Oper} {e:iS} {h:bk} {nx:Nat} {K:KO R} {r:R}
theorem Le.aggOf {l:List FV} (hc:∀ x∈l,x.isCell=ai):Le (.agg (l.map .f)) (.f (.agg l)):=by
 intro φ O w v hr;cases hr with
 |@agg _ vs hl hcl hrr=>
  refine .f (.agg l vs (by simpa using hl) hc λj y u I hu=>?_);have:=hrr j (.f y) u (by rw[a8,I];rfl) hu;cases this with
  |f h=>exact h
def Qt (S:Ty) (l:List TV):Option (S.den×Nat×List TV):=match l with
 |c::r=>(match iN PT.leaf S c with|some (x,m)=>af (x,m,r)|none=>ah)
 |[]=>ah
theorem MI:∀ {l I:List FV},l.map AV.f=I.map AV.f->l=I
 |[],[],_=>rfl
 |[],_::_,h=>by simp at h
 |_::_,[],h=>by simp at h
 |x::r,y::r',h=>by
  simp only[gq,iY,AV.f.injEq] at h;rw[h.1,MI h.2]
theorem Iw (h:bk):∀ (ds:List TypeDesc) (T:Ty),qW ds=af T->∀ (n:Nat) (l:List TV) (x:T.den) (m:Nat) (r:List TV),fc PT.leaf n T l=af (x,m,r)->∀ J,cL h l=af J->∃ l2,cL h r=af l2/\J=(bS T x).map .f++l2
 |[],T,hd,n,l,x,m,r,hp,J,hl=>by
  simp only[qW,ak] at hd;subst hd;cases n with
  |zero=>simp[fc] at hp
  |succ n=>
   simp only[fc,ak,aD] at hp;obtain⟨_,_,rfl⟩:=hp;exact⟨J,hl,rfl⟩
 |d::ds,T,hd,n,l,x,m,r,hp,J,hl=>by
  have plain:∀ (S:Ty),S.one=ai->(∀ t,S≠ .sl t)->∀ (v:TV) (a:S.den) (m:Nat) (y:AV),iN PT.leaf S v=af (a,m)->ci h v=af y->y= .f (gL S a):=by
   intro S Y hns v a m y I hy;cases v with
   |f Q q=>
    simp only[iN] at I;split at I
    .rename_i z hz;simp only[ak,aD] at I;obtain⟨rfl,_⟩:=I;obtain⟨e,rfl⟩:=jm hz;subst e;simp only[ci,ak] at hy;exact hy.symm
    .cases I
   |emp=>
    cases S with
    |sl t=>exact cV rfl (hns t)
    |_=>simp[iN] at I
   |nil=>
    cases S with
    |sl t=>exact cV rfl (hns t)
    |_=>simp[iN] at I
   |row id=>simp[iN,PT.get] at I
   |fel T xs j hj off=>simp[iN] at I
   |pel id sz j off=>simp[iN] at I
   |ptr id off=>simp[iN] at I
   |csl id off z=>simp[iN] at I
   |mp id=>simp[iN] at I
   |rtl id jj=>simp[iN] at I
   |agg q=>simp[iN] at I
   |tup q=>simp[iN] at I
   |clo f q=>simp[iN] at I
   |undef=>simp[iN] at I
   |np=>simp[iN] at I
   |anyb=>simp[iN] at I
  have one:∀ (S:Ty),S.one=ai->(∀ t,S≠ .sl t)->∀ (n:Nat) (l:List TV) (a:S.den) (m:Nat) (r:List TV),fc PT.leaf n S l=af (a,m,r)->∀ J,cL h l=af J->∃ l2,cL h r=af l2/\J=(bS S a).map .f++l2:=by
   intro S Y hns n l a m r hp J hl;cases n with
   |zero=>simp[fc] at hp
   |succ n=>
    cases l with
    |nil=>
     cases S with
     |int k=>cases hp
     |bool=>cases hp
     |str=>cases hp
     |sl t=>exact cV rfl (hns t)
     |_=>cases Y
    |cons c q=>
     have hpp:Qt S (c::q)=af (a,m,r):=by
      cases S with
      |int k=>simp only[fc] at hp;simp only[Qt];cases hq:iN PT.leaf (.int k) c with
       |none=>rw[hq] at hp;cases hp
       |some z=>rw[hq] at hp;exact hp
      |bool=>simp only[fc] at hp;simp only[Qt];cases hq:iN PT.leaf .bool c with
       |none=>rw[hq] at hp;cases hp
       |some z=>rw[hq] at hp;exact hp
      |str=>simp only[fc] at hp;simp only[Qt];cases hq:iN PT.leaf .str c with
       |none=>rw[hq] at hp;cases hp
       |some z=>rw[hq] at hp;exact hp
      |sl t=>exact cV rfl (hns t)
      |_=>cases Y
     simp only[Qt] at hpp;split at hpp
     .rename_i a1 m1 h1;simp only[ak,aD] at hpp;obtain⟨rfl,rfl,rfl⟩:=hpp;obtain⟨y,l2,rfl,g1,Z⟩:=cX hl;have:=plain S Y hns c a1 m1 y h1 g1;subst this;exact⟨l2,Z,by rw[(Dk S a1 Y).1];rfl⟩
     .cases hpp
  have two:∀ (S U:Ty),S.one=ai->(∀ t,S≠ .sl t)->qW ds=af U->T= .pr S U->∃ l2,cL h r=af l2/\J=(bS T x).map .f++l2:=by
   intro S U Y hns M e;subst e;cases n with
   |zero=>simp[fc] at hp
   |succ n=>
    simp only[fc] at hp;split at hp
    .rename_i x1 m1 r1 h1;split at hp
     .rename_i x2 m2 r2 h2;simp only[ak,aD] at hp;obtain⟨rfl,rfl,rfl⟩:=hp;obtain⟨l2,g1,Z⟩:=one S Y hns n l x1 m1 r1 h1 J hl;obtain⟨l3,g3,g4⟩:=Iw h ds U M n r1 x2 m2 r2 h2 l2 g1;exact⟨l3,g3,by rw[Z,g4,bS,cP,gH]⟩
     .cases hp
    .cases hp
  cases d with
  |int k=>
   simp only[qW] at hd;split at hd
   .rename_i U M;simp only[ak] at hd;exact two (.int k) U rfl (λt h=>by cases h) M hd.symm
   .cases hd
  |bool=>
   simp only[qW] at hd;split at hd
   .rename_i U M;simp only[ak] at hd;exact two .bool U rfl (λt h=>by cases h) M hd.symm
   .cases hd
  |string=>
   simp only[qW] at hd;split at hd
   .rename_i U M;simp only[ak] at hd;exact two .str U rfl (λt h=>by cases h) M hd.symm
   .cases hd
  |_=>simp[qW] at hd
theorem Di:∀ (ds:List TypeDesc) (T:Ty),qW ds=af T->∀ a b:T.den,o9 ds (bS T a) (bS T b)=af (Lj T a b)
 |[],T,hd,a,b=>by simp only[qW,ak] at hd;subst hd;rfl
 |d::ds,T,hd,a,b=>by
  cases d with
  |int k=>
   simp only[qW] at hd;split at hd
   .rename_i U M;simp only[ak] at hd;subst hd;have J:=Di ds U M a.2 b.2;simp only[bS,gr,lP,o9,xN,cS,bG,Lj];cases he:((a.1:Int)==b.1) with
    |true=>have I:(a.1:Int)=b.1:=by simpa using he
           simp only[J,I,dW,kL]
    |false=>have I:¬(a.1:Int)=b.1:=by simpa using he
            simp only[I,c_,nB]
   .cases hd
  |bool=>
   simp only[qW] at hd;split at hd
   .rename_i U M;simp only[ak] at hd;subst hd;have J:=Di ds U M a.2 b.2;simp only[bS,gr,lP,o9,xN,Lj];cases he:((a.1:Bool)==b.1)<;>simp[he,J]
   .cases hd
  |string=>
   simp only[qW] at hd;split at hd
   .rename_i U M;simp only[ak] at hd;subst hd;have J:=Di ds U M a.2 b.2;simp only[bS,gr,lP,o9,xN,Lj,DV];cases he:decide ((a.1:List UInt8)=b.1) with
    |true=>simp only[J,kL]
    |false=>simp only[nB]
   .cases hd
  |_=>simp[qW] at hd
theorem Nn {u:TV} (hu:u.isC=aj) {lu:List TV} (hl:u.cs=af lu) {ds:List TypeDesc} {T:Ty} (hd:qW ds=af T) {a:T.den} {m:Nat} (hp:fc PT.leaf 40 T lu=af (a,m,[])) {y:AV} (I:ci h u=af y):Le y (.f (.agg (bS T a))):=by
 obtain⟨h1,_⟩:=Kj hl I;obtain⟨l2,h2,J⟩:=Iw h ds T hd 40 lu a m [] hp _ h1;simp only[cL,ak] at h2;subst h2;rw[hY] at J;cases u with
 |agg l=>
  simp only[ci] at I;split at I
  .rename_i M _;simp only[ak] at I;subst I;have:M=(bS T a).map .f:=J;rw[this];exact Le.aggOf (nY T a)
  .cases I
 |f S x=>
  simp only[ci,ak] at I;subst I;have U:S.one=aj:=hu;rw[Au] at J;have:bS S x=bS T a:=MI J;rw[qD S x U,this];exact Le.refl _
 |tup l=>simp[TV.cs,TV.isC] at hl
 |undef=>simp[TV.cs,TV.isC] at hl
 |np=>cases hu
 |anyb=>simp[TV.cs,TV.isC] at hl
 |fel T xs j hj off=>cases hu
 |pel id sz j off=>cases hu
 |ptr id off=>cases hu
 |csl id off z=>cases hu
 |row id=>cases hu
 |emp=>cases hu
 |nil=>cases hu
 |mp id=>cases hu
 |rtl id Y=>cases hl
 |clo g l=>cases hu
variable (hinv:mc h nx) (hi:tQ e h)
include hinv hi
theorem anw {con:FuncId->Option cu} {b9:TypeId->Option Ty} {neg:Bool} {ds:List TypeDesc} {x y:Operand} {st:Bool} (hc:dj P o.op=af (.eqs neg ds x y)) (hk:dY con b9 (.op (.eqs neg ds x y)) e h nx K=af r):kS P o st e h nx K r:=by
 obtain⟨H,hH⟩:=jR h;simp only[dY] at hk;split at hk
 .rename_i T u v hd hu hv;split at hk
  .cases hk
  .rename_i hcc;simp only[iZ,not_or,Bool.not_eq_true] at hcc;split at hk
   .rename_i lu lv hlu hlv;split at hk
    .rename_i a m1 b m2 hpa hpb;obtain⟨yu,h1,h2⟩:=bN hi hu;obtain⟨yv,h3,h4⟩:=bN hi hv;obtain⟨⟨⟨U,M⟩,hc3⟩,Z⟩:=hcc;have l1:=Nn U hlu hd hpa h2;have l2:=Nn M hlv hd hpb h4;have tmp:∀ (z:Operand) (q:TV),fO e z=af q->q.isC=aj->Up z=aj->∃ t,z= .tmp t:=by
      intro z q I hq hg;cases z with
      |tmp t=>exact⟨t,rfl⟩
      |const c=>
       have I:cst c=af q:=by
        simp only[fO,ain] at I;split at I
        .cases hg
        .exact I
       have:=(Kh h I).2.2;rw[hq] at this;cases this
      |func g=>simp only[fO,ak] at I;subst I;cases hq
      |global g=>
       simp only[fO] at I;split at I
       .cases I;cases hq
       .cases I
     obtain⟨t,rfl⟩:=tmp x u hu U hc3;obtain⟨t',rfl⟩:=tmp y v hv M Z;have same:t=t'->bS T a=bS T b:=by
      intro ht;subst ht;rw[hu] at hv;cases hv;rw[hlu] at hlv;cases hlv;rw[hpa] at hpb;cases hpb;rfl
     let J:Ab:=((JA e h).set t (af (.f (.agg (bS T a))))).set t' (af (.f (.agg (bS T b))))
     have e1:mF J (.tmp t)=af (.f (.agg (bS T a))):=by
      simp only[mF,J,PT.get_set];by_cases ht:t=t'
      .rw[aE ht,same ht]
      .rw[aA ht];simp
     have e2:mF J (.tmp t')=af (.f (.agg (bS T b))):=by simp only[mF,J,PT.get_set,bG]
     have ha:eU (.eqs neg ds (.tmp t) (.tmp t')) J H 0=af ⟨raw (.bool (Lj T a b !=neg)),[],[],[],[]⟩:=by
      simp only[eU,e1,e2,Di ds T hd a b];rfl
     have ht:=Iy hc ha;rw[hH] at ht;have Y:gP P o (fV e h) (bC h) _:=ht.envLe (e2:=fV e h) λs z _ I=>by
      simp only[J,PT.get_set] at I;rw[<- vw];simp only[mF] at h1 h3;split at I
      .rename_i es;subst es;cases I;exact⟨yv,h3,l2⟩
      .split at I
       .rename_i es;subst es;cases I;exact⟨yu,h1,l1⟩
       .exact⟨z,I,Le.refl _⟩
     refine ⟨_,0,0,h,nx,hk,⟨⟨_,Y,λy hy=>?_,by simp[Ce.eff,t_],by simp[Ce.eff],by simp[Ce.eff],by simp[Ce.eff]⟩,λ_ _ h=>h,hinv,bP _,λ_=>⟨rfl,rfl⟩⟩⟩;simp only[ci,ak] at hy;exact hy
    .cases hk
   .cases hk
 .cases hk
theorem anl {con:FuncId->Option cu} {b9:TypeId->Option Ty} (hc:dj P o.op=af .mkm) (hk:dY con b9 (.op .mkm) e h nx K=af r):kS P o aj e h nx K r:=by
 have _:=hi;obtain⟨H,M⟩:=jR h;refine ⟨_,_,_,_,_,hk,jp.new hinv hc M (y0:=.mp (nm nx)) (rdl:=[]) (b0:=⟨0,.mp []⟩) rfl (dV.zero h) (λ_ _ he=>by cases he) (λY U d g b' I=>?_) (λY U y d g J=>?_) (by simp)⟩
 .cases I;exact j9.refl d _
 .simp only[ci,ak] at J;subst J;exact lM.refl d _
theorem akm {con:FuncId->Option cu} {b9:TypeId->Option Ty} {x:Operand} (hc:dj P o.op=af (.lenm x)) (hk:dY con b9 (.op (.lenm x)) e h nx K=af r):kS P o aj e h nx K r:=by
 obtain⟨H,J⟩:=jR h;simp only[dY] at hk;split at hk
 .rename_i id hv;split at hk
  .rename_i K' V es hb;obtain⟨y,h1,h2⟩:=bN hi hv;simp only[ci,ak] at h2;subst h2;split at hk
   case isFalse=>cases hk
   rename_i hO;have hg:H.get (nm id)=af ⟨0,.mp (es.map λp=>(pO K' p.1,.f (gL V p.2)))⟩:=by rw[J,bM,hb];show af (xc.mk 0 (mpC K' V es))=_;rw[BV hO]
   exact⟨_,_,_,_,_,hk,jp.pure (k:=0) hinv hc J (y0:=raw (.int .i64 es.length)) (rdl:=[nm id]) (by simp only[eU,h1,hg,bY]) (λy I=>by simp only[ci,ak] at I;subst I;exact Le.refl _) (λn hn=>by simp only[aL] at hn;subst hn;rw[em];exact bX.2 rfl) (λh=>by cases h)⟩
  .cases hk
 .cases hk
theorem anp {con:FuncId->Option cu} {b9:TypeId->Option Ty} {str ok:Bool} {z:Value} {x k:Operand} (hc:dj P o.op=af (.lku str ok z x k)) (hk:dY con b9 (.op (.lku str ok z x k)) e h nx K=af r):kS P o aj e h nx K r:=by
 obtain⟨H,Y⟩:=jR h;simp only[dY] at hk;split at hk
 .rename_i id KT kv hv U;split at hk
  .rename_i K' V es hb;split at hk
   .rename_i J;obtain⟨y,h1,h2⟩:=bN hi hv;obtain⟨y2,h3,h4⟩:=bN hi U;simp only[ci,ak] at h2 h4;subst h2;subst h4;simp only[av] at J;have hg:H.get (nm id)=af ⟨0,.mp (es.map λp=>(pO K' p.1,.f (gL V p.2)))⟩:=by rw[Y,bM,hb];show af (xc.mk 0 (mpC K' V es))=_;rw[BV J.2]
    obtain⟨_,hok,henc⟩:=Og J.1 kv kv;rw[henc] at h3;have hrd:∀ n∈[nm id],aN (kR id) (ow n)=ai:=λn hn=>by simp only[aL] at hn;subst hn;rw[em];exact bX.2 rfl
    split at hk
    .rename_i hE;split at hk
     .rename_i v M;have hzz:=(Kh h M).1;exact⟨_,_,_,_,_,hk,jp.pure (k:=0) hinv hc Y (y0:=pkV ok (raw z) aj) (rdl:=[nm id]) (by simp only[eU,h1,h3,hg,hok,bG,Uh hE,tI]) (λy I=>by rw[agv hzz] at I;cases I;exact Le.refl _) hrd (λh=>by cases h)⟩
     .cases hk
    .split at hk
     .rename_i kv' Z zv hkv M;split at hk
      .rename_i zv' hzv;obtain⟨e1,e2⟩:=jm hkv;cases e1;subst e2;obtain⟨e3,e4⟩:=jm hzv;cases e3;subst e4;have hzz:=(Kh h M).1;simp only[ci,ak] at hzz;refine ⟨_,_,_,_,_,hk,jp.pure (k:=0) hinv hc Y (y0:=pkV ok (.f (gL _ (s9 kv' es zv'))) (Oc kv' es)) (rdl:=[nm id]) ?_ (λy I=>by rw[agv (y:=.f (gL _ (s9 kv' es zv'))) rfl] at I;cases I;exact Le.refl _) hrd (λh=>by cases h)⟩;simp only[eU,h1,h3,hg,hok,bG,QH J.1];unfold s9 Oc;cases hf:s_ kv' es with
       |none=>simp only[Option.map_none];rw[hzz]
       |some v=>rfl
      .cases hk
     .cases hk
   .cases hk
  .cases hk
 .cases hk
theorem ank {con:FuncId->Option cu} {b9:TypeId->Option Ty} {str:Bool} {x k v:Operand} (hc:dj P o.op=af (.mup str x k v)) (hk:dY con b9 (.op (.mup str x k v)) e h nx K=af r):kS P o aj e h nx K r:=by
 obtain⟨H,hH⟩:=jR h;simp only[dY] at hk;split at hk
 .rename_i id KT U VT vv hv Z Y;split at hk
  .rename_i K' V es hb;split at hk
   .rename_i J;simp only[av] at J;obtain⟨y,h1,h2⟩:=bN hi hv;obtain⟨y2,h3,h4⟩:=bN hi Z;obtain⟨y3,h5,h6⟩:=bN hi Y;simp only[ci,ak] at h2 h4 h6;subst h2;subst h4;subst h6;have hg:H.get (nm id)=af ⟨0,.mp (es.map λp=>(pO K' p.1,.f (gL V p.2)))⟩:=by rw[hH,bM,hb];show af (xc.mk 0 (mpC K' V es))=_;rw[BV J.2]
    obtain⟨_,hok,henc⟩:=Og J.1.1 U U;rw[henc] at h3;have hrd:∀ n∈[nm id],aN (kR id) (ow n)=ai:=λn hn=>by simp only[aL] at hn;subst hn;rw[em];exact bX.2 rfl
    split at hk
    .rename_i hE;exact⟨_,_,_,_,_,hk,jp.wrt (k:=0) (m:=0) (v:=.undef) (rd:=kR id) hinv hc hH (y0:=raw undef) (b0:=⟨0,.mp [(pO KT U,.f (gL VT vv))]⟩) (rdl:=[nm id]) (by simp only[eU,h1,h3,h5,hg,hok,bG,Uh hE,zf]) (B:=.mp KT VT [(U,vv)]) hb (dV.zero h) (by simp) rfl (λty' l2 he=>by cases he) (λH1 H2 d g b' I=>by simp only[kE,BV (WM J.1.1),ak] at I;subst I;exact j9.refl d _) (λH1 H2 y d g M=>by simp only[ci,ak] at M;subst M;exact lM.refl d _) hrd⟩
    .split at hk
     .rename_i kv' vv' hkv hvv;obtain⟨e1,e2⟩:=jm hkv;cases e1;subst e2;obtain⟨e3,e4⟩:=jm hvv;cases e3;subst e4;exact⟨_,_,_,_,_,hk,jp.wrt (k:=0) (m:=0) (v:=.undef) (rd:=kR id) hinv hc hH (y0:=raw undef) (b0:=⟨0,.mp ((CQ kv' vv' es).map λp=>(pO _ p.1,.f (gL _ p.2)))⟩) (rdl:=[nm id]) (by simp only[eU,h1,h3,h5,hg,hok,bG,WF J.1.1]) (B:=.mp _ _ (CQ kv' vv' es)) hb (dV.zero h) (by simp) rfl (λty' l2 he=>by cases he) (λH1 H2 d g b' I=>by simp only[kE,BV (WM J.1.1),ak] at I;subst I;exact j9.refl d _) (λH1 H2 y d g M=>by simp only[ci,ak] at M;subst M;exact lM.refl d _) hrd⟩
     .cases hk
   .cases hk
  .cases hk
 .cases hk
theorem anh {con:FuncId->Option cu} {b9:TypeId->Option Ty} {x:Operand} (hc:dj P o.op=af (.rng x)) (hk:dY con b9 (.op (.rng x)) e h nx K=af r):kS P o aj e h nx K r:=by
 obtain⟨H,M⟩:=jR h;simp only[dY] at hk;split at hk
 .rename_i s hv;obtain⟨y,h1,h2⟩:=bN hi hv;simp only[ci,ak] at h2;subst h2;refine ⟨_,_,_,_,_,hk,jp.new hinv hc M (y0:=.ptr (nm nx) 0) (rdl:=[]) (b0:=⟨0,.it ⟨kJ s⟩ 0⟩) (by simp only[eU,h1];rfl) (dV.zero h) (λ_ _ he=>by cases he) (λY U d g b' I=>?_) (λY U y d g J=>?_) (by simp)⟩
  .cases I;exact j9.refl d _
  .simp only[ci,ak] at J;subst J;exact lM.refl d _
 .cases hk
theorem ani {con:FuncId->Option cu} {b9:TypeId->Option Ty} {x:Operand} (hc:dj P o.op=af (.nxt x)) (hk:dY con b9 (.op (.nxt x)) e h nx K=af r):kS P o aj e h nx K r:=by
 obtain⟨H,M⟩:=jR h;simp only[dY] at hk;split at hk
 .rename_i id hv;split at hk
  .rename_i K' V es hb;split at hk
   .rename_i s p Z;obtain⟨y,h1,h2⟩:=bN hi hv;simp only[ci,ak] at h2;subst h2;have hg:H.get (nm id)=af ⟨0,.it ⟨kJ s⟩ p⟩:=by rw[M,bM,hb];show af (xc.mk 0 (mpC K' V es))=_;rw[aie Z]
    have hrd:∀ n∈[nm id],aN (kR id) (ow n)=ai:=λn hn=>by simp only[aL] at hn;subst hn;rw[em];exact bX.2 rfl
    rcases pA hk with ⟨hp,hk⟩|⟨hp,hk⟩
    .obtain⟨hj,hk⟩:=d_ hk;have hp:=a_ hp;have e2:(⟨kJ s⟩:ByteArray).data.toList[p]? =af (List.getD s p 0):=by
      show s[p]? =_;rw[ax,aB hp];rfl
     have e3:gk (List.getD s p 0).toNat 128=ai:=by
      have hj:(aQ (List.getD s p 0).toNat:Int)<128:=bf hj;exact bE (Int.ofNat_lt.1 hj)
     exact⟨_,_,_,_,_,hk,jp.wrt (k:=0) (m:=0) (rd:=kR id) hinv hc M (y0:=.tup [raw (.bool ai),raw (.int .i64 p),raw (.int .i32 (List.getD s p 0).toNat)]) (b0:=⟨0,.it ⟨kJ s⟩ (p+1)⟩) (rdl:=[nm id]) (by simp only[eU,h1,hg,e2,e3,bG]) (B:=.mp itK .un [((s,aQ (p+1)),())]) hb (dV.zero h) (by simp) rfl (λty' l2 he=>by cases he) (λY U d g b' I=>by cases I;exact j9.refl d _) (λY U y d g J=>by cases J;exact lM.refl d _) hrd⟩
    .have hp:s.length<=p:=Nat.not_lt.1 λq=>by rw[show gk p s.length=ai from bE q] at hp;cases hp
     have e2:(⟨kJ s⟩:ByteArray).data.toList[p]? =ah:=by
      show s[p]? =_;exact bR hp
     exact⟨_,_,_,_,_,hk,jp.wrt (k:=0) (m:=0) (rd:=kR id) hinv hc M (y0:=.tup [raw (.bool aj)]) (b0:=⟨0,.it ⟨kJ s⟩ p⟩) (rdl:=[nm id]) (by simp only[eU,h1,hg,e2]) (B:=.mp itK .un [((s,aQ p),())]) hb (dV.zero h) (by simp) rfl (λty' l2 he=>by cases he) (λY U d g b' I=>by cases I;exact j9.refl d _) (λY U y d g J=>by cases J;exact lM.refl d _) hrd⟩
   .cases hk
  .cases hk
 .cases hk
theorem K_op {con:FuncId->Option cu} {b9:TypeId->Option Ty} {s:Y_} (hc:dj P o.op=af s) (hk:dY con b9 (.op s) e h nx K=af r):kS P o s.still e h nx K r:=by
 cases s with
 |mv x=>exact K_mv hinv hi hc hk
 |pick c a b=>exact akh hinv hi hc hk
 |alloc ty z=>exact aga hinv hi hc hk
 |box ty x=>exact ao1 hinv hi hc hk
 |build z parts=>exact ag9 hinv hi hc hk
 |bsl ty sz len z parts=>exact ao0 hinv hi hc hk
 |load sz ag x=>exact akk hinv hi hc hk
 |store sz x v=>exact ag6 hinv hi hc hk
 |nilc x=>exact aki hinv hi hc hk
 |bin op x y=>exact ao2 hinv hi hc hk
 |eqs neg ds x y=>exact anw hinv hi hc hk
 |eqb neg x y=>exact anx hinv hi hc hk
 |isnil neg x=>exact ag8 hinv hi hc hk
 |not x=>exact anj hinv hi hc hk
 |conv k x=>exact akp hinv hi hc hk
 |mksl ty sz bytes z l c=>exact akj hinv hi hc hk
 |slc sz x lo I mx=>exact ang hinv hi hc hk
 |fad off x=>exact anu hinv hi hc hk
 |fld off sz ag x=>exact ant hinv hi hc hk
 |iad sz x i=>exact ans hinv hi hc hk
 |idx n sz ag x i=>exact anr hinv hi hc hk
 |iada n sz x i=>exact akn hinv hi hc hk
 |ext x i=>exact anv hinv hi hc hk
 |len x=>exact anq hinv hi hc hk
 |lens x=>exact akl hinv hi hc hk
 |max x y=>exact ano hinv hi hc hk
 |min x y=>exact ann hinv hi hc hk
 |sidx x i=>exact akg hinv hi hc hk
 |app ty sz bytes s x=>exact ao3 hinv hi hc hk
 |copy sz d x=>exact ako hinv hi hc hk
 |clr sz z x=>exact anz hinv hi hc hk
 |mkf f caps=>exact anm hinv hi hc hk
 |mkm=>exact anl hinv hi hc hk
 |rng x=>exact anh hinv hi hc hk
 |nxt x=>exact ani hinv hi hc hk
 |lenm x=>exact akm hinv hi hc hk
 |lku str ok z x k=>exact anp hinv hi hc hk
 |mup str x k v=>exact ank hinv hi hc hk
 |_=>simp[dY] at hk
end ops
mutual
def AV.ren (g:Nat->Nat):AV->AV
 |.f x=>.f x
 |.ptr id off=>.ptr (g id) off
 |.sl id off n=>.sl (g id) off n
 |.row id sz n=>.row (g id) sz n
 |.mp id=>.mp (g id)
 |.emp=>.emp
 |.anyb=>.anyb
 |.agg l=>.agg (AV.renL g l)
 |.tup l=>.tup (AV.renL g l)
 |.clo q l=>.clo q (AV.renL g l)
def AV.renL (g:Nat->Nat):List AV->List AV
 |[]=>[]
 |x::r=>x.ren g::AV.renL g r
end
theorem oD (g:Nat->Nat):∀ l,AV.renL g l=l.map (AV.ren g)
 |[]=>rfl
 |x::r=>by rw[AV.renL,oD g r];rfl
theorem CA (g:Nat->Nat) (x:AV):(x.ren g).isCell=x.isCell:=by cases x<;>rfl
theorem cM.renTo {φ φ':PM} {g:Nat->Nat} {O:Nat->Prop} {w:World} (hk:∀ i k,φ i=af k->φ' (g i)=af k) {x:AV} {v:Value} (h:cM φ O w x v):cM φ' O w (x.ren g) v:=by
 induction h with
 |f h=>exact .f h
 |ptr h=>exact .ptr (hk _ _ h)
 |sl h hn hc=>exact .sl (hk _ _ h) hn hc
 |row h hn hc hsh=>exact .row (hk _ _ h) hn hc hsh
 |emp=>exact .emp
 |anyb=>exact .anyb
 |mp h=>exact .mp (hk _ _ h)
 |agg hl hcl hr M=>
  simp only[AV.ren,oD];refine .agg (by simpa using hl) (λx I=>?_) λj x v I hv=>?_
  .obtain⟨y,J,rfl⟩:=dt.1 I;rw[CA];exact hcl y J
  .rw[a8] at I;obtain⟨y,J,rfl⟩:=jS.1 I;exact M j y v J hv
 |tup hl hr M=>
  simp only[AV.ren,oD];refine .tup (by simpa using hl) λj x v I hv=>?_
  rw[a8] at I;obtain⟨y,J,rfl⟩:=jS.1 I;exact M j y v J hv
 |clo hl hr M=>
  simp only[AV.ren,oD];refine .clo (by simpa using hl) λj x v I hv=>?_
  rw[a8] at I;obtain⟨y,J,rfl⟩:=jS.1 I;exact M j y v J hv
theorem cM.renFrom {φ φ':PM} {g:Nat->Nat} {O:Nat->Prop} {w:World} {p:Nat->Bool} (hk:∀ i k,p i=ai->φ (g i)=af k->φ' i=af k) {z:AV} {v:Value} (h:cM φ O w z v):∀ x:AV,x.all p=ai->z=x.ren g->cM φ' O w x v:=by
 induction h with
 |f h=>intro x hp e;cases x<;>simp only[AV.ren,reduceCtorEq] at e;cases e;exact .f h
 |ptr h=>intro x hp e;cases x<;>simp only[AV.ren,reduceCtorEq] at e;cases e;exact .ptr (hk _ _ hp h)
 |sl h hn hc=>intro x hp e;cases x<;>simp only[AV.ren,reduceCtorEq] at e;cases e;exact .sl (hk _ _ hp h) hn hc
 |row h hn hc hsh=>intro x hp e;cases x<;>simp only[AV.ren,reduceCtorEq] at e;cases e;exact .row (hk _ _ hp h) hn hc hsh
 |emp=>intro x hp e;cases x<;>simp only[AV.ren,reduceCtorEq] at e;exact .emp
 |anyb=>intro x hp e;cases x<;>simp only[AV.ren,reduceCtorEq] at e;exact .anyb
 |mp h=>intro x hp e;cases x<;>simp only[AV.ren,reduceCtorEq] at e;cases e;exact .mp (hk _ _ hp h)
 |agg hl hcl hr J=>
  intro x hp e;cases x<;>simp only[AV.ren,reduceCtorEq] at e;rename_i l;cases e;rw[oD] at hl hcl hr J;refine .agg (by simpa using hl) (λx I=>?_) λj x v I hv=>?_
  .have:=hcl (x.ren g) (dt.2 ⟨x,I,rfl⟩);rwa [CA] at this
  .exact J j (x.ren g) v (by rw[a8,I];rfl) hv x (l_ hp x (ba I)) rfl
 |tup hl hr J=>
  intro x hp e;cases x<;>simp only[AV.ren,reduceCtorEq] at e;rename_i l;cases e;rw[oD] at hl hr J;refine .tup (by simpa using hl) λj x v I hv=>?_
  exact J j (x.ren g) v (by rw[a8,I];rfl) hv x (l_ hp x (ba I)) rfl
 |clo hl hr J=>
  intro x hp e;cases x<;>simp only[AV.ren,reduceCtorEq] at e;rename_i l;cases e;rw[oD] at hl hr J;refine .clo (by simpa using hl) λj x v I hv=>?_
  exact J j (x.ren g) v (by rw[a8,I];rfl) hv x (l_ hp x (ba I)) rfl
def BC.ren (g:Nat->Nat):BC->BC
 |.fz l=>.fz l
 |.mx l=>.mx (l.map (AV.ren g))
 |.mp es=>.mp (es.map λp=>(p.1,p.2.ren g))
 |.it s p=>.it s p
def xc.ren (g:Nat->Nat) (b:xc):xc:=⟨b.ty,b.c.ren g⟩
theorem jy.renTo {φ φ':PM} {g:Nat->Nat} {O O':Nat->Prop} {w:World} (hk:∀ x v,cM φ O w x v->cM φ' O' w (x.ren g) v) {b:xc} {o:Obj} (h:jy φ O w b o):jy φ' O' w (b.ren g) o:=by
 obtain⟨ty,c⟩:=b;unfold jy at h ⊢;simp only[xc.ren];cases c with
 |fz l=>
  simp only[BC.ren];obtain⟨arr,h1,h2,J⟩:=h;refine ⟨arr,h1,h2,λj x I=>?_⟩;obtain⟨a,v,c,d⟩:=J j x I;simp only[BC.get] at I;obtain⟨q,_,rfl⟩:=jS.1 I;exact⟨a,v,c,hk _ _ d⟩
 |mx l=>
  simp only[BC.ren];obtain⟨arr,h1,h2,J⟩:=h;refine ⟨arr,h1,by simpa[BC.len] using h2,λj x I=>?_⟩;simp only[BC.get,a8] at I;obtain⟨q,hq,rfl⟩:=jS.1 I;obtain⟨a,v,c,d⟩:=J j q hq;exact⟨by rw[CA];exact a,v,c,hk _ _ d⟩
 |mp es=>
  simp only[BC.ren];obtain⟨e,c,h1,h2,J⟩:=h;refine ⟨e,c,h1,by rw[h2,Af];rfl,λj x I=>?_⟩;rw[a8] at I;obtain⟨q,hq,rfl⟩:=jS.1 I;obtain⟨m,a,b⟩:=J j q hq;exact⟨m,a,hk _ _ b⟩
 |it s p=>exact h
theorem jy.renFrom {φ φ':PM} {g:Nat->Nat} {O O':Nat->Prop} {w:World} {p:Nat->Bool} (hk:∀ x v,x.all p=ai->cM φ O w (x.ren g) v->cM φ' O' w x v) {b:xc} (hb:b.c.all p=ai) {o:Obj} (h:jy φ O w (b.ren g) o):jy φ' O' w b o:=by
 obtain⟨ty,c⟩:=b;unfold jy at h ⊢;simp only[xc.ren] at h;cases c with
 |fz l=>
  simp only[BC.ren] at h;obtain⟨arr,h1,h2,J⟩:=h;refine ⟨arr,h1,h2,λj x I=>?_⟩;obtain⟨a,v,c,d⟩:=J j x I;simp only[BC.get] at I;obtain⟨q,_,rfl⟩:=jS.1 I;exact⟨a,v,c,hk _ _ rfl d⟩
 |mx l=>
  simp only[BC.ren] at h;obtain⟨arr,h1,h2,J⟩:=h;refine ⟨arr,h1,by simpa[BC.len] using h2,λj x I=>?_⟩;simp only[BC.get] at I;obtain⟨a,v,c,d⟩:=J j (x.ren g) (by simp only[BC.get,a8,I];rfl);rw[CA] at a;exact⟨a,v,c,hk _ _ (l_ hb x (ba I)) d⟩
 |mp es=>
  simp only[BC.ren] at h;obtain⟨e,c,h1,h2,J⟩:=h;refine ⟨e,c,h1,by rw[h2,Af];rfl,λj x I=>?_⟩;obtain⟨m,a,b⟩:=J j (x.1,x.2.ren g) (by rw[a8,I];rfl);exact⟨m,a,hk _ _ (l_ hb x.2 (dt.2 ⟨x,ba I,rfl⟩)) b⟩
 |it s p=>exact h
mutual
def CD (g:Nat->Nat):TV->TV
 |.row i=>.row (g i)
 |.rtl i j=>.rtl (g i) j
 |.agg l=>.agg (kD g l)
 |.tup l=>.tup (kD g l)
 |.clo q l=>.clo q (kD g l)
 |.f T v=>.f T v
 |.fel T xs j h off=>.fel T xs j h off
 |.pel a b c d=>.pel (g a) b c d
 |.ptr a b=>.ptr (g a) b
 |.csl a b c=>.csl (g a) b c
 |.emp=>.emp
 |.nil=>.nil
 |.mp i=>.mp (g i)
 |.undef=>.undef
 |.np=>.np
 |.anyb=>.anyb
def kD (g:Nat->Nat):List TV->List TV
 |[]=>[]
 |x::r=>CD g x::kD g r
end
theorem Ai (g:Nat->Nat):∀ l,kD g l=l.map (CD g)
 |[]=>rfl
 |x::r=>by rw[kD,Ai g r];rfl
def lQ (g:Nat->Nat):iz->iz
 |.cells ty l=>.cells ty (kD g l)
 |.rows ty p T xs=>.rows ty p T xs
 |.dead p sz n=>.dead p sz n
 |.mp K V es=>.mp K V es
theorem In (g:Nat->Nat) (b:iz):mH (lQ g b)=mH b:=by cases b<;>rfl
def HZ (g:Nat->Nat) (n:Nat):Nat:=nm (g (ow n))
theorem xJ (g:Nat->Nat) (i:Nat):HZ g (nm i)=nm (g i):=by unfold HZ;rw[em]
mutual
theorem aik {g:Nat->Nat} {h1 h2:bk} (hrow:∀ i r,eJ h1 i=af r->eJ h2 (g i)=af r):∀ (v:TV) (y:AV),ci h1 v=af y->ci h2 (CD g v)=af (y.ren (HZ g))
 |.f _ _,y,he=>by simp only[ci,ak] at he;subst he;rfl
 |.fel _ _ _ _ _,y,he=>by simp only[ci,ak] at he;subst he;rfl
 |.pel _ _ _ _,y,he=>by simp only[ci,ak] at he;subst he;simp only[CD,ci,AV.ren,xJ]
 |.ptr _ _,y,he=>by simp only[ci,ak] at he;subst he;simp only[CD,ci,AV.ren,xJ]
 |.csl _ _ _,y,he=>by simp only[ci,ak] at he;subst he;simp only[CD,ci,AV.ren,xJ]
 |.row id,y,he=>by
  simp only[ci] at he;split at he
  .rename_i p sz n hr;simp only[ak] at he;subst he;simp only[CD,ci,hrow id _ hr];unfold fA;split
   .rfl
   .simp only[AV.ren,xJ]
  .cases he
 |.rtl id jj,y,he=>by
  simp only[ci] at he;split at he
  .rename_i p sz n hr;simp only[ak] at he;subst he;simp only[CD,ci,hrow id _ hr,AV.ren,xJ]
  .cases he
 |.emp,y,he=>by simp only[ci,ak] at he;subst he;rfl
 |.nil,y,he=>by simp only[ci,ak] at he;subst he;rfl
 |.mp _,y,he=>by simp only[ci,ak] at he;subst he;simp only[CD,ci,AV.ren,xJ]
 |.agg l,y,he=>by
  simp only[ci] at he;split at he
  .rename_i l' hl;simp only[ak] at he;subst he;simp only[CD,ci,qC hrow l l' hl,AV.ren]
  .cases he
 |.tup l,y,he=>by
  simp only[ci] at he;split at he
  .rename_i l' hl;simp only[ak] at he;subst he;simp only[CD,ci,qC hrow l l' hl,AV.ren]
  .cases he
 |.clo q l,y,he=>by
  simp only[ci] at he;split at he
  .rename_i l' hl;simp only[ak] at he;subst he;simp only[CD,ci,qC hrow l l' hl,AV.ren]
  .cases he
 |.undef,y,he=>by simp only[ci,ak] at he;subst he;rfl
 |.np,y,he=>by simp only[ci,ak] at he;subst he;rfl
 |.anyb,y,he=>by simp only[ci,ak] at he;subst he;rfl
theorem qC {g:Nat->Nat} {h1 h2:bk} (hrow:∀ i r,eJ h1 i=af r->eJ h2 (g i)=af r):∀ (l:List TV) (l':List AV),cL h1 l=af l'->cL h2 (kD g l)=af (AV.renL (HZ g) l')
 |[],l',he=>by simp only[cL,ak] at he;subst he;rfl
 |x::r,l',he=>by
  obtain⟨y,l2,rfl,e1,e2⟩:=cX he;exact o8 (aik hrow x y e1) (qC hrow r l2 e2)
end
theorem Dh {g:Nat->Nat} {h1 h2:bk} (hrow:∀ i r,eJ h1 i=af r->eJ h2 (g i)=af r) {b:iz} {y:xc} (he:kE h1 b=af y):kE h2 (lQ g b)=af (y.ren (HZ g)):=by
 cases b with
 |rows ty p T xs=>
  simp only[kE] at he;split at he
  .cases he
  .rename_i hc;simp only[ak] at he;subst he;simp only[lQ,kE,aA hc];rfl
 |cells ty l=>
  simp only[kE] at he;split at he
  .rename_i I hl;simp only[ak] at he;subst he;simp only[lQ,kE,qC hrow l I hl,oD];rfl
  .cases he
 |dead p sz n=>cases he
 |mp K V es=>
  simp only[kE,ak] at he;subst he;simp only[lQ,kE,xc.ren,ak,xc.mk.injEq,Bx];unfold mpC;split
  .rfl
  .simp only[BC.ren,Af];rfl
theorem CC (g:Nat->Nat) (a b:List TV):kD g (a++b)=kD g a++kD g b:=by
 rw[Ai,Ai,Ai,cP]
theorem pQ (g:Nat->Nat):∀ (n:Nat) (T:Ty) (v:T.den) (l:List TV),cellsOf n T v=af l->kD g l=l
 |0,_,_,_,he=>by simp[cellsOf] at he
 |n+1,.st t,v,l,he=>pQ g n t v l he
 |n+1,.pr a b,v,l,he=>by
  simp only[cellsOf] at he;split at he
  .rename_i x y J I;simp only[ak] at he;subst he;rw[CC,pQ g n a v.1 x J,pQ g n b v.2 y I]
  .cases he
 |n+1,.un,v,l,he=>by simp only[cellsOf,ak] at he;subst he;rfl
 |n+1,.ex,v,l,he=>pQ g n MU (NI v) l he
 |n+1,.sm,v,l,he=>pQ g n Mu (NH v) l he
 |n+1,.int k,v,l,he=>by simp only[cellsOf,ak] at he;subst he;rfl
 |n+1,.bool,v,l,he=>by simp only[cellsOf,ak] at he;subst he;rfl
 |n+1,.str,v,l,he=>by simp only[cellsOf,ak] at he;subst he;rfl
 |n+1,.sl t,v,l,he=>by simp only[cellsOf,ak] at he;subst he;rfl
abbrev HU:Nat->Nat:=λi=>i
mutual
theorem Z7 (g:Nat->Nat):∀ (p:PV) (x:p.ty.den),pW g p x=(pW HU p x).map (kD g)
 |.d T,x=>by
  simp only[pW];cases h:cellsOf 40 T x with
  |none=>rfl
  |some l=>simp only[b_,pQ g 40 T x l h]
 |.ptr i o,x=>rfl
 |.csl i o z,x=>rfl
 |.clo q i o,x=>rfl
 |.row i,x=>rfl
 |.mp i,x=>rfl
 |.nil,x=>rfl
 |.emp,x=>rfl
 |.agg ps,x=>Aj g ps x
theorem Aj (g:Nat->Nat):∀ (ps:List PV) (x:(PV.tyL ps).den),qU g ps x=(qU HU ps x).map (kD g)
 |[],x=>rfl
 |p::r,x=>by
  simp only[qU];rw[Z7 g p,Aj g r];cases pW HU p (OO p.ty (PV.tyL r) x) with
  |none=>rfl
  |some a=>
   cases qU HU r (Lm p.ty (PV.tyL r) x) with
   |none=>rfl
   |some b=>simp only[b_,CC]
end
def aj0 (o:Option (List TV)):Option TV:=match o with|some l=>af (.agg l)|none=>ah
theorem ac3 (g:Nat->Nat) (o:Option (List TV)):aj0 (o.map (kD g))=(aj0 o).map (CD g):=by cases o<;>rfl
theorem Z5 (g:Nat->Nat) (p:PV) (x:p.ty.den):tF g p x=(tF HU p x).map (CD g):=by
 cases p with
 |agg ps=>exact (gx aj0 (Aj g ps x)).trans (ac3 g _)
 |_=>rfl
theorem tU (g:Nat->Nat):∀ (ps:List PV) (x:(PV.tyL ps).den),qb g ps x=(qb HU ps x).map (kD g)
 |[],x=>rfl
 |p::r,x=>by
  simp only[qb];rw[Z5 g p,tU g r];cases tF HU p (OO p.ty (PV.tyL r) x) with
  |none=>rfl
  |some a=>
   cases qb HU r (Lm p.ty (PV.tyL r) x) with
   |none=>rfl
   |some b=>rfl
def VK (ty:TypeId) (o:Option (List TV)):Option (Option iz):=match o with|some l=>af (af (.cells ty l))|none=>ah
theorem VH (g:Nat->Nat) (ty:TypeId) (o:Option (List TV)):VK ty (o.map (kD g))=(VK ty o).map (lO (lQ g)):=by cases o<;>rfl
theorem Z8 (g:Nat->Nat) (b:PB) (x:b.ty.den):CI g b x=(CI HU b x).map (lO (lQ g)):=by
 cases b with
 |cells ty ps=>exact (gx (VK ty) (Aj g ps x)).trans (VH g ty _)
 |_=>rfl
theorem wn (g:Nat->Nat):∀ (bs:List PB) (x:(PB.tyL bs).den),oE g bs x=(oE HU bs x).map (List.map (lO (lQ g)))
 |[],x=>rfl
 |b::r,x=>by
  simp only[oE];rw[Z8 g b,wn g r];cases CI HU b (OO b.ty (PB.tyL r) x) with
  |none=>rfl
  |some a=>
   cases oE HU r (Lm b.ty (PB.tyL r) x) with
   |none=>rfl
   |some l=>rfl
theorem CH (g:Nat->Nat):∀ (bs:List PB) (x:(PB.tyL bs).den) (l:List (Option iz)),oE g bs x=af l->l.length=bs.length
 |[],x,l,h=>by simp only[oE,ak] at h;subst h;rfl
 |b::r,x,l,h=>by
  simp only[oE] at h;split at h
  .split at h
   .rename_i q hq;simp only[ak] at h;subst h;simp[CH g r _ q hq]
   .cases h
  .cases h
theorem Jo (h:bk) (i j:Nat):(kill h i).get j=if j=i then (h.get i).map vk else h.get j:=by
 unfold kill;cases hb:h.get i with
 |none=>
  simp only[Option.map_none];split
  .rename_i e;rw[e,hb]
  .rfl
 |some b=>rw[PT.get_set];rfl
theorem vi (g:Nat->Nat):∀ (l:List (Option iz)) (i:Nat) (h:bk) (j:Nat),(∀ k,k<l.length->j≠g (i+k))->(AE g i l h).get j=h.get j
 |[],i,h,j,_=>rfl
 |some c::r,i,h,j,hj=>by
  rw[AE,vi g r (i+1) _ j (λk hk=>by have:=hj (k+1) (by simpa using hk);rwa [show i+1+k=i+(k+1) from by omega]),PT.get_set,aA];exact hj 0 (by simp)
 |none::r,i,h,j,hj=>by
  rw[AE,vi g r (i+1) _ j (λk hk=>by have:=hj (k+1) (by simpa using hk);rwa [show i+1+k=i+(k+1) from by omega]),Jo,aA];exact hj 0 (by simp)
theorem vj (g:Nat->Nat):∀ (l:List (Option iz)) (i:Nat) (h:bk),(∀ a b,a<l.length->b<l.length->g (i+a)=g (i+b)->a=b)->∀ (k:Nat) (c:Option iz),l[k]? =af c->(AE g i l h).get (g (i+k))=(match c with|some b=>af b|none=>(h.get (g (i+k))).map vk)
 |[],i,h,_,k,c,hk=>by simp at hk
 |o::r,i,h,hinj,k,c,hk=>by
  have hinj':∀ a b,a<r.length->b<r.length->g (i+1+a)=g (i+1+b)->a=b:=λa b J hb e=>by
   have:=hinj (a+1) (b+1) (by simpa using J) (by simpa using hb) (by rw[show i+(a+1)=i+1+a from by omega,show i+(b+1)=i+1+b from by omega];exact e);omega
  cases k with
  |zero=>
   simp at hk;subst hk;have hne:∀ k,k<r.length->g (i+0)≠g (i+1+k):=λk hk e=>by
    have:=hinj 0 (k+1) (by simp) (by simpa using hk) (by rw[show i+(k+1)=i+1+k from by omega];exact e);omega
   cases o with
   |some b=>rw[AE,vi g r (i+1) _ _ hne];simp only[dl];rw[PT.get_set,aE rfl]
   |none=>rw[AE,vi g r (i+1) _ _ hne];simp only[dl];rw[Jo,aE rfl]
  |succ k=>
   have I:r[k]? =af c:=by simpa using hk
   have hkl:k<r.length:=(bg.1 I).1;have hne:g (i+(k+1))≠g i:=λe=>by
    have:=hinj (k+1) 0 (by simpa using hkl) (by simp) (by rw[e];rfl);omega
   rw[show i+(k+1)=i+1+k from by omega] at hne ⊢;cases o with
   |some b=>
    rw[AE,vj g r (i+1) _ hinj' k c I];cases c with
    |some _=>rfl
    |none=>simp only[PT.get_set,aA hne]
   |none=>
    rw[AE,vj g r (i+1) _ hinj' k c I];cases c with
    |some _=>rfl
    |none=>simp only[Jo,aA hne]
def xY (h' h:bk):Prop:=∀ i r,eJ h' i=af r->eJ h i=af r
section get
variable {h h':bk} {H H':HF} {g:Nat->Nat}
theorem lM.agg {l I:List AV} (hl:il H H' l I) (hc:∀ x∈I,x.isCell=ai):lM H H' (.agg l) (.agg I):=by
 intro φ E w v hrep hr;cases hr with
 |@agg _ vs hlen hcl hrr=>
  refine .agg (by rw[hlen,<-hl.length]) hc λj y u J hu=>?_
  obtain⟨x,M,hle⟩:=hl.get j y J;exact hle φ E w u hrep (hrr j x u M hu)
theorem Qj (hr:xY h' h) {i:Nat} {y M:AV} (J:ci h (.row i)=af y) (I:ci h' (.row i)=af M):M=y:=by
 simp only[ci] at J I;cases h1:eJ h' i with
 |none=>rw[h1] at I;cases I
 |some r=>
  rw[h1] at I;rw[hr i r h1] at J;rw[J] at I;cases I;rfl
mutual
theorem aeq (d:vF H H') (hr:xY h' h):∀ (p:PV) (l:List TV) (x:p.ty.den) (m:Nat) (r:List TV) (cs:List TV) (l' cs':List AV),px g h p l=af (x,m,r)->pW g p x=af cs->cL h l=af l'->cL h' cs=af cs'->Eb h H H' m->∃ l1 l2,l'=l1++l2/\cL h r=af l2/\il H H' l1 cs'
 |.d T,l,x,m,r,cs,l',cs',hg,hp,hl,hc,gv=>by
  obtain⟨l1,l2,e1,e2,e3⟩:=sh d 40 T l x m r l' hg hl gv;have:=(lJ h' 40 T x cs hp).1;rw[hc] at this;cases this;exact⟨l1,l2,e1,e2,e3⟩
 |.ptr i q,l,x,m,r,cs,l',cs',hg,hp,hl,hc,gv=>by
  simp only[px] at hg;split at hg
  .rename_i i' o' r';split at hg
   .rename_i hb;simp only[av] at hb;have e1:=aw hb.1;have e2:=aw hb.2;subst e1;subst e2;simp only[ak,aD] at hg;obtain⟨_,_,rfl⟩:=hg;simp only[pW,ak] at hp;subst hp;obtain⟨y,l2,rfl,g1,g2⟩:=cX hl;simp only[ci,ak] at g1;subst g1;simp only[cL,ci,ak] at hc;subst hc;exact⟨[_],l2,rfl,g2,lM.refl d _,trivial⟩
   .cases hg
  .cases hg
 |.csl i q z,l,x,m,r,cs,l',cs',hg,hp,hl,hc,gv=>by
  simp only[px] at hg;split at hg
  .rename_i i' o' z' r';split at hg
   .rename_i hb;simp only[av] at hb;have e1:=aw hb.1.1;have e2:=aw hb.1.2;have e3:=aw hb.2;subst e1;subst e2;subst e3;simp only[ak,aD] at hg;obtain⟨_,_,rfl⟩:=hg;simp only[pW,ak] at hp;subst hp;obtain⟨y,l2,rfl,g1,g2⟩:=cX hl;simp only[ci,ak] at g1;subst g1;simp only[cL,ci,ak] at hc;subst hc;exact⟨[_],l2,rfl,g2,lM.refl d _,trivial⟩
   .cases hg
  .cases hg
 |.clo q i z,l,x,m,r,cs,l',cs',hg,hp,hl,hc,gv=>by
  simp only[px] at hg;split at hg
  .rename_i q' i' z' r';split at hg
   .rename_i hb;simp only[av] at hb;have e1:=aw hb.1.1;have e2:=aw hb.1.2;have e3:=aw hb.2;subst e1;subst e2;subst e3;simp only[ak,aD] at hg;obtain⟨_,_,rfl⟩:=hg;simp only[pW,ak] at hp;subst hp;obtain⟨y,l2,rfl,g1,g2⟩:=cX hl;simp only[ci,cL,ak] at g1;subst g1;simp only[cL,ci,ak] at hc;subst hc;exact⟨[_],l2,rfl,g2,lM.refl d _,trivial⟩
   .cases hg
  .cases hg
 |.row i,l,x,m,r,cs,l',cs',hg,hp,hl,hc,gv=>by
  simp only[px] at hg;split at hg
  .rename_i i' r';split at hg
   .rename_i hb;have e1:=aw hb;subst e1;simp only[ak,aD] at hg;obtain⟨_,_,rfl⟩:=hg;simp only[pW,ak] at hp;subst hp;obtain⟨y,l2,rfl,g1,g2⟩:=cX hl;obtain⟨y',l3,rfl,g3,g4⟩:=cX hc;simp only[cL,ak] at g4;subst g4;rw[Qj hr g1 g3];exact⟨[_],l2,rfl,g2,lM.refl d _,trivial⟩
   .cases hg
  .cases hg
 |.mp i,l,x,m,r,cs,l',cs',hg,hp,hl,hc,gv=>by
  simp only[px] at hg;split at hg
  .rename_i i' r';split at hg
   .rename_i hb;have e1:=aw hb;subst e1;simp only[ak,aD] at hg;obtain⟨_,_,rfl⟩:=hg;simp only[pW,ak] at hp;subst hp;obtain⟨y,l2,rfl,g1,g2⟩:=cX hl;simp only[ci,ak] at g1;subst g1;simp only[cL,ci,ak] at hc;subst hc;exact⟨[_],l2,rfl,g2,lM.refl d _,trivial⟩
   .cases hg
  .cases hg
 |.nil,l,x,m,r,cs,l',cs',hg,hp,hl,hc,gv=>by
  simp only[px] at hg;split at hg
  .simp only[ak,aD] at hg;obtain⟨_,_,rfl⟩:=hg;simp only[pW,ak] at hp;subst hp;obtain⟨y,l2,rfl,g1,g2⟩:=cX hl;simp only[ci,ak] at g1;subst g1;simp only[cL,ci,ak] at hc;subst hc;exact⟨[_],l2,rfl,g2,lM.refl d _,trivial⟩
  .cases hg
 |.emp,l,x,m,r,cs,l',cs',hg,hp,hl,hc,gv=>by
  simp only[px] at hg;split at hg
  .simp only[ak,aD] at hg;obtain⟨_,_,rfl⟩:=hg;simp only[pW,ak] at hp;subst hp;obtain⟨y,l2,rfl,g1,g2⟩:=cX hl;simp only[ci,ak] at g1;subst g1;simp only[cL,ci,ak] at hc;subst hc;exact⟨[_],l2,rfl,g2,Le.nilEmp.toH d,trivial⟩
  .simp only[ak,aD] at hg;obtain⟨_,_,rfl⟩:=hg;simp only[pW,ak] at hp;subst hp;obtain⟨y,l2,rfl,g1,g2⟩:=cX hl;simp only[ci,ak] at g1;subst g1;simp only[cL,ci,ak] at hc;subst hc;exact⟨[_],l2,rfl,g2,lM.refl d _,trivial⟩
  .cases hg
 |.agg ps,l,x,m,r,cs,l',cs',hg,hp,hl,hc,gv=>De d hr ps l x m r cs l' cs' hg hp hl hc gv
theorem De (d:vF H H') (hr:xY h' h):∀ (ps:List PV) (l:List TV) (x:(PV.tyL ps).den) (m:Nat) (r:List TV) (cs:List TV) (l' cs':List AV),zw g h ps l=af (x,m,r)->qU g ps x=af cs->cL h l=af l'->cL h' cs=af cs'->Eb h H H' m->∃ l1 l2,l'=l1++l2/\cL h r=af l2/\il H H' l1 cs'
 |[],l,x,m,r,cs,l',cs',hg,hp,hl,hc,gv=>by
  simp only[zw,ak,aD] at hg;obtain⟨_,_,rfl⟩:=hg;simp only[qU,ak] at hp;subst hp;simp only[cL,ak] at hc;subst hc;exact⟨[],l',rfl,hl,trivial⟩
 |p::ps,l,x,m,r,cs,l',cs',hg,hp,hl,hc,gv=>by
  simp only[zw] at hg;split at hg
  .rename_i x1 m1 r1 h1;split at hg
   .rename_i x2 m2 r2 h2;simp only[ak,aD] at hg;obtain⟨rfl,rfl,rfl⟩:=hg;simp only[qU,tN,vb] at hp;split at hp
    .rename_i a ha;split at hp
     .rename_i b hb;simp only[ak] at hp;subst hp;obtain⟨a',b',rfl,ea,eb⟩:=B6 hc;obtain⟨ga,gb⟩:=gv.or;obtain⟨l1,l2,rfl,q1,q2⟩:=aeq d hr p l _ _ _ a l' a' h1 ha hl ea ga;obtain⟨l3,l4,rfl,q3,q4⟩:=De d hr ps _ _ _ _ b l2 b' h2 hb q1 eb gb;exact⟨l1++l3,l4,by simp,q3,q2.append q4⟩
     .cases hp
    .cases hp
   .cases hg
  .cases hg
end
mutual
theorem XV:∀ (p:PV) (x:p.ty.den) (cs:List TV),pW g p x=af cs->kA cs=ai
 |.d T,x,cs,hp=>(lJ PT.leaf 40 T x cs hp).2
 |.ptr i q,x,cs,hp=>by simp only[pW,ak] at hp;subst hp;rfl
 |.csl i q z,x,cs,hp=>by simp only[pW,ak] at hp;subst hp;rfl
 |.clo q i z,x,cs,hp=>by simp only[pW,ak] at hp;subst hp;rfl
 |.row i,x,cs,hp=>by simp only[pW,ak] at hp;subst hp;rfl
 |.mp i,x,cs,hp=>by simp only[pW,ak] at hp;subst hp;rfl
 |.nil,x,cs,hp=>by simp only[pW,ak] at hp;subst hp;rfl
 |.emp,x,cs,hp=>by simp only[pW,ak] at hp;subst hp;rfl
 |.agg ps,x,cs,hp=>xp ps x cs hp
theorem xp:∀ (ps:List PV) (x:(PV.tyL ps).den) (cs:List TV),qU g ps x=af cs->kA cs=ai
 |[],x,cs,hp=>by simp only[qU,ak] at hp;subst hp;rfl
 |p::ps,x,cs,hp=>by
  simp only[qU] at hp;split at hp
  .rename_i a ha;split at hp
   .rename_i b hb;simp only[ak] at hp;subst hp;exact SM (XV p _ a ha) (xp ps _ b hb)
   .cases hp
  .cases hp
end
theorem aep (d:vF H H') (hr:xY h' h) {p:PV} {v:TV} {x:p.ty.den} {m:Nat} {u:TV} {y M:AV} (hg:xH g h p v=af (x,m)) (hp:tF g p x=af u) (J:ci h v=af y) (I:ci h' u=af M) (Z:Eb h H H' m):lM H H' y M:=by
 cases p with
 |d T=>
  simp only[tF,ak] at hp;subst hp;simp only[ci,ak] at I;subst I;exact (Pv d hg J Z).1
 |agg ps=>
  simp only[xH] at hg;split at hg
  .cases hg
  .rename_i hc;split at hg
   .rename_i l hl;split at hg
    .rename_i x1 m1 h1;simp only[ak,aD] at hg;obtain⟨rfl,rfl⟩:=hg;simp only[tF] at hp;split at hp
     .rename_i cs hcs;simp only[ak] at hp;subst hp;simp only[ci] at I;split at I
      .rename_i cs' hcs';simp only[ak] at I;subst I;obtain⟨e1,e2⟩:=Kj hl J;obtain⟨l1,l2,Y,U,q3⟩:=De d hr ps l _ _ [] cs y.cs cs' h1 hcs e1 hcs' Z;simp only[cL,ak] at U;subst U;rw[hY] at Y;subst Y;have hcell:∀ x∈cs',x.isCell=ai:=lK (r_ hcs' (xp ps _ cs hcs));cases v with
       |agg q=>
        simp only[ci] at J;split at J
        .simp only[ak] at J;subst J;exact lM.agg q3 hcell
        .cases J
       |f S z=>
        simp only[ci,ak] at J;subst J;have ho:S.one=aj:=by simpa[TV.isC] using hc
        rw[Au] at q3;rw[qD S z ho];intro φ E w v hrep hrel;exact lM.agg q3 hcell φ E w v hrep (Le.aggF _ _ _ _ hrel)
       |tup q=>simp[TV.cs,TV.isC] at hl
       |undef=>simp[TV.cs,TV.isC] at hl
       |np=>simp[TV.isC] at hc
       |anyb=>simp[TV.cs,TV.isC] at hl
       |fel T xs j hj off=>simp[TV.isC] at hc
       |pel id sz j off=>simp[TV.isC] at hc
       |ptr id off=>simp[TV.isC] at hc
       |csl id off z=>simp[TV.isC] at hc
       |row id=>simp[TV.isC] at hc
       |emp=>simp[TV.isC] at hc
       |nil=>simp[TV.isC] at hc
       |mp id=>simp[TV.isC] at hc
       |rtl id jj=>cases hl
       |clo g l=>simp[TV.isC] at hc
      .cases I
     .cases hp
    .cases hg
   .cases hg
 |ptr i q=>
  simp only[tF,ak] at hp;subst hp;simp only[xH] at hg;split at hg
  .rename_i h1;simp only[px] at h1;split at h1
   .rename_i e;simp only[iY] at e;obtain⟨rfl,_⟩:=e;split at h1
    .rename_i hb;simp only[av] at hb;have e1:=aw hb.1;have e2:=aw hb.2;subst e1;subst e2;simp only[ci,ak] at J I;subst J;subst I;exact lM.refl d _
    .cases h1
   .cases h1
  .cases hg
 |csl i q z=>
  simp only[tF,ak] at hp;subst hp;simp only[xH] at hg;split at hg
  .rename_i h1;simp only[px] at h1;split at h1
   .rename_i e;simp only[iY] at e;obtain⟨rfl,_⟩:=e;split at h1
    .rename_i hb;simp only[av] at hb;have e1:=aw hb.1.1;have e2:=aw hb.1.2;have e3:=aw hb.2;subst e1;subst e2;subst e3;simp only[ci,ak] at J I;subst J;subst I;exact lM.refl d _
    .cases h1
   .cases h1
  .cases hg
 |clo q i z=>
  simp only[tF,ak] at hp;subst hp;simp only[xH] at hg;split at hg
  .rename_i h1;simp only[px] at h1;split at h1
   .rename_i e;simp only[iY] at e;obtain⟨rfl,_⟩:=e;split at h1
    .rename_i hb;simp only[av] at hb;have e1:=aw hb.1.1;have e2:=aw hb.1.2;have e3:=aw hb.2;subst e1;subst e2;subst e3;simp only[ci,cL,ak] at J I;subst J;subst I;exact lM.refl d _
    .cases h1
   .cases h1
  .cases hg
 |row i=>
  simp only[tF,ak] at hp;subst hp;simp only[xH] at hg;split at hg
  .rename_i h1;simp only[px] at h1;split at h1
   .rename_i e;simp only[iY] at e;obtain⟨rfl,_⟩:=e;split at h1
    .rename_i hb;have e1:=aw hb;subst e1;rw[Qj hr J I];exact lM.refl d _
    .cases h1
   .cases h1
  .cases hg
 |mp i=>
  simp only[tF,ak] at hp;subst hp;simp only[xH] at hg;split at hg
  .rename_i h1;simp only[px] at h1;split at h1
   .rename_i e;simp only[iY] at e;obtain⟨rfl,_⟩:=e;split at h1
    .rename_i hb;have e1:=aw hb;subst e1;simp only[ci,ak] at J I;subst J;subst I;exact lM.refl d _
    .cases h1
   .cases h1
  .cases hg
 |nil=>
  simp only[tF,ak] at hp;subst hp;simp only[xH] at hg;split at hg
  .rename_i h1;simp only[px] at h1;split at h1
   .rename_i e;simp only[iY] at e;obtain⟨rfl,_⟩:=e;simp only[ci,ak] at J I;subst J;subst I;exact lM.refl d _
   .cases h1
  .cases hg
 |emp=>
  simp only[tF,ak] at hp;subst hp;simp only[xH] at hg;split at hg
  .rename_i h1;simp only[px] at h1;split at h1
   .rename_i e;simp only[iY] at e;obtain⟨rfl,_⟩:=e;simp only[ci,ak] at J I;subst J;subst I;exact Le.nilEmp.toH d
   .rename_i e;simp only[iY] at e;obtain⟨rfl,_⟩:=e;simp only[ci,ak] at J I;subst J;subst I;exact lM.refl d _
   .cases h1
  .cases hg
theorem Dc (d:vF H H') (hr:xY h' h):∀ (ps:List PV) (vs:List TV) (x:(PV.tyL ps).den) (m:Nat) (us:List TV) (l J:List AV),yk g h ps vs=af (x,m)->qb g ps x=af us->cL h vs=af l->cL h' us=af J->Eb h H H' m->il H H' l J
 |[],[],x,m,us,l,J,hg,hp,hl,I,M=>by
  simp only[qb,ak] at hp;subst hp;simp only[cL,ak] at hl I;subst hl;subst I;trivial
 |[],_::_,x,m,us,l,J,hg,_,_,_,_=>by simp[yk] at hg
 |_::_,[],x,m,us,l,J,hg,_,_,_,_=>by simp[yk] at hg
 |p::ps,v::vs,x,m,us,l,J,hg,hp,hl,I,M=>by
  simp only[yk] at hg;split at hg
  .rename_i x1 m1 h1;split at hg
   .rename_i x2 m2 h2;simp only[ak,aD] at hg;obtain⟨rfl,rfl⟩:=hg;simp only[qb,tN,vb] at hp;split at hp
    .rename_i a Y;split at hp
     .rename_i b hb;simp only[ak] at hp;subst hp;obtain⟨y,l2,rfl,e1,e2⟩:=cX hl;obtain⟨y',U,rfl,e3,e4⟩:=cX I;obtain⟨ga,Z⟩:=M.or;exact⟨aep d hr h1 Y e1 e3 ga,Dc d hr ps vs _ _ b l2 U h2 hb e2 e4 Z⟩
     .cases hp
    .cases hp
   .cases hg
  .cases hg
inductive BM (g:Nat->Nat) (h:bk) (m:Nat):iz->iz->Prop
 |rows (ty:TypeId) (p:Bool) (T:Ty) (xs:List T.den):BM g h m (.rows ty p T xs) (.rows ty p T xs)
 |mp (K V:Ty) (es:List (K.den×V.den)):BM g h m (.mp K V es) (.mp K V es)
 |cells (ty:TypeId) (ps:List PV) (x:(PV.tyL ps).den) (l l2:List TV) (m':Nat) (hg:zw g h ps l=af (x,m',[])) (hp:qU g ps x=af l2) (hm:∀ i,aN m' i=ai->aN m i=ai):BM g h m (.cells ty l) (.cells ty l2)
theorem BM.mono {m m2:Nat} (hm:∀ i,aN m i=ai->aN m2 i=ai) {b c:iz} (h1:BM g h m b c):BM g h m2 b c:=by
 cases h1 with
 |rows ty p T xs=>exact .rows ty p T xs
 |mp K V es=>exact .mp K V es
 |cells ty ps x l l2 m' hg hp I=>exact .cells ty ps x l l2 m' hg hp λi hi=>hm i (I i hi)
theorem aer {i:Nat} {b:PB} {x:b.ty.den} {m:Nat} {c:iz} (hg:E4 g h i b=af (x,m)) (hp:CI g b x=af (af c)):∃ b0,h.get (g i)=af b0/\BM g h m b0 c:=by
 cases b with
 |rows ty p T=>
  simp only[E4] at hg;split at hg
  .rename_i ty' M S xs hb;split at hg
   .rename_i hc;simp only[av,cU] at hc;obtain⟨rfl,rfl⟩:=hc;split at hg
    .rename_i z I;simp only[ak,aD] at hg;obtain⟨rfl,rfl⟩:=hg;obtain⟨e,rfl⟩:=jm I;cases e;simp only[CI,ak] at hp;subst hp;exact⟨_,hb,.rows _ _ _ _⟩
    .cases hg
   .cases hg
  .cases hg
 |rowsP ty T=>
  simp only[E4] at hg;split at hg
  .rename_i ty' M S xs hb;split at hg
   .rename_i hc;have hc:ty=ty':=by simpa using hc
    subst hc;split at hg
    .rename_i z I;simp only[ak,aD] at hg;obtain⟨rfl,rfl⟩:=hg;obtain⟨e,rfl⟩:=jm I;cases e;simp only[CI,ak] at hp;subst hp;exact⟨_,hb,.rows _ _ _ _⟩
    .cases hg
   .cases hg
  .cases hg
 |cells ty ps=>
  simp only[E4] at hg;split at hg
  .rename_i ty' l hb;split at hg
   .rename_i hc;have hc:ty=ty':=by simpa using hc
    subst hc;split at hg
    .rename_i z m1 I;simp only[ak,aD] at hg;obtain⟨rfl,rfl⟩:=hg;simp only[CI] at hp;split at hp
     .rename_i l2 J;simp only[ak] at hp;subst hp;exact⟨_,hb,.cells ty ps _ l l2 _ I J λ_ h=>h⟩
     .cases hp
    .cases hg
   .cases hg
  .cases hg
 |mp K V=>
  simp only[E4] at hg;split at hg
  .rename_i K' V' es hb;split at hg
   .rename_i z I;simp only[ak,aD] at hg;obtain⟨rfl,rfl⟩:=hg;obtain⟨e,rfl⟩:=jm I;cases e;simp only[CI,ak] at hp;subst hp;exact⟨_,hb,.mp _ _ _⟩
   .cases hg
  .cases hg
 |gone=>simp[CI] at hp
theorem Jp:∀ (bs:List PB) (i:Nat) (x:(PB.tyL bs).den) (m:Nat) (I:List (Option iz)),AY g h i bs=af (x,m)->oE g bs x=af I->∀ (k:Nat) c,I[k]? =af (af c)->∃ b0,h.get (g (i+k))=af b0/\BM g h m b0 c
 |[],i,x,m,I,hg,hp,k,c,hk=>by
  simp only[oE,ak] at hp;subst hp;simp at hk
 |b::r,i,x,m,I,hg,hp,k,c,hk=>by
  simp only[AY] at hg;split at hg
  .rename_i U m1 h1;split at hg
   .rename_i M m2 h2;simp only[ak,aD] at hg;obtain⟨rfl,rfl⟩:=hg;simp only[oE,tN,vb] at hp;split at hp
    .rename_i a J;split at hp
     .rename_i q hq;simp only[ak] at hp;subst hp;cases k with
      |zero=>
       simp at hk;subst hk;obtain⟨b0,e1,e2⟩:=aer h1 J;exact⟨b0,e1,e2.mono λi hi=>by rw[bu,hi];rfl⟩
      |succ k=>
       obtain⟨b0,e1,e2⟩:=Jp r (i+1) _ _ q h2 hq k c (by simpa using hk);rw[show i+1+k=i+(k+1) from by omega] at e1;exact⟨b0,e1,e2.mono λi hi=>by rw[bu,hi];simp⟩
     .cases hp
    .cases hp
   .cases hg
  .cases hg
end get
theorem Rj {σ:PT Nat} {i a:Nat} (h:σ.get i=af a):ij σ i=a:=by unfold ij;rw[h]
theorem Wh {σ:PT Nat}:∀ (n i acc sm:Nat),ZV σ n i acc=af sm->
 (∀ k,k<n->aN acc (ij σ (i+k))=aj)/\(∀ a b,a<n->b<n->ij σ (i+a)=ij σ (i+b)->a=b)/\∀ q,aN sm q=ai↔aN acc q=ai\/∃ k,k<n/\ij σ (i+k)=q
 |0,i,acc,sm,h=>by
  simp only[ZV,ak] at h;subst h;exact⟨λk hk=>by omega,λa b J=>by omega,λq=>⟨.inl,λhq=>hq.elim id λ⟨k,hk,_⟩=>by omega⟩⟩
 |n+1,i,acc,sm,h=>by
  simp only[ZV] at h;split at h
  .rename_i a J;split at h
   .cases h
   .rename_i hna;have hna:aN acc a=aj:=by simpa using hna
    have hga:=Rj J;obtain⟨h1,h2,M⟩:=Wh n (i+1) (acc|||kR a) sm h;have hne:∀ k,k<n->ij σ (i+1+k)≠a/\aN acc (ij σ (i+1+k))=aj:=λk hk=>by
     have:=h1 k hk;rw[bu,Bool.or_eq_false_iff] at this;refine ⟨λe=>?_,this.1⟩;have I:=this.2;rw[e] at I;rw[bX.2 rfl] at I;cases I
    refine ⟨λk hk=>?_,λx y Y U hxy=>?_,λq=>?_⟩
    .cases k with
     |zero=>rw[dl,hga];exact hna
     |succ k=>rw[show i+(k+1)=i+1+k from by omega];exact (hne k (by omega)).2
    .cases x with
     |zero=>
      cases y with
      |zero=>rfl
      |succ y=>
       rw[dl,hga,show i+(y+1)=i+1+y from by omega] at hxy;exact cV hxy.symm (hne y (by omega)).1
     |succ x=>
      cases y with
      |zero=>
       rw[show i+0=i from rfl,hga,show i+(x+1)=i+1+x from by omega] at hxy;exact cV hxy (hne x (by omega)).1
      |succ y=>
       rw[show i+(x+1)=i+1+x from by omega,show i+(y+1)=i+1+y from by omega] at hxy;have:=h2 x y (by omega) (by omega) hxy;omega
    .rw[M,bu,iZ];constructor
     .rintro ((hq|hq)|⟨k,hk,hq⟩)
      .exact .inl hq
      .exact .inr ⟨0,by omega,by rw[dl,hga];exact bX.1 hq⟩
      .exact .inr ⟨k+1,by omega,by rw[show i+(k+1)=i+1+k from by omega];exact hq⟩
     .rintro (hq|⟨k,hk,hq⟩)
      .exact .inl (.inl hq)
      .cases k with
       |zero=>rw[dl,hga] at hq;exact .inl (.inr (bX.2 hq))
       |succ k=>exact .inr ⟨k,by omega,by rw[show i+1+k=i+(k+1) from by omega];exact hq⟩
  .cases h
theorem Rq {σ:PT Nat}:∀ (n:Nat),W3 σ n=ai->∀ i,i<n->ij σ i=i
 |0,_,i,hi=>by omega
 |n+1,h,i,hi=>by
  simp only[W3,av] at h;by_cases e:i=n
  .subst e;cases I:σ.get i with
   |none=>rw[I] at h;exact cV h.1 (by simp)
   |some a=>rw[I] at h;rw[Rj I];exact aw h.1
  .exact Rq n h.2 i (by omega)
structure H8 (np:Nat) (t:Tm) (vs:List TV) (h:bk) (z:t.ty.den) (m:Nat) (σ:PT Nat) (sm:Nat):Prop where
 ex:∃ x m1 y m2,z=Ui _ _ x y/\m=m1|||m2/\yk (ij σ) h t.vs vs=af (x,m1)/\AY (ij σ) h 0 t.bs=af (y,m2)
 inj:∀ a b,a<t.bs.length->b<t.bs.length->ij σ a=ij σ b->a=b
 sig:∀ q,aN sm q=ai↔∃ k,k<t.bs.length/\ij σ k=q
 disj:∀ i,aN m i=ai->aN sm i=aj
 fix:∀ i,i<np->ij σ i=i
theorem wB {np:Nat} {t:Tm} {vs:List TV} {h:bk} {z:t.ty.den} {m:Nat} {σ:PT Nat} {sm:Nat} (hm:EA np t vs h=af ⟨z,m,σ,sm⟩):H8 np t vs h z m σ sm:=by
 unfold EA at hm;rw[OP] at hm;split at hm
 .rename_i sm' hs;split at hm
  .rename_i x m1 h1;split at hm
   .rename_i y m2 h2;split at hm
    .rename_i hc;simp only[av] at hc;simp only[ak,aho.mk.injEq] at hm;obtain⟨rfl,rfl,rfl,rfl⟩:=hm;obtain⟨M,J,I⟩:=Wh _ _ _ _ hs;simp only[bO] at M J I;exact⟨⟨x,m1,y,m2,rfl,rfl,h1,h2⟩,J,λq=>by rw[I];simp,λi hi=>xT hc.1 i hi,Rq np hc.2⟩
    .cases hm
   .cases hm
  .cases hm
 .cases hm
mutual
theorem zA {g:Nat->Nat} {h:bk}:∀ (p:PV) (l:List TV) (x:p.ty.den) (m:Nat) (r:List TV),px g h p l=af (x,m,r)->dV h m
 |.d T,l,x,m,r,hg=>ve 40 T l x m r hg
 |.ptr i q,l,x,m,r,hg=>by
  simp only[px] at hg;split at hg
  .split at hg
   .simp only[ak,aD] at hg;obtain⟨_,rfl,_⟩:=hg;exact dV.zero h
   .cases hg
  .cases hg
 |.csl i q z,l,x,m,r,hg=>by
  simp only[px] at hg;split at hg
  .split at hg
   .simp only[ak,aD] at hg;obtain⟨_,rfl,_⟩:=hg;exact dV.zero h
   .cases hg
  .cases hg
 |.clo q i z,l,x,m,r,hg=>by
  simp only[px] at hg;split at hg
  .split at hg
   .simp only[ak,aD] at hg;obtain⟨_,rfl,_⟩:=hg;exact dV.zero h
   .cases hg
  .cases hg
 |.row i,l,x,m,r,hg=>by
  simp only[px] at hg;split at hg
  .split at hg
   .simp only[ak,aD] at hg;obtain⟨_,rfl,_⟩:=hg;exact dV.zero h
   .cases hg
  .cases hg
 |.mp i,l,x,m,r,hg=>by
  simp only[px] at hg;split at hg
  .split at hg
   .simp only[ak,aD] at hg;obtain⟨_,rfl,_⟩:=hg;exact dV.zero h
   .cases hg
  .cases hg
 |.nil,l,x,m,r,hg=>by
  simp only[px] at hg;split at hg
  .simp only[ak,aD] at hg;obtain⟨_,rfl,_⟩:=hg;exact dV.zero h
  .cases hg
 |.emp,l,x,m,r,hg=>by
  simp only[px] at hg;split at hg
  .simp only[ak,aD] at hg;obtain⟨_,rfl,_⟩:=hg;exact dV.zero h
  .simp only[ak,aD] at hg;obtain⟨_,rfl,_⟩:=hg;exact dV.zero h
  .cases hg
 |.agg ps,l,x,m,r,hg=>HX ps l x m r hg
theorem HX {g:Nat->Nat} {h:bk}:∀ (ps:List PV) (l:List TV) (x:(PV.tyL ps).den) (m:Nat) (r:List TV),zw g h ps l=af (x,m,r)->dV h m
 |[],l,x,m,r,hg=>by
  simp only[zw,ak,aD] at hg;obtain⟨_,rfl,_⟩:=hg;exact dV.zero h
 |p::ps,l,x,m,r,hg=>by
  simp only[zw] at hg;split at hg
  .rename_i x1 m1 r1 h1;split at hg
   .rename_i x2 m2 r2 h2;simp only[ak,aD] at hg;obtain⟨_,rfl,_⟩:=hg;exact (zA p l x1 m1 r1 h1).or (HX ps r1 _ _ _ h2)
   .cases hg
  .cases hg
end
theorem aih {g:Nat->Nat} {h:bk} {p:PV} {v:TV} {x:p.ty.den} {m:Nat} (hg:xH g h p v=af (x,m)):dV h m:=by
 cases p with
 |d T=>exact Xt hg
 |agg ps=>
  simp only[xH] at hg;split at hg
  .cases hg
  .split at hg
   .split at hg
    .rename_i I m1 h1;simp only[ak,aD] at hg;obtain⟨_,rfl⟩:=hg;exact HX ps _ _ _ _ h1
    .cases hg
   .cases hg
 |ptr i q=>
  simp only[xH] at hg;split at hg
  .rename_i h1;simp only[ak,aD] at hg;obtain⟨_,rfl⟩:=hg;exact zA _ _ _ _ _ h1
  .cases hg
 |csl i q z=>
  simp only[xH] at hg;split at hg
  .rename_i h1;simp only[ak,aD] at hg;obtain⟨_,rfl⟩:=hg;exact zA _ _ _ _ _ h1
  .cases hg
 |clo q i z=>
  simp only[xH] at hg;split at hg
  .rename_i h1;simp only[ak,aD] at hg;obtain⟨_,rfl⟩:=hg;exact zA _ _ _ _ _ h1
  .cases hg
 |row i=>
  simp only[xH] at hg;split at hg
  .rename_i h1;simp only[ak,aD] at hg;obtain⟨_,rfl⟩:=hg;exact zA _ _ _ _ _ h1
  .cases hg
 |mp i=>
  simp only[xH] at hg;split at hg
  .rename_i h1;simp only[ak,aD] at hg;obtain⟨_,rfl⟩:=hg;exact zA _ _ _ _ _ h1
  .cases hg
 |nil=>
  simp only[xH] at hg;split at hg
  .rename_i h1;simp only[ak,aD] at hg;obtain⟨_,rfl⟩:=hg;exact zA _ _ _ _ _ h1
  .cases hg
 |emp=>
  simp only[xH] at hg;split at hg
  .rename_i h1;simp only[ak,aD] at hg;obtain⟨_,rfl⟩:=hg;exact zA _ _ _ _ _ h1
  .cases hg
theorem HW {g:Nat->Nat} {h:bk}:∀ (ps:List PV) (vs:List TV) (x:(PV.tyL ps).den) (m:Nat),yk g h ps vs=af (x,m)->dV h m
 |[],[],x,m,hg=>by simp only[yk,ak,aD] at hg;obtain⟨_,rfl⟩:=hg;exact dV.zero h
 |[],_::_,x,m,hg=>by simp[yk] at hg
 |_::_,[],x,m,hg=>by simp[yk] at hg
 |p::ps,v::vs,x,m,hg=>by
  simp only[yk] at hg;split at hg
  .rename_i J m1 h1;split at hg
   .rename_i I m2 h2;simp only[ak,aD] at hg;obtain⟨_,rfl⟩:=hg;exact (aih h1).or (HW ps vs I m2 h2)
   .cases hg
  .cases hg
theorem aii {g:Nat->Nat} {h:bk} {i:Nat} {b:PB} {x:b.ty.den} {m:Nat} (hg:E4 g h i b=af (x,m)):dV h m:=by
 cases b with
 |rows ty p T=>
  simp only[E4] at hg;split at hg
  .split at hg
   .split at hg
    .simp only[ak,aD] at hg;obtain⟨_,rfl⟩:=hg;exact dV.zero h
    .cases hg
   .cases hg
  .cases hg
 |rowsP ty T=>
  simp only[E4] at hg;split at hg
  .split at hg
   .split at hg
    .simp only[ak,aD] at hg;obtain⟨_,rfl⟩:=hg;exact dV.zero h
    .cases hg
   .cases hg
  .cases hg
 |cells ty ps=>
  simp only[E4] at hg;split at hg
  .split at hg
   .split at hg
    .rename_i h1;simp only[ak,aD] at hg;obtain⟨_,rfl⟩:=hg;exact HX ps _ _ _ _ h1
    .cases hg
   .cases hg
  .cases hg
 |mp K V=>
  simp only[E4] at hg;split at hg
  .split at hg
   .simp only[ak,aD] at hg;obtain⟨_,rfl⟩:=hg;exact dV.zero h
   .cases hg
  .cases hg
 |gone=>simp only[E4,ak,aD] at hg;obtain⟨_,rfl⟩:=hg;exact dV.zero h
theorem HY {g:Nat->Nat} {h:bk}:∀ (bs:List PB) (i:Nat) (x:(PB.tyL bs).den) (m:Nat),AY g h i bs=af (x,m)->dV h m
 |[],i,x,m,hg=>by simp only[AY,ak,aD] at hg;obtain⟨_,rfl⟩:=hg;exact dV.zero h
 |b::r,i,x,m,hg=>by
  simp only[AY] at hg;split at hg
  .rename_i J m1 h1;split at hg
   .rename_i I m2 h2;simp only[ak,aD] at hg;obtain⟨_,rfl⟩:=hg;exact (aii h1).or (HY r (i+1) I m2 h2)
   .cases hg
  .cases hg
structure qL (t:Tm) (x:t.ty.den) (vs:List TV) (h1:bk) (l1:List (Option iz)):Prop where
 pv:qb HU t.vs (OO _ _ x)=af vs
 pb:oE HU t.bs (Lm _ _ x)=af l1
 len:l1.length=t.bs.length
 at_:∀ i b,h1.get i=af b↔l1[i]? =af (af b)
 ok:kU h1 vs=ai
 lt:rC t.bs.length vs=ai
 cells:∀ i ty l,h1.get i=af (.cells ty l)->kU h1 l=ai/\rC t.bs.length l=ai
theorem aag (l:List (Option iz)) (i:Nat) (b:iz):(AE HU 0 l PT.leaf).get i=af b↔l[i]? =af (af b):=by
 by_cases hi:i<l.length
 .obtain⟨c,hc⟩:∃ c,l[i]? =af c:=⟨l[i],aB hi⟩
  have:=vj HU l 0 PT.leaf (λa b _ _ e=>by simp only[HU] at e;omega) i c hc;rw[show HU (0+i)=i from by simp only[HU];omega] at this;rw[this,hc];cases c with
  |some b'=>simp
  |none=>simp[PT.get]
 .rw[vi HU l 0 PT.leaf i (λk hk=>by simp only[HU];omega),bR (by omega)];simp[PT.get]
theorem wG {t:Tm} {x:t.ty.den} {vs:List TV} {h1:bk} (hi:C2 t x=af (vs,h1)):∃ l1,qL t x vs h1 l1:=by
 unfold C2 at hi;split at hi
 .rename_i us hus;split at hi
  .rename_i h hh;split at hi
   .rename_i hc;simp only[av] at hc;simp only[ak,aD] at hi;obtain⟨rfl,rfl⟩:=hi;unfold Mz at hh;split at hh
    .rename_i l1 I;simp only[ak] at hh;refine ⟨l1,hus,I,CH _ _ _ _ I,λi b=>?_,hc.1.1,hc.1.2,λi ty l hil=>?_⟩
     .rw[<- hh];exact aag l1 i b
     .have:=PT.get_all _ h 1 0 i _ hc.2 hil;simpa only[av] using this
    .cases hh
   .cases hi
  .cases hi
 .cases hi
def Wt (nb:Nat) (n:Nat):Bool:=n%2==0&&gk (n/2) nb
theorem BD {nb i:Nat}:Wt nb (nm i)=ai↔i<nb:=by
 unfold Wt nm;rw[show 2*i%2=0 from by omega,show 2*i/2=i from by omega];simp only[cS,kL];exact⟨λh=>a_ h,λh=>bE h⟩
theorem Z9 {nb n:Nat} (h:Wt nb n=ai):∃ i,i<nb/\n=nm i:=by
 unfold Wt at h;simp only[av,cU] at h;exact⟨n/2,a_ h.2,by unfold nm;omega⟩
mutual
theorem aid {nb:Nat} {h:bk}:∀ (v:TV) (y:AV),Lv nb v=ai->ci h v=af y->y.all (Wt nb)=ai
 |.f _ _,y,_,he=>by simp only[ci,ak] at he;subst he;rfl
 |.fel _ _ _ _ _,y,_,he=>by simp only[ci,ak] at he;subst he;rfl
 |.pel id _ _ _,y,hl,he=>by simp only[ci,ak] at he;subst he;exact BD.2 (a_ hl)
 |.ptr id _,y,hl,he=>by simp only[ci,ak] at he;subst he;exact BD.2 (a_ hl)
 |.csl id _ _,y,hl,he=>by simp only[ci,ak] at he;subst he;exact BD.2 (a_ hl)
 |.row id,y,hl,he=>by
  simp only[ci] at he;split at he
  .simp only[ak] at he;subst he;unfold fA;split
   .rfl
   .exact BD.2 (a_ hl)
  .cases he
 |.rtl id jj,y,hl,he=>by
  simp only[ci] at he;split at he
  .simp only[ak] at he;subst he;exact BD.2 (a_ hl)
  .cases he
 |.emp,y,_,he=>by simp only[ci,ak] at he;subst he;rfl
 |.nil,y,_,he=>by simp only[ci,ak] at he;subst he;rfl
 |.mp id,y,hl,he=>by simp only[ci,ak] at he;subst he;exact BD.2 (a_ hl)
 |.agg l,y,hl,he=>by
  simp only[ci] at he;split at he
  .rename_i l' hl';simp only[ak] at he;subst he;exact tK l l' hl hl'
  .cases he
 |.tup l,y,hl,he=>by
  simp only[ci] at he;split at he
  .rename_i l' hl';simp only[ak] at he;subst he;exact tK l l' hl hl'
  .cases he
 |.clo q l,y,hl,he=>by
  simp only[ci] at he;split at he
  .rename_i l' hl';simp only[ak] at he;subst he;exact tK l l' hl hl'
  .cases he
 |.undef,y,_,he=>by simp only[ci,ak] at he;subst he;rfl
 |.np,y,_,he=>by simp only[ci,ak] at he;subst he;rfl
 |.anyb,y,_,he=>by simp only[ci,ak] at he;subst he;rfl
theorem tK {nb:Nat} {h:bk}:∀ (l:List TV) (l':List AV),rC nb l=ai->cL h l=af l'->AV.allL (Wt nb) l'=ai
 |[],l',_,he=>by simp only[cL,ak] at he;subst he;rfl
 |x::r,l',hl,he=>by
  obtain⟨y,l2,rfl,e1,e2⟩:=cX he;simp only[rC,av] at hl;simp only[AV.allL,av];exact⟨aid x y hl.1 e1,tK r l2 hl.2 e2⟩
end
theorem qL.blk_all {t:Tm} {x:t.ty.den} {vs:List TV} {h1:bk} {l1:List (Option iz)} (I:qL t x vs h1 l1) {i:Nat} {b:iz} (hb:h1.get i=af b) {y:xc} (J:kE h1 b=af y):y.c.all (Wt t.bs.length)=ai:=by
 cases b with
 |rows ty p T xs=>
  simp only[kE] at J;split at J
  .cases J
  .simp only[ak] at J;subst J;rfl
 |cells ty l=>
  simp only[kE] at J;split at J
  .rename_i M hl;simp only[ak] at J;subst J;exact tK l M (I.cells i ty l hb).2 hl
  .cases J
 |dead p sz n=>cases J
 |mp K V es=>
  simp only[kE,ak] at J;subst J;show BC.all _ (mpC K V es)=ai;unfold mpC;split
  .rfl
  .simp only[BC.all,Af];have key:∀ l:List (K.den×V.den),AV.allL (Wt t.bs.length) (l.map ((λx=>x.2)∘λp=>(pO K p.1,AV.f (gL V p.2))))=ai:=λl=>by
    induction l with
    |nil=>rfl
    |cons e r U=>simp only[gq,AV.allL,av];exact⟨rfl,U⟩
   exact key es
theorem qL.lt_len {t:Tm} {x:t.ty.den} {vs:List TV} {h1:bk} {l1:List (Option iz)} (I:qL t x vs h1 l1) {i:Nat} {b:iz} (hb:h1.get i=af b):i<t.bs.length:=by
 rw[<- I.len];exact (bg.1 ((I.at_ i b).1 hb)).1
def φ1 (nb:Nat) (g:Nat->Nat) (φ:PM):PM:=λn=>if Wt nb n then φ (HZ g n) else ah
theorem ZF {nb:Nat} {g:Nat->Nat} {φ:PM} {i:Nat} (hi:i<nb):φ1 nb g φ (nm i)=φ (nm (g i)):=by
 unfold φ1;rw[aE (BD.2 hi),xJ]
theorem xi {nb:Nat} {g:Nat->Nat} {φ:PM} {n k:Nat} (h:φ1 nb g φ n=af k):∃ i,i<nb/\n=nm i/\φ (nm (g i))=af k:=by
 unfold φ1 at h;split at h
 .rename_i hp;obtain⟨i,hi,rfl⟩:=Z9 hp;rw[xJ] at h;exact⟨i,hi,rfl,h⟩
 .cases h
structure afq (t:Tm) (x:t.ty.den) (vs:List TV) (h1:bk) (g:Nat->Nat) (φ:PM) (E E':Nat->Prop) (Hv:HF) (w:World):Prop where
 rep:qY (φ1 t.bs.length g φ) E' (bC h1) w
 val:∀ x v,x.all (Wt t.bs.length)=ai->cM φ (tot E φ Hv) w (x.ren (HZ g)) v->cM (φ1 t.bs.length g φ) (tot E' (φ1 t.bs.length g φ) (bC h1)) w x v
 own_:∀ k,own (φ1 t.bs.length g φ) (bC h1) k->own φ Hv k
 tot_:∀ k,tot E' (φ1 t.bs.length g φ) (bC h1) k->tot E φ Hv k
theorem qY.toId {t:Tm} {x:t.ty.den} {vs:List TV} {h1:bk} {l1:List (Option iz)} (I:qL t x vs h1 l1) {g:Nat->Nat} (inj:∀ a b,a<t.bs.length->b<t.bs.length->g a=g b->a=b) {φ:PM} {E E':Nat->Prop} {Hv:HF} {w:World} (r:qY φ E Hv w)
 (hat:∀ i b y,h1.get i=af b->kE h1 b=af y->Hv (nm (g i))=af (y.ren (HZ g)))
 (hE:∀ k,E' k->tot E φ Hv k) (hne:∀ i k b,i<t.bs.length->Hv (nm (g i))=af b->φ (nm (g i))=af k->¬E' k) (hel:∀ k,E' k->k<w.heap.size):afq t x vs h1 g φ E E' Hv w:=by
 have own1:∀ k,own (φ1 t.bs.length g φ) (bC h1) k->own φ Hv k:=by
  rintro k ⟨n,y,h2,h3⟩;obtain⟨i,hi,rfl,Y⟩:=xi h3;obtain⟨j,b,e,U,J⟩:=jC h2;have:=kV e;subst this;exact⟨nm (g i),_,hat i b y U J,Y⟩
 have tot1:∀ k,tot E' (φ1 t.bs.length g φ) (bC h1) k->tot E φ Hv k:=λk hk=>hk.elim (hE k) λh=>.inr (own1 k h)
 have val:∀ x v,x.all (Wt t.bs.length)=ai->cM φ (tot E φ Hv) w (x.ren (HZ g)) v->cM (φ1 t.bs.length g φ) (tot E' (φ1 t.bs.length g φ) (bC h1)) w x v:=λx v hx hr=>by
  have h2:cM (φ1 t.bs.length g φ) (tot E φ Hv) w x v:=cM.renFrom (λi k hp hk=>by unfold φ1;rw[aE hp];exact hk) hr x hx rfl;exact h2.ext (λ_ _ h=>h) (K6.refl _ w) λk _ hk=>tot1 k hk
 refine ⟨⟨λn n' b b' k Z g2 g3 g4=>?_,λn y Z=>?_,hel,λg' cells hg=>(r.gl g' cells hg).ext (K6.refl _ w) λk _ hk=>tot1 k hk⟩,val,own1,tot1⟩
 .obtain⟨i,hi,rfl,Y⟩:=xi g3;obtain⟨j,hj,rfl,U⟩:=xi g4;obtain⟨i',c,e,J,M⟩:=jC Z;have:=kV e;subst this;obtain⟨j',c',e,h8,h9⟩:=jC g2;have:=kV e;subst this;have:=r.inj _ _ _ _ k (hat i c _ J M) (hat j c' _ h8 h9) Y U;rw[inj i j hi hj (kV this)]
 .obtain⟨i,c,rfl,J,M⟩:=jC Z;have hi:=I.lt_len J;obtain⟨k,p1,p2,ob,p3,p4⟩:=r.at_ _ _ (hat i c y J M);exact⟨k,by rw[ZF hi];exact p1,hne i k _ hi (hat i c y J M) p1,ob,p3,jy.renFrom val (I.blk_all J M) p4⟩
theorem BM.view {g:Nat->Nat} {h hv:bk} {H H':HF} {m:Nat} (d:vF H H') (Y:Eb h H H' m) (hr:xY hv h) {b0 c:iz} (hb:BM g h m b0 c) {y I:xc} (e0:kE h b0=af y) (e1:kE hv c=af I):j9 H H' y I:=by
 cases hb with
 |rows ty p T xs=>
  simp only[kE] at e0 e1;rw[e0] at e1;cases e1;exact j9.refl d y
 |mp K V es=>
  simp only[kE] at e0 e1;rw[e0] at e1;cases e1;exact j9.refl d y
 |cells ty ps x l l2 m' hg hp hm=>
  simp only[kE] at e0 e1;split at e0
  .rename_i U hl;simp only[ak] at e0;subst e0;split at e1
   .rename_i cs' hc;simp only[ak] at e1;subst e1;obtain⟨l1,Z,M,J,q3⟩:=De d hr ps l x m' [] l2 U cs' hg hp hl hc λi hi=>Y i (hm i hi)
    simp only[cL,ak] at J;subst J;rw[hY] at M;subst M;exact j9.cells rfl rfl q3 (lK (r_ hc (xp ps x l2 hp)))
   .cases e1
  .cases e0
theorem BM.erB_some {g:Nat->Nat} {h hv:bk} {nx m:Nat} (hinv:mc h nx) {i:Nat} {b0 c:iz} (h0:h.get i=af b0) (hb:BM g h m b0 c) {I:xc} (e1:kE hv c=af I):∃ y,kE h b0=af y:=by
 cases hb with
 |rows ty p T xs=>exact⟨I,e1⟩
 |mp K V es=>exact⟨I,e1⟩
 |cells ty ps x l l2 m' hg hp hm=>
  obtain⟨J,hl⟩:=fy h l (hinv.cells i ty l h0);exact⟨_,by simp only[kE,hl];rfl⟩
theorem BM.row {g:Nat->Nat} {h:bk} {m:Nat} {b0 c:iz} (hb:BM g h m b0 c):mH c=mH b0:=by
 cases hb<;>rfl
structure pU (P:Program) (f:FuncId) (c:cu):Prop where
 callable:D8 P f
 calls:∀ x y,c.m x=af y->∀ vs hp l1 rs hq l2 la lr,qL c.pre x vs hp l1->qL c.post y rs hq l2->cL hp vs=af la->cL hq rs=af lr->
  ∀ (φ:PM) (E:Nat->Prop) (w:World) (us:List Value),qY φ E (bC hp) w->j8 φ (tot E φ (bC hp)) w la us->(∀ n k,φ n=af k->ow n<c.pre.bs.length)->
  Calls P f us.toArray w λen w'=>∃ v φ',en= .returned v/\K6 (own φ (bC hp)) w w'/\(∀ k,k<w.heap.size->own φ' (bC hq) k->own φ (bC hp) k)/\(∀ i,i<c.pre.bs.length->φ' (nm i)=φ (nm i))/\qY φ' E (bC hq) w'/\cM φ' (tot E φ' (bC hq)) w' (Ed lr) v
theorem MD {g:Nat->Nat}:∀ (bs:List PB) (x:(PB.tyL bs).den) (l:List (Option iz)),BN bs=ai->oE g bs x=af l->∀ (i:Nat) (c:Option iz),l[i]? =af c->∃ b,c=af b
 |[],x,l,_,hp,i,c,hc=>by simp only[oE,ak] at hp;subst hp;simp at hc
 |b::r,x,l,hn,hp,i,c,hc=>by
  simp only[oE] at hp;split at hp
  .rename_i a I;split at hp
   .rename_i q hq;simp only[ak] at hp;subst hp;cases i with
    |zero=>
     simp at hc;subst hc;cases b with
     |gone=>simp[BN] at hn
     |rows ty p T=>simp only[CI,ak] at I;exact⟨_,I.symm⟩
     |rowsP ty T=>simp only[CI,ak] at I;exact⟨_,I.symm⟩
     |cells ty ps=>
      simp only[CI] at I;split at I
      .simp only[ak] at I;exact⟨_,I.symm⟩
      .cases I
     |mp K V=>simp only[CI,ak] at I;exact⟨_,I.symm⟩
    |succ i=>
     refine MD r _ q ?_ hq i c (by simpa using hc);cases b<;>first|exact hn|simp[BN] at hn
   .cases hp
  .cases hp
theorem FH {h h2:bk} {g:Nat->Nat}:∀ n,ua h h2 g n=ai->∀ i,i<n->∀ r,eJ h (g i)=af r->eJ h2 (g i)=af r
 |0,_,i,hi,_,_=>by omega
 |n+1,hs,i,hi,r,hr=>by
  simp only[ua,av] at hs;by_cases e:i=n
  .subst e;obtain⟨p,s,k⟩:=r;have h1:=hs.1;rw[hr] at h1;cases I:eJ h2 (g i) with
   |none=>rw[I] at h1;cases h1
   |some q=>
    obtain⟨J,s',k'⟩:=q;rw[I] at h1;simp only[av,cU] at h1;rw[h1.1.1,aw h1.1.2,aw h1.2]
  .exact FH n hs.2 i (by omega) r hr
theorem j8.le {H H':HF} {φ:PM} {E:Nat->Prop} {w:World} (r:qY φ E H w):∀ {l I:List AV} {us:List Value},il H H' l I->j8 φ (tot E φ H) w l us->j8 φ (tot E φ H') w I us
 |[],[],[],_,_=>trivial
 |[],[],_::_,_,h=>h.elim
 |_::_,_::_,[],_,h=>h.elim
 |[],_::_,_,h,_=>h.elim
 |_::_,[],_,h,_=>h.elim
 |_::_,_::_,_::_,hl,h=>⟨hl.1 _ _ _ _ r h.1,j8.le r hl.2 h.2⟩
theorem j8.toId {φ φ':PM} {O O':Nat->Prop} {w:World} {γ:Nat->Nat} {p:Nat->Bool} (hv:∀ x v,x.all p=ai->cM φ O w (x.ren γ) v->cM φ' O' w x v):∀ {l:List AV} {us:List Value},AV.allL p l=ai->j8 φ O w (AV.renL γ l) us->j8 φ' O' w l us
 |[],[],_,_=>trivial
 |[],_::_,_,h=>h.elim
 |_::_,[],_,h=>h.elim
 |_::_,_::_,hp,h=>by
  simp only[AV.allL,av] at hp;exact⟨hv _ _ hp.1 h.1,j8.toId hv hp.2 h.2⟩
theorem Wo {h:bk}:∀ {rs:List TV} {lr:List AV},cL h rs=af lr->ci h (Qk rs)=af (Ed lr)
 |[],lr,he=>by simp only[cL,ak] at he;subst he;rfl
 |[x],lr,he=>by
  obtain⟨y,l2,rfl,e1,e2⟩:=cX he;simp only[cL,ak] at e2;subst e2;exact e1
 |x::y::r,lr,he=>by
  obtain⟨J,l2,rfl,e1,e2⟩:=cX he;obtain⟨I,M,rfl,e3,U⟩:=cX e2;simp only[Qk,ci,he,Ed]
theorem ZN (γ:Nat->Nat):∀ l:List AV,Ed (AV.renL γ l)=(Ed l).ren γ
 |[]=>rfl
 |[x]=>rfl
 |x::y::r=>rfl
theorem ZO {p:Nat->Bool}:∀ {l:List AV},AV.allL p l=ai->(Ed l).all p=ai
 |[],_=>rfl
 |[x],h=>by simp only[AV.allL,av] at h;exact h.1
 |x::y::r,h=>h
theorem ae7 {nx I q:Nat}:aN (((1<<<I)-1)<<<nx) q=ai↔nx<=q/\q<nx+I:=by
 rw[Nat.testBit_shiftLeft,Nat.one_shiftLeft,Nat.testBit_two_pow_sub_one];simp only[av,bt];omega
theorem abs {P:Program} {o:Oper} {e:iS} {h:bk} {nx:Nat} {f:FuncId} {c:cu} {l:List TV} (hinv:mc h nx) (sp:pU P f c) {x:c.pre.ty.den} {m:Nat} {σ:PT Nat} {sm:Nat} (M:H8 0 c.pre l h x m σ sm) {vs:List TV} {hp:bk} {l1:List (Option iz)} (I:qL c.pre x vs hp l1) (hng:BN c.pre.bs=ai) {y:c.post.ty.den} (hm:c.m x=af y) {rs:List TV} {hq:bk} {l2:List (Option iz)} (J:qL c.post y rs hq l2) (hle:c.pre.bs.length<=c.post.bs.length)
 {g:Nat->Nat} (glo:∀ i,i<c.pre.bs.length->g i=ij σ i) (ghi:∀ i,c.pre.bs.length<=i->g i=nx+(i-c.pre.bs.length)) {h2:bk} (hh2:h2=AE g 0 (l2.map (lO (lQ g))) (eK m h)) (hsr:ua h h2 g c.pre.bs.length=ai) {la:List AV} (hla:cL h l=af la)
 (hexec:∀ (φ:PM) (E:Nat->Prop) (h':HF) (w:World) (a:Act),(∀ t,.tmp t∈o.op.operands->∀ y,fV e h t=af y->cM φ (tot E φ h') w y (a.tmps.getD t undef))->qY φ E h' w->∃ us:List Value,(execOp a.eval o).run P w= .ok (.enter f us.toArray) w/\j8 φ (tot E φ h') w la us):
 jp P o aj e h nx (Qk (kD g rs)) (sm|||m) (sm|||m|||(((1<<<(c.post.bs.length-c.pre.bs.length))-1)<<<nx)) h2 (nx+(c.post.bs.length-c.pre.bs.length)):=by
 obtain⟨x1,m1,x2,m2,hx,hmm,gv,gb⟩:=M.ex;have hmr:dV h m:=by rw[hmm];exact (HW _ _ _ _ gv).or (HY _ _ _ _ gb)
 generalize hnp:c.pre.bs.length=np at*
 generalize hnq:c.post.bs.length=nq at*
 have pvg:qb (ij σ) c.pre.vs x1=af (kD (ij σ) vs):=by
  have Y:=tU (ij σ) c.pre.vs x1;have h4:=I.pv;rw[hx,tN] at h4;rw[Y,h4];rfl
 have pbg:oE (ij σ) c.pre.bs x2=af (l1.map (lO (lQ (ij σ)))):=by
  have Y:=wn (ij σ) c.pre.bs x2;have h4:=I.pb;rw[hx,vb] at h4;rw[Y,h4];rfl
 have hl1:∀ i,i<np->∃ b,l1[i]? =af (af b):=λi hi=>by
  have hi':i<l1.length:=by rw[I.len,hnp];exact hi
  obtain⟨b,hb⟩:=MD c.pre.bs _ l1 hng I.pb i l1[i] (aB hi');exact⟨b,by rw[aB hi',hb]⟩
 have hbm:∀ i b,l1[i]? =af (af b)->∃ b0,h.get (ij σ i)=af b0/\BM (ij σ) h m b0 (lQ (ij σ) b):=λi b hb=>by
  obtain⟨b0,U,Z⟩:=Jp c.pre.bs 0 x2 m2 _ gb pbg i (lQ (ij σ) b) (by rw[a8,hb];rfl);rw[bO] at U;exact⟨b0,U,Z.mono λj hj=>by rw[hmm,bu,hj];simp⟩
 have inj1:∀ a b,a<np->b<np->ij σ a=ij σ b->a=b:=λa b ha hb=>M.inj a b (by rw[hnp];exact ha) (by rw[hnp];exact hb)
 have sig:∀ q,aN sm q=ai↔∃ k,k<np/\ij σ k=q:=λq=>by rw[M.sig,hnp]
 have gnx:∀ i,i<np->ij σ i<nx:=λi hi=>by
  obtain⟨b,hb⟩:=hl1 i hi;obtain⟨b0,U,_⟩:=hbm i b hb;exact hinv.low _ _ U
 have hmS:∀ i,i<np->aN m (ij σ i)=aj:=λi hi=>by
  cases hx:aN m (ij σ i) with
  |false=>rfl
  |true=>have:=M.disj _ hx;rw[(sig _).2 ⟨i,hi,rfl⟩] at this;cases this
 have injg:∀ a b,a<nq->b<nq->g a=g b->a=b:=λa b ha hb hab=>by
  by_cases h1:a<np
  .by_cases h2:b<np
   .rw[glo a h1,glo b h2] at hab;exact inj1 a b h1 h2 hab
   .rw[glo a h1,ghi b (by omega)] at hab;have:=gnx a h1;omega
  .by_cases h2:b<np
   .rw[ghi a (by omega),glo b h2] at hab;have:=gnx b h2;omega
   .rw[ghi a (by omega),ghi b (by omega)] at hab;omega
 let hv:bk:=AE (ij σ) 0 (l1.map (lO (lQ (ij σ)))) (eK m h)
 have hv_at:∀ i b,l1[i]? =af (af b)->hv.get (ij σ i)=af (lQ (ij σ) b):=λi b hb=>by
  have:=vj (ij σ) (l1.map (lO (lQ (ij σ)))) 0 (eK m h) (λa b ha hb=>by
   simp only[bY,I.len,hnp] at ha hb;simp only[bO];exact inj1 a b ha hb) i (af (lQ (ij σ) b)) (by rw[a8,hb];rfl)
  rw[bO] at this;exact this
 have hv_ne:∀ j,(∀ i,i<np->j≠ij σ i)->hv.get j=(eK m h).get j:=λj hj=>
  vi (ij σ) _ 0 _ j λk hk=>by
   simp only[bY,I.len,hnp] at hk;rw[bO];exact hj k hk
 have rows_in:xY hv h:=λj r hr=>by
  rw[bU] at hr ⊢;by_cases hj:∃ i,i<np/\j=ij σ i
  .obtain⟨i,hi,rfl⟩:=hj;obtain⟨b,hb⟩:=hl1 i hi;obtain⟨b0,U,Z⟩:=hbm i b hb;rw[hv_at i b hb] at hr;rw[U];simp only[aH] at hr ⊢;rw[<- Z.row];exact hr
  .rw[hv_ne j (λi hi e=>hj ⟨i,hi,e⟩),jd] at hr;split at hr
   .rename_i ht;obtain⟨ty,p,T,xs,hb⟩:=hmr j ht;rw[hb] at hr ⊢;exact hr
   .exact hr
 have rows_hp:∀ i r,eJ hp i=af r->eJ hv (ij σ i)=af r:=λi r hr=>by
  rw[bU] at hr ⊢;cases hb:hp.get i with
  |none=>rw[hb] at hr;cases hr
  |some b=>
   rw[hb] at hr;rw[hv_at i b ((I.at_ i b).1 hb)];simp only[aH,In] at hr ⊢;exact hr
 have dead_m:∀ i,aN m i=ai->bC hv (nm i)=ah:=λi hi=>by
  rw[bM,hv_ne i (λk hk e=>by rw[e,hmS k hk] at hi;cases hi)];obtain⟨p,sz,n,hd⟩:=tZ hmr hi;rw[hd];rfl
 have h2_at:∀ i cc,l2[i]? =af cc->h2.get (g i)=(match cc with|some b=>af (lQ g b)|none=>((eK m h).get (g i)).map vk):=λi cc hc=>by
  have:=vj g (l2.map (lO (lQ g))) 0 (eK m h) (λa b ha hb=>by
   simp only[bY,J.len,hnq] at ha hb;simp only[bO];exact injg a b ha hb) i (cc.map (lQ g)) (by rw[a8,hc];rfl)
  rw[bO] at this;rw[hh2,this];cases cc<;>rfl
 have h2_ne:∀ j,(∀ i,i<nq->j≠g i)->h2.get j=(eK m h).get j:=λj hj=>by
  rw[hh2];refine vi g _ 0 _ j λk hk=>?_
  simp only[bY,J.len,hnq] at hk;rw[bO];exact hj k hk
 have rows_hq:∀ i r,eJ hq i=af r->eJ h2 (g i)=af r:=λi r hr=>by
  rw[bU] at hr ⊢;cases hb:hq.get i with
  |none=>rw[hb] at hr;cases hr
  |some b=>
   rw[hb] at hr;rw[h2_at i _ ((J.at_ i b).1 hb)];simp only[aH,In] at hr ⊢;exact hr
 have rows2:ch h h2:=λj r hr=>by
  by_cases hj:∃ i,i<np/\j=ij σ i
  .obtain⟨i,hi,rfl⟩:=hj;rw[<- glo i hi] at hr ⊢;exact FH np hsr i hi r hr
  .have hjn:j<nx:=by
    rw[bU] at hr;cases hb:h.get j with
    |none=>rw[hb] at hr;cases hr
    |some b=>exact hinv.low j b hb
   have:=ch.kill m h j r hr;rw[bU] at this ⊢;rw[h2_ne j (λi hi e=>?_)]
   .exact this
   .by_cases hip:i<np
    .exact hj ⟨i,hip,by rw[e,glo i hip]⟩
    .rw[ghi i (by omega)] at e;omega
 obtain⟨lr,hlr⟩:=fy hq rs J.ok;obtain⟨lp,hlp⟩:=fy hp vs I.ok;have er2:∀ i b yb,hq.get i=af b->kE hq b=af yb->bC h2 (nm (g i))=af (yb.ren (HZ g)):=λi b yb hb hyb=>by
  rw[bM,h2_at i _ ((J.at_ i b).1 hb)];exact Dh rows_hq hyb
 have er2':∀ i,i<nq->∀ z,bC h2 (nm (g i))=af z->∃ b yb,hq.get i=af b/\kE hq b=af yb/\z=yb.ren (HZ g):=λi hi z hz=>by
  have hi':i<l2.length:=by rw[J.len,hnq];exact hi
  have hcc:=aB hi';cases hcv:l2[i] with
  |none=>
   rw[hcv] at hcc;rw[bM,h2_at i ah hcc] at hz;simp only at hz;cases hkg:(eK m h).get (g i) with
   |none=>rw[hkg] at hz;cases hz
   |some b0=>rw[hkg] at hz;cases b0<;>simp[vk,kE] at hz
  |some b=>
   rw[hcv] at hcc;have hb:=(J.at_ i b).2 hcc;rw[bM,h2_at i (af b) hcc] at hz;have hyb:∃ yb,kE hq b=af yb:=by
    cases b with
    |rows ty p T xs=>simp only[aH,lQ,kE] at hz ⊢;exact⟨z,hz⟩
    |cells ty q=>
     obtain⟨q',hq'⟩:=fy hq q (J.cells i ty q hb).1;exact⟨_,by simp only[kE,hq'];rfl⟩
    |dead p sz n=>simp[lQ,kE] at hz
    |mp K V es=>exact⟨_,rfl⟩
   obtain⟨yb,hyb⟩:=hyb;have:=Dh rows_hq hyb;simp only[aH] at hz;rw[this] at hz;exact⟨b,yb,hb,hyb,by cases hz;rfl⟩
 have dead2:∀ i,aN m i=ai->bC h2 (nm i)=ah:=λi hi=>by
  have hlt:=hmr.lt hinv hi;rw[bM,h2_ne i (λk hk e=>?_)]
  .obtain⟨p,sz,n,hd⟩:=tZ hmr hi;rw[hd];rfl
  .by_cases hkp:k<np
   .rw[e,glo k hkp,hmS k hkp] at hi;cases hi
   .rw[ghi k (by omega)] at e;omega
 have inv2:mc h2 (nx+(nq-np)):=by
  refine ⟨λj ty q hj=>?_,λj b hj=>?_⟩
  .by_cases hjg:∃ i,i<nq/\j=g i
   .obtain⟨i,hi,rfl⟩:=hjg;have hi':i<l2.length:=by rw[J.len,hnq];exact hi
    have hcc:=aB hi';cases hcv:l2[i] with
    |none=>
     rw[hcv] at hcc;rw[h2_at i ah hcc] at hj;simp only at hj;cases hkg:(eK m h).get (g i) with
     |none=>rw[hkg] at hj;cases hj
     |some b0=>rw[hkg] at hj;cases b0<;>simp[vk] at hj
    |some b=>
     rw[hcv] at hcc;have hb:=(J.at_ i b).2 hcc;rw[h2_at i (af b) hcc] at hj;simp only[ak] at hj;cases b with
     |cells ty' q'=>
      simp only[lQ,iz.cells.injEq] at hj;obtain⟨_,rfl⟩:=hj;obtain⟨z,hz⟩:=fy hq q' (J.cells i ty' q' hb).1;exact kP _ _ _ (qC rows_hq q' z hz)
     |rows _ _ _ _=>simp[lQ] at hj
     |dead _ _ _=>simp[lQ] at hj
     |mp _ _ _=>simp[lQ] at hj
   .rw[h2_ne j (λi hi e=>hjg ⟨i,hi,e⟩)] at hj;refine i_ rows2 q ?_;have hkk:=(hinv.kill m).cells j ty q hj;rw[jd] at hj;split at hj
    .rename_i ht;obtain⟨_,_,_,_,hb⟩:=hmr j ht;rw[hb] at hj;cases hj
    .exact hinv.cells j ty q hj
  .by_cases hjg:∃ i,i<nq/\j=g i
   .obtain⟨i,hi,rfl⟩:=hjg;by_cases hip:i<np
    .rw[glo i hip];have:=gnx i hip;omega
    .rw[ghi i (by omega)];omega
   .rw[h2_ne j (λi hi e=>hjg ⟨i,hi,e⟩)] at hj;have:=(hinv.kill m).low j b hj;omega
 let S:List Nat:=(dT np).map λi=>nm (ij σ i)
 have memS:∀ n,n∈S↔∃ i,i<np/\n=nm (ij σ i):=λn=>by
  simp only[S,dt,nz];exact⟨λ⟨i,h1,h2⟩=>⟨i,h1,h2.symm⟩,λ⟨i,h1,h2⟩=>⟨i,h1,h2.symm⟩⟩
 let NN:List Nat:=(dT (nq-np)).map λt=>nm (nx+t)
 have memN:∀ n,n∈NN↔∃ t,t<nq-np/\n=nm (nx+t):=λn=>by
  simp only[NN,dt,nz];exact⟨λ⟨i,h1,h2⟩=>⟨i,h1,h2.symm⟩,λ⟨i,h1,h2⟩=>⟨i,h1,h2.symm⟩⟩
 have memW:∀ n,n∈S++FO m++NN↔(∃ i,i<nq/\n=nm (g i))\/n∈FO m:=λn=>by
  rw[bQ,bQ,memS,memN];constructor
  .rintro ((⟨i,hi,rfl⟩|hn)|⟨t,ht,rfl⟩)
   .exact .inl ⟨i,by omega,by rw[glo i hi]⟩
   .exact .inr hn
   .exact .inl ⟨np+t,by omega,by rw[ghi _ (by omega),show np+t-np=t from by omega]⟩
  .rintro (⟨i,hi,rfl⟩|hn)
   .by_cases hip:i<np
    .exact .inl (.inl ⟨i,hip,by rw[glo i hip]⟩)
    .exact .inr ⟨i-np,by omega,by rw[ghi i (by omega)]⟩
   .exact .inl (.inr hn)
 have hOpT:gP P o (fV e h) (bC h) ⟨Ed (AV.renL (HZ g) lr),S++FO m,S++FO m++NN,bC h2,NN⟩:=by
  intro φ E h' w a hrd hwr hops hrep hN;have hS':∀ i,i<np->h' (nm (ij σ i))=bC h (nm (ij σ i)):=λi hi=>hrd _ (gZ _ ((memS _).2 ⟨i,hi,rfl⟩))
  have hM':∀ i,aN m i=ai->h' (nm i)=bC h (nm i):=λi hi=>hrd _ (iJ _ (lA.2 hi))
  obtain⟨us,hrun,hrel⟩:=hexec φ E h' w a hops hrep
  let Hv:HF:=λn=>if n∈S++FO m then bC hv n else h' n
  have Hv_in:∀ n,n∈S++FO m->Hv n=bC hv n:=λn hn=>by simp only[Hv,hn,bG]
  have Hv_out:∀ n,n∉S++FO m->Hv n=h' n:=λn hn=>by simp only[Hv,hn,eo]
  have blkS:∀ i,i<np->∀ z,bC hv (nm (ij σ i))=af z->∃ b0 b y0,h.get (ij σ i)=af b0/\l1[i]? =af (af b)/\BM (ij σ) h m b0 (lQ (ij σ) b)/\kE h b0=af y0/\kE hv (lQ (ij σ) b)=af z:=λi hi z hz=>by
   obtain⟨b,hb⟩:=hl1 i hi;obtain⟨b0,U,Z⟩:=hbm i b hb;rw[bM,hv_at i b hb] at hz;simp only[aH] at hz;obtain⟨y0,hy0⟩:=BM.erB_some hinv U Z hz;exact⟨b0,b,y0,U,hb,Z,hy0,hz⟩
  have hd:vF h' Hv:=λn b hb=>by
   by_cases hn:n∈S++FO m
   .rw[Hv_in n hn] at hb;rcases bQ.1 hn with hs|hs
    .obtain⟨i,hi,rfl⟩:=(memS n).1 hs;obtain⟨b0,b1,y0,U,Z,q3,q4,q5⟩:=blkS i hi b hb;exact⟨y0,by rw[hS' i hi,bM,U];exact q4⟩
    .obtain⟨i,rfl,hi⟩:=nR.1 hs;rw[dead_m i hi] at hb;cases hb
   .rw[Hv_out n hn] at hb;exact⟨b,hb⟩
  have gvv:Eb h h' Hv m:=λi hi=>⟨hM' i hi,by rw[Hv_in _ (iJ _ (lA.2 hi)),dead_m i hi]⟩
  have V:KP h' Hv:=⟨hd,λn b b' hb hb'=>by
   by_cases hn:n∈S++FO m
   .rw[Hv_in n hn] at hb';rcases bQ.1 hn with hs|hs
    .obtain⟨i,hi,rfl⟩:=(memS n).1 hs;obtain⟨b0,b1,y0,U,Z,q3,q4,q5⟩:=blkS i hi b' hb';rw[hS' i hi,bM,U] at hb;simp only[aH] at hb;exact BM.view hd gvv rows_in q3 hb q5
    .obtain⟨i,rfl,hi⟩:=nR.1 hs;rw[dead_m i hi] at hb';cases hb'
   .rw[Hv_out n hn,hb] at hb';cases hb';exact j9.refl hd b⟩
  have hrepv:=V.rep hrep;have hlpg:cL hv (kD (ij σ) vs)=af (AV.renL (HZ (ij σ)) lp):=qC rows_hp vs lp hlp;have hrel1:j8 φ (tot E φ Hv) w (AV.renL (HZ (ij σ)) lp) us:=
   j8.le hrep (Dc hd rows_in c.pre.vs l x1 m1 _ la _ gv pvg hla hlpg (λi hi=>gvv i (by rw[hmm,bu,hi];rfl))) hrel
  let E':Nat->Prop:=λk=>E k\/∃ n b,Hv n=af b/\n∉S/\φ n=af k
  have T:afq c.pre x vs hp (ij σ) φ E E' Hv w:=by
   refine qY.toId I (λa b ha hb=>inj1 a b (by rw[<- hnp];exact ha) (by rw[<- hnp];exact hb)) hrepv (λi b yb hb hyb=>?_) ?_ ?_ ?_
   .have hi:=I.lt_len hb;rw[hnp] at hi;rw[Hv_in _ (gZ _ ((memS _).2 ⟨i,hi,rfl⟩)),bM,hv_at i b ((I.at_ i b).1 hb)];exact Dh rows_hp hyb
   .rintro k (hE|⟨n,b,h1,_,Y⟩)
    .exact .inl hE
    .exact .inr ⟨n,b,h1,Y⟩
   .rintro i k b hi h1 Y (hE|⟨n,b',h4,h5,h6⟩)
    .obtain⟨k',p1,p2,_⟩:=hrepv.at_ _ _ h1;rw[Y] at p1;cases p1;exact p2 hE
    .have:=hrepv.inj _ _ _ _ k h1 h4 Y h6;exact h5 (by rw[<- this];exact (memS _).2 ⟨i,by rw[<- hnp];exact hi,rfl⟩)
   .rintro k (hE|⟨n,b,h1,_,Y⟩)
    .exact hrepv.el k hE
    .obtain⟨k',U,_,ob,q3,_⟩:=hrepv.at_ n b h1;rw[Y] at U;cases U;exact (cF.1 q3).1
  have hcalls:=sp.calls x y hm vs hp l1 rs hq l2 lp lr I J hlp hlr (φ1 c.pre.bs.length (ij σ) φ) E' w us T.rep (j8.toId T.val (tK vs lp I.lt hlp) hrel1) (λn k hk=>by
   obtain⟨i,hi,rfl,_⟩:=xi hk;rw[em];exact hi)
  unfold HE;rw[hrun];refine Calls.mono hcalls ?_;rintro en w' ⟨v,φc',rfl,hext,hown,hnm,rp,rv'⟩
  let isN:Nat->Prop:=λn=>n∈NN
  let φ':PM:=λn=>if n∈NN then φc' (nm (np+(ow n-nx))) else φ n
  have φ'_new:∀ t,t<nq-np->φ' (nm (nx+t))=φc' (nm (np+t)):=λt ht=>by
   have:nm (nx+t)∈NN:=(memN _).2 ⟨t,ht,rfl⟩;simp only[φ',this,bG,em];rw[show nx+t-nx=t from by omega]
  have φ'_old:∀ n,n∉NN->φ' n=φ n:=λn hn=>by simp only[φ',hn,eo]
  have loN:∀ i,i<nx->nm i∉NN:=λi hi hn=>by
   obtain⟨t,_,e⟩:=(memN _).1 hn;have:=kV e;omega
  have φ'_g:∀ i,i<nq->φ' (nm (g i))=φc' (nm i):=λi hi=>by
   by_cases hip:i<np
   .rw[glo i hip,φ'_old _ (loN _ (gnx i hip)),hnm i (by rw[hnp];exact hip),ZF (by rw[hnp];exact hip)]
   .rw[ghi i (by omega),φ'_new _ (by omega),show np+(i-np)=i from by omega]
  have hsub:∀ n k,φ n=af k->φ' n=af k:=λn k hk=>by
   by_cases hn:n∈NN
   .rw[hN n hn] at hk;cases hk
   .rw[φ'_old n hn];exact hk
  let F:HF:=eX h' (S++FO m++NN) (bC h2)
  have F_g:∀ i,i<nq->F (nm (g i))=bC h2 (nm (g i)):=λi hi=>by
   simp only[F,eX,(memW _).2 (.inl ⟨i,hi,rfl⟩),bG]
  have F_out:∀ n,n∉S++FO m++NN->F n=h' n:=λn hn=>by simp only[F,eX,hn,eo]
  have from_:∀ n b,F n=af b->(∃ i bq yb,i<nq/\n=nm (g i)/\hq.get i=af bq/\kE hq bq=af yb/\b=yb.ren (HZ g))\/(h' n=af b/\Hv n=af b/\n∉S/\n∉NN/\φ' n=φ n):=λn b hb=>by
   by_cases hn:n∈S++FO m++NN
   .rcases (memW n).1 hn with ⟨i,hi,rfl⟩|hs
    .rw[F_g i hi] at hb;obtain⟨bq,yb,U,Z,q3⟩:=er2' i hi b hb;exact .inl ⟨i,bq,yb,hi,rfl,U,Z,q3⟩
    .obtain⟨i,rfl,hi⟩:=nR.1 hs;have:F (nm i)=bC h2 (nm i):=by simp only[F,eX,hn,bG]
     rw[this,dead2 i hi] at hb;cases hb
   .rw[F_out n hn] at hb;have h1:n∉S++FO m:=λhh=>hn (gZ _ hh)
    have Y:n∉NN:=λhh=>hn (iJ _ hh)
    exact .inr ⟨hb,by rw[Hv_out n h1];exact hb,λhh=>h1 (gZ _ hh),Y,φ'_old n Y⟩
  have own':∀ k,own φ' F k->own φc' (bC hq) k\/∃ n b,Hv n=af b/\n∉S/\φ n=af k:=by
   rintro k ⟨n,b,h1,Y⟩;rcases from_ n b h1 with ⟨i,bq,yb,hi,rfl,U,Z,_⟩|⟨_,Z,q3,_,q5⟩
   .rw[φ'_g i hi] at Y;exact .inl ⟨nm i,yb,by rw[bM,U];exact Z,Y⟩
   .exact .inr ⟨n,b,Z,q3,by rw[<- q5];exact Y⟩
  have mv:je φ φ' h' F w w':=by
   refine ⟨hsub,hext.mono λk hk=>hd.own (T.own_ k hk),λk hk ho=>?_⟩;rcases own' k ho with h1|⟨n,b,h1,_,Y⟩
   .exact hd.own (T.own_ k (hown k hk h1))
   .exact hd.own ⟨n,b,h1,Y⟩
  have tot':∀ k,tot E φ' F k->tot E' φc' (bC hq) k:=by
   rintro k (h1|h1)
   .exact .inl (.inl h1)
   .rcases own' k h1 with Y|Y
    .exact .inr Y
    .exact .inl (.inr Y)
  let φr:PM:=λn=>if Wt nq n then φc' n else ah
  have rel_r:∀ x v,x.all (Wt nq)=ai->cM φc' (tot E' φc' (bC hq)) w' x v->cM φr (tot E φ' F) w' x v:=λx v hx hr=>
   hr.restrict (λi k hi hk=>by simp only[φr,hi,bG];exact hk) tot' hx
  have rel_g:∀ x v,cM φr (tot E φ' F) w' x v->cM φ' (tot E φ' F) w' (x.ren (HZ g)) v:=λx v hr=>
   hr.renTo λn k hk=>by
    simp only[φr] at hk;split at hk
    .rename_i hpn;obtain⟨i,hi,rfl⟩:=Z9 hpn;rw[xJ,φ'_g i hi];exact hk
    .cases hk
  have hnqJ:=hnq;refine ⟨v,φ',rfl,mv,λn k hk=>?_,?_,?_⟩
  .by_cases hn:n∈NN
   .exact .inr hn
   .rw[φ'_old n hn] at hk;exact .inl hk
  .refine ⟨λn n' b b' k h1 Y h4 h5=>?_,λn b h1=>?_,λk hk=>dz (hrep.el k hk) mv.ext.size,λg' cells hg=>mv.keepF (hrep.gl g' cells hg)⟩
   .rcases from_ n b h1 with ⟨i,bq,yb,hi,rfl,U,Z,_⟩|⟨U,Z,q3,_,q5⟩
    .rw[φ'_g i hi] at h4;have hqi:bC hq (nm i)=af yb:=by rw[bM,U];exact Z
     rcases from_ n' b' Y with ⟨j,bj,yj,hj,rfl,t1,t2,_⟩|⟨t1,t2,t3,_,t5⟩
     .rw[φ'_g j hj] at h5;have:=rp.inj _ _ _ _ k hqi (by rw[bM,t1];exact t2) h4 h5;rw[kV this]
     .exfalso;obtain⟨k',p1,p2,_⟩:=rp.at_ _ _ hqi;rw[h4] at p1;cases p1;exact p2 (.inr ⟨n',b',t2,t3,by rw[<- t5];exact h5⟩)
    .rcases from_ n' b' Y with ⟨j,bj,yj,hj,rfl,t1,t2,_⟩|⟨t1,t2,t3,_,t5⟩
     .exfalso;rw[φ'_g j hj] at h5;have hqj:bC hq (nm j)=af yj:=by rw[bM,t1];exact t2
      obtain⟨k',p1,p2,_⟩:=rp.at_ _ _ hqj;rw[h5] at p1;cases p1;exact p2 (.inr ⟨n,b,Z,q3,by rw[<- q5];exact h4⟩)
     .exact hrep.inj n n' b b' k U t1 (by rw[<- q5];exact h4) (by rw[<- t5];exact h5)
   .rcases from_ n b h1 with ⟨i,bq,yb,hi,rfl,U,Z,rfl⟩|⟨U,Z,q3,_,q5⟩
    .have hqi:bC hq (nm i)=af yb:=by rw[bM,U];exact Z
     obtain⟨k,p1,p2,ob,p3,p4⟩:=rp.at_ _ _ hqi;have hall:=J.blk_all U Z;rw[hnq] at hall;exact⟨k,by rw[φ'_g i hi];exact p1,λhE=>p2 (.inl hE),ob,p3,(p4.restrict rel_r hall).renTo rel_g⟩
    .obtain⟨k,p1,p2,ob,p3,p4⟩:=hrep.at_ n b U;have hk:k<w.heap.size:=(cF.1 p3).1;refine ⟨k,hsub n k p1,p2,ob,?_,p4.mono λx v hr=>mv.keep hr⟩;rw[hext.blk k hk ?_]
     .exact p3
     .rintro⟨n',y',t1,t2⟩;obtain⟨i,hi,rfl,t3⟩:=xi t2;obtain⟨j,bb,e,t4,t5⟩:=jC t1;have:=kV e;subst this;have hi':i<np:=by rw[<- hnp];exact hi
      have hvi:Hv (nm (ij σ i))=af (y'.ren (HZ (ij σ))):=by
       rw[Hv_in _ (gZ _ ((memS _).2 ⟨i,hi',rfl⟩)),bM,hv_at i bb ((I.at_ i bb).1 t4)];exact Dh rows_hp t5
      have:=hrepv.inj _ _ _ _ k hvi Z t3 p1;exact q3 (by rw[<- this];exact (memS _).2 ⟨i,hi',rfl⟩)
  .have hall:(Ed lr).all (Wt nq)=ai:=ZO (by have:=tK rs lr J.lt hlr;rwa [hnq] at this);show cM φ' (tot E φ' F) w' (Ed (AV.renL (HZ g) lr)) v;rw[ZN];exact rel_g _ _ (rel_r _ _ hall rv')
 have hrsg:cL h2 (kD g rs)=af (AV.renL (HZ g) lr):=qC rows_hq rs lr hlr;refine ⟨⟨_,hOpT,λz hz=>?_,?_,λn hn=>?_,λn hn=>?_,λn hn=>?_⟩,rows2,inv2,by omega,λhs=>by cases hs⟩
 .rw[Wo hrsg] at hz;cases hz;rfl
 .funext n;unfold eX;split
  .rfl
  .rename_i hn;refine (kQ hinv rows2 λi e=>?_).symm;subst e;rw[h2_ne i (λk hk e=>hn ((memW _).2 (.inl ⟨k,hk,by rw[e]⟩))),jd,aA];intro hb;exact hn ((memW _).2 (.inr (lA.2 hb)))
 .rw[bu];rcases bQ.1 hn with hs|hs
  .obtain⟨i,hi,rfl⟩:=(memS n).1 hs;rw[em,(sig _).2 ⟨i,hi,rfl⟩];rfl
  .obtain⟨i,rfl,hi⟩:=nR.1 hs;rw[em,hi];simp
 .rw[bu,bu];rcases bQ.1 hn with hs|hs
  .rcases bQ.1 hs with hs|hs
   .obtain⟨i,hi,rfl⟩:=(memS n).1 hs;rw[em,(sig _).2 ⟨i,hi,rfl⟩];rfl
   .obtain⟨i,rfl,hi⟩:=nR.1 hs;rw[em,hi];simp
  .obtain⟨t,ht,rfl⟩:=(memN n).1 hs;rw[em,ae7.2 ⟨by omega,by omega⟩];simp
 .obtain⟨t,ht,rfl⟩:=(memN n).1 hn;rw[em];omega
mutual
def FV.fl:FV->Bool
 |.raw _=>ai
 |.agg l=>FV.flL l
 |.sl _ _=>aj
 |.ptr _ _=>aj
def FV.flL:List FV->Bool
 |[]=>ai
 |x::r=>x.fl&&FV.flL r
end
theorem W2:∀ {l:List FV},FV.flL l=ai->∀ x∈l,x.fl=ai
 |[],_,x,I=>by cases I
 |y::l,h,x,I=>by
  simp only[FV.flL,av] at h;rcases bl.1 I with rfl|I
  .exact h.1
  .exact W2 h.2 x I
theorem ab9:∀ {l:List FV},(∀ x∈l,x.fl=ai)->FV.flL l=ai
 |[],_=>rfl
 |y::l,h=>by simp only[FV.flL,av];exact⟨h y (by simp),ab9 λx I=>h x (by simp[I])⟩
theorem nu.flat {O O':Nat->Prop} {w w':World} {x:FV} {v:Value} (h:nu O w x v):x.fl=ai->nu O' w' x v:=by
 induction h with
 |raw v=>intro _;exact .raw v
 |nil a c hc=>intro h;cases h
 |sl cells n c b off us hn hc hO hb hcl hu hr I=>intro h;cases h
 |ptr cells o b off us hO hb hcl hu hr I=>intro h;cases h
 |agg cells vs hl hcl hr I=>intro h;exact .agg cells vs hl hcl λj x v J hv=>I j x v J hv (W2 h x (ba J))
mutual
def AV.fl:AV->Bool
 |.f x=>x.fl
 |.emp=>ai
 |.anyb=>ai
 |.agg l=>AV.flL l
 |.tup l=>AV.flL l
 |.ptr _ _=>aj
 |.sl _ _ _=>aj
 |.row _ _ _=>aj
 |.mp _=>aj
 |.clo _ _=>aj
def AV.flL:List AV->Bool
 |[]=>ai
 |x::r=>x.fl&&AV.flL r
end
theorem KN:∀ {l:List AV},AV.flL l=ai->∀ x∈l,x.fl=ai
 |[],_,x,I=>by cases I
 |y::l,h,x,I=>by
  simp only[AV.flL,av] at h;rcases bl.1 I with rfl|I
  .exact h.1
  .exact KN h.2 x I
theorem Xx:∀ {l:List AV},(∀ x∈l,x.fl=ai)->AV.flL l=ai
 |[],_=>rfl
 |y::l,h=>by simp only[AV.flL,av];exact⟨h y (by simp),Xx λx I=>h x (by simp[I])⟩
theorem cM.flat {φ φ':PM} {O O':Nat->Prop} {w w':World} {x:AV} {v:Value} (h:cM φ O w x v):x.fl=ai->cM φ' O' w' x v:=by
 induction h with
 |f h=>intro hf;exact .f (h.flat hf)
 |ptr h=>intro hf;cases hf
 |sl h hn hc=>intro hf;cases hf
 |row h hn hc hsh=>intro hf;cases hf
 |emp=>intro _;exact .emp
 |anyb=>intro _;exact .anyb
 |mp h=>intro hf;cases hf
 |agg hl hcl hr J=>intro hf;exact .agg hl hcl λj x v I hv=>J j x v I hv (KN hf x (ba I))
 |tup hl hr J=>intro hf;exact .tup hl λj x v I hv=>J j x v I hv (KN hf x (ba I))
 |clo hl hr J=>intro hf;cases hf
mutual
theorem aij (γ:Nat->Nat):∀ x:AV,x.fl=ai->x.ren γ=x
 |.f x,_=>rfl
 |.emp,_=>rfl
 |.anyb,_=>rfl
 |.agg l,h=>by simp only[AV.ren];rw[H3 γ l h]
 |.tup l,h=>by simp only[AV.ren];rw[H3 γ l h]
 |.ptr _ _,h=>by cases h
 |.sl _ _ _,h=>by cases h
 |.row _ _ _,h=>by cases h
 |.mp _,h=>by cases h
 |.clo _ _,h=>by cases h
theorem H3 (γ:Nat->Nat):∀ l:List AV,AV.flL l=ai->AV.renL γ l=l
 |[],_=>rfl
 |x::r,h=>by
  simp only[AV.flL,av] at h;rw[AV.renL,aij γ x h.1,H3 γ r h.2]
end
theorem At:∀ (T:Ty),T.flat=ai->∀ x:T.den,∀ y∈bS T x,y.fl=ai
 |.int _,_,x,y,I=>by simp only[bS,aL] at I;subst I;rfl
 |.bool,_,x,y,I=>by simp only[bS,aL] at I;subst I;rfl
 |.str,_,x,y,I=>by simp only[bS,aL] at I;subst I;rfl
 |.sl _,h,x,y,I=>by cases h
 |.st t,h,x,y,I=>At t h x y I
 |.pr a b,h,x,y,I=>by
  simp only[Ty.flat,av] at h;simp only[bS,bQ] at I;exact I.elim (At a h.1 x.1 y) (At b h.2 x.2 y)
 |.un,_,x,y,I=>by simp[bS] at I
 |.ex,h,_,_,_=>by cases h
 |.sm,h,_,_,_=>by cases h
theorem aew (T:Ty) (h:T.flat=ai) (x:T.den):(gL T x).fl=ai:=by
 cases I:T.one with
 |true=>
  have:=At T h x (gL T x) (by rw[(Dk T x I).1];simp);exact this
 |false=>rw[qD T x I];exact ab9 (At T h x)
theorem P_ (a b:Ty):(spr a b).flat=(a.flat&&b.flat):=by
 cases a<;>cases b<;>simp[spr,G4,Ty.flat]
theorem IP {n:Nat}:∀ {a b:List TV},rC n (a++b)=ai->rC n a=ai/\rC n b=ai
 |[],b,h=>⟨rfl,h⟩
 |x::r,b,h=>by
  simp only[gr,rC,av] at h ⊢;obtain⟨h1,h2⟩:=IP h.2;exact⟨⟨h.1,h1⟩,h2⟩
mutual
theorem adx {g:Nat->Nat} {h:bk}:∀ (p:PV) (x:p.ty.den) (cs:List TV) (l:List AV),p.ty.flat=ai->pW g p x=af cs->rC 0 cs=ai->cL h cs=af l->∀ y∈l,y.fl=ai
 |.d T,x,cs,l,hf,hp,_,hl,y,hy=>by
  have:=(lJ h 40 T x cs hp).1;rw[hl] at this;cases this;obtain⟨q,hq,rfl⟩:=dt.1 hy;exact At T hf x q hq
 |.ptr i q,x,cs,l,hf,hp,hlt,hl,y,hy=>by
  simp only[pW,ak] at hp;subst hp;simp[rC,Lv] at hlt
 |.csl i q z,x,cs,l,hf,hp,hlt,hl,y,hy=>by
  simp only[pW,ak] at hp;subst hp;simp[rC,Lv] at hlt
 |.clo q i z,x,cs,l,hf,hp,hlt,hl,y,hy=>by
  simp only[pW,ak] at hp;subst hp;simp[rC,Lv] at hlt
 |.row i,x,cs,l,hf,hp,hlt,hl,y,hy=>by
  simp only[pW,ak] at hp;subst hp;simp[rC,Lv] at hlt
 |.mp i,x,cs,l,hf,hp,hlt,hl,y,hy=>by
  simp only[pW,ak] at hp;subst hp;simp[rC,Lv] at hlt
 |.nil,x,cs,l,hf,hp,hlt,hl,y,hy=>by
  simp only[pW,ak] at hp;subst hp;simp only[cL,ci,ak] at hl;subst hl;simp only[aL] at hy;subst hy;rfl
 |.emp,x,cs,l,hf,hp,hlt,hl,y,hy=>by
  simp only[pW,ak] at hp;subst hp;simp only[cL,ci,ak] at hl;subst hl;simp only[aL] at hy;subst hy;rfl
 |.agg ps,x,cs,l,hf,hp,hlt,hl,y,hy=>Iu ps x cs l hf hp hlt hl y hy
theorem Iu {g:Nat->Nat} {h:bk}:∀ (ps:List PV) (x:(PV.tyL ps).den) (cs:List TV) (l:List AV),(PV.tyL ps).flat=ai->qU g ps x=af cs->rC 0 cs=ai->cL h cs=af l->∀ y∈l,y.fl=ai
 |[],x,cs,l,hf,hp,hlt,hl,y,hy=>by
  simp only[qU,ak] at hp;subst hp;simp only[cL,ak] at hl;subst hl;cases hy
 |p::ps,x,cs,l,hf,hp,hlt,hl,y,hy=>by
  simp only[PV.tyL] at hf;rw[P_,av] at hf;simp only[qU] at hp;split at hp
  .rename_i a ha;split at hp
   .rename_i b hb;simp only[ak] at hp;subst hp;obtain⟨a',b',rfl,e1,e2⟩:=B6 hl;have hsp:=IP hlt;rcases bQ.1 hy with hy|hy
    .exact adx p _ a a' hf.1 ha hsp.1 e1 y hy
    .exact Iu ps _ b b' hf.2 hb hsp.2 e2 y hy
   .cases hp
  .cases hp
end
theorem adv {g:Nat->Nat} {h:bk} {p:PV} {x:p.ty.den} {u:TV} {y:AV} (hf:p.ty.flat=ai) (hp:tF g p x=af u) (hlt:Lv 0 u=ai) (I:ci h u=af y):y.fl=ai:=by
 cases p with
 |d T=>
  simp only[tF,ak] at hp;subst hp;simp only[ci,ak] at I;subst I;exact aew T hf x
 |agg ps=>
  simp only[tF] at hp;split at hp
  .rename_i l hl;simp only[ak] at hp;subst hp;simp only[ci] at I;split at I
   .rename_i M J;simp only[ak] at I;subst I;exact Xx (Iu ps _ l M hf hl hlt J)
   .cases I
  .cases hp
 |ptr i q=>simp only[tF,ak] at hp;subst hp;simp[Lv] at hlt
 |csl i q z=>simp only[tF,ak] at hp;subst hp;simp[Lv] at hlt
 |row i=>simp only[tF,ak] at hp;subst hp;simp[Lv] at hlt
 |clo q i z=>simp only[tF,ak] at hp;subst hp;simp[Lv,rC] at hlt
 |mp i=>simp only[tF,ak] at hp;subst hp;simp[Lv] at hlt
 |nil=>simp only[tF,ak] at hp;subst hp;simp only[ci,ak] at I;subst I;rfl
 |emp=>simp only[tF,ak] at hp;subst hp;simp only[ci,ak] at I;subst I;rfl
theorem Qp {g:Nat->Nat} {h:bk}:∀ (ps:List PV) (x:(PV.tyL ps).den) (us:List TV) (l:List AV),(PV.tyL ps).flat=ai->qb g ps x=af us->rC 0 us=ai->cL h us=af l->AV.flL l=ai
 |[],x,us,l,hf,hp,hlt,hl=>by
  simp only[qb,ak] at hp;subst hp;simp only[cL,ak] at hl;subst hl;rfl
 |p::ps,x,us,l,hf,hp,hlt,hl=>by
  simp only[PV.tyL] at hf;rw[P_,av] at hf;simp only[qb] at hp;split at hp
  .rename_i a I;split at hp
   .rename_i b hb;simp only[ak] at hp;subst hp;obtain⟨y,l2,rfl,e1,e2⟩:=cX hl;simp only[rC,av] at hlt;simp only[AV.flL,av];exact⟨adv hf.1 I hlt.1 e1,Qp ps _ b l2 hf.2 hb hlt.2 e2⟩
   .cases hp
  .cases hp
theorem adn:∀ {l:List AV},AV.flL l=ai->(Ed l).fl=ai
 |[],_=>rfl
 |[x],h=>by simp only[AV.flL,av] at h;exact h.1
 |x::y::r,h=>h
theorem afa {P:Program} {o:Oper} {e:iS} {h:bk} {nx:Nat} {f:FuncId} {c:cu} {l:List TV} (hinv:mc h nx) (sp:pU P f c) {x:c.pre.ty.den} {m:Nat} {σ:PT Nat} {sm:Nat} (M:H8 0 c.pre l h x m σ sm) {vs:List TV} {hp:bk} {l1:List (Option iz)} (I:qL c.pre x vs hp l1) {y:c.post.ty.den} (hm:c.m x=af y) {rs:List TV} {hq:bk} {l2:List (Option iz)} (J:qL c.post y rs hq l2) (hp0:c.pre.bs.length=0) (hq0:c.post.bs.length=0) (hfl:(PV.tyL c.post.vs).flat=ai)
 (g:Nat->Nat) {la:List AV} (hla:cL h l=af la)
 (hexec:∀ (φ:PM) (E:Nat->Prop) (h':HF) (w:World) (a:Act),(∀ t,.tmp t∈o.op.operands->∀ y,fV e h t=af y->cM φ (tot E φ h') w y (a.tmps.getD t undef))->qY φ E h' w->∃ us:List Value,(execOp a.eval o).run P w= .ok (.enter f us.toArray) w/\j8 φ (tot E φ h') w la us):
 jp P o aj e h nx (Qk (kD g rs)) m 0 h nx:=by
 obtain⟨x1,m1,x2,m2,hx,hmm,gv,gb⟩:=M.ex;have hmr:dV h m:=by rw[hmm];exact (HW _ _ _ _ gv).or (HY _ _ _ _ gb)
 have pvg:qb (ij σ) c.pre.vs x1=af (kD (ij σ) vs):=by
  have U:=tU (ij σ) c.pre.vs x1;have h4:=I.pv;rw[hx,tN] at h4;rw[U,h4];rfl
 obtain⟨lr,hlr⟩:=fy hq rs J.ok;obtain⟨lp,hlp⟩:=fy hp vs I.ok;have hfl':AV.flL lr=ai:=Qp c.post.vs _ rs lr hfl J.pv (by rw[<- hq0];exact J.lt) hlr;have hpe:∀ i,hp.get i=ah:=λi=>by
  cases hb:hp.get i with
  |none=>rfl
  |some b=>have:=I.lt_len hb;omega
 have hqe:∀ i,hq.get i=ah:=λi=>by
  cases hb:hq.get i with
  |none=>rfl
  |some b=>have:=J.lt_len hb;omega
 have rows_hp:∀ i r,eJ hp i=af r->eJ (eK m h) (ij σ i)=af r:=λi r hr=>by rw[bU,hpe] at hr;cases hr
 have rows_hq:∀ i r,eJ hq i=af r->eJ h (g i)=af r:=λi r hr=>by rw[bU,hqe] at hr;cases hr
 have rows_in:xY (eK m h) h:=λj r hr=>by
  rw[bU] at hr ⊢;rw[jd] at hr;split at hr
  .rename_i ht;obtain⟨ty,p,T,xs,hb⟩:=hmr j ht;rw[hb] at hr ⊢;exact hr
  .exact hr
 have hOpT:gP P o (fV e h) (bC h) ⟨Ed lr,FO m,[],λ_=>ah,[]⟩:=by
  intro φ E h' w a hrd hwr hops hrep hN;obtain⟨us,hrun,hrel⟩:=hexec φ E h' w a hops hrep
  let Hv:HF:=λn=>if n∈FO m then ah else h' n
  have Hv_in:∀ n,n∈FO m->Hv n=ah:=λn hn=>by simp only[Hv,hn,bG]
  have Hv_out:∀ n,n∉FO m->Hv n=h' n:=λn hn=>by simp only[Hv,hn,eo]
  have hd:vF h' Hv:=λn b hb=>by
   by_cases hn:n∈FO m
   .rw[Hv_in n hn] at hb;cases hb
   .rw[Hv_out n hn] at hb;exact⟨b,hb⟩
  have gvv:Eb h h' Hv m:=λi hi=>⟨hrd _ (lA.2 hi),Hv_in _ (lA.2 hi)⟩
  have V:KP h' Hv:=⟨hd,λn b b' hb Y=>by
   by_cases hn:n∈FO m
   .rw[Hv_in n hn] at Y;cases Y
   .rw[Hv_out n hn,hb] at Y;cases Y;exact j9.refl hd b⟩
  have hrepv:=V.rep hrep;have hlpg:cL (eK m h) (kD (ij σ) vs)=af (AV.renL (HZ (ij σ)) lp):=qC rows_hp vs lp hlp;have hrel1:j8 φ (tot E φ Hv) w (AV.renL (HZ (ij σ)) lp) us:=
   j8.le hrep (Dc hd rows_in c.pre.vs l x1 m1 _ la _ gv pvg hla hlpg (λi hi=>gvv i (by rw[hmm,bu,hi];rfl))) hrel
  let E':Nat->Prop:=λk=>E k\/∃ n b,Hv n=af b/\φ n=af k
  have T:afq c.pre x vs hp (ij σ) φ E E' Hv w:=by
   refine qY.toId I (λa b ha=>by omega) hrepv (λi b yb hb=>by rw[hpe] at hb;cases hb) ?_ (λi k b hi=>by omega) ?_
   .rintro k (hE|⟨n,b,h1,U⟩)
    .exact .inl hE
    .exact .inr ⟨n,b,h1,U⟩
   .rintro k (hE|⟨n,b,h1,U⟩)
    .exact hrepv.el k hE
    .obtain⟨k',Z,_,ob,q3,_⟩:=hrepv.at_ n b h1;rw[U] at Z;cases Z;exact (cF.1 q3).1
  have hcalls:=sp.calls x y hm vs hp l1 rs hq l2 lp lr I J hlp hlr (φ1 c.pre.bs.length (ij σ) φ) E' w us T.rep (j8.toId T.val (tK vs lp I.lt hlp) hrel1) (λn k hk=>by
   obtain⟨i,hi,rfl,_⟩:=xi hk;rw[em];exact hi)
  unfold HE;rw[hrun];refine Calls.mono hcalls ?_;rintro en w' ⟨v,φc',rfl,hext,hown,hnm,rp,rv'⟩;have hno:∀ k,¬own (φ1 c.pre.bs.length (ij σ) φ) (bC hp) k:=by
   rintro k ⟨n,b,h1,_⟩;obtain⟨i,bb,_,U,_⟩:=jC h1;rw[hpe] at U;cases U
  have mv:je φ φ h' h' w w':=⟨λ_ _ h=>h,hext.mono λk hk=>cV hk (hno k),λ_ _ h=>h⟩
  refine ⟨v,φ,rfl,?_,λ_ _ h=>.inl h,?_,?_⟩
  .rw[t_];exact mv
  .rw[t_];refine hrep.moved mv λk hk=>?_
   obtain⟨n,b,h1,U⟩:=hk;obtain⟨k',Z,_,ob,q3,_⟩:=hrep.at_ n b h1;rw[U] at Z;cases Z;exact hext.blk k (cF.1 q3).1 (hno k)
  .exact rv'.flat (adn hfl')
 have hrsg:cL h (kD g rs)=af (AV.renL (HZ g) lr):=qC rows_hq rs lr hlr;refine ⟨⟨_,hOpT,λz hz=>?_,?_,λn hn=>?_,by simp,by simp⟩,λ_ _ h=>h,hinv,bP _,λhs=>by cases hs⟩
 .rw[Wo hrsg,H3 _ lr hfl'] at hz;cases hz;rfl
 .exact t_ _ _
 .obtain⟨i,rfl,hi⟩:=nR.1 hn;rw[em];exact hi
def cu.full (c:cu):cu:=⟨c.pre,⟨c.post.vs,c.pre.bs⟩,λx=>obind (c.m x) λy=>af (Ui (PV.tyL c.post.vs) (PB.tyL c.pre.bs) (OO _ _ y) (Lm _ _ x))⟩
def aI (P:Program) (f:FuncId) (c:cu):Prop:=if eQ c.pre.bs.length c.post.bs.length=ai then pU P f c else pU P f c.full
theorem pU.toC {P:Program} {f:FuncId} {c:cu} (h:pU P f c) (hb:eQ c.pre.bs.length c.post.bs.length=ai):aI P f c:=by
 unfold aI;rw[aE hb];exact h
theorem aI.holds {P:Program} {f:FuncId} {c:cu} (h:aI P f c) (hb:eQ c.pre.bs.length c.post.bs.length=ai):pU P f c:=by
 unfold aI at h;rw[aE hb] at h;exact h
theorem aea (a b:Ty) (z:(spr a b).den):Ui a b (OO a b z) (Lm a b z)=z:=by cases a<;>cases b<;>rfl
open Classical in
def roM {pre:Tm} {vs:List PV} (m:pre.ty.den->Option (Tm.ty ⟨vs,pre.bs⟩).den) (x:pre.ty.den):Option (Tm.ty ⟨vs,[]⟩).den:=
 obind (m x) λy=>if Lm (PV.tyL vs) (PB.tyL pre.bs) y=Lm _ _ x then af (Ui (PV.tyL vs) (PB.tyL []) (OO (PV.tyL vs) (PB.tyL pre.bs) y) ()) else ah
theorem aI.ro {P:Program} {f:FuncId} {pre:Tm} {vs:List PV} {m:pre.ty.den->Option (Tm.ty ⟨vs,pre.bs⟩).den} {m':pre.ty.den->Option (Tm.ty ⟨vs,[]⟩).den} (h:pU P f ⟨pre,⟨vs,pre.bs⟩,m⟩) (hb:eQ pre.bs.length 0=aj) (hs:∀ x y,m' x=af y->roM m x=af y):aI P f ⟨pre,⟨vs,[]⟩,m'⟩:=by
 unfold aI;rw[aA (by show ¬eQ pre.bs.length 0=ai;rw[hb];exact Bool.false_ne_true)];refine ⟨h.callable,λx y hxy=>?_⟩;refine h.calls x y ?_;have hxy:obind (m' x) (λy=>af (Ui (PV.tyL vs) (PB.tyL pre.bs) (OO (PV.tyL vs) (PB.tyL []) y) (Lm _ _ x)))=af y:=hxy;obtain⟨z,M,hzy⟩:=dK hxy;have h1:=hs x z M;unfold roM at h1;obtain⟨y0,J,h2⟩:=dK h1;split at h2
 .rename_i heq;have h2:=iV h2;have hzy:=iV hzy;subst h2;have I:Ui (PV.tyL vs) (PB.tyL pre.bs) (OO (PV.tyL vs) (PB.tyL pre.bs) y0) (Lm (PV.tyL pre.vs) (PB.tyL pre.bs) x)=y:=(gx (λq=>Ui (PV.tyL vs) (PB.tyL pre.bs) q (Lm (PV.tyL pre.vs) (PB.tyL pre.bs) x)) (tN (PV.tyL vs) (PB.tyL []) _ ()).symm).trans hzy;rw[<- heq] at I;have:=(aea (PV.tyL vs) (PB.tyL pre.bs) y0).symm.trans I;exact J.trans (gx af this)
 .cases h2
theorem jp.drop {P:Program} {o:Oper} {e:iS} {h h':bk} {nx nx':Nat} {v:TV} {rd wr W wr':Nat} (t:jp P o aj e h nx v rd wr h' nx') (hW:∀ i,aN W i=ai->bC h' (nm i)=bC h (nm i)/\aN rd i=ai) (M:∀ i,aN wr i=ai->aN W i=ai\/aN wr' i=ai):jp P o aj e h nx v rd wr' h' nx':=by
 obtain⟨⟨f,h1,h2,J,h4,h5,Z⟩,r,i,g,st⟩:=t;have hs:∀ n,aN W (ow n)=ai->bC h' n=bC h n:=λn hn=>by
  by_cases I:∃ i,n=nm i
  .obtain⟨i,rfl⟩:=I;rw[em] at hn;exact (hW i hn).1
  .rw[wK h I,wK h' I]
 have hup:∀ H:HF,(∀ n∈f.wr,H n=bC h n)->eX H (f.wr.filter λn=> !(aN W (ow n))) f.nw=eX H f.wr f.nw:=λH Y=>by
  funext n;unfold eX;by_cases hn:n∈f.wr
  .by_cases hb:aN W (ow n)=ai
   .rw[aA (by simp[hb]),aE hn];have:=congrFun J n;unfold eX at this;rw[aE hn,hs n hb] at this;rw[this,Y n hn]
   .rw[aE (by simp[hn,hb]),aE hn]
  .rw[aA (by simp[hn]),aA hn]
 refine ⟨⟨⟨f.val,f.rd++(f.wr.filter λn=>aN W (ow n)),f.wr.filter λn=> !(aN W (ow n)),f.nw,f.N⟩,?_,h2,?_,λn hn=>?_,λn hn=>?_,Z⟩,r,i,g,λhs=>by cases hs⟩
 .intro φ E H w a hrd hwr hops hrep U;have k1:∀ i∈f.rd,H i=bC h i:=λi hi=>hrd i (gZ _ hi)
  have k2:∀ i∈f.wr,H i=bC h i:=λi hi=>by
   cases hb:aN W (ow i) with
   |true=>exact hrd i (iJ _ (by simp[hi,hb]))
   |false=>exact hwr i (by simp[hi,hb])
  have:=h1 φ E H w a k1 k2 hops hrep U;simp only[hup H k2];exact this
 .simp only[hup (bC h) (λ_ _=>rfl)];exact J
 .rcases bQ.1 hn with hn|hn
  .exact h4 n hn
  .simp only[FE] at hn;exact (hW _ hn.2).2
 .simp only[FE,eE] at hn;rcases M _ (h5 n hn.1) with hh|hh
  .rw[hn.2] at hh;cases hh
  .exact hh
mutual
theorem aae {n n':Nat} (hle:n<=n'):∀ (v:TV),Lv n v=ai->Lv n' v=ai
 |.row id,h=>by simp only[Lv,Nat.blt_eq] at h ⊢;omega
 |.rtl id _,h=>by simp only[Lv,Nat.blt_eq] at h ⊢;omega
 |.pel id _ _ _,h=>by simp only[Lv,Nat.blt_eq] at h ⊢;omega
 |.ptr id _,h=>by simp only[Lv,Nat.blt_eq] at h ⊢;omega
 |.csl id _ _,h=>by simp only[Lv,Nat.blt_eq] at h ⊢;omega
 |.mp id,h=>by simp only[Lv,Nat.blt_eq] at h ⊢;omega
 |.agg l,h=>wE hle l h
 |.tup l,h=>wE hle l h
 |.clo _ l,h=>wE hle l h
 |.f _ _,_=>rfl
 |.fel _ _ _ _ _,_=>rfl
 |.emp,_=>rfl
 |.nil,_=>rfl
 |.undef,_=>rfl
 |.np,_=>rfl
 |.anyb,_=>rfl
theorem wE {n n':Nat} (hle:n<=n'):∀ (l:List TV),rC n l=ai->rC n' l=ai
 |[],_=>rfl
 |x::r,h=>by
  simp only[rC,av] at h ⊢;exact⟨aae hle x h.1,wE hle r h.2⟩
end
theorem MP {g g':Nat->Nat} {h:bk}:∀ (bs:List PB) (i:Nat) (x:(PB.tyL bs).den) (m:Nat),H7 bs=ai->AY g h i bs=af (x,m)->∃ l,oE g' bs x=af l/\l.length=bs.length/\∀ j,j<bs.length->∃ ty p T xs,l[j]? =af (af (.rows ty p T xs))/\h.get (g (i+j))=af (.rows ty p T xs)
 |[],i,x,m,_,hg=>⟨[],rfl,rfl,λj hj=>by simp at hj⟩
 |.rows ty p T::r,i,x,m,I,hg=>by
  simp only[AY] at hg;split at hg
  .rename_i M m1 h1;split at hg
   .rename_i J m2 h2;simp only[ak,aD] at hg;obtain⟨rfl,rfl⟩:=hg;obtain⟨l,q1,Z,q3⟩:=MP (g:=g) (g':=g') (h:=h) r (i+1) J m2 I h2;simp only[E4] at h1;split at h1
    .rename_i ty' p' S xs hb;split at h1
     .rename_i hc;simp only[av,cU] at hc;obtain⟨rfl,rfl⟩:=hc;split at h1
      .rename_i z hz;simp only[ak] at h1;obtain⟨rfl,_⟩:=h1;obtain⟨es,ez⟩:=jm hz;cases es;subst ez;refine ⟨af (.rows ty p T M)::l,?_,by simp[Z],λj hj=>?_⟩
       .simp only[oE];rw[tN,vb,q1];rfl
       .cases j with
        |zero=>exact⟨ty,p,T,_,rfl,hb⟩
        |succ j=>
         obtain⟨a,b,c,d,Y,U⟩:=q3 j (by simpa using hj);exact⟨a,b,c,d,by simpa using Y,by rw[show i+(j+1)=i+1+j from by omega];exact U⟩
      .cases h1
     .cases h1
    .cases h1
   .cases hg
  .cases hg
 |.rowsP _ _::r,i,x,m,I,hg=>by cases I
 |.cells _ _::r,i,x,m,I,hg=>by cases I
 |.mp _ _::r,i,x,m,I,hg=>by cases I
 |.gone::r,i,x,m,I,hg=>by cases I
theorem FN:∀ {bs:List PB},H7 bs=ai->BN bs=ai
 |[],_=>rfl
 |.rows _ _ _::r,h=>FN (bs:=r) h
 |.rowsP _ _::r,h=>by cases h
 |.cells _ _::r,h=>by cases h
 |.mp _ _::r,h=>by cases h
 |.gone::r,h=>by cases h
theorem FI {h h2:bk} {g:Nat->Nat}:∀ (n:Nat),(∀ i,i<n->h2.get (g i)=h.get (g i))->ua h h2 g n=ai
 |0,_=>rfl
 |n+1,hs=>by
  simp only[ua,av];refine ⟨?_,FI n λi hi=>hs i (by omega)⟩;have:eJ h2 (g n)=eJ h (g n):=by rw[bU,bU,hs n (by omega)]
  rw[this];cases eJ h (g n) with
  |none=>rfl
  |some q=>obtain⟨p,s,k⟩:=q;simp
def K_ (P:Program) (con:FuncId->Option cu):Prop:=∀ f c,con f=af c->aI P f c
theorem Xm {R:Type} {P:Program} {con:FuncId->Option cu} (hcon:K_ P con) {o:Oper} {e:iS} {h:bk} {nx:Nat} {f:FuncId} {l:List TV} {K:KO R} {r:R} (hinv:mc h nx) (hk:Xn con f l h nx K=af r) {la:List AV} (hla:cL h l=af la)
 (hexec:∀ (φ:PM) (E:Nat->Prop) (h':HF) (w:World) (a:Act),D8 P f->(∀ t,.tmp t∈o.op.operands->∀ y,fV e h t=af y->cM φ (tot E φ h') w y (a.tmps.getD t undef))->qY φ E h' w->∃ us:List Value,(execOp a.eval o).run P w= .ok (.enter f us.toArray) w/\j8 φ (tot E φ h') w la us):kS P o aj e h nx K r:=by
 unfold Xn at hk;split at hk
 .rename_i c hc;have spc:=hcon f c hc;split at hk
  .rename_i x m σ sm hM;split at hk
   .rename_i q hq;obtain⟨vs,hp⟩:=q;obtain⟨l1,I⟩:=wG hq;obtain⟨y,hy,hk⟩:=dK hk;split at hk
    .rename_i q2 hq2;obtain⟨rs1,Z⟩:=q2;obtain⟨l2,J⟩:=wG hq2;split at hk
     .rename_i hcond;simp only[av] at hcond;have hle:=a_ hcond.1;have sp:=spc.holds hcond.1;simp only at hk;split at hk
      .rename_i rs hrs;have hrs':=hrs;rw[tU,J.pv] at hrs';simp only[b_,ak] at hrs';split at hk
       .rename_i hb;simp only[av] at hb;have hq0:=aw hb.1.2;refine ⟨_,_,_,_,_,hk,?_⟩;rw[<- hrs'];exact afa hinv sp (wB hM) I hy J (by omega) hq0 hb.2 _ hla λφ E h' w a=>hexec φ E h' w a sp.callable
       .split at hk
        .rename_i h2 U;obtain⟨hsr,hk⟩:=d_ hk;refine ⟨_,_,_,_,_,hk,?_⟩;rw[<- hrs'];unfold Mz at U;rw[wn,J.pb] at U;simp only[b_,ak] at U;exact abs hinv sp (wB hM) I hcond.2 hy J hle (λi hi=>by
          have:gk i c.pre.bs.length=ai:=bE hi;simp only[this,bG]) (λi hi=>by
          have:gk i c.pre.bs.length=aj:=by
           cases hb:gk i c.pre.bs.length with
           |false=>rfl
           |true=>have:=a_ hb;omega
          simp only[this];rfl) U.symm hsr hla λφ E h' w a=>hexec φ E h' w a sp.callable
        .cases hk
      .cases hk
     .rename_i hcond;split at hk
      .rename_i hro;simp only[av] at hro;have hq0:=aw hro.1;have hng:=FN hro.2;have sp:pU P f c.full:=by
        unfold aI at spc
        rwa [aA (λhb=>hcond (by rw[hb,hng];rfl))] at spc
       simp only at hk;split at hk
       .rename_i rs hrs;split at hk
        .rename_i h2 U;have hrs':=hrs;rw[tU,J.pv] at hrs';simp only[b_,ak] at hrs';refine ⟨_,_,_,_,_,hk,?_⟩;rw[<- hrs'];have M:=wB hM;unfold Mz at U;rw[wn,I.pb] at U;simp only[b_,ak] at U;have hqe:∀ i,Z.get i=ah:=λi=>by
          cases hb:Z.get i with
          |none=>rfl
          |some b=>have:=J.lt_len hb;omega
         have J':qL c.full.post (Ui (PV.tyL c.post.vs) (PB.tyL c.pre.bs) (OO _ _ y) (Lm _ _ x)) rs1 hp l1:=
          ⟨by show qb HU c.post.vs (OO (PV.tyL c.post.vs) (PB.tyL c.pre.bs) _)=_;rw[tN];exact J.pv,by show oE HU c.pre.bs (Lm (PV.tyL c.post.vs) (PB.tyL c.pre.bs) _)=_;rw[vb];exact I.pb,I.len,I.at_,i_ (λi r hr=>by rw[bU,hqe] at hr;cases hr) _ J.ok,wE (by omega) _ J.lt,I.cells⟩
         obtain⟨x1,m1,x2,m2,hx,hmm,gv,gb⟩:=M.ex;obtain⟨l,q1,q2,q3⟩:=MP (g':=HU) c.pre.bs 0 x2 m2 hro.2 gb;have hl1:l1=l:=by
          have:=I.pb;rw[hx,vb,q1] at this;cases this;rfl
         subst hl1;have hgi:∀ i,i<c.pre.bs.length->(if gk i c.pre.bs.length then ij σ i else nx+(i-c.pre.bs.length))=ij σ i:=λi hi=>by
          have:gk i c.pre.bs.length=ai:=bE hi;simp only[this,bG]
         have hsame:∀ i,i<c.pre.bs.length->h2.get (ij σ i)=h.get (ij σ i):=λi hi=>by
          obtain⟨ty,p,T,xs,w1,Y⟩:=q3 i hi;rw[bO] at Y;have:=vj (λi=>if gk i c.pre.bs.length then ij σ i else nx+(i-c.pre.bs.length)) (l1.map (lO (lQ (λi=>if gk i c.pre.bs.length then ij σ i else nx+(i-c.pre.bs.length))))) 0 (eK m h) (λa b ha hb e=>by
           simp only[bY,q2] at ha hb;rw[bO,bO,hgi a ha,hgi b hb] at e;exact M.inj a b ha hb e) i (af (.rows ty p T xs)) (by rw[a8,w1];rfl)
          rw[bO,hgi i hi] at this;rw[<- U,this,Y]
         have t:=abs (o:=o) (e:=e) hinv sp M I hng (y:=Ui (PV.tyL c.post.vs) (PB.tyL c.pre.bs) (OO _ _ y) (Lm _ _ x)) (by show obind (c.m x) _=_;rw[hy];rfl) J' (bP _) (g:=λi=>if gk i c.pre.bs.length then ij σ i else nx+(i-c.pre.bs.length)) hgi (λi hi=>by
          have:gk i c.pre.bs.length=aj:=by
           cases hb:gk i c.pre.bs.length with
           |false=>rfl
           |true=>have:=a_ hb;have hi:c.pre.bs.length<=i:=hi;omega
          simp only[this];rfl) U.symm (FI _ λi hi=>by rw[hgi i hi];exact hsame i hi) hla λφ E h' w a=>hexec φ E h' w a sp.callable
         have t':jp P o aj e h nx (Qk (kD (λi=>if gk i c.pre.bs.length then ij σ i else nx+(i-c.pre.bs.length)) rs1)) (sm|||m) (sm|||m|||(((1<<<(c.pre.bs.length-c.pre.bs.length))-1)<<<nx)) h2 (nx+(c.pre.bs.length-c.pre.bs.length)):=t;rw[HG,dl] at t';refine t'.drop (W:=sm) (λi hi=>?_) (λi hi=>?_)
         .refine ⟨?_,by rw[bu,hi];rfl⟩;obtain⟨k,hk,rfl⟩:=(M.sig i).1 hi;obtain⟨ty,p,T,xs,_,Y⟩:=q3 k hk;rw[bO] at Y;rw[bM,bM,hsame k hk,Y];rfl
         .simp only[Nat.shiftLeft_zero,HG,Nat.zero_shiftLeft,Nat.or_zero,bu,iZ] at hi;exact hi
        .cases hk
       .cases hk
      .cases hk
    .cases hk
   .cases hk
  .cases hk
 .cases hk
theorem ai0 {R:Type} {P:Program} {con:FuncId->Option cu} (hcon:K_ P con) {b9:TypeId->Option Ty} {o:Oper} {e:iS} {h:bk} {nx:Nat} {i:SI} {K:KO R} {r:R} (hinv:mc h nx) (hi:tQ e h) (hc:yG P o.op=i) (hk:dY con b9 i e h nx K=af r):kS P o i.still e h nx K r:=by
 have callOps:∀ (c:Call),o.op= .call c->∀ x,x∈c.operands->x∈o.op.operands:=λc I x J=>by rw[I];exact J
 cases i with
 |call f args=>
  simp only[dY] at hk;split at hk
  .rename_i l hl;have I:∃ c:Call,o.op= .call c/\c.callee= .value (.func f)/\c.args.toList=args:=by
    unfold yG at hc;split at hc
    .rename_i i hi;subst hc;unfold Pq at hi;split at hi
     .rename_i c I;split at hi
      .rename_i g hg;simp only[ak,SI.call.injEq] at hi;exact⟨c,I,by rw[hg,hi.1],hi.2⟩
      .simp at hi
      .cases hi
     .cases hi
    .split at hc<;>cases hc
   obtain⟨c,I,h1,h2⟩:=I;obtain⟨la,Z,Y⟩:=yY hi hl;refine Xm hcon hinv hk Y λφ E h' w a hcb hops hrep=>?_
   have hp:V3 φ E h' w a (JA e h) o:=λx y J U=>tO hrep (by rw[vw];exact hops) J U
   refine ⟨args.map a.eval,?_,OV hp args la (λx J=>callOps c I x (by simp[eV,h1,<-h2] at J ⊢;exact .inr J)) Z⟩;unfold execOp;rw[I];have hm:c.args.map a.eval=(args.map a.eval).toArray:=by rw[<- h2];apply Lf;simp
   simp[resolve,h1,Act.eval,Deferred.ofValue,invoke,hm,xn hcb]
  .cases hk
 |callv x args=>
  simp only[dY] at hk;split at hk
  .rename_i f cap l J hl;have I:∃ c:Call,o.op= .call c/\c.callee= .value x/\c.args.toList=args:=by
    unfold yG at hc;split at hc
    .rename_i i hi;subst hc;unfold Pq at hi;split at hi
     .rename_i c I;split at hi
      .simp at hi
      .rename_i g hg;simp only[ak,SI.callv.injEq] at hi;exact⟨c,I,by rw[hg,hi.1],hi.2⟩
      .cases hi
     .cases hi
    .split at hc<;>cases hc
   obtain⟨c,I,h1,h2⟩:=I;obtain⟨la,Z,Y⟩:=yY hi hl;obtain⟨yx,g3,M⟩:=bN hi J;simp only[ci] at M;split at M
   .rename_i lc hlc;simp only[ak] at M;subst M;refine Xm hcon hinv hk (nj Y hlc) λφ E h' w a hcb hops hrep=>?_
    have hp:V3 φ E h' w a (JA e h) o:=λx y J U=>tO hrep (by rw[vw];exact hops) J U
    have hxv:=hp x _ (callOps c I x (by simp[eV,h1])) g3;have hlv:=OV hp args la (λx J=>callOps c I x (by simp[eV,h1,<-h2] at J ⊢;exact .inr J)) Z;generalize hz:a.eval x=z at hxv;cases hxv with
    |@clo _ _ vs hvl hvr=>
     refine ⟨args.map a.eval++vs,?_,hlv.append (j8.of hvl hvr)⟩;unfold execOp;rw[I];have hm:c.args.map a.eval=(args.map a.eval).toArray:=by rw[<- h2];apply Lf;simp
     simp[resolve,h1,hz,Deferred.ofValue,invoke,hm,xn hcb]
   .cases M
  .cases hk
 |op s=>
  have hc:s= .bad\/dj P o.op=af s:=by
   unfold yG at hc;split at hc
   .rename_i i hi;subst hc;unfold Pq at hi;split at hi
    .split at hi<;>simp at hi
    .cases hi
   .split at hc
    .rename_i q hq;simp only[SI.op.injEq] at hc;subst hc;exact .inr hq
    .simp only[SI.op.injEq] at hc;exact .inl hc.symm
  rcases hc with rfl|hc
  .simp[dY] at hk
  .exact K_op hinv hi hc hk
def gw (am:Nat) (e e':iS):Prop:=∀ k,aN am k=aj->∀ I,e'.get k=af I->∃ v,e.get k=af v/\(ur v=ai->I=v)
theorem gw.refl (am:Nat) (e:iS):gw am e e:=λ_ _ I h=>⟨I,h,λ_=>rfl⟩
theorem gw.trans {am:Nat} {a b c:iS} (h1:gw am a b) (h2:gw am b c):gw am a c:=λk hk J hv=>by
 obtain⟨I,Z,Y⟩:=h2 k hk J hv;obtain⟨v,U,M⟩:=h1 k hk I Z;refine ⟨v,U,λhf=>?_⟩;have:=M hf;subst this;exact Y hf
theorem gw.mono {am am':Nat} {a b:iS} (h:gw am a b) (hm:∀ k,aN am k=ai->aN am' k=ai):gw am' a b:=λk hk=>h k (by
 cases I:aN am k with
 |false=>rfl
 |true=>rw[hm k I] at hk;cases hk)
structure acd (P:Program) (ops:Array Oper) (rest:List Oper) (sl:List sI) (am:Nat) (s s':TS) (fs:List FPm) (l:List (Oper×Bv)):Prop where
 ops_:l.map (·.1)=rest
 chain:Ac P ops l (fV s.e s.h) (bC s.h) (fV s'.e s'.h) (bC s'.h)
 fsl:fs.length=l.length
 sll:sl.length=l.length
 fp:∀ (j:Nat) o f q,l[j]? =af (o,f)->fs[j]? =af q->(∀ n∈f.rd,aN q.rd (ow n)=ai)/\∀ n∈f.wr,aN q.wr (ow n)=ai
 still:∀ (j:Nat) o f so,l[j]? =af (o,f)->sl[j]? =af so->so.op.still=ai->f.rd=[]/\f.wr=[]
 names:∀ (j:Nat) o f,l[j]? =af (o,f)->∀ n∈f.N,s.nx<=ow n/\ow n<s'.nx
 apart_:∀ (i j:Nat) oi fi oj fj,i<j->l[i]? =af (oi,fi)->l[j]? =af (oj,fj)->∀ n∈fi.N,n∉fj.N
 grows:s.nx<=s'.nx
 invH:mc s'.h s'.nx
 invE:tQ s'.e s'.h
 keeps:gw am s.e s'.e
theorem adw {e:iS} {h h':bk} (hi:tQ e h) (hr:ch h h') (d:Option Nat) {v:TV} {y:AV} (hv:ci h' v=af y):CG (fV e h) d y=fV (Em e d v) h':=by
 funext t;have old:(e.get t).bind (ci h)=(e.get t).bind (ci h'):=by
  cases ht:e.get t with
  |none=>rfl
  |some x=>
   obtain⟨z,I⟩:=qd h x (hi t x ht);simp only[aH,I,gE hr x z I]
 cases d with
 |none=>simp only[CG,Em,fV];rw[aA (by simp)];exact old
 |some d=>
  simp only[CG,Em,fV,PT.get_set,ak];by_cases hd:d=t
  .subst hd;simp[hv]
  .rw[aA hd,aA (λe=>hd e.symm)];exact old
theorem tQ.put {e:iS} {h h':bk} (hi:tQ e h) (hr:ch h h') (d:Option Nat) {v:TV} (hv:Lt h' v=ai):tQ (Em e d v) h':=λt x I=>by
 cases d with
 |none=>exact oF hr x (hi t x I)
 |some d=>
  simp only[Em,PT.get_set] at I;split at I
  .cases I;exact hv
  .exact oF hr x (hi t x I)
theorem Ru {e:iS} {h:bk} {t:Nat} {v:TV} (ht:e.get t=af v):fV (e.set t (af v)) h=fV e h:=by
 funext k;simp only[fV,PT.get_set];by_cases hk:k=t
 .subst hk;simp[ht]
 .rw[aA hk]
theorem tQ.set {e:iS} {h:bk} {t:Nat} {v:TV} (hi:tQ e h) (ht:e.get t=af v):tQ (e.set t (af v)) h:=λk x I=>by
 rw[PT.get_set] at I;split at I
 .rename_i hk;subst hk;cases I;exact hi _ _ ht
 .exact hi k x I
theorem TE {R:Type} {e:iS} {g:Option (Nat×Bool)} {K:Bool->iS->Option R} {r:R} (h:ZI e g K=af r):
 (g=ah/\K ai e=af r)\/(∃ t want b,g=af (t,want)/\e.get t=af (.f .bool b)/\K (b==want) (e.set t (af (.f .bool b)))=af r)\/∃ t want,g=af (t,want)/\e.get t=af .undef/\K aj e=af r:=by
 unfold ZI at h;split at h
 .exact .inl ⟨rfl,h⟩
 .rename_i t want;split at h
  .rename_i b hb;refine .inr (.inl ⟨t,want,b,rfl,hb,?_⟩);cases want with
   |true=>rcases pA h with ⟨rfl,h⟩|⟨rfl,h⟩<;>exact h
   |false=>rcases pA h with ⟨rfl,h⟩|⟨rfl,h⟩<;>exact h
  .rename_i hb;exact .inr (.inr ⟨t,want,rfl,hb,h⟩)
  .cases h
theorem Ix {R:Type} {P:Program} {con:FuncId->Option cu} (hcon:K_ P con) {b9:TypeId->Option Ty} {ops:Array Oper} {am:Nat} (ham:∀ (j:Nat) (o:Oper) (d:Nat),ops[j]? =af o->o.dst=af d->aN am d=ai):
 ∀ (rest:List Oper) (sl:List sI) (s:TS) (fs:List FPm) (K:TS->List FPm->Option R) (r:R),(∀ o∈rest,∃ j:Nat,ops[j]? =af o)->r8 P ops rest=af sl->Lq con b9 sl s fs K=af r->mc s.h s.nx->tQ s.e s.h->∃ s' fs' l,K s' (fs.reverse++fs')=af r/\acd P ops rest sl am s s' fs' l
 |[],sl,s,fs,K,r,hin,hc,hk,hH,M=>by
  simp only[r8,ak] at hc;subst hc;simp only[Lq] at hk;exact⟨s,[],[],by simpa using hk,rfl,.nil _ _,rfl,rfl,by simp,by simp,by simp,by simp,bP _,hH,M,gw.refl _ _⟩
 |o::rest,sl,s,fs,K,r,hin,hc,hk,hH,M=>by
  simp only[r8] at hc;split at hc
  .rename_i sl' hsl';have hso:∃ g,sl=⟨o.dst,yG P o.op,g⟩::sl'/\((g=ah/\o.guard=ah)\/∃ j want t,g=af (t,want)/\o.guard=af (j,want)/\(ops[j]?).bind (·.dst)=af t):=by
    split at hc
    .rename_i hg;simp only[ak] at hc;exact⟨ah,hc.symm,.inl ⟨rfl,hg⟩⟩
    .rename_i j want hg;split at hc
     .rename_i t ht;simp only[ak] at hc;exact⟨af (t,want),hc.symm,.inr ⟨j,want,t,rfl,hg,ht⟩⟩
     .cases hc
   obtain⟨g,rfl,hg⟩:=hso;simp only[Lq] at hk;have hdst:∀ d,o.dst=af d->aN am d=ai:=λd hd=>by
    obtain⟨j,hj⟩:=hin o (dC ..);exact ham j o d hj hd
   have hgs:∀ t want,g=af (t,want)->aN am t=ai:=λt want hgt=>by
    rcases hg with ⟨h1,_⟩|⟨j,want',t',h1,_,I⟩
    .rw[h1] at hgt;cases hgt
    .rw[h1] at hgt;cases hgt;cases hj:ops[j]? with
     |none=>rw[hj] at I;cases I
     |some oj=>rw[hj] at I;exact ham j oj t hj I
   have kput:∀ (e:iS) (v:TV),gw am s.e e->gw am s.e (Em e o.dst v):=λe v hke k hk v' hv=>by
    cases hd:o.dst with
    |none=>rw[hd] at hv;exact hke k hk v' hv
    |some d=>
     rw[hd] at hv;simp only[Em,PT.get_set] at hv;split at hv
     .rename_i e2;rw[e2,hdst d hd] at hk;cases hk
     .exact hke k hk v' hv
   have done:∀ (f:Bv) (v:TV) (h':bk) (nx' rd wr:Nat) (e:iS),fV e s.h=fV s.e s.h->tQ e s.h->gw am s.e e->KQ P ops o f (fV s.e s.h) (bC s.h)->(∃ y,ci h' v=af y/\f.val=y)->eX (bC s.h) f.wr f.nw=bC h'->(∀ n∈f.rd,aN rd (ow n)=ai)->(∀ n∈f.wr,aN wr (ow n)=ai)->(∀ n∈f.N,s.nx<=ow n/\ow n<nx')->ch s.h h'->mc h' nx'->s.nx<=nx'->((yG P o.op).still=ai->f.rd=[]/\f.wr=[])->
    Lq con b9 sl' ⟨Em e o.dst v,h',nx'⟩ (⟨rd,wr⟩::fs) K=af r->∃ s' fs' l,K s' (fs.reverse++fs')=af r/\acd P ops (o::rest) (⟨o.dst,yG P o.op,g⟩::sl') am s s' fs' l:=by
    intro f v h' nx' rd wr e hee hiE hke hst hval hheap hrd hwr hN hrows hinv' hgr hstill hrun;obtain⟨y,U,hy2⟩:=hval;obtain⟨s',fs',l,J,L⟩:=Ix hcon ham rest sl' _ _ K r (λo' ho'=>hin o' (cO _ ho')) hsl' hrun hinv' (hiE.put hrows o.dst (E_ _ _ _ U));have hg2:nx'<=s'.nx:=L.grows;refine ⟨s',⟨rd,wr⟩::fs',(o,f)::l,by simpa using J,by simp[L.ops_],.cons hst ?_,by simp[L.fsl],by simp[L.sll],?_,?_,?_,?_,dk hgr hg2,L.invH,L.invE,(kput e v hke).trans L.keeps⟩
    .have e1:CG (fV s.e s.h) o.dst f.val=fV (Em e o.dst v) h':=by rw[<- hee,hy2];exact adw hiE hrows o.dst U
     rw[e1,hheap];exact L.chain
    .intro j o' f' q' h1 h2;cases j with
     |zero=>simp at h1 h2;obtain⟨rfl,rfl⟩:=h1;subst h2;exact⟨hrd,hwr⟩
     |succ j=>exact L.fp j o' f' q' (by simpa using h1) (by simpa using h2)
    .intro j o' f' so h1 h2 I;cases j with
     |zero=>simp at h1 h2;obtain⟨rfl,rfl⟩:=h1;subst h2;exact hstill I
     |succ j=>exact L.still j o' f' so (by simpa using h1) (by simpa using h2) I
    .intro j o' f' h1 n hn;cases j with
     |zero=>
      simp at h1;obtain⟨rfl,rfl⟩:=h1;have:=hN n hn;exact⟨this.1,by omega⟩
     |succ j=>
      have:=L.names j o' f' (by simpa using h1) n hn;exact⟨dk hgr this.1,this.2⟩
    .intro i j oi fi oj fj hij h1 h2 n hn Y;cases j with
     |zero=>omega
     |succ j=>
      have hj:=L.names j oj fj (by simpa using h2) n Y;cases i with
      |zero=>
       simp at h1;obtain⟨rfl,rfl⟩:=h1;have I:=(hN n hn).2;have Z:nx'<=ow n:=hj.1;omega
      |succ i=>exact L.apart_ i j oi fi oj fj (by omega) (by simpa using h1) (by simpa using h2) n hn Y
   have runs:∀ (e:iS),fV e s.h=fV s.e s.h->tQ e s.h->gw am s.e e->(∀ f,gP P o (fV s.e s.h) (bC s.h) f->KQ P ops o f (fV s.e s.h) (bC s.h))->dY con b9 (yG P o.op) e s.h s.nx (λv rd wr h nx=>if Lt h v then Lq con b9 sl' ⟨Em e o.dst v,h,nx⟩ (⟨rd,wr⟩::fs) K else ah)=af r->∃ s' fs' l,K s' (fs.reverse++fs')=af r/\acd P ops (o::rest) (⟨o.dst,yG P o.op,g⟩::sl') am s s' fs' l:=by
    intro e hee hiE hke hstep hk;obtain⟨v,rd,wr,h',nx',J,T⟩:=ai0 hcon hH hiE rfl hk;simp only[] at J;split at J
    .rename_i hok;obtain⟨f,t1,t2,t3,t4,t5,t6⟩:=T.ex;rw[hee] at t1;obtain⟨y,hy⟩:=qd h' v hok;refine done f v h' nx' rd wr e hee hiE hke (hstep f t1) ⟨y,hy,t2 y hy⟩ t3 t4 t5 t6 T.rows T.inv T.grows (λhs=>?_) J;obtain⟨r0,w0⟩:=T.st hs;subst r0;subst w0;constructor
     .cases hl:f.rd with
      |nil=>rfl
      |cons n q=>have:=t4 n (by rw[hl];simp);simp at this
     .cases hl:f.wr with
      |nil=>rfl
      |cons n q=>have:=t5 n (by rw[hl];simp);simp at this
    .cases J
   have skips:∀ (e:iS),fV e s.h=fV s.e s.h->tQ e s.h->gw am s.e e->KQ P ops o rT (fV s.e s.h) (bC s.h)->Lq con b9 sl' ⟨Em e o.dst .undef,s.h,s.nx⟩ (⟨0,0⟩::fs) K=af r->∃ s' fs' l,K s' (fs.reverse++fs')=af r/\acd P ops (o::rest) (⟨o.dst,yG P o.op,g⟩::sl') am s s' fs' l:=by
    intro e hee hiE hke hstep hk;exact done rT .undef s.h s.nx 0 0 e hee hiE hke hstep ⟨_,rfl,rfl⟩ (by funext i;simp[eX,rT]) (by simp[rT]) (by simp[rT]) (by simp[rT]) (ch.refl _) hH (bP _) (λ_=>⟨rfl,rfl⟩) hk
   rcases TE hk with ⟨h1,hk⟩|⟨t,want,b,h1,hb,hk⟩|⟨t,want,h1,hb,hk⟩
   .refine runs s.e rfl M (gw.refl _ _) (λf hf=>?_) hk;rcases hg with ⟨_,hg⟩|⟨j,want,t,h2,_,_⟩
    .exact .run hg hf
    .rw[h1] at h2;cases h2
   .rcases hg with ⟨h2,_⟩|⟨j,want',t',h2,I,Z⟩
    .rw[h1] at h2;cases h2
    .rw[h1] at h2;cases h2;have hgt:=hgs t want h1;have heb:fV s.e s.h t=af (.f (.raw (.bool b))):=by simp only[fV,hb,aH,ci];rfl
     have hke:gw am s.e (s.e.set t (af (.f .bool b))):=λk hk v' hv=>by
      rw[PT.get_set] at hv;split at hv
      .rename_i ek;rw[ek,hgt] at hk;cases hk
      .exact⟨v',hv,λ_=>rfl⟩
     cases hbw:(b==want) with
     |true=>
      rw[hbw] at hk;have:b=want:=by simpa using hbw
      subst this;exact runs _ (Ru hb) (M.set hb) hke (λf hf=>.runG j t b I Z heb hf) hk
     |false=>
      rw[hbw] at hk;refine skips _ (Ru hb) (M.set hb) hke (.skip j t want I Z (.bool b) heb ?_ rfl) hk;intro hv;cases hv;simp at hbw
   .rcases hg with ⟨h2,_⟩|⟨j,want',t',h2,I,Z⟩
    .rw[h1] at h2;cases h2
    .rw[h1] at h2;cases h2;exact skips _ rfl M (gw.refl _ _) (.skip j t want I Z undef (by simp only[fV,hb,aH,ci]) (by unfold undef;simp) rfl) hk
  .cases hc
theorem ae6 {P:Program} {ops:Array Oper} {sl:List sI} {am:Nat} {s s':TS} {fs:List FPm} {l:List (Oper×Bv)} {prs:List (Nat×Nat)} (hl:acd P ops ops.toList sl am s s' fs l) (hp:MA ops sl=af prs) (hok:FK fs prs=ai):NIP ops l:=by
 unfold MA at hp;simp only[] at hp;split at hp
 .rename_i hall;simp only[gu,nz,av] at hall;simp only[ak] at hp;have hop:∀ (j:Nat) o f,l[j]? =af (o,f)->ops[j]? =af o:=λj o f hj=>by
   have h1:(l.map (·.1))[j]? =af o:=by rw[a8,hj];rfl
   rw[hl.ops_] at h1;simpa using h1
  have hsize:∀ (j:Nat) o,ops[j]? =af o->j<ops.size:=λj o h=>(cF.1 h).1
  have hprs:∀ i j,(i,j)∈prs->∃ a b,fs[i]? =af a/\fs[j]? =af b/\DG a.wr b.rd=ai/\DG a.wr b.wr=ai/\DG b.wr a.rd=ai:=by
   clear hp hall;induction prs with
   |nil=>intro i j h;cases h
   |cons p prs ih=>
    obtain⟨i0,j0⟩:=p;simp only[FK,av,WZ] at hok;intro i j hm;rcases bl.1 hm with h|h
    .cases h;have h1:=hok.1;split at h1
     .rename_i a b Z hb;simp only[av] at h1;exact⟨a,b,Z,hb,h1.1.1,h1.1.2,h1.2⟩
     .cases h1
    .exact ih hok.2 i j h
  refine ⟨λj o ho e he hb=>?_,λi j oi fi oj fj hij hi hj=>?_,hl.apart_⟩
  .have:=(hall j (hsize j o ho)).1;rw[ho] at this;simp only[Option.all_some,gu] at this;have:=this e (by simpa using he);simp[hb] at this;exact this
  .have h1:=hop i oi fi hi;have h2:=hop j oj fj hj;have hcase:=(hall j (hsize j oj h2)).2 i hij;rw[h1,h2] at hcase;simp only[iZ] at hcase;by_cases M:aN ((KE ops.toList []).getD j 0) i=ai
   .left;rw[ax] at M;cases I:(KE ops.toList [])[j]? with
    |none=>rw[I] at M;simp at M
    |some B=>
     rw[I] at M;exact Nl (ops:=ops) ops.toList [] (λj o hj=>by simpa using hj) (λj B hj=>by simp at hj) j B I i (by simpa using M)
   .right;have hap:=hcase.resolve_left M;refine ⟨hap,?_⟩;have hil:i<l.length:=(bg.1 hi).1;have hjl:j<l.length:=(bg.1 hj).1;have hsi:=aB (show i<sl.length by rw[hl.sll];exact hil);have hsj:=aB (show j<sl.length by rw[hl.sll];exact hjl);by_cases hst:(sl[i]'(by rw[hl.sll];exact hil)).op.still=ai
    .obtain⟨Y,U⟩:=hl.still i oi fi _ hi hsi hst;rw[Y,U];exact⟨(λx I=>by cases I),(λx _ I=>by cases I)⟩
    .by_cases hst2:(sl[j]'(by rw[hl.sll];exact hjl)).op.still=ai
     .obtain⟨Y,U⟩:=hl.still j oj fj _ hj hsj hst2;rw[Y,U];exact⟨(λx I=>⟨(by simp),(by simp)⟩),(λx I=>by cases I)⟩
     .have hmem:(i,j)∈prs:=by
       rw[<- hp,uX];refine ⟨j,nz.2 (hsize j oj h2),?_⟩;rw[List.mem_filterMap];refine ⟨i,nz.2 hij,?_⟩;rw[aA];rw[hsi,hsj];simp only[iZ,not_or];exact⟨M,hst,hst2⟩
      obtain⟨a,b,Z,hb,d1,d2,d3⟩:=hprs i j hmem;obtain⟨f1,f2⟩:=hl.fp i oi fi a hi Z;obtain⟨g1,g2⟩:=hl.fp j oj fj b hj hb;refine ⟨λx I=>⟨λJ=>?_,λJ=>?_⟩,λx I J=>?_⟩
      .have:=xT d1 (ow x) (f2 x I);rw[g1 x J] at this;cases this
      .have:=xT d2 (ow x) (f2 x I);rw[g2 x J] at this;cases this
      .have:=xT d3 (ow x) (g2 x I);rw[f1 x J] at this;cases this
 .cases hp
structure oP (P:Program) (E:Nat->Prop) (nt np:Nat) (φ:PM) (s:TS) (a:Act) (w:World):Prop where
 rep:qY φ E (bC s.h) w
 env:Ns φ (tot E φ (bC s.h)) w (fV s.e s.h) a
 dom:∀ n k,φ n=af k->ow n<s.nx
 low:np<=s.nx
 invH:mc s.h s.nx
 invE:tQ s.e s.h
 inert:∀ d∈a.defers,acx P d
 size:a.tmps.size=nt
structure Cj (np:Nat) (φ φ':PM) (H H':HF) (w w':World):Prop where
 ext:K6 (own φ H) w w'
 own_:∀ k,k<w.heap.size->own φ' H' k->own φ H k
 par:∀ i,i<np->φ' (nm i)=φ (nm i)
theorem Cj.refl (np:Nat) (φ:PM) (H:HF) (w:World):Cj np φ φ H H w w:=⟨K6.refl _ _,λ_ _ h=>h,λ_ _=>rfl⟩
theorem Cj.trans {np:Nat} {φ φ' φ'':PM} {H H' H'':HF} {w w' w'':World} (a:Cj np φ φ' H H' w w') (b:Cj np φ' φ'' H' H'' w' w''):Cj np φ φ'' H H'' w w'' where
 ext:=⟨b.ext.os.trans a.ext.os,b.ext.tape.trans a.ext.tape,b.ext.output.trans a.ext.output,dk a.ext.size b.ext.size,
  λk hk I=>(b.ext.blk k (dz hk a.ext.size) (λh=>I (a.own_ k hk h))).trans (a.ext.blk k hk I),
  λk hk=>(b.ext.shp k (dz hk a.ext.size)).trans (a.ext.shp k hk)⟩
 own_:=λk hk h=>a.own_ k hk (b.own_ k (dz hk a.ext.size) h)
 par:=λi hi=>(b.par i hi).trans (a.par i hi)
theorem Z2 {R:Type} {P:Program} {E:Nat->Prop} {nt np:Nat} {φ:PM} {s:TS} {a:Act} {w:World} {con:FuncId->Option cu} {b9:TypeId->Option Ty} (hm:P.follows .mixedOrders=ai) (hcon:K_ P con) (c:oP P E nt np φ s a w) {id:Nat} {ops:Array Oper} {draw:Bool} {sl:List sI} {prs:List (Nat×Nat)} {am:Nat} (ham:∀ (j:Nat) (o:Oper) (d:Nat),ops[j]? =af o->o.dst=af d->aN am d=ai)
 (hd:(ops.toList.all λo=>match o.dst with|some d=>decide (d<nt)|none=>ai)=ai) (hc:r8 P ops ops.toList=af sl) (hp:MA ops sl=af prs) {K:TS->Option R} {r:R} (hr:Lq con b9 sl s [] (λs' fs=>if FK fs prs then K s' else ah)=af r) {Q:Exit->Act->World->Prop}
 (hQ:∀ a' w' s' φ',K s'=af r->oP P E nt np φ' s' a' w'->Cj np φ φ' (bC s.h) (bC s'.h) w w'->gw am s.e s'.e->Q .normal a' w'):(Code.region id ops draw).wp P Q a w:=by
 obtain⟨s',fs',l,J,L⟩:=Ix hcon ham ops.toList sl s [] _ r (λo U=>by
  obtain⟨j,hj⟩:=eC U;exact⟨j,by simpa using hj⟩) hc hr c.invH c.invE
 have J:(if FK fs' prs then K s' else ah)=af r:=J;by_cases hok:FK fs' prs=ai
 .rw[aE hok] at J;refine Qm (φ0:=φ) (E:=E) hm L.ops_ L.chain (ae6 L hp hok) ?_ ?_ c.rep c.env ?_
  .intro n hn;obtain⟨p,I,hn⟩:=uX.1 hn;obtain⟨j,hj⟩:=eC I;have:=L.names j p.1 p.2 hj n hn;cases M:φ n with
   |none=>rfl
   |some k=>have:=c.dom n k M;omega
  .intro j o U d Y;have:=gu.1 hd o (by have:=Array.mem_of_getElem? U;simpa using this);rw[Y] at this;rw[c.size];simpa using this
  .rintro a' w' ⟨φ',m',d',Z,en',df',sz'⟩;have hnm:∀ n k,φ' n=af k->φ n=af k\/(s.nx<=ow n/\ow n<s'.nx):=λn k hik=>by
    rcases d' n k hik with h|h
    .exact .inl h
    .obtain⟨p,I,hn⟩:=uX.1 h;obtain⟨j,hj⟩:=eC I;exact .inr (L.names j p.1 p.2 hj n hn)
   have hg:=L.grows;have hlow:=c.low;refine hQ a' w' s' φ' J ⟨Z,en',λn k hik=>?_,by omega,L.invH,L.invE,by rw[df'];exact c.inert,by rw[sz'];exact c.size⟩ ⟨m'.ext,m'.own_,λi hi=>?_⟩ L.keeps
   .rcases hnm n k hik with h|h
    .have:=c.dom n k h;omega
    .exact h.2
   .cases M:φ (nm i) with
    |some k=>exact m'.sub _ _ M
    |none=>
     cases hy:φ' (nm i) with
     |none=>rfl
     |some k=>
      rcases hnm (nm i) k hy with h|h
      .rw[M] at h;cases h
      .rw[em] at h;omega
 .rw[aA hok] at J;cases J
theorem zY:∀ (l:List sI) (acc:Nat),Pt l acc=acc|||Pt l 0
 |[],acc=>by simp[Pt]
 |o::r,acc=>by
  simp only[Pt];cases o.dst with
  |none=>exact zY r acc
  |some d=>simp only[];rw[zY r (acc|||kR d),zY r (0|||kR d),yJ,kH]
theorem Am:∀ (l:List Nat) (acc:Nat),Lw l acc=acc|||Lw l 0
 |[],acc=>by simp[Lw]
 |k::r,acc=>by simp only[Lw];rw[Am r (acc|||kR k),Am r (0|||kR k),yJ,kH]
theorem ma:∀ (l:List Adj) (acc:Nat),oA l acc=acc|||oA l 0
 |[],acc=>by simp[oA]
 |.nil k _ _::r,acc=>by simp only[oA];rw[ma r (acc|||kR k),ma r (0|||kR k),yJ,kH]
 |.cel _ _ _ _::r,acc=>by simp only[oA];exact ma r acc
 |.mpt _ _ _::r,acc=>by simp only[oA];exact ma r acc
 |.ren k _::r,acc=>by simp only[oA];rw[ma r (acc|||kR k),ma r (0|||kR k),yJ,kH]
 |.pk _ _ _::r,acc=>by simp only[oA];exact ma r acc
theorem iI:∀ (c:TC) (acc:Nat),c.asg acc=acc|||c.asg 0
 |.reg ops _,acc=>zY ops acc
 |.seq a b,acc=>by simp only[TC.asg];rw[iI b (a.asg acc),iI b (a.asg 0),iI a acc,kH]
 |.jseq A a b,acc=>by simp only[TC.asg];rw[iI b (a.asg _),iI b (a.asg (Lw A.ks 0)),iI a (Lw A.ks acc),iI a (Lw A.ks 0),Am A.ks acc,kH,kH,kH]
 |.cond _ a b,acc=>by simp only[TC.asg];rw[iI b (a.asg acc),iI b (a.asg 0),iI a acc,kH]
 |.block _ b,acc=>iI b acc
 |.jblock A _ b,acc=>by simp only[TC.asg];rw[iI b (Lw A.ks acc),iI b (Lw A.ks 0),Am A.ks acc,kH]
 |.loop A b,acc=>by simp only[TC.asg];rw[iI b (Lw A.ks acc),iI b (Lw A.ks 0),Am A.ks acc,kH]
 |.defer _ _ t,acc=>by simp[TC.asg]
 |.adj l c,acc=>by simp only[TC.asg];rw[iI c (oA l acc),iI c (oA l 0),ma l acc,kH]
 |.split _ _ _ _ c,acc=>iI c acc
 |.unl _ b,acc=>iI b acc
 |.skip,acc=>by simp[TC.asg]
 |.exit _,acc=>by simp[TC.asg]
 |.ret,acc=>by simp[TC.asg]
 |.bad,acc=>by simp[TC.asg]
theorem vD {c:TC} {acc k:Nat} (h:aN (c.asg 0) k=ai):aN (c.asg acc) k=ai:=by rw[iI,bu,h];simp
theorem kr {c:TC} {acc k:Nat} (h:aN acc k=ai):aN (c.asg acc) k=ai:=by rw[iI,bu,h];rfl
theorem WJ:∀ {l:List Nat} {acc k:Nat},k∈l->aN (Lw l acc) k=ai
 |[],_,_,h=>by cases h
 |x::r,acc,k,h=>by
  simp only[Lw];rcases bl.1 h with rfl|h
  .rw[Am,bu,bu,bX.2 rfl];simp
  .exact WJ h
theorem SD:∀ {l:List sI} {acc:Nat} {o:sI} {d:Nat},o∈l->o.dst=af d->aN (Pt l acc) d=ai
 |[],_,_,_,h,_=>by cases h
 |x::r,acc,o,d,h,hd=>by
  simp only[Pt];rcases bl.1 h with rfl|h
  .rw[hd];simp only[];rw[zY,bu,bu,bX.2 rfl];simp
  .exact SD h hd
theorem WU:∀ {e:iS} {ks:List Nat} {vs:List TV},nX e ks=af vs->vs.length=ks.length/\∀ (j k:Nat),ks[j]? =af k->∃ v,vs[j]? =af v/\e.get k=af v
 |e,[],vs,h=>by simp only[nX,ak] at h;subst h;exact⟨rfl,by simp⟩
 |e,k::r,vs,h=>by
  simp only[nX] at h;split at h
  .rename_i v hv;split at h
   .rename_i l hl;simp only[ak] at h;subst h;obtain⟨h1,h2⟩:=WU hl;refine ⟨by simp[h1],λj k' hj=>?_⟩;cases j with
    |zero=>simp at hj;subst hj;exact⟨v,rfl,hv⟩
    |succ j=>simpa using h2 j k' (by simpa using hj)
   .cases h
  .cases h
theorem IA {e:iS} {h:bk} (hi:tQ e h):∀ {ks:List Nat} {vs:List TV},nX e ks=af vs->kU h vs=ai
 |[],vs,hg=>by simp only[nX,ak] at hg;subst hg;rfl
 |k::r,vs,hg=>by
  simp only[nX] at hg;split at hg
  .rename_i v hv;split at hg
   .rename_i l hl;simp only[ak] at hg;subst hg;simp only[kU,av];exact⟨hi k v hv,IA hi hl⟩
   .cases hg
  .cases hg
theorem Cv:∀ {e:iS} {ks:List Nat} {vs:List TV},vs.length=ks.length->∀ t v,(XR e ks vs).get t=af v->(∃ j:Nat,ks[j]? =af t/\vs[j]? =af v)\/(t∉ks/\e.get t=af v)
 |e,[],[],_,t,v,h=>.inr ⟨by simp,h⟩
 |e,[],_::_,hl,t,v,h=>by simp at hl
 |e,_::_,[],hl,t,v,h=>by simp at hl
 |e,k::r,u::l,hl,t,v,h=>by
  simp only[XR,PT.get_set] at h;split at h
  .rename_i I;subst I;cases h;exact .inl ⟨0,rfl,rfl⟩
  .rename_i I;rcases Cv (by simpa using hl) t v h with ⟨j,h1,h2⟩|⟨h1,h2⟩
   .exact .inl ⟨j+1,by simpa using h1,by simpa using h2⟩
   .exact .inr ⟨by simp[I,h1],h2⟩
theorem tX {am:Nat} {e:iS}:∀ {ks:List Nat} {k:Nat} {v:TV},(CZ am e ks).get k=af v->k∈ks/\e.get k=af v/\ur v=ai/\aN am k=aj
 |[],k,v,h=>by simp[CZ,PT.get] at h
 |x::r,k,v,h=>by
  simp only[CZ] at h;split at h
  .rename_i u hu;split at h
   .rename_i hc;simp only[av,eE] at hc;rw[PT.get_set] at h;split at h
    .rename_i I;subst I;cases h;exact⟨by simp,hu,hc.1,hc.2⟩
    .obtain⟨h1,h2⟩:=tX h;exact⟨by simp[h1],h2⟩
   .obtain⟨h1,h2⟩:=tX h;exact⟨by simp[h1],h2⟩
  .obtain⟨h1,h2⟩:=tX h;exact⟨by simp[h1],h2⟩
theorem IW {am:Nat} {e0 e:iS}:∀ {ks:List Nat},HR am e0 e ks=ai->∀ k v,k∈ks->e0.get k=af v->ur v=ai->aN am k=aj->∃ J,e.get k=af J
 |[],_,k,v,h,_,_,_=>by cases h
 |x::r,hc,k,v,h,hv,hf,I=>by
  simp only[HR,av] at hc;rcases bl.1 h with rfl|h
  .have h1:=hc.1;rw[hv] at h1;simp only[hf,I,Bool.not_true,Bool.false_or] at h1;cases M:e.get k with
   |none=>rw[M] at h1;cases h1
   |some u=>exact⟨u,rfl⟩
  .exact IW hc.2 k v h hv hf I
section walk
variable {P:Program} {E:Nat->Prop} {nt np:Nat}
theorem Rs {h:bk} {v:TV} {y:AV} (hn:aee v=ai) (I:ci h v=af y):Le y .emp:=by
 cases v with
 |nil=>simp only[ci,ak] at I;subst I;exact Le.nilEmp
 |emp=>simp only[ci,ak] at I;subst I;exact Le.refl _
 |_=>cases hn
theorem Xy {φ:PM} {s:TS} {a:Act} {w:World} (c:oP P E nt np φ s a w) (ty:TypeId) (T:Ty):oP P E nt np φ ⟨s.e,s.h.set s.nx (af (.rows ty ai T [])),s.nx+1⟩ a w/\bC (s.h.set s.nx (af (.rows ty ai T [])))=bC s.h/\ch s.h (s.h.set s.nx (af (.rows ty ai T []))):=by
 have hfr:=c.invH.fresh;have hr:ch s.h (s.h.set s.nx (af (.rows ty ai T []))):=ch.set λr hr=>by rw[bU,hfr] at hr;cases hr
 have J:bC (s.h.set s.nx (af (.rows ty ai T [])))=bC s.h:=by
  funext n;by_cases hn:n=nm s.nx
  .subst hn;rw[bM,bM,PT.get_set,aE rfl,hfr];rfl
  .refine kQ c.invH hr λi e=>?_
   subst e;rw[PT.get_set,aA (λe=>hn (by rw[e]))]
 refine ⟨⟨by rw[J];exact c.rep,?_,λn k hk=>Ae (c.dom n k hk),iD c.low,c.invH.set hr (qO _) (Nat.le_succ _) (λ_ _ he=>by cases he),?_,c.inert,c.size⟩,J,hr⟩
 .intro t x I;rw[J];simp only[fV] at I;cases he:s.e.get t with
  |none=>rw[he] at I;cases I
  |some q=>
   rw[he] at I;obtain⟨z,M⟩:=qd s.h q (c.invE t q he);simp only[aH,gE hr q z M,ak] at I;subst I;exact c.env t _ (by simp only[fV,he,aH,M])
 .intro t x I;exact oF hr x (c.invE t x I)
theorem y_ {h:bk}:∀ {a b:List TV},kU h a=ai->kU h b=ai->kU h (a++b)=ai
 |[],_,_,hb=>hb
 |x::r,b,I,hb=>by
  simp only[kU,av] at I;simp only[gr,kU,av];exact⟨I.1,y_ I.2 hb⟩
theorem MB {h:bk}:∀ {a:List TV} (n:Nat),kU h a=ai->kU h (a.take n)=ai
 |[],n,_=>by simp[kU]
 |x::r,0,_=>rfl
 |x::r,n+1,I=>by
  simp only[kU,av] at I;simp only[vZ,kU,av];exact⟨I.1,MB n I.2⟩
theorem MC {h:bk}:∀ {a:List TV} (n:Nat),kU h a=ai->kU h (a.drop n)=ai
 |[],n,_=>by simp[kU]
 |x::r,0,I=>I
 |x::r,n+1,I=>by
  simp only[kU,av] at I;simp only[v7];exact MC n I.2
theorem yU {α:Type} {l:List α} {j:Nat} {x:α} (h:l[j]? =af x):splice l j [x]=l:=by
 have hl:j<l.length:=by
  rcases b7 j l.length with h'|h'
  .exact h'
  .rw[bR h'] at h;cases h
 rw[aB hl,ak] at h;unfold splice;subst h;simp
theorem ac4 {φ:PM} {s:TS} {a:Act} {w:World} (c:oP P E nt np φ s a w) {id cty j:Nat} {l:List TV} {v u:TV} (hb:s.h.get id=af (.cells cty l)) (hv:l[j]? =af v) (hn:aee v=ai) (hu:ci s.h u=af .emp) (huo:Lt s.h u=ai):
 oP P E nt np φ ⟨s.e,s.h.set id (af (.cells cty (splice l j [u]))),s.nx⟩ a w/\Cj np φ φ (bC s.h) (bC (s.h.set id (af (.cells cty (splice l j [u]))))) w w:=by
 have hr:ch s.h (s.h.set id (af (.cells cty (splice l j [u])))):=ch.set λr hr=>by rw[bU,hb] at hr;cases hr
 have hlo:=c.invH.cells id cty l hb;obtain⟨J,M⟩:=fy s.h l hlo;have hsp:cL s.h (splice l j [u])=af (splice J j [.emp]):=sC j M (by simp only[cL,hu]);have hsp':cL (s.h.set id (af (.cells cty (splice l j [u])))) (splice l j [u])=af (splice J j [.emp]):=hX hr _ _ hsp;obtain⟨y,hy,hey⟩:=l9 M j v hv;have hold:bC s.h (nm id)=af ⟨cty,.mx J⟩:=by rw[bM,hb];simp only[aH,kE,M]
 have hnew:bC (s.h.set id (af (.cells cty (splice l j [u])))) (nm id)=af ⟨cty,.mx (splice J j [.emp])⟩:=by
  rw[bM,PT.get_set,aE rfl];simp only[aH,kE,hsp']
 have hoth:∀ n,n≠nm id->bC (s.h.set id (af (.cells cty (splice l j [u])))) n=bC s.h n:=λn Y=>by
  refine kQ c.invH hr λi e=>?_
  subst e;rw[PT.get_set,aA (λe=>Y (by rw[e]))]
 have hdom:vF (bC s.h) (bC (s.h.set id (af (.cells cty (splice l j [u]))))):=λn b U=>by
  by_cases e:n=nm id
  .subst e;exact⟨_,hold⟩
  .rw[hoth n e] at U;exact⟨b,U⟩
 have hcell:∀ x∈J,x.isCell=ai:=λx I=>by
  obtain⟨k,hk⟩:=eC I;obtain⟨q,_,_,hat⟩:=c.rep.at_ _ _ hold;unfold XK at hat;obtain⟨ob,_,hob⟩:=hat;rw[pG rfl] at hob;obtain⟨arr,_,hca⟩:=hob;exact (hca.2 k x hk).1
 have hV:KP (bC s.h) (bC (s.h.set id (af (.cells cty (splice l j [u]))))):=⟨hdom,λn b b' h1 h2=>by
  by_cases e:n=nm id
  .subst e;rw[hold] at h1;cases h1;rw[hnew] at h2;cases h2;refine j9.cells rfl rfl ?_ λx I=>?_
   .show il _ _ J (splice J j [.emp]);have:=il.splice j (il.refl hdom J) (b:=[y]) (b':=[.emp]) ⟨(Rs hn hey).toH hdom,trivial⟩;rw[yU hy] at this;exact this
   .have I:x∈splice J j [.emp]:=I;unfold splice at I;rw[bQ,bQ,aL] at I;rcases I with (I|I)|I
    .exact hcell x (gY I)
    .subst I;rfl
    .exact hcell x (List.mem_of_mem_drop I)
  .rw[hoth n e,h1] at h2;cases h2;exact j9.refl hdom b⟩
 refine ⟨⟨hV.rep c.rep,?_,c.dom,c.low,c.invH.set hr (c.invH.low id _ hb) (bP _) (λty l2 he=>?_),?_,c.inert,c.size⟩,⟨K6.refl _ _,λk _ ho=>hdom.own ho,λ_ _=>rfl⟩⟩
 .intro t x I;simp only[fV] at I;cases he:s.e.get t with
  |none=>rw[he] at I;cases I
  |some q=>
   rw[he] at I;obtain⟨z,Z⟩:=qd s.h q (c.invE t q he);simp only[aH,gE hr q z Z,ak] at I;subst I;exact (c.env t _ (by simp only[fV,he,aH,Z])).dom hdom
 .simp only[iz.cells.injEq] at he;obtain⟨_,rfl⟩:=he;refine i_ hr _ ?_;unfold splice;exact y_ (y_ (MB _ hlo) (by simp only[kU,huo,iQ])) (MC _ hlo)
 .intro t x I;exact oF hr x (c.invE t x I)
theorem oP.congr {φ:PM} {s s':TS} {a:Act} {w:World} (c:oP P E nt np φ s a w) (he:∀ t,s'.e.get t=s.e.get t) (hh:∀ i,s'.h.get i=s.h.get i) (hn:s'.nx=s.nx):oP P E nt np φ s' a w/\bC s'.h=bC s.h:=by
 have hr:ch s.h s'.h:=λi r hi=>by rw[bU] at hi ⊢;rw[hh];exact hi
 have J:bC s'.h=bC s.h:=by funext n;exact kQ c.invH hr λi _=>hh i
 refine ⟨⟨by rw[J];exact c.rep,?_,by rw[hn];exact c.dom,by rw[hn];exact c.low,⟨λi ty l hg=>?_,λi b hg=>?_⟩,λt v hv=>?_,c.inert,c.size⟩,J⟩
 .intro t x I;rw[J];simp only[fV,he] at I;cases hg:s.e.get t with
  |none=>rw[hg] at I;cases I
  |some v=>
   rw[hg] at I;obtain⟨z,M⟩:=qd s.h v (c.invE t v hg);simp only[aH,gE hr v z M,ak] at I;subst I;exact c.env t _ (by simp only[fV,hg,aH,M])
 .rw[hh] at hg;exact i_ hr l (c.invH.cells i ty l hg)
 .rw[hh] at hg;rw[hn];exact c.invH.low i b hg
 .rw[he] at hv;exact oF hr v (c.invE t v hv)
theorem Qa {R:Type} {v:Int} {f:Nat->Option R} {r:R}:∀ {m i:Nat},spl v f i m=af r->∃ j,v=aQ j/\f j=af r
 |0,i,h=>by cases h
 |m+1,i,h=>by
  simp only[spl] at h;rcases pA h with ⟨h1,h2⟩|⟨_,h2⟩
  .exact⟨i,bf h1,h2⟩
  .exact Qa h2
theorem ZY {φ:PM} {s s':TS} {a:Act} {w:World} (c:oP P E nt np φ s a w) {k off:Nat} {kd:IntKind} {v:Int} (h1:aam s k off=af (kd,v)) (h2:TZ s k off kd v=af s'):oP P E nt np φ s' a w/\bC s'.h=bC s.h/\∀ t,s'.e.get t=s.e.get t:=by
 unfold aam at h1;unfold TZ at h2;cases hk:s.e.get k with
 |none=>rw[hk] at h1;cases h1
 |some x=>
  rw[hk] at h1 h2;cases x with
  |f T q=>
   cases T with
   |int kd'=>
    simp only[ak,aD] at h1;obtain⟨rfl,rfl⟩:=h1;simp only[ak] at h2;subst h2;have he:∀ t,(s.e.set k (af (.f (.int kd') q))).get t=s.e.get t:=λt=>by
     rw[PT.get_set];split
     .rename_i e;subst e;exact hk.symm
     .rfl
    obtain⟨J,I⟩:=c.congr (s':=⟨s.e.set k (af (.f (.int kd') q)),s.h,s.nx⟩) he (λ_=>rfl) rfl;exact⟨J,I,he⟩
   |_=>cases h1
  |ptr a0 o0=>
   simp only[] at h1 h2;cases hb:s.h.get a0 with
   |none=>rw[hb] at h1;cases h1
   |some b=>
    rw[hb] at h1 h2;cases b with
    |cells ty l=>
     simp only[] at h1 h2;cases hl:l[o0+off]? with
     |none=>rw[hl] at h1;cases h1
     |some y=>
      rw[hl] at h1;cases y with
      |f T q=>
       cases T with
       |int kd'=>
        simp only[ak,aD] at h1;obtain⟨rfl,rfl⟩:=h1;simp only[ak] at h2;subst h2;have hh:∀ i,(s.h.set a0 (af (.cells ty (splice l (o0+off) [.f (.int kd') q])))).get i=s.h.get i:=λi=>by
         rw[PT.get_set];split
         .rename_i e;subst e;rw[hb,yU hl]
         .rfl
        obtain⟨J,I⟩:=c.congr (s':=⟨s.e,s.h.set a0 (af (.cells ty (splice l (o0+off) [.f (.int kd') q]))),s.nx⟩) (λ_=>rfl) hh rfl;exact⟨J,I,λ_=>rfl⟩
       |_=>cases h1
      |_=>cases h1
    |_=>cases h1
  |_=>cases h1
mutual
theorem Ms (id sz n:Nat):∀ v:TV,ur v=ai->Ll id sz n v=v
 |.f _ _,_=>rfl
 |.fel _ _ _ _ _,_=>rfl
 |.emp,_=>rfl
 |.nil,_=>rfl
 |.undef,_=>rfl
 |.np,_=>rfl
 |.anyb,_=>rfl
 |.agg l,h=>by simp only[Ll];rw[BB id sz n l h]
 |.tup l,h=>by simp only[Ll];rw[BB id sz n l h]
 |.pel _ _ _ _,h=>by cases h
 |.ptr _ _,h=>by cases h
 |.csl _ _ _,h=>by cases h
 |.row _,h=>by cases h
 |.rtl _ _,h=>by cases h
 |.mp _,h=>by cases h
 |.clo _ _,h=>by cases h
theorem BB (id sz n:Nat):∀ l:List TV,qx l=ai->Cr id sz n l=l
 |[],_=>rfl
 |x::r,h=>by
  simp only[qx,av] at h;simp only[Cr];rw[Ms id sz n x h.1,BB id sz n r h.2]
end
section subs
variable {id sz n:Nat} {h h':bk}
mutual
theorem NR (hr:ch h h') (hid:eJ h' id=af (aj,sz,n)):∀ (v:TV) (y:AV),ci h v=af y->ci h' (Ll id sz n v)=af y
 |.csl i s m,y,he=>by
  simp only[ci,ak] at he;subst he;simp only[Ll];split
  .rename_i hq;simp only[av] at hq;have e1:=aw hq.1.1;have e2:=aw hq.1.2;have e3:=aw hq.2;subst e1;subst e2;subst e3;simp only[ci,hid,fA,nB,cz,eo]
  .rfl
 |.agg l,y,he=>by
  simp only[ci] at he;cases hl:cL h l with
  |none=>rw[hl] at he;cases he
  |some l'=>rw[hl] at he;simp only[Ll,ci,wh hr hid l l' hl];exact he
 |.tup l,y,he=>by
  simp only[ci] at he;cases hl:cL h l with
  |none=>rw[hl] at he;cases he
  |some l'=>rw[hl] at he;simp only[Ll,ci,wh hr hid l l' hl];exact he
 |.clo g l,y,he=>by
  simp only[ci] at he;cases hl:cL h l with
  |none=>rw[hl] at he;cases he
  |some l'=>rw[hl] at he;simp only[Ll,ci,wh hr hid l l' hl];exact he
 |.f T v,y,he=>gE hr _ _ he
 |.fel T xs j hj off,y,he=>gE hr _ _ he
 |.pel _ _ _ _,y,he=>gE hr _ _ he
 |.ptr _ _,y,he=>gE hr _ _ he
 |.row _,y,he=>gE hr _ _ he
 |.rtl _ _,y,he=>gE hr _ _ he
 |.emp,y,he=>gE hr _ _ he
 |.nil,y,he=>gE hr _ _ he
 |.mp _,y,he=>gE hr _ _ he
 |.undef,y,he=>gE hr _ _ he
 |.np,y,he=>gE hr _ _ he
 |.anyb,y,he=>gE hr _ _ he
theorem wh (hr:ch h h') (hid:eJ h' id=af (aj,sz,n)):∀ (l:List TV) (l':List AV),cL h l=af l'->cL h' (Cr id sz n l)=af l'
 |[],l',he=>by simp only[cL,ak] at he;subst he;rfl
 |x::r,l',he=>by
  obtain⟨y,l2,rfl,h1,h2⟩:=cX he;simp only[Cr];exact o8 (NR hr hid x y h1) (wh hr hid r l2 h2)
end
end subs
theorem ale {φ:PM} {s:TS} {a:Act} {w:World} (c:oP P E nt np φ s a w) {T:Ty} {id sz n:Nat} {s':TS} (hp:pkS s T id sz n=af s'):oP P E nt np φ s' a w/\Cj np φ φ (bC s.h) (bC s'.h) w w/\gw 0 s.e s'.e:=by
 unfold pkS at hp;split at hp
 .rename_i ty l hb;split at hp
  .rename_i hs;have hs:=aw hs;subst hs;split at hp
   .rename_i xs m hpk;split at hp
    .cases hp
    .rename_i hmid;simp only[ak] at hp;subst hp;have hm:dV s.h m:=N6 n l xs m hpk;obtain⟨l',hl⟩:=fy s.h l (c.invH.cells id ty l hb);have hidlt:=c.invH.low id _ hb;have nX:∀ i,((PT.updI (λ_ b=>XP id T.size n b) 1 0 (eK m s.h)).set id (af (.rows ty aj T xs))).get i=if i=id then af (.rows ty aj T xs) else if aN m i then (s.h.get i).map vk else (s.h.get i).map (XP id T.size n):=λi=>by
      rw[PT.get_set];by_cases e:i=id
      .rw[aE e,aE e]
      .rw[aA e,aA e,PT.get_updI,jd];split
       .cases hg:s.h.get i with
        |none=>rfl
        |some b=>cases b<;>rfl
       .rfl
     generalize hH2:((PT.updI (λ_ b=>XP id T.size n b) 1 0 (eK m s.h)).set id (af (.rows ty aj T xs)))=h2 at nX ⊢;have hr:ch s.h h2:=λi r hi=>by
      rw[bU] at hi ⊢;rw[nX];by_cases e:i=id
      .subst e;rw[hb] at hi;cases hi
      .rw[aA e];cases hg:s.h.get i with
       |none=>rw[hg] at hi;cases hi
       |some b=>
        rw[hg] at hi;split
        .exact Mw hi
        .cases b<;>first|exact hi|cases hi
     have hnone:∀ i,aN m i=ai->bC h2 (nm i)=ah:=λi hi=>by
      have e:i≠id:=λe=>by subst e;exact hmid hi
      obtain⟨ty',p',T',xs',J⟩:=hm i hi;rw[bM,nX,aA e,aE hi,J];rfl
     have hdom:vF (bC s.h) (bC h2):=λq b hq=>by
      obtain⟨i,cc,rfl,I,h4⟩:=jC hq;rw[bM];rw[nX] at I;by_cases e:i=id
      .subst e;rw[hb];simp only[aH,kE,hl];exact⟨_,rfl⟩
      .rw[aA e] at I;cases hg:s.h.get i with
       |none=>rw[hg] at I;split at I<;>cases I
       |some b0=>
        rw[hg] at I;split at I
        .simp only[b_,ak] at I;subst I;cases b0<;>simp[vk,kE] at h4
        .simp only[b_,ak] at I;subst I;simp only[aH];cases b0 with
         |cells ty0 l0=>
          obtain⟨l0',U⟩:=fy s.h l0 (c.invH.cells i ty0 l0 hg);exact⟨⟨ty0,.mx l0'⟩,by simp only[kE,U]⟩
         |rows=>exact⟨_,h4⟩
         |dead=>exact⟨_,h4⟩
         |mp=>exact⟨_,h4⟩
     have giv:Eb s.h (bC s.h) (bC h2) m:=λi hi=>⟨rfl,hnone i hi⟩
     obtain⟨hle,hlen⟩:=CJ hdom n l xs m l' hpk hl giv;have hrow:eJ h2 id=af (aj,T.size,n):=by rw[bU,nX,aE rfl,<-hlen];rfl
     have hV:KP (bC s.h) (bC h2):=⟨hdom,λq b b' I h4=>by
      obtain⟨i,cc,rfl,Z,h6⟩:=jC h4;rw[bM] at I;rw[nX] at Z;by_cases e:i=id
      .subst e;rw[aE rfl] at Z;cases Z;rw[hb] at I;simp only[aH,kE,hl,ak] at I;subst I;simp only[kE,nB,cz,eo,ak] at h6;subst h6;refine j9.cells rfl rfl hle λx J=>?_
       simp only[BC.toMx] at J;obtain⟨q,hq,rfl⟩:=dt.1 J;exact rH T _ q hq
      .rw[aA e] at Z;cases hg:s.h.get i with
       |none=>rw[hg] at Z;split at Z<;>cases Z
       |some b0=>
        rw[hg] at Z I;split at Z
        .simp only[b_,ak] at Z;subst Z;cases b0<;>simp[vk,kE] at h6
        .simp only[b_,ak] at Z;subst Z;have:b=b':=by
          simp only[aH] at I;cases b0 with
          |cells ty0 l0=>
           obtain⟨l0',U⟩:=fy s.h l0 (c.invH.cells i ty0 l0 hg);simp only[kE,U,ak] at I;simp only[XP,kE,wh hr hrow l0 l0' U,ak] at h6;rw[<- I,<-h6]
          |rows ty1 p1 T1 xs1=>
           have h3':kE h2 (.rows ty1 p1 T1 xs1)=af b:=I;exact iV (h3'.symm.trans h6)
          |dead p1 s1 n1=>
           have h3':kE h2 (.dead p1 s1 n1)=af b:=I;exact iV (h3'.symm.trans h6)
          |mp K1 V1 es1=>
           have h3':kE h2 (.mp K1 V1 es1)=af b:=I;exact iV (h3'.symm.trans h6)
         subst this;exact j9.refl hdom b⟩
     refine ⟨⟨hV.rep c.rep,?_,c.dom,c.low,⟨λi ty' l2 hg=>?_,λi b hg=>?_⟩,?_,c.inert,c.size⟩,⟨K6.refl _ _,λk _ hk=>hdom.own hk,λ_ _=>rfl⟩,?_⟩
     .intro t x J;simp only[fV,PT.get_updI] at J;cases he:s.e.get t with
      |none=>rw[he] at J;cases J
      |some v=>
       rw[he] at J;obtain⟨z,hz⟩:=qd s.h v (c.invE t v he);simp only[b_,aH,NR hr hrow v z hz,ak] at J;subst J;exact (c.env t _ (by simp only[fV,he,aH,hz])).dom hdom
     .rw[nX] at hg;by_cases e:i=id
      .rw[aE e] at hg;cases hg
      .rw[aA e] at hg;cases Y:s.h.get i with
       |none=>rw[Y] at hg;split at hg<;>cases hg
       |some b0=>
        rw[Y] at hg;split at hg
        .simp only[b_,ak] at hg;cases b0<;>simp[vk] at hg
        .simp only[b_,ak] at hg;cases b0 with
         |cells ty0 l0=>
          simp only[XP,iz.cells.injEq] at hg;obtain⟨_,rfl⟩:=hg;obtain⟨l0',U⟩:=fy s.h l0 (c.invH.cells i ty0 l0 Y);exact kP _ _ _ (wh hr hrow l0 l0' U)
         |_=>cases hg
     .rw[nX] at hg;by_cases e:i=id
      .subst e;exact hidlt
      .rw[aA e] at hg;cases Y:s.h.get i with
       |none=>rw[Y] at hg;split at hg<;>cases hg
       |some b0=>exact c.invH.low i b0 Y
     .intro t x J;simp only[PT.get_updI] at J;cases he:s.e.get t with
      |none=>rw[he] at J;cases J
      |some v=>
       rw[he] at J;simp only[b_,ak] at J;subst J;obtain⟨z,hz⟩:=qd s.h v (c.invE t v he);exact E_ _ _ _ (NR hr hrow v z hz)
     .intro k _ v' M;simp only[PT.get_updI] at M;cases he:s.e.get k with
      |none=>rw[he] at M;cases M
      |some v=>
       rw[he] at M;simp only[b_,ak] at M;subst M;exact⟨v,rfl,λhf=>Ms _ _ _ v hf⟩
   .cases hp
  .cases hp
 .cases hp
theorem ala {φ:PM} {s:TS} {a:Act} {w:World} (c:oP P E nt np φ s a w) {k off:Nat} {s':TS} (h:Px s (.ren k off)=af s'):∃ φ',oP P E nt np φ' s' a w/\Cj np φ φ' (bC s.h) (bC s'.h) w w/\gw (oA [.ren k off] 0) s.e s'.e:=by
 simp only[Px] at h;split at h
 .rename_i b o hk;split at h
  .rename_i cty l hb;split at h
   .rename_i id hv;split at h
    .rename_i ty p T xs J;simp only[ak] at h;subst h;have hfr:=c.invH.fresh;have hidlt:=c.invH.low id _ J;have hblt:=c.invH.low b _ hb;have hbid:b≠id:=λe=>by rw[e,J] at hb;cases hb
     have hbn:b≠s.nx:=by omega
     have hin:id≠s.nx:=by omega
     generalize hh2:(((s.h.set id (af (.dead p T.size xs.length))).set s.nx (af (.rows ty p T xs))).set b (af (.cells cty (splice l (o+off) [.row s.nx]))))=h2;have nX:∀ i,h2.get i=if i=b then af (.cells cty (splice l (o+off) [.row s.nx])) else if i=s.nx then af (.rows ty p T xs) else if i=id then af (.dead p T.size xs.length) else s.h.get i:=λi=>by
      rw[<- hh2,PT.get_set,PT.get_set,PT.get_set]
     have hr:ch s.h h2:=λi r hi=>by
      rw[bU] at hi ⊢;rw[nX];by_cases e1:i=b
      .subst e1;rw[hb] at hi;cases hi
      .rw[aA e1];by_cases e2:i=s.nx
       .subst e2;rw[hfr] at hi;cases hi
       .rw[aA e2];by_cases e3:i=id
        .subst e3;rw[aE rfl];rw[J] at hi;exact hi
        .rw[aA e3];exact hi
     have hlo:=c.invH.cells b cty l hb;obtain⟨Z,hl'⟩:=fy s.h l hlo;have hrow:ci h2 (.row s.nx)=af (fA p s.nx T.size xs.length):=by
      simp only[ci,bU,nX];rw[aA hbn.symm];simp only[bG,aH,mH]
     have hsp:cL h2 (splice l (o+off) [.row s.nx])=af (splice Z (o+off) [fA p s.nx T.size xs.length]):=sC _ (hX hr _ _ hl') (by simp only[cL,hrow]);obtain⟨y,hy,hey⟩:=l9 hl' _ _ hv;have hy0:y=fA p id T.size xs.length:=by
      simp only[ci,bU,J,aH,mH,ak] at hey;exact hey.symm
     subst hy0;have hold:bC s.h (nm b)=af ⟨cty,.mx Z⟩:=by rw[bM,hb];simp only[aH,kE,hl']
     have hnew:bC h2 (nm b)=af ⟨cty,.mx (splice Z (o+off) [fA p s.nx T.size xs.length])⟩:=by
      rw[bM,nX,aE rfl];simp only[aH,kE,hsp]
     have hdead:bC h2 (nm id)=ah:=by rw[bM,nX,aA hbid.symm,aA hin,aE rfl];rfl
     have hnx2:bC h2 (nm s.nx)=if p&&xs.length==0 then ah else af ⟨ty,.fz (xs.flatMap (bS T))⟩:=by rw[bM,nX,aA hbn.symm,aE rfl];rfl
     have hid0:bC s.h (nm id)=if p&&xs.length==0 then ah else af ⟨ty,.fz (xs.flatMap (bS T))⟩:=by rw[bM,J];rfl
     have hoth:∀ n,n≠nm b->n≠nm s.nx->n≠nm id->bC h2 n=bC s.h n:=λn e1 e2 e3=>kQ c.invH hr λi e=>by
      subst e;rw[nX,aA (λe=>e1 (by rw[e])),aA (λe=>e2 (by rw[e])),aA (λe=>e3 (by rw[e]))]
     have hnb:nm b≠nm s.nx:=λe=>hbn (kV e)
     have hbi:nm b≠nm id:=λe=>hbid (kV e)
     have hni:nm s.nx≠nm id:=λe=>hin (kV e).symm
     have hinv:mc h2 (s.nx+1):=by
      refine ⟨λi ty2 l2 hil=>?_,λi q hiq=>?_⟩
      .rw[nX] at hil;split at hil
       .simp only[ak,iz.cells.injEq] at hil;obtain⟨_,rfl⟩:=hil;exact kP _ _ _ hsp
       .split at hil
        .cases hil
        .split at hil
         .cases hil
         .exact i_ hr l2 (c.invH.cells i ty2 l2 hil)
      .rw[nX] at hiq;split at hiq
       .omega
       .split at hiq
        .omega
        .split at hiq
         .omega
         .have:=c.invH.low i q hiq;omega
     have hE:∀ t x,fV s.e h2 t=af x->fV s.e s.h t=af x:=λt x I=>by
      simp only[fV] at I ⊢;cases he:s.e.get t with
      |none=>rw[he] at I;cases I
      |some q=>
       rw[he] at I;obtain⟨z,hz⟩:=qd s.h q (c.invE t q he);simp only[aH,gE hr q z hz,ak] at I;subst I;simp only[aH,hz]
     by_cases hp:(p&&xs.length==0)=ai
     ·
      have Y:bC h2=bC s.h:=by
       funext n;by_cases e1:n=nm b
       .subst e1;rw[hold,hnew];have:fA p s.nx T.size xs.length=fA p id T.size xs.length:=by unfold fA;rw[aE hp,aE hp]
        rw[this,yU hy]
       .by_cases e2:n=nm s.nx
        .subst e2;rw[hnx2,aE hp,bM,hfr];rfl
        .by_cases e3:n=nm id
         .subst e3;rw[hdead,hid0,aE hp]
         .exact hoth n e1 e2 e3
      refine ⟨φ,⟨by rw[Y];exact c.rep,λt x I=>by rw[Y];exact c.env t x (hE t x I),λn q hq=>Ae (c.dom n q hq),iD c.low,hinv,λt x I=>oF hr x (c.invE t x I),c.inert,c.size⟩,by rw[Y];exact Cj.refl _ _ _ _,gw.refl _ _⟩
     .have hid1:bC s.h (nm id)=af ⟨ty,.fz (xs.flatMap (bS T))⟩:=by rw[hid0,aA hp]
      obtain⟨kk,k1,k2,ob,k3,k4⟩:=c.rep.at_ _ _ hid1;have hφn:φ (nm s.nx)=ah:=by
       cases hq:φ (nm s.nx) with
       |none=>rfl
       |some q=>have:=c.dom _ q hq;rw[em] at this;omega
      let nw:HF:=λn=>if n=nm s.nx then af ⟨ty,.fz (xs.flatMap (bS T))⟩ else ah
      have hsh:Fw w w kk ob:=⟨rfl,rfl,rfl,rfl,k3,λ_ _=>rfl,λ_=>rfl⟩
      obtain⟨φ',p1,p2,p3,p4⟩:=c.rep.wren hid1 k1 hφn hsh k4 nw (by simp[nw]) (by simp only[nw];rw[aA hni.symm]);have hb1:eX (bC s.h) [nm s.nx,nm id] nw (nm b)=af ⟨cty,.mx Z⟩:=by
       unfold eX;rw[aA (by simp[hnb,hbi]),hold]
      obtain⟨kb,b1,b2,ob2,b3,b4⟩:=p4.at_ _ _ hb1;have hlt:o+off<Z.length:=by
       rcases b7 (o+off) Z.length with h'|h'
       .exact h'
       .rw[bR h'] at hy;cases hy
      have hob:jy φ' (tot E φ' (eX (bC s.h) [nm s.nx,nm id] nw)) w ⟨cty,.mx (splice Z (o+off) [fA p s.nx T.size xs.length])⟩ ob2:=by
       rw[pG rfl] at b4 ⊢;obtain⟨arr,a1,a2⟩:=b4;refine ⟨arr,a1,?_⟩;unfold vG at a2 ⊢;refine ⟨by simp only[BC.len] at a2 ⊢;rw[oC (by simp;omega)];exact a2.1,λj x I=>?_⟩;simp only[BC.get] at I a2;rw[mG (by simp;omega)] at I;split at I
       .exact a2.2 j x I
       .split at I
        .rename_i h3 M;simp only[dR] at M;have hj:j=o+off:=by omega
         subst hj;simp only[HG,qQ,ak] at I;subst I;obtain⟨_,v,a3,a4⟩:=a2.2 _ _ hy;unfold fA at a4 ⊢;rw[aA hp] at a4 ⊢;refine ⟨rfl,v,a3,?_⟩;cases a4 with
         |@row _ _ _ cc q hφq hn hc hs2=>
          have:=p2.sub _ _ k1;rw[this,ak] at hφq;subst hφq;exact .row p1 hn hc hs2
        .exact a2.2 j x I
      obtain⟨q1,q2⟩:=p4.wset hb1 b1 (⟨rfl,rfl,rfl,rfl,b3,λ_ _=>rfl,λ_=>rfl⟩:Fw w w kb ob2) hob (λn=>if n=nm b then af ⟨cty,.mx (splice Z (o+off) [fA p s.nx T.size xs.length])⟩ else ah) (by simp);have Y:eX (eX (bC s.h) [nm s.nx,nm id] nw) [nm b] (λn=>if n=nm b then af ⟨cty,.mx (splice Z (o+off) [fA p s.nx T.size xs.length])⟩ else ah)=bC h2:=by
       funext n;by_cases e1:n=nm b
       .subst e1;rw[hnew];simp[eX]
       .by_cases e2:n=nm s.nx
        .subst e2;rw[hnx2,aA hp];simp[eX,nw,hnb.symm]
        .by_cases e3:n=nm id
         .subst e3;rw[hdead];simp[eX,nw,hbi.symm,hni.symm]
         .rw[hoth n e1 e2 e3];simp[eX,e1,e2,e3]
      rw[Y] at q1 q2;have m:=p2.trans q1;refine ⟨φ',⟨q2,λt x I=>m.keep (c.env t x (hE t x I)),λn q hq=>?_,iD c.low,hinv,λt x I=>oF hr x (c.invE t x I),c.inert,c.size⟩,⟨K6.refl _ _,m.own_,λi hi=>?_⟩,gw.refl _ _⟩
      .rcases p3 n q hq with M|M
       .exact Ae (c.dom n q M)
       .simp only[aL] at M;subst M;rw[em];exact qO _
      .cases hq:φ' (nm i) with
       |none=>
        cases hq2:φ (nm i) with
        |none=>rfl
        |some z=>rw[p2.sub _ _ hq2] at hq;cases hq
       |some z=>
        rcases p3 _ _ hq with M|M
        .exact M.symm
        .simp only[aL] at M;have:=kV M;have:=c.low;omega
    .cases h
   .cases h
  .cases h
 .rename_i id hk;split at h
  .rename_i ty p T xs J;simp only[ak] at h;subst h;have hfr:=c.invH.fresh;have hidlt:=c.invH.low id _ J;have hin:id≠s.nx:=by omega
   generalize hh2:((s.h.set id (af (.dead p T.size xs.length))).set s.nx (af (.rows ty p T xs)))=h2;have nX:∀ i,h2.get i=if i=s.nx then af (.rows ty p T xs) else if i=id then af (.dead p T.size xs.length) else s.h.get i:=λi=>by
    rw[<- hh2,PT.get_set,PT.get_set]
   have hr:ch s.h h2:=λi r hi=>by
    rw[bU] at hi ⊢;rw[nX];by_cases e2:i=s.nx
    .subst e2;rw[hfr] at hi;cases hi
    .rw[aA e2];by_cases e3:i=id
     .subst e3;rw[aE rfl];rw[J] at hi;exact hi
     .rw[aA e3];exact hi
   have hrow:ci h2 (.row s.nx)=af (fA p s.nx T.size xs.length):=by
    simp only[ci,bU,nX,bG,aH,mH]
   have hrow0:ci s.h (.row id)=af (fA p id T.size xs.length):=by
    simp only[ci,bU,J,aH,mH]
   have hdead:bC h2 (nm id)=ah:=by rw[bM,nX,aA hin,aE rfl];rfl
   have hnx2:bC h2 (nm s.nx)=if p&&xs.length==0 then ah else af ⟨ty,.fz (xs.flatMap (bS T))⟩:=by rw[bM,nX,aE rfl];rfl
   have hid0:bC s.h (nm id)=if p&&xs.length==0 then ah else af ⟨ty,.fz (xs.flatMap (bS T))⟩:=by rw[bM,J];rfl
   have hoth:∀ n,n≠nm s.nx->n≠nm id->bC h2 n=bC s.h n:=λn e2 e3=>kQ c.invH hr λi e=>by
    subst e;rw[nX,aA (λe=>e2 (by rw[e])),aA (λe=>e3 (by rw[e]))]
   have hni:nm s.nx≠nm id:=λe=>hin (kV e).symm
   have hinv:mc h2 (s.nx+1):=by
    refine ⟨λi ty2 l2 hil=>?_,λi q hiq=>?_⟩
    .rw[nX] at hil;split at hil
     .cases hil
     .split at hil
      .cases hil
      .exact i_ hr l2 (c.invH.cells i ty2 l2 hil)
    .rw[nX] at hiq;split at hiq
     .omega
     .split at hiq
      .omega
      .have:=c.invH.low i q hiq;omega
   have hE:∀ t x,t≠k->fV (s.e.set k (af (.row s.nx))) h2 t=af x->fV s.e s.h t=af x:=λt x ht I=>by
    simp only[fV,PT.get_set] at I ⊢;rw[aA ht] at I;cases he:s.e.get t with
    |none=>rw[he] at I;cases I
    |some q=>
     rw[he] at I;obtain⟨z,hz⟩:=qd s.h q (c.invE t q he);simp only[aH,gE hr q z hz,ak] at I;subst I;simp only[aH,hz]
   have hIE:tQ (s.e.set k (af (.row s.nx))) h2:=λt x I=>by
    simp only[PT.get_set] at I;split at I
    .cases I;exact E_ _ _ _ hrow
    .exact oF hr x (c.invE t x I)
   have hKp:gw (oA [.ren k off] 0) s.e (s.e.set k (af (.row s.nx))):=λt ht v' hv'=>by
    simp only[PT.get_set] at hv';split at hv'
    .rename_i et;subst et;simp only[oA] at ht;rw[bu,bX.2 rfl] at ht;simp at ht
    .exact⟨v',hv',λ_=>rfl⟩
   have U:=c.env k (fA p id T.size xs.length) (by simp only[fV,hk,aH,hrow0]);by_cases hp:(p&&xs.length==0)=ai
   .have Y:bC h2=bC s.h:=by
     funext n;by_cases e2:n=nm s.nx
     .subst e2;rw[hnx2,aE hp,bM,hfr];rfl
     .by_cases e3:n=nm id
      .subst e3;rw[hdead,hid0,aE hp]
      .exact hoth n e2 e3
    have hsame:fA p s.nx T.size xs.length=fA p id T.size xs.length:=by unfold fA;rw[aE hp,aE hp]
    refine ⟨φ,⟨by rw[Y];exact c.rep,λt x I=>?_,λn q hq=>Ae (c.dom n q hq),iD c.low,hinv,hIE,c.inert,c.size⟩,by rw[Y];exact Cj.refl _ _ _ _,hKp⟩;rw[Y];by_cases ht:t=k
    .subst ht;simp only[fV,PT.get_set,bG,aH,hrow,ak] at I;subst I;rw[hsame];exact U
    .exact c.env t x (hE t x ht I)
   .have hid1:bC s.h (nm id)=af ⟨ty,.fz (xs.flatMap (bS T))⟩:=by rw[hid0,aA hp]
    obtain⟨kk,k1,k2,ob,k3,k4⟩:=c.rep.at_ _ _ hid1;have hφn:φ (nm s.nx)=ah:=by
     cases hq:φ (nm s.nx) with
     |none=>rfl
     |some q=>have:=c.dom _ q hq;rw[em] at this;omega
    let nw:HF:=λn=>if n=nm s.nx then af ⟨ty,.fz (xs.flatMap (bS T))⟩ else ah
    have hsh:Fw w w kk ob:=⟨rfl,rfl,rfl,rfl,k3,λ_ _=>rfl,λ_=>rfl⟩
    obtain⟨φ',p1,p2,p3,p4⟩:=c.rep.wren hid1 k1 hφn hsh k4 nw (by simp[nw]) (by simp only[nw];rw[aA hni.symm]);have Y:eX (bC s.h) [nm s.nx,nm id] nw=bC h2:=by
     funext n;by_cases e2:n=nm s.nx
     .subst e2;rw[hnx2,aA hp];simp[eX,nw]
     .by_cases e3:n=nm id
      .subst e3;rw[hdead];simp[eX,nw,hni.symm]
      .rw[hoth n e2 e3];simp[eX,e2,e3]
    rw[Y] at p2 p4;refine ⟨φ',⟨p4,λt x I=>?_,λn q hq=>?_,iD c.low,hinv,hIE,c.inert,c.size⟩,⟨K6.refl _ _,p2.own_,λi hi=>?_⟩,hKp⟩
    .by_cases ht:t=k
     .subst ht;simp only[fV,PT.get_set,bG,aH,hrow,ak] at I;subst I;unfold fA at U ⊢;rw[aA hp] at U ⊢;generalize a.tmps.getD t undef=z at U;cases U with
      |@row _ _ _ cc q hφq hn hc hs2=>
       rw[k1,ak] at hφq;subst hφq;exact .row p1 hn hc hs2
     .exact p2.keep (c.env t x (hE t x ht I))
    .rcases p3 n q hq with M|M
     .exact Ae (c.dom n q M)
     .simp only[aL] at M;subst M;rw[em];exact qO _
    .cases hq:φ' (nm i) with
     |none=>
      cases hq2:φ (nm i) with
      |none=>rfl
      |some z=>rw[p2.sub _ _ hq2] at hq;cases hq
     |some z=>
      rcases p3 _ _ hq with M|M
      .exact M.symm
      .simp only[aL] at M;have:=kV M;have:=c.low;omega
  .cases h
 .cases h
theorem aj2 {φ:PM} {s:TS} {a:Act} {w:World} (c:oP P E nt np φ s a w) {Z:Adj} {s':TS} (h:Px s Z=af s') (hnr:∀ k off,Z≠ .ren k off):oP P E nt np φ s' a w/\Cj np φ φ (bC s.h) (bC s'.h) w w/\gw (oA [Z] 0) s.e s'.e:=by
 cases Z with
 |ren k off=>exact cV rfl (hnr k off)
 |nil k ty T=>
  simp only[Px] at h;split at h
  .rename_i v hv;split at h
   .rename_i hn;simp only[ak] at h;subst h;obtain⟨J,M,hr⟩:=Xy c ty T;refine ⟨⟨J.rep,?_,J.dom,J.low,J.invH,?_,J.inert,J.size⟩,by rw[M];exact Cj.refl _ _ _ _,?_⟩
    .intro t x I;simp only[fV,PT.get_set] at I;split at I
     .rename_i et;subst et;simp only[aH,ci,bU,PT.get_set,bG,mH,fA,jY,cS,iQ,ak] at I;subst I;obtain⟨z,Y⟩:=qd s.h v (c.invE _ v hv);rw[M];exact Rs hn Y _ _ _ _ (c.env _ _ (by simp only[fV,hv,aH,Y]))
     .exact J.env t x I
    .intro t x I;simp only[PT.get_set] at I;split at I
     .cases I;simp only[Lt,bU,PT.get_set,bG];rfl
     .exact J.invE t x I
    .intro t ht v' U;simp only[PT.get_set] at U;split at U
     .rename_i et;subst et;simp only[oA] at ht;rw[bu,bX.2 rfl] at ht;simp at ht
     .exact⟨v',U,λ_=>rfl⟩
   .simp only[ak] at h;subst h;exact⟨c,Cj.refl _ _ _ _,gw.refl _ _⟩
  .cases h
 |cel k off ty T=>
  simp only[Px] at h;split at h
  .rename_i id o hk;split at h
   .rename_i cty l hb;split at h
    .rename_i v hv;split at h
     .rename_i hn;simp only[ak] at h;subst h;obtain⟨J,M,hr⟩:=Xy c ty T;have hid:id≠s.nx:=λe=>by have:=c.invH.low id _ hb;omega
      obtain⟨c2,t2⟩:=ac4 J (id:=id) (cty:=cty) (l:=l) (v:=v) (u:=.row s.nx) (by show (s.h.set s.nx _).get id=_;rw[PT.get_set,aA hid];exact hb) hv hn (by simp only[ci,bU,PT.get_set,bG,aH,mH,fA,jY,cS,iQ]) (by simp only[Lt,bU,PT.get_set,bG];rfl);exact⟨c2,by rw[<- M];exact t2,gw.refl _ _⟩
     .simp only[ak] at h;subst h;exact⟨c,Cj.refl _ _ _ _,gw.refl _ _⟩
    .cases h
   .cases h
  .cases h
 |mpt k K V=>
  simp only[Px] at h;split at h
  .rename_i id hk;split at h
   .rename_i K' V' es hb;split at h
    .rename_i hE;simp only[ak] at h;subst h;have hr:ch s.h (s.h.set id (af (.mp K V []))):=ch.set λr hr=>by rw[bU,hb] at hr;cases hr
     have M:bC (s.h.set id (af (.mp K V [])))=bC s.h:=by
      funext n;by_cases hn:n=nm id
      .subst hn;rw[bM,bM,PT.get_set,aE rfl,hb];simp only[aH,kE,BV (aia (dN.1 hE).1),BV (dN.1 hE).2,Uh (dN.1 hE).1,List.map_nil]
      .refine kQ c.invH hr λi e=>?_
       subst e;rw[PT.get_set,aA (λe=>hn (by rw[e]))]
     refine ⟨⟨by rw[M];exact c.rep,?_,c.dom,c.low,c.invH.set hr (c.invH.low id _ hb) (bP _) (λ_ _ he=>by cases he),λt x I=>oF hr x (c.invE t x I),c.inert,c.size⟩,by rw[M];exact Cj.refl _ _ _ _,gw.refl _ _⟩;intro t x I;rw[M];simp only[fV] at I;cases he:s.e.get t with
     |none=>rw[he] at I;cases I
     |some q=>
      rw[he] at I;obtain⟨z,Y⟩:=qd s.h q (c.invE t q he);simp only[aH,gE hr q z Y,ak] at I;subst I;exact c.env t _ (by simp only[fV,he,aH,Y])
    .simp only[ak] at h;subst h;exact⟨c,Cj.refl _ _ _ _,gw.refl _ _⟩
   .cases h
  .cases h
 |pk k off T=>
  simp only[Px] at h;split at h
  .obtain⟨h1,h2,h3⟩:=ale c h;exact⟨h1,h2,h3.mono λk hk=>by simp at hk⟩
  .cases h
theorem aj1 {φ:PM} {s:TS} {a:Act} {w:World} (c:oP P E nt np φ s a w) {I:Adj} {s':TS} (h:Px s I=af s'):∃ φ',oP P E nt np φ' s' a w/\Cj np φ φ' (bC s.h) (bC s'.h) w w/\gw (oA [I] 0) s.e s'.e:=by
 by_cases hn:∃ k off,I= .ren k off
 .obtain⟨k,off,rfl⟩:=hn;exact ala c h
 .exact⟨φ,aj2 c h λk off e=>hn ⟨k,off,e⟩⟩
theorem VV {φ:PM} {a:Act} {w:World}:∀ {l:List Adj} {s s':TS},oP P E nt np φ s a w->YT s l=af s'->∃ φ',oP P E nt np φ' s' a w/\Cj np φ φ' (bC s.h) (bC s'.h) w w/\gw (oA l 0) s.e s'.e
 |[],s,s',c,h=>by simp only[YT,ak] at h;subst h;exact⟨φ,c,Cj.refl _ _ _ _,gw.refl _ _⟩
 |I::r,s,s',c,h=>by
  simp only[YT] at h;split at h
  .rename_i s1 h1;obtain⟨φ1,U,t1,k1⟩:=aj1 c h1;obtain⟨φ2,M,J,k2⟩:=VV U h;refine ⟨φ2,M,t1.trans J,(k1.mono ?_).trans (k2.mono ?_)⟩
   .intro k hk;cases I with
    |nil q ty T=>simp only[oA] at hk ⊢;rw[ma,bu,hk];rfl
    |cel q off ty T=>simp[oA] at hk
    |mpt q K V=>simp[oA] at hk
    |pk q off T=>simp[oA] at hk
    |ren q off=>simp only[oA] at hk ⊢;rw[ma,bu,hk];rfl
   .intro k hk;cases I with
    |nil q ty T=>simp only[oA];rw[ma,bu,hk];simp
    |cel q off ty T=>simp only[oA];exact hk
    |mpt q K V=>simp only[oA];exact hk
    |pk q off T=>simp only[oA];exact hk
    |ren q off=>simp only[oA];rw[ma,bu,hk];simp
  .cases h
mutual
theorem Rk {h:bk}:∀ (v:TV) (y:AV),ur v=ai->ci h v=af y->y.all (λ_=>aj)=ai
 |.f _ _,y,_,he=>by simp only[ci,ak] at he;subst he;rfl
 |.fel _ _ _ _ _,y,_,he=>by simp only[ci,ak] at he;subst he;rfl
 |.emp,y,_,he=>by simp only[ci,ak] at he;subst he;rfl
 |.nil,y,_,he=>by simp only[ci,ak] at he;subst he;rfl
 |.undef,y,_,he=>by simp only[ci,ak] at he;subst he;rfl
 |.np,y,_,he=>by simp only[ci,ak] at he;subst he;rfl
 |.anyb,y,_,he=>by simp only[ci,ak] at he;subst he;rfl
 |.agg l,y,hl,he=>by
  simp only[ci] at he;split at he
  .rename_i l' hl';simp only[ak] at he;subst he;exact E6 l l' hl hl'
  .cases he
 |.tup l,y,hl,he=>by
  simp only[ci] at he;split at he
  .rename_i l' hl';simp only[ak] at he;subst he;exact E6 l l' hl hl'
  .cases he
 |.pel _ _ _ _,_,h,_=>by cases h
 |.ptr _ _,_,h,_=>by cases h
 |.csl _ _ _,_,h,_=>by cases h
 |.row _,_,h,_=>by cases h
 |.rtl _ _,_,h,_=>by cases h
 |.mp _,_,h,_=>by cases h
 |.clo _ _,_,h,_=>by cases h
theorem E6 {h:bk}:∀ (l:List TV) (l':List AV),qx l=ai->cL h l=af l'->AV.allL (λ_=>aj) l'=ai
 |[],l',_,he=>by simp only[cL,ak] at he;subst he;rfl
 |x::r,l',hl,he=>by
  obtain⟨y,l2,rfl,e1,e2⟩:=cX he;simp only[qx,av] at hl;simp only[AV.allL,av];exact⟨Rk x y hl.1 e1,E6 r l2 hl.2 e2⟩
end
mutual
theorem WY (h:bk):∀ (v:TV),ur v=ai->Lt h v=ai
 |.f _ _,_=>rfl
 |.fel _ _ _ _ _,_=>rfl
 |.emp,_=>rfl
 |.nil,_=>rfl
 |.undef,_=>rfl
 |.np,_=>rfl
 |.anyb,_=>rfl
 |.agg l,hl=>Jr h l hl
 |.tup l,hl=>Jr h l hl
 |.pel _ _ _ _,h=>by cases h
 |.ptr _ _,h=>by cases h
 |.csl _ _ _,h=>by cases h
 |.row _,h=>by cases h
 |.rtl _ _,h=>by cases h
 |.mp _,h=>by cases h
 |.clo _ _,h=>by cases h
theorem Jr (h:bk):∀ (l:List TV),qx l=ai->kU h l=ai
 |[],_=>rfl
 |x::r,hl=>by
  simp only[qx,av] at hl;simp only[kU,av];exact⟨WY h x hl.1,Jr h r hl.2⟩
end
structure Seen (np:Nat) (t:Tm) (x:t.ty.den) (us:List TV) (h1:bk) (φ φ':PM) (H:HF) (E:Nat->Prop) (w:World) (la lu:List AV):Prop where
 rep:qY φ' E (bC h1) w
 val:∀ (j:Nat) y v,lu[j]? =af y->∃ z,la[j]? =af z/\(cM φ (tot E φ H) w z v->cM φ' (tot E φ' (bC h1)) w y v)
 len:lu.length=la.length
 tot_:∀ k,tot E φ' (bC h1) k->tot E φ H k
 own_:∀ k,own φ' (bC h1) k->own φ H k
 dom:∀ n k,φ' n=af k->ow n<t.bs.length
 par:∀ i,i<np->i<t.bs.length->φ' (nm i)=φ (nm i)
theorem Lo {t:Tm} {x:t.ty.den} {us:List TV} {h1:bk} {l1:List (Option iz)} (I:qL t x us h1 l1) {h:bk} {nx:Nat} (hinv:mc h nx) {vs:List TV} {m:Nat} {σ:PT Nat} {sm:Nat} (M:H8 np t vs h x m σ sm) {la:List AV} (hla:cL h vs=af la) {φ:PM} {w:World} (r:qY φ E (bC h) w):∃ φ' lu,cL h1 us=af lu/\Seen np t x us h1 φ φ' (bC h) E w la lu:=by
 obtain⟨x1,m1,x2,m2,hx,hmm,gv,gb⟩:=M.ex;have hmr:dV h m:=by rw[hmm];exact (HW _ _ _ _ gv).or (HY _ _ _ _ gb)
 have pvg:qb (ij σ) t.vs x1=af (kD (ij σ) us):=by
  have U:=tU (ij σ) t.vs x1;have J:=I.pv;rw[hx,tN] at J;rw[U,J];rfl
 have pbg:oE (ij σ) t.bs x2=af (l1.map (lO (lQ (ij σ)))):=by
  have U:=wn (ij σ) t.bs x2;have J:=I.pb;rw[hx,vb] at J;rw[U,J];rfl
 have hbm:∀ i b,l1[i]? =af (af b)->∃ b0,h.get (ij σ i)=af b0/\BM (ij σ) h m b0 (lQ (ij σ) b):=λi b hb=>by
  obtain⟨b0,Y,Z⟩:=Jp t.bs 0 x2 m2 _ gb pbg i (lQ (ij σ) b) (by rw[a8,hb];rfl);rw[bO] at Y;exact⟨b0,Y,Z.mono λj hj=>by rw[hmm,bu,hj];simp⟩
 let hv:bk:=AE (ij σ) 0 (l1.map (lO (lQ (ij σ)))) PT.leaf
 have hv_at:∀ i b,l1[i]? =af (af b)->hv.get (ij σ i)=af (lQ (ij σ) b):=λi b hb=>by
  have:=vj (ij σ) (l1.map (lO (lQ (ij σ)))) 0 PT.leaf (λa b ha hb=>by
   simp only[bY,I.len] at ha hb;simp only[bO];exact M.inj a b ha hb) i (af (lQ (ij σ) b)) (by rw[a8,hb];rfl)
  rw[bO] at this;exact this
 have hv_ex:∀ j c,hv.get j=af c->∃ i b,l1[i]? =af (af b)/\j=ij σ i/\c=lQ (ij σ) b:=λj c hj=>by
  by_cases hex:∃ i,i<l1.length/\j=ij σ i
  .obtain⟨i,hi,rfl⟩:=hex;have hcc:=aB hi;cases hcv:l1[i] with
   |some b=>rw[hcv] at hcc;rw[hv_at i b hcc] at hj;cases hj;exact⟨i,b,hcc,rfl,rfl⟩
   |none=>
    rw[hcv] at hcc;have:=vj (ij σ) (l1.map (lO (lQ (ij σ)))) 0 PT.leaf (λa b ha hb=>by
     simp only[bY,I.len] at ha hb;simp only[bO];exact M.inj a b ha hb) i ah (by rw[a8,hcc];rfl)
    rw[bO] at this;have hj':(AE (ij σ) 0 (l1.map (lO (lQ (ij σ)))) PT.leaf).get (ij σ i)=af c:=hj;rw[this] at hj';simp[PT.get] at hj'
  .have:hv.get j=(PT.leaf:bk).get j:=vi (ij σ) _ 0 _ j λk hk=>by
    simp only[bY] at hk;rw[bO];exact λe=>hex ⟨k,hk,e⟩
   rw[this] at hj;simp[PT.get] at hj
 have rows_in:xY hv h:=λj q hq=>by
  rw[bU] at hq ⊢;cases hc:hv.get j with
  |none=>rw[hc] at hq;cases hq
  |some c=>
   rw[hc] at hq;obtain⟨i,b,Y,rfl,rfl⟩:=hv_ex j c hc;obtain⟨b0,Z,q3⟩:=hbm i b Y;rw[Z];simp only[aH] at hq ⊢;rw[<- q3.row];exact hq
 have rows_h1:∀ i q,eJ h1 i=af q->eJ hv (ij σ i)=af q:=λi q hq=>by
  rw[bU] at hq ⊢;cases hb:h1.get i with
  |none=>rw[hb] at hq;cases hq
  |some b=>
   rw[hb] at hq;rw[hv_at i b ((I.at_ i b).1 hb)];simp only[aH,In] at hq ⊢;exact hq
 have hd:vF (bC h) (bC hv):=λn y hy=>by
  obtain⟨j,c,rfl,U,J⟩:=jC hy;obtain⟨i,b,Y,rfl,rfl⟩:=hv_ex j c U;obtain⟨b0,Z,q3⟩:=hbm i b Y;obtain⟨y0,hy0⟩:=BM.erB_some hinv Z q3 J;exact⟨y0,by rw[bM,Z];exact hy0⟩
 have gvv:Eb h (bC h) (bC hv) m:=λi hi=>⟨rfl,by
  cases hc:bC hv (nm i) with
  |none=>rfl
  |some y=>
   obtain⟨j,c,e,U,J⟩:=jC hc;have:=kV e;subst this;obtain⟨k,b,Y,rfl,rfl⟩:=hv_ex i c U;have hk:k<t.bs.length:=by rw[<- I.len];exact (bg.1 Y).1
   have h5:=M.disj _ hi;rw[(M.sig _).2 ⟨k,hk,rfl⟩] at h5;cases h5⟩
 have V:KP (bC h) (bC hv):=⟨hd,λn b b' hb hb'=>by
  obtain⟨j,c,rfl,U,J⟩:=jC hb';obtain⟨i,bb,Y,rfl,rfl⟩:=hv_ex j c U;obtain⟨b0,Z,q3⟩:=hbm i bb Y;rw[bM,Z] at hb;exact BM.view hd gvv rows_in q3 hb J⟩
 have rv:=V.rep r;have T:afq t x us h1 (ij σ) φ E E (bC hv) w:=by
  refine qY.toId I M.inj rv (λi b yb hb hyb=>?_) (λk hk=>.inl hk) (λi k b hi U J hE=>?_) rv.el
  .rw[bM,hv_at i b ((I.at_ i b).1 hb)];exact Dh rows_h1 hyb
  .obtain⟨k',p1,p2,_⟩:=rv.at_ _ _ U;rw[J] at p1;cases p1;exact p2 hE
 obtain⟨lu,hlu⟩:=fy h1 us I.ok;have hlug:cL hv (kD (ij σ) us)=af (AV.renL (HZ (ij σ)) lu):=qC rows_h1 us lu hlu;have hle:=Dc hd rows_in t.vs vs x1 m1 _ la _ gv pvg hla hlug (λi hi=>gvv i (by rw[hmm,bu,hi];rfl));have hall:=tK us lu I.lt hlu;refine ⟨_,lu,hlu,T.rep,λj y v hy=>?_,?_,λk hk=>hd.tot (T.tot_ k hk),λk hk=>hd.own (T.own_ k hk),λn k hk=>?_,λi hi hb=>?_⟩
 .rw[oD] at hle;obtain⟨z,hz,hlz⟩:=hle.get j (y.ren (HZ (ij σ))) (by rw[a8,hy];rfl);exact⟨z,hz,λhr=>T.val y v (l_ hall y (ba hy)) (hlz _ _ _ _ r hr)⟩
 .have:=hle.length;rw[oD,bY] at this;exact this
 .obtain⟨i,hi,rfl,_⟩:=xi hk;rw[em];exact hi
 .rw[ZF hb,M.fix i hi]
theorem Oh {φ:PM} {s':TS} {a:Act} {w:World} (c:oP P E nt np φ s' a w) {A:Zy} {am:Nat} {s0 s1:TS} {x:A.D} (J:LS np A am s0 s'=af x) (hs:G5 A am s0 x=af s1)
 (hk:∀ k,k∈A.keep->k∉A.ks->∀ v,s0.e.get k=af v->ur v=ai->aN am k=aj->∀ Z,s'.e.get k=af Z->Z=v):∃ φ',oP P E nt np φ' s1 a w/\Cj np φ φ' (bC s'.h) (bC s1.h) w w:=by
 unfold LS at J;split at J
 .rename_i hc;simp only[av] at hc;have hnp:=a_ hc.1;split at J
  .rename_i s2 h2;obtain⟨φ2,c2,t2,_⟩:=VV c h2;split at J
   .rename_i vs hvs;split at J
    .rename_i z m σ sm hM;simp only[ak] at J;subst J;have M:=wB hM;unfold G5 at hs;split at hs
     .rename_i us h1 hi;obtain⟨l1,I⟩:=wG hi;split at hs
      .rename_i hlen;have hlen:=aw hlen;simp only[ak] at hs;subst hs;obtain⟨g1,g2⟩:=WU hvs;have hvok:kU s2.h vs=ai:=IA c2.invE hvs;obtain⟨la,hla⟩:=fy s2.h vs hvok;obtain⟨φ',lu,hlu,S⟩:=Lo (E:=E) I c2.invH M hla c2.rep;refine ⟨φ',⟨S.rep,?_,S.dom,hnp,⟨λi ty l hl=>(I.cells i ty l hl).1,λi b hb=>I.lt_len hb⟩,?_,c.inert,c.size⟩,t2.trans ⟨K6.refl _ _,λk _ h=>S.own_ k h,λi hi=>S.par i hi (by omega)⟩⟩
       .intro t y U;simp only[fV] at U;cases ht:(XR (CZ am s0.e A.keep) A.ks us).get t with
        |none=>rw[ht] at U;cases U
        |some v=>
         rw[ht] at U;simp only[aH] at U;rcases Cv hlen t v ht with ⟨j,q1,Y⟩|⟨q1,Y⟩
         .obtain⟨y',p1,p2⟩:=l9 hlu j v Y;rw[U] at p2;cases p2;obtain⟨z,p3,p4⟩:=S.val j y (a.tmps.getD t undef) p1;refine p4 ?_;obtain⟨v0,p5,p6⟩:=g2 j t q1;obtain⟨z',p7,p8⟩:=l9 hla j v0 p5;rw[p3] at p7;cases p7;exact c2.env t _ (by simp only[fV,p6,aH,p8])
         .obtain⟨k1,k2,k3,k4⟩:=tX Y;obtain⟨Z,k5⟩:=IW hc.2 t v k1 k2 k3 k4;have:=hk t k1 q1 v k2 k3 k4 Z k5;subst this;have h3:=c.env t y (by simp only[fV,k5,aH];rw[Rt s'.h h1 Z k3];exact U);exact h3.restrict (p:=λ_=>aj) (λi k hi _=>by cases hi) (λk hk=>by
           have h4:=S.tot_ k hk;rcases h4 with h4|h4
           .exact .inl h4
           .exact .inr (by
             have hkl:k<w.heap.size:=by
              obtain⟨n,b,e1,e2⟩:=h4;obtain⟨k',p1,_,ob,p3,_⟩:=c2.rep.at_ n b e1;rw[e2] at p1;cases p1;exact (cF.1 p3).1
             exact t2.own_ k hkl h4)) (Rk Z y k3 U)
       .intro t v hv;rcases Cv hlen t v hv with ⟨j,q1,Y⟩|⟨q1,Y⟩
        .obtain⟨y',_,p2⟩:=l9 hlu j v Y;exact E_ _ _ _ p2
        .exact WY _ v (tX Y).2.2.1
      .cases hs
     .cases hs
    .cases J
   .cases J
  .cases J
 .cases J
theorem Ei {A:Zy} {am:Nat} {I s1:TS} {x:A.D} (hs:G5 A am I x=af s1):gw (Lw A.ks 0) I.e s1.e/\∀ k,k∉A.ks->∀ v,s1.e.get k=af v->I.e.get k=af v:=by
 unfold G5 at hs;split at hs
 .rename_i us h1 hi;split at hs
  .rename_i hlen;have hlen:=aw hlen;simp only[ak] at hs;subst hs;have key:∀ k,k∉A.ks->∀ v,(XR (CZ am I.e A.keep) A.ks us).get k=af v->I.e.get k=af v:=λk hk v hv=>by
    rcases Cv hlen k v hv with ⟨j,U,_⟩|⟨_,M⟩
    .exact cV (ba U) hk
    .exact (tX M).2.1
   refine ⟨λk hk J hv=>?_,key⟩;have hnk:k∉A.ks:=λhm=>by rw[WJ hm] at hk;cases hk
   exact⟨J,key k hnk J hv,λ_=>rfl⟩
  .cases hs
 .cases hs
end walk
inductive Er:TC->SC->Prop
 |skip:Er .skip .skip
 |reg (ops:List sI) (prs:List (Nat×Nat)):Er (.reg ops prs) (.reg ops prs)
 |seq {a b:TC} {a' b':SC}:Er a a'->Er b b'->Er (.seq a b) (.seq a' b')
 |jseq (A:Zy) {a b:TC} {a' b':SC}:Er a a'->Er b b'->Er (.jseq A a b) (.seq a' b')
 |cond (c:Nat) {a b:TC} {a' b':SC}:Er a a'->Er b b'->Er (.cond c a b) (.cond c a' b')
 |block (id:Nat) {b:TC} {b':SC}:Er b b'->Er (.block id b) (.block id b')
 |jblock (A:Zy) (id:Nat) {b:TC} {b':SC}:Er b b'->Er (.jblock A id b) (.block id b')
 |loop (A:Zy) {b:TC} {b':SC}:Er b b'->Er (.loop A b) (.loop b')
 |exit (id:Nat):Er (.exit id) (.exit id)
 |ret:Er .ret .ret
 |defer (f:FuncId) (c:List Operand) (t:Nat):Er (.defer f c t) (.defer f c t)
 |adj (l:List Adj) {c:TC} {c':SC}:Er c c'->Er (.adj l c) c'
 |split (k off lo n:Nat) {c:TC} {c':SC}:Er c c'->Er (.split k off lo n c) c'
 |unl (n:Nat) {b:TC} {b':SC}:Er b b'->Er (.unl n b) (.loop b')
 |bad (c:SC):Er .bad c
theorem Cl {H:PT acy} {n:Nat} {c:TC} {c':SC} (h:Er c c'):Er (Ib H n c) c':=by
 unfold Ib;split
 .exact .adj _ h
 .exact .split _ _ _ _ h
 .exact h
theorem xU (H:PT acy):∀ (c:SC) (n:Nat),Er (DJ H c n).1 c
 |.skip,n=>Cl .skip
 |.reg o p,n=>Cl (.reg o p)
 |.seq a b,n=>by
  have h1:=xU H a (n+1);have h2:=xU H b (DJ H a (n+1)).2;simp only[DJ];split
  .exact .jseq _ h1 h2
  .exact .seq h1 h2
 |.cond c a b,n=>by
  have h1:=xU H a (n+1);have h2:=xU H b (DJ H a (n+1)).2;simp only[DJ];exact Cl (.cond c h1 h2)
 |.block id b,n=>by
  have h1:=xU H b (n+1);simp only[DJ];split
  .exact .jblock _ id h1
  .exact .block id h1
 |.loop b,n=>by
  have h1:=xU H b (n+1);simp only[DJ];split
  .exact .loop _ h1
  .exact .unl _ h1
  .exact .bad _
 |.exit id,n=>Cl (.exit id)
 |.ret,n=>Cl .ret
 |.defer f c t,n=>.defer f c t
 |.bad,n=>.bad _
theorem X4 {σ R:Type} {step:σ->Option (σ⊕R)} {x:σ} {r:R} (h:iter step x=af r):∃ n,iterN step n x=af r:=by
 unfold iter at h;split at h
 .exact⟨_,h⟩
 .cases h
theorem WN {α R:Type} {o:Option (R⊕α)} {k:α->Option R} {r:R} (h:jn o k=af r):(∃ x,o=af (.inr x)/\k x=af r)\/o=af (.inl r):=by
 unfold jn at h;split at h
 .exact .inl ⟨_,rfl,h⟩
 .cases h;exact .inr rfl
 .cases h
section inv
variable {P:Program} {nt:Nat}
theorem zR (id:Nat) (ops:Array Oper) (I:Bool):cj P nt (.region id ops I)= .bad\/
 ((ops.toList.all λo=>match o.dst with|some d=>decide (d<nt)|none=>ai)=ai/\
   ((∃ f caps t,DI ops I=af (f,caps,t)/\cj P nt (.region id ops I)= .defer f caps t)\/
    ∃ l prs,r8 P ops ops.toList=af l/\MA ops l=af prs/\cj P nt (.region id ops I)= .reg l prs)):=by
 simp only[cj];split
 .rename_i hd;split
  .rename_i f caps t h;exact .inr ⟨hd,.inl ⟨f,caps,t,h,rfl⟩⟩
  .split
   .rename_i l hl;split
    .rename_i prs hp;exact .inr ⟨hd,.inr ⟨l,prs,hl,hp,rfl⟩⟩
    .exact .inl rfl
   .exact .inl rfl
 .exact .inl rfl
def Et:Code->Bool
 |.cond (.const (.bool _)) _ _=>aj
 |_=>ai
theorem kh (P:Program) (nt:Nat) (c:Code):∃ c',Et c'=ai/\cj P nt c'=cj P nt c/\∀ Q a w,c'.wp P Q a w->c.wp P Q a w:=by
 have self:∀ c:Code,Et c=ai->∃ c',Et c'=ai/\cj P nt c'=cj P nt c/\∀ Q a w,c'.wp P Q a w->c.wp P Q a w:=λc h=>⟨c,h,rfl,λ_ _ _ h=>h⟩
 induction c with
 |cond o x y ihx ihy=>
  cases o with
  |const v=>
   cases v with
   |bool b=>
    cases b with
    |true=>
     obtain⟨c',h1,h2,I⟩:=ihx;exact⟨c',h1,h2,λQ a w h=>wp_cond_true rfl (I Q a w h)⟩
    |false=>
     obtain⟨c',h1,h2,I⟩:=ihy;exact⟨c',h1,h2,λQ a w h=>wp_cond_false rfl (I Q a w h)⟩
   |_=>exact self _ rfl
  |_=>exact self _ rfl
 |_=>exact self _ rfl
theorem FP {α:Prop} {o:Operand} {x y:Code} {sc:SC} (hn:Et (.cond o x y)=ai) (h:cj P nt (.cond o x y)=sc) (h1:sc≠ .bad) (h2:∀ t a b,sc≠ .cond t a b):α:=by
 cases o with
 |tmp q=>exact (h2 _ _ _ h.symm).elim
 |const v=>cases v<;>first|exact (h1 h.symm).elim|cases hn
 |global g=>exact (h1 h.symm).elim
 |func f=>exact (h1 h.symm).elim
theorem aeg {c:Code} {sl:List sI} {prs:List (Nat×Nat)} (hn:Et c=ai) (h:cj P nt c= .reg sl prs):∃ id ops I,c= .region id ops I/\(ops.toList.all λo=>match o.dst with|some d=>decide (d<nt)|none=>ai)=ai/\r8 P ops ops.toList=af sl/\MA ops sl=af prs:=by
 cases c with
 |region id ops I=>
  rcases zR (P:=P) (nt:=nt) id ops I with h1|⟨hd,⟨f,caps,t,_,h1⟩|⟨l,p,h2,J,h1⟩⟩
  .rw[h1] at h;cases h
  .rw[h1] at h;cases h
  .rw[h1] at h;cases h;exact⟨id,ops,I,rfl,hd,h2,J⟩
 |cond o x y=>exact FP hn h (by simp) (by simp)
 |_=>simp[cj] at h
theorem X5 {c:Code} {f:FuncId} {caps:List Operand} {t:Nat} (hn:Et c=ai) (h:cj P nt c= .defer f caps t):∃ id ops I,c= .region id ops I/\(ops.toList.all λo=>match o.dst with|some d=>decide (d<nt)|none=>ai)=ai/\DI ops I=af (f,caps,t):=by
 cases c with
 |region id ops I=>
  rcases zR (P:=P) (nt:=nt) id ops I with h1|⟨hd,⟨f',caps',t',h2,h1⟩|⟨l,p,h2,J,h1⟩⟩
  .rw[h1] at h;cases h
  .rw[h1] at h;cases h;exact⟨id,ops,I,rfl,hd,h2⟩
  .rw[h1] at h;cases h
 |cond o x y=>exact FP hn h (by simp) (by simp)
 |_=>simp[cj] at h
theorem pj {c:Code} {sc:SC} (h:cj P nt c=sc) (h1:sc≠ .bad) (h2:∀ a b,sc≠ .reg a b) (M:∀ a b t,sc≠ .defer a b t):∀ id ops J,c≠ .region id ops J:=by
 rintro id ops J rfl;rcases zR (P:=P) (nt:=nt) id ops J with I|⟨_,⟨f,caps,t,_,I⟩|⟨l,p,_,_,I⟩⟩<;>rw[I] at h
 .exact h1 h.symm
 .exact M _ _ _ h.symm
 .exact h2 _ _ h.symm
theorem aaj {c:Code} (hn:Et c=ai) (h:cj P nt c= .skip):c= .skip:=by
 have I:=pj h (by simp) (by simp) (by simp);cases c with
 |skip=>rfl
 |region id ops J=>exact cV rfl (I id ops J)
 |cond o x y=>exact FP hn h (by simp) (by simp)
 |_=>simp[cj] at h
theorem aef {c:Code} (hn:Et c=ai) (h:cj P nt c= .ret):c= .ret:=by
 have I:=pj h (by simp) (by simp) (by simp);cases c with
 |ret=>rfl
 |region id ops J=>exact cV rfl (I id ops J)
 |cond o x y=>exact FP hn h (by simp) (by simp)
 |_=>simp[cj] at h
theorem aak {c:Code} {i:Nat} (hn:Et c=ai) (h:cj P nt c= .exit i):c= .exit i:=by
 have I:=pj h (by simp) (by simp) (by simp);cases c with
 |exit id=>simp[cj] at h;rw[h]
 |region id ops J=>exact cV rfl (I id ops J)
 |cond o x y=>exact FP hn h (by simp) (by simp)
 |_=>simp[cj] at h
theorem WO {c:Code} {a b:SC} (hn:Et c=ai) (h:cj P nt c= .seq a b):∃ x y,c= .seq x y/\cj P nt x=a/\cj P nt y=b:=by
 have I:=pj h (by simp) (by simp) (by simp);cases c with
 |seq x y=>simp[cj] at h;exact⟨x,y,rfl,h.1,h.2⟩
 |region id ops J=>exact cV rfl (I id ops J)
 |cond o x y=>exact FP hn h (by simp) (by simp)
 |_=>simp[cj] at h
theorem aal {c:Code} {t:Nat} {a b:SC} (hn:Et c=ai) (h:cj P nt c= .cond t a b):∃ x y,c= .cond (.tmp t) x y/\cj P nt x=a/\cj P nt y=b:=by
 have I:=pj h (by simp) (by simp) (by simp);cases c with
 |cond o x y=>
  cases o with
  |tmp q=>simp[cj] at h;obtain⟨rfl,h1,h2⟩:=h;exact⟨x,y,rfl,h1,h2⟩
  |const v=>cases v<;>first|(simp [cj] at h;done)|cases hn
  |_=>simp[cj] at h
 |region id ops J=>exact cV rfl (I id ops J)
 |_=>simp[cj] at h
theorem ML {c:Code} {id:Nat} {b:SC} (hn:Et c=ai) (h:cj P nt c= .block id b):∃ y,c= .block id y/\cj P nt y=b:=by
 have I:=pj h (by simp) (by simp) (by simp);cases c with
 |block i y=>simp[cj] at h;obtain⟨rfl,h1⟩:=h;exact⟨y,rfl,h1⟩
 |region id ops J=>exact cV rfl (I id ops J)
 |cond o x y=>exact FP hn h (by simp) (by simp)
 |_=>simp[cj] at h
theorem QJ {c:Code} {b:SC} (hn:Et c=ai) (h:cj P nt c= .loop b):∃ y,c= .loop y/\cj P nt y=b:=by
 have I:=pj h (by simp) (by simp) (by simp);cases c with
 |loop y=>simp[cj] at h;exact⟨y,rfl,h⟩
 |region id ops J=>exact cV rfl (I id ops J)
 |cond o x y=>exact FP hn h (by simp) (by simp)
 |_=>simp[cj] at h
end inv
def ahk {R:Type} (P:Program) (E:Nat->Prop) (nt np:Nat) (φ:PM) (s:TS) (w:World) (am:Nat) (K:Ex->TS->Option R) (r:R):Exit->Act->World->Prop:=
 λe a' w'=>∃ ex s' φ',e=ex.to/\K ex s'=af r/\oP P E nt np φ' s' a' w'/\Cj np φ φ' (bC s.h) (bC s'.h) w w'/\gw am s.e s'.e
theorem oP.bool {P:Program} {E:Nat->Prop} {nt np:Nat} {φ:PM} {s:TS} {a:Act} {w:World} (c:oP P E nt np φ s a w) {t:Nat} {b:Bool} (ht:s.e.get t=af (.f .bool b)):a.eval (.tmp t)= .bool b:=
 fB (c.env t _ (by simp only[fV,ht,aH,ci];rfl))
theorem oP.anyb {P:Program} {E:Nat->Prop} {nt np:Nat} {φ:PM} {s:TS} {a:Act} {w:World} (c:oP P E nt np φ s a w) {t:Nat} (ht:s.e.get t=af .anyb):∃ b,a.eval (.tmp t)= .bool b:=by
 have:=c.env t .anyb (by simp only[fV,ht,aH,ci]);show ∃ b,a.tmps.getD t undef= .bool b;generalize a.tmps.getD t undef=z at this;cases this with
 |anyb=>exact⟨_,rfl⟩
theorem YR {R:Type} {a b:Option R} {r:R} (h:Fq a b=af r):a=af r/\b=af r:=by
 unfold Fq at h;split at h
 .rename_i e;exact⟨h,by rw[<- e];exact h⟩
 .cases h
theorem ahz {P:Program} {E:Nat->Prop} {nt np:Nat} {con:FuncId->Option cu} {b9:TypeId->Option Ty} {inert:FuncId->Bool} (hm:P.follows .mixedOrders=ai) (hcon:K_ P con) (hin:K4 P inert):
 ∀ {tc:TC} {sc:SC},Er tc sc->∀ (c:Code),cj P nt c=sc->∀ (R:Type) (s:TS) (K:Ex->TS->Option R) (r:R),pd np con b9 inert tc s K=af r->∀ (φ:PM) (a:Act) (w:World),oP P E nt np φ s a w->c.wp P (ahk P E nt np φ s w (tc.asg 0) K r) a w:=by
 intro tc sc hE;induction hE with
 |skip=>
  intro c hc R s K r h φ a w g;obtain⟨c',hn,I,hsim⟩:=kh P nt c;refine hsim _ _ _ ?_;rw[<- I] at hc;rw[aaj hn hc];exact wp_skip ⟨.normal,s,φ,rfl,h,g,Cj.refl _ _ _ _,gw.refl _ _⟩
 |reg ops prs=>
  intro c hc R s K r h φ a w g;obtain⟨c',hn,I,hsim⟩:=kh P nt c;refine hsim _ _ _ ?_;rw[<- I] at hc;obtain⟨id,os,dr,rfl,h1,h2,h3⟩:=aeg hn hc;simp only[pd] at h;refine Z2 (K:=λs'=>K .normal s') hm hcon g (am:=Pt ops 0) (λj o d ho hd=>?_) h1 h2 h3 h λa' w' s' φ' Z J q3 q4=>⟨.normal,s',φ',rfl,Z,J,q3,q4⟩
  have hmem:o∈os.toList:=by have:=Array.mem_of_getElem? ho;simpa using this
  have key:∀ (rest:List Oper) (sl:List sI),r8 P os rest=af sl->∀ o∈rest,∃ so∈sl,so.dst=o.dst:=by
   intro rest;induction rest with
   |nil=>intro sl _ o ho;cases ho
   |cons x rest ih=>
    intro sl hsl o ho;simp only[r8] at hsl;split at hsl
    .rename_i l hl;have:∃ so,sl=so::l/\so.dst=x.dst:=by
      split at hsl
      .simp only[ak] at hsl;exact⟨_,hsl.symm,rfl⟩
      .split at hsl
       .simp only[ak] at hsl;exact⟨_,hsl.symm,rfl⟩
       .cases hsl
     obtain⟨so,rfl,hso⟩:=this;rcases bl.1 ho with rfl|ho
     .exact⟨so,by simp,hso⟩
     .obtain⟨q,hq,hq2⟩:=ih l hl o ho;exact⟨q,by simp[hq],hq2⟩
    .cases hsl
  obtain⟨so,hso,hd2⟩:=key os.toList ops h2 o hmem;exact SD hso (by rw[hd2];exact hd)
 |@seq x y x' y' _ _ ihx ihy=>
  intro c hc R s K r h φ a w g;obtain⟨c',hn,I,hsim⟩:=kh P nt c;refine hsim _ _ _ ?_;rw[<- I] at hc;obtain⟨cx,cy,rfl,h1,h2⟩:=WO hn hc;simp only[pd] at h;refine wp_seq (wp_mono (ihx cx h1 R s _ r h φ a w g) ?_);rintro e a' w' ⟨ex,s',φ',rfl,hk,g',st,M⟩;have kp':gw ((TC.seq x y).asg 0) s.e s'.e:=M.mono λk hk=>by simp only[TC.asg];exact kr hk
  cases ex with
  |normal=>
   refine wp_mono (ihy cy h2 R s' K r hk φ' a' w' g') ?_;rintro e2 a2 w2 ⟨ex2,s2,φ2,rfl,hk2,g2,ZU,kp2⟩;exact⟨ex2,s2,φ2,rfl,hk2,g2,st.trans ZU,kp'.trans (kp2.mono λk hk=>by simp only[TC.asg];exact vD hk)⟩
  |exit id=>exact⟨.exit id,s',φ',rfl,hk,g',st,kp'⟩
  |ret=>exact⟨.ret,s',φ',rfl,hk,g',st,kp'⟩
 |@jseq A x y x' y' _ _ ihx ihy=>
  intro c hc R s K r h φ a w g;obtain⟨c',hn,I,hsim⟩:=kh P nt c;refine hsim _ _ _ ?_;rw[<- I] at hc;obtain⟨cx,cy,rfl,h1,h2⟩:=WO hn hc;simp only[pd] at h;have sub1:∀ k,aN (x.asg 0) k=ai->aN ((TC.jseq A x y).asg 0) k=ai:=λk hk=>by simp only[TC.asg];exact kr (vD hk)
  have sub2:∀ k,aN (y.asg 0) k=ai->aN ((TC.jseq A x y).asg 0) k=ai:=λk hk=>by simp only[TC.asg];exact vD hk
  have sub3:∀ k,aN (Lw A.ks 0) k=ai->aN ((TC.jseq A x y).asg 0) k=ai:=λk hk=>by simp only[TC.asg];exact kr (kr hk)
  rcases WN h with ⟨d,h3,h4⟩|h3
  .refine wp_seq (wp_mono (ihx cx h1 _ s _ _ h3 φ a w g) ?_);rintro e a' w' ⟨ex,s',φ',rfl,hk,g',st,M⟩;cases ex with
   |normal=>
    simp only[] at hk;obtain⟨d',Z,J⟩:=dK hk;simp only[ak,Sum.inr.injEq] at J;subst J;split at h4
    .rename_i s1 Y;obtain⟨φ1,g1,Ij⟩:=Oh g' Z Y λk _ _ v hv hf ha v' U=>by
      obtain⟨v0,e1,e2⟩:=M k ha v' U;rw[hv] at e1;cases e1;exact e2 hf
     refine wp_mono (ihy cy h2 R s1 K r h4 φ1 a' w' g1) ?_;rintro e2 a2 w2 ⟨ex2,s2,φ2,rfl,hk2,g2,ZU,kp2⟩;exact⟨ex2,s2,φ2,rfl,hk2,g2,(st.trans Ij).trans ZU,((Ei Y).1.mono sub3).trans (kp2.mono sub2)⟩
    .cases h4
   |exit id=>simp only[] at hk;obtain⟨_,_,J⟩:=dK hk;simp at J
   |ret=>simp only[] at hk;obtain⟨_,_,J⟩:=dK hk;simp at J
  .refine wp_seq (wp_mono (ihx cx h1 _ s _ _ h3 φ a w g) ?_);rintro e a' w' ⟨ex,s',φ',rfl,hk,g',st,M⟩;cases ex with
   |normal=>simp only[] at hk;obtain⟨_,_,J⟩:=dK hk;simp at J
   |exit id=>
    simp only[] at hk;obtain⟨r',Z,J⟩:=dK hk;simp only[ak,Sum.inl.injEq] at J;subst J;exact⟨.exit id,s',φ',rfl,Z,g',st,M.mono sub1⟩
   |ret=>
    simp only[] at hk;obtain⟨r',Z,J⟩:=dK hk;simp only[ak,Sum.inl.injEq] at J;subst J;exact⟨.ret,s',φ',rfl,Z,g',st,M.mono sub1⟩
 |@cond t x y x' y' _ _ ihx ihy=>
  intro c hc R s K r h φ a w g;obtain⟨c',hn,I,hsim⟩:=kh P nt c;refine hsim _ _ _ ?_;rw[<- I] at hc;obtain⟨cx,cy,rfl,h1,h2⟩:=aal hn hc;simp only[pd] at h;split at h
  .rename_i b hb;rcases pA h with ⟨rfl,h⟩|⟨rfl,h⟩
   .refine wp_cond_true (g.bool hb) (wp_mono (ihx cx h1 R s K r h φ a w g) ?_);rintro e a' w' ⟨ex,s',φ',rfl,hk,g',st,M⟩;exact⟨ex,s',φ',rfl,hk,g',st,M.mono λk hk=>by simp only[TC.asg];exact kr hk⟩
   .refine wp_cond_false (g.bool hb) (wp_mono (ihy cy h2 R s K r h φ a w g) ?_);rintro e a' w' ⟨ex,s',φ',rfl,hk,g',st,M⟩;exact⟨ex,s',φ',rfl,hk,g',st,M.mono λk hk=>by simp only[TC.asg];exact vD hk⟩
  .rename_i hb;obtain⟨ha,hbb⟩:=YR h;obtain⟨bv,hbv⟩:=g.anyb hb;cases bv with
   |true=>
    refine wp_cond_true hbv (wp_mono (ihx cx h1 R s K r ha φ a w g) ?_);rintro e a' w' ⟨ex,s',φ',rfl,hk,g',st,M⟩;exact⟨ex,s',φ',rfl,hk,g',st,M.mono λk hk=>by simp only[TC.asg];exact kr hk⟩
   |false=>
    refine wp_cond_false hbv (wp_mono (ihy cy h2 R s K r hbb φ a w g) ?_);rintro e a' w' ⟨ex,s',φ',rfl,hk,g',st,M⟩;exact⟨ex,s',φ',rfl,hk,g',st,M.mono λk hk=>by simp only[TC.asg];exact vD hk⟩
  .cases h
 |@block id b b' _ ih=>
  intro c hc R s K r h φ a w g;obtain⟨c',hn,I,hsim⟩:=kh P nt c;refine hsim _ _ _ ?_;rw[<- I] at hc;obtain⟨cb,rfl,h1⟩:=ML hn hc;simp only[pd] at h;refine wp_block (wp_mono (ih cb h1 R s _ r h φ a w g) ?_);rintro e a' w' ⟨ex,s',φ',rfl,hk,g',st,M⟩;cases ex with
  |normal=>exact⟨.normal,s',φ',rfl,hk,g',st,M⟩
  |ret=>exact⟨.ret,s',φ',rfl,hk,g',st,M⟩
  |exit i=>
   simp only[Ex.to,Exit.inBlock];simp only[] at hk;split at hk
   .rename_i hb;rw[aE (aw hb)];exact⟨.normal,s',φ',rfl,hk,g',st,M⟩
   .rename_i hb;rw[aA (λe=>hb (by rw[e];exact rR id))];exact⟨.exit i,s',φ',rfl,hk,g',st,M⟩
 |@jblock A id b b' _ ih=>
  intro c hc R s K r h φ a w g;obtain⟨c',hn,I,hsim⟩:=kh P nt c;refine hsim _ _ _ ?_;rw[<- I] at hc;obtain⟨cb,rfl,h1⟩:=ML hn hc;simp only[pd] at h;have sub1:∀ k,aN (b.asg 0) k=ai->aN ((TC.jblock A id b).asg 0) k=ai:=λk hk=>by simp only[TC.asg];exact vD hk
  have sub3:∀ k,aN (Lw A.ks 0) k=ai->aN ((TC.jblock A id b).asg 0) k=ai:=λk hk=>by simp only[TC.asg];exact kr hk
  rcases WN h with ⟨d,h3,h4⟩|h3
  .refine wp_block (wp_mono (ih cb h1 _ s _ _ h3 φ a w g) ?_);rintro e a' w' ⟨ex,s',φ',rfl,hk,g',st,M⟩;have fin:obind (LS np A (b.asg 0) s s') (λx=>af (bW (α:=R) x))=af (bW d)->ahk P E nt np φ s w ((TC.jblock A id b).asg 0) K r .normal a' w':=by
    intro hk;obtain⟨d',Z,J⟩:=dK hk;simp only[ak,Sum.inr.injEq] at J;subst J;split at h4
    .rename_i s1 Y;obtain⟨φ1,g1,Ij⟩:=Oh g' Z Y λk _ _ v hv hf ha v' U=>by
      obtain⟨v0,e1,e2⟩:=M k ha v' U;rw[hv] at e1;cases e1;exact e2 hf
     exact⟨.normal,s1,φ1,rfl,h4,g1,st.trans Ij,(Ei Y).1.mono sub3⟩
    .cases h4
   cases ex with
   |normal=>exact fin hk
   |ret=>simp only[] at hk;obtain⟨_,_,J⟩:=dK hk;simp at J
   |exit i=>
    simp only[Ex.to,Exit.inBlock];simp only[] at hk;split at hk
    .rename_i hb;rw[aE (aw hb)];exact fin hk
    .obtain⟨_,_,J⟩:=dK hk;simp at J
  .refine wp_block (wp_mono (ih cb h1 _ s _ _ h3 φ a w g) ?_);rintro e a' w' ⟨ex,s',φ',rfl,hk,g',st,M⟩;cases ex with
   |normal=>simp only[] at hk;obtain⟨_,_,J⟩:=dK hk;simp at J
   |ret=>
    simp only[] at hk;obtain⟨r',Z,J⟩:=dK hk;simp only[ak,Sum.inl.injEq] at J;subst J;exact⟨.ret,s',φ',rfl,Z,g',st,M.mono sub1⟩
   |exit i=>
    simp only[Ex.to,Exit.inBlock];simp only[] at hk;split at hk
    .obtain⟨_,_,J⟩:=dK hk;simp at J
    .rename_i hb;rw[aA (λe=>hb (by rw[e];exact rR id))];obtain⟨r',Z,J⟩:=dK hk;simp only[ak,Sum.inl.injEq] at J;subst J;exact⟨.exit i,s',φ',rfl,Z,g',st,M.mono sub1⟩
 |@loop A b b' _ ih=>
  intro c hc R s K r h φ a w g;obtain⟨c',hn,I,hsim⟩:=kh P nt c;refine hsim _ _ _ ?_;rw[<- I] at hc;obtain⟨cb,rfl,h1⟩:=QJ hn hc;simp only[pd] at h;obtain⟨x0,hx0,h⟩:=dK h;obtain⟨n,hn⟩:=X4 h;have sub1:∀ k,aN (b.asg 0) k=ai->aN ((TC.loop A b).asg 0) k=ai:=λk hk=>by simp only[TC.asg];exact vD hk
  have sub3:∀ k,aN (Lw A.ks 0) k=ai->aN ((TC.loop A b).asg 0) k=ai:=λk hk=>by simp only[TC.asg];exact kr hk
  obtain⟨step,hstep⟩:∃ step:A.D->Option (A.D⊕R),step=λx=>(match G5 A (b.asg 0) s x with
   |some s'=>pd np con b9 inert b s' λex s'=>(match ex with
    |.normal=>obind (LS np A (b.asg 0) s s') λy=>af (oS y)
    |ex=>obind (K ex s') λr=>af (bW r))
   |none=>ah):=⟨_,rfl⟩
  have hn:iterN step n x0=af r:=by rw[hstep];exact hn
  have stepEq:∀ x,step x=(match G5 A (b.asg 0) s x with
   |some s'=>pd np con b9 inert b s' λex s'=>(match ex with
    |.normal=>obind (LS np A (b.asg 0) s s') λy=>af (oS y)
    |ex=>obind (K ex s') λr=>af (bW r))
   |none=>ah):=λx=>by rw[hstep]
  let Inv:Nat->Act->World->Prop:=λn a w'=>∃ x s1 φ1,iterN step n x=af r/\G5 A (b.asg 0) s x=af s1/\oP P E nt np φ1 s1 a w'/\Cj np φ φ1 (bC s.h) (bC s1.h) w w'
  have head:∀ (n:Nat) (x:A.D),iterN step n x=af r->∃ s1,G5 A (b.asg 0) s x=af s1:=by
   intro n x hn;cases n with
   |zero=>cases hn
   |succ n=>
    simp only[iterN] at hn;cases hr:G5 A (b.asg 0) s x with
    |some s1=>exact⟨s1,rfl⟩
    |none=>rw[stepEq,hr] at hn;cases hn
  refine Cm Inv ?_ (n:=n) ?_
  .rintro n a1 w1 ⟨x,s1,φ1,hi,hr,g1,Ij⟩;cases n with
   |zero=>cases hi
   |succ n=>
    simp only[iterN] at hi;have hse:=stepEq x;rw[hr] at hse;simp only[] at hse;obtain⟨kp1,kp1'⟩:=Ei hr;split at hi
    .rename_i y hy;rw[hy] at hse;refine wp_mono (ih cb h1 _ s1 _ _ hse.symm φ1 a1 w1 g1) ?_;rintro e a' w' ⟨ex,s',φ',rfl,hk,g',st,M⟩;cases ex with
     |normal=>
      simp only[] at hk;obtain⟨d',Z,J⟩:=dK hk;simp only[ak,Sum.inl.injEq] at J;subst J;obtain⟨s2,hs2⟩:=head n d' hi;obtain⟨φ2,g2,ZU⟩:=Oh g' Z hs2 λk hkk hks v hv hf ha v' U=>by
       obtain⟨v0,e1,e2⟩:=M k ha v' U;have:=kp1' k hks v0 e1;rw[hv] at this;cases this;exact e2 hf
      exact⟨n,by omega,d',s2,φ2,hi,hs2,g2,(Ij.trans st).trans ZU⟩
     |exit id=>simp only[] at hk;obtain⟨_,_,J⟩:=dK hk;simp at J
     |ret=>simp only[] at hk;obtain⟨_,_,J⟩:=dK hk;simp at J
    .rename_i r' hy;cases hi;rw[hy] at hse;refine wp_mono (ih cb h1 _ s1 _ _ hse.symm φ1 a1 w1 g1) ?_;rintro e a' w' ⟨ex,s',φ',rfl,hk,g',st,M⟩;cases ex with
     |normal=>simp only[] at hk;obtain⟨_,_,J⟩:=dK hk;simp at J
     |exit id=>
      simp only[] at hk;obtain⟨r',Z,J⟩:=dK hk;simp only[ak,Sum.inr.injEq] at J;subst J;exact⟨.exit id,s',φ',rfl,Z,g',Ij.trans st,(kp1.mono sub3).trans (M.mono sub1)⟩
     |ret=>
      simp only[] at hk;obtain⟨r',Z,J⟩:=dK hk;simp only[ak,Sum.inr.injEq] at J;subst J;exact⟨.ret,s',φ',rfl,Z,g',Ij.trans st,(kp1.mono sub3).trans (M.mono sub1)⟩
    .cases hi
  .obtain⟨s1,Y⟩:=head n x0 hn;obtain⟨φ1,g1,Ij⟩:=Oh g hx0 Y λk _ _ v hv _ _ v' U=>by rw[hv] at U;cases U;rfl
   exact⟨x0,s1,φ1,hn,Y,g1,Ij⟩
 |exit id=>
  intro c hc R s K r h φ a w g;obtain⟨c',hn,I,hsim⟩:=kh P nt c;refine hsim _ _ _ ?_;rw[<- I] at hc;rw[aak hn hc];exact wp_exit ⟨.exit id,s,φ,rfl,h,g,Cj.refl _ _ _ _,gw.refl _ _⟩
 |ret=>
  intro c hc R s K r h φ a w g;obtain⟨c',hn,I,hsim⟩:=kh P nt c;refine hsim _ _ _ ?_;rw[<- I] at hc;rw[aef hn hc];exact wp_ret ⟨.ret,s,φ,rfl,h,g,Cj.refl _ _ _ _,gw.refl _ _⟩
 |defer f caps t=>
  intro c hc R s K r h φ a w g;obtain⟨c',hn,I,hsim⟩:=kh P nt c;refine hsim _ _ _ ?_;rw[<- I] at hc;obtain⟨id,ops,dr,rfl,h1,h2⟩:=X5 hn hc;simp only[pd] at h;split at h
  .rename_i l hl;split at h
   .rename_i hi;obtain⟨l',e1,e2⟩:=yY g.invE hl;obtain⟨H,hH⟩:=jR s.h;have lowN:∀ n k,φ n=af k->n<2*s.nx+2:=λn k hk=>by have:=g.dom n k hk;unfold ow at this;omega
    have cfg:Cfg P ⟨2*s.nx+2,φ,E,bC s.h,w⟩ nt ⟨JA s.e s.h,H,2*s.nx+2,0⟩ a w:=by
     refine ⟨⟨φ,?_,?_,?_,lowN,λi k hk=>.inl hk⟩,bP _,g.inert,g.size⟩
     .rw[hH];exact je.refl _ _ _
     .rw[hH];exact g.rep
     .rw[hH,vw];exact g.env
    refine RI hin cfg h1 h2 e1 hi λa' w' c'=>?_
    obtain⟨φ',m',r',en',dm',d0'⟩:=c'.ex;have hφ:φ'=φ:=by
     funext n;cases hx:φ n with
     |some k=>exact m'.sub n k hx
     |none=>
      cases hy:φ' n with
      |none=>rfl
      |some k=>
       rcases d0' n k hy with h3|h3
       .have h3:φ n=af k:=h3;rw[hx] at h3;cases h3
       .have h4:n<2*s.nx+2:=dm' n k hy;have h5:2*s.nx+2<=n:=h3;omega
    subst hφ;simp only[hH] at m' r' en';refine ⟨.normal,_,φ',rfl,h,⟨r',?_,g.dom,g.low,g.invH,?_,c'.inert,c'.size⟩,⟨m'.ext,m'.own_,λ_ _=>rfl⟩,?_⟩
    .intro u x hx;refine en' u x ?_;simp only[fV,PT.get_set] at hx;simp only[Ab.put,PT.get_set];split at hx
     .rename_i eu;rw[aE eu];simp only[aH,ci,e2,ak] at hx;rw[hx]
     .rename_i eu;rw[aA eu,vw];exact hx
    .intro u x hx;simp only[PT.get_set] at hx;split at hx
     .cases hx;simp only[Lt];exact kP _ _ _ e2
     .exact g.invE u x hx
    .intro k hk v' U;simp only[PT.get_set] at U;split at U
     .rename_i ek;subst ek;simp only[TC.asg] at hk;rw[bu,bX.2 rfl] at hk;simp at hk
     .exact⟨v',U,λ_=>rfl⟩
   .cases h
  .cases h
 |@adj l tc' sc' _ ih=>
  intro c hc R s K r h φ a w g;obtain⟨c',hn,I,hsim⟩:=kh P nt c;refine hsim _ _ _ ?_;rw[<- I] at hc;simp only[pd] at h;split at h
  .rename_i s1 Y;obtain⟨φ1,g1,Ij,kp1⟩:=VV g Y;refine wp_mono (ih c' hc R s1 K r h φ1 a w g1) ?_;rintro e a' w' ⟨ex,s',φ',rfl,hk,g',st,M⟩;exact⟨ex,s',φ',rfl,hk,g',Ij.trans st,(kp1.mono λk hk=>by simp only[TC.asg];exact kr hk).trans (M.mono λk hk=>by simp only[TC.asg];exact vD hk)⟩
  .cases h
 |@split k off lo n tc' sc' _ ih=>
  intro c hc R s K r h φ a w g;obtain⟨c',hn,I,hsim⟩:=kh P nt c;refine hsim _ _ _ ?_;rw[<- I] at hc;simp only[pd] at h;split at h
  .rename_i kd v hv;obtain⟨j,hj,h2⟩:=Qa h;subst hj;split at h2
   .rename_i s1 Y;obtain⟨g1,hH,he⟩:=ZY g hv Y;refine wp_mono (ih c' hc R s1 K r h2 φ a w g1) ?_;rintro e a' w' ⟨ex,s',φ',rfl,hk,g',st,M⟩;exact⟨ex,s',φ',rfl,hk,g',by rw[<- hH];exact st,λk hk v' U=>by
     obtain⟨v,Z,J⟩:=M k hk v' U;exact⟨v,by rw[<- he];exact Z,J⟩⟩
   .cases h2
  .cases h
 |@unl n b b' _ ih=>
  intro c hc R s K r h φ a w g;obtain⟨c',hn,I,hsim⟩:=kh P nt c;refine hsim _ _ _ ?_;rw[<- I] at hc;obtain⟨cb,rfl,h1⟩:=QJ hn hc;simp only[pd] at h
  let Inv:Nat->Act->World->Prop:=λm a w'=>∃ s1 φ1,adm (λs K=>pd np con b9 inert b s K) m s1 K=af r/\oP P E nt np φ1 s1 a w'/\Cj np φ φ1 (bC s.h) (bC s1.h) w w'/\gw (b.asg 0) s.e s1.e
  refine Cm Inv ?_ (n:=n) ⟨s,φ,h,g,Cj.refl _ _ _ _,gw.refl _ _⟩;rintro m a1 w1 ⟨s1,φ1,hi,g1,Ij,kp1⟩;cases m with
  |zero=>cases hi
  |succ m=>
   simp only[adm] at hi;refine wp_mono (ih cb h1 R s1 _ r hi φ1 a1 w1 g1) ?_;rintro e a' w' ⟨ex,s',φ',rfl,hk,g',st,M⟩;cases ex with
   |normal=>exact⟨m,qO m,s',φ',hk,g',Ij.trans st,kp1.trans M⟩
   |exit id=>exact⟨.exit id,s',φ',rfl,hk,g',Ij.trans st,kp1.trans M⟩
   |ret=>exact⟨.ret,s',φ',rfl,hk,g',Ij.trans st,kp1.trans M⟩
 |bad sc'=>
  intro c hc R s K r h;simp[pd] at h
theorem NZ {P:Program} {φ:PM} {E:Nat->Prop} {s:TS} {a:Act} {w:World} (hinv:mc s.h s.nx) (hiE:tQ s.e s.h) (r:qY φ E (bC s.h) w) (en:Ns φ (tot E φ (bC s.h)) w (fV s.e s.h) a):∀ (rs:List ResultVar) (rvs:List RV) (l:List TV),vC P rs=af rvs->T3 s rvs=af l->
 ∃ la vs,cL s.h l=af la/\(rs.mapM (XT a.tmps)).run P w= .ok vs w/\j8 φ (tot E φ (bC s.h)) w la vs
 |[],rvs,l,hc,hr=>by
  simp only[vC,ak] at hc;subst hc;simp only[T3,ak] at hr;subst hr;exact⟨[],[],rfl,by simp,trivial⟩
 |.tmp t::rs,rvs,l,hc,hr=>by
  simp only[vC] at hc;split at hc
  .rename_i rvs' hrs;simp only[ak] at hc;subst hc;simp only[T3] at hr;split at hr
   .rename_i v hv;split at hr
    .rename_i M I;simp only[ak] at hr;subst hr;obtain⟨la,vs,h0,h1,h2⟩:=NZ hinv hiE r en rs rvs' M hrs I;simp only[rvT] at hv;obtain⟨y,Y⟩:=qd s.h v (hiE t v hv);refine ⟨y::la,a.tmps.getD t undef::vs,o8 Y h0,?_,en t y (by simp only[fV,hv,aH,Y]),h2⟩;simp only[List.mapM_cons,eP,XT,oU,cJ];show ((rs.mapM (XT a.tmps)).run P w).andThen _=_;rw[h1];rfl
    .cases hr
   .cases hr
  .cases hc
 |.cell ad t::rs,rvs,l,hc,hr=>by
  simp only[vC] at hc;split at hc
  .rename_i rvs' sz ag hrs hsz hag;simp only[ak] at hc;subst hc;simp only[T3] at hr;split at hr
   .rename_i v hv;split at hr
    .rename_i M I;simp only[ak] at hr;subst hr;obtain⟨la,vs,h0,h1,h2⟩:=NZ hinv hiE r en rs rvs' M hrs I;simp only[rvT] at hv;split at hv
     .rename_i id off hp;split at hv
      .rename_i ty q hb;obtain⟨q',J⟩:=fy s.h q (hinv.cells id ty q hb);obtain⟨y,e1,e2⟩:=Wf J hv;obtain⟨H,Z⟩:=jR s.h;have hR:DX H sz ag (.ptr (nm id) off)=af ⟨y,[nm id],[],[],[]⟩:=by
        have hg:H.get (nm id)=af ⟨ty,.mx q'⟩:=by rw[Z,bM,hb];simp only[aH,kE,J]
        simp only[DX,hg,e2]
       obtain⟨_,_,_,h3⟩:=SK (P:=P) hsz hag hR;obtain⟨qq,U,h4,h5,h6⟩:=h3 φ E (bC s.h) w _ (λi _=>by rw[Z]) r (en ad _ (by simp only[fV,hp,aH,ci]));refine ⟨y::la,U::vs,o8 e1 h0,?_,h6,h2⟩;have hone:(XT a.tmps (.cell ad t)).run P w= .ok U w:=by
        simp only[XT,eP,h4,asAddr,oU,cJ,h5]
       rw[List.mapM_cons];simp only[eP,hone,cJ,h1,oU]
      .cases hv
     .cases hv
    .cases hr
   .cases hr
  .cases hc
theorem Fs:∀ (args:List TV) (k t:Nat) (x:TV),(KK k args).get t=af x->k<=t/\args[t-k]? =af x
 |[],k,t,x,h=>by simp[KK,PT.get] at h
 |y::args,k,t,x,h=>by
  rw[KK,PT.get_set] at h;split at h
  .rename_i hk;subst hk;cases h;exact⟨bP _,by simp⟩
  .obtain⟨h1,h2⟩:=Fs args (k+1) t x h;refine ⟨by omega,?_⟩;rw[show t-k=t-(k+1)+1 from by omega];simpa using h2
theorem aa4 {h:bk} {l:List TV} (J:kU h l=ai) {j:Nat} {v:TV} (hj:l[j]? =af v):Lt h v=ai:=by
 obtain⟨M,hl⟩:=fy h l J;obtain⟨y,_,I⟩:=l9 hl j v hj;exact E_ _ _ _ I
theorem TN {P:Program} {con:FuncId->Option cu} {b9:TypeId->Option Ty} {inert:FuncId->Bool} (hm:P.follows .mixedOrders=ai) (hcon:K_ P con) (hin:K4 P inert) {f:FuncId} {sf:SF} (hf:zS P f=af sf) (D:FT) (m:D.pre.ty.den->Option D.post.ty.den) (hmod:∀ x y,m x=af y->ZR con b9 inert (af sf) D x=af y):pU P f ⟨D.pre,D.post,m⟩:=by
 obtain⟨fn,c,hfn,hb,hnm,hcode,hres,hnt⟩:=Sq hf;refine ⟨⟨fn,hfn,by rw[hb];rfl,hnm⟩,λx y hxy vs hp l1 rs hq l2 la lr I J hla hlr φ E w us hrep hrel hdom=>?_⟩;have ht:=hmod x y hxy;unfold ZR at ht;simp only[] at ht;split at ht
 .rename_i args h hins;obtain⟨l1',I'⟩:=wG hins;have e1:args=vs:=by have h1:=I.pv;have h2:=I'.pv;rw[h1] at h2;cases h2;rfl
  have e2:l1'=l1:=by have h1:=I.pb;have h2:=I'.pb;rw[h1] at h2;cases h2;rfl
  subst e1;subst e2;have hget:∀ i,h.get i=hp.get i:=λi=>by
   cases h3:hp.get i with
   |some b=>exact (I'.at_ i b).2 ((I.at_ i b).1 h3)
   |none=>
    cases h4:h.get i with
    |none=>rfl
    |some b=>have:=(I.at_ i b).2 ((I'.at_ i b).1 h4);rw[h3] at this;cases this
  have hrow:∀ i,eJ h i=eJ hp i:=λi=>by rw[bU,bU,hget]
  have herH:bC h=bC hp:=by
   funext n;by_cases hn:∃ i,n=nm i
   .obtain⟨i,rfl⟩:=hn;rw[bM,bM,hget];cases h3:hp.get i with
    |none=>rfl
    |some b=>
     simp only[aH];refine JB (λi r hr=>by rw[hrow];exact hr) λty l e=>?_
     exact (I.cells i ty l (by rw[h3,e])).1
   .rw[wK _ hn,wK _ hn]
  have hla':cL h args=af la:=hX (λi r hr=>by rw[hrow];exact hr) args la hla;split at ht
  .rename_i hle;simp only[av] at hle;have hle2:=a_ hle.2;have hle:=a_ hle.1;have hlen:=hrel.length;have hargl:args.length=la.length:=(ic hla).symm;refine calls_of_wp_defers hfn hb ?_;have hcfg:oP P E fn.ntmps D.pre.bs.length φ ⟨KK 0 args,h,D.pre.bs.length⟩ {tmps:=us.toArray++oB (fn.ntmps-us.toArray.size) undef,defers:=[]} w:=by
    refine ⟨by rw[herH];exact hrep,?_,hdom,bP _,⟨λi ty l hl=>(I'.cells i ty l hl).1,λi b hbb=>I'.lt_len hbb⟩,?_,by simp,by simp;omega⟩
    .intro t z U;simp only[fV] at U;cases Z:(KK 0 args).get t with
     |none=>rw[Z] at U;cases U
     |some v0=>
      rw[Z] at U;obtain⟨_,h2⟩:=Fs args 0 t v0 Z;rw[Nat.sub_zero] at h2;obtain⟨y0,q1,Y⟩:=l9 hla' t v0 h2;simp only[aH] at U;rw[U] at Y;cases Y;obtain⟨v,h3,h4⟩:=hrel.get t z q1;have hlt:t<us.length:=(bg.1 h3).1;have:(us.toArray++oB (fn.ntmps-us.toArray.size) undef).getD t undef=v:=by
       rw[gI,Array.getElem?_append];simp only[tC,hlt,bG,ku,h3,uW]
      show cM φ _ w z ((us.toArray++oB (fn.ntmps-us.toArray.size) undef).getD t undef);rw[this,herH];exact h4
    .intro t v0 hv0;obtain⟨_,h2⟩:=Fs args 0 t v0 hv0;exact aa4 I'.ok h2
   refine wp_mono (ahz (E:=E) hm hcon hin (xU D.hints sf.code 0) c hcode.symm _ _ _ _ ht φ _ w hcfg) ?_;rintro e a' w' ⟨ex,s',φ',rfl,hk,g',st,_⟩;have fin:(match T3 s' sf.res with
    |some l=>(match EA D.pre.bs.length D.post l s'.h with
     |some ⟨y,_,_,_⟩=>(match C2 D.post y with|some _=>af y|none=>ah)
     |none=>ah)
    |none=>ah)=af y->Leaves P fn a'.tmps (λen w'=>∃ v φ',en= .returned v/\K6 (own φ (bC hp)) w w'/\(∀ k,k<w.heap.size->own φ' (bC hq) k->own φ (bC hp) k)/\(∀ i,i<D.pre.bs.length->φ' (nm i)=φ (nm i))/\qY φ' E (bC hq) w'/\cM φ' (tot E φ' (bC hq)) w' (Ed lr) v) a'.defers .returning w':=by
    intro hk;split at hk
    .rename_i l hl;split at hk
     .rename_i y' m' σ sm hM;split at hk
      .simp only[ak] at hk;subst hk;obtain⟨lo,rvs,q0,q1,Y⟩:=NZ g'.invH g'.invE g'.rep g'.env fn.results.toList sf.res l hres hl;have M:=wB hM;obtain⟨φ2,lu,hlu,S⟩:=Lo (np:=D.pre.bs.length) (E:=E) J g'.invH M q0 g'.rep;rw[hlr] at hlu;cases hlu;have hresults:(results fn a'.tmps).run P w'= .ok (if h:rvs.toArray.size=1 then rvs.toArray[0] else .tuple rvs.toArray) w':=by
        rw[T5,Array.mapM_eq_mapM_toList];simp only[eP,Sem.run_map,q1,cJ,oU]
       have hrl:j8 φ2 (tot E φ2 (bC hq)) w' lr rvs:=by
        refine j8.of (by rw[Y.length,S.len]) λj z v U hv=>?_
        obtain⟨z0,p1,p2⟩:=S.val j z v U;obtain⟨v',p3,p4⟩:=Y.get j z0 p1;rw[hv] at p3;cases p3;exact p2 p4
       have hval:cM φ2 (tot E φ2 (bC hq)) w' (Ed lr) (if h:rvs.toArray.size=1 then rvs.toArray[0] else .tuple rvs.toArray):=by
        have hll:=hrl.length;clear hlr S;cases lr with
        |nil=>
         cases rvs with
         |nil=>exact cM.tup (vs:=[]) rfl (by intro j x v Z;simp at Z)
         |cons _ _=>exact hrl.elim
        |cons z lr=>
         cases rvs with
         |nil=>exact hrl.elim
         |cons v rvs=>
          cases lr with
          |nil=>
           cases rvs with
           |nil=>exact hrl.1
           |cons _ _=>exact hrl.2.elim
          |cons y l=>
           cases rvs with
           |nil=>exact hrl.2.elim
           |cons u rvs=>
            rw[dif_neg (by simp)];refine cM.tup (vs:=v::u::rvs) (by simpa using hll) λj x' v' Z hv=>?_
            obtain⟨v'',q1,Y⟩:=hrl.get j x' Z;rw[hv] at q1;cases q1;exact Y
       have st':Cj D.pre.bs.length φ φ' (bC hp) (bC s'.h) w w':=by rw[<- herH];exact st
       refine CU hresults ⟨_,φ2,rfl,st'.ext,λk hk ho=>st'.own_ k hk (S.own_ k ho),λi hi=>?_,S.rep,hval⟩ a'.defers g'.inert;rw[S.par i hi (dz hi hle2),st'.par i hi]
      .cases hk
     .cases hk
    .cases hk
   cases ex with
   |normal=>exact fin hk
   |ret=>exact fin hk
   |exit id=>cases hk
  .cases ht
 .cases ht
def Vq:List (FuncId×cu)->FuncId->Option cu
 |[],_=>ah
 |(g,c)::r,f=>if aC g f then af c else Vq r f
def Tu (P:Program):List (FuncId×cu)->Prop
 |[]=>True
 |p::r=>aI P p.1 p.2/\Tu P r
theorem Xg {P:Program}:∀ {l:List (FuncId×cu)},Tu P l->K_ P (Vq l)
 |[],_,f,c,h=>by simp[Vq] at h
 |(g,d)::r,I,f,c,h=>by
  simp only[Vq] at h;split at h
  .rename_i hb;have:=aw hb;subst this;cases h;exact I.1
  .exact Xg I.2 f c h
theorem Rf {P:Program} {inert:FuncId->Bool} (hm:P.follows .mixedOrders=ai) (hin:K4 P inert) {l:List (FuncId×cu)} (I:Tu P l) {b9:TypeId->Option Ty} {f:FuncId} {D:FT} {m:D.pre.ty.den->Option D.post.ty.den} (hs:(zS P f).isSome=ai) (he:∀ x,ZR (Vq l) b9 inert (zS P f) D x=m x):pU P f ⟨D.pre,D.post,m⟩:=by
 obtain⟨J,hf⟩:=iP.1 hs;exact TN hm (Xg I) hin hf D m λx y hxy=>by rw[<- hf,he];exact hxy
theorem pU.sub {P:Program} {f:FuncId} {pre post:Tm} {m m':pre.ty.den->Option post.ty.den} (h:pU P f ⟨pre,post,m⟩) (hs:∀ x y,m' x=af y->m x=af y):pU P f ⟨pre,post,m'⟩:=
 ⟨h.callable,λx y hxy=>h.calls x y (hs x y hxy)⟩
theorem aI.sub {P:Program} {f:FuncId} {pre post:Tm} {m m':pre.ty.den->Option post.ty.den} (h:aI P f ⟨pre,post,m⟩) (hb:eQ pre.bs.length post.bs.length=ai) (hs:∀ x y,m' x=af y->m x=af y):aI P f ⟨pre,post,m'⟩:=
 ((h.holds hb).sub hs).toC hb
theorem rL {α:Type} {b:Nat}:∀ (x y:List α),chk (bc (al x) b) (λ_=>af x)=af y->bcase (aC (al x) 0) (Fq (af ([]:List α)) (chk (bc (al ([]:List α)+al x) b) λ_=>(af (([]:List α)++x)))) (chk (bc (al ([]:List α)+al x) b) λ_=>(af (([]:List α)++x)))=af y:=by
 intro x y h;rw[lP,jY,bO,h];cases x with
 |nil=>
  obtain⟨_,h⟩:=d_ h;cases h;show Fq (af []) (af [])=_;unfold Fq;rw[aE rfl]
 |cons a r=>rfl
theorem UM {P:Program} {f:FuncId} {pre post:Tm} (hs:(zS P f).isSome=ai):pU P f ⟨pre,post,λ_=>ah⟩:=by
 obtain⟨I,hf⟩:=iP.1 hs;obtain⟨fn,c,hfn,hb,hnm,_⟩:=Sq hf;exact⟨⟨fn,hfn,by rw[hb];rfl,hnm⟩,λx y h=>by cases h⟩
theorem pU.orElse {P:Program} {f:FuncId} {pre post:Tm} {m m':pre.ty.den->Option post.ty.den} (h:pU P f ⟨pre,post,m⟩) (h':pU P f ⟨pre,post,m'⟩):pU P f ⟨pre,post,λx=>match m x with|some y=>af y|none=>m' x⟩:=
 ⟨h.callable,λx y hxy=>by
   cases hm:m x with
   |some z=>rw[show (cu.m ⟨pre,post,λx=>match m x with|some y=>af y|none=>m' x⟩ x)=af z by show (match m x with|some y=>af y|none=>m' x)=af z;rw[hm]] at hxy;cases hxy;exact h.calls x _ hm
   |none=>rw[show (cu.m ⟨pre,post,λx=>match m x with|some y=>af y|none=>m' x⟩ x)=m' x by show (match m x with|some y=>af y|none=>m' x)=m' x;rw[hm]] at hxy;exact h'.calls x y hxy⟩
theorem aI.orE {P:Program} {f:FuncId} {pre post:Tm} {m m':pre.ty.den->Option post.ty.den} (hb:eQ pre.bs.length post.bs.length=ai) (h:aI P f ⟨pre,post,m⟩) (h':aI P f ⟨pre,post,m'⟩):aI P f ⟨pre,post,λx=>AI.orE (m x) (m' x)⟩:=by
 have e:(λx=>AI.orE (m x) (m' x))=λx=>match m x with|some y=>af y|none=>m' x:=by funext x;cases m x<;>rfl
 rw[e];exact ((h.holds hb).orElse (h'.holds hb)).toC hb
def ZM (P:Program) (f:Ty->TypeId->Bool):List Field->Nat->Ty->Bool
 |[],_,.un=>ai
 |[x],off,T=>aC x.offset off&&f T x.type&&aC (P.cellsOf x.type) T.size
 |x::y::r,off,.pr a b=>aC x.offset off&&f a x.type&&aC (P.cellsOf x.type) a.size&&ZM P f (y::r) (off+a.size) b
 |_,_,_=>aj
def TK (P:Program) (f:Ty->TypeId->Bool) (e:TypeId):Nat->Ty->Bool
 |1,T=>f T e&&aC (P.cellsOf e) T.size
 |m+2,.pr a b=>f a e&&aC (P.cellsOf e) a.size&&TK P f e (m+1) b
 |_,_=>aj
def Bz (P:Program):Nat->Ty->TypeId->Bool
 |0,_,_=>aj
 |n+1,T,t=>match T,P.underlying t with
  |.int k,af (.int k')=>k==k'
  |.bool,af .bool=>ai
  |.str,af .string=>ai
  |.sl U,af (.slice e)=>Bz P n U e&&aC (P.cellsOf e) U.size&&gk 0 U.size
  |.st U,af (.struct fs)=>ZM P (Bz P n) fs.toList 0 U&&aC (P.cellsOf t) U.size
  |.st U,af (.array m e)=>TK P (Bz P n) e m U&&aC (P.cellsOf t) U.size
  |_,_=>aj
def Wb:(T:Ty)->T.den->Prop
 |.int k,n=>(Lit.int k n).wf=ai
 |.str,s=>al s<=maxLen
 |.sl U,xs=>al xs<=maxLen/\∀ x∈(xs:List U.den),Wb U x
 |.st t,v=>Wb t v
 |.pr a b,v=>Wb a v.1/\Wb b v.2
 |_,_=>True
def KY (W:World) (T:Ty) (x:T.den) (cs:List Value):Prop:=cs.length=T.size/\∀ (j:Nat) y v,(bS T x)[j]? =af y->cs[j]? =af v->nu (λ_=>False) W y v
theorem Kx {α:Type} (z:α) (P:Nat->α->Prop):∀ n:Nat,(∀ i,i<n->∃ a,P i a)->∃ l:List α,l.length=n/\∀ i x,l[i]? =af x->P i x
 |0,_=>⟨[],rfl,λi x h=>by simp at h⟩
 |n+1,h=>by
  obtain⟨l,hl,hp⟩:=Kx z P n (λi hi=>h i (by omega));obtain⟨a,J⟩:=h n (by omega);refine ⟨l++[a],by simp[hl],λi x I=>?_⟩;by_cases hi:i<l.length
  .rw[bJ hi] at I;exact hp i x I
  .rw[bV (by omega)] at I;by_cases h0:i-l.length=0
   .rw[h0] at I;simp at I;subst I;rw[show i=n from by omega];exact J
   .rw[bR (by simp;omega)] at I;cases I
theorem Addr.add_plain {a:Addr} (h:a.spot=ah) (n:Nat):a.add n=⟨a.block,a.off+n,ah⟩:=by
 unfold Addr.add;split
 .rename_i h0;subst h0;cases a;simp at h;subst h;rfl
 .rfl
theorem YN {w:World} {a:Addr} {v:Value} (h:w.cell? a=af v):a.spot=ah:=by
 unfold Nx at h;split at h
 .split at h
  .cases h
  .rename_i hs;cases hh:a.spot with
   |none=>rfl
   |some _=>simp[hh] at hs
 .cases h
theorem KY.sub {W:World} {T:Ty} {x:T.den} {cs:List Value} {off n:Nat} (h:KY W T x ((cs.drop off).take n)) (hn:n=T.size) (hl:off+n<=cs.length):∀ (j:Nat) y v,(bS T x)[j]? =af y->cs[off+j]? =af v->nu (λ_=>False) W y v:=λj y v I hv=>by
 refine h.2 j y v I ?_;have hj:j<T.size:=by have:=(bg.1 I).1;rwa [bD] at this
 rw[cH,aE (by omega),g_];exact hv
section
variable {H:Type} {enc:TypeId×Value->H} {P:Program} {W:World} {base:Nat} {sp:Nat->Bool} {hd:Bool}
theorem Ww {f:Ty->TypeId->Bool} {m:Nat} (M:∀ (T:Ty) (t:TypeId) (cs:List Value) x,f T t=ai->DataW.trod enc P W base sp hd m t cs=af x->∃ v,KY W T v cs/\Wb T v) (cs:List Value) (ts:List (DataW H×List MemPlace)):
 ∀ (fs:List Field) (off k:Nat) (T:Ty),ZM P f fs off T=ai->off+T.size<=cs.length->(∀ (i:Nat) (fl:Field),fs[i]? =af fl->∃ z,DataW.trod enc P W base sp hd m fl.type ((cs.drop fl.offset).take (P.cellsOf fl.type))=af z)->
 ∃ v,(∀ (j:Nat) y u,(bS T v)[j]? =af y->cs[off+j]? =af u->nu (λ_=>False) W y u)/\Wb T v
 |[],off,k,.un,_,_,_=>⟨(),λj y u I=>by simp[bS] at I,trivial⟩
 |[x],off,k,T,h,hl,hg=>by
  simp only[ZM,av] at h;obtain⟨⟨h1,h2⟩,J⟩:=h;have h1:=aw h1;have J:=aw J;obtain⟨z,U⟩:=hg 0 x rfl;obtain⟨v,hv,Z⟩:=M T _ _ _ h2 U;rw[h1] at hv;exact⟨v,hv.sub J (by omega),Z⟩
 |x::x'::r,off,k,.pr a b,h,hl,hg=>by
  simp only[ZM,av] at h;obtain⟨⟨⟨h1,h2⟩,J⟩,h4⟩:=h;have h1:=aw h1;have J:=aw J;simp only[Ty.size] at hl;obtain⟨z,U⟩:=hg 0 x rfl;obtain⟨v,hv,Z⟩:=M a _ _ _ h2 U;rw[h1] at hv;have hv:=hv.sub J (by omega);obtain⟨v',hv',Y⟩:=Ww M cs ts (x'::r) (off+a.size) (k+1) b h4 (by omega) (λi fl hi=>hg (i+1) fl (by simpa using hi));refine ⟨(v,v'),λj y u I hu=>?_,Z,Y⟩;simp only[bS] at I;by_cases hj:j<a.size
  .rw[bJ (by rw[bD];exact hj)] at I;exact hv j y u I hu
  .rw[bV (by rw[bD];omega),bD] at I;exact hv' _ y u I (by rw[show off+a.size+(j-a.size)=off+j from by omega];exact hu)
theorem Wx {f:Ty->TypeId->Bool} {m:Nat} {e:TypeId} (J:∀ (T:Ty) (t:TypeId) (cs:List Value) x,f T t=ai->DataW.trod enc P W base sp hd m t cs=af x->∃ v,KY W T v cs/\Wb T v) (cs:List Value):
 ∀ (n i:Nat) (T:Ty),TK P f e n T=ai->i*P.cellsOf e+T.size<=cs.length->(∀ j,j<n->∃ z,DataW.trod enc P W base sp hd m e ((cs.drop ((i+j)*P.cellsOf e)).take (P.cellsOf e))=af z)->
 ∃ v,(∀ (j:Nat) y u,(bS T v)[j]? =af y->cs[i*P.cellsOf e+j]? =af u->nu (λ_=>False) W y u)/\Wb T v
 |0,i,T,h,_,_=>by unfold TK at h;cases h
 |1,i,T,h,hl,hg=>by
  simp only[TK,av] at h;have h3:=aw h.2;obtain⟨z,M⟩:=hg 0 (by omega);obtain⟨v,hv,Y⟩:=J T _ _ _ h.1 M;rw[dl] at hv;exact⟨v,hv.sub h3 (by omega),Y⟩
 |n+2,i,T,h,hl,hg=>by
  cases T with
  |pr a b=>
   simp only[TK,av] at h;obtain⟨⟨h1,h2⟩,h4⟩:=h;have h3:=aw h2;simp only[Ty.size] at hl;obtain⟨z,M⟩:=hg 0 (by omega);obtain⟨v,hv,Y⟩:=J a _ _ _ h1 M;rw[dl] at hv;have hv:=hv.sub h3 (by omega);obtain⟨v',Z,U⟩:=Wx J cs (n+1) (i+1) b h4 (by rw[NA,Nat.one_mul];omega) (λj hj=>by have:=hg (j+1) (by omega);rwa [show i+(j+1)=i+1+j from by omega] at this);refine ⟨(v,v'),λj y u I hu=>?_,Y,U⟩;simp only[bS] at I;by_cases hj:j<a.size
   .rw[bJ (by rw[bD];exact hj)] at I;exact hv j y u I hu
   .rw[bV (by rw[bD];omega),bD] at I;exact Z _ y u I (by rw[NA,Nat.one_mul,show i*P.cellsOf e+P.cellsOf e+(j-a.size)=i*P.cellsOf e+j from by omega];exact hu)
  |_=>unfold TK at h;cases h
theorem HO:∀ (n:Nat) (T:Ty) (t:TypeId) (fuel:Nat) (cs:List Value) x,Bz P n T t=ai->(∀ b,sp b=ai)->DataW.trod enc P W base sp hd fuel t cs=af x->∃ v,KY W T v cs/\Wb T v
 |0,_,_,_,_,_,h,_,_=>by unfold Bz at h;cases h
 |n+1,T,t,fuel,cs,x,h,hsp,ht=>by
  unfold Bz at h;split at h
  .rename_i k k' hu;have hk:=eq_of_beq h;subst hk;obtain⟨m,rfl,_,J⟩:=DataW.trod_int hu ht;refine ⟨m,⟨rfl,λj y v I hv=>?_⟩,J⟩;cases j with
   |zero=>simp[bS] at I hv;subst I hv;exact .raw _
   |succ j=>simp[bS] at I
  .rename_i hu;obtain⟨b,rfl,_⟩:=DataW.trod_bool hu ht;refine ⟨b,⟨rfl,λj y v I hv=>?_⟩,trivial⟩;cases j with
   |zero=>simp[bS] at I hv;subst I hv;exact .raw _
   |succ j=>simp[bS] at I
  .rename_i hu;obtain⟨s,rfl,_,hs⟩:=DataW.trod_string hu ht;refine ⟨s.data.toList,⟨rfl,λj y v I hv=>?_⟩,by simpa[Wb] using hs⟩;cases j with
   |zero=>simp[bS] at I hv;subst I hv;exact .raw _
   |succ j=>simp[bS] at I
  .rename_i U e hu;simp only[av] at h;obtain⟨⟨h1,h2⟩,h3⟩:=h;have h2:=aw h2;have h3:0<U.size:=a_ h3;rcases Go.Deep.open_slice hu ht with ⟨rfl,_⟩|⟨a,len,cap,m,k,D,Pl,rfl,hb,hl,hm,hmm,_,hi⟩
   .refine ⟨[],⟨rfl,λj y v I hv=>?_⟩,by simp[Wb]⟩;cases j with
    |zero=>simp[bS] at I hv;subst I hv;exact .nil _ _ (by unfold maxLen;omega)
    |succ j=>simp[bS] at I
   .rw[hsp,aE rfl] at hmm;rw[h2] at hi;obtain⟨xs,hx1,Y⟩:=Kx U.zero (λi (v:U.den)=>∃ cs',W.cells? base (a.add (i*U.size)) U.size=af cs'/\KY W U v cs'/\Wb U v) len (λi hil=>by
     obtain⟨cs',hc,htt⟩:=hi i (by omega);obtain⟨v,hv,J⟩:=HO n U e k cs' _ h1 hsp htt;exact⟨v,cs',hc,hv,J⟩)
    refine ⟨xs,⟨rfl,λj y v I hv=>?_⟩,by show al xs<=maxLen;omega,λy I=>?_⟩
    .cases j with
     |succ j=>simp[bS] at I
     |zero=>
      simp[bS] at I hv;subst I hv;by_cases h0:len=0
      .have:xs=[]:=gO.1 (by omega);subst this;subst h0;exact .nil _ _ hm
      .obtain⟨x0,hx0⟩:∃ x0,xs[0]? =af x0:=⟨xs[0]'(by omega),aB (by omega)⟩
       obtain⟨cs0,hc0,_⟩:=Y 0 x0 hx0;obtain⟨_,hcl0,hat0⟩:=World.cells?_some hc0;have hca:=hat0 0 h3;rw[aB (by omega)] at hca;have hspot:a.spot=ah:=by
        have:=YN hca;simpa[Addr.add] using this
       have hblk:=World.block_lt_of_cell? W _ hca;rw[Nat.zero_mul,Addr.add_plain hspot,Addr.add_plain rfl] at hca hblk;have hcell:∀ (i j:Nat) x,xs[i]? =af x->j<U.size->∃ cs',W.cell? ⟨a.block,a.off+(i*U.size+j),ah⟩=cs'[j]? /\j<cs'.length/\KY W U x cs':=λi j x Z hj=>by
        obtain⟨cs',hc,hr,_⟩:=Y i x Z;obtain⟨_,hcl,hat⟩:=World.cells?_some hc;have:=hat j hj;rw[Addr.add_plain hspot,Addr.add_plain rfl,sP] at this;exact⟨cs',this,by omega,hr⟩
       have hflat:∀ j,j<xs.length*U.size->∃ x,xs[j/U.size]? =af x/\j%U.size<U.size/\j=j/U.size*U.size+j%U.size:=λj hj=>by
        have h5:j/U.size<xs.length:=Nat.div_lt_of_lt_mul (by rw[HH];exact hj);exact⟨xs[j/U.size],aB h5,Nat.mod_lt _ h3,by rw[HH];exact (Nat.div_add_mod j U.size).symm⟩
       have hlen:(List.flatMap (bS U) xs).length=xs.length*U.size:=fG (bD U) xs;obtain⟨ab,ao,az⟩:=a;cases hspot;rw[<- hx1];refine .sl (List.flatMap (bS U) xs) xs.length cap ab ao (λj=>(W.cell? ⟨ab,ao+j,ah⟩).getD undef) (by omega) hm (λh=>h) hblk (rH U xs) (λj hj=>?_) (λj y I=>?_)
       .obtain⟨x,Z,hjs,hje⟩:=hflat j (by omega);obtain⟨cs',g1,g2,_⟩:=hcell _ _ x Z hjs;rw[<- hje] at g1;simp only[g1,aB g2,uW]
       .have hj:j<xs.length*U.size:=by rw[<- hlen];exact (bg.1 I).1
        obtain⟨x,Z,hjs,hje⟩:=hflat j hj;obtain⟨cs',g1,g2,g3⟩:=hcell _ _ x Z hjs;rw[<- hje] at g1;simp only[g1];rw[aB g2];refine g3.2 (j%U.size) y _ ?_ (aB g2);obtain⟨r,hr⟩:=E7 (bD U) xs (j/U.size) x Z;have:((List.flatMap (bS U) xs).drop (j/U.size*U.size))[j%U.size]? =af y:=by rw[g_,<-hje];exact I
        rw[hr,bJ (by rw[bD];exact hjs)] at this;exact this
    .obtain⟨i,M⟩:=eC I;obtain⟨_,_,_,J⟩:=Y i y M;exact J
  .rename_i U fs hu;simp only[av] at h;have h2:=aw h.2;obtain⟨xs,m,rfl,_,hl,hxl,hg⟩:=DataW.trod_struct hu ht;obtain⟨v,hv,J⟩:=Ww (f:=Bz P n) (m:=m) (λT t cs x h1 h2=>HO n T t m cs x h1 hsp h2) cs xs fs.toList 0 0 U h.1 (by omega) (λi fl hi=>by
    have M:fs[i]? =af fl:=by simpa using hi
    have:=hg i fl M;have hlt:i<xs.length:=by rw[hxl];exact (cF.1 M).1
    rw[aB hlt] at this;exact⟨_,this⟩)
   exact⟨v,⟨by rw[hl,h2];rfl,λj y u I hu=>hv j y u I (by rw[bO];exact hu)⟩,J⟩
  .rename_i U m e hu;simp only[av] at h;have h2:=aw h.2;obtain⟨xs,q,rfl,_,hl,hxl,hg⟩:=DataW.trod_array hu ht;obtain⟨v,hv,J⟩:=Wx (f:=Bz P n) (m:=q) (λT t cs x h1 h2=>HO n T t q cs x h1 hsp h2) cs m 0 U h.1 (by omega) (λj hj=>by
    have:=hg j hj;rw[aB (by omega)] at this;rw[bO];exact⟨_,this⟩)
   exact⟨v,⟨by rw[hl,h2];rfl,λj y u I hu=>hv j y u I (by rw[Nat.zero_mul,bO];exact hu)⟩,J⟩
  .cases h
theorem Qy {n:Nat} {T:Ty} {t:TypeId} {v:Value} {r:Reach} {bs:Nat} (I:Bz P n T t=ai) (h1:T.one=ai) (h:HB P W r bs t v):v.cells.toList=[v]:=by
 cases n with
 |zero=>unfold Bz at I;cases I
 |succ n=>
  unfold Bz at I;unfold HB at h;cases v with
  |agg cs=>
   exfalso;split at I<;>rename_i hu<;>first|(rw [hu] at h;simp only[] at h;unfold Cell.okWide at h;rw[hu] at h;unfold Cell.ok at h;rw[hu] at h;simp at h)|cases h1|cases I
  |_=>rfl
theorem T_ {n:Nat} {T:Ty} {t:TypeId} {v:Value} {r:Reach} {bs:Nat} (I:Bz P n T t=ai) (h1:T.one=aj) (h:HB P W r bs t v):∃ cs,v= .agg cs:=by
 cases n with
 |zero=>unfold Bz at I;cases I
 |succ n=>
  unfold Bz at I;unfold HB at h;split at I<;>rename_i hu<;>first|(rw [hu] at h;obtain⟨cs,h,_⟩:=h;exact⟨cs,h⟩)|cases h1|cases I
theorem open_arg {n:Nat} {T:Ty} {t:TypeId} {v:Value} {d:DataW H} {ps:List MemPlace} {r:Reach} {bs:Nat} (J:Bz P n T t=ai) (hsp:∀ b,sp b=ai) (hok:HB P W r bs t v) (h:DataW.Trod enc P W base sp hd t v d ps):∃ x,nu (λ_=>False) W (gL T x) v/\Wb T x:=by
 obtain⟨fuel,hf⟩:=h;obtain⟨x,I,U⟩:=HO n T t fuel _ _ J hsp hf;refine ⟨x,?_,U⟩;by_cases h1:T.one=ai
 .obtain⟨e1,e2⟩:=Dk T x h1;exact I.2 0 _ v (by rw[e1];rfl) (by rw[Qy J h1 hok];rfl)
 .obtain⟨cs,rfl⟩:=T_ J (by simpa using h1) hok;rw[qD T x (by simpa using h1)];have hl:cs.toList.length=(bS T x).length:=by rw[bD];exact I.1
  have:=nu.agg (O:=λ_=>False) (w:=W) (bS T x) cs.toList hl (nY T x) (λj y u M hu=>I.2 j y u M hu);simpa using this
end
theorem Xq {z:Int} (h:(Lit.int .u8 z).wf=ai):0<=z/\z<=255:=⟨bf (dN.1 h).1,bf (dN.1 h).2⟩
theorem Wv (z p:Int×Int):(Lj (.pr (.int .i64) (.pr (.int .i64) .un)) (z.1,z.2,()) (p.1,p.2,()) !=aj)=decide (z=p):=by
 obtain⟨(J:Int),(I:Int)⟩:=z;obtain⟨(p1:Int),(p2:Int)⟩:=p;by_cases h1:J=p1<;>by_cases h2:I=p2<;>simp[Lj,h1,h2]
theorem aif {r:List (Int×Int)} (hr:r.length<=1000000) {p:Int×Int} (h:p∈r):um (r,p)=af ai:=by
 refine cD ?_;unfold um bB bI aY cK aF cC;refine cr r.length (λk x=>x=((k:Int),p)/\∀ q,q<k->¬r[q]? =af p) ?_ ?_ ⟨rfl,λq hq=>by omega⟩
 .rintro k x hk ⟨rfl,hn⟩;refine dg (cE (aT ?_));have e:aJ (T:=.st (.pr (.int .i64) (.int .i64))) r (k:Int)=r[k]:=by rw[uA,ax,aB hk];rfl
  rw[e];have q:=Wv r[k] p;refine aP (λg=>ar rfl) λg=>ar ⟨?_,λq hq=>?_⟩
  .dsimp only;rw[gM (by omega)]
  .have g:(Lj (.pr (.int .i64) (.pr (.int .i64) .un)) (r[k].1,r[k].2,()) (p.1,p.2,()) !=aj)=aj:=g;rw[Wv] at g;by_cases e:q=k
   .subst e;rw[aB hk];exact λx=>By g (iV x)
   .exact hn q (by omega)
 .rintro x ⟨rfl,hn⟩;obtain⟨q,hq⟩:=eC h;exact cV hq (hn q (bg.1 hq).1)
theorem agu {w:WT} {l:List ET} {cl:Nat->List Int} {a b:Nat} (h:N2 w l cl a b=ai):∀ i,a<i->((a:Int),(b:Int))∈rI w l cl b i
 |i+1,hi=>by
  rw[rI];by_cases e:a=i
  .subst e;rw[aE h];exact iJ _ (aL.2 rfl)
  .have I:=agu h i (by omega);split
   .exact gZ _ I
   .exact I
theorem Z3 {w:WT} {l:List ET} {cl:Nat->List Int} {a b:Nat} (h:N2 w l cl a b=ai) (hab:a<b):∀ n,b<n->((a:Int),(b:Int))∈rO w l cl n
 |n+1,hn=>by
  rw[rO];by_cases e:b=n
  .subst e;exact iJ _ (agu h b hab)
  .exact gZ _ (Z3 h hab n (by omega))
theorem My (w:WT) (l:List ET) (cl:Nat->List Int):∀ n,(rO w l cl n).Pairwise λp q=>p.2<=q.2
 |0=>List.Pairwise.nil
 |n+1=>by
  rw[rO,List.pairwise_append];refine ⟨My w l cl n,List.pairwise_of_forall_mem_list λp hp q hq=>?_,λp hp q hq=>?_⟩
  .obtain⟨_,_,_,rfl⟩:=Ek _ hp;obtain⟨_,_,_,rfl⟩:=Ek _ hq;exact eD _
  .obtain⟨_,c,_,h2,_,rfl⟩:=N3 _ hp;obtain⟨_,_,_,rfl⟩:=Ek _ hq;dsimp only;omega
theorem UW {w:WT} {l:List ET} (tr:TR (w,l)) {b:Nat} (hb:b<l.length) (h:∀ s k,s<k->k<b->N2 w l (sO w l) s k=aj):sM w l b=sO w l b:=by
 have key:=Wl (w:=w) (l:=l) (b:=b) (by omega) (λk hk rd=>by
  have hs:=Ej rd;have own:=WH k rd.2;have es:(G8 l (cQ l k).ob k).toNat=Qi l k:=rfl;rw[es] at own;by_cases ht:(cQ l (Qi l k)).th=(cQ l k).th
  .exact (XI.own tr hs (by omega) ht).le tr (by omega) (by omega)
  by_cases hv:wa w.1 (cQ l k).ob=ai
  .have:=af9 tr (CL_N w l) (show k<l.length by omega) hs (.inr (.inr (.inl ⟨rd.1,hv,own.1,own.2⟩)));rw[Xk w (by omega)] at this;exact this
  .have hr:=h _ k hs hk;unfold N2 at hr;have hc:cnB l (Qi l k) k=ai:=aO ⟨ht,aO (by omega),aO (by have:=rd.1;omega),own.2,.inl own.1⟩;have I:wa w.1 (cQ l k).ob=aj:=by simpa using hv
   rw[hc,I,Bool.not_false,kL,kL,Bool.not_eq_false',bt] at hr;have J:XI w l (Qi l k) k:=hr;exact J.le tr (by omega) (by omega)) b (bP _)
 unfold sM TB;rw[EP b key];exact Xk w hb
theorem KW (a b c:List Int) (ha:a.length<=9223372036854775807) (hx:∀ z∈a,0<=z/\z<=255) (hc:c.length<=9223372036854775807) (hy:∀ z∈c,0<=z/\z<=255):Ok (lY (a,b,c)) λy=>y=ai:=by
 unfold lY bd bB iF bI aY cK aF cC;refine ay (P:=TR) (Pz a b c 50 (by omega) (by omega) ha hx hc hy) ?_;rintro⟨w,l⟩ tr;have hl:=tr.len;dsimp only at hl;have r1:=Ip w l (sM w l) l.length (by omega);have r2:=Ip w l (sO w l) l.length (by omega);have so:=My w l (sO w l) l.length;refine aU (TX tr) (aU (aci tr) (aX (λx=>x=aj) (fJ (ar rfl)) ?_));rintro x rfl;refine fJ (cr (rO w l (sO w l) l.length).length (λi x=>x=(i:Int)) ?_ ?_ rfl)
 .rintro i x hi rfl;refine dg (cE (aT ?_));have hm:=bH (T:=.st (.pr (.int .i64) (.int .i64))) (xs:=rO w l (sO w l) l.length) (j:=(i:Int)) (by omega) (by omega);have J:=bH (T:=.st (.pr (.int .i64) (.int .i64))) (xs:=rO w l (sO w l) l.length) (j:=(0:Int)) (by omega) (by omega);refine aX (λx=>x=aj) ?_ ?_
  .refine aR (by omega) (by dsimp only;omega) (aT (aK (λhe=>?_) λ_=>ar rfl));obtain⟨p,q,h1,h2,Y,U⟩:=N3 _ hm;obtain⟨p0,q0,g1,g2,g3,g4⟩:=N3 _ J;have he:(aJ (T:=.st (.pr (.int .i64) (.int .i64))) (rO w l (sO w l) l.length) (i:Int)).2=(aJ (T:=.st (.pr (.int .i64) (.int .i64))) (rO w l (sO w l) l.length) (0:Int)).2:=he;rw[U,g4] at he;have hq:q=q0:=by have he:(q:Int)=(q0:Int):=he;omega
   subst hq;have ah:∀ s k,s<k->k<q->N2 w l (sO w l) s k=aj:=λs k hs hk=>by
    cases hr:N2 w l (sO w l) s k with
    |false=>rfl
    |true=>
     have hin:=Z3 hr hs l.length (by omega);obtain⟨m,M,I⟩:=G2 hin;have Z:(rO w l (sO w l) l.length)[0]'(by omega)=((p0:Int),(q:Int)):=by
      rw[<- g4];show _=aJ (T:=.st (.pr (.int .i64) (.int .i64))) _ ((0:Nat):Int);rw[uA,ax,aB (by omega)];rfl
     by_cases J:m=0
     .subst J;rw[Z] at I;have:=gx Prod.snd I;dsimp only at this;omega
     .have:=List.pairwise_iff_getElem.1 so 0 m (by omega) M (by omega);rw[Z,I] at this;dsimp only at this;omega
   have hr:N2 w l (sM w l) p q=ai:=by
    have e:=UW tr h2 ah;unfold N2 at Y ⊢;rw[e];exact Y
   refine aU (aif (by dsimp only;omega) (p:=aJ (T:=.st (.pr (.int .i64) (.int .i64))) (rO w l (sO w l) l.length) (i:Int)) (by rw[U];exact Z3 hr h1 _ h2)) (ar rfl)
  rintro x rfl;exact fJ (ar (gM (by omega)))
 .rintro x rfl;exact db (aU (x:=ai) (by rw[afk];rfl) (ar rfl))
theorem ShbFirst_law (x:List Int×List Int×List Int) (w:Wb (.st (.pr (.sl (.int .u8)) (.pr (.sl (.int .u8)) (.sl (.int .u8))))) x):lY x=af ai:=by
 obtain⟨a,b,c⟩:=x;obtain⟨⟨l0,w0⟩,_,⟨l2,J⟩⟩:=w;obtain⟨y,h,rfl⟩:=KW a b c l0 (λz I=>Xq (w0 z I)) l2 (λz I=>Xq (J z I));exact h
def inert (f:FuncId):Bool:=aC f 51
theorem QL:∃ I,Tryz.prog.underlying 20=af (.interface I):=⟨#[],by kernel_rfl⟩
theorem aao (w:World):(Op.equal 20 .nilIface .nilIface).run Tryz.prog w= .ok ai w:=by
 obtain⟨I,hu⟩:=QL;have key:∀ d,(Op.equalIn (d+1) 20 .nilIface .nilIface).run Tryz.prog w= .ok ai w:=λd=>by simp[Op.equalIn,run_underlying hu]
 exact key 9999
theorem aa1 {P:Program} {ops:Array Oper} {Q:Exit->Act->List Frame->World->Prop} {i:Nat} {rest:List Nat} {a:Act} {cs:List Frame} {w w':World} {o:Oper} (J:ops[i]? =af o) (I:o.guard=ah) (hr:(execOp a.eval o).run P w= .ok .recover w') (hn:recoverD cs=ah) (h:wpOpsS P ops Q rest (a.put o.dst .nilIface) cs w'):wpOpsS P ops Q (i::rest) a cs w:=by
 have I:iO o (yielded ops a.tmps)=ai:=by unfold iO;rw[I]
 simp only[wpOpsS,J,I,bG,hr,hn];exact h
theorem aa0 {P:Program} {ops:Array Oper} {Q:Exit->Act->List Frame->World->Prop} {i:Nat} {rest:List Nat} {a:Act} {cs:List Frame} {w w':World} {o:Oper} {v:Value} (J:ops[i]? =af o) (I:o.guard=ah) (hr:(execOp a.eval o).run P w= .ok (.value v) w') (h:wpOpsS P ops Q rest (a.put o.dst v) cs w'):wpOpsS P ops Q (i::rest) a cs w:=by
 have I:iO o (yielded ops a.tmps)=ai:=by unfold iO;rw[I]
 simp only[wpOpsS,J,I,bG,hr];exact h
theorem QK:K4 Tryz.prog inert:=by
 intro f hf;have hf:f=51:=aw hf;subst hf;refine ⟨⟨Tryz.f51,Tryz.func51,by kernel_rfl,by kernel_rfl⟩,λargs w=>?_⟩;refine callsD_of_wpS Tryz.func51 rfl λc₀ cs hu=>?_
 refine wpS_seq (wpS_region ?_);generalize ht:(args++oB (Tryz.f51.ntmps-args.size) undef)=T;have hs:5<=T.size:=by
  rw[<- ht];simp only[Array.size_append,Array.size_replicate];have:Tryz.f51.ntmps=5:=rfl;omega
 have hr:recoverD (c₀::cs)=ah:=by simp[recoverD,hu]
 refine aa1 (i:=0) (rest:=[1]) rfl rfl (w':=w) ?_ hr ?_
 .simp[execOp,resolve,invoke,builtin]
 refine aa0 (v:=.bool aj) rfl rfl (w':=w) ?_ ?_
 .have hv:Act.eval (ND {tmps:=T,defers:=[]} (af 2) .nilIface) (.tmp 2)= .nilIface:=by
   simp[Act.eval,ND,show 2<T.size by omega]
  have h2:=aao w;have hcst:Act.eval (ND {tmps:=T,defers:=[]} (af 2) .nilIface) (.const .nilIface)= .nilIface:=rfl;show (execOp (Act.eval (ND {tmps:=T,defers:=[]} (af 2) .nilIface)) _).run _ w=_;simp[execOp,hv,hcst,eqGuard,binOp,h2]
 show Exit.thenS _ _ .normal _ _ _;refine wpS_cond (t:=aj) ?_ ?_
 .simp[Act.eval,ND,show 3<T.size by omega]
 refine wpS_of_wp (wp_skip ?_);have hres:Tryz.f51.results=#[]:=rfl;exact⟨rfl,c₀.mode,rfl,.tuple #[],by simp[results,hres],⟨_,rfl⟩,hu,rfl⟩
def dU {α:Type}:List (Nat×α)->PT α
 |[]=>.leaf
 |p::r=>(dU r).set p.1 (af p.2)
noncomputable abbrev Pg:Program:=Tryz.prog
def cn (D:FT) (m:D.pre.ty.den->Option D.post.ty.den):cu:=⟨D.pre,D.post,m⟩
theorem alq:Pg.follows .mixedOrders=ai:=by kernel_rfl
theorem ac {f:FuncId} {c:cu} {l:List (FuncId×cu)} (h:aI Pg f c) (t:Tu Pg l):Tu Pg ((f,c)::l):=⟨h,t⟩
theorem an:Tu Pg []:=trivial
inductive OI {R:Type}:Option R->Option R->Prop where
 |rfl {a:Option R}:OI a a
 |chk {b:Bool} {k k':Option R} (h:kT k k'):OI (chk b λ_=>k) (chk b λ_=>k')
 |bcase {b:Bool} {t f t' f':Option R} (h1:kT t t') (h2:kT f f'):OI (bcase b t f) (bcase b t' f')
 |lt {α:Type} {x:α} {k k':α->Option R} (h:∀ y,kT (k y) (k' y)):OI (lt x k) (lt x k')
 |jn {α:Type} {o o':Option (R⊕α)} {k k':α->Option R} (h:kT o o') (hk:∀ x,kT (k x) (k' x)):OI (jn o k) (jn o' k')
 |obind {α:Type} {o o':Option α} {k k':α->Option R} (h:kT o o') (hk:∀ x,kT (k x) (k' x)):OI (obind o k) (obind o' k')
 |iter {σ:Type} {f g:σ->Option (σ⊕R)} {x:σ} (h:∀ x,kT (f x) (g x)):OI (fU f x) (iter g x)
theorem OI.o {R:Type} {a b:Option R} (h:OI a b):kT a b:=by
 cases h with
 |rfl=>exact kT.rfl
 |chk h=>exact kT.chk h
 |bcase h g=>exact kT.bcase h g
 |lt h=>exact kT.lt h
 |jn h g=>exact kT.jn h g
 |obind h g=>exact kT.obind h g
 |iter h=>exact kT.iter h
theorem mk {f:FuncId} (D:FT) (m:D.pre.ty.den->Option D.post.ty.den) {l:List (FuncId×cu)} (J:Tu Pg l) (I:TypeId->Option Ty) (he:∀ x,ZR (Vq l) I inert (zS Pg f) D x=m x:=by intro x;kernel_rfl) (hs:(zS Pg f).isSome=ai:=by kernel_rfl) (hb:eQ D.pre.bs.length D.post.bs.length=ai:=by kernel_rfl):aI Pg f (cn D m):=(Rf alq QK J hs he).toC hb
theorem yd {f:FuncId} (D:FT) (m n:D.pre.ty.den->Option D.post.ty.den) (J:∀ x,kT (m x) (n x)) {l:List (FuncId×cu)} (M:Tu Pg l) (I:TypeId->Option Ty) (he:∀ x,ZR (Vq l) I inert (zS Pg f) D x=n x:=by intro x;kernel_rfl) (hs:(zS Pg f).isSome=ai:=by kernel_rfl) (hb:eQ D.pre.bs.length D.post.bs.length=ai:=by kernel_rfl):aI Pg f (cn D m):=((Rf alq QK M hs he).sub J).toC hb
theorem QF {f:FuncId} (D:FT) (hs:(zS Pg f).isSome=ai:=by kernel_rfl) (hb:eQ D.pre.bs.length D.post.bs.length=ai:=by kernel_rfl):aI Pg f (cn D λ_=>ah):=(UM hs).toC hb
abbrev uU:List PV:=[.d aM,.d aM,.d aM,.d aM,.d aM,.nil,.nil]
abbrev vX:List PV:=[.nil,.d aM,.nil,.nil,.nil,.nil,.nil]
abbrev ahp:List PV:=[.ptr 1 0,.d aM,.d aM,.d .bool,.d .bool,.d .bool,.d .bool,.row 4]
abbrev aht:List PV:=[.d aM,.d aM,.d .str,.d .str,.nil,.d aM,.d aM,.d .str,.nil,.nil,.nil]
abbrev La2:List PB:=[.cells 205 ahp,.cells 89 [.d yQ],.gone,.cells 211 aht,.rowsP 9 .str]
abbrev Nq:List PV:=[.ptr 0 0,.ptr 1 0,.ptr 2 0,.ptr 3 0,.ptr 4 0,.ptr 5 0,.ptr 6 0,.ptr 7 0,.d .bool]
abbrev La4:List PB:=[.cells 197 [.d (.sl kB),.d (.sl rP),.d (.sl mb),.d (.sl .str),.d (.sl .str),.d (.sl oR),.d (.sl .str),.row 2,.d aM,.d aM],.gone,.rows 201 ai qR]
abbrev La5:List PB:=[.cells 197 [.d (.sl kB),.d (.sl rP),.d (.sl mb),.d (.sl .str),.d (.sl .str),.d (.sl oR),.d (.sl .str),.row 1,.d aM,.d aM],.rows 201 ai qR]
abbrev La6:List PV:=[.d aM,.row 11,.row 12,.d aM]
abbrev La7:List PB:=[.cells 151 [.nil,.nil],.cells 205 [.ptr 5 0,.d aM,.d aM,.d .bool,.d .bool,.d .bool,.d .bool,.row 6],.cells 151 [.d (.sl G1),.row 7],.rows 9 aj .str,.cells 195 [.d .str,.d aM,.row 8,.row 9],.cells 89 [.d yQ],.rowsP 9 .str,.rows 195 ai sZ,.rows 9 aj .str,.rows 211 ai .sm]
abbrev La8:List PB:=[.cells 236 [.d (.sl G1),.d (.sl sZ),.d aM,.row 1,.row 6,.row 7],.rowsP 211 .sm,.gone,.gone,.cells 211 [.d .sm],.cells 151 [.d Nr],.rows 9 ai .str,.rows 9 ai .str]
abbrev La9:List PV:=[.d (.sl ef),.d aM,.d pZ,.d (.sl ie),.row 8,.row 9,.csl 10 4 4]
abbrev ag5:List PB:=[.cells 105 [.d (.sl ef),.d aM,.d pZ,.d (.sl ie),.row 6,.row 7,.csl 8 4 4],.cells 154 [.d gj],.cells 105 vX,.cells 52 uU,.cells 52 [.d jt],.cells 188 [.d eY],.rows 2 ai aM,.rows 2 ai aM,.cells 188 [.d eY,.d eY,.d eY,.d eY]]
abbrev ahq:List PV:=[.ptr 1 0,.d aM,.d aM,.d .bool,.d .bool,.d .bool,.d .bool,.row 2]
abbrev PH:List PV:=[.d D5,.d aM]
abbrev V7:List PB:=[.cells 205 ahq,.cells 89 PH,.rowsP 9 .str]
abbrev Ml:List PV:=[.ptr 0 0,.ptr 1 0,.ptr 2 0,.ptr 3 0,.ptr 4 0,.ptr 5 0,.ptr 6 0,.ptr 7 0,.d aM]
abbrev aju:List PV:=[.d (.sl ef),.d aM,.d pZ,.d (.sl ie),.row 8,.row 9,.csl 10 4 3]
abbrev ake:List PB:=[.cells 110 [.d uK],.cells 105 aju,.cells 154 [.d gj],.cells 105 vX,.cells 52 uU,.cells 52 [.d jt],.cells 188 La6,.cells 201 [.d qR],.rows 2 ai aM,.rows 2 ai aM,.cells 188 [.d aM,.row 11,.row 12,.d aM,.d eY,.d eY],.rows 2 ai aM,.rows 50 ai (.sl aM)]
abbrev akd:List PB:=[.cells 110 [.d uK],.cells 105 aju,.cells 154 [.d gj],.cells 105 vX,.cells 52 uU,.cells 52 [.d jt],.cells 188 La6,.cells 201 [.d qR],.rows 2 ai aM,.rows 2 ai aM,.cells 188 [.d eY,.d aM,.row 11,.row 12,.d aM,.d eY],.rows 2 ai aM,.rows 50 ai (.sl aM)]
abbrev akc:List PB:=[.cells 110 [.d uK],.cells 105 aju,.cells 154 [.d gj],.cells 105 vX,.cells 52 uU,.cells 52 [.d jt],.cells 188 La6,.cells 201 [.d qR],.rows 2 ai aM,.rows 2 ai aM,.cells 188 [.d eY,.d eY,.d aM,.row 11,.row 12,.d aM],.rows 2 ai aM,.rows 50 ai (.sl aM)]
abbrev ahs:List PV:=[.d (.sl ef),.d aM,.d pZ,.d (.sl ie),.row 8,.row 9,.csl 10 4 2]
abbrev akb:List PB:=[.cells 110 [.d uK],.cells 105 ahs,.cells 154 [.d gj],.cells 105 vX,.cells 52 uU,.cells 52 [.d jt],.cells 188 La6,.cells 201 [.d qR],.rows 2 ai aM,.rows 2 ai aM,.cells 188 [.d aM,.row 11,.row 12,.d aM,.d eY],.rows 2 ai aM,.rows 50 ai (.sl aM)]
abbrev aka:List PB:=[.cells 110 [.d uK],.cells 105 ahs,.cells 154 [.d gj],.cells 105 vX,.cells 52 uU,.cells 52 [.d jt],.cells 188 La6,.cells 201 [.d qR],.rows 2 ai aM,.rows 2 ai aM,.cells 188 [.d eY,.d aM,.row 11,.row 12,.d aM],.rows 2 ai aM,.rows 50 ai (.sl aM)]
abbrev Zg:List PB:=[.cells 236 [.d (.sl G1),.d (.sl sZ),.d aM,.row 1,.row 4,.row 5],.rowsP 211 .sm,.gone,.gone,.rows 9 ai .str,.rows 9 ai .str]
abbrev Mk:List PV:=[.ptr 0 0,.ptr 1 0,.ptr 2 0,.ptr 3 0,.ptr 4 0,.ptr 5 0,.ptr 6 0,.d .bool]
abbrev ig:List PV:=[.ptr 0 0,.d .bool]
abbrev Zf:List PB:=[.cells 236 [.d (.sl G1),.d (.sl sZ),.d aM,.row 1,.row 2,.row 3],.rowsP 211 .sm,.rows 9 ai .str,.rows 9 ai .str]
abbrev ak9:List PB:=[.cells 110 [.d uK],.cells 105 [.d (.sl ef),.d aM,.d pZ,.d (.sl ie),.row 8,.row 9,.csl 10 4 1],.cells 154 [.d gj],.cells 105 vX,.cells 52 uU,.cells 52 [.d jt],.cells 188 La6,.cells 201 [.d qR],.rows 2 ai aM,.rows 2 ai aM,.cells 188 La6,.rows 2 ai aM,.rows 50 ai (.sl aM)]
abbrev Mj:List PV:=[.ptr 0 0,.ptr 1 0,.ptr 2 0,.ptr 3 0,.ptr 4 0,.ptr 5 0,.ptr 6 0]
abbrev ak8:List PB:=[.cells 110 [.d uK],.cells 105 La9,.cells 154 [.d gj],.cells 105 vX,.cells 52 uU,.cells 52 [.d jt],.cells 188 La6,.cells 201 [.d qR],.rows 2 ai aM,.rows 2 ai aM,.cells 188 [.d aM,.row 11,.row 12,.d aM,.d eY,.d eY,.d eY],.rows 2 ai aM,.rows 50 ai (.sl aM)]
abbrev ak7:List PB:=[.cells 110 [.d uK],.cells 105 La9,.cells 154 [.d gj],.cells 105 vX,.cells 52 uU,.cells 52 [.d jt],.cells 188 La6,.cells 201 [.d qR],.rows 2 ai aM,.rows 2 ai aM,.cells 188 [.d eY,.d aM,.row 11,.row 12,.d aM,.d eY,.d eY],.rows 2 ai aM,.rows 50 ai (.sl aM)]
abbrev ak6:List PB:=[.cells 110 [.d uK],.cells 105 La9,.cells 154 [.d gj],.cells 105 vX,.cells 52 uU,.cells 52 [.d jt],.cells 188 La6,.cells 201 [.d qR],.rows 2 ai aM,.rows 2 ai aM,.cells 188 [.d eY,.d eY,.d aM,.row 11,.row 12,.d aM,.d eY],.rows 2 ai aM,.rows 50 ai (.sl aM)]
abbrev ak5:List PB:=[.cells 110 [.d uK],.cells 105 La9,.cells 154 [.d gj],.cells 105 vX,.cells 52 uU,.cells 52 [.d jt],.cells 188 La6,.cells 201 [.d qR],.rows 2 ai aM,.rows 2 ai aM,.cells 188 [.d eY,.d eY,.d eY,.d aM,.row 11,.row 12,.d aM],.rows 2 ai aM,.rows 50 ai (.sl aM)]
abbrev K3:List PB:=[.cells 31 [.d nD],.cells 97 [.d iT],.cells 52 [.d jt],.cells 97 vX]
abbrev Mi:List PV:=[.ptr 0 0,.ptr 1 0,.ptr 2 0,.ptr 3 0,.ptr 4 0,.ptr 5 0]
abbrev ak4:List PB:=[.cells 105 [.d (.sl ef),.d aM,.d pZ,.d (.sl ie),.row 6,.row 7,.csl 8 4 3],.cells 154 [.d gj],.cells 105 vX,.cells 52 uU,.cells 52 [.d jt],.cells 188 [.d eY],.rows 2 ai aM,.rows 2 ai aM,.cells 188 [.d eY,.d eY,.d eY]]
abbrev Ta:List PV:=[.d (.sl ef),.d aM,.d pZ,.d (.sl ie),.row 7,.row 8,.csl 9 4 4]
abbrev rN:List PV:=[.ptr 0 0,.ptr 1 0,.d .bool]
abbrev Aa:List PV:=[.ptr 0 0,.ptr 1 0,.ptr 2 0,.ptr 3 0,.d .bool]
abbrev afx:List PV:=[.nil,.nil,.nil,.nil,.nil,.nil]
abbrev ak3:List PB:=[.cells 151 [.d Nr],.cells 31 afx,.cells 31 [.row 4,.row 5,.row 6,.row 7,.nil,.nil],.cells 239 [.d G1],.rows 123 ai kB,.rows 125 ai rP,.rows 116 ai mb,.rows 9 ai .str]
abbrev acm:List PV:=[.nil,.nil,.nil,.nil,.nil,.nil,.nil]
abbrev an3:List PV:=[.d (.sl kB),.d (.sl rP),.d (.sl mb),.d (.sl .str),.d (.sl .str),.d (.sl oR),.row 5]
abbrev anf:List PB:=[.cells 151 [.d Nr],.cells 110 acm,.cells 110 an3,.cells 197 [.d (.sl kB),.d (.sl rP),.d (.sl mb),.d (.sl .str),.d (.sl .str),.d (.sl oR),.d (.sl .str),.row 6,.d aM,.d aM],.cells 184 [.d aM,.row 6],.rows 184 ai w9,.rows 201 ai qR]
abbrev Hy:List PV:=[.row 0,.d aM,.row 1,.row 2]
abbrev ak2:List PB:=[.cells 89 [.d yQ],.cells 97 [.d iT],.cells 31 [.d nD],.rows 52 ai jt,.cells 50 [.row 5,.row 6,.row 7,.row 8],.rows 3 ai aM,.rows 3 ai aM,.rows 3 ai aM,.rows 3 ai aM]
abbrev Fz:List PV:=[.ptr 0 0,.ptr 1 0,.ptr 2 0,.d aM]
abbrev K2:List PV:=[.d aM,.d (.sl aM),.d kG,.d aM]
abbrev Ze:List PV:=[.d (.sl ef),.d aM,.d pZ,.d (.sl ie),.row 7,.row 8,.csl 9 4 3]
abbrev ak1:List PB:=[.cells 89 [.d yQ],.cells 97 [.d iT],.cells 31 [.d nD],.cells 50 [.row 4,.row 5,.row 6,.row 7],.rows 3 ai aM,.rows 3 ai aM,.rows 3 ai aM,.rows 3 ai aM]
abbrev D3:List PV:=[.ptr 0 0,.ptr 1 0,.ptr 2 0,.d .bool]
abbrev vW:List PV:=[.ptr 0 0,.ptr 1 0,.d aM]
abbrev K0:List PV:=[.d aM,.row 10,.row 11,.d aM]
abbrev afw:List PV:=[.d aM,.row 0,.row 1,.d aM]
abbrev XF:List PV:=[.d aM,.nil,.nil,.d aM]
abbrev ak0:List PB:=[.rows 2 ai aM,.rows 50 ai (.sl aM),.cells 201 [.d qR],.cells 188 afw,.cells 188 XF]
abbrev ajz:List PB:=[.cells 236 [.d (.sl G1),.d (.sl sZ),.d aM,.row 4,.row 5,.row 6],.gone,.gone,.gone,.rowsP 211 .sm,.rows 9 ai .str,.rows 9 ai .str]
abbrev Cf:List PV:=[.nil,.d aM,.nil,.nil]
abbrev ajy:List PB:=[.cells 94 [.row 2,.d aM,.row 3,.row 4],.cells 94 Cf,.rows 167 ai ef,.rows 4 ai .bool,.rows 169 ai ie]
abbrev KZ:List PV:=[.ptr 0 0,.ptr 3 0,.d .bool]
abbrev ane:List PB:=[.cells 105 [.d (.sl ef),.d aM,.d pZ,.d (.sl ie),.row 6,.row 7,.csl 8 4 2],.cells 154 [.d gj],.cells 105 vX,.cells 52 uU,.cells 52 [.d jt],.cells 188 [.d eY],.rows 2 ai aM,.rows 2 ai aM,.cells 188 [.d eY,.d eY]]
abbrev and:List PB:=[.cells 34 acm,.cells 89 [.d yQ],.cells 34 an3,.cells 97 [.d iT],.rows 52 aj jt,.rows 52 ai jt]
abbrev pY:List PB:=[.cells 31 [.d nD]]
abbrev anc:List PB:=[.cells 89 [.d yQ],.cells 97 [.d iT],.cells 31 [.d nD],.rows 52 ai jt,.cells 50 [.row 7,.row 8,.row 9,.row 10],.cells 52 [.d jt],.cells 97 [.d iT],.rows 3 ai aM,.rows 3 ai aM,.rows 3 ai aM,.rows 3 ai aM]
abbrev ag4:List PB:=[.cells 31 afx,.cells 31 [.row 2,.row 3,.row 4,.row 5,.row 6,.row 7],.rows 123 aj kB,.rows 125 aj rP,.rows 116 aj mb,.rows 9 aj .str,.rows 9 aj .str,.rows 127 ai oR]
abbrev vV:List PV:=[.ptr 0 0,.d aM]
abbrev acl:List PV:=[.row 2,.row 3,.row 4,.row 5]
abbrev anb:List PB:=[.cells 89 [.d yQ],.cells 50 acl,.rows 3 ai aM,.rows 3 ai aM,.rows 3 ai aM,.rows 3 ai aM,.cells 52 uU,.cells 52 [.d aM,.d aM,.d aM,.d aM,.d aM,.d (.sl aM),.nil]]
abbrev ag3:List PV:=[.d (.sl ef),.d aM,.d pZ,.d (.sl ie),.row 7,.row 8,.csl 9 4 2]
abbrev Mh:List PV:=[.d vY,.d jt,.d .bool]
abbrev ana:List PB:=[.cells 89 [.d yQ],.cells 50 acl,.rows 3 ai aM,.rows 3 ai aM,.rows 3 ai aM,.rows 3 ai aM,.cells 97 [.d iT],.cells 31 [.d nD],.cells 52 uU,.cells 52 uU]
abbrev an9:List PB:=[.cells 151 [.d Nr],.cells 31 afx,.cells 31 [.row 3,.row 4,.row 5,.row 6,.nil,.nil],.rows 123 ai kB,.rows 125 ai rP,.rows 116 ai mb,.rows 9 ai .str]
abbrev ajx:List PV:=[.d (.sl ef),.d aM,.d pZ,.d (.sl ie),.row 3,.row 4,.row 5]
abbrev Mg:List PV:=[.d uK,.d vY,.d gj]
abbrev ajw:List PB:=[.rows 167 ai ef,.rows 4 ai .bool,.rows 169 ai ie,.cells 94 Hy,.rows 3 ai aM]
abbrev acp:List PV:=[.row 3,.d aM,.row 4,.row 5]
abbrev an8:List PB:=[.cells 31 [.d nD],.cells 94 acp,.cells 94 Cf,.rows 167 ai ef,.rows 4 ai .bool,.rows 169 ai ie]
abbrev vU:List PV:=[.d aM,.d aM]
abbrev ajv:List PB:=[.rows 52 ai jt,.cells 110 [.d uK],.cells 105 [.d vY],.cells 105 vX]
abbrev an7:List PB:=[.cells 184 [.d w9],.cells 188 [.d aM,.row 3,.row 4,.d aM],.cells 188 XF,.rows 2 ai aM,.rows 50 ai (.sl aM)]
abbrev an6:List PB:=[.cells 205 ahp,.cells 89 [.d yQ],.gone,.rows 211 ai .sm,.rowsP 9 .str]
abbrev ajt:List PV:=[.ptr 1 0,.d aM,.d aM,.d .bool,.d .bool,.d .bool,.d .bool,.row 3]
abbrev an5:List PB:=[.cells 52 uU,.cells 188 [.d eY],.cells 201 [.d qR],.cells 52 [.d aM,.d aM,.d aM,.d aM,.d aM,.row 4,.nil],.rows 3 ai aM]
abbrev PF:List PB:=[.cells 211 [.d .sm]]
abbrev ag2:List PV:=[.agg [.agg Hy,.row 3,.row 4,.csl 5 4 4]]
abbrev S_:List PB:=[.cells 151 [.d Nr]]
abbrev ajs:List PB:=[.cells 31 [.d nD],.cells 184 [.d w9],.cells 201 [.d qR]]
abbrev ag1:List PB:=[.cells 151 [.d Nr],.cells 195 [.d sZ]]
abbrev ag0:List PB:=[.cells 151 [.d Nr],.cells 209 [.d .ex]]
abbrev ajr:List PB:=[.cells 31 [.d nD],.rows 9 ai .str,.cells 123 [.d kB]]
abbrev ajq:List PB:=[.rows 167 ai ef,.rows 4 ai .bool,.rows 169 ai ie]
abbrev afz:List PB:=[.cells 31 [.d nD],.cells 201 [.d qR]]
abbrev afy:List PV:=[.ptr 0 0,.ptr 4 0,.ptr 5 0,.d .bool]
abbrev ajp:List PV:=[.ptr 0 0,.ptr 1 0,.ptr 2 0,.ptr 3 0,.ptr 4 0,.d aM]
abbrev V6:List PB:=[.cells 31 [.d nD],.cells 94 [.d Hz]]
abbrev ajo:List PB:=[.cells 89 [.d yQ],.rows 3 ai aM,.rows 3 ai aM]
abbrev Zd:List PB:=[.cells 31 [.d nD],.rows 9 ai .str]
abbrev ajn:List PB:=[.cells 52 [.d jt],.cells 97 vX,.cells 97 ajx,.rows 2 ai aM,.rows 2 ai aM,.rows 3 ai aM]
abbrev an4:List PB:=[.cells 89 PH,.cells 50 acl,.rows 3 ai aM,.rows 3 ai aM,.rows 3 ai aM,.rows 3 ai aM]
abbrev Mf:List PV:=[.d (.sl aM),.d aM]
abbrev PD:List PV:=[.ptr 0 0,.row 1,.d aM]
abbrev Zc:List PB:=[.cells 239 [.d G1]]
abbrev Zb:List PB:=[.cells 89 [.d yQ]]
abbrev ajm:List PV:=[.agg [.agg Hy,.row 3,.row 4,.csl 5 4 3]]
abbrev S9:List PB:=[.cells 89 PH]
abbrev acu:List PB:=[.rows 2 ai aM,.rows 50 ai (.sl aM)]
abbrev act:List PB:=[.cells 110 [.d uK],.cells 105 [.d vY]]
abbrev acs:List PB:=[.cells 31 [.d nD],.cells 184 [.d w9]]
abbrev qK:List PV:=[.d (.sl aM)]
abbrev acr:List PV:=[.ptr 0 0,.ptr 1 0,.ptr 2 0,.ptr 3 0]
abbrev ahr:List PV:=[.d (.sl ef),.d aM,.d pZ,.d (.sl ie),.row 7,.row 8,.csl 9 4 1]
abbrev acq:List PB:=[.cells 94 [.d Hz],.rows 3 ai aM]
abbrev Tb:List PV:=[.ptr 0 0,.d aM,.d aM]
def tyT:PT Ty:=dU [(2,aM),(3,aM),(4,.bool),(9,.str),(50,(.sl aM)),(52,jt),(57,gj),(77,gj),(91,pZ),(116,mb),(123,kB),(125,rP),(127,oR),(154,gj),(167,ef),(169,ie),(184,w9),(188,eY),(195,sZ),(201,qR),(209,.ex),(211,.sm),(239,G1)]
def b9 (t:TypeId):Option Ty:=tyT.get t
def Bg:FT:=⟨⟨[],[]⟩,⟨[.d (.sl .str)],[]⟩,.leaf⟩
def L4:cu:=cn Bg kx
def zI:FT:=⟨⟨[.d .str],[]⟩,⟨[.d .bool],[]⟩,dU [(8,(.j ⟨[0,3],[4],⟨[.d aM],[]⟩,[]⟩))]⟩
def Ko:cu:=cn zI jJ
def GF:FT:=⟨⟨[.d (.int .u8)],[]⟩,⟨[.d .bool],[]⟩,dU [(2,(.j ⟨[],[2],⟨[.d .bool],[]⟩,[]⟩))]⟩
def Sn:cu:=cn GF lq
def J5:FT:=⟨⟨[.d (.int .u8)],[]⟩,⟨[.d .bool],[]⟩,dU [(2,(.j ⟨[],[2],⟨[.d .bool],[]⟩,[]⟩))]⟩
def Vo:cu:=cn J5 rq
def J4:FT:=⟨⟨[.d (.int .u8)],[]⟩,⟨[.d .bool],[]⟩,dU [(2,(.j ⟨[],[2],⟨[.d .bool],[]⟩,[]⟩))]⟩
def Vn:cu:=cn J4 pq
def GG:FT:=⟨⟨[.d .str],[]⟩,⟨[.d .bool],[]⟩,dU [(3,(.j ⟨[0],[21],⟨[.d .bool],[]⟩,[]⟩)),(14,(.j ⟨[0],[3],⟨[.d aM],[]⟩,[]⟩))]⟩
def So:cu:=cn GG fh
def JZ:FT:=⟨⟨[.d .bool],[]⟩,⟨[.d aM],[]⟩,.leaf⟩
def Vf:cu:=cn JZ fY
def J0:FT:=⟨⟨vU,[]⟩,⟨[.d aM,.d .bool],[]⟩,.leaf⟩
def Vg:cu:=cn J0 uk
def Gy:FT:=⟨⟨[.d aM,.d aM,.d aM],[]⟩,⟨[.d aM,.d .bool],[]⟩,dU [(91,(.j ⟨[],[6,7],⟨[.d aM,.d .bool],[]⟩,[]⟩)),(97,(.j ⟨[],[6,7],⟨[.d aM,.d .bool],[]⟩,[]⟩))]⟩
def Sj:cu:=cn Gy sq
def J1:FT:=⟨⟨vU,[]⟩,⟨[.d aM],[]⟩,dU [(12,(.j ⟨[],[5],⟨[.d aM],[]⟩,[]⟩))]⟩
def Vh:cu:=cn J1 rm
def Bf:FT:=⟨⟨[.d aM],[]⟩,⟨[.d aM],[]⟩,dU [(4,(.j ⟨[0],[3],⟨[.d .bool],[]⟩,[]⟩)),(10,(.j ⟨[0],[10],⟨[.d .bool],[]⟩,[]⟩)),(16,(.j ⟨[],[17],⟨[.d .bool],[]⟩,[]⟩))]⟩
def L3:cu:=cn Bf mi
def o_:FT:=⟨⟨[.d .ex],[]⟩,⟨[.d .bool],[]⟩,dU [(2,(.j ⟨[],[1,3],⟨ig,[.cells 209 [.d .ex]]⟩,[]⟩)),(5,(.j ⟨[],[1,50],⟨ig,[.cells 209 [.d .ex]]⟩,[]⟩)),(16,(.j ⟨[],[1,4],⟨vV,[.cells 209 [.d .ex]]⟩,[]⟩))]⟩
def Hm:cu:=cn o_ jf
def G' (n:Nat):cu:=cn o_ (ib n)
def J3:FT:=⟨⟨[.d .ex],[]⟩,⟨[.d .bool],[]⟩,dU [(2,(.j ⟨[],[2],⟨[.d .bool],[]⟩,[]⟩))]⟩
def Vm:cu:=cn J3 po
def sY:FT:=⟨⟨[.d .sm],[]⟩,⟨[.d .bool],[]⟩,dU [(3,(.j ⟨[],[1,13],⟨ig,PF⟩,[]⟩)),(10,(.j ⟨[],[1,3],⟨ig,PF⟩,[]⟩)),(13,(.j ⟨[],[1,47],⟨ig,PF⟩,[]⟩)),(21,(.j ⟨[],[1,66],⟨ig,PF⟩,[]⟩)),(29,(.j ⟨[],[1,95],⟨ig,PF⟩,[]⟩)),(36,(.j ⟨[],[1,4],⟨ig,PF⟩,[]⟩)),(39,(.j ⟨[],[1,130],⟨ig,PF⟩,[]⟩)),(46,(.j ⟨[],[1,5],⟨ig,PF⟩,[]⟩)),(49,(.j ⟨[],[1,157],⟨ig,PF⟩,[]⟩)),(56,(.j ⟨[],[2],⟨[.d .bool],[]⟩,[]⟩))]⟩
def G_ (n:Nat):cu:=cn sY (eH n)
def nZ:FT:=⟨⟨[.d (.sl .sm)],[]⟩,⟨[.d .bool],[]⟩,dU [(6,(.j ⟨[0],[3],⟨[.d aM],[]⟩,[]⟩))]⟩
def Fk:cu:=cn nZ nM
def EE (n:Nat):cu:=cn nZ (dF n)
def yr:FT:=⟨⟨[.d G1],[]⟩,⟨[.d .bool],[]⟩,dU [(3,(.j ⟨[],[1,31],⟨ig,Zc⟩,[]⟩)),(11,(.j ⟨[],[1,50],⟨ig,Zc⟩,[]⟩)),(18,(.j ⟨[],[2],⟨[.d .bool],[]⟩,[]⟩))]⟩
def Hl:cu:=cn yr j_
def GD:FT:=⟨⟨[.d Nr],[]⟩,⟨[.d .bool],[]⟩,dU [(6,(.j ⟨[],[1,3],⟨vV,S_⟩,[]⟩)),(27,(.j ⟨[],[1,4],⟨vV,S_⟩,[]⟩)),(42,(.j ⟨[4],[1,5,6],⟨vW,ag1⟩,[]⟩)),(59,(.j ⟨[4],[1,56],⟨ig,S_⟩,[]⟩))]⟩
def Sm:cu:=cn GD pJ
def Xd:FT:=⟨⟨[.d (.sl .str),.d .str],[]⟩,⟨[.d aM],[]⟩,dU [(6,(.j ⟨[0,1],[5],⟨[.d aM],[]⟩,[]⟩))]⟩
def af6:cu:=cn Xd jb
def GA:FT:=⟨⟨[.d (.sl G1),.d .str],[]⟩,⟨[.d aM],[]⟩,dU [(6,(.j ⟨[0,1],[5],⟨[.d aM],[]⟩,[]⟩))]⟩
def Sl:cu:=cn GA ia
def Be:FT:=⟨⟨[.d (.sl sZ),.d .str],[]⟩,⟨[.d aM],[]⟩,dU [(6,(.j ⟨[0,1],[5],⟨[.d aM],[]⟩,[]⟩))]⟩
def L2:cu:=cn Be gQ
def Gz:FT:=⟨⟨[.d Nr,.d aM,.d .str],[]⟩,⟨[.d aM],[]⟩,dU [(3,(.j ⟨[2],[3,27],⟨ig,S_⟩,[]⟩)),(52,(.j ⟨[7],[3,56],⟨ig,S_⟩,[]⟩))]⟩
def Sk:cu:=cn Gz pI
def M6:FT:=⟨⟨[.d Nr,.d aM,.d .str,.d aM,.d aM],[]⟩,⟨[.d aM],[]⟩,dU [(13,(.j ⟨[],[25],⟨[.d .bool],[]⟩,[]⟩))]⟩
def YD:cu:=cn M6 gD
def xR:FT:=⟨⟨[.d .ex],[]⟩,⟨vU,[]⟩,dU [(8,(.j ⟨[],[1,4,5,6],⟨[.ptr 0 0,.d aM,.d aM,.d aM],[.cells 209 [.d .ex]]⟩,[]⟩))]⟩
def Vk:cu:=cn xR BT
def Um (n:Nat):cu:=cn xR (ng n)
def xQ:FT:=⟨⟨[.d Nr,.d aM,.d .ex],[]⟩,⟨[.d aM],[]⟩,dU [(7,(.j ⟨[1],[3,5,7],⟨vW,ag0⟩,[]⟩)),(21,(.j ⟨[1],[3,5,7,8],⟨[.ptr 0 0,.ptr 1 0,.d aM,.d aM],ag0⟩,[]⟩)),(23,(.j ⟨[1,7,8],[3,5,33],⟨rN,ag0⟩,[]⟩))]⟩
def Vi:cu:=cn xQ BS
def Ul (n:Nat):cu:=cn xQ (ne n)
def M7:FT:=⟨⟨[.d Nr,.d aM,.d .ex],[]⟩,⟨[.d aM],[]⟩,dU [(13,(.j ⟨[1],[3,5,22],⟨rN,ag0⟩,[]⟩))]⟩
def YE:cu:=cn M7 mh
def Dz:FT:=⟨⟨[.d .bool],[]⟩,⟨[.d aM],[]⟩,.leaf⟩
def Pa:cu:=cn Dz cZ
def Xc:FT:=⟨⟨vU,[]⟩,⟨[.d aM],[]⟩,.leaf⟩
def af5:cu:=cn Xc ja
def wS:FT:=⟨⟨[.ptr 0 0,.d aM,.d aM,.d .str],Zf⟩,⟨[.d .bool],Zf⟩,dU [(6,(.j ⟨[1,2,3],[0,9],⟨vV,Zf⟩,[]⟩)),(17,(.j ⟨[1,2,3,9],[0,46],⟨ig,Zf⟩,[]⟩))]⟩
def Fj:cu:=cn wS dX
def Bd:FT:=⟨⟨[.ptr 0 0,.d .sm],Zf⟩,⟨[.d aM],Zg⟩,dU [(1,(.a [.ren 0 4,.ren 0 5])),(28,(.j ⟨[6,7,8,9,30],[0,3,5,67],⟨afy,La8⟩,[]⟩)),(41,(.j ⟨[],[4],⟨[.d aM],Zg⟩,[]⟩)),(44,(.j ⟨[6,7,8,9,30],[0,3,5,91],⟨afy,La8⟩,[]⟩)),(51,(.j ⟨[],[4],⟨[.d aM],Zg⟩,[]⟩)),(63,(.j ⟨[],[4],⟨[.d aM],Zg⟩,[]⟩)),(66,(.j ⟨[6,7,8,9,30],[0,3,5,119],⟨afy,La8⟩,[]⟩)),(89,(.j ⟨[],[4],⟨[.d aM],Zg⟩,[]⟩)),(108,(.j ⟨[],[0,3,187],⟨[.ptr 0 0,.ptr 4 0,.d .bool],[.cells 236 [.d (.sl G1),.d (.sl sZ),.d aM,.row 1,.row 5,.row 6],.rowsP 211 .sm,.gone,.gone,.cells 211 [.d .sm],.rows 9 ai .str,.rows 9 ai .str]⟩,[]⟩)),(131,(.j ⟨[],[4],⟨[.d aM],Zg⟩,[]⟩)),(137,(.j ⟨[6],[0,3,5,14],⟨[.ptr 0 0,.ptr 4 0,.ptr 5 0,.d aM],La8⟩,[]⟩)),(139,(.j ⟨[6],[0,3,5,14],⟨[.ptr 0 0,.ptr 4 0,.ptr 5 0,.d aM],La8⟩,[]⟩)),(140,(.j ⟨[6,14],[0,3,5,253],⟨afy,La8⟩,[]⟩))]⟩
def LZ:cu:=cn Bd mg
def r7:FT:=⟨⟨[.ptr 0 0,.d (.sl .sm)],Zf⟩,⟨vU,ajz⟩,dU [(1,(.a [.ren 0 3,.ren 0 4,.ren 0 5])),(6,(.j ⟨[1],[0,6],⟨vV,ajz⟩,[]⟩)),(19,(.j ⟨[1,6],[0,7,8],⟨[.ptr 0 0,.ptr 4 0,.d aM],[.cells 236 [.d (.sl G1),.d (.sl sZ),.d aM,.row 5,.row 6,.row 7],.gone,.gone,.gone,.cells 211 [.d .sm],.rowsP 211 .sm,.rows 9 ai .str,.rows 9 ai .str]⟩,[]⟩)),(37,(.j ⟨[1,6],[0,8,9],⟨Tb,ajz⟩,[]⟩))]⟩
def L1:cu:=cn r7 vM
def Ly (n:Nat):cu:=cn r7 (iH n)
def xS:FT:=⟨⟨[.d (.sl .sm)],[]⟩,⟨[.d aM],[]⟩,dU [(8,(.j ⟨[0],[3,4],⟨vU,[]⟩,[]⟩))]⟩
def Vl:cu:=cn xS BU
def Un (n:Nat):cu:=cn xS (nh n)
def J2:FT:=⟨⟨[.d (.sl G1)],[]⟩,⟨vU,[]⟩,dU [(8,(.j ⟨[0],[4,5,6,7,8],⟨[.d aM,.d aM,.d aM,.d aM,.d aM],[]⟩,[]⟩)),(16,(.j ⟨[0,8],[4,5,6,7],⟨[.d aM,.d aM,.d aM,.d aM],[]⟩,[]⟩)),(38,(.j ⟨[0,8],[4,5,6,7,9],⟨[.d aM,.d aM,.d aM,.d aM,.ptr 0 0],Zc⟩,[]⟩)),(39,(.j ⟨[0,4,5,6,7,8,36],[9,39],⟨ig,Zc⟩,[]⟩)),(47,(.j ⟨[0,4,5,6,7,8,36],[9,47],⟨ig,Zc⟩,[]⟩)),(61,(.j ⟨[0,4,5,6,7,8],[9,69],⟨ig,Zc⟩,[]⟩))]⟩
def Vj:cu:=cn J2 rn
def Dy:FT:=⟨⟨[.d Nr],[]⟩,⟨vU,[]⟩,dU [(6,(.j ⟨[],[1,4],⟨vV,S_⟩,[]⟩)),(17,(.j ⟨[4],[1,5,37],⟨rN,ag1⟩,[]⟩)),(29,(.j ⟨[],[1,6],⟨vV,S_⟩,[]⟩)),(51,(.j ⟨[6],[1,7,8],⟨vW,ag1⟩,[]⟩)),(62,(.j ⟨[6,8],[1,7,90],⟨rN,ag1⟩,[]⟩))]⟩
def O_:cu:=cn Dy nL
def DA:FT:=⟨⟨[.d Nr],[]⟩,⟨vU,[]⟩,dU [(44,(.j ⟨[],[1,8,9],⟨Tb,S_⟩,[]⟩)),(67,(.a [.cel 10 3 211 .sm,.cel 10 4 9 .str,.cel 10 5 9 .str])),(69,(.j ⟨[],[1,10,11],⟨vW,[.cells 151 [.d Nr],.cells 236 [.d (.sl G1),.d (.sl sZ),.d aM,.row 2,.row 3,.row 4],.rowsP 211 .sm,.rows 9 ai .str,.rows 9 ai .str]⟩,[]⟩))]⟩
def Pb:cu:=cn DA fo
def xP:FT:=⟨⟨[.row 0,.d aM,.d aM,.d (.sl .sm)],[.rows 127 ai oR]⟩,⟨[.row 1,.d aM],[.gone,.rows 127 ai oR]⟩,dU [(1,(.a [.ren 0 0])),(6,(.j ⟨[1,3],[0,2,10],⟨[.row 1,.d aM,.d aM],[.gone,.rows 127 ai oR]⟩,[]⟩)),(25,(.a [.nil 8 127 oR]))]⟩
def U':cu:=cn xP IF
def Uk (n:Nat):cu:=cn xP (py n)
def Gv:FT:=⟨⟨[.d (.sl rP),.d .str],[]⟩,⟨[.d aM],[]⟩,dU [(6,(.j ⟨[0,1],[5],⟨[.d aM],[]⟩,[]⟩))]⟩
def Sg:cu:=cn Gv km
def Gx:FT:=⟨⟨[.d nD,.d .str],[]⟩,⟨[.d aM],[]⟩,dU [(6,(.j ⟨[1],[2,5],⟨vV,pY⟩,[]⟩))]⟩
def Si:cu:=cn Gx lm
def JX:FT:=⟨⟨[.d Nr],[]⟩,⟨[.d nD],[]⟩,dU [(18,(.j ⟨[],[1,2,3,6],⟨Fz,an9⟩,[.cel 3 0 123 kB,.cel 3 1 125 rP,.cel 3 2 116 mb,.cel 3 3 9 .str]⟩)),(31,(.j ⟨[6],[1,2,3],⟨[.ptr 0 0,.ptr 1 0,.ptr 2 0],an9⟩,[]⟩)),(32,(.j ⟨[6,31],[1,2,3,7,39],⟨Aa,ak3⟩,[]⟩)),(42,(.j ⟨[6],[1,2,3,7,8],⟨[.ptr 0 0,.ptr 1 0,.ptr 2 0,.ptr 3 0,.d aM],ak3⟩,[]⟩)),(53,(.j ⟨[6,31],[1,2,3,7,65],⟨Aa,ak3⟩,[]⟩)),(69,(.a [.cel 3 5 127 oR])),(71,(.j ⟨[],[1,2,3,9],⟨Fz,[.cells 151 [.d Nr],.cells 31 afx,.cells 31 [.row 3,.row 4,.row 5,.row 6,.row 7,.row 8],.rows 123 ai kB,.rows 125 ai rP,.rows 116 ai mb,.rows 9 ai .str,.rows 9 ai .str,.rows 127 ai oR]⟩,[.cel 3 4 9 .str]⟩))]⟩
def Vd:cu:=cn JX uj
def JU:FT:=⟨⟨[.d nD],[]⟩,⟨[.d (.sl .str),.d .bool],[]⟩,dU [(8,(.j ⟨[],[1,4,5],⟨PD,Zd⟩,[.nil 4 9 .str]⟩)),(15,(.j ⟨[],[1,4,5],⟨PD,Zd⟩,[]⟩)),(37,(.j ⟨[5],[1,4,6,51],⟨[.ptr 0 0,.row 1,.ptr 2 0,.d .bool],ajr⟩,[]⟩)),(48,(.j ⟨[5],[1,4,6,7],⟨[.ptr 0 0,.row 1,.ptr 2 0,.d aM],ajr⟩,[]⟩)),(59,(.j ⟨[5,7],[1,4,6,93],⟨[.ptr 0 0,.row 1,.ptr 2 0,.d .bool],ajr⟩,[]⟩)),(72,(.j ⟨[],[1,4,9],⟨PD,Zd⟩,[]⟩)),(87,(.j ⟨[],[1,4,10],⟨PD,Zd⟩,[]⟩))]⟩
def Va:cu:=cn JU pm
def yq:FT:=⟨⟨[.d nD],[]⟩,⟨[.d .bool],[]⟩,dU [(3,(.j ⟨[],[1,49],⟨ig,pY⟩,[]⟩)),(24,(.j ⟨[3],[1,5],⟨vV,pY⟩,[]⟩)),(33,(.j ⟨[3,5],[1,79],⟨ig,pY⟩,[]⟩)),(45,(.j ⟨[],[1,6],⟨vV,pY⟩,[]⟩)),(56,(.j ⟨[6],[1,109],⟨ig,pY⟩,[]⟩)),(68,(.j ⟨[],[1,8],⟨vV,pY⟩,[]⟩)),(76,(.j ⟨[8],[1],⟨[.ptr 0 0],pY⟩,[]⟩)),(80,(.j ⟨[8],[1,9,132],⟨rN,[.cells 31 [.d nD],.cells 127 [.d oR]]⟩,[]⟩)),(87,(.j ⟨[8],[1,9,146],⟨rN,[.cells 31 [.d nD],.cells 127 [.d oR]]⟩,[]⟩)),(90,(.j ⟨[8],[1,165],⟨ig,pY⟩,[]⟩))]⟩
def Hk:cu:=cn yq h_
def zH:FT:=⟨⟨[.d qR],[]⟩,⟨qK,[]⟩,dU [(6,(.j ⟨[4],[1,5],⟨ig,[.cells 201 [.d qR]]⟩,[]⟩)),(24,(.j ⟨[4],[1,13],⟨ig,[.cells 201 [.d qR]]⟩,[]⟩)),(46,(.j ⟨[4],[1,37],⟨ig,[.cells 201 [.d qR]]⟩,[]⟩))]⟩
def Kn:cu:=cn zH jI
def Gw:FT:=⟨⟨[.d aM],[]⟩,⟨[.d .bool],[]⟩,dU [(2,(.j ⟨[],[2],⟨[.d .bool],[]⟩,[]⟩))]⟩
def Sh:cu:=cn Gw pH
def JV:FT:=⟨⟨[.d (.sl qR),.d aM],[]⟩,⟨[.d .bool],[]⟩,dU [(6,(.j ⟨[0],[1,5],⟨vU,[]⟩,[]⟩)),(14,(.j ⟨[0,5],[1],⟨[.d aM],[]⟩,[]⟩)),(16,(.j ⟨[0,1,5],[19],⟨[.d .bool],[]⟩,[]⟩))]⟩
def Vb:cu:=cn JV pn
def Xb:FT:=⟨⟨vU,[]⟩,⟨[.d .bool],[]⟩,dU [(2,(.j ⟨[],[4],⟨[.d .bool],[]⟩,[]⟩))]⟩
def af4:cu:=cn Xb jq
def JW:FT:=⟨⟨[.d nD,.d aM,.d aM],[]⟩,⟨[.d .bool],[]⟩,dU [(2,(.j ⟨[],[6],⟨[.d .bool],[]⟩,[]⟩))]⟩
def Vc:cu:=cn JW m6
def Dv:FT:=⟨⟨[.d nD,.d qR],[]⟩,⟨[.d .bool],[]⟩,dU [(9,(.j ⟨[],[4],⟨[.d .bool],[]⟩,[]⟩)),(15,(.j ⟨[],[4],⟨[.d .bool],[]⟩,[]⟩)),(30,(.j ⟨[6],[2,3,59],⟨rN,afz⟩,[]⟩)),(37,(.j ⟨[],[4],⟨[.d .bool],[]⟩,[]⟩)),(40,(.j ⟨[6],[2,3,78],⟨rN,afz⟩,[]⟩)),(55,(.j ⟨[],[4],⟨[.d .bool],[]⟩,[]⟩)),(58,(.j ⟨[6],[2,3,98],⟨rN,afz⟩,[]⟩)),(72,(.j ⟨[6],[2,3,108],⟨rN,afz⟩,[]⟩)),(97,(.j ⟨[],[4],⟨[.d .bool],[]⟩,[]⟩)),(103,(.j ⟨[],[4],⟨[.d .bool],[]⟩,[]⟩))]⟩
def O7:cu:=cn Dv lB
def wR:FT:=⟨⟨[.d nD,.d aM,.d w9],[]⟩,⟨[.d .bool],[]⟩,dU [(5,(.j ⟨[1,7],[3,5,26],⟨rN,acs⟩,[]⟩)),(16,(.j ⟨[1,7],[3,5,8],⟨vW,acs⟩,[]⟩)),(28,(.j ⟨[1,7,8],[3,5,9,67],⟨D3,ajs⟩,[]⟩)),(36,(.j ⟨[1,7,8],[3,5,9,100],⟨D3,ajs⟩,[]⟩)),(44,(.j ⟨[1,7,8],[3,5,9,122],⟨D3,ajs⟩,[]⟩)),(56,(.j ⟨[1,7,8,10],[3,5,11],⟨vW,acs⟩,[]⟩))]⟩
def Fi:cu:=cn wR iu
def JY:FT:=⟨⟨[.d uK],[]⟩,⟨[.d .bool],[]⟩,dU [(3,(.j ⟨[],[1,17],⟨ig,[.cells 110 [.d uK]]⟩,[]⟩)),(14,(.j ⟨[],[1,3],⟨vV,[.cells 110 [.d uK]]⟩,[]⟩))]⟩
def Ve:cu:=cn JY jH
def Dw:FT:=⟨⟨[.ptr 0 0,.d qR],La5⟩,⟨[],La4⟩,.leaf⟩
def O8:cu:=cn Dw cA
def qF:FT:=⟨⟨[.ptr 0 0,.d .ex,.d aM],La5⟩,⟨[],La4⟩,dU [(2,(.j ⟨[],[],⟨[],La4⟩,[]⟩))]⟩
def Kl:cu:=cn qF iL
def IR (n:Nat):cu:=cn qF (iM n)
def yp:FT:=⟨⟨[.ptr 0 0,.d .sm],La5⟩,⟨[],La4⟩,.leaf⟩
def Hj:cu:=cn yp lV
def Bc:FT:=⟨⟨[.ptr 0 0,.d .str],La5⟩,⟨[.d aM],La5⟩,dU [(6,(.j ⟨[1],[0,5],⟨vV,La5⟩,[]⟩))]⟩
def LY:cu:=cn Bc jv
def qG:FT:=⟨⟨[.ptr 0 0,.d (.sl .sm)],La5⟩,⟨[],La4⟩,dU [(1,(.a [.ren 0 7])),(3,(.j ⟨[1],[0,4],⟨vV,La4⟩,[]⟩))]⟩
def Km:cu:=cn qG ui
def IU (n:Nat):cu:=cn qG (dM n)
def vR:FT:=⟨⟨[.ptr 0 0,.d .sm],La5⟩,⟨[],La4⟩,dU [(1,(.a [.ren 0 7])),(10,(.j ⟨[],[],⟨[],La4⟩,[]⟩)),(15,(.j ⟨[4,25],[0,3,31],⟨[.ptr 0 0,.ptr 2 0,.d .bool],[.cells 197 [.d (.sl kB),.d (.sl rP),.d (.sl mb),.d (.sl .str),.d (.sl .str),.d (.sl oR),.d (.sl .str),.row 3,.d aM,.d aM],.gone,.cells 211 [.d .sm],.rows 201 ai qR]⟩,[]⟩))]⟩
def Lx (n:Nat):cu:=cn vR (eT n)
def qH:FT:=⟨⟨[.ptr 0 0,.d .sm],La5⟩,⟨[],La4⟩,.leaf⟩
def CW (n:Nat):cu:=cn qH (c7 n)
def sX:FT:=⟨⟨[.ptr 0 0,.d .sm,.d aM,.d aM,.d aM],La5⟩,⟨[],La4⟩,.leaf⟩
def G9 (n:Nat):cu:=cn sX (dG n)
def Dx:FT:=⟨⟨[.d Nr],[]⟩,⟨[.d uK,.d aM,.d aM],[]⟩,dU [(20,(.j ⟨[],[1,2,7,8,9],⟨[.ptr 0 0,.ptr 1 0,.ptr 2 0,.d aM,.d aM],[.cells 151 [.d Nr],.cells 110 acm,.cells 110 [.d (.sl kB),.d (.sl rP),.d (.sl mb),.d (.sl .str),.d (.sl .str),.d (.sl oR),.row 3],.rows 184 ai w9]⟩,[.cel 7 6 184 w9]⟩)),(32,(.a [.cel 10 7 201 qR])),(45,(.j ⟨[8,9],[1,2,7,10,11,12],⟨ajp,anf⟩,[]⟩)),(59,(.j ⟨[8,9,12,13],[1,2,7,10,11,14],⟨ajp,anf⟩,[]⟩))]⟩
def O9:cu:=cn Dx qp
def RE:FT:=⟨⟨Mf,[]⟩,⟨[.d .bool],[]⟩,dU [(6,(.j ⟨[0,1],[5],⟨[.d aM],[]⟩,[]⟩))]⟩
def abh:cu:=cn RE qn
def RD:FT:=⟨⟨Mf,[]⟩,⟨qK,[]⟩,dU [(6,(.j ⟨[0,1],[5],⟨[.d aM],[]⟩,[]⟩)),(8,(.j ⟨[0,1,5],[18],⟨[.d .bool],[]⟩,[]⟩)),(16,(.j ⟨[0,1,5],[32],⟨[.d .bool],[]⟩,[]⟩))]⟩
def abg:cu:=cn RD wz
def JS:FT:=⟨⟨[.d (.sl aM),.d (.sl aM)],[]⟩,⟨qK,[]⟩,dU [(8,(.j ⟨[0,1],[5,6],⟨Mf,[]⟩,[]⟩)),(23,(.j ⟨[1],[5,7],⟨Mf,[]⟩,[]⟩))]⟩
def U_:cu:=cn JS rk
def Bb:FT:=⟨⟨[.d aM],[]⟩,⟨[.d aM],[]⟩,dU [(3,(.j ⟨[0],[8],⟨[.d .bool],[]⟩,[]⟩))]⟩
def LX:cu:=cn Bb mf
def M5:FT:=⟨⟨[.d eY],[]⟩,⟨[.agg afw],acu⟩,dU [(8,(.j ⟨[],[1,2,3,4],⟨Fz,[.cells 188 [.d eY],.cells 188 XF,.cells 188 [.d aM,.row 3,.row 4,.d aM],.rows 2 ai aM,.rows 50 ai (.sl aM)]⟩,[.cel 3 2 50 (.sl aM)]⟩))]⟩
def YC:cu:=cn M5 cg
def M4:FT:=⟨⟨[.d qR,.agg afw],acu⟩,⟨[.agg afw,.d .bool],acu⟩,dU [(8,(.j ⟨[6],[2,3,4,7],⟨[.ptr 2 0,.ptr 3 0,.ptr 4 0,.d aM],ak0⟩,[]⟩)),(17,(.j ⟨[6,7],[2,3,4,33],⟨[.ptr 2 0,.ptr 3 0,.ptr 4 0,.d .bool],ak0⟩,[]⟩)),(32,(.j ⟨[],[2,3,4,8,9,10],⟨[.ptr 2 0,.ptr 3 0,.ptr 4 0,.d aM,.d .bool,.d (.sl aM)],ak0⟩,[]⟩))]⟩
def YB:cu:=cn M4 wy
def Gu:FT:=⟨⟨[.d w9,.d eY],[]⟩,⟨[.d eY,.d .bool],[]⟩,dU [(3,(.j ⟨[],[2,3,4,23],⟨D3,[.cells 184 [.d w9],.cells 188 [.d eY],.cells 188 XF]⟩,[]⟩)),(16,(.j ⟨[],[2,3,4,6],⟨Fz,an7⟩,[]⟩)),(26,(.j ⟨[6],[2,3,4,44],⟨D3,an7⟩,[]⟩))]⟩
def Sf:cu:=cn Gu mZ
def JQ:FT:=⟨⟨[.d nD],[]⟩,⟨[.d Hz],[]⟩,dU [(8,(.j ⟨[],[1,2,3,4],⟨Fz,[.cells 31 [.d nD],.cells 94 Cf,.cells 94 [.row 3,.d aM,.nil,.nil],.rows 167 ai ef]⟩,[.cel 3 0 167 ef]⟩)),(23,(.j ⟨[],[1,2,3,5],⟨Fz,[.cells 31 [.d nD],.cells 94 Cf,.cells 94 [.row 3,.d aM,.row 4,.nil],.rows 167 ai ef,.rows 4 ai .bool]⟩,[.cel 3 2 4 .bool]⟩)),(38,(.j ⟨[],[1,2,3,6],⟨Fz,[.cells 31 [.d nD],.cells 94 Cf,.cells 94 acp,.rows 167 ai ef,.rows 4 ai .bool,.rows 169 ai ie]⟩,[.cel 3 3 169 ie]⟩)),(49,(.j ⟨[6],[1,2,3,7],⟨acr,[.cells 31 [.d nD],.cells 94 Cf,.cells 94 [.row 4,.d aM,.row 5,.row 6],.cells 169 [.d ie],.rows 167 ai ef,.rows 4 ai .bool,.rows 169 ai ie]⟩,[]⟩))]⟩
def U8:cu:=cn JQ ri
def M2:FT:=⟨⟨[.d nD,.d Hz],[]⟩,⟨[.d .bool],[]⟩,dU [(6,(.j ⟨[],[2,3,5],⟨vW,V6⟩,[]⟩)),(15,(.j ⟨[5],[2,3,31],⟨rN,V6⟩,[]⟩)),(23,(.j ⟨[],[4],⟨[.d .bool],[]⟩,[]⟩))]⟩
def Yz:cu:=cn M2 rj
def Xa:FT:=⟨⟨vU,[]⟩,⟨[.d .bool],[]⟩,dU [(2,(.j ⟨[],[4],⟨[.d .bool],[]⟩,[]⟩))]⟩
def af3:cu:=cn Xa qm
def JP:FT:=⟨⟨[.d nD,.d aM,.d aM],[]⟩,⟨[.d .bool],[]⟩,dU [(6,(.j ⟨[2,7],[3,8],⟨ig,pY⟩,[]⟩)),(36,(.j ⟨[2,7],[3,18],⟨ig,pY⟩,[]⟩)),(46,(.j ⟨[2,7],[3,26],⟨ig,pY⟩,[]⟩)),(53,(.j ⟨[],[6],⟨[.d .bool],[]⟩,[]⟩)),(56,(.j ⟨[2,7],[3,43],⟨ig,pY⟩,[]⟩)),(71,(.j ⟨[],[6],⟨[.d .bool],[]⟩,[]⟩)),(74,(.j ⟨[2,7],[3,61],⟨ig,pY⟩,[]⟩)),(92,(.j ⟨[2,7],[3,71],⟨ig,pY⟩,[]⟩)),(102,(.j ⟨[2],[3,79],⟨ig,pY⟩,[]⟩))]⟩
def U7:cu:=cn JP uh
def Du:FT:=⟨⟨[.d nD,.d Hz,.d aM,.d aM,.d aM],[]⟩,⟨[.d .bool],[]⟩,dU [(3,(.j ⟨[2,3,4],[5,6,30],⟨rN,V6⟩,[]⟩)),(25,(.j ⟨[],[10],⟨[.d .bool],[]⟩,[]⟩)),(50,(.j ⟨[],[10],⟨[.d .bool],[]⟩,[]⟩)),(56,(.j ⟨[],[10],⟨[.d .bool],[]⟩,[]⟩)),(59,(.j ⟨[2,4,70],[5,6,11,119],⟨D3,[.cells 31 [.d nD],.cells 94 [.d Hz],.cells 169 [.d ie]]⟩,[]⟩)),(99,(.j ⟨[2,4,70],[5,6,160],⟨rN,V6⟩,[]⟩)),(116,(.j ⟨[],[10],⟨[.d .bool],[]⟩,[]⟩)),(122,(.j ⟨[],[10],⟨[.d .bool],[]⟩,[]⟩))]⟩
def O6:cu:=cn Du kl
def Dt:FT:=⟨⟨[.d Hz,.d aM],[]⟩,⟨qK,[]⟩,dU [(8,(.j ⟨[1],[2,5,6],⟨PD,acq⟩,[.nil 5 3 aM]⟩)),(16,(.j ⟨[1,6],[2,5],⟨[.ptr 0 0,.row 1],acq⟩,[]⟩)),(17,(.j ⟨[1,6],[2,5,30],⟨[.ptr 0 0,.row 1,.d .bool],acq⟩,[]⟩))]⟩
def O5:cu:=cn Dt nK
def Ds:FT:=⟨⟨Mf,[]⟩,⟨qK,[]⟩,dU [(8,(.j ⟨[0,1],[5,6],⟨[.row 0,.d aM],[.rows 3 ai aM]⟩,[.nil 5 3 aM]⟩)),(16,(.j ⟨[0,1,6],[5],⟨[.row 0],[.rows 3 ai aM]⟩,[]⟩))]⟩
def O4:cu:=cn Ds ql
def M3:FT:=⟨⟨[.d Hz],[]⟩,⟨[.agg Hy],ajq⟩,dU [(8,(.j ⟨[],[1,2,3,4],⟨Fz,[.cells 94 [.d Hz],.cells 94 Cf,.cells 94 acp,.rows 167 ai ef,.rows 4 ai .bool,.rows 169 ai ie]⟩,[.cel 3 0 167 ef]⟩))]⟩
def YA:cu:=cn M3 ir
def mn:FT:=⟨⟨[.agg Hy,.d aM],ajq⟩,⟨qK,ajq⟩,dU [(8,(.j ⟨[1],[2,5,6],⟨[.ptr 3 0,.row 4,.d aM],ajw⟩,[.nil 5 3 aM]⟩)),(16,(.j ⟨[1,6],[2,5],⟨[.ptr 3 0,.row 4],ajw⟩,[]⟩)),(17,(.j ⟨[1,6],[2,5,30],⟨[.ptr 3 0,.row 4,.d .bool],ajw⟩,[]⟩))]⟩
def LW:cu:=cn mn me
def Kk:cu:=⟨mn.pre,⟨mn.post.vs,[]⟩,jG⟩
def JR:FT:=⟨⟨[.d nD,.d Hz,.d aM,.d aM,.d aM,.d aM],[]⟩,⟨[.d Hz,.d aM,.d .bool],[]⟩,dU [(17,(.j ⟨[],[7,12,15],⟨vW,ajy⟩,[]⟩)),(26,(.j ⟨[2,4,5,15,30],[6,7,12,45],⟨D3,an8⟩,[]⟩)),(34,(.j ⟨[2,4,5,15,30],[6,7,12,54],⟨D3,an8⟩,[]⟩)),(90,(.j ⟨[],[7,12,17],⟨vW,ajy⟩,[]⟩)),(109,(.j ⟨[18],[7,12,19],⟨vW,ajy⟩,[]⟩))]⟩
def U9:cu:=cn JR pl
def JO:FT:=⟨⟨[.d uK],[]⟩,⟨[.d vY],[]⟩,dU [(16,(.j ⟨[],[1,2,3,4],⟨Fz,[.cells 110 [.d uK],.cells 105 vX,.cells 105 [.d (.sl ef),.d aM,.d pZ,.d (.sl ie),.row 3,.nil,.nil],.rows 2 ai aM]⟩,[.cel 3 4 2 aM]⟩)),(31,(.j ⟨[],[1,2,3,5],⟨Fz,[.cells 110 [.d uK],.cells 105 vX,.cells 105 [.d (.sl ef),.d aM,.d pZ,.d (.sl ie),.row 3,.row 4,.nil],.rows 2 ai aM,.rows 2 ai aM]⟩,[.cel 3 5 2 aM]⟩)),(46,(.j ⟨[],[1,2,3,6],⟨Fz,[.cells 110 [.d uK],.cells 105 vX,.cells 105 ajx,.rows 2 ai aM,.rows 2 ai aM,.rows 188 ai eY]⟩,[.cel 3 6 188 eY]⟩))]⟩
def U6:cu:=cn JO ug
def M1:FT:=⟨⟨[.d uK,.d vY],[]⟩,⟨[.d .bool],[]⟩,dU [(3,(.j ⟨[],[2,3,46],⟨rN,act⟩,[]⟩)),(14,(.j ⟨[],[2,3,5],⟨vW,act⟩,[]⟩)),(25,(.j ⟨[5],[2,3,97],⟨rN,act⟩,[]⟩))]⟩
def Yx:cu:=cn M1 ww
def MZ:FT:=⟨⟨[.d aM],[]⟩,⟨[.d aM],[]⟩,dU [(5,(.j ⟨[0],[3,10],⟨[.row 0,.d .bool],[.rows 3 aj aM]⟩,[]⟩))]⟩
def Yv:cu:=cn MZ wu
def F9:FT:=⟨⟨[.d qR,.d eY],[]⟩,⟨[.d aM],[]⟩,dU [(6,(.j ⟨[6],[2,3,7],⟨rN,[.cells 201 [.d qR],.cells 188 [.d eY]]⟩,[]⟩)),(28,(.j ⟨[],[2,40],⟨ig,[.cells 201 [.d qR]]⟩,[]⟩))]⟩
def RQ:cu:=cn F9 sk
def Dr:FT:=⟨⟨[.d uK,.d vY,.d aM],[]⟩,⟨[.d jt,.d .bool],[]⟩,dU [(3,(.j ⟨[2],[3,4,6,25],⟨D3,[.cells 110 [.d uK],.cells 105 [.d vY],.cells 52 uU]⟩,[]⟩)),(54,(.j ⟨[],[6,8,9,10],⟨acr,an5⟩,[.cel 10 5 3 aM]⟩)),(59,(.j ⟨[],[6,8,9,10,98],⟨Aa,[.cells 52 uU,.cells 188 [.d eY],.cells 201 [.d qR],.cells 52 uU]⟩,[]⟩)),(68,(.j ⟨[],[6,10],⟨[.ptr 0 0,.ptr 1 0],[.cells 52 uU,.cells 52 [.d aM,.d aM,.d aM,.d aM,.d aM,.row 2,.row 3],.rows 3 ai aM,.rows 3 ai aM]⟩,[.cel 10 6 3 aM]⟩)),(69,(.j ⟨[],[6,8,9,10,123],⟨Aa,an5⟩,[]⟩))]⟩
def O3:cu:=cn Dr nJ
def JM:FT:=⟨⟨[.d nD],[]⟩,⟨[.d iT],[]⟩,dU [(8,(.j ⟨[],[1,2,3,4],⟨Fz,[.cells 31 [.d nD],.cells 97 vX,.cells 97 ajx,.rows 2 ai aM,.rows 2 aj aM,.rows 3 aj aM]⟩,[.cel 3 4 2 aM]⟩))]⟩
def U4:cu:=cn JM mM
def MY:FT:=⟨⟨[.d nD,.d iT],[]⟩,⟨[.d .bool],[]⟩,dU [(2,(.j ⟨[],[4],⟨[.d .bool],[]⟩,[]⟩))]⟩
def Yu:cu:=cn MY wq
def W_:FT:=⟨⟨vU,[]⟩,⟨[.d .bool],[]⟩,dU [(2,(.j ⟨[],[4],⟨[.d .bool],[]⟩,[]⟩))]⟩
def af2:cu:=cn W_ CP
def Dq:FT:=⟨⟨Mf,[]⟩,⟨[.d .bool],[]⟩,dU [(6,(.j ⟨[0,1],[5],⟨[.d aM],[]⟩,[]⟩)),(15,(.j ⟨[0,1,5],[40],⟨[.d .bool],[]⟩,[]⟩))]⟩
def O2:cu:=cn Dq nI
def JK:FT:=⟨⟨[.d iT,.d jt],[]⟩,⟨[.d .bool],[]⟩,dU [(21,(.j ⟨[],[4],⟨[.d .bool],[]⟩,[]⟩)),(24,(.j ⟨[7],[2,3,40],⟨rN,[.cells 97 [.d iT],.cells 52 [.d jt]]⟩,[]⟩)),(47,(.j ⟨[],[4],⟨[.d .bool],[]⟩,[]⟩))]⟩
def U2:cu:=cn JK ue
def MX:FT:=⟨⟨[.d nD,.d iT,.d jt],[]⟩,⟨[.d iT,.d .bool],[]⟩,dU [(3,(.j ⟨[],[3,4,5,6,46],⟨Aa,K3⟩,[]⟩)),(10,(.j ⟨[],[3,4,5,6],⟨acr,K3⟩,[]⟩)),(11,(.j ⟨[],[3,4,5,6,55],⟨Aa,K3⟩,[]⟩)),(21,(.j ⟨[],[3,4,5,6,78],⟨Aa,K3⟩,[]⟩)),(28,(.j ⟨[],[3,4,5,6,8],⟨Aa,K3⟩,[]⟩)),(31,(.j ⟨[],[3,4,5,6,110],⟨Aa,K3⟩,[]⟩)),(39,(.j ⟨[],[3,4,5,6,125],⟨Aa,K3⟩,[]⟩)),(47,(.j ⟨[],[3,4,5,6,154],⟨Aa,K3⟩,[]⟩)),(58,(.j ⟨[],[3,4,5,6,9,10],⟨ajp,[.cells 31 [.d nD],.cells 97 [.d iT],.cells 52 [.d jt],.cells 97 vX,.cells 97 [.nil,.d aM,.nil,.nil,.row 5,.row 6,.row 7],.rows 2 ai aM,.rows 2 ai aM,.rows 3 ai aM]⟩,[]⟩)),(66,(.j ⟨[],[5,6,9],⟨[.ptr 0 0,.ptr 1 0,.ptr 2 0],ajn⟩,[]⟩)),(72,(.j ⟨[],[5,6,9],⟨[.ptr 0 0,.ptr 1 0,.ptr 2 0],ajn⟩,[]⟩))]⟩
def Yt:cu:=cn MX rh
def JL:FT:=⟨⟨[.d (.sl jt),.d aM,.d aM,.d (.sl aM)],[]⟩,⟨[.d .bool],[]⟩,dU [(6,(.j ⟨[0,1,2,3],[9],⟨[.d aM],[]⟩,[]⟩)),(23,(.j ⟨[0,1,2,3,9],[10,11,12],⟨[.d aM,.d .bool,.d aM],[]⟩,[]⟩)),(31,(.j ⟨[0,1,2,3,9,12],[10,11],⟨[.d aM,.d .bool],[]⟩,[]⟩)),(38,(.j ⟨[0,1,2,3,9,10,12],[11],⟨[.d .bool],[]⟩,[]⟩))]⟩
def U3:cu:=cn JL rf
def JN:FT:=⟨⟨[.d ny],[]⟩,⟨vU,[]⟩,dU [(24,(.j ⟨[],[1,4,5],⟨vW,[.cells 34 [.d ny],.cells 97 [.d iT]]⟩,[]⟩)),(38,(.j ⟨[5],[1,4,7,63],⟨D3,[.cells 34 [.d ny],.cells 97 [.d iT],.cells 97 [.d iT]]⟩,[]⟩))]⟩
def U5:cu:=cn JN uf
def Gt:FT:=⟨⟨[.d vY],[]⟩,⟨[.agg [.agg Hy,.row 3,.row 4,.csl 5 4 1]],[.rows 167 ai ef,.rows 4 ai .bool,.rows 169 ai ie,.rows 2 ai aM,.rows 2 ai aM,.cells 188 [.d aM,.row 6,.row 7,.d aM],.rows 2 ai aM,.rows 50 ai (.sl aM)]⟩,dU [(8,(.u 2))]⟩
def Se:cu:=cn Gt mY
def Gi:FT:=⟨⟨Mg,[]⟩,⟨Mh,[]⟩,dU [(27,(.s 5 0 0 1)),(37,(.j ⟨[],[3,4,5,6,7,9,14,15,16],⟨Ml,ak9⟩,[]⟩)),(38,(.j ⟨[16,77],[3,4,5,6,7,9,14,15,78],⟨Nq,ak9⟩,[]⟩)),(83,(.j ⟨[16],[3,4,5,6,7,9,14],⟨Mj,[.cells 110 [.d uK],.cells 105 ahr,.cells 154 [.d gj],.cells 105 vX,.cells 52 uU,.cells 52 [.d jt],.cells 188 K0,.rows 2 ai aM,.rows 2 ai aM,.cells 188 K0,.rows 2 ai aM,.rows 50 ai (.sl aM)]⟩,[]⟩)),(84,(.j ⟨[16],[3,4,5,6,7,9,14,15,154],⟨Nq,ak9⟩,[]⟩)),(95,(.j ⟨[],[4,5,6,7,9,14],⟨Mi,[.cells 105 [.d (.sl ef),.d aM,.d pZ,.d (.sl ie),.row 6,.row 7,.csl 8 4 1],.cells 154 [.d gj],.cells 105 vX,.cells 52 uU,.cells 52 [.d jt],.cells 188 [.d eY],.rows 2 ai aM,.rows 2 ai aM,.cells 188 [.d eY]]⟩,[]⟩)),(96,(.j ⟨[],[3,4,5,6,7,9,14,183],⟨Mk,[.cells 110 [.d uK],.cells 105 ahr,.cells 154 [.d gj],.cells 105 vX,.cells 52 uU,.cells 52 [.d jt],.cells 188 K2,.rows 2 ai aM,.rows 2 ai aM,.cells 188 K2]⟩,[]⟩)),(102,(.s 5 0 0 1)),(104,(.a [.pk 4 6 eY]))]⟩
def R5:cu:=cn Gi gd
def Gs:FT:=⟨⟨[.d vY],[]⟩,⟨[.agg [.agg Hy,.row 3,.row 4,.csl 5 4 2]],[.rows 167 ai ef,.rows 4 ai .bool,.rows 169 ai ie,.rows 2 ai aM,.rows 2 ai aM,.cells 188 [.d aM,.row 6,.row 7,.d aM,.d eY],.rows 2 ai aM,.rows 50 ai (.sl aM)]⟩,dU [(8,(.u 3))]⟩
def Sd:cu:=cn Gs mX
def Gh:FT:=⟨⟨Mg,[]⟩,⟨Mh,[]⟩,dU [(27,(.s 5 0 0 1)),(37,(.j ⟨[],[3,4,5,6,7,9,14,15,16],⟨Ml,akb⟩,[]⟩)),(38,(.j ⟨[16,77],[3,4,5,6,7,9,14,15,78],⟨Nq,akb⟩,[]⟩)),(83,(.j ⟨[16],[3,4,5,6,7,9,14],⟨Mj,[.cells 110 [.d uK],.cells 105 ag3,.cells 154 [.d gj],.cells 105 vX,.cells 52 uU,.cells 52 [.d jt],.cells 188 K0,.rows 2 ai aM,.rows 2 ai aM,.cells 188 [.d aM,.row 10,.row 11,.d aM,.d eY],.rows 2 ai aM,.rows 50 ai (.sl aM)]⟩,[]⟩)),(84,(.j ⟨[16],[3,4,5,6,7,9,14,15,154],⟨Nq,akb⟩,[]⟩)),(95,(.j ⟨[],[4,5,6,7,9,14],⟨Mi,ane⟩,[]⟩)),(96,(.j ⟨[],[3,4,5,6,7,9,14,183],⟨Mk,[.cells 110 [.d uK],.cells 105 ag3,.cells 154 [.d gj],.cells 105 vX,.cells 52 uU,.cells 52 [.d jt],.cells 188 K2,.rows 2 ai aM,.rows 2 ai aM,.cells 188 [.d aM,.d (.sl aM),.d kG,.d aM,.d eY]]⟩,[]⟩)),(102,(.s 5 0 0 1)),(104,(.a [.pk 4 6 eY]))]⟩
def R4:cu:=cn Gh gC
def Gr:FT:=⟨⟨[.d vY],[]⟩,⟨[.agg [.agg Hy,.row 3,.row 4,.csl 5 4 2]],[.rows 167 ai ef,.rows 4 ai .bool,.rows 169 ai ie,.rows 2 ai aM,.rows 2 ai aM,.cells 188 [.d eY,.d aM,.row 6,.row 7,.d aM],.rows 2 ai aM,.rows 50 ai (.sl aM)]⟩,dU [(8,(.u 3))]⟩
def Sc:cu:=cn Gr mW
def Gg:FT:=⟨⟨Mg,[]⟩,⟨Mh,[]⟩,dU [(27,(.s 5 0 1 1)),(37,(.j ⟨[],[3,4,5,6,7,9,14,15,16],⟨Ml,aka⟩,[]⟩)),(38,(.j ⟨[16,77],[3,4,5,6,7,9,14,15,78],⟨Nq,aka⟩,[]⟩)),(83,(.j ⟨[16],[3,4,5,6,7,9,14],⟨Mj,[.cells 110 [.d uK],.cells 105 ag3,.cells 154 [.d gj],.cells 105 vX,.cells 52 uU,.cells 52 [.d jt],.cells 188 K0,.rows 2 ai aM,.rows 2 ai aM,.cells 188 [.d eY,.d aM,.row 10,.row 11,.d aM],.rows 2 ai aM,.rows 50 ai (.sl aM)]⟩,[]⟩)),(84,(.j ⟨[16],[3,4,5,6,7,9,14,15,154],⟨Nq,aka⟩,[]⟩)),(95,(.j ⟨[],[4,5,6,7,9,14],⟨Mi,ane⟩,[]⟩)),(96,(.j ⟨[],[3,4,5,6,7,9,14,183],⟨Mk,[.cells 110 [.d uK],.cells 105 ag3,.cells 154 [.d gj],.cells 105 vX,.cells 52 uU,.cells 52 [.d jt],.cells 188 K2,.rows 2 ai aM,.rows 2 ai aM,.cells 188 [.d eY,.d aM,.d (.sl aM),.d kG,.d aM]]⟩,[]⟩)),(102,(.s 5 0 1 1)),(104,(.a [.pk 4 6 eY]))]⟩
def R3:cu:=cn Gg f_
def Gq:FT:=⟨⟨[.d vY],[]⟩,⟨ajm,[.rows 167 ai ef,.rows 4 ai .bool,.rows 169 ai ie,.rows 2 ai aM,.rows 2 ai aM,.cells 188 [.d aM,.row 6,.row 7,.d aM,.d eY,.d eY],.rows 2 ai aM,.rows 50 ai (.sl aM)]⟩,dU [(8,(.u 4))]⟩
def Sb:cu:=cn Gq mV
def Gf:FT:=⟨⟨Mg,[]⟩,⟨Mh,[]⟩,dU [(27,(.s 5 0 0 1)),(37,(.j ⟨[],[3,4,5,6,7,9,14,15,16],⟨Ml,ake⟩,[]⟩)),(38,(.j ⟨[16,77],[3,4,5,6,7,9,14,15,78],⟨Nq,ake⟩,[]⟩)),(83,(.j ⟨[16],[3,4,5,6,7,9,14],⟨Mj,[.cells 110 [.d uK],.cells 105 Ze,.cells 154 [.d gj],.cells 105 vX,.cells 52 uU,.cells 52 [.d jt],.cells 188 K0,.rows 2 ai aM,.rows 2 ai aM,.cells 188 [.d aM,.row 10,.row 11,.d aM,.d eY,.d eY],.rows 2 ai aM,.rows 50 ai (.sl aM)]⟩,[]⟩)),(84,(.j ⟨[16],[3,4,5,6,7,9,14,15,154],⟨Nq,ake⟩,[]⟩)),(95,(.j ⟨[],[4,5,6,7,9,14],⟨Mi,ak4⟩,[]⟩)),(96,(.j ⟨[],[3,4,5,6,7,9,14,183],⟨Mk,[.cells 110 [.d uK],.cells 105 Ze,.cells 154 [.d gj],.cells 105 vX,.cells 52 uU,.cells 52 [.d jt],.cells 188 K2,.rows 2 ai aM,.rows 2 ai aM,.cells 188 [.d aM,.d (.sl aM),.d kG,.d aM,.d eY,.d eY]]⟩,[]⟩)),(102,(.s 5 0 0 1)),(104,(.a [.pk 4 6 eY]))]⟩
def R2:cu:=cn Gf ju
def Gp:FT:=⟨⟨[.d vY],[]⟩,⟨ajm,[.rows 167 ai ef,.rows 4 ai .bool,.rows 169 ai ie,.rows 2 ai aM,.rows 2 ai aM,.cells 188 [.d eY,.d aM,.row 6,.row 7,.d aM,.d eY],.rows 2 ai aM,.rows 50 ai (.sl aM)]⟩,dU [(8,(.u 4))]⟩
def Sa:cu:=cn Gp mU
def Ge:FT:=⟨⟨Mg,[]⟩,⟨Mh,[]⟩,dU [(27,(.s 5 0 1 1)),(37,(.j ⟨[],[3,4,5,6,7,9,14,15,16],⟨Ml,akd⟩,[]⟩)),(38,(.j ⟨[16,77],[3,4,5,6,7,9,14,15,78],⟨Nq,akd⟩,[]⟩)),(83,(.j ⟨[16],[3,4,5,6,7,9,14],⟨Mj,[.cells 110 [.d uK],.cells 105 Ze,.cells 154 [.d gj],.cells 105 vX,.cells 52 uU,.cells 52 [.d jt],.cells 188 K0,.rows 2 ai aM,.rows 2 ai aM,.cells 188 [.d eY,.d aM,.row 10,.row 11,.d aM,.d eY],.rows 2 ai aM,.rows 50 ai (.sl aM)]⟩,[]⟩)),(84,(.j ⟨[16],[3,4,5,6,7,9,14,15,154],⟨Nq,akd⟩,[]⟩)),(95,(.j ⟨[],[4,5,6,7,9,14],⟨Mi,ak4⟩,[]⟩)),(96,(.j ⟨[],[3,4,5,6,7,9,14,183],⟨Mk,[.cells 110 [.d uK],.cells 105 Ze,.cells 154 [.d gj],.cells 105 vX,.cells 52 uU,.cells 52 [.d jt],.cells 188 K2,.rows 2 ai aM,.rows 2 ai aM,.cells 188 [.d eY,.d aM,.d (.sl aM),.d kG,.d aM,.d eY]]⟩,[]⟩)),(102,(.s 5 0 1 1)),(104,(.a [.pk 4 6 eY]))]⟩
def R1:cu:=cn Ge iK
def Gn:FT:=⟨⟨[.d vY],[]⟩,⟨ajm,[.rows 167 ai ef,.rows 4 ai .bool,.rows 169 ai ie,.rows 2 ai aM,.rows 2 ai aM,.cells 188 [.d eY,.d eY,.d aM,.row 6,.row 7,.d aM],.rows 2 ai aM,.rows 50 ai (.sl aM)]⟩,dU [(8,(.u 4))]⟩
def R_:cu:=cn Gn mT
def Gb:FT:=⟨⟨Mg,[]⟩,⟨Mh,[]⟩,dU [(27,(.s 5 0 2 1)),(37,(.j ⟨[],[3,4,5,6,7,9,14,15,16],⟨Ml,akc⟩,[]⟩)),(38,(.j ⟨[16,77],[3,4,5,6,7,9,14,15,78],⟨Nq,akc⟩,[]⟩)),(83,(.j ⟨[16],[3,4,5,6,7,9,14],⟨Mj,[.cells 110 [.d uK],.cells 105 Ze,.cells 154 [.d gj],.cells 105 vX,.cells 52 uU,.cells 52 [.d jt],.cells 188 K0,.rows 2 ai aM,.rows 2 ai aM,.cells 188 [.d eY,.d eY,.d aM,.row 10,.row 11,.d aM],.rows 2 ai aM,.rows 50 ai (.sl aM)]⟩,[]⟩)),(84,(.j ⟨[16],[3,4,5,6,7,9,14,15,154],⟨Nq,akc⟩,[]⟩)),(95,(.j ⟨[],[4,5,6,7,9,14],⟨Mi,ak4⟩,[]⟩)),(96,(.j ⟨[],[3,4,5,6,7,9,14,183],⟨Mk,[.cells 110 [.d uK],.cells 105 Ze,.cells 154 [.d gj],.cells 105 vX,.cells 52 uU,.cells 52 [.d jt],.cells 188 K2,.rows 2 ai aM,.rows 2 ai aM,.cells 188 [.d eY,.d eY,.d aM,.d (.sl aM),.d kG,.d aM]]⟩,[]⟩)),(102,(.s 5 0 2 1)),(104,(.a [.pk 4 6 eY]))]⟩
def RZ:cu:=cn Gb hZ
def Gm:FT:=⟨⟨[.d vY],[]⟩,⟨ag2,[.rows 167 ai ef,.rows 4 ai .bool,.rows 169 ai ie,.rows 2 ai aM,.rows 2 ai aM,.cells 188 [.d aM,.row 6,.row 7,.d aM,.d eY,.d eY,.d eY],.rows 2 ai aM,.rows 50 ai (.sl aM)]⟩,dU [(8,(.u 5))]⟩
def R9:cu:=cn Gm mS
def dE:FT:=⟨⟨Mg,[]⟩,⟨Mh,[]⟩,dU [(27,(.s 5 0 0 1)),(37,(.j ⟨[],[3,4,5,6,7,9,14,15,16],⟨Ml,ak8⟩,[]⟩)),(38,(.j ⟨[16,77],[3,4,5,6,7,9,14,15,78],⟨Nq,ak8⟩,[]⟩)),(83,(.j ⟨[16],[3,4,5,6,7,9,14],⟨Mj,[.cells 110 [.d uK],.cells 105 Ta,.cells 154 [.d gj],.cells 105 vX,.cells 52 uU,.cells 52 [.d jt],.cells 188 K0,.rows 2 ai aM,.rows 2 ai aM,.cells 188 [.d aM,.row 10,.row 11,.d aM,.d eY,.d eY,.d eY],.rows 2 ai aM,.rows 50 ai (.sl aM)]⟩,[]⟩)),(84,(.j ⟨[16],[3,4,5,6,7,9,14,15,154],⟨Nq,ak8⟩,[]⟩)),(95,(.j ⟨[],[4,5,6,7,9,14],⟨Mi,ag5⟩,[]⟩)),(96,(.j ⟨[],[3,4,5,6,7,9,14,183],⟨Mk,[.cells 110 [.d uK],.cells 105 Ta,.cells 154 [.d gj],.cells 105 vX,.cells 52 uU,.cells 52 [.d jt],.cells 188 K2,.rows 2 ai aM,.rows 2 ai aM,.cells 188 [.d aM,.d (.sl aM),.d kG,.d aM,.d eY,.d eY,.d eY]]⟩,[]⟩)),(102,(.s 5 0 0 1)),(104,(.a [.pk 4 6 eY]))]⟩
def RY:cu:=cn dE mO
def Gl:FT:=⟨⟨[.d vY],[]⟩,⟨ag2,[.rows 167 ai ef,.rows 4 ai .bool,.rows 169 ai ie,.rows 2 ai aM,.rows 2 ai aM,.cells 188 [.d eY,.d aM,.row 6,.row 7,.d aM,.d eY,.d eY],.rows 2 ai aM,.rows 50 ai (.sl aM)]⟩,dU [(8,(.u 5))]⟩
def R8:cu:=cn Gl mR
def Ga:FT:=⟨⟨Mg,[]⟩,⟨Mh,[]⟩,dU [(27,(.s 5 0 1 1)),(37,(.j ⟨[],[3,4,5,6,7,9,14,15,16],⟨Ml,ak7⟩,[]⟩)),(38,(.j ⟨[16,77],[3,4,5,6,7,9,14,15,78],⟨Nq,ak7⟩,[]⟩)),(83,(.j ⟨[16],[3,4,5,6,7,9,14],⟨Mj,[.cells 110 [.d uK],.cells 105 Ta,.cells 154 [.d gj],.cells 105 vX,.cells 52 uU,.cells 52 [.d jt],.cells 188 K0,.rows 2 ai aM,.rows 2 ai aM,.cells 188 [.d eY,.d aM,.row 10,.row 11,.d aM,.d eY,.d eY],.rows 2 ai aM,.rows 50 ai (.sl aM)]⟩,[]⟩)),(84,(.j ⟨[16],[3,4,5,6,7,9,14,15,154],⟨Nq,ak7⟩,[]⟩)),(95,(.j ⟨[],[4,5,6,7,9,14],⟨Mi,ag5⟩,[]⟩)),(96,(.j ⟨[],[3,4,5,6,7,9,14,183],⟨Mk,[.cells 110 [.d uK],.cells 105 Ta,.cells 154 [.d gj],.cells 105 vX,.cells 52 uU,.cells 52 [.d jt],.cells 188 K2,.rows 2 ai aM,.rows 2 ai aM,.cells 188 [.d eY,.d aM,.d (.sl aM),.d kG,.d aM,.d eY,.d eY]]⟩,[]⟩)),(102,(.s 5 0 1 1)),(104,(.a [.pk 4 6 eY]))]⟩
def RX:cu:=cn Ga mN
def Gk:FT:=⟨⟨[.d vY],[]⟩,⟨ag2,[.rows 167 ai ef,.rows 4 ai .bool,.rows 169 ai ie,.rows 2 ai aM,.rows 2 ai aM,.cells 188 [.d eY,.d eY,.d aM,.row 6,.row 7,.d aM,.d eY],.rows 2 ai aM,.rows 50 ai (.sl aM)]⟩,dU [(8,(.u 5))]⟩
def R7:cu:=cn Gk mQ
def F':FT:=⟨⟨Mg,[]⟩,⟨Mh,[]⟩,dU [(27,(.s 5 0 2 1)),(37,(.j ⟨[],[3,4,5,6,7,9,14,15,16],⟨Ml,ak6⟩,[]⟩)),(38,(.j ⟨[16,77],[3,4,5,6,7,9,14,15,78],⟨Nq,ak6⟩,[]⟩)),(83,(.j ⟨[16],[3,4,5,6,7,9,14],⟨Mj,[.cells 110 [.d uK],.cells 105 Ta,.cells 154 [.d gj],.cells 105 vX,.cells 52 uU,.cells 52 [.d jt],.cells 188 K0,.rows 2 ai aM,.rows 2 ai aM,.cells 188 [.d eY,.d eY,.d aM,.row 10,.row 11,.d aM,.d eY],.rows 2 ai aM,.rows 50 ai (.sl aM)]⟩,[]⟩)),(84,(.j ⟨[16],[3,4,5,6,7,9,14,15,154],⟨Nq,ak6⟩,[]⟩)),(95,(.j ⟨[],[4,5,6,7,9,14],⟨Mi,ag5⟩,[]⟩)),(96,(.j ⟨[],[3,4,5,6,7,9,14,183],⟨Mk,[.cells 110 [.d uK],.cells 105 Ta,.cells 154 [.d gj],.cells 105 vX,.cells 52 uU,.cells 52 [.d jt],.cells 188 K2,.rows 2 ai aM,.rows 2 ai aM,.cells 188 [.d eY,.d eY,.d aM,.d (.sl aM),.d kG,.d aM,.d eY]]⟩,[]⟩)),(102,(.s 5 0 2 1)),(104,(.a [.pk 4 6 eY]))]⟩
def RW:cu:=cn F' ll
def Gj:FT:=⟨⟨[.d vY],[]⟩,⟨ag2,[.rows 167 ai ef,.rows 4 ai .bool,.rows 169 ai ie,.rows 2 ai aM,.rows 2 ai aM,.cells 188 [.d eY,.d eY,.d eY,.d aM,.row 6,.row 7,.d aM],.rows 2 ai aM,.rows 50 ai (.sl aM)]⟩,dU [(8,(.u 5))]⟩
def R6:cu:=cn Gj mP
def F_:FT:=⟨⟨Mg,[]⟩,⟨Mh,[]⟩,dU [(27,(.s 5 0 3 1)),(37,(.j ⟨[],[3,4,5,6,7,9,14,15,16],⟨Ml,ak5⟩,[]⟩)),(38,(.j ⟨[16,77],[3,4,5,6,7,9,14,15,78],⟨Nq,ak5⟩,[]⟩)),(83,(.j ⟨[16],[3,4,5,6,7,9,14],⟨Mj,[.cells 110 [.d uK],.cells 105 Ta,.cells 154 [.d gj],.cells 105 vX,.cells 52 uU,.cells 52 [.d jt],.cells 188 K0,.rows 2 ai aM,.rows 2 ai aM,.cells 188 [.d eY,.d eY,.d eY,.d aM,.row 10,.row 11,.d aM],.rows 2 ai aM,.rows 50 ai (.sl aM)]⟩,[]⟩)),(84,(.j ⟨[16],[3,4,5,6,7,9,14,15,154],⟨Nq,ak5⟩,[]⟩)),(95,(.j ⟨[],[4,5,6,7,9,14],⟨Mi,ag5⟩,[]⟩)),(96,(.j ⟨[],[3,4,5,6,7,9,14,183],⟨Mk,[.cells 110 [.d uK],.cells 105 Ta,.cells 154 [.d gj],.cells 105 vX,.cells 52 uU,.cells 52 [.d jt],.cells 188 K2,.rows 2 ai aM,.rows 2 ai aM,.cells 188 [.d eY,.d eY,.d eY,.d aM,.d (.sl aM),.d kG,.d aM]]⟩,[]⟩)),(102,(.s 5 0 3 1)),(104,(.a [.pk 4 6 eY]))]⟩
def RU:cu:=cn F_ ki
def Yy:cu:=cn dE Al
def M0:FT:=⟨⟨[.d uK,.d vY,.nil,.d (.sl gj)],[]⟩,⟨[.d (.sl jt),.d vY],[]⟩,dU [(1,(.a [.nil 2 52 jt])),(6,(.j ⟨[3],[2,4,5,9,10],⟨[.row 0,.ptr 1 0,.ptr 2 0,.ptr 3 0,.d aM],ajv⟩,[]⟩)),(8,(.j ⟨[3,10],[2,4,5,9,22],⟨[.row 0,.ptr 1 0,.ptr 2 0,.ptr 3 0,.d .bool],ajv⟩,[]⟩)),(14,(.j ⟨[3,10],[2,4,5,9],⟨[.row 0,.ptr 1 0,.ptr 2 0,.ptr 3 0],ajv⟩,[]⟩))]⟩
def Yw:cu:=cn M0 wv
def RC:FT:=⟨⟨[.d uK,.d (.sl gj)],[]⟩,⟨[.d ny,.d vY],[]⟩,.leaf⟩
def abf:cu:=cn RC ze
def yB:FT:=⟨⟨vV,S9⟩,⟨[.d aM],S9⟩,dU [(3,(.j ⟨[1],[0,18],⟨ig,Zb⟩,[]⟩))]⟩
def Hq:cu:=cn yB bx
def M8:FT:=⟨⟨[.d aM],[]⟩,⟨[.d .ex],[]⟩,.leaf⟩
def YH:cu:=cn M8 rx
def J6:FT:=⟨⟨[.d .str],[]⟩,⟨[.d .ex],[]⟩,.leaf⟩
def Vs:cu:=cn J6 pt
def DC:FT:=⟨⟨[.d aM,.d .ex,.d .ex],[]⟩,⟨[.d .ex],[]⟩,.leaf⟩
def Ph:cu:=cn DC nN
def DE:FT:=⟨⟨[.d .str,.d .ex],[]⟩,⟨[.d .sm],[]⟩,.leaf⟩
def Pj:cu:=cn DE jr
def GJ:FT:=⟨⟨[],[]⟩,⟨[.d (.sl G1)],[]⟩,.leaf⟩
def St:cu:=cn GJ sr
def Bm:FT:=⟨⟨[.d D5],[]⟩,⟨[.d (.sl gj)],[]⟩,dU [(8,(.j ⟨[0],[3,4],⟨[.row 0,.d aM],[.rows 154 ai gj]⟩,[.nil 3 154 gj]⟩))]⟩
def Ma:cu:=cn Bm oL
def n_:FT:=⟨⟨vV,V7⟩,⟨[.d .ex],V7⟩,dU [(8,(.j ⟨[1,6],[0,4,5,14],⟨[.ptr 0 0,.ptr 3 0,.row 4,.d .bool],[.cells 205 ahq,.cells 89 [.d yQ],.rowsP 9 .str,.cells 209 [.d aM,.d aM,.d .str,.nil],.rows 9 aj .str]⟩,[]⟩))]⟩
def Fn:cu:=cn n_ fg
def EH (n:Nat):cu:=cn n_ (iw n)
def vA:FT:=⟨⟨[.ptr 0 0,.d .str],V7⟩,⟨[.d .bool],V7⟩,.leaf⟩
def DR:cu:=cn vA eS
def mC:FT:=⟨⟨Tb,V7⟩,⟨[.row 4],[.cells 205 ajt,.cells 89 PH,.gone,.rowsP 9 .str,.rows 211 ai .sm]⟩,dU [(1,(.a [.ren 0 7])),(8,(.j ⟨[1,2],[0,7,8],⟨[.ptr 0 0,.row 3,.d aM],an6⟩,[.nil 7 211 .sm]⟩)),(10,(.j ⟨[1,2,8],[0,7,22],⟨[.ptr 0 0,.row 3,.d .bool],an6⟩,[]⟩)),(21,(.a [.nil 6 211 .sm]))]⟩
def DQ:cu:=cn mC qr
def CX (n:Nat):cu:=cn mC (dH n)
def rJ:FT:=⟨⟨vV,V7⟩,⟨[.d .sm],[.cells 205 ajt,.cells 89 PH,.gone,.rowsP 9 .str]⟩,dU [(1,(.a [.ren 0 7])),(6,(.j ⟨[1,5],[0,4,6],⟨KZ,La2⟩,[]⟩)),(28,(.j ⟨[1,5,6],[0,4,74],⟨KZ,La2⟩,[]⟩)),(33,(.j ⟨[],[4,7],⟨[.ptr 3 0,.ptr 4 0],[.cells 205 [.ptr 1 0,.d aM,.d aM,.d .bool,.d .bool,.d .bool,.d .bool,.row 5],.cells 89 [.d yQ],.gone,.cells 211 aht,.cells 211 [.d aM,.d aM,.d .str,.d .str,.nil,.d aM,.d aM,.d .str,.d (.sl .ex),.row 6,.row 7],.rowsP 9 .str,.rows 211 ai .sm,.rows 211 ai .sm]⟩,[.cel 7 10 211 .sm]⟩)),(42,(.j ⟨[1,5,6],[0,4,100],⟨KZ,La2⟩,[]⟩)),(56,(.j ⟨[1,5,6],[0,4,133],⟨KZ,La2⟩,[]⟩)),(64,(.j ⟨[1,5,6],[0,4,165],⟨KZ,La2⟩,[]⟩)),(70,(.j ⟨[1,5,6],[0,4,188],⟨KZ,La2⟩,[]⟩)),(82,(.j ⟨[1,5,6],[0,4,210],⟨KZ,La2⟩,[]⟩)),(94,(.j ⟨[5,6],[0,4,235],⟨KZ,La2⟩,[]⟩)),(100,(.j ⟨[5],[0,4,258],⟨KZ,La2⟩,[]⟩)),(106,(.j ⟨[5],[0,4,278],⟨KZ,La2⟩,[]⟩)),(114,(.j ⟨[],[0,4,308],⟨KZ,La2⟩,[]⟩))]⟩
def EG (n:Nat):cu:=cn rJ (eL n)
def qI:FT:=⟨⟨[.ptr 0 0,.d .str,.d aM],V7⟩,⟨[.d (.sl .sm)],[.cells 205 ajt,.cells 89 PH,.gone,.rowsP 9 .str]⟩,.leaf⟩
def CY (n:Nat):cu:=cn qI (dZ n)
def Bl:FT:=⟨⟨[.d D5],[]⟩,⟨[.d Nr],[]⟩,dU [(5,(.a [.cel 3 7 9 .str])),(14,(.j ⟨[5],[2,3,4,6,7],⟨[.ptr 0 0,.ptr 1 0,.ptr 2 0,.row 3,.d aM],[.cells 151 [.nil,.nil],.cells 205 [.ptr 4 0,.d aM,.d aM,.d .bool,.d .bool,.d .bool,.d .bool,.row 5],.cells 151 [.d (.sl G1),.row 6],.rows 9 aj .str,.cells 89 [.d yQ],.rowsP 9 .str,.rows 195 ai sZ]⟩,[.cel 4 1 195 sZ]⟩)),(27,(.j ⟨[5,7],[2,3,4,6,8],⟨[.ptr 0 0,.ptr 1 0,.ptr 2 0,.row 3,.ptr 4 0],La7⟩,[.cel 8 3 211 .sm]⟩)),(34,(.j ⟨[5,7],[2,3,4,6,8,9],⟨[.ptr 0 0,.ptr 1 0,.ptr 2 0,.row 3,.ptr 4 0,.d aM],La7⟩,[.cel 8 3 211 .sm]⟩)),(48,(.j ⟨[5,7],[2,3,4,6,8],⟨[.ptr 0 0,.ptr 1 0,.ptr 2 0,.row 3,.ptr 4 0],La7⟩,[]⟩)),(49,(.j ⟨[5,7],[2,3,4,6,8,79],⟨[.ptr 0 0,.ptr 1 0,.ptr 2 0,.row 3,.ptr 4 0,.d .bool],La7⟩,[]⟩))]⟩
def L_:cu:=cn Bl oK
def J7:FT:=⟨⟨[.d D5],[]⟩,⟨[.d uK],[]⟩,.leaf⟩
def Vt:cu:=cn J7 xw
def GM:FT:=⟨⟨[.d D5,.d D5],[]⟩,⟨[.d ny],[]⟩,.leaf⟩
def Su:cu:=cn GM su
def Do:FT:=⟨⟨[],[]⟩,⟨[.d nD],[]⟩,dU [(8,(.j ⟨[21],[0,1,22],⟨vW,ag4⟩,[.cel 1 5 127 oR]⟩)),(22,(.j ⟨[2,21,22],[0,1,3],⟨vW,ag4⟩,[]⟩))]⟩
def O0:cu:=cn Do nG
def zG:FT:=⟨⟨[.d iT],[]⟩,⟨qK,[]⟩,dU [(8,(.j ⟨[8,9],[3,10],⟨[.row 0,.d aM],[.rows 3 ai aM]⟩,[.nil 3 3 aM]⟩)),(16,(.j ⟨[8,9,10],[3],⟨[.row 0],[.rows 3 ai aM]⟩,[]⟩))]⟩
def Ki:cu:=cn zG kY
def Dm:FT:=⟨⟨[],[]⟩,⟨qK,[]⟩,.leaf⟩
def OY:cu:=cn Dm tG
def Ba:FT:=⟨⟨Tb,S9⟩,⟨[.d aM],S9⟩,dU [(6,(.j ⟨[2,7],[0,8],⟨ig,Zb⟩,[]⟩)),(16,(.j ⟨[2,7],[0,16],⟨ig,Zb⟩,[]⟩)),(26,(.j ⟨[2,7],[0,21],⟨ig,Zb⟩,[]⟩)),(44,(.j ⟨[2,7],[0,26],⟨ig,Zb⟩,[]⟩)),(70,(.j ⟨[2],[0,33],⟨ig,Zb⟩,[]⟩))]⟩
def LV:cu:=cn Ba oH
def Dl:FT:=⟨⟨[.ptr 0 0,.d iT,.d aM,.d aM],S9⟩,⟨[.d aM],S9⟩,dU [(18,(.j ⟨[10],[0,5,24],⟨rN,[.cells 89 [.d yQ],.cells 97 [.d iT]]⟩,[]⟩))]⟩
def OX:cu:=cn Dl qh
def F7:FT:=⟨⟨[.ptr 0 0,.row 1],[.cells 89 PH,.rows 3 ai aM]⟩,⟨qK,[.cells 89 PH,.rows 3 ai aM]⟩,dU [(8,(.j ⟨[9],[0,1,5,8,10],⟨[.ptr 0 0,.row 1,.row 2,.row 1,.d aM],ajo⟩,[.nil 5 3 aM]⟩)),(16,(.j ⟨[9,10],[0,1,5,8],⟨[.ptr 0 0,.row 1,.row 2,.row 1],ajo⟩,[]⟩)),(19,(.j ⟨[7,9,10],[0,1,5,8,24],⟨[.ptr 0 0,.row 1,.row 2,.row 1,.d .bool],ajo⟩,[]⟩))]⟩
def RO:cu:=cn F7 gB
def Dn:FT:=⟨⟨[.ptr 0 0,.d iT,.d nD,.csl 1 1 4],an4⟩,⟨[.d jt],an4⟩,dU [(8,(.j ⟨[9],[0,3,5,6,8,11],⟨[.ptr 0 0,.csl 1 1 4,.ptr 6 0,.ptr 7 0,.ptr 8 0,.ptr 9 0],ana⟩,[]⟩)),(9,(.j ⟨[9],[0,3,5,6,8,11,36],⟨[.ptr 0 0,.csl 1 1 4,.ptr 6 0,.ptr 7 0,.ptr 8 0,.ptr 9 0,.d .bool],ana⟩,[]⟩)),(18,(.j ⟨[9],[0,3,8,11],⟨[.ptr 0 0,.csl 1 1 4,.ptr 6 0,.ptr 7 0],anb⟩,[]⟩)),(19,(.j ⟨[9],[0,3,8,11,74],⟨[.ptr 0 0,.csl 1 1 4,.ptr 6 0,.ptr 7 0,.d .bool],[.cells 89 [.d yQ],.cells 50 acl,.rows 3 ai aM,.rows 3 ai aM,.rows 3 ai aM,.rows 3 ai aM,.cells 52 uU,.cells 52 uU]⟩,[]⟩)),(22,(.s 9 0 0 4)),(24,(.j ⟨[],[8,11],⟨[.ptr 6 0,.ptr 7 0],[.cells 89 [.d yQ],.cells 50 acl,.rows 3 ai aM,.rows 3 ai aM,.rows 3 ai aM,.rows 3 ai aM,.cells 52 uU,.cells 52 [.d aM,.d aM,.d aM,.d aM,.d aM,.d (.sl aM),.d (.sl aM)]]⟩,[]⟩)),(25,(.j ⟨[9],[0,3,8,11,89],⟨[.ptr 0 0,.csl 1 1 4,.ptr 6 0,.ptr 7 0,.d .bool],anb⟩,[]⟩)),(28,(.s 9 0 0 4))]⟩
def OZ:cu:=cn Dn qi
def F8:FT:=⟨⟨[.ptr 0 0,.d iT,.d nD,.d aM,.d .bool],S9⟩,⟨[.d (.sl jt)],S9⟩,dU [(8,(.a [.cel 12 0 3 aM,.cel 12 1 3 aM,.cel 12 2 3 aM,.cel 12 3 3 aM])),(9,(.j ⟨[3,11],[0,6,7,12],⟨[.ptr 0 0,.ptr 1 0,.ptr 2 0,.csl 3 1 4],ak1⟩,[]⟩)),(10,(.u 5)),(18,(.j ⟨[3,4,11,22,23],[0,6,7,12],⟨[.ptr 0 0,.ptr 1 0,.ptr 2 0,.csl 3 1 4],ak1⟩,[]⟩)),(21,(.j ⟨[3,4,11,13,22,23],[0,6,7,12,39],⟨[.ptr 0 0,.ptr 1 0,.ptr 2 0,.csl 3 1 4,.d .bool],ak1⟩,[]⟩)),(29,(.j ⟨[3],[0,6,7,11,12],⟨[.ptr 0 0,.ptr 1 0,.ptr 2 0,.row 3,.csl 4 1 4],ak2⟩,[.nil 11 52 jt]⟩)),(31,(.j ⟨[3],[0,6,7,11,12,65],⟨[.ptr 0 0,.ptr 1 0,.ptr 2 0,.row 3,.csl 4 1 4,.d .bool],ak2⟩,[]⟩)),(36,(.j ⟨[3],[0,6,7,11,12],⟨[.ptr 0 0,.ptr 1 0,.ptr 2 0,.row 3,.csl 4 1 4],ak2⟩,[]⟩)),(47,(.j ⟨[3],[0,6,7,11,12,14,15],⟨[.ptr 0 0,.ptr 1 0,.ptr 2 0,.row 3,.csl 4 1 4,.ptr 5 0,.ptr 6 0],anc⟩,[]⟩)),(48,(.j ⟨[3],[0,6,7,11,12,14,15,87],⟨[.ptr 0 0,.ptr 1 0,.ptr 2 0,.row 3,.csl 4 1 4,.ptr 5 0,.ptr 6 0,.d .bool],anc⟩,[]⟩)),(51,(.s 14 0 0 4))]⟩
def RP:cu:=cn F8 sj
def Dp:FT:=⟨⟨PH,[]⟩,⟨[.d ny],[]⟩,dU [(2,(.j ⟨[1],[0,4],⟨[.d D5,.ptr 0 0],[.cells 34 acm]⟩,[]⟩)),(22,(.j ⟨[1,9],[4,5,6,7,8,10],⟨[.ptr 0 0,.ptr 1 0,.ptr 2 0,.ptr 3 0,.row 4,.d aM],[.cells 34 acm,.cells 89 [.d yQ],.cells 34 [.d (.sl kB),.d (.sl rP),.d (.sl mb),.d (.sl .str),.d (.sl .str),.d (.sl oR),.nil],.cells 97 [.d iT],.rows 52 aj jt]⟩,[]⟩)),(37,(.j ⟨[1,48],[4,5,6,7,47,49],⟨[.ptr 0 0,.ptr 1 0,.ptr 2 0,.ptr 3 0,.row 4,.d aM],and⟩,[.cel 6 6 52 jt]⟩)),(45,(.j ⟨[1,48,49],[4,5,6,7,47],⟨[.ptr 0 0,.ptr 1 0,.ptr 2 0,.ptr 3 0,.row 4],and⟩,[]⟩))]⟩
def O1:cu:=cn Dp qj
def wQ:FT:=⟨⟨[.d (.st (.pr D5 (.pr D5 D5))),.d aM],[]⟩,⟨[.d ny],[]⟩,.leaf⟩
def Fh:cu:=cn wQ kZ
theorem LI:aI Pg 167 L4:=mk Bg kx an b9
theorem I_:aI Pg 142 Ko:=mk zI jJ (ac LI an) b9
theorem FX:aI Pg 141 Sn:=mk GF lq an b9
theorem UL:aI Pg 168 Vo:=mk J5 rq an b9
theorem UK:aI Pg 143 Vn:=mk J4 pq (ac FX (ac UL an)) b9
theorem sA:aI Pg 113 So:=mk GG fh (ac FX (ac I_ (ac UK an))) b9
theorem I9:aI Pg 220 Vf:=mk JZ fY an b9
theorem UD:aI Pg 204 Vg:=mk J0 uk (ac I9 an) b9
theorem Rc:aI Pg 206 Sj:=mk Gy sq (ac I9 an) b9
theorem UE:aI Pg 203 Vh:=mk J1 rm an b9
theorem LH:aI Pg 227 L3:=mk Bf mi an b9
theorem wH:∀ n:Nat,aI Pg 221 (G' n)
 |0=>QF o_
 |n+1=>mk o_ (l8 (ib n)) (ac sA (ac (wH n) (ac LH an))) b9
theorem yg:aI Pg 221 Hm:=(wH fuel)
theorem UJ:aI Pg 222 Vm:=mk J3 po an b9
theorem rE:∀ n:Nat,aI Pg 207 (G_ n)/\aI Pg 177 (EE n)
 |0=>⟨QF sY,QF nZ⟩
 |n+1=>⟨mk sY (kg (eH n) (dF n)) (ac sA (ac (rE n).2 (ac yg (ac UJ an)))) b9,mk nZ (jB (eH n) (dF n)) (ac (rE n).1 an) b9⟩
theorem EW:aI Pg 177 Fk:=(rE fuel).2
theorem Hc:aI Pg 176 Hl:=mk yr j_ (ac sA an) b9
theorem Re:aI Pg 150 Sm:=mk GD pJ (ac sA (ac Hc (ac EW an))) b9
theorem vo:aI Pg 114 af6:=mk Xd jb an b9
theorem vn:aI Pg 178 Sl:=mk GA ia an b9
theorem vO:aI Pg 179 L2:=mk Be gQ an b9
theorem Rd:aI Pg 223 Sk:=mk Gz pI (ac vo (ac vn (ac vO an))) b9
theorem MM:aI Pg 210 YD:=mk M6 gD (ac Rd an) b9
theorem F0:∀ n:Nat,aI Pg 224 (Um n)
 |0=>QF xR
 |n+1=>mk xR (ux (ng n)) (ac (F0 n) an) b9
theorem UH:aI Pg 224 Vk:=(F0 fuel)
theorem FZ:∀ n:Nat,aI Pg 225 (Ul n)
 |0=>QF xQ
 |n+1=>mk xQ (uw (ne n)) (ac MM (ac (FZ n) an)) b9
theorem UF:aI Pg 225 Vi:=(FZ fuel)
theorem Yb:aI Pg 211 YE:=mk M7 mh (ac yg (ac UH (ac UF an))) b9
theorem OE:aI Pg 212 Pa:=mk Dz cZ an b9
theorem aej:aI Pg 209 af5:=mk Xc ja an b9
theorem EU:aI Pg 208 Fj:=mk wS dX an b9
theorem LF:aI Pg 180 LZ:=mk Bd mg (ac vo (ac vn (ac vO (ac EU (ac aej (ac MM (ac Yb (ac OE an)))))))) b9
theorem zo:∀ n:Nat,aI Pg 154 (Ly n)
 |0=>QF r7
 |n+1=>mk r7 (mm (iH n)) (ac (zo n) (ac LF an)) b9
theorem LG:aI Pg 154 L1:=(zo fuel)
theorem F1:∀ n:Nat,aI Pg 153 (Un n)
 |0=>QF xS
 |n+1=>mk xS (uy (nh n)) (ac (F1 n) an) b9
theorem UI:aI Pg 153 Vl:=(F1 fuel)
theorem UG:aI Pg 151 Vj:=mk J2 rn (ac vn an) b9
theorem OD:aI Pg 152 O_:=mk Dy nL (ac vo (ac vn (ac vO an))) b9
theorem xB:aI Pg 117 Pb:=mk DA fo (ac Re (ac UG (ac OD (ac UI (ac LG an))))) b9
theorem FY:∀ n:Nat,aI Pg 156 (Uk n)
 |0=>QF xP
 |n+1=>mk xP (xD (py n)) (ac (FY n) an) b9
theorem Uy:aI Pg 156 U':=(FY fuel)
theorem FR:aI Pg 155 Sg:=mk Gv km an b9
theorem FW:aI Pg 213 Si:=mk Gx lm an b9
theorem UC:aI Pg 118 Vd:=mk JX uj (ac xB (ac FR (ac Uy an))) b9
theorem Uz:aI Pg 112 Va:=mk JU pm an b9
theorem yf:aI Pg 77 Hk:=mk yq h_ (ac Uz (ac sA (ac vo an))) b9
theorem uu:aI Pg 121 Kn:=mk zH jI an b9
theorem FU:aI Pg 170 Sh:=mk Gw pH an b9
theorem UA:aI Pg 145 Vb:=mk JV pn (ac FU an) b9
theorem OA:aI Pg 146 af4:=mk Xb jq an b9
theorem UB:aI Pg 169 Vc:=mk JW m6 (ac OA an) b9
theorem Oz:aI Pg 144 O7:=mk Dv lB (ac OA (ac UB an)) b9
theorem ES:aI Pg 115 Fi:=mk wR iu (ac uu (ac Oz (ac UA (ac OA an)))) b9
theorem B4:aI Pg 79 Ve:=mk JY jH (ac yf (ac ES an)) b9
theorem nU:aI Pg 120 O8:=mk Dw cA an b9
theorem yi:∀ n:Nat,aI Pg 185 (IR n)
 |0=>QF qF
 |n+1=>mk qF (qz (iM n)) (ac vo (ac nU (ac (yi n) (ac FW an)))) b9
theorem ut:aI Pg 185 Kl:=(yi fuel)
theorem Hb:aI Pg 181 Hj:=mk yp lV (ac vo (ac nU (ac ut (ac FW an)))) b9
theorem LD:aI Pg 184 LY:=mk Bc jv an b9
theorem kf:∀ n:Nat,aI Pg 119 (IU n)/\aI Pg 157 (Lx n)/\aI Pg 182 (CW n)/\aI Pg 183 (G9 n)
 |0=>⟨QF qG,QF vR,QF qH,QF sX⟩
 |n+1=>⟨mk qG (qA (dM n) (eT n) (c7 n) (dG n)) (ac (kf n).2.1 an) b9,mk vR (rY (dM n) (eT n) (c7 n) (dG n)) (ac vo (ac nU (ac FR (ac Hb (ac (kf n).2.2.1 (ac (kf n).2.2.2 (ac LD (ac ut an)))))))) b9,mk qH (my (dM n) (eT n) (c7 n) (dG n)) (ac (kf n).1 (ac nU (ac ut an))) b9,mk sX (o7 (dM n) (eT n) (c7 n) (dG n)) (ac (kf n).1 (ac nU an)) b9⟩
theorem I8:aI Pg 119 Km:=(kf fuel).1
theorem OC:aI Pg 82 O9:=mk Dx qp (ac xB (ac UC (ac I8 (ac nU (ac uu an))))) b9
theorem I7:aI Pg 103 abh:=mk RE qn an b9
theorem aav:aI Pg 139 abg:=mk RD wz an b9
theorem I6:aI Pg 106 U_:=mk JS rk (ac aav an) b9
theorem LC:aI Pg 205 LX:=mk Bb mf an b9
theorem lh:aI Pg 174 YC:=mk M5 cg an b9
theorem Ya:aI Pg 175 YB:=mk M4 wy (ac I6 (ac uu (ac UD (ac LC (ac Rc an))))) b9
theorem jx:aI Pg 149 Sf:=mk Gu mZ (ac FU (ac lh (ac Ya an))) b9
theorem I5:aI Pg 69 U8:=mk JQ ri an b9
theorem ER:aI Pg 100 Yz:=mk M2 rj an b9
theorem WR:aI Pg 101 af3:=mk Xa qm an b9
theorem Ux:aI Pg 102 U7:=mk JP uh (ac WR an) b9
theorem C5:aI Pg 72 O6:=mk Du kl (ac ER (ac WR (ac Ux (ac I7 an)))) b9
theorem Oy:aI Pg 104 O5:=mk Dt nK an b9
theorem Ox:aI Pg 107 O4:=mk Ds ql an b9
theorem k_:aI Pg 105 YA:=mk M3 ir an b9
theorem LB:aI Pg 104 LW:=mk mn me an b9
theorem I4:aI Pg 104 Kk:= @aI.ro Pg 104 mn.pre mn.post.vs me jG (LB.holds rfl) rfl (λx _ h=>by rw[show jG x=obind (me x) λy=>same y.2 x.2 (af y.1) from rfl] at h;exact h)
theorem jM:aI Pg 75 U9:=mk JR pl (ac C5 (ac I7 (ac I4 (ac k_ (ac I6 (ac Ox an)))))) b9
theorem Uw:aI Pg 81 U6:=mk JO ug (ac I5 (ac B4 an)) b9
theorem X_:aI Pg 171 Yx:=mk M1 ww (ac B4 (ac ER an)) b9
theorem X8:aI Pg 172 Yv:=mk MZ wu an b9
theorem QP:aI Pg 173 RQ:=mk F9 sk (ac UE an) b9
theorem iG:aI Pg 147 O3:=mk Dr nJ (ac X_ (ac X8 (ac QP an))) b9
theorem I3:aI Pg 43 U4:=mk JM mM (ac I5 an) b9
theorem X7:aI Pg 70 Yu:=mk MY wq (ac ER an) b9
theorem aei:aI Pg 71 af2:=mk W_ CP an b9
theorem Ow:aI Pg 73 O2:=mk Dq nI an b9
theorem Ut:aI Pg 74 U2:=mk JK ue (ac I7 (ac Oy an)) b9
theorem EQ:aI Pg 45 Yt:=mk MX rh (ac X7 (ac aei (ac C5 (ac Ow (ac Ut (ac jM an)))))) b9
theorem Uu:aI Pg 78 U3:=mk JL rf an b9
theorem Uv:aI Pg 47 U5:=mk JN uf (ac I3 (ac EQ (ac yf (ac Uu an)))) b9
def Mp (t:TypeId):Option Ty:=if aC t 188 then af (.pr .un eY) else b9 t
theorem Rb:aI Pg 148 Se:=mk Gt mY (ac k_ (ac lh an)) Mp
theorem Q1:aI Pg 116 R5:=mk Gi gd (ac jM (ac iG (ac Rb (ac jx an)))) Mp
theorem Ra:aI Pg 148 Sd:=mk Gs mX (ac k_ (ac lh an)) Mp
theorem Q0:aI Pg 116 R4:=mk Gh gC (ac jM (ac iG (ac Ra (ac jx an)))) Mp
theorem Q_:aI Pg 148 Sc:=mk Gr mW (ac k_ (ac lh an)) Mp
theorem QZ:aI Pg 116 R3:=mk Gg f_ (ac jM (ac iG (ac Q_ (ac jx an)))) Mp
theorem Q9:aI Pg 148 Sb:=mk Gq mV (ac k_ (ac lh an)) Mp
theorem QY:aI Pg 116 R2:=mk Gf ju (ac jM (ac iG (ac Q9 (ac jx an)))) Mp
theorem Q7:aI Pg 148 Sa:=mk Gp mU (ac k_ (ac lh an)) Mp
theorem QX:aI Pg 116 R1:=mk Ge iK (ac jM (ac iG (ac Q7 (ac jx an)))) Mp
theorem Q6:aI Pg 148 R_:=mk Gn mT (ac k_ (ac lh an)) Mp
theorem QW:aI Pg 116 RZ:=mk Gb hZ (ac jM (ac iG (ac Q6 (ac jx an)))) Mp
theorem Q5:aI Pg 148 R9:=mk Gm mS (ac k_ (ac lh an)) Mp
theorem QV:aI Pg 116 RY:=mk dE mO (ac jM (ac iG (ac Q5 (ac jx an)))) Mp
theorem Q4:aI Pg 148 R8:=mk Gl mR (ac k_ (ac lh an)) Mp
theorem QU:aI Pg 116 RX:=mk Ga mN (ac jM (ac iG (ac Q4 (ac jx an)))) Mp
theorem Q3:aI Pg 148 R7:=mk Gk mQ (ac k_ (ac lh an)) Mp
theorem QR:aI Pg 116 RW:=mk F' ll (ac jM (ac iG (ac Q3 (ac jx an)))) Mp
theorem Q2:aI Pg 148 R6:=mk Gj mP (ac k_ (ac lh an)) Mp
theorem QQ:aI Pg 116 RU:=mk F_ ki (ac jM (ac iG (ac Q2 (ac jx an)))) Mp
theorem X':aI Pg 116 Yy:=(aI.orE (pre:=dE.pre) (post:=dE.post) (m:=mO) (m':=(λx=>orE (mN x) ((λx=>orE (ll x) ((λx=>orE (ki x) ((λx=>orE (ju x) ((λx=>orE (iK x) ((λx=>orE (hZ x) ((λx=>orE (gC x) ((λx=>orE (f_ x) (gd x)) x)) x)) x)) x)) x)) x)) x))) rfl QV (aI.orE (pre:=dE.pre) (post:=dE.post) (m:=mN) (m':=(λx=>orE (ll x) ((λx=>orE (ki x) ((λx=>orE (ju x) ((λx=>orE (iK x) ((λx=>orE (hZ x) ((λx=>orE (gC x) ((λx=>orE (f_ x) (gd x)) x)) x)) x)) x)) x)) x))) rfl QU (aI.orE (pre:=dE.pre) (post:=dE.post) (m:=ll) (m':=(λx=>orE (ki x) ((λx=>orE (ju x) ((λx=>orE (iK x) ((λx=>orE (hZ x) ((λx=>orE (gC x) ((λx=>orE (f_ x) (gd x)) x)) x)) x)) x)) x))) rfl QR (aI.orE (pre:=dE.pre) (post:=dE.post) (m:=ki) (m':=(λx=>orE (ju x) ((λx=>orE (iK x) ((λx=>orE (hZ x) ((λx=>orE (gC x) ((λx=>orE (f_ x) (gd x)) x)) x)) x)) x))) rfl QQ (aI.orE (pre:=dE.pre) (post:=dE.post) (m:=ju) (m':=(λx=>orE (iK x) ((λx=>orE (hZ x) ((λx=>orE (gC x) ((λx=>orE (f_ x) (gd x)) x)) x)) x))) rfl QY (aI.orE (pre:=dE.pre) (post:=dE.post) (m:=iK) (m':=(λx=>orE (hZ x) ((λx=>orE (gC x) ((λx=>orE (f_ x) (gd x)) x)) x))) rfl QX (aI.orE (pre:=dE.pre) (post:=dE.post) (m:=hZ) (m':=(λx=>orE (gC x) ((λx=>orE (f_ x) (gd x)) x))) rfl QW (aI.orE (pre:=dE.pre) (post:=dE.post) (m:=gC) (m':=(λx=>orE (f_ x) (gd x))) rfl Q0 (aI.orE (pre:=dE.pre) (post:=dE.post) (m:=f_) (m':=gd) rfl QZ Q1)))))))))
theorem X9:aI Pg 80 Yw:=mk M0 wv (ac X' an) b9
theorem aau:aI Pg 48 abf:=mk RC ze (ac B4 (ac X9 (ac Uw an))) b9
theorem fH:aI Pg 44 Hq:=mk yB bx an b9
theorem EY:aI Pg 125 YH:=mk M8 rx an b9
theorem Jf:aI Pg 188 Vs:=mk J6 pt an b9
theorem C':aI Pg 187 Ph:=mk DC nN an b9
theorem Da:aI Pg 124 Pj:=mk DE jr an b9
theorem Rg:aI Pg 122 St:=mk GJ sr an b9
theorem LO:aI Pg 50 Ma:=mk Bm oL an b9
theorem vp:∀ n:Nat,aI Pg 186 (EH n)
 |0=>QF n_
 |n+1=>mk n_ (nW (iw n)) (ac fH (ac EY (ac (vp n) (ac C' (ac Jf an))))) b9
theorem EZ:aI Pg 186 Fn:=(vp fuel)
theorem C_:aI Pg 189 DR:=mk vA eS (ac vo an) b9
theorem jN:∀ n:Nat,aI Pg 123 (CX n)/\aI Pg 158 (EG n)/\aI Pg 190 (CY n)
 |0=>⟨QF mC,QF rJ,QF qI⟩
 |n+1=>⟨mk mC (mA (dH n) (eL n) (dZ n)) (ac (jN n).2.1 an) b9,mk rJ (nV (dH n) (eL n) (dZ n)) (ac fH (ac (jN n).1 (ac Da (ac EY (ac EZ (ac C' (ac Jf (ac C_ (ac (jN n).2.2 an))))))))) b9,mk qI (mB (dH n) (eL n) (dZ n)) (ac fH (ac (jN n).1 an)) b9⟩
theorem C9:aI Pg 123 DQ:=(jN fuel).1
theorem LN:aI Pg 83 L_:=mk Bl oK (ac fH (ac xB (ac Rg (ac C9 (ac Da (ac EY an)))))) b9
theorem UN:aI Pg 49 Vt:=mk J7 xw (ac OC (ac LN an)) b9
theorem Rh:aI Pg 22 Su:=mk GM su (ac aau (ac UN (ac LO an))) b9
theorem Ot:aI Pg 32 O0:=mk Do nG an b9
theorem I1:aI Pg 140 Ki:=mk zG kY an b9
theorem Oo:aI Pg 108 OY:=mk Dm tG an b9
theorem LA:aI Pg 109 LV:=mk Ba oH (ac fH an) b9
theorem On:aI Pg 110 OX:=mk Dl qh (ac fH (ac I1 an)) b9
theorem QN:aI Pg 111 RO:=mk F7 gB (ac fH an) b9
theorem Oq:aI Pg 76 OZ:=mk Dn qi (ac fH (ac Oo (ac LA (ac On (ac QN an))))) b9
def tv1 (t:TypeId):Option Ty:=if aC t 50 then af (.pr .un (.pr .un (.pr .un (.pr .un (.pr .un (.sl aM)))))) else b9 t
theorem QO:aI Pg 46 RP:=mk F8 sj (ac fH (ac EQ (ac Oq an))) tv1
theorem Ou:aI Pg 21 O1:=mk Dp qj (ac Ot (ac I3 (ac fH (ac EQ (ac QO (ac Uv an)))))) b9
theorem EO:aI Pg 8 Fh:=mk wQ kZ (ac Ou (ac Rh an)) b9
end
end Go.Proofs.YtgijlolllojpaaaGreatDoor.AI
